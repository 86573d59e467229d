/-
  Part 8 of the texts that prove this claim, merged.
-/
import Derived.Test.YthommhphcagokaaGreatDoorRows
import Derived.Test.YthommhphcagokaaGreatDoorTie
import Derived.Test.YthommhphcagokaaGreatDoorCards
import Derived.LaidMore
import Derived.OpenShut
import Derived.Stop.Joined
import Derived.ProofKit
import Derived.Test.YthommhphcagokaaGreatDoorPsFP7
set_option linter.all false
set_option maxRecDepth 40000
set_option maxHeartbeats 16000000
namespace Go.Proofs.YthommhphcagokaaGreatDoor
open Go Go.RowKit Cp Go.Proofs.Tryz
variable{e:DY}{day:Int}{l s:List Int}{nm:List UInt8}{i k m:Nat}
def S5(c:EF)(i:Nat):Bool:=decide (i=0)||(c.auth&&decide ((i:Int)-1<=c.path))
def WA(l:List EF)(an ha:List Int)(day:Int)(nm:List UInt8)(e:Int)(i:Nat)(c:EF):Bool:=
 if e=9 then !CE c
 else if e=14 then decide (i=0)&& !(c.names.any fun x=>decide (nm=x))
 else if e=13 then decide (day<c.from_)||decide (c.DC<=day)
 else if e=7 then !(ha.any fun x=>c.OV==x)
 else if e=11 then(match l[i+1]? with|none=>false|some d=>decide (¬c.Gk=d.FA))
 else if e=15 then !S5 c i
 else if e=10 then !PW c (match l[i+1]? with|none=>c.LY|some d=>d.Bm)
 else(match l[i+1]? with|none=> !(an.any fun x=>c.LY==x)|some _=>false)
def Zx(l:List EF)(an ha:List Int)(day:Int)(nm:List UInt8)(e:Int)(i:Nat):Bool:=match l[i]? with
 |none=>true
 |some c=> !WA l an ha day nm e i c
def WO(l:List EF)(an ha:List Int)(day:Int)(nm:List UInt8)(e:Int):Bool:= !allI (Zx l an ha day nm e) l.length
def Hw(q:Int->Bool):List Int->Int
 |[]=>0
 |e::r=>if q e=true then e else Hw q r
abbrev G9:List Int:=[9,14,13,7,11,15,10,12]
def Ig(l:List EF)(an ha:List Int)(day:Int)(nm:List UInt8):Int:=if l.length=0 then 4 else if 8<l.length then 3 else Hw (WO l an ha day nm) G9
section
variable{l:List EF}{an ha:List Int}{day:Int}{nm:List UInt8}{e:Int}{k:Nat}{c:EF}
theorem LQ(h:l[k]? =some c):Zx l an ha day nm e k= !WA l an ha day nm e k c:=by unfold Zx;rw[h]
theorem Nw(h:l[k]? =some c)(hw:WA l an ha day nm e k c=true):WO l an ha day nm e=true:=by
 unfold WO;rw[EW (p:=Zx l an ha day nm e) (k:=k) (A7 h) (by rw[LQ h,hw];rfl)];rfl
theorem Nx(h:∀j,j<l.length->Zx l an ha day nm e j=true):WO l an ha day nm e=false:=by
 unfold WO;rw[B0.2 h];rfl
theorem Ed{q:Int->Bool}{r:List Int}{e:Int}(h:r[m]? =some e):Hw q (r.drop m)=if q e=true then e else Hw q (r.drop (m+1)):=by
 have h1:=A7 h;rw[List.getElem?_eq_getElem h1]at h;cases h;rw[List.drop_eq_getElem_cons h1];rfl
theorem eD{p:EF->Bool}(h:∀i c,l[i]? =some c->WA l an ha day nm e i c=p c):WO l an ha day nm e=l.any p:=by
 cases je:l.any p with
 |true=>
  obtain⟨c,hc,hp⟩:=List.any_eq_true.1 je;obtain⟨i,hi⟩:=List.getElem?_of_mem hc;exact Nw hi (by rw[h i c hi,hp])
 |false=>
  refine Nx fun j hj=>?_;obtain⟨c,hc⟩:=at_ hj;rw[LQ hc,h j c hc];have:=List.any_eq_false.1 je c (List.mem_of_getElem? hc)
  simpa using this
end
theorem uH{l:List EF}{c:EF}(hc:l[i]? =some c):Aq prog 367 [G6 l,int ((i:Nat):Int)] (bool (S5 c i)):=by
 refine fo func367 rfl ⟨rfl,rfl⟩ fun M0 w0=>(Tr.Dr 0 rfl fun Dq=>?_);have FC:=A7 hc
 .exact jK
theorem uI{l:List EF}{c:EF}(hc:l[i]? =some c):Aq prog 228 [G6 l,int ((i:Nat):Int)] (bool (S5 c i)):=by
 refine fo func228 rfl ⟨rfl,rfl⟩ fun M0 w0=>(Tr.Dr 0 rfl fun Dq=>?_);have FC:=A7 hc
 .exact jK
theorem uJ{β:Type}{p:β->Bool}{l:List β}{x:β}(hx:l[k]? =some x)(hp:p x=true):l.any p=true:=List.any_eq_true.2 ⟨x,List.mem_of_getElem? hx,hp⟩
theorem any_none{β:Type}{p:β->Bool}{l:List β}(h:∀j y,j<l.length->l[j]? =some y->p y=false):l.any p=false:=by
 rw[List.any_eq_false];intro x hx;obtain⟨i,hi⟩:=List.getElem?_of_mem hx;rw[h i x (A7 hi) hi];decide
theorem uK{l:List (List UInt8)}{s:List UInt8}  :Aq prog 227 [ZG l,str s] (bool (l.any fun x=>decide (s=x))):=by
 refine fo func227 rfl ⟨rfl,rfl⟩ fun M0 w0=>(Tr.Dr 0 rfl fun Dq=>?_);refine a2 ?_;refine Tr.block (Tr.BV _ (kk [1,0] rfl) (fun k:Nat=>[(5,int ((k:Nat):Int))]) (fun k:Nat=>k<=(l).length/\(∀j y,j<k->l[j]? =some y->decide (s=y)=false)) (fun k:Nat=>(l).length-k) 0 (⟨Nat.zero_le _,fun j y hj=>absurd hj AA⟩) kz ?_);rintro k ⟨BN,AW⟩;refine an ?_ ?_<;>intro h1 q1
 have Ae:k<(l).length:=AQ h1;obtain⟨x,Ad⟩:=at_ Ae
 .repeat' first|exact bool_eq (uJ Ad CU).symm|(exact Fin.AP (k+1) ⟨⟨Ae,C3 (p:=fun x=>decide (s=x)) Ad (by simp_all;exact fun h=>q h.symm) AW⟩,by omega⟩ ⟨⟨_,rfl,AK k⟩,kz⟩)|refine co rfl (AD rfl underlying67 Lj vq vq AA (Ap Ad)) ?_|refine ac ?_|(refine Tr.cn rfl ?_ ?_<;>intro h q)
 have BA:k=(l).length:=by have:=AU h1;omega
 subst BA;refine a3 ?_
 .exact bool_eq (any_none AW).symm
theorem oJ{l:List EF}{an ha:List Int}{e:Int}{c:EF}(hc:l[i]? =some c):Aq prog 170 [int e,G6 l,int ((i:Nat):Int),ints an,ints ha,int day,str nm] (bool (WA l an ha day nm e i c)):=by
 refine fo func170 rfl ⟨rfl,rfl⟩ fun M0 w0=>(Tr.Dr 1 rfl fun Tc=>?_);have FC:=A7 hc;refine ac ?_;refine ao ?_;refine tp rfl (AD rfl underlying76 DD vq vq AA (Ap hc)) ?_;refine ao ?_;refine Tl rfl rfl rfl rfl Sl NJ (fun b1=>?_);refine sf 0 15 ⟨rfl,rfl,rfl⟩ rfl rfl rfl rfl ?_;refine ao ?_;refine wk [16,15,6,5,4,3,2,1,0] rfl ?_;refine ac ?_;refine ac ?_;refine Tr.cn rfl ?_ ?_<;>intro h1 q1
 obtain rfl:e=9:=by have:=q1;omega
 have hw:WA l an ha day nm 9 i c=(!CE c):=rfl;refine ac ?_;refine co rfl (BS (MY (c:=c)) rfl rfl) ?_;refine ac ?_;refine wk [14] rfl ?_;refine ac ?_
 .refine bool_eq ?_;rw[hw];cases CE c<;>rfl
 have n9:¬e=9:=by have:=q1;omega
 refine ac ?_;refine wk [32,26,16,15,6,5,4,3,2,1] rfl ?_;refine Tr.cn rfl ?_ ?_<;>intro h2 q2
 obtain rfl:e=14:=by have:=q2;omega
 have hw:WA l an ha day nm 14 i c=(decide (i=0)&& !(c.names.any fun x=>decide (nm=x))):=rfl;refine ac ?_;refine Ch.cs 36 rfl ?_ ?_<;>intro h3 q3
 refine ac ?_;refine cy h3 rfl (CG (uK) rfl rfl rfl) ?_;refine ac ?_;refine wk [14] rfl ?_;refine ac ?_
 .exact P6
 refine ac ?_;refine wk [14] rfl ?_;refine ac ?_
 .exact P6
 have n14:¬e=14:=by have:=q2;omega
 refine ac ?_;refine Tr.cn rfl ?_ ?_<;>intro h4 q4
 obtain rfl:e=13:=by have:=q4;omega
 have hw:WA l an ha day nm 13 i c=(decide (day<c.from_)||decide (c.DC<=day)):=rfl;refine ac ?_;refine Ch.cs 49 rfl ?_ ?_<;>intro h5 q5
 refine ac ?_;refine wk [14] rfl ?_;refine ac ?_
 .exact P6
 refine ac ?_;refine wk [14] rfl ?_;refine ac ?_
 .refine bool_eq ?_;rw[hw];simp_all;omega
 have n13:¬e=13:=by have:=q4;omega
 refine ac ?_;refine wk [55,26,16,15,4,3,2,1] rfl ?_;refine Tr.cn rfl ?_ ?_<;>intro h6 q6
 obtain rfl:e=7:=by have:=q6;omega
 have hw:WA l an ha day nm 7 i c=(!(ha.any fun x=>c.OV==x)):=rfl;refine ac ?_;refine co rfl (CG (Ki) rfl rfl rfl) ?_;refine ac ?_;refine wk [14] rfl ?_;refine ac ?_
 .exact JK
 have n7:¬e=7:=by have:=q6;omega
 refine ac ?_;refine Tr.cn rfl ?_ ?_<;>intro h7 q7
 obtain rfl:e=11:=by have:=q7;omega
 have hw:WA l an ha day nm 11 i c=((match l[i+1]? with|none=>false|some d=>decide (¬c.Gk=d.FA))):=rfl;refine ac ?_;refine Ch.cs 67 rfl ?_ ?_<;>intro h8 q8
 obtain⟨d,hd⟩:=at_ (l:=l) (k:=i+1) (by have:=q8;omega);rw[hd]at hw;refine ac ?_;refine cy h8 rfl (AD rfl underlying76 DD vq vq AA (CS (show l[(((i:Nat):Int)+1).toNat]? =some d by rw[show(((i:Nat):Int)+1).toNat=i+1 by omega];exact hd))) ?_;refine ac ?_;refine wk [14] rfl ?_;refine ac ?_
 .exact P6
 have hd:l[i+1]? =none:=List.getElem?_eq_none (by have:=q8;omega);rw[hd]at hw;refine ac ?_;refine wk [14] rfl ?_;refine ac ?_
 .exact JK
 have n11:¬e=11:=by have:=q7;omega
 refine ac ?_;refine Tr.cn rfl ?_ ?_<;>intro h9 q9
 obtain rfl:e=15:=by have:=q9;omega
 have hw:WA l an ha day nm 15 i c=(!S5 c i):=rfl;refine ac ?_;refine co rfl (CG (uI hc) rfl rfl rfl) ?_;refine ac ?_;refine wk [14] rfl ?_;refine ac ?_
 .exact JK
 have n15:¬e=15:=by have:=q9;omega
 refine ac ?_;refine wk [84,16,15,3,2,1] rfl ?_;refine Tr.cn rfl ?_ ?_<;>intro h10 NT
 obtain rfl:e=10:=by have:=NT;omega
 have hw:WA l an ha day nm 10 i c=(!PW c (match l[i+1]? with|none=>c.LY|some d=>d.Bm)):=rfl;refine ac ?_;refine Tr.cn rfl ?_ ?_<;>intro h11 Rl
 have hd:l[i+1]? =none:=List.getElem?_eq_none (by have:=Rl;omega);rw[hd]at hw;refine ac ?_;refine co rfl (CG (UA) rfl rfl rfl) ?_;refine ac ?_;refine wk [14] rfl ?_;refine ac ?_
 .exact JK
 obtain⟨d,hd⟩:=at_ (l:=l) (k:=i+1) (by have:=Rl;omega);rw[hd]at hw;refine ac ?_;refine ac ?_;refine co rfl (AD rfl underlying76 DD vq vq AA (CS (show l[(((i:Nat):Int)+1).toNat]? =some d by rw[show(((i:Nat):Int)+1).toNat=i+1 by omega];exact hd))) ?_;refine ac ?_;refine co rfl (CG (UA) rfl rfl rfl) ?_;refine ac ?_;refine wk [14] rfl ?_;refine ac ?_
 .exact JK
 have n10:¬e=10:=by have:=NT;omega
 have hw:WA l an ha day nm e i c=(match l[i+1]? with|none=> !(an.any fun x=>c.LY==x)|some _=>false):=by unfold WA;rw[if_neg n9,if_neg n14,if_neg n13,if_neg n7,if_neg n11,if_neg n15,if_neg n10]
 refine ac ?_;refine ac ?_;refine Ch.cs 103 rfl ?_ ?_<;>intro h12 Tn
 have hd:l[i+1]? =none:=List.getElem?_eq_none (by have:=Tn;omega);rw[hd]at hw;refine ac ?_;refine cy h12 rfl (CG (Ki) rfl rfl rfl) ?_;refine ac ?_;refine wk [14] rfl ?_;refine ac ?_
 .exact JK
 obtain⟨d,hd⟩:=at_ (l:=l) (k:=i+1) (by have:=Tn;omega);rw[hd]at hw;refine ac ?_;refine wk [14] rfl ?_;refine ac ?_
 .exact JK
theorem oK{l:List EF}{an ha:List Int}:Aq prog 106 [G6 l,ints an,ints ha,int day,str nm] (int (Ig l an ha day nm)):=by
 refine fo func106 rfl ⟨rfl,rfl⟩ fun M0 w0=>(Tr.Dr 0 rfl fun Dq=>?_);refine ac ?_;refine ac ?_;refine Tr.cn rfl ?_ ?_<;>intro h1 q1
 have hC:Ig l an ha day nm=4:=if_pos M7;refine ac ?_;refine ac ?_
 .exact int_eq (by rw[hC])
 have YO:¬l.length=0:=by have:=q1;omega
 refine ac ?_;refine ac ?_;refine Tr.cn rfl ?_ ?_<;>intro h2 q2
 have hC:Ig l an ha day nm=3:=(if_neg YO).trans (if_pos K5);refine ac ?_;refine ac ?_
 .exact int_eq (by rw[hC])
 have hC:Ig l an ha day nm=Hw (WO l an ha day nm) G9:=(if_neg YO).trans (if_neg K5);refine ac ?_;refine Tr.seq (Tr.Bo (co rfl (AX (xs:=[.const (.int .i64 (9)),.const (.int .i64 (14)),.const (.int .i64 (13)),.const (.int .i64 (7)),.const (.int .i64 (11)),.const (.int .i64 (15)),.const (.int .i64 (10)),.const (.int .i64 (12))]) (rows:=(G9.map fun n=>[int n])) rfl rfl underlying263 e_ z39 rfl AB ⟨⟨Ab,VL.le vq (AV _)⟩,⟨⟨Ab,VL.le vq (AV _)⟩,⟨⟨Ab,VL.le vq (AV _)⟩,⟨⟨Ab,VL.le vq (AV _)⟩,⟨⟨Ab,VL.le vq (AV _)⟩,⟨⟨Ab,VL.le vq (AV _)⟩,⟨⟨Ab,VL.le vq (AV _)⟩,⟨⟨Ab,VL.le vq (AV _)⟩,trivial⟩⟩⟩⟩⟩⟩⟩⟩ AB) ?_));refine ac ?_;refine ac ?_;refine Tr.block (Tr.BV _ (kk [11,4,3,2,1,0] rfl) (fun m:Nat=>[(12,int ((m:Nat):Int))]) (fun m:Nat=>m<=(G9).length/\(Ig l an ha day nm=Hw (WO l an ha day nm) (G9.drop m))) (fun m:Nat=>(G9).length-m) 0 (⟨Nat.zero_le _,hC⟩) kz ?_);rintro m ⟨dQ,Gl⟩;refine ac ?_;refine co rfl (Gu rfl underlying263 Ec) ?_;refine ac ?_;refine Tr.cn rfl ?_ ?_<;>intro h3 q3
 have Kj:m<(G9).length:=AQ h3;obtain⟨e,Gm⟩:=at_ Kj;have hm8:m<8:=Kj;refine ac ?_;refine ac ?_;refine Tr.block (Tr.BV _ (kk [12,11,4,3,2,1,0] rfl) (fun k:Nat=>[(13,int ((k:Nat):Int))]) (fun k:Nat=>k<=(l).length/\(∀j,j<k->Zx l an ha day nm e j=true)) (fun k:Nat=>(l).length-k) 0 (⟨Nat.zero_le _,fun j hj=>absurd hj AA⟩) kz ?_);rintro k ⟨BN,AW⟩;refine ac ?_;refine Tr.cn rfl ?_ ?_<;>intro h4 q4
 have Ae:k<(l).length:=AQ h4;obtain⟨c,Ad⟩:=at_ Ae;refine ac ?_;refine ac ?_;refine co rfl (AD rfl underlying263 e_ Ec vq AA (Ap Gm)) ?_;refine ac ?_;refine co rfl (Aa rfl (oJ (e:=e) (l:=l) (i:=k) (c:=c) Ad) ⟨kq,kz⟩) ?_;refine ac ?_;refine wk [43,13,12,11,4,3,2,1,0] rfl ?_;refine Tr.cn rfl ?_ ?_<;>intro h5 q5
 have hw:=Nw Ad h5;rw[Ed Gm,if_pos hw]at Gl;refine ac ?_;refine co rfl (AD rfl underlying263 e_ Ec vq AA (Ap Gm)) ?_;refine ac ?_;refine wk [10] rfl ?_;refine ac ?_
 .exact int_eq Gl.symm
 refine ac ?_;refine ac ?_;exact Fin.AP (k+1) ⟨⟨Ae,Bx AW (by rw[LQ Ad];simp_all)⟩,by omega⟩ ⟨⟨_,rfl,AK k⟩,kz⟩;have BA:k=(l).length:=by have:=AU h4;omega
 subst BA;refine ac ?_;refine ac ?_;exact Fin.AP (m+1) ⟨⟨Kj,by rw[Ed Gm,if_neg (by rw[Nx AW];decide)]at Gl;exact Gl⟩,by omega⟩ ⟨⟨_,rfl,AK m⟩,kz⟩;have Vs:m=(G9).length:=by have:=AU h3;omega
 subst Vs;refine ac ?_;refine ac ?_;refine ac ?_
 .exact int_eq Gl.symm
theorem zZ{l:List EF}{p:EF->Bool}  :Aq prog 365 [G6 l,S7 prog (fun x:{c:EF//c∈l}=>[agg (C9 x.1)]) (fun x=>bool (p x.1))] (int (idx p l)):=by
 refine fo func365 rfl ⟨rfl,rfl⟩ fun M0 w0=>(Tr.Dr 0 rfl fun Dq=>?_);refine a2 ?_;refine Tr.block (Tr.BV _ (kk [7,1,0] rfl) (fun k:Nat=>[(8,int ((k:Nat):Int))]) (fun k:Nat=>k<=(l).length/\(∀j y,j<k->l[j]? =some y->p y=false)) (fun k:Nat=>(l).length-k) 0 (⟨Nat.zero_le _,fun j y hj=>absurd hj AA⟩) kz ?_);rintro k ⟨BN,AW⟩;refine ac ?_;refine Tr.seq ?_;refine Tr.cn rfl ?_ ?_<;>intro h1 q1
 have Ae:k<(l).length:=AQ h1;obtain⟨x,Ad⟩:=at_ Ae
 .repeat' first|exact int_eq (Dv Ad Cs AW)|exact Fin.AP (k+1) ⟨⟨Ae,C3 Ad Cs AW⟩,by omega⟩ ⟨⟨_,rfl,AK k⟩,ke rfl,ke rfl,ke rfl,trivial⟩|refine co rfl (AD rfl underlying76 DD (vl rfl) (vl rfl) AA DZ) ?_|refine co rfl (AO rfl Ja DD (vl rfl) rfl rfl) ?_|refine co rfl (GC ⟨x,List.mem_of_getElem? Ad⟩ rfl (vl rfl) ⟨ke rfl,trivial⟩) ?_|refine ac ?_|(refine Tr.cn rfl ?_ ?_<;>intro h q)
 have BA:k=(l).length:=by have:=AU h1;omega
 subst BA;refine a3 ?_
 .exact K2
theorem oQ{l:List EF}{p:EF->Bool}  :Aq prog 326 [G6 l,S7 prog (fun x:{c:EF//c∈l}=>[agg (C9 x.1)]) (fun x=>bool (p x.1))] (bool (l.any p)):=by
 refine fo func326 rfl ⟨rfl,rfl⟩ fun M0 w0=>?_;refine a2 ?_;refine co rfl (CG (zZ) rfl rfl rfl) ?_;refine a2 ?_
 .exact P8
theorem uL{l:List (List UInt8)}{v:List UInt8}  :Aq prog 366 [ZG l,str v] (int (idx (fun x=>decide (v=x)) l)):=by
 refine fo func366 rfl ⟨rfl,rfl⟩ fun M0 w0=>(Tr.Dr 0 rfl fun Dq=>?_);refine a2 ?_;refine Tr.block (Tr.BV _ (kk [7,1,0] rfl) (fun k:Nat=>[(8,int ((k:Nat):Int))]) (fun k:Nat=>k<=(l).length/\(∀j y,j<k->l[j]? =some y->decide (v=y)=false)) (fun k:Nat=>(l).length-k) 0 (⟨Nat.zero_le _,fun j y hj=>absurd hj AA⟩) kz ?_);rintro k ⟨BN,AW⟩;refine ac ?_;refine Tr.seq ?_;refine Tr.cn rfl ?_ ?_<;>intro h1 q1
 have Ae:k<(l).length:=AQ h1;obtain⟨x,Ad⟩:=at_ Ae
 .repeat' first|exact int_eq (Dv (p:=fun x=>decide (v=x)) Ad CU AW)|exact Fin.AP (k+1) ⟨⟨Ae,C3 (p:=fun x=>decide (v=x)) Ad CU AW⟩,by omega⟩ ⟨⟨_,rfl,AK k⟩,kz⟩|refine co rfl (AD rfl underlying67 Lj vq vq AA (Ap Ad)) ?_|refine ac ?_|(refine Tr.cn rfl ?_ ?_<;>intro h q)
 have BA:k=(l).length:=by have:=AU h1;omega
 subst BA;refine a3 ?_
 .exact K2
theorem uM{l:List (List UInt8)}{v:List UInt8}  :Aq prog 328 [ZG l,str v] (bool (l.any fun x=>decide (v=x))):=by
 refine fo func328 rfl ⟨rfl,rfl⟩ fun M0 w0=>?_;refine a2 ?_;refine co rfl (CG (uL) rfl rfl rfl) ?_;refine a2 ?_
 .exact bool_eq (M9 _ l)
theorem iD{l:List EF}{c:EF}(hc:l[i]? =some c):Aq prog 369 [G6 l,int ((i:Nat):Int)] (int (match l[i+1]? with|none=>c.LY|some d=>d.Bm)):=by
 refine fo func369 rfl ⟨rfl,rfl⟩ fun M0 w0=>(Tr.Dr 0 rfl fun Dq=>?_);have FC:=A7 hc;refine ac ?_;refine an ?_ ?_<;>intro h1 q1
 obtain⟨d,hd⟩:=at_ (l:=l) (k:=i+1) M7;rw[hd];refine ac ?_;refine co rfl (AD rfl underlying76 DD vq vq AA (CS (show l[(((i:Nat):Int)+1).toNat]? =some d by rw[show(((i:Nat):Int)+1).toNat=i+1 by omega];exact hd))) ?_;refine a2 ?_
 .exact Lr
 have hd:l[i+1]? =none:=List.getElem?_eq_none M7;rw[hd];refine a2 ?_;refine co rfl (AD rfl underlying76 DD vq vq AA (Ap hc)) ?_;refine a2 ?_
 .exact Lr
theorem oV{l:List EF}{an ha:List Int}{e:Int}(hf:∀c∈l,c.fits)(he:e=11\/e=15\/e=10):Aq prog 331 [G6 l,int e] (bool (WO l an ha day nm e)):=by
 refine fo func331 rfl ⟨rfl,rfl⟩ fun M0 w0=>(Tr.Dr 0 rfl fun Dq=>?_);refine ac ?_;refine ac ?_;refine Tr.block (Tr.BV _ (kk [8,1,0] rfl) (fun k:Nat=>[(9,int ((k:Nat):Int))]) (fun k:Nat=>k<=(l).length/\(∀j,j<k->Zx l an ha day nm e j=true)) (fun k:Nat=>(l).length-k) 0 (⟨Nat.zero_le _,fun j hj=>absurd hj AA⟩) kz ?_);rintro k ⟨BN,AW⟩;refine ac ?_;refine Tr.seq ?_;refine Tr.cn rfl ?_ ?_<;>intro h1 q1
 have Ae:k<(l).length:=AQ h1;obtain⟨c,Ad⟩:=at_ Ae;refine ac ?_;refine ac ?_;refine ac ?_;refine wk [9,8,5,1,0] rfl (Tr.Sf [0,1,8,9] [(6,bool (WA l an ha day nm e k c))] (True) ?_ (fun h2=>?_));refine ac ?_;refine ac ?_;refine Tr.cn rfl ?_ ?_<;>intro h3 q3
 obtain rfl:e=11:=by have:=q3;omega
 have hw:WA l an ha day nm 11 k c=((match l[k+1]? with|none=>false|some d=>decide (¬c.Gk=d.FA))):=rfl;refine ac ?_;refine Ch.cs 29 rfl ?_ ?_<;>intro h4 q4
 obtain⟨d,hd⟩:=at_ (l:=l) (k:=k+1) (by have:=q4;omega);rw[hd]at hw;refine ac ?_;refine cy h4 rfl (AD rfl underlying76 DD vq vq AA (Ap Ad)) ?_;refine ac ?_;refine cy h4 rfl (AD rfl underlying76 DD vq vq AA (Ap (k:=k+1) hd)) ?_;refine ac ?_;exact Fin.AP () trivial ⟨⟨_,rfl,bool_eq (by rw[hw];simp_all)⟩,kz⟩;have hd:l[k+1]? =none:=List.getElem?_eq_none (by have:=q4;omega);rw[hd]at hw;refine ac ?_;exact Fin.AP () trivial ⟨⟨_,rfl,bool_eq (by exact hw.symm)⟩,kz⟩;have n11:¬e=11:=by have:=q3;omega
 refine ac ?_;refine Tr.cn rfl ?_ ?_<;>intro h5 q5
 obtain rfl:e=15:=by have:=q5;omega
 have hw:WA l an ha day nm 15 k c= !S5 c k:=rfl;refine ac ?_;refine co rfl (CG (uH Ad) rfl rfl rfl) ?_;refine ac ?_;exact Fin.AP () trivial ⟨⟨_,rfl,bool_eq (by exact hw.symm)⟩,kz⟩;obtain rfl:e=10:=by have:=q5;omega
 have hw:WA l an ha day nm 10 k c=(!PW c (match l[k+1]? with|none=>c.LY|some d=>d.Bm)):=rfl;refine ac ?_;refine co rfl (AD rfl underlying76 DD vq vq AA (Ap Ad)) ?_;refine ac ?_;refine co rfl (CG (iD Ad) rfl rfl rfl) ?_;refine co rfl (CG (iC (hf c (List.mem_of_getElem? Ad))) rfl rfl rfl) ?_;refine ac ?_;exact Fin.AP () trivial ⟨⟨_,rfl,bool_eq (by exact hw.symm)⟩,kz⟩;refine ac ?_;refine Tr.cn rfl ?_ ?_<;>intro h6 q6
 refine ac ?_;refine ac ?_
 .exact bool_eq (Nw Ad Cs).symm
 refine ac ?_;refine ac ?_;exact Fin.AP (k+1) ⟨⟨Ae,Bx AW (by rw[LQ Ad];simp_all)⟩,by omega⟩ ⟨⟨_,rfl,AK k⟩,kz⟩;have BA:k=(l).length:=by have:=AU h1;omega
 subst BA;refine ac ?_;refine ac ?_;refine ac ?_
 .exact bool_eq (Nx AW).symm
def SM(ha:List Int)(day e:Int)(c:EF):Bool:=if e=13 then decide (day<c.from_)||decide (c.DC<=day)else !(ha.any fun x=>c.OV==x)
section
variable{l:List EF}{an ha:List Int}{day:Int}{nm:List UInt8}
theorem Xy{e:Int}(h:e=13\/e=7):WO l an ha day nm e=l.any (SM ha day e):=eD fun i c _=>by rcases h with rfl|rfl<;>rfl
theorem Xz:WO l an ha day nm 9=l.any fun c=> !CE c:=eD fun i c _=>rfl
theorem X0{c:EF}(hc:l[0]? =some c):WO l an ha day nm 14= !(c.names.any fun x=>decide (nm=x)):=by
 cases hn:(c.names.any fun x=>decide (nm=x))with
 |false=>exact Nw hc (by show(decide (0=0)&& !(c.names.any fun x=>decide (nm=x)))=true;rw[hn];rfl)
 |true=>
  refine Nx fun j hj=>?_;obtain⟨d,hd⟩:=at_ hj;rw[LQ hd];show(!(decide (j=0)&& !(d.names.any fun x=>decide (nm=x))))=true;rcases Nat.eq_zero_or_pos j with h0|h0
  .subst h0;rw[hc]at hd;cases hd;rw[hn];rfl
  .rw[decide_eq_false (show ¬j=0 by omega)];rfl
theorem X1{c:EF}(h0:¬l.length=0)(hc:l[l.length-1]? =some c):WO l an ha day nm 12= !(an.any fun x=>c.LY==x):=by
 have hl:l[l.length-1+1]? =none:=List.getElem?_eq_none AA
 have hw:WA l an ha day nm 12 (l.length-1) c= !(an.any fun x=>c.LY==x):=by
  show(match l[l.length-1+1]? with|none=> !(an.any fun x=>c.LY==x)|some _=>false)=_;rw[hl]
 cases hn:(an.any fun x=>c.LY==x)with
 |false=>exact Nw hc (by rw[hw,hn];rfl)
 |true=>
  refine Nx fun j hj=>?_;obtain⟨d,hd⟩:=at_ hj;rw[LQ hd];rcases Nat.lt_or_ge j (l.length-1)with h1|h1
  .
   obtain⟨g,hg⟩:=at_ (l:=l) (k:=j+1) AA;show(!(match l[j+1]? with|none=> !(an.any fun x=>d.LY==x)|some _=>false))=true;rw[hg];rfl
  .
   obtain rfl:j=l.length-1:=by omega
   rw[hc]at hd;cases hd;rw[hw,hn];rfl
theorem uN{e:Int}(hk:k<2)(h:G9[2+k]? =some e):([int 13,int 7]:List Pr)[((k:Nat):Int).toNat]? =some (int e)/\(e=13\/e=7):=by
 match k,hk with
 |0,_=>cases h;exact⟨rfl,.inl rfl⟩
 |1,_=>cases h;exact⟨rfl,.inr rfl⟩
theorem iE{e:Int}(hk:k<3)(h:G9[4+k]? =some e):([int 11,int 15,int 10]:List Pr)[((k:Nat):Int).toNat]? =some (int e)/\(e=11\/e=15\/e=10):=by
 match k,hk with
 |0,_=>cases h;exact⟨rfl,.inl rfl⟩
 |1,_=>cases h;exact⟨rfl,.inr (.inl rfl)⟩
 |2,_=>cases h;exact⟨rfl,.inr (.inr rfl)⟩
end
theorem uO{c:EF}{ha:List Int}{e:Int}:Aq prog 330 [agg (C9 c),ints ha,int day,int e] (bool (SM ha day e c)):=by
 refine fo func330 rfl ⟨rfl,rfl⟩ fun M0 w0=>?_;refine ac ?_;refine ac ?_;refine Tr.cn rfl ?_ ?_<;>intro h1 q1
 refine ac ?_;refine Ch.cs 15 rfl ?_ ?_<;>intro h2 q2
 refine ac ?_;refine wk [8] rfl ?_;refine ac ?_
 .refine bool_eq ?_;unfold SM;simp_all
 refine ac ?_;refine wk [8] rfl ?_;refine ac ?_
 .refine bool_eq ?_;unfold SM;simp_all;omega
 refine ac ?_;refine ac ?_;refine co rfl (CG (E5) rfl rfl rfl) ?_;refine ac ?_;refine ac ?_
 .refine bool_eq ?_;unfold SM;simp_all
theorem iF{c:EF}(hc:c.fits):Aq prog 327 [agg (C9 c)] (bool (!CE c)):=by
 refine fo func327 rfl ⟨rfl,rfl⟩ fun M0 w0=>?_;refine a2 ?_;refine co rfl (BS (XA hc) rfl rfl) ?_;refine a2 ?_
 .refine bool_eq ?_;cases CE c<;>rfl
theorem iG:Entry Tryz.prog 327:=⟨_,Tryz.func327,rfl,rfl⟩
theorem iH{c:EF}{ha:List Int}{e:Int}:Aq prog 329 [agg (C9 c),ref [ints ha],ref [int day],ref [int e]] (bool (SM ha day e c)):=by
 refine fo func329 rfl ⟨rfl,rfl⟩ fun M0 w0=>?_;refine a2 ?_;refine co rfl (kc4 (uO) rfl rfl rfl rfl rfl) ?_;refine a2 ?_
 .exact Lr
theorem iI:Entry Tryz.prog 329:=⟨_,Tryz.func329,rfl,rfl⟩
theorem oW{l:List EF}{an ha:List Int}(hf:∀c∈l,c.fits):Aq prog 268 [G6 l,ints an,ints ha,int day,str nm] (int (Ig l an ha day nm)):=by
 refine fo func268 rfl ⟨rfl,rfl⟩ fun M0 w0=>(Tr.Dr 0 rfl fun Dq=>?_);refine ac ?_;refine ac ?_;refine Tr.cn rfl ?_ ?_<;>intro h1 q1
 have hC:Ig l an ha day nm=4:=if_pos M7;refine ac ?_;refine ac ?_
 .exact IA
 have YO:¬l.length=0:=by have:=q1;omega
 refine ac ?_;refine Tr.cn rfl ?_ ?_<;>intro h2 q2
 have hC:Ig l an ha day nm=3:=(if_neg YO).trans (if_pos K5);refine ac ?_;refine ac ?_
 .exact IA
 have hE:Ig l an ha day nm=Hw (WO l an ha day nm) (G9.drop 0):=(if_neg YO).trans (if_neg K5);obtain⟨c,hc⟩:=at_ (l:=l) (k:=0) AA;refine ac ?_;refine co rfl (Aa rfl (oQ (p:=fun c=> !CE c)) ⟨kq,⟨_,rfl,DM iG fun x=>iF (hf x.1 x.2)⟩,trivial⟩) ?_;refine ac ?_;refine wk [23,8,7,4,1,0] rfl ?_;refine Tr.cn rfl ?_ ?_<;>intro h3 q3
 have hC:Ig l an ha day nm=9:=by rw[Ed (m:=0) (e:=9) rfl,if_pos (Xz.trans h3)]at hE;exact hE
 refine ac ?_;refine ac ?_
 .exact IA
 replace hE:Ig l an ha day nm=Hw (WO l an ha day nm) (G9.drop 1):=by rw[Ed (m:=0) (e:=9) rfl,if_neg (by rw[Xz];simp_all)]at hE;exact hE
 refine ac ?_;refine co rfl (AD rfl underlying76 DD vq vq AA (Ap (k:=0) hc)) ?_;refine ac ?_;refine co rfl (CG (uM) rfl rfl rfl) ?_;refine ac ?_;refine wk [26,8,7,1,0] rfl ?_;refine Tr.cn rfl ?_ ?_<;>intro h4 q4
 have hC:Ig l an ha day nm=14:=by rw[Ed (m:=1) (e:=14) rfl,if_pos ((X0 hc).trans h4)]at hE;exact hE
 refine ac ?_;refine ac ?_
 .exact IA
 replace hE:Ig l an ha day nm=Hw (WO l an ha day nm) (G9.drop (2+0)):=by rw[Ed (m:=1) (e:=14) rfl,if_neg (by rw[X0 hc];simp_all)]at hE;exact hE
 refine ac ?_;refine ac ?_;refine Tr.block (Tr.GD _ (kk [34,8,7,1,0] rfl) (fun(k:Nat)=>[(35,int ((k:Nat):Int))]) (fun(k:Nat)=>Hp M0 w0 Ju ([])) (fun(k:Nat)=>k<=2/\Ig l an ha day nm=Hw (WO l an ha day nm) (G9.drop (2+k))) (fun(k:Nat)=>2-k) (0)  (⟨Nat.zero_le _,hE⟩) kz (fun _ _ h=>h) ?_);rintro k  ⟨hk0,hE2⟩;refine ac ?_;refine Tr.seq ?_;refine Tr.cn rfl ?_ ?_<;>intro h5 q5
 have hkn:k<2:=by have:=Fy.HC h5;omega
 obtain⟨e,hex⟩:=at_ (l:=G9) (k:=2+k) (show _<8 by omega);obtain⟨har,hee⟩:=uN hkn hex;rw[Ed hex]at hE2;refine ac ?_;refine Tr.seq (Tr.block (Tr.seq (Tr.At (tp rfl (Dx rfl underlying406 bw e_ vq vq AA AA har) ?_))));refine Tl rfl rfl rfl rfl z39 ABF (fun b1=>?_);refine sf 0 12 ⟨rfl,rfl,rfl⟩ rfl rfl rfl rfl ?_;refine ao ?_;refine ac ?_;refine co rfl (Aa rfl (oQ (p:=SM ha day e)) ⟨kq,⟨_,rfl,DM iI fun x=>iH⟩,trivial⟩) ?_;refine ac ?_;refine wk [40,35,34,12,8,7,1,0] rfl ?_;refine Tr.cn rfl ?_ ?_<;>intro h6 q6
 have hW:=(Xy (l:=l) (an:=an) (ha:=ha) (day:=day) (nm:=nm) hee).trans h6;have hC:Ig l an ha day nm=e:=hE2.trans (if_pos hW);refine ac ?_;refine ac ?_
 .exact IA
 have hW:=(Xy (l:=l) (an:=an) (ha:=ha) (day:=day) (nm:=nm) hee).trans h6;refine ac ?_;refine ac ?_;exact Fin.ES (k+1)  (⟨⟨by omega,by rw[if_neg CU]at hE2;exact hE2⟩,by omega⟩) ⟨⟨_,rfl,AK k⟩,kz⟩ (fun _ _ h=>h);obtain rfl:k=2:=by have:=Fy.HC h5;omega
 have hE:=hE2;refine ac ?_;refine ac ?_;refine Tr.block (Tr.GD _ (kk [43,1,0] rfl) (fun(k:Nat)=>[(44,int ((k:Nat):Int))]) (fun(k:Nat)=>Hp M0 w0 Ju ([])) (fun(k:Nat)=>k<=3/\Ig l an ha day nm=Hw (WO l an ha day nm) (G9.drop (4+k))) (fun(k:Nat)=>3-k) (0)  (⟨Nat.zero_le _,hE⟩) kz (fun _ _ h=>h) ?_);rintro k  ⟨hk0,hE4⟩;refine ac ?_;refine Tr.seq ?_;refine Tr.cn rfl ?_ ?_<;>intro h7 q7
 have hkn:k<3:=by have:=Fy.HC h7;omega
 obtain⟨e,hex⟩:=at_ (l:=G9) (k:=4+k) (show _<8 by omega);obtain⟨har,hee⟩:=iE hkn hex;rw[Ed hex]at hE4;refine ac ?_;refine Tr.seq (Tr.block (Tr.seq (Tr.Bo (co rfl (Dx rfl underlying408 bw e_ vq vq AA AA har) ?_))));refine ac ?_;refine ac ?_;refine co rfl (CG (oV (an:=an) (ha:=ha) (day:=day) (nm:=nm) hf hee) rfl rfl rfl) ?_;refine ac ?_;refine Tr.cn rfl ?_ ?_<;>intro h8 q8
 have hC:Ig l an ha day nm=e:=hE4.trans (if_pos h8);refine ac ?_;refine ac ?_
 .exact IA
 refine ac ?_;refine ac ?_;exact Fin.ES (k+1)  (⟨⟨by omega,by rw[if_neg CU]at hE4;exact hE4⟩,by omega⟩) ⟨⟨_,rfl,AK k⟩,kz⟩ (fun _ _ h=>h);obtain rfl:k=3:=by have:=Fy.HC h7;omega
 have hE:=hE4;refine ac ?_;refine Tr.seq (Tr.seq ?_);obtain⟨z,hz⟩:=at_ (l:=l) (k:=l.length-1) AA;refine ac ?_;refine co rfl (AD rfl underlying76 DD vq vq AA (CS (show l[(((l.length:Nat):Int)-1).toNat]? =some z by rw[show(((l.length:Nat):Int)-1).toNat=l.length-1 by omega];exact hz))) ?_;refine ac ?_;refine co rfl (CG (E5) rfl rfl rfl) ?_;refine ac ?_;refine wk [62] rfl ?_;refine Tr.cn rfl ?_ ?_<;>intro h9 q9
 have hC:Ig l an ha day nm=12:=by rw[Ed (m:=7) (e:=12) rfl,if_pos ((X1 YO hz).trans h9)]at hE;exact hE
 refine ac ?_;refine ac ?_
 .exact IA
 have hC:Ig l an ha day nm=0:=by rw[Ed (m:=7) (e:=12) rfl,if_neg (by rw[X1 YO hz];simp_all)]at hE;exact hE
 refine ac ?_;refine ac ?_;refine ac ?_
 .exact IA
def jG(k:Nat):List Su:=pU.take k++(pU.drop k).map fun s=>{ s with code:=0 }
theorem iJ(s:Su):(CK s).length=12:=rfl
theorem oX(hk:k<16):∃x,(jG k)[k]? =some x/\(CK x).set 0 (int (((k:Nat):Int)+1))=CK (Jz (((k:Nat):Int)+1))/\(jG k).set k (Jz (((k:Nat):Int)+1))=jG (k+1):=by
 have h:k=0\/k=1\/k=2\/k=3\/k=4\/k=5\/k=6\/k=7\/k=8\/k=9\/k=10\/k=11\/k=12\/k=13\/k=14\/k=15:=by omega
 rcases h with rfl|rfl|rfl|rfl|rfl|rfl|rfl|rfl|rfl|rfl|rfl|rfl|rfl|rfl|rfl|rfl<;>exact⟨_,rfl,rfl,rfl⟩
theorem uP(k:Nat):(jG k).length=16:=by
 unfold jG;rw[List.length_append,List.length_map,List.length_take,List.length_drop];show min k 16+(16-k)=16;omega
theorem uQ{o:Nat}(hk:k<16)(ho:o=k*12)(qs:List Pr):((((jG k).map CK).flatten++qs).take o)++[int (((k:Nat):Int)+1)]++(((jG k).map CK).flatten++qs).drop (o+1)=((jG (k+1)).map CK).flatten++qs:=by
 obtain⟨x,h1,h2,h3⟩:=oX hk;subst ho;rw[←h3];exact Yx iJ h1 AB h2
theorem za(k:Nat):((jG k).map CK).flatten.length=192:=by
 rw[Cw (sz:=12) bP,List.length_map,uP]
theorem iK   :Aq prog 247 [] (slice 12 (pU.map CK)):=by
 refine fo func247 rfl ⟨rfl,rfl⟩ fun M0 w0=>?_;have hs0:((jG 0).map CK).length=16:=rfl;refine ac ?_;refine Tr.seq (Tr.At ?_)
 iterate 4 refine tp rfl (CG (Er) rfl rfl rfl) ?_
 refine tp rfl (Al (rows:=[]) rfl kD Cd trivial rfl) ?_;refine Tl rfl rfl rfl rfl z75 Cd (fun b1=>?_);refine Tl rfl rfl rfl rfl z75 Cd (fun b2=>?_);refine Tl rfl rfl rfl rfl z75 Cd (fun b3=>?_);refine Tl rfl rfl rfl rfl z75 Cd (fun b4=>?_);refine Tl rfl rfl rfl rfl z75 Cd (fun b5=>?_);refine sf 4 1 ⟨rfl,rfl,rfl⟩ rfl rfl rfl rfl ?_;refine sf 3 2 ⟨rfl,rfl,rfl⟩ rfl rfl rfl rfl ?_;refine sf 2 3 ⟨rfl,rfl,rfl⟩ rfl rfl rfl rfl ?_;refine sf 1 4 ⟨rfl,rfl,rfl⟩ rfl rfl rfl rfl ?_;refine sf 0 5 ⟨rfl,rfl,rfl⟩ rfl rfl rfl rfl ?_;refine TO.nil (Fin.go (wk [5,4,3,2,1] rfl (Tr.seq (Tr.At ?_))))
 iterate 5 refine tp rfl (CG (Er) rfl rfl rfl) ?_
 refine Tl rfl rfl rfl rfl z75 Cd (fun b6=>?_);refine Tl rfl rfl rfl rfl z75 Cd (fun b7=>?_);refine Tl rfl rfl rfl rfl z75 Cd (fun b8=>?_);refine Tl rfl rfl rfl rfl z75 Cd (fun b9=>?_);refine Tl rfl rfl rfl rfl z75 Cd (fun b10=>?_);refine sf 4 6 ⟨rfl,rfl,rfl⟩ rfl rfl rfl rfl ?_;refine sf 3 7 ⟨rfl,rfl,rfl⟩ rfl rfl rfl rfl ?_;refine sf 2 8 ⟨rfl,rfl,rfl⟩ rfl rfl rfl rfl ?_;refine sf 1 9 ⟨rfl,rfl,rfl⟩ rfl rfl rfl rfl ?_;refine sf 0 10 ⟨rfl,rfl,rfl⟩ rfl rfl rfl rfl ?_;refine TO.nil (Fin.go (wk [10,9,8,7,6,5,4,3,2,1] rfl (Tr.seq (Tr.At ?_))))
 iterate 4 refine tp rfl (CG (Er) rfl rfl rfl) ?_
 refine Tl rfl rfl rfl rfl z75 Cd (fun b11=>?_);refine Tl rfl rfl rfl rfl z75 Cd (fun b12=>?_);refine Tl rfl rfl rfl rfl z75 Cd (fun b13=>?_);refine Tl rfl rfl rfl rfl z75 Cd (fun b14=>?_);refine sf 3 11 ⟨rfl,rfl,rfl⟩ rfl rfl rfl rfl ?_;refine sf 2 12 ⟨rfl,rfl,rfl⟩ rfl rfl rfl rfl ?_;refine sf 1 13 ⟨rfl,rfl,rfl⟩ rfl rfl rfl rfl ?_;refine sf 0 14 ⟨rfl,rfl,rfl⟩ rfl rfl rfl rfl ?_;refine TO.nil (Fin.go (wk [14,13,12,11,10,9,8,7,6,5,4,3,2,1] rfl (Tr.seq (Tr.pad (Tr.rx (xo rfl (fun _=>AO rfl Be CR vq rfl rfl) (xo rfl (fun _=>AO rfl Be CR vq rfl rfl) (xo rfl (fun _=>CG (Er) rfl rfl rfl) (xo rfl (fun _=>AO rfl Be CR vq rfl rfl) (xo rfl (fun _=>oD) (xo rfl (fun _=>AO rfl Be CR vq rfl rfl) (xo rfl (fun _=>AO rfl Be CR vq rfl rfl) (xo rfl (fun _=>CG (Er) rfl rfl rfl) ?_)))))))))))));refine xo rfl (fun _=>AO rfl Be CR vq rfl rfl) (xo rfl (fun _=>oD) ?_)
 iterate 4 refine xo rfl (fun _=>AO rfl Be CR vq rfl rfl) ?_
 refine xo rfl (fun _=>oD) (xo rfl (fun _=>CG (Er) rfl rfl rfl) (xo rfl (fun _=>AO rfl Be CR vq rfl rfl) (xo rfl (fun _=>AO rfl Be CR vq rfl rfl) (xo rfl (fun _=>AO rfl Be CR vq rfl rfl) (xo rfl (fun _=>oD) (xo rfl (fun _=>CG (Er) rfl rfl rfl) (xo rfl (fun _=>AO rfl Be CR vq rfl rfl) (xo rfl (fun _=>AO rfl Be CR vq rfl rfl) (xo rfl (fun _=>AO rfl Be CR vq rfl rfl) (xo rfl (fun _=>oD) ?_))))))))))
 iterate 4 refine xo rfl (fun _=>AO rfl Be CR vq rfl rfl) ?_
 refine xo rfl (fun _=>oD) (xo rfl (fun _=>CG (Er) rfl rfl rfl) (xo rfl (fun _=>AO rfl Be CR vq rfl rfl) (xo rfl (fun _=>AO rfl Be CR vq rfl rfl) (xo rfl (fun _=>AO rfl Be CR vq rfl rfl) (xo rfl (fun _=>oD) ?_)))))
 iterate 4 refine xo rfl (fun _=>AO rfl Be CR vq rfl rfl) ?_
 refine xo rfl (fun _=>oD) (xo rfl (fun _=>AO rfl Be CR vq rfl rfl) (xo rfl (fun _=>AO rfl Be CR vq rfl rfl) (xo rfl (fun _=>CG (Er) rfl rfl rfl) (xo rfl (fun _=>CG (Er) rfl rfl rfl) (xo rfl (fun _=>oD) ?_)))))
 iterate 4 refine xo rfl (fun _=>AO rfl Be CR vq rfl rfl) ?_
 refine xo rfl (fun _=>oD) (xo rfl (fun _=>CG (Er) rfl rfl rfl) (xo rfl (fun _=>AO rfl Be CR vq rfl rfl) (xo rfl (fun _=>AO rfl Be CR vq rfl rfl) (xo rfl (fun _=>AO rfl Be CR vq rfl rfl) (xo rfl (fun _=>oD) ?_)))))
 iterate 4 refine xo rfl (fun _=>AO rfl Be CR vq rfl rfl) ?_
 refine xo rfl (fun _=>oD) ?_
 iterate 4 refine xo rfl (fun _=>AO rfl Be CR vq rfl rfl) ?_
 refine xo rfl (fun _=>oD) ?_
 iterate 4 refine xo rfl (fun _=>AO rfl Be CR vq rfl rfl) ?_
 refine xo rfl (fun _=>oD) ?_
 iterate 4 refine xo rfl (fun _=>AO rfl Be CR vq rfl rfl) ?_
 refine xo rfl (fun _=>oD) (xo rfl (fun _=>CG (Er) rfl rfl rfl) (xo rfl (fun _=>AO rfl Be CR vq rfl rfl) (xo rfl (fun _=>AO rfl Be CR vq rfl rfl) (xo rfl (fun _=>AO rfl Be CR vq rfl rfl) (xo rfl (fun _=>oD) (Cx.ef 0 rfl rfl AB (TW (xs:=[.tmp 35,.tmp 40,.tmp 45,.tmp 50,.tmp 55,.tmp 60,.tmp 65,.tmp 70,.tmp 75,.tmp 80,.tmp 85,.tmp 90,.tmp 95,.tmp 100,.tmp 105,.tmp 110]) (rows:=((jG 0).map CK)) rfl rfl AB rfl rfl underlying320 Dp LW rfl AB ⟨⟨Ab,VL.le vq (Pr.le_trans (Az (qs:=CK ⟨0,_,_,_,_,_,_,_,_,_,_⟩) (show Hh [int 0,is (.string _),int _,int _,int _,int _,int _,int _,int _,int _,int _,int _] (CK ⟨0,_,_,_,_,_,_,_,_,_,_⟩)from⟨Lr,Co _ Lr,Lr,Lr,Lr,Lr,Lr,Lr,Lr,Lr,Lr,Lr,trivial⟩)) (AJ _))⟩,⟨⟨Ab,VL.le vq (Pr.le_trans (Az (qs:=CK ⟨0,_,_,_,_,_,_,_,_,_,_⟩) (show Hh [int 0,is (.string _),int _,int _,int _,int _,int _,int _,int _,int _,int _,int _] (CK ⟨0,_,_,_,_,_,_,_,_,_,_⟩)from⟨Lr,Co _ Lr,Lr,Lr,Lr,Lr,Lr,Lr,Lr,Lr,Lr,Lr,trivial⟩)) (AJ _))⟩,⟨⟨Ab,VL.le vq (Pr.le_trans (Az (qs:=CK ⟨0,_,_,_,_,_,_,_,_,_,_⟩) (show Hh [int 0,is (.string _),int _,int _,int _,int _,int _,int _,int _,int _,int _,int _] (CK ⟨0,_,_,_,_,_,_,_,_,_,_⟩)from⟨Lr,Co _ Lr,Lr,Lr,Lr,Lr,Lr,Lr,Lr,Lr,Lr,Lr,trivial⟩)) (AJ _))⟩,⟨⟨Ab,VL.le vq (Pr.le_trans (Az (qs:=CK ⟨0,_,_,_,_,_,_,_,_,_,_⟩) (show Hh [int 0,is (.string _),int _,int _,int _,int _,int _,int _,int _,int _,int _,int _] (CK ⟨0,_,_,_,_,_,_,_,_,_,_⟩)from⟨Lr,Co _ Lr,Lr,Lr,Lr,Lr,Lr,Lr,Lr,Lr,Lr,Lr,trivial⟩)) (AJ _))⟩,⟨⟨Ab,VL.le vq (Pr.le_trans (Az (qs:=CK ⟨0,_,_,_,_,_,_,_,_,_,_⟩) (show Hh [int 0,is (.string _),int _,int _,int _,int _,int _,int _,int _,int _,int _,int _] (CK ⟨0,_,_,_,_,_,_,_,_,_,_⟩)from⟨Lr,Co _ Lr,Lr,Lr,Lr,Lr,Lr,Lr,Lr,Lr,Lr,Lr,trivial⟩)) (AJ _))⟩,⟨⟨Ab,VL.le vq (Pr.le_trans (Az (qs:=CK ⟨0,_,_,_,_,_,_,_,_,_,_⟩) (show Hh [int 0,is (.string _),int _,int _,int _,int _,int _,int _,int _,int _,int _,int _] (CK ⟨0,_,_,_,_,_,_,_,_,_,_⟩)from⟨Lr,Co _ Lr,Lr,Lr,Lr,Lr,Lr,Lr,Lr,Lr,Lr,Lr,trivial⟩)) (AJ _))⟩,⟨⟨Ab,VL.le vq (Pr.le_trans (Az (qs:=CK ⟨0,_,_,_,_,_,_,_,_,_,_⟩) (show Hh [int 0,is (.string _),int _,int _,int _,int _,int _,int _,int _,int _,int _,int _] (CK ⟨0,_,_,_,_,_,_,_,_,_,_⟩)from⟨Lr,Co _ Lr,Lr,Lr,Lr,Lr,Lr,Lr,Lr,Lr,Lr,Lr,trivial⟩)) (AJ _))⟩,⟨⟨Ab,VL.le vq (Pr.le_trans (Az (qs:=CK ⟨0,_,_,_,_,_,_,_,_,_,_⟩) (show Hh [int 0,is (.string _),int _,int _,int _,int _,int _,int _,int _,int _,int _,int _] (CK ⟨0,_,_,_,_,_,_,_,_,_,_⟩)from⟨Lr,Co _ Lr,Lr,Lr,Lr,Lr,Lr,Lr,Lr,Lr,Lr,Lr,trivial⟩)) (AJ _))⟩,⟨⟨Ab,VL.le vq (Pr.le_trans (Az (qs:=CK ⟨0,_,_,_,_,_,_,_,_,_,_⟩) (show Hh [int 0,is (.string _),int _,int _,int _,int _,int _,int _,int _,int _,int _,int _] (CK ⟨0,_,_,_,_,_,_,_,_,_,_⟩)from⟨Lr,Co _ Lr,Lr,Lr,Lr,Lr,Lr,Lr,Lr,Lr,Lr,Lr,trivial⟩)) (AJ _))⟩,⟨⟨Ab,VL.le vq (Pr.le_trans (Az (qs:=CK ⟨0,_,_,_,_,_,_,_,_,_,_⟩) (show Hh [int 0,is (.string _),int _,int _,int _,int _,int _,int _,int _,int _,int _,int _] (CK ⟨0,_,_,_,_,_,_,_,_,_,_⟩)from⟨Lr,Co _ Lr,Lr,Lr,Lr,Lr,Lr,Lr,Lr,Lr,Lr,Lr,trivial⟩)) (AJ _))⟩,⟨⟨Ab,VL.le vq (Pr.le_trans (Az (qs:=CK ⟨0,_,_,_,_,_,_,_,_,_,_⟩) (show Hh [int 0,is (.string _),int _,int _,int _,int _,int _,int _,int _,int _,int _,int _] (CK ⟨0,_,_,_,_,_,_,_,_,_,_⟩)from⟨Lr,Co _ Lr,Lr,Lr,Lr,Lr,Lr,Lr,Lr,Lr,Lr,Lr,trivial⟩)) (AJ _))⟩,⟨⟨Ab,VL.le vq (Pr.le_trans (Az (qs:=CK ⟨0,_,_,_,_,_,_,_,_,_,_⟩) (show Hh [int 0,is (.string _),int _,int _,int _,int _,int _,int _,int _,int _,int _,int _] (CK ⟨0,_,_,_,_,_,_,_,_,_,_⟩)from⟨Lr,Co _ Lr,Lr,Lr,Lr,Lr,Lr,Lr,Lr,Lr,Lr,Lr,trivial⟩)) (AJ _))⟩,⟨⟨Ab,VL.le vq (Pr.le_trans (Az (qs:=CK ⟨0,_,_,_,_,_,_,_,_,_,_⟩) (show Hh [int 0,is (.string _),int _,int _,int _,int _,int _,int _,int _,int _,int _,int _] (CK ⟨0,_,_,_,_,_,_,_,_,_,_⟩)from⟨Lr,Co _ Lr,Lr,Lr,Lr,Lr,Lr,Lr,Lr,Lr,Lr,Lr,trivial⟩)) (AJ _))⟩,⟨⟨Ab,VL.le vq (Pr.le_trans (Az (qs:=CK ⟨0,_,_,_,_,_,_,_,_,_,_⟩) (show Hh [int 0,is (.string _),int _,int _,int _,int _,int _,int _,int _,int _,int _,int _] (CK ⟨0,_,_,_,_,_,_,_,_,_,_⟩)from⟨Lr,Co _ Lr,Lr,Lr,Lr,Lr,Lr,Lr,Lr,Lr,Lr,Lr,trivial⟩)) (AJ _))⟩,⟨⟨Ab,VL.le vq (Pr.le_trans (Az (qs:=CK ⟨0,_,_,_,_,_,_,_,_,_,_⟩) (show Hh [int 0,is (.string _),int _,int _,int _,int _,int _,int _,int _,int _,int _,int _] (CK ⟨0,_,_,_,_,_,_,_,_,_,_⟩)from⟨Lr,Co _ Lr,Lr,Lr,Lr,Lr,Lr,Lr,Lr,Lr,Lr,Lr,trivial⟩)) (AJ _))⟩,⟨⟨Ab,VL.le vq (Pr.le_trans (Az (qs:=CK ⟨0,_,_,_,_,_,_,_,_,_,_⟩) (show Hh [int 0,is (.string _),int _,int _,int _,int _,int _,int _,int _,int _,int _,int _] (CK ⟨0,_,_,_,_,_,_,_,_,_,_⟩)from⟨Lr,Co _ Lr,Lr,Lr,Lr,Lr,Lr,Lr,Lr,Lr,Lr,Lr,trivial⟩)) (AJ _))⟩,trivial⟩⟩⟩⟩⟩⟩⟩⟩⟩⟩⟩⟩⟩⟩⟩⟩ AB AB) ?_))))));refine Cx.ef 0 rfl rfl AB (ND rfl rfl AB rfl vq) ?_;refine Cx.nil ⟨by kernel_rfl,?_⟩;refine BG.open_ 0 15 rfl rfl (fun v1=>?_);refine BG.done al1 (Fin.go (wk [15] rfl (Tr.seq (Tr.seq (Tr.NL 0 rfl fun b15 ADF ADG yG yH yI yJ=>?_)))));subst yG;refine ac ?_;refine co rfl (ET rfl underlying320 E4) ?_;refine ac ?_;refine Tr.block (Tr.GD _ (kk [113,15] rfl) (fun(k:Nat)=>[(114,int ((k:Nat):Int))]) (fun(k:Nat)=>Hp M0 w0 Ju ([AE true b15 260 (((jG (k)).map CK).flatten++ADG.map is)])) (fun(k:Nat)=>k<=16) (fun(k:Nat)=>16-k) (0)  (Nat.zero_le _) kz (fun _ _ h=>h) ?_);rintro k  hk0;refine ac ?_;refine Tr.seq ?_;refine Tr.cn rfl ?_ ?_<;>intro h1 q1
 have yK:k<16:=AQ h1;refine a2 ?_;refine Tr.At (tm rfl (tm rfl (tm rfl ?_)));refine tp rfl (Hf rfl vq vq ?hin) ?_;case hin=>unfold Sb;omega
 refine tp rfl (CX rfl underlying320 Dp E4 vq AA AA) (tp rfl (AG rfl cC vq) ?_);refine TO.ED 0 rfl rfl (BP rfl rfl vq Cf C4 rfl (by rw[List.length_append,za];show _<=192+_;omega) (uQ yK AA _)) ?_;refine TO.nil ?_;refine a2 ?_;exact Fin.ES (k+1)  (⟨by omega,by omega⟩) ⟨⟨_,rfl,AK k⟩,kz⟩ (fun _ _ h=>h);have hk:k=16:=by have:=AU h1;omega
 subst hk;refine ac ?_;refine Tr.seq ?_;refine Tr.Sm (sz:=12) (pU.map CK) 0 15 rfl rfl (Cy _ _) bP yH yI (by rw[List.length_map];exact yJ) ?_;refine a2 ?_
 .exact HM
theorem X2{code:Int}  :Aq prog 198 [int code] (EB [agg (CK (Jz code)),int (if KD code then 0 else 8)]):=by
 refine fo func198 rfl ⟨rfl,rfl⟩ fun M0 w0=>?_;have hL:pU.length=16:=rfl;refine Tr.seq (Tr.At ?_);refine Tl rfl rfl rfl rfl LW GU (fun b1=>?_);refine ap ?_;refine Tr.seq (Tr.Bo (co rfl (Ta (iK) rfl) ?_));refine ac ?_;refine ag ?_ ?_<;>intro h1 q1
 refine ac ?_;refine Tr.cond rfl (fun _=>?_) (fun h=>nomatch h);refine Tr.seq (Tr.At (tp rfl (Al (rows:=[]) rfl TK GU trivial rfl) (TO.Ac 0 rfl rfl rfl vq CM rfl Dp rfl rfl (tm rfl (TO.nil (Fin.go (wk [3,2] rfl (Tr.ret (Fin.AF (Fin.Bf rfl (AL.cell 0 rfl rfl Fi Dp rfl Lr) (AL.tmp rfl Lr) ?_))))))))))
 .exact jP
 refine an ?_ ?_<;>intro h2 q2
 refine ap ?_;refine wk [3,2] rfl (Tr.ret (Fin.AF (Fin.Bf rfl (AL.cell 0 rfl rfl Fi Dp rfl Lr) (AL.tmp rfl Lr) ?_)))
 .exact jP
 have hin:1<=code/\code<=16:=by omega
 refine ac ?_;refine ap ?_;refine tp rfl (AD rfl underlying320 Dp vq vq AA (CS (f:=CK) (nu AA))) ?_;refine ap ?_;refine wk [3,2] rfl (Tr.ret (Fin.Bf rfl (AL.cell 0 rfl rfl Fi Dp rfl Lr) (AL.tmp rfl Lr) ?_))
 .exact bB
theorem vp{b:Bool}(h:(!b)=true):b=false:=by cases b<;>simp_all
theorem ADf{b:Bool}(h:(!b)=false):b=true:=by cases b<;>simp_all
def oY(e:DY)(su:List Int):List Int:=if e.own then e.AR else su
def uR(c e:DY)(day v:Int)(su:List Int):Int×Int×Int:=
 match (oY e su)[(idx (Eu e su v) (oY e su)).toNat]? with
 |none=>(0,0,28)
 |some x=>match e.ids[(Jp e.ids x).toNat]? with
  |none=>(0,0,29)
  |some y=>if Ig y.chain c.anchors c.hashes day e.name=0 then(v,x,0)else(0,0,29)
def Ih(c e:DY)(day most:Int)(su:List Int):Int×Int×Int:=
 if(B5 c&&B5 e)=false then(0,0,19)else if day<0\/40000<day\/most<1\/4<most then(0,0,2)
 else if min most e.most<c.least\/min most e.most<e.least then(0,0,27)else if idx (Eu e su (min most e.most)) (oY e su)<0 then(0,0,28)else uR c e day (min most e.most) su
abbrev eE(e:DY)(v:Int)(su:List Int):List Pr:=[str e.name,int e.least,int e.most,ints e.AR,bool e.own,G7 e.ids,ints e.anchors,ints e.hashes,bool e.HQ,int v,ints su]
section
variable{c e:DY}{day most:Int}{su:List Int}
theorem JE(h:(B5 c&&B5 e)=false):Ih c e day most su=(0,0,19):=if_pos h
theorem Qx(h:(B5 c&&B5 e)=true)(h2:day<0\/40000<day\/most<1\/4<most):Ih c e day most su=(0,0,2):=(if_neg Gr).trans (if_pos h2)
theorem Q4(h:(B5 c&&B5 e)=true)(h2:¬(day<0\/40000<day\/most<1\/4<most))(h3:min most e.most<c.least\/min most e.most<e.least):Ih c e day most su=(0,0,27):=(if_neg Gr).trans ((if_neg h2).trans (if_pos h3))
theorem eF(h:(B5 c&&B5 e)=true)(h2:¬(day<0\/40000<day\/most<1\/4<most))(h3:¬(min most e.most<c.least\/min most e.most<e.least)):Ih c e day most su=if idx (Eu e su (min most e.most)) (oY e su)<0 then(0,0,28)else uR c e day (min most e.most) su:=(if_neg Gr).trans ((if_neg h2).trans (if_neg h3))
theorem eG{v x:Int}{y:E9}(hx:(oY e su)[(idx (Eu e su v) (oY e su)).toNat]? =some x)(hy:e.ids[(Jp e.ids x).toNat]? =some y):uR c e day v su=if Ig y.chain c.anchors c.hashes day e.name=0 then(v,x,0)else(0,0,29):=by
 unfold uR;rw[hx];dsimp only;rw[hy]
end
theorem zb{s:Su}{x:E9}  :Aq prog 325 [agg (BT x),ref (CK s)] (bool (Mq s x)):=by
 refine fo func325 rfl ⟨rfl,rfl⟩ fun M0 w0=>?_;refine ac ?_;refine ac ?_;refine Ch.cs 8 rfl ?_ ?_<;>intro h1 q1
 refine ac ?_;refine wk [3] rfl ?_;refine ac ?_
 .refine bool_eq ?_;unfold Mq;simp_all
 refine ac ?_;refine wk [3] rfl ?_;refine ac ?_
 .refine bool_eq ?_;unfold Mq;simp_all;cases h_:(x.CI==s.s1)<;>simp_all
theorem ze:Entry Tryz.prog 325:=⟨_,Tryz.func325,rfl,rfl⟩
theorem vr{code:Int}:Aq prog 267 [agg (As e),int code] (EB [int (Jp e.ids code),bool (decide (0<=Jp e.ids code))]):=by
 refine fo func267 rfl ⟨rfl,rfl⟩ fun M0 w0=>?_;refine ac ?_;refine ao ?_;refine tp rfl (BS (X2 (code:=code)) rfl rfl) ?_;refine ao ?_;refine Tl rfl rfl rfl rfl LW GU (fun b1=>?_);refine sf 0 6 ⟨rfl,rfl,rfl⟩ rfl rfl rfl rfl ?_;refine ao ?_;refine ac ?_;refine wk [15,6,2] rfl ?_;refine Tr.cn rfl ?_ ?_<;>intro h1 q1
 have hK:Jp e.ids code= -1:=by unfold Jp;exact if_neg (fun h_=>by rw[if_pos h_]at h1;exact absurd h1 AB)
 refine ac ?_;refine Tr.ret (Fin.AF (Fin.C_ rfl (CL.Eo _ _) rfl ?_ rfl ?_))
 .refine int_eq ?_;exact hK.symm
 .refine bool_eq ?_;rw[hK];rfl
 have hs:KD code=true:=by cases h_:KD code with|true=>rfl|false=>exact absurd h1 QA
 have hK:Jp e.ids code=idx (Mq (Jz code)) e.ids:=by unfold Jp;exact if_pos hs
 refine a2 ?_;refine co rfl (Aa rfl (ZI (l:=e.ids) (p:=Mq (Jz code))) ⟨kq,⟨_,rfl,DM (dom:=fun x:E9=>[agg (BT x)]) (res:=fun x=>bool (Mq (Jz code) x)) ze fun x=>zb⟩,trivial⟩) ?_;refine a2 ?_;refine Tr.ret (Fin.C_ rfl (CL.Eo _ _) rfl ?_ rfl ?_)
 .refine int_eq ?_;exact hK.symm
 .refine bool_eq ?_;rw[hK]
theorem uS{of:List Int}{v code:Int}:Aq prog 266 [agg (eE e v of),int code] (bool (Eu e of v code)):=by
 refine fo func266 rfl ⟨rfl,rfl⟩ fun M0 w0=>?_;refine ac ?_;refine ao ?_;refine tp rfl (BS (X2 (code:=code)) rfl rfl) ?_;refine ao ?_;refine Tl rfl rfl rfl rfl LW GU (fun b1=>?_);refine sf 0 5 ⟨rfl,rfl,rfl⟩ rfl rfl rfl rfl ?_;refine ao ?_;refine ac ?_;refine Ch.cs 16 rfl ?_ ?_<;>intro h1 q1
 refine ac ?_;refine wk [44,2,1] rfl ?_;refine ac ?_;refine ac ?_
 .exact P3
 refine ac ?_;refine Ch.cs 23 rfl ?_ ?_<;>intro h2 q2
 refine ac ?_;refine wk [44,2,1] rfl ?_;refine ac ?_;refine ac ?_
 .refine bool_eq ?_;unfold Eu;simp_all;omega
 refine ac ?_;refine Ch.cs 30 rfl ?_ ?_<;>intro h3 q3
 refine ac ?_;refine wk [44,2,1] rfl ?_;refine ac ?_;refine ac ?_
 .refine bool_eq ?_;unfold Eu;simp_all;omega
 refine ac ?_;refine cy h3 rfl (CG (E5) rfl rfl rfl) ?_;refine ac ?_;refine Ch.cs 37 rfl ?_ ?_<;>intro h4 q4
 refine ac ?_;refine wk [44,2,1] rfl ?_;refine ac ?_;refine ac ?_
 .refine bool_eq ?_;unfold Eu;simp_all;intros;exfalso;exact q4 _ Cs rfl
 refine ac ?_;refine cy h4 rfl (CG (E5) rfl rfl rfl) ?_;refine ac ?_;refine wk [44,2,1] rfl ?_;refine Tr.cn rfl ?_ ?_<;>intro h5 q5
 refine ac ?_;refine ac ?_
 .refine bool_eq ?_;unfold Eu;simp_all;intros;exfalso;exact q5 _ Cs rfl
 refine ac ?_;refine ac ?_;refine co rfl (CG (vr (e:=e) (code:=code)) rfl rfl rfl) ?_;refine ac ?_;refine ac ?_;refine wk [4] rfl ?_;refine ac ?_
 .exact P3
theorem uT:Entry Tryz.prog 266:=⟨_,Tryz.func266,rfl,rfl⟩
theorem zf{of:List Int}{v:Int}:Aq prog 264 [agg (eE e v of)] (ints of):=by
 refine fo func264 rfl ⟨rfl,rfl⟩ fun M0 w0=>?_;refine a3 ?_
 .exact Lr
theorem zg:Entry Tryz.prog 264:=⟨_,Tryz.func264,rfl,rfl⟩
theorem uU{of:List Int}{v:Int}:Aq prog 265 [agg (eE e v of)] (ints e.AR):=by
 refine fo func265 rfl ⟨rfl,rfl⟩ fun M0 w0=>?_;refine a3 ?_
 .exact Lr
theorem uV:Entry Tryz.prog 265:=⟨_,Tryz.func265,rfl,rfl⟩
theorem X3{c:DY}(hc:c.fits)(he:e.fits):Aq prog 224 [agg (As c),agg (As e)] (bool (B5 c&&B5 e)):=by
 refine fo func224 rfl ⟨rfl,rfl⟩ fun M0 w0=>?_
 .repeat' first|(refine bool_eq ?_;cases Tz:B5 c<;>cases h2_:B5 e<;>simp_all)|refine co rfl (BS (Dj hc) rfl rfl) ?_|refine cy h rfl (AO rfl Bw Bj vq rfl rfl) (cy h rfl (BS (Dj he) rfl rfl) ?_)|refine ac ?_|(refine Ch.cg rfl rfl rfl ?_ ?_<;>intro h q)
theorem uW{c:DY}{most:Int}{su:List Int}(hc:c.fits)(he:e.fits):Aq prog 225 [agg (As c),agg (As e),int day,int most,ints su] (EB [agg [int (Ih c e day most su).1,int (Ih c e day most su).2.1],int (Ih c e day most su).2.2]):=by
 refine fo func225 rfl ⟨rfl,rfl⟩ fun M0 w0=>?_;obtain⟨od,eH⟩:∃od,oY e su=od:=⟨_,rfl⟩;refine Tr.seq (Tr.At (tp rfl (BE rfl CM) (tp rfl (BE rfl CM) ?_)));refine Tl rfl rfl rfl rfl fA Hj (fun b1=>?_);refine ao ?_;refine ac ?_;refine co rfl (CG (X3 hc he) rfl rfl rfl) ?_;refine an ?_ ?_<;>intro h1 q1
 have hN:=JE (c:=c) (e:=e) (day:=day) (most:=most) (su:=su) (vp h1);refine ao ?_;refine TO.Ac 0 rfl rfl rfl vq CM rfl Cn rfl rfl ?_;refine ao ?_;refine Tr.ret (Fin.Ak (Fin.AF (Fin.Bf rfl (AL.cell 0 rfl rfl C5 Cn rfl Lr) (AL.tmp rfl Lr) ?_)))
 .exact GY
 have hr:(B5 c&&B5 e)=true:=ADf h1;refine ag ?_ ?_<;>intro h2 q2
 refine ac ?_;refine wk [24,10,6,5,4,3,2] rfl (Tr.cond rfl (fun _=>?_) (fun h=>nomatch h));refine Tr.seq (Tr.At (tp rfl (Al (rows:=[]) rfl Si Hj trivial rfl) (TO.Ac 0 rfl rfl rfl vq CM rfl Cn rfl rfl ?_)));refine ao ?_;refine Tr.ret (Fin.Ak (Fin.AF (Fin.Bf rfl (AL.cell 0 rfl rfl C5 Cn rfl Lr) (AL.tmp rfl Lr) ?_)))
 .exact N6
 refine ag ?_ ?_<;>intro h3 q3
 refine ac ?_;refine wk [24,10,6,5,4,3,2] rfl (Tr.cond rfl (fun _=>?_) (fun h=>nomatch h));refine Tr.seq (Tr.At (tp rfl (Al (rows:=[]) rfl Si Hj trivial rfl) (TO.Ac 0 rfl rfl rfl vq CM rfl Cn rfl rfl ?_)));refine ao ?_;refine Tr.ret (Fin.Ak (Fin.AF (Fin.Bf rfl (AL.cell 0 rfl rfl C5 Cn rfl Lr) (AL.tmp rfl Lr) ?_)))
 .exact N6
 refine ag ?_ ?_<;>intro h4 q4
 refine ac ?_;refine wk [24,10,6,5,4,3,2] rfl (Tr.cond rfl (fun _=>?_) (fun h=>nomatch h));refine Tr.seq (Tr.At (tp rfl (Al (rows:=[]) rfl Si Hj trivial rfl) (TO.Ac 0 rfl rfl rfl vq CM rfl Cn rfl rfl ?_)));refine ao ?_;refine Tr.ret (Fin.Ak (Fin.AF (Fin.Bf rfl (AL.cell 0 rfl rfl C5 Cn rfl Lr) (AL.tmp rfl Lr) ?_)))
 .exact N6
 refine ac ?_;refine wk [24,10,6,5,4,3,2] rfl ?_;refine Tr.cn rfl ?_ ?_<;>intro h5 q5
 have hN:=Qx (su:=su) hr (day:=day) (most:=most) K4;refine ao ?_;refine TO.Ac 0 rfl rfl rfl vq CM rfl Cn rfl rfl ?_;refine ao ?_;refine Tr.ret (Fin.Ak (Fin.AF (Fin.Bf rfl (AL.cell 0 rfl rfl C5 Cn rfl Lr) (AL.tmp rfl Lr) ?_)))
 .exact GY
 have hg:¬(day<0\/40000<day\/most<1\/4<most):=by simp_all<;>omega
 refine ac ?_;refine ao ?_;refine tp rfl (Yh rfl vq vq) ?_;refine ao ?_;refine TO.re 46 (agg (eE e (min most e.most) su)) rfl (Pr.le_of_eq rfl) ?_;refine Tl rfl rfl rfl rfl AFX vI (fun b2=>?_);refine sf 0 12 ⟨rfl,rfl,rfl⟩ rfl rfl rfl rfl ?_;refine ao ?_;refine wk [12,10,6,5,2] rfl ?_;refine ag ?_ ?_<;>intro h6 q6
 refine ac ?_;refine wk [58,12,10,6,5,2] rfl (Tr.cond rfl (fun _=>?_) (fun h=>nomatch h));refine Tr.seq (Tr.At (tp rfl (Al (rows:=[]) rfl Si Hj trivial rfl) (TO.Ac 0 rfl rfl rfl vq CM rfl Cn rfl rfl ?_)));refine ao ?_;refine Tr.ret (Fin.AF (Fin.Bf rfl (AL.cell 0 rfl rfl C5 Cn rfl Lr) (AL.tmp rfl Lr) ?_))
 .exact aP
 refine ac ?_;refine wk [58,12,10,6,5,2] rfl ?_;refine Tr.cn rfl ?_ ?_<;>intro h7 q7
 have hN:=Q4 (su:=su) hr hg K4;refine ao ?_;refine TO.Ac 0 rfl rfl rfl vq CM rfl Cn rfl rfl ?_;refine ao ?_;refine Tr.ret (Fin.AF (Fin.Bf rfl (AL.cell 0 rfl rfl C5 Cn rfl Lr) (AL.tmp rfl Lr) ?_))
 .exact GY
 have hG:=eF (su:=su) hr hg K4;rw[eH]at hG;refine a2 ?_;refine co rfl (RB rfl vq) ?_;refine ac ?_;refine wk [13,12,10,6,5,2] rfl (Tr.Sf [2,5,6,10,12] [(13,S7 prog (fun _:Unit=>[]) (fun _:Unit=>ints od))] (True) ?_ (fun h8=>?_));refine an ?_ ?_<;>intro h9 q9
 refine ac ?_;refine co rfl (RB rfl vq) ?_;refine ac ?_;exact Fin.AP () trivial ⟨⟨_,rfl,(by rw[show od=e.AR by rw[←eH];exact if_pos Cs];exact L3 uV fun _=>uU)⟩,kz⟩;refine Tr.skip ?_;exact Fin.AP () trivial ⟨⟨_,rfl,(by rw[show od=su by rw[←eH];exact if_neg CU];exact L3 zg fun _=>zf)⟩,kz⟩;refine ac ?_;refine co rfl (GC (dom:=fun _:Unit=>[]) () rfl vq trivial) ?_;refine a2 ?_;refine co rfl (RB rfl vq) ?_;refine co rfl (Aa rfl (NS (l:=od) (p:=Eu e su (min most e.most))) ⟨kq,⟨_,rfl,L3 (dom:=fun x:Int=>[int x]) (res:=fun x=>bool (Eu e su (min most e.most) x)) uT fun _=>uS⟩,trivial⟩) ?_;refine ac ?_;refine wk [15,14,12,10,6,5,2] rfl ?_;refine an ?_ ?_<;>intro h10 NT
 have hN:=hG.trans (if_pos NT);refine ao ?_;refine TO.Ac 0 rfl rfl rfl vq CM rfl Cn rfl rfl ?_;refine ao ?_;refine Tr.ret (Fin.AF (Fin.Bf rfl (AL.cell 0 rfl rfl C5 Cn rfl Lr) (AL.tmp rfl Lr) ?_))
 .exact GY
 replace hG:=hG.trans (if_neg (by have:=NT;omega))
 obtain⟨x,hx,hpx,_⟩:=Ji (l:=od) (p:=Eu e su (min most e.most)) (by have:=NT;omega);have eu:=Xu hpx;obtain⟨y,hy⟩:=dy eu
 replace hG:=hG.trans (eG (by rw[eH];exact hx) hy)
 refine a2 ?_;refine co rfl (AD rfl underlying22 C4 vq vq AA (CS hx)) (co rfl (FO rfl DP rfl) ?_);refine co rfl (CG (vr (e:=e)) rfl rfl rfl) ?_;refine ac ?_;refine wk [16,15,14,12,10,6,5,2] rfl ?_;refine ac ?_;refine co rfl (AD rfl underlying71 B8 vq vq AA (CS hy)) ?_;refine ac ?_;refine co rfl (kg (oW (he.ids y (List.mem_of_getElem? hy))) rfl rfl rfl rfl rfl rfl) ?_;refine ac ?_;refine wk [98,15,14,12,10] rfl ?_;refine Tr.cn rfl ?_ ?_<;>intro h11 Rl
 have hN:=hG.trans (if_neg (by simpa using h11));refine ao ?_;refine TO.Ac 0 rfl rfl rfl vq CM rfl Cn rfl rfl ?_;refine ao ?_;refine Tr.ret (Fin.AF (Fin.Bf rfl (AL.cell 0 rfl rfl C5 Cn rfl Lr) (AL.tmp rfl Lr) ?_))
 .exact GY
 have hN:=hG.trans (if_pos (by simpa using h11));refine ac ?_;refine Tr.seq (Tr.rx ?_);refine ay ?_;refine xo rfl (fun _=>AD rfl underlying22 C4 vq vq AA (CS hx)) ?_;refine ay ?_;refine Cx.nil ⟨by kernel_rfl,?_⟩;refine BG.done al1 (Fin.go (Tr.ret (Fin.Bf rfl (AL.cell 0 rfl rfl C5 Cn rfl Lr) (AL.tmp rfl Lr) ?_)))
 .exact GY
theorem iL{c:DY}(hc:c.fits)(he:e.fits):Aq prog 166 [agg (As c),agg (As e),int day] (EB [agg [int (Ih c e day c.most c.AR).1,int (Ih c e day c.most c.AR).2.1],int (Ih c e day c.most c.AR).2.2]):=by
 refine fo func166 rfl ⟨rfl,rfl⟩ fun M0 w0=>(Tr.seq (Tr.At (tp rfl (BE rfl CM) (tp rfl (BE rfl CM) ?_))));refine Tl rfl rfl rfl rfl fA Hj (fun b1=>?_);refine ap ?_;refine ac ?_;refine co rfl (CG (X3 hc he) rfl rfl rfl) ?_;refine an ?_ ?_<;>intro h1 q1
 have hN:=JE (c:=c) (e:=e) (day:=day) (most:=c.most) (su:=c.AR) (vp h1);refine ap ?_;refine Tr.ret (Fin.AF (Fin.Bf rfl (AL.cell 0 rfl rfl C5 Cn rfl Lr) (AL.tmp rfl Lr) ?_))
 .exact GY
 refine ac ?_;refine ap ?_;refine tp rfl (kg (uW hc he) rfl rfl rfl rfl rfl rfl) ?_;refine ap ?_;refine wk [7,6] rfl (Tr.ret (Fin.Bf rfl (AL.cell 0 rfl rfl C5 Cn rfl Lr) (AL.tmp rfl Lr) ?_))
 .exact Lr
theorem uX{c:DY}{most:Int}{su:List Int}(hc:c.small)(he:e.small)(hsu:su.length<=1000000):Aq prog 59 [agg (As c),agg (As e),int day,int most,ints su] (EB [agg [int (Ih c e day most su).1,int (Ih c e day most su).2.1],int (Ih c e day most su).2.2]):=by
 refine fo func59 rfl ⟨rfl,rfl⟩ fun M0 w0=>(Tr.Dr 4 rfl fun AHN=>?_);obtain⟨od,eH⟩:∃od,oY e su=od:=⟨_,rfl⟩;have hol:od.length<=9223372036854775807:=by have:=he.AR;rw[←eH];unfold oY;split<;>omega
 refine Tr.seq (Tr.At (tp rfl (BE rfl CM) (tp rfl (BE rfl CM) ?_)));refine Tl rfl rfl rfl rfl fA Hj (fun b1=>?_);refine ap ?_;refine ac ?_;refine co rfl (BS (JA hc) rfl rfl) ?_;refine ag ?_ ?_<;>intro h1 q1
 refine ac ?_;refine Tr.cond rfl (fun _=>?_) (fun h=>nomatch h);refine Tr.seq (Tr.At (tp rfl (Al (rows:=[]) rfl Si Hj trivial rfl) (TO.Ac 0 rfl rfl rfl vq CM rfl Cn rfl rfl (tm rfl (TO.nil (Fin.go (wk [11,10] rfl (Tr.ret (Fin.AF (Fin.Bf rfl (AL.cell 0 rfl rfl C5 Cn rfl Lr) (AL.tmp rfl Lr) ?_))))))))))
 .have hN:=JE (c:=c) (e:=e) (day:=day) (most:=most) (su:=su) CU;exact BU ⟨Pr.le_of_eq wD,int_eq wC,trivial⟩
 refine cy h1 rfl (AO rfl Bw Bj vq rfl rfl) (cy h1 rfl (BS (JA he) rfl rfl) ?_);refine an ?_ ?_<;>intro h2 q2
 have hN:=JE (c:=c) (e:=e) (day:=day) (most:=most) (su:=su) (by cases Tz:B5 c<;>cases h2_:B5 e<;>simp_all);refine ap ?_;refine wk [11,10] rfl (Tr.ret (Fin.AF (Fin.Bf rfl (AL.cell 0 rfl rfl C5 Cn rfl Lr) (AL.tmp rfl Lr) ?_)))
 .exact GY
 have hr:(B5 c&&B5 e)=true:=by cases Tz:B5 c<;>cases h2_:B5 e<;>simp_all
 refine ac ?_;refine ag ?_ ?_<;>intro h3 q3
 refine ac ?_;refine wk [39,10,6,5,4,3,2] rfl (Tr.cond rfl (fun _=>?_) (fun h=>nomatch h));refine Tr.seq (Tr.At (tp rfl (Al (rows:=[]) rfl Si Hj trivial rfl) (TO.Ac 0 rfl rfl rfl vq CM rfl Cn rfl rfl (tm rfl (TO.nil (Fin.go (Tr.ret (Fin.AF (Fin.Bf rfl (AL.cell 0 rfl rfl C5 Cn rfl Lr) (AL.tmp rfl Lr) ?_)))))))))
 .exact N6
 refine ag ?_ ?_<;>intro h4 q4
 refine ac ?_;refine wk [39,10,6,5,4,3,2] rfl (Tr.cond rfl (fun _=>?_) (fun h=>nomatch h));refine Tr.seq (Tr.At (tp rfl (Al (rows:=[]) rfl Si Hj trivial rfl) (TO.Ac 0 rfl rfl rfl vq CM rfl Cn rfl rfl (tm rfl (TO.nil (Fin.go (Tr.ret (Fin.AF (Fin.Bf rfl (AL.cell 0 rfl rfl C5 Cn rfl Lr) (AL.tmp rfl Lr) ?_)))))))))
 .exact N6
 refine ag ?_ ?_<;>intro h5 q5
 refine ac ?_;refine wk [39,10,6,5,4,3,2] rfl (Tr.cond rfl (fun _=>?_) (fun h=>nomatch h));refine Tr.seq (Tr.At (tp rfl (Al (rows:=[]) rfl Si Hj trivial rfl) (TO.Ac 0 rfl rfl rfl vq CM rfl Cn rfl rfl (tm rfl (TO.nil (Fin.go (Tr.ret (Fin.AF (Fin.Bf rfl (AL.cell 0 rfl rfl C5 Cn rfl Lr) (AL.tmp rfl Lr) ?_)))))))))
 .exact N6
 refine ac ?_;refine wk [39,10,6,5,4,3,2] rfl ?_;refine Tr.cn rfl ?_ ?_<;>intro h6 q6
 have hN:=Qx (su:=su) hr (day:=day) (most:=most) K4;refine ap ?_;refine Tr.ret (Fin.AF (Fin.Bf rfl (AL.cell 0 rfl rfl C5 Cn rfl Lr) (AL.tmp rfl Lr) ?_))
 .exact GY
 have hg:¬(day<0\/40000<day\/most<1\/4<most):=by simp_all<;>omega
 refine a2 ?_;refine co rfl (Yh rfl vq vq) ?_;refine ac ?_;refine ag ?_ ?_<;>intro h7 q7
 refine ac ?_;refine wk [54,12,10,6,5,4,2] rfl (Tr.cond rfl (fun _=>?_) (fun h=>nomatch h));refine Tr.seq (Tr.At (tp rfl (Al (rows:=[]) rfl Si Hj trivial rfl) (TO.Ac 0 rfl rfl rfl vq CM rfl Cn rfl rfl (tm rfl (TO.nil (Fin.go (Tr.ret (Fin.AF (Fin.Bf rfl (AL.cell 0 rfl rfl C5 Cn rfl Lr) (AL.tmp rfl Lr) ?_)))))))))
 .exact aP
 refine ac ?_;refine wk [54,12,10,6,5,4,2] rfl ?_;refine Tr.cn rfl ?_ ?_<;>intro h8 q8
 have hN:=Q4 (su:=su) hr hg K4;refine ap ?_;refine Tr.ret (Fin.AF (Fin.Bf rfl (AL.cell 0 rfl rfl C5 Cn rfl Lr) (AL.tmp rfl Lr) ?_))
 .exact GY
 have hG:=eF (su:=su) hr hg K4;rw[eH]at hG;refine a2 ?_;refine wk [13,12,10,6,5,4,2] rfl (Tr.Sf [2,4,5,6,10,12] [(13,ints od)] (True) ?_ (fun h9=>?_));refine an ?_ ?_<;>intro h10 NT
 refine ac ?_;exact Fin.AP () trivial ⟨⟨_,rfl,Pr.le_of_eq (by rw[←eH];unfold oY;simp_all)⟩,kz⟩;refine Tr.skip ?_;exact Fin.AP () trivial ⟨⟨_,rfl,Pr.le_of_eq (by rw[←eH];unfold oY;simp_all)⟩,kz⟩;refine ac ?_;refine Tr.block (Tr.BV _ (kk [13,12,10,6,5,4,2] rfl) (fun k:Nat=>[(14,int ((k:Nat):Int))]) (fun k:Nat=>k<=(od).length/\(∀j y,j<k->od[j]? =some y->Eu e su (min most e.most) y=false)) (fun k:Nat=>(od).length-k) 0 (⟨Nat.zero_le _,fun j y hj=>absurd hj AA⟩) kz ?_);rintro k ⟨BN,AW⟩;refine an ?_ ?_<;>intro h11 Rl
 have Ae:k<(od).length:=AQ h11;obtain⟨x,Ad⟩:=at_ Ae;refine a2 ?_;refine co rfl (AD rfl underlying22 C4 vq vq AA (Ap Ad)) (co rfl (FO rfl DP rfl) ?_);refine co rfl (kc4 (Sy (e:=e) he.SY) rfl rfl rfl rfl rfl) ?_;refine ac ?_;refine wk [75,14,13,12,10,6,5,4,2] rfl ?_;refine Tr.cn rfl ?_ ?_<;>intro h12 Tn
 refine a2 ?_;exact Fin.AP (k+1) ⟨⟨Ae,C3 (p:=Eu e su (min most e.most)) Ad CU AW⟩,by omega⟩ ⟨⟨_,rfl,AK k⟩,kz⟩;have hp:Eu e su (min most e.most) x=true:=by simpa using h12
 have hi:=Dv Ad hp AW
 replace hG:=hG.trans (if_neg (by rw[←hi];omega))
 have eu:=Xu hp;obtain⟨y,hy⟩:=dy eu
 replace hG:=hG.trans (eG (by rw[eH,←hi,Int.toNat_natCast];exact Ad) hy)
 refine a2 ?_;refine co rfl (AD rfl underlying22 C4 vq vq AA (Ap Ad)) (co rfl (FO rfl DP rfl) ?_);refine co rfl (CG (Ly (e:=e) he.SY) rfl rfl rfl) ?_;refine ac ?_;refine wk [15,14,13,12,10,6,5,2] rfl ?_;refine ac ?_;refine co rfl (AD rfl underlying71 B8 vq vq AA (CS hy)) ?_;refine ac ?_;refine co rfl (kg (oK) rfl rfl rfl rfl rfl rfl) ?_;refine ac ?_;refine wk [99,14,13,12,10] rfl ?_;refine Tr.cn rfl ?_ ?_<;>intro LX YN
 have hN:=hG.trans (if_neg (by simpa using LX));refine ap ?_;refine Tr.ret (Fin.AF (Fin.Ak (Fin.AF (Fin.AF (Fin.Ak (Fin.AF (Fin.Bf rfl (AL.cell 0 rfl rfl C5 Cn rfl Lr) (AL.tmp rfl Lr) ?_)))))))
 .exact GY
 have hN:=hG.trans (if_pos (by simpa using LX));refine ac ?_;refine ap ?_;refine tp rfl (AD rfl underlying22 C4 vq vq AA (Ap Ad)) ?_;refine ap ?_;refine Tr.ret (Fin.Ak (Fin.AF (Fin.AF (Fin.Ak (Fin.AF (Fin.Bf rfl (AL.cell 0 rfl rfl C5 Cn rfl Lr) (AL.tmp rfl Lr) ?_))))))
 .exact GY
 have BA:k=(od).length:=by have:=AU h11;omega
 subst BA;have hN:=hG.trans (if_pos (by rw[←HZ AW];decide));refine ac ?_;refine ap ?_;refine wk [11,10] rfl (Tr.ret (Fin.Bf rfl (AL.cell 0 rfl rfl C5 Cn rfl Lr) (AL.tmp rfl Lr) ?_))
 .exact GY
theorem X4{c:DY}:Ih c e day (max 1 (min 4 c.most)) c.AR=Ih c e day c.most c.AR:=by
 cases h:(B5 c&&B5 e)with
 |false=>rw[JE h,JE h]
 |true=>
  have h1:=zN (by rw[Bool.and_eq_true]at h;exact h.1)
  have h2:c.least<=c.most:=by
   rw[Bool.and_eq_true]at h;have h3:=h.1;unfold B5 at h3;simp only[Bool.and_eq_true,decide_eq_true_eq]at h3;omega
  rw[show max 1 (min 4 c.most)=c.most by omega]
theorem iM{c:DY}(hc:c.small)(he:e.small):Aq prog 35 [agg (As c),agg (As e),int day] (EB [agg [int (Ih c e day c.most c.AR).1,int (Ih c e day c.most c.AR).2.1],int (Ih c e day c.most c.AR).2.2]):=by
 refine fo func35 rfl ⟨rfl,rfl⟩ fun M0 w0=>?_;have hsu:=hc.AR;rw[←X4 (c:=c) (e:=e) (day:=day)];refine Tr.seq (Tr.At (tp rfl (BE rfl CM) (tp rfl (BE rfl CM) ?_)));refine Tl rfl rfl rfl rfl fA Hj (fun b1=>?_);refine ap ?_;refine ap ?_;refine tp rfl (Yh rfl vq vq) (tp rfl (Ur rfl vq vq) ?_);refine ap ?_;refine tp rfl (kg (uX hc he AA) rfl rfl rfl rfl rfl rfl) ?_;refine ap ?_;refine wk [7,6] rfl (Tr.ret (Fin.Bf rfl (AL.cell 0 rfl rfl C5 Cn rfl Lr) (AL.tmp rfl Lr) ?_))
 .exact Lr
def PX(s:Es)(BB day:Int):Int×Int×Int:=
 if EO s=false then(0,0,31)else if BB<0\/(s.BR.length:Int)<=BB then(0,0,4)
 else Ih (s.Bu[(s.BR[BB.toNat]?.getD FD).client.toNat]?.getD BO) (s.Bu[(s.BR[BB.toNat]?.getD FD).server.toNat]?.getD BO) day (s.Bu[(s.BR[BB.toNat]?.getD FD).client.toNat]?.getD BO).most (s.Bu[(s.BR[BB.toNat]?.getD FD).client.toNat]?.getD BO).AR
def X5(s:Es)(BB a b:Int):Int×Int×Int:=
 if(PX s BB a).2.2≠0 then(0,0,(PX s BB a).2.2)else if(PX s BB b).2.2≠0 then(0,0,(PX s BB b).2.2)else if b<a then(0,0,13)else PX s BB a
theorem uY{s:Es}{BB:Int}(h:EO s=false):PX s BB day=(0,0,31):=if_pos h
theorem oZ{s:Es}{BB:Int}(h:EO s=true)(h2:BB<0\/(s.BR.length:Int)<=BB):PX s BB day=(0,0,4):=(if_neg Gr).trans (if_pos h2)
theorem oa{s:Es}{BB:Int}{g:PR}{c:DY}(h:EO s=true)(h2:¬(BB<0\/(s.BR.length:Int)<=BB))(hg:s.BR[BB.toNat]? =some g)(hc:s.Bu[g.client.toNat]? =some c)(he:s.Bu[g.server.toNat]? =some e):PX s BB day=Ih c e day c.most c.AR:=by
 refine(if_neg Gr).trans ((if_neg h2).trans ?_);rw[hg,Option.getD_some,hc,he];rfl
theorem WB{s:Es}{BB:Int}(h:EO s=true)(h2:¬(BB<0\/(s.BR.length:Int)<=BB)):∃g c e,s.BR[BB.toNat]? =some g/\0<=g.client/\0<=g.server/\s.Bu[g.client.toNat]? =some c/\s.Bu[g.server.toNat]? =some e:=by
 have ok:=F3.1 h;obtain⟨g,hg⟩:=at_ (l:=s.BR) (k:=BB.toNat) AA;have h3:=ok.ed BB.toNat AA;unfold DO at h3;rw[getD_at hg]at h3;simp only[Bool.and_eq_true,decide_eq_true_eq]at h3;obtain⟨c,hc⟩:=at_ (l:=s.Bu) (k:=g.client.toNat) AA;obtain⟨e,he⟩:=at_ (l:=s.Bu) (k:=g.server.toNat) AA;exact⟨g,c,e,hg,by omega,by omega,hc,he⟩
def Pp(s:Es)(BB:Int):DY×DY:=if EO s=true/\¬(BB<0\/(s.BR.length:Int)<=BB)then(s.Bu[(s.BR[BB.toNat]?.getD FD).client.toNat]?.getD BO,s.Bu[(s.BR[BB.toNat]?.getD FD).server.toNat]?.getD BO)else(BO,BO)
theorem eI{s:Es}{BB:Int}{g:PR}{c:DY}(h:EO s=true)(h2:¬(BB<0\/(s.BR.length:Int)<=BB))(hg:s.BR[BB.toNat]? =some g)(hc:s.Bu[g.client.toNat]? =some c)(he:s.Bu[g.server.toNat]? =some e):Pp s BB=(c,e):=by
 unfold Pp;rw[if_pos ⟨h,h2⟩,hg,Option.getD_some,hc,he];rfl
theorem aJ{s:Es}{BB:Int}(h:EO s=false\/BB<0\/(s.BR.length:Int)<=BB):Pp s BB=(BO,BO):=by
 unfold Pp;refine if_neg fun h1=>?_;rcases h with h|h
 .rw[h]at h1;exact absurd h1.1 AB
 .exact h1.2 h
def X6(s:Es)(BB:Int):Int:=if EO s=false then 31 else if BB<0\/(s.BR.length:Int)<=BB then 4 else 0
theorem Ny{s:Es}{BB:Int}(h:EO s=false):X6 s BB=31:=if_pos h
theorem Kx{s:Es}{BB:Int}(h:EO s=true)(h2:BB<0\/(s.BR.length:Int)<=BB):X6 s BB=4:=(if_neg Gr).trans (if_pos h2)
theorem WC{s:Es}{BB:Int}(h:EO s=true)(h2:¬(BB<0\/(s.BR.length:Int)<=BB)):X6 s BB=0:=(if_neg Gr).trans (if_neg h2)
theorem eJ{s:Es}{BB:Int}(h:¬X6 s BB≠0):EO s=true/\¬(BB<0\/(s.BR.length:Int)<=BB):=by
 cases hb:EO s with
 |false=>exact absurd (by rw[Ny hb];decide) h
 |true=>exact⟨rfl,fun h2=>h (by rw[Kx hb h2];decide)⟩
theorem eK{s:Es}{BB:Int}(h:X6 s BB≠0):PX s BB day=(0,0,X6 s BB):=by
 cases hb:EO s with
 |false=>rw[uY hb,Ny hb]
 |true=>
  by_cases hr:BB<0\/(s.BR.length:Int)<=BB
  .rw[oZ hb hr,Kx hb hr]
  .exact absurd (WC hb hr) h
theorem uZ{s:Es}{BB:Int}(hs:s.fits):Aq prog 164 [agg (CF s),int BB] (int (X6 s BB)):=by
 refine fo func164 rfl ⟨rfl,rfl⟩ fun M0 w0=>?_;have hl:=hs.lg;refine a2 ?_;refine co rfl (BS (FP hs) rfl rfl) ?_;refine an ?_ ?_<;>intro h1 q1
 refine a2 ?_
 .exact int_eq (Ny (by cases h_:EO s<;>simp_all)).symm
 have hb:EO s=true:=by cases h_:EO s<;>simp_all
 .repeat' first|exact int_eq (Kx hb AA).symm|exact int_eq (WC hb AA).symm|refine ac ?_|(refine Tr.cn rfl ?_ ?_<;>intro h q)|(refine Ch.cg rfl rfl rfl ?_ ?_<;>intro h q)
theorem zh{s:Es}{BB:Int}{g:PR}{c:DY}(h0:0<=BB)(hg:s.BR[BB.toNat]? =some g)(hg1:0<=g.client)(cr:0<=g.server)(hc:s.Bu[g.client.toNat]? =some c)(he:s.Bu[g.server.toNat]? =some e):Aq prog 165 [agg (CF s),int BB] (EB [agg (As c),agg (As e)]):=by
 refine fo func165 rfl ⟨rfl,rfl⟩ fun M0 w0=>(Tr.seq (Tr.At (tp rfl (BE rfl CM) ?_)));refine Tl rfl rfl rfl rfl HU Dn (fun b1=>?_);refine Tl rfl rfl rfl rfl HU Dn (fun b2=>?_);refine ao ?_;refine ao ?_;refine tp rfl (AD rfl underlying29 I0 vq vq AA (CS hg)) (tp rfl (AO rfl kG I0 vq rfl rfl) ?_);refine Tl rfl rfl rfl rfl z82 fC (fun b3=>?_);refine sf 0 6 ⟨rfl,rfl,rfl⟩ rfl rfl rfl rfl ?_;refine ao ?_;refine Tr.seq (Tr.rx ?_);refine ay ?_;refine xo rfl (fun _=>AD rfl underlying28 Bj vq vq AA (CS hc)) ?_;refine ay ?_;refine xo rfl (fun _=>AD rfl underlying28 Bj vq vq AA (CS he)) ?_;refine ay ?_;refine Cx.nil ⟨by kernel_rfl,?_⟩;refine BG.done WN (Fin.go (wk [5,4] rfl (Tr.ret (Fin.Bf rfl (AL.cell 1 rfl rfl Bw Bj rfl Lr) (AL.cell 0 rfl rfl Bw Bj rfl Lr) ?_))));refine BU ⟨?_,?_,trivial⟩
 .exact Lr
 .exact Lr
theorem X7{s:Es}{BB:Int}(hs:s.fits):Aq prog 101 [agg (CF s),int BB,int day] (EB [agg [int (PX s BB day).1,int (PX s BB day).2.1],int (PX s BB day).2.2]):=by
 refine fo func101 rfl ⟨rfl,rfl⟩ fun M0 w0=>(Tr.seq (Tr.At (tp rfl (BE rfl CM) ?_)));refine Tl rfl rfl rfl rfl fA Hj (fun b1=>?_);refine ao ?_;refine ac ?_;refine co rfl (CG (uZ hs) rfl rfl rfl) ?_;refine ac ?_;refine an ?_ ?_<;>intro h1 q1
 have hN:=eK (day:=day) H_;refine ao ?_;refine TO.Ac 0 rfl rfl rfl vq CM rfl Cn rfl rfl ?_;refine ao ?_;refine Tr.ret (Fin.AF (Fin.Bf rfl (AL.cell 0 rfl rfl C5 Cn rfl Lr) (AL.tmp rfl Lr) ?_))
 .exact IX
 obtain⟨hb,hr⟩:=eJ (s:=s) (BB:=BB) H_;obtain⟨g,c,e,hg,hg1,cr,hc,he⟩:=WB hb hr;have hN:=oa (day:=day) hb hr hg hc he;refine ac ?_;refine ao ?_;refine tp rfl (CG (zh AA hg hg1 cr hc he) rfl rfl rfl) ?_;refine ao ?_;refine Tl rfl rfl rfl rfl HU Dn (fun b2=>?_);refine Tl rfl rfl rfl rfl HU Dn (fun b3=>?_);refine sf 1 9 ⟨rfl,rfl,rfl⟩ rfl rfl rfl rfl ?_;refine sf 0 10 ⟨rfl,rfl,rfl⟩ rfl rfl rfl rfl ?_;refine ao ?_;refine wk [10,9,6,2] rfl ?_;refine ao ?_;refine tp rfl (Wz (iL (hs.Bu c (List.mem_of_getElem? hc)).1 (hs.Bu e (List.mem_of_getElem? he)).1) rfl rfl rfl rfl) ?_;refine ao ?_;refine TO.Ac 0 rfl rfl rfl vq CM rfl Cn rfl rfl ?_;refine ao ?_;refine Tr.ret (Fin.Bf rfl (AL.cell 0 rfl rfl C5 Cn rfl Lr) (AL.tmp rfl Lr) ?_)
 .exact IX
theorem iN{s:Es}{BB fr to:Int}(hs:s.fits):Aq prog 57 [agg (CF s),int BB,int fr,int to] (EB [agg [int (X5 s BB fr to).1,int (X5 s BB fr to).2.1],int (X5 s BB fr to).2.2]):=by
 refine fo func57 rfl ⟨rfl,rfl⟩ fun M0 w0=>(Tr.seq (Tr.At (tp rfl (BE rfl CM) ?_)));refine Tl rfl rfl rfl rfl fA Hj (fun b1=>?_);refine ao ?_;refine ao ?_;refine tp rfl (Wz (X7 hs) rfl rfl rfl rfl) ?_;refine ao ?_;refine Tl rfl rfl rfl rfl fA Hj (fun b2=>?_);refine sf 0 10 ⟨rfl,rfl,rfl⟩ rfl rfl rfl rfl ?_;refine ao ?_;refine wk [11,10,8,4,3,2,1] rfl ?_;refine an ?_ ?_<;>intro h1 q1
 have hN:X5 s BB fr to=(0,0,(PX s BB fr).2.2):=if_pos H_;refine ao ?_;refine TO.Ac 0 rfl rfl rfl vq CM rfl Cn rfl rfl ?_;refine ao ?_;refine Tr.ret (Fin.AF (Fin.Bf rfl (AL.cell 0 rfl rfl C5 Cn rfl Lr) (AL.tmp rfl Lr) ?_))
 .exact IX
 have je:¬(PX s BB fr).2.2≠0:=by simpa using h1
 refine ac ?_;refine ao ?_;refine tp rfl (Wz (X7 hs) rfl rfl rfl rfl) ?_;refine ao ?_;refine Tl rfl rfl rfl rfl fA Hj (fun b3=>?_);refine sf 0 12 ⟨rfl,rfl,rfl⟩ rfl rfl rfl rfl ?_;refine ao ?_;refine wk [13,10,8,3,2] rfl ?_;refine an ?_ ?_<;>intro h2 q2
 have hN:X5 s BB fr to=(0,0,(PX s BB to).2.2):=(if_neg je).trans (if_pos M8);refine ao ?_;refine TO.Ac 0 rfl rfl rfl vq CM rfl Cn rfl rfl ?_;refine ao ?_;refine Tr.ret (Fin.AF (Fin.Bf rfl (AL.cell 0 rfl rfl C5 Cn rfl Lr) (AL.tmp rfl Lr) ?_))
 .exact IX
 have hb_:¬(PX s BB to).2.2≠0:=by simpa using h2
 refine ac ?_;refine an ?_ ?_<;>intro h3 q3
 have hN:X5 s BB fr to=(0,0,13):=(if_neg je).trans ((if_neg hb_).trans (if_pos H9));refine ao ?_;refine TO.Ac 0 rfl rfl rfl vq CM rfl Cn rfl rfl ?_;refine ao ?_;refine Tr.ret (Fin.AF (Fin.Bf rfl (AL.cell 0 rfl rfl C5 Cn rfl Lr) (AL.tmp rfl Lr) ?_))
 .exact IX
 have hN:X5 s BB fr to=PX s BB fr:=(if_neg je).trans ((if_neg hb_).trans (if_neg H9));refine ac ?_;refine ao ?_;refine TO.Ac 0 rfl rfl rfl vq CM rfl Cn rfl rfl ?_;refine ao ?_;refine Tr.ret (Fin.Bf rfl (AL.cell 0 rfl rfl C5 Cn rfl Lr) (AL.tmp rfl Lr) ?_)
 .exact az
theorem uc{s:Es}{BB:Int}(hs:s.fits):Aq prog 34 [agg (CF s),int BB] (EB [agg (As (Pp s BB).1),agg (As (Pp s BB).2),int (X6 s BB)]):=by
 refine fo func34 rfl ⟨rfl,rfl⟩ fun M0 w0=>?_;have hl:=hs.lg;refine Tr.seq (Tr.At (tp rfl (BE rfl CM) ?_));refine Tl rfl rfl rfl rfl HU Dn (fun b1=>?_);refine Tl rfl rfl rfl rfl HU Dn (fun b2=>?_);refine ap ?_;refine ac ?_;refine co rfl (BS (Mf hs) rfl rfl) ?_;refine an ?_ ?_<;>intro h1 q1
 have hb:EO s=false:=by cases h_:EO s<;>simp_all
 have hX:=aJ (BB:=BB) (.inl hb);have hN:=Ny (BB:=BB) hb;refine ap ?_;refine Tr.ret (Fin.AF (Fin.EY rfl (AL.cell 1 rfl rfl Bw Bj rfl Lr) (AL.cell 0 rfl rfl Bw Bj rfl Lr) (AL.tmp rfl Lr) ?_))
 .exact BU ⟨Pr.le_trans (Az (qs:=As BO) ⟨Lr,Lr,Lr,AH 1,Lr,AH 4,AH 1,AH 1,Lr,trivial⟩) (Pr.le_of_eq aS),Pr.le_trans (Az (qs:=As BO) ⟨Lr,Lr,Lr,AH 1,Lr,AH 4,AH 1,AH 1,Lr,trivial⟩) (Pr.le_of_eq aS),int_eq hN.symm,trivial⟩
 have hb:EO s=true:=by cases h_:EO s<;>simp_all
 refine ac ?_;refine ag ?_ ?_<;>intro h2 q2
 refine ac ?_;refine wk [20,5,4,2,1] rfl (Tr.cond rfl (fun _=>?_) (fun h=>nomatch h));refine Tr.seq (Tr.At (tp rfl (Al (rows:=[]) rfl fB Dn trivial rfl) (tp rfl (Al (rows:=[]) rfl fB Dn trivial rfl) (TO.Ac 1 rfl rfl rfl vq CM rfl Bj rfl rfl (TO.Ac 0 rfl rfl rfl vq CM rfl Bj rfl rfl (tm rfl (TO.nil (Fin.go (Tr.ret (Fin.AF (Fin.EY rfl (AL.cell 1 rfl rfl Bw Bj rfl Lr) (AL.cell 0 rfl rfl Bw Bj rfl Lr) (AL.tmp rfl Lr) ?_)))))))))))
 .exact jH
 refine ac ?_;refine wk [20,5,4,2,1] rfl ?_;refine Tr.cn rfl ?_ ?_<;>intro h3 q3
 refine ap ?_;refine Tr.ret (Fin.AF (Fin.EY rfl (AL.cell 1 rfl rfl Bw Bj rfl Lr) (AL.cell 0 rfl rfl Bw Bj rfl Lr) (AL.tmp rfl Lr) ?_))
 .exact jH
 have hr:¬(BB<0\/(s.BR.length:Int)<=BB):=by have:=q3;omega
 obtain⟨g,c,e,hg,hg1,cr,hc,he⟩:=WB hb hr;have hX:=eI hb hr hg hc he;have hN:=WC hb hr;refine ac ?_;refine Tr.seq (Tr.rx ?_);refine ay ?_;refine xo rfl (fun _=>AD rfl underlying29 I0 vq vq AA (CS hg)) ?_;refine ay ?_;refine xo rfl (fun _=>AD rfl underlying28 Bj vq vq AA (CS hc)) ?_;refine ay ?_;refine xo rfl (fun _=>AD rfl underlying29 I0 vq vq AA (CS hg)) ?_;refine ay ?_;refine xo rfl (fun _=>AD rfl underlying28 Bj vq vq AA (CS he)) ?_;refine ay ?_;refine Cx.nil ⟨by kernel_rfl,?_⟩;refine BG.done WN (Fin.go (wk [6,5,4] rfl (Tr.ret (Fin.EY rfl (AL.cell 1 rfl rfl Bw Bj rfl Lr) (AL.cell 0 rfl rfl Bw Bj rfl Lr) (AL.tmp rfl Lr) ?_))))
 .exact BU ⟨Pr.le_of_eq (by rw[hX]<;>rfl),Pr.le_of_eq (by rw[hX]<;>rfl),int_eq hN.symm,trivial⟩
theorem X8{s:Es}{BB:Int}(hs:s.fits):Aq prog 14 [agg (CF s),int BB,int day] (EB [agg [int (PX s BB day).1,int (PX s BB day).2.1],int (PX s BB day).2.2]):=by
 refine fo func14 rfl ⟨rfl,rfl⟩ fun M0 w0=>(Tr.seq (Tr.At (tp rfl (BE rfl CM) ?_)));refine Tl rfl rfl rfl rfl fA Hj (fun b1=>?_);refine ao ?_;refine ao ?_;refine tp rfl (CG (uc hs) rfl rfl rfl) ?_;refine ao ?_;refine Tl rfl rfl rfl rfl HU Dn (fun b2=>?_);refine Tl rfl rfl rfl rfl HU Dn (fun b3=>?_);refine sf 1 8 ⟨rfl,rfl,rfl⟩ rfl rfl rfl rfl ?_;refine sf 0 9 ⟨rfl,rfl,rfl⟩ rfl rfl rfl rfl ?_;refine ao ?_;refine wk [10,9,8,6,2] rfl ?_;refine an ?_ ?_<;>intro h1 q1
 have hN:=eK (day:=day) H_;refine ao ?_;refine TO.Ac 0 rfl rfl rfl vq CM rfl Cn rfl rfl ?_;refine ao ?_;refine Tr.ret (Fin.AF (Fin.Bf rfl (AL.cell 0 rfl rfl C5 Cn rfl Lr) (AL.tmp rfl Lr) ?_))
 .exact IX
 obtain⟨hb,hr⟩:=eJ (s:=s) (BB:=BB) H_;obtain⟨g,c,e,hg,hg1,cr,hc,he⟩:=WB hb hr;have hX:=eI hb hr hg hc he;have Cb:(Pp s BB).1.small/\(Pp s BB).2.small:=by rw[hX];exact⟨(hs.Bu c (List.mem_of_getElem? hc)).2,(hs.Bu e (List.mem_of_getElem? he)).2⟩
 have hN:PX s BB day=Ih (Pp s BB).1 (Pp s BB).2 day (Pp s BB).1.most (Pp s BB).1.AR:=by rw[hX];exact oa (day:=day) hb hr hg hc he
 refine ac ?_;refine ao ?_;refine tp rfl (Wz (iM Cb.1 Cb.2) rfl rfl rfl rfl) ?_;refine ao ?_;refine TO.Ac 0 rfl rfl rfl vq CM rfl Cn rfl rfl ?_;refine ao ?_;refine wk [7,6] rfl (Tr.ret (Fin.Bf rfl (AL.cell 0 rfl rfl C5 Cn rfl Lr) (AL.tmp rfl Lr) ?_))
 .exact IX
theorem iO{s:Es}{BB fr to:Int}(hs:s.fits):Aq prog 13 [agg (CF s),int BB,int fr,int to] (EB [agg [int (X5 s BB fr to).1,int (X5 s BB fr to).2.1],int (X5 s BB fr to).2.2]):=by
 refine fo func13 rfl ⟨rfl,rfl⟩ fun M0 w0=>(Tr.seq (Tr.At (tp rfl (BE rfl CM) ?_)));refine Tl rfl rfl rfl rfl fA Hj (fun b1=>?_);refine ao ?_;refine ao ?_;refine tp rfl (Wz (X8 hs) rfl rfl rfl rfl) ?_;refine ao ?_;refine Tl rfl rfl rfl rfl fA Hj (fun b2=>?_);refine sf 0 10 ⟨rfl,rfl,rfl⟩ rfl rfl rfl rfl ?_;refine ao ?_;refine wk [11,10,8,4,3,2,1] rfl ?_;refine an ?_ ?_<;>intro h1 q1
 have hN:X5 s BB fr to=(0,0,(PX s BB fr).2.2):=if_pos H_;refine ao ?_;refine TO.Ac 0 rfl rfl rfl vq CM rfl Cn rfl rfl ?_;refine ao ?_;refine Tr.ret (Fin.AF (Fin.Bf rfl (AL.cell 0 rfl rfl C5 Cn rfl Lr) (AL.tmp rfl Lr) ?_))
 .exact IX
 have je:¬(PX s BB fr).2.2≠0:=by simpa using h1
 refine a2 ?_;refine co rfl (Wz (X8 hs) rfl rfl rfl rfl) ?_;refine ac ?_;refine wk [11,10,8,3,2] rfl ?_;refine an ?_ ?_<;>intro h2 q2
 have hN:X5 s BB fr to=(0,0,(PX s BB to).2.2):=(if_neg je).trans (if_pos M8);refine ao ?_;refine TO.Ac 0 rfl rfl rfl vq CM rfl Cn rfl rfl ?_;refine ao ?_;refine Tr.ret (Fin.AF (Fin.Bf rfl (AL.cell 0 rfl rfl C5 Cn rfl Lr) (AL.tmp rfl Lr) ?_))
 .exact IX
 have hb_:¬(PX s BB to).2.2≠0:=by simpa using h2
 refine ac ?_;refine an ?_ ?_<;>intro h3 q3
 have hN:X5 s BB fr to=(0,0,13):=(if_neg je).trans ((if_neg hb_).trans (if_pos H9));refine ao ?_;refine TO.Ac 0 rfl rfl rfl vq CM rfl Cn rfl rfl ?_;refine ao ?_;refine Tr.ret (Fin.AF (Fin.Bf rfl (AL.cell 0 rfl rfl C5 Cn rfl Lr) (AL.tmp rfl Lr) ?_))
 .exact IX
 have hN:X5 s BB fr to=PX s BB fr:=(if_neg je).trans ((if_neg hb_).trans (if_neg H9));refine ac ?_;refine ao ?_;refine TO.Ac 0 rfl rfl rfl vq CM rfl Cn rfl rfl ?_;refine ao ?_;refine Tr.ret (Fin.Bf rfl (AL.cell 0 rfl rfl C5 Cn rfl Lr) (AL.tmp rfl Lr) ?_)
 .exact az
abbrev zi(r:G0):List Pr:=[int r.fst,int r.thn]
abbrev reqs(l:List G0):Pr:=slice 2 (l.map zi)
theorem SN{v:Int}:Aq prog 20 [ints l,int v] (bool (GP l v)):=by
 refine fo func20 rfl ⟨rfl,rfl⟩ fun M0 w0=>(Tr.Dr 0 rfl fun Dq=>?_);refine a2 ?_;refine Tr.block (Tr.BV _ (kk [8,7,1] rfl) (fun k:Nat=>[(9,int ((k:Nat):Int))]) (fun k:Nat=>k<=(l).length/\(GP (l.take k) v=false)) (fun k:Nat=>(l).length-k) 0 (⟨Nat.zero_le _,rfl⟩) kz ?_);rintro k ⟨BN,AW⟩;refine ac ?_;refine Tr.seq ?_;refine Tr.cn rfl ?_ ?_<;>intro h1 q1
 have Ae:k<(l).length:=AQ h1;obtain⟨x,Ad⟩:=at_ Ae;refine ac ?_;refine Tr.seq (Tr.block (Tr.seq (Tr.Bo (co rfl (AD rfl underlying50 C4 vq vq AA (Ap Ad)) ?_))))
 .repeat' first|(refine bool_eq ?_;symm;unfold GP;rw[List.any_eq_true];exact⟨_,List.mem_of_getElem? Ad,by simp_all⟩)|(exact Fin.AP (k+1) ⟨⟨Ae,(by unfold GP at AW ⊢;rw[List.take_add_one,Ad,List.any_append,AW];simp;omega)⟩,by omega⟩ ⟨⟨_,rfl,AK k⟩,kz⟩)|refine ac ?_|(refine Tr.cn rfl ?_ ?_<;>intro h q)
 have BA:k=(l).length:=by have:=AU h1;omega
 subst BA;refine a3 ?_
 .exact UZ
theorem UB(n:Int)(has:Bool)(s:List Int):(wall n has s).1.length<=s.length+1:=by
 have h:=Xm (n:=n) (has:=has) (s:=s) (p:=([],false));unfold wall;revert h;split<;>simp<;>omega
theorem eZ{n:Int}{has:Bool}{x:Int}(h:s[k]? =some x):wall n has (s.take (k+1))=De n has (wall n has (s.take k)) x:=by
 rw[List.take_add_one,h];exact gw n has _ x
theorem Oq{n:Int}{has:Bool}(hs:s.length<=1000000):Aq prog 22 [ints s,int n,bool has] (ints (C8 s n has)):=by
 refine fo func22 rfl ⟨rfl,rfl⟩ fun M0 w0=>(Tr.Dr 0 rfl fun Dq=>?_);refine ac ?_;refine ac ?_;refine ac ?_;refine Tr.seq (Tr.seq (Tr.Bo (cm rfl ?_)))
 first|refine co rfl (Gu rfl underlying50 (vl rfl)) ?_|refine co rfl (BJ rfl underlying50 (vl rfl)) ?_
 refine ac ?_;refine Tr.block (Tr.Dt 3 1 (Tr.Ez _ (kk [12,11,2,1] rfl) (fun k v=>[(13,int ((k:Nat):Int)),(8,bool (wall n has (s.take k)).2),(7,Aj v (ints (wall n has (s.take k)).1))]) (fun k v=>Hp M0 w0 Ju ([Bc 3 1 v])) (fun k:Nat=>k<=(s).length) (fun k:Nat=>(s).length-k) 0 (.slice none 0 0) (Nat.zero_le _) ⟨kq,⟨_,rfl,bool_eq rfl⟩,⟨_,rfl,DA rfl⟩,trivial⟩ (fun _ _ h=>h) ?_));rintro k v BN;refine ac ?_;refine Tr.seq ?_;refine Tr.cn rfl ?_ ?_<;>intro h1 q1
 have Ae:k<(s).length:=AQ h1;obtain⟨x,Ad⟩:=at_ Ae;have hwl:=UB n has (s.take k);rw[List.length_take]at hwl;refine ac ?_;refine Tr.seq (Tr.block (Tr.seq (Tr.Bo (co rfl (AD rfl underlying50 C4 vq vq AA (Ap Ad)) ?_))));refine ac ?_;refine ac ?_;refine Ch.cs 18 rfl ?_ ?_<;>intro h2 q2
 refine ac ?_;refine Ch.cs 22 rfl ?_ ?_<;>intro h3 q3
 refine ac ?_;refine wk [26,13,12,11,10,8,7,2,1] rfl ?_;refine Tr.cn rfl ?_ ?_<;>intro h4 q4
 refine ap ?_;refine TO.EV 0 rfl rfl AB (FI rfl rfl rfl rfl underlying50 C4 RO z3 Ij Ec (CA BW E4)) (fun v1=>?_);refine ap ?_;refine wk [13,12,11,10,8,7,2,1] rfl ?_;refine ac ?_;refine Tr.cn rfl ?_ ?_<;>intro h5 q5
 refine ap ?_;refine TO.EV 0 rfl rfl AB (FI rfl rfl rfl rfl underlying50 C4 RO z3 Ij Ec (CA BW E4)) (fun v2=>?_);refine ap ?_;refine wk [13,12,11,8,7,2,1] rfl (Tr.Bo ?_)
 first|(refine WL rfl rfl rfl rfl AA ?_)|refine co rfl Yr ?_
 refine ac ?_;exact Fin.EX (k+1) v2 (⟨Ae,by omega⟩) ⟨⟨_,rfl,AK k⟩,⟨_,rfl,bool_eq HB⟩,⟨_,rfl,CZ HB⟩,kz⟩ (fun _ _ h=>h);refine ac ?_;refine Tr.Bo ?_
 first|(refine WL rfl rfl rfl rfl AA ?_)|refine co rfl Yr ?_
 refine ac ?_;exact Fin.EX (k+1) v1 (⟨Ae,by omega⟩) ⟨⟨_,rfl,AK k⟩,⟨_,rfl,bool_eq HB⟩,⟨_,rfl,CZ HB⟩,kz⟩ (fun _ _ h=>h);refine ac ?_;refine ac ?_;refine Tr.cn rfl ?_ ?_<;>intro h6 q6
 refine ap ?_;refine TO.EV 0 rfl rfl AB (FI rfl rfl rfl rfl underlying50 C4 RO z3 Ij Ec (CA BW E4)) (fun v3=>?_);refine ap ?_;refine wk [13,12,11,8,7,2,1] rfl (Tr.Bo ?_)
 first|(refine WL rfl rfl rfl rfl AA ?_)|refine co rfl Yr ?_
 refine ac ?_;exact Fin.EX (k+1) v3 (⟨Ae,by omega⟩) ⟨⟨_,rfl,AK k⟩,⟨_,rfl,bool_eq HB⟩,⟨_,rfl,CZ HB⟩,kz⟩ (fun _ _ h=>h);refine ac ?_;refine Tr.Bo ?_
 first|(refine WL rfl rfl rfl rfl AA ?_)|refine co rfl Yr ?_
 refine ac ?_;exact Fin.EX (k+1) v (⟨Ae,by omega⟩) ⟨⟨_,rfl,AK k⟩,⟨_,rfl,bool_eq HB⟩,⟨_,rfl,CZ HB⟩,kz⟩ (fun _ _ h=>h);refine ac ?_;refine wk [26,13,12,11,10,8,7,2,1] rfl ?_;refine ac ?_;refine ac ?_;refine Tr.cn rfl ?_ ?_<;>intro h7 q7
 refine ap ?_;refine TO.EV 0 rfl rfl AB (FI rfl rfl rfl rfl underlying50 C4 RO z3 Ij Ec (CA BW E4)) (fun v4=>?_);refine ap ?_;refine wk [13,12,11,8,7,2,1] rfl (Tr.Bo ?_)
 first|(refine WL rfl rfl rfl rfl AA ?_)|refine co rfl Yr ?_
 refine ac ?_;exact Fin.EX (k+1) v4 (⟨Ae,by omega⟩) ⟨⟨_,rfl,AK k⟩,⟨_,rfl,bool_eq HB⟩,⟨_,rfl,CZ HB⟩,kz⟩ (fun _ _ h=>h);refine ac ?_;refine Tr.Bo ?_
 first|(refine WL rfl rfl rfl rfl AA ?_)|refine co rfl Yr ?_
 refine ac ?_;exact Fin.EX (k+1) v (⟨Ae,by omega⟩) ⟨⟨_,rfl,AK k⟩,⟨_,rfl,bool_eq HB⟩,⟨_,rfl,CZ HB⟩,kz⟩ (fun _ _ h=>h);refine ac ?_;refine wk [26,13,12,11,10,8,7,2,1] rfl ?_;refine ac ?_;refine ac ?_;refine Tr.cn rfl ?_ ?_<;>intro h8 q8
 refine ap ?_;refine TO.EV 0 rfl rfl AB (FI rfl rfl rfl rfl underlying50 C4 RO z3 Ij Ec (CA BW E4)) (fun v5=>?_);refine ap ?_;refine wk [13,12,11,8,7,2,1] rfl (Tr.Bo ?_)
 first|(refine WL rfl rfl rfl rfl AA ?_)|refine co rfl Yr ?_
 refine ac ?_;exact Fin.EX (k+1) v5 (⟨Ae,by omega⟩) ⟨⟨_,rfl,AK k⟩,⟨_,rfl,bool_eq HB⟩,⟨_,rfl,CZ HB⟩,kz⟩ (fun _ _ h=>h);refine ac ?_;refine Tr.Bo ?_
 first|(refine WL rfl rfl rfl rfl AA ?_)|refine co rfl Yr ?_
 refine ac ?_;exact Fin.EX (k+1) v (⟨Ae,by omega⟩) ⟨⟨_,rfl,AK k⟩,⟨_,rfl,bool_eq HB⟩,⟨_,rfl,CZ HB⟩,kz⟩ (fun _ _ h=>h);have BA:k=(s).length:=by have:=AU h1;omega
 subst BA;rw[List.take_length];have hwl:=UB n has s;refine ac ?_;refine ac ?_;refine Ch.cs 40 rfl ?_ ?_<;>intro h9 q9
 refine ac ?_;refine Tr.cn rfl ?_ ?_<;>intro h10 NT
 refine ap ?_;refine TO.EV 0 rfl rfl AB (FI rfl rfl rfl rfl underlying50 C4 RO z3 Ij Ec (CA BW E4)) (fun v6=>?_);refine ap ?_;refine wk [7] rfl ?_;refine ac ?_;refine ac ?_
 .exact Yc
 refine ac ?_;refine ac ?_;refine wk [6] rfl ?_;refine ac ?_
 .exact Yc
 refine ac ?_;refine ac ?_;refine ac ?_;refine wk [6] rfl ?_;refine ac ?_
 .exact Yc
abbrev Kq(l:List Bl):Pr:=slice 8 (l.map B7)
def evB(s:Es)(fr DC:Int)(m:Nat):Bool:=(List.range m).all fun k=>(X5 s ((k:Nat):Int) fr DC).2.2==0
theorem jN{s:Es}{fr DC:Int}:evB s fr DC (m+1)=(evB s fr DC m&&((X5 s ((m:Nat):Int) fr DC).2.2==0)):=by unfold evB;rw[List.range_succ,List.all_append];simp
def E8(e:Es)(l:List Bl)(fr DC:Int)(s:List Int):Bool:=decide ((HY e l s).2=0)&&evB (HY e l s).1 fr DC (HY e l s).1.BR.length
theorem og{e:Es}{l:List Bl}{fr DC:Int}(h:¬(HY e l s).2=0):E8 e l fr DC s=false:=by unfold E8;rw[decide_eq_false h];rfl
theorem wB{e:Es}{l:List Bl}{fr DC:Int}(hk:k<(HY e l s).1.BR.length)(h:¬(X5 (HY e l s).1 ((k:Nat):Int) fr DC).2.2=0):E8 e l fr DC s=false:=by
 unfold E8 evB;rw[Bool.and_eq_false_iff];right;rw[List.all_eq_false];exact⟨k,List.mem_range.2 hk,by simpa using h⟩
theorem vu{e:Es}{l:List Bl}{fr DC:Int}(h:(HY e l s).2=0)(h2:evB (HY e l s).1 fr DC (HY e l s).1.BR.length=true):E8 e l fr DC s=true:=by unfold E8;rw[decide_eq_true h,h2];rfl
theorem UC{e:Es}{l:List Bl}{n:Nat}{fr DC:Int}(hz:e.sz n)(hn:n<=700000)(hc:∀c∈l,c.CO.fits/\c.CO.small)(jC:s.length<=4096):Aq prog 42 [agg (CF e),Kq l,ints s,int fr,int DC] (bool (E8 e l fr DC s)):=by
 refine fo func42 rfl ⟨rfl,rfl⟩ fun M0 w0=>?_;have hxz:=vo (l:=l) (s:=s) hz hc;have hxf:=hxz.fits AA;have hxg:=hxz.lg;refine ac ?_;refine ao ?_;refine tp rfl (Wz (Ty hz AA hc) rfl rfl rfl rfl) ?_;refine ao ?_;refine Tl rfl rfl rfl rfl z32 Iz (fun b1=>?_);refine sf 0 11 ⟨rfl,rfl,rfl⟩ rfl rfl rfl rfl ?_;refine ao ?_;refine ac ?_;refine wk [24,11,4,3] rfl ?_;refine Tr.cn rfl ?_ ?_<;>intro h1 q1
 refine a2 ?_
 .refine bool_eq ?_;exact(og CU).symm
 refine a2 ?_;refine Tr.block (Tr.BV _ (kk [27,11,4,3] rfl) (fun k:Nat=>[(28,int ((k:Nat):Int))]) (fun k:Nat=>k<=((HY e l s).1.BR).length/\(evB (HY e l s).1 fr DC k=true)) (fun k:Nat=>((HY e l s).1.BR).length-k) 0 (⟨Nat.zero_le _,rfl⟩) kz ?_);rintro k ⟨BN,AW⟩;refine ac ?_;refine Tr.seq ?_;refine Tr.cn rfl ?_ ?_<;>intro h2 q2
 have Ae:k<((HY e l s).1.BR).length:=AQ h2;obtain⟨x,Ad⟩:=at_ Ae;refine a2 ?_;refine ao ?_;refine tp rfl (kc4 (iN hxf) rfl rfl rfl rfl rfl) ?_;refine ao ?_;refine Tl rfl rfl rfl rfl fA Hj (fun b2=>?_);refine sf 0 14 ⟨rfl,rfl,rfl⟩ rfl rfl rfl rfl ?_;refine ao ?_
 .exact jM
 have BA:k=((HY e l s).1.BR).length:=by have:=AU h2;omega
 subst BA;refine a3 ?_
 .refine bool_eq ?_;exact(vu CU AW).symm
theorem Zy{e:Es}{l:List Bl}{n:Nat}{fr DC:Int}(hz:e.sz n)(hn:n<=700000)(hc:∀c∈l,c.CO.fits/\c.CO.small)(jC:s.length<=4096):Aq prog 82 [agg (CF e),Kq l,ints s,int fr,int DC] (bool (E8 e l fr DC s)):=by
 refine fo func82 rfl ⟨rfl,rfl⟩ fun M0 w0=>?_;have hxz:=vo (l:=l) (s:=s) hz hc;have hxf:=hxz.fits AA;have hxg:=hxz.lg;refine ac ?_;refine ao ?_;refine tp rfl (Wz (Zh hz AA hc) rfl rfl rfl rfl) ?_;refine ao ?_;refine Tl rfl rfl rfl rfl z32 Iz (fun b1=>?_);refine sf 0 11 ⟨rfl,rfl,rfl⟩ rfl rfl rfl rfl ?_;refine ao ?_;refine ac ?_;refine wk [24,11,4,3] rfl ?_;refine Tr.cn rfl ?_ ?_<;>intro h1 q1
 refine a2 ?_
 .refine bool_eq ?_;exact(og CU).symm
 refine a2 ?_;refine Tr.block (Tr.BV _ (kk [27,11,4,3] rfl) (fun k:Nat=>[(28,int ((k:Nat):Int))]) (fun k:Nat=>k<=((HY e l s).1.BR).length/\(evB (HY e l s).1 fr DC k=true)) (fun k:Nat=>((HY e l s).1.BR).length-k) 0 (⟨Nat.zero_le _,rfl⟩) kz ?_);rintro k ⟨BN,AW⟩;refine ac ?_;refine Tr.seq ?_;refine Tr.cn rfl ?_ ?_<;>intro h2 q2
 have Ae:k<((HY e l s).1.BR).length:=AQ h2;obtain⟨x,Ad⟩:=at_ Ae;refine a2 ?_;refine ao ?_;refine tp rfl (kc4 (iO hxf) rfl rfl rfl rfl rfl) ?_;refine ao ?_;refine Tl rfl rfl rfl rfl fA Hj (fun b2=>?_);refine sf 0 14 ⟨rfl,rfl,rfl⟩ rfl rfl rfl rfl ?_;refine ao ?_
 .exact jM
 have BA:k=((HY e l s).1.BR).length:=by have:=AU h2;omega
 subst BA;refine a3 ?_
 .refine bool_eq ?_;exact(vu CU AW).symm
theorem Zz{a b:Int}  :Aq prog 81 [int a,int b] (bool (decide (0<=a)&&decide (a<=40000)&&(decide (0<=b)&&decide (b<=40000)))):=by
 refine fo func81 rfl ⟨rfl,rfl⟩ fun M0 w0=>?_;refine ac ?_;refine ac ?_;refine Ch.cs 7 rfl ?_ ?_<;>intro h1 q1
 refine ac ?_;refine Ch.cs 11 rfl ?_ ?_<;>intro h2 q2
 refine ac ?_;refine Ch.cs 15 rfl ?_ ?_<;>intro h3 q3
 refine ac ?_;refine wk [4] rfl ?_;refine ac ?_
 .exact F7
 refine ac ?_;refine wk [4] rfl ?_;refine ac ?_
 .exact Gq
 refine ac ?_;refine wk [4] rfl ?_;refine ac ?_
 .exact Gq
 refine ac ?_;refine wk [4] rfl ?_;refine ac ?_
 .exact Gq
theorem Z0{e:Es}{l:List Bl}{n:Nat}{fr DC:Int}(hz:e.sz n)(hn:n<=700000)(hc:∀c∈l,c.CO.fits/\c.CO.small)(jC:s.length<=4096)(hv:EO e=true)(hl:l.length<=24)(hs:D6 l.length s=true)(hd:(0<=fr/\fr<=40000)/\(0<=DC/\DC<=40000)):Aq prog 44 [agg (CF e),Kq l,ints s,int fr,int DC] (EB [bool (E8 e l fr DC s),int 0]):=by
 refine fo func44 rfl ⟨rfl,rfl⟩ fun M0 w0=>?_;have hf:=hz.fits AA;refine a2 ?_;refine co rfl (BS (Mf hf) rfl rfl) ?_;refine an ?_ ?_<;>intro h1 q1
 refine ac ?_;refine Tr.ret (Fin.AF (Fin.C_ rfl (CL.Eo _ _) rfl ?_ rfl ?_))
 .exact F7
 .exact FT
 refine ac ?_;refine an ?_ ?_<;>intro h2 q2
 refine ac ?_;refine Tr.ret (Fin.AF (Fin.C_ rfl (CL.Eo _ _) rfl ?_ rfl ?_))
 .exact Gq
 .refine int_eq ?_;omega
 refine a2 ?_;refine co rfl (CG (R6 (l:=s) (n:=((l.length:Nat):Int))) rfl rfl rfl) ?_;refine ac ?_;refine wk [22,5,4,3,2,1] rfl ?_;refine Tr.cn rfl ?_ ?_<;>intro h3 q3
 refine ac ?_;refine Tr.ret (Fin.AF (Fin.C_ rfl (CL.Eo _ _) rfl ?_ rfl ?_))
 .exact F7
 .exact FT
 refine a2 ?_;refine co rfl (CG (Zz) rfl rfl rfl) ?_;refine an ?_ ?_<;>intro h4 q4
 refine ac ?_;refine Tr.ret (Fin.AF (Fin.C_ rfl (CL.Eo _ _) rfl ?_ rfl ?_))
 .exact F7
 .exact FT
 refine a2 ?_;refine co rfl (kg (Zy hz hn hc jC) rfl rfl rfl rfl rfl rfl) ?_;refine ac ?_;refine wk [11,10] rfl (Tr.ret (Fin.C_ rfl (CL.Eo _ _) rfl ?_ rfl ?_))
 .exact Lr
 .exact Lr
theorem Ot:∀(k a b:Nat),GW [] k a b=false
 |0,_,_=>rfl
 |k+1,a,b=>by unfold GW Sx;rw[Ot k a b,Ot k a k];rfl
theorem Z1{n:Nat}(h:n<=24):C7 (n:Int) []=0:=by
 have h1:th (n:Int).toNat []=false:=by
  unfold th;rw[List.any_eq_false];intro i _;rw[Ot];decide
 unfold C7;rw[if_neg AA,if_neg Ai,if_neg AB,if_neg (by rw[h1];decide)]
end Go.Proofs.YthommhphcagokaaGreatDoor
namespace Cp
open Go Go.RowKit
section
variable{P:Program}{Q:Exit->Act->World->Prop}
end
end Cp
namespace Cp
open Go Go.RowKit Go.Great
variable{xs:Array Operand}{ts:Array TypeId}{f:FuncId}{rows:List (List Pr)}{sp:List Value}{d j:Nat}{p:Pr}{v:Value}
section
variable{P:Program}{ρ:Option Nat}
end
section
variable{P:Program}{n:Fm}{I:Cj}
end
section
variable{P:Program}{Q:Exit->Act->World->Prop}
end
section
variable{P:Program}{L:Lg P}{n:Fm}{fz:Nat}{E:Env}{I:Cj}{M0:Av}{w0:World}{S:Nat->Prop}{rs:List Ay}{Q:Exit->Act->World->Prop}{c:Code}
end
theorem ADg{f:Fn}:∀{vs:List Value},Pr.le (fn f (vs.map is)) (is (.func f #[] vs.toArray)):=by
 intro vs M w v ⟨cs,h1,h2⟩
 have:∀{vs cs:List Value},HL M w (vs.map is) cs->cs=vs:=by
  intro vs
  induction vs with
  |nil=>intro cs h;cases cs with
   |nil=>rfl
   |cons c cs=>exact h.elim
  |cons u us ih=>intro cs h;cases cs with
   |nil=>exact h.elim
   |cons c cs=>rw[show c=u from h.1,ih h.2]
 rw[this h2]at h1;exact h1
theorem vv{f:Fn}{vs:List Value}:Pr.le (is (.func f #[] vs.toArray)) (fn f (vs.map is)):=by
 intro M w v h;refine⟨vs,h,?_⟩
 clear h
 induction vs with
 |nil=>trivial
 |cons u us ih=>exact⟨rfl,ih⟩
section
variable{P:Program}{L:Lg P}{n:Fm}{fz:Nat}{E:Env}{M0:Av}{w0:World}{S:Nat->Prop}{rs:List Ay}{α:Type}{pre:List Ay}{C:α->Prop}{res:α->Pr}{post:α->List Ay}{o:Oper}{r:List Oper}{ops:Array Oper}
theorem TO.zj{Q:Exit->Act->World->Prop}{cx:Operand}{ps caps:List Pr}(rest:List Ay)(hg:o.guard=none)(hd:o.dst=some d)(hn:d<n)(ho:o.op= .call { callee:= .value cx,args:=xs,argTypes:=ts })(hc:VL E cx (fn (.func f) caps))(hf:Hy P f (ps++caps) pre C res post)(hv:Fx E xs.toList ps)(hp:rs.Perm (pre++rest))(k:∀x,C x->TO P n ops r ((d,res x)::E) (Hp M0 w0 S (post x++rest)) Q):TO P n ops (o::r) E (Hp M0 w0 S rs) Q:=
 TO.bT hg fun K M w a hsz hdf he hI hK=>by
  have hI:BD M0 w0 S rs M w:=hI;have h1:=Fx.En (o:=o) (Cq he) (xs:=xs.toList) (fun x hx=>by simp[ho,Op.operands,Call.operands];exact .inr F_) hv;obtain⟨cs,g2,g3⟩:=hc.ev (o:=o) (Cq he) CB
  have hrun:(execOp a.eval o).run P w= .ok (.enter f ((xs.toList.map a.eval).toArray++cs.toArray)) w:=by
   simp[execOp,ho,resolve,Deferred.ofValue,g2,invoke,Cz hf.1,FM xs]
  unfold Oper.wp;rw[hrun];have e1:((xs.toList.map a.eval).toArray++cs.toArray)=((xs.toList.map a.eval)++cs).toArray:=by simp
  have h4:=BD.PJ hf hp hI (h1.app g3);rw[e1];refine h4.mono ?_;rintro e w' ⟨v,M',x,rfl,hC,h2,h3,h4⟩;refine hK _ _ _ _ (k x hC) ⟨M',by rw[CC];exact hsz,by rw[put_defers];exact hdf,?_,h4⟩;intro s q hq;simp only[List.lookup]at hq
  by_cases hs:s=d
  .exact bJ
  .exact aX
theorem Tr.zk{Q:Exit->Act->World->Prop}{c:Code}{b cap sz:Nat}{e:TypeId}(j:Nat)(hj:rs[j]? =some (AE true b e (rows.flatten++sp.map is)))(hc:rows.length<=cap)(hm:cap<=maxLen)(hq:sp.length=(cap-rows.length)*sz)(k:Tr L n E (Hp M0 w0 S (rs.set j (Ax e sz rows (.slice (some ⟨b,0,none⟩) rows.length cap)))) c Q):Tr L n E (Hp M0 w0 S rs) c Q:=
 Tr.conv (fun a w hs=>by
  obtain⟨M,h1,h2,h3,h4⟩:=hs;have h4:BD M0 w0 S rs M w:=h4
  exact⟨M,h1,h2,h3,h4.DF hj rfl rfl (.inr ⟨b,cap,sp,rfl,hc,hm,hq,(h4.hold _ (List.mem_of_getElem? hj)).1⟩)⟩) k
def exA{α:Type}(F:α->Cj):Cj where
 h M w:=∃x,(F x).h M w
 st M w w' hb h:=let ⟨x,hx⟩:=h;⟨x,(F x).st _ _ _ hb hx⟩
 bd M w h:=let ⟨x,hx⟩:=h;(F x).bd _ _ hx
theorem Fin.exA{α:Type}{F:α->Cj}{e:Exit}{Q:Exit->Act->World->Prop}(k:∀x,Fin n E (F x) Q e):Fin n E (Cp.exA F) Q e:=fun a w hs=>by
 obtain⟨M,h1,h2,h3,x,h4⟩:=hs;exact k x a w ⟨M,h1,h2,h3,h4⟩
theorem Z2{cx:Operand}{ps caps:List Pr}{φ:α->Prop}(rest:List Ay)(hg:o.guard=none)(ho:o.op= .call { callee:= .value cx,args:=xs,argTypes:=ts })(hc:VL E cx (fn (.func f) caps))(hf:Hy P f (ps++caps) pre C (fun x=>fact (φ x) p) post)(hv:Fx E xs.toList ps)(hp:rs.Perm (pre++rest)):MO P n (Hp M0 w0 S rs) (Cp.exA fun x=>Hp M0 w0 S (Cm (φ x)::(post x++rest))) o E p:=by
 refine⟨hg,fun M w a hsz he hI=>?_⟩;have hI:BD M0 w0 S rs M w:=hI;have h1:=Fx.En (o:=o) he (xs:=xs.toList) (fun x hx=>by simp[ho,Op.operands,Call.operands];exact .inr F_) hv;obtain⟨cs,g2,g3⟩:=hc.ev (o:=o) he CB
 have hrun:(execOp a.eval o).run P w= .ok (.enter f ((xs.toList.map a.eval).toArray++cs.toArray)) w:=by
  simp[execOp,ho,resolve,Deferred.ofValue,g2,invoke,Cz hf.1,FM xs]
 rw[hrun];have e1:((xs.toList.map a.eval).toArray++cs.toArray)=((xs.toList.map a.eval)++cs).toArray:=by simp
 have h4:=BD.PJ hf hp hI (h1.app g3);rw[e1];refine h4.mono ?_;rintro e w' ⟨v,M',x,rfl,hC,h2,h3,h4⟩;exact⟨v,M',rfl,h2.2,h3,x,BD.JI h4 (r:=Cm (φ x)) rfl h2.1⟩
end
section
variable{P:Program}{E:Env}{o:Oper}{I:Cj}
theorem eL{t u:TypeId}{x y:Operand}{a i:Nat}(ho:o.op= .binOp .shr t x y u)(hx:VL E x (int (a:Int)))(hy:VL E y (int (i:Int)))(hi:i<=40):Af P I o E (int ((a>>>i:Nat):Int)):=
 Af.same fun M w c he _=>by
  have h1:c.eval x= .int .i64 a:=hx.ev he Am;have h2:c.eval y= .int .i64 i:=hy.ev he Am;have hn:¬(i:Int)<0:=by omega
  have e:Int.fdiv (a:Int) (2 ^ (min i IntKind.i64.bits))=((a>>>i:Nat):Int):=by
   rw[show min i IntKind.i64.bits=i from by show min i 64=i;omega,Nat.shiftRight_eq_div_pow,Int.ofNat_fdiv,Int.natCast_pow];rfl
  refine⟨.int .i64 (Int.fdiv (a:Int) (2 ^ (min i IntKind.i64.bits))),?_,?_⟩
  .
   simp only[execOp,ho,h1,h2];simp[eqGuard,binOp,Op.shift,hn];rw[e,Nat.shiftRight_eq_div_pow,Int.natCast_ediv,Int.natCast_pow];rfl
  .rw[e];rfl
theorem eM{t u:TypeId}{x y:Operand}{a:Nat}(ho:o.op= .binOp .and t x y u)(hx:VL E x (int (a:Int)))(hy:VL E y (int 1))(ha:a<2 ^ 40):Af P I o E (int ((a % 2:Nat):Int)):=
 Af.same fun M w c he _=>by
  have h1:c.eval x= .int .i64 a:=hx.ev he Am;have h2:c.eval y= .int .i64 1:=hy.ev he Am;have ea:(BitVec.ofInt 64 (a:Int)).toNat=a:=by rw[BitVec.toNat_ofInt];omega
  have er:(BitVec.ofInt 64 (a:Int)&&&BitVec.ofInt 64 1).toNat=a % 2:=by rw[BitVec.toNat_and,ea];exact Nat.and_one_is_mod a
  refine⟨_,by simp[execOp,ho,h1,h2,eqGuard,binOp,Op.intBits];rfl,?_⟩;show Value.int _ _=Value.int _ _
  congr 1
  show IntKind.i64.wrap (((BitVec.ofInt 64 (a:Int)&&&BitVec.ofInt 64 1).toNat:Nat):Int)=_;rw[er];exact Gt H8
end
theorem Ql(m i:Nat):decide ((((m>>>i) % 2:Nat):Int)=1)=m.testBit i:=by
 rw[Nat.testBit_eq_decide_div_mod_eq,Nat.shiftRight_eq_div_pow,decide_eq_decide];omega
section
variable{P:Program}{L:Lg P}{n:Fm}{z0:Value}{fz:Nat}{E:Env}{M0:Av}{w0:World}{S:Nat->Prop}{rs:List Ay}{o:Oper}{κ:Type}[DecidableEq κ]{enc:κ->Value}
theorem Mn{T kt et:TypeId}{x y z:Operand}{b:Nat}{es:List (κ×Value)}(k:κ){q:Pr}(hT:W4 P T kt et enc z0)(hg:o.guard=none)(hd:o.dst=none)(ho:o.op= .mapUpdate T x y z)(hx:VL E x (is (.map (some b))))(hy:VL E y q)(hk:∀M w v,q.h M w v->v=enc k)(hz:VL E z (is v)):
  D8 P M0 w0 S n j (SR.c (HF enc b es)) (SR.c (HF enc b (MS es k v))) o E any:=by
 refine⟨hg,fun M w a rs hsz he hI hj=>?_⟩;have h1:a.eval x=_:=hx.ev he Am;have h2:a.eval y=enc k:=hk _ _ _ (hy.ev he Am);have hv:a.eval z=v:=hz.ev he Am;have hj':rs[j]? =some (HF enc b es):=hj;obtain⟨⟨hM,hh⟩,pJ⟩:=hI.hold _ (List.mem_of_getElem? hj');have hlt:=(pJ b rfl).1;have hf:=Tf hT k w es
 have hrun:(execOp a.eval o).run P w= .ok .skip (Cp.D6 w b (.map (Lm (ER enc (MS es k v))) (MS es k v).length)):=by
  cases OS:es.findIdx? fun p=>decide (k=p.1)with
  |none=>
   rw[OS]at hf;simp only[Option.bind_none]at hf;rw[fN OS]
   have hp:Lm (ER enc (es++[(k,v)]))=(Lm (ER enc es)).push { key:=enc k,val:=v,born:=es.length }:=by
    have:=kO (ER enc es) (enc k) (v);rw[List.length_map]at this;rw[this];simp[ER]
   rw[hp];simp[execOp,ho,h1,h2,hv,Instr.mapUpdate,run_underlying hT.und,MapKept.run_getObj_map hh,hT.chk,hf,MapKept.run_setObj_map _ hh,Result.andThen,Cp.D6]
  |some i=>
   have FC:i<es.length:=by rw[List.findIdx?_eq_some_iff_getElem]at OS;exact OS.1
   have ia:(es[i]).1=k:=by
    rw[List.findIdx?_eq_some_iff_getElem]at OS;obtain⟨_,h4,_⟩:=OS
    simpa using(of_decide_eq_true h4).symm
   rw[OS]at hf;simp only[Option.bind_some,List.getElem?_eq_getElem FC,Option.map_some]at hf;rw[fO OS]
   have hp:Lm (ER enc (es.set i (k,v)))=(Lm (ER enc es)).modify i fun e=>{ e with key:=enc k,val:=v }:=by
    rw[rD (by simpa using FC)];simp[ER]
   have hold:((Lm (ER enc es))[i]?).map (·.key)=some (enc k):=by
    rw[KO];simp[ER,List.getElem?_eq_getElem FC,ia]
   rw[hp,List.length_set];simp[execOp,ho,h1,h2,hv,Instr.mapUpdate,run_underlying hT.und,MapKept.run_getObj_map hh,hT.chk,hf,hold,Instr.keyThatStays,hT.bits,MapKept.run_setObj_map _ hh,Result.andThen,Cp.D6]
 rw[hrun];obtain⟨h5,h6⟩:=BD.AB1 (obj:= .map (Lm (ER enc (MS es k v))) (MS es k v).length) (r':=HF enc b (MS es k v)) hI hj' rfl rfl rfl rfl hM ⟨hM,cH hlt⟩;exact⟨M,trivial,h6,by unfold SR.at_ SR.c;exact h5⟩
end
section
variable{P:Program}{L:Lg P}{n:Fm}{E:Env}{M0:Av}{w0:World}{S:Nat->Prop}{rs:List Ay}{o:Oper}{c:Code}{Q:Exit->Act->World->Prop}
theorem Tr.eqR(j:Nat){r:Ay}(r':Ay)(hi:rs[j]? =some r)(h:r=r')(k:Tr L n E (Hp M0 w0 S (rs.set j r')) c Q):Tr L n E (Hp M0 w0 S rs) c Q:=by
 subst h;have hjl:j<rs.length:=by rcases Nat.lt_or_ge j rs.length with h|h;exact h;rw[List.getElem?_eq_none h]at hi;cases hi
 have:rs.set j r=rs:=by rw[List.getElem?_eq_getElem hjl]at hi;simp only[Option.some.injEq]at hi;rw[←hi,List.set_getElem_self]
 rwa [this]at k
theorem rd_eq{R:SR}{u:Value}(h:u=v)(k:JU P M0 w0 S j R o E (is u)):JU P M0 w0 S j R o E (is v):=h ▸ k
theorem iP{a:Option Addr}{k m c:Nat}(h:k=m):Pr.le (is (.slice a k c)) (Aj (.slice a m c) (lens m)):=by subst h;rintro M w v rfl;exact⟨rfl,a,c,rfl⟩
theorem Fin.VH{e:TypeId}{sz:Nat}{x:Exit}(j d:Nat)(hj:rs[j]? =some (Ax e sz rows v))(hd:E.lookup d=some (Aj v p))(hf:∀r∈rows,r.length=sz)(k:Fin n ((d,Aj v (slice sz rows))::E) (Hp M0 w0 S (rs.set j (Bc e sz v))) Q x):Fin n E (Hp M0 w0 S rs) Q x:=
 fun a w hs=>k a w (hs.VH j d hj hd hf)
end
end Cp
namespace Go.Proofs.YthommhphcagokaaGreatDoor
open Go Go.RowKit Cp Go.Proofs.Tryz
variable{B:List (BitVec 32)}{l s:List Int}{G:List Int->Bool}{ps qs:List Pr}{i j k m:Nat}{p:Pr}{v:Value}
abbrev SO(n:Int):Value:= .int .i64 n
theorem LR:W4 Tryz.prog 115 3 4 SO (.bool false) where
 und:=Tryz.underlying115
 zero:=fun w=>by kernel_rfl
 eq:=fun a b w=>by
  rw[show Op.equal 3 _ _=Op.equalIn (9998+2) 3 _ _ from rfl];exact NN Tryz.underlying3
 chk:=fun e a w=>by
  show(Instr.checkKey e (9999+1) 3 _).run _ w=_;exact rE Tryz.underlying3 w
 xM:=⟨_,Tryz.underlying3,.inr fun a b=>by simp only[SO,Instr.sameNow,if_true];congr 1⟩
 bits:=fun a=>by
  show Instr.sameBits (9999+1) (.int _ _) (.int _ _)=true;simp[Instr.sameBits]
instance AAw (b:Option Nat):One (is (.map b)):=⟨by rintro M w v rfl;exact⟨rfl,rfl⟩⟩
instance ADh (f:Fn)(a b:Array Value):One (is (.func f a b)):=⟨by rintro M w v rfl;exact⟨rfl,rfl⟩⟩
abbrev Dm(o:List Int):List (List Pr):=o.map fun n=>[int n]
abbrev zl(bl bd be bf bt bo bn:Nat):List Value:=[.pointer (some ⟨bl,0,none⟩),.pointer (some ⟨bd,0,none⟩),.pointer (some ⟨be,0,none⟩),.pointer (some ⟨bf,0,none⟩),.pointer (some ⟨bt,0,none⟩),.pointer (some ⟨bo,0,none⟩),.pointer (some ⟨bn,0,none⟩)]
abbrev X9(bl bd be bf bt bo bn:Nat):Value:= .func (.func 41) #[] (zl bl bd be bf bt bo bn).toArray
def H6(G:List Int->Bool)(n m:Nat)(s o:List Int):List Int:=if Cv G n m s=true then o++Km G n m s else o
theorem SP{n:Nat}{o:List Int}(h:Cv G n m s=false):H6 G n m s o=o:=if_neg Gr
theorem Qm{n:Nat}{o:List Int}(h:Cv G n m s=true):H6 G n m s o=o++Km G n m s:=if_pos h
theorem iQ{n:Nat}{es:List (Int×Value)}(h:Lx G n es)(k:Int):∃b,(W6 es k).getD (.bool false)= .bool b/\(b=true->∃m:Nat,k=(m:Int)/\∀j,(FQ n m).length+j=n->Cv G n j (FQ n m)=false):=by
 unfold W6;cases hf:es.find? fun p=>decide (k=p.1)with
 |none=>exact⟨false,rfl,fun h=>by cases h⟩
 |some p=>
  obtain⟨b,h1,h2⟩:=h p (List.mem_of_find?_eq_some hf);have h3:k=p.1:=by simpa using List.find?_some hf
  refine⟨b,h1,fun hb=>?_⟩;rw[h3];exact h2 hb
theorem SQ{n:Nat}{es:List (Int×Value)}(h:Lx G n es)(hf:∀j,(FQ n m).length+j=n->Cv G n j (FQ n m)=false):Lx G n (MS es (m:Int) (.bool true)):=by
 have hn:∃b,(((m:Int),Value.bool true):Int×Value).2=Value.bool b/\(b=true->∃m':Nat,(((m:Int),Value.bool true):Int×Value).1=(m':Int)/\∀k,(FQ n m').length+k=n->Cv G n k (FQ n m')=false):=⟨true,rfl,fun _=>⟨m,rfl,hf⟩⟩;intro p hp;unfold MS at hp
 split at hp
 .
  rcases List.mem_or_eq_of_mem_set hp with hp|rfl
  .exact h p hp
  .exact hn
 .
  rcases List.mem_append.1 hp with hp|hp
  .exact h p hp
  .rw[List.mem_singleton]at hp;subst hp;exact hn
theorem UD{n:Nat}(hm:m<2 ^ n)(hn:n<=10):m>>>i<2 ^ 40:=by
 have h1:m>>>i<=m:=by rw[Nat.shiftRight_eq_div_pow];exact Nat.div_le_self _ _
 have h2:2 ^ n<=2 ^ 10:=Nat.pow_le_pow_right AA hn;omega
theorem Qn{p:Nat->Prop}(h:∀j,j<i->p j)(h2:p i):∀j,j<i+1->p j:=fun j hj=>by
 rcases Nat.lt_or_ge j i with h3|h3
 .exact h j h3
 .
  obtain rfl:j=i:=by omega
  exact h2
theorem oh{e:Es}{l:List Bl}{n:Nat}{fr DC:Int}{bl bd be bf bt bo bn bm:Nat}{o:List Int}{es:List (Int×Value)}(hz:e.sz n)(hn:n<=700000)(hc:∀c∈l,c.CO.fits/\c.CO.small)(hl:l.length<=10)(hm:m<2 ^ l.length)(hk:(FQ l.length m).length+k=l.length)(ho:o.length+k=l.length)(hd:Lx (E8 e l fr DC) l.length es)(ih:∀k':Nat,k=k'+1->∀(m':Nat) (o':List Int) (es':List (Int×Value)) (v':Value),m'<2 ^ l.length->(FQ l.length m').length+k'=l.length->(o').length+k'=l.length->Lx (E8 e l fr DC) l.length es'->Hy (α:=Value×List (Int×Value)) prog 41 [int ((m':Nat):Int),ptr bl 0,ptr bd 0,ptr be 0,ptr bf 0,ptr bt 0,ptr bo 0,ptr bn 0] [AE true bl 42 [Kq l],AE true bd 115 [is (.map (some bm))],HF SO bm es',AE true be 32 (CF e),AE true bf 3 [int fr],AE true bt 3 [int DC],AE true bo 22 [Aj v' (lens (o').length)],Ax 3 1 (Dm (o')) v',AE true bn 70 [is (X9 bl bd be bf bt bo bn)]] (fun _=>True) (fun x:Value×List (Int×Value)=>fact (Lx (E8 e l fr DC) l.length x.2) (bool (Cv (E8 e l fr DC) l.length k' (FQ l.length m')))) (fun x:Value×List (Int×Value)=>[AE true bl 42 [Kq l],AE true bd 115 [is (.map (some bm))],HF SO bm x.2,AE true be 32 (CF e),AE true bf 3 [int fr],AE true bt 3 [int DC],AE true bo 22 [Aj x.1 (lens (H6 (E8 e l fr DC) l.length k' (FQ l.length m') (o')).length)],Ax 3 1 (Dm (H6 (E8 e l fr DC) l.length k' (FQ l.length m') (o'))) x.1,AE true bn 70 [is (X9 bl bd be bf bt bo bn)]])):Hy (α:=Value×List (Int×Value)) prog 41 [int ((m:Nat):Int),ptr bl 0,ptr bd 0,ptr be 0,ptr bf 0,ptr bt 0,ptr bo 0,ptr bn 0] [AE true bl 42 [Kq l],AE true bd 115 [is (.map (some bm))],HF SO bm es,AE true be 32 (CF e),AE true bf 3 [int fr],AE true bt 3 [int DC],AE true bo 22 [Aj v (lens (o).length)],Ax 3 1 (Dm (o)) v,AE true bn 70 [is (X9 bl bd be bf bt bo bn)]] (fun _=>True) (fun x:Value×List (Int×Value)=>fact (Lx (E8 e l fr DC) l.length x.2) (bool (Cv (E8 e l fr DC) l.length k (FQ l.length m)))) (fun x:Value×List (Int×Value)=>[AE true bl 42 [Kq l],AE true bd 115 [is (.map (some bm))],HF SO bm x.2,AE true be 32 (CF e),AE true bf 3 [int fr],AE true bt 3 [int DC],AE true bo 22 [Aj x.1 (lens (H6 (E8 e l fr DC) l.length k (FQ l.length m) (o)).length)],Ax 3 1 (Dm (H6 (E8 e l fr DC) l.length k (FQ l.length m) (o))) x.1,AE true bn 70 [is (X9 bl bd be bf bt bo bn)]]):=by
 refine Hy.of func41 rfl rfl Ag fun M0 w0 S rs M1 w1=>?_;refine a3 ?_;refine Tr.block (Tr.Dt 3 1 (Tr.Ez _ (kk [14,7,6,5,4,3,2,1,0] rfl) (fun i w=>[(15,int ((i:Nat):Int)),(10,Aj w (ints (FQ i m)))]) (fun i w=>Hp M0 w0 S (Bc 3 1 w::AE true bl 42 [Kq l]::AE true bd 115 [is (.map (some bm))]::HF SO bm es::AE true be 32 (CF e)::AE true bf 3 [int fr]::AE true bt 3 [int DC]::AE true bo 22 [Aj v (lens (o).length)]::Ax 3 1 (Dm o) v::AE true bn 70 [is (X9 bl bd be bf bt bo bn)]::Ao M1 w1::rs)) (fun i:Nat=>i<=(l).length) (fun i:Nat=>(l).length-i) 0 (.slice none 0 0) (Nat.zero_le _) ⟨kq,⟨_,rfl,DA rfl⟩,trivial⟩ (fun _ _ h=>h) ?_));rintro i w dP;refine ac ?_;refine Tr.seq ?_;refine Tr.cn rfl ?_ ?_<;>intro h1 q1
 have MZ:i<(l).length:=AQ h1;obtain⟨_c,Sc⟩:=at_ MZ;have QB:=dx i m;refine a2 ?_;refine wk [15,14,11,10,7,6,5,4,3,2,1,0] rfl ?_;refine ac ?_;refine co rfl (eL rfl vq vq AA) (co rfl (eM rfl vq vq (UD hm hl)) ?_);refine ac ?_;refine wk [22,15,14,11,10,7,6,5,4,3,2,1,0] rfl ?_;refine Tr.cn rfl ?_ ?_<;>intro h2 q2
 have N0:m.testBit i=true:=by rw[←Ql];simpa using h2
 refine ap ?_;refine TO.EV 0 rfl rfl AB (FI rfl rfl rfl rfl underlying50 C4 RO z3 Ij Ec (CA BW E4)) (fun v1=>?_);refine ap ?_;refine wk [15,14,10,7,6,5,4,3,2,1,0] rfl ?_;refine ac ?_;exact Fin.EX (i+1) v1 (⟨MZ,by omega⟩) ⟨⟨_,rfl,AK i⟩,⟨_,rfl,(by exact CZ (by rw[Xs,if_pos N0,List.map_append];rfl))⟩,kz⟩ (fun _ _ h=>h);have N0:m.testBit i=false:=by rw[←Ql];simpa using h2
 refine a2 ?_;exact Fin.EX (i+1) w (⟨MZ,by omega⟩) ⟨⟨_,rfl,AK i⟩,⟨_,rfl,(by exact CZ (by rw[Xs,if_neg (by rw[N0];decide)]))⟩,kz⟩ (fun _ _ h=>h);have Sv:i=(l).length:=by have:=AU h1;omega
 subst Sv;refine ac ?_;refine Tr.seq (Tr.seq ?_);obtain⟨lb,hlb,hld⟩:=iQ hd ((m:Nat):Int);refine ap ?_;refine TO.rd 3 rfl rfl rfl AB (rd_eq hlb (W7 (((m:Nat):Int)) LR rfl vq vq (fun _ _ _ h=>h))) (tm rfl ?_);refine TO.cases 31 rfl (fun h3=>?_) (fun h3=>?_);have q3:=Fy.HC h3;obtain⟨m9,h9,h10⟩:=hld h3;obtain rfl:m=m9:=by omega
 have SS:Cv (E8 e l fr DC) l.length k (FQ l.length m)=false:=h10 k hk
 iterate 7 refine TO.Y4 rfl rfl rfl (WZ h3) rfl AB ?_
 refine ap ?_;refine wk [39,10,7,6,2,1,0] rfl (Tr.cond rfl (fun _=>?_) (fun h=>nomatch h));refine Tr.seq (Tr.At (TO.rd 2 rfl rfl rfl AB (A9 rfl kH vq rfl) (tm rfl (TO.ED 3 rfl rfl (Mn (((m:Nat):Int)) LR rfl rfl rfl vq vq (fun _ _ _ h=>h) vq) ?_))));refine ap ?_;refine Tr.seq ?_;have hdf:=SQ (m:=m) hd (fun j hj=>by rw[show j=k by omega];exact SS);have hbf:=SS.symm;have hout:=(SP (o:=o) SS).symm;refine ac ?_;refine Tr.ret (Fin.AF (Fin.Hx 7 [Aj v (lens (H6 (E8 e l fr DC) l.length k (FQ l.length m) o).length)] rfl ⟨CT Mu,trivial⟩ ?_));refine Fin.KW 8 (Ax 3 1 (Dm (H6 (E8 e l fr DC) l.length k (FQ l.length m) o)) v) rfl (congrArg (fun z=>Ax 3 1 (Dm z) v) hout) (Fin.drop 0 (Fin.Ra ((v,MS es ((m:Nat):Int) (.bool true))) rfl (AL.tmp rfl Lr) trivial ?_ (List.Perm.refl _)))
 .exact M6
 have q3:=Fy.HC h3;refine TO.WM rfl rfl rfl h3 rfl AB (Bi 4 rfl (Di rfl E0 Et vq rfl rfl)) (TO.WM rfl rfl rfl h3 rfl AB (Bi 1 rfl (A9 rfl j6 vq rfl)) (TO.WM rfl rfl rfl h3 rfl AB (BX rfl vq) (TO.WM rfl rfl rfl h3 rfl AB (Bi 5 rfl (A9 rfl DP vq rfl)) (TO.WM rfl rfl rfl h3 rfl AB (Bi 6 rfl (A9 rfl DP vq rfl)) ?_))));refine TO.WM rfl rfl rfl h3 rfl AB (Aa rfl (UC hz hn hc (by have:=dx l.length m;omega)) ⟨ke rfl,ke rfl,(Kb rfl),ke rfl,ke rfl,trivial⟩) ?_;refine TO.WM rfl rfl rfl h3 rfl AB (KG rfl vq) ?_;refine ap ?_;refine wk [39,10,7,6,2,1,0] rfl ?_;refine Tr.cn rfl ?_ ?_<;>intro h4 q4
 have SS:Cv (E8 e l fr DC) l.length k (FQ l.length m)=false:=nq (by simpa using h4);refine ap ?_;refine TO.ED 3 rfl rfl (Mn (((m:Nat):Int)) LR rfl rfl rfl vq vq (fun _ _ _ h=>h) vq) ?_;refine ap ?_;refine Tr.seq ?_;have hdf:=SQ (m:=m) hd (fun j hj=>by rw[show j=k by omega];exact SS);have hbf:=SS.symm;have hout:=(SP (o:=o) SS).symm;refine ac ?_;refine Tr.ret (Fin.AF (Fin.Hx 7 [Aj v (lens (H6 (E8 e l fr DC) l.length k (FQ l.length m) o).length)] rfl ⟨CT Mu,trivial⟩ ?_));refine Fin.KW 8 (Ax 3 1 (Dm (H6 (E8 e l fr DC) l.length k (FQ l.length m) o)) v) rfl (congrArg (fun z=>Ax 3 1 (Dm z) v) hout) (Fin.drop 0 (Fin.Ra ((v,MS es ((m:Nat):Int) (.bool true))) rfl (AL.tmp rfl Lr) trivial ?_ (List.Perm.refl _)))
 .exact M6
 have hG:E8 e l fr DC (FQ l.length m)=true:=by simpa using h4
 refine a2 ?_;refine co rfl (Gu rfl underlying50 Ij) ?_;refine an ?_ ?_<;>intro h5 q5
 have hlk:(FQ l.length m).length=l.length:=by have:=q5;omega
 obtain rfl:k=0:=by omega
 refine Tr.seq ?_;have hdf:=hd;have hbf:true=Cv (E8 e l fr DC) l.length 0 (FQ l.length m):=hG.symm;have hout:o=H6 (E8 e l fr DC) l.length 0 (FQ l.length m) o:=by rw[Qm (show Cv (E8 e l fr DC) l.length 0 (FQ l.length m)=true from hG)];exact(List.append_nil o).symm
 refine ac ?_;refine Tr.ret (Fin.AF (Fin.Hx 7 [Aj v (lens (H6 (E8 e l fr DC) l.length 0 (FQ l.length m) o).length)] rfl ⟨CT Mu,trivial⟩ ?_));refine Fin.KW 8 (Ax 3 1 (Dm (H6 (E8 e l fr DC) l.length 0 (FQ l.length m) o)) v) rfl (congrArg (fun z=>Ax 3 1 (Dm z) v) hout) (Fin.drop 0 (Fin.Ra ((v,es)) rfl (AL.tmp rfl Lr) trivial ?_ (List.Perm.refl _)))
 .exact M6
 have hlk:¬(FQ l.length m).length=l.length:=by have:=q5;omega
 obtain⟨k1,rfl⟩:∃j,k=j+1:=⟨k-1,by omega⟩;refine ac ?_;refine Tr.seq (Tr.seq (Tr.drop 0 ?_));refine ac ?_;refine wk [49,48,7,6,2,0] rfl (Tr.block (Tr.RM _ (kk [48,7,6,2,0] rfl) (fun(i:Nat) (v2:Value) (es2:List (Int×Value))=>[(49,int ((i:Nat):Int))]) (fun(i:Nat) (v2:Value) (es2:List (Int×Value))=>Hp M0 w0 S (AE true bl 42 [Kq l]::AE true bd 115 [is (.map (some bm))]::HF SO bm es2::AE true be 32 (CF e)::AE true bf 3 [int fr]::AE true bt 3 [int DC]::AE true bo 22 [Aj v2 (lens (o).length)]::Ax 3 1 (Dm (o)) v2::AE true bn 70 [is (X9 bl bd be bf bt bo bn)]::Ao M1 w1::rs)) (fun(i:Nat) (v2:Value) (es2:List (Int×Value))=>i<=l.length/\Lx (E8 e l fr DC) l.length es2/\∀j:Nat,j<i->GP (FQ l.length m) (j:Int)=true\/Cv (E8 e l fr DC) l.length k1 (C8 (FQ l.length m) (j:Int) true)=false) (fun(i:Nat) (v2:Value) (es2:List (Int×Value))=>l.length-i) (0) (v) (es)  (⟨Nat.zero_le _,hd,fun j hj=>absurd hj (Nat.not_lt_zero j)⟩) kz (fun _ _ h=>h) ?_));rintro i v2 es2  ⟨FC,hd2,hno⟩;refine ac ?_;refine Tr.seq ?_;refine Tr.cn rfl ?_ ?_<;>intro h6 q6
 have hi:i<l.length:=AQ h6;refine a3 ?_;refine co rfl (eL rfl vq vq AA) (co rfl (eM rfl vq vq (UD hm hl)) ?_);refine ac ?_;refine wk [56,49,48,12,7,6,2,0] rfl ?_;refine Tr.cn rfl ?_ ?_<;>intro h7 q7
 have hbt:m.testBit i=true:=by rw[←Ql];simpa using h7
 have hdx:=hd2;have hnx:=Qn hno (.inl (by rw[Qi hi];exact hbt));refine a2 ?_;exact Fin.Gx (i+1) (v2) (es2)  (⟨⟨hi,hdx,hnx⟩,by omega⟩) ⟨⟨_,rfl,AK i⟩,kz⟩ (fun _ _ h=>h);have hbt:m.testBit i=false:=by rw[←Ql];simpa using h7
 refine ac ?_;refine Tr.seq (Tr.At (TO.rd 6 rfl rfl rfl AB (A9 rfl IF vq rfl) ?_));refine ap ?_;refine TO.EV 7 rfl rfl AB (DN rfl rfl AB rfl underlying22 C4 RO z3 rfl AB AB (vl rfl) (Kf rfl) (Ar fun _=>rfl) (Nat.zero_lt_succ _) J9 J_) (fun v2=>?_);refine TO.Ac 6 rfl rfl rfl vq Cf rfl HO rfl rfl ?_;refine ap ?_;refine Tr.seq (Tr.seq (Tr.eqR 7 (Ax 3 1 (Dm (o++[((i:Nat):Int)])) v2) rfl (by rw[show Dm (o++[((i:Nat):Int)])=Dm o++[[int ((i:Nat):Int)]]from List.map_append]) (Tr.Hx 6 [Aj v2 (lens (o++[((i:Nat):Int)]).length)] rfl ⟨CT Ai,trivial⟩ (Tr.Du mixed 5 BQ (AY.op rfl rfl AB (Bi 8 rfl (A9 rfl j_ vq rfl)) (AY.op rfl rfl AB (BX rfl vq) (AY.op rfl rfl AB (BX rfl vq) (AY.op rfl rfl AB (r7 rfl vq vq AA AA) ?_))))))));refine AY.op rfl rfl AB (yA (m:=l.length) rfl vq vq hm (by simpa using Nat.pow_lt_pow_right AA hi) AA) ?_;refine AY.turn _ rfl AB (Z2 (ps:=[int ((m|||2 ^ i:Nat):Int)]) _ rfl rfl (VL.le vq (vv (vs:=zl bl bd be bf bt bo bn))) (ih k1 rfl (m|||2 ^ i) (o++[((i:Nat):Int)]) es2 v2 (Nat.or_lt_two_pow hm (Nat.pow_lt_pow_right AA hi)) (by rw[V5 hi hbt];omega) (by rw[List.length_append,List.length_singleton];omega) hd2) kz ((AM (j:=0) rfl).trans (List.Perm.cons _ ((AM (j:=0) rfl).trans (List.Perm.cons _ ((AM (j:=0) rfl).trans (List.Perm.cons _ ((AM (j:=0) rfl).trans (List.Perm.cons _ ((AM (j:=0) rfl).trans (List.Perm.cons _ ((AM (j:=0) rfl).trans (List.Perm.cons _ ((AM (j:=0) rfl).trans (List.Perm.cons _ ((AM (j:=0) rfl).trans (List.Perm.cons _ ((AM (j:=0) rfl).trans (List.Perm.cons _ (List.Perm.refl _)))))))))))))))))))) ?_;refine Ch.nil (Fin.exA fun x=>?_);obtain⟨v8,es8⟩:=x;refine Fin.prop 0 rfl fun hd8=>(Fin.drop 0 (Fin.go (wk [66,49,48,7,6,2,0] rfl ?_)));refine Tr.cn rfl ?_ ?_<;>intro h8 q8
 have OS:Cv (E8 e l fr DC) l.length k1 (FQ l.length (m|||2 ^ i))=true:=by simpa using h8
 refine Tr.seq ?_;have hfy:=Qh hG hi (by rw[Qi hi];exact hbt) (by rw[Nr hi hbt];exact OS) hno;have hdf:=hd8;have hbf:=hfy.1.symm;have hout:H6 (E8 e l fr DC) l.length k1 (FQ l.length (m|||2 ^ i)) (o++[((i:Nat):Int)])=H6 (E8 e l fr DC) l.length (k1+1) (FQ l.length m) o:=by rw[Qm OS,Qm hfy.1,hfy.2,Nr hi hbt,List.append_assoc];rfl
 refine ac ?_;refine Tr.ret (Fin.AF (Fin.Ak (Fin.AF (Fin.AF (Fin.Ak (Fin.AF (Fin.Hx 6 [Aj v8 (lens (H6 (E8 e l fr DC) l.length (k1+1) (FQ l.length m) o).length)] rfl ⟨CT Mu,trivial⟩ ?_)))))));refine Fin.KW 7 (Ax 3 1 (Dm (H6 (E8 e l fr DC) l.length (k1+1) (FQ l.length m) o)) v8) rfl (congrArg (fun z=>Ax 3 1 (Dm z) v8) hout) (Fin.Ra ((v8,es8)) rfl (AL.tmp rfl Lr) trivial ?_ (List.Perm.refl _))
 .exact M6
 have OS:Cv (E8 e l fr DC) l.length k1 (FQ l.length (m|||2 ^ i))=false:=by simpa using h8
 refine ac ?_;refine Tr.eqR 7 (Ax 3 1 (Dm (o++[((i:Nat):Int)])) v8) rfl (congrArg (fun z=>Ax 3 1 (Dm z) v8) (SP OS)) ?_;have hrl:(Dm (o++[((i:Nat):Int)])).length=o.length+1:=by simp
 refine Tr.Hx 6 [Aj v8 (lens (Dm (o++[((i:Nat):Int)])).length)] rfl ⟨CT (by rw[SP OS];simp),trivial⟩ ?_;refine Tr.nQ 7 rfl (fun h0 _=>absurd h0 Ai) (Tr.NL 7 rfl (fun ob cap sp hov hg hmx hsp=>?_));subst hov;refine Tr.At (TO.rd 6 rfl rfl rfl AB (A9 rfl IF vq rfl) (TO.rd 6 rfl rfl rfl AB (A9 rfl IF vq rfl) (tp rfl (ET rfl underlying22 E4) ?_)));refine tp rfl (Uq rfl vq vq ?hin) ?_;case hin=>unfold Sb;omega
 refine tp rfl (Fu rfl underlying22 C4 E4 vq AA AA AA AA) (TO.Ac 6 rfl rfl rfl vq Cf rfl HO rfl rfl ?_);refine ap ?_;refine Tr.eqC 7 ((Dm o).flatten++(.int .i64 ((i:Nat):Int)::sp).map is) rfl (by rw[show Dm (o++[((i:Nat):Int)])=Dm o++[[int ((i:Nat):Int)]]from List.map_append,List.flatten_append,List.append_assoc];rfl) ?_;refine Tr.zk (sz:=1) 7 rfl (by simp only[List.length_map,List.length_append,List.length_cons,List.length_nil]at hg ⊢;omega) hmx (by simp only[List.length_map,List.length_append,List.length_nil,List.length_cons]at hg hsp ⊢;omega) ?_;refine Tr.Hx 6 [Aj (.slice (some ⟨ob,0,none⟩) (Dm o).length cap) (lens o.length)] rfl ⟨Pr.le_trans (iP (m:=(Dm o).length) Ai) (CT Ai),trivial⟩ ?_;have hdx:=hd8;have hnx:=Qn hno (.inr (by rw[Nr hi hbt];exact OS));refine ac ?_;exact Fin.Gx (i+1) ((.slice (some ⟨ob,0,none⟩) (Dm o).length cap)) (es8)  (⟨⟨hi,hdx,hnx⟩,by omega⟩) ⟨⟨_,rfl,AK i⟩,kz⟩ (fun _ _ h=>h);have hie:i=l.length:=by have:=AU h6;omega
 refine ac ?_;refine Tr.seq ?_;have SS:Cv (E8 e l fr DC) l.length (k1+1) (FQ l.length m)=false:=Xo (fun j hj=>hno j AA);refine ap ?_;refine TO.ED 2 rfl rfl (Mn (((m:Nat):Int)) LR rfl rfl rfl vq vq (fun _ _ _ h=>h) vq) ?_;refine ap ?_;refine Tr.seq ?_;have hdf:=SQ (m:=m) hd2 (fun j hj=>by rw[show j=k1+1 by omega];exact SS);have hbf:=SS.symm;have hout:=(SP (o:=o) SS).symm;refine ac ?_;refine Tr.ret (Fin.Hx 6 [Aj v2 (lens (H6 (E8 e l fr DC) l.length (k1+1) (FQ l.length m) o).length)] rfl ⟨CT Mu,trivial⟩ ?_);refine Fin.KW 7 (Ax 3 1 (Dm (H6 (E8 e l fr DC) l.length (k1+1) (FQ l.length m) o)) v2) rfl (congrArg (fun z=>Ax 3 1 (Dm z) v2) hout) (Fin.Ra ((v2,MS es2 ((m:Nat):Int) (.bool true))) rfl (AL.tmp rfl Lr) trivial ?_ (List.Perm.refl _))
 .exact M6
theorem om{e:Es}{l:List Bl}{n:Nat}{fr DC:Int}{bl bd be bf bt bo bn bm:Nat}(hz:e.sz n)(hn:n<=700000)(hc:∀c∈l,c.CO.fits/\c.CO.small)(hl:l.length<=10):∀(k:Nat) {m:Nat} {o:List Int} {es:List (Int×Value)} {v:Value},m<2 ^ l.length->(FQ l.length m).length+k=l.length->(o).length+k=l.length->Lx (E8 e l fr DC) l.length es->Hy (α:=Value×List (Int×Value)) Tryz.prog 41 [int ((m:Nat):Int),ptr bl 0,ptr bd 0,ptr be 0,ptr bf 0,ptr bt 0,ptr bo 0,ptr bn 0] [AE true bl 42 [Kq l],AE true bd 115 [is (.map (some bm))],HF SO bm es,AE true be 32 (CF e),AE true bf 3 [int fr],AE true bt 3 [int DC],AE true bo 22 [Aj v (lens (o).length)],Ax 3 1 (Dm (o)) v,AE true bn 70 [is (X9 bl bd be bf bt bo bn)]] (fun _=>True) (fun x:Value×List (Int×Value)=>fact (Lx (E8 e l fr DC) l.length x.2) (bool (Cv (E8 e l fr DC) l.length k (FQ l.length m)))) (fun x:Value×List (Int×Value)=>[AE true bl 42 [Kq l],AE true bd 115 [is (.map (some bm))],HF SO bm x.2,AE true be 32 (CF e),AE true bf 3 [int fr],AE true bt 3 [int DC],AE true bo 22 [Aj x.1 (lens (H6 (E8 e l fr DC) l.length k (FQ l.length m) (o)).length)],Ax 3 1 (Dm (H6 (E8 e l fr DC) l.length k (FQ l.length m) (o))) x.1,AE true bn 70 [is (X9 bl bd be bf bt bo bn)]])
 |0,_,_,_,_,h1,h2,h3,h4=>oh hz hn hc hl h1 h2 h3 h4 (fun k' h=>absurd h AA)
 |k+1,_,_,_,_,h1,h2,h3,h4=>oh hz hn hc hl h1 h2 h3 h4 (fun k' h m' o' es' v' g1 g2 g3 g4=>by
  obtain rfl:k'=k:=by omega
  exact om hz hn hc hl k' g1 g2 g3 g4)
def Z3(G:List Int->Bool)(n:Nat):List Int×Int:=if Cv G n n []=true then(Km G n n [],0)else([],51)
theorem Qo{n:Nat}(h:Cv G n n []=true):Z3 G n=(Km G n n [],0):=if_pos h
theorem WD{n:Nat}(h:Cv G n n []=false):Z3 G n=([],51):=if_neg Gr
theorem ud{e:Es}{l:List Bl}{n:Nat}{fr DC:Int}(hz:e.sz n)(hn:n<=700000)(hc:∀c∈l,c.CO.fits/\c.CO.small)(hv:EO e=true)(hl:l.length<=10)(hdy:(0<=fr/\fr<=40000)/\(0<=DC/\DC<=40000)):Aq prog 17 [agg (CF e),Kq l,int fr,int DC] (EB [ints (Z3 (E8 e l fr DC) l.length).1,int (Z3 (E8 e l fr DC) l.length).2]):=by
 refine fo func17 rfl ⟨rfl,rfl⟩ fun M0 w0=>(Tr.seq (Tr.At ?_));refine TO.Iu rfl rfl AB rfl CM (fun b1=>?_);refine TO.Iu rfl rfl AB rfl Cf (fun b2=>?_);refine TO.Iu rfl rfl AB rfl Cf (fun b3=>?_);refine TO.Iu rfl rfl AB rfl Cf (fun b4=>?_);refine ap ?_;refine ac ?_;refine co rfl (BS (FP (hz.fits AA)) rfl rfl) ?_;refine ac ?_;refine Tr.cn rfl ?_ ?_<;>intro h1 q1
 exfalso;simp[hv]at h1;refine ac ?_;refine wk [17,7,6,5,4] rfl ?_;refine Tr.cn rfl ?_ ?_<;>intro h2 q2
 exfalso;have:=q2;omega;refine ac ?_;refine co rfl (BS (IM) rfl rfl) ?_;refine ac ?_;refine Ch.cs 25 rfl ?_ ?_<;>intro h3 q3
 exfalso;simp at h3;omega;refine cy h3 rfl (Bi 0 rfl (A9 rfl DP vq rfl)) (cy h3 rfl (BS (IM) rfl rfl) ?_);refine ac ?_;refine wk [21,7,6,5,4] rfl ?_;refine Tr.cn rfl ?_ ?_<;>intro h4 q4
 exfalso;simp at h4;omega;refine ac ?_;refine Tr.seq (Tr.At ?_);refine TO.xl SO rfl rfl AB rfl (fun b5=>?_);refine Tl rfl rfl rfl rfl AFU ABb (fun b6=>?_);refine ap ?_;refine Tr.seq (Tr.At ?_);refine Tl rfl rfl rfl rfl z22 AFQ (fun b7=>?_);refine ap ?_;refine Tr.seq (Tr.At ?_);refine Tl rfl rfl rfl rfl z70 ABK (fun b8=>?_);refine ap ?_;refine Tr.seq (Tr.At (tp rfl (Fp rfl rfl) ?_));refine TO.Ac 0 rfl rfl rfl (vl rfl) (VL.le (vl rfl) (Pr.le_trans (ADg (vs:=[_,_,_,_,_,_,_])) (AV _))) rfl ABJ rfl rfl ?_;refine ap ?_;refine Tr.seq (Tr.seq (Tr.MJ 3 1 (Tr.Hx 2 [Aj (.slice none 0 0) (lens ([]:List Int).length)] rfl ⟨I4 (rows:=[]) rfl,trivial⟩ ?_)));refine ap ?_;refine TO.zj (ps:=[int ((0:Nat):Int)]) _ rfl rfl AB rfl (VL.le vq (vv (vs:=zl b2 b6 b1 b3 b4 b7 b8))) (om hz hn hc hl l.length (o:=[]) (es:=[]) (v:= .slice none 0 0) (Nat.two_pow_pos _) (by rw[Nq];simp) Ai (fun p hp=>by cases hp)) kz ((AM (j:=7) rfl).trans (List.Perm.cons _ ((AM (j:=3) rfl).trans (List.Perm.cons _ ((AM (j:=3) rfl).trans (List.Perm.cons _ ((AM (j:=5) rfl).trans (List.Perm.cons _ ((AM (j:=4) rfl).trans (List.Perm.cons _ ((AM (j:=3) rfl).trans (List.Perm.cons _ ((AM (j:=2) rfl).trans (List.Perm.cons _ ((AM (j:=0) rfl).trans (List.Perm.cons _ ((AM (j:=0) rfl).trans (List.Perm.cons _ (List.Perm.refl _))))))))))))))))))) (fun x _=>?_);obtain⟨v8,es8⟩:=x;refine TO.fact 33 rfl fun hd8=>?_;refine ap ?_;refine wk [34,11] rfl ?_;refine Tr.cn rfl ?_ ?_<;>intro h5 q5
 have hfn:Cv (E8 e l fr DC) l.length l.length []=false:=by rw[←Nq l.length];simpa using h5
 refine ac ?_;refine Tr.ret (Fin.AF (Fin.C_ rfl (CL.Eo _ _) rfl ?_ rfl ?_))
 .rw[WD hfn];exact AH 1
 .rw[WD hfn];exact Lr
 have hfn:Cv (E8 e l fr DC) l.length l.length []=true:=by rw[←Nq l.length];simpa using h5
 have hou:H6 (E8 e l fr DC) l.length l.length (FQ l.length 0) []=Km (E8 e l fr DC) l.length l.length []:=by rw[Nq,Qm hfn,List.nil_append]
 refine ac ?_;refine Tr.seq (Tr.Bo (co rfl (Bi 6 rfl (A9 rfl IF vq rfl)) ?_));refine ac ?_;refine Tr.ret (Fin.VH 7 8 rfl rfl (Ar fun _=>rfl) (Fin.C_ rfl (CL.Eo _ _) rfl ?_ rfl ?_))
 .rw[Qo hfn];exact Pr.le_trans (A0 _ _) (Pr.le_of_eq (by rw[hou]))
 .rw[Qo hfn];exact Lr
-- sets of bits, AE7
def J3(b:BitVec 32):Nat:=((List.range 32).find? fun i=>b.getLsbD i).getD 32
def S0(b:BitVec 32):List Nat:=(List.range 32).filter fun i=>b.getLsbD i
def iR(b:BitVec 32)(i:Nat):BitVec 32:=b&&&~~~(1#32<<<i)
def iS(b:BitVec 32)(i:Nat):BitVec 32:=b|||(1#32<<<i)
theorem Z4(i j:Nat):(1#32<<<i).getLsbD j=(decide (i=j)&&decide (j<32)):=by grind
theorem Z5{b:BitVec 32}(hi:i<32):(iS b i).getLsbD j=(b.getLsbD j||decide (i=j)):=by grind [iS,Z4]
theorem ue{b:BitVec 32}:(iR b i).getLsbD j=(b.getLsbD j&& !decide (i=j)):=by grind [iR,Z4]
theorem X_{α:Type}[DecidableEq α]{p:α->Bool}{x:α}:∀{l:List α},l.Nodup->l.find? p=some x->l.filter p=x::l.filter (fun y=>p y&& !(decide (x=y):Bool)):=by
 intro l
 induction l with
 |nil=>intro _ h;cases h
 |cons a l ih=>
  intro hn h;obtain⟨ha,hn⟩:=List.nodup_cons.1 hn;rw[List.find?_cons]at h;cases hp:p a with
  |true=>
   rw[hp]at h;simp at h;subst h;rw[List.filter_cons,hp,List.filter_cons];simp[hp]
   exact List.filter_congr fun y hy=>by
    have:¬a=y:=fun e=>ha (e ▸ hy);simp[this]
  |false=>
   rw[hp]at h;simp at h;rw[List.filter_cons,hp,List.filter_cons,hp];simp;exact ih hn Fc
theorem eN{b:BitVec 32}(h:∀i,i<32->b.getLsbD i=false):b=0#32:=BitVec.eq_of_getLsbD_eq fun i hi=>by rw[h i hi];simp
theorem oq:S0 0#32=[]:=by decide
theorem SU{b:BitVec 32}(h:b≠0#32):(List.range 32).find? (fun i=>b.getLsbD i)=some (J3 b):=by
 unfold J3;cases hf:(List.range 32).find? (fun i=>b.getLsbD i)with
 |some x=>rfl
 |none=>
  rw[List.find?_eq_none]at hf;exact absurd (eN fun i hi=>by simpa using hf i (List.mem_range.2 hi)) h
theorem ot{b:BitVec 32}(h:b≠0#32):b.getLsbD (J3 b)=true:=by simpa using List.find?_some (SU h)
theorem Z6{b:BitVec 32}(h:b≠0#32):J3 b<32:=List.mem_range.1 (List.mem_of_find?_eq_some (SU h))
theorem SV{b:BitVec 32}(h:b≠0#32):S0 b=J3 b::S0 (iR b (J3 b)):=by
 unfold S0;rw[X_ List.nodup_range (SU h)]
 congr 1
 exact List.filter_congr fun y _=>by rw[ue]
theorem LS{b:BitVec 32}:i∈S0 b↔b.getLsbD i=true:=by grind [S0]
theorem eO{b:BitVec 32}(h:b.getLsbD i=true):J3 b<=i:=by
 have hb:b≠0#32:=fun e=>by rw[e]at h;simp at h
 have h1:i∈S0 b:=LS.2 h;rw[SV hb]at h1;rcases List.mem_cons.1 h1 with h2|h2
 .omega
 .
  have h3:(S0 b).Pairwise (· < ·):=List.Pairwise.filter _ List.pairwise_lt_range;rw[SV hb]at h3;exact Nat.le_of_lt ((List.pairwise_cons.1 h3).1 i h2)
theorem iT{b:BitVec 32}(h:b≠0#32):b&&&(-b)=1#32<<<(J3 b):=by
 apply BitVec.eq_of_getLsbD_eq
 intro i hi;rw[BitVec.getLsbD_and,BitVec.getLsbD_neg,Z4]
 by_cases h1:J3 b=i
 .
  subst h1;have:¬∃j,j<J3 b/\b.getLsbD j=true:=fun⟨j,hj,hb⟩=>by have:=eO hb;omega
  simp[hi,ot h,this]
 .
  by_cases h2:J3 b<i
  .
   have:∃j,j<i/\b.getLsbD j=true:=⟨_,h2,ot h⟩;simp[this,h1,hi]
  .
   have:b.getLsbD i=false:=by
    cases hb:b.getLsbD i with
    |false=>rfl
    |true=>have:=eO hb;omega
   simp[this,h1]
def YA:List Nat:=[0,1,28,2,29,14,24,3,30,22,20,15,25,17,4,8,31,27,13,23,21,19,16,7,26,12,18,6,11,5,10,9]
theorem uf:∀i,i<32->YA[(((1#32<<<i)*125613361#32)>>>27).toNat]? =some i:=by decide
-- rows of bits as a relation (to stand behind Rq.lean and Bit.lean)
def Fw(n:Nat)(B:List (BitVec 32))(M:Nat->Nat->Bool):Prop:=B.length=n/\∀b x,B[b]? =some x->∀a,x.getLsbD a=(decide (a<n)&&M a b)
theorem SW{n:Nat}{M N:Nat->Nat->Bool}(h:Fw n B M)(k:∀a b,a<n->b<n->M a b=N a b):Fw n B N:=by
 refine⟨h.1,fun b x hx a=>?_⟩;rw[h.2 b x hx a];have hb:b<n:=by rw[←h.1];rcases Nat.lt_or_ge b B.length with h2|h2;exact h2;rw[List.getElem?_eq_none h2]at hx;cases hx
 by_cases ha:a<n
 .rw[k a b ha hb]
 .simp[ha]
theorem Z7(n:Nat):Fw n (List.replicate n 0#32) (fun _ _=>false):=by
 refine⟨List.length_replicate,fun b x hx a=>?_⟩;have:=List.eq_of_mem_replicate (List.mem_of_getElem? hx);subst this;simp
theorem UE{n:Nat}{M N:Nat->Nat->Bool}(h:Fw n B M){t:Nat}{y:BitVec 32}(ho:∀a b,b≠t->N a b=M a b)(hy:∀a,y.getLsbD a=(decide (a<n)&&N a t)):Fw n (B.set t y) N:=by
 refine⟨by rw[List.length_set];exact h.1,fun b x hx a=>?_⟩;rw[List.getElem?_set]at hx
 split at hx
 .grind
 .
  rename_i e
  rw[h.2 b x hx a,ho a b (fun e2=>e e2.symm)]
theorem ou{n:Nat}{M:Nat->Nat->Bool}(h:Fw n B M){t f:Nat}{x:BitVec 32}(hx:B[t]? =some x)(hf:f<n)(hn:n<=32):Fw n (B.set t (iS x f)) (fun a b=>M a b||(decide (f=a)&&decide (t=b))):=by
 refine UE h (fun a b hb=>?_) (fun a=>?_)
 .grind
 .
  rw[Z5 AA,h.2 t x hx a]
  by_cases ha:a<n
  .simp[ha]
  .grind
def Lb(k:Nat)(m:Nat->Nat->Bool)(i a b:Nat):Bool:=if b<i then Sx k m a b else m a b
theorem zm(k:Nat)(m:Nat->Nat->Bool):Lb k m 0=m:=by funext a b;unfold Lb;rw[if_neg AA]
theorem ow{n:Nat}{m:Nat->Nat->Bool}{a b:Nat}(hb:b<n):Lb k m n a b=Sx k m a b:=by unfold Lb;rw[if_pos hb]
theorem ox(k:Nat)(m:Nat->Nat->Bool)(i a:Nat):Lb k m i a k=m a k:=by unfold Lb;split;exact nj k m a;rfl
theorem YB{n:Nat}{m:Nat->Nat->Bool}{x:BitVec 32}(h:Fw n B (Lb k m i))(hx:B[i]? =some x)(hk:k<n):x.getLsbD k=m k i:=by
 rw[h.2 i x hx k];unfold Lb;rw[if_neg AA];simp[hk]
theorem oy{n:Nat}{m:Nat->Nat->Bool}{x y:BitVec 32}(h:Fw n B (Lb k m i))(hx:B[i]? =some x)(hy:B[k]? =some y)(hm:m k i=true):Fw n (B.set i (x|||y)) (Lb k m (i+1)):=by
 refine UE h (fun a b hb=>?_) (fun a=>?_)
 .
  unfold Lb
  by_cases h1:b<i
  .grind
  .grind
 .
  rw[BitVec.getLsbD_or,h.2 i x hx a,h.2 k y hy a,ox];unfold Lb;rw[if_neg AA,if_pos AA];unfold Sx;rw[hm];cases decide (a<n)<;>simp
theorem ug{n:Nat}{m:Nat->Nat->Bool}(h:Fw n B (Lb k m i))(hm:m k i=false):Fw n B (Lb k m (i+1)):=by unfold Lb Sx at*;grind
theorem IP{l:List G0}{s:List Int}(h:Jn l s=true):∀(k:Nat) {a b:Nat},GW l k a b=true->(b:Int)∈s->(a:Int)∈s
 |0,a,b,hw,hb=>by
  unfold GW Lw at hw;rw[List.any_eq_true]at hw;obtain⟨r,hr,h2⟩:=hw;simp at h2;have:=Kl.1 h r hr (by rw[h2.2];exact hb);rw[h2.1]at this;exact this
 |k+1,a,b,hw,hb=>by
  have hw:Sx k (GW l k) a b=true:=hw;unfold Sx at hw;rw[Bool.or_eq_true,Bool.and_eq_true]at hw;rcases hw with hw|⟨h1,h2⟩
  .exact IP h k hw hb
  .exact IP h k h1 (IP h k h2 hb)
def eP(n:Nat)(s:BitVec 32)(d:List Int):Prop:=∀i:Nat,s.getLsbD i=true↔(i:Int)∈d
theorem YC{x s:BitVec 32}:(x&&&~~~s=0#32)↔∀i,x.getLsbD i=true->s.getLsbD i=true:=by
 constructor
 .
  intro h i hi;have h2:=congrArg (fun y=>BitVec.getLsbD y i) h;have hlt:i<32:=by grind
  simp[hi,hlt]at h2;exact h2
 .
  intro h;refine eN fun i hi=>?_;rw[BitVec.getLsbD_and,BitVec.getLsbD_not];cases hx:x.getLsbD i with
  |false=>simp
  |true=>rw[h i hx];simp
abbrev Gp:Ay:=ZC 0 YA
theorem VI{b:BitVec 32}(h:b≠0#32):YA[(((((b&&& -b)*125613361#32)>>>27).toNat:Nat):Int).toNat]? =some (J3 b):=by
 rw[Int.toNat_natCast,iT h];exact uf _ (Z6 h)
theorem uh(b:BitVec 32):(((b>>>27).toNat:Nat):Int)<32:=by
 rw[BitVec.toNat_ushiftRight,Nat.shiftRight_eq_div_pow];have:=b.isLt;omega
theorem zn{b:BitVec 32}(hb:b≠0#32):BM prog 175 [u32 b] (int ((J3 b:Nat):Int)) (Gp) (fun _=>Gp):=by
 refine BM.of func175 rfl rfl Ag fun M0 w0 S rs M1 w1=>?_;have jE:=Z6 hb;refine ac ?_;refine Tr.seq (Tr.seq (Tr.Bo (cm rfl (co rfl (xx rfl vq vq) ?_))));refine ac ?_;refine Tr.cn rfl ?_ ?_<;>intro h1 q1
 exfalso;exact hb H_;refine ac ?_;refine ac ?_;refine co rfl (lY rfl vq) (co rfl (W9 rfl vq vq) ?_);refine co rfl (lZ (c:=125613361#32) rfl vq vq) ?_;refine co rfl (ru rfl vq vq AB) (co rfl (ZD rfl underlying330 Fq vq vq (Int.natCast_nonneg _) (uh _)) (co rfl (Bi 0 rfl (xw rfl rfl vq (VI hb))) ?_));refine co rfl (Wg rfl underlying5 underlying3 vq H8) ?_;refine ac ?_;refine Tr.ret (Fin.Ey rfl rfl ?_ (fun _ _ _ _=>rfl))
 .exact Lr
theorem eR{b:BitVec 32}:Aq prog 149 [u32 b,int ((i:Nat):Int)] (bool (b.getLsbD i)):=by
 refine fo func149 rfl ⟨rfl,rfl⟩ fun M0 w0=>?_;refine a2 ?_;refine co rfl (lW rfl vq vq (Int.natCast_nonneg _)) ?_;refine co rfl (W9 (c:=1#32) rfl vq vq) ?_;refine co rfl (xy rfl vq vq) ?_;refine a2 ?_
 .exact Lr
abbrev S1:TypeId:=170
abbrev uj(b:Nat):Value:= .func (.func 204) #[] #[.pointer (some ⟨b,0,none⟩)]
def AGx(s:BitVec 32)(v:Value):Ay:=match v with| .func _ _ #[.pointer (some a)]=>AE true a.block S1 [u32 s]|_=>Bb
def Jt(s:BitVec 32)(pre:List Nat):BitVec 32:=pre.foldl iR s
theorem Ou(s:BitVec 32)(pre:List Nat)(x:Nat):Jt s (pre++[x])=iR (Jt s pre) x:=by unfold Jt;rw[List.foldl_append];rfl
theorem zo{s:BitVec 32}  :Hy (α:=Nat) prog 150 [u32 s] [] (fun _=>True) (fun b=>is (uj b)) (fun b=>[AE true b S1 [u32 s]]):=by
 refine Hy.of func150 rfl rfl Ag fun M0 w0 S rs M1 w1=>(Tr.seq (Tr.At ?_));refine TO.Iu rfl rfl AB rfl Cf (fun b1=>?_);refine ap ?_;refine Tr.seq (Tr.Bo (co rfl (ry rfl vq) ?_));refine ac ?_;refine Tr.ret (Fin.Ra (b1) rfl (AL.tmp rfl Lr) trivial ?_ (List.Perm.refl _))
 .exact Lr
theorem vw{s:BitVec 32}:BM Tryz.prog 150 [u32 s] (Cp.ex fun b=>is (uj b)) Bb (AGx s):=BM.x9 zo
theorem eS{s:BitVec 32}{b:Nat}  :KV prog 204 #[.pointer (some ⟨b,0,none⟩)] (fun i:Nat=> .int .i64 (i:Int)) (S0 s) (fun pre=>[Gp,AE true b S1 [u32 (Jt s pre)]]):=by
 refine KV.of (ps:=[is (.pointer (some ⟨b,0,none⟩))]) func204 rfl Ag (fun _ _=>⟨rfl,trivial⟩) ?_;intro M0 w0 S l β R Rx M1 w1 hy d;refine Tr.block (Tr.GF _ (kk [1,0] rfl) (fun(pre:List Nat) (d2:β)=>[]) (fun(pre:List Nat) (d2:β)=>Hp M0 w0 S (Gp::AE true b S1 [u32 (Jt s pre)]::Ao M1 w1::R pre d2)) (fun(pre:List Nat) (d2:β)=>pre++S0 (Jt s pre)=S0 s) (fun(pre:List Nat) (d2:β)=>(S0 (Jt s pre)).length) ([]) (d)  (rfl) trivial (fun _ _ h=>h) ?_);rintro pre d2  hpe;refine Tr.seq (Tr.seq (Tr.Bo (co rfl (Bi 1 rfl (A9 rfl KK vq rfl)) (co rfl (lX rfl vq vq) ?_))));refine ac ?_;refine Tr.cn rfl ?_ ?_<;>intro h1 q1
 have hne:Jt s pre≠0#32:=by simpa using h1
 have oz:=SV hne;have jE:=Z6 hne;have hpx:(pre++[J3 (Jt s pre)])<+:S0 s:=⟨S0 (iR (Jt s pre) (J3 (Jt s pre))),by rw[←hpe,oz];simp⟩;refine ac ?_;refine ap ?_;refine TO.LC 0 rfl rfl AB (Au rfl rfl AB rfl (zn hne) kz) ?_;refine ap ?_;refine Tr.seq (Tr.rx ?_);refine ay ?_;refine xo rfl (fun _=>NW (b:=1#32) rfl vq vq (Int.natCast_nonneg _)) ?_;refine xo rfl (fun _=>PM rfl vq vq) (Cx.ED 1 rfl rfl (BP rfl rfl vq Cf GI rfl Ag rfl) ?_);refine Cx.nil ⟨by kernel_rfl,?_⟩;refine BG.done ko (Fin.go (Tr.seq ?_));refine Tr.Hx 1 [u32 (Jt s (pre++[J3 (Jt s pre)]))] rfl ⟨Pr.le_of_eq (by rw[Ou];rfl),trivial⟩ ?_;refine Tr.ld (own:=fun pre=>[Gp,AE true b S1 [u32 (Jt s pre)]]) (pre:=pre) (x:=J3 (Jt s pre)) (d:=d2) hy hpx rfl rfl rfl rfl rfl rfl rfl rfl rfl rfl rfl rfl Ag Ag Ag Ag AB rfl rfl rfl rfl rfl (fun d3=>?_) (fun d3=>?_);refine Fin.go (Tr.cond rfl (fun h=>nomatch h) (fun _=>?_));refine Tr.skip (Fin.block ?_);exact Fin.Gw (pre++[J3 (Jt s pre)]) (d3)  (⟨by rw[Ou,List.append_assoc,←hpe,oz];rfl,by rw[Ou,oz];simp⟩) ⟨kq,kz⟩ (fun _ _ h=>h);refine Fin.go (Tr.cond rfl (fun _=>?_) (fun h=>nomatch h));refine Tr.ret (Fin.Ak (Fin.AF (Fin.Ak (Fin.x8 (g:=f204) (own:=fun pre=>[Gp,AE true b S1 [u32 (Jt s pre)]]) (R:=R) (Rx:=Rx) (d:=d3) rfl hpx))));have hz:Jt s pre=0#32:=by simpa using h1
 obtain rfl:pre=S0 s:=by rw[hz,oq,List.append_nil]at hpe;exact hpe
 refine Tr.exit (Fin.BF (Fin.BF (Fin.B1 (Fin.ADE (g:=f204) (own:=fun pre=>[Gp,AE true b S1 [u32 (Jt s pre)]]) (xs:=S0 s) (R:=R) (Rx:=Rx) (d:=d2) rfl))))
theorem eT:Entry Tryz.prog 204:=⟨_,Tryz.func204,rfl,rfl⟩
-- bits as AHm are ADi (behind AHn.lean)
def bvF(p:Nat->Bool):Nat->BitVec 32
 |0=>0#32
 |k+1=>if p k then iS (bvF p k) k else bvF p k
theorem o9(p:Nat->Bool):∀(k:Nat) {j:Nat},k<=32->(bvF p k).getLsbD j=(decide (j<k)&&p j)
 |0,j,_=>by simp[bvF]
 |k+1,j,hk=>by
  have ih:= @o9 p k j AA;unfold bvF
  split
  next h=>
   rw[Z5 AA,ih]
   by_cases hj:k=j
   .subst hj;simp[h]
   .
    by_cases h2:j<k
    .
     have:j<k+1:=by omega
     simp[h2,this,hj]
    .
     have:¬j<k+1:=by omega
     simp[h2,this,hj]
  next h=>
   rw[ih]
   by_cases hj:k=j
   .subst hj;simp at h;simp[h]
   .
    by_cases h2:j<k
    .
     have:j<k+1:=by omega
     simp[h2,this]
    .
     have:¬j<k+1:=by omega
     simp[h2,this]
def GQ(n:Nat)(l:List G0):List (BitVec 32):=(List.range n).map fun b=>bvF (fun a=>GW l n a b) n
theorem D5(n:Nat)(l:List G0):(GQ n l).length=n:=by unfold GQ;simp
theorem Im{n:Nat}{l:List G0}(hn:n<=32):Fw n (GQ n l) (GW l n):=by
 refine⟨D5 n l,fun b x hx a=>?_⟩;unfold GQ at hx;rw[List.getElem?_map]at hx;rcases Nat.lt_or_ge b n with hb|hb
 .
  rw[List.getElem?_range hb]at hx;simp only[Option.map_some,Option.some.injEq]at hx;subst hx;exact o9 _ n hn
 .rw[List.getElem?_eq_none JP]at hx;cases hx
theorem Z8{n:Nat}{C:List (BitVec 32)}{M:Nat->Nat->Bool}(h:Fw n B M)(h':Fw n C M):B=C:=by
 apply List.ext_getElem?
 intro b;rcases Nat.lt_or_ge b n with hb|hb
 .
  obtain⟨x,hx⟩:=at_ (l:=B) (k:=b) (by rw[h.1];exact hb);obtain⟨y,hy⟩:=at_ (l:=C) (k:=b) (by rw[h'.1];exact hb);rw[hx,hy]
  congr 1
  exact BitVec.eq_of_getLsbD_eq fun i _=>by rw[h.2 b x hx,h'.2 b y hy]
 .rw[List.getElem?_eq_none (by rw[h.1];exact hb),List.getElem?_eq_none (by rw[h'.1];exact hb)]
theorem iU{l:List G0}{r:G0}(h:l[k]? =some r)(a b:Nat):Lw (l.take (k+1)) a b=(Lw (l.take k) a b||(decide (r.fst=(a:Int))&&decide (r.thn=(b:Int)))):=by
 unfold Lw;rw[List.take_add_one,h,List.any_append];simp
theorem Z9{n:Nat}{l:List G0}{r:G0}{x:BitVec 32}(h:Fw n B (Lw (l.take k)))(hr:l[k]? =some r)(hf:0<=r.fst/\r.fst<n)(ht:0<=r.thn)(hx:B[r.thn.toNat]? =some x)(hn:n<=32):Fw n (B.set r.thn.toNat (iS x r.fst.toNat)) (Lw (l.take (k+1))):=by grind [SW,ou,iU]
def Kr(i:Nat)(A:List (BitVec 32))(k:Nat):List (BitVec 32):=A.set k (iS (A.getD k 0#32) i)
def Lc(B:List (BitVec 32)):Nat->List (BitVec 32)
 |0=>List.replicate B.length 0#32
 |i+1=>(S0 (B.getD i 0#32)).foldl (Kr i) (Lc B i)
theorem Ov(i:Nat):∀(ks:List Nat) (A:List (BitVec 32)),(ks.foldl (Kr i) A).length=A.length
 |[],_=>rfl
 |k::ks,A=>by rw[List.foldl_cons,Ov i ks];unfold Kr;rw[List.length_set]
theorem JF(B:List (BitVec 32)):∀i,(Lc B i).length=B.length
 |0=>List.length_replicate
 |i+1=>by unfold Lc;rw[Ov,JF B i]
theorem iV{x:BitVec 32}(h:B[i]? =some x):Lc B (i+1)=(S0 x).foldl (Kr i) (Lc B i):=by
 rw[Lc,List.getD_eq_getElem?_getD,h];rfl
abbrev bits(B:List (BitVec 32)):Pr:=slice 1 (B.map fun x=>[u32 x])
def zq(a b:G0):Int:=orF [Y6 a.fst b.fst,Y6 a.thn b.thn]
theorem WE{a b:G0}:decide (zq a b≥0)= !Lu a b:=by grind [zq,Lu,orF,Y6]
theorem LU{i:Int}{x:BitVec 32}(h:B[i.toNat]? =some x):(B.map fun x=>u32 x)[0+i.toNat*1]? =some (u32 x):=by rw[Nat.zero_add,Nat.mul_one,List.getElem?_map,h];rfl
theorem SX{i:Int}{x y:BitVec 32}(h:B[i.toNat]? =some x):(B.map fun x=>u32 x).take (0+i.toNat*1)++[u32 y]++(B.map fun x=>u32 x).drop (0+i.toNat*1+1)=(B.set i.toNat y).map fun x=>u32 x:=by
 have hl:i.toNat<B.length:=by rcases Nat.lt_or_ge i.toNat B.length with h2|h2;exact h2;rw[List.getElem?_eq_none h2]at h;cases h
 rw[Nat.zero_add,Nat.mul_one,List.set_eq_take_append_cons_drop,if_pos hl];simp[List.map_take,List.map_drop]
theorem UF(B:List (BitVec 32)):(B.map fun x=>u32 x)=(B.map fun x=>[u32 x]).flatten++([]:List Value).map is:=by
 induction B with
 |nil=>rfl
 |cons x B ih=>simp at ih ⊢;exact ih
theorem UG(n:Nat):(List.replicate n (Value.int .u32 0)).map is=(List.replicate n 0#32).map fun x=>u32 x:=by rw[List.map_replicate,List.map_replicate];rfl
theorem YD{x:BitVec 32}(h:B[i]? =some x):(B.map fun x=>[u32 x])[((i:Nat):Int).toNat]? =some [u32 x]:=by rw[Int.toNat_natCast,List.getElem?_map,h];rfl
theorem iW{pre:List Nat}{A:List (BitVec 32)}{y:BitVec 32}(h:(pre.foldl (Kr i) A)[k]? =some y):(pre.foldl (Kr i) A).set k (iS y i)=(pre++[k]).foldl (Kr i) A:=by grind [Kr,iS]
theorem zu{n:Nat}{r:G0}(h:Il n r=false):(0<=r.fst/\r.fst<n)/\(0<=r.thn/\r.thn<n)/\r.fst≠r.thn:=by
 unfold Il at h;rw[decide_eq_false_iff_not]at h;omega
theorem zv(h:Hh ps qs):Pr.le (ref ps) (ref qs):=fun M w v ⟨a,h1,h2⟩=>⟨a,h1,fun i q hq=>by
 obtain⟨p,hp,hle⟩:=h.at_ i q hq;obtain⟨u,g1,g2⟩:=h2 i p hp
 exact⟨u,g1,g2.1,g2.2.1,hle _ _ _ g2.2.2⟩⟩
theorem o_{xs pre:List Nat}{x:Nat}(h:(pre++[x])<+:xs):x∈xs:=h.subset Ai
theorem Z_{a b:G0}  :Aq prog 147 [agg (zi a),agg (zi b)] (int (zq a b)):=by
 refine fo func147 rfl ⟨rfl,rfl⟩ fun M0 w0=>?_;refine a2 ?_;refine co rfl (CG (lG) rfl rfl rfl) ?_;refine ac ?_;refine co rfl (CG (lG) rfl rfl rfl) (co rfl (AX (xs:=[.tmp 9,.tmp 14]) (rows:=[[_],[_]]) rfl rfl underlying22 C4 z3 rfl AB ⟨⟨Ab,Cf⟩,⟨⟨Ab,Cf⟩,trivial⟩⟩ AB) ?_);refine co rfl (Aa rfl (AC8 (l:=[Y6 a.fst b.fst,Y6 a.thn b.thn])) ⟨Ec,trivial⟩) ?_;refine ac ?_;refine wk [4] rfl ?_;refine ac ?_
 .exact Lr
theorem iX{n:Nat}{l:List G0}(hn:n<=24)(hbd:∀r∈l,Il n r=false):BM prog 148 [int ((n:Nat):Int),reqs l] (ref [int ((n:Nat):Int),bits (GQ n l),bits (Lc (GQ n l) n)]) (Gp) (fun _=>Gp):=by
 refine BM.ofM func148 rfl rfl Ag fun M0 w0 S rs M1 w1=>?_;refine Tr.Dr 1 rfl fun Tc=>?_;refine ac ?_;refine Tr.seq (Tr.pad ?_);refine Tr.pad (Tr.pad (Tr.pad (Tr.rx ?_)));refine ay ?_;refine Cx.ef 0 rfl rfl AB (lu rfl rfl AB rfl underlying239 GI b_ qd rfl vq vq HJ AA) ?_;refine xm rfl ?_;refine Cx.ef 1 rfl rfl AB (lu rfl rfl AB rfl underlying239 GI b_ qd rfl vq vq HJ AA) ?_;refine Cx.ef 2 rfl rfl AB (x5 (d:=17) (s:=14) (t:=16) (q:=any) rfl AB AB (fun _ _ _ _ _ _=>trivial) rfl rfl rfl AB AB (fun v1 v2=>x6 rfl rfl AB (fun _=>Al (rows:=[(0,[_]),(1,[_]),(2,[_])]) rfl vC vD ⟨⟨rfl,VL.le vq (AV _)⟩,⟨⟨rfl,VL.le vq (AV _)⟩,⟨⟨rfl,VL.le vq (AV _)⟩,trivial⟩⟩⟩ rfl))) (Cx.ef 2 rfl rfl AB (rz rfl rfl AB rfl AB AB) (Cx.ef 3 rfl rfl AB (Gh rfl rfl AB rfl ABh vB) (Cx.ED 3 rfl rfl (fQ rfl rfl rfl AB rfl rfl vA rfl) ?_)));refine Cx.nil ⟨by kernel_rfl,?_⟩;refine BG.pin 14 rfl (fun v14=>?_);refine BG.pin 16 rfl (fun v16=>?_);refine BG.pin 18 rfl (fun v18=>?_);refine BG.pin 5 rfl (fun v5=>?_);refine BG.ADB 0 14 rfl rfl (BG.ADB 1 16 rfl rfl (BG.AGY 2 18 14 16 rfl rfl rfl rfl (BG.AGX 3 5 18 rfl rfl rfl (BG.done al6 (Fin.shape 14 (fun b=>U4 n b) rfl (fun b1 e1=>?_))))));refine Fin.shape 16 (fun b=>U4 n b) rfl (fun b2 e2=>?_);refine Fin.shape 18 (fun b=> .pointer (some ⟨b,0,none⟩)) rfl (fun b3 e3=>?_);refine Fin.shape 5 (fun b=> .pointer (some ⟨b,0,none⟩)) rfl (fun b4 e4=>?_);subst e1 e2 e3 e4;refine Fin.KW 0 (AE true b1 S1 ((List.replicate n 0#32).map fun x=>u32 x)) rfl (by rw[←UG];rfl) ?_;refine Fin.KW 1 (AE true b2 S1 ((List.replicate n 0#32).map fun x=>u32 x)) rfl (by rw[←UG];rfl) ?_;refine Fin.KW 2 (AE true b3 241 [int ((n:Nat):Int),Aj (U4 n b1) _,Aj (U4 n b2) _]) rfl rfl (Fin.Hx 2 [int ((n:Nat):Int),is (U4 n b1),is (U4 n b2)] rfl ⟨Lr,Cy _ _,Cy _ _,trivial⟩ (Fin.KW 3 (AE true b4 166 [Aj (.pointer (some ⟨b3,0,none⟩)) _]) rfl rfl (Fin.Hx 3 [ptr b3 0] rfl ⟨Cy _ _,trivial⟩ (Fin.go ?_))));refine ac ?_;refine Tr.block (Tr.GF _ (kk [20,19,5,0] rfl) (fun(B:List (BitVec 32)) (m:Nat)=>[(21,int ((m:Nat):Int))]) (fun(B:List (BitVec 32)) (m:Nat)=>Hp M0 w0 S (AE true b1 S1 (B.map fun x=>u32 x)::AE true b2 S1 ((List.replicate n 0#32).map fun x=>u32 x)::AE true b3 241 [int ((n:Nat):Int),is (U4 n b1),is (U4 n b2)]::AE true b4 166 [ptr b3 0]::Gp::Ao M1 w1::rs)) (fun(B:List (BitVec 32)) (m:Nat)=>m<=l.length/\Fw n B (Lw (l.take m))) (fun(B:List (BitVec 32)) (m:Nat)=>l.length-m) (List.replicate n 0#32) (0)  (⟨Nat.zero_le _,SW (Z7 n) fun a b _ _=>rfl⟩) kz (fun _ _ h=>h) ?_);rintro B m  ⟨hm0,hB⟩;refine ac ?_;refine Tr.seq ?_;refine Tr.cn rfl ?_ ?_<;>intro h1 q1
 have hm:m<l.length:=AQ h1;obtain⟨r,hr⟩:=at_ hm;obtain⟨hf,ht,_⟩:=zu (hbd r (List.mem_of_getElem? hr));have hBl:=hB.1;obtain⟨x,hx⟩:=at_ (l:=B) (k:=r.thn.toNat) AA;refine ac ?_;refine Tr.seq (Tr.block (Tr.seq (Tr.At (tp rfl (AD rfl underlying43 NK vq vq AA (Ap hr)) (tp rfl (AO rfl VA NK vq rfl rfl) ?_)))));refine Tl rfl rfl rfl rfl xC kL (fun b5=>?_);refine sf 0 7 ⟨rfl,rfl,rfl⟩ rfl rfl rfl rfl ?_;refine ao ?_;refine Tr.rx ?_;refine ay ?_;refine xo rfl (fun _=>CX rfl underlying239 GI (vl rfl) (vl rfl) AA AA) (Jv 0 rfl rfl (A9 rfl KK (vl rfl) (LU hx)) ?_);refine ay ?_;refine xo rfl (fun _=>NW (b:=1#32) rfl vq vq AA) ?_;refine xo rfl (fun _=>QM rfl vq vq) (xo rfl (fun _=>CX rfl underlying239 GI vq vq AA AA) ?_);refine Cx.ED 0 rfl rfl (BP rfl rfl (vl rfl) (Vo rfl) GI rfl Cg (SX hx)) ?_;refine Cx.nil ⟨by kernel_rfl,?_⟩;refine BG.done al6 ?_;refine ac ?_;refine wk [21,20,19,5,0] rfl ?_;refine ac ?_;exact Fin.Gw (B.set r.thn.toNat (iS x r.fst.toNat)) (m+1)  (⟨⟨hm,Z9 hB hr hf ht.1 hx AA⟩,by omega⟩) ⟨⟨_,rfl,AK m⟩,kz⟩ (fun _ _ h=>h);have hml:m=l.length:=by have:=AU h1;omega
 rw[hml,List.take_length]at hB;refine a2 ?_;refine Tr.block (Tr.GF _ (kk [39,5,0] rfl) (fun(B2:List (BitVec 32)) (k:Nat)=>[(40,int ((k:Nat):Int))]) (fun(B2:List (BitVec 32)) (k:Nat)=>Hp M0 w0 S (AE true b1 S1 (B2.map fun x=>u32 x)::AE true b2 S1 ((List.replicate n 0#32).map fun x=>u32 x)::AE true b3 241 [int ((n:Nat):Int),is (U4 n b1),is (U4 n b2)]::AE true b4 166 [ptr b3 0]::Gp::Ao M1 w1::rs)) (fun(B2:List (BitVec 32)) (k:Nat)=>k<=n/\Fw n B2 (GW l k)) (fun(B2:List (BitVec 32)) (k:Nat)=>n-k) (B) (0)  (⟨Nat.zero_le _,hB⟩) kz (fun _ _ h=>h) ?_);rintro B2 k  ⟨hk0,hB2⟩;refine ac ?_;refine Tr.seq ?_;refine Tr.cn rfl ?_ ?_<;>intro h2 q2
 have hk:k<n:=AQ h2;refine a3 ?_;refine Tr.block ?_;refine Tr.GF _ (kk [43,40,39,8,5,0] rfl) (fun(B3:List (BitVec 32)) (i:Nat)=>[(44,int ((i:Nat):Int))]) (fun(B3:List (BitVec 32)) (i:Nat)=>Hp M0 w0 S (AE true b1 S1 (B3.map fun x=>u32 x)::AE true b2 S1 ((List.replicate n 0#32).map fun x=>u32 x)::AE true b3 241 [int ((n:Nat):Int),is (U4 n b1),is (U4 n b2)]::AE true b4 166 [ptr b3 0]::Gp::Ao M1 w1::rs)) (fun(B3:List (BitVec 32)) (i:Nat)=>i<=n/\Fw n B3 (Lb k (GW l k) i)) (fun(B3:List (BitVec 32)) (i:Nat)=>n-i) (B2) (0)  (⟨Nat.zero_le _,by rw[zm];exact hB2⟩) kz (fun _ _ h=>h) ?_;rintro B3 i  ⟨hi0,hB3⟩;refine ac ?_;refine Tr.seq ?_;refine Tr.cn rfl ?_ ?_<;>intro h3 q3
 have hi:i<n:=AQ h3;have hBl:=hB3.1;obtain⟨x,hx⟩:=at_ (l:=B3) (k:=i) AA;obtain⟨y,hy⟩:=at_ (l:=B3) (k:=k) AA;refine a3 ?_;refine co rfl (CX rfl underlying239 GI (vl rfl) (vl rfl) AA AA) (co rfl (Bi 0 rfl (A9 rfl KK (vl rfl) (LU hx))) (cm rfl (co rfl (CG (eR) rfl rfl rfl) ?_)));refine ac ?_;refine wk [55,44,43,40,39,9,8,5,0] rfl ?_;refine Tr.cn rfl ?_ ?_<;>intro h4 q4
 refine Tr.rx ?_;refine ay ?_;refine xo rfl (fun _=>CX rfl underlying239 GI (vl rfl) (vl rfl) AA AA) (Jv 0 rfl rfl (A9 rfl KK (vl rfl) (LU hx)) ?_);refine ay ?_;refine xo rfl (fun _=>CX rfl underlying239 GI (vl rfl) (vl rfl) AA AA) (Jv 0 rfl rfl (A9 rfl KK (vl rfl) (LU hy)) (xo rfl (fun _=>QM rfl (vl rfl) (vl rfl)) (xo rfl (fun _=>CX rfl underlying239 GI (vl rfl) (vl rfl) AA AA) ?_)));refine Cx.ED 0 rfl rfl (BP rfl rfl (vl rfl) (Vo rfl) GI rfl Cg (SX hx)) ?_;refine Cx.nil ⟨by kernel_rfl,?_⟩;refine BG.done al6 ?_;refine ac ?_;refine wk [44,43,40,39,8,5,0] rfl ?_;refine ac ?_;exact Fin.Gw (B3.set i (x|||y)) (i+1)  (⟨⟨hi,oy hB3 hx hy (by rw[←YB hB3 hx hk];exact h4)⟩,by omega⟩) ⟨⟨_,rfl,AK i⟩,kz⟩ (fun _ _ h=>h);refine a2 ?_;exact Fin.Gw (B3) (i+1)  (⟨⟨hi,ug hB3 (by rw[←YB hB3 hx hk];exact h4)⟩,by omega⟩) ⟨⟨_,rfl,AK i⟩,kz⟩ (fun _ _ h=>h);have hin:i=n:=by have:=AU h3;omega
 rw[hin]at hB3;refine a2 ?_;exact Fin.Gw (B3) (k+1)  (⟨⟨hk,SW hB3 fun a b _ hb=>ow hb⟩,by omega⟩) ⟨⟨_,rfl,AK k⟩,kz⟩ (fun _ _ h=>h);have hkn:k=n:=by have:=AU h2;omega
 rw[hkn]at hB2;obtain rfl:=Z8 hB2 (Im AA);refine a2 ?_;refine Tr.block ?_;refine Tr.x7 _ (kk [74,5] rfl) (fun Ds i=>⟨_,Ds.map Cp.mark⟩) (fun Ds i=>[(75,int ((i:Nat):Int))]) (fun Ds i=>Hp M0 w0 S (AE true b1 S1 ((GQ n l).map fun x=>u32 x)::AE true b2 S1 ((Lc (GQ n l) i).map fun x=>u32 x)::AE true b3 241 [int ((n:Nat):Int),is (U4 n b1),is (U4 n b2)]::AE true b4 166 [ptr b3 0]::Gp::(Ds.map Rm++Ao M1 w1::rs))) (fun Ds i=>i<=(n)) (fun Ds i=>(n)-i) [] 0 rfl (Nat.zero_le _) kz ((by rw[Lc,D5];exact fun _ _ h=>h)) ?_;rintro Ds i dP;refine Tr.seq (Tr.Bo (Ch.op rfl rfl Ag Yr ?_));refine ac ?_;refine Tr.seq ?_;refine Tr.cn rfl ?_ ?_<;>intro h5 q5
 have MZ:i<(n):=AQ h5;obtain⟨x,hx⟩:=at_ (l:=GQ n l) (k:=i) (by rw[D5];omega);refine ac ?_;refine Tr.seq (Tr.block (Tr.seq (Tr.At (TO.op rfl rfl Ag (BX rfl vq) ?_))));refine TO.alloc rfl rfl Ag rfl z3 zo3 (fun b6=>?_);refine sf 0 10 ⟨rfl,rfl,rfl⟩ rfl rfl rfl rfl ?_;refine ao ?_;refine Tr.seq (Tr.pad (Tr.rx (Cx.rd 4 rfl rfl rfl Ag (A9 rfl U_ (vl rfl) rfl) (Cx.op rfl rfl Ag (fun _=>A8 rfl (vl rfl)) (Cx.op rfl rfl Ag (fun _=>AG rfl cA (vl rfl)) (Cx.rd 3 rfl rfl rfl Ag (A9 rfl Yv (vl rfl) rfl) (Cx.op rfl rfl Ag (fun _=>FO rfl DP rfl) (Cx.op rfl rfl Ag (fun _=>CX rfl underlying239 GI (vl rfl) (vl rfl) AA AA) (Cx.rd 1 rfl rfl rfl Ag (A9 rfl KK (vl rfl) (LU hx)) (Cx.ef 0 rfl rfl Ag (EI rfl rfl Ag rfl (vw) ⟨ke rfl,trivial⟩) ?_))))))))));refine Cx.nil ⟨by kernel_rfl,?_⟩;refine BG.open_ 0 85 rfl rfl (fun v1=>?_);refine BG.done al6 (Fin.shape 85 (fun b=>uj b) rfl (fun fb7 fe7=>?_));subst fe7;refine Fin.KW 0 (AE true fb7 S1 [_]) rfl rfl (Fin.go (wk [85,75,74,10,5] rfl (Tr.block (Tr.l5 11 _ (kk [10,5] rfl) (fun pre=>AE true b1 S1 ((GQ n l).map fun x=>u32 x)::AE true b2 S1 ((pre.foldl (Kr i) (Lc (GQ n l) i)).map fun x=>u32 x)::AE true b3 241 [int ((n:Nat):Int),is (U4 n b1),is (U4 n b2)]::AE true b4 166 [ptr b3 0]::(Ds.map Rm++Ao M1 w1::rs)) (eS (s:=x)) eT vq ((AM (j:=5) rfl).trans (List.Perm.cons _ ((AM (j:=0) rfl).trans (List.Perm.cons _ (List.Perm.refl _))))) rfl Ag ?_ ?_ ?_))));rintro lk Dk rk Mr wr pre y0 hpre;refine Tr.Bo (Ch.op rfl rfl Ag (Ir rfl vq) (Ch.nil (Fin.st ⟨kq,kz⟩)));rintro lk Dk rk Mr wr pre y0 hpre
 have hlt:y0<n:=by
  have h_:=LS.1 (o_ hpre);rw[(Im AA).2 i x hx,Bool.and_eq_true,decide_eq_true_eq]at h_;exact h_.1
 have hal:(pre.foldl (Kr i) (Lc (GQ n l) i)).length=n:=by rw[Ov,JF,D5]
 obtain⟨y,hy⟩:=at_ (l:=pre.foldl (Kr i) (Lc (GQ n l) i)) (k:=y0) AA;refine Tr.block (Tr.rx (Cx.rd 8 rfl rfl rfl Ag (A9 rfl U_ (vl rfl) rfl) (Cx.op rfl rfl Ag (fun _=>A8 rfl (vl rfl)) (Cx.op rfl rfl Ag (fun _=>AG rfl qj (vl rfl)) (Cx.rd 7 rfl rfl rfl Ag (A9 rfl Yv (vl rfl) rfl) (Cx.op rfl rfl Ag (fun _=>BX rfl (vl rfl)) (Cx.op rfl rfl Ag (fun _=>CX rfl underlying239 GI (vl rfl) (vl rfl) AA AA) (Cx.rd 6 rfl rfl rfl Ag (A9 rfl KK (vl rfl) (LU hy)) (Cx.op rfl rfl Ag (fun _=>FO rfl DP rfl) ?_)))))))));refine Cx.op rfl rfl Ag (fun _=>NW (b:=1#32) rfl vq vq (Int.natCast_nonneg _)) ?_;refine Cx.op rfl rfl Ag (fun _=>QM rfl vq vq) (Cx.op rfl rfl Ag (fun _=>CX rfl underlying239 GI vq vq AA AA) ?_);refine Cx.ED 6 rfl rfl (BP rfl rfl (vl rfl) (Vo rfl) GI rfl Cg ((SX hy).trans (congrArg (fun B:List (BitVec 32)=>B.map fun x=>u32 x) (iW hy)))) ?_;refine Cx.nil ⟨by kernel_rfl,?_⟩;refine BG.done (Cu.cons (Cu.cons (Cu.cons (Cu.cons (Cu.cons (Cu.cons (Cu.cons (Cu.cons (Cu.cons (Cu.map _)))))))))) (Fin.block (Fin.rnd () (List.Perm.refl _)));rintro lk Dk rk Mr wr;refine Fin.drop 1 (Fin.drop 1 (Fin.drop 2 (Fin.Rs (List.Perm.cons _ ((List.perm_middle (l₁:=[_,_,_,_])).symm)) ?_)));refine Fin.Rs (List.perm_middle (l₁:=[_,_,_,_])).symm ?_;refine ac ?_;refine Tr.Bo ?_;refine Ch.op rfl rfl Ag (Hf rfl vq vq ?hin) ?_;case hin=>unfold Sb;omega
 refine Ch.op rfl rfl Ag (BX rfl vq) (Ch.nil ?_);exact Fin.ADD (_::_) (i+1) rfl (⟨MZ,by omega⟩) ⟨⟨_,rfl,AK i⟩,kz⟩ ((by rw[iV hx];exact fun _ _ h=>h));have Sv:i=(n):=by have:=AU h5;omega
 have AGy:=Sv.symm;subst AGy;refine ac ?_;refine Tr.seq (Tr.eqC 0 (((GQ n l).map fun x=>[u32 x]).flatten++([]:List Value).map is) rfl (UF _) ?_);refine Tr.rA (cap:=n) (sz:=1) ((GQ n l).map fun x=>[u32 x]) 0 2 1 rfl rfl AB rfl (Pr.le_of_eq (by rw[List.length_map,D5 n l])) (Ar fun _=>rfl) (by rw[List.length_map,D5 n l];exact Nat.le_refl _) HJ (by simp[JF,D5]) rfl ?_;refine Tr.eqC 1 (((Lc (GQ n l) n).map fun x=>[u32 x]).flatten++([]:List Value).map is) rfl (UF _) ?_;refine Tr.rA (cap:=n) (sz:=1) ((Lc (GQ n l) n).map fun x=>[u32 x]) 1 2 2 rfl rfl AB rfl (Pr.le_of_eq (by rw[List.length_map,(JF _ _).trans (D5 n l)])) (Ar fun _=>rfl) (by rw[List.length_map,(JF _ _).trans (D5 n l)];exact Nat.le_refl _) HJ (by simp[JF,D5]) rfl ?_;refine Tr.Bo (Ch.op rfl rfl Ag (Bi 3 rfl (A9 rfl U_ vq rfl)) (Ch.op rfl rfl Ag (Ir rfl vq) ?_));refine ac ?_;refine Tr.ret (Fin.freeze 2 4 rfl rfl (Fin.drop 0 (Fin.drop 0 (Fin.drop 0 (Fin.Rs List.perm_middle.symm (Fin.cW (Fin.Ey rfl rfl ?_ (fun _ _ _ _=>rfl))))))))
 .exact zv ⟨Lr,A0 _ _,A0 _ _,trivial⟩
def aA(n:Int)(l:List G0):Pr:=if C7 n l=0 then ref [int n,bits (GQ n.toNat l),bits (Lc (GQ n.toNat l) n.toNat)]else is (.pointer none)
instance ADj (n:Int)(l:List G0):One (aA n l):=by
 unfold aA;split
 .exact pg _
 .exact pZ _
theorem KC{n:Int}{l:List G0}{e:Int}(h:C7 n l=e)(he:e≠0):Pr.le (is (.pointer none)) (aA n l):=by
 unfold aA;rw[if_neg (by rw[h];exact he)];exact Pr.le_refl _
theorem eU{n:Int}{l:List G0}(h:C7 n l=0):aA n l=ref [int n,bits (GQ n.toNat l),bits (Lc (GQ n.toNat l) n.toNat)]:=by
 unfold aA;rw[if_pos h]
theorem Qp{n:Int}{l:List G0}(h:n<0\/24<n):C7 n l=2:=by unfold C7;rw[if_pos h]
theorem WR{n:Int}{l:List G0}{r:G0}(h:0<=n/\n<=24)(hr:l[k]? =some r)(hb:Il n r=true):C7 n l=44:=by grind [C7]
theorem uk{n:Int}{l:List G0}(h:∀j y,j<l.length->l[j]? =some y->Il n y=false):∀r∈l,Il n r=false:=fun r hr=>by
 obtain⟨j,hj⟩:=List.mem_iff_getElem?.1 hr;exact h j r (by rcases Nat.lt_or_ge j l.length with h2|h2;exact h2;rw[List.getElem?_eq_none h2]at hj;cases hj) hj
theorem aB{n:Int}{l:List G0}(h:∀r∈l,Il n r=false):¬l.any (Il n)=true:=by grind
theorem eV{n:Int}{l:List G0}{a b:G0}(h:0<=n/\n<=24)(hb:∀r∈l,Il n r=false)(hk:0<k)(ha:l[k-1]? =some a)(hx:l[k]? =some b)(hl:Lu a b=false):C7 n l=6:=by
 unfold C7;rw[if_neg AA,if_neg (aB hb),if_pos];cases hs:HT l with
 |false=>rfl
 |true=>
  have:=SB.1 hs (k-1) a b ha (by rw[Nat.sub_add_cancel hk];exact hx);rw[hl]at this;cases this
theorem YE{n:Nat}{l:List G0}(h:n<=24)(hb:∀r∈l,Il n r=false)(hs:HT l=true)(hi:i<n)(hw:GW l n i i=true):C7 n l=45:=by
 unfold C7;rw[if_neg AA,if_neg (aB hb),if_neg (by rw[hs];decide),if_pos (show th (n:Int).toNat l=true from List.any_eq_true.2 ⟨i,List.mem_range.2 AA,hw⟩)]
theorem eW{n:Nat}{l:List G0}(h:n<=24)(hb:∀r∈l,Il n r=false)(hs:HT l=true)(hw:∀i,i<n->GW l n i i=false):C7 n l=0:=by
 unfold C7;rw[if_neg AA,if_neg (aB hb),if_neg (by rw[hs];decide),if_neg];intro hc;obtain⟨i,hi,h2⟩:=List.any_eq_true.1 hc;have:=hw i (by simpa using hi);rw[show((n:Int)).toNat=n from rfl]at h2;rw[this]at h2;cases h2
theorem aC{l:List G0}(h:∀(j:Nat) a b,j+1<l.length->l[j]? =some a->l[j+1]? =some b->Lu a b=true):HT l=true:=SB.2 fun j a b ha hb=>h j a b (by rcases Nat.lt_or_ge (j+1) l.length with h2|h2;exact h2;rw[List.getElem?_eq_none h2]at hb;cases hb) ha hb
theorem PY{l:List G0}{x:G0}(hx:l[k]? =some x)(hp:∀y,0<k->l[k-1]? =some y->Lu y x=true)(h:∀(j:Nat) a b,j+1<k->l[j]? =some a->l[j+1]? =some b->Lu a b=true):∀(j:Nat) a b,j+1<k+1->l[j]? =some a->l[j+1]? =some b->Lu a b=true:=by grind
theorem um{n:Int}{l:List G0}  :BM prog 77 [int n,reqs l] (EB [aA n l,int (C7 n l)]) (Gp) (fun _=>Gp):=by
 refine BM.of func77 rfl rfl Ag fun M0 w0 S rs M1 w1=>?_;refine Tr.Dr 1 rfl fun Tc=>?_;refine ac ?_;refine ag ?_ ?_<;>intro h1 q1
 refine a2 ?_;refine Tr.ret (Fin.AF (Fin.IE rfl rfl ?_ rfl ?_))
 .exact KC (Qp AA) AB
 .refine int_eq ?_;exact(Qp AA).symm
 refine an ?_ ?_<;>intro h2 q2
 refine ac ?_;refine Tr.ret (Fin.AF (Fin.IE rfl rfl ?_ rfl ?_))
 .exact KC (Qp AA) AB
 .refine int_eq ?_;exact(Qp AA).symm
 have h24:0<=n/\n<=24:=by omega
 obtain⟨m,hm⟩:∃m:Nat,n=(m:Int):=⟨n.toNat,by omega⟩;refine a2 ?_;refine Tr.block (Tr.BV _ (kk [19,18,1,0] rfl) (fun k:Nat=>[(20,int ((k:Nat):Int))]) (fun k:Nat=>k<=(l).length/\(∀j y,j<k->l[j]? =some y->Il n y=false)) (fun k:Nat=>(l).length-k) 0 (⟨Nat.zero_le _,fun j y hj=>absurd hj AA⟩) kz ?_);rintro k ⟨BN,AW⟩;refine ac ?_;refine Tr.seq ?_;refine Tr.cn rfl ?_ ?_<;>intro h3 q3
 have Ae:k<(l).length:=AQ h3;obtain⟨x,Ad⟩:=at_ Ae;refine ac ?_;refine Tr.seq (Tr.block (Tr.seq (Tr.At (tp rfl (AD rfl underlying43 NK vq vq AA (Ap Ad)) (tp rfl (AO rfl VA NK vq rfl rfl) ?_)))));refine Tl rfl rfl rfl rfl xC kL (fun b1=>?_);refine sf 0 7 ⟨rfl,rfl,rfl⟩ rfl rfl rfl rfl ?_;refine ao ?_;refine ag ?_ ?_<;>intro h4 q4
 refine ac ?_;refine wk [50,20,19,18,1,0] rfl ?_;refine ac ?_;refine Tr.ret (Fin.Ak (Fin.AF (Fin.AF (Fin.Ak (Fin.AF (Fin.IE rfl rfl ?_ rfl ?_))))))
 .exact Q2
 .exact Q1
 refine ag ?_ ?_<;>intro h5 q5
 refine ac ?_;refine wk [50,20,19,18,1,0] rfl ?_;refine ac ?_;refine Tr.ret (Fin.Ak (Fin.AF (Fin.AF (Fin.Ak (Fin.AF (Fin.IE rfl rfl ?_ rfl ?_))))))
 .exact Q2
 .exact Q1
 refine ag ?_ ?_<;>intro h6 q6
 refine ac ?_;refine wk [50,20,19,18,1,0] rfl ?_;refine ac ?_;refine Tr.ret (Fin.Ak (Fin.AF (Fin.AF (Fin.Ak (Fin.AF (Fin.IE rfl rfl ?_ rfl ?_))))))
 .exact Q2
 .exact Q1
 refine ag ?_ ?_<;>intro h7 q7
 refine ac ?_;refine wk [50,20,19,18,1,0] rfl ?_;refine ac ?_;refine Tr.ret (Fin.Ak (Fin.AF (Fin.AF (Fin.Ak (Fin.AF (Fin.IE rfl rfl ?_ rfl ?_))))))
 .exact Q2
 .exact Q1
 refine ac ?_;refine wk [50,20,19,18,1,0] rfl ?_;refine Tr.cn rfl ?_ ?_<;>intro h8 q8
 refine ac ?_;refine Tr.ret (Fin.Ak (Fin.AF (Fin.AF (Fin.Ak (Fin.AF (Fin.IE rfl rfl ?_ rfl ?_))))))
 .exact Q2
 .exact Q1
 refine a2 ?_;exact Fin.AP (k+1) ⟨⟨Ae,C3 (p:=Il n) Ad (by unfold Il;rw[decide_eq_false_iff_not];omega) AW⟩,by omega⟩ ⟨⟨_,rfl,AK k⟩,kz⟩;have BA:k=(l).length:=by have:=AU h3;omega
 subst BA;refine ac ?_;refine Tr.seq (Tr.seq ?_);have hall:=uk AW
 clear AW
 refine ac ?_;refine Tr.block (Tr.BV _ (kk [53,1,0] rfl) (fun k:Nat=>[(54,int ((k:Nat):Int))]) (fun k:Nat=>k<=(l).length/\(∀(j:Nat) a b,j+1<k->l[j]? =some a->l[j+1]? =some b->Lu a b=true)) (fun k:Nat=>(l).length-k) 0 (⟨Nat.zero_le _,fun j a b hj=>absurd hj AA⟩) kz ?_);rintro k ⟨BN,AW⟩;refine ac ?_;refine Tr.seq ?_;refine Tr.cn rfl ?_ ?_<;>intro h9 q9
 have Ae:k<(l).length:=AQ h9;obtain⟨x,Ad⟩:=at_ Ae;refine a2 ?_;refine ag ?_ ?_<;>intro h10 NT
 obtain⟨y,hy⟩:=at_ (l:=l) (k:=k-1) AA;refine ac ?_;refine cy h10 rfl (AD rfl underlying43 NK vq vq AA (jj AA hy)) ?_;refine ac ?_;refine cy h10 rfl (AD rfl underlying43 NK vq vq AA (Ap Ad)) (cy h10 rfl (AO rfl VA NK vq rfl rfl) ?_);refine cy h10 rfl (CG (Z_ (a:=y) (b:=x)) rfl rfl rfl) ?_;refine ac ?_;refine wk [71,54,53,1,0] rfl ?_;refine Tr.cn rfl ?_ ?_<;>intro h11 Rl
 refine ac ?_;refine Tr.ret (Fin.Ak (Fin.AF (Fin.AF (Fin.Ak (Fin.AF (Fin.IE rfl rfl ?_ rfl ?_))))))
 .exact KC (eV h24 hall AA hy Ad (by have h_:=WE (a:=y) (b:=x);simp_all)) AB
 .refine int_eq ?_;exact(eV h24 hall AA hy Ad (by have h_:=WE (a:=y) (b:=x);simp_all)).symm
 refine a2 ?_;exact Fin.AP (k+1) ⟨⟨Ae,PY Ad (by intro y2 hk2 hy2;rw[hy]at hy2;cases hy2;have h_:=WE (a:=y) (b:=x);simp_all) AW⟩,by omega⟩ ⟨⟨_,rfl,AK k⟩,kz⟩;refine ac ?_;refine wk [71,54,53,1,0] rfl ?_;refine a2 ?_;exact Fin.AP (k+1) ⟨⟨Ae,PY Ad (by intro y2 hk2 hy2;omega) AW⟩,by omega⟩ ⟨⟨_,rfl,AK k⟩,kz⟩;have BA:k=(l).length:=by have:=AU h9;omega
 subst BA;refine ac ?_;refine Tr.seq ?_;have uo:=aC AW;subst hm;refine ao ?_;refine TO.LC 0 rfl rfl AB (Au rfl rfl AB rfl (iX (n:=m) AA hall) ⟨kq,kz⟩) ?_;refine ao ?_;refine Tr.seq (Tr.seq ?_);have hbl:=D5 m l;refine ac ?_;refine wk [81,80,79,9] rfl (Tr.block (Tr.BV _ (kk [80,79,9] rfl) (fun i:Nat=>[(81,int ((i:Nat):Int))]) (fun i:Nat=>i<=(GQ m l).length/\(∀j,j<i->GW l m j j=false)) (fun i:Nat=>(GQ m l).length-i) 0 (⟨Nat.zero_le _,fun j hj=>absurd hj AA⟩) kz ?_));rintro i ⟨dP,Hs⟩;refine ac ?_;refine Tr.seq ?_;refine Tr.cn rfl ?_ ?_<;>intro h12 Tn
 have MZ:i<(GQ m l).length:=AQ h12;obtain⟨x,Sc⟩:=at_ MZ;refine a2 ?_;refine co rfl (AD rfl underlying239 GI vq vq AA (YD Sc)) ?_;refine a2 ?_;refine co rfl (CG (eR) rfl rfl rfl) ?_;refine an ?_ ?_<;>intro LX YN
 refine ac ?_;refine wk [5,4] rfl (Tr.ret (Fin.Ak (Fin.AF (Fin.AF (Fin.Ak (Fin.AF (Fin.IE rfl rfl ?_ rfl ?_)))))))
 .exact KC (YE AA hall uo (i:=i) AA bC) AB
 .refine int_eq ?_;exact(YE AA hall uo (i:=i) AA bC).symm
 refine a2 ?_;exact Fin.AP (i+1) ⟨⟨MZ,(fun j hj=>by rcases Nat.lt_or_ge j i with h_|h_;exact Hs j h_;(obtain rfl:j=i:=by omega);have h_:=(Im (l:=l) (show m<=32 by omega)).2 j x Sc j;simp_all;done)⟩,by omega⟩ ⟨⟨_,rfl,AK i⟩,kz⟩;have Sv:i=(GQ m l).length:=by have:=AU h12;omega
 rw[D5]at Sv;subst Sv;refine a2 ?_;refine Tr.ret (Fin.IE rfl rfl ?_ rfl ?_)
 .rw[eU (eW AA hall uo Hs)];exact Lr
 .refine int_eq ?_;exact(eW AA hall uo Hs).symm
-- sets as bits: read, closed, what can be added (behind AHo.lean)
def Nz(l:List Int):BitVec 32:=l.foldl (fun b i=>iS b i.toNat) 0#32
theorem aD{x:Int}(h:l[k]? =some x):Nz (l.take (k+1))=iS (Nz (l.take k)) x.toNat:=by unfold Nz;rw[List.take_add_one,h,List.foldl_append];rfl
theorem eX{n:Nat}(hn:n<=32):∀(l:List Int) (b:BitVec 32) (i:Nat),(∀x∈l,0<=x/\x<n)->((l.foldl (fun b i=>iS b i.toNat) b).getLsbD i=true↔b.getLsbD i=true\/(i:Int)∈l)
 |[],b,i,_=>by simp
 |x::l,b,i,h=>by
  have hx:=h x (List.mem_cons_self ..);rw[List.foldl_cons,eX hn l (iS b x.toNat) i (fun y hy=>h y (List.mem_cons_of_mem _ hy)),Z5 AA,Bool.or_eq_true,decide_eq_true_eq,List.mem_cons];constructor
  .
   rintro((h1|h1)|h1)
   .exact .inl h1
   .right;left;omega
   .exact .inr (.inr h1)
  .
   rintro(h1|h1|h1)
   .exact .inl (.inl h1)
   .left;right;omega
   .exact .inr h1
theorem aE{n:Nat}(hn:n<=32)(h:∀x∈l,0<=x/\x<n):eP n (Nz l) l:=fun i=>by
 unfold Nz;rw[eX hn l 0#32 i h];simp
def WG(B:List (BitVec 32))(s:BitVec 32):Bool:=(S0 s).all fun i=>B.getD i 0#32&&&~~~s==0#32
theorem uq{n:Int}{l:List G0}{s:BitVec 32}{d:List Int}(hv:C7 n l=0)(hs:eP n.toNat s d)(hd:∀x∈d,0<=x/\x<n):WG (GQ n.toNat l) s=Jn l d:=by
 obtain⟨hn,hb,_,_⟩:=Xn hv;have hB:=Im (n:=n.toNat) (l:=l) AA
 have hat:∀i,i<n.toNat->(GQ n.toNat l)[i]? =some ((GQ n.toNat l).getD i 0#32):=fun i hi=>by
  rw[List.getD_eq_getElem?_getD,List.getElem?_eq_getElem (by rw[D5];exact hi)];rfl
 rw[Bool.eq_iff_iff];unfold WG;rw[List.all_eq_true];constructor
 .
  intro h;refine Kl.2 fun r hr hm=>?_;have hbr:=hb r hr;unfold Il at hbr;rw[decide_eq_false_iff_not]at hbr;have e1:((r.thn.toNat:Nat):Int)=r.thn:=by omega
  have e2:((r.fst.toNat:Nat):Int)=r.fst:=by omega
  have h1:s.getLsbD r.thn.toNat=true:=(hs _).2 (by rw[e1];exact hm);have h2:=h _ (LS.2 h1);rw[beq_iff_eq,YC]at h2
  have h3:=h2 r.fst.toNat (by
   rw[hB.2 _ _ (hat r.thn.toNat AA)];rw[Bool.and_eq_true,decide_eq_true_eq];refine⟨by omega,T5 ?_ _⟩;unfold Lw
   exact List.any_eq_true.2 ⟨r,hr,by simp;omega⟩)
  have:=(hs _).1 h3;rw[e2]at this;exact this
 .
  intro h i hi;have h1:=LS.1 hi;have h2:=(hs i).1 h1;have h3:=hd _ h2;rw[beq_iff_eq,YC];intro a ha;rw[hB.2 _ _ (hat i AA),Bool.and_eq_true]at ha;exact(hs a).2 (IP h _ ha.2 h2)
theorem pE{n:Int}(hk:k<=s.length)(h:∀j,j<k->setAt n s j=true): -1<=Nk s k:=by unfold Nk setAt at*;grind
theorem WH{n:Nat}(h:D6 (n:Int) s=true):∀x∈s,0<=x/\x<(n:Int):=fun x hx=>by
 obtain⟨i,hi⟩:=List.mem_iff_getElem?.1 hx;exact Vy h hi
theorem ur{n:Nat}{b:BitVec 32}(hb:eP n b s)(h:D6 (n:Int) s=true)(hi:b.getLsbD i=true):i<n:=by
 have:=WH h _ ((hb i).1 hi);omega
abbrev rdB(n:Nat)(l:List Int):BitVec 32:=if D6 (n:Int) l=true then Nz l else 0#32
abbrev uu(B:List (BitVec 32))(s:BitVec 32)(pre:List Nat):Prop:=∀i∈pre,(B.getD i 0#32&&&~~~s==0#32)=true
theorem uv{n:Nat}(hn:n<=24):Aq prog 78 [ref [int ((n:Nat):Int),bits B,p],ints l] (EB [u32 (rdB n l),bool (D6 ((n:Nat):Int) l)]):=by
 refine fo func78 rfl ⟨rfl,rfl⟩ fun M0 w0=>(Tr.Dr 1 rfl fun Tc=>?_)
 iterate 4 refine ac ?_
 refine Tr.block (Tr.BV _ (kk [11,10,0] rfl) (fun k:Nat=>[(12,int ((k:Nat):Int)),(7,int (Nk l k)),(6,u32 (Nz (l.take k)))]) (fun k:Nat=>k<=(l).length/\(∀j,j<k->setAt (n:Nat) l j=true)) (fun k:Nat=>(l).length-k) 0 (⟨Nat.zero_le _,fun j hj=>absurd hj AA⟩) ⟨kq,⟨_,rfl,int_eq rfl⟩,⟨_,rfl,WS⟩,trivial⟩ ?_);rintro k ⟨BN,AW⟩;refine ac ?_;refine Tr.seq ?_;refine Tr.cn rfl ?_ ?_<;>intro h1 q1
 have Ae:k<(l).length:=AQ h1;obtain⟨i,Ad⟩:=at_ Ae;have jC:=Mh AW Ad;have hlg:=pE AA AW;refine ac ?_;refine Tr.seq (Tr.block (Tr.seq (Tr.Bo (co rfl (AD rfl underlying50 C4 vq vq AA (Ap Ad)) ?_))));refine ac ?_;refine ag ?_ ?_<;>intro h2 q2
 refine ac ?_;refine wk [26,12,11,10,9,6,0] rfl ?_;refine ac ?_;refine Tr.ret (Fin.AF (Fin.Ak (Fin.AF (Fin.AF (Fin.Ak (Fin.AF (Fin.C_ rfl (CL.Eo _ _) rfl ?_ rfl ?_)))))))
 .exact aV
 .exact bK
 refine ac ?_;refine wk [26,12,11,10,9,6,0] rfl ?_;refine Tr.cn rfl ?_ ?_<;>intro h3 q3
 refine ac ?_;refine Tr.ret (Fin.AF (Fin.Ak (Fin.AF (Fin.AF (Fin.Ak (Fin.AF (Fin.C_ rfl (CL.Eo _ _) rfl ?_ rfl ?_)))))))
 .exact aV
 .exact bK
 refine a2 ?_;refine co rfl (NW (b:=1#32) rfl vq vq AA) ?_;refine co rfl (QM rfl vq vq) ?_;refine a2 ?_;refine wk [12,11,10,7,6,0] rfl ?_;refine ac ?_;exact Fin.AP (k+1) ⟨⟨Ae,Bx AW (by rw[jC];simp;omega)⟩,by omega⟩ ⟨⟨_,rfl,AK k⟩,⟨_,rfl,int_eq (by rw[R7 Ad])⟩,⟨_,rfl,Pr.le_of_eq (congrArg u32 (aD Ad).symm)⟩,kz⟩;have BA:k=(l).length:=by have:=AU h1;omega
 subst BA;have hsb:D6 ((n:Nat):Int) l=true:=B0.2 AW;refine a2 ?_;refine Tr.ret (Fin.C_ rfl (CL.Eo _ _) rfl ?_ rfl ?_)
 .rw[show rdB n l=Nz l from if_pos hsb,List.take_length];exact Lr
 .refine bool_eq ?_;exact hsb.symm
theorem zw{s y:BitVec 32}{x:Nat}(h:x∈S0 s)(hy:B[x]? =some y)(hn:(y&&&~~~s==0#32)=false):WG B s=false:=by grind [WG]
theorem uw{s:BitVec 32}(h:uu B s (S0 s)):WG B s=true:=by
 unfold WG;exact List.all_eq_true.2 h
theorem iY{n:Nat}[One p]{s:BitVec 32}(hB:B.length=n)(hs:∀i,s.getLsbD i=true->i<n):BM prog 79 [ref [int ((n:Nat):Int),bits B,p],u32 s] (bool (WG B s)) (Gp) (fun _=>Gp):=by
 refine BM.ofM func79 rfl rfl Ag fun M0 w0 S rs M1 w1=>?_;refine Tr.seq (Tr.At (tp rfl (BE rfl Cf) (tp rfl (BE rfl Cf) ?_)));refine Tl rfl rfl rfl rfl z4 zo4 (fun b1=>?_);refine ap ?_;refine ap ?_;refine TO.pad ?_;refine TO.EV 0 rfl rfl AB (EI rfl rfl AB rfl (vw) kz) (fun v1=>?_);refine TO.nil (Fin.shape 7 (fun b=>uj b) rfl (fun fb2 fe2=>?_));subst fe2;refine Fin.KW 0 (AE true fb2 S1 [_]) rfl rfl (Fin.go (Tr.block (Tr.cj (p:=uu B s []) (fun i h=>(by cases h)) ?_)));refine Tr.yx 5 _ (kk [4,3,2] rfl) (fun pre (_:Unit)=>Cm (uu B s pre)::AE true b1 4 [bool false]::Ao M1 w1::rs) (fun pre (_:Unit)=>Cm (WG B s=false)::AE true b1 4 [bool false]::Ao M1 w1::rs) () (eS (s:=s)) eT vq ((AM (j:=3) rfl).trans (List.Perm.cons _ ((AM (j:=1) rfl).trans (List.Perm.cons _ (List.Perm.refl _))))) rfl Ag ?_ ?_ ?_ ?_;rintro lk Dk rk Mr wr pre x _ hpre;refine ac ?_;exact Fin.st ⟨kq,kz⟩;rintro lk Dk rk Mr wr pre x _ hpre;have hsx:s.getLsbD x=true:=LS.1 (o_ hpre);obtain⟨y,hy⟩:=at_ (l:=B) (k:=x) (by have:=hs x hsx;omega);refine ac ?_;refine co rfl (AD rfl underlying239 GI vq vq AA (YD hy)) ?_;refine ac ?_;refine co rfl (PM rfl vq vq) (co rfl (lX rfl vq vq) ?_);refine ac ?_;refine wk [18,4] rfl ?_;refine Tr.cn rfl ?_ ?_<;>intro h1 q1
 refine Tr.seq (Tr.At (TO.Ac 6 rfl rfl rfl vq Cf rfl sz4 rfl rfl ?_));refine ap ?_;refine Tr.ret (Fin.Ak (Fin.nP 5 rfl (q:=WG B s=false) (fun _=>zw (LS.2 hsx) hy CU) ?_));exact Fin.yy () (List.Perm.refl _);refine Tr.skip (Fin.block ?_);refine Fin.nP 5 rfl (q:=uu B s (pre++[x])) (fun h i hi=>by rcases List.mem_append.1 hi with hi|hi;exact h i hi;(rw[List.mem_singleton]at hi;subst hi;rw[List.getD_eq_getElem?_getD,hy];simp_all)) ?_;exact Fin.rnd () (List.Perm.refl _);rintro lk Dk rk Mr wr _;refine Fin.prop 5 rfl fun hok=>(Fin.drop 1 (Fin.drop 1 (Fin.drop 2 (Fin.drop 2 ?_))));refine ac ?_;refine ap ?_;refine Tr.ret (Fin.Rs (List.perm_middle (l₁:=[_])) ?_);refine Fin.Rn (Fin.Ro (Fin.Rs ((List.perm_middle (l₁:=[_])).symm) ?_));refine Fin.HD [_] rfl (AL.dh 0 rfl rfl e9 Lr) ?_ (fun _ _ _ _=>rfl)
 .exact bool_eq (uw hok).symm
 rintro lk Dk rk Mr wr pre _ hpre;refine Fin.prop 5 rfl fun hno=>(Fin.drop 1 (Fin.drop 1 (Fin.drop 2 (Fin.drop 2 (Fin.Ak (Fin.AF (Fin.Rs (List.perm_middle (l₁:=[_])) ?_)))))));refine Fin.Rn (Fin.Ro (Fin.Rs ((List.perm_middle (l₁:=[_])).symm) ?_));refine Fin.HD [_] rfl (AL.dh 0 rfl rfl e9 Lr) ?_ (fun _ _ _ _=>rfl)
 .exact bool_eq hno.symm
theorem eY{n:Nat}(hn:n<=32)(h:D6 (n:Int) s=true):eP n (rdB n s) s:=by
 rw[show rdB n s=Nz s from if_pos h];exact aE hn (WH h)
def aF(n:Int)(l:List G0)(s:List Int):Int:=if C7 n l≠0 then C7 n l else if D6 n s=true then 0 else 46
def aG(n:Int)(l:List G0)(s:List Int):Bool:=decide (C7 n l=0)&&D6 n s&&Jn l s
theorem ADk{n:Int}{l:List G0}(h:C7 n l≠0):aF n l s=C7 n l/\aG n l s=false:=by grind [aF,aG]
theorem ADl{n:Int}{l:List G0}(h:C7 n l=0)(hs:D6 n s=false):aF n l s=46/\aG n l s=false:=by grind [aF,aG]
theorem v_{n:Int}{l:List G0}(h:C7 n l=0)(hs:D6 n s=true):aF n l s=0/\aG n l s=Jn l s:=by grind [aF,aG]
theorem aH{n:Int}{l:List G0}:BM prog 43 [int n,reqs l,ints s] (EB [bool (aG n l s),int (aF n l s)]) (Gp) (fun _=>Gp):=by
 refine BM.of func43 rfl rfl Ag fun M0 w0 S rs M1 w1=>?_;refine ac ?_;refine ap ?_;refine TO.LC 0 rfl rfl AB (Au rfl rfl AB rfl (um (n:=n) (l:=l)) ⟨kq,kz⟩) ?_;refine ap ?_;refine an ?_ ?_<;>intro h1 q1
 have hv:=ADk (s:=s) (n:=n) (l:=l) H_;refine ac ?_;refine wk [7,6] rfl (Tr.ret (Fin.AF (Fin.IE rfl rfl ?_ rfl ?_)))
 .refine bool_eq ?_;exact hv.2.symm
 .refine int_eq ?_;exact hv.1.symm
 have hv:C7 n l=0:=by simpa using h1
 have h24:=(Xn hv).1;obtain⟨N,rfl⟩:∃N:Nat,n=(N:Int):=⟨n.toNat,by omega⟩;refine Tr.re 8 rfl (Pr.le_of_eq (eU hv)) ?_;refine a2 ?_;refine co rfl (CG (uv (n:=N) (B:=GQ N l) (l:=s) AA) rfl rfl rfl) ?_;refine ac ?_;refine wk [11,10,8] rfl ?_;refine an ?_ ?_<;>intro h2 q2
 have PZ:=ADl (n:=(N:Int)) hv M8;refine ac ?_;refine Tr.ret (Fin.AF (Fin.IE rfl rfl ?_ rfl ?_))
 .refine bool_eq ?_;exact PZ.2.symm
 .refine int_eq ?_;exact PZ.1.symm
 have hsb:D6 ((N:Nat):Int) s=true:=by simpa using h2
 have hv3:=v_ hv hsb;refine ac ?_;refine ap ?_;refine TO.LC 0 rfl rfl AB (Au rfl rfl AB rfl (iY (n:=N) (D5 N l) (fun i h=>ur (eY AA hsb) hsb h)) ⟨kq,kz⟩) ?_;refine ap ?_;refine Tr.ret (Fin.IE rfl rfl ?_ rfl ?_)
 .refine bool_eq ?_;rw[hv3.2];exact uq (n:=(N:Int)) hv (eY AA hsb) (WH hsb)
 .refine int_eq ?_;exact hv3.1.symm
theorem UH{e:Es}{l:List Bl}{n:Nat}{fr DC:Int}(hz:e.sz n)(hn:n<=700000)(hc:∀c∈l,c.CO.fits/\c.CO.small)(jC:s.length<=4096)(hv:EO e=true)(hl:l.length<=24)(hs:D6 l.length s=true)(hd:(0<=fr/\fr<=40000)/\(0<=DC/\DC<=40000)):BM prog 18 [agg (CF e),Kq l,ints s,int fr,int DC] (EB [bool (E8 e l fr DC s),int 0]) (Gp) (fun _=>Gp):=by
 refine BM.of func18 rfl rfl Ag fun M0 w0 S rs M1 w1=>?_;have ew:=(v_ (s:=s) (Z1 hl) hs).1;refine a2 ?_;refine co rfl (BS (FP (hz.fits AA)) rfl rfl) ?_;refine an ?_ ?_<;>intro h1 q1
 exfalso;simp[hv]at h1;refine an ?_ ?_<;>intro h2 q2
 exfalso;have:=q2;omega;refine ac ?_;refine ap ?_;refine TO.LC 0 rfl rfl AB (Au rfl rfl AB rfl (aH (n:=((l.length:Nat):Int)) (l:=[]) (s:=s)) ⟨kq,⟨_,rfl,AH 2⟩,kz⟩) ?_;refine ap ?_;refine wk [13,5,4,3,2,1] rfl ?_;refine an ?_ ?_<;>intro h3 q3
 exfalso;rw[ew]at h3;simp at h3;refine a2 ?_;refine co rfl (BS (IM) rfl rfl) ?_;refine ag ?_ ?_<;>intro h4 q4
 exfalso;simp at h4;omega;refine JW h4 rfl (cy h4 rfl (BS (IM) rfl rfl) ?_);refine ac ?_;refine wk [38,5,4,3,2,1] rfl ?_;refine Tr.cn rfl ?_ ?_<;>intro h5 q5
 exfalso;simp at h5;omega;refine a2 ?_;refine co rfl (kg (UC hz hn hc jC) rfl rfl rfl rfl rfl rfl) ?_;refine ac ?_;refine wk [11,10] rfl (Tr.ret (Fin.IE rfl rfl ?_ rfl ?_))
 .exact Lr
 .exact Lr
theorem pF{e:Es}{l:List Bl}{n:Nat}(hz:e.sz n)(hn:n<=700000)(hc:∀c∈l,c.CO.fits/\c.CO.small)(hv:EO e=true)(hl:l.length<=24)(Io:gy l.length s)(hm:s.length+m=l.length)(ih:∀m':Nat,m=m'+1->∀s':List Int,gy l.length s'->s'.length+m'=l.length->Aq prog 21 [agg (CF e),Kq l,ints s'] (bool (Cv (E8 e l 0 800) l.length m' s'))):Aq prog 21 [agg (CF e),Kq l,ints s] (bool (Cv (E8 e l 0 800) l.length m s)):=by
 refine fo func21 rfl ⟨rfl,rfl⟩ fun M0 w0=>?_;refine a2 ?_;refine co rfl (kg (Z0 (fr:=0) (DC:=800) hz hn hc AA hv hl (Zt Io.1 Io.2) ⟨⟨by omega,by omega⟩,by omega,by omega⟩) rfl rfl rfl rfl rfl rfl) ?_;refine ac ?_;refine ag ?_ ?_<;>intro h1 q1
 have hG:E8 e l 0 800 s=false:=by simpa using h1
 refine ac ?_;refine wk [22,3,2,1] rfl ?_;refine a2 ?_
 .refine bool_eq ?_;exact(nq hG).symm
 have hG:E8 e l 0 800 s=true:=by simpa using h1
 refine ac ?_;refine wk [22,3,2,1] rfl ?_;refine Tr.cn rfl ?_ ?_<;>intro h2 q2
 exfalso;simp at h2;refine ac ?_;refine an ?_ ?_<;>intro h3 q3
 obtain rfl:m=0:=by have:=q3;omega
 refine a2 ?_
 .refine bool_eq ?_;exact hG.symm
 obtain⟨m1,rfl⟩:∃j,m=j+1:=⟨m-1,by have:=q3;omega⟩;refine a2 ?_;refine Tr.block (Tr.BV _ (kk [29,3,2,1] rfl) (fun i:Nat=>[(30,int ((i:Nat):Int))]) (fun i:Nat=>i<=(l).length/\(∀j:Nat,j<i->GP s (j:Int)=true\/Cv (E8 e l 0 800) l.length m1 (C8 s (j:Int) true)=false)) (fun i:Nat=>(l).length-i) 0 (⟨Nat.zero_le _,fun j hj=>absurd hj (Nat.not_lt_zero j)⟩) kz ?_);rintro i ⟨dP,Hs⟩;refine ac ?_;refine Tr.seq ?_;refine Tr.cn rfl ?_ ?_<;>intro h4 q4
 have MZ:i<(l).length:=AQ h4;obtain⟨_c,Sc⟩:=at_ MZ;refine a3 ?_;refine co rfl (CG (SN) rfl rfl rfl) ?_;refine ag ?_ ?_<;>intro h5 q5
 have pG:GP s ((i:Nat):Int)=false:=by simpa using h5
 refine ac ?_;refine cy h5 rfl (Wz (Oq AA) rfl rfl rfl rfl) ?_;refine cy h5 rfl (Wz (ih m1 rfl _ (LN Io ⟨by omega,by omega⟩ pG) (by rw[Hu (LO pG)];omega)) rfl rfl rfl rfl) ?_;refine ac ?_;refine wk [44,30,29,3,2,1] rfl ?_;refine Tr.cn rfl ?_ ?_<;>intro h6 q6
 have OS:Cv (E8 e l 0 800) l.length m1 (C8 s ((i:Nat):Int) true)=true:=by simpa using h6
 refine a2 ?_
 .refine bool_eq ?_;exact(Qh hG (A7 Sc) pG OS Hs).1.symm
 have OS:Cv (E8 e l 0 800) l.length m1 (C8 s ((i:Nat):Int) true)=false:=by simpa using h6
 refine a2 ?_;exact Fin.AP (i+1) ⟨⟨MZ,(by exact Qn Hs (.inr OS))⟩,by omega⟩ ⟨⟨_,rfl,AK i⟩,kz⟩;have pG:GP s ((i:Nat):Int)=true:=by simpa using h5
 refine ac ?_;refine wk [44,30,29,3,2,1] rfl ?_;refine a2 ?_;exact Fin.AP (i+1) ⟨⟨MZ,(by exact Qn Hs (.inl pG))⟩,by omega⟩ ⟨⟨_,rfl,AK i⟩,kz⟩;have Sv:i=(l).length:=by have:=AU h4;omega
 subst Sv;refine a3 ?_
 .refine bool_eq ?_;exact(Xo Hs).symm
theorem wA{e:Es}{l:List Bl}{n:Nat}(hz:e.sz n)(hn:n<=700000)(hc:∀c∈l,c.CO.fits/\c.CO.small)(hv:EO e=true)(hl:l.length<=24):∀(m:Nat) {s:List Int},gy l.length s->s.length+m=l.length->Aq Tryz.prog 21 [agg (CF e),Kq l,ints s] (bool (Cv (E8 e l 0 800) l.length m s))
 |0,_,h1,h2=>pF hz hn hc hv hl h1 h2 (fun m' h=>absurd h AA)
 |m+1,_,h1,h2=>pF hz hn hc hv hl h1 h2 (fun m' h s' g1 g2=>by
  obtain rfl:m'=m:=by omega
  exact wA hz hn hc hv hl m' g1 g2)
theorem zx{n:Nat}(hn:n<=1000):Aq prog 23 [ints (Fl n)] (bool true):=by
 refine fo func23 rfl ⟨rfl,rfl⟩ fun M0 w0=>?_;have FC:(Fl n).length=n:=by simp
 refine a2 ?_;refine Tr.block (Tr.GD _ (kk [0] rfl) (fun(k:Nat)=>[(3,int ((k:Nat):Int))]) (fun(k:Nat)=>Hp M0 w0 Ju ([])) (fun(k:Nat)=>1<=k) (fun(k:Nat)=>n-k) (1)  (Nat.le_refl 1) kz (fun _ _ h=>h) ?_);rintro k  hk1;refine an ?_ ?_<;>intro h1 q1
 have hkn:k<n:=by have:=AQ h1;omega
 have hx1:(Fl n)[(((k:Nat):Int)-1).toNat]? =some (((k-1:Nat)):Int):=by rw[show(((k:Nat):Int)-1).toNat=k-1 by omega];exact dc AA
 have hx2:(Fl n)[((k:Nat):Int).toNat]? =some ((k:Nat):Int):=by rw[Int.toNat_natCast];exact dc hkn
 refine a2 ?_;refine co rfl (AD rfl underlying22 C4 vq vq AA (CS hx1)) ?_;refine ac ?_;refine co rfl (AD rfl underlying22 C4 vq vq AA (CS hx2)) ?_;refine ac ?_;refine wk [19,3,0] rfl ?_;refine Tr.cn rfl ?_ ?_<;>intro h2 q2
 exfalso;have:=q2;omega;refine a2 ?_;exact Fin.ES (k+1)  (⟨by omega,by omega⟩) ⟨⟨_,rfl,AK k⟩,kz⟩ (fun _ _ h=>h);refine a3 ?_
 .exact Lr
end Go.Proofs.YthommhphcagokaaGreatDoor
namespace Go.Proofs.YthommhphcagokaaGreatDoor
open Go Go.RowKit Cp Go.ChangeShapes Go.WideShapes Go.ChangeAt Go.Proofs.Tryz
variable{G:List Int->Bool}{k:Nat}
def YF(G:List Int->Bool)(k:Nat):Bool:=(List.range k).all fun i=>G (Fl i)
theorem ec:YF G (k+1)=(YF G k&&G (Fl k)):=by unfold YF;rw[List.range_succ,List.all_append];simp
theorem YG{n:Nat}(h:YF G (n+1)=true):∀i,i<=n->G (Fl i)=true:=fun i hi=>List.all_eq_true.1 h i (List.mem_range.2 AA)
theorem ux{n:Nat}(h:Cv G n n []=false):YF G (n+1)=false:=by
 cases hs:YF G (n+1)with
 |false=>rfl
 |true=>rw[(Np (YG hs)).1]at h;cases h
theorem ADm{n:Nat}(h:(Z3 G n).2=0):Cv G n n []=true:=by
 cases hf:Cv G n n []with
 |true=>rfl
 |false=>rw[WD hf]at h;cases h
theorem zy{n:Nat}(h:¬(Z3 G n).2=0):Cv G n n []=false:=by
 cases hf:Cv G n n []with
 |false=>rfl
 |true=>rw[Qo hf]at h;exact absurd rfl h
theorem Pq{t:List Int}  :BM prog 4 [ints t] (bool true) (Gp) (fun _=>Gp):=by
 refine BM.of func4 rfl rfl Ag fun M0 w0 S rs M1 w1=>?_;refine ac ?_;refine ac ?_;refine co rfl (BS (rR) rfl rfl) ?_;refine ac ?_;refine Tr.cn rfl ?_ ?_<;>intro h1 q1
 refine Tr.seq (Tr.Bo (co rfl (Ta (V2) rfl) ?_));refine ac ?_;refine Tr.ret (Fin.AF (Fin.Ey rfl rfl ?_ (fun _ _ _ _=>rfl)))
 .exact Lr
 have ht4:t.length<=400:=by simpa using h1
 have ht9:t.length<=1000000000:=by omega
 refine ac ?_;refine ao ?_;refine TO.pad ?_;refine TO.EV 0 rfl rfl AB (EI rfl rfl AB rfl (xV (l:=t) ht9) kz) (fun v1=>?_);refine TO.iq 23 0 _ rfl rfl (fun _=>rfl) (fun b1=>?_);refine ao ?_;refine ao ?_;refine TO.LC 0 rfl rfl AB (Au rfl rfl AB rfl (nN) kz) ?_;refine TO.ex 25 rfl (fun z1=>TO.fact 25 rfl fun JG=>?_);have hez:=JG.sz;have hok:=JG.ok;have hn2:=JG.n2;have hn3:=JG.n3;refine Tl rfl rfl rfl rfl z32 Iz (fun b2=>?_);refine sf 0 4 ⟨rfl,rfl,rfl⟩ rfl rfl rfl rfl ?_;refine TO.nil (Fin.bp 0 rfl (fun s1=>?_));refine Fin.go ?_;refine ao ?_;refine TO.LC 0 rfl rfl AB (Au rfl rfl AB rfl (tW JG.snd ⟨by omega,by omega⟩) ⟨kq,kz⟩) ?_;refine TO.ex 28 rfl (fun z2=>TO.fact 28 rfl fun Wd=>?_);have Uv:∀c∈z2,c.CO.fits/\c.CO.small:=fun c hc=>⟨(Wd.any c hc).fits,(Wd.any c hc).small⟩;have hl7:=Wd.len;refine tm rfl (TO.nil (Fin.bp 0 rfl (fun s2=>?_)));refine Fin.go (wk2 4 5 rfl (Tr.drop 0 (Tr.rJ [(4,_)] ⟨ke rfl,trivial⟩ (fun(lz:List Bl)=>[(5,Kq lz)]) (fun(lz:List Bl)=>Hp M0 w0 S (Gp::Ao M1 w1::rs)) (fun(lz:List Bl)=>lz.length<=5/\∀c∈lz,c.CO.fits/\c.CO.small) ?_ ?_)));refine ac ?_;refine Tr.cn rfl ?_ ?_<;>intro h2 q2
 refine ac ?_;refine co rfl (E2 rfl underlying42 CD vq vq AA Ci) ?_;refine ac ?_;exact Fin.ES (z2.take 5)  ((by exact⟨List.length_take_le _ _,fun c hc=>Uv c (List.mem_of_mem_take hc)⟩)) ⟨⟨_,rfl,Pr.le_of_eq (by show slice 8 _=slice 8 _;rw[List.map_take];rfl)⟩,kz⟩ (fun _ _ h=>h);have AHp:z2.length<=5:=by have:=q2;omega
 refine Tr.skip (Fin.ES (z2)  ((by exact⟨by omega,Uv⟩)) ⟨kq,kz⟩ (fun _ _ h=>h));rintro lz  ⟨hl5,hlc⟩;refine ac ?_;refine co rfl (kc4 (ud (fr:=0) (DC:=800) hez AA hlc hok AA ⟨⟨by omega,by omega⟩,by omega,by omega⟩) rfl rfl rfl rfl rfl) ?_;refine ac ?_;refine ac ?_;refine ac ?_;refine Tr.block (Tr.GD _ (kk [7,6,5,4] rfl) (fun(k:Nat)=>[(9,int ((k:Nat):Int)),(8,bool (YF (E8 z1 lz 0 800) k))]) (fun(k:Nat)=>Hp M0 w0 S (Gp::Ao M1 w1::rs)) (fun(k:Nat)=>k<=lz.length+1) (fun(k:Nat)=>lz.length+1-k) (0)  (Nat.zero_le _) ⟨kq,⟨_,rfl,bool_eq rfl⟩,trivial⟩ (fun _ _ h=>h) ?_);rintro k  hk1;refine ac ?_;refine Tr.cn rfl ?_ ?_<;>intro h3 q3
 have YL:k<=lz.length:=by have:=of_decide_eq_true h3;omega
 refine ac ?_;refine Tr.seq (Tr.block (Tr.seq (Tr.rx ?_)));refine ay ?_;refine xo rfl (fun _=>BS (gv (n:=k) AA) rfl rfl) ?_;refine Cx.ef 0 rfl rfl AB (Au rfl rfl AB rfl (UH (fr:=0) (DC:=800) hez AA hlc Ci hok AA (Zt (SF k) (fun x hx=>by have:=Kn.1 hx;omega)) ⟨⟨by omega,by omega⟩,by omega,by omega⟩) ⟨kq,kz⟩) ?_;refine ay ?_;refine Cx.nil ⟨by kernel_rfl,?_⟩;refine BG.done WN (Fin.go (wk [11,10,9,8,7,6,5,4] rfl ?_));refine ac ?_;refine Ch.cs 55 rfl ?_ ?_<;>intro h4 q4
 refine ac ?_;refine Ch.cs 58 rfl ?_ ?_<;>intro h5 q5
 refine ac ?_;refine wk [9,8,7,6,5,4] rfl ?_;refine ac ?_;exact Fin.ES (k+1)  (⟨by omega,by omega⟩) ⟨⟨_,rfl,AK k⟩,⟨_,rfl,bool_eq Um⟩,kz⟩ (fun _ _ h=>h);refine ac ?_;refine wk [9,8,7,6,5,4] rfl ?_;refine ac ?_;exact Fin.ES (k+1)  (⟨by omega,by omega⟩) ⟨⟨_,rfl,AK k⟩,⟨_,rfl,bool_eq Um⟩,kz⟩ (fun _ _ h=>h);refine ac ?_;refine wk [9,8,7,6,5,4] rfl ?_;refine ac ?_;exact Fin.ES (k+1)  (⟨by omega,by omega⟩) ⟨⟨_,rfl,AK k⟩,⟨_,rfl,bool_eq Um⟩,kz⟩ (fun _ _ h=>h);have ia:k=lz.length+1:=by have:=of_decide_eq_false h3;omega
 subst ia;refine ac ?_;refine ac ?_;refine Tr.cn rfl ?_ ?_<;>intro h6 q6
 have hfn:=zy (G:=(E8 z1 lz 0 800)) (n:=lz.length) (by have:=q6;omega);have hst:=ux hfn;have hsq:=WD hfn;refine ac ?_;refine Ch.cs 66 rfl ?_ ?_<;>intro h7 q7
 refine ac ?_;refine Ch.cs 70 rfl ?_ ?_<;>intro h8 q8
 refine cy h8 rfl (Ta (V2) rfl) ?_;refine ac ?_;refine wk [2] rfl (Tr.ret (Fin.AF (Fin.Ey rfl rfl ?_ (fun _ _ _ _=>rfl))))
 .exact Lr
 exfalso;simp[hst]at h8;exfalso;rw[hsq]at h7;exact absurd h7 AB;have hfn:=ADm (G:=(E8 z1 lz 0 800)) (n:=lz.length) (by have:=q6;omega);have hsq:=Qo hfn;obtain⟨oo,hoo⟩:∃oo,(Z3 (E8 z1 lz 0 800) lz.length).1=oo:=⟨_,rfl⟩;have eH:Km (E8 z1 lz 0 800) lz.length lz.length []=oo:=by rw[←hoo,hsq]
 have hol:oo.length=lz.length:=by rw[←eH];exact V3 hfn
 have AGz:Xq (E8 z1 lz 0 800) lz.length oo 0:=eH ▸ tq hfn;refine ac ?_;refine ac ?_;refine wk [77,8,6,5,4] rfl ?_;refine Tr.cn rfl ?_ ?_<;>intro h9 q9
 exfalso;rw[hoo]at h9;simp[hol]at h9;refine ac ?_;refine Tr.seq (Tr.re 6 rfl (Pr.le_of_eq (by rw[hoo])) ?_);refine ac ?_;refine ac ?_;refine Tr.block (Tr.BV _ (kk [79,78,8,6,5,4] rfl) (fun k:Nat=>[(80,int ((k:Nat):Int)),(12,ints (Jo oo k))]) (fun k:Nat=>k<=(oo).length/\(Xq (E8 z1 lz 0 800) lz.length oo k)) (fun k:Nat=>(oo).length-k) 0 (⟨Nat.zero_le _,AGz⟩) ⟨kq,⟨_,rfl,AH 1⟩,trivial⟩ ?_);rintro k ⟨BN,AW⟩;refine ac ?_;refine Tr.seq ?_;refine Tr.cn rfl ?_ ?_<;>intro h10 NT
 have Ae:k<(oo).length:=AQ h10;obtain⟨x,Ad⟩:=at_ Ae;obtain⟨i,hxi,hiN,hkN,hno,hpre,hGk,hOk⟩:=Zv AW Ad;subst hxi;have hpl:=AW.len;have hws:=LN AW.set ⟨by omega,by omega⟩ hno;have hwl:(C8 (Jo oo k) ((i:Nat):Int) true).length=k+1:=by rw[Hu (LO hno),hpl]
 have hGw:(E8 z1 lz 0 800) (C8 (Jo oo k) ((i:Nat):Int) true)=true:=by rw[SE Ad]at hGk;exact hGk
 refine ac ?_;refine ac ?_;refine co rfl (AD rfl underlying22 C4 vq vq AA (Ap Ad)) ?_;refine ac ?_;refine wk [80,79,78,14,13,12,8,6,5,4] rfl ?_;refine ac ?_;refine co rfl (CG (SN) rfl rfl rfl) (cm rfl ?_);refine Ch.cs 88 rfl ?_ ?_<;>intro h11 Rl
 exfalso;rw[hno]at h11;exact absurd h11 AB;refine JW h11 rfl (cy h11 rfl Yr (co rfl (SZ rfl rfl h11 rfl) (cm rfl ?_)));refine Ch.cs 92 rfl ?_ ?_<;>intro h12 Tn
 exfalso;simp at h12;omega;refine ac ?_;refine wk [97,80,79,78,14,13,12,8,6,5,4] rfl ?_;refine Tr.cn rfl ?_ ?_<;>intro LX YN
 exfalso;simp at LX;omega;refine ac ?_;refine ac ?_;refine Tr.block (Tr.GD _ (kk [80,79,78,14,13,12,8,6,5,4] rfl) (fun(j:Nat)=>[(15,int ((j:Nat):Int))]) (fun(j:Nat)=>Hp M0 w0 S (Gp::Ao M1 w1::rs)) (fun(j:Nat)=>j<=i) (fun(j:Nat)=>i-j) (0)  (Nat.zero_le _) kz (fun _ _ h=>h) ?_);rintro j  hj1;refine ac ?_;refine wk [100,80,79,78,15,14,13,12,8,6,5,4] rfl ?_;refine Tr.cn rfl ?_ ?_<;>intro MW mY
 have hj:j<i:=by have:=of_decide_eq_true MW;omega
 refine ac ?_;refine ac ?_;refine co rfl (CG (SN) rfl rfl rfl) ?_;refine ac ?_;refine wk [105,80,79,78,15,14,13,12,8,6,5,4] rfl ?_;refine Tr.cn rfl ?_ ?_<;>intro Ss pS
 refine ac ?_;refine ac ?_;exact Fin.ES (j+1)  (⟨by omega,by omega⟩) ⟨⟨_,rfl,AK j⟩,kz⟩ (fun _ _ h=>h);have hhj:GP (Jo oo k) ((j:Nat):Int)=false:=by simpa using Ss
 refine ac ?_;refine ac ?_;refine co rfl (Wz (Oq AA) rfl rfl rfl rfl) ?_;refine co rfl (Wz (wA hez AA hlc hok AA (lz.length-(k+1)) (LN AW.set ⟨by omega,by omega⟩ hhj) (by rw[Hu (LO hhj)];omega)) rfl rfl rfl rfl) ?_;refine ac ?_;refine wk [111,80,79,78,15,14,13,12,8,6,5,4] rfl ?_;refine Tr.cn rfl ?_ ?_<;>intro h16 q16
 exfalso;rcases hpre j hj with h_|h_;(rw[hhj]at h_;cases h_);(rw[h_]at h16;cases h16)
 refine ac ?_;refine ac ?_;exact Fin.ES (j+1)  (⟨by omega,by omega⟩) ⟨⟨_,rfl,AK j⟩,kz⟩ (fun _ _ h=>h);refine ac ?_;refine ac ?_;refine co rfl (Wz (Oq AA) rfl rfl rfl rfl) ?_;refine ac ?_;refine wk [80,79,78,13,12,8,6,5,4] rfl ?_;refine ao ?_;refine TO.LC 0 rfl rfl AB (Au rfl rfl AB rfl (UH (fr:=0) (DC:=800) hez AA hlc AA hok AA (Zt hws.1 hws.2) ⟨⟨by omega,by omega⟩,by omega,by omega⟩) ⟨kq,kz⟩) ?_;refine ao ?_;refine wk [80,79,78,17,16,13,12,8,6,5,4] rfl ?_;refine ac ?_;refine Ch.cs 124 rfl ?_ ?_<;>intro PK pR
 exfalso;simp[hGw]at PK;refine JW PK rfl (cy PK rfl Yr (co rfl (SZ rfl rfl PK rfl) (cm rfl ?_)));refine Ch.cs 128 rfl ?_ ?_<;>intro Sa q18
 exfalso;simp at Sa;refine ac ?_;refine wk [134,80,79,78,12,8,6,5,4] rfl ?_;refine Tr.cn rfl ?_ ?_<;>intro jA q19
 exfalso;simp[hwl]at jA;refine ac ?_;refine ac ?_;exact Fin.AP (k+1) ⟨⟨Ae,hOk⟩,by omega⟩ ⟨⟨_,rfl,AK k⟩,⟨_,rfl,Pr.le_of_eq (by rw[SE Ad])⟩,kz⟩;have BA:k=(oo).length:=by have:=AU h10;omega
 subst BA;refine ac ?_;refine ac ?_;refine Ch.cs 138 rfl ?_ ?_<;>intro Pf q20
 refine ac ?_;refine cy rfl rfl (Ta (V2) rfl) ?_;refine ac ?_;refine wk [2] rfl (Tr.ret (Fin.Ey rfl rfl ?_ (fun _ _ _ _=>rfl)))
 .exact Lr
 have hst:YF (E8 z1 lz 0 800) (lz.length+1)=true:=by simpa using Pf
 have hoi:oo=Fl lz.length:=by rw[←eH];exact(Np (YG hst)).2
 refine JW Pf rfl ?_;refine cy Pf rfl (Aa rfl (zx (n:=lz.length) AA) ⟨⟨_,rfl,Pr.le_of_eq (by rw[hoi])⟩,trivial⟩) ?_;refine ac ?_;refine Ch.cs 142 rfl ?_ ?_<;>intro cR q21
 refine cy cR rfl (Ta (V2) rfl) ?_;refine ac ?_;refine wk [2] rfl (Tr.ret (Fin.Ey rfl rfl ?_ (fun _ _ _ _=>rfl)))
 .exact Lr
 exfalso;simp at cR
theorem AG0 : Tryz.prog.globalNamed "math/bits.deBruijn32tab" = some 0 := by kernel_rfl
theorem AG1:(Tryz.prog.globals[0]?).map (·.type)=some 330:=by kernel_rfl
theorem pH (os : Os) (args : Array Value) : laidMetH Tryz.prog [("math/bits.deBruijn32tab", Rows.laid_math_bits_deBruijn32tab)] ((World.doorLaid Tryz.prog 14 os).forCall (fun _ _ => 0) ⟨#[], args, []⟩).memory :=
 laidMetH_of_parts3 (fuel:=33) (laidMet_of_run' 33 BQ BQ) BQ BQ
theorem zz {W : World} (h : laidMetH Tryz.prog [("math/bits.deBruijn32tab", Rows.laid_math_bits_deBruijn32tab)] W) : Gp.h pM W := by
 rw[MakeChecks.laidMetH_plain _ _ _ BQ]at h;obtain⟨ps,⟨g0,t0,cs0,f0,p0,q0,fH,ht0,jr,hd0,_⟩,_⟩:=h;obtain rfl:=Option.some.inj (AG0.symm.trans fH);obtain rfl:=Option.some.inj (AG1.symm.trans ht0);obtain⟨xs,m,rfl,hx,hlen,hn,hel⟩:=DataW.trod_array Tryz.underlying330 hd0;have c1:Tryz.prog.cellsOf 5=1:=by kernel_rfl
 have hx1:Rows.laid_math_bits_deBruijn32tab=DataW.agg (xs.map (·.1)):=(Prod.mk.inj hx).1
 have hx2:xs.map (·.1)=YA.map fun n:Nat=>DataW.lit (.int .u8 (n:Int)):=by
  have h3:(Rows.laid_math_bits_deBruijn32tab:DataW Unit)=DataW.agg (YA.map fun n:Nat=>DataW.lit (.int .u8 (n:Int))):=rfl;exact(DataW.agg.inj (hx1.symm.trans h3))
 intro j n hj;refine⟨?_,fun h=>h⟩
 have AG2:j<32:=by
  rcases Nat.lt_or_ge j 32 with h|h
  .exact h
  .rw[List.getElem?_eq_none h]at hj;cases hj
 have h4:=hel j AG2;rw[c1,Nat.mul_one]at h4;obtain⟨y,hy⟩:=at_ (l:=xs) (k:=j) AA;rw[hy]at h4;obtain⟨k,e1,e2,_⟩:=DataW.trod_int Tryz.underlying5 h4;have h5:(xs.map (·.1))[j]? =some (DataW.lit (.int .u8 (n:Int))):=by rw[hx2,List.getElem?_map,hj];rfl
 rw[List.getElem?_map,hy]at h5
 have hk:k=(n:Int):=by
  have h6:y.1=DataW.lit (.int .u8 (n:Int)):=Option.some.inj h5;rw[e2]at h6
  simpa using h6
 have h7:=World.var?_cell fH jr j
 have h8:cs0.toList[j]? =some (.int .u8 k):=by
  have h9:=congrArg (fun l:List Value=>l[0]?) e1
  simpa using h9
 rw[hk]at h8;have h10:cs0[j]? =some (.int .u8 (n:Int)):=by rw[←Array.getElem?_toList];exact h8
 rw[h10]at h7;exact h7
end Go.Proofs.YthommhphcagokaaGreatDoor
