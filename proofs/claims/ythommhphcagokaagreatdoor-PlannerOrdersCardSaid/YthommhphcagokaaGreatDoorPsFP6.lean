/-
  Part 6 of the texts that prove this claim, merged.
-/
import Derived.Test.YthommhphcagokaaGreatDoorPsFP5
set_option linter.all false
set_option maxRecDepth 40000
set_option maxHeartbeats 16000000
namespace Go.Proofs.YthommhphcagokaaGreatDoor
open Go Go.RowKit Cp Go.Proofs.Tryz
variable{e e2:DY}{l s:List Int}{nm:List UInt8}{i k:Nat}{v:Value}
theorem and1{a b:Bool}(h:(a&&b)=true):a=true:=by simp at h;exact h.1
theorem yg{a b:Bool}(h:(a&&b)=true):b=true:=by simp at h;exact h.2
theorem m8:∀(n:Nat) (l:List Int),(∀x∈l,1<=x/\x<=(n:Int))->l.Nodup->l.length<=n
 |0,l,h,_=>by
  cases l with
  |nil=>exact Nat.le_refl _
  |cons a l=>have:=h a (List.mem_cons_self ..);omega
 |n+1,l,h,hn=>by
  have ih:=m8 n (l.erase ((n:Int)+1)) (fun x hx=>by
   have h1:=h x (List.mem_of_mem_erase hx);have h2:=(hn.mem_erase_iff.1 hx).1
   omega) (hn.erase _)
  rw[List.length_erase]at ih
  split at ih<;>omega
theorem S2(h:Gy l=true):l.length<=16:=by
 refine m8 16 l (fun x hx=>?_) ?_
 .
  obtain⟨j,hj⟩:=List.getElem?_of_mem hx;have h1:=B0.1 (show allI (Em l) l.length=true from h) j (A7 hj);unfold Em at h1;rw[getD_at hj]at h1;have:=and1 h1
  simpa using this
 .
  refine List.pairwise_iff_getElem.2 fun i j hi hj hij he=>?_;have:=ZS h (List.getElem?_eq_getElem hi) (by rw[he];exact List.getElem?_eq_getElem hj);omega
theorem m_{p:Int->Bool}(h:∀j,j<l.length->p (l[j]?.getD 0)=true):l.all p=true:=List.all_eq_true.2 fun x hx=>by
 obtain⟨j,hj⟩:=List.getElem?_of_mem hx;have:=h j (A7 hj);rw[getD_at hj]at this;exact this
theorem gL{CI bits id:Int}{l:List EF}  :Aq prog 169 [agg [int CI,int bits],int id,G6 l] (bool (Rt CI bits id l)):=by
 refine fo func169 rfl ⟨rfl,rfl⟩ fun M0 w0=>(Tr.Dr 2 rfl fun mB=>?_);refine a2 ?_;refine co rfl (BS (KT) rfl rfl) ?_;refine ag ?_ ?_<;>intro h1 q1
 refine ac ?_;refine wk [23,3,2,1] rfl ?_;refine a2 ?_
 .refine bool_eq ?_;rw[DK];unfold IQ G3;simp_all
 refine ag ?_ ?_<;>intro h2 q2
 refine ac ?_;refine wk [23,3,2,1] rfl ?_;refine a2 ?_
 .exact Ub
 refine ag ?_ ?_<;>intro h3 q3
 refine ac ?_;refine wk [23,3,2,1] rfl ?_;refine a2 ?_
 .exact Ub
 refine ac ?_;refine wk [23,3,2,1] rfl ?_;refine Tr.cn rfl ?_ ?_<;>intro h4 q4
 refine a2 ?_
 .exact Ub
 refine a2 ?_;refine Tr.block (Tr.BV _ (kk [3,2,1] rfl) (fun k:Nat=>[(7,int ((k:Nat):Int))]) (fun k:Nat=>k<=(l).length/\(∀j y,j<k->l[j]? =some y->(!CE y)=false)) (fun k:Nat=>(l).length-k) 0 (⟨Nat.zero_le _,fun j y hj=>absurd hj AA⟩) kz ?_);rintro k ⟨BN,AW⟩;refine an ?_ ?_<;>intro h5 q5
 have Ae:k<(l).length:=AQ h5;obtain⟨c,Ad⟩:=at_ Ae
 .repeat' first|(refine bool_eq ?_;rw[DK];unfold IQ G3;rw[Jd (p:=CE) Ad CU];simp)|exact Fin.AP (k+1) ⟨⟨Ae,C3 (p:=fun c=> !CE c) Ad CU AW⟩,by omega⟩ ⟨⟨_,rfl,AK k⟩,kz⟩|refine co rfl (AD rfl underlying76 DD vq vq AA (Ap Ad)) (co rfl (AO rfl Ja DD vq rfl rfl) (co rfl (BS (MY) rfl rfl) ?_))|refine ac ?_|(refine Tr.cn rfl ?_ ?_<;>intro h q)
 have BA:k=(l).length:=by have:=AU h5;omega
 subst BA;have hall:=GK AW;refine ac ?_;refine ag ?_ ?_<;>intro h7 q7
 refine ac ?_;refine wk [6] rfl ?_;refine ac ?_
 .refine bool_eq ?_;rw[DK];unfold IQ G3;rw[hall,Tg CU];simp_all
 obtain⟨c0,hc0⟩:=at_ (l:=l) (k:=0) (by have:=h7;simp at this;exact List.length_pos_iff.2 this);refine JW h7 rfl ?_;refine cy h7 rfl (AD rfl underlying76 DD vq vq AA (Ap (k:=0) hc0)) ?_;refine ac ?_;refine cy h7 rfl (VM rfl vq vq) (JW h7 rfl ?_);refine Ch.cs 46 rfl ?_ ?_<;>intro h8 q8
 refine JW h8 rfl ?_;refine cy h8 rfl (AD rfl underlying76 DD vq vq AA (Ap (k:=0) hc0)) ?_;refine ac ?_;refine wk [6] rfl ?_;refine ac ?_
 .refine bool_eq ?_;rw[DK];unfold IQ G3;rw[hall,NX hc0];clear hall AW hc0;simp_all;omega
 refine ac ?_;refine wk [6] rfl ?_;refine ac ?_
 .refine bool_eq ?_;rw[DK];unfold IQ G3;rw[hall,NX hc0];clear hall AW hc0;simp_all
theorem Za(YM:e.hashes.length<=17592186044416):Aq prog 102 [agg (As e)] (int (if B5 e then 0 else 19)):=by
 refine fo func102 rfl ⟨rfl,rfl⟩ fun M0 w0=>?_;refine ac ?_;refine ac ?_;refine co rfl (BS (mz) rfl rfl) ?_;refine ac ?_;refine Ch.cs 13 rfl ?_ ?_<;>intro h1 q1
 refine ac ?_;refine wk [47,1] rfl ?_;refine ac ?_;refine ac ?_
 .refine int_eq (if_neg (fun hv=>?_)).symm;have ok:=DR.1 hv;have v1:=ok.name;have v2:=ok.least;have v3:=ok.lm;have v4:=ok.most;have v5:=S2 ok.AR;have v6:=ok.SY;have v7:=ok.AAx;simp_all
 refine ac ?_;refine Ch.cs 18 rfl ?_ ?_<;>intro h2 q2
 refine ac ?_;refine wk [47,1] rfl ?_;refine ac ?_;refine ac ?_
 .exact N5
 refine ac ?_;refine Ch.cs 25 rfl ?_ ?_<;>intro h3 q3
 refine ac ?_;refine wk [47,1] rfl ?_;refine ac ?_;refine ac ?_
 .exact N5
 refine ac ?_;refine Ch.cs 30 rfl ?_ ?_<;>intro h4 q4
 refine ac ?_;refine wk [47,1] rfl ?_;refine ac ?_;refine ac ?_
 .exact N5
 refine ac ?_;refine Ch.cs 36 rfl ?_ ?_<;>intro h5 q5
 refine ac ?_;refine wk [47,1] rfl ?_;refine ac ?_;refine ac ?_
 .exact N5
 refine ac ?_;refine Ch.cs 42 rfl ?_ ?_<;>intro h6 q6
 refine ac ?_;refine wk [47,1] rfl ?_;refine ac ?_;refine ac ?_
 .exact N5
 refine ac ?_;refine wk [47,1] rfl ?_;refine Tr.cn rfl ?_ ?_<;>intro h7 q7
 refine ac ?_;refine ac ?_
 .exact N5
 refine ac ?_;refine ac ?_;refine Tr.block (Tr.BV _ (kk [1] rfl) (fun i:Nat=>[(3,int ((i:Nat):Int))]) (fun i:Nat=>i<=(e.AR).length/\(∀j,j<i->Em e.AR j=true)) (fun i:Nat=>(e.AR).length-i) 0 (⟨Nat.zero_le _,fun j hj=>absurd hj AA⟩) kz ?_);rintro i ⟨dP,Hs⟩;refine ac ?_;refine Tr.cn rfl ?_ ?_<;>intro h8 q8
 have MZ:i<(e.AR).length:=AQ h8;obtain⟨x,Sc⟩:=at_ MZ;have hg:=getD_at (d:=(0:Int)) Sc;refine ac ?_;refine ao ?_;refine tp rfl (AD rfl underlying22 C4 vq vq AA (Ap Sc)) (tp rfl (FO rfl DP rfl) (tp rfl (BS (gK) rfl rfl) ?_));refine ao ?_;refine Tl rfl rfl rfl rfl LW GU (fun b1=>?_);refine sf 0 4 ⟨rfl,rfl,rfl⟩ rfl rfl rfl rfl ?_;refine ao ?_;refine wk [5,3,1] rfl ?_;refine ac ?_;refine Ch.cs 66 rfl ?_ ?_<;>intro h9 q9
 have yM:¬(1<=x/\x<=16):=by intro hh;rw[if_pos hh]at h9;exact absurd h9 AB
 refine ac ?_;refine wk [77,3,1] rfl ?_;refine ac ?_;refine ac ?_
 .refine int_eq (if_neg (fun hv=>?_)).symm;have ok:=DR.1 hv;have h_:=B0.1 (show allI (Em e.AR) e.AR.length=true from ok.AR) i AA;unfold Em at h_;rw[hg]at h_;exact yM (by simpa using and1 h_)
 have hin:1<=x/\x<=16:=by refine Decidable.byContradiction fun hh=>?_;rw[if_neg hh]at h9;exact absurd h9 AB
 refine ac ?_;refine cy h9 rfl (E2 rfl underlying22 C4 vq vq AA Ci) ?_;refine ac ?_;refine cy h9 rfl (AD rfl underlying22 C4 vq vq AA (Ap Sc)) (cy h9 rfl (FO rfl DP rfl) ?_);refine cy h9 rfl (Aa rfl (Ki (l:=e.AR.take i) (v:=x)) ⟨⟨_,rfl,Pr.le_of_eq (by rw[←List.map_take,Int.toNat_natCast])⟩,kz⟩) ?_;refine ac ?_;refine wk [77,3,1] rfl ?_;refine Tr.cn rfl ?_ ?_<;>intro h10 NT
 refine ac ?_;refine ac ?_
 .refine int_eq (if_neg (fun hv=>?_)).symm;have ok:=DR.1 hv;have h_:=B0.1 (show allI (Em e.AR) e.AR.length=true from ok.AR) i AA;unfold Em at h_;rw[hg]at h_;exact absurd (by assumption:((e.AR.take i).any fun y=>x==y)=true) (by have h2:=yg h_;rw[Bool.not_eq_true']at h2;rw[h2];decide)
 refine ac ?_;refine ac ?_;exact Fin.AP (i+1) ⟨⟨MZ,Bx Hs Ua⟩,by omega⟩ ⟨⟨_,rfl,AK i⟩,kz⟩;have Sv:i=(e.AR).length:=by have:=AU h8;omega
 subst Sv;refine ac ?_;refine ac ?_;refine Tr.block (Tr.BV _ (kk [1] rfl) (fun m:Nat=>[(6,int ((m:Nat):Int))]) (fun m:Nat=>m<=(e.ids).length/\(∀j y,j<m->e.ids[j]? =some y->(!fS y)=false)) (fun m:Nat=>(e.ids).length-m) 0 (⟨Nat.zero_le _,fun j y hj=>absurd hj AA⟩) kz ?_);rintro m ⟨dQ,Gl⟩;refine ac ?_;refine Tr.cn rfl ?_ ?_<;>intro h11 Rl
 have Kj:m<(e.ids).length:=AQ h11;obtain⟨x,Gm⟩:=at_ Kj;refine ac ?_;refine ac ?_;refine co rfl (AD rfl underlying71 B8 vq vq AA (Ap Gm)) ?_;refine ac ?_;refine co rfl (AD rfl underlying71 B8 vq vq AA (Ap Gm)) ?_;refine ac ?_;refine co rfl (AD rfl underlying71 B8 vq vq AA (Ap Gm)) ?_;refine ac ?_;refine co rfl (Wz (gL) rfl rfl rfl rfl) ?_;refine ac ?_;refine wk [104,6,1] rfl ?_;refine Tr.cn rfl ?_ ?_<;>intro h12 Tn
 refine ac ?_;refine ac ?_
 .refine int_eq (if_neg (fun hv=>?_)).symm;have ok:=DR.1 hv;have h_:=List.all_eq_true.1 ok.ids x (List.mem_of_getElem? Gm);unfold fS at h_;simp_all
 refine ac ?_;refine ac ?_;exact Fin.AP (m+1) ⟨⟨Kj,C3 (p:=fun c=> !fS c) Gm (by unfold fS;simp_all) Gl⟩,by omega⟩ ⟨⟨_,rfl,AK m⟩,kz⟩;have Vs:m=(e.ids).length:=by have:=AU h11;omega
 subst Vs;have hall:=GK Gl;refine ac ?_;refine ac ?_;refine Tr.block (Tr.BV _ (kk [1] rfl) (fun o:Nat=>[(7,int ((o:Nat):Int))]) (fun o:Nat=>o<=(e.anchors).length/\(∀j,j<o->(GV e.anchors j&&G3 (e.anchors[j]?.getD 0))=true)) (fun o:Nat=>(e.anchors).length-o) 0 (⟨Nat.zero_le _,fun j hj=>absurd hj AA⟩) kz ?_);rintro o ⟨ADT,Md⟩;refine ac ?_;refine Tr.cn rfl ?_ ?_<;>intro LX YN
 have gM:o<(e.anchors).length:=AQ LX;obtain⟨a,UP⟩:=at_ gM;have hg:=getD_at (d:=(0:Int)) UP;refine ac ?_;refine ac ?_;refine co rfl (AD rfl underlying22 C4 vq vq AA (Ap UP)) ?_;refine ac ?_;refine Ch.cs 118 rfl ?_ ?_<;>intro MW mY
 refine ac ?_;refine wk [143,7,1] rfl ?_;refine ac ?_;refine ac ?_
 .exact jV
 refine ac ?_;refine cy MW rfl (AD rfl underlying22 C4 vq vq AA (Ap UP)) ?_;refine ac ?_;refine Ch.cs 126 rfl ?_ ?_<;>intro Ss pS
 refine ac ?_;refine wk [143,7,1] rfl ?_;refine ac ?_;refine ac ?_
 .exact jV
 refine ac ?_;refine Ch.cs 129 rfl ?_ ?_<;>intro h16 q16
 have hk0:0<o:=by simpa using h16
 obtain⟨y,hy⟩:=at_ (l:=e.anchors) (k:=o-1) AA;have Le:=getD_at (d:=(0:Int)) hy;refine ac ?_;refine cy h16 rfl (AD rfl underlying22 C4 vq vq AA (by rw[show((o:Nat):Int)-1=((o-1:Nat):Int)by omega];exact Ap hy)) ?_;refine ac ?_;refine cy h16 rfl (AD rfl underlying22 C4 vq vq AA (Ap UP)) ?_;refine ac ?_;refine wk [143,7,1] rfl ?_;refine Tr.cn rfl ?_ ?_<;>intro PK pR
 refine ac ?_;refine ac ?_
 .refine int_eq (if_neg (fun hv=>?_)).symm;have ok:=DR.1 hv;have h_:=B0.1 (show allI (GV e.anchors) e.anchors.length=true from ok.anc) o AA;unfold GV at h_;rw[hg,Le]at h_;simp at h_;omega
 refine ac ?_;refine ac ?_;exact Fin.AP (o+1) ⟨⟨gM,(fun j hj=>by rcases Nat.lt_or_eq_of_le (Nat.le_of_lt_succ hj)with h_|h_;exact Md j h_;(subst h_;unfold GV G3;rw[hg];rw[Le];simp_all))⟩,by omega⟩ ⟨⟨_,rfl,AK o⟩,kz⟩;have J2:¬0<o:=by simpa using h16
 refine ac ?_;refine wk [143,7,1] rfl ?_;refine ac ?_;refine ac ?_;exact Fin.AP (o+1) ⟨⟨gM,(fun j hj=>by rcases Nat.lt_or_eq_of_le (Nat.le_of_lt_succ hj)with h_|h_;exact Md j h_;(subst h_;unfold GV G3;rw[hg];simp_all))⟩,by omega⟩ ⟨⟨_,rfl,AK o⟩,kz⟩;have yh:o=(e.anchors).length:=by have:=AU LX;omega
 subst yh;refine ac ?_;refine ac ?_;refine Tr.block (Tr.BV _ (kk [1] rfl) (fun q:Nat=>[(8,int ((q:Nat):Int))]) (fun q:Nat=>q<=(e.hashes).length/\(∀j,j<q->(GV e.hashes j&&KY (e.hashes[j]?.getD 0))=true)) (fun q:Nat=>(e.hashes).length-q) 0 (⟨Nat.zero_le _,fun j hj=>absurd hj AA⟩) kz ?_);rintro q ⟨AHH,Vt⟩;refine ac ?_;refine Tr.cn rfl ?_ ?_<;>intro Sa q18
 have yj:q<(e.hashes).length:=AQ Sa;obtain⟨a,tH⟩:=at_ yj;have hg:=getD_at (d:=(0:Int)) tH;refine ac ?_;refine ac ?_;refine co rfl (AD rfl underlying22 C4 vq vq AA (Ap tH)) (co rfl (FO rfl DP rfl) (co rfl (BS (QK) rfl rfl) ?_));refine ac ?_;refine Ch.cs 158 rfl ?_ ?_<;>intro jA q19
 refine ac ?_;refine wk [175,8,1] rfl ?_;refine ac ?_;refine ac ?_
 .refine int_eq (if_neg (fun hv=>?_)).symm;have ok:=DR.1 hv;have h_:=List.all_eq_true.1 ok.hsh a (List.mem_of_getElem? tH);unfold KY at h_;simp_all
 refine ac ?_;refine Ch.cs 161 rfl ?_ ?_<;>intro Pf q20
 have hk0:0<q:=by simpa using Pf
 obtain⟨y,hy⟩:=at_ (l:=e.hashes) (k:=q-1) AA;have Le:=getD_at (d:=(0:Int)) hy;refine ac ?_;refine cy Pf rfl (AD rfl underlying22 C4 vq vq AA (by rw[show((q:Nat):Int)-1=((q-1:Nat):Int)by omega];exact Ap hy)) ?_;refine ac ?_;refine cy Pf rfl (AD rfl underlying22 C4 vq vq AA (Ap tH)) ?_;refine ac ?_;refine wk [175,8,1] rfl ?_;refine Tr.cn rfl ?_ ?_<;>intro cR q21
 refine ac ?_;refine ac ?_
 .refine int_eq (if_neg (fun hv=>?_)).symm;have ok:=DR.1 hv;have h_:=B0.1 (show allI (GV e.hashes) e.hashes.length=true from ok.hash) q AA;unfold GV at h_;rw[hg,Le]at h_;simp at h_;omega
 refine ac ?_;refine ac ?_;exact Fin.AP (q+1) ⟨⟨yj,(fun j hj=>by rcases Nat.lt_or_eq_of_le (Nat.le_of_lt_succ hj)with h_|h_;exact Vt j h_;(subst h_;unfold GV KY;rw[hg];rw[Le];simp_all))⟩,by omega⟩ ⟨⟨_,rfl,AK q⟩,kz⟩;have J2:¬0<q:=by simpa using Pf
 refine ac ?_;refine wk [175,8,1] rfl ?_;refine ac ?_;refine ac ?_;exact Fin.AP (q+1) ⟨⟨yj,(fun j hj=>by rcases Nat.lt_or_eq_of_le (Nat.le_of_lt_succ hj)with h_|h_;exact Vt j h_;(subst h_;unfold GV KY;rw[hg];simp_all))⟩,by omega⟩ ⟨⟨_,rfl,AK q⟩,kz⟩;have AGf:q=(e.hashes).length:=by have:=AU Sa;omega
 subst AGf;refine ac ?_;refine ac ?_;refine ac ?_
 .refine int_eq (if_pos (DR.2 ⟨by simp_all,by omega,by omega,by omega,B0.2 Hs,by omega,by omega,B0.2 (fun j hj=>and1 (Md j hj)),B0.2 (fun j hj=>and1 (Vt j hj)),hall,m_ (fun j hj=>yg (Md j hj)),m_ (fun j hj=>yg (Vt j hj))⟩)).symm
theorem JA(Cb:e.small):Aq Tryz.prog 102 [agg (As e)] (int (if B5 e then 0 else 19)):=Za (by have:=Cb.hashes;omega)
theorem nA{β:Type}{p:β->Bool}{l:List β}{x:β}(h:l[k]? =some x):idx p (l.take (k+1))=if idx p (l.take k)<0 then(if p x=true then(k:Int)else -1)else idx p (l.take k):=by
 have hk:=A7 h;rw[List.take_add_one,h];have hl:(l.take k).length=k:=by rw[List.length_take];omega
 show idx p (l.take k++[x])=_
 generalize l.take k=a at hl ⊢
 unfold idx;rw[List.findIdx?_append];cases ha:a.findIdx? p with
 |some i=>simp;intro h3;omega
 |none=>cases hp:p x<;>simp[hp,hl]
theorem gN{β:Type}{p:β->Bool}{l:List β}{x:β}(h:l[k]? =some x):(((l.take (k+1)).countP p:Nat):Int)=((l.take k).countP p:Nat)+(if p x=true then 1 else 0):=by
 rw[List.take_add_one,h];show(((l.take k++[x]).countP p:Nat):Int)=_;rw[List.countP_append,List.countP_singleton];split<;>simp_all
theorem Nj{β:Type}{p:β->Bool}{l:List β}:idx p l<0↔l.countP p=0:=by
 unfold idx;cases h:l.findIdx? p with
 |none=>
  rw[List.findIdx?_eq_none_iff]at h;simp only[show((none:Option Nat).map fun n=>(n:Int)).getD (-1)= -1 from rfl];constructor
  .intro _;rw[List.countP_eq_zero];intro a ha;rw[h a ha];decide
  .intro _;decide
 |some i=>
  rw[List.findIdx?_eq_some_iff_getElem]at h;obtain⟨h1,h2,_⟩:=h;constructor
  .intro h3;exfalso;revert h3;simp
  .intro h3;rw[List.countP_eq_zero]at h3;exact absurd h2 (h3 _ (List.getElem_mem h1))
theorem tI{β:Type}{p:β->Bool}{l:List β}{n:Nat}(h:l.length<=n):(l.take k).countP p<=n:=Nat.le_trans List.countP_le_length (Nat.le_trans JJ h)
theorem bsX{n x:Int}(h:∀(j:Nat) y,j<k->l[j]? =some y->y<n)(hx:l[k]? =some x)(hlt:x<n):∀(j:Nat) y,j<k+1->l[j]? =some y->y<n:=by grind
def JB(id:Int)(x:E9):Bool:=x.Bm==id
def Gn(id:Int)(l:List E9):Int:=((l.countP (JB id):Nat):Int)
theorem HW(id:Int)(l:List E9):BI id l=idx (JB id) l:=rfl
theorem gO{id:Int}{l:List E9}{x:E9}(h:l[k]? =some x):Gn id (l.take (k+1))=Gn id (l.take k)+(if x.Bm=id then 1 else 0):=by grind [Gn,gN,JB]
theorem XZ{id:Int}{l:List E9}{x:E9}(h:l[k]? =some x):BI id (l.take (k+1))=if Gn id (l.take k)=0 then(if x.Bm=id then(k:Int)else -1)else BI id (l.take k):=by grind [HW,nA,Nj,JB,Gn,idx]
theorem Xa{id:Int}{l:List E9}(h:Gn id l=0):BI id l= -1:=by
 have h2:=(Nj (p:=JB id) (l:=l)).2 (by unfold Gn at h;omega);rw[HW];unfold idx at h2 ⊢;cases h3:l.findIdx? (JB id)with
 |none=>rfl
 |some i=>rw[h3]at h2;simp at h2;omega
def Ia(e:DY)(k:Int):Int×Bool:=if k=3 then(e.most,true)else if k=4 then(e.least,true)else if k=11 then(FB e.HQ,true)else if k=12 then(FB e.own,true)else(0,false)
def G2(e:DY)(k:Int):List Int×Bool×Bool:=
 if k=1\/k=2 then(e.AR,decide (k=1),true)else if k=7\/k=8 then(e.anchors,decide (k=7),true)else if k=9\/k=10 then(e.hashes,decide (k=9),true)else([],false,false)
theorem S6(x:E9):decide (x=Bg)=Tm x:=by
 rw[Bool.eq_iff_iff,decide_eq_true_eq];unfold Tm Bg;cases x;simp only[E9.mk.injEq,Bool.and_eq_true,decide_eq_true_eq,beq_iff_eq,and_assoc];constructor
 .rintro⟨h1,h2,h3,h4⟩;exact⟨h1,h2,h3,by simp[h4]⟩
 .rintro⟨h1,h2,h3,h4⟩;exact⟨h1,h2,h3,List.eq_nil_of_length_eq_zero AA⟩
theorem Jl{n:Int}:Aq prog 345 [ints l,int n] (int (idx (fun y=>n==y) l)):=by
 refine fo func345 rfl ⟨rfl,rfl⟩ fun M0 w0=>(Tr.Dr 0 rfl fun Dq=>?_);refine a2 ?_;refine Tr.block (Tr.BV _ (kk [8,7,1] rfl) (fun k:Nat=>[(9,int ((k:Nat):Int))]) (fun k:Nat=>k<=(l).length/\(∀j y,j<k->l[j]? =some y->(n==y)=false)) (fun k:Nat=>(l).length-k) 0 (⟨Nat.zero_le _,fun j y hj=>absurd hj AA⟩) kz ?_);rintro k ⟨BN,AW⟩;refine ac ?_;refine Tr.seq ?_;refine Tr.cn rfl ?_ ?_<;>intro h1 q1
 have Ae:k<(l).length:=AQ h1;obtain⟨x,Ad⟩:=at_ Ae
 .repeat' first|(exact int_eq (Dv (p:=fun y=>n==y) Ad Ci AW))|(exact Fin.AP (k+1) ⟨⟨Ae,C3 (p:=fun y=>n==y) Ad Ci AW⟩,by omega⟩ ⟨⟨_,rfl,AK k⟩,kz⟩)|refine co rfl (AD rfl underlying22 C4 vq vq AA DZ) ?_|refine ac ?_|(refine Tr.cn rfl ?_ ?_<;>intro h q)
 have BA:k=(l).length:=by have:=AU h1;omega
 subst BA;refine a3 ?_
 .exact int_eq (HZ (p:=fun y=>n==y) AW)
theorem Ob{id:Int}(hl:e.ids.length<=1000000):Aq prog 347 [agg (As e),int id] (EB [int (Gn id e.ids),int (BI id e.ids)]):=by
 refine fo func347 rfl ⟨rfl,rfl⟩ fun M0 w0=>?_;refine a3 ?_;refine Tr.block (Tr.BV _ (kk [12,11,1] rfl) (fun k:Nat=>[(13,int ((k:Nat):Int)),(6,int (Gn id (e.ids.take k))),(7,int (BI id (e.ids.take k)))]) (fun k:Nat=>k<=(e.ids).length) (fun k:Nat=>(e.ids).length-k) 0 (Nat.zero_le _) ⟨kq,⟨_,rfl,int_eq rfl⟩,⟨_,rfl,int_eq rfl⟩,trivial⟩ ?_);rintro k BN;refine ac ?_;refine Tr.seq ?_;refine Tr.cn rfl ?_ ?_<;>intro h1 q1
 have Ae:k<(e.ids).length:=AQ h1;obtain⟨x,Ad⟩:=at_ Ae;have hc:=gO (id:=id) Ad;have hi:=XZ (id:=id) Ad;have ew:0<=Gn id (e.ids.take k)/\Gn id (e.ids.take k)<=1000000:=⟨by unfold Gn;omega,by have:=tI (p:=JB id) (k:=k) hl;unfold Gn;omega⟩;have h0:=Xa (id:=id) (l:=e.ids.take k);refine ac ?_;refine ao ?_;refine tp rfl (AD rfl underlying71 B8 vq vq AA DZ) ?_;refine tp rfl (AO rfl G5 B8 vq rfl rfl) ?_;refine Tl rfl rfl rfl rfl NH MD (fun b1=>?_);refine tm rfl ?_;refine sf 0 9 ⟨rfl,rfl,rfl⟩ rfl rfl rfl rfl ?_;refine ao ?_
 .repeat' first|exact Fin.AP (k+1) ⟨Ae,by omega⟩ ⟨⟨_,rfl,AK k⟩,⟨_,rfl,int_eq CU⟩,⟨_,rfl,int_eq CU⟩,kz⟩|refine ac ?_|(refine Tr.cn rfl ?_ ?_<;>intro h q)
 have BA:k=(e.ids).length:=by have:=AU h1;omega
 subst BA;rw[List.take_length];refine a2 ?_;refine Tr.ret (Fin.C_ rfl (CL.Eo _ _) rfl ?_ rfl ?_)
 .exact Lr
 .exact Lr
theorem Xb{b:Bool}  :Aq prog 378 [bool b] (int (FB b)):=by
 refine fo func378 rfl ⟨rfl,rfl⟩ fun M0 w0=>?_
 .repeat' first|exact int_eq (by simp_all [FB])|refine ac ?_|(refine Tr.cn rfl ?_ ?_<;>intro h q)
theorem Zb{k:Int}:Aq prog 346 [agg (As e),int k] (EB [int (Ia e k).1,bool (Ia e k).2]):=by
 refine fo func346 rfl ⟨rfl,rfl⟩ fun M0 w0=>?_;refine a2 ?_;refine an ?_ ?_<;>intro h1 q1
 refine ac ?_;refine Tr.ret (Fin.Ak (Fin.AF (Fin.C_ rfl (CL.Eo _ _) rfl ?_ rfl ?_)))
 .exact M4
 .exact Mz
 refine an ?_ ?_<;>intro h2 q2
 refine ac ?_;refine Tr.ret (Fin.Ak (Fin.AF (Fin.C_ rfl (CL.Eo _ _) rfl ?_ rfl ?_)))
 .exact M4
 .exact Mz
 refine an ?_ ?_<;>intro h3 q3
 refine ac ?_;refine co rfl (BS (Xb) rfl rfl) ?_;refine ac ?_;refine wk [5,4] rfl (Tr.ret (Fin.Ak (Fin.AF (Fin.C_ rfl (CL.Eo _ _) rfl ?_ rfl ?_))))
 .exact M4
 .exact Mz
 refine an ?_ ?_<;>intro h4 q4
 refine ac ?_;refine co rfl (BS (Xb) rfl rfl) ?_;refine ac ?_;refine wk [5,4] rfl (Tr.ret (Fin.Ak (Fin.AF (Fin.C_ rfl (CL.Eo _ _) rfl ?_ rfl ?_))))
 .exact M4
 .exact Mz
 refine a2 ?_;refine wk [5,4] rfl (Tr.ret (Fin.C_ rfl (CL.Eo _ _) rfl ?_ rfl ?_))
 .exact M4
 .exact Mz
theorem gP{c:Bl}(hcs:c.CO.small):Aq prog 343 [agg (B7 c)] (bool (decide (F4 c))):=by
 refine fo func343 rfl ⟨rfl,rfl⟩ fun M0 w0=>?_;refine ac ?_;refine ac ?_;refine co rfl (Aa rfl (ZR (a:=c.CO) (b:=Bg) hcs) ⟨kq,⟨_,rfl,Az ⟨Lr,Lr,Lr,AH 15,trivial⟩⟩,trivial⟩) ?_;refine ac ?_;refine ac ?_;refine ac ?_;refine Tr.cn rfl ?_ ?_<;>intro h1 q1
 refine ac ?_;refine ac ?_
 .exact UN
 refine ac ?_;refine Tr.cn rfl ?_ ?_<;>intro h2 q2
 refine ac ?_;refine wk [2] rfl ?_;refine ac ?_
 .exact UN
 refine ac ?_;refine ac ?_;refine Ch.cs 21 rfl ?_ ?_<;>intro h3 q3
 refine ac ?_;refine Ch.cs 26 rfl ?_ ?_<;>intro h4 q4
 refine ac ?_;refine Ch.cs 29 rfl ?_ ?_<;>intro h5 q5
 refine ac ?_;refine wk [2] rfl ?_;refine ac ?_
 .exact UN
 refine ac ?_;refine wk [2] rfl ?_;refine ac ?_
 .exact UN
 refine ac ?_;refine wk [2] rfl ?_;refine ac ?_
 .exact aO
 refine ac ?_;refine wk [2] rfl ?_;refine ac ?_
 .exact aO
theorem Xc{k:Int}:Aq prog 344 [agg (As e),int k] (EB [ints (G2 e k).1,bool (G2 e k).2.1,bool (G2 e k).2.2]):=by
 refine fo func344 rfl ⟨rfl,rfl⟩ fun M0 w0=>?_;refine a2 ?_;refine an ?_ ?_<;>intro h1 q1
 refine ac ?_;refine Tr.cond rfl (fun _=>?_) (fun h=>nomatch h1.symm.trans h);refine ac ?_;refine wk [6,5,4] rfl (Tr.ret (Fin.Ak (Fin.AF (Fin.Yg rfl (CL.Eo _ _) rfl ?_ rfl ?_ rfl ?_))))
 .exact Kz
 .exact F5
 .exact F5
 refine an ?_ ?_<;>intro h2 q2
 refine ac ?_;refine wk [6,5,4] rfl (Tr.ret (Fin.Ak (Fin.AF (Fin.Yg rfl (CL.Eo _ _) rfl ?_ rfl ?_ rfl ?_))))
 .exact Kz
 .exact F5
 .exact F5
 refine an ?_ ?_<;>intro h3 q3
 refine ac ?_;refine Tr.cond rfl (fun _=>?_) (fun h=>nomatch h3.symm.trans h);refine ac ?_;refine wk [6,5,4] rfl (Tr.ret (Fin.Ak (Fin.AF (Fin.Yg rfl (CL.Eo _ _) rfl ?_ rfl ?_ rfl ?_))))
 .exact Kz
 .exact F5
 .exact F5
 refine an ?_ ?_<;>intro h4 q4
 refine ac ?_;refine wk [6,5,4] rfl (Tr.ret (Fin.Ak (Fin.AF (Fin.Yg rfl (CL.Eo _ _) rfl ?_ rfl ?_ rfl ?_))))
 .exact Kz
 .exact F5
 .exact F5
 refine ac ?_;refine wk [22,7,2,1] rfl ?_;refine Tr.cn rfl ?_ ?_<;>intro h5 q5
 refine ac ?_;refine Tr.cond rfl (fun _=>?_) (fun h=>nomatch h5.symm.trans h);refine ac ?_;refine Tr.ret (Fin.Ak (Fin.AF (Fin.Yg rfl (CL.Eo _ _) rfl ?_ rfl ?_ rfl ?_)))
 .exact Kz
 .exact F5
 .exact F5
 refine an ?_ ?_<;>intro h6 q6
 refine ac ?_;refine Tr.ret (Fin.Ak (Fin.AF (Fin.Yg rfl (CL.Eo _ _) rfl ?_ rfl ?_ rfl ?_)))
 .exact Kz
 .exact F5
 .exact F5
 refine a2 ?_;refine Tr.ret (Fin.Yg rfl (CL.Eo _ _) rfl ?_ rfl ?_ rfl ?_)
 .exact Pr.le_trans (AH 1) (Pr.le_of_eq (by rw[show(G2 e k).1=[]by simp_all [G2]];rfl))
 .exact F5
 .exact F5
theorem Oc{n:Int}(hi:i<=l.length)(hl:l.length<=1000000):Aq prog 348 [ints l,int ((i:Nat):Int),int n] (ints (l.take i++[n]++l.drop i)):=by
 refine fo func348 rfl ⟨rfl,rfl⟩ fun M0 w0=>?_;have hml:(l.map fun n:Int=>[int n]).length=l.length:=List.length_map _;refine ac ?_;refine ap ?_;refine tp rfl (E2 rfl underlying22 C4 vq vq AA AA) (TO.pad ?_);refine TO.EV 0 rfl rfl AB (Bp rfl rfl AB rfl underlying22 C4 RO z3 rfl AB ⟨_,rfl,AH _⟩ vq IU IV (Bv BW ⟨_,rfl,FK 1⟩)) (fun v1=>?_);refine ap ?_;refine ap ?_;refine TO.EV 0 rfl rfl AB (Bp rfl rfl AB rfl underlying22 C4 RO z3 rfl AB Ij Ec IU IV (CA BW E4)) (fun v2=>?_);refine ap ?_;refine ap ?_;refine tp rfl (Db rfl underlying22 C4 vq vq AA AA) ?_;refine TO.EV 0 rfl rfl AB (Bp rfl rfl AB rfl underlying22 C4 RO z3 rfl AB Ij vq IU IV (CA BW E4)) (fun v3=>?_);refine ap ?_;refine wk [6] rfl ?_;refine ac ?_
 .exact Pr.le_trans (A0 _ _) (Pr.le_of_eq (by show _=slice 1 ((l.take i++[n]++l.drop i).map fun n=>[int n]);simp[List.map_take,List.map_drop]))
theorem Jm(hi:i<l.length)(hl:l.length<=1000000):Aq prog 349 [ints l,int ((i:Nat):Int)] (ints (l.eraseIdx i)):=by
 refine fo func349 rfl ⟨rfl,rfl⟩ fun M0 w0=>?_;have hml:(l.map fun n:Int=>[int n]).length=l.length:=List.length_map _;refine ac ?_;refine ap ?_;refine tp rfl (E2 rfl underlying22 C4 vq vq AA AA) (TO.pad ?_);refine TO.EV 0 rfl rfl AB (Bp rfl rfl AB rfl underlying22 C4 RO z3 rfl AB ⟨_,rfl,AH _⟩ vq IU IV (Bv BW ⟨_,rfl,FK 1⟩)) (fun v1=>?_);refine ap ?_;refine ap ?_;refine tp rfl (Db rfl underlying22 C4 vq vq AA AA) ?_;refine TO.EV 0 rfl rfl AB (Bp rfl rfl AB rfl underlying22 C4 RO z3 rfl AB Ij vq IU IV (CA BW E4)) (fun v2=>?_);refine ap ?_;refine ac ?_
 .exact Pr.le_trans (A0 _ _) (Pr.le_of_eq (by rw[List.eraseIdx_eq_take_drop_succ];show _=slice 1 ((l.take i++l.drop (i+1)).map fun n=>[int n]);simp[List.map_take,List.map_drop,show(((i:Nat):Int)+1).toNat=i+1 by omega]))
theorem PO{n:Int}(hl:l.length<=1000000):Aq prog 350 [ints l,int n] (ints (OY l n)):=by
 refine fo func350 rfl ⟨rfl,rfl⟩ fun M0 w0=>(Tr.Dr 0 rfl fun Dq=>?_);refine a2 ?_;refine Tr.seq (Tr.block (Tr.BV _ (kk [1,0] rfl) (fun k:Nat=>[(5,int ((k:Nat):Int))]) (fun k:Nat=>k<=l.length/\(∀j y,j<k->l[j]? =some y->y<n)) (fun k:Nat=>l.length-k) 0 (⟨Nat.zero_le _,fun j y hj=>absurd hj AA⟩) kz ?_));rintro k ⟨BN,hinv⟩;refine ag ?_ ?_<;>intro h1 q1
 obtain⟨x,hx⟩:=at_ (l:=l) (k:=k) AA;refine ac ?_;refine cy h1 rfl (AD rfl underlying22 C4 vq vq AA (Ap hx)) ?_;refine ac ?_;refine wk [17,5,1,0] rfl ?_;refine Tr.cn rfl ?_ ?_<;>intro h2 q2
 have hq:=h2;refine a2 ?_;exact Fin.AP (k+1) ⟨⟨by omega,bsX hinv hx (by simpa using hq)⟩,by omega⟩ ⟨⟨_,rfl,AK k⟩,kz⟩;have hp:Dl l n=k:=QO BN hinv (fun y hy=>by have h_:=h2;rw[hx]at hy;cases hy;simpa using h_);refine a2 ?_;refine co rfl (Aa rfl (Oc (l:=l) (i:=Dl l n) (QN _ _) hl) ⟨kq,⟨_,rfl,int_eq AA⟩,kz⟩) ?_;refine a2 ?_
 .exact Lr
 have hp:Dl l n=k:=QO BN hinv (fun y hy=>by have:=A7 hy;have:=q1;omega);refine ac ?_;refine wk [17,5,1,0] rfl ?_;refine a2 ?_;refine co rfl (Aa rfl (Oc (l:=l) (i:=Dl l n) (QN _ _) hl) ⟨kq,⟨_,rfl,int_eq AA⟩,kz⟩) ?_;refine a2 ?_
 .exact Lr
def YI(e:DY)(c:Bl):Int:=
 if B5 e=false then 19 else if ¬F4 c then 40
 else if c.kind=1/\(c.at_<0\/(e.AR.length:Int)<c.at_)then 2
 else if c.kind=5/\(c.at_<0\/(e.ids.length:Int)<c.at_)then 2
 else if(c.kind=11\/c.kind=12)/\(c.number≠0/\c.number≠1)then 2
 else if(G2 e c.kind).2.2=true/\decide (0<=idx (fun y=>c.number==y) (G2 e c.kind).1)=(G2 e c.kind).2.1 then 41
 else if(Ia e c.kind).2=true/\(Ia e c.kind).1=c.number then 41
 else if c.kind=5/\0<Gn c.CO.Bm e.ids then 41
 else if c.kind=6/\Gn c.number e.ids=0 then 41
 else if c.kind=6/\1<Gn c.number e.ids then 5 else 0
theorem Vu(hs:HR l){n:Int}:idx (fun y=>n==y) l=if DI l n=true then((Dl l n:Nat):Int)else -1:=by
 by_cases h:DI l n=true
 .
  rw[if_pos h];obtain⟨y,hy⟩:=at_ (Jj h);have hyn:y=n:=by grind
  exact(Dv (p:=fun y=>n==y) hy (by simp[hyn]) (fun j z hj hz=>by have:=VW hj hz;simp;omega)).symm
 .
  rw[if_neg h];refine(HZ (p:=fun y=>n==y) (fun j z hj hz=>?_)).symm;simp only[beq_eq_false_iff_ne,ne_eq];intro hn;subst hn;rcases Nat.lt_trichotomy j (Dl l n)with h1|h1|h1
  .have:=VW h1 hz;omega
  .grind
  .
   obtain⟨y,hy⟩:=at_ (l:=l) (k:=Dl l n) (by have:=A7 hz;omega);have h2:=dA hy;have h3:=VX hs h1 hy hz;omega
theorem tJ{l:List E9}{n:Int}{x:E9}(h0:¬BI n l<0)(hx:l[(BI n l).toNat]? =some x):(1<Gn n l)↔((l.drop (BI n l+1).toNat).any fun x=>x.Bm==n)=true:=by
 obtain⟨y,hy,hp,hlt⟩:=Ji (p:=JB n) (l:=l) (by rw[←HW];omega);rw[←HW]at hy hlt
 have hsplit:l=l.take (BI n l).toNat++y::l.drop ((BI n l).toNat+1):=by
  rw[List.getElem?_eq_getElem hlt]at hy;cases hy;rw[List.getElem_cons_drop];exact(List.take_append_drop _ _).symm
 have h1:(l.take (BI n l).toNat).countP (JB n)=0:=by
  refine Nj.1 (Int.not_le.1 fun h2=>?_);obtain⟨z,hz,hzp,hzl⟩:=Ji h2
  have e1:BI n l=idx (JB n) (l.take (BI n l).toNat):=by
   obtain⟨i,hi⟩:∃i:Nat,idx (JB n) (l.take (BI n l).toNat)=(i:Int):=⟨_,(Int.toNat_of_nonneg h2).symm⟩
   have h3:((l.take (BI n l).toNat).findIdx? (JB n))=some i:=by
    unfold idx at hi;cases h4:(l.take (BI n l).toNat).findIdx? (JB n)with
    |none=>rw[h4]at hi;simp at hi
    |some k=>rw[h4]at hi;rw[show k=i by simp at hi;omega]
   have h5:l.findIdx? (JB n)=some i:=by grind
   have e2:idx (JB n) l=(i:Int):=by unfold idx;rw[h5]
   exact e2.trans hi.symm
  rw[←e1]at hzl;rw[List.length_take]at hzl;omega
 have h2:l.countP (JB n)=1+(l.drop ((BI n l).toNat+1)).countP (JB n):=by grind
 unfold Gn;rw[h2,show(BI n l+1).toNat=(BI n l).toNat+1 by omega];show _↔(List.any _ (JB n))=true;rw[List.any_eq_true,←List.countP_pos_iff];omega
theorem tL{n:Int}:decide (0<=idx (fun y=>n==y) l)=l.any fun y=>n==y:=M9 _ _
theorem Qg(hs:HR l){n:Int}:decide (0<=idx (fun y=>n==y) l)=DI l n:=by
 rw[Vu hs];cases DI l n<;>simp
theorem Xd{c:Bl}(hce:B5 e=true)(hc:F4 c):YI e c=match BL e c with| .error f=>f| .ok _=>0:=by
 have ok:=DR.1 hce;have ha:=FX ok.anc;have hh:=FX ok.hash;have hk:=hc.1;unfold YI;rw[if_neg (by rw[hce];decide),if_neg (not_not_intro hc)];have h0:c.kind=1\/c.kind=2\/c.kind=3\/c.kind=4\/c.kind=5\/c.kind=6\/c.kind=7\/c.kind=8\/c.kind=9\/c.kind=10\/c.kind=11\/c.kind=12:=by omega
 rcases h0 with h|h|h|h|h|h|h|h|h|h|h|h
 .
  rw[QU h];unfold G2 Ia;simp only[h]
  by_cases h1:c.at_<0\/(e.AR.length:Int)<c.at_
  .grind
  .
   have h2:0<=c.at_/\c.at_<=(e.AR.length:Int):=by omega
   have h3:=tL (l:=e.AR) (n:=c.number);have h4:(0<=idx (fun y=>c.number==y) e.AR)↔(e.AR.any fun y=>c.number==y)=true:=by rw[←h3,decide_eq_true_eq]
   by_cases h5:(e.AR.any fun y=>c.number==y)=true
   .grind
   .grind
 .
  rw[QV h];unfold G2 Ia J1;simp only[h]
  by_cases h1:idx (fun y=>c.number==y) e.AR<0
  .simp[h1]
  .simp[h1]
 .rw[QW h];unfold G2 Ia;simp only[h];by_cases h1:e.most=c.number<;>simp[h1]
 .rw[QX h];unfold G2 Ia;simp only[h];by_cases h1:e.least=c.number<;>simp[h1]
 .
  rw[QY h];unfold G2 Ia;simp only[h];have yl:=Nj (p:=JB c.CO.Bm) (l:=e.ids);rw[←HW]at yl
  by_cases h1:c.at_<0\/(e.ids.length:Int)<c.at_
  .grind
  .
   have h3:0<=c.at_/\c.at_<=(e.ids.length:Int):=by omega
   by_cases h2:0<=BI c.CO.Bm e.ids
   .
    have:0<Gn c.CO.Bm e.ids:=by unfold Gn;omega
    simp[h1,h2,h3,this]
   .
    have:¬0<Gn c.CO.Bm e.ids:=by unfold Gn;omega
    simp[h1,h2,h3,this]
 .
  rw[QZ h];unfold G2 Ia;simp only[h];have yl:=Nj (p:=JB c.number) (l:=e.ids);rw[←HW]at yl
  by_cases h2:BI c.number e.ids<0
  .
   have:Gn c.number e.ids=0:=by unfold Gn;omega
   cases e.ids[(BI c.number e.ids).toNat]? <;>simp[h2,this]
  .
   have h3:¬Gn c.number e.ids=0:=by unfold Gn;omega
   obtain⟨x,hx,_,_⟩:=Ji (p:=fun x:E9=>x.Bm==c.number) (l:=e.ids) (by unfold BI at h2;omega);have hx:e.ids[(BI c.number e.ids).toNat]? =some x:=hx;have hd:=tJ h2 hx;rw[hx];simp only[if_neg h2]
   by_cases h4:((e.ids.drop (BI c.number e.ids+1).toNat).any fun x=>x.Bm==c.number)=true
   .grind
   .grind
 .
  rw[Qa h];unfold G2 Ia;simp only[h];have h1:(0<=idx (fun y=>c.number==y) e.anchors)↔DI e.anchors c.number=true:=by rw[←Qg ha,decide_eq_true_eq]
  by_cases h2:DI e.anchors c.number=true
  .grind
  .grind
 .
  rw[Qb h];unfold G2 Ia;simp only[h];have h1:(0<=idx (fun y=>c.number==y) e.anchors)↔DI e.anchors c.number=true:=by rw[←Qg ha,decide_eq_true_eq]
  by_cases h2:DI e.anchors c.number=true
  .grind
  .grind
 .
  rw[Qc h];unfold G2 Ia;simp only[h];have h1:(0<=idx (fun y=>c.number==y) e.hashes)↔DI e.hashes c.number=true:=by rw[←Qg hh,decide_eq_true_eq]
  by_cases h2:DI e.hashes c.number=true
  .grind
  .grind
 .
  rw[Nc h];unfold G2 Ia;simp only[h];have h1:(0<=idx (fun y=>c.number==y) e.hashes)↔DI e.hashes c.number=true:=by rw[←Qg hh,decide_eq_true_eq]
  by_cases h2:DI e.hashes c.number=true
  .grind
  .grind
 .
  rw[Nd h];unfold G2 Ia;simp only[h]
  by_cases h1:0<=c.number/\c.number<=1
  .grind
  .grind
 .
  rw[Nf h];unfold G2 Ia;simp only[h]
  by_cases h1:0<=c.number/\c.number<=1
  .grind
  .grind
theorem tM{c:Bl}(h:YI e c≠0):Cr e c=(BO,Bh,YI e c):=by grind [B5,YI,Cr,F4,Xd,BL,HV]
theorem ym{c:Bl}(h:YI e c=0):B5 e=true/\F4 c/\∃e2 b,BL e c= .ok (e2,b):=by
 by_cases hce:B5 e=false
 .
  have:YI e c=19:=by unfold YI;rw[if_pos hce]
  rw[this]at h;cases h
 .
  by_cases hc:F4 c
  .
   have hce:B5 e=true:=by simpa using hce
   have hs:=Xd hce hc;cases h2:BL e c with
   |error f=>
    rw[h2]at hs;rw[h]at hs;have h3:(0:Int)=f:=hs;have:=XT hc h2;omega
   |ok r=>exact⟨hce,hc,r.1,r.2,rfl⟩
  .
   have:YI e c=40:=by unfold YI;rw[if_neg hce,if_pos hc]
   rw[this]at h;cases h
theorem R4{β γ:Type}{f:β->γ}{l:List β}{x:β}(h:l[k]? =some x):(l.take k).map f++[f x]=(l.take (k+1)).map f:=by rw[List.take_add_one,h,List.map_append];rfl
theorem R5{x:E9}(hx:x.small):Aq prog 300 [agg (BT x)] (agg (BT x)):=by
 refine fo func300 rfl ⟨rfl,rfl⟩ fun M0 w0=>?_;have hch:=hx.chain;refine Tr.seq (Tr.At (tp rfl (BE rfl CM) ?_));refine Tl rfl rfl rfl rfl NH MD (fun b1=>?_);refine ap ?_;refine ap ?_;refine Tl rfl rfl rfl rfl NH MD (fun b2=>?_);refine ap ?_;refine ac ?_;refine wk [14,13,12,3,2] rfl (Tr.block (Tr.Hx 0 [int x.CI,int x.bits,int x.Bm,Aj (.slice none 0 0) (slice 15 ((x.chain.take 0).map C9))] rfl ⟨Lr,Lr,Lr,DA rfl,trivial⟩ (Tr.Dt 122 15 (Tr.Ez _ (kk [13,12,3,2] rfl) (fun k v=>[(14,int ((k:Nat):Int))]) (fun k v=>Hp M0 w0 Ju ([Bc 122 15 v,AE true b2 78 [int x.CI,int x.bits,int x.Bm,Aj v (slice 15 ((x.chain.take k).map C9))],AE true b1 78 (([.int .i64 0,.int .i64 0,.int .i64 0,.slice none 0 0]:List Value).map is)])) (fun k:Nat=>k<=(x.chain).length) (fun k:Nat=>(x.chain).length-k) 0 (.slice none 0 0) (Nat.zero_le _) kz (fun _ _ h=>h) ?_))));rintro k v BN;refine ac ?_;refine Tr.seq ?_;refine Tr.cn rfl ?_ ?_<;>intro h1 q1
 have Ae:k<(x.chain).length:=AQ h1;obtain⟨c,Ad⟩:=at_ Ae;have hcn:=hx.names c (List.mem_of_getElem? Ad);refine ac ?_;refine Tr.seq (Tr.block (Tr.seq (Tr.At (tp rfl (AD rfl underlying76 DD vq vq AA DZ) ?_))));refine tp rfl (AO rfl Ja DD vq rfl rfl) ?_;refine Tl rfl rfl rfl rfl Sl NJ (fun b3=>?_);refine ap ?_;refine ap ?_;refine tp rfl (LH rfl underlying67 Lj by9 z9 rfl AB vq Pv P0) ?_;refine ap ?_;refine wk [14,13,12,5,3,2] rfl ?_;refine ap ?_;refine TO.EV 1 rfl rfl AB (Bp rfl rfl AB rfl underlying76 DD u_ Sl rfl AB Ij Ec J7 J8 (CA BW E4)) (fun v1=>?_);refine ap ?_;refine Tr.drop 0 ?_;refine ac ?_;refine Fin.Hx 1 [int x.CI,int x.bits,int x.Bm,Aj v1 (slice 15 ((x.chain.take (k+1)).map C9))] rfl ⟨Lr,Lr,Lr,CZ (R4 (f:=C9) Ad),trivial⟩ (Fin.EX (k+1) v1 (⟨Ae,by omega⟩) ⟨⟨_,rfl,AK k⟩,kz⟩ (fun _ _ h=>h));have BA:k=(x.chain).length:=by have:=AU h1;omega
 subst BA;refine ac ?_;refine ap ?_;refine Tr.ret (Fin.B4 rfl (AL.cell 2 rfl rfl G5 B8 rfl Lr) ?_)
 .exact Az ⟨Lr,Lr,Lr,Pr.le_trans (A0 _ _) (Pr.le_of_eq bQ),trivial⟩
theorem Tw(Cb:e.small):Aq prog 250 [agg (As e)] (agg (As e)):=by
 refine fo func250 rfl ⟨rfl,rfl⟩ fun M0 w0=>?_;have hs1:=Cb.AR;have N2:=Cb.anchors;have YM:=Cb.hashes;have jD:=Cb.SY;refine Tr.seq (Tr.At (tp rfl (BE rfl CM) ?_));refine Tl rfl rfl rfl rfl HU Dn (fun b1=>?_);refine ao ?_;refine ao ?_;refine Tl rfl rfl rfl rfl HU Dn (fun b2=>?_);refine TO.Ac 0 rfl rfl rfl vq CM rfl Bj rfl rfl ?_;refine ao ?_;refine Tr.seq (Tr.rx ?_);refine ax ?_;refine xo rfl (fun _=>LH rfl underlying22 C4 RO z3 rfl AB vq Pv P0) ?_;refine ax ?_;refine xo rfl (fun _=>LH rfl underlying22 C4 RO z3 rfl AB vq Pv P0) ?_;refine ax ?_;refine xo rfl (fun _=>LH rfl underlying22 C4 RO z3 rfl AB vq Pv P0) ?_;refine xo rfl (fun _=>AG rfl GG vq) (Cx.ED 0 rfl rfl (BP rfl rfl vq Cf HO rfl Ag rfl) (xo rfl (fun _=>AG rfl MB vq) (Cx.ED 0 rfl rfl (BP rfl rfl vq Cf HO rfl Ag rfl) (xo rfl (fun _=>AG rfl MC vq) (Cx.ED 0 rfl rfl (BP rfl rfl vq Cf HO rfl Ag rfl) ?_)))));refine Cx.nil ⟨by kernel_rfl,?_⟩;refine BG.done WN (Fin.go (wk [3,2,1] rfl ?_));refine ao ?_;refine TO.ED 0 rfl rfl (BP rfl rfl vq Cf Sj rfl Ag rfl) ?_;refine ao ?_;refine ac ?_;refine Tr.block (Tr.Hx 0 [str e.name,int e.least,int e.most,ints e.AR,bool e.own,Aj (.slice none 0 0) (slice 4 ((e.ids.take 0).map BT)),ints e.anchors,ints e.hashes,bool e.HQ] rfl ⟨Lr,Lr,Lr,Lr,Lr,DA rfl,Lr,Lr,Lr,trivial⟩ (Tr.Dt 78 4 (Tr.Ez _ (kk [22,21,3,2] rfl) (fun k v=>[(23,int ((k:Nat):Int))]) (fun k v=>Hp M0 w0 Ju ([Bc 78 4 v,AE true b2 73 [str e.name,int e.least,int e.most,ints e.AR,bool e.own,Aj v (slice 4 ((e.ids.take k).map BT)),ints e.anchors,ints e.hashes,bool e.HQ],AE true b1 73 (([.string (ByteArray.mk #[]),.int .i64 0,.int .i64 0,.slice none 0 0,.bool false,.slice none 0 0,.slice none 0 0,.slice none 0 0,.bool false]:List Value).map is)])) (fun k:Nat=>k<=(e.ids).length) (fun k:Nat=>(e.ids).length-k) 0 (.slice none 0 0) (Nat.zero_le _) kz (fun _ _ h=>h) ?_)));rintro k v BN;refine ac ?_;refine Tr.seq ?_;refine Tr.cn rfl ?_ ?_<;>intro h1 q1
 have Ae:k<(e.ids).length:=AQ h1;obtain⟨x,Ad⟩:=at_ Ae;have hxs:=Cb.ids x (List.mem_of_getElem? Ad);refine ac ?_;refine Tr.seq (Tr.block (Tr.seq (Tr.At (tp rfl (AD rfl underlying71 B8 vq vq AA DZ) ?_))));refine tp rfl (AO rfl G5 B8 vq rfl rfl) ?_;refine Tl rfl rfl rfl rfl NH MD (fun b3=>?_);refine sf 0 5 ⟨rfl,rfl,rfl⟩ rfl rfl rfl rfl ?_;refine ao ?_;refine Tr.pad (Tr.rx ?_);refine ax ?_;refine xo rfl (fun _=>BS (R5 hxs) rfl rfl) (xo rfl (fun _=>AX (xs:=[.tmp 30]) (rows:=[_]) rfl rfl underlying71 B8 NH rfl AB ⟨⟨Ab,(Va rfl)⟩,trivial⟩ AB) ?_);refine Cx.ef 1 rfl rfl AB (Bp rfl rfl AB rfl underlying71 B8 Sk NH rfl AB Ij Ec J7 J8 (CA BW E4)) ?_;refine xo rfl (fun _=>AG rfl Ge vq) (Cx.ED 2 rfl rfl (EL rfl rfl rfl vq rfl Sj Ag) ?_);refine Cx.nil ⟨by kernel_rfl,?_⟩;refine BG.RN 1 2 32 rfl rfl AB rfl (fun v1=>?_);refine BG.done N1 ?_;refine ac ?_;refine Tr.drop 0 (wk [23,22,21,3,2] rfl ?_);refine ac ?_;refine Fin.Hx 1 [str e.name,int e.least,int e.most,ints e.AR,bool e.own,Aj v1 (slice 4 ((e.ids.take (k+1)).map BT)),ints e.anchors,ints e.hashes,bool e.HQ] rfl ⟨Lr,Lr,Lr,Lr,Lr,CZ (R4 (f:=BT) Ad),Lr,Lr,Lr,trivial⟩ (Fin.EX (k+1) v1 (⟨Ae,by omega⟩) ⟨⟨_,rfl,AK k⟩,kz⟩ (fun _ _ h=>h));have BA:k=(e.ids).length:=by have:=AU h1;omega
 subst BA;refine ac ?_;refine ao ?_;refine TO.Ac 2 rfl rfl rfl vq CM rfl Bj rfl rfl ?_;refine ao ?_;refine Tr.ret (Fin.B4 rfl (AL.cell 2 rfl rfl Bw Bj rfl Lr) ?_)
 .exact Az ⟨Lr,Lr,Lr,Lr,Lr,Pr.le_trans (A0 _ _) (Pr.le_of_eq bQ),Lr,Lr,Lr,trivial⟩
theorem Vv{c:Bl}(Cb:e.small)(hcs:c.CO.small):Aq prog 301 [agg (As e),agg (B7 c)] (int (YI e c)):=by
 refine fo func301 rfl ⟨rfl,rfl⟩ fun M0 w0=>?_;refine ac ?_;refine ac ?_;refine co rfl (BS (JA Cb) rfl rfl) ?_;refine ac ?_;refine Tr.cn rfl ?_ ?_<;>intro h1 q1
 refine ac ?_;refine ac ?_
 .refine int_eq ?_;unfold YI;repeat (refine(if_pos ?_).symm;simp_all)
 refine ac ?_;refine ac ?_;refine co rfl (BS (gP (c:=c) hcs) rfl rfl) ?_;refine ac ?_;refine Tr.cn rfl ?_ ?_<;>intro h2 q2
 refine ac ?_;refine ac ?_
 .exact Yd
 refine ac ?_;refine wk [3,2] rfl (Tr.Sf [2,3] [] (¬(c.kind=1/\(c.at_<0\/(e.AR.length:Int)<c.at_))/\¬(c.kind=5/\(c.at_<0\/(e.ids.length:Int)<c.at_))/\¬((c.kind=11\/c.kind=12)/\(c.number≠0/\c.number≠1))) ?_ (fun AHa=>?_));refine ac ?_;refine ac ?_;refine Tr.cn rfl ?_ ?_<;>intro h4 q4
 refine ac ?_;refine Ch.cs 27 rfl ?_ ?_<;>intro h5 q5
 refine ac ?_;refine wk [34,3,2] rfl ?_;refine ac ?_;refine ac ?_
 .exact Yd
 refine ac ?_;refine wk [34,3,2] rfl ?_;refine Tr.cn rfl ?_ ?_<;>intro h6 q6
 refine ac ?_;refine ac ?_
 .exact Yd
 refine Tr.skip (Fin.block (Fin.AP () AA (ez rfl)));refine ac ?_;refine Tr.cn rfl ?_ ?_<;>intro h7 q7
 refine ac ?_;refine Ch.cs 40 rfl ?_ ?_<;>intro h8 q8
 refine ac ?_;refine wk [47,3,2] rfl ?_;refine ac ?_;refine ac ?_
 .exact Lz
 refine ac ?_;refine wk [47,3,2] rfl ?_;refine Tr.cn rfl ?_ ?_<;>intro h9 q9
 refine ac ?_;refine ac ?_
 .exact Lz
 refine Tr.skip (Fin.block (Fin.AP () AA (ez rfl)));refine ac ?_;refine Tr.cn rfl ?_ ?_<;>intro h10 NT
 refine ac ?_;refine Tr.cond rfl (fun _=>?_) (fun h=>nomatch h10.symm.trans h);refine ac ?_;refine Ch.cs 54 rfl ?_ ?_<;>intro h11 Rl
 refine ac ?_;refine wk [58,3,2] rfl ?_;refine Tr.cn rfl ?_ ?_<;>intro h12 Tn
 refine ac ?_;refine ac ?_
 .exact Lz
 refine Tr.skip (Fin.block (Fin.AP () AA (ez rfl)));refine ac ?_;refine wk [58,3,2] rfl (Tr.cond rfl (fun h=>nomatch h) (fun _=>?_));refine Tr.skip (Fin.block (Fin.AP () AA (ez rfl)));refine ac ?_;refine Tr.cn rfl ?_ ?_<;>intro LX YN
 refine ac ?_;refine Ch.cs 54 rfl ?_ ?_<;>intro MW mY
 refine ac ?_;refine wk [58,3,2] rfl ?_;refine Tr.cn rfl ?_ ?_<;>intro Ss pS
 refine ac ?_;refine ac ?_
 .exact Lz
 refine Tr.skip (Fin.block (Fin.AP () AA (ez rfl)));refine ac ?_;refine wk [58,3,2] rfl (Tr.cond rfl (fun h=>nomatch h) (fun _=>?_));refine Tr.skip (Fin.block (Fin.AP () AA (ez rfl)));refine Tr.skip (Fin.block (Fin.AP () AA (ez rfl)));refine wk [3,2] rfl (Tr.Sf [2,3] [] (¬((G2 e c.kind).2.2=true/\decide (0<=idx (fun y=>c.number==y) (G2 e c.kind).1)=(G2 e c.kind).2.1)) ?_ (fun AHb=>?_));refine ac ?_;refine co rfl (CG (Xc) rfl rfl rfl) ?_;refine ac ?_;refine ac ?_;refine Ch.cs 68 rfl ?_ ?_<;>intro PK pR
 refine ac ?_;refine cy PK rfl (CG (Jl) rfl rfl rfl) ?_;refine ac ?_;refine wk [76,3,2] rfl ?_;refine Tr.cn rfl ?_ ?_<;>intro Sa q18
 refine ac ?_;refine ac ?_
 .exact jO
 refine Tr.skip (Fin.AP () CU (ez rfl));refine ac ?_;refine wk [76,3,2] rfl (Tr.cond rfl (fun h=>nomatch h) (fun _=>?_));refine Tr.skip (Fin.AP () CU (ez rfl));refine wk [3,2] rfl (Tr.Sf [2,3] [] (¬((Ia e c.kind).2=true/\(Ia e c.kind).1=c.number)) ?_ (fun hval=>?_));refine ac ?_;refine co rfl (CG (Zb) rfl rfl rfl) ?_;refine ac ?_;refine ac ?_;refine Ch.cs 85 rfl ?_ ?_<;>intro Pf q20
 refine ac ?_;refine wk [90,3,2] rfl ?_;refine Tr.cn rfl ?_ ?_<;>intro cR q21
 refine ac ?_;refine ac ?_
 .exact jO
 refine Tr.skip (Fin.AP () CU (ez rfl));refine ac ?_;refine wk [90,3,2] rfl (Tr.cond rfl (fun h=>nomatch h) (fun _=>?_));refine Tr.skip (Fin.AP () CU (ez rfl));refine wk [3,2] rfl (Tr.Sf [2,3] [] (¬(c.kind=5/\0<Gn c.CO.Bm e.ids)) ?_ (fun AHc=>?_));refine ac ?_;refine Tr.cn rfl ?_ ?_<;>intro h23 q23
 refine ac ?_;refine co rfl (CG (Ob Cb.SY) rfl rfl rfl) ?_;refine ac ?_;refine wk [10,3,2] rfl ?_;refine ac ?_;refine Tr.cn rfl ?_ ?_<;>intro h24 q24
 refine ac ?_;refine ac ?_
 .exact Lz
 refine Tr.skip (Fin.AP () AA (ez rfl));refine Tr.skip (Fin.AP () AA (ez rfl));refine ac ?_;refine Tr.cn rfl ?_ ?_<;>intro h25 q25
 refine ac ?_;refine co rfl (CG (Ob Cb.SY) rfl rfl rfl) ?_;refine ac ?_;refine wk [12] rfl ?_;refine ac ?_;refine Tr.cn rfl ?_ ?_<;>intro h26 q26
 refine ac ?_;refine ac ?_
 .exact Lz
 refine ac ?_;refine ac ?_;refine Tr.cn rfl ?_ ?_<;>intro h27 q27
 refine ac ?_;refine ac ?_
 .exact Lz
 refine ac ?_;refine ac ?_;refine ac ?_
 .exact jT
 refine ac ?_;refine ac ?_;refine ac ?_
 .exact jT
theorem AGg{c b:Bl}(h:c.kind=1)(hs:BL e c= .ok (e2,b)):(0<=c.at_/\c.at_<=(e.AR.length:Nat))/\e2={ e with AR:=e.AR.take c.at_.toNat++[c.number]++e.AR.drop c.at_.toNat }/\b=⟨c.AZ,2,c.number,0,Bg⟩:=by grind [QU]
theorem AGh{c b:Bl}(h:c.kind=2)(hs:BL e c= .ok (e2,b)):(0<=J1 e c)/\e2={ e with AR:=e.AR.eraseIdx (J1 e c).toNat }/\b=⟨c.AZ,1,c.number,J1 e c,Bg⟩:=by grind [QV]
theorem AGi{c b:Bl}(h:c.kind=3)(hs:BL e c= .ok (e2,b)):e2={ e with most:=c.number }/\b=⟨c.AZ,c.kind,e.most,0,Bg⟩:=by grind [QW]
theorem AGj{c b:Bl}(h:c.kind=4)(hs:BL e c= .ok (e2,b)):e2={ e with least:=c.number }/\b=⟨c.AZ,c.kind,e.least,0,Bg⟩:=by grind [QX]
theorem AGk{c b:Bl}(h:c.kind=5)(hs:BL e c= .ok (e2,b)):(0<=c.at_/\c.at_<=(e.ids.length:Nat))/\e2={ e with ids:=e.ids.take c.at_.toNat++[c.CO]++e.ids.drop c.at_.toNat }/\b=⟨c.AZ,6,c.CO.Bm,0,Bg⟩:=by grind [QY]
theorem AGl{c b:Bl}(h:c.kind=6)(hs:BL e c= .ok (e2,b)):∃x,e.ids[(BI c.number e.ids).toNat]? =some x/\0<=BI c.number e.ids/\e2={ e with ids:=e.ids.eraseIdx (BI c.number e.ids).toNat }/\b=⟨c.AZ,5,0,BI c.number e.ids,x⟩:=by grind [QZ]
theorem AGm{c b:Bl}(h:c.kind=7)(hs:BL e c= .ok (e2,b)):DI e.anchors c.number=false/\e2={ e with anchors:=OY e.anchors c.number }/\b=⟨c.AZ,8,c.number,0,Bg⟩:=by grind [Qa]
theorem AGn{c b:Bl}(h:c.kind=8)(hs:BL e c= .ok (e2,b)):DI e.anchors c.number=true/\e2={ e with anchors:=e.anchors.eraseIdx (Dl e.anchors c.number) }/\b=⟨c.AZ,7,c.number,0,Bg⟩:=by grind [Qb]
theorem AGo{c b:Bl}(h:c.kind=9)(hs:BL e c= .ok (e2,b)):DI e.hashes c.number=false/\e2={ e with hashes:=OY e.hashes c.number }/\b=⟨c.AZ,10,c.number,0,Bg⟩:=by grind [Qc]
theorem ADU{c b:Bl}(h:c.kind=10)(hs:BL e c= .ok (e2,b)):DI e.hashes c.number=true/\e2={ e with hashes:=e.hashes.eraseIdx (Dl e.hashes c.number) }/\b=⟨c.AZ,9,c.number,0,Bg⟩:=by grind [Nc]
theorem ADV{c b:Bl}(h:c.kind=11)(hs:BL e c= .ok (e2,b)):e2={ e with HQ:=(c.number==1) }/\b=⟨c.AZ,c.kind,FB e.HQ,0,Bg⟩:=by grind [Nd]
theorem ADW{c b:Bl}(h:c.kind=12)(hs:BL e c= .ok (e2,b)):e2={ e with own:=(c.number==1) }/\b=⟨c.AZ,c.kind,FB e.own,0,Bg⟩:=by grind [Nf]
theorem tN{c:Bl}(h:0<=J1 e c):(J1 e c).toNat<e.AR.length:=by obtain⟨_,_,_,h3⟩:=Ji (p:=fun y=>c.number==y) (l:=e.AR) h;exact h3
theorem gQ{c b:Bl}(Cb:e.small)(hcs:c.CO.small)(hce:B5 e=true)(hc:F4 c)(hs:BL e c= .ok (e2,b)):Aq prog 302 [agg (As e),agg (B7 c)] (agg (As e2)):=by
 refine fo func302 rfl ⟨rfl,rfl⟩ fun M0 w0=>?_;have hk:=hc.1;have ok:=DR.1 hce;have hs1:=Cb.AR;have N2:=Cb.anchors;have YM:=Cb.hashes;have jD:=Cb.SY;refine Tr.seq (Tr.At (tp rfl (BE rfl CM) (tp rfl (BE rfl CM) ?_)));refine Tl rfl rfl rfl rfl HU Dn (fun b1=>?_);refine ap ?_;refine ap ?_;refine tp rfl (BS (Tw Cb) rfl rfl) ?_;refine Tl rfl rfl rfl rfl HU Dn (fun b2=>?_);refine ap ?_;refine ac ?_;refine an ?_ ?_<;>intro h1 q1
 obtain⟨hr,rfl,rfl⟩:=AGg q1 hs;refine ap ?_;refine tp rfl (Aa rfl (Oc (l:=e.AR) (i:=c.at_.toNat) AA hs1) ⟨kq,⟨_,rfl,int_eq AA⟩,kz⟩) ?_;refine ap ?_;refine wk [5,4] rfl ?_;refine ap ?_;refine Tr.drop 0 (Tr.ret (Fin.B4 rfl (AL.cell 0 rfl rfl Bw Bj rfl Lr) ?_))
 .exact Lr
 refine ac ?_;refine wk [24,13,5,4,3,2] rfl ?_;refine Tr.cn rfl ?_ ?_<;>intro h2 q2
 obtain⟨hr,rfl,rfl⟩:=AGh q2 hs;refine Tr.rx ?_;refine ay ?_;refine xo rfl (fun _=>CG (Jl) rfl rfl rfl) ?_;refine xo rfl (fun _=>Aa rfl (Jm (l:=e.AR) (i:=(J1 e c).toNat) (tN hr) hs1) ⟨kq,⟨_,rfl,int_eq (show J1 e c=_ by omega)⟩,trivial⟩) ?_;refine ay ?_;refine Cx.nil ⟨by kernel_rfl,?_⟩;refine BG.done WN ?_;refine ac ?_;refine wk [5,4] rfl ?_;refine ap ?_;refine Tr.drop 0 (Tr.ret (Fin.B4 rfl (AL.cell 0 rfl rfl Bw Bj rfl Lr) ?_))
 .exact Lr
 refine an ?_ ?_<;>intro h3 q3
 obtain⟨rfl,rfl⟩:=AGi q3 hs;refine ap ?_;refine ap ?_;refine Tr.drop 0 (Tr.ret (Fin.B4 rfl (AL.cell 0 rfl rfl Bw Bj rfl Lr) ?_))
 .exact Lr
 refine an ?_ ?_<;>intro h4 q4
 obtain⟨rfl,rfl⟩:=AGj q4 hs;refine ap ?_;refine ap ?_;refine Tr.drop 0 (wk [4] rfl (Tr.ret (Fin.B4 rfl (AL.cell 0 rfl rfl Bw Bj rfl Lr) ?_)))
 .exact Lr
 refine an ?_ ?_<;>intro h5 q5
 obtain⟨hr,rfl,rfl⟩:=AGk q5 hs;refine ap ?_;refine tp rfl (E2 rfl underlying71 B8 vq vq AA Ci) ?_;refine TO.pad ?_;refine TO.EV 0 rfl rfl AB (Bp rfl rfl AB rfl underlying71 B8 Sk NH rfl AB ⟨_,rfl,AH _⟩ vq IU IV (Bv BW ⟨_,rfl,FK 1⟩)) (fun v1=>?_);refine ap ?_;refine wk [6,5,4,3] rfl ?_;refine ap ?_;refine tp rfl (BS (R5 hcs) rfl rfl) (tp rfl (AX (xs:=[.tmp 56]) (rows:=[_]) rfl rfl underlying71 B8 NH rfl AB ⟨⟨Ab,(Va rfl)⟩,trivial⟩ AB) ?_);refine TO.EV 0 rfl rfl AB (Bp rfl rfl AB rfl underlying71 B8 Sk NH rfl AB Ij Ec IU IV (CA BW E4)) (fun v2=>?_);refine ap ?_;refine ap ?_;refine tp rfl (Db rfl underlying71 B8 vq vq AA Ci) ?_;refine TO.EV 0 rfl rfl AB (Bp rfl rfl AB rfl underlying71 B8 Sk NH rfl AB Ij vq IU IV (CA BW E4)) (fun v3=>?_);refine ap ?_;refine wk [5,4] rfl ?_;refine ap ?_;refine Tr.drop 1 (Tr.ret (Fin.B4 rfl (AL.cell 1 rfl rfl Bw Bj rfl Lr) ?_))
 .exact Az ⟨Lr,Lr,Lr,Lr,Lr,Pr.le_trans (A0 _ _) (Pr.le_of_eq (by show _=slice 4 ((e.ids.take c.at_.toNat++[c.CO]++e.ids.drop c.at_.toNat).map BT);simp[List.map_take,List.map_drop])),Lr,Lr,Lr,trivial⟩
 refine ac ?_;refine wk [67,13,5,4,3,2] rfl ?_;refine Tr.cn rfl ?_ ?_<;>intro h6 q6
 obtain⟨x_,hx_,hr,rfl,rfl⟩:=AGl q6 hs;have hlt:=A7 hx_;refine ac ?_;refine co rfl (CG (Ob jD) rfl rfl rfl) ?_;refine ac ?_;refine wk [8,5,4] rfl ?_;refine ap ?_;refine tp rfl (E2 rfl underlying71 B8 vq vq AA Ci) ?_;refine TO.pad ?_;refine TO.EV 0 rfl rfl AB (Bp rfl rfl AB rfl underlying71 B8 Sk NH rfl AB ⟨_,rfl,AH _⟩ vq IU IV (Bv BW ⟨_,rfl,FK 1⟩)) (fun v4=>?_);refine ap ?_;refine ap ?_;refine tp rfl (Db rfl underlying71 B8 vq vq AA Ci) ?_;refine TO.EV 0 rfl rfl AB (Bp rfl rfl AB rfl underlying71 B8 Sk NH rfl AB Ij vq IU IV (CA BW E4)) (fun v5=>?_);refine ap ?_;refine wk [5,4] rfl ?_;refine ap ?_;refine Tr.drop 1 (Tr.ret (Fin.B4 rfl (AL.cell 1 rfl rfl Bw Bj rfl Lr) ?_))
 .exact Az ⟨Lr,Lr,Lr,Lr,Lr,Pr.le_trans (A0 _ _) (Pr.le_of_eq (by show _=slice 4 ((e.ids.eraseIdx (BI c.number e.ids).toNat).map BT);rw[List.eraseIdx_eq_take_drop_succ,show(BI c.number e.ids+1).toNat=(BI c.number e.ids).toNat+1 by omega];simp[List.map_take,List.map_drop])),Lr,Lr,Lr,trivial⟩
 refine an ?_ ?_<;>intro h7 q7
 obtain⟨hr,rfl,rfl⟩:=AGm q7 hs;refine ap ?_;refine tp rfl (CG (PO N2) rfl rfl rfl) ?_;refine ap ?_;refine wk [5,4] rfl ?_;refine ap ?_;refine Tr.drop 0 (Tr.ret (Fin.B4 rfl (AL.cell 0 rfl rfl Bw Bj rfl Lr) ?_))
 .exact Lr
 refine an ?_ ?_<;>intro h8 q8
 obtain⟨hr,rfl,rfl⟩:=AGn q8 hs;refine Tr.rx ?_;refine ay ?_;refine xo rfl (fun _=>CG (Jl) rfl rfl rfl) ?_;refine xo rfl (fun _=>Aa rfl (Jm (l:=e.anchors) (i:=Dl e.anchors c.number) (Jj hr) N2) ⟨kq,⟨_,rfl,int_eq (by rw[Vu (FX ok.anc),if_pos hr])⟩,trivial⟩) ?_;refine ay ?_;refine Cx.nil ⟨by kernel_rfl,?_⟩;refine BG.done WN ?_;refine ac ?_;refine wk [5,4] rfl ?_;refine ap ?_;refine Tr.drop 0 (Tr.ret (Fin.B4 rfl (AL.cell 0 rfl rfl Bw Bj rfl Lr) ?_))
 .exact Lr
 refine an ?_ ?_<;>intro h9 q9
 obtain⟨hr,rfl,rfl⟩:=AGo q9 hs;refine ap ?_;refine tp rfl (CG (PO YM) rfl rfl rfl) ?_;refine ap ?_;refine wk [5,4] rfl ?_;refine ap ?_;refine Tr.drop 0 (Tr.ret (Fin.B4 rfl (AL.cell 0 rfl rfl Bw Bj rfl Lr) ?_))
 .exact Lr
 refine ac ?_;refine wk [116,13,5,4,3,2] rfl ?_;refine Tr.cn rfl ?_ ?_<;>intro h10 NT
 obtain⟨hr,rfl,rfl⟩:=ADU NT hs;refine Tr.rx ?_;refine ay ?_;refine xo rfl (fun _=>CG (Jl) rfl rfl rfl) ?_;refine xo rfl (fun _=>Aa rfl (Jm (l:=e.hashes) (i:=Dl e.hashes c.number) (Jj hr) YM) ⟨kq,⟨_,rfl,int_eq (by rw[Vu (FX ok.hash),if_pos hr])⟩,trivial⟩) ?_;refine ay ?_;refine Cx.nil ⟨by kernel_rfl,?_⟩;refine BG.done WN ?_;refine ac ?_;refine wk [5,4] rfl ?_;refine ap ?_;refine Tr.drop 0 (Tr.ret (Fin.B4 rfl (AL.cell 0 rfl rfl Bw Bj rfl Lr) ?_))
 .exact Lr
 refine an ?_ ?_<;>intro h11 Rl
 obtain⟨rfl,rfl⟩:=ADV Rl hs;refine ap ?_;refine ap ?_;refine Tr.drop 0 (Tr.ret (Fin.B4 rfl (AL.cell 0 rfl rfl Bw Bj rfl Lr) ?_))
 .exact Lr
 refine an ?_ ?_<;>intro h12 Tn
 obtain⟨rfl,rfl⟩:=ADW Tn hs;refine ap ?_;refine wk [5,4] rfl ?_;refine ap ?_;refine Tr.drop 0 (Tr.ret (Fin.B4 rfl (AL.cell 0 rfl rfl Bw Bj rfl Lr) ?_))
 .exact Lr
 exfalso;omega
theorem Zc{c:Bl}{n:Nat}(hz:e.sz n)(hn:n<=900000)(hi:c.CO.fits/\c.CO.small):Aq prog 251 [agg (As e),agg (B7 c)] (EB [agg (As (Cr e c).1),int (Cr e c).2.2]):=by
 refine fo func251 rfl ⟨rfl,rfl⟩ fun M0 w0=>?_;have Cb:=hz.small AA;have hcs:=hi.2;refine Tr.seq (Tr.At (tp rfl (BE rfl CM) (tp rfl (BE rfl CM) ?_)));refine Tl rfl rfl rfl rfl HU Dn (fun b1=>?_);refine ao ?_;refine ac ?_;refine co rfl (CG (Vv Cb hcs) rfl rfl rfl) ?_;refine ac ?_;refine an ?_ ?_<;>intro h1 q1
 have hb:=tM q1;refine ao ?_;refine TO.Ac 0 rfl rfl rfl vq CM rfl Bj rfl rfl ?_;refine ao ?_;refine wk [5,4] rfl (Tr.ret (Fin.AF (Fin.Bf rfl (AL.cell 0 rfl rfl Bw Bj rfl Lr) (AL.tmp rfl Lr) ?_)));refine BU ⟨?_,?_,trivial⟩
 .exact aj
 .exact int_eq (by rw[hb])
 obtain⟨hce,hc,e2,b,hs⟩:=ym (e:=e) (c:=c) M7;have AGp:=(dO hc hs hz hi).1.small AA;refine ac ?_;refine ao ?_;refine tp rfl (CG (gQ Cb hcs hce hc hs) rfl rfl rfl) ?_;refine Tl rfl rfl rfl rfl HU Dn (fun b2=>?_);refine sf 0 7 ⟨rfl,rfl,rfl⟩ rfl rfl rfl rfl ?_;refine ao ?_;refine wk [7,4] rfl ?_;refine ac ?_;refine co rfl (BS (JA AGp) rfl rfl) ?_;refine an ?_ ?_<;>intro h2 q2
 have hb:=LJ hce hc hs (by have:=q2;cases h_:B5 e2<;>simp_all);refine ao ?_;refine TO.Ac 0 rfl rfl rfl vq CM rfl Bj rfl rfl ?_;refine ao ?_;refine Tr.ret (Fin.AF (Fin.Bf rfl (AL.cell 0 rfl rfl Bw Bj rfl Lr) (AL.tmp rfl Lr) ?_));refine BU ⟨?_,?_,trivial⟩
 .exact aj
 .exact int_eq (by rw[hb])
 have hb:=I_ hce hc hs (by have:=q2;cases h_:B5 e2<;>simp_all);refine ac ?_;refine ao ?_;refine TO.Ac 0 rfl rfl rfl vq CM rfl Bj rfl rfl ?_;refine ao ?_;refine Tr.ret (Fin.Bf rfl (AL.cell 0 rfl rfl Bw Bj rfl Lr) (AL.tmp rfl Lr) ?_);refine BU ⟨?_,?_,trivial⟩
 .rw[hb];exact Lr
 .exact int_eq (by rw[hb])
abbrev AGq(l:List DY):Pr:=slice 9 (l.map As)
structure Xe where
 CI:Int
 bits:Int
 day:Int
 deriving DecidableEq
abbrev AGr(x:Xe):List Pr:=[int x.CI,int x.bits,int x.day]
abbrev nB(l:List Xe):Pr:=slice 3 (l.map AGr)
structure Od where
 name:List UInt8
 kind:Int
 HS:Int
 links:List Xe
 Me:Int
 deriving DecidableEq
abbrev Ht(x:Od):List Pr:=[str x.name,int x.kind,int x.HS,nB x.links,int x.Me]
abbrev LZ(l:List Od):Pr:=slice 5 (l.map Ht)
structure PR where
 client:Int
 server:Int
 deriving DecidableEq
abbrev AGs(x:PR):List Pr:=[int x.client,int x.server]
abbrev GO(l:List PR):Pr:=slice 2 (l.map AGs)
abbrev E7:Xe:=⟨0,0,0⟩
abbrev FD:PR:=⟨0,0⟩
def FZ(l:List Xe)(i:Nat):Bool:=decide (CJ (l[i]?.getD E7).CI (l[i]?.getD E7).bits>0)&&decide (0<=(l[i]?.getD E7).day)&&decide ((l[i]?.getD E7).day<=40000)&&(decide (i=0)||decide ((l[i-1]?.getD E7).day<(l[i]?.getD E7).day))
def HG(x:Od):Bool:=(named x.name&&decide (x.kind=1\/x.kind=2)&&decide (1<=x.HS)&&decide (x.HS<=4)&&decide (1<=x.links.length)&&decide (x.links.length<=8))&&allI (FZ x.links) x.links.length&&(decide ((x.links[0]?.getD E7).day<=x.Me)&&decide (x.Me<=40000))
structure ADX(x:Od):Prop where
 name:named x.name=true
 kind:x.kind=1\/x.kind=2
 p1:1<=x.HS
 p4:x.HS<=4
 l1:1<=x.links.length
 l8:x.links.length<=8
 lnk:∀j,j<x.links.length->FZ x.links j=true
 u0:(x.links[0]?.getD E7).day<=x.Me
 u1:x.Me<=40000
theorem Fz{x:Od}:HG x=true↔ADX x:=by
 unfold HG;simp only[Bool.and_eq_true,decide_eq_true_eq,B0];exact⟨fun⟨⟨⟨⟨⟨⟨⟨h1,h2⟩,h3⟩,h4⟩,h5⟩,h6⟩,h7⟩,h8,h9⟩=>⟨h1,h2,h3,h4,h5,h6,h7,h8,h9⟩,fun h=>⟨⟨⟨⟨⟨⟨⟨h.name,h.kind⟩,h.p1⟩,h.p4⟩,h.l1⟩,h.l8⟩,h.lnk⟩,h.u0,h.u1⟩⟩
def DO(n:Nat)(l:List PR)(i:Nat):Bool:=(decide (0<=(l[i]?.getD FD).client/\(l[i]?.getD FD).client<n)&&decide (0<=(l[i]?.getD FD).server/\(l[i]?.getD FD).server<n)&&decide ((l[i]?.getD FD).client≠(l[i]?.getD FD).server))&&(decide (i=0)||decide ((l[i-1]?.getD FD).client<(l[i]?.getD FD).client\/((l[i-1]?.getD FD).client=(l[i]?.getD FD).client/\(l[i-1]?.getD FD).server<(l[i]?.getD FD).server)))
def JH(n:Nat)(l:List PR):Bool:=allI (DO n l) l.length&&decide (l.length<=40)
theorem gR{x:Od}(hx:x.name.length<=maxLen):Aq prog 75 [agg (Ht x)] (int (if HG x then 0 else 30)):=by
 refine fo func75 rfl ⟨rfl,rfl⟩ fun M0 w0=>?_;refine ac ?_;refine wk [1] rfl (Tr.Sf [1] [(3,bool (decide (x.kind=1\/x.kind=2)))] (True) ?_ (fun h1=>?_));refine ac ?_;refine Ch.cs 9 rfl ?_ ?_<;>intro h2 q2
 refine ac ?_;exact Fin.AP () trivial ⟨⟨_,rfl,bool_eq (by simp_all [Bool.beq_eq_decide_eq])⟩,kz⟩;refine ac ?_;exact Fin.AP () trivial ⟨⟨_,rfl,bool_eq (by simp_all [Bool.beq_eq_decide_eq])⟩,kz⟩;refine wk2 1 3 rfl (Tr.Sf [1] [] ((named x.name=true/\(x.kind=1\/x.kind=2)/\1<=x.HS/\x.HS<=4)/\1<=x.links.length/\x.links.length<=8) ?_ (fun hpre=>?_));refine ac ?_;refine co rfl (BS (QJ hx) rfl rfl) ?_;refine ac ?_;refine Ch.cs 18 rfl ?_ ?_<;>intro h4 q4
 refine ac ?_;refine wk [43,1] rfl ?_;refine ac ?_;refine ac ?_
 .exact jQ
 refine ac ?_;refine Ch.cs 22 rfl ?_ ?_<;>intro h5 q5
 refine ac ?_;refine wk [43,1] rfl ?_;refine ac ?_;refine ac ?_
 .exact G1
 refine ac ?_;refine Ch.cs 27 rfl ?_ ?_<;>intro h6 q6
 refine ac ?_;refine wk [43,1] rfl ?_;refine ac ?_;refine ac ?_
 .exact G1
 refine ac ?_;refine Ch.cs 32 rfl ?_ ?_<;>intro h7 q7
 refine ac ?_;refine wk [43,1] rfl ?_;refine ac ?_;refine ac ?_
 .exact G1
 refine ac ?_;refine Ch.cs 38 rfl ?_ ?_<;>intro h8 q8
 refine ac ?_;refine wk [43,1] rfl ?_;refine ac ?_;refine ac ?_
 .exact G1
 refine ac ?_;refine wk [43,1] rfl ?_;refine Tr.cn rfl ?_ ?_<;>intro h9 q9
 refine ac ?_;refine ac ?_
 .exact G1
 refine Tr.skip (Fin.AP () ⟨⟨by simp_all,by simp_all,by omega,by omega⟩,by omega,by omega⟩ kz);obtain⟨⟨hq1,WW,hq3,hq4⟩,hq5,hq6⟩:=hpre;obtain⟨c0,hc0⟩:=at_ (l:=x.links) (k:=0) AA;have fH:=getD_at (d:=E7) hc0;refine ac ?_;refine Tr.block (Tr.BV _ (kk [46,45,1] rfl) (fun k:Nat=>[(47,int ((k:Nat):Int))]) (fun k:Nat=>k<=(x.links).length/\(∀j,j<k->FZ x.links j=true)) (fun k:Nat=>(x.links).length-k) 0 (⟨Nat.zero_le _,fun j hj=>absurd hj AA⟩) kz ?_);rintro k ⟨BN,AW⟩;refine ac ?_;refine Tr.seq ?_;refine Tr.cn rfl ?_ ?_<;>intro h10 NT
 have Ae:k<(x.links).length:=AQ h10;obtain⟨c,Ad⟩:=at_ Ae;have hg:=getD_at (d:=E7) Ad;refine ac ?_;refine ao ?_;refine tp rfl (AD rfl underlying83 HE vq vq AA (Ap Ad)) (tp rfl (AO rfl w_ HE vq rfl rfl) ?_);refine Tl rfl rfl rfl rfl z127 kK (fun b1=>?_);refine tm rfl ?_;refine sf 0 5 ⟨rfl,rfl,rfl⟩ rfl rfl rfl rfl ?_;refine ao ?_;refine ac ?_;refine co rfl (BS (VP) rfl rfl) ?_;refine ac ?_;refine Ch.cs 56 rfl ?_ ?_<;>intro h11 Rl
 refine ac ?_;refine wk [81,47,46,45,1] rfl ?_;refine ac ?_;refine ac ?_
 .exact N4
 refine ac ?_;refine Ch.cs 61 rfl ?_ ?_<;>intro h12 Tn
 refine ac ?_;refine wk [81,47,46,45,1] rfl ?_;refine ac ?_;refine ac ?_
 .exact N4
 refine ac ?_;refine Ch.cs 66 rfl ?_ ?_<;>intro LX YN
 refine ac ?_;refine wk [81,47,46,45,1] rfl ?_;refine ac ?_;refine ac ?_
 .exact N4
 refine ac ?_;refine Ch.cs 69 rfl ?_ ?_<;>intro MW mY
 have hk0:0<k:=by simpa using MW
 obtain⟨y,hy⟩:=at_ (l:=x.links) (k:=k-1) AA;have Le:=getD_at (d:=E7) hy;refine ac ?_;refine cy MW rfl (AD rfl underlying83 HE vq vq AA F2) ?_;refine ac ?_;refine wk [81,47,46,45,1] rfl ?_;refine Tr.cn rfl ?_ ?_<;>intro Ss pS
 refine ac ?_;refine ac ?_
 .refine int_eq (if_neg (fun hv=>?_)).symm;have ok:=Fz.1 hv;have o1:=ok.name;have o2:=ok.kind;have o3:=ok.p1;have o4:=ok.p4;have o5:=ok.l1;have o6:=ok.l8;have o7:=ok.u0;have o8:=ok.u1;(have h_:=ok.lnk k AA;unfold FZ at h_;rw[hg,Le]at h_;simp_all;omega)
 refine ac ?_;refine ac ?_;exact Fin.AP (k+1) ⟨⟨Ae,Bx AW (by unfold FZ;rw[hg,Le];simp_all)⟩,by omega⟩ ⟨⟨_,rfl,AK k⟩,kz⟩;have J2:¬0<k:=by simpa using MW
 refine ac ?_;refine wk [81,47,46,45,1] rfl ?_;refine ac ?_;refine ac ?_;exact Fin.AP (k+1) ⟨⟨Ae,Bx AW (by unfold FZ;rw[hg];simp_all)⟩,by omega⟩ ⟨⟨_,rfl,AK k⟩,kz⟩;have BA:k=(x.links).length:=by have:=AU h10;omega
 subst BA;refine ac ?_;refine ac ?_;refine co rfl (AD rfl underlying83 HE vq vq AA (Ap (k:=0) hc0)) ?_;refine ac ?_;refine Ch.cs 91 rfl ?_ ?_<;>intro h16 q16
 refine ac ?_;refine wk [95] rfl ?_;refine ac ?_;refine ac ?_
 .exact Yb
 refine ac ?_;refine wk [95] rfl ?_;refine Tr.cn rfl ?_ ?_<;>intro PK pR
 refine ac ?_;refine ac ?_
 .exact G1
 refine ac ?_;refine ac ?_;refine ac ?_
 .refine int_eq (if_pos (Fz.2 ⟨hq1,WW,hq3,hq4,hq5,hq6,AW,by rw[fH];omega,by omega⟩)).symm
theorem Zd{x:Od}  :Aq prog 103 [agg (Ht x)] (int (if HG x then 0 else 30)):=by
 refine fo func103 rfl ⟨rfl,rfl⟩ fun M0 w0=>?_;refine ac ?_;refine wk [1] rfl (Tr.Sf [1] [] ((named x.name=true/\(x.kind=1\/x.kind=2)/\1<=x.HS/\x.HS<=4)/\1<=x.links.length/\x.links.length<=8/\(x.links[0]?.getD E7).day<=x.Me/\x.Me<=40000) ?_ (fun hpre=>?_));refine ac ?_;refine co rfl (BS (HP) rfl rfl) ?_;refine ag ?_ ?_<;>intro h2 q2
 refine ac ?_;refine wk [54,1] rfl ?_;refine a2 ?_
 .exact jQ
 refine ag ?_ ?_<;>intro h3 q3
 refine ag ?_ ?_<;>intro h4 q4
 refine ac ?_;refine wk [54,1] rfl ?_;refine a2 ?_
 .exact G1
 refine ag ?_ ?_<;>intro h5 q5
 refine ac ?_;refine wk [54,1] rfl ?_;refine a2 ?_
 .exact G1
 refine ag ?_ ?_<;>intro h6 q6
 refine ac ?_;refine wk [54,1] rfl ?_;refine a2 ?_
 .exact G1
 refine ag ?_ ?_<;>intro h7 q7
 refine ac ?_;refine wk [54,1] rfl ?_;refine a2 ?_
 .exact G1
 refine ag ?_ ?_<;>intro h8 q8
 refine ac ?_;refine wk [54,1] rfl ?_;refine a2 ?_
 .exact G1
 refine ag ?_ ?_<;>intro h9 q9
 refine ac ?_;refine wk [54,1] rfl ?_;refine a2 ?_
 .exact G1
 obtain⟨c0,hc0⟩:=at_ (l:=x.links) (k:=0) AA;have fH:=getD_at (d:=E7) hc0;refine ac ?_;refine cy h9 rfl (AD rfl underlying83 HE vq vq AA (Ap (k:=0) hc0)) ?_;refine ac ?_;refine wk [54,1] rfl ?_;refine Tr.cn rfl ?_ ?_<;>intro h10 NT
 refine a2 ?_
 .exact Yb
 refine Tr.skip ?_;exact Fin.AP () ⟨⟨by simp_all,by omega,by omega,by omega⟩,by omega,by omega,by rw[fH];omega,by omega⟩ kz;refine ag ?_ ?_<;>intro h11 Rl
 refine ac ?_;refine wk [54,1] rfl ?_;refine a2 ?_
 .exact G1
 refine ag ?_ ?_<;>intro h12 Tn
 refine ac ?_;refine wk [54,1] rfl ?_;refine a2 ?_
 .exact G1
 refine ag ?_ ?_<;>intro LX YN
 refine ac ?_;refine wk [54,1] rfl ?_;refine a2 ?_
 .exact G1
 refine ag ?_ ?_<;>intro MW mY
 refine ac ?_;refine wk [54,1] rfl ?_;refine a2 ?_
 .exact G1
 refine ag ?_ ?_<;>intro Ss pS
 refine ac ?_;refine wk [54,1] rfl ?_;refine a2 ?_
 .exact G1
 obtain⟨c0,hc0⟩:=at_ (l:=x.links) (k:=0) AA;have fH:=getD_at (d:=E7) hc0;refine ac ?_;refine cy Ss rfl (AD rfl underlying83 HE vq vq AA (Ap (k:=0) hc0)) ?_;refine ac ?_;refine wk [54,1] rfl ?_;refine Tr.cn rfl ?_ ?_<;>intro h16 q16
 refine a2 ?_
 .exact Yb
 refine Tr.skip ?_;exact Fin.AP () ⟨⟨by simp_all,by omega,by omega,by omega⟩,by omega,by omega,by rw[fH];omega,by omega⟩ kz;obtain⟨⟨hq1,WW,hq3,hq4⟩,hq5,hq6,hq7,hq8⟩:=hpre;refine ac ?_;refine Tr.block (Tr.BV _ (kk [1] rfl) (fun k:Nat=>[(3,int ((k:Nat):Int))]) (fun k:Nat=>k<=(x.links).length/\(∀j,j<k->FZ x.links j=true)) (fun k:Nat=>(x.links).length-k) 0 (⟨Nat.zero_le _,fun j hj=>absurd hj AA⟩) kz ?_);rintro k ⟨BN,AW⟩;refine an ?_ ?_<;>intro PK pR
 have Ae:k<(x.links).length:=AQ PK;obtain⟨c,Ad⟩:=at_ Ae;have hg:=getD_at (d:=E7) Ad;refine a2 ?_;refine co rfl (AD rfl underlying83 HE vq vq AA (Ap Ad)) ?_;refine ac ?_;refine co rfl (BS (NU) rfl rfl) ?_;refine ag ?_ ?_<;>intro Sa q18
 refine ac ?_;refine wk [107,3,1] rfl ?_;refine a2 ?_
 .exact N4
 refine ac ?_;refine cy Sa rfl (AD rfl underlying83 HE vq vq AA (Ap Ad)) ?_;refine ag ?_ ?_<;>intro jA q19
 refine ac ?_;refine wk [107,3,1] rfl ?_;refine a2 ?_
 .exact N4
 refine ac ?_;refine cy jA rfl (AD rfl underlying83 HE vq vq AA (Ap Ad)) ?_;refine ag ?_ ?_<;>intro Pf q20
 refine ac ?_;refine wk [107,3,1] rfl ?_;refine a2 ?_
 .exact N4
 refine ag ?_ ?_<;>intro cR q21
 have hk0:0<k:=by simpa using cR
 obtain⟨y,hy⟩:=at_ (l:=x.links) (k:=k-1) AA;have Le:=getD_at (d:=E7) hy
 .repeat' first|(refine int_eq (if_neg (fun hv=>?_)).symm;have ok:=Fz.1 hv;have o1:=ok.name;have o2:=ok.kind;have o3:=ok.p1;have o4:=ok.p4;have o5:=ok.l1;have o6:=ok.l8;have o7:=ok.u0;have o8:=ok.u1;(have h_:=ok.lnk k AA;unfold FZ at h_;rw[hg,Le]at h_;simp_all;omega))|(exact Fin.AP (k+1) ⟨⟨Ae,Bx AW (by unfold FZ;rw[hg,Le];simp_all)⟩,by omega⟩ ⟨⟨_,rfl,AK k⟩,kz⟩)|(refine cy cR rfl (AD rfl underlying83 HE vq vq AA F2) ?_)|refine cy cR rfl (AD rfl underlying83 HE vq vq AA (Ap Ad)) ?_|refine ac ?_|(refine Tr.cn rfl ?_ ?_<;>intro h q)
 have J2:¬0<k:=by simpa using cR
 refine ac ?_;refine wk [107,3,1] rfl ?_;refine a2 ?_;exact Fin.AP (k+1) ⟨⟨Ae,Bx AW (by unfold FZ;rw[hg];simp_all)⟩,by omega⟩ ⟨⟨_,rfl,AK k⟩,kz⟩;have BA:k=(x.links).length:=by have:=AU PK;omega
 subst BA;refine a3 ?_
 .refine int_eq (if_pos (Fz.2 ⟨hq1,WW,hq3,hq4,hq5,hq6,AW,by omega,by omega⟩)).symm
theorem nC{l:List PR}{n:Nat}  :Aq prog 76 [GO l,int ((n:Nat):Int)] (bool (JH n l)):=by
 refine fo func76 rfl ⟨rfl,rfl⟩ fun M0 w0=>(Tr.Dr 0 rfl fun Dq=>?_);refine ac ?_;refine ac ?_;refine Tr.block (Tr.BV _ (kk [8,7,1,0] rfl) (fun k:Nat=>[(9,int ((k:Nat):Int))]) (fun k:Nat=>k<=(l).length/\(∀j,j<k->DO n l j=true)) (fun k:Nat=>(l).length-k) 0 (⟨Nat.zero_le _,fun j hj=>absurd hj AA⟩) kz ?_);rintro k ⟨BN,AW⟩;refine ac ?_;refine Tr.seq ?_;refine Tr.cn rfl ?_ ?_<;>intro h1 q1
 have Ae:k<(l).length:=AQ h1;obtain⟨c,Ad⟩:=at_ Ae;have hg:=getD_at (d:=FD) Ad;refine ac ?_;refine ao ?_;refine tp rfl (AD rfl underlying29 I0 vq vq AA (Ap Ad)) (tp rfl (AO rfl kG I0 vq rfl rfl) ?_);refine Tl rfl rfl rfl rfl z82 fC (fun b1=>?_);refine tm rfl ?_;refine sf 0 6 ⟨rfl,rfl,rfl⟩ rfl rfl rfl rfl ?_;refine ao ?_;refine ac ?_;refine Ch.cs 17 rfl ?_ ?_<;>intro h2 q2
 refine ac ?_;refine wk [40,9,8,7,6,5,1,0] rfl ?_;refine ac ?_;refine ac ?_
 .exact UM
 refine ac ?_;refine Ch.cs 23 rfl ?_ ?_<;>intro h3 q3
 refine ac ?_;refine wk [40,9,8,7,6,5,1,0] rfl ?_;refine ac ?_;refine ac ?_
 .exact UM
 refine ac ?_;refine Ch.cs 28 rfl ?_ ?_<;>intro h4 q4
 refine ac ?_;refine wk [40,9,8,7,6,5,1,0] rfl ?_;refine ac ?_;refine ac ?_
 .exact UM
 refine ac ?_;refine Ch.cs 34 rfl ?_ ?_<;>intro h5 q5
 refine ac ?_;refine wk [40,9,8,7,6,5,1,0] rfl ?_;refine ac ?_;refine ac ?_
 .exact UM
 refine ac ?_;refine wk [40,9,8,7,6,5,1,0] rfl ?_;refine Tr.cn rfl ?_ ?_<;>intro h6 q6
 refine ac ?_;refine ac ?_
 .refine bool_eq ?_;unfold JH;rw[EW (p:=DO n l) (k:=k) AA Uh];rfl
 refine ac ?_;refine ac ?_;refine Ch.cs 43 rfl ?_ ?_<;>intro h7 q7
 have hk0:0<k:=by simpa using h7
 obtain⟨y,hy⟩:=at_ (l:=l) (k:=k-1) AA;have Le:=getD_at (d:=FD) hy;refine ac ?_;refine cy h7 rfl (AD rfl underlying29 I0 vq vq AA F2) ?_;refine ac ?_;refine Ch.cs 53 rfl ?_ ?_<;>intro h8 q8
 refine ac ?_;refine wk [75,9,8,7,1,0] rfl ?_;refine ac ?_;refine ac ?_
 .exact aN
 refine ac ?_;refine cy h8 rfl (AD rfl underlying29 I0 vq vq AA F2) ?_;refine ac ?_;refine Ch.cs 63 rfl ?_ ?_<;>intro h9 q9
 refine ac ?_;refine cy h9 rfl (AD rfl underlying29 I0 vq vq AA F2) ?_;refine ac ?_;refine wk [75,9,8,7,1,0] rfl ?_;refine Tr.cn rfl ?_ ?_<;>intro h10 NT
 refine ac ?_;refine ac ?_
 .exact aN
 refine ac ?_;refine ac ?_;exact Fin.AP (k+1) ⟨⟨Ae,Bx AW (by unfold DO;rw[hg,Le];simp_all)⟩,by omega⟩ ⟨⟨_,rfl,AK k⟩,kz⟩;refine ac ?_;refine wk [75,9,8,7,1,0] rfl ?_;refine ac ?_;refine ac ?_;exact Fin.AP (k+1) ⟨⟨Ae,Bx AW av⟩,by omega⟩ ⟨⟨_,rfl,AK k⟩,kz⟩;have J2:¬0<k:=by simpa using h7
 refine ac ?_;refine wk [75,9,8,7,1,0] rfl ?_;refine ac ?_;refine ac ?_;exact Fin.AP (k+1) ⟨⟨Ae,Bx AW Uh⟩,by omega⟩ ⟨⟨_,rfl,AK k⟩,kz⟩;have BA:k=(l).length:=by have:=AU h1;omega
 subst BA;refine ac ?_;refine ac ?_;refine ac ?_
 .refine bool_eq ?_;unfold JH;rw[KQ AW,Bool.true_and,decide_eq_decide];omega
structure Es where
 Bu:List DY
 BR:List PR
 items:List Od
 deriving DecidableEq
abbrev CF(e:Es):List Pr:=[AGq e.Bu,GO e.BR,LZ e.items]
abbrev CN:Es:=⟨[],[],[]⟩
structure Es.fits(e:Es):Prop where
 Bu:∀x∈e.Bu,x.fits/\x.small
 items:∀x∈e.items,x.name.length<=maxLen
 le:e.Bu.length<=1000000000000
 lg:e.BR.length<=1000000000000
 li:e.items.length<=1000000000000
def Q3(l:List DY)(i:Nat):Bool:=B5 (l[i]?.getD BO)&&(decide (i=0)||decide (Lib.compareBytes (l[i-1]?.getD BO).name (l[i]?.getD BO).name= -1))
def EO(e:Es):Bool:=(allI (Q3 e.Bu) e.Bu.length&&decide (e.Bu.length<=16))&&JH e.Bu.length e.BR&&(e.items.all HG&&decide (e.items.length<=30))
structure vm(e:Es):Prop where
 ep:∀j,j<e.Bu.length->Q3 e.Bu j=true
 e16:e.Bu.length<=16
 ed:∀j,j<e.BR.length->DO e.Bu.length e.BR j=true
 e40:e.BR.length<=40
 it:e.items.all HG=true
 i30:e.items.length<=30
theorem F3{e:Es}:EO e=true↔vm e:=by
 unfold EO JH;simp only[Bool.and_eq_true,decide_eq_true_eq,B0];exact⟨fun⟨⟨⟨h1,h2⟩,h3,h4⟩,h5,h6⟩=>⟨h1,h2,h3,h4,h5,h6⟩,fun h=>⟨⟨⟨h.ep,h.e16⟩,h.ed,h.e40⟩,h.it,h.i30⟩⟩
theorem S4{e:Es}(h:vm e):JH e.Bu.length e.BR=true:=by unfold JH;simp only[Bool.and_eq_true,decide_eq_true_eq,B0];exact⟨h.ed,h.e40⟩
theorem yp{x:Od}(hx:x.name.length<=maxLen):Aq prog 74 [agg (Ht x)] (bool (!HG x)):=by
 refine fo func74 rfl ⟨rfl,rfl⟩ fun M0 w0=>?_;refine a2 ?_;refine co rfl (BS (gR hx) rfl rfl) ?_;refine a2 ?_
 .refine bool_eq ?_;cases h_:HG x<;>simp_all
theorem yq:Entry Tryz.prog 74:=⟨_,Tryz.func74,rfl,rfl⟩
theorem tO{α:Type}{g:α->Od}{l:List α}{p:α->Bool}  :Aq prog 146 [slice 5 (l.map fun x=>Ht (g x)),S7 prog (fun x:α=>[agg (Ht (g x))]) (fun x=>bool (p x))] (int (idx p l)):=by
 refine fo func146 rfl ⟨rfl,rfl⟩ fun M0 w0=>(Tr.Dr 0 rfl fun Dq=>?_);refine a2 ?_;refine Tr.block (Tr.BV _ (kk [7,1,0] rfl) (fun k:Nat=>[(8,int ((k:Nat):Int))]) (fun k:Nat=>k<=(l).length/\(∀j y,j<k->l[j]? =some y->p y=false)) (fun k:Nat=>(l).length-k) 0 (⟨Nat.zero_le _,fun j y hj=>absurd hj AA⟩) kz ?_);rintro k ⟨BN,AW⟩;refine ac ?_;refine Tr.seq ?_;refine Tr.cn rfl ?_ ?_<;>intro h1 q1
 have Ae:k<(l).length:=AQ h1;obtain⟨x,Ad⟩:=at_ Ae
 .repeat' first|exact int_eq (Dv Ad Cs AW)|exact Fin.AP (k+1) ⟨⟨Ae,C3 Ad Cs AW⟩,by omega⟩ ⟨⟨_,rfl,AK k⟩,kz⟩|refine co rfl (AD rfl underlying30 I2 vq vq AA DZ) ?_|refine co rfl (AO rfl TH I2 vq rfl rfl) (co rfl (GC x rfl vq kz) ?_)|refine ac ?_|(refine Tr.cn rfl ?_ ?_<;>intro h q)
 have BA:k=(l).length:=by have:=AU h1;omega
 subst BA;refine a3 ?_
 .exact K2
theorem tP{α:Type}{g:α->Od}{l:List α}{p:α->Bool}  :Aq prog 73 [slice 5 (l.map fun x=>Ht (g x)),S7 prog (fun x:α=>[agg (Ht (g x))]) (fun x=>bool (p x))] (bool (l.any p)):=by
 refine fo func73 rfl ⟨rfl,rfl⟩ fun M0 w0=>?_;refine a2 ?_;refine co rfl (CG (tO) rfl rfl rfl) ?_;refine a2 ?_
 .exact P8
theorem Ze{l:List Od}(h:∀x∈l,x.name.length<=maxLen):∃m:List {x:Od//x.name.length<=maxLen},(m.map fun x=>Ht x.1)=l.map Ht/\(m.any fun x=> !HG x.1)= !l.all HG:=by
 refine⟨l.attach.map fun x=>⟨x.1,h x.1 x.2⟩,?_,?_⟩
 .rw[List.map_map];exact List.attach_map_val (f:=Ht) ▸ rfl
 .
  rw[←cv,List.any_map];show(l.attach.any fun x=> !HG x.1)=_;rw[Bool.eq_iff_iff];simp
theorem FP{e:Es}(hf:e.fits):Aq prog 39 [agg (CF e)] (int (if EO e then 0 else 31)):=by
 refine fo func39 rfl ⟨rfl,rfl⟩ fun M0 w0=>?_;have hl1:=hf.le;have hl2:=hf.lg;have hl3:=hf.li;obtain⟨mi,AGt,wJ⟩:=Ze hf.items;refine ac ?_;refine ac ?_;refine Tr.block (Tr.BV _ (kk [8,7,1] rfl) (fun k:Nat=>[(9,int ((k:Nat):Int))]) (fun k:Nat=>k<=(e.Bu).length/\(∀j,j<k->Q3 e.Bu j=true)) (fun k:Nat=>(e.Bu).length-k) 0 (⟨Nat.zero_le _,fun j hj=>absurd hj AA⟩) kz ?_);rintro k ⟨BN,AW⟩;refine ac ?_;refine Tr.seq ?_;refine Tr.cn rfl ?_ ?_<;>intro h1 q1
 have Ae:k<(e.Bu).length:=AQ h1;obtain⟨x,Ad⟩:=at_ Ae;have hg:=getD_at (d:=BO) Ad;have hxf:=hf.Bu x (List.mem_of_getElem? Ad);refine ac ?_;refine ao ?_;refine tp rfl (AD rfl underlying28 Bj vq vq AA (Ap Ad)) (tp rfl (AO rfl Bw Bj vq rfl rfl) ?_);refine Tl rfl rfl rfl rfl HU Dn (fun b1=>?_);refine tm rfl ?_;refine sf 0 4 ⟨rfl,rfl,rfl⟩ rfl rfl rfl rfl ?_;refine ao ?_;refine ac ?_;refine co rfl (BS (Dj hxf.1) rfl rfl) ?_;refine ac ?_;refine Ch.cs 17 rfl ?_ ?_<;>intro h2 q2
 refine ac ?_;refine wk [32,9,8,7,1] rfl ?_;refine ac ?_;refine ac ?_
 .exact aL
 refine ac ?_;refine Ch.cs 20 rfl ?_ ?_<;>intro h3 q3
 have hk0:0<k:=by simpa using h3
 obtain⟨y,hy⟩:=at_ (l:=e.Bu) (k:=k-1) AA;have Le:=getD_at (d:=BO) hy;refine ac ?_;refine cy h3 rfl (AD rfl underlying28 Bj vq vq AA F2) ?_;refine ac ?_;refine cy h3 rfl (MH rfl vq vq) ?_;refine ac ?_;refine wk [32,9,8,7,1] rfl ?_;refine Tr.cn rfl ?_ ?_<;>intro h4 q4
 refine ac ?_;refine ac ?_
 .exact jd
 refine ac ?_;refine ac ?_;exact Fin.AP (k+1) ⟨⟨Ae,Bx AW (by unfold Q3;rw[hg,Le];simp_all)⟩,by omega⟩ ⟨⟨_,rfl,AK k⟩,kz⟩;have J2:¬0<k:=by simpa using h3
 refine ac ?_;refine wk [32,9,8,7,1] rfl ?_;refine ac ?_;refine ac ?_;exact Fin.AP (k+1) ⟨⟨Ae,Bx AW (by unfold Q3;rw[hg];simp_all)⟩,by omega⟩ ⟨⟨_,rfl,AK k⟩,kz⟩;have BA:k=(e.Bu).length:=by have:=AU h1;omega
 subst BA;have nD:=AW;refine ac ?_;refine ac ?_;refine co rfl (Aa rfl (tP (g:=fun x:{x:Od//x.name.length<=maxLen}=>x.1) (l:=mi) (p:=fun x=> !HG x.1)) ⟨⟨_,rfl,Pr.le_of_eq (by rw[AGt])⟩,⟨_,rfl,DM (dom:=fun x:{x:Od//x.name.length<=maxLen}=>[agg (Ht x.1)]) (res:=fun x=>bool (!HG x.1)) yq (fun x=>yp x.2)⟩,trivial⟩) ?_;refine ac ?_;refine ac ?_;refine Ch.cs 38 rfl ?_ ?_<;>intro h5 q5
 refine ac ?_;refine wk [58] rfl ?_;refine ac ?_;refine ac ?_
 .exact jW
 refine ac ?_;refine Ch.cs 44 rfl ?_ ?_<;>intro h6 q6
 refine ac ?_;refine wk [58] rfl ?_;refine ac ?_;refine ac ?_
 .exact Qy
 refine ac ?_;refine Ch.cs 50 rfl ?_ ?_<;>intro h7 q7
 refine ac ?_;refine wk [58] rfl ?_;refine ac ?_;refine ac ?_
 .exact Qy
 refine ac ?_;refine cy h7 rfl (CG (nC (l:=e.BR) (n:=e.Bu.length)) rfl rfl rfl) ?_;refine ac ?_;refine wk [58] rfl ?_;refine Tr.cn rfl ?_ ?_<;>intro h8 q8
 refine ac ?_;refine ac ?_
 .exact jW
 refine ac ?_;refine ac ?_;refine ac ?_
 .refine int_eq (if_pos ?_).symm;unfold EO;simp_all [B0];omega
theorem Mf{e:Es}(hf:e.fits):Aq prog 58 [agg (CF e)] (int (if EO e then 0 else 31)):=by
 refine fo func58 rfl ⟨rfl,rfl⟩ fun M0 w0=>?_;have hl1:=hf.le;have hl2:=hf.lg;have hl3:=hf.li;refine ac ?_;refine ac ?_;refine Ch.cs 11 rfl ?_ ?_<;>intro h1 q1
 refine ac ?_;refine wk [22,1] rfl ?_;refine ac ?_;refine ac ?_
 .exact Qy
 refine ac ?_;refine Ch.cs 17 rfl ?_ ?_<;>intro h2 q2
 refine ac ?_;refine wk [22,1] rfl ?_;refine ac ?_;refine ac ?_
 .exact Qy
 refine ac ?_;refine wk [22,1] rfl ?_;refine Tr.cn rfl ?_ ?_<;>intro h3 q3
 refine ac ?_;refine ac ?_
 .exact Qy
 refine ac ?_;refine ac ?_;refine Tr.block (Tr.BV _ (kk [1] rfl) (fun k:Nat=>[(3,int ((k:Nat):Int))]) (fun k:Nat=>k<=(e.Bu).length/\(∀j,j<k->Q3 e.Bu j=true)) (fun k:Nat=>(e.Bu).length-k) 0 (⟨Nat.zero_le _,fun j hj=>absurd hj AA⟩) kz ?_);rintro k ⟨BN,AW⟩;refine ac ?_;refine Tr.cn rfl ?_ ?_<;>intro h4 q4
 have Ae:k<(e.Bu).length:=AQ h4;obtain⟨x,Ad⟩:=at_ Ae;have hg:=getD_at (d:=BO) Ad;have hxf:=hf.Bu x (List.mem_of_getElem? Ad);refine ac ?_;refine ac ?_;refine co rfl (AD rfl underlying28 Bj vq vq AA (Ap Ad)) (co rfl (AO rfl Bw Bj vq rfl rfl) (co rfl (BS (JA hxf.2) rfl rfl) ?_));refine ac ?_;refine Ch.cs 37 rfl ?_ ?_<;>intro h5 q5
 refine ac ?_;refine wk [56,3,1] rfl ?_;refine ac ?_;refine ac ?_
 .exact aL
 refine ac ?_;refine Ch.cs 40 rfl ?_ ?_<;>intro h6 q6
 have hk0:0<k:=by simpa using h6
 obtain⟨y,hy⟩:=at_ (l:=e.Bu) (k:=k-1) AA;have Le:=getD_at (d:=BO) hy;refine ac ?_;refine cy h6 rfl (AD rfl underlying28 Bj vq vq AA F2) ?_;refine ac ?_;refine cy h6 rfl (AD rfl underlying28 Bj vq vq AA (Ap Ad)) ?_;refine ac ?_;refine cy h6 rfl (MH rfl vq vq) ?_;refine ac ?_;refine wk [56,3,1] rfl ?_;refine Tr.cn rfl ?_ ?_<;>intro h7 q7
 refine ac ?_;refine ac ?_
 .exact jd
 refine ac ?_;refine ac ?_;exact Fin.AP (k+1) ⟨⟨Ae,Bx AW (by unfold Q3;rw[hg,Le];simp_all)⟩,by omega⟩ ⟨⟨_,rfl,AK k⟩,kz⟩;have J2:¬0<k:=by simpa using h6
 refine ac ?_;refine wk [56,3,1] rfl ?_;refine ac ?_;refine ac ?_;exact Fin.AP (k+1) ⟨⟨Ae,Bx AW (by unfold Q3;rw[hg];simp_all)⟩,by omega⟩ ⟨⟨_,rfl,AK k⟩,kz⟩;have BA:k=(e.Bu).length:=by have:=AU h4;omega
 subst BA;have nD:=AW;refine ac ?_;refine ac ?_;refine Tr.block (Tr.BV _ (kk [1] rfl) (fun m:Nat=>[(4,int ((m:Nat):Int))]) (fun m:Nat=>m<=(e.BR).length/\(∀j,j<m->DO e.Bu.length e.BR j=true)) (fun m:Nat=>(e.BR).length-m) 0 (⟨Nat.zero_le _,fun j hj=>absurd hj AA⟩) kz ?_);rintro m ⟨dQ,Gl⟩;refine ac ?_;refine Tr.cn rfl ?_ ?_<;>intro h8 q8
 have Kj:m<(e.BR).length:=AQ h8;obtain⟨c,Gm⟩:=at_ Kj;have hg:=getD_at (d:=FD) Gm;refine ac ?_;refine ao ?_;refine tp rfl (AD rfl underlying29 I0 vq vq AA (Ap Gm)) (tp rfl (AO rfl kG I0 vq rfl rfl) ?_);refine Tl rfl rfl rfl rfl z82 fC (fun b1=>?_);refine sf 0 5 ⟨rfl,rfl,rfl⟩ rfl rfl rfl rfl ?_;refine ao ?_;refine wk [5,4,1] rfl ?_;refine ac ?_;refine Ch.cs 72 rfl ?_ ?_<;>intro h9 q9
 refine ac ?_;refine wk [99,5,4,1] rfl ?_;refine ac ?_;refine ac ?_
 .exact UK
 refine ac ?_;refine Ch.cs 80 rfl ?_ ?_<;>intro h10 NT
 refine ac ?_;refine wk [99,5,4,1] rfl ?_;refine ac ?_;refine ac ?_
 .exact UK
 refine ac ?_;refine Ch.cs 85 rfl ?_ ?_<;>intro h11 Rl
 refine ac ?_;refine wk [99,5,4,1] rfl ?_;refine ac ?_;refine ac ?_
 .exact UK
 refine ac ?_;refine Ch.cs 93 rfl ?_ ?_<;>intro h12 Tn
 refine ac ?_;refine wk [99,5,4,1] rfl ?_;refine ac ?_;refine ac ?_
 .exact UK
 refine ac ?_;refine wk [99,5,4,1] rfl ?_;refine Tr.cn rfl ?_ ?_<;>intro LX YN
 refine ac ?_;refine ac ?_
 .refine int_eq (if_neg (fun hv=>?_)).symm;have ok:=F3.1 hv;(have h_:=ok.ed m AA;unfold DO at h_;rw[hg]at h_;simp_all)
 refine ac ?_;refine ac ?_;refine Ch.cs 102 rfl ?_ ?_<;>intro MW mY
 have hk0:0<m:=by simpa using MW
 obtain⟨y,hy⟩:=at_ (l:=e.BR) (k:=m-1) AA;have Le:=getD_at (d:=FD) hy;refine ac ?_;refine cy MW rfl (AD rfl underlying29 I0 vq vq AA UU) ?_;refine ac ?_;refine Ch.cs 113 rfl ?_ ?_<;>intro Ss pS
 refine ac ?_;refine wk [137,4,1] rfl ?_;refine ac ?_;refine ac ?_
 .exact jZ
 refine ac ?_;refine cy Ss rfl (AD rfl underlying29 I0 vq vq AA UU) ?_;refine ac ?_;refine Ch.cs 124 rfl ?_ ?_<;>intro h16 q16
 refine ac ?_;refine cy h16 rfl (AD rfl underlying29 I0 vq vq AA UU) ?_;refine ac ?_;refine wk [137,4,1] rfl ?_;refine Tr.cn rfl ?_ ?_<;>intro PK pR
 refine ac ?_;refine ac ?_
 .exact jZ
 refine ac ?_;refine ac ?_;exact Fin.AP (m+1) ⟨⟨Kj,Bx Gl (by unfold DO;rw[hg,Le];simp_all)⟩,by omega⟩ ⟨⟨_,rfl,AK m⟩,kz⟩;refine ac ?_;refine wk [137,4,1] rfl ?_;refine ac ?_;refine ac ?_;exact Fin.AP (m+1) ⟨⟨Kj,Bx Gl av⟩,by omega⟩ ⟨⟨_,rfl,AK m⟩,kz⟩;have J2:¬0<m:=by simpa using MW
 refine ac ?_;refine wk [137,4,1] rfl ?_;refine ac ?_;refine ac ?_;exact Fin.AP (m+1) ⟨⟨Kj,Bx Gl Uh⟩,by omega⟩ ⟨⟨_,rfl,AK m⟩,kz⟩;have Vs:m=(e.BR).length:=by have:=AU h8;omega
 subst Vs;refine ac ?_;refine ac ?_;refine Tr.block (Tr.BV _ (kk [1] rfl) (fun o:Nat=>[(6,int ((o:Nat):Int))]) (fun o:Nat=>o<=(e.items).length/\(∀j y,j<o->e.items[j]? =some y->(!HG y)=false)) (fun o:Nat=>(e.items).length-o) 0 (⟨Nat.zero_le _,fun j y hj=>absurd hj AA⟩) kz ?_);rintro o ⟨ADT,Md⟩;refine ac ?_;refine Tr.cn rfl ?_ ?_<;>intro Sa q18
 have gM:o<(e.items).length:=AQ Sa;obtain⟨x,UP⟩:=at_ gM;refine ac ?_;refine ac ?_;refine co rfl (AD rfl underlying30 I2 vq vq AA (Ap UP)) (co rfl (AO rfl TH I2 vq rfl rfl) (co rfl (BS (Zd) rfl rfl) ?_));refine ac ?_;refine wk [151,6,1] rfl ?_;refine Tr.cn rfl ?_ ?_<;>intro jA q19
 refine ac ?_;refine ac ?_
 .refine int_eq (if_neg (fun hv=>?_)).symm;have ok:=F3.1 hv;(have h_:=List.all_eq_true.1 ok.it x (List.mem_of_getElem? UP);simp_all)
 refine ac ?_;refine ac ?_;exact Fin.AP (o+1) ⟨⟨gM,C3 (p:=fun c=> !HG c) UP CU Md⟩,by omega⟩ ⟨⟨_,rfl,AK o⟩,kz⟩;have yh:o=(e.items).length:=by have:=AU Sa;omega
 subst yh;have hall:=GK Md;refine ac ?_;refine ac ?_;refine ac ?_
 .refine int_eq (if_pos (F3.2 ⟨nD,by omega,Gl,by omega,hall,by omega⟩)).symm
def setAt(n:Int)(l:List Int)(i:Nat):Bool:=decide (0<=l[i]?.getD 0)&&decide (l[i]?.getD 0<n)&&(decide (i=0)||decide (l[i-1]?.getD 0<l[i]?.getD 0))
def D6(n:Int)(l:List Int):Bool:=allI (setAt n l) l.length
theorem R6{n:Int}:Aq prog 80 [ints l,int n] (bool (D6 n l)):=by
 refine fo func80 rfl ⟨rfl,rfl⟩ fun M0 w0=>(Tr.Dr 0 rfl fun Dq=>?_);refine a2 ?_;refine Tr.block (Tr.BV _ (kk [8,7,1,0] rfl) (fun k:Nat=>[(9,int ((k:Nat):Int))]) (fun k:Nat=>k<=(l).length/\(∀j,j<k->setAt n l j=true)) (fun k:Nat=>(l).length-k) 0 (⟨Nat.zero_le _,fun j hj=>absurd hj AA⟩) kz ?_);rintro k ⟨BN,AW⟩;refine ac ?_;refine Tr.seq ?_;refine Tr.cn rfl ?_ ?_<;>intro h1 q1
 have Ae:k<(l).length:=AQ h1;obtain⟨x,Ad⟩:=at_ Ae;have hg:=getD_at (d:=(0:Int)) Ad;refine a2 ?_;refine co rfl (AD rfl underlying50 C4 vq vq AA (Ap Ad)) ?_;refine ac ?_;refine ag ?_ ?_<;>intro h2 q2
 refine ac ?_;refine wk [33,9,8,7,1,0] rfl ?_;refine a2 ?_
 .exact aQ
 refine ag ?_ ?_<;>intro h3 q3
 refine ac ?_;refine wk [33,9,8,7,1,0] rfl ?_;refine a2 ?_
 .exact aQ
 refine ag ?_ ?_<;>intro h4 q4
 have hk0:0<k:=by simpa using h4
 obtain⟨y,hy⟩:=at_ (l:=l) (k:=k-1) AA;have Le:=getD_at (d:=(0:Int)) hy
 .repeat' first|(refine bool_eq ?_;unfold D6;rw[EW (p:=setAt n l) (k:=k) AA (by unfold setAt;rw[hg,Le];simp_all;omega)])|(exact Fin.AP (k+1) ⟨⟨Ae,Bx AW (by unfold setAt;rw[hg,Le];simp_all)⟩,by omega⟩ ⟨⟨_,rfl,AK k⟩,kz⟩)|(refine cy h4 rfl (AD rfl underlying50 C4 vq vq AA F2) ?_)|refine ac ?_|(refine Tr.cn rfl ?_ ?_<;>intro h q)
 have J2:¬0<k:=by simpa using h4
 refine ac ?_;refine wk [33,9,8,7,1,0] rfl ?_;refine a2 ?_;exact Fin.AP (k+1) ⟨⟨Ae,Bx AW (by unfold setAt;rw[hg];simp_all)⟩,by omega⟩ ⟨⟨_,rfl,AK k⟩,kz⟩;have BA:k=(l).length:=by have:=AU h1;omega
 subst BA;refine a3 ?_
 .refine bool_eq ?_;unfold D6;rw[KQ AW]
theorem dR{v:Int}:Aq prog 37 [ints l,int v] (bool (l.any fun x=>v==x)):=by
 refine fo func37 rfl ⟨rfl,rfl⟩ fun M0 w0=>(Tr.Dr 0 rfl fun Dq=>?_);refine a2 ?_;refine Tr.block (Tr.BV _ (kk [8,7,1] rfl) (fun k:Nat=>[(9,int ((k:Nat):Int))]) (fun k:Nat=>k<=(l).length/\((l.take k).any (fun x=>v==x)=false)) (fun k:Nat=>(l).length-k) 0 (⟨Nat.zero_le _,rfl⟩) kz ?_);rintro k ⟨BN,AW⟩;refine ac ?_;refine Tr.seq ?_;refine Tr.cn rfl ?_ ?_<;>intro h1 q1
 have Ae:k<(l).length:=AQ h1;obtain⟨x,Ad⟩:=at_ Ae;refine ac ?_;refine Tr.seq (Tr.block (Tr.seq (Tr.Bo (co rfl (AD rfl underlying22 C4 vq vq AA (Ap Ad)) ?_))))
 .repeat' first|(refine bool_eq ?_;symm;rw[List.any_eq_true];exact⟨_,List.mem_of_getElem? Ad,by simp_all⟩)|(exact Fin.AP (k+1) ⟨⟨Ae,bL⟩,by omega⟩ ⟨⟨_,rfl,AK k⟩,kz⟩)|refine ac ?_|(refine Tr.cn rfl ?_ ?_<;>intro h q)
 have BA:k=(l).length:=by have:=AU h1;omega
 subst BA;refine a3 ?_
 .exact UZ
structure Es.sz(e:Es)(n:Nat):Prop where
 Bu:∀x∈e.Bu,x.sz n
 items:∀x∈e.items,x.name.length<=maxLen/\x.links.length<=1000000
 le:e.Bu.length<=1000000
 lg:e.BR.length<=1000000
 li:e.items.length<=1000000
theorem Es.sz.fits{e:Es}{n:Nat}(h:e.sz n)(hn:n<=1000000):e.fits:=
 ⟨fun x hx=>⟨(h.Bu x hx).fits,(h.Bu x hx).small hn⟩,fun x hx=>(h.items x hx).1,by have:=h.le;omega,by have:=h.lg;omega,by have:=h.li;omega⟩
theorem dS{β γ:Type}{f:β->γ}{l:List β}{x:β}(h:l[k]? =some x):(l.take k).map f++[f x]=(l.take (k+1)).map f:=by rw[List.take_add_one,h,List.map_append];rfl
theorem gS{e:Es}{n:Nat}(hz:e.sz n)(hn:n<=1000000):KR prog 99 [agg (CF e)] (fun x=>agg [is x,GO e.BR,LZ e.items]) (fun x=>[An 73 9 (e.Bu.map As) x]):=by
 refine KR.of func99 rfl rfl Ag fun M0 w0 S rs M1 w1=>?_;have hl1:=hz.le;have hl2:=hz.lg;have hl3:=hz.li;refine Tr.seq (Tr.At (tp rfl (BE rfl CM) ?_));refine Tl rfl rfl rfl rfl z32 Iz (fun b1=>?_);refine ao ?_;refine ao ?_;refine tp rfl (cT rfl underlying29 I0 wg z82 rfl AB vq vq J7 J8) ?_;refine tp rfl (oD) ?_;refine Tl rfl rfl rfl rfl z32 Iz (fun b2=>?_);refine TO.Ac 0 rfl rfl rfl vq CM rfl Et rfl rfl ?_;refine ao ?_;refine ac ?_;refine wk [16,15,14,3,2,1] rfl (Tr.block (Tr.Hx 0 [Aj (.slice none 0 0) (lens ((e.Bu.take 0).map As).length),GO e.BR,is (.slice none 0 0)] rfl ⟨I4 rfl,Pr.le_of_eq rfl,Lr,trivial⟩ (Tr.MJ 73 9 (Tr.Ez _ (kk [15,14,3,2,1] rfl) (fun k v=>[(16,int ((k:Nat):Int))]) (fun k v=>Hp M0 w0 S (Ax 73 9 ((e.Bu.take k).map As) v::AE true b2 32 [Aj v (lens ((e.Bu.take k).map As).length),GO e.BR,is (.slice none 0 0)]::AE true b1 32 (([.slice none 0 0,.slice none 0 0,.slice none 0 0]:List Value).map is)::Ao M1 w1::rs)) (fun k:Nat=>k<=(e.Bu).length) (fun k:Nat=>(e.Bu).length-k) 0 (.slice none 0 0) (Nat.zero_le _) kz (fun _ _ h=>h) ?_))));rintro k v BN;refine ac ?_;refine Tr.seq ?_;refine Tr.cn rfl ?_ ?_<;>intro h1 q1
 have Ae:k<(e.Bu).length:=AQ h1;obtain⟨x,Ad⟩:=at_ Ae;have hxs:=(hz.Bu x (List.mem_of_getElem? Ad)).small hn;refine ac ?_;refine Tr.seq (Tr.block (Tr.seq (Tr.At (tp rfl (AD rfl underlying28 Bj vq vq AA DZ) ?_))));refine tp rfl (AO rfl Bw Bj vq rfl rfl) ?_;refine Tl rfl rfl rfl rfl HU Dn (fun b3=>?_);refine sf 0 5 ⟨rfl,rfl,rfl⟩ rfl rfl rfl rfl ?_;refine ao ?_;refine Tr.pad (Tr.rx ?_);refine ax ?_;refine xo rfl (fun _=>BS (XN hxs) rfl rfl) (xo rfl (fun _=>AX (xs:=[.tmp 23]) (rows:=[_]) rfl rfl underlying28 Bj HU rfl AB ⟨⟨Ab,(Va rfl)⟩,trivial⟩ AB) ?_);refine Cx.ef 1 rfl rfl AB (DN rfl rfl AB rfl underlying28 Bj qK HU rfl AB AB (vl rfl) (Kf rfl) (Ar fun _=>rfl) (Nat.zero_lt_succ _) aW au) ?_;refine xo rfl (fun _=>AG rfl KJ vq) (Cx.ED 2 rfl rfl (EL rfl rfl rfl vq rfl qI Ag) ?_);refine Cx.nil ⟨by kernel_rfl,?_⟩;refine BG.RN 1 2 25 rfl rfl AB rfl (fun v1=>?_);refine BG.done al5 ?_;refine ac ?_;refine Tr.drop 0 (wk [16,15,14,3,2,1] rfl ?_);refine ac ?_;refine Fin.Hx 1 [Aj v1 (lens ((e.Bu.take (k+1)).map As).length),GO e.BR,is (.slice none 0 0)] rfl ⟨CT L1,Lr,Lr,trivial⟩ ?_;rw[dS (f:=As) Ad];exact Fin.EX (k+1) v1 (⟨Ae,by omega⟩) ⟨⟨_,rfl,AK k⟩,kz⟩ (fun _ _ h=>h);have BA:k=(e.Bu).length:=by have:=AU h1;omega
 subst BA;rw[List.take_length];refine a2 ?_;refine Tr.block (Tr.Hx 1 [Aj v (lens (e.Bu.map As).length),GO e.BR,Aj (.slice none 0 0) (LZ (e.items.take 0))] rfl ⟨Lr,Lr,DA rfl,trivial⟩ (Tr.Dt 85 5 (Tr.Ez _ (kk [30,29,3,2] rfl) (fun m u=>[(31,int ((m:Nat):Int))]) (fun m u=>Hp M0 w0 S (Bc 85 5 u::Ax 73 9 (e.Bu.map As) v::AE true b2 32 [Aj v (lens (e.Bu.map As).length),GO e.BR,Aj u (LZ (e.items.take m))]::AE true b1 32 (([.slice none 0 0,.slice none 0 0,.slice none 0 0]:List Value).map is)::Ao M1 w1::rs)) (fun m:Nat=>m<=(e.items).length) (fun m:Nat=>(e.items).length-m) 0 (.slice none 0 0) (Nat.zero_le _) kz (fun _ _ h=>h) ?_)));rintro m u dQ;refine ac ?_;refine Tr.seq ?_;refine Tr.cn rfl ?_ ?_<;>intro h2 q2
 have Kj:m<(e.items).length:=AQ h2;obtain⟨y,Gm⟩:=at_ Kj;have hyl:=(hz.items y (List.mem_of_getElem? Gm)).2;refine ac ?_;refine Tr.seq (Tr.block (Tr.seq (Tr.At (tp rfl (AD rfl underlying30 I2 vq vq AA DZ) ?_))));refine tp rfl (AO rfl TH I2 vq rfl rfl) ?_;refine Tl rfl rfl rfl rfl z85 fD (fun b4=>?_);refine TO.Ac 0 rfl rfl rfl vq CM rfl I2 rfl rfl ?_;refine ao ?_;refine ao ?_;refine tp rfl (cT rfl underlying83 HE kJ z127 rfl AB vq vq J7 J8) ?_;refine tp rfl (AG rfl U7 vq) (TO.ED 0 rfl rfl (BP rfl rfl vq Cf wm rfl Ag rfl) ?_);refine ao ?_;refine wk [31,30,29,7,3,2] rfl ?_;refine ao ?_;refine TO.EV 1 rfl rfl AB (Bp rfl rfl AB rfl underlying30 I2 qL z85 rfl AB Ij Ec J7 J8 (CA BW E4)) (fun v2=>?_);refine tp rfl (AG rfl MA vq) (TO.ED 3 rfl rfl (BP rfl rfl vq Cf qJ rfl Ag rfl) ?_);refine ao ?_;refine Tr.drop 0 ?_;refine ac ?_;refine Fin.Hx 2 [Aj v (lens (e.Bu.map As).length),GO e.BR,Aj v2 (LZ (e.items.take (m+1)))] rfl ⟨Lr,Lr,CZ (dS (f:=Ht) Gm),trivial⟩ (Fin.EX (m+1) v2 (⟨Kj,by omega⟩) ⟨⟨_,rfl,AK m⟩,kz⟩ (fun _ _ h=>h));have Vs:m=(e.items).length:=by have:=AU h2;omega
 subst Vs;refine ac ?_;refine ao ?_;refine TO.Ac 3 rfl rfl rfl vq CM rfl Et rfl rfl ?_;refine ao ?_;refine Tr.ret (Fin.Td 1 rfl (Fin.drop 0 (Fin.drop 1 (Fin.OR (Fin.fI v [_] rfl (AL.cell 0 rfl rfl E0 Et rfl Lr) ?_ (List.Perm.refl _))))))
 .exact aU
def J4(l:List DY)(c:Bl):List DY×Int:=
 if c.AZ<0\/((l.length:Nat):Int)<=c.AZ then(l,40)
 else match l[c.AZ.toNat]? with
  |none=>(l,40)
  |some x=>if(Cr x c).2.2=0 then(l.set c.AZ.toNat (Cr x c).1,0)else(l,(Cr x c).2.2)
theorem Vw{l:List DY}{c:Bl}(h:c.AZ<0\/((l.length:Nat):Int)<=c.AZ):J4 l c=(l,40):=if_pos h
theorem nE{l:List DY}{c:Bl}{x:DY}(h:¬(c.AZ<0\/((l.length:Nat):Int)<=c.AZ))(hx:l[c.AZ.toNat]? =some x):J4 l c=if(Cr x c).2.2=0 then(l.set c.AZ.toNat (Cr x c).1,0)else(l,(Cr x c).2.2):=by
 unfold J4;rw[if_neg h,hx]
theorem gT{l:List DY}{c:Bl}{n eb:Nat}{p1 p2:Pr}(hz:∀x∈l,x.sz n)(hn:n<=900000)(hl:l.length<=1000000)(hc:c.CO.fits/\c.CO.small):BC prog 100 [ptr eb 0,agg (B7 c)] [AE true eb 32 [is v,p1,p2],An 73 9 (l.map As) v] (int (J4 l c).2) [AE true eb 32 [is v,p1,p2],An 73 9 ((J4 l c).1.map As) v]:=by
 refine BC.of func100 rfl rfl Ag fun M0 w0 S rs M1 w1=>(Tr.seq ?_);have hml:(l.map As).length=l.length:=List.length_map _;refine ac ?_;refine ag ?_ ?_<;>intro h1 q1
 refine ac ?_;refine wk [19,3,0] rfl ?_;refine ac ?_;refine Tr.ret (Fin.AF ?_);rw[Vw (l:=l) (c:=c) AA];refine Fin.Cl rfl (AL.tmp rfl Lr) ?_ (List.Perm.refl _)
 .exact Lr
 refine ac ?_;refine cy h1 rfl (Bi 1 rfl (GJ rfl underlying28 vq)) ?_;refine ac ?_;refine wk [19,3,0] rfl ?_;refine Tr.cn rfl ?_ ?_<;>intro h2 q2
 have hA:=Vw (l:=l) (c:=c) AA;refine ac ?_;refine Tr.ret (Fin.AF ?_);rw[hA];refine Fin.Cl rfl (AL.tmp rfl Lr) ?_ (List.Perm.refl _)
 .exact Lr
 obtain⟨x,hx⟩:=at_ (l:=l) (k:=c.AZ.toNat) AA;have hA:=nE (l:=l) (c:=c) AA hx;have hlt:=A7 hx;refine ac ?_;refine Tr.seq (Tr.pad (Tr.rx ?_));refine ax ?_;refine Jv 2 rfl rfl (FH rfl underlying28 Bj vq vq AA Cg) ?_;refine Jv 2 rfl rfl (Fv rfl Bw Bj vq (Ar fun _=>rfl) Mv) ?_;refine xo rfl (fun _=>AO rfl Ck CD vq rfl rfl) ?_;refine xo rfl (fun _=>CG (gB (hz x (List.mem_of_getElem? hx)).fits ((hz x (List.mem_of_getElem? hx)).small AA) hc.1 hc.2) rfl rfl rfl) ?_;refine ax ?_;refine Cx.ef 0 rfl rfl AB (Gh rfl rfl AB rfl HU Dn) (Cx.ED 0 rfl rfl (Gi rfl rfl rfl rfl CM Bj rfl rfl) (xm rfl ?_));refine Cx.nil ⟨by kernel_rfl,?_⟩;refine BG.open_ 0 5 rfl rfl (fun v1=>?_);refine BG.done N1 (Fin.iq 5 0 _ rfl rfl (fun _=>rfl) (fun b1=>?_));refine Fin.go (wk [6,5,3,0] rfl ?_);refine an ?_ ?_<;>intro h3 q3
 rw[if_pos H9]at hA;refine Tr.rx ?_;refine ax ?_;refine Jv 2 rfl rfl (FH rfl underlying28 Bj vq vq AA Cg) ?_;refine Cx.ED 2 rfl rfl (E3 rfl rfl vq CM Bj rfl (Ar fun _=>rfl) Mv AB (show _=(l.set c.AZ.toNat (Cr x c).1).map As by rw[List.map_set];rfl)) ?_;refine Cx.nil ⟨by kernel_rfl,?_⟩;refine BG.done N1 (Fin.go (Tr.drop 0 (wk [6] rfl ?_)));refine ac ?_;refine Tr.ret ?_;rw[hA];refine Fin.Cl rfl (AL.tmp rfl Lr) ?_ (List.Perm.refl _)
 .exact FT
 rw[if_neg H9]at hA;refine ac ?_;refine Tr.drop 0 ?_;refine ac ?_;refine Tr.ret ?_;rw[hA];refine Fin.Cl rfl (AL.tmp rfl Lr) ?_ (List.Perm.refl _)
 .exact Lr
def Mg(l:List Bl):List Int->List DY->List DY×Int
 |[],Bu=>(Bu,0)
 |i::s,Bu=>match l[i.toNat]? with
  |none=>(Bu,0)
  |some c=>if(J4 Bu c).2=0 then Mg l s (J4 Bu c).1 else(Bu,(J4 Bu c).2)
def HY(e:Es)(l:List Bl)(s:List Int):Es×Int:=
 if EO e=false then(CN,31)
 else if 24<l.length then(CN,3)
 else if D6 l.length s=false then(CN,46)
 else if(Mg l s e.Bu).2=0 then(⟨(Mg l s e.Bu).1,e.BR,e.items⟩,0)else(CN,(Mg l s e.Bu).2)
theorem Tx{l:List Bl}{Bu:List DY}{i:Int}{c:Bl}(hi:s[k]? =some i)(hc:l[i.toNat]? =some c):Mg l (s.drop k) Bu=if(J4 Bu c).2=0 then Mg l (s.drop (k+1)) (J4 Bu c).1 else(Bu,(J4 Bu c).2):=by
 have hk:=A7 hi;rw[List.drop_eq_getElem_cons hk];rw[List.getElem?_eq_getElem hk]at hi;cases hi;rw[Mg];rw[hc]
theorem Vx(l:List DY)(c:Bl):(J4 l c).1.length=l.length:=by
 unfold J4;split
 .rfl
 .
  split
  .rfl
  .
   split
   .exact List.length_set
   .rfl
theorem Zf{l:List DY}{c:Bl}{n:Nat}(hz:∀x∈l,x.sz n)(hi:c.CO.fits/\c.CO.small):∀x∈(J4 l c).1,x.sz (n+1):=by
 have JG:∀x∈l,x.sz (n+1):=fun x hx=>(hz x hx).le AA;unfold J4;split
 .exact JG
 .
  split
  .exact JG
  next x hx=>
  split
  next h0=>
   intro y hy;rcases List.mem_or_eq_of_mem_set hy with hy|hy
   .exact JG y hy
   .
    subst hy;exact(tE (b:=(Cr x c).2.1) (by rw[←h0]) (hz x (List.mem_of_getElem? hx)) hi).1
  .exact JG
def Nk(s:List Int)(k:Nat):Int:=if k=0 then -1 else s[k-1]?.getD 0
theorem R7{i:Int}(h:s[k]? =some i):Nk s (k+1)=i:=by unfold Nk;rw[if_neg AA,Nat.add_sub_cancel,h];rfl
theorem Mh{n:Int}{i:Int}(h:∀j,j<k->setAt n s j=true)(hi:s[k]? =some i):setAt n s k= !(decide (i<=Nk s k)||decide (n<=i)):=by
 have hk:=A7 hi;unfold setAt Nk;rw[hi,Option.getD_some];rcases Nat.eq_zero_or_pos k with hz|hz
 .subst hz;rw[Bool.eq_iff_iff];simp;omega
 .
  have h1:=h (k-1) AA;unfold setAt at h1;simp only[Bool.and_eq_true,decide_eq_true_eq]at h1;rw[if_neg AA,Bool.eq_iff_iff];simp;omega
theorem Ky{n:Int}{i:Int}(h:∀j,j<k->setAt n s j=true)(hi:s[k]? =some i)(hb:i<=Nk s k\/n<=i):D6 n s=false:=
 EW (p:=setAt n s) (k:=k) (A7 hi) (by rw[Mh h hi];simp;omega)
theorem nF{n:Int}{s:List Int}(h:∀j,j<s.length->setAt n s j=true):∀j,j<s.length->(j:Int)<=s[j]?.getD 0
 |0,hj=>by have:=h 0 hj;unfold setAt at this;simp at this;simp;omega
 |j+1,hj=>by
  have h1:=nF h j AA;have:=h (j+1) hj;unfold setAt at this;simp only[Bool.and_eq_true,Bool.or_eq_true,decide_eq_true_eq,Nat.add_sub_cancel]at this;omega
theorem dU{n:Nat}(h:D6 n s=true):s.length<=n:=by
 unfold D6 at h;rw[B0]at h;rcases Nat.eq_zero_or_pos s.length with hz|hz
 .omega
 .
  have h1:=nF h (s.length-1) AA;have h2:=h (s.length-1) AA;unfold setAt at h2;simp only[Bool.and_eq_true,decide_eq_true_eq]at h2;omega
theorem Vy{n:Nat}(h:D6 n s=true){i:Int}(hi:s[k]? =some i):0<=i/\i<n:=by
 unfold D6 at h;rw[B0]at h;have h2:=h k (A7 hi);unfold setAt at h2;rw[hi]at h2;simp only[Option.getD_some,Bool.and_eq_true,decide_eq_true_eq]at h2;exact h2.1
theorem Ty{e:Es}{l:List Bl}{n:Nat}(hz:e.sz n)(hn:n<=800000)(hc:∀c∈l,c.CO.fits/\c.CO.small):Aq prog 56 [agg (CF e),slice 8 (l.map B7),ints s] (EB [agg (CF (HY e l s).1),int (HY e l s).2]):=by
 refine fo func56 rfl ⟨rfl,rfl⟩ fun M0 w0=>(Tr.Dr 1 rfl fun Tc=>(Tr.Dr 2 rfl fun mB=>(Tr.seq (Tr.At (tp rfl (BE rfl CM) ?_)))));refine Tl rfl rfl rfl rfl z32 Iz (fun b1=>?_);refine ap ?_;refine ac ?_;refine co rfl (BS (FP (hz.fits AA)) rfl rfl) ?_;refine an ?_ ?_<;>intro h1 q1
 have hA:HY e l s=(CN,31):=if_pos (by have:=q1;cases h_:EO e<;>simp_all);refine ap ?_;refine Tr.ret (Fin.Ak (Fin.AF (Fin.Bf rfl (AL.cell 0 rfl rfl E0 Et rfl Lr) (AL.tmp rfl Lr) ?_)));refine BU ⟨?_,?_,trivial⟩
 .exact KA
 .exact F8
 have hok:EO e=true:=by have:=q1;cases h_:EO e<;>simp_all
 refine an ?_ ?_<;>intro h2 q2
 have hA:HY e l s=(CN,3):=by unfold HY;rw[if_neg JN,if_pos K5]
 refine ap ?_;refine wk [7,6] rfl (Tr.ret (Fin.Ak (Fin.AF (Fin.Bf rfl (AL.cell 0 rfl rfl E0 Et rfl Lr) (AL.tmp rfl Lr) ?_))));refine BU ⟨?_,?_,trivial⟩
 .exact KA
 .exact F8
 have AGu:l.length<=24:=by have:=q2;omega
 refine a3 ?_;refine wk [27,26,25,8,6,3,2,1] rfl (Tr.block (Tr.BV _ (kk [26,25,6,3,2,1] rfl) (fun k:Nat=>[(27,int ((k:Nat):Int)),(8,int (Nk s k))]) (fun k:Nat=>k<=(s).length/\(∀j,j<k->setAt l.length s j=true)) (fun k:Nat=>(s).length-k) 0 (⟨Nat.zero_le _,fun j hj=>absurd hj AA⟩) ⟨kq,⟨_,rfl,int_eq rfl⟩,trivial⟩ ?_));rintro k ⟨BN,AW⟩;refine ac ?_;refine Tr.seq ?_;refine Tr.cn rfl ?_ ?_<;>intro h3 q3
 have Ae:k<(s).length:=AQ h3;obtain⟨i,Ad⟩:=at_ Ae;have jC:=Mh AW Ad;refine ac ?_;refine Tr.seq (Tr.block (Tr.seq (Tr.Bo (co rfl (AD rfl underlying50 C4 vq vq AA (Ap Ad)) ?_))));refine ac ?_;refine ag ?_ ?_<;>intro h4 q4
 refine ac ?_;refine wk [39,27,26,25,10,6,3,2,1] rfl (Tr.cond rfl (fun _=>?_) (fun h=>nomatch h));refine Tr.seq (Tr.At (tp rfl (Al (rows:=[]) rfl wQ Iz trivial rfl) (TO.Ac 0 rfl rfl rfl vq CM rfl Et rfl rfl (tm rfl (TO.nil (Fin.go (Tr.ret (Fin.AF (Fin.Ak (Fin.AF (Fin.AF (Fin.Ak (Fin.AF (Fin.Bf rfl (AL.cell 0 rfl rfl E0 Et rfl Lr) (AL.tmp rfl Lr) ?_))))))))))))));refine BU ⟨?_,?_,trivial⟩
 .exact jS
 .exact jY
 refine ac ?_;refine wk [39,27,26,25,10,6,3,2,1] rfl ?_;refine Tr.cn rfl ?_ ?_<;>intro h5 q5
 refine ap ?_;refine Tr.ret (Fin.AF (Fin.Ak (Fin.AF (Fin.AF (Fin.Ak (Fin.AF (Fin.Bf rfl (AL.cell 0 rfl rfl E0 Et rfl Lr) (AL.tmp rfl Lr) ?_)))))));refine BU ⟨?_,?_,trivial⟩
 .exact jS
 .exact jY
 refine a3 ?_;exact Fin.AP (k+1) ⟨⟨Ae,Bx AW (by rw[jC];simp;omega)⟩,by omega⟩ ⟨⟨_,rfl,AK k⟩,⟨_,rfl,int_eq (by rw[R7 Ad])⟩,kz⟩;have BA:k=(s).length:=by have:=AU h3;omega
 subst BA;have hsb:D6 l.length s=true:=B0.2 AW;have hsn:=dU hsb;have hel:=hz.le;refine ac ?_;refine ap ?_;refine TO.Ri rfl rfl AB rfl (gS hz AA) kz (fun v1=>?_);refine Tl rfl rfl rfl rfl z32 Iz (fun b2=>?_);refine ap ?_;refine ac ?_;refine wk [47,46,45,11,6,1] rfl (Tr.block (Tr.GF _ (kk [46,45,11,6,1] rfl) (fun(m:Nat) (Bu:List DY)=>[(47,int ((m:Nat):Int))]) (fun(m:Nat) (Bu:List DY)=>Hp M0 w0 Ju ([AE true b2 32 [is v1,GO e.BR,LZ e.items],An 73 9 (Bu.map As) v1,AE true b1 32 (([.slice none 0 0,.slice none 0 0,.slice none 0 0]:List Value).map is)])) (fun(m:Nat) (Bu:List DY)=>m<=s.length/\(∀x∈Bu,x.sz (n+m))/\Bu.length=e.Bu.length/\Mg l (s.drop m) Bu=Mg l s e.Bu) (fun(m:Nat) (Bu:List DY)=>s.length-m) (0) (e.Bu)  (⟨Nat.zero_le _,hz.Bu,rfl,rfl⟩) kz (fun _ _ h=>h) ?_));rintro m Bu  ⟨hm1,kV,hm3,hm4⟩;refine ac ?_;refine Tr.seq ?_;refine Tr.cn rfl ?_ ?_<;>intro h6 q6
 have hmm:m<s.length:=by have:=Fy.HC h6;omega
 obtain⟨i,Gm⟩:=at_ hmm;have pL:=Vy hsb Gm;obtain⟨c,pT⟩:=at_ (l:=l) (k:=i.toNat) AA;have hci:=hc c (List.mem_of_getElem? pT);have hst:=Tx (Bu:=Bu) Gm pT;rw[hm4]at hst;refine ac ?_;refine Tr.seq (Tr.block (Tr.seq (Tr.Bo (co rfl (AD rfl underlying50 C4 vq vq AA (Ap Gm)) ?_))));refine ac ?_;refine ap ?_;refine tp rfl (AD rfl underlying42 CD vq vq AA (CS (f:=B7) pT)) (tp rfl (AO rfl Ck CD vq rfl rfl) ?_);refine TO.Df _ rfl rfl AB rfl (gT (l:=Bu) (c:=c) kV AA AA hci) ⟨kq,kz⟩ ((AM (j:=0) rfl).trans (List.Perm.cons _ ((AM (j:=0) rfl).trans (List.Perm.cons _ (List.Perm.refl _))))) ?_;refine ap ?_;refine wk [47,46,45,14,11,6,1] rfl ?_;refine an ?_ ?_<;>intro h7 q7
 have YO:¬(J4 Bu c).2=0:=by have:=q7;omega
 rw[if_neg YO]at hst;have hA:HY e l s=(CN,(J4 Bu c).2):=by unfold HY;rw[if_neg JN,if_neg AA,if_neg (by simp[hsb]),hst];exact if_neg YO
 refine ap ?_;refine Tr.ret (Fin.Ak (Fin.AF (Fin.AF (Fin.Ak (Fin.AF (Fin.Bf rfl (AL.cell 2 rfl rfl E0 Et rfl Lr) (AL.tmp rfl Lr) ?_))))));refine BU ⟨?_,?_,trivial⟩
 .exact KA
 .exact F8
 have YO:=q7;refine a2 ?_;exact Fin.Gw (m+1) ((J4 Bu c).1)  (⟨⟨by omega,by have:=Zf (c:=c) kV hci;rw[show n+(m+1)=n+m+1 by omega];exact this,by rw[Vx];exact hm3,by rw[hst,if_pos AA]⟩,by omega⟩) ⟨⟨_,rfl,AK m⟩,kz⟩ (fun _ _ h=>h);obtain rfl:m=s.length:=by have:=Fy.HC h6;omega
 rw[List.drop_length]at hm4;have hA:HY e l s=(⟨Bu,e.BR,e.items⟩,0):=by unfold HY;rw[if_neg JN,if_neg AA,if_neg (by simp[hsb]),←hm4];exact if_pos rfl
 refine ac ?_;refine Tr.seq (Tr.II 0 1 0 rfl rfl AB rfl Lr (Ar fun _=>rfl) ?_);refine ap ?_;refine Tr.ret (Fin.Bf rfl (AL.cell 2 rfl rfl E0 Et rfl Lr) (AL.tmp rfl Lr) ?_);refine BU ⟨?_,?_,trivial⟩
 .rw[hA];exact Lr
 .exact F8
def Vz(e:Es)(c:Bl):Es×Int:=if(J4 e.Bu c).2=0 then(⟨(J4 e.Bu c).1,e.BR,e.items⟩,0)else(CN,(J4 e.Bu c).2)
theorem R8{e:Es}{n:Nat}(hz:e.sz n)(hn:n<=1000000):KR prog 205 [agg (CF e)] (fun x=>agg [is x,GO e.BR,LZ e.items]) (fun x=>[An 73 9 (e.Bu.map As) x]):=by
 refine KR.of func205 rfl rfl Ag fun M0 w0 S rs M1 w1=>?_;have hl1:=hz.le;have hl2:=hz.lg;have hl3:=hz.li;refine Tr.seq (Tr.At (tp rfl (BE rfl CM) ?_));refine Tl rfl rfl rfl rfl z32 Iz (fun b1=>?_);refine ao ?_;refine ao ?_;refine tp rfl (LH rfl underlying29 I0 wg z82 rfl AB vq J7 J8) ?_;refine tp rfl (oD) ?_;refine Tl rfl rfl rfl rfl z32 Iz (fun b2=>?_);refine TO.Ac 0 rfl rfl rfl vq CM rfl Et rfl rfl ?_;refine ao ?_;refine ac ?_;refine Tr.block (Tr.Hx 0 [Aj (.slice none 0 0) (lens ((e.Bu.take 0).map As).length),GO e.BR,is (.slice none 0 0)] rfl ⟨I4 rfl,Lr,Lr,trivial⟩ (Tr.MJ 73 9 (Tr.Ez _ (kk [14,13,3,2,1] rfl) (fun k v=>[(15,int ((k:Nat):Int))]) (fun k v=>Hp M0 w0 S (Ax 73 9 ((e.Bu.take k).map As) v::AE true b2 32 [Aj v (lens ((e.Bu.take k).map As).length),GO e.BR,is (.slice none 0 0)]::AE true b1 32 (([.slice none 0 0,.slice none 0 0,.slice none 0 0]:List Value).map is)::Ao M1 w1::rs)) (fun k:Nat=>k<=(e.Bu).length) (fun k:Nat=>(e.Bu).length-k) 0 (.slice none 0 0) (Nat.zero_le _) kz (fun _ _ h=>h) ?_)));rintro k v BN;refine ac ?_;refine Tr.seq ?_;refine Tr.cn rfl ?_ ?_<;>intro h1 q1
 have Ae:k<(e.Bu).length:=AQ h1;obtain⟨x,Ad⟩:=at_ Ae;have hxs:=(hz.Bu x (List.mem_of_getElem? Ad)).small hn;refine ac ?_;refine Tr.seq (Tr.block (Tr.seq (Tr.At (tp rfl (AD rfl underlying28 Bj vq vq AA DZ) ?_))));refine tp rfl (AO rfl Bw Bj vq rfl rfl) ?_;refine Tl rfl rfl rfl rfl HU Dn (fun b3=>?_);refine sf 0 5 ⟨rfl,rfl,rfl⟩ rfl rfl rfl rfl ?_;refine ao ?_;refine Tr.pad (Tr.rx ?_);refine ax ?_;refine xo rfl (fun _=>BS (Tw hxs) rfl rfl) (xo rfl (fun _=>AX (xs:=[.tmp 22]) (rows:=[_]) rfl rfl underlying28 Bj HU rfl AB ⟨⟨Ab,(Va rfl)⟩,trivial⟩ AB) ?_);refine Cx.ef 1 rfl rfl AB (DN rfl rfl AB rfl underlying28 Bj qK HU rfl AB AB (vl rfl) (Kf rfl) (Ar fun _=>rfl) (Nat.zero_lt_succ _) aW au) ?_;refine xo rfl (fun _=>AG rfl KJ vq) (Cx.ED 2 rfl rfl (EL rfl rfl rfl vq rfl qI Ag) ?_);refine Cx.nil ⟨by kernel_rfl,?_⟩;refine BG.RN 1 2 24 rfl rfl AB rfl (fun v1=>?_);refine BG.done al5 ?_;refine ac ?_;refine Tr.drop 0 (wk [15,14,13,3,2,1] rfl ?_);refine ac ?_;refine Fin.Hx 1 [Aj v1 (lens ((e.Bu.take (k+1)).map As).length),GO e.BR,is (.slice none 0 0)] rfl ⟨CT L1,Lr,Lr,trivial⟩ ?_;rw[dS (f:=As) Ad];exact Fin.EX (k+1) v1 (⟨Ae,by omega⟩) ⟨⟨_,rfl,AK k⟩,kz⟩ (fun _ _ h=>h);have BA:k=(e.Bu).length:=by have:=AU h1;omega
 subst BA;rw[List.take_length];refine a2 ?_;refine Tr.block (Tr.Hx 1 [Aj v (lens (e.Bu.map As).length),GO e.BR,Aj (.slice none 0 0) (LZ (e.items.take 0))] rfl ⟨Lr,Lr,DA rfl,trivial⟩ (Tr.Dt 85 5 (Tr.Ez _ (kk [29,28,3,2] rfl) (fun m u=>[(30,int ((m:Nat):Int))]) (fun m u=>Hp M0 w0 S (Bc 85 5 u::Ax 73 9 (e.Bu.map As) v::AE true b2 32 [Aj v (lens (e.Bu.map As).length),GO e.BR,Aj u (LZ (e.items.take m))]::AE true b1 32 (([.slice none 0 0,.slice none 0 0,.slice none 0 0]:List Value).map is)::Ao M1 w1::rs)) (fun m:Nat=>m<=(e.items).length) (fun m:Nat=>(e.items).length-m) 0 (.slice none 0 0) (Nat.zero_le _) kz (fun _ _ h=>h) ?_)));rintro m u dQ;refine ac ?_;refine Tr.seq ?_;refine Tr.cn rfl ?_ ?_<;>intro h2 q2
 have Kj:m<(e.items).length:=AQ h2;obtain⟨y,Gm⟩:=at_ Kj;have hyl:=(hz.items y (List.mem_of_getElem? Gm)).2;refine ac ?_;refine Tr.seq (Tr.block (Tr.seq (Tr.At (tp rfl (AD rfl underlying30 I2 vq vq AA DZ) ?_))));refine tp rfl (AO rfl TH I2 vq rfl rfl) ?_;refine Tl rfl rfl rfl rfl z85 fD (fun b4=>?_);refine TO.Ac 0 rfl rfl rfl vq CM rfl I2 rfl rfl ?_;refine ao ?_;refine ao ?_;refine tp rfl (LH rfl underlying83 HE kJ z127 rfl AB vq J7 J8) ?_;refine tp rfl (AG rfl U7 vq) (TO.ED 0 rfl rfl (BP rfl rfl vq Cf wm rfl Ag rfl) ?_);refine ao ?_;refine wk [30,29,28,7,3,2] rfl ?_;refine ao ?_;refine TO.EV 1 rfl rfl AB (Bp rfl rfl AB rfl underlying30 I2 qL z85 rfl AB Ij Ec J7 J8 (CA BW E4)) (fun v2=>?_);refine tp rfl (AG rfl MA vq) (TO.ED 3 rfl rfl (BP rfl rfl vq Cf qJ rfl Ag rfl) ?_);refine ao ?_;refine Tr.drop 0 ?_;refine ac ?_;refine Fin.Hx 2 [Aj v (lens (e.Bu.map As).length),GO e.BR,Aj v2 (LZ (e.items.take (m+1)))] rfl ⟨Lr,Lr,CZ (dS (f:=Ht) Gm),trivial⟩ (Fin.EX (m+1) v2 (⟨Kj,by omega⟩) ⟨⟨_,rfl,AK m⟩,kz⟩ (fun _ _ h=>h));have Vs:m=(e.items).length:=by have:=AU h2;omega
 subst Vs;refine ac ?_;refine ao ?_;refine TO.Ac 3 rfl rfl rfl vq CM rfl Et rfl rfl ?_;refine ao ?_;refine Tr.ret (Fin.Td 1 rfl (Fin.drop 0 (Fin.drop 1 (Fin.OR (Fin.fI v [_] rfl (AL.cell 0 rfl rfl E0 Et rfl Lr) ?_ (List.Perm.refl _))))))
 .exact aU
theorem UY{e:Es}{c:Bl}(h:c.AZ<0\/((e.Bu.length:Nat):Int)<=c.AZ):Vz e c=(CN,40):=by unfold Vz;rw[Vw h];rfl
theorem yt{e:Es}{c:Bl}{x:DY}(h:¬(c.AZ<0\/((e.Bu.length:Nat):Int)<=c.AZ))(hx:e.Bu[c.AZ.toNat]? =some x):Vz e c=if(Cr x c).2.2=0 then(⟨e.Bu.set c.AZ.toNat (Cr x c).1,e.BR,e.items⟩,0)else(CN,(Cr x c).2.2):=by grind [Vz,nE,Cr]
theorem Zg{e:Es}{c:Bl}{n:Nat}(hz:e.sz n)(hi:c.CO.fits/\c.CO.small)(h:(Vz e c).2=0):(Vz e c).1.sz (n+1)/\Vz e c=(⟨(J4 e.Bu c).1,e.BR,e.items⟩,0):=by
 have h0:(J4 e.Bu c).2=0:=by
  by_cases h0:(J4 e.Bu c).2=0
  .exact h0
  .unfold Vz at h;rw[if_neg h0]at h;exact h
 have h1:Vz e c=(⟨(J4 e.Bu c).1,e.BR,e.items⟩,0):=by unfold Vz;rw[if_pos h0]
 rw[h1];exact⟨⟨Zf hz.Bu hi,hz.items,by show(J4 e.Bu c).1.length<=_;rw[Vx];exact hz.le,hz.lg,hz.li⟩,rfl⟩
theorem tQ{e:Es}{c:Bl}(h:¬(Vz e c).2=0):¬(J4 e.Bu c).2=0/\(Vz e c).2=(J4 e.Bu c).2/\(Vz e c).1=CN:=by grind [Vz]
theorem gU{e:Es}{c:Bl}{n:Nat}(hz:e.sz n)(hn:n<=900000)(hci:c.CO.fits/\c.CO.small):Aq prog 206 [agg (CF e),agg (B7 c)] (EB [agg (CF (Vz e c).1),int (Vz e c).2]):=by
 refine fo func206 rfl ⟨rfl,rfl⟩ fun M0 w0=>?_;have AHd:=hz.le;refine Tr.seq (Tr.At (tp rfl (BE rfl CM) (tp rfl (BE rfl CM) ?_)));refine Tl rfl rfl rfl rfl z32 Iz (fun b1=>?_);refine ao ?_;refine ag ?_ ?_<;>intro h1 q1
 refine ac ?_;refine wk [19,4,3,2] rfl (Tr.cond rfl (fun _=>?_) (fun h=>nomatch h));refine Tr.seq (Tr.At (tp rfl (Al (rows:=[]) rfl wQ Iz trivial rfl) (TO.Ac 0 rfl rfl rfl vq CM rfl Et rfl rfl ?_)));refine ao ?_;refine Tr.ret (Fin.AF (Fin.Bf rfl (AL.cell 0 rfl rfl E0 Et rfl Lr) (AL.tmp rfl Lr) ?_));refine BU ⟨?_,?_,trivial⟩
 .exact af
 .exact int_eq (by rw[UY (e:=e) (c:=c) AA])
 refine ac ?_;refine wk [19,4,3,2] rfl ?_;refine Tr.cn rfl ?_ ?_<;>intro h2 q2
 refine ao ?_;refine TO.Ac 0 rfl rfl rfl vq CM rfl Et rfl rfl ?_;refine ao ?_;refine Tr.ret (Fin.AF (Fin.Bf rfl (AL.cell 0 rfl rfl E0 Et rfl Lr) (AL.tmp rfl Lr) ?_));refine BU ⟨?_,?_,trivial⟩
 .exact af
 .exact int_eq (by rw[UY (e:=e) (c:=c) AA])
 obtain⟨x,hx⟩:=at_ (l:=e.Bu) (k:=c.AZ.toNat) AA;have hA:=yt (e:=e) (c:=c) AA hx;have hlt:=A7 hx;refine ac ?_;refine Tr.seq (Tr.pad (Tr.rx ?_));refine ax ?_;refine xo rfl (fun _=>AD rfl underlying28 Bj vq vq AA (CS (f:=As) hx)) ?_;refine ax ?_;refine xo rfl (fun _=>CG (Zc (hz.Bu x (List.mem_of_getElem? hx)) AA hci) rfl rfl rfl) ?_;refine ax ?_;refine Cx.ef 0 rfl rfl AB (Gh rfl rfl AB rfl HU Dn) (Cx.ED 0 rfl rfl (Gi rfl rfl rfl rfl CM Bj rfl rfl) (xm rfl ?_));refine Cx.nil ⟨by kernel_rfl,?_⟩;refine BG.open_ 0 6 rfl rfl (fun v1=>?_);refine BG.done WN (Fin.iq 6 0 _ rfl rfl (fun _=>rfl) (fun b2=>?_));refine Fin.go (wk [7,6,4,3,2] rfl ?_);refine an ?_ ?_<;>intro h3 q3
 rw[if_neg H9]at hA;refine ao ?_;refine TO.Ac 1 rfl rfl rfl vq CM rfl Et rfl rfl ?_;refine ao ?_;refine Tr.drop 0 (Tr.ret (Fin.AF (Fin.Bf rfl (AL.cell 0 rfl rfl E0 Et rfl Lr) (AL.tmp rfl Lr) ?_)));refine BU ⟨?_,?_,trivial⟩
 .exact KA
 .exact F8
 rw[if_pos H9]at hA;refine ac ?_;refine ao ?_;refine TO.Ri rfl rfl AB rfl (R8 hz AA) kz (fun v2=>?_);refine Tl rfl rfl rfl rfl z32 Iz (fun b3=>?_);refine TO.Ac 0 rfl rfl rfl vq CM rfl Et rfl rfl ?_;refine ao ?_;refine ao ?_;refine tp rfl (Bi 1 rfl (FH rfl underlying28 Bj vq vq AA Cg)) ?_;refine TO.ED 1 rfl rfl (E3 rfl rfl vq CM Bj rfl (Ar fun _=>rfl) Mv AB (show _=(e.Bu.set c.AZ.toNat (Cr x c).1).map As by rw[List.map_set];rfl)) ?_;refine ao ?_;refine Tr.drop 2 (wk [8,4] rfl (Tr.seq (Tr.II 0 1 0 rfl rfl AB rfl Lr (Ar fun _=>rfl) ?_)));refine ao ?_;refine TO.Ac 2 rfl rfl rfl vq CM rfl Et rfl rfl ?_;refine ao ?_;refine Tr.drop 1 (Tr.ret (Fin.Bf rfl (AL.cell 1 rfl rfl E0 Et rfl Lr) (AL.tmp rfl Lr) ?_));refine BU ⟨?_,?_,trivial⟩
 .rw[hA];exact Lr
 .exact F8
theorem Zh{e:Es}{l:List Bl}{n:Nat}(hz:e.sz n)(hn:n<=800000)(hc:∀c∈l,c.CO.fits/\c.CO.small):Aq prog 151 [agg (CF e),slice 8 (l.map B7),ints s] (EB [agg (CF (HY e l s).1),int (HY e l s).2]):=by
 refine fo func151 rfl ⟨rfl,rfl⟩ fun M0 w0=>(Tr.Dr 1 rfl fun Tc=>(Tr.Dr 2 rfl fun mB=>(Tr.seq (Tr.At (tp rfl (BE rfl CM) ?_)))));refine Tl rfl rfl rfl rfl z32 Iz (fun b1=>?_);refine ap ?_;refine ac ?_;refine co rfl (BS (Mf (hz.fits AA)) rfl rfl) ?_;refine an ?_ ?_<;>intro h1 q1
 have hA:HY e l s=(CN,31):=if_pos (by have:=q1;cases h_:EO e<;>simp_all);refine ap ?_;refine Tr.ret (Fin.AF (Fin.Bf rfl (AL.cell 0 rfl rfl E0 Et rfl Lr) (AL.tmp rfl Lr) ?_));refine BU ⟨?_,?_,trivial⟩
 .exact KA
 .exact F8
 have hok:EO e=true:=by have:=q1;cases h_:EO e<;>simp_all
 refine ac ?_;refine an ?_ ?_<;>intro h2 q2
 have hA:HY e l s=(CN,3):=by unfold HY;rw[if_neg JN,if_pos K5]
 refine ap ?_;refine Tr.ret (Fin.AF (Fin.Bf rfl (AL.cell 0 rfl rfl E0 Et rfl Lr) (AL.tmp rfl Lr) ?_));refine BU ⟨?_,?_,trivial⟩
 .exact KA
 .exact F8
 have AGu:l.length<=24:=by have:=q2;omega
 refine a2 ?_;refine co rfl (CG (R6 (l:=s) (n:=((l.length:Nat):Int))) rfl rfl rfl) ?_;refine ac ?_;refine wk [25,6,3,2,1] rfl ?_;refine Tr.cn rfl ?_ ?_<;>intro h3 q3
 have hA:HY e l s=(CN,46):=by unfold HY;rw[if_neg JN,if_neg AA,if_pos (by simpa using h3)]
 refine ap ?_;refine Tr.ret (Fin.AF (Fin.Bf rfl (AL.cell 0 rfl rfl E0 Et rfl Lr) (AL.tmp rfl Lr) ?_));refine BU ⟨?_,?_,trivial⟩
 .exact KA
 .exact F8
 have hsb:D6 l.length s=true:=by simpa using h3
 have hsn:=dU hsb;have hel:=hz.le;refine ac ?_;refine ap ?_;refine TO.Ri rfl rfl AB rfl (R8 hz AA) kz (fun v1=>?_);refine Tl rfl rfl rfl rfl z32 Iz (fun b2=>?_);refine ap ?_;refine Tr.seq (Tr.seq (Tr.II 0 1 0 rfl rfl AB rfl Lr (Ar fun _=>rfl) ?_));refine ac ?_;refine Tr.drop 1 (Tr.block (Tr.GF _ (kk [30,29,8,6,1] rfl) (fun(m:Nat) (Bu:List DY)=>[(31,int ((m:Nat):Int))]) (fun(m:Nat) (Bu:List DY)=>Hp M0 w0 Ju ([AE true b2 32 (CF ⟨Bu,e.BR,e.items⟩),AE true b1 32 (([.slice none 0 0,.slice none 0 0,.slice none 0 0]:List Value).map is)])) (fun(m:Nat) (Bu:List DY)=>m<=s.length/\(⟨Bu,e.BR,e.items⟩:Es).sz (n+m)/\Mg l (s.drop m) Bu=Mg l s e.Bu) (fun(m:Nat) (Bu:List DY)=>s.length-m) (0) (e.Bu)  (⟨Nat.zero_le _,hz,rfl⟩) kz (fun _ _ h=>h) ?_));rintro m Bu  ⟨hm1,kV,hm4⟩;refine ac ?_;refine Tr.seq ?_;refine Tr.cn rfl ?_ ?_<;>intro h4 q4
 have hmm:m<s.length:=by have:=Fy.HC h4;omega
 obtain⟨i,Gm⟩:=at_ hmm;have pL:=Vy hsb Gm;obtain⟨c,pT⟩:=at_ (l:=l) (k:=i.toNat) AA;have hci:=hc c (List.mem_of_getElem? pT);have hst:=Tx (Bu:=Bu) Gm pT;rw[hm4]at hst;refine ac ?_;refine Tr.seq (Tr.block (Tr.seq (Tr.Bo (co rfl (AD rfl underlying50 C4 vq vq AA (Ap Gm)) ?_))));refine ac ?_;refine Tr.seq (Tr.pad (Tr.rx ?_));refine ax ?_;refine xo rfl (fun _=>AD rfl underlying42 CD vq vq AA (CS (f:=B7) pT)) (xo rfl (fun _=>AO rfl Ck CD vq rfl rfl) ?_);refine xo rfl (fun _=>CG (gU (e:=⟨Bu,e.BR,e.items⟩) (c:=c) kV AA hci) rfl rfl rfl) ?_;refine ax ?_;refine Cx.ef 0 rfl rfl AB (Gh rfl rfl AB rfl z32 Iz) (Cx.ED 0 rfl rfl (Gi rfl rfl rfl rfl CM Et rfl rfl) (xm rfl ?_));refine Cx.nil ⟨by kernel_rfl,?_⟩;refine BG.open_ 0 11 rfl rfl (fun v2=>?_);refine BG.done ko (Fin.iq 11 0 _ rfl rfl (fun _=>rfl) (fun b3=>?_));refine Fin.go (wk [31,30,29,12,11,8,6,1] rfl ?_);refine an ?_ ?_<;>intro h5 q5
 obtain⟨YO,Tz,h2_⟩:=tQ (e:=⟨Bu,e.BR,e.items⟩) (c:=c) (by have:=q5;omega);have YO:¬(J4 Bu c).2=0:=YO;rw[if_neg YO]at hst;have hA:HY e l s=(CN,(Vz ⟨Bu,e.BR,e.items⟩ c).2):=by unfold HY;rw[if_neg JN,if_neg AA,if_neg (by simp[hsb]),hst,Tz];exact if_neg YO
 refine ap ?_;refine Tr.drop 0 (Tr.ret (Fin.AF (Fin.Ak (Fin.AF (Fin.AF (Fin.Ak (Fin.AF (Fin.Bf rfl (AL.cell 1 rfl rfl E0 Et rfl Lr) (AL.tmp rfl Lr) ?_))))))));refine BU ⟨?_,?_,trivial⟩
 .exact KA
 .exact F8
 have hs0:(Vz ⟨Bu,e.BR,e.items⟩ c).2=0:=by have:=q5;omega
 have hap:(J4 Bu c).2=0:=by by_cases h0:(J4 Bu c).2=0;exact h0;(exfalso;unfold Vz at hs0;rw[if_neg (show ¬(J4 (⟨Bu,e.BR,e.items⟩:Es).Bu c).2=0 from h0)]at hs0;exact h0 hs0)
 refine ac ?_;refine ap ?_;refine Tr.drop 0 ?_;refine ac ?_;refine Fin.eqC 0 (CF ⟨(J4 Bu c).1,e.BR,e.items⟩) rfl (by rw[(Zg kV hci hs0).2];rfl) ?_;exact Fin.Gw (m+1) ((J4 Bu c).1)  (⟨⟨by omega,by have h_:=(Zg kV hci hs0).1;rw[(Zg kV hci hs0).2]at h_;rw[show n+(m+1)=n+m+1 by omega];exact h_,by rw[hst,if_pos hap]⟩,by omega⟩) ⟨⟨_,rfl,AK m⟩,kz⟩ (fun _ _ h=>h);obtain rfl:m=s.length:=by have:=Fy.HC h4;omega
 rw[List.drop_length]at hm4;have hA:HY e l s=(⟨Bu,e.BR,e.items⟩,0):=by unfold HY;rw[if_neg JN,if_neg AA,if_neg (by simp[hsb]),←hm4];exact if_pos rfl
 refine ac ?_;refine ap ?_;refine Tr.ret (Fin.Bf rfl (AL.cell 1 rfl rfl E0 Et rfl Lr) (AL.tmp rfl Lr) ?_);refine BU ⟨?_,?_,trivial⟩
 .rw[hA];exact Lr
 .exact F8
structure ChS(l:List EF):Prop where
 fits:∀c∈l,c.fits
 small:(⟨0,0,0,l⟩:E9).small
abbrev chE:Pr:=Cp.ex fun l:List EF=>fact (ChS l) (G6 l)
abbrev EU(c:Bl):List Pr:=[int c.AZ,int c.kind,int c.number,int c.at_,int c.CO.CI,int c.CO.bits,int c.CO.Bm,chE]
structure tT(es:List DY)(c:Bl):Prop where
 lo:0<=c.AZ
 hi:c.AZ<(es.length:Nat)
 kind:1<=c.kind/\c.kind<=12
def JC(es:List DY)(l:List Bl):Prop:=∀c∈l,tT es c
theorem JC.snoc{es:List DY}{l:List Bl}{c:Bl}(h:JC es l)(hc:tT es c):JC es (l++[c]):=by
 intro x hx;rcases List.mem_append.1 hx with hx|hx
 .exact h x hx
 .simp at hx;subst hx;exact hc
theorem JC.two{es:List DY}{l:List Bl}{c d:Bl}(h:JC es l)(hc:tT es c)(hd:tT es d):JC es (l++[c,d]):=by
 intro x hx;rcases List.mem_append.1 hx with hx|hx
 .exact h x hx
 .simp at hx;rcases hx with rfl|rfl;exact hc;exact hd
theorem JC.perm{es:List DY}{l m:List Bl}(hp:m.Perm l)(h:JC es l):JC es m:=fun c hc=>h c (hp.mem_iff.1 hc)
theorem JC.take{es:List DY}{l:List Bl}{n:Nat}(h:JC es l):JC es (l.take n):=fun c hc=>h c (List.mem_of_mem_take hc)
theorem tU:ChS []:=⟨(fun c h=>by cases h),⟨by show 0<=_;omega,(fun c hc=>by cases hc)⟩⟩
theorem Nl:Pr.le (is (.slice none 0 0)) chE:=Co [] (EG tU (AH 15))
theorem tV(h:nm∈GN){a b id key:Int}:Pr.le (yf nm a b id 901 key) chE:=by
 rintro M w v ⟨s,hs,hv⟩;have hf:=ADS (a:=a) (b:=b) (id:=id) (key:=key) (s:=s) h;exact⟨_,⟨hf.1,⟨hf.2.chain,hf.2.names⟩⟩,hv⟩
theorem nG{a b id to key:Int}:(vi nm a b id to key).le (agg [int a,int b,int id,yf nm a b id to key]):=by
 rintro M w v ⟨s,hs,hv⟩;exact Az (ps:=BT (IL nm a b id to key s)) (qs:=[int a,int b,int id,yf nm a b id to key]) ⟨Pr.le_refl _,Pr.le_refl _,Pr.le_refl _,fun M w v h=>⟨s,hs,h⟩,trivial⟩ M w v hv
theorem nH(c:Bl)(M:Av)(w:World)(ad:Addr)(n:Nat)(h:Row M w ad n (EU c)):∃b:Bl,(b.AZ=c.AZ/\b.kind=c.kind/\b.number=c.number/\b.at_=c.at_/\ChS b.CO.chain)/\Row M w ad n (B7 b):=by
 obtain⟨ch,h1⟩:=rX (ps:=[int c.AZ,int c.kind,int c.number,int c.at_,int c.CO.CI,int c.CO.bits,int c.CO.Bm]) h;obtain⟨h2,h3⟩:=fM (ps:=[int c.AZ,int c.kind,int c.number,int c.at_,int c.CO.CI,int c.CO.bits,int c.CO.Bm]) h1;exact⟨⟨c.AZ,c.kind,c.number,c.at_,⟨c.CO.CI,c.CO.bits,c.CO.Bm,ch⟩⟩,⟨rfl,rfl,rfl,rfl,h2⟩,h3⟩
structure ADY(es:List DY)(l:List Bl):Prop where
 len:l.length<=7
 any:∀c∈l,AGe es c
theorem V0{es:List DY}{ms:List Bl}(h:JC es ms)(hl:ms.length<=7):Pr.le (slice 8 (ms.map EU)) (Cp.ex fun l:List Bl=>fact (ADY es l) (slice 8 (l.map B7))):=by
 intro M w v hv;obtain⟨l,⟨h1,h2⟩,h3⟩:=ZA nH (fun _=>rfl) (fun _=>rfl) ms M w v hv;refine⟨l,⟨by omega,fun c hc=>?_⟩,h3⟩;obtain⟨i,hi⟩:=List.getElem?_of_mem hc;obtain⟨a,ha⟩:=at_ (l:=ms) (k:=i) (by have:=A7 hi;omega);obtain⟨g1,g2,g3,g4,g5⟩:=h2 i a c ha hi;have hm:=h a (List.mem_of_getElem? ha);exact⟨by rw[g1];exact hm.lo,by rw[g1];exact hm.hi,by rw[g2];exact hm.kind,g5.fits,⟨g5.small.chain,g5.small.names⟩⟩
theorem tW{b:Nat}{s:DS}{e:Es}(hs:mm e.Bu)(hl:1<=e.Bu.length/\e.Bu.length<=3):BM prog 16 [ptr b 0,agg (CF e)] (Cp.ex fun l:List Bl=>fact (ADY e.Bu l) (slice 8 (l.map B7))) (EP b s) (fun _=>L9 66 b):=by
 refine BM.of func16 rfl rfl Ag fun M0 w0 S rs M1 w1=>?_;refine Tr.seq (Tr.Bo (co rfl (BE rfl (Va rfl)) (cm rfl (Ch.nil (Fin.go (Tr.seq (Tr.Bo (cm rfl (Ch.nil (Fin.go (Tr.seq (Tr.At (tm rfl ?_)))))))))))));refine TO.LC 0 rfl rfl AB (Au rfl rfl AB rfl (DB AA AA) ⟨ke rfl,ke rfl,trivial⟩) (tp rfl (ki rfl rfl rfl rfl) (tm rfl (TO.LC 0 rfl rfl AB (Au rfl rfl AB rfl (DB AA AA) ⟨ke rfl,ke rfl,trivial⟩) (tp rfl (ki rfl rfl rfl rfl) (tm rfl (TO.LC 0 rfl rfl AB (Au rfl rfl AB rfl (DB AA AA) ⟨ke rfl,ke rfl,trivial⟩) (tp rfl (ki rfl rfl rfl rfl) (tm rfl (tm rfl (tm rfl (TO.nil (Fin.go (wk6 0 3 5 6 7 8 rfl (Tr.seq ?_))))))))))))));refine Tr.seq (Tr.Bo (co rfl (Lf rfl KJ rfl rfl) (co rfl (FO rfl bq rfl) (co rfl (Gu rfl underlying28 (vl rfl)) (cm rfl (Ch.nil (Fin.go (Tr.block (Tr.MJ 113 8 (Tr.Iy [(0,_),(6,_),(7,_),(8,_),(23,_),(24,_)] ⟨ke rfl,ke rfl,ke rfl,ke rfl,ke rfl,ke rfl,trivial⟩ (fun(k:Nat) (ms:List Bl) (s2:DS) v=>[(25,int ((k:Nat):Int)),(5,Aj v (lens (ms.map EU).length))]) (fun(k:Nat) (ms:List Bl) (s2:DS) v=>Hp M0 w0 S (Ax 113 8 (ms.map EU) v::EP b s2::Ao M1 w1::rs)) (fun(k:Nat) (ms:List Bl) (s2:DS)=>k<=e.Bu.length/\ms.length<=6*k/\JC e.Bu ms) (fun(k:Nat) (ms:List Bl) (s2:DS)=>e.Bu.length-k) (0) ([]) (_) (.slice none 0 0) (⟨Nat.zero_le _,by simp,fun c hc=>by simp at hc⟩) ⟨ke rfl,⟨_,rfl,I4 (by rfl)⟩,trivial⟩ (fun _ _ h=>h) ?_))))))))));rintro k ms s2 v ⟨hk1,AHI,T0⟩;refine Tr.seq (Tr.Bo (co rfl (ki rfl rfl rfl rfl) (Ch.nil (Fin.go (Tr.seq ?_)))));refine Tr.cn rfl ?_ ?_<;>intro h1 q1
 have Ae:k<e.Bu.length:=by have:=Fy.HC h1;omega
 obtain⟨x,Ad⟩:=at_ Ae;have kV:=hs k x Ad;have hnm:=List.mem_of_getElem? kV.name;refine Tr.skip (Fin.go (Tr.seq (Tr.block (Tr.seq (Tr.At (tm rfl (tp rfl (AD rfl underlying28 Bj (vl rfl) (vl rfl) AA (Ap Ad)) (tp rfl (AO rfl Bw Bj (vl rfl) rfl rfl) ?_))))))));refine Tl rfl rfl rfl rfl HU Dn (fun b1=>?_);refine tm rfl (TO.Ac 0 rfl rfl rfl (vl rfl) (Va rfl) rfl Bj rfl rfl (TO.freeze 0 10 rfl rfl (TO.nil (Fin.go (jx 0 5 6 7 8 9 10 23 24 25 rfl (Tr.QI [(0,_),(6,_),(7,_),(8,_),(9,_),(10,_),(23,_),(24,_),(25,_)] ⟨ke rfl,ke rfl,ke rfl,ke rfl,ke rfl,ke rfl,ke rfl,ke rfl,ke rfl,trivial⟩ (fun(m1:List Bl) (s3:DS) v1=>[(5,Aj v1 (lens (m1.map EU).length))]) (fun(m1:List Bl) (s3:DS) v1=>Hp M0 w0 S (Ax 113 8 (m1.map EU) v1::EP b s3::Ao M1 w1::rs)) (fun(m1:List Bl) (s3:DS)=>m1.length<=6*k+1/\JC e.Bu m1) ?_ ?_))))));refine Tr.seq (Tr.Bo (cm rfl (cm rfl ?_)));refine Ch.cs 31 rfl ?_ ?_<;>intro h2 q2
 refine cy h2 rfl (Lf rfl GG rfl rfl) (cy h2 rfl (FO rfl IF rfl) (cy h2 rfl (Aa rfl (dR) ⟨ke rfl,ke rfl,trivial⟩) (cy h2 rfl (KG rfl (vl rfl)) (co rfl (Uz rfl rfl h2 rfl) (Ch.nil (Fin.go (Pb 0 5 6 7 8 9 10 23 24 25 36 rfl ?_)))))));refine Tr.cn rfl ?_ ?_<;>intro h3 q3
 have PZ:=s2.D_ (n:=2) AA;refine Tr.At (tm rfl (tm rfl (tm rfl (TO.LC 1 rfl rfl AB (Au rfl rfl AB rfl (DB AA AA) ⟨ke rfl,ke rfl,trivial⟩) (tp rfl (Al (rows:=[(0,[_]),(1,[_]),(2,[_]),(3,[_])]) rfl NI GS ⟨⟨rfl,(Vo rfl)⟩,⟨⟨rfl,(Vo rfl)⟩,⟨⟨rfl,(Vo rfl)⟩,⟨⟨rfl,(Vo rfl)⟩,trivial⟩⟩⟩⟩ rfl) (tp rfl (AX (xs:=[.tmp 41]) (rows:=[EU ⟨((k:Nat):Int),1,12,s2.val 2,⟨0,0,0,[]⟩⟩]) rfl rfl underlying42 CD I3 rfl AB ⟨⟨Ab,VL.le (vl rfl) (Pr.le_trans (Az (qs:=EU _) ⟨Lr,Lr,Lr,Lr,Lr,Lr,Lr,Nl,trivial⟩) (AJ _))⟩,trivial⟩ AB) ?_))))));refine TO.EV 0 rfl rfl AB (DN rfl rfl AB rfl underlying42 CD TI I3 rfl AB AB (vl rfl) (Kf rfl) (Ar fun _=>rfl) (Nat.zero_lt_succ _) J9 J_) (fun v1=>?_);refine tm rfl (TO.nil ?_);exact Fin.EJ (ms++[⟨((k:Nat):Int),1,12,s2.val 2,⟨0,0,0,[]⟩⟩]) (_) v1 (⟨by simp;omega,T0.snoc ⟨by show 0<=((k:Nat):Int);omega,by show((k:Nat):Int)<_;omega,by dsimp only;omega⟩⟩) ⟨⟨_,rfl,CT Ai⟩,ke rfl,ke rfl,ke rfl,ke rfl,ke rfl,ke rfl,ke rfl,ke rfl,ke rfl,trivial⟩ (fun _ _ h=>Mw);refine Tr.skip (Fin.EJ (ms) (_) v (⟨by omega,T0⟩) ⟨⟨_,rfl,CT Ai⟩,ke rfl,ke rfl,ke rfl,ke rfl,ke rfl,ke rfl,ke rfl,ke rfl,ke rfl,trivial⟩ (fun _ _ h=>h))
 iterate 4 refine cnt h2 rfl ?_
 refine co rfl (SZ rfl rfl h2 rfl) (Ch.nil (Fin.go (Pb 0 5 6 7 8 9 10 23 24 25 36 rfl (Tr.cond rfl (fun h=>nomatch h) (fun _=>?_)))));refine Tr.skip (Fin.EJ (ms) (_) v (⟨by omega,T0⟩) ⟨⟨_,rfl,CT Ai⟩,ke rfl,ke rfl,ke rfl,ke rfl,ke rfl,ke rfl,ke rfl,ke rfl,ke rfl,trivial⟩ (fun _ _ h=>h));rintro m1 s3 v1 ⟨AHJ,nI⟩;refine Tr.QI [(0,_),(6,_),(7,_),(8,_),(9,_),(10,_),(23,_),(24,_),(25,_)] ⟨ke rfl,ke rfl,ke rfl,ke rfl,ke rfl,ke rfl,ke rfl,ke rfl,ke rfl,trivial⟩ (fun(m2:List Bl) (s4:DS) v2=>[(5,Aj v2 (lens (m2.map EU).length))]) (fun(m2:List Bl) (s4:DS) v2=>Hp M0 w0 S (Ax 113 8 (m2.map EU) v2::EP b s4::Ao M1 w1::rs)) (fun(m2:List Bl) (s4:DS)=>m2.length<=6*k+2/\JC e.Bu m2) ?_ ?_;refine Tr.seq (Tr.Bo (cm rfl (cm rfl ?_)));refine Ch.cs 45 rfl ?_ ?_<;>intro h4 q4
 refine JW h4 rfl (cy h4 rfl (ki rfl rfl rfl rfl) (co rfl (Uz rfl rfl h4 rfl) (Ch.nil (Fin.go (Pb 0 5 6 7 8 9 10 23 24 25 48 rfl ?_)))));refine Tr.cn rfl ?_ ?_<;>intro h5 q5
 refine Tr.At (tm rfl (tm rfl (tp rfl (Al (rows:=[(0,[_]),(1,[_]),(2,[_])]) rfl NI GS ⟨⟨rfl,(Vo rfl)⟩,⟨⟨rfl,(Vo rfl)⟩,⟨⟨rfl,(Vo rfl)⟩,trivial⟩⟩⟩ rfl) (tp rfl (AX (xs:=[.tmp 51]) (rows:=[EU ⟨((k:Nat):Int),7,2,0,⟨0,0,0,[]⟩⟩]) rfl rfl underlying42 CD I3 rfl AB ⟨⟨Ab,VL.le (vl rfl) (Pr.le_trans (Az (qs:=EU _) ⟨Lr,Lr,Lr,Lr,Lr,Lr,Lr,Nl,trivial⟩) (AJ _))⟩,trivial⟩ AB) ?_))));refine TO.EV 0 rfl rfl AB (DN rfl rfl AB rfl underlying42 CD TI I3 rfl AB AB (vl rfl) (Kf rfl) (Ar fun _=>rfl) (Nat.zero_lt_succ _) J9 J_) (fun v2=>?_);refine tm rfl (TO.nil ?_);exact Fin.EJ (m1++[⟨((k:Nat):Int),7,2,0,⟨0,0,0,[]⟩⟩]) (_) v2 (⟨by simp;omega,nI.snoc ⟨by show 0<=((k:Nat):Int);omega,by show((k:Nat):Int)<_;omega,by dsimp only;omega⟩⟩) ⟨⟨_,rfl,CT Ai⟩,ke rfl,ke rfl,ke rfl,ke rfl,ke rfl,ke rfl,ke rfl,ke rfl,ke rfl,trivial⟩ (fun _ _ h=>Mw);refine Tr.skip (Fin.EJ (m1) (_) v1 (⟨by omega,nI⟩) ⟨⟨_,rfl,CT Ai⟩,ke rfl,ke rfl,ke rfl,ke rfl,ke rfl,ke rfl,ke rfl,ke rfl,ke rfl,trivial⟩ (fun _ _ h=>h));refine cnt h4 rfl (cnt h4 rfl (co rfl (SZ rfl rfl h4 rfl) (Ch.nil (Fin.go (Pb 0 5 6 7 8 9 10 23 24 25 48 rfl (Tr.cond rfl (fun h=>nomatch h) (fun _=>?_)))))));refine Tr.skip (Fin.EJ (m1) (_) v1 (⟨by omega,nI⟩) ⟨⟨_,rfl,CT Ai⟩,ke rfl,ke rfl,ke rfl,ke rfl,ke rfl,ke rfl,ke rfl,ke rfl,ke rfl,trivial⟩ (fun _ _ h=>h));rintro m2 s4 v2 ⟨AHK,nJ⟩;refine Tr.QI [(0,_),(6,_),(7,_),(8,_),(9,_),(10,_),(23,_),(24,_),(25,_)] ⟨ke rfl,ke rfl,ke rfl,ke rfl,ke rfl,ke rfl,ke rfl,ke rfl,ke rfl,trivial⟩ (fun(m3:List Bl) (s5:DS) v3=>[(5,Aj v3 (lens (m3.map EU).length))]) (fun(m3:List Bl) (s5:DS) v3=>Hp M0 w0 S (Ax 113 8 (m3.map EU) v3::EP b s5::Ao M1 w1::rs)) (fun(m3:List Bl) (s5:DS)=>m3.length<=6*k+3/\JC e.Bu m3) ?_ ?_;refine Tr.seq (Tr.Bo (cm rfl (cm rfl ?_)));refine Ch.cs 55 rfl ?_ ?_<;>intro h6 q6
 refine JW h6 rfl (cy h6 rfl (ki rfl rfl rfl rfl) (co rfl (Uz rfl rfl h6 rfl) (Ch.nil (Fin.go (Pb 0 5 6 7 8 9 10 23 24 25 58 rfl ?_)))));refine Tr.cn rfl ?_ ?_<;>intro h7 q7
 have hof:=s4.U1 (l:=[2,1]) Ai;simp at hof;refine Tr.pad (Tr.Yl mixed [none,none,none,none,none,none,none,some (0,2,true,0),none,none,none,none,none,none,some (0,1,true,73),some (73,1,true,5)] BQ (xm rfl (xm rfl (xo rfl (fun _=>Lf rfl kC rfl rfl) (xo rfl (fun _=>FO rfl OK rfl) (xo rfl (fun _=>Aa rfl (AGc) trivial) (xm rfl (xo rfl (fun _=>AX (xs:=[.const (.int .i64 (2)),.const (.int .i64 (1))]) (rows:=[[_],[_]]) rfl rfl underlying22 C4 z3 rfl AB ⟨⟨Ab,(Vo rfl)⟩,⟨⟨Ab,(Vo rfl)⟩,trivial⟩⟩ AB) ?_))))))));refine Cx.ef 2 rfl rfl AB (Au rfl rfl AB rfl (cO (l:=[2,1]) Ai Ai) ⟨ke rfl,(Kf rfl),trivial⟩) ?_;refine xo rfl (fun _=>Aa rfl (ZW (name:=x.name) (a:=7) (b:=256) (id:=201) (to:=901) (key:=s4.of [2,1]) (ADQ hnm (.inr ⟨rfl,rfl⟩) AA AA AA) (ADR (.inr ⟨rfl,rfl⟩) AA) AA) ⟨ke rfl,ke rfl,ke rfl,ke rfl,ke rfl,trivial⟩) ?_;refine xo rfl (fun _=>Lf rfl Ge rfl rfl) (xo rfl (fun _=>FO rfl u9 rfl) (xo rfl (fun _=>Gu rfl underlying71 (vl rfl)) (xo rfl (fun _=>Al (rows:=[(0,[_]),(1,[_]),(4,_),(3,[_])]) rfl NI GS ⟨⟨rfl,(Vo rfl)⟩,⟨⟨rfl,(Vo rfl)⟩,⟨⟨rfl,⟨_,rfl,Pr.le_trans (nG) (AJ _)⟩⟩,⟨⟨rfl,(Vo rfl)⟩,trivial⟩⟩⟩⟩ rfl) (xo rfl (fun _=>AX (xs:=[.tmp 71]) (rows:=[EU ⟨((k:Nat):Int),5,0,((x.ids.length:Nat):Int),⟨7,256,201,[]⟩⟩]) rfl rfl underlying42 CD I3 rfl AB ⟨⟨Ab,VL.le (vl rfl) (Pr.le_trans (Az (qs:=EU _) ⟨Lr,Lr,Lr,Lr,Lr,Lr,Lr,tV hnm,trivial⟩) (AJ _))⟩,trivial⟩ AB) ?_))));refine Cx.ef 1 rfl rfl AB (DN rfl rfl AB rfl underlying42 CD TI I3 rfl AB AB (vl rfl) (Kf rfl) (Ar fun _=>rfl) (Nat.zero_lt_succ _) J9 J_) ?_;refine Cx.ef 1 rfl rfl AB (ND rfl rfl AB rfl (vl rfl)) ?_;refine Cx.nil ⟨rfl,?_⟩;refine BG.open_ 1 5 rfl rfl (fun v3=>?_);refine BG.done (Cu.cons (Cu.cons (Cu.cons (Cu.cons (Cu.map _))))) (Fin.drop 0 ?_);exact Fin.EJ (m2++[⟨((k:Nat):Int),5,0,((x.ids.length:Nat):Int),⟨7,256,201,[]⟩⟩]) (_) v3 (⟨by simp;omega,nJ.snoc ⟨by show 0<=((k:Nat):Int);omega,by show((k:Nat):Int)<_;omega,by dsimp only;omega⟩⟩) ⟨⟨_,rfl,CT Ai⟩,ke rfl,ke rfl,ke rfl,ke rfl,ke rfl,ke rfl,ke rfl,ke rfl,ke rfl,trivial⟩ (fun _ _ h=>Mw);refine Tr.skip (Fin.EJ (m2) (_) v2 (⟨by omega,nJ⟩) ⟨⟨_,rfl,CT Ai⟩,ke rfl,ke rfl,ke rfl,ke rfl,ke rfl,ke rfl,ke rfl,ke rfl,ke rfl,trivial⟩ (fun _ _ h=>h));refine cnt h6 rfl (cnt h6 rfl (co rfl (SZ rfl rfl h6 rfl) (Ch.nil (Fin.go (Pb 0 5 6 7 8 9 10 23 24 25 58 rfl (Tr.cond rfl (fun h=>nomatch h) (fun _=>?_)))))));refine Tr.skip (Fin.EJ (m2) (_) v2 (⟨by omega,nJ⟩) ⟨⟨_,rfl,CT Ai⟩,ke rfl,ke rfl,ke rfl,ke rfl,ke rfl,ke rfl,ke rfl,ke rfl,ke rfl,trivial⟩ (fun _ _ h=>h));rintro m3 s5 v3 ⟨AHL,dV⟩;refine Tr.QI [(0,_),(6,_),(7,_),(8,_),(9,_),(10,_),(23,_),(24,_),(25,_)] ⟨ke rfl,ke rfl,ke rfl,ke rfl,ke rfl,ke rfl,ke rfl,ke rfl,ke rfl,trivial⟩ (fun(m4:List Bl) (s6:DS) v4=>[(5,Aj v4 (lens (m4.map EU).length))]) (fun(m4:List Bl) (s6:DS) v4=>Hp M0 w0 S (Ax 113 8 (m4.map EU) v4::EP b s6::Ao M1 w1::rs)) (fun(m4:List Bl) (s6:DS)=>m4.length<=6*k+4/\JC e.Bu m4) ?_ ?_;refine Tr.seq (Tr.At (tm rfl (tm rfl ?_)));refine TO.cases 75 rfl (fun h8=>?_) (fun h8=>?_);have q8:=Fy.HC h8;refine TO.WM rfl rfl rfl h8 rfl AB (Lf rfl GG rfl rfl) (TO.WM rfl rfl rfl h8 rfl AB (FO rfl IF rfl) (TO.WM rfl rfl rfl h8 rfl AB (Aa rfl (dR) ⟨ke rfl,ke rfl,trivial⟩) (tp rfl (Uz rfl rfl h8 rfl) (tm rfl ?_))));refine TO.cases 80 rfl (fun h9=>?_) (fun h9=>?_);have q9:=Fy.HC h9;refine TO.WM rfl rfl rfl h9 rfl AB (BX rfl (vl rfl)) (TO.ACE 1 rfl rfl rfl h9 rfl rfl AB (Au rfl rfl AB rfl (DB AA AA) ⟨ke rfl,ke rfl,trivial⟩) (TO.WM rfl rfl rfl h9 rfl AB (ki rfl rfl rfl rfl) (tp rfl (Uz rfl rfl h9 rfl) (TO.nil (Fin.go (Pb 0 5 6 7 8 9 10 23 24 25 84 rfl ?_))))));refine Tr.cn rfl ?_ ?_<;>intro h10 NT
 refine Tr.At (tm rfl (tm rfl (tp rfl (Al (rows:=[(0,[_]),(1,[_]),(2,[_])]) rfl NI GS ⟨⟨rfl,(Vo rfl)⟩,⟨⟨rfl,(Vo rfl)⟩,⟨⟨rfl,(Vo rfl)⟩,trivial⟩⟩⟩ rfl) (tp rfl (AX (xs:=[.tmp 87]) (rows:=[EU ⟨((k:Nat):Int),2,2,0,⟨0,0,0,[]⟩⟩]) rfl rfl underlying42 CD I3 rfl AB ⟨⟨Ab,VL.le (vl rfl) (Pr.le_trans (Az (qs:=EU _) ⟨Lr,Lr,Lr,Lr,Lr,Lr,Lr,Nl,trivial⟩) (AJ _))⟩,trivial⟩ AB) ?_))));refine TO.EV 0 rfl rfl AB (DN rfl rfl AB rfl underlying42 CD TI I3 rfl AB AB (vl rfl) (Kf rfl) (Ar fun _=>rfl) (Nat.zero_lt_succ _) J9 J_) (fun v4=>?_);refine tm rfl (TO.nil ?_);exact Fin.EJ (m3++[⟨((k:Nat):Int),2,2,0,⟨0,0,0,[]⟩⟩]) (_) v4 (⟨by simp;omega,dV.snoc ⟨by show 0<=((k:Nat):Int);omega,by show((k:Nat):Int)<_;omega,by dsimp only;omega⟩⟩) ⟨⟨_,rfl,CT Ai⟩,ke rfl,ke rfl,ke rfl,ke rfl,ke rfl,ke rfl,ke rfl,ke rfl,ke rfl,trivial⟩ (fun _ _ h=>Mw);refine Tr.skip (Fin.EJ (m3) (_) v3 (⟨by omega,dV⟩) ⟨⟨_,rfl,CT Ai⟩,ke rfl,ke rfl,ke rfl,ke rfl,ke rfl,ke rfl,ke rfl,ke rfl,ke rfl,trivial⟩ (fun _ _ h=>h));have q9:=Fy.HC h9;refine TO.Y4 rfl rfl rfl (EH h9) rfl AB (TO.Y4 rfl rfl rfl (EH h9) rfl AB (TO.Y4 rfl rfl rfl (EH h9) rfl AB (tp rfl (SZ rfl rfl h9 rfl) (TO.nil (Fin.go (Pb 0 5 6 7 8 9 10 23 24 25 84 rfl (Tr.cond rfl (fun h=>nomatch h) (fun _=>?_))))))));refine Tr.skip (Fin.EJ (m3) (_) v3 (⟨by omega,dV⟩) ⟨⟨_,rfl,CT Ai⟩,ke rfl,ke rfl,ke rfl,ke rfl,ke rfl,ke rfl,ke rfl,ke rfl,ke rfl,trivial⟩ (fun _ _ h=>h));have q8:=Fy.HC h8;refine TO.Y4 rfl rfl rfl (EH h8) rfl AB (TO.Y4 rfl rfl rfl (EH h8) rfl AB (TO.Y4 rfl rfl rfl (EH h8) rfl AB (tp rfl (SZ rfl rfl h8 rfl) (tm rfl (TO.Y4 rfl rfl rfl (EH rfl) rfl AB (TO.Y4 rfl rfl rfl (EH rfl) rfl AB (TO.Y4 rfl rfl rfl (EH rfl) rfl AB (tp rfl (SZ rfl rfl rfl rfl) (TO.nil (Fin.go (Pb 0 5 6 7 8 9 10 23 24 25 84 rfl (Tr.cond rfl (fun h=>nomatch h) (fun _=>?_)))))))))))));refine Tr.skip (Fin.EJ (m3) (_) v3 (⟨by omega,dV⟩) ⟨⟨_,rfl,CT Ai⟩,ke rfl,ke rfl,ke rfl,ke rfl,ke rfl,ke rfl,ke rfl,ke rfl,ke rfl,trivial⟩ (fun _ _ h=>h));rintro m4 s6 v4 ⟨AHM,nK⟩;refine Tr.seq (Tr.Bo (cm rfl (cm rfl ?_)));refine Ch.cs 91 rfl ?_ ?_<;>intro h11 Rl
 refine cy h11 rfl (Lf rfl Yu rfl rfl) (cy h11 rfl (FO rfl DP rfl) (cy h11 rfl (ki rfl rfl rfl rfl) (co rfl (Uz rfl rfl h11 rfl) (Ch.nil (Fin.go (jx 0 5 6 7 8 9 23 24 25 95 rfl ?_))))));refine Tr.cn rfl ?_ ?_<;>intro h12 Tn
 refine Tr.At (tm rfl (tm rfl (tp rfl (Al (rows:=[(0,[_]),(1,[_]),(2,[_])]) rfl NI GS ⟨⟨rfl,(Vo rfl)⟩,⟨⟨rfl,(Vo rfl)⟩,⟨⟨rfl,(Vo rfl)⟩,trivial⟩⟩⟩ rfl) (tm rfl (tp rfl (Al (rows:=[(0,[_]),(1,[_]),(2,[_])]) rfl NI GS ⟨⟨rfl,(Vo rfl)⟩,⟨⟨rfl,(Vo rfl)⟩,⟨⟨rfl,(Vo rfl)⟩,trivial⟩⟩⟩ rfl) (tp rfl (AX (xs:=[.tmp 98,.tmp 100]) (rows:=[EU ⟨((k:Nat):Int),3,4,0,⟨0,0,0,[]⟩⟩,EU ⟨((k:Nat):Int),1,14,0,⟨0,0,0,[]⟩⟩]) rfl rfl underlying42 CD I3 rfl AB ⟨⟨Ab,VL.le (vl rfl) (Pr.le_trans (Az (qs:=EU _) ⟨Lr,Lr,Lr,Lr,Lr,Lr,Lr,Nl,trivial⟩) (AJ _))⟩,⟨⟨Ab,VL.le (vl rfl) (Pr.le_trans (Az (qs:=EU _) ⟨Lr,Lr,Lr,Lr,Lr,Lr,Lr,Nl,trivial⟩) (AJ _))⟩,trivial⟩⟩ AB) ?_))))));refine TO.EV 0 rfl rfl AB (DN rfl rfl AB rfl underlying42 CD TI I3 rfl AB AB (vl rfl) (Kf rfl) (Ar fun _=>rfl) (Nat.zero_lt_succ _) J9 J_) (fun v5=>?_);refine tm rfl (TO.nil (Fin.block (Fin.go (wk8 0 5 6 7 8 23 24 25 rfl (Tr.Bo (WL rfl rfl rfl rfl AA (cm rfl (Ch.nil ?_))))))));exact Fin.FW (k+1) (m4++[⟨((k:Nat):Int),3,4,0,⟨0,0,0,[]⟩⟩,⟨((k:Nat):Int),1,14,0,⟨0,0,0,[]⟩⟩]) (_) v5 (⟨⟨by omega,by simp;omega,nK.two ⟨by show 0<=((k:Nat):Int);omega,by show((k:Nat):Int)<_;omega,by dsimp only;omega⟩ ⟨by show 0<=((k:Nat):Int);omega,by show((k:Nat):Int)<_;omega,by dsimp only;omega⟩⟩,by omega⟩) ⟨⟨_,rfl,AK k⟩,⟨_,rfl,CT Ai⟩,ke rfl,ke rfl,ke rfl,ke rfl,ke rfl,ke rfl,trivial⟩ (fun _ _ h=>Mw);refine Tr.skip (Fin.block (Fin.go (Tr.Bo (WL rfl rfl rfl rfl AA (cm rfl (Ch.nil (Fin.FW (k+1) (m4) (_) v4 (⟨⟨by omega,by omega,nK⟩,by omega⟩) ⟨⟨_,rfl,AK k⟩,⟨_,rfl,CT Ai⟩,ke rfl,ke rfl,ke rfl,ke rfl,ke rfl,ke rfl,trivial⟩ (fun _ _ h=>h))))))));refine cnt h11 rfl (cnt h11 rfl (cnt h11 rfl (co rfl (SZ rfl rfl h11 rfl) (Ch.nil (Fin.go (jx 0 5 6 7 8 9 23 24 25 95 rfl (Tr.cond rfl (fun h=>nomatch h) (fun _=>?_))))))));refine Tr.skip (Fin.block (Fin.go (Tr.Bo (WL rfl rfl rfl rfl AA (cm rfl (Ch.nil (Fin.FW (k+1) (m4) (_) v4 (⟨⟨by omega,by omega,nK⟩,by omega⟩) ⟨⟨_,rfl,AK k⟩,⟨_,rfl,CT Ai⟩,ke rfl,ke rfl,ke rfl,ke rfl,ke rfl,ke rfl,trivial⟩ (fun _ _ h=>h))))))));have:=h1;refine Tr.exit (Fin.BF (Fin.BF (Fin.B1 (Fin.go (Tr.seq (Tr.block ?_))))));rcases Nat.eq_zero_or_pos ms.length with h0|h0
 refine Tr.BV [(0,_)] ⟨ke rfl,trivial⟩ (fun _=>[(5,Aj v (lens (ms.map EU).length))]) (fun _=>True) (fun _=>0) () (trivial) ⟨ke rfl,trivial⟩ ?_;rintro _ _;refine Tr.seq (Tr.seq (Tr.Bo (cm rfl (co rfl (RW rfl underlying42 (Kb rfl)) (co rfl (ki rfl rfl rfl rfl) (Ch.nil (Fin.go ?_)))))));refine Tr.cn rfl ?_ ?_<;>intro LX YN
 exfalso;have h_:=Fy.HC LX;rw[List.length_map]at h_;omega;have:=LX;refine Tr.exit (Fin.BF (Fin.BF (Fin.B1 (Fin.go (Tr.seq (Tr.seq ?_))))));have hv4:=s2.D_ (n:=4) AA;refine Tr.At (tm rfl (TO.LC 1 rfl rfl AB (Au rfl rfl AB rfl (DB AA AA) ⟨ke rfl,ke rfl,trivial⟩) (tm rfl (TO.nil (Fin.go (Tr.block (Tr.GF [(0,_)] ⟨ke rfl,trivial⟩ (fun(q:Int) (s9:DS)=>[(11,int q),(5,Aj v (lens (ms.map EU).length))]) (fun(q:Int) (s9:DS)=>Hp M0 w0 S (Ax 113 8 (ms.map EU) v::EP b s9::Ao M1 w1::rs)) (fun(q:Int) (s9:DS)=>True) (fun(q:Int) (s9:DS)=>q.toNat) (_) (_)  (trivial) ⟨ke rfl,ke rfl,trivial⟩ (fun _ _ h=>h) ?_)))))));rintro q s9  _;refine Tr.seq (Tr.seq (Tr.Bo (cm rfl (co rfl (ki rfl rfl rfl rfl) (cm rfl ?_)))));refine Ch.cs 116 rfl ?_ ?_<;>intro MW mY
 refine JW MW rfl (cy MW rfl (RW rfl underlying42 (Kb rfl)) (cy MW rfl (ki rfl rfl rfl rfl) (co rfl (Uz rfl rfl MW rfl) (Ch.nil (Fin.go ?_)))));refine Tr.cn rfl ?_ ?_<;>intro Ss pS
 exfalso;have h_:=Fy.HC Ss;rw[List.length_map]at h_;omega;have:=Ss;refine Tr.exit (Fin.BF (Fin.BF (Fin.B1 (Fin.go (Tr.seq (Tr.VH 0 5 rfl rfl (Ar fun _=>rfl) (Tr.Bo (cm rfl (cm rfl (Ch.nil (Fin.go (Tr.ret (Fin.L_ 1 _ rfl rfl (Fin.HD [_] rfl (AL.tmp rfl (Lr)) ?_ (fun _ _ _ _=>rfl)))))))))))))))
 .exact Pr.le_trans (A0 _ _) (V0 T0 AA)
 refine cnt MW rfl (cnt MW rfl (cnt MW rfl (co rfl (SZ rfl rfl MW rfl) (Ch.nil (Fin.go (Tr.cond rfl (fun h=>nomatch h) (fun _=>?_)))))));refine Tr.exit (Fin.BF (Fin.BF (Fin.B1 (Fin.go (Tr.seq (Tr.VH 0 5 rfl rfl (Ar fun _=>rfl) (Tr.Bo (cm rfl (cm rfl (Ch.nil (Fin.go (Tr.ret (Fin.L_ 1 _ rfl rfl (Fin.HD [_] rfl (AL.tmp rfl (Lr)) ?_ (fun _ _ _ _=>rfl)))))))))))))))
 .exact Pr.le_trans (A0 _ _) (V0 T0 AA)
 refine Tr.AB7 (sz:=8) 0 rfl (by intro h_;simp at h_;rw[h_]at h0;simp at h0) fun b9 ADZ sp9 hv9 hg9 hm9 hs9=>?_;subst hv9;rw[List.length_map]at hg9 hs9;refine Tr.GD [(0,_)] ⟨ke rfl,trivial⟩ (fun(m:Nat)=>[(5,is (.slice (some ⟨b9,0,none⟩) m ADZ))]) (fun(m:Nat)=>Hp M0 w0 S (AE true b9 113 ((ms.map EU).flatten++sp9.map is)::EP b s2::Ao M1 w1::rs)) (fun(m:Nat)=>1<=m/\m<=ms.length) (fun(m:Nat)=>m) (ms.length)  (⟨h0,Nat.le_refl _⟩) ⟨⟨_,rfl,Pr.le_trans (Cy _ _) (Pr.le_of_eq JM)⟩,trivial⟩ (fun _ _ h=>h) ?_;rintro m  ⟨hm1,hm2⟩;refine Tr.seq (Tr.seq (Tr.Bo (cm rfl (co rfl (ET rfl underlying42 (vl rfl)) (co rfl (ki rfl rfl rfl rfl) (Ch.nil (Fin.go ?_)))))));refine Tr.cn rfl ?_ ?_<;>intro h16 q16
 have hm7:7<m:=by have:=Fy.HC h16;omega
 refine Tr.skip (Fin.go (Tr.block (Tr.Bo (cm rfl (cm rfl (co rfl (ET rfl underlying42 (vl rfl)) (csu rfl rfl rfl rfl AA (co rfl (Fu rfl underlying42 CD (vl rfl) (vl rfl) AA AA AA AA) (cm rfl (Ch.nil (Fin.block ?_)))))))))));exact Fin.ES (m-1)  (⟨⟨by omega,by omega⟩,by omega⟩) ⟨⟨_,rfl,Pr.le_of_eq (by congr 2;omega)⟩,ke rfl,trivial⟩ (fun _ _ h=>h);have hm7:m<=7:=by have:=Fy.HC h16;omega
 refine Tr.exit (Fin.BF (Fin.BF (Fin.B1 (Fin.go (Tr.seq (Tr.seq ?_))))));have hv4:=s2.D_ (n:=4) AA;refine Tr.At (tm rfl (TO.LC 1 rfl rfl AB (Au rfl rfl AB rfl (DB AA AA) ⟨ke rfl,ke rfl,trivial⟩) (tm rfl (TO.nil (Fin.go (Tr.block (Tr.RM [(0,_)] ⟨ke rfl,trivial⟩ (fun(q:Int) (ns:List Bl) (s9:DS)=>[(11,int q),(5,is (.slice (some ⟨b9,0,none⟩) m ADZ))]) (fun(q:Int) (ns:List Bl) (s9:DS)=>Hp M0 w0 S (AE true b9 113 ((ns.map EU).flatten++sp9.map is)::EP b s9::Ao M1 w1::rs)) (fun(q:Int) (ns:List Bl) (s9:DS)=>(ns.length=ms.length/\q<=3)/\JC e.Bu ns) (fun(q:Int) (ns:List Bl) (s9:DS)=>q.toNat) (_) (ms) (_)  (⟨⟨rfl,by omega⟩,T0⟩) ⟨ke rfl,ke rfl,trivial⟩ (fun _ _ h=>h) ?_)))))));rintro q ns s9  ⟨⟨hn1,hn3⟩,hn2⟩;refine Tr.seq (Tr.seq (Tr.Bo (cm rfl (co rfl (ki rfl rfl rfl rfl) (cm rfl ?_)))));refine Ch.cs 116 rfl ?_ ?_<;>intro PK pR
 refine JW PK rfl (cy PK rfl (ET rfl underlying42 (vl rfl)) (cy PK rfl (ki rfl rfl rfl rfl) (co rfl (Uz rfl rfl PK rfl) (Ch.nil (Fin.go ?_)))));refine Tr.cn rfl ?_ ?_<;>intro Sa q18
 have hq1:=Fy.HC Sa;refine Tr.skip (Fin.go (Tr.seq (Tr.block (Tr.seq ?_))));have hvm:=s9.D_ (n:=((m:Nat):Int)-1) AA;refine Tr.At (tm rfl (tm rfl (tp rfl (ET rfl underlying42 (vl rfl)) ?_)));refine tp rfl (Uq rfl (vl rfl) (vl rfl) ?hin) ?_;case hin=>unfold Sb;omega
 refine TO.LC 1 rfl rfl AB (Au rfl rfl AB rfl (DB AA AA) ⟨ke rfl,ke rfl,trivial⟩) (tm rfl (TO.nil (Fin.go (wk4 0 5 11 12 rfl (Tr.Yl mixed [none,none,none,none,none,none,none,none,none,some (0,0,false,0),none,none,none,some (0,0,false,0),none,some (0,0,true,0),none,some (0,0,true,0)] BQ ?_)))))
 iterate 4 refine xm rfl ?_
 refine xo rfl (fun _=>Hf rfl (vl rfl) (vl rfl) ?hin) ?_;case hin=>unfold Sb;omega
 refine xm rfl (xm rfl ?_);refine xo rfl (fun _=>Hf rfl (vl rfl) (vl rfl) ?hin) ?_;case hin=>unfold Sb;omega
 refine xo rfl (fun _=>CX rfl underlying42 CD (vl rfl) (vl rfl) AA AA) (Jv 0 rfl rfl (Di rfl Ck CD (vl rfl) (TS (f:=EU) (fun _=>rfl) AA) rfl) (xm rfl (xm rfl (xo rfl (fun _=>CX rfl underlying42 CD (vl rfl) (vl rfl) AA AA) (Jv 0 rfl rfl (Di rfl Ck CD (vl rfl) (TS (f:=EU) (fun _=>rfl) AA) rfl) (xo rfl (fun _=>CX rfl underlying42 CD (vl rfl) (vl rfl) AA AA) ?_))))));refine Cx.ED 0 rfl rfl (BP rfl rfl (vl rfl) (Va rfl) CD rfl (by rw[TQ (sz:=8) (fun _=>rfl)];omega) (RU (f:=EU) (fun _=>rfl) AA)) ?_;refine xo rfl (fun _=>CX rfl underlying42 CD (vl rfl) (vl rfl) AA AA) ?_;refine Cx.ED 0 rfl rfl (BP rfl rfl (vl rfl) (Va rfl) CD rfl (by rw[TQ (sz:=8) (fun _=>rfl)];simp only[List.length_set];omega) (RU (f:=EU) (fun _=>rfl) (by simp only[List.length_set];omega))) ?_;refine Cx.nil ⟨rfl,?_⟩;refine BG.done (Cu.cons (Cu.cons (Cu.cons (Cu.map _)))) (Fin.block (Fin.go (wk3 0 5 11 rfl (Tr.Bo (cm rfl (csu rfl rfl rfl rfl AA (cm rfl (Ch.nil (Fin.Gx (q-1) (_) (_)  (⟨⟨⟨(RV AA AA).length_eq.trans hn1,by omega⟩,JC.perm (RV AA AA) hn2⟩,by omega⟩) ⟨⟨_,rfl,int_eq AA⟩,ke rfl,ke rfl,trivial⟩ (fun _ _ h=>h))))))))));have:=Sa;refine Tr.exit (Fin.BF (Fin.BF (Fin.B1 (Fin.go (Tr.seq (Tr.eqC 0 (((ns.take m).map EU).flatten++(((ns.drop m).map EU).flatten++sp9.map is)) rfl aY ?_))))));have hnt:(ns.take m).length=m:=by rw[List.length_take];omega
 refine Tr.Sm (sz:=8) ((ns.take m).map EU) 0 5 rfl rfl (Pr.le_of_eq (by rw[List.length_map,hnt])) (Ar fun _=>rfl) Cg hm9 jc ?_;refine Tr.Bo (cm rfl (cm rfl (Ch.nil (Fin.go (Tr.ret (Fin.L_ 1 _ rfl rfl (Fin.HD [_] rfl (AL.tmp rfl (Lr)) ?_ (fun _ _ _ _=>rfl))))))))
 .exact Pr.le_trans (A0 _ _) (V0 hn2.take AA)
 refine cnt PK rfl (cnt PK rfl (cnt PK rfl (co rfl (SZ rfl rfl PK rfl) (Ch.nil (Fin.go (Tr.cond rfl (fun h=>nomatch h) (fun _=>?_)))))));refine Tr.exit (Fin.BF (Fin.BF (Fin.B1 (Fin.go (Tr.seq (Tr.eqC 0 (((ns.take m).map EU).flatten++(((ns.drop m).map EU).flatten++sp9.map is)) rfl aY ?_))))));have hnt:(ns.take m).length=m:=by rw[List.length_take];omega
 refine Tr.Sm (sz:=8) ((ns.take m).map EU) 0 5 rfl rfl (Pr.le_of_eq (by rw[List.length_map,hnt])) (Ar fun _=>rfl) Cg hm9 jc ?_;refine Tr.Bo (cm rfl (cm rfl (Ch.nil (Fin.go (Tr.ret (Fin.L_ 1 _ rfl rfl (Fin.HD [_] rfl (AL.tmp rfl (Lr)) ?_ (fun _ _ _ _=>rfl))))))))
 .exact Pr.le_trans (A0 _ _) (V0 hn2.take AA)
structure Sw(n:Int)(k:Nat)(l:List Int):Prop where
 at_:∀j,j<l.length->setAt n l j=true
 lt:∀x∈l,x<(k:Int)
 len:l.length<=k
theorem Sw.nil(n:Int)(k:Nat):Sw n k []:=⟨fun j hj=>by simp at hj,fun x hx=>by simp at hx,by simp⟩
theorem Sw.step{n:Int}(h:Sw n k l):Sw n (k+1) l:=⟨h.at_,fun x hx=>by have:=h.lt x hx;omega,by have:=h.len;omega⟩
theorem Sw.snoc{n:Int}(h:Sw n k l)(hk:(k:Int)<n):Sw n (k+1) (l++[(k:Int)]):=by
 refine⟨fun j hj=>?_,fun x hx=>?_,by have:=h.len;simp;omega⟩
 .
  rw[List.length_append]at hj;simp at hj;rcases Nat.lt_or_ge j l.length with hl|hl
  .
   have:=h.at_ j hl;unfold setAt at this ⊢;rw[List.getElem?_append_left hl,List.getElem?_append_left (show j-1<l.length by omega)];exact this
  .
   have:j=l.length:=by omega
   subst this;unfold setAt;rw[List.getElem?_append_right (Nat.le_refl _),Nat.sub_self];rcases Nat.eq_zero_or_pos l.length with hz|hz
   .
    obtain rfl:=List.eq_nil_of_length_eq_zero hz;simp;omega
   .
    obtain⟨y,hy⟩:=Cp.at_ (l:=l) (k:=l.length-1) AA;rw[List.getElem?_append_left (show l.length-1<l.length by omega),hy];have:=h.lt y (List.mem_of_getElem? hy);simp;omega
 .
  rcases List.mem_append.1 hx with hx|hx
  .have:=h.lt x hx;omega
  .simp at hx;subst hx;omega
theorem Sw.set{n:Int}(h:Sw n k l):D6 n l=true:=B0.2 h.at_
def usL:List (Int×Int):=[(2,0),(1,0),(5,2048),(16,128),(3,0),(15,168)]
def dW(v:Int):Int×Int:=usL[v.toNat]?.getD (2,0)
theorem ADa{v:Int}(h:0<=v/\v<6):(usL.map fun u=>[int u.1,int u.2])[v.toNat]? =some [int (dW v).1,int (dW v).2]:=by
 have hl:v.toNat<usL.length:=by show v.toNat<6;omega
 unfold dW;rw[List.getElem?_map,List.getElem?_eq_getElem hl];rfl
theorem yu:∀u∈usL,CJ u.1 u.2>0:=by decide+kernel
theorem vn(v:Int):CJ (dW v).1 (dW v).2>0:=by
 unfold dW;cases h:usL[v.toNat]? with
 |none=>decide+kernel
 |some u=>exact yu u (List.mem_of_getElem? h)
def Mi:Nat->DS->Int->List Xe->List Xe×Int×DS
 |0,s,day,l=>(l,day,s)
 |k+1,s,day,l=>Mi k s.C1.C1 (day+1+s.C1.of [5,30,0,100]) (l++[⟨(dW (s.val 6)).1,(dW (s.val 6)).2,day⟩])
abbrev Eg(s:DS):List Xe×Int×DS:=Mi (1+s.C1.C1.C1.val 3).toNat s.C1.C1.C1.C1 (s.C1.C1.val 20) []
def T2(s:DS)(name:List UInt8):Od:=⟨name,1+s.val 2,1+s.C1.val 4,(Eg s).1,((Eg s).1[0]?.getD E7).day+(Eg s).2.2.of [50,300,0,3000]⟩
def ADb(s:DS):DS:=(Eg s).2.2.C1
structure gV(l:List Xe)(day:Int):Prop where
 lo:0<=day
 hi:day<=20+101*(l.length:Nat)
 at_:∀j,j<l.length->FZ l j=true
 lt:∀x∈l,x.day<day
theorem Xf{l:List Xe}{day d:Int}{u:Int×Int}(h:gV l day)(h3:l.length<=3)(hu:CJ u.1 u.2>0)(hd:0<=d/\d<=100):gV (l++[⟨u.1,u.2,day⟩]) (day+1+d):=by
 have h0:=h.lo;have h1:=h.hi;refine⟨by omega,by rw[List.length_append];simp;omega,fun j hj=>?_,fun x hx=>?_⟩
 .
  rw[List.length_append]at hj;simp at hj;rcases Nat.lt_or_ge j l.length with hl|hl
  .
   have:=h.at_ j hl;unfold FZ at this ⊢;rw[List.getElem?_append_left hl,List.getElem?_append_left (show j-1<l.length by omega)];exact this
  .
   have:j=l.length:=by omega
   subst this;unfold FZ;rw[List.getElem?_append_right (Nat.le_refl _),Nat.sub_self];rcases Nat.eq_zero_or_pos l.length with hz|hz
   .
    obtain rfl:=List.eq_nil_of_length_eq_zero hz;simp[hu];simp at h1;omega
   .
    obtain⟨y,hy⟩:=at_ (l:=l) (k:=l.length-1) AA;rw[List.getElem?_append_left (show l.length-1<l.length by omega),hy];have:=h.lt y (List.mem_of_getElem? hy);simp[hu];omega
 .
  rcases List.mem_append.1 hx with hx|hx
  .have:=h.lt x hx;omega
  .simp at hx;subst hx;show day<_;omega
theorem Zi(s:DS):0<=s.of [5,30,0,100]/\s.of [5,30,0,100]<=100:=by have:=s.U1 (l:=[5,30,0,100]) Ai;simp at this;omega
theorem nL(s:DS):0<=s.of [50,300,0,3000]/\s.of [50,300,0,3000]<=3000:=by have:=s.U1 (l:=[50,300,0,3000]) Ai;simp at this;omega
theorem T3:∀(k:Nat) (s:DS) (day:Int) (l:List Xe),gV l day->l.length+k<=3->gV (Mi k s day l).1 (Mi k s day l).2.1/\(Mi k s day l).1.length=l.length+k
 |0,s,day,l,h,_=>⟨h,rfl⟩
 |k+1,s,day,l,h,hk=>by
  have:=T3 k s.C1.C1 (day+1+s.C1.of [5,30,0,100]) (l++[⟨(dW (s.val 6)).1,(dW (s.val 6)).2,day⟩]) (Xf h AA (vn _) (Zi _)) Ci;refine⟨this.1,?_⟩;show(Mi k _ _ _).1.length=_;rw[this.2];simp;omega
structure Zj(x:Od):Prop where
 ok:HG x=true
 name:x.name.length<=32
 links:x.links.length<=3
theorem dX{s:DS}{name:List UInt8}(hn:named name=true):Zj (T2 s name):=by
 have h2:=s.D_ (n:=2) AA;have h4:=s.C1.D_ (n:=4) AA;have Pf:=s.C1.C1.D_ (n:=20) AA;have h3:=s.C1.C1.C1.D_ (n:=3) AA;have hI:gV [] (s.C1.C1.val 20):=⟨by omega,by simp;omega,fun j hj=>by simp at hj,fun x hx=>by simp at hx⟩;obtain⟨hL,hl⟩:=T3 (1+s.C1.C1.C1.val 3).toNat s.C1.C1.C1.C1 (s.C1.C1.val 20) [] hI Ci;simp only[List.length_nil,Nat.zero_add]at hl;have hlen:(Eg s).1.length=(1+s.C1.C1.C1.val 3).toNat:=hl;have hu:=nL (Eg s).2.2;obtain⟨c,hc⟩:=at_ (l:=(Eg s).1) (k:=0) AA;have hg:=getD_at (d:=E7) hc;have hc1:=hL.lt c (List.mem_of_getElem? hc);have hc2:=hL.hi;refine⟨Fz.2 ⟨hn,?_,?_,?_,?_,?_,hL.at_,?_,?_⟩,LL hn,?_⟩
 .show 1+s.val 2=1\/1+s.val 2=2;omega
 .show 1<=1+s.C1.val 4;omega
 .show 1+s.C1.val 4<=4;omega
 .show 1<=(Eg s).1.length;omega
 .show(Eg s).1.length<=8;omega
 .show((Eg s).1[0]?.getD E7).day<=((Eg s).1[0]?.getD E7).day+_;omega
 .show((Eg s).1[0]?.getD E7).day+_<=40000;rw[hg];omega
 .show(Eg s).1.length<=3;omega
theorem dY{b:Nat}{s:DS}{name:List UInt8}  :BM prog 29 [ptr b 0,str name] (agg (Ht (T2 s name))) (EP b s) (fun _=>EP b (ADb s)):=by
 refine BM.of func29 rfl rfl Ag fun M0 w0 S rs M1 w1=>?_;have PZ:=s.D_ (n:=2) AA;have hv4:=s.C1.D_ (n:=4) AA;have AHe:=s.C1.C1.D_ (n:=20) AA;have hv3:=s.C1.C1.C1.D_ (n:=3) AA;refine Tr.seq (Tr.At ?_);refine Tl rfl rfl rfl rfl z85 fD (fun b1=>?_);refine ao ?_;refine ao ?_;refine TO.LC 1 rfl rfl AB (Au rfl rfl AB rfl (DB AA AA) ⟨ke rfl,ke rfl,trivial⟩) ?_;refine ao ?_;refine TO.LC 1 rfl rfl AB (Au rfl rfl AB rfl (DB AA AA) ⟨ke rfl,ke rfl,trivial⟩) ?_;refine ao ?_;refine Tl rfl rfl rfl rfl z85 fD (fun b2=>?_);refine TO.Ac 0 rfl rfl rfl vq CM rfl I2 rfl rfl ?_;refine ao ?_;refine ao ?_;refine TO.LC 2 rfl rfl AB (Au rfl rfl AB rfl (DB AA AA) ⟨ke rfl,ke rfl,trivial⟩) ?_;refine ao ?_;refine wk [6,5,4,0] rfl ?_;refine ao ?_;refine TO.LC 2 rfl rfl AB (Au rfl rfl AB rfl (DB AA AA) ⟨ke rfl,ke rfl,trivial⟩) ?_;refine ao ?_;refine Tr.block (Tr.Hx 0 [str name,int (1+s.val 2),int (1+s.C1.val 4),Aj (.slice none 0 0) (nB []),is (.int .i64 0)] rfl ⟨Lr,Lr,Lr,DA rfl,Lr,trivial⟩ (Tr.Dt 127 3 ?_));refine Tr.j0 _ (kk [5,4,0] rfl) (fun(k:Int) (day:Int) (l:List Xe) (s2:DS) v=>[(7,int k),(6,int day)]) (fun(k:Int) (day:Int) (l:List Xe) (s2:DS) v=>Hp M0 w0 S (Bc 127 3 v::AE true b2 85 [str name,int (1+s.val 2),int (1+s.C1.val 4),Aj v (nB l),is (.int .i64 0)]::AE true b1 85 (([.string (ByteArray.mk #[]),.int .i64 0,.int .i64 0,.slice none 0 0,.int .i64 0]:List Value).map is)::EP b s2::Ao M1 w1::rs)) (fun(k:Int) (day:Int) (l:List Xe) (s2:DS)=>(0<=k/\k+l.length<=3/\1<=k+l.length/\gV l day)/\Mi k.toNat s2 day l=Eg s) (fun(k:Int) (day:Int) (l:List Xe) (s2:DS)=>k.toNat) (_) (_) ([]) (_) (.slice none 0 0) (⟨⟨by omega,by simp;omega,by simp;omega,⟨by omega,by simp;omega,fun j hj=>by simp at hj,fun x hx=>by simp at hx⟩⟩,rfl⟩) ⟨kq,kz⟩ (fun _ _ h=>h) ?_;rintro k day l s2 v ⟨⟨hk0,hk1,hk2,hL⟩,hR⟩;have hL0:=hL.lo;have hL1:=hL.hi;have hof:=Zi s2.C1;refine an ?_ ?_<;>intro h1 q1
 have hk3:0<k:=of_decide_eq_true h1;have hv6:=s2.D_ (n:=6) AA;refine ac ?_;refine ao ?_;refine TO.LC 3 rfl rfl AB (Au rfl rfl AB rfl (DB AA AA) ⟨ke rfl,ke rfl,trivial⟩) ?_;refine tp rfl (AD rfl underlying125 CR Ec vq AA (show(usL.map fun u=>[int u.1,int u.2])[_]? =_ from ADa hv6)) ?_;refine tp rfl (AO rfl Be CR vq rfl rfl) ?_;refine Tl rfl rfl rfl rfl z75 Cd (fun b3=>?_);refine sf 0 8 ⟨rfl,rfl,rfl⟩ rfl rfl rfl rfl ?_;refine ao ?_;refine wk [8,7,6,5,4,0] rfl ?_;refine ao ?_;refine TO.EV 0 rfl rfl AB (FI rfl rfl rfl rfl underlying83 HE kJ z127 Ij Ec (CA BW E4)) (fun v1=>?_);refine tp rfl (AG rfl U7 vq) (TO.ED 1 rfl rfl (BP rfl rfl vq Cf wm rfl Ag rfl) ?_);refine ao ?_;refine wk [7,6,5,4,0] rfl ?_;refine ao ?_;refine TO.LC 3 rfl rfl AB (Au rfl rfl AB rfl (cO (l:=[5,30,0,100]) Ai Ai) ⟨kq,Ec,trivial⟩) ?_;refine ao ?_;refine ac ?_;refine Fin.Hx 1 [str name,int (1+s.val 2),int (1+s.C1.val 4),Aj v1 (nB (l++[(⟨(dW (s2.val 6)).1,(dW (s2.val 6)).2,day⟩:Xe)])),is (.int .i64 0)] rfl ⟨Lr,Lr,Lr,CZ K0,Lr,trivial⟩ ?_;exact Fin.qE (k-1) (_) (l++[(⟨(dW (s2.val 6)).1,(dW (s2.val 6)).2,day⟩:Xe)]) (_) v1 (⟨⟨⟨by omega,by simp;omega,by simp;omega,Xf hL AA (vn _) (Zi _)⟩,by rw[←hR,show k.toNat=(k-1).toNat+1 by omega];rfl⟩,by omega⟩) ⟨⟨_,rfl,int_eq AA⟩,⟨_,rfl,int_eq AA⟩,kz⟩ (fun _ _ h=>h);have hk3:¬0<k:=of_decide_eq_false h1;obtain rfl:k=0:=by omega
 obtain⟨c0,hc0⟩:=at_ (l:=l) (k:=0) AA;have fH:=getD_at (d:=E7) hc0;have AHf:=hL.lt c0 (List.mem_of_getElem? hc0);have AHg:0<=c0.day:=by have h_:=hL.at_ 0 (A7 hc0);unfold FZ at h_;rw[fH]at h_;simp at h_;omega
 have AHh:=nL s2;have hR1:(Eg s).1=l:=by rw[←hR];rfl
 obtain rfl:s2=(Eg s).2.2:=by rw[←hR];rfl
 refine ac ?_;refine Tr.seq (Tr.rx ?_);refine ay ?_;refine xo rfl (fun _=>AD rfl underlying83 HE Ij vq AA (Ap (k:=0) hc0)) ?_;refine ay ?_;refine xo rfl (fun _=>oI) ?_;refine Cx.ef 3 rfl rfl AB (Au rfl rfl AB rfl (cO (l:=[50,300,0,3000]) Ai Ai) ⟨kq,Ec,trivial⟩) ?_;refine ay ?_;refine Cx.nil ⟨by kernel_rfl,?_⟩;refine BG.done al5 (Fin.go (wk [5,4] rfl ?_));refine ao ?_;refine TO.Ac 2 rfl rfl rfl vq CM rfl I2 rfl rfl ?_;refine ao ?_;refine Tr.ret (Fin.HD [_,_,_] rfl (AL.cell 2 rfl rfl TH I2 rfl Lr) ?_ (fun _ _ _ _=>rfl))
 .exact Az ⟨Lr,Lr,Lr,Pr.le_trans (A0 _ _) (Pr.le_of_eq (by show _=nB (Eg s).1;rw[hR1])),int_eq (by show _=((Eg s).1[0]?.getD E7).day+_;rw[hR1,fH]),trivial⟩
end Go.Proofs.YthommhphcagokaaGreatDoor
