/-
  Part 7 of the texts that prove this claim, merged.
-/
import Derived.Test.YtmocaapoeefgkaaGreatDoorRcUP6
set_option linter.all false
set_option maxRecDepth 40000
set_option maxHeartbeats 16000000
namespace Go.Proofs.YtmocaapoeefgkaaGreatDoor
open Go Go.RowKit Cp Go.Proofs.Tryz
theorem pU {e:Dp} {i:Nat} {x:Io} (h:FQ e=true) (hx:e.BW[i]? =some x):(0≤x.client∧x.client<(e.Bv.length:Nat))∧(0≤x.server∧x.server<(e.Bv.length:Nat)):=by
 have h1:=(FT.1 h).ed i (by rcases Nat.lt_or_ge i e.BW.length with h'|h';exact h';rw [List.getElem?_eq_none h'] at hx;cases hx)
 unfold Eh at h1
 rw [hx] at h1
 simp only [Option.getD_some,Bool.and_eq_true,decide_eq_true_eq] at h1
 omega
theorem iT {e:Dp} {i:Int} (hf:e.fits):BG prog 304 [agg (CM e),int i] (Cp.ex fun z:CA×CA×Int=>fact (z.2.2=0→z.1∈e.Bv∧z.2.1∈e.Bv) (Dz [agg (Bf z.1),agg (Bf z.2.1),int z.2.2])):=by
 refine fo func304 rfl ⟨rfl,rfl⟩ fun M0 w0=>(Tr.seq (Tr.An (tp rfl (Bb rfl Cs) ?_)))
 refine Tl rfl rfl rfl rfl z40 H9 (fun b1=> ?_)
 refine Tl rfl rfl rfl rfl z40 H9 (fun b2=> ?_)
 refine ap ?_
 refine ac ?_
 refine co rfl (Cq (D6 hf) rfl rfl) ?_
 refine an ?_ ?_<;>intro h1 q1
 refine ap ?_
 refine Tr.ret (Fin.AE (Fin.FK rfl (AM.cell 1 rfl rfl Ci CE rfl Lr) (AM.cell 0 rfl rfl Ci CE rfl Lr) (AM.tmp rfl Lr) ?_))
 · exact Ym
 have VT:FQ e=true:=by cases h_:FQ e with|true=>rfl|false=>exact absurd h1 Md
 refine ac ?_
 refine ag ?_ ?_<;>intro h2 q2
 refine ac ?_
 refine wk [20,5,4,2,1] rfl (Tr.cond rfl (fun _=> ?_) (fun h=>nomatch h))
 refine Tr.seq (Tr.An (tp rfl (Ak (rows:=[]) rfl rM H9 trivial rfl) (tp rfl (Ak (rows:=[]) rfl rM H9 trivial rfl) (TO.AK 1 rfl rfl rfl vq Cs rfl CE rfl rfl (TO.AK 0 rfl rfl rfl vq Cs rfl CE rfl rfl (tm rfl (TO.nil (Fin.go (Tr.ret (Fin.AE (Fin.FK rfl (AM.cell 1 rfl rfl Ci CE rfl Lr) (AM.cell 0 rfl rfl Ci CE rfl Lr) (AM.tmp rfl Lr) ?_)))))))))))
 · exact Ym
 refine ac ?_
 refine wk [20,5,4,2,1] rfl ?_
 refine Tr.cn rfl ?_ ?_<;>intro h3 q3
 refine ap ?_
 refine Tr.ret (Fin.AE (Fin.FK rfl (AM.cell 1 rfl rfl Ci CE rfl Lr) (AM.cell 0 rfl rfl Ci CE rfl Lr) (AM.tmp rfl Lr) ?_))
 · exact Ym
 obtain ⟨x,hx⟩:=at_ (l:=e.BW) (k:=i.toNat) AA
 obtain ⟨hxc,hxs⟩:=pU VT hx
 obtain ⟨c,hc⟩:=at_ (l:=e.Bv) (k:=x.client.toNat) AA
 obtain ⟨y,hy⟩:=at_ (l:=e.Bv) (k:=x.server.toNat) AA
 refine ac ?_
 refine Tr.seq (Tr.rx ?_)
 refine ay ?_
 refine xo rfl (fun _=>AD rfl underlying28 Ew vq vq AA (Bh hx)) ?_
 refine ay ?_
 refine xo rfl (fun _=>AD rfl underlying27 CE vq vq AA (Bh hc)) ?_
 refine ay ?_
 refine xo rfl (fun _=>AD rfl underlying28 Ew vq vq AA (Bh hx)) ?_
 refine ay ?_
 refine xo rfl (fun _=>AD rfl underlying27 CE vq vq AA (Bh hy)) ?_
 refine ay ?_
 refine Cx.nil ⟨by kernel_rfl,?_⟩
 refine BE.done YV (Fin.go (wk [6,5,4] rfl (Tr.ret (Fin.FK rfl (AM.cell 1 rfl rfl Ci CE rfl Lr) (AM.cell 0 rfl rfl Ci CE rfl Lr) (AM.tmp rfl Lr) ?_))))
 · exact Ax (c,y,_) (A_ (fun _=>⟨List.mem_of_getElem? hc,List.mem_of_getElem? hy⟩) Lr)
theorem SK {e:Dp} {i day:Int} (hf:e.fits):BG prog 288 [agg (CM e),int i,int day] (Cp.ex fun z:Int×Int×Int=>fact True (Dz [agg [int z.1,int z.2.1],int z.2.2])):=by
 refine fo func288 rfl ⟨rfl,rfl⟩ fun M0 w0=>(Tr.seq (Tr.An (tp rfl (Bb rfl Cs) ?_)))
 refine Tl rfl rfl rfl rfl Jm Fg (fun b1=> ?_)
 refine ao ?_
 refine ao ?_
 refine tp rfl (CL (iT hf) rfl rfl rfl) ?_
 refine TO.ex 14 rfl (fun z1=>TO.fact 14 rfl fun Ef=> ?_)
 refine ao ?_
 refine Tl rfl rfl rfl rfl z40 H9 (fun b2=> ?_)
 refine Tl rfl rfl rfl rfl z40 H9 (fun b3=> ?_)
 refine sf 1 8 ⟨rfl,rfl,rfl⟩ rfl rfl rfl rfl ?_
 refine sf 0 9 ⟨rfl,rfl,rfl⟩ rfl rfl rfl rfl ?_
 refine ao ?_
 refine wk [10,9,8,6,2] rfl ?_
 refine an ?_ ?_<;>intro h1 q1
 refine ao ?_
 refine TO.AK 0 rfl rfl rfl vq Cs rfl CI rfl rfl ?_
 refine ao ?_
 refine Tr.ret (Fin.AE (Fin.BT rfl (AM.cell 0 rfl rfl C2 CI rfl Lr) (AM.tmp rfl Lr) ?_))
 · exact Eg
 have hz0:z1.2.2=0:=by have:=q1;omega
 refine ac ?_
 refine ao ?_
 refine tp rfl (Jn (Xt (hf.Bv _ (Ef hz0).1).2 (hf.Bv _ (Ef hz0).2).2) rfl rfl rfl rfl) ?_
 refine TO.ex 25 rfl (fun z2=>TO.fact 25 rfl fun Iv=> ?_)
 refine ao ?_
 refine TO.AK 0 rfl rfl rfl vq Cs rfl CI rfl rfl ?_
 refine ao ?_
 refine wk [7,6] rfl (Tr.ret (Fin.BT rfl (AM.cell 0 rfl rfl C2 CI rfl Lr) (AM.tmp rfl Lr) ?_))
 · exact Eg
theorem Ov {e:Dp} {i from_ Nz:Int} (hf:e.fits):BG prog 256 [agg (CM e),int i,int from_,int Nz] (Cp.ex fun z:Int×Int×Int=>fact True (Dz [agg [int z.1,int z.2.1],int z.2.2])):=by
 refine fo func256 rfl ⟨rfl,rfl⟩ fun M0 w0=>(Tr.seq (Tr.An (tp rfl (Bb rfl Cs) ?_)))
 refine Tl rfl rfl rfl rfl Jm Fg (fun b1=> ?_)
 refine ao ?_
 refine ao ?_
 refine tp rfl (Jn (SK hf) rfl rfl rfl rfl) ?_
 refine TO.ex 16 rfl (fun z1=>TO.fact 16 rfl fun Ef=> ?_)
 refine ao ?_
 refine Tl rfl rfl rfl rfl Jm Fg (fun b2=> ?_)
 refine sf 0 10 ⟨rfl,rfl,rfl⟩ rfl rfl rfl rfl ?_
 refine ao ?_
 refine wk [11,10,8,4,3,2,1] rfl ?_
 refine an ?_ ?_<;>intro h1 q1
 refine ao ?_
 refine TO.AK 0 rfl rfl rfl vq Cs rfl CI rfl rfl ?_
 refine ao ?_
 refine Tr.ret (Fin.AE (Fin.BT rfl (AM.cell 0 rfl rfl C2 CI rfl Lr) (AM.tmp rfl Lr) ?_))
 · exact Eg
 refine ac ?_
 refine ao ?_
 refine tp rfl (Jn (SK hf) rfl rfl rfl rfl) ?_
 refine TO.ex 27 rfl (fun z2=>TO.fact 27 rfl fun Iv=> ?_)
 refine ao ?_
 refine wk [11,10,8,3,2] rfl ?_
 refine an ?_ ?_<;>intro h2 q2
 refine ao ?_
 refine TO.AK 0 rfl rfl rfl vq Cs rfl CI rfl rfl ?_
 refine ao ?_
 refine Tr.ret (Fin.AE (Fin.BT rfl (AM.cell 0 rfl rfl C2 CI rfl Lr) (AM.tmp rfl Lr) ?_))
 · exact Eg
 refine ac ?_
 refine an ?_ ?_<;>intro h3 q3
 refine ao ?_
 refine TO.AK 0 rfl rfl rfl vq Cs rfl CI rfl rfl ?_
 refine ao ?_
 refine Tr.ret (Fin.AE (Fin.BT rfl (AM.cell 0 rfl rfl C2 CI rfl Lr) (AM.tmp rfl Lr) ?_))
 · exact Eg
 refine ac ?_
 refine ao ?_
 refine TO.AK 0 rfl rfl rfl vq Cs rfl CI rfl rfl ?_
 refine ao ?_
 refine Tr.ret (Fin.BT rfl (AM.cell 0 rfl rfl C2 CI rfl Lr) (AM.tmp rfl Lr) ?_)
 · exact Ax (z1.1,z1.2.1,0) (A_ trivial Lr)
abbrev SL:Pr:=slice 7 []
abbrev NN:Pr:=agg [slice 6 [],slice 2 []]
abbrev WC:Pr:=agg [slice 1 [],int 0]
theorem Ow   :BG prog 174 [NN] (int 0):=by
 refine BG.of func174 rfl rfl Ao fun M0 w0=> ?_
 refine Tr.seq (Tr.Aj (co rfl (Bb rfl (Va rfl)) (cm rfl (Ch.nil (Fin.go (Tr.seq (Tr.seq (Tr.Aj (co rfl (NT rfl VH rfl rfl) (co rfl (Fw rfl ZK rfl) (co rfl (Ce rfl underlying111 (vl rfl)) (co rfl (ki rfl rfl rfl rfl) (cm rfl ?_)))))))))))))
 refine Ch.cs 9 rfl ?_ ?_<;>intro h1 q1
 iterate 4 refine cnf h1 rfl ?_
 refine co rfl (Pk rfl rfl h1 rfl) (Ch.nil (Fin.go (Tr.cond rfl (fun _=> ?_) (fun h=>nomatch h))))
 refine Tr.seq (Tr.Aj (cm rfl (Ch.nil (Fin.go (Tr.ret (Fin.AE (Fin.LB rfl (Bg.Dc _ _) rfl ?_)))))))
 · refine int_eq ?_;simp_all
 refine cy h1 rfl (NT rfl cX rfl rfl) (cy h1 rfl (Fw rfl lG rfl) (cy h1 rfl (Ce rfl underlying112 (vl rfl)) (cy h1 rfl (ki rfl rfl rfl rfl) (co rfl (LS rfl rfl h1 rfl) (Ch.nil (Fin.go ?_))))))
 refine Tr.cn rfl ?_ ?_<;>intro h2 q2
 exact absurd h2 AB
 refine Tr.skip (Fin.go (Tr.seq (Tr.seq (Tr.Aj (cm rfl (Ch.nil (Fin.go (Tr.block (Tr.BH [(1,_)] ⟨ke rfl,trivial⟩ (fun k:Nat=>[(3,int ((k:Nat):Int))]) (fun k:Nat=>k=0) (fun k:Nat=>0) 0 (rfl) ⟨ke rfl,trivial⟩ ?_)))))))))
 rintro k hk0
 refine Tr.seq (Tr.seq (Tr.Aj (cm rfl (co rfl (NT rfl VH rfl rfl) (co rfl (Fw rfl ZK rfl) (co rfl (Ce rfl underlying111 (vl rfl)) (co rfl (ki rfl rfl rfl rfl) (Ch.nil (Fin.go ?_)))))))))
 refine Tr.cn rfl ?_ ?_<;>intro h3 q3
 exfalso;have XI:=DU.D9 h3;subst hk0;simp at XI
 have jr:=h3
 refine Tr.exit (Fin.Ac (Fin.Ac (Fin.A7 (Fin.go (Tr.seq (Tr.seq (Tr.Aj (cm rfl (Ch.nil (Fin.go (Tr.block (Tr.BH [(1,_)] ⟨ke rfl,trivial⟩ (fun k:Nat=>[(4,int ((k:Nat):Int))]) (fun k:Nat=>k=0) (fun k:Nat=>0) 0 (rfl) ⟨ke rfl,trivial⟩ ?_))))))))))))
 rintro k hk0
 refine Tr.seq (Tr.seq (Tr.Aj (cm rfl (co rfl (NT rfl cX rfl rfl) (co rfl (Fw rfl lG rfl) (co rfl (Ce rfl underlying112 (vl rfl)) (co rfl (ki rfl rfl rfl rfl) (Ch.nil (Fin.go ?_)))))))))
 refine Tr.cn rfl ?_ ?_<;>intro h4 q4
 exfalso;have XI:=DU.D9 h4;subst hk0;simp at XI
 have jr:=h4
 refine Tr.exit (Fin.Ac (Fin.Ac (Fin.A7 (Fin.go (Tr.seq (Tr.Aj (cm rfl (Ch.nil (Fin.go (Tr.ret (Fin.LB rfl (Bg.Dc _ _) rfl ?_)))))))))))
 · exact Lr
theorem Xv {a b p:Int}  :BG prog 333 [NN,agg [int a,int b],int p] (anyI):=by
 refine fo func333 rfl ⟨rfl,rfl⟩ fun M0 w0=> ?_
 · repeat' first|exact absurd h AB|exact Ax _ Lr|refine co rfl (Cq (Ow) rfl rfl) ?_|refine co rfl (Cq (KA (CH:=a) (bits:=b)) rfl rfl) ?_|refine ac ?_|(refine Tr.cn rfl ?_ ?_<;>intro h q)|(refine Ch.cg rfl rfl rfl ?_ ?_<;>intro h q)
theorem Lh {a b p d:Int}  :BG prog 335 [NN,agg [int a,int b],int p,int d] (int (-1)):=by
 refine fo func335 rfl ⟨rfl,rfl⟩ fun M0 w0=> ?_
 refine a2 ?_
 refine co rfl (Ce rfl underlying111 vq) ?_
 refine ac ?_
 refine Tr.block (Tr.BH _ (kk [5,4,3,2] rfl) (fun k:Nat=>[(9,int (-1))]) (fun k:Nat=>True) (fun k:Nat=>0) 0 (trivial) kz ?_)
 rintro k _
 refine an ?_ ?_<;>intro h1 q1
 exact absurd h1 AB
 have jr:=h1
 refine a3 ?_
 · exact Lr
theorem S4 {a b p d:Int}  :BG prog 334 [NN,agg [int a,int b],int p,int d] (bool true):=by
 refine fo func334 rfl ⟨rfl,rfl⟩ fun M0 w0=> ?_
 · repeat' first|exact Lr|exact absurd h AB|refine co rfl (ZS (Lh) rfl rfl rfl rfl rfl) ?_|refine ac ?_|(refine Ch.cg rfl rfl rfl ?_ ?_<;>intro h q)
theorem S5 {a b p d:Int}  :BG prog 320 [NN,agg [int a,int b],int p,int d] (Dz [ER,anyI,anyI]):=by
 refine fo func320 rfl ⟨rfl,rfl⟩ fun M0 w0=> ?_
 refine a2 ?_
 refine co rfl (Jn (Xv) rfl rfl rfl rfl) ?_
 refine ac ?_
 refine Tr.seq (Tr.ex 11 rfl fun x11=> ?_)
 refine an ?_ ?_<;>intro h1 q1
 refine ac ?_
 refine wk [10,9,8] rfl (Tr.ret (Fin.AE (Fin.I0 rfl (Bg.Dc _ _) rfl ?_ rfl ?_ rfl ?_)))
 · exact BN
 · exact BN
 · exact BN
 refine ac ?_
 refine ag ?_ ?_<;>intro h2 q2
 refine ac ?_
 refine wk [24,5,4,3,2] rfl ?_
 refine ac ?_
 refine Tr.ret (Fin.AE (Fin.I0 rfl (Bg.Dc _ _) rfl ?_ rfl ?_ rfl ?_))
 · exact BN
 · exact BN
 · exact BN
 refine ac ?_
 refine wk [24,5,4,3,2] rfl ?_
 refine Tr.cn rfl ?_ ?_<;>intro h3 q3
 refine ac ?_
 refine Tr.ret (Fin.AE (Fin.I0 rfl (Bg.Dc _ _) rfl ?_ rfl ?_ rfl ?_))
 · exact BN
 · exact BN
 · exact BN
 refine a2 ?_
 refine co rfl (ZS (S4) rfl rfl rfl rfl rfl) ?_
 refine ac ?_
 refine co rfl (ZS (Lh) rfl rfl rfl rfl rfl) ?_
 refine ac ?_
 refine wk [10,9,8] rfl (Tr.ret (Fin.I0 rfl (Bg.Dc _ _) rfl ?_ rfl ?_ rfl ?_))
 · exact BN
 · exact BN
 · exact BN
theorem iU   :BG prog 321 [SL] (int 0):=by
 refine fo func321 rfl ⟨rfl,rfl⟩ fun M0 w0=> ?_
 refine a2 ?_
 refine Tr.block (Tr.BH _ (kk [0] rfl) (fun k:Nat=>[(3,int ((k:Nat):Int))]) (fun k:Nat=>k=0) (fun k:Nat=>0) 0 (rfl) kz ?_)
 rintro k hk0
 refine ac ?_
 refine co rfl (Ce rfl underlying162 vq) ?_
 refine an ?_ ?_<;>intro h1 q1
 exfalso;have XI:=DU.D9 h1;subst hk0;simp at XI
 have jr:=h1
 refine a3 ?_
 · exact Lr
theorem iV {a b p d:Int} {s:List UInt8}  :BG prog 322 [SL,WC,agg [int a,int b],int p,str s,int d] (bool false):=by
 refine fo func322 rfl ⟨rfl,rfl⟩ fun M0 w0=> ?_
 refine a2 ?_
 refine Tr.block (Tr.BH _ (kk [8,7,5,4,3,0] rfl) (fun k:Nat=>[(13,int ((k:Nat):Int))]) (fun k:Nat=>k=0) (fun k:Nat=>0) 0 (rfl) kz ?_)
 rintro k hk0
 refine ac ?_
 refine co rfl (Ce rfl underlying162 vq) ?_
 refine an ?_ ?_<;>intro h1 q1
 exfalso;have XI:=DU.D9 h1;subst hk0;simp at XI
 have jr:=h1
 refine a3 ?_
 · exact Lr
theorem S6 {a b p d:Int} {s:List UInt8}  :BG prog 313 [NN,SL,WC,agg [int a,int b],int p,str s,int d] (Dz [ER,anyI]):=by
 refine fo func313 rfl ⟨rfl,rfl⟩ fun M0 w0=> ?_
 refine a2 ?_
 refine co rfl (ZS (S5) rfl rfl rfl rfl rfl) ?_
 refine ac ?_
 refine wk [18,16,10,9,6,5,4,1] rfl (Tr.seq (Tr.seq (Tr.ex 18 rfl fun x18=>(Tr.ex 16 rfl fun x16=> ?_))))
 refine an ?_ ?_<;>intro h1 q1
 refine ac ?_
 refine Tr.ret (Fin.AE (Fin.Ct rfl (Bg.Dc _ _) rfl ?_ rfl ?_))
 · exact BN
 · exact BN
 refine a2 ?_
 refine co rfl (Cq (iU) rfl rfl) ?_
 refine a2 ?_
 refine wk [35,19,16,10,9,6,5,4,1] rfl ?_
 refine Tr.cn rfl ?_ ?_<;>intro h2 q2
 exact absurd h2 AB
 refine ac ?_
 refine ag ?_ ?_<;>intro h3 q3
 refine ac ?_
 refine wk [15,14] rfl (Tr.ret (Fin.Ct rfl (Bg.Dc _ _) rfl ?_ rfl ?_))
 · exact BN
 · exact BN
 refine ac ?_
 refine cy h3 rfl (AR rfl (iV) ⟨kq,kz⟩) ?_
 refine ac ?_
 refine wk [15,14] rfl (Tr.ret (Fin.Ct rfl (Bg.Dc _ _) rfl ?_ rfl ?_))
 · exact BN
 · exact BN
theorem aN {e:CA} {a b d:Int} (he:e.small):BG prog 299 [NN,SL,WC,agg (Bf e),agg [int a,int b],int d] (Dz [ER,anyI]):=by
 refine fo func299 rfl ⟨rfl,rfl⟩ fun M0 w0=> ?_
 refine ac ?_
 refine ap ?_
 refine tp rfl (CL (OE he) rfl rfl rfl) ?_
 refine TO.ex 23 rfl (fun z1=>TO.fact 23 rfl fun Ef=> ?_)
 refine ap ?_
 refine wk [15,14,9,8,6,5,1] rfl ?_
 refine an ?_ ?_<;>intro h1 q1
 refine ac ?_
 refine Tr.ret (Fin.AE (Fin.Ct rfl (Bg.Dc _ _) rfl ?_ rfl ?_))
 · exact BN
 · exact BN
 refine a3 ?_
 refine Tr.block (Tr.BH _ (kk [14,9,8,6,5,1] rfl) (fun k:Nat=>[(17,int ((k:Nat):Int)),(16,ER)]) (fun k:Nat=>k≤(z1.1).length) (fun k:Nat=>(z1.1).length-k) 0 (Nat.zero_le _) ⟨kq,⟨_,rfl,Ax _ Lr⟩,trivial⟩ ?_)
 rintro k BU
 refine Tr.ex 16 rfl fun x16=> ?_
 refine an ?_ ?_<;>intro h2 q2
 have Af:k<(z1.1).length:=AH h2
 obtain ⟨x,Ah⟩:=at_ Af
 refine a2 ?_
 refine co rfl (AD rfl underlying143 LC vq vq AA (AX Ah)) ?_
 refine ac ?_
 refine co rfl (AR rfl (S6 (a:=x.1) (b:=x.2)) ⟨kq,kz⟩) ?_
 refine ac ?_
 refine wk [19,18,17,16,14,9,8,6,5,1] rfl (Tr.seq (Tr.seq (Tr.ex 19 rfl fun x19=>(Tr.ex 18 rfl fun x18=> ?_))))
 refine an ?_ ?_<;>intro h3 q3
 refine ac ?_
 refine wk [13,12] rfl (Tr.ret (Fin.AE (Fin.AU (Fin.AE (Fin.AE (Fin.AU (Fin.AE (Fin.Ct rfl (Bg.Dc _ _) rfl ?_ rfl ?_))))))))
 · exact BN
 · exact BN
 · repeat' first|exact Fin.AL (k+1) ⟨Af,by omega⟩ ⟨⟨_,rfl,AG k⟩,⟨_,rfl,Ax _ Lr⟩,kz⟩|refine ac ?_|(refine Ch.cg rfl rfl rfl ?_ ?_<;>intro h q)
 have BK:k=(z1.1).length:=by have:=AJ h2;omega
 subst BK
 refine a2 ?_
 refine wk [13,12] rfl (Tr.ret (Fin.Ct rfl (Bg.Dc _ _) rfl ?_ rfl ?_))
 · exact BN
 · exact BN
theorem KY {d:Int}  :BG prog 122 [NN,SL,int d] (anyI):=by
 refine fo func122 rfl ⟨rfl,rfl⟩ fun M0 w0=> ?_
 refine a2 ?_
 refine co rfl (Cq (Ow) rfl rfl) ?_
 refine an ?_ ?_<;>intro h1 q1
 exact absurd h1 AB
 refine a2 ?_
 refine co rfl (Ce rfl underlying162 vq) ?_
 refine ac ?_
 refine Tr.block (Tr.BH _ (kk [13,12,2] rfl) (fun k:Nat=>[(14,int ((k:Nat):Int))]) (fun k:Nat=>k=0) (fun k:Nat=>0) 0 (rfl) kz ?_)
 rintro k hk0
 refine ac ?_
 refine Tr.seq ?_
 refine Tr.cn rfl ?_ ?_<;>intro h2 q2
 exfalso;have XI:=DU.D9 h2;subst hk0;simp at XI
 have jr:=h2
 · repeat' first|exact Ax _ Lr|refine ac ?_|(refine Tr.cn rfl ?_ ?_<;>intro h q)|(refine Ch.cg rfl rfl rfl ?_ ?_<;>intro h q)
abbrev ec:Pr:=Cp.ex fun z:List (Int×Int)=>fact (z.length≤1000) (uses z)
structure KZ (e:Dp) (i:Int) (x:Io) (c s:CA):Prop where
 i0:0≤i
 hx:e.BW[i.toNat]? =some x
 c0:0≤x.client
 s0:0≤x.server
 hc:e.Bv[x.client.toNat]? =some c
 hs:e.Bv[x.server.toNat]? =some s
 cs:c.small
 ss:s.small
theorem pV {e:Dp} {i:Int} (hf:e.fits) (VT:FQ e=true) (h0:0≤i) (hi:i.toNat<e.BW.length):∃x c s,KZ e i x c s:=by
 obtain ⟨x,hx⟩:=at_ hi
 obtain ⟨hxc,hxs⟩:=pU VT hx
 obtain ⟨c,hc⟩:=at_ (l:=e.Bv) (k:=x.client.toNat) AA
 obtain ⟨y,hy⟩:=at_ (l:=e.Bv) (k:=x.server.toNat) AA
 exact ⟨x,c,y,h0,hx,hxc.1,hxs.1,hc,hy,(hf.Bv _ (List.mem_of_getElem? hc)).2,(hf.Bv _ (List.mem_of_getElem? hy)).2⟩
theorem KZ.li {e:Dp} {i:Int} {x:Io} {c s:CA} (h:KZ e i x c s):i.toNat<e.BW.length:=by
 have:=h.hx
 rcases Nat.lt_or_ge i.toNat e.BW.length with h'|h'
 · exact h'
 · rw [List.getElem?_eq_none h'] at this;cases this
theorem KZ.lc {e:Dp} {i:Int} {x:Io} {c s:CA} (h:KZ e i x c s):x.client.toNat<e.Bv.length:=by
 have:=h.hc
 rcases Nat.lt_or_ge x.client.toNat e.Bv.length with h'|h'
 · exact h'
 · rw [List.getElem?_eq_none h'] at this;cases this
theorem KZ.ls {e:Dp} {i:Int} {x:Io} {c s:CA} (h:KZ e i x c s):x.server.toNat<e.Bv.length:=by
 have:=h.hs
 rcases Nat.lt_or_ge x.server.toNat e.Bv.length with h'|h'
 · exact h'
 · rw [List.getElem?_eq_none h'] at this;cases this
theorem Kc {e:Dp} {i:Int} {x:Io} {c s:CA} (he:KZ e i x c s):BG prog 284 [agg (CM e),int i] (agg (Bf s)):=by
 refine fo func284 rfl ⟨rfl,rfl⟩ fun M0 w0=> ?_
 have e1:=he.i0
 have e2:=he.c0
 have e3:=he.s0
 have e4:=he.li
 have e5:=he.lc
 have e6:=he.ls
 refine Tr.seq (Tr.An (tp rfl (Bb rfl Cs) ?_))
 refine Tl rfl rfl rfl rfl z40 H9 (fun b1=> ?_)
 refine ap ?_
 refine Tr.seq (Tr.rx ?_)
 refine ay ?_
 refine xo rfl (fun _=>AD rfl underlying28 Ew vq vq AA (Bh he.hx)) ?_
 refine ay ?_
 refine xo rfl (fun _=>AD rfl underlying27 CE vq vq AA (Bh he.hs)) ?_
 refine ay ?_
 refine Cx.nil ⟨by kernel_rfl,?_⟩
 refine BE.done al1 (Fin.go (Tr.ret (Fin.CY rfl (AM.cell 0 rfl rfl Ci CE rfl Lr) ?_)))
 · exact Lr
theorem Ox {e:Dp} {i:Int} {x:Io} {c s:CA} (he:KZ e i x c s):BG prog 300 [agg (CM e),int i] (ec):=by
 refine fo func300 rfl ⟨rfl,rfl⟩ fun M0 w0=> ?_
 have e1:=he.i0
 have e2:=he.c0
 have e3:=he.s0
 have e4:=he.li
 have e5:=he.lc
 have e6:=he.ls
 refine ac ?_
 refine ao ?_
 refine tp rfl (AD rfl underlying28 Ew vq vq AA (Bh he.hx)) (tp rfl (AP rfl Q_ Ew vq rfl rfl) ?_)
 refine Tl rfl rfl rfl rfl ZL Wv (fun b1=> ?_)
 refine sf 0 5 ⟨rfl,rfl,rfl⟩ rfl rfl rfl rfl ?_
 refine ao ?_
 refine ac ?_
 refine co rfl (AD rfl underlying27 CE vq vq AA (Bh he.hc)) ?_
 refine ac ?_
 refine co rfl (AD rfl underlying27 CE vq vq AA (Bh he.hs)) (co rfl (AP rfl Ci CE vq rfl rfl) (co rfl (CL (Xu he.cs he.ss) rfl rfl rfl) ?_))
 refine ac ?_
 refine wk [4] rfl ?_
 refine ac ?_
 · exact Lr
theorem aO {a b:CA} {x y:Int} (ha:a.small) (hb:b.small):BG prog 301 [agg (Bf a),agg (Bf b),agg [int x,int y]] (ER):=by
 refine fo func301 rfl ⟨rfl,rfl⟩ fun M0 w0=> ?_
 refine ac ?_
 refine ap ?_
 refine tp rfl (CL (OE ha) rfl rfl rfl) ?_
 refine TO.ex 15 rfl (fun z1=>TO.fact 15 rfl fun Ef=> ?_)
 refine ap ?_
 refine wk [7,5,4] rfl ?_
 refine ap ?_
 refine tp rfl (CL (OE hb) rfl rfl rfl) ?_
 refine TO.ex 21 rfl (fun z2=>TO.fact 21 rfl fun Iv=> ?_)
 refine ap ?_
 refine ac ?_
 refine wk [28,9,7] rfl ?_
 refine Tr.cn rfl ?_ ?_<;>intro h1 q1
 refine a2 ?_
 · exact BN
 have WQ:z1.1.length=z2.1.length:=by have h_:=q1;omega
 refine a2 ?_
 refine Tr.block (Tr.BH _ (kk [30,9,7] rfl) (fun k:Nat=>[(31,int ((k:Nat):Int))]) (fun k:Nat=>k≤(z1.1).length) (fun k:Nat=>(z1.1).length-k) 0 (Nat.zero_le _) kz ?_)
 rintro k BU
 refine ac ?_
 refine Tr.seq ?_
 refine Tr.cn rfl ?_ ?_<;>intro h2 q2
 have Af:k<(z1.1).length:=AH h2
 obtain ⟨x,Ah⟩:=at_ Af
 obtain ⟨y2,n5⟩:=at_ (l:=z2.1) (k:=k) AA
 · repeat' first|exact Ax _ Lr|exact Fin.AL (k+1) ⟨Af,by omega⟩ ⟨⟨_,rfl,AG k⟩,kz⟩|refine co rfl (AD rfl underlying143 LC vq vq AA (AX Ah)) ?_|refine co rfl (AD rfl underlying143 LC vq vq AA (AX n5)) (co rfl (AP rfl JX LC vq rfl rfl) (co rfl (Mz rfl vq vq) ?_))|refine ac ?_|(refine Tr.cn rfl ?_ ?_<;>intro h q)
 have BK:k=(z1.1).length:=by have:=AJ h2;omega
 subst BK
 refine a3 ?_
 · exact BN
theorem iW {a b:Dp} (ha:a.fits) (hb:b.fits):BG prog 282 [agg (CM a),agg (CM b)] (Cp.ex fun z:Int=>fact (z=0→FQ a=true∧FQ b=true∧a.BW.length=b.BW.length) (int z)):=by
 refine fo func282 rfl ⟨rfl,rfl⟩ fun M0 w0=>(Tr.HD 0 1 rfl rfl fun K0=>(Tr.HD 1 1 rfl rfl fun AEW=> ?_))
 refine a2 ?_
 refine co rfl (Cq (D6 ha) rfl rfl) ?_
 refine ag ?_ ?_<;>intro h1 q1
 refine a3 ?_
 · exact PK
 refine cy h1 rfl (AP rfl Dg De vq rfl rfl) (cy h1 rfl (Cq (D6 hb) rfl rfl) ?_)
 refine an ?_ ?_<;>intro h2 q2
 refine a2 ?_
 · exact PK
 refine a2 ?_
 refine wk [20,3,2] rfl ?_
 refine Tr.cn rfl ?_ ?_<;>intro h3 q3
 refine a2 ?_
 · exact PK
 have WQ:a.BW.length=b.BW.length:=by have h_:=q3;omega
 refine a2 ?_
 refine Tr.block (Tr.BH _ (kk [23,3,2] rfl) (fun k:Nat=>[(24,int ((k:Nat):Int))]) (fun k:Nat=>k≤(a.BW).length) (fun k:Nat=>(a.BW).length-k) 0 (Nat.zero_le _) kz ?_)
 rintro k BU
 refine ac ?_
 refine Tr.seq ?_
 refine Tr.cn rfl ?_ ?_<;>intro h4 q4
 have Af:k<(a.BW).length:=AH h4
 obtain ⟨x,Ah⟩:=at_ Af
 obtain ⟨y2,n5⟩:=at_ (l:=b.BW) (k:=k) AA
 · repeat' first|exact Ax _ (A_ (fun h_=>absurd h_ AB) Lr)|exact Fin.AL (k+1) ⟨Af,by omega⟩ ⟨⟨_,rfl,AG k⟩,kz⟩|refine co rfl (AD rfl underlying28 Ew vq vq AA (AX Ah)) ?_|refine co rfl (AD rfl underlying28 Ew vq vq AA (AX n5)) (co rfl (AP rfl Q_ Ew vq rfl rfl) (co rfl (mq rfl vq vq) ?_))|refine ac ?_|(refine Tr.cn rfl ?_ ?_<;>intro h q)
 have BK:k=(a.BW).length:=by have:=AJ h4;omega
 subst BK
 refine a3 ?_
 · exact Ax 0 (A_ (fun _=>⟨by simp_all,by simp_all,WQ⟩) Lr)
theorem zB {d:Nat} {w:World} {x0 y0:Int} {x1 y1:Int}:(Op.equalIn (d+2) 268 (.agg #[.int .i64 x0,.int .i64 x1]) (.agg #[.int .i64 y0,.int .i64 y1])).run Tryz.prog w= .ok (decide (x0=y0∧x1=y1)) w:=by
 have h:=eqS (w:=w) (d:=d+1) (xs:= #[.int .i64 x0,.int .i64 x1]) (ys:= #[.int .i64 y0,.int .i64 y1]) Tryz.underlying268 BS (E_ AB (CJ C8 rfl) (CJ C8 rfl) (GW (d:=d+0) Tryz.underlying3) (E_ AB (CJ C8 rfl) (CJ C8 rfl) (GW (d:=d+0) Tryz.underlying3) (Mu)))
 refine h.trans (congrArg (fun b=>Result.ok b w) ?_)
 rw [Bool.eq_iff_iff];simp [and_assoc]
theorem pW {E:Env} {I:Ck} {o:Oper} {u:TypeId} {x y:Operand} {x0 y0:Int} {x1 y1:Int} (ho:o.op= .binOp .eql 268 x y u) (hx:VL E x (agg [is (.int .i64 x0),is (.int .i64 x1)])) (hy:VL E y (agg [is (.int .i64 y0),is (.int .i64 y1)])):Ag Tryz.prog I o E (bool (decide (x0=y0∧x1=y1))):=
 Mt [.int .i64 x0,.int .i64 x1] [.int .i64 y0,.int .i64 y1] ho hx hy BS (fun w=>by rw [show Op.equal 268 _ _=Op.equalIn (9998+2) 268 _ _ from rfl];exact zB)
theorem BG.outs {P:Program} {f:FuncId} {p0:Pr} {ps:List Pr} {res:Pr} (h:∀z:List (Int×Int),z.length≤1000→BG P f (p0::uses z::ps) res):BG P f (p0::Go.Proofs.YtmocaapoeefgkaaGreatDoor.ec::ps) res:=by
 refine ⟨(h [] (Nat.zero_le _)).1,fun M w vs hb hv=> ?_⟩
 match vs,hv with
 |u0::u1::us,⟨h0,⟨z,hz,h1⟩,h2⟩=>exact (h z hz).2 M w (u0::u1::us) hb ⟨h0,h1,h2⟩
section
variable {P:Program} {I:Ck} {E:Env} {o:Oper}
theorem zC {t u:TypeId} {x y:Operand} (ho:o.op= .binOp .gtr t x y u) (hx:VL E x (Gl .i64)) (hy:VL E y (Gl .i64)):Ag P I o E ER:=
 Ag.same fun M w a he _=>by
  obtain ⟨m,h1⟩:=hx.ev he Au
  obtain ⟨n,h2⟩:=hy.ev he Au
  have h1:a.eval x= .int .i64 m:=h1
  have h2:a.eval y= .int .i64 n:=h2
  exact ⟨.bool (decide (m>n)),by simp [execOp,ho,h1,h2,eqGuard,binOp,Op.intCmp],_,rfl⟩
end
theorem iX {e:CA} {all:List (Int×Int)} {d:Int} (he:e.small) (hl:all.length≤1000):BG prog 283 [agg (Bf e),uses all,NN,SL,WC,int d] (ec):=by
 refine fo func283 rfl ⟨rfl,rfl⟩ fun M0 w0=> ?_
 refine a3 ?_
 refine Tr.block (Tr.B5 268 2 (Tr.DE _ (kk [19,18,10,8,6,5,3] rfl) (fun (o:List (Int×Int)) (k:Nat) u=>[(20,int ((k:Nat):Int)),(13,Ad u (uses o))]) (fun (o:List (Int×Int)) (k:Nat) u=>Hp M0 w0 FO ([Aw 268 2 u])) (fun (o:List (Int×Int)) (k:Nat)=>k≤all.length∧o.length≤k) (fun (o:List (Int×Int)) (k:Nat)=>all.length-k) ([]) (0) (.slice none 0 0) (⟨Nat.zero_le _,by simp⟩) ⟨kq,⟨_,rfl,Bi rfl⟩,trivial⟩ (fun _ _ h=>h) ?_))
 rintro o k u ⟨hk0,hol⟩
 refine ac ?_
 refine Tr.seq ?_
 refine Tr.cn rfl ?_ ?_<;>intro h1 q1
 have hk:k<all.length:=AH h1
 obtain ⟨y,hy⟩:=at_ hk
 refine ac ?_
 refine Tr.seq (Tr.block (Tr.seq (Tr.An (tp rfl (AD rfl underlying331 CI vq vq AA (AX hy)) (tp rfl (AP rfl C2 CI vq rfl rfl) ?_)))))
 refine Tl rfl rfl rfl rfl Jm Fg (fun b1=> ?_)
 refine sf 0 15 ⟨rfl,rfl,rfl⟩ rfl rfl rfl rfl ?_
 refine ao ?_
 refine wk [20,19,18,15,13,10,8,6,5,3] rfl ?_
 refine ac ?_
 refine co rfl (AR rfl (aN he) ⟨kq,kz⟩) ?_
 refine ac ?_
 refine wk [20,19,18,17,16,15,13,10,8,6,5,3] rfl (Tr.seq (Tr.ex 17 rfl fun x17=>(Tr.ex 16 rfl fun x16=> ?_)))
 refine ag ?_ ?_<;>intro h2 q2
 refine ac ?_
 refine wk [38,20,19,18,15,13,10,8,6,5,3] rfl ?_
 refine Tr.cn rfl ?_ ?_<;>intro h3 q3
 refine ao ?_
 refine TO.DT 0 rfl rfl AB (B7 rfl rfl rfl rfl underlying331 CI cZ Jm G3 F4 (Ay BL Jo)) (fun v1=> ?_)
 refine ao ?_
 refine wk [20,19,18,13,10,8,6,5,3] rfl ?_
 refine ac ?_
 exact Fin.Bl (o++[(y.1,y.2)]) (k+1) v1 (⟨⟨by omega,by simp;omega⟩,by omega⟩) ⟨⟨_,rfl,AG k⟩,⟨_,rfl,BA DR⟩,kz⟩ (fun _ _ h=>h)
 refine a2 ?_
 exact Fin.Bl (o) (k+1) u (⟨⟨by omega,by omega⟩,by omega⟩) ⟨⟨_,rfl,AG k⟩,⟨_,rfl,BA rfl⟩,kz⟩ (fun _ _ h=>h)
 refine ac ?_
 refine wk [38,20,19,18,15,13,10,8,6,5,3] rfl ?_
 refine a2 ?_
 exact Fin.Bl (o) (k+1) u (⟨⟨by omega,by omega⟩,by omega⟩) ⟨⟨_,rfl,AG k⟩,⟨_,rfl,BA rfl⟩,kz⟩ (fun _ _ h=>h)
 have hk:=AJ h1
 refine a3 ?_
 · exact PO
theorem WD {a b:Dp} {i:Int} {x x2:Io} {c s c2 s2:CA} (ha:KZ a i x c s) (hb:KZ b i x2 c2 s2):BG prog 285 [agg (CM a),agg (CM b),int i] (ec):=by
 refine fo func285 rfl ⟨rfl,rfl⟩ fun M0 w0=> ?_
 refine ac ?_
 refine ao ?_
 refine tp rfl (CL (Ox ha) rfl rfl rfl) ?_
 refine TO.ex 16 rfl (fun z1=>TO.fact 16 rfl fun Ef=> ?_)
 refine ao ?_
 refine ac ?_
 refine ao ?_
 refine tp rfl (CL (Ox hb) rfl rfl rfl) ?_
 refine TO.ex 19 rfl (fun z2=>TO.fact 19 rfl fun Iv=> ?_)
 refine ao ?_
 refine wk [21,20,19,8,7,4,3,2] rfl (Tr.block (Tr.B5 268 2 (Tr.DE _ (kk [20,19,7,4,3,2] rfl) (fun (o:List (Int×Int)) (k:Nat) u=>[(21,int ((k:Nat):Int)),(8,Ad u (uses o))]) (fun (o:List (Int×Int)) (k:Nat) u=>Hp M0 w0 FO ([Aw 268 2 u])) (fun (o:List (Int×Int)) (k:Nat)=>k≤z2.length∧o.length≤k) (fun (o:List (Int×Int)) (k:Nat)=>z2.length-k) ([]) (0) (.slice none 0 0) (⟨Nat.zero_le _,by simp⟩) ⟨ke rfl,⟨_,rfl,Bi rfl⟩,trivial⟩ (fun _ _ h=>h) ?_)))
 rintro o k u ⟨hk0,hol⟩
 refine ac ?_
 refine Tr.seq ?_
 refine Tr.cn rfl ?_ ?_<;>intro h1 q1
 have hk:k<z2.length:=AH h1
 obtain ⟨y,hy⟩:=at_ hk
 refine ac ?_
 refine Tr.seq (Tr.block (Tr.seq (Tr.An (tp rfl (AD rfl underlying331 CI (vl rfl) (vl rfl) AA (AX hy)) (tp rfl (AP rfl C2 CI (vl rfl) rfl rfl) ?_)))))
 refine Tl rfl rfl rfl rfl Jm Fg (fun b1=> ?_)
 refine sf 0 10 ⟨rfl,rfl,rfl⟩ rfl rfl rfl rfl ?_
 refine ao ?_
 refine wk [21,20,19,10,8,7,4,3,2] rfl ?_
 refine a2 ?_
 refine Tr.block (Tr.BH _ (kk [26,25,21,20,19,10,8,7,4,3,2] rfl) (fun m:Nat=>[(27,int ((m:Nat):Int)),(11,ER)]) (fun m:Nat=>m≤(z1).length) (fun m:Nat=>(z1).length-m) 0 (Nat.zero_le _) ⟨ke rfl,⟨_,rfl,Ax _ Lr⟩,trivial⟩ ?_)
 rintro m NC
 refine Tr.ex 11 rfl fun x11=> ?_
 refine ac ?_
 refine wk [28,27,26,25,21,20,19,11,10,8,7,4,3,2] rfl (Tr.seq ?_)
 refine Tr.cn rfl ?_ ?_<;>intro h2 q2
 have EZ:m<(z1).length:=AH h2
 obtain ⟨w,Ee⟩:=at_ EZ
 refine ac ?_
 refine wk [27,26,25,21,20,19,11,10,8,7,4,3,2] rfl (Tr.seq (Tr.block (Tr.seq (Tr.An (tp rfl (AD rfl underlying331 CI (vl rfl) (vl rfl) AA (AX Ee)) (tp rfl (AP rfl C2 CI (vl rfl) rfl rfl) ?_))))))
 refine Tl rfl rfl rfl rfl Jm Fg (fun b2=> ?_)
 refine sf 0 13 ⟨rfl,rfl,rfl⟩ rfl rfl rfl rfl ?_
 refine ao ?_
 · repeat' first|exact Fin.AL (m+1) ⟨EZ,by omega⟩ ⟨⟨_,rfl,AG m⟩,⟨_,rfl,Ax _ Lr⟩,kz⟩|refine cy h rfl (pW rfl (vl rfl) (vl rfl)) ?_|refine ac ?_|(refine Ch.cg rfl rfl rfl ?_ ?_<;>intro h q)
 have KI:m=(z1).length:=by have:=AJ h2;omega
 subst KI
 refine ac ?_
 refine wk [21,20,19,11,10,8,7,4,3,2] rfl ?_
 refine ag ?_ ?_<;>intro h4 q4
 refine ac ?_
 refine wk [50,21,20,19,10,8,7,4,3,2] rfl (Tr.cond rfl (fun _=> ?_) (fun h=>nomatch h))
 refine Tr.An (tm rfl (tp rfl (AP rfl C2 CI (vl rfl) rfl rfl) (tp rfl (AO (xs:=[.tmp 52]) (rows:=[_]) rfl rfl underlying331 CI Jm rfl AB ⟨⟨Am,(Va rfl)⟩,trivial⟩ AB) ?_)))
 refine TO.DT 0 rfl rfl AB (B7 rfl rfl rfl rfl underlying331 CI cZ Jm (Kb rfl) (Kf rfl) (Ay BL (Ka rfl))) (fun v1=> ?_)
 refine ao ?_
 refine wk [21,20,19,8,7,4,3,2] rfl ?_
 refine ac ?_
 exact Fin.Bl (o++[(y.1,y.2)]) (k+1) v1 (⟨⟨by omega,by simp;omega⟩,by omega⟩) ⟨⟨_,rfl,AG k⟩,⟨_,rfl,BA DR⟩,kz⟩ (fun _ _ h=>h)
 refine ac ?_
 refine cy h4 rfl (CL (Kc ha) rfl rfl rfl) ?_
 refine ac ?_
 refine cy h4 rfl (CL (Kc hb) rfl rfl rfl) (cy h4 rfl (AP rfl C2 CI (vl rfl) rfl rfl) (cy h4 rfl (Jn (aO ha.ss hb.ss) rfl rfl rfl rfl) (cy h4 rfl (JR rfl (vl rfl)) ?_)))
 refine ac ?_
 refine wk [50,21,20,19,10,8,7,4,3,2] rfl (Tr.ex 50 rfl fun AGH=> ?_)
 refine Tr.cn rfl ?_ ?_<;>intro h5 q5
 refine ao ?_
 refine TO.DT 0 rfl rfl AB (B7 rfl rfl rfl rfl underlying331 CI cZ Jm (Kb rfl) (Kf rfl) (Ay BL (Ka rfl))) (fun v2=> ?_)
 refine ao ?_
 refine wk [21,20,19,8,7,4,3,2] rfl ?_
 refine ac ?_
 exact Fin.Bl (o++[(y.1,y.2)]) (k+1) v2 (⟨⟨by omega,by simp;omega⟩,by omega⟩) ⟨⟨_,rfl,AG k⟩,⟨_,rfl,BA DR⟩,kz⟩ (fun _ _ h=>h)
 refine a2 ?_
 exact Fin.Bl (o) (k+1) u (⟨⟨by omega,by omega⟩,by omega⟩) ⟨⟨_,rfl,AG k⟩,⟨_,rfl,BA rfl⟩,kz⟩ (fun _ _ h=>h)
 have hk:=AJ h1
 refine a3 ?_
 · exact PO
theorem iY {a b:Dp} {d:Int} (ha:a.fits) (hb:b.fits):BG prog 254 [agg (CM a),agg (CM b),NN,SL,WC,int d] (Cp.ex fun z:List Int×Int=>fact (z.1.length≤1000) (Dz [ints z.1,int z.2])):=by
 refine fo func254 rfl ⟨rfl,rfl⟩ fun M0 w0=>(Tr.HD 0 1 rfl rfl fun K0=> ?_)
 refine ac ?_
 refine ap ?_
 refine tp rfl (CL (iW ha hb) rfl rfl rfl) ?_
 refine TO.ex 20 rfl (fun z1=>TO.fact 20 rfl fun Ef=> ?_)
 refine ap ?_
 refine ac ?_
 refine wk [22,14,10,8,7,6,5,3] rfl ?_
 refine Tr.cn rfl ?_ ?_<;>intro h1 q1
 refine ac ?_
 refine Tr.ret (Fin.AE (Fin.BT rfl (AM.tmp rfl Lr) (AM.tmp rfl Lr) ?_))
 · exact Qe
 obtain ⟨hAe,hBe,WQ⟩:=Ef (by have:=q1;omega)
 have h40:=(FT.1 hAe).e40
 refine a2 ?_
 refine co rfl (Jn (KY) rfl rfl rfl rfl) ?_
 refine ac ?_
 refine Tr.seq (Tr.ex 15 rfl fun x15=> ?_)
 refine ac ?_
 refine wk [29,15,10,8,7,6,5,3] rfl ?_
 refine Tr.cn rfl ?_ ?_<;>intro h2 q2
 refine ac ?_
 refine Tr.ret (Fin.AE (Fin.BT rfl (AM.tmp rfl Lr) (AM.tmp rfl Lr) ?_))
 · exact Qe
 refine a3 ?_
 refine Tr.block (Tr.B5 3 1 (Tr.DE _ (kk [33,10,8,7,6,5,3] rfl) (fun (o:List Int) (k:Nat) u=>[(34,int ((k:Nat):Int)),(16,Ad u (ints o))]) (fun (o:List Int) (k:Nat) u=>Hp M0 w0 FO ([Aw 3 1 u])) (fun (o:List Int) (k:Nat)=>k≤a.BW.length∧o.length≤k) (fun (o:List Int) (k:Nat)=>a.BW.length-k) ([]) (0) (.slice none 0 0) (⟨Nat.zero_le _,by simp⟩) ⟨kq,⟨_,rfl,Bi rfl⟩,trivial⟩ (fun _ _ h=>h) ?_))
 rintro o k u ⟨hk0,hol⟩
 refine ac ?_
 refine Tr.seq ?_
 refine Tr.cn rfl ?_ ?_<;>intro h3 q3
 have hk:k<a.BW.length:=AH h3
 obtain ⟨_,_,_,hea⟩:=pV (i:=((k:Nat):Int)) ha hAe AA AA
 obtain ⟨_,_,_,heb⟩:=pV (i:=((k:Nat):Int)) hb hBe AA AA
 refine a3 ?_
 refine co rfl (CL (Kc heb) rfl rfl rfl) ?_
 refine ac ?_
 refine co rfl (Jn (WD hea heb) rfl rfl rfl rfl) ?_
 refine ac ?_
 refine co rfl (AR rfl (BG.outs fun z hz=>iX heb.ss hz) ⟨kq,kz⟩) (co rfl (Ag.LX 48 rfl AB fun z=>Ag.opf 48 rfl AB fun _=>Ag.le (Ce rfl underlying331 vq) (Ax _ Lr)) (co rfl (zC rfl (VL.le vq aL) (VL.le vq (DG _ _))) ?_))
 refine ac ?_
 refine wk [50,34,33,17,16,10,8,7,6,5,3] rfl (Tr.ex 50 rfl fun AGH=> ?_)
 refine Tr.cn rfl ?_ ?_<;>intro h4 q4
 refine ap ?_
 refine TO.DT 0 rfl rfl AB (B7 rfl rfl rfl rfl underlying22 Bt G2 z3 G3 F4 (Ay BL Jo)) (fun v1=> ?_)
 refine ap ?_
 refine wk [34,33,16,10,8,7,6,5,3] rfl ?_
 refine ac ?_
 exact Fin.Bl (o++[((k:Nat):Int)]) (k+1) v1 (⟨⟨by omega,by simp;omega⟩,by omega⟩) ⟨⟨_,rfl,AG k⟩,⟨_,rfl,BA DR⟩,kz⟩ (fun _ _ h=>h)
 refine a2 ?_
 exact Fin.Bl (o) (k+1) u (⟨⟨by omega,by omega⟩,by omega⟩) ⟨⟨_,rfl,AG k⟩,⟨_,rfl,BA rfl⟩,kz⟩ (fun _ _ h=>h)
 have hk:=AJ h3
 refine a2 ?_
 refine Tr.ret (Fin.BT rfl (AM.tmp rfl Lr) (AM.tmp rfl Lr) ?_)
 · exact Yu
def HU (n:Nat) (m:Nat→Nat→Bool):List (List Bool):=(List.range n).map fun a=>(List.range n).map (m a)
theorem Im (n:Nat) (m:Nat→Nat→Bool):(HU n m).length=n:=by unfold HU;simp
theorem K8 {n:Nat} (m:Nat→Nat→Bool) {a:Nat} (h:a<n):(HU n m)[a]? =some ((List.range n).map (m a)):=by
 unfold HU;rw [List.getElem?_map,List.getElem?_range h];rfl
theorem K9 {n:Nat} (m:Nat→Bool) {b:Nat} (h:b<n):((List.range n).map m)[b]? =some (m b):=by
 rw [List.getElem?_map,List.getElem?_range h];rfl
theorem UF {n:Nat} {m m':Nat→Nat→Bool} (h:nY n m m'):HU n m=HU n m':=by
 unfold HU
 refine List.map_congr_left fun a ha=>List.map_congr_left fun b hb=>h a b (List.mem_range.1 ha) (List.mem_range.1 hb)
theorem pX {n:Nat} {m:Nat→Nat→Bool} {i j:Nat} (hi:i<n) (hj:j<n):(HU n m).set i (((List.range n).map (m i)).set j true)=HU n (Vz m i j):=by
 apply List.ext_getElem?
 intro a
 rw [List.getElem?_set]
 by_cases h:i=a
 ·
  subst h
  rw [if_pos rfl,if_pos (by rw [Im];exact hi),K8 _ hi]
  congr 1
  apply List.ext_getElem?
  intro b
  rw [List.getElem?_set]
  by_cases h2:j=b
  ·
   subst h2
   rw [if_pos rfl,if_pos GP,K9 _ hj]
   unfold Vz;rw [if_pos ⟨rfl,rfl⟩]
  ·
   rw [if_neg h2]
   rcases Nat.lt_or_ge b n with hb|hb
   · rw [K9 _ hb,K9 _ hb];unfold Vz;rw [if_neg (fun h3=>h2 h3.2.symm)]
   · rw [List.getElem?_eq_none FX,List.getElem?_eq_none FX]
 ·
  rw [if_neg h]
  rcases Nat.lt_or_ge a n with ha|ha
  ·
   rw [K8 _ ha,K8 _ ha]
   congr 1
   refine List.map_congr_left fun b _=> ?_
   unfold Vz;rw [if_neg (fun h3=>h h3.1.symm)]
  · rw [List.getElem?_eq_none (by rw [Im];exact ha),List.getElem?_eq_none (by rw [Im];exact ha)]
theorem aP {l:List BC} {q:Nat} {r:BC} (h:l[q]? =some r) (h0:0≤r.fst) (h1:0≤r.thn):Gf (l.take (q+1))=Vz (Gf (l.take q)) r.fst.toNat r.thn.toNat:=by
 funext a b
 have e:l.take (q+1)=l.take q++[r]:=by rw [List.take_add_one,h];rfl
 unfold Gf Vz
 rw [e,List.any_append]
 by_cases hc:a=r.fst.toNat∧b=r.thn.toNat
 ·
  have h2:([r].any fun r=>decide (r.fst=(a:Int))&&decide (r.thn=(b:Int)))=true:=by simp;omega
  rw [if_pos hc,h2,Bool.or_true]
 ·
  have h2:([r].any fun r=>decide (r.fst=(a:Int))&&decide (r.thn=(b:Int)))=false:=by simp;omega
  rw [if_neg hc,h2,Bool.or_false]
theorem iZ (n:Nat) (l:List BC):HU n (Gf (l.take 0))=List.replicate n (List.replicate n false):=by
 unfold HU Gf
 rw [List.eq_replicate_iff]
 refine ⟨by simp,fun b hb=> ?_⟩
 obtain ⟨a,_,rfl⟩:=List.mem_map.1 hb
 rw [List.eq_replicate_iff]
 refine ⟨by simp,fun c hc=> ?_⟩
 obtain ⟨d,_,rfl⟩:=List.mem_map.1 hc
 simp
abbrev slv (n:Nat) (x:Nat×List Bool):Value:=Jl n x.1
abbrev AGI (n:Nat) (m:Nat→Nat→Bool):Pr:=slice 1 ((HU n m).map fun row=>[slice 1 (row.map fun b=>[bool b])])
theorem OG {n:Nat} {m:Nat→Nat→Bool} {X:List (Nat×List Bool)} {a:Nat} {x:Nat×List Bool} (hX:X.map (·.2)=HU n m) (hx:X[a]? =some x) (ha:a<n):x.2=(List.range n).map (m a):=by
 have h:=congrArg (fun l=>l[a]?) hX
 simp only [List.getElem?_map,hx,Option.map_some] at h
 rw [K8 m ha] at h
 simpa using h
theorem ej {n:Nat} {m:Nat→Nat→Bool} {X:List (Nat×List Bool)} {i j:Nat} {x:Nat×List Bool} (hX:X.map (·.2)=HU n m) (hx:X[i]? =some x) (hi:i<n) (hj:j<n):(X.set i (x.1,x.2.set j true)).map (·.2)=HU n (Vz m i j):=by
 rw [List.map_set,hX,OG hX hx hi];exact pX hi hj
theorem eo {e:TypeId} {X:List (Nat×List Bool)} {k:Nat} {x:Nat×List Bool} (h:X[k]? =some x):(HX (HT e) X)[k]? =some (AF true x.1 e (x.2.map fun b=>bool b)):=eR (f:=fun x:Nat×List Bool=>AF true x.1 e (x.2.map fun b=>bool b)) h
theorem pY {n:Nat} {m:Nat→Nat→Bool} {X:List (Nat×List Bool)} {a c:Nat} {x:Nat×List Bool} (hX:X.map (·.2)=HU n m) (hx:X[a]? =some x) {v:Bool} (ha:a<n) (hc:c<n) (hv:m a c=v):(x.2.map fun b=>bool b)[0+c*1]? =some (bool v):=by
 subst hv
 rw [OG hX hx ha,Nat.zero_add,Nat.mul_one,List.getElem?_map,K9 _ hc];rfl
theorem pZ {n:Nat} {m:Nat→Nat→Bool} {X:List (Nat×List Bool)} (hX:X.map (·.2)=HU n m):∀x∈X,x.2.length=n:=fun x hx=>by
 obtain ⟨i,hi⟩:=List.mem_iff_getElem?.1 hx
 have hl:i<n:=by
  have h:=congrArg List.length hX
  rw [List.length_map,Im] at h
  rcases Nat.lt_or_ge i X.length with h'|h'
  · omega
  · rw [List.getElem?_eq_none h'] at hi;cases hi
 rw [OG hX hi hl,List.length_map,List.length_range]
theorem pg {n:Nat} {m:Nat→Nat→Bool} {X:List (Nat×List Bool)} (hX:X.map (·.2)=HU n m):(X.map fun x=>[slice 1 (x.2.map fun b=>[bool b])])=(HU n m).map fun row=>[slice 1 (row.map fun b=>[bool b])]:=by rw [←hX,List.map_map];rfl
theorem eu {l:List Bool} {j:Nat} (h:j<l.length):List.take (0+j*1) (l.map fun b=>bool b)++[is (Value.bool true)]++List.drop (0+j*1+1) (l.map fun b=>bool b)=(l.set j true).map fun b=>bool b:=by
 rw [List.map_set,List.set_eq_take_append_cons_drop,if_pos D3];simp
theorem SM {X:List (Nat×List Bool)} {bs:List Nat} {i:Nat} {x:Nat×List Bool} (h:X.map (·.1)=bs) (hx:X[i]? =some x):bs[i]? =some x.1:=by rw [←h,List.getElem?_map,hx];rfl
theorem ew {X:List (Nat×List Bool)} {bs:List Nat} {i:Nat} {x:Nat×List Bool} {r:List Bool} (h:X.map (·.1)=bs) (hx:X[i]? =some x):(X.set i (x.1,r)).map (·.1)=bs:=by
 have hb:=SM h hx
 rw [List.map_set,h]
 apply List.ext_getElem?
 intro k
 rw [List.getElem?_set]
 split
 · rename_i e;subst e;rw [if_pos (by rcases Nat.lt_or_ge i bs.length with h'|h';exact h';rw [List.getElem?_eq_none h'] at hb;cases hb),hb]
 · rfl
theorem UG {n:Nat} {l:List BC} (hn:n≤24) (hl:l.length≤1000000) (hr:∀r∈l,(0≤r.fst∧r.fst<(n:Nat))∧0≤r.thn∧r.thn<(n:Nat)):BG prog 116 [int ((n:Nat):Int),reqs l] (AGI n (C5 l n)):=by
 refine fo func116 rfl ⟨rfl,rfl⟩ fun M0 w0=> ?_
 refine a3 ?_
 refine Tr.block (Tr.B5 160 1 (Tr.DE _ (kk [11,1,0] rfl) (fun (X:List (Nat×List Bool)) (k:Nat) u=>[(12,int ((k:Nat):Int)),(5,Ad u (slice 1 (X.map fun x=>[is (slv n x)])))]) (fun (X:List (Nat×List Bool)) (k:Nat) u=>Hp M0 w0 FO (Aw 160 1 u::HX (HT 4) X)) (fun (X:List (Nat×List Bool)) (k:Nat)=>(k≤n∧X.length=k)∧X.map (·.2)=List.replicate k (List.replicate n false)) (fun (X:List (Nat×List Bool)) (k:Nat)=>n-k) ([]) (0) (.slice none 0 0) (⟨⟨Nat.zero_le _,rfl⟩,rfl⟩) ⟨kq,⟨_,rfl,Bi rfl⟩,trivial⟩ (fun _ _ h=>h) ?_))
 rintro X k u ⟨⟨hkn,hXl⟩,hX⟩
 refine ac ?_
 refine Tr.seq ?_
 refine Tr.cn rfl ?_ ?_<;>intro h1 q1
 have hk:k<n:=AH h1
 refine ac ?_
 refine ao ?_
 refine TO.VE rfl rfl AB rfl underlying160 Ta by4 z4 rfl vq vq FI AA (fun b1=> ?_)
 refine tp rfl (AO (xs:=[.tmp 16]) (rows:=[[is (Jl n b1)]]) rfl rfl underlying158 Oc z160 rfl AB ⟨⟨Am,VL.le vq (AY _)⟩,trivial⟩ AB) ?_
 refine TO.DT 1 rfl rfl AB (B7 rfl rfl rfl rfl underlying158 Oc ABA z160 G3 F4 (Ay BL Jo)) (fun v1=> ?_)
 refine ao ?_
 refine ac ?_
 refine Fin.eqC 0 ((List.replicate n false).map fun b=>bool b) rfl oy (Fin.fold (res:=HT 4) [_] (b1,List.replicate n false) rfl ?_)
 exact Fin.Bl (X++[(b1,List.replicate n false)]) (k+1) v1 (⟨⟨⟨by omega,by simp;omega⟩,by rw [List.map_append,hX,List.replicate_succ'];rfl⟩,by omega⟩) ⟨⟨_,rfl,AG k⟩,⟨_,rfl,BA DR⟩,kz⟩ (fun _ _ h=>h)
 have hk:=AJ h1
 refine a2 ?_
 refine Tr.block ?_
 obtain ⟨bs,hbs⟩:∃bs,X.map (·.1)=bs:=⟨_,rfl⟩
 refine Tr.re 5 rfl (Pr.le_trans (Ar _ _) (Pr.le_of_eq (show _=slice 1 (bs.map fun b=>[is (Jl n b)]) by rw [←hbs,List.map_map];rfl))) ?_
 refine Tr.drop 0 (Tr.DD _ (kk [21,20,5,0] rfl) (fun (X1:List (Nat×List Bool)) (q:Nat)=>[(22,int ((q:Nat):Int))]) (fun (X1:List (Nat×List Bool)) (q:Nat)=>Hp M0 w0 FO (HX (HT 4) X1)) (fun (X1:List (Nat×List Bool)) (q:Nat)=>q≤l.length∧(X1.map (·.1)=bs∧X1.map (·.2)=HU n (Gf (l.take q)))) (fun (X1:List (Nat×List Bool)) (q:Nat)=>l.length-q) (X) (0)  (⟨Nat.zero_le _,hbs,by rw [hX,iZ,show k=n by omega]⟩) kz (fun _ _ h=>h) ?_)
 rintro X1 q  ⟨hq0,Mj,hX1⟩
 refine ac ?_
 refine Tr.seq ?_
 refine Tr.cn rfl ?_ ?_<;>intro h2 q2
 have hq:q<l.length:=AH h2
 obtain ⟨r,hrq⟩:=at_ hq
 have ia:=hr r (List.mem_of_getElem? hrq)
 have AHW:X1.length=n:=by have:=congrArg List.length hX1;rw [List.length_map,Im] at this;exact this
 obtain ⟨x,hx⟩:=at_ (l:=X1) (k:=r.fst.toNat) AA
 have hxl:x.2.length=n:=by rw [OG hX1 hx AA,List.length_map,List.length_range]
 refine ac ?_
 refine Tr.seq (Tr.block (Tr.seq (Tr.An (tp rfl (AD rfl underlying33 Cw vq vq AA (AX hrq)) (tp rfl (AP rfl Fe Cw vq rfl rfl) ?_)))))
 refine Tl rfl rfl rfl rfl Sj Q8 (fun b2=> ?_)
 refine sf 0 7 ⟨rfl,rfl,rfl⟩ rfl rfl rfl rfl ?_
 refine ao ?_
 refine Tr.focus [] hx rfl (Tr.rx ?_)
 refine ay ?_
 refine xo rfl (fun _=>AD rfl underlying158 Oc vq vq AA (Bh (SM Mj hx))) ?_
 refine ay ?_
 refine xo rfl (fun _=>Be rfl underlying160 Ta vq vq AA AA) ?_
 refine Cx.DP 0 rfl rfl (A0 rfl rfl vq My Ta rfl Cz rfl) ?_
 refine Cx.nil ⟨by kernel_rfl,?_⟩
 refine BE.done al1 ?_
 refine ac ?_
 refine wk [22,21,20,5,0] rfl ?_
 refine ac ?_
 refine Fin.eqC 0 ((x.2.set r.thn.toNat true).map fun b=>bool b) rfl (eu AA) (Fin.VV (res:=HT 4) [] (x.1,x.2.set r.thn.toNat true) (show r.fst.toNat<X1.length by omega) rfl ?_)
 exact Fin.DK (X1.set r.fst.toNat (x.1,x.2.set r.thn.toNat true)) (q+1)  (⟨⟨by omega,ew Mj hx,by rw [aP hrq ia.1.1 ia.2.1];exact ej hX1 hx AA AA⟩,by omega⟩) ⟨⟨_,rfl,AG q⟩,kz⟩ (fun _ _ h=>h)
 have hq:=AJ h2
 refine a2 ?_
 refine Tr.block ?_
 refine Tr.DD _ (kk [35,5,0] rfl) (fun (X2:List (Nat×List Bool)) (k2:Nat)=>[(36,int ((k2:Nat):Int))]) (fun (X2:List (Nat×List Bool)) (k2:Nat)=>Hp M0 w0 FO (HX (HT 4) X2)) (fun (X2:List (Nat×List Bool)) (k2:Nat)=>k2≤n∧(X2.map (·.1)=bs∧X2.map (·.2)=HU n (C5 l k2))) (fun (X2:List (Nat×List Bool)) (k2:Nat)=>n-k2) (X1) (0)  (⟨Nat.zero_le _,Mj,by rw [hX1,List.take_of_length_le hq];rfl⟩) kz (fun _ _ h=>h) ?_
 rintro X2 k2  ⟨hk2,Sf,hX2⟩
 refine ac ?_
 refine Tr.seq ?_
 refine Tr.cn rfl ?_ ?_<;>intro h3 q3
 have AHX:k2<n:=AH h3
 refine a3 ?_
 refine Tr.block ?_
 refine Tr.DD _ (kk [39,36,35,8,5,0] rfl) (fun (X3:List (Nat×List Bool)) (i:Nat)=>[(40,int ((i:Nat):Int))]) (fun (X3:List (Nat×List Bool)) (i:Nat)=>Hp M0 w0 FO (HX (HT 4) X3)) (fun (X3:List (Nat×List Bool)) (i:Nat)=>i≤n∧(X3.map (·.1)=bs∧X3.map (·.2)=HU n (JK k2 (C5 l k2) i 0))) (fun (X3:List (Nat×List Bool)) (i:Nat)=>n-i) (X2) (0)  (⟨Nat.zero_le _,Sf,by rw [ACx];exact hX2⟩) kz (fun _ _ h=>h) ?_
 rintro X3 i  ⟨hi0,hb3,hX3⟩
 refine ac ?_
 refine Tr.seq ?_
 refine Tr.cn rfl ?_ ?_<;>intro h4 q4
 have F8:i<n:=AH h4
 refine a3 ?_
 refine Tr.block (Tr.DD _ (kk [43,40,39,36,35,9,8,5,0] rfl) (fun (X4:List (Nat×List Bool)) (j:Nat)=>[(44,int ((j:Nat):Int))]) (fun (X4:List (Nat×List Bool)) (j:Nat)=>Hp M0 w0 FO (HX (HT 4) X4)) (fun (X4:List (Nat×List Bool)) (j:Nat)=>j≤n∧(X4.map (·.1)=bs∧X4.map (·.2)=HU n (JK k2 (C5 l k2) i j))) (fun (X4:List (Nat×List Bool)) (j:Nat)=>n-j) (X3) (0)  (⟨Nat.zero_le _,hb3,hX3⟩) kz (fun _ _ h=>h) ?_)
 rintro X4 j  ⟨hj0,hb4,hX4⟩
 refine ac ?_
 refine Tr.seq ?_
 refine Tr.cn rfl ?_ ?_<;>intro h5 q5
 have hjl:j<n:=AH h5
 have AHY:X4.length=n:=by have:=congrArg List.length hX4;rw [List.length_map,Im] at this;exact this
 obtain ⟨xi,hxi⟩:=at_ (l:=X4) (k:=i) AA
 obtain ⟨xk,hxk⟩:=at_ (l:=X4) (k:=k2) AA
 have AHZ:xi.2.length=n:=by rw [OG hX4 hxi AA,List.length_map,List.length_range]
 have AHa:xk.2.length=n:=by rw [OG hX4 hxk AA,List.length_map,List.length_range]
 refine a3 ?_
 refine co rfl (AD rfl underlying158 Oc vq vq AA (AX (SM hb4 hxi))) ?_
 refine ac ?_
 refine co rfl (Be rfl underlying160 Ta vq vq AA AA) ?_
 refine co rfl (Cg i (eo hxi) (BI rfl ZA vq (pY (c:=k2) hX4 hxi AA AA (uB k2 (C5 l k2) i j i)))) ?_
 refine cm rfl ?_
 refine Ch.cs 54 rfl ?_ ?_<;>intro h6 q6
 refine ac ?_
 refine cy h6 rfl (AD rfl underlying158 Oc vq vq AA (AX (SM hb4 hxk))) ?_
 refine ac ?_
 refine cy h6 rfl (Be rfl underlying160 Ta vq vq AA AA) ?_
 refine cy h6 rfl (Cg k2 (eo hxk) (BI rfl ZA vq (pY (c:=j) hX4 hxk AA AA (uC k2 (C5 l k2) i j j)))) ?_
 refine ac ?_
 refine wk [62,44,43,40,39,36,35,10,9,8,5,0] rfl ?_
 refine Tr.cn rfl ?_ ?_<;>intro h7 q7
 refine Tr.focus [] hxi rfl ?_
 refine ao ?_
 refine tp rfl (AD rfl underlying158 Oc vq vq AA (AX (SM hb4 hxi))) ?_
 refine ao ?_
 refine tp rfl (Be rfl underlying160 Ta vq vq AA AA) ?_
 refine TO.DP 0 rfl rfl (A0 rfl rfl vq My Ta rfl Cz rfl) ?_
 refine ao ?_
 refine wk [44,43,40,39,36,35,9,8,5,0] rfl ?_
 refine ac ?_
 refine Fin.eqC 0 ((xi.2.set j true).map fun b=>bool b) rfl (eu AA) (Fin.VV (res:=HT 4) [] (xi.1,xi.2.set j true) (show i<X4.length by omega) rfl ?_)
 exact Fin.DK (X4.set i (xi.1,xi.2.set j true)) (j+1)  (⟨⟨by omega,ew hb4 hxi,(by rw [←uD Bq Bq];exact ej hX4 hxi AA AA)⟩,by omega⟩) ⟨⟨_,rfl,AG j⟩,kz⟩ (fun _ _ h=>h)
 refine a2 ?_
 exact Fin.DK (X4) (j+1)  (⟨⟨by omega,hb4,(by rw [←nX CN];exact hX4)⟩,by omega⟩) ⟨⟨_,rfl,AG j⟩,kz⟩ (fun _ _ h=>h)
 refine ac ?_
 refine wk [62,44,43,40,39,36,35,10,9,8,5,0] rfl ?_
 refine a2 ?_
 exact Fin.DK (X4) (j+1)  (⟨⟨by omega,hb4,(by rw [←nX CN];exact hX4)⟩,by omega⟩) ⟨⟨_,rfl,AG j⟩,kz⟩ (fun _ _ h=>h)
 have hje:=AJ h5
 refine a2 ?_
 exact Fin.DK (X4) (i+1)  (⟨⟨by omega,hb4,by rw [hX4,show j=n by omega];exact UF nZ⟩,by omega⟩) ⟨⟨_,rfl,AG i⟩,kz⟩ (fun _ _ h=>h)
 have hie:=AJ h4
 refine a2 ?_
 exact Fin.DK (X3) (k2+1)  (⟨⟨by omega,hb3,by rw [hX3,show i=n by omega];exact UF uE⟩,by omega⟩) ⟨⟨_,rfl,AG k2⟩,kz⟩ (fun _ _ h=>h)
 have AHb:=AJ h3
 refine ac ?_
 refine Tr.seq ?_
 have AGJ:k2=n:=by omega
 refine Tr.uX (m:=n) (X:=X2) [] 5 rfl FI (pZ hX2) rfl (Pr.le_of_eq (by rw [←Sf,List.map_map];rfl)) ?_
 refine Tr.drop 0 ?_
 refine a2 ?_
 · subst AGJ;exact Pr.le_of_eq (congrArg (slice 1) (pg hX2))
theorem aQ {n:Int} {l:List BC} (hl:l.length≤1000000):BG prog 144 [int n,reqs l] (int (BF n l)):=by
 refine fo func144 rfl ⟨rfl,rfl⟩ fun M0 w0=>(Tr.Cm 1 rfl fun Fo=> ?_)
 refine ac ?_
 refine ag ?_ ?_<;>intro h1 q1
 refine a3 ?_
 · exact int_eq (K5 AA).symm
 refine an ?_ ?_<;>intro h2 q2
 refine a2 ?_
 · exact int_eq (K5 AA).symm
 obtain ⟨N,rfl⟩:∃N:Nat,n=(N:Int):=⟨n.toNat,by omega⟩
 refine a2 ?_
 refine Tr.block (Tr.BH _ (kk [17,16,1,0] rfl) (fun k:Nat=>[(18,int ((k:Nat):Int))]) (fun k:Nat=>k≤(l).length∧(∀j y,j<k→l[j]? =some y→FU N y=false)) (fun k:Nat=>(l).length-k) 0 (⟨Nat.zero_le _,fun j y hj=>absurd hj AA⟩) kz ?_)
 rintro k ⟨BU,AZ⟩
 refine ac ?_
 refine Tr.seq ?_
 refine Tr.cn rfl ?_ ?_<;>intro h3 q3
 have Af:k<(l).length:=AH h3
 obtain ⟨r,Ah⟩:=at_ Af
 refine ac ?_
 refine Tr.seq (Tr.block (Tr.seq (Tr.An (tp rfl (AD rfl underlying33 Cw vq vq AA (AX Ah)) (tp rfl (AP rfl Fe Cw vq rfl rfl) ?_)))))
 refine Tl rfl rfl rfl rfl Sj Q8 (fun b1=> ?_)
 refine sf 0 6 ⟨rfl,rfl,rfl⟩ rfl rfl rfl rfl ?_
 refine ao ?_
 · repeat' first|(exact int_eq (Qb AA Ah wZ).symm)|(exact Fin.AL (k+1) ⟨⟨Af,Dv (p:=FU N) Ah bt AZ⟩,by omega⟩ ⟨⟨_,rfl,AG k⟩,kz⟩)|refine ac ?_|(refine Tr.cn rfl ?_ ?_<;>intro h q)|(refine Ch.cg rfl rfl rfl ?_ ?_<;>intro h q)
 have BK:k=(l).length:=by have:=AJ h3;omega
 subst BK
 have hbs:=eN AZ
 have ia:∀r∈l,(0≤r.fst∧r.fst<(N:Nat))∧0≤r.thn∧r.thn<(N:Nat):=fun r hr=>by
  have h_:=hbs r hr
  unfold FU at h_;rw [decide_eq_false_iff_not] at h_;omega
 refine a2 ?_
 refine Tr.block (Tr.J4 _ (kk [1,0] rfl) (fun (i:Nat)=>[(7,int ((i:Nat):Int))]) (fun (i:Nat)=>Hp M0 w0 FO ([])) (fun (i:Nat)=>(1≤i∧(i≤l.length∨i=1))∧∀(j:Nat) a b,j+1<i→l[j]? =some a→l[j+1]? =some b→Er a b=true) (fun (i:Nat)=>l.length-i) (1)  (⟨⟨by omega,.inr rfl⟩,fun j a b hj=>absurd hj AA⟩) kz (fun _ _ h=>h) ?_)
 rintro i  ⟨⟨hi1,hi2⟩,hso⟩
 refine an ?_ ?_<;>intro h9 q9
 have F8:i<l.length:=AH h9
 obtain ⟨x,hx⟩:=at_ F8
 obtain ⟨y,hy⟩:=at_ (l:=l) (k:=i-1) AA
 · repeat' first|exact int_eq (V5 AA hbs AA hy hx CN).symm|(exact Fin.Kr (i+1)  (⟨⟨⟨by omega,.inl AA⟩,KU hx (fun z _ hz=>by rw [hy] at hz;cases hz;simp_all) hso⟩,by omega⟩) ⟨⟨_,rfl,AG i⟩,kz⟩ (fun _ _ h=>h))|(refine co rfl (AD rfl underlying33 Cw vq vq AA bV) ?_)|refine co rfl (AD rfl underlying33 Cw vq vq AA (AX hx)) (co rfl (AP rfl Fe Cw vq rfl rfl) (co rfl (CL (Tz) rfl rfl rfl) ?_))|refine ac ?_|(refine Tr.cn rfl ?_ ?_<;>intro h q)
 have hie:=AJ h9
 have hsr:D_ l=true:=SA fun j a b hj=>hso j a b AA
 refine a2 ?_
 refine co rfl (CL (UG (n:=N) (l:=l) AA hl ia) rfl rfl rfl) ?_
 refine a2 ?_
 refine Tr.block (Tr.J4 _ (kk [70,8] rfl) (fun (m:Nat)=>[(71,int ((m:Nat):Int))]) (fun (m:Nat)=>Hp M0 w0 FO ([])) (fun (m:Nat)=>m≤N∧∀i,i<m→C5 l N i i=false) (fun (m:Nat)=>N-m) (0)  (⟨Nat.zero_le _,fun i hi=>absurd hi AA⟩) kz (fun _ _ h=>h) ?_)
 rintro m  ⟨hm0,hwn⟩
 refine ac ?_
 refine Tr.seq ?_
 refine Tr.cn rfl ?_ ?_<;>intro h11 Sx
 have hm:m<N:=AH h11
 · repeat' first|exact int_eq (R_ AA hbs hsr hm Bq).symm|(exact Fin.Kr (m+1)  (⟨⟨by omega,fun i hi=>by rcases Nat.lt_or_eq_of_le (Nat.le_of_lt_succ hi) with h_|h_;exact hwn i h_;(subst h_;assumption)⟩,by omega⟩) ⟨⟨_,rfl,AG m⟩,kz⟩ (fun _ _ h=>h))|refine co rfl (AD rfl underlying158 Oc vq vq AA (AX (K8 _ hm))) ?_|refine co rfl (AD rfl underlying160 Ta vq vq AA (AX (K9 _ hm))) ?_|refine ac ?_|(refine Tr.cn rfl ?_ ?_<;>intro h q)
 have hme:=AJ h11
 refine a3 ?_
 · exact int_eq (V6 AA hbs hsr fun i hi=>hwn i AA).symm
theorem HV {n:Int} {l:List BC} (hl:l.length≤1000000):BG prog 81 [int n,reqs l] (int (BF n l)):=by
 refine fo func81 rfl ⟨rfl,rfl⟩ fun M0 w0=> ?_
 refine a2 ?_
 refine co rfl (CL (aQ hl) rfl rfl rfl) ?_
 refine a2 ?_
 · exact Lr
theorem OH {a b:List Int} (hab:a.length≤b.length):BG prog 298 [ints a,ints b] (ER):=by
 refine fo func298 rfl ⟨rfl,rfl⟩ fun M0 w0=>(Tr.Cm 0 rfl fun EJ=>(Tr.Cm 1 rfl fun Fo=> ?_))
 refine a2 ?_
 refine Tr.block (Tr.BH _ (kk [7,1,0] rfl) (fun k:Nat=>[(8,int ((k:Nat):Int))]) (fun k:Nat=>k≤(a).length) (fun k:Nat=>(a).length-k) 0 (Nat.zero_le _) kz ?_)
 rintro k BU
 refine ac ?_
 refine Tr.seq ?_
 refine Tr.cn rfl ?_ ?_<;>intro h1 q1
 have Af:k<(a).length:=AH h1
 obtain ⟨x,Ah⟩:=at_ Af
 obtain ⟨y,hy⟩:=at_ (l:=b) (k:=k) AA
 · repeat' first|exact Ax _ Lr|exact Fin.AL (k+1) ⟨Af,by omega⟩ ⟨⟨_,rfl,AG k⟩,kz⟩|refine co rfl (AD rfl underlying51 Bt vq vq AA (AX Ah)) ?_|refine co rfl (AD rfl underlying51 Bt vq vq AA (AX hy)) ?_|refine ac ?_|(refine Tr.cn rfl ?_ ?_<;>intro h q)
 have BK:k=(a).length:=by have:=AJ h1;omega
 refine a3 ?_
 · exact BN
theorem UH {a b:List Int}  :BG prog 281 [ints a,ints b] (ER):=by
 refine fo func281 rfl ⟨rfl,rfl⟩ fun M0 w0=>(Tr.Cm 0 rfl fun EJ=>(Tr.Cm 1 rfl fun Fo=> ?_))
 refine ac ?_
 refine ap ?_
 refine TO.cases 10 rfl (fun h1=> ?_) (fun h1=> ?_)
 have q1:=DU.D9 h1
 refine TO.Fx rfl rfl rfl h1 rfl AB (BQ rfl vq) (TO.Fx rfl rfl rfl h1 rfl AB (BQ rfl vq) (TO.Fx rfl rfl rfl h1 rfl AB (CL (OH AA) rfl rfl rfl) (TO.ex 13 rfl fun z13=>(TO.Fx rfl rfl rfl h1 rfl AB (HB rfl vq) ?_))))
 refine ap ?_
 refine TO.cases 16 rfl (fun h2=> ?_) (fun h2=> ?_)
 have q2:=DU.D9 h2
 refine TO.Fx rfl rfl rfl h2 rfl AB (BQ rfl vq) (TO.Fx rfl rfl rfl h2 rfl AB (BQ rfl vq) (TO.Fx rfl rfl rfl h2 rfl AB (CL (OH AA) rfl rfl rfl) (TO.ex 19 rfl fun z19=>(TO.Fx rfl rfl rfl h2 rfl AB (HB rfl vq) ?_))))
 refine ap ?_
 refine wk [4] rfl ?_
 refine ac ?_
 · exact BN
 have q2:=DU.D9 h2
 iterate 4 refine TO.VX rfl rfl rfl (Bc h2) rfl AB ?_
 refine ap ?_
 refine wk [4] rfl ?_
 refine ac ?_
 · exact BN
 have q1:=DU.D9 h1
 iterate 4 refine TO.VX rfl rfl rfl (Bc h1) rfl AB ?_
 refine ap ?_
 iterate 4 refine TO.VX rfl rfl rfl (Bc rfl) rfl AB ?_
 refine ap ?_
 refine wk [4] rfl ?_
 refine ac ?_
 · exact BN
theorem WE {a b:List Int}  :BG prog 252 [ints a,ints b] (ER):=by
 refine fo func252 rfl ⟨rfl,rfl⟩ fun M0 w0=> ?_
 refine a2 ?_
 refine co rfl (CL (UH) rfl rfl rfl) ?_
 refine a2 ?_
 · exact Lr
abbrev sets (l:List (List Int)):Pr:=slice 1 (l.map fun s=>[ints s])
structure um (l:List (List Int)) (s:List Int) (z:List (List Int)):Prop where
 mem:∀x∈z,x∈l∨x=s
 le:z.length≤l.length+1
 ge:l.length≤z.length
theorem qu {l:List (List Int)} {s:List Int} {k:Nat} (hk:k≤l.length):um l s (l.take k++[s]++l.drop k):=by
 refine ⟨fun x hx=> ?_,by simp;omega,by simp;omega⟩
 simp only [List.mem_append,List.mem_singleton] at hx
 rcases hx with (hx|hx)|hx
 · exact .inl (List.mem_of_mem_take hx)
 · exact .inr hx
 · exact .inl (List.mem_of_mem_drop hx)
theorem uo {lo hi:Nat} (h:lo+hi≤1000000):IntKind.i64.wrap (((lo:Int)+(hi:Int)).tdiv 2)=(((lo+hi)/2:Nat):Int):=by
 rw [Int.tdiv_eq_ediv_of_nonneg AA,Gu Km];omega
theorem uq {l:List (List Int)} {s:List Int}:um l s l:=⟨fun x hx=> .inl hx,by omega,by omega⟩
theorem pq {l:List (List Int)} {s:List Int} (hl:l.length≤100000) (hs:∀x∈l,x.length=s.length):BG prog 297 [sets l,ints s] (Cp.ex fun z:List (List Int)=>fact (um l s z) (sets z)):=by
 refine fo func297 rfl ⟨rfl,rfl⟩ fun M0 w0=>(Tr.Cm 0 rfl fun EJ=> ?_)
 have hml:(l.map fun s=>[ints s]).length=l.length:=List.length_map _
 refine a2 ?_
 refine Tr.seq (Tr.block (Tr.DD _ (kk [1,0] rfl) (fun (lo:Nat) (hi:Nat)=>[(5,int ((lo:Nat):Int)),(6,int ((hi:Nat):Int))]) (fun (lo:Nat) (hi:Nat)=>Hp M0 w0 FO ([])) (fun (lo:Nat) (hi:Nat)=>lo≤hi∧hi≤l.length) (fun (lo:Nat) (hi:Nat)=>hi-lo) (0) (l.length)  (⟨Nat.zero_le _,Nat.le_refl _⟩) ⟨kq,kz⟩ (fun _ _ h=>h) ?_))
 rintro lo hi  ⟨hlh,hhl⟩
 refine an ?_ ?_<;>intro h1 q1
 have hlt:lo<hi:=AH h1
 obtain ⟨x,hx⟩:=at_ (l:=l) (k:=(lo+hi)/2) AA
 have hxs:=hs x (List.mem_of_getElem? hx)
 refine a2 ?_
 refine co rfl (UT rfl vq vq AA) ?_
 refine ac ?_
 refine Tr.seq (Tr.re 7 rfl (int_eq (uo AA)) ?_)
 refine ac ?_
 refine co rfl (AD rfl underlying99 Gw vq vq AA (AX hx)) ?_
 refine ac ?_
 refine co rfl (CL (OH AA) rfl rfl rfl) ?_
 refine ac ?_
 refine wk [23,7,6,5,1,0] rfl (Tr.ex 23 rfl fun AHc=> ?_)
 refine Tr.cn rfl ?_ ?_<;>intro h2 q2
 refine ac ?_
 exact Fin.DK (((lo+hi)/2+1)) (hi)  (⟨⟨by omega,by omega⟩,by omega⟩) ⟨kq,kz⟩ (fun _ _ h=>h)
 refine ac ?_
 exact Fin.DK (lo) (((lo+hi)/2))  (⟨⟨by omega,by omega⟩,by omega⟩) ⟨kq,kz⟩ (fun _ _ h=>h)
 have hge:=AJ h1
 refine ac ?_
 refine ap ?_
 refine TO.cases 31 rfl (fun h3=> ?_) (fun h3=> ?_)
 have q3:=DU.D9 h3
 obtain ⟨x2,hx2⟩:=at_ (l:=l) (k:=lo) AA
 refine TO.Fx rfl rfl rfl h3 rfl AB (BQ rfl vq) (TO.Fx rfl rfl rfl h3 rfl AB (BQ rfl vq) (TO.Fx rfl rfl rfl h3 rfl AB (AD rfl underlying99 Gw vq vq AA (AX hx2)) (TO.Fx rfl rfl rfl h3 rfl AB (Fw rfl cV rfl) (TO.Fx rfl rfl rfl h3 rfl AB (BQ rfl vq) (TO.Fx rfl rfl rfl h3 rfl AB (CL (UH) rfl rfl rfl) (TO.ex 37 rfl fun z37=> ?_))))))
 refine ap ?_
 refine wk [38,5,1,0] rfl ?_
 refine Tr.cn rfl ?_ ?_<;>intro h4 q4
 refine a2 ?_
 · exact Ax _ (A_ uq Lr)
 refine ac ?_
 refine ap ?_
 refine tp rfl (DY rfl underlying99 Gw vq vq AA AA) (TO.pad ?_)
 refine TO.DT 0 rfl rfl AB (EB rfl rfl AB rfl underlying99 Gw Wr z51 rfl AB ⟨_,rfl,AQ _⟩ vq Ip Iq (Br BL ⟨_,rfl,Cr 1⟩)) (fun v1=> ?_)
 refine ap ?_
 refine ap ?_
 refine TO.DT 0 rfl rfl AB (B7 rfl rfl rfl rfl underlying99 Gw Wr z51 G3 F4 (Ay BL Jo)) (fun v2=> ?_)
 refine ap ?_
 refine wk [8,5,0] rfl ?_
 refine ap ?_
 refine tp rfl (DL rfl underlying99 Gw vq vq AA AA) ?_
 refine TO.DT 0 rfl rfl AB (B7 rfl rfl rfl rfl underlying99 Gw Wr z51 G3 vq (Ay BL Jo)) (fun v3=> ?_)
 refine ap ?_
 refine ac ?_
 · exact jx
 have q3:=DU.D9 h3
 iterate 6 refine TO.VX rfl rfl rfl (Bc h3) rfl AB ?_
 refine ap ?_
 refine wk [38,5,1,0] rfl ?_
 refine ac ?_
 refine ap ?_
 refine tp rfl (DY rfl underlying99 Gw vq vq AA AA) (TO.pad ?_)
 refine TO.DT 0 rfl rfl AB (EB rfl rfl AB rfl underlying99 Gw Wr z51 rfl AB ⟨_,rfl,AQ _⟩ vq Ip Iq (Br BL ⟨_,rfl,Cr 1⟩)) (fun v4=> ?_)
 refine ap ?_
 refine ap ?_
 refine TO.DT 0 rfl rfl AB (B7 rfl rfl rfl rfl underlying99 Gw Wr z51 G3 F4 (Ay BL Jo)) (fun v5=> ?_)
 refine ap ?_
 refine wk [8,5,0] rfl ?_
 refine ap ?_
 refine tp rfl (DL rfl underlying99 Gw vq vq AA AA) ?_
 refine TO.DT 0 rfl rfl AB (B7 rfl rfl rfl rfl underlying99 Gw Wr z51 G3 vq (Ay BL Jo)) (fun v6=> ?_)
 refine ap ?_
 refine ac ?_
 · exact jx
theorem aR {o:List Int} (ho:o.length≤1000):BG prog 126 [ints o] (Cp.ex fun z:List BC=>fact (z.length≤o.length) (reqs z)):=by
 refine fo func126 rfl ⟨rfl,rfl⟩ fun M0 w0=>(Tr.Cm 0 rfl fun EJ=> ?_)
 refine a3 ?_
 refine Tr.block (Tr.DD _ (kk [0] rfl) (fun (z:List BC) (i:Nat)=>[(3,reqs z),(4,int ((i:Nat):Int))]) (fun (z:List BC) (i:Nat)=>Hp M0 w0 FO ([])) (fun (z:List BC) (i:Nat)=>(1≤i∧(i≤o.length∨i=1))∧z.length+1≤i) (fun (z:List BC) (i:Nat)=>o.length-i) ([]) (1)  (⟨⟨by omega,.inr rfl⟩,by simp⟩) ⟨⟨_,rfl,AQ 2⟩,kz⟩ (fun _ _ h=>h) ?_)
 rintro z i  ⟨⟨hi1,hi2⟩,hzl⟩
 refine an ?_ ?_<;>intro h1 q1
 have F8:i<o.length:=AH h1
 obtain ⟨x,hx⟩:=at_ F8
 obtain ⟨y,hy⟩:=at_ (l:=o) (k:=i-1) AA
 refine a2 ?_
 refine co rfl (AD rfl underlying22 Bt vq vq AA bV) ?_
 refine ac ?_
 refine co rfl (AD rfl underlying22 Bt vq vq AA (AX hx)) ?_
 refine ac ?_
 refine co rfl (CL (Ro (l:=z) (r:=⟨y,x⟩) AA) rfl rfl rfl) ?_
 refine ac ?_
 refine wk [4,3,0] rfl ?_
 refine ac ?_
 exact Fin.DK ((GJ z ⟨y,x⟩)) (i+1)  (⟨⟨⟨by omega,.inl AA⟩,by have:=Rn z ⟨y,x⟩;omega⟩,by omega⟩) ⟨kq,⟨_,rfl,AG i⟩,kz⟩ (fun _ _ h=>h)
 have hie:=AJ h1
 refine a3 ?_
 · exact Ax _ (A_ AA Lr)
theorem UI (n:Nat) (l:List BC):∀k,(Da n l k).2.length≤k
 |0=>Nat.le_refl _
 |k+1=>by
  have h:=UI n l k
  rw [Da]
  split
  · omega
  ·
   rename_i x _
   have h2:=N7 (Da n l k).2 x true
   show (Dq (Da n l k).2 x true).length≤k+1
   omega
theorem aS {n:Int} {l:List BC} (hl:l.length≤1000000):BG prog 103 [int n,reqs l] (Dz [ints (if BF n l=0 then (Da n.toNat l n.toNat).1 else []),int (BF n l)]):=by
 refine fo func103 rfl ⟨rfl,rfl⟩ fun M0 w0=> ?_
 refine a2 ?_
 refine co rfl (CL (HV hl) rfl rfl rfl) ?_
 refine ac ?_
 refine an ?_ ?_<;>intro h1 q1
 have hv:BF n l≠0:=by simpa using h1
 refine ac ?_
 refine Tr.ret (Fin.AE (Fin.Ct rfl (Bg.Dc _ _) rfl ?_ rfl ?_))
 · rw [if_neg hv];exact AQ 1
 · exact Lr
 have hv:BF n l=0:=by simpa using h1
 obtain ⟨N,rfl⟩:∃N:Nat,n=(N:Int):=⟨n.toNat,by have:=(DF hv).1;omega⟩
 have Nc:=(DF hv).1
 refine a2 ?_
 refine Tr.seq (Tr.block (Tr.B5 3 1 (Tr.Wn _ (kk [1,0] rfl) (fun (k:Nat) u=>[(7,ints (Da N l k).2),(8,Ad u (ints (Da N l k).1))]) (fun (k:Nat) u=>Hp M0 w0 FO ([Aw 3 1 u])) (fun (k:Nat)=>k≤N) (fun (k:Nat)=>N-k) (0) (.slice none 0 0) (Nat.zero_le _) ⟨⟨_,rfl,AQ 1⟩,⟨_,rfl,Bi rfl⟩,trivial⟩ (fun _ _ h=>h) ?_)))
 rintro k u hkN
 have hrow:=JL hv k (by simpa using hkN)
 rw [Int.toNat_natCast] at hrow
 obtain ⟨ia,hrl⟩:=hrow
 have OI:(Da N l k).2.length≤100000:=Nat.le_trans (UI N l k) AA
 refine ac ?_
 refine co rfl (CB rfl underlying51 G3) ?_
 refine an ?_ ?_<;>intro h2 q2
 have hk:k<N:=by have:=DU.D9 h2;omega
 obtain ⟨x,hx0,hst⟩:=Xf hv (k:=k) Ph
 rw [Int.toNat_natCast] at hx0 hst
 have ADC:=AX (f:=fun n:Int=>[int n]) hx0
 refine a2 ?_
 refine co rfl (ZS (KQ (n:=N) (l:=l) AA AA) rfl rfl rfl rfl rfl) ?_
 refine ac ?_
 refine Tr.pad (Tr.rx ?_)
 refine ay ?_
 refine xo rfl (fun _=>AD rfl underlying51 Bt vq vq AA ADC) (xo rfl (fun _=>Fw rfl C8 rfl) (xo rfl (fun _=>AO (xs:=[.tmp 27]) (rows:=[[_]]) rfl rfl underlying51 Bt z3 rfl AB ⟨⟨Am,My⟩,trivial⟩ AB) ?_))
 refine Cx.ef 1 rfl rfl AB (B7 rfl rfl rfl rfl underlying51 Bt G2 z3 G3 F4 (Ay BL Jo)) ?_
 refine ay ?_
 refine xo rfl (fun _=>AD rfl underlying51 Bt vq vq AA ADC) (xo rfl (fun _=>Fw rfl C8 rfl) (xo rfl (fun _=>Jn (G4 AA) rfl rfl rfl rfl) (Cx.ef 1 rfl rfl AB (U9 rfl rfl AB rfl vq) (xm rfl ?_))))
 refine Cx.nil ⟨by kernel_rfl,?_⟩
 refine BE.open_ 1 8 rfl rfl (fun v1=> ?_)
 refine BE.done YV (Fin.block (Fin.drop 0 ?_))
 exact Fin.cQ (k+1) v1 (⟨by omega,by omega⟩) ⟨⟨_,rfl,Pr.le_of_eq (by rw [hst])⟩,⟨_,rfl,BA (by rw [hst];simp)⟩,kz⟩ (fun _ _ h=>h)
 have bB:k=N:=by have:=DU.D9 h2;omega
 refine a2 ?_
 refine Tr.ret (Fin.Ct rfl (Bg.Dc _ _) rfl ?_ rfl ?_)
 · rw [if_pos hv,Int.toNat_natCast,←bB];exact Ar _ _
 · refine int_eq ?_;exact hv.symm
structure Li (n k:Nat) (L:List (List Int)):Prop where
 QD:∀s∈L,∀x∈s,0≤x∧x<(n:Int)
 len:∀s∈L,s.length=k
theorem Xw {n:Nat} {l:List BC} {s:List Int} {x:Int} (h:x∈Dm n l s true):(0≤x∧x<(n:Int))∧x∉s:=by
 unfold Dm at h
 obtain ⟨i,hi,rfl⟩:=List.mem_map.1 h
 obtain ⟨h1,h2⟩:=List.mem_filter.1 hi
 have h3:=List.mem_range.1 h1
 refine ⟨by omega,fun hc=> ?_⟩
 unfold LH at h2
 rw [Bool.and_eq_true] at h2
 have:=C3.2 hc
 rw [this] at h2
 exact absurd h2.1 AB
theorem Li.put {n k:Nat} {l:List BC} {L z:List (List Int)} {s:List Int} {x:Int} (h:Li n (k+1) L) (hs:s.length=k∧∀y∈s,0≤y∧y<(n:Int)) (hx:x∈Dm n l s true) (hp:um L (Dq s x true) z):Li n (k+1) z:=by
 have hb:=Xw hx
 refine ⟨fun t ht=> ?_,fun t ht=> ?_⟩
 ·
  rcases hp.mem t ht with h1|rfl
  · exact h.QD t h1
  ·
   intro y hy
   rcases Ev.1 hy with rfl|hy
   · exact hb.1
   · exact hs.2 y hy
 ·
  rcases hp.mem t ht with h1|rfl
  · exact h.len t h1
  · rw [Gy hb.2,hs.1]
theorem ig {n k:Nat}:Li n k []:=⟨fun _ h=>FW,fun _ h=>FW⟩
theorem ij {n:Nat}:Li n 0 [[]]:=⟨fun s h x hx=>(by simp at h;subst h;cases hx),fun s h=>(by simp at h;subst h;rfl)⟩
structure Lj (n:Int) (L:List (List Int)):Prop where
 QD:∀s∈L,∀x∈s,0≤x∧x<n
 len:L.length≤4096
 wid:∀s∈L,s.length≤4096
theorem iq {n d:Nat} {lv ou nx:List (List Int)} (h1:Li n (d+1) nx) (h2:Lj (n:Int) ou) (h3:lv=[]∨d+1≤ou.length) (hl:ou.length+nx.length≤4096) (hy:lv≠[]):((Li n (d+1) nx∧Lj (n:Int) (ou++nx))∧(nx=[]∨d+1+1≤(ou++nx).length)∧nx.length≤4096)∧(if nx=[] then 0 else 4097-(ou++nx).length)<(if lv=[] then 0 else 4097-ou.length):=by
 have h4:(ou++nx).length=ou.length+nx.length:=List.length_append
 have h5:=h2.len
 rw [if_neg hy]
 refine ⟨⟨⟨h1,⟨fun s hs=> ?_,by omega,fun s hs=> ?_⟩⟩,?_,by omega⟩,?_⟩
 ·
  rcases List.mem_append.1 hs with hs|hs
  · exact h2.QD s hs
  · exact h1.QD s hs
 ·
  rcases List.mem_append.1 hs with hs|hs
  · exact h2.wid s hs
  · rw [h1.len s hs];rcases h3 with h3|h3;exact absurd h3 hy;omega
 ·
  cases nx with
  |nil=>exact .inl rfl
  |cons a m=>right;rcases h3 with h3|h3;exact absurd h3 hy;rw [h4,List.length_cons];omega
 ·
  cases nx with
  |nil=>rw [if_pos rfl];omega
  |cons a m=>rw [if_neg (fun h=>by cases h),h4,List.length_cons];rcases h3 with h3|h3;exact absurd h3 hy;omega
theorem ir {n:Int} {l:List BC} (hl:l.length≤1000000):BG prog 280 [int n,reqs l] (Cp.ex fun z:List (List Int)×Int=>fact (Lj n z.1) (Dz [sets z.1,int z.2])):=by
 refine fo func280 rfl ⟨rfl,rfl⟩ fun M0 w0=> ?_
 refine a2 ?_
 refine co rfl (CL (HV hl) rfl rfl rfl) ?_
 refine ac ?_
 refine an ?_ ?_<;>intro h1 q1
 refine ac ?_
 refine Tr.ret (Fin.AE (Fin.BT rfl (AM.tmp rfl Lr) (AM.tmp rfl Lr) ?_))
 · exact Yo
 have hv:BF n l=0:=by simpa using h1
 obtain ⟨N,rfl⟩:∃N:Nat,n=(N:Int):=⟨n.toNat,by have:=(DF hv).1;omega⟩
 have Nc:=(DF hv).1
 refine ac ?_
 refine Tr.seq (Tr.Aj (co rfl (AO (xs:=[.const (.slice none 0 0)]) (rows:=[[ints []]]) rfl rfl underlying99 Gw z51 rfl AB ⟨⟨Am,VL.le vq (Pr.le_trans (AQ 1) (AY _))⟩,trivial⟩ AB) ?_))
 refine ac ?_
 refine Tr.seq (Tr.Aj (co rfl (AO (xs:=[.const (.slice none 0 0)]) (rows:=[[ints []]]) rfl rfl underlying99 Gw z51 rfl AB ⟨⟨Am,VL.le vq (Pr.le_trans (AQ 1) (AY _))⟩,trivial⟩ AB) ?_))
 refine ac ?_
 refine Tr.seq (Tr.block (Tr.ADA (e:=51) (rows:=[[ints []]]) 8 rfl Lr (fun v8=> ?_)))
 refine Tr.Fc _ (kk [1,0] rfl) (fun (lv:List (List Int)) (ou:List (List Int)) (d:Nat) u=>[(7,sets lv),(8,Ad u (sets ou))]) (fun (lv:List (List Int)) (ou:List (List Int)) (d:Nat) u=>Hp M0 w0 FO ([Aw 51 1 u])) (fun (lv:List (List Int)) (ou:List (List Int)) (d:Nat)=>(Li N d lv∧Lj N ou)∧(lv=[]∨d+1≤ou.length)∧lv.length≤4096) (fun (lv:List (List Int)) (ou:List (List Int)) (d:Nat)=>(if lv=[] then 0 else 4097-ou.length)) ([[]]) ([[]]) (0) v8 (⟨⟨ij,⟨fun s h x hx=>(by simp at h;subst h;cases hx),by decide,fun s h=>(by simp at h;subst h;decide)⟩⟩,.inr AB,by decide⟩) ⟨⟨_,rfl,Bx 1 _⟩,⟨_,rfl,BA rfl⟩,trivial⟩ (fun _ _ h=>h) ?_
 rintro lv ou d u ⟨⟨hlv,hou⟩,hd,hl4⟩
 refine an ?_ ?_<;>intro h2 q2
 have hy:lv≠[]:=by have h_:=DU.D9 h2;intro h0;subst h0;simp at h_
 have hd4:d+1≤4096:=by have:=hou.len;rcases hd with hd|hd;exact absurd hd hy;omega
 refine a3 ?_
 refine Tr.block ?_
 refine Tr.DD _ (kk [26,25,8,1,0] rfl) (fun (nx:List (List Int)) (m:Nat)=>[(9,sets nx),(27,int ((m:Nat):Int))]) (fun (nx:List (List Int)) (m:Nat)=>Hp M0 w0 FO ([Aw 51 1 u])) (fun (nx:List (List Int)) (m:Nat)=>(m≤lv.length∧Li N (d+1) nx)∧ou.length+nx.length≤4096) (fun (nx:List (List Int)) (m:Nat)=>lv.length-m) ([]) (0)  (⟨⟨Nat.zero_le _,ig⟩,by have:=hou.len;simpa using this⟩) ⟨⟨_,rfl,AQ 1⟩,kz⟩ (fun _ _ h=>h) ?_
 rintro nx m  ⟨⟨hm0,hnx⟩,ZM⟩
 refine ac ?_
 refine Tr.seq ?_
 refine Tr.cn rfl ?_ ?_<;>intro h3 q3
 have hml:m<lv.length:=AH h3
 obtain ⟨s,hs⟩:=at_ hml
 have Z1:=hlv.len s (List.mem_of_getElem? hs)
 refine ac ?_
 refine Tr.seq (Tr.block (Tr.seq (Tr.Aj (co rfl (AD rfl underlying99 Gw vq vq AA (AX hs)) ?_))))
 refine a2 ?_
 refine co rfl (ZS (KQ (n:=N) (l:=l) AA AA) rfl rfl rfl rfl rfl) ?_
 refine ac ?_
 refine wk [36,35,34,27,26,25,11,9,8,1,0] rfl (Tr.block (Tr.DD _ (kk [35,34,27,26,25,11,8,1,0] rfl) (fun (ny:List (List Int)) (q:Nat)=>[(9,sets ny),(36,int ((q:Nat):Int))]) (fun (ny:List (List Int)) (q:Nat)=>Hp M0 w0 FO ([Aw 51 1 u])) (fun (ny:List (List Int)) (q:Nat)=>(q≤(Dm N l s true).length∧Li N (d+1) ny)∧ou.length+ny.length≤4096) (fun (ny:List (List Int)) (q:Nat)=>(Dm N l s true).length-q) (nx) (0)  (⟨⟨Nat.zero_le _,hnx⟩,ZM⟩) ⟨kq,kz⟩ (fun _ _ h=>h) ?_))
 rintro ny q  ⟨⟨hq0,hny⟩,AGK⟩
 refine ac ?_
 refine Tr.seq ?_
 refine Tr.cn rfl ?_ ?_<;>intro h4 q4
 have hql:q<(Dm N l s true).length:=AH h4
 have W0:=Xg (n:=N) (l:=l) (s:=s) (add:=true)
 obtain ⟨x,XT⟩:=at_ hql
 refine ac ?_
 refine Tr.seq (Tr.block (Tr.seq (Tr.Aj (co rfl (AD rfl underlying51 Bt vq vq AA (AX XT)) ?_))))
 refine ac ?_
 refine wk [36,35,34,27,26,25,13,11,9,8,1,0] rfl ?_
 refine ap ?_
 refine tp rfl (Jn (G4 AA) rfl rfl rfl rfl) ?_
 refine tp rfl (CL (pq AA (fun t ht=>by rw [hny.len t ht,Gy (Xw (List.mem_of_getElem? XT)).2];omega)) rfl rfl rfl) ?_
 refine TO.ex 44 rfl (fun z1=>TO.fact 44 rfl fun Ef=> ?_)
 have hzl:=Ef.le
 refine ap ?_
 refine wk [36,35,34,27,26,25,11,9,8,1,0] rfl ?_
 refine ac ?_
 refine co rfl (CB rfl underlying99 G3) ?_
 refine ac ?_
 refine wk [50,36,35,34,27,26,25,11,9,8,1,0] rfl ?_
 refine Tr.cn rfl ?_ ?_<;>intro h5 q5
 refine ac ?_
 refine wk [5,4] rfl (Tr.ret (Fin.AU (Fin.AE (Fin.AE (Fin.AU (Fin.AU (Fin.AE (Fin.AE (Fin.AU (Fin.AE (Fin.AU (Fin.AE (Fin.AU (Fin.AE ?_))))))))))))))
 refine Fin.BT rfl (AM.tmp rfl Lr) (AM.tmp rfl Lr) ?_
 · exact Yo
 refine a2 ?_
 exact Fin.DK (z1) (q+1)  (⟨⟨⟨by omega,hny.put ⟨Z1,hlv.QD s (List.mem_of_getElem? hs)⟩ (List.mem_of_getElem? XT) Ef⟩,by omega⟩,by omega⟩) ⟨kq,⟨_,rfl,AG q⟩,kz⟩ (fun _ _ h=>h)
 have hqe:=AJ h4
 refine a2 ?_
 exact Fin.DK (ny) (m+1)  (⟨⟨⟨by omega,hny⟩,AGK⟩,by omega⟩) ⟨kq,⟨_,rfl,AG m⟩,kz⟩ (fun _ _ h=>h)
 have hme:=AJ h3
 refine ac ?_
 refine ap ?_
 refine TO.DT 0 rfl rfl AB (B7 rfl rfl rfl rfl underlying99 Gw Wr z51 G3 vq (Ay BL Jo)) (fun v1=> ?_)
 refine ap ?_
 exact Fin.EP (nx) (ou++nx) (d+1) v1 (iq hnx hou hd ZM hy) ⟨kq,⟨_,rfl,BA AV⟩,kz⟩ (fun _ _ h=>h)
 have hy:=h2
 refine a2 ?_
 refine Tr.ret (Fin.BT rfl (AM.tmp rfl Lr) (AM.tmp rfl Lr) ?_)
 · exact Ax (_,_) (A_ hou (Az ⟨Ar _ _,Lr,trivial⟩))
theorem pz {β:Type} {p:β→Bool} {l:List β} {k:Nat} {x:β} (h:l[k]? =some x):idx p (l.take (k+1))=if idx p (l.take k)<0 then (if p x=true then (k:Int) else -1) else idx p (l.take k):=by
 have hk:=BM h
 rw [List.take_add_one,h]
 have hl:(l.take k).length=k:=by rw [List.length_take];omega
 show idx p (l.take k++[x])=_
 generalize l.take k=a at hl ⊢
 unfold idx
 rw [List.findIdx?_append]
 cases ha:a.findIdx? p with
 |some i=>simp;intro h3;omega
 |none=>cases hp:p x<;>simp [hp,hl]
theorem iw {β:Type} {p:β→Bool} {l:List β} {k:Nat} {x:β} (h:l[k]? =some x):(((l.take (k+1)).countP p:Nat):Int)=((l.take k).countP p:Nat)+(if p x=true then 1 else 0):=by
 rw [List.take_add_one,h]
 show (((l.take k++[x]).countP p:Nat):Int)=_
 rw [List.countP_append,List.countP_singleton];split<;>simp_all
theorem NO {β:Type} {p:β→Bool} {l:List β}:idx p l<0↔l.countP p=0:=by
 unfold idx
 cases h:l.findIdx? p with
 |none=>
  rw [List.findIdx?_eq_none_iff] at h
  simp only [show ((none:Option Nat).map fun n=>(n:Int)).getD (-1)= -1 from rfl]
  constructor
  · intro _;rw [List.countP_eq_zero];intro a ha;rw [h a ha];decide
  · intro _;decide
 |some i=>
  rw [List.findIdx?_eq_some_iff_getElem] at h
  obtain ⟨h1,h2,_⟩:=h
  constructor
  · intro h3;exfalso;revert h3;simp
  · intro h3;rw [List.countP_eq_zero] at h3;exact absurd h2 (h3 _ (List.getElem_mem h1))
theorem ur {β:Type} {p:β→Bool} {l:List β} {k n:Nat} (h:l.length≤n):(l.take k).countP p≤n:=Nat.le_trans List.countP_le_length (Nat.le_trans Ir h)
theorem bsX {l:List Int} {n x:Int} {k:Nat} (h:∀(j:Nat) y,j<k→l[j]? =some y→y<n) (hx:l[k]? =some x) (hlt:x<n):∀(j:Nat) y,j<k+1→l[j]? =some y→y<n:=by
 intro j y hj hy
 rcases Nat.lt_or_eq_of_le (Nat.le_of_lt_succ hj) with h1|h1
 · exact h j y h1 hy
 · subst h1;rw [hx] at hy;cases hy;exact hlt
def HW (id:Int) (x:Jb):Bool:=x.CW==id
def Fz (id:Int) (l:List Jb):Int:=((l.countP (HW id):Nat):Int)
theorem GM (id:Int) (l:List Jb):Bp id l=idx (HW id) l:=rfl
theorem iy {id:Int} {l:List Jb} {k:Nat} {x:Jb} (h:l[k]? =some x):Fz id (l.take (k+1))=Fz id (l.take k)+(if x.CW=id then 1 else 0):=by
 unfold Fz;rw [iw h];unfold HW;simp only [beq_iff_eq]
theorem Xx {id:Int} {l:List Jb} {k:Nat} {x:Jb} (h:l[k]? =some x):Bp id (l.take (k+1))=if Fz id (l.take k)=0 then (if x.CW=id then (k:Int) else -1) else Bp id (l.take k):=by
 rw [GM,GM,pz h]
 have:=NO (p:=HW id) (l:=l.take k)
 unfold Fz
 by_cases h2:idx (HW id) (l.take k)<0
 ·
  have h4:(((l.take k).countP (HW id):Nat):Int)=0:=by rw [this.1 h2];rfl
  rw [if_pos h2,if_pos h4];unfold HW;simp only [beq_iff_eq]
 · rw [if_neg h2,if_neg (fun h3=>h2 (this.2 AA))]
theorem Xy {id:Int} {l:List Jb} (h:Fz id l=0):Bp id l= -1:=by
 have h2:=(NO (p:=HW id) (l:=l)).2 (by unfold Fz at h;omega)
 rw [GM];unfold idx at h2 ⊢
 cases h3:l.findIdx? (HW id) with
 |none=>rfl
 |some i=>rw [h3] at h2;simp at h2;omega
def Hy (e:CA) (k:Int):Int×Bool:=if k=3 then (e.most,true) else if k=4 then (e.least,true) else if k=11 then (LF e.Ia,true) else if k=12 then (LF e.own,true) else (0,false)
def GZ (e:CA) (k:Int):List Int×Bool×Bool:=
 if k=1∨k=2 then (e.A8,decide (k=1),true) else if k=7∨k=8 then (e.anchors,decide (k=7),true) else if k=9∨k=10 then (e.hashes,decide (k=9),true) else ([],false,false)
theorem TE (x:Jb):decide (x=B1)=cz x:=by
 rw [Bool.eq_iff_iff,decide_eq_true_eq];unfold cz B1
 cases x;simp only [Jb.mk.injEq,Bool.and_eq_true,decide_eq_true_eq,beq_iff_eq,and_assoc]
 constructor
 · rintro ⟨h1,h2,h3,h4⟩;exact ⟨h1,h2,h3,by simp [h4]⟩
 · rintro ⟨h1,h2,h3,h4⟩;exact ⟨h1,h2,h3,List.eq_nil_of_length_eq_zero AA⟩
theorem JS {l:List Int} {n:Int}  :BG prog 326 [ints l,int n] (int (idx (fun y=>n==y) l)):=by
 refine fo func326 rfl ⟨rfl,rfl⟩ fun M0 w0=>(Tr.Cm 0 rfl fun EJ=> ?_)
 refine a2 ?_
 refine Tr.block (Tr.BH _ (kk [8,7,1] rfl) (fun k:Nat=>[(9,int ((k:Nat):Int))]) (fun k:Nat=>k≤(l).length∧(∀j y,j<k→l[j]? =some y→(n==y)=false)) (fun k:Nat=>(l).length-k) 0 (⟨Nat.zero_le _,fun j y hj=>absurd hj AA⟩) kz ?_)
 rintro k ⟨BU,AZ⟩
 refine ac ?_
 refine Tr.seq ?_
 refine Tr.cn rfl ?_ ?_<;>intro h1 q1
 have Af:k<(l).length:=AH h1
 obtain ⟨x,Ah⟩:=at_ Af
 · repeat' first|(exact int_eq (Es (p:=fun y=>n==y) Ah B8 AZ))|(exact Fin.AL (k+1) ⟨⟨Af,Dv (p:=fun y=>n==y) Ah B8 AZ⟩,by omega⟩ ⟨⟨_,rfl,AG k⟩,kz⟩)|refine co rfl (AD rfl underlying22 Bt vq vq AA CO) ?_|refine ac ?_|(refine Tr.cn rfl ?_ ?_<;>intro h q)
 have BK:k=(l).length:=by have:=AJ h1;omega
 subst BK
 refine a3 ?_
 · exact int_eq (Gc (p:=fun y=>n==y) AZ)
theorem OJ {e:CA} {id:Int} (hl:e.ids.length≤1000000):BG prog 328 [agg (Bf e),int id] (Dz [int (Fz id e.ids),int (Bp id e.ids)]):=by
 refine fo func328 rfl ⟨rfl,rfl⟩ fun M0 w0=> ?_
 refine a3 ?_
 refine Tr.block (Tr.BH _ (kk [12,11,1] rfl) (fun k:Nat=>[(13,int ((k:Nat):Int)),(6,int (Fz id (e.ids.take k))),(7,int (Bp id (e.ids.take k)))]) (fun k:Nat=>k≤(e.ids).length) (fun k:Nat=>(e.ids).length-k) 0 (Nat.zero_le _) ⟨kq,⟨_,rfl,int_eq rfl⟩,⟨_,rfl,int_eq rfl⟩,trivial⟩ ?_)
 rintro k BU
 refine ac ?_
 refine Tr.seq ?_
 refine Tr.cn rfl ?_ ?_<;>intro h1 q1
 have Af:k<(e.ids).length:=AH h1
 obtain ⟨x,Ah⟩:=at_ Af
 have hc:=iy (id:=id) Ah
 have hi:=Xx (id:=id) Ah
 have cM:0≤Fz id (e.ids.take k)∧Fz id (e.ids.take k)≤1000000:=⟨by unfold Fz;omega,by have:=ur (p:=HW id) (k:=k) hl;unfold Fz;omega⟩
 have h0:=Xy (id:=id) (l:=e.ids.take k)
 refine ac ?_
 refine ao ?_
 refine tp rfl (AD rfl underlying38 Ey vq vq AA CO) ?_
 refine tp rfl (AP rfl Tc Ey vq rfl rfl) ?_
 refine Tl rfl rfl rfl rfl YU Wt (fun b1=> ?_)
 refine tm rfl ?_
 refine sf 0 9 ⟨rfl,rfl,rfl⟩ rfl rfl rfl rfl ?_
 refine ao ?_
 · repeat' first|exact Fin.AL (k+1) ⟨Af,by omega⟩ ⟨⟨_,rfl,AG k⟩,⟨_,rfl,int_eq CN⟩,⟨_,rfl,int_eq CN⟩,kz⟩|refine ac ?_|(refine Tr.cn rfl ?_ ?_<;>intro h q)
 have BK:k=(e.ids).length:=by have:=AJ h1;omega
 subst BK
 rw [List.take_length]
 refine a2 ?_
 refine Tr.ret (Fin.Ct rfl (Bg.Dc _ _) rfl ?_ rfl ?_)
 · exact Lr
 · exact Lr
theorem Xz {b:Bool}  :BG prog 338 [bool b] (int (LF b)):=by
 refine fo func338 rfl ⟨rfl,rfl⟩ fun M0 w0=> ?_
 · repeat' first|exact int_eq (by simp_all [LF])|refine ac ?_|(refine Tr.cn rfl ?_ ?_<;>intro h q)
theorem aT {e:CA} {k:Int}  :BG prog 327 [agg (Bf e),int k] (Dz [int (Hy e k).1,bool (Hy e k).2]):=by
 refine fo func327 rfl ⟨rfl,rfl⟩ fun M0 w0=> ?_
 refine a2 ?_
 refine an ?_ ?_<;>intro h1 q1
 refine ac ?_
 refine Tr.ret (Fin.AU (Fin.AE (Fin.Ct rfl (Bg.Dc _ _) rfl ?_ rfl ?_)))
 · exact Mb
 · exact Ma
 refine an ?_ ?_<;>intro h2 q2
 refine ac ?_
 refine Tr.ret (Fin.AU (Fin.AE (Fin.Ct rfl (Bg.Dc _ _) rfl ?_ rfl ?_)))
 · exact Mb
 · exact Ma
 refine an ?_ ?_<;>intro h3 q3
 refine ac ?_
 refine co rfl (Cq (Xz) rfl rfl) ?_
 refine ac ?_
 refine wk [5,4] rfl (Tr.ret (Fin.AU (Fin.AE (Fin.Ct rfl (Bg.Dc _ _) rfl ?_ rfl ?_))))
 · exact Mb
 · exact Ma
 refine an ?_ ?_<;>intro h4 q4
 refine ac ?_
 refine co rfl (Cq (Xz) rfl rfl) ?_
 refine ac ?_
 refine wk [5,4] rfl (Tr.ret (Fin.AU (Fin.AE (Fin.Ct rfl (Bg.Dc _ _) rfl ?_ rfl ?_))))
 · exact Mb
 · exact Ma
 refine a2 ?_
 refine wk [5,4] rfl (Tr.ret (Fin.Ct rfl (Bg.Dc _ _) rfl ?_ rfl ?_))
 · exact Mb
 · exact Ma
theorem iz {c:BX} (hcs:c.Cy.small):BG prog 324 [agg (Eo c)] (bool (decide (Jh c))):=by
 refine fo func324 rfl ⟨rfl,rfl⟩ fun M0 w0=> ?_
 refine ac ?_
 refine ac ?_
 refine co rfl (AR rfl (Zg (a:=c.Cy) (b:=B1) hcs) ⟨ke rfl,⟨_,rfl,BR ⟨Lr,Lr,Lr,AQ 15,trivial⟩⟩,trivial⟩) ?_
 refine ac ?_
 refine ac ?_
 refine ac ?_
 refine Tr.cn rfl ?_ ?_<;>intro h1 q1
 refine ac ?_
 refine ac ?_
 · exact UW
 refine ac ?_
 refine Tr.cn rfl ?_ ?_<;>intro h2 q2
 refine ac ?_
 refine OZ 2 rfl ?_
 refine ac ?_
 · exact UW
 refine ac ?_
 refine ac ?_
 refine Ch.cs 21 rfl ?_ ?_<;>intro h3 q3
 refine ac ?_
 refine Ch.cs 26 rfl ?_ ?_<;>intro h4 q4
 refine ac ?_
 refine Ch.cs 29 rfl ?_ ?_<;>intro h5 q5
 refine ac ?_
 refine OZ 2 rfl ?_
 refine ac ?_
 · exact UW
 refine ac ?_
 refine OZ 2 rfl ?_
 refine ac ?_
 · exact UW
 refine ac ?_
 refine OZ 2 rfl ?_
 refine ac ?_
 · exact kE
 refine ac ?_
 refine OZ 2 rfl ?_
 refine ac ?_
 · exact kE
theorem X0 {e:CA} {k:Int}  :BG prog 325 [agg (Bf e),int k] (Dz [ints (GZ e k).1,bool (GZ e k).2.1,bool (GZ e k).2.2]):=by
 refine fo func325 rfl ⟨rfl,rfl⟩ fun M0 w0=> ?_
 refine a2 ?_
 refine an ?_ ?_<;>intro h1 q1
 refine ac ?_
 refine Tr.cond rfl (fun _=> ?_) (fun h=>nomatch h1.symm.trans h)
 refine ac ?_
 refine wk [6,5,4] rfl (Tr.ret (Fin.AU (Fin.AE (Fin.I0 rfl (Bg.Dc _ _) rfl ?_ rfl ?_ rfl ?_))))
 · exact Ki
 · exact FV
 · exact FV
 refine an ?_ ?_<;>intro h2 q2
 refine ac ?_
 refine wk [6,5,4] rfl (Tr.ret (Fin.AU (Fin.AE (Fin.I0 rfl (Bg.Dc _ _) rfl ?_ rfl ?_ rfl ?_))))
 · exact Ki
 · exact FV
 · exact FV
 refine an ?_ ?_<;>intro h3 q3
 refine ac ?_
 refine Tr.cond rfl (fun _=> ?_) (fun h=>nomatch h3.symm.trans h)
 refine ac ?_
 refine wk [6,5,4] rfl (Tr.ret (Fin.AU (Fin.AE (Fin.I0 rfl (Bg.Dc _ _) rfl ?_ rfl ?_ rfl ?_))))
 · exact Ki
 · exact FV
 · exact FV
 refine an ?_ ?_<;>intro h4 q4
 refine ac ?_
 refine wk [6,5,4] rfl (Tr.ret (Fin.AU (Fin.AE (Fin.I0 rfl (Bg.Dc _ _) rfl ?_ rfl ?_ rfl ?_))))
 · exact Ki
 · exact FV
 · exact FV
 refine ac ?_
 refine wk [22,7,2,1] rfl ?_
 refine Tr.cn rfl ?_ ?_<;>intro h5 q5
 refine ac ?_
 refine Tr.cond rfl (fun _=> ?_) (fun h=>nomatch h5.symm.trans h)
 refine ac ?_
 refine Tr.ret (Fin.AU (Fin.AE (Fin.I0 rfl (Bg.Dc _ _) rfl ?_ rfl ?_ rfl ?_)))
 · exact Ki
 · exact FV
 · exact FV
 refine an ?_ ?_<;>intro h6 q6
 refine ac ?_
 refine Tr.ret (Fin.AU (Fin.AE (Fin.I0 rfl (Bg.Dc _ _) rfl ?_ rfl ?_ rfl ?_)))
 · exact Ki
 · exact FV
 · exact FV
 refine a2 ?_
 refine Tr.ret (Fin.I0 rfl (Bg.Dc _ _) rfl ?_ rfl ?_ rfl ?_)
 · exact Pr.le_trans (AQ 1) (Pr.le_of_eq (by rw [show (GZ e k).1=[] by simp_all [GZ]];rfl))
 · exact FV
 · exact FV
theorem OK {l:List Int} {i:Nat} {n:Int} (hi:i≤l.length) (hl:l.length≤1000000):BG prog 329 [ints l,int ((i:Nat):Int),int n] (ints (l.take i++[n]++l.drop i)):=by
 refine fo func329 rfl ⟨rfl,rfl⟩ fun M0 w0=> ?_
 have hml:(l.map fun n:Int=>[int n]).length=l.length:=List.length_map _
 refine ac ?_
 refine ap ?_
 refine tp rfl (DY rfl underlying22 Bt vq vq AA AA) (TO.pad ?_)
 refine TO.DT 0 rfl rfl AB (EB rfl rfl AB rfl underlying22 Bt G2 z3 rfl AB ⟨_,rfl,AQ _⟩ vq Ip Iq (Br BL ⟨_,rfl,Cr 1⟩)) (fun v1=> ?_)
 refine ap ?_
 refine ap ?_
 refine TO.DT 0 rfl rfl AB (B7 rfl rfl rfl rfl underlying22 Bt G2 z3 G3 F4 (Ay BL Jo)) (fun v2=> ?_)
 refine ap ?_
 refine ap ?_
 refine tp rfl (DL rfl underlying22 Bt vq vq AA AA) ?_
 refine TO.DT 0 rfl rfl AB (B7 rfl rfl rfl rfl underlying22 Bt G2 z3 G3 vq (Ay BL Jo)) (fun v3=> ?_)
 refine ap ?_
 refine wk [6] rfl ?_
 refine ac ?_
 · exact Pr.le_trans (Ar _ _) (Pr.le_of_eq (by show _=slice 1 ((l.take i++[n]++l.drop i).map fun n=>[int n]);simp [List.map_take,List.map_drop]))
theorem JT {l:List Int} {i:Nat} (hi:i<l.length) (hl:l.length≤1000000):BG prog 330 [ints l,int ((i:Nat):Int)] (ints (l.eraseIdx i)):=by
 refine fo func330 rfl ⟨rfl,rfl⟩ fun M0 w0=> ?_
 have hml:(l.map fun n:Int=>[int n]).length=l.length:=List.length_map _
 refine ac ?_
 refine ap ?_
 refine tp rfl (DY rfl underlying22 Bt vq vq AA AA) (TO.pad ?_)
 refine TO.DT 0 rfl rfl AB (EB rfl rfl AB rfl underlying22 Bt G2 z3 rfl AB ⟨_,rfl,AQ _⟩ vq Ip Iq (Br BL ⟨_,rfl,Cr 1⟩)) (fun v1=> ?_)
 refine ap ?_
 refine ap ?_
 refine tp rfl (DL rfl underlying22 Bt vq vq AA AA) ?_
 refine TO.DT 0 rfl rfl AB (B7 rfl rfl rfl rfl underlying22 Bt G2 z3 G3 vq (Ay BL Jo)) (fun v2=> ?_)
 refine ap ?_
 refine ac ?_
 · exact Pr.le_trans (Ar _ _) (Pr.le_of_eq (by rw [List.eraseIdx_eq_take_drop_succ];show _=slice 1 ((l.take i++l.drop (i+1)).map fun n=>[int n]);simp [List.map_take,List.map_drop,show (((i:Nat):Int)+1).toNat=i+1 by omega]))
theorem Oy {l:List Int} {n:Int} (hl:l.length≤1000000):BG prog 331 [ints l,int n] (ints (ZX l n)):=by
 refine fo func331 rfl ⟨rfl,rfl⟩ fun M0 w0=>(Tr.Cm 0 rfl fun EJ=> ?_)
 refine a2 ?_
 refine Tr.seq (Tr.block (Tr.BH _ (kk [1,0] rfl) (fun k:Nat=>[(5,int ((k:Nat):Int))]) (fun k:Nat=>k≤l.length∧(∀j y,j<k→l[j]? =some y→y<n)) (fun k:Nat=>l.length-k) 0 (⟨Nat.zero_le _,fun j y hj=>absurd hj AA⟩) kz ?_))
 rintro k ⟨BU,hinv⟩
 refine ag ?_ ?_<;>intro h1 q1
 obtain ⟨x,hx⟩:=at_ (l:=l) (k:=k) AA
 refine ac ?_
 refine cy h1 rfl (AD rfl underlying22 Bt vq vq AA (AX hx)) ?_
 refine ac ?_
 refine wk [17,5,1,0] rfl ?_
 refine Tr.cn rfl ?_ ?_<;>intro h2 q2
 have hq:=h2
 refine a2 ?_
 exact Fin.AL (k+1) ⟨⟨by omega,bsX hinv hx (by simpa using hq)⟩,by omega⟩ ⟨⟨_,rfl,AG k⟩,kz⟩
 have hp:Ez l n=k:=Ve BU hinv (fun y hy=>by have h_:=h2;rw [hx] at hy;cases hy;simpa using h_)
 refine a2 ?_
 refine co rfl (AR rfl (OK (l:=l) (i:=Ez l n) (dA _ _) hl) ⟨kq,⟨_,rfl,int_eq AA⟩,kz⟩) ?_
 refine a2 ?_
 · exact Lr
 have hp:Ez l n=k:=Ve BU hinv (fun y hy=>by have:=BM hy;have:=q1;omega)
 refine ac ?_
 refine wk [17,5,1,0] rfl ?_
 refine a2 ?_
 refine co rfl (AR rfl (OK (l:=l) (i:=Ez l n) (dA _ _) hl) ⟨kq,⟨_,rfl,int_eq AA⟩,kz⟩) ?_
 refine a2 ?_
 · exact Lr
def TC (e:CA) (c:BX):Int:=
 if Gd e=false then 19 else if ¬Jh c then 40
 else if c.kind=1∧(c.at_<0∨(e.A8.length:Int)<c.at_) then 2
 else if c.kind=5∧(c.at_<0∨(e.ids.length:Int)<c.at_) then 2
 else if (c.kind=11∨c.kind=12)∧(c.number≠0∧c.number≠1) then 2
 else if (GZ e c.kind).2.2=true∧decide (0≤idx (fun y=>c.number==y) (GZ e c.kind).1)=(GZ e c.kind).2.1 then 41
 else if (Hy e c.kind).2=true∧(Hy e c.kind).1=c.number then 41
 else if c.kind=5∧0<Fz c.Cy.CW e.ids then 41
 else if c.kind=6∧Fz c.number e.ids=0 then 41
 else if c.kind=6∧1<Fz c.number e.ids then 5 else 0
theorem WG {l:List Int} (hs:tD l) {n:Int}:idx (fun y=>n==y) l=if Fy l n=true then ((Ez l n:Nat):Int) else -1:=by
 by_cases h:Fy l n=true
 ·
  rw [if_pos h]
  obtain ⟨y,hy⟩:=at_ (Vg h)
  have hyn:y=n:=by have h2:=dD rfl hy;rw [h] at h2;simpa using h2.symm
  exact (Es (p:=fun y=>n==y) hy (by simp [hyn]) (fun j z hj hz=>by have:=Vf hj hz;simp;omega)).symm
 ·
  rw [if_neg h]
  refine (Gc (p:=fun y=>n==y) (fun j z hj hz=> ?_)).symm
  simp only [beq_eq_false_iff_ne,ne_eq]
  intro hn;subst hn
  rcases Nat.lt_trichotomy j (Ez l n) with h1|h1|h1
  · have:=Vf h1 hz;omega
  · subst h1;exact h (by rw [dD rfl hz];simp)
  ·
   obtain ⟨y,hy⟩:=at_ (l:=l) (k:=Ez l n) (by have:=BM hz;omega)
   have h2:=dB hy
   have h3:=tE hs h1 hy hz
   omega
theorem uu {l:List Jb} {n:Int} {x:Jb} (h0:¬Bp n l<0) (hx:l[(Bp n l).toNat]? =some x):(1<Fz n l)↔((l.drop (Bp n l+1).toNat).any fun x=>x.CW==n)=true:=by
 obtain ⟨y,hy,hp,hlt⟩:=Pt (p:=HW n) (l:=l) (by rw [←GM];omega)
 rw [←GM] at hy hlt
 have hsplit:l=l.take (Bp n l).toNat++y::l.drop ((Bp n l).toNat+1):=by
  rw [List.getElem?_eq_getElem hlt] at hy;cases hy
  rw [List.getElem_cons_drop];exact (List.take_append_drop _ _).symm
 have h1:(l.take (Bp n l).toNat).countP (HW n)=0:=by
  refine NO.1 (Int.not_le.1 fun h2=> ?_)
  obtain ⟨z,hz,hzp,hzl⟩:=Pt h2
  have e1:Bp n l=idx (HW n) (l.take (Bp n l).toNat):=by
   obtain ⟨i,hi⟩:∃i:Nat,idx (HW n) (l.take (Bp n l).toNat)=(i:Int):=⟨_,(Int.toNat_of_nonneg h2).symm⟩
   have h3:((l.take (Bp n l).toNat).findIdx? (HW n))=some i:=by
    unfold idx at hi;cases h4:(l.take (Bp n l).toNat).findIdx? (HW n) with
    |none=>rw [h4] at hi;simp at hi
    |some k=>rw [h4] at hi;rw [show k=i by simp at hi;omega]
   have h5:l.findIdx? (HW n)=some i:=by
    rw [←List.take_append_drop (Bp n l).toNat l,List.findIdx?_append,h3];rfl
   have e2:idx (HW n) l=(i:Int):=by unfold idx;rw [h5]
   exact e2.trans hi.symm
  rw [←e1] at hzl;rw [List.length_take] at hzl;omega
 have h2:l.countP (HW n)=1+(l.drop ((Bp n l).toNat+1)).countP (HW n):=by
  conv=>lhs;rw [hsplit]
  rw [List.countP_append,h1,List.countP_cons,hp];simp;omega
 unfold Fz;rw [h2,show (Bp n l+1).toNat=(Bp n l).toNat+1 by omega]
 show _↔(List.any _ (HW n))=true
 rw [List.any_eq_true,←List.countP_pos_iff];omega
theorem uv {l:List Int} {n:Int}:decide (0≤idx (fun y=>n==y) l)=l.any fun y=>n==y:=Pq _ _
theorem QK {l:List Int} (hs:tD l) {n:Int}:decide (0≤idx (fun y=>n==y) l)=Fy l n:=by
 rw [WG hs];cases Fy l n<;>simp
theorem X5 {e:CA} {c:BX} (hce:Gd e=true) (hc:Jh c):TC e c=match CF e c with| .error f=>f| .ok _=>0:=by
 have ok:=DQ.1 hce
 have ha:=Pv ok.anc;have hh:=Pv ok.hash
 have hk:=hc.1
 unfold TC
 rw [if_neg (by rw [hce];decide),if_neg (not_not_intro hc)]
 have h0:c.kind=1∨c.kind=2∨c.kind=3∨c.kind=4∨c.kind=5∨c.kind=6∨c.kind=7∨c.kind=8∨c.kind=9∨c.kind=10∨c.kind=11∨c.kind=12:=by omega
 rcases h0 with h|h|h|h|h|h|h|h|h|h|h|h
 ·
  rw [Pw h];unfold GZ Hy;simp only [h]
  by_cases h1:c.at_<0∨(e.A8.length:Int)<c.at_
  ·
   have h2:¬(0≤c.at_∧c.at_≤(e.A8.length:Int)):=by omega
   simp [h1,h2]
  ·
   have h2:0≤c.at_∧c.at_≤(e.A8.length:Int):=by omega
   have h3:=uv (l:=e.A8) (n:=c.number)
   have h4:(0≤idx (fun y=>c.number==y) e.A8)↔(e.A8.any fun y=>c.number==y)=true:=by rw [←h3,decide_eq_true_eq]
   by_cases h5:(e.A8.any fun y=>c.number==y)=true
   · have h6:=h4.2 h5;simp only [h5];simp [h1,h2,h6]
   ·
    have h6:¬0≤idx (fun y=>c.number==y) e.A8:=fun h=>h5 (h4.1 h)
    simp only [h5];simp [h1,h2,h6]
 ·
  rw [Px h];unfold GZ Hy M8;simp only [h]
  by_cases h1:idx (fun y=>c.number==y) e.A8<0
  · simp [h1]
  · simp [h1]
 · rw [Py h];unfold GZ Hy;simp only [h];by_cases h1:e.most=c.number<;>simp [h1]
 · rw [Pz h];unfold GZ Hy;simp only [h];by_cases h1:e.least=c.number<;>simp [h1]
 ·
  rw [P0 h];unfold GZ Hy;simp only [h]
  have tw:=NO (p:=HW c.Cy.CW) (l:=e.ids)
  rw [←GM] at tw
  by_cases h1:c.at_<0∨(e.ids.length:Int)<c.at_
  ·
   have h2:¬(0≤c.at_∧c.at_≤(e.ids.length:Int)):=by omega
   simp [h1,h2]
  ·
   have h3:0≤c.at_∧c.at_≤(e.ids.length:Int):=by omega
   by_cases h2:0≤Bp c.Cy.CW e.ids
   ·
    have:0<Fz c.Cy.CW e.ids:=by unfold Fz;omega
    simp [h1,h2,h3,this]
   ·
    have:¬0<Fz c.Cy.CW e.ids:=by unfold Fz;omega
    simp [h1,h2,h3,this]
 ·
  rw [P3 h];unfold GZ Hy;simp only [h]
  have tw:=NO (p:=HW c.number) (l:=e.ids)
  rw [←GM] at tw
  by_cases h2:Bp c.number e.ids<0
  ·
   have:Fz c.number e.ids=0:=by unfold Fz;omega
   cases e.ids[(Bp c.number e.ids).toNat]? <;>simp [h2,this]
  ·
   have h3:¬Fz c.number e.ids=0:=by unfold Fz;omega
   obtain ⟨x,hx,_,_⟩:=Pt (p:=fun x:Jb=>x.CW==c.number) (l:=e.ids) (by unfold Bp at h2;omega)
   have hx:e.ids[(Bp c.number e.ids).toNat]? =some x:=hx
   have hd:=uu h2 hx
   rw [hx];simp only [if_neg h2]
   by_cases h4:((e.ids.drop (Bp c.number e.ids+1).toNat).any fun x=>x.CW==c.number)=true
   · have:=hd.2 h4;simp only [h4];simp [h3,this]
   ·
    have:¬1<Fz c.number e.ids:=fun h5=>h4 (hd.1 h5)
    simp only [h4];simp [h3,this]
 ·
  rw [P4 h];unfold GZ Hy;simp only [h]
  have h1:(0≤idx (fun y=>c.number==y) e.anchors)↔Fy e.anchors c.number=true:=by rw [←QK ha,decide_eq_true_eq]
  by_cases h2:Fy e.anchors c.number=true
  · exact Pc
  ·
   have h3:¬0≤idx (fun y=>c.number==y) e.anchors:=fun h=>h2 (h1.1 h)
   simp [h2,h3]
 ·
  rw [P5 h];unfold GZ Hy;simp only [h]
  have h1:(0≤idx (fun y=>c.number==y) e.anchors)↔Fy e.anchors c.number=true:=by rw [←QK ha,decide_eq_true_eq]
  by_cases h2:Fy e.anchors c.number=true
  · exact Pc
  ·
   have h3:¬0≤idx (fun y=>c.number==y) e.anchors:=fun h=>h2 (h1.1 h)
   simp [h2,h3]
 ·
  rw [P6 h];unfold GZ Hy;simp only [h]
  have h1:(0≤idx (fun y=>c.number==y) e.hashes)↔Fy e.hashes c.number=true:=by rw [←QK hh,decide_eq_true_eq]
  by_cases h2:Fy e.hashes c.number=true
  · exact Pc
  ·
   have h3:¬0≤idx (fun y=>c.number==y) e.hashes:=fun h=>h2 (h1.1 h)
   simp [h2,h3]
 ·
  rw [M9 h];unfold GZ Hy;simp only [h]
  have h1:(0≤idx (fun y=>c.number==y) e.hashes)↔Fy e.hashes c.number=true:=by rw [←QK hh,decide_eq_true_eq]
  by_cases h2:Fy e.hashes c.number=true
  · exact Pc
  ·
   have h3:¬0≤idx (fun y=>c.number==y) e.hashes:=fun h=>h2 (h1.1 h)
   simp [h2,h3]
 ·
  rw [M_ h];unfold GZ Hy;simp only [h]
  by_cases h1:0≤c.number∧c.number≤1
  ·
   have:¬(c.number≠0∧c.number≠1):=by omega
   by_cases h2:LF e.Ia=c.number<;>simp [this,h1,h2]
  ·
   have:c.number≠0∧c.number≠1:=by omega
   simp [this,h1]
 ·
  rw [NA h];unfold GZ Hy;simp only [h]
  by_cases h1:0≤c.number∧c.number≤1
  ·
   have:¬(c.number≠0∧c.number≠1):=by omega
   by_cases h2:LF e.own=c.number<;>simp [this,h1,h2]
  ·
   have:c.number≠0∧c.number≠1:=by omega
   simp [this,h1]
theorem uw {e:CA} {c:BX} (h:TC e c≠0):EK e c=(FG,Ht,TC e c):=by
 by_cases hce:Gd e=false
 ·
  have:TC e c=19:=by unfold TC;rw [if_pos hce]
  rw [this];unfold EK;rw [if_pos hce]
 ·
  by_cases hc:Jh c
  ·
   have hce:Gd e=true:=by simpa using hce
   have hs:=X5 hce hc
   cases h2:CF e c with
   |error f=>rw [h2] at hs;rw [gU hce hc h2,show TC e c=f from hs]
   |ok r=>rw [h2] at hs;exact absurd hs h
  ·
   have:TC e c=40:=by unfold TC;rw [if_neg hce,if_pos hc]
   rw [this];unfold EK;rw [if_neg hce,if_pos hc]
theorem zD {e:CA} {c:BX} (h:TC e c=0):Gd e=true∧Jh c∧∃e2 b,CF e c= .ok (e2,b):=by
 by_cases hce:Gd e=false
 ·
  have:TC e c=19:=by unfold TC;rw [if_pos hce]
  rw [this] at h;cases h
 ·
  by_cases hc:Jh c
  ·
   have hce:Gd e=true:=by simpa using hce
   have hs:=X5 hce hc
   cases h2:CF e c with
   |error f=>
    rw [h2] at hs;rw [h] at hs
    have h3:(0:Int)=f:=hs
    have:=XR hc h2;omega
   |ok r=>exact ⟨hce,hc,r.1,r.2,rfl⟩
  ·
   have:TC e c=40:=by unfold TC;rw [if_neg hce,if_pos hc]
   rw [this] at h;cases h
theorem SN {β γ:Type} {f:β→γ} {l:List β} {k:Nat} {x:β} (h:l[k]? =some x):(l.take k).map f++[f x]=(l.take (k+1)).map f:=by rw [List.take_add_one,h,List.map_append];rfl
theorem MP {x:Jb} (hx:x.small):BG prog 146 [agg (HN x)] (agg (HN x)):=by
 refine fo func146 rfl ⟨rfl,rfl⟩ fun M0 w0=> ?_
 have hch:=hx.chain
 refine Tr.seq (Tr.An (tp rfl (Bb rfl Cs) ?_))
 refine Tl rfl rfl rfl rfl YU Wt (fun b1=> ?_)
 refine ap ?_
 refine ap ?_
 refine Tl rfl rfl rfl rfl YU Wt (fun b2=> ?_)
 refine ap ?_
 refine ac ?_
 refine wk [14,13,12,3,2] rfl (Tr.block (Tr.HY 0 [int x.CH,int x.bits,int x.CW,Ad (.slice none 0 0) (slice 15 ((x.chain.take 0).map EE))] rfl ⟨Lr,Lr,Lr,Bi rfl,trivial⟩ (Tr.B5 189 15 (Tr.EO _ (kk [13,12,3,2] rfl) (fun k v=>[(14,int ((k:Nat):Int))]) (fun k v=>Hp M0 w0 FO ([Aw 189 15 v,AF true b2 84 [int x.CH,int x.bits,int x.CW,Ad v (slice 15 ((x.chain.take k).map EE))],AF true b1 84 (([.int .i64 0,.int .i64 0,.int .i64 0,.slice none 0 0]:List Value).map is)])) (fun k:Nat=>k≤(x.chain).length) (fun k:Nat=>(x.chain).length-k) 0 (.slice none 0 0) (Nat.zero_le _) kz (fun _ _ h=>h) ?_))))
 rintro k v BU
 refine ac ?_
 refine Tr.seq ?_
 refine Tr.cn rfl ?_ ?_<;>intro h1 q1
 have Af:k<(x.chain).length:=AH h1
 obtain ⟨c,Ah⟩:=at_ Af
 have hcn:=hx.names c (List.mem_of_getElem? Ah)
 refine ac ?_
 refine Tr.seq (Tr.block (Tr.seq (Tr.An (tp rfl (AD rfl underlying82 DN vq vq AA CO) ?_))))
 refine tp rfl (AP rfl Gk DN vq rfl rfl) ?_
 refine Tl rfl rfl rfl rfl VM Od (fun b3=> ?_)
 refine ap ?_
 refine ap ?_
 refine tp rfl (JG rfl underlying127 Mq by9 z9 rfl AB vq PL PV) ?_
 refine ap ?_
 refine wk [14,13,12,5,3,2] rfl ?_
 refine ap ?_
 refine TO.DT 1 rfl rfl AB (B7 rfl rfl rfl rfl underlying82 DN vZ VM G3 F4 (Ay BL Jo)) (fun v1=> ?_)
 refine ap ?_
 refine Tr.drop 0 ?_
 refine ac ?_
 refine Fin.HY 1 [int x.CH,int x.bits,int x.CW,Ad v1 (slice 15 ((x.chain.take (k+1)).map EE))] rfl ⟨Lr,Lr,Lr,BA (SN (f:=EE) Ah),trivial⟩ (Fin.C1 (k+1) v1 (⟨Af,by omega⟩) ⟨⟨_,rfl,AG k⟩,kz⟩ (fun _ _ h=>h))
 have BK:k=(x.chain).length:=by have:=AJ h1;omega
 subst BK
 refine ac ?_
 refine ap ?_
 refine Tr.ret (Fin.CY rfl (AM.cell 2 rfl rfl Tc Ey rfl Lr) ?_)
 · exact BR ⟨Lr,Lr,Lr,Pr.le_trans (Ar _ _) (Pr.le_of_eq PZ),trivial⟩
theorem aU {c:BX} (hx:c.Cy.small):BG prog 86 [agg (Eo c)] (agg (Eo c)):=by
 refine fo func86 rfl ⟨rfl,rfl⟩ fun M0 w0=>(Tr.seq (Tr.An ?_))
 refine TO.VB rfl rfl AB rfl Cs (fun b1=> ?_)
 refine Tl rfl rfl rfl rfl Pn LD (fun b2=> ?_)
 refine ap ?_
 refine ap ?_
 refine tp rfl (Cq (MP (x:=c.Cy) hx) rfl rfl) ?_
 refine ap ?_
 refine ap ?_
 refine Tr.drop 1 (Tr.ret (Fin.CY rfl (AM.cell 0 rfl rfl Hr Du rfl Lr) ?_))
 · exact Lr
theorem UJ {e:CA} (F0:e.small):BG prog 302 [agg (Bf e)] (agg (Bf e)):=by
 refine fo func302 rfl ⟨rfl,rfl⟩ fun M0 w0=> ?_
 have hs1:=F0.A8
 have VZ:=F0.anchors
 have hs3:=F0.hashes
 have hs4:=F0.Yk
 refine Tr.seq (Tr.An (tp rfl (Bb rfl (Va rfl)) ?_))
 refine Tl rfl rfl rfl rfl z40 H9 (fun b1=> ?_)
 refine ao ?_
 refine ao ?_
 refine Tl rfl rfl rfl rfl z40 H9 (fun b2=> ?_)
 refine TO.AK 0 rfl rfl rfl (vl rfl) (Va rfl) rfl CE rfl rfl ?_
 refine ao ?_
 refine Tr.seq (Tr.rx ?_)
 refine ax ?_
 refine xo rfl (fun _=>JG rfl underlying22 Bt G2 z3 rfl AB (vl rfl) PL PV) ?_
 refine ax ?_
 refine xo rfl (fun _=>JG rfl underlying22 Bt G2 z3 rfl AB (vl rfl) PL PV) ?_
 refine ax ?_
 refine xo rfl (fun _=>JG rfl underlying22 Bt G2 z3 rfl AB (vl rfl) PL PV) ?_
 refine xo rfl (fun _=>AW rfl Nu (vl rfl)) (Cx.DP 0 rfl rfl (A0 rfl rfl (vl rfl) (Vo rfl) Lw rfl Ao rfl) (xo rfl (fun _=>AW rfl lD (vl rfl)) (Cx.DP 0 rfl rfl (A0 rfl rfl (vl rfl) (Vo rfl) Lw rfl Ao rfl) (xo rfl (fun _=>AW rfl lE (vl rfl)) (Cx.DP 0 rfl rfl (A0 rfl rfl (vl rfl) (Vo rfl) Lw rfl Ao rfl) ?_)))))
 refine Cx.nil ⟨by kernel_rfl,?_⟩
 refine BE.done YV (Fin.go (wk [3,2,1] rfl ?_))
 refine ao ?_
 refine TO.DP 0 rfl rfl (A0 rfl rfl (vl rfl) (Vo rfl) lB rfl Ao rfl) ?_
 refine ao ?_
 refine ac ?_
 refine Tr.block (Tr.HY 0 [str e.name,int e.least,int e.most,ints e.A8,bool e.own,Ad (.slice none 0 0) (slice 4 ((e.ids.take 0).map HN)),ints e.anchors,ints e.hashes,bool e.Ia] rfl ⟨Lr,Lr,Lr,Lr,Lr,Bi rfl,Lr,Lr,Lr,trivial⟩ (Tr.B5 84 4 (Tr.EO _ (kk [22,21,3,2] rfl) (fun k v=>[(23,int ((k:Nat):Int))]) (fun k v=>Hp M0 w0 FO ([Aw 84 4 v,AF true b2 40 [str e.name,int e.least,int e.most,ints e.A8,bool e.own,Ad v (slice 4 ((e.ids.take k).map HN)),ints e.anchors,ints e.hashes,bool e.Ia],AF true b1 40 (([.string (ByteArray.mk #[]),.int .i64 0,.int .i64 0,.slice none 0 0,.bool false,.slice none 0 0,.slice none 0 0,.slice none 0 0,.bool false]:List Value).map is)])) (fun k:Nat=>k≤(e.ids).length) (fun k:Nat=>(e.ids).length-k) 0 (.slice none 0 0) (Nat.zero_le _) kz (fun _ _ h=>h) ?_)))
 rintro k v BU
 refine ac ?_
 refine Tr.seq ?_
 refine Tr.cn rfl ?_ ?_<;>intro h1 q1
 have Af:k<(e.ids).length:=AH h1
 obtain ⟨x,Ah⟩:=at_ Af
 have hxs:=F0.ids x (List.mem_of_getElem? Ah)
 refine ac ?_
 refine Tr.seq (Tr.block (Tr.seq (Tr.An (tp rfl (AD rfl underlying38 Ey (vl rfl) (vl rfl) AA CO) ?_))))
 refine tp rfl (AP rfl Tc Ey (vl rfl) rfl rfl) ?_
 refine Tl rfl rfl rfl rfl YU Wt (fun b3=> ?_)
 refine sf 0 5 ⟨rfl,rfl,rfl⟩ rfl rfl rfl rfl ?_
 refine ao ?_
 refine Tr.pad (Tr.rx ?_)
 refine ax ?_
 refine xo rfl (fun _=>Cq (MP hxs) rfl rfl) (xo rfl (fun _=>AO (xs:=[.tmp 30]) (rows:=[_]) rfl rfl underlying38 Ey YU rfl AB ⟨⟨Am,(Va rfl)⟩,trivial⟩ AB) ?_)
 refine Cx.ef 1 rfl rfl AB (B7 rfl rfl rfl rfl underlying38 Ey f_ YU (Kb rfl) (Kf rfl) (Ay BL (Ka rfl))) ?_
 refine xo rfl (fun _=>AW rfl Q6 (vl rfl)) (Cx.DP 2 rfl rfl (GD rfl rfl rfl (vl rfl) rfl lB Ao) ?_)
 refine Cx.nil ⟨by kernel_rfl,?_⟩
 refine BE.Q5 1 2 32 rfl rfl AB rfl (fun v1=> ?_)
 refine BE.done al4 ?_
 refine ac ?_
 refine Tr.drop 0 (wk [23,22,21,3,2] rfl ?_)
 refine ac ?_
 refine Fin.HY 1 [str e.name,int e.least,int e.most,ints e.A8,bool e.own,Ad v1 (slice 4 ((e.ids.take (k+1)).map HN)),ints e.anchors,ints e.hashes,bool e.Ia] rfl ⟨Lr,Lr,Lr,Lr,Lr,BA (SN (f:=HN) Ah),Lr,Lr,Lr,trivial⟩ (Fin.C1 (k+1) v1 (⟨Af,by omega⟩) ⟨⟨_,rfl,AG k⟩,kz⟩ (fun _ _ h=>h))
 have BK:k=(e.ids).length:=by have:=AJ h1;omega
 subst BK
 refine ac ?_
 refine ao ?_
 refine TO.AK 2 rfl rfl rfl (vl rfl) (Va rfl) rfl CE rfl rfl ?_
 refine ao ?_
 refine Tr.ret (Fin.CY rfl (AM.cell 2 rfl rfl Ci CE rfl Lr) ?_)
 · exact BR ⟨Lr,Lr,Lr,Lr,Lr,Pr.le_trans (Ar _ _) (Pr.le_of_eq PZ),Lr,Lr,Lr,trivial⟩
theorem WH {e:CA} {c:BX} (F0:e.small) (hcs:c.Cy.small):BG prog 315 [agg (Bf e),agg (Eo c)] (int (TC e c)):=by
 refine fo func315 rfl ⟨rfl,rfl⟩ fun M0 w0=> ?_
 refine ac ?_
 refine ac ?_
 refine co rfl (Cq (FM F0) rfl rfl) ?_
 refine ac ?_
 refine Tr.cn rfl ?_ ?_<;>intro h1 q1
 refine ac ?_
 refine ac ?_
 · refine int_eq ?_;unfold TC;repeat (refine (if_pos ?_).symm;simp_all)
 refine ac ?_
 refine ac ?_
 refine co rfl (Cq (iz (c:=c) hcs) rfl rfl) ?_
 refine ac ?_
 refine Tr.cn rfl ?_ ?_<;>intro h2 q2
 refine ac ?_
 refine ac ?_
 · exact Yr
 refine ac ?_
 refine TR 2 3 rfl (Tr.U5 [2,3] [] (¬(c.kind=1∧(c.at_<0∨(e.A8.length:Int)<c.at_))∧¬(c.kind=5∧(c.at_<0∨(e.ids.length:Int)<c.at_))∧¬((c.kind=11∨c.kind=12)∧(c.number≠0∧c.number≠1))) ?_ (fun AHd=> ?_))
 refine ac ?_
 refine ac ?_
 refine Tr.cn rfl ?_ ?_<;>intro h4 q4
 refine ac ?_
 refine Ch.cs 27 rfl ?_ ?_<;>intro h5 q5
 refine ac ?_
 refine GU 2 3 34 rfl ?_
 refine ac ?_
 refine ac ?_
 · exact Yr
 refine ac ?_
 refine GU 2 3 34 rfl ?_
 refine Tr.cn rfl ?_ ?_<;>intro h6 q6
 refine ac ?_
 refine ac ?_
 · exact Yr
 refine Tr.skip (Fin.block (Fin.AL () AA (Y_ rfl)))
 refine ac ?_
 refine Tr.cn rfl ?_ ?_<;>intro h7 q7
 refine ac ?_
 refine Ch.cs 40 rfl ?_ ?_<;>intro h8 q8
 refine ac ?_
 refine GU 2 3 47 rfl ?_
 refine ac ?_
 refine ac ?_
 · exact QV
 refine ac ?_
 refine GU 2 3 47 rfl ?_
 refine Tr.cn rfl ?_ ?_<;>intro h9 q9
 refine ac ?_
 refine ac ?_
 · exact QV
 refine Tr.skip (Fin.block (Fin.AL () AA (Y_ rfl)))
 refine ac ?_
 refine Tr.cn rfl ?_ ?_<;>intro h10 P7
 refine ac ?_
 refine Tr.cond rfl (fun _=> ?_) (fun h=>nomatch h10.symm.trans h)
 refine ac ?_
 refine Ch.cs 54 rfl ?_ ?_<;>intro h11 Sx
 refine ac ?_
 refine GU 2 3 58 rfl ?_
 refine Tr.cn rfl ?_ ?_<;>intro h12 WT
 refine ac ?_
 refine ac ?_
 · exact QV
 refine Tr.skip (Fin.block (Fin.AL () AA (Y_ rfl)))
 refine ac ?_
 refine GU 2 3 58 rfl (Tr.cond rfl (fun h=>nomatch h) (fun _=> ?_))
 refine Tr.skip (Fin.block (Fin.AL () AA (Y_ rfl)))
 refine ac ?_
 refine Tr.cn rfl ?_ ?_<;>intro NU dI
 refine ac ?_
 refine Ch.cs 54 rfl ?_ ?_<;>intro J5 q14
 refine ac ?_
 refine GU 2 3 58 rfl ?_
 refine Tr.cn rfl ?_ ?_<;>intro Sh q15
 refine ac ?_
 refine ac ?_
 · exact QV
 refine Tr.skip (Fin.block (Fin.AL () AA (Y_ rfl)))
 refine ac ?_
 refine GU 2 3 58 rfl (Tr.cond rfl (fun h=>nomatch h) (fun _=> ?_))
 refine Tr.skip (Fin.block (Fin.AL () AA (Y_ rfl)))
 refine Tr.skip (Fin.block (Fin.AL () AA (Y_ rfl)))
 refine TR 2 3 rfl (Tr.U5 [2,3] [] (¬((GZ e c.kind).2.2=true∧decide (0≤idx (fun y=>c.number==y) (GZ e c.kind).1)=(GZ e c.kind).2.1)) ?_ (fun AHe=> ?_))
 refine ac ?_
 refine co rfl (CL (X0) rfl rfl rfl) ?_
 refine ac ?_
 refine ac ?_
 refine Ch.cs 68 rfl ?_ ?_<;>intro Nr q17
 refine ac ?_
 refine cy Nr rfl (CL (JS) rfl rfl rfl) ?_
 refine ac ?_
 refine GU 2 3 76 rfl ?_
 refine Tr.cn rfl ?_ ?_<;>intro Si q18
 refine ac ?_
 refine ac ?_
 · exact ju
 refine Tr.skip (Fin.AL () CN (Y_ rfl))
 refine ac ?_
 refine GU 2 3 76 rfl (Tr.cond rfl (fun h=>nomatch h) (fun _=> ?_))
 refine Tr.skip (Fin.AL () CN (Y_ rfl))
 refine TR 2 3 rfl (Tr.U5 [2,3] [] (¬((Hy e c.kind).2=true∧(Hy e c.kind).1=c.number)) ?_ (fun hval=> ?_))
 refine ac ?_
 refine co rfl (CL (aT) rfl rfl rfl) ?_
 refine ac ?_
 refine ac ?_
 refine Ch.cs 85 rfl ?_ ?_<;>intro Sk q20
 refine ac ?_
 refine GU 2 3 90 rfl ?_
 refine Tr.cn rfl ?_ ?_<;>intro c_ q21
 refine ac ?_
 refine ac ?_
 · exact ju
 refine Tr.skip (Fin.AL () CN (Y_ rfl))
 refine ac ?_
 refine GU 2 3 90 rfl (Tr.cond rfl (fun h=>nomatch h) (fun _=> ?_))
 refine Tr.skip (Fin.AL () CN (Y_ rfl))
 refine TR 2 3 rfl (Tr.U5 [2,3] [] (¬(c.kind=5∧0<Fz c.Cy.CW e.ids)) ?_ (fun AHf=> ?_))
 refine ac ?_
 refine Tr.cn rfl ?_ ?_<;>intro h23 q23
 refine ac ?_
 refine co rfl (CL (OJ F0.Yk) rfl rfl rfl) ?_
 refine ac ?_
 refine GU 2 3 10 rfl ?_
 refine ac ?_
 refine Tr.cn rfl ?_ ?_<;>intro Nc q24
 refine ac ?_
 refine ac ?_
 · exact QV
 refine Tr.skip (Fin.AL () AA (Y_ rfl))
 refine Tr.skip (Fin.AL () AA (Y_ rfl))
 refine ac ?_
 refine Tr.cn rfl ?_ ?_<;>intro h25 q25
 refine ac ?_
 refine co rfl (CL (OJ F0.Yk) rfl rfl rfl) ?_
 refine ac ?_
 refine OZ 12 rfl ?_
 refine ac ?_
 refine Tr.cn rfl ?_ ?_<;>intro h26 q26
 refine ac ?_
 refine ac ?_
 · exact QV
 refine ac ?_
 refine ac ?_
 refine Tr.cn rfl ?_ ?_<;>intro h27 q27
 refine ac ?_
 refine ac ?_
 · exact QV
 refine ac ?_
 refine ac ?_
 refine ac ?_
 · exact jz
 refine ac ?_
 refine ac ?_
 refine ac ?_
 · exact jz
def UK (e:Dp) (c:BX):Dp×Int:=if (Lc e.Bv c).2=0 then (⟨(Lc e.Bv c).1,e.BW,e.items⟩,0) else (GH,(Lc e.Bv c).2)
def WI (x:Io) (l:List BX) (i:Nat):Bool:=(l[i]?).any fun c=>decide (c.Aa=x.client∨c.Aa=x.server)
def OL (x:Io) (l:List BX) (k:Nat):List Int:=((List.range k).filter (WI x l)).map fun i:Nat=>(i:Int)
theorem X6 {x:Io} {l:List BX} {k:Nat} (h:WI x l k=true):OL x l (k+1)=OL x l k++[(k:Int)]:=by unfold OL;rw [List.range_succ,List.filter_append,List.map_append];simp [h]
theorem ux {x:Io} {l:List BX} {k:Nat} (h:WI x l k=false):OL x l (k+1)=OL x l k:=by unfold OL;rw [List.range_succ,List.filter_append,List.map_append];simp [h]
theorem X7 (x:Io) (l:List BX) (k:Nat):(OL x l k).length≤k:=by unfold OL;rw [List.length_map];exact Nat.le_trans (List.length_filter_le _ _) Qi
def Jx (e:Dp) (l:List BX) (k:Int):List Int×Int:=
 if FQ e=false then ([],31) else if 24<l.length then ([],3) else if k<0∨((e.BW.length:Nat):Int)≤k then ([],4)
 else (OL (e.BW[k.toNat]?.getD Gq) l l.length,0)
theorem AGL {e e2:CA} {c b:BX} (h:c.kind=1) (hs:CF e c= .ok (e2,b)):(0≤c.at_∧c.at_≤(e.A8.length:Nat))∧e2={ e with A8:=e.A8.take c.at_.toNat++[c.number]++e.A8.drop c.at_.toNat }∧b=⟨c.Aa,2,c.number,0,B1⟩:=by
 rw [Pw h] at hs
 (repeat' (split at hs))<;>first|(cases hs;done)|(injection hs with hs;injection hs with h1 h2;exact ⟨by omega,h1.symm,h2.symm⟩)
theorem AGM {e e2:CA} {c b:BX} (h:c.kind=2) (hs:CF e c= .ok (e2,b)):(0≤M8 e c)∧e2={ e with A8:=e.A8.eraseIdx (M8 e c).toNat }∧b=⟨c.Aa,1,c.number,M8 e c,B1⟩:=by
 rw [Px h] at hs
 (repeat' (split at hs))<;>first|(cases hs;done)|(injection hs with hs;injection hs with h1 h2;exact ⟨by omega,h1.symm,h2.symm⟩)
theorem AGN {e e2:CA} {c b:BX} (h:c.kind=3) (hs:CF e c= .ok (e2,b)):e2={ e with most:=c.number }∧b=⟨c.Aa,c.kind,e.most,0,B1⟩:=by
 rw [Py h] at hs
 (repeat' (split at hs))<;>first|(cases hs;done)|(injection hs with hs;injection hs with h1 h2;exact ⟨h1.symm,h2.symm⟩)
theorem AGO {e e2:CA} {c b:BX} (h:c.kind=4) (hs:CF e c= .ok (e2,b)):e2={ e with least:=c.number }∧b=⟨c.Aa,c.kind,e.least,0,B1⟩:=by
 rw [Pz h] at hs
 (repeat' (split at hs))<;>first|(cases hs;done)|(injection hs with hs;injection hs with h1 h2;exact ⟨h1.symm,h2.symm⟩)
theorem AGP {e e2:CA} {c b:BX} (h:c.kind=5) (hs:CF e c= .ok (e2,b)):(0≤c.at_∧c.at_≤(e.ids.length:Nat))∧e2={ e with ids:=e.ids.take c.at_.toNat++[c.Cy]++e.ids.drop c.at_.toNat }∧b=⟨c.Aa,6,c.Cy.CW,0,B1⟩:=by
 rw [P0 h] at hs
 (repeat' (split at hs))<;>first|(cases hs;done)|(injection hs with hs;injection hs with h1 h2;exact ⟨by omega,h1.symm,h2.symm⟩)
theorem AGQ {e e2:CA} {c b:BX} (h:c.kind=6) (hs:CF e c= .ok (e2,b)):∃x,e.ids[(Bp c.number e.ids).toNat]? =some x∧0≤Bp c.number e.ids∧e2={ e with ids:=e.ids.eraseIdx (Bp c.number e.ids).toNat }∧b=⟨c.Aa,5,0,Bp c.number e.ids,x⟩:=by
 rw [P3 h] at hs
 (repeat' (split at hs))<;>first|(cases hs;done)|(injection hs with hs;injection hs with h1 h2;exact ⟨_,by assumption,by omega,h1.symm,h2.symm⟩)
theorem AGR {e e2:CA} {c b:BX} (h:c.kind=7) (hs:CF e c= .ok (e2,b)):Fy e.anchors c.number=false∧e2={ e with anchors:=ZX e.anchors c.number }∧b=⟨c.Aa,8,c.number,0,B1⟩:=by
 rw [P4 h] at hs
 (repeat' (split at hs))<;>first|(cases hs;done)|(injection hs with hs;injection hs with h1 h2;exact ⟨by simp_all,h1.symm,h2.symm⟩)
theorem AGS {e e2:CA} {c b:BX} (h:c.kind=8) (hs:CF e c= .ok (e2,b)):Fy e.anchors c.number=true∧e2={ e with anchors:=e.anchors.eraseIdx (Ez e.anchors c.number) }∧b=⟨c.Aa,7,c.number,0,B1⟩:=by
 rw [P5 h] at hs
 (repeat' (split at hs))<;>first|(cases hs;done)|(injection hs with hs;injection hs with h1 h2;exact ⟨by simp_all,h1.symm,h2.symm⟩)
theorem AGT {e e2:CA} {c b:BX} (h:c.kind=9) (hs:CF e c= .ok (e2,b)):Fy e.hashes c.number=false∧e2={ e with hashes:=ZX e.hashes c.number }∧b=⟨c.Aa,10,c.number,0,B1⟩:=by
 rw [P6 h] at hs
 (repeat' (split at hs))<;>first|(cases hs;done)|(injection hs with hs;injection hs with h1 h2;exact ⟨by simp_all,h1.symm,h2.symm⟩)
theorem ADD {e e2:CA} {c b:BX} (h:c.kind=10) (hs:CF e c= .ok (e2,b)):Fy e.hashes c.number=true∧e2={ e with hashes:=e.hashes.eraseIdx (Ez e.hashes c.number) }∧b=⟨c.Aa,9,c.number,0,B1⟩:=by
 rw [M9 h] at hs
 (repeat' (split at hs))<;>first|(cases hs;done)|(injection hs with hs;injection hs with h1 h2;exact ⟨by simp_all,h1.symm,h2.symm⟩)
theorem ADE {e e2:CA} {c b:BX} (h:c.kind=11) (hs:CF e c= .ok (e2,b)):e2={ e with Ia:=(c.number==1) }∧b=⟨c.Aa,c.kind,LF e.Ia,0,B1⟩:=by
 rw [M_ h] at hs
 (repeat' (split at hs))<;>first|(cases hs;done)|(injection hs with hs;injection hs with h1 h2;exact ⟨h1.symm,h2.symm⟩)
theorem ADF {e e2:CA} {c b:BX} (h:c.kind=12) (hs:CF e c= .ok (e2,b)):e2={ e with own:=(c.number==1) }∧b=⟨c.Aa,c.kind,LF e.own,0,B1⟩:=by
 rw [NA h] at hs
 (repeat' (split at hs))<;>first|(cases hs;done)|(injection hs with hs;injection hs with h1 h2;exact ⟨h1.symm,h2.symm⟩)
theorem uy {e:CA} {c:BX} (h:0≤M8 e c):(M8 e c).toNat<e.A8.length:=by obtain ⟨_,_,_,h3⟩:=Pt (p:=fun y=>c.number==y) (l:=e.A8) h;exact h3
theorem i6 {e e2:CA} {c b:BX} (F0:e.small) (hcs:c.Cy.small) (hce:Gd e=true) (hc:Jh c) (hs:CF e c= .ok (e2,b)):BG prog 316 [agg (Bf e),agg (Eo c)] (agg (Bf e2)):=by
 refine fo func316 rfl ⟨rfl,rfl⟩ fun M0 w0=> ?_
 have hk:=hc.1
 have ok:=DQ.1 hce
 have hs1:=F0.A8
 have VZ:=F0.anchors
 have hs3:=F0.hashes
 have hs4:=F0.Yk
 refine Tr.seq (Tr.An (tp rfl (Bb rfl (Va rfl)) (tp rfl (Bb rfl (Va rfl)) ?_)))
 refine Tl rfl rfl rfl rfl z40 H9 (fun b1=> ?_)
 refine ap ?_
 refine ap ?_
 refine tp rfl (Cq (UJ F0) rfl rfl) ?_
 refine Tl rfl rfl rfl rfl z40 H9 (fun b2=> ?_)
 refine ap ?_
 refine ac ?_
 refine an ?_ ?_<;>intro h1 q1
 obtain ⟨hr,rfl,rfl⟩:=AGL q1 hs
 refine ap ?_
 refine tp rfl (AR rfl (OK (l:=e.A8) (i:=c.at_.toNat) AA hs1) ⟨ke rfl,⟨_,rfl,int_eq AA⟩,kz⟩) ?_
 refine ap ?_
 refine wk [5,4] rfl ?_
 refine ap ?_
 refine Tr.drop 0 (Tr.ret (Fin.CY rfl (AM.cell 0 rfl rfl Ci CE rfl Lr) ?_))
 · exact Lr
 refine ac ?_
 refine wk [24,13,5,4,3,2] rfl ?_
 refine Tr.cn rfl ?_ ?_<;>intro h2 q2
 obtain ⟨hr,rfl,rfl⟩:=AGM q2 hs
 refine Tr.rx ?_
 refine ay ?_
 refine xo rfl (fun _=>CL (JS) rfl rfl rfl) ?_
 refine xo rfl (fun _=>AR rfl (JT (l:=e.A8) (i:=(M8 e c).toNat) (uy hr) hs1) ⟨ke rfl,⟨_,rfl,int_eq (show M8 e c=_ by omega)⟩,trivial⟩) ?_
 refine ay ?_
 refine Cx.nil ⟨by kernel_rfl,?_⟩
 refine BE.done YV ?_
 refine ac ?_
 refine wk [5,4] rfl ?_
 refine ap ?_
 refine Tr.drop 0 (Tr.ret (Fin.CY rfl (AM.cell 0 rfl rfl Ci CE rfl Lr) ?_))
 · exact Lr
 refine an ?_ ?_<;>intro h3 q3
 obtain ⟨rfl,rfl⟩:=AGN q3 hs
 refine ap ?_
 refine ap ?_
 refine Tr.drop 0 (Tr.ret (Fin.CY rfl (AM.cell 0 rfl rfl Ci CE rfl Lr) ?_))
 · exact Lr
 refine an ?_ ?_<;>intro h4 q4
 obtain ⟨rfl,rfl⟩:=AGO q4 hs
 refine ap ?_
 refine ap ?_
 refine Tr.drop 0 (wk [4] rfl (Tr.ret (Fin.CY rfl (AM.cell 0 rfl rfl Ci CE rfl Lr) ?_)))
 · exact Lr
 refine an ?_ ?_<;>intro h5 q5
 obtain ⟨hr,rfl,rfl⟩:=AGP q5 hs
 refine ap ?_
 refine tp rfl (DY rfl underlying38 Ey (vl rfl) (vl rfl) AA B8) ?_
 refine TO.pad ?_
 refine TO.DT 0 rfl rfl AB (EB rfl rfl AB rfl underlying38 Ey f_ YU rfl AB ⟨_,rfl,AQ _⟩ (vl rfl) Ip Iq (Br BL ⟨_,rfl,Cr 1⟩)) (fun v1=> ?_)
 refine ap ?_
 refine wk [6,5,4,3] rfl ?_
 refine ap ?_
 refine tp rfl (Cq (MP hcs) rfl rfl) (tp rfl (AO (xs:=[.tmp 56]) (rows:=[_]) rfl rfl underlying38 Ey YU rfl AB ⟨⟨Am,(Va rfl)⟩,trivial⟩ AB) ?_)
 refine TO.DT 0 rfl rfl AB (B7 rfl rfl rfl rfl underlying38 Ey f_ YU (Kb rfl) (Kf rfl) (Ay BL (Ka rfl))) (fun v2=> ?_)
 refine ap ?_
 refine ap ?_
 refine tp rfl (DL rfl underlying38 Ey (vl rfl) (vl rfl) AA B8) ?_
 refine TO.DT 0 rfl rfl AB (B7 rfl rfl rfl rfl underlying38 Ey f_ YU (Kb rfl) (vl rfl) (Ay BL (Ka rfl))) (fun v3=> ?_)
 refine ap ?_
 refine wk [5,4] rfl ?_
 refine ap ?_
 refine Tr.drop 1 (Tr.ret (Fin.CY rfl (AM.cell 1 rfl rfl Ci CE rfl Lr) ?_))
 · exact BR ⟨Lr,Lr,Lr,Lr,Lr,Pr.le_trans (Ar _ _) (Pr.le_of_eq (by show _=slice 4 ((e.ids.take c.at_.toNat++[c.Cy]++e.ids.drop c.at_.toNat).map HN);simp [List.map_take,List.map_drop])),Lr,Lr,Lr,trivial⟩
 refine ac ?_
 refine wk [67,13,5,4,3,2] rfl ?_
 refine Tr.cn rfl ?_ ?_<;>intro h6 q6
 obtain ⟨x_,hx_,hr,rfl,rfl⟩:=AGQ q6 hs
 have hlt:=BM hx_
 refine ac ?_
 refine co rfl (CL (OJ hs4) rfl rfl rfl) ?_
 refine ac ?_
 refine wk [8,5,4] rfl ?_
 refine ap ?_
 refine tp rfl (DY rfl underlying38 Ey (vl rfl) (vl rfl) AA B8) ?_
 refine TO.pad ?_
 refine TO.DT 0 rfl rfl AB (EB rfl rfl AB rfl underlying38 Ey f_ YU rfl AB ⟨_,rfl,AQ _⟩ (vl rfl) Ip Iq (Br BL ⟨_,rfl,Cr 1⟩)) (fun v4=> ?_)
 refine ap ?_
 refine ap ?_
 refine tp rfl (DL rfl underlying38 Ey (vl rfl) (vl rfl) AA B8) ?_
 refine TO.DT 0 rfl rfl AB (B7 rfl rfl rfl rfl underlying38 Ey f_ YU (Kb rfl) (vl rfl) (Ay BL (Ka rfl))) (fun v5=> ?_)
 refine ap ?_
 refine wk [5,4] rfl ?_
 refine ap ?_
 refine Tr.drop 1 (Tr.ret (Fin.CY rfl (AM.cell 1 rfl rfl Ci CE rfl Lr) ?_))
 · exact BR ⟨Lr,Lr,Lr,Lr,Lr,Pr.le_trans (Ar _ _) (Pr.le_of_eq (by show _=slice 4 ((e.ids.eraseIdx (Bp c.number e.ids).toNat).map HN);rw [List.eraseIdx_eq_take_drop_succ,show (Bp c.number e.ids+1).toNat=(Bp c.number e.ids).toNat+1 by omega];simp [List.map_take,List.map_drop])),Lr,Lr,Lr,trivial⟩
 refine an ?_ ?_<;>intro h7 q7
 obtain ⟨hr,rfl,rfl⟩:=AGR q7 hs
 refine ap ?_
 refine tp rfl (CL (Oy VZ) rfl rfl rfl) ?_
 refine ap ?_
 refine wk [5,4] rfl ?_
 refine ap ?_
 refine Tr.drop 0 (Tr.ret (Fin.CY rfl (AM.cell 0 rfl rfl Ci CE rfl Lr) ?_))
 · exact Lr
 refine an ?_ ?_<;>intro h8 q8
 obtain ⟨hr,rfl,rfl⟩:=AGS q8 hs
 refine Tr.rx ?_
 refine ay ?_
 refine xo rfl (fun _=>CL (JS) rfl rfl rfl) ?_
 refine xo rfl (fun _=>AR rfl (JT (l:=e.anchors) (i:=Ez e.anchors c.number) (Vg hr) VZ) ⟨ke rfl,⟨_,rfl,int_eq (by rw [WG (Pv ok.anc),if_pos hr])⟩,trivial⟩) ?_
 refine ay ?_
 refine Cx.nil ⟨by kernel_rfl,?_⟩
 refine BE.done YV ?_
 refine ac ?_
 refine wk [5,4] rfl ?_
 refine ap ?_
 refine Tr.drop 0 (Tr.ret (Fin.CY rfl (AM.cell 0 rfl rfl Ci CE rfl Lr) ?_))
 · exact Lr
 refine an ?_ ?_<;>intro h9 q9
 obtain ⟨hr,rfl,rfl⟩:=AGT q9 hs
 refine ap ?_
 refine tp rfl (CL (Oy hs3) rfl rfl rfl) ?_
 refine ap ?_
 refine wk [5,4] rfl ?_
 refine ap ?_
 refine Tr.drop 0 (Tr.ret (Fin.CY rfl (AM.cell 0 rfl rfl Ci CE rfl Lr) ?_))
 · exact Lr
 refine ac ?_
 refine wk [116,13,5,4,3,2] rfl ?_
 refine Tr.cn rfl ?_ ?_<;>intro h10 P7
 obtain ⟨hr,rfl,rfl⟩:=ADD P7 hs
 refine Tr.rx ?_
 refine ay ?_
 refine xo rfl (fun _=>CL (JS) rfl rfl rfl) ?_
 refine xo rfl (fun _=>AR rfl (JT (l:=e.hashes) (i:=Ez e.hashes c.number) (Vg hr) hs3) ⟨ke rfl,⟨_,rfl,int_eq (by rw [WG (Pv ok.hash),if_pos hr])⟩,trivial⟩) ?_
 refine ay ?_
 refine Cx.nil ⟨by kernel_rfl,?_⟩
 refine BE.done YV ?_
 refine ac ?_
 refine wk [5,4] rfl ?_
 refine ap ?_
 refine Tr.drop 0 (Tr.ret (Fin.CY rfl (AM.cell 0 rfl rfl Ci CE rfl Lr) ?_))
 · exact Lr
 refine an ?_ ?_<;>intro h11 Sx
 obtain ⟨rfl,rfl⟩:=ADE Sx hs
 refine ap ?_
 refine ap ?_
 refine Tr.drop 0 (Tr.ret (Fin.CY rfl (AM.cell 0 rfl rfl Ci CE rfl Lr) ?_))
 · exact Lr
 refine an ?_ ?_<;>intro h12 WT
 obtain ⟨rfl,rfl⟩:=ADF WT hs
 refine ap ?_
 refine wk [5,4] rfl ?_
 refine ap ?_
 refine Tr.drop 0 (Tr.ret (Fin.CY rfl (AM.cell 0 rfl rfl Ci CE rfl Lr) ?_))
 · exact Lr
 exfalso;omega
theorem aV {e:CA} {c:BX} {n:Nat} (hz:e.sz n) (hn:n≤900000) (hi:c.Cy.fits∧c.Cy.small):BG prog 303 [agg (Bf e),agg (Eo c)] (Dz [agg (Bf (EK e c).1),int (EK e c).2.2]):=by
 refine fo func303 rfl ⟨rfl,rfl⟩ fun M0 w0=> ?_
 have F0:=hz.small AA
 have hcs:=hi.2
 refine Tr.seq (Tr.An (tp rfl (Bb rfl Cs) (tp rfl (Bb rfl Cs) ?_)))
 refine Tl rfl rfl rfl rfl z40 H9 (fun b1=> ?_)
 refine ao ?_
 refine ac ?_
 refine co rfl (CL (WH F0 hcs) rfl rfl rfl) ?_
 refine ac ?_
 refine an ?_ ?_<;>intro h1 q1
 have hb:=uw q1
 refine ao ?_
 refine TO.AK 0 rfl rfl rfl vq Cs rfl CE rfl rfl ?_
 refine ao ?_
 refine wk [5,4] rfl (Tr.ret (Fin.AE (Fin.BT rfl (AM.cell 0 rfl rfl Ci CE rfl Lr) (AM.tmp rfl Lr) ?_)))
 refine Az ⟨?_,?_,trivial⟩
 · exact bN
 · exact int_eq (by rw [hb])
 obtain ⟨hce,hc,e2,b,hs⟩:=zD (e:=e) (c:=c) (by have:=q1;omega)
 have AGU:=(dX hc hs hz hi).1.small AA
 refine ac ?_
 refine ao ?_
 refine tp rfl (CL (i6 F0 hcs hce hc hs) rfl rfl rfl) ?_
 refine Tl rfl rfl rfl rfl z40 H9 (fun b2=> ?_)
 refine sf 0 7 ⟨rfl,rfl,rfl⟩ rfl rfl rfl rfl ?_
 refine ao ?_
 refine wk [7,4] rfl ?_
 refine ac ?_
 refine co rfl (Cq (FM AGU) rfl rfl) ?_
 refine an ?_ ?_<;>intro h2 q2
 have hb:=tF hce hc hs (by have:=q2;cases h_:Gd e2<;>simp_all)
 refine ao ?_
 refine TO.AK 0 rfl rfl rfl vq Cs rfl CE rfl rfl ?_
 refine ao ?_
 refine Tr.ret (Fin.AE (Fin.BT rfl (AM.cell 0 rfl rfl Ci CE rfl Lr) (AM.tmp rfl Lr) ?_))
 refine Az ⟨?_,?_,trivial⟩
 · exact bN
 · exact int_eq (by rw [hb])
 have hb:=mM hce hc hs (by have:=q2;cases h_:Gd e2<;>simp_all)
 refine ac ?_
 refine ao ?_
 refine TO.AK 0 rfl rfl rfl vq Cs rfl CE rfl rfl ?_
 refine ao ?_
 refine Tr.ret (Fin.BT rfl (AM.cell 0 rfl rfl Ci CE rfl Lr) (AM.tmp rfl Lr) ?_)
 refine Az ⟨?_,?_,trivial⟩
 · rw [hb];exact Lr
 · exact int_eq (by rw [hb])
theorem SO {e:Dp} {n:Nat} (hz:e.sz n) (hn:n≤1000000):Nx prog 286 [agg (CM e)] (fun x=>agg [is x,Ic e.BW,RW e.items]) (fun x=>[Bs 40 9 (e.Bv.map Bf) x]):=by
 refine Nx.of func286 rfl rfl Ao fun M0 w0 S rs M1 w1=> ?_
 have hl1:=hz.le
 have hl2:=hz.lg
 have hl3:=hz.li
 refine Tr.seq (Tr.An (tp rfl (Bb rfl (Va rfl)) ?_))
 refine Tl rfl rfl rfl rfl z31 IW (fun b1=> ?_)
 refine ao ?_
 refine ao ?_
 refine tp rfl (JG rfl underlying28 Ew vT ZL rfl AB (vl rfl) kB bD) ?_
 refine tp rfl (oD) ?_
 refine Tl rfl rfl rfl rfl z31 IW (fun b2=> ?_)
 refine TO.AK 0 rfl rfl rfl (vl rfl) (Va rfl) rfl De rfl rfl ?_
 refine ao ?_
 refine ac ?_
 refine Tr.block (Tr.HY 0 [Ad (.slice none 0 0) (lens ((e.Bv.take 0).map Bf).length),Ic e.BW,is (.slice none 0 0)] rfl ⟨Jy rfl,Lr,Lr,trivial⟩ (Tr.L2 40 9 (Tr.EO _ (kk [14,13,3,2,1] rfl) (fun k v=>[(15,int ((k:Nat):Int))]) (fun k v=>Hp M0 w0 S (Bn 40 9 ((e.Bv.take k).map Bf) v::AF true b2 31 [Ad v (lens ((e.Bv.take k).map Bf).length),Ic e.BW,is (.slice none 0 0)]::AF true b1 31 (([.slice none 0 0,.slice none 0 0,.slice none 0 0]:List Value).map is)::Al M1 w1::rs)) (fun k:Nat=>k≤(e.Bv).length) (fun k:Nat=>(e.Bv).length-k) 0 (.slice none 0 0) (Nat.zero_le _) kz (fun _ _ h=>h) ?_)))
 rintro k v BU
 refine ac ?_
 refine Tr.seq ?_
 refine Tr.cn rfl ?_ ?_<;>intro h1 q1
 have Af:k<(e.Bv).length:=AH h1
 obtain ⟨x,Ah⟩:=at_ Af
 have hxs:=(hz.Bv x (List.mem_of_getElem? Ah)).small hn
 refine ac ?_
 refine Tr.seq (Tr.block (Tr.seq (Tr.An (tp rfl (AD rfl underlying27 CE (vl rfl) (vl rfl) AA CO) ?_))))
 refine tp rfl (AP rfl Ci CE (vl rfl) rfl rfl) ?_
 refine Tl rfl rfl rfl rfl z40 H9 (fun b3=> ?_)
 refine sf 0 5 ⟨rfl,rfl,rfl⟩ rfl rfl rfl rfl ?_
 refine ao ?_
 refine Tr.pad (Tr.rx ?_)
 refine ax ?_
 refine xo rfl (fun _=>Cq (UJ hxs) rfl rfl) (xo rfl (fun _=>AO (xs:=[.tmp 22]) (rows:=[_]) rfl rfl underlying27 CE z40 rfl AB ⟨⟨Am,(Va rfl)⟩,trivial⟩ AB) ?_)
 refine Cx.ef 1 rfl rfl AB (GG rfl rfl AB rfl underlying27 CE w7 z40 rfl AB AB (vl rfl) (Kf rfl) (BD fun _=>rfl) (Nat.zero_lt_succ _) (by simp only [List.length_map,List.length_take,List.length_cons,List.length_nil];unfold maxLen;omega) (by simp only [List.length_map,List.length_take,List.length_cons,List.length_nil];omega)) ?_
 refine xo rfl (fun _=>AW rfl HI (vl rfl)) (Cx.DP 2 rfl rfl (GD rfl rfl rfl (vl rfl) rfl w4 Ao) ?_)
 refine Cx.nil ⟨by kernel_rfl,?_⟩
 refine BE.Q5 1 2 24 rfl rfl AB rfl (fun v1=> ?_)
 refine BE.done al5 ?_
 refine ac ?_
 refine Tr.drop 0 (wk [15,14,13,3,2,1] rfl ?_)
 refine ac ?_
 refine Fin.HY 1 [Ad v1 (lens ((e.Bv.take (k+1)).map Bf).length),Ic e.BW,is (.slice none 0 0)] rfl ⟨DM (by simp only [List.length_map,List.length_append,List.length_take,List.length_cons,List.length_nil];omega),Lr,Lr,trivial⟩ ?_
 rw [wD (f:=Bf) Ah]
 exact Fin.C1 (k+1) v1 (⟨Af,by omega⟩) ⟨⟨_,rfl,AG k⟩,kz⟩ (fun _ _ h=>h)
 have BK:k=(e.Bv).length:=by have:=AJ h1;omega
 subst BK
 rw [List.take_length]
 refine a2 ?_
 refine Tr.block (Tr.HY 1 [Ad v (lens (e.Bv.map Bf).length),Ic e.BW,Ad (.slice none 0 0) (RW (e.items.take 0))] rfl ⟨Lr,Lr,Bi rfl,trivial⟩ (Tr.B5 135 5 (Tr.EO _ (kk [29,28,3,2] rfl) (fun m u=>[(30,int ((m:Nat):Int))]) (fun m u=>Hp M0 w0 S (Aw 135 5 u::Bn 40 9 (e.Bv.map Bf) v::AF true b2 31 [Ad v (lens (e.Bv.map Bf).length),Ic e.BW,Ad u (RW (e.items.take m))]::AF true b1 31 (([.slice none 0 0,.slice none 0 0,.slice none 0 0]:List Value).map is)::Al M1 w1::rs)) (fun m:Nat=>m≤(e.items).length) (fun m:Nat=>(e.items).length-m) 0 (.slice none 0 0) (Nat.zero_le _) kz (fun _ _ h=>h) ?_)))
 rintro m u NC
 refine ac ?_
 refine Tr.seq ?_
 refine Tr.cn rfl ?_ ?_<;>intro h2 q2
 have EZ:m<(e.items).length:=AH h2
 obtain ⟨y,Ee⟩:=at_ EZ
 have hyl:=(hz.items y (List.mem_of_getElem? Ee)).2
 refine ac ?_
 refine Tr.seq (Tr.block (Tr.seq (Tr.An (tp rfl (AD rfl underlying29 Hs (vl rfl) (vl rfl) AA CO) ?_))))
 refine tp rfl (AP rfl VI Hs (vl rfl) rfl rfl) ?_
 refine Tl rfl rfl rfl rfl VJ Ww (fun b4=> ?_)
 refine TO.AK 0 rfl rfl rfl (vl rfl) (Va rfl) rfl Hs rfl rfl ?_
 refine ao ?_
 refine ao ?_
 refine tp rfl (JG rfl underlying133 J7 vc z198 rfl AB (vl rfl) kB bD) ?_
 refine tp rfl (AW rfl VK (vl rfl)) (TO.DP 0 rfl rfl (A0 rfl rfl (vl rfl) (Vo rfl) vV rfl Ao rfl) ?_)
 refine ao ?_
 refine wk [30,29,28,7,3,2] rfl ?_
 refine ao ?_
 refine TO.DT 1 rfl rfl AB (B7 rfl rfl rfl rfl underlying29 Hs lH VJ (Kb rfl) (Kf rfl) (Ay BL (Ka rfl))) (fun v2=> ?_)
 refine tp rfl (AW rfl Nt (vl rfl)) (TO.DP 3 rfl rfl (A0 rfl rfl (vl rfl) (Vo rfl) w5 rfl Ao rfl) ?_)
 refine ao ?_
 refine Tr.drop 0 ?_
 refine ac ?_
 refine Fin.HY 2 [Ad v (lens (e.Bv.map Bf).length),Ic e.BW,Ad v2 (RW (e.items.take (m+1)))] rfl ⟨Lr,Lr,BA (wD (f:=dO) Ee),trivial⟩ (Fin.C1 (m+1) v2 (⟨EZ,by omega⟩) ⟨⟨_,rfl,AG m⟩,kz⟩ (fun _ _ h=>h))
 have KI:m=(e.items).length:=by have:=AJ h2;omega
 subst KI
 refine ac ?_
 refine ao ?_
 refine TO.AK 3 rfl rfl rfl (vl rfl) (Va rfl) rfl De rfl rfl ?_
 refine ao ?_
 refine Tr.ret (Fin.RY 1 rfl (Fin.drop 0 (Fin.drop 1 (Fin.L3 (Fin.xj v [_] rfl (AM.cell 0 rfl rfl Dg De rfl Lr) ?_ (List.Perm.refl _))))))
 · exact BR ⟨EA _ _,Lr,Pr.le_trans (Ar _ _) (Pr.le_of_eq PZ),trivial⟩
theorem Uh {e:Dp} {c:BX} (h:c.Aa<0∨((e.Bv.length:Nat):Int)≤c.Aa):UK e c=(GH,40):=by unfold UK;rw [tW h];rfl
theorem zE {e:Dp} {c:BX} {x:CA} (h:¬(c.Aa<0∨((e.Bv.length:Nat):Int)≤c.Aa)) (hx:e.Bv[c.Aa.toNat]? =some x):UK e c=if (EK x c).2.2=0 then (⟨e.Bv.set c.Aa.toNat (EK x c).1,e.BW,e.items⟩,0) else (GH,(EK x c).2.2):=by
 unfold UK;rw [yI h hx]
 by_cases h0:(EK x c).2.2=0
 · rw [if_pos h0,if_pos h0];rfl
 · rw [if_neg h0,if_neg h0];exact (if_neg h0).symm
theorem aW {e:Dp} {c:BX} {n:Nat} (hz:e.sz n) (hi:c.Cy.fits∧c.Cy.small) (h:(UK e c).2=0):(UK e c).1.sz (n+1)∧UK e c=(⟨(Lc e.Bv c).1,e.BW,e.items⟩,0):=by
 have h0:(Lc e.Bv c).2=0:=by
  by_cases h0:(Lc e.Bv c).2=0
  · exact h0
  · unfold UK at h;rw [if_neg h0] at h;exact h
 have h1:UK e c=(⟨(Lc e.Bv c).1,e.BW,e.items⟩,0):=by unfold UK;rw [if_pos h0]
 rw [h1]
 exact ⟨⟨m8 hz.Bv hi,hz.items,by show (Lc e.Bv c).1.length≤_;rw [dY];exact hz.le,hz.lg,hz.li⟩,rfl⟩
theorem uz {e:Dp} {c:BX} (h:¬(UK e c).2=0):¬(Lc e.Bv c).2=0∧(UK e c).2=(Lc e.Bv c).2∧(UK e c).1=GH:=by
 by_cases h0:(Lc e.Bv c).2=0
 · exfalso;unfold UK at h;rw [if_pos h0] at h;exact h rfl
 · unfold UK;rw [if_neg h0];exact ⟨h0,rfl,rfl⟩
theorem i7 {e:Dp} {c:BX} {n:Nat} (hz:e.sz n) (hn:n≤900000) (hci:c.Cy.fits∧c.Cy.small):BG prog 287 [agg (CM e),agg (Eo c)] (Dz [agg (CM (UK e c).1),int (UK e c).2]):=by
 refine fo func287 rfl ⟨rfl,rfl⟩ fun M0 w0=> ?_
 have AHg:=hz.le
 refine Tr.seq (Tr.An (tp rfl (Bb rfl Cs) (tp rfl (Bb rfl Cs) ?_)))
 refine Tl rfl rfl rfl rfl z31 IW (fun b1=> ?_)
 refine ao ?_
 refine ag ?_ ?_<;>intro h1 q1
 refine ac ?_
 refine wk [19,4,3,2] rfl (Tr.cond rfl (fun _=> ?_) (fun h=>nomatch h))
 refine Tr.seq (Tr.An (tp rfl (Ak (rows:=[]) rfl AAp IW trivial rfl) (TO.AK 0 rfl rfl rfl vq Cs rfl De rfl rfl ?_)))
 refine ao ?_
 refine Tr.ret (Fin.AE (Fin.BT rfl (AM.cell 0 rfl rfl Dg De rfl Lr) (AM.tmp rfl Lr) ?_))
 refine Az ⟨?_,?_,trivial⟩
 · exact bJ
 · exact int_eq (by rw [Uh (e:=e) (c:=c) AA])
 refine ac ?_
 refine wk [19,4,3,2] rfl ?_
 refine Tr.cn rfl ?_ ?_<;>intro h2 q2
 refine ao ?_
 refine TO.AK 0 rfl rfl rfl vq Cs rfl De rfl rfl ?_
 refine ao ?_
 refine Tr.ret (Fin.AE (Fin.BT rfl (AM.cell 0 rfl rfl Dg De rfl Lr) (AM.tmp rfl Lr) ?_))
 refine Az ⟨?_,?_,trivial⟩
 · exact bJ
 · exact int_eq (by rw [Uh (e:=e) (c:=c) AA])
 obtain ⟨x,hx⟩:=at_ (l:=e.Bv) (k:=c.Aa.toNat) AA
 have hA:=zE (e:=e) (c:=c) AA hx
 have hlt:=BM hx
 refine ac ?_
 refine Tr.seq (Tr.pad (Tr.rx ?_))
 refine ax ?_
 refine xo rfl (fun _=>AD rfl underlying27 CE vq vq AA (Bh (f:=Bf) hx)) ?_
 refine ax ?_
 refine xo rfl (fun _=>CL (aV (hz.Bv x (List.mem_of_getElem? hx)) AA hci) rfl rfl rfl) ?_
 refine ax ?_
 refine Cx.ef 0 rfl rfl AB (CC rfl rfl AB rfl z40 H9) (Cx.DP 0 rfl rfl (CZ rfl rfl rfl rfl Cs CE rfl rfl) (xm rfl ?_))
 refine Cx.nil ⟨by kernel_rfl,?_⟩
 refine BE.open_ 0 6 rfl rfl (fun v1=> ?_)
 refine BE.done YV (Fin.LX 6 0 _ rfl rfl (fun _=>rfl) (fun b2=> ?_))
 refine Fin.go (wk [7,6,4,3,2] rfl ?_)
 refine an ?_ ?_<;>intro h3 q3
 rw [if_neg (by have:=q3;omega)] at hA
 refine ao ?_
 refine TO.AK 1 rfl rfl rfl vq Cs rfl De rfl rfl ?_
 refine ao ?_
 refine Tr.drop 0 (Tr.ret (Fin.AE (Fin.BT rfl (AM.cell 0 rfl rfl Dg De rfl Lr) (AM.tmp rfl Lr) ?_)))
 refine Az ⟨?_,?_,trivial⟩
 · exact Qh
 · exact GO
 rw [if_pos (by have:=q3;omega)] at hA
 refine ac ?_
 refine ao ?_
 refine TO.lY rfl rfl AB rfl (SO hz AA) kz (fun v2=> ?_)
 refine Tl rfl rfl rfl rfl z31 IW (fun b3=> ?_)
 refine TO.AK 0 rfl rfl rfl vq Cs rfl De rfl rfl ?_
 refine ao ?_
 refine ao ?_
 refine tp rfl (Cg 1 rfl (HK rfl underlying27 CE vq vq AA Cz)) ?_
 refine TO.DP 1 rfl rfl (Em rfl rfl vq Cs CE rfl (BD fun _=>rfl) Ut AB (show _=(e.Bv.set c.Aa.toNat (EK x c).1).map Bf by rw [List.map_set];rfl)) ?_
 refine ao ?_
 refine Tr.drop 2 (wk [8,4] rfl (Tr.seq (Tr.FA 0 1 0 rfl rfl AB rfl Lr (BD fun _=>rfl) ?_)))
 refine ao ?_
 refine TO.AK 2 rfl rfl rfl vq Cs rfl De rfl rfl ?_
 refine ao ?_
 refine Tr.drop 1 (Tr.ret (Fin.BT rfl (AM.cell 1 rfl rfl Dg De rfl Lr) (AM.tmp rfl Lr) ?_))
 refine Az ⟨?_,?_,trivial⟩
 · rw [hA];exact Lr
 · exact GO
theorem SP {e:Dp} {l:List BX} {s:List Int} {n:Nat} (hz:e.sz n) (hn:n≤800000) (hc:∀c∈l,c.Cy.fits∧c.Cy.small):BG prog 255 [agg (CM e),slice 8 (l.map Eo),ints s] (Dz [agg (CM (Vt e l s).1),int (Vt e l s).2]):=by
 refine fo func255 rfl ⟨rfl,rfl⟩ fun M0 w0=>(Tr.Cm 1 rfl fun Fo=>(Tr.Cm 2 rfl fun mo=>(Tr.seq (Tr.An (tp rfl (Bb rfl Cs) ?_)))))
 refine Tl rfl rfl rfl rfl z31 IW (fun b1=> ?_)
 refine ap ?_
 refine ac ?_
 refine co rfl (Cq (D6 (hz.fits AA)) rfl rfl) ?_
 refine an ?_ ?_<;>intro h1 q1
 have hA:Vt e l s=(GH,31):=if_pos (by have:=q1;cases h_:FQ e<;>simp_all)
 refine ap ?_
 refine Tr.ret (Fin.AE (Fin.BT rfl (AM.cell 0 rfl rfl Dg De rfl Lr) (AM.tmp rfl Lr) ?_))
 refine Az ⟨?_,?_,trivial⟩
 · exact Qh
 · exact GO
 have hok:FQ e=true:=by have:=q1;cases h_:FQ e<;>simp_all
 refine ac ?_
 refine an ?_ ?_<;>intro h2 q2
 have hA:Vt e l s=(GH,3):=by unfold Vt;rw [if_neg Kk,if_pos (by have:=q2;omega)]
 refine ap ?_
 refine Tr.ret (Fin.AE (Fin.BT rfl (AM.cell 0 rfl rfl Dg De rfl Lr) (AM.tmp rfl Lr) ?_))
 refine Az ⟨?_,?_,trivial⟩
 · exact Qh
 · exact GO
 have AGV:l.length≤24:=by have:=q2;omega
 refine a2 ?_
 refine co rfl (CL (MC (l:=s) (n:=((l.length:Nat):Int))) rfl rfl rfl) ?_
 refine ac ?_
 refine wk [25,6,3,2,1] rfl ?_
 refine Tr.cn rfl ?_ ?_<;>intro h3 q3
 have hA:Vt e l s=(GH,46):=by unfold Vt;rw [if_neg Kk,if_neg AA,if_pos Hf]
 refine ap ?_
 refine Tr.ret (Fin.AE (Fin.BT rfl (AM.cell 0 rfl rfl Dg De rfl Lr) (AM.tmp rfl Lr) ?_))
 refine Az ⟨?_,?_,trivial⟩
 · exact Qh
 · exact GO
 have hsb:DH l.length s=true:=by simpa using h3
 have hsn:=dZ hsb
 have hel:=hz.le
 refine ac ?_
 refine ap ?_
 refine TO.lY rfl rfl AB rfl (SO hz AA) kz (fun v1=> ?_)
 refine Tl rfl rfl rfl rfl z31 IW (fun b2=> ?_)
 refine ap ?_
 refine Tr.seq (Tr.seq (Tr.FA 0 1 0 rfl rfl AB rfl Lr (BD fun _=>rfl) ?_))
 refine ac ?_
 refine Tr.drop 1 (Tr.block (Tr.DD _ (kk [30,29,8,6,1] rfl) (fun (m:Nat) (Bv:List CA)=>[(31,int ((m:Nat):Int))]) (fun (m:Nat) (Bv:List CA)=>Hp M0 w0 FO ([AF true b2 31 (CM ⟨Bv,e.BW,e.items⟩),AF true b1 31 (([.slice none 0 0,.slice none 0 0,.slice none 0 0]:List Value).map is)])) (fun (m:Nat) (Bv:List CA)=>m≤s.length∧(⟨Bv,e.BW,e.items⟩:Dp).sz (n+m)∧N4 l (s.drop m) Bv=N4 l s e.Bv) (fun (m:Nat) (Bv:List CA)=>s.length-m) (0) (e.Bv)  (⟨Nat.zero_le _,hz,rfl⟩) kz (fun _ _ h=>h) ?_))
 rintro m Bv  ⟨hm1,hse,hm4⟩
 refine ac ?_
 refine Tr.seq ?_
 refine Tr.cn rfl ?_ ?_<;>intro h4 q4
 have hmm:m<s.length:=by have:=DU.D9 h4;omega
 obtain ⟨i,Ee⟩:=at_ hmm
 have him:=P_ hsb Ee
 obtain ⟨c,jm⟩:=at_ (l:=l) (k:=i.toNat) AA
 have hci:=hc c (List.mem_of_getElem? jm)
 have hst:=gr (Bv:=Bv) Ee jm
 rw [hm4] at hst
 refine ac ?_
 refine Tr.seq (Tr.block (Tr.seq (Tr.Aj (co rfl (AD rfl underlying51 Bt vq vq AA (AX Ee)) ?_))))
 refine ac ?_
 refine Tr.seq (Tr.pad (Tr.rx ?_))
 refine ax ?_
 refine xo rfl (fun _=>AD rfl underlying32 Du vq vq AA (Bh (f:=Eo) jm)) (xo rfl (fun _=>AP rfl Hr Du vq rfl rfl) ?_)
 refine xo rfl (fun _=>CL (i7 (e:=⟨Bv,e.BW,e.items⟩) (c:=c) hse AA hci) rfl rfl rfl) ?_
 refine ax ?_
 refine Cx.ef 0 rfl rfl AB (CC rfl rfl AB rfl z31 IW) (Cx.DP 0 rfl rfl (CZ rfl rfl rfl rfl Cs De rfl rfl) (xm rfl ?_))
 refine Cx.nil ⟨by kernel_rfl,?_⟩
 refine BE.open_ 0 11 rfl rfl (fun v2=> ?_)
 refine BE.done al3 (Fin.LX 11 0 _ rfl rfl (fun _=>rfl) (fun b3=> ?_))
 refine Fin.go (wk [31,30,29,12,11,8,6,1] rfl ?_)
 refine an ?_ ?_<;>intro h5 q5
 obtain ⟨h0_,h1_,h2_⟩:=uz (e:=⟨Bv,e.BW,e.items⟩) (c:=c) (by have:=q5;omega)
 have h0_:¬(Lc Bv c).2=0:=h0_
 rw [if_neg h0_] at hst
 have hA:Vt e l s=(GH,(UK ⟨Bv,e.BW,e.items⟩ c).2):=by unfold Vt;rw [if_neg Kk,if_neg AA,if_neg (by simp [hsb]),hst,h1_];exact if_neg h0_
 refine ap ?_
 refine Tr.drop 0 (Tr.ret (Fin.AE (Fin.AU (Fin.AE (Fin.AE (Fin.AU (Fin.AE (Fin.BT rfl (AM.cell 1 rfl rfl Dg De rfl Lr) (AM.tmp rfl Lr) ?_))))))))
 refine Az ⟨?_,?_,trivial⟩
 · exact Qh
 · exact GO
 have hs0:(UK ⟨Bv,e.BW,e.items⟩ c).2=0:=by have:=q5;omega
 have hap:(Lc Bv c).2=0:=by by_cases h0:(Lc Bv c).2=0;exact h0;(exfalso;unfold UK at hs0;rw [if_neg (show ¬(Lc (⟨Bv,e.BW,e.items⟩:Dp).Bv c).2=0 from h0)] at hs0;exact h0 hs0)
 refine ac ?_
 refine ap ?_
 refine Tr.drop 0 ?_
 refine ac ?_
 refine Fin.eqC 0 (CM ⟨(Lc Bv c).1,e.BW,e.items⟩) rfl (by rw [(aW hse hci hs0).2];rfl) ?_
 exact Fin.DK (m+1) ((Lc Bv c).1)  (⟨⟨by omega,by have h_:=(aW hse hci hs0).1;rw [(aW hse hci hs0).2] at h_;rw [show n+(m+1)=n+m+1 by omega];exact h_,by rw [hst,if_pos hap]⟩,by omega⟩) ⟨⟨_,rfl,AG m⟩,kz⟩ (fun _ _ h=>h)
 obtain rfl:m=s.length:=by have:=DU.D9 h4;omega
 rw [List.drop_length] at hm4
 have hA:Vt e l s=(⟨Bv,e.BW,e.items⟩,0):=by unfold Vt;rw [if_neg Kk,if_neg AA,if_neg (by simp [hsb]),←hm4];exact if_pos rfl
 refine ac ?_
 refine ap ?_
 refine Tr.ret (Fin.BT rfl (AM.cell 1 rfl rfl Dg De rfl Lr) (AM.tmp rfl Lr) ?_)
 refine Az ⟨?_,?_,trivial⟩
 · rw [hA];exact Lr
 · exact GO
theorem S7 {e:Dp} {l:List BX} {i:Int} {n:Nat} (hz:e.sz n) (hn:n≤800000)  :BG prog 278 [agg (CM e),slice 8 (l.map Eo),int i] (Dz [ints (Jx e l i).1,int (Jx e l i).2]):=by
 refine fo func278 rfl ⟨rfl,rfl⟩ fun M0 w0=>(Tr.Cm 1 rfl fun Fo=> ?_)
 refine a2 ?_
 refine co rfl (Cq (D6 (hz.fits AA)) rfl rfl) ?_
 refine an ?_ ?_<;>intro h1 q1
 have hA:Jx e l i=([],31):=if_pos (by have:=q1;cases h_:FQ e<;>simp_all)
 refine ac ?_
 refine Tr.ret (Fin.AE (Fin.Ct rfl (Bg.Dc _ _) rfl ?_ rfl ?_))
 · rw [hA];exact AQ 1
 · exact GO
 have hok:FQ e=true:=by have:=q1;cases h_:FQ e<;>simp_all
 refine ac ?_
 refine an ?_ ?_<;>intro h2 q2
 have hA:Jx e l i=([],3):=by unfold Jx;rw [if_neg Kk,if_pos (by have:=q2;omega)]
 refine ac ?_
 refine Tr.ret (Fin.AE (Fin.Ct rfl (Bg.Dc _ _) rfl ?_ rfl ?_))
 · rw [hA];exact AQ 1
 · exact GO
 have AGV:l.length≤24:=by have:=q2;omega
 refine ac ?_
 refine ag ?_ ?_<;>intro h3 q3
 refine ac ?_
 refine wk [25,3,2,1] rfl ?_
 refine ac ?_
 refine Tr.ret (Fin.AE (Fin.Ct rfl (Bg.Dc _ _) rfl ?_ rfl ?_))
 · exact kD
 · exact kC
 refine ac ?_
 refine wk [25,3,2,1] rfl ?_
 refine Tr.cn rfl ?_ ?_<;>intro h4 q4
 refine ac ?_
 refine Tr.ret (Fin.AE (Fin.Ct rfl (Bg.Dc _ _) rfl ?_ rfl ?_))
 · exact kD
 · exact kC
 obtain ⟨g,hg⟩:=at_ (l:=e.BW) (k:=i.toNat) AA
 have hA:Jx e l i=(OL g l l.length,0):=by unfold Jx;rw [if_neg Kk,if_neg AA,if_neg AA,getD_at hg]
 refine a3 ?_
 refine Tr.block (Tr.B5 3 1 (Tr.EO _ (kk [27,26,3,2] rfl) (fun k v=>[(28,int ((k:Nat):Int)),(8,Ad v (ints (OL g l k)))]) (fun k v=>Hp M0 w0 FO ([Aw 3 1 v])) (fun k:Nat=>k≤(l).length) (fun k:Nat=>(l).length-k) 0 (.slice none 0 0) (Nat.zero_le _) ⟨kq,⟨_,rfl,Bi rfl⟩,trivial⟩ (fun _ _ h=>h) ?_))
 rintro k v BU
 refine ac ?_
 refine Tr.seq ?_
 refine Tr.cn rfl ?_ ?_<;>intro h5 q5
 have Af:k<(l).length:=AH h5
 obtain ⟨c,Ah⟩:=at_ Af
 have hrl:=X7 g l k
 refine ac ?_
 refine ao ?_
 refine tp rfl (AD rfl underlying32 Du vq vq AA (AX Ah)) (tp rfl (AP rfl Hr Du vq rfl rfl) ?_)
 refine Tl rfl rfl rfl rfl Pn LD (fun b1=> ?_)
 refine tm rfl ?_
 refine sf 0 10 ⟨rfl,rfl,rfl⟩ rfl rfl rfl rfl ?_
 refine ao ?_
 refine wk [28,27,26,10,9,8,3,2] rfl ?_
 refine ac ?_
 refine co rfl (AD rfl underlying28 Ew vq vq AA (Bh (f:=yB) hg)) ?_
 refine ag ?_ ?_<;>intro h6 q6
 have hP:WI g l k=true:=by unfold WI;rw [Ah];simp;omega
 refine ac ?_
 refine wk [52,28,27,26,9,8,3,2] rfl (Tr.cond rfl (fun _=> ?_) (fun h=>nomatch h))
 refine Tr.An (tm rfl (tm rfl (tp rfl (AO (xs:=[.tmp 54]) (rows:=[[_]]) rfl rfl underlying51 Bt z3 rfl AB ⟨⟨Am,My⟩,trivial⟩ AB) ?_)))
 refine TO.DT 0 rfl rfl AB (B7 rfl rfl rfl rfl underlying51 Bt G2 z3 G3 F4 (Ay BL Jo)) (fun v1=> ?_)
 refine ao ?_
 refine ac ?_
 exact Fin.C1 (k+1) v1 (⟨Af,by omega⟩) ⟨⟨_,rfl,AG k⟩,⟨_,rfl,BA (by rw [X6 hP,List.map_append];rfl)⟩,kz⟩ (fun _ _ h=>h)
 refine ac ?_
 refine cy h6 rfl (AD rfl underlying28 Ew vq vq AA (Bh (f:=yB) hg)) ?_
 refine ac ?_
 refine wk [52,28,27,26,9,8,3,2] rfl ?_
 refine Tr.cn rfl ?_ ?_<;>intro h7 q7
 have hP:WI g l k=true:=by unfold WI;rw [Ah];simp;omega
 refine ao ?_
 refine TO.DT 0 rfl rfl AB (B7 rfl rfl rfl rfl underlying51 Bt G2 z3 G3 F4 (Ay BL Jo)) (fun v2=> ?_)
 refine ao ?_
 refine ac ?_
 exact Fin.C1 (k+1) v2 (⟨Af,by omega⟩) ⟨⟨_,rfl,AG k⟩,⟨_,rfl,BA (by rw [X6 hP,List.map_append];rfl)⟩,kz⟩ (fun _ _ h=>h)
 have hP:WI g l k=false:=by unfold WI;rw [Ah];simp;omega
 refine a2 ?_
 exact Fin.C1 (k+1) v (⟨Af,by omega⟩) ⟨⟨_,rfl,AG k⟩,⟨_,rfl,Pr.le_of_eq (by rw [ux hP])⟩,kz⟩ (fun _ _ h=>h)
 have BK:k=(l).length:=by have:=AJ h5;omega
 subst BK
 refine a2 ?_
 refine Tr.ret (Fin.Ct rfl (Bg.Dc _ _) rfl ?_ rfl ?_)
 · rw [hA];exact Ar _ _
 · exact GO
open Classical in
section
variable {e:Dp} {c:BV} {l:List BX} {r:List BC} {d:List Int}
end
structure IC (n:Nat) (r:List BC):Prop where
 up:∀q∈r,(0≤q.fst∧q.fst<q.thn)∧q.thn<n
 srt:D_ r=true
theorem IC.nil (n:Nat):IC n []:=⟨(fun q h=>by cases h),rfl⟩
theorem OM (r:List BC) (q:BC):Rp r [q]=GJ (r.foldl GJ []) q:=rfl
theorem IC.put {n:Nat} {r:List BC} (h:IC n r) {x y:Int} (h0:0≤x) (h1:x<y) (h2:y<n):IC n (Rp r [⟨x,y⟩]):=by
 refine ⟨fun q hq=> ?_,?_⟩
 ·
  rw [OM,Xe,S0] at hq
  rcases hq with rfl|hq|hq
  · exact ⟨⟨h0,h1⟩,h2⟩
  · cases hq
  · exact h.up q hq
 · rw [OM];exact On (N9 r rfl)
theorem aX (r:List BC) (q:BC):(Rp r [q]).length≤r.length+1:=by
 rw [OM]
 have h1:=Rn (r.foldl GJ []) q
 have h2:=GY r []
 simp at h2;omega
theorem IC.valid {n:Nat} {r:List BC} (h:IC n r) (hn:n≤24):BF n r=0:=nj hn h.up h.srt
theorem u5 {b:Nat} {s:DS} {n:Nat} (hn:n≤24):Bj prog 52 [ptr b 0,int ((n:Nat):Int)] (Cp.ex fun r:List BC=>fact (IC n r∧r.length≤2*n) (reqs r)) (Dh b s) (fun _=>I5 104 b):=by
 refine Bj.of func52 rfl rfl Ao fun M0 w0 S rs M1 w1=> ?_
 have cJ:=s.C7 (n:=2*(n:Int)+1) AA
 refine Tr.seq (Tr.Aj (cm rfl (Ch.nil (Fin.go (Tr.seq (Tr.Aj (cm rfl (Ch.nil (Fin.go (Tr.seq (Tr.seq (Tr.An (tm rfl ?_)))))))))))))
 refine tm rfl ?_
 refine tp rfl (kM rfl (vl rfl) (vl rfl) ?hin) ?_;case hin=>unfold Ni;omega
 refine tp rfl (Ek rfl (vl rfl) (vl rfl) ?hin) ?_;case hin=>unfold Ni;omega
 refine TO.IP 0 rfl rfl AB (Aq rfl rfl AB rfl (CV AA AA) ⟨ke rfl,ke rfl,trivial⟩) (tm rfl (TO.nil (Fin.go (Tr.block ?_))))
 refine Tr.Q3 [(0,_),(1,_)] ⟨ke rfl,ke rfl,trivial⟩ (fun (r:List BC) (k:Int) (s2:DS)=>[(6,int k),(5,reqs r)]) (fun (r:List BC) (k:Int) (s2:DS)=>Hp M0 w0 S (Dh b s2::Al M1 w1::rs)) (fun (r:List BC) (k:Int) (s2:DS)=>0≤k∧IC n r∧(r.length:Int)+k≤2*n) (fun (r:List BC) (k:Int) (s2:DS)=>k.toNat) ([]) (s.val (2*(n:Int)+1)) (_)  (⟨by omega,IC.nil n,by simp;omega⟩) ⟨ke rfl,⟨_,rfl,AQ 2⟩,trivial⟩ (fun _ _ h=>h) ?_
 rintro r k s2  ⟨hk0,hN,hrl⟩
 refine Tr.seq (Tr.seq (Tr.Aj (cm rfl (co rfl (ki rfl rfl rfl rfl) (cm rfl ?_)))))
 refine Ch.cs 16 rfl ?_ ?_<;>intro h1 q1
 have hkp:k>0:=by simpa using h1
 refine LR h1 rfl (cy h1 rfl (ki rfl rfl rfl rfl) (co rfl (Pk rfl rfl h1 rfl) (Ch.nil (Fin.go ?_))))
 refine Tr.cn rfl ?_ ?_<;>intro h2 q2
 have hn1:((n:Nat):Int)>1:=by simpa using h2
 have jj:=s2.C7 (n:=(n:Int)) AA
 have Sg:=s2.Cd.C7 (n:=(n:Int)) AA
 refine Tr.skip (Fin.go (Tr.seq (Tr.block (Tr.seq (Tr.An (tm rfl (tm rfl (TO.IP 0 rfl rfl AB (Aq rfl rfl AB rfl (CV AA AA) ⟨ke rfl,ke rfl,trivial⟩) (tm rfl (tm rfl (TO.IP 0 rfl rfl AB (Aq rfl rfl AB rfl (CV AA AA) ⟨ke rfl,ke rfl,trivial⟩) (tm rfl (tm rfl ?_)))))))))))))
 refine TO.nil (Fin.go (wk6 0 1 5 6 7 8 rfl (Tr.seq (Tr.Aj (cm rfl (cm rfl (co rfl (ki rfl rfl rfl rfl) (Ch.nil (Fin.go ?_)))))))))
 refine Tr.cn rfl ?_ ?_<;>intro h3 q3
 refine Tr.Aj (cm rfl (cm rfl (cm rfl (co rfl (Ak (rows:=[(0,[_]),(1,[_])]) rfl AAt Q8 ⟨⟨rfl,(Vo rfl)⟩,⟨⟨rfl,(Vo rfl)⟩,trivial⟩⟩ rfl) (co rfl (AO (xs:=[.tmp 34]) (rows:=[_]) rfl rfl underlying33 Cw Sj rfl AB ⟨⟨Am,(Va rfl)⟩,trivial⟩ AB) ?_)))))
 refine co rfl (AR rfl (Zy (a:=r) (b:=[⟨s2.val n,s2.Cd.val n⟩]) AA AV) ⟨ke rfl,(Kf rfl),trivial⟩) ?_
 refine cm rfl (Ch.nil (Fin.block (Fin.go (So 0 1 5 6 rfl (Tr.Aj (cm rfl (csu rfl rfl rfl rfl AA (cm rfl (Ch.nil ?_)))))))))
 exact Fin.GV (Rp r [⟨s2.val n,s2.Cd.val n⟩]) (k-1) (_)  (⟨⟨by omega,hN.put AA Hf AA,by have:=aX r ⟨s2.val n,s2.Cd.val n⟩;omega⟩,by omega⟩) ⟨ke rfl,ke rfl,ke rfl,ke rfl,trivial⟩ (fun _ _ h=>h)
 refine Tr.skip (Fin.block (Fin.go (Tr.Aj (cm rfl (csu rfl rfl rfl rfl AA (cm rfl (Ch.nil (Fin.GV (r) (k-1) (_)  (⟨⟨by omega,hN,by omega⟩,by omega⟩) ⟨ke rfl,ke rfl,ke rfl,ke rfl,trivial⟩ (fun _ _ h=>h)))))))))
 have:=h2
 refine Tr.exit (Fin.Ac (Fin.Ac (Fin.A7 (Fin.go (Tr.seq (Tr.Aj (cm rfl (cm rfl (Ch.nil (Fin.go (Tr.ret (Fin.HF 0 _ rfl rfl (Fin.Gb [] rfl (AM.tmp rfl (Lr)) ?_ (fun _ _ _ _=>rfl))))))))))))))
 · exact Ax r (A_ ⟨hN,by omega⟩ (Lr))
 refine cnt h1 rfl (cnt h1 rfl (co rfl (LS rfl rfl h1 rfl) (Ch.nil (Fin.go (Tr.cond rfl (fun h=>nomatch h) (fun _=> ?_))))))
 refine Tr.exit (Fin.Ac (Fin.Ac (Fin.A7 (Fin.go (Tr.seq (Tr.Aj (cm rfl (cm rfl (Ch.nil (Fin.go (Tr.ret (Fin.HF 0 _ rfl rfl (Fin.Gb [] rfl (AM.tmp rfl (Lr)) ?_ (fun _ _ _ _=>rfl))))))))))))))
 · exact Ax r (A_ ⟨hN,by omega⟩ (Lr))
def TG (e:CA) (c:BX):Int:=
 if c.kind=7∨c.kind=9 then 0 else if c.kind=5 then 1 else if c.kind=1∨c.kind=12 then 2
 else if c.kind=3 then (if c.number>e.most then 2 else 3) else if c.kind=4 then (if c.number<e.least then 2 else 3) else if c.kind=11 then (if c.number=1 then 2 else 3) else 3
def SQ (a b:Int) (x:Io):Bool:=(decide (x.client=a)&&decide (x.server=b))||(decide (x.client=b)&&decide (x.server=a))
def Oz (l:List Io) (a b:Int):Bool:=decide (a=b)||l.any (SQ a b)
theorem p_ {l:List Io} {a b:Int} {k:Nat} {x:Io} (hx:l[k]? =some x) (h:SQ a b x=true):Oz l a b=true:=by unfold Oz;rw [List.any_eq_true.2 ⟨x,List.mem_of_getElem? hx,h⟩,Bool.or_true]
theorem u6 {l:List Io} {a b:Int} (h0:a≠b) (h:∀j y,j<l.length→l[j]? =some y→SQ a b y=false):Oz l a b=false:=by
 unfold Oz
 rw [Bool.or_eq_false_iff,decide_eq_false_iff_not,List.any_eq_false]
 refine ⟨h0,fun y hy=> ?_⟩
 obtain ⟨j,hj⟩:=List.mem_iff_getElem?.1 hy
 rw [h j y (BM hj) hj];decide
def X8 (l:List BX) (i:Nat):BX:=l[i]?.getD Ht
def aY (e:Dp) (c:BX):Int:=TG (e.Bv[c.Aa.toNat]?.getD FG) c
def qA (e:Dp) (l:List BX) (i k:Nat):Bool:=Oz e.BW (X8 l i).Aa (X8 l k).Aa&&decide (aY e (X8 l i)<aY e (X8 l k))
def O9 (e:Dp) (l:List BX) (i n:Nat):List BC:=((List.range n).filter (qA e l i)).map fun k:Nat=>⟨(i:Int),(k:Int)⟩
def X9 (e:Dp) (l:List BX) (m:Nat):List BC:=(List.range m).flatMap fun i=>O9 e l i l.length
def u7 (e:Dp) (l:List BX):List BC:=X9 e l l.length
theorem X_ (e:Dp) (l:List BX) (i n:Nat):(O9 e l i n).length≤n:=by unfold O9;rw [List.length_map];exact Nat.le_trans (List.length_filter_le _ _) Qi
theorem UL (e:Dp) (l:List BX) (m:Nat):X9 e l (m+1)=X9 e l m++O9 e l m l.length:=by unfold X9;rw [List.range_succ,List.flatMap_append];simp
theorem SS (e:Dp) (l:List BX):∀m,(X9 e l m).length≤m*l.length
 |0=>by simp [X9]
 |m+1=>by have h1:=SS e l m;have h2:=X_ e l m l.length;rw [UL,List.length_append,Nat.succ_mul];omega
theorem qB {e:Dp} {l:List BX} {i k:Nat} (h:qA e l i k=true):O9 e l i (k+1)=O9 e l i k++[⟨(i:Int),(k:Int)⟩]:=by unfold O9;rw [List.range_succ,List.filter_append,List.map_append];simp [h]
theorem ez {e:Dp} {l:List BX} {i k:Nat} (h:qA e l i k=false):O9 e l i (k+1)=O9 e l i k:=by unfold O9;rw [List.range_succ,List.filter_append,List.map_append];simp [h]
theorem UM {e:CA} {c:BX}  :BG prog 96 [agg (Bf e),agg (Eo c)] (int (TG e c)):=by
 refine fo func96 rfl ⟨rfl,rfl⟩ fun M0 w0=> ?_
 refine a2 ?_
 refine an ?_ ?_<;>intro h1 q1
 refine ac ?_
 refine Tr.cond rfl (fun _=> ?_) (fun h=>nomatch h1.symm.trans h)
 refine a2 ?_
 · exact PN
 refine an ?_ ?_<;>intro h2 q2
 refine a2 ?_
 · exact PN
 refine an ?_ ?_<;>intro h3 q3
 refine a2 ?_
 · exact PN
 refine an ?_ ?_<;>intro h4 q4
 refine ac ?_
 refine Tr.cond rfl (fun _=> ?_) (fun h=>nomatch h4.symm.trans h)
 refine ac ?_
 refine wk [4] rfl ?_
 refine ac ?_
 · exact PN
 · repeat' first|(refine int_eq ?_;unfold TG;(repeat' split)<;>omega)|refine ac ?_|(refine Tr.cn rfl ?_ ?_<;>intro h q)
theorem YA {e:Dp} {a b:Int}  :BG prog 95 [agg (CM e),int a,int b] (bool (Oz e.BW a b)):=by
 refine fo func95 rfl ⟨rfl,rfl⟩ fun M0 w0=>(Tr.HD 0 1 rfl rfl fun K0=> ?_)
 refine ac ?_
 refine an ?_ ?_<;>intro h1 q1
 refine a2 ?_
 · refine bool_eq ?_;symm;unfold Oz;rw [decide_eq_true Bq,Bool.true_or]
 refine a2 ?_
 refine Tr.block (Tr.BH _ (kk [14,13,2,1] rfl) (fun k:Nat=>[(15,int ((k:Nat):Int))]) (fun k:Nat=>k≤(e.BW).length∧(∀j y,j<k→e.BW[j]? =some y→SQ a b y=false)) (fun k:Nat=>(e.BW).length-k) 0 (⟨Nat.zero_le _,fun j y hj=>absurd hj AA⟩) kz ?_)
 rintro k ⟨BU,AZ⟩
 refine ac ?_
 refine Tr.seq ?_
 refine Tr.cn rfl ?_ ?_<;>intro h2 q2
 have Af:k<(e.BW).length:=AH h2
 obtain ⟨x,Ah⟩:=at_ Af
 refine ac ?_
 refine Tr.seq (Tr.block (Tr.seq (Tr.An (tp rfl (AD rfl underlying28 Ew vq vq AA (AX Ah)) (tp rfl (AP rfl Q_ Ew vq rfl rfl) ?_)))))
 refine Tl rfl rfl rfl rfl ZL Wv (fun b1=> ?_)
 refine sf 0 8 ⟨rfl,rfl,rfl⟩ rfl rfl rfl rfl ?_
 refine ao ?_
 · repeat' first|(refine bool_eq ?_;symm;exact p_ Ah (by unfold SQ;simp_all))|(exact Fin.AL (k+1) ⟨⟨Af,Dv (p:=SQ a b) Ah (by unfold SQ;simp_all) AZ⟩,by omega⟩ ⟨⟨_,rfl,AG k⟩,kz⟩)|refine ac ?_|(refine Tr.cn rfl ?_ ?_<;>intro h q)|(refine Ch.cg rfl rfl rfl ?_ ?_<;>intro h q)
 have BK:k=(e.BW).length:=by have:=AJ h2;omega
 subst BK
 refine a3 ?_
 · refine bool_eq ?_;symm;exact u6 Bq AZ
theorem YB {e:Dp} {l:List BX} (hf:e.fits) (he:FQ e=true) (Nc:l.length≤24) (hr:∀c∈l,0≤c.Aa∧c.Aa<(e.Bv.length:Nat)):BG prog 51 [agg (CM e),C9 l] (Dz [reqs (u7 e l),int 0]):=by
 refine fo func51 rfl ⟨rfl,rfl⟩ fun M0 w0=>(Tr.HD 0 0 rfl rfl fun Hw=> ?_)
 refine a2 ?_
 refine co rfl (Cq (D6 hf) rfl rfl) ?_
 refine an ?_ ?_<;>intro h1 q1
 exact absurd h1 (by rw [if_pos he];decide)
 refine ac ?_
 refine an ?_ ?_<;>intro h2 q2
 exfalso;have:=q2;omega
 refine a2 ?_
 refine Tr.block (Tr.BH _ (kk [20,19,2,1] rfl) (fun m:Nat=>[(21,int ((m:Nat):Int))]) (fun m:Nat=>m≤(l).length) (fun m:Nat=>(l).length-m) 0 (Nat.zero_le _) kz ?_)
 rintro m NC
 refine ac ?_
 refine Tr.seq ?_
 refine Tr.cn rfl ?_ ?_<;>intro h3 q3
 have EZ:m<(l).length:=AH h3
 obtain ⟨x,Ee⟩:=at_ EZ
 have hrm:=hr x (List.mem_of_getElem? Ee)
 refine ac ?_
 refine Tr.seq (Tr.block (Tr.seq (Tr.An (tp rfl (AD rfl underlying32 Du vq vq AA (AX Ee)) (tp rfl (AP rfl Hr Du vq rfl rfl) ?_)))))
 refine Tl rfl rfl rfl rfl Pn LD (fun b1=> ?_)
 refine sf 0 7 ⟨rfl,rfl,rfl⟩ rfl rfl rfl rfl ?_
 refine ao ?_
 · repeat' first|(exfalso;have:=hr x (List.mem_of_getElem? Ee);omega)|exact Fin.AL (m+1) ⟨EZ,by omega⟩ ⟨⟨_,rfl,AG m⟩,kz⟩|refine ac ?_|(refine Tr.cn rfl ?_ ?_<;>intro h q)|(refine Ch.cg rfl rfl rfl ?_ ?_<;>intro h q)
 have KI:m=(l).length:=by have:=AJ h3;omega
 refine a3 ?_
 refine Tr.block (Tr.B5 61 2 (Tr.EO _ (kk [38,37,2,1] rfl) (fun i v=>[(39,int ((i:Nat):Int)),(8,Ad v (reqs (X9 e l i)))]) (fun i v=>Hp M0 w0 FO ([Aw 61 2 v])) (fun i:Nat=>i≤(l).length) (fun i:Nat=>(l).length-i) 0 (.slice none 0 0) (Nat.zero_le _) ⟨kq,⟨_,rfl,Bi rfl⟩,trivial⟩ (fun _ _ h=>h) ?_))
 rintro i v XS
 refine ac ?_
 refine Tr.seq ?_
 refine Tr.cn rfl ?_ ?_<;>intro h6 q6
 have Jq:i<(l).length:=AH h6
 obtain ⟨x,LA⟩:=at_ Jq
 have hri:=hr x (List.mem_of_getElem? LA)
 obtain ⟨ex,hex⟩:=at_ (l:=e.Bv) (k:=x.Aa.toNat) AA
 have hln:=SS e l i
 have hl2:i*l.length≤24*24:=Nat.mul_le_mul AA Nc
 refine ac ?_
 refine ao ?_
 refine tp rfl (AD rfl underlying32 Du vq vq AA (AX LA)) (tp rfl (AP rfl Hr Du vq rfl rfl) ?_)
 refine Tl rfl rfl rfl rfl Pn LD (fun b2=> ?_)
 refine tm rfl ?_
 refine sf 0 10 ⟨rfl,rfl,rfl⟩ rfl rfl rfl rfl ?_
 refine ao ?_
 refine wk [39,38,37,10,9,8,2,1] rfl ?_
 refine ac ?_
 refine Tr.block (Tr.EO _ (kk [45,44,39,38,37,10,9,2,1] rfl) (fun k v=>[(46,int ((k:Nat):Int)),(8,Ad v (reqs (X9 e l i++O9 e l i k)))]) (fun k v=>Hp M0 w0 FO ([Aw 61 2 v])) (fun k:Nat=>k≤(l).length) (fun k:Nat=>(l).length-k) 0 v (Nat.zero_le _) ⟨kq,⟨_,rfl,BA (by simp [O9])⟩,trivial⟩ (fun _ _ h=>h) ?_)
 rintro k v BU
 refine ac ?_
 refine Tr.seq ?_
 refine Tr.cn rfl ?_ ?_<;>intro h7 q7
 have Af:k<(l).length:=AH h7
 obtain ⟨y,Ah⟩:=at_ Af
 have hrk:=hr y (List.mem_of_getElem? Ah)
 obtain ⟨ey,hey⟩:=at_ (l:=e.Bv) (k:=y.Aa.toNat) AA
 have WQ:=X_ e l i k
 have hB:qA e l i k=(Oz e.BW x.Aa y.Aa&&decide (TG ex x<TG ey y)):=by unfold qA aY X8;rw [LA,Ah,Option.getD_some,Option.getD_some,hex,hey];rfl
 refine ac ?_
 refine ao ?_
 refine tp rfl (AD rfl underlying32 Du vq vq AA (AX Ah)) (tp rfl (AP rfl Hr Du vq rfl rfl) ?_)
 refine Tl rfl rfl rfl rfl Pn LD (fun b3=> ?_)
 refine tm rfl ?_
 refine sf 0 12 ⟨rfl,rfl,rfl⟩ rfl rfl rfl rfl ?_
 refine ao ?_
 refine wk [46,45,44,39,38,37,12,11,10,9,8,2,1] rfl ?_
 refine ac ?_
 refine co rfl (Jn (YA (e:=e) (a:=x.Aa) (b:=y.Aa)) rfl rfl rfl rfl) ?_
 refine cm rfl ?_
 refine Ch.cs 57 rfl ?_ ?_<;>intro h8 q8
 refine ac ?_
 refine cy h8 rfl (AD rfl underlying27 CE vq vq AA (Bh hex)) ?_
 refine ac ?_
 refine cy h8 rfl (CL (UM (e:=ex) (c:=x)) rfl rfl rfl) ?_
 refine ac ?_
 refine cy h8 rfl (AD rfl underlying27 CE vq vq AA (Bh hey)) ?_
 refine ac ?_
 refine cy h8 rfl (CL (UM (e:=ey) (c:=y)) rfl rfl rfl) ?_
 refine ac ?_
 refine wk [75,46,45,44,39,38,37,11,10,9,8,2,1] rfl ?_
 refine Tr.cn rfl ?_ ?_<;>intro h9 q9
 refine ao ?_
 refine TO.DT 0 rfl rfl AB (B7 rfl rfl rfl rfl underlying33 Cw Sr Sj G3 F4 (Ay BL Jo)) (fun v1=> ?_)
 refine ao ?_
 refine wk [46,45,44,39,38,37,10,9,8,2,1] rfl ?_
 refine ac ?_
 exact Fin.C1 (k+1) v1 (⟨Af,by omega⟩) ⟨⟨_,rfl,AG k⟩,⟨_,rfl,BA (by rw [qB (by rw [hB,h8,h9];rfl),←List.append_assoc];simp;rfl)⟩,kz⟩ (fun _ _ h=>h)
 refine a2 ?_
 exact Fin.C1 (k+1) v (⟨Af,by omega⟩) ⟨⟨_,rfl,AG k⟩,⟨_,rfl,BA (by rw [ez (by rw [hB,h8,h9];rfl)])⟩,kz⟩ (fun _ _ h=>h)
 refine ac ?_
 refine wk [75,46,45,44,39,38,37,11,10,9,8,2,1] rfl ?_
 refine a2 ?_
 exact Fin.C1 (k+1) v (⟨Af,by omega⟩) ⟨⟨_,rfl,AG k⟩,⟨_,rfl,BA (by rw [ez (by rw [hB,h8];rfl)])⟩,kz⟩ (fun _ _ h=>h)
 have BK:k=(l).length:=by have:=AJ h7;omega
 subst BK
 refine a2 ?_
 exact Fin.C1 (i+1) v (⟨Jq,by omega⟩) ⟨⟨_,rfl,AG i⟩,⟨_,rfl,BA (by rw [UL])⟩,kz⟩ (fun _ _ h=>h)
 have O8:i=(l).length:=by have:=AJ h6;omega
 subst O8
 refine a2 ?_
 refine Tr.ret (Fin.Ct rfl (Bg.Dc _ _) rfl ?_ rfl ?_)
 · exact Gt
 · exact Lr
def wR (n:Nat):BV:=⟨[⟨0,300,[0]⟩],List.replicate n 0,[24]⟩
theorem zF {n:Nat} (hn:n≤1000):BG prog 67 [int ((n:Nat):Int)] (MF (wR n)):=by
 refine fo func67 rfl ⟨rfl,rfl⟩ fun M0 w0=>(Tr.seq (Tr.An ?_))
 refine Tl rfl rfl rfl rfl z77 AAv (fun b1=> ?_)
 refine ap ?_
 refine ap ?_
 refine tp rfl (Ak (rows:=[(0,_),(1,[_])]) rfl AA_ RB ⟨⟨rfl,Cs⟩,⟨⟨rfl,⟨_,rfl,Pr.le_trans (Bx _ _) (AY _)⟩⟩,trivial⟩⟩ rfl) ?_
 refine ap ?_
 refine tp rfl (Ij (m:=n) rfl underlying22 Bt G2 z3 rfl AB AB vq vq FI AA) ?_
 refine tp rfl (oI) ?_
 refine tp rfl (Ak (rows:=[(0,[_]),(1,[_]),(2,[_])]) rfl AEv AAv ⟨⟨rfl,⟨_,rfl,Pr.le_trans (Bx _ _) (AY _)⟩⟩,⟨⟨rfl,⟨_,rfl,Pr.le_trans (Pr.le_trans (Bx _ _) (Pr.le_of_eq (show _=slice 1 ((List.replicate n (0:Int)).map fun n=>[int n]) by rw [List.map_replicate];rfl))) (AY _)⟩⟩,⟨⟨rfl,⟨_,rfl,Pr.le_trans (Bx _ _) (AY _)⟩⟩,trivial⟩⟩⟩ rfl) ?_
 refine ap ?_
 refine Tr.ret (Fin.CY rfl (AM.cell 0 rfl rfl Ob Ws rfl Lr) ?_)
 · exact Lr
theorem SU {l:List BX} {r:List BC} {d:List Int} (F0:∀x∈l,x.Cy.small) (hl:l.length≤1000000) (hr:r.length≤1000000) (hd:d.length≤1000000):Nx prog 33 [agg [C9 l,reqs r,ints d]] (fun x=>agg [C9 l,reqs r,is x]) (fun x=>[Bs 3 1 (d.map fun n=>[int n]) x]):=by
 refine Nx.of func33 rfl rfl Ao fun M0 w0 S rs M1 w1=>(Tr.HD 0 0 rfl rfl fun Hw=>(Tr.seq (Tr.An (tp rfl (Bb rfl (Va rfl)) ?_))))
 refine Tl rfl rfl rfl rfl z35 E9 (fun b1=> ?_)
 refine ao ?_
 refine Tr.seq (Tr.pad (Tr.pad (Tr.pad (Tr.rx ?_))))
 refine ax ?_
 refine xo rfl (fun _=>JG rfl underlying33 Cw Sr Sj rfl AB (vl rfl) Jw Cz) ?_
 refine ax ?_
 refine Cx.ef 0 rfl rfl AB (MM rfl rfl AB rfl underlying22 Bt G2 z3 rfl AB AB ⟨_,rfl,Cr 1⟩ (vl rfl) Jw Cz) ?_
 refine Cx.ef 1 rfl rfl AB (eP (d:=12) (s:=11) (p:=fun v=>agg [is (.slice none 0 0),reqs r,Ad v (lens (d.map fun n=>[int n]).length)]) (q:=agg [is (.slice none 0 0),reqs r,lens (d.map fun n=>[int n]).length]) rfl AB (fun _=>BR ⟨Lr,Lr,Ar _ _,trivial⟩) rfl rfl AB (fun v=>V1 rfl rfl AB (fun _=>Ak (rows:=[(1,[_]),(2,[_])]) rfl Lx E9 ⟨⟨rfl,VL.le (vl rfl) (AY _)⟩,⟨⟨rfl,VL.le (vl rfl) (AY _)⟩,trivial⟩⟩ rfl))) (Cx.ef 2 rfl rfl AB (CC rfl rfl AB rfl z35 E9) (Cx.DP 2 rfl rfl (T_ rfl rfl rfl AB rfl rfl (Ae _) CG rfl rfl) ?_))
 refine Cx.nil ⟨by kernel_rfl,?_⟩
 refine BE.Z9 11 rfl (fun v11=> ?_)
 refine BE.Z9 12 rfl (fun v12=> ?_)
 refine BE.Z9 3 rfl (fun v3=> ?_)
 refine BE.V2 0 11 rfl rfl (BE.iH 1 12 11 rfl rfl rfl (BE.iH 2 3 12 rfl rfl rfl (BE.done al5 (Fin.shape 3 (fun b=> .pointer (some ⟨b,0,none⟩)) rfl (fun b9 e9=> ?_)))))
 subst e9
 refine Fin.SB 1 2 rfl rfl (Fin.drop 1 (Fin.go (wk [3,2,1] rfl ?_)))
 refine ac ?_
 refine Tr.block (Tr.HY 1 [Ad (.slice none 0 0) (C9 (l.take 0)),reqs r,Ad v11 (lens (d.map fun n=>[int n]).length)] rfl ⟨Bi rfl,Lr,Lr,trivial⟩ (Tr.B5 86 8 (Tr.EO _ (kk [15,14,3,2] rfl) (fun k u=>[(16,int ((k:Nat):Int))]) (fun k u=>Hp M0 w0 S (Aw 86 8 u::Bs 3 1 (d.map fun n=>[int n]) v11::AF true b9 35 [Ad u (C9 (l.take k)),reqs r,Ad v11 (lens (d.map fun n=>[int n]).length)]::AF true b1 35 (([.slice none 0 0,.slice none 0 0,.slice none 0 0]:List Value).map is)::Al M1 w1::rs)) (fun k:Nat=>k≤(l).length) (fun k:Nat=>(l).length-k) 0 (.slice none 0 0) (Nat.zero_le _) kz (fun _ _ h=>h) ?_)))
 rintro k u BU
 refine ac ?_
 refine Tr.seq ?_
 refine Tr.cn rfl ?_ ?_<;>intro h1 q1
 have Af:k<(l).length:=AH h1
 obtain ⟨x,Ah⟩:=at_ Af
 refine ac ?_
 refine Tr.seq (Tr.block (Tr.seq (Tr.An (tp rfl (AD rfl underlying32 Du (vl rfl) (vl rfl) AA (AX Ah)) (tp rfl (AP rfl Hr Du (vl rfl) rfl rfl) ?_)))))
 refine Tl rfl rfl rfl rfl Pn LD (fun b10=> ?_)
 refine sf 0 5 ⟨rfl,rfl,rfl⟩ rfl rfl rfl rfl ?_
 refine ao ?_
 refine Tr.pad (Tr.rx ?_)
 refine ax ?_
 refine xo rfl (fun _=>Cq (aU (c:=x) (F0 x (List.mem_of_getElem? Ah))) rfl rfl) ?_
 refine xo rfl (fun _=>AO (xs:=[.tmp 23]) (rows:=[_]) rfl rfl underlying32 Du Pn rfl AB ⟨⟨Am,(Va rfl)⟩,trivial⟩ AB) ?_
 refine Cx.ef 1 rfl rfl AB (B7 rfl rfl rfl rfl underlying32 Du ZJ Pn (Kb rfl) (Kf rfl) (Ay BL (Ka rfl))) ?_
 refine xo rfl (fun _=>AW rfl Ly (vl rfl)) (Cx.DP 3 rfl rfl (GD rfl rfl rfl (vl rfl) rfl AAq Ao) ?_)
 refine Cx.nil ⟨by kernel_rfl,?_⟩
 refine BE.Q5 1 3 25 rfl rfl AB rfl (fun v1=> ?_)
 refine BE.done al6 ?_
 refine ac ?_
 refine Tr.drop 0 (wk [16,15,14,3,2] rfl ?_)
 refine ac ?_
 refine Fin.HY 2 [Ad v1 (C9 (l.take (k+1))),reqs r,Ad v11 (lens (d.map fun n=>[int n]).length)] rfl ⟨BA bq,Lr,Lr,trivial⟩ ?_
 exact Fin.C1 (k+1) v1 (⟨Af,by omega⟩) ⟨⟨_,rfl,AG k⟩,kz⟩ (fun _ _ h=>h)
 have BK:k=(l).length:=by have:=AJ h1;omega
 subst BK
 rw [List.take_length]
 refine ac ?_
 refine ao ?_
 refine TO.AK 3 rfl rfl rfl (vl rfl) (Va rfl) rfl CG rfl rfl ?_
 refine ao ?_
 refine Tr.ret (Fin.drop 0 (Fin.drop 1 (Fin.L3 (Fin.xj v11 [_] rfl (AM.cell 0 rfl rfl Cn CG rfl Lr) ?_ (List.Perm.refl _)))))
 · exact BR ⟨Ar _ _,Lr,EA _ _,trivial⟩
theorem i9 {n:Int} {l:List BC} {s:List Int} (hl:l.length≤1000000):BG prog 279 [int n,reqs l,ints s] (Cp.ex fun z:List BC×Int=>fact (z.1.length≤1000) (Dz [reqs z.1,int z.2])):=by
 refine fo func279 rfl ⟨rfl,rfl⟩ fun M0 w0=> ?_
 refine a2 ?_
 refine co rfl (CL (HV hl) rfl rfl rfl) ?_
 refine ac ?_
 refine an ?_ ?_<;>intro h1 q1
 refine ac ?_
 refine Tr.ret (Fin.AE (Fin.BT rfl (AM.tmp rfl Lr) (AM.tmp rfl Lr) ?_))
 · exact Qf
 have hv:BF n l=0:=by simpa using h1
 obtain ⟨N,rfl⟩:∃N:Nat,n=(N:Int):=⟨n.toNat,by have:=(DF hv).1;omega⟩
 have Nc:=(DF hv).1
 have ia:∀r∈l,(0≤r.fst∧r.fst<(N:Nat))∧0≤r.thn∧r.thn<(N:Nat):=fun r hr=>by
  have h_:=(DF hv).2.1 r hr
  unfold FU at h_;rw [decide_eq_false_iff_not] at h_;omega
 refine a2 ?_
 refine co rfl (CL (MC (l:=s) (n:=((N:Nat):Int))) rfl rfl rfl) ?_
 refine an ?_ ?_<;>intro h2 q2
 refine ac ?_
 refine wk [7,6] rfl (Tr.ret (Fin.AE (Fin.BT rfl (AM.tmp rfl Lr) (AM.tmp rfl Lr) ?_)))
 · exact Qf
 have hsb:DH ((N:Nat):Int) s=true:=by simpa using h2
 have hsn:=dZ hsb
 refine a2 ?_
 refine co rfl (CL (UG (n:=N) (l:=l) AA hl ia) rfl rfl rfl) ?_
 refine ac ?_
 refine wk [9,2] rfl ?_
 refine a2 ?_
 refine Tr.block (Tr.B5 61 2 (Tr.DE _ (kk [29,28,9,2] rfl) (fun (o:List BC) (i:Nat) u=>[(30,int ((i:Nat):Int)),(10,Ad u (reqs o))]) (fun (o:List BC) (i:Nat) u=>Hp M0 w0 FO ([Aw 61 2 u])) (fun (o:List BC) (i:Nat)=>i≤s.length∧o.length≤24*i) (fun (o:List BC) (i:Nat)=>s.length-i) ([]) (0) (.slice none 0 0) (⟨Nat.zero_le _,by simp⟩) ⟨kq,⟨_,rfl,Bi rfl⟩,trivial⟩ (fun _ _ h=>h) ?_))
 rintro o i u ⟨hi0,hol⟩
 refine ac ?_
 refine Tr.seq ?_
 refine Tr.cn rfl ?_ ?_<;>intro h3 q3
 have hi:i<s.length:=AH h3
 obtain ⟨x,hx⟩:=at_ hi
 have hxn:=P_ hsb hx
 refine a2 ?_
 refine co rfl (AD rfl underlying51 Bt vq vq AA (AX hx)) ?_
 refine a2 ?_
 refine wk [37,36,35,30,29,28,12,11,10,9,2] rfl (Tr.block (Tr.DE _ (kk [36,35,30,29,28,12,11,9,2] rfl) (fun (p:List BC) (k:Nat) u2=>[(37,int ((k:Nat):Int)),(10,Ad u2 (reqs p))]) (fun (p:List BC) (k:Nat) u2=>Hp M0 w0 FO ([Aw 61 2 u2])) (fun (p:List BC) (k:Nat)=>k≤s.length∧p.length≤24*i+k) (fun (p:List BC) (k:Nat)=>s.length-k) (o) (0) u (⟨Nat.zero_le _,by omega⟩) ⟨kq,⟨_,rfl,BA rfl⟩,trivial⟩ (fun _ _ h=>h) ?_))
 rintro p k u2 ⟨hk0,hpl⟩
 refine ac ?_
 refine Tr.seq ?_
 refine Tr.cn rfl ?_ ?_<;>intro h4 q4
 have hk:k<s.length:=AH h4
 obtain ⟨y,hy⟩:=at_ hk
 have hyn:=P_ hsb hy
 refine a2 ?_
 refine co rfl (AD rfl underlying51 Bt vq vq AA (AX hy)) ?_
 refine ac ?_
 refine wk [37,36,35,30,29,28,14,13,12,11,10,9,2] rfl ?_
 refine ac ?_
 refine co rfl (AD rfl underlying158 Oc vq vq AA (Bh (K8 _ (a:=x.toNat) AA))) ?_
 refine ac ?_
 refine co rfl (AD rfl underlying160 Ta vq vq AA (Bh (K9 _ (b:=y.toNat) AA))) ?_
 refine ac ?_
 refine wk [48,37,36,35,30,29,28,13,12,11,10,9,2] rfl ?_
 refine Tr.cn rfl ?_ ?_<;>intro h5 q5
 refine ap ?_
 refine TO.DT 0 rfl rfl AB (B7 rfl rfl rfl rfl underlying33 Cw Sr Sj G3 F4 (Ay BL Jo)) (fun v1=> ?_)
 refine ap ?_
 refine wk [37,36,35,30,29,28,12,11,10,9,2] rfl ?_
 refine ac ?_
 exact Fin.Bl (p++[⟨((i:Nat):Int),((k:Nat):Int)⟩]) (k+1) v1 (⟨⟨by omega,by simp;omega⟩,by omega⟩) ⟨⟨_,rfl,AG k⟩,⟨_,rfl,BA DR⟩,kz⟩ (fun _ _ h=>h)
 refine a2 ?_
 exact Fin.Bl (p) (k+1) u2 (⟨⟨by omega,by omega⟩,by omega⟩) ⟨⟨_,rfl,AG k⟩,⟨_,rfl,BA rfl⟩,kz⟩ (fun _ _ h=>h)
 have bB:=AJ h4
 refine a2 ?_
 exact Fin.Bl (p) (i+1) u2 (⟨⟨by omega,by omega⟩,by omega⟩) ⟨⟨_,rfl,AG i⟩,⟨_,rfl,BA rfl⟩,kz⟩ (fun _ _ h=>h)
 have hie:=AJ h3
 refine a2 ?_
 refine Tr.ret (Fin.BT rfl (AM.tmp rfl Lr) (AM.tmp rfl Lr) ?_)
 · exact Yu
theorem SV {c:BV} {l:List BX} (ho:c.own=0):BG prog 65 [MF c,C9 l] (Dz [ints (SE c l),int (Ec c l)]):=by
 refine fo func65 rfl ⟨rfl,rfl⟩ fun M0 w0=>(Tr.Cm 1 rfl fun Fo=>(Tr.HD 0 1 rfl rfl fun K0=> ?_))
 refine a2 ?_
 refine co rfl (CL (KL (c:=c) (m:=((c.JI.length:Nat):Int))) rfl rfl rfl) ?_
 refine ac ?_
 refine an ?_ ?_<;>intro h1 q1
 exact absurd ho (by unfold BV.own;simpa using h1)
 refine a2 ?_
 refine wk [20,2,1] rfl ?_
 refine Tr.cn rfl ?_ ?_<;>intro h2 q2
 refine ac ?_
 refine Tr.ret (Fin.AE (Fin.Ct rfl (Bg.Dc _ _) rfl ?_ rfl ?_))
 · rw [WV (eX AA) AB];exact AQ 1
 · refine int_eq ?_;exact (eX AA).symm
 refine a3 ?_
 refine Tr.block (Tr.B5 3 1 (Tr.EO _ (kk [22,21,2] rfl) (fun k v=>[(23,int ((k:Nat):Int)),(7,Ad v (ints ((l.take k).map (SD c))))]) (fun k v=>Hp M0 w0 FO ([Aw 3 1 v])) (fun k:Nat=>k≤(l).length∧(∀j y,j<k→l[j]? =some y→O3 c y=false)) (fun k:Nat=>(l).length-k) 0 (.slice none 0 0) (⟨Nat.zero_le _,fun j y hj=>absurd hj AA⟩) ⟨kq,⟨_,rfl,Bi rfl⟩,trivial⟩ (fun _ _ h=>h) ?_))
 rintro k v ⟨BU,AZ⟩
 refine ac ?_
 refine Tr.seq ?_
 refine Tr.cn rfl ?_ ?_<;>intro h3 q3
 have Af:k<(l).length:=AH h3
 obtain ⟨x,Ah⟩:=at_ Af
 refine ac ?_
 refine Tr.seq (Tr.block (Tr.seq (Tr.An (tp rfl (AD rfl underlying32 Du vq vq AA (AX Ah)) (tp rfl (AP rfl Hr Du vq rfl rfl) ?_)))))
 refine Tl rfl rfl rfl rfl Pn LD (fun b1=> ?_)
 refine sf 0 9 ⟨rfl,rfl,rfl⟩ rfl rfl rfl rfl ?_
 refine ao ?_
 refine ag ?_ ?_<;>intro h4 q4
 refine ac ?_
 refine wk [37,23,22,21,9,7,2] rfl ?_
 refine ac ?_
 refine Tr.ret (Fin.AE (Fin.AU (Fin.AE (Fin.AE (Fin.AU (Fin.AE (Fin.Ct rfl (Bg.Dc _ _) rfl ?_ rfl ?_)))))))
 · exact bM
 · exact bU
 refine ac ?_
 refine wk [37,23,22,21,9,7,2] rfl ?_
 refine Tr.cn rfl ?_ ?_<;>intro h5 q5
 refine ac ?_
 refine Tr.ret (Fin.AE (Fin.AU (Fin.AE (Fin.AE (Fin.AU (Fin.AE (Fin.Ct rfl (Bg.Dc _ _) rfl ?_ rfl ?_)))))))
 · exact bM
 · exact bU
 have htm:=wO (c:=c) (x:=x) AA
 refine ac ?_
 refine ao ?_
 refine tp rfl (AD rfl underlying22 Bt vq vq AA (Bh htm)) ?_
 refine ao ?_
 refine TO.DT 0 rfl rfl AB (B7 rfl rfl rfl rfl underlying22 Bt G2 z3 G3 F4 (Ay BL Jo)) (fun v1=> ?_)
 refine ao ?_
 refine wk [23,22,21,7,2] rfl ?_
 refine ac ?_
 exact Fin.C1 (k+1) v1 (⟨⟨Af,Dv (p:=O3 c) Ah qw AZ⟩,by omega⟩) ⟨⟨_,rfl,AG k⟩,⟨_,rfl,BA (pI Ah)⟩,kz⟩ (fun _ _ h=>h)
 have BK:k=(l).length:=by have:=AJ h3;omega
 subst BK
 refine a2 ?_
 refine Tr.ret (Fin.Ct rfl (Bg.Dc _ _) rfl ?_ rfl ?_)
 · rw [Xp (eY AA AZ)];exact Pr.le_trans (Ar _ _) (Pr.le_of_eq PZ)
 · refine int_eq ?_;exact (eY AA AZ).symm
structure MQ (m:Nat) (l:List BX) (r:List BC) (d:List Int):Prop where
 l24:l.length≤24
 dl:d.length=l.length
 v:BF (l.length:Nat) r=0
 dd:∀j y c,j<l.length→d[j]? =some y→l[j]? =some c→(0≤y∧y≤40000)∧0≤c.Aa∧c.Aa<(m:Int)
abbrev Jf (l:List BX) (r:List BC) (d:List Int):Pr:=agg [C9 l,reqs r,ints d]
theorem qC {e:Dp} {l:List BX} {r:List BC} {d:List Int} (hrl:r.length≤1000000):BG prog 250 [agg (CM e),Jf l r d] (Cp.ex fun z:Bool=>fact (z=true→MQ e.Bv.length l r d) (bool z)):=by
 refine fo func250 rfl ⟨rfl,rfl⟩ fun M0 w0=>(Tr.HD 1 0 rfl rfl fun AEX=>(Tr.HD 1 2 rfl rfl fun AEY=>(Tr.HD 0 0 rfl rfl fun Hw=> ?_)))
 refine a2 ?_
 refine ag ?_ ?_<;>intro h1 q1
 refine ac ?_
 refine wk [26,3,2] rfl ?_
 refine a2 ?_
 · exact Uo
 refine ag ?_ ?_<;>intro h2 q2
 refine ac ?_
 refine wk [26,3,2] rfl ?_
 refine a2 ?_
 · exact Uo
 refine ac ?_
 refine cy h2 rfl (CL (HV (n:=((l.length:Nat):Int)) (l:=r) hrl) rfl rfl rfl) ?_
 refine ac ?_
 refine wk [26,3,2] rfl ?_
 refine Tr.cn rfl ?_ ?_<;>intro h3 q3
 refine a2 ?_
 · exact Uo
 have Nc:l.length≤24:=by omega
 have OI:d.length=l.length:=by omega
 have hv:BF ((l.length:Nat):Int) r=0:=by omega
 refine a2 ?_
 refine Tr.block (Tr.BH _ (kk [29,28,3,2] rfl) (fun k:Nat=>[(30,int ((k:Nat):Int))]) (fun k:Nat=>k≤(l).length∧(∀j y c,j<k→d[j]? =some y→l[j]? =some c→(0≤y∧y≤40000)∧0≤c.Aa∧c.Aa<((e.Bv.length:Nat):Int))) (fun k:Nat=>(l).length-k) 0 (⟨Nat.zero_le _,fun j y c hj=>absurd hj AA⟩) kz ?_)
 rintro k ⟨BU,AZ⟩
 refine ac ?_
 refine Tr.seq ?_
 refine Tr.cn rfl ?_ ?_<;>intro h4 q4
 have Af:k<(l).length:=AH h4
 obtain ⟨x,Ah⟩:=at_ Af
 obtain ⟨y,hy⟩:=at_ (l:=d) (k:=k) AA
 refine ac ?_
 refine ao ?_
 refine tp rfl (AD rfl underlying32 Du vq vq AA (AX Ah)) (tp rfl (AP rfl Hr Du vq rfl rfl) ?_)
 refine Tl rfl rfl rfl rfl Pn LD (fun b1=> ?_)
 refine tm rfl ?_
 refine sf 0 7 ⟨rfl,rfl,rfl⟩ rfl rfl rfl rfl ?_
 refine ao ?_
 · repeat' first|exact Ax false (A_ (fun h_=>by cases h_) Lr)|(exact Fin.AL (k+1) ⟨⟨Af,fun j z c hj hz jm=>by rcases Nat.lt_or_eq_of_le (Nat.le_of_lt_succ hj) with h_|h_;exact AZ j z c h_ hz jm;(subst h_;rw [hy] at hz;cases hz;rw [Ah] at jm;cases jm;omega)⟩,by omega⟩ ⟨⟨_,rfl,AG k⟩,kz⟩)|refine cy h rfl (AD rfl underlying22 Bt vq vq AA (AX hy)) ?_|refine ac ?_|(refine Tr.cn rfl ?_ ?_<;>intro h q)|(refine Ch.cg rfl rfl rfl ?_ ?_<;>intro h q)
 have BK:k=(l).length:=by have:=AJ h4;omega
 subst BK
 refine a3 ?_
 · exact Ax true (A_ (fun _=>⟨Nc,OI,hv,AZ⟩) Lr)
theorem qD {n:Nat} (hn:n≤1000):BG prog 127 [int ((n:Nat):Int)] (Cp.ex fun z:List Int=>fact (z.length≤n) (ints z)):=by
 refine fo func127 rfl ⟨rfl,rfl⟩ fun M0 w0=> ?_
 refine a3 ?_
 refine Tr.block (Tr.B5 3 1 (Tr.DE _ (kk [5] rfl) (fun (o:List Int) (k:Nat) u=>[(6,int ((k:Nat):Int)),(3,Ad u (ints o))]) (fun (o:List Int) (k:Nat) u=>Hp M0 w0 FO ([Aw 3 1 u])) (fun (o:List Int) (k:Nat)=>k≤n∧o.length=k) (fun (o:List Int) (k:Nat)=>n-k) ([]) (0) (.slice none 0 0) (⟨Nat.zero_le _,rfl⟩) ⟨kq,⟨_,rfl,Bi rfl⟩,trivial⟩ (fun _ _ h=>h) ?_))
 rintro o k u ⟨hk0,hol⟩
 refine ac ?_
 refine Tr.seq ?_
 refine Tr.cn rfl ?_ ?_<;>intro h1 q1
 have hk:k<n:=AH h1
 refine a2 ?_
 refine ap ?_
 refine TO.DT 0 rfl rfl AB (B7 rfl rfl rfl rfl underlying51 Bt G2 z3 G3 F4 (Ay BL Jo)) (fun v1=> ?_)
 refine ap ?_
 refine ac ?_
 exact Fin.Bl (o++[((k:Nat):Int)]) (k+1) v1 (⟨⟨by omega,by simp;omega⟩,by omega⟩) ⟨⟨_,rfl,AG k⟩,⟨_,rfl,BA DR⟩,kz⟩ (fun _ _ h=>h)
 have bB:=AJ h1
 refine a3 ?_
 · exact PO
theorem MR {e:Dp} {l:List BX} {r:List BC} {d s:List Int} {n:Nat} (hz:e.sz n) (hn:n≤800000) (hc:∀c∈l,c.Cy.fits∧c.Cy.small):BG prog 253 [agg (CM e),Jf l r d,ints s] (Dz [agg (CM (Vt e l s).1),bool (decide ((Vt e l s).2=0))]):=by
 refine fo func253 rfl ⟨rfl,rfl⟩ fun M0 w0=>(Tr.seq (Tr.An (tp rfl (Bb rfl Cs) (tp rfl (Bb rfl Cs) ?_))))
 refine Tl rfl rfl rfl rfl z31 IW (fun b1=> ?_)
 refine ao ?_
 refine ao ?_
 refine tp rfl (Jn (SP hz hn hc) rfl rfl rfl rfl) ?_
 refine ao ?_
 refine Tl rfl rfl rfl rfl z31 IW (fun b2=> ?_)
 refine sf 0 8 ⟨rfl,rfl,rfl⟩ rfl rfl rfl rfl ?_
 refine ao ?_
 refine wk [9,8,6] rfl ?_
 refine ao ?_
 refine TO.AK 0 rfl rfl rfl vq Cs rfl De rfl rfl ?_
 refine ao ?_
 refine Tr.ret (Fin.BT rfl (AM.cell 0 rfl rfl Dg De rfl Lr) (AM.tmp rfl Lr) ?_)
 · exact Lr
theorem S8 {e:Dp} {c:BV} {l:List BX} {r:List BC} {fr:Int} (hf:e.fits) (F0:∀x∈l,x.Cy.small) (hrl:r.length≤1000000):BG prog 54 [agg (CM e),MF c,C9 l,reqs r,int fr] (Dz [agg (pK e c l r fr),int (KW e c l r fr)]):=by
 refine fo func54 rfl ⟨rfl,rfl⟩ fun M0 w0=>(Tr.Cm 3 rfl fun AG7=>(Tr.HD 0 0 rfl rfl fun Hw=>(Tr.seq (Tr.An (tp rfl (Bb rfl Cs) (tp rfl (Bb rfl Cs) ?_))))))
 refine Tl rfl rfl rfl rfl z35 E9 (fun b1=> ?_)
 refine ao ?_
 refine ac ?_
 refine co rfl (Cq (D6 hf) rfl rfl) ?_
 refine an ?_ ?_<;>intro h1 q1
 have VT:FQ e=false:=by cases h_:FQ e with|false=>rfl|true=>exact absurd h1 Md
 have YW:KV e c l=31:=by unfold KV;rw [if_pos VT]
 have hb:KV e c l≠0:=by rw [YW];decide
 refine ao ?_
 refine TO.AK 0 rfl rfl rfl vq Cs rfl CG rfl rfl ?_
 refine ao ?_
 refine Tr.ret (Fin.AE (Fin.BT rfl (AM.cell 0 rfl rfl Cn CG rfl Lr) (AM.tmp rfl Lr) ?_))
 refine Az ⟨?_,?_,trivial⟩
 · exact SG (UD hb) hb
 · refine int_eq ?_;rw [UD hb,YW]
 have VT:¬FQ e=false:=by intro h_;rw [h_] at h1;exact absurd h1 AB
 refine a2 ?_
 refine co rfl (CL (KL (c:=c) (m:=((e.Bv.length:Nat):Int))) rfl rfl rfl) ?_
 refine ac ?_
 refine wk [12,10,6,4,3,2] rfl ?_
 refine an ?_ ?_<;>intro h2 q2
 have hck:c.check ((e.Bv.length:Nat):Int)≠0:=by simpa using h2
 have YW:KV e c l=c.check ((e.Bv.length:Nat):Int):=by unfold KV;rw [if_neg VT,if_pos hck]
 have hb:KV e c l≠0:=by rw [YW];exact hck
 refine ao ?_
 refine TO.AK 0 rfl rfl rfl vq Cs rfl CG rfl rfl ?_
 refine ao ?_
 refine Tr.ret (Fin.AE (Fin.BT rfl (AM.cell 0 rfl rfl Cn CG rfl Lr) (AM.tmp rfl Lr) ?_))
 refine Az ⟨?_,?_,trivial⟩
 · exact SG (UD hb) hb
 · refine int_eq ?_;rw [UD hb,YW]
 have hck:c.check ((e.Bv.length:Nat):Int)=0:=by simpa using h2
 have YW:KV e c l=Ec c l:=by unfold KV;rw [if_neg VT,if_neg (not_not_intro hck)]
 obtain ⟨how,htl,hth⟩:=UC hck
 refine a2 ?_
 refine co rfl (CL (SV (c:=c) (l:=l) how) rfl rfl rfl) ?_
 refine ac ?_
 refine wk [14,13,10,6,4,3,2] rfl ?_
 refine an ?_ ?_<;>intro h3 q3
 have hte:Ec c l≠0:=by simpa using h3
 have hb:KV e c l≠0:=by rw [YW];exact hte
 refine ao ?_
 refine TO.AK 0 rfl rfl rfl vq Cs rfl CG rfl rfl ?_
 refine ao ?_
 refine Tr.ret (Fin.AE (Fin.BT rfl (AM.cell 0 rfl rfl Cn CG rfl Lr) (AM.tmp rfl Lr) ?_))
 refine Az ⟨?_,?_,trivial⟩
 · exact SG (UD hb) hb
 · refine int_eq ?_;rw [UD hb,YW]
 have hte:Ec c l=0:=by simpa using h3
 have hb:KV e c l=0:=by rw [YW];exact hte
 have Nc:=(SF hte).1
 have N5:=ug hte hth
 obtain ⟨T,hT⟩:∃T,l.map (SD c)=T:=⟨_,rfl⟩
 have hTl:T.length=l.length:=by rw [←hT,List.length_map]
 rw [hT] at N5
 refine Tr.re 13 rfl (Pr.le_of_eq (by rw [Xp hte,hT])) ?_
 refine a2 ?_
 refine co rfl (CL (aS (n:=((l.length:Nat):Int)) (l:=r) hrl) rfl rfl rfl) ?_
 refine ac ?_
 refine wk [15,14,13,10,6,4,3,2] rfl ?_
 refine an ?_ ?_<;>intro h4 q4
 have hv:BF (l.length:Nat) r≠0:=by simpa using h4
 refine ao ?_
 refine TO.AK 0 rfl rfl rfl vq Cs rfl CG rfl rfl ?_
 refine ao ?_
 refine Tr.ret (Fin.AE (Fin.BT rfl (AM.cell 0 rfl rfl Cn CG rfl Lr) (AM.tmp rfl Lr) ?_))
 refine Az ⟨?_,?_,trivial⟩
 · exact SG (wP hb hv) hv
 · refine int_eq ?_;exact (wP hb hv).symm
 have hv:BF (l.length:Nat) r=0:=by simpa using h4
 obtain ⟨row,hrow⟩:∃row,(Da l.length r l.length).1=row:=⟨_,rfl⟩
 obtain ⟨ia,AGW⟩:=JL hv l.length AV
 rw [Int.toNat_natCast,hrow] at ia AGW
 have hrq:∀q∈r,(0≤q.fst∧q.fst<l.length)∧0≤q.thn∧q.fst≠q.thn:=fun q hq=>by
  have h_:=(DF hv).2.1 q hq
  unfold FU at h_;rw [decide_eq_false_iff_not] at h_;omega
 refine Tr.re 15 rfl (Pr.le_of_eq (by rw [if_pos hv,Int.toNat_natCast,hrow])) ?_
 refine ac ?_
 refine ao ?_
 refine tp rfl (Ij (m:=l.length) rfl underlying22 Bt G2 z3 rfl AB AB vq vq FI AA) ?_
 refine tp rfl (Ak (rows:=[(0,[_]),(1,[_]),(2,[_])]) rfl Lx E9 ⟨⟨rfl,My⟩,⟨⟨rfl,My⟩,⟨⟨rfl,⟨_,rfl,Pr.le_trans (Pr.le_trans (Bx _ _) (Pr.le_of_eq (show _=slice 1 ((List.replicate l.length (0:Int)).map fun n=>[int n]) by rw [List.map_replicate];rfl))) (AY _)⟩⟩,trivial⟩⟩⟩ rfl) ?_
 refine TO.lY rfl rfl AB rfl (SU (d:=List.replicate l.length 0) F0 AA hrl MY) kz (fun v1=> ?_)
 refine Tl rfl rfl rfl rfl z35 E9 (fun b2=> ?_)
 refine TO.AK 0 rfl rfl rfl vq Cs rfl CG rfl rfl ?_
 refine ao ?_
 refine wk [16,15,13,10,6,4,3] rfl ?_
 refine a2 ?_
 refine Tr.block (Tr.B5 3 1 (Tr.B5 3 1 (Tr.ku _ (kk [69,68,16,13,10,6,4,3] rfl) (fun (dy:List Int) (b:List Int) (y:List Int) (k:Nat) u u2=>[(70,int ((k:Nat):Int)),(17,Ad u (ints b)),(18,Ad u2 (ints y))]) (fun (dy:List Int) (b:List Int) (y:List Int) (k:Nat) u u2=>Hp M0 w0 FO ([Aw 3 1 u2,Aw 3 1 u,AF true b2 35 [C9 l,reqs r,is v1],Bs 3 1 (dy.map fun n=>[int n]) v1,AF true b1 35 (([.slice none 0 0,.slice none 0 0,.slice none 0 0]:List Value).map is)])) (fun (dy:List Int) (b:List Int) (y:List Int) (k:Nat)=>k≤row.length∧N_ c r T fr l.length (row.take k)=some (dy,b,y)) (fun (dy:List Int) (b:List Int) (y:List Int) (k:Nat)=>row.length-k) (List.replicate l.length 0) ([]) ([]) (0) (.slice none 0 0) (.slice none 0 0) (⟨Nat.zero_le _,rfl⟩) ⟨kq,⟨_,rfl,Bi rfl⟩,⟨_,rfl,Bi rfl⟩,trivial⟩ (fun _ _ h=>h) ?_)))
 rintro dy b y k u u2 ⟨hk0,hsc⟩
 have hS:=S1.run (k:=k) ia (fun q hq=>by have:=hrq q hq;omega) Nc how (fun i h1 h2=>N5 _ (List.mem_of_getElem? (Dy (l:=T) (i:=i.toNat) AA))) hk0 hsc
 have OI:=hS.len
 have W0:b.length=k:=by rw [hS.hb,List.length_map,List.length_take];omega
 have hyl:y.length=k:=by rw [hS.hd,List.length_map,List.length_take];omega
 refine ac ?_
 refine Tr.seq ?_
 refine Tr.cn rfl ?_ ?_<;>intro h5 q5
 have hk:k<row.length:=AH h5
 obtain ⟨i,hi⟩:=at_ hk
 have nq:=ia.QD i (List.mem_of_getElem? hi)
 have hti:T[i.toNat]? =some (YX T i):=Dy AA
 refine ac ?_
 refine Tr.seq (Tr.block (Tr.seq (Tr.Aj (co rfl (AD rfl underlying51 Bt vq vq AA (AX hi)) ?_))))
 refine ac ?_
 refine wk [70,69,68,20,18,17,16,13,10,6,4,3] rfl ?_
 refine ac ?_
 refine wk [70,69,68,21,20,18,17,16,13,10,6,4,3] rfl ?_
 refine ac ?_
 refine wk [77,76,75,70,69,68,21,20,18,17,16,13,10,6,4,3] rfl (Tr.block (Tr.BH _ (kk [76,75,70,69,68,20,18,17,16,13,10,6,4,3] rfl) (fun m:Nat=>[(77,int ((m:Nat):Int)),(21,int (F5 (r.take m) dy i fr))]) (fun m:Nat=>m≤(r).length) (fun m:Nat=>(r).length-m) 0 (Nat.zero_le _) ⟨kq,kz⟩ ?_))
 rintro m NC
 refine ac ?_
 refine wk [78,77,76,75,70,69,68,21,20,18,17,16,13,10,6,4,3] rfl (Tr.seq ?_)
 refine Tr.cn rfl ?_ ?_<;>intro h6 q6
 have EZ:m<(r).length:=AH h6
 obtain ⟨q,Ee⟩:=at_ EZ
 refine ac ?_
 refine wk [77,76,75,70,69,68,21,20,18,17,16,13,10,6,4,3] rfl (Tr.seq (Tr.block (Tr.seq (Tr.An (tp rfl (AD rfl underlying33 Cw vq vq AA (AX Ee)) (tp rfl (AP rfl Fe Cw vq rfl rfl) ?_))))))
 refine Tl rfl rfl rfl rfl Sj Q8 (fun b3=> ?_)
 refine sf 0 23 ⟨rfl,rfl,rfl⟩ rfl rfl rfl rfl ?_
 refine ao ?_
 refine wk [77,76,75,70,69,68,23,21,20,18,17,16,13,10,6,4,3] rfl ?_
 refine ac ?_
 refine wk [84,77,76,75,70,69,68,23,21,20,18,17,16,13,10,6,4,3] rfl ?_
 refine Tr.cn rfl ?_ ?_<;>intro h7 q7
 have hqr:=hrq q (List.mem_of_getElem? Ee)
 have hz:=Dy (l:=dy) (i:=q.fst.toNat) (by have:=hS.len;omega)
 have hzb:=hS.bnd _ (List.mem_of_getElem? hz)
 refine ac ?_
 refine co rfl (Cg 3 rfl (HK rfl underlying22 Bt vq vq AA Cz)) ?_
 refine co rfl (Cg 3 rfl (Rt rfl C8 vq (BD fun _=>rfl) (by rw [List.getElem?_map,hz];rfl) rfl)) ?_
 refine MV rfl rfl rfl rfl AA (co rfl (Jz rfl vq vq) ?_)
 refine ac ?_
 refine wk [77,76,75,70,69,68,21,20,18,17,16,13,10,6,4,3] rfl ?_
 refine ac ?_
 exact Fin.AL (m+1) ⟨EZ,by omega⟩ ⟨⟨_,rfl,AG m⟩,⟨_,rfl,int_eq (by rw [SH Ee,if_pos (by simpa using h7)])⟩,kz⟩
 refine ac ?_
 refine wk [77,76,75,70,69,68,21,20,18,17,16,13,10,6,4,3] rfl ?_
 refine ac ?_
 exact Fin.AL (m+1) ⟨EZ,by omega⟩ ⟨⟨_,rfl,AG m⟩,⟨_,rfl,int_eq (by rw [SH Ee,if_neg (by simpa using h7)])⟩,kz⟩
 have KI:m=(r).length:=by have:=AJ h6;omega
 subst KI
 rw [List.take_length]
 refine ac ?_
 refine wk [70,69,68,21,20,18,17,16,13,10,6,4,3] rfl ?_
 refine ac ?_
 refine co rfl (AD rfl underlying22 Bt vq vq AA (Bh hti)) ?_
 refine ac ?_
 refine co rfl (AR rfl (Xb (c:=c) (Ai:=b) (days:=y) (n:=YX T i) (from_:=F5 r dy i fr)) ⟨kq,G3,G3,kz⟩) ?_
 refine ac ?_
 refine wk [70,69,68,25,24,20,18,17,16,13,10,6,4,3] rfl ?_
 refine ac ?_
 refine wk [109,70,69,68,24,20,18,17,16,13,10,6,4,3] rfl ?_
 refine Tr.cn rfl ?_ ?_<;>intro h8 q8
 have hno:c.early b y (YX T i) (F5 r dy i fr)=none:=by simpa using h8
 refine ao ?_
 refine TO.AK 4 rfl rfl rfl vq Cs rfl CG rfl rfl ?_
 refine ao ?_
 refine wk [11,10] rfl (Tr.ret (Fin.AE (Fin.AU (Fin.AE (Fin.AE (Fin.AU (Fin.AE (Fin.BT rfl (AM.cell 4 rfl rfl Cn CG rfl Lr) (AM.tmp rfl Lr) ?_))))))))
 refine Az ⟨?_,?_,trivial⟩
 · exact SG (pL hb hv bl) AB
 · refine int_eq ?_;exact (pL hb hv bl).symm
 obtain ⟨x,hx⟩:∃x,c.early b y (YX T i) (F5 r dy i fr)=some x:=Option.isSome_iff_exists.1 (by simpa using h8)
 have hdi:=Dy (l:=dy) (i:=i.toNat) (by have:=hS.len;omega)
 refine Tr.re 24 rfl (int_eq (by rw [hx])) ?_
 refine ac ?_
 refine wk [70,69,68,24,20,18,17,16,13,10,6,4,3] rfl ?_
 refine ao ?_
 refine tp rfl (Cg 3 rfl (HK rfl underlying22 Bt vq vq AA Cz)) ?_
 refine TO.DP 3 rfl rfl (Em rfl rfl vq My Bt rfl (BD fun _=>rfl) (by rw [List.getElem?_map,hdi];rfl) AB (show _=(dy.set i.toNat x).map _ by rw [List.map_set];rfl)) ?_
 refine ao ?_
 refine wk [70,69,68,24,20,18,17,16,13,10,6,4,3] rfl ?_
 refine ao ?_
 refine tp rfl (AD rfl underlying22 Bt vq vq AA (Bh hti)) ?_
 refine ao ?_
 refine TO.DT 1 rfl rfl AB (B7 rfl rfl rfl rfl underlying22 Bt G2 z3 G3 F4 (Ay BL Jo)) (fun v2=> ?_)
 refine ao ?_
 refine TO.DT 0 rfl rfl AB (B7 rfl rfl rfl rfl underlying22 Bt G2 z3 G3 F4 (Ay BL Jo)) (fun v3=> ?_)
 refine ao ?_
 refine wk [70,69,68,18,17,16,13,10,6,4,3] rfl ?_
 refine ac ?_
 exact Fin.rJ (dy.set i.toNat x) (b++[YX T i]) (y++[x]) (k+1) v2 v3 (⟨⟨hk,uG hi hsc hx⟩,by omega⟩) ⟨⟨_,rfl,AG k⟩,⟨_,rfl,BA DR⟩,⟨_,rfl,BA DR⟩,kz⟩ (fun _ _ h=>h)
 have hkr:k=row.length:=by have:=AJ h5;omega
 rw [hkr,List.take_length] at hsc
 have hsr:WX c l r fr=some (dy,b,y):=by unfold WX;rw [hT,hrow];exact hsc
 refine ac ?_
 refine Tr.seq (Tr.FA 2 3 2 rfl rfl AB rfl Lr (BD fun _=>rfl) ?_)
 refine ao ?_
 refine TO.AK 4 rfl rfl rfl vq Cs rfl CG rfl rfl ?_
 refine ao ?_
 refine wk [11,10] rfl (Tr.ret (Fin.BT rfl (AM.cell 4 rfl rfl Cn CG rfl Lr) (AM.tmp rfl Lr) ?_))
 refine Az ⟨?_,?_,trivial⟩
 · exact uh (wQ hb hv hsr) hsr
 · refine int_eq ?_;exact (wQ hb hv hsr).symm
theorem qE {l:List BX} {n:Nat} (hc:∀c∈l,c.Cy.fits∧c.Cy.small):∀(s:List Int) (Bv:List CA),(∀x∈Bv,x.sz n)→(∀x∈(N4 l s Bv).1,x.sz (n+s.length))∧(N4 l s Bv).1.length=Bv.length
 |[],Bv,h=>⟨h,rfl⟩
 |i::s,Bv,h=>by
  rw [N4]
  split
  · exact ⟨fun x hx=>(h x hx).le AA,rfl⟩
  next c jm=>
  by_cases ha:(Lc Bv c).2=0
  ·
   rw [if_pos ha]
   have:=qE (n:=n+1) hc s (Lc Bv c).1 (m8 h (hc c (List.mem_of_getElem? jm)))
   rw [dY] at this
   exact ⟨fun x hx=>by rw [List.length_cons,show n+(s.length+1)=n+1+s.length by omega];exact this.1 x hx,this.2⟩
  · rw [if_neg ha];exact ⟨fun x hx=>(h x hx).le AA,rfl⟩
theorem e7 {e:Dp} {l:List BX} {s:List Int} {n:Nat} (hz:e.sz n) (hc:∀c∈l,c.Cy.fits∧c.Cy.small):(Vt e l s).1.sz (n+s.length):=by
 have h0:GH.sz (n+s.length):=⟨(fun x hx=>by cases hx),(fun x hx=>by cases hx),Nat.zero_le _,Nat.zero_le _,Nat.zero_le _⟩
 obtain ⟨h1,h2⟩:=qE hc s e.Bv hz.Bv
 unfold Vt
 repeat' split
 · exact h0
 · exact h0
 · exact h0
 · exact ⟨h1,hz.items,by show (N4 l s e.Bv).1.length≤_;rw [h2];exact hz.le,hz.lg,hz.li⟩
 · exact h0
theorem Oj.sz {e:Dp} (h:Oj e):e.sz 5:=by
 have h3:=h.n3;have g3:=h.g3;have i2:=h.i2
 refine ⟨fun x hx=> ?_,fun x hx=>⟨by have:=(h.it x hx).name;unfold maxLen;omega,by have:=(h.it x hx).links;omega⟩,by omega,by omega,by omega⟩
 obtain ⟨i,hi⟩:=List.getElem?_of_mem hx
 exact tT (h.snd i x hi)
end Go.Proofs.YtmocaapoeefgkaaGreatDoor
