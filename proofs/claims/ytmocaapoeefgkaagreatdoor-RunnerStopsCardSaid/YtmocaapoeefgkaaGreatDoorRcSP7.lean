/-
  Part 7 of the texts that prove this claim, merged.
-/
import Derived.Test.YtmocaapoeefgkaaGreatDoorRcSP6
set_option linter.all false
set_option maxRecDepth 40000
set_option maxHeartbeats 16000000
namespace Go.Proofs.YtmocaapoeefgkaaGreatDoor
open Go Go.RowKit Cp Go.Proofs.Tryz
theorem me {e:Da} {i:Nat} {x:IA} (h:FH e=true) (hx:e.BQ[i]? =some x):(0≤x.client∧x.client<(e.Bp.length:Nat))∧(0≤x.server∧x.server<(e.Bp.length:Nat)):=by
 have h1:=(FI.1 h).ed i (by rcases Nat.lt_or_ge i e.BQ.length with h'|h';exact h';rw [List.getElem?_eq_none h'] at hx;cases hx)
 unfold Ea at h1
 rw [hx] at h1
 simp only [Option.getD_some,Bool.and_eq_true,decide_eq_true_eq] at h1
 omega
theorem fJ {e:Da} {i:Int} (hf:e.fits):BC prog 304 [agg (CG e),int i] (Cp.ex fun z:B7×B7×Int=>fact (z.2.2=0→z.1∈e.Bp∧z.2.1∈e.Bp) (D7 [agg (Bc z.1),agg (Bc z.2.1),int z.2.2])):=by
 refine fo func304 rfl ⟨rfl,rfl⟩ fun M0 w0=>(Tr.seq (Tr.An (tp rfl (BZ rfl Cm) ?_)))
 refine Tl rfl rfl rfl rfl z40 IU (fun b1=> ?_)
 refine Tl rfl rfl rfl rfl z40 IU (fun b2=> ?_)
 refine ap ?_
 refine ac ?_
 refine co rfl (Ck (Dp hf) rfl rfl) ?_
 refine an ?_ ?_<;>intro h1 q1
 refine ap ?_
 refine Tr.ret (Fin.AE (Fin.FA rfl (AO.cell 1 rfl rfl Cj CF rfl Lr) (AO.cell 0 rfl rfl Cj CF rfl Lr) (AO.tmp rfl Lr) ?_))
 · exact Xk
 have UQ:FH e=true:=by cases h_:FH e with|true=>rfl|false=>exact absurd h1 L2
 refine ac ?_
 refine ag ?_ ?_<;>intro h2 q2
 refine ac ?_
 refine wk [20,5,4,2,1] rfl (Tr.cond rfl (fun _=> ?_) (fun h=>nomatch h))
 refine Tr.seq (Tr.An (tp rfl (Al (rows:=[]) rfl om IU trivial rfl) (tp rfl (Al (rows:=[]) rfl om IU trivial rfl) (TO.AK 1 rfl rfl rfl vq Cm rfl CF rfl rfl (TO.AK 0 rfl rfl rfl vq Cm rfl CF rfl rfl (tm rfl (TO.nil (Fin.go (Tr.ret (Fin.AE (Fin.FA rfl (AO.cell 1 rfl rfl Cj CF rfl Lr) (AO.cell 0 rfl rfl Cj CF rfl Lr) (AO.tmp rfl Lr) ?_)))))))))))
 · exact Xk
 refine ac ?_
 refine wk [20,5,4,2,1] rfl ?_
 refine Tr.cn rfl ?_ ?_<;>intro h3 q3
 refine ap ?_
 refine Tr.ret (Fin.AE (Fin.FA rfl (AO.cell 1 rfl rfl Cj CF rfl Lr) (AO.cell 0 rfl rfl Cj CF rfl Lr) (AO.tmp rfl Lr) ?_))
 · exact Xk
 obtain ⟨x,hx⟩:=at_ (l:=e.BQ) (k:=i.toNat) AA
 obtain ⟨hxc,hxs⟩:=me UQ hx
 obtain ⟨c,hc⟩:=at_ (l:=e.Bp) (k:=x.client.toNat) AA
 obtain ⟨y,hy⟩:=at_ (l:=e.Bp) (k:=x.server.toNat) AA
 refine ac ?_
 refine Tr.seq (Tr.rx ?_)
 refine ay ?_
 refine xo rfl (fun _=>AD rfl underlying28 Eh vq vq AA (Bm hx)) ?_
 refine ay ?_
 refine xo rfl (fun _=>AD rfl underlying27 CF vq vq AA (Bm hc)) ?_
 refine ay ?_
 refine xo rfl (fun _=>AD rfl underlying28 Eh vq vq AA (Bm hx)) ?_
 refine ay ?_
 refine xo rfl (fun _=>AD rfl underlying27 CF vq vq AA (Bm hy)) ?_
 refine ay ?_
 refine Cx.nil ⟨by kernel_rfl,?_⟩
 refine BH.done XT (Fin.go (wk [6,5,4] rfl (Tr.ret (Fin.FA rfl (AO.cell 1 rfl rfl Cj CF rfl Lr) (AO.cell 0 rfl rfl Cj CF rfl Lr) (AO.tmp rfl Lr) ?_))))
 · exact Aw (c,y,_) (A8 (fun _=>⟨List.mem_of_getElem? hc,List.mem_of_getElem? hy⟩) Lr)
theorem RW {e:Da} {i day:Int} (hf:e.fits):BC prog 288 [agg (CG e),int i,int day] (Cp.ex fun z:Int×Int×Int=>fact True (D7 [agg [int z.1,int z.2.1],int z.2.2])):=by
 refine fo func288 rfl ⟨rfl,rfl⟩ fun M0 w0=>(Tr.seq (Tr.An (tp rfl (BZ rfl Cm) ?_)))
 refine Tl rfl rfl rfl rfl JJ FU (fun b1=> ?_)
 refine ao ?_
 refine ao ?_
 refine tp rfl (CK (fJ hf) rfl rfl rfl) ?_
 refine TO.ex 14 rfl (fun z1=>TO.fact 14 rfl fun EY=> ?_)
 refine ao ?_
 refine Tl rfl rfl rfl rfl z40 IU (fun b2=> ?_)
 refine Tl rfl rfl rfl rfl z40 IU (fun b3=> ?_)
 refine sf 1 8 ⟨rfl,rfl,rfl⟩ rfl rfl rfl rfl ?_
 refine sf 0 9 ⟨rfl,rfl,rfl⟩ rfl rfl rfl rfl ?_
 refine ao ?_
 refine wk [10,9,8,6,2] rfl ?_
 refine an ?_ ?_<;>intro h1 q1
 refine ao ?_
 refine TO.AK 0 rfl rfl rfl vq Cm rfl B_ rfl rfl ?_
 refine ao ?_
 refine Tr.ret (Fin.AE (Fin.BU rfl (AO.cell 0 rfl rfl Cq B_ rfl Lr) (AO.tmp rfl Lr) ?_))
 · exact EZ
 have hz0:z1.2.2=0:=by have:=q1;omega
 refine ac ?_
 refine ao ?_
 refine tp rfl (Kk (Wv (hf.Bp _ (EY hz0).1).2 (hf.Bp _ (EY hz0).2).2) rfl rfl rfl rfl) ?_
 refine TO.ex 25 rfl (fun z2=>TO.fact 25 rfl fun IC=> ?_)
 refine ao ?_
 refine TO.AK 0 rfl rfl rfl vq Cm rfl B_ rfl rfl ?_
 refine ao ?_
 refine wk [7,6] rfl (Tr.ret (Fin.BU rfl (AO.cell 0 rfl rfl Cq B_ rfl Lr) (AO.tmp rfl Lr) ?_))
 · exact EZ
theorem OB {e:Da} {i from_ NN:Int} (hf:e.fits):BC prog 256 [agg (CG e),int i,int from_,int NN] (Cp.ex fun z:Int×Int×Int=>fact True (D7 [agg [int z.1,int z.2.1],int z.2.2])):=by
 refine fo func256 rfl ⟨rfl,rfl⟩ fun M0 w0=>(Tr.seq (Tr.An (tp rfl (BZ rfl Cm) ?_)))
 refine Tl rfl rfl rfl rfl JJ FU (fun b1=> ?_)
 refine ao ?_
 refine ao ?_
 refine tp rfl (Kk (RW hf) rfl rfl rfl rfl) ?_
 refine TO.ex 16 rfl (fun z1=>TO.fact 16 rfl fun EY=> ?_)
 refine ao ?_
 refine Tl rfl rfl rfl rfl JJ FU (fun b2=> ?_)
 refine sf 0 10 ⟨rfl,rfl,rfl⟩ rfl rfl rfl rfl ?_
 refine ao ?_
 refine wk [11,10,8,4,3,2,1] rfl ?_
 refine an ?_ ?_<;>intro h1 q1
 refine ao ?_
 refine TO.AK 0 rfl rfl rfl vq Cm rfl B_ rfl rfl ?_
 refine ao ?_
 refine Tr.ret (Fin.AE (Fin.BU rfl (AO.cell 0 rfl rfl Cq B_ rfl Lr) (AO.tmp rfl Lr) ?_))
 · exact EZ
 refine ac ?_
 refine ao ?_
 refine tp rfl (Kk (RW hf) rfl rfl rfl rfl) ?_
 refine TO.ex 27 rfl (fun z2=>TO.fact 27 rfl fun IC=> ?_)
 refine ao ?_
 refine wk [11,10,8,3,2] rfl ?_
 refine an ?_ ?_<;>intro h2 q2
 refine ao ?_
 refine TO.AK 0 rfl rfl rfl vq Cm rfl B_ rfl rfl ?_
 refine ao ?_
 refine Tr.ret (Fin.AE (Fin.BU rfl (AO.cell 0 rfl rfl Cq B_ rfl Lr) (AO.tmp rfl Lr) ?_))
 · exact EZ
 refine ac ?_
 refine an ?_ ?_<;>intro h3 q3
 refine ao ?_
 refine TO.AK 0 rfl rfl rfl vq Cm rfl B_ rfl rfl ?_
 refine ao ?_
 refine Tr.ret (Fin.AE (Fin.BU rfl (AO.cell 0 rfl rfl Cq B_ rfl Lr) (AO.tmp rfl Lr) ?_))
 · exact EZ
 refine ac ?_
 refine ao ?_
 refine TO.AK 0 rfl rfl rfl vq Cm rfl B_ rfl rfl ?_
 refine ao ?_
 refine Tr.ret (Fin.BU rfl (AO.cell 0 rfl rfl Cq B_ rfl Lr) (AO.tmp rfl Lr) ?_)
 · exact Aw (z1.1,z1.2.1,0) (A8 trivial Lr)
abbrev RY:Pr:=slice 7 []
abbrev Ml:Pr:=agg [slice 6 [],slice 2 []]
abbrev U_:Pr:=agg [slice 1 [],int 0]
theorem OC   :BC prog 174 [Ml] (int 0):=by
 refine BC.of func174 rfl rfl Ao fun M0 w0=> ?_
 refine Tr.seq (Tr.Aj (co rfl (BZ rfl (Va rfl)) (cm rfl (Ch.nil (Fin.go (Tr.seq (Tr.seq (Tr.Aj (co rfl (QG rfl UG rfl rfl) (co rfl (GX rfl YJ rfl) (co rfl (CE rfl underlying111 (vl rfl)) (co rfl (ki rfl rfl rfl rfl) (cm rfl ?_)))))))))))))
 refine Ch.cs 9 rfl ?_ ?_<;>intro h1 q1
 iterate 4 refine cnf h1 rfl ?_
 refine co rfl (KH rfl rfl h1 rfl) (Ch.nil (Fin.go (Tr.cond rfl (fun _=> ?_) (fun h=>nomatch h))))
 refine Tr.seq (Tr.Aj (cm rfl (Ch.nil (Fin.go (Tr.ret (Fin.AE (Fin.Ki rfl (Bo.Dy _ _) rfl ?_)))))))
 · refine int_eq ?_;simp_all
 refine cy h1 rfl (QG rfl aY rfl rfl) (cy h1 rfl (GX rfl jF rfl) (cy h1 rfl (CE rfl underlying112 (vl rfl)) (cy h1 rfl (ki rfl rfl rfl rfl) (co rfl (Ou rfl rfl h1 rfl) (Ch.nil (Fin.go ?_))))))
 refine Tr.cn rfl ?_ ?_<;>intro h2 q2
 exact absurd h2 AB
 refine Tr.skip (Fin.go (Tr.seq (Tr.seq (Tr.Aj (cm rfl (Ch.nil (Fin.go (Tr.block (Tr.BE [(1,_)] ⟨ke rfl,trivial⟩ (fun k:Nat=>[(3,int ((k:Nat):Int))]) (fun k:Nat=>k=0) (fun k:Nat=>0) 0 (rfl) ⟨ke rfl,trivial⟩ ?_)))))))))
 rintro k hk0
 refine Tr.seq (Tr.seq (Tr.Aj (cm rfl (co rfl (QG rfl UG rfl rfl) (co rfl (GX rfl YJ rfl) (co rfl (CE rfl underlying111 (vl rfl)) (co rfl (ki rfl rfl rfl rfl) (Ch.nil (Fin.go ?_)))))))))
 refine Tr.cn rfl ?_ ?_<;>intro h3 q3
 exfalso;have WJ:=Co.C_ h3;subst hk0;simp at WJ
 have gj:=h3
 refine Tr.exit (Fin.Ag (Fin.Ag (Fin.BD (Fin.go (Tr.seq (Tr.seq (Tr.Aj (cm rfl (Ch.nil (Fin.go (Tr.block (Tr.BE [(1,_)] ⟨ke rfl,trivial⟩ (fun k:Nat=>[(4,int ((k:Nat):Int))]) (fun k:Nat=>k=0) (fun k:Nat=>0) 0 (rfl) ⟨ke rfl,trivial⟩ ?_))))))))))))
 rintro k hk0
 refine Tr.seq (Tr.seq (Tr.Aj (cm rfl (co rfl (QG rfl aY rfl rfl) (co rfl (GX rfl jF rfl) (co rfl (CE rfl underlying112 (vl rfl)) (co rfl (ki rfl rfl rfl rfl) (Ch.nil (Fin.go ?_)))))))))
 refine Tr.cn rfl ?_ ?_<;>intro h4 q4
 exfalso;have WJ:=Co.C_ h4;subst hk0;simp at WJ
 have gj:=h4
 refine Tr.exit (Fin.Ag (Fin.Ag (Fin.BD (Fin.go (Tr.seq (Tr.Aj (cm rfl (Ch.nil (Fin.go (Tr.ret (Fin.Ki rfl (Bo.Dy _ _) rfl ?_)))))))))))
 · exact Lr
theorem Wx {a b p:Int}  :BC prog 333 [Ml,agg [int a,int b],int p] (anyI):=by
 refine fo func333 rfl ⟨rfl,rfl⟩ fun M0 w0=> ?_
 · repeat' first|exact absurd h AB|exact Aw _ Lr|refine co rfl (Ck (OC) rfl rfl) ?_|refine co rfl (Ck (Je (CC:=a) (bits:=b)) rfl rfl) ?_|refine ac ?_|(refine Tr.cn rfl ?_ ?_<;>intro h q)|(refine Ch.cg rfl rfl rfl ?_ ?_<;>intro h q)
theorem K5 {a b p d:Int}  :BC prog 335 [Ml,agg [int a,int b],int p,int d] (int (-1)):=by
 refine fo func335 rfl ⟨rfl,rfl⟩ fun M0 w0=> ?_
 refine a2 ?_
 refine co rfl (CE rfl underlying111 vq) ?_
 refine ac ?_
 refine Tr.block (Tr.BE _ (kk [5,4,3,2] rfl) (fun k:Nat=>[(9,int (-1))]) (fun k:Nat=>True) (fun k:Nat=>0) 0 (trivial) kz ?_)
 rintro k _
 refine an ?_ ?_<;>intro h1 q1
 exact absurd h1 AB
 have gj:=h1
 refine a3 ?_
 · exact Lr
theorem SC {a b p d:Int}  :BC prog 334 [Ml,agg [int a,int b],int p,int d] (bool true):=by
 refine fo func334 rfl ⟨rfl,rfl⟩ fun M0 w0=> ?_
 · repeat' first|exact Lr|exact absurd h AB|refine co rfl (gL (K5) rfl rfl rfl rfl rfl) ?_|refine ac ?_|(refine Ch.cg rfl rfl rfl ?_ ?_<;>intro h q)
theorem SD {a b p d:Int}  :BC prog 320 [Ml,agg [int a,int b],int p,int d] (D7 [EE,anyI,anyI]):=by
 refine fo func320 rfl ⟨rfl,rfl⟩ fun M0 w0=> ?_
 refine a2 ?_
 refine co rfl (Kk (Wx) rfl rfl rfl rfl) ?_
 refine ac ?_
 refine Tr.seq (Tr.ex 11 rfl fun x11=> ?_)
 refine an ?_ ?_<;>intro h1 q1
 refine ac ?_
 refine wk [10,9,8] rfl (Tr.ret (Fin.AE (Fin.II rfl (Bo.Dy _ _) rfl ?_ rfl ?_ rfl ?_)))
 · exact BF
 · exact BF
 · exact BF
 refine ac ?_
 refine ag ?_ ?_<;>intro h2 q2
 refine ac ?_
 refine wk [24,5,4,3,2] rfl ?_
 refine ac ?_
 refine Tr.ret (Fin.AE (Fin.II rfl (Bo.Dy _ _) rfl ?_ rfl ?_ rfl ?_))
 · exact BF
 · exact BF
 · exact BF
 refine ac ?_
 refine wk [24,5,4,3,2] rfl ?_
 refine Tr.cn rfl ?_ ?_<;>intro h3 q3
 refine ac ?_
 refine Tr.ret (Fin.AE (Fin.II rfl (Bo.Dy _ _) rfl ?_ rfl ?_ rfl ?_))
 · exact BF
 · exact BF
 · exact BF
 refine a2 ?_
 refine co rfl (gL (SC) rfl rfl rfl rfl rfl) ?_
 refine ac ?_
 refine co rfl (gL (K5) rfl rfl rfl rfl rfl) ?_
 refine ac ?_
 refine wk [10,9,8] rfl (Tr.ret (Fin.II rfl (Bo.Dy _ _) rfl ?_ rfl ?_ rfl ?_))
 · exact BF
 · exact BF
 · exact BF
theorem fK   :BC prog 321 [RY] (int 0):=by
 refine fo func321 rfl ⟨rfl,rfl⟩ fun M0 w0=> ?_
 refine a2 ?_
 refine Tr.block (Tr.BE _ (kk [0] rfl) (fun k:Nat=>[(3,int ((k:Nat):Int))]) (fun k:Nat=>k=0) (fun k:Nat=>0) 0 (rfl) kz ?_)
 rintro k hk0
 refine ac ?_
 refine co rfl (CE rfl underlying162 vq) ?_
 refine an ?_ ?_<;>intro h1 q1
 exfalso;have WJ:=Co.C_ h1;subst hk0;simp at WJ
 have gj:=h1
 refine a3 ?_
 · exact Lr
theorem fL {a b p d:Int} {s:List UInt8}  :BC prog 322 [RY,U_,agg [int a,int b],int p,str s,int d] (bool false):=by
 refine fo func322 rfl ⟨rfl,rfl⟩ fun M0 w0=> ?_
 refine a2 ?_
 refine Tr.block (Tr.BE _ (kk [8,7,5,4,3,0] rfl) (fun k:Nat=>[(13,int ((k:Nat):Int))]) (fun k:Nat=>k=0) (fun k:Nat=>0) 0 (rfl) kz ?_)
 rintro k hk0
 refine ac ?_
 refine co rfl (CE rfl underlying162 vq) ?_
 refine an ?_ ?_<;>intro h1 q1
 exfalso;have WJ:=Co.C_ h1;subst hk0;simp at WJ
 have gj:=h1
 refine a3 ?_
 · exact Lr
theorem SE {a b p d:Int} {s:List UInt8}  :BC prog 313 [Ml,RY,U_,agg [int a,int b],int p,str s,int d] (D7 [EE,anyI]):=by
 refine fo func313 rfl ⟨rfl,rfl⟩ fun M0 w0=> ?_
 refine a2 ?_
 refine co rfl (gL (SD) rfl rfl rfl rfl rfl) ?_
 refine ac ?_
 refine wk [18,16,10,9,6,5,4,1] rfl (Tr.seq (Tr.seq (Tr.ex 18 rfl fun x18=>(Tr.ex 16 rfl fun x16=> ?_))))
 refine an ?_ ?_<;>intro h1 q1
 refine ac ?_
 refine Tr.ret (Fin.AE (Fin.Dc rfl (Bo.Dy _ _) rfl ?_ rfl ?_))
 · exact BF
 · exact BF
 refine a2 ?_
 refine co rfl (Ck (fK) rfl rfl) ?_
 refine a2 ?_
 refine wk [35,19,16,10,9,6,5,4,1] rfl ?_
 refine Tr.cn rfl ?_ ?_<;>intro h2 q2
 exact absurd h2 AB
 refine ac ?_
 refine ag ?_ ?_<;>intro h3 q3
 refine ac ?_
 refine wk [15,14] rfl (Tr.ret (Fin.Dc rfl (Bo.Dy _ _) rfl ?_ rfl ?_))
 · exact BF
 · exact BF
 refine ac ?_
 refine cy h3 rfl (AR rfl (fL) ⟨kq,kz⟩) ?_
 refine ac ?_
 refine wk [15,14] rfl (Tr.ret (Fin.Dc rfl (Bo.Dy _ _) rfl ?_ rfl ?_))
 · exact BF
 · exact BF
theorem ZJ {e:B7} {a b d:Int} (he:e.small):BC prog 299 [Ml,RY,U_,agg (Bc e),agg [int a,int b],int d] (D7 [EE,anyI]):=by
 refine fo func299 rfl ⟨rfl,rfl⟩ fun M0 w0=> ?_
 refine ac ?_
 refine ap ?_
 refine tp rfl (CK (Nd he) rfl rfl rfl) ?_
 refine TO.ex 23 rfl (fun z1=>TO.fact 23 rfl fun EY=> ?_)
 refine ap ?_
 refine wk [15,14,9,8,6,5,1] rfl ?_
 refine an ?_ ?_<;>intro h1 q1
 refine ac ?_
 refine Tr.ret (Fin.AE (Fin.Dc rfl (Bo.Dy _ _) rfl ?_ rfl ?_))
 · exact BF
 · exact BF
 refine a3 ?_
 refine Tr.block (Tr.BE _ (kk [14,9,8,6,5,1] rfl) (fun k:Nat=>[(17,int ((k:Nat):Int)),(16,EE)]) (fun k:Nat=>k≤(z1.1).length) (fun k:Nat=>(z1.1).length-k) 0 (Nat.zero_le _) ⟨kq,⟨_,rfl,Aw _ Lr⟩,trivial⟩ ?_)
 rintro k BV
 refine Tr.ex 16 rfl fun x16=> ?_
 refine an ?_ ?_<;>intro h2 q2
 have Ai:k<(z1.1).length:=AH h2
 obtain ⟨x,Ah⟩:=at_ Ai
 refine a2 ?_
 refine co rfl (AD rfl underlying143 Kj vq vq AA (AX Ah)) ?_
 refine ac ?_
 refine co rfl (AR rfl (SE (a:=x.1) (b:=x.2)) ⟨kq,kz⟩) ?_
 refine ac ?_
 refine wk [19,18,17,16,14,9,8,6,5,1] rfl (Tr.seq (Tr.seq (Tr.ex 19 rfl fun x19=>(Tr.ex 18 rfl fun x18=> ?_))))
 refine an ?_ ?_<;>intro h3 q3
 refine ac ?_
 refine wk [13,12] rfl (Tr.ret (Fin.AE (Fin.AU (Fin.AE (Fin.AE (Fin.AU (Fin.AE (Fin.Dc rfl (Bo.Dy _ _) rfl ?_ rfl ?_))))))))
 · exact BF
 · exact BF
 · repeat' first|exact Fin.AP (k+1) ⟨Ai,by omega⟩ ⟨⟨_,rfl,AG k⟩,⟨_,rfl,Aw _ Lr⟩,kz⟩|refine ac ?_|(refine Ch.cg rfl rfl rfl ?_ ?_<;>intro h q)
 have BL:k=(z1.1).length:=by have:=AJ h2;omega
 subst BL
 refine a2 ?_
 refine wk [13,12] rfl (Tr.ret (Fin.Dc rfl (Bo.Dy _ _) rfl ?_ rfl ?_))
 · exact BF
 · exact BF
theorem J0 {d:Int}  :BC prog 122 [Ml,RY,int d] (anyI):=by
 refine fo func122 rfl ⟨rfl,rfl⟩ fun M0 w0=> ?_
 refine a2 ?_
 refine co rfl (Ck (OC) rfl rfl) ?_
 refine an ?_ ?_<;>intro h1 q1
 exact absurd h1 AB
 refine a2 ?_
 refine co rfl (CE rfl underlying162 vq) ?_
 refine ac ?_
 refine Tr.block (Tr.BE _ (kk [13,12,2] rfl) (fun k:Nat=>[(14,int ((k:Nat):Int))]) (fun k:Nat=>k=0) (fun k:Nat=>0) 0 (rfl) kz ?_)
 rintro k hk0
 refine ac ?_
 refine Tr.seq ?_
 refine Tr.cn rfl ?_ ?_<;>intro h2 q2
 exfalso;have WJ:=Co.C_ h2;subst hk0;simp at WJ
 have gj:=h2
 · repeat' first|exact Aw _ Lr|refine ac ?_|(refine Tr.cn rfl ?_ ?_<;>intro h q)|(refine Ch.cg rfl rfl rfl ?_ ?_<;>intro h q)
abbrev cR:Pr:=Cp.ex fun z:List (Int×Int)=>fact (z.length≤1000) (uses z)
structure J1 (e:Da) (i:Int) (x:IA) (c s:B7):Prop where
 i0:0≤i
 hx:e.BQ[i.toNat]? =some x
 c0:0≤x.client
 s0:0≤x.server
 hc:e.Bp[x.client.toNat]? =some c
 hs:e.Bp[x.server.toNat]? =some s
 cs:c.small
 ss:s.small
theorem mg {e:Da} {i:Int} (hf:e.fits) (UQ:FH e=true) (h0:0≤i) (hi:i.toNat<e.BQ.length):∃x c s,J1 e i x c s:=by
 obtain ⟨x,hx⟩:=at_ hi
 obtain ⟨hxc,hxs⟩:=me UQ hx
 obtain ⟨c,hc⟩:=at_ (l:=e.Bp) (k:=x.client.toNat) AA
 obtain ⟨y,hy⟩:=at_ (l:=e.Bp) (k:=x.server.toNat) AA
 exact ⟨x,c,y,h0,hx,hxc.1,hxs.1,hc,hy,(hf.Bp _ (List.mem_of_getElem? hc)).2,(hf.Bp _ (List.mem_of_getElem? hy)).2⟩
theorem J1.li {e:Da} {i:Int} {x:IA} {c s:B7} (h:J1 e i x c s):i.toNat<e.BQ.length:=by
 have:=h.hx
 rcases Nat.lt_or_ge i.toNat e.BQ.length with h'|h'
 · exact h'
 · rw [List.getElem?_eq_none h'] at this;cases this
theorem J1.lc {e:Da} {i:Int} {x:IA} {c s:B7} (h:J1 e i x c s):x.client.toNat<e.Bp.length:=by
 have:=h.hc
 rcases Nat.lt_or_ge x.client.toNat e.Bp.length with h'|h'
 · exact h'
 · rw [List.getElem?_eq_none h'] at this;cases this
theorem J1.ls {e:Da} {i:Int} {x:IA} {c s:B7} (h:J1 e i x c s):x.server.toNat<e.Bp.length:=by
 have:=h.hs
 rcases Nat.lt_or_ge x.server.toNat e.Bp.length with h'|h'
 · exact h'
 · rw [List.getElem?_eq_none h'] at this;cases this
theorem J2 {e:Da} {i:Int} {x:IA} {c s:B7} (he:J1 e i x c s):BC prog 284 [agg (CG e),int i] (agg (Bc s)):=by
 refine fo func284 rfl ⟨rfl,rfl⟩ fun M0 w0=> ?_
 have e1:=he.i0
 have e2:=he.c0
 have e3:=he.s0
 have e4:=he.li
 have e5:=he.lc
 have e6:=he.ls
 refine Tr.seq (Tr.An (tp rfl (BZ rfl Cm) ?_))
 refine Tl rfl rfl rfl rfl z40 IU (fun b1=> ?_)
 refine ap ?_
 refine Tr.seq (Tr.rx ?_)
 refine ay ?_
 refine xo rfl (fun _=>AD rfl underlying28 Eh vq vq AA (Bm he.hx)) ?_
 refine ay ?_
 refine xo rfl (fun _=>AD rfl underlying27 CF vq vq AA (Bm he.hs)) ?_
 refine ay ?_
 refine Cx.nil ⟨by kernel_rfl,?_⟩
 refine BH.done al1 (Fin.go (Tr.ret (Fin.CR rfl (AO.cell 0 rfl rfl Cj CF rfl Lr) ?_)))
 · exact Lr
theorem OD {e:Da} {i:Int} {x:IA} {c s:B7} (he:J1 e i x c s):BC prog 300 [agg (CG e),int i] (cR):=by
 refine fo func300 rfl ⟨rfl,rfl⟩ fun M0 w0=> ?_
 have e1:=he.i0
 have e2:=he.c0
 have e3:=he.s0
 have e4:=he.li
 have e5:=he.lc
 have e6:=he.ls
 refine ac ?_
 refine ao ?_
 refine tp rfl (AD rfl underlying28 Eh vq vq AA (Bm he.hx)) (tp rfl (AL rfl QS Eh vq rfl rfl) ?_)
 refine Tl rfl rfl rfl rfl YK Vy (fun b1=> ?_)
 refine sf 0 5 ⟨rfl,rfl,rfl⟩ rfl rfl rfl rfl ?_
 refine ao ?_
 refine ac ?_
 refine co rfl (AD rfl underlying27 CF vq vq AA (Bm he.hc)) ?_
 refine ac ?_
 refine co rfl (AD rfl underlying27 CF vq vq AA (Bm he.hs)) (co rfl (AL rfl Cj CF vq rfl rfl) (co rfl (CK (Ww he.cs he.ss) rfl rfl rfl) ?_))
 refine ac ?_
 refine wk [4] rfl ?_
 refine ac ?_
 · exact Lr
theorem ZK {a b:B7} {x y:Int} (ha:a.small) (hb:b.small):BC prog 301 [agg (Bc a),agg (Bc b),agg [int x,int y]] (EE):=by
 refine fo func301 rfl ⟨rfl,rfl⟩ fun M0 w0=> ?_
 refine ac ?_
 refine ap ?_
 refine tp rfl (CK (Nd ha) rfl rfl rfl) ?_
 refine TO.ex 15 rfl (fun z1=>TO.fact 15 rfl fun EY=> ?_)
 refine ap ?_
 refine wk [7,5,4] rfl ?_
 refine ap ?_
 refine tp rfl (CK (Nd hb) rfl rfl rfl) ?_
 refine TO.ex 21 rfl (fun z2=>TO.fact 21 rfl fun IC=> ?_)
 refine ap ?_
 refine ac ?_
 refine wk [28,9,7] rfl ?_
 refine Tr.cn rfl ?_ ?_<;>intro h1 q1
 refine a2 ?_
 · exact BF
 have Td:z1.1.length=z2.1.length:=by have h_:=q1;omega
 refine a2 ?_
 refine Tr.block (Tr.BE _ (kk [30,9,7] rfl) (fun k:Nat=>[(31,int ((k:Nat):Int))]) (fun k:Nat=>k≤(z1.1).length) (fun k:Nat=>(z1.1).length-k) 0 (Nat.zero_le _) kz ?_)
 rintro k BV
 refine ac ?_
 refine Tr.seq ?_
 refine Tr.cn rfl ?_ ?_<;>intro h2 q2
 have Ai:k<(z1.1).length:=AH h2
 obtain ⟨x,Ah⟩:=at_ Ai
 obtain ⟨y2,hy2⟩:=at_ (l:=z2.1) (k:=k) AA
 · repeat' first|exact Aw _ Lr|exact Fin.AP (k+1) ⟨Ai,by omega⟩ ⟨⟨_,rfl,AG k⟩,kz⟩|refine co rfl (AD rfl underlying143 Kj vq vq AA (AX Ah)) ?_|refine co rfl (AD rfl underlying143 Kj vq vq AA (AX hy2)) (co rfl (AL rfl I5 Kj vq rfl rfl) (co rfl (Oz rfl vq vq) ?_))|refine ac ?_|(refine Tr.cn rfl ?_ ?_<;>intro h q)
 have BL:k=(z1.1).length:=by have:=AJ h2;omega
 subst BL
 refine a3 ?_
 · exact BF
theorem fM {a b:Da} (ha:a.fits) (hb:b.fits):BC prog 282 [agg (CG a),agg (CG b)] (Cp.ex fun z:Int=>fact (z=0→FH a=true∧FH b=true∧a.BQ.length=b.BQ.length) (int z)):=by
 refine fo func282 rfl ⟨rfl,rfl⟩ fun M0 w0=>(Tr.HT 0 1 rfl rfl fun KR=>(Tr.HT 1 1 rfl rfl fun ACp=> ?_))
 refine a2 ?_
 refine co rfl (Ck (Dp ha) rfl rfl) ?_
 refine ag ?_ ?_<;>intro h1 q1
 refine a3 ?_
 · exact OU
 refine cy h1 rfl (AL rfl DR DP vq rfl rfl) (cy h1 rfl (Ck (Dp hb) rfl rfl) ?_)
 refine an ?_ ?_<;>intro h2 q2
 refine a2 ?_
 · exact OU
 refine a2 ?_
 refine wk [20,3,2] rfl ?_
 refine Tr.cn rfl ?_ ?_<;>intro h3 q3
 refine a2 ?_
 · exact OU
 have Td:a.BQ.length=b.BQ.length:=by have h_:=q3;omega
 refine a2 ?_
 refine Tr.block (Tr.BE _ (kk [23,3,2] rfl) (fun k:Nat=>[(24,int ((k:Nat):Int))]) (fun k:Nat=>k≤(a.BQ).length) (fun k:Nat=>(a.BQ).length-k) 0 (Nat.zero_le _) kz ?_)
 rintro k BV
 refine ac ?_
 refine Tr.seq ?_
 refine Tr.cn rfl ?_ ?_<;>intro h4 q4
 have Ai:k<(a.BQ).length:=AH h4
 obtain ⟨x,Ah⟩:=at_ Ai
 obtain ⟨y2,hy2⟩:=at_ (l:=b.BQ) (k:=k) AA
 · repeat' first|exact Aw _ (A8 (fun h_=>absurd h_ AB) Lr)|exact Fin.AP (k+1) ⟨Ai,by omega⟩ ⟨⟨_,rfl,AG k⟩,kz⟩|refine co rfl (AD rfl underlying28 Eh vq vq AA (AX Ah)) ?_|refine co rfl (AD rfl underlying28 Eh vq vq AA (AX hy2)) (co rfl (AL rfl QS Eh vq rfl rfl) (co rfl (kM rfl vq vq) ?_))|refine ac ?_|(refine Tr.cn rfl ?_ ?_<;>intro h q)
 have BL:k=(a.BQ).length:=by have:=AJ h4;omega
 subst BL
 refine a3 ?_
 · exact Aw 0 (A8 (fun _=>⟨by simp_all,by simp_all,Td⟩) Lr)
theorem wo {d:Nat} {w:World} {x0 y0:Int} {x1 y1:Int}:(Op.equalIn (d+2) 268 (.agg #[.int .i64 x0,.int .i64 x1]) (.agg #[.int .i64 y0,.int .i64 y1])).run Tryz.prog w= .ok (decide (x0=y0∧x1=y1)) w:=by
 have h:=eqS (w:=w) (d:=d+1) (xs:= #[.int .i64 x0,.int .i64 x1]) (ys:= #[.int .i64 y0,.int .i64 y1]) Tryz.underlying268 BS (Ev AB (CA DF rfl) (CA DF rfl) (F8 (d:=d+0) Tryz.underlying3) (Ev AB (CA DF rfl) (CA DF rfl) (F8 (d:=d+0) Tryz.underlying3) (MK)))
 refine h.trans (congrArg (fun b=>Result.ok b w) ?_)
 rw [Bool.eq_iff_iff];simp [and_assoc]
theorem mh {E:Env} {I:Cb} {o:Oper} {u:TypeId} {x y:Operand} {x0 y0:Int} {x1 y1:Int} (ho:o.op= .binOp .eql 268 x y u) (hx:VL E x (agg [is (.int .i64 x0),is (.int .i64 x1)])) (hy:VL E y (agg [is (.int .i64 y0),is (.int .i64 y1)])):Ad Tryz.prog I o E (bool (decide (x0=y0∧x1=y1))):=
 MI [.int .i64 x0,.int .i64 x1] [.int .i64 y0,.int .i64 y1] ho hx hy BS (fun w=>by rw [show Op.equal 268 _ _=Op.equalIn (9998+2) 268 _ _ from rfl];exact wo)
theorem BC.outs {P:Program} {f:FuncId} {p0:Pr} {ps:List Pr} {res:Pr} (h:∀z:List (Int×Int),z.length≤1000→BC P f (p0::uses z::ps) res):BC P f (p0::Go.Proofs.YtmocaapoeefgkaaGreatDoor.cR::ps) res:=by
 refine ⟨(h [] (Nat.zero_le _)).1,fun M w vs hb hv=> ?_⟩
 match vs,hv with
 |u0::u1::us,⟨h0,⟨z,hz,h1⟩,h2⟩=>exact (h z hz).2 M w (u0::u1::us) hb ⟨h0,h1,h2⟩
section
variable {P:Program} {I:Cb} {E:Env} {o:Oper}
theorem wq {t u:TypeId} {x y:Operand} (ho:o.op= .binOp .gtr t x y u) (hx:VL E x (GU .i64)) (hy:VL E y (GU .i64)):Ad P I o E EE:=
 Ad.same fun M w a he _=>by
  obtain ⟨m,h1⟩:=hx.ev he Ar
  obtain ⟨n,h2⟩:=hy.ev he Ar
  have h1:a.eval x= .int .i64 m:=h1
  have h2:a.eval y= .int .i64 n:=h2
  exact ⟨.bool (decide (m>n)),by simp [execOp,ho,h1,h2,eqGuard,binOp,Op.intCmp],_,rfl⟩
end
theorem fN {e:B7} {all:List (Int×Int)} {d:Int} (he:e.small) (hl:all.length≤1000):BC prog 283 [agg (Bc e),uses all,Ml,RY,U_,int d] (cR):=by
 refine fo func283 rfl ⟨rfl,rfl⟩ fun M0 w0=> ?_
 refine a3 ?_
 refine Tr.block (Tr.B5 268 2 (Tr.C2 _ (kk [19,18,10,8,6,5,3] rfl) (fun (o:List (Int×Int)) (k:Nat) u=>[(20,int ((k:Nat):Int)),(13,Af u (uses o))]) (fun (o:List (Int×Int)) (k:Nat) u=>Hp M0 w0 Fa ([Au 268 2 u])) (fun (o:List (Int×Int)) (k:Nat)=>k≤all.length∧o.length≤k) (fun (o:List (Int×Int)) (k:Nat)=>all.length-k) ([]) (0) (.slice none 0 0) (⟨Nat.zero_le _,by simp⟩) ⟨kq,⟨_,rfl,Bn rfl⟩,trivial⟩ (fun _ _ h=>h) ?_))
 rintro o k u ⟨hk0,hol⟩
 refine ac ?_
 refine Tr.seq ?_
 refine Tr.cn rfl ?_ ?_<;>intro h1 q1
 have hk:k<all.length:=AH h1
 obtain ⟨y,hy⟩:=at_ hk
 refine ac ?_
 refine Tr.seq (Tr.block (Tr.seq (Tr.An (tp rfl (AD rfl underlying331 B_ vq vq AA (AX hy)) (tp rfl (AL rfl Cq B_ vq rfl rfl) ?_)))))
 refine Tl rfl rfl rfl rfl JJ FU (fun b1=> ?_)
 refine sf 0 15 ⟨rfl,rfl,rfl⟩ rfl rfl rfl rfl ?_
 refine ao ?_
 refine wk [20,19,18,15,13,10,8,6,5,3] rfl ?_
 refine ac ?_
 refine co rfl (AR rfl (ZJ he) ⟨kq,kz⟩) ?_
 refine ac ?_
 refine wk [20,19,18,17,16,15,13,10,8,6,5,3] rfl (Tr.seq (Tr.ex 17 rfl fun x17=>(Tr.ex 16 rfl fun x16=> ?_)))
 refine ag ?_ ?_<;>intro h2 q2
 refine ac ?_
 refine wk [38,20,19,18,15,13,10,8,6,5,3] rfl ?_
 refine Tr.cn rfl ?_ ?_<;>intro h3 q3
 refine ao ?_
 refine TO.DZ 0 rfl rfl AB (B4 rfl rfl rfl rfl underlying331 B_ aa JJ H_ GH (Az BJ Kl)) (fun v1=> ?_)
 refine ao ?_
 refine wk [20,19,18,13,10,8,6,5,3] rfl ?_
 refine ac ?_
 exact Fin.Bg (o++[(y.1,y.2)]) (k+1) v1 (⟨⟨by omega,by simp;omega⟩,by omega⟩) ⟨⟨_,rfl,AG k⟩,⟨_,rfl,BA DB⟩,kz⟩ (fun _ _ h=>h)
 refine a2 ?_
 exact Fin.Bg (o) (k+1) u (⟨⟨by omega,by omega⟩,by omega⟩) ⟨⟨_,rfl,AG k⟩,⟨_,rfl,BA rfl⟩,kz⟩ (fun _ _ h=>h)
 refine ac ?_
 refine wk [38,20,19,18,15,13,10,8,6,5,3] rfl ?_
 refine a2 ?_
 exact Fin.Bg (o) (k+1) u (⟨⟨by omega,by omega⟩,by omega⟩) ⟨⟨_,rfl,AG k⟩,⟨_,rfl,BA rfl⟩,kz⟩ (fun _ _ h=>h)
 have hk:=AJ h1
 refine a3 ?_
 · exact OZ
theorem VA {a b:Da} {i:Int} {x x2:IA} {c s c2 s2:B7} (ha:J1 a i x c s) (hb:J1 b i x2 c2 s2):BC prog 285 [agg (CG a),agg (CG b),int i] (cR):=by
 refine fo func285 rfl ⟨rfl,rfl⟩ fun M0 w0=> ?_
 refine ac ?_
 refine ao ?_
 refine tp rfl (CK (OD ha) rfl rfl rfl) ?_
 refine TO.ex 16 rfl (fun z1=>TO.fact 16 rfl fun EY=> ?_)
 refine ao ?_
 refine ac ?_
 refine ao ?_
 refine tp rfl (CK (OD hb) rfl rfl rfl) ?_
 refine TO.ex 19 rfl (fun z2=>TO.fact 19 rfl fun IC=> ?_)
 refine ao ?_
 refine wk [21,20,19,8,7,4,3,2] rfl (Tr.block (Tr.B5 268 2 (Tr.C2 _ (kk [20,19,7,4,3,2] rfl) (fun (o:List (Int×Int)) (k:Nat) u=>[(21,int ((k:Nat):Int)),(8,Af u (uses o))]) (fun (o:List (Int×Int)) (k:Nat) u=>Hp M0 w0 Fa ([Au 268 2 u])) (fun (o:List (Int×Int)) (k:Nat)=>k≤z2.length∧o.length≤k) (fun (o:List (Int×Int)) (k:Nat)=>z2.length-k) ([]) (0) (.slice none 0 0) (⟨Nat.zero_le _,by simp⟩) ⟨ke rfl,⟨_,rfl,Bn rfl⟩,trivial⟩ (fun _ _ h=>h) ?_)))
 rintro o k u ⟨hk0,hol⟩
 refine ac ?_
 refine Tr.seq ?_
 refine Tr.cn rfl ?_ ?_<;>intro h1 q1
 have hk:k<z2.length:=AH h1
 obtain ⟨y,hy⟩:=at_ hk
 refine ac ?_
 refine Tr.seq (Tr.block (Tr.seq (Tr.An (tp rfl (AD rfl underlying331 B_ (vl rfl) (vl rfl) AA (AX hy)) (tp rfl (AL rfl Cq B_ (vl rfl) rfl rfl) ?_)))))
 refine Tl rfl rfl rfl rfl JJ FU (fun b1=> ?_)
 refine sf 0 10 ⟨rfl,rfl,rfl⟩ rfl rfl rfl rfl ?_
 refine ao ?_
 refine wk [21,20,19,10,8,7,4,3,2] rfl ?_
 refine a2 ?_
 refine Tr.block (Tr.BE _ (kk [26,25,21,20,19,10,8,7,4,3,2] rfl) (fun m:Nat=>[(27,int ((m:Nat):Int)),(11,EE)]) (fun m:Nat=>m≤(z1).length) (fun m:Nat=>(z1).length-m) 0 (Nat.zero_le _) ⟨ke rfl,⟨_,rfl,Aw _ Lr⟩,trivial⟩ ?_)
 rintro m MY
 refine Tr.ex 11 rfl fun x11=> ?_
 refine ac ?_
 refine wk [28,27,26,25,21,20,19,11,10,8,7,4,3,2] rfl (Tr.seq ?_)
 refine Tr.cn rfl ?_ ?_<;>intro h2 q2
 have ES:m<(z1).length:=AH h2
 obtain ⟨w,EX⟩:=at_ ES
 refine ac ?_
 refine wk [27,26,25,21,20,19,11,10,8,7,4,3,2] rfl (Tr.seq (Tr.block (Tr.seq (Tr.An (tp rfl (AD rfl underlying331 B_ (vl rfl) (vl rfl) AA (AX EX)) (tp rfl (AL rfl Cq B_ (vl rfl) rfl rfl) ?_))))))
 refine Tl rfl rfl rfl rfl JJ FU (fun b2=> ?_)
 refine sf 0 13 ⟨rfl,rfl,rfl⟩ rfl rfl rfl rfl ?_
 refine ao ?_
 · repeat' first|exact Fin.AP (m+1) ⟨ES,by omega⟩ ⟨⟨_,rfl,AG m⟩,⟨_,rfl,Aw _ Lr⟩,kz⟩|refine cy h rfl (mh rfl (vl rfl) (vl rfl)) ?_|refine ac ?_|(refine Ch.cg rfl rfl rfl ?_ ?_<;>intro h q)
 have Jm:m=(z1).length:=by have:=AJ h2;omega
 subst Jm
 refine ac ?_
 refine wk [21,20,19,11,10,8,7,4,3,2] rfl ?_
 refine ag ?_ ?_<;>intro h4 q4
 refine ac ?_
 refine wk [50,21,20,19,10,8,7,4,3,2] rfl (Tr.cond rfl (fun _=> ?_) (fun h=>nomatch h))
 refine Tr.An (tm rfl (tp rfl (AL rfl Cq B_ (vl rfl) rfl rfl) (tp rfl (AM (xs:=[.tmp 52]) (rows:=[_]) rfl rfl underlying331 B_ JJ rfl AB ⟨⟨Am,(Va rfl)⟩,trivial⟩ AB) ?_)))
 refine TO.DZ 0 rfl rfl AB (B4 rfl rfl rfl rfl underlying331 B_ aa JJ (Kb rfl) (Kf rfl) (Az BJ (Ka rfl))) (fun v1=> ?_)
 refine ao ?_
 refine wk [21,20,19,8,7,4,3,2] rfl ?_
 refine ac ?_
 exact Fin.Bg (o++[(y.1,y.2)]) (k+1) v1 (⟨⟨by omega,by simp;omega⟩,by omega⟩) ⟨⟨_,rfl,AG k⟩,⟨_,rfl,BA DB⟩,kz⟩ (fun _ _ h=>h)
 refine ac ?_
 refine cy h4 rfl (CK (J2 ha) rfl rfl rfl) ?_
 refine ac ?_
 refine cy h4 rfl (CK (J2 hb) rfl rfl rfl) (cy h4 rfl (AL rfl Cq B_ (vl rfl) rfl rfl) (cy h4 rfl (Kk (ZK ha.ss hb.ss) rfl rfl rfl rfl) (cy h4 rfl (Iw rfl (vl rfl)) ?_)))
 refine ac ?_
 refine wk [50,21,20,19,10,8,7,4,3,2] rfl (Tr.ex 50 rfl fun AEc=> ?_)
 refine Tr.cn rfl ?_ ?_<;>intro h5 q5
 refine ao ?_
 refine TO.DZ 0 rfl rfl AB (B4 rfl rfl rfl rfl underlying331 B_ aa JJ (Kb rfl) (Kf rfl) (Az BJ (Ka rfl))) (fun v2=> ?_)
 refine ao ?_
 refine wk [21,20,19,8,7,4,3,2] rfl ?_
 refine ac ?_
 exact Fin.Bg (o++[(y.1,y.2)]) (k+1) v2 (⟨⟨by omega,by simp;omega⟩,by omega⟩) ⟨⟨_,rfl,AG k⟩,⟨_,rfl,BA DB⟩,kz⟩ (fun _ _ h=>h)
 refine a2 ?_
 exact Fin.Bg (o) (k+1) u (⟨⟨by omega,by omega⟩,by omega⟩) ⟨⟨_,rfl,AG k⟩,⟨_,rfl,BA rfl⟩,kz⟩ (fun _ _ h=>h)
 have hk:=AJ h1
 refine a3 ?_
 · exact OZ
theorem fO {a b:Da} {d:Int} (ha:a.fits) (hb:b.fits):BC prog 254 [agg (CG a),agg (CG b),Ml,RY,U_,int d] (Cp.ex fun z:List Int×Int=>fact (z.1.length≤1000) (D7 [ints z.1,int z.2])):=by
 refine fo func254 rfl ⟨rfl,rfl⟩ fun M0 w0=>(Tr.HT 0 1 rfl rfl fun KR=> ?_)
 refine ac ?_
 refine ap ?_
 refine tp rfl (CK (fM ha hb) rfl rfl rfl) ?_
 refine TO.ex 20 rfl (fun z1=>TO.fact 20 rfl fun EY=> ?_)
 refine ap ?_
 refine ac ?_
 refine wk [22,14,10,8,7,6,5,3] rfl ?_
 refine Tr.cn rfl ?_ ?_<;>intro h1 q1
 refine ac ?_
 refine Tr.ret (Fin.AE (Fin.BU rfl (AO.tmp rfl Lr) (AO.tmp rfl Lr) ?_))
 · exact Pt
 obtain ⟨hAe,hBe,Td⟩:=EY (by have:=q1;omega)
 have h40:=(FI.1 hAe).e40
 refine a2 ?_
 refine co rfl (Kk (J0) rfl rfl rfl rfl) ?_
 refine ac ?_
 refine Tr.seq (Tr.ex 15 rfl fun x15=> ?_)
 refine ac ?_
 refine wk [29,15,10,8,7,6,5,3] rfl ?_
 refine Tr.cn rfl ?_ ?_<;>intro h2 q2
 refine ac ?_
 refine Tr.ret (Fin.AE (Fin.BU rfl (AO.tmp rfl Lr) (AO.tmp rfl Lr) ?_))
 · exact Pt
 refine a3 ?_
 refine Tr.block (Tr.B5 3 1 (Tr.C2 _ (kk [33,10,8,7,6,5,3] rfl) (fun (o:List Int) (k:Nat) u=>[(34,int ((k:Nat):Int)),(16,Af u (ints o))]) (fun (o:List Int) (k:Nat) u=>Hp M0 w0 Fa ([Au 3 1 u])) (fun (o:List Int) (k:Nat)=>k≤a.BQ.length∧o.length≤k) (fun (o:List Int) (k:Nat)=>a.BQ.length-k) ([]) (0) (.slice none 0 0) (⟨Nat.zero_le _,by simp⟩) ⟨kq,⟨_,rfl,Bn rfl⟩,trivial⟩ (fun _ _ h=>h) ?_))
 rintro o k u ⟨hk0,hol⟩
 refine ac ?_
 refine Tr.seq ?_
 refine Tr.cn rfl ?_ ?_<;>intro h3 q3
 have hk:k<a.BQ.length:=AH h3
 obtain ⟨_,_,_,hea⟩:=mg (i:=((k:Nat):Int)) ha hAe AA AA
 obtain ⟨_,_,_,heb⟩:=mg (i:=((k:Nat):Int)) hb hBe AA AA
 refine a3 ?_
 refine co rfl (CK (J2 heb) rfl rfl rfl) ?_
 refine ac ?_
 refine co rfl (Kk (VA hea heb) rfl rfl rfl rfl) ?_
 refine ac ?_
 refine co rfl (AR rfl (BC.outs fun z hz=>fN heb.ss hz) ⟨kq,kz⟩) (co rfl (Ad.LI 48 rfl AB fun z=>Ad.opf 48 rfl AB fun _=>Ad.le (CE rfl underlying331 vq) (Aw _ Lr)) (co rfl (wq rfl (VL.le vq ZH) (VL.le vq (C4 _ _))) ?_))
 refine ac ?_
 refine wk [50,34,33,17,16,10,8,7,6,5,3] rfl (Tr.ex 50 rfl fun AEc=> ?_)
 refine Tr.cn rfl ?_ ?_<;>intro h4 q4
 refine ap ?_
 refine TO.DZ 0 rfl rfl AB (B4 rfl rfl rfl rfl underlying22 CH IQ z3 H_ GH (Az BJ Kl)) (fun v1=> ?_)
 refine ap ?_
 refine wk [34,33,16,10,8,7,6,5,3] rfl ?_
 refine ac ?_
 exact Fin.Bg (o++[((k:Nat):Int)]) (k+1) v1 (⟨⟨by omega,by simp;omega⟩,by omega⟩) ⟨⟨_,rfl,AG k⟩,⟨_,rfl,BA DB⟩,kz⟩ (fun _ _ h=>h)
 refine a2 ?_
 exact Fin.Bg (o) (k+1) u (⟨⟨by omega,by omega⟩,by omega⟩) ⟨⟨_,rfl,AG k⟩,⟨_,rfl,BA rfl⟩,kz⟩ (fun _ _ h=>h)
 have hk:=AJ h3
 refine a2 ?_
 refine Tr.ret (Fin.BU rfl (AO.tmp rfl Lr) (AO.tmp rfl Lr) ?_)
 · exact Xr
def G8 (n:Nat) (m:Nat→Nat→Bool):List (List Bool):=(List.range n).map fun a=>(List.range n).map (m a)
theorem H9 (n:Nat) (m:Nat→Nat→Bool):(G8 n m).length=n:=by unfold G8;simp
theorem Ke {n:Nat} (m:Nat→Nat→Bool) {a:Nat} (h:a<n):(G8 n m)[a]? =some ((List.range n).map (m a)):=by
 unfold G8;rw [List.getElem?_map,List.getElem?_range h];rfl
theorem Kg {n:Nat} (m:Nat→Bool) {b:Nat} (h:b<n):((List.range n).map m)[b]? =some (m b):=by
 rw [List.getElem?_map,List.getElem?_range h];rfl
theorem TG {n:Nat} {m m':Nat→Nat→Bool} (h:lG n m m'):G8 n m=G8 n m':=by
 unfold G8
 refine List.map_congr_left fun a ha=>List.map_congr_left fun b hb=>h a b (List.mem_range.1 ha) (List.mem_range.1 hb)
theorem mj {n:Nat} {m:Nat→Nat→Bool} {i j:Nat} (hi:i<n) (hj:j<n):(G8 n m).set i (((List.range n).map (m i)).set j true)=G8 n (Uv m i j):=by
 apply List.ext_getElem?
 intro a
 rw [List.getElem?_set]
 by_cases h:i=a
 ·
  subst h
  rw [if_pos rfl,if_pos (by rw [H9];exact hi),Ke _ hi]
  congr 1
  apply List.ext_getElem?
  intro b
  rw [List.getElem?_set]
  by_cases h2:j=b
  ·
   subst h2
   rw [if_pos rfl,if_pos F3,Kg _ hj]
   unfold Uv;rw [if_pos ⟨rfl,rfl⟩]
  ·
   rw [if_neg h2]
   rcases Nat.lt_or_ge b n with hb|hb
   · rw [Kg _ hb,Kg _ hb];unfold Uv;rw [if_neg (fun h3=>h2 h3.2.symm)]
   · rw [List.getElem?_eq_none FL,List.getElem?_eq_none FL]
 ·
  rw [if_neg h]
  rcases Nat.lt_or_ge a n with ha|ha
  ·
   rw [Ke _ ha,Ke _ ha]
   congr 1
   refine List.map_congr_left fun b _=> ?_
   unfold Uv;rw [if_neg (fun h3=>h h3.1.symm)]
  · rw [List.getElem?_eq_none (by rw [H9];exact ha),List.getElem?_eq_none (by rw [H9];exact ha)]
theorem ZL {l:List BO} {q:Nat} {r:BO} (h:l[q]? =some r) (h0:0≤r.fst) (h1:0≤r.thn):GK (l.take (q+1))=Uv (GK (l.take q)) r.fst.toNat r.thn.toNat:=by
 funext a b
 have e:l.take (q+1)=l.take q++[r]:=by rw [List.take_add_one,h];rfl
 unfold GK Uv
 rw [e,List.any_append]
 by_cases hc:a=r.fst.toNat∧b=r.thn.toNat
 ·
  have h2:([r].any fun r=>decide (r.fst=(a:Int))&&decide (r.thn=(b:Int)))=true:=by simp;omega
  rw [if_pos hc,h2,Bool.or_true]
 ·
  have h2:([r].any fun r=>decide (r.fst=(a:Int))&&decide (r.thn=(b:Int)))=false:=by simp;omega
  rw [if_neg hc,h2,Bool.or_false]
theorem fP (n:Nat) (l:List BO):G8 n (GK (l.take 0))=List.replicate n (List.replicate n false):=by
 unfold G8 GK
 rw [List.eq_replicate_iff]
 refine ⟨by simp,fun b hb=> ?_⟩
 obtain ⟨a,_,rfl⟩:=List.mem_map.1 hb
 rw [List.eq_replicate_iff]
 refine ⟨by simp,fun c hc=> ?_⟩
 obtain ⟨d,_,rfl⟩:=List.mem_map.1 hc
 simp
abbrev slv (n:Nat) (x:Nat×List Bool):Value:=JH n x.1
abbrev AEd (n:Nat) (m:Nat→Nat→Bool):Pr:=slice 1 ((G8 n m).map fun row=>[slice 1 (row.map fun b=>[bool b])])
theorem Nf {n:Nat} {m:Nat→Nat→Bool} {X:List (Nat×List Bool)} {a:Nat} {x:Nat×List Bool} (hX:X.map (·.2)=G8 n m) (hx:X[a]? =some x) (ha:a<n):x.2=(List.range n).map (m a):=by
 have h:=congrArg (fun l=>l[a]?) hX
 simp only [List.getElem?_map,hx,Option.map_some] at h
 rw [Ke m ha] at h
 simpa using h
theorem cT {n:Nat} {m:Nat→Nat→Bool} {X:List (Nat×List Bool)} {i j:Nat} {x:Nat×List Bool} (hX:X.map (·.2)=G8 n m) (hx:X[i]? =some x) (hi:i<n) (hj:j<n):(X.set i (x.1,x.2.set j true)).map (·.2)=G8 n (Uv m i j):=by
 rw [List.map_set,hX,Nf hX hx hi];exact mj hi hj
theorem cU {e:TypeId} {X:List (Nat×List Bool)} {k:Nat} {x:Nat×List Bool} (h:X[k]? =some x):(HA (G7 e) X)[k]? =some (AF true x.1 e (x.2.map fun b=>bool b)):=cH (f:=fun x:Nat×List Bool=>AF true x.1 e (x.2.map fun b=>bool b)) h
theorem mm {n:Nat} {m:Nat→Nat→Bool} {X:List (Nat×List Bool)} {a c:Nat} {x:Nat×List Bool} (hX:X.map (·.2)=G8 n m) (hx:X[a]? =some x) {v:Bool} (ha:a<n) (hc:c<n) (hv:m a c=v):(x.2.map fun b=>bool b)[0+c*1]? =some (bool v):=by
 subst hv
 rw [Nf hX hx ha,Nat.zero_add,Nat.mul_one,List.getElem?_map,Kg _ hc];rfl
theorem mo {n:Nat} {m:Nat→Nat→Bool} {X:List (Nat×List Bool)} (hX:X.map (·.2)=G8 n m):∀x∈X,x.2.length=n:=fun x hx=>by
 obtain ⟨i,hi⟩:=List.mem_iff_getElem?.1 hx
 have hl:i<n:=by
  have h:=congrArg List.length hX
  rw [List.length_map,H9] at h
  rcases Nat.lt_or_ge i X.length with h'|h'
  · omega
  · rw [List.getElem?_eq_none h'] at hi;cases hi
 rw [Nf hX hi hl,List.length_map,List.length_range]
theorem mq {n:Nat} {m:Nat→Nat→Bool} {X:List (Nat×List Bool)} (hX:X.map (·.2)=G8 n m):(X.map fun x=>[slice 1 (x.2.map fun b=>[bool b])])=(G8 n m).map fun row=>[slice 1 (row.map fun b=>[bool b])]:=by rw [←hX,List.map_map];rfl
theorem cV {l:List Bool} {j:Nat} (h:j<l.length):List.take (0+j*1) (l.map fun b=>bool b)++[is (Value.bool true)]++List.drop (0+j*1+1) (l.map fun b=>bool b)=(l.set j true).map fun b=>bool b:=by
 rw [List.map_set,List.set_eq_take_append_cons_drop,if_pos Dw];simp
theorem RZ {X:List (Nat×List Bool)} {bs:List Nat} {i:Nat} {x:Nat×List Bool} (h:X.map (·.1)=bs) (hx:X[i]? =some x):bs[i]? =some x.1:=by rw [←h,List.getElem?_map,hx];rfl
theorem cW {X:List (Nat×List Bool)} {bs:List Nat} {i:Nat} {x:Nat×List Bool} {r:List Bool} (h:X.map (·.1)=bs) (hx:X[i]? =some x):(X.set i (x.1,r)).map (·.1)=bs:=by
 have hb:=RZ h hx
 rw [List.map_set,h]
 apply List.ext_getElem?
 intro k
 rw [List.getElem?_set]
 split
 · rename_i e;subst e;rw [if_pos (by rcases Nat.lt_or_ge i bs.length with h'|h';exact h';rw [List.getElem?_eq_none h'] at hb;cases hb),hb]
 · rfl
theorem TH {n:Nat} {l:List BO} (hn:n≤24) (hl:l.length≤1000000) (hr:∀r∈l,(0≤r.fst∧r.fst<(n:Nat))∧0≤r.thn∧r.thn<(n:Nat)):BC prog 116 [int ((n:Nat):Int),reqs l] (AEd n (Cu l n)):=by
 refine fo func116 rfl ⟨rfl,rfl⟩ fun M0 w0=> ?_
 refine a3 ?_
 refine Tr.block (Tr.B5 160 1 (Tr.C2 _ (kk [11,1,0] rfl) (fun (X:List (Nat×List Bool)) (k:Nat) u=>[(12,int ((k:Nat):Int)),(5,Af u (slice 1 (X.map fun x=>[is (slv n x)])))]) (fun (X:List (Nat×List Bool)) (k:Nat) u=>Hp M0 w0 Fa (Au 160 1 u::HA (G7 4) X)) (fun (X:List (Nat×List Bool)) (k:Nat)=>(k≤n∧X.length=k)∧X.map (·.2)=List.replicate k (List.replicate n false)) (fun (X:List (Nat×List Bool)) (k:Nat)=>n-k) ([]) (0) (.slice none 0 0) (⟨⟨Nat.zero_le _,rfl⟩,rfl⟩) ⟨kq,⟨_,rfl,Bn rfl⟩,trivial⟩ (fun _ _ h=>h) ?_))
 rintro X k u ⟨⟨hkn,hXl⟩,hX⟩
 refine ac ?_
 refine Tr.seq ?_
 refine Tr.cn rfl ?_ ?_<;>intro h1 q1
 have hk:k<n:=AH h1
 refine ac ?_
 refine ao ?_
 refine TO.UE rfl rfl AB rfl underlying160 VO by4 z4 rfl vq vq Fj AA (fun b1=> ?_)
 refine tp rfl (AM (xs:=[.tmp 16]) (rows:=[[is (JH n b1)]]) rfl rfl underlying158 Ny z160 rfl AB ⟨⟨Am,VL.le vq (Aa _)⟩,trivial⟩ AB) ?_
 refine TO.DZ 1 rfl rfl AB (B4 rfl rfl rfl rfl underlying158 Ny zJ z160 H_ GH (Az BJ Kl)) (fun v1=> ?_)
 refine ao ?_
 refine ac ?_
 refine Fin.nW 0 ((List.replicate n false).map fun b=>bool b) rfl mF (Fin.fold (res:=G7 4) [_] (b1,List.replicate n false) rfl ?_)
 exact Fin.Bg (X++[(b1,List.replicate n false)]) (k+1) v1 (⟨⟨⟨by omega,by simp;omega⟩,by rw [List.map_append,hX,List.replicate_succ'];rfl⟩,by omega⟩) ⟨⟨_,rfl,AG k⟩,⟨_,rfl,BA DB⟩,kz⟩ (fun _ _ h=>h)
 have hk:=AJ h1
 refine a2 ?_
 refine Tr.block ?_
 obtain ⟨bs,hbs⟩:∃bs,X.map (·.1)=bs:=⟨_,rfl⟩
 refine Tr.re 5 rfl (Pr.le_trans (At _ _) (Pr.le_of_eq (show _=slice 1 (bs.map fun b=>[is (JH n b)]) by rw [←hbs,List.map_map];rfl))) ?_
 refine Tr.drop 0 (Tr.DE _ (kk [21,20,5,0] rfl) (fun (X1:List (Nat×List Bool)) (q:Nat)=>[(22,int ((q:Nat):Int))]) (fun (X1:List (Nat×List Bool)) (q:Nat)=>Hp M0 w0 Fa (HA (G7 4) X1)) (fun (X1:List (Nat×List Bool)) (q:Nat)=>q≤l.length∧(X1.map (·.1)=bs∧X1.map (·.2)=G8 n (GK (l.take q)))) (fun (X1:List (Nat×List Bool)) (q:Nat)=>l.length-q) (X) (0)  (⟨Nat.zero_le _,hbs,by rw [hX,fP,show k=n by omega]⟩) kz (fun _ _ h=>h) ?_)
 rintro X1 q  ⟨hq0,Rp,hX1⟩
 refine ac ?_
 refine Tr.seq ?_
 refine Tr.cn rfl ?_ ?_<;>intro h2 q2
 have hq:q<l.length:=AH h2
 obtain ⟨r,hrq⟩:=at_ hq
 have fQ:=hr r (List.mem_of_getElem? hrq)
 have AFn:X1.length=n:=by have:=congrArg List.length hX1;rw [List.length_map,H9] at this;exact this
 obtain ⟨x,hx⟩:=at_ (l:=X1) (k:=r.fst.toNat) AA
 have hxl:x.2.length=n:=by rw [Nf hX1 hx AA,List.length_map,List.length_range]
 refine ac ?_
 refine Tr.seq (Tr.block (Tr.seq (Tr.An (tp rfl (AD rfl underlying33 Cg vq vq AA (AX hrq)) (tp rfl (AL rfl FB Cg vq rfl rfl) ?_)))))
 refine Tl rfl rfl rfl rfl Rs QN (fun b2=> ?_)
 refine sf 0 7 ⟨rfl,rfl,rfl⟩ rfl rfl rfl rfl ?_
 refine ao ?_
 refine Tr.focus [] hx rfl (Tr.rx ?_)
 refine ay ?_
 refine xo rfl (fun _=>AD rfl underlying158 Ny vq vq AA (Bm (RZ Rp hx))) ?_
 refine ay ?_
 refine xo rfl (fun _=>Bb rfl underlying160 VO vq vq AA AA) ?_
 refine Cx.Dr 0 rfl rfl (A_ rfl rfl vq N0 VO rfl EM rfl) ?_
 refine Cx.nil ⟨by kernel_rfl,?_⟩
 refine BH.done al1 ?_
 refine ac ?_
 refine wk [22,21,20,5,0] rfl ?_
 refine ac ?_
 refine Fin.nW 0 ((x.2.set r.thn.toNat true).map fun b=>bool b) rfl (cV AA) (Fin.US (res:=G7 4) [] (x.1,x.2.set r.thn.toNat true) (show r.fst.toNat<X1.length by omega) rfl ?_)
 exact Fin.DO (X1.set r.fst.toNat (x.1,x.2.set r.thn.toNat true)) (q+1)  (⟨⟨by omega,cW Rp hx,by rw [ZL hrq fQ.1.1 fQ.2.1];exact cT hX1 hx AA AA⟩,by omega⟩) ⟨⟨_,rfl,AG q⟩,kz⟩ (fun _ _ h=>h)
 have hq:=AJ h2
 refine a2 ?_
 refine Tr.block ?_
 refine Tr.DE _ (kk [35,5,0] rfl) (fun (X2:List (Nat×List Bool)) (k2:Nat)=>[(36,int ((k2:Nat):Int))]) (fun (X2:List (Nat×List Bool)) (k2:Nat)=>Hp M0 w0 Fa (HA (G7 4) X2)) (fun (X2:List (Nat×List Bool)) (k2:Nat)=>k2≤n∧(X2.map (·.1)=bs∧X2.map (·.2)=G8 n (Cu l k2))) (fun (X2:List (Nat×List Bool)) (k2:Nat)=>n-k2) (X1) (0)  (⟨Nat.zero_le _,Rp,by rw [hX1,List.take_of_length_le hq];rfl⟩) kz (fun _ _ h=>h) ?_
 rintro X2 k2  ⟨hk2,VK,hX2⟩
 refine ac ?_
 refine Tr.seq ?_
 refine Tr.cn rfl ?_ ?_<;>intro h3 q3
 have AFo:k2<n:=AH h3
 refine a3 ?_
 refine Tr.block ?_
 refine Tr.DE _ (kk [39,36,35,8,5,0] rfl) (fun (X3:List (Nat×List Bool)) (i:Nat)=>[(40,int ((i:Nat):Int))]) (fun (X3:List (Nat×List Bool)) (i:Nat)=>Hp M0 w0 Fa (HA (G7 4) X3)) (fun (X3:List (Nat×List Bool)) (i:Nat)=>i≤n∧(X3.map (·.1)=bs∧X3.map (·.2)=G8 n (Ip k2 (Cu l k2) i 0))) (fun (X3:List (Nat×List Bool)) (i:Nat)=>n-i) (X2) (0)  (⟨Nat.zero_le _,VK,by rw [ABI];exact hX2⟩) kz (fun _ _ h=>h) ?_
 rintro X3 i  ⟨hi0,hb3,hX3⟩
 refine ac ?_
 refine Tr.seq ?_
 refine Tr.cn rfl ?_ ?_<;>intro h4 q4
 have GC:i<n:=AH h4
 refine a3 ?_
 refine Tr.block (Tr.DE _ (kk [43,40,39,36,35,9,8,5,0] rfl) (fun (X4:List (Nat×List Bool)) (j:Nat)=>[(44,int ((j:Nat):Int))]) (fun (X4:List (Nat×List Bool)) (j:Nat)=>Hp M0 w0 Fa (HA (G7 4) X4)) (fun (X4:List (Nat×List Bool)) (j:Nat)=>j≤n∧(X4.map (·.1)=bs∧X4.map (·.2)=G8 n (Ip k2 (Cu l k2) i j))) (fun (X4:List (Nat×List Bool)) (j:Nat)=>n-j) (X3) (0)  (⟨Nat.zero_le _,hb3,hX3⟩) kz (fun _ _ h=>h) ?_)
 rintro X4 j  ⟨hj0,hb4,hX4⟩
 refine ac ?_
 refine Tr.seq ?_
 refine Tr.cn rfl ?_ ?_<;>intro h5 q5
 have hjl:j<n:=AH h5
 have AFp:X4.length=n:=by have:=congrArg List.length hX4;rw [List.length_map,H9] at this;exact this
 obtain ⟨xi,hxi⟩:=at_ (l:=X4) (k:=i) AA
 obtain ⟨xk,hxk⟩:=at_ (l:=X4) (k:=k2) AA
 have AFq:xi.2.length=n:=by rw [Nf hX4 hxi AA,List.length_map,List.length_range]
 have AFr:xk.2.length=n:=by rw [Nf hX4 hxk AA,List.length_map,List.length_range]
 refine a3 ?_
 refine co rfl (AD rfl underlying158 Ny vq vq AA (AX (RZ hb4 hxi))) ?_
 refine ac ?_
 refine co rfl (Bb rfl underlying160 VO vq vq AA AA) ?_
 refine co rfl (C7 i (cU hxi) (BI rfl Vu vq (mm (c:=k2) hX4 hxi AA AA (rG k2 (Cu l k2) i j i)))) ?_
 refine cm rfl ?_
 refine Ch.cs 54 rfl ?_ ?_<;>intro h6 q6
 refine ac ?_
 refine cy h6 rfl (AD rfl underlying158 Ny vq vq AA (AX (RZ hb4 hxk))) ?_
 refine ac ?_
 refine cy h6 rfl (Bb rfl underlying160 VO vq vq AA AA) ?_
 refine cy h6 rfl (C7 k2 (cU hxk) (BI rfl Vu vq (mm (c:=j) hX4 hxk AA AA (rH k2 (Cu l k2) i j j)))) ?_
 refine ac ?_
 refine wk [62,44,43,40,39,36,35,10,9,8,5,0] rfl ?_
 refine Tr.cn rfl ?_ ?_<;>intro h7 q7
 refine Tr.focus [] hxi rfl ?_
 refine ao ?_
 refine tp rfl (AD rfl underlying158 Ny vq vq AA (AX (RZ hb4 hxi))) ?_
 refine ao ?_
 refine tp rfl (Bb rfl underlying160 VO vq vq AA AA) ?_
 refine TO.Dr 0 rfl rfl (A_ rfl rfl vq N0 VO rfl EM rfl) ?_
 refine ao ?_
 refine wk [44,43,40,39,36,35,9,8,5,0] rfl ?_
 refine ac ?_
 refine Fin.nW 0 ((xi.2.set j true).map fun b=>bool b) rfl (cV AA) (Fin.US (res:=G7 4) [] (xi.1,xi.2.set j true) (show i<X4.length by omega) rfl ?_)
 exact Fin.DO (X4.set i (xi.1,xi.2.set j true)) (j+1)  (⟨⟨by omega,cW hb4 hxi,(by rw [←rI Bt Bt];exact cT hX4 hxi AA AA)⟩,by omega⟩) ⟨⟨_,rfl,AG j⟩,kz⟩ (fun _ _ h=>h)
 refine a2 ?_
 exact Fin.DO (X4) (j+1)  (⟨⟨by omega,hb4,(by rw [←lF CY];exact hX4)⟩,by omega⟩) ⟨⟨_,rfl,AG j⟩,kz⟩ (fun _ _ h=>h)
 refine ac ?_
 refine wk [62,44,43,40,39,36,35,10,9,8,5,0] rfl ?_
 refine a2 ?_
 exact Fin.DO (X4) (j+1)  (⟨⟨by omega,hb4,(by rw [←lF CY];exact hX4)⟩,by omega⟩) ⟨⟨_,rfl,AG j⟩,kz⟩ (fun _ _ h=>h)
 have hje:=AJ h5
 refine a2 ?_
 exact Fin.DO (X4) (i+1)  (⟨⟨by omega,hb4,by rw [hX4,show j=n by omega];exact TG lH⟩,by omega⟩) ⟨⟨_,rfl,AG i⟩,kz⟩ (fun _ _ h=>h)
 have hie:=AJ h4
 refine a2 ?_
 exact Fin.DO (X3) (k2+1)  (⟨⟨by omega,hb3,by rw [hX3,show i=n by omega];exact TG rJ⟩,by omega⟩) ⟨⟨_,rfl,AG k2⟩,kz⟩ (fun _ _ h=>h)
 have AFs:=AJ h3
 refine ac ?_
 refine Tr.seq ?_
 have AEe:k2=n:=by omega
 refine Tr.r6 (m:=n) (X:=X2) [] 5 rfl Fj (mo hX2) rfl (Pr.le_of_eq (by rw [←VK,List.map_map];rfl)) ?_
 refine Tr.drop 0 ?_
 refine a2 ?_
 · subst AEe;exact Pr.le_of_eq (congrArg (slice 1) (mq hX2))
theorem ZM {n:Int} {l:List BO} (hl:l.length≤1000000):BC prog 144 [int n,reqs l] (int (BM n l)):=by
 refine fo func144 rfl ⟨rfl,rfl⟩ fun M0 w0=>(Tr.Cf 1 rfl fun FC=> ?_)
 refine ac ?_
 refine ag ?_ ?_<;>intro h1 q1
 refine a3 ?_
 · exact int_eq (KW AA).symm
 refine an ?_ ?_<;>intro h2 q2
 refine a2 ?_
 · exact int_eq (KW AA).symm
 obtain ⟨N,rfl⟩:∃N:Nat,n=(N:Int):=⟨n.toNat,by omega⟩
 refine a2 ?_
 refine Tr.block (Tr.BE _ (kk [17,16,1,0] rfl) (fun k:Nat=>[(18,int ((k:Nat):Int))]) (fun k:Nat=>k≤(l).length∧(∀j y,j<k→l[j]? =some y→FJ N y=false)) (fun k:Nat=>(l).length-k) 0 (⟨Nat.zero_le _,fun j y hj=>absurd hj AA⟩) kz ?_)
 rintro k ⟨BV,AZ⟩
 refine ac ?_
 refine Tr.seq ?_
 refine Tr.cn rfl ?_ ?_<;>intro h3 q3
 have Ai:k<(l).length:=AH h3
 obtain ⟨r,Ah⟩:=at_ Ai
 refine ac ?_
 refine Tr.seq (Tr.block (Tr.seq (Tr.An (tp rfl (AD rfl underlying33 Cg vq vq AA (AX Ah)) (tp rfl (AL rfl FB Cg vq rfl rfl) ?_)))))
 refine Tl rfl rfl rfl rfl Rs QN (fun b1=> ?_)
 refine sf 0 6 ⟨rfl,rfl,rfl⟩ rfl rfl rfl rfl ?_
 refine ao ?_
 · repeat' first|(exact int_eq (Po AA Ah uH).symm)|(exact Fin.AP (k+1) ⟨⟨Ai,ED (p:=FJ N) Ah aC AZ⟩,by omega⟩ ⟨⟨_,rfl,AG k⟩,kz⟩)|refine ac ?_|(refine Tr.cn rfl ?_ ?_<;>intro h q)|(refine Ch.cg rfl rfl rfl ?_ ?_<;>intro h q)
 have BL:k=(l).length:=by have:=AJ h3;omega
 subst BL
 have hbs:=cC AZ
 have fQ:∀r∈l,(0≤r.fst∧r.fst<(N:Nat))∧0≤r.thn∧r.thn<(N:Nat):=fun r hr=>by
  have h_:=hbs r hr
  unfold FJ at h_;rw [decide_eq_false_iff_not] at h_;omega
 refine a2 ?_
 refine Tr.block (Tr.MC _ (kk [1,0] rfl) (fun (i:Nat)=>[(7,int ((i:Nat):Int))]) (fun (i:Nat)=>Hp M0 w0 Fa ([])) (fun (i:Nat)=>(1≤i∧(i≤l.length∨i=1))∧∀(j:Nat) a b,j+1<i→l[j]? =some a→l[j+1]? =some b→Ej a b=true) (fun (i:Nat)=>l.length-i) (1)  (⟨⟨by omega,.inr rfl⟩,fun j a b hj=>absurd hj AA⟩) kz (fun _ _ h=>h) ?_)
 rintro i  ⟨⟨hi1,hi2⟩,hso⟩
 refine an ?_ ?_<;>intro h9 q9
 have GC:i<l.length:=AH h9
 obtain ⟨x,hx⟩:=at_ GC
 obtain ⟨y,hy⟩:=at_ (l:=l) (k:=i-1) AA
 · repeat' first|exact int_eq (U0 AA hbs AA hy hx CY).symm|(exact Fin.MD (i+1)  (⟨⟨⟨by omega,.inl AA⟩,Jx hx (fun z _ hz=>by rw [hy] at hz;cases hz;simp_all) hso⟩,by omega⟩) ⟨⟨_,rfl,AG i⟩,kz⟩ (fun _ _ h=>h))|(refine co rfl (AD rfl underlying33 Cg vq vq AA Z1) ?_)|refine co rfl (AD rfl underlying33 Cg vq vq AA (AX hx)) (co rfl (AL rfl FB Cg vq rfl rfl) (co rfl (CK (S0) rfl rfl rfl) ?_))|refine ac ?_|(refine Tr.cn rfl ?_ ?_<;>intro h q)
 have hie:=AJ h9
 have hsr:Dv l=true:=RO fun j a b hj=>hso j a b AA
 refine a2 ?_
 refine co rfl (CK (TH (n:=N) (l:=l) AA hl fQ) rfl rfl rfl) ?_
 refine a2 ?_
 refine Tr.block (Tr.MC _ (kk [70,8] rfl) (fun (m:Nat)=>[(71,int ((m:Nat):Int))]) (fun (m:Nat)=>Hp M0 w0 Fa ([])) (fun (m:Nat)=>m≤N∧∀i,i<m→Cu l N i i=false) (fun (m:Nat)=>N-m) (0)  (⟨Nat.zero_le _,fun i hi=>absurd hi AA⟩) kz (fun _ _ h=>h) ?_)
 rintro m  ⟨hm0,hwn⟩
 refine ac ?_
 refine Tr.seq ?_
 refine Tr.cn rfl ?_ ?_<;>intro h11 Rt
 have hm:m<N:=AH h11
 · repeat' first|exact int_eq (RN AA hbs hsr hm Bt).symm|(exact Fin.MD (m+1)  (⟨⟨by omega,fun i hi=>by rcases Nat.lt_or_eq_of_le (Nat.le_of_lt_succ hi) with h_|h_;exact hwn i h_;(subst h_;assumption)⟩,by omega⟩) ⟨⟨_,rfl,AG m⟩,kz⟩ (fun _ _ h=>h))|refine co rfl (AD rfl underlying158 Ny vq vq AA (AX (Ke _ hm))) ?_|refine co rfl (AD rfl underlying160 VO vq vq AA (AX (Kg _ hm))) ?_|refine ac ?_|(refine Tr.cn rfl ?_ ?_<;>intro h q)
 have hme:=AJ h11
 refine a3 ?_
 · exact int_eq (U1 AA hbs hsr fun i hi=>hwn i AA).symm
theorem Iy {n:Int} {l:List BO} (hl:l.length≤1000000):BC prog 81 [int n,reqs l] (int (BM n l)):=by
 refine fo func81 rfl ⟨rfl,rfl⟩ fun M0 w0=> ?_
 refine a2 ?_
 refine co rfl (CK (ZM hl) rfl rfl rfl) ?_
 refine a2 ?_
 · exact Lr
theorem Ng {a b:List Int} (hab:a.length≤b.length):BC prog 298 [ints a,ints b] (EE):=by
 refine fo func298 rfl ⟨rfl,rfl⟩ fun M0 w0=>(Tr.Cf 0 rfl fun EH=>(Tr.Cf 1 rfl fun FC=> ?_))
 refine a2 ?_
 refine Tr.block (Tr.BE _ (kk [7,1,0] rfl) (fun k:Nat=>[(8,int ((k:Nat):Int))]) (fun k:Nat=>k≤(a).length) (fun k:Nat=>(a).length-k) 0 (Nat.zero_le _) kz ?_)
 rintro k BV
 refine ac ?_
 refine Tr.seq ?_
 refine Tr.cn rfl ?_ ?_<;>intro h1 q1
 have Ai:k<(a).length:=AH h1
 obtain ⟨x,Ah⟩:=at_ Ai
 obtain ⟨y,hy⟩:=at_ (l:=b) (k:=k) AA
 · repeat' first|exact Aw _ Lr|exact Fin.AP (k+1) ⟨Ai,by omega⟩ ⟨⟨_,rfl,AG k⟩,kz⟩|refine co rfl (AD rfl underlying51 CH vq vq AA (AX Ah)) ?_|refine co rfl (AD rfl underlying51 CH vq vq AA (AX hy)) ?_|refine ac ?_|(refine Tr.cn rfl ?_ ?_<;>intro h q)
 have BL:k=(a).length:=by have:=AJ h1;omega
 refine a3 ?_
 · exact BF
theorem TI {a b:List Int}  :BC prog 281 [ints a,ints b] (EE):=by
 refine fo func281 rfl ⟨rfl,rfl⟩ fun M0 w0=>(Tr.Cf 0 rfl fun EH=>(Tr.Cf 1 rfl fun FC=> ?_))
 refine ac ?_
 refine ap ?_
 refine TO.cases 10 rfl (fun h1=> ?_) (fun h1=> ?_)
 have q1:=Co.C_ h1
 refine TO.FG rfl rfl rfl h1 rfl AB (BK rfl vq) (TO.FG rfl rfl rfl h1 rfl AB (BK rfl vq) (TO.FG rfl rfl rfl h1 rfl AB (CK (Ng AA) rfl rfl rfl) (TO.ex 13 rfl fun z13=>(TO.FG rfl rfl rfl h1 rfl AB (Gs rfl vq) ?_))))
 refine ap ?_
 refine TO.cases 16 rfl (fun h2=> ?_) (fun h2=> ?_)
 have q2:=Co.C_ h2
 refine TO.FG rfl rfl rfl h2 rfl AB (BK rfl vq) (TO.FG rfl rfl rfl h2 rfl AB (BK rfl vq) (TO.FG rfl rfl rfl h2 rfl AB (CK (Ng AA) rfl rfl rfl) (TO.ex 19 rfl fun z19=>(TO.FG rfl rfl rfl h2 rfl AB (Gs rfl vq) ?_))))
 refine ap ?_
 refine wk [4] rfl ?_
 refine ac ?_
 · exact BF
 have q2:=Co.C_ h2
 iterate 4 refine TO.UU rfl rfl rfl (Ba h2) rfl AB ?_
 refine ap ?_
 refine wk [4] rfl ?_
 refine ac ?_
 · exact BF
 have q1:=Co.C_ h1
 iterate 4 refine TO.UU rfl rfl rfl (Ba h1) rfl AB ?_
 refine ap ?_
 iterate 4 refine TO.UU rfl rfl rfl (Ba rfl) rfl AB ?_
 refine ap ?_
 refine wk [4] rfl ?_
 refine ac ?_
 · exact BF
theorem VB {a b:List Int}  :BC prog 252 [ints a,ints b] (EE):=by
 refine fo func252 rfl ⟨rfl,rfl⟩ fun M0 w0=> ?_
 refine a2 ?_
 refine co rfl (CK (TI) rfl rfl rfl) ?_
 refine a2 ?_
 · exact Lr
abbrev sets (l:List (List Int)):Pr:=slice 1 (l.map fun s=>[ints s])
structure sG (l:List (List Int)) (s:List Int) (z:List (List Int)):Prop where
 mem:∀x∈z,x∈l∨x=s
 le:z.length≤l.length+1
 ge:l.length≤z.length
theorem nh {l:List (List Int)} {s:List Int} {k:Nat} (hk:k≤l.length):sG l s (l.take k++[s]++l.drop k):=by
 refine ⟨fun x hx=> ?_,by simp;omega,by simp;omega⟩
 simp only [List.mem_append,List.mem_singleton] at hx
 rcases hx with (hx|hx)|hx
 · exact .inl (List.mem_of_mem_take hx)
 · exact .inr hx
 · exact .inl (List.mem_of_mem_drop hx)
theorem sH {lo hi:Nat} (h:lo+hi≤1000000):IntKind.i64.wrap (((lo:Int)+(hi:Int)).tdiv 2)=(((lo+hi)/2:Nat):Int):=by
 rw [Int.tdiv_eq_ediv_of_nonneg AA,Gc KA];omega
theorem sI {l:List (List Int)} {s:List Int}:sG l s l:=⟨fun x hx=> .inl hx,by omega,by omega⟩
theorem mu {l:List (List Int)} {s:List Int} (hl:l.length≤100000) (hs:∀x∈l,x.length=s.length):BC prog 297 [sets l,ints s] (Cp.ex fun z:List (List Int)=>fact (sG l s z) (sets z)):=by
 refine fo func297 rfl ⟨rfl,rfl⟩ fun M0 w0=>(Tr.Cf 0 rfl fun EH=> ?_)
 have hml:(l.map fun s=>[ints s]).length=l.length:=List.length_map _
 refine a2 ?_
 refine Tr.seq (Tr.block (Tr.DE _ (kk [1,0] rfl) (fun (lo:Nat) (hi:Nat)=>[(5,int ((lo:Nat):Int)),(6,int ((hi:Nat):Int))]) (fun (lo:Nat) (hi:Nat)=>Hp M0 w0 Fa ([])) (fun (lo:Nat) (hi:Nat)=>lo≤hi∧hi≤l.length) (fun (lo:Nat) (hi:Nat)=>hi-lo) (0) (l.length)  (⟨Nat.zero_le _,Nat.le_refl _⟩) ⟨kq,kz⟩ (fun _ _ h=>h) ?_))
 rintro lo hi  ⟨hlh,hhl⟩
 refine an ?_ ?_<;>intro h1 q1
 have hlt:lo<hi:=AH h1
 obtain ⟨x,hx⟩:=at_ (l:=l) (k:=(lo+hi)/2) AA
 have hxs:=hs x (List.mem_of_getElem? hx)
 refine a2 ?_
 refine co rfl (TW rfl vq vq AA) ?_
 refine ac ?_
 refine Tr.seq (Tr.re 7 rfl (int_eq (sH AA)) ?_)
 refine ac ?_
 refine co rfl (AD rfl underlying99 Ge vq vq AA (AX hx)) ?_
 refine ac ?_
 refine co rfl (CK (Ng AA) rfl rfl rfl) ?_
 refine ac ?_
 refine wk [23,7,6,5,1,0] rfl (Tr.ex 23 rfl fun AFt=> ?_)
 refine Tr.cn rfl ?_ ?_<;>intro h2 q2
 refine ac ?_
 exact Fin.DO (((lo+hi)/2+1)) (hi)  (⟨⟨by omega,by omega⟩,by omega⟩) ⟨kq,kz⟩ (fun _ _ h=>h)
 refine ac ?_
 exact Fin.DO (lo) (((lo+hi)/2))  (⟨⟨by omega,by omega⟩,by omega⟩) ⟨kq,kz⟩ (fun _ _ h=>h)
 have hge:=AJ h1
 refine ac ?_
 refine ap ?_
 refine TO.cases 31 rfl (fun h3=> ?_) (fun h3=> ?_)
 have q3:=Co.C_ h3
 obtain ⟨x2,hx2⟩:=at_ (l:=l) (k:=lo) AA
 refine TO.FG rfl rfl rfl h3 rfl AB (BK rfl vq) (TO.FG rfl rfl rfl h3 rfl AB (BK rfl vq) (TO.FG rfl rfl rfl h3 rfl AB (AD rfl underlying99 Ge vq vq AA (AX hx2)) (TO.FG rfl rfl rfl h3 rfl AB (GX rfl aW rfl) (TO.FG rfl rfl rfl h3 rfl AB (BK rfl vq) (TO.FG rfl rfl rfl h3 rfl AB (CK (TI) rfl rfl rfl) (TO.ex 37 rfl fun z37=> ?_))))))
 refine ap ?_
 refine wk [38,5,1,0] rfl ?_
 refine Tr.cn rfl ?_ ?_<;>intro h4 q4
 refine a2 ?_
 · exact Aw _ (A8 sI Lr)
 refine ac ?_
 refine ap ?_
 refine tp rfl (Dn rfl underlying99 Ge vq vq AA AA) (TO.pad ?_)
 refine TO.DZ 0 rfl rfl AB (EL rfl rfl AB rfl underlying99 Ge Vv z51 rfl AB ⟨_,rfl,AQ _⟩ vq JS JU (Br BJ ⟨_,rfl,DD 1⟩)) (fun v1=> ?_)
 refine ap ?_
 refine ap ?_
 refine TO.DZ 0 rfl rfl AB (B4 rfl rfl rfl rfl underlying99 Ge Vv z51 H_ GH (Az BJ Kl)) (fun v2=> ?_)
 refine ap ?_
 refine wk [8,5,0] rfl ?_
 refine ap ?_
 refine tp rfl (Dh rfl underlying99 Ge vq vq AA AA) ?_
 refine TO.DZ 0 rfl rfl AB (B4 rfl rfl rfl rfl underlying99 Ge Vv z51 H_ vq (Az BJ Kl)) (fun v3=> ?_)
 refine ap ?_
 refine ac ?_
 · exact gr
 have q3:=Co.C_ h3
 iterate 6 refine TO.UU rfl rfl rfl (Ba h3) rfl AB ?_
 refine ap ?_
 refine wk [38,5,1,0] rfl ?_
 refine ac ?_
 refine ap ?_
 refine tp rfl (Dn rfl underlying99 Ge vq vq AA AA) (TO.pad ?_)
 refine TO.DZ 0 rfl rfl AB (EL rfl rfl AB rfl underlying99 Ge Vv z51 rfl AB ⟨_,rfl,AQ _⟩ vq JS JU (Br BJ ⟨_,rfl,DD 1⟩)) (fun v4=> ?_)
 refine ap ?_
 refine ap ?_
 refine TO.DZ 0 rfl rfl AB (B4 rfl rfl rfl rfl underlying99 Ge Vv z51 H_ GH (Az BJ Kl)) (fun v5=> ?_)
 refine ap ?_
 refine wk [8,5,0] rfl ?_
 refine ap ?_
 refine tp rfl (Dh rfl underlying99 Ge vq vq AA AA) ?_
 refine TO.DZ 0 rfl rfl AB (B4 rfl rfl rfl rfl underlying99 Ge Vv z51 H_ vq (Az BJ Kl)) (fun v6=> ?_)
 refine ap ?_
 refine ac ?_
 · exact gr
theorem ZN {o:List Int} (ho:o.length≤1000):BC prog 126 [ints o] (Cp.ex fun z:List BO=>fact (z.length≤o.length) (reqs z)):=by
 refine fo func126 rfl ⟨rfl,rfl⟩ fun M0 w0=>(Tr.Cf 0 rfl fun EH=> ?_)
 refine a3 ?_
 refine Tr.block (Tr.DE _ (kk [0] rfl) (fun (z:List BO) (i:Nat)=>[(3,reqs z),(4,int ((i:Nat):Int))]) (fun (z:List BO) (i:Nat)=>Hp M0 w0 Fa ([])) (fun (z:List BO) (i:Nat)=>(1≤i∧(i≤o.length∨i=1))∧z.length+1≤i) (fun (z:List BO) (i:Nat)=>o.length-i) ([]) (1)  (⟨⟨by omega,.inr rfl⟩,by simp⟩) ⟨⟨_,rfl,AQ 2⟩,kz⟩ (fun _ _ h=>h) ?_)
 rintro z i  ⟨⟨hi1,hi2⟩,hzl⟩
 refine an ?_ ?_<;>intro h1 q1
 have GC:i<o.length:=AH h1
 obtain ⟨x,hx⟩:=at_ GC
 obtain ⟨y,hy⟩:=at_ (l:=o) (k:=i-1) AA
 refine a2 ?_
 refine co rfl (AD rfl underlying22 CH vq vq AA Z1) ?_
 refine ac ?_
 refine co rfl (AD rfl underlying22 CH vq vq AA (AX hx)) ?_
 refine ac ?_
 refine co rfl (CK (Q8 (l:=z) (r:=⟨y,x⟩) AA) rfl rfl rfl) ?_
 refine ac ?_
 refine wk [4,3,0] rfl ?_
 refine ac ?_
 exact Fin.DO ((Fy z ⟨y,x⟩)) (i+1)  (⟨⟨⟨by omega,.inl AA⟩,by have:=Q7 z ⟨y,x⟩;omega⟩,by omega⟩) ⟨kq,⟨_,rfl,AG i⟩,kz⟩ (fun _ _ h=>h)
 have hie:=AJ h1
 refine a3 ?_
 · exact Aw _ (A8 AA Lr)
theorem TJ (n:Nat) (l:List BO):∀k,(DM n l k).2.length≤k
 |0=>Nat.le_refl _
 |k+1=>by
  have h:=TJ n l k
  rw [DM]
  split
  · omega
  ·
   rename_i x _
   have h2:=NT (DM n l k).2 x true
   show (E8 (DM n l k).2 x true).length≤k+1
   omega
theorem ZO {n:Int} {l:List BO} (hl:l.length≤1000000):BC prog 103 [int n,reqs l] (D7 [ints (if BM n l=0 then (DM n.toNat l n.toNat).1 else []),int (BM n l)]):=by
 refine fo func103 rfl ⟨rfl,rfl⟩ fun M0 w0=> ?_
 refine a2 ?_
 refine co rfl (CK (Iy hl) rfl rfl rfl) ?_
 refine ac ?_
 refine an ?_ ?_<;>intro h1 q1
 have hv:BM n l≠0:=by simpa using h1
 refine ac ?_
 refine Tr.ret (Fin.AE (Fin.Dc rfl (Bo.Dy _ _) rfl ?_ rfl ?_))
 · rw [if_neg hv];exact AQ 1
 · exact Lr
 have hv:BM n l=0:=by simpa using h1
 obtain ⟨N,rfl⟩:∃N:Nat,n=(N:Int):=⟨n.toNat,by have:=(DL hv).1;omega⟩
 have Mv:=(DL hv).1
 refine a2 ?_
 refine Tr.seq (Tr.block (Tr.B5 3 1 (Tr.Vp _ (kk [1,0] rfl) (fun (k:Nat) u=>[(7,ints (DM N l k).2),(8,Af u (ints (DM N l k).1))]) (fun (k:Nat) u=>Hp M0 w0 Fa ([Au 3 1 u])) (fun (k:Nat)=>k≤N) (fun (k:Nat)=>N-k) (0) (.slice none 0 0) (Nat.zero_le _) ⟨⟨_,rfl,AQ 1⟩,⟨_,rfl,Bn rfl⟩,trivial⟩ (fun _ _ h=>h) ?_)))
 rintro k u hkN
 have hrow:=Iq hv k (by simpa using hkN)
 rw [Int.toNat_natCast] at hrow
 obtain ⟨fQ,hrl⟩:=hrow
 have hdl:(DM N l k).2.length≤100000:=Nat.le_trans (TJ N l k) AA
 refine ac ?_
 refine co rfl (CW rfl underlying51 H_) ?_
 refine an ?_ ?_<;>intro h2 q2
 have hk:k<N:=by have:=Co.C_ h2;omega
 obtain ⟨x,hx0,hst⟩:=We hv (k:=k) Oq
 rw [Int.toNat_natCast] at hx0 hst
 have ABZ:=AX (f:=fun n:Int=>[int n]) hx0
 refine a2 ?_
 refine co rfl (gL (N8 (n:=N) (l:=l) AA AA) rfl rfl rfl rfl rfl) ?_
 refine ac ?_
 refine Tr.pad (Tr.rx ?_)
 refine ay ?_
 refine xo rfl (fun _=>AD rfl underlying51 CH vq vq AA ABZ) (xo rfl (fun _=>GX rfl DF rfl) (xo rfl (fun _=>AM (xs:=[.tmp 27]) (rows:=[[_]]) rfl rfl underlying51 CH z3 rfl AB ⟨⟨Am,N0⟩,trivial⟩ AB) ?_))
 refine Cx.ef 1 rfl rfl AB (B4 rfl rfl rfl rfl underlying51 CH IQ z3 H_ GH (Az BJ Kl)) ?_
 refine ay ?_
 refine xo rfl (fun _=>AD rfl underlying51 CH vq vq AA ABZ) (xo rfl (fun _=>GX rfl DF rfl) (xo rfl (fun _=>Kk (Gj AA) rfl rfl rfl rfl) (Cx.ef 1 rfl rfl AB (T7 rfl rfl AB rfl vq) (xm rfl ?_))))
 refine Cx.nil ⟨by kernel_rfl,?_⟩
 refine BH.open_ 1 8 rfl rfl (fun v1=> ?_)
 refine BH.done XT (Fin.block (Fin.drop 0 ?_))
 exact Fin.aS (k+1) v1 (⟨by omega,by omega⟩) ⟨⟨_,rfl,Pr.le_of_eq (by rw [hst])⟩,⟨_,rfl,BA (by rw [hst];simp)⟩,kz⟩ (fun _ _ h=>h)
 have cv:k=N:=by have:=Co.C_ h2;omega
 refine a2 ?_
 refine Tr.ret (Fin.Dc rfl (Bo.Dy _ _) rfl ?_ rfl ?_)
 · rw [if_pos hv,Int.toNat_natCast,←cv];exact At _ _
 · refine int_eq ?_;exact hv.symm
structure K6 (n k:Nat) (L:List (List Int)):Prop where
 Uw:∀s∈L,∀x∈s,0≤x∧x<(n:Int)
 len:∀s∈L,s.length=k
theorem Wy {n:Nat} {l:List BO} {s:List Int} {x:Int} (h:x∈GL n l s true):(0≤x∧x<(n:Int))∧x∉s:=by
 unfold GL at h
 obtain ⟨i,hi,rfl⟩:=List.mem_map.1 h
 obtain ⟨h1,h2⟩:=List.mem_filter.1 hi
 have h3:=List.mem_range.1 h1
 refine ⟨by omega,fun hc=> ?_⟩
 unfold OS at h2
 rw [Bool.and_eq_true] at h2
 have:=Ew.2 hc
 rw [this] at h2
 exact absurd h2.1 AB
theorem K6.put {n k:Nat} {l:List BO} {L z:List (List Int)} {s:List Int} {x:Int} (h:K6 n (k+1) L) (hs:s.length=k∧∀y∈s,0≤y∧y<(n:Int)) (hx:x∈GL n l s true) (hp:sG L (E8 s x true) z):K6 n (k+1) z:=by
 have hb:=Wy hx
 refine ⟨fun t ht=> ?_,fun t ht=> ?_⟩
 ·
  rcases hp.mem t ht with h1|rfl
  · exact h.Uw t h1
  ·
   intro y hy
   rcases Gi.1 hy with rfl|hy
   · exact hb.1
   · exact hs.2 y hy
 ·
  rcases hp.mem t ht with h1|rfl
  · exact h.len t h1
  · rw [Me hb.2,hs.1]
theorem fR {n k:Nat}:K6 n k []:=⟨fun _ h=>F1,fun _ h=>F1⟩
theorem fS {n:Nat}:K6 n 0 [[]]:=⟨fun s h x hx=>(by simp at h;subst h;cases hx),fun s h=>(by simp at h;subst h;rfl)⟩
structure K7 (n:Int) (L:List (List Int)):Prop where
 Uw:∀s∈L,∀x∈s,0≤x∧x<n
 len:L.length≤4096
 wid:∀s∈L,s.length≤4096
theorem fT {n d:Nat} {lv ou nx:List (List Int)} (h1:K6 n (d+1) nx) (h2:K7 (n:Int) ou) (h3:lv=[]∨d+1≤ou.length) (hl:ou.length+nx.length≤4096) (hy:lv≠[]):((K6 n (d+1) nx∧K7 (n:Int) (ou++nx))∧(nx=[]∨d+1+1≤(ou++nx).length)∧nx.length≤4096)∧(if nx=[] then 0 else 4097-(ou++nx).length)<(if lv=[] then 0 else 4097-ou.length):=by
 have h4:(ou++nx).length=ou.length+nx.length:=List.length_append
 have h5:=h2.len
 rw [if_neg hy]
 refine ⟨⟨⟨h1,⟨fun s hs=> ?_,by omega,fun s hs=> ?_⟩⟩,?_,by omega⟩,?_⟩
 ·
  rcases List.mem_append.1 hs with hs|hs
  · exact h2.Uw s hs
  · exact h1.Uw s hs
 ·
  rcases List.mem_append.1 hs with hs|hs
  · exact h2.wid s hs
  · rw [h1.len s hs];rcases h3 with h3|h3;exact absurd h3 hy;omega
 ·
  cases nx with
  |nil=>exact .inl rfl
  |cons a m=>right;rcases h3 with h3|h3;exact absurd h3 hy;rw [h4,List.length_cons];omega
 ·
  cases nx with
  |nil=>rw [if_pos rfl];omega
  |cons a m=>rw [if_neg (fun h=>by cases h),h4,List.length_cons];rcases h3 with h3|h3;exact absurd h3 hy;omega
theorem fU {n:Int} {l:List BO} (hl:l.length≤1000000):BC prog 280 [int n,reqs l] (Cp.ex fun z:List (List Int)×Int=>fact (K7 n z.1) (D7 [sets z.1,int z.2])):=by
 refine fo func280 rfl ⟨rfl,rfl⟩ fun M0 w0=> ?_
 refine a2 ?_
 refine co rfl (CK (Iy hl) rfl rfl rfl) ?_
 refine ac ?_
 refine an ?_ ?_<;>intro h1 q1
 refine ac ?_
 refine Tr.ret (Fin.AE (Fin.BU rfl (AO.tmp rfl Lr) (AO.tmp rfl Lr) ?_))
 · exact Xm
 have hv:BM n l=0:=by simpa using h1
 obtain ⟨N,rfl⟩:∃N:Nat,n=(N:Int):=⟨n.toNat,by have:=(DL hv).1;omega⟩
 have Mv:=(DL hv).1
 refine ac ?_
 refine Tr.seq (Tr.Aj (co rfl (AM (xs:=[.const (.slice none 0 0)]) (rows:=[[ints []]]) rfl rfl underlying99 Ge z51 rfl AB ⟨⟨Am,VL.le vq (Pr.le_trans (AQ 1) (Aa _))⟩,trivial⟩ AB) ?_))
 refine ac ?_
 refine Tr.seq (Tr.Aj (co rfl (AM (xs:=[.const (.slice none 0 0)]) (rows:=[[ints []]]) rfl rfl underlying99 Ge z51 rfl AB ⟨⟨Am,VL.le vq (Pr.le_trans (AQ 1) (Aa _))⟩,trivial⟩ AB) ?_))
 refine ac ?_
 refine Tr.seq (Tr.block (Tr.ABU (e:=51) (rows:=[[ints []]]) 8 rfl Lr (fun v8=> ?_)))
 refine Tr.FR _ (kk [1,0] rfl) (fun (lv:List (List Int)) (ou:List (List Int)) (d:Nat) u=>[(7,sets lv),(8,Af u (sets ou))]) (fun (lv:List (List Int)) (ou:List (List Int)) (d:Nat) u=>Hp M0 w0 Fa ([Au 51 1 u])) (fun (lv:List (List Int)) (ou:List (List Int)) (d:Nat)=>(K6 N d lv∧K7 N ou)∧(lv=[]∨d+1≤ou.length)∧lv.length≤4096) (fun (lv:List (List Int)) (ou:List (List Int)) (d:Nat)=>(if lv=[] then 0 else 4097-ou.length)) ([[]]) ([[]]) (0) v8 (⟨⟨fS,⟨fun s h x hx=>(by simp at h;subst h;cases hx),by decide,fun s h=>(by simp at h;subst h;decide)⟩⟩,.inr AB,by decide⟩) ⟨⟨_,rfl,B0 1 _⟩,⟨_,rfl,BA rfl⟩,trivial⟩ (fun _ _ h=>h) ?_
 rintro lv ou d u ⟨⟨hlv,mw⟩,hd,hl4⟩
 refine an ?_ ?_<;>intro h2 q2
 have hy:lv≠[]:=by have h_:=Co.C_ h2;intro h0;subst h0;simp at h_
 have hd4:d+1≤4096:=by have:=mw.len;rcases hd with hd|hd;exact absurd hd hy;omega
 refine a3 ?_
 refine Tr.block ?_
 refine Tr.DE _ (kk [26,25,8,1,0] rfl) (fun (nx:List (List Int)) (m:Nat)=>[(9,sets nx),(27,int ((m:Nat):Int))]) (fun (nx:List (List Int)) (m:Nat)=>Hp M0 w0 Fa ([Au 51 1 u])) (fun (nx:List (List Int)) (m:Nat)=>(m≤lv.length∧K6 N (d+1) nx)∧ou.length+nx.length≤4096) (fun (nx:List (List Int)) (m:Nat)=>lv.length-m) ([]) (0)  (⟨⟨Nat.zero_le _,fR⟩,by have:=mw.len;simpa using this⟩) ⟨⟨_,rfl,AQ 1⟩,kz⟩ (fun _ _ h=>h) ?_
 rintro nx m  ⟨⟨hm0,hnx⟩,YL⟩
 refine ac ?_
 refine Tr.seq ?_
 refine Tr.cn rfl ?_ ?_<;>intro h3 q3
 have hml:m<lv.length:=AH h3
 obtain ⟨s,hs⟩:=at_ hml
 have hsl:=hlv.len s (List.mem_of_getElem? hs)
 refine ac ?_
 refine Tr.seq (Tr.block (Tr.seq (Tr.Aj (co rfl (AD rfl underlying99 Ge vq vq AA (AX hs)) ?_))))
 refine a2 ?_
 refine co rfl (gL (N8 (n:=N) (l:=l) AA AA) rfl rfl rfl rfl rfl) ?_
 refine ac ?_
 refine wk [36,35,34,27,26,25,11,9,8,1,0] rfl (Tr.block (Tr.DE _ (kk [35,34,27,26,25,11,8,1,0] rfl) (fun (ny:List (List Int)) (q:Nat)=>[(9,sets ny),(36,int ((q:Nat):Int))]) (fun (ny:List (List Int)) (q:Nat)=>Hp M0 w0 Fa ([Au 51 1 u])) (fun (ny:List (List Int)) (q:Nat)=>(q≤(GL N l s true).length∧K6 N (d+1) ny)∧ou.length+ny.length≤4096) (fun (ny:List (List Int)) (q:Nat)=>(GL N l s true).length-q) (nx) (0)  (⟨⟨Nat.zero_le _,hnx⟩,YL⟩) ⟨kq,kz⟩ (fun _ _ h=>h) ?_))
 rintro ny q  ⟨⟨hq0,hny⟩,AEf⟩
 refine ac ?_
 refine Tr.seq ?_
 refine Tr.cn rfl ?_ ?_<;>intro h4 q4
 have hql:q<(GL N l s true).length:=AH h4
 have V3:=Wg (n:=N) (l:=l) (s:=s) (add:=true)
 obtain ⟨x,WS⟩:=at_ hql
 refine ac ?_
 refine Tr.seq (Tr.block (Tr.seq (Tr.Aj (co rfl (AD rfl underlying51 CH vq vq AA (AX WS)) ?_))))
 refine ac ?_
 refine wk [36,35,34,27,26,25,13,11,9,8,1,0] rfl ?_
 refine ap ?_
 refine tp rfl (Kk (Gj AA) rfl rfl rfl rfl) ?_
 refine tp rfl (CK (mu AA (fun t ht=>by rw [hny.len t ht,Me (Wy (List.mem_of_getElem? WS)).2];omega)) rfl rfl rfl) ?_
 refine TO.ex 44 rfl (fun z1=>TO.fact 44 rfl fun EY=> ?_)
 have hzl:=EY.le
 refine ap ?_
 refine wk [36,35,34,27,26,25,11,9,8,1,0] rfl ?_
 refine ac ?_
 refine co rfl (CW rfl underlying99 H_) ?_
 refine ac ?_
 refine wk [50,36,35,34,27,26,25,11,9,8,1,0] rfl ?_
 refine Tr.cn rfl ?_ ?_<;>intro h5 q5
 refine ac ?_
 refine wk [5,4] rfl (Tr.ret (Fin.AU (Fin.AE (Fin.AE (Fin.AU (Fin.AU (Fin.AE (Fin.AE (Fin.AU (Fin.AE (Fin.AU (Fin.AE (Fin.AU (Fin.AE ?_))))))))))))))
 refine Fin.BU rfl (AO.tmp rfl Lr) (AO.tmp rfl Lr) ?_
 · exact Xm
 refine a2 ?_
 exact Fin.DO (z1) (q+1)  (⟨⟨⟨by omega,hny.put ⟨hsl,hlv.Uw s (List.mem_of_getElem? hs)⟩ (List.mem_of_getElem? WS) EY⟩,by omega⟩,by omega⟩) ⟨kq,⟨_,rfl,AG q⟩,kz⟩ (fun _ _ h=>h)
 have hqe:=AJ h4
 refine a2 ?_
 exact Fin.DO (ny) (m+1)  (⟨⟨⟨by omega,hny⟩,AEf⟩,by omega⟩) ⟨kq,⟨_,rfl,AG m⟩,kz⟩ (fun _ _ h=>h)
 have hme:=AJ h3
 refine ac ?_
 refine ap ?_
 refine TO.DZ 0 rfl rfl AB (B4 rfl rfl rfl rfl underlying99 Ge Vv z51 H_ vq (Az BJ Kl)) (fun v1=> ?_)
 refine ap ?_
 exact Fin.EC (nx) (ou++nx) (d+1) v1 (fT hnx mw hd YL hy) ⟨kq,⟨_,rfl,BA AV⟩,kz⟩ (fun _ _ h=>h)
 have hy:=h2
 refine a2 ?_
 refine Tr.ret (Fin.BU rfl (AO.tmp rfl Lr) (AO.tmp rfl Lr) ?_)
 · exact Aw (_,_) (A8 mw (A0 ⟨At _ _,Lr,trivial⟩))
theorem mz {β:Type} {p:β→Bool} {l:List β} {k:Nat} {x:β} (h:l[k]? =some x):idx p (l.take (k+1))=if idx p (l.take k)<0 then (if p x=true then (k:Int) else -1) else idx p (l.take k):=by
 have hk:=BN h
 rw [List.take_add_one,h]
 have hl:(l.take k).length=k:=by rw [List.length_take];omega
 show idx p (l.take k++[x])=_
 generalize l.take k=a at hl ⊢
 unfold idx
 rw [List.findIdx?_append]
 cases ha:a.findIdx? p with
 |some i=>simp;intro h3;omega
 |none=>cases hp:p x<;>simp [hp,hl]
theorem fV {β:Type} {p:β→Bool} {l:List β} {k:Nat} {x:β} (h:l[k]? =some x):(((l.take (k+1)).countP p:Nat):Int)=((l.take k).countP p:Nat)+(if p x=true then 1 else 0):=by
 rw [List.take_add_one,h]
 show (((l.take k++[x]).countP p:Nat):Int)=_
 rw [List.countP_append,List.countP_singleton];split<;>simp_all
theorem Mm {β:Type} {p:β→Bool} {l:List β}:idx p l<0↔l.countP p=0:=by
 unfold idx
 cases h:l.findIdx? p with
 |none=>
  rw [List.findIdx?_eq_none_iff] at h
  simp only [show ((none:Option Nat).map fun n=>(n:Int)).getD (-1)= -1 from rfl]
  constructor
  · intro _;rw [List.countP_eq_zero];intro a ha;rw [h a ha];decide
  · intro _;decide
 |some i=>
  rw [List.findIdx?_eq_some_iff_getElem] at h
  obtain ⟨h1,h2,_⟩:=h
  constructor
  · intro h3;exfalso;revert h3;simp
  · intro h3;rw [List.countP_eq_zero] at h3;exact absurd h2 (h3 _ (List.getElem_mem h1))
theorem sJ {β:Type} {p:β→Bool} {l:List β} {k n:Nat} (h:l.length≤n):(l.take k).countP p≤n:=Nat.le_trans List.countP_le_length (Nat.le_trans J7 h)
theorem bsX {l:List Int} {n x:Int} {k:Nat} (h:∀(j:Nat) y,j<k→l[j]? =some y→y<n) (hx:l[k]? =some x) (hlt:x<n):∀(j:Nat) y,j<k+1→l[j]? =some y→y<n:=by
 intro j y hj hy
 rcases Nat.lt_or_eq_of_le (Nat.le_of_lt_succ hj) with h1|h1
 · exact h j y h1 hy
 · subst h1;rw [hx] at hy;cases hy;exact hlt
def G9 (id:Int) (x:JL):Bool:=x.CS==id
def Fc (id:Int) (l:List JL):Int:=((l.countP (G9 id):Nat):Int)
theorem F0 (id:Int) (l:List JL):Bk id l=idx (G9 id) l:=rfl
theorem fW {id:Int} {l:List JL} {k:Nat} {x:JL} (h:l[k]? =some x):Fc id (l.take (k+1))=Fc id (l.take k)+(if x.CS=id then 1 else 0):=by
 unfold Fc;rw [fV h];unfold G9;simp only [beq_iff_eq]
theorem Wz {id:Int} {l:List JL} {k:Nat} {x:JL} (h:l[k]? =some x):Bk id (l.take (k+1))=if Fc id (l.take k)=0 then (if x.CS=id then (k:Int) else -1) else Bk id (l.take k):=by
 rw [F0,F0,mz h]
 have:=Mm (p:=G9 id) (l:=l.take k)
 unfold Fc
 by_cases h2:idx (G9 id) (l.take k)<0
 ·
  have h4:(((l.take k).countP (G9 id):Nat):Int)=0:=by rw [this.1 h2];rfl
  rw [if_pos h2,if_pos h4];unfold G9;simp only [beq_iff_eq]
 · rw [if_neg h2,if_neg (fun h3=>h2 (this.2 AA))]
theorem W0 {id:Int} {l:List JL} (h:Fc id l=0):Bk id l= -1:=by
 have h2:=(Mm (p:=G9 id) (l:=l)).2 (by unfold Fc at h;omega)
 rw [F0];unfold idx at h2 ⊢
 cases h3:l.findIdx? (G9 id) with
 |none=>rfl
 |some i=>rw [h3] at h2;simp at h2;omega
def HR (e:B7) (k:Int):Int×Bool:=if k=3 then (e.most,true) else if k=4 then (e.least,true) else if k=11 then (Km e.MQ,true) else if k=12 then (Km e.own,true) else (0,false)
def GA (e:B7) (k:Int):List Int×Bool×Bool:=
 if k=1∨k=2 then (e.Ay,decide (k=1),true) else if k=7∨k=8 then (e.anchors,decide (k=7),true) else if k=9∨k=10 then (e.hashes,decide (k=9),true) else ([],false,false)
theorem SN (x:JL):decide (x=Bv)=au x:=by
 rw [Bool.eq_iff_iff,decide_eq_true_eq];unfold au Bv
 cases x;simp only [JL.mk.injEq,Bool.and_eq_true,decide_eq_true_eq,beq_iff_eq,and_assoc]
 constructor
 · rintro ⟨h1,h2,h3,h4⟩;exact ⟨h1,h2,h3,by simp [h4]⟩
 · rintro ⟨h1,h2,h3,h4⟩;exact ⟨h1,h2,h3,List.eq_nil_of_length_eq_zero AA⟩
theorem Iz {l:List Int} {n:Int}  :BC prog 326 [ints l,int n] (int (idx (fun y=>n==y) l)):=by
 refine fo func326 rfl ⟨rfl,rfl⟩ fun M0 w0=>(Tr.Cf 0 rfl fun EH=> ?_)
 refine a2 ?_
 refine Tr.block (Tr.BE _ (kk [8,7,1] rfl) (fun k:Nat=>[(9,int ((k:Nat):Int))]) (fun k:Nat=>k≤(l).length∧(∀j y,j<k→l[j]? =some y→(n==y)=false)) (fun k:Nat=>(l).length-k) 0 (⟨Nat.zero_le _,fun j y hj=>absurd hj AA⟩) kz ?_)
 rintro k ⟨BV,AZ⟩
 refine ac ?_
 refine Tr.seq ?_
 refine Tr.cn rfl ?_ ?_<;>intro h1 q1
 have Ai:k<(l).length:=AH h1
 obtain ⟨x,Ah⟩:=at_ Ai
 · repeat' first|(exact int_eq (E9 (p:=fun y=>n==y) Ah B9 AZ))|(exact Fin.AP (k+1) ⟨⟨Ai,ED (p:=fun y=>n==y) Ah B9 AZ⟩,by omega⟩ ⟨⟨_,rfl,AG k⟩,kz⟩)|refine co rfl (AD rfl underlying22 CH vq vq AA CL) ?_|refine ac ?_|(refine Tr.cn rfl ?_ ?_<;>intro h q)
 have BL:k=(l).length:=by have:=AJ h1;omega
 subst BL
 refine a3 ?_
 · exact int_eq (Gz (p:=fun y=>n==y) AZ)
theorem Nh {e:B7} {id:Int} (hl:e.ids.length≤1000000):BC prog 328 [agg (Bc e),int id] (D7 [int (Fc id e.ids),int (Bk id e.ids)]):=by
 refine fo func328 rfl ⟨rfl,rfl⟩ fun M0 w0=> ?_
 refine a3 ?_
 refine Tr.block (Tr.BE _ (kk [12,11,1] rfl) (fun k:Nat=>[(13,int ((k:Nat):Int)),(6,int (Fc id (e.ids.take k))),(7,int (Bk id (e.ids.take k)))]) (fun k:Nat=>k≤(e.ids).length) (fun k:Nat=>(e.ids).length-k) 0 (Nat.zero_le _) ⟨kq,⟨_,rfl,int_eq rfl⟩,⟨_,rfl,int_eq rfl⟩,trivial⟩ ?_)
 rintro k BV
 refine ac ?_
 refine Tr.seq ?_
 refine Tr.cn rfl ?_ ?_<;>intro h1 q1
 have Ai:k<(e.ids).length:=AH h1
 obtain ⟨x,Ah⟩:=at_ Ai
 have hc:=fW (id:=id) Ah
 have hi:=Wz (id:=id) Ah
 have gJ:0≤Fc id (e.ids.take k)∧Fc id (e.ids.take k)≤1000000:=⟨by unfold Fc;omega,by have:=sJ (p:=G9 id) (k:=k) hl;unfold Fc;omega⟩
 have h0:=W0 (id:=id) (l:=e.ids.take k)
 refine ac ?_
 refine ao ?_
 refine tp rfl (AD rfl underlying38 E6 vq vq AA CL) ?_
 refine tp rfl (AL rfl Sd E6 vq rfl rfl) ?_
 refine Tl rfl rfl rfl rfl VP R4 (fun b1=> ?_)
 refine tm rfl ?_
 refine sf 0 9 ⟨rfl,rfl,rfl⟩ rfl rfl rfl rfl ?_
 refine ao ?_
 · repeat' first|exact Fin.AP (k+1) ⟨Ai,by omega⟩ ⟨⟨_,rfl,AG k⟩,⟨_,rfl,int_eq CY⟩,⟨_,rfl,int_eq CY⟩,kz⟩|refine ac ?_|(refine Tr.cn rfl ?_ ?_<;>intro h q)
 have BL:k=(e.ids).length:=by have:=AJ h1;omega
 subst BL
 rw [List.take_length]
 refine a2 ?_
 refine Tr.ret (Fin.Dc rfl (Bo.Dy _ _) rfl ?_ rfl ?_)
 · exact Lr
 · exact Lr
theorem W4 {b:Bool}  :BC prog 338 [bool b] (int (Km b)):=by
 refine fo func338 rfl ⟨rfl,rfl⟩ fun M0 w0=> ?_
 · repeat' first|exact int_eq (by simp_all [Km])|refine ac ?_|(refine Tr.cn rfl ?_ ?_<;>intro h q)
theorem ZP {e:B7} {k:Int}  :BC prog 327 [agg (Bc e),int k] (D7 [int (HR e k).1,bool (HR e k).2]):=by
 refine fo func327 rfl ⟨rfl,rfl⟩ fun M0 w0=> ?_
 refine a2 ?_
 refine an ?_ ?_<;>intro h1 q1
 refine ac ?_
 refine Tr.ret (Fin.AU (Fin.AE (Fin.Dc rfl (Bo.Dy _ _) rfl ?_ rfl ?_)))
 · exact L1
 · exact Lz
 refine an ?_ ?_<;>intro h2 q2
 refine ac ?_
 refine Tr.ret (Fin.AU (Fin.AE (Fin.Dc rfl (Bo.Dy _ _) rfl ?_ rfl ?_)))
 · exact L1
 · exact Lz
 refine an ?_ ?_<;>intro h3 q3
 refine ac ?_
 refine co rfl (Ck (W4) rfl rfl) ?_
 refine ac ?_
 refine wk [5,4] rfl (Tr.ret (Fin.AU (Fin.AE (Fin.Dc rfl (Bo.Dy _ _) rfl ?_ rfl ?_))))
 · exact L1
 · exact Lz
 refine an ?_ ?_<;>intro h4 q4
 refine ac ?_
 refine co rfl (Ck (W4) rfl rfl) ?_
 refine ac ?_
 refine wk [5,4] rfl (Tr.ret (Fin.AU (Fin.AE (Fin.Dc rfl (Bo.Dy _ _) rfl ?_ rfl ?_))))
 · exact L1
 · exact Lz
 refine a2 ?_
 refine wk [5,4] rfl (Tr.ret (Fin.Dc rfl (Bo.Dy _ _) rfl ?_ rfl ?_))
 · exact L1
 · exact Lz
theorem fX {c:BW} (hcs:c.Cr.small):BC prog 324 [agg (DK c)] (bool (decide (JD c))):=by
 refine fo func324 rfl ⟨rfl,rfl⟩ fun M0 w0=> ?_
 refine ac ?_
 refine ac ?_
 refine co rfl (AR rfl (Yd (a:=c.Cr) (b:=Bv) hcs) ⟨ke rfl,⟨_,rfl,BR ⟨Lr,Lr,Lr,AQ 15,trivial⟩⟩,trivial⟩) ?_
 refine ac ?_
 refine ac ?_
 refine ac ?_
 refine Tr.cn rfl ?_ ?_<;>intro h1 q1
 refine ac ?_
 refine ac ?_
 · exact TY
 refine ac ?_
 refine Tr.cn rfl ?_ ?_<;>intro h2 q2
 refine ac ?_
 refine NC 2 rfl ?_
 refine ac ?_
 · exact TY
 refine ac ?_
 refine ac ?_
 refine Ch.cs 21 rfl ?_ ?_<;>intro h3 q3
 refine ac ?_
 refine Ch.cs 26 rfl ?_ ?_<;>intro h4 q4
 refine ac ?_
 refine Ch.cs 29 rfl ?_ ?_<;>intro h5 q5
 refine ac ?_
 refine NC 2 rfl ?_
 refine ac ?_
 · exact TY
 refine ac ?_
 refine NC 2 rfl ?_
 refine ac ?_
 · exact TY
 refine ac ?_
 refine NC 2 rfl ?_
 refine ac ?_
 · exact iG
 refine ac ?_
 refine NC 2 rfl ?_
 refine ac ?_
 · exact iG
theorem W6 {e:B7} {k:Int}  :BC prog 325 [agg (Bc e),int k] (D7 [ints (GA e k).1,bool (GA e k).2.1,bool (GA e k).2.2]):=by
 refine fo func325 rfl ⟨rfl,rfl⟩ fun M0 w0=> ?_
 refine a2 ?_
 refine an ?_ ?_<;>intro h1 q1
 refine ac ?_
 refine Tr.cond rfl (fun _=> ?_) (fun h=>nomatch h1.symm.trans h)
 refine ac ?_
 refine wk [6,5,4] rfl (Tr.ret (Fin.AU (Fin.AE (Fin.II rfl (Bo.Dy _ _) rfl ?_ rfl ?_ rfl ?_))))
 · exact J6
 · exact FK
 · exact FK
 refine an ?_ ?_<;>intro h2 q2
 refine ac ?_
 refine wk [6,5,4] rfl (Tr.ret (Fin.AU (Fin.AE (Fin.II rfl (Bo.Dy _ _) rfl ?_ rfl ?_ rfl ?_))))
 · exact J6
 · exact FK
 · exact FK
 refine an ?_ ?_<;>intro h3 q3
 refine ac ?_
 refine Tr.cond rfl (fun _=> ?_) (fun h=>nomatch h3.symm.trans h)
 refine ac ?_
 refine wk [6,5,4] rfl (Tr.ret (Fin.AU (Fin.AE (Fin.II rfl (Bo.Dy _ _) rfl ?_ rfl ?_ rfl ?_))))
 · exact J6
 · exact FK
 · exact FK
 refine an ?_ ?_<;>intro h4 q4
 refine ac ?_
 refine wk [6,5,4] rfl (Tr.ret (Fin.AU (Fin.AE (Fin.II rfl (Bo.Dy _ _) rfl ?_ rfl ?_ rfl ?_))))
 · exact J6
 · exact FK
 · exact FK
 refine ac ?_
 refine wk [22,7,2,1] rfl ?_
 refine Tr.cn rfl ?_ ?_<;>intro h5 q5
 refine ac ?_
 refine Tr.cond rfl (fun _=> ?_) (fun h=>nomatch h5.symm.trans h)
 refine ac ?_
 refine Tr.ret (Fin.AU (Fin.AE (Fin.II rfl (Bo.Dy _ _) rfl ?_ rfl ?_ rfl ?_)))
 · exact J6
 · exact FK
 · exact FK
 refine an ?_ ?_<;>intro h6 q6
 refine ac ?_
 refine Tr.ret (Fin.AU (Fin.AE (Fin.II rfl (Bo.Dy _ _) rfl ?_ rfl ?_ rfl ?_)))
 · exact J6
 · exact FK
 · exact FK
 refine a2 ?_
 refine Tr.ret (Fin.II rfl (Bo.Dy _ _) rfl ?_ rfl ?_ rfl ?_)
 · exact Pr.le_trans (AQ 1) (Pr.le_of_eq (by rw [show (GA e k).1=[] by simp_all [GA]];rfl))
 · exact FK
 · exact FK
theorem Ni {l:List Int} {i:Nat} {n:Int} (hi:i≤l.length) (hl:l.length≤1000000):BC prog 329 [ints l,int ((i:Nat):Int),int n] (ints (l.take i++[n]++l.drop i)):=by
 refine fo func329 rfl ⟨rfl,rfl⟩ fun M0 w0=> ?_
 have hml:(l.map fun n:Int=>[int n]).length=l.length:=List.length_map _
 refine ac ?_
 refine ap ?_
 refine tp rfl (Dn rfl underlying22 CH vq vq AA AA) (TO.pad ?_)
 refine TO.DZ 0 rfl rfl AB (EL rfl rfl AB rfl underlying22 CH IQ z3 rfl AB ⟨_,rfl,AQ _⟩ vq JS JU (Br BJ ⟨_,rfl,DD 1⟩)) (fun v1=> ?_)
 refine ap ?_
 refine ap ?_
 refine TO.DZ 0 rfl rfl AB (B4 rfl rfl rfl rfl underlying22 CH IQ z3 H_ GH (Az BJ Kl)) (fun v2=> ?_)
 refine ap ?_
 refine ap ?_
 refine tp rfl (Dh rfl underlying22 CH vq vq AA AA) ?_
 refine TO.DZ 0 rfl rfl AB (B4 rfl rfl rfl rfl underlying22 CH IQ z3 H_ vq (Az BJ Kl)) (fun v3=> ?_)
 refine ap ?_
 refine wk [6] rfl ?_
 refine ac ?_
 · exact Pr.le_trans (At _ _) (Pr.le_of_eq (by show _=slice 1 ((l.take i++[n]++l.drop i).map fun n=>[int n]);simp [List.map_take,List.map_drop]))
theorem I0 {l:List Int} {i:Nat} (hi:i<l.length) (hl:l.length≤1000000):BC prog 330 [ints l,int ((i:Nat):Int)] (ints (l.eraseIdx i)):=by
 refine fo func330 rfl ⟨rfl,rfl⟩ fun M0 w0=> ?_
 have hml:(l.map fun n:Int=>[int n]).length=l.length:=List.length_map _
 refine ac ?_
 refine ap ?_
 refine tp rfl (Dn rfl underlying22 CH vq vq AA AA) (TO.pad ?_)
 refine TO.DZ 0 rfl rfl AB (EL rfl rfl AB rfl underlying22 CH IQ z3 rfl AB ⟨_,rfl,AQ _⟩ vq JS JU (Br BJ ⟨_,rfl,DD 1⟩)) (fun v1=> ?_)
 refine ap ?_
 refine ap ?_
 refine tp rfl (Dh rfl underlying22 CH vq vq AA AA) ?_
 refine TO.DZ 0 rfl rfl AB (B4 rfl rfl rfl rfl underlying22 CH IQ z3 H_ vq (Az BJ Kl)) (fun v2=> ?_)
 refine ap ?_
 refine ac ?_
 · exact Pr.le_trans (At _ _) (Pr.le_of_eq (by rw [List.eraseIdx_eq_take_drop_succ];show _=slice 1 ((l.take i++l.drop (i+1)).map fun n=>[int n]);simp [List.map_take,List.map_drop,show (((i:Nat):Int)+1).toNat=i+1 by omega]))
theorem OE {l:List Int} {n:Int} (hl:l.length≤1000000):BC prog 331 [ints l,int n] (ints (YV l n)):=by
 refine fo func331 rfl ⟨rfl,rfl⟩ fun M0 w0=>(Tr.Cf 0 rfl fun EH=> ?_)
 refine a2 ?_
 refine Tr.seq (Tr.block (Tr.BE _ (kk [1,0] rfl) (fun k:Nat=>[(5,int ((k:Nat):Int))]) (fun k:Nat=>k≤l.length∧(∀j y,j<k→l[j]? =some y→y<n)) (fun k:Nat=>l.length-k) 0 (⟨Nat.zero_le _,fun j y hj=>absurd hj AA⟩) kz ?_))
 rintro k ⟨BV,hinv⟩
 refine ag ?_ ?_<;>intro h1 q1
 obtain ⟨x,hx⟩:=at_ (l:=l) (k:=k) AA
 refine ac ?_
 refine cy h1 rfl (AD rfl underlying22 CH vq vq AA (AX hx)) ?_
 refine ac ?_
 refine wk [17,5,1,0] rfl ?_
 refine Tr.cn rfl ?_ ?_<;>intro h2 q2
 have hq:=h2
 refine a2 ?_
 exact Fin.AP (k+1) ⟨⟨by omega,bsX hinv hx (by simpa using hq)⟩,by omega⟩ ⟨⟨_,rfl,AG k⟩,kz⟩
 have hp:Em l n=k:=Uc BV hinv (fun y hy=>by have h_:=h2;rw [hx] at hy;cases hy;simpa using h_)
 refine a2 ?_
 refine co rfl (AR rfl (Ni (l:=l) (i:=Em l n) (az _ _) hl) ⟨kq,⟨_,rfl,int_eq AA⟩,kz⟩) ?_
 refine a2 ?_
 · exact Lr
 have hp:Em l n=k:=Uc BV hinv (fun y hy=>by have:=BN hy;have:=q1;omega)
 refine ac ?_
 refine wk [17,5,1,0] rfl ?_
 refine a2 ?_
 refine co rfl (AR rfl (Ni (l:=l) (i:=Em l n) (az _ _) hl) ⟨kq,⟨_,rfl,int_eq AA⟩,kz⟩) ?_
 refine a2 ?_
 · exact Lr
def SK (e:B7) (c:BW):Int:=
 if GI e=false then 19 else if ¬JD c then 40
 else if c.kind=1∧(c.at_<0∨(e.Ay.length:Int)<c.at_) then 2
 else if c.kind=5∧(c.at_<0∨(e.ids.length:Int)<c.at_) then 2
 else if (c.kind=11∨c.kind=12)∧(c.number≠0∧c.number≠1) then 2
 else if (GA e c.kind).2.2=true∧decide (0≤idx (fun y=>c.number==y) (GA e c.kind).1)=(GA e c.kind).2.1 then 41
 else if (HR e c.kind).2=true∧(HR e c.kind).1=c.number then 41
 else if c.kind=5∧0<Fc c.Cr.CS e.ids then 41
 else if c.kind=6∧Fc c.number e.ids=0 then 41
 else if c.kind=6∧1<Fc c.number e.ids then 5 else 0
theorem VC {l:List Int} (hs:qX l) {n:Int}:idx (fun y=>n==y) l=if Fb l n=true then ((Em l n:Nat):Int) else -1:=by
 by_cases h:Fb l n=true
 ·
  rw [if_pos h]
  obtain ⟨y,hy⟩:=at_ (Ue h)
  have hyn:y=n:=by have h2:=bA rfl hy;rw [h] at h2;simpa using h2.symm
  exact (E9 (p:=fun y=>n==y) hy (by simp [hyn]) (fun j z hj hz=>by have:=Ud hj hz;simp;omega)).symm
 ·
  rw [if_neg h]
  refine (Gz (p:=fun y=>n==y) (fun j z hj hz=> ?_)).symm
  simp only [beq_eq_false_iff_ne,ne_eq]
  intro hn;subst hn
  rcases Nat.lt_trichotomy j (Em l n) with h1|h1|h1
  · have:=Ud h1 hz;omega
  · subst h1;exact h (by rw [bA rfl hz];simp)
  ·
   obtain ⟨y,hy⟩:=at_ (l:=l) (k:=Em l n) (by have:=BN hz;omega)
   have h2:=a_ hy
   have h3:=qY hs h1 hy hz
   omega
theorem sK {l:List JL} {n:Int} {x:JL} (h0:¬Bk n l<0) (hx:l[(Bk n l).toNat]? =some x):(1<Fc n l)↔((l.drop (Bk n l+1).toNat).any fun x=>x.CS==n)=true:=by
 obtain ⟨y,hy,hp,hlt⟩:=O0 (p:=G9 n) (l:=l) (by rw [←F0];omega)
 rw [←F0] at hy hlt
 have hsplit:l=l.take (Bk n l).toNat++y::l.drop ((Bk n l).toNat+1):=by
  rw [List.getElem?_eq_getElem hlt] at hy;cases hy
  rw [List.getElem_cons_drop];exact (List.take_append_drop _ _).symm
 have h1:(l.take (Bk n l).toNat).countP (G9 n)=0:=by
  refine Mm.1 (Int.not_le.1 fun h2=> ?_)
  obtain ⟨z,hz,hzp,hzl⟩:=O0 h2
  have e1:Bk n l=idx (G9 n) (l.take (Bk n l).toNat):=by
   obtain ⟨i,hi⟩:∃i:Nat,idx (G9 n) (l.take (Bk n l).toNat)=(i:Int):=⟨_,(Int.toNat_of_nonneg h2).symm⟩
   have h3:((l.take (Bk n l).toNat).findIdx? (G9 n))=some i:=by
    unfold idx at hi;cases h4:(l.take (Bk n l).toNat).findIdx? (G9 n) with
    |none=>rw [h4] at hi;simp at hi
    |some k=>rw [h4] at hi;rw [show k=i by simp at hi;omega]
   have h5:l.findIdx? (G9 n)=some i:=by
    rw [←List.take_append_drop (Bk n l).toNat l,List.findIdx?_append,h3];rfl
   have e2:idx (G9 n) l=(i:Int):=by unfold idx;rw [h5]
   exact e2.trans hi.symm
  rw [←e1] at hzl;rw [List.length_take] at hzl;omega
 have h2:l.countP (G9 n)=1+(l.drop ((Bk n l).toNat+1)).countP (G9 n):=by
  conv=>lhs;rw [hsplit]
  rw [List.countP_append,h1,List.countP_cons,hp];simp;omega
 unfold Fc;rw [h2,show (Bk n l+1).toNat=(Bk n l).toNat+1 by omega]
 show _↔(List.any _ (G9 n))=true
 rw [List.any_eq_true,←List.countP_pos_iff];omega
theorem sL {l:List Int} {n:Int}:decide (0≤idx (fun y=>n==y) l)=l.any fun y=>n==y:=UW _ _
theorem PW {l:List Int} (hs:qX l) {n:Int}:decide (0≤idx (fun y=>n==y) l)=Fb l n:=by
 rw [VC hs];cases Fb l n<;>simp
theorem W7 {e:B7} {c:BW} (hce:GI e=true) (hc:JD c):SK e c=match B8 e c with| .error f=>f| .ok _=>0:=by
 have ok:=DA.1 hce
 have ha:=O2 ok.anc;have hh:=O2 ok.hash
 have hk:=hc.1
 unfold SK
 rw [if_neg (by rw [hce];decide),if_neg (not_not_intro hc)]
 have h0:c.kind=1∨c.kind=2∨c.kind=3∨c.kind=4∨c.kind=5∨c.kind=6∨c.kind=7∨c.kind=8∨c.kind=9∨c.kind=10∨c.kind=11∨c.kind=12:=by omega
 rcases h0 with h|h|h|h|h|h|h|h|h|h|h|h
 ·
  rw [O3 h];unfold GA HR;simp only [h]
  by_cases h1:c.at_<0∨(e.Ay.length:Int)<c.at_
  ·
   have h2:¬(0≤c.at_∧c.at_≤(e.Ay.length:Int)):=by omega
   simp [h1,h2]
  ·
   have h2:0≤c.at_∧c.at_≤(e.Ay.length:Int):=by omega
   have h3:=sL (l:=e.Ay) (n:=c.number)
   have h4:(0≤idx (fun y=>c.number==y) e.Ay)↔(e.Ay.any fun y=>c.number==y)=true:=by rw [←h3,decide_eq_true_eq]
   by_cases h5:(e.Ay.any fun y=>c.number==y)=true
   · have h6:=h4.2 h5;simp only [h5];simp [h1,h2,h6]
   ·
    have h6:¬0≤idx (fun y=>c.number==y) e.Ay:=fun h=>h5 (h4.1 h)
    simp only [h5];simp [h1,h2,h6]
 ·
  rw [O4 h];unfold GA HR MT;simp only [h]
  by_cases h1:idx (fun y=>c.number==y) e.Ay<0
  · simp [h1]
  · simp [h1]
 · rw [O5 h];unfold GA HR;simp only [h];by_cases h1:e.most=c.number<;>simp [h1]
 · rw [O6 h];unfold GA HR;simp only [h];by_cases h1:e.least=c.number<;>simp [h1]
 ·
  rw [O7 h];unfold GA HR;simp only [h]
  have rD:=Mm (p:=G9 c.Cr.CS) (l:=e.ids)
  rw [←F0] at rD
  by_cases h1:c.at_<0∨(e.ids.length:Int)<c.at_
  ·
   have h2:¬(0≤c.at_∧c.at_≤(e.ids.length:Int)):=by omega
   simp [h1,h2]
  ·
   have h3:0≤c.at_∧c.at_≤(e.ids.length:Int):=by omega
   by_cases h2:0≤Bk c.Cr.CS e.ids
   ·
    have:0<Fc c.Cr.CS e.ids:=by unfold Fc;omega
    simp [h1,h2,h3,this]
   ·
    have:¬0<Fc c.Cr.CS e.ids:=by unfold Fc;omega
    simp [h1,h2,h3,this]
 ·
  rw [O8 h];unfold GA HR;simp only [h]
  have rD:=Mm (p:=G9 c.number) (l:=e.ids)
  rw [←F0] at rD
  by_cases h2:Bk c.number e.ids<0
  ·
   have:Fc c.number e.ids=0:=by unfold Fc;omega
   cases e.ids[(Bk c.number e.ids).toNat]? <;>simp [h2,this]
  ·
   have h3:¬Fc c.number e.ids=0:=by unfold Fc;omega
   obtain ⟨x,hx,_,_⟩:=O0 (p:=fun x:JL=>x.CS==c.number) (l:=e.ids) (by unfold Bk at h2;omega)
   have hx:e.ids[(Bk c.number e.ids).toNat]? =some x:=hx
   have hd:=sK h2 hx
   rw [hx];simp only [if_neg h2]
   by_cases h4:((e.ids.drop (Bk c.number e.ids+1).toNat).any fun x=>x.CS==c.number)=true
   · have:=hd.2 h4;simp only [h4];simp [h3,this]
   ·
    have:¬1<Fc c.number e.ids:=fun h5=>h4 (hd.1 h5)
    simp only [h4];simp [h3,this]
 ·
  rw [O9 h];unfold GA HR;simp only [h]
  have h1:(0≤idx (fun y=>c.number==y) e.anchors)↔Fb e.anchors c.number=true:=by rw [←PW ha,decide_eq_true_eq]
  by_cases h2:Fb e.anchors c.number=true
  · exact Om
  ·
   have h3:¬0≤idx (fun y=>c.number==y) e.anchors:=fun h=>h2 (h1.1 h)
   simp [h2,h3]
 ·
  rw [O_ h];unfold GA HR;simp only [h]
  have h1:(0≤idx (fun y=>c.number==y) e.anchors)↔Fb e.anchors c.number=true:=by rw [←PW ha,decide_eq_true_eq]
  by_cases h2:Fb e.anchors c.number=true
  · exact Om
  ·
   have h3:¬0≤idx (fun y=>c.number==y) e.anchors:=fun h=>h2 (h1.1 h)
   simp [h2,h3]
 ·
  rw [PB h];unfold GA HR;simp only [h]
  have h1:(0≤idx (fun y=>c.number==y) e.hashes)↔Fb e.hashes c.number=true:=by rw [←PW hh,decide_eq_true_eq]
  by_cases h2:Fb e.hashes c.number=true
  · exact Om
  ·
   have h3:¬0≤idx (fun y=>c.number==y) e.hashes:=fun h=>h2 (h1.1 h)
   simp [h2,h3]
 ·
  rw [MU h];unfold GA HR;simp only [h]
  have h1:(0≤idx (fun y=>c.number==y) e.hashes)↔Fb e.hashes c.number=true:=by rw [←PW hh,decide_eq_true_eq]
  by_cases h2:Fb e.hashes c.number=true
  · exact Om
  ·
   have h3:¬0≤idx (fun y=>c.number==y) e.hashes:=fun h=>h2 (h1.1 h)
   simp [h2,h3]
 ·
  rw [MV h];unfold GA HR;simp only [h]
  by_cases h1:0≤c.number∧c.number≤1
  ·
   have:¬(c.number≠0∧c.number≠1):=by omega
   by_cases h2:Km e.MQ=c.number<;>simp [this,h1,h2]
  ·
   have:c.number≠0∧c.number≠1:=by omega
   simp [this,h1]
 ·
  rw [MW h];unfold GA HR;simp only [h]
  by_cases h1:0≤c.number∧c.number≤1
  ·
   have:¬(c.number≠0∧c.number≠1):=by omega
   by_cases h2:Km e.own=c.number<;>simp [this,h1,h2]
  ·
   have:c.number≠0∧c.number≠1:=by omega
   simp [this,h1]
theorem sM {e:B7} {c:BW} (h:SK e c≠0):D8 e c=(E3,HN,SK e c):=by
 by_cases hce:GI e=false
 ·
  have:SK e c=19:=by unfold SK;rw [if_pos hce]
  rw [this];unfold D8;rw [if_pos hce]
 ·
  by_cases hc:JD c
  ·
   have hce:GI e=true:=by simpa using hce
   have hs:=W7 hce hc
   cases h2:B8 e c with
   |error f=>rw [h2] at hs;rw [eB hce hc h2,show SK e c=f from hs]
   |ok r=>rw [h2] at hs;exact absurd hs h
  ·
   have:SK e c=40:=by unfold SK;rw [if_neg hce,if_pos hc]
   rw [this];unfold D8;rw [if_neg hce,if_pos hc]
theorem wu {e:B7} {c:BW} (h:SK e c=0):GI e=true∧JD c∧∃e2 b,B8 e c= .ok (e2,b):=by
 by_cases hce:GI e=false
 ·
  have:SK e c=19:=by unfold SK;rw [if_pos hce]
  rw [this] at h;cases h
 ·
  by_cases hc:JD c
  ·
   have hce:GI e=true:=by simpa using hce
   have hs:=W7 hce hc
   cases h2:B8 e c with
   |error f=>
    rw [h2] at hs;rw [h] at hs
    have h3:(0:Int)=f:=hs
    have:=WQ hc h2;omega
   |ok r=>exact ⟨hce,hc,r.1,r.2,rfl⟩
  ·
   have:SK e c=40:=by unfold SK;rw [if_neg hce,if_pos hc]
   rw [this] at h;cases h
theorem Ra {β γ:Type} {f:β→γ} {l:List β} {k:Nat} {x:β} (h:l[k]? =some x):(l.take k).map f++[f x]=(l.take (k+1)).map f:=by rw [List.take_add_one,h,List.map_append];rfl
theorem Ll {x:JL} (hx:x.small):BC prog 146 [agg (G1 x)] (agg (G1 x)):=by
 refine fo func146 rfl ⟨rfl,rfl⟩ fun M0 w0=> ?_
 have hch:=hx.chain
 refine Tr.seq (Tr.An (tp rfl (BZ rfl Cm) ?_))
 refine Tl rfl rfl rfl rfl VP R4 (fun b1=> ?_)
 refine ap ?_
 refine ap ?_
 refine Tl rfl rfl rfl rfl VP R4 (fun b2=> ?_)
 refine ap ?_
 refine ac ?_
 refine wk [14,13,12,3,2] rfl (Tr.block (Tr.HC 0 [int x.CC,int x.bits,int x.CS,Af (.slice none 0 0) (slice 15 ((x.chain.take 0).map DH))] rfl ⟨Lr,Lr,Lr,Bn rfl,trivial⟩ (Tr.B5 189 15 (Tr.El _ (kk [13,12,3,2] rfl) (fun k v=>[(14,int ((k:Nat):Int))]) (fun k v=>Hp M0 w0 Fa ([Au 189 15 v,AF true b2 84 [int x.CC,int x.bits,int x.CS,Af v (slice 15 ((x.chain.take k).map DH))],AF true b1 84 (([.int .i64 0,.int .i64 0,.int .i64 0,.slice none 0 0]:List Value).map is)])) (fun k:Nat=>k≤(x.chain).length) (fun k:Nat=>(x.chain).length-k) 0 (.slice none 0 0) (Nat.zero_le _) kz (fun _ _ h=>h) ?_))))
 rintro k v BV
 refine ac ?_
 refine Tr.seq ?_
 refine Tr.cn rfl ?_ ?_<;>intro h1 q1
 have Ai:k<(x.chain).length:=AH h1
 obtain ⟨c,Ah⟩:=at_ Ai
 have hcn:=hx.names c (List.mem_of_getElem? Ah)
 refine ac ?_
 refine Tr.seq (Tr.block (Tr.seq (Tr.An (tp rfl (AD rfl underlying82 C3 vq vq AA CL) ?_))))
 refine tp rfl (AL rfl Fv C3 vq rfl rfl) ?_
 refine Tl rfl rfl rfl rfl QV Kw (fun b3=> ?_)
 refine ap ?_
 refine ap ?_
 refine tp rfl (Ij rfl underlying127 MF by9 z9 rfl AB vq OV Od) ?_
 refine ap ?_
 refine wk [14,13,12,5,3,2] rfl ?_
 refine ap ?_
 refine TO.DZ 1 rfl rfl AB (B4 rfl rfl rfl rfl underlying82 C3 tE QV H_ GH (Az BJ Kl)) (fun v1=> ?_)
 refine ap ?_
 refine Tr.drop 0 ?_
 refine ac ?_
 refine Fin.HC 1 [int x.CC,int x.bits,int x.CS,Af v1 (slice 15 ((x.chain.take (k+1)).map DH))] rfl ⟨Lr,Lr,Lr,BA (Ra (f:=DH) Ah),trivial⟩ (Fin.DQ (k+1) v1 (⟨Ai,by omega⟩) ⟨⟨_,rfl,AG k⟩,kz⟩ (fun _ _ h=>h))
 have BL:k=(x.chain).length:=by have:=AJ h1;omega
 subst BL
 refine ac ?_
 refine ap ?_
 refine Tr.ret (Fin.CR rfl (AO.cell 2 rfl rfl Sd E6 rfl Lr) ?_)
 · exact BR ⟨Lr,Lr,Lr,Pr.le_trans (At _ _) (Pr.le_of_eq Oj),trivial⟩
theorem ZQ {c:BW} (hx:c.Cr.small):BC prog 86 [agg (DK c)] (agg (DK c)):=by
 refine fo func86 rfl ⟨rfl,rfl⟩ fun M0 w0=>(Tr.seq (Tr.An ?_))
 refine TO.Vi rfl rfl AB rfl Cm (fun b1=> ?_)
 refine Tl rfl rfl rfl rfl Nx JI (fun b2=> ?_)
 refine ap ?_
 refine ap ?_
 refine tp rfl (Ck (Ll (x:=c.Cr) hx) rfl rfl) ?_
 refine ap ?_
 refine ap ?_
 refine Tr.drop 1 (Tr.ret (Fin.CR rfl (AO.cell 0 rfl rfl GY C9 rfl Lr) ?_))
 · exact Lr
theorem TK {e:B7} (F6:e.small):BC prog 302 [agg (Bc e)] (agg (Bc e)):=by
 refine fo func302 rfl ⟨rfl,rfl⟩ fun M0 w0=> ?_
 have hs1:=F6.Ay
 have UY:=F6.anchors
 have hs3:=F6.hashes
 have hs4:=F6.Xi
 refine Tr.seq (Tr.An (tp rfl (BZ rfl (Va rfl)) ?_))
 refine Tl rfl rfl rfl rfl z40 IU (fun b1=> ?_)
 refine ao ?_
 refine ao ?_
 refine Tl rfl rfl rfl rfl z40 IU (fun b2=> ?_)
 refine TO.AK 0 rfl rfl rfl (vl rfl) (Va rfl) rfl CF rfl rfl ?_
 refine ao ?_
 refine Tr.seq (Tr.rx ?_)
 refine ax ?_
 refine xo rfl (fun _=>Ij rfl underlying22 CH IQ z3 rfl AB (vl rfl) OV Od) ?_
 refine ax ?_
 refine xo rfl (fun _=>Ij rfl underlying22 CH IQ z3 rfl AB (vl rfl) OV Od) ?_
 refine ax ?_
 refine xo rfl (fun _=>Ij rfl underlying22 CH IQ z3 rfl AB (vl rfl) OV Od) ?_
 refine xo rfl (fun _=>Ab rfl NI (vl rfl)) (Cx.Dr 0 rfl rfl (A_ rfl rfl (vl rfl) (Vo rfl) NF rfl Ao rfl) (xo rfl (fun _=>Ab rfl jC (vl rfl)) (Cx.Dr 0 rfl rfl (A_ rfl rfl (vl rfl) (Vo rfl) NF rfl Ao rfl) (xo rfl (fun _=>Ab rfl jD (vl rfl)) (Cx.Dr 0 rfl rfl (A_ rfl rfl (vl rfl) (Vo rfl) NF rfl Ao rfl) ?_)))))
 refine Cx.nil ⟨by kernel_rfl,?_⟩
 refine BH.done XT (Fin.go (wk [3,2,1] rfl ?_))
 refine ao ?_
 refine TO.Dr 0 rfl rfl (A_ rfl rfl (vl rfl) (Vo rfl) jA rfl Ao rfl) ?_
 refine ao ?_
 refine ac ?_
 refine Tr.block (Tr.HC 0 [str e.name,int e.least,int e.most,ints e.Ay,bool e.own,Af (.slice none 0 0) (slice 4 ((e.ids.take 0).map G1)),ints e.anchors,ints e.hashes,bool e.MQ] rfl ⟨Lr,Lr,Lr,Lr,Lr,Bn rfl,Lr,Lr,Lr,trivial⟩ (Tr.B5 84 4 (Tr.El _ (kk [22,21,3,2] rfl) (fun k v=>[(23,int ((k:Nat):Int))]) (fun k v=>Hp M0 w0 Fa ([Au 84 4 v,AF true b2 40 [str e.name,int e.least,int e.most,ints e.Ay,bool e.own,Af v (slice 4 ((e.ids.take k).map G1)),ints e.anchors,ints e.hashes,bool e.MQ],AF true b1 40 (([.string (ByteArray.mk #[]),.int .i64 0,.int .i64 0,.slice none 0 0,.bool false,.slice none 0 0,.slice none 0 0,.slice none 0 0,.bool false]:List Value).map is)])) (fun k:Nat=>k≤(e.ids).length) (fun k:Nat=>(e.ids).length-k) 0 (.slice none 0 0) (Nat.zero_le _) kz (fun _ _ h=>h) ?_)))
 rintro k v BV
 refine ac ?_
 refine Tr.seq ?_
 refine Tr.cn rfl ?_ ?_<;>intro h1 q1
 have Ai:k<(e.ids).length:=AH h1
 obtain ⟨x,Ah⟩:=at_ Ai
 have hxs:=F6.ids x (List.mem_of_getElem? Ah)
 refine ac ?_
 refine Tr.seq (Tr.block (Tr.seq (Tr.An (tp rfl (AD rfl underlying38 E6 (vl rfl) (vl rfl) AA CL) ?_))))
 refine tp rfl (AL rfl Sd E6 (vl rfl) rfl rfl) ?_
 refine Tl rfl rfl rfl rfl VP R4 (fun b3=> ?_)
 refine sf 0 5 ⟨rfl,rfl,rfl⟩ rfl rfl rfl rfl ?_
 refine ao ?_
 refine Tr.pad (Tr.rx ?_)
 refine ax ?_
 refine xo rfl (fun _=>Ck (Ll hxs) rfl rfl) (xo rfl (fun _=>AM (xs:=[.tmp 30]) (rows:=[_]) rfl rfl underlying38 E6 VP rfl AB ⟨⟨Am,(Va rfl)⟩,trivial⟩ AB) ?_)
 refine Cx.ef 1 rfl rfl AB (B4 rfl rfl rfl rfl underlying38 E6 dN VP (Kb rfl) (Kf rfl) (Az BJ (Ka rfl))) ?_
 refine xo rfl (fun _=>Ab rfl QM (vl rfl)) (Cx.Dr 2 rfl rfl (Ft rfl rfl rfl (vl rfl) rfl jA Ao) ?_)
 refine Cx.nil ⟨by kernel_rfl,?_⟩
 refine BH.QL 1 2 32 rfl rfl AB rfl (fun v1=> ?_)
 refine BH.done al4 ?_
 refine ac ?_
 refine Tr.drop 0 (wk [23,22,21,3,2] rfl ?_)
 refine ac ?_
 refine Fin.HC 1 [str e.name,int e.least,int e.most,ints e.Ay,bool e.own,Af v1 (slice 4 ((e.ids.take (k+1)).map G1)),ints e.anchors,ints e.hashes,bool e.MQ] rfl ⟨Lr,Lr,Lr,Lr,Lr,BA (Ra (f:=G1) Ah),Lr,Lr,Lr,trivial⟩ (Fin.DQ (k+1) v1 (⟨Ai,by omega⟩) ⟨⟨_,rfl,AG k⟩,kz⟩ (fun _ _ h=>h))
 have BL:k=(e.ids).length:=by have:=AJ h1;omega
 subst BL
 refine ac ?_
 refine ao ?_
 refine TO.AK 2 rfl rfl rfl (vl rfl) (Va rfl) rfl CF rfl rfl ?_
 refine ao ?_
 refine Tr.ret (Fin.CR rfl (AO.cell 2 rfl rfl Cj CF rfl Lr) ?_)
 · exact BR ⟨Lr,Lr,Lr,Lr,Lr,Pr.le_trans (At _ _) (Pr.le_of_eq Oj),Lr,Lr,Lr,trivial⟩
theorem VD {e:B7} {c:BW} (F6:e.small) (hcs:c.Cr.small):BC prog 315 [agg (Bc e),agg (DK c)] (int (SK e c)):=by
 refine fo func315 rfl ⟨rfl,rfl⟩ fun M0 w0=> ?_
 refine ac ?_
 refine ac ?_
 refine co rfl (Ck (FE F6) rfl rfl) ?_
 refine ac ?_
 refine Tr.cn rfl ?_ ?_<;>intro h1 q1
 refine ac ?_
 refine ac ?_
 · refine int_eq ?_;unfold SK;repeat (refine (if_pos ?_).symm;simp_all)
 refine ac ?_
 refine ac ?_
 refine co rfl (Ck (fX (c:=c) hcs) rfl rfl) ?_
 refine ac ?_
 refine Tr.cn rfl ?_ ?_<;>intro h2 q2
 refine ac ?_
 refine ac ?_
 · exact Xp
 refine ac ?_
 refine T_ 2 3 rfl (Tr.Vc [2,3] [] (¬(c.kind=1∧(c.at_<0∨(e.Ay.length:Int)<c.at_))∧¬(c.kind=5∧(c.at_<0∨(e.ids.length:Int)<c.at_))∧¬((c.kind=11∨c.kind=12)∧(c.number≠0∧c.number≠1))) ?_ (fun AFu=> ?_))
 refine ac ?_
 refine ac ?_
 refine Tr.cn rfl ?_ ?_<;>intro h4 q4
 refine ac ?_
 refine Ch.cs 27 rfl ?_ ?_<;>intro h5 q5
 refine ac ?_
 refine GF 2 3 34 rfl ?_
 refine ac ?_
 refine ac ?_
 · exact Xp
 refine ac ?_
 refine GF 2 3 34 rfl ?_
 refine Tr.cn rfl ?_ ?_<;>intro h6 q6
 refine ac ?_
 refine ac ?_
 · exact Xp
 refine Tr.skip (Fin.block (Fin.AP () AA (YA rfl)))
 refine ac ?_
 refine Tr.cn rfl ?_ ?_<;>intro h7 q7
 refine ac ?_
 refine Ch.cs 40 rfl ?_ ?_<;>intro h8 q8
 refine ac ?_
 refine GF 2 3 47 rfl ?_
 refine ac ?_
 refine ac ?_
 · exact Pf
 refine ac ?_
 refine GF 2 3 47 rfl ?_
 refine Tr.cn rfl ?_ ?_<;>intro h9 q9
 refine ac ?_
 refine ac ?_
 · exact Pf
 refine Tr.skip (Fin.block (Fin.AP () AA (YA rfl)))
 refine ac ?_
 refine Tr.cn rfl ?_ ?_<;>intro h10 PC
 refine ac ?_
 refine Tr.cond rfl (fun _=> ?_) (fun h=>nomatch h10.symm.trans h)
 refine ac ?_
 refine Ch.cs 54 rfl ?_ ?_<;>intro h11 Rt
 refine ac ?_
 refine GF 2 3 58 rfl ?_
 refine Tr.cn rfl ?_ ?_<;>intro h12 VQ
 refine ac ?_
 refine ac ?_
 · exact Pf
 refine Tr.skip (Fin.block (Fin.AP () AA (YA rfl)))
 refine ac ?_
 refine GF 2 3 58 rfl (Tr.cond rfl (fun h=>nomatch h) (fun _=> ?_))
 refine Tr.skip (Fin.block (Fin.AP () AA (YA rfl)))
 refine ac ?_
 refine Tr.cn rfl ?_ ?_<;>intro Nv eE
 refine ac ?_
 refine Ch.cs 54 rfl ?_ ?_<;>intro Mo q14
 refine ac ?_
 refine GF 2 3 58 rfl ?_
 refine Tr.cn rfl ?_ ?_<;>intro Vs q15
 refine ac ?_
 refine ac ?_
 · exact Pf
 refine Tr.skip (Fin.block (Fin.AP () AA (YA rfl)))
 refine ac ?_
 refine GF 2 3 58 rfl (Tr.cond rfl (fun h=>nomatch h) (fun _=> ?_))
 refine Tr.skip (Fin.block (Fin.AP () AA (YA rfl)))
 refine Tr.skip (Fin.block (Fin.AP () AA (YA rfl)))
 refine T_ 2 3 rfl (Tr.Vc [2,3] [] (¬((GA e c.kind).2.2=true∧decide (0≤idx (fun y=>c.number==y) (GA e c.kind).1)=(GA e c.kind).2.1)) ?_ (fun AFv=> ?_))
 refine ac ?_
 refine co rfl (CK (W6) rfl rfl rfl) ?_
 refine ac ?_
 refine ac ?_
 refine Ch.cs 68 rfl ?_ ?_<;>intro OL q17
 refine ac ?_
 refine cy OL rfl (CK (Iz) rfl rfl rfl) ?_
 refine ac ?_
 refine GF 2 3 76 rfl ?_
 refine Tr.cn rfl ?_ ?_<;>intro Rr q18
 refine ac ?_
 refine ac ?_
 · exact gm
 refine Tr.skip (Fin.AP () CY (YA rfl))
 refine ac ?_
 refine GF 2 3 76 rfl (Tr.cond rfl (fun h=>nomatch h) (fun _=> ?_))
 refine Tr.skip (Fin.AP () CY (YA rfl))
 refine T_ 2 3 rfl (Tr.Vc [2,3] [] (¬((HR e c.kind).2=true∧(HR e c.kind).1=c.number)) ?_ (fun hval=> ?_))
 refine ac ?_
 refine co rfl (CK (ZP) rfl rfl rfl) ?_
 refine ac ?_
 refine ac ?_
 refine Ch.cs 85 rfl ?_ ?_<;>intro Ru q20
 refine ac ?_
 refine GF 2 3 90 rfl ?_
 refine Tr.cn rfl ?_ ?_<;>intro av q21
 refine ac ?_
 refine ac ?_
 · exact gm
 refine Tr.skip (Fin.AP () CY (YA rfl))
 refine ac ?_
 refine GF 2 3 90 rfl (Tr.cond rfl (fun h=>nomatch h) (fun _=> ?_))
 refine Tr.skip (Fin.AP () CY (YA rfl))
 refine T_ 2 3 rfl (Tr.Vc [2,3] [] (¬(c.kind=5∧0<Fc c.Cr.CS e.ids)) ?_ (fun AFw=> ?_))
 refine ac ?_
 refine Tr.cn rfl ?_ ?_<;>intro h23 q23
 refine ac ?_
 refine co rfl (CK (Nh F6.Xi) rfl rfl rfl) ?_
 refine ac ?_
 refine GF 2 3 10 rfl ?_
 refine ac ?_
 refine Tr.cn rfl ?_ ?_<;>intro Mv q24
 refine ac ?_
 refine ac ?_
 · exact Pf
 refine Tr.skip (Fin.AP () AA (YA rfl))
 refine Tr.skip (Fin.AP () AA (YA rfl))
 refine ac ?_
 refine Tr.cn rfl ?_ ?_<;>intro h25 q25
 refine ac ?_
 refine co rfl (CK (Nh F6.Xi) rfl rfl rfl) ?_
 refine ac ?_
 refine NC 12 rfl ?_
 refine ac ?_
 refine Tr.cn rfl ?_ ?_<;>intro h26 q26
 refine ac ?_
 refine ac ?_
 · exact Pf
 refine ac ?_
 refine ac ?_
 refine Tr.cn rfl ?_ ?_<;>intro h27 q27
 refine ac ?_
 refine ac ?_
 · exact Pf
 refine ac ?_
 refine ac ?_
 refine ac ?_
 · exact gv
 refine ac ?_
 refine ac ?_
 refine ac ?_
 · exact gv
def TL (e:Da) (c:BW):Da×Int:=if (K1 e.Bp c).2=0 then (⟨(K1 e.Bp c).1,e.BQ,e.items⟩,0) else (Fx,(K1 e.Bp c).2)
def VE (x:IA) (l:List BW) (i:Nat):Bool:=(l[i]?).any fun c=>decide (c.AW=x.client∨c.AW=x.server)
def Nj (x:IA) (l:List BW) (k:Nat):List Int:=((List.range k).filter (VE x l)).map fun i:Nat=>(i:Int)
theorem W8 {x:IA} {l:List BW} {k:Nat} (h:VE x l k=true):Nj x l (k+1)=Nj x l k++[(k:Int)]:=by unfold Nj;rw [List.range_succ,List.filter_append,List.map_append];simp [h]
theorem sN {x:IA} {l:List BW} {k:Nat} (h:VE x l k=false):Nj x l (k+1)=Nj x l k:=by unfold Nj;rw [List.range_succ,List.filter_append,List.map_append];simp [h]
theorem W9 (x:IA) (l:List BW) (k:Nat):(Nj x l k).length≤k:=by unfold Nj;rw [List.length_map];exact Nat.le_trans (List.length_filter_le _ _) OY
def JW (e:Da) (l:List BW) (k:Int):List Int×Int:=
 if FH e=false then ([],31) else if 24<l.length then ([],3) else if k<0∨((e.BQ.length:Nat):Int)≤k then ([],4)
 else (Nj (e.BQ[k.toNat]?.getD GZ) l l.length,0)
theorem AEg {e e2:B7} {c b:BW} (h:c.kind=1) (hs:B8 e c= .ok (e2,b)):(0≤c.at_∧c.at_≤(e.Ay.length:Nat))∧e2={ e with Ay:=e.Ay.take c.at_.toNat++[c.number]++e.Ay.drop c.at_.toNat }∧b=⟨c.AW,2,c.number,0,Bv⟩:=by
 rw [O3 h] at hs
 (repeat' (split at hs))<;>first|(cases hs;done)|(injection hs with hs;injection hs with h1 h2;exact ⟨by omega,h1.symm,h2.symm⟩)
theorem AEh {e e2:B7} {c b:BW} (h:c.kind=2) (hs:B8 e c= .ok (e2,b)):(0≤MT e c)∧e2={ e with Ay:=e.Ay.eraseIdx (MT e c).toNat }∧b=⟨c.AW,1,c.number,MT e c,Bv⟩:=by
 rw [O4 h] at hs
 (repeat' (split at hs))<;>first|(cases hs;done)|(injection hs with hs;injection hs with h1 h2;exact ⟨by omega,h1.symm,h2.symm⟩)
theorem AEi {e e2:B7} {c b:BW} (h:c.kind=3) (hs:B8 e c= .ok (e2,b)):e2={ e with most:=c.number }∧b=⟨c.AW,c.kind,e.most,0,Bv⟩:=by
 rw [O5 h] at hs
 (repeat' (split at hs))<;>first|(cases hs;done)|(injection hs with hs;injection hs with h1 h2;exact ⟨h1.symm,h2.symm⟩)
theorem AEj {e e2:B7} {c b:BW} (h:c.kind=4) (hs:B8 e c= .ok (e2,b)):e2={ e with least:=c.number }∧b=⟨c.AW,c.kind,e.least,0,Bv⟩:=by
 rw [O6 h] at hs
 (repeat' (split at hs))<;>first|(cases hs;done)|(injection hs with hs;injection hs with h1 h2;exact ⟨h1.symm,h2.symm⟩)
theorem AEk {e e2:B7} {c b:BW} (h:c.kind=5) (hs:B8 e c= .ok (e2,b)):(0≤c.at_∧c.at_≤(e.ids.length:Nat))∧e2={ e with ids:=e.ids.take c.at_.toNat++[c.Cr]++e.ids.drop c.at_.toNat }∧b=⟨c.AW,6,c.Cr.CS,0,Bv⟩:=by
 rw [O7 h] at hs
 (repeat' (split at hs))<;>first|(cases hs;done)|(injection hs with hs;injection hs with h1 h2;exact ⟨by omega,h1.symm,h2.symm⟩)
theorem AEl {e e2:B7} {c b:BW} (h:c.kind=6) (hs:B8 e c= .ok (e2,b)):∃x,e.ids[(Bk c.number e.ids).toNat]? =some x∧0≤Bk c.number e.ids∧e2={ e with ids:=e.ids.eraseIdx (Bk c.number e.ids).toNat }∧b=⟨c.AW,5,0,Bk c.number e.ids,x⟩:=by
 rw [O8 h] at hs
 (repeat' (split at hs))<;>first|(cases hs;done)|(injection hs with hs;injection hs with h1 h2;exact ⟨_,by assumption,by omega,h1.symm,h2.symm⟩)
theorem AEm {e e2:B7} {c b:BW} (h:c.kind=7) (hs:B8 e c= .ok (e2,b)):Fb e.anchors c.number=false∧e2={ e with anchors:=YV e.anchors c.number }∧b=⟨c.AW,8,c.number,0,Bv⟩:=by
 rw [O9 h] at hs
 (repeat' (split at hs))<;>first|(cases hs;done)|(injection hs with hs;injection hs with h1 h2;exact ⟨by simp_all,h1.symm,h2.symm⟩)
theorem AEn {e e2:B7} {c b:BW} (h:c.kind=8) (hs:B8 e c= .ok (e2,b)):Fb e.anchors c.number=true∧e2={ e with anchors:=e.anchors.eraseIdx (Em e.anchors c.number) }∧b=⟨c.AW,7,c.number,0,Bv⟩:=by
 rw [O_ h] at hs
 (repeat' (split at hs))<;>first|(cases hs;done)|(injection hs with hs;injection hs with h1 h2;exact ⟨by simp_all,h1.symm,h2.symm⟩)
theorem AEo {e e2:B7} {c b:BW} (h:c.kind=9) (hs:B8 e c= .ok (e2,b)):Fb e.hashes c.number=false∧e2={ e with hashes:=YV e.hashes c.number }∧b=⟨c.AW,10,c.number,0,Bv⟩:=by
 rw [PB h] at hs
 (repeat' (split at hs))<;>first|(cases hs;done)|(injection hs with hs;injection hs with h1 h2;exact ⟨by simp_all,h1.symm,h2.symm⟩)
theorem ABa {e e2:B7} {c b:BW} (h:c.kind=10) (hs:B8 e c= .ok (e2,b)):Fb e.hashes c.number=true∧e2={ e with hashes:=e.hashes.eraseIdx (Em e.hashes c.number) }∧b=⟨c.AW,9,c.number,0,Bv⟩:=by
 rw [MU h] at hs
 (repeat' (split at hs))<;>first|(cases hs;done)|(injection hs with hs;injection hs with h1 h2;exact ⟨by simp_all,h1.symm,h2.symm⟩)
theorem ABb {e e2:B7} {c b:BW} (h:c.kind=11) (hs:B8 e c= .ok (e2,b)):e2={ e with MQ:=(c.number==1) }∧b=⟨c.AW,c.kind,Km e.MQ,0,Bv⟩:=by
 rw [MV h] at hs
 (repeat' (split at hs))<;>first|(cases hs;done)|(injection hs with hs;injection hs with h1 h2;exact ⟨h1.symm,h2.symm⟩)
theorem ABc {e e2:B7} {c b:BW} (h:c.kind=12) (hs:B8 e c= .ok (e2,b)):e2={ e with own:=(c.number==1) }∧b=⟨c.AW,c.kind,Km e.own,0,Bv⟩:=by
 rw [MW h] at hs
 (repeat' (split at hs))<;>first|(cases hs;done)|(injection hs with hs;injection hs with h1 h2;exact ⟨h1.symm,h2.symm⟩)
theorem sO {e:B7} {c:BW} (h:0≤MT e c):(MT e c).toNat<e.Ay.length:=by obtain ⟨_,_,_,h3⟩:=O0 (p:=fun y=>c.number==y) (l:=e.Ay) h;exact h3
theorem fY {e e2:B7} {c b:BW} (F6:e.small) (hcs:c.Cr.small) (hce:GI e=true) (hc:JD c) (hs:B8 e c= .ok (e2,b)):BC prog 316 [agg (Bc e),agg (DK c)] (agg (Bc e2)):=by
 refine fo func316 rfl ⟨rfl,rfl⟩ fun M0 w0=> ?_
 have hk:=hc.1
 have ok:=DA.1 hce
 have hs1:=F6.Ay
 have UY:=F6.anchors
 have hs3:=F6.hashes
 have hs4:=F6.Xi
 refine Tr.seq (Tr.An (tp rfl (BZ rfl (Va rfl)) (tp rfl (BZ rfl (Va rfl)) ?_)))
 refine Tl rfl rfl rfl rfl z40 IU (fun b1=> ?_)
 refine ap ?_
 refine ap ?_
 refine tp rfl (Ck (TK F6) rfl rfl) ?_
 refine Tl rfl rfl rfl rfl z40 IU (fun b2=> ?_)
 refine ap ?_
 refine ac ?_
 refine an ?_ ?_<;>intro h1 q1
 obtain ⟨hr,rfl,rfl⟩:=AEg q1 hs
 refine ap ?_
 refine tp rfl (AR rfl (Ni (l:=e.Ay) (i:=c.at_.toNat) AA hs1) ⟨ke rfl,⟨_,rfl,int_eq AA⟩,kz⟩) ?_
 refine ap ?_
 refine wk [5,4] rfl ?_
 refine ap ?_
 refine Tr.drop 0 (Tr.ret (Fin.CR rfl (AO.cell 0 rfl rfl Cj CF rfl Lr) ?_))
 · exact Lr
 refine ac ?_
 refine wk [24,13,5,4,3,2] rfl ?_
 refine Tr.cn rfl ?_ ?_<;>intro h2 q2
 obtain ⟨hr,rfl,rfl⟩:=AEh q2 hs
 refine Tr.rx ?_
 refine ay ?_
 refine xo rfl (fun _=>CK (Iz) rfl rfl rfl) ?_
 refine xo rfl (fun _=>AR rfl (I0 (l:=e.Ay) (i:=(MT e c).toNat) (sO hr) hs1) ⟨ke rfl,⟨_,rfl,int_eq (show MT e c=_ by omega)⟩,trivial⟩) ?_
 refine ay ?_
 refine Cx.nil ⟨by kernel_rfl,?_⟩
 refine BH.done XT ?_
 refine ac ?_
 refine wk [5,4] rfl ?_
 refine ap ?_
 refine Tr.drop 0 (Tr.ret (Fin.CR rfl (AO.cell 0 rfl rfl Cj CF rfl Lr) ?_))
 · exact Lr
 refine an ?_ ?_<;>intro h3 q3
 obtain ⟨rfl,rfl⟩:=AEi q3 hs
 refine ap ?_
 refine ap ?_
 refine Tr.drop 0 (Tr.ret (Fin.CR rfl (AO.cell 0 rfl rfl Cj CF rfl Lr) ?_))
 · exact Lr
 refine an ?_ ?_<;>intro h4 q4
 obtain ⟨rfl,rfl⟩:=AEj q4 hs
 refine ap ?_
 refine ap ?_
 refine Tr.drop 0 (wk [4] rfl (Tr.ret (Fin.CR rfl (AO.cell 0 rfl rfl Cj CF rfl Lr) ?_)))
 · exact Lr
 refine an ?_ ?_<;>intro h5 q5
 obtain ⟨hr,rfl,rfl⟩:=AEk q5 hs
 refine ap ?_
 refine tp rfl (Dn rfl underlying38 E6 (vl rfl) (vl rfl) AA B9) ?_
 refine TO.pad ?_
 refine TO.DZ 0 rfl rfl AB (EL rfl rfl AB rfl underlying38 E6 dN VP rfl AB ⟨_,rfl,AQ _⟩ (vl rfl) JS JU (Br BJ ⟨_,rfl,DD 1⟩)) (fun v1=> ?_)
 refine ap ?_
 refine wk [6,5,4,3] rfl ?_
 refine ap ?_
 refine tp rfl (Ck (Ll hcs) rfl rfl) (tp rfl (AM (xs:=[.tmp 56]) (rows:=[_]) rfl rfl underlying38 E6 VP rfl AB ⟨⟨Am,(Va rfl)⟩,trivial⟩ AB) ?_)
 refine TO.DZ 0 rfl rfl AB (B4 rfl rfl rfl rfl underlying38 E6 dN VP (Kb rfl) (Kf rfl) (Az BJ (Ka rfl))) (fun v2=> ?_)
 refine ap ?_
 refine ap ?_
 refine tp rfl (Dh rfl underlying38 E6 (vl rfl) (vl rfl) AA B9) ?_
 refine TO.DZ 0 rfl rfl AB (B4 rfl rfl rfl rfl underlying38 E6 dN VP (Kb rfl) (vl rfl) (Az BJ (Ka rfl))) (fun v3=> ?_)
 refine ap ?_
 refine wk [5,4] rfl ?_
 refine ap ?_
 refine Tr.drop 1 (Tr.ret (Fin.CR rfl (AO.cell 1 rfl rfl Cj CF rfl Lr) ?_))
 · exact BR ⟨Lr,Lr,Lr,Lr,Lr,Pr.le_trans (At _ _) (Pr.le_of_eq (by show _=slice 4 ((e.ids.take c.at_.toNat++[c.Cr]++e.ids.drop c.at_.toNat).map G1);simp [List.map_take,List.map_drop])),Lr,Lr,Lr,trivial⟩
 refine ac ?_
 refine wk [67,13,5,4,3,2] rfl ?_
 refine Tr.cn rfl ?_ ?_<;>intro h6 q6
 obtain ⟨x_,hx_,hr,rfl,rfl⟩:=AEl q6 hs
 have hlt:=BN hx_
 refine ac ?_
 refine co rfl (CK (Nh hs4) rfl rfl rfl) ?_
 refine ac ?_
 refine wk [8,5,4] rfl ?_
 refine ap ?_
 refine tp rfl (Dn rfl underlying38 E6 (vl rfl) (vl rfl) AA B9) ?_
 refine TO.pad ?_
 refine TO.DZ 0 rfl rfl AB (EL rfl rfl AB rfl underlying38 E6 dN VP rfl AB ⟨_,rfl,AQ _⟩ (vl rfl) JS JU (Br BJ ⟨_,rfl,DD 1⟩)) (fun v4=> ?_)
 refine ap ?_
 refine ap ?_
 refine tp rfl (Dh rfl underlying38 E6 (vl rfl) (vl rfl) AA B9) ?_
 refine TO.DZ 0 rfl rfl AB (B4 rfl rfl rfl rfl underlying38 E6 dN VP (Kb rfl) (vl rfl) (Az BJ (Ka rfl))) (fun v5=> ?_)
 refine ap ?_
 refine wk [5,4] rfl ?_
 refine ap ?_
 refine Tr.drop 1 (Tr.ret (Fin.CR rfl (AO.cell 1 rfl rfl Cj CF rfl Lr) ?_))
 · exact BR ⟨Lr,Lr,Lr,Lr,Lr,Pr.le_trans (At _ _) (Pr.le_of_eq (by show _=slice 4 ((e.ids.eraseIdx (Bk c.number e.ids).toNat).map G1);rw [List.eraseIdx_eq_take_drop_succ,show (Bk c.number e.ids+1).toNat=(Bk c.number e.ids).toNat+1 by omega];simp [List.map_take,List.map_drop])),Lr,Lr,Lr,trivial⟩
 refine an ?_ ?_<;>intro h7 q7
 obtain ⟨hr,rfl,rfl⟩:=AEm q7 hs
 refine ap ?_
 refine tp rfl (CK (OE UY) rfl rfl rfl) ?_
 refine ap ?_
 refine wk [5,4] rfl ?_
 refine ap ?_
 refine Tr.drop 0 (Tr.ret (Fin.CR rfl (AO.cell 0 rfl rfl Cj CF rfl Lr) ?_))
 · exact Lr
 refine an ?_ ?_<;>intro h8 q8
 obtain ⟨hr,rfl,rfl⟩:=AEn q8 hs
 refine Tr.rx ?_
 refine ay ?_
 refine xo rfl (fun _=>CK (Iz) rfl rfl rfl) ?_
 refine xo rfl (fun _=>AR rfl (I0 (l:=e.anchors) (i:=Em e.anchors c.number) (Ue hr) UY) ⟨ke rfl,⟨_,rfl,int_eq (by rw [VC (O2 ok.anc),if_pos hr])⟩,trivial⟩) ?_
 refine ay ?_
 refine Cx.nil ⟨by kernel_rfl,?_⟩
 refine BH.done XT ?_
 refine ac ?_
 refine wk [5,4] rfl ?_
 refine ap ?_
 refine Tr.drop 0 (Tr.ret (Fin.CR rfl (AO.cell 0 rfl rfl Cj CF rfl Lr) ?_))
 · exact Lr
 refine an ?_ ?_<;>intro h9 q9
 obtain ⟨hr,rfl,rfl⟩:=AEo q9 hs
 refine ap ?_
 refine tp rfl (CK (OE hs3) rfl rfl rfl) ?_
 refine ap ?_
 refine wk [5,4] rfl ?_
 refine ap ?_
 refine Tr.drop 0 (Tr.ret (Fin.CR rfl (AO.cell 0 rfl rfl Cj CF rfl Lr) ?_))
 · exact Lr
 refine ac ?_
 refine wk [116,13,5,4,3,2] rfl ?_
 refine Tr.cn rfl ?_ ?_<;>intro h10 PC
 obtain ⟨hr,rfl,rfl⟩:=ABa PC hs
 refine Tr.rx ?_
 refine ay ?_
 refine xo rfl (fun _=>CK (Iz) rfl rfl rfl) ?_
 refine xo rfl (fun _=>AR rfl (I0 (l:=e.hashes) (i:=Em e.hashes c.number) (Ue hr) hs3) ⟨ke rfl,⟨_,rfl,int_eq (by rw [VC (O2 ok.hash),if_pos hr])⟩,trivial⟩) ?_
 refine ay ?_
 refine Cx.nil ⟨by kernel_rfl,?_⟩
 refine BH.done XT ?_
 refine ac ?_
 refine wk [5,4] rfl ?_
 refine ap ?_
 refine Tr.drop 0 (Tr.ret (Fin.CR rfl (AO.cell 0 rfl rfl Cj CF rfl Lr) ?_))
 · exact Lr
 refine an ?_ ?_<;>intro h11 Rt
 obtain ⟨rfl,rfl⟩:=ABb Rt hs
 refine ap ?_
 refine ap ?_
 refine Tr.drop 0 (Tr.ret (Fin.CR rfl (AO.cell 0 rfl rfl Cj CF rfl Lr) ?_))
 · exact Lr
 refine an ?_ ?_<;>intro h12 VQ
 obtain ⟨rfl,rfl⟩:=ABc VQ hs
 refine ap ?_
 refine wk [5,4] rfl ?_
 refine ap ?_
 refine Tr.drop 0 (Tr.ret (Fin.CR rfl (AO.cell 0 rfl rfl Cj CF rfl Lr) ?_))
 · exact Lr
 exfalso;omega
theorem ZR {e:B7} {c:BW} {n:Nat} (hz:e.sz n) (hn:n≤900000) (hi:c.Cr.fits∧c.Cr.small):BC prog 303 [agg (Bc e),agg (DK c)] (D7 [agg (Bc (D8 e c).1),int (D8 e c).2.2]):=by
 refine fo func303 rfl ⟨rfl,rfl⟩ fun M0 w0=> ?_
 have F6:=hz.small AA
 have hcs:=hi.2
 refine Tr.seq (Tr.An (tp rfl (BZ rfl Cm) (tp rfl (BZ rfl Cm) ?_)))
 refine Tl rfl rfl rfl rfl z40 IU (fun b1=> ?_)
 refine ao ?_
 refine ac ?_
 refine co rfl (CK (VD F6 hcs) rfl rfl rfl) ?_
 refine ac ?_
 refine an ?_ ?_<;>intro h1 q1
 have hb:=sM q1
 refine ao ?_
 refine TO.AK 0 rfl rfl rfl vq Cm rfl CF rfl rfl ?_
 refine ao ?_
 refine wk [5,4] rfl (Tr.ret (Fin.AE (Fin.BU rfl (AO.cell 0 rfl rfl Cj CF rfl Lr) (AO.tmp rfl Lr) ?_)))
 refine A0 ⟨?_,?_,trivial⟩
 · exact Zq
 · exact int_eq (by rw [hb])
 obtain ⟨hce,hc,e2,b,hs⟩:=wu (e:=e) (c:=c) (by have:=q1;omega)
 have AEp:=(bQ hc hs hz hi).1.small AA
 refine ac ?_
 refine ao ?_
 refine tp rfl (CK (fY F6 hcs hce hc hs) rfl rfl rfl) ?_
 refine Tl rfl rfl rfl rfl z40 IU (fun b2=> ?_)
 refine sf 0 7 ⟨rfl,rfl,rfl⟩ rfl rfl rfl rfl ?_
 refine ao ?_
 refine wk [7,4] rfl ?_
 refine ac ?_
 refine co rfl (Ck (FE AEp) rfl rfl) ?_
 refine an ?_ ?_<;>intro h2 q2
 have hb:=qZ hce hc hs (by have:=q2;cases h_:GI e2<;>simp_all)
 refine ao ?_
 refine TO.AK 0 rfl rfl rfl vq Cm rfl CF rfl rfl ?_
 refine ao ?_
 refine Tr.ret (Fin.AE (Fin.BU rfl (AO.cell 0 rfl rfl Cj CF rfl Lr) (AO.tmp rfl Lr) ?_))
 refine A0 ⟨?_,?_,trivial⟩
 · exact Zq
 · exact int_eq (by rw [hb])
 have hb:=jz hce hc hs (by have:=q2;cases h_:GI e2<;>simp_all)
 refine ac ?_
 refine ao ?_
 refine TO.AK 0 rfl rfl rfl vq Cm rfl CF rfl rfl ?_
 refine ao ?_
 refine Tr.ret (Fin.BU rfl (AO.cell 0 rfl rfl Cj CF rfl Lr) (AO.tmp rfl Lr) ?_)
 refine A0 ⟨?_,?_,trivial⟩
 · rw [hb];exact Lr
 · exact int_eq (by rw [hb])
theorem Rb {e:Da} {n:Nat} (hz:e.sz n) (hn:n≤1000000):OP prog 286 [agg (CG e)] (fun x=>agg [is x,Hy e.BQ,Qq e.items]) (fun x=>[Bx 40 9 (e.Bp.map Bc) x]):=by
 refine OP.of func286 rfl rfl Ao fun M0 w0 S rs M1 w1=> ?_
 have hl1:=hz.le
 have hl2:=hz.lg
 have hl3:=hz.li
 refine Tr.seq (Tr.An (tp rfl (BZ rfl (Va rfl)) ?_))
 refine Tl rfl rfl rfl rfl z31 Ht (fun b1=> ?_)
 refine ao ?_
 refine ao ?_
 refine tp rfl (Ij rfl underlying28 Eh s8 YK rfl AB (vl rfl) iD Zg) ?_
 refine tp rfl (oD) ?_
 refine Tl rfl rfl rfl rfl z31 Ht (fun b2=> ?_)
 refine TO.AK 0 rfl rfl rfl (vl rfl) (Va rfl) rfl DP rfl rfl ?_
 refine ao ?_
 refine ac ?_
 refine Tr.block (Tr.HC 0 [Af (.slice none 0 0) (lens ((e.Bp.take 0).map Bc).length),Hy e.BQ,is (.slice none 0 0)] rfl ⟨JX rfl,Lr,Lr,trivial⟩ (Tr.LM 40 9 (Tr.El _ (kk [14,13,3,2,1] rfl) (fun k v=>[(15,int ((k:Nat):Int))]) (fun k v=>Hp M0 w0 S (Bi 40 9 ((e.Bp.take k).map Bc) v::AF true b2 31 [Af v (lens ((e.Bp.take k).map Bc).length),Hy e.BQ,is (.slice none 0 0)]::AF true b1 31 (([.slice none 0 0,.slice none 0 0,.slice none 0 0]:List Value).map is)::Ak M1 w1::rs)) (fun k:Nat=>k≤(e.Bp).length) (fun k:Nat=>(e.Bp).length-k) 0 (.slice none 0 0) (Nat.zero_le _) kz (fun _ _ h=>h) ?_)))
 rintro k v BV
 refine ac ?_
 refine Tr.seq ?_
 refine Tr.cn rfl ?_ ?_<;>intro h1 q1
 have Ai:k<(e.Bp).length:=AH h1
 obtain ⟨x,Ah⟩:=at_ Ai
 have hxs:=(hz.Bp x (List.mem_of_getElem? Ah)).small hn
 refine ac ?_
 refine Tr.seq (Tr.block (Tr.seq (Tr.An (tp rfl (AD rfl underlying27 CF (vl rfl) (vl rfl) AA CL) ?_))))
 refine tp rfl (AL rfl Cj CF (vl rfl) rfl rfl) ?_
 refine Tl rfl rfl rfl rfl z40 IU (fun b3=> ?_)
 refine sf 0 5 ⟨rfl,rfl,rfl⟩ rfl rfl rfl rfl ?_
 refine ao ?_
 refine Tr.pad (Tr.rx ?_)
 refine ax ?_
 refine xo rfl (fun _=>Ck (TK hxs) rfl rfl) (xo rfl (fun _=>AM (xs:=[.tmp 22]) (rows:=[_]) rfl rfl underlying27 CF z40 rfl AB ⟨⟨Am,(Va rfl)⟩,trivial⟩ AB) ?_)
 refine Cx.ef 1 rfl rfl AB (Fw rfl rfl AB rfl underlying27 CF uV z40 rfl AB AB (vl rfl) (Kf rfl) (Bl fun _=>rfl) (Nat.zero_lt_succ _) (by simp only [List.length_map,List.length_take,List.length_cons,List.length_nil];unfold maxLen;omega) (by simp only [List.length_map,List.length_take,List.length_cons,List.length_nil];omega)) ?_
 refine xo rfl (fun _=>Ab rfl GS (vl rfl)) (Cx.Dr 2 rfl rfl (Ft rfl rfl rfl (vl rfl) rfl uS Ao) ?_)
 refine Cx.nil ⟨by kernel_rfl,?_⟩
 refine BH.QL 1 2 24 rfl rfl AB rfl (fun v1=> ?_)
 refine BH.done al5 ?_
 refine ac ?_
 refine Tr.drop 0 (wk [15,14,13,3,2,1] rfl ?_)
 refine ac ?_
 refine Fin.HC 1 [Af v1 (lens ((e.Bp.take (k+1)).map Bc).length),Hy e.BQ,is (.slice none 0 0)] rfl ⟨C6 (by simp only [List.length_map,List.length_append,List.length_take,List.length_cons,List.length_nil];omega),Lr,Lr,trivial⟩ ?_
 rw [tZ (f:=Bc) Ah]
 exact Fin.DQ (k+1) v1 (⟨Ai,by omega⟩) ⟨⟨_,rfl,AG k⟩,kz⟩ (fun _ _ h=>h)
 have BL:k=(e.Bp).length:=by have:=AJ h1;omega
 subst BL
 rw [List.take_length]
 refine a2 ?_
 refine Tr.block (Tr.HC 1 [Af v (lens (e.Bp.map Bc).length),Hy e.BQ,Af (.slice none 0 0) (Qq (e.items.take 0))] rfl ⟨Lr,Lr,Bn rfl,trivial⟩ (Tr.B5 135 5 (Tr.El _ (kk [29,28,3,2] rfl) (fun m u=>[(30,int ((m:Nat):Int))]) (fun m u=>Hp M0 w0 S (Au 135 5 u::Bi 40 9 (e.Bp.map Bc) v::AF true b2 31 [Af v (lens (e.Bp.map Bc).length),Hy e.BQ,Af u (Qq (e.items.take m))]::AF true b1 31 (([.slice none 0 0,.slice none 0 0,.slice none 0 0]:List Value).map is)::Ak M1 w1::rs)) (fun m:Nat=>m≤(e.items).length) (fun m:Nat=>(e.items).length-m) 0 (.slice none 0 0) (Nat.zero_le _) kz (fun _ _ h=>h) ?_)))
 rintro m u MY
 refine ac ?_
 refine Tr.seq ?_
 refine Tr.cn rfl ?_ ?_<;>intro h2 q2
 have ES:m<(e.items).length:=AH h2
 obtain ⟨y,EX⟩:=at_ ES
 have hyl:=(hz.items y (List.mem_of_getElem? EX)).2
 refine ac ?_
 refine Tr.seq (Tr.block (Tr.seq (Tr.An (tp rfl (AD rfl underlying29 HM (vl rfl) (vl rfl) AA CL) ?_))))
 refine tp rfl (AL rfl UH HM (vl rfl) rfl rfl) ?_
 refine Tl rfl rfl rfl rfl UI Vz (fun b4=> ?_)
 refine TO.AK 0 rfl rfl rfl (vl rfl) (Va rfl) rfl HM rfl rfl ?_
 refine ao ?_
 refine ao ?_
 refine tp rfl (Ij rfl underlying133 Ja tF z198 rfl AB (vl rfl) iD Zg) ?_
 refine tp rfl (Ab rfl UJ (vl rfl)) (TO.Dr 0 rfl rfl (A_ rfl rfl (vl rfl) (Vo rfl) tA rfl Ao rfl) ?_)
 refine ao ?_
 refine wk [30,29,28,7,3,2] rfl ?_
 refine ao ?_
 refine TO.DZ 1 rfl rfl AB (B4 rfl rfl rfl rfl underlying29 HM jG UI (Kb rfl) (Kf rfl) (Az BJ (Ka rfl))) (fun v2=> ?_)
 refine tp rfl (Ab rfl NH (vl rfl)) (TO.Dr 3 rfl rfl (A_ rfl rfl (vl rfl) (Vo rfl) uT rfl Ao rfl) ?_)
 refine ao ?_
 refine Tr.drop 0 ?_
 refine ac ?_
 refine Fin.HC 2 [Af v (lens (e.Bp.map Bc).length),Hy e.BQ,Af v2 (Qq (e.items.take (m+1)))] rfl ⟨Lr,Lr,BA (tZ (f:=bJ) EX),trivial⟩ (Fin.DQ (m+1) v2 (⟨ES,by omega⟩) ⟨⟨_,rfl,AG m⟩,kz⟩ (fun _ _ h=>h))
 have Jm:m=(e.items).length:=by have:=AJ h2;omega
 subst Jm
 refine ac ?_
 refine ao ?_
 refine TO.AK 3 rfl rfl rfl (vl rfl) (Va rfl) rfl DP rfl rfl ?_
 refine ao ?_
 refine Tr.ret (Fin.Qs 1 rfl (Fin.drop 0 (Fin.drop 1 (Fin.NL (Fin.vH v [_] rfl (AO.cell 0 rfl rfl DR DP rfl Lr) ?_ (List.Perm.refl _))))))
 · exact BR ⟨FP _ _,Lr,Pr.le_trans (At _ _) (Pr.le_of_eq Oj),trivial⟩
theorem Th {e:Da} {c:BW} (h:c.AW<0∨((e.Bp.length:Nat):Int)≤c.AW):TL e c=(Fx,40):=by unfold TL;rw [qt h];rfl
theorem wv {e:Da} {c:BW} {x:B7} (h:¬(c.AW<0∨((e.Bp.length:Nat):Int)≤c.AW)) (hx:e.Bp[c.AW.toNat]? =some x):TL e c=if (D8 x c).2.2=0 then (⟨e.Bp.set c.AW.toNat (D8 x c).1,e.BQ,e.items⟩,0) else (Fx,(D8 x c).2.2):=by
 unfold TL;rw [vh h hx]
 by_cases h0:(D8 x c).2.2=0
 · rw [if_pos h0,if_pos h0];rfl
 · rw [if_neg h0,if_neg h0];exact (if_neg h0).symm
theorem ZS {e:Da} {c:BW} {n:Nat} (hz:e.sz n) (hi:c.Cr.fits∧c.Cr.small) (h:(TL e c).2=0):(TL e c).1.sz (n+1)∧TL e c=(⟨(K1 e.Bp c).1,e.BQ,e.items⟩,0):=by
 have h0:(K1 e.Bp c).2=0:=by
  by_cases h0:(K1 e.Bp c).2=0
  · exact h0
  · unfold TL at h;rw [if_neg h0] at h;exact h
 have h1:TL e c=(⟨(K1 e.Bp c).1,e.BQ,e.items⟩,0):=by unfold TL;rw [if_pos h0]
 rw [h1]
 exact ⟨⟨kQ hz.Bp hi,hz.items,by show (K1 e.Bp c).1.length≤_;rw [bR];exact hz.le,hz.lg,hz.li⟩,rfl⟩
theorem sP {e:Da} {c:BW} (h:¬(TL e c).2=0):¬(K1 e.Bp c).2=0∧(TL e c).2=(K1 e.Bp c).2∧(TL e c).1=Fx:=by
 by_cases h0:(K1 e.Bp c).2=0
 · exfalso;unfold TL at h;rw [if_pos h0] at h;exact h rfl
 · unfold TL;rw [if_neg h0];exact ⟨h0,rfl,rfl⟩
theorem fZ {e:Da} {c:BW} {n:Nat} (hz:e.sz n) (hn:n≤900000) (hci:c.Cr.fits∧c.Cr.small):BC prog 287 [agg (CG e),agg (DK c)] (D7 [agg (CG (TL e c).1),int (TL e c).2]):=by
 refine fo func287 rfl ⟨rfl,rfl⟩ fun M0 w0=> ?_
 have AFx:=hz.le
 refine Tr.seq (Tr.An (tp rfl (BZ rfl Cm) (tp rfl (BZ rfl Cm) ?_)))
 refine Tl rfl rfl rfl rfl z31 Ht (fun b1=> ?_)
 refine ao ?_
 refine ag ?_ ?_<;>intro h1 q1
 refine ac ?_
 refine wk [19,4,3,2] rfl (Tr.cond rfl (fun _=> ?_) (fun h=>nomatch h))
 refine Tr.seq (Tr.An (tp rfl (Al (rows:=[]) rfl yl Ht trivial rfl) (TO.AK 0 rfl rfl rfl vq Cm rfl DP rfl rfl ?_)))
 refine ao ?_
 refine Tr.ret (Fin.AE (Fin.BU rfl (AO.cell 0 rfl rfl DR DP rfl Lr) (AO.tmp rfl Lr) ?_))
 refine A0 ⟨?_,?_,trivial⟩
 · exact Zm
 · exact int_eq (by rw [Th (e:=e) (c:=c) AA])
 refine ac ?_
 refine wk [19,4,3,2] rfl ?_
 refine Tr.cn rfl ?_ ?_<;>intro h2 q2
 refine ao ?_
 refine TO.AK 0 rfl rfl rfl vq Cm rfl DP rfl rfl ?_
 refine ao ?_
 refine Tr.ret (Fin.AE (Fin.BU rfl (AO.cell 0 rfl rfl DR DP rfl Lr) (AO.tmp rfl Lr) ?_))
 refine A0 ⟨?_,?_,trivial⟩
 · exact Zm
 · exact int_eq (by rw [Th (e:=e) (c:=c) AA])
 obtain ⟨x,hx⟩:=at_ (l:=e.Bp) (k:=c.AW.toNat) AA
 have hA:=wv (e:=e) (c:=c) AA hx
 have hlt:=BN hx
 refine ac ?_
 refine Tr.seq (Tr.pad (Tr.rx ?_))
 refine ax ?_
 refine xo rfl (fun _=>AD rfl underlying27 CF vq vq AA (Bm (f:=Bc) hx)) ?_
 refine ax ?_
 refine xo rfl (fun _=>CK (ZR (hz.Bp x (List.mem_of_getElem? hx)) AA hci) rfl rfl rfl) ?_
 refine ax ?_
 refine Cx.ef 0 rfl rfl AB (CB rfl rfl AB rfl z40 IU) (Cx.Dr 0 rfl rfl (Cd rfl rfl rfl rfl Cm CF rfl rfl) (xm rfl ?_))
 refine Cx.nil ⟨by kernel_rfl,?_⟩
 refine BH.open_ 0 6 rfl rfl (fun v1=> ?_)
 refine BH.done XT (Fin.LI 6 0 _ rfl rfl (fun _=>rfl) (fun b2=> ?_))
 refine Fin.go (wk [7,6,4,3,2] rfl ?_)
 refine an ?_ ?_<;>intro h3 q3
 rw [if_neg (by have:=q3;omega)] at hA
 refine ao ?_
 refine TO.AK 1 rfl rfl rfl vq Cm rfl DP rfl rfl ?_
 refine ao ?_
 refine Tr.drop 0 (Tr.ret (Fin.AE (Fin.BU rfl (AO.cell 0 rfl rfl DR DP rfl Lr) (AO.tmp rfl Lr) ?_)))
 refine A0 ⟨?_,?_,trivial⟩
 · exact Px
 · exact F2
 rw [if_pos (by have:=q3;omega)] at hA
 refine ac ?_
 refine ao ?_
 refine TO.jW rfl rfl AB rfl (Rb hz AA) kz (fun v2=> ?_)
 refine Tl rfl rfl rfl rfl z31 Ht (fun b3=> ?_)
 refine TO.AK 0 rfl rfl rfl vq Cm rfl DP rfl rfl ?_
 refine ao ?_
 refine ao ?_
 refine tp rfl (C7 1 rfl (Qj rfl underlying27 CF vq vq AA EM)) ?_
 refine TO.Dr 1 rfl rfl (LN rfl rfl vq Cm CF rfl (Bl fun _=>rfl) Ts AB (show _=(e.Bp.set c.AW.toNat (D8 x c).1).map Bc by rw [List.map_set];rfl)) ?_
 refine ao ?_
 refine Tr.drop 2 (wk [8,4] rfl (Tr.seq (Tr.MN 0 1 0 rfl rfl AB rfl Lr (Bl fun _=>rfl) ?_)))
 refine ao ?_
 refine TO.AK 2 rfl rfl rfl vq Cm rfl DP rfl rfl ?_
 refine ao ?_
 refine Tr.drop 1 (Tr.ret (Fin.BU rfl (AO.cell 1 rfl rfl DR DP rfl Lr) (AO.tmp rfl Lr) ?_))
 refine A0 ⟨?_,?_,trivial⟩
 · rw [hA];exact Lr
 · exact F2
theorem Rc {e:Da} {l:List BW} {s:List Int} {n:Nat} (hz:e.sz n) (hn:n≤800000) (hc:∀c∈l,c.Cr.fits∧c.Cr.small):BC prog 255 [agg (CG e),slice 8 (l.map DK),ints s] (D7 [agg (CG (Uq e l s).1),int (Uq e l s).2]):=by
 refine fo func255 rfl ⟨rfl,rfl⟩ fun M0 w0=>(Tr.Cf 1 rfl fun FC=>(Tr.Cf 2 rfl fun kK=>(Tr.seq (Tr.An (tp rfl (BZ rfl Cm) ?_)))))
 refine Tl rfl rfl rfl rfl z31 Ht (fun b1=> ?_)
 refine ap ?_
 refine ac ?_
 refine co rfl (Ck (Dp (hz.fits AA)) rfl rfl) ?_
 refine an ?_ ?_<;>intro h1 q1
 have hA:Uq e l s=(Fx,31):=if_pos (by have:=q1;cases h_:FH e<;>simp_all)
 refine ap ?_
 refine Tr.ret (Fin.AE (Fin.BU rfl (AO.cell 0 rfl rfl DR DP rfl Lr) (AO.tmp rfl Lr) ?_))
 refine A0 ⟨?_,?_,trivial⟩
 · exact Px
 · exact F2
 have hok:FH e=true:=by have:=q1;cases h_:FH e<;>simp_all
 refine ac ?_
 refine an ?_ ?_<;>intro h2 q2
 have hA:Uq e l s=(Fx,3):=by unfold Uq;rw [if_neg J9,if_pos (by have:=q2;omega)]
 refine ap ?_
 refine Tr.ret (Fin.AE (Fin.BU rfl (AO.cell 0 rfl rfl DR DP rfl Lr) (AO.tmp rfl Lr) ?_))
 refine A0 ⟨?_,?_,trivial⟩
 · exact Px
 · exact F2
 have AEq:l.length≤24:=by have:=q2;omega
 refine a2 ?_
 refine co rfl (CK (Qr (l:=s) (n:=((l.length:Nat):Int))) rfl rfl rfl) ?_
 refine ac ?_
 refine wk [25,6,3,2,1] rfl ?_
 refine Tr.cn rfl ?_ ?_<;>intro h3 q3
 have hA:Uq e l s=(Fx,46):=by unfold Uq;rw [if_neg J9,if_neg AA,if_pos KC]
 refine ap ?_
 refine Tr.ret (Fin.AE (Fin.BU rfl (AO.cell 0 rfl rfl DR DP rfl Lr) (AO.tmp rfl Lr) ?_))
 refine A0 ⟨?_,?_,trivial⟩
 · exact Px
 · exact F2
 have hsb:Dx l.length s=true:=by simpa using h3
 have hsn:=bS hsb
 have hel:=hz.le
 refine ac ?_
 refine ap ?_
 refine TO.jW rfl rfl AB rfl (Rb hz AA) kz (fun v1=> ?_)
 refine Tl rfl rfl rfl rfl z31 Ht (fun b2=> ?_)
 refine ap ?_
 refine Tr.seq (Tr.seq (Tr.MN 0 1 0 rfl rfl AB rfl Lr (Bl fun _=>rfl) ?_))
 refine ac ?_
 refine Tr.drop 1 (Tr.block (Tr.DE _ (kk [30,29,8,6,1] rfl) (fun (m:Nat) (Bp:List B7)=>[(31,int ((m:Nat):Int))]) (fun (m:Nat) (Bp:List B7)=>Hp M0 w0 Fa ([AF true b2 31 (CG ⟨Bp,e.BQ,e.items⟩),AF true b1 31 (([.slice none 0 0,.slice none 0 0,.slice none 0 0]:List Value).map is)])) (fun (m:Nat) (Bp:List B7)=>m≤s.length∧(⟨Bp,e.BQ,e.items⟩:Da).sz (n+m)∧NR l (s.drop m) Bp=NR l s e.Bp) (fun (m:Nat) (Bp:List B7)=>s.length-m) (0) (e.Bp)  (⟨Nat.zero_le _,hz,rfl⟩) kz (fun _ _ h=>h) ?_))
 rintro m Bp  ⟨hm1,hse,hm4⟩
 refine ac ?_
 refine Tr.seq ?_
 refine Tr.cn rfl ?_ ?_<;>intro h4 q4
 have hmm:m<s.length:=by have:=Co.C_ h4;omega
 obtain ⟨i,EX⟩:=at_ hmm
 have him:=PG hsb EX
 obtain ⟨c,gZ⟩:=at_ (l:=l) (k:=i.toNat) AA
 have hci:=hc c (List.mem_of_getElem? gZ)
 have hst:=eR (Bp:=Bp) EX gZ
 rw [hm4] at hst
 refine ac ?_
 refine Tr.seq (Tr.block (Tr.seq (Tr.Aj (co rfl (AD rfl underlying51 CH vq vq AA (AX EX)) ?_))))
 refine ac ?_
 refine Tr.seq (Tr.pad (Tr.rx ?_))
 refine ax ?_
 refine xo rfl (fun _=>AD rfl underlying32 C9 vq vq AA (Bm (f:=DK) gZ)) (xo rfl (fun _=>AL rfl GY C9 vq rfl rfl) ?_)
 refine xo rfl (fun _=>CK (fZ (e:=⟨Bp,e.BQ,e.items⟩) (c:=c) hse AA hci) rfl rfl rfl) ?_
 refine ax ?_
 refine Cx.ef 0 rfl rfl AB (CB rfl rfl AB rfl z31 Ht) (Cx.Dr 0 rfl rfl (Cd rfl rfl rfl rfl Cm DP rfl rfl) (xm rfl ?_))
 refine Cx.nil ⟨by kernel_rfl,?_⟩
 refine BH.open_ 0 11 rfl rfl (fun v2=> ?_)
 refine BH.done al3 (Fin.LI 11 0 _ rfl rfl (fun _=>rfl) (fun b3=> ?_))
 refine Fin.go (wk [31,30,29,12,11,8,6,1] rfl ?_)
 refine an ?_ ?_<;>intro h5 q5
 obtain ⟨h0_,h1_,h2_⟩:=sP (e:=⟨Bp,e.BQ,e.items⟩) (c:=c) (by have:=q5;omega)
 have h0_:¬(K1 Bp c).2=0:=h0_
 rw [if_neg h0_] at hst
 have hA:Uq e l s=(Fx,(TL ⟨Bp,e.BQ,e.items⟩ c).2):=by unfold Uq;rw [if_neg J9,if_neg AA,if_neg (by simp [hsb]),hst,h1_];exact if_neg h0_
 refine ap ?_
 refine Tr.drop 0 (Tr.ret (Fin.AE (Fin.AU (Fin.AE (Fin.AE (Fin.AU (Fin.AE (Fin.BU rfl (AO.cell 1 rfl rfl DR DP rfl Lr) (AO.tmp rfl Lr) ?_))))))))
 refine A0 ⟨?_,?_,trivial⟩
 · exact Px
 · exact F2
 have hs0:(TL ⟨Bp,e.BQ,e.items⟩ c).2=0:=by have:=q5;omega
 have hap:(K1 Bp c).2=0:=by by_cases h0:(K1 Bp c).2=0;exact h0;(exfalso;unfold TL at hs0;rw [if_neg (show ¬(K1 (⟨Bp,e.BQ,e.items⟩:Da).Bp c).2=0 from h0)] at hs0;exact h0 hs0)
 refine ac ?_
 refine ap ?_
 refine Tr.drop 0 ?_
 refine ac ?_
 refine Fin.nW 0 (CG ⟨(K1 Bp c).1,e.BQ,e.items⟩) rfl (by rw [(ZS hse hci hs0).2];rfl) ?_
 exact Fin.DO (m+1) ((K1 Bp c).1)  (⟨⟨by omega,by have h_:=(ZS hse hci hs0).1;rw [(ZS hse hci hs0).2] at h_;rw [show n+(m+1)=n+m+1 by omega];exact h_,by rw [hst,if_pos hap]⟩,by omega⟩) ⟨⟨_,rfl,AG m⟩,kz⟩ (fun _ _ h=>h)
 obtain rfl:m=s.length:=by have:=Co.C_ h4;omega
 rw [List.drop_length] at hm4
 have hA:Uq e l s=(⟨Bp,e.BQ,e.items⟩,0):=by unfold Uq;rw [if_neg J9,if_neg AA,if_neg (by simp [hsb]),←hm4];exact if_pos rfl
 refine ac ?_
 refine ap ?_
 refine Tr.ret (Fin.BU rfl (AO.cell 1 rfl rfl DR DP rfl Lr) (AO.tmp rfl Lr) ?_)
 refine A0 ⟨?_,?_,trivial⟩
 · rw [hA];exact Lr
 · exact F2
theorem SF {e:Da} {l:List BW} {i:Int} {n:Nat} (hz:e.sz n) (hn:n≤800000)  :BC prog 278 [agg (CG e),slice 8 (l.map DK),int i] (D7 [ints (JW e l i).1,int (JW e l i).2]):=by
 refine fo func278 rfl ⟨rfl,rfl⟩ fun M0 w0=>(Tr.Cf 1 rfl fun FC=> ?_)
 refine a2 ?_
 refine co rfl (Ck (Dp (hz.fits AA)) rfl rfl) ?_
 refine an ?_ ?_<;>intro h1 q1
 have hA:JW e l i=([],31):=if_pos (by have:=q1;cases h_:FH e<;>simp_all)
 refine ac ?_
 refine Tr.ret (Fin.AE (Fin.Dc rfl (Bo.Dy _ _) rfl ?_ rfl ?_))
 · rw [hA];exact AQ 1
 · exact F2
 have hok:FH e=true:=by have:=q1;cases h_:FH e<;>simp_all
 refine ac ?_
 refine an ?_ ?_<;>intro h2 q2
 have hA:JW e l i=([],3):=by unfold JW;rw [if_neg J9,if_pos (by have:=q2;omega)]
 refine ac ?_
 refine Tr.ret (Fin.AE (Fin.Dc rfl (Bo.Dy _ _) rfl ?_ rfl ?_))
 · rw [hA];exact AQ 1
 · exact F2
 have AEq:l.length≤24:=by have:=q2;omega
 refine ac ?_
 refine ag ?_ ?_<;>intro h3 q3
 refine ac ?_
 refine wk [25,3,2,1] rfl ?_
 refine ac ?_
 refine Tr.ret (Fin.AE (Fin.Dc rfl (Bo.Dy _ _) rfl ?_ rfl ?_))
 · exact iF
 · exact iE
 refine ac ?_
 refine wk [25,3,2,1] rfl ?_
 refine Tr.cn rfl ?_ ?_<;>intro h4 q4
 refine ac ?_
 refine Tr.ret (Fin.AE (Fin.Dc rfl (Bo.Dy _ _) rfl ?_ rfl ?_))
 · exact iF
 · exact iE
 obtain ⟨g,hg⟩:=at_ (l:=e.BQ) (k:=i.toNat) AA
 have hA:JW e l i=(Nj g l l.length,0):=by unfold JW;rw [if_neg J9,if_neg AA,if_neg AA,getD_at hg]
 refine a3 ?_
 refine Tr.block (Tr.B5 3 1 (Tr.El _ (kk [27,26,3,2] rfl) (fun k v=>[(28,int ((k:Nat):Int)),(8,Af v (ints (Nj g l k)))]) (fun k v=>Hp M0 w0 Fa ([Au 3 1 v])) (fun k:Nat=>k≤(l).length) (fun k:Nat=>(l).length-k) 0 (.slice none 0 0) (Nat.zero_le _) ⟨kq,⟨_,rfl,Bn rfl⟩,trivial⟩ (fun _ _ h=>h) ?_))
 rintro k v BV
 refine ac ?_
 refine Tr.seq ?_
 refine Tr.cn rfl ?_ ?_<;>intro h5 q5
 have Ai:k<(l).length:=AH h5
 obtain ⟨c,Ah⟩:=at_ Ai
 have hrl:=W9 g l k
 refine ac ?_
 refine ao ?_
 refine tp rfl (AD rfl underlying32 C9 vq vq AA (AX Ah)) (tp rfl (AL rfl GY C9 vq rfl rfl) ?_)
 refine Tl rfl rfl rfl rfl Nx JI (fun b1=> ?_)
 refine tm rfl ?_
 refine sf 0 10 ⟨rfl,rfl,rfl⟩ rfl rfl rfl rfl ?_
 refine ao ?_
 refine wk [28,27,26,10,9,8,3,2] rfl ?_
 refine ac ?_
 refine co rfl (AD rfl underlying28 Eh vq vq AA (Bm (f:=vU) hg)) ?_
 refine ag ?_ ?_<;>intro h6 q6
 have hP:VE g l k=true:=by unfold VE;rw [Ah];simp;omega
 refine ac ?_
 refine wk [52,28,27,26,9,8,3,2] rfl (Tr.cond rfl (fun _=> ?_) (fun h=>nomatch h))
 refine Tr.An (tm rfl (tm rfl (tp rfl (AM (xs:=[.tmp 54]) (rows:=[[_]]) rfl rfl underlying51 CH z3 rfl AB ⟨⟨Am,N0⟩,trivial⟩ AB) ?_)))
 refine TO.DZ 0 rfl rfl AB (B4 rfl rfl rfl rfl underlying51 CH IQ z3 H_ GH (Az BJ Kl)) (fun v1=> ?_)
 refine ao ?_
 refine ac ?_
 exact Fin.DQ (k+1) v1 (⟨Ai,by omega⟩) ⟨⟨_,rfl,AG k⟩,⟨_,rfl,BA (by rw [W8 hP,List.map_append];rfl)⟩,kz⟩ (fun _ _ h=>h)
 refine ac ?_
 refine cy h6 rfl (AD rfl underlying28 Eh vq vq AA (Bm (f:=vU) hg)) ?_
 refine ac ?_
 refine wk [52,28,27,26,9,8,3,2] rfl ?_
 refine Tr.cn rfl ?_ ?_<;>intro h7 q7
 have hP:VE g l k=true:=by unfold VE;rw [Ah];simp;omega
 refine ao ?_
 refine TO.DZ 0 rfl rfl AB (B4 rfl rfl rfl rfl underlying51 CH IQ z3 H_ GH (Az BJ Kl)) (fun v2=> ?_)
 refine ao ?_
 refine ac ?_
 exact Fin.DQ (k+1) v2 (⟨Ai,by omega⟩) ⟨⟨_,rfl,AG k⟩,⟨_,rfl,BA (by rw [W8 hP,List.map_append];rfl)⟩,kz⟩ (fun _ _ h=>h)
 have hP:VE g l k=false:=by unfold VE;rw [Ah];simp;omega
 refine a2 ?_
 exact Fin.DQ (k+1) v (⟨Ai,by omega⟩) ⟨⟨_,rfl,AG k⟩,⟨_,rfl,Pr.le_of_eq (by rw [sN hP])⟩,kz⟩ (fun _ _ h=>h)
 have BL:k=(l).length:=by have:=AJ h5;omega
 subst BL
 refine a2 ?_
 refine Tr.ret (Fin.Dc rfl (Bo.Dy _ _) rfl ?_ rfl ?_)
 · rw [hA];exact At _ _
 · exact F2
open Classical in
section
variable {e:Da} {c:BP} {l:List BW} {r:List BO} {d:List Int}
end
structure He (n:Nat) (r:List BO):Prop where
 up:∀q∈r,(0≤q.fst∧q.fst<q.thn)∧q.thn<n
 srt:Dv r=true
theorem He.nil (n:Nat):He n []:=⟨(fun q h=>by cases h),rfl⟩
theorem Nk (r:List BO) (q:BO):Q9 r [q]=Fy (r.foldl Fy []) q:=rfl
theorem He.put {n:Nat} {r:List BO} (h:He n r) {x y:Int} (h0:0≤x) (h1:x<y) (h2:y<n):He n (Q9 r [⟨x,y⟩]):=by
 refine ⟨fun q hq=> ?_,?_⟩
 ·
  rw [Nk,Wd,R9] at hq
  rcases hq with rfl|hq|hq
  · exact ⟨⟨h0,h1⟩,h2⟩
  · cases hq
  · exact h.up q hq
 · rw [Nk];exact N7 (NV r rfl)
theorem ZT (r:List BO) (q:BO):(Q9 r [q]).length≤r.length+1:=by
 rw [Nk]
 have h1:=Q7 (r.foldl Fy []) q
 have h2:=F_ r []
 simp at h2;omega
theorem He.valid {n:Nat} {r:List BO} (h:He n r) (hn:n≤24):BM n r=0:=lK hn h.up h.srt
theorem sQ {b:Nat} {s:DS} {n:Nat} (hn:n≤24):Be prog 52 [ptr b 0,int ((n:Nat):Int)] (Cp.ex fun r:List BO=>fact (He n r∧r.length≤2*n) (reqs r)) (DT b s) (fun _=>IP 104 b):=by
 refine Be.of func52 rfl rfl Ao fun M0 w0 S rs M1 w1=> ?_
 have aO:=s.C5 (n:=2*(n:Int)+1) AA
 refine Tr.seq (Tr.Aj (cm rfl (Ch.nil (Fin.go (Tr.seq (Tr.Aj (cm rfl (Ch.nil (Fin.go (Tr.seq (Tr.seq (Tr.An (tm rfl ?_)))))))))))))
 refine tm rfl ?_
 refine tp rfl (iQ rfl (vl rfl) (vl rfl) ?hin) ?_;case hin=>unfold OK;omega
 refine tp rfl (E5 rfl (vl rfl) (vl rfl) ?hin) ?_;case hin=>unfold OK;omega
 refine TO.IK 0 rfl rfl AB (Aq rfl rfl AB rfl (CX AA AA) ⟨ke rfl,ke rfl,trivial⟩) (tm rfl (TO.nil (Fin.go (Tr.block ?_))))
 refine Tr.QJ [(0,_),(1,_)] ⟨ke rfl,ke rfl,trivial⟩ (fun (r:List BO) (k:Int) (s2:DS)=>[(6,int k),(5,reqs r)]) (fun (r:List BO) (k:Int) (s2:DS)=>Hp M0 w0 S (DT b s2::Ak M1 w1::rs)) (fun (r:List BO) (k:Int) (s2:DS)=>0≤k∧He n r∧(r.length:Int)+k≤2*n) (fun (r:List BO) (k:Int) (s2:DS)=>k.toNat) ([]) (s.val (2*(n:Int)+1)) (_)  (⟨by omega,He.nil n,by simp;omega⟩) ⟨ke rfl,⟨_,rfl,AQ 2⟩,trivial⟩ (fun _ _ h=>h) ?_
 rintro r k s2  ⟨hk0,hN,hrl⟩
 refine Tr.seq (Tr.seq (Tr.Aj (cm rfl (co rfl (ki rfl rfl rfl rfl) (cm rfl ?_)))))
 refine Ch.cs 16 rfl ?_ ?_<;>intro h1 q1
 have hkp:k>0:=by simpa using h1
 refine NB h1 rfl (cy h1 rfl (ki rfl rfl rfl rfl) (co rfl (KH rfl rfl h1 rfl) (Ch.nil (Fin.go ?_))))
 refine Tr.cn rfl ?_ ?_<;>intro h2 q2
 have hn1:((n:Nat):Int)>1:=by simpa using h2
 have gW:=s2.C5 (n:=(n:Int)) AA
 have Vg:=s2.Ca.C5 (n:=(n:Int)) AA
 refine Tr.skip (Fin.go (Tr.seq (Tr.block (Tr.seq (Tr.An (tm rfl (tm rfl (TO.IK 0 rfl rfl AB (Aq rfl rfl AB rfl (CX AA AA) ⟨ke rfl,ke rfl,trivial⟩) (tm rfl (tm rfl (TO.IK 0 rfl rfl AB (Aq rfl rfl AB rfl (CX AA AA) ⟨ke rfl,ke rfl,trivial⟩) (tm rfl (tm rfl ?_)))))))))))))
 refine TO.nil (Fin.go (wk6 0 1 5 6 7 8 rfl (Tr.seq (Tr.Aj (cm rfl (cm rfl (co rfl (ki rfl rfl rfl rfl) (Ch.nil (Fin.go ?_)))))))))
 refine Tr.cn rfl ?_ ?_<;>intro h3 q3
 refine Tr.Aj (cm rfl (cm rfl (cm rfl (co rfl (Al (rows:=[(0,[_]),(1,[_])]) rfl yw QN ⟨⟨rfl,(Vo rfl)⟩,⟨⟨rfl,(Vo rfl)⟩,trivial⟩⟩ rfl) (co rfl (AM (xs:=[.tmp 34]) (rows:=[_]) rfl rfl underlying33 Cg Rs rfl AB ⟨⟨Am,(Va rfl)⟩,trivial⟩ AB) ?_)))))
 refine co rfl (AR rfl (Yu (a:=r) (b:=[⟨s2.val n,s2.Ca.val n⟩]) AA AV) ⟨ke rfl,(Kf rfl),trivial⟩) ?_
 refine cm rfl (Ch.nil (Fin.block (Fin.go (UA 0 1 5 6 rfl (Tr.Aj (cm rfl (csu rfl rfl rfl rfl AA (cm rfl (Ch.nil ?_)))))))))
 exact Fin.F7 (Q9 r [⟨s2.val n,s2.Ca.val n⟩]) (k-1) (_)  (⟨⟨by omega,hN.put AA KC AA,by have:=ZT r ⟨s2.val n,s2.Ca.val n⟩;omega⟩,by omega⟩) ⟨ke rfl,ke rfl,ke rfl,ke rfl,trivial⟩ (fun _ _ h=>h)
 refine Tr.skip (Fin.block (Fin.go (Tr.Aj (cm rfl (csu rfl rfl rfl rfl AA (cm rfl (Ch.nil (Fin.F7 (r) (k-1) (_)  (⟨⟨by omega,hN,by omega⟩,by omega⟩) ⟨ke rfl,ke rfl,ke rfl,ke rfl,trivial⟩ (fun _ _ h=>h)))))))))
 have:=h2
 refine Tr.exit (Fin.Ag (Fin.Ag (Fin.BD (Fin.go (Tr.seq (Tr.Aj (cm rfl (cm rfl (Ch.nil (Fin.go (Tr.ret (Fin.Gv 0 _ rfl rfl (Fin.GG [] rfl (AO.tmp rfl (Lr)) ?_ (fun _ _ _ _=>rfl))))))))))))))
 · exact Aw r (A8 ⟨hN,by omega⟩ (Lr))
 refine cnt h1 rfl (cnt h1 rfl (co rfl (Ou rfl rfl h1 rfl) (Ch.nil (Fin.go (Tr.cond rfl (fun h=>nomatch h) (fun _=> ?_))))))
 refine Tr.exit (Fin.Ag (Fin.Ag (Fin.BD (Fin.go (Tr.seq (Tr.Aj (cm rfl (cm rfl (Ch.nil (Fin.go (Tr.ret (Fin.Gv 0 _ rfl rfl (Fin.GG [] rfl (AO.tmp rfl (Lr)) ?_ (fun _ _ _ _=>rfl))))))))))))))
 · exact Aw r (A8 ⟨hN,by omega⟩ (Lr))
def SO (e:B7) (c:BW):Int:=
 if c.kind=7∨c.kind=9 then 0 else if c.kind=5 then 1 else if c.kind=1∨c.kind=12 then 2
 else if c.kind=3 then (if c.number>e.most then 2 else 3) else if c.kind=4 then (if c.number<e.least then 2 else 3) else if c.kind=11 then (if c.number=1 then 2 else 3) else 3
def Rd (a b:Int) (x:IA):Bool:=(decide (x.client=a)&&decide (x.server=b))||(decide (x.client=b)&&decide (x.server=a))
def OG (l:List IA) (a b:Int):Bool:=decide (a=b)||l.any (Rd a b)
theorem m8 {l:List IA} {a b:Int} {k:Nat} {x:IA} (hx:l[k]? =some x) (h:Rd a b x=true):OG l a b=true:=by unfold OG;rw [List.any_eq_true.2 ⟨x,List.mem_of_getElem? hx,h⟩,Bool.or_true]
theorem sS {l:List IA} {a b:Int} (h0:a≠b) (h:∀j y,j<l.length→l[j]? =some y→Rd a b y=false):OG l a b=false:=by
 unfold OG
 rw [Bool.or_eq_false_iff,decide_eq_false_iff_not,List.any_eq_false]
 refine ⟨h0,fun y hy=> ?_⟩
 obtain ⟨j,hj⟩:=List.mem_iff_getElem?.1 hy
 rw [h j y (BN hj) hj];decide
def W_ (l:List BW) (i:Nat):BW:=l[i]?.getD HN
def ZU (e:Da) (c:BW):Int:=SO (e.Bp[c.AW.toNat]?.getD E3) c
def m9 (e:Da) (l:List BW) (i k:Nat):Bool:=OG e.BQ (W_ l i).AW (W_ l k).AW&&decide (ZU e (W_ l i)<ZU e (W_ l k))
def OT (e:Da) (l:List BW) (i n:Nat):List BO:=((List.range n).filter (m9 e l i)).map fun k:Nat=>⟨(i:Int),(k:Int)⟩
def XA (e:Da) (l:List BW) (m:Nat):List BO:=(List.range m).flatMap fun i=>OT e l i l.length
def sU (e:Da) (l:List BW):List BO:=XA e l l.length
theorem XB (e:Da) (l:List BW) (i n:Nat):(OT e l i n).length≤n:=by unfold OT;rw [List.length_map];exact Nat.le_trans (List.length_filter_le _ _) OY
theorem TN (e:Da) (l:List BW) (m:Nat):XA e l (m+1)=XA e l m++OT e l m l.length:=by unfold XA;rw [List.range_succ,List.flatMap_append];simp
theorem Re (e:Da) (l:List BW):∀m,(XA e l m).length≤m*l.length
 |0=>by simp [XA]
 |m+1=>by have h1:=Re e l m;have h2:=XB e l m l.length;rw [TN,List.length_append,Nat.succ_mul];omega
theorem m_ {e:Da} {l:List BW} {i k:Nat} (h:m9 e l i k=true):OT e l i (k+1)=OT e l i k++[⟨(i:Int),(k:Int)⟩]:=by unfold OT;rw [List.range_succ,List.filter_append,List.map_append];simp [h]
theorem cX {e:Da} {l:List BW} {i k:Nat} (h:m9 e l i k=false):OT e l i (k+1)=OT e l i k:=by unfold OT;rw [List.range_succ,List.filter_append,List.map_append];simp [h]
theorem TP {e:B7} {c:BW}  :BC prog 96 [agg (Bc e),agg (DK c)] (int (SO e c)):=by
 refine fo func96 rfl ⟨rfl,rfl⟩ fun M0 w0=> ?_
 refine a2 ?_
 refine an ?_ ?_<;>intro h1 q1
 refine ac ?_
 refine Tr.cond rfl (fun _=> ?_) (fun h=>nomatch h1.symm.trans h)
 refine a2 ?_
 · exact OX
 refine an ?_ ?_<;>intro h2 q2
 refine a2 ?_
 · exact OX
 refine an ?_ ?_<;>intro h3 q3
 refine a2 ?_
 · exact OX
 refine an ?_ ?_<;>intro h4 q4
 refine ac ?_
 refine Tr.cond rfl (fun _=> ?_) (fun h=>nomatch h4.symm.trans h)
 refine ac ?_
 refine wk [4] rfl ?_
 refine ac ?_
 · exact OX
 · repeat' first|(refine int_eq ?_;unfold SO;(repeat' split)<;>omega)|refine ac ?_|(refine Tr.cn rfl ?_ ?_<;>intro h q)
theorem XC {e:Da} {a b:Int}  :BC prog 95 [agg (CG e),int a,int b] (bool (OG e.BQ a b)):=by
 refine fo func95 rfl ⟨rfl,rfl⟩ fun M0 w0=>(Tr.HT 0 1 rfl rfl fun KR=> ?_)
 refine ac ?_
 refine an ?_ ?_<;>intro h1 q1
 refine a2 ?_
 · refine bool_eq ?_;symm;unfold OG;rw [decide_eq_true Bt,Bool.true_or]
 refine a2 ?_
 refine Tr.block (Tr.BE _ (kk [14,13,2,1] rfl) (fun k:Nat=>[(15,int ((k:Nat):Int))]) (fun k:Nat=>k≤(e.BQ).length∧(∀j y,j<k→e.BQ[j]? =some y→Rd a b y=false)) (fun k:Nat=>(e.BQ).length-k) 0 (⟨Nat.zero_le _,fun j y hj=>absurd hj AA⟩) kz ?_)
 rintro k ⟨BV,AZ⟩
 refine ac ?_
 refine Tr.seq ?_
 refine Tr.cn rfl ?_ ?_<;>intro h2 q2
 have Ai:k<(e.BQ).length:=AH h2
 obtain ⟨x,Ah⟩:=at_ Ai
 refine ac ?_
 refine Tr.seq (Tr.block (Tr.seq (Tr.An (tp rfl (AD rfl underlying28 Eh vq vq AA (AX Ah)) (tp rfl (AL rfl QS Eh vq rfl rfl) ?_)))))
 refine Tl rfl rfl rfl rfl YK Vy (fun b1=> ?_)
 refine sf 0 8 ⟨rfl,rfl,rfl⟩ rfl rfl rfl rfl ?_
 refine ao ?_
 · repeat' first|(refine bool_eq ?_;symm;exact m8 Ah (by unfold Rd;simp_all))|(exact Fin.AP (k+1) ⟨⟨Ai,ED (p:=Rd a b) Ah (by unfold Rd;simp_all) AZ⟩,by omega⟩ ⟨⟨_,rfl,AG k⟩,kz⟩)|refine ac ?_|(refine Tr.cn rfl ?_ ?_<;>intro h q)|(refine Ch.cg rfl rfl rfl ?_ ?_<;>intro h q)
 have BL:k=(e.BQ).length:=by have:=AJ h2;omega
 subst BL
 refine a3 ?_
 · refine bool_eq ?_;symm;exact sS Bt AZ
theorem XD {e:Da} {l:List BW} (hf:e.fits) (he:FH e=true) (Mv:l.length≤24) (hr:∀c∈l,0≤c.AW∧c.AW<(e.Bp.length:Nat)):BC prog 51 [agg (CG e),Dt l] (D7 [reqs (sU e l),int 0]):=by
 refine fo func51 rfl ⟨rfl,rfl⟩ fun M0 w0=>(Tr.HT 0 0 rfl rfl fun Io=> ?_)
 refine a2 ?_
 refine co rfl (Ck (Dp hf) rfl rfl) ?_
 refine an ?_ ?_<;>intro h1 q1
 exact absurd h1 (by rw [if_pos he];decide)
 refine ac ?_
 refine an ?_ ?_<;>intro h2 q2
 exfalso;have:=q2;omega
 refine a2 ?_
 refine Tr.block (Tr.BE _ (kk [20,19,2,1] rfl) (fun m:Nat=>[(21,int ((m:Nat):Int))]) (fun m:Nat=>m≤(l).length) (fun m:Nat=>(l).length-m) 0 (Nat.zero_le _) kz ?_)
 rintro m MY
 refine ac ?_
 refine Tr.seq ?_
 refine Tr.cn rfl ?_ ?_<;>intro h3 q3
 have ES:m<(l).length:=AH h3
 obtain ⟨x,EX⟩:=at_ ES
 have hrm:=hr x (List.mem_of_getElem? EX)
 refine ac ?_
 refine Tr.seq (Tr.block (Tr.seq (Tr.An (tp rfl (AD rfl underlying32 C9 vq vq AA (AX EX)) (tp rfl (AL rfl GY C9 vq rfl rfl) ?_)))))
 refine Tl rfl rfl rfl rfl Nx JI (fun b1=> ?_)
 refine sf 0 7 ⟨rfl,rfl,rfl⟩ rfl rfl rfl rfl ?_
 refine ao ?_
 · repeat' first|(exfalso;have:=hr x (List.mem_of_getElem? EX);omega)|exact Fin.AP (m+1) ⟨ES,by omega⟩ ⟨⟨_,rfl,AG m⟩,kz⟩|refine ac ?_|(refine Tr.cn rfl ?_ ?_<;>intro h q)|(refine Ch.cg rfl rfl rfl ?_ ?_<;>intro h q)
 have Jm:m=(l).length:=by have:=AJ h3;omega
 refine a3 ?_
 refine Tr.block (Tr.B5 61 2 (Tr.El _ (kk [38,37,2,1] rfl) (fun i v=>[(39,int ((i:Nat):Int)),(8,Af v (reqs (XA e l i)))]) (fun i v=>Hp M0 w0 Fa ([Au 61 2 v])) (fun i:Nat=>i≤(l).length) (fun i:Nat=>(l).length-i) 0 (.slice none 0 0) (Nat.zero_le _) ⟨kq,⟨_,rfl,Bn rfl⟩,trivial⟩ (fun _ _ h=>h) ?_))
 rintro i v WR
 refine ac ?_
 refine Tr.seq ?_
 refine Tr.cn rfl ?_ ?_<;>intro h6 q6
 have JM:i<(l).length:=AH h6
 obtain ⟨x,Kh⟩:=at_ JM
 have hri:=hr x (List.mem_of_getElem? Kh)
 obtain ⟨ex,hex⟩:=at_ (l:=e.Bp) (k:=x.AW.toNat) AA
 have hln:=Re e l i
 have hl2:i*l.length≤24*24:=Nat.mul_le_mul AA Mv
 refine ac ?_
 refine ao ?_
 refine tp rfl (AD rfl underlying32 C9 vq vq AA (AX Kh)) (tp rfl (AL rfl GY C9 vq rfl rfl) ?_)
 refine Tl rfl rfl rfl rfl Nx JI (fun b2=> ?_)
 refine tm rfl ?_
 refine sf 0 10 ⟨rfl,rfl,rfl⟩ rfl rfl rfl rfl ?_
 refine ao ?_
 refine wk [39,38,37,10,9,8,2,1] rfl ?_
 refine ac ?_
 refine Tr.block (Tr.El _ (kk [45,44,39,38,37,10,9,2,1] rfl) (fun k v=>[(46,int ((k:Nat):Int)),(8,Af v (reqs (XA e l i++OT e l i k)))]) (fun k v=>Hp M0 w0 Fa ([Au 61 2 v])) (fun k:Nat=>k≤(l).length) (fun k:Nat=>(l).length-k) 0 v (Nat.zero_le _) ⟨kq,⟨_,rfl,BA (by simp [OT])⟩,trivial⟩ (fun _ _ h=>h) ?_)
 rintro k v BV
 refine ac ?_
 refine Tr.seq ?_
 refine Tr.cn rfl ?_ ?_<;>intro h7 q7
 have Ai:k<(l).length:=AH h7
 obtain ⟨y,Ah⟩:=at_ Ai
 have hrk:=hr y (List.mem_of_getElem? Ah)
 obtain ⟨ey,hey⟩:=at_ (l:=e.Bp) (k:=y.AW.toNat) AA
 have Td:=XB e l i k
 have hB:m9 e l i k=(OG e.BQ x.AW y.AW&&decide (SO ex x<SO ey y)):=by unfold m9 ZU W_;rw [Kh,Ah,Option.getD_some,Option.getD_some,hex,hey];rfl
 refine ac ?_
 refine ao ?_
 refine tp rfl (AD rfl underlying32 C9 vq vq AA (AX Ah)) (tp rfl (AL rfl GY C9 vq rfl rfl) ?_)
 refine Tl rfl rfl rfl rfl Nx JI (fun b3=> ?_)
 refine tm rfl ?_
 refine sf 0 12 ⟨rfl,rfl,rfl⟩ rfl rfl rfl rfl ?_
 refine ao ?_
 refine wk [46,45,44,39,38,37,12,11,10,9,8,2,1] rfl ?_
 refine ac ?_
 refine co rfl (Kk (XC (e:=e) (a:=x.AW) (b:=y.AW)) rfl rfl rfl rfl) ?_
 refine cm rfl ?_
 refine Ch.cs 57 rfl ?_ ?_<;>intro h8 q8
 refine ac ?_
 refine cy h8 rfl (AD rfl underlying27 CF vq vq AA (Bm hex)) ?_
 refine ac ?_
 refine cy h8 rfl (CK (TP (e:=ex) (c:=x)) rfl rfl rfl) ?_
 refine ac ?_
 refine cy h8 rfl (AD rfl underlying27 CF vq vq AA (Bm hey)) ?_
 refine ac ?_
 refine cy h8 rfl (CK (TP (e:=ey) (c:=y)) rfl rfl rfl) ?_
 refine ac ?_
 refine wk [75,46,45,44,39,38,37,11,10,9,8,2,1] rfl ?_
 refine Tr.cn rfl ?_ ?_<;>intro h9 q9
 refine ao ?_
 refine TO.DZ 0 rfl rfl AB (B4 rfl rfl rfl rfl underlying33 Cg R3 Rs H_ GH (Az BJ Kl)) (fun v1=> ?_)
 refine ao ?_
 refine wk [46,45,44,39,38,37,10,9,8,2,1] rfl ?_
 refine ac ?_
 exact Fin.DQ (k+1) v1 (⟨Ai,by omega⟩) ⟨⟨_,rfl,AG k⟩,⟨_,rfl,BA (by rw [m_ (by rw [hB,h8,h9];rfl),←List.append_assoc];simp;rfl)⟩,kz⟩ (fun _ _ h=>h)
 refine a2 ?_
 exact Fin.DQ (k+1) v (⟨Ai,by omega⟩) ⟨⟨_,rfl,AG k⟩,⟨_,rfl,BA (by rw [cX (by rw [hB,h8,h9];rfl)])⟩,kz⟩ (fun _ _ h=>h)
 refine ac ?_
 refine wk [75,46,45,44,39,38,37,11,10,9,8,2,1] rfl ?_
 refine a2 ?_
 exact Fin.DQ (k+1) v (⟨Ai,by omega⟩) ⟨⟨_,rfl,AG k⟩,⟨_,rfl,BA (by rw [cX (by rw [hB,h8];rfl)])⟩,kz⟩ (fun _ _ h=>h)
 have BL:k=(l).length:=by have:=AJ h7;omega
 subst BL
 refine a2 ?_
 exact Fin.DQ (i+1) v (⟨JM,by omega⟩) ⟨⟨_,rfl,AG i⟩,⟨_,rfl,BA (by rw [TN])⟩,kz⟩ (fun _ _ h=>h)
 have OR:i=(l).length:=by have:=AJ h6;omega
 subst OR
 refine a2 ?_
 refine Tr.ret (Fin.Dc rfl (Bo.Dy _ _) rfl ?_ rfl ?_)
 · exact IE
 · exact Lr
def uE (n:Nat):BP:=⟨[⟨0,300,[0]⟩],List.replicate n 0,[24]⟩
theorem wz {n:Nat} (hn:n≤1000):BC prog 67 [int ((n:Nat):Int)] (La (uE n)):=by
 refine fo func67 rfl ⟨rfl,rfl⟩ fun M0 w0=>(Tr.seq (Tr.An ?_))
 refine Tl rfl rfl rfl rfl z77 yy (fun b1=> ?_)
 refine ap ?_
 refine ap ?_
 refine tp rfl (Al (rows:=[(0,_),(1,[_])]) rfl zI QU ⟨⟨rfl,Cm⟩,⟨⟨rfl,⟨_,rfl,Pr.le_trans (B0 _ _) (Aa _)⟩⟩,trivial⟩⟩ rfl) ?_
 refine ap ?_
 refine tp rfl (Mf (m:=n) rfl underlying22 CH IQ z3 rfl AB AB vq vq Fj AA) ?_
 refine tp rfl (oI) ?_
 refine tp rfl (Al (rows:=[(0,[_]),(1,[_]),(2,[_])]) rfl ADD yy ⟨⟨rfl,⟨_,rfl,Pr.le_trans (B0 _ _) (Aa _)⟩⟩,⟨⟨rfl,⟨_,rfl,Pr.le_trans (Pr.le_trans (B0 _ _) (Pr.le_of_eq (show _=slice 1 ((List.replicate n (0:Int)).map fun n=>[int n]) by rw [List.map_replicate];rfl))) (Aa _)⟩⟩,⟨⟨rfl,⟨_,rfl,Pr.le_trans (B0 _ _) (Aa _)⟩⟩,trivial⟩⟩⟩ rfl) ?_
 refine ap ?_
 refine Tr.ret (Fin.CR rfl (AO.cell 0 rfl rfl Nw Vw rfl Lr) ?_)
 · exact Lr
theorem ZV {l:List BW} {r:List BO} {d:List Int} (F6:∀x∈l,x.Cr.small) (hl:l.length≤1000000) (hr:r.length≤1000000) (hd:d.length≤1000000):OP prog 33 [agg [Dt l,reqs r,ints d]] (fun x=>agg [Dt l,reqs r,is x]) (fun x=>[Bx 3 1 (d.map fun n=>[int n]) x]):=by
 refine OP.of func33 rfl rfl Ao fun M0 w0 S rs M1 w1=>(Tr.HT 0 0 rfl rfl fun Io=>(Tr.seq (Tr.An (tp rfl (BZ rfl (Va rfl)) ?_))))
 refine Tl rfl rfl rfl rfl z35 Eu (fun b1=> ?_)
 refine ao ?_
 refine Tr.seq (Tr.pad (Tr.pad (Tr.pad (Tr.rx ?_))))
 refine ax ?_
 refine xo rfl (fun _=>Ij rfl underlying33 Cg R3 Rs rfl AB (vl rfl) Mz EM) ?_
 refine ax ?_
 refine Cx.ef 0 rfl rfl AB (Y0 rfl rfl AB rfl underlying22 CH IQ z3 rfl AB AB ⟨_,rfl,DD 1⟩ (vl rfl) Mz EM) ?_
 refine Cx.ef 1 rfl rfl AB (cF (d:=12) (s:=11) (p:=fun v=>agg [is (.slice none 0 0),reqs r,Af v (lens (d.map fun n=>[int n]).length)]) (q:=agg [is (.slice none 0 0),reqs r,lens (d.map fun n=>[int n]).length]) rfl AB (fun _=>BR ⟨Lr,Lr,At _ _,trivial⟩) rfl rfl AB (fun v=>Y6 rfl rfl AB (fun _=>Al (rows:=[(1,[_]),(2,[_])]) rfl LJ Eu ⟨⟨rfl,VL.le (vl rfl) (Aa _)⟩,⟨⟨rfl,VL.le (vl rfl) (Aa _)⟩,trivial⟩⟩ rfl))) (Cx.ef 2 rfl rfl AB (CB rfl rfl AB rfl z35 Eu) (Cx.Dr 2 rfl rfl (S9 rfl rfl rfl AB rfl rfl (Ac _) CI rfl rfl) ?_))
 refine Cx.nil ⟨by kernel_rfl,?_⟩
 refine BH.ng 11 rfl (fun v11=> ?_)
 refine BH.ng 12 rfl (fun v12=> ?_)
 refine BH.ng 3 rfl (fun v3=> ?_)
 refine BH.rj 0 11 rfl rfl (BH.mB 1 12 11 rfl rfl rfl (BH.mB 2 3 12 rfl rfl rfl (BH.done al5 (Fin.shape 3 (fun b=> .pointer (some ⟨b,0,none⟩)) rfl (fun b9 e9=> ?_)))))
 subst e9
 refine Fin.Wq 1 2 rfl rfl (Fin.drop 1 (Fin.go (wk [3,2,1] rfl ?_)))
 refine ac ?_
 refine Tr.block (Tr.HC 1 [Af (.slice none 0 0) (Dt (l.take 0)),reqs r,Af v11 (lens (d.map fun n=>[int n]).length)] rfl ⟨Bn rfl,Lr,Lr,trivial⟩ (Tr.B5 86 8 (Tr.El _ (kk [15,14,3,2] rfl) (fun k u=>[(16,int ((k:Nat):Int))]) (fun k u=>Hp M0 w0 S (Au 86 8 u::Bx 3 1 (d.map fun n=>[int n]) v11::AF true b9 35 [Af u (Dt (l.take k)),reqs r,Af v11 (lens (d.map fun n=>[int n]).length)]::AF true b1 35 (([.slice none 0 0,.slice none 0 0,.slice none 0 0]:List Value).map is)::Ak M1 w1::rs)) (fun k:Nat=>k≤(l).length) (fun k:Nat=>(l).length-k) 0 (.slice none 0 0) (Nat.zero_le _) kz (fun _ _ h=>h) ?_)))
 rintro k u BV
 refine ac ?_
 refine Tr.seq ?_
 refine Tr.cn rfl ?_ ?_<;>intro h1 q1
 have Ai:k<(l).length:=AH h1
 obtain ⟨x,Ah⟩:=at_ Ai
 refine ac ?_
 refine Tr.seq (Tr.block (Tr.seq (Tr.An (tp rfl (AD rfl underlying32 C9 (vl rfl) (vl rfl) AA (AX Ah)) (tp rfl (AL rfl GY C9 (vl rfl) rfl rfl) ?_)))))
 refine Tl rfl rfl rfl rfl Nx JI (fun b10=> ?_)
 refine sf 0 5 ⟨rfl,rfl,rfl⟩ rfl rfl rfl rfl ?_
 refine ao ?_
 refine Tr.pad (Tr.rx ?_)
 refine ax ?_
 refine xo rfl (fun _=>Ck (ZQ (c:=x) (F6 x (List.mem_of_getElem? Ah))) rfl rfl) ?_
 refine xo rfl (fun _=>AM (xs:=[.tmp 23]) (rows:=[_]) rfl rfl underlying32 C9 Nx rfl AB ⟨⟨Am,(Va rfl)⟩,trivial⟩ AB) ?_
 refine Cx.ef 1 rfl rfl AB (B4 rfl rfl rfl rfl underlying32 C9 YI Nx (Kb rfl) (Kf rfl) (Az BJ (Ka rfl))) ?_
 refine xo rfl (fun _=>Ab rfl YB (vl rfl)) (Cx.Dr 3 rfl rfl (Ft rfl rfl rfl (vl rfl) rfl ym Ao) ?_)
 refine Cx.nil ⟨by kernel_rfl,?_⟩
 refine BH.QL 1 3 25 rfl rfl AB rfl (fun v1=> ?_)
 refine BH.done al6 ?_
 refine ac ?_
 refine Tr.drop 0 (wk [16,15,14,3,2] rfl ?_)
 refine ac ?_
 refine Fin.HC 2 [Af v1 (Dt (l.take (k+1))),reqs r,Af v11 (lens (d.map fun n=>[int n]).length)] rfl ⟨BA aB,Lr,Lr,trivial⟩ ?_
 exact Fin.DQ (k+1) v1 (⟨Ai,by omega⟩) ⟨⟨_,rfl,AG k⟩,kz⟩ (fun _ _ h=>h)
 have BL:k=(l).length:=by have:=AJ h1;omega
 subst BL
 rw [List.take_length]
 refine ac ?_
 refine ao ?_
 refine TO.AK 3 rfl rfl rfl (vl rfl) (Va rfl) rfl CI rfl rfl ?_
 refine ao ?_
 refine Tr.ret (Fin.drop 0 (Fin.drop 1 (Fin.NL (Fin.vH v11 [_] rfl (AO.cell 0 rfl rfl Ct CI rfl Lr) ?_ (List.Perm.refl _)))))
 · exact BR ⟨At _ _,Lr,FP _ _,trivial⟩
theorem fc {n:Int} {l:List BO} {s:List Int} (hl:l.length≤1000000):BC prog 279 [int n,reqs l,ints s] (Cp.ex fun z:List BO×Int=>fact (z.1.length≤1000) (D7 [reqs z.1,int z.2])):=by
 refine fo func279 rfl ⟨rfl,rfl⟩ fun M0 w0=> ?_
 refine a2 ?_
 refine co rfl (CK (Iy hl) rfl rfl rfl) ?_
 refine ac ?_
 refine an ?_ ?_<;>intro h1 q1
 refine ac ?_
 refine Tr.ret (Fin.AE (Fin.BU rfl (AO.tmp rfl Lr) (AO.tmp rfl Lr) ?_))
 · exact Pu
 have hv:BM n l=0:=by simpa using h1
 obtain ⟨N,rfl⟩:∃N:Nat,n=(N:Int):=⟨n.toNat,by have:=(DL hv).1;omega⟩
 have Mv:=(DL hv).1
 have fQ:∀r∈l,(0≤r.fst∧r.fst<(N:Nat))∧0≤r.thn∧r.thn<(N:Nat):=fun r hr=>by
  have h_:=(DL hv).2.1 r hr
  unfold FJ at h_;rw [decide_eq_false_iff_not] at h_;omega
 refine a2 ?_
 refine co rfl (CK (Qr (l:=s) (n:=((N:Nat):Int))) rfl rfl rfl) ?_
 refine an ?_ ?_<;>intro h2 q2
 refine ac ?_
 refine wk [7,6] rfl (Tr.ret (Fin.AE (Fin.BU rfl (AO.tmp rfl Lr) (AO.tmp rfl Lr) ?_)))
 · exact Pu
 have hsb:Dx ((N:Nat):Int) s=true:=by simpa using h2
 have hsn:=bS hsb
 refine a2 ?_
 refine co rfl (CK (TH (n:=N) (l:=l) AA hl fQ) rfl rfl rfl) ?_
 refine ac ?_
 refine wk [9,2] rfl ?_
 refine a2 ?_
 refine Tr.block (Tr.B5 61 2 (Tr.C2 _ (kk [29,28,9,2] rfl) (fun (o:List BO) (i:Nat) u=>[(30,int ((i:Nat):Int)),(10,Af u (reqs o))]) (fun (o:List BO) (i:Nat) u=>Hp M0 w0 Fa ([Au 61 2 u])) (fun (o:List BO) (i:Nat)=>i≤s.length∧o.length≤24*i) (fun (o:List BO) (i:Nat)=>s.length-i) ([]) (0) (.slice none 0 0) (⟨Nat.zero_le _,by simp⟩) ⟨kq,⟨_,rfl,Bn rfl⟩,trivial⟩ (fun _ _ h=>h) ?_))
 rintro o i u ⟨hi0,hol⟩
 refine ac ?_
 refine Tr.seq ?_
 refine Tr.cn rfl ?_ ?_<;>intro h3 q3
 have hi:i<s.length:=AH h3
 obtain ⟨x,hx⟩:=at_ hi
 have hxn:=PG hsb hx
 refine a2 ?_
 refine co rfl (AD rfl underlying51 CH vq vq AA (AX hx)) ?_
 refine a2 ?_
 refine wk [37,36,35,30,29,28,12,11,10,9,2] rfl (Tr.block (Tr.C2 _ (kk [36,35,30,29,28,12,11,9,2] rfl) (fun (p:List BO) (k:Nat) u2=>[(37,int ((k:Nat):Int)),(10,Af u2 (reqs p))]) (fun (p:List BO) (k:Nat) u2=>Hp M0 w0 Fa ([Au 61 2 u2])) (fun (p:List BO) (k:Nat)=>k≤s.length∧p.length≤24*i+k) (fun (p:List BO) (k:Nat)=>s.length-k) (o) (0) u (⟨Nat.zero_le _,by omega⟩) ⟨kq,⟨_,rfl,BA rfl⟩,trivial⟩ (fun _ _ h=>h) ?_))
 rintro p k u2 ⟨hk0,hpl⟩
 refine ac ?_
 refine Tr.seq ?_
 refine Tr.cn rfl ?_ ?_<;>intro h4 q4
 have hk:k<s.length:=AH h4
 obtain ⟨y,hy⟩:=at_ hk
 have hyn:=PG hsb hy
 refine a2 ?_
 refine co rfl (AD rfl underlying51 CH vq vq AA (AX hy)) ?_
 refine ac ?_
 refine wk [37,36,35,30,29,28,14,13,12,11,10,9,2] rfl ?_
 refine ac ?_
 refine co rfl (AD rfl underlying158 Ny vq vq AA (Bm (Ke _ (a:=x.toNat) AA))) ?_
 refine ac ?_
 refine co rfl (AD rfl underlying160 VO vq vq AA (Bm (Kg _ (b:=y.toNat) AA))) ?_
 refine ac ?_
 refine wk [48,37,36,35,30,29,28,13,12,11,10,9,2] rfl ?_
 refine Tr.cn rfl ?_ ?_<;>intro h5 q5
 refine ap ?_
 refine TO.DZ 0 rfl rfl AB (B4 rfl rfl rfl rfl underlying33 Cg R3 Rs H_ GH (Az BJ Kl)) (fun v1=> ?_)
 refine ap ?_
 refine wk [37,36,35,30,29,28,12,11,10,9,2] rfl ?_
 refine ac ?_
 exact Fin.Bg (p++[⟨((i:Nat):Int),((k:Nat):Int)⟩]) (k+1) v1 (⟨⟨by omega,by simp;omega⟩,by omega⟩) ⟨⟨_,rfl,AG k⟩,⟨_,rfl,BA DB⟩,kz⟩ (fun _ _ h=>h)
 refine a2 ?_
 exact Fin.Bg (p) (k+1) u2 (⟨⟨by omega,by omega⟩,by omega⟩) ⟨⟨_,rfl,AG k⟩,⟨_,rfl,BA rfl⟩,kz⟩ (fun _ _ h=>h)
 have cv:=AJ h4
 refine a2 ?_
 exact Fin.Bg (p) (i+1) u2 (⟨⟨by omega,by omega⟩,by omega⟩) ⟨⟨_,rfl,AG i⟩,⟨_,rfl,BA rfl⟩,kz⟩ (fun _ _ h=>h)
 have hie:=AJ h3
 refine a2 ?_
 refine Tr.ret (Fin.BU rfl (AO.tmp rfl Lr) (AO.tmp rfl Lr) ?_)
 · exact Xr
theorem Rf {c:BP} {l:List BW} (ho:c.own=0):BC prog 65 [La c,Dt l] (D7 [ints (RQ c l),int (EV c l)]):=by
 refine fo func65 rfl ⟨rfl,rfl⟩ fun M0 w0=>(Tr.Cf 1 rfl fun FC=>(Tr.HT 0 1 rfl rfl fun KR=> ?_))
 refine a2 ?_
 refine co rfl (CK (Jp (c:=c) (m:=((c.Il.length:Nat):Int))) rfl rfl rfl) ?_
 refine ac ?_
 refine an ?_ ?_<;>intro h1 q1
 exact absurd ho (by unfold BP.own;simpa using h1)
 refine a2 ?_
 refine wk [20,2,1] rfl ?_
 refine Tr.cn rfl ?_ ?_<;>intro h2 q2
 refine ac ?_
 refine Tr.ret (Fin.AE (Fin.Dc rfl (Bo.Dy _ _) rfl ?_ rfl ?_))
 · rw [VT (cN AA) AB];exact AQ 1
 · refine int_eq ?_;exact (cN AA).symm
 refine a3 ?_
 refine Tr.block (Tr.B5 3 1 (Tr.El _ (kk [22,21,2] rfl) (fun k v=>[(23,int ((k:Nat):Int)),(7,Af v (ints ((l.take k).map (RP c))))]) (fun k v=>Hp M0 w0 Fa ([Au 3 1 v])) (fun k:Nat=>k≤(l).length∧(∀j y,j<k→l[j]? =some y→OJ c y=false)) (fun k:Nat=>(l).length-k) 0 (.slice none 0 0) (⟨Nat.zero_le _,fun j y hj=>absurd hj AA⟩) ⟨kq,⟨_,rfl,Bn rfl⟩,trivial⟩ (fun _ _ h=>h) ?_))
 rintro k v ⟨BV,AZ⟩
 refine ac ?_
 refine Tr.seq ?_
 refine Tr.cn rfl ?_ ?_<;>intro h3 q3
 have Ai:k<(l).length:=AH h3
 obtain ⟨x,Ah⟩:=at_ Ai
 refine ac ?_
 refine Tr.seq (Tr.block (Tr.seq (Tr.An (tp rfl (AD rfl underlying32 C9 vq vq AA (AX Ah)) (tp rfl (AL rfl GY C9 vq rfl rfl) ?_)))))
 refine Tl rfl rfl rfl rfl Nx JI (fun b1=> ?_)
 refine sf 0 9 ⟨rfl,rfl,rfl⟩ rfl rfl rfl rfl ?_
 refine ao ?_
 refine ag ?_ ?_<;>intro h4 q4
 refine ac ?_
 refine wk [37,23,22,21,9,7,2] rfl ?_
 refine ac ?_
 refine Tr.ret (Fin.AE (Fin.AU (Fin.AE (Fin.AE (Fin.AU (Fin.AE (Fin.Dc rfl (Bo.Dy _ _) rfl ?_ rfl ?_)))))))
 · exact Zp
 · exact Z0
 refine ac ?_
 refine wk [37,23,22,21,9,7,2] rfl ?_
 refine Tr.cn rfl ?_ ?_<;>intro h5 q5
 refine ac ?_
 refine Tr.ret (Fin.AE (Fin.AU (Fin.AE (Fin.AE (Fin.AU (Fin.AE (Fin.Dc rfl (Bo.Dy _ _) rfl ?_ rfl ?_)))))))
 · exact Zp
 · exact Z0
 have htm:=uB (c:=c) (x:=x) AA
 refine ac ?_
 refine ao ?_
 refine tp rfl (AD rfl underlying22 CH vq vq AA (Bm htm)) ?_
 refine ao ?_
 refine TO.DZ 0 rfl rfl AB (B4 rfl rfl rfl rfl underlying22 CH IQ z3 H_ GH (Az BJ Kl)) (fun v1=> ?_)
 refine ao ?_
 refine wk [23,22,21,7,2] rfl ?_
 refine ac ?_
 exact Fin.DQ (k+1) v1 (⟨⟨Ai,ED (p:=OJ c) Ah nk AZ⟩,by omega⟩) ⟨⟨_,rfl,AG k⟩,⟨_,rfl,BA (mO Ah)⟩,kz⟩ (fun _ _ h=>h)
 have BL:k=(l).length:=by have:=AJ h3;omega
 subst BL
 refine a2 ?_
 refine Tr.ret (Fin.Dc rfl (Bo.Dy _ _) rfl ?_ rfl ?_)
 · rw [Wr (cO AA AZ)];exact Pr.le_trans (At _ _) (Pr.le_of_eq Oj)
 · refine int_eq ?_;exact (cO AA AZ).symm
structure VF (m:Nat) (l:List BW) (r:List BO) (d:List Int):Prop where
 l24:l.length≤24
 dl:d.length=l.length
 v:BM (l.length:Nat) r=0
 dd:∀j y c,j<l.length→d[j]? =some y→l[j]? =some c→(0≤y∧y≤40000)∧0≤c.AW∧c.AW<(m:Int)
abbrev JB (l:List BW) (r:List BO) (d:List Int):Pr:=agg [Dt l,reqs r,ints d]
theorem nA {e:Da} {l:List BW} {r:List BO} {d:List Int} (hrl:r.length≤1000000):BC prog 250 [agg (CG e),JB l r d] (Cp.ex fun z:Bool=>fact (z=true→VF e.Bp.length l r d) (bool z)):=by
 refine fo func250 rfl ⟨rfl,rfl⟩ fun M0 w0=>(Tr.HT 1 0 rfl rfl fun ACq=>(Tr.HT 1 2 rfl rfl fun ACr=>(Tr.HT 0 0 rfl rfl fun Io=> ?_)))
 refine a2 ?_
 refine ag ?_ ?_<;>intro h1 q1
 refine ac ?_
 refine wk [26,3,2] rfl ?_
 refine a2 ?_
 · exact Tp
 refine ag ?_ ?_<;>intro h2 q2
 refine ac ?_
 refine wk [26,3,2] rfl ?_
 refine a2 ?_
 · exact Tp
 refine ac ?_
 refine cy h2 rfl (CK (Iy (n:=((l.length:Nat):Int)) (l:=r) hrl) rfl rfl rfl) ?_
 refine ac ?_
 refine wk [26,3,2] rfl ?_
 refine Tr.cn rfl ?_ ?_<;>intro h3 q3
 refine a2 ?_
 · exact Tp
 have Mv:l.length≤24:=by omega
 have hdl:d.length=l.length:=by omega
 have hv:BM ((l.length:Nat):Int) r=0:=by omega
 refine a2 ?_
 refine Tr.block (Tr.BE _ (kk [29,28,3,2] rfl) (fun k:Nat=>[(30,int ((k:Nat):Int))]) (fun k:Nat=>k≤(l).length∧(∀j y c,j<k→d[j]? =some y→l[j]? =some c→(0≤y∧y≤40000)∧0≤c.AW∧c.AW<((e.Bp.length:Nat):Int))) (fun k:Nat=>(l).length-k) 0 (⟨Nat.zero_le _,fun j y c hj=>absurd hj AA⟩) kz ?_)
 rintro k ⟨BV,AZ⟩
 refine ac ?_
 refine Tr.seq ?_
 refine Tr.cn rfl ?_ ?_<;>intro h4 q4
 have Ai:k<(l).length:=AH h4
 obtain ⟨x,Ah⟩:=at_ Ai
 obtain ⟨y,hy⟩:=at_ (l:=d) (k:=k) AA
 refine ac ?_
 refine ao ?_
 refine tp rfl (AD rfl underlying32 C9 vq vq AA (AX Ah)) (tp rfl (AL rfl GY C9 vq rfl rfl) ?_)
 refine Tl rfl rfl rfl rfl Nx JI (fun b1=> ?_)
 refine tm rfl ?_
 refine sf 0 7 ⟨rfl,rfl,rfl⟩ rfl rfl rfl rfl ?_
 refine ao ?_
 · repeat' first|exact Aw false (A8 (fun h_=>by cases h_) Lr)|(exact Fin.AP (k+1) ⟨⟨Ai,fun j z c hj hz gZ=>by rcases Nat.lt_or_eq_of_le (Nat.le_of_lt_succ hj) with h_|h_;exact AZ j z c h_ hz gZ;(subst h_;rw [hy] at hz;cases hz;rw [Ah] at gZ;cases gZ;omega)⟩,by omega⟩ ⟨⟨_,rfl,AG k⟩,kz⟩)|refine cy h rfl (AD rfl underlying22 CH vq vq AA (AX hy)) ?_|refine ac ?_|(refine Tr.cn rfl ?_ ?_<;>intro h q)|(refine Ch.cg rfl rfl rfl ?_ ?_<;>intro h q)
 have BL:k=(l).length:=by have:=AJ h4;omega
 subst BL
 refine a3 ?_
 · exact Aw true (A8 (fun _=>⟨Mv,hdl,hv,AZ⟩) Lr)
theorem nB {n:Nat} (hn:n≤1000):BC prog 127 [int ((n:Nat):Int)] (Cp.ex fun z:List Int=>fact (z.length≤n) (ints z)):=by
 refine fo func127 rfl ⟨rfl,rfl⟩ fun M0 w0=> ?_
 refine a3 ?_
 refine Tr.block (Tr.B5 3 1 (Tr.C2 _ (kk [5] rfl) (fun (o:List Int) (k:Nat) u=>[(6,int ((k:Nat):Int)),(3,Af u (ints o))]) (fun (o:List Int) (k:Nat) u=>Hp M0 w0 Fa ([Au 3 1 u])) (fun (o:List Int) (k:Nat)=>k≤n∧o.length=k) (fun (o:List Int) (k:Nat)=>n-k) ([]) (0) (.slice none 0 0) (⟨Nat.zero_le _,rfl⟩) ⟨kq,⟨_,rfl,Bn rfl⟩,trivial⟩ (fun _ _ h=>h) ?_))
 rintro o k u ⟨hk0,hol⟩
 refine ac ?_
 refine Tr.seq ?_
 refine Tr.cn rfl ?_ ?_<;>intro h1 q1
 have hk:k<n:=AH h1
 refine a2 ?_
 refine ap ?_
 refine TO.DZ 0 rfl rfl AB (B4 rfl rfl rfl rfl underlying51 CH IQ z3 H_ GH (Az BJ Kl)) (fun v1=> ?_)
 refine ap ?_
 refine ac ?_
 exact Fin.Bg (o++[((k:Nat):Int)]) (k+1) v1 (⟨⟨by omega,by simp;omega⟩,by omega⟩) ⟨⟨_,rfl,AG k⟩,⟨_,rfl,BA DB⟩,kz⟩ (fun _ _ h=>h)
 have cv:=AJ h1
 refine a3 ?_
 · exact OZ
theorem Lm {e:Da} {l:List BW} {r:List BO} {d s:List Int} {n:Nat} (hz:e.sz n) (hn:n≤800000) (hc:∀c∈l,c.Cr.fits∧c.Cr.small):BC prog 253 [agg (CG e),JB l r d,ints s] (D7 [agg (CG (Uq e l s).1),bool (decide ((Uq e l s).2=0))]):=by
 refine fo func253 rfl ⟨rfl,rfl⟩ fun M0 w0=>(Tr.seq (Tr.An (tp rfl (BZ rfl Cm) (tp rfl (BZ rfl Cm) ?_))))
 refine Tl rfl rfl rfl rfl z31 Ht (fun b1=> ?_)
 refine ao ?_
 refine ao ?_
 refine tp rfl (Kk (Rc hz hn hc) rfl rfl rfl rfl) ?_
 refine ao ?_
 refine Tl rfl rfl rfl rfl z31 Ht (fun b2=> ?_)
 refine sf 0 8 ⟨rfl,rfl,rfl⟩ rfl rfl rfl rfl ?_
 refine ao ?_
 refine wk [9,8,6] rfl ?_
 refine ao ?_
 refine TO.AK 0 rfl rfl rfl vq Cm rfl DP rfl rfl ?_
 refine ao ?_
 refine Tr.ret (Fin.BU rfl (AO.cell 0 rfl rfl DR DP rfl Lr) (AO.tmp rfl Lr) ?_)
 · exact Lr
theorem SG {e:Da} {c:BP} {l:List BW} {r:List BO} {fr:Int} (hf:e.fits) (F6:∀x∈l,x.Cr.small) (hrl:r.length≤1000000):BC prog 54 [agg (CG e),La c,Dt l,reqs r,int fr] (D7 [agg (mQ e c l r fr),int (Jz e c l r fr)]):=by
 refine fo func54 rfl ⟨rfl,rfl⟩ fun M0 w0=>(Tr.Cf 3 rfl fun AFM=>(Tr.HT 0 0 rfl rfl fun Io=>(Tr.seq (Tr.An (tp rfl (BZ rfl Cm) (tp rfl (BZ rfl Cm) ?_))))))
 refine Tl rfl rfl rfl rfl z35 Eu (fun b1=> ?_)
 refine ao ?_
 refine ac ?_
 refine co rfl (Ck (Dp hf) rfl rfl) ?_
 refine an ?_ ?_<;>intro h1 q1
 have UQ:FH e=false:=by cases h_:FH e with|false=>rfl|true=>exact absurd h1 L2
 have XU:Jy e c l=31:=by unfold Jy;rw [if_pos UQ]
 have hb:Jy e c l≠0:=by rw [XU];decide
 refine ao ?_
 refine TO.AK 0 rfl rfl rfl vq Cm rfl CI rfl rfl ?_
 refine ao ?_
 refine Tr.ret (Fin.AE (Fin.BU rfl (AO.cell 0 rfl rfl Ct CI rfl Lr) (AO.tmp rfl Lr) ?_))
 refine A0 ⟨?_,?_,trivial⟩
 · exact RS (TD hb) hb
 · refine int_eq ?_;rw [TD hb,XU]
 have UQ:¬FH e=false:=by intro h_;rw [h_] at h1;exact absurd h1 AB
 refine a2 ?_
 refine co rfl (CK (Jp (c:=c) (m:=((e.Bp.length:Nat):Int))) rfl rfl rfl) ?_
 refine ac ?_
 refine wk [12,10,6,4,3,2] rfl ?_
 refine an ?_ ?_<;>intro h2 q2
 have hck:c.check ((e.Bp.length:Nat):Int)≠0:=by simpa using h2
 have XU:Jy e c l=c.check ((e.Bp.length:Nat):Int):=by unfold Jy;rw [if_neg UQ,if_pos hck]
 have hb:Jy e c l≠0:=by rw [XU];exact hck
 refine ao ?_
 refine TO.AK 0 rfl rfl rfl vq Cm rfl CI rfl rfl ?_
 refine ao ?_
 refine Tr.ret (Fin.AE (Fin.BU rfl (AO.cell 0 rfl rfl Ct CI rfl Lr) (AO.tmp rfl Lr) ?_))
 refine A0 ⟨?_,?_,trivial⟩
 · exact RS (TD hb) hb
 · refine int_eq ?_;rw [TD hb,XU]
 have hck:c.check ((e.Bp.length:Nat):Int)=0:=by simpa using h2
 have XU:Jy e c l=EV c l:=by unfold Jy;rw [if_neg UQ,if_neg (not_not_intro hck)]
 obtain ⟨how,htl,hth⟩:=TC hck
 refine a2 ?_
 refine co rfl (CK (Rf (c:=c) (l:=l) how) rfl rfl rfl) ?_
 refine ac ?_
 refine wk [14,13,10,6,4,3,2] rfl ?_
 refine an ?_ ?_<;>intro h3 q3
 have hte:EV c l≠0:=by simpa using h3
 have hb:Jy e c l≠0:=by rw [XU];exact hte
 refine ao ?_
 refine TO.AK 0 rfl rfl rfl vq Cm rfl CI rfl rfl ?_
 refine ao ?_
 refine Tr.ret (Fin.AE (Fin.BU rfl (AO.cell 0 rfl rfl Ct CI rfl Lr) (AO.tmp rfl Lr) ?_))
 refine A0 ⟨?_,?_,trivial⟩
 · exact RS (TD hb) hb
 · refine int_eq ?_;rw [TD hb,XU]
 have hte:EV c l=0:=by simpa using h3
 have hb:Jy e c l=0:=by rw [XU];exact hte
 have Mv:=(RR hte).1
 have Q0:=sC hte hth
 obtain ⟨T,hT⟩:∃T,l.map (RP c)=T:=⟨_,rfl⟩
 have hTl:T.length=l.length:=by rw [←hT,List.length_map]
 rw [hT] at Q0
 refine Tr.re 13 rfl (Pr.le_of_eq (by rw [Wr hte,hT])) ?_
 refine a2 ?_
 refine co rfl (CK (ZO (n:=((l.length:Nat):Int)) (l:=r) hrl) rfl rfl rfl) ?_
 refine ac ?_
 refine wk [15,14,13,10,6,4,3,2] rfl ?_
 refine an ?_ ?_<;>intro h4 q4
 have hv:BM (l.length:Nat) r≠0:=by simpa using h4
 refine ao ?_
 refine TO.AK 0 rfl rfl rfl vq Cm rfl CI rfl rfl ?_
 refine ao ?_
 refine Tr.ret (Fin.AE (Fin.BU rfl (AO.cell 0 rfl rfl Ct CI rfl Lr) (AO.tmp rfl Lr) ?_))
 refine A0 ⟨?_,?_,trivial⟩
 · exact RS (uC hb hv) hv
 · refine int_eq ?_;exact (uC hb hv).symm
 have hv:BM (l.length:Nat) r=0:=by simpa using h4
 obtain ⟨row,hrow⟩:∃row,(DM l.length r l.length).1=row:=⟨_,rfl⟩
 obtain ⟨fQ,AEr⟩:=Iq hv l.length AV
 rw [Int.toNat_natCast,hrow] at fQ AEr
 have hrq:∀q∈r,(0≤q.fst∧q.fst<l.length)∧0≤q.thn∧q.fst≠q.thn:=fun q hq=>by
  have h_:=(DL hv).2.1 q hq
  unfold FJ at h_;rw [decide_eq_false_iff_not] at h_;omega
 refine Tr.re 15 rfl (Pr.le_of_eq (by rw [if_pos hv,Int.toNat_natCast,hrow])) ?_
 refine ac ?_
 refine ao ?_
 refine tp rfl (Mf (m:=l.length) rfl underlying22 CH IQ z3 rfl AB AB vq vq Fj AA) ?_
 refine tp rfl (Al (rows:=[(0,[_]),(1,[_]),(2,[_])]) rfl LJ Eu ⟨⟨rfl,N0⟩,⟨⟨rfl,N0⟩,⟨⟨rfl,⟨_,rfl,Pr.le_trans (Pr.le_trans (B0 _ _) (Pr.le_of_eq (show _=slice 1 ((List.replicate l.length (0:Int)).map fun n=>[int n]) by rw [List.map_replicate];rfl))) (Aa _)⟩⟩,trivial⟩⟩⟩ rfl) ?_
 refine TO.jW rfl rfl AB rfl (ZV (d:=List.replicate l.length 0) F6 AA hrl Oe) kz (fun v1=> ?_)
 refine Tl rfl rfl rfl rfl z35 Eu (fun b2=> ?_)
 refine TO.AK 0 rfl rfl rfl vq Cm rfl CI rfl rfl ?_
 refine ao ?_
 refine wk [16,15,13,10,6,4,3] rfl ?_
 refine a2 ?_
 refine Tr.block (Tr.B5 3 1 (Tr.B5 3 1 (Tr.iw _ (kk [69,68,16,13,10,6,4,3] rfl) (fun (dy:List Int) (b:List Int) (y:List Int) (k:Nat) u u2=>[(70,int ((k:Nat):Int)),(17,Af u (ints b)),(18,Af u2 (ints y))]) (fun (dy:List Int) (b:List Int) (y:List Int) (k:Nat) u u2=>Hp M0 w0 Fa ([Au 3 1 u2,Au 3 1 u,AF true b2 35 [Dt l,reqs r,is v1],Bx 3 1 (dy.map fun n=>[int n]) v1,AF true b1 35 (([.slice none 0 0,.slice none 0 0,.slice none 0 0]:List Value).map is)])) (fun (dy:List Int) (b:List Int) (y:List Int) (k:Nat)=>k≤row.length∧NW c r T fr l.length (row.take k)=some (dy,b,y)) (fun (dy:List Int) (b:List Int) (y:List Int) (k:Nat)=>row.length-k) (List.replicate l.length 0) ([]) ([]) (0) (.slice none 0 0) (.slice none 0 0) (⟨Nat.zero_le _,rfl⟩) ⟨kq,⟨_,rfl,Bn rfl⟩,⟨_,rfl,Bn rfl⟩,trivial⟩ (fun _ _ h=>h) ?_)))
 rintro dy b y k u u2 ⟨hk0,hsc⟩
 have hS:=R_.run (k:=k) fQ (fun q hq=>by have:=hrq q hq;omega) Mv how (fun i h1 h2=>Q0 _ (List.mem_of_getElem? (Kc (l:=T) (i:=i.toNat) AA))) hk0 hsc
 have hdl:=hS.len
 have V3:b.length=k:=by rw [hS.hb,List.length_map,List.length_take];omega
 have hyl:y.length=k:=by rw [hS.hd,List.length_map,List.length_take];omega
 refine ac ?_
 refine Tr.seq ?_
 refine Tr.cn rfl ?_ ?_<;>intro h5 q5
 have hk:k<row.length:=AH h5
 obtain ⟨i,hi⟩:=at_ hk
 have lN:=fQ.Uw i (List.mem_of_getElem? hi)
 have hti:T[i.toNat]? =some (XV T i):=Kc AA
 refine ac ?_
 refine Tr.seq (Tr.block (Tr.seq (Tr.Aj (co rfl (AD rfl underlying51 CH vq vq AA (AX hi)) ?_))))
 refine ac ?_
 refine wk [70,69,68,20,18,17,16,13,10,6,4,3] rfl ?_
 refine ac ?_
 refine wk [70,69,68,21,20,18,17,16,13,10,6,4,3] rfl ?_
 refine ac ?_
 refine wk [77,76,75,70,69,68,21,20,18,17,16,13,10,6,4,3] rfl (Tr.block (Tr.BE _ (kk [76,75,70,69,68,20,18,17,16,13,10,6,4,3] rfl) (fun m:Nat=>[(77,int ((m:Nat):Int)),(21,int (Fh (r.take m) dy i fr))]) (fun m:Nat=>m≤(r).length) (fun m:Nat=>(r).length-m) 0 (Nat.zero_le _) ⟨kq,kz⟩ ?_))
 rintro m MY
 refine ac ?_
 refine wk [78,77,76,75,70,69,68,21,20,18,17,16,13,10,6,4,3] rfl (Tr.seq ?_)
 refine Tr.cn rfl ?_ ?_<;>intro h6 q6
 have ES:m<(r).length:=AH h6
 obtain ⟨q,EX⟩:=at_ ES
 refine ac ?_
 refine wk [77,76,75,70,69,68,21,20,18,17,16,13,10,6,4,3] rfl (Tr.seq (Tr.block (Tr.seq (Tr.An (tp rfl (AD rfl underlying33 Cg vq vq AA (AX EX)) (tp rfl (AL rfl FB Cg vq rfl rfl) ?_))))))
 refine Tl rfl rfl rfl rfl Rs QN (fun b3=> ?_)
 refine sf 0 23 ⟨rfl,rfl,rfl⟩ rfl rfl rfl rfl ?_
 refine ao ?_
 refine wk [77,76,75,70,69,68,23,21,20,18,17,16,13,10,6,4,3] rfl ?_
 refine ac ?_
 refine wk [84,77,76,75,70,69,68,23,21,20,18,17,16,13,10,6,4,3] rfl ?_
 refine Tr.cn rfl ?_ ?_<;>intro h7 q7
 have hqr:=hrq q (List.mem_of_getElem? EX)
 have hz:=Kc (l:=dy) (i:=q.fst.toNat) (by have:=hS.len;omega)
 have hzb:=hS.bnd _ (List.mem_of_getElem? hz)
 refine ac ?_
 refine co rfl (C7 3 rfl (Qj rfl underlying22 CH vq vq AA EM)) ?_
 refine co rfl (C7 3 rfl (Yz rfl DF vq (Bl fun _=>rfl) (by rw [List.getElem?_map,hz];rfl) rfl)) ?_
 refine LH rfl rfl rfl rfl AA (co rfl (M9 rfl vq vq) ?_)
 refine ac ?_
 refine wk [77,76,75,70,69,68,21,20,18,17,16,13,10,6,4,3] rfl ?_
 refine ac ?_
 exact Fin.AP (m+1) ⟨ES,by omega⟩ ⟨⟨_,rfl,AG m⟩,⟨_,rfl,int_eq (by rw [RT EX,if_pos (by simpa using h7)])⟩,kz⟩
 refine ac ?_
 refine wk [77,76,75,70,69,68,21,20,18,17,16,13,10,6,4,3] rfl ?_
 refine ac ?_
 exact Fin.AP (m+1) ⟨ES,by omega⟩ ⟨⟨_,rfl,AG m⟩,⟨_,rfl,int_eq (by rw [RT EX,if_neg (by simpa using h7)])⟩,kz⟩
 have Jm:m=(r).length:=by have:=AJ h6;omega
 subst Jm
 rw [List.take_length]
 refine ac ?_
 refine wk [70,69,68,21,20,18,17,16,13,10,6,4,3] rfl ?_
 refine ac ?_
 refine co rfl (AD rfl underlying22 CH vq vq AA (Bm hti)) ?_
 refine ac ?_
 refine co rfl (AR rfl (Wa (c:=c) (Ae:=b) (days:=y) (n:=XV T i) (from_:=Fh r dy i fr)) ⟨kq,H_,H_,kz⟩) ?_
 refine ac ?_
 refine wk [70,69,68,25,24,20,18,17,16,13,10,6,4,3] rfl ?_
 refine ac ?_
 refine wk [109,70,69,68,24,20,18,17,16,13,10,6,4,3] rfl ?_
 refine Tr.cn rfl ?_ ?_<;>intro h8 q8
 have hno:c.early b y (XV T i) (Fh r dy i fr)=none:=by simpa using h8
 refine ao ?_
 refine TO.AK 4 rfl rfl rfl vq Cm rfl CI rfl rfl ?_
 refine ao ?_
 refine wk [11,10] rfl (Tr.ret (Fin.AE (Fin.AU (Fin.AE (Fin.AE (Fin.AU (Fin.AE (Fin.BU rfl (AO.cell 4 rfl rfl Ct CI rfl Lr) (AO.tmp rfl Lr) ?_))))))))
 refine A0 ⟨?_,?_,trivial⟩
 · exact RS (mR hb hv Z_) AB
 · refine int_eq ?_;exact (mR hb hv Z_).symm
 obtain ⟨x,hx⟩:∃x,c.early b y (XV T i) (Fh r dy i fr)=some x:=Option.isSome_iff_exists.1 (by simpa using h8)
 have hdi:=Kc (l:=dy) (i:=i.toNat) (by have:=hS.len;omega)
 refine Tr.re 24 rfl (int_eq (by rw [hx])) ?_
 refine ac ?_
 refine wk [70,69,68,24,20,18,17,16,13,10,6,4,3] rfl ?_
 refine ao ?_
 refine tp rfl (C7 3 rfl (Qj rfl underlying22 CH vq vq AA EM)) ?_
 refine TO.Dr 3 rfl rfl (LN rfl rfl vq N0 CH rfl (Bl fun _=>rfl) (by rw [List.getElem?_map,hdi];rfl) AB (show _=(dy.set i.toNat x).map _ by rw [List.map_set];rfl)) ?_
 refine ao ?_
 refine wk [70,69,68,24,20,18,17,16,13,10,6,4,3] rfl ?_
 refine ao ?_
 refine tp rfl (AD rfl underlying22 CH vq vq AA (Bm hti)) ?_
 refine ao ?_
 refine TO.DZ 1 rfl rfl AB (B4 rfl rfl rfl rfl underlying22 CH IQ z3 H_ GH (Az BJ Kl)) (fun v2=> ?_)
 refine ao ?_
 refine TO.DZ 0 rfl rfl AB (B4 rfl rfl rfl rfl underlying22 CH IQ z3 H_ GH (Az BJ Kl)) (fun v3=> ?_)
 refine ao ?_
 refine wk [70,69,68,18,17,16,13,10,6,4,3] rfl ?_
 refine ac ?_
 exact Fin.oa (dy.set i.toNat x) (b++[XV T i]) (y++[x]) (k+1) v2 v3 (⟨⟨hk,rM hi hsc hx⟩,by omega⟩) ⟨⟨_,rfl,AG k⟩,⟨_,rfl,BA DB⟩,⟨_,rfl,BA DB⟩,kz⟩ (fun _ _ h=>h)
 have hkr:k=row.length:=by have:=AJ h5;omega
 rw [hkr,List.take_length] at hsc
 have hsr:VV c l r fr=some (dy,b,y):=by unfold VV;rw [hT,hrow];exact hsc
 refine ac ?_
 refine Tr.seq (Tr.MN 2 3 2 rfl rfl AB rfl Lr (Bl fun _=>rfl) ?_)
 refine ao ?_
 refine TO.AK 4 rfl rfl rfl vq Cm rfl CI rfl rfl ?_
 refine ao ?_
 refine wk [11,10] rfl (Tr.ret (Fin.BU rfl (AO.cell 4 rfl rfl Ct CI rfl Lr) (AO.tmp rfl Lr) ?_))
 refine A0 ⟨?_,?_,trivial⟩
 · exact sD (uD hb hv hsr) hsr
 · refine int_eq ?_;exact (uD hb hv hsr).symm
theorem nC {l:List BW} {n:Nat} (hc:∀c∈l,c.Cr.fits∧c.Cr.small):∀(s:List Int) (Bp:List B7),(∀x∈Bp,x.sz n)→(∀x∈(NR l s Bp).1,x.sz (n+s.length))∧(NR l s Bp).1.length=Bp.length
 |[],Bp,h=>⟨h,rfl⟩
 |i::s,Bp,h=>by
  rw [NR]
  split
  · exact ⟨fun x hx=>(h x hx).le AA,rfl⟩
  next c gZ=>
  by_cases ha:(K1 Bp c).2=0
  ·
   rw [if_pos ha]
   have:=nC (n:=n+1) hc s (K1 Bp c).1 (kQ h (hc c (List.mem_of_getElem? gZ)))
   rw [bR] at this
   exact ⟨fun x hx=>by rw [List.length_cons,show n+(s.length+1)=n+1+s.length by omega];exact this.1 x hx,this.2⟩
  · rw [if_neg ha];exact ⟨fun x hx=>(h x hx).le AA,rfl⟩
theorem cY {e:Da} {l:List BW} {s:List Int} {n:Nat} (hz:e.sz n) (hc:∀c∈l,c.Cr.fits∧c.Cr.small):(Uq e l s).1.sz (n+s.length):=by
 have h0:Fx.sz (n+s.length):=⟨(fun x hx=>by cases hx),(fun x hx=>by cases hx),Nat.zero_le _,Nat.zero_le _,Nat.zero_le _⟩
 obtain ⟨h1,h2⟩:=nC hc s e.Bp hz.Bp
 unfold Uq
 repeat' split
 · exact h0
 · exact h0
 · exact h0
 · exact ⟨h1,hz.items,by show (NR l s e.Bp).1.length≤_;rw [h2];exact hz.le,hz.lg,hz.li⟩
 · exact h0
theorem N4.sz {e:Da} (h:N4 e):e.sz 5:=by
 have h3:=h.n3;have g3:=h.g3;have i2:=h.i2
 refine ⟨fun x hx=> ?_,fun x hx=>⟨by have:=(h.it x hx).name;unfold maxLen;omega,by have:=(h.it x hx).links;omega⟩,by omega,by omega,by omega⟩
 obtain ⟨i,hi⟩:=List.getElem?_of_mem hx
 exact qo (h.snd i x hi)
end Go.Proofs.YtmocaapoeefgkaaGreatDoor
