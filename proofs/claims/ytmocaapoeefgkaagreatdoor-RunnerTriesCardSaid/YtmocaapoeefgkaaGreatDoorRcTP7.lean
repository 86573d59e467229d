/-
  Part 7 of the texts that prove this claim, merged.
-/
import Derived.Test.YtmocaapoeefgkaaGreatDoorRcTP6
set_option linter.all false
set_option maxRecDepth 40000
set_option maxHeartbeats 16000000
namespace Go.Proofs.YtmocaapoeefgkaaGreatDoor
open Go Go.RowKit Cp Go.Proofs.Tryz
theorem qU {e:Dn} {i:Nat} {x:Iz} (h:Fc e=true) (hx:e.BX[i]? =some x):(0≤x.client∧x.client<(e.Bu.length:Nat))∧(0≤x.server∧x.server<(e.Bu.length:Nat)):=by
 have h1:=(Fe.1 h).ed i (by rcases Nat.lt_or_ge i e.BX.length with h'|h';exact h';rw [List.getElem?_eq_none h'] at hx;cases hx)
 unfold Eo at h1
 rw [hx] at h1
 simp only [Option.getD_some,Bool.and_eq_true,decide_eq_true_eq] at h1
 omega
theorem i7 {e:Dn} {i:Int} (hf:e.fits):BF prog 304 [agg (CM e),int i] (Cp.ex fun z:B7×B7×Int=>fact (z.2.2=0→z.1∈e.Bu∧z.2.1∈e.Bu) (Dy [agg (Be z.1),agg (Be z.2.1),int z.2.2])):=by
 refine fo func304 rfl ⟨rfl,rfl⟩ fun M0 w0=>(Tr.seq (Tr.Ap (tp rfl (Bh rfl C3) ?_)))
 refine Tl rfl rfl rfl rfl z40 Hh (fun b1=> ?_)
 refine Tl rfl rfl rfl rfl z40 Hh (fun b2=> ?_)
 refine ap ?_
 refine ac ?_
 refine co rfl (Cz (D7 hf) rfl rfl) ?_
 refine an ?_ ?_<;>intro h1 q1
 refine ap ?_
 refine Tr.ret (Fin.AE (Fin.FU rfl (AL.cell 1 rfl rfl CD Bw rfl Lr) (AL.cell 0 rfl rfl CD Bw rfl Lr) (AL.tmp rfl Lr) ?_))
 · exact Y0
 have VY:Fc e=true:=by cases h_:Fc e with|true=>rfl|false=>exact absurd h1 Mo
 refine ac ?_
 refine ag ?_ ?_<;>intro h2 q2
 refine ac ?_
 refine wk [20,5,4,2,1] rfl (Tr.cond rfl (fun _=> ?_) (fun h=>nomatch h))
 refine Tr.seq (Tr.Ap (tp rfl (An (rows:=[]) rfl sD Hh trivial rfl) (tp rfl (An (rows:=[]) rfl sD Hh trivial rfl) (TO.AK 1 rfl rfl rfl vq C3 rfl Bw rfl rfl (TO.AK 0 rfl rfl rfl vq C3 rfl Bw rfl rfl (tm rfl (TO.nil (Fin.go (Tr.ret (Fin.AE (Fin.FU rfl (AL.cell 1 rfl rfl CD Bw rfl Lr) (AL.cell 0 rfl rfl CD Bw rfl Lr) (AL.tmp rfl Lr) ?_)))))))))))
 · exact Y0
 refine ac ?_
 refine wk [20,5,4,2,1] rfl ?_
 refine Tr.cn rfl ?_ ?_<;>intro h3 q3
 refine ap ?_
 refine Tr.ret (Fin.AE (Fin.FU rfl (AL.cell 1 rfl rfl CD Bw rfl Lr) (AL.cell 0 rfl rfl CD Bw rfl Lr) (AL.tmp rfl Lr) ?_))
 · exact Y0
 obtain ⟨x,hx⟩:=at_ (l:=e.BX) (k:=i.toNat) AA
 obtain ⟨hxc,hxs⟩:=qU VY hx
 obtain ⟨c,hc⟩:=at_ (l:=e.Bu) (k:=x.client.toNat) AA
 obtain ⟨y,hy⟩:=at_ (l:=e.Bu) (k:=x.server.toNat) AA
 refine ac ?_
 refine Tr.seq (Tr.rx ?_)
 refine ay ?_
 refine xo rfl (fun _=>AD rfl underlying28 E5 vq vq AA (Bf hx)) ?_
 refine ay ?_
 refine xo rfl (fun _=>AD rfl underlying27 Bw vq vq AA (Bf hc)) ?_
 refine ay ?_
 refine xo rfl (fun _=>AD rfl underlying28 E5 vq vq AA (Bf hx)) ?_
 refine ay ?_
 refine xo rfl (fun _=>AD rfl underlying27 Bw vq vq AA (Bf hy)) ?_
 refine ay ?_
 refine Cx.nil ⟨by kernel_rfl,?_⟩
 refine BI.done XU (Fin.go (wk [6,5,4] rfl (Tr.ret (Fin.FU rfl (AL.cell 1 rfl rfl CD Bw rfl Lr) (AL.cell 0 rfl rfl CD Bw rfl Lr) (AL.tmp rfl Lr) ?_))))
 · exact Ax (c,y,_) (BB (fun _=>⟨List.mem_of_getElem? hc,List.mem_of_getElem? hy⟩) Lr)
theorem SV {e:Dn} {i day:Int} (hf:e.fits):BF prog 288 [agg (CM e),int i,int day] (Cp.ex fun z:Int×Int×Int=>fact True (Dy [agg [int z.1,int z.2.1],int z.2.2])):=by
 refine fo func288 rfl ⟨rfl,rfl⟩ fun M0 w0=>(Tr.seq (Tr.Ap (tp rfl (Bh rfl C3) ?_)))
 refine Tl rfl rfl rfl rfl Jt Fy (fun b1=> ?_)
 refine ao ?_
 refine ao ?_
 refine tp rfl (CS (i7 hf) rfl rfl rfl) ?_
 refine TO.ex 14 rfl (fun z1=>TO.fact 14 rfl fun Eh=> ?_)
 refine ao ?_
 refine Tl rfl rfl rfl rfl z40 Hh (fun b2=> ?_)
 refine Tl rfl rfl rfl rfl z40 Hh (fun b3=> ?_)
 refine sf 1 8 ⟨rfl,rfl,rfl⟩ rfl rfl rfl rfl ?_
 refine sf 0 9 ⟨rfl,rfl,rfl⟩ rfl rfl rfl rfl ?_
 refine ao ?_
 refine wk [10,9,8,6,2] rfl ?_
 refine an ?_ ?_<;>intro h1 q1
 refine ao ?_
 refine TO.AK 0 rfl rfl rfl vq C3 rfl CH rfl rfl ?_
 refine ao ?_
 refine Tr.ret (Fin.AE (Fin.Bc rfl (AL.cell 0 rfl rfl C7 CH rfl Lr) (AL.tmp rfl Lr) ?_))
 · exact En
 have hz0:z1.2.2=0:=by have:=q1;omega
 refine ac ?_
 refine ao ?_
 refine tp rfl (LV (YC (hf.Bu _ (Eh hz0).1).2 (hf.Bu _ (Eh hz0).2).2) rfl rfl rfl rfl) ?_
 refine TO.ex 25 rfl (fun z2=>TO.fact 25 rfl fun I6=> ?_)
 refine ao ?_
 refine TO.AK 0 rfl rfl rfl vq C3 rfl CH rfl rfl ?_
 refine ao ?_
 refine wk [7,6] rfl (Tr.ret (Fin.Bc rfl (AL.cell 0 rfl rfl C7 CH rfl Lr) (AL.tmp rfl Lr) ?_))
 · exact En
theorem PB {e:Dn} {i from_ OK:Int} (hf:e.fits):BF prog 256 [agg (CM e),int i,int from_,int OK] (Cp.ex fun z:Int×Int×Int=>fact True (Dy [agg [int z.1,int z.2.1],int z.2.2])):=by
 refine fo func256 rfl ⟨rfl,rfl⟩ fun M0 w0=>(Tr.seq (Tr.Ap (tp rfl (Bh rfl C3) ?_)))
 refine Tl rfl rfl rfl rfl Jt Fy (fun b1=> ?_)
 refine ao ?_
 refine ao ?_
 refine tp rfl (LV (SV hf) rfl rfl rfl rfl) ?_
 refine TO.ex 16 rfl (fun z1=>TO.fact 16 rfl fun Eh=> ?_)
 refine ao ?_
 refine Tl rfl rfl rfl rfl Jt Fy (fun b2=> ?_)
 refine sf 0 10 ⟨rfl,rfl,rfl⟩ rfl rfl rfl rfl ?_
 refine ao ?_
 refine wk [11,10,8,4,3,2,1] rfl ?_
 refine an ?_ ?_<;>intro h1 q1
 refine ao ?_
 refine TO.AK 0 rfl rfl rfl vq C3 rfl CH rfl rfl ?_
 refine ao ?_
 refine Tr.ret (Fin.AE (Fin.Bc rfl (AL.cell 0 rfl rfl C7 CH rfl Lr) (AL.tmp rfl Lr) ?_))
 · exact En
 refine ac ?_
 refine ao ?_
 refine tp rfl (LV (SV hf) rfl rfl rfl rfl) ?_
 refine TO.ex 27 rfl (fun z2=>TO.fact 27 rfl fun I6=> ?_)
 refine ao ?_
 refine wk [11,10,8,3,2] rfl ?_
 refine an ?_ ?_<;>intro h2 q2
 refine ao ?_
 refine TO.AK 0 rfl rfl rfl vq C3 rfl CH rfl rfl ?_
 refine ao ?_
 refine Tr.ret (Fin.AE (Fin.Bc rfl (AL.cell 0 rfl rfl C7 CH rfl Lr) (AL.tmp rfl Lr) ?_))
 · exact En
 refine ac ?_
 refine an ?_ ?_<;>intro h3 q3
 refine ao ?_
 refine TO.AK 0 rfl rfl rfl vq C3 rfl CH rfl rfl ?_
 refine ao ?_
 refine Tr.ret (Fin.AE (Fin.Bc rfl (AL.cell 0 rfl rfl C7 CH rfl Lr) (AL.tmp rfl Lr) ?_))
 · exact En
 refine ac ?_
 refine ao ?_
 refine TO.AK 0 rfl rfl rfl vq C3 rfl CH rfl rfl ?_
 refine ao ?_
 refine Tr.ret (Fin.Bc rfl (AL.cell 0 rfl rfl C7 CH rfl Lr) (AL.tmp rfl Lr) ?_)
 · exact Ax (z1.1,z1.2.1,0) (BB trivial Lr)
abbrev SW:Pr:=slice 7 []
abbrev Nk:Pr:=agg [slice 6 [],slice 2 []]
abbrev WL:Pr:=agg [slice 1 [],int 0]
theorem PC   :BF prog 174 [Nk] (int 0):=by
 refine BF.of func174 rfl rfl Az fun M0 w0=> ?_
 refine Tr.seq (Tr.Al (co rfl (Bh rfl (Va rfl)) (cm rfl (Ch.nil (Fin.go (Tr.seq (Tr.seq (Tr.Al (co rfl (N_ rfl VO rfl rfl) (co rfl (F5 rfl ZT rfl) (co rfl (Ci rfl underlying111 (vl rfl)) (co rfl (ki rfl rfl rfl rfl) (cm rfl ?_)))))))))))))
 refine Ch.cs 9 rfl ?_ ?_<;>intro h1 q1
 iterate 4 refine cnf h1 rfl ?_
 refine co rfl (Nt rfl rfl h1 rfl) (Ch.nil (Fin.go (Tr.cond rfl (fun _=> ?_) (fun h=>nomatch h))))
 refine Tr.seq (Tr.Al (cm rfl (Ch.nil (Fin.go (Tr.ret (Fin.AE (Fin.LR rfl (Bt.EB _ _) rfl ?_)))))))
 · refine int_eq ?_;simp_all
 refine cy h1 rfl (N_ rfl dI rfl rfl) (cy h1 rfl (F5 rfl lf rfl) (cy h1 rfl (Ci rfl underlying112 (vl rfl)) (cy h1 rfl (ki rfl rfl rfl rfl) (co rfl (KE rfl rfl h1 rfl) (Ch.nil (Fin.go ?_))))))
 refine Tr.cn rfl ?_ ?_<;>intro h2 q2
 exact absurd h2 AB
 refine Tr.skip (Fin.go (Tr.seq (Tr.seq (Tr.Al (cm rfl (Ch.nil (Fin.go (Tr.block (Tr.BE [(1,_)] ⟨ke rfl,trivial⟩ (fun k:Nat=>[(3,int ((k:Nat):Int))]) (fun k:Nat=>k=0) (fun k:Nat=>0) 0 (rfl) ⟨ke rfl,trivial⟩ ?_)))))))))
 rintro k hk0
 refine Tr.seq (Tr.seq (Tr.Al (cm rfl (co rfl (N_ rfl VO rfl rfl) (co rfl (F5 rfl ZT rfl) (co rfl (Ci rfl underlying111 (vl rfl)) (co rfl (ki rfl rfl rfl rfl) (Ch.nil (Fin.go ?_)))))))))
 refine Tr.cn rfl ?_ ?_<;>intro h3 q3
 exfalso;have Sw:=DH.Dp h3;subst hk0;simp at Sw
 have Yh:=h3
 refine Tr.exit (Fin.Ac (Fin.Ac (Fin.A0 (Fin.go (Tr.seq (Tr.seq (Tr.Al (cm rfl (Ch.nil (Fin.go (Tr.block (Tr.BE [(1,_)] ⟨ke rfl,trivial⟩ (fun k:Nat=>[(4,int ((k:Nat):Int))]) (fun k:Nat=>k=0) (fun k:Nat=>0) 0 (rfl) ⟨ke rfl,trivial⟩ ?_))))))))))))
 rintro k hk0
 refine Tr.seq (Tr.seq (Tr.Al (cm rfl (co rfl (N_ rfl dI rfl rfl) (co rfl (F5 rfl lf rfl) (co rfl (Ci rfl underlying112 (vl rfl)) (co rfl (ki rfl rfl rfl rfl) (Ch.nil (Fin.go ?_)))))))))
 refine Tr.cn rfl ?_ ?_<;>intro h4 q4
 exfalso;have Sw:=DH.Dp h4;subst hk0;simp at Sw
 have Yh:=h4
 refine Tr.exit (Fin.Ac (Fin.Ac (Fin.A0 (Fin.go (Tr.seq (Tr.Al (cm rfl (Ch.nil (Fin.go (Tr.ret (Fin.LR rfl (Bt.EB _ _) rfl ?_)))))))))))
 · exact Lr
theorem YE {a b p:Int}  :BF prog 333 [Nk,agg [int a,int b],int p] (anyI):=by
 refine fo func333 rfl ⟨rfl,rfl⟩ fun M0 w0=> ?_
 · repeat' first|exact absurd h AB|exact Ax _ Lr|refine co rfl (Cz (PC) rfl rfl) ?_|refine co rfl (Cz (KM (CG:=a) (bits:=b)) rfl rfl) ?_|refine ac ?_|(refine Tr.cn rfl ?_ ?_<;>intro h q)|(refine Ch.cg rfl rfl rfl ?_ ?_<;>intro h q)
theorem Lu {a b p d:Int}  :BF prog 335 [Nk,agg [int a,int b],int p,int d] (int (-1)):=by
 refine fo func335 rfl ⟨rfl,rfl⟩ fun M0 w0=> ?_
 refine a2 ?_
 refine co rfl (Ci rfl underlying111 vq) ?_
 refine ac ?_
 refine Tr.block (Tr.BE _ (kk [5,4,3,2] rfl) (fun k:Nat=>[(9,int (-1))]) (fun k:Nat=>True) (fun k:Nat=>0) 0 (trivial) kz ?_)
 rintro k _
 refine an ?_ ?_<;>intro h1 q1
 exact absurd h1 AB
 have Yh:=h1
 refine a3 ?_
 · exact Lr
theorem TH {a b p d:Int}  :BF prog 334 [Nk,agg [int a,int b],int p,int d] (bool true):=by
 refine fo func334 rfl ⟨rfl,rfl⟩ fun M0 w0=> ?_
 · repeat' first|exact Lr|exact absurd h AB|refine co rfl (ju (Lu) rfl rfl rfl rfl rfl) ?_|refine ac ?_|(refine Ch.cg rfl rfl rfl ?_ ?_<;>intro h q)
theorem TI {a b p d:Int}  :BF prog 320 [Nk,agg [int a,int b],int p,int d] (Dy [ES,anyI,anyI]):=by
 refine fo func320 rfl ⟨rfl,rfl⟩ fun M0 w0=> ?_
 refine a2 ?_
 refine co rfl (LV (YE) rfl rfl rfl rfl) ?_
 refine ac ?_
 refine Tr.seq (Tr.ex 11 rfl fun x11=> ?_)
 refine an ?_ ?_<;>intro h1 q1
 refine ac ?_
 refine wk [10,9,8] rfl (Tr.ret (Fin.AE (Fin.JA rfl (Bt.EB _ _) rfl ?_ rfl ?_ rfl ?_)))
 · exact BN
 · exact BN
 · exact BN
 refine ac ?_
 refine ag ?_ ?_<;>intro h2 q2
 refine ac ?_
 refine wk [24,5,4,3,2] rfl ?_
 refine ac ?_
 refine Tr.ret (Fin.AE (Fin.JA rfl (Bt.EB _ _) rfl ?_ rfl ?_ rfl ?_))
 · exact BN
 · exact BN
 · exact BN
 refine ac ?_
 refine wk [24,5,4,3,2] rfl ?_
 refine Tr.cn rfl ?_ ?_<;>intro h3 q3
 refine ac ?_
 refine Tr.ret (Fin.AE (Fin.JA rfl (Bt.EB _ _) rfl ?_ rfl ?_ rfl ?_))
 · exact BN
 · exact BN
 · exact BN
 refine a2 ?_
 refine co rfl (ju (TH) rfl rfl rfl rfl rfl) ?_
 refine ac ?_
 refine co rfl (ju (Lu) rfl rfl rfl rfl rfl) ?_
 refine ac ?_
 refine wk [10,9,8] rfl (Tr.ret (Fin.JA rfl (Bt.EB _ _) rfl ?_ rfl ?_ rfl ?_))
 · exact BN
 · exact BN
 · exact BN
theorem i9   :BF prog 321 [SW] (int 0):=by
 refine fo func321 rfl ⟨rfl,rfl⟩ fun M0 w0=> ?_
 refine a2 ?_
 refine Tr.block (Tr.BE _ (kk [0] rfl) (fun k:Nat=>[(3,int ((k:Nat):Int))]) (fun k:Nat=>k=0) (fun k:Nat=>0) 0 (rfl) kz ?_)
 rintro k hk0
 refine ac ?_
 refine co rfl (Ci rfl underlying162 vq) ?_
 refine an ?_ ?_<;>intro h1 q1
 exfalso;have Sw:=DH.Dp h1;subst hk0;simp at Sw
 have Yh:=h1
 refine a3 ?_
 · exact Lr
theorem i_ {a b p d:Int} {s:List UInt8}  :BF prog 322 [SW,WL,agg [int a,int b],int p,str s,int d] (bool false):=by
 refine fo func322 rfl ⟨rfl,rfl⟩ fun M0 w0=> ?_
 refine a2 ?_
 refine Tr.block (Tr.BE _ (kk [8,7,5,4,3,0] rfl) (fun k:Nat=>[(13,int ((k:Nat):Int))]) (fun k:Nat=>k=0) (fun k:Nat=>0) 0 (rfl) kz ?_)
 rintro k hk0
 refine ac ?_
 refine co rfl (Ci rfl underlying162 vq) ?_
 refine an ?_ ?_<;>intro h1 q1
 exfalso;have Sw:=DH.Dp h1;subst hk0;simp at Sw
 have Yh:=h1
 refine a3 ?_
 · exact Lr
theorem TJ {a b p d:Int} {s:List UInt8}  :BF prog 313 [Nk,SW,WL,agg [int a,int b],int p,str s,int d] (Dy [ES,anyI]):=by
 refine fo func313 rfl ⟨rfl,rfl⟩ fun M0 w0=> ?_
 refine a2 ?_
 refine co rfl (ju (TI) rfl rfl rfl rfl rfl) ?_
 refine ac ?_
 refine wk [18,16,10,9,6,5,4,1] rfl (Tr.seq (Tr.seq (Tr.ex 18 rfl fun x18=>(Tr.ex 16 rfl fun x16=> ?_))))
 refine an ?_ ?_<;>intro h1 q1
 refine ac ?_
 refine Tr.ret (Fin.AE (Fin.D3 rfl (Bt.EB _ _) rfl ?_ rfl ?_))
 · exact BN
 · exact BN
 refine a2 ?_
 refine co rfl (Cz (i9) rfl rfl) ?_
 refine a2 ?_
 refine wk [35,19,16,10,9,6,5,4,1] rfl ?_
 refine Tr.cn rfl ?_ ?_<;>intro h2 q2
 exact absurd h2 AB
 refine ac ?_
 refine ag ?_ ?_<;>intro h3 q3
 refine ac ?_
 refine wk [15,14] rfl (Tr.ret (Fin.D3 rfl (Bt.EB _ _) rfl ?_ rfl ?_))
 · exact BN
 · exact BN
 refine ac ?_
 refine cy h3 rfl (AV rfl (i_) ⟨kq,kz⟩) ?_
 refine ac ?_
 refine wk [15,14] rfl (Tr.ret (Fin.D3 rfl (Bt.EB _ _) rfl ?_ rfl ?_))
 · exact BN
 · exact BN
theorem aZ {e:B7} {a b d:Int} (he:e.small):BF prog 299 [Nk,SW,WL,agg (Be e),agg [int a,int b],int d] (Dy [ES,anyI]):=by
 refine fo func299 rfl ⟨rfl,rfl⟩ fun M0 w0=> ?_
 refine ac ?_
 refine ap ?_
 refine tp rfl (CS (Ob he) rfl rfl rfl) ?_
 refine TO.ex 23 rfl (fun z1=>TO.fact 23 rfl fun Eh=> ?_)
 refine ap ?_
 refine wk [15,14,9,8,6,5,1] rfl ?_
 refine an ?_ ?_<;>intro h1 q1
 refine ac ?_
 refine Tr.ret (Fin.AE (Fin.D3 rfl (Bt.EB _ _) rfl ?_ rfl ?_))
 · exact BN
 · exact BN
 refine a3 ?_
 refine Tr.block (Tr.BE _ (kk [14,9,8,6,5,1] rfl) (fun k:Nat=>[(17,int ((k:Nat):Int)),(16,ES)]) (fun k:Nat=>k≤(z1.1).length) (fun k:Nat=>(z1.1).length-k) 0 (Nat.zero_le _) ⟨kq,⟨_,rfl,Ax _ Lr⟩,trivial⟩ ?_)
 rintro k BT
 refine Tr.ex 16 rfl fun x16=> ?_
 refine an ?_ ?_<;>intro h2 q2
 have Ai:k<(z1.1).length:=AH h2
 obtain ⟨x,Ah⟩:=at_ Ai
 refine a2 ?_
 refine co rfl (AD rfl underlying143 LS vq vq AA (AZ Ah)) ?_
 refine ac ?_
 refine co rfl (AV rfl (TJ (a:=x.1) (b:=x.2)) ⟨kq,kz⟩) ?_
 refine ac ?_
 refine wk [19,18,17,16,14,9,8,6,5,1] rfl (Tr.seq (Tr.seq (Tr.ex 19 rfl fun x19=>(Tr.ex 18 rfl fun x18=> ?_))))
 refine an ?_ ?_<;>intro h3 q3
 refine ac ?_
 refine wk [13,12] rfl (Tr.ret (Fin.AE (Fin.AR (Fin.AE (Fin.AE (Fin.AR (Fin.AE (Fin.D3 rfl (Bt.EB _ _) rfl ?_ rfl ?_))))))))
 · exact BN
 · exact BN
 · repeat' first|exact Fin.AO (k+1) ⟨Ai,by omega⟩ ⟨⟨_,rfl,AG k⟩,⟨_,rfl,Ax _ Lr⟩,kz⟩|refine ac ?_|(refine Ch.cg rfl rfl rfl ?_ ?_<;>intro h q)
 have BP:k=(z1.1).length:=by have:=AJ h2;omega
 subst BP
 refine a2 ?_
 refine wk [13,12] rfl (Tr.ret (Fin.D3 rfl (Bt.EB _ _) rfl ?_ rfl ?_))
 · exact BN
 · exact BN
theorem Ko {d:Int}  :BF prog 122 [Nk,SW,int d] (anyI):=by
 refine fo func122 rfl ⟨rfl,rfl⟩ fun M0 w0=> ?_
 refine a2 ?_
 refine co rfl (Cz (PC) rfl rfl) ?_
 refine an ?_ ?_<;>intro h1 q1
 exact absurd h1 AB
 refine a2 ?_
 refine co rfl (Ci rfl underlying162 vq) ?_
 refine ac ?_
 refine Tr.block (Tr.BE _ (kk [13,12,2] rfl) (fun k:Nat=>[(14,int ((k:Nat):Int))]) (fun k:Nat=>k=0) (fun k:Nat=>0) 0 (rfl) kz ?_)
 rintro k hk0
 refine ac ?_
 refine Tr.seq ?_
 refine Tr.cn rfl ?_ ?_<;>intro h2 q2
 exfalso;have Sw:=DH.Dp h2;subst hk0;simp at Sw
 have Yh:=h2
 · repeat' first|exact Ax _ Lr|refine ac ?_|(refine Tr.cn rfl ?_ ?_<;>intro h q)|(refine Ch.cg rfl rfl rfl ?_ ?_<;>intro h q)
abbrev fF:Pr:=Cp.ex fun z:List (Int×Int)=>fact (z.length≤1000) (uses z)
structure Kq (e:Dn) (i:Int) (x:Iz) (c s:B7):Prop where
 i0:0≤i
 hx:e.BX[i.toNat]? =some x
 c0:0≤x.client
 s0:0≤x.server
 hc:e.Bu[x.client.toNat]? =some c
 hs:e.Bu[x.server.toNat]? =some s
 cs:c.small
 ss:s.small
theorem qV {e:Dn} {i:Int} (hf:e.fits) (VY:Fc e=true) (h0:0≤i) (hi:i.toNat<e.BX.length):∃x c s,Kq e i x c s:=by
 obtain ⟨x,hx⟩:=at_ hi
 obtain ⟨hxc,hxs⟩:=qU VY hx
 obtain ⟨c,hc⟩:=at_ (l:=e.Bu) (k:=x.client.toNat) AA
 obtain ⟨y,hy⟩:=at_ (l:=e.Bu) (k:=x.server.toNat) AA
 exact ⟨x,c,y,h0,hx,hxc.1,hxs.1,hc,hy,(hf.Bu _ (List.mem_of_getElem? hc)).2,(hf.Bu _ (List.mem_of_getElem? hy)).2⟩
theorem Kq.li {e:Dn} {i:Int} {x:Iz} {c s:B7} (h:Kq e i x c s):i.toNat<e.BX.length:=by
 have:=h.hx
 rcases Nat.lt_or_ge i.toNat e.BX.length with h'|h'
 · exact h'
 · rw [List.getElem?_eq_none h'] at this;cases this
theorem Kq.lc {e:Dn} {i:Int} {x:Iz} {c s:B7} (h:Kq e i x c s):x.client.toNat<e.Bu.length:=by
 have:=h.hc
 rcases Nat.lt_or_ge x.client.toNat e.Bu.length with h'|h'
 · exact h'
 · rw [List.getElem?_eq_none h'] at this;cases this
theorem Kq.ls {e:Dn} {i:Int} {x:Iz} {c s:B7} (h:Kq e i x c s):x.server.toNat<e.Bu.length:=by
 have:=h.hs
 rcases Nat.lt_or_ge x.server.toNat e.Bu.length with h'|h'
 · exact h'
 · rw [List.getElem?_eq_none h'] at this;cases this
theorem Kr {e:Dn} {i:Int} {x:Iz} {c s:B7} (he:Kq e i x c s):BF prog 284 [agg (CM e),int i] (agg (Be s)):=by
 refine fo func284 rfl ⟨rfl,rfl⟩ fun M0 w0=> ?_
 have e1:=he.i0
 have e2:=he.c0
 have e3:=he.s0
 have e4:=he.li
 have e5:=he.lc
 have e6:=he.ls
 refine Tr.seq (Tr.Ap (tp rfl (Bh rfl C3) ?_))
 refine Tl rfl rfl rfl rfl z40 Hh (fun b1=> ?_)
 refine ap ?_
 refine Tr.seq (Tr.rx ?_)
 refine ay ?_
 refine xo rfl (fun _=>AD rfl underlying28 E5 vq vq AA (Bf he.hx)) ?_
 refine ay ?_
 refine xo rfl (fun _=>AD rfl underlying27 Bw vq vq AA (Bf he.hs)) ?_
 refine ay ?_
 refine Cx.nil ⟨by kernel_rfl,?_⟩
 refine BI.done al1 (Fin.go (Tr.ret (Fin.Cb rfl (AL.cell 0 rfl rfl CD Bw rfl Lr) ?_)))
 · exact Lr
theorem PD {e:Dn} {i:Int} {x:Iz} {c s:B7} (he:Kq e i x c s):BF prog 300 [agg (CM e),int i] (fF):=by
 refine fo func300 rfl ⟨rfl,rfl⟩ fun M0 w0=> ?_
 have e1:=he.i0
 have e2:=he.c0
 have e3:=he.s0
 have e4:=he.li
 have e5:=he.lc
 have e6:=he.ls
 refine ac ?_
 refine ao ?_
 refine tp rfl (AD rfl underlying28 E5 vq vq AA (Bf he.hx)) (tp rfl (AM rfl RJ E5 vq rfl rfl) ?_)
 refine Tl rfl rfl rfl rfl ZU XE (fun b1=> ?_)
 refine sf 0 5 ⟨rfl,rfl,rfl⟩ rfl rfl rfl rfl ?_
 refine ao ?_
 refine ac ?_
 refine co rfl (AD rfl underlying27 Bw vq vq AA (Bf he.hc)) ?_
 refine ac ?_
 refine co rfl (AD rfl underlying27 Bw vq vq AA (Bf he.hs)) (co rfl (AM rfl CD Bw vq rfl rfl) (co rfl (CS (YD he.cs he.ss) rfl rfl rfl) ?_))
 refine ac ?_
 refine wk [4] rfl ?_
 refine ac ?_
 · exact Lr
theorem aa {a b:B7} {x y:Int} (ha:a.small) (hb:b.small):BF prog 301 [agg (Be a),agg (Be b),agg [int x,int y]] (ES):=by
 refine fo func301 rfl ⟨rfl,rfl⟩ fun M0 w0=> ?_
 refine ac ?_
 refine ap ?_
 refine tp rfl (CS (Ob ha) rfl rfl rfl) ?_
 refine TO.ex 15 rfl (fun z1=>TO.fact 15 rfl fun Eh=> ?_)
 refine ap ?_
 refine wk [7,5,4] rfl ?_
 refine ap ?_
 refine tp rfl (CS (Ob hb) rfl rfl rfl) ?_
 refine TO.ex 21 rfl (fun z2=>TO.fact 21 rfl fun I6=> ?_)
 refine ap ?_
 refine ac ?_
 refine wk [28,9,7] rfl ?_
 refine Tr.cn rfl ?_ ?_<;>intro h1 q1
 refine a2 ?_
 · exact BN
 have Sz:z1.1.length=z2.1.length:=by have h_:=q1;omega
 refine a2 ?_
 refine Tr.block (Tr.BE _ (kk [30,9,7] rfl) (fun k:Nat=>[(31,int ((k:Nat):Int))]) (fun k:Nat=>k≤(z1.1).length) (fun k:Nat=>(z1.1).length-k) 0 (Nat.zero_le _) kz ?_)
 rintro k BT
 refine ac ?_
 refine Tr.seq ?_
 refine Tr.cn rfl ?_ ?_<;>intro h2 q2
 have Ai:k<(z1.1).length:=AH h2
 obtain ⟨x,Ah⟩:=at_ Ai
 obtain ⟨y2,o9⟩:=at_ (l:=z2.1) (k:=k) AA
 · repeat' first|exact Ax _ Lr|exact Fin.AO (k+1) ⟨Ai,by omega⟩ ⟨⟨_,rfl,AG k⟩,kz⟩|refine co rfl (AD rfl underlying143 LS vq vq AA (AZ Ah)) ?_|refine co rfl (AD rfl underlying143 LS vq vq AA (AZ o9)) (co rfl (AM rfl Jh LS vq rfl rfl) (co rfl (P5 rfl vq vq) ?_))|refine ac ?_|(refine Tr.cn rfl ?_ ?_<;>intro h q)
 have BP:k=(z1.1).length:=by have:=AJ h2;omega
 subst BP
 refine a3 ?_
 · exact BN
theorem jA {a b:Dn} (ha:a.fits) (hb:b.fits):BF prog 282 [agg (CM a),agg (CM b)] (Cp.ex fun z:Int=>fact (z=0→Fc a=true∧Fc b=true∧a.BX.length=b.BX.length) (int z)):=by
 refine fo func282 rfl ⟨rfl,rfl⟩ fun M0 w0=>(Tr.Hg 0 1 rfl rfl fun LG=>(Tr.Hg 1 1 rfl rfl fun AFR=> ?_))
 refine a2 ?_
 refine co rfl (Cz (D7 ha) rfl rfl) ?_
 refine ag ?_ ?_<;>intro h1 q1
 refine a3 ?_
 · exact PY
 refine cy h1 rfl (AM rfl Dg De vq rfl rfl) (cy h1 rfl (Cz (D7 hb) rfl rfl) ?_)
 refine an ?_ ?_<;>intro h2 q2
 refine a2 ?_
 · exact PY
 refine a2 ?_
 refine wk [20,3,2] rfl ?_
 refine Tr.cn rfl ?_ ?_<;>intro h3 q3
 refine a2 ?_
 · exact PY
 have Sz:a.BX.length=b.BX.length:=by have h_:=q3;omega
 refine a2 ?_
 refine Tr.block (Tr.BE _ (kk [23,3,2] rfl) (fun k:Nat=>[(24,int ((k:Nat):Int))]) (fun k:Nat=>k≤(a.BX).length) (fun k:Nat=>(a.BX).length-k) 0 (Nat.zero_le _) kz ?_)
 rintro k BT
 refine ac ?_
 refine Tr.seq ?_
 refine Tr.cn rfl ?_ ?_<;>intro h4 q4
 have Ai:k<(a.BX).length:=AH h4
 obtain ⟨x,Ah⟩:=at_ Ai
 obtain ⟨y2,o9⟩:=at_ (l:=b.BX) (k:=k) AA
 · repeat' first|exact Ax _ (BB (fun h_=>absurd h_ AB) Lr)|exact Fin.AO (k+1) ⟨Ai,by omega⟩ ⟨⟨_,rfl,AG k⟩,kz⟩|refine co rfl (AD rfl underlying28 E5 vq vq AA (AZ Ah)) ?_|refine co rfl (AD rfl underlying28 E5 vq vq AA (AZ o9)) (co rfl (AM rfl RJ E5 vq rfl rfl) (co rfl (nT rfl vq vq) ?_))|refine ac ?_|(refine Tr.cn rfl ?_ ?_<;>intro h q)
 have BP:k=(a.BX).length:=by have:=AJ h4;omega
 subst BP
 refine a3 ?_
 · exact Ax 0 (BB (fun _=>⟨by simp_all,by simp_all,Sz⟩) Lr)
theorem zi {d:Nat} {w:World} {x0 y0:Int} {x1 y1:Int}:(Op.equalIn (d+2) 268 (.agg #[.int .i64 x0,.int .i64 x1]) (.agg #[.int .i64 y0,.int .i64 y1])).run Tryz.prog w= .ok (decide (x0=y0∧x1=y1)) w:=by
 have h:=eqS (w:=w) (d:=d+1) (xs:= #[.int .i64 x0,.int .i64 x1]) (ys:= #[.int .i64 y0,.int .i64 y1]) Tryz.underlying268 BV (FF AB (CI Cs rfl) (CI Cs rfl) (Gd (d:=d+0) Tryz.underlying3) (FF AB (CI Cs rfl) (CI Cs rfl) (Gd (d:=d+0) Tryz.underlying3) (NH)))
 refine h.trans (congrArg (fun b=>Result.ok b w) ?_)
 rw [Bool.eq_iff_iff];simp [and_assoc]
theorem qW {E:Env} {I:Ck} {o:Oper} {u:TypeId} {x y:Operand} {x0 y0:Int} {x1 y1:Int} (ho:o.op= .binOp .eql 268 x y u) (hx:VL E x (agg [is (.int .i64 x0),is (.int .i64 x1)])) (hy:VL E y (agg [is (.int .i64 y0),is (.int .i64 y1)])):Ae Tryz.prog I o E (bool (decide (x0=y0∧x1=y1))):=
 NG [.int .i64 x0,.int .i64 x1] [.int .i64 y0,.int .i64 y1] ho hx hy BV (fun w=>by rw [show Op.equal 268 _ _=Op.equalIn (9998+2) 268 _ _ from rfl];exact zi)
theorem BF.outs {P:Program} {f:FuncId} {p0:Pr} {ps:List Pr} {res:Pr} (h:∀z:List (Int×Int),z.length≤1000→BF P f (p0::uses z::ps) res):BF P f (p0::Go.Proofs.YtmocaapoeefgkaaGreatDoor.fF::ps) res:=by
 refine ⟨(h [] (Nat.zero_le _)).1,fun M w vs hb hv=> ?_⟩
 match vs,hv with
 |u0::u1::us,⟨h0,⟨z,hz,h1⟩,h2⟩=>exact (h z hz).2 M w (u0::u1::us) hb ⟨h0,h1,h2⟩
section
variable {P:Program} {I:Ck} {E:Env} {o:Oper}
theorem zj {t u:TypeId} {x y:Operand} (ho:o.op= .binOp .gtr t x y u) (hx:VL E x (Gw .i64)) (hy:VL E y (Gw .i64)):Ae P I o E ES:=
 Ae.same fun M w a he _=>by
  obtain ⟨m,h1⟩:=hx.ev he Ar
  obtain ⟨n,h2⟩:=hy.ev he Ar
  have h1:a.eval x= .int .i64 m:=h1
  have h2:a.eval y= .int .i64 n:=h2
  exact ⟨.bool (decide (m>n)),by simp [execOp,ho,h1,h2,eqGuard,binOp,Op.intCmp],_,rfl⟩
end
theorem jB {e:B7} {all:List (Int×Int)} {d:Int} (he:e.small) (hl:all.length≤1000):BF prog 283 [agg (Be e),uses all,Nk,SW,WL,int d] (fF):=by
 refine fo func283 rfl ⟨rfl,rfl⟩ fun M0 w0=> ?_
 refine a3 ?_
 refine Tr.block (Tr.CC 268 2 (Tr.DE _ (kk [19,18,10,8,6,5,3] rfl) (fun (o:List (Int×Int)) (k:Nat) u=>[(20,int ((k:Nat):Int)),(13,Aa u (uses o))]) (fun (o:List (Int×Int)) (k:Nat) u=>Hp M0 w0 Fo ([Au 268 2 u])) (fun (o:List (Int×Int)) (k:Nat)=>k≤all.length∧o.length≤k) (fun (o:List (Int×Int)) (k:Nat)=>all.length-k) ([]) (0) (.slice none 0 0) (⟨Nat.zero_le _,by simp⟩) ⟨kq,⟨_,rfl,Bp rfl⟩,trivial⟩ (fun _ _ h=>h) ?_))
 rintro o k u ⟨hk0,hol⟩
 refine ac ?_
 refine Tr.seq ?_
 refine Tr.cn rfl ?_ ?_<;>intro h1 q1
 have hk:k<all.length:=AH h1
 obtain ⟨y,hy⟩:=at_ hk
 refine ac ?_
 refine Tr.seq (Tr.block (Tr.seq (Tr.Ap (tp rfl (AD rfl underlying331 CH vq vq AA (AZ hy)) (tp rfl (AM rfl C7 CH vq rfl rfl) ?_)))))
 refine Tl rfl rfl rfl rfl Jt Fy (fun b1=> ?_)
 refine sf 0 15 ⟨rfl,rfl,rfl⟩ rfl rfl rfl rfl ?_
 refine ao ?_
 refine wk [20,19,18,15,13,10,8,6,5,3] rfl ?_
 refine ac ?_
 refine co rfl (AV rfl (aZ he) ⟨kq,kz⟩) ?_
 refine ac ?_
 refine wk [20,19,18,17,16,15,13,10,8,6,5,3] rfl (Tr.seq (Tr.ex 17 rfl fun x17=>(Tr.ex 16 rfl fun x16=> ?_)))
 refine ag ?_ ?_<;>intro h2 q2
 refine ac ?_
 refine wk [38,20,19,18,15,13,10,8,6,5,3] rfl ?_
 refine Tr.cn rfl ?_ ?_<;>intro h3 q3
 refine ao ?_
 refine TO.Dl 0 rfl rfl AB (CB rfl rfl rfl rfl underlying331 CH dK Jt Iy Gn (BC BR KJ)) (fun v1=> ?_)
 refine ao ?_
 refine wk [20,19,18,13,10,8,6,5,3] rfl ?_
 refine ac ?_
 exact Fin.Bk (o++[(y.1,y.2)]) (k+1) v1 (⟨⟨by omega,by simp;omega⟩,by omega⟩) ⟨⟨_,rfl,AG k⟩,⟨_,rfl,BJ DQ⟩,kz⟩ (fun _ _ h=>h)
 refine a2 ?_
 exact Fin.Bk (o) (k+1) u (⟨⟨by omega,by omega⟩,by omega⟩) ⟨⟨_,rfl,AG k⟩,⟨_,rfl,BJ rfl⟩,kz⟩ (fun _ _ h=>h)
 refine ac ?_
 refine wk [38,20,19,18,15,13,10,8,6,5,3] rfl ?_
 refine a2 ?_
 exact Fin.Bk (o) (k+1) u (⟨⟨by omega,by omega⟩,by omega⟩) ⟨⟨_,rfl,AG k⟩,⟨_,rfl,BJ rfl⟩,kz⟩ (fun _ _ h=>h)
 have hk:=AJ h1
 refine a3 ?_
 · exact Pf
theorem WM {a b:Dn} {i:Int} {x x2:Iz} {c s c2 s2:B7} (ha:Kq a i x c s) (hb:Kq b i x2 c2 s2):BF prog 285 [agg (CM a),agg (CM b),int i] (fF):=by
 refine fo func285 rfl ⟨rfl,rfl⟩ fun M0 w0=> ?_
 refine ac ?_
 refine ao ?_
 refine tp rfl (CS (PD ha) rfl rfl rfl) ?_
 refine TO.ex 16 rfl (fun z1=>TO.fact 16 rfl fun Eh=> ?_)
 refine ao ?_
 refine ac ?_
 refine ao ?_
 refine tp rfl (CS (PD hb) rfl rfl rfl) ?_
 refine TO.ex 19 rfl (fun z2=>TO.fact 19 rfl fun I6=> ?_)
 refine ao ?_
 refine wk [21,20,19,8,7,4,3,2] rfl (Tr.block (Tr.CC 268 2 (Tr.DE _ (kk [20,19,7,4,3,2] rfl) (fun (o:List (Int×Int)) (k:Nat) u=>[(21,int ((k:Nat):Int)),(8,Aa u (uses o))]) (fun (o:List (Int×Int)) (k:Nat) u=>Hp M0 w0 Fo ([Au 268 2 u])) (fun (o:List (Int×Int)) (k:Nat)=>k≤z2.length∧o.length≤k) (fun (o:List (Int×Int)) (k:Nat)=>z2.length-k) ([]) (0) (.slice none 0 0) (⟨Nat.zero_le _,by simp⟩) ⟨ke rfl,⟨_,rfl,Bp rfl⟩,trivial⟩ (fun _ _ h=>h) ?_)))
 rintro o k u ⟨hk0,hol⟩
 refine ac ?_
 refine Tr.seq ?_
 refine Tr.cn rfl ?_ ?_<;>intro h1 q1
 have hk:k<z2.length:=AH h1
 obtain ⟨y,hy⟩:=at_ hk
 refine ac ?_
 refine Tr.seq (Tr.block (Tr.seq (Tr.Ap (tp rfl (AD rfl underlying331 CH (vl rfl) (vl rfl) AA (AZ hy)) (tp rfl (AM rfl C7 CH (vl rfl) rfl rfl) ?_)))))
 refine Tl rfl rfl rfl rfl Jt Fy (fun b1=> ?_)
 refine sf 0 10 ⟨rfl,rfl,rfl⟩ rfl rfl rfl rfl ?_
 refine ao ?_
 refine wk [21,20,19,10,8,7,4,3,2] rfl ?_
 refine a2 ?_
 refine Tr.block (Tr.BE _ (kk [26,25,21,20,19,10,8,7,4,3,2] rfl) (fun m:Nat=>[(27,int ((m:Nat):Int)),(11,ES)]) (fun m:Nat=>m≤(z1).length) (fun m:Nat=>(z1).length-m) 0 (Nat.zero_le _) ⟨ke rfl,⟨_,rfl,Ax _ Lr⟩,trivial⟩ ?_)
 rintro m NW
 refine Tr.ex 11 rfl fun x11=> ?_
 refine ac ?_
 refine wk [28,27,26,25,21,20,19,11,10,8,7,4,3,2] rfl (Tr.seq ?_)
 refine Tr.cn rfl ?_ ?_<;>intro h2 q2
 have Ee:m<(z1).length:=AH h2
 obtain ⟨w,Em⟩:=at_ Ee
 refine ac ?_
 refine wk [27,26,25,21,20,19,11,10,8,7,4,3,2] rfl (Tr.seq (Tr.block (Tr.seq (Tr.Ap (tp rfl (AD rfl underlying331 CH (vl rfl) (vl rfl) AA (AZ Em)) (tp rfl (AM rfl C7 CH (vl rfl) rfl rfl) ?_))))))
 refine Tl rfl rfl rfl rfl Jt Fy (fun b2=> ?_)
 refine sf 0 13 ⟨rfl,rfl,rfl⟩ rfl rfl rfl rfl ?_
 refine ao ?_
 · repeat' first|exact Fin.AO (m+1) ⟨Ee,by omega⟩ ⟨⟨_,rfl,AG m⟩,⟨_,rfl,Ax _ Lr⟩,kz⟩|refine cy h rfl (qW rfl (vl rfl) (vl rfl)) ?_|refine ac ?_|(refine Ch.cg rfl rfl rfl ?_ ?_<;>intro h q)
 have KV:m=(z1).length:=by have:=AJ h2;omega
 subst KV
 refine ac ?_
 refine wk [21,20,19,11,10,8,7,4,3,2] rfl ?_
 refine ag ?_ ?_<;>intro h4 q4
 refine ac ?_
 refine wk [50,21,20,19,10,8,7,4,3,2] rfl (Tr.cond rfl (fun _=> ?_) (fun h=>nomatch h))
 refine Tr.Ap (tm rfl (tp rfl (AM rfl C7 CH (vl rfl) rfl rfl) (tp rfl (AP (xs:=[.tmp 52]) (rows:=[_]) rfl rfl underlying331 CH Jt rfl AB ⟨⟨Ao,(Va rfl)⟩,trivial⟩ AB) ?_)))
 refine TO.Dl 0 rfl rfl AB (CB rfl rfl rfl rfl underlying331 CH dK Jt (Kb rfl) (Kf rfl) (BC BR (Ka rfl))) (fun v1=> ?_)
 refine ao ?_
 refine wk [21,20,19,8,7,4,3,2] rfl ?_
 refine ac ?_
 exact Fin.Bk (o++[(y.1,y.2)]) (k+1) v1 (⟨⟨by omega,by simp;omega⟩,by omega⟩) ⟨⟨_,rfl,AG k⟩,⟨_,rfl,BJ DQ⟩,kz⟩ (fun _ _ h=>h)
 refine ac ?_
 refine cy h4 rfl (CS (Kr ha) rfl rfl rfl) ?_
 refine ac ?_
 refine cy h4 rfl (CS (Kr hb) rfl rfl rfl) (cy h4 rfl (AM rfl C7 CH (vl rfl) rfl rfl) (cy h4 rfl (LV (aa ha.ss hb.ss) rfl rfl rfl rfl) (cy h4 rfl (JZ rfl (vl rfl)) ?_)))
 refine ac ?_
 refine wk [50,21,20,19,10,8,7,4,3,2] rfl (Tr.ex 50 rfl fun AHB=> ?_)
 refine Tr.cn rfl ?_ ?_<;>intro h5 q5
 refine ao ?_
 refine TO.Dl 0 rfl rfl AB (CB rfl rfl rfl rfl underlying331 CH dK Jt (Kb rfl) (Kf rfl) (BC BR (Ka rfl))) (fun v2=> ?_)
 refine ao ?_
 refine wk [21,20,19,8,7,4,3,2] rfl ?_
 refine ac ?_
 exact Fin.Bk (o++[(y.1,y.2)]) (k+1) v2 (⟨⟨by omega,by simp;omega⟩,by omega⟩) ⟨⟨_,rfl,AG k⟩,⟨_,rfl,BJ DQ⟩,kz⟩ (fun _ _ h=>h)
 refine a2 ?_
 exact Fin.Bk (o) (k+1) u (⟨⟨by omega,by omega⟩,by omega⟩) ⟨⟨_,rfl,AG k⟩,⟨_,rfl,BJ rfl⟩,kz⟩ (fun _ _ h=>h)
 have hk:=AJ h1
 refine a3 ?_
 · exact Pf
theorem jC {a b:Dn} {d:Int} (ha:a.fits) (hb:b.fits):BF prog 254 [agg (CM a),agg (CM b),Nk,SW,WL,int d] (Cp.ex fun z:List Int×Int=>fact (z.1.length≤1000) (Dy [ints z.1,int z.2])):=by
 refine fo func254 rfl ⟨rfl,rfl⟩ fun M0 w0=>(Tr.Hg 0 1 rfl rfl fun LG=> ?_)
 refine ac ?_
 refine ap ?_
 refine tp rfl (CS (jA ha hb) rfl rfl rfl) ?_
 refine TO.ex 20 rfl (fun z1=>TO.fact 20 rfl fun Eh=> ?_)
 refine ap ?_
 refine ac ?_
 refine wk [22,14,10,8,7,6,5,3] rfl ?_
 refine Tr.cn rfl ?_ ?_<;>intro h1 q1
 refine ac ?_
 refine Tr.ret (Fin.AE (Fin.Bc rfl (AL.tmp rfl Lr) (AL.tmp rfl Lr) ?_))
 · exact Qr
 obtain ⟨hAe,hBe,Sz⟩:=Eh (by have:=q1;omega)
 have h40:=(Fe.1 hAe).e40
 refine a2 ?_
 refine co rfl (LV (Ko) rfl rfl rfl rfl) ?_
 refine ac ?_
 refine Tr.seq (Tr.ex 15 rfl fun x15=> ?_)
 refine ac ?_
 refine wk [29,15,10,8,7,6,5,3] rfl ?_
 refine Tr.cn rfl ?_ ?_<;>intro h2 q2
 refine ac ?_
 refine Tr.ret (Fin.AE (Fin.Bc rfl (AL.tmp rfl Lr) (AL.tmp rfl Lr) ?_))
 · exact Qr
 refine a3 ?_
 refine Tr.block (Tr.CC 3 1 (Tr.DE _ (kk [33,10,8,7,6,5,3] rfl) (fun (o:List Int) (k:Nat) u=>[(34,int ((k:Nat):Int)),(16,Aa u (ints o))]) (fun (o:List Int) (k:Nat) u=>Hp M0 w0 Fo ([Au 3 1 u])) (fun (o:List Int) (k:Nat)=>k≤a.BX.length∧o.length≤k) (fun (o:List Int) (k:Nat)=>a.BX.length-k) ([]) (0) (.slice none 0 0) (⟨Nat.zero_le _,by simp⟩) ⟨kq,⟨_,rfl,Bp rfl⟩,trivial⟩ (fun _ _ h=>h) ?_))
 rintro o k u ⟨hk0,hol⟩
 refine ac ?_
 refine Tr.seq ?_
 refine Tr.cn rfl ?_ ?_<;>intro h3 q3
 have hk:k<a.BX.length:=AH h3
 obtain ⟨_,_,_,hea⟩:=qV (i:=((k:Nat):Int)) ha hAe AA AA
 obtain ⟨_,_,_,heb⟩:=qV (i:=((k:Nat):Int)) hb hBe AA AA
 refine a3 ?_
 refine co rfl (CS (Kr heb) rfl rfl rfl) ?_
 refine ac ?_
 refine co rfl (LV (WM hea heb) rfl rfl rfl rfl) ?_
 refine ac ?_
 refine co rfl (AV rfl (BF.outs fun z hz=>jB heb.ss hz) ⟨kq,kz⟩) (co rfl (Ae.Le 48 rfl AB fun z=>Ae.opf 48 rfl AB fun _=>Ae.le (Ci rfl underlying331 vq) (Ax _ Lr)) (co rfl (zj rfl (VL.le vq aX) (VL.le vq (DI _ _))) ?_))
 refine ac ?_
 refine wk [50,34,33,17,16,10,8,7,6,5,3] rfl (Tr.ex 50 rfl fun AHB=> ?_)
 refine Tr.cn rfl ?_ ?_<;>intro h4 q4
 refine ap ?_
 refine TO.Dl 0 rfl rfl AB (CB rfl rfl rfl rfl underlying22 Bs Iw z3 Iy Gn (BC BR KJ)) (fun v1=> ?_)
 refine ap ?_
 refine wk [34,33,16,10,8,7,6,5,3] rfl ?_
 refine ac ?_
 exact Fin.Bk (o++[((k:Nat):Int)]) (k+1) v1 (⟨⟨by omega,by simp;omega⟩,by omega⟩) ⟨⟨_,rfl,AG k⟩,⟨_,rfl,BJ DQ⟩,kz⟩ (fun _ _ h=>h)
 refine a2 ?_
 exact Fin.Bk (o) (k+1) u (⟨⟨by omega,by omega⟩,by omega⟩) ⟨⟨_,rfl,AG k⟩,⟨_,rfl,BJ rfl⟩,kz⟩ (fun _ _ h=>h)
 have hk:=AJ h3
 refine a2 ?_
 refine Tr.ret (Fin.Bc rfl (AL.tmp rfl Lr) (AL.tmp rfl Lr) ?_)
 · exact Y7
def HX (n:Nat) (m:Nat→Nat→Bool):List (List Bool):=(List.range n).map fun a=>(List.range n).map (m a)
theorem Is (n:Nat) (m:Nat→Nat→Bool):(HX n m).length=n:=by unfold HX;simp
theorem LO {n:Nat} (m:Nat→Nat→Bool) {a:Nat} (h:a<n):(HX n m)[a]? =some ((List.range n).map (m a)):=by
 unfold HX;rw [List.getElem?_map,List.getElem?_range h];rfl
theorem LP {n:Nat} (m:Nat→Bool) {b:Nat} (h:b<n):((List.range n).map m)[b]? =some (m b):=by
 rw [List.getElem?_map,List.getElem?_range h];rfl
theorem UP {n:Nat} {m m':Nat→Nat→Bool} (h:oa n m m'):HX n m=HX n m':=by
 unfold HX
 refine List.map_congr_left fun a ha=>List.map_congr_left fun b hb=>h a b (List.mem_range.1 ha) (List.mem_range.1 hb)
theorem qX {n:Nat} {m:Nat→Nat→Bool} {i j:Nat} (hi:i<n) (hj:j<n):(HX n m).set i (((List.range n).map (m i)).set j true)=HX n (V4 m i j):=by
 apply List.ext_getElem?
 intro a
 rw [List.getElem?_set]
 by_cases h:i=a
 ·
  subst h
  rw [if_pos rfl,if_pos (by rw [Is];exact hi),LO _ hi]
  congr 1
  apply List.ext_getElem?
  intro b
  rw [List.getElem?_set]
  by_cases h2:j=b
  ·
   subst h2
   rw [if_pos rfl,if_pos GZ,LP _ hj]
   unfold V4;rw [if_pos ⟨rfl,rfl⟩]
  ·
   rw [if_neg h2]
   rcases Nat.lt_or_ge b n with hb|hb
   · rw [LP _ hb,LP _ hb];unfold V4;rw [if_neg (fun h3=>h2 h3.2.symm)]
   · rw [List.getElem?_eq_none Fg,List.getElem?_eq_none Fg]
 ·
  rw [if_neg h]
  rcases Nat.lt_or_ge a n with ha|ha
  ·
   rw [LO _ ha,LO _ ha]
   congr 1
   refine List.map_congr_left fun b _=> ?_
   unfold V4;rw [if_neg (fun h3=>h h3.1.symm)]
  · rw [List.getElem?_eq_none (by rw [Is];exact ha),List.getElem?_eq_none (by rw [Is];exact ha)]
theorem af {l:List BH} {q:Nat} {r:BH} (h:l[q]? =some r) (h0:0≤r.fst) (h1:0≤r.thn):GA (l.take (q+1))=V4 (GA (l.take q)) r.fst.toNat r.thn.toNat:=by
 funext a b
 have e:l.take (q+1)=l.take q++[r]:=by rw [List.take_add_one,h];rfl
 unfold GA V4
 rw [e,List.any_append]
 by_cases hc:a=r.fst.toNat∧b=r.thn.toNat
 ·
  have h2:([r].any fun r=>decide (r.fst=(a:Int))&&decide (r.thn=(b:Int)))=true:=by simp;omega
  rw [if_pos hc,h2,Bool.or_true]
 ·
  have h2:([r].any fun r=>decide (r.fst=(a:Int))&&decide (r.thn=(b:Int)))=false:=by simp;omega
  rw [if_neg hc,h2,Bool.or_false]
theorem jD (n:Nat) (l:List BH):HX n (GA (l.take 0))=List.replicate n (List.replicate n false):=by
 unfold HX GA
 rw [List.eq_replicate_iff]
 refine ⟨by simp,fun b hb=> ?_⟩
 obtain ⟨a,_,rfl⟩:=List.mem_map.1 hb
 rw [List.eq_replicate_iff]
 refine ⟨by simp,fun c hc=> ?_⟩
 obtain ⟨d,_,rfl⟩:=List.mem_map.1 hc
 simp
abbrev slv (n:Nat) (x:Nat×List Bool):Value:=Js n x.1
abbrev AHC (n:Nat) (m:Nat→Nat→Bool):Pr:=slice 1 ((HX n m).map fun row=>[slice 1 (row.map fun b=>[bool b])])
theorem Oc {n:Nat} {m:Nat→Nat→Bool} {X:List (Nat×List Bool)} {a:Nat} {x:Nat×List Bool} (hX:X.map (·.2)=HX n m) (hx:X[a]? =some x) (ha:a<n):x.2=(List.range n).map (m a):=by
 have h:=congrArg (fun l=>l[a]?) hX
 simp only [List.getElem?_map,hx,Option.map_some] at h
 rw [LO m ha] at h
 simpa using h
theorem fG {n:Nat} {m:Nat→Nat→Bool} {X:List (Nat×List Bool)} {i j:Nat} {x:Nat×List Bool} (hX:X.map (·.2)=HX n m) (hx:X[i]? =some x) (hi:i<n) (hj:j<n):(X.set i (x.1,x.2.set j true)).map (·.2)=HX n (V4 m i j):=by
 rw [List.map_set,hX,Oc hX hx hi];exact qX hi hj
theorem fH {e:TypeId} {X:List (Nat×List Bool)} {k:Nat} {x:Nat×List Bool} (h:X[k]? =some x):(He (HW e) X)[k]? =some (AF true x.1 e (x.2.map fun b=>bool b)):=ez (f:=fun x:Nat×List Bool=>AF true x.1 e (x.2.map fun b=>bool b)) h
theorem qY {n:Nat} {m:Nat→Nat→Bool} {X:List (Nat×List Bool)} {a c:Nat} {x:Nat×List Bool} (hX:X.map (·.2)=HX n m) (hx:X[a]? =some x) {v:Bool} (ha:a<n) (hc:c<n) (hv:m a c=v):(x.2.map fun b=>bool b)[0+c*1]? =some (bool v):=by
 subst hv
 rw [Oc hX hx ha,Nat.zero_add,Nat.mul_one,List.getElem?_map,LP _ hc];rfl
theorem qZ {n:Nat} {m:Nat→Nat→Bool} {X:List (Nat×List Bool)} (hX:X.map (·.2)=HX n m):∀x∈X,x.2.length=n:=fun x hx=>by
 obtain ⟨i,hi⟩:=List.mem_iff_getElem?.1 hx
 have hl:i<n:=by
  have h:=congrArg List.length hX
  rw [List.length_map,Is] at h
  rcases Nat.lt_or_ge i X.length with h'|h'
  · omega
  · rw [List.getElem?_eq_none h'] at hi;cases hi
 rw [Oc hX hi hl,List.length_map,List.length_range]
theorem qa {n:Nat} {m:Nat→Nat→Bool} {X:List (Nat×List Bool)} (hX:X.map (·.2)=HX n m):(X.map fun x=>[slice 1 (x.2.map fun b=>[bool b])])=(HX n m).map fun row=>[slice 1 (row.map fun b=>[bool b])]:=by rw [←hX,List.map_map];rfl
theorem fI {l:List Bool} {j:Nat} (h:j<l.length):List.take (0+j*1) (l.map fun b=>bool b)++[is (Value.bool true)]++List.drop (0+j*1+1) (l.map fun b=>bool b)=(l.set j true).map fun b=>bool b:=by
 rw [List.map_set,List.set_eq_take_append_cons_drop,if_pos Dz];simp
theorem SX {X:List (Nat×List Bool)} {bs:List Nat} {i:Nat} {x:Nat×List Bool} (h:X.map (·.1)=bs) (hx:X[i]? =some x):bs[i]? =some x.1:=by rw [←h,List.getElem?_map,hx];rfl
theorem fJ {X:List (Nat×List Bool)} {bs:List Nat} {i:Nat} {x:Nat×List Bool} {r:List Bool} (h:X.map (·.1)=bs) (hx:X[i]? =some x):(X.set i (x.1,r)).map (·.1)=bs:=by
 have hb:=SX h hx
 rw [List.map_set,h]
 apply List.ext_getElem?
 intro k
 rw [List.getElem?_set]
 split
 · rename_i e;subst e;rw [if_pos (by rcases Nat.lt_or_ge i bs.length with h'|h';exact h';rw [List.getElem?_eq_none h'] at hb;cases hb),hb]
 · rfl
theorem UQ {n:Nat} {l:List BH} (hn:n≤24) (hl:l.length≤1000000) (hr:∀r∈l,(0≤r.fst∧r.fst<(n:Nat))∧0≤r.thn∧r.thn<(n:Nat)):BF prog 116 [int ((n:Nat):Int),reqs l] (AHC n (C8 l n)):=by
 refine fo func116 rfl ⟨rfl,rfl⟩ fun M0 w0=> ?_
 refine a3 ?_
 refine Tr.block (Tr.CC 160 1 (Tr.DE _ (kk [11,1,0] rfl) (fun (X:List (Nat×List Bool)) (k:Nat) u=>[(12,int ((k:Nat):Int)),(5,Aa u (slice 1 (X.map fun x=>[is (slv n x)])))]) (fun (X:List (Nat×List Bool)) (k:Nat) u=>Hp M0 w0 Fo (Au 160 1 u::He (HW 4) X)) (fun (X:List (Nat×List Bool)) (k:Nat)=>(k≤n∧X.length=k)∧X.map (·.2)=List.replicate k (List.replicate n false)) (fun (X:List (Nat×List Bool)) (k:Nat)=>n-k) ([]) (0) (.slice none 0 0) (⟨⟨Nat.zero_le _,rfl⟩,rfl⟩) ⟨kq,⟨_,rfl,Bp rfl⟩,trivial⟩ (fun _ _ h=>h) ?_))
 rintro X k u ⟨⟨hkn,hXl⟩,hX⟩
 refine ac ?_
 refine Tr.seq ?_
 refine Tr.cn rfl ?_ ?_<;>intro h1 q1
 have hk:k<n:=AH h1
 refine ac ?_
 refine ao ?_
 refine TO.VK rfl rfl AB rfl underlying160 Tp by4 z4 rfl vq vq GF AA (fun b1=> ?_)
 refine tp rfl (AP (xs:=[.tmp 16]) (rows:=[[is (Js n b1)]]) rfl rfl underlying158 Ow z160 rfl AB ⟨⟨Ao,VL.le vq (Ad _)⟩,trivial⟩ AB) ?_
 refine TO.Dl 1 rfl rfl AB (CB rfl rfl rfl rfl underlying158 Ow ABu z160 Iy Gn (BC BR KJ)) (fun v1=> ?_)
 refine ao ?_
 refine ac ?_
 refine Fin.eqC 0 ((List.replicate n false).map fun b=>bool b) rfl pq (Fin.fold (res:=HW 4) [_] (b1,List.replicate n false) rfl ?_)
 exact Fin.Bk (X++[(b1,List.replicate n false)]) (k+1) v1 (⟨⟨⟨by omega,by simp;omega⟩,by rw [List.map_append,hX,List.replicate_succ'];rfl⟩,by omega⟩) ⟨⟨_,rfl,AG k⟩,⟨_,rfl,BJ DQ⟩,kz⟩ (fun _ _ h=>h)
 have hk:=AJ h1
 refine a2 ?_
 refine Tr.block ?_
 obtain ⟨bs,hbs⟩:∃bs,X.map (·.1)=bs:=⟨_,rfl⟩
 refine Tr.re 5 rfl (Pr.le_trans (As _ _) (Pr.le_of_eq (show _=slice 1 (bs.map fun b=>[is (Js n b)]) by rw [←hbs,List.map_map];rfl))) ?_
 refine Tr.drop 0 (Tr.Cy _ (kk [21,20,5,0] rfl) (fun (X1:List (Nat×List Bool)) (q:Nat)=>[(22,int ((q:Nat):Int))]) (fun (X1:List (Nat×List Bool)) (q:Nat)=>Hp M0 w0 Fo (He (HW 4) X1)) (fun (X1:List (Nat×List Bool)) (q:Nat)=>q≤l.length∧(X1.map (·.1)=bs∧X1.map (·.2)=HX n (GA (l.take q)))) (fun (X1:List (Nat×List Bool)) (q:Nat)=>l.length-q) (X) (0)  (⟨Nat.zero_le _,hbs,by rw [hX,jD,show k=n by omega]⟩) kz (fun _ _ h=>h) ?_)
 rintro X1 q  ⟨hq0,PL,hX1⟩
 refine ac ?_
 refine Tr.seq ?_
 refine Tr.cn rfl ?_ ?_<;>intro h2 q2
 have hq:q<l.length:=AH h2
 obtain ⟨r,hrq⟩:=at_ hq
 have jE:=hr r (List.mem_of_getElem? hrq)
 have AIT:X1.length=n:=by have:=congrArg List.length hX1;rw [List.length_map,Is] at this;exact this
 obtain ⟨x,hx⟩:=at_ (l:=X1) (k:=r.fst.toNat) AA
 have hxl:x.2.length=n:=by rw [Oc hX1 hx AA,List.length_map,List.length_range]
 refine ac ?_
 refine Tr.seq (Tr.block (Tr.seq (Tr.Ap (tp rfl (AD rfl underlying33 C2 vq vq AA (AZ hrq)) (tp rfl (AM rfl Fx C2 vq rfl rfl) ?_)))))
 refine Tl rfl rfl rfl rfl Sv RH (fun b2=> ?_)
 refine sf 0 7 ⟨rfl,rfl,rfl⟩ rfl rfl rfl rfl ?_
 refine ao ?_
 refine Tr.focus [] hx rfl (Tr.rx ?_)
 refine ay ?_
 refine xo rfl (fun _=>AD rfl underlying158 Ow vq vq AA (Bf (SX PL hx))) ?_
 refine ay ?_
 refine xo rfl (fun _=>BL rfl underlying160 Tp vq vq AA AA) ?_
 refine Cx.DG 0 rfl rfl (Aw rfl rfl vq Lj Tp rfl C1 rfl) ?_
 refine Cx.nil ⟨by kernel_rfl,?_⟩
 refine BI.done al1 ?_
 refine ac ?_
 refine wk [22,21,20,5,0] rfl ?_
 refine ac ?_
 refine Fin.eqC 0 ((x.2.set r.thn.toNat true).map fun b=>bool b) rfl (fI AA) (Fin.Vc (res:=HW 4) [] (x.1,x.2.set r.thn.toNat true) (show r.fst.toNat<X1.length by omega) rfl ?_)
 exact Fin.Cu (X1.set r.fst.toNat (x.1,x.2.set r.thn.toNat true)) (q+1)  (⟨⟨by omega,fJ PL hx,by rw [af hrq jE.1.1 jE.2.1];exact fG hX1 hx AA AA⟩,by omega⟩) ⟨⟨_,rfl,AG q⟩,kz⟩ (fun _ _ h=>h)
 have hq:=AJ h2
 refine a2 ?_
 refine Tr.block ?_
 refine Tr.Cy _ (kk [35,5,0] rfl) (fun (X2:List (Nat×List Bool)) (k2:Nat)=>[(36,int ((k2:Nat):Int))]) (fun (X2:List (Nat×List Bool)) (k2:Nat)=>Hp M0 w0 Fo (He (HW 4) X2)) (fun (X2:List (Nat×List Bool)) (k2:Nat)=>k2≤n∧(X2.map (·.1)=bs∧X2.map (·.2)=HX n (C8 l k2))) (fun (X2:List (Nat×List Bool)) (k2:Nat)=>n-k2) (X1) (0)  (⟨Nat.zero_le _,PL,by rw [hX1,List.take_of_length_le hq];rfl⟩) kz (fun _ _ h=>h) ?_
 rintro X2 k2  ⟨hk2,Ta,hX2⟩
 refine ac ?_
 refine Tr.seq ?_
 refine Tr.cn rfl ?_ ?_<;>intro h3 q3
 have AIU:k2<n:=AH h3
 refine a3 ?_
 refine Tr.block ?_
 refine Tr.Cy _ (kk [39,36,35,8,5,0] rfl) (fun (X3:List (Nat×List Bool)) (i:Nat)=>[(40,int ((i:Nat):Int))]) (fun (X3:List (Nat×List Bool)) (i:Nat)=>Hp M0 w0 Fo (He (HW 4) X3)) (fun (X3:List (Nat×List Bool)) (i:Nat)=>i≤n∧(X3.map (·.1)=bs∧X3.map (·.2)=HX n (JS k2 (C8 l k2) i 0))) (fun (X3:List (Nat×List Bool)) (i:Nat)=>n-i) (X2) (0)  (⟨Nat.zero_le _,Ta,by rw [ADi];exact hX2⟩) kz (fun _ _ h=>h) ?_
 rintro X3 i  ⟨hi0,hb3,hX3⟩
 refine ac ?_
 refine Tr.seq ?_
 refine Tr.cn rfl ?_ ?_<;>intro h4 q4
 have F6:i<n:=AH h4
 refine a3 ?_
 refine Tr.block (Tr.Cy _ (kk [43,40,39,36,35,9,8,5,0] rfl) (fun (X4:List (Nat×List Bool)) (j:Nat)=>[(44,int ((j:Nat):Int))]) (fun (X4:List (Nat×List Bool)) (j:Nat)=>Hp M0 w0 Fo (He (HW 4) X4)) (fun (X4:List (Nat×List Bool)) (j:Nat)=>j≤n∧(X4.map (·.1)=bs∧X4.map (·.2)=HX n (JS k2 (C8 l k2) i j))) (fun (X4:List (Nat×List Bool)) (j:Nat)=>n-j) (X3) (0)  (⟨Nat.zero_le _,hb3,hX3⟩) kz (fun _ _ h=>h) ?_)
 rintro X4 j  ⟨hj0,hb4,hX4⟩
 refine ac ?_
 refine Tr.seq ?_
 refine Tr.cn rfl ?_ ?_<;>intro h5 q5
 have hjl:j<n:=AH h5
 have AIV:X4.length=n:=by have:=congrArg List.length hX4;rw [List.length_map,Is] at this;exact this
 obtain ⟨xi,hxi⟩:=at_ (l:=X4) (k:=i) AA
 obtain ⟨xk,hxk⟩:=at_ (l:=X4) (k:=k2) AA
 have AIW:xi.2.length=n:=by rw [Oc hX4 hxi AA,List.length_map,List.length_range]
 have AIX:xk.2.length=n:=by rw [Oc hX4 hxk AA,List.length_map,List.length_range]
 refine a3 ?_
 refine co rfl (AD rfl underlying158 Ow vq vq AA (AZ (SX hb4 hxi))) ?_
 refine ac ?_
 refine co rfl (BL rfl underlying160 Tp vq vq AA AA) ?_
 refine co rfl (CN i (fH hxi) (A_ rfl XA vq (qY (c:=k2) hX4 hxi AA AA (uj k2 (C8 l k2) i j i)))) ?_
 refine cm rfl ?_
 refine Ch.cs 54 rfl ?_ ?_<;>intro h6 q6
 refine ac ?_
 refine cy h6 rfl (AD rfl underlying158 Ow vq vq AA (AZ (SX hb4 hxk))) ?_
 refine ac ?_
 refine cy h6 rfl (BL rfl underlying160 Tp vq vq AA AA) ?_
 refine cy h6 rfl (CN k2 (fH hxk) (A_ rfl XA vq (qY (c:=j) hX4 hxk AA AA (uk k2 (C8 l k2) i j j)))) ?_
 refine ac ?_
 refine wk [62,44,43,40,39,36,35,10,9,8,5,0] rfl ?_
 refine Tr.cn rfl ?_ ?_<;>intro h7 q7
 refine Tr.focus [] hxi rfl ?_
 refine ao ?_
 refine tp rfl (AD rfl underlying158 Ow vq vq AA (AZ (SX hb4 hxi))) ?_
 refine ao ?_
 refine tp rfl (BL rfl underlying160 Tp vq vq AA AA) ?_
 refine TO.DG 0 rfl rfl (Aw rfl rfl vq Lj Tp rfl C1 rfl) ?_
 refine ao ?_
 refine wk [44,43,40,39,36,35,9,8,5,0] rfl ?_
 refine ac ?_
 refine Fin.eqC 0 ((xi.2.set j true).map fun b=>bool b) rfl (fI AA) (Fin.Vc (res:=HW 4) [] (xi.1,xi.2.set j true) (show i<X4.length by omega) rfl ?_)
 exact Fin.Cu (X4.set i (xi.1,xi.2.set j true)) (j+1)  (⟨⟨by omega,fJ hb4 hxi,(by rw [←um Bi Bi];exact fG hX4 hxi AA AA)⟩,by omega⟩) ⟨⟨_,rfl,AG j⟩,kz⟩ (fun _ _ h=>h)
 refine a2 ?_
 exact Fin.Cu (X4) (j+1)  (⟨⟨by omega,hb4,(by rw [←oZ Br];exact hX4)⟩,by omega⟩) ⟨⟨_,rfl,AG j⟩,kz⟩ (fun _ _ h=>h)
 refine ac ?_
 refine wk [62,44,43,40,39,36,35,10,9,8,5,0] rfl ?_
 refine a2 ?_
 exact Fin.Cu (X4) (j+1)  (⟨⟨by omega,hb4,(by rw [←oZ Br];exact hX4)⟩,by omega⟩) ⟨⟨_,rfl,AG j⟩,kz⟩ (fun _ _ h=>h)
 have hje:=AJ h5
 refine a2 ?_
 exact Fin.Cu (X4) (i+1)  (⟨⟨by omega,hb4,by rw [hX4,show j=n by omega];exact UP og⟩,by omega⟩) ⟨⟨_,rfl,AG i⟩,kz⟩ (fun _ _ h=>h)
 have hie:=AJ h4
 refine a2 ?_
 exact Fin.Cu (X3) (k2+1)  (⟨⟨by omega,hb3,by rw [hX3,show i=n by omega];exact UP uo⟩,by omega⟩) ⟨⟨_,rfl,AG k2⟩,kz⟩ (fun _ _ h=>h)
 have AIY:=AJ h3
 refine ac ?_
 refine Tr.seq ?_
 have AHD:k2=n:=by omega
 refine Tr.vI (m:=n) (X:=X2) [] 5 rfl GF (qZ hX2) rfl (Pr.le_of_eq (by rw [←Ta,List.map_map];rfl)) ?_
 refine Tr.drop 0 ?_
 refine a2 ?_
 · subst AHD;exact Pr.le_of_eq (congrArg (slice 1) (qa hX2))
theorem ah {n:Int} {l:List BH} (hl:l.length≤1000000):BF prog 144 [int n,reqs l] (int (BD n l)):=by
 refine fo func144 rfl ⟨rfl,rfl⟩ fun M0 w0=>(Tr.Cl 1 rfl fun F0=> ?_)
 refine ac ?_
 refine ag ?_ ?_<;>intro h1 q1
 refine a3 ?_
 · exact int_eq (LM AA).symm
 refine an ?_ ?_<;>intro h2 q2
 refine a2 ?_
 · exact int_eq (LM AA).symm
 obtain ⟨N,rfl⟩:∃N:Nat,n=(N:Int):=⟨n.toNat,by omega⟩
 refine a2 ?_
 refine Tr.block (Tr.BE _ (kk [17,16,1,0] rfl) (fun k:Nat=>[(18,int ((k:Nat):Int))]) (fun k:Nat=>k≤(l).length∧(∀j y,j<k→l[j]? =some y→Fa N y=false)) (fun k:Nat=>(l).length-k) 0 (⟨Nat.zero_le _,fun j y hj=>absurd hj AA⟩) kz ?_)
 rintro k ⟨BT,AX⟩
 refine ac ?_
 refine Tr.seq ?_
 refine Tr.cn rfl ?_ ?_<;>intro h3 q3
 have Ai:k<(l).length:=AH h3
 obtain ⟨r,Ah⟩:=at_ Ai
 refine ac ?_
 refine Tr.seq (Tr.block (Tr.seq (Tr.Ap (tp rfl (AD rfl underlying33 C2 vq vq AA (AZ Ah)) (tp rfl (AM rfl Fx C2 vq rfl rfl) ?_)))))
 refine Tl rfl rfl rfl rfl Sv RH (fun b1=> ?_)
 refine sf 0 6 ⟨rfl,rfl,rfl⟩ rfl rfl rfl rfl ?_
 refine ao ?_
 · repeat' first|(exact int_eq (Qo AA Ah xJ).symm)|(exact Fin.AO (k+1) ⟨⟨Ai,Db (p:=Fa N) Ah cN AX⟩,by omega⟩ ⟨⟨_,rfl,AG k⟩,kz⟩)|refine ac ?_|(refine Tr.cn rfl ?_ ?_<;>intro h q)|(refine Ch.cg rfl rfl rfl ?_ ?_<;>intro h q)
 have BP:k=(l).length:=by have:=AJ h3;omega
 subst BP
 have hbs:=eu AX
 have jE:∀r∈l,(0≤r.fst∧r.fst<(N:Nat))∧0≤r.thn∧r.thn<(N:Nat):=fun r hr=>by
  have h_:=hbs r hr
  unfold Fa at h_;rw [decide_eq_false_iff_not] at h_;omega
 refine a2 ?_
 refine Tr.block (Tr.M8 _ (kk [1,0] rfl) (fun (i:Nat)=>[(7,int ((i:Nat):Int))]) (fun (i:Nat)=>Hp M0 w0 Fo ([])) (fun (i:Nat)=>(1≤i∧(i≤l.length∨i=1))∧∀(j:Nat) a b,j+1<i→l[j]? =some a→l[j+1]? =some b→Ey a b=true) (fun (i:Nat)=>l.length-i) (1)  (⟨⟨by omega,.inr rfl⟩,fun j a b hj=>absurd hj AA⟩) kz (fun _ _ h=>h) ?_)
 rintro i  ⟨⟨hi1,hi2⟩,hso⟩
 refine an ?_ ?_<;>intro h9 q9
 have F6:i<l.length:=AH h9
 obtain ⟨x,hx⟩:=at_ F6
 obtain ⟨y,hy⟩:=at_ (l:=l) (k:=i-1) AA
 · repeat' first|exact int_eq (V9 AA hbs AA hy hx Br).symm|(exact Fin.M9 (i+1)  (⟨⟨⟨by omega,.inl AA⟩,Kl hx (fun z _ hz=>by rw [hy] at hz;cases hz;simp_all) hso⟩,by omega⟩) ⟨⟨_,rfl,AG i⟩,kz⟩ (fun _ _ h=>h))|(refine co rfl (AD rfl underlying33 C2 vq vq AA bz) ?_)|refine co rfl (AD rfl underlying33 C2 vq vq AA (AZ hx)) (co rfl (AM rfl Fx C2 vq rfl rfl) (co rfl (CS (UB) rfl rfl rfl) ?_))|refine ac ?_|(refine Tr.cn rfl ?_ ?_<;>intro h q)
 have hie:=AJ h9
 have hsr:D_ l=true:=SL fun j a b hj=>hso j a b AA
 refine a2 ?_
 refine co rfl (CS (UQ (n:=N) (l:=l) AA hl jE) rfl rfl rfl) ?_
 refine a2 ?_
 refine Tr.block (Tr.M8 _ (kk [70,8] rfl) (fun (m:Nat)=>[(71,int ((m:Nat):Int))]) (fun (m:Nat)=>Hp M0 w0 Fo ([])) (fun (m:Nat)=>m≤N∧∀i,i<m→C8 l N i i=false) (fun (m:Nat)=>N-m) (0)  (⟨Nat.zero_le _,fun i hi=>absurd hi AA⟩) kz (fun _ _ h=>h) ?_)
 rintro m  ⟨hm0,hwn⟩
 refine ac ?_
 refine Tr.seq ?_
 refine Tr.cn rfl ?_ ?_<;>intro h11 Ty
 have hm:m<N:=AH h11
 · repeat' first|exact int_eq (SK AA hbs hsr hm Bi).symm|(exact Fin.M9 (m+1)  (⟨⟨by omega,fun i hi=>by rcases Nat.lt_or_eq_of_le (Nat.le_of_lt_succ hi) with h_|h_;exact hwn i h_;(subst h_;assumption)⟩,by omega⟩) ⟨⟨_,rfl,AG m⟩,kz⟩ (fun _ _ h=>h))|refine co rfl (AD rfl underlying158 Ow vq vq AA (AZ (LO _ hm))) ?_|refine co rfl (AD rfl underlying160 Tp vq vq AA (AZ (LP _ hm))) ?_|refine ac ?_|(refine Tr.cn rfl ?_ ?_<;>intro h q)
 have hme:=AJ h11
 refine a3 ?_
 · exact int_eq (V_ AA hbs hsr fun i hi=>hwn i AA).symm
theorem Ja {n:Int} {l:List BH} (hl:l.length≤1000000):BF prog 81 [int n,reqs l] (int (BD n l)):=by
 refine fo func81 rfl ⟨rfl,rfl⟩ fun M0 w0=> ?_
 refine a2 ?_
 refine co rfl (CS (ah hl) rfl rfl rfl) ?_
 refine a2 ?_
 · exact Lr
theorem Od {a b:List Int} (hab:a.length≤b.length):BF prog 298 [ints a,ints b] (ES):=by
 refine fo func298 rfl ⟨rfl,rfl⟩ fun M0 w0=>(Tr.Cl 0 rfl fun EH=>(Tr.Cl 1 rfl fun F0=> ?_))
 refine a2 ?_
 refine Tr.block (Tr.BE _ (kk [7,1,0] rfl) (fun k:Nat=>[(8,int ((k:Nat):Int))]) (fun k:Nat=>k≤(a).length) (fun k:Nat=>(a).length-k) 0 (Nat.zero_le _) kz ?_)
 rintro k BT
 refine ac ?_
 refine Tr.seq ?_
 refine Tr.cn rfl ?_ ?_<;>intro h1 q1
 have Ai:k<(a).length:=AH h1
 obtain ⟨x,Ah⟩:=at_ Ai
 obtain ⟨y,hy⟩:=at_ (l:=b) (k:=k) AA
 · repeat' first|exact Ax _ Lr|exact Fin.AO (k+1) ⟨Ai,by omega⟩ ⟨⟨_,rfl,AG k⟩,kz⟩|refine co rfl (AD rfl underlying51 Bs vq vq AA (AZ Ah)) ?_|refine co rfl (AD rfl underlying51 Bs vq vq AA (AZ hy)) ?_|refine ac ?_|(refine Tr.cn rfl ?_ ?_<;>intro h q)
 have BP:k=(a).length:=by have:=AJ h1;omega
 refine a3 ?_
 · exact BN
theorem UR {a b:List Int}  :BF prog 281 [ints a,ints b] (ES):=by
 refine fo func281 rfl ⟨rfl,rfl⟩ fun M0 w0=>(Tr.Cl 0 rfl fun EH=>(Tr.Cl 1 rfl fun F0=> ?_))
 refine ac ?_
 refine ap ?_
 refine TO.cases 10 rfl (fun h1=> ?_) (fun h1=> ?_)
 have q1:=DH.Dp h1
 refine TO.HP rfl rfl rfl h1 rfl AB (BQ rfl vq) (TO.HP rfl rfl rfl h1 rfl AB (BQ rfl vq) (TO.HP rfl rfl rfl h1 rfl AB (CS (Od AA) rfl rfl rfl) (TO.ex 13 rfl fun z13=>(TO.HP rfl rfl rfl h1 rfl AB (Fp rfl vq) ?_))))
 refine ap ?_
 refine TO.cases 16 rfl (fun h2=> ?_) (fun h2=> ?_)
 have q2:=DH.Dp h2
 refine TO.HP rfl rfl rfl h2 rfl AB (BQ rfl vq) (TO.HP rfl rfl rfl h2 rfl AB (BQ rfl vq) (TO.HP rfl rfl rfl h2 rfl AB (CS (Od AA) rfl rfl rfl) (TO.ex 19 rfl fun z19=>(TO.HP rfl rfl rfl h2 rfl AB (Fp rfl vq) ?_))))
 refine ap ?_
 refine wk [4] rfl ?_
 refine ac ?_
 · exact BN
 have q2:=DH.Dp h2
 iterate 4 refine TO.Rc rfl rfl rfl (Bg h2) rfl AB ?_
 refine ap ?_
 refine wk [4] rfl ?_
 refine ac ?_
 · exact BN
 have q1:=DH.Dp h1
 iterate 4 refine TO.Rc rfl rfl rfl (Bg h1) rfl AB ?_
 refine ap ?_
 iterate 4 refine TO.Rc rfl rfl rfl (Bg rfl) rfl AB ?_
 refine ap ?_
 refine wk [4] rfl ?_
 refine ac ?_
 · exact BN
theorem WN {a b:List Int}  :BF prog 252 [ints a,ints b] (ES):=by
 refine fo func252 rfl ⟨rfl,rfl⟩ fun M0 w0=> ?_
 refine a2 ?_
 refine co rfl (CS (UR) rfl rfl rfl) ?_
 refine a2 ?_
 · exact Lr
abbrev sets (l:List (List Int)):Pr:=slice 1 (l.map fun s=>[ints s])
structure vS (l:List (List Int)) (s:List Int) (z:List (List Int)):Prop where
 mem:∀x∈z,x∈l∨x=s
 le:z.length≤l.length+1
 ge:l.length≤z.length
theorem rT {l:List (List Int)} {s:List Int} {k:Nat} (hk:k≤l.length):vS l s (l.take k++[s]++l.drop k):=by
 refine ⟨fun x hx=> ?_,by simp;omega,by simp;omega⟩
 simp only [List.mem_append,List.mem_singleton] at hx
 rcases hx with (hx|hx)|hx
 · exact .inl (List.mem_of_mem_take hx)
 · exact .inr hx
 · exact .inl (List.mem_of_mem_drop hx)
theorem vT {lo hi:Nat} (h:lo+hi≤1000000):IntKind.i64.wrap (((lo:Int)+(hi:Int)).tdiv 2)=(((lo+hi)/2:Nat):Int):=by
 rw [Int.tdiv_eq_ediv_of_nonneg AA,G5 K4];omega
theorem vU {l:List (List Int)} {s:List Int}:vS l s l:=⟨fun x hx=> .inl hx,by omega,by omega⟩
theorem qb {l:List (List Int)} {s:List Int} (hl:l.length≤100000) (hs:∀x∈l,x.length=s.length):BF prog 297 [sets l,ints s] (Cp.ex fun z:List (List Int)=>fact (vS l s z) (sets z)):=by
 refine fo func297 rfl ⟨rfl,rfl⟩ fun M0 w0=>(Tr.Cl 0 rfl fun EH=> ?_)
 have hml:(l.map fun s=>[ints s]).length=l.length:=List.length_map _
 refine a2 ?_
 refine Tr.seq (Tr.block (Tr.Cy _ (kk [1,0] rfl) (fun (lo:Nat) (hi:Nat)=>[(5,int ((lo:Nat):Int)),(6,int ((hi:Nat):Int))]) (fun (lo:Nat) (hi:Nat)=>Hp M0 w0 Fo ([])) (fun (lo:Nat) (hi:Nat)=>lo≤hi∧hi≤l.length) (fun (lo:Nat) (hi:Nat)=>hi-lo) (0) (l.length)  (⟨Nat.zero_le _,Nat.le_refl _⟩) ⟨kq,kz⟩ (fun _ _ h=>h) ?_))
 rintro lo hi  ⟨hlh,hhl⟩
 refine an ?_ ?_<;>intro h1 q1
 have hlt:lo<hi:=AH h1
 obtain ⟨x,hx⟩:=at_ (l:=l) (k:=(lo+hi)/2) AA
 have hxs:=hs x (List.mem_of_getElem? hx)
 refine a2 ?_
 refine co rfl (Uf rfl vq vq AA) ?_
 refine ac ?_
 refine Tr.seq (Tr.re 7 rfl (int_eq (vT AA)) ?_)
 refine ac ?_
 refine co rfl (AD rfl underlying99 G6 vq vq AA (AZ hx)) ?_
 refine ac ?_
 refine co rfl (CS (Od AA) rfl rfl rfl) ?_
 refine ac ?_
 refine wk [23,7,6,5,1,0] rfl (Tr.ex 23 rfl fun AIZ=> ?_)
 refine Tr.cn rfl ?_ ?_<;>intro h2 q2
 refine ac ?_
 exact Fin.Cu (((lo+hi)/2+1)) (hi)  (⟨⟨by omega,by omega⟩,by omega⟩) ⟨kq,kz⟩ (fun _ _ h=>h)
 refine ac ?_
 exact Fin.Cu (lo) (((lo+hi)/2))  (⟨⟨by omega,by omega⟩,by omega⟩) ⟨kq,kz⟩ (fun _ _ h=>h)
 have hge:=AJ h1
 refine ac ?_
 refine ap ?_
 refine TO.cases 31 rfl (fun h3=> ?_) (fun h3=> ?_)
 have q3:=DH.Dp h3
 obtain ⟨x2,hx2⟩:=at_ (l:=l) (k:=lo) AA
 refine TO.HP rfl rfl rfl h3 rfl AB (BQ rfl vq) (TO.HP rfl rfl rfl h3 rfl AB (BQ rfl vq) (TO.HP rfl rfl rfl h3 rfl AB (AD rfl underlying99 G6 vq vq AA (AZ hx2)) (TO.HP rfl rfl rfl h3 rfl AB (F5 rfl dG rfl) (TO.HP rfl rfl rfl h3 rfl AB (BQ rfl vq) (TO.HP rfl rfl rfl h3 rfl AB (CS (UR) rfl rfl rfl) (TO.ex 37 rfl fun z37=> ?_))))))
 refine ap ?_
 refine wk [38,5,1,0] rfl ?_
 refine Tr.cn rfl ?_ ?_<;>intro h4 q4
 refine a2 ?_
 · exact Ax _ (BB vU Lr)
 refine ac ?_
 refine ap ?_
 refine tp rfl (D6 rfl underlying99 G6 vq vq AA AA) (TO.pad ?_)
 refine TO.Dl 0 rfl rfl AB (EZ rfl rfl AB rfl underlying99 G6 XB z51 rfl AB ⟨_,rfl,AQ _⟩ vq J4 J6 (Bv BR ⟨_,rfl,DT 1⟩)) (fun v1=> ?_)
 refine ap ?_
 refine ap ?_
 refine TO.Dl 0 rfl rfl AB (CB rfl rfl rfl rfl underlying99 G6 XB z51 Iy Gn (BC BR KJ)) (fun v2=> ?_)
 refine ap ?_
 refine wk [8,5,0] rfl ?_
 refine ap ?_
 refine tp rfl (Dt rfl underlying99 G6 vq vq AA AA) ?_
 refine TO.Dl 0 rfl rfl AB (CB rfl rfl rfl rfl underlying99 G6 XB z51 Iy vq (BC BR KJ)) (fun v3=> ?_)
 refine ap ?_
 refine ac ?_
 · exact kJ
 have q3:=DH.Dp h3
 iterate 6 refine TO.Rc rfl rfl rfl (Bg h3) rfl AB ?_
 refine ap ?_
 refine wk [38,5,1,0] rfl ?_
 refine ac ?_
 refine ap ?_
 refine tp rfl (D6 rfl underlying99 G6 vq vq AA AA) (TO.pad ?_)
 refine TO.Dl 0 rfl rfl AB (EZ rfl rfl AB rfl underlying99 G6 XB z51 rfl AB ⟨_,rfl,AQ _⟩ vq J4 J6 (Bv BR ⟨_,rfl,DT 1⟩)) (fun v4=> ?_)
 refine ap ?_
 refine ap ?_
 refine TO.Dl 0 rfl rfl AB (CB rfl rfl rfl rfl underlying99 G6 XB z51 Iy Gn (BC BR KJ)) (fun v5=> ?_)
 refine ap ?_
 refine wk [8,5,0] rfl ?_
 refine ap ?_
 refine tp rfl (Dt rfl underlying99 G6 vq vq AA AA) ?_
 refine TO.Dl 0 rfl rfl AB (CB rfl rfl rfl rfl underlying99 G6 XB z51 Iy vq (BC BR KJ)) (fun v6=> ?_)
 refine ap ?_
 refine ac ?_
 · exact kJ
theorem aj {o:List Int} (ho:o.length≤1000):BF prog 126 [ints o] (Cp.ex fun z:List BH=>fact (z.length≤o.length) (reqs z)):=by
 refine fo func126 rfl ⟨rfl,rfl⟩ fun M0 w0=>(Tr.Cl 0 rfl fun EH=> ?_)
 refine a3 ?_
 refine Tr.block (Tr.Cy _ (kk [0] rfl) (fun (z:List BH) (i:Nat)=>[(3,reqs z),(4,int ((i:Nat):Int))]) (fun (z:List BH) (i:Nat)=>Hp M0 w0 Fo ([])) (fun (z:List BH) (i:Nat)=>(1≤i∧(i≤o.length∨i=1))∧z.length+1≤i) (fun (z:List BH) (i:Nat)=>o.length-i) ([]) (1)  (⟨⟨by omega,.inr rfl⟩,by simp⟩) ⟨⟨_,rfl,AQ 2⟩,kz⟩ (fun _ _ h=>h) ?_)
 rintro z i  ⟨⟨hi1,hi2⟩,hzl⟩
 refine an ?_ ?_<;>intro h1 q1
 have F6:i<o.length:=AH h1
 obtain ⟨x,hx⟩:=at_ F6
 obtain ⟨y,hy⟩:=at_ (l:=o) (k:=i-1) AA
 refine a2 ?_
 refine co rfl (AD rfl underlying22 Bs vq vq AA bz) ?_
 refine ac ?_
 refine co rfl (AD rfl underlying22 Bs vq vq AA (AZ hx)) ?_
 refine ac ?_
 refine co rfl (CS (R6 (l:=z) (r:=⟨y,x⟩) AA) rfl rfl rfl) ?_
 refine ac ?_
 refine wk [4,3,0] rfl ?_
 refine ac ?_
 exact Fin.Cu ((GS z ⟨y,x⟩)) (i+1)  (⟨⟨⟨by omega,.inl AA⟩,by have:=R5 z ⟨y,x⟩;omega⟩,by omega⟩) ⟨kq,⟨_,rfl,AG i⟩,kz⟩ (fun _ _ h=>h)
 have hie:=AJ h1
 refine a3 ?_
 · exact Ax _ (BB AA Lr)
theorem US (n:Nat) (l:List BH):∀k,(DZ n l k).2.length≤k
 |0=>Nat.le_refl _
 |k+1=>by
  have h:=US n l k
  rw [DZ]
  split
  · omega
  ·
   rename_i x _
   have h2:=OR (DZ n l k).2 x true
   show (EA (DZ n l k).2 x true).length≤k+1
   omega
theorem ak {n:Int} {l:List BH} (hl:l.length≤1000000):BF prog 103 [int n,reqs l] (Dy [ints (if BD n l=0 then (DZ n.toNat l n.toNat).1 else []),int (BD n l)]):=by
 refine fo func103 rfl ⟨rfl,rfl⟩ fun M0 w0=> ?_
 refine a2 ?_
 refine co rfl (CS (Ja hl) rfl rfl rfl) ?_
 refine ac ?_
 refine an ?_ ?_<;>intro h1 q1
 have hv:BD n l≠0:=by simpa using h1
 refine ac ?_
 refine Tr.ret (Fin.AE (Fin.D3 rfl (Bt.EB _ _) rfl ?_ rfl ?_))
 · rw [if_neg hv];exact AQ 1
 · exact Lr
 have hv:BD n l=0:=by simpa using h1
 obtain ⟨N,rfl⟩:∃N:Nat,n=(N:Int):=⟨n.toNat,by have:=(Co hv).1;omega⟩
 have Ns:=(Co hv).1
 refine a2 ?_
 refine Tr.seq (Tr.block (Tr.CC 3 1 (Tr.W8 _ (kk [1,0] rfl) (fun (k:Nat) u=>[(7,ints (DZ N l k).2),(8,Aa u (ints (DZ N l k).1))]) (fun (k:Nat) u=>Hp M0 w0 Fo ([Au 3 1 u])) (fun (k:Nat)=>k≤N) (fun (k:Nat)=>N-k) (0) (.slice none 0 0) (Nat.zero_le _) ⟨⟨_,rfl,AQ 1⟩,⟨_,rfl,Bp rfl⟩,trivial⟩ (fun _ _ h=>h) ?_)))
 rintro k u hkN
 have hrow:=JT hv k (by simpa using hkN)
 rw [Int.toNat_natCast] at hrow
 obtain ⟨jE,hrl⟩:=hrow
 have hdl:(DZ N l k).2.length≤100000:=Nat.le_trans (US N l k) AA
 refine ac ?_
 refine co rfl (CJ rfl underlying51 Iy) ?_
 refine an ?_ ?_<;>intro h2 q2
 have hk:k<N:=by have:=DH.Dp h2;omega
 obtain ⟨x,hx0,hst⟩:=Xt hv (k:=k) Pv
 rw [Int.toNat_natCast] at hx0 hst
 have ADz:=AZ (f:=fun n:Int=>[int n]) hx0
 refine a2 ?_
 refine co rfl (ju (O8 (n:=N) (l:=l) AA AA) rfl rfl rfl rfl rfl) ?_
 refine ac ?_
 refine Tr.pad (Tr.rx ?_)
 refine ay ?_
 refine xo rfl (fun _=>AD rfl underlying51 Bs vq vq AA ADz) (xo rfl (fun _=>F5 rfl Cs rfl) (xo rfl (fun _=>AP (xs:=[.tmp 27]) (rows:=[[_]]) rfl rfl underlying51 Bs z3 rfl AB ⟨⟨Ao,Lj⟩,trivial⟩ AB) ?_))
 refine Cx.ef 1 rfl rfl AB (CB rfl rfl rfl rfl underlying51 Bs Iw z3 Iy Gn (BC BR KJ)) ?_
 refine ay ?_
 refine xo rfl (fun _=>AD rfl underlying51 Bs vq vq AA ADz) (xo rfl (fun _=>F5 rfl Cs rfl) (xo rfl (fun _=>LV (HA AA) rfl rfl rfl rfl) (Cx.ef 1 rfl rfl AB (VD rfl rfl AB rfl vq) (xm rfl ?_))))
 refine Cx.nil ⟨by kernel_rfl,?_⟩
 refine BI.open_ 1 8 rfl rfl (fun v1=> ?_)
 refine BI.done XU (Fin.block (Fin.drop 0 ?_))
 exact Fin.c_ (k+1) v1 (⟨by omega,by omega⟩) ⟨⟨_,rfl,Pr.le_of_eq (by rw [hst])⟩,⟨_,rfl,BJ (by rw [hst];simp)⟩,kz⟩ (fun _ _ h=>h)
 have fm:k=N:=by have:=DH.Dp h2;omega
 refine a2 ?_
 refine Tr.ret (Fin.D3 rfl (Bt.EB _ _) rfl ?_ rfl ?_)
 · rw [if_pos hv,Int.toNat_natCast,←fm];exact As _ _
 · refine int_eq ?_;exact hv.symm
structure Lv (n k:Nat) (L:List (List Int)):Prop where
 QN:∀s∈L,∀x∈s,0≤x∧x<(n:Int)
 len:∀s∈L,s.length=k
theorem YF {n:Nat} {l:List BH} {s:List Int} {x:Int} (h:x∈EU n l s true):(0≤x∧x<(n:Int))∧x∉s:=by
 unfold EU at h
 obtain ⟨i,hi,rfl⟩:=List.mem_map.1 h
 obtain ⟨h1,h2⟩:=List.mem_filter.1 hi
 have h3:=List.mem_range.1 h1
 refine ⟨by omega,fun hc=> ?_⟩
 unfold Jw at h2
 rw [Bool.and_eq_true] at h2
 have:=Dv.2 hc
 rw [this] at h2
 exact absurd h2.1 AB
theorem Lv.put {n k:Nat} {l:List BH} {L z:List (List Int)} {s:List Int} {x:Int} (h:Lv n (k+1) L) (hs:s.length=k∧∀y∈s,0≤y∧y<(n:Int)) (hx:x∈EU n l s true) (hp:vS L (EA s x true) z):Lv n (k+1) z:=by
 have hb:=YF hx
 refine ⟨fun t ht=> ?_,fun t ht=> ?_⟩
 ·
  rcases hp.mem t ht with h1|rfl
  · exact h.QN t h1
  ·
   intro y hy
   rcases DO.1 hy with rfl|hy
   · exact hb.1
   · exact hs.2 y hy
 ·
  rcases hp.mem t ht with h1|rfl
  · exact h.len t h1
  · rw [G8 hb.2,hs.1]
theorem jF {n k:Nat}:Lv n k []:=⟨fun _ h=>GX,fun _ h=>GX⟩
theorem jG {n:Nat}:Lv n 0 [[]]:=⟨fun s h x hx=>(by simp at h;subst h;cases hx),fun s h=>(by simp at h;subst h;rfl)⟩
structure Lw (n:Int) (L:List (List Int)):Prop where
 QN:∀s∈L,∀x∈s,0≤x∧x<n
 len:L.length≤4096
 wid:∀s∈L,s.length≤4096
theorem jH {n d:Nat} {lv ou nx:List (List Int)} (h1:Lv n (d+1) nx) (h2:Lw (n:Int) ou) (h3:lv=[]∨d+1≤ou.length) (hl:ou.length+nx.length≤4096) (hy:lv≠[]):((Lv n (d+1) nx∧Lw (n:Int) (ou++nx))∧(nx=[]∨d+1+1≤(ou++nx).length)∧nx.length≤4096)∧(if nx=[] then 0 else 4097-(ou++nx).length)<(if lv=[] then 0 else 4097-ou.length):=by
 have h4:(ou++nx).length=ou.length+nx.length:=List.length_append
 have h5:=h2.len
 rw [if_neg hy]
 refine ⟨⟨⟨h1,⟨fun s hs=> ?_,by omega,fun s hs=> ?_⟩⟩,?_,by omega⟩,?_⟩
 ·
  rcases List.mem_append.1 hs with hs|hs
  · exact h2.QN s hs
  · exact h1.QN s hs
 ·
  rcases List.mem_append.1 hs with hs|hs
  · exact h2.wid s hs
  · rw [h1.len s hs];rcases h3 with h3|h3;exact absurd h3 hy;omega
 ·
  cases nx with
  |nil=>exact .inl rfl
  |cons a m=>right;rcases h3 with h3|h3;exact absurd h3 hy;rw [h4,List.length_cons];omega
 ·
  cases nx with
  |nil=>rw [if_pos rfl];omega
  |cons a m=>rw [if_neg (fun h=>by cases h),h4,List.length_cons];rcases h3 with h3|h3;exact absurd h3 hy;omega
theorem jI {n:Int} {l:List BH} (hl:l.length≤1000000):BF prog 280 [int n,reqs l] (Cp.ex fun z:List (List Int)×Int=>fact (Lw n z.1) (Dy [sets z.1,int z.2])):=by
 refine fo func280 rfl ⟨rfl,rfl⟩ fun M0 w0=> ?_
 refine a2 ?_
 refine co rfl (CS (Ja hl) rfl rfl rfl) ?_
 refine ac ?_
 refine an ?_ ?_<;>intro h1 q1
 refine ac ?_
 refine Tr.ret (Fin.AE (Fin.Bc rfl (AL.tmp rfl Lr) (AL.tmp rfl Lr) ?_))
 · exact Y2
 have hv:BD n l=0:=by simpa using h1
 obtain ⟨N,rfl⟩:∃N:Nat,n=(N:Int):=⟨n.toNat,by have:=(Co hv).1;omega⟩
 have Ns:=(Co hv).1
 refine ac ?_
 refine Tr.seq (Tr.Al (co rfl (AP (xs:=[.const (.slice none 0 0)]) (rows:=[[ints []]]) rfl rfl underlying99 G6 z51 rfl AB ⟨⟨Ao,VL.le vq (Pr.le_trans (AQ 1) (Ad _))⟩,trivial⟩ AB) ?_))
 refine ac ?_
 refine Tr.seq (Tr.Al (co rfl (AP (xs:=[.const (.slice none 0 0)]) (rows:=[[ints []]]) rfl rfl underlying99 G6 z51 rfl AB ⟨⟨Ao,VL.le vq (Pr.le_trans (AQ 1) (Ad _))⟩,trivial⟩ AB) ?_))
 refine ac ?_
 refine Tr.seq (Tr.block (Tr.ADw (e:=51) (rows:=[[ints []]]) 8 rfl Lr (fun v8=> ?_)))
 refine Tr.Fw _ (kk [1,0] rfl) (fun (lv:List (List Int)) (ou:List (List Int)) (d:Nat) u=>[(7,sets lv),(8,Aa u (sets ou))]) (fun (lv:List (List Int)) (ou:List (List Int)) (d:Nat) u=>Hp M0 w0 Fo ([Au 51 1 u])) (fun (lv:List (List Int)) (ou:List (List Int)) (d:Nat)=>(Lv N d lv∧Lw N ou)∧(lv=[]∨d+1≤ou.length)∧lv.length≤4096) (fun (lv:List (List Int)) (ou:List (List Int)) (d:Nat)=>(if lv=[] then 0 else 4097-ou.length)) ([[]]) ([[]]) (0) v8 (⟨⟨jG,⟨fun s h x hx=>(by simp at h;subst h;cases hx),by decide,fun s h=>(by simp at h;subst h;decide)⟩⟩,.inr AB,by decide⟩) ⟨⟨_,rfl,B8 1 _⟩,⟨_,rfl,BJ rfl⟩,trivial⟩ (fun _ _ h=>h) ?_
 rintro lv ou d u ⟨⟨hlv,hou⟩,hd,hl4⟩
 refine an ?_ ?_<;>intro h2 q2
 have hy:lv≠[]:=by have h_:=DH.Dp h2;intro h0;subst h0;simp at h_
 have hd4:d+1≤4096:=by have:=hou.len;rcases hd with hd|hd;exact absurd hd hy;omega
 refine a3 ?_
 refine Tr.block ?_
 refine Tr.Cy _ (kk [26,25,8,1,0] rfl) (fun (nx:List (List Int)) (m:Nat)=>[(9,sets nx),(27,int ((m:Nat):Int))]) (fun (nx:List (List Int)) (m:Nat)=>Hp M0 w0 Fo ([Au 51 1 u])) (fun (nx:List (List Int)) (m:Nat)=>(m≤lv.length∧Lv N (d+1) nx)∧ou.length+nx.length≤4096) (fun (nx:List (List Int)) (m:Nat)=>lv.length-m) ([]) (0)  (⟨⟨Nat.zero_le _,jF⟩,by have:=hou.len;simpa using this⟩) ⟨⟨_,rfl,AQ 1⟩,kz⟩ (fun _ _ h=>h) ?_
 rintro nx m  ⟨⟨hm0,hnx⟩,ZX⟩
 refine ac ?_
 refine Tr.seq ?_
 refine Tr.cn rfl ?_ ?_<;>intro h3 q3
 have hml:m<lv.length:=AH h3
 obtain ⟨s,hs⟩:=at_ hml
 have Z_:=hlv.len s (List.mem_of_getElem? hs)
 refine ac ?_
 refine Tr.seq (Tr.block (Tr.seq (Tr.Al (co rfl (AD rfl underlying99 G6 vq vq AA (AZ hs)) ?_))))
 refine a2 ?_
 refine co rfl (ju (O8 (n:=N) (l:=l) AA AA) rfl rfl rfl rfl rfl) ?_
 refine ac ?_
 refine wk [36,35,34,27,26,25,11,9,8,1,0] rfl (Tr.block (Tr.Cy _ (kk [35,34,27,26,25,11,8,1,0] rfl) (fun (ny:List (List Int)) (q:Nat)=>[(9,sets ny),(36,int ((q:Nat):Int))]) (fun (ny:List (List Int)) (q:Nat)=>Hp M0 w0 Fo ([Au 51 1 u])) (fun (ny:List (List Int)) (q:Nat)=>(q≤(EU N l s true).length∧Lv N (d+1) ny)∧ou.length+ny.length≤4096) (fun (ny:List (List Int)) (q:Nat)=>(EU N l s true).length-q) (nx) (0)  (⟨⟨Nat.zero_le _,hnx⟩,ZX⟩) ⟨kq,kz⟩ (fun _ _ h=>h) ?_))
 rintro ny q  ⟨⟨hq0,hny⟩,AHE⟩
 refine ac ?_
 refine Tr.seq ?_
 refine Tr.cn rfl ?_ ?_<;>intro h4 q4
 have hql:q<(EU N l s true).length:=AH h4
 have XI:=Xv (n:=N) (l:=l) (s:=s) (add:=true)
 obtain ⟨x,Xh⟩:=at_ hql
 refine ac ?_
 refine Tr.seq (Tr.block (Tr.seq (Tr.Al (co rfl (AD rfl underlying51 Bs vq vq AA (AZ Xh)) ?_))))
 refine ac ?_
 refine wk [36,35,34,27,26,25,13,11,9,8,1,0] rfl ?_
 refine ap ?_
 refine tp rfl (LV (HA AA) rfl rfl rfl rfl) ?_
 refine tp rfl (CS (qb AA (fun t ht=>by rw [hny.len t ht,G8 (YF (List.mem_of_getElem? Xh)).2];omega)) rfl rfl rfl) ?_
 refine TO.ex 44 rfl (fun z1=>TO.fact 44 rfl fun Eh=> ?_)
 have hzl:=Eh.le
 refine ap ?_
 refine wk [36,35,34,27,26,25,11,9,8,1,0] rfl ?_
 refine ac ?_
 refine co rfl (CJ rfl underlying99 Iy) ?_
 refine ac ?_
 refine wk [50,36,35,34,27,26,25,11,9,8,1,0] rfl ?_
 refine Tr.cn rfl ?_ ?_<;>intro h5 q5
 refine ac ?_
 refine wk [5,4] rfl (Tr.ret (Fin.AR (Fin.AE (Fin.AE (Fin.AR (Fin.AR (Fin.AE (Fin.AE (Fin.AR (Fin.AE (Fin.AR (Fin.AE (Fin.AR (Fin.AE ?_))))))))))))))
 refine Fin.Bc rfl (AL.tmp rfl Lr) (AL.tmp rfl Lr) ?_
 · exact Y2
 refine a2 ?_
 exact Fin.Cu (z1) (q+1)  (⟨⟨⟨by omega,hny.put ⟨Z_,hlv.QN s (List.mem_of_getElem? hs)⟩ (List.mem_of_getElem? Xh) Eh⟩,by omega⟩,by omega⟩) ⟨kq,⟨_,rfl,AG q⟩,kz⟩ (fun _ _ h=>h)
 have hqe:=AJ h4
 refine a2 ?_
 exact Fin.Cu (ny) (m+1)  (⟨⟨⟨by omega,hny⟩,AHE⟩,by omega⟩) ⟨kq,⟨_,rfl,AG m⟩,kz⟩ (fun _ _ h=>h)
 have hme:=AJ h3
 refine ac ?_
 refine ap ?_
 refine TO.Dl 0 rfl rfl AB (CB rfl rfl rfl rfl underlying99 G6 XB z51 Iy vq (BC BR KJ)) (fun v1=> ?_)
 refine ap ?_
 exact Fin.ER (nx) (ou++nx) (d+1) v1 (jH hnx hou hd ZX hy) ⟨kq,⟨_,rfl,BJ AU⟩,kz⟩ (fun _ _ h=>h)
 have hy:=h2
 refine a2 ?_
 refine Tr.ret (Fin.Bc rfl (AL.tmp rfl Lr) (AL.tmp rfl Lr) ?_)
 · exact Ax (_,_) (BB hou (Ay ⟨As _ _,Lr,trivial⟩))
theorem qc {β:Type} {p:β→Bool} {l:List β} {k:Nat} {x:β} (h:l[k]? =some x):idx p (l.take (k+1))=if idx p (l.take k)<0 then (if p x=true then (k:Int) else -1) else idx p (l.take k):=by
 have hk:=BM h
 rw [List.take_add_one,h]
 have hl:(l.take k).length=k:=by rw [List.length_take];omega
 show idx p (l.take k++[x])=_
 generalize l.take k=a at hl ⊢
 unfold idx
 rw [List.findIdx?_append]
 cases ha:a.findIdx? p with
 |some i=>simp;intro h3;omega
 |none=>cases hp:p x<;>simp [hp,hl]
theorem jJ {β:Type} {p:β→Bool} {l:List β} {k:Nat} {x:β} (h:l[k]? =some x):(((l.take (k+1)).countP p:Nat):Int)=((l.take k).countP p:Nat)+(if p x=true then 1 else 0):=by
 rw [List.take_add_one,h]
 show (((l.take k++[x]).countP p:Nat):Int)=_
 rw [List.countP_append,List.countP_singleton];split<;>simp_all
theorem Nl {β:Type} {p:β→Bool} {l:List β}:idx p l<0↔l.countP p=0:=by
 unfold idx
 cases h:l.findIdx? p with
 |none=>
  rw [List.findIdx?_eq_none_iff] at h
  simp only [show ((none:Option Nat).map fun n=>(n:Int)).getD (-1)= -1 from rfl]
  constructor
  · intro _;rw [List.countP_eq_zero];intro a ha;rw [h a ha];decide
  · intro _;decide
 |some i=>
  rw [List.findIdx?_eq_some_iff_getElem] at h
  obtain ⟨h1,h2,_⟩:=h
  constructor
  · intro h3;exfalso;revert h3;simp
  · intro h3;rw [List.countP_eq_zero] at h3;exact absurd h2 (h3 _ (List.getElem_mem h1))
theorem vV {β:Type} {p:β→Bool} {l:List β} {k n:Nat} (h:l.length≤n):(l.take k).countP p≤n:=Nat.le_trans List.countP_le_length (Nat.le_trans Kz h)
theorem bsX {l:List Int} {n x:Int} {k:Nat} (h:∀(j:Nat) y,j<k→l[j]? =some y→y<n) (hx:l[k]? =some x) (hlt:x<n):∀(j:Nat) y,j<k+1→l[j]? =some y→y<n:=by
 intro j y hj hy
 rcases Nat.lt_or_eq_of_le (Nat.le_of_lt_succ hj) with h1|h1
 · exact h j y h1 hy
 · subst h1;rw [hx] at hy;cases hy;exact hlt
def HY (id:Int) (x:IF):Bool:=x.CU==id
def F8 (id:Int) (l:List IF):Int:=((l.countP (HY id):Nat):Int)
theorem GV (id:Int) (l:List IF):Bn id l=idx (HY id) l:=rfl
theorem jK {id:Int} {l:List IF} {k:Nat} {x:IF} (h:l[k]? =some x):F8 id (l.take (k+1))=F8 id (l.take k)+(if x.CU=id then 1 else 0):=by
 unfold F8;rw [jJ h];unfold HY;simp only [beq_iff_eq]
theorem YG {id:Int} {l:List IF} {k:Nat} {x:IF} (h:l[k]? =some x):Bn id (l.take (k+1))=if F8 id (l.take k)=0 then (if x.CU=id then (k:Int) else -1) else Bn id (l.take k):=by
 rw [GV,GV,qc h]
 have:=Nl (p:=HY id) (l:=l.take k)
 unfold F8
 by_cases h2:idx (HY id) (l.take k)<0
 ·
  have h4:(((l.take k).countP (HY id):Nat):Int)=0:=by rw [this.1 h2];rfl
  rw [if_pos h2,if_pos h4];unfold HY;simp only [beq_iff_eq]
 · rw [if_neg h2,if_neg (fun h3=>h2 (this.2 AA))]
theorem YH {id:Int} {l:List IF} (h:F8 id l=0):Bn id l= -1:=by
 have h2:=(Nl (p:=HY id) (l:=l)).2 (by unfold F8 at h;omega)
 rw [GV];unfold idx at h2 ⊢
 cases h3:l.findIdx? (HY id) with
 |none=>rfl
 |some i=>rw [h3] at h2;simp at h2;omega
def H_ (e:B7) (k:Int):Int×Bool:=if k=3 then (e.most,true) else if k=4 then (e.least,true) else if k=11 then (LW e.EL,true) else if k=12 then (LW e.own,true) else (0,false)
def Gg (e:B7) (k:Int):List Int×Bool×Bool:=
 if k=1∨k=2 then (e.A9,decide (k=1),true) else if k=7∨k=8 then (e.anchors,decide (k=7),true) else if k=9∨k=10 then (e.hashes,decide (k=9),true) else ([],false,false)
theorem TW (x:IF):decide (x=B5)=dP x:=by
 rw [Bool.eq_iff_iff,decide_eq_true_eq];unfold dP B5
 cases x;simp only [IF.mk.injEq,Bool.and_eq_true,decide_eq_true_eq,beq_iff_eq,and_assoc]
 constructor
 · rintro ⟨h1,h2,h3,h4⟩;exact ⟨h1,h2,h3,by simp [h4]⟩
 · rintro ⟨h1,h2,h3,h4⟩;exact ⟨h1,h2,h3,List.eq_nil_of_length_eq_zero AA⟩
theorem Jb {l:List Int} {n:Int}  :BF prog 326 [ints l,int n] (int (idx (fun y=>n==y) l)):=by
 refine fo func326 rfl ⟨rfl,rfl⟩ fun M0 w0=>(Tr.Cl 0 rfl fun EH=> ?_)
 refine a2 ?_
 refine Tr.block (Tr.BE _ (kk [8,7,1] rfl) (fun k:Nat=>[(9,int ((k:Nat):Int))]) (fun k:Nat=>k≤(l).length∧(∀j y,j<k→l[j]? =some y→(n==y)=false)) (fun k:Nat=>(l).length-k) 0 (⟨Nat.zero_le _,fun j y hj=>absurd hj AA⟩) kz ?_)
 rintro k ⟨BT,AX⟩
 refine ac ?_
 refine Tr.seq ?_
 refine Tr.cn rfl ?_ ?_<;>intro h1 q1
 have Ai:k<(l).length:=AH h1
 obtain ⟨x,Ah⟩:=at_ Ai
 · repeat' first|(exact int_eq (EX (p:=fun y=>n==y) Ah CF AX))|(exact Fin.AO (k+1) ⟨⟨Ai,Db (p:=fun y=>n==y) Ah CF AX⟩,by omega⟩ ⟨⟨_,rfl,AG k⟩,kz⟩)|refine co rfl (AD rfl underlying22 Bs vq vq AA CO) ?_|refine ac ?_|(refine Tr.cn rfl ?_ ?_<;>intro h q)
 have BP:k=(l).length:=by have:=AJ h1;omega
 subst BP
 refine a3 ?_
 · exact int_eq (Fz (p:=fun y=>n==y) AX)
theorem Oe {e:B7} {id:Int} (hl:e.ids.length≤1000000):BF prog 328 [agg (Be e),int id] (Dy [int (F8 id e.ids),int (Bn id e.ids)]):=by
 refine fo func328 rfl ⟨rfl,rfl⟩ fun M0 w0=> ?_
 refine a3 ?_
 refine Tr.block (Tr.BE _ (kk [12,11,1] rfl) (fun k:Nat=>[(13,int ((k:Nat):Int)),(6,int (F8 id (e.ids.take k))),(7,int (Bn id (e.ids.take k)))]) (fun k:Nat=>k≤(e.ids).length) (fun k:Nat=>(e.ids).length-k) 0 (Nat.zero_le _) ⟨kq,⟨_,rfl,int_eq rfl⟩,⟨_,rfl,int_eq rfl⟩,trivial⟩ ?_)
 rintro k BT
 refine ac ?_
 refine Tr.seq ?_
 refine Tr.cn rfl ?_ ?_<;>intro h1 q1
 have Ai:k<(e.ids).length:=AH h1
 obtain ⟨x,Ah⟩:=at_ Ai
 have hc:=jK (id:=id) Ah
 have hi:=YG (id:=id) Ah
 have Wy:0≤F8 id (e.ids.take k)∧F8 id (e.ids.take k)≤1000000:=⟨by unfold F8;omega,by have:=vV (p:=HY id) (k:=k) hl;unfold F8;omega⟩
 have h0:=YH (id:=id) (l:=e.ids.take k)
 refine ac ?_
 refine ao ?_
 refine tp rfl (AD rfl underlying38 E8 vq vq AA CO) ?_
 refine tp rfl (AM rfl Ov E8 vq rfl rfl) ?_
 refine Tl rfl rfl rfl rfl Wf S5 (fun b1=> ?_)
 refine tm rfl ?_
 refine sf 0 9 ⟨rfl,rfl,rfl⟩ rfl rfl rfl rfl ?_
 refine ao ?_
 · repeat' first|exact Fin.AO (k+1) ⟨Ai,by omega⟩ ⟨⟨_,rfl,AG k⟩,⟨_,rfl,int_eq Br⟩,⟨_,rfl,int_eq Br⟩,kz⟩|refine ac ?_|(refine Tr.cn rfl ?_ ?_<;>intro h q)
 have BP:k=(e.ids).length:=by have:=AJ h1;omega
 subst BP
 rw [List.take_length]
 refine a2 ?_
 refine Tr.ret (Fin.D3 rfl (Bt.EB _ _) rfl ?_ rfl ?_)
 · exact Lr
 · exact Lr
theorem YI {b:Bool}  :BF prog 338 [bool b] (int (LW b)):=by
 refine fo func338 rfl ⟨rfl,rfl⟩ fun M0 w0=> ?_
 · repeat' first|exact int_eq (by simp_all [LW])|refine ac ?_|(refine Tr.cn rfl ?_ ?_<;>intro h q)
theorem aq {e:B7} {k:Int}  :BF prog 327 [agg (Be e),int k] (Dy [int (H_ e k).1,bool (H_ e k).2]):=by
 refine fo func327 rfl ⟨rfl,rfl⟩ fun M0 w0=> ?_
 refine a2 ?_
 refine an ?_ ?_<;>intro h1 q1
 refine ac ?_
 refine Tr.ret (Fin.AR (Fin.AE (Fin.D3 rfl (Bt.EB _ _) rfl ?_ rfl ?_)))
 · exact Mm
 · exact Ml
 refine an ?_ ?_<;>intro h2 q2
 refine ac ?_
 refine Tr.ret (Fin.AR (Fin.AE (Fin.D3 rfl (Bt.EB _ _) rfl ?_ rfl ?_)))
 · exact Mm
 · exact Ml
 refine an ?_ ?_<;>intro h3 q3
 refine ac ?_
 refine co rfl (Cz (YI) rfl rfl) ?_
 refine ac ?_
 refine wk [5,4] rfl (Tr.ret (Fin.AR (Fin.AE (Fin.D3 rfl (Bt.EB _ _) rfl ?_ rfl ?_))))
 · exact Mm
 · exact Ml
 refine an ?_ ?_<;>intro h4 q4
 refine ac ?_
 refine co rfl (Cz (YI) rfl rfl) ?_
 refine ac ?_
 refine wk [5,4] rfl (Tr.ret (Fin.AR (Fin.AE (Fin.D3 rfl (Bt.EB _ _) rfl ?_ rfl ?_))))
 · exact Mm
 · exact Ml
 refine a2 ?_
 refine wk [5,4] rfl (Tr.ret (Fin.D3 rfl (Bt.EB _ _) rfl ?_ rfl ?_))
 · exact Mm
 · exact Ml
theorem jL {c:Ba} (hcs:c.C6.small):BF prog 324 [agg (Ew c)] (bool (decide (Jp c))):=by
 refine fo func324 rfl ⟨rfl,rfl⟩ fun M0 w0=> ?_
 refine ac ?_
 refine ac ?_
 refine co rfl (AV rfl (Zp (a:=c.C6) (b:=B5) hcs) ⟨ke rfl,⟨_,rfl,BU ⟨Lr,Lr,Lr,AQ 15,trivial⟩⟩,trivial⟩) ?_
 refine ac ?_
 refine ac ?_
 refine ac ?_
 refine Tr.cn rfl ?_ ?_<;>intro h1 q1
 refine ac ?_
 refine ac ?_
 · exact Uh
 refine ac ?_
 refine Tr.cn rfl ?_ ?_<;>intro h2 q2
 refine ac ?_
 refine Nu 2 rfl ?_
 refine ac ?_
 · exact Uh
 refine ac ?_
 refine ac ?_
 refine Ch.cs 21 rfl ?_ ?_<;>intro h3 q3
 refine ac ?_
 refine Ch.cs 26 rfl ?_ ?_<;>intro h4 q4
 refine ac ?_
 refine Ch.cs 29 rfl ?_ ?_<;>intro h5 q5
 refine ac ?_
 refine Nu 2 rfl ?_
 refine ac ?_
 · exact Uh
 refine ac ?_
 refine Nu 2 rfl ?_
 refine ac ?_
 · exact Uh
 refine ac ?_
 refine Nu 2 rfl ?_
 refine ac ?_
 · exact kY
 refine ac ?_
 refine Nu 2 rfl ?_
 refine ac ?_
 · exact kY
theorem YJ {e:B7} {k:Int}  :BF prog 325 [agg (Be e),int k] (Dy [ints (Gg e k).1,bool (Gg e k).2.1,bool (Gg e k).2.2]):=by
 refine fo func325 rfl ⟨rfl,rfl⟩ fun M0 w0=> ?_
 refine a2 ?_
 refine an ?_ ?_<;>intro h1 q1
 refine ac ?_
 refine Tr.cond rfl (fun _=> ?_) (fun h=>nomatch h1.symm.trans h)
 refine ac ?_
 refine wk [6,5,4] rfl (Tr.ret (Fin.AR (Fin.AE (Fin.JA rfl (Bt.EB _ _) rfl ?_ rfl ?_ rfl ?_))))
 · exact Ky
 · exact Ff
 · exact Ff
 refine an ?_ ?_<;>intro h2 q2
 refine ac ?_
 refine wk [6,5,4] rfl (Tr.ret (Fin.AR (Fin.AE (Fin.JA rfl (Bt.EB _ _) rfl ?_ rfl ?_ rfl ?_))))
 · exact Ky
 · exact Ff
 · exact Ff
 refine an ?_ ?_<;>intro h3 q3
 refine ac ?_
 refine Tr.cond rfl (fun _=> ?_) (fun h=>nomatch h3.symm.trans h)
 refine ac ?_
 refine wk [6,5,4] rfl (Tr.ret (Fin.AR (Fin.AE (Fin.JA rfl (Bt.EB _ _) rfl ?_ rfl ?_ rfl ?_))))
 · exact Ky
 · exact Ff
 · exact Ff
 refine an ?_ ?_<;>intro h4 q4
 refine ac ?_
 refine wk [6,5,4] rfl (Tr.ret (Fin.AR (Fin.AE (Fin.JA rfl (Bt.EB _ _) rfl ?_ rfl ?_ rfl ?_))))
 · exact Ky
 · exact Ff
 · exact Ff
 refine ac ?_
 refine wk [22,7,2,1] rfl ?_
 refine Tr.cn rfl ?_ ?_<;>intro h5 q5
 refine ac ?_
 refine Tr.cond rfl (fun _=> ?_) (fun h=>nomatch h5.symm.trans h)
 refine ac ?_
 refine Tr.ret (Fin.AR (Fin.AE (Fin.JA rfl (Bt.EB _ _) rfl ?_ rfl ?_ rfl ?_)))
 · exact Ky
 · exact Ff
 · exact Ff
 refine an ?_ ?_<;>intro h6 q6
 refine ac ?_
 refine Tr.ret (Fin.AR (Fin.AE (Fin.JA rfl (Bt.EB _ _) rfl ?_ rfl ?_ rfl ?_)))
 · exact Ky
 · exact Ff
 · exact Ff
 refine a2 ?_
 refine Tr.ret (Fin.JA rfl (Bt.EB _ _) rfl ?_ rfl ?_ rfl ?_)
 · exact Pr.le_trans (AQ 1) (Pr.le_of_eq (by rw [show (Gg e k).1=[] by simp_all [Gg]];rfl))
 · exact Ff
 · exact Ff
theorem Of {l:List Int} {i:Nat} {n:Int} (hi:i≤l.length) (hl:l.length≤1000000):BF prog 329 [ints l,int ((i:Nat):Int),int n] (ints (l.take i++[n]++l.drop i)):=by
 refine fo func329 rfl ⟨rfl,rfl⟩ fun M0 w0=> ?_
 have hml:(l.map fun n:Int=>[int n]).length=l.length:=List.length_map _
 refine ac ?_
 refine ap ?_
 refine tp rfl (D6 rfl underlying22 Bs vq vq AA AA) (TO.pad ?_)
 refine TO.Dl 0 rfl rfl AB (EZ rfl rfl AB rfl underlying22 Bs Iw z3 rfl AB ⟨_,rfl,AQ _⟩ vq J4 J6 (Bv BR ⟨_,rfl,DT 1⟩)) (fun v1=> ?_)
 refine ap ?_
 refine ap ?_
 refine TO.Dl 0 rfl rfl AB (CB rfl rfl rfl rfl underlying22 Bs Iw z3 Iy Gn (BC BR KJ)) (fun v2=> ?_)
 refine ap ?_
 refine ap ?_
 refine tp rfl (Dt rfl underlying22 Bs vq vq AA AA) ?_
 refine TO.Dl 0 rfl rfl AB (CB rfl rfl rfl rfl underlying22 Bs Iw z3 Iy vq (BC BR KJ)) (fun v3=> ?_)
 refine ap ?_
 refine wk [6] rfl ?_
 refine ac ?_
 · exact Pr.le_trans (As _ _) (Pr.le_of_eq (by show _=slice 1 ((l.take i++[n]++l.drop i).map fun n=>[int n]);simp [List.map_take,List.map_drop]))
theorem Jc {l:List Int} {i:Nat} (hi:i<l.length) (hl:l.length≤1000000):BF prog 330 [ints l,int ((i:Nat):Int)] (ints (l.eraseIdx i)):=by
 refine fo func330 rfl ⟨rfl,rfl⟩ fun M0 w0=> ?_
 have hml:(l.map fun n:Int=>[int n]).length=l.length:=List.length_map _
 refine ac ?_
 refine ap ?_
 refine tp rfl (D6 rfl underlying22 Bs vq vq AA AA) (TO.pad ?_)
 refine TO.Dl 0 rfl rfl AB (EZ rfl rfl AB rfl underlying22 Bs Iw z3 rfl AB ⟨_,rfl,AQ _⟩ vq J4 J6 (Bv BR ⟨_,rfl,DT 1⟩)) (fun v1=> ?_)
 refine ap ?_
 refine ap ?_
 refine tp rfl (Dt rfl underlying22 Bs vq vq AA AA) ?_
 refine TO.Dl 0 rfl rfl AB (CB rfl rfl rfl rfl underlying22 Bs Iw z3 Iy vq (BC BR KJ)) (fun v2=> ?_)
 refine ap ?_
 refine ac ?_
 · exact Pr.le_trans (As _ _) (Pr.le_of_eq (by rw [List.eraseIdx_eq_take_drop_succ];show _=slice 1 ((l.take i++l.drop (i+1)).map fun n=>[int n]);simp [List.map_take,List.map_drop,show (((i:Nat):Int)+1).toNat=i+1 by omega]))
theorem PF {l:List Int} {n:Int} (hl:l.length≤1000000):BF prog 331 [ints l,int n] (ints (Zh l n)):=by
 refine fo func331 rfl ⟨rfl,rfl⟩ fun M0 w0=>(Tr.Cl 0 rfl fun EH=> ?_)
 refine a2 ?_
 refine Tr.seq (Tr.block (Tr.BE _ (kk [1,0] rfl) (fun k:Nat=>[(5,int ((k:Nat):Int))]) (fun k:Nat=>k≤l.length∧(∀j y,j<k→l[j]? =some y→y<n)) (fun k:Nat=>l.length-k) 0 (⟨Nat.zero_le _,fun j y hj=>absurd hj AA⟩) kz ?_))
 rintro k ⟨BT,hinv⟩
 refine ag ?_ ?_<;>intro h1 q1
 obtain ⟨x,hx⟩:=at_ (l:=l) (k:=k) AA
 refine ac ?_
 refine cy h1 rfl (AD rfl underlying22 Bs vq vq AA (AZ hx)) ?_
 refine ac ?_
 refine wk [17,5,1,0] rfl ?_
 refine Tr.cn rfl ?_ ?_<;>intro h2 q2
 have hq:=h2
 refine a2 ?_
 exact Fin.AO (k+1) ⟨⟨by omega,bsX hinv hx (by simpa using hq)⟩,by omega⟩ ⟨⟨_,rfl,AG k⟩,kz⟩
 have hp:E9 l n=k:=Vj BT hinv (fun y hy=>by have h_:=h2;rw [hx] at hy;cases hy;simpa using h_)
 refine a2 ?_
 refine co rfl (AV rfl (Of (l:=l) (i:=E9 l n) (dR _ _) hl) ⟨kq,⟨_,rfl,int_eq AA⟩,kz⟩) ?_
 refine a2 ?_
 · exact Lr
 have hp:E9 l n=k:=Vj BT hinv (fun y hy=>by have:=BM hy;have:=q1;omega)
 refine ac ?_
 refine wk [17,5,1,0] rfl ?_
 refine a2 ?_
 refine co rfl (AV rfl (Of (l:=l) (i:=E9 l n) (dR _ _) hl) ⟨kq,⟨_,rfl,int_eq AA⟩,kz⟩) ?_
 refine a2 ?_
 · exact Lr
def TS (e:B7) (c:Ba):Int:=
 if Gp e=false then 19 else if ¬Jp c then 40
 else if c.kind=1∧(c.at_<0∨(e.A9.length:Int)<c.at_) then 2
 else if c.kind=5∧(c.at_<0∨(e.ids.length:Int)<c.at_) then 2
 else if (c.kind=11∨c.kind=12)∧(c.number≠0∧c.number≠1) then 2
 else if (Gg e c.kind).2.2=true∧decide (0≤idx (fun y=>c.number==y) (Gg e c.kind).1)=(Gg e c.kind).2.1 then 41
 else if (H_ e c.kind).2=true∧(H_ e c.kind).1=c.number then 41
 else if c.kind=5∧0<F8 c.C6.CU e.ids then 41
 else if c.kind=6∧F8 c.number e.ids=0 then 41
 else if c.kind=6∧1<F8 c.number e.ids then 5 else 0
theorem WO {l:List Int} (hs:t_ l) {n:Int}:idx (fun y=>n==y) l=if F7 l n=true then ((E9 l n:Nat):Int) else -1:=by
 by_cases h:F7 l n=true
 ·
  rw [if_pos h]
  obtain ⟨y,hy⟩:=at_ (Vl h)
  have hyn:y=n:=by have h2:=dU rfl hy;rw [h] at h2;simpa using h2.symm
  exact (EX (p:=fun y=>n==y) hy (by simp [hyn]) (fun j z hj hz=>by have:=Vk hj hz;simp;omega)).symm
 ·
  rw [if_neg h]
  refine (Fz (p:=fun y=>n==y) (fun j z hj hz=> ?_)).symm
  simp only [beq_eq_false_iff_ne,ne_eq]
  intro hn;subst hn
  rcases Nat.lt_trichotomy j (E9 l n) with h1|h1|h1
  · have:=Vk h1 hz;omega
  · subst h1;exact h (by rw [dU rfl hz];simp)
  ·
   obtain ⟨y,hy⟩:=at_ (l:=l) (k:=E9 l n) (by have:=BM hz;omega)
   have h2:=dS hy
   have h3:=uA hs h1 hy hz
   omega
theorem vW {l:List IF} {n:Int} {x:IF} (h0:¬Bn n l<0) (hx:l[(Bn n l).toNat]? =some x):(1<F8 n l)↔((l.drop (Bn n l+1).toNat).any fun x=>x.CU==n)=true:=by
 obtain ⟨y,hy,hp,hlt⟩:=P6 (p:=HY n) (l:=l) (by rw [←GV];omega)
 rw [←GV] at hy hlt
 have hsplit:l=l.take (Bn n l).toNat++y::l.drop ((Bn n l).toNat+1):=by
  rw [List.getElem?_eq_getElem hlt] at hy;cases hy
  rw [List.getElem_cons_drop];exact (List.take_append_drop _ _).symm
 have h1:(l.take (Bn n l).toNat).countP (HY n)=0:=by
  refine Nl.1 (Int.not_le.1 fun h2=> ?_)
  obtain ⟨z,hz,hzp,hzl⟩:=P6 h2
  have e1:Bn n l=idx (HY n) (l.take (Bn n l).toNat):=by
   obtain ⟨i,hi⟩:∃i:Nat,idx (HY n) (l.take (Bn n l).toNat)=(i:Int):=⟨_,(Int.toNat_of_nonneg h2).symm⟩
   have h3:((l.take (Bn n l).toNat).findIdx? (HY n))=some i:=by
    unfold idx at hi;cases h4:(l.take (Bn n l).toNat).findIdx? (HY n) with
    |none=>rw [h4] at hi;simp at hi
    |some k=>rw [h4] at hi;rw [show k=i by simp at hi;omega]
   have h5:l.findIdx? (HY n)=some i:=by
    rw [←List.take_append_drop (Bn n l).toNat l,List.findIdx?_append,h3];rfl
   have e2:idx (HY n) l=(i:Int):=by unfold idx;rw [h5]
   exact e2.trans hi.symm
  rw [←e1] at hzl;rw [List.length_take] at hzl;omega
 have h2:l.countP (HY n)=1+(l.drop ((Bn n l).toNat+1)).countP (HY n):=by
  conv=>lhs;rw [hsplit]
  rw [List.countP_append,h1,List.countP_cons,hp];simp;omega
 unfold F8;rw [h2,show (Bn n l+1).toNat=(Bn n l).toNat+1 by omega]
 show _↔(List.any _ (HY n))=true
 rw [List.any_eq_true,←List.countP_pos_iff];omega
theorem vX {l:List Int} {n:Int}:decide (0≤idx (fun y=>n==y) l)=l.any fun y=>n==y:=P3 _ _
theorem QZ {l:List Int} (hs:t_ l) {n:Int}:decide (0≤idx (fun y=>n==y) l)=F7 l n:=by
 rw [WO hs];cases F7 l n<;>simp
theorem YK {e:B7} {c:Ba} (hce:Gp e=true) (hc:Jp c):TS e c=match CE e c with| .error f=>f| .ok _=>0:=by
 have ok:=DP.1 hce
 have ha:=P8 ok.anc;have hh:=P8 ok.hash
 have hk:=hc.1
 unfold TS
 rw [if_neg (by rw [hce];decide),if_neg (not_not_intro hc)]
 have h0:c.kind=1∨c.kind=2∨c.kind=3∨c.kind=4∨c.kind=5∨c.kind=6∨c.kind=7∨c.kind=8∨c.kind=9∨c.kind=10∨c.kind=11∨c.kind=12:=by omega
 rcases h0 with h|h|h|h|h|h|h|h|h|h|h|h
 ·
  rw [P9 h];unfold Gg H_;simp only [h]
  by_cases h1:c.at_<0∨(e.A9.length:Int)<c.at_
  ·
   have h2:¬(0≤c.at_∧c.at_≤(e.A9.length:Int)):=by omega
   simp [h1,h2]
  ·
   have h2:0≤c.at_∧c.at_≤(e.A9.length:Int):=by omega
   have h3:=vX (l:=e.A9) (n:=c.number)
   have h4:(0≤idx (fun y=>c.number==y) e.A9)↔(e.A9.any fun y=>c.number==y)=true:=by rw [←h3,decide_eq_true_eq]
   by_cases h5:(e.A9.any fun y=>c.number==y)=true
   · have h6:=h4.2 h5;simp only [h5];simp [h1,h2,h6]
   ·
    have h6:¬0≤idx (fun y=>c.number==y) e.A9:=fun h=>h5 (h4.1 h)
    simp only [h5];simp [h1,h2,h6]
 ·
  rw [P_ h];unfold Gg H_ NR;simp only [h]
  by_cases h1:idx (fun y=>c.number==y) e.A9<0
  · simp [h1]
  · simp [h1]
 · rw [QA h];unfold Gg H_;simp only [h];by_cases h1:e.most=c.number<;>simp [h1]
 · rw [QB h];unfold Gg H_;simp only [h];by_cases h1:e.least=c.number<;>simp [h1]
 ·
  rw [QC h];unfold Gg H_;simp only [h]
  have uf:=Nl (p:=HY c.C6.CU) (l:=e.ids)
  rw [←GV] at uf
  by_cases h1:c.at_<0∨(e.ids.length:Int)<c.at_
  ·
   have h2:¬(0≤c.at_∧c.at_≤(e.ids.length:Int)):=by omega
   simp [h1,h2]
  ·
   have h3:0≤c.at_∧c.at_≤(e.ids.length:Int):=by omega
   by_cases h2:0≤Bn c.C6.CU e.ids
   ·
    have:0<F8 c.C6.CU e.ids:=by unfold F8;omega
    simp [h1,h2,h3,this]
   ·
    have:¬0<F8 c.C6.CU e.ids:=by unfold F8;omega
    simp [h1,h2,h3,this]
 ·
  rw [QD h];unfold Gg H_;simp only [h]
  have uf:=Nl (p:=HY c.number) (l:=e.ids)
  rw [←GV] at uf
  by_cases h2:Bn c.number e.ids<0
  ·
   have:F8 c.number e.ids=0:=by unfold F8;omega
   cases e.ids[(Bn c.number e.ids).toNat]? <;>simp [h2,this]
  ·
   have h3:¬F8 c.number e.ids=0:=by unfold F8;omega
   obtain ⟨x,hx,_,_⟩:=P6 (p:=fun x:IF=>x.CU==c.number) (l:=e.ids) (by unfold Bn at h2;omega)
   have hx:e.ids[(Bn c.number e.ids).toNat]? =some x:=hx
   have hd:=vW h2 hx
   rw [hx];simp only [if_neg h2]
   by_cases h4:((e.ids.drop (Bn c.number e.ids+1).toNat).any fun x=>x.CU==c.number)=true
   · have:=hd.2 h4;simp only [h4];simp [h3,this]
   ·
    have:¬1<F8 c.number e.ids:=fun h5=>h4 (hd.1 h5)
    simp only [h4];simp [h3,this]
 ·
  rw [QE h];unfold Gg H_;simp only [h]
  have h1:(0≤idx (fun y=>c.number==y) e.anchors)↔F7 e.anchors c.number=true:=by rw [←QZ ha,decide_eq_true_eq]
  by_cases h2:F7 e.anchors c.number=true
  · exact Pq
  ·
   have h3:¬0≤idx (fun y=>c.number==y) e.anchors:=fun h=>h2 (h1.1 h)
   simp [h2,h3]
 ·
  rw [QF h];unfold Gg H_;simp only [h]
  have h1:(0≤idx (fun y=>c.number==y) e.anchors)↔F7 e.anchors c.number=true:=by rw [←QZ ha,decide_eq_true_eq]
  by_cases h2:F7 e.anchors c.number=true
  · exact Pq
  ·
   have h3:¬0≤idx (fun y=>c.number==y) e.anchors:=fun h=>h2 (h1.1 h)
   simp [h2,h3]
 ·
  rw [QG h];unfold Gg H_;simp only [h]
  have h1:(0≤idx (fun y=>c.number==y) e.hashes)↔F7 e.hashes c.number=true:=by rw [←QZ hh,decide_eq_true_eq]
  by_cases h2:F7 e.hashes c.number=true
  · exact Pq
  ·
   have h3:¬0≤idx (fun y=>c.number==y) e.hashes:=fun h=>h2 (h1.1 h)
   simp [h2,h3]
 ·
  rw [NS h];unfold Gg H_;simp only [h]
  have h1:(0≤idx (fun y=>c.number==y) e.hashes)↔F7 e.hashes c.number=true:=by rw [←QZ hh,decide_eq_true_eq]
  by_cases h2:F7 e.hashes c.number=true
  · exact Pq
  ·
   have h3:¬0≤idx (fun y=>c.number==y) e.hashes:=fun h=>h2 (h1.1 h)
   simp [h2,h3]
 ·
  rw [NT h];unfold Gg H_;simp only [h]
  by_cases h1:0≤c.number∧c.number≤1
  ·
   have:¬(c.number≠0∧c.number≠1):=by omega
   by_cases h2:LW e.EL=c.number<;>simp [this,h1,h2]
  ·
   have:c.number≠0∧c.number≠1:=by omega
   simp [this,h1]
 ·
  rw [NU h];unfold Gg H_;simp only [h]
  by_cases h1:0≤c.number∧c.number≤1
  ·
   have:¬(c.number≠0∧c.number≠1):=by omega
   by_cases h2:LW e.own=c.number<;>simp [this,h1,h2]
  ·
   have:c.number≠0∧c.number≠1:=by omega
   simp [this,h1]
theorem vY {e:B7} {c:Ba} (h:TS e c≠0):EM e c=(FO,H6,TS e c):=by
 by_cases hce:Gp e=false
 ·
  have:TS e c=19:=by unfold TS;rw [if_pos hce]
  rw [this];unfold EM;rw [if_pos hce]
 ·
  by_cases hc:Jp c
  ·
   have hce:Gp e=true:=by simpa using hce
   have hs:=YK hce hc
   cases h2:CE e c with
   |error f=>rw [h2] at hs;rw [gq hce hc h2,show TS e c=f from hs]
   |ok r=>rw [h2] at hs;exact absurd hs h
  ·
   have:TS e c=40:=by unfold TS;rw [if_neg hce,if_pos hc]
   rw [this];unfold EM;rw [if_neg hce,if_pos hc]
theorem zk {e:B7} {c:Ba} (h:TS e c=0):Gp e=true∧Jp c∧∃e2 b,CE e c= .ok (e2,b):=by
 by_cases hce:Gp e=false
 ·
  have:TS e c=19:=by unfold TS;rw [if_pos hce]
  rw [this] at h;cases h
 ·
  by_cases hc:Jp c
  ·
   have hce:Gp e=true:=by simpa using hce
   have hs:=YK hce hc
   cases h2:CE e c with
   |error f=>
    rw [h2] at hs;rw [h] at hs
    have h3:(0:Int)=f:=hs
    have:=Xf hc h2;omega
   |ok r=>exact ⟨hce,hc,r.1,r.2,rfl⟩
  ·
   have:TS e c=40:=by unfold TS;rw [if_neg hce,if_pos hc]
   rw [this] at h;cases h
theorem SY {β γ:Type} {f:β→γ} {l:List β} {k:Nat} {x:β} (h:l[k]? =some x):(l.take k).map f++[f x]=(l.take (k+1)).map f:=by rw [List.take_add_one,h,List.map_append];rfl
theorem MW {x:IF} (hx:x.small):BF prog 146 [agg (FG x)] (agg (FG x)):=by
 refine fo func146 rfl ⟨rfl,rfl⟩ fun M0 w0=> ?_
 have hch:=hx.chain
 refine Tr.seq (Tr.Ap (tp rfl (Bh rfl C3) ?_))
 refine Tl rfl rfl rfl rfl Wf S5 (fun b1=> ?_)
 refine ap ?_
 refine ap ?_
 refine Tl rfl rfl rfl rfl Wf S5 (fun b2=> ?_)
 refine ap ?_
 refine ac ?_
 refine wk [14,13,12,3,2] rfl (Tr.block (Tr.HZ 0 [int x.CG,int x.bits,int x.CU,Aa (.slice none 0 0) (slice 15 ((x.chain.take 0).map DW))] rfl ⟨Lr,Lr,Lr,Bp rfl,trivial⟩ (Tr.CC 189 15 (Tr.Es _ (kk [13,12,3,2] rfl) (fun k v=>[(14,int ((k:Nat):Int))]) (fun k v=>Hp M0 w0 Fo ([Au 189 15 v,AF true b2 84 [int x.CG,int x.bits,int x.CU,Aa v (slice 15 ((x.chain.take k).map DW))],AF true b1 84 (([.int .i64 0,.int .i64 0,.int .i64 0,.slice none 0 0]:List Value).map is)])) (fun k:Nat=>k≤(x.chain).length) (fun k:Nat=>(x.chain).length-k) 0 (.slice none 0 0) (Nat.zero_le _) kz (fun _ _ h=>h) ?_))))
 rintro k v BT
 refine ac ?_
 refine Tr.seq ?_
 refine Tr.cn rfl ?_ ?_<;>intro h1 q1
 have Ai:k<(x.chain).length:=AH h1
 obtain ⟨c,Ah⟩:=at_ Ai
 have hcn:=hx.names c (List.mem_of_getElem? Ah)
 refine ac ?_
 refine Tr.seq (Tr.block (Tr.seq (Tr.Ap (tp rfl (AD rfl underlying82 DF vq vq AA CO) ?_))))
 refine tp rfl (AM rfl GN DF vq rfl rfl) ?_
 refine Tl rfl rfl rfl rfl RM Lh (fun b3=> ?_)
 refine ap ?_
 refine ap ?_
 refine tp rfl (JN rfl underlying127 NC by9 z9 rfl AB vq PZ Pk) ?_
 refine ap ?_
 refine wk [14,13,12,5,3,2] rfl ?_
 refine ap ?_
 refine TO.Dl 1 rfl rfl AB (CB rfl rfl rfl rfl underlying82 DF wR RM Iy Gn (BC BR KJ)) (fun v1=> ?_)
 refine ap ?_
 refine Tr.drop 0 ?_
 refine ac ?_
 refine Fin.HZ 1 [int x.CG,int x.bits,int x.CU,Aa v1 (slice 15 ((x.chain.take (k+1)).map DW))] rfl ⟨Lr,Lr,Lr,BJ (SY (f:=DW) Ah),trivial⟩ (Fin.DU (k+1) v1 (⟨Ai,by omega⟩) ⟨⟨_,rfl,AG k⟩,kz⟩ (fun _ _ h=>h))
 have BP:k=(x.chain).length:=by have:=AJ h1;omega
 subst BP
 refine ac ?_
 refine ap ?_
 refine Tr.ret (Fin.Cb rfl (AL.cell 2 rfl rfl Ov E8 rfl Lr) ?_)
 · exact BU ⟨Lr,Lr,Lr,Pr.le_trans (As _ _) (Pr.le_of_eq Pp),trivial⟩
theorem au {c:Ba} (hx:c.C6.small):BF prog 86 [agg (Ew c)] (agg (Ew c)):=by
 refine fo func86 rfl ⟨rfl,rfl⟩ fun M0 w0=>(Tr.seq (Tr.Ap ?_))
 refine TO.VG rfl rfl AB rfl C3 (fun b1=> ?_)
 refine Tl rfl rfl rfl rfl Py LU (fun b2=> ?_)
 refine ap ?_
 refine ap ?_
 refine tp rfl (Cz (MW (x:=c.C6) hx) rfl rfl) ?_
 refine ap ?_
 refine ap ?_
 refine Tr.drop 1 (Tr.ret (Fin.Cb rfl (AL.cell 0 rfl rfl Hw Dr rfl Lr) ?_))
 · exact Lr
theorem UT {e:B7} (Gb:e.small):BF prog 302 [agg (Be e)] (agg (Be e)):=by
 refine fo func302 rfl ⟨rfl,rfl⟩ fun M0 w0=> ?_
 have hs1:=Gb.A9
 have S8:=Gb.anchors
 have hs3:=Gb.hashes
 have hs4:=Gb.Yy
 refine Tr.seq (Tr.Ap (tp rfl (Bh rfl (Va rfl)) ?_))
 refine Tl rfl rfl rfl rfl z40 Hh (fun b1=> ?_)
 refine ao ?_
 refine ao ?_
 refine Tl rfl rfl rfl rfl z40 Hh (fun b2=> ?_)
 refine TO.AK 0 rfl rfl rfl (vl rfl) (Va rfl) rfl Bw rfl rfl ?_
 refine ao ?_
 refine Tr.seq (Tr.rx ?_)
 refine ax ?_
 refine xo rfl (fun _=>JN rfl underlying22 Bs Iw z3 rfl AB (vl rfl) PZ Pk) ?_
 refine ax ?_
 refine xo rfl (fun _=>JN rfl underlying22 Bs Iw z3 rfl AB (vl rfl) PZ Pk) ?_
 refine ax ?_
 refine xo rfl (fun _=>JN rfl underlying22 Bs Iw z3 rfl AB (vl rfl) PZ Pk) ?_
 refine xo rfl (fun _=>AW rfl OG (vl rfl)) (Cx.DG 0 rfl rfl (Aw rfl rfl (vl rfl) (Vo rfl) L7 rfl Az rfl) (xo rfl (fun _=>AW rfl lW (vl rfl)) (Cx.DG 0 rfl rfl (Aw rfl rfl (vl rfl) (Vo rfl) L7 rfl Az rfl) (xo rfl (fun _=>AW rfl lX (vl rfl)) (Cx.DG 0 rfl rfl (Aw rfl rfl (vl rfl) (Vo rfl) L7 rfl Az rfl) ?_)))))
 refine Cx.nil ⟨by kernel_rfl,?_⟩
 refine BI.done XU (Fin.go (wk [3,2,1] rfl ?_))
 refine ao ?_
 refine TO.DG 0 rfl rfl (Aw rfl rfl (vl rfl) (Vo rfl) lU rfl Az rfl) ?_
 refine ao ?_
 refine ac ?_
 refine Tr.block (Tr.HZ 0 [str e.name,int e.least,int e.most,ints e.A9,bool e.own,Aa (.slice none 0 0) (slice 4 ((e.ids.take 0).map FG)),ints e.anchors,ints e.hashes,bool e.EL] rfl ⟨Lr,Lr,Lr,Lr,Lr,Bp rfl,Lr,Lr,Lr,trivial⟩ (Tr.CC 84 4 (Tr.Es _ (kk [22,21,3,2] rfl) (fun k v=>[(23,int ((k:Nat):Int))]) (fun k v=>Hp M0 w0 Fo ([Au 84 4 v,AF true b2 40 [str e.name,int e.least,int e.most,ints e.A9,bool e.own,Aa v (slice 4 ((e.ids.take k).map FG)),ints e.anchors,ints e.hashes,bool e.EL],AF true b1 40 (([.string (ByteArray.mk #[]),.int .i64 0,.int .i64 0,.slice none 0 0,.bool false,.slice none 0 0,.slice none 0 0,.slice none 0 0,.bool false]:List Value).map is)])) (fun k:Nat=>k≤(e.ids).length) (fun k:Nat=>(e.ids).length-k) 0 (.slice none 0 0) (Nat.zero_le _) kz (fun _ _ h=>h) ?_)))
 rintro k v BT
 refine ac ?_
 refine Tr.seq ?_
 refine Tr.cn rfl ?_ ?_<;>intro h1 q1
 have Ai:k<(e.ids).length:=AH h1
 obtain ⟨x,Ah⟩:=at_ Ai
 have hxs:=Gb.ids x (List.mem_of_getElem? Ah)
 refine ac ?_
 refine Tr.seq (Tr.block (Tr.seq (Tr.Ap (tp rfl (AD rfl underlying38 E8 (vl rfl) (vl rfl) AA CO) ?_))))
 refine tp rfl (AM rfl Ov E8 (vl rfl) rfl rfl) ?_
 refine Tl rfl rfl rfl rfl Wf S5 (fun b3=> ?_)
 refine sf 0 5 ⟨rfl,rfl,rfl⟩ rfl rfl rfl rfl ?_
 refine ao ?_
 refine Tr.pad (Tr.rx ?_)
 refine ax ?_
 refine xo rfl (fun _=>Cz (MW hxs) rfl rfl) (xo rfl (fun _=>AP (xs:=[.tmp 30]) (rows:=[_]) rfl rfl underlying38 E8 Wf rfl AB ⟨⟨Ao,(Va rfl)⟩,trivial⟩ AB) ?_)
 refine Cx.ef 1 rfl rfl AB (CB rfl rfl rfl rfl underlying38 E8 gL Wf (Kb rfl) (Kf rfl) (BC BR (Ka rfl))) ?_
 refine xo rfl (fun _=>AW rfl RF (vl rfl)) (Cx.DG 2 rfl rfl (GL rfl rfl rfl (vl rfl) rfl lU Az) ?_)
 refine Cx.nil ⟨by kernel_rfl,?_⟩
 refine BI.RE 1 2 32 rfl rfl AB rfl (fun v1=> ?_)
 refine BI.done al4 ?_
 refine ac ?_
 refine Tr.drop 0 (wk [23,22,21,3,2] rfl ?_)
 refine ac ?_
 refine Fin.HZ 1 [str e.name,int e.least,int e.most,ints e.A9,bool e.own,Aa v1 (slice 4 ((e.ids.take (k+1)).map FG)),ints e.anchors,ints e.hashes,bool e.EL] rfl ⟨Lr,Lr,Lr,Lr,Lr,BJ (SY (f:=FG) Ah),Lr,Lr,Lr,trivial⟩ (Fin.DU (k+1) v1 (⟨Ai,by omega⟩) ⟨⟨_,rfl,AG k⟩,kz⟩ (fun _ _ h=>h))
 have BP:k=(e.ids).length:=by have:=AJ h1;omega
 subst BP
 refine ac ?_
 refine ao ?_
 refine TO.AK 2 rfl rfl rfl (vl rfl) (Va rfl) rfl Bw rfl rfl ?_
 refine ao ?_
 refine Tr.ret (Fin.Cb rfl (AL.cell 2 rfl rfl CD Bw rfl Lr) ?_)
 · exact BU ⟨Lr,Lr,Lr,Lr,Lr,Pr.le_trans (As _ _) (Pr.le_of_eq Pp),Lr,Lr,Lr,trivial⟩
theorem WQ {e:B7} {c:Ba} (Gb:e.small) (hcs:c.C6.small):BF prog 315 [agg (Be e),agg (Ew c)] (int (TS e c)):=by
 refine fo func315 rfl ⟨rfl,rfl⟩ fun M0 w0=> ?_
 refine ac ?_
 refine ac ?_
 refine co rfl (Cz (FY Gb) rfl rfl) ?_
 refine ac ?_
 refine Tr.cn rfl ?_ ?_<;>intro h1 q1
 refine ac ?_
 refine ac ?_
 · refine int_eq ?_;unfold TS;repeat (refine (if_pos ?_).symm;simp_all)
 refine ac ?_
 refine ac ?_
 refine co rfl (Cz (jL (c:=c) hcs) rfl rfl) ?_
 refine ac ?_
 refine Tr.cn rfl ?_ ?_<;>intro h2 q2
 refine ac ?_
 refine ac ?_
 · exact Y5
 refine ac ?_
 refine Ti 2 3 rfl (Tr.Q5 [2,3] [] (¬(c.kind=1∧(c.at_<0∨(e.A9.length:Int)<c.at_))∧¬(c.kind=5∧(c.at_<0∨(e.ids.length:Int)<c.at_))∧¬((c.kind=11∨c.kind=12)∧(c.number≠0∧c.number≠1))) ?_ (fun AIa=> ?_))
 refine ac ?_
 refine ac ?_
 refine Tr.cn rfl ?_ ?_<;>intro h4 q4
 refine ac ?_
 refine Ch.cs 27 rfl ?_ ?_<;>intro h5 q5
 refine ac ?_
 refine Gk 2 3 34 rfl ?_
 refine ac ?_
 refine ac ?_
 · exact Y5
 refine ac ?_
 refine Gk 2 3 34 rfl ?_
 refine Tr.cn rfl ?_ ?_<;>intro h6 q6
 refine ac ?_
 refine ac ?_
 · exact Y5
 refine Tr.skip (Fin.block (Fin.AO () AA (ZL rfl)))
 refine ac ?_
 refine Tr.cn rfl ?_ ?_<;>intro h7 q7
 refine ac ?_
 refine Ch.cs 40 rfl ?_ ?_<;>intro h8 q8
 refine ac ?_
 refine Gk 2 3 47 rfl ?_
 refine ac ?_
 refine ac ?_
 · exact Lx
 refine ac ?_
 refine Gk 2 3 47 rfl ?_
 refine Tr.cn rfl ?_ ?_<;>intro h9 q9
 refine ac ?_
 refine ac ?_
 · exact Lx
 refine Tr.skip (Fin.block (Fin.AO () AA (ZL rfl)))
 refine ac ?_
 refine Tr.cn rfl ?_ ?_<;>intro h10 Sx
 refine ac ?_
 refine Tr.cond rfl (fun _=> ?_) (fun h=>nomatch h10.symm.trans h)
 refine ac ?_
 refine Ch.cs 54 rfl ?_ ?_<;>intro h11 Ty
 refine ac ?_
 refine Gk 2 3 58 rfl ?_
 refine Tr.cn rfl ?_ ?_<;>intro h12 XY
 refine ac ?_
 refine ac ?_
 · exact Lx
 refine Tr.skip (Fin.block (Fin.AO () AA (ZL rfl)))
 refine ac ?_
 refine Gk 2 3 58 rfl (Tr.cond rfl (fun h=>nomatch h) (fun _=> ?_))
 refine Tr.skip (Fin.block (Fin.AO () AA (ZL rfl)))
 refine ac ?_
 refine Tr.cn rfl ?_ ?_<;>intro J0 dY
 refine ac ?_
 refine Ch.cs 54 rfl ?_ ?_<;>intro J1 nB
 refine ac ?_
 refine Gk 2 3 58 rfl ?_
 refine Tr.cn rfl ?_ ?_<;>intro OB q15
 refine ac ?_
 refine ac ?_
 · exact Lx
 refine Tr.skip (Fin.block (Fin.AO () AA (ZL rfl)))
 refine ac ?_
 refine Gk 2 3 58 rfl (Tr.cond rfl (fun h=>nomatch h) (fun _=> ?_))
 refine Tr.skip (Fin.block (Fin.AO () AA (ZL rfl)))
 refine Tr.skip (Fin.block (Fin.AO () AA (ZL rfl)))
 refine Ti 2 3 rfl (Tr.Q5 [2,3] [] (¬((Gg e c.kind).2.2=true∧decide (0≤idx (fun y=>c.number==y) (Gg e c.kind).1)=(Gg e c.kind).2.1)) ?_ (fun AIb=> ?_))
 refine ac ?_
 refine co rfl (CS (YJ) rfl rfl rfl) ?_
 refine ac ?_
 refine ac ?_
 refine Ch.cs 68 rfl ?_ ?_<;>intro Jg m8
 refine ac ?_
 refine cy Jg rfl (CS (Jb) rfl rfl rfl) ?_
 refine ac ?_
 refine Gk 2 3 76 rfl ?_
 refine Tr.cn rfl ?_ ?_<;>intro NB q18
 refine ac ?_
 refine ac ?_
 · exact kG
 refine Tr.skip (Fin.AO () Br (ZL rfl))
 refine ac ?_
 refine Gk 2 3 76 rfl (Tr.cond rfl (fun h=>nomatch h) (fun _=> ?_))
 refine Tr.skip (Fin.AO () Br (ZL rfl))
 refine Ti 2 3 rfl (Tr.Q5 [2,3] [] (¬((H_ e c.kind).2=true∧(H_ e c.kind).1=c.number)) ?_ (fun hval=> ?_))
 refine ac ?_
 refine co rfl (CS (aq) rfl rfl rfl) ?_
 refine ac ?_
 refine ac ?_
 refine Ch.cs 85 rfl ?_ ?_<;>intro NQ q20
 refine ac ?_
 refine Gk 2 3 90 rfl ?_
 refine Tr.cn rfl ?_ ?_<;>intro dQ q21
 refine ac ?_
 refine ac ?_
 · exact kG
 refine Tr.skip (Fin.AO () Br (ZL rfl))
 refine ac ?_
 refine Gk 2 3 90 rfl (Tr.cond rfl (fun h=>nomatch h) (fun _=> ?_))
 refine Tr.skip (Fin.AO () Br (ZL rfl))
 refine Ti 2 3 rfl (Tr.Q5 [2,3] [] (¬(c.kind=5∧0<F8 c.C6.CU e.ids)) ?_ (fun AIc=> ?_))
 refine ac ?_
 refine Tr.cn rfl ?_ ?_<;>intro h23 q23
 refine ac ?_
 refine co rfl (CS (Oe Gb.Yy) rfl rfl rfl) ?_
 refine ac ?_
 refine Gk 2 3 10 rfl ?_
 refine ac ?_
 refine Tr.cn rfl ?_ ?_<;>intro Ns q24
 refine ac ?_
 refine ac ?_
 · exact Lx
 refine Tr.skip (Fin.AO () AA (ZL rfl))
 refine Tr.skip (Fin.AO () AA (ZL rfl))
 refine ac ?_
 refine Tr.cn rfl ?_ ?_<;>intro h25 q25
 refine ac ?_
 refine co rfl (CS (Oe Gb.Yy) rfl rfl rfl) ?_
 refine ac ?_
 refine Nu 12 rfl ?_
 refine ac ?_
 refine Tr.cn rfl ?_ ?_<;>intro h26 q26
 refine ac ?_
 refine ac ?_
 · exact Lx
 refine ac ?_
 refine ac ?_
 refine Tr.cn rfl ?_ ?_<;>intro h27 q27
 refine ac ?_
 refine ac ?_
 · exact Lx
 refine ac ?_
 refine ac ?_
 refine ac ?_
 · exact kL
 refine ac ?_
 refine ac ?_
 refine ac ?_
 · exact kL
def UU (e:Dn) (c:Ba):Dn×Int:=if (Ln e.Bu c).2=0 then (⟨(Ln e.Bu c).1,e.BX,e.items⟩,0) else (GR,(Ln e.Bu c).2)
def WR (x:Iz) (l:List Ba) (i:Nat):Bool:=(l[i]?).any fun c=>decide (c.AY=x.client∨c.AY=x.server)
def Og (x:Iz) (l:List Ba) (k:Nat):List Int:=((List.range k).filter (WR x l)).map fun i:Nat=>(i:Int)
theorem YL {x:Iz} {l:List Ba} {k:Nat} (h:WR x l k=true):Og x l (k+1)=Og x l k++[(k:Int)]:=by unfold Og;rw [List.range_succ,List.filter_append,List.map_append];simp [h]
theorem vZ {x:Iz} {l:List Ba} {k:Nat} (h:WR x l k=false):Og x l (k+1)=Og x l k:=by unfold Og;rw [List.range_succ,List.filter_append,List.map_append];simp [h]
theorem YM (x:Iz) (l:List Ba) (k:Nat):(Og x l k).length≤k:=by unfold Og;rw [List.length_map];exact Nat.le_trans (List.length_filter_le _ _) Pc
def J9 (e:Dn) (l:List Ba) (k:Int):List Int×Int:=
 if Fc e=false then ([],31) else if 24<l.length then ([],3) else if k<0∨((e.BX.length:Nat):Int)≤k then ([],4)
 else (Og (e.BX[k.toNat]?.getD G2) l l.length,0)
theorem AHF {e e2:B7} {c b:Ba} (h:c.kind=1) (hs:CE e c= .ok (e2,b)):(0≤c.at_∧c.at_≤(e.A9.length:Nat))∧e2={ e with A9:=e.A9.take c.at_.toNat++[c.number]++e.A9.drop c.at_.toNat }∧b=⟨c.AY,2,c.number,0,B5⟩:=by
 rw [P9 h] at hs
 (repeat' (split at hs))<;>first|(cases hs;done)|(injection hs with hs;injection hs with h1 h2;exact ⟨by omega,h1.symm,h2.symm⟩)
theorem AHG {e e2:B7} {c b:Ba} (h:c.kind=2) (hs:CE e c= .ok (e2,b)):(0≤NR e c)∧e2={ e with A9:=e.A9.eraseIdx (NR e c).toNat }∧b=⟨c.AY,1,c.number,NR e c,B5⟩:=by
 rw [P_ h] at hs
 (repeat' (split at hs))<;>first|(cases hs;done)|(injection hs with hs;injection hs with h1 h2;exact ⟨by omega,h1.symm,h2.symm⟩)
theorem AHH {e e2:B7} {c b:Ba} (h:c.kind=3) (hs:CE e c= .ok (e2,b)):e2={ e with most:=c.number }∧b=⟨c.AY,c.kind,e.most,0,B5⟩:=by
 rw [QA h] at hs
 (repeat' (split at hs))<;>first|(cases hs;done)|(injection hs with hs;injection hs with h1 h2;exact ⟨h1.symm,h2.symm⟩)
theorem AHI {e e2:B7} {c b:Ba} (h:c.kind=4) (hs:CE e c= .ok (e2,b)):e2={ e with least:=c.number }∧b=⟨c.AY,c.kind,e.least,0,B5⟩:=by
 rw [QB h] at hs
 (repeat' (split at hs))<;>first|(cases hs;done)|(injection hs with hs;injection hs with h1 h2;exact ⟨h1.symm,h2.symm⟩)
theorem AHJ {e e2:B7} {c b:Ba} (h:c.kind=5) (hs:CE e c= .ok (e2,b)):(0≤c.at_∧c.at_≤(e.ids.length:Nat))∧e2={ e with ids:=e.ids.take c.at_.toNat++[c.C6]++e.ids.drop c.at_.toNat }∧b=⟨c.AY,6,c.C6.CU,0,B5⟩:=by
 rw [QC h] at hs
 (repeat' (split at hs))<;>first|(cases hs;done)|(injection hs with hs;injection hs with h1 h2;exact ⟨by omega,h1.symm,h2.symm⟩)
theorem AHK {e e2:B7} {c b:Ba} (h:c.kind=6) (hs:CE e c= .ok (e2,b)):∃x,e.ids[(Bn c.number e.ids).toNat]? =some x∧0≤Bn c.number e.ids∧e2={ e with ids:=e.ids.eraseIdx (Bn c.number e.ids).toNat }∧b=⟨c.AY,5,0,Bn c.number e.ids,x⟩:=by
 rw [QD h] at hs
 (repeat' (split at hs))<;>first|(cases hs;done)|(injection hs with hs;injection hs with h1 h2;exact ⟨_,by assumption,by omega,h1.symm,h2.symm⟩)
theorem AHL {e e2:B7} {c b:Ba} (h:c.kind=7) (hs:CE e c= .ok (e2,b)):F7 e.anchors c.number=false∧e2={ e with anchors:=Zh e.anchors c.number }∧b=⟨c.AY,8,c.number,0,B5⟩:=by
 rw [QE h] at hs
 (repeat' (split at hs))<;>first|(cases hs;done)|(injection hs with hs;injection hs with h1 h2;exact ⟨by simp_all,h1.symm,h2.symm⟩)
theorem AHM {e e2:B7} {c b:Ba} (h:c.kind=8) (hs:CE e c= .ok (e2,b)):F7 e.anchors c.number=true∧e2={ e with anchors:=e.anchors.eraseIdx (E9 e.anchors c.number) }∧b=⟨c.AY,7,c.number,0,B5⟩:=by
 rw [QF h] at hs
 (repeat' (split at hs))<;>first|(cases hs;done)|(injection hs with hs;injection hs with h1 h2;exact ⟨by simp_all,h1.symm,h2.symm⟩)
theorem AHN {e e2:B7} {c b:Ba} (h:c.kind=9) (hs:CE e c= .ok (e2,b)):F7 e.hashes c.number=false∧e2={ e with hashes:=Zh e.hashes c.number }∧b=⟨c.AY,10,c.number,0,B5⟩:=by
 rw [QG h] at hs
 (repeat' (split at hs))<;>first|(cases hs;done)|(injection hs with hs;injection hs with h1 h2;exact ⟨by simp_all,h1.symm,h2.symm⟩)
theorem AD0 {e e2:B7} {c b:Ba} (h:c.kind=10) (hs:CE e c= .ok (e2,b)):F7 e.hashes c.number=true∧e2={ e with hashes:=e.hashes.eraseIdx (E9 e.hashes c.number) }∧b=⟨c.AY,9,c.number,0,B5⟩:=by
 rw [NS h] at hs
 (repeat' (split at hs))<;>first|(cases hs;done)|(injection hs with hs;injection hs with h1 h2;exact ⟨by simp_all,h1.symm,h2.symm⟩)
theorem AD1 {e e2:B7} {c b:Ba} (h:c.kind=11) (hs:CE e c= .ok (e2,b)):e2={ e with EL:=(c.number==1) }∧b=⟨c.AY,c.kind,LW e.EL,0,B5⟩:=by
 rw [NT h] at hs
 (repeat' (split at hs))<;>first|(cases hs;done)|(injection hs with hs;injection hs with h1 h2;exact ⟨h1.symm,h2.symm⟩)
theorem AD2 {e e2:B7} {c b:Ba} (h:c.kind=12) (hs:CE e c= .ok (e2,b)):e2={ e with own:=(c.number==1) }∧b=⟨c.AY,c.kind,LW e.own,0,B5⟩:=by
 rw [NU h] at hs
 (repeat' (split at hs))<;>first|(cases hs;done)|(injection hs with hs;injection hs with h1 h2;exact ⟨h1.symm,h2.symm⟩)
theorem vc {e:B7} {c:Ba} (h:0≤NR e c):(NR e c).toNat<e.A9.length:=by obtain ⟨_,_,_,h3⟩:=P6 (p:=fun y=>c.number==y) (l:=e.A9) h;exact h3
theorem jM {e e2:B7} {c b:Ba} (Gb:e.small) (hcs:c.C6.small) (hce:Gp e=true) (hc:Jp c) (hs:CE e c= .ok (e2,b)):BF prog 316 [agg (Be e),agg (Ew c)] (agg (Be e2)):=by
 refine fo func316 rfl ⟨rfl,rfl⟩ fun M0 w0=> ?_
 have hk:=hc.1
 have ok:=DP.1 hce
 have hs1:=Gb.A9
 have S8:=Gb.anchors
 have hs3:=Gb.hashes
 have hs4:=Gb.Yy
 refine Tr.seq (Tr.Ap (tp rfl (Bh rfl (Va rfl)) (tp rfl (Bh rfl (Va rfl)) ?_)))
 refine Tl rfl rfl rfl rfl z40 Hh (fun b1=> ?_)
 refine ap ?_
 refine ap ?_
 refine tp rfl (Cz (UT Gb) rfl rfl) ?_
 refine Tl rfl rfl rfl rfl z40 Hh (fun b2=> ?_)
 refine ap ?_
 refine ac ?_
 refine an ?_ ?_<;>intro h1 q1
 obtain ⟨hr,rfl,rfl⟩:=AHF q1 hs
 refine ap ?_
 refine tp rfl (AV rfl (Of (l:=e.A9) (i:=c.at_.toNat) AA hs1) ⟨ke rfl,⟨_,rfl,int_eq AA⟩,kz⟩) ?_
 refine ap ?_
 refine wk [5,4] rfl ?_
 refine ap ?_
 refine Tr.drop 0 (Tr.ret (Fin.Cb rfl (AL.cell 0 rfl rfl CD Bw rfl Lr) ?_))
 · exact Lr
 refine ac ?_
 refine wk [24,13,5,4,3,2] rfl ?_
 refine Tr.cn rfl ?_ ?_<;>intro h2 q2
 obtain ⟨hr,rfl,rfl⟩:=AHG q2 hs
 refine Tr.rx ?_
 refine ay ?_
 refine xo rfl (fun _=>CS (Jb) rfl rfl rfl) ?_
 refine xo rfl (fun _=>AV rfl (Jc (l:=e.A9) (i:=(NR e c).toNat) (vc hr) hs1) ⟨ke rfl,⟨_,rfl,int_eq (show NR e c=_ by omega)⟩,trivial⟩) ?_
 refine ay ?_
 refine Cx.nil ⟨by kernel_rfl,?_⟩
 refine BI.done XU ?_
 refine ac ?_
 refine wk [5,4] rfl ?_
 refine ap ?_
 refine Tr.drop 0 (Tr.ret (Fin.Cb rfl (AL.cell 0 rfl rfl CD Bw rfl Lr) ?_))
 · exact Lr
 refine an ?_ ?_<;>intro h3 q3
 obtain ⟨rfl,rfl⟩:=AHH q3 hs
 refine ap ?_
 refine ap ?_
 refine Tr.drop 0 (Tr.ret (Fin.Cb rfl (AL.cell 0 rfl rfl CD Bw rfl Lr) ?_))
 · exact Lr
 refine an ?_ ?_<;>intro h4 q4
 obtain ⟨rfl,rfl⟩:=AHI q4 hs
 refine ap ?_
 refine ap ?_
 refine Tr.drop 0 (wk [4] rfl (Tr.ret (Fin.Cb rfl (AL.cell 0 rfl rfl CD Bw rfl Lr) ?_)))
 · exact Lr
 refine an ?_ ?_<;>intro h5 q5
 obtain ⟨hr,rfl,rfl⟩:=AHJ q5 hs
 refine ap ?_
 refine tp rfl (D6 rfl underlying38 E8 (vl rfl) (vl rfl) AA CF) ?_
 refine TO.pad ?_
 refine TO.Dl 0 rfl rfl AB (EZ rfl rfl AB rfl underlying38 E8 gL Wf rfl AB ⟨_,rfl,AQ _⟩ (vl rfl) J4 J6 (Bv BR ⟨_,rfl,DT 1⟩)) (fun v1=> ?_)
 refine ap ?_
 refine wk [6,5,4,3] rfl ?_
 refine ap ?_
 refine tp rfl (Cz (MW hcs) rfl rfl) (tp rfl (AP (xs:=[.tmp 56]) (rows:=[_]) rfl rfl underlying38 E8 Wf rfl AB ⟨⟨Ao,(Va rfl)⟩,trivial⟩ AB) ?_)
 refine TO.Dl 0 rfl rfl AB (CB rfl rfl rfl rfl underlying38 E8 gL Wf (Kb rfl) (Kf rfl) (BC BR (Ka rfl))) (fun v2=> ?_)
 refine ap ?_
 refine ap ?_
 refine tp rfl (Dt rfl underlying38 E8 (vl rfl) (vl rfl) AA CF) ?_
 refine TO.Dl 0 rfl rfl AB (CB rfl rfl rfl rfl underlying38 E8 gL Wf (Kb rfl) (vl rfl) (BC BR (Ka rfl))) (fun v3=> ?_)
 refine ap ?_
 refine wk [5,4] rfl ?_
 refine ap ?_
 refine Tr.drop 1 (Tr.ret (Fin.Cb rfl (AL.cell 1 rfl rfl CD Bw rfl Lr) ?_))
 · exact BU ⟨Lr,Lr,Lr,Lr,Lr,Pr.le_trans (As _ _) (Pr.le_of_eq (by show _=slice 4 ((e.ids.take c.at_.toNat++[c.C6]++e.ids.drop c.at_.toNat).map FG);simp [List.map_take,List.map_drop])),Lr,Lr,Lr,trivial⟩
 refine ac ?_
 refine wk [67,13,5,4,3,2] rfl ?_
 refine Tr.cn rfl ?_ ?_<;>intro h6 q6
 obtain ⟨x_,hx_,hr,rfl,rfl⟩:=AHK q6 hs
 have hlt:=BM hx_
 refine ac ?_
 refine co rfl (CS (Oe hs4) rfl rfl rfl) ?_
 refine ac ?_
 refine wk [8,5,4] rfl ?_
 refine ap ?_
 refine tp rfl (D6 rfl underlying38 E8 (vl rfl) (vl rfl) AA CF) ?_
 refine TO.pad ?_
 refine TO.Dl 0 rfl rfl AB (EZ rfl rfl AB rfl underlying38 E8 gL Wf rfl AB ⟨_,rfl,AQ _⟩ (vl rfl) J4 J6 (Bv BR ⟨_,rfl,DT 1⟩)) (fun v4=> ?_)
 refine ap ?_
 refine ap ?_
 refine tp rfl (Dt rfl underlying38 E8 (vl rfl) (vl rfl) AA CF) ?_
 refine TO.Dl 0 rfl rfl AB (CB rfl rfl rfl rfl underlying38 E8 gL Wf (Kb rfl) (vl rfl) (BC BR (Ka rfl))) (fun v5=> ?_)
 refine ap ?_
 refine wk [5,4] rfl ?_
 refine ap ?_
 refine Tr.drop 1 (Tr.ret (Fin.Cb rfl (AL.cell 1 rfl rfl CD Bw rfl Lr) ?_))
 · exact BU ⟨Lr,Lr,Lr,Lr,Lr,Pr.le_trans (As _ _) (Pr.le_of_eq (by show _=slice 4 ((e.ids.eraseIdx (Bn c.number e.ids).toNat).map FG);rw [List.eraseIdx_eq_take_drop_succ,show (Bn c.number e.ids+1).toNat=(Bn c.number e.ids).toNat+1 by omega];simp [List.map_take,List.map_drop])),Lr,Lr,Lr,trivial⟩
 refine an ?_ ?_<;>intro h7 q7
 obtain ⟨hr,rfl,rfl⟩:=AHL q7 hs
 refine ap ?_
 refine tp rfl (CS (PF S8) rfl rfl rfl) ?_
 refine ap ?_
 refine wk [5,4] rfl ?_
 refine ap ?_
 refine Tr.drop 0 (Tr.ret (Fin.Cb rfl (AL.cell 0 rfl rfl CD Bw rfl Lr) ?_))
 · exact Lr
 refine an ?_ ?_<;>intro h8 q8
 obtain ⟨hr,rfl,rfl⟩:=AHM q8 hs
 refine Tr.rx ?_
 refine ay ?_
 refine xo rfl (fun _=>CS (Jb) rfl rfl rfl) ?_
 refine xo rfl (fun _=>AV rfl (Jc (l:=e.anchors) (i:=E9 e.anchors c.number) (Vl hr) S8) ⟨ke rfl,⟨_,rfl,int_eq (by rw [WO (P8 ok.anc),if_pos hr])⟩,trivial⟩) ?_
 refine ay ?_
 refine Cx.nil ⟨by kernel_rfl,?_⟩
 refine BI.done XU ?_
 refine ac ?_
 refine wk [5,4] rfl ?_
 refine ap ?_
 refine Tr.drop 0 (Tr.ret (Fin.Cb rfl (AL.cell 0 rfl rfl CD Bw rfl Lr) ?_))
 · exact Lr
 refine an ?_ ?_<;>intro h9 q9
 obtain ⟨hr,rfl,rfl⟩:=AHN q9 hs
 refine ap ?_
 refine tp rfl (CS (PF hs3) rfl rfl rfl) ?_
 refine ap ?_
 refine wk [5,4] rfl ?_
 refine ap ?_
 refine Tr.drop 0 (Tr.ret (Fin.Cb rfl (AL.cell 0 rfl rfl CD Bw rfl Lr) ?_))
 · exact Lr
 refine ac ?_
 refine wk [116,13,5,4,3,2] rfl ?_
 refine Tr.cn rfl ?_ ?_<;>intro h10 Sx
 obtain ⟨hr,rfl,rfl⟩:=AD0 Sx hs
 refine Tr.rx ?_
 refine ay ?_
 refine xo rfl (fun _=>CS (Jb) rfl rfl rfl) ?_
 refine xo rfl (fun _=>AV rfl (Jc (l:=e.hashes) (i:=E9 e.hashes c.number) (Vl hr) hs3) ⟨ke rfl,⟨_,rfl,int_eq (by rw [WO (P8 ok.hash),if_pos hr])⟩,trivial⟩) ?_
 refine ay ?_
 refine Cx.nil ⟨by kernel_rfl,?_⟩
 refine BI.done XU ?_
 refine ac ?_
 refine wk [5,4] rfl ?_
 refine ap ?_
 refine Tr.drop 0 (Tr.ret (Fin.Cb rfl (AL.cell 0 rfl rfl CD Bw rfl Lr) ?_))
 · exact Lr
 refine an ?_ ?_<;>intro h11 Ty
 obtain ⟨rfl,rfl⟩:=AD1 Ty hs
 refine ap ?_
 refine ap ?_
 refine Tr.drop 0 (Tr.ret (Fin.Cb rfl (AL.cell 0 rfl rfl CD Bw rfl Lr) ?_))
 · exact Lr
 refine an ?_ ?_<;>intro h12 XY
 obtain ⟨rfl,rfl⟩:=AD2 XY hs
 refine ap ?_
 refine wk [5,4] rfl ?_
 refine ap ?_
 refine Tr.drop 0 (Tr.ret (Fin.Cb rfl (AL.cell 0 rfl rfl CD Bw rfl Lr) ?_))
 · exact Lr
 exfalso;omega
theorem av {e:B7} {c:Ba} {n:Nat} (hz:e.sz n) (hn:n≤900000) (hi:c.C6.fits∧c.C6.small):BF prog 303 [agg (Be e),agg (Ew c)] (Dy [agg (Be (EM e c).1),int (EM e c).2.2]):=by
 refine fo func303 rfl ⟨rfl,rfl⟩ fun M0 w0=> ?_
 have Gb:=hz.small AA
 have hcs:=hi.2
 refine Tr.seq (Tr.Ap (tp rfl (Bh rfl C3) (tp rfl (Bh rfl C3) ?_)))
 refine Tl rfl rfl rfl rfl z40 Hh (fun b1=> ?_)
 refine ao ?_
 refine ac ?_
 refine co rfl (CS (WQ Gb hcs) rfl rfl rfl) ?_
 refine ac ?_
 refine an ?_ ?_<;>intro h1 q1
 have hb:=vY q1
 refine ao ?_
 refine TO.AK 0 rfl rfl rfl vq C3 rfl Bw rfl rfl ?_
 refine ao ?_
 refine wk [5,4] rfl (Tr.ret (Fin.AE (Fin.Bc rfl (AL.cell 0 rfl rfl CD Bw rfl Lr) (AL.tmp rfl Lr) ?_)))
 refine Ay ⟨?_,?_,trivial⟩
 · exact bY
 · exact int_eq (by rw [hb])
 obtain ⟨hce,hc,e2,b,hs⟩:=zk (e:=e) (c:=c) (by have:=q1;omega)
 have AHO:=(eF hc hs hz hi).1.small AA
 refine ac ?_
 refine ao ?_
 refine tp rfl (CS (jM Gb hcs hce hc hs) rfl rfl rfl) ?_
 refine Tl rfl rfl rfl rfl z40 Hh (fun b2=> ?_)
 refine sf 0 7 ⟨rfl,rfl,rfl⟩ rfl rfl rfl rfl ?_
 refine ao ?_
 refine wk [7,4] rfl ?_
 refine ac ?_
 refine co rfl (Cz (FY AHO) rfl rfl) ?_
 refine an ?_ ?_<;>intro h2 q2
 have hb:=uB hce hc hs (by have:=q2;cases h_:Gp e2<;>simp_all)
 refine ao ?_
 refine TO.AK 0 rfl rfl rfl vq C3 rfl Bw rfl rfl ?_
 refine ao ?_
 refine Tr.ret (Fin.AE (Fin.Bc rfl (AL.cell 0 rfl rfl CD Bw rfl Lr) (AL.tmp rfl Lr) ?_))
 refine Ay ⟨?_,?_,trivial⟩
 · exact bY
 · exact int_eq (by rw [hb])
 have hb:=m9 hce hc hs (by have:=q2;cases h_:Gp e2<;>simp_all)
 refine ac ?_
 refine ao ?_
 refine TO.AK 0 rfl rfl rfl vq C3 rfl Bw rfl rfl ?_
 refine ao ?_
 refine Tr.ret (Fin.Bc rfl (AL.cell 0 rfl rfl CD Bw rfl Lr) (AL.tmp rfl Lr) ?_)
 refine Ay ⟨?_,?_,trivial⟩
 · rw [hb];exact Lr
 · exact int_eq (by rw [hb])
theorem SZ {e:Dn} {n:Nat} (hz:e.sz n) (hn:n≤1000000):PR prog 286 [agg (CM e)] (fun x=>agg [is x,Ij e.BX,Rj e.items]) (fun x=>[Bz 40 9 (e.Bu.map Be) x]):=by
 refine PR.of func286 rfl rfl Az fun M0 w0 S rs M1 w1=> ?_
 have hl1:=hz.le
 have hl2:=hz.lg
 have hl3:=hz.li
 refine Tr.seq (Tr.Ap (tp rfl (Bh rfl (Va rfl)) ?_))
 refine Tl rfl rfl rfl rfl z31 Ia (fun b1=> ?_)
 refine ao ?_
 refine ao ?_
 refine tp rfl (JN rfl underlying28 E5 wL ZU rfl AB (vl rfl) kV bO) ?_
 refine tp rfl (oD) ?_
 refine Tl rfl rfl rfl rfl z31 Ia (fun b2=> ?_)
 refine TO.AK 0 rfl rfl rfl (vl rfl) (Va rfl) rfl De rfl rfl ?_
 refine ao ?_
 refine ac ?_
 refine Tr.block (Tr.HZ 0 [Aa (.slice none 0 0) (lens ((e.Bu.take 0).map Be).length),Ij e.BX,is (.slice none 0 0)] rfl ⟨Gh rfl,Lr,Lr,trivial⟩ (Tr.GO 40 9 (Tr.Es _ (kk [14,13,3,2,1] rfl) (fun k v=>[(15,int ((k:Nat):Int))]) (fun k v=>Hp M0 w0 S (BG 40 9 ((e.Bu.take k).map Be) v::AF true b2 31 [Aa v (lens ((e.Bu.take k).map Be).length),Ij e.BX,is (.slice none 0 0)]::AF true b1 31 (([.slice none 0 0,.slice none 0 0,.slice none 0 0]:List Value).map is)::Ak M1 w1::rs)) (fun k:Nat=>k≤(e.Bu).length) (fun k:Nat=>(e.Bu).length-k) 0 (.slice none 0 0) (Nat.zero_le _) kz (fun _ _ h=>h) ?_)))
 rintro k v BT
 refine ac ?_
 refine Tr.seq ?_
 refine Tr.cn rfl ?_ ?_<;>intro h1 q1
 have Ai:k<(e.Bu).length:=AH h1
 obtain ⟨x,Ah⟩:=at_ Ai
 have hxs:=(hz.Bu x (List.mem_of_getElem? Ah)).small hn
 refine ac ?_
 refine Tr.seq (Tr.block (Tr.seq (Tr.Ap (tp rfl (AD rfl underlying27 Bw (vl rfl) (vl rfl) AA CO) ?_))))
 refine tp rfl (AM rfl CD Bw (vl rfl) rfl rfl) ?_
 refine Tl rfl rfl rfl rfl z40 Hh (fun b3=> ?_)
 refine sf 0 5 ⟨rfl,rfl,rfl⟩ rfl rfl rfl rfl ?_
 refine ao ?_
 refine Tr.pad (Tr.rx ?_)
 refine ax ?_
 refine xo rfl (fun _=>Cz (UT hxs) rfl rfl) (xo rfl (fun _=>AP (xs:=[.tmp 22]) (rows:=[_]) rfl rfl underlying27 Bw z40 rfl AB ⟨⟨Ao,(Va rfl)⟩,trivial⟩ AB) ?_)
 refine Cx.ef 1 rfl rfl AB (FW rfl rfl AB rfl underlying27 Bw xZ z40 rfl AB AB (vl rfl) (Kf rfl) (A7 fun _=>rfl) (Nat.zero_lt_succ _) (by simp only [List.length_map,List.length_take,List.length_cons,List.length_nil];unfold maxLen;omega) (by simp only [List.length_map,List.length_take,List.length_cons,List.length_nil];omega)) ?_
 refine xo rfl (fun _=>AW rfl Gv (vl rfl)) (Cx.DG 2 rfl rfl (GL rfl rfl rfl (vl rfl) rfl xW Az) ?_)
 refine Cx.nil ⟨by kernel_rfl,?_⟩
 refine BI.RE 1 2 24 rfl rfl AB rfl (fun v1=> ?_)
 refine BI.done al5 ?_
 refine ac ?_
 refine Tr.drop 0 (wk [15,14,13,3,2,1] rfl ?_)
 refine ac ?_
 refine Fin.HZ 1 [Aa v1 (lens ((e.Bu.take (k+1)).map Be).length),Ij e.BX,is (.slice none 0 0)] rfl ⟨C5 (by simp only [List.length_map,List.length_append,List.length_take,List.length_cons,List.length_nil];omega),Lr,Lr,trivial⟩ ?_
 rw [wz (f:=Be) Ah]
 exact Fin.DU (k+1) v1 (⟨Ai,by omega⟩) ⟨⟨_,rfl,AG k⟩,kz⟩ (fun _ _ h=>h)
 have BP:k=(e.Bu).length:=by have:=AJ h1;omega
 subst BP
 rw [List.take_length]
 refine a2 ?_
 refine Tr.block (Tr.HZ 1 [Aa v (lens (e.Bu.map Be).length),Ij e.BX,Aa (.slice none 0 0) (Rj (e.items.take 0))] rfl ⟨Lr,Lr,Bp rfl,trivial⟩ (Tr.CC 135 5 (Tr.Es _ (kk [29,28,3,2] rfl) (fun m u=>[(30,int ((m:Nat):Int))]) (fun m u=>Hp M0 w0 S (Au 135 5 u::BG 40 9 (e.Bu.map Be) v::AF true b2 31 [Aa v (lens (e.Bu.map Be).length),Ij e.BX,Aa u (Rj (e.items.take m))]::AF true b1 31 (([.slice none 0 0,.slice none 0 0,.slice none 0 0]:List Value).map is)::Ak M1 w1::rs)) (fun m:Nat=>m≤(e.items).length) (fun m:Nat=>(e.items).length-m) 0 (.slice none 0 0) (Nat.zero_le _) kz (fun _ _ h=>h) ?_)))
 rintro m u NW
 refine ac ?_
 refine Tr.seq ?_
 refine Tr.cn rfl ?_ ?_<;>intro h2 q2
 have Ee:m<(e.items).length:=AH h2
 obtain ⟨y,Em⟩:=at_ Ee
 have hyl:=(hz.items y (List.mem_of_getElem? Em)).2
 refine ac ?_
 refine Tr.seq (Tr.block (Tr.seq (Tr.Ap (tp rfl (AD rfl underlying29 Hx (vl rfl) (vl rfl) AA CO) ?_))))
 refine tp rfl (AM rfl VP Hx (vl rfl) rfl rfl) ?_
 refine Tl rfl rfl rfl rfl VQ XF (fun b4=> ?_)
 refine TO.AK 0 rfl rfl rfl (vl rfl) (Va rfl) rfl Hx rfl rfl ?_
 refine ao ?_
 refine ao ?_
 refine tp rfl (JN rfl underlying133 KG wS z198 rfl AB (vl rfl) kV bO) ?_
 refine tp rfl (AW rfl VR (vl rfl)) (TO.DG 0 rfl rfl (Aw rfl rfl (vl rfl) (Vo rfl) wN rfl Az rfl) ?_)
 refine ao ?_
 refine wk [30,29,28,7,3,2] rfl ?_
 refine ao ?_
 refine TO.Dl 1 rfl rfl AB (CB rfl rfl rfl rfl underlying29 Hx lp VQ (Kb rfl) (Kf rfl) (BC BR (Ka rfl))) (fun v2=> ?_)
 refine tp rfl (AW rfl OD (vl rfl)) (TO.DG 3 rfl rfl (Aw rfl rfl (vl rfl) (Vo rfl) xX rfl Az rfl) ?_)
 refine ao ?_
 refine Tr.drop 0 ?_
 refine ac ?_
 refine Fin.HZ 2 [Aa v (lens (e.Bu.map Be).length),Ij e.BX,Aa v2 (Rj (e.items.take (m+1)))] rfl ⟨Lr,Lr,BJ (wz (f:=dw) Em),trivial⟩ (Fin.DU (m+1) v2 (⟨Ee,by omega⟩) ⟨⟨_,rfl,AG m⟩,kz⟩ (fun _ _ h=>h))
 have KV:m=(e.items).length:=by have:=AJ h2;omega
 subst KV
 refine ac ?_
 refine ao ?_
 refine TO.AK 3 rfl rfl rfl (vl rfl) (Va rfl) rfl De rfl rfl ?_
 refine ao ?_
 refine Tr.ret (Fin.Rl 1 rfl (Fin.drop 0 (Fin.drop 1 (Fin.HO (Fin.yO v [_] rfl (AL.cell 0 rfl rfl Dg De rfl Lr) ?_ (List.Perm.refl _))))))
 · exact BU ⟨EC _ _,Lr,Pr.le_trans (As _ _) (Pr.le_of_eq Pp),trivial⟩
theorem Uq {e:Dn} {c:Ba} (h:c.AY<0∨((e.Bu.length:Nat):Int)≤c.AY):UU e c=(GR,40):=by unfold UU;rw [uS h];rfl
theorem zl {e:Dn} {c:Ba} {x:B7} (h:¬(c.AY<0∨((e.Bu.length:Nat):Int)≤c.AY)) (hx:e.Bu[c.AY.toNat]? =some x):UU e c=if (EM x c).2.2=0 then (⟨e.Bu.set c.AY.toNat (EM x c).1,e.BX,e.items⟩,0) else (GR,(EM x c).2.2):=by
 unfold UU;rw [yu h hx]
 by_cases h0:(EM x c).2.2=0
 · rw [if_pos h0,if_pos h0];rfl
 · rw [if_neg h0,if_neg h0];exact (if_neg h0).symm
theorem az {e:Dn} {c:Ba} {n:Nat} (hz:e.sz n) (hi:c.C6.fits∧c.C6.small) (h:(UU e c).2=0):(UU e c).1.sz (n+1)∧UU e c=(⟨(Ln e.Bu c).1,e.BX,e.items⟩,0):=by
 have h0:(Ln e.Bu c).2=0:=by
  by_cases h0:(Ln e.Bu c).2=0
  · exact h0
  · unfold UU at h;rw [if_neg h0] at h;exact h
 have h1:UU e c=(⟨(Ln e.Bu c).1,e.BX,e.items⟩,0):=by unfold UU;rw [if_pos h0]
 rw [h1]
 exact ⟨⟨nX hz.Bu hi,hz.items,by show (Ln e.Bu c).1.length≤_;rw [eG];exact hz.le,hz.lg,hz.li⟩,rfl⟩
theorem ve {e:Dn} {c:Ba} (h:¬(UU e c).2=0):¬(Ln e.Bu c).2=0∧(UU e c).2=(Ln e.Bu c).2∧(UU e c).1=GR:=by
 by_cases h0:(Ln e.Bu c).2=0
 · exfalso;unfold UU at h;rw [if_pos h0] at h;exact h rfl
 · unfold UU;rw [if_neg h0];exact ⟨h0,rfl,rfl⟩
theorem jN {e:Dn} {c:Ba} {n:Nat} (hz:e.sz n) (hn:n≤900000) (hci:c.C6.fits∧c.C6.small):BF prog 287 [agg (CM e),agg (Ew c)] (Dy [agg (CM (UU e c).1),int (UU e c).2]):=by
 refine fo func287 rfl ⟨rfl,rfl⟩ fun M0 w0=> ?_
 have AId:=hz.le
 refine Tr.seq (Tr.Ap (tp rfl (Bh rfl C3) (tp rfl (Bh rfl C3) ?_)))
 refine Tl rfl rfl rfl rfl z31 Ia (fun b1=> ?_)
 refine ao ?_
 refine ag ?_ ?_<;>intro h1 q1
 refine ac ?_
 refine wk [19,4,3,2] rfl (Tr.cond rfl (fun _=> ?_) (fun h=>nomatch h))
 refine Tr.seq (Tr.Ap (tp rfl (An (rows:=[]) rfl ABX Ia trivial rfl) (TO.AK 0 rfl rfl rfl vq C3 rfl De rfl rfl ?_)))
 refine ao ?_
 refine Tr.ret (Fin.AE (Fin.Bc rfl (AL.cell 0 rfl rfl Dg De rfl Lr) (AL.tmp rfl Lr) ?_))
 refine Ay ⟨?_,?_,trivial⟩
 · exact bU
 · exact int_eq (by rw [Uq (e:=e) (c:=c) AA])
 refine ac ?_
 refine wk [19,4,3,2] rfl ?_
 refine Tr.cn rfl ?_ ?_<;>intro h2 q2
 refine ao ?_
 refine TO.AK 0 rfl rfl rfl vq C3 rfl De rfl rfl ?_
 refine ao ?_
 refine Tr.ret (Fin.AE (Fin.Bc rfl (AL.cell 0 rfl rfl Dg De rfl Lr) (AL.tmp rfl Lr) ?_))
 refine Ay ⟨?_,?_,trivial⟩
 · exact bU
 · exact int_eq (by rw [Uq (e:=e) (c:=c) AA])
 obtain ⟨x,hx⟩:=at_ (l:=e.Bu) (k:=c.AY.toNat) AA
 have hA:=zl (e:=e) (c:=c) AA hx
 have hlt:=BM hx
 refine ac ?_
 refine Tr.seq (Tr.pad (Tr.rx ?_))
 refine ax ?_
 refine xo rfl (fun _=>AD rfl underlying27 Bw vq vq AA (Bf (f:=Be) hx)) ?_
 refine ax ?_
 refine xo rfl (fun _=>CS (av (hz.Bu x (List.mem_of_getElem? hx)) AA hci) rfl rfl rfl) ?_
 refine ax ?_
 refine Cx.ef 0 rfl rfl AB (CA rfl rfl AB rfl z40 Hh) (Cx.DG 0 rfl rfl (Cc rfl rfl rfl rfl C3 Bw rfl rfl) (xm rfl ?_))
 refine Cx.nil ⟨by kernel_rfl,?_⟩
 refine BI.open_ 0 6 rfl rfl (fun v1=> ?_)
 refine BI.done XU (Fin.Le 6 0 _ rfl rfl (fun _=>rfl) (fun b2=> ?_))
 refine Fin.go (wk [7,6,4,3,2] rfl ?_)
 refine an ?_ ?_<;>intro h3 q3
 rw [if_neg (by have:=q3;omega)] at hA
 refine ao ?_
 refine TO.AK 1 rfl rfl rfl vq C3 rfl De rfl rfl ?_
 refine ao ?_
 refine Tr.drop 0 (Tr.ret (Fin.AE (Fin.Bc rfl (AL.cell 0 rfl rfl Dg De rfl Lr) (AL.tmp rfl Lr) ?_)))
 refine Ay ⟨?_,?_,trivial⟩
 · exact Qu
 · exact GY
 rw [if_pos (by have:=q3;omega)] at hA
 refine ac ?_
 refine ao ?_
 refine TO.mO rfl rfl AB rfl (SZ hz AA) kz (fun v2=> ?_)
 refine Tl rfl rfl rfl rfl z31 Ia (fun b3=> ?_)
 refine TO.AK 0 rfl rfl rfl vq C3 rfl De rfl rfl ?_
 refine ao ?_
 refine ao ?_
 refine tp rfl (CN 1 rfl (GQ rfl underlying27 Bw vq vq AA C1)) ?_
 refine TO.DG 1 rfl rfl (Eu rfl rfl vq C3 Bw rfl (A7 fun _=>rfl) U1 AB (show _=(e.Bu.set c.AY.toNat (EM x c).1).map Be by rw [List.map_set];rfl)) ?_
 refine ao ?_
 refine Tr.drop 2 (wk [8,4] rfl (Tr.seq (Tr.Gm 0 1 0 rfl rfl AB rfl Lr (A7 fun _=>rfl) ?_)))
 refine ao ?_
 refine TO.AK 2 rfl rfl rfl vq C3 rfl De rfl rfl ?_
 refine ao ?_
 refine Tr.drop 1 (Tr.ret (Fin.Bc rfl (AL.cell 1 rfl rfl Dg De rfl Lr) (AL.tmp rfl Lr) ?_))
 refine Ay ⟨?_,?_,trivial⟩
 · rw [hA];exact Lr
 · exact GY
theorem Sa {e:Dn} {l:List Ba} {s:List Int} {n:Nat} (hz:e.sz n) (hn:n≤800000) (hc:∀c∈l,c.C6.fits∧c.C6.small):BF prog 255 [agg (CM e),slice 8 (l.map Ew),ints s] (Dy [agg (CM (Vy e l s).1),int (Vy e l s).2]):=by
 refine fo func255 rfl ⟨rfl,rfl⟩ fun M0 w0=>(Tr.Cl 1 rfl fun F0=>(Tr.Cl 2 rfl fun nR=>(Tr.seq (Tr.Ap (tp rfl (Bh rfl C3) ?_)))))
 refine Tl rfl rfl rfl rfl z31 Ia (fun b1=> ?_)
 refine ap ?_
 refine ac ?_
 refine co rfl (Cz (D7 (hz.fits AA)) rfl rfl) ?_
 refine an ?_ ?_<;>intro h1 q1
 have hA:Vy e l s=(GR,31):=if_pos (by have:=q1;cases h_:Fc e<;>simp_all)
 refine ap ?_
 refine Tr.ret (Fin.AE (Fin.Bc rfl (AL.cell 0 rfl rfl Dg De rfl Lr) (AL.tmp rfl Lr) ?_))
 refine Ay ⟨?_,?_,trivial⟩
 · exact Qu
 · exact GY
 have hok:Fc e=true:=by have:=q1;cases h_:Fc e<;>simp_all
 refine ac ?_
 refine an ?_ ?_<;>intro h2 q2
 have hA:Vy e l s=(GR,3):=by unfold Vy;rw [if_neg K2,if_pos (by have:=q2;omega)]
 refine ap ?_
 refine Tr.ret (Fin.AE (Fin.Bc rfl (AL.cell 0 rfl rfl Dg De rfl Lr) (AL.tmp rfl Lr) ?_))
 refine Ay ⟨?_,?_,trivial⟩
 · exact Qu
 · exact GY
 have AHP:l.length≤24:=by have:=q2;omega
 refine a2 ?_
 refine co rfl (CS (Rk (l:=s) (n:=((l.length:Nat):Int))) rfl rfl rfl) ?_
 refine ac ?_
 refine wk [25,6,3,2,1] rfl ?_
 refine Tr.cn rfl ?_ ?_<;>intro h3 q3
 have hA:Vy e l s=(GR,46):=by unfold Vy;rw [if_neg K2,if_neg AA,if_pos K5]
 refine ap ?_
 refine Tr.ret (Fin.AE (Fin.Bc rfl (AL.cell 0 rfl rfl Dg De rfl Lr) (AL.tmp rfl Lr) ?_))
 refine Ay ⟨?_,?_,trivial⟩
 · exact Qu
 · exact GY
 have hsb:Dc l.length s=true:=by simpa using h3
 have hsn:=eH hsb
 have hel:=hz.le
 refine ac ?_
 refine ap ?_
 refine TO.mO rfl rfl AB rfl (SZ hz AA) kz (fun v1=> ?_)
 refine Tl rfl rfl rfl rfl z31 Ia (fun b2=> ?_)
 refine ap ?_
 refine Tr.seq (Tr.seq (Tr.Gm 0 1 0 rfl rfl AB rfl Lr (A7 fun _=>rfl) ?_))
 refine ac ?_
 refine Tr.drop 1 (Tr.block (Tr.Cy _ (kk [30,29,8,6,1] rfl) (fun (m:Nat) (Bu:List B7)=>[(31,int ((m:Nat):Int))]) (fun (m:Nat) (Bu:List B7)=>Hp M0 w0 Fo ([AF true b2 31 (CM ⟨Bu,e.BX,e.items⟩),AF true b1 31 (([.slice none 0 0,.slice none 0 0,.slice none 0 0]:List Value).map is)])) (fun (m:Nat) (Bu:List B7)=>m≤s.length∧(⟨Bu,e.BX,e.items⟩:Dn).sz (n+m)∧OP l (s.drop m) Bu=OP l s e.Bu) (fun (m:Nat) (Bu:List B7)=>s.length-m) (0) (e.Bu)  (⟨Nat.zero_le _,hz,rfl⟩) kz (fun _ _ h=>h) ?_))
 rintro m Bu  ⟨hm1,hse,hm4⟩
 refine ac ?_
 refine Tr.seq ?_
 refine Tr.cn rfl ?_ ?_<;>intro h4 q4
 have hmm:m<s.length:=by have:=DH.Dp h4;omega
 obtain ⟨i,Em⟩:=at_ hmm
 have him:=QJ hsb Em
 obtain ⟨c,j_⟩:=at_ (l:=l) (k:=i.toNat) AA
 have hci:=hc c (List.mem_of_getElem? j_)
 have hst:=iF (Bu:=Bu) Em j_
 rw [hm4] at hst
 refine ac ?_
 refine Tr.seq (Tr.block (Tr.seq (Tr.Al (co rfl (AD rfl underlying51 Bs vq vq AA (AZ Em)) ?_))))
 refine ac ?_
 refine Tr.seq (Tr.pad (Tr.rx ?_))
 refine ax ?_
 refine xo rfl (fun _=>AD rfl underlying32 Dr vq vq AA (Bf (f:=Ew) j_)) (xo rfl (fun _=>AM rfl Hw Dr vq rfl rfl) ?_)
 refine xo rfl (fun _=>CS (jN (e:=⟨Bu,e.BX,e.items⟩) (c:=c) hse AA hci) rfl rfl rfl) ?_
 refine ax ?_
 refine Cx.ef 0 rfl rfl AB (CA rfl rfl AB rfl z31 Ia) (Cx.DG 0 rfl rfl (Cc rfl rfl rfl rfl C3 De rfl rfl) (xm rfl ?_))
 refine Cx.nil ⟨by kernel_rfl,?_⟩
 refine BI.open_ 0 11 rfl rfl (fun v2=> ?_)
 refine BI.done al3 (Fin.Le 11 0 _ rfl rfl (fun _=>rfl) (fun b3=> ?_))
 refine Fin.go (wk [31,30,29,12,11,8,6,1] rfl ?_)
 refine an ?_ ?_<;>intro h5 q5
 obtain ⟨h0_,h1_,h2_⟩:=ve (e:=⟨Bu,e.BX,e.items⟩) (c:=c) (by have:=q5;omega)
 have h0_:¬(Ln Bu c).2=0:=h0_
 rw [if_neg h0_] at hst
 have hA:Vy e l s=(GR,(UU ⟨Bu,e.BX,e.items⟩ c).2):=by unfold Vy;rw [if_neg K2,if_neg AA,if_neg (by simp [hsb]),hst,h1_];exact if_neg h0_
 refine ap ?_
 refine Tr.drop 0 (Tr.ret (Fin.AE (Fin.AR (Fin.AE (Fin.AE (Fin.AR (Fin.AE (Fin.Bc rfl (AL.cell 1 rfl rfl Dg De rfl Lr) (AL.tmp rfl Lr) ?_))))))))
 refine Ay ⟨?_,?_,trivial⟩
 · exact Qu
 · exact GY
 have hs0:(UU ⟨Bu,e.BX,e.items⟩ c).2=0:=by have:=q5;omega
 have hap:(Ln Bu c).2=0:=by by_cases h0:(Ln Bu c).2=0;exact h0;(exfalso;unfold UU at hs0;rw [if_neg (show ¬(Ln (⟨Bu,e.BX,e.items⟩:Dn).Bu c).2=0 from h0)] at hs0;exact h0 hs0)
 refine ac ?_
 refine ap ?_
 refine Tr.drop 0 ?_
 refine ac ?_
 refine Fin.eqC 0 (CM ⟨(Ln Bu c).1,e.BX,e.items⟩) rfl (by rw [(az hse hci hs0).2];rfl) ?_
 exact Fin.Cu (m+1) ((Ln Bu c).1)  (⟨⟨by omega,by have h_:=(az hse hci hs0).1;rw [(az hse hci hs0).2] at h_;rw [show n+(m+1)=n+m+1 by omega];exact h_,by rw [hst,if_pos hap]⟩,by omega⟩) ⟨⟨_,rfl,AG m⟩,kz⟩ (fun _ _ h=>h)
 obtain rfl:m=s.length:=by have:=DH.Dp h4;omega
 rw [List.drop_length] at hm4
 have hA:Vy e l s=(⟨Bu,e.BX,e.items⟩,0):=by unfold Vy;rw [if_neg K2,if_neg AA,if_neg (by simp [hsb]),←hm4];exact if_pos rfl
 refine ac ?_
 refine ap ?_
 refine Tr.ret (Fin.Bc rfl (AL.cell 1 rfl rfl Dg De rfl Lr) (AL.tmp rfl Lr) ?_)
 refine Ay ⟨?_,?_,trivial⟩
 · rw [hA];exact Lr
 · exact GY
theorem TK {e:Dn} {l:List Ba} {i:Int} {n:Nat} (hz:e.sz n) (hn:n≤800000)  :BF prog 278 [agg (CM e),slice 8 (l.map Ew),int i] (Dy [ints (J9 e l i).1,int (J9 e l i).2]):=by
 refine fo func278 rfl ⟨rfl,rfl⟩ fun M0 w0=>(Tr.Cl 1 rfl fun F0=> ?_)
 refine a2 ?_
 refine co rfl (Cz (D7 (hz.fits AA)) rfl rfl) ?_
 refine an ?_ ?_<;>intro h1 q1
 have hA:J9 e l i=([],31):=if_pos (by have:=q1;cases h_:Fc e<;>simp_all)
 refine ac ?_
 refine Tr.ret (Fin.AE (Fin.D3 rfl (Bt.EB _ _) rfl ?_ rfl ?_))
 · rw [hA];exact AQ 1
 · exact GY
 have hok:Fc e=true:=by have:=q1;cases h_:Fc e<;>simp_all
 refine ac ?_
 refine an ?_ ?_<;>intro h2 q2
 have hA:J9 e l i=([],3):=by unfold J9;rw [if_neg K2,if_pos (by have:=q2;omega)]
 refine ac ?_
 refine Tr.ret (Fin.AE (Fin.D3 rfl (Bt.EB _ _) rfl ?_ rfl ?_))
 · rw [hA];exact AQ 1
 · exact GY
 have AHP:l.length≤24:=by have:=q2;omega
 refine ac ?_
 refine ag ?_ ?_<;>intro h3 q3
 refine ac ?_
 refine wk [25,3,2,1] rfl ?_
 refine ac ?_
 refine Tr.ret (Fin.AE (Fin.D3 rfl (Bt.EB _ _) rfl ?_ rfl ?_))
 · exact kX
 · exact kW
 refine ac ?_
 refine wk [25,3,2,1] rfl ?_
 refine Tr.cn rfl ?_ ?_<;>intro h4 q4
 refine ac ?_
 refine Tr.ret (Fin.AE (Fin.D3 rfl (Bt.EB _ _) rfl ?_ rfl ?_))
 · exact kX
 · exact kW
 obtain ⟨g,hg⟩:=at_ (l:=e.BX) (k:=i.toNat) AA
 have hA:J9 e l i=(Og g l l.length,0):=by unfold J9;rw [if_neg K2,if_neg AA,if_neg AA,getD_at hg]
 refine a3 ?_
 refine Tr.block (Tr.CC 3 1 (Tr.Es _ (kk [27,26,3,2] rfl) (fun k v=>[(28,int ((k:Nat):Int)),(8,Aa v (ints (Og g l k)))]) (fun k v=>Hp M0 w0 Fo ([Au 3 1 v])) (fun k:Nat=>k≤(l).length) (fun k:Nat=>(l).length-k) 0 (.slice none 0 0) (Nat.zero_le _) ⟨kq,⟨_,rfl,Bp rfl⟩,trivial⟩ (fun _ _ h=>h) ?_))
 rintro k v BT
 refine ac ?_
 refine Tr.seq ?_
 refine Tr.cn rfl ?_ ?_<;>intro h5 q5
 have Ai:k<(l).length:=AH h5
 obtain ⟨c,Ah⟩:=at_ Ai
 have hrl:=YM g l k
 refine ac ?_
 refine ao ?_
 refine tp rfl (AD rfl underlying32 Dr vq vq AA (AZ Ah)) (tp rfl (AM rfl Hw Dr vq rfl rfl) ?_)
 refine Tl rfl rfl rfl rfl Py LU (fun b1=> ?_)
 refine tm rfl ?_
 refine sf 0 10 ⟨rfl,rfl,rfl⟩ rfl rfl rfl rfl ?_
 refine ao ?_
 refine wk [28,27,26,10,9,8,3,2] rfl ?_
 refine ac ?_
 refine co rfl (AD rfl underlying28 E5 vq vq AA (Bf (f:=yd) hg)) ?_
 refine ag ?_ ?_<;>intro h6 q6
 have hP:WR g l k=true:=by unfold WR;rw [Ah];simp;omega
 refine ac ?_
 refine wk [52,28,27,26,9,8,3,2] rfl (Tr.cond rfl (fun _=> ?_) (fun h=>nomatch h))
 refine Tr.Ap (tm rfl (tm rfl (tp rfl (AP (xs:=[.tmp 54]) (rows:=[[_]]) rfl rfl underlying51 Bs z3 rfl AB ⟨⟨Ao,Lj⟩,trivial⟩ AB) ?_)))
 refine TO.Dl 0 rfl rfl AB (CB rfl rfl rfl rfl underlying51 Bs Iw z3 Iy Gn (BC BR KJ)) (fun v1=> ?_)
 refine ao ?_
 refine ac ?_
 exact Fin.DU (k+1) v1 (⟨Ai,by omega⟩) ⟨⟨_,rfl,AG k⟩,⟨_,rfl,BJ (by rw [YL hP,List.map_append];rfl)⟩,kz⟩ (fun _ _ h=>h)
 refine ac ?_
 refine cy h6 rfl (AD rfl underlying28 E5 vq vq AA (Bf (f:=yd) hg)) ?_
 refine ac ?_
 refine wk [52,28,27,26,9,8,3,2] rfl ?_
 refine Tr.cn rfl ?_ ?_<;>intro h7 q7
 have hP:WR g l k=true:=by unfold WR;rw [Ah];simp;omega
 refine ao ?_
 refine TO.Dl 0 rfl rfl AB (CB rfl rfl rfl rfl underlying51 Bs Iw z3 Iy Gn (BC BR KJ)) (fun v2=> ?_)
 refine ao ?_
 refine ac ?_
 exact Fin.DU (k+1) v2 (⟨Ai,by omega⟩) ⟨⟨_,rfl,AG k⟩,⟨_,rfl,BJ (by rw [YL hP,List.map_append];rfl)⟩,kz⟩ (fun _ _ h=>h)
 have hP:WR g l k=false:=by unfold WR;rw [Ah];simp;omega
 refine a2 ?_
 exact Fin.DU (k+1) v (⟨Ai,by omega⟩) ⟨⟨_,rfl,AG k⟩,⟨_,rfl,Pr.le_of_eq (by rw [vZ hP])⟩,kz⟩ (fun _ _ h=>h)
 have BP:k=(l).length:=by have:=AJ h5;omega
 subst BP
 refine a2 ?_
 refine Tr.ret (Fin.D3 rfl (Bt.EB _ _) rfl ?_ rfl ?_)
 · rw [hA];exact As _ _
 · exact GY
open Classical in
section
variable {e:Dn} {c:BW} {l:List Ba} {r:List BH} {d:List Int}
end
structure IK (n:Nat) (r:List BH):Prop where
 up:∀q∈r,(0≤q.fst∧q.fst<q.thn)∧q.thn<n
 srt:D_ r=true
theorem IK.nil (n:Nat):IK n []:=⟨(fun q h=>by cases h),rfl⟩
theorem Oh (r:List BH) (q:BH):R7 r [q]=GS (r.foldl GS []) q:=rfl
theorem IK.put {n:Nat} {r:List BH} (h:IK n r) {x y:Int} (h0:0≤x) (h1:x<y) (h2:y<n):IK n (R7 r [⟨x,y⟩]):=by
 refine ⟨fun q hq=> ?_,?_⟩
 ·
  rw [Oh,Xs,TC] at hq
  rcases hq with rfl|hq|hq
  · exact ⟨⟨h0,h1⟩,h2⟩
  · cases hq
  · exact h.up q hq
 · rw [Oh];exact O7 (OT r rfl)
theorem a_ (r:List BH) (q:BH):(R7 r [q]).length≤r.length+1:=by
 rw [Oh]
 have h1:=R5 (r.foldl GS []) q
 have h2:=Gf r []
 simp at h2;omega
theorem IK.valid {n:Nat} {r:List BH} (h:IK n r) (hn:n≤24):BD n r=0:=oo hn h.up h.srt
theorem vg {b:Nat} {s:DS} {n:Nat} (hn:n≤24):BS prog 52 [ptr b 0,int ((n:Nat):Int)] (Cp.ex fun r:List BH=>fact (IK n r∧r.length≤2*n) (reqs r)) (Dh b s) (fun _=>JE 104 b):=by
 refine BS.of func52 rfl rfl Az fun M0 w0 S rs M1 w1=> ?_
 have cr:=s.DM (n:=2*(n:Int)+1) AA
 refine Tr.seq (Tr.Al (cm rfl (Ch.nil (Fin.go (Tr.seq (Tr.Al (cm rfl (Ch.nil (Fin.go (Tr.seq (Tr.seq (Tr.Ap (tm rfl ?_)))))))))))))
 refine tm rfl ?_
 refine tp rfl (k9 rfl (vl rfl) (vl rfl) ?hin) ?_;case hin=>unfold Mn;omega
 refine tp rfl (EO rfl (vl rfl) (vl rfl) ?hin) ?_;case hin=>unfold Mn;omega
 refine TO.GK 0 rfl rfl AB (Aj rfl rfl AB rfl (Cf AA AA) ⟨ke rfl,ke rfl,trivial⟩) (tm rfl (TO.nil (Fin.go (Tr.block ?_))))
 refine Tr.NA [(0,_),(1,_)] ⟨ke rfl,ke rfl,trivial⟩ (fun (r:List BH) (k:Int) (s2:DS)=>[(6,int k),(5,reqs r)]) (fun (r:List BH) (k:Int) (s2:DS)=>Hp M0 w0 S (Dh b s2::Ak M1 w1::rs)) (fun (r:List BH) (k:Int) (s2:DS)=>0≤k∧IK n r∧(r.length:Int)+k≤2*n) (fun (r:List BH) (k:Int) (s2:DS)=>k.toNat) ([]) (s.val (2*(n:Int)+1)) (_)  (⟨by omega,IK.nil n,by simp;omega⟩) ⟨ke rfl,⟨_,rfl,AQ 2⟩,trivial⟩ (fun _ _ h=>h) ?_
 rintro r k s2  ⟨hk0,hN,hrl⟩
 refine Tr.seq (Tr.seq (Tr.Al (cm rfl (co rfl (ki rfl rfl rfl rfl) (cm rfl ?_)))))
 refine Ch.cs 16 rfl ?_ ?_<;>intro h1 q1
 have hkp:k>0:=by simpa using h1
 refine Jz h1 rfl (cy h1 rfl (ki rfl rfl rfl rfl) (co rfl (Nt rfl rfl h1 rfl) (Ch.nil (Fin.go ?_))))
 refine Tr.cn rfl ?_ ?_<;>intro h2 q2
 have hn1:((n:Nat):Int)>1:=by simpa using h2
 have Yk:=s2.DM (n:=(n:Int)) AA
 have Ww:=s2.Cj.DM (n:=(n:Int)) AA
 refine Tr.skip (Fin.go (Tr.seq (Tr.block (Tr.seq (Tr.Ap (tm rfl (tm rfl (TO.GK 0 rfl rfl AB (Aj rfl rfl AB rfl (Cf AA AA) ⟨ke rfl,ke rfl,trivial⟩) (tm rfl (tm rfl (TO.GK 0 rfl rfl AB (Aj rfl rfl AB rfl (Cf AA AA) ⟨ke rfl,ke rfl,trivial⟩) (tm rfl (tm rfl ?_)))))))))))))
 refine TO.nil (Fin.go (wk6 0 1 5 6 7 8 rfl (Tr.seq (Tr.Al (cm rfl (cm rfl (co rfl (ki rfl rfl rfl rfl) (Ch.nil (Fin.go ?_)))))))))
 refine Tr.cn rfl ?_ ?_<;>intro h3 q3
 refine Tr.Al (cm rfl (cm rfl (cm rfl (co rfl (An (rows:=[(0,[_]),(1,[_])]) rfl ABc RH ⟨⟨rfl,(Vo rfl)⟩,⟨⟨rfl,(Vo rfl)⟩,trivial⟩⟩ rfl) (co rfl (AP (xs:=[.tmp 34]) (rows:=[_]) rfl rfl underlying33 C2 Sv rfl AB ⟨⟨Ao,(Va rfl)⟩,trivial⟩ AB) ?_)))))
 refine co rfl (AV rfl (Z7 (a:=r) (b:=[⟨s2.val n,s2.Cj.val n⟩]) AA AU) ⟨ke rfl,(Kf rfl),trivial⟩) ?_
 refine cm rfl (Ch.nil (Fin.block (Fin.go (Tj 0 1 5 6 rfl (Tr.Al (cm rfl (csu rfl rfl rfl rfl AA (cm rfl (Ch.nil ?_)))))))))
 exact Fin.FK (R7 r [⟨s2.val n,s2.Cj.val n⟩]) (k-1) (_)  (⟨⟨by omega,hN.put AA K5 AA,by have:=a_ r ⟨s2.val n,s2.Cj.val n⟩;omega⟩,by omega⟩) ⟨ke rfl,ke rfl,ke rfl,ke rfl,trivial⟩ (fun _ _ h=>h)
 refine Tr.skip (Fin.block (Fin.go (Tr.Al (cm rfl (csu rfl rfl rfl rfl AA (cm rfl (Ch.nil (Fin.FK (r) (k-1) (_)  (⟨⟨by omega,hN,by omega⟩,by omega⟩) ⟨ke rfl,ke rfl,ke rfl,ke rfl,trivial⟩ (fun _ _ h=>h)))))))))
 have:=h2
 refine Tr.exit (Fin.Ac (Fin.Ac (Fin.A0 (Fin.go (Tr.seq (Tr.Al (cm rfl (cm rfl (Ch.nil (Fin.go (Tr.ret (Fin.HK 0 _ rfl rfl (Fin.Gl [] rfl (AL.tmp rfl (Lr)) ?_ (fun _ _ _ _=>rfl))))))))))))))
 · exact Ax r (BB ⟨hN,by omega⟩ (Lr))
 refine cnt h1 rfl (cnt h1 rfl (co rfl (KE rfl rfl h1 rfl) (Ch.nil (Fin.go (Tr.cond rfl (fun h=>nomatch h) (fun _=> ?_))))))
 refine Tr.exit (Fin.Ac (Fin.Ac (Fin.A0 (Fin.go (Tr.seq (Tr.Al (cm rfl (cm rfl (Ch.nil (Fin.go (Tr.ret (Fin.HK 0 _ rfl rfl (Fin.Gl [] rfl (AL.tmp rfl (Lr)) ?_ (fun _ _ _ _=>rfl))))))))))))))
 · exact Ax r (BB ⟨hN,by omega⟩ (Lr))
def TX (e:B7) (c:Ba):Int:=
 if c.kind=7∨c.kind=9 then 0 else if c.kind=5 then 1 else if c.kind=1∨c.kind=12 then 2
 else if c.kind=3 then (if c.number>e.most then 2 else 3) else if c.kind=4 then (if c.number<e.least then 2 else 3) else if c.kind=11 then (if c.number=1 then 2 else 3) else 3
def Sb (a b:Int) (x:Iz):Bool:=(decide (x.client=a)&&decide (x.server=b))||(decide (x.client=b)&&decide (x.server=a))
def PG (l:List Iz) (a b:Int):Bool:=decide (a=b)||l.any (Sb a b)
theorem qd {l:List Iz} {a b:Int} {k:Nat} {x:Iz} (hx:l[k]? =some x) (h:Sb a b x=true):PG l a b=true:=by unfold PG;rw [List.any_eq_true.2 ⟨x,List.mem_of_getElem? hx,h⟩,Bool.or_true]
theorem vh {l:List Iz} {a b:Int} (h0:a≠b) (h:∀j y,j<l.length→l[j]? =some y→Sb a b y=false):PG l a b=false:=by
 unfold PG
 rw [Bool.or_eq_false_iff,decide_eq_false_iff_not,List.any_eq_false]
 refine ⟨h0,fun y hy=> ?_⟩
 obtain ⟨j,hj⟩:=List.mem_iff_getElem?.1 hy
 rw [h j y (BM hj) hj];decide
def YN (l:List Ba) (i:Nat):Ba:=l[i]?.getD H6
def bA (e:Dn) (c:Ba):Int:=TX (e.Bu[c.AY.toNat]?.getD FO) c
def qg (e:Dn) (l:List Ba) (i k:Nat):Bool:=PG e.BX (YN l i).AY (YN l k).AY&&decide (bA e (YN l i)<bA e (YN l k))
def PW (e:Dn) (l:List Ba) (i n:Nat):List BH:=((List.range n).filter (qg e l i)).map fun k:Nat=>⟨(i:Int),(k:Int)⟩
def YO (e:Dn) (l:List Ba) (m:Nat):List BH:=(List.range m).flatMap fun i=>PW e l i l.length
def vi (e:Dn) (l:List Ba):List BH:=YO e l l.length
theorem YP (e:Dn) (l:List Ba) (i n:Nat):(PW e l i n).length≤n:=by unfold PW;rw [List.length_map];exact Nat.le_trans (List.length_filter_le _ _) Pc
theorem UW (e:Dn) (l:List Ba) (m:Nat):YO e l (m+1)=YO e l m++PW e l m l.length:=by unfold YO;rw [List.range_succ,List.flatMap_append];simp
theorem Sc (e:Dn) (l:List Ba):∀m,(YO e l m).length≤m*l.length
 |0=>by simp [YO]
 |m+1=>by have h1:=Sc e l m;have h2:=YP e l m l.length;rw [UW,List.length_append,Nat.succ_mul];omega
theorem qh {e:Dn} {l:List Ba} {i k:Nat} (h:qg e l i k=true):PW e l i (k+1)=PW e l i k++[⟨(i:Int),(k:Int)⟩]:=by unfold PW;rw [List.range_succ,List.filter_append,List.map_append];simp [h]
theorem fK {e:Dn} {l:List Ba} {i k:Nat} (h:qg e l i k=false):PW e l i (k+1)=PW e l i k:=by unfold PW;rw [List.range_succ,List.filter_append,List.map_append];simp [h]
theorem UX {e:B7} {c:Ba}  :BF prog 96 [agg (Be e),agg (Ew c)] (int (TX e c)):=by
 refine fo func96 rfl ⟨rfl,rfl⟩ fun M0 w0=> ?_
 refine a2 ?_
 refine an ?_ ?_<;>intro h1 q1
 refine ac ?_
 refine Tr.cond rfl (fun _=> ?_) (fun h=>nomatch h1.symm.trans h)
 refine a2 ?_
 · exact Pb
 refine an ?_ ?_<;>intro h2 q2
 refine a2 ?_
 · exact Pb
 refine an ?_ ?_<;>intro h3 q3
 refine a2 ?_
 · exact Pb
 refine an ?_ ?_<;>intro h4 q4
 refine ac ?_
 refine Tr.cond rfl (fun _=> ?_) (fun h=>nomatch h4.symm.trans h)
 refine ac ?_
 refine wk [4] rfl ?_
 refine ac ?_
 · exact Pb
 · repeat' first|(refine int_eq ?_;unfold TX;(repeat' split)<;>omega)|refine ac ?_|(refine Tr.cn rfl ?_ ?_<;>intro h q)
theorem YQ {e:Dn} {a b:Int}  :BF prog 95 [agg (CM e),int a,int b] (bool (PG e.BX a b)):=by
 refine fo func95 rfl ⟨rfl,rfl⟩ fun M0 w0=>(Tr.Hg 0 1 rfl rfl fun LG=> ?_)
 refine ac ?_
 refine an ?_ ?_<;>intro h1 q1
 refine a2 ?_
 · refine bool_eq ?_;symm;unfold PG;rw [decide_eq_true Bi,Bool.true_or]
 refine a2 ?_
 refine Tr.block (Tr.BE _ (kk [14,13,2,1] rfl) (fun k:Nat=>[(15,int ((k:Nat):Int))]) (fun k:Nat=>k≤(e.BX).length∧(∀j y,j<k→e.BX[j]? =some y→Sb a b y=false)) (fun k:Nat=>(e.BX).length-k) 0 (⟨Nat.zero_le _,fun j y hj=>absurd hj AA⟩) kz ?_)
 rintro k ⟨BT,AX⟩
 refine ac ?_
 refine Tr.seq ?_
 refine Tr.cn rfl ?_ ?_<;>intro h2 q2
 have Ai:k<(e.BX).length:=AH h2
 obtain ⟨x,Ah⟩:=at_ Ai
 refine ac ?_
 refine Tr.seq (Tr.block (Tr.seq (Tr.Ap (tp rfl (AD rfl underlying28 E5 vq vq AA (AZ Ah)) (tp rfl (AM rfl RJ E5 vq rfl rfl) ?_)))))
 refine Tl rfl rfl rfl rfl ZU XE (fun b1=> ?_)
 refine sf 0 8 ⟨rfl,rfl,rfl⟩ rfl rfl rfl rfl ?_
 refine ao ?_
 · repeat' first|(refine bool_eq ?_;symm;exact qd Ah (by unfold Sb;simp_all))|(exact Fin.AO (k+1) ⟨⟨Ai,Db (p:=Sb a b) Ah (by unfold Sb;simp_all) AX⟩,by omega⟩ ⟨⟨_,rfl,AG k⟩,kz⟩)|refine ac ?_|(refine Tr.cn rfl ?_ ?_<;>intro h q)|(refine Ch.cg rfl rfl rfl ?_ ?_<;>intro h q)
 have BP:k=(e.BX).length:=by have:=AJ h2;omega
 subst BP
 refine a3 ?_
 · refine bool_eq ?_;symm;exact vh Bi AX
theorem YR {e:Dn} {l:List Ba} (hf:e.fits) (he:Fc e=true) (Ns:l.length≤24) (hr:∀c∈l,0≤c.AY∧c.AY<(e.Bu.length:Nat)):BF prog 51 [agg (CM e),Da l] (Dy [reqs (vi e l),int 0]):=by
 refine fo func51 rfl ⟨rfl,rfl⟩ fun M0 w0=>(Tr.Hg 0 0 rfl rfl fun JR=> ?_)
 refine a2 ?_
 refine co rfl (Cz (D7 hf) rfl rfl) ?_
 refine an ?_ ?_<;>intro h1 q1
 exact absurd h1 (by rw [if_pos he];decide)
 refine ac ?_
 refine an ?_ ?_<;>intro h2 q2
 exfalso;have:=q2;omega
 refine a2 ?_
 refine Tr.block (Tr.BE _ (kk [20,19,2,1] rfl) (fun m:Nat=>[(21,int ((m:Nat):Int))]) (fun m:Nat=>m≤(l).length) (fun m:Nat=>(l).length-m) 0 (Nat.zero_le _) kz ?_)
 rintro m NW
 refine ac ?_
 refine Tr.seq ?_
 refine Tr.cn rfl ?_ ?_<;>intro h3 q3
 have Ee:m<(l).length:=AH h3
 obtain ⟨x,Em⟩:=at_ Ee
 have hrm:=hr x (List.mem_of_getElem? Em)
 refine ac ?_
 refine Tr.seq (Tr.block (Tr.seq (Tr.Ap (tp rfl (AD rfl underlying32 Dr vq vq AA (AZ Em)) (tp rfl (AM rfl Hw Dr vq rfl rfl) ?_)))))
 refine Tl rfl rfl rfl rfl Py LU (fun b1=> ?_)
 refine sf 0 7 ⟨rfl,rfl,rfl⟩ rfl rfl rfl rfl ?_
 refine ao ?_
 · repeat' first|(exfalso;have:=hr x (List.mem_of_getElem? Em);omega)|exact Fin.AO (m+1) ⟨Ee,by omega⟩ ⟨⟨_,rfl,AG m⟩,kz⟩|refine ac ?_|(refine Tr.cn rfl ?_ ?_<;>intro h q)|(refine Ch.cg rfl rfl rfl ?_ ?_<;>intro h q)
 have KV:m=(l).length:=by have:=AJ h3;omega
 refine a3 ?_
 refine Tr.block (Tr.CC 61 2 (Tr.Es _ (kk [38,37,2,1] rfl) (fun i v=>[(39,int ((i:Nat):Int)),(8,Aa v (reqs (YO e l i)))]) (fun i v=>Hp M0 w0 Fo ([Au 61 2 v])) (fun i:Nat=>i≤(l).length) (fun i:Nat=>(l).length-i) 0 (.slice none 0 0) (Nat.zero_le _) ⟨kq,⟨_,rfl,Bp rfl⟩,trivial⟩ (fun _ _ h=>h) ?_))
 rintro i v Xg
 refine ac ?_
 refine Tr.seq ?_
 refine Tr.cn rfl ?_ ?_<;>intro h6 q6
 have Jv:i<(l).length:=AH h6
 obtain ⟨x,LQ⟩:=at_ Jv
 have hri:=hr x (List.mem_of_getElem? LQ)
 obtain ⟨ex,hex⟩:=at_ (l:=e.Bu) (k:=x.AY.toNat) AA
 have hln:=Sc e l i
 have hl2:i*l.length≤24*24:=Nat.mul_le_mul AA Ns
 refine ac ?_
 refine ao ?_
 refine tp rfl (AD rfl underlying32 Dr vq vq AA (AZ LQ)) (tp rfl (AM rfl Hw Dr vq rfl rfl) ?_)
 refine Tl rfl rfl rfl rfl Py LU (fun b2=> ?_)
 refine tm rfl ?_
 refine sf 0 10 ⟨rfl,rfl,rfl⟩ rfl rfl rfl rfl ?_
 refine ao ?_
 refine wk [39,38,37,10,9,8,2,1] rfl ?_
 refine ac ?_
 refine Tr.block (Tr.Es _ (kk [45,44,39,38,37,10,9,2,1] rfl) (fun k v=>[(46,int ((k:Nat):Int)),(8,Aa v (reqs (YO e l i++PW e l i k)))]) (fun k v=>Hp M0 w0 Fo ([Au 61 2 v])) (fun k:Nat=>k≤(l).length) (fun k:Nat=>(l).length-k) 0 v (Nat.zero_le _) ⟨kq,⟨_,rfl,BJ (by simp [PW])⟩,trivial⟩ (fun _ _ h=>h) ?_)
 rintro k v BT
 refine ac ?_
 refine Tr.seq ?_
 refine Tr.cn rfl ?_ ?_<;>intro h7 q7
 have Ai:k<(l).length:=AH h7
 obtain ⟨y,Ah⟩:=at_ Ai
 have hrk:=hr y (List.mem_of_getElem? Ah)
 obtain ⟨ey,hey⟩:=at_ (l:=e.Bu) (k:=y.AY.toNat) AA
 have Sz:=YP e l i k
 have hB:qg e l i k=(PG e.BX x.AY y.AY&&decide (TX ex x<TX ey y)):=by unfold qg bA YN;rw [LQ,Ah,Option.getD_some,Option.getD_some,hex,hey];rfl
 refine ac ?_
 refine ao ?_
 refine tp rfl (AD rfl underlying32 Dr vq vq AA (AZ Ah)) (tp rfl (AM rfl Hw Dr vq rfl rfl) ?_)
 refine Tl rfl rfl rfl rfl Py LU (fun b3=> ?_)
 refine tm rfl ?_
 refine sf 0 12 ⟨rfl,rfl,rfl⟩ rfl rfl rfl rfl ?_
 refine ao ?_
 refine wk [46,45,44,39,38,37,12,11,10,9,8,2,1] rfl ?_
 refine ac ?_
 refine co rfl (LV (YQ (e:=e) (a:=x.AY) (b:=y.AY)) rfl rfl rfl rfl) ?_
 refine cm rfl ?_
 refine Ch.cs 57 rfl ?_ ?_<;>intro h8 q8
 refine ac ?_
 refine cy h8 rfl (AD rfl underlying27 Bw vq vq AA (Bf hex)) ?_
 refine ac ?_
 refine cy h8 rfl (CS (UX (e:=ex) (c:=x)) rfl rfl rfl) ?_
 refine ac ?_
 refine cy h8 rfl (AD rfl underlying27 Bw vq vq AA (Bf hey)) ?_
 refine ac ?_
 refine cy h8 rfl (CS (UX (e:=ey) (c:=y)) rfl rfl rfl) ?_
 refine ac ?_
 refine wk [75,46,45,44,39,38,37,11,10,9,8,2,1] rfl ?_
 refine Tr.cn rfl ?_ ?_<;>intro h9 q9
 refine ao ?_
 refine TO.Dl 0 rfl rfl AB (CB rfl rfl rfl rfl underlying33 C2 S4 Sv Iy Gn (BC BR KJ)) (fun v1=> ?_)
 refine ao ?_
 refine wk [46,45,44,39,38,37,10,9,8,2,1] rfl ?_
 refine ac ?_
 exact Fin.DU (k+1) v1 (⟨Ai,by omega⟩) ⟨⟨_,rfl,AG k⟩,⟨_,rfl,BJ (by rw [qh (by rw [hB,h8,h9];rfl),←List.append_assoc];simp;rfl)⟩,kz⟩ (fun _ _ h=>h)
 refine a2 ?_
 exact Fin.DU (k+1) v (⟨Ai,by omega⟩) ⟨⟨_,rfl,AG k⟩,⟨_,rfl,BJ (by rw [fK (by rw [hB,h8,h9];rfl)])⟩,kz⟩ (fun _ _ h=>h)
 refine ac ?_
 refine wk [75,46,45,44,39,38,37,11,10,9,8,2,1] rfl ?_
 refine a2 ?_
 exact Fin.DU (k+1) v (⟨Ai,by omega⟩) ⟨⟨_,rfl,AG k⟩,⟨_,rfl,BJ (by rw [fK (by rw [hB,h8];rfl)])⟩,kz⟩ (fun _ _ h=>h)
 have BP:k=(l).length:=by have:=AJ h7;omega
 subst BP
 refine a2 ?_
 exact Fin.DU (i+1) v (⟨Jv,by omega⟩) ⟨⟨_,rfl,AG i⟩,⟨_,rfl,BJ (by rw [UW])⟩,kz⟩ (fun _ _ h=>h)
 have PV:i=(l).length:=by have:=AJ h6;omega
 subst PV
 refine a2 ?_
 refine Tr.ret (Fin.D3 rfl (Bt.EB _ _) rfl ?_ rfl ?_)
 · exact I8
 · exact Lr
def xE (n:Nat):BW:=⟨[⟨0,300,[0]⟩],List.replicate n 0,[24]⟩
theorem zm {n:Nat} (hn:n≤1000):BF prog 67 [int ((n:Nat):Int)] (MM (xE n)):=by
 refine fo func67 rfl ⟨rfl,rfl⟩ fun M0 w0=>(Tr.seq (Tr.Ap ?_))
 refine Tl rfl rfl rfl rfl z77 ABe (fun b1=> ?_)
 refine ap ?_
 refine ap ?_
 refine tp rfl (An (rows:=[(0,_),(1,[_])]) rfl ABt RL ⟨⟨rfl,C3⟩,⟨⟨rfl,⟨_,rfl,Pr.le_trans (B8 _ _) (Ad _)⟩⟩,trivial⟩⟩ rfl) ?_
 refine ap ?_
 refine tp rfl (Nd (m:=n) rfl underlying22 Bs Iw z3 rfl AB AB vq vq GF AA) ?_
 refine tp rfl (oI) ?_
 refine tp rfl (An (rows:=[(0,[_]),(1,[_]),(2,[_])]) rfl AFp ABe ⟨⟨rfl,⟨_,rfl,Pr.le_trans (B8 _ _) (Ad _)⟩⟩,⟨⟨rfl,⟨_,rfl,Pr.le_trans (Pr.le_trans (B8 _ _) (Pr.le_of_eq (show _=slice 1 ((List.replicate n (0:Int)).map fun n=>[int n]) by rw [List.map_replicate];rfl))) (Ad _)⟩⟩,⟨⟨rfl,⟨_,rfl,Pr.le_trans (B8 _ _) (Ad _)⟩⟩,trivial⟩⟩⟩ rfl) ?_
 refine ap ?_
 refine Tr.ret (Fin.Cb rfl (AL.cell 0 rfl rfl Ou XC rfl Lr) ?_)
 · exact Lr
theorem bB {l:List Ba} {r:List BH} {d:List Int} (Gb:∀x∈l,x.C6.small) (hl:l.length≤1000000) (hr:r.length≤1000000) (hd:d.length≤1000000):PR prog 33 [agg [Da l,reqs r,ints d]] (fun x=>agg [Da l,reqs r,is x]) (fun x=>[Bz 3 1 (d.map fun n=>[int n]) x]):=by
 refine PR.of func33 rfl rfl Az fun M0 w0 S rs M1 w1=>(Tr.Hg 0 0 rfl rfl fun JR=>(Tr.seq (Tr.Ap (tp rfl (Bh rfl (Va rfl)) ?_))))
 refine Tl rfl rfl rfl rfl z35 FE (fun b1=> ?_)
 refine ao ?_
 refine Tr.seq (Tr.pad (Tr.pad (Tr.pad (Tr.rx ?_))))
 refine ax ?_
 refine xo rfl (fun _=>JN rfl underlying33 C2 S4 Sv rfl AB (vl rfl) N3 C1) ?_
 refine ax ?_
 refine Cx.ef 0 rfl rfl AB (aC rfl rfl AB rfl underlying22 Bs Iw z3 rfl AB AB ⟨_,rfl,DT 1⟩ (vl rfl) N3 C1) ?_
 refine Cx.ef 1 rfl rfl AB (ew (d:=12) (s:=11) (p:=fun v=>agg [is (.slice none 0 0),reqs r,Aa v (lens (d.map fun n=>[int n]).length)]) (q:=agg [is (.slice none 0 0),reqs r,lens (d.map fun n=>[int n]).length]) rfl AB (fun _=>BU ⟨Lr,Lr,As _ _,trivial⟩) rfl rfl AB (fun v=>aJ rfl rfl AB (fun _=>An (rows:=[(1,[_]),(2,[_])]) rfl L8 FE ⟨⟨rfl,VL.le (vl rfl) (Ad _)⟩,⟨⟨rfl,VL.le (vl rfl) (Ad _)⟩,trivial⟩⟩ rfl))) (Cx.ef 2 rfl rfl AB (CA rfl rfl AB rfl z35 FE) (Cx.DG 2 rfl rfl (UL rfl rfl rfl AB rfl rfl (Af _) CL rfl rfl) ?_))
 refine Cx.nil ⟨by kernel_rfl,?_⟩
 refine BI.iU 11 rfl (fun v11=> ?_)
 refine BI.iU 12 rfl (fun v12=> ?_)
 refine BI.iU 3 rfl (fun v3=> ?_)
 refine BI.aK 0 11 rfl rfl (BI.iV 1 12 11 rfl rfl rfl (BI.iV 2 3 12 rfl rfl rfl (BI.done al5 (Fin.shape 3 (fun b=> .pointer (some ⟨b,0,none⟩)) rfl (fun b9 e9=> ?_)))))
 subst e9
 refine Fin.X7 1 2 rfl rfl (Fin.drop 1 (Fin.go (wk [3,2,1] rfl ?_)))
 refine ac ?_
 refine Tr.block (Tr.HZ 1 [Aa (.slice none 0 0) (Da (l.take 0)),reqs r,Aa v11 (lens (d.map fun n=>[int n]).length)] rfl ⟨Bp rfl,Lr,Lr,trivial⟩ (Tr.CC 86 8 (Tr.Es _ (kk [15,14,3,2] rfl) (fun k u=>[(16,int ((k:Nat):Int))]) (fun k u=>Hp M0 w0 S (Au 86 8 u::Bz 3 1 (d.map fun n=>[int n]) v11::AF true b9 35 [Aa u (Da (l.take k)),reqs r,Aa v11 (lens (d.map fun n=>[int n]).length)]::AF true b1 35 (([.slice none 0 0,.slice none 0 0,.slice none 0 0]:List Value).map is)::Ak M1 w1::rs)) (fun k:Nat=>k≤(l).length) (fun k:Nat=>(l).length-k) 0 (.slice none 0 0) (Nat.zero_le _) kz (fun _ _ h=>h) ?_)))
 rintro k u BT
 refine ac ?_
 refine Tr.seq ?_
 refine Tr.cn rfl ?_ ?_<;>intro h1 q1
 have Ai:k<(l).length:=AH h1
 obtain ⟨x,Ah⟩:=at_ Ai
 refine ac ?_
 refine Tr.seq (Tr.block (Tr.seq (Tr.Ap (tp rfl (AD rfl underlying32 Dr (vl rfl) (vl rfl) AA (AZ Ah)) (tp rfl (AM rfl Hw Dr (vl rfl) rfl rfl) ?_)))))
 refine Tl rfl rfl rfl rfl Py LU (fun b10=> ?_)
 refine sf 0 5 ⟨rfl,rfl,rfl⟩ rfl rfl rfl rfl ?_
 refine ao ?_
 refine Tr.pad (Tr.rx ?_)
 refine ax ?_
 refine xo rfl (fun _=>Cz (au (c:=x) (Gb x (List.mem_of_getElem? Ah))) rfl rfl) ?_
 refine xo rfl (fun _=>AP (xs:=[.tmp 23]) (rows:=[_]) rfl rfl underlying32 Dr Py rfl AB ⟨⟨Ao,(Va rfl)⟩,trivial⟩ AB) ?_
 refine Cx.ef 1 rfl rfl AB (CB rfl rfl rfl rfl underlying32 Dr ZS Py (Kb rfl) (Kf rfl) (BC BR (Ka rfl))) ?_
 refine xo rfl (fun _=>AW rfl OE (vl rfl)) (Cx.DG 3 rfl rfl (GL rfl rfl rfl (vl rfl) rfl ABY Az) ?_)
 refine Cx.nil ⟨by kernel_rfl,?_⟩
 refine BI.RE 1 3 25 rfl rfl AB rfl (fun v1=> ?_)
 refine BI.done al6 ?_
 refine ac ?_
 refine Tr.drop 0 (wk [16,15,14,3,2] rfl ?_)
 refine ac ?_
 refine Fin.HZ 2 [Aa v1 (Da (l.take (k+1))),reqs r,Aa v11 (lens (d.map fun n=>[int n]).length)] rfl ⟨BJ cM,Lr,Lr,trivial⟩ ?_
 exact Fin.DU (k+1) v1 (⟨Ai,by omega⟩) ⟨⟨_,rfl,AG k⟩,kz⟩ (fun _ _ h=>h)
 have BP:k=(l).length:=by have:=AJ h1;omega
 subst BP
 rw [List.take_length]
 refine ac ?_
 refine ao ?_
 refine TO.AK 3 rfl rfl rfl (vl rfl) (Va rfl) rfl CL rfl rfl ?_
 refine ao ?_
 refine Tr.ret (Fin.drop 0 (Fin.drop 1 (Fin.HO (Fin.yO v11 [_] rfl (AL.cell 0 rfl rfl C4 CL rfl Lr) ?_ (List.Perm.refl _)))))
 · exact BU ⟨As _ _,Lr,EC _ _,trivial⟩
theorem jO {n:Int} {l:List BH} {s:List Int} (hl:l.length≤1000000):BF prog 279 [int n,reqs l,ints s] (Cp.ex fun z:List BH×Int=>fact (z.1.length≤1000) (Dy [reqs z.1,int z.2])):=by
 refine fo func279 rfl ⟨rfl,rfl⟩ fun M0 w0=> ?_
 refine a2 ?_
 refine co rfl (CS (Ja hl) rfl rfl rfl) ?_
 refine ac ?_
 refine an ?_ ?_<;>intro h1 q1
 refine ac ?_
 refine Tr.ret (Fin.AE (Fin.Bc rfl (AL.tmp rfl Lr) (AL.tmp rfl Lr) ?_))
 · exact Qs
 have hv:BD n l=0:=by simpa using h1
 obtain ⟨N,rfl⟩:∃N:Nat,n=(N:Int):=⟨n.toNat,by have:=(Co hv).1;omega⟩
 have Ns:=(Co hv).1
 have jE:∀r∈l,(0≤r.fst∧r.fst<(N:Nat))∧0≤r.thn∧r.thn<(N:Nat):=fun r hr=>by
  have h_:=(Co hv).2.1 r hr
  unfold Fa at h_;rw [decide_eq_false_iff_not] at h_;omega
 refine a2 ?_
 refine co rfl (CS (Rk (l:=s) (n:=((N:Nat):Int))) rfl rfl rfl) ?_
 refine an ?_ ?_<;>intro h2 q2
 refine ac ?_
 refine wk [7,6] rfl (Tr.ret (Fin.AE (Fin.Bc rfl (AL.tmp rfl Lr) (AL.tmp rfl Lr) ?_)))
 · exact Qs
 have hsb:Dc ((N:Nat):Int) s=true:=by simpa using h2
 have hsn:=eH hsb
 refine a2 ?_
 refine co rfl (CS (UQ (n:=N) (l:=l) AA hl jE) rfl rfl rfl) ?_
 refine ac ?_
 refine wk [9,2] rfl ?_
 refine a2 ?_
 refine Tr.block (Tr.CC 61 2 (Tr.DE _ (kk [29,28,9,2] rfl) (fun (o:List BH) (i:Nat) u=>[(30,int ((i:Nat):Int)),(10,Aa u (reqs o))]) (fun (o:List BH) (i:Nat) u=>Hp M0 w0 Fo ([Au 61 2 u])) (fun (o:List BH) (i:Nat)=>i≤s.length∧o.length≤24*i) (fun (o:List BH) (i:Nat)=>s.length-i) ([]) (0) (.slice none 0 0) (⟨Nat.zero_le _,by simp⟩) ⟨kq,⟨_,rfl,Bp rfl⟩,trivial⟩ (fun _ _ h=>h) ?_))
 rintro o i u ⟨hi0,hol⟩
 refine ac ?_
 refine Tr.seq ?_
 refine Tr.cn rfl ?_ ?_<;>intro h3 q3
 have hi:i<s.length:=AH h3
 obtain ⟨x,hx⟩:=at_ hi
 have hxn:=QJ hsb hx
 refine a2 ?_
 refine co rfl (AD rfl underlying51 Bs vq vq AA (AZ hx)) ?_
 refine a2 ?_
 refine wk [37,36,35,30,29,28,12,11,10,9,2] rfl (Tr.block (Tr.DE _ (kk [36,35,30,29,28,12,11,9,2] rfl) (fun (p:List BH) (k:Nat) u2=>[(37,int ((k:Nat):Int)),(10,Aa u2 (reqs p))]) (fun (p:List BH) (k:Nat) u2=>Hp M0 w0 Fo ([Au 61 2 u2])) (fun (p:List BH) (k:Nat)=>k≤s.length∧p.length≤24*i+k) (fun (p:List BH) (k:Nat)=>s.length-k) (o) (0) u (⟨Nat.zero_le _,by omega⟩) ⟨kq,⟨_,rfl,BJ rfl⟩,trivial⟩ (fun _ _ h=>h) ?_))
 rintro p k u2 ⟨hk0,hpl⟩
 refine ac ?_
 refine Tr.seq ?_
 refine Tr.cn rfl ?_ ?_<;>intro h4 q4
 have hk:k<s.length:=AH h4
 obtain ⟨y,hy⟩:=at_ hk
 have hyn:=QJ hsb hy
 refine a2 ?_
 refine co rfl (AD rfl underlying51 Bs vq vq AA (AZ hy)) ?_
 refine ac ?_
 refine wk [37,36,35,30,29,28,14,13,12,11,10,9,2] rfl ?_
 refine ac ?_
 refine co rfl (AD rfl underlying158 Ow vq vq AA (Bf (LO _ (a:=x.toNat) AA))) ?_
 refine ac ?_
 refine co rfl (AD rfl underlying160 Tp vq vq AA (Bf (LP _ (b:=y.toNat) AA))) ?_
 refine ac ?_
 refine wk [48,37,36,35,30,29,28,13,12,11,10,9,2] rfl ?_
 refine Tr.cn rfl ?_ ?_<;>intro h5 q5
 refine ap ?_
 refine TO.Dl 0 rfl rfl AB (CB rfl rfl rfl rfl underlying33 C2 S4 Sv Iy Gn (BC BR KJ)) (fun v1=> ?_)
 refine ap ?_
 refine wk [37,36,35,30,29,28,12,11,10,9,2] rfl ?_
 refine ac ?_
 exact Fin.Bk (p++[⟨((i:Nat):Int),((k:Nat):Int)⟩]) (k+1) v1 (⟨⟨by omega,by simp;omega⟩,by omega⟩) ⟨⟨_,rfl,AG k⟩,⟨_,rfl,BJ DQ⟩,kz⟩ (fun _ _ h=>h)
 refine a2 ?_
 exact Fin.Bk (p) (k+1) u2 (⟨⟨by omega,by omega⟩,by omega⟩) ⟨⟨_,rfl,AG k⟩,⟨_,rfl,BJ rfl⟩,kz⟩ (fun _ _ h=>h)
 have fm:=AJ h4
 refine a2 ?_
 exact Fin.Bk (p) (i+1) u2 (⟨⟨by omega,by omega⟩,by omega⟩) ⟨⟨_,rfl,AG i⟩,⟨_,rfl,BJ rfl⟩,kz⟩ (fun _ _ h=>h)
 have hie:=AJ h3
 refine a2 ?_
 refine Tr.ret (Fin.Bc rfl (AL.tmp rfl Lr) (AL.tmp rfl Lr) ?_)
 · exact Y7
theorem Sd {c:BW} {l:List Ba} (ho:c.own=0):BF prog 65 [MM c,Da l] (Dy [ints (SN c l),int (Eg c l)]):=by
 refine fo func65 rfl ⟨rfl,rfl⟩ fun M0 w0=>(Tr.Cl 1 rfl fun F0=>(Tr.Hg 0 1 rfl rfl fun LG=> ?_))
 refine a2 ?_
 refine co rfl (CS (KZ (c:=c) (m:=((c.JP.length:Nat):Int))) rfl rfl rfl) ?_
 refine ac ?_
 refine an ?_ ?_<;>intro h1 q1
 exact absurd ho (by unfold BW.own;simpa using h1)
 refine a2 ?_
 refine wk [20,2,1] rfl ?_
 refine Tr.cn rfl ?_ ?_<;>intro h2 q2
 refine ac ?_
 refine Tr.ret (Fin.AE (Fin.D3 rfl (Bt.EB _ _) rfl ?_ rfl ?_))
 · rw [Wl (fC AA) AB];exact AQ 1
 · refine int_eq ?_;exact (fC AA).symm
 refine a3 ?_
 refine Tr.block (Tr.CC 3 1 (Tr.Es _ (kk [22,21,2] rfl) (fun k v=>[(23,int ((k:Nat):Int)),(7,Aa v (ints ((l.take k).map (SM c))))]) (fun k v=>Hp M0 w0 Fo ([Au 3 1 v])) (fun k:Nat=>k≤(l).length∧(∀j y,j<k→l[j]? =some y→PK c y=false)) (fun k:Nat=>(l).length-k) 0 (.slice none 0 0) (⟨Nat.zero_le _,fun j y hj=>absurd hj AA⟩) ⟨kq,⟨_,rfl,Bp rfl⟩,trivial⟩ (fun _ _ h=>h) ?_))
 rintro k v ⟨BT,AX⟩
 refine ac ?_
 refine Tr.seq ?_
 refine Tr.cn rfl ?_ ?_<;>intro h3 q3
 have Ai:k<(l).length:=AH h3
 obtain ⟨x,Ah⟩:=at_ Ai
 refine ac ?_
 refine Tr.seq (Tr.block (Tr.seq (Tr.Ap (tp rfl (AD rfl underlying32 Dr vq vq AA (AZ Ah)) (tp rfl (AM rfl Hw Dr vq rfl rfl) ?_)))))
 refine Tl rfl rfl rfl rfl Py LU (fun b1=> ?_)
 refine sf 0 9 ⟨rfl,rfl,rfl⟩ rfl rfl rfl rfl ?_
 refine ao ?_
 refine ag ?_ ?_<;>intro h4 q4
 refine ac ?_
 refine wk [37,23,22,21,9,7,2] rfl ?_
 refine ac ?_
 refine Tr.ret (Fin.AE (Fin.AR (Fin.AE (Fin.AE (Fin.AR (Fin.AE (Fin.D3 rfl (Bt.EB _ _) rfl ?_ rfl ?_)))))))
 · exact bX
 · exact bw
 refine ac ?_
 refine wk [37,23,22,21,9,7,2] rfl ?_
 refine Tr.cn rfl ?_ ?_<;>intro h5 q5
 refine ac ?_
 refine Tr.ret (Fin.AE (Fin.AR (Fin.AE (Fin.AE (Fin.AR (Fin.AE (Fin.D3 rfl (Bt.EB _ _) rfl ?_ rfl ?_)))))))
 · exact bX
 · exact bw
 have htm:=xB (c:=c) (x:=x) AA
 refine ac ?_
 refine ao ?_
 refine tp rfl (AD rfl underlying22 Bs vq vq AA (Bf htm)) ?_
 refine ao ?_
 refine TO.Dl 0 rfl rfl AB (CB rfl rfl rfl rfl underlying22 Bs Iw z3 Iy Gn (BC BR KJ)) (fun v1=> ?_)
 refine ao ?_
 refine wk [23,22,21,7,2] rfl ?_
 refine ac ?_
 exact Fin.DU (k+1) v1 (⟨⟨Ai,Db (p:=PK c) Ah rV AX⟩,by omega⟩) ⟨⟨_,rfl,AG k⟩,⟨_,rfl,BJ (qI Ah)⟩,kz⟩ (fun _ _ h=>h)
 have BP:k=(l).length:=by have:=AJ h3;omega
 subst BP
 refine a2 ?_
 refine Tr.ret (Fin.D3 rfl (Bt.EB _ _) rfl ?_ rfl ?_)
 · rw [X9 (fD AA AX)];exact Pr.le_trans (As _ _) (Pr.le_of_eq Pp)
 · refine int_eq ?_;exact (fD AA AX).symm
structure Nn (m:Nat) (l:List Ba) (r:List BH) (d:List Int):Prop where
 l24:l.length≤24
 dl:d.length=l.length
 v:BD (l.length:Nat) r=0
 dd:∀j y c,j<l.length→d[j]? =some y→l[j]? =some c→(0≤y∧y≤40000)∧0≤c.AY∧c.AY<(m:Int)
abbrev Jn (l:List Ba) (r:List BH) (d:List Int):Pr:=agg [Da l,reqs r,ints d]
theorem qi {e:Dn} {l:List Ba} {r:List BH} {d:List Int} (hrl:r.length≤1000000):BF prog 250 [agg (CM e),Jn l r d] (Cp.ex fun z:Bool=>fact (z=true→Nn e.Bu.length l r d) (bool z)):=by
 refine fo func250 rfl ⟨rfl,rfl⟩ fun M0 w0=>(Tr.Hg 1 0 rfl rfl fun AFS=>(Tr.Hg 1 2 rfl rfl fun AFT=>(Tr.Hg 0 0 rfl rfl fun JR=> ?_)))
 refine a2 ?_
 refine ag ?_ ?_<;>intro h1 q1
 refine ac ?_
 refine wk [26,3,2] rfl ?_
 refine a2 ?_
 · exact Ux
 refine ag ?_ ?_<;>intro h2 q2
 refine ac ?_
 refine wk [26,3,2] rfl ?_
 refine a2 ?_
 · exact Ux
 refine ac ?_
 refine cy h2 rfl (CS (Ja (n:=((l.length:Nat):Int)) (l:=r) hrl) rfl rfl rfl) ?_
 refine ac ?_
 refine wk [26,3,2] rfl ?_
 refine Tr.cn rfl ?_ ?_<;>intro h3 q3
 refine a2 ?_
 · exact Ux
 have Ns:l.length≤24:=by omega
 have hdl:d.length=l.length:=by omega
 have hv:BD ((l.length:Nat):Int) r=0:=by omega
 refine a2 ?_
 refine Tr.block (Tr.BE _ (kk [29,28,3,2] rfl) (fun k:Nat=>[(30,int ((k:Nat):Int))]) (fun k:Nat=>k≤(l).length∧(∀j y c,j<k→d[j]? =some y→l[j]? =some c→(0≤y∧y≤40000)∧0≤c.AY∧c.AY<((e.Bu.length:Nat):Int))) (fun k:Nat=>(l).length-k) 0 (⟨Nat.zero_le _,fun j y c hj=>absurd hj AA⟩) kz ?_)
 rintro k ⟨BT,AX⟩
 refine ac ?_
 refine Tr.seq ?_
 refine Tr.cn rfl ?_ ?_<;>intro h4 q4
 have Ai:k<(l).length:=AH h4
 obtain ⟨x,Ah⟩:=at_ Ai
 obtain ⟨y,hy⟩:=at_ (l:=d) (k:=k) AA
 refine ac ?_
 refine ao ?_
 refine tp rfl (AD rfl underlying32 Dr vq vq AA (AZ Ah)) (tp rfl (AM rfl Hw Dr vq rfl rfl) ?_)
 refine Tl rfl rfl rfl rfl Py LU (fun b1=> ?_)
 refine tm rfl ?_
 refine sf 0 7 ⟨rfl,rfl,rfl⟩ rfl rfl rfl rfl ?_
 refine ao ?_
 · repeat' first|exact Ax false (BB (fun h_=>by cases h_) Lr)|(exact Fin.AO (k+1) ⟨⟨Ai,fun j z c hj hz j_=>by rcases Nat.lt_or_eq_of_le (Nat.le_of_lt_succ hj) with h_|h_;exact AX j z c h_ hz j_;(subst h_;rw [hy] at hz;cases hz;rw [Ah] at j_;cases j_;omega)⟩,by omega⟩ ⟨⟨_,rfl,AG k⟩,kz⟩)|refine cy h rfl (AD rfl underlying22 Bs vq vq AA (AZ hy)) ?_|refine ac ?_|(refine Tr.cn rfl ?_ ?_<;>intro h q)|(refine Ch.cg rfl rfl rfl ?_ ?_<;>intro h q)
 have BP:k=(l).length:=by have:=AJ h4;omega
 subst BP
 refine a3 ?_
 · exact Ax true (BB (fun _=>⟨Ns,hdl,hv,AX⟩) Lr)
theorem qj {n:Nat} (hn:n≤1000):BF prog 127 [int ((n:Nat):Int)] (Cp.ex fun z:List Int=>fact (z.length≤n) (ints z)):=by
 refine fo func127 rfl ⟨rfl,rfl⟩ fun M0 w0=> ?_
 refine a3 ?_
 refine Tr.block (Tr.CC 3 1 (Tr.DE _ (kk [5] rfl) (fun (o:List Int) (k:Nat) u=>[(6,int ((k:Nat):Int)),(3,Aa u (ints o))]) (fun (o:List Int) (k:Nat) u=>Hp M0 w0 Fo ([Au 3 1 u])) (fun (o:List Int) (k:Nat)=>k≤n∧o.length=k) (fun (o:List Int) (k:Nat)=>n-k) ([]) (0) (.slice none 0 0) (⟨Nat.zero_le _,rfl⟩) ⟨kq,⟨_,rfl,Bp rfl⟩,trivial⟩ (fun _ _ h=>h) ?_))
 rintro o k u ⟨hk0,hol⟩
 refine ac ?_
 refine Tr.seq ?_
 refine Tr.cn rfl ?_ ?_<;>intro h1 q1
 have hk:k<n:=AH h1
 refine a2 ?_
 refine ap ?_
 refine TO.Dl 0 rfl rfl AB (CB rfl rfl rfl rfl underlying51 Bs Iw z3 Iy Gn (BC BR KJ)) (fun v1=> ?_)
 refine ap ?_
 refine ac ?_
 exact Fin.Bk (o++[((k:Nat):Int)]) (k+1) v1 (⟨⟨by omega,by simp;omega⟩,by omega⟩) ⟨⟨_,rfl,AG k⟩,⟨_,rfl,BJ DQ⟩,kz⟩ (fun _ _ h=>h)
 have fm:=AJ h1
 refine a3 ?_
 · exact Pf
theorem MX {e:Dn} {l:List Ba} {r:List BH} {d s:List Int} {n:Nat} (hz:e.sz n) (hn:n≤800000) (hc:∀c∈l,c.C6.fits∧c.C6.small):BF prog 253 [agg (CM e),Jn l r d,ints s] (Dy [agg (CM (Vy e l s).1),bool (decide ((Vy e l s).2=0))]):=by
 refine fo func253 rfl ⟨rfl,rfl⟩ fun M0 w0=>(Tr.seq (Tr.Ap (tp rfl (Bh rfl C3) (tp rfl (Bh rfl C3) ?_))))
 refine Tl rfl rfl rfl rfl z31 Ia (fun b1=> ?_)
 refine ao ?_
 refine ao ?_
 refine tp rfl (LV (Sa hz hn hc) rfl rfl rfl rfl) ?_
 refine ao ?_
 refine Tl rfl rfl rfl rfl z31 Ia (fun b2=> ?_)
 refine sf 0 8 ⟨rfl,rfl,rfl⟩ rfl rfl rfl rfl ?_
 refine ao ?_
 refine wk [9,8,6] rfl ?_
 refine ao ?_
 refine TO.AK 0 rfl rfl rfl vq C3 rfl De rfl rfl ?_
 refine ao ?_
 refine Tr.ret (Fin.Bc rfl (AL.cell 0 rfl rfl Dg De rfl Lr) (AL.tmp rfl Lr) ?_)
 · exact Lr
theorem TL {e:Dn} {c:BW} {l:List Ba} {r:List BH} {fr:Int} (hf:e.fits) (Gb:∀x∈l,x.C6.small) (hrl:r.length≤1000000):BF prog 54 [agg (CM e),MM c,Da l,reqs r,int fr] (Dy [agg (qK e c l r fr),int (Kn e c l r fr)]):=by
 refine fo func54 rfl ⟨rfl,rfl⟩ fun M0 w0=>(Tr.Cl 3 rfl fun AH2=>(Tr.Hg 0 0 rfl rfl fun JR=>(Tr.seq (Tr.Ap (tp rfl (Bh rfl C3) (tp rfl (Bh rfl C3) ?_))))))
 refine Tl rfl rfl rfl rfl z35 FE (fun b1=> ?_)
 refine ao ?_
 refine ac ?_
 refine co rfl (Cz (D7 hf) rfl rfl) ?_
 refine an ?_ ?_<;>intro h1 q1
 have VY:Fc e=false:=by cases h_:Fc e with|false=>rfl|true=>exact absurd h1 Mo
 have Yl:Km e c l=31:=by unfold Km;rw [if_pos VY]
 have hb:Km e c l≠0:=by rw [Yl];decide
 refine ao ?_
 refine TO.AK 0 rfl rfl rfl vq C3 rfl CL rfl rfl ?_
 refine ao ?_
 refine Tr.ret (Fin.AE (Fin.Bc rfl (AL.cell 0 rfl rfl C4 CL rfl Lr) (AL.tmp rfl Lr) ?_))
 refine Ay ⟨?_,?_,trivial⟩
 · exact SP (UN hb) hb
 · refine int_eq ?_;rw [UN hb,Yl]
 have VY:¬Fc e=false:=by intro h_;rw [h_] at h1;exact absurd h1 AB
 refine a2 ?_
 refine co rfl (CS (KZ (c:=c) (m:=((e.Bu.length:Nat):Int))) rfl rfl rfl) ?_
 refine ac ?_
 refine wk [12,10,6,4,3,2] rfl ?_
 refine an ?_ ?_<;>intro h2 q2
 have hck:c.check ((e.Bu.length:Nat):Int)≠0:=by simpa using h2
 have Yl:Km e c l=c.check ((e.Bu.length:Nat):Int):=by unfold Km;rw [if_neg VY,if_pos hck]
 have hb:Km e c l≠0:=by rw [Yl];exact hck
 refine ao ?_
 refine TO.AK 0 rfl rfl rfl vq C3 rfl CL rfl rfl ?_
 refine ao ?_
 refine Tr.ret (Fin.AE (Fin.Bc rfl (AL.cell 0 rfl rfl C4 CL rfl Lr) (AL.tmp rfl Lr) ?_))
 refine Ay ⟨?_,?_,trivial⟩
 · exact SP (UN hb) hb
 · refine int_eq ?_;rw [UN hb,Yl]
 have hck:c.check ((e.Bu.length:Nat):Int)=0:=by simpa using h2
 have Yl:Km e c l=Eg c l:=by unfold Km;rw [if_neg VY,if_neg (not_not_intro hck)]
 obtain ⟨how,htl,hth⟩:=UM hck
 refine a2 ?_
 refine co rfl (CS (Sd (c:=c) (l:=l) how) rfl rfl rfl) ?_
 refine ac ?_
 refine wk [14,13,10,6,4,3,2] rfl ?_
 refine an ?_ ?_<;>intro h3 q3
 have hte:Eg c l≠0:=by simpa using h3
 have hb:Km e c l≠0:=by rw [Yl];exact hte
 refine ao ?_
 refine TO.AK 0 rfl rfl rfl vq C3 rfl CL rfl rfl ?_
 refine ao ?_
 refine Tr.ret (Fin.AE (Fin.Bc rfl (AL.cell 0 rfl rfl C4 CL rfl Lr) (AL.tmp rfl Lr) ?_))
 refine Ay ⟨?_,?_,trivial⟩
 · exact SP (UN hb) hb
 · refine int_eq ?_;rw [UN hb,Yl]
 have hte:Eg c l=0:=by simpa using h3
 have hb:Km e c l=0:=by rw [Yl];exact hte
 have Ns:=(SO hte).1
 have Ru:=vO hte hth
 obtain ⟨T,hT⟩:∃T,l.map (SM c)=T:=⟨_,rfl⟩
 have hTl:T.length=l.length:=by rw [←hT,List.length_map]
 rw [hT] at Ru
 refine Tr.re 13 rfl (Pr.le_of_eq (by rw [X9 hte,hT])) ?_
 refine a2 ?_
 refine co rfl (CS (ak (n:=((l.length:Nat):Int)) (l:=r) hrl) rfl rfl rfl) ?_
 refine ac ?_
 refine wk [15,14,13,10,6,4,3,2] rfl ?_
 refine an ?_ ?_<;>intro h4 q4
 have hv:BD (l.length:Nat) r≠0:=by simpa using h4
 refine ao ?_
 refine TO.AK 0 rfl rfl rfl vq C3 rfl CL rfl rfl ?_
 refine ao ?_
 refine Tr.ret (Fin.AE (Fin.Bc rfl (AL.cell 0 rfl rfl C4 CL rfl Lr) (AL.tmp rfl Lr) ?_))
 refine Ay ⟨?_,?_,trivial⟩
 · exact SP (xC hb hv) hv
 · refine int_eq ?_;exact (xC hb hv).symm
 have hv:BD (l.length:Nat) r=0:=by simpa using h4
 obtain ⟨row,hrow⟩:∃row,(DZ l.length r l.length).1=row:=⟨_,rfl⟩
 obtain ⟨jE,AHQ⟩:=JT hv l.length AU
 rw [Int.toNat_natCast,hrow] at jE AHQ
 have hrq:∀q∈r,(0≤q.fst∧q.fst<l.length)∧0≤q.thn∧q.fst≠q.thn:=fun q hq=>by
  have h_:=(Co hv).2.1 q hq
  unfold Fa at h_;rw [decide_eq_false_iff_not] at h_;omega
 refine Tr.re 15 rfl (Pr.le_of_eq (by rw [if_pos hv,Int.toNat_natCast,hrow])) ?_
 refine ac ?_
 refine ao ?_
 refine tp rfl (Nd (m:=l.length) rfl underlying22 Bs Iw z3 rfl AB AB vq vq GF AA) ?_
 refine tp rfl (An (rows:=[(0,[_]),(1,[_]),(2,[_])]) rfl L8 FE ⟨⟨rfl,Lj⟩,⟨⟨rfl,Lj⟩,⟨⟨rfl,⟨_,rfl,Pr.le_trans (Pr.le_trans (B8 _ _) (Pr.le_of_eq (show _=slice 1 ((List.replicate l.length (0:Int)).map fun n=>[int n]) by rw [List.map_replicate];rfl))) (Ad _)⟩⟩,trivial⟩⟩⟩ rfl) ?_
 refine TO.mO rfl rfl AB rfl (bB (d:=List.replicate l.length 0) Gb AA hrl Pm) kz (fun v1=> ?_)
 refine Tl rfl rfl rfl rfl z35 FE (fun b2=> ?_)
 refine TO.AK 0 rfl rfl rfl vq C3 rfl CL rfl rfl ?_
 refine ao ?_
 refine wk [16,15,13,10,6,4,3] rfl ?_
 refine a2 ?_
 refine Tr.block (Tr.CC 3 1 (Tr.CC 3 1 (Tr.lN _ (kk [69,68,16,13,10,6,4,3] rfl) (fun (dy:List Int) (b:List Int) (y:List Int) (k:Nat) u u2=>[(70,int ((k:Nat):Int)),(17,Aa u (ints b)),(18,Aa u2 (ints y))]) (fun (dy:List Int) (b:List Int) (y:List Int) (k:Nat) u u2=>Hp M0 w0 Fo ([Au 3 1 u2,Au 3 1 u,AF true b2 35 [Da l,reqs r,is v1],Bz 3 1 (dy.map fun n=>[int n]) v1,AF true b1 35 (([.slice none 0 0,.slice none 0 0,.slice none 0 0]:List Value).map is)])) (fun (dy:List Int) (b:List Int) (y:List Int) (k:Nat)=>k≤row.length∧OU c r T fr l.length (row.take k)=some (dy,b,y)) (fun (dy:List Int) (b:List Int) (y:List Int) (k:Nat)=>row.length-k) (List.replicate l.length 0) ([]) ([]) (0) (.slice none 0 0) (.slice none 0 0) (⟨Nat.zero_le _,rfl⟩) ⟨kq,⟨_,rfl,Bp rfl⟩,⟨_,rfl,Bp rfl⟩,trivial⟩ (fun _ _ h=>h) ?_)))
 rintro dy b y k u u2 ⟨hk0,hsc⟩
 have hS:=TD.run (k:=k) jE (fun q hq=>by have:=hrq q hq;omega) Ns how (fun i h1 h2=>Ru _ (List.mem_of_getElem? (FL (l:=T) (i:=i.toNat) AA))) hk0 hsc
 have hdl:=hS.len
 have XI:b.length=k:=by rw [hS.hb,List.length_map,List.length_take];omega
 have hyl:y.length=k:=by rw [hS.hd,List.length_map,List.length_take];omega
 refine ac ?_
 refine Tr.seq ?_
 refine Tr.cn rfl ?_ ?_<;>intro h5 q5
 have hk:k<row.length:=AH h5
 obtain ⟨i,hi⟩:=at_ hk
 have ot:=jE.QN i (List.mem_of_getElem? hi)
 have hti:T[i.toNat]? =some (Ym T i):=FL AA
 refine ac ?_
 refine Tr.seq (Tr.block (Tr.seq (Tr.Al (co rfl (AD rfl underlying51 Bs vq vq AA (AZ hi)) ?_))))
 refine ac ?_
 refine wk [70,69,68,20,18,17,16,13,10,6,4,3] rfl ?_
 refine ac ?_
 refine wk [70,69,68,21,20,18,17,16,13,10,6,4,3] rfl ?_
 refine ac ?_
 refine wk [77,76,75,70,69,68,21,20,18,17,16,13,10,6,4,3] rfl (Tr.block (Tr.BE _ (kk [76,75,70,69,68,20,18,17,16,13,10,6,4,3] rfl) (fun m:Nat=>[(77,int ((m:Nat):Int)),(21,int (GC (r.take m) dy i fr))]) (fun m:Nat=>m≤(r).length) (fun m:Nat=>(r).length-m) 0 (Nat.zero_le _) ⟨kq,kz⟩ ?_))
 rintro m NW
 refine ac ?_
 refine wk [78,77,76,75,70,69,68,21,20,18,17,16,13,10,6,4,3] rfl (Tr.seq ?_)
 refine Tr.cn rfl ?_ ?_<;>intro h6 q6
 have Ee:m<(r).length:=AH h6
 obtain ⟨q,Em⟩:=at_ Ee
 refine ac ?_
 refine wk [77,76,75,70,69,68,21,20,18,17,16,13,10,6,4,3] rfl (Tr.seq (Tr.block (Tr.seq (Tr.Ap (tp rfl (AD rfl underlying33 C2 vq vq AA (AZ Em)) (tp rfl (AM rfl Fx C2 vq rfl rfl) ?_))))))
 refine Tl rfl rfl rfl rfl Sv RH (fun b3=> ?_)
 refine sf 0 23 ⟨rfl,rfl,rfl⟩ rfl rfl rfl rfl ?_
 refine ao ?_
 refine wk [77,76,75,70,69,68,23,21,20,18,17,16,13,10,6,4,3] rfl ?_
 refine ac ?_
 refine wk [84,77,76,75,70,69,68,23,21,20,18,17,16,13,10,6,4,3] rfl ?_
 refine Tr.cn rfl ?_ ?_<;>intro h7 q7
 have hqr:=hrq q (List.mem_of_getElem? Em)
 have hz:=FL (l:=dy) (i:=q.fst.toNat) (by have:=hS.len;omega)
 have hzb:=hS.bnd _ (List.mem_of_getElem? hz)
 refine ac ?_
 refine co rfl (CN 3 rfl (GQ rfl underlying22 Bs vq vq AA C1)) ?_
 refine co rfl (CN 3 rfl (JV rfl Cs vq (A7 fun _=>rfl) (by rw [List.getElem?_map,hz];rfl) rfl)) ?_
 refine Mz rfl rfl rfl rfl AA (co rfl (L4 rfl vq vq) ?_)
 refine ac ?_
 refine wk [77,76,75,70,69,68,21,20,18,17,16,13,10,6,4,3] rfl ?_
 refine ac ?_
 exact Fin.AO (m+1) ⟨Ee,by omega⟩ ⟨⟨_,rfl,AG m⟩,⟨_,rfl,int_eq (by rw [SQ Em,if_pos (by simpa using h7)])⟩,kz⟩
 refine ac ?_
 refine wk [77,76,75,70,69,68,21,20,18,17,16,13,10,6,4,3] rfl ?_
 refine ac ?_
 exact Fin.AO (m+1) ⟨Ee,by omega⟩ ⟨⟨_,rfl,AG m⟩,⟨_,rfl,int_eq (by rw [SQ Em,if_neg (by simpa using h7)])⟩,kz⟩
 have KV:m=(r).length:=by have:=AJ h6;omega
 subst KV
 rw [List.take_length]
 refine ac ?_
 refine wk [70,69,68,21,20,18,17,16,13,10,6,4,3] rfl ?_
 refine ac ?_
 refine co rfl (AD rfl underlying22 Bs vq vq AA (Bf hti)) ?_
 refine ac ?_
 refine co rfl (AV rfl (Xp (c:=c) (Ag:=b) (days:=y) (n:=Ym T i) (from_:=GC r dy i fr)) ⟨kq,Iy,Iy,kz⟩) ?_
 refine ac ?_
 refine wk [70,69,68,25,24,20,18,17,16,13,10,6,4,3] rfl ?_
 refine ac ?_
 refine wk [109,70,69,68,24,20,18,17,16,13,10,6,4,3] rfl ?_
 refine Tr.cn rfl ?_ ?_<;>intro h8 q8
 have hno:c.early b y (Ym T i) (GC r dy i fr)=none:=by simpa using h8
 refine ao ?_
 refine TO.AK 4 rfl rfl rfl vq C3 rfl CL rfl rfl ?_
 refine ao ?_
 refine wk [11,10] rfl (Tr.ret (Fin.AE (Fin.AR (Fin.AE (Fin.AE (Fin.AR (Fin.AE (Fin.Bc rfl (AL.cell 4 rfl rfl C4 CL rfl Lr) (AL.tmp rfl Lr) ?_))))))))
 refine Ay ⟨?_,?_,trivial⟩
 · exact SP (qL hb hv cJ) AB
 · refine int_eq ?_;exact (qL hb hv cJ).symm
 obtain ⟨x,hx⟩:∃x,c.early b y (Ym T i) (GC r dy i fr)=some x:=Option.isSome_iff_exists.1 (by simpa using h8)
 have bC:=FL (l:=dy) (i:=i.toNat) (by have:=hS.len;omega)
 refine Tr.re 24 rfl (int_eq (by rw [hx])) ?_
 refine ac ?_
 refine wk [70,69,68,24,20,18,17,16,13,10,6,4,3] rfl ?_
 refine ao ?_
 refine tp rfl (CN 3 rfl (GQ rfl underlying22 Bs vq vq AA C1)) ?_
 refine TO.DG 3 rfl rfl (Eu rfl rfl vq Lj Bs rfl (A7 fun _=>rfl) (by rw [List.getElem?_map,bC];rfl) AB (show _=(dy.set i.toNat x).map _ by rw [List.map_set];rfl)) ?_
 refine ao ?_
 refine wk [70,69,68,24,20,18,17,16,13,10,6,4,3] rfl ?_
 refine ao ?_
 refine tp rfl (AD rfl underlying22 Bs vq vq AA (Bf hti)) ?_
 refine ao ?_
 refine TO.Dl 1 rfl rfl AB (CB rfl rfl rfl rfl underlying22 Bs Iw z3 Iy Gn (BC BR KJ)) (fun v2=> ?_)
 refine ao ?_
 refine TO.Dl 0 rfl rfl AB (CB rfl rfl rfl rfl underlying22 Bs Iw z3 Iy Gn (BC BR KJ)) (fun v3=> ?_)
 refine ao ?_
 refine wk [70,69,68,18,17,16,13,10,6,4,3] rfl ?_
 refine ac ?_
 exact Fin.sA (dy.set i.toNat x) (b++[Ym T i]) (y++[x]) (k+1) v2 v3 (⟨⟨hk,ur hi hsc hx⟩,by omega⟩) ⟨⟨_,rfl,AG k⟩,⟨_,rfl,BJ DQ⟩,⟨_,rfl,BJ DQ⟩,kz⟩ (fun _ _ h=>h)
 have hkr:k=row.length:=by have:=AJ h5;omega
 rw [hkr,List.take_length] at hsc
 have hsr:Wo c l r fr=some (dy,b,y):=by unfold Wo;rw [hT,hrow];exact hsc
 refine ac ?_
 refine Tr.seq (Tr.Gm 2 3 2 rfl rfl AB rfl Lr (A7 fun _=>rfl) ?_)
 refine ao ?_
 refine TO.AK 4 rfl rfl rfl vq C3 rfl CL rfl rfl ?_
 refine ao ?_
 refine wk [11,10] rfl (Tr.ret (Fin.Bc rfl (AL.cell 4 rfl rfl C4 CL rfl Lr) (AL.tmp rfl Lr) ?_))
 refine Ay ⟨?_,?_,trivial⟩
 · exact vP (xD hb hv hsr) hsr
 · refine int_eq ?_;exact (xD hb hv hsr).symm
theorem ql {l:List Ba} {n:Nat} (hc:∀c∈l,c.C6.fits∧c.C6.small):∀(s:List Int) (Bu:List B7),(∀x∈Bu,x.sz n)→(∀x∈(OP l s Bu).1,x.sz (n+s.length))∧(OP l s Bu).1.length=Bu.length
 |[],Bu,h=>⟨h,rfl⟩
 |i::s,Bu,h=>by
  rw [OP]
  split
  · exact ⟨fun x hx=>(h x hx).le AA,rfl⟩
  next c j_=>
  by_cases ha:(Ln Bu c).2=0
  ·
   rw [if_pos ha]
   have:=ql (n:=n+1) hc s (Ln Bu c).1 (nX h (hc c (List.mem_of_getElem? j_)))
   rw [eG] at this
   exact ⟨fun x hx=>by rw [List.length_cons,show n+(s.length+1)=n+1+s.length by omega];exact this.1 x hx,this.2⟩
  · rw [if_neg ha];exact ⟨fun x hx=>(h x hx).le AA,rfl⟩
theorem fL {e:Dn} {l:List Ba} {s:List Int} {n:Nat} (hz:e.sz n) (hc:∀c∈l,c.C6.fits∧c.C6.small):(Vy e l s).1.sz (n+s.length):=by
 have h0:GR.sz (n+s.length):=⟨(fun x hx=>by cases hx),(fun x hx=>by cases hx),Nat.zero_le _,Nat.zero_le _,Nat.zero_le _⟩
 obtain ⟨h1,h2⟩:=ql hc s e.Bu hz.Bu
 unfold Vy
 repeat' split
 · exact h0
 · exact h0
 · exact h0
 · exact ⟨h1,hz.items,by show (OP l s e.Bu).1.length≤_;rw [h2];exact hz.le,hz.lg,hz.li⟩
 · exact h0
theorem O4.sz {e:Dn} (h:O4 e):e.sz 5:=by
 have h3:=h.n3;have g3:=h.g3;have i2:=h.i2
 refine ⟨fun x hx=> ?_,fun x hx=>⟨by have:=(h.it x hx).name;unfold maxLen;omega,by have:=(h.it x hx).links;omega⟩,by omega,by omega,by omega⟩
 obtain ⟨i,hi⟩:=List.getElem?_of_mem hx
 exact uP (h.snd i x hi)
end Go.Proofs.YtmocaapoeefgkaaGreatDoor
