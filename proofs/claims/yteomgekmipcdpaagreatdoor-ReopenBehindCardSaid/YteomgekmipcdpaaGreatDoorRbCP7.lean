/-
  Part 7 of the texts that prove this claim, merged.
-/
import Derived.Test.YteomgekmipcdpaaGreatDoorRbCP6
set_option linter.all false
set_option maxRecDepth 40000
set_option maxHeartbeats 16000000
namespace Go.Proofs.YteomgekmipcdpaaGreatDoor
open Go Go.RowKit Cp Go.Proofs.Tryz
variable {I:Cc} {E:Env} {f:FuncId} {s:List Int} {ps:List Pr} {l:List B0} {b d i j k n:Nat} {o:Oper} {P:Program} {e:TypeId} {w:World}
theorem qp {e:Dg} {x:Iz} (h:FU e=true) (hx:e.BV[i]? =some x):(0≤x.client∧x.client<(e.Bw.length:Nat))∧(0≤x.server∧x.server<(e.Bw.length:Nat)):=by
 have h1:=(FX.1 h).ed i (by rcases Nat.lt_or_ge i e.BV.length with h'|h';exact h';rw [List.getElem?_eq_none h'] at hx;cases hx)
 unfold Ek at h1
 rw [hx] at h1
 simp only [Option.getD_some,Bool.and_eq_true,decide_eq_true_eq] at h1
 omega
theorem i6 {e:Dg} {i:Int} (hf:e.fits):A_ prog 283 [agg (CJ e),int i] (Cp.ex fun z:CF×CF×Int=>fact (z.2.2=0→z.1∈e.Bw∧z.2.1∈e.Bw) (DW [agg (Bp z.1),agg (Bp z.2.1),int z.2.2])):=by
 refine fo func283 rfl ⟨rfl,rfl⟩ fun M0 w0=>(Tr.seq (Tr.BI (tp rfl (Bv rfl Cu) ?_)))
 refine Tl rfl rfl rfl rfl IF Fj (fun b1=> ?_)
 refine Tl rfl rfl rfl rfl IF Fj (fun b2=> ?_)
 refine ap ?_
 refine ac ?_
 refine co rfl (CE (Dv hf) rfl rfl) ?_
 refine an ?_ ?_<;>intro h1 q1
 refine ap ?_
 refine Tr.ret (Fin.AF (Fin.FN rfl (AQ.cell 1 rfl rfl CK Bj rfl Lr) (AQ.cell 0 rfl rfl CK Bj rfl Lr) (AQ.tmp rfl Lr) ?_))
 · exact Y8
 have Vb:FU e=true:=by cases h_:FU e with|true=>rfl|false=>exact absurd h1 Mt
 refine ac ?_
 refine ag ?_ ?_<;>intro h2 q2
 refine ac ?_
 refine wk [20,5,4,2,1] rfl (Tr.cond rfl (fun _=> ?_) (fun h=>nomatch h))
 refine Tr.seq (Tr.BI (tp rfl (Au (rows:=[]) rfl dN Fj trivial rfl) (tp rfl (Au (rows:=[]) rfl dN Fj trivial rfl) (TO.AV 1 rfl rfl rfl vq Cu rfl Bj rfl rfl (TO.AV 0 rfl rfl rfl vq Cu rfl Bj rfl rfl (tm rfl (TO.nil (Fin.go (Tr.ret (Fin.AF (Fin.FN rfl (AQ.cell 1 rfl rfl CK Bj rfl Lr) (AQ.cell 0 rfl rfl CK Bj rfl Lr) (AQ.tmp rfl Lr) ?_)))))))))))
 · exact Y8
 refine ac ?_
 refine wk [20,5,4,2,1] rfl ?_
 refine Tr.cn rfl ?_ ?_<;>intro h3 q3
 refine ap ?_
 refine Tr.ret (Fin.AF (Fin.FN rfl (AQ.cell 1 rfl rfl CK Bj rfl Lr) (AQ.cell 0 rfl rfl CK Bj rfl Lr) (AQ.tmp rfl Lr) ?_))
 · exact Y8
 obtain ⟨x,hx⟩:=at_ (l:=e.BV) (k:=i.toNat) AA
 obtain ⟨hxc,hxs⟩:=qp Vb hx
 obtain ⟨c,hc⟩:=at_ (l:=e.Bw) (k:=x.client.toNat) AA
 obtain ⟨y,hy⟩:=at_ (l:=e.Bw) (k:=x.server.toNat) AA
 refine ac ?_
 refine Tr.seq (Tr.rx ?_)
 refine ay ?_
 refine xo rfl (fun _=>AB rfl underlying28 FO vq vq AA (Be hx)) ?_
 refine ay ?_
 refine xo rfl (fun _=>AB rfl underlying27 Bj vq vq AA (Be hc)) ?_
 refine ay ?_
 refine xo rfl (fun _=>AB rfl underlying28 FO vq vq AA (Be hx)) ?_
 refine ay ?_
 refine xo rfl (fun _=>AB rfl underlying27 Bj vq vq AA (Be hy)) ?_
 refine ay ?_
 refine Cx.nil ⟨by kernel_rfl,?_⟩
 refine BE.done Mk (Fin.go (wk [6,5,4] rfl (Tr.ret (Fin.FN rfl (AQ.cell 1 rfl rfl CK Bj rfl Lr) (AQ.cell 0 rfl rfl CK Bj rfl Lr) (AQ.tmp rfl Lr) ?_))))
 · exact As (c,y,_) (Ar (fun _=>⟨List.mem_of_getElem? hc,List.mem_of_getElem? hy⟩) Lr)
theorem Sk {e:Dg} {i day:Int} (hf:e.fits):A_ prog 268 [agg (CJ e),int i,int day] (Cp.ex fun z:Int×Int×Int=>fact True (DW [agg [int z.1,int z.2.1],int z.2.2])):=by
 refine fo func268 rfl ⟨rfl,rfl⟩ fun M0 w0=>(Tr.seq (Tr.BI (tp rfl (Bv rfl Cu) ?_)))
 refine Tl rfl rfl rfl rfl Js Fl (fun b1=> ?_)
 refine ao ?_
 refine ao ?_
 refine tp rfl (Bu (i6 hf) rfl rfl rfl) ?_
 refine TO.ex 14 rfl (fun z1=>TO.fact 14 rfl fun E2=> ?_)
 refine ao ?_
 refine Tl rfl rfl rfl rfl IF Fj (fun b2=> ?_)
 refine Tl rfl rfl rfl rfl IF Fj (fun b3=> ?_)
 refine sf 1 8 ⟨rfl,rfl,rfl⟩ rfl rfl rfl rfl ?_
 refine sf 0 9 ⟨rfl,rfl,rfl⟩ rfl rfl rfl rfl ?_
 refine ao ?_
 refine wk [10,9,8,6,2] rfl ?_
 refine an ?_ ?_<;>intro h1 q1
 refine ao ?_
 refine TO.AV 0 rfl rfl rfl vq Cu rfl CG rfl rfl ?_
 refine ao ?_
 refine Tr.ret (Fin.AF (Fin.BW rfl (AQ.cell 0 rfl rfl Cz CG rfl Lr) (AQ.tmp rfl Lr) ?_))
 · exact Ej
 have hz0:z1.2.2=0:=by have:=q1;omega
 refine ac ?_
 refine ao ?_
 refine tp rfl (Iy (YB (hf.Bw _ (E2 hz0).1).2 (hf.Bw _ (E2 hz0).2).2) rfl rfl rfl rfl) ?_
 refine TO.ex 25 rfl (fun z2=>TO.fact 25 rfl fun HW=> ?_)
 refine ao ?_
 refine TO.AV 0 rfl rfl rfl vq Cu rfl CG rfl rfl ?_
 refine ao ?_
 refine wk [7,6] rfl (Tr.ret (Fin.BW rfl (AQ.cell 0 rfl rfl Cz CG rfl Lr) (AQ.tmp rfl Lr) ?_))
 · exact Ej
theorem PG {e:Dg} {i from_ OK:Int} (hf:e.fits):A_ prog 220 [agg (CJ e),int i,int from_,int OK] (Cp.ex fun z:Int×Int×Int=>fact True (DW [agg [int z.1,int z.2.1],int z.2.2])):=by
 refine fo func220 rfl ⟨rfl,rfl⟩ fun M0 w0=>(Tr.seq (Tr.BI (tp rfl (Bv rfl Cu) ?_)))
 refine Tl rfl rfl rfl rfl Js Fl (fun b1=> ?_)
 refine ao ?_
 refine ao ?_
 refine tp rfl (Iy (Sk hf) rfl rfl rfl rfl) ?_
 refine TO.ex 16 rfl (fun z1=>TO.fact 16 rfl fun E2=> ?_)
 refine ao ?_
 refine Tl rfl rfl rfl rfl Js Fl (fun b2=> ?_)
 refine sf 0 10 ⟨rfl,rfl,rfl⟩ rfl rfl rfl rfl ?_
 refine ao ?_
 refine wk [11,10,8,4,3,2,1] rfl ?_
 refine an ?_ ?_<;>intro h1 q1
 refine ao ?_
 refine TO.AV 0 rfl rfl rfl vq Cu rfl CG rfl rfl ?_
 refine ao ?_
 refine Tr.ret (Fin.AF (Fin.BW rfl (AQ.cell 0 rfl rfl Cz CG rfl Lr) (AQ.tmp rfl Lr) ?_))
 · exact Ej
 refine ac ?_
 refine ao ?_
 refine tp rfl (Iy (Sk hf) rfl rfl rfl rfl) ?_
 refine TO.ex 27 rfl (fun z2=>TO.fact 27 rfl fun HW=> ?_)
 refine ao ?_
 refine wk [11,10,8,3,2] rfl ?_
 refine an ?_ ?_<;>intro h2 q2
 refine ao ?_
 refine TO.AV 0 rfl rfl rfl vq Cu rfl CG rfl rfl ?_
 refine ao ?_
 refine Tr.ret (Fin.AF (Fin.BW rfl (AQ.cell 0 rfl rfl Cz CG rfl Lr) (AQ.tmp rfl Lr) ?_))
 · exact Ej
 refine ac ?_
 refine an ?_ ?_<;>intro h3 q3
 refine ao ?_
 refine TO.AV 0 rfl rfl rfl vq Cu rfl CG rfl rfl ?_
 refine ao ?_
 refine Tr.ret (Fin.AF (Fin.BW rfl (AQ.cell 0 rfl rfl Cz CG rfl Lr) (AQ.tmp rfl Lr) ?_))
 · exact Ej
 refine ac ?_
 refine ao ?_
 refine TO.AV 0 rfl rfl rfl vq Cu rfl CG rfl rfl ?_
 refine ao ?_
 refine Tr.ret (Fin.BW rfl (AQ.cell 0 rfl rfl Cz CG rfl Lr) (AQ.tmp rfl Lr) ?_)
 · exact As (z1.1,z1.2.1,0) (Ar trivial Lr)
abbrev Sl:Pr:=slice 7 []
abbrev Nh:Pr:=agg [slice 6 [],slice 2 []]
abbrev WL:Pr:=agg [slice 1 [],int 0]
theorem PI   :A_ prog 85 [Nh] (int 0):=by
 refine fo func85 rfl ⟨rfl,rfl⟩ fun M0 w0=> ?_
 refine ac ?_
 refine ac ?_
 refine co rfl (CB rfl underlying72 (vl rfl)) (co rfl (ki rfl rfl rfl rfl) (cm rfl ?_))
 refine Ch.cs 9 rfl ?_ ?_<;>intro h1 q1
 iterate 4 refine cnf h1 rfl ?_
 refine co rfl (Wh rfl rfl h1 rfl) (Ch.nil (Fin.go (Tr.cond rfl (fun _=> ?_) (fun h=>nomatch h))))
 refine Tr.seq (Tr.Bq (cm rfl (Ch.nil (Fin.go (Tr.ret (Fin.AF (Fin.tI rfl (Bt.Dx _ _) rfl ?_)))))))
 · refine int_eq ?_;simp_all
 refine cy h1 rfl (kfa rfl l6 rfl rfl) (cy h1 rfl (JA rfl yS rfl) (cy h1 rfl (CB rfl underlying73 (vl rfl)) ?_))
 refine ac ?_
 refine Tr.cn rfl ?_ ?_<;>intro h2 q2
 exact absurd h2 AD
 refine ac ?_
 refine ac ?_
 refine Tr.block (Tr.A0 [(1,_)] ⟨ke rfl,trivial⟩ (fun k:Nat=>[(3,int ((k:Nat):Int))]) (fun k:Nat=>k=0) (fun k:Nat=>0) 0 (rfl) ⟨ke rfl,trivial⟩ ?_)
 rintro k hk0
 refine ac ?_
 refine co rfl (CB rfl underlying72 (vl rfl)) ?_
 refine ac ?_
 refine Tr.cn rfl ?_ ?_<;>intro h3 q3
 exfalso;have XW:=FM.Gp h3;subst hk0;simp at XW
 have kQ:=h3
 refine ac ?_
 refine ac ?_
 refine Tr.block (Tr.A0 [(1,_)] ⟨ke rfl,trivial⟩ (fun k:Nat=>[(4,int ((k:Nat):Int))]) (fun k:Nat=>k=0) (fun k:Nat=>0) 0 (rfl) ⟨ke rfl,trivial⟩ ?_)
 rintro k hk0
 refine ac ?_
 refine co rfl (CB rfl underlying73 (vl rfl)) ?_
 refine ac ?_
 refine Tr.cn rfl ?_ ?_<;>intro h4 q4
 exfalso;have XW:=FM.Gp h4;subst hk0;simp at XW
 have kQ:=h4
 refine ac ?_
 refine ac ?_
 refine ac ?_
 · exact Lr
theorem YD {a b p:Int}  :A_ prog 307 [Nh,agg [int a,int b],int p] (anyI):=by
 refine fo func307 rfl ⟨rfl,rfl⟩ fun M0 w0=> ?_
 · repeat' first|exact absurd h AD|exact As _ Lr|refine co rfl (CE (PI) rfl rfl) ?_|refine co rfl (CE (KF (B8:=a) (bits:=b)) rfl rfl) ?_|refine ac ?_|(refine Tr.cn rfl ?_ ?_<;>intro h q)|(refine Ch.cg rfl rfl rfl ?_ ?_<;>intro h q)
theorem Lt {a b p d:Int}  :A_ prog 309 [Nh,agg [int a,int b],int p,int d] (int (-1)):=by
 refine fo func309 rfl ⟨rfl,rfl⟩ fun M0 w0=> ?_
 refine a2 ?_
 refine co rfl (CB rfl underlying72 vq) ?_
 refine ac ?_
 refine Tr.block (Tr.A0 _ (kk [5,4,3,2] rfl) (fun k:Nat=>[(9,int (-1))]) (fun k:Nat=>True) (fun k:Nat=>0) 0 (trivial) kz ?_)
 rintro k _
 refine an ?_ ?_<;>intro h1 q1
 exact absurd h1 AD
 have kQ:=h1
 refine a3 ?_
 · exact Lr
theorem TR {a b p d:Int}  :A_ prog 308 [Nh,agg [int a,int b],int p,int d] (bool true):=by
 refine fo func308 rfl ⟨rfl,rfl⟩ fun M0 w0=> ?_
 · repeat' first|exact Lr|exact absurd h AD|refine co rfl (eA (Lt) rfl rfl rfl rfl rfl) ?_|refine ac ?_|(refine Ch.cg rfl rfl rfl ?_ ?_<;>intro h q)
theorem TS {a b p d:Int}  :A_ prog 294 [Nh,agg [int a,int b],int p,int d] (DW [EN,anyI,anyI]):=by
 refine fo func294 rfl ⟨rfl,rfl⟩ fun M0 w0=> ?_
 refine a2 ?_
 refine co rfl (Iy (YD) rfl rfl rfl rfl) ?_
 refine ac ?_
 refine Tr.seq (Tr.ex 11 rfl fun x11=> ?_)
 refine an ?_ ?_<;>intro h1 q1
 refine ac ?_
 refine wk [10,9,8] rfl (Tr.ret (Fin.AF (Fin.I6 rfl (Bt.Dx _ _) rfl ?_ rfl ?_ rfl ?_)))
 · exact Aw
 · exact Aw
 · exact Aw
 refine ac ?_
 refine ag ?_ ?_<;>intro h2 q2
 refine ac ?_
 refine wk [24,5,4,3,2] rfl ?_
 refine ac ?_
 refine Tr.ret (Fin.AF (Fin.I6 rfl (Bt.Dx _ _) rfl ?_ rfl ?_ rfl ?_))
 · exact Aw
 · exact Aw
 · exact Aw
 refine ac ?_
 refine wk [24,5,4,3,2] rfl ?_
 refine Tr.cn rfl ?_ ?_<;>intro h3 q3
 refine ac ?_
 refine Tr.ret (Fin.AF (Fin.I6 rfl (Bt.Dx _ _) rfl ?_ rfl ?_ rfl ?_))
 · exact Aw
 · exact Aw
 · exact Aw
 refine a2 ?_
 refine co rfl (eA (TR) rfl rfl rfl rfl rfl) ?_
 refine ac ?_
 refine co rfl (eA (Lt) rfl rfl rfl rfl rfl) ?_
 refine ac ?_
 refine wk [10,9,8] rfl (Tr.ret (Fin.I6 rfl (Bt.Dx _ _) rfl ?_ rfl ?_ rfl ?_))
 · exact Aw
 · exact Aw
 · exact Aw
theorem i7   :A_ prog 295 [Sl] (int 0):=by
 refine fo func295 rfl ⟨rfl,rfl⟩ fun M0 w0=> ?_
 refine a2 ?_
 refine Tr.block (Tr.A0 _ (kk [0] rfl) (fun k:Nat=>[(3,int ((k:Nat):Int))]) (fun k:Nat=>k=0) (fun k:Nat=>0) 0 (rfl) kz ?_)
 rintro k hk0
 refine ac ?_
 refine co rfl (CB rfl underlying117 vq) ?_
 refine an ?_ ?_<;>intro h1 q1
 exfalso;have XW:=FM.Gp h1;subst hk0;simp at XW
 have kQ:=h1
 refine a3 ?_
 · exact Lr
theorem i9 {a b p d:Int} {s:List UInt8}  :A_ prog 296 [Sl,WL,agg [int a,int b],int p,str s,int d] (bool false):=by
 refine fo func296 rfl ⟨rfl,rfl⟩ fun M0 w0=> ?_
 refine a2 ?_
 refine Tr.block (Tr.A0 _ (kk [8,7,5,4,3,0] rfl) (fun k:Nat=>[(13,int ((k:Nat):Int))]) (fun k:Nat=>k=0) (fun k:Nat=>0) 0 (rfl) kz ?_)
 rintro k hk0
 refine ac ?_
 refine co rfl (CB rfl underlying117 vq) ?_
 refine an ?_ ?_<;>intro h1 q1
 exfalso;have XW:=FM.Gp h1;subst hk0;simp at XW
 have kQ:=h1
 refine a3 ?_
 · exact Lr
theorem TT {a b p d:Int} {s:List UInt8}  :A_ prog 288 [Nh,Sl,WL,agg [int a,int b],int p,str s,int d] (DW [EN,anyI]):=by
 refine fo func288 rfl ⟨rfl,rfl⟩ fun M0 w0=> ?_
 refine a2 ?_
 refine co rfl (eA (TS) rfl rfl rfl rfl rfl) ?_
 refine ac ?_
 refine wk [18,16,10,9,6,5,4,1] rfl (Tr.seq (Tr.seq (Tr.ex 18 rfl fun x18=>(Tr.ex 16 rfl fun x16=> ?_))))
 refine an ?_ ?_<;>intro h1 q1
 refine ac ?_
 refine Tr.ret (Fin.AF (Fin.Co rfl (Bt.Dx _ _) rfl ?_ rfl ?_))
 · exact Aw
 · exact Aw
 refine a2 ?_
 refine co rfl (CE (i7) rfl rfl) ?_
 refine a2 ?_
 refine wk [35,19,16,10,9,6,5,4,1] rfl ?_
 refine Tr.cn rfl ?_ ?_<;>intro h2 q2
 exact absurd h2 AD
 refine ac ?_
 refine ag ?_ ?_<;>intro h3 q3
 refine ac ?_
 refine wk [15,14] rfl (Tr.ret (Fin.Co rfl (Bt.Dx _ _) rfl ?_ rfl ?_))
 · exact Aw
 · exact Aw
 refine ac ?_
 refine cy h3 rfl (AY rfl (i9) ⟨kq,kz⟩) ?_
 refine ac ?_
 refine wk [15,14] rfl (Tr.ret (Fin.Co rfl (Bt.Dx _ _) rfl ?_ rfl ?_))
 · exact Aw
 · exact Aw
theorem ak {e:CF} {a b d:Int} (he:e.small):A_ prog 278 [Nh,Sl,WL,agg (Bp e),agg [int a,int b],int d] (DW [EN,anyI]):=by
 refine fo func278 rfl ⟨rfl,rfl⟩ fun M0 w0=> ?_
 refine ac ?_
 refine ap ?_
 refine tp rfl (Bu (Oa he) rfl rfl rfl) ?_
 refine TO.ex 23 rfl (fun z1=>TO.fact 23 rfl fun E2=> ?_)
 refine ap ?_
 refine wk [15,14,9,8,6,5,1] rfl ?_
 refine an ?_ ?_<;>intro h1 q1
 refine ac ?_
 refine Tr.ret (Fin.AF (Fin.Co rfl (Bt.Dx _ _) rfl ?_ rfl ?_))
 · exact Aw
 · exact Aw
 refine a3 ?_
 refine Tr.block (Tr.A0 _ (kk [14,9,8,6,5,1] rfl) (fun k:Nat=>[(17,int ((k:Nat):Int)),(16,EN)]) (fun k:Nat=>k≤(z1.1).length) (fun k:Nat=>(z1.1).length-k) 0 (Nat.zero_le _) ⟨kq,⟨_,rfl,As _ Lr⟩,trivial⟩ ?_)
 rintro k BN
 refine Tr.ex 16 rfl fun x16=> ?_
 refine an ?_ ?_<;>intro h2 q2
 have Ae:k<(z1.1).length:=AJ h2
 obtain ⟨x,Af⟩:=at_ Ae
 refine a2 ?_
 refine co rfl (AB rfl underlying174 Jr vq vq AA (Ad Af)) ?_
 refine ac ?_
 refine co rfl (AY rfl (TT (a:=x.1) (b:=x.2)) ⟨kq,kz⟩) ?_
 refine ac ?_
 refine wk [19,18,17,16,14,9,8,6,5,1] rfl (Tr.seq (Tr.seq (Tr.ex 19 rfl fun x19=>(Tr.ex 18 rfl fun x18=> ?_))))
 refine an ?_ ?_<;>intro h3 q3
 refine ac ?_
 refine wk [13,12] rfl (Tr.ret (Fin.AF (Fin.AP (Fin.AF (Fin.AF (Fin.AP (Fin.AF (Fin.Co rfl (Bt.Dx _ _) rfl ?_ rfl ?_))))))))
 · exact Aw
 · exact Aw
 · repeat' first|exact Fin.AL (k+1) ⟨Ae,by omega⟩ ⟨⟨_,rfl,AG k⟩,⟨_,rfl,As _ Lr⟩,kz⟩|refine ac ?_|(refine Ch.cg rfl rfl rfl ?_ ?_<;>intro h q)
 have BC:k=(z1.1).length:=by have:=AK h2;omega
 subst BC
 refine a2 ?_
 refine wk [13,12] rfl (Tr.ret (Fin.Co rfl (Bt.Dx _ _) rfl ?_ rfl ?_))
 · exact Aw
 · exact Aw
theorem Ke {d:Int}  :A_ prog 49 [Nh,Sl,int d] (anyI):=by
 refine fo func49 rfl ⟨rfl,rfl⟩ fun M0 w0=> ?_
 refine a2 ?_
 refine co rfl (CE (PI) rfl rfl) ?_
 refine an ?_ ?_<;>intro h1 q1
 exact absurd h1 AD
 refine a2 ?_
 refine co rfl (CB rfl underlying117 vq) ?_
 refine ac ?_
 refine Tr.block (Tr.A0 _ (kk [13,12,2] rfl) (fun k:Nat=>[(14,int ((k:Nat):Int))]) (fun k:Nat=>k=0) (fun k:Nat=>0) 0 (rfl) kz ?_)
 rintro k hk0
 refine ac ?_
 refine Tr.seq ?_
 refine Tr.cn rfl ?_ ?_<;>intro h2 q2
 exfalso;have XW:=FM.Gp h2;subst hk0;simp at XW
 have kQ:=h2
 · repeat' first|exact As _ Lr|refine ac ?_|(refine Tr.cn rfl ?_ ?_<;>intro h q)|(refine Ch.cg rfl rfl rfl ?_ ?_<;>intro h q)
abbrev fU:Pr:=Cp.ex fun z:List (Int×Int)=>fact (z.length≤1000) (uses z)
structure Kg (e:Dg) (i:Int) (x:Iz) (c s:CF):Prop where
 i0:0≤i
 hx:e.BV[i.toNat]? =some x
 c0:0≤x.client
 s0:0≤x.server
 hc:e.Bw[x.client.toNat]? =some c
 hs:e.Bw[x.server.toNat]? =some s
 cs:c.small
 ss:s.small
theorem qq {e:Dg} {i:Int} (hf:e.fits) (Vb:FU e=true) (h0:0≤i) (hi:i.toNat<e.BV.length):∃x c s,Kg e i x c s:=by
 obtain ⟨x,hx⟩:=at_ hi
 obtain ⟨hxc,hxs⟩:=qp Vb hx
 obtain ⟨c,hc⟩:=at_ (l:=e.Bw) (k:=x.client.toNat) AA
 obtain ⟨y,hy⟩:=at_ (l:=e.Bw) (k:=x.server.toNat) AA
 exact ⟨x,c,y,h0,hx,hxc.1,hxs.1,hc,hy,(hf.Bw _ (List.mem_of_getElem? hc)).2,(hf.Bw _ (List.mem_of_getElem? hy)).2⟩
theorem Kg.li {e:Dg} {i:Int} {x:Iz} {c s:CF} (h:Kg e i x c s):i.toNat<e.BV.length:=by
 have:=h.hx
 rcases Nat.lt_or_ge i.toNat e.BV.length with h'|h'
 · exact h'
 · rw [List.getElem?_eq_none h'] at this;cases this
theorem Kg.lc {e:Dg} {i:Int} {x:Iz} {c s:CF} (h:Kg e i x c s):x.client.toNat<e.Bw.length:=by
 have:=h.hc
 rcases Nat.lt_or_ge x.client.toNat e.Bw.length with h'|h'
 · exact h'
 · rw [List.getElem?_eq_none h'] at this;cases this
theorem Kg.ls {e:Dg} {i:Int} {x:Iz} {c s:CF} (h:Kg e i x c s):x.server.toNat<e.Bw.length:=by
 have:=h.hs
 rcases Nat.lt_or_ge x.server.toNat e.Bw.length with h'|h'
 · exact h'
 · rw [List.getElem?_eq_none h'] at this;cases this
theorem Kh {e:Dg} {i:Int} {x:Iz} {c s:CF} (he:Kg e i x c s):A_ prog 264 [agg (CJ e),int i] (agg (Bp s)):=by
 refine fo func264 rfl ⟨rfl,rfl⟩ fun M0 w0=> ?_
 have e1:=he.i0
 have e2:=he.c0
 have e3:=he.s0
 have e4:=he.li
 have e5:=he.lc
 have e6:=he.ls
 refine Tr.seq (Tr.BI (tp rfl (Bv rfl Cu) ?_))
 refine Tl rfl rfl rfl rfl IF Fj (fun b1=> ?_)
 refine ap ?_
 refine Tr.seq (Tr.rx ?_)
 refine ay ?_
 refine xo rfl (fun _=>AB rfl underlying28 FO vq vq AA (Be he.hx)) ?_
 refine ay ?_
 refine xo rfl (fun _=>AB rfl underlying27 Bj vq vq AA (Be he.hs)) ?_
 refine ay ?_
 refine Cx.nil ⟨by kernel_rfl,?_⟩
 refine BE.done al1 (Fin.go (Tr.ret (Fin.CY rfl (AQ.cell 0 rfl rfl CK Bj rfl Lr) ?_)))
 · exact Lr
theorem PJ {e:Dg} {i:Int} {x:Iz} {c s:CF} (he:Kg e i x c s):A_ prog 279 [agg (CJ e),int i] (fU):=by
 refine fo func279 rfl ⟨rfl,rfl⟩ fun M0 w0=> ?_
 have e1:=he.i0
 have e2:=he.c0
 have e3:=he.s0
 have e4:=he.li
 have e5:=he.lc
 have e6:=he.ls
 refine ac ?_
 refine ao ?_
 refine tp rfl (AB rfl underlying28 FO vq vq AA (Be he.hx)) (tp rfl (Al rfl RS FO vq rfl rfl) ?_)
 refine Tl rfl rfl rfl rfl z109 XB (fun b1=> ?_)
 refine sf 0 5 ⟨rfl,rfl,rfl⟩ rfl rfl rfl rfl ?_
 refine ao ?_
 refine ac ?_
 refine co rfl (AB rfl underlying27 Bj vq vq AA (Be he.hc)) ?_
 refine ac ?_
 refine co rfl (AB rfl underlying27 Bj vq vq AA (Be he.hs)) (co rfl (Al rfl CK Bj vq rfl rfl) (co rfl (Bu (YC he.cs he.ss) rfl rfl rfl) ?_))
 refine ac ?_
 refine wk [4] rfl ?_
 refine ac ?_
 · exact Lr
theorem aq {a b:CF} {x y:Int} (ha:a.small) (hb:b.small):A_ prog 280 [agg (Bp a),agg (Bp b),agg [int x,int y]] (EN):=by
 refine fo func280 rfl ⟨rfl,rfl⟩ fun M0 w0=> ?_
 refine ac ?_
 refine ap ?_
 refine tp rfl (Bu (Oa ha) rfl rfl rfl) ?_
 refine TO.ex 15 rfl (fun z1=>TO.fact 15 rfl fun E2=> ?_)
 refine ap ?_
 refine wk [7,5,4] rfl ?_
 refine ap ?_
 refine tp rfl (Bu (Oa hb) rfl rfl rfl) ?_
 refine TO.ex 21 rfl (fun z2=>TO.fact 21 rfl fun HW=> ?_)
 refine ap ?_
 refine ac ?_
 refine wk [28,9,7] rfl ?_
 refine Tr.cn rfl ?_ ?_<;>intro h1 q1
 refine a2 ?_
 · exact Aw
 have II:z1.1.length=z2.1.length:=by have h_:=q1;omega
 refine a2 ?_
 refine Tr.block (Tr.A0 _ (kk [30,9,7] rfl) (fun k:Nat=>[(31,int ((k:Nat):Int))]) (fun k:Nat=>k≤(z1.1).length) (fun k:Nat=>(z1.1).length-k) 0 (Nat.zero_le _) kz ?_)
 rintro k BN
 refine ac ?_
 refine Tr.seq ?_
 refine Tr.cn rfl ?_ ?_<;>intro h2 q2
 have Ae:k<(z1.1).length:=AJ h2
 obtain ⟨x,Af⟩:=at_ Ae
 obtain ⟨y2,hy2⟩:=at_ (l:=z2.1) (k:=k) AA
 · repeat' first|exact As _ Lr|exact Fin.AL (k+1) ⟨Ae,by omega⟩ ⟨⟨_,rfl,AG k⟩,kz⟩|refine co rfl (AB rfl underlying174 Jr vq vq AA (Ad Af)) ?_|refine co rfl (AB rfl underlying174 Jr vq vq AA (Ad hy2)) (co rfl (Al rfl Ht Jr vq rfl rfl) (co rfl (QE rfl vq vq) ?_))|refine ac ?_|(refine Tr.cn rfl ?_ ?_<;>intro h q)
 have BC:k=(z1.1).length:=by have:=AK h2;omega
 subst BC
 refine a3 ?_
 · exact Aw
theorem i_ {a b:Dg} (ha:a.fits) (hb:b.fits):A_ prog 262 [agg (CJ a),agg (CJ b)] (Cp.ex fun z:Int=>fact (z=0→FU a=true∧FU b=true∧a.BV.length=b.BV.length) (int z)):=by
 refine fo func262 rfl ⟨rfl,rfl⟩ fun M0 w0=>(Tr.IX 0 1 rfl rfl fun LC=>(Tr.IX 1 1 rfl rfl fun AH8=> ?_))
 refine a2 ?_
 refine co rfl (CE (Dv ha) rfl rfl) ?_
 refine ag ?_ ?_<;>intro h1 q1
 refine a3 ?_
 · exact Pj
 refine cy h1 rfl (Al rfl Gf Fi vq rfl rfl) (cy h1 rfl (CE (Dv hb) rfl rfl) ?_)
 refine an ?_ ?_<;>intro h2 q2
 refine a2 ?_
 · exact Pj
 refine a2 ?_
 refine wk [20,3,2] rfl ?_
 refine Tr.cn rfl ?_ ?_<;>intro h3 q3
 refine a2 ?_
 · exact Pj
 have II:a.BV.length=b.BV.length:=by have h_:=q3;omega
 refine a2 ?_
 refine Tr.block (Tr.A0 _ (kk [23,3,2] rfl) (fun k:Nat=>[(24,int ((k:Nat):Int))]) (fun k:Nat=>k≤(a.BV).length) (fun k:Nat=>(a.BV).length-k) 0 (Nat.zero_le _) kz ?_)
 rintro k BN
 refine ac ?_
 refine Tr.seq ?_
 refine Tr.cn rfl ?_ ?_<;>intro h4 q4
 have Ae:k<(a.BV).length:=AJ h4
 obtain ⟨x,Af⟩:=at_ Ae
 obtain ⟨y2,hy2⟩:=at_ (l:=b.BV) (k:=k) AA
 · repeat' first|exact As _ (Ar (fun h_=>absurd h_ AD) Lr)|exact Fin.AL (k+1) ⟨Ae,by omega⟩ ⟨⟨_,rfl,AG k⟩,kz⟩|refine co rfl (AB rfl underlying28 FO vq vq AA (Ad Af)) ?_|refine co rfl (AB rfl underlying28 FO vq vq AA (Ad hy2)) (co rfl (Al rfl RS FO vq rfl rfl) (co rfl (n8 rfl vq vq) ?_))|refine ac ?_|(refine Tr.cn rfl ?_ ?_<;>intro h q)
 have BC:k=(a.BV).length:=by have:=AK h4;omega
 subst BC
 refine a3 ?_
 · exact As 0 (Ar (fun _=>⟨by simp_all,by simp_all,II⟩) Lr)
theorem ABq {x0 y0:Int} {x1 y1:Int}:(Op.equalIn (d+2) 248 (.agg #[.int .i64 x0,.int .i64 x1]) (.agg #[.int .i64 y0,.int .i64 y1])).run Tryz.prog w= .ok (decide (x0=y0∧x1=y1)) w:=by
 have h:=eqS (w:=w) (d:=d+1) (xs:= #[.int .i64 x0,.int .i64 x1]) (ys:= #[.int .i64 y0,.int .i64 y1]) Tryz.underlying248 CS (CZ AD (BG BT rfl) (BG BT rfl) (Dl (d:=d+0) Tryz.underlying3) (CZ AD (BG BT rfl) (BG BT rfl) (Dl (d:=d+0) Tryz.underlying3) (K3)))
 refine h.trans (congrArg (fun b=>Result.ok b w) ?_)
 rw [Bool.eq_iff_iff];simp [and_assoc]
theorem qt {u:TypeId} {x y:Operand} {x0 y0:Int} {x1 y1:Int} (ho:o.op= .binOp .eql 248 x y u) (hx:VL E x (agg [is (.int .i64 x0),is (.int .i64 x1)])) (hy:VL E y (agg [is (.int .i64 y0),is (.int .i64 y1)])):Ab Tryz.prog I o E (bool (decide (x0=y0∧x1=y1))):=
 Rc [.int .i64 x0,.int .i64 x1] [.int .i64 y0,.int .i64 y1] ho hx hy CS (fun w=>by rw [show Op.equal 248 _ _=Op.equalIn (9998+2) 248 _ _ from rfl];exact ABq)
theorem A_.outs {p0:Pr} {res:Pr} (h:∀z:List (Int×Int),z.length≤1000→A_ P f (p0::uses z::ps) res):A_ P f (p0::Go.Proofs.YteomgekmipcdpaaGreatDoor.fU::ps) res:=by
 refine ⟨(h [] (Nat.zero_le _)).1,fun M w vs hb hv=> ?_⟩
 match vs,hv with
 |u0::u1::us,⟨h0,⟨z,hz,h1⟩,h2⟩=>exact (h z hz).2 M w (u0::u1::us) hb ⟨h0,h1,h2⟩
section
variable {P:Program} {I:Cc} {E:Env} {o:Oper}
theorem ABr {t u:TypeId} {x y:Operand} (ho:o.op= .binOp .gtr t x y u) (hx:VL E x (Dt .i64)) (hy:VL E y (Dt .i64)):Ab P I o E EN:=
 Ab.same fun M w a he _=>by
  obtain ⟨m,h1⟩:=hx.ev he Ap
  obtain ⟨n,h2⟩:=hy.ev he Ap
  have h1:a.eval x= .int .i64 m:=h1
  have h2:a.eval y= .int .i64 n:=h2
  exact ⟨.bool (decide (m>n)),by simp [execOp,ho,h1,h2,eqGuard,binOp,Op.intCmp],_,rfl⟩
end
theorem jA {e:CF} {all:List (Int×Int)} {d:Int} (he:e.small) (hl:all.length≤1000):A_ prog 263 [agg (Bp e),uses all,Nh,Sl,WL,int d] (fU):=by
 refine fo func263 rfl ⟨rfl,rfl⟩ fun M0 w0=> ?_
 refine a3 ?_
 refine Tr.block (Tr.B5 248 2 (Tr.Cy _ (kk [19,18,10,8,6,5,3] rfl) (fun (o:List (Int×Int)) (k:Nat) u=>[(20,int ((k:Nat):Int)),(13,Ag u (uses o))]) (fun (o:List (Int×Int)) (k:Nat) u=>Hp M0 w0 FG ([Ax 248 2 u])) (fun (o:List (Int×Int)) (k:Nat)=>k≤all.length∧o.length≤k) (fun (o:List (Int×Int)) (k:Nat)=>all.length-k) ([]) (0) (.slice none 0 0) (⟨Nat.zero_le _,by simp⟩) ⟨kq,⟨_,rfl,Bf rfl⟩,trivial⟩ (fun _ _ h=>h) ?_))
 rintro o k u ⟨hk0,hol⟩
 refine ac ?_
 refine Tr.seq ?_
 refine Tr.cn rfl ?_ ?_<;>intro h1 q1
 have hk:k<all.length:=AJ h1
 obtain ⟨y,hy⟩:=at_ hk
 refine ac ?_
 refine Tr.seq (Tr.block (Tr.seq (Tr.BI (tp rfl (AB rfl underlying362 CG vq vq AA (Ad hy)) (tp rfl (Al rfl Cz CG vq rfl rfl) ?_)))))
 refine Tl rfl rfl rfl rfl Js Fl (fun b1=> ?_)
 refine sf 0 15 ⟨rfl,rfl,rfl⟩ rfl rfl rfl rfl ?_
 refine ao ?_
 refine wk [20,19,18,15,13,10,8,6,5,3] rfl ?_
 refine ac ?_
 refine co rfl (AY rfl (ak he) ⟨kq,kz⟩) ?_
 refine ac ?_
 refine wk [20,19,18,17,16,15,13,10,8,6,5,3] rfl (Tr.seq (Tr.ex 17 rfl fun x17=>(Tr.ex 16 rfl fun x16=> ?_)))
 refine ag ?_ ?_<;>intro h2 q2
 refine ac ?_
 refine wk [38,20,19,18,15,13,10,8,6,5,3] rfl ?_
 refine Tr.cn rfl ?_ ?_<;>intro h3 q3
 refine ao ?_
 refine TO.C1 0 rfl rfl AD (B7 rfl rfl rfl rfl underlying362 CG dX Js Fo Ea (A7 BD Gi)) (fun v1=> ?_)
 refine ao ?_
 refine wk [20,19,18,13,10,8,6,5,3] rfl ?_
 refine ac ?_
 exact Fin.Bg (o++[(y.1,y.2)]) (k+1) v1 (⟨⟨by omega,by simp;omega⟩,by omega⟩) ⟨⟨_,rfl,AG k⟩,⟨_,rfl,A9 DC⟩,kz⟩ (fun _ _ h=>h)
 refine a2 ?_
 exact Fin.Bg (o) (k+1) u (⟨⟨by omega,by omega⟩,by omega⟩) ⟨⟨_,rfl,AG k⟩,⟨_,rfl,A9 rfl⟩,kz⟩ (fun _ _ h=>h)
 refine ac ?_
 refine wk [38,20,19,18,15,13,10,8,6,5,3] rfl ?_
 refine a2 ?_
 exact Fin.Bg (o) (k+1) u (⟨⟨by omega,by omega⟩,by omega⟩) ⟨⟨_,rfl,AG k⟩,⟨_,rfl,A9 rfl⟩,kz⟩ (fun _ _ h=>h)
 have hk:=AK h1
 refine a3 ?_
 · exact Pm
theorem WM {a b:Dg} {i:Int} {x x2:Iz} {c s c2 s2:CF} (ha:Kg a i x c s) (hb:Kg b i x2 c2 s2):A_ prog 265 [agg (CJ a),agg (CJ b),int i] (fU):=by
 refine fo func265 rfl ⟨rfl,rfl⟩ fun M0 w0=> ?_
 refine ac ?_
 refine ao ?_
 refine tp rfl (Bu (PJ ha) rfl rfl rfl) ?_
 refine TO.ex 16 rfl (fun z1=>TO.fact 16 rfl fun E2=> ?_)
 refine ao ?_
 refine ac ?_
 refine ao ?_
 refine tp rfl (Bu (PJ hb) rfl rfl rfl) ?_
 refine TO.ex 19 rfl (fun z2=>TO.fact 19 rfl fun HW=> ?_)
 refine ao ?_
 refine wk [21,20,19,8,7,4,3,2] rfl (Tr.block (Tr.B5 248 2 (Tr.Cy _ (kk [20,19,7,4,3,2] rfl) (fun (o:List (Int×Int)) (k:Nat) u=>[(21,int ((k:Nat):Int)),(8,Ag u (uses o))]) (fun (o:List (Int×Int)) (k:Nat) u=>Hp M0 w0 FG ([Ax 248 2 u])) (fun (o:List (Int×Int)) (k:Nat)=>k≤z2.length∧o.length≤k) (fun (o:List (Int×Int)) (k:Nat)=>z2.length-k) ([]) (0) (.slice none 0 0) (⟨Nat.zero_le _,by simp⟩) ⟨kq,⟨_,rfl,Bf rfl⟩,trivial⟩ (fun _ _ h=>h) ?_)))
 rintro o k u ⟨hk0,hol⟩
 refine ac ?_
 refine Tr.seq ?_
 refine Tr.cn rfl ?_ ?_<;>intro h1 q1
 have hk:k<z2.length:=AJ h1
 obtain ⟨y,hy⟩:=at_ hk
 refine ac ?_
 refine Tr.seq (Tr.block (Tr.seq (Tr.BI (tp rfl (AB rfl underlying362 CG vq vq AA (Ad hy)) (tp rfl (Al rfl Cz CG vq rfl rfl) ?_)))))
 refine Tl rfl rfl rfl rfl Js Fl (fun b1=> ?_)
 refine sf 0 10 ⟨rfl,rfl,rfl⟩ rfl rfl rfl rfl ?_
 refine ao ?_
 refine wk [21,20,19,10,8,7,4,3,2] rfl ?_
 refine a2 ?_
 refine Tr.block (Tr.A0 _ (kk [26,25,21,20,19,10,8,7,4,3,2] rfl) (fun m:Nat=>[(27,int ((m:Nat):Int)),(11,EN)]) (fun m:Nat=>m≤(z1).length) (fun m:Nat=>(z1).length-m) 0 (Nat.zero_le _) ⟨kq,⟨_,rfl,As _ Lr⟩,trivial⟩ ?_)
 rintro m KM
 refine Tr.ex 11 rfl fun x11=> ?_
 refine ac ?_
 refine wk [28,27,26,25,21,20,19,11,10,8,7,4,3,2] rfl (Tr.seq ?_)
 refine Tr.cn rfl ?_ ?_<;>intro h2 q2
 have Du:m<(z1).length:=AJ h2
 obtain ⟨w,Dn⟩:=at_ Du
 refine ac ?_
 refine wk [27,26,25,21,20,19,11,10,8,7,4,3,2] rfl (Tr.seq (Tr.block (Tr.seq (Tr.BI (tp rfl (AB rfl underlying362 CG vq vq AA (Ad Dn)) (tp rfl (Al rfl Cz CG vq rfl rfl) ?_))))))
 refine Tl rfl rfl rfl rfl Js Fl (fun b2=> ?_)
 refine sf 0 13 ⟨rfl,rfl,rfl⟩ rfl rfl rfl rfl ?_
 refine ao ?_
 · repeat' first|exact Fin.AL (m+1) ⟨Du,by omega⟩ ⟨⟨_,rfl,AG m⟩,⟨_,rfl,As _ Lr⟩,kz⟩|refine cy h rfl (qt rfl vq vq) ?_|refine ac ?_|(refine Ch.cg rfl rfl rfl ?_ ?_<;>intro h q)
 have Il:m=(z1).length:=by have:=AK h2;omega
 subst Il
 refine ac ?_
 refine wk [21,20,19,11,10,8,7,4,3,2] rfl ?_
 refine ag ?_ ?_<;>intro h4 q4
 refine ac ?_
 refine wk [50,21,20,19,10,8,7,4,3,2] rfl (Tr.cond rfl (fun _=> ?_) (fun h=>nomatch h))
 refine Tr.BI (tm rfl (tp rfl (Al rfl Cz CG (vl rfl) rfl rfl) (tp rfl (Aa (xs:=[.tmp 52]) (rows:=[_]) rfl rfl underlying362 CG Js rfl AD ⟨⟨Ao,(Va rfl)⟩,trivial⟩ AD) ?_)))
 refine TO.C1 0 rfl rfl AD (B7 rfl rfl rfl rfl underlying362 CG dX Js Fo Ea (A7 BD Gi)) (fun v1=> ?_)
 refine ao ?_
 refine wk [21,20,19,8,7,4,3,2] rfl ?_
 refine ac ?_
 exact Fin.Bg (o++[(y.1,y.2)]) (k+1) v1 (⟨⟨by omega,by simp;omega⟩,by omega⟩) ⟨⟨_,rfl,AG k⟩,⟨_,rfl,A9 DC⟩,kz⟩ (fun _ _ h=>h)
 refine ac ?_
 refine cy h4 rfl (Bu (Kh ha) rfl rfl rfl) ?_
 refine ac ?_
 refine cy h4 rfl (Bu (Kh hb) rfl rfl rfl) (cy h4 rfl (Al rfl Cz CG vq rfl rfl) (cy h4 rfl (Iy (aq ha.ss hb.ss) rfl rfl rfl rfl) (cy h4 rfl (JV rfl vq) ?_)))
 refine ac ?_
 refine wk [50,21,20,19,10,8,7,4,3,2] rfl (Tr.ex 50 rfl fun AKI=> ?_)
 refine Tr.cn rfl ?_ ?_<;>intro h5 q5
 refine ao ?_
 refine TO.C1 0 rfl rfl AD (B7 rfl rfl rfl rfl underlying362 CG dX Js Fo Ea (A7 BD Gi)) (fun v2=> ?_)
 refine ao ?_
 refine wk [21,20,19,8,7,4,3,2] rfl ?_
 refine ac ?_
 exact Fin.Bg (o++[(y.1,y.2)]) (k+1) v2 (⟨⟨by omega,by simp;omega⟩,by omega⟩) ⟨⟨_,rfl,AG k⟩,⟨_,rfl,A9 DC⟩,kz⟩ (fun _ _ h=>h)
 refine a2 ?_
 exact Fin.Bg (o) (k+1) u (⟨⟨by omega,by omega⟩,by omega⟩) ⟨⟨_,rfl,AG k⟩,⟨_,rfl,A9 rfl⟩,kz⟩ (fun _ _ h=>h)
 have hk:=AK h1
 refine a3 ?_
 · exact Pm
theorem jB {a b:Dg} {d:Int} (ha:a.fits) (hb:b.fits):A_ prog 218 [agg (CJ a),agg (CJ b),Nh,Sl,WL,int d] (Cp.ex fun z:List Int×Int=>fact (z.1.length≤1000) (DW [ints z.1,int z.2])):=by
 refine fo func218 rfl ⟨rfl,rfl⟩ fun M0 w0=>(Tr.IX 0 1 rfl rfl fun LC=> ?_)
 refine ac ?_
 refine ap ?_
 refine tp rfl (Bu (i_ ha hb) rfl rfl rfl) ?_
 refine TO.ex 20 rfl (fun z1=>TO.fact 20 rfl fun E2=> ?_)
 refine ap ?_
 refine ac ?_
 refine wk [22,14,10,8,7,6,5,3] rfl ?_
 refine Tr.cn rfl ?_ ?_<;>intro h1 q1
 refine ac ?_
 refine Tr.ret (Fin.AF (Fin.BW rfl (AQ.tmp rfl Lr) (AQ.tmp rfl Lr) ?_))
 · exact Qy
 obtain ⟨hAe,hBe,II⟩:=E2 (by have:=q1;omega)
 have h40:=(FX.1 hAe).e40
 refine a2 ?_
 refine co rfl (Iy (Ke) rfl rfl rfl rfl) ?_
 refine ac ?_
 refine Tr.seq (Tr.ex 15 rfl fun x15=> ?_)
 refine ac ?_
 refine wk [29,15,10,8,7,6,5,3] rfl ?_
 refine Tr.cn rfl ?_ ?_<;>intro h2 q2
 refine ac ?_
 refine Tr.ret (Fin.AF (Fin.BW rfl (AQ.tmp rfl Lr) (AQ.tmp rfl Lr) ?_))
 · exact Qy
 refine a3 ?_
 refine Tr.block (Tr.B5 3 1 (Tr.Cy _ (kk [33,10,8,7,6,5,3] rfl) (fun (o:List Int) (k:Nat) u=>[(34,int ((k:Nat):Int)),(16,Ag u (ints o))]) (fun (o:List Int) (k:Nat) u=>Hp M0 w0 FG ([Ax 3 1 u])) (fun (o:List Int) (k:Nat)=>k≤a.BV.length∧o.length≤k) (fun (o:List Int) (k:Nat)=>a.BV.length-k) ([]) (0) (.slice none 0 0) (⟨Nat.zero_le _,by simp⟩) ⟨kq,⟨_,rfl,Bf rfl⟩,trivial⟩ (fun _ _ h=>h) ?_))
 rintro o k u ⟨hk0,hol⟩
 refine ac ?_
 refine Tr.seq ?_
 refine Tr.cn rfl ?_ ?_<;>intro h3 q3
 have hk:k<a.BV.length:=AJ h3
 obtain ⟨_,_,_,hea⟩:=qq (i:=((k:Nat):Int)) ha hAe AA AA
 obtain ⟨_,_,_,heb⟩:=qq (i:=((k:Nat):Int)) hb hBe AA AA
 refine a3 ?_
 refine co rfl (Bu (Kh heb) rfl rfl rfl) ?_
 refine ac ?_
 refine co rfl (Iy (WM hea heb) rfl rfl rfl rfl) ?_
 refine ac ?_
 refine co rfl (AY rfl (A_.outs fun z hz=>jA heb.ss hz) ⟨kq,kz⟩) (co rfl (Ab.Mh 48 rfl AD fun z=>Ab.opf 48 rfl AD fun _=>Ab.le (CB rfl underlying362 vq) (As _ Lr)) (co rfl (ABr rfl (VL.le vq ah) (VL.le vq (Cf _ _))) ?_))
 refine ac ?_
 refine wk [50,34,33,17,16,10,8,7,6,5,3] rfl (Tr.ex 50 rfl fun AKI=> ?_)
 refine Tr.cn rfl ?_ ?_<;>intro h4 q4
 refine ap ?_
 refine TO.C1 0 rfl rfl AD (B7 rfl rfl rfl rfl underlying22 BJ IE z3 Fo Ea (A7 BD Gi)) (fun v1=> ?_)
 refine ap ?_
 refine wk [34,33,16,10,8,7,6,5,3] rfl ?_
 refine ac ?_
 exact Fin.Bg (o++[((k:Nat):Int)]) (k+1) v1 (⟨⟨by omega,by simp;omega⟩,by omega⟩) ⟨⟨_,rfl,AG k⟩,⟨_,rfl,A9 DC⟩,kz⟩ (fun _ _ h=>h)
 refine a2 ?_
 exact Fin.Bg (o) (k+1) u (⟨⟨by omega,by omega⟩,by omega⟩) ⟨⟨_,rfl,AG k⟩,⟨_,rfl,A9 rfl⟩,kz⟩ (fun _ _ h=>h)
 have hk:=AK h3
 refine a2 ?_
 refine Tr.ret (Fin.BW rfl (AQ.tmp rfl Lr) (AQ.tmp rfl Lr) ?_)
 · exact ZE
def HU (n:Nat) (m:Nat→Nat→Bool):List (List Bool):=(List.range n).map fun a=>(List.range n).map (m a)
theorem Is (n:Nat) (m:Nat→Nat→Bool):(HU n m).length=n:=by unfold HU;simp
theorem LK (m:Nat→Nat→Bool) {a:Nat} (h:a<n):(HU n m)[a]? =some ((List.range n).map (m a)):=by
 unfold HU;rw [List.getElem?_map,List.getElem?_range h];rfl
theorem LL (m:Nat→Bool) (h:b<n):((List.range n).map m)[b]? =some (m b):=by
 rw [List.getElem?_map,List.getElem?_range h];rfl
theorem UX {m m':Nat→Nat→Bool} (h:pK n m m'):HU n m=HU n m':=by
 unfold HU
 refine List.map_congr_left fun a ha=>List.map_congr_left fun b hb=>h a b (List.mem_range.1 ha) (List.mem_range.1 hb)
theorem qu {m:Nat→Nat→Bool} (hi:i<n) (hj:j<n):(HU n m).set i (((List.range n).map (m i)).set j true)=HU n (V9 m i j):=by
 apply List.ext_getElem?
 intro a
 rw [List.getElem?_set]
 by_cases h:i=a
 ·
  subst h
  rw [if_pos rfl,if_pos (by rw [Is];exact hi),LK _ hi]
  congr 1
  apply List.ext_getElem?
  intro b
  rw [List.getElem?_set]
  by_cases h2:j=b
  ·
   subst h2
   rw [if_pos rfl,if_pos GR,LL _ hj]
   unfold V9;rw [if_pos ⟨rfl,rfl⟩]
  ·
   rw [if_neg h2]
   rcases Nat.lt_or_ge b n with hb|hb
   · rw [LL _ hb,LL _ hb];unfold V9;rw [if_neg (fun h3=>h2 h3.2.symm)]
   · grind
 ·
  rw [if_neg h]
  rcases Nat.lt_or_ge a n with ha|ha
  ·
   rw [LK _ ha,LK _ ha]
   congr 1
   refine List.map_congr_left fun b _=> ?_
   unfold V9;rw [if_neg (fun h3=>h h3.1.symm)]
  · rw [List.getElem?_eq_none (by rw [Is];exact ha),List.getElem?_eq_none (by rw [Is];exact ha)]
theorem au {q:Nat} {r:B0} (h:l[q]? =some r) (h0:0≤r.fst) (h1:0≤r.thn):Gl (l.take (q+1))=V9 (Gl (l.take q)) r.fst.toNat r.thn.toNat:=by
 funext a b
 have e:l.take (q+1)=l.take q++[r]:=by rw [List.take_add_one,h];rfl
 unfold Gl V9
 rw [e,List.any_append]
 by_cases hc:a=r.fst.toNat∧b=r.thn.toNat
 · grind
 · grind
theorem jC (n:Nat) (l:List B0):HU n (Gl (l.take 0))=List.replicate n (List.replicate n false):=by
 unfold HU Gl
 rw [List.eq_replicate_iff]
 refine ⟨by simp,fun b hb=> ?_⟩
 obtain ⟨a,_,rfl⟩:=List.mem_map.1 hb
 rw [List.eq_replicate_iff]
 refine ⟨by simp,fun c hc=> ?_⟩
 obtain ⟨d,_,rfl⟩:=List.mem_map.1 hc
 simp
abbrev slv (n:Nat) (x:Nat×List Bool):Value:=Jp n x.1
abbrev AKJ (n:Nat) (m:Nat→Nat→Bool):Pr:=slice 1 ((HU n m).map fun row=>[slice 1 (row.map fun b=>[bool b])])
theorem Ob {m:Nat→Nat→Bool} {X:List (Nat×List Bool)} {a:Nat} {x:Nat×List Bool} (hX:X.map (·.2)=HU n m) (hx:X[a]? =some x) (ha:a<n):x.2=(List.range n).map (m a):=by
 have h:=congrArg (fun l=>l[a]?) hX
 simp only [List.getElem?_map,hx,Option.map_some] at h
 rw [LK m ha] at h
 simpa using h
theorem fV {m:Nat→Nat→Bool} {X:List (Nat×List Bool)} {x:Nat×List Bool} (hX:X.map (·.2)=HU n m) (hx:X[i]? =some x) (hi:i<n) (hj:j<n):(X.set i (x.1,x.2.set j true)).map (·.2)=HU n (V9 m i j):=by
 rw [List.map_set,hX,Ob hX hx hi];exact qu hi hj
theorem fW {X:List (Nat×List Bool)} {x:Nat×List Bool} (h:X[k]? =some x):(HX (HT e) X)[k]? =some (AE true x.1 e (x.2.map fun b=>bool b)):=fM (f:=fun x:Nat×List Bool=>AE true x.1 e (x.2.map fun b=>bool b)) h
theorem qv {m:Nat→Nat→Bool} {X:List (Nat×List Bool)} {a c:Nat} {x:Nat×List Bool} (hX:X.map (·.2)=HU n m) (hx:X[a]? =some x) {v:Bool} (ha:a<n) (hc:c<n) (hv:m a c=v):(x.2.map fun b=>bool b)[0+c*1]? =some (bool v):=by
 subst hv
 rw [Ob hX hx ha,Nat.zero_add,Nat.mul_one,List.getElem?_map,LL _ hc];rfl
theorem qw {m:Nat→Nat→Bool} {X:List (Nat×List Bool)} (hX:X.map (·.2)=HU n m):∀x∈X,x.2.length=n:=fun x hx=>by
 obtain ⟨i,hi⟩:=List.mem_iff_getElem?.1 hx
 have hl:i<n:=by
  have h:=congrArg List.length hX
  rw [List.length_map,Is] at h
  rcases Nat.lt_or_ge i X.length with h'|h'
  · omega
  · rw [List.getElem?_eq_none h'] at hi;cases hi
 rw [Ob hX hi hl,List.length_map,List.length_range]
theorem qx {m:Nat→Nat→Bool} {X:List (Nat×List Bool)} (hX:X.map (·.2)=HU n m):(X.map fun x=>[slice 1 (x.2.map fun b=>[bool b])])=(HU n m).map fun row=>[slice 1 (row.map fun b=>[bool b])]:=by rw [←hX,List.map_map];rfl
theorem fX {l:List Bool} (h:j<l.length):List.take (0+j*1) (l.map fun b=>bool b)++[is (Value.bool true)]++List.drop (0+j*1+1) (l.map fun b=>bool b)=(l.set j true).map fun b=>bool b:=by
 rw [List.map_set,List.set_eq_take_append_cons_drop,if_pos D5];simp
theorem Sm {X:List (Nat×List Bool)} {bs:List Nat} {x:Nat×List Bool} (h:X.map (·.1)=bs) (hx:X[i]? =some x):bs[i]? =some x.1:=by rw [←h,List.getElem?_map,hx];rfl
theorem fY {X:List (Nat×List Bool)} {bs:List Nat} {x:Nat×List Bool} {r:List Bool} (h:X.map (·.1)=bs) (hx:X[i]? =some x):(X.set i (x.1,r)).map (·.1)=bs:=by
 have hb:=Sm h hx
 rw [List.map_set,h]
 apply List.ext_getElem?
 intro k
 rw [List.getElem?_set]
 split
 · grind
 · rfl
theorem UY (hn:n≤24) (hl:l.length≤1000000) (hr:∀r∈l,(0≤r.fst∧r.fst<(n:Nat))∧0≤r.thn∧r.thn<(n:Nat)):A_ prog 103 [int ((n:Nat):Int),reqs l] (AKJ n (Cm l n)):=by
 refine fo func103 rfl ⟨rfl,rfl⟩ fun M0 w0=> ?_
 refine a3 ?_
 refine Tr.block (Tr.B5 191 1 (Tr.Cy _ (kk [11,1,0] rfl) (fun (X:List (Nat×List Bool)) (k:Nat) u=>[(12,int ((k:Nat):Int)),(5,Ag u (slice 1 (X.map fun x=>[is (slv n x)])))]) (fun (X:List (Nat×List Bool)) (k:Nat) u=>Hp M0 w0 FG (Ax 191 1 u::HX (HT 4) X)) (fun (X:List (Nat×List Bool)) (k:Nat)=>(k≤n∧X.length=k)∧X.map (·.2)=List.replicate k (List.replicate n false)) (fun (X:List (Nat×List Bool)) (k:Nat)=>n-k) ([]) (0) (.slice none 0 0) (⟨⟨Nat.zero_le _,rfl⟩,rfl⟩) ⟨kq,⟨_,rfl,Bf rfl⟩,trivial⟩ (fun _ _ h=>h) ?_))
 rintro X k u ⟨⟨hkn,hXl⟩,hX⟩
 refine ac ?_
 refine Tr.seq ?_
 refine Tr.cn rfl ?_ ?_<;>intro h1 q1
 have hk:k<n:=AJ h1
 refine ac ?_
 refine ao ?_
 refine TO.VJ rfl rfl AD rfl underlying191 W9 by4 z4 rfl vq vq Fa AA (fun b1=> ?_)
 refine tp rfl (Aa (xs:=[.tmp 16]) (rows:=[[is (Jp n b1)]]) rfl rfl underlying203 Ox AEF rfl AD ⟨⟨Ao,VL.le vq (AO _)⟩,trivial⟩ AD) ?_
 refine TO.C1 1 rfl rfl AD (B7 rfl rfl rfl rfl underlying203 Ox AEE AEF Fo Ea (A7 BD Gi)) (fun v1=> ?_)
 refine ao ?_
 refine ac ?_
 refine Fin.j6 0 ((List.replicate n false).map fun b=>bool b) rfl qW (Fin.fold (res:=HT 4) [_] (b1,List.replicate n false) rfl ?_)
 exact Fin.Bg (X++[(b1,List.replicate n false)]) (k+1) v1 (⟨⟨⟨by omega,by simp;omega⟩,by rw [List.map_append,hX,List.replicate_succ'];rfl⟩,by omega⟩) ⟨⟨_,rfl,AG k⟩,⟨_,rfl,A9 DC⟩,kz⟩ (fun _ _ h=>h)
 have hk:=AK h1
 refine a2 ?_
 refine Tr.block ?_
 obtain ⟨bs,hbs⟩:∃bs,X.map (·.1)=bs:=⟨_,rfl⟩
 refine Tr.re 5 rfl (Pr.le_trans (At _ _) (Pr.le_of_eq (show _=slice 1 (bs.map fun b=>[is (Jp n b)]) by rw [←hbs,List.map_map];rfl))) ?_
 refine Tr.drop 0 (Tr.CM _ (kk [21,20,5,0] rfl) (fun (X1:List (Nat×List Bool)) (q:Nat)=>[(22,int ((q:Nat):Int))]) (fun (X1:List (Nat×List Bool)) (q:Nat)=>Hp M0 w0 FG (HX (HT 4) X1)) (fun (X1:List (Nat×List Bool)) (q:Nat)=>q≤l.length∧(X1.map (·.1)=bs∧X1.map (·.2)=HU n (Gl (l.take q)))) (fun (X1:List (Nat×List Bool)) (q:Nat)=>l.length-q) (X) (0)  (⟨Nat.zero_le _,hbs,by rw [hX,jC,show k=n by omega]⟩) kz (fun _ _ h=>h) ?_)
 rintro X1 q  ⟨hq0,S7,hX1⟩
 refine ac ?_
 refine Tr.seq ?_
 refine Tr.cn rfl ?_ ?_<;>intro h2 q2
 have hq:q<l.length:=AJ h2
 obtain ⟨r,hrq⟩:=at_ hq
 have jD:=hr r (List.mem_of_getElem? hrq)
 have ALo:X1.length=n:=by have:=congrArg List.length hX1;rw [List.length_map,Is] at this;exact this
 obtain ⟨x,hx⟩:=at_ (l:=X1) (k:=r.fst.toNat) AA
 have hxl:x.2.length=n:=by rw [Ob hX1 hx AA,List.length_map,List.length_range]
 refine ac ?_
 refine Tr.seq (Tr.block (Tr.seq (Tr.BI (tp rfl (AB rfl underlying33 Dy vq vq AA (Ad hrq)) (tp rfl (Al rfl Jd Dy vq rfl rfl) ?_)))))
 refine Tl rfl rfl rfl rfl z85 RQ (fun b2=> ?_)
 refine sf 0 7 ⟨rfl,rfl,rfl⟩ rfl rfl rfl rfl ?_
 refine ao ?_
 refine Tr.focus [] hx rfl (Tr.rx ?_)
 refine ay ?_
 refine xo rfl (fun _=>AB rfl underlying203 Ox vq vq AA (Be (Sm S7 hx))) ?_
 refine ay ?_
 refine xo rfl (fun _=>AH rfl underlying191 W9 vq vq AA AA) ?_
 refine Cx.C0 0 rfl rfl (Aq rfl rfl vq Ce W9 rfl F8 rfl) ?_
 refine Cx.nil ⟨by kernel_rfl,?_⟩
 refine BE.done al1 ?_
 refine ac ?_
 refine wk [22,21,20,5,0] rfl ?_
 refine ac ?_
 refine Fin.j6 0 ((x.2.set r.thn.toNat true).map fun b=>bool b) rfl (fX AA) (Fin.Ve (res:=HT 4) [] (x.1,x.2.set r.thn.toNat true) (show r.fst.toNat<X1.length by omega) rfl ?_)
 exact Fin.CC (X1.set r.fst.toNat (x.1,x.2.set r.thn.toNat true)) (q+1)  (⟨⟨by omega,fY S7 hx,by rw [au hrq jD.1.1 jD.2.1];exact fV hX1 hx AA AA⟩,by omega⟩) ⟨⟨_,rfl,AG q⟩,kz⟩ (fun _ _ h=>h)
 have hq:=AK h2
 refine a2 ?_
 refine Tr.block ?_
 refine Tr.CM _ (kk [35,5,0] rfl) (fun (X2:List (Nat×List Bool)) (k2:Nat)=>[(36,int ((k2:Nat):Int))]) (fun (X2:List (Nat×List Bool)) (k2:Nat)=>Hp M0 w0 FG (HX (HT 4) X2)) (fun (X2:List (Nat×List Bool)) (k2:Nat)=>k2≤n∧(X2.map (·.1)=bs∧X2.map (·.2)=HU n (Cm l k2))) (fun (X2:List (Nat×List Bool)) (k2:Nat)=>n-k2) (X1) (0)  (⟨Nat.zero_le _,S7,by rw [hX1,List.take_of_length_le hq];rfl⟩) kz (fun _ _ h=>h) ?_
 rintro X2 k2  ⟨hk2,We,hX2⟩
 refine ac ?_
 refine Tr.seq ?_
 refine Tr.cn rfl ?_ ?_<;>intro h3 q3
 have ALp:k2<n:=AJ h3
 refine a3 ?_
 refine Tr.block ?_
 refine Tr.CM _ (kk [39,36,35,8,5,0] rfl) (fun (X3:List (Nat×List Bool)) (i:Nat)=>[(40,int ((i:Nat):Int))]) (fun (X3:List (Nat×List Bool)) (i:Nat)=>Hp M0 w0 FG (HX (HT 4) X3)) (fun (X3:List (Nat×List Bool)) (i:Nat)=>i≤n∧(X3.map (·.1)=bs∧X3.map (·.2)=HU n (JP k2 (Cm l k2) i 0))) (fun (X3:List (Nat×List Bool)) (i:Nat)=>n-i) (X2) (0)  (⟨Nat.zero_le _,We,by rw [AGB];exact hX2⟩) kz (fun _ _ h=>h) ?_
 rintro X3 i  ⟨hi0,hb3,hX3⟩
 refine ac ?_
 refine Tr.seq ?_
 refine Tr.cn rfl ?_ ?_<;>intro h4 q4
 have Fw:i<n:=AJ h4
 refine a3 ?_
 refine Tr.block (Tr.CM _ (kk [43,40,39,36,35,9,8,5,0] rfl) (fun (X4:List (Nat×List Bool)) (j:Nat)=>[(44,int ((j:Nat):Int))]) (fun (X4:List (Nat×List Bool)) (j:Nat)=>Hp M0 w0 FG (HX (HT 4) X4)) (fun (X4:List (Nat×List Bool)) (j:Nat)=>j≤n∧(X4.map (·.1)=bs∧X4.map (·.2)=HU n (JP k2 (Cm l k2) i j))) (fun (X4:List (Nat×List Bool)) (j:Nat)=>n-j) (X3) (0)  (⟨Nat.zero_le _,hb3,hX3⟩) kz (fun _ _ h=>h) ?_)
 rintro X4 j  ⟨hj0,hb4,hX4⟩
 refine ac ?_
 refine Tr.seq ?_
 refine Tr.cn rfl ?_ ?_<;>intro h5 q5
 have hjl:j<n:=AJ h5
 have ALq:X4.length=n:=by have:=congrArg List.length hX4;rw [List.length_map,Is] at this;exact this
 obtain ⟨xi,hxi⟩:=at_ (l:=X4) (k:=i) AA
 obtain ⟨xk,hxk⟩:=at_ (l:=X4) (k:=k2) AA
 have ALr:xi.2.length=n:=by rw [Ob hX4 hxi AA,List.length_map,List.length_range]
 have ALs:xk.2.length=n:=by rw [Ob hX4 hxk AA,List.length_map,List.length_range]
 refine a3 ?_
 refine co rfl (AB rfl underlying203 Ox vq vq AA (Ad (Sm hb4 hxi))) ?_
 refine ac ?_
 refine co rfl (AH rfl underlying191 W9 vq vq AA AA) ?_
 refine co rfl (Bi i (fW hxi) (AW rfl gQ vq (qv (c:=k2) hX4 hxi AA AA (wN k2 (Cm l k2) i j i)))) ?_
 refine cm rfl ?_
 refine Ch.cs 54 rfl ?_ ?_<;>intro h6 q6
 refine ac ?_
 refine cy h6 rfl (AB rfl underlying203 Ox vq vq AA (Ad (Sm hb4 hxk))) ?_
 refine ac ?_
 refine cy h6 rfl (AH rfl underlying191 W9 vq vq AA AA) ?_
 refine cy h6 rfl (Bi k2 (fW hxk) (AW rfl gQ vq (qv (c:=j) hX4 hxk AA AA (wO k2 (Cm l k2) i j j)))) ?_
 refine ac ?_
 refine wk [62,44,43,40,39,36,35,10,9,8,5,0] rfl ?_
 refine Tr.cn rfl ?_ ?_<;>intro h7 q7
 refine Tr.focus [] hxi rfl ?_
 refine ao ?_
 refine tp rfl (AB rfl underlying203 Ox vq vq AA (Ad (Sm hb4 hxi))) ?_
 refine ao ?_
 refine tp rfl (AH rfl underlying191 W9 vq vq AA AA) ?_
 refine TO.C0 0 rfl rfl (Aq rfl rfl vq Ce W9 rfl F8 rfl) ?_
 refine ao ?_
 refine wk [44,43,40,39,36,35,9,8,5,0] rfl ?_
 refine ac ?_
 refine Fin.j6 0 ((xi.2.set j true).map fun b=>bool b) rfl (fX AA) (Fin.Ve (res:=HT 4) [] (xi.1,xi.2.set j true) (show i<X4.length by omega) rfl ?_)
 exact Fin.CC (X4.set i (xi.1,xi.2.set j true)) (j+1)  (⟨⟨by omega,fY hb4 hxi,(by rw [←wP BO BO];exact fV hX4 hxi AA AA)⟩,by omega⟩) ⟨⟨_,rfl,AG j⟩,kz⟩ (fun _ _ h=>h)
 refine a2 ?_
 exact Fin.CC (X4) (j+1)  (⟨⟨by omega,hb4,(by rw [←pJ B9];exact hX4)⟩,by omega⟩) ⟨⟨_,rfl,AG j⟩,kz⟩ (fun _ _ h=>h)
 refine ac ?_
 refine wk [62,44,43,40,39,36,35,10,9,8,5,0] rfl ?_
 refine a2 ?_
 exact Fin.CC (X4) (j+1)  (⟨⟨by omega,hb4,(by rw [←pJ B9];exact hX4)⟩,by omega⟩) ⟨⟨_,rfl,AG j⟩,kz⟩ (fun _ _ h=>h)
 have hje:=AK h5
 refine a2 ?_
 exact Fin.CC (X4) (i+1)  (⟨⟨by omega,hb4,by rw [hX4,show j=n by omega];exact UX pL⟩,by omega⟩) ⟨⟨_,rfl,AG i⟩,kz⟩ (fun _ _ h=>h)
 have hie:=AK h4
 refine a2 ?_
 exact Fin.CC (X3) (k2+1)  (⟨⟨by omega,hb3,by rw [hX3,show i=n by omega];exact UX wQ⟩,by omega⟩) ⟨⟨_,rfl,AG k2⟩,kz⟩ (fun _ _ h=>h)
 have ALt:=AK h3
 refine ac ?_
 refine Tr.seq ?_
 have AKK:k2=n:=by omega
 refine Tr.w5 (m:=n) (X:=X2) [] 5 rfl Fa (qw hX2) rfl (Pr.le_of_eq (by rw [←We,List.map_map];rfl)) ?_
 refine Tr.drop 0 ?_
 refine a2 ?_
 · subst AKK;exact Pr.le_of_eq (congrArg (slice 1) (qx hX2))
theorem av {n:Int} (hl:l.length≤1000000):A_ prog 67 [int n,reqs l] (int (BR n l)):=by
 refine fo func67 rfl ⟨rfl,rfl⟩ fun M0 w0=>(Tr.CN 1 rfl fun Fq=> ?_)
 refine ac ?_
 refine ag ?_ ?_<;>intro h1 q1
 refine a3 ?_
 · exact int_eq (LH AA).symm
 refine an ?_ ?_<;>intro h2 q2
 refine a2 ?_
 · exact int_eq (LH AA).symm
 obtain ⟨N,rfl⟩:∃N:Nat,n=(N:Int):=⟨n.toNat,by omega⟩
 refine a2 ?_
 refine Tr.block (Tr.A0 _ (kk [17,16,1,0] rfl) (fun k:Nat=>[(18,int ((k:Nat):Int))]) (fun k:Nat=>k≤(l).length∧(∀j y,j<k→l[j]? =some y→FY N y=false)) (fun k:Nat=>(l).length-k) 0 (⟨Nat.zero_le _,fun j y hj=>absurd hj AA⟩) kz ?_)
 rintro k ⟨BN,AX⟩
 refine ac ?_
 refine Tr.seq ?_
 refine Tr.cn rfl ?_ ?_<;>intro h3 q3
 have Ae:k<(l).length:=AJ h3
 obtain ⟨r,Af⟩:=at_ Ae
 refine ac ?_
 refine Tr.seq (Tr.block (Tr.seq (Tr.BI (tp rfl (AB rfl underlying33 Dy vq vq AA (Ad Af)) (tp rfl (Al rfl Jd Dy vq rfl rfl) ?_)))))
 refine Tl rfl rfl rfl rfl z85 RQ (fun b1=> ?_)
 refine sf 0 6 ⟨rfl,rfl,rfl⟩ rfl rfl rfl rfl ?_
 refine ao ?_
 · repeat' first|(exact int_eq (Qv AA Af zV).symm)|(exact Fin.AL (k+1) ⟨⟨Ae,Dm (p:=FY N) Af cZ AX⟩,by omega⟩ ⟨⟨_,rfl,AG k⟩,kz⟩)|refine ac ?_|(refine Tr.cn rfl ?_ ?_<;>intro h q)|(refine Ch.cg rfl rfl rfl ?_ ?_<;>intro h q)
 have BC:k=(l).length:=by have:=AK h3;omega
 subst BC
 have hbs:=fK AX
 have jD:∀r∈l,(0≤r.fst∧r.fst<(N:Nat))∧0≤r.thn∧r.thn<(N:Nat):=fun r hr=>by
  have h_:=hbs r hr
  unfold FY at h_;rw [decide_eq_false_iff_not] at h_;omega
 refine a2 ?_
 refine Tr.block (Tr.E5 _ (kk [1,0] rfl) (fun (i:Nat)=>[(7,int ((i:Nat):Int))]) (fun (i:Nat)=>Hp M0 w0 FG ([])) (fun (i:Nat)=>(1≤i∧(i≤l.length∨i=1))∧∀(j:Nat) a b,j+1<i→l[j]? =some a→l[j+1]? =some b→Et a b=true) (fun (i:Nat)=>l.length-i) (1)  (⟨⟨by omega,.inr rfl⟩,fun j a b hj=>absurd hj AA⟩) kz (fun _ _ h=>h) ?_)
 rintro i  ⟨⟨hi1,hi2⟩,Jg⟩
 refine an ?_ ?_<;>intro h9 q9
 have Fw:i<l.length:=AJ h9
 obtain ⟨x,hx⟩:=at_ Fw
 obtain ⟨y,hy⟩:=at_ (l:=l) (k:=i-1) AA
 · repeat' first|exact int_eq (WH AA hbs AA hy hx B9).symm|(exact Fin.GW (i+1)  (⟨⟨⟨by omega,.inl AA⟩,KZ hx (fun z _ hz=>by rw [hy] at hz;cases hz;simp_all) Jg⟩,by omega⟩) ⟨⟨_,rfl,AG i⟩,kz⟩ (fun _ _ h=>h))|(refine co rfl (AB rfl underlying33 Dy vq vq AA cM) ?_)|refine co rfl (AB rfl underlying33 Dy vq vq AA (Ad hx)) (co rfl (Al rfl Jd Dy vq rfl rfl) (co rfl (Bu (UK) rfl rfl rfl) ?_))|refine ac ?_|(refine Tr.cn rfl ?_ ?_<;>intro h q)
 have hie:=AK h9
 have hsr:D3 l=true:=Sc fun j a b hj=>Jg j a b AA
 refine a2 ?_
 refine co rfl (Bu (UY (n:=N) (l:=l) AA hl jD) rfl rfl rfl) ?_
 refine a2 ?_
 refine Tr.block (Tr.E5 _ (kk [70,8] rfl) (fun (m:Nat)=>[(71,int ((m:Nat):Int))]) (fun (m:Nat)=>Hp M0 w0 FG ([])) (fun (m:Nat)=>m≤N∧∀i,i<m→Cm l N i i=false) (fun (m:Nat)=>N-m) (0)  (⟨Nat.zero_le _,fun i hi=>absurd hi AA⟩) kz (fun _ _ h=>h) ?_)
 rintro m  ⟨hm0,hwn⟩
 refine ac ?_
 refine Tr.seq ?_
 refine Tr.cn rfl ?_ ?_<;>intro h11 Rz
 have hm:m<N:=AJ h11
 · repeat' first|exact int_eq (Sb AA hbs hsr hm BO).symm|(exact Fin.GW (m+1)  (⟨⟨by omega,fun i hi=>by rcases Nat.lt_or_eq_of_le (Nat.le_of_lt_succ hi) with h_|h_;exact hwn i h_;(subst h_;assumption)⟩,by omega⟩) ⟨⟨_,rfl,AG m⟩,kz⟩ (fun _ _ h=>h))|refine co rfl (AB rfl underlying203 Ox vq vq AA (Ad (LK _ hm))) ?_|refine co rfl (AB rfl underlying191 W9 vq vq AA (Ad (LL _ hm))) ?_|refine ac ?_|(refine Tr.cn rfl ?_ ?_<;>intro h q)
 have hme:=AK h11
 refine a3 ?_
 · exact int_eq (WI AA hbs hsr fun i hi=>hwn i AA).symm
theorem HV {n:Int} (hl:l.length≤1000000):A_ prog 30 [int n,reqs l] (int (BR n l)):=by
 refine fo func30 rfl ⟨rfl,rfl⟩ fun M0 w0=> ?_
 refine a2 ?_
 refine co rfl (Bu (av hl) rfl rfl rfl) ?_
 refine a2 ?_
 · exact Lr
theorem Oc {a b:List Int} (hab:a.length≤b.length):A_ prog 66 [ints a,ints b] (EN):=by
 refine fo func66 rfl ⟨rfl,rfl⟩ fun M0 w0=>(Tr.CN 0 rfl fun C3=>(Tr.CN 1 rfl fun Fq=> ?_))
 refine a2 ?_
 refine Tr.block (Tr.A0 _ (kk [7,1,0] rfl) (fun k:Nat=>[(8,int ((k:Nat):Int))]) (fun k:Nat=>k≤(a).length) (fun k:Nat=>(a).length-k) 0 (Nat.zero_le _) kz ?_)
 rintro k BN
 refine ac ?_
 refine Tr.seq ?_
 refine Tr.cn rfl ?_ ?_<;>intro h1 q1
 have Ae:k<(a).length:=AJ h1
 obtain ⟨x,Af⟩:=at_ Ae
 obtain ⟨y,hy⟩:=at_ (l:=b) (k:=k) AA
 · repeat' first|exact As _ Lr|exact Fin.AL (k+1) ⟨Ae,by omega⟩ ⟨⟨_,rfl,AG k⟩,kz⟩|refine co rfl (AB rfl underlying38 BJ vq vq AA (Ad Af)) ?_|refine co rfl (AB rfl underlying38 BJ vq vq AA (Ad hy)) ?_|refine ac ?_|(refine Tr.cn rfl ?_ ?_<;>intro h q)
 have BC:k=(a).length:=by have:=AK h1;omega
 refine a3 ?_
 · exact Aw
theorem UZ {a b:List Int}  :A_ prog 29 [ints a,ints b] (EN):=by
 refine fo func29 rfl ⟨rfl,rfl⟩ fun M0 w0=>(Tr.CN 0 rfl fun C3=>(Tr.CN 1 rfl fun Fq=> ?_))
 refine ac ?_
 refine ap ?_
 refine TO.cases 10 rfl (fun h1=> ?_) (fun h1=> ?_)
 have q1:=FM.Gp h1
 refine TO.PV rfl rfl rfl h1 rfl AD (DD rfl vq) (TO.PV rfl rfl rfl h1 rfl AD (DD rfl vq) (TO.PV rfl rfl rfl h1 rfl AD (Bu (Oc AA) rfl rfl rfl) (TO.ex 13 rfl fun z13=>(TO.PV rfl rfl rfl h1 rfl AD (L3 rfl vq) ?_))))
 refine ap ?_
 refine TO.cases 16 rfl (fun h2=> ?_) (fun h2=> ?_)
 have q2:=FM.Gp h2
 refine TO.PV rfl rfl rfl h2 rfl AD (DD rfl vq) (TO.PV rfl rfl rfl h2 rfl AD (DD rfl vq) (TO.PV rfl rfl rfl h2 rfl AD (Bu (Oc AA) rfl rfl rfl) (TO.ex 19 rfl fun z19=>(TO.PV rfl rfl rfl h2 rfl AD (L3 rfl vq) ?_))))
 refine ap ?_
 refine wk [4] rfl ?_
 refine ac ?_
 · exact Aw
 have q2:=FM.Gp h2
 iterate 4 refine TO.Wk rfl rfl rfl (Bb h2) rfl AD ?_
 refine ap ?_
 refine wk [4] rfl ?_
 refine ac ?_
 · exact Aw
 have q1:=FM.Gp h1
 iterate 4 refine TO.Wk rfl rfl rfl (Bb h1) rfl AD ?_
 refine ap ?_
 iterate 4 refine TO.Wk rfl rfl rfl (Bb rfl) rfl AD ?_
 refine ap ?_
 refine wk [4] rfl ?_
 refine ac ?_
 · exact Aw
theorem WN {a b:List Int}  :A_ prog 10 [ints a,ints b] (EN):=by
 refine fo func10 rfl ⟨rfl,rfl⟩ fun M0 w0=> ?_
 refine a2 ?_
 refine co rfl (Bu (UZ) rfl rfl rfl) ?_
 refine a2 ?_
 · exact Lr
abbrev sets (l:List (List Int)):Pr:=slice 1 (l.map fun s=>[ints s])
structure xF (l:List (List Int)) (s:List Int) (z:List (List Int)):Prop where
 mem:∀x∈z,x∈l∨x=s
 le:z.length≤l.length+1
 ge:l.length≤z.length
theorem tB {l:List (List Int)} (hk:k≤l.length):xF l s (l.take k++[s]++l.drop k):=by
 refine ⟨fun x hx=> ?_,by simp;omega,by simp;omega⟩
 simp only [List.mem_append,List.mem_singleton] at hx
 rcases hx with (hx|hx)|hx
 · grind
 · exact .inr hx
 · grind
theorem xH {lo hi:Nat} (h:lo+hi≤1000000):IntKind.i64.wrap (((lo:Int)+(hi:Int)).tdiv 2)=(((lo+hi)/2:Nat):Int):=by grind [Gz,Oj]
theorem xI {l:List (List Int)}:xF l s l:=⟨fun x hx=> .inl hx,by omega,by omega⟩
theorem qy {l:List (List Int)} (hl:l.length≤100000) (hs:∀x∈l,x.length=s.length):A_ prog 277 [sets l,ints s] (Cp.ex fun z:List (List Int)=>fact (xF l s z) (sets z)):=by
 refine fo func277 rfl ⟨rfl,rfl⟩ fun M0 w0=>(Tr.CN 0 rfl fun C3=> ?_)
 have hml:(l.map fun s=>[ints s]).length=l.length:=List.length_map _
 refine a2 ?_
 refine Tr.seq (Tr.block (Tr.CM _ (kk [1,0] rfl) (fun (lo:Nat) (hi:Nat)=>[(5,int ((lo:Nat):Int)),(6,int ((hi:Nat):Int))]) (fun (lo:Nat) (hi:Nat)=>Hp M0 w0 FG ([])) (fun (lo:Nat) (hi:Nat)=>lo≤hi∧hi≤l.length) (fun (lo:Nat) (hi:Nat)=>hi-lo) (0) (l.length)  (⟨Nat.zero_le _,Nat.le_refl _⟩) ⟨kq,kz⟩ (fun _ _ h=>h) ?_))
 rintro lo hi  ⟨hlh,hhl⟩
 refine an ?_ ?_<;>intro h1 q1
 have hlt:lo<hi:=AJ h1
 obtain ⟨x,hx⟩:=at_ (l:=l) (k:=(lo+hi)/2) AA
 have hxs:=hs x (List.mem_of_getElem? hx)
 refine a2 ?_
 refine co rfl (F7 rfl vq vq AA) ?_
 refine ac ?_
 refine Tr.seq (Tr.re 7 rfl (int_eq (xH AA)) ?_)
 refine ac ?_
 refine co rfl (AB rfl underlying257 HH vq vq AA (Ad hx)) ?_
 refine ac ?_
 refine co rfl (Bu (Oc AA) rfl rfl rfl) ?_
 refine ac ?_
 refine wk [23,7,6,5,1,0] rfl (Tr.ex 23 rfl fun ALu=> ?_)
 refine Tr.cn rfl ?_ ?_<;>intro h2 q2
 refine ac ?_
 exact Fin.CC (((lo+hi)/2+1)) (hi)  (⟨⟨by omega,by omega⟩,by omega⟩) ⟨kq,kz⟩ (fun _ _ h=>h)
 refine ac ?_
 exact Fin.CC (lo) (((lo+hi)/2))  (⟨⟨by omega,by omega⟩,by omega⟩) ⟨kq,kz⟩ (fun _ _ h=>h)
 have hge:=AK h1
 refine ac ?_
 refine ap ?_
 refine TO.cases 31 rfl (fun h3=> ?_) (fun h3=> ?_)
 have q3:=FM.Gp h3
 obtain ⟨x2,hx2⟩:=at_ (l:=l) (k:=lo) AA
 refine TO.PV rfl rfl rfl h3 rfl AD (DD rfl vq) (TO.PV rfl rfl rfl h3 rfl AD (DD rfl vq) (TO.PV rfl rfl rfl h3 rfl AD (AB rfl underlying257 HH vq vq AA (Ad hx2)) (TO.PV rfl rfl rfl h3 rfl AD (JA rfl yQ rfl) (TO.PV rfl rfl rfl h3 rfl AD (DD rfl vq) (TO.PV rfl rfl rfl h3 rfl AD (Bu (UZ) rfl rfl rfl) (TO.ex 37 rfl fun z37=> ?_))))))
 refine ap ?_
 refine wk [38,5,1,0] rfl ?_
 refine Tr.cn rfl ?_ ?_<;>intro h4 q4
 refine a2 ?_
 · exact As _ (Ar xI Lr)
 refine ac ?_
 refine ap ?_
 refine tp rfl (Dr rfl underlying257 HH vq vq AA AA) (TO.pad ?_)
 refine TO.C1 0 rfl rfl AD (DK rfl rfl AD rfl underlying257 HH W_ z38 rfl AD ⟨_,rfl,AM _⟩ vq Jx Jz (Bc BD ⟨_,rfl,Dh 1⟩)) (fun v1=> ?_)
 refine ap ?_
 refine ap ?_
 refine TO.C1 0 rfl rfl AD (B7 rfl rfl rfl rfl underlying257 HH W_ z38 Fo Ea (A7 BD Gi)) (fun v2=> ?_)
 refine ap ?_
 refine wk [8,5,0] rfl ?_
 refine ap ?_
 refine tp rfl (Cs rfl underlying257 HH vq vq AA AA) ?_
 refine TO.C1 0 rfl rfl AD (B7 rfl rfl rfl rfl underlying257 HH W_ z38 Fo vq (A7 BD Gi)) (fun v3=> ?_)
 refine ap ?_
 refine ac ?_
 · exact kX
 have q3:=FM.Gp h3
 iterate 6 refine TO.Wk rfl rfl rfl (Bb h3) rfl AD ?_
 refine ap ?_
 refine wk [38,5,1,0] rfl ?_
 refine ac ?_
 refine ap ?_
 refine tp rfl (Dr rfl underlying257 HH vq vq AA AA) (TO.pad ?_)
 refine TO.C1 0 rfl rfl AD (DK rfl rfl AD rfl underlying257 HH W_ z38 rfl AD ⟨_,rfl,AM _⟩ vq Jx Jz (Bc BD ⟨_,rfl,Dh 1⟩)) (fun v4=> ?_)
 refine ap ?_
 refine ap ?_
 refine TO.C1 0 rfl rfl AD (B7 rfl rfl rfl rfl underlying257 HH W_ z38 Fo Ea (A7 BD Gi)) (fun v5=> ?_)
 refine ap ?_
 refine wk [8,5,0] rfl ?_
 refine ap ?_
 refine tp rfl (Cs rfl underlying257 HH vq vq AA AA) ?_
 refine TO.C1 0 rfl rfl AD (B7 rfl rfl rfl rfl underlying257 HH W_ z38 Fo vq (A7 BD Gi)) (fun v6=> ?_)
 refine ap ?_
 refine ac ?_
 · exact kX
theorem az {o:List Int} (ho:o.length≤1000):A_ prog 54 [ints o] (Cp.ex fun z:List B0=>fact (z.length≤o.length) (reqs z)):=by
 refine fo func54 rfl ⟨rfl,rfl⟩ fun M0 w0=>(Tr.CN 0 rfl fun C3=> ?_)
 refine a3 ?_
 refine Tr.block (Tr.CM _ (kk [0] rfl) (fun (z:List B0) (i:Nat)=>[(3,reqs z),(4,int ((i:Nat):Int))]) (fun (z:List B0) (i:Nat)=>Hp M0 w0 FG ([])) (fun (z:List B0) (i:Nat)=>(1≤i∧(i≤o.length∨i=1))∧z.length+1≤i) (fun (z:List B0) (i:Nat)=>o.length-i) ([]) (1)  (⟨⟨by omega,.inr rfl⟩,by simp⟩) ⟨⟨_,rfl,AM 2⟩,kz⟩ (fun _ _ h=>h) ?_)
 rintro z i  ⟨⟨hi1,hi2⟩,hzl⟩
 refine an ?_ ?_<;>intro h1 q1
 have Fw:i<o.length:=AJ h1
 obtain ⟨x,hx⟩:=at_ Fw
 obtain ⟨y,hy⟩:=at_ (l:=o) (k:=i-1) AA
 refine a2 ?_
 refine co rfl (AB rfl underlying22 BJ vq vq AA cM) ?_
 refine ac ?_
 refine co rfl (AB rfl underlying22 BJ vq vq AA (Ad hx)) ?_
 refine ac ?_
 refine co rfl (Bu (SM (l:=z) (r:=⟨y,x⟩) AA) rfl rfl rfl) ?_
 refine ac ?_
 refine wk [4,3,0] rfl ?_
 refine ac ?_
 exact Fin.CC ((GL z ⟨y,x⟩)) (i+1)  (⟨⟨⟨by omega,.inl AA⟩,by have:=SL z ⟨y,x⟩;omega⟩,by omega⟩) ⟨kq,⟨_,rfl,AG i⟩,kz⟩ (fun _ _ h=>h)
 have hie:=AK h1
 refine a3 ?_
 · exact U6
theorem Ua (n:Nat) (l:List B0):∀k,(DU n l k).2.length≤k
 |0=>Nat.le_refl _
 |k+1=>by
  have h:=Ua n l k
  rw [DU]
  split
  · omega
  ·
   rename_i x _
   have h2:=OR (DU n l k).2 x true
   show (Fz (DU n l k).2 x true).length≤k+1
   omega
theorem a_ {n:Int} (hl:l.length≤1000000):A_ prog 148 [int n,reqs l] (DW [ints (if BR n l=0 then (DU n.toNat l n.toNat).1 else []),int (BR n l)]):=by
 refine fo func148 rfl ⟨rfl,rfl⟩ fun M0 w0=> ?_
 refine a2 ?_
 refine co rfl (Bu (HV hl) rfl rfl rfl) ?_
 refine ac ?_
 refine an ?_ ?_<;>intro h1 q1
 have hv:BR n l≠0:=by simpa using h1
 refine ac ?_
 refine Tr.ret (Fin.AF (Fin.Co rfl (Bt.Dx _ _) rfl ?_ rfl ?_))
 · rw [if_neg hv];exact AM 1
 · exact Lr
 have hv:BR n l=0:=by simpa using h1
 obtain ⟨N,rfl⟩:∃N:Nat,n=(N:Int):=⟨n.toNat,by have:=(DT hv).1;omega⟩
 have Nw:=(DT hv).1
 refine a2 ?_
 refine Tr.seq (Tr.block (Tr.B5 3 1 (Tr.J6 _ (kk [1,0] rfl) (fun (k:Nat) u=>[(7,ints (DU N l k).2),(8,Ag u (ints (DU N l k).1))]) (fun (k:Nat) u=>Hp M0 w0 FG ([Ax 3 1 u])) (fun (k:Nat)=>k≤N) (fun (k:Nat)=>N-k) (0) (.slice none 0 0) (Nat.zero_le _) ⟨⟨_,rfl,AM 1⟩,⟨_,rfl,Bf rfl⟩,trivial⟩ (fun _ _ h=>h) ?_)))
 rintro k u hkN
 have hrow:=JQ hv k (by simpa using hkN)
 rw [Int.toNat_natCast] at hrow
 obtain ⟨jD,hrl⟩:=hrow
 have hdl:(DU N l k).2.length≤100000:=Nat.le_trans (Ua N l k) AA
 refine ac ?_
 refine co rfl (E_ rfl underlying38 Fo) ?_
 refine an ?_ ?_<;>intro h2 q2
 have hk:k<N:=by have:=FM.Gp h2;omega
 obtain ⟨x,hx0,hst⟩:=Xq hv (k:=k) P4
 rw [Int.toNat_natCast] at hx0 hst
 have AGR:=Ad (f:=fun n:Int=>[int n]) hx0
 refine a2 ?_
 refine co rfl (eA (PB (n:=N) (l:=l) AA AA) rfl rfl rfl rfl rfl) ?_
 refine ac ?_
 refine Tr.pad (Tr.rx ?_)
 refine ay ?_
 refine xo rfl (fun _=>AB rfl underlying38 BJ vq vq AA AGR) (xo rfl (fun _=>JA rfl BT rfl) (xo rfl (fun _=>Aa (xs:=[.tmp 27]) (rows:=[[_]]) rfl rfl underlying38 BJ z3 rfl AD ⟨⟨Ao,Ce⟩,trivial⟩ AD) ?_))
 refine Cx.ef 1 rfl rfl AD (B7 rfl rfl rfl rfl underlying38 BJ IE z3 Fo Ea (A7 BD Gi)) ?_
 refine ay ?_
 refine xo rfl (fun _=>AB rfl underlying38 BJ vq vq AA AGR) (xo rfl (fun _=>JA rfl BT rfl) (xo rfl (fun _=>Iy (G6 AA) rfl rfl rfl rfl) (Cx.ef 1 rfl rfl AD (VG rfl rfl AD rfl vq) (xm rfl ?_))))
 refine Cx.nil ⟨by kernel_rfl,?_⟩
 refine BE.open_ 1 8 rfl rfl (fun v1=> ?_)
 refine BE.done Mk (Fin.block (Fin.drop 0 ?_))
 exact Fin.K0 (k+1) v1 (⟨by omega,by omega⟩) ⟨⟨_,rfl,Pr.le_of_eq (by rw [hst])⟩,⟨_,rfl,A9 (by rw [hst];simp)⟩,kz⟩ (fun _ _ h=>h)
 have Te:k=N:=by have:=FM.Gp h2;omega
 refine a2 ?_
 refine Tr.ret (Fin.Co rfl (Bt.Dx _ _) rfl ?_ rfl ?_)
 · rw [if_pos hv,Int.toNat_natCast,←Te];exact At _ _
 · refine int_eq ?_;exact hv.symm
structure Lu (n k:Nat) (L:List (List Int)):Prop where
 WA:∀s∈L,∀x∈s,0≤x∧x<(n:Int)
 len:∀s∈L,s.length=k
theorem YE {x:Int} (h:x∈HR n l s true):(0≤x∧x<(n:Int))∧x∉s:=by
 unfold HR at h
 obtain ⟨i,hi,rfl⟩:=List.mem_map.1 h
 obtain ⟨h1,h2⟩:=List.mem_filter.1 hi
 have h3:=List.mem_range.1 h1
 refine ⟨by omega,fun hc=> ?_⟩
 unfold V_ at h2
 rw [Bool.and_eq_true] at h2
 have:=EV.2 hc
 rw [this] at h2
 exact absurd h2.1 AD
theorem Lu.put {L z:List (List Int)} {x:Int} (h:Lu n (k+1) L) (hs:s.length=k∧∀y∈s,0≤y∧y<(n:Int)) (hx:x∈HR n l s true) (hp:xF L (Fz s x true) z):Lu n (k+1) z:=by
 have hb:=YE hx
 refine ⟨fun t ht=> ?_,fun t ht=> ?_⟩
 ·
  rcases hp.mem t ht with h1|rfl
  · exact h.WA t h1
  ·
   intro y hy
   rcases G5.1 hy with rfl|hy
   · exact hb.1
   · exact hs.2 y hy
 ·
  rcases hp.mem t ht with h1|rfl
  · exact h.len t h1
  · rw [Nc hb.2,hs.1]
theorem jE:Lu n k []:=⟨fun _ h=>GP,fun _ h=>GP⟩
theorem jF:Lu n 0 [[]]:=⟨fun s h x hx=>(by simp at h;subst h;cases hx),fun s h=>(by simp at h;subst h;rfl)⟩
structure Lv (n:Int) (L:List (List Int)):Prop where
 WA:∀s∈L,∀x∈s,0≤x∧x<n
 len:L.length≤4096
 wid:∀s∈L,s.length≤4096
theorem jG {lv ou nx:List (List Int)} (h1:Lu n (d+1) nx) (h2:Lv (n:Int) ou) (h3:lv=[]∨d+1≤ou.length) (hl:ou.length+nx.length≤4096) (hy:lv≠[]):((Lu n (d+1) nx∧Lv (n:Int) (ou++nx))∧(nx=[]∨d+1+1≤(ou++nx).length)∧nx.length≤4096)∧(if nx=[] then 0 else 4097-(ou++nx).length)<(if lv=[] then 0 else 4097-ou.length):=by
 have h4:(ou++nx).length=ou.length+nx.length:=List.length_append
 have h5:=h2.len
 rw [if_neg hy]
 refine ⟨⟨⟨h1,⟨fun s hs=> ?_,by omega,fun s hs=> ?_⟩⟩,?_,by omega⟩,?_⟩
 ·
  rcases List.mem_append.1 hs with hs|hs
  · exact h2.WA s hs
  · exact h1.WA s hs
 ·
  rcases List.mem_append.1 hs with hs|hs
  · exact h2.wid s hs
  · rw [h1.len s hs];rcases h3 with h3|h3;exact absurd h3 hy;omega
 ·
  cases nx with
  |nil=>exact .inl rfl
  |cons a m=>right;rcases h3 with h3|h3;exact absurd h3 hy;rw [h4,List.length_cons];omega
 ·
  cases nx with
  |nil=>rw [if_pos rfl];omega
  |cons a m=>rw [if_neg (fun h=>by cases h),h4,List.length_cons];rcases h3 with h3|h3;exact absurd h3 hy;omega
theorem jH {n:Int} (hl:l.length≤1000000):A_ prog 261 [int n,reqs l] (Cp.ex fun z:List (List Int)×Int=>fact (Lv n z.1) (DW [sets z.1,int z.2])):=by
 refine fo func261 rfl ⟨rfl,rfl⟩ fun M0 w0=> ?_
 refine a2 ?_
 refine co rfl (Bu (HV hl) rfl rfl rfl) ?_
 refine ac ?_
 refine an ?_ ?_<;>intro h1 q1
 refine ac ?_
 refine Tr.ret (Fin.AF (Fin.BW rfl (AQ.tmp rfl Lr) (AQ.tmp rfl Lr) ?_))
 · exact Y_
 have hv:BR n l=0:=by simpa using h1
 obtain ⟨N,rfl⟩:∃N:Nat,n=(N:Int):=⟨n.toNat,by have:=(DT hv).1;omega⟩
 have Nw:=(DT hv).1
 refine ac ?_
 refine Tr.seq (Tr.Bq (co rfl (Aa (xs:=[.const (.slice none 0 0)]) (rows:=[[ints []]]) rfl rfl underlying257 HH z38 rfl AD ⟨⟨Ao,VL.le vq (Pr.le_trans (AM 1) (AO _))⟩,trivial⟩ AD) ?_))
 refine ac ?_
 refine Tr.seq (Tr.Bq (co rfl (Aa (xs:=[.const (.slice none 0 0)]) (rows:=[[ints []]]) rfl rfl underlying257 HH z38 rfl AD ⟨⟨Ao,VL.le vq (Pr.le_trans (AM 1) (AO _))⟩,trivial⟩ AD) ?_))
 refine ac ?_
 refine Tr.seq (Tr.block (Tr.AGO (e:=38) (rows:=[[ints []]]) 8 rfl Lr (fun v8=> ?_)))
 refine Tr.E6 _ (kk [1,0] rfl) (fun (lv:List (List Int)) (ou:List (List Int)) (d:Nat) u=>[(7,sets lv),(8,Ag u (sets ou))]) (fun (lv:List (List Int)) (ou:List (List Int)) (d:Nat) u=>Hp M0 w0 FG ([Ax 38 1 u])) (fun (lv:List (List Int)) (ou:List (List Int)) (d:Nat)=>(Lu N d lv∧Lv N ou)∧(lv=[]∨d+1≤ou.length)∧lv.length≤4096) (fun (lv:List (List Int)) (ou:List (List Int)) (d:Nat)=>(if lv=[] then 0 else 4097-ou.length)) ([[]]) ([[]]) (0) v8 (⟨⟨jF,⟨fun s h x hx=>(by simp at h;subst h;cases hx),by decide,fun s h=>(by simp at h;subst h;decide)⟩⟩,.inr AD,by decide⟩) ⟨⟨_,rfl,BF 1 _⟩,⟨_,rfl,A9 rfl⟩,trivial⟩ (fun _ _ h=>h) ?_
 rintro lv ou d u ⟨⟨hlv,hou⟩,hd,hl4⟩
 refine an ?_ ?_<;>intro h2 q2
 have hy:lv≠[]:=by have h_:=FM.Gp h2;intro h0;subst h0;simp at h_
 have hd4:d+1≤4096:=by have:=hou.len;rcases hd with hd|hd;exact absurd hd hy;omega
 refine a3 ?_
 refine Tr.block ?_
 refine Tr.CM _ (kk [26,25,8,1,0] rfl) (fun (nx:List (List Int)) (m:Nat)=>[(9,sets nx),(27,int ((m:Nat):Int))]) (fun (nx:List (List Int)) (m:Nat)=>Hp M0 w0 FG ([Ax 38 1 u])) (fun (nx:List (List Int)) (m:Nat)=>(m≤lv.length∧Lu N (d+1) nx)∧ou.length+nx.length≤4096) (fun (nx:List (List Int)) (m:Nat)=>lv.length-m) ([]) (0)  (⟨⟨Nat.zero_le _,jE⟩,by have:=hou.len;simpa using this⟩) ⟨⟨_,rfl,AM 1⟩,kz⟩ (fun _ _ h=>h) ?_
 rintro nx m  ⟨⟨hm0,hnx⟩,ZZ⟩
 refine ac ?_
 refine Tr.seq ?_
 refine Tr.cn rfl ?_ ?_<;>intro h3 q3
 have hml:m<lv.length:=AJ h3
 obtain ⟨s,hs⟩:=at_ hml
 have KV:=hlv.len s (List.mem_of_getElem? hs)
 refine ac ?_
 refine Tr.seq (Tr.block (Tr.seq (Tr.Bq (co rfl (AB rfl underlying257 HH vq vq AA (Ad hs)) ?_))))
 refine a2 ?_
 refine co rfl (eA (PB (n:=N) (l:=l) AA AA) rfl rfl rfl rfl rfl) ?_
 refine ac ?_
 refine wk [36,35,34,27,26,25,11,9,8,1,0] rfl (Tr.block (Tr.CM _ (kk [35,34,27,26,25,11,8,1,0] rfl) (fun (ny:List (List Int)) (q:Nat)=>[(9,sets ny),(36,int ((q:Nat):Int))]) (fun (ny:List (List Int)) (q:Nat)=>Hp M0 w0 FG ([Ax 38 1 u])) (fun (ny:List (List Int)) (q:Nat)=>(q≤(HR N l s true).length∧Lu N (d+1) ny)∧ou.length+ny.length≤4096) (fun (ny:List (List Int)) (q:Nat)=>(HR N l s true).length-q) (nx) (0)  (⟨⟨Nat.zero_le _,hnx⟩,ZZ⟩) ⟨kq,kz⟩ (fun _ _ h=>h) ?_))
 rintro ny q  ⟨⟨hq0,hny⟩,AKL⟩
 refine ac ?_
 refine Tr.seq ?_
 refine Tr.cn rfl ?_ ?_<;>intro h4 q4
 have hql:q<(HR N l s true).length:=AJ h4
 have VU:=Xr (n:=N) (l:=l) (s:=s) (add:=true)
 obtain ⟨x,Xd⟩:=at_ hql
 refine ac ?_
 refine Tr.seq (Tr.block (Tr.seq (Tr.Bq (co rfl (AB rfl underlying38 BJ vq vq AA (Ad Xd)) ?_))))
 refine ac ?_
 refine wk [36,35,34,27,26,25,13,11,9,8,1,0] rfl ?_
 refine ap ?_
 refine tp rfl (Iy (G6 AA) rfl rfl rfl rfl) ?_
 refine tp rfl (Bu (qy AA (fun t ht=>by rw [hny.len t ht,Nc (YE (List.mem_of_getElem? Xd)).2];omega)) rfl rfl rfl) ?_
 refine TO.ex 44 rfl (fun z1=>TO.fact 44 rfl fun E2=> ?_)
 have hzl:=E2.le
 refine ap ?_
 refine wk [36,35,34,27,26,25,11,9,8,1,0] rfl ?_
 refine ac ?_
 refine co rfl (E_ rfl underlying257 Fo) ?_
 refine ac ?_
 refine wk [50,36,35,34,27,26,25,11,9,8,1,0] rfl ?_
 refine Tr.cn rfl ?_ ?_<;>intro h5 q5
 refine ac ?_
 refine wk [5,4] rfl (Tr.ret (Fin.AP (Fin.AF (Fin.AF (Fin.AP (Fin.AP (Fin.AF (Fin.AF (Fin.AP (Fin.AF (Fin.AP (Fin.AF (Fin.AP (Fin.AF ?_))))))))))))))
 refine Fin.BW rfl (AQ.tmp rfl Lr) (AQ.tmp rfl Lr) ?_
 · exact Y_
 refine a2 ?_
 exact Fin.CC (z1) (q+1)  (⟨⟨⟨by omega,hny.put ⟨KV,hlv.WA s (List.mem_of_getElem? hs)⟩ (List.mem_of_getElem? Xd) E2⟩,by omega⟩,by omega⟩) ⟨kq,⟨_,rfl,AG q⟩,kz⟩ (fun _ _ h=>h)
 have hqe:=AK h4
 refine a2 ?_
 exact Fin.CC (ny) (m+1)  (⟨⟨⟨by omega,hny⟩,AKL⟩,by omega⟩) ⟨kq,⟨_,rfl,AG m⟩,kz⟩ (fun _ _ h=>h)
 have hme:=AK h3
 refine ac ?_
 refine ap ?_
 refine TO.C1 0 rfl rfl AD (B7 rfl rfl rfl rfl underlying257 HH W_ z38 Fo vq (A7 BD Gi)) (fun v1=> ?_)
 refine ap ?_
 exact Fin.Di (nx) (ou++nx) (d+1) v1 (jG hnx hou hd ZZ hy) ⟨kq,⟨_,rfl,A9 AR⟩,kz⟩ (fun _ _ h=>h)
 have hy:=h2
 refine a2 ?_
 refine Tr.ret (Fin.BW rfl (AQ.tmp rfl Lr) (AQ.tmp rfl Lr) ?_)
 · exact As (_,_) (Ar hou (BK ⟨At _ _,Lr,trivial⟩))
theorem qz {β:Type} {p:β→Bool} {l:List β} {x:β} (h:l[k]? =some x):idx p (l.take (k+1))=if idx p (l.take k)<0 then (if p x=true then (k:Int) else -1) else idx p (l.take k):=by
 have hk:=BZ h
 rw [List.take_add_one,h]
 have hl:(l.take k).length=k:=by rw [List.length_take];omega
 show idx p (l.take k++[x])=_
 generalize l.take k=a at hl ⊢
 unfold idx
 rw [List.findIdx?_append]
 cases ha:a.findIdx? p with
 |some i=>simp;intro h3;omega
 |none=>cases hp:p x<;>simp [hp,hl]
theorem jI {β:Type} {p:β→Bool} {l:List β} {x:β} (h:l[k]? =some x):(((l.take (k+1)).countP p:Nat):Int)=((l.take k).countP p:Nat)+(if p x=true then 1 else 0):=by
 rw [List.take_add_one,h]
 show (((l.take k++[x]).countP p:Nat):Int)=_
 rw [List.countP_append,List.countP_singleton];split<;>simp_all
theorem Ni {β:Type} {p:β→Bool} {l:List β}:idx p l<0↔l.countP p=0:=by
 unfold idx
 cases h:l.findIdx? p with
 |none=>
  rw [List.findIdx?_eq_none_iff] at h
  simp only [show ((none:Option Nat).map fun n=>(n:Int)).getD (-1)= -1 from rfl]
  constructor
  · intro _;rw [List.countP_eq_zero];intro a ha;rw [h a ha];decide
  · intro _;decide
 |some i=>
  rw [List.findIdx?_eq_some_iff_getElem] at h
  obtain ⟨h1,h2,_⟩:=h
  constructor
  · intro h3;exfalso;revert h3;simp
  · intro h3;rw [List.countP_eq_zero] at h3;exact absurd h2 (h3 _ (List.getElem_mem h1))
theorem xJ {β:Type} {p:β→Bool} {l:List β} (h:l.length≤n):(l.take k).countP p≤n:=Nat.le_trans List.countP_le_length (Nat.le_trans I2 h)
theorem bsX {l:List Int} {n x:Int} (h:∀(j:Nat) y,j<k→l[j]? =some y→y<n) (hx:l[k]? =some x) (hlt:x<n):∀(j:Nat) y,j<k+1→l[j]? =some y→y<n:=by grind
def It (id:Int) (x:Ju):Bool:=x.CW==id
def GN (id:Int) (l:List Ju):Int:=((l.countP (It id):Nat):Int)
theorem G7 (id:Int) (l:List Ju):Bs id l=idx (It id) l:=rfl
theorem jJ {id:Int} {l:List Ju} {x:Ju} (h:l[k]? =some x):GN id (l.take (k+1))=GN id (l.take k)+(if x.CW=id then 1 else 0):=by grind [GN,jI,It]
theorem YF {id:Int} {l:List Ju} {x:Ju} (h:l[k]? =some x):Bs id (l.take (k+1))=if GN id (l.take k)=0 then (if x.CW=id then (k:Int) else -1) else Bs id (l.take k):=by grind [G7,qz,Ni,It,GN,idx]
theorem YG {id:Int} {l:List Ju} (h:GN id l=0):Bs id l= -1:=by
 have h2:=(Ni (p:=It id) (l:=l)).2 (by unfold GN at h;omega)
 rw [G7];unfold idx at h2 ⊢
 cases h3:l.findIdx? (It id) with
 |none=>rfl
 |some i=>rw [h3] at h2;simp at h2;omega
def IA (e:CF) (k:Int):Int×Bool:=if k=3 then (e.most,true) else if k=4 then (e.least,true) else if k=11 then (NN e.OL,true) else if k=12 then (NN e.own,true) else (0,false)
def Gb (e:CF) (k:Int):List Int×Bool×Bool:=
 if k=1∨k=2 then (e.BA,decide (k=1),true) else if k=7∨k=8 then (e.anchors,decide (k=7),true) else if k=9∨k=10 then (e.hashes,decide (k=9),true) else ([],false,false)
theorem Tf (x:Ju):decide (x=B6)=eC x:=by
 rw [Bool.eq_iff_iff,decide_eq_true_eq];unfold eC B6
 cases x;simp only [Ju.mk.injEq,Bool.and_eq_true,decide_eq_true_eq,beq_iff_eq,and_assoc]
 constructor
 · rintro ⟨h1,h2,h3,h4⟩;exact ⟨h1,h2,h3,by simp [h4]⟩
 · rintro ⟨h1,h2,h3,h4⟩;exact ⟨h1,h2,h3,List.eq_nil_of_length_eq_zero AA⟩
theorem JW {l:List Int} {n:Int}  :A_ prog 300 [ints l,int n] (int (idx (fun y=>n==y) l)):=by
 refine fo func300 rfl ⟨rfl,rfl⟩ fun M0 w0=>(Tr.CN 0 rfl fun C3=> ?_)
 refine a2 ?_
 refine Tr.block (Tr.A0 _ (kk [8,7,1] rfl) (fun k:Nat=>[(9,int ((k:Nat):Int))]) (fun k:Nat=>k≤(l).length∧(∀j y,j<k→l[j]? =some y→(n==y)=false)) (fun k:Nat=>(l).length-k) 0 (⟨Nat.zero_le _,fun j y hj=>absurd hj AA⟩) kz ?_)
 rintro k ⟨BN,AX⟩
 refine ac ?_
 refine Tr.seq ?_
 refine Tr.cn rfl ?_ ?_<;>intro h1 q1
 have Ae:k<(l).length:=AJ h1
 obtain ⟨x,Af⟩:=at_ Ae
 · repeat' first|(exact int_eq (Ev (p:=fun y=>n==y) Af Bz AX))|(exact Fin.AL (k+1) ⟨⟨Ae,Dm (p:=fun y=>n==y) Af Bz AX⟩,by omega⟩ ⟨⟨_,rfl,AG k⟩,kz⟩)|refine co rfl (AB rfl underlying22 BJ vq vq AA Bk) ?_|refine ac ?_|(refine Tr.cn rfl ?_ ?_<;>intro h q)
 have BC:k=(l).length:=by have:=AK h1;omega
 subst BC
 refine a3 ?_
 · exact int_eq (Gj (p:=fun y=>n==y) AX)
theorem Od {e:CF} {id:Int} (hl:e.ids.length≤1000000):A_ prog 302 [agg (Bp e),int id] (DW [int (GN id e.ids),int (Bs id e.ids)]):=by
 refine fo func302 rfl ⟨rfl,rfl⟩ fun M0 w0=> ?_
 refine a3 ?_
 refine Tr.block (Tr.A0 _ (kk [12,11,1] rfl) (fun k:Nat=>[(13,int ((k:Nat):Int)),(6,int (GN id (e.ids.take k))),(7,int (Bs id (e.ids.take k)))]) (fun k:Nat=>k≤(e.ids).length) (fun k:Nat=>(e.ids).length-k) 0 (Nat.zero_le _) ⟨kq,⟨_,rfl,int_eq rfl⟩,⟨_,rfl,int_eq rfl⟩,trivial⟩ ?_)
 rintro k BN
 refine ac ?_
 refine Tr.seq ?_
 refine Tr.cn rfl ?_ ?_<;>intro h1 q1
 have Ae:k<(e.ids).length:=AJ h1
 obtain ⟨x,Af⟩:=at_ Ae
 have hc:=jJ (id:=id) Af
 have hi:=YF (id:=id) Af
 have hcl:0≤GN id (e.ids.take k)∧GN id (e.ids.take k)≤1000000:=⟨by unfold GN;omega,by have:=xJ (p:=It id) (k:=k) hl;unfold GN;omega⟩
 have h0:=YG (id:=id) (l:=e.ids.take k)
 refine ac ?_
 refine ao ?_
 refine tp rfl (AB rfl underlying100 ES vq vq AA Bk) ?_
 refine tp rfl (Al rfl RR ES vq rfl rfl) ?_
 refine Tl rfl rfl rfl rfl z105 Ow (fun b1=> ?_)
 refine tm rfl ?_
 refine sf 0 9 ⟨rfl,rfl,rfl⟩ rfl rfl rfl rfl ?_
 refine ao ?_
 · repeat' first|exact Fin.AL (k+1) ⟨Ae,by omega⟩ ⟨⟨_,rfl,AG k⟩,⟨_,rfl,int_eq B9⟩,⟨_,rfl,int_eq B9⟩,kz⟩|refine ac ?_|(refine Tr.cn rfl ?_ ?_<;>intro h q)
 have BC:k=(e.ids).length:=by have:=AK h1;omega
 subst BC
 rw [List.take_length]
 refine a2 ?_
 refine Tr.ret (Fin.Co rfl (Bt.Dx _ _) rfl ?_ rfl ?_)
 · exact Lr
 · exact Lr
theorem YH {b:Bool}  :A_ prog 313 [bool b] (int (NN b)):=by
 refine fo func313 rfl ⟨rfl,rfl⟩ fun M0 w0=> ?_
 · repeat' first|exact int_eq (by simp_all [NN])|refine ac ?_|(refine Tr.cn rfl ?_ ?_<;>intro h q)
theorem bA {e:CF} {k:Int}  :A_ prog 301 [agg (Bp e),int k] (DW [int (IA e k).1,bool (IA e k).2]):=by
 refine fo func301 rfl ⟨rfl,rfl⟩ fun M0 w0=> ?_
 refine a2 ?_
 refine an ?_ ?_<;>intro h1 q1
 refine ac ?_
 refine Tr.ret (Fin.AP (Fin.AF (Fin.Co rfl (Bt.Dx _ _) rfl ?_ rfl ?_)))
 · exact Mq
 · exact Mp
 refine an ?_ ?_<;>intro h2 q2
 refine ac ?_
 refine Tr.ret (Fin.AP (Fin.AF (Fin.Co rfl (Bt.Dx _ _) rfl ?_ rfl ?_)))
 · exact Mq
 · exact Mp
 refine an ?_ ?_<;>intro h3 q3
 refine ac ?_
 refine co rfl (CE (YH) rfl rfl) ?_
 refine ac ?_
 refine wk [5,4] rfl (Tr.ret (Fin.AP (Fin.AF (Fin.Co rfl (Bt.Dx _ _) rfl ?_ rfl ?_))))
 · exact Mq
 · exact Mp
 refine an ?_ ?_<;>intro h4 q4
 refine ac ?_
 refine co rfl (CE (YH) rfl rfl) ?_
 refine ac ?_
 refine wk [5,4] rfl (Tr.ret (Fin.AP (Fin.AF (Fin.Co rfl (Bt.Dx _ _) rfl ?_ rfl ?_))))
 · exact Mq
 · exact Mp
 refine a2 ?_
 refine wk [5,4] rfl (Tr.ret (Fin.Co rfl (Bt.Dx _ _) rfl ?_ rfl ?_))
 · exact Mq
 · exact Mp
theorem jK {c:Bl} (hcs:c.DM.small):A_ prog 298 [agg (FI c)] (bool (decide (Jl c))):=by
 refine fo func298 rfl ⟨rfl,rfl⟩ fun M0 w0=> ?_
 refine ac ?_
 refine ac ?_
 refine co rfl (AY rfl (Zx (a:=c.DM) (b:=B6) hcs) ⟨ke rfl,⟨_,rfl,BP ⟨Lr,Lr,Lr,AM 15,trivial⟩⟩,trivial⟩) ?_
 refine ac ?_
 refine ac ?_
 refine ac ?_
 refine Tr.cn rfl ?_ ?_<;>intro h1 q1
 refine ac ?_
 refine ac ?_
 · exact Up
 refine ac ?_
 refine Tr.cn rfl ?_ ?_<;>intro h2 q2
 refine ac ?_
 refine wk [2] rfl ?_
 refine ac ?_
 · exact Up
 refine ac ?_
 refine ac ?_
 refine Ch.cs 21 rfl ?_ ?_<;>intro h3 q3
 refine ac ?_
 refine Ch.cs 26 rfl ?_ ?_<;>intro h4 q4
 refine ac ?_
 refine Ch.cs 29 rfl ?_ ?_<;>intro h5 q5
 refine ac ?_
 refine wk [2] rfl ?_
 refine ac ?_
 · exact Up
 refine ac ?_
 refine wk [2] rfl ?_
 refine ac ?_
 · exact Up
 refine ac ?_
 refine wk [2] rfl ?_
 refine ac ?_
 · exact k_
 refine ac ?_
 refine wk [2] rfl ?_
 refine ac ?_
 · exact k_
theorem YI {e:CF} {k:Int}  :A_ prog 299 [agg (Bp e),int k] (DW [ints (Gb e k).1,bool (Gb e k).2.1,bool (Gb e k).2.2]):=by
 refine fo func299 rfl ⟨rfl,rfl⟩ fun M0 w0=> ?_
 refine a2 ?_
 refine an ?_ ?_<;>intro h1 q1
 refine ac ?_
 refine Tr.cond rfl (fun _=> ?_) (fun h=>nomatch h1.symm.trans h)
 refine ac ?_
 refine wk [6,5,4] rfl (Tr.ret (Fin.AP (Fin.AF (Fin.I6 rfl (Bt.Dx _ _) rfl ?_ rfl ?_ rfl ?_))))
 · exact Kq
 · exact FZ
 · exact FZ
 refine an ?_ ?_<;>intro h2 q2
 refine ac ?_
 refine wk [6,5,4] rfl (Tr.ret (Fin.AP (Fin.AF (Fin.I6 rfl (Bt.Dx _ _) rfl ?_ rfl ?_ rfl ?_))))
 · exact Kq
 · exact FZ
 · exact FZ
 refine an ?_ ?_<;>intro h3 q3
 refine ac ?_
 refine Tr.cond rfl (fun _=> ?_) (fun h=>nomatch h3.symm.trans h)
 refine ac ?_
 refine wk [6,5,4] rfl (Tr.ret (Fin.AP (Fin.AF (Fin.I6 rfl (Bt.Dx _ _) rfl ?_ rfl ?_ rfl ?_))))
 · exact Kq
 · exact FZ
 · exact FZ
 refine an ?_ ?_<;>intro h4 q4
 refine ac ?_
 refine wk [6,5,4] rfl (Tr.ret (Fin.AP (Fin.AF (Fin.I6 rfl (Bt.Dx _ _) rfl ?_ rfl ?_ rfl ?_))))
 · exact Kq
 · exact FZ
 · exact FZ
 refine ac ?_
 refine wk [22,7,2,1] rfl ?_
 refine Tr.cn rfl ?_ ?_<;>intro h5 q5
 refine ac ?_
 refine Tr.cond rfl (fun _=> ?_) (fun h=>nomatch h5.symm.trans h)
 refine ac ?_
 refine Tr.ret (Fin.AP (Fin.AF (Fin.I6 rfl (Bt.Dx _ _) rfl ?_ rfl ?_ rfl ?_)))
 · exact Kq
 · exact FZ
 · exact FZ
 refine an ?_ ?_<;>intro h6 q6
 refine ac ?_
 refine Tr.ret (Fin.AP (Fin.AF (Fin.I6 rfl (Bt.Dx _ _) rfl ?_ rfl ?_ rfl ?_)))
 · exact Kq
 · exact FZ
 · exact FZ
 refine a2 ?_
 refine Tr.ret (Fin.I6 rfl (Bt.Dx _ _) rfl ?_ rfl ?_ rfl ?_)
 · exact Pr.le_trans (AM 1) (Pr.le_of_eq (by rw [show (Gb e k).1=[] by simp_all [Gb]];rfl))
 · exact FZ
 · exact FZ
theorem Oe {l:List Int} {n:Int} (hi:i≤l.length) (hl:l.length≤1000000):A_ prog 303 [ints l,int ((i:Nat):Int),int n] (ints (l.take i++[n]++l.drop i)):=by
 refine fo func303 rfl ⟨rfl,rfl⟩ fun M0 w0=> ?_
 have hml:(l.map fun n:Int=>[int n]).length=l.length:=List.length_map _
 refine ac ?_
 refine ap ?_
 refine tp rfl (Dr rfl underlying22 BJ vq vq AA AA) (TO.pad ?_)
 refine TO.C1 0 rfl rfl AD (DK rfl rfl AD rfl underlying22 BJ IE z3 rfl AD ⟨_,rfl,AM _⟩ vq Jx Jz (Bc BD ⟨_,rfl,Dh 1⟩)) (fun v1=> ?_)
 refine ap ?_
 refine ap ?_
 refine TO.C1 0 rfl rfl AD (B7 rfl rfl rfl rfl underlying22 BJ IE z3 Fo Ea (A7 BD Gi)) (fun v2=> ?_)
 refine ap ?_
 refine ap ?_
 refine tp rfl (Cs rfl underlying22 BJ vq vq AA AA) ?_
 refine TO.C1 0 rfl rfl AD (B7 rfl rfl rfl rfl underlying22 BJ IE z3 Fo vq (A7 BD Gi)) (fun v3=> ?_)
 refine ap ?_
 refine wk [6] rfl ?_
 refine ac ?_
 · exact Pr.le_trans (At _ _) (Pr.le_of_eq (by show _=slice 1 ((l.take i++[n]++l.drop i).map fun n=>[int n]);simp [List.map_take,List.map_drop]))
theorem JX {l:List Int} (hi:i<l.length) (hl:l.length≤1000000):A_ prog 304 [ints l,int ((i:Nat):Int)] (ints (l.eraseIdx i)):=by
 refine fo func304 rfl ⟨rfl,rfl⟩ fun M0 w0=> ?_
 have hml:(l.map fun n:Int=>[int n]).length=l.length:=List.length_map _
 refine ac ?_
 refine ap ?_
 refine tp rfl (Dr rfl underlying22 BJ vq vq AA AA) (TO.pad ?_)
 refine TO.C1 0 rfl rfl AD (DK rfl rfl AD rfl underlying22 BJ IE z3 rfl AD ⟨_,rfl,AM _⟩ vq Jx Jz (Bc BD ⟨_,rfl,Dh 1⟩)) (fun v1=> ?_)
 refine ap ?_
 refine ap ?_
 refine tp rfl (Cs rfl underlying22 BJ vq vq AA AA) ?_
 refine TO.C1 0 rfl rfl AD (B7 rfl rfl rfl rfl underlying22 BJ IE z3 Fo vq (A7 BD Gi)) (fun v2=> ?_)
 refine ap ?_
 refine ac ?_
 · exact Pr.le_trans (At _ _) (Pr.le_of_eq (by rw [List.eraseIdx_eq_take_drop_succ];show _=slice 1 ((l.take i++l.drop (i+1)).map fun n=>[int n]);simp [List.map_take,List.map_drop,show (((i:Nat):Int)+1).toNat=i+1 by omega]))
theorem PK {l:List Int} {n:Int} (hl:l.length≤1000000):A_ prog 305 [ints l,int n] (ints (Zp l n)):=by
 refine fo func305 rfl ⟨rfl,rfl⟩ fun M0 w0=>(Tr.CN 0 rfl fun C3=> ?_)
 refine a2 ?_
 refine Tr.seq (Tr.block (Tr.A0 _ (kk [1,0] rfl) (fun k:Nat=>[(5,int ((k:Nat):Int))]) (fun k:Nat=>k≤l.length∧(∀j y,j<k→l[j]? =some y→y<n)) (fun k:Nat=>l.length-k) 0 (⟨Nat.zero_le _,fun j y hj=>absurd hj AA⟩) kz ?_))
 rintro k ⟨BN,hinv⟩
 refine ag ?_ ?_<;>intro h1 q1
 obtain ⟨x,hx⟩:=at_ (l:=l) (k:=k) AA
 refine ac ?_
 refine cy h1 rfl (AB rfl underlying22 BJ vq vq AA (Ad hx)) ?_
 refine ac ?_
 refine wk [17,5,1,0] rfl ?_
 refine Tr.cn rfl ?_ ?_<;>intro h2 q2
 have hq:=h2
 refine a2 ?_
 exact Fin.AL (k+1) ⟨⟨by omega,bsX hinv hx (by simpa using hq)⟩,by omega⟩ ⟨⟨_,rfl,AG k⟩,kz⟩
 have hp:E7 l n=k:=Vp BN hinv (fun y hy=>by have h_:=h2;rw [hx] at hy;cases hy;simpa using h_)
 refine a2 ?_
 refine co rfl (AY rfl (Oe (l:=l) (i:=E7 l n) (eD _ _) hl) ⟨kq,⟨_,rfl,int_eq AA⟩,kz⟩) ?_
 refine a2 ?_
 · exact Lr
 have hp:E7 l n=k:=Vp BN hinv (fun y hy=>by have:=BZ hy;have:=q1;omega)
 refine ac ?_
 refine wk [17,5,1,0] rfl ?_
 refine a2 ?_
 refine co rfl (AY rfl (Oe (l:=l) (i:=E7 l n) (eD _ _) hl) ⟨kq,⟨_,rfl,int_eq AA⟩,kz⟩) ?_
 refine a2 ?_
 · exact Lr
def Yq (e:CF) (c:Bl):Int:=
 if Gt e=false then 19 else if ¬Jl c then 40
 else if c.kind=1∧(c.at_<0∨(e.BA.length:Int)<c.at_) then 2
 else if c.kind=5∧(c.at_<0∨(e.ids.length:Int)<c.at_) then 2
 else if (c.kind=11∨c.kind=12)∧(c.number≠0∧c.number≠1) then 2
 else if (Gb e c.kind).2.2=true∧decide (0≤idx (fun y=>c.number==y) (Gb e c.kind).1)=(Gb e c.kind).2.1 then 41
 else if (IA e c.kind).2=true∧(IA e c.kind).1=c.number then 41
 else if c.kind=5∧0<GN c.DM.CW e.ids then 41
 else if c.kind=6∧GN c.number e.ids=0 then 41
 else if c.kind=6∧1<GN c.number e.ids then 5 else 0
theorem WO {l:List Int} (hs:vU l) {n:Int}:idx (fun y=>n==y) l=if Gk l n=true then ((E7 l n:Nat):Int) else -1:=by
 by_cases h:Gk l n=true
 ·
  rw [if_pos h]
  obtain ⟨y,hy⟩:=at_ (Vr h)
  have hyn:y=n:=by grind
  exact (Ev (p:=fun y=>n==y) hy (by simp [hyn]) (fun j z hj hz=>by have:=Vq hj hz;simp;omega)).symm
 ·
  rw [if_neg h]
  refine (Gj (p:=fun y=>n==y) (fun j z hj hz=> ?_)).symm
  simp only [beq_eq_false_iff_ne,ne_eq]
  intro hn;subst hn
  rcases Nat.lt_trichotomy j (E7 l n) with h1|h1|h1
  · have:=Vq h1 hz;omega
  · grind
  ·
   obtain ⟨y,hy⟩:=at_ (l:=l) (k:=E7 l n) (by have:=BZ hz;omega)
   have h2:=eE hy
   have h3:=vV hs h1 hy hz
   omega
theorem xL {l:List Ju} {n:Int} {x:Ju} (h0:¬Bs n l<0) (hx:l[(Bs n l).toNat]? =some x):(1<GN n l)↔((l.drop (Bs n l+1).toNat).any fun x=>x.CW==n)=true:=by
 obtain ⟨y,hy,hp,hlt⟩:=QG (p:=It n) (l:=l) (by rw [←G7];omega)
 rw [←G7] at hy hlt
 have hsplit:l=l.take (Bs n l).toNat++y::l.drop ((Bs n l).toNat+1):=by
  rw [List.getElem?_eq_getElem hlt] at hy;cases hy
  rw [List.getElem_cons_drop];exact (List.take_append_drop _ _).symm
 have h1:(l.take (Bs n l).toNat).countP (It n)=0:=by
  refine Ni.1 (Int.not_le.1 fun h2=> ?_)
  obtain ⟨z,hz,hzp,hzl⟩:=QG h2
  have e1:Bs n l=idx (It n) (l.take (Bs n l).toNat):=by
   obtain ⟨i,hi⟩:∃i:Nat,idx (It n) (l.take (Bs n l).toNat)=(i:Int):=⟨_,(Int.toNat_of_nonneg h2).symm⟩
   have h3:((l.take (Bs n l).toNat).findIdx? (It n))=some i:=by
    unfold idx at hi;cases h4:(l.take (Bs n l).toNat).findIdx? (It n) with
    |none=>rw [h4] at hi;simp at hi
    |some k=>rw [h4] at hi;rw [show k=i by simp at hi;omega]
   have h5:l.findIdx? (It n)=some i:=by grind
   have e2:idx (It n) l=(i:Int):=by unfold idx;rw [h5]
   exact e2.trans hi.symm
  rw [←e1] at hzl;rw [List.length_take] at hzl;omega
 have h2:l.countP (It n)=1+(l.drop ((Bs n l).toNat+1)).countP (It n):=by grind
 unfold GN;rw [h2,show (Bs n l+1).toNat=(Bs n l).toNat+1 by omega]
 show _↔(List.any _ (It n))=true
 rw [List.any_eq_true,←List.countP_pos_iff];omega
theorem xM {l:List Int} {n:Int}:decide (0≤idx (fun y=>n==y) l)=l.any fun y=>n==y:=QD _ _
theorem Qj {l:List Int} (hs:vU l) {n:Int}:decide (0≤idx (fun y=>n==y) l)=Gk l n:=by
 rw [WO hs];cases Gk l n<;>simp
theorem YJ {e:CF} {c:Bl} (hce:Gt e=true) (hc:Jl c):Yq e c=match CD e c with| .error f=>f| .ok _=>0:=by
 have ok:=DN.1 hce
 have ha:=QI ok.anc;have hh:=QI ok.hash
 have hk:=hc.1
 unfold Yq
 rw [if_neg (by rw [hce];decide),if_neg (not_not_intro hc)]
 have h0:c.kind=1∨c.kind=2∨c.kind=3∨c.kind=4∨c.kind=5∨c.kind=6∨c.kind=7∨c.kind=8∨c.kind=9∨c.kind=10∨c.kind=11∨c.kind=12:=by omega
 rcases h0 with h|h|h|h|h|h|h|h|h|h|h|h
 ·
  rw [QJ h];unfold Gb IA;simp only [h]
  by_cases h1:c.at_<0∨(e.BA.length:Int)<c.at_
  · grind
  ·
   have h2:0≤c.at_∧c.at_≤(e.BA.length:Int):=by omega
   have h3:=xM (l:=e.BA) (n:=c.number)
   have h4:(0≤idx (fun y=>c.number==y) e.BA)↔(e.BA.any fun y=>c.number==y)=true:=by rw [←h3,decide_eq_true_eq]
   by_cases h5:(e.BA.any fun y=>c.number==y)=true
   · grind
   · grind
 ·
  rw [QK h];unfold Gb IA NO;simp only [h]
  by_cases h1:idx (fun y=>c.number==y) e.BA<0
  · simp [h1]
  · simp [h1]
 · rw [QL h];unfold Gb IA;simp only [h];by_cases h1:e.most=c.number<;>simp [h1]
 · rw [QM h];unfold Gb IA;simp only [h];by_cases h1:e.least=c.number<;>simp [h1]
 ·
  rw [QN h];unfold Gb IA;simp only [h]
  have wK:=Ni (p:=It c.DM.CW) (l:=e.ids)
  rw [←G7] at wK
  by_cases h1:c.at_<0∨(e.ids.length:Int)<c.at_
  · grind
  ·
   have h3:0≤c.at_∧c.at_≤(e.ids.length:Int):=by omega
   by_cases h2:0≤Bs c.DM.CW e.ids
   ·
    have:0<GN c.DM.CW e.ids:=by unfold GN;omega
    simp [h1,h2,h3,this]
   ·
    have:¬0<GN c.DM.CW e.ids:=by unfold GN;omega
    simp [h1,h2,h3,this]
 ·
  rw [QO h];unfold Gb IA;simp only [h]
  have wK:=Ni (p:=It c.number) (l:=e.ids)
  rw [←G7] at wK
  by_cases h2:Bs c.number e.ids<0
  ·
   have:GN c.number e.ids=0:=by unfold GN;omega
   cases e.ids[(Bs c.number e.ids).toNat]? <;>simp [h2,this]
  ·
   have h3:¬GN c.number e.ids=0:=by unfold GN;omega
   obtain ⟨x,hx,_,_⟩:=QG (p:=fun x:Ju=>x.CW==c.number) (l:=e.ids) (by unfold Bs at h2;omega)
   have hx:e.ids[(Bs c.number e.ids).toNat]? =some x:=hx
   have hd:=xL h2 hx
   rw [hx];simp only [if_neg h2]
   by_cases h4:((e.ids.drop (Bs c.number e.ids+1).toNat).any fun x=>x.CW==c.number)=true
   · grind
   · grind
 ·
  rw [QS h];unfold Gb IA;simp only [h]
  have h1:(0≤idx (fun y=>c.number==y) e.anchors)↔Gk e.anchors c.number=true:=by rw [←Qj ha,decide_eq_true_eq]
  by_cases h2:Gk e.anchors c.number=true
  · grind
  · grind
 ·
  rw [QT h];unfold Gb IA;simp only [h]
  have h1:(0≤idx (fun y=>c.number==y) e.anchors)↔Gk e.anchors c.number=true:=by rw [←Qj ha,decide_eq_true_eq]
  by_cases h2:Gk e.anchors c.number=true
  · grind
  · grind
 ·
  rw [QU h];unfold Gb IA;simp only [h]
  have h1:(0≤idx (fun y=>c.number==y) e.hashes)↔Gk e.hashes c.number=true:=by rw [←Qj hh,decide_eq_true_eq]
  by_cases h2:Gk e.hashes c.number=true
  · grind
  · grind
 ·
  rw [NP h];unfold Gb IA;simp only [h]
  have h1:(0≤idx (fun y=>c.number==y) e.hashes)↔Gk e.hashes c.number=true:=by rw [←Qj hh,decide_eq_true_eq]
  by_cases h2:Gk e.hashes c.number=true
  · grind
  · grind
 ·
  rw [NQ h];unfold Gb IA;simp only [h]
  by_cases h1:0≤c.number∧c.number≤1
  · grind
  · grind
 ·
  rw [NR h];unfold Gb IA;simp only [h]
  by_cases h1:0≤c.number∧c.number≤1
  · grind
  · grind
theorem xN {e:CF} {c:Bl} (h:Yq e c≠0):ET e c=(FE,Hx,Yq e c):=by grind [Gt,Yq,ET,Jl,YJ,CD,gw]
theorem ABs {e:CF} {c:Bl} (h:Yq e c=0):Gt e=true∧Jl c∧∃e2 b,CD e c= .ok (e2,b):=by
 by_cases hce:Gt e=false
 ·
  have:Yq e c=19:=by unfold Yq;rw [if_pos hce]
  rw [this] at h;cases h
 ·
  by_cases hc:Jl c
  ·
   have hce:Gt e=true:=by simpa using hce
   have hs:=YJ hce hc
   cases h2:CD e c with
   |error f=>
    rw [h2] at hs;rw [h] at hs
    have h3:(0:Int)=f:=hs
    have:=Xc hc h2;omega
   |ok r=>exact ⟨hce,hc,r.1,r.2,rfl⟩
  ·
   have:Yq e c=40:=by unfold Yq;rw [if_neg hce,if_pos hc]
   rw [this] at h;cases h
theorem Sn {β γ:Type} {f:β→γ} {l:List β} {x:β} (h:l[k]? =some x):(l.take k).map f++[f x]=(l.take (k+1)).map f:=by rw [List.take_add_one,h,List.map_append];rfl
theorem MX {x:Ju} (hx:x.small):A_ prog 256 [agg (Ig x)] (agg (Ig x)):=by
 refine fo func256 rfl ⟨rfl,rfl⟩ fun M0 w0=> ?_
 have hch:=hx.chain
 refine Tr.seq (Tr.BI (tp rfl (Bv rfl Cu) ?_))
 refine Tl rfl rfl rfl rfl z105 Ow (fun b1=> ?_)
 refine ap ?_
 refine ap ?_
 refine Tl rfl rfl rfl rfl z105 Ow (fun b2=> ?_)
 refine ap ?_
 refine ac ?_
 refine wk [14,13,12,3,2] rfl (Tr.block (Tr.Iw 0 [int x.B8,int x.bits,int x.CW,Ag (.slice none 0 0) (slice 15 ((x.chain.take 0).map F4))] rfl ⟨Lr,Lr,Lr,Bf rfl,trivial⟩ (Tr.B5 171 15 (Tr.EM _ (kk [13,12,3,2] rfl) (fun k v=>[(14,int ((k:Nat):Int))]) (fun k v=>Hp M0 w0 FG ([Ax 171 15 v,AE true b2 105 [int x.B8,int x.bits,int x.CW,Ag v (slice 15 ((x.chain.take k).map F4))],AE true b1 105 (([.int .i64 0,.int .i64 0,.int .i64 0,.slice none 0 0]:List Value).map is)])) (fun k:Nat=>k≤(x.chain).length) (fun k:Nat=>(x.chain).length-k) 0 (.slice none 0 0) (Nat.zero_le _) kz (fun _ _ h=>h) ?_))))
 rintro k v BN
 refine ac ?_
 refine Tr.seq ?_
 refine Tr.cn rfl ?_ ?_<;>intro h1 q1
 have Ae:k<(x.chain).length:=AJ h1
 obtain ⟨c,Af⟩:=at_ Ae
 have hcn:=hx.names c (List.mem_of_getElem? Af)
 refine ac ?_
 refine Tr.seq (Tr.block (Tr.seq (Tr.BI (tp rfl (AB rfl underlying103 F2 vq vq AA Bk) ?_))))
 refine tp rfl (Al rfl OE F2 vq rfl rfl) ?_
 refine Tl rfl rfl rfl rfl z171 RW (fun b3=> ?_)
 refine ap ?_
 refine ap ?_
 refine tp rfl (JL rfl underlying51 Hs by9 z9 rfl AD vq N0 Ko) ?_
 refine ap ?_
 refine wk [14,13,12,5,3,2] rfl ?_
 refine ap ?_
 refine TO.C1 1 rfl rfl AD (B7 rfl rfl rfl rfl underlying103 F2 AEB z171 Fo Ea (A7 BD Gi)) (fun v1=> ?_)
 refine ap ?_
 refine Tr.drop 0 ?_
 refine ac ?_
 refine Fin.Iw 1 [int x.B8,int x.bits,int x.CW,Ag v1 (slice 15 ((x.chain.take (k+1)).map F4))] rfl ⟨Lr,Lr,Lr,A9 (Sn (f:=F4) Af),trivial⟩ (Fin.C_ (k+1) v1 (⟨Ae,by omega⟩) ⟨⟨_,rfl,AG k⟩,kz⟩ (fun _ _ h=>h))
 have BC:k=(x.chain).length:=by have:=AK h1;omega
 subst BC
 refine ac ?_
 refine ap ?_
 refine Tr.ret (Fin.CY rfl (AQ.cell 2 rfl rfl RR ES rfl Lr) ?_)
 · exact BP ⟨Lr,Lr,Lr,Pr.le_trans (At _ _) (Pr.le_of_eq Pw),trivial⟩
theorem bB {c:Bl} (hx:c.DM.small):A_ prog 210 [agg (FI c)] (agg (FI c)):=by
 refine fo func210 rfl ⟨rfl,rfl⟩ fun M0 w0=>(Tr.seq (Tr.BI ?_))
 refine TO.gL rfl rfl AD rfl Cu (fun b1=> ?_)
 refine Tl rfl rfl rfl rfl z116 Hv (fun b2=> ?_)
 refine ap ?_
 refine ap ?_
 refine tp rfl (CE (MX (x:=c.DM) hx) rfl rfl) ?_
 refine ap ?_
 refine ap ?_
 refine Tr.drop 1 (Tr.ret (Fin.CY rfl (AQ.cell 0 rfl rfl Gr Cg rfl Lr) ?_))
 · exact Lr
theorem Ub {e:CF} (M6:e.small):A_ prog 281 [agg (Bp e)] (agg (Bp e)):=by
 refine fo func281 rfl ⟨rfl,rfl⟩ fun M0 w0=> ?_
 have hs1:=M6.BA
 have Vh:=M6.anchors
 have hs3:=M6.hashes
 have hs4:=M6.Y6
 refine Tr.seq (Tr.BI (tp rfl (Bv rfl Cu) ?_))
 refine Tl rfl rfl rfl rfl IF Fj (fun b1=> ?_)
 refine ao ?_
 refine ao ?_
 refine Tl rfl rfl rfl rfl IF Fj (fun b2=> ?_)
 refine TO.AV 0 rfl rfl rfl vq Cu rfl Bj rfl rfl ?_
 refine ao ?_
 refine Tr.seq (Tr.rx ?_)
 refine ax ?_
 refine xo rfl (fun _=>JL rfl underlying22 BJ IE z3 rfl AD vq N0 Ko) ?_
 refine ax ?_
 refine xo rfl (fun _=>JL rfl underlying22 BJ IE z3 rfl AD vq N0 Ko) ?_
 refine ax ?_
 refine xo rfl (fun _=>JL rfl underlying22 BJ IE z3 rfl AD vq N0 Ko) ?_
 refine xo rfl (fun _=>BU rfl P_ vq) (Cx.C0 0 rfl rfl (Aq rfl rfl vq Ce G0 rfl Am rfl) (xo rfl (fun _=>BU rfl dQ vq) (Cx.C0 0 rfl rfl (Aq rfl rfl vq Ce G0 rfl Am rfl) (xo rfl (fun _=>BU rfl dR vq) (Cx.C0 0 rfl rfl (Aq rfl rfl vq Ce G0 rfl Am rfl) ?_)))))
 refine Cx.nil ⟨by kernel_rfl,?_⟩
 refine BE.done Mk (Fin.go (wk [3,2,1] rfl ?_))
 refine ao ?_
 refine TO.C0 0 rfl rfl (Aq rfl rfl vq Ce l9 rfl Am rfl) ?_
 refine ao ?_
 refine ac ?_
 refine Tr.block (Tr.Iw 0 [str e.name,int e.least,int e.most,ints e.BA,bool e.own,Ag (.slice none 0 0) (slice 4 ((e.ids.take 0).map Ig)),ints e.anchors,ints e.hashes,bool e.OL] rfl ⟨Lr,Lr,Lr,Lr,Lr,Bf rfl,Lr,Lr,Lr,trivial⟩ (Tr.B5 105 4 (Tr.EM _ (kk [22,21,3,2] rfl) (fun k v=>[(23,int ((k:Nat):Int))]) (fun k v=>Hp M0 w0 FG ([Ax 105 4 v,AE true b2 102 [str e.name,int e.least,int e.most,ints e.BA,bool e.own,Ag v (slice 4 ((e.ids.take k).map Ig)),ints e.anchors,ints e.hashes,bool e.OL],AE true b1 102 (([.string (ByteArray.mk #[]),.int .i64 0,.int .i64 0,.slice none 0 0,.bool false,.slice none 0 0,.slice none 0 0,.slice none 0 0,.bool false]:List Value).map is)])) (fun k:Nat=>k≤(e.ids).length) (fun k:Nat=>(e.ids).length-k) 0 (.slice none 0 0) (Nat.zero_le _) kz (fun _ _ h=>h) ?_)))
 rintro k v BN
 refine ac ?_
 refine Tr.seq ?_
 refine Tr.cn rfl ?_ ?_<;>intro h1 q1
 have Ae:k<(e.ids).length:=AJ h1
 obtain ⟨x,Af⟩:=at_ Ae
 have hxs:=M6.ids x (List.mem_of_getElem? Af)
 refine ac ?_
 refine Tr.seq (Tr.block (Tr.seq (Tr.BI (tp rfl (AB rfl underlying100 ES vq vq AA Bk) ?_))))
 refine tp rfl (Al rfl RR ES vq rfl rfl) ?_
 refine Tl rfl rfl rfl rfl z105 Ow (fun b3=> ?_)
 refine sf 0 5 ⟨rfl,rfl,rfl⟩ rfl rfl rfl rfl ?_
 refine ao ?_
 refine Tr.pad (Tr.rx ?_)
 refine ax ?_
 refine xo rfl (fun _=>CE (MX hxs) rfl rfl) (xo rfl (fun _=>Aa (xs:=[.tmp 30]) (rows:=[_]) rfl rfl underlying100 ES z105 rfl AD ⟨⟨Ao,(Va rfl)⟩,trivial⟩ AD) ?_)
 refine Cx.ef 1 rfl rfl AD (B7 rfl rfl rfl rfl underlying100 ES Tv z105 Fo Ea (A7 BD Gi)) ?_
 refine xo rfl (fun _=>BU rfl VN vq) (Cx.C0 2 rfl rfl (GD rfl rfl rfl vq rfl l9 Am) ?_)
 refine Cx.nil ⟨by kernel_rfl,?_⟩
 refine BE.RN 1 2 32 rfl rfl AD rfl (fun v1=> ?_)
 refine BE.done al4 ?_
 refine ac ?_
 refine Tr.drop 0 (wk [23,22,21,3,2] rfl ?_)
 refine ac ?_
 refine Fin.Iw 1 [str e.name,int e.least,int e.most,ints e.BA,bool e.own,Ag v1 (slice 4 ((e.ids.take (k+1)).map Ig)),ints e.anchors,ints e.hashes,bool e.OL] rfl ⟨Lr,Lr,Lr,Lr,Lr,A9 (Sn (f:=Ig) Af),Lr,Lr,Lr,trivial⟩ (Fin.C_ (k+1) v1 (⟨Ae,by omega⟩) ⟨⟨_,rfl,AG k⟩,kz⟩ (fun _ _ h=>h))
 have BC:k=(e.ids).length:=by have:=AK h1;omega
 subst BC
 refine ac ?_
 refine ao ?_
 refine TO.AV 2 rfl rfl rfl vq Cu rfl Bj rfl rfl ?_
 refine ao ?_
 refine Tr.ret (Fin.CY rfl (AQ.cell 2 rfl rfl CK Bj rfl Lr) ?_)
 · exact BP ⟨Lr,Lr,Lr,Lr,Lr,Pr.le_trans (At _ _) (Pr.le_of_eq Pw),Lr,Lr,Lr,trivial⟩
theorem WQ {e:CF} {c:Bl} (M6:e.small) (hcs:c.DM.small):A_ prog 290 [agg (Bp e),agg (FI c)] (int (Yq e c)):=by
 refine fo func290 rfl ⟨rfl,rfl⟩ fun M0 w0=> ?_
 refine ac ?_
 refine ac ?_
 refine co rfl (CE (FR M6) rfl rfl) ?_
 refine ac ?_
 refine Tr.cn rfl ?_ ?_<;>intro h1 q1
 refine ac ?_
 refine ac ?_
 · refine int_eq ?_;unfold Yq;repeat (refine (if_pos ?_).symm;simp_all)
 refine ac ?_
 refine ac ?_
 refine co rfl (CE (jK (c:=c) hcs) rfl rfl) ?_
 refine ac ?_
 refine Tr.cn rfl ?_ ?_<;>intro h2 q2
 refine ac ?_
 refine ac ?_
 · exact ZC
 refine ac ?_
 refine wk [3,2] rfl (Tr.Jn [2,3] [] (¬(c.kind=1∧(c.at_<0∨(e.BA.length:Int)<c.at_))∧¬(c.kind=5∧(c.at_<0∨(e.ids.length:Int)<c.at_))∧¬((c.kind=11∨c.kind=12)∧(c.number≠0∧c.number≠1))) ?_ (fun ALv=> ?_))
 refine ac ?_
 refine ac ?_
 refine Tr.cn rfl ?_ ?_<;>intro h4 q4
 refine ac ?_
 refine Ch.cs 27 rfl ?_ ?_<;>intro h5 q5
 refine ac ?_
 refine wk [34,3,2] rfl ?_
 refine ac ?_
 refine ac ?_
 · exact ZC
 refine ac ?_
 refine wk [34,3,2] rfl ?_
 refine Tr.cn rfl ?_ ?_<;>intro h6 q6
 refine ac ?_
 refine ac ?_
 · exact ZC
 refine Tr.skip (Fin.block (Fin.AL () AA (gN rfl)))
 refine ac ?_
 refine Tr.cn rfl ?_ ?_<;>intro h7 q7
 refine ac ?_
 refine Ch.cs 40 rfl ?_ ?_<;>intro h8 q8
 refine ac ?_
 refine wk [47,3,2] rfl ?_
 refine ac ?_
 refine ac ?_
 · exact Lw
 refine ac ?_
 refine wk [47,3,2] rfl ?_
 refine Tr.cn rfl ?_ ?_<;>intro h9 q9
 refine ac ?_
 refine ac ?_
 · exact Lw
 refine Tr.skip (Fin.block (Fin.AL () AA (gN rfl)))
 refine ac ?_
 refine Tr.cn rfl ?_ ?_<;>intro h10 O2
 refine ac ?_
 refine Tr.cond rfl (fun _=> ?_) (fun h=>nomatch h10.symm.trans h)
 refine ac ?_
 refine Ch.cs 54 rfl ?_ ?_<;>intro h11 Rz
 refine ac ?_
 refine wk [58,3,2] rfl ?_
 refine Tr.cn rfl ?_ ?_<;>intro h12 TN
 refine ac ?_
 refine ac ?_
 · exact Lw
 refine Tr.skip (Fin.block (Fin.AL () AA (gN rfl)))
 refine ac ?_
 refine wk [58,3,2] rfl (Tr.cond rfl (fun h=>nomatch h) (fun _=> ?_))
 refine Tr.skip (Fin.block (Fin.AL () AA (gN rfl)))
 refine ac ?_
 refine Tr.cn rfl ?_ ?_<;>intro J8 Vs
 refine ac ?_
 refine Ch.cs 54 rfl ?_ ?_<;>intro Mi nU
 refine ac ?_
 refine wk [58,3,2] rfl ?_
 refine Tr.cn rfl ?_ ?_<;>intro Wi q15
 refine ac ?_
 refine ac ?_
 · exact Lw
 refine Tr.skip (Fin.block (Fin.AL () AA (gN rfl)))
 refine ac ?_
 refine wk [58,3,2] rfl (Tr.cond rfl (fun h=>nomatch h) (fun _=> ?_))
 refine Tr.skip (Fin.block (Fin.AL () AA (gN rfl)))
 refine Tr.skip (Fin.block (Fin.AL () AA (gN rfl)))
 refine wk [3,2] rfl (Tr.Jn [2,3] [] (¬((Gb e c.kind).2.2=true∧decide (0≤idx (fun y=>c.number==y) (Gb e c.kind).1)=(Gb e c.kind).2.1)) ?_ (fun ALw=> ?_))
 refine ac ?_
 refine co rfl (Bu (YI) rfl rfl rfl) ?_
 refine ac ?_
 refine ac ?_
 refine Ch.cs 68 rfl ?_ ?_<;>intro OD q17
 refine ac ?_
 refine cy OD rfl (Bu (JW) rfl rfl rfl) ?_
 refine ac ?_
 refine wk [76,3,2] rfl ?_
 refine Tr.cn rfl ?_ ?_<;>intro RO q18
 refine ac ?_
 refine ac ?_
 · exact kS
 refine Tr.skip (Fin.AL () B9 (gN rfl))
 refine ac ?_
 refine wk [76,3,2] rfl (Tr.cond rfl (fun h=>nomatch h) (fun _=> ?_))
 refine Tr.skip (Fin.AL () B9 (gN rfl))
 refine wk [3,2] rfl (Tr.Jn [2,3] [] (¬((IA e c.kind).2=true∧(IA e c.kind).1=c.number)) ?_ (fun hval=> ?_))
 refine ac ?_
 refine co rfl (Bu (bA) rfl rfl rfl) ?_
 refine ac ?_
 refine ac ?_
 refine Ch.cs 85 rfl ?_ ?_<;>intro R3 q20
 refine ac ?_
 refine wk [90,3,2] rfl ?_
 refine Tr.cn rfl ?_ ?_<;>intro Zo q21
 refine ac ?_
 refine ac ?_
 · exact kS
 refine Tr.skip (Fin.AL () B9 (gN rfl))
 refine ac ?_
 refine wk [90,3,2] rfl (Tr.cond rfl (fun h=>nomatch h) (fun _=> ?_))
 refine Tr.skip (Fin.AL () B9 (gN rfl))
 refine wk [3,2] rfl (Tr.Jn [2,3] [] (¬(c.kind=5∧0<GN c.DM.CW e.ids)) ?_ (fun ALx=> ?_))
 refine ac ?_
 refine Tr.cn rfl ?_ ?_<;>intro h23 q23
 refine ac ?_
 refine co rfl (Bu (Od M6.Y6) rfl rfl rfl) ?_
 refine ac ?_
 refine wk [10,3,2] rfl ?_
 refine ac ?_
 refine Tr.cn rfl ?_ ?_<;>intro Nw q24
 refine ac ?_
 refine ac ?_
 · exact Lw
 refine Tr.skip (Fin.AL () AA (gN rfl))
 refine Tr.skip (Fin.AL () AA (gN rfl))
 refine ac ?_
 refine Tr.cn rfl ?_ ?_<;>intro h25 q25
 refine ac ?_
 refine co rfl (Bu (Od M6.Y6) rfl rfl rfl) ?_
 refine ac ?_
 refine wk [12] rfl ?_
 refine ac ?_
 refine Tr.cn rfl ?_ ?_<;>intro h26 q26
 refine ac ?_
 refine ac ?_
 · exact Lw
 refine ac ?_
 refine ac ?_
 refine Tr.cn rfl ?_ ?_<;>intro h27 q27
 refine ac ?_
 refine ac ?_
 · exact Lw
 refine ac ?_
 refine ac ?_
 refine ac ?_
 · exact kZ
 refine ac ?_
 refine ac ?_
 refine ac ?_
 · exact kZ
def WR (e:Dg) (c:Bl):Dg×Int:=if (MM e.Bw c).2=0 then (⟨(MM e.Bw c).1,e.BV,e.items⟩,0) else (GK,(MM e.Bw c).2)
def WS (x:Iz) (l:List Bl) (i:Nat):Bool:=(l[i]?).any fun c=>decide (c.AZ=x.client∨c.AZ=x.server)
def PY (x:Iz) (l:List Bl) (k:Nat):List Int:=((List.range k).filter (WS x l)).map fun i:Nat=>(i:Int)
theorem YK {x:Iz} {l:List Bl} (h:WS x l k=true):PY x l (k+1)=PY x l k++[(k:Int)]:=by unfold PY;rw [List.range_succ,List.filter_append,List.map_append];simp [h]
theorem xO {x:Iz} {l:List Bl} (h:WS x l k=false):PY x l (k+1)=PY x l k:=by unfold PY;rw [List.range_succ,List.filter_append,List.map_append];simp [h]
theorem q_ (x:Iz) (l:List Bl) (k:Nat):(PY x l k).length≤k:=by unfold PY;rw [List.length_map];exact Nat.le_trans (List.length_filter_le _ _) (by rw [List.length_range];exact Nat.le_refl _)
def J1 (e:Dg) (l:List Bl) (k:Int):List Int×Int:=
 if FU e=false then ([],31) else if 24<l.length then ([],3) else if k<0∨((e.BV.length:Nat):Int)≤k then ([],4)
 else (PY (e.BV[k.toNat]?.getD HN) l l.length,0)
theorem AKM {e e2:CF} {c b:Bl} (h:c.kind=1) (hs:CD e c= .ok (e2,b)):(0≤c.at_∧c.at_≤(e.BA.length:Nat))∧e2={ e with BA:=e.BA.take c.at_.toNat++[c.number]++e.BA.drop c.at_.toNat }∧b=⟨c.AZ,2,c.number,0,B6⟩:=by grind [QJ]
theorem AKN {e e2:CF} {c b:Bl} (h:c.kind=2) (hs:CD e c= .ok (e2,b)):(0≤NO e c)∧e2={ e with BA:=e.BA.eraseIdx (NO e c).toNat }∧b=⟨c.AZ,1,c.number,NO e c,B6⟩:=by grind [QK]
theorem AKO {e e2:CF} {c b:Bl} (h:c.kind=3) (hs:CD e c= .ok (e2,b)):e2={ e with most:=c.number }∧b=⟨c.AZ,c.kind,e.most,0,B6⟩:=by grind [QL]
theorem AKP {e e2:CF} {c b:Bl} (h:c.kind=4) (hs:CD e c= .ok (e2,b)):e2={ e with least:=c.number }∧b=⟨c.AZ,c.kind,e.least,0,B6⟩:=by grind [QM]
theorem AKQ {e e2:CF} {c b:Bl} (h:c.kind=5) (hs:CD e c= .ok (e2,b)):(0≤c.at_∧c.at_≤(e.ids.length:Nat))∧e2={ e with ids:=e.ids.take c.at_.toNat++[c.DM]++e.ids.drop c.at_.toNat }∧b=⟨c.AZ,6,c.DM.CW,0,B6⟩:=by grind [QN]
theorem AKR {e e2:CF} {c b:Bl} (h:c.kind=6) (hs:CD e c= .ok (e2,b)):∃x,e.ids[(Bs c.number e.ids).toNat]? =some x∧0≤Bs c.number e.ids∧e2={ e with ids:=e.ids.eraseIdx (Bs c.number e.ids).toNat }∧b=⟨c.AZ,5,0,Bs c.number e.ids,x⟩:=by grind [QO]
theorem AKS {e e2:CF} {c b:Bl} (h:c.kind=7) (hs:CD e c= .ok (e2,b)):Gk e.anchors c.number=false∧e2={ e with anchors:=Zp e.anchors c.number }∧b=⟨c.AZ,8,c.number,0,B6⟩:=by grind [QS]
theorem AKT {e e2:CF} {c b:Bl} (h:c.kind=8) (hs:CD e c= .ok (e2,b)):Gk e.anchors c.number=true∧e2={ e with anchors:=e.anchors.eraseIdx (E7 e.anchors c.number) }∧b=⟨c.AZ,7,c.number,0,B6⟩:=by grind [QT]
theorem AKU {e e2:CF} {c b:Bl} (h:c.kind=9) (hs:CD e c= .ok (e2,b)):Gk e.hashes c.number=false∧e2={ e with hashes:=Zp e.hashes c.number }∧b=⟨c.AZ,10,c.number,0,B6⟩:=by grind [QU]
theorem AGS {e e2:CF} {c b:Bl} (h:c.kind=10) (hs:CD e c= .ok (e2,b)):Gk e.hashes c.number=true∧e2={ e with hashes:=e.hashes.eraseIdx (E7 e.hashes c.number) }∧b=⟨c.AZ,9,c.number,0,B6⟩:=by grind [NP]
theorem AGT {e e2:CF} {c b:Bl} (h:c.kind=11) (hs:CD e c= .ok (e2,b)):e2={ e with OL:=(c.number==1) }∧b=⟨c.AZ,c.kind,NN e.OL,0,B6⟩:=by grind [NQ]
theorem AGU {e e2:CF} {c b:Bl} (h:c.kind=12) (hs:CD e c= .ok (e2,b)):e2={ e with own:=(c.number==1) }∧b=⟨c.AZ,c.kind,NN e.own,0,B6⟩:=by grind [NR]
theorem xP {e:CF} {c:Bl} (h:0≤NO e c):(NO e c).toNat<e.BA.length:=by obtain ⟨_,_,_,h3⟩:=QG (p:=fun y=>c.number==y) (l:=e.BA) h;exact h3
theorem jL {e e2:CF} {c b:Bl} (M6:e.small) (hcs:c.DM.small) (hce:Gt e=true) (hc:Jl c) (hs:CD e c= .ok (e2,b)):A_ prog 291 [agg (Bp e),agg (FI c)] (agg (Bp e2)):=by
 refine fo func291 rfl ⟨rfl,rfl⟩ fun M0 w0=> ?_
 have hk:=hc.1
 have ok:=DN.1 hce
 have hs1:=M6.BA
 have Vh:=M6.anchors
 have hs3:=M6.hashes
 have hs4:=M6.Y6
 refine Tr.seq (Tr.BI (tp rfl (Bv rfl Cu) (tp rfl (Bv rfl Cu) ?_)))
 refine Tl rfl rfl rfl rfl IF Fj (fun b1=> ?_)
 refine ap ?_
 refine ap ?_
 refine tp rfl (CE (Ub M6) rfl rfl) ?_
 refine Tl rfl rfl rfl rfl IF Fj (fun b2=> ?_)
 refine ap ?_
 refine ac ?_
 refine an ?_ ?_<;>intro h1 q1
 obtain ⟨hr,rfl,rfl⟩:=AKM q1 hs
 refine ap ?_
 refine tp rfl (AY rfl (Oe (l:=e.BA) (i:=c.at_.toNat) AA hs1) ⟨kq,⟨_,rfl,int_eq AA⟩,kz⟩) ?_
 refine ap ?_
 refine wk [5,4] rfl ?_
 refine ap ?_
 refine Tr.drop 0 (Tr.ret (Fin.CY rfl (AQ.cell 0 rfl rfl CK Bj rfl Lr) ?_))
 · exact Lr
 refine ac ?_
 refine wk [24,13,5,4,3,2] rfl ?_
 refine Tr.cn rfl ?_ ?_<;>intro h2 q2
 obtain ⟨hr,rfl,rfl⟩:=AKN q2 hs
 refine Tr.rx ?_
 refine ay ?_
 refine xo rfl (fun _=>Bu (JW) rfl rfl rfl) ?_
 refine xo rfl (fun _=>AY rfl (JX (l:=e.BA) (i:=(NO e c).toNat) (xP hr) hs1) ⟨kq,⟨_,rfl,int_eq (show NO e c=_ by omega)⟩,trivial⟩) ?_
 refine ay ?_
 refine Cx.nil ⟨by kernel_rfl,?_⟩
 refine BE.done Mk ?_
 refine ac ?_
 refine wk [5,4] rfl ?_
 refine ap ?_
 refine Tr.drop 0 (Tr.ret (Fin.CY rfl (AQ.cell 0 rfl rfl CK Bj rfl Lr) ?_))
 · exact Lr
 refine an ?_ ?_<;>intro h3 q3
 obtain ⟨rfl,rfl⟩:=AKO q3 hs
 refine ap ?_
 refine ap ?_
 refine Tr.drop 0 (Tr.ret (Fin.CY rfl (AQ.cell 0 rfl rfl CK Bj rfl Lr) ?_))
 · exact Lr
 refine an ?_ ?_<;>intro h4 q4
 obtain ⟨rfl,rfl⟩:=AKP q4 hs
 refine ap ?_
 refine ap ?_
 refine Tr.drop 0 (wk [4] rfl (Tr.ret (Fin.CY rfl (AQ.cell 0 rfl rfl CK Bj rfl Lr) ?_)))
 · exact Lr
 refine an ?_ ?_<;>intro h5 q5
 obtain ⟨hr,rfl,rfl⟩:=AKQ q5 hs
 refine ap ?_
 refine tp rfl (Dr rfl underlying100 ES vq vq AA Bz) ?_
 refine TO.pad ?_
 refine TO.C1 0 rfl rfl AD (DK rfl rfl AD rfl underlying100 ES Tv z105 rfl AD ⟨_,rfl,AM _⟩ vq Jx Jz (Bc BD ⟨_,rfl,Dh 1⟩)) (fun v1=> ?_)
 refine ap ?_
 refine wk [6,5,4,3] rfl ?_
 refine ap ?_
 refine tp rfl (CE (MX hcs) rfl rfl) (tp rfl (Aa (xs:=[.tmp 56]) (rows:=[_]) rfl rfl underlying100 ES z105 rfl AD ⟨⟨Ao,(Va rfl)⟩,trivial⟩ AD) ?_)
 refine TO.C1 0 rfl rfl AD (B7 rfl rfl rfl rfl underlying100 ES Tv z105 Fo Ea (A7 BD Gi)) (fun v2=> ?_)
 refine ap ?_
 refine ap ?_
 refine tp rfl (Cs rfl underlying100 ES vq vq AA Bz) ?_
 refine TO.C1 0 rfl rfl AD (B7 rfl rfl rfl rfl underlying100 ES Tv z105 Fo vq (A7 BD Gi)) (fun v3=> ?_)
 refine ap ?_
 refine wk [5,4] rfl ?_
 refine ap ?_
 refine Tr.drop 1 (Tr.ret (Fin.CY rfl (AQ.cell 1 rfl rfl CK Bj rfl Lr) ?_))
 · exact BP ⟨Lr,Lr,Lr,Lr,Lr,Pr.le_trans (At _ _) (Pr.le_of_eq (by show _=slice 4 ((e.ids.take c.at_.toNat++[c.DM]++e.ids.drop c.at_.toNat).map Ig);simp [List.map_take,List.map_drop])),Lr,Lr,Lr,trivial⟩
 refine ac ?_
 refine wk [67,13,5,4,3,2] rfl ?_
 refine Tr.cn rfl ?_ ?_<;>intro h6 q6
 obtain ⟨x_,hx_,hr,rfl,rfl⟩:=AKR q6 hs
 have hlt:=BZ hx_
 refine ac ?_
 refine co rfl (Bu (Od hs4) rfl rfl rfl) ?_
 refine ac ?_
 refine wk [8,5,4] rfl ?_
 refine ap ?_
 refine tp rfl (Dr rfl underlying100 ES vq vq AA Bz) ?_
 refine TO.pad ?_
 refine TO.C1 0 rfl rfl AD (DK rfl rfl AD rfl underlying100 ES Tv z105 rfl AD ⟨_,rfl,AM _⟩ vq Jx Jz (Bc BD ⟨_,rfl,Dh 1⟩)) (fun v4=> ?_)
 refine ap ?_
 refine ap ?_
 refine tp rfl (Cs rfl underlying100 ES vq vq AA Bz) ?_
 refine TO.C1 0 rfl rfl AD (B7 rfl rfl rfl rfl underlying100 ES Tv z105 Fo vq (A7 BD Gi)) (fun v5=> ?_)
 refine ap ?_
 refine wk [5,4] rfl ?_
 refine ap ?_
 refine Tr.drop 1 (Tr.ret (Fin.CY rfl (AQ.cell 1 rfl rfl CK Bj rfl Lr) ?_))
 · exact BP ⟨Lr,Lr,Lr,Lr,Lr,Pr.le_trans (At _ _) (Pr.le_of_eq (by show _=slice 4 ((e.ids.eraseIdx (Bs c.number e.ids).toNat).map Ig);rw [List.eraseIdx_eq_take_drop_succ,show (Bs c.number e.ids+1).toNat=(Bs c.number e.ids).toNat+1 by omega];simp [List.map_take,List.map_drop])),Lr,Lr,Lr,trivial⟩
 refine an ?_ ?_<;>intro h7 q7
 obtain ⟨hr,rfl,rfl⟩:=AKS q7 hs
 refine ap ?_
 refine tp rfl (Bu (PK Vh) rfl rfl rfl) ?_
 refine ap ?_
 refine wk [5,4] rfl ?_
 refine ap ?_
 refine Tr.drop 0 (Tr.ret (Fin.CY rfl (AQ.cell 0 rfl rfl CK Bj rfl Lr) ?_))
 · exact Lr
 refine an ?_ ?_<;>intro h8 q8
 obtain ⟨hr,rfl,rfl⟩:=AKT q8 hs
 refine Tr.rx ?_
 refine ay ?_
 refine xo rfl (fun _=>Bu (JW) rfl rfl rfl) ?_
 refine xo rfl (fun _=>AY rfl (JX (l:=e.anchors) (i:=E7 e.anchors c.number) (Vr hr) Vh) ⟨kq,⟨_,rfl,int_eq (by rw [WO (QI ok.anc),if_pos hr])⟩,trivial⟩) ?_
 refine ay ?_
 refine Cx.nil ⟨by kernel_rfl,?_⟩
 refine BE.done Mk ?_
 refine ac ?_
 refine wk [5,4] rfl ?_
 refine ap ?_
 refine Tr.drop 0 (Tr.ret (Fin.CY rfl (AQ.cell 0 rfl rfl CK Bj rfl Lr) ?_))
 · exact Lr
 refine an ?_ ?_<;>intro h9 q9
 obtain ⟨hr,rfl,rfl⟩:=AKU q9 hs
 refine ap ?_
 refine tp rfl (Bu (PK hs3) rfl rfl rfl) ?_
 refine ap ?_
 refine wk [5,4] rfl ?_
 refine ap ?_
 refine Tr.drop 0 (Tr.ret (Fin.CY rfl (AQ.cell 0 rfl rfl CK Bj rfl Lr) ?_))
 · exact Lr
 refine ac ?_
 refine wk [116,13,5,4,3,2] rfl ?_
 refine Tr.cn rfl ?_ ?_<;>intro h10 O2
 obtain ⟨hr,rfl,rfl⟩:=AGS O2 hs
 refine Tr.rx ?_
 refine ay ?_
 refine xo rfl (fun _=>Bu (JW) rfl rfl rfl) ?_
 refine xo rfl (fun _=>AY rfl (JX (l:=e.hashes) (i:=E7 e.hashes c.number) (Vr hr) hs3) ⟨kq,⟨_,rfl,int_eq (by rw [WO (QI ok.hash),if_pos hr])⟩,trivial⟩) ?_
 refine ay ?_
 refine Cx.nil ⟨by kernel_rfl,?_⟩
 refine BE.done Mk ?_
 refine ac ?_
 refine wk [5,4] rfl ?_
 refine ap ?_
 refine Tr.drop 0 (Tr.ret (Fin.CY rfl (AQ.cell 0 rfl rfl CK Bj rfl Lr) ?_))
 · exact Lr
 refine an ?_ ?_<;>intro h11 Rz
 obtain ⟨rfl,rfl⟩:=AGT Rz hs
 refine ap ?_
 refine ap ?_
 refine Tr.drop 0 (Tr.ret (Fin.CY rfl (AQ.cell 0 rfl rfl CK Bj rfl Lr) ?_))
 · exact Lr
 refine an ?_ ?_<;>intro h12 TN
 obtain ⟨rfl,rfl⟩:=AGU TN hs
 refine ap ?_
 refine wk [5,4] rfl ?_
 refine ap ?_
 refine Tr.drop 0 (Tr.ret (Fin.CY rfl (AQ.cell 0 rfl rfl CK Bj rfl Lr) ?_))
 · exact Lr
 exfalso;omega
theorem bC {e:CF} {c:Bl} (hz:e.sz n) (hn:n≤900000) (hi:c.DM.fits∧c.DM.small):A_ prog 282 [agg (Bp e),agg (FI c)] (DW [agg (Bp (ET e c).1),int (ET e c).2.2]):=by
 refine fo func282 rfl ⟨rfl,rfl⟩ fun M0 w0=> ?_
 have M6:=hz.small AA
 have hcs:=hi.2
 refine Tr.seq (Tr.BI (tp rfl (Bv rfl Cu) (tp rfl (Bv rfl Cu) ?_)))
 refine Tl rfl rfl rfl rfl IF Fj (fun b1=> ?_)
 refine ao ?_
 refine ac ?_
 refine co rfl (Bu (WQ M6 hcs) rfl rfl rfl) ?_
 refine ac ?_
 refine an ?_ ?_<;>intro h1 q1
 have hb:=xN q1
 refine ao ?_
 refine TO.AV 0 rfl rfl rfl vq Cu rfl Bj rfl rfl ?_
 refine ao ?_
 refine wk [5,4] rfl (Tr.ret (Fin.AF (Fin.BW rfl (AQ.cell 0 rfl rfl CK Bj rfl Lr) (AQ.tmp rfl Lr) ?_)))
 refine BK ⟨?_,?_,trivial⟩
 · exact cA
 · exact int_eq (by rw [hb])
 obtain ⟨hce,hc,e2,b,hs⟩:=ABs (e:=e) (c:=c) (by have:=q1;omega)
 have AKV:=(eU hc hs hz hi).1.small AA
 refine ac ?_
 refine ao ?_
 refine tp rfl (Bu (jL M6 hcs hce hc hs) rfl rfl rfl) ?_
 refine Tl rfl rfl rfl rfl IF Fj (fun b2=> ?_)
 refine sf 0 7 ⟨rfl,rfl,rfl⟩ rfl rfl rfl rfl ?_
 refine ao ?_
 refine wk [7,4] rfl ?_
 refine ac ?_
 refine co rfl (CE (FR AKV) rfl rfl) ?_
 refine an ?_ ?_<;>intro h2 q2
 have hb:=vW hce hc hs (by have:=q2;cases h_:Gt e2<;>simp_all)
 refine ao ?_
 refine TO.AV 0 rfl rfl rfl vq Cu rfl Bj rfl rfl ?_
 refine ao ?_
 refine Tr.ret (Fin.AF (Fin.BW rfl (AQ.cell 0 rfl rfl CK Bj rfl Lr) (AQ.tmp rfl Lr) ?_))
 refine BK ⟨?_,?_,trivial⟩
 · exact cA
 · exact int_eq (by rw [hb])
 have hb:=nR hce hc hs (by have:=q2;cases h_:Gt e2<;>simp_all)
 refine ac ?_
 refine ao ?_
 refine TO.AV 0 rfl rfl rfl vq Cu rfl Bj rfl rfl ?_
 refine ao ?_
 refine Tr.ret (Fin.BW rfl (AQ.cell 0 rfl rfl CK Bj rfl Lr) (AQ.tmp rfl Lr) ?_)
 refine BK ⟨?_,?_,trivial⟩
 · rw [hb];exact Lr
 · exact int_eq (by rw [hb])
theorem So {e:Dg} (hz:e.sz n) (hn:n≤1000000):Vg prog 266 [agg (CJ e)] (fun x=>agg [is x,Ij e.BV,R8 e.items]) (fun x=>[CX 102 9 (e.Bw.map Bp) x]):=by
 refine Vg.of func266 rfl rfl Am fun M0 w0 S rs M1 w1=> ?_
 have hl1:=hz.le
 have hl2:=hz.lg
 have hl3:=hz.li
 refine Tr.seq (Tr.BI (tp rfl (Bv rfl (Va rfl)) ?_))
 refine Tl rfl rfl rfl rfl z31 Ic (fun b1=> ?_)
 refine ao ?_
 refine ao ?_
 refine tp rfl (JL rfl underlying28 FO yU z109 rfl AD (vl rfl) k7 bh) ?_
 refine tp rfl (oD) ?_
 refine Tl rfl rfl rfl rfl z31 Ic (fun b2=> ?_)
 refine TO.AV 0 rfl rfl rfl (vl rfl) (Va rfl) rfl Fi rfl rfl ?_
 refine ao ?_
 refine ac ?_
 refine Tr.block (Tr.Iw 0 [Ag (.slice none 0 0) (lens ((e.Bw.take 0).map Bp).length),Ij e.BV,is (.slice none 0 0)] rfl ⟨NH rfl,Lr,Lr,trivial⟩ (Tr.Rh 102 9 (Tr.EM _ (kk [14,13,3,2,1] rfl) (fun k v=>[(15,int ((k:Nat):Int))]) (fun k v=>Hp M0 w0 S (BX 102 9 ((e.Bw.take k).map Bp) v::AE true b2 31 [Ag v (lens ((e.Bw.take k).map Bp).length),Ij e.BV,is (.slice none 0 0)]::AE true b1 31 (([.slice none 0 0,.slice none 0 0,.slice none 0 0]:List Value).map is)::Ac M1 w1::rs)) (fun k:Nat=>k≤(e.Bw).length) (fun k:Nat=>(e.Bw).length-k) 0 (.slice none 0 0) (Nat.zero_le _) kz (fun _ _ h=>h) ?_)))
 rintro k v BN
 refine ac ?_
 refine Tr.seq ?_
 refine Tr.cn rfl ?_ ?_<;>intro h1 q1
 have Ae:k<(e.Bw).length:=AJ h1
 obtain ⟨x,Af⟩:=at_ Ae
 have hxs:=(hz.Bw x (List.mem_of_getElem? Af)).small hn
 refine ac ?_
 refine Tr.seq (Tr.block (Tr.seq (Tr.BI (tp rfl (AB rfl underlying27 Bj (vl rfl) (vl rfl) AA Bk) ?_))))
 refine tp rfl (Al rfl CK Bj (vl rfl) rfl rfl) ?_
 refine Tl rfl rfl rfl rfl IF Fj (fun b3=> ?_)
 refine sf 0 5 ⟨rfl,rfl,rfl⟩ rfl rfl rfl rfl ?_
 refine ao ?_
 refine Tr.pad (Tr.rx ?_)
 refine ax ?_
 refine xo rfl (fun _=>CE (Ub hxs) rfl rfl) (xo rfl (fun _=>Aa (xs:=[.tmp 22]) (rows:=[_]) rfl rfl underlying27 Bj IF rfl AD ⟨⟨Ao,(Va rfl)⟩,trivial⟩ AD) ?_)
 refine Cx.ef 1 rfl rfl AD (Ex rfl rfl AD rfl underlying27 Bj mA IF rfl AD AD (vl rfl) (Kf rfl) (Bh fun _=>rfl) (Nat.zero_lt_succ _) (by simp only [List.length_map,List.length_take,List.length_cons,List.length_nil];unfold maxLen;omega) (by simp only [List.length_map,List.length_take,List.length_cons,List.length_nil];omega)) ?_
 refine xo rfl (fun _=>BU rfl RP (vl rfl)) (Cx.C0 2 rfl rfl (GD rfl rfl rfl (vl rfl) rfl ADi Am) ?_)
 refine Cx.nil ⟨by kernel_rfl,?_⟩
 refine BE.RN 1 2 24 rfl rfl AD rfl (fun v1=> ?_)
 refine BE.done al5 ?_
 refine ac ?_
 refine Tr.drop 0 (wk [15,14,13,3,2,1] rfl ?_)
 refine ac ?_
 refine Fin.Iw 1 [Ag v1 (lens ((e.Bw.take (k+1)).map Bp).length),Ij e.BV,is (.slice none 0 0)] rfl ⟨Ci (by simp only [List.length_map,List.length_append,List.length_take,List.length_cons,List.length_nil];omega),Lr,Lr,trivial⟩ ?_
 rw [zA (f:=Bp) Af]
 exact Fin.C_ (k+1) v1 (⟨Ae,by omega⟩) ⟨⟨_,rfl,AG k⟩,kz⟩ (fun _ _ h=>h)
 have BC:k=(e.Bw).length:=by have:=AK h1;omega
 subst BC
 rw [List.take_length]
 refine a2 ?_
 refine Tr.block (Tr.Iw 1 [Ag v (lens (e.Bw.map Bp).length),Ij e.BV,Ag (.slice none 0 0) (R8 (e.items.take 0))] rfl ⟨Lr,Lr,Bf rfl,trivial⟩ (Tr.B5 112 5 (Tr.EM _ (kk [29,28,3,2] rfl) (fun m u=>[(30,int ((m:Nat):Int))]) (fun m u=>Hp M0 w0 S (Ax 112 5 u::BX 102 9 (e.Bw.map Bp) v::AE true b2 31 [Ag v (lens (e.Bw.map Bp).length),Ij e.BV,Ag u (R8 (e.items.take m))]::AE true b1 31 (([.slice none 0 0,.slice none 0 0,.slice none 0 0]:List Value).map is)::Ac M1 w1::rs)) (fun m:Nat=>m≤(e.items).length) (fun m:Nat=>(e.items).length-m) 0 (.slice none 0 0) (Nat.zero_le _) kz (fun _ _ h=>h) ?_)))
 rintro m u KM
 refine ac ?_
 refine Tr.seq ?_
 refine Tr.cn rfl ?_ ?_<;>intro h2 q2
 have Du:m<(e.items).length:=AJ h2
 obtain ⟨y,Dn⟩:=at_ Du
 have NF:=(hz.items y (List.mem_of_getElem? Dn)).2
 refine ac ?_
 refine Tr.seq (Tr.block (Tr.seq (Tr.BI (tp rfl (AB rfl underlying29 Hu (vl rfl) (vl rfl) AA Bk) ?_))))
 refine tp rfl (Al rfl VO Hu (vl rfl) rfl rfl) ?_
 refine Tl rfl rfl rfl rfl VP XC (fun b4=> ?_)
 refine TO.AV 0 rfl rfl rfl (vl rfl) (Va rfl) rfl Hu rfl rfl ?_
 refine ao ?_
 refine ao ?_
 refine tp rfl (JL rfl underlying110 J_ yX AAS rfl AD (vl rfl) k7 bh) ?_
 refine tp rfl (BU rfl VQ (vl rfl)) (TO.C0 0 rfl rfl (Aq rfl rfl (vl rfl) (Vo rfl) yV rfl Am rfl) ?_)
 refine ao ?_
 refine wk [30,29,28,7,3,2] rfl ?_
 refine ao ?_
 refine TO.C1 1 rfl rfl AD (B7 rfl rfl rfl rfl underlying29 Hu mB VP (Kb rfl) (Kf rfl) (A7 BD (Ka rfl))) (fun v2=> ?_)
 refine tp rfl (BU rfl VM (vl rfl)) (TO.C0 3 rfl rfl (Aq rfl rfl (vl rfl) (Vo rfl) zj rfl Am rfl) ?_)
 refine ao ?_
 refine Tr.drop 0 ?_
 refine ac ?_
 refine Fin.Iw 2 [Ag v (lens (e.Bw.map Bp).length),Ij e.BV,Ag v2 (R8 (e.items.take (m+1)))] rfl ⟨Lr,Lr,A9 (zA (f:=eN) Dn),trivial⟩ (Fin.C_ (m+1) v2 (⟨Du,by omega⟩) ⟨⟨_,rfl,AG m⟩,kz⟩ (fun _ _ h=>h))
 have Il:m=(e.items).length:=by have:=AK h2;omega
 subst Il
 refine ac ?_
 refine ao ?_
 refine TO.AV 3 rfl rfl rfl (vl rfl) (Va rfl) rfl Fi rfl rfl ?_
 refine ao ?_
 refine Tr.ret (Fin.R_ 1 rfl (Fin.drop 0 (Fin.drop 1 (Fin.Zi (Fin.AEj v [_] rfl (AQ.cell 0 rfl rfl Gf Fi rfl Lr) ?_ (List.Perm.refl _))))))
 · exact BP ⟨HE _ _,Lr,Pr.le_trans (At _ _) (Pr.le_of_eq Pw),trivial⟩
theorem Uw {e:Dg} {c:Bl} (h:c.AZ<0∨((e.Bw.length:Nat):Int)≤c.AZ):WR e c=(GK,40):=by unfold WR;rw [vw h];rfl
theorem ABt {e:Dg} {c:Bl} {x:CF} (h:¬(c.AZ<0∨((e.Bw.length:Nat):Int)≤c.AZ)) (hx:e.Bw[c.AZ.toNat]? =some x):WR e c=if (ET x c).2.2=0 then (⟨e.Bw.set c.AZ.toNat (ET x c).1,e.BV,e.items⟩,0) else (GK,(ET x c).2.2):=by grind [WR,ABA,ET]
theorem bD {e:Dg} {c:Bl} (hz:e.sz n) (hi:c.DM.fits∧c.DM.small) (h:(WR e c).2=0):(WR e c).1.sz (n+1)∧WR e c=(⟨(MM e.Bw c).1,e.BV,e.items⟩,0):=by
 have h0:(MM e.Bw c).2=0:=by
  by_cases h0:(MM e.Bw c).2=0
  · exact h0
  · unfold WR at h;rw [if_neg h0] at h;exact h
 have h1:WR e c=(⟨(MM e.Bw c).1,e.BV,e.items⟩,0):=by unfold WR;rw [if_pos h0]
 rw [h1]
 exact ⟨⟨oH hz.Bw hi,hz.items,by show (MM e.Bw c).1.length≤_;rw [eV];exact hz.le,hz.lg,hz.li⟩,rfl⟩
theorem xQ {e:Dg} {c:Bl} (h:¬(WR e c).2=0):¬(MM e.Bw c).2=0∧(WR e c).2=(MM e.Bw c).2∧(WR e c).1=GK:=by grind [WR]
theorem jM {e:Dg} {c:Bl} (hz:e.sz n) (hn:n≤900000) (hci:c.DM.fits∧c.DM.small):A_ prog 267 [agg (CJ e),agg (FI c)] (DW [agg (CJ (WR e c).1),int (WR e c).2]):=by
 refine fo func267 rfl ⟨rfl,rfl⟩ fun M0 w0=> ?_
 have ALy:=hz.le
 refine Tr.seq (Tr.BI (tp rfl (Bv rfl Cu) (tp rfl (Bv rfl Cu) ?_)))
 refine Tl rfl rfl rfl rfl z31 Ic (fun b1=> ?_)
 refine ao ?_
 refine ag ?_ ?_<;>intro h1 q1
 refine ac ?_
 refine wk [19,4,3,2] rfl (Tr.cond rfl (fun _=> ?_) (fun h=>nomatch h))
 refine Tr.seq (Tr.BI (tp rfl (Au (rows:=[]) rfl ADk Ic trivial rfl) (TO.AV 0 rfl rfl rfl vq Cu rfl Fi rfl rfl ?_)))
 refine ao ?_
 refine Tr.ret (Fin.AF (Fin.BW rfl (AQ.cell 0 rfl rfl Gf Fi rfl Lr) (AQ.tmp rfl Lr) ?_))
 refine BK ⟨?_,?_,trivial⟩
 · exact bu
 · exact int_eq (by rw [Uw (e:=e) (c:=c) AA])
 refine ac ?_
 refine wk [19,4,3,2] rfl ?_
 refine Tr.cn rfl ?_ ?_<;>intro h2 q2
 refine ao ?_
 refine TO.AV 0 rfl rfl rfl vq Cu rfl Fi rfl rfl ?_
 refine ao ?_
 refine Tr.ret (Fin.AF (Fin.BW rfl (AQ.cell 0 rfl rfl Gf Fi rfl Lr) (AQ.tmp rfl Lr) ?_))
 refine BK ⟨?_,?_,trivial⟩
 · exact bu
 · exact int_eq (by rw [Uw (e:=e) (c:=c) AA])
 obtain ⟨x,hx⟩:=at_ (l:=e.Bw) (k:=c.AZ.toNat) AA
 have hA:=ABt (e:=e) (c:=c) AA hx
 have hlt:=BZ hx
 refine ac ?_
 refine Tr.seq (Tr.pad (Tr.rx ?_))
 refine ax ?_
 refine xo rfl (fun _=>AB rfl underlying27 Bj vq vq AA (Be (f:=Bp) hx)) ?_
 refine ax ?_
 refine xo rfl (fun _=>Bu (bC (hz.Bw x (List.mem_of_getElem? hx)) AA hci) rfl rfl rfl) ?_
 refine ax ?_
 refine Cx.ef 0 rfl rfl AD (Ca rfl rfl AD rfl IF Fj) (Cx.C0 0 rfl rfl (C2 rfl rfl rfl rfl Cu Bj rfl rfl) (xm rfl ?_))
 refine Cx.nil ⟨by kernel_rfl,?_⟩
 refine BE.open_ 0 6 rfl rfl (fun v1=> ?_)
 refine BE.done Mk (Fin.Mh 6 0 _ rfl rfl (fun _=>rfl) (fun b2=> ?_))
 refine Fin.go (wk [7,6,4,3,2] rfl ?_)
 refine an ?_ ?_<;>intro h3 q3
 rw [if_neg (by have:=q3;omega)] at hA
 refine ao ?_
 refine TO.AV 1 rfl rfl rfl vq Cu rfl Fi rfl rfl ?_
 refine ao ?_
 refine Tr.drop 0 (Tr.ret (Fin.AF (Fin.BW rfl (AQ.cell 0 rfl rfl Gf Fi rfl Lr) (AQ.tmp rfl Lr) ?_)))
 refine BK ⟨?_,?_,trivial⟩
 · exact Q0
 · exact GQ
 rw [if_pos (by have:=q3;omega)] at hA
 refine ac ?_
 refine ao ?_
 refine TO.mj rfl rfl AD rfl (So hz AA) kz (fun v2=> ?_)
 refine Tl rfl rfl rfl rfl z31 Ic (fun b3=> ?_)
 refine TO.AV 0 rfl rfl rfl vq Cu rfl Fi rfl rfl ?_
 refine ao ?_
 refine ao ?_
 refine tp rfl (Bi 1 rfl (Zh rfl underlying27 Bj vq vq AA F8)) ?_
 refine TO.C0 1 rfl rfl (Ru rfl rfl vq Cu Bj rfl (Bh fun _=>rfl) U5 AD (show _=(e.Bw.set c.AZ.toNat (ET x c).1).map Bp by rw [List.map_set];rfl)) ?_
 refine ao ?_
 refine Tr.drop 2 (wk [8,4] rfl (Tr.seq (Tr.NL 0 1 0 rfl rfl AD rfl Lr (Bh fun _=>rfl) ?_)))
 refine ao ?_
 refine TO.AV 2 rfl rfl rfl vq Cu rfl Fi rfl rfl ?_
 refine ao ?_
 refine Tr.drop 1 (Tr.ret (Fin.BW rfl (AQ.cell 1 rfl rfl Gf Fi rfl Lr) (AQ.tmp rfl Lr) ?_))
 refine BK ⟨?_,?_,trivial⟩
 · rw [hA];exact Lr
 · exact GQ
theorem Sq {e:Dg} {l:List Bl} (hz:e.sz n) (hn:n≤800000) (hc:∀c∈l,c.DM.fits∧c.DM.small):A_ prog 219 [agg (CJ e),slice 8 (l.map FI),ints s] (DW [agg (CJ (V4 e l s).1),int (V4 e l s).2]):=by
 refine fo func219 rfl ⟨rfl,rfl⟩ fun M0 w0=>(Tr.CN 1 rfl fun Fq=>(Tr.CN 2 rfl fun n7=>(Tr.seq (Tr.BI (tp rfl (Bv rfl Cu) ?_)))))
 refine Tl rfl rfl rfl rfl z31 Ic (fun b1=> ?_)
 refine ap ?_
 refine ac ?_
 refine co rfl (CE (Dv (hz.fits AA)) rfl rfl) ?_
 refine an ?_ ?_<;>intro h1 q1
 have hA:V4 e l s=(GK,31):=if_pos (by have:=q1;cases h_:FU e<;>simp_all)
 refine ap ?_
 refine Tr.ret (Fin.AF (Fin.BW rfl (AQ.cell 0 rfl rfl Gf Fi rfl Lr) (AQ.tmp rfl Lr) ?_))
 refine BK ⟨?_,?_,trivial⟩
 · exact Q0
 · exact GQ
 have hok:FU e=true:=by have:=q1;cases h_:FU e<;>simp_all
 refine ac ?_
 refine an ?_ ?_<;>intro h2 q2
 have hA:V4 e l s=(GK,3):=by unfold V4;rw [if_neg Ks,if_pos (by have:=q2;omega)]
 refine ap ?_
 refine Tr.ret (Fin.AF (Fin.BW rfl (AQ.cell 0 rfl rfl Gf Fi rfl Lr) (AQ.tmp rfl Lr) ?_))
 refine BK ⟨?_,?_,trivial⟩
 · exact Q0
 · exact GQ
 have AKW:l.length≤24:=by have:=q2;omega
 refine a2 ?_
 refine co rfl (Bu (MJ (l:=s) (n:=((l.length:Nat):Int))) rfl rfl rfl) ?_
 refine ac ?_
 refine wk [25,6,3,2,1] rfl ?_
 refine Tr.cn rfl ?_ ?_<;>intro h3 q3
 have hA:V4 e l s=(GK,46):=by unfold V4;rw [if_neg Ks,if_neg AA,if_pos P3]
 refine ap ?_
 refine Tr.ret (Fin.AF (Fin.BW rfl (AQ.cell 0 rfl rfl Gf Fi rfl Lr) (AQ.tmp rfl Lr) ?_))
 refine BK ⟨?_,?_,trivial⟩
 · exact Q0
 · exact GQ
 have hsb:DO l.length s=true:=by simpa using h3
 have hsn:=NV hsb
 have hel:=hz.le
 refine ac ?_
 refine ap ?_
 refine TO.mj rfl rfl AD rfl (So hz AA) kz (fun v1=> ?_)
 refine Tl rfl rfl rfl rfl z31 Ic (fun b2=> ?_)
 refine ap ?_
 refine Tr.seq (Tr.seq (Tr.NL 0 1 0 rfl rfl AD rfl Lr (Bh fun _=>rfl) ?_))
 refine ac ?_
 refine Tr.drop 1 (Tr.block (Tr.CM _ (kk [30,29,8,6,1] rfl) (fun (m:Nat) (Bw:List CF)=>[(31,int ((m:Nat):Int))]) (fun (m:Nat) (Bw:List CF)=>Hp M0 w0 FG ([AE true b2 31 (CJ ⟨Bw,e.BV,e.items⟩),AE true b1 31 (([.slice none 0 0,.slice none 0 0,.slice none 0 0]:List Value).map is)])) (fun (m:Nat) (Bw:List CF)=>m≤s.length∧(⟨Bw,e.BV,e.items⟩:Dg).sz (n+m)∧OP l (s.drop m) Bw=OP l s e.Bw) (fun (m:Nat) (Bw:List CF)=>s.length-m) (0) (e.Bw)  (⟨Nat.zero_le _,hz,rfl⟩) kz (fun _ _ h=>h) ?_))
 rintro m Bw  ⟨hm1,hse,hm4⟩
 refine ac ?_
 refine Tr.seq ?_
 refine Tr.cn rfl ?_ ?_<;>intro h4 q4
 have hmm:m<s.length:=by have:=FM.Gp h4;omega
 obtain ⟨i,Dn⟩:=at_ hmm
 have him:=QY hsb Dn
 obtain ⟨c,kM⟩:=at_ (l:=l) (k:=i.toNat) AA
 have hci:=hc c (List.mem_of_getElem? kM)
 have hst:=iJ (Bw:=Bw) Dn kM
 rw [hm4] at hst
 refine ac ?_
 refine Tr.seq (Tr.block (Tr.seq (Tr.Bq (co rfl (AB rfl underlying38 BJ vq vq AA (Ad Dn)) ?_))))
 refine ac ?_
 refine Tr.seq (Tr.pad (Tr.rx ?_))
 refine ax ?_
 refine xo rfl (fun _=>AB rfl underlying32 Cg vq vq AA (Be (f:=FI) kM)) (xo rfl (fun _=>Al rfl Gr Cg vq rfl rfl) ?_)
 refine xo rfl (fun _=>Bu (jM (e:=⟨Bw,e.BV,e.items⟩) (c:=c) hse AA hci) rfl rfl rfl) ?_
 refine ax ?_
 refine Cx.ef 0 rfl rfl AD (Ca rfl rfl AD rfl z31 Ic) (Cx.C0 0 rfl rfl (C2 rfl rfl rfl rfl Cu Fi rfl rfl) (xm rfl ?_))
 refine Cx.nil ⟨by kernel_rfl,?_⟩
 refine BE.open_ 0 11 rfl rfl (fun v2=> ?_)
 refine BE.done al3 (Fin.Mh 11 0 _ rfl rfl (fun _=>rfl) (fun b3=> ?_))
 refine Fin.go (wk [31,30,29,12,11,8,6,1] rfl ?_)
 refine an ?_ ?_<;>intro h5 q5
 obtain ⟨h0_,h1_,h2_⟩:=xQ (e:=⟨Bw,e.BV,e.items⟩) (c:=c) (by have:=q5;omega)
 have h0_:¬(MM Bw c).2=0:=h0_
 rw [if_neg h0_] at hst
 have hA:V4 e l s=(GK,(WR ⟨Bw,e.BV,e.items⟩ c).2):=by unfold V4;rw [if_neg Ks,if_neg AA,if_neg (by simp [hsb]),hst,h1_];exact if_neg h0_
 refine ap ?_
 refine Tr.drop 0 (Tr.ret (Fin.AF (Fin.AP (Fin.AF (Fin.AF (Fin.AP (Fin.AF (Fin.BW rfl (AQ.cell 1 rfl rfl Gf Fi rfl Lr) (AQ.tmp rfl Lr) ?_))))))))
 refine BK ⟨?_,?_,trivial⟩
 · exact Q0
 · exact GQ
 have hs0:(WR ⟨Bw,e.BV,e.items⟩ c).2=0:=by have:=q5;omega
 have hap:(MM Bw c).2=0:=by by_cases h0:(MM Bw c).2=0;exact h0;(exfalso;unfold WR at hs0;rw [if_neg (show ¬(MM (⟨Bw,e.BV,e.items⟩:Dg).Bw c).2=0 from h0)] at hs0;exact h0 hs0)
 refine ac ?_
 refine ap ?_
 refine Tr.drop 0 ?_
 refine ac ?_
 refine Fin.j6 0 (CJ ⟨(MM Bw c).1,e.BV,e.items⟩) rfl (by rw [(bD hse hci hs0).2];rfl) ?_
 exact Fin.CC (m+1) ((MM Bw c).1)  (⟨⟨by omega,by have h_:=(bD hse hci hs0).1;rw [(bD hse hci hs0).2] at h_;rw [show n+(m+1)=n+m+1 by omega];exact h_,by rw [hst,if_pos hap]⟩,by omega⟩) ⟨⟨_,rfl,AG m⟩,kz⟩ (fun _ _ h=>h)
 obtain rfl:m=s.length:=by have:=FM.Gp h4;omega
 rw [List.drop_length] at hm4
 have hA:V4 e l s=(⟨Bw,e.BV,e.items⟩,0):=by unfold V4;rw [if_neg Ks,if_neg AA,if_neg (by simp [hsb]),←hm4];exact if_pos rfl
 refine ac ?_
 refine ap ?_
 refine Tr.ret (Fin.BW rfl (AQ.cell 1 rfl rfl Gf Fi rfl Lr) (AQ.tmp rfl Lr) ?_)
 refine BK ⟨?_,?_,trivial⟩
 · rw [hA];exact Lr
 · exact GQ
theorem TW {e:Dg} {l:List Bl} {i:Int} (hz:e.sz n) (hn:n≤800000):A_ prog 259 [agg (CJ e),slice 8 (l.map FI),int i] (DW [ints (J1 e l i).1,int (J1 e l i).2]):=by
 refine fo func259 rfl ⟨rfl,rfl⟩ fun M0 w0=>(Tr.CN 1 rfl fun Fq=> ?_)
 refine a2 ?_
 refine co rfl (CE (Dv (hz.fits AA)) rfl rfl) ?_
 refine an ?_ ?_<;>intro h1 q1
 have hA:J1 e l i=([],31):=if_pos (by have:=q1;cases h_:FU e<;>simp_all)
 refine ac ?_
 refine Tr.ret (Fin.AF (Fin.Co rfl (Bt.Dx _ _) rfl ?_ rfl ?_))
 · rw [hA];exact AM 1
 · exact GQ
 have hok:FU e=true:=by have:=q1;cases h_:FU e<;>simp_all
 refine ac ?_
 refine an ?_ ?_<;>intro h2 q2
 have hA:J1 e l i=([],3):=by unfold J1;rw [if_neg Ks,if_pos (by have:=q2;omega)]
 refine ac ?_
 refine Tr.ret (Fin.AF (Fin.Co rfl (Bt.Dx _ _) rfl ?_ rfl ?_))
 · rw [hA];exact AM 1
 · exact GQ
 have AKW:l.length≤24:=by have:=q2;omega
 refine ac ?_
 refine ag ?_ ?_<;>intro h3 q3
 refine ac ?_
 refine wk [25,3,2,1] rfl ?_
 refine ac ?_
 refine Tr.ret (Fin.AF (Fin.Co rfl (Bt.Dx _ _) rfl ?_ rfl ?_))
 · exact k9
 · exact k8
 refine ac ?_
 refine wk [25,3,2,1] rfl ?_
 refine Tr.cn rfl ?_ ?_<;>intro h4 q4
 refine ac ?_
 refine Tr.ret (Fin.AF (Fin.Co rfl (Bt.Dx _ _) rfl ?_ rfl ?_))
 · exact k9
 · exact k8
 obtain ⟨g,hg⟩:=at_ (l:=e.BV) (k:=i.toNat) AA
 have hA:J1 e l i=(PY g l l.length,0):=by unfold J1;rw [if_neg Ks,if_neg AA,if_neg AA,getD_at hg]
 refine a3 ?_
 refine Tr.block (Tr.B5 3 1 (Tr.EM _ (kk [27,26,3,2] rfl) (fun k v=>[(28,int ((k:Nat):Int)),(8,Ag v (ints (PY g l k)))]) (fun k v=>Hp M0 w0 FG ([Ax 3 1 v])) (fun k:Nat=>k≤(l).length) (fun k:Nat=>(l).length-k) 0 (.slice none 0 0) (Nat.zero_le _) ⟨kq,⟨_,rfl,Bf rfl⟩,trivial⟩ (fun _ _ h=>h) ?_))
 rintro k v BN
 refine ac ?_
 refine Tr.seq ?_
 refine Tr.cn rfl ?_ ?_<;>intro h5 q5
 have Ae:k<(l).length:=AJ h5
 obtain ⟨c,Af⟩:=at_ Ae
 have hrl:=q_ g l k
 refine ac ?_
 refine ao ?_
 refine tp rfl (AB rfl underlying32 Cg vq vq AA (Ad Af)) (tp rfl (Al rfl Gr Cg vq rfl rfl) ?_)
 refine Tl rfl rfl rfl rfl z116 Hv (fun b1=> ?_)
 refine tm rfl ?_
 refine sf 0 10 ⟨rfl,rfl,rfl⟩ rfl rfl rfl rfl ?_
 refine ao ?_
 refine wk [28,27,26,10,9,8,3,2] rfl ?_
 refine ac ?_
 refine co rfl (AB rfl underlying28 FO vq vq AA (Be (f:=AA3) hg)) ?_
 refine ag ?_ ?_<;>intro h6 q6
 have hP:WS g l k=true:=by unfold WS;rw [Af];simp;omega
 refine ac ?_
 refine wk [52,28,27,26,9,8,3,2] rfl (Tr.cond rfl (fun _=> ?_) (fun h=>nomatch h))
 refine Tr.BI (tm rfl (tm rfl (tp rfl (Aa (xs:=[.tmp 54]) (rows:=[[_]]) rfl rfl underlying38 BJ z3 rfl AD ⟨⟨Ao,Ce⟩,trivial⟩ AD) ?_)))
 refine TO.C1 0 rfl rfl AD (B7 rfl rfl rfl rfl underlying38 BJ IE z3 Fo Ea (A7 BD Gi)) (fun v1=> ?_)
 refine ao ?_
 refine ac ?_
 exact Fin.C_ (k+1) v1 (⟨Ae,by omega⟩) ⟨⟨_,rfl,AG k⟩,⟨_,rfl,A9 (by rw [YK hP,List.map_append];rfl)⟩,kz⟩ (fun _ _ h=>h)
 refine ac ?_
 refine cy h6 rfl (AB rfl underlying28 FO vq vq AA (Be (f:=AA3) hg)) ?_
 refine ac ?_
 refine wk [52,28,27,26,9,8,3,2] rfl ?_
 refine Tr.cn rfl ?_ ?_<;>intro h7 q7
 have hP:WS g l k=true:=by unfold WS;rw [Af];simp;omega
 refine ao ?_
 refine TO.C1 0 rfl rfl AD (B7 rfl rfl rfl rfl underlying38 BJ IE z3 Fo Ea (A7 BD Gi)) (fun v2=> ?_)
 refine ao ?_
 refine ac ?_
 exact Fin.C_ (k+1) v2 (⟨Ae,by omega⟩) ⟨⟨_,rfl,AG k⟩,⟨_,rfl,A9 (by rw [YK hP,List.map_append];rfl)⟩,kz⟩ (fun _ _ h=>h)
 have hP:WS g l k=false:=by unfold WS;rw [Af];simp;omega
 refine a2 ?_
 exact Fin.C_ (k+1) v (⟨Ae,by omega⟩) ⟨⟨_,rfl,AG k⟩,⟨_,rfl,Pr.le_of_eq (by rw [xO hP])⟩,kz⟩ (fun _ _ h=>h)
 have BC:k=(l).length:=by have:=AK h5;omega
 subst BC
 refine a2 ?_
 refine Tr.ret (Fin.Co rfl (Bt.Dx _ _) rfl ?_ rfl ?_)
 · rw [hA];exact At _ _
 · exact GQ
open Classical in
section
variable {e:Dg} {c:BS} {l:List Bl} {r:List B0} {d:List Int}
end
structure IL (n:Nat) (r:List B0):Prop where
 up:∀q∈r,(0≤q.fst∧q.fst<q.thn)∧q.thn<n
 srt:D3 r=true
theorem IL.nil (n:Nat):IL n []:=⟨(fun q h=>by cases h),rfl⟩
theorem Of (r:List B0) (q:B0):SN r [q]=GL (r.foldl GL []) q:=rfl
theorem IL.put {n:Nat} {r:List B0} (h:IL n r) {x y:Int} (h0:0≤x) (h1:x<y) (h2:y<n):IL n (SN r [⟨x,y⟩]):=by
 refine ⟨fun q hq=> ?_,?_⟩
 ·
  rw [Of,Xp,TP] at hq
  rcases hq with rfl|hq|hq
  · exact ⟨⟨h0,h1⟩,h2⟩
  · cases hq
  · exact h.up q hq
 · rw [Of];exact O9 (OU r rfl)
theorem bE (r:List B0) (q:B0):(SN r [q]).length≤r.length+1:=by grind [Of,SL,GL,Ga]
theorem IL.valid {n:Nat} {r:List B0} (h:IL n r) (hn:n≤24):BR n r=0:=pO hn h.up h.srt
theorem xR {b:Nat} {s:DS} {n:Nat} (hn:n≤24):Ba prog 21 [ptr b 0,int ((n:Nat):Int)] (Cp.ex fun r:List B0=>fact (IL n r∧r.length≤2*n) (reqs r)) (DA b s) (fun _=>ID 60 b):=by
 refine Ba.of func21 rfl rfl Am fun M0 w0 S rs M1 w1=> ?_
 have jy:=s.DF (n:=2*(n:Int)+1) AA
 refine ac ?_
 refine ac ?_
 refine Tr.seq (Tr.seq (Tr.BI (tm rfl (tm rfl ?_))))
 refine tp rfl (J2 rfl (vl rfl) (vl rfl) ?hin) ?_;case hin=>unfold Oj;omega
 refine tp rfl (I7 rfl (vl rfl) (vl rfl) ?hin) ?_;case hin=>unfold Oj;omega
 refine TO.FL 0 rfl rfl AD (Ak rfl rfl AD rfl (CV AA AA) ⟨ke rfl,ke rfl,trivial⟩) ?_
 refine ap ?_
 refine Tr.block ?_
 refine Tr.Gd _ (kk [1,0] rfl) (fun (r:List B0) (k:Int) (s2:DS)=>[(6,int k),(5,reqs r)]) (fun (r:List B0) (k:Int) (s2:DS)=>Hp M0 w0 S (DA b s2::Ac M1 w1::rs)) (fun (r:List B0) (k:Int) (s2:DS)=>0≤k∧IL n r∧(r.length:Int)+k≤2*n) (fun (r:List B0) (k:Int) (s2:DS)=>k.toNat) ([]) (s.val (2*(n:Int)+1)) (_)  (⟨by omega,IL.nil n,by simp;omega⟩) ⟨ke rfl,⟨_,rfl,AM 2⟩,trivial⟩ (fun _ _ h=>h) ?_
 rintro r k s2  ⟨hk0,hN,hrl⟩
 refine ac ?_
 refine Ch.cs 16 rfl ?_ ?_<;>intro h1 q1
 have hkp:k>0:=by simpa using h1
 refine ac ?_
 refine Tr.cn rfl ?_ ?_<;>intro h2 q2
 have hn1:((n:Nat):Int)>1:=by simpa using h2
 have TI:=s2.DF (n:=(n:Int)) AA
 have PO:=s2.Cd.DF (n:=(n:Int)) AA
 refine ac ?_
 refine ap ?_
 refine TO.FL 0 rfl rfl AD (Ak rfl rfl AD rfl (CV AA AA) ⟨ke rfl,ke rfl,trivial⟩) ?_
 refine ap ?_
 refine TO.FL 0 rfl rfl AD (Ak rfl rfl AD rfl (CV AA AA) ⟨ke rfl,ke rfl,trivial⟩) ?_
 refine ap ?_
 refine wk [8,7,6,5,1,0] rfl ?_
 refine ac ?_
 refine Tr.cn rfl ?_ ?_<;>intro h3 q3
 refine ac ?_
 refine co rfl (AY rfl (aD (a:=r) (b:=[⟨s2.val n,s2.Cd.val n⟩]) AA AR) ⟨ke rfl,(Kf rfl),trivial⟩) ?_
 refine ac ?_
 refine wk [6,5,1,0] rfl ?_
 refine ac ?_
 exact Fin.DE (SN r [⟨s2.val n,s2.Cd.val n⟩]) (k-1) (_)  (⟨⟨by omega,hN.put AA P3 AA,by have:=bE r ⟨s2.val n,s2.Cd.val n⟩;omega⟩,by omega⟩) ⟨ke rfl,kz⟩ (fun _ _ h=>h)
 refine ac ?_
 refine ac ?_
 exact Fin.DE (r) (k-1) (_)  (⟨⟨by omega,hN,by omega⟩,by omega⟩) ⟨ke rfl,kz⟩ (fun _ _ h=>h)
 have:=h2
 refine ac ?_
 refine ac ?_
 refine Tr.ret (Fin.Gq 0 _ rfl rfl (Fin.Fh [] rfl (AQ.tmp rfl Lr) ?_ (fun _ _ _ _=>rfl)))
 · exact As r (Ar ⟨hN,by omega⟩ Lr)
 refine ac ?_
 refine ac ?_
 refine ac ?_
 refine Tr.ret (Fin.Gq 0 _ rfl rfl (Fin.Fh [] rfl (AQ.tmp rfl Lr) ?_ (fun _ _ _ _=>rfl)))
 · exact As r (Ar ⟨hN,by omega⟩ Lr)
def Tg (e:CF) (c:Bl):Int:=
 if c.kind=7∨c.kind=9 then 0 else if c.kind=5 then 1 else if c.kind=1∨c.kind=12 then 2
 else if c.kind=3 then (if c.number>e.most then 2 else 3) else if c.kind=4 then (if c.number<e.least then 2 else 3) else if c.kind=11 then (if c.number=1 then 2 else 3) else 3
def Sr (a b:Int) (x:Iz):Bool:=(decide (x.client=a)&&decide (x.server=b))||(decide (x.client=b)&&decide (x.server=a))
def PL (l:List Iz) (a b:Int):Bool:=decide (a=b)||l.any (Sr a b)
theorem rA {l:List Iz} {a b:Int} {k:Nat} {x:Iz} (hx:l[k]? =some x) (h:Sr a b x=true):PL l a b=true:=by grind [PL]
theorem xS {l:List Iz} {a b:Int} (h0:a≠b) (h:∀j y,j<l.length→l[j]? =some y→Sr a b y=false):PL l a b=false:=by
 unfold PL
 rw [Bool.or_eq_false_iff,decide_eq_false_iff_not,List.any_eq_false]
 refine ⟨h0,fun y hy=> ?_⟩
 obtain ⟨j,hj⟩:=List.mem_iff_getElem?.1 hy
 rw [h j y (BZ hj) hj];decide
def YL (l:List Bl) (i:Nat):Bl:=l[i]?.getD Hx
def bF (e:Dg) (c:Bl):Int:=Tg (e.Bw[c.AZ.toNat]?.getD FE) c
def rB (e:Dg) (l:List Bl) (i k:Nat):Bool:=PL e.BV (YL l i).AZ (YL l k).AZ&&decide (bF e (YL l i)<bF e (YL l k))
def PZ (e:Dg) (l:List Bl) (i n:Nat):List B0:=((List.range n).filter (rB e l i)).map fun k:Nat=>⟨(i:Int),(k:Int)⟩
def YM (e:Dg) (l:List Bl) (m:Nat):List B0:=(List.range m).flatMap fun i=>PZ e l i l.length
def xT (e:Dg) (l:List Bl):List B0:=YM e l l.length
theorem YN (e:Dg) (l:List Bl) (i n:Nat):(PZ e l i n).length≤n:=by grind [PZ]
theorem Uc (e:Dg) (l:List Bl) (m:Nat):YM e l (m+1)=YM e l m++PZ e l m l.length:=by unfold YM;rw [List.range_succ,List.flatMap_append];simp
theorem Ss (e:Dg) (l:List Bl):∀m,(YM e l m).length≤m*l.length
 |0=>by simp [YM]
 |m+1=>by have h1:=Ss e l m;have h2:=YN e l m l.length;rw [Uc,List.length_append,Nat.succ_mul];omega
theorem rC {e:Dg} {l:List Bl} {i k:Nat} (h:rB e l i k=true):PZ e l i (k+1)=PZ e l i k++[⟨(i:Int),(k:Int)⟩]:=by unfold PZ;rw [List.range_succ,List.filter_append,List.map_append];simp [h]
theorem fZ {e:Dg} {l:List Bl} {i k:Nat} (h:rB e l i k=false):PZ e l i (k+1)=PZ e l i k:=by unfold PZ;rw [List.range_succ,List.filter_append,List.map_append];simp [h]
theorem Ud {e:CF} {c:Bl}  :A_ prog 88 [agg (Bp e),agg (FI c)] (int (Tg e c)):=by
 refine fo func88 rfl ⟨rfl,rfl⟩ fun M0 w0=> ?_
 refine a2 ?_
 refine an ?_ ?_<;>intro h1 q1
 refine ac ?_
 refine Tr.cond rfl (fun _=> ?_) (fun h=>nomatch h1.symm.trans h)
 refine a2 ?_
 · exact Pk
 refine an ?_ ?_<;>intro h2 q2
 refine a2 ?_
 · exact Pk
 refine an ?_ ?_<;>intro h3 q3
 refine a2 ?_
 · exact Pk
 refine an ?_ ?_<;>intro h4 q4
 refine ac ?_
 refine Tr.cond rfl (fun _=> ?_) (fun h=>nomatch h4.symm.trans h)
 refine ac ?_
 refine wk [4] rfl ?_
 refine ac ?_
 · exact Pk
 · repeat' first|(refine int_eq ?_;unfold Tg;(repeat' split)<;>omega)|refine ac ?_|(refine Tr.cn rfl ?_ ?_<;>intro h q)
theorem YO {e:Dg} {a b:Int}  :A_ prog 87 [agg (CJ e),int a,int b] (bool (PL e.BV a b)):=by
 refine fo func87 rfl ⟨rfl,rfl⟩ fun M0 w0=>(Tr.IX 0 1 rfl rfl fun LC=> ?_)
 refine ac ?_
 refine an ?_ ?_<;>intro h1 q1
 refine a2 ?_
 · refine bool_eq ?_;symm;unfold PL;rw [decide_eq_true BO,Bool.true_or]
 refine a2 ?_
 refine Tr.block (Tr.A0 _ (kk [14,13,2,1] rfl) (fun k:Nat=>[(15,int ((k:Nat):Int))]) (fun k:Nat=>k≤(e.BV).length∧(∀j y,j<k→e.BV[j]? =some y→Sr a b y=false)) (fun k:Nat=>(e.BV).length-k) 0 (⟨Nat.zero_le _,fun j y hj=>absurd hj AA⟩) kz ?_)
 rintro k ⟨BN,AX⟩
 refine ac ?_
 refine Tr.seq ?_
 refine Tr.cn rfl ?_ ?_<;>intro h2 q2
 have Ae:k<(e.BV).length:=AJ h2
 obtain ⟨x,Af⟩:=at_ Ae
 refine ac ?_
 refine Tr.seq (Tr.block (Tr.seq (Tr.BI (tp rfl (AB rfl underlying28 FO vq vq AA (Ad Af)) (tp rfl (Al rfl RS FO vq rfl rfl) ?_)))))
 refine Tl rfl rfl rfl rfl z109 XB (fun b1=> ?_)
 refine sf 0 8 ⟨rfl,rfl,rfl⟩ rfl rfl rfl rfl ?_
 refine ao ?_
 · repeat' first|(refine bool_eq ?_;symm;exact rA Af (by unfold Sr;simp_all))|(exact Fin.AL (k+1) ⟨⟨Ae,Dm (p:=Sr a b) Af (by unfold Sr;simp_all) AX⟩,by omega⟩ ⟨⟨_,rfl,AG k⟩,kz⟩)|refine ac ?_|(refine Tr.cn rfl ?_ ?_<;>intro h q)|(refine Ch.cg rfl rfl rfl ?_ ?_<;>intro h q)
 have BC:k=(e.BV).length:=by have:=AK h2;omega
 subst BC
 refine a3 ?_
 · refine bool_eq ?_;symm;exact xS BO AX
theorem YP {e:Dg} {l:List Bl} (hf:e.fits) (he:FU e=true) (Nw:l.length≤24) (hr:∀c∈l,0≤c.AZ∧c.AZ<(e.Bw.length:Nat)):A_ prog 51 [agg (CJ e),FV l] (DW [reqs (xT e l),int 0]):=by
 refine fo func51 rfl ⟨rfl,rfl⟩ fun M0 w0=>(Tr.IX 0 0 rfl rfl fun LB=> ?_)
 refine a2 ?_
 refine co rfl (CE (Dv hf) rfl rfl) ?_
 refine an ?_ ?_<;>intro h1 q1
 exact absurd h1 (by rw [if_pos he];decide)
 refine ac ?_
 refine an ?_ ?_<;>intro h2 q2
 exfalso;have:=q2;omega
 refine a2 ?_
 refine Tr.block (Tr.A0 _ (kk [20,19,2,1] rfl) (fun m:Nat=>[(21,int ((m:Nat):Int))]) (fun m:Nat=>m≤(l).length) (fun m:Nat=>(l).length-m) 0 (Nat.zero_le _) kz ?_)
 rintro m KM
 refine ac ?_
 refine Tr.seq ?_
 refine Tr.cn rfl ?_ ?_<;>intro h3 q3
 have Du:m<(l).length:=AJ h3
 obtain ⟨x,Dn⟩:=at_ Du
 have hrm:=hr x (List.mem_of_getElem? Dn)
 refine ac ?_
 refine Tr.seq (Tr.block (Tr.seq (Tr.BI (tp rfl (AB rfl underlying32 Cg vq vq AA (Ad Dn)) (tp rfl (Al rfl Gr Cg vq rfl rfl) ?_)))))
 refine Tl rfl rfl rfl rfl z116 Hv (fun b1=> ?_)
 refine sf 0 7 ⟨rfl,rfl,rfl⟩ rfl rfl rfl rfl ?_
 refine ao ?_
 · repeat' first|(exfalso;have:=hr x (List.mem_of_getElem? Dn);omega)|exact Fin.AL (m+1) ⟨Du,by omega⟩ ⟨⟨_,rfl,AG m⟩,kz⟩|refine ac ?_|(refine Tr.cn rfl ?_ ?_<;>intro h q)|(refine Ch.cg rfl rfl rfl ?_ ?_<;>intro h q)
 have Il:m=(l).length:=by have:=AK h3;omega
 refine a3 ?_
 refine Tr.block (Tr.B5 85 2 (Tr.EM _ (kk [38,37,2,1] rfl) (fun i v=>[(39,int ((i:Nat):Int)),(8,Ag v (reqs (YM e l i)))]) (fun i v=>Hp M0 w0 FG ([Ax 85 2 v])) (fun i:Nat=>i≤(l).length) (fun i:Nat=>(l).length-i) 0 (.slice none 0 0) (Nat.zero_le _) ⟨kq,⟨_,rfl,Bf rfl⟩,trivial⟩ (fun _ _ h=>h) ?_))
 rintro i v UD
 refine ac ?_
 refine Tr.seq ?_
 refine Tr.cn rfl ?_ ?_<;>intro h6 q6
 have Ik:i<(l).length:=AJ h6
 obtain ⟨x,LP⟩:=at_ Ik
 have hri:=hr x (List.mem_of_getElem? LP)
 obtain ⟨ex,hex⟩:=at_ (l:=e.Bw) (k:=x.AZ.toNat) AA
 have Kr:=Ss e l i
 have hl2:i*l.length≤24*24:=Nat.mul_le_mul AA Nw
 refine ac ?_
 refine ao ?_
 refine tp rfl (AB rfl underlying32 Cg vq vq AA (Ad LP)) (tp rfl (Al rfl Gr Cg vq rfl rfl) ?_)
 refine Tl rfl rfl rfl rfl z116 Hv (fun b2=> ?_)
 refine tm rfl ?_
 refine sf 0 10 ⟨rfl,rfl,rfl⟩ rfl rfl rfl rfl ?_
 refine ao ?_
 refine wk [39,38,37,10,9,8,2,1] rfl ?_
 refine ac ?_
 refine Tr.block (Tr.EM _ (kk [45,44,39,38,37,10,9,2,1] rfl) (fun k v=>[(46,int ((k:Nat):Int)),(8,Ag v (reqs (YM e l i++PZ e l i k)))]) (fun k v=>Hp M0 w0 FG ([Ax 85 2 v])) (fun k:Nat=>k≤(l).length) (fun k:Nat=>(l).length-k) 0 v (Nat.zero_le _) ⟨kq,⟨_,rfl,A9 (by simp [PZ])⟩,trivial⟩ (fun _ _ h=>h) ?_)
 rintro k v BN
 refine ac ?_
 refine Tr.seq ?_
 refine Tr.cn rfl ?_ ?_<;>intro h7 q7
 have Ae:k<(l).length:=AJ h7
 obtain ⟨y,Af⟩:=at_ Ae
 have hrk:=hr y (List.mem_of_getElem? Af)
 obtain ⟨ey,hey⟩:=at_ (l:=e.Bw) (k:=y.AZ.toNat) AA
 have II:=YN e l i k
 have hB:rB e l i k=(PL e.BV x.AZ y.AZ&&decide (Tg ex x<Tg ey y)):=by unfold rB bF YL;rw [LP,Af,Option.getD_some,Option.getD_some,hex,hey];rfl
 refine ac ?_
 refine ao ?_
 refine tp rfl (AB rfl underlying32 Cg vq vq AA (Ad Af)) (tp rfl (Al rfl Gr Cg vq rfl rfl) ?_)
 refine Tl rfl rfl rfl rfl z116 Hv (fun b3=> ?_)
 refine tm rfl ?_
 refine sf 0 12 ⟨rfl,rfl,rfl⟩ rfl rfl rfl rfl ?_
 refine ao ?_
 refine wk [46,45,44,39,38,37,12,11,10,9,8,2,1] rfl ?_
 refine ac ?_
 refine co rfl (Iy (YO (e:=e) (a:=x.AZ) (b:=y.AZ)) rfl rfl rfl rfl) ?_
 refine cm rfl ?_
 refine Ch.cs 57 rfl ?_ ?_<;>intro h8 q8
 refine ac ?_
 refine cy h8 rfl (AB rfl underlying27 Bj vq vq AA (Be hex)) ?_
 refine ac ?_
 refine cy h8 rfl (Bu (Ud (e:=ex) (c:=x)) rfl rfl rfl) ?_
 refine ac ?_
 refine cy h8 rfl (AB rfl underlying27 Bj vq vq AA (Be hey)) ?_
 refine ac ?_
 refine cy h8 rfl (Bu (Ud (e:=ey) (c:=y)) rfl rfl rfl) ?_
 refine ac ?_
 refine wk [75,46,45,44,39,38,37,11,10,9,8,2,1] rfl ?_
 refine Tr.cn rfl ?_ ?_<;>intro h9 q9
 refine ao ?_
 refine TO.C1 0 rfl rfl AD (B7 rfl rfl rfl rfl underlying33 Dy TG z85 Fo Ea (A7 BD Gi)) (fun v1=> ?_)
 refine ao ?_
 refine wk [46,45,44,39,38,37,10,9,8,2,1] rfl ?_
 refine ac ?_
 exact Fin.C_ (k+1) v1 (⟨Ae,by omega⟩) ⟨⟨_,rfl,AG k⟩,⟨_,rfl,A9 (by rw [rC (by rw [hB,h8,h9];rfl),←List.append_assoc];simp;rfl)⟩,kz⟩ (fun _ _ h=>h)
 refine a2 ?_
 exact Fin.C_ (k+1) v (⟨Ae,by omega⟩) ⟨⟨_,rfl,AG k⟩,⟨_,rfl,A9 (by rw [fZ (by rw [hB,h8,h9];rfl)])⟩,kz⟩ (fun _ _ h=>h)
 refine ac ?_
 refine wk [75,46,45,44,39,38,37,11,10,9,8,2,1] rfl ?_
 refine a2 ?_
 exact Fin.C_ (k+1) v (⟨Ae,by omega⟩) ⟨⟨_,rfl,AG k⟩,⟨_,rfl,A9 (by rw [fZ (by rw [hB,h8];rfl)])⟩,kz⟩ (fun _ _ h=>h)
 have BC:k=(l).length:=by have:=AK h7;omega
 subst BC
 refine a2 ?_
 exact Fin.C_ (i+1) v (⟨Ik,by omega⟩) ⟨⟨_,rfl,AG i⟩,⟨_,rfl,A9 (by rw [Uc])⟩,kz⟩ (fun _ _ h=>h)
 have NU:i=(l).length:=by have:=AK h6;omega
 subst NU
 refine a2 ?_
 refine Tr.ret (Fin.Co rfl (Bt.Dx _ _) rfl ?_ rfl ?_)
 · exact GS
 · exact Lr
def zM (n:Nat):BS:=⟨[⟨0,300,[0]⟩],List.replicate n 0,[24]⟩
theorem ABu {n:Nat} (hn:n≤1000):A_ prog 20 [int ((n:Nat):Int)] (MN (zM n)):=by
 refine fo func20 rfl ⟨rfl,rfl⟩ fun M0 w0=>(Tr.seq (Tr.BI ?_))
 refine Tl rfl rfl rfl rfl z70 ADr (fun b1=> ?_)
 refine ap ?_
 refine ap ?_
 refine tp rfl (Au (rows:=[(0,_),(1,[_])]) rfl AD1 RU ⟨⟨rfl,Cu⟩,⟨⟨rfl,⟨_,rfl,Pr.le_trans (BF _ _) (AO _)⟩⟩,trivial⟩⟩ rfl) ?_
 refine ap ?_
 refine tp rfl (Xs (m:=n) rfl underlying22 BJ IE z3 rfl AD AD vq vq Fa AA) ?_
 refine tp rfl (oI) ?_
 refine tp rfl (Au (rows:=[(0,[_]),(1,[_]),(2,[_])]) rfl AIb ADr ⟨⟨rfl,⟨_,rfl,Pr.le_trans (BF _ _) (AO _)⟩⟩,⟨⟨rfl,⟨_,rfl,Pr.le_trans (Pr.le_trans (BF _ _) (Pr.le_of_eq (show _=slice 1 ((List.replicate n (0:Int)).map fun n=>[int n]) by rw [List.map_replicate];rfl))) (AO _)⟩⟩,⟨⟨rfl,⟨_,rfl,Pr.le_trans (BF _ _) (AO _)⟩⟩,trivial⟩⟩⟩ rfl) ?_
 refine ap ?_
 refine Tr.ret (Fin.CY rfl (AQ.cell 0 rfl rfl yR ADq rfl Lr) ?_)
 · exact Lr
theorem bG {l:List Bl} {r:List B0} {d:List Int} (M6:∀x∈l,x.DM.small) (hl:l.length≤1000000) (hr:r.length≤1000000) (hd:d.length≤1000000):Vg prog 149 [agg [FV l,reqs r,ints d]] (fun x=>agg [FV l,reqs r,is x]) (fun x=>[CX 3 1 (d.map fun n=>[int n]) x]):=by
 refine Vg.of func149 rfl rfl Am fun M0 w0 S rs M1 w1=>(Tr.IX 0 0 rfl rfl fun LB=>(Tr.seq (Tr.BI (tp rfl (Bv rfl Cu) ?_))))
 refine Tl rfl rfl rfl rfl z35 Jq (fun b1=> ?_)
 refine ao ?_
 refine Tr.seq (Tr.pad (Tr.pad (Tr.pad (Tr.rx ?_))))
 refine ax ?_
 refine xo rfl (fun _=>JL rfl underlying33 Dy TG z85 rfl AD vq (by rw [List.length_map];unfold maxLen;omega) F8) ?_
 refine ax ?_
 refine Cx.ef 0 rfl rfl AD (aI rfl rfl AD rfl underlying22 BJ IE z3 rfl AD AD ⟨_,rfl,Dh 1⟩ vq (by rw [List.length_map];unfold maxLen;omega) F8) ?_
 refine Cx.ef 1 rfl rfl AD (wv (d:=12) (s:=11) (p:=fun v=>agg [is (.slice none 0 0),reqs r,Ag v (lens (d.map fun n=>[int n]).length)]) (q:=agg [is (.slice none 0 0),reqs r,lens (d.map fun n=>[int n]).length]) rfl AD (fun _=>BP ⟨Lr,Lr,At _ _,trivial⟩) rfl rfl AD (fun v=>qK rfl rfl AD (fun _=>Au (rows:=[(1,[_]),(2,[_])]) rfl zk Jq ⟨⟨rfl,VL.le vq (AO _)⟩,⟨⟨rfl,VL.le vq (AO _)⟩,trivial⟩⟩ rfl))) (Cx.ef 2 rfl rfl AD (Ca rfl rfl AD rfl z35 Jq) (Cx.C0 2 rfl rfl (ij rfl rfl rfl AD rfl rfl (Ah _) Cq rfl rfl) ?_))
 refine Cx.nil ⟨by kernel_rfl,?_⟩
 refine BE.pin 11 rfl (fun v11=> ?_)
 refine BE.pin 12 rfl (fun v12=> ?_)
 refine BE.pin 3 rfl (fun v3=> ?_)
 refine BE.ABa 0 11 rfl rfl (BE.ABb 1 12 11 rfl rfl rfl (BE.ABb 2 3 12 rfl rfl rfl (BE.done al5 (Fin.shape 3 (fun b=> .pointer (some ⟨b,0,none⟩)) rfl (fun b9 e9=> ?_)))))
 subst e9
 refine Fin.qV 1 2 rfl rfl (Fin.drop 1 (Fin.go (wk [3,2,1] rfl ?_)))
 refine ac ?_
 refine Tr.block (Tr.Iw 1 [Ag (.slice none 0 0) (FV (l.take 0)),reqs r,Ag v11 (lens (d.map fun n=>[int n]).length)] rfl ⟨Bf rfl,Lr,Lr,trivial⟩ (Tr.B5 116 8 (Tr.EM _ (kk [15,14,3,2] rfl) (fun k u=>[(16,int ((k:Nat):Int))]) (fun k u=>Hp M0 w0 S (Ax 116 8 u::CX 3 1 (d.map fun n=>[int n]) v11::AE true b9 35 [Ag u (FV (l.take k)),reqs r,Ag v11 (lens (d.map fun n=>[int n]).length)]::AE true b1 35 (([.slice none 0 0,.slice none 0 0,.slice none 0 0]:List Value).map is)::Ac M1 w1::rs)) (fun k:Nat=>k≤(l).length) (fun k:Nat=>(l).length-k) 0 (.slice none 0 0) (Nat.zero_le _) kz (fun _ _ h=>h) ?_)))
 rintro k u BN
 refine ac ?_
 refine Tr.seq ?_
 refine Tr.cn rfl ?_ ?_<;>intro h1 q1
 have Ae:k<(l).length:=AJ h1
 obtain ⟨x,Af⟩:=at_ Ae
 refine ac ?_
 refine Tr.seq (Tr.block (Tr.seq (Tr.BI (tp rfl (AB rfl underlying32 Cg vq vq AA (Ad Af)) (tp rfl (Al rfl Gr Cg vq rfl rfl) ?_)))))
 refine Tl rfl rfl rfl rfl z116 Hv (fun b10=> ?_)
 refine sf 0 5 ⟨rfl,rfl,rfl⟩ rfl rfl rfl rfl ?_
 refine ao ?_
 refine Tr.pad (Tr.rx ?_)
 refine ax ?_
 refine xo rfl (fun _=>CE (bB (c:=x) (M6 x (List.mem_of_getElem? Af))) rfl rfl) ?_
 refine xo rfl (fun _=>Aa (xs:=[.tmp 23]) (rows:=[_]) rfl rfl underlying32 Cg z116 rfl AD ⟨⟨Ao,(Va rfl)⟩,trivial⟩ AD) ?_
 refine Cx.ef 1 rfl rfl AD (B7 rfl rfl rfl rfl underlying32 Cg Tw z116 Fo Ea (A7 BD Gi)) ?_
 refine xo rfl (fun _=>BU rfl lf vq) (Cx.C0 3 rfl rfl (GD rfl rfl rfl vq rfl AIT Am) ?_)
 refine Cx.nil ⟨by kernel_rfl,?_⟩
 refine BE.RN 1 3 25 rfl rfl AD rfl (fun v1=> ?_)
 refine BE.done mo ?_
 refine ac ?_
 refine Tr.drop 0 (wk [16,15,14,3,2] rfl ?_)
 refine ac ?_
 refine Fin.Iw 2 [Ag v1 (FV (l.take (k+1))),reqs r,Ag v11 (lens (d.map fun n=>[int n]).length)] rfl ⟨A9 (by rw [List.take_add_one,Af,List.map_append];rfl),Lr,Lr,trivial⟩ ?_
 exact Fin.C_ (k+1) v1 (⟨Ae,by omega⟩) ⟨⟨_,rfl,AG k⟩,kz⟩ (fun _ _ h=>h)
 have BC:k=(l).length:=by have:=AK h1;omega
 subst BC
 rw [List.take_length]
 refine ac ?_
 refine ao ?_
 refine TO.AV 3 rfl rfl rfl vq Cu rfl Cq rfl rfl ?_
 refine ao ?_
 refine Tr.ret (Fin.drop 0 (Fin.drop 1 (Fin.Zi (Fin.AEj v11 [_] rfl (AQ.cell 0 rfl rfl EG Cq rfl Lr) ?_ (List.Perm.refl _)))))
 · exact BP ⟨At _ _,Lr,HE _ _,trivial⟩
theorem jN {n:Int} {l:List B0} {s:List Int} (hl:l.length≤1000000):A_ prog 260 [int n,reqs l,ints s] (Cp.ex fun z:List B0×Int=>fact (z.1.length≤1000) (DW [reqs z.1,int z.2])):=by
 refine fo func260 rfl ⟨rfl,rfl⟩ fun M0 w0=> ?_
 refine a2 ?_
 refine co rfl (Bu (HV hl) rfl rfl rfl) ?_
 refine ac ?_
 refine an ?_ ?_<;>intro h1 q1
 refine ac ?_
 refine Tr.ret (Fin.AF (Fin.BW rfl (AQ.tmp rfl Lr) (AQ.tmp rfl Lr) ?_))
 · exact Qz
 have hv:BR n l=0:=by simpa using h1
 obtain ⟨N,rfl⟩:∃N:Nat,n=(N:Int):=⟨n.toNat,by have:=(DT hv).1;omega⟩
 have Nw:=(DT hv).1
 have jD:∀r∈l,(0≤r.fst∧r.fst<(N:Nat))∧0≤r.thn∧r.thn<(N:Nat):=fun r hr=>by
  have h_:=(DT hv).2.1 r hr
  unfold FY at h_;rw [decide_eq_false_iff_not] at h_;omega
 refine a2 ?_
 refine co rfl (Bu (MJ (l:=s) (n:=((N:Nat):Int))) rfl rfl rfl) ?_
 refine an ?_ ?_<;>intro h2 q2
 refine ac ?_
 refine wk [7,6] rfl (Tr.ret (Fin.AF (Fin.BW rfl (AQ.tmp rfl Lr) (AQ.tmp rfl Lr) ?_)))
 · exact Qz
 have hsb:DO ((N:Nat):Int) s=true:=by simpa using h2
 have hsn:=NV hsb
 refine a2 ?_
 refine co rfl (Bu (UY (n:=N) (l:=l) AA hl jD) rfl rfl rfl) ?_
 refine ac ?_
 refine wk [9,2] rfl ?_
 refine a2 ?_
 refine Tr.block (Tr.B5 85 2 (Tr.Cy _ (kk [29,28,9,2] rfl) (fun (o:List B0) (i:Nat) u=>[(30,int ((i:Nat):Int)),(10,Ag u (reqs o))]) (fun (o:List B0) (i:Nat) u=>Hp M0 w0 FG ([Ax 85 2 u])) (fun (o:List B0) (i:Nat)=>i≤s.length∧o.length≤24*i) (fun (o:List B0) (i:Nat)=>s.length-i) ([]) (0) (.slice none 0 0) (⟨Nat.zero_le _,by simp⟩) ⟨kq,⟨_,rfl,Bf rfl⟩,trivial⟩ (fun _ _ h=>h) ?_))
 rintro o i u ⟨hi0,hol⟩
 refine ac ?_
 refine Tr.seq ?_
 refine Tr.cn rfl ?_ ?_<;>intro h3 q3
 have hi:i<s.length:=AJ h3
 obtain ⟨x,hx⟩:=at_ hi
 have hxn:=QY hsb hx
 refine a2 ?_
 refine co rfl (AB rfl underlying38 BJ vq vq AA (Ad hx)) ?_
 refine a2 ?_
 refine wk [37,36,35,30,29,28,12,11,10,9,2] rfl (Tr.block (Tr.Cy _ (kk [36,35,30,29,28,12,11,9,2] rfl) (fun (p:List B0) (k:Nat) u2=>[(37,int ((k:Nat):Int)),(10,Ag u2 (reqs p))]) (fun (p:List B0) (k:Nat) u2=>Hp M0 w0 FG ([Ax 85 2 u2])) (fun (p:List B0) (k:Nat)=>k≤s.length∧p.length≤24*i+k) (fun (p:List B0) (k:Nat)=>s.length-k) (o) (0) u (⟨Nat.zero_le _,by omega⟩) ⟨kq,⟨_,rfl,A9 rfl⟩,trivial⟩ (fun _ _ h=>h) ?_))
 rintro p k u2 ⟨hk0,hpl⟩
 refine ac ?_
 refine Tr.seq ?_
 refine Tr.cn rfl ?_ ?_<;>intro h4 q4
 have hk:k<s.length:=AJ h4
 obtain ⟨y,hy⟩:=at_ hk
 have hyn:=QY hsb hy
 refine a2 ?_
 refine co rfl (AB rfl underlying38 BJ vq vq AA (Ad hy)) ?_
 refine ac ?_
 refine wk [37,36,35,30,29,28,14,13,12,11,10,9,2] rfl ?_
 refine ac ?_
 refine co rfl (AB rfl underlying203 Ox vq vq AA (Be (LK _ (a:=x.toNat) AA))) ?_
 refine ac ?_
 refine co rfl (AB rfl underlying191 W9 vq vq AA (Be (LL _ (b:=y.toNat) AA))) ?_
 refine ac ?_
 refine wk [48,37,36,35,30,29,28,13,12,11,10,9,2] rfl ?_
 refine Tr.cn rfl ?_ ?_<;>intro h5 q5
 refine ap ?_
 refine TO.C1 0 rfl rfl AD (B7 rfl rfl rfl rfl underlying33 Dy TG z85 Fo Ea (A7 BD Gi)) (fun v1=> ?_)
 refine ap ?_
 refine wk [37,36,35,30,29,28,12,11,10,9,2] rfl ?_
 refine ac ?_
 exact Fin.Bg (p++[⟨((i:Nat):Int),((k:Nat):Int)⟩]) (k+1) v1 (⟨⟨by omega,by simp;omega⟩,by omega⟩) ⟨⟨_,rfl,AG k⟩,⟨_,rfl,A9 DC⟩,kz⟩ (fun _ _ h=>h)
 refine a2 ?_
 exact Fin.Bg (p) (k+1) u2 (⟨⟨by omega,by omega⟩,by omega⟩) ⟨⟨_,rfl,AG k⟩,⟨_,rfl,A9 rfl⟩,kz⟩ (fun _ _ h=>h)
 have Te:=AK h4
 refine a2 ?_
 exact Fin.Bg (p) (i+1) u2 (⟨⟨by omega,by omega⟩,by omega⟩) ⟨⟨_,rfl,AG i⟩,⟨_,rfl,A9 rfl⟩,kz⟩ (fun _ _ h=>h)
 have hie:=AK h3
 refine a2 ?_
 refine Tr.ret (Fin.BW rfl (AQ.tmp rfl Lr) (AQ.tmp rfl Lr) ?_)
 · exact ZE
theorem Sv {c:BS} {l:List Bl} (ho:c.own=0):A_ prog 48 [MN c,FV l] (DW [ints (Se c l),int (Ee c l)]):=by
 refine fo func48 rfl ⟨rfl,rfl⟩ fun M0 w0=>(Tr.CN 1 rfl fun Fq=>(Tr.IX 0 1 rfl rfl fun LC=> ?_))
 refine a2 ?_
 refine co rfl (Bu (KQ (c:=c) (m:=((c.JN.length:Nat):Int))) rfl rfl rfl) ?_
 refine ac ?_
 refine an ?_ ?_<;>intro h1 q1
 exact absurd ho (by unfold BS.own;simpa using h1)
 refine a2 ?_
 refine wk [20,2,1] rfl ?_
 refine Tr.cn rfl ?_ ?_<;>intro h2 q2
 refine ac ?_
 refine Tr.ret (Fin.AF (Fin.Co rfl (Bt.Dx _ _) rfl ?_ rfl ?_))
 · rw [Wn (fR AA) AD];exact AM 1
 · refine int_eq ?_;exact (fR AA).symm
 refine a3 ?_
 refine Tr.block (Tr.B5 3 1 (Tr.EM _ (kk [22,21,2] rfl) (fun k v=>[(23,int ((k:Nat):Int)),(7,Ag v (ints ((l.take k).map (Sd c))))]) (fun k v=>Hp M0 w0 FG ([Ax 3 1 v])) (fun k:Nat=>k≤(l).length∧(∀j y,j<k→l[j]? =some y→Q2 c y=false)) (fun k:Nat=>(l).length-k) 0 (.slice none 0 0) (⟨Nat.zero_le _,fun j y hj=>absurd hj AA⟩) ⟨kq,⟨_,rfl,Bf rfl⟩,trivial⟩ (fun _ _ h=>h) ?_))
 rintro k v ⟨BN,AX⟩
 refine ac ?_
 refine Tr.seq ?_
 refine Tr.cn rfl ?_ ?_<;>intro h3 q3
 have Ae:k<(l).length:=AJ h3
 obtain ⟨x,Af⟩:=at_ Ae
 refine ac ?_
 refine Tr.seq (Tr.block (Tr.seq (Tr.BI (tp rfl (AB rfl underlying32 Cg vq vq AA (Ad Af)) (tp rfl (Al rfl Gr Cg vq rfl rfl) ?_)))))
 refine Tl rfl rfl rfl rfl z116 Hv (fun b1=> ?_)
 refine sf 0 9 ⟨rfl,rfl,rfl⟩ rfl rfl rfl rfl ?_
 refine ao ?_
 refine ag ?_ ?_<;>intro h4 q4
 refine ac ?_
 refine wk [37,23,22,21,9,7,2] rfl ?_
 refine ac ?_
 refine Tr.ret (Fin.AF (Fin.AP (Fin.AF (Fin.AF (Fin.AP (Fin.AF (Fin.Co rfl (Bt.Dx _ _) rfl ?_ rfl ?_)))))))
 · exact bz
 · exact cL
 refine ac ?_
 refine wk [37,23,22,21,9,7,2] rfl ?_
 refine Tr.cn rfl ?_ ?_<;>intro h5 q5
 refine ac ?_
 refine Tr.ret (Fin.AF (Fin.AP (Fin.AF (Fin.AF (Fin.AP (Fin.AF (Fin.Co rfl (Bt.Dx _ _) rfl ?_ rfl ?_)))))))
 · exact bz
 · exact cL
 have htm:=zJ (c:=c) (x:=x) AA
 refine ac ?_
 refine ao ?_
 refine tp rfl (AB rfl underlying22 BJ vq vq AA (Be htm)) ?_
 refine ao ?_
 refine TO.C1 0 rfl rfl AD (B7 rfl rfl rfl rfl underlying22 BJ IE z3 Fo Ea (A7 BD Gi)) (fun v1=> ?_)
 refine ao ?_
 refine wk [23,22,21,7,2] rfl ?_
 refine ac ?_
 exact Fin.C_ (k+1) v1 (⟨⟨Ae,Dm (p:=Q2 c) Af tD AX⟩,by omega⟩) ⟨⟨_,rfl,AG k⟩,⟨_,rfl,A9 (qb Af)⟩,kz⟩ (fun _ _ h=>h)
 have BC:k=(l).length:=by have:=AK h3;omega
 subst BC
 refine a2 ?_
 refine Tr.ret (Fin.Co rfl (Bt.Dx _ _) rfl ?_ rfl ?_)
 · rw [X8 (fS AA AX)];exact Pr.le_trans (At _ _) (Pr.le_of_eq Pw)
 · refine int_eq ?_;exact (fS AA AX).symm
structure rD (m:Nat) (l:List Bl) (r:List B0) (d:List Int):Prop where
 l24:l.length≤24
 dl:d.length=l.length
 v:BR (l.length:Nat) r=0
 dd:∀j y c,j<l.length→d[j]? =some y→l[j]? =some c→(0≤y∧y≤40000)∧0≤c.AZ∧c.AZ<(m:Int)
abbrev Jj (l:List Bl) (r:List B0) (d:List Int):Pr:=agg [FV l,reqs r,ints d]
theorem rE {e:Dg} {l:List Bl} {r:List B0} {d:List Int} (hrl:r.length≤1000000):A_ prog 215 [agg (CJ e),Jj l r d] (Cp.ex fun z:Bool=>fact (z=true→rD e.Bw.length l r d) (bool z)):=by
 refine fo func215 rfl ⟨rfl,rfl⟩ fun M0 w0=>(Tr.IX 1 0 rfl rfl fun AH9=>(Tr.IX 1 2 rfl rfl fun AH_=>(Tr.IX 0 0 rfl rfl fun LB=> ?_)))
 refine a2 ?_
 refine ag ?_ ?_<;>intro h1 q1
 refine ac ?_
 refine wk [26,3,2] rfl ?_
 refine a2 ?_
 · exact U4
 refine ag ?_ ?_<;>intro h2 q2
 refine ac ?_
 refine wk [26,3,2] rfl ?_
 refine a2 ?_
 · exact U4
 refine ac ?_
 refine cy h2 rfl (Bu (HV (n:=((l.length:Nat):Int)) (l:=r) hrl) rfl rfl rfl) ?_
 refine ac ?_
 refine wk [26,3,2] rfl ?_
 refine Tr.cn rfl ?_ ?_<;>intro h3 q3
 refine a2 ?_
 · exact U4
 have Nw:l.length≤24:=by omega
 have hdl:d.length=l.length:=by omega
 have hv:BR ((l.length:Nat):Int) r=0:=by omega
 refine a2 ?_
 refine Tr.block (Tr.A0 _ (kk [29,28,3,2] rfl) (fun k:Nat=>[(30,int ((k:Nat):Int))]) (fun k:Nat=>k≤(l).length∧(∀j y c,j<k→d[j]? =some y→l[j]? =some c→(0≤y∧y≤40000)∧0≤c.AZ∧c.AZ<((e.Bw.length:Nat):Int))) (fun k:Nat=>(l).length-k) 0 (⟨Nat.zero_le _,fun j y c hj=>absurd hj AA⟩) kz ?_)
 rintro k ⟨BN,AX⟩
 refine ac ?_
 refine Tr.seq ?_
 refine Tr.cn rfl ?_ ?_<;>intro h4 q4
 have Ae:k<(l).length:=AJ h4
 obtain ⟨x,Af⟩:=at_ Ae
 obtain ⟨y,hy⟩:=at_ (l:=d) (k:=k) AA
 refine ac ?_
 refine ao ?_
 refine tp rfl (AB rfl underlying32 Cg vq vq AA (Ad Af)) (tp rfl (Al rfl Gr Cg vq rfl rfl) ?_)
 refine Tl rfl rfl rfl rfl z116 Hv (fun b1=> ?_)
 refine tm rfl ?_
 refine sf 0 7 ⟨rfl,rfl,rfl⟩ rfl rfl rfl rfl ?_
 refine ao ?_
 · repeat' first|exact As false (Ar (fun h_=>by cases h_) Lr)|(exact Fin.AL (k+1) ⟨⟨Ae,fun j z c hj hz kM=>by rcases Nat.lt_or_eq_of_le (Nat.le_of_lt_succ hj) with h_|h_;exact AX j z c h_ hz kM;(subst h_;rw [hy] at hz;cases hz;rw [Af] at kM;cases kM;omega)⟩,by omega⟩ ⟨⟨_,rfl,AG k⟩,kz⟩)|refine cy h rfl (AB rfl underlying22 BJ vq vq AA (Ad hy)) ?_|refine ac ?_|(refine Tr.cn rfl ?_ ?_<;>intro h q)|(refine Ch.cg rfl rfl rfl ?_ ?_<;>intro h q)
 have BC:k=(l).length:=by have:=AK h4;omega
 subst BC
 refine a3 ?_
 · exact As true (Ar (fun _=>⟨Nw,hdl,hv,AX⟩) Lr)
theorem rF {n:Nat} (hn:n≤1000):A_ prog 55 [int ((n:Nat):Int)] (Cp.ex fun z:List Int=>fact (z.length≤n) (ints z)):=by
 refine fo func55 rfl ⟨rfl,rfl⟩ fun M0 w0=> ?_
 refine a3 ?_
 refine Tr.block (Tr.B5 3 1 (Tr.Cy _ (kk [5] rfl) (fun (o:List Int) (k:Nat) u=>[(6,int ((k:Nat):Int)),(3,Ag u (ints o))]) (fun (o:List Int) (k:Nat) u=>Hp M0 w0 FG ([Ax 3 1 u])) (fun (o:List Int) (k:Nat)=>k≤n∧o.length=k) (fun (o:List Int) (k:Nat)=>n-k) ([]) (0) (.slice none 0 0) (⟨Nat.zero_le _,rfl⟩) ⟨kq,⟨_,rfl,Bf rfl⟩,trivial⟩ (fun _ _ h=>h) ?_))
 rintro o k u ⟨hk0,hol⟩
 refine ac ?_
 refine Tr.seq ?_
 refine Tr.cn rfl ?_ ?_<;>intro h1 q1
 have hk:k<n:=AJ h1
 refine a2 ?_
 refine ap ?_
 refine TO.C1 0 rfl rfl AD (B7 rfl rfl rfl rfl underlying38 BJ IE z3 Fo Ea (A7 BD Gi)) (fun v1=> ?_)
 refine ap ?_
 refine ac ?_
 exact Fin.Bg (o++[((k:Nat):Int)]) (k+1) v1 (⟨⟨by omega,by simp;omega⟩,by omega⟩) ⟨⟨_,rfl,AG k⟩,⟨_,rfl,A9 DC⟩,kz⟩ (fun _ _ h=>h)
 have Te:=AK h1
 refine a3 ?_
 · exact Pm
theorem MY {e:Dg} {l:List Bl} {r:List B0} {d s:List Int} {n:Nat} (hz:e.sz n) (hn:n≤800000) (hc:∀c∈l,c.DM.fits∧c.DM.small):A_ prog 217 [agg (CJ e),Jj l r d,ints s] (DW [agg (CJ (V4 e l s).1),bool (decide ((V4 e l s).2=0))]):=by
 refine fo func217 rfl ⟨rfl,rfl⟩ fun M0 w0=>(Tr.seq (Tr.BI (tp rfl (Bv rfl Cu) (tp rfl (Bv rfl Cu) ?_))))
 refine Tl rfl rfl rfl rfl z31 Ic (fun b1=> ?_)
 refine ao ?_
 refine ao ?_
 refine tp rfl (Iy (Sq hz hn hc) rfl rfl rfl rfl) ?_
 refine ao ?_
 refine Tl rfl rfl rfl rfl z31 Ic (fun b2=> ?_)
 refine sf 0 8 ⟨rfl,rfl,rfl⟩ rfl rfl rfl rfl ?_
 refine ao ?_
 refine wk [9,8,6] rfl ?_
 refine ao ?_
 refine TO.AV 0 rfl rfl rfl vq Cu rfl Fi rfl rfl ?_
 refine ao ?_
 refine Tr.ret (Fin.BW rfl (AQ.cell 0 rfl rfl Gf Fi rfl Lr) (AQ.tmp rfl Lr) ?_)
 · exact Lr
theorem TX {e:Dg} {c:BS} {l:List Bl} {r:List B0} {fr:Int} (hf:e.fits) (M6:∀x∈l,x.DM.small) (hrl:r.length≤1000000):A_ prog 89 [agg (CJ e),MN c,FV l,reqs r,int fr] (DW [agg (qc e c l r fr),int (LV e c l r fr)]):=by
 refine fo func89 rfl ⟨rfl,rfl⟩ fun M0 w0=>(Tr.CN 3 rfl fun ALD=>(Tr.IX 0 0 rfl rfl fun LB=>(Tr.seq (Tr.BI (tp rfl (Bv rfl Cu) (tp rfl (Bv rfl Cu) ?_))))))
 refine Tl rfl rfl rfl rfl z35 Jq (fun b1=> ?_)
 refine ao ?_
 refine ac ?_
 refine co rfl (CE (Dv hf) rfl rfl) ?_
 refine an ?_ ?_<;>intro h1 q1
 have Vb:FU e=false:=by cases h_:FU e with|false=>rfl|true=>exact absurd h1 Mt
 have Ys:Kc e c l=31:=by unfold Kc;rw [if_pos Vb]
 have hb:Kc e c l≠0:=by rw [Ys];decide
 refine ao ?_
 refine TO.AV 0 rfl rfl rfl vq Cu rfl Cq rfl rfl ?_
 refine ao ?_
 refine Tr.ret (Fin.AF (Fin.BW rfl (AQ.cell 0 rfl rfl EG Cq rfl Lr) (AQ.tmp rfl Lr) ?_))
 refine BK ⟨?_,?_,trivial⟩
 · exact Sg (UU hb) hb
 · refine int_eq ?_;rw [UU hb,Ys]
 have Vb:¬FU e=false:=by intro h_;rw [h_] at h1;exact absurd h1 AD
 refine a2 ?_
 refine co rfl (Bu (KQ (c:=c) (m:=((e.Bw.length:Nat):Int))) rfl rfl rfl) ?_
 refine ac ?_
 refine wk [12,10,6,4,3,2] rfl ?_
 refine an ?_ ?_<;>intro h2 q2
 have hck:c.check ((e.Bw.length:Nat):Int)≠0:=by simpa using h2
 have Ys:Kc e c l=c.check ((e.Bw.length:Nat):Int):=by unfold Kc;rw [if_neg Vb,if_pos hck]
 have hb:Kc e c l≠0:=by rw [Ys];exact hck
 refine ao ?_
 refine TO.AV 0 rfl rfl rfl vq Cu rfl Cq rfl rfl ?_
 refine ao ?_
 refine Tr.ret (Fin.AF (Fin.BW rfl (AQ.cell 0 rfl rfl EG Cq rfl Lr) (AQ.tmp rfl Lr) ?_))
 refine BK ⟨?_,?_,trivial⟩
 · exact Sg (UU hb) hb
 · refine int_eq ?_;rw [UU hb,Ys]
 have hck:c.check ((e.Bw.length:Nat):Int)=0:=by simpa using h2
 have Ys:Kc e c l=Ee c l:=by unfold Kc;rw [if_neg Vb,if_neg (not_not_intro hck)]
 obtain ⟨how,htl,hth⟩:=UT hck
 refine a2 ?_
 refine co rfl (Bu (Sv (c:=c) (l:=l) how) rfl rfl rfl) ?_
 refine ac ?_
 refine wk [14,13,10,6,4,3,2] rfl ?_
 refine an ?_ ?_<;>intro h3 q3
 have hte:Ee c l≠0:=by simpa using h3
 have hb:Kc e c l≠0:=by rw [Ys];exact hte
 refine ao ?_
 refine TO.AV 0 rfl rfl rfl vq Cu rfl Cq rfl rfl ?_
 refine ao ?_
 refine Tr.ret (Fin.AF (Fin.BW rfl (AQ.cell 0 rfl rfl EG Cq rfl Lr) (AQ.tmp rfl Lr) ?_))
 refine BK ⟨?_,?_,trivial⟩
 · exact Sg (UU hb) hb
 · refine int_eq ?_;rw [UU hb,Ys]
 have hte:Ee c l=0:=by simpa using h3
 have hb:Kc e c l=0:=by rw [Ys];exact hte
 have Nw:=(Sf hte).1
 have SH:=xB hte hth
 obtain ⟨T,hT⟩:∃T,l.map (Sd c)=T:=⟨_,rfl⟩
 have hTl:T.length=l.length:=by rw [←hT,List.length_map]
 rw [hT] at SH
 refine Tr.re 13 rfl (Pr.le_of_eq (by rw [X8 hte,hT])) ?_
 refine a2 ?_
 refine co rfl (Bu (a_ (n:=((l.length:Nat):Int)) (l:=r) hrl) rfl rfl rfl) ?_
 refine ac ?_
 refine wk [15,14,13,10,6,4,3,2] rfl ?_
 refine an ?_ ?_<;>intro h4 q4
 have hv:BR (l.length:Nat) r≠0:=by simpa using h4
 refine ao ?_
 refine TO.AV 0 rfl rfl rfl vq Cu rfl Cq rfl rfl ?_
 refine ao ?_
 refine Tr.ret (Fin.AF (Fin.BW rfl (AQ.cell 0 rfl rfl EG Cq rfl Lr) (AQ.tmp rfl Lr) ?_))
 refine BK ⟨?_,?_,trivial⟩
 · exact Sg (zK hb hv) hv
 · refine int_eq ?_;exact (zK hb hv).symm
 have hv:BR (l.length:Nat) r=0:=by simpa using h4
 obtain ⟨row,hrow⟩:∃row,(DU l.length r l.length).1=row:=⟨_,rfl⟩
 obtain ⟨jD,AKX⟩:=JQ hv l.length AR
 rw [Int.toNat_natCast,hrow] at jD AKX
 have hrq:∀q∈r,(0≤q.fst∧q.fst<l.length)∧0≤q.thn∧q.fst≠q.thn:=fun q hq=>by
  have h_:=(DT hv).2.1 q hq
  unfold FY at h_;rw [decide_eq_false_iff_not] at h_;omega
 refine Tr.re 15 rfl (Pr.le_of_eq (by rw [if_pos hv,Int.toNat_natCast,hrow])) ?_
 refine ac ?_
 refine ao ?_
 refine tp rfl (Xs (m:=l.length) rfl underlying22 BJ IE z3 rfl AD AD vq vq Fa AA) ?_
 refine tp rfl (Au (rows:=[(0,[_]),(1,[_]),(2,[_])]) rfl zk Jq ⟨⟨rfl,Ce⟩,⟨⟨rfl,Ce⟩,⟨⟨rfl,⟨_,rfl,Pr.le_trans (Pr.le_trans (BF _ _) (Pr.le_of_eq (show _=slice 1 ((List.replicate l.length (0:Int)).map fun n=>[int n]) by rw [List.map_replicate];rfl))) (AO _)⟩⟩,trivial⟩⟩⟩ rfl) ?_
 refine TO.mj rfl rfl AD rfl (bG (d:=List.replicate l.length 0) M6 AA hrl (by rw [List.length_replicate];omega)) kz (fun v1=> ?_)
 refine Tl rfl rfl rfl rfl z35 Jq (fun b2=> ?_)
 refine TO.AV 0 rfl rfl rfl vq Cu rfl Cq rfl rfl ?_
 refine ao ?_
 refine wk [16,15,13,10,6,4,3] rfl ?_
 refine a2 ?_
 refine Tr.block (Tr.B5 3 1 (Tr.B5 3 1 (Tr.lT _ (kk [69,68,16,13,10,6,4,3] rfl) (fun (dy:List Int) (b:List Int) (y:List Int) (k:Nat) u u2=>[(70,int ((k:Nat):Int)),(17,Ag u (ints b)),(18,Ag u2 (ints y))]) (fun (dy:List Int) (b:List Int) (y:List Int) (k:Nat) u u2=>Hp M0 w0 FG ([Ax 3 1 u2,Ax 3 1 u,AE true b2 35 [FV l,reqs r,is v1],CX 3 1 (dy.map fun n=>[int n]) v1,AE true b1 35 (([.slice none 0 0,.slice none 0 0,.slice none 0 0]:List Value).map is)])) (fun (dy:List Int) (b:List Int) (y:List Int) (k:Nat)=>k≤row.length∧OV c r T fr l.length (row.take k)=some (dy,b,y)) (fun (dy:List Int) (b:List Int) (y:List Int) (k:Nat)=>row.length-k) (List.replicate l.length 0) ([]) ([]) (0) (.slice none 0 0) (.slice none 0 0) (⟨Nat.zero_le _,rfl⟩) ⟨kq,⟨_,rfl,Bf rfl⟩,⟨_,rfl,Bf rfl⟩,trivial⟩ (fun _ _ h=>h) ?_)))
 rintro dy b y k u u2 ⟨hk0,hsc⟩
 have hS:=TQ.run (k:=k) jD (fun q hq=>by have:=hrq q hq;omega) Nw how (fun i h1 h2=>SH _ (List.mem_of_getElem? (LJ (l:=T) (i:=i.toNat) AA))) hk0 hsc
 have hdl:=hS.len
 have VU:b.length=k:=by rw [hS.hb,List.length_map,List.length_take];omega
 have NF:y.length=k:=by rw [hS.hd,List.length_map,List.length_take];omega
 refine ac ?_
 refine Tr.seq ?_
 refine Tr.cn rfl ?_ ?_<;>intro h5 q5
 have hk:k<row.length:=AJ h5
 obtain ⟨i,hi⟩:=at_ hk
 have hrg:=jD.WA i (List.mem_of_getElem? hi)
 have hti:T[i.toNat]? =some (Yt T i):=LJ AA
 refine ac ?_
 refine Tr.seq (Tr.block (Tr.seq (Tr.Bq (co rfl (AB rfl underlying38 BJ vq vq AA (Ad hi)) ?_))))
 refine ac ?_
 refine wk [70,69,68,20,18,17,16,13,10,6,4,3] rfl ?_
 refine ac ?_
 refine wk [70,69,68,21,20,18,17,16,13,10,6,4,3] rfl ?_
 refine ac ?_
 refine wk [77,76,75,70,69,68,21,20,18,17,16,13,10,6,4,3] rfl (Tr.block (Tr.A0 _ (kk [76,75,70,69,68,20,18,17,16,13,10,6,4,3] rfl) (fun m:Nat=>[(77,int ((m:Nat):Int)),(21,int (F5 (r.take m) dy i fr))]) (fun m:Nat=>m≤(r).length) (fun m:Nat=>(r).length-m) 0 (Nat.zero_le _) ⟨kq,kz⟩ ?_))
 rintro m KM
 refine ac ?_
 refine wk [78,77,76,75,70,69,68,21,20,18,17,16,13,10,6,4,3] rfl (Tr.seq ?_)
 refine Tr.cn rfl ?_ ?_<;>intro h6 q6
 have Du:m<(r).length:=AJ h6
 obtain ⟨q,Dn⟩:=at_ Du
 refine ac ?_
 refine wk [77,76,75,70,69,68,21,20,18,17,16,13,10,6,4,3] rfl (Tr.seq (Tr.block (Tr.seq (Tr.BI (tp rfl (AB rfl underlying33 Dy vq vq AA (Ad Dn)) (tp rfl (Al rfl Jd Dy vq rfl rfl) ?_))))))
 refine Tl rfl rfl rfl rfl z85 RQ (fun b3=> ?_)
 refine sf 0 23 ⟨rfl,rfl,rfl⟩ rfl rfl rfl rfl ?_
 refine ao ?_
 refine wk [77,76,75,70,69,68,23,21,20,18,17,16,13,10,6,4,3] rfl ?_
 refine ac ?_
 refine wk [84,77,76,75,70,69,68,23,21,20,18,17,16,13,10,6,4,3] rfl ?_
 refine Tr.cn rfl ?_ ?_<;>intro h7 q7
 have hqr:=hrq q (List.mem_of_getElem? Dn)
 have hz:=LJ (l:=dy) (i:=q.fst.toNat) (by have:=hS.len;omega)
 have hzb:=hS.bnd _ (List.mem_of_getElem? hz)
 refine ac ?_
 refine co rfl (Bi 3 rfl (Zh rfl underlying22 BJ vq vq AA F8)) ?_
 refine co rfl (Bi 3 rfl (aH rfl BT vq (Bh fun _=>rfl) (by rw [List.getElem?_map,hz];rfl) rfl)) ?_
 refine jz rfl rfl rfl rfl AA (co rfl (N9 rfl vq vq) ?_)
 refine ac ?_
 refine wk [77,76,75,70,69,68,21,20,18,17,16,13,10,6,4,3] rfl ?_
 refine ac ?_
 exact Fin.AL (m+1) ⟨Du,by omega⟩ ⟨⟨_,rfl,AG m⟩,⟨_,rfl,int_eq (by rw [Sh Dn,if_pos (by simpa using h7)])⟩,kz⟩
 refine ac ?_
 refine wk [77,76,75,70,69,68,21,20,18,17,16,13,10,6,4,3] rfl ?_
 refine ac ?_
 exact Fin.AL (m+1) ⟨Du,by omega⟩ ⟨⟨_,rfl,AG m⟩,⟨_,rfl,int_eq (by rw [Sh Dn,if_neg (by simpa using h7)])⟩,kz⟩
 have Il:m=(r).length:=by have:=AK h6;omega
 subst Il
 rw [List.take_length]
 refine ac ?_
 refine wk [70,69,68,21,20,18,17,16,13,10,6,4,3] rfl ?_
 refine ac ?_
 refine co rfl (AB rfl underlying22 BJ vq vq AA (Be hti)) ?_
 refine ac ?_
 refine co rfl (AY rfl (Xl (c:=c) (An:=b) (days:=y) (n:=Yt T i) (from_:=F5 r dy i fr)) ⟨kq,Fo,Fo,kz⟩) ?_
 refine ac ?_
 refine wk [70,69,68,25,24,20,18,17,16,13,10,6,4,3] rfl ?_
 refine ac ?_
 refine wk [109,70,69,68,24,20,18,17,16,13,10,6,4,3] rfl ?_
 refine Tr.cn rfl ?_ ?_<;>intro h8 q8
 have hno:c.early b y (Yt T i) (F5 r dy i fr)=none:=by simpa using h8
 refine ao ?_
 refine TO.AV 4 rfl rfl rfl vq Cu rfl Cq rfl rfl ?_
 refine ao ?_
 refine wk [11,10] rfl (Tr.ret (Fin.AF (Fin.AP (Fin.AF (Fin.AF (Fin.AP (Fin.AF (Fin.BW rfl (AQ.cell 4 rfl rfl EG Cq rfl Lr) (AQ.tmp rfl Lr) ?_))))))))
 refine BK ⟨?_,?_,trivial⟩
 · exact Sg (qd hb hv cY) AD
 · refine int_eq ?_;exact (qd hb hv cY).symm
 obtain ⟨x,hx⟩:∃x,c.early b y (Yt T i) (F5 r dy i fr)=some x:=Option.isSome_iff_exists.1 (by simpa using h8)
 have hdi:=LJ (l:=dy) (i:=i.toNat) (by have:=hS.len;omega)
 refine Tr.re 24 rfl (int_eq (by rw [hx])) ?_
 refine ac ?_
 refine wk [70,69,68,24,20,18,17,16,13,10,6,4,3] rfl ?_
 refine ao ?_
 refine tp rfl (Bi 3 rfl (Zh rfl underlying22 BJ vq vq AA F8)) ?_
 refine TO.C0 3 rfl rfl (Ru rfl rfl vq Ce BJ rfl (Bh fun _=>rfl) (by rw [List.getElem?_map,hdi];rfl) AD (show _=(dy.set i.toNat x).map _ by rw [List.map_set];rfl)) ?_
 refine ao ?_
 refine wk [70,69,68,24,20,18,17,16,13,10,6,4,3] rfl ?_
 refine ao ?_
 refine tp rfl (AB rfl underlying22 BJ vq vq AA (Be hti)) ?_
 refine ao ?_
 refine TO.C1 1 rfl rfl AD (B7 rfl rfl rfl rfl underlying22 BJ IE z3 Fo Ea (A7 BD Gi)) (fun v2=> ?_)
 refine ao ?_
 refine TO.C1 0 rfl rfl AD (B7 rfl rfl rfl rfl underlying22 BJ IE z3 Fo Ea (A7 BD Gi)) (fun v3=> ?_)
 refine ao ?_
 refine wk [70,69,68,18,17,16,13,10,6,4,3] rfl ?_
 refine ac ?_
 exact Fin.tS (dy.set i.toNat x) (b++[Yt T i]) (y++[x]) (k+1) v2 v3 (⟨⟨hk,wS hi hsc hx⟩,by omega⟩) ⟨⟨_,rfl,AG k⟩,⟨_,rfl,A9 DC⟩,⟨_,rfl,A9 DC⟩,kz⟩ (fun _ _ h=>h)
 have hkr:k=row.length:=by have:=AK h5;omega
 rw [hkr,List.take_length] at hsc
 have hsr:Wp c l r fr=some (dy,b,y):=by unfold Wp;rw [hT,hrow];exact hsc
 refine ac ?_
 refine Tr.seq (Tr.NL 2 3 2 rfl rfl AD rfl Lr (Bh fun _=>rfl) ?_)
 refine ao ?_
 refine TO.AV 4 rfl rfl rfl vq Cu rfl Cq rfl rfl ?_
 refine ao ?_
 refine wk [11,10] rfl (Tr.ret (Fin.BW rfl (AQ.cell 4 rfl rfl EG Cq rfl Lr) (AQ.tmp rfl Lr) ?_))
 refine BK ⟨?_,?_,trivial⟩
 · exact xC (zL hb hv hsr) hsr
 · refine int_eq ?_;exact (zL hb hv hsr).symm
theorem rG {l:List Bl} {n:Nat} (hc:∀c∈l,c.DM.fits∧c.DM.small):∀(s:List Int) (Bw:List CF),(∀x∈Bw,x.sz n)→(∀x∈(OP l s Bw).1,x.sz (n+s.length))∧(OP l s Bw).1.length=Bw.length
 |[],Bw,h=>⟨h,rfl⟩
 |i::s,Bw,h=>by
  rw [OP]
  split
  · exact ⟨fun x hx=>(h x hx).le AA,rfl⟩
  next c kM=>
  by_cases ha:(MM Bw c).2=0
  ·
   rw [if_pos ha]
   have:=rG (n:=n+1) hc s (MM Bw c).1 (oH h (hc c (List.mem_of_getElem? kM)))
   rw [eV] at this
   exact ⟨fun x hx=>by rw [List.length_cons,show n+(s.length+1)=n+1+s.length by omega];exact this.1 x hx,this.2⟩
  · rw [if_neg ha];exact ⟨fun x hx=>(h x hx).le AA,rfl⟩
theorem fc {e:Dg} {l:List Bl} {s:List Int} {n:Nat} (hz:e.sz n) (hc:∀c∈l,c.DM.fits∧c.DM.small):(V4 e l s).1.sz (n+s.length):=by
 have h0:GK.sz (n+s.length):=⟨(fun x hx=>by cases hx),(fun x hx=>by cases hx),Nat.zero_le _,Nat.zero_le _,Nat.zero_le _⟩
 obtain ⟨h1,h2⟩:=rG hc s e.Bw hz.Bw
 unfold V4
 repeat' split
 · exact h0
 · exact h0
 · exact h0
 · exact ⟨h1,hz.items,by show (OP l s e.Bw).1.length≤_;rw [h2];exact hz.le,hz.lg,hz.li⟩
 · exact h0
theorem O6.sz {e:Dg} (h:O6 e):e.sz 5:=by
 have h3:=h.n3;have g3:=h.g3;have i2:=h.i2
 refine ⟨fun x hx=> ?_,fun x hx=>⟨by have:=(h.it x hx).name;unfold maxLen;omega,by have:=(h.it x hx).links;omega⟩,by omega,by omega,by omega⟩
 obtain ⟨i,hi⟩:=List.getElem?_of_mem hx
 exact vp (h.snd i x hi)
end Go.Proofs.YteomgekmipcdpaaGreatDoor
