/-
  Part 4 of the texts that prove this claim, merged.
-/
import Derived.Test.YteomgekmipcdpaaGreatDoorRbCP3
set_option linter.all false
set_option maxRecDepth 40000
set_option maxHeartbeats 16000000
namespace Go.Proofs.YteomgekmipcdpaaGreatDoor
open Go Go.RowKit Cp Go.Proofs.Tryz
variable {I:Cc} {E:Env} {f:FuncId} {nm:List UInt8} {b d i j k m n:Nat} {o:Oper} {x:Operand} {q:Pr} {P:Program} {t:TypeId} {w:World}
theorem Zq {t:Int} {n:Bool} {B:Nat} (hb:b≤1000) (hm:m≤20) (hB:B≤1000000) (ih:m=0∨A_ prog 245 [agg (Bm q)] (Es B)):A_ prog 245 [agg [int t,eG b,bool n,slice 4 (List.replicate m (Bm q))]] (Es (2*(1000+20*B)+2)):=by
 refine fo func245 rfl ⟨rfl,rfl⟩ fun M0 w0=> ?_
 have hlr:(List.replicate m (Bm q)).length=m:=List.length_replicate
 have hlb:(List.replicate b T8).length=b:=List.length_replicate
 refine ac ?_
 refine ap ?_
 refine TO.pad ?_
 refine TO.C1 0 rfl rfl AD (B7 rfl rfl rfl rfl underlying213 Nq dK z5 Ea vq (Bc BD vq)) (fun v1=> ?_)
 refine ap ?_
 refine ac ?_
 refine Tr.block (Tr.Cy _ (kk [1] rfl) (fun (k:Nat) (acc:Nat) v=>[(4,int ((k:Nat):Int)),(3,Ag v (eG acc))]) (fun (k:Nat) (acc:Nat) v=>Hp M0 w0 FG ([Ax 5 1 v])) (fun (k:Nat) (acc:Nat)=>k≤m∧acc≤b+k*B) (fun (k:Nat) (acc:Nat)=>m-k) (0) (b) v1 (⟨by omega,by omega⟩) ⟨kq,⟨_,rfl,A9 AR⟩,trivial⟩ (fun _ _ h=>h) ?_)
 rintro k acc v ⟨hk1,hk2⟩
 have hkB:k*B≤20*B:=Nat.mul_le_mul_right B AA
 refine ac ?_
 refine co rfl (CB rfl underlying302 vq) ?_
 refine an ?_ ?_<;>intro h1 q1
 have hkm:k<m:=by have:=FM.Gp h1;rw [hlr] at this;omega
 have ih2:=ih.resolve_left AA
 refine ac ?_
 refine ap ?_
 refine tp rfl (AB rfl underlying302 Ck vq vq AA (KI hkm)) (tp rfl (Al rfl DQ Ck vq rfl rfl) (tp rfl (CE (ih2) rfl rfl) ?_))
 refine TO.ex 22 rfl (fun z22=>TO.fact 22 rfl fun ALa=> ?_)
 refine TO.C1 0 rfl rfl AD (B7 rfl rfl rfl rfl underlying213 Nq dK z5 Fo vq (A7 BD Gi)) (fun v2=> ?_)
 refine ap ?_
 refine wk [4,3,1] rfl ?_
 refine ac ?_
 exact Fin.Bg (k+1) (acc+z22) v2 (⟨⟨by omega,by rw [Nat.succ_mul];omega⟩,by omega⟩) ⟨⟨_,rfl,AG k⟩,⟨_,rfl,A9 (by rw [NS])⟩,kz⟩ (fun _ _ h=>h)
 have Te:k=m:=by have:=FM.Gp h1;rw [hlr] at this;omega
 have II:=eI acc
 refine ac ?_
 refine Tr.seq (Tr.pad (Tr.rx ?_))
 refine ay ?_
 refine xo rfl (fun _=>Cr rfl underlying3 underlying5 vq) (xo rfl (fun _=>Aa (xs:=[.tmp 26]) (rows:=[T8]) rfl rfl underlying213 Nq z5 rfl AD ⟨⟨Ao,VL.le vq (Pr.le_trans (Cf _ _) (AO _))⟩,trivial⟩ AD) ?_)
 refine xm rfl (xo rfl (fun _=>CB rfl underlying213 Fo) ?_)
 refine xo rfl (fun _=>AY rfl (hO (n:=acc) AA) ⟨⟨_,rfl,int_eq AR⟩,trivial⟩) ?_
 refine Cx.ef 0 rfl rfl AD (B7 rfl rfl rfl rfl underlying213 Nq dK z5 Ea vq (Bc BD vq)) ?_
 refine xm rfl ?_
 refine Cx.ef 0 rfl rfl AD (B7 rfl rfl rfl rfl underlying213 Nq dK z5 vq Fo gK) ?_
 refine Cx.ef 0 rfl rfl AD (VG rfl rfl AD rfl vq) ?_
 refine Cx.nil ⟨by kernel_rfl,?_⟩
 refine BE.open_ 0 2 rfl rfl (fun v3=> ?_)
 refine BE.done Mk (Fin.go (wk [2] rfl ?_))
 refine ac ?_
 · exact F6 (m:=1+g_ acc+acc) (by have:=eI acc;omega) (Pr.le_trans (At _ _) (Pr.le_of_eq (by rw [show ([T8]:List (List Pr))=List.replicate 1 T8 from rfl,NS,NS])))
theorem iA {D B:Nat} (hf:A_ prog 243 [agg (Bm q)] EN) (hd:A_ prog 244 [agg (Bm q)] (MC D)) (hp:A_ prog 245 [agg (Bm q)] (Es B)):A_ prog 204 [agg (Bm q)] (DW [Es B,Dt .i64]):=by
 refine fo func204 rfl ⟨rfl,rfl⟩ fun M0 w0=> ?_
 refine ac ?_
 refine ap ?_
 refine tp rfl (CE (hf) rfl rfl) ?_
 refine TO.ex 6 rfl (fun z6=> ?_)
 refine ap ?_
 refine Tr.cn rfl ?_ ?_<;>intro h1 q1
 refine ac ?_
 refine Tr.ret (Fin.AF (Fin.Co rfl (Bt.Dx _ _) rfl ?_ rfl ?_))
 · exact Pn
 · exact Cf _ _
 refine ac ?_
 refine ap ?_
 refine tp rfl (CE (hd) rfl rfl) ?_
 refine TO.ex 9 rfl (fun z9=>TO.fact 9 rfl fun hz9=> ?_)
 refine ap ?_
 refine Tr.cn rfl ?_ ?_<;>intro h2 q2
 refine ac ?_
 refine Tr.ret (Fin.AF (Fin.Co rfl (Bt.Dx _ _) rfl ?_ rfl ?_))
 · exact Pn
 · exact Cf _ _
 refine a2 ?_
 refine co rfl (CE (hp) rfl rfl) ?_
 refine ac ?_
 refine ap ?_
 refine TO.ex 13 rfl (fun z13=>TO.fact 13 rfl fun ALb=> ?_)
 refine tp rfl (CB rfl underlying213 vq) ?_
 refine ap ?_
 refine wk [15,4] rfl ?_
 refine Tr.cn rfl ?_ ?_<;>intro h3 q3
 refine ac ?_
 refine Tr.ret (Fin.AF (Fin.Co rfl (Bt.Dx _ _) rfl ?_ rfl ?_))
 · exact Pn
 · exact Cf _ _
 refine a2 ?_
 refine Tr.ret (Fin.Co rfl (Bt.Dx _ _) rfl ?_ rfl ?_)
 · exact Lr
 · exact Cf _ _
theorem vX:IntKind.u8.wrap 0=0:=rfl
def lvI (x:Int):Nat:=if x≤0 then 0 else if x<256 then 1 else if x<65536 then 2 else if x<16777216 then 3 else if x<4294967296 then 4 else if x<1099511627776 then 5 else 6+x.toNat
theorem nT {x:Int} (h:0<x):lvI (x/256)<lvI x:=by
 unfold lvI
 repeat' split
 all_goals omega
def NT (x h:Int):Nat:=if x=0 then (if 128≤h then 1 else 0) else lvI x+1
theorem vY {n h:Int} (h0:0≤n) (h1:n≤1099511627776):NT (n/256) h≤400:=by
 unfold NT lvI
 repeat' split
 all_goals omega
theorem HM {x h:Int} {t:Nat} (h0:0≤x) (hc:x≠0∨128≤h) (hi:t+NT x h≤400):(0≤x/256∧t+1+NT (x/256) (IntKind.u8.wrap x)≤400)∧NT (x/256) (IntKind.u8.wrap x)<NT x h:=by grind [NT,vX,nT]
theorem Hy {u:TypeId} {y:Operand} {m:Int} (ho:o.op= .binOp .shr t x y u) (hx:VL E x (int m)) (hy:VL E y (is (.int .u64 8))) (h0:0≤m):Ab P I o E (int (m/256)):=
 Ab.same fun M w a he _=>by
  have h1:a.eval x= .int .i64 m:=hx.ev he Ap
  have h2:a.eval y= .int .u64 8:=hy.ev he Ap
  refine ⟨.int .i64 (m.fdiv 256),?_,congrArg (Value.int .i64) (Int.fdiv_eq_ediv_of_nonneg m AA)⟩
  simp only [execOp,ho,h1,h2]
  simp [eqGuard,binOp,Op.shift,IntKind.bits]
abbrev q0:Pr:=slice 4 []
theorem MD {n:Int} (hn:0≤n∧n≤1099511627776):A_ prog 248 [int n] (agg (Bm q0)):=by
 refine fo func248 rfl ⟨rfl,rfl⟩ fun M0 w0=>(Tr.seq (Tr.BI ?_))
 refine Tl rfl rfl rfl rfl OG Lj (fun b1=> ?_)
 refine ap ?_
 refine ac ?_
 refine co rfl (Cr rfl underlying3 underlying5 vq) ?_
 refine a2 ?_
 refine co rfl (Hy rfl vq vq AA) ?_
 refine ac ?_
 refine Tr.block ?_
 refine Tr.Gd _ (kk [2] rfl) (fun (x:Int) (h:Int) (t:List Int)=>[(4,int x),(3,slice 1 ((h::t).map fun n=>[is (.int .u8 n)]))]) (fun (x:Int) (h:Int) (t:List Int)=>Hp M0 w0 FG ([AE true b1 304 (([.int .i64 0,.slice none 0 0,.bool false,.slice none 0 0]:List Value).map is)])) (fun (x:Int) (h:Int) (t:List Int)=>0≤x∧t.length+NT x h≤400) (fun (x:Int) (h:Int) (t:List Int)=>NT x h) (n/256) (IntKind.u8.wrap n) ([])  (⟨by omega,by simp only [List.length_nil];have:=vY (h:=IntKind.u8.wrap n) hn.1 hn.2;omega⟩) ⟨kq,⟨_,rfl,Pr.le_trans (BF _ _) (Pr.le_of_eq rfl)⟩,trivial⟩ (fun _ _ h=>h) ?_
 rintro x h t  ⟨hx0,hmu⟩
 refine ag ?_ ?_<;>intro h1 q1
 refine ag ?_ ?_<;>intro h2 q2
 refine ac ?_
 refine wk [35,4,3,2] rfl ?_
 refine ac ?_
 refine ap ?_
 refine tp rfl (Cr rfl underlying3 underlying5 vq) ?_
 refine ap ?_
 refine TO.pad ?_
 refine TO.C1 0 rfl rfl AD (B7 rfl rfl rfl rfl underlying213 Nq dK z5 Ea vq (Bc BD vq)) (fun v1=> ?_)
 refine ap ?_
 refine ac ?_
 refine co rfl (Hy rfl vq vq AA) ?_
 refine ac ?_
 refine Fin.drop 0 (Fin.DE (x/256) (IntKind.u8.wrap x) (h::t)  ((HM hx0 AA hmu)) ⟨kq,⟨_,rfl,Pr.le_trans (At _ _) (Pr.le_of_eq rfl)⟩,kz⟩ (fun _ _ h=>h))
 refine ag ?_ ?_<;>intro h3 q3
 refine OB h3 rfl ?_
 refine cy h3 rfl (AB rfl underlying213 Nq vq vq AA (Ad (k:=0) rfl)) ?_
 refine ag ?_ ?_<;>intro h4 q4
 refine ac ?_
 refine wk [35,4,3,2] rfl ?_
 refine ac ?_
 refine ap ?_
 refine tp rfl (Cr rfl underlying3 underlying5 vq) ?_
 refine ap ?_
 refine TO.pad ?_
 refine TO.C1 0 rfl rfl AD (B7 rfl rfl rfl rfl underlying213 Nq dK z5 Ea vq (Bc BD vq)) (fun v2=> ?_)
 refine ap ?_
 refine ac ?_
 refine co rfl (Hy rfl vq vq AA) ?_
 refine ac ?_
 refine Fin.drop 0 (Fin.DE (x/256) (IntKind.u8.wrap x) (h::t)  ((HM hx0 AA hmu)) ⟨kq,⟨_,rfl,Pr.le_trans (At _ _) (Pr.le_of_eq rfl)⟩,kz⟩ (fun _ _ h=>h))
 refine ag ?_ ?_<;>intro h5 q5
 refine OB h5 rfl ?_
 refine cy h5 rfl (AB rfl underlying213 Nq vq vq AA (Ad (k:=0) rfl)) ?_
 refine ac ?_
 refine wk [35,4,3,2] rfl ?_
 refine Tr.cn rfl ?_ ?_<;>intro h6 q6
 have XW:=h6
 refine ac ?_
 refine ap ?_
 refine tp rfl (Cr rfl underlying3 underlying5 vq) ?_
 refine ap ?_
 refine TO.pad ?_
 refine TO.C1 0 rfl rfl AD (B7 rfl rfl rfl rfl underlying213 Nq dK z5 Ea vq (Bc BD vq)) (fun v3=> ?_)
 refine ap ?_
 refine ac ?_
 refine co rfl (Hy rfl vq vq AA) ?_
 refine ac ?_
 refine Fin.drop 0 (Fin.DE (x/256) (IntKind.u8.wrap x) (h::t)  ((HM hx0 AA hmu)) ⟨kq,⟨_,rfl,Pr.le_trans (At _ _) (Pr.le_of_eq rfl)⟩,kz⟩ (fun _ _ h=>h))
 have XW:=h6
 refine ac ?_
 refine ap ?_
 refine Tr.ret (Fin.CY rfl (AQ.cell 0 rfl rfl DQ Ck rfl Lr) ?_)
 · exact Jy
 refine ac ?_
 refine wk [35,4,3,2] rfl ?_
 refine ac ?_
 refine ap ?_
 refine Tr.ret (Fin.CY rfl (AQ.cell 0 rfl rfl DQ Ck rfl Lr) ?_)
 · exact Jy
 refine ag ?_ ?_<;>intro h7 q7
 refine OB h7 rfl ?_
 refine cy h7 rfl (AB rfl underlying213 Nq vq vq AA (Ad (k:=0) rfl)) ?_
 refine ac ?_
 refine wk [35,4,3,2] rfl ?_
 refine Tr.cn rfl ?_ ?_<;>intro h8 q8
 have XW:=h8
 refine ac ?_
 refine ap ?_
 refine tp rfl (Cr rfl underlying3 underlying5 vq) ?_
 refine ap ?_
 refine TO.pad ?_
 refine TO.C1 0 rfl rfl AD (B7 rfl rfl rfl rfl underlying213 Nq dK z5 Ea vq (Bc BD vq)) (fun v4=> ?_)
 refine ap ?_
 refine ac ?_
 refine co rfl (Hy rfl vq vq AA) ?_
 refine ac ?_
 refine Fin.drop 0 (Fin.DE (x/256) (IntKind.u8.wrap x) (h::t)  ((HM hx0 AA hmu)) ⟨kq,⟨_,rfl,Pr.le_trans (At _ _) (Pr.le_of_eq rfl)⟩,kz⟩ (fun _ _ h=>h))
 have XW:=h8
 refine ac ?_
 refine ap ?_
 refine Tr.ret (Fin.CY rfl (AQ.cell 0 rfl rfl DQ Ck rfl Lr) ?_)
 · exact Jy
 refine ac ?_
 refine wk [35,4,3,2] rfl ?_
 refine ac ?_
 refine ap ?_
 refine Tr.ret (Fin.CY rfl (AQ.cell 0 rfl rfl DQ Ck rfl Lr) ?_)
 · exact Jy
 refine ag ?_ ?_<;>intro h9 q9
 refine OB h9 rfl ?_
 refine cy h9 rfl (AB rfl underlying213 Nq vq vq AA (Ad (k:=0) rfl)) ?_
 refine ag ?_ ?_<;>intro h10 O2
 refine ac ?_
 refine wk [35,4,3,2] rfl ?_
 refine ac ?_
 refine ap ?_
 refine tp rfl (Cr rfl underlying3 underlying5 vq) ?_
 refine ap ?_
 refine TO.pad ?_
 refine TO.C1 0 rfl rfl AD (B7 rfl rfl rfl rfl underlying213 Nq dK z5 Ea vq (Bc BD vq)) (fun v5=> ?_)
 refine ap ?_
 refine ac ?_
 refine co rfl (Hy rfl vq vq AA) ?_
 refine ac ?_
 refine Fin.drop 0 (Fin.DE (x/256) (IntKind.u8.wrap x) (h::t)  ((HM hx0 AA hmu)) ⟨kq,⟨_,rfl,Pr.le_trans (At _ _) (Pr.le_of_eq rfl)⟩,kz⟩ (fun _ _ h=>h))
 refine ag ?_ ?_<;>intro h11 Rz
 refine OB h11 rfl ?_
 refine cy h11 rfl (AB rfl underlying213 Nq vq vq AA (Ad (k:=0) rfl)) ?_
 refine ac ?_
 refine wk [35,4,3,2] rfl ?_
 refine Tr.cn rfl ?_ ?_<;>intro h12 TN
 have XW:=h12
 refine ac ?_
 refine ap ?_
 refine tp rfl (Cr rfl underlying3 underlying5 vq) ?_
 refine ap ?_
 refine TO.pad ?_
 refine TO.C1 0 rfl rfl AD (B7 rfl rfl rfl rfl underlying213 Nq dK z5 Ea vq (Bc BD vq)) (fun v6=> ?_)
 refine ap ?_
 refine ac ?_
 refine co rfl (Hy rfl vq vq AA) ?_
 refine ac ?_
 refine Fin.drop 0 (Fin.DE (x/256) (IntKind.u8.wrap x) (h::t)  ((HM hx0 AA hmu)) ⟨kq,⟨_,rfl,Pr.le_trans (At _ _) (Pr.le_of_eq rfl)⟩,kz⟩ (fun _ _ h=>h))
 have XW:=h12
 refine ac ?_
 refine ap ?_
 refine Tr.ret (Fin.CY rfl (AQ.cell 0 rfl rfl DQ Ck rfl Lr) ?_)
 · exact Jy
 refine ac ?_
 refine wk [35,4,3,2] rfl ?_
 refine ac ?_
 refine ap ?_
 refine Tr.ret (Fin.CY rfl (AQ.cell 0 rfl rfl DQ Ck rfl Lr) ?_)
 · exact Jy
 refine ag ?_ ?_<;>intro J8 Vs
 refine OB J8 rfl ?_
 refine cy J8 rfl (AB rfl underlying213 Nq vq vq AA (Ad (k:=0) rfl)) ?_
 refine ac ?_
 refine wk [35,4,3,2] rfl ?_
 refine Tr.cn rfl ?_ ?_<;>intro Mi nU
 have XW:=Mi
 refine ac ?_
 refine ap ?_
 refine tp rfl (Cr rfl underlying3 underlying5 vq) ?_
 refine ap ?_
 refine TO.pad ?_
 refine TO.C1 0 rfl rfl AD (B7 rfl rfl rfl rfl underlying213 Nq dK z5 Ea vq (Bc BD vq)) (fun v7=> ?_)
 refine ap ?_
 refine ac ?_
 refine co rfl (Hy rfl vq vq AA) ?_
 refine ac ?_
 refine Fin.drop 0 (Fin.DE (x/256) (IntKind.u8.wrap x) (h::t)  ((HM hx0 AA hmu)) ⟨kq,⟨_,rfl,Pr.le_trans (At _ _) (Pr.le_of_eq rfl)⟩,kz⟩ (fun _ _ h=>h))
 have XW:=Mi
 refine ac ?_
 refine ap ?_
 refine Tr.ret (Fin.CY rfl (AQ.cell 0 rfl rfl DQ Ck rfl Lr) ?_)
 · exact Jy
 refine ac ?_
 refine wk [35,4,3,2] rfl ?_
 refine ac ?_
 refine ap ?_
 refine Tr.ret (Fin.CY rfl (AQ.cell 0 rfl rfl DQ Ck rfl Lr) ?_)
 · exact Jy
theorem Vu {s:List UInt8} (hs:s.length≤1000):A_ prog 246 [str s] (agg (Bm q0)):=by
 refine fo func246 rfl ⟨rfl,rfl⟩ fun M0 w0=>(Tr.seq (Tr.BI ?_))
 refine Tl rfl rfl rfl rfl OG Lj (fun b1=> ?_)
 refine ap ?_
 refine ap ?_
 refine tp rfl (XD rfl underlying9 underlying213 underlying5 vq Fa) ?_
 refine ap ?_
 refine Tr.ret (Fin.CY rfl (AQ.cell 0 rfl rfl DQ Ck rfl Lr) ?_)
 · exact BP ⟨Cf _ _,F6 (m:=s.length) AA (Y7 (f:=fun c:UInt8=>((c.toNat:Nat):Int))),As _ Lr,AM 4,trivial⟩
theorem vZ {b:Bool}  :A_ prog 250 [bool b] (agg (Bm q0)):=by
 refine fo func250 rfl ⟨rfl,rfl⟩ fun M0 w0=>(Tr.seq (Tr.BI ?_))
 refine Tl rfl rfl rfl rfl OG Lj (fun b1=> ?_)
 refine ap ?_
 refine an ?_ ?_<;>intro h1 q1
 refine ap ?_
 refine tp rfl (Au (rows:=[(0,[_]),(1,[_])]) rfl mG Lj ⟨⟨rfl,Ce⟩,⟨⟨rfl,⟨_,rfl,Pr.le_trans (BF _ _) (AO _)⟩⟩,trivial⟩⟩ rfl) ?_
 refine ap ?_
 refine Tr.ret (Fin.AF (Fin.CY rfl (AQ.cell 0 rfl rfl DQ Ck rfl Lr) ?_))
 · exact bt
 refine ac ?_
 refine ap ?_
 refine tp rfl (Au (rows:=[(0,[_]),(1,[_])]) rfl mG Lj ⟨⟨rfl,Ce⟩,⟨⟨rfl,⟨_,rfl,Pr.le_trans (BF _ _) (AO _)⟩⟩,trivial⟩⟩ rfl) ?_
 refine ap ?_
 refine Tr.ret (Fin.CY rfl (AQ.cell 0 rfl rfl DQ Ck rfl Lr) ?_)
 · exact bt
theorem ON [One q] (hm:m≤20) (ih:m=0∨A_ prog 276 [q] q):A_ prog 276 [slice 4 (List.replicate m (Bm q))] (slice 4 (List.replicate m (Bm q))):=by
 refine fo func276 rfl ⟨rfl,rfl⟩ fun M0 w0=> ?_
 have hlr:(List.replicate m (Bm q)).length=m:=List.length_replicate
 refine ac ?_
 refine ac ?_
 refine ac ?_
 refine Tr.block (Tr.B5 304 4 (Tr.EM _ (kk [0] rfl) (fun k v=>[(4,int ((k:Nat):Int)),(3,Ag v (slice 4 (List.replicate k (Bm q))))]) (fun k v=>Hp M0 w0 FG ([Ax 304 4 v])) (fun k:Nat=>k≤((List.replicate m (Bm q)).length)) (fun k:Nat=>((List.replicate m (Bm q)).length)-k) 0 (.slice none 0 0) (Nat.zero_le _) ⟨ke rfl,⟨_,rfl,Bf rfl⟩,trivial⟩ (fun _ _ h=>h) ?_))
 rintro k v BN
 refine ac ?_
 refine co rfl (CB rfl underlying302 (vl rfl)) ?_
 refine ac ?_
 refine Tr.cn rfl ?_ ?_<;>intro h1 q1
 have Ae:k<((List.replicate m (Bm q)).length):=AJ h1
 have hkm:k<m:=by simpa using Ae
 have ih2:=ih.resolve_left AA
 refine ac ?_
 refine ap ?_
 refine tp rfl (AB rfl underlying302 Ck (vl rfl) (vl rfl) AA (KI hkm)) (tp rfl (Al rfl DQ Ck (vl rfl) rfl rfl) ?_)
 refine Tl rfl rfl rfl rfl OG Lj (fun b1=> ?_)
 refine ap ?_
 refine ap ?_
 refine TO.ex 18 rfl (fun z18=>TO.fact 18 rfl fun AJu=> ?_)
 refine TO.pad ?_
 refine TO.C1 0 rfl rfl AD (B7 rfl rfl rfl rfl underlying213 Nq dK z5 (Kf rfl) (vl rfl) (Bc BD (vl rfl))) (fun v1=> ?_)
 refine ap ?_
 refine wk [5,4,3,0] rfl ?_
 refine ap ?_
 refine tp rfl (CE (ih2) rfl rfl) ?_
 refine ap ?_
 refine Tr.BI (tm rfl (TO.rd 1 rfl rfl rfl AD (Fg rfl DQ Ck (vl rfl) rfl rfl) (tp rfl (Aa (xs:=[.tmp 26]) (rows:=[Bm q]) rfl rfl underlying302 Ck OG rfl AD ⟨⟨Ao,VL.le (vl rfl) (Pr.le_trans (BP (qs:=Bm q) ⟨Lr,F6 (m:=z18) AA (Pr.le_trans (At _ _) (Pr.le_of_eq rfl)),Lr,Lr,trivial⟩) (Ah _))⟩,trivial⟩ AD) ?_)))
 refine TO.C1 2 rfl rfl AD (B7 rfl rfl rfl rfl underlying302 Ck yZ OG (Kb rfl) (Kf rfl) (A7 BD (Ka rfl))) (fun v2=> ?_)
 refine ap ?_
 refine Tr.drop 1 ?_
 refine ac ?_
 refine Fin.drop 0 (Fin.C_ (k+1) v2 (⟨Ae,by omega⟩) ⟨⟨_,rfl,AG k⟩,⟨_,rfl,A9 (by rw [eH])⟩,kz⟩ (fun _ _ h=>h))
 have BC:k=((List.replicate m (Bm q)).length):=by have:=AK h1;omega
 refine ac ?_
 refine ac ?_
 refine ac ?_
 · exact Pr.le_trans (At _ _) (Pr.le_of_eq (by rw [BC,hlr]))
theorem Vv (hm:m≤20) (hc:A_ prog 276 [slice 4 (List.replicate m (Bm q))] (slice 4 (List.replicate m (Bm q)))):A_ prog 247 [slice 4 (List.replicate m (Bm q))] (agg (Bm (KH (Bm q)))):=by
 refine fo func247 rfl ⟨rfl,rfl⟩ fun M0 w0=>(Tr.seq (Tr.BI ?_))
 refine Tl rfl rfl rfl rfl OG Lj (fun b1=> ?_)
 refine ap ?_
 refine ap ?_
 refine tp rfl (CE (hc) rfl rfl) ?_
 refine ap ?_
 refine Tr.ret (Fin.CY rfl (AQ.cell 0 rfl rfl DQ Ck rfl Lr) ?_)
 · exact BP ⟨Cf _ _,F6 (m:=0) AA (AM 1),As _ Lr,As m (Ar hm Lr),trivial⟩
structure Jh.vf (c:Jh):Prop where
 s0:0≤c.KD
 s1:c.KD≤1099511627776
 iss:named c.OJ=true
 sub:named c.K6=true
 nm:HK c.names=true
 key:Le c.TK c.Lm 2=true
 k0:0≤c.CW
 k1:c.CW≤2147483648
 hash:Le c.Zm c.Rw 1=true
 sk0:0≤c.vO
 sk1:c.vO≤2147483648
 su0:0≤c.vP
 su1:c.vP<4294967296
 f0:0≤c.from_
 ft:c.from_≤c.OK
 t1:c.OK≤40000
 p0:0≤c.path
 p1:c.path≤8
 ap:c.auth=true∨c.path=0
theorem Ja {c:Jh} (hv:EB c=true):c.vf:=by
 simp only [EB,IP,AAw,Bool.and_eq_true,Bool.or_eq_true,decide_eq_true_eq,beq_iff_eq] at hv
 obtain ⟨⟨⟨⟨⟨⟨⟨h1,h2⟩,h3⟩,h4⟩,h5⟩,⟨⟨⟨⟨h6,⟨h7,h8⟩⟩,h9⟩,⟨h10,h11⟩⟩,⟨h12,J8⟩⟩⟩,⟨⟨Mi,Wi⟩,h16⟩⟩,⟨⟨OD,RO⟩,nQ⟩⟩:=hv
 exact ⟨h1,h2,h3,h4,h5,h6,h7,h8,h9,h10,h11,h12,J8,Mi,Wi,h16,OD,RO,nQ⟩
theorem eJ {c:Jh} (h:c.vf):EB c=true:=by
 simp only [EB,IP,AAw,Bool.and_eq_true,Bool.or_eq_true,decide_eq_true_eq,beq_iff_eq]
 exact ⟨⟨⟨⟨⟨⟨⟨h.s0,h.s1⟩,h.iss⟩,h.sub⟩,h.nm⟩,⟨⟨⟨⟨h.key,⟨h.k0,h.k1⟩⟩,h.hash⟩,⟨h.sk0,h.sk1⟩⟩,⟨h.su0,h.su1⟩⟩⟩,⟨⟨h.f0,h.ft⟩,h.t1⟩⟩,⟨⟨h.p0,h.p1⟩,h.ap⟩⟩
theorem Zr {a b k:Int} (h:Le a b k=true):decide (Bx a b>0)=true∧(DG a).kind=k:=by
 unfold Le at h;simpa using h
theorem Vw {l:List (List UInt8)} {s:List UInt8} (h:nameAt l k=true) (hs:l[k]? =some s):named s=true:=by
 unfold nameAt at h;rw [hs] at h;simp at h;exact h.1
theorem eK {l:List (List UInt8)} {s y:List UInt8} (h:nameAt l k=true) (hs:l[k]? =some s) (hy:l[k-1]? =some y) (hk:0<k):decide (Lib.compareBytes y s= -1)=true:=by grind [nameAt]
theorem T_ {c:Jh} (hv:EB c=true):A_ prog 136 [agg (F4 c)] (int 0):=by
 refine fo func136 rfl ⟨rfl,rfl⟩ fun M0 w0=> ?_
 obtain ⟨hs0,hs1,AAz,hsub,hnm,hkey,hk0,hk1,yw,AJv,AJw,AJx,AJy,kK,hft,ht1,hp0,Mj,hap⟩:=Ja hv
 obtain ⟨AFk,AFl⟩:=Zr hkey
 obtain ⟨hh1,hh2⟩:=Zr yw
 have OO:=hnm
 unfold HK at OO
 rw [Bool.and_eq_true,CA,decide_eq_true_eq] at OO
 obtain ⟨hall,AFm⟩:=OO
 refine ac ?_
 refine ag ?_ ?_<;>intro h1 q1
 exfalso;have:=q1;omega
 refine ag ?_ ?_<;>intro h2 q2
 exfalso;have:=q2;omega
 refine ac ?_
 refine cy h2 rfl (CE (G1) rfl rfl) ?_
 refine ag ?_ ?_<;>intro h3 q3
 rw [AAz] at h3;exact absurd h3 AD
 refine ac ?_
 refine cy h3 rfl (CE (G1) rfl rfl) ?_
 refine ag ?_ ?_<;>intro h4 q4
 rw [hsub] at h4;exact absurd h4 AD
 refine ac ?_
 refine cy h4 rfl (CE (KG) rfl rfl) ?_
 refine ag ?_ ?_<;>intro h5 q5
 rw [AFk,AFl] at h5;exact absurd h5 AD
 refine ag ?_ ?_<;>intro h6 q6
 exfalso;have:=q6;omega
 refine ac ?_
 refine wk [39,1] rfl ?_
 refine Tr.cn rfl ?_ ?_<;>intro h7 q7
 exfalso;have:=q7;omega
 refine a2 ?_
 refine co rfl (CE (KF) rfl rfl) ?_
 refine ag ?_ ?_<;>intro h8 q8
 rw [hh1] at h8;exact absurd h8 AD
 refine ac ?_
 refine cy h8 rfl (CE (QH) rfl rfl) ?_
 refine ag ?_ ?_<;>intro h9 q9
 rw [hh2] at h9;exact absurd h9 AD
 refine ag ?_ ?_<;>intro h10 O2
 exfalso;have:=O2;omega
 refine ag ?_ ?_<;>intro h11 Rz
 exfalso;have:=Rz;omega
 refine ac ?_
 refine wk [67,1] rfl ?_
 refine Tr.cn rfl ?_ ?_<;>intro h12 TN
 exfalso;have:=TN;omega
 refine ac ?_
 refine ag ?_ ?_<;>intro J8 Vs
 exfalso;have:=Vs;omega
 refine ag ?_ ?_<;>intro Mi nU
 exfalso;have:=nU;omega
 refine ag ?_ ?_<;>intro Wi q15
 refine ag ?_ ?_<;>intro h16 q16
 exfalso;have:=q16;simp_all
 refine ac ?_
 refine wk [91,1] rfl ?_
 refine Tr.cn rfl ?_ ?_<;>intro OD q17
 exfalso;have:=q17;omega
 refine a2 ?_
 refine Tr.block (Tr.A0 _ (kk [1] rfl) (fun k:Nat=>[(3,int ((k:Nat):Int))]) (fun k:Nat=>k≤(c.names).length) (fun k:Nat=>(c.names).length-k) 0 (Nat.zero_le _) kz ?_)
 rintro k BN
 refine an ?_ ?_<;>intro RO q18
 have Ae:k<(c.names).length:=AJ RO
 obtain ⟨s,Af⟩:=at_ Ae
 have hat:=hall k AA
 have hna:=Vw hat Af
 refine a2 ?_
 refine co rfl (AB rfl underlying51 Hs vq vq AA (Ad Af)) (co rfl (JA rfl Ge rfl) (co rfl (CE (G1) rfl rfl) ?_))
 refine ag ?_ ?_<;>intro nQ q19
 exfalso;rw [hna] at nQ;exact absurd nQ AD
 refine ag ?_ ?_<;>intro R3 q20
 have ME:0<k:=by simpa using R3
 obtain ⟨y,hy⟩:=at_ (l:=c.names) (k:=k-1) AA
 have hlt:=eK hat Af hy ME
 refine ac ?_
 refine cy R3 rfl (AB rfl underlying51 Hs vq vq AA Ly) ?_
 refine ac ?_
 refine cy R3 rfl (AB rfl underlying51 Hs vq vq AA (Ad Af)) (cy R3 rfl (JA rfl Ge rfl) (cy R3 rfl (Rb rfl vq vq) ?_))
 refine ac ?_
 refine wk [123,3,1] rfl ?_
 refine Tr.cn rfl ?_ ?_<;>intro Zo q21
 exfalso;rw [hlt] at Zo;exact absurd Zo AD
 refine a2 ?_
 exact Fin.AL (k+1) ⟨Ae,by omega⟩ ⟨⟨_,rfl,AG k⟩,kz⟩
 refine ac ?_
 refine wk [123,3,1] rfl ?_
 refine a2 ?_
 exact Fin.AL (k+1) ⟨Ae,by omega⟩ ⟨⟨_,rfl,AG k⟩,kz⟩
 have BC:k=(c.names).length:=by have:=AK RO;omega
 refine ac ?_
 refine ag ?_ ?_<;>intro h22 q22
 exfalso;have:=q22;omega
 refine ag ?_ ?_<;>intro h23 q23
 exfalso;have:=q23;omega
 refine ag ?_ ?_<;>intro Nw q24
 exfalso;have:=q24;omega
 refine ac ?_
 refine wk [145] rfl ?_
 refine Tr.cn rfl ?_ ?_<;>intro h25 q25
 exfalso;have:=q25;omega
 refine a3 ?_
 · exact Lr
 refine ac ?_
 refine wk [91,1] rfl ?_
 refine Tr.cn rfl ?_ ?_<;>intro h26 q26
 exfalso;have:=q26;omega
 refine a2 ?_
 refine Tr.block (Tr.A0 _ (kk [1] rfl) (fun k:Nat=>[(3,int ((k:Nat):Int))]) (fun k:Nat=>k≤(c.names).length) (fun k:Nat=>(c.names).length-k) 0 (Nat.zero_le _) kz ?_)
 rintro k BN
 refine an ?_ ?_<;>intro h27 q27
 have Ae:k<(c.names).length:=AJ h27
 obtain ⟨s,Af⟩:=at_ Ae
 have hat:=hall k AA
 have hna:=Vw hat Af
 refine a2 ?_
 refine co rfl (AB rfl underlying51 Hs vq vq AA (Ad Af)) (co rfl (JA rfl Ge rfl) (co rfl (CE (G1) rfl rfl) ?_))
 refine ag ?_ ?_<;>intro h28 q28
 exfalso;rw [hna] at h28;exact absurd h28 AD
 refine ag ?_ ?_<;>intro kL q29
 have ME:0<k:=by simpa using kL
 obtain ⟨y,hy⟩:=at_ (l:=c.names) (k:=k-1) AA
 have hlt:=eK hat Af hy ME
 refine ac ?_
 refine cy kL rfl (AB rfl underlying51 Hs vq vq AA Ly) ?_
 refine ac ?_
 refine cy kL rfl (AB rfl underlying51 Hs vq vq AA (Ad Af)) (cy kL rfl (JA rfl Ge rfl) (cy kL rfl (Rb rfl vq vq) ?_))
 refine ac ?_
 refine wk [123,3,1] rfl ?_
 refine Tr.cn rfl ?_ ?_<;>intro h30 q30
 exfalso;rw [hlt] at h30;exact absurd h30 AD
 refine a2 ?_
 exact Fin.AL (k+1) ⟨Ae,by omega⟩ ⟨⟨_,rfl,AG k⟩,kz⟩
 refine ac ?_
 refine wk [123,3,1] rfl ?_
 refine a2 ?_
 exact Fin.AL (k+1) ⟨Ae,by omega⟩ ⟨⟨_,rfl,AG k⟩,kz⟩
 have BC:k=(c.names).length:=by have:=AK h27;omega
 refine ac ?_
 refine ag ?_ ?_<;>intro h31 q31
 exfalso;have:=q31;omega
 refine ag ?_ ?_<;>intro h32 q32
 exfalso;have:=q32;omega
 refine ag ?_ ?_<;>intro h33 q33
 exfalso;have:=q33;omega
 refine ac ?_
 refine wk [145] rfl ?_
 refine Tr.cn rfl ?_ ?_<;>intro h34 q34
 exfalso;have:=q34;omega
 refine a3 ?_
 · exact Lr
abbrev vc:Pr:=Cp.ex fun n:Int=>fact (0≤n∧n<4294967296) (is (.int .u32 n))
abbrev AA0:Pr:=Cp.ex fun n:Int=>fact (0≤n∧n<4294967296) (int n)
theorem ve:Pr.le vc (Dt .u32):=fun _ _ _ ⟨n,_,h⟩=>⟨n,h⟩
section
variable {P:Program} {I:Cc} {E:Env} {o:Oper}
theorem nV {s:TypeId} {k k':IntKind} (ho:o.op= .convert s t x) (hs:P.underlying s=some (.int k)) (ht:P.underlying t=some (.int k')) (hx:VL E x (Dt k)):Ab P I o E (Dt k'):=
 Ab.same fun M w a he _=>by
  obtain ⟨n,h1⟩:=hx.ev he Ap
  have h1:a.eval x= .int k n:=h1
  refine ⟨.int k' (k'.wrap n),?_,_,rfl⟩
  simp [execOp,ho,h1,convert,run_underlying hs,run_underlying ht,Conv.intToInt,Sem.run_bind]
theorem vg {u:TypeId} {y:Operand} (ho:o.op= .binOp .mul t x y u) (hx:VL E x (Dt .u32)) (hy:VL E y (Dt .u32)):Ab P I o E vc:=
 Ab.same fun M w a he _=>by
  obtain ⟨m,h1⟩:=hx.ev he Ap
  obtain ⟨n,h2⟩:=hy.ev he Ap
  have h1:a.eval x= .int .u32 m:=h1
  have h2:a.eval y= .int .u32 n:=h2
  refine ⟨.int .u32 (IntKind.u32.wrap (m*n)),by simp [execOp,ho,h1,h2,eqGuard,binOp,Op.intArith],_,?_,rfl⟩
  rw [IntKind.wrap_u32];omega
theorem iB {s:TypeId} (ho:o.op= .convert s t x) (hs:P.underlying s=some (.int .u32)) (ht:P.underlying t=some (.int .i64)) (hx:VL E x vc):Ab P I o E AA0:=
 Ab.same fun M w a he _=>by
  obtain ⟨n,hn,h1⟩:=hx.ev he Ap
  have h1:a.eval x= .int .u32 n:=h1
  refine ⟨.int .i64 (IntKind.i64.wrap n),?_,n,hn,by rw [Gz Ku];rfl⟩
  simp [execOp,ho,h1,convert,run_underlying hs,run_underlying ht,Conv.intToInt,Sem.run_bind]
end
theorem A_.KH {row:List Pr} (h:∀m,m≤20→A_ P f [slice 4 (List.replicate m row)] (slice 4 (List.replicate m row))):A_ P f [Go.Proofs.YteomgekmipcdpaaGreatDoor.KH row] (Go.Proofs.YteomgekmipcdpaaGreatDoor.KH row):=by
 refine ⟨(h 0 AA).1,fun M w vs hb hv=> ?_⟩
 match vs,hv with
 |[u0],TI=>
  obtain ⟨⟨m,hm,h0⟩,_⟩:=TI
  exact ((h m hm).2 M w [u0] hb ⟨h0,trivial⟩).mono fun e w' ⟨v,h1,h2,h3⟩=>⟨v,h1,⟨m,hm,h2⟩,h3⟩
theorem A_.Es {B:Nat} {res:Pr} (h:∀m,m≤B→A_ P f [eG m] res):A_ P f [Go.Proofs.YteomgekmipcdpaaGreatDoor.Es B] res:=by
 refine ⟨(h 0 AA).1,fun M w vs hb hv=> ?_⟩
 match vs,hv with
 |[u0],TI=>
  obtain ⟨⟨m,hm,h0⟩,_⟩:=TI
  exact (h m hm).2 M w [u0] hb ⟨h0,trivial⟩
abbrev Nr:Pr:=KH (Bm q0)
abbrev qA2:Pr:=KH (Bm Nr)
theorem O4:Pr.le q0 Nr:=As 0 (Ar AA (Pr.le_refl _))
theorem rc0:A_ Tryz.prog 276 [q0] q0:=ON (m:=0) (q:=q0) AA (.inl rfl)
theorem rc1 (m:Nat) (hm:m≤20):A_ Tryz.prog 276 [slice 4 (List.replicate m (Bm q0))] (slice 4 (List.replicate m (Bm q0))):=ON hm (.inr rc0)
theorem rc2 (m:Nat) (hm:m≤20):A_ Tryz.prog 276 [slice 4 (List.replicate m (Bm Nr))] (slice 4 (List.replicate m (Bm Nr))):=ON hm (.inr (A_.KH rc1))
theorem rf0:A_ Tryz.prog 243 [agg (Bm q0)] EN:=A_.nS fun t b n hb=>OM (m:=0) (q:=q0) hb AA (.inl rfl)
theorem rf1:A_ Tryz.prog 243 [agg (Bm Nr)] EN:=A_.Bm fun t b n m hb hm=>OM hb hm (.inr rf0)
theorem rf2:A_ Tryz.prog 243 [agg (Bm qA2)] EN:=A_.Bm fun t b n m hb hm=>OM hb hm (.inr rf1)
theorem rd0:A_ Tryz.prog 244 [agg (Bm q0)] (MC 1):=A_.nS fun t b n hb=>R4 (m:=0) (q:=q0) (D:=0) hb AA AA (.inl rfl)
theorem rd1:A_ Tryz.prog 244 [agg (Bm Nr)] (MC 2):=A_.Bm fun t b n m hb hm=>R4 hb hm AA (.inr rd0)
theorem rd2:A_ Tryz.prog 244 [agg (Bm qA2)] (MC 3):=A_.Bm fun t b n m hb hm=>R4 hb hm AA (.inr rd1)
theorem rp0:A_ Tryz.prog 245 [agg (Bm q0)] (Es 2002):=A_.nS fun t b n hb=>Zq (m:=0) (q:=q0) (B:=0) hb AA AA (.inl rfl)
theorem rp1:A_ Tryz.prog 245 [agg (Bm Nr)] (Es 82082):=A_.Bm fun t b n m hb hm=>Zq (B:=2002) hb hm AA (.inr rp0)
theorem rp2:A_ Tryz.prog 245 [agg (Bm qA2)] (Es 3285282):=A_.Bm fun t b n m hb hm=>Zq (B:=82082) hb hm AA (.inr rp1)
theorem rE2:A_ Tryz.prog 204 [agg (Bm qA2)] (DW [Es 3285282,Dt .i64]):=iA rf2 rd2 rp2
structure Jh.Zs (c:Jh):Prop where
 KD:c.KD≤1099511627776
 CW:c.CW≤2147483648
 TK:0≤c.TK∧c.TK≤40000
 Lm:0≤c.Lm∧c.Lm≤40000
 Zm:0≤c.Zm∧c.Zm≤40000
 Rw:0≤c.Rw∧c.Rw≤40000
theorem K9 {s:List UInt8} (h:named s=true):s.length≤32:=by unfold named at h;simp at h;omega
theorem eL {a b:Int} (ha:0≤a∧a≤40000) (hb:0≤b∧b≤40000):A_ prog 249 [agg [int a,int b]] (agg (Bm Nr)):=by
 refine fo func249 rfl ⟨rfl,rfl⟩ fun M0 w0=>(Tr.seq (Tr.BI (tp rfl (Bv rfl Cu) ?_)))
 refine Tl rfl rfl rfl rfl OG Lj (fun b1=> ?_)
 refine ap ?_
 refine Tr.seq (Tr.rx ?_)
 refine ay ?_
 refine xo rfl (fun _=>CE (MD AA) rfl rfl) ?_
 refine ay ?_
 refine xo rfl (fun _=>CE (MD AA) rfl rfl) (xo rfl (fun _=>Aa (xs:=[.tmp 5,.tmp 8]) (rows:=[_,_]) rfl rfl underlying302 Ck OG rfl AD ⟨⟨Ao,(Va rfl)⟩,⟨⟨Ao,(Va rfl)⟩,trivial⟩⟩ AD) ?_)
 refine xo rfl (fun _=>AY rfl (Vv (m:=2) (q:=q0) AA (rc1 _ AA)) ⟨Ea,trivial⟩) ?_
 refine Cx.C0 0 rfl rfl (Aq rfl rfl vq Cu Ck rfl Am rfl) ?_
 refine Cx.nil ⟨by kernel_rfl,?_⟩
 refine BE.done al1 (Fin.go (Tr.ret (Fin.CY rfl (AQ.cell 0 rfl rfl DQ Ck rfl Lr) ?_)))
 · exact Lr
theorem XX {c:Jh} (hv:EB c=true) (ht:c.Zs):A_ prog 205 [agg (F4 c)] (agg (Bm qA2)):=by
 refine fo func205 rfl ⟨rfl,rfl⟩ fun M0 w0=> ?_
 obtain ⟨hs0,hs1,AAz,hsub,hnm,hkey,hk0,hk1,yw,AJv,AJw,AJx,AJy,kK,hft,ht1,hp0,Mj,hap⟩:=Ja hv
 obtain ⟨g1,g2,g3,g4,g5,g6⟩:=ht
 have OO:=hnm
 unfold HK at OO
 rw [Bool.and_eq_true,CA,decide_eq_true_eq] at OO
 obtain ⟨hall,AFm⟩:=OO
 have cw:=K9 AAz
 have hlj:=K9 hsub
 refine Tr.seq (Tr.BI (tp rfl (Bv rfl (Va rfl)) ?_))
 refine Tl rfl rfl rfl rfl OG Lj (fun b1=> ?_)
 refine ap ?_
 refine a2 ?_
 refine Tr.block (Tr.B5 304 4 (Tr.EM _ (kk [2,1] rfl) (fun k v=>[(4,int ((k:Nat):Int)),(3,Ag v (slice 4 (List.replicate k (Bm q0))))]) (fun k v=>Hp M0 w0 FG ([Ax 304 4 v,AE true b1 304 (([.int .i64 0,.slice none 0 0,.bool false,.slice none 0 0]:List Value).map is)])) (fun k:Nat=>k≤(c.names).length) (fun k:Nat=>(c.names).length-k) 0 (.slice none 0 0) (Nat.zero_le _) ⟨ke rfl,⟨_,rfl,Bf rfl⟩,trivial⟩ (fun _ _ h=>h) ?_))
 rintro k v BN
 refine an ?_ ?_<;>intro h1 q1
 have Ae:k<(c.names).length:=AJ h1
 obtain ⟨s,Af⟩:=at_ Ae
 have hsn:=K9 (Vw (hall k AA) Af)
 refine ac ?_
 refine ap ?_
 refine tp rfl (AB rfl underlying51 Hs (vl rfl) (vl rfl) AA Bk) ?_
 refine tp rfl (JA rfl Ge rfl) (tp rfl (CE (Vu AA) rfl rfl) (tp rfl (Aa (xs:=[.tmp 18]) (rows:=[_]) rfl rfl underlying302 Ck OG rfl AD ⟨⟨Ao,(Va rfl)⟩,trivial⟩ AD) ?_))
 refine TO.C1 0 rfl rfl AD (B7 rfl rfl rfl rfl underlying302 Ck yZ OG (Kb rfl) (Kf rfl) (A7 BD (Ka rfl))) (fun v1=> ?_)
 refine ap ?_
 refine wk [4,3,2,1] rfl ?_
 refine ac ?_
 exact Fin.C_ (k+1) v1 (⟨Ae,by omega⟩) ⟨⟨_,rfl,AG k⟩,⟨_,rfl,A9 (by rw [eH])⟩,kz⟩ (fun _ _ h=>h)
 have BC:k=(c.names).length:=by have:=AK h1;omega
 refine ac ?_
 refine Tr.seq (Tr.rx ?_)
 refine ay ?_
 refine xo rfl (fun _=>CE (MD AA) rfl rfl) ?_
 refine ay ?_
 refine xo rfl (fun _=>CE (Vu AA) rfl rfl) ?_
 refine ay ?_
 refine xo rfl (fun _=>CE (Vu AA) rfl rfl) ?_
 refine ay ?_
 refine xo rfl (fun _=>CE (eL g3 g4) rfl rfl) ?_
 refine ay ?_
 refine xo rfl (fun _=>CE (MD AA) rfl rfl) ?_
 refine ay ?_
 refine xo rfl (fun _=>CE (eL g5 g6) rfl rfl) ?_
 refine ay ?_
 refine xo rfl (fun _=>CE (MD AA) rfl rfl) ?_
 refine ay ?_
 refine xo rfl (fun _=>CE (MD AA) rfl rfl) ?_
 refine ay ?_
 refine xo rfl (fun _=>CE (vZ) rfl rfl) ?_
 refine ay ?_
 refine xo rfl (fun _=>CE (MD AA) rfl rfl) (xm rfl ?_)
 refine xo rfl (fun _=>AY rfl (Vv (m:=c.names.length) (q:=q0) AA (rc1 _ AA)) ⟨⟨_,rfl,Pr.le_trans (At _ _) (Pr.le_of_eq (by rw [BC]))⟩,trivial⟩) ?_
 refine xo rfl (fun _=>Aa (xs:=[.tmp 23,.tmp 26,.tmp 29,.tmp 32,.tmp 35,.tmp 38,.tmp 41,.tmp 44,.tmp 47,.tmp 50,.tmp 52]) (rows:=[Bm Nr,Bm Nr,Bm Nr,Bm Nr,Bm Nr,Bm Nr,Bm Nr,Bm Nr,Bm Nr,Bm Nr,Bm Nr]) rfl rfl underlying302 Ck OG rfl AD ⟨⟨Ao,VL.le (vl rfl) (Pr.le_trans (BP (qs:=Bm Nr) ⟨Lr,Lr,Lr,O4,trivial⟩) (Ah _))⟩,⟨⟨Ao,VL.le (vl rfl) (Pr.le_trans (BP (qs:=Bm Nr) ⟨Lr,Lr,Lr,O4,trivial⟩) (Ah _))⟩,⟨⟨Ao,VL.le (vl rfl) (Pr.le_trans (BP (qs:=Bm Nr) ⟨Lr,Lr,Lr,O4,trivial⟩) (Ah _))⟩,⟨⟨Ao,VL.le (vl rfl) (Ah _)⟩,⟨⟨Ao,VL.le (vl rfl) (Pr.le_trans (BP (qs:=Bm Nr) ⟨Lr,Lr,Lr,O4,trivial⟩) (Ah _))⟩,⟨⟨Ao,VL.le (vl rfl) (Ah _)⟩,⟨⟨Ao,VL.le (vl rfl) (Pr.le_trans (BP (qs:=Bm Nr) ⟨Lr,Lr,Lr,O4,trivial⟩) (Ah _))⟩,⟨⟨Ao,VL.le (vl rfl) (Pr.le_trans (BP (qs:=Bm Nr) ⟨Lr,Lr,Lr,O4,trivial⟩) (Ah _))⟩,⟨⟨Ao,VL.le (vl rfl) (Pr.le_trans (BP (qs:=Bm Nr) ⟨Lr,Lr,Lr,O4,trivial⟩) (Ah _))⟩,⟨⟨Ao,VL.le (vl rfl) (Pr.le_trans (BP (qs:=Bm Nr) ⟨Lr,Lr,Lr,O4,trivial⟩) (Ah _))⟩,⟨⟨Ao,VL.le (vl rfl) (Ah _)⟩,trivial⟩⟩⟩⟩⟩⟩⟩⟩⟩⟩⟩ AD) ?_
 refine xo rfl (fun _=>AY rfl (Vv (m:=11) (q:=Nr) AA (rc2 _ AA)) ⟨(Kf rfl),trivial⟩) ?_
 refine Cx.C0 1 rfl rfl (Aq rfl rfl (vl rfl) (Va rfl) Ck rfl Am rfl) ?_
 refine Cx.nil ⟨by kernel_rfl,?_⟩
 refine BE.done Mk (Fin.go (wk [2] rfl (Tr.ret (Fin.CY rfl (AQ.cell 1 rfl rfl DQ Ck rfl Lr) ?_))))
 · exact Lr
theorem iC {c:Jh} (hv:EB c=true) (ht:c.Zs):A_ prog 137 [agg (F4 c)] (DW [Es 3285282,Dt .i64]):=by
 refine fo func137 rfl ⟨rfl,rfl⟩ fun M0 w0=> ?_
 refine a2 ?_
 refine co rfl (CE (T_ hv) rfl rfl) ?_
 refine an ?_ ?_<;>intro h1 q1
 exact absurd h1 AD
 refine a2 ?_
 refine co rfl (CE (XX hv ht) rfl rfl) (co rfl (CE (rE2) rfl rfl) ?_)
 refine ac ?_
 refine Tr.ret (Fin.Co rfl (Bt.Dx _ _) rfl ?_ rfl ?_)
 · exact Lr
 · exact Lr
theorem eM (hm:m≤100000000):A_ prog 138 [eG m] (AA0):=by
 refine fo func138 rfl ⟨rfl,rfl⟩ fun M0 w0=> ?_
 have hlr:(List.replicate m T8).length=m:=List.length_replicate
 refine a3 ?_
 refine Tr.block (Tr.A0 _ (kk [0] rfl) (fun k:Nat=>[(4,int ((k:Nat):Int)),(3,vc)]) (fun k:Nat=>k≤((List.replicate m T8).length)) (fun k:Nat=>((List.replicate m T8).length)-k) 0 (Nat.zero_le _) ⟨kq,⟨_,rfl,As _ (Ar AA Lr)⟩,trivial⟩ ?_)
 rintro k BN
 refine ac ?_
 refine co rfl (CB rfl underlying213 vq) ?_
 refine an ?_ ?_<;>intro h1 q1
 have Ae:k<((List.replicate m T8).length):=AJ h1
 have hkm:k<m:=by simpa using Ae
 refine a2 ?_
 refine co rfl (AB rfl underlying213 Nq vq vq AA (KI hkm)) (co rfl (JA rfl ADh rfl) (co rfl (nV rfl underlying5 underlying141 vq) (co rfl (QB AD rfl (VL.le vq ve) vq) (co rfl (vg rfl vq (VL.le vq (Cf _ _))) ?_))))
 refine ac ?_
 refine wk [4,3,0] rfl ?_
 refine ac ?_
 exact Fin.AL (k+1) ⟨Ae,by omega⟩ ⟨⟨_,rfl,AG k⟩,kz⟩
 have BC:k=((List.replicate m T8).length):=by have:=AK h1;omega
 refine a2 ?_
 refine co rfl (iB rfl underlying141 underlying3 vq) ?_
 refine a2 ?_
 · exact Lr
theorem nW {c:Jh} (hn:c.names.length≤1000):A_ prog 135 [agg (F4 c)] (agg (F4 c)):=by
 refine fo func135 rfl ⟨rfl,rfl⟩ fun M0 w0=>(Tr.seq (Tr.BI ?_))
 refine TO.gL rfl rfl AD rfl Cu (fun b1=> ?_)
 refine Tl rfl rfl rfl rfl z171 RW (fun b2=> ?_)
 refine ap ?_
 refine ap ?_
 refine TO.pad ?_
 refine TO.C1 0 rfl rfl AD (B7 rfl rfl rfl rfl underlying51 Hs by9 z9 Ea vq (Bc BD vq)) (fun v1=> ?_)
 refine ap ?_
 refine ap ?_
 refine Tr.drop 2 (Tr.ret (Fin.CY rfl (AQ.cell 1 rfl rfl OE F2 rfl Lr) ?_))
 · exact BP ⟨Lr,Lr,Lr,Lr,Lr,Lr,Lr,Lr,Lr,Lr,Lr,Lr,Pr.le_trans (At _ _) (Pr.le_of_eq AR),Lr,Lr,trivial⟩
abbrev R6 (c:Jh) (key s:Int):Jh:=⟨c.KD,c.OJ,c.K6,c.TK,c.Lm,c.CW,c.Zm,c.Rw,c.from_,c.OK,c.auth,c.path,c.names,key,s⟩
theorem nX {c:Jh} {key:Int} (hv:EB (R6 c 0 0)=true) (ht:(R6 c 0 0).Zs) (hk:0≤key∧key≤2147483648):A_ prog 82 [agg (F4 c),int key] (Cp.ex fun s:Int=>fact (0≤s∧s<4294967296) (DW [agg (F4 (R6 c key s)),int 0])):=by
 refine fo func82 rfl ⟨rfl,rfl⟩ fun M0 w0=> ?_
 have hnn:c.names.length≤1000:=by have:=(Ja hv).nm;unfold HK at this;simp at this;omega
 refine Tr.seq (Tr.BI ?_)
 refine TO.gL rfl rfl AD rfl (Va rfl) (fun b1=> ?_)
 refine Tl rfl rfl rfl rfl z171 RW (fun b2=> ?_)
 refine ap ?_
 refine ap ?_
 refine tp rfl (CE (nW (c:=c) hnn) rfl rfl) ?_
 refine ap ?_
 refine ap ?_
 refine ac ?_
 refine co rfl (CE (T_ (c:=R6 c 0 0) hv) rfl rfl) ?_
 refine co rfl (ki rfl rfl rfl rfl) (cm rfl ?_)
 refine Ch.cs 15 rfl ?_ ?_<;>intro h1 q1
 exact absurd h1 AD
 refine OB h1 rfl (cy h1 rfl (ki rfl rfl rfl rfl) (co rfl (dI rfl rfl h1 rfl) (cm rfl ?_)))
 refine Ch.cs 19 rfl ?_ ?_<;>intro h2 q2
 exfalso;have:=q2;omega
 refine ac ?_
 refine wk [22,4,2,1] rfl ?_
 refine Tr.cn rfl ?_ ?_<;>intro h3 q3
 exfalso;have:=q3;omega
 refine ac ?_
 refine ac ?_
 refine co rfl (CE (iC (c:=R6 c 0 0) hv ht) rfl rfl) ?_
 refine ac ?_
 refine ap ?_
 refine tp rfl (CE (A_.Es fun m hm=>eM AA) rfl rfl) ?_
 refine TO.ex 31 rfl (fun z31=>TO.fact 31 rfl fun AJz=> ?_)
 refine ap ?_
 refine wk [4,2] rfl ?_
 refine ap ?_
 refine Tr.drop 1 (Tr.ret (Fin.BW rfl (AQ.cell 0 rfl rfl OE F2 rfl Lr) (AQ.tmp rfl Lr) ?_))
 · exact As z31 (Ar AJz Lr)
abbrev Ln (name:List UInt8) (a b id to key s:Int):Jh:=⟨id,[114,111,111,116],name,a,b,id,3,0,0,to,false,0,[name],key,s⟩
abbrev Hz (name:List UInt8) (a b id to key s:Int):Ju:=⟨a,b,id,[Ln name a b id to key s]⟩
abbrev yx (name:List UInt8) (a b id to key:Int):Pr:=Cp.ex fun s:Int=>fact (0≤s∧s<4294967296) (agg (Ig (Hz name a b id to key s)))
theorem yy   :A_ prog 42 [] (agg [int 5,int 2048]):=by
 refine fo func42 rfl ⟨rfl,rfl⟩ fun M0 w0=>(Tr.seq (Tr.BI ?_))
 refine Tl rfl rfl rfl rfl K2 Ec (fun b1=> ?_)
 refine ap ?_
 refine ap ?_
 refine Tr.ret (Fin.CY rfl (AQ.cell 0 rfl rfl Ht Jr rfl Lr) ?_)
 · exact Lr
theorem AJ0   :A_ prog 45 [] (agg [int 7,int 256]):=by
 refine fo func45 rfl ⟨rfl,rfl⟩ fun M0 w0=>(Tr.seq (Tr.BI ?_))
 refine Tl rfl rfl rfl rfl K2 Ec (fun b1=> ?_)
 refine ap ?_
 refine ap ?_
 refine Tr.ret (Fin.CY rfl (AQ.cell 0 rfl rfl Ht Jr rfl Lr) ?_)
 · exact Lr
theorem Zt {name:List UInt8} {a b id to key:Int} (hv:EB (Ln name a b id to 0 0)=true) (ht:(Ln name a b id to 0 0).Zs) (hk:0≤key∧key≤2147483648):A_ prog 41 [str name,agg [int a,int b],int id,int key,int to] (yx name a b id to key):=by
 refine fo func41 rfl ⟨rfl,rfl⟩ fun M0 w0=>(Tr.seq (Tr.BI (tp rfl (Bv rfl Cu) ?_)))
 refine Tl rfl rfl rfl rfl z105 Ow (fun b1=> ?_)
 refine ap ?_
 refine ap ?_
 refine tp rfl (Au (rows:=[(0,[_]),(1,[_]),(2,[_]),(3,_),(4,[_]),(5,_),(7,[_]),(10,[_])]) rfl AEC RW ⟨⟨rfl,Ce⟩,⟨⟨rfl,Ce⟩,⟨⟨rfl,Ce⟩,⟨⟨rfl,Cu⟩,⟨⟨rfl,Ce⟩,⟨⟨rfl,Cu⟩,⟨⟨rfl,Ce⟩,⟨⟨rfl,⟨_,rfl,Pr.le_trans (BF _ _) (AO _)⟩⟩,trivial⟩⟩⟩⟩⟩⟩⟩⟩ rfl) (TO.re 20 (agg (F4 (Ln name a b id to 0 0))) rfl (Pr.le_of_eq rfl) ?_)
 refine Tl rfl rfl rfl rfl z171 RW (fun b2=> ?_)
 refine ap ?_
 refine wk [11,10,6,3,2] rfl ?_
 refine ap ?_
 refine tp rfl (Bu (nX (c:=Ln name a b id to 0 0) hv ht hk) rfl rfl rfl) ?_
 refine TO.ex 24 rfl (fun z24=>TO.fact 24 rfl fun AJ1=> ?_)
 refine ap ?_
 refine ap ?_
 refine tp rfl (Au (rows:=[(0,_),(1,[_]),(2,[_])]) rfl yT Ow ⟨⟨rfl,Cu⟩,⟨⟨rfl,Ce⟩,⟨⟨rfl,⟨_,rfl,Pr.le_trans (BF _ _) (AO _)⟩⟩,trivial⟩⟩⟩ rfl) ?_
 refine ap ?_
 refine Tr.drop 0 (wk [10] rfl (Tr.ret (Fin.CY rfl (AQ.cell 0 rfl rfl RR ES rfl Lr) ?_)))
 · exact As z24 (Ar AJ1 Lr)
def KJ (s:DS) (l:List (List UInt8)):List UInt8:=(l[(s.val l.length).toNat]?).getD []
theorem XY {s:DS} {l:List (List UInt8)} (hl:l≠[]) (hl2:l.length≤1000000000):Ba prog 44 [ptr b 0,vQ l] (str (KJ s l)) (DA b s) (fun _=>DA b s.Cd):=by
 refine Ba.of func44 rfl rfl Am fun M0 w0 S rs M1 w1=> ?_
 have nG:1≤(l.length:Int):=by have:=List.length_pos_iff.2 hl;omega
 have hv:=s.DF nG
 obtain ⟨x,hx⟩:=at_ (l:=l) (k:=(s.val l.length).toNat) AA
 refine ac ?_
 refine ap ?_
 refine TO.FL 0 rfl rfl AD (Ak rfl rfl AD rfl (CV AA AA) ⟨kq,kz⟩) (tp rfl (AB rfl underlying51 Hs vq vq AA (Be hx)) ?_)
 refine ap ?_
 refine Tr.ret (Fin.Fh [] rfl (AQ.tmp rfl Lr) ?_ (fun _ _ _ _=>rfl))
 · refine Pr.le_of_eq ?_;unfold KJ;rw [hx];rfl
def Ft:List (List UInt8):=[[97,112,112],[100,98],[119,101,98]]
def PW:List (List Int):=[[10,8,2],[8,2],[2,10,8,3]]
def MF (i:Int):List Int:=(PW[i.toNat]?).getD []
theorem vh {i:Int} (h:0≤i∧i<3):(PW.map fun l=>[ints l])[i.toNat]? =some [ints (MF i)]:=by
 have hl:i.toNat<PW.length:=by show i.toNat<3;omega
 unfold MF
 rw [List.getElem?_map,List.getElem?_eq_getElem hl];rfl
theorem XZ {i:Int} (h:0≤i∧i<3):MF i∈PW:=by
 have hl:i.toNat<PW.length:=by show i.toNat<3;omega
 unfold MF
 rw [List.getElem?_eq_getElem hl];exact List.getElem_mem hl
structure Zu (i:Nat) (e:CF):Prop where
 name:Ft[i]? =some e.name
 least:e.least=1
 most:e.most=3∨e.most=4
 BA:e.BA∈PW∨∃l∈PW,e.BA=14::l
 ids:∃s:Int,(0≤s∧s<4294967296)∧e.ids=[Hz e.name 5 2048 (100+(i:Nat)) 901 1 s]
 anchors:e.anchors=[1]
 hashes:e.hashes=[2,3]
def nY (es:List CF):Prop:=∀(i:Nat) e,es[i]? =some e→Zu i e
theorem Xa {es:List CF} {e:CF} (h:nY es) (he:Zu es.length e):nY (es++[e]):=by
 intro i x hx
 rcases Nat.lt_or_ge i es.length with hi|hi
 · rw [List.getElem?_append_left hi] at hx;exact h i x hx
 ·
  rcases Nat.eq_or_lt_of_le hi with hi|hi
  · subst hi;rw [List.getElem?_append_right (Nat.le_refl _),Nat.sub_self] at hx;simp at hx;subst hx;exact he
  · rw [List.getElem?_eq_none Bz] at hx;cases hx
theorem Vx (h:Ft[k]? =some nm) {s:Int} (hs:0≤s∧s<4294967296) {key:Int} (hk:0≤key∧key≤2):EB (Ln nm 5 2048 (100+(k:Nat)) 901 key s)=true:=by
 have hlt:k<3:=BZ h
 have hn:named nm=true:=by
  have hm:=List.mem_of_getElem? h
  revert hm;unfold Ft;intro hm;simp at hm
  rcases hm with rfl|rfl|rfl<;>decide
 refine eJ ⟨?_,?_,by show named [114,111,111,116]=true;decide,hn,?_,by show Le 5 2048 2=true;decide+kernel,?_,?_,by show Le 3 0 1=true;decide+kernel,hk.1,?_,hs.1,hs.2,by show (0:Int)≤0;omega,by show (0:Int)≤901;omega,by show (901:Int)≤40000;omega,by show (0:Int)≤0;omega,by show (0:Int)≤8;omega,.inr rfl⟩
 · show 0≤(100:Int)+(k:Nat);omega
 · show (100:Int)+(k:Nat)≤_;omega
 ·
  show HK [nm]=true
  unfold HK;rw [Bool.and_eq_true];refine ⟨CA.2 fun j hj=> ?_,by simp⟩
  have:j=0:=by simp at hj;omega
  subst this;unfold nameAt;simp [hn]
 · show 0≤(100:Int)+(k:Nat);omega
 · show (100:Int)+(k:Nat)≤_;omega
 · show key≤_;omega
theorem UA (h:k<3):(Ln nm 5 2048 (100+(k:Nat)) 901 0 0).Zs:=
 ⟨by show (100:Int)+(k:Nat)≤1099511627776;omega,by show (100:Int)+(k:Nat)≤2147483648;omega,⟨by show (0:Int)≤5;omega,by show (5:Int)≤40000;omega⟩,⟨by show (0:Int)≤2048;omega,by show (2048:Int)≤40000;omega⟩,⟨by show (0:Int)≤3;omega,by show (3:Int)≤40000;omega⟩,⟨by show (0:Int)≤0;omega,by show (0:Int)≤40000;omega⟩⟩
theorem nZ {β:Type} {l:List β} {x:β} (h:(l.take n)[k]? =some x):l[k]? =some x:=by
 have hlt:=BZ h
 rw [List.length_take] at hlt
 rw [List.getElem?_take,if_pos AA] at h;exact h
theorem ng (i:Int):(MF i).length≤4:=by
 unfold MF
 cases h:PW[i.toNat]? with
 |none=>show 0≤4;omega
 |some l=>
  have hm:=List.mem_of_getElem? h
  show l.length≤4
  unfold PW at hm;simp at hm
  rcases hm with rfl|rfl|rfl<;>simp
theorem AA1 (s:DS):s.of [3,3,4]=3∨s.of [3,3,4]=4:=by have:=s.RL (l:=[3,3,4]) AR;simp at this;exact this
abbrev AFn:List (List Int):=PW++PW.map (14:: ·)
theorem KK {e:CF} (h:Zu i e):e.BA∈AFn:=by
 rcases h.BA with h|⟨l,h,h2⟩
 · exact List.mem_append_left _ h
 · rw [h2];exact List.mem_append_right _ (List.mem_map_of_mem h)
theorem Vy:∀l∈AFn,K8 l=true∧l.length≤5:=by decide+kernel
theorem Vz:∀n∈Ft,Q3 n=true∧n.length≤3:=by decide+kernel
theorem vi:[2,3].all Ry=true:=by decide+kernel
theorem vk:Le 5 2048 2=true:=by decide+kernel
theorem nh {id:Int} (h:Ft[k]? =some nm) (hid:id=100+(k:Nat)) {s:Int} (hs:0≤s∧s<4294967296):idB (Hz nm 5 2048 id 901 1 s)=true:=by
 subst hid
 have hk:k<3:=BZ h
 have hv:=Vx h hs (key:=1) AA
 have hk2:IP (100+(k:Nat))=true:=by unfold IP;simp;omega
 unfold idB Vm;simp only [vk,hk2,List.all_cons,List.all_nil,hv];simp
theorem vm {e:CF} (h:Zu i e):eF e:=by
 have hn:=Vz _ (List.mem_of_getElem? h.name)
 have hs:=Vy _ (KK h)
 obtain ⟨s,hs1,Vh⟩:=h.ids
 have hm:=h.most;have hl:=h.least
 refine ⟨hn.1,by omega,by omega,by omega,hs.1,by rw [Vh];simp,by rw [h.anchors];simp,by rw [h.anchors];decide,by rw [h.hashes];decide,?_,by rw [h.anchors];decide,by rw [h.hashes];exact vi⟩
 rw [Vh];simp only [List.all_cons,List.all_nil,nh h.name rfl hs1,Bool.and_self]
theorem UB {e:CF} (h:Zu i e):e.fits:=by
 have hn:=Vz _ (List.mem_of_getElem? h.name)
 obtain ⟨s,hs1,Vh⟩:=h.ids
 refine ⟨by unfold maxLen;omega,fun x hx c hc=> ?_⟩
 rw [Vh] at hx;simp at hx;subst hx;simp at hc;subst hc
 exact ⟨by show 4≤maxLen;unfold maxLen;omega,by show e.name.length≤maxLen;unfold maxLen;omega,fun n hn2=>by simp at hn2;subst hn2;unfold maxLen;omega⟩
theorem R7 {e:CF} (h:Zu i e):e.small:=by
 have hs:=Vy _ (KK h)
 obtain ⟨s,hs1,Vh⟩:=h.ids
 refine ⟨by omega,by rw [h.anchors];simp,by rw [h.hashes];simp,by rw [Vh];simp,fun x hx=> ?_⟩
 rw [Vh] at hx;simp at hx;subst hx
 exact ⟨by simp,fun c hc=>by simp at hc;subst hc;simp⟩
theorem nj:B6.fits:=fun c hc=>by cases hc
theorem AFo (h:nm∈Ft) {a b id key s:Int} (hab:(a=5∧b=2048)∨(a=7∧b=256)) (hid:0≤id∧id≤1000) (hs:0≤s∧s<4294967296) (hk:0≤key∧key≤2):EB (Ln nm a b id 901 key s)=true:=by
 have hn:named nm=true:=by
  revert h;unfold Ft;intro hm;simp at hm
  rcases hm with rfl|rfl|rfl<;>decide
 have hof:Le a b 2=true:=by rcases hab with ⟨rfl,rfl⟩|⟨rfl,rfl⟩<;>decide+kernel
 refine eJ ⟨?_,?_,by show named [114,111,111,116]=true;decide,hn,?_,hof,?_,?_,by show Le 3 0 1=true;decide+kernel,hk.1,?_,hs.1,hs.2,by show (0:Int)≤0;omega,by show (0:Int)≤901;omega,by show (901:Int)≤40000;omega,by show (0:Int)≤0;omega,by show (0:Int)≤8;omega,.inr rfl⟩
 · show 0≤id;omega
 · show id≤_;omega
 ·
  show HK [nm]=true
  unfold HK;rw [Bool.and_eq_true];refine ⟨CA.2 fun j hj=> ?_,by simp⟩
  have:j=0:=by simp at hj;omega
  subst this;unfold nameAt;simp [hn]
 · show 0≤id;omega
 · show id≤_;omega
 · show key≤_;omega
theorem AFp {a b id:Int} (hab:(a=5∧b=2048)∨(a=7∧b=256)) (hid:0≤id∧id≤1000):(Ln nm a b id 901 0 0).Zs:=
 ⟨by show id≤1099511627776;omega,by show id≤2147483648;omega,⟨by show (0:Int)≤a;omega,by show a≤40000;omega⟩,⟨by show (0:Int)≤b;omega,by show b≤40000;omega⟩,⟨by show (0:Int)≤3;omega,by show (3:Int)≤40000;omega⟩,⟨by show (0:Int)≤0;omega,by show (0:Int)≤40000;omega⟩⟩
structure AJ2 (es:List CF) (c:Bl):Prop where
 lo:0≤c.AZ
 hi:c.AZ<(es.length:Nat)
 kind:1≤c.kind∧c.kind≤12
 fits:c.DM.fits
 small:c.DM.small
abbrev AA2 (nm:List UInt8) (a b id to key:Int):Pr:=Cp.ex fun s:Int=>fact (0≤s∧s<4294967296) (O3 [Ln nm a b id to key s])
theorem AFq (h:nm∈Ft) {a b id key s:Int}:(Hz nm a b id 901 key s).fits∧(Hz nm a b id 901 key s).small:=by
 have hn:=(Vz _ h).2
 refine ⟨fun c hc=> ?_,⟨by simp,fun c hc=>by simp at hc;subst hc;simp⟩⟩
 simp at hc;subst hc
 exact ⟨by show 4≤maxLen;unfold maxLen;omega,by show nm.length≤maxLen;unfold maxLen;omega,fun n hn2=>by simp at hn2;subst hn2;unfold maxLen;omega⟩
structure Xb where
 B8:Int
 bits:Int
 day:Int
 deriving DecidableEq
abbrev AJ3 (x:Xb):List Pr:=[int x.B8,int x.bits,int x.day]
abbrev nk (l:List Xb):Pr:=slice 3 (l.map AJ3)
structure V0 where
 name:List UInt8
 kind:Int
 JK:Int
 links:List Xb
 MG:Int
 deriving DecidableEq
abbrev eN (x:V0):List Pr:=[str x.name,int x.kind,int x.JK,nk x.links,int x.MG]
abbrev R8 (l:List V0):Pr:=slice 5 (l.map eN)
structure Iz where
 client:Int
 server:Int
 deriving DecidableEq
abbrev AA3 (x:Iz):List Pr:=[int x.client,int x.server]
abbrev Ij (l:List Iz):Pr:=slice 2 (l.map AA3)
abbrev FQ:Xb:=⟨0,0,0⟩
abbrev HN:Iz:=⟨0,0⟩
def HB (l:List Xb) (i:Nat):Bool:=decide (Bx (l[i]?.getD FQ).B8 (l[i]?.getD FQ).bits>0)&&decide (0≤(l[i]?.getD FQ).day)&&decide ((l[i]?.getD FQ).day≤40000)&&(decide (i=0)||decide ((l[i-1]?.getD FQ).day<(l[i]?.getD FQ).day))
def O5 (x:V0):Bool:=(named x.name&&decide (x.kind=1∨x.kind=2)&&decide (1≤x.JK)&&decide (x.JK≤4)&&decide (1≤x.links.length)&&decide (x.links.length≤8))&&allI (HB x.links) x.links.length&&(decide ((x.links[0]?.getD FQ).day≤x.MG)&&decide (x.MG≤40000))
structure AFr (x:V0):Prop where
 name:named x.name=true
 kind:x.kind=1∨x.kind=2
 p1:1≤x.JK
 p4:x.JK≤4
 l1:1≤x.links.length
 l8:x.links.length≤8
 lnk:∀j,j<x.links.length→HB x.links j=true
 u0:(x.links[0]?.getD FQ).day≤x.MG
 u1:x.MG≤40000
theorem HA {x:V0}:O5 x=true↔AFr x:=by
 unfold O5
 simp only [Bool.and_eq_true,decide_eq_true_eq,CA]
 exact ⟨fun ⟨⟨⟨⟨⟨⟨⟨h1,h2⟩,h3⟩,h4⟩,h5⟩,h6⟩,h7⟩,h8,h9⟩=>⟨h1,h2,h3,h4,h5,h6,h7,h8,h9⟩,fun h=>⟨⟨⟨⟨⟨⟨⟨h.name,h.kind⟩,h.p1⟩,h.p4⟩,h.l1⟩,h.l8⟩,h.lnk⟩,h.u0,h.u1⟩⟩
def Ek (n:Nat) (l:List Iz) (i:Nat):Bool:=(decide (0≤(l[i]?.getD HN).client∧(l[i]?.getD HN).client<n)&&decide (0≤(l[i]?.getD HN).server∧(l[i]?.getD HN).server<n)&&decide ((l[i]?.getD HN).client≠(l[i]?.getD HN).server))&&(decide (i=0)||decide ((l[i-1]?.getD HN).client<(l[i]?.getD HN).client∨((l[i-1]?.getD HN).client=(l[i]?.getD HN).client∧(l[i-1]?.getD HN).server<(l[i]?.getD HN).server)))
def V1 (n:Nat) (l:List Iz):Bool:=allI (Ek n l) l.length&&decide (l.length≤40)
theorem Zv {x:V0}  :A_ prog 84 [agg (eN x)] (int (if O5 x then 0 else 30)):=by
 refine fo func84 rfl ⟨rfl,rfl⟩ fun M0 w0=> ?_
 refine ac ?_
 refine wk [1] rfl (Tr.Jn [1] [] ((named x.name=true∧(x.kind=1∨x.kind=2)∧1≤x.JK∧x.JK≤4)∧1≤x.links.length∧x.links.length≤8∧(x.links[0]?.getD FQ).day≤x.MG∧x.MG≤40000) ?_ (fun hpre=> ?_))
 refine ac ?_
 refine co rfl (CE (G1) rfl rfl) ?_
 refine ag ?_ ?_<;>intro h2 q2
 refine ac ?_
 refine wk [54,1] rfl ?_
 refine a2 ?_
 · refine int_eq (if_neg (fun hv=> ?_)).symm;have ok:=HA.1 hv;have o1:=ok.name;have o2:=ok.kind;have o3:=ok.p1;have o4:=ok.p4;have o5:=ok.l1;have o6:=ok.l8;have o7:=ok.u0;have o8:=ok.u1;(simp_all)
 refine ag ?_ ?_<;>intro h3 q3
 refine ag ?_ ?_<;>intro h4 q4
 refine ac ?_
 refine wk [54,1] rfl ?_
 refine a2 ?_
 · exact Jw
 refine ag ?_ ?_<;>intro h5 q5
 refine ac ?_
 refine wk [54,1] rfl ?_
 refine a2 ?_
 · exact Jw
 refine ag ?_ ?_<;>intro h6 q6
 refine ac ?_
 refine wk [54,1] rfl ?_
 refine a2 ?_
 · exact Jw
 refine ag ?_ ?_<;>intro h7 q7
 refine ac ?_
 refine wk [54,1] rfl ?_
 refine a2 ?_
 · exact Jw
 refine ag ?_ ?_<;>intro h8 q8
 refine ac ?_
 refine wk [54,1] rfl ?_
 refine a2 ?_
 · exact Jw
 refine ag ?_ ?_<;>intro h9 q9
 refine ac ?_
 refine wk [54,1] rfl ?_
 refine a2 ?_
 · exact Jw
 obtain ⟨c0,hc0⟩:=at_ (l:=x.links) (k:=0) AA
 have hg0:=getD_at (d:=FQ) hc0
 refine ac ?_
 refine cy h9 rfl (AB rfl underlying110 J_ vq vq AA (Ad (k:=0) hc0)) ?_
 refine ac ?_
 refine wk [54,1] rfl ?_
 refine Tr.cn rfl ?_ ?_<;>intro h10 O2
 refine a2 ?_
 · exact kW
 refine Tr.skip ?_
 exact Fin.AL () ⟨⟨by simp_all,by omega,by omega,by omega⟩,by omega,by omega,by rw [hg0];omega,by omega⟩ kz
 refine ag ?_ ?_<;>intro h11 Rz
 refine ac ?_
 refine wk [54,1] rfl ?_
 refine a2 ?_
 · exact Jw
 refine ag ?_ ?_<;>intro h12 TN
 refine ac ?_
 refine wk [54,1] rfl ?_
 refine a2 ?_
 · exact Jw
 refine ag ?_ ?_<;>intro J8 Vs
 refine ac ?_
 refine wk [54,1] rfl ?_
 refine a2 ?_
 · exact Jw
 refine ag ?_ ?_<;>intro Mi nU
 refine ac ?_
 refine wk [54,1] rfl ?_
 refine a2 ?_
 · exact Jw
 refine ag ?_ ?_<;>intro Wi q15
 refine ac ?_
 refine wk [54,1] rfl ?_
 refine a2 ?_
 · exact Jw
 obtain ⟨c0,hc0⟩:=at_ (l:=x.links) (k:=0) AA
 have hg0:=getD_at (d:=FQ) hc0
 refine ac ?_
 refine cy Wi rfl (AB rfl underlying110 J_ vq vq AA (Ad (k:=0) hc0)) ?_
 refine ac ?_
 refine wk [54,1] rfl ?_
 refine Tr.cn rfl ?_ ?_<;>intro h16 q16
 refine a2 ?_
 · exact kW
 refine Tr.skip ?_
 exact Fin.AL () ⟨⟨by simp_all,by omega,by omega,by omega⟩,by omega,by omega,by rw [hg0];omega,by omega⟩ kz
 obtain ⟨⟨hq1,ZJ,hq3,hq4⟩,hq5,hq6,hq7,hq8⟩:=hpre
 refine ac ?_
 refine Tr.block (Tr.A0 _ (kk [1] rfl) (fun k:Nat=>[(3,int ((k:Nat):Int))]) (fun k:Nat=>k≤(x.links).length∧(∀j,j<k→HB x.links j=true)) (fun k:Nat=>(x.links).length-k) 0 (⟨Nat.zero_le _,fun j hj=>absurd hj AA⟩) kz ?_)
 rintro k ⟨BN,AX⟩
 refine an ?_ ?_<;>intro OD q17
 have Ae:k<(x.links).length:=AJ OD
 obtain ⟨c,Af⟩:=at_ Ae
 have hg:=getD_at (d:=FQ) Af
 refine a2 ?_
 refine co rfl (AB rfl underlying110 J_ vq vq AA (Ad Af)) ?_
 refine ac ?_
 refine co rfl (CE (KF) rfl rfl) ?_
 refine ag ?_ ?_<;>intro RO q18
 refine ac ?_
 refine wk [107,3,1] rfl ?_
 refine a2 ?_
 · exact Y9
 refine ac ?_
 refine cy RO rfl (AB rfl underlying110 J_ vq vq AA (Ad Af)) ?_
 refine ag ?_ ?_<;>intro nQ q19
 refine ac ?_
 refine wk [107,3,1] rfl ?_
 refine a2 ?_
 · exact Y9
 refine ac ?_
 refine cy nQ rfl (AB rfl underlying110 J_ vq vq AA (Ad Af)) ?_
 refine ag ?_ ?_<;>intro R3 q20
 refine ac ?_
 refine wk [107,3,1] rfl ?_
 refine a2 ?_
 · exact Y9
 refine ag ?_ ?_<;>intro Zo q21
 have hk0:0<k:=by simpa using Zo
 obtain ⟨y,hy⟩:=at_ (l:=x.links) (k:=k-1) AA
 have Wd:=getD_at (d:=FQ) hy
 · repeat' first|(refine int_eq (if_neg (fun hv=> ?_)).symm;have ok:=HA.1 hv;have o1:=ok.name;have o2:=ok.kind;have o3:=ok.p1;have o4:=ok.p4;have o5:=ok.l1;have o6:=ok.l8;have o7:=ok.u0;have o8:=ok.u1;(have h_:=ok.lnk k AA;unfold HB at h_;rw [hg,Wd] at h_;simp_all;omega))|(exact Fin.AL (k+1) ⟨⟨Ae,EA AX (by unfold HB;rw [hg,Wd];simp_all)⟩,by omega⟩ ⟨⟨_,rfl,AG k⟩,kz⟩)|(refine cy Zo rfl (AB rfl underlying110 J_ vq vq AA Ly) ?_)|refine cy Zo rfl (AB rfl underlying110 J_ vq vq AA (Ad Af)) ?_|refine ac ?_|(refine Tr.cn rfl ?_ ?_<;>intro h q)
 have ME:¬0<k:=by simpa using Zo
 refine ac ?_
 refine wk [107,3,1] rfl ?_
 refine a2 ?_
 exact Fin.AL (k+1) ⟨⟨Ae,EA AX (by unfold HB;rw [hg];simp_all)⟩,by omega⟩ ⟨⟨_,rfl,AG k⟩,kz⟩
 have BC:k=(x.links).length:=by have:=AK OD;omega
 subst BC
 refine a3 ?_
 · refine int_eq (if_pos (HA.2 ⟨hq1,ZJ,hq3,hq4,hq5,hq6,AX,by omega,by omega⟩)).symm
theorem AA4 {x0 y0:Int} {x1 y1:Int}:(Op.equalIn (d+2) 169 (.agg #[.int .i64 x0,.int .i64 x1]) (.agg #[.int .i64 y0,.int .i64 y1])).run Tryz.prog w= .ok (decide (x0=y0∧x1=y1)) w:=by
 have h:=eqS (w:=w) (d:=d+1) (xs:= #[.int .i64 x0,.int .i64 x1]) (ys:= #[.int .i64 y0,.int .i64 y1]) Tryz.underlying169 CS (CZ AD (BG BT rfl) (BG BT rfl) (Dl (d:=d+0) Tryz.underlying3) (CZ AD (BG BT rfl) (BG BT rfl) (Dl (d:=d+0) Tryz.underlying3) (K3)))
 refine h.trans (congrArg (fun b=>Result.ok b w) ?_)
 rw [Bool.eq_iff_iff];simp [and_assoc]
theorem nq {u:TypeId} {y:Operand} {x0 y0:Int} {x1 y1:Int} (ho:o.op= .binOp .neq 169 x y u) (hx:VL E x (agg [is (.int .i64 x0),is (.int .i64 x1)])) (hy:VL E y (agg [is (.int .i64 y0),is (.int .i64 y1)])):Ab Tryz.prog I o E (bool (!decide (x0=y0∧x1=y1))):=
 NA [.int .i64 x0,.int .i64 x1] [.int .i64 y0,.int .i64 y1] ho hx hy CS (fun w=>by rw [show Op.equal 169 _ _=Op.equalIn (9998+2) 169 _ _ from rfl];exact AA4)
deriving instance DecidableEq for Jh
deriving instance DecidableEq for Ju
deriving instance DecidableEq for CF
deriving instance DecidableEq for Bl
theorem nr {α:Type} {a b:List α} {x y:α} (ha:a[k]? =some x) (hb:b[k]? =some y) (h:a.take k=b.take k) (e:x=y):a.take (k+1)=b.take (k+1):=by
 rw [List.take_add_one,List.take_add_one,ha,hb,h,e]
theorem AFs {α:Type} {a b:List α} {x y:α} (ha:a[k]? =some x) (hb:b[k]? =some y) (e:¬x=y):¬a=b:=by
 rintro rfl;rw [ha] at hb;cases hb;exact e rfl
theorem nu {α:Type} {a b:List α} (hl:a.length=b.length) (h:a.take a.length=b.take a.length):a=b:=by
 rw [List.take_length,hl,List.take_length] at h;exact h
theorem Zw {a b:Jh} (hn:a.names.length≤8796093022208):A_ prog 317 [agg (F4 a),agg (F4 b)] (bool (decide (a=b))):=by
 refine fo func317 rfl ⟨rfl,rfl⟩ fun M0 w0=> ?_
 refine ac ?_
 refine ag ?_ ?_<;>intro h1 q1
 refine ac ?_
 refine wk [89,3,2] rfl ?_
 refine a2 ?_
 · exact FD
 refine ag ?_ ?_<;>intro h2 q2
 refine ac ?_
 refine wk [89,3,2] rfl ?_
 refine a2 ?_
 · exact FD
 refine ag ?_ ?_<;>intro h3 q3
 refine ac ?_
 refine wk [89,3,2] rfl ?_
 refine a2 ?_
 · exact FD
 refine ac ?_
 refine cy h3 rfl (QE rfl vq vq) ?_
 refine ag ?_ ?_<;>intro h4 q4
 refine ac ?_
 refine wk [89,3,2] rfl ?_
 refine a2 ?_
 · exact FD
 refine ag ?_ ?_<;>intro h5 q5
 refine ac ?_
 refine wk [89,3,2] rfl ?_
 refine a2 ?_
 · exact FD
 refine ac ?_
 refine cy h5 rfl (QE rfl vq vq) ?_
 refine ag ?_ ?_<;>intro h6 q6
 refine ac ?_
 refine wk [89,3,2] rfl ?_
 refine a2 ?_
 · exact FD
 refine ag ?_ ?_<;>intro h7 q7
 refine ac ?_
 refine wk [89,3,2] rfl ?_
 refine a2 ?_
 · exact FD
 refine ag ?_ ?_<;>intro h8 q8
 refine ac ?_
 refine wk [89,3,2] rfl ?_
 refine a2 ?_
 · exact FD
 refine ac ?_
 refine cy h8 rfl (ZU rfl underlying4 vq vq) ?_
 refine ag ?_ ?_<;>intro h9 q9
 refine ac ?_
 refine wk [89,3,2] rfl ?_
 refine a2 ?_
 · exact FD
 refine ag ?_ ?_<;>intro h10 O2
 refine ac ?_
 refine wk [89,3,2] rfl ?_
 refine a2 ?_
 · exact FD
 refine ac ?_
 refine cy h10 rfl (nq rfl vq vq) ?_
 refine ag ?_ ?_<;>intro h11 Rz
 refine ac ?_
 refine wk [89,3,2] rfl ?_
 refine a2 ?_
 · exact FD
 refine ac ?_
 refine wk [89,3,2] rfl ?_
 refine Tr.cn rfl ?_ ?_<;>intro h12 TN
 refine a2 ?_
 · exact FD
 have II:a.names.length=b.names.length:=by simp_all;omega
 refine a2 ?_
 refine Tr.block (Tr.A0 _ (kk [92,3,2] rfl) (fun k:Nat=>[(93,int ((k:Nat):Int))]) (fun k:Nat=>k≤(a.names).length∧(a.names.take k=b.names.take k)) (fun k:Nat=>(a.names).length-k) 0 (⟨Nat.zero_le _,rfl⟩) kz ?_)
 rintro k ⟨BN,AX⟩
 refine ac ?_
 refine Tr.seq ?_
 refine Tr.cn rfl ?_ ?_<;>intro J8 Vs
 have Ae:k<(a.names).length:=AJ J8
 obtain ⟨x,Af⟩:=at_ Ae
 obtain ⟨y,hy⟩:=at_ (l:=b.names) (k:=k) AA
 · repeat' first|(refine bool_eq ?_;symm;rw [decide_eq_false_iff_not];rintro rfl;rw [Af] at hy;cases hy;simp_all)|exact Fin.AL (k+1) ⟨⟨Ae,nr Af hy AX B9⟩,by omega⟩ ⟨⟨_,rfl,AG k⟩,kz⟩|refine co rfl (AB rfl underlying51 Hs vq vq AA (Ad Af)) ?_|refine co rfl (AB rfl underlying51 Hs vq vq AA (Ad hy)) ?_|refine ac ?_|(refine Tr.cn rfl ?_ ?_<;>intro h q)
 have BC:k=(a.names).length:=by have:=AK J8;omega
 subst BC
 refine a3 ?_
 · refine bool_eq ?_;have hnn:=nu II AX;clear AX II;cases a;cases b;simp_all
theorem Zx {a b:Ju} (hs:a.small):A_ prog 312 [agg (Ig a),agg (Ig b)] (bool (decide (a=b))):=by
 refine fo func312 rfl ⟨rfl,rfl⟩ fun M0 w0=> ?_
 have hsc:=hs.chain
 refine a2 ?_
 refine co rfl (QE rfl vq vq) (cm rfl ?_)
 refine Ch.cs 11 rfl ?_ ?_<;>intro h1 q1
 refine ac ?_
 refine wk [26,3,2] rfl ?_
 refine a2 ?_
 · exact FD
 refine ag ?_ ?_<;>intro h2 q2
 refine ac ?_
 refine wk [26,3,2] rfl ?_
 refine a2 ?_
 · exact FD
 refine ac ?_
 refine wk [26,3,2] rfl ?_
 refine Tr.cn rfl ?_ ?_<;>intro h3 q3
 refine a2 ?_
 · exact FD
 have II:a.chain.length=b.chain.length:=by simp_all;omega
 refine a2 ?_
 refine Tr.block (Tr.A0 _ (kk [29,3,2] rfl) (fun k:Nat=>[(30,int ((k:Nat):Int))]) (fun k:Nat=>k≤(a.chain).length∧(a.chain.take k=b.chain.take k)) (fun k:Nat=>(a.chain).length-k) 0 (⟨Nat.zero_le _,rfl⟩) kz ?_)
 rintro k ⟨BN,AX⟩
 refine ac ?_
 refine Tr.seq ?_
 refine Tr.cn rfl ?_ ?_<;>intro h4 q4
 have Ae:k<(a.chain).length:=AJ h4
 obtain ⟨x,Af⟩:=at_ Ae
 obtain ⟨y,hy⟩:=at_ (l:=b.chain) (k:=k) AA
 have hxn:=hs.names x (List.mem_of_getElem? Af)
 · repeat' first|(refine bool_eq ?_;symm;rw [decide_eq_false_iff_not];rintro rfl;rw [Af] at hy;cases hy;simp_all)|exact Fin.AL (k+1) ⟨⟨Ae,nr Af hy AX B9⟩,by omega⟩ ⟨⟨_,rfl,AG k⟩,kz⟩|refine co rfl (AB rfl underlying103 F2 vq vq AA (Ad Af)) ?_|refine co rfl (AB rfl underlying103 F2 vq vq AA (Ad hy)) (co rfl (Al rfl OE F2 vq rfl rfl) (co rfl (Bu (Zw hxn) rfl rfl rfl) ?_))|refine ac ?_|(refine Tr.cn rfl ?_ ?_<;>intro h q)
 have BC:k=(a.chain).length:=by have:=AK h4;omega
 subst BC
 refine a3 ?_
 · refine bool_eq ?_;have hnn:=nu II AX;clear AX II hs;cases a;cases b;simp_all
theorem eO {k:Int} (hk:1≤k∧k≤12):k=1∨k=2∨k=3∨k=4∨k=5∨k=6∨k=7∨k=8∨k=9∨k=10∨k=11∨k=12:=by omega
theorem Xc {e:CF} {c:Bl} {f:Int} (hc:Jl c) (h:CD e c= .error f):f≠0:=by
 rcases eO hc.1 with hk|hk|hk|hk|hk|hk|hk|hk|hk|hk|hk|hk
 · rw [QJ hk] at h;(repeat' (split at h))<;>first|(injection h with h;omega)|(cases h;done)
 · rw [QK hk] at h;(repeat' (split at h))<;>first|(injection h with h;omega)|(cases h;done)
 · rw [QL hk] at h;(repeat' (split at h))<;>first|(injection h with h;omega)|(cases h;done)
 · rw [QM hk] at h;(repeat' (split at h))<;>first|(injection h with h;omega)|(cases h;done)
 · rw [QN hk] at h;(repeat' (split at h))<;>first|(injection h with h;omega)|(cases h;done)
 · rw [QO hk] at h;(repeat' (split at h))<;>first|(injection h with h;omega)|(cases h;done)
 · rw [QS hk] at h;(repeat' (split at h))<;>first|(injection h with h;omega)|(cases h;done)
 · rw [QT hk] at h;(repeat' (split at h))<;>first|(injection h with h;omega)|(cases h;done)
 · rw [QU hk] at h;(repeat' (split at h))<;>first|(injection h with h;omega)|(cases h;done)
 · rw [NP hk] at h;(repeat' (split at h))<;>first|(injection h with h;omega)|(cases h;done)
 · rw [NQ hk] at h;(repeat' (split at h))<;>first|(injection h with h;omega)|(cases h;done)
 · rw [NR hk] at h;(repeat' (split at h))<;>first|(injection h with h;omega)|(cases h;done)
theorem iD {e:CF} {c:Bl} {x:CF} {b:Bl} (h:ET e c=(x,b,0)):eF e∧Jl c∧CD e c= .ok (x,b)∧eF x:=by
 unfold ET at h
 split at h
 · cases h
 next h1=>
 split at h
 · cases h
 next h2=>
 have h1 : Gt e = true := by cases hh : Gt e with
  |true=>rfl
  |false=>exact absurd hh h1
 have h2:Jl c:=Classical.not_not.1 h2
 cases hs:CD e c with
 |error f=>
  rw [hs] at h
  simp only [Prod.mk.injEq] at h
  exact absurd h.2.2 (Xc h2 hs)
 |ok r=>
  obtain ⟨x',b'⟩:=r
  rw [hs] at h
  simp only at h
  split at h
  next h3=>simp only [Prod.mk.injEq,and_true] at h;obtain ⟨rfl,rfl⟩:=h;exact ⟨DN.1 h1,h2,rfl,DN.1 h3⟩
  · cases h
section
variable {α:Type} {p:α→Bool} {l:List α} {a:α} {i:Nat}
end
theorem Zy {l:List Int} (h:K8 l=true) {n:Int} (hi:l[i]? =some n) (hj:l[j]? =some n):i=j:=by
 unfold K8 at h;rw [CA] at h
 have key:∀{a b:Nat},a<b→l[a]? =some n→l[b]? =some n→False:=by
  intro a b hab ha hb
  have:=h b (BZ hb)
  unfold GZ at this
  rw [getD_at hb] at this
  simp only [Bool.and_eq_true,Bool.not_eq_true',List.any_eq_false] at this
  have:=this.2 n (List.mem_of_getElem? (show (l.take b)[a]? =some n by rw [List.getElem?_take,if_pos hab];exact ha))
  simp at this
 rcases Nat.lt_trichotomy i j with h1|h1|h1
 · exact (key h1 hi hj).elim
 · exact h1
 · exact (key h1 hj hi).elim
def vn (n:Nat):Bool:=decide ((97≤n∧n≤122)∨(65≤n∧n≤90)∨(48≤n∧n≤57)∨n=45∨n=95∨n=46)
theorem Zz:∀n∈List.range 256,K7 [45,95,46] (UInt8.ofNat n)=vn n:=by decide+kernel
theorem UC (c:UInt8):K7 [45,95,46] c=vn c.toNat:=by
 have h:=Zz c.toNat (List.mem_range.2 c.toNat_lt)
 rw [UInt8.ofNat_toNat] at h;exact h
theorem nv {s:List UInt8}  :A_ prog 139 [str s] (bool (Q3 s)):=by
 refine fo func139 rfl ⟨rfl,rfl⟩ fun M0 w0=> ?_
 refine ac ?_
 refine ag ?_ ?_<;>intro h1 q1
 refine a3 ?_
 · exact cJ
 refine an ?_ ?_<;>intro h2 q2
 refine a2 ?_
 · exact cJ
 refine a2 ?_
 refine Tr.block (Tr.A0 _ (kk [0] rfl) (fun k:Nat=>[(3,int ((k:Nat):Int))]) (fun k:Nat=>k≤(s).length∧(∀j y,j<k→s[j]? =some y→(!K7 [45,95,46] y)=false)) (fun k:Nat=>(s).length-k) 0 (⟨Nat.zero_le _,fun j y hj=>absurd hj AA⟩) kz ?_)
 rintro k ⟨BN,AX⟩
 refine an ?_ ?_<;>intro h3 q3
 have Ae:k<(s).length:=AJ h3
 obtain ⟨c,Af⟩:=at_ Ae
 · repeat' first|(refine bool_eq ?_;unfold Q3;rw [QF (p:=K7 [45,95,46]) Af (by rw [UC];unfold vn;simp;omega)];rfl)|(exact Fin.AL (k+1) ⟨⟨Ae,Dm (p:=fun c=> !K7 [45,95,46] c) Af (by rw [UC];unfold vn;simp;omega) AX⟩,by omega⟩ ⟨⟨_,rfl,AG k⟩,kz⟩)|refine co rfl (QA rfl underlying9 vq vq AA (VV BO)) ?_|refine ac ?_|(refine Tr.cn rfl ?_ ?_<;>intro h q)|(refine Ch.cg rfl rfl rfl ?_ ?_<;>intro h q)
 have BC:k=(s).length:=by have:=AK h3;omega
 subst BC
 refine a3 ?_
 · refine bool_eq ?_;unfold Q3;rw [JH AX,Bool.true_and];symm;rw [decide_eq_true_eq];omega
theorem Bn {a b:Int}  :A_ prog 251 [int a,int b] (agg [int a,int b]):=by
 refine fo func251 rfl ⟨rfl,rfl⟩ fun M0 w0=>(Tr.seq (Tr.BI ?_))
 refine Tl rfl rfl rfl rfl K2 Ec (fun b1=> ?_)
 refine ap ?_
 refine ap ?_
 refine Tr.ret (Fin.CY rfl (AQ.cell 0 rfl rfl Ht Jr rfl Lr) ?_)
 · exact Lr
theorem Cj {a l m x1 y1 x2 y2 x3 y3 x4 y4:Int} {s:List UInt8}  :A_ prog 252 [int a,str s,agg [int x1,int y1],agg [int x2,int y2],agg [int x3,int y3],agg [int x4,int y4],int l,int m] (agg DR):=by
 refine fo func252 rfl ⟨rfl,rfl⟩ fun M0 w0=>(Tr.seq (Tr.BI ?_))
 iterate 4 refine tp rfl (Bv rfl (Va rfl)) ?_
 refine Tl rfl rfl rfl rfl z233 Je (fun b1=> ?_)
 refine ap ?_
 refine Tr.seq (Tr.BI (tm rfl (tm rfl ?_)))
 iterate 4 refine tp rfl (Al rfl Ht Jr (vl rfl) rfl rfl) ?_
 refine tm rfl (tm rfl (tp rfl (oD) (TO.re 25 (agg DR) rfl (Vn rfl) ?_)))
 refine ap ?_
 refine wk [16] rfl (Tr.ret (Fin.CY rfl (AQ.cell 0 rfl rfl JE Gg rfl Lr) ?_))
 · exact Lr
theorem Z0   :A_ prog 206 [] (slice 12 NM):=by
 refine fo func206 rfl ⟨rfl,rfl⟩ fun M0 w0=> ?_
 refine ac ?_
 refine Tr.seq (Tr.BI (tp rfl (Bu (Bn) rfl rfl rfl) (tp rfl (Bu (Bn) rfl rfl rfl) (tp rfl (Au (rows:=[]) rfl zv Ec trivial rfl) ?_))))
 refine Tl rfl rfl rfl rfl K2 Ec (fun b1=> ?_)
 refine Tl rfl rfl rfl rfl K2 Ec (fun b2=> ?_)
 refine Tl rfl rfl rfl rfl K2 Ec (fun b3=> ?_)
 refine sf 2 1 ⟨rfl,rfl,rfl⟩ rfl rfl rfl rfl ?_
 refine sf 1 2 ⟨rfl,rfl,rfl⟩ rfl rfl rfl rfl ?_
 refine sf 0 3 ⟨rfl,rfl,rfl⟩ rfl rfl rfl rfl ?_
 refine ao ?_
 refine Tr.seq (Tr.BI (tp rfl (Bu (Bn) rfl rfl rfl) (tp rfl (Bu (Bn) rfl rfl rfl) ?_)))
 refine Tl rfl rfl rfl rfl K2 Ec (fun b4=> ?_)
 refine Tl rfl rfl rfl rfl K2 Ec (fun b5=> ?_)
 refine sf 1 4 ⟨rfl,rfl,rfl⟩ rfl rfl rfl rfl ?_
 refine sf 0 5 ⟨rfl,rfl,rfl⟩ rfl rfl rfl rfl ?_
 refine ao ?_
 refine wk [5,4,3,2,1] rfl (Tr.seq (Tr.BI (tp rfl (Bu (Bn) rfl rfl rfl) (tp rfl (Bu (Bn) rfl rfl rfl) (tp rfl (Bu (Bn) rfl rfl rfl) ?_)))))
 refine Tl rfl rfl rfl rfl K2 Ec (fun b6=> ?_)
 refine Tl rfl rfl rfl rfl K2 Ec (fun b7=> ?_)
 refine Tl rfl rfl rfl rfl K2 Ec (fun b8=> ?_)
 refine sf 2 6 ⟨rfl,rfl,rfl⟩ rfl rfl rfl rfl ?_
 refine sf 1 7 ⟨rfl,rfl,rfl⟩ rfl rfl rfl rfl ?_
 refine sf 0 8 ⟨rfl,rfl,rfl⟩ rfl rfl rfl rfl ?_
 refine ao ?_
 refine wk [8,7,6,5,4,3,2,1] rfl (Tr.seq (Tr.BI ?_))
 iterate 4 refine tp rfl (Bu (Bn) rfl rfl rfl) ?_
 refine Tl rfl rfl rfl rfl K2 Ec (fun b9=> ?_)
 refine Tl rfl rfl rfl rfl K2 Ec (fun b10=> ?_)
 refine Tl rfl rfl rfl rfl K2 Ec (fun b11=> ?_)
 refine Tl rfl rfl rfl rfl K2 Ec (fun b12=> ?_)
 refine sf 3 9 ⟨rfl,rfl,rfl⟩ rfl rfl rfl rfl ?_
 refine sf 2 10 ⟨rfl,rfl,rfl⟩ rfl rfl rfl rfl ?_
 refine sf 1 11 ⟨rfl,rfl,rfl⟩ rfl rfl rfl rfl ?_
 refine sf 0 12 ⟨rfl,rfl,rfl⟩ rfl rfl rfl rfl ?_
 refine ao ?_
 refine wk [12,11,10,9,8,7,6,5,4,3,2,1] rfl (Tr.seq (Tr.BI (tp rfl (Bu (Bn) rfl rfl rfl) (tp rfl (Bu (Bn) rfl rfl rfl) ?_))))
 refine Tl rfl rfl rfl rfl K2 Ec (fun b13=> ?_)
 refine Tl rfl rfl rfl rfl K2 Ec (fun b14=> ?_)
 refine sf 1 13 ⟨rfl,rfl,rfl⟩ rfl rfl rfl rfl ?_
 refine sf 0 14 ⟨rfl,rfl,rfl⟩ rfl rfl rfl rfl ?_
 refine ao ?_
 refine wk [14,13,12,11,10,9,8,7,6,5,4,3,2,1] rfl ?_
 refine ac ?_
 refine co rfl (AY rfl (Cj) ⟨kq,kz⟩) ?_
 refine ac ?_
 refine co rfl (AY rfl (Cj) ⟨kq,kz⟩) ?_
 refine ac ?_
 refine co rfl (AY rfl (Cj) ⟨kq,kz⟩) (co rfl (Bu (Bn) rfl rfl rfl) (co rfl (Bu (Bn) rfl rfl rfl) ?_))
 refine ac ?_
 refine co rfl (AY rfl (Cj) ⟨kq,kz⟩) (co rfl (Bu (Bn) rfl rfl rfl) ?_)
 refine ac ?_
 refine co rfl (AY rfl (Cj) ⟨kq,kz⟩) ?_
 refine ac ?_
 refine co rfl (AY rfl (Cj) ⟨kq,kz⟩) (co rfl (Bu (Bn) rfl rfl rfl) ?_)
 refine ac ?_
 refine co rfl (AY rfl (Cj) ⟨kq,kz⟩) ?_
 refine ac ?_
 refine co rfl (AY rfl (Cj) ⟨kq,kz⟩) (co rfl (Al rfl Ht Jr vq rfl rfl) (co rfl (Bu (Bn) rfl rfl rfl) (co rfl (Bu (Bn) rfl rfl rfl) (co rfl (Al rfl Ht Jr vq rfl rfl) (co rfl (AY rfl (Cj) ⟨kq,kz⟩) ?_)))))
 refine ac ?_
 refine co rfl (AY rfl (Cj) ⟨kq,kz⟩) (co rfl (Bu (Bn) rfl rfl rfl) (co rfl (Bu (Bn) rfl rfl rfl) ?_))
 refine ac ?_
 refine co rfl (AY rfl (Cj) ⟨kq,kz⟩) ?_
 refine ac ?_
 refine co rfl (AY rfl (Cj) ⟨kq,kz⟩) ?_
 refine ac ?_
 refine co rfl (AY rfl (Cj) ⟨kq,kz⟩) ?_
 refine ac ?_
 refine co rfl (AY rfl (Cj) ⟨kq,kz⟩) ?_
 refine ac ?_
 refine co rfl (AY rfl (Cj) ⟨kq,kz⟩) (co rfl (Bu (Bn) rfl rfl rfl) ?_)
 refine ac ?_
 refine co rfl (AY rfl (Cj) ⟨kq,kz⟩) (co rfl (Aa (xs:=[.tmp 33,.tmp 38,.tmp 43,.tmp 48,.tmp 53,.tmp 58,.tmp 63,.tmp 68,.tmp 73,.tmp 78,.tmp 83,.tmp 88,.tmp 93,.tmp 98,.tmp 103,.tmp 108]) (rows:=NM) rfl rfl underlying306 Gg z233 rfl AD ⟨⟨Ao,VL.le vq (Ah _)⟩,⟨⟨Ao,VL.le vq (Ah _)⟩,⟨⟨Ao,VL.le vq (Ah _)⟩,⟨⟨Ao,VL.le vq (Ah _)⟩,⟨⟨Ao,VL.le vq (Ah _)⟩,⟨⟨Ao,VL.le vq (Ah _)⟩,⟨⟨Ao,VL.le vq (Ah _)⟩,⟨⟨Ao,VL.le vq (Ah _)⟩,⟨⟨Ao,VL.le vq (Ah _)⟩,⟨⟨Ao,VL.le vq (Ah _)⟩,⟨⟨Ao,VL.le vq (Ah _)⟩,⟨⟨Ao,VL.le vq (Ah _)⟩,⟨⟨Ao,VL.le vq (Ah _)⟩,⟨⟨Ao,VL.le vq (Ah _)⟩,⟨⟨Ao,VL.le vq (Ah _)⟩,⟨⟨Ao,VL.le vq (Ah _)⟩,trivial⟩⟩⟩⟩⟩⟩⟩⟩⟩⟩⟩⟩⟩⟩⟩⟩ AD) ?_)
 refine ac ?_
 refine wk [0] rfl ?_
 refine ac ?_
 · exact BF _ _
theorem iE {code:Int}  :A_ prog 140 [int code] (DW [agg DR,int (if 1≤code∧code≤16 then 0 else 8)]):=by
 refine fo func140 rfl ⟨rfl,rfl⟩ fun M0 w0=>(Tr.seq (Tr.BI ?_))
 refine Tl rfl rfl rfl rfl z233 Je (fun b1=> ?_)
 refine ap ?_
 refine ag ?_ ?_<;>intro h1 q1
 refine ac ?_
 refine Tr.cond rfl (fun _=> ?_) (fun h=>nomatch h)
 refine Tr.seq (Tr.BI (tp rfl (Au (rows:=[]) rfl dW Je trivial rfl) (TO.AV 0 rfl rfl rfl vq Cu rfl Gg rfl rfl (tm rfl (TO.nil (Fin.go (Tr.ret (Fin.AF (Fin.BW rfl (AQ.cell 0 rfl rfl JE Gg rfl Lr) (AQ.tmp rfl Lr) ?_)))))))))
 · exact BK ⟨Vn rfl,int_eq (by rw [if_neg];simp_all;omega),trivial⟩
 refine an ?_ ?_<;>intro h2 q2
 refine ap ?_
 refine Tr.ret (Fin.AF (Fin.BW rfl (AQ.cell 0 rfl rfl JE Gg rfl Lr) (AQ.tmp rfl Lr) ?_))
 · exact BK ⟨Vn rfl,int_eq (by rw [if_neg];simp_all),trivial⟩
 have hin:1≤code∧code≤16:=by omega
 refine ac ?_
 refine Tr.seq (Tr.BI (tp rfl (kc0 (Z0) rfl) ?_))
 refine ap ?_
 refine tp rfl (AB rfl underlying306 Gg vq vq AA (nM AA)) ?_
 refine ap ?_
 refine wk [3,2] rfl (Tr.ret (Fin.BW rfl (AQ.cell 0 rfl rfl JE Gg rfl Lr) (AQ.tmp rfl Lr) ?_))
 · exact BK ⟨Lr,int_eq (by rw [if_pos hin]),trivial⟩
theorem KL {l:List Int} {v:Int}  :A_ prog 141 [ints l,int v] (bool (l.any fun x=>v==x)):=by
 refine fo func141 rfl ⟨rfl,rfl⟩ fun M0 w0=>(Tr.CN 0 rfl fun C3=> ?_)
 refine a2 ?_
 refine Tr.block (Tr.A0 _ (kk [1,0] rfl) (fun k:Nat=>[(5,int ((k:Nat):Int))]) (fun k:Nat=>k≤(l).length∧((l.take k).any (fun x=>v==x)=false)) (fun k:Nat=>(l).length-k) 0 (⟨Nat.zero_le _,rfl⟩) kz ?_)
 rintro k ⟨BN,AX⟩
 refine an ?_ ?_<;>intro h1 q1
 have Ae:k<(l).length:=AJ h1
 obtain ⟨x,Af⟩:=at_ Ae
 · repeat' first|(refine bool_eq ?_;symm;rw [List.any_eq_true];exact ⟨_,List.mem_of_getElem? Af,by simp_all⟩)|(exact Fin.AL (k+1) ⟨⟨Ae,cW⟩,by omega⟩ ⟨⟨_,rfl,AG k⟩,kz⟩)|refine co rfl (AB rfl underlying22 BJ vq vq AA Bk) ?_|refine ac ?_|(refine Tr.cn rfl ?_ ?_<;>intro h q)
 have BC:k=(l).length:=by have:=AK h1;omega
 subst BC
 refine a3 ?_
 · exact Uu
theorem DI {l:List (List UInt8)}:HK l=true↔(∀j,j<l.length→nameAt l j=true)∧l.length≤8:=by unfold HK;rw [Bool.and_eq_true,CA,decide_eq_true_eq]
theorem K_ {l:List (List UInt8)} {s:List UInt8} (hs:l[k]? =some s) (h1:named s=true) (h2:0<k→∃y,l[k-1]? =some y∧Lib.compareBytes y s= -1):nameAt l k=true:=by grind [nameAt]
theorem MH {c:Jh}  :A_ prog 136 [agg (F4 c)] (int (if EB c then 0 else 9)):=by
 refine fo func136 rfl ⟨rfl,rfl⟩ fun M0 w0=> ?_
 refine ac ?_
 refine ag ?_ ?_<;>intro h1 q1
 refine ac ?_
 refine wk [39,1] rfl ?_
 refine a2 ?_
 · exact Jv
 refine ag ?_ ?_<;>intro h2 q2
 refine ac ?_
 refine wk [39,1] rfl ?_
 refine a2 ?_
 · exact Jv
 refine ac ?_
 refine cy h2 rfl (CE (G1) rfl rfl) ?_
 refine ag ?_ ?_<;>intro h3 q3
 refine ac ?_
 refine wk [39,1] rfl ?_
 refine a2 ?_
 · exact Qs
 refine ac ?_
 refine cy h3 rfl (CE (G1) rfl rfl) ?_
 refine ag ?_ ?_<;>intro h4 q4
 refine ac ?_
 refine wk [39,1] rfl ?_
 refine a2 ?_
 · exact Qs
 refine ac ?_
 refine cy h4 rfl (CE (KG) rfl rfl) ?_
 refine ag ?_ ?_<;>intro h5 q5
 refine ac ?_
 refine wk [39,1] rfl ?_
 refine a2 ?_
 · exact Qs
 refine ag ?_ ?_<;>intro h6 q6
 refine ac ?_
 refine wk [39,1] rfl ?_
 refine a2 ?_
 · exact Jv
 refine ac ?_
 refine wk [39,1] rfl ?_
 refine Tr.cn rfl ?_ ?_<;>intro h7 q7
 refine a2 ?_
 · exact Jv
 refine a2 ?_
 refine co rfl (CE (KF) rfl rfl) ?_
 refine ag ?_ ?_<;>intro h8 q8
 refine ac ?_
 refine wk [67,1] rfl ?_
 refine a2 ?_
 · refine int_eq (if_neg (fun hv=> ?_)).symm;have vf:=Ja hv;obtain ⟨Yv,Yw,Qm,Qn,Jk,G_,Yx,Yy,FC,Qo,Qp,Qq,Qr,Yz,Y0,Y1,Y2,Y3,Y4⟩:=vf;have Y5:=(DI.1 Jk).2;unfold Le at G_ FC;simp_all;omega
 refine ac ?_
 refine cy h8 rfl (CE (QH) rfl rfl) ?_
 refine ag ?_ ?_<;>intro h9 q9
 refine ac ?_
 refine wk [67,1] rfl ?_
 refine a2 ?_
 · exact Qs
 refine ag ?_ ?_<;>intro h10 O2
 refine ac ?_
 refine wk [67,1] rfl ?_
 refine a2 ?_
 · exact Jv
 refine ag ?_ ?_<;>intro h11 Rz
 refine ac ?_
 refine wk [67,1] rfl ?_
 refine a2 ?_
 · exact Jv
 refine ac ?_
 refine wk [67,1] rfl ?_
 refine Tr.cn rfl ?_ ?_<;>intro h12 TN
 refine a2 ?_
 · exact Jv
 refine ac ?_
 refine ag ?_ ?_<;>intro J8 Vs
 refine ac ?_
 refine wk [91,1] rfl ?_
 refine a2 ?_
 · exact Jv
 refine ag ?_ ?_<;>intro Mi nU
 refine ac ?_
 refine wk [91,1] rfl ?_
 refine a2 ?_
 · exact Jv
 refine ag ?_ ?_<;>intro Wi q15
 refine ag ?_ ?_<;>intro h16 q16
 refine ac ?_
 refine wk [91,1] rfl ?_
 refine a2 ?_
 · exact Qs
 refine ac ?_
 refine wk [91,1] rfl ?_
 refine Tr.cn rfl ?_ ?_<;>intro OD q17
 refine a2 ?_
 · exact Jv
 refine a2 ?_
 refine Tr.block (Tr.A0 _ (kk [1] rfl) (fun k:Nat=>[(3,int ((k:Nat):Int))]) (fun k:Nat=>k≤(c.names).length∧(∀j,j<k→nameAt c.names j=true)) (fun k:Nat=>(c.names).length-k) 0 (⟨Nat.zero_le _,fun j hj=>absurd hj AA⟩) kz ?_)
 rintro k ⟨BN,AX⟩
 refine an ?_ ?_<;>intro RO q18
 have Ae:k<(c.names).length:=AJ RO
 obtain ⟨s,Af⟩:=at_ Ae
 refine a2 ?_
 refine co rfl (AB rfl underlying51 Hs vq vq AA (Ad Af)) (co rfl (JA rfl Ge rfl) (co rfl (CE (G1) rfl rfl) ?_))
 refine ag ?_ ?_<;>intro nQ q19
 refine ac ?_
 refine wk [123,3,1] rfl ?_
 refine a2 ?_
 · exact kP
 refine ag ?_ ?_<;>intro R3 q20
 have ME:0<k:=by simpa using R3
 obtain ⟨y,hy⟩:=at_ (l:=c.names) (k:=k-1) AA
 · repeat' first|(refine int_eq (if_neg (fun hv=> ?_)).symm;have vf:=Ja hv;obtain ⟨Yv,Yw,Qm,Qn,Jk,G_,Yx,Yy,FC,Qo,Qp,Qq,Qr,Yz,Y0,Y1,Y2,Y3,Y4⟩:=vf;have Y5:=(DI.1 Jk).2;unfold Le at G_ FC;have kQ:=(DI.1 Jk).1 k AA;unfold nameAt at kQ;simp_all)|(exact Fin.AL (k+1) ⟨⟨Ae,(fun j hj=>by rcases Nat.lt_or_eq_of_le (Nat.le_of_lt_succ hj) with h_|h_;exact AX j h_;(subst h_;refine K_ Af B9 (fun h0=> ?_);exact ⟨y,hy,by simp_all⟩))⟩,by omega⟩ ⟨⟨_,rfl,AG k⟩,kz⟩)|(refine cy R3 rfl (AB rfl underlying51 Hs vq vq AA Ly) ?_)|refine cy R3 rfl (AB rfl underlying51 Hs vq vq AA (Ad Af)) (cy R3 rfl (JA rfl Ge rfl) (cy R3 rfl (Rb rfl vq vq) ?_))|refine ac ?_|(refine Tr.cn rfl ?_ ?_<;>intro h q)
 have ME:¬0<k:=by simpa using R3
 refine ac ?_
 refine wk [123,3,1] rfl ?_
 refine a2 ?_
 exact Fin.AL (k+1) ⟨⟨Ae,(fun j hj=>by rcases Nat.lt_or_eq_of_le (Nat.le_of_lt_succ hj) with h_|h_;exact AX j h_;(subst h_;refine K_ Af B9 (fun h0=> ?_);exact absurd h0 ME))⟩,by omega⟩ ⟨⟨_,rfl,AG k⟩,kz⟩
 have BC:k=(c.names).length:=by have:=AK RO;omega
 subst BC
 · repeat' first|(refine int_eq (if_neg (fun hv=> ?_)).symm;have vf:=Ja hv;obtain ⟨Yv,Yw,Qm,Qn,Jk,G_,Yx,Yy,FC,Qo,Qp,Qq,Qr,Yz,Y0,Y1,Y2,Y3,Y4⟩:=vf;have Y5:=(DI.1 Jk).2;unfold Le at G_ FC;omega)|(refine int_eq (if_pos (eJ ⟨by omega,by omega,by simp_all,by simp_all,DI.2 ⟨AX,by omega⟩,by unfold Le;simp_all,by omega,by omega,by unfold Le;simp_all,by omega,by omega,by omega,by omega,by omega,by omega,by omega,by omega,by omega,by right;omega⟩)).symm)|refine ac ?_|(refine Tr.cn rfl ?_ ?_<;>intro h q)|(refine Ch.cg rfl rfl rfl ?_ ?_<;>intro h q)
 refine ac ?_
 refine wk [91,1] rfl ?_
 refine Tr.cn rfl ?_ ?_<;>intro h26 q26
 refine a2 ?_
 · exact Jv
 refine a2 ?_
 refine Tr.block (Tr.A0 _ (kk [1] rfl) (fun k:Nat=>[(3,int ((k:Nat):Int))]) (fun k:Nat=>k≤(c.names).length∧(∀j,j<k→nameAt c.names j=true)) (fun k:Nat=>(c.names).length-k) 0 (⟨Nat.zero_le _,fun j hj=>absurd hj AA⟩) kz ?_)
 rintro k ⟨BN,AX⟩
 refine an ?_ ?_<;>intro h27 q27
 have Ae:k<(c.names).length:=AJ h27
 obtain ⟨s,Af⟩:=at_ Ae
 refine a2 ?_
 refine co rfl (AB rfl underlying51 Hs vq vq AA (Ad Af)) (co rfl (JA rfl Ge rfl) (co rfl (CE (G1) rfl rfl) ?_))
 refine ag ?_ ?_<;>intro h28 q28
 refine ac ?_
 refine wk [123,3,1] rfl ?_
 refine a2 ?_
 · exact kP
 refine ag ?_ ?_<;>intro kL q29
 have ME:0<k:=by simpa using kL
 obtain ⟨y,hy⟩:=at_ (l:=c.names) (k:=k-1) AA
 · repeat' first|(refine int_eq (if_neg (fun hv=> ?_)).symm;have vf:=Ja hv;obtain ⟨Yv,Yw,Qm,Qn,Jk,G_,Yx,Yy,FC,Qo,Qp,Qq,Qr,Yz,Y0,Y1,Y2,Y3,Y4⟩:=vf;have Y5:=(DI.1 Jk).2;unfold Le at G_ FC;have kQ:=(DI.1 Jk).1 k AA;unfold nameAt at kQ;simp_all)|(exact Fin.AL (k+1) ⟨⟨Ae,(fun j hj=>by rcases Nat.lt_or_eq_of_le (Nat.le_of_lt_succ hj) with h_|h_;exact AX j h_;(subst h_;refine K_ Af B9 (fun h0=> ?_);exact ⟨y,hy,by simp_all⟩))⟩,by omega⟩ ⟨⟨_,rfl,AG k⟩,kz⟩)|(refine cy kL rfl (AB rfl underlying51 Hs vq vq AA Ly) ?_)|refine cy kL rfl (AB rfl underlying51 Hs vq vq AA (Ad Af)) (cy kL rfl (JA rfl Ge rfl) (cy kL rfl (Rb rfl vq vq) ?_))|refine ac ?_|(refine Tr.cn rfl ?_ ?_<;>intro h q)
 have ME:¬0<k:=by simpa using kL
 refine ac ?_
 refine wk [123,3,1] rfl ?_
 refine a2 ?_
 exact Fin.AL (k+1) ⟨⟨Ae,(fun j hj=>by rcases Nat.lt_or_eq_of_le (Nat.le_of_lt_succ hj) with h_|h_;exact AX j h_;(subst h_;refine K_ Af B9 (fun h0=> ?_);exact absurd h0 ME))⟩,by omega⟩ ⟨⟨_,rfl,AG k⟩,kz⟩
 have BC:k=(c.names).length:=by have:=AK h27;omega
 subst BC
 · repeat' first|(refine int_eq (if_neg (fun hv=> ?_)).symm;have vf:=Ja hv;obtain ⟨Yv,Yw,Qm,Qn,Jk,G_,Yx,Yy,FC,Qo,Qp,Qq,Qr,Yz,Y0,Y1,Y2,Y3,Y4⟩:=vf;have Y5:=(DI.1 Jk).2;unfold Le at G_ FC;omega)|(refine int_eq (if_pos (eJ ⟨by omega,by omega,by simp_all,by simp_all,DI.2 ⟨AX,by omega⟩,by unfold Le;simp_all,by omega,by omega,by unfold Le;simp_all,by omega,by omega,by omega,by omega,by omega,by omega,by omega,by omega,by omega,by left;simp_all⟩)).symm)|refine ac ?_|(refine Tr.cn rfl ?_ ?_<;>intro h q)|(refine Ch.cg rfl rfl rfl ?_ ?_<;>intro h q)
theorem and1 {a b:Bool} (h:(a&&b)=true):a=true:=by simp at h;exact h.1
theorem AA5 {a b:Bool} (h:(a&&b)=true):b=true:=by simp at h;exact h.2
theorem nw:∀(n:Nat) (l:List Int),(∀x∈l,1≤x∧x≤(n:Int))→l.Nodup→l.length≤n
 |0,l,h,_=>by
  cases l with
  |nil=>exact Nat.le_refl _
  |cons a l=>have:=h a (List.mem_cons_self ..);omega
 |n+1,l,h,hn=>by
  have ih:=nw n (l.erase ((n:Int)+1)) (fun x hx=>by
   have h1:=h x (List.mem_of_mem_erase hx)
   have h2:=(hn.mem_erase_iff.1 hx).1
   omega) (hn.erase _)
  rw [List.length_erase] at ih
  split at ih<;>omega
theorem Tc {l:List Int} (h:K8 l=true):l.length≤16:=by
 refine nw 16 l (fun x hx=> ?_) ?_
 ·
  obtain ⟨j,hj⟩:=List.getElem?_of_mem hx
  have h1:=CA.1 (show allI (GZ l) l.length=true from h) j (BZ hj)
  unfold GZ at h1;rw [getD_at hj] at h1
  have:=and1 h1
  simpa using this
 ·
  refine List.pairwise_iff_getElem.2 fun i j hi hj hij he=> ?_
  have:=Zy h (List.getElem?_eq_getElem hi) (by rw [he];exact List.getElem?_eq_getElem hj)
  omega
theorem n5 {p:Int→Bool} {l:List Int} (h:∀j,j<l.length→p (l[j]?.getD 0)=true):l.all p=true:=List.all_eq_true.2 fun x hx=>by
 obtain ⟨j,hj⟩:=List.getElem?_of_mem hx
 have:=h j (BZ hj)
 rw [getD_at hj] at this;exact this
theorem iF {B8 bits id:Int} {l:List Jh}  :A_ prog 142 [agg [int B8,int bits],int id,O3 l] (bool (Vm B8 bits id l)):=by
 refine fo func142 rfl ⟨rfl,rfl⟩ fun M0 w0=>(Tr.CN 2 rfl fun n7=> ?_)
 refine a2 ?_
 refine co rfl (CE (KG) rfl rfl) ?_
 refine ag ?_ ?_<;>intro h1 q1
 refine ac ?_
 refine wk [23,3,2,1] rfl ?_
 refine a2 ?_
 · refine bool_eq ?_;rw [G4];unfold Le IP;simp_all
 refine ag ?_ ?_<;>intro h2 q2
 refine ac ?_
 refine wk [23,3,2,1] rfl ?_
 refine a2 ?_
 · exact U0
 refine ag ?_ ?_<;>intro h3 q3
 refine ac ?_
 refine wk [23,3,2,1] rfl ?_
 refine a2 ?_
 · exact U0
 refine ac ?_
 refine wk [23,3,2,1] rfl ?_
 refine Tr.cn rfl ?_ ?_<;>intro h4 q4
 refine a2 ?_
 · exact U0
 refine a2 ?_
 refine Tr.block (Tr.A0 _ (kk [3,2,1] rfl) (fun k:Nat=>[(7,int ((k:Nat):Int))]) (fun k:Nat=>k≤(l).length∧(∀j y,j<k→l[j]? =some y→(!EB y)=false)) (fun k:Nat=>(l).length-k) 0 (⟨Nat.zero_le _,fun j y hj=>absurd hj AA⟩) kz ?_)
 rintro k ⟨BN,AX⟩
 refine an ?_ ?_<;>intro h5 q5
 have Ae:k<(l).length:=AJ h5
 obtain ⟨c,Af⟩:=at_ Ae
 · repeat' first|(refine bool_eq ?_;rw [G4];unfold Le IP;rw [QF (p:=EB) Af B9];simp)|exact Fin.AL (k+1) ⟨⟨Ae,Dm (p:=fun c=> !EB c) Af B9 AX⟩,by omega⟩ ⟨⟨_,rfl,AG k⟩,kz⟩|refine co rfl (AB rfl underlying103 F2 vq vq AA (Ad Af)) (co rfl (Al rfl OE F2 vq rfl rfl) (co rfl (CE (MH) rfl rfl) ?_))|refine ac ?_|(refine Tr.cn rfl ?_ ?_<;>intro h q)
 have BC:k=(l).length:=by have:=AK h5;omega
 subst BC
 have hall:=JH AX
 refine ac ?_
 refine ag ?_ ?_<;>intro h7 q7
 refine ac ?_
 refine wk [6] rfl ?_
 refine ac ?_
 · refine bool_eq ?_;rw [G4];unfold Le IP;rw [hall,gu B9];simp_all
 obtain ⟨c0,hc0⟩:=at_ (l:=l) (k:=0) (by have:=h7;simp at this;exact List.length_pos_iff.2 this)
 refine OB h7 rfl ?_
 refine cy h7 rfl (AB rfl underlying103 F2 vq vq AA (Ad (k:=0) hc0)) ?_
 refine ac ?_
 refine cy h7 rfl (Vi rfl vq vq) (OB h7 rfl ?_)
 refine Ch.cs 46 rfl ?_ ?_<;>intro h8 q8
 refine OB h8 rfl ?_
 refine cy h8 rfl (AB rfl underlying103 F2 vq vq AA (Ad (k:=0) hc0)) ?_
 refine ac ?_
 refine wk [6] rfl ?_
 refine ac ?_
 · refine bool_eq ?_;rw [G4];unfold Le IP;rw [hall,XT hc0];clear hall AX hc0;simp_all;omega
 refine ac ?_
 refine wk [6] rfl ?_
 refine ac ?_
 · refine bool_eq ?_;rw [G4];unfold Le IP;rw [hall,XT hc0];clear hall AX hc0;simp_all
theorem Z1 {e:CF} (hs3:e.hashes.length≤17592186044416):A_ prog 83 [agg (Bp e)] (int (if Gt e then 0 else 19)):=by
 refine fo func83 rfl ⟨rfl,rfl⟩ fun M0 w0=> ?_
 refine ac ?_
 refine ac ?_
 refine co rfl (CE (nv) rfl rfl) ?_
 refine ac ?_
 refine Ch.cs 13 rfl ?_ ?_<;>intro h1 q1
 refine ac ?_
 refine wk [47,1] rfl ?_
 refine ac ?_
 refine ac ?_
 · refine int_eq (if_neg (fun hv=> ?_)).symm;have ok:=DN.1 hv;have v1:=ok.name;have v2:=ok.least;have v3:=ok.lm;have v4:=ok.most;have v5:=Tc ok.BA;have v6:=ok.Y6;have v7:=ok.ADO;simp_all
 refine ac ?_
 refine Ch.cs 18 rfl ?_ ?_<;>intro h2 q2
 refine ac ?_
 refine wk [47,1] rfl ?_
 refine ac ?_
 refine ac ?_
 · exact Nt
 refine ac ?_
 refine Ch.cs 25 rfl ?_ ?_<;>intro h3 q3
 refine ac ?_
 refine wk [47,1] rfl ?_
 refine ac ?_
 refine ac ?_
 · exact Nt
 refine ac ?_
 refine Ch.cs 30 rfl ?_ ?_<;>intro h4 q4
 refine ac ?_
 refine wk [47,1] rfl ?_
 refine ac ?_
 refine ac ?_
 · exact Nt
 refine ac ?_
 refine Ch.cs 36 rfl ?_ ?_<;>intro h5 q5
 refine ac ?_
 refine wk [47,1] rfl ?_
 refine ac ?_
 refine ac ?_
 · exact Nt
 refine ac ?_
 refine Ch.cs 42 rfl ?_ ?_<;>intro h6 q6
 refine ac ?_
 refine wk [47,1] rfl ?_
 refine ac ?_
 refine ac ?_
 · exact Nt
 refine ac ?_
 refine wk [47,1] rfl ?_
 refine Tr.cn rfl ?_ ?_<;>intro h7 q7
 refine ac ?_
 refine ac ?_
 · exact Nt
 refine ac ?_
 refine ac ?_
 refine Tr.block (Tr.A0 _ (kk [1] rfl) (fun i:Nat=>[(3,int ((i:Nat):Int))]) (fun i:Nat=>i≤(e.BA).length∧(∀j,j<i→GZ e.BA j=true)) (fun i:Nat=>(e.BA).length-i) 0 (⟨Nat.zero_le _,fun j hj=>absurd hj AA⟩) kz ?_)
 rintro i ⟨UD,E0⟩
 refine ac ?_
 refine Tr.cn rfl ?_ ?_<;>intro h8 q8
 have Ik:i<(e.BA).length:=AJ h8
 obtain ⟨x,LP⟩:=at_ Ik
 have hg:=getD_at (d:=(0:Int)) LP
 refine ac ?_
 refine ao ?_
 refine tp rfl (AB rfl underlying22 BJ (vl rfl) (vl rfl) AA (Ad LP)) (tp rfl (JA rfl BT rfl) (tp rfl (CE (iE) rfl rfl) ?_))
 refine ao ?_
 refine Tl rfl rfl rfl rfl z233 Je (fun b1=> ?_)
 refine sf 0 4 ⟨rfl,rfl,rfl⟩ rfl rfl rfl rfl ?_
 refine ao ?_
 refine wk [5,3,1] rfl ?_
 refine ac ?_
 refine Ch.cs 66 rfl ?_ ?_<;>intro h9 q9
 have AJ4:¬(1≤x∧x≤16):=by intro hh;rw [if_pos hh] at h9;exact absurd h9 AD
 refine ac ?_
 refine wk [77,3,1] rfl ?_
 refine ac ?_
 refine ac ?_
 · refine int_eq (if_neg (fun hv=> ?_)).symm;have ok:=DN.1 hv;have h_:=CA.1 (show allI (GZ e.BA) e.BA.length=true from ok.BA) i AA;unfold GZ at h_;rw [hg] at h_;exact AJ4 (by simpa using and1 h_)
 have hin:1≤x∧x≤16:=by refine Decidable.byContradiction fun hh=> ?_;rw [if_neg hh] at h9;exact absurd h9 AD
 refine ac ?_
 refine cy h9 rfl (Dr rfl underlying22 BJ (vl rfl) (vl rfl) AA Bz) ?_
 refine ac ?_
 refine cy h9 rfl (AB rfl underlying22 BJ (vl rfl) (vl rfl) AA (Ad LP)) (cy h9 rfl (JA rfl BT rfl) ?_)
 refine cy h9 rfl (AY rfl (KL (l:=e.BA.take i) (v:=x)) ⟨⟨_,rfl,Pr.le_of_eq (by rw [←List.map_take,Int.toNat_natCast])⟩,kz⟩) ?_
 refine ac ?_
 refine wk [77,3,1] rfl ?_
 refine Tr.cn rfl ?_ ?_<;>intro h10 O2
 refine ac ?_
 refine ac ?_
 · refine int_eq (if_neg (fun hv=> ?_)).symm;have ok:=DN.1 hv;have h_:=CA.1 (show allI (GZ e.BA) e.BA.length=true from ok.BA) i AA;unfold GZ at h_;rw [hg] at h_;exact absurd (by assumption:((e.BA.take i).any fun y=>x==y)=true) (by have h2:=AA5 h_;rw [Bool.not_eq_true'] at h2;rw [h2];decide)
 refine ac ?_
 refine ac ?_
 exact Fin.AL (i+1) ⟨⟨Ik,EA E0 (by unfold GZ;rw [hg];rw [decide_eq_true hin];simp_all)⟩,by omega⟩ ⟨⟨_,rfl,AG i⟩,kz⟩
 have NU:i=(e.BA).length:=by have:=AK h8;omega
 subst NU
 refine ac ?_
 refine ac ?_
 refine Tr.block (Tr.A0 _ (kk [1] rfl) (fun m:Nat=>[(6,int ((m:Nat):Int))]) (fun m:Nat=>m≤(e.ids).length∧(∀j y,j<m→e.ids[j]? =some y→(!idB y)=false)) (fun m:Nat=>(e.ids).length-m) 0 (⟨Nat.zero_le _,fun j y hj=>absurd hj AA⟩) kz ?_)
 rintro m ⟨KM,IJ⟩
 refine ac ?_
 refine Tr.cn rfl ?_ ?_<;>intro h11 Rz
 have Du:m<(e.ids).length:=AJ h11
 obtain ⟨x,Dn⟩:=at_ Du
 refine ac ?_
 refine ac ?_
 refine co rfl (AB rfl underlying100 ES (vl rfl) (vl rfl) AA (Ad Dn)) ?_
 refine ac ?_
 refine co rfl (AB rfl underlying100 ES (vl rfl) (vl rfl) AA (Ad Dn)) ?_
 refine ac ?_
 refine co rfl (AB rfl underlying100 ES (vl rfl) (vl rfl) AA (Ad Dn)) ?_
 refine ac ?_
 refine co rfl (Iy (iF) rfl rfl rfl rfl) ?_
 refine ac ?_
 refine wk [104,6,1] rfl ?_
 refine Tr.cn rfl ?_ ?_<;>intro h12 TN
 refine ac ?_
 refine ac ?_
 · refine int_eq (if_neg (fun hv=> ?_)).symm;have ok:=DN.1 hv;have h_:=List.all_eq_true.1 ok.ids x (List.mem_of_getElem? Dn);unfold idB at h_;simp_all
 refine ac ?_
 refine ac ?_
 exact Fin.AL (m+1) ⟨⟨Du,Dm (p:=fun c=> !idB c) Dn (by unfold idB;simp_all) IJ⟩,by omega⟩ ⟨⟨_,rfl,AG m⟩,kz⟩
 have Il:m=(e.ids).length:=by have:=AK h11;omega
 subst Il
 have hall:=JH IJ
 refine ac ?_
 refine ac ?_
 refine Tr.block (Tr.A0 _ (kk [1] rfl) (fun o:Nat=>[(7,int ((o:Nat):Int))]) (fun o:Nat=>o≤(e.anchors).length∧(∀j,j<o→(Ih e.anchors j&&IP (e.anchors[j]?.getD 0))=true)) (fun o:Nat=>(e.anchors).length-o) 0 (⟨Nat.zero_le _,fun j hj=>absurd hj AA⟩) kz ?_)
 rintro o ⟨AFt,MI⟩
 refine ac ?_
 refine Tr.cn rfl ?_ ?_<;>intro J8 Vs
 have iG:o<(e.anchors).length:=AJ J8
 obtain ⟨a,Ut⟩:=at_ iG
 have hg:=getD_at (d:=(0:Int)) Ut
 refine ac ?_
 refine ac ?_
 refine co rfl (AB rfl underlying22 BJ (vl rfl) (vl rfl) AA (Ad Ut)) ?_
 refine ac ?_
 refine Ch.cs 118 rfl ?_ ?_<;>intro Mi nU
 refine ac ?_
 refine wk [143,7,1] rfl ?_
 refine ac ?_
 refine ac ?_
 · exact kj
 refine ac ?_
 refine cy Mi rfl (AB rfl underlying22 BJ (vl rfl) (vl rfl) AA (Ad Ut)) ?_
 refine ac ?_
 refine Ch.cs 126 rfl ?_ ?_<;>intro Wi q15
 refine ac ?_
 refine wk [143,7,1] rfl ?_
 refine ac ?_
 refine ac ?_
 · exact kj
 refine ac ?_
 refine Ch.cs 129 rfl ?_ ?_<;>intro h16 q16
 have hk0:0<o:=by simpa using h16
 obtain ⟨y,hy⟩:=at_ (l:=e.anchors) (k:=o-1) AA
 have Wd:=getD_at (d:=(0:Int)) hy
 refine ac ?_
 refine cy h16 rfl (AB rfl underlying22 BJ (vl rfl) (vl rfl) AA (by rw [show ((o:Nat):Int)-1=((o-1:Nat):Int) by omega];exact Ad hy)) ?_
 refine ac ?_
 refine cy h16 rfl (AB rfl underlying22 BJ (vl rfl) (vl rfl) AA (Ad Ut)) ?_
 refine ac ?_
 refine wk [143,7,1] rfl ?_
 refine Tr.cn rfl ?_ ?_<;>intro OD q17
 refine ac ?_
 refine ac ?_
 · refine int_eq (if_neg (fun hv=> ?_)).symm;have ok:=DN.1 hv;have h_:=CA.1 (show allI (Ih e.anchors) e.anchors.length=true from ok.anc) o AA;unfold Ih at h_;rw [hg,Wd] at h_;simp at h_;omega
 refine ac ?_
 refine ac ?_
 exact Fin.AL (o+1) ⟨⟨iG,(fun j hj=>by rcases Nat.lt_or_eq_of_le (Nat.le_of_lt_succ hj) with h_|h_;exact MI j h_;(subst h_;unfold Ih IP;rw [hg];rw [Wd];simp_all))⟩,by omega⟩ ⟨⟨_,rfl,AG o⟩,kz⟩
 have ME:¬0<o:=by simpa using h16
 refine ac ?_
 refine wk [143,7,1] rfl ?_
 refine ac ?_
 refine ac ?_
 exact Fin.AL (o+1) ⟨⟨iG,(fun j hj=>by rcases Nat.lt_or_eq_of_le (Nat.le_of_lt_succ hj) with h_|h_;exact MI j h_;(subst h_;unfold Ih IP;rw [hg];simp_all))⟩,by omega⟩ ⟨⟨_,rfl,AG o⟩,kz⟩
 have AA6:o=(e.anchors).length:=by have:=AK J8;omega
 subst AA6
 refine ac ?_
 refine ac ?_
 refine Tr.block (Tr.A0 _ (kk [1] rfl) (fun q:Nat=>[(8,int ((q:Nat):Int))]) (fun q:Nat=>q≤(e.hashes).length∧(∀j,j<q→(Ih e.hashes j&&Ry (e.hashes[j]?.getD 0))=true)) (fun q:Nat=>(e.hashes).length-q) 0 (⟨Nat.zero_le _,fun j hj=>absurd hj AA⟩) kz ?_)
 rintro q ⟨AK3,V2⟩
 refine ac ?_
 refine Tr.cn rfl ?_ ?_<;>intro RO q18
 have AA7:q<(e.hashes).length:=AJ RO
 obtain ⟨a,Xd⟩:=at_ AA7
 have hg:=getD_at (d:=(0:Int)) Xd
 refine ac ?_
 refine ac ?_
 refine co rfl (AB rfl underlying22 BJ (vl rfl) (vl rfl) AA (Ad Xd)) (co rfl (JA rfl BT rfl) (co rfl (CE (QH) rfl rfl) ?_))
 refine ac ?_
 refine Ch.cs 158 rfl ?_ ?_<;>intro nQ q19
 refine ac ?_
 refine wk [175,8,1] rfl ?_
 refine ac ?_
 refine ac ?_
 · refine int_eq (if_neg (fun hv=> ?_)).symm;have ok:=DN.1 hv;have h_:=List.all_eq_true.1 ok.hsh a (List.mem_of_getElem? Xd);unfold Ry at h_;simp_all
 refine ac ?_
 refine Ch.cs 161 rfl ?_ ?_<;>intro R3 q20
 have hk0:0<q:=by simpa using R3
 obtain ⟨y,hy⟩:=at_ (l:=e.hashes) (k:=q-1) AA
 have Wd:=getD_at (d:=(0:Int)) hy
 refine ac ?_
 refine cy R3 rfl (AB rfl underlying22 BJ (vl rfl) (vl rfl) AA (by rw [show ((q:Nat):Int)-1=((q-1:Nat):Int) by omega];exact Ad hy)) ?_
 refine ac ?_
 refine cy R3 rfl (AB rfl underlying22 BJ (vl rfl) (vl rfl) AA (Ad Xd)) ?_
 refine ac ?_
 refine wk [175,8,1] rfl ?_
 refine Tr.cn rfl ?_ ?_<;>intro Zo q21
 refine ac ?_
 refine ac ?_
 · refine int_eq (if_neg (fun hv=> ?_)).symm;have ok:=DN.1 hv;have h_:=CA.1 (show allI (Ih e.hashes) e.hashes.length=true from ok.hash) q AA;unfold Ih at h_;rw [hg,Wd] at h_;simp at h_;omega
 refine ac ?_
 refine ac ?_
 exact Fin.AL (q+1) ⟨⟨AA7,(fun j hj=>by rcases Nat.lt_or_eq_of_le (Nat.le_of_lt_succ hj) with h_|h_;exact V2 j h_;(subst h_;unfold Ih Ry;rw [hg];rw [Wd];simp_all))⟩,by omega⟩ ⟨⟨_,rfl,AG q⟩,kz⟩
 have ME:¬0<q:=by simpa using R3
 refine ac ?_
 refine wk [175,8,1] rfl ?_
 refine ac ?_
 refine ac ?_
 exact Fin.AL (q+1) ⟨⟨AA7,(fun j hj=>by rcases Nat.lt_or_eq_of_le (Nat.le_of_lt_succ hj) with h_|h_;exact V2 j h_;(subst h_;unfold Ih Ry;rw [hg];simp_all))⟩,by omega⟩ ⟨⟨_,rfl,AG q⟩,kz⟩
 have AJ5:q=(e.hashes).length:=by have:=AK RO;omega
 subst AJ5
 refine ac ?_
 refine ac ?_
 refine ac ?_
 · refine int_eq (if_pos (DN.2 ⟨by simp_all,by omega,by omega,by omega,CA.2 E0,by omega,by omega,CA.2 (fun j hj=>and1 (MI j hj)),CA.2 (fun j hj=>and1 (V2 j hj)),hall,n5 (fun j hj=>AA5 (MI j hj)),n5 (fun j hj=>AA5 (V2 j hj))⟩)).symm
theorem FR {e:CF} (M6:e.small):A_ Tryz.prog 83 [agg (Bp e)] (int (if Gt e then 0 else 19)):=Z1 (by have:=M6.hashes;omega)
theorem R9 {a b:List (Int)}  :A_ prog 33 [ints a,ints b] (bool (decide (a=b))):=by
 refine fo func33 rfl ⟨rfl,rfl⟩ fun M0 w0=>(Tr.CN 0 rfl fun C3=>(Tr.CN 1 rfl fun Fq=> ?_))
 refine ac ?_
 refine an ?_ ?_<;>intro h1 q1
 have hne:¬a.length=b.length:=by simp_all;omega
 refine a2 ?_
 · refine bool_eq ?_;symm;rw [decide_eq_false_iff_not];rintro rfl;exact hne rfl
 have II:a.length=b.length:=by simp_all;omega
 refine a2 ?_
 refine Tr.block (Tr.A0 _ (kk [12,1,0] rfl) (fun k:Nat=>[(13,int ((k:Nat):Int))]) (fun k:Nat=>k≤(a).length∧(a.take k=b.take k)) (fun k:Nat=>(a).length-k) 0 (⟨Nat.zero_le _,rfl⟩) kz ?_)
 rintro k ⟨BN,AX⟩
 refine ac ?_
 refine Tr.seq ?_
 refine Tr.cn rfl ?_ ?_<;>intro h2 q2
 have Ae:k<(a).length:=AJ h2
 obtain ⟨x,Af⟩:=at_ Ae
 obtain ⟨y,hy⟩:=at_ (l:=b) (k:=k) AA
 · repeat' first|(refine bool_eq ?_;symm;rw [decide_eq_false_iff_not];refine AFs Af hy ?_;rintro rfl;simp_all)|exact Fin.AL (k+1) ⟨⟨Ae,nr Af hy AX B9⟩,by omega⟩ ⟨⟨_,rfl,AG k⟩,kz⟩|refine co rfl (AB rfl underlying22 BJ vq vq AA (Ad Af)) ?_|refine co rfl (AB rfl underlying22 BJ vq vq AA (Ad hy)) ?_|refine ac ?_|(refine Tr.cn rfl ?_ ?_<;>intro h q)
 have BC:k=(a).length:=by have:=AK h2;omega
 subst BC
 refine a3 ?_
 · refine bool_eq ?_;symm;rw [decide_eq_true_eq];exact nu II AX
abbrev AJ6 (l:List CF):Pr:=slice 9 (l.map Bp)
structure Dg where
 Bw:List CF
 BV:List Iz
 items:List V0
 deriving DecidableEq
abbrev CJ (e:Dg):List Pr:=[AJ6 e.Bw,Ij e.BV,R8 e.items]
abbrev GK:Dg:=⟨[],[],[]⟩
structure Dg.fits (e:Dg):Prop where
 Bw:∀x∈e.Bw,x.fits∧x.small
 items:∀x∈e.items,x.name.length≤maxLen
 le:e.Bw.length≤1000000000000
 lg:e.BV.length≤1000000000000
 li:e.items.length≤1000000000000
def Xe (l:List CF) (i:Nat):Bool:=Gt (l[i]?.getD FE)&&(decide (i=0)||decide (Lib.compareBytes (l[i-1]?.getD FE).name (l[i]?.getD FE).name= -1))
def FU (e:Dg):Bool:=(allI (Xe e.Bw) e.Bw.length&&decide (e.Bw.length≤16))&&V1 e.Bw.length e.BV&&(e.items.all O5&&decide (e.items.length≤30))
structure yz (e:Dg):Prop where
 ep:∀j,j<e.Bw.length→Xe e.Bw j=true
 e16:e.Bw.length≤16
 ed:∀j,j<e.BV.length→Ek e.Bw.length e.BV j=true
 e40:e.BV.length≤40
 it:e.items.all O5=true
 i30:e.items.length≤30
theorem FX {e:Dg}:FU e=true↔yz e:=by
 unfold FU V1
 simp only [Bool.and_eq_true,decide_eq_true_eq,CA]
 exact ⟨fun ⟨⟨⟨h1,h2⟩,h3,h4⟩,h5,h6⟩=>⟨h1,h2,h3,h4,h5,h6⟩,fun h=>⟨⟨⟨h.ep,h.e16⟩,h.ed,h.e40⟩,h.it,h.i30⟩⟩
theorem gD {e:Dg} (h:yz e):V1 e.Bw.length e.BV=true:=by unfold V1;simp only [Bool.and_eq_true,decide_eq_true_eq,CA];exact ⟨h.ed,h.e40⟩
theorem Dv {e:Dg} (hf:e.fits):A_ prog 46 [agg (CJ e)] (int (if FU e then 0 else 31)):=by
 refine fo func46 rfl ⟨rfl,rfl⟩ fun M0 w0=> ?_
 have hl1:=hf.le
 have hl2:=hf.lg
 have hl3:=hf.li
 refine ac ?_
 refine ac ?_
 refine Ch.cs 11 rfl ?_ ?_<;>intro h1 q1
 refine ac ?_
 refine wk [22,1] rfl ?_
 refine ac ?_
 refine ac ?_
 · exact ZB
 refine ac ?_
 refine Ch.cs 17 rfl ?_ ?_<;>intro h2 q2
 refine ac ?_
 refine wk [22,1] rfl ?_
 refine ac ?_
 refine ac ?_
 · exact ZB
 refine ac ?_
 refine wk [22,1] rfl ?_
 refine Tr.cn rfl ?_ ?_<;>intro h3 q3
 refine ac ?_
 refine ac ?_
 · exact ZB
 refine ac ?_
 refine ac ?_
 refine Tr.block (Tr.A0 _ (kk [1] rfl) (fun k:Nat=>[(3,int ((k:Nat):Int))]) (fun k:Nat=>k≤(e.Bw).length∧(∀j,j<k→Xe e.Bw j=true)) (fun k:Nat=>(e.Bw).length-k) 0 (⟨Nat.zero_le _,fun j hj=>absurd hj AA⟩) kz ?_)
 rintro k ⟨BN,AX⟩
 refine ac ?_
 refine Tr.cn rfl ?_ ?_<;>intro h4 q4
 have Ae:k<(e.Bw).length:=AJ h4
 obtain ⟨x,Af⟩:=at_ Ae
 have hg:=getD_at (d:=FE) Af
 have hxf:=hf.Bw x (List.mem_of_getElem? Af)
 refine ac ?_
 refine ac ?_
 refine co rfl (AB rfl underlying27 Bj (vl rfl) (vl rfl) AA (Ad Af)) (co rfl (Al rfl CK Bj (vl rfl) rfl rfl) (co rfl (CE (FR hxf.2) rfl rfl) ?_))
 refine ac ?_
 refine Ch.cs 37 rfl ?_ ?_<;>intro h5 q5
 refine ac ?_
 refine wk [56,3,1] rfl ?_
 refine ac ?_
 refine ac ?_
 · refine int_eq (if_neg (fun hv=> ?_)).symm;have ok:=FX.1 hv;(have h_:=ok.ep k AA;unfold Xe at h_;rw [hg] at h_;simp_all)
 refine ac ?_
 refine Ch.cs 40 rfl ?_ ?_<;>intro h6 q6
 have hk0:0<k:=by simpa using h6
 obtain ⟨y,hy⟩:=at_ (l:=e.Bw) (k:=k-1) AA
 have Wd:=getD_at (d:=FE) hy
 refine ac ?_
 refine cy h6 rfl (AB rfl underlying27 Bj (vl rfl) (vl rfl) AA Ly) ?_
 refine ac ?_
 refine cy h6 rfl (AB rfl underlying27 Bj (vl rfl) (vl rfl) AA (Ad Af)) ?_
 refine ac ?_
 refine cy h6 rfl (Rb rfl (vl rfl) (vl rfl)) ?_
 refine ac ?_
 refine wk [56,3,1] rfl ?_
 refine Tr.cn rfl ?_ ?_<;>intro h7 q7
 refine ac ?_
 refine ac ?_
 · refine int_eq (if_neg (fun hv=> ?_)).symm;have ok:=FX.1 hv;(have h_:=ok.ep k AA;unfold Xe at h_;rw [hg,Wd] at h_;simp_all)
 refine ac ?_
 refine ac ?_
 exact Fin.AL (k+1) ⟨⟨Ae,EA AX (by unfold Xe;rw [hg,Wd];simp_all)⟩,by omega⟩ ⟨⟨_,rfl,AG k⟩,kz⟩
 have ME:¬0<k:=by simpa using h6
 refine ac ?_
 refine wk [56,3,1] rfl ?_
 refine ac ?_
 refine ac ?_
 exact Fin.AL (k+1) ⟨⟨Ae,EA AX (by unfold Xe;rw [hg];simp_all)⟩,by omega⟩ ⟨⟨_,rfl,AG k⟩,kz⟩
 have BC:k=(e.Bw).length:=by have:=AK h4;omega
 subst BC
 have V3:=AX
 refine ac ?_
 refine ac ?_
 refine Tr.block (Tr.A0 _ (kk [1] rfl) (fun m:Nat=>[(4,int ((m:Nat):Int))]) (fun m:Nat=>m≤(e.BV).length∧(∀j,j<m→Ek e.Bw.length e.BV j=true)) (fun m:Nat=>(e.BV).length-m) 0 (⟨Nat.zero_le _,fun j hj=>absurd hj AA⟩) kz ?_)
 rintro m ⟨KM,IJ⟩
 refine ac ?_
 refine Tr.cn rfl ?_ ?_<;>intro h8 q8
 have Du:m<(e.BV).length:=AJ h8
 obtain ⟨c,Dn⟩:=at_ Du
 have hg:=getD_at (d:=HN) Dn
 refine ac ?_
 refine ao ?_
 refine tp rfl (AB rfl underlying28 FO (vl rfl) (vl rfl) AA (Ad Dn)) (tp rfl (Al rfl RS FO (vl rfl) rfl rfl) ?_)
 refine Tl rfl rfl rfl rfl z109 XB (fun b1=> ?_)
 refine sf 0 5 ⟨rfl,rfl,rfl⟩ rfl rfl rfl rfl ?_
 refine ao ?_
 refine wk [5,4,1] rfl ?_
 refine ac ?_
 refine Ch.cs 72 rfl ?_ ?_<;>intro h9 q9
 refine ac ?_
 refine wk [99,5,4,1] rfl ?_
 refine ac ?_
 refine ac ?_
 · exact Uo
 refine ac ?_
 refine Ch.cs 80 rfl ?_ ?_<;>intro h10 O2
 refine ac ?_
 refine wk [99,5,4,1] rfl ?_
 refine ac ?_
 refine ac ?_
 · exact Uo
 refine ac ?_
 refine Ch.cs 85 rfl ?_ ?_<;>intro h11 Rz
 refine ac ?_
 refine wk [99,5,4,1] rfl ?_
 refine ac ?_
 refine ac ?_
 · exact Uo
 refine ac ?_
 refine Ch.cs 93 rfl ?_ ?_<;>intro h12 TN
 refine ac ?_
 refine wk [99,5,4,1] rfl ?_
 refine ac ?_
 refine ac ?_
 · exact Uo
 refine ac ?_
 refine wk [99,5,4,1] rfl ?_
 refine Tr.cn rfl ?_ ?_<;>intro J8 Vs
 refine ac ?_
 refine ac ?_
 · refine int_eq (if_neg (fun hv=> ?_)).symm;have ok:=FX.1 hv;(have h_:=ok.ed m AA;unfold Ek at h_;rw [hg] at h_;simp_all)
 refine ac ?_
 refine ac ?_
 refine Ch.cs 102 rfl ?_ ?_<;>intro Mi nU
 have hk0:0<m:=by simpa using Mi
 obtain ⟨y,hy⟩:=at_ (l:=e.BV) (k:=m-1) AA
 have Wd:=getD_at (d:=HN) hy
 refine ac ?_
 refine cy Mi rfl (AB rfl underlying28 FO (vl rfl) (vl rfl) AA ZI) ?_
 refine ac ?_
 refine Ch.cs 113 rfl ?_ ?_<;>intro Wi q15
 refine ac ?_
 refine wk [137,4,1] rfl ?_
 refine ac ?_
 refine ac ?_
 · exact kr
 refine ac ?_
 refine cy Wi rfl (AB rfl underlying28 FO (vl rfl) (vl rfl) AA ZI) ?_
 refine ac ?_
 refine Ch.cs 124 rfl ?_ ?_<;>intro h16 q16
 refine ac ?_
 refine cy h16 rfl (AB rfl underlying28 FO (vl rfl) (vl rfl) AA ZI) ?_
 refine ac ?_
 refine wk [137,4,1] rfl ?_
 refine Tr.cn rfl ?_ ?_<;>intro OD q17
 refine ac ?_
 refine ac ?_
 · exact kr
 refine ac ?_
 refine ac ?_
 exact Fin.AL (m+1) ⟨⟨Du,EA IJ (by unfold Ek;rw [hg,Wd];simp_all)⟩,by omega⟩ ⟨⟨_,rfl,AG m⟩,kz⟩
 refine ac ?_
 refine wk [137,4,1] rfl ?_
 refine ac ?_
 refine ac ?_
 exact Fin.AL (m+1) ⟨⟨Du,EA IJ (by unfold Ek;rw [hg,Wd];simp_all;omega)⟩,by omega⟩ ⟨⟨_,rfl,AG m⟩,kz⟩
 have ME:¬0<m:=by simpa using Mi
 refine ac ?_
 refine wk [137,4,1] rfl ?_
 refine ac ?_
 refine ac ?_
 exact Fin.AL (m+1) ⟨⟨Du,EA IJ (by unfold Ek;rw [hg];simp_all)⟩,by omega⟩ ⟨⟨_,rfl,AG m⟩,kz⟩
 have Il:m=(e.BV).length:=by have:=AK h8;omega
 subst Il
 refine ac ?_
 refine ac ?_
 refine Tr.block (Tr.A0 _ (kk [1] rfl) (fun o:Nat=>[(6,int ((o:Nat):Int))]) (fun o:Nat=>o≤(e.items).length∧(∀j y,j<o→e.items[j]? =some y→(!O5 y)=false)) (fun o:Nat=>(e.items).length-o) 0 (⟨Nat.zero_le _,fun j y hj=>absurd hj AA⟩) kz ?_)
 rintro o ⟨AFt,MI⟩
 refine ac ?_
 refine Tr.cn rfl ?_ ?_<;>intro RO q18
 have iG:o<(e.items).length:=AJ RO
 obtain ⟨x,Ut⟩:=at_ iG
 refine ac ?_
 refine ac ?_
 refine co rfl (AB rfl underlying29 Hu (vl rfl) (vl rfl) AA (Ad Ut)) (co rfl (Al rfl VO Hu (vl rfl) rfl rfl) (co rfl (CE (Zv) rfl rfl) ?_))
 refine ac ?_
 refine wk [151,6,1] rfl ?_
 refine Tr.cn rfl ?_ ?_<;>intro nQ q19
 refine ac ?_
 refine ac ?_
 · refine int_eq (if_neg (fun hv=> ?_)).symm;have ok:=FX.1 hv;(have h_:=List.all_eq_true.1 ok.it x (List.mem_of_getElem? Ut);simp_all)
 refine ac ?_
 refine ac ?_
 exact Fin.AL (o+1) ⟨⟨iG,Dm (p:=fun c=> !O5 c) Ut B9 MI⟩,by omega⟩ ⟨⟨_,rfl,AG o⟩,kz⟩
 have AA6:o=(e.items).length:=by have:=AK RO;omega
 subst AA6
 have hall:=JH MI
 refine ac ?_
 refine ac ?_
 refine ac ?_
 · refine int_eq (if_pos (FX.2 ⟨V3,by omega,IJ,by omega,hall,by omega⟩)).symm
theorem AA8 {x0 y0:Int} {x1 y1:Int}:(Op.equalIn (d+2) 109 (.agg #[.int .i64 x0,.int .i64 x1]) (.agg #[.int .i64 y0,.int .i64 y1])).run Tryz.prog w= .ok (decide (x0=y0∧x1=y1)) w:=by
 have h:=eqS (w:=w) (d:=d+1) (xs:= #[.int .i64 x0,.int .i64 x1]) (ys:= #[.int .i64 y0,.int .i64 y1]) Tryz.underlying109 CS (CZ AD (BG BT rfl) (BG BT rfl) (Dl (d:=d+0) Tryz.underlying3) (CZ AD (BG BT rfl) (BG BT rfl) (Dl (d:=d+0) Tryz.underlying3) (K3)))
 refine h.trans (congrArg (fun b=>Result.ok b w) ?_)
 rw [Bool.eq_iff_iff];simp [and_assoc]
theorem n8 {u:TypeId} {y:Operand} {x0 y0:Int} {x1 y1:Int} (ho:o.op= .binOp .neq 109 x y u) (hx:VL E x (agg [is (.int .i64 x0),is (.int .i64 x1)])) (hy:VL E y (agg [is (.int .i64 y0),is (.int .i64 y1)])):Ab Tryz.prog I o E (bool (!decide (x0=y0∧x1=y1))):=
 NA [.int .i64 x0,.int .i64 x1] [.int .i64 y0,.int .i64 y1] ho hx hy CS (fun w=>by rw [show Op.equal 109 _ _=Op.equalIn (9998+2) 109 _ _ from rfl];exact AA8)
def setAt (n:Int) (l:List Int) (i:Nat):Bool:=decide (0≤l[i]?.getD 0)&&decide (l[i]?.getD 0<n)&&(decide (i=0)||decide (l[i-1]?.getD 0<l[i]?.getD 0))
def DO (n:Int) (l:List Int):Bool:=allI (setAt n l) l.length
theorem MJ {l:List Int} {n:Int}  :A_ prog 31 [ints l,int n] (bool (DO n l)):=by
 refine fo func31 rfl ⟨rfl,rfl⟩ fun M0 w0=>(Tr.CN 0 rfl fun C3=> ?_)
 refine a2 ?_
 refine Tr.block (Tr.A0 _ (kk [8,7,1,0] rfl) (fun k:Nat=>[(9,int ((k:Nat):Int))]) (fun k:Nat=>k≤(l).length∧(∀j,j<k→setAt n l j=true)) (fun k:Nat=>(l).length-k) 0 (⟨Nat.zero_le _,fun j hj=>absurd hj AA⟩) kz ?_)
 rintro k ⟨BN,AX⟩
 refine ac ?_
 refine Tr.seq ?_
 refine Tr.cn rfl ?_ ?_<;>intro h1 q1
 have Ae:k<(l).length:=AJ h1
 obtain ⟨x,Af⟩:=at_ Ae
 have hg:=getD_at (d:=(0:Int)) Af
 refine a2 ?_
 refine co rfl (AB rfl underlying38 BJ vq vq AA (Ad Af)) ?_
 refine ac ?_
 refine ag ?_ ?_<;>intro h2 q2
 refine ac ?_
 refine wk [33,9,8,7,1,0] rfl ?_
 refine a2 ?_
 · exact lA
 refine ag ?_ ?_<;>intro h3 q3
 refine ac ?_
 refine wk [33,9,8,7,1,0] rfl ?_
 refine a2 ?_
 · exact lA
 refine ag ?_ ?_<;>intro h4 q4
 have hk0:0<k:=by simpa using h4
 obtain ⟨y,hy⟩:=at_ (l:=l) (k:=k-1) AA
 have Wd:=getD_at (d:=(0:Int)) hy
 · repeat' first|(refine bool_eq ?_;unfold DO;rw [Q1 (p:=setAt n l) (k:=k) AA (by unfold setAt;rw [hg,Wd];simp_all;omega)])|(exact Fin.AL (k+1) ⟨⟨Ae,EA AX (by unfold setAt;rw [hg,Wd];simp_all)⟩,by omega⟩ ⟨⟨_,rfl,AG k⟩,kz⟩)|(refine cy h4 rfl (AB rfl underlying38 BJ vq vq AA Ly) ?_)|refine ac ?_|(refine Tr.cn rfl ?_ ?_<;>intro h q)
 have ME:¬0<k:=by simpa using h4
 refine ac ?_
 refine wk [33,9,8,7,1,0] rfl ?_
 refine a2 ?_
 exact Fin.AL (k+1) ⟨⟨Ae,EA AX (by unfold setAt;rw [hg];simp_all)⟩,by omega⟩ ⟨⟨_,rfl,AG k⟩,kz⟩
 have BC:k=(l).length:=by have:=AK h1;omega
 subst BC
 refine a3 ?_
 · refine bool_eq ?_;unfold DO;rw [mg AX]
theorem QV {l:List Int} {v:Int}  :A_ prog 11 [ints l,int v] (bool (l.any fun x=>v==x)):=by
 refine fo func11 rfl ⟨rfl,rfl⟩ fun M0 w0=>(Tr.CN 0 rfl fun C3=> ?_)
 refine a2 ?_
 refine Tr.block (Tr.A0 _ (kk [8,7,1] rfl) (fun k:Nat=>[(9,int ((k:Nat):Int))]) (fun k:Nat=>k≤(l).length∧((l.take k).any (fun x=>v==x)=false)) (fun k:Nat=>(l).length-k) 0 (⟨Nat.zero_le _,rfl⟩) kz ?_)
 rintro k ⟨BN,AX⟩
 refine ac ?_
 refine Tr.seq ?_
 refine Tr.cn rfl ?_ ?_<;>intro h1 q1
 have Ae:k<(l).length:=AJ h1
 obtain ⟨x,Af⟩:=at_ Ae
 refine ac ?_
 refine Tr.seq (Tr.block (Tr.seq (Tr.Bq (co rfl (AB rfl underlying22 BJ vq vq AA (Ad Af)) ?_))))
 · repeat' first|(refine bool_eq ?_;symm;rw [List.any_eq_true];exact ⟨_,List.mem_of_getElem? Af,by simp_all⟩)|(exact Fin.AL (k+1) ⟨⟨Ae,cW⟩,by omega⟩ ⟨⟨_,rfl,AG k⟩,kz⟩)|refine ac ?_|(refine Tr.cn rfl ?_ ?_<;>intro h q)
 have BC:k=(l).length:=by have:=AK h1;omega
 subst BC
 refine a3 ?_
 · exact Uu
def usL:List (Int×Int):=[(2,0),(1,0),(5,2048),(16,128),(3,0),(15,168)]
def eP (v:Int):Int×Int:=usL[v.toNat]?.getD (2,0)
theorem AFu {v:Int} (h:0≤v∧v<6):(usL.map fun u=>[int u.1,int u.2])[v.toNat]? =some [int (eP v).1,int (eP v).2]:=by
 have hl:v.toNat<usL.length:=by show v.toNat<6;omega
 unfold eP;rw [List.getElem?_map,List.getElem?_eq_getElem hl];rfl
theorem AA9:∀u∈usL,Bx u.1 u.2>0:=by decide+kernel
theorem y_ (v:Int):Bx (eP v).1 (eP v).2>0:=by
 unfold eP
 cases h:usL[v.toNat]? with
 |none=>decide+kernel
 |some u=>exact AA9 u (List.mem_of_getElem? h)
def MK:Nat→DS→Int→List Xb→List Xb×Int×DS
 |0,s,day,l=>(l,day,s)
 |k+1,s,day,l=>MK k s.Cd.Cd (day+1+s.Cd.of [5,30,0,100]) (l++[⟨(eP (s.val 6)).1,(eP (s.val 6)).2,day⟩])
abbrev Ed (s:DS):List Xb×Int×DS:=MK (1+s.Cd.Cd.Cd.val 3).toNat s.Cd.Cd.Cd.Cd (s.Cd.Cd.val 20) []
def UE (s:DS) (name:List UInt8):V0:=⟨name,1+s.val 2,1+s.Cd.val 4,(Ed s).1,((Ed s).1[0]?.getD FQ).day+(Ed s).2.2.of [50,300,0,3000]⟩
def AFv (s:DS):DS:=(Ed s).2.2.Cd
structure iH (l:List Xb) (day:Int):Prop where
 lo:0≤day
 hi:day≤20+101*(l.length:Nat)
 at_:∀j,j<l.length→HB l j=true
 lt:∀x∈l,x.day<day
theorem Xf {l:List Xb} {day d:Int} {u:Int×Int} (h:iH l day) (h3:l.length≤3) (hu:Bx u.1 u.2>0) (hd:0≤d∧d≤100):iH (l++[⟨u.1,u.2,day⟩]) (day+1+d):=by
 have h0:=h.lo;have h1:=h.hi
 refine ⟨by omega,by rw [List.length_append];simp;omega,fun j hj=> ?_,fun x hx=> ?_⟩
 ·
  rw [List.length_append] at hj;simp at hj
  rcases Nat.lt_or_ge j l.length with hl|hl
  ·
   have:=h.at_ j hl
   unfold HB at this ⊢
   rw [List.getElem?_append_left hl,List.getElem?_append_left (show j-1<l.length by omega)];exact this
  ·
   have:j=l.length:=by omega
   subst this
   unfold HB
   rw [List.getElem?_append_right (Nat.le_refl _),Nat.sub_self]
   rcases Nat.eq_zero_or_pos l.length with hz|hz
   ·
    obtain rfl:=List.eq_nil_of_length_eq_zero hz
    simp [hu];simp at h1;omega
   ·
    obtain ⟨y,hy⟩:=at_ (l:=l) (k:=l.length-1) AA
    rw [List.getElem?_append_left (show l.length-1<l.length by omega),hy]
    have:=h.lt y (List.mem_of_getElem? hy)
    simp [hu];omega
 ·
  rcases List.mem_append.1 hx with hx|hx
  · have:=h.lt x hx;omega
  · simp at hx;subst hx;show day<_;omega
theorem Z2 (s:DS):0≤s.of [5,30,0,100]∧s.of [5,30,0,100]≤100:=by have:=s.RL (l:=[5,30,0,100]) AR;simp at this;omega
theorem n9 (s:DS):0≤s.of [50,300,0,3000]∧s.of [50,300,0,3000]≤3000:=by have:=s.RL (l:=[50,300,0,3000]) AR;simp at this;omega
theorem UF:∀(k:Nat) (s:DS) (day:Int) (l:List Xb),iH l day→l.length+k≤3→iH (MK k s day l).1 (MK k s day l).2.1∧(MK k s day l).1.length=l.length+k
 |0,s,day,l,h,_=>⟨h,rfl⟩
 |k+1,s,day,l,h,hk=>by
  have:=UF k s.Cd.Cd (day+1+s.Cd.of [5,30,0,100]) (l++[⟨(eP (s.val 6)).1,(eP (s.val 6)).2,day⟩]) (Xf h AA (y_ _) (Z2 _)) Bz
  refine ⟨this.1,?_⟩
  show (MK k _ _ _).1.length=_
  rw [this.2];simp;omega
structure Z3 (x:V0):Prop where
 ok:O5 x=true
 name:x.name.length≤32
 links:x.links.length≤3
theorem eR {s:DS} {name:List UInt8} (hn:named name=true):Z3 (UE s name):=by
 have h2:=s.DF (n:=2) AA
 have h4:=s.Cd.DF (n:=4) AA
 have R3:=s.Cd.Cd.DF (n:=20) AA
 have h3:=s.Cd.Cd.Cd.DF (n:=3) AA
 have hI:iH [] (s.Cd.Cd.val 20):=⟨by omega,by simp;omega,fun j hj=>by simp at hj,fun x hx=>by simp at hx⟩
 obtain ⟨hL,hl⟩:=UF (1+s.Cd.Cd.Cd.val 3).toNat s.Cd.Cd.Cd.Cd (s.Cd.Cd.val 20) [] hI Bz
 simp only [List.length_nil,Nat.zero_add] at hl
 have hlen:(Ed s).1.length=(1+s.Cd.Cd.Cd.val 3).toNat:=hl
 have hu:=n9 (Ed s).2.2
 obtain ⟨c,hc⟩:=at_ (l:=(Ed s).1) (k:=0) AA
 have hg:=getD_at (d:=FQ) hc
 have hc1:=hL.lt c (List.mem_of_getElem? hc)
 have hc2:=hL.hi
 refine ⟨HA.2 ⟨hn,?_,?_,?_,?_,?_,hL.at_,?_,?_⟩,K9 hn,?_⟩
 · show 1+s.val 2=1∨1+s.val 2=2;omega
 · show 1≤1+s.Cd.val 4;omega
 · show 1+s.Cd.val 4≤4;omega
 · show 1≤(Ed s).1.length;omega
 · show (Ed s).1.length≤8;omega
 · show ((Ed s).1[0]?.getD FQ).day≤((Ed s).1[0]?.getD FQ).day+_;omega
 · show ((Ed s).1[0]?.getD FQ).day+_≤40000;rw [hg];omega
 · show (Ed s).1.length≤3;omega
theorem eS {s:DS} {name:List UInt8}:Ba prog 43 [ptr b 0,str name] (agg (eN (UE s name))) (DA b s) (fun _=>DA b (AFv s)):=by
 refine Ba.of func43 rfl rfl Am fun M0 w0 S rs M1 w1=> ?_
 have PO:=s.DF (n:=2) AA
 have hv4:=s.Cd.DF (n:=4) AA
 have ALc:=s.Cd.Cd.DF (n:=20) AA
 have hv3:=s.Cd.Cd.Cd.DF (n:=3) AA
 refine Tr.seq (Tr.BI ?_)
 refine Tl rfl rfl rfl rfl VP XC (fun b1=> ?_)
 refine ao ?_
 refine ao ?_
 refine TO.FL 1 rfl rfl AD (Ak rfl rfl AD rfl (CV AA AA) ⟨ke rfl,ke rfl,trivial⟩) ?_
 refine ao ?_
 refine TO.FL 1 rfl rfl AD (Ak rfl rfl AD rfl (CV AA AA) ⟨ke rfl,ke rfl,trivial⟩) ?_
 refine ao ?_
 refine Tl rfl rfl rfl rfl VP XC (fun b2=> ?_)
 refine TO.AV 0 rfl rfl rfl (vl rfl) (Va rfl) rfl Hu rfl rfl ?_
 refine ao ?_
 refine ao ?_
 refine TO.FL 2 rfl rfl AD (Ak rfl rfl AD rfl (CV AA AA) ⟨ke rfl,ke rfl,trivial⟩) ?_
 refine ao ?_
 refine wk [6,5,4,0] rfl ?_
 refine ao ?_
 refine TO.FL 2 rfl rfl AD (Ak rfl rfl AD rfl (CV AA AA) ⟨ke rfl,ke rfl,trivial⟩) ?_
 refine ao ?_
 refine Tr.block (Tr.Iw 0 [str name,int (1+s.val 2),int (1+s.Cd.val 4),Ag (.slice none 0 0) (nk []),is (.int .i64 0)] rfl ⟨Lr,Lr,Lr,Bf rfl,Lr,trivial⟩ (Tr.B5 176 3 ?_))
 refine Tr.lS _ (kk [5,4,0] rfl) (fun (k:Int) (day:Int) (l:List Xb) (s2:DS) v=>[(7,int k),(6,int day)]) (fun (k:Int) (day:Int) (l:List Xb) (s2:DS) v=>Hp M0 w0 S (Ax 176 3 v::AE true b2 112 [str name,int (1+s.val 2),int (1+s.Cd.val 4),Ag v (nk l),is (.int .i64 0)]::AE true b1 112 (([.string (ByteArray.mk #[]),.int .i64 0,.int .i64 0,.slice none 0 0,.int .i64 0]:List Value).map is)::DA b s2::Ac M1 w1::rs)) (fun (k:Int) (day:Int) (l:List Xb) (s2:DS)=>(0≤k∧k+l.length≤3∧1≤k+l.length∧iH l day)∧MK k.toNat s2 day l=Ed s) (fun (k:Int) (day:Int) (l:List Xb) (s2:DS)=>k.toNat) (_) (_) ([]) (_) (.slice none 0 0) (⟨⟨by omega,by simp;omega,by simp;omega,⟨by omega,by simp;omega,fun j hj=>by simp at hj,fun x hx=>by simp at hx⟩⟩,rfl⟩) ⟨ke rfl,kz⟩ (fun _ _ h=>h) ?_
 rintro k day l s2 v ⟨⟨hk0,hk1,hk2,hL⟩,hR⟩
 have hL0:=hL.lo
 have hL1:=hL.hi
 have hof:=Z2 s2.Cd
 refine an ?_ ?_<;>intro h1 q1
 have hk3:0<k:=of_decide_eq_true h1
 have hv6:=s2.DF (n:=6) AA
 refine ac ?_
 refine ao ?_
 refine TO.FL 3 rfl rfl AD (Ak rfl rfl AD rfl (CV AA AA) ⟨ke rfl,ke rfl,trivial⟩) ?_
 refine tp rfl (AB rfl underlying174 Jr (Kf rfl) (vl rfl) AA (show (usL.map fun u=>[int u.1,int u.2])[_]? =_ from AFu hv6)) ?_
 refine tp rfl (Al rfl Ht Jr (vl rfl) rfl rfl) ?_
 refine Tl rfl rfl rfl rfl K2 Ec (fun b3=> ?_)
 refine sf 0 8 ⟨rfl,rfl,rfl⟩ rfl rfl rfl rfl ?_
 refine ao ?_
 refine wk [8,7,6,5,4,0] rfl ?_
 refine ao ?_
 refine TO.C1 0 rfl rfl AD (B7 rfl rfl rfl rfl underlying110 J_ yX AAS (Kb rfl) (Kf rfl) (A7 BD (Ka rfl))) (fun v1=> ?_)
 refine tp rfl (BU rfl VQ (vl rfl)) (TO.C0 1 rfl rfl (Aq rfl rfl (vl rfl) (Vo rfl) yV rfl Am rfl) ?_)
 refine ao ?_
 refine wk [7,6,5,4,0] rfl ?_
 refine ao ?_
 refine TO.FL 3 rfl rfl AD (Ak rfl rfl AD rfl (XR (l:=[5,30,0,100]) AR AR) ⟨ke rfl,(Kf rfl),trivial⟩) ?_
 refine ao ?_
 refine ac ?_
 refine Fin.Iw 1 [str name,int (1+s.val 2),int (1+s.Cd.val 4),Ag v1 (nk (l++[(⟨(eP (s2.val 6)).1,(eP (s2.val 6)).2,day⟩:Xb)])),is (.int .i64 0)] rfl ⟨Lr,Lr,Lr,A9 DC,Lr,trivial⟩ ?_
 exact Fin.tR (k-1) (_) (l++[(⟨(eP (s2.val 6)).1,(eP (s2.val 6)).2,day⟩:Xb)]) (_) v1 (⟨⟨⟨by omega,by simp;omega,by simp;omega,Xf hL AA (y_ _) (Z2 _)⟩,by rw [←hR,show k.toNat=(k-1).toNat+1 by omega];rfl⟩,by omega⟩) ⟨⟨_,rfl,int_eq AA⟩,⟨_,rfl,int_eq AA⟩,kz⟩ (fun _ _ h=>h)
 have hk3:¬0<k:=of_decide_eq_false h1
 obtain rfl:k=0:=by omega
 obtain ⟨c0,hc0⟩:=at_ (l:=l) (k:=0) AA
 have hg0:=getD_at (d:=FQ) hc0
 have ALd:=hL.lt c0 (List.mem_of_getElem? hc0)
 have ALe:0≤c0.day:=by have h_:=hL.at_ 0 (BZ hc0);unfold HB at h_;rw [hg0] at h_;simp at h_;omega
 have ALf:=n9 s2
 have hR1:(Ed s).1=l:=by rw [←hR];rfl
 obtain rfl:s2=(Ed s).2.2:=by rw [←hR];rfl
 refine ac ?_
 refine Tr.seq (Tr.rx ?_)
 refine ay ?_
 refine xo rfl (fun _=>AB rfl underlying110 J_ (Kb rfl) (vl rfl) AA (Ad (k:=0) hc0)) ?_
 refine ay ?_
 refine xo rfl (fun _=>oI) ?_
 refine Cx.ef 3 rfl rfl AD (Ak rfl rfl AD rfl (XR (l:=[50,300,0,3000]) AR AR) ⟨ke rfl,(Kf rfl),trivial⟩) ?_
 refine ay ?_
 refine Cx.nil ⟨by kernel_rfl,?_⟩
 refine BE.done al5 (Fin.go (wk [5,4] rfl ?_))
 refine ao ?_
 refine TO.AV 2 rfl rfl rfl (vl rfl) (Va rfl) rfl Hu rfl rfl ?_
 refine ao ?_
 refine Tr.ret (Fin.Fh [_,_,_] rfl (AQ.cell 2 rfl rfl VO Hu rfl Lr) ?_ (fun _ _ _ _=>rfl))
 · exact BP ⟨Lr,Lr,Lr,Pr.le_trans (At _ _) (Pr.le_of_eq (by show _=nk (Ed s).1;rw [hR1])),int_eq (by show _=((Ed s).1[0]?.getD FQ).day+_;rw [hR1,hg0]),trivial⟩
structure Z4 (n:Nat) (i j:Int) (l:List Iz):Prop where
 at_:∀k,k<l.length→Ek n l k=true
 lt:∀g∈l,g.client<i∨(g.client=i∧g.server<j)
theorem Z4.nil (n:Nat) (i j:Int):Z4 n i j []:=⟨fun k hk=>by simp at hk,fun g hg=>by simp at hg⟩
theorem Z4.step {i j:Int} {l:List Iz} (h:Z4 n i j l):Z4 n i (j+1) l:=⟨h.at_,fun g hg=>by have:=h.lt g hg;omega⟩
theorem Z4.row {i j:Int} {l:List Iz} (h:Z4 n i j l):Z4 n (i+1) 0 l:=⟨h.at_,fun g hg=>by have:=h.lt g hg;omega⟩
theorem Z4.snoc {i j:Int} {l:List Iz} (h:Z4 n i j l) (hi:0≤i∧i<n) (hj:0≤j∧j<n) (hn:i≠j):Z4 n i (j+1) (l++[⟨i,j⟩]):=by
 refine ⟨fun k hk=> ?_,fun g hg=> ?_⟩
 ·
  rw [List.length_append] at hk;simp at hk
  rcases Nat.lt_or_ge k l.length with hl|hl
  ·
   have:=h.at_ k hl
   unfold Ek at this ⊢
   rw [List.getElem?_append_left hl,List.getElem?_append_left (show k-1<l.length by omega)];exact this
  ·
   have:k=l.length:=by omega
   subst this
   unfold Ek
   rw [List.getElem?_append_right (Nat.le_refl _),Nat.sub_self]
   rcases Nat.eq_zero_or_pos l.length with hz|hz
   ·
    obtain rfl:=List.eq_nil_of_length_eq_zero hz
    simp;omega
   ·
    obtain ⟨y,hy⟩:=Cp.at_ (l:=l) (k:=l.length-1) AA
    rw [List.getElem?_append_left (show l.length-1<l.length by omega),hy]
    have:=h.lt y (List.mem_of_getElem? hy)
    simp;omega
 ·
  rcases List.mem_append.1 hg with hg|hg
  · have:=h.lt g hg;omega
  · simp at hg;subst hg;right;exact ⟨rfl,by show j<j+1;omega⟩
theorem n_:∀i,i<2→Lib.compareBytes (Ft[i]?.getD []) (Ft[i+1]?.getD [])= -1:=by decide+kernel
structure O6 (e:Dg):Prop where
 n2:2≤e.Bw.length
 n3:e.Bw.length≤3
 snd:nY e.Bw
 ed:∀k,k<e.BV.length→Ek e.Bw.length e.BV k=true
 g1:1≤e.BV.length
 g3:e.BV.length≤3
 it:∀x∈e.items,Z3 x
 i2:e.items.length≤2
theorem O6.ok {e:Dg} (h:O6 e):FU e=true:=by
 have h3:=h.n3;have g3:=h.g3;have i2:=h.i2
 refine FX.2 ⟨fun j hj=> ?_,by omega,h.ed,by omega,List.all_eq_true.2 fun x hx=>(h.it x hx).ok,by omega⟩
 obtain ⟨x,hx⟩:=at_ hj
 have hs:=h.snd j x hx
 unfold Xe
 rw [hx,Option.getD_some,DN.2 (vm hs),Bool.true_and,Bool.or_eq_true,decide_eq_true_eq,decide_eq_true_eq]
 rcases Nat.eq_zero_or_pos j with hz|hz
 · exact .inl hz
 ·
  right
  obtain ⟨y,hy⟩:=at_ (l:=e.Bw) (k:=j-1) AA
  have Vh:=h.snd _ y hy
  rw [hy,Option.getD_some]
  have:=n_ (j-1) AA
  rw [Vh.name,show j-1+1=j by omega,hs.name] at this
  exact this
theorem O6.fits {e:Dg} (h:O6 e):e.fits:=by
 have h3:=h.n3;have g3:=h.g3;have i2:=h.i2
 refine ⟨fun x hx=> ?_,fun x hx=>by have:=(h.it x hx).name;unfold maxLen;omega,by omega,by omega,by omega⟩
 obtain ⟨i,hi⟩:=List.getElem?_of_mem hx
 exact ⟨UB (h.snd i x hi),R7 (h.snd i x hi)⟩
abbrev ML:List UInt8:=[98,97,99,107,117,112]
abbrev Z5:List UInt8:=[100,101,101,100]
theorem eT (s:DS):named (KJ s [ML,Z5])=true:=by
 have h:=s.DF (n:=2) AA
 unfold KJ
 have:s.val (([ML,Z5]:List (List UInt8)).length:Nat)=0∨s.val (([ML,Z5]:List (List UInt8)).length:Nat)=1:=by show s.val 2=0∨s.val 2=1;omega
 rcases this with h|h<;>rw [h]<;>decide
theorem Xg {l:List V0} {y:V0} (h:∀x∈l,Z3 x) (hy:Z3 y):∀x∈l++[y],Z3 x:=by grind
theorem oG {s:DS}:Ba prog 17 [ptr b 0] (Cp.ex fun e:Dg=>fact (O6 e) (agg (CJ e))) (DA b s) (fun _=>ID 60 b):=by
 refine Ba.of func17 rfl rfl Am fun M0 w0 S rs M1 w1=> ?_
 have PO:=s.DF (n:=2) AA
 have ZZ:(Ft.take (2+s.val 2).toNat).length=(2+s.val 2).toNat:=by rw [List.length_take];show min _ 3=_;omega
 refine Tr.seq (Tr.BI ?_)
 refine Tl rfl rfl rfl rfl z31 Ic (fun b1=> ?_)
 refine ap ?_
 refine Tr.seq (Tr.BI ?_)
 refine Tl rfl rfl rfl rfl z31 Ic (fun b2=> ?_)
 refine ap ?_
 refine ap ?_
 refine TO.FL 2 rfl rfl AD (Ak rfl rfl AD rfl (CV AA AA) ⟨ke rfl,ke rfl,trivial⟩) ?_
 refine tp rfl (I7 rfl (vl rfl) (vl rfl) ?hin) ?_;case hin=>unfold Oj;omega
 refine tp rfl (Dr rfl underlying51 Hs (Kf rfl) (vl rfl) AA Bz) ?_
 refine ap ?_
 refine ac ?_
 refine co rfl (CB rfl underlying51 (vl rfl)) ?_
 refine ac ?_
 refine Tr.block ?_
 refine Tr.re 16 rfl (Pr.le_of_eq (by show slice 1 (List.take _ (Ft.map fun t=>[str t]))=_;rw [←List.map_take]):Pr.le _ (vQ (Ft.take (2+s.val 2).toNat))) ?_
 refine Tr.re 17 rfl (int_eq (by simp;rfl):Pr.le _ (int (((Ft.take (2+s.val 2).toNat).length:Nat):Int))) ?_
 refine Tr.Iw 0 [Ag (.slice none 0 0) (slice 9 (([]:List CF).map Bp)),is (.slice none 0 0),is (.slice none 0 0)] rfl ⟨Bf rfl,Lr,Lr,trivial⟩ (Tr.B5 102 9 (Tr.E6 [(0,_),(2,_),(3,_),(4,_),(16,_),(17,_)] ⟨ke rfl,ke rfl,ke rfl,ke rfl,ke rfl,ke rfl,trivial⟩ (fun (k:Nat) (es:List CF) (s2:DS) v=>[(18,int ((k:Nat):Int))]) (fun (k:Nat) (es:List CF) (s2:DS) v=>Hp M0 w0 S (Ax 102 9 v::AE true b2 31 [Ag v (slice 9 (es.map Bp)),is (.slice none 0 0),is (.slice none 0 0)]::AE true b1 31 (([.slice none 0 0,.slice none 0 0,.slice none 0 0]:List Value).map is)::DA b s2::Ac M1 w1::rs)) (fun (k:Nat) (es:List CF) (s2:DS)=>k≤(2+s.val 2).toNat∧es.length=k∧nY es) (fun (k:Nat) (es:List CF) (s2:DS)=>(2+s.val 2).toNat-k) (0) ([]) (_) (.slice none 0 0) (⟨by omega,rfl,fun i e h=>by simp at h⟩) ⟨ke rfl,trivial⟩ (fun _ _ h=>h) ?_))
 rintro k es s2 v ⟨hk1,hk2,hk3⟩
 refine ac ?_
 refine Tr.seq ?_
 refine Tr.cn rfl ?_ ?_<;>intro h1 q1
 have hkn:k<(2+s.val 2).toNat:=by have:=FM.Gp h1;rw [ZZ] at this;omega
 obtain ⟨nm,hnm⟩:=at_ (l:=Ft.take (2+s.val 2).toNat) (k:=k) AA
 have OO:Ft[k]? =some nm:=nZ hnm
 have Jg:=ng (s2.Cd.val 3)
 have ALg:k<3:=BZ OO
 have hvs:=s2.Cd.DF (n:=3) AA
 have hof:=AA1 s2
 refine ac ?_
 refine ac ?_
 refine co rfl (AB rfl underlying51 Hs (vl rfl) (vl rfl) AA (Ad hnm)) ?_
 refine ac ?_
 refine Tr.seq (Tr.pad (Tr.rx ?_))
 refine ax ?_
 refine xo rfl (fun _=>oI) ?_
 refine Cx.ef 4 rfl rfl AD (Ak rfl rfl AD rfl (XR (l:=[3,3,4]) AR AR) ⟨ke rfl,(Kf rfl),trivial⟩) ?_
 refine xo rfl (fun _=>oI) ?_
 refine xo rfl (fun _=>oI) ?_
 refine xo rfl (fun _=>oI) ?_
 refine xo rfl (fun _=>Aa (xs:=[.tmp 27,.tmp 28,.tmp 29]) (rows:=[[_],[_],[_]]) rfl rfl underlying98 G0 z22 rfl AD ⟨⟨Ao,⟨_,rfl,Pr.le_trans (BF _ _) (AO _)⟩⟩,⟨⟨Ao,⟨_,rfl,Pr.le_trans (BF _ _) (AO _)⟩⟩,⟨⟨Ao,⟨_,rfl,Pr.le_trans (BF _ _) (AO _)⟩⟩,trivial⟩⟩⟩ AD) ?_
 refine xm rfl (Cx.ef 4 rfl rfl AD (Ak rfl rfl AD rfl (CV AA AA) ⟨ke rfl,ke rfl,trivial⟩) ?_)
 refine xo rfl (fun _=>AB rfl underlying98 G0 (Kf rfl) (vl rfl) AA (show (PW.map fun l=>[ints l])[_]? =_ from vh hvs)) ?_
 refine ax ?_
 refine Cx.ef 4 rfl rfl AD (Ak rfl rfl AD rfl (nH AA AA) ⟨ke rfl,ke rfl,trivial⟩) (xo rfl (fun _=>oI) ?_)
 refine xo rfl (fun _=>oI) ?_
 refine xm rfl (Cx.ef 4 rfl rfl AD (Ak rfl rfl AD rfl (nH AA AA) ⟨ke rfl,ke rfl,trivial⟩) (xo rfl (fun _=>Au (rows:=[(0,[_]),(1,[_]),(2,[_]),(3,[_]),(4,[_]),(6,[_]),(7,[_]),(8,[_])]) rfl dN Fj ⟨⟨rfl,(Vo rfl)⟩,⟨⟨rfl,(Vo rfl)⟩,⟨⟨rfl,(Vo rfl)⟩,⟨⟨rfl,(Vo rfl)⟩,⟨⟨rfl,(Vo rfl)⟩,⟨⟨rfl,⟨_,rfl,Pr.le_trans (BF _ _) (AO _)⟩⟩,⟨⟨rfl,⟨_,rfl,Pr.le_trans (BF _ _) (AO _)⟩⟩,⟨⟨rfl,(Vo rfl)⟩,trivial⟩⟩⟩⟩⟩⟩⟩⟩ rfl) (Cx.ef 0 rfl rfl AD (Ca rfl rfl AD rfl IF Fj) (Cx.C0 0 rfl rfl (C2 rfl rfl rfl rfl (Va rfl) Bj rfl rfl) ?_))))
 refine Cx.nil ⟨by kernel_rfl,?_⟩
 refine BE.open_ 0 7 rfl rfl (fun v1=> ?_)
 refine BE.done mo (Fin.Mh 7 0 _ rfl rfl (fun _=>rfl) (fun b3=> ?_))
 refine Fin.go (ZW 0 2 3 4 5 6 7 16 17 18 rfl (Tr.seq (Tr.seq (Tr.Iw 0 [str nm,int 1,int (s2.of [3,3,4]),ints (MF (s2.Cd.val 3)),bool (s2.Cd.Cd.val 2==2-1),is (.slice none 0 0),ints [1],ints [2,3],bool (s2.Cd.Cd.Cd.val 3==3-1)] rfl ⟨Lr,Lr,Lr,Lr,Lr,Lr,Lr,Lr,Lr,trivial⟩ ?_))))
 refine ac ?_
 refine Tr.cn rfl ?_ ?_<;>intro h2 q2
 refine ap ?_
 refine TO.pad ?_
 refine TO.C1 0 rfl rfl AD (B7 rfl rfl rfl rfl underlying22 BJ IE z3 (Kf rfl) (vl rfl) (Bc BD (vl rfl))) (fun v2=> ?_)
 refine ap ?_
 refine ZW 0 2 3 4 5 6 7 16 17 18 rfl ?_
 refine ap ?_
 refine tp rfl (kc0 (yy) rfl) ?_
 refine ap ?_
 refine tp rfl (kc5 (Zt (name:=nm) (a:=5) (b:=2048) (id:=100+(k:Nat)) (to:=901) (key:=1) (Vx OO AA AA) (UA AA) AA) rfl rfl rfl rfl rfl rfl) ?_
 refine TO.ex 54 rfl (fun j0=>TO.fact 54 rfl fun AA_=> ?_)
 refine ap ?_
 refine wk8 0 2 3 4 7 16 17 18 rfl (Tr.BI (tp rfl (BU rfl RP (vl rfl)) (TO.rd 3 rfl rfl rfl AD (AW rfl dM (vl rfl) rfl) (TO.rd 1 rfl rfl rfl AD (Fg rfl CK Bj (vl rfl) rfl rfl) (tp rfl (Aa (xs:=[.tmp 59]) (rows:=[Bp (⟨nm,1,s2.of [3,3,4],14::MF (s2.Cd.val 3),(s2.Cd.Cd.val 2==2-1),[Hz nm 5 2048 (100+(k:Nat)) 901 1 j0],[1],[2,3],(s2.Cd.Cd.Cd.val 3==3-1)⟩:CF)]) rfl rfl underlying27 Bj IF rfl AD ⟨⟨Ao,VL.le (vl rfl) (Pr.le_trans (BP (qs:=Bp (⟨nm,1,s2.of [3,3,4],14::MF (s2.Cd.val 3),(s2.Cd.Cd.val 2==2-1),[Hz nm 5 2048 (100+(k:Nat)) 901 1 j0],[1],[2,3],(s2.Cd.Cd.Cd.val 3==3-1)⟩:CF)) ⟨Lr,Lr,Lr,Pr.le_trans (At _ _) (Pr.le_of_eq rfl),Lr,BF _ _,Lr,Lr,Lr,trivial⟩) (Ah _))⟩,trivial⟩ AD) ?_)))))
 refine TO.C1 2 rfl rfl AD (B7 rfl rfl rfl rfl underlying27 Bj mA IF (Kb rfl) (Kf rfl) (A7 BD (Ka rfl))) (fun v3=> ?_)
 refine ap ?_
 refine Tr.drop 1 (wk7 0 2 3 4 16 17 18 rfl ?_)
 refine ac ?_
 refine Fin.Iw 2 [Ag v3 (slice 9 ((es++[(⟨nm,1,s2.of [3,3,4],14::MF (s2.Cd.val 3),(s2.Cd.Cd.val 2==2-1),[Hz nm 5 2048 (100+(k:Nat)) 901 1 j0],[1],[2,3],(s2.Cd.Cd.Cd.val 3==3-1)⟩:CF)]).map Bp)),is (.slice none 0 0),is (.slice none 0 0)] rfl ⟨A9 DC,Lr,Lr,trivial⟩ ?_
 refine Fin.drop 0 ?_
 exact Fin.Di (k+1) (es++[(⟨nm,1,s2.of [3,3,4],14::MF (s2.Cd.val 3),(s2.Cd.Cd.val 2==2-1),[Hz nm 5 2048 (100+(k:Nat)) 901 1 j0],[1],[2,3],(s2.Cd.Cd.Cd.val 3==3-1)⟩:CF)]) (_) v3 (⟨⟨by omega,by rw [List.length_append,hk2];rfl,Xa hk3 ⟨by rw [hk2];exact OO,rfl,hof,.inr ⟨_,XZ hvs,rfl⟩,⟨j0,AA_,by rw [hk2]⟩,rfl,rfl⟩⟩,by omega⟩) ⟨⟨_,rfl,AG k⟩,ke rfl,ke rfl,ke rfl,ke rfl,ke rfl,ke rfl,trivial⟩ (fun _ _ h=>h)
 refine ac ?_
 refine ap ?_
 refine tp rfl (kc0 (yy) rfl) ?_
 refine ap ?_
 refine tp rfl (kc5 (Zt (name:=nm) (a:=5) (b:=2048) (id:=100+(k:Nat)) (to:=901) (key:=1) (Vx OO AA AA) (UA AA) AA) rfl rfl rfl rfl rfl rfl) ?_
 refine TO.ex 54 rfl (fun j0=>TO.fact 54 rfl fun AA_=> ?_)
 refine ap ?_
 refine wk8 0 2 3 4 7 16 17 18 rfl (Tr.BI (tp rfl (BU rfl RP (vl rfl)) (TO.rd 2 rfl rfl rfl AD (AW rfl dM (vl rfl) rfl) (TO.rd 0 rfl rfl rfl AD (Fg rfl CK Bj (vl rfl) rfl rfl) (tp rfl (Aa (xs:=[.tmp 59]) (rows:=[Bp (⟨nm,1,s2.of [3,3,4],MF (s2.Cd.val 3),(s2.Cd.Cd.val 2==2-1),[Hz nm 5 2048 (100+(k:Nat)) 901 1 j0],[1],[2,3],(s2.Cd.Cd.Cd.val 3==3-1)⟩:CF)]) rfl rfl underlying27 Bj IF rfl AD ⟨⟨Ao,VL.le (vl rfl) (Pr.le_trans (BP (qs:=Bp (⟨nm,1,s2.of [3,3,4],MF (s2.Cd.val 3),(s2.Cd.Cd.val 2==2-1),[Hz nm 5 2048 (100+(k:Nat)) 901 1 j0],[1],[2,3],(s2.Cd.Cd.Cd.val 3==3-1)⟩:CF)) ⟨Lr,Lr,Lr,Lr,Lr,BF _ _,Lr,Lr,Lr,trivial⟩) (Ah _))⟩,trivial⟩ AD) ?_)))))
 refine TO.C1 1 rfl rfl AD (B7 rfl rfl rfl rfl underlying27 Bj mA IF (Kb rfl) (Kf rfl) (A7 BD (Ka rfl))) (fun v4=> ?_)
 refine ap ?_
 refine Tr.drop 0 (wk7 0 2 3 4 16 17 18 rfl ?_)
 refine ac ?_
 refine Fin.Iw 1 [Ag v4 (slice 9 ((es++[(⟨nm,1,s2.of [3,3,4],MF (s2.Cd.val 3),(s2.Cd.Cd.val 2==2-1),[Hz nm 5 2048 (100+(k:Nat)) 901 1 j0],[1],[2,3],(s2.Cd.Cd.Cd.val 3==3-1)⟩:CF)]).map Bp)),is (.slice none 0 0),is (.slice none 0 0)] rfl ⟨A9 DC,Lr,Lr,trivial⟩ ?_
 exact Fin.Di (k+1) (es++[(⟨nm,1,s2.of [3,3,4],MF (s2.Cd.val 3),(s2.Cd.Cd.val 2==2-1),[Hz nm 5 2048 (100+(k:Nat)) 901 1 j0],[1],[2,3],(s2.Cd.Cd.Cd.val 3==3-1)⟩:CF)]) (_) v4 (⟨⟨by omega,by rw [List.length_append,hk2];rfl,Xa hk3 ⟨by rw [hk2];exact OO,rfl,hof,.inl (XZ hvs),⟨j0,AA_,by rw [hk2]⟩,rfl,rfl⟩⟩,by omega⟩) ⟨⟨_,rfl,AG k⟩,ke rfl,ke rfl,ke rfl,ke rfl,ke rfl,ke rfl,trivial⟩ (fun _ _ h=>h)
 have Te:k=(2+s.val 2).toNat:=by have:=FM.Gp h1;rw [ZZ] at this;omega
 refine ac ?_
 refine Tr.seq (Tr.seq (Tr.Iw 1 [slice 9 (es.map Bp),is (.slice none 0 0),is (.slice none 0 0)] rfl ⟨At _ _,Lr,Lr,trivial⟩ (Tr.drop 0 ?_)))
 refine ac ?_
 refine co rfl (CB rfl underlying51 (vl rfl)) ?_
 refine ac ?_
 refine Tr.block ?_
 refine Tr.re 65 rfl (int_eq (by simp;rfl):Pr.le _ (int (((Ft.take (2+s.val 2).toNat).length:Nat):Int))) ?_
 refine Tr.Iw 0 [slice 9 (es.map Bp),Ag (.slice none 0 0) (Ij []),is (.slice none 0 0)] rfl ⟨Lr,Bf rfl,Lr,trivial⟩ (Tr.B5 109 2 (Tr.E6 [(0,_),(2,_),(3,_),(4,_),(65,_)] ⟨ke rfl,ke rfl,ke rfl,ke rfl,ke rfl,trivial⟩ (fun (i:Nat) (gs:List Iz) (s3:DS) w=>[(66,int ((i:Nat):Int))]) (fun (i:Nat) (gs:List Iz) (s3:DS) w=>Hp M0 w0 S (Ax 109 2 w::AE true b2 31 [slice 9 (es.map Bp),Ag w (Ij gs),is (.slice none 0 0)]::AE true b1 31 (([.slice none 0 0,.slice none 0 0,.slice none 0 0]:List Value).map is)::DA b s3::Ac M1 w1::rs)) (fun (i:Nat) (gs:List Iz) (s3:DS)=>i≤(2+s.val 2).toNat∧gs.length≤3∧Z4 (2+s.val 2).toNat i 0 gs) (fun (i:Nat) (gs:List Iz) (s3:DS)=>(2+s.val 2).toNat-i) (0) ([]) (_) (.slice none 0 0) (⟨by omega,by simp,Z4.nil _ _ _⟩) ⟨ke rfl,trivial⟩ (fun _ _ h=>h) ?_))
 rintro i gs s3 w ⟨hi1,hi2,hi3⟩
 refine ac ?_
 refine Tr.seq ?_
 refine Tr.cn rfl ?_ ?_<;>intro h3 q3
 have hin:i<(2+s.val 2).toNat:=by have:=FM.Gp h3;rw [ZZ] at this;omega
 refine ac ?_
 refine ac ?_
 refine ac ?_
 refine co rfl (CB rfl underlying51 (vl rfl)) ?_
 refine ac ?_
 refine Tr.block ?_
 refine Tr.re 70 rfl (int_eq (by simp;rfl):Pr.le _ (int (((Ft.take (2+s.val 2).toNat).length:Nat):Int))) ?_
 refine Tr.E6 [(0,_),(2,_),(3,_),(4,_),(8,_),(65,_),(66,_),(70,_)] ⟨ke rfl,ke rfl,ke rfl,ke rfl,ke rfl,ke rfl,ke rfl,ke rfl,trivial⟩ (fun (j:Nat) (iI:List Iz) (s4:DS) u=>[(71,int ((j:Nat):Int))]) (fun (j:Nat) (iI:List Iz) (s4:DS) u=>Hp M0 w0 S (Ax 109 2 u::AE true b2 31 [slice 9 (es.map Bp),Ag u (Ij iI),is (.slice none 0 0)]::AE true b1 31 (([.slice none 0 0,.slice none 0 0,.slice none 0 0]:List Value).map is)::DA b s4::Ac M1 w1::rs)) (fun (j:Nat) (iI:List Iz) (s4:DS)=>j≤(2+s.val 2).toNat∧iI.length≤3∧Z4 (2+s.val 2).toNat i j iI) (fun (j:Nat) (iI:List Iz) (s4:DS)=>(2+s.val 2).toNat-j) (0) (gs) (_) w (⟨by omega,hi2,hi3⟩) ⟨ke rfl,trivial⟩ (fun _ _ h=>h) ?_
 rintro j iI s4 u ⟨j5,hj2,hj3⟩
 refine ac ?_
 refine Tr.seq ?_
 refine Tr.cn rfl ?_ ?_<;>intro h4 q4
 have hjn:j<(2+s.val 2).toNat:=by have:=FM.Gp h4;rw [ZZ] at this;omega
 refine ac ?_
 refine ac ?_
 refine ap ?_
 refine TO.cases 77 rfl (fun h5=> ?_) (fun h5=> ?_)
 have q5:=FM.Gp h5
 refine TO.PV rfl rfl rfl h5 rfl AD (DD rfl (vl rfl)) (TO.AEl 3 rfl rfl rfl h5 rfl rfl AD (Ak rfl rfl AD rfl (CV AA AA) ⟨ke rfl,ke rfl,trivial⟩) (TO.PV rfl rfl rfl h5 rfl AD (ki rfl rfl rfl rfl) ?_))
 refine ap ?_
 refine TO.cases 82 rfl (fun h6=> ?_) (fun h6=> ?_)
 have q6:=FM.Gp h6
 refine TO.PV rfl rfl rfl h6 rfl AD (BU rfl lZ (vl rfl)) (TO.PV rfl rfl rfl h6 rfl AD (Bi 1 rfl (AW rfl yP (vl rfl) rfl)) (TO.PV rfl rfl rfl h6 rfl AD (E_ rfl underlying28 (Kb rfl)) (TO.PV rfl rfl rfl h6 rfl AD (ki rfl rfl rfl rfl) ?_)))
 refine ap ?_
 refine PT 0 2 3 4 8 9 65 66 70 71 87 rfl ?_
 refine Tr.cn rfl ?_ ?_<;>intro h7 q7
 refine ap ?_
 refine TO.C1 0 rfl rfl AD (B7 rfl rfl rfl rfl underlying28 FO yU z109 (Kb rfl) (Kf rfl) (A7 BD (Ka rfl))) (fun v5=> ?_)
 refine ap ?_
 refine wk9 0 2 3 4 8 65 66 70 71 rfl ?_
 refine ac ?_
 refine Fin.Iw 1 [slice 9 (es.map Bp),Ag v5 (Ij (iI++[(⟨((i:Nat):Int),((j:Nat):Int)⟩:Iz)])),is (.slice none 0 0)] rfl ⟨Lr,A9 DC,Lr,trivial⟩ ?_
 exact Fin.Di (j+1) (iI++[(⟨((i:Nat):Int),((j:Nat):Int)⟩:Iz)]) (_) v5 (⟨⟨by omega,by simp;omega,hj3.snoc ⟨by omega,by omega⟩ ⟨by omega,by omega⟩ AA⟩,by omega⟩) ⟨⟨_,rfl,AG j⟩,ke rfl,ke rfl,ke rfl,ke rfl,ke rfl,ke rfl,ke rfl,ke rfl,trivial⟩ (fun _ _ h=>h)
 refine ac ?_
 refine ac ?_
 exact Fin.Di (j+1) (iI) (_) u (⟨⟨by omega,hj2,hj3.step⟩,by omega⟩) ⟨⟨_,rfl,AG j⟩,ke rfl,ke rfl,ke rfl,ke rfl,ke rfl,ke rfl,ke rfl,ke rfl,trivial⟩ (fun _ _ h=>h)
 have q6:=FM.Gp h6
 iterate 4 refine TO.Wk rfl rfl rfl (Bb h6) rfl AD ?_
 refine ap ?_
 refine PT 0 2 3 4 8 9 65 66 70 71 87 rfl ?_
 refine ac ?_
 refine ac ?_
 exact Fin.Di (j+1) (iI) (_) u (⟨⟨by omega,hj2,hj3.step⟩,by omega⟩) ⟨⟨_,rfl,AG j⟩,ke rfl,ke rfl,ke rfl,ke rfl,ke rfl,ke rfl,ke rfl,ke rfl,trivial⟩ (fun _ _ h=>h)
 have q5:=FM.Gp h5
 refine TO.Wk rfl rfl rfl (Bb h5) rfl AD (TO.Wk rfl rfl rfl (Bb h5) rfl AD (TO.Wk rfl rfl rfl (Bb h5) rfl AD ?_))
 refine ap ?_
 iterate 4 refine TO.Wk rfl rfl rfl (Bb rfl) rfl AD ?_
 refine ap ?_
 refine PT 0 2 3 4 8 9 65 66 70 71 87 rfl ?_
 refine ac ?_
 refine ac ?_
 exact Fin.Di (j+1) (iI) (_) u (⟨⟨by omega,hj2,hj3.step⟩,by omega⟩) ⟨⟨_,rfl,AG j⟩,ke rfl,ke rfl,ke rfl,ke rfl,ke rfl,ke rfl,ke rfl,ke rfl,trivial⟩ (fun _ _ h=>h)
 have hje:j=(2+s.val 2).toNat:=by have:=FM.Gp h4;rw [ZZ] at this;omega
 refine ac ?_
 refine ac ?_
 exact Fin.Di (i+1) (iI) (_) u (⟨⟨by omega,hj2,hj3.row⟩,by omega⟩) ⟨⟨_,rfl,AG i⟩,ke rfl,ke rfl,ke rfl,ke rfl,ke rfl,trivial⟩ (fun _ _ h=>h)
 have hie:i=(2+s.val 2).toNat:=by have:=FM.Gp h3;rw [ZZ] at this;omega
 refine ac ?_
 refine ac ?_
 refine co rfl (E_ rfl underlying28 (Kb rfl)) ?_
 refine ac ?_
 refine Tr.cn rfl ?_ ?_<;>intro h8 q8
 refine ap ?_
 refine wk3 0 2 3 rfl (Tr.seq (Tr.seq ?_))
 have hv9:=s3.DF (n:=3) AA
 obtain ⟨jx,hge,ADP,ADQ,ADR⟩:∃l:List Iz,l=[⟨0,1⟩]∧(∀k,k<l.length→Ek (2+s.val 2).toNat l k=true)∧1≤l.length∧l.length≤3:=⟨_,rfl,((Z4.nil (2+s.val 2).toNat 0 1).snoc ⟨by omega,by omega⟩ ⟨by omega,by omega⟩ AA).at_,by simp,by simp⟩
 refine Tr.Iw 1 [slice 9 (es.map Bp),Ij jx,is (.slice none 0 0)] rfl ⟨Lr,Pr.le_trans (BF _ _) (Pr.le_of_eq (by rw [hge];rfl)),Lr,trivial⟩ ?_
 refine Tr.drop 0 ?_
 refine ap ?_
 refine TO.FL 2 rfl rfl AD (Ak rfl rfl AD rfl (CV AA AA) ⟨ke rfl,ke rfl,trivial⟩) ?_
 refine ap ?_
 refine Tr.block (Tr.Iw 0 [slice 9 (es.map Bp),Ij jx,Ag (.slice none 0 0) (R8 [])] rfl ⟨Lr,Lr,Bf rfl,trivial⟩ (Tr.B5 112 5 ?_))
 refine Tr.E6 [(0,_),(2,_),(3,_)] ⟨ke rfl,ke rfl,ke rfl,trivial⟩ (fun (q:Int) (its:List V0) (s5:DS) x=>[(10,int q)]) (fun (q:Int) (its:List V0) (s5:DS) x=>Hp M0 w0 S (Ax 112 5 x::AE true b2 31 [slice 9 (es.map Bp),Ij jx,Ag x (R8 its)]::AE true b1 31 (([.slice none 0 0,.slice none 0 0,.slice none 0 0]:List Value).map is)::DA b s5::Ac M1 w1::rs)) (fun (q:Int) (its:List V0) (s5:DS)=>0≤q∧q+its.length≤2∧∀x∈its,Z3 x) (fun (q:Int) (its:List V0) (s5:DS)=>q.toNat) (_) ([]) (_) (.slice none 0 0) (⟨by omega,by simp;omega,fun x h=>by simp at h⟩) ⟨ke rfl,trivial⟩ (fun _ _ h=>h) ?_
 rintro q its s5 x ⟨hq1,ZJ,hqi⟩
 refine ac ?_
 refine Tr.cn rfl ?_ ?_<;>intro h9 q9
 have hq3:0<q:=of_decide_eq_true h9
 refine ac ?_
 refine Tr.seq (Tr.block (Tr.pad (Tr.rx ?_)))
 refine ax ?_
 refine xo rfl (fun _=>oI) ?_
 refine Cx.ef 4 rfl rfl AD (Ak rfl rfl AD rfl (XY (l:=[[98,97,99,107,117,112],[100,101,101,100]]) AR AR) ⟨ke rfl,(Kf rfl),trivial⟩) ?_
 refine Cx.ef 4 rfl rfl AD (Ak rfl rfl AD rfl (eS) ⟨ke rfl,ke rfl,trivial⟩) (xo rfl (fun _=>Aa (xs:=[.tmp 117]) (rows:=[_]) rfl rfl underlying29 Hu VP rfl AD ⟨⟨Ao,(Va rfl)⟩,trivial⟩ AD) ?_)
 refine Cx.ef 1 rfl rfl AD (B7 rfl rfl rfl rfl underlying29 Hu mB VP (Kb rfl) (Kf rfl) (A7 BD (Ka rfl))) ?_
 refine xo rfl (fun _=>BU rfl VM (vl rfl)) (Cx.C0 2 rfl rfl (GD rfl rfl rfl (vl rfl) rfl zj Am) ?_)
 refine Cx.nil ⟨by kernel_rfl,?_⟩
 refine BE.RN 1 2 119 rfl rfl AD rfl (fun v6=> ?_)
 refine BE.done mo ?_
 refine ac ?_
 refine Tr.drop 0 (wk4 0 2 3 10 rfl ?_)
 refine ac ?_
 refine Fin.Iw 1 [slice 9 (es.map Bp),Ij jx,Ag v6 (R8 (its++[(UE s5.Cd (KJ s5 [ML,Z5]))]))] rfl ⟨Lr,Lr,A9 DC,trivial⟩ ?_
 exact Fin.Di (q-1) (its++[(UE s5.Cd (KJ s5 [ML,Z5]))]) (_) v6 (⟨⟨by omega,by simp;omega,Xg hqi (eR (eT s5))⟩,by omega⟩) ⟨⟨_,rfl,int_eq AA⟩,ke rfl,ke rfl,ke rfl,trivial⟩ (fun _ _ h=>h)
 have hq3:¬0<q:=of_decide_eq_false h9
 refine ac ?_
 refine ap ?_
 refine Tr.ret (Fin.Gq 3 _ rfl rfl (Fin.Fh [_,_,_] rfl (AQ.cell 2 rfl rfl Gf Fi rfl (Lr)) ?_ (fun _ _ _ _=>rfl)))
 · exact kR
 refine ac ?_
 refine Tr.seq (Tr.seq ?_)
 have hv9:=s3.DF (n:=3) AA
 obtain ⟨jx,hge,ADP,ADQ,ADR⟩:∃l:List Iz,l=gs∧(∀k,k<l.length→Ek (2+s.val 2).toNat l k=true)∧1≤l.length∧l.length≤3:=⟨_,rfl,hi3.at_,by have h_:=h8;simp at h_;exact List.length_pos_iff.2 h_,hi2⟩
 refine Tr.Iw 1 [slice 9 (es.map Bp),Ij jx,is (.slice none 0 0)] rfl ⟨Lr,Pr.le_trans (At _ _) (Pr.le_of_eq (by rw [hge])),Lr,trivial⟩ (Tr.drop 0 ?_)
 refine ap ?_
 refine TO.FL 2 rfl rfl AD (Ak rfl rfl AD rfl (CV AA AA) ⟨ke rfl,ke rfl,trivial⟩) ?_
 refine ap ?_
 refine wk4 0 2 3 10 rfl (Tr.block (Tr.Iw 0 [slice 9 (es.map Bp),Ij jx,Ag (.slice none 0 0) (R8 [])] rfl ⟨Lr,Lr,Bf rfl,trivial⟩ (Tr.B5 112 5 ?_)))
 refine Tr.E6 [(0,_),(2,_),(3,_)] ⟨ke rfl,ke rfl,ke rfl,trivial⟩ (fun (q:Int) (its:List V0) (s5:DS) x=>[(10,int q)]) (fun (q:Int) (its:List V0) (s5:DS) x=>Hp M0 w0 S (Ax 112 5 x::AE true b2 31 [slice 9 (es.map Bp),Ij jx,Ag x (R8 its)]::AE true b1 31 (([.slice none 0 0,.slice none 0 0,.slice none 0 0]:List Value).map is)::DA b s5::Ac M1 w1::rs)) (fun (q:Int) (its:List V0) (s5:DS)=>0≤q∧q+its.length≤2∧∀x∈its,Z3 x) (fun (q:Int) (its:List V0) (s5:DS)=>q.toNat) (_) ([]) (_) (.slice none 0 0) (⟨by omega,by simp;omega,fun x h=>by simp at h⟩) ⟨ke rfl,trivial⟩ (fun _ _ h=>h) ?_
 rintro q its s5 x ⟨hq1,ZJ,hqi⟩
 refine ac ?_
 refine Tr.cn rfl ?_ ?_<;>intro h10 O2
 have hq3:0<q:=of_decide_eq_true h10
 refine ac ?_
 refine Tr.seq (Tr.block (Tr.pad (Tr.rx ?_)))
 refine ax ?_
 refine xo rfl (fun _=>oI) ?_
 refine Cx.ef 4 rfl rfl AD (Ak rfl rfl AD rfl (XY (l:=[[98,97,99,107,117,112],[100,101,101,100]]) AR AR) ⟨ke rfl,(Kf rfl),trivial⟩) ?_
 refine Cx.ef 4 rfl rfl AD (Ak rfl rfl AD rfl (eS) ⟨ke rfl,ke rfl,trivial⟩) (xo rfl (fun _=>Aa (xs:=[.tmp 117]) (rows:=[_]) rfl rfl underlying29 Hu VP rfl AD ⟨⟨Ao,(Va rfl)⟩,trivial⟩ AD) ?_)
 refine Cx.ef 1 rfl rfl AD (B7 rfl rfl rfl rfl underlying29 Hu mB VP (Kb rfl) (Kf rfl) (A7 BD (Ka rfl))) ?_
 refine xo rfl (fun _=>BU rfl VM (vl rfl)) (Cx.C0 2 rfl rfl (GD rfl rfl rfl (vl rfl) rfl zj Am) ?_)
 refine Cx.nil ⟨by kernel_rfl,?_⟩
 refine BE.RN 1 2 119 rfl rfl AD rfl (fun v7=> ?_)
 refine BE.done mo ?_
 refine ac ?_
 refine Tr.drop 0 (wk4 0 2 3 10 rfl ?_)
 refine ac ?_
 refine Fin.Iw 1 [slice 9 (es.map Bp),Ij jx,Ag v7 (R8 (its++[(UE s5.Cd (KJ s5 [ML,Z5]))]))] rfl ⟨Lr,Lr,A9 DC,trivial⟩ ?_
 exact Fin.Di (q-1) (its++[(UE s5.Cd (KJ s5 [ML,Z5]))]) (_) v7 (⟨⟨by omega,by simp;omega,Xg hqi (eR (eT s5))⟩,by omega⟩) ⟨⟨_,rfl,int_eq AA⟩,ke rfl,ke rfl,ke rfl,trivial⟩ (fun _ _ h=>h)
 have hq3:¬0<q:=of_decide_eq_false h10
 refine ac ?_
 refine ap ?_
 refine Tr.ret (Fin.Gq 3 _ rfl rfl (Fin.Fh [_,_,_] rfl (AQ.cell 2 rfl rfl Gf Fi rfl (Lr)) ?_ (fun _ _ _ _=>rfl)))
 · exact kR
end Go.Proofs.YteomgekmipcdpaaGreatDoor
namespace Cp
open Go Go.RowKit
variable {ops:Array Oper} {rows:List (List Pr)} {rs:List Ay} {zs:List Value} {b:Nat} {o:Oper} {p q:Pr} {P:Program} {T e t:TypeId} {w0:World}
theorem JL {E:Env} {I:Cc} {y:Operand} {sz bytes:Nat} (ho:o.op= .call { callee:= .builtin .append,args:= #[.const (.slice none 0 0),y],argTypes:= #[t,t] }) (ht:P.underlying t=some (.slice e)) (hz:Az P e=some sz) (hby:Br P e=some bytes) (D8:BM P e=some zs) (hzl:zs.length=sz) (hsz:0<sz) (hy:VL E y (slice sz rows)) (Gc:rows.length≤maxLen) (hfit:rows.length*bytes≤140737488355328):Ab P I o E (slice sz rows):=
 Ab.val fun M w a he hI=>by
  have h0:=(A8.begin (I.bd _ _ hI)).Jm (r:=Bo) rfl trivial
  obtain ⟨v',w',M',h1,h2,h3,h4⟩:=Wx (ty:=o.type) (j:=0) (v:= .slice none 0 0) (rows:=[]) ht hz hby D8 hzl hsz h0 rfl (.inr ⟨rfl,rfl⟩) (AM sz M w _ rfl) (hy.ev he Da) Pz Py
  have h5:a.eval (.const (.slice none 0 0))= .slice none 0 0:=rfl
  exact ⟨v',w',by simp [execOp,ho,resolve,invoke,builtin,h1,h5],(slice sz rows).st _ _ _ _ _ (Ext.less h4.m) (by simpa using h2),h4.below⟩
theorem TO.RM {n:Fm} {E:Env} {M0:Av} {S:Nat→Prop} {r:List Oper} {Q:Exit→Act→World→Prop} (i:Nat) (hi:rs[i]? =some (ID T b)) (k:∀s,TO P n ops r E (Hp M0 w0 S (rs.set i (W7 T b s))) Q):TO P n ops r E (Hp M0 w0 S rs) Q:=by
 rintro m hl a w ⟨M,h1,h2,h3,h4⟩
 have h4:A8 M0 w0 S rs M w:=h4
 obtain ⟨x,hx,hh⟩:=(h4.hold _ (List.mem_of_getElem? hi)).1
 exact k x m hl a w ⟨M,h1,h2,h3,h4.Cw hi rfl rfl hh⟩
theorem Ab.Mh {E:Env} {I:Cc} (s:Nat) {α:Type} {f:α→Pr} (hs:E.lookup s=some (Cp.ex f)) (hm:s∈looks o) (h:∀x,Ab P I o ((s,f x)::E) p):Ab P I o E p:=by
 intro M w a he hI
 obtain ⟨x,hx⟩:=he s _ hm hs
 refine h x M w a (fun t q ht hq=> ?_) hI
 simp only [List.lookup] at hq
 by_cases hts:t=s
 · subst hts;simp at hq;subst hq;exact hx
 · exact Uy
theorem Ab.opf {E:Env} {I:Cc} {φ:Prop} (s:Nat) (hs:E.lookup s=some (Cp.fact φ q)) (hm:s∈looks o) (h:φ→Ab P I o ((s,q)::E) p):Ab P I o E p:=by
 intro M w a he hI
 obtain ⟨hφ,hx⟩:=he s _ hm hs
 refine h hφ M w a (fun t r ht hr=> ?_) hI
 simp only [List.lookup] at hr
 by_cases hts:t=s
 · subst hts;simp at hr;subst hr;exact hx
 · rw [show (t==s)=false by simpa using hts] at hr;exact he t r ht hr
end Cp
namespace Cp
open Go Go.RowKit Go.Great
variable {M:Av} {rows:List (List Pr)} {i j:Nat} {e:TypeId} {v:Value} {w:World}
section
variable {P:Program} {L:Lg P} {n:Fm} {fz:Nat} {E:Env} {M0:Av} {w0:World} {S:Nat→Prop} {rs:List Ay}
theorem A8.Xh {r r':Ay} (h:A8 M0 w0 S rs M w) (hi:rs[i]? =some r) (hb:∀b,r'.blk=some b→r.blk=some b) (hn:r'.new=r.new) (hh:r'.h M w):A8 M0 w0 S (rs.set i r') M w:=by
 have Fw:i<rs.length:=by rcases Nat.lt_or_ge i rs.length with h|h;exact h;rw [List.getElem?_eq_none h] at hi;cases hi
 have h1:=A8.perm (EL hi) h
 refine A8.perm (J4 Fw) ⟨h1.m0,h1.m,h1.os,h1.tape,h1.output,h1.size,h1.block,h1.bd,fun q hq=> ?_,?_⟩
 ·
  rcases List.mem_cons.1 hq with rfl|hq
  · exact ⟨hh,fun b hbk=>by rw [hn];exact (h1.hold r AR).2 b (hb b hbk)⟩
  · exact h1.hold q (by simp [hq])
 ·
  obtain ⟨h2,h3⟩:=List.pairwise_cons.1 h1.nd
  exact List.Pairwise.cons (fun q hq b hbk=>h2 q hq b (hb b hbk)) h3
theorem A8.R_ {sz:Nat} (h:A8 M0 w0 S rs M w) (hj:rs[j]? =some (BX e sz rows v)):A8 M0 w0 S (rs.set j (CX e sz rows v)) M w:=by
 rcases (h.hold _ (List.mem_of_getElem? hj)).1 with ⟨h1,h2⟩|⟨b,cap,sp,h1,h2,h3,h4,h5⟩
 ·
  subst h2
  exact h.Xh hj (fun b hb=>by cases hb) rfl (.inl ⟨h1,_,rfl⟩)
 ·
  subst h1
  cases cap with
  |zero=>
   have hr:rows=[]:=List.eq_nil_of_length_eq_zero AA
   subst hr
   exact h.Xh hj (fun b hb=>by cases hb) rfl (.inl ⟨rfl,_,rfl⟩)
  |succ c=>exact h.Xh hj (fun b hb=>hb) rfl (.inr ⟨b,c,sp,rfl,h2,h3,h4,h5⟩)
theorem Fin.R_ {Q:Exit→Act→World→Prop} {x:Exit} {sz:Nat} (j:Nat) (hj:rs[j]? =some (BX e sz rows v)) (k:Fin n E (Hp M0 w0 S (rs.set j (CX e sz rows v))) Q x):Fin n E (Hp M0 w0 S rs) Q x:=
 Fin.conv (fun a w hs=>by
  obtain ⟨M,h1,h2,h3,h4⟩:=hs
  have h4:A8 M0 w0 S rs M w:=h4
  exact ⟨M,h1,h2,h3,h4.R_ hj⟩) k
theorem Tr.R_ {Q:Exit→Act→World→Prop} {c:Code} {sz:Nat} (j:Nat) (hj:rs[j]? =some (BX e sz rows v)) (k:Tr L n E (Hp M0 w0 S (rs.set j (CX e sz rows v))) c Q):Tr L n E (Hp M0 w0 S rs) c Q:=
 Tr.conv (fun _ _ ⟨M,h1,h2,h3,h4⟩=>⟨M,h1,h2,h3,A8.R_ h4 hj⟩) k
end
end Cp
namespace Go.Proofs.YteomgekmipcdpaaGreatDoor
open Go Go.RowKit Cp Go.Proofs.Tryz
variable {s:List Int} {i k m n:Nat}
structure CF.sz (e:CF) (n:Nat):Prop where
 name:e.name.length≤maxLen
 BA:e.BA.length≤n
 anchors:e.anchors.length≤n
 hashes:e.hashes.length≤n
 Y6:e.ids.length≤n
 ids:∀x∈e.ids,x.fits∧x.small
theorem CF.sz.fits {e:CF} (h:e.sz n):e.fits:=⟨h.name,fun x hx=>(h.ids x hx).1⟩
theorem CF.sz.small {e:CF} (h:e.sz n) (hn:n≤1000000):e.small:=⟨by have:=h.BA;omega,by have:=h.anchors;omega,by have:=h.hashes;omega,by have:=h.Y6;omega,fun x hx=>(h.ids x hx).2⟩
theorem CF.sz.le {e:CF} (h:e.sz n) (hn:n≤m):e.sz m:=⟨h.name,Nat.le_trans h.BA hn,Nat.le_trans h.anchors hn,Nat.le_trans h.hashes hn,Nat.le_trans h.Y6 hn,h.ids⟩
theorem vp {e:CF} (h:Zu i e):e.sz 5:=by
 have hs:=Vy _ (KK h)
 have h1:=UB h;have h2:=R7 h
 obtain ⟨s,hs1,Vh⟩:=h.ids
 exact ⟨h1.name,hs.2,by rw [h.anchors];simp,by rw [h.hashes];simp,by rw [Vh];simp,fun x hx=>⟨h1.ids x hx,h2.ids x hx⟩⟩
theorem QW {α:Type} {l:List α} {a:α}:(l.take i++[a]++l.drop i).length≤l.length+1:=by simp [List.length_take,List.length_drop];omega
theorem QX {α:Type} {l:List α}:(l.eraseIdx i).length≤l.length:=by rw [List.length_eraseIdx];split<;>omega
theorem HO:B6.fits∧B6.small:=⟨nj,gy⟩
theorem vu {P:Ju→Prop} {l:List Ju} {x:Ju} (h:∀y∈l,P y) (hx:P x):∀y∈l.take i++[x]++l.drop i,P y:=by grind
theorem eU {e:CF} {c:Bl} {x:CF} {b:Bl} (hc:Jl c) (h:CD e c= .ok (x,b)) (hs:e.sz n) (hi:c.DM.fits∧c.DM.small):x.sz (n+1)∧b.DM.fits∧b.DM.small:=by
 have h1:=hs.BA;have h2:=hs.anchors;have h3:=hs.hashes;have h4:=hs.Y6
 rcases eO hc.1 with hk|hk|hk|hk|hk|hk|hk|hk|hk|hk|hk|hk
 · rw [QJ hk] at h;(repeat' (split at h))<;>first|(cases h;done)|(injection h with h;obtain ⟨rfl,rfl⟩:=Prod.mk.inj h;exact ⟨⟨hs.name,Nat.le_trans QW AA,Nat.le_trans h2 AA,Nat.le_trans h3 AA,Nat.le_trans h4 AA,hs.ids⟩,HO⟩)
 · rw [QK hk] at h;(repeat' (split at h))<;>first|(cases h;done)|(injection h with h;obtain ⟨rfl,rfl⟩:=Prod.mk.inj h;exact ⟨⟨hs.name,Nat.le_trans QX AA,Nat.le_trans h2 AA,Nat.le_trans h3 AA,Nat.le_trans h4 AA,hs.ids⟩,HO⟩)
 · rw [QL hk] at h;(repeat' (split at h))<;>first|(cases h;done)|(injection h with h;obtain ⟨rfl,rfl⟩:=Prod.mk.inj h;exact ⟨⟨hs.name,Nat.le_trans h1 AA,Nat.le_trans h2 AA,Nat.le_trans h3 AA,Nat.le_trans h4 AA,hs.ids⟩,HO⟩)
 · rw [QM hk] at h;(repeat' (split at h))<;>first|(cases h;done)|(injection h with h;obtain ⟨rfl,rfl⟩:=Prod.mk.inj h;exact ⟨⟨hs.name,Nat.le_trans h1 AA,Nat.le_trans h2 AA,Nat.le_trans h3 AA,Nat.le_trans h4 AA,hs.ids⟩,HO⟩)
 · rw [QN hk] at h;(repeat' (split at h))<;>first|(cases h;done)|(injection h with h;obtain ⟨rfl,rfl⟩:=Prod.mk.inj h;exact ⟨⟨hs.name,Nat.le_trans h1 AA,Nat.le_trans h2 AA,Nat.le_trans h3 AA,Nat.le_trans QW AA,vu hs.ids hi⟩,HO⟩)
 · rw [QO hk] at h;(repeat' (split at h))<;>first|(cases h;done)|(injection h with h;obtain ⟨rfl,rfl⟩:=Prod.mk.inj h;exact ⟨⟨hs.name,Nat.le_trans h1 AA,Nat.le_trans h2 AA,Nat.le_trans h3 AA,Nat.le_trans QX AA,fun y hy=>hs.ids y (List.mem_of_mem_eraseIdx hy)⟩,hs.ids _ (List.mem_of_getElem? BO)⟩)
 · rw [QS hk] at h;(repeat' (split at h))<;>first|(cases h;done)|(injection h with h;obtain ⟨rfl,rfl⟩:=Prod.mk.inj h;exact ⟨⟨hs.name,Nat.le_trans h1 AA,Nat.le_trans QW AA,Nat.le_trans h3 AA,Nat.le_trans h4 AA,hs.ids⟩,HO⟩)
 · rw [QT hk] at h;(repeat' (split at h))<;>first|(cases h;done)|(injection h with h;obtain ⟨rfl,rfl⟩:=Prod.mk.inj h;exact ⟨⟨hs.name,Nat.le_trans h1 AA,Nat.le_trans QX AA,Nat.le_trans h3 AA,Nat.le_trans h4 AA,hs.ids⟩,HO⟩)
 · rw [QU hk] at h;(repeat' (split at h))<;>first|(cases h;done)|(injection h with h;obtain ⟨rfl,rfl⟩:=Prod.mk.inj h;exact ⟨⟨hs.name,Nat.le_trans h1 AA,Nat.le_trans h2 AA,Nat.le_trans QW AA,Nat.le_trans h4 AA,hs.ids⟩,HO⟩)
 · rw [NP hk] at h;(repeat' (split at h))<;>first|(cases h;done)|(injection h with h;obtain ⟨rfl,rfl⟩:=Prod.mk.inj h;exact ⟨⟨hs.name,Nat.le_trans h1 AA,Nat.le_trans h2 AA,Nat.le_trans QX AA,Nat.le_trans h4 AA,hs.ids⟩,HO⟩)
 · rw [NQ hk] at h;(repeat' (split at h))<;>first|(cases h;done)|(injection h with h;obtain ⟨rfl,rfl⟩:=Prod.mk.inj h;exact ⟨⟨hs.name,Nat.le_trans h1 AA,Nat.le_trans h2 AA,Nat.le_trans h3 AA,Nat.le_trans h4 AA,hs.ids⟩,HO⟩)
 · rw [NR hk] at h;(repeat' (split at h))<;>first|(cases h;done)|(injection h with h;obtain ⟨rfl,rfl⟩:=Prod.mk.inj h;exact ⟨⟨hs.name,Nat.le_trans h1 AA,Nat.le_trans h2 AA,Nat.le_trans h3 AA,Nat.le_trans h4 AA,hs.ids⟩,HO⟩)
theorem vv {e:CF} {c:Bl} {x:CF} {b:Bl} (h:ET e c=(x,b,0)) (hs:e.sz n) (hi:c.DM.fits∧c.DM.small):x.sz (n+1)∧b.DM.fits∧b.DM.small:=by
 obtain ⟨_,h2,h3,_⟩:=iD h
 exact eU h2 h3 hs hi
structure Dg.sz (e:Dg) (n:Nat):Prop where
 Bw:∀x∈e.Bw,x.sz n
 items:∀x∈e.items,x.name.length≤maxLen∧x.links.length≤1000000
 le:e.Bw.length≤1000000
 lg:e.BV.length≤1000000
 li:e.items.length≤1000000
theorem Dg.sz.fits {e:Dg} (h:e.sz n) (hn:n≤1000000):e.fits:=
 ⟨fun x hx=>⟨(h.Bw x hx).fits,(h.Bw x hx).small hn⟩,fun x hx=>(h.items x hx).1,by have:=h.le;omega,by have:=h.lg;omega,by have:=h.li;omega⟩
theorem zA {β γ:Type} {f:β→γ} {l:List β} {x:β} (h:l[k]? =some x):(l.take k).map f++[f x]=(l.take (k+1)).map f:=by rw [List.take_add_one,h,List.map_append];rfl
def MM (l:List CF) (c:Bl):List CF×Int:=
 if c.AZ<0∨((l.length:Nat):Int)≤c.AZ then (l,40)
 else match l[c.AZ.toNat]? with
  |none=>(l,40)
  |some x=>if (ET x c).2.2=0 then (l.set c.AZ.toNat (ET x c).1,0) else (l,(ET x c).2.2)
theorem vw {l:List CF} {c:Bl} (h:c.AZ<0∨((l.length:Nat):Int)≤c.AZ):MM l c=(l,40):=if_pos h
theorem ABA {l:List CF} {c:Bl} {x:CF} (h:¬(c.AZ<0∨((l.length:Nat):Int)≤c.AZ)) (hx:l[c.AZ.toNat]? =some x):MM l c=if (ET x c).2.2=0 then (l.set c.AZ.toNat (ET x c).1,0) else (l,(ET x c).2.2):=by
 unfold MM;rw [if_neg h,hx]
def OP (l:List Bl):List Int→List CF→List CF×Int
 |[],Bw=>(Bw,0)
 |i::s,Bw=>match l[i.toNat]? with
  |none=>(Bw,0)
  |some c=>if (MM Bw c).2=0 then OP l s (MM Bw c).1 else (Bw,(MM Bw c).2)
def V4 (e:Dg) (l:List Bl) (s:List Int):Dg×Int:=
 if FU e=false then (GK,31)
 else if 24<l.length then (GK,3)
 else if DO l.length s=false then (GK,46)
 else if (OP l s e.Bw).2=0 then (⟨(OP l s e.Bw).1,e.BV,e.items⟩,0) else (GK,(OP l s e.Bw).2)
theorem iJ {l:List Bl} {Bw:List CF} {i:Int} {c:Bl} (hi:s[k]? =some i) (hc:l[i.toNat]? =some c):OP l (s.drop k) Bw=if (MM Bw c).2=0 then OP l (s.drop (k+1)) (MM Bw c).1 else (Bw,(MM Bw c).2):=by
 have hk:=BZ hi
 rw [List.drop_eq_getElem_cons hk]
 rw [List.getElem?_eq_getElem hk] at hi;cases hi
 rw [OP];rw [hc]
theorem eV (l:List CF) (c:Bl):(MM l c).1.length=l.length:=by
 unfold MM;split
 · rfl
 ·
  split
  · rfl
  ·
   split
   · exact List.length_set
   · rfl
theorem oH {l:List CF} {c:Bl} (hz:∀x∈l,x.sz n) (hi:c.DM.fits∧c.DM.small):∀x∈(MM l c).1,x.sz (n+1):=by
 have E2:∀x∈l,x.sz (n+1):=fun x hx=>(hz x hx).le AA
 unfold MM;split
 · exact E2
 ·
  split
  · exact E2
  next x hx=>
  split
  next h0=>
   intro y hy
   rcases List.mem_or_eq_of_mem_set hy with hy|hy
   · exact E2 y hy
   ·
    subst hy
    exact (vv (b:=(ET x c).2.1) (by rw [←h0]) (hz x (List.mem_of_getElem? hx)) hi).1
  · exact E2
def O7 (s:List Int) (k:Nat):Int:=if k=0 then -1 else s[k-1]?.getD 0
theorem Z6 {i:Int} (h:s[k]? =some i):O7 s (k+1)=i:=by unfold O7;rw [if_neg AA,Nat.add_sub_cancel,h];rfl
theorem SA {n:Int} {i:Int} (h:∀j,j<k→setAt n s j=true) (hi:s[k]? =some i):setAt n s k= !(decide (i≤O7 s k)||decide (n≤i)):=by
 have hk:=BZ hi
 unfold setAt O7
 rw [hi,Option.getD_some]
 rcases Nat.eq_zero_or_pos k with hz|hz
 · subst hz;rw [Bool.eq_iff_iff];simp;omega
 ·
  have h1:=h (k-1) AA
  unfold setAt at h1
  simp only [Bool.and_eq_true,decide_eq_true_eq] at h1
  rw [if_neg AA,Bool.eq_iff_iff];simp;omega
theorem Uv {n:Int} {i:Int} (h:∀j,j<k→setAt n s j=true) (hi:s[k]? =some i) (hb:i≤O7 s k∨n≤i):DO n s=false:=
 Q1 (p:=setAt n s) (k:=k) (BZ hi) (by rw [SA h hi];simp;omega)
theorem oJ {n:Int} {s:List Int} (h:∀j,j<s.length→setAt n s j=true):∀j,j<s.length→(j:Int)≤s[j]?.getD 0
 |0,hj=>by have:=h 0 hj;unfold setAt at this;simp at this;simp;omega
 |j+1,hj=>by
  have h1:=oJ h j AA
  have:=h (j+1) hj
  unfold setAt at this
  simp only [Bool.and_eq_true,Bool.or_eq_true,decide_eq_true_eq,Nat.add_sub_cancel] at this
  omega
theorem NV (h:DO n s=true):s.length≤n:=by
 unfold DO at h;rw [CA] at h
 rcases Nat.eq_zero_or_pos s.length with hz|hz
 · omega
 ·
  have h1:=oJ h (s.length-1) AA
  have h2:=h (s.length-1) AA
  unfold setAt at h2
  simp only [Bool.and_eq_true,decide_eq_true_eq] at h2
  omega
theorem QY (h:DO n s=true) {i:Int} (hi:s[k]? =some i):0≤i∧i<n:=by
 unfold DO at h;rw [CA] at h
 have h2:=h k (BZ hi)
 unfold setAt at h2
 rw [hi] at h2
 simp only [Option.getD_some,Bool.and_eq_true,decide_eq_true_eq] at h2
 exact h2.1
end Go.Proofs.YteomgekmipcdpaaGreatDoor
namespace Cp
open Go Go.RowKit
variable {M:Av} {ps:List Pr} {n:Nat} {q:Pr} {w:World}
theorem v_ {β:Type} {f:β→Pr} {ad:Addr} (h:Row M w ad n (ps++[Cp.ex f])):∃x,Row M w ad n (ps++[f x]):=by
 obtain ⟨u,h1,h2,h3,x,h4⟩:=h ps.length (Cp.ex f) AR
 refine ⟨x,fun j p hp=> ?_⟩
 rcases Nat.lt_trichotomy j ps.length with hj|hj|hj
 · exact cX
 · grind
 · grind
theorem iK {φ:Prop} {ad:Addr} (h:Row M w ad n (ps++[fact φ q])):φ∧Row M w ad n (ps++[q]):=by
 obtain ⟨u,h1,h2,h3,hφ,h4⟩:=h ps.length (fact φ q) AR
 refine ⟨hφ,fun j p hp=> ?_⟩
 rcases Nat.lt_trichotomy j ps.length with hj|hj|hj
 · exact cX
 · grind
 · grind
theorem Z7 {α β:Type} {f:α→List Pr} {g:β→List Pr} {φ:α→β→Prop} {sz:Nat} (h:∀a M w ad n,Row M w ad n (f a)→∃b,φ a b∧Row M w ad n (g b)) (hf:∀a,(f a).length=sz) (hg:∀b,(g b).length=sz) (ms:List α):
  Pr.le (slice sz (ms.map f)) (Cp.ex fun l:List β=>fact (l.length=ms.length∧∀(i:Nat) a b,ms[i]? =some a→l[i]? =some b→φ a b) (slice sz (l.map g))):=by
 rintro M w v ⟨a,cap,hv,h1,h2,h3,h5⟩
 have hk:∀k,k≤ms.length→∃l:List β,l.length=k∧(∀(i:Nat) a b,ms[i]? =some a→l[i]? =some b→φ a b)∧∀(i:Nat) b,l[i]? =some b→∃ad,a=some ad∧Row M w ad (i*sz) (g b):=by
  intro k
  induction k with
  |zero=>intro _;exact ⟨[],rfl,by simp,by simp⟩
  |succ k ih=>
   intro hk
   obtain ⟨l,hl,hp,hr⟩:=ih AA
   obtain ⟨x,hx⟩:∃x,ms[k]? =some x:=⟨ms[k],List.getElem?_eq_getElem AA⟩
   obtain ⟨_,ad,had,hrow⟩:=h5 k (f x) U5
   obtain ⟨b,S7,We⟩:=h x M w ad (k*sz) hrow
   refine ⟨l++[b],by simp [hl],fun i y c hy hc=> ?_,fun i c hc=> ?_⟩
   · grind
   · grind
 obtain ⟨l,hl,hp,hr⟩:=hk ms.length (Nat.le_refl _)
 rw [List.length_map] at hv h1
 refine ⟨l,⟨hl,hp⟩,a,cap,by rw [List.length_map,hl];exact hv,by rw [List.length_map,hl];exact h1,h2,h3,fun i row hrow=> ?_⟩
 rw [List.getElem?_map] at hrow
 cases hb:l[i]? with
 |none=>rw [hb] at hrow;cases hrow
 |some b=>
  rw [hb] at hrow;simp at hrow;subst hrow
  exact ⟨hg b,hr i b hb⟩
end Cp
