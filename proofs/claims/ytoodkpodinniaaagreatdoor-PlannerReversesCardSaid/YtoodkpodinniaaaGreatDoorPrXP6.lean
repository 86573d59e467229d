/-
  Part 6 of the texts that prove this claim, merged.
-/
import Derived.Test.YtoodkpodinniaaaGreatDoorPrXP5
set_option linter.all false
set_option maxRecDepth 40000
set_option maxHeartbeats 16000000
namespace Go.Proofs.YtoodkpodinniaaaGreatDoor
open Go Go.RowKit Cp Go.Proofs.Tryz
variable {I:CU} {E:Env} {e e2:CO} {l:List Int} {b d k m n:Nat} {o:Oper} {v:Value} {w:World}
theorem wm {c b:BA} (h:c.kind=1) (hs:A_ e c= .ok (e2,b)):(0≤c.at_∧c.at_≤(e.AG.length:Nat))∧e2={ e with AG:=e.AG.take c.at_.toNat++[c.number]++e.AG.drop c.at_.toNat }∧b=⟨c.AJ,2,c.number,0,A0⟩:=by grind [Ho]
theorem wo {c b:BA} (h:c.kind=2) (hs:A_ e c= .ok (e2,b)):(0≤HB e c)∧e2={ e with AG:=e.AG.eraseIdx (HB e c).toNat }∧b=⟨c.AJ,1,c.number,HB e c,A0⟩:=by grind [Hq]
theorem wq {c b:BA} (h:c.kind=3) (hs:A_ e c= .ok (e2,b)):e2={ e with most:=c.number }∧b=⟨c.AJ,c.kind,e.most,0,A0⟩:=by grind [Hr]
theorem wu {c b:BA} (h:c.kind=4) (hs:A_ e c= .ok (e2,b)):e2={ e with least:=c.number }∧b=⟨c.AJ,c.kind,e.least,0,A0⟩:=by grind [Hs]
theorem wv {c b:BA} (h:c.kind=5) (hs:A_ e c= .ok (e2,b)):(0≤c.at_∧c.at_≤(e.ids.length:Nat))∧e2={ e with ids:=e.ids.take c.at_.toNat++[c.Bj]++e.ids.drop c.at_.toNat }∧b=⟨c.AJ,6,c.Bj.BB,0,A0⟩:=by grind [Ht]
theorem wz {c b:BA} (h:c.kind=6) (hs:A_ e c= .ok (e2,b)):∃x,e.ids[(Ag c.number e.ids).toNat]? =some x∧0≤Ag c.number e.ids∧e2={ e with ids:=e.ids.eraseIdx (Ag c.number e.ids).toNat }∧b=⟨c.AJ,5,0,Ag c.number e.ids,x⟩:=by grind [Hu]
theorem w4 {c b:BA} (h:c.kind=7) (hs:A_ e c= .ok (e2,b)):CE e.anchors c.number=false∧e2={ e with anchors:=Fj e.anchors c.number }∧b=⟨c.AJ,8,c.number,0,A0⟩:=by grind [Hv]
theorem w5 {c b:BA} (h:c.kind=8) (hs:A_ e c= .ok (e2,b)):CE e.anchors c.number=true∧e2={ e with anchors:=e.anchors.eraseIdx (B5 e.anchors c.number) }∧b=⟨c.AJ,7,c.number,0,A0⟩:=by grind [Hw]
theorem w7 {c b:BA} (h:c.kind=9) (hs:A_ e c= .ok (e2,b)):CE e.hashes c.number=false∧e2={ e with hashes:=Fj e.hashes c.number }∧b=⟨c.AJ,10,c.number,0,A0⟩:=by grind [Hx]
theorem rZ {c b:BA} (h:c.kind=10) (hs:A_ e c= .ok (e2,b)):CE e.hashes c.number=true∧e2={ e with hashes:=e.hashes.eraseIdx (B5 e.hashes c.number) }∧b=⟨c.AJ,9,c.number,0,A0⟩:=by grind [GN]
theorem rj {c b:BA} (h:c.kind=11) (hs:A_ e c= .ok (e2,b)):e2={ e with E_:=(c.number==1) }∧b=⟨c.AJ,c.kind,Ca e.E_,0,A0⟩:=by grind [GO]
theorem rq {c b:BA} (h:c.kind=12) (hs:A_ e c= .ok (e2,b)):e2={ e with own:=(c.number==1) }∧b=⟨c.AJ,c.kind,Ca e.own,0,A0⟩:=by grind [GP]
theorem fJ {c:BA} (h:0≤HB e c):(HB e c).toNat<e.AG.length:=by obtain ⟨_,_,_,h3⟩:=Gg (p:=fun y=>c.number==y) (l:=e.AG) h;exact h3
theorem XC {c b:BA} (B8:e.small) (hcs:c.Bj.small) (hce:CA e=true) (hc:EB c) (hs:A_ e c= .ok (e2,b)):Ay prog 157 [agg (Am e),agg (A9 c)] (agg (Am e2)):=by
 refine fo func157 rfl ⟨rfl,rfl⟩ fun M0 w0=> ?_
 have hk:=hc.1
 have ok:=CJ.1 hce
 have hs1:=B8.AG
 have L_:=B8.anchors
 have TD:=B8.hashes
 have Xi:=B8.Ox
 refine Tr.seq (Tr.BL (tp rfl (BK rfl CS) (tp rfl (BK rfl CS) ?_)))
 refine Tl rfl rfl rfl rfl G7 Dn (fun b1=> ?_)
 refine ap ?_
 refine ap ?_
 refine tp rfl (Bn (Pa B8) rfl rfl) ?_
 refine Tl rfl rfl rfl rfl G7 Dn (fun b2=> ?_)
 refine ap ?_
 refine ac ?_
 refine an ?_ ?_<;>intro h1 q1
 obtain ⟨hr,rfl,rfl⟩:=wm q1 hs
 refine ap ?_
 refine tp rfl (Ad rfl (Lm (l:=e.AG) (i:=c.at_.toNat) AA hs1) ⟨kq,⟨_,rfl,int_eq AA⟩,kz⟩) ?_
 refine ap ?_
 refine wk [5,4] rfl ?_
 refine ap ?_
 refine Tr.drop 0 (Tr.ret (Fin.CF rfl (AR.cell 0 rfl rfl Bv Ba rfl Lr) ?_))
 · exact Lr
 refine ac ?_
 refine wk [24,13,5,4,3,2] rfl ?_
 refine Tr.cn rfl ?_ ?_<;>intro h2 q2
 obtain ⟨hr,rfl,rfl⟩:=wo q2 hs
 refine Tr.rx ?_
 refine ay ?_
 refine xo rfl (fun _=>Cb (Hy) rfl rfl rfl) ?_
 refine xo rfl (fun _=>Ad rfl (Hz (l:=e.AG) (i:=(HB e c).toNat) (fJ hr) hs1) ⟨kq,⟨_,rfl,int_eq (show HB e c=_ by omega)⟩,trivial⟩) ?_
 refine ay ?_
 refine Cx.nil ⟨by kernel_rfl,?_⟩
 refine BV.done Xd ?_
 refine ac ?_
 refine wk [5,4] rfl ?_
 refine ap ?_
 refine Tr.drop 0 (Tr.ret (Fin.CF rfl (AR.cell 0 rfl rfl Bv Ba rfl Lr) ?_))
 · exact Lr
 refine an ?_ ?_<;>intro h3 q3
 obtain ⟨rfl,rfl⟩:=wq q3 hs
 refine ap ?_
 refine ap ?_
 refine Tr.drop 0 (Tr.ret (Fin.CF rfl (AR.cell 0 rfl rfl Bv Ba rfl Lr) ?_))
 · exact Lr
 refine an ?_ ?_<;>intro h4 q4
 obtain ⟨rfl,rfl⟩:=wu q4 hs
 refine ap ?_
 refine ap ?_
 refine Tr.drop 0 (wk [4] rfl (Tr.ret (Fin.CF rfl (AR.cell 0 rfl rfl Bv Ba rfl Lr) ?_)))
 · exact Lr
 refine an ?_ ?_<;>intro h5 q5
 obtain ⟨hr,rfl,rfl⟩:=wv q5 hs
 refine ap ?_
 refine tp rfl (Eh rfl underlying77 Bl vq vq AA CK) ?_
 refine TO.pad ?_
 refine TO.Fw 0 rfl rfl AB (G3 rfl rfl AB rfl underlying77 Bl Og LW rfl AB ⟨_,rfl,AH _⟩ vq Pu Pw (B9 Bt ⟨_,rfl,EI 1⟩)) (fun v1=> ?_)
 refine ap ?_
 refine wk [6,5,4,3] rfl ?_
 refine ap ?_
 refine tp rfl (Bn (OP hcs) rfl rfl) (tp rfl (Ah (xs:=[.tmp 56]) (rows:=[_]) rfl rfl underlying77 Bl LW rfl AB ⟨⟨Aq,(Va rfl)⟩,trivial⟩ AB) ?_)
 refine TO.Fw 0 rfl rfl AB (Dy rfl rfl rfl rfl underlying77 Bl Og LW L9 E9 (CY Bt Er)) (fun v2=> ?_)
 refine ap ?_
 refine ap ?_
 refine tp rfl (DB rfl underlying77 Bl vq vq AA CK) ?_
 refine TO.Fw 0 rfl rfl AB (Dy rfl rfl rfl rfl underlying77 Bl Og LW L9 vq (CY Bt Er)) (fun v3=> ?_)
 refine ap ?_
 refine wk [5,4] rfl ?_
 refine ap ?_
 refine Tr.drop 1 (Tr.ret (Fin.CF rfl (AR.cell 1 rfl rfl Bv Ba rfl Lr) ?_))
 · exact BP ⟨Lr,Lr,Lr,Lr,Lr,Pr.le_trans (BF _ _) (Pr.le_of_eq (by show _=slice 4 ((e.ids.take c.at_.toNat++[c.Bj]++e.ids.drop c.at_.toNat).map BJ);simp [List.map_take,List.map_drop])),Lr,Lr,Lr,trivial⟩
 refine ac ?_
 refine wk [67,13,5,4,3,2] rfl ?_
 refine Tr.cn rfl ?_ ?_<;>intro h6 q6
 obtain ⟨x_,hx_,hr,rfl,rfl⟩:=wz q6 hs
 have hlt:=Ar hx_
 refine ac ?_
 refine co rfl (Cb (Ll Xi) rfl rfl rfl) ?_
 refine ac ?_
 refine wk [8,5,4] rfl ?_
 refine ap ?_
 refine tp rfl (Eh rfl underlying77 Bl vq vq AA CK) ?_
 refine TO.pad ?_
 refine TO.Fw 0 rfl rfl AB (G3 rfl rfl AB rfl underlying77 Bl Og LW rfl AB ⟨_,rfl,AH _⟩ vq Pu Pw (B9 Bt ⟨_,rfl,EI 1⟩)) (fun v4=> ?_)
 refine ap ?_
 refine ap ?_
 refine tp rfl (DB rfl underlying77 Bl vq vq AA CK) ?_
 refine TO.Fw 0 rfl rfl AB (Dy rfl rfl rfl rfl underlying77 Bl Og LW L9 vq (CY Bt Er)) (fun v5=> ?_)
 refine ap ?_
 refine wk [5,4] rfl ?_
 refine ap ?_
 refine Tr.drop 1 (Tr.ret (Fin.CF rfl (AR.cell 1 rfl rfl Bv Ba rfl Lr) ?_))
 · exact BP ⟨Lr,Lr,Lr,Lr,Lr,Pr.le_trans (BF _ _) (Pr.le_of_eq (by show _=slice 4 ((e.ids.eraseIdx (Ag c.number e.ids).toNat).map BJ);rw [List.eraseIdx_eq_take_drop_succ,show (Ag c.number e.ids+1).toNat=(Ag c.number e.ids).toNat+1 by omega];simp [List.map_take,List.map_drop])),Lr,Lr,Lr,trivial⟩
 refine an ?_ ?_<;>intro h7 q7
 obtain ⟨hr,rfl,rfl⟩:=w4 q7 hs
 refine ap ?_
 refine tp rfl (Cb (MF L_) rfl rfl rfl) ?_
 refine ap ?_
 refine wk [5,4] rfl ?_
 refine ap ?_
 refine Tr.drop 0 (Tr.ret (Fin.CF rfl (AR.cell 0 rfl rfl Bv Ba rfl Lr) ?_))
 · exact Lr
 refine an ?_ ?_<;>intro h8 q8
 obtain ⟨hr,rfl,rfl⟩:=w5 q8 hs
 refine Tr.rx ?_
 refine ay ?_
 refine xo rfl (fun _=>Cb (Hy) rfl rfl rfl) ?_
 refine xo rfl (fun _=>Ad rfl (Hz (l:=e.anchors) (i:=B5 e.anchors c.number) (Hj hr) L_) ⟨kq,⟨_,rfl,int_eq (by rw [RS (DO ok.eS),if_pos hr])⟩,trivial⟩) ?_
 refine ay ?_
 refine Cx.nil ⟨by kernel_rfl,?_⟩
 refine BV.done Xd ?_
 refine ac ?_
 refine wk [5,4] rfl ?_
 refine ap ?_
 refine Tr.drop 0 (Tr.ret (Fin.CF rfl (AR.cell 0 rfl rfl Bv Ba rfl Lr) ?_))
 · exact Lr
 refine an ?_ ?_<;>intro h9 q9
 obtain ⟨hr,rfl,rfl⟩:=w7 q9 hs
 refine ap ?_
 refine tp rfl (Cb (MF TD) rfl rfl rfl) ?_
 refine ap ?_
 refine wk [5,4] rfl ?_
 refine ap ?_
 refine Tr.drop 0 (Tr.ret (Fin.CF rfl (AR.cell 0 rfl rfl Bv Ba rfl Lr) ?_))
 · exact Lr
 refine ac ?_
 refine wk [116,13,5,4,3,2] rfl ?_
 refine Tr.cn rfl ?_ ?_<;>intro h10 SH
 obtain ⟨hr,rfl,rfl⟩:=rZ SH hs
 refine Tr.rx ?_
 refine ay ?_
 refine xo rfl (fun _=>Cb (Hy) rfl rfl rfl) ?_
 refine xo rfl (fun _=>Ad rfl (Hz (l:=e.hashes) (i:=B5 e.hashes c.number) (Hj hr) TD) ⟨kq,⟨_,rfl,int_eq (by rw [RS (DO ok.hash),if_pos hr])⟩,trivial⟩) ?_
 refine ay ?_
 refine Cx.nil ⟨by kernel_rfl,?_⟩
 refine BV.done Xd ?_
 refine ac ?_
 refine wk [5,4] rfl ?_
 refine ap ?_
 refine Tr.drop 0 (Tr.ret (Fin.CF rfl (AR.cell 0 rfl rfl Bv Ba rfl Lr) ?_))
 · exact Lr
 refine an ?_ ?_<;>intro h11 T8
 obtain ⟨rfl,rfl⟩:=rj T8 hs
 refine ap ?_
 refine ap ?_
 refine Tr.drop 0 (Tr.ret (Fin.CF rfl (AR.cell 0 rfl rfl Bv Ba rfl Lr) ?_))
 · exact Lr
 refine an ?_ ?_<;>intro h12 Ws
 obtain ⟨rfl,rfl⟩:=rq Ws hs
 refine ap ?_
 refine wk [5,4] rfl ?_
 refine ap ?_
 refine Tr.drop 0 (Tr.ret (Fin.CF rfl (AR.cell 0 rfl rfl Bv Ba rfl Lr) ?_))
 · exact Lr
 exfalso;omega
theorem UX {c:BA} (hz:e.sz n) (hn:n≤900000) (hi:c.Bj.fits∧c.Bj.small):Ay prog 83 [agg (Am e),agg (A9 c)] (D_ [agg (Am (Bh e c).1),int (Bh e c).2.2]):=by
 refine fo func83 rfl ⟨rfl,rfl⟩ fun M0 w0=> ?_
 have B8:=hz.small AA
 have hcs:=hi.2
 refine Tr.seq (Tr.BL (tp rfl (BK rfl CS) (tp rfl (BK rfl CS) ?_)))
 refine Tl rfl rfl rfl rfl G7 Dn (fun b1=> ?_)
 refine ao ?_
 refine ac ?_
 refine co rfl (Cb (RW B8 hcs) rfl rfl rfl) ?_
 refine ac ?_
 refine an ?_ ?_<;>intro h1 q1
 have hb:=fF q1
 refine ao ?_
 refine TO.Ap 0 rfl rfl rfl vq CS rfl Ba rfl rfl ?_
 refine ao ?_
 refine wk [5,4] rfl (Tr.ret (Fin.AL (Fin.Cj rfl (AR.cell 0 rfl rfl Bv Ba rfl Lr) (AR.tmp rfl Lr) ?_)))
 refine BT ⟨?_,?_,trivial⟩
 · exact U1
 · exact int_eq (by rw [hb])
 obtain ⟨hce,hc,e2,b,hs⟩:=kX (e:=e) (c:=c) (by have:=q1;omega)
 have w8:=(Vz hc hs hz hi).1.small AA
 refine ac ?_
 refine ao ?_
 refine tp rfl (Cb (XC B8 hcs hce hc hs) rfl rfl rfl) ?_
 refine Tl rfl rfl rfl rfl G7 Dn (fun b2=> ?_)
 refine sf 0 7 ⟨rfl,rfl,rfl⟩ rfl rfl rfl rfl ?_
 refine ao ?_
 refine wk [7,4] rfl ?_
 refine ac ?_
 refine co rfl (Bn (Ln w8) rfl rfl) ?_
 refine an ?_ ?_<;>intro h2 q2
 have hb:=JM hce hc hs (by have:=q2;cases h_:CA e2<;>simp_all)
 refine ao ?_
 refine TO.Ap 0 rfl rfl rfl vq CS rfl Ba rfl rfl ?_
 refine ao ?_
 refine Tr.ret (Fin.AL (Fin.Cj rfl (AR.cell 0 rfl rfl Bv Ba rfl Lr) (AR.tmp rfl Lr) ?_))
 refine BT ⟨?_,?_,trivial⟩
 · exact U1
 · exact int_eq (by rw [hb])
 have hb:=GQ hce hc hs (by have:=q2;cases h_:CA e2<;>simp_all)
 refine ac ?_
 refine ao ?_
 refine TO.Ap 0 rfl rfl rfl vq CS rfl Ba rfl rfl ?_
 refine ao ?_
 refine Tr.ret (Fin.Cj rfl (AR.cell 0 rfl rfl Bv Ba rfl Lr) (AR.tmp rfl Lr) ?_)
 refine BT ⟨?_,?_,trivial⟩
 · rw [hb];exact Lr
 · exact int_eq (by rw [hb])
abbrev w9 (l:List CO):Pr:=slice 9 (l.map Am)
structure Sy where
 Bw:Int
 bits:Int
 day:Int
 deriving DecidableEq
abbrev w_ (x:Sy):List Pr:=[int x.Bw,int x.bits,int x.day]
abbrev aA (l:List Sy):Pr:=slice 3 (l.map w_)
structure LA where
 name:List UInt8
 kind:Int
 F8:Int
 links:List Sy
 KE:Int
 deriving DecidableEq
abbrev Fl (x:LA):List Pr:=[str x.name,int x.kind,int x.F8,aA x.links,int x.KE]
abbrev I2 (l:List LA):Pr:=slice 5 (l.map Fl)
structure OQ where
 client:Int
 server:Int
 deriving DecidableEq
abbrev xA (x:OQ):List Pr:=[int x.client,int x.server]
abbrev Es (l:List OQ):Pr:=slice 2 (l.map xA)
abbrev D5:Sy:=⟨0,0,0⟩
abbrev Fx:OQ:=⟨0,0⟩
def EX (l:List Sy) (i:Nat):Bool:=decide (Bx (l[i]?.getD D5).Bw (l[i]?.getD D5).bits>0)&&decide (0≤(l[i]?.getD D5).day)&&decide ((l[i]?.getD D5).day≤40000)&&(decide (i=0)||decide ((l[i-1]?.getD D5).day<(l[i]?.getD D5).day))
def Fy (x:LA):Bool:=(named x.name&&decide (x.kind=1∨x.kind=2)&&decide (1≤x.F8)&&decide (x.F8≤4)&&decide (1≤x.links.length)&&decide (x.links.length≤8))&&allI (EX x.links) x.links.length&&(decide ((x.links[0]?.getD D5).day≤x.KE)&&decide (x.KE≤40000))
structure ru (x:LA):Prop where
 name:named x.name=true
 kind:x.kind=1∨x.kind=2
 p1:1≤x.F8
 p4:x.F8≤4
 l1:1≤x.links.length
 l8:x.links.length≤8
 lnk:∀j,j<x.links.length→EX x.links j=true
 u0:(x.links[0]?.getD D5).day≤x.KE
 u1:x.KE≤40000
theorem Et {x:LA}:Fy x=true↔ru x:=by
 unfold Fy
 simp only [Bool.and_eq_true,decide_eq_true_eq,Br]
 exact ⟨fun ⟨⟨⟨⟨⟨⟨⟨h1,h2⟩,h3⟩,h4⟩,h5⟩,h6⟩,h7⟩,h8,h9⟩=>⟨h1,h2,h3,h4,h5,h6,h7,h8,h9⟩,fun h=>⟨⟨⟨⟨⟨⟨⟨h.name,h.kind⟩,h.p1⟩,h.p4⟩,h.l1⟩,h.l8⟩,h.lnk⟩,h.u0,h.u1⟩⟩
def Cl (n:Nat) (l:List OQ) (i:Nat):Bool:=(decide (0≤(l[i]?.getD Fx).client∧(l[i]?.getD Fx).client<n)&&decide (0≤(l[i]?.getD Fx).server∧(l[i]?.getD Fx).server<n)&&decide ((l[i]?.getD Fx).client≠(l[i]?.getD Fx).server))&&(decide (i=0)||decide ((l[i-1]?.getD Fx).client<(l[i]?.getD Fx).client∨((l[i-1]?.getD Fx).client=(l[i]?.getD Fx).client∧(l[i-1]?.getD Fx).server<(l[i]?.getD Fx).server)))
def HG (n:Nat) (l:List OQ):Bool:=allI (Cl n l) l.length&&decide (l.length≤40)
theorem XD {x:LA} (hx:x.name.length≤maxLen):Ay prog 112 [agg (Fl x)] (int (if Fy x then 0 else 30)):=by
 refine fo func112 rfl ⟨rfl,rfl⟩ fun M0 w0=> ?_
 refine ac ?_
 refine wk [1] rfl (Tr.Ti [1] [(3,bool (decide (x.kind=1∨x.kind=2)))] (True) ?_ (fun h1=> ?_))
 refine ac ?_
 refine Ch.cs 9 rfl ?_ ?_<;>intro h2 q2
 refine ac ?_
 exact Fin.AQ () trivial ⟨⟨_,rfl,bool_eq (by simp_all [Bool.beq_eq_decide_eq])⟩,kz⟩
 refine ac ?_
 exact Fin.AQ () trivial ⟨⟨_,rfl,bool_eq (by simp_all [Bool.beq_eq_decide_eq])⟩,kz⟩
 refine wk2 1 3 rfl (Tr.Ti [1] [] ((named x.name=true∧(x.kind=1∨x.kind=2)∧1≤x.F8∧x.F8≤4)∧1≤x.links.length∧x.links.length≤8) ?_ (fun hpre=> ?_))
 refine ac ?_
 refine co rfl (Bn (Mr hx) rfl rfl) ?_
 refine ac ?_
 refine Ch.cs 18 rfl ?_ ?_<;>intro h4 q4
 refine ac ?_
 refine wk [43,1] rfl ?_
 refine ac ?_
 refine ac ?_
 · exact Xo
 refine ac ?_
 refine Ch.cs 22 rfl ?_ ?_<;>intro h5 q5
 refine ac ?_
 refine wk [43,1] rfl ?_
 refine ac ?_
 refine ac ?_
 · exact FX
 refine ac ?_
 refine Ch.cs 27 rfl ?_ ?_<;>intro h6 q6
 refine ac ?_
 refine wk [43,1] rfl ?_
 refine ac ?_
 refine ac ?_
 · exact FX
 refine ac ?_
 refine Ch.cs 32 rfl ?_ ?_<;>intro h7 q7
 refine ac ?_
 refine wk [43,1] rfl ?_
 refine ac ?_
 refine ac ?_
 · exact FX
 refine ac ?_
 refine Ch.cs 38 rfl ?_ ?_<;>intro h8 q8
 refine ac ?_
 refine wk [43,1] rfl ?_
 refine ac ?_
 refine ac ?_
 · exact FX
 refine ac ?_
 refine wk [43,1] rfl ?_
 refine Tr.cn rfl ?_ ?_<;>intro h9 q9
 refine ac ?_
 refine ac ?_
 · exact FX
 refine Tr.skip (Fin.AQ () ⟨⟨by simp_all,by simp_all,by omega,by omega⟩,by omega,by omega⟩ kz)
 obtain ⟨⟨hq1,Rk,dB,hq4⟩,hq5,hq6⟩:=hpre
 obtain ⟨c0,hc0⟩:=at_ (l:=x.links) (k:=0) AA
 have bD:=getD_at (d:=D5) hc0
 refine ac ?_
 refine Tr.block (Tr.Bc _ (kk [46,45,1] rfl) (fun k:Nat=>[(47,int ((k:Nat):Int))]) (fun k:Nat=>k≤(x.links).length∧(∀j,j<k→EX x.links j=true)) (fun k:Nat=>(x.links).length-k) 0 (⟨Nat.zero_le _,fun j hj=>absurd hj AA⟩) kz ?_)
 rintro k ⟨Be,AU⟩
 refine ac ?_
 refine Tr.seq ?_
 refine Tr.cn rfl ?_ ?_<;>intro h10 SH
 have Ae:k<(x.links).length:=AV h10
 obtain ⟨c,Af⟩:=at_ Ae
 have hg:=getD_at (d:=D5) Af
 refine ac ?_
 refine ao ?_
 refine tp rfl (AD rfl underlying84 E3 vq vq AA (Ak Af)) (tp rfl (AX rfl Tu E3 vq rfl rfl) ?_)
 refine Tl rfl rfl rfl rfl Yd Yc (fun b1=> ?_)
 refine tm rfl ?_
 refine sf 0 5 ⟨rfl,rfl,rfl⟩ rfl rfl rfl rfl ?_
 refine ao ?_
 refine ac ?_
 refine co rfl (Bn (Q0) rfl rfl) ?_
 refine ac ?_
 refine Ch.cs 56 rfl ?_ ?_<;>intro h11 T8
 refine ac ?_
 refine wk [81,47,46,45,1] rfl ?_
 refine ac ?_
 refine ac ?_
 · exact Ov
 refine ac ?_
 refine Ch.cs 61 rfl ?_ ?_<;>intro h12 Ws
 refine ac ?_
 refine wk [81,47,46,45,1] rfl ?_
 refine ac ?_
 refine ac ?_
 · exact Ov
 refine ac ?_
 refine Ch.cs 66 rfl ?_ ?_<;>intro Mo Xh
 refine ac ?_
 refine wk [81,47,46,45,1] rfl ?_
 refine ac ?_
 refine ac ?_
 · exact Ov
 refine ac ?_
 refine Ch.cs 69 rfl ?_ ?_<;>intro Lh ec
 have hk0:0<k:=by simpa using Lh
 obtain ⟨y,hy⟩:=at_ (l:=x.links) (k:=k-1) AA
 have JW:=getD_at (d:=D5) hy
 refine ac ?_
 refine cy Lh rfl (AD rfl underlying84 E3 vq vq AA Eu) ?_
 refine ac ?_
 refine wk [81,47,46,45,1] rfl ?_
 refine Tr.cn rfl ?_ ?_<;>intro TE hO
 refine ac ?_
 refine ac ?_
 · refine int_eq (if_neg (fun hv=> ?_)).symm;have ok:=Et.1 hv;have o1:=ok.name;have o2:=ok.kind;have o3:=ok.p1;have o4:=ok.p4;have o5:=ok.l1;have o6:=ok.l8;have o7:=ok.u0;have o8:=ok.u1;(have h_:=ok.lnk k AA;unfold EX at h_;rw [hg,JW] at h_;simp_all;omega)
 refine ac ?_
 refine ac ?_
 exact Fin.AQ (k+1) ⟨⟨Ae,Bo AU (by unfold EX;rw [hg,JW];simp_all)⟩,by omega⟩ ⟨⟨_,rfl,AO k⟩,kz⟩
 have IJ:¬0<k:=by simpa using Lh
 refine ac ?_
 refine wk [81,47,46,45,1] rfl ?_
 refine ac ?_
 refine ac ?_
 exact Fin.AQ (k+1) ⟨⟨Ae,Bo AU (by unfold EX;rw [hg];simp_all)⟩,by omega⟩ ⟨⟨_,rfl,AO k⟩,kz⟩
 have BM:k=(x.links).length:=by have:=AW h10;omega
 subst BM
 refine ac ?_
 refine ac ?_
 refine co rfl (AD rfl underlying84 E3 vq vq AA (Ak (k:=0) hc0)) ?_
 refine ac ?_
 refine Ch.cs 91 rfl ?_ ?_<;>intro h16 kT
 refine ac ?_
 refine wk [95] rfl ?_
 refine ac ?_
 refine ac ?_
 · exact TW
 refine ac ?_
 refine wk [95] rfl ?_
 refine Tr.cn rfl ?_ ?_<;>intro Oj dU
 refine ac ?_
 refine ac ?_
 · exact FX
 refine ac ?_
 refine ac ?_
 refine ac ?_
 · refine int_eq (if_pos (Et.2 ⟨hq1,Rk,dB,hq4,hq5,hq6,AU,by rw [bD];omega,by omega⟩)).symm
theorem UY {x:LA}  :Ay prog 81 [agg (Fl x)] (int (if Fy x then 0 else 30)):=by
 refine fo func81 rfl ⟨rfl,rfl⟩ fun M0 w0=> ?_
 refine ac ?_
 refine wk [1] rfl (Tr.Ti [1] [] ((named x.name=true∧(x.kind=1∨x.kind=2)∧1≤x.F8∧x.F8≤4)∧1≤x.links.length∧x.links.length≤8∧(x.links[0]?.getD D5).day≤x.KE∧x.KE≤40000) ?_ (fun hpre=> ?_))
 refine ac ?_
 refine co rfl (Bn (F7) rfl rfl) ?_
 refine ag ?_ ?_<;>intro h2 q2
 refine ac ?_
 refine wk [54,1] rfl ?_
 refine a2 ?_
 · exact Xo
 refine ag ?_ ?_<;>intro h3 q3
 refine ag ?_ ?_<;>intro h4 q4
 refine ac ?_
 refine wk [54,1] rfl ?_
 refine a2 ?_
 · exact FX
 refine ag ?_ ?_<;>intro h5 q5
 refine ac ?_
 refine wk [54,1] rfl ?_
 refine a2 ?_
 · exact FX
 refine ag ?_ ?_<;>intro h6 q6
 refine ac ?_
 refine wk [54,1] rfl ?_
 refine a2 ?_
 · exact FX
 refine ag ?_ ?_<;>intro h7 q7
 refine ac ?_
 refine wk [54,1] rfl ?_
 refine a2 ?_
 · exact FX
 refine ag ?_ ?_<;>intro h8 q8
 refine ac ?_
 refine wk [54,1] rfl ?_
 refine a2 ?_
 · exact FX
 refine ag ?_ ?_<;>intro h9 q9
 refine ac ?_
 refine wk [54,1] rfl ?_
 refine a2 ?_
 · exact FX
 obtain ⟨c0,hc0⟩:=at_ (l:=x.links) (k:=0) AA
 have bD:=getD_at (d:=D5) hc0
 refine ac ?_
 refine cy h9 rfl (AD rfl underlying84 E3 vq vq AA (Ak (k:=0) hc0)) ?_
 refine ac ?_
 refine wk [54,1] rfl ?_
 refine Tr.cn rfl ?_ ?_<;>intro h10 SH
 refine a2 ?_
 · exact TW
 refine Tr.skip ?_
 exact Fin.AQ () ⟨⟨by simp_all,by omega,by omega,by omega⟩,by omega,by omega,by rw [bD];omega,by omega⟩ kz
 refine ag ?_ ?_<;>intro h11 T8
 refine ac ?_
 refine wk [54,1] rfl ?_
 refine a2 ?_
 · exact FX
 refine ag ?_ ?_<;>intro h12 Ws
 refine ac ?_
 refine wk [54,1] rfl ?_
 refine a2 ?_
 · exact FX
 refine ag ?_ ?_<;>intro Mo Xh
 refine ac ?_
 refine wk [54,1] rfl ?_
 refine a2 ?_
 · exact FX
 refine ag ?_ ?_<;>intro Lh ec
 refine ac ?_
 refine wk [54,1] rfl ?_
 refine a2 ?_
 · exact FX
 refine ag ?_ ?_<;>intro TE hO
 refine ac ?_
 refine wk [54,1] rfl ?_
 refine a2 ?_
 · exact FX
 obtain ⟨c0,hc0⟩:=at_ (l:=x.links) (k:=0) AA
 have bD:=getD_at (d:=D5) hc0
 refine ac ?_
 refine cy TE rfl (AD rfl underlying84 E3 vq vq AA (Ak (k:=0) hc0)) ?_
 refine ac ?_
 refine wk [54,1] rfl ?_
 refine Tr.cn rfl ?_ ?_<;>intro h16 kT
 refine a2 ?_
 · exact TW
 refine Tr.skip ?_
 exact Fin.AQ () ⟨⟨by simp_all,by omega,by omega,by omega⟩,by omega,by omega,by rw [bD];omega,by omega⟩ kz
 obtain ⟨⟨hq1,Rk,dB,hq4⟩,hq5,hq6,hq7,hq8⟩:=hpre
 refine ac ?_
 refine Tr.block (Tr.Bc _ (kk [1] rfl) (fun k:Nat=>[(3,int ((k:Nat):Int))]) (fun k:Nat=>k≤(x.links).length∧(∀j,j<k→EX x.links j=true)) (fun k:Nat=>(x.links).length-k) 0 (⟨Nat.zero_le _,fun j hj=>absurd hj AA⟩) kz ?_)
 rintro k ⟨Be,AU⟩
 refine an ?_ ?_<;>intro Oj dU
 have Ae:k<(x.links).length:=AV Oj
 obtain ⟨c,Af⟩:=at_ Ae
 have hg:=getD_at (d:=D5) Af
 refine a2 ?_
 refine co rfl (AD rfl underlying84 E3 vq vq AA (Ak Af)) ?_
 refine ac ?_
 refine co rfl (Bn (Ks) rfl rfl) ?_
 refine ag ?_ ?_<;>intro PI jw
 refine ac ?_
 refine wk [107,3,1] rfl ?_
 refine a2 ?_
 · exact Ov
 refine ac ?_
 refine cy PI rfl (AD rfl underlying84 E3 vq vq AA (Ak Af)) ?_
 refine ag ?_ ?_<;>intro bI q19
 refine ac ?_
 refine wk [107,3,1] rfl ?_
 refine a2 ?_
 · exact Ov
 refine ac ?_
 refine cy bI rfl (AD rfl underlying84 E3 vq vq AA (Ak Af)) ?_
 refine ag ?_ ?_<;>intro Ol q20
 refine ac ?_
 refine wk [107,3,1] rfl ?_
 refine a2 ?_
 · exact Ov
 refine ag ?_ ?_<;>intro ZC q21
 have hk0:0<k:=by simpa using ZC
 obtain ⟨y,hy⟩:=at_ (l:=x.links) (k:=k-1) AA
 have JW:=getD_at (d:=D5) hy
 · repeat' first|(refine int_eq (if_neg (fun hv=> ?_)).symm;have ok:=Et.1 hv;have o1:=ok.name;have o2:=ok.kind;have o3:=ok.p1;have o4:=ok.p4;have o5:=ok.l1;have o6:=ok.l8;have o7:=ok.u0;have o8:=ok.u1;(have h_:=ok.lnk k AA;unfold EX at h_;rw [hg,JW] at h_;simp_all;omega))|(exact Fin.AQ (k+1) ⟨⟨Ae,Bo AU (by unfold EX;rw [hg,JW];simp_all)⟩,by omega⟩ ⟨⟨_,rfl,AO k⟩,kz⟩)|(refine cy ZC rfl (AD rfl underlying84 E3 vq vq AA Eu) ?_)|refine cy ZC rfl (AD rfl underlying84 E3 vq vq AA (Ak Af)) ?_|refine ac ?_|(refine Tr.cn rfl ?_ ?_<;>intro h q)
 have IJ:¬0<k:=by simpa using ZC
 refine ac ?_
 refine wk [107,3,1] rfl ?_
 refine a2 ?_
 exact Fin.AQ (k+1) ⟨⟨Ae,Bo AU (by unfold EX;rw [hg];simp_all)⟩,by omega⟩ ⟨⟨_,rfl,AO k⟩,kz⟩
 have BM:k=(x.links).length:=by have:=AW Oj;omega
 subst BM
 refine a3 ?_
 · refine int_eq (if_pos (Et.2 ⟨hq1,Rk,dB,hq4,hq5,hq6,AU,by omega,by omega⟩)).symm
theorem aB {l:List OQ}:Ay prog 113 [Es l,int ((n:Nat):Int)] (bool (HG n l)):=by
 refine fo func113 rfl ⟨rfl,rfl⟩ fun M0 w0=>(Tr.Ed 0 rfl fun Fh=> ?_)
 refine ac ?_
 refine ac ?_
 refine Tr.block (Tr.Bc _ (kk [8,7,1,0] rfl) (fun k:Nat=>[(9,int ((k:Nat):Int))]) (fun k:Nat=>k≤(l).length∧(∀j,j<k→Cl n l j=true)) (fun k:Nat=>(l).length-k) 0 (⟨Nat.zero_le _,fun j hj=>absurd hj AA⟩) kz ?_)
 rintro k ⟨Be,AU⟩
 refine ac ?_
 refine Tr.seq ?_
 refine Tr.cn rfl ?_ ?_<;>intro h1 q1
 have Ae:k<(l).length:=AV h1
 obtain ⟨c,Af⟩:=at_ Ae
 have hg:=getD_at (d:=Fx) Af
 refine ac ?_
 refine ao ?_
 refine tp rfl (AD rfl underlying29 Ig vq vq AA (Ak Af)) (tp rfl (AX rfl VT Ig vq rfl rfl) ?_)
 refine Tl rfl rfl rfl rfl lq bw (fun b1=> ?_)
 refine tm rfl ?_
 refine sf 0 6 ⟨rfl,rfl,rfl⟩ rfl rfl rfl rfl ?_
 refine ao ?_
 refine ac ?_
 refine Ch.cs 17 rfl ?_ ?_<;>intro h2 q2
 refine ac ?_
 refine wk [40,9,8,7,6,5,1,0] rfl ?_
 refine ac ?_
 refine ac ?_
 · exact Pz
 refine ac ?_
 refine Ch.cs 23 rfl ?_ ?_<;>intro h3 q3
 refine ac ?_
 refine wk [40,9,8,7,6,5,1,0] rfl ?_
 refine ac ?_
 refine ac ?_
 · exact Pz
 refine ac ?_
 refine Ch.cs 28 rfl ?_ ?_<;>intro h4 q4
 refine ac ?_
 refine wk [40,9,8,7,6,5,1,0] rfl ?_
 refine ac ?_
 refine ac ?_
 · exact Pz
 refine ac ?_
 refine Ch.cs 34 rfl ?_ ?_<;>intro h5 q5
 refine ac ?_
 refine wk [40,9,8,7,6,5,1,0] rfl ?_
 refine ac ?_
 refine ac ?_
 · exact Pz
 refine ac ?_
 refine wk [40,9,8,7,6,5,1,0] rfl ?_
 refine Tr.cn rfl ?_ ?_<;>intro h6 q6
 refine ac ?_
 refine ac ?_
 · refine bool_eq ?_;unfold HG;rw [Dz (p:=Cl n l) (k:=k) AA QK];rfl
 refine ac ?_
 refine ac ?_
 refine Ch.cs 43 rfl ?_ ?_<;>intro h7 q7
 have hk0:0<k:=by simpa using h7
 obtain ⟨y,hy⟩:=at_ (l:=l) (k:=k-1) AA
 have JW:=getD_at (d:=Fx) hy
 refine ac ?_
 refine cy h7 rfl (AD rfl underlying29 Ig vq vq AA Eu) ?_
 refine ac ?_
 refine Ch.cs 53 rfl ?_ ?_<;>intro h8 q8
 refine ac ?_
 refine wk [75,9,8,7,1,0] rfl ?_
 refine ac ?_
 refine ac ?_
 · exact X1
 refine ac ?_
 refine cy h8 rfl (AD rfl underlying29 Ig vq vq AA Eu) ?_
 refine ac ?_
 refine Ch.cs 63 rfl ?_ ?_<;>intro h9 q9
 refine ac ?_
 refine cy h9 rfl (AD rfl underlying29 Ig vq vq AA Eu) ?_
 refine ac ?_
 refine wk [75,9,8,7,1,0] rfl ?_
 refine Tr.cn rfl ?_ ?_<;>intro h10 SH
 refine ac ?_
 refine ac ?_
 · exact X1
 refine ac ?_
 refine ac ?_
 exact Fin.AQ (k+1) ⟨⟨Ae,Bo AU (by unfold Cl;rw [hg,JW];simp_all)⟩,by omega⟩ ⟨⟨_,rfl,AO k⟩,kz⟩
 refine ac ?_
 refine wk [75,9,8,7,1,0] rfl ?_
 refine ac ?_
 refine ac ?_
 exact Fin.AQ (k+1) ⟨⟨Ae,Bo AU U4⟩,by omega⟩ ⟨⟨_,rfl,AO k⟩,kz⟩
 have IJ:¬0<k:=by simpa using h7
 refine ac ?_
 refine wk [75,9,8,7,1,0] rfl ?_
 refine ac ?_
 refine ac ?_
 exact Fin.AQ (k+1) ⟨⟨Ae,Bo AU QK⟩,by omega⟩ ⟨⟨_,rfl,AO k⟩,kz⟩
 have BM:k=(l).length:=by have:=AW h1;omega
 subst BM
 refine ac ?_
 refine ac ?_
 refine ac ?_
 · refine bool_eq ?_;unfold HG;rw [Il AU,Bool.true_and,decide_eq_decide];omega
structure EA where
 Aw:List CO
 BI:List OQ
 items:List LA
 deriving DecidableEq
abbrev Bs (e:EA):List Pr:=[w9 e.Aw,Es e.BI,I2 e.items]
abbrev Bq:EA:=⟨[],[],[]⟩
structure EA.fits (e:EA):Prop where
 Aw:∀x∈e.Aw,x.fits∧x.small
 items:∀x∈e.items,x.name.length≤maxLen
 le:e.Aw.length≤1000000000000
 lg:e.BI.length≤1000000000000
 li:e.items.length≤1000000000000
def Ji (l:List CO) (i:Nat):Bool:=CA (l[i]?.getD BR)&&(decide (i=0)||decide (Lib.compareBytes (l[i-1]?.getD BR).name (l[i]?.getD BR).name= -1))
def El (e:EA):Bool:=(allI (Ji e.Aw) e.Aw.length&&decide (e.Aw.length≤16))&&HG e.Aw.length e.BI&&(e.items.all Fy&&decide (e.items.length≤30))
structure iD (e:EA):Prop where
 ep:∀j,j<e.Aw.length→Ji e.Aw j=true
 e16:e.Aw.length≤16
 ed:∀j,j<e.BI.length→Cl e.Aw.length e.BI j=true
 nC:e.BI.length≤40
 it:e.items.all Fy=true
 i30:e.items.length≤30
theorem EP {e:EA}:El e=true↔iD e:=by
 unfold El HG
 simp only [Bool.and_eq_true,decide_eq_true_eq,Br]
 exact ⟨fun ⟨⟨⟨h1,h2⟩,h3,h4⟩,h5,h6⟩=>⟨h1,h2,h3,h4,h5,h6⟩,fun h=>⟨⟨⟨h.ep,h.e16⟩,h.ed,h.nC⟩,h.it,h.i30⟩⟩
theorem Oy {e:EA} (h:iD e):HG e.Aw.length e.BI=true:=by unfold HG;simp only [Bool.and_eq_true,decide_eq_true_eq,Br];exact ⟨h.ed,h.nC⟩
theorem kg {x:LA} (hx:x.name.length≤maxLen):Ay prog 111 [agg (Fl x)] (bool (!Fy x)):=by
 refine fo func111 rfl ⟨rfl,rfl⟩ fun M0 w0=> ?_
 refine a2 ?_
 refine co rfl (Bn (XD hx) rfl rfl) ?_
 refine a2 ?_
 · refine bool_eq ?_;cases h_:Fy x<;>simp_all
theorem kj:Entry Tryz.prog 111:=⟨_,Tryz.func111,rfl,rfl⟩
theorem fK {α:Type} {g:α→LA} {l:List α} {p:α→Bool}  :Ay prog 184 [slice 5 (l.map fun x=>Fl (g x)),VG prog (fun x:α=>[agg (Fl (g x))]) (fun x=>bool (p x))] (int (idx p l)):=by
 refine fo func184 rfl ⟨rfl,rfl⟩ fun M0 w0=>(Tr.Ed 0 rfl fun Fh=> ?_)
 refine a2 ?_
 refine Tr.block (Tr.Bc _ (kk [7,1,0] rfl) (fun k:Nat=>[(8,int ((k:Nat):Int))]) (fun k:Nat=>k≤(l).length∧(∀j y,j<k→l[j]? =some y→p y=false)) (fun k:Nat=>(l).length-k) 0 (⟨Nat.zero_le _,fun j y hj=>absurd hj AA⟩) kz ?_)
 rintro k ⟨Be,AU⟩
 refine ac ?_
 refine Tr.seq ?_
 refine Tr.cn rfl ?_ ?_<;>intro h1 q1
 have Ae:k<(l).length:=AV h1
 obtain ⟨x,Af⟩:=at_ Ae
 · repeat' first|exact int_eq (FN Af DE AU)|exact Fin.AQ (k+1) ⟨⟨Ae,Dc Af DE AU⟩,by omega⟩ ⟨⟨_,rfl,AO k⟩,kz⟩|refine co rfl (AD rfl underlying30 GJ vq vq AA DP) ?_|refine co rfl (AX rfl Nt GJ vq rfl rfl) (co rfl (Gz x rfl vq kz) ?_)|refine ac ?_|(refine Tr.cn rfl ?_ ?_<;>intro h q)
 have BM:k=(l).length:=by have:=AW h1;omega
 subst BM
 refine a3 ?_
 · exact MZ
theorem fL {α:Type} {g:α→LA} {l:List α} {p:α→Bool}  :Ay prog 110 [slice 5 (l.map fun x=>Fl (g x)),VG prog (fun x:α=>[agg (Fl (g x))]) (fun x=>bool (p x))] (bool (l.any p)):=by
 refine fo func110 rfl ⟨rfl,rfl⟩ fun M0 w0=> ?_
 refine a2 ?_
 refine co rfl (Cb (fK) rfl rfl rfl) ?_
 refine a2 ?_
 · exact bool_eq (Kr p l)
theorem UZ {l:List LA} (h:∀x∈l,x.name.length≤maxLen):∃m:List {x:LA//x.name.length≤maxLen},(m.map fun x=>Fl x.1)=l.map Fl∧(m.any fun x=> !Fy x.1)= !l.all Fy:=by
 refine ⟨l.attach.map fun x=>⟨x.1,h x.1 x.2⟩,?_,?_⟩
 · rw [List.map_map];exact List.attach_map_val (f:=Fl) ▸ rfl
 ·
  rw [←Vi,List.any_map]
  show (l.attach.any fun x=> !Fy x.1)=_
  rw [Bool.eq_iff_iff];simp
theorem GV {e:EA} (hf:e.fits):Ay prog 64 [agg (Bs e)] (int (if El e then 0 else 31)):=by
 refine fo func64 rfl ⟨rfl,rfl⟩ fun M0 w0=> ?_
 have hl1:=hf.le
 have bC:=hf.lg
 have mw:=hf.li
 obtain ⟨mi,xB,iQ⟩:=UZ hf.items
 refine ac ?_
 refine ac ?_
 refine Tr.block (Tr.Bc _ (kk [8,7,1] rfl) (fun k:Nat=>[(9,int ((k:Nat):Int))]) (fun k:Nat=>k≤(e.Aw).length∧(∀j,j<k→Ji e.Aw j=true)) (fun k:Nat=>(e.Aw).length-k) 0 (⟨Nat.zero_le _,fun j hj=>absurd hj AA⟩) kz ?_)
 rintro k ⟨Be,AU⟩
 refine ac ?_
 refine Tr.seq ?_
 refine Tr.cn rfl ?_ ?_<;>intro h1 q1
 have Ae:k<(e.Aw).length:=AV h1
 obtain ⟨x,Af⟩:=at_ Ae
 have hg:=getD_at (d:=BR) Af
 have hxf:=hf.Aw x (List.mem_of_getElem? Af)
 refine ac ?_
 refine ao ?_
 refine tp rfl (AD rfl underlying28 Ba vq vq AA (Ak Af)) (tp rfl (AX rfl Bv Ba vq rfl rfl) ?_)
 refine Tl rfl rfl rfl rfl G7 Dn (fun b1=> ?_)
 refine tm rfl ?_
 refine sf 0 4 ⟨rfl,rfl,rfl⟩ rfl rfl rfl rfl ?_
 refine ao ?_
 refine ac ?_
 refine co rfl (Bn (DW hxf.1) rfl rfl) ?_
 refine ac ?_
 refine Ch.cs 17 rfl ?_ ?_<;>intro h2 q2
 refine ac ?_
 refine wk [32,9,8,7,1] rfl ?_
 refine ac ?_
 refine ac ?_
 · exact X0
 refine ac ?_
 refine Ch.cs 20 rfl ?_ ?_<;>intro h3 q3
 have hk0:0<k:=by simpa using h3
 obtain ⟨y,hy⟩:=at_ (l:=e.Aw) (k:=k-1) AA
 have JW:=getD_at (d:=BR) hy
 refine ac ?_
 refine cy h3 rfl (AD rfl underlying28 Ba vq vq AA Eu) ?_
 refine ac ?_
 refine cy h3 rfl (J0 rfl vq vq) ?_
 refine ac ?_
 refine wk [32,9,8,7,1] rfl ?_
 refine Tr.cn rfl ?_ ?_<;>intro h4 q4
 refine ac ?_
 refine ac ?_
 · exact Xy
 refine ac ?_
 refine ac ?_
 exact Fin.AQ (k+1) ⟨⟨Ae,Bo AU (by unfold Ji;rw [hg,JW];simp_all)⟩,by omega⟩ ⟨⟨_,rfl,AO k⟩,kz⟩
 have IJ:¬0<k:=by simpa using h3
 refine ac ?_
 refine wk [32,9,8,7,1] rfl ?_
 refine ac ?_
 refine ac ?_
 exact Fin.AQ (k+1) ⟨⟨Ae,Bo AU (by unfold Ji;rw [hg];simp_all)⟩,by omega⟩ ⟨⟨_,rfl,AO k⟩,kz⟩
 have BM:k=(e.Aw).length:=by have:=AW h1;omega
 subst BM
 have aC:=AU
 refine ac ?_
 refine ac ?_
 refine co rfl (Ad rfl (fL (g:=fun x:{x:LA//x.name.length≤maxLen}=>x.1) (l:=mi) (p:=fun x=> !Fy x.1)) ⟨⟨_,rfl,Pr.le_of_eq (by rw [xB])⟩,⟨_,rfl,FJ (dom:=fun x:{x:LA//x.name.length≤maxLen}=>[agg (Fl x.1)]) (res:=fun x=>bool (!Fy x.1)) kj (fun x=>kg x.2)⟩,trivial⟩) ?_
 refine ac ?_
 refine ac ?_
 refine Ch.cs 38 rfl ?_ ?_<;>intro h5 q5
 refine ac ?_
 refine wk [58] rfl ?_
 refine ac ?_
 refine ac ?_
 · exact Xt
 refine ac ?_
 refine Ch.cs 44 rfl ?_ ?_<;>intro h6 q6
 refine ac ?_
 refine wk [58] rfl ?_
 refine ac ?_
 refine ac ?_
 · exact NK
 refine ac ?_
 refine Ch.cs 50 rfl ?_ ?_<;>intro h7 q7
 refine ac ?_
 refine wk [58] rfl ?_
 refine ac ?_
 refine ac ?_
 · exact NK
 refine ac ?_
 refine cy h7 rfl (Cb (aB (l:=e.BI) (n:=e.Aw.length)) rfl rfl rfl) ?_
 refine ac ?_
 refine wk [58] rfl ?_
 refine Tr.cn rfl ?_ ?_<;>intro h8 q8
 refine ac ?_
 refine ac ?_
 · exact Xt
 refine ac ?_
 refine ac ?_
 refine ac ?_
 · refine int_eq (if_pos ?_).symm;unfold El;simp_all [Br];omega
theorem OR {e:EA} (hf:e.fits):Ay prog 39 [agg (Bs e)] (int (if El e then 0 else 31)):=by
 refine fo func39 rfl ⟨rfl,rfl⟩ fun M0 w0=> ?_
 have hl1:=hf.le
 have bC:=hf.lg
 have mw:=hf.li
 refine ac ?_
 refine ac ?_
 refine Ch.cs 11 rfl ?_ ?_<;>intro h1 q1
 refine ac ?_
 refine wk [22,1] rfl ?_
 refine ac ?_
 refine ac ?_
 · exact NK
 refine ac ?_
 refine Ch.cs 17 rfl ?_ ?_<;>intro h2 q2
 refine ac ?_
 refine wk [22,1] rfl ?_
 refine ac ?_
 refine ac ?_
 · exact NK
 refine ac ?_
 refine wk [22,1] rfl ?_
 refine Tr.cn rfl ?_ ?_<;>intro h3 q3
 refine ac ?_
 refine ac ?_
 · exact NK
 refine ac ?_
 refine ac ?_
 refine Tr.block (Tr.Bc _ (kk [1] rfl) (fun k:Nat=>[(3,int ((k:Nat):Int))]) (fun k:Nat=>k≤(e.Aw).length∧(∀j,j<k→Ji e.Aw j=true)) (fun k:Nat=>(e.Aw).length-k) 0 (⟨Nat.zero_le _,fun j hj=>absurd hj AA⟩) kz ?_)
 rintro k ⟨Be,AU⟩
 refine ac ?_
 refine Tr.cn rfl ?_ ?_<;>intro h4 q4
 have Ae:k<(e.Aw).length:=AV h4
 obtain ⟨x,Af⟩:=at_ Ae
 have hg:=getD_at (d:=BR) Af
 have hxf:=hf.Aw x (List.mem_of_getElem? Af)
 refine ac ?_
 refine ac ?_
 refine co rfl (AD rfl underlying28 Ba vq vq AA (Ak Af)) (co rfl (AX rfl Bv Ba vq rfl rfl) (co rfl (Bn (Ln hxf.2) rfl rfl) ?_))
 refine ac ?_
 refine Ch.cs 37 rfl ?_ ?_<;>intro h5 q5
 refine ac ?_
 refine wk [56,3,1] rfl ?_
 refine ac ?_
 refine ac ?_
 · exact X0
 refine ac ?_
 refine Ch.cs 40 rfl ?_ ?_<;>intro h6 q6
 have hk0:0<k:=by simpa using h6
 obtain ⟨y,hy⟩:=at_ (l:=e.Aw) (k:=k-1) AA
 have JW:=getD_at (d:=BR) hy
 refine ac ?_
 refine cy h6 rfl (AD rfl underlying28 Ba vq vq AA Eu) ?_
 refine ac ?_
 refine cy h6 rfl (AD rfl underlying28 Ba vq vq AA (Ak Af)) ?_
 refine ac ?_
 refine cy h6 rfl (J0 rfl vq vq) ?_
 refine ac ?_
 refine wk [56,3,1] rfl ?_
 refine Tr.cn rfl ?_ ?_<;>intro h7 q7
 refine ac ?_
 refine ac ?_
 · exact Xy
 refine ac ?_
 refine ac ?_
 exact Fin.AQ (k+1) ⟨⟨Ae,Bo AU (by unfold Ji;rw [hg,JW];simp_all)⟩,by omega⟩ ⟨⟨_,rfl,AO k⟩,kz⟩
 have IJ:¬0<k:=by simpa using h6
 refine ac ?_
 refine wk [56,3,1] rfl ?_
 refine ac ?_
 refine ac ?_
 exact Fin.AQ (k+1) ⟨⟨Ae,Bo AU (by unfold Ji;rw [hg];simp_all)⟩,by omega⟩ ⟨⟨_,rfl,AO k⟩,kz⟩
 have BM:k=(e.Aw).length:=by have:=AW h4;omega
 subst BM
 have aC:=AU
 refine ac ?_
 refine ac ?_
 refine Tr.block (Tr.Bc _ (kk [1] rfl) (fun m:Nat=>[(4,int ((m:Nat):Int))]) (fun m:Nat=>m≤(e.BI).length∧(∀j,j<m→Cl e.Aw.length e.BI j=true)) (fun m:Nat=>(e.BI).length-m) 0 (⟨Nat.zero_le _,fun j hj=>absurd hj AA⟩) kz ?_)
 rintro m ⟨V1,Gv⟩
 refine ac ?_
 refine Tr.cn rfl ?_ ?_<;>intro h8 q8
 have JV:m<(e.BI).length:=AV h8
 obtain ⟨c,Fv⟩:=at_ JV
 have hg:=getD_at (d:=Fx) Fv
 refine ac ?_
 refine ao ?_
 refine tp rfl (AD rfl underlying29 Ig vq vq AA (Ak Fv)) (tp rfl (AX rfl VT Ig vq rfl rfl) ?_)
 refine Tl rfl rfl rfl rfl lq bw (fun b1=> ?_)
 refine sf 0 5 ⟨rfl,rfl,rfl⟩ rfl rfl rfl rfl ?_
 refine ao ?_
 refine wk [5,4,1] rfl ?_
 refine ac ?_
 refine Ch.cs 72 rfl ?_ ?_<;>intro h9 q9
 refine ac ?_
 refine wk [99,5,4,1] rfl ?_
 refine ac ?_
 refine ac ?_
 · exact Pv
 refine ac ?_
 refine Ch.cs 80 rfl ?_ ?_<;>intro h10 SH
 refine ac ?_
 refine wk [99,5,4,1] rfl ?_
 refine ac ?_
 refine ac ?_
 · exact Pv
 refine ac ?_
 refine Ch.cs 85 rfl ?_ ?_<;>intro h11 T8
 refine ac ?_
 refine wk [99,5,4,1] rfl ?_
 refine ac ?_
 refine ac ?_
 · exact Pv
 refine ac ?_
 refine Ch.cs 93 rfl ?_ ?_<;>intro h12 Ws
 refine ac ?_
 refine wk [99,5,4,1] rfl ?_
 refine ac ?_
 refine ac ?_
 · exact Pv
 refine ac ?_
 refine wk [99,5,4,1] rfl ?_
 refine Tr.cn rfl ?_ ?_<;>intro Mo Xh
 refine ac ?_
 refine ac ?_
 · refine int_eq (if_neg (fun hv=> ?_)).symm;have ok:=EP.1 hv;(have h_:=ok.ed m AA;unfold Cl at h_;rw [hg] at h_;simp_all)
 refine ac ?_
 refine ac ?_
 refine Ch.cs 102 rfl ?_ ?_<;>intro Lh ec
 have hk0:0<m:=by simpa using Lh
 obtain ⟨y,hy⟩:=at_ (l:=e.BI) (k:=m-1) AA
 have JW:=getD_at (d:=Fx) hy
 refine ac ?_
 refine cy Lh rfl (AD rfl underlying29 Ig vq vq AA Tc) ?_
 refine ac ?_
 refine Ch.cs 113 rfl ?_ ?_<;>intro TE hO
 refine ac ?_
 refine wk [137,4,1] rfl ?_
 refine ac ?_
 refine ac ?_
 · exact Xw
 refine ac ?_
 refine cy TE rfl (AD rfl underlying29 Ig vq vq AA Tc) ?_
 refine ac ?_
 refine Ch.cs 124 rfl ?_ ?_<;>intro h16 kT
 refine ac ?_
 refine cy h16 rfl (AD rfl underlying29 Ig vq vq AA Tc) ?_
 refine ac ?_
 refine wk [137,4,1] rfl ?_
 refine Tr.cn rfl ?_ ?_<;>intro Oj dU
 refine ac ?_
 refine ac ?_
 · exact Xw
 refine ac ?_
 refine ac ?_
 exact Fin.AQ (m+1) ⟨⟨JV,Bo Gv (by unfold Cl;rw [hg,JW];simp_all)⟩,by omega⟩ ⟨⟨_,rfl,AO m⟩,kz⟩
 refine ac ?_
 refine wk [137,4,1] rfl ?_
 refine ac ?_
 refine ac ?_
 exact Fin.AQ (m+1) ⟨⟨JV,Bo Gv U4⟩,by omega⟩ ⟨⟨_,rfl,AO m⟩,kz⟩
 have IJ:¬0<m:=by simpa using Lh
 refine ac ?_
 refine wk [137,4,1] rfl ?_
 refine ac ?_
 refine ac ?_
 exact Fin.AQ (m+1) ⟨⟨JV,Bo Gv QK⟩,by omega⟩ ⟨⟨_,rfl,AO m⟩,kz⟩
 have RT:m=(e.BI).length:=by have:=AW h8;omega
 subst RT
 refine ac ?_
 refine ac ?_
 refine Tr.block (Tr.Bc _ (kk [1] rfl) (fun o:Nat=>[(6,int ((o:Nat):Int))]) (fun o:Nat=>o≤(e.items).length∧(∀j y,j<o→e.items[j]? =some y→(!Fy y)=false)) (fun o:Nat=>(e.items).length-o) 0 (⟨Nat.zero_le _,fun j y hj=>absurd hj AA⟩) kz ?_)
 rintro o ⟨iC,GU⟩
 refine ac ?_
 refine Tr.cn rfl ?_ ?_<;>intro PI jw
 have RU:o<(e.items).length:=AV PI
 obtain ⟨x,LG⟩:=at_ RU
 refine ac ?_
 refine ac ?_
 refine co rfl (AD rfl underlying30 GJ vq vq AA (Ak LG)) (co rfl (AX rfl Nt GJ vq rfl rfl) (co rfl (Bn (UY) rfl rfl) ?_))
 refine ac ?_
 refine wk [151,6,1] rfl ?_
 refine Tr.cn rfl ?_ ?_<;>intro bI q19
 refine ac ?_
 refine ac ?_
 · refine int_eq (if_neg (fun hv=> ?_)).symm;have ok:=EP.1 hv;(have h_:=List.all_eq_true.1 ok.it x (List.mem_of_getElem? LG);simp_all)
 refine ac ?_
 refine ac ?_
 exact Fin.AQ (o+1) ⟨⟨RU,Dc (p:=fun c=> !Fy c) LG Cc GU⟩,by omega⟩ ⟨⟨_,rfl,AO o⟩,kz⟩
 have Z_:o=(e.items).length:=by have:=AW PI;omega
 subst Z_
 have hall:=E5 GU
 refine ac ?_
 refine ac ?_
 refine ac ?_
 · refine int_eq (if_pos (EP.2 ⟨aC,by omega,Gv,by omega,hall,by omega⟩)).symm
theorem ry {x0 y0:Int} {x1 y1:Int}:(Op.equalIn (d+2) 83 (.agg #[.int .i64 x0,.int .i64 x1]) (.agg #[.int .i64 y0,.int .i64 y1])).run Tryz.prog w= .ok (decide (x0=y0∧x1=y1)) w:=by
 have h:=eqS (w:=w) (d:=d+1) (xs:= #[.int .i64 x0,.int .i64 x1]) (ys:= #[.int .i64 y0,.int .i64 y1]) Tryz.underlying83 BD (Ff AB (Ck C1 rfl) (Ck C1 rfl) (HW (d:=d+0) Tryz.underlying3) (Ff AB (Ck C1 rfl) (Ck C1 rfl) (HW (d:=d+0) Tryz.underlying3) (Mm)))
 refine h.trans (congrArg (fun b=>Result.ok b w) ?_)
 rw [Bool.eq_iff_iff];simp [and_assoc]
theorem fM {u:TypeId} {x y:Operand} {x0 y0:Int} {x1 y1:Int} (ho:o.op= .binOp .neq 83 x y u) (hx:VL E x (agg [is (.int .i64 x0),is (.int .i64 x1)])) (hy:VL E y (agg [is (.int .i64 y0),is (.int .i64 y1)])):Ab Tryz.prog I o E (bool (!decide (x0=y0∧x1=y1))):=
 Kl [.int .i64 x0,.int .i64 x1] [.int .i64 y0,.int .i64 y1] ho hx hy BD (fun w=>by rw [show Op.equal 83 _ _=Op.equalIn (9998+2) 83 _ _ from rfl];exact ry)
theorem ko {x0 y0:Int} {x1 y1:Int} {x2 y2:Int}:(Op.equalIn (d+3) 134 (.agg #[.int .i64 x0,.int .i64 x1,.int .i64 x2]) (.agg #[.int .i64 y0,.int .i64 y1,.int .i64 y2])).run Tryz.prog w= .ok (decide (x0=y0∧x1=y1∧x2=y2)) w:=by
 have h:=eqS (w:=w) (d:=d+2) (xs:= #[.int .i64 x0,.int .i64 x1,.int .i64 x2]) (ys:= #[.int .i64 y0,.int .i64 y1,.int .i64 y2]) Tryz.underlying134 BD (Ff AB (R_ CG DH rfl) (R_ CG DH rfl) (Y9 (d:=d+0) (w:=w)) (Ff AB (Ck C1 rfl) (Ck C1 rfl) (HW (d:=d+1) Tryz.underlying3) (Mm)))
 refine h.trans (congrArg (fun b=>Result.ok b w) ?_)
 rw [Bool.eq_iff_iff];simp [and_assoc]
theorem aD {u:TypeId} {x y:Operand} {x0 y0:Int} {x1 y1:Int} {x2 y2:Int} (ho:o.op= .binOp .neq 134 x y u) (hx:VL E x (agg [is (.int .i64 x0),is (.int .i64 x1),is (.int .i64 x2)])) (hy:VL E y (agg [is (.int .i64 y0),is (.int .i64 y1),is (.int .i64 y2)])):Ab Tryz.prog I o E (bool (!decide (x0=y0∧x1=y1∧x2=y2))):=
 Kl [.int .i64 x0,.int .i64 x1,.int .i64 x2] [.int .i64 y0,.int .i64 y1,.int .i64 y2] ho hx hy BD (fun w=>by rw [show Op.equal 134 _ _=Op.equalIn (9997+3) 134 _ _ from rfl];exact ko)
theorem Ot {a b:LA} (hl:a.links.length≤1000000000000):Ay prog 49 [agg (Fl a),agg (Fl b)] (bool (decide (a=b))):=by
 refine fo func49 rfl ⟨rfl,rfl⟩ fun M0 w0=> ?_
 refine ac ?_
 refine ag ?_ ?_<;>intro h1 q1
 refine ac ?_
 refine wk [40,3,2] rfl ?_
 refine a2 ?_
 · exact Cy
 refine ag ?_ ?_<;>intro h2 q2
 refine ac ?_
 refine wk [40,3,2] rfl ?_
 refine a2 ?_
 · exact Cy
 refine ag ?_ ?_<;>intro h3 q3
 refine ac ?_
 refine wk [40,3,2] rfl ?_
 refine a2 ?_
 · exact Cy
 refine ag ?_ ?_<;>intro h4 q4
 refine ac ?_
 refine wk [40,3,2] rfl ?_
 refine a2 ?_
 · exact Cy
 refine ac ?_
 refine wk [40,3,2] rfl ?_
 refine Tr.cn rfl ?_ ?_<;>intro h5 q5
 refine a2 ?_
 · exact Cy
 have NN:a.links.length=b.links.length:=by simp_all;omega
 refine a2 ?_
 refine Tr.block (Tr.Bc _ (kk [43,3,2] rfl) (fun k:Nat=>[(44,int ((k:Nat):Int))]) (fun k:Nat=>k≤(a.links).length∧(a.links.take k=b.links.take k)) (fun k:Nat=>(a.links).length-k) 0 (⟨Nat.zero_le _,rfl⟩) kz ?_)
 rintro k ⟨Be,AU⟩
 refine ac ?_
 refine Tr.seq ?_
 refine Tr.cn rfl ?_ ?_<;>intro h6 q6
 have Ae:k<(a.links).length:=AV h6
 obtain ⟨x,Af⟩:=at_ Ae
 obtain ⟨y,hy⟩:=at_ (l:=b.links) (k:=k) AA
 · repeat' first|(refine bool_eq ?_;symm;rw [decide_eq_false_iff_not];rintro rfl;simp_all)|(exact Fin.AQ (k+1) ⟨⟨Ae,Jf Af hy AU QM⟩,by omega⟩ ⟨⟨_,rfl,AO k⟩,kz⟩)|refine co rfl (AD rfl underlying84 E3 vq vq AA (Ak Af)) ?_|refine co rfl (AD rfl underlying84 E3 vq vq AA (Ak hy)) (co rfl (AX rfl Tu E3 vq rfl rfl) (co rfl (aD rfl vq vq) ?_))|refine ac ?_|(refine Tr.cn rfl ?_ ?_<;>intro h q)
 have BM:k=(a.links).length:=by have:=AW h6;omega
 subst BM
 refine a3 ?_
 · refine bool_eq ?_;have hnn:=NM NN AU;clear AU NN hl;cases a;cases b;simp_all
theorem XE {a b:EA} (hl1:a.Aw.length≤1000000000000) (bC:a.BI.length≤1000000000000) (mw:a.items.length≤1000000000000) (NR:∀x∈a.items,x.links.length≤1000000000000):Ay prog 21 [agg (Bs a),agg (Bs b)] (bool (decide (a=b))):=by
 refine fo func21 rfl ⟨rfl,rfl⟩ fun M0 w0=> ?_
 refine ac ?_
 refine ag ?_ ?_<;>intro h1 q1
 refine ac ?_
 refine wk [32,3,2] rfl ?_
 refine a2 ?_
 · exact Cy
 refine ag ?_ ?_<;>intro h2 q2
 refine ac ?_
 refine wk [32,3,2] rfl ?_
 refine a2 ?_
 · exact Cy
 refine ac ?_
 refine wk [32,3,2] rfl ?_
 refine Tr.cn rfl ?_ ?_<;>intro h3 q3
 refine a2 ?_
 · exact Cy
 have NN:a.Aw.length=b.Aw.length∧a.BI.length=b.BI.length∧a.items.length=b.items.length:=by simp_all;omega
 obtain ⟨xC,yC,yD⟩:=NN
 refine a2 ?_
 refine Tr.block (Tr.Bc _ (kk [35,3,2] rfl) (fun k:Nat=>[(36,int ((k:Nat):Int))]) (fun k:Nat=>k≤(a.Aw).length∧(a.Aw.take k=b.Aw.take k)) (fun k:Nat=>(a.Aw).length-k) 0 (⟨Nat.zero_le _,rfl⟩) kz ?_)
 rintro k ⟨Be,AU⟩
 refine ac ?_
 refine Tr.seq ?_
 refine Tr.cn rfl ?_ ?_<;>intro h4 q4
 have Ae:k<(a.Aw).length:=AV h4
 obtain ⟨x,Af⟩:=at_ Ae
 obtain ⟨y,hy⟩:=at_ (l:=b.Aw) (k:=k) AA
 · repeat' first|(refine bool_eq ?_;symm;rw [decide_eq_false_iff_not];rintro rfl;simp_all)|exact Fin.AQ (k+1) ⟨⟨Ae,Jf Af hy AU Cc⟩,by omega⟩ ⟨⟨_,rfl,AO k⟩,kz⟩|refine co rfl (AD rfl underlying28 Ba vq vq AA (Ak Af)) ?_|refine co rfl (AD rfl underlying28 Ba vq vq AA (Ak hy)) (co rfl (AX rfl Bv Ba vq rfl rfl) (co rfl (Cb (Zo) rfl rfl rfl) ?_))|refine ac ?_|(refine Tr.cn rfl ?_ ?_<;>intro h q)
 have BM:k=(a.Aw).length:=by have:=AW h4;omega
 subst BM
 have hnk:=NM AA AU
 refine a2 ?_
 refine Tr.block (Tr.Bc _ (kk [54,3,2] rfl) (fun m:Nat=>[(55,int ((m:Nat):Int))]) (fun m:Nat=>m≤(a.BI).length∧(a.BI.take m=b.BI.take m)) (fun m:Nat=>(a.BI).length-m) 0 (⟨Nat.zero_le _,rfl⟩) kz ?_)
 rintro m ⟨V1,Gv⟩
 refine ac ?_
 refine Tr.seq ?_
 refine Tr.cn rfl ?_ ?_<;>intro h6 q6
 have JV:m<(a.BI).length:=AV h6
 obtain ⟨x,Fv⟩:=at_ JV
 obtain ⟨y,hy⟩:=at_ (l:=b.BI) (k:=m) AA
 · repeat' first|(refine bool_eq ?_;symm;rw [decide_eq_false_iff_not];rintro rfl;simp_all)|(exact Fin.AQ (m+1) ⟨⟨JV,Jf Fv hy Gv QM⟩,by omega⟩ ⟨⟨_,rfl,AO m⟩,kz⟩)|refine co rfl (AD rfl underlying29 Ig vq vq AA (Ak Fv)) ?_|refine co rfl (AD rfl underlying29 Ig vq vq AA (Ak hy)) (co rfl (AX rfl VT Ig vq rfl rfl) (co rfl (fM rfl vq vq) ?_))|refine ac ?_|(refine Tr.cn rfl ?_ ?_<;>intro h q)
 have RT:m=(a.BI).length:=by have:=AW h6;omega
 subst RT
 have hnm:=NM AA Gv
 refine a2 ?_
 refine Tr.block (Tr.Bc _ (kk [72,3,2] rfl) (fun o:Nat=>[(73,int ((o:Nat):Int))]) (fun o:Nat=>o≤(a.items).length∧(a.items.take o=b.items.take o)) (fun o:Nat=>(a.items).length-o) 0 (⟨Nat.zero_le _,rfl⟩) kz ?_)
 rintro o ⟨iC,GU⟩
 refine ac ?_
 refine Tr.seq ?_
 refine Tr.cn rfl ?_ ?_<;>intro h8 q8
 have RU:o<(a.items).length:=AV h8
 obtain ⟨x,LG⟩:=at_ RU
 obtain ⟨y,hy⟩:=at_ (l:=b.items) (k:=o) AA
 have hxl:=NR x (List.mem_of_getElem? LG)
 · repeat' first|(refine bool_eq ?_;symm;rw [decide_eq_false_iff_not];rintro rfl;simp_all)|exact Fin.AQ (o+1) ⟨⟨RU,Jf LG hy GU Cc⟩,by omega⟩ ⟨⟨_,rfl,AO o⟩,kz⟩|refine co rfl (AD rfl underlying30 GJ vq vq AA (Ak LG)) ?_|refine co rfl (AD rfl underlying30 GJ vq vq AA (Ak hy)) (co rfl (AX rfl Nt GJ vq rfl rfl) (co rfl (Cb (Ot hxl) rfl rfl rfl) ?_))|refine ac ?_|(refine Tr.cn rfl ?_ ?_<;>intro h q)
 have Z_:o=(a.items).length:=by have:=AW h8;omega
 subst Z_
 have hno:=NM AA GU
 refine a3 ?_
 · refine bool_eq ?_;clear GU;cases a;cases b;simp_all
def setAt (n:Int) (l:List Int) (i:Nat):Bool:=decide (0≤l[i]?.getD 0)&&decide (l[i]?.getD 0<n)&&(decide (i=0)||decide (l[i-1]?.getD 0<l[i]?.getD 0))
def Ep (n:Int) (l:List Int):Bool:=allI (setAt n l) l.length
theorem Ua {n:Int}:Ay prog 40 [ints l,int n] (bool (Ep n l)):=by
 refine fo func40 rfl ⟨rfl,rfl⟩ fun M0 w0=>(Tr.Ed 0 rfl fun Fh=> ?_)
 refine a2 ?_
 refine Tr.block (Tr.Bc _ (kk [8,7,1,0] rfl) (fun k:Nat=>[(9,int ((k:Nat):Int))]) (fun k:Nat=>k≤(l).length∧(∀j,j<k→setAt n l j=true)) (fun k:Nat=>(l).length-k) 0 (⟨Nat.zero_le _,fun j hj=>absurd hj AA⟩) kz ?_)
 rintro k ⟨Be,AU⟩
 refine ac ?_
 refine Tr.seq ?_
 refine Tr.cn rfl ?_ ?_<;>intro h1 q1
 have Ae:k<(l).length:=AV h1
 obtain ⟨x,Af⟩:=at_ Ae
 have hg:=getD_at (d:=(0:Int)) Af
 refine a2 ?_
 refine co rfl (AD rfl underlying50 DC vq vq AA (Ak Af)) ?_
 refine ac ?_
 refine ag ?_ ?_<;>intro h2 q2
 refine ac ?_
 refine wk [33,9,8,7,1,0] rfl ?_
 refine a2 ?_
 · exact X3
 refine ag ?_ ?_<;>intro h3 q3
 refine ac ?_
 refine wk [33,9,8,7,1,0] rfl ?_
 refine a2 ?_
 · exact X3
 refine ag ?_ ?_<;>intro h4 q4
 have hk0:0<k:=by simpa using h4
 obtain ⟨y,hy⟩:=at_ (l:=l) (k:=k-1) AA
 have JW:=getD_at (d:=(0:Int)) hy
 · repeat' first|(refine bool_eq ?_;unfold Ep;rw [Dz (p:=setAt n l) (k:=k) AA (by unfold setAt;rw [hg,JW];simp_all;omega)])|(exact Fin.AQ (k+1) ⟨⟨Ae,Bo AU (by unfold setAt;rw [hg,JW];simp_all)⟩,by omega⟩ ⟨⟨_,rfl,AO k⟩,kz⟩)|(refine cy h4 rfl (AD rfl underlying50 DC vq vq AA Eu) ?_)|refine ac ?_|(refine Tr.cn rfl ?_ ?_<;>intro h q)
 have IJ:¬0<k:=by simpa using h4
 refine ac ?_
 refine wk [33,9,8,7,1,0] rfl ?_
 refine a2 ?_
 exact Fin.AQ (k+1) ⟨⟨Ae,Bo AU (by unfold setAt;rw [hg];simp_all)⟩,by omega⟩ ⟨⟨_,rfl,AO k⟩,kz⟩
 have BM:k=(l).length:=by have:=AW h1;omega
 subst BM
 refine a3 ?_
 · refine bool_eq ?_;unfold Ep;rw [Il AU]
theorem V2 {v:Int}:Ay prog 37 [ints l,int v] (bool (l.any fun x=>v==x)):=by
 refine fo func37 rfl ⟨rfl,rfl⟩ fun M0 w0=>(Tr.Ed 0 rfl fun Fh=> ?_)
 refine a2 ?_
 refine Tr.block (Tr.Bc _ (kk [8,7,1] rfl) (fun k:Nat=>[(9,int ((k:Nat):Int))]) (fun k:Nat=>k≤(l).length∧((l.take k).any (fun x=>v==x)=false)) (fun k:Nat=>(l).length-k) 0 (⟨Nat.zero_le _,rfl⟩) kz ?_)
 rintro k ⟨Be,AU⟩
 refine ac ?_
 refine Tr.seq ?_
 refine Tr.cn rfl ?_ ?_<;>intro h1 q1
 have Ae:k<(l).length:=AV h1
 obtain ⟨x,Af⟩:=at_ Ae
 refine ac ?_
 refine Tr.seq (Tr.block (Tr.seq (Tr.CL (co rfl (AD rfl underlying22 DC vq vq AA (Ak Af)) ?_))))
 · repeat' first|(refine bool_eq ?_;symm;rw [List.any_eq_true];exact ⟨_,List.mem_of_getElem? Af,by simp_all⟩)|(exact Fin.AQ (k+1) ⟨⟨Ae,VA⟩,by omega⟩ ⟨⟨_,rfl,AO k⟩,kz⟩)|refine ac ?_|(refine Tr.cn rfl ?_ ?_<;>intro h q)
 have BM:k=(l).length:=by have:=AW h1;omega
 subst BM
 refine a3 ?_
 · exact VE
structure EA.sz (e:EA) (n:Nat):Prop where
 Aw:∀x∈e.Aw,x.sz n
 items:∀x∈e.items,x.name.length≤maxLen∧x.links.length≤1000000
 le:e.Aw.length≤1000000
 lg:e.BI.length≤1000000
 li:e.items.length≤1000000
theorem EA.sz.fits {e:EA} (h:e.sz n) (hn:n≤1000000):e.fits:=
 ⟨fun x hx=>⟨(h.Aw x hx).fits,(h.Aw x hx).small hn⟩,fun x hx=>(h.items x hx).1,by have:=h.le;omega,by have:=h.lg;omega,by have:=h.li;omega⟩
theorem EA.sz.le_ {e:EA} (h:e.sz n) (hn:n≤m):e.sz m:=⟨fun x hx=>(h.Aw x hx).le hn,h.items,h.le,h.lg,h.li⟩
theorem V3 {β γ:Type} {f:β→γ} {l:List β} {x:β} (h:l[k]? =some x):(l.take k).map f++[f x]=(l.take (k+1)).map f:=by rw [List.take_add_one,h,List.map_append];rfl
theorem Pb {e:EA} (hz:e.sz n) (hn:n≤1000000):Im prog 44 [agg (Bs e)] (fun x=>agg [is x,Es e.BI,I2 e.items]) (fun x=>[Ac 79 9 (e.Aw.map Am) x]):=by
 refine Im.of func44 rfl rfl Ai fun M0 w0 S rs M1 w1=> ?_
 have hl1:=hz.le
 have bC:=hz.lg
 have mw:=hz.li
 refine Tr.seq (Tr.BL (tp rfl (BK rfl CS) ?_))
 refine Tl rfl rfl rfl rfl z32 F5 (fun b1=> ?_)
 refine ao ?_
 refine ao ?_
 refine tp rfl (Vf rfl underlying29 Ig jA lq rfl AB vq vq Py P3) ?_
 refine tp rfl (oD) ?_
 refine Tl rfl rfl rfl rfl z32 F5 (fun b2=> ?_)
 refine TO.Ap 0 rfl rfl rfl vq CS rfl DL rfl rfl ?_
 refine ao ?_
 refine ac ?_
 refine wk [16,15,14,3,2,1] rfl (Tr.block (Tr.JU 0 [Ao (.slice none 0 0) (lens ((e.Aw.take 0).map Am).length),Es e.BI,is (.slice none 0 0)] rfl ⟨Km rfl,Pr.le_of_eq rfl,Lr,trivial⟩ (Tr.N0 79 9 (Tr.GG _ (kk [15,14,3,2,1] rfl) (fun k v=>[(16,int ((k:Nat):Int))]) (fun k v=>Hp M0 w0 S (Bf 79 9 ((e.Aw.take k).map Am) v::AE true b2 32 [Ao v (lens ((e.Aw.take k).map Am).length),Es e.BI,is (.slice none 0 0)]::AE true b1 32 (([.slice none 0 0,.slice none 0 0,.slice none 0 0]:List Value).map is)::As M1 w1::rs)) (fun k:Nat=>k≤(e.Aw).length) (fun k:Nat=>(e.Aw).length-k) 0 (.slice none 0 0) (Nat.zero_le _) kz (fun _ _ h=>h) ?_))))
 rintro k v Be
 refine ac ?_
 refine Tr.seq ?_
 refine Tr.cn rfl ?_ ?_<;>intro h1 q1
 have Ae:k<(e.Aw).length:=AV h1
 obtain ⟨x,Af⟩:=at_ Ae
 have hxs:=(hz.Aw x (List.mem_of_getElem? Af)).small hn
 refine ac ?_
 refine Tr.seq (Tr.block (Tr.seq (Tr.BL (tp rfl (AD rfl underlying28 Ba vq vq AA DP) ?_))))
 refine tp rfl (AX rfl Bv Ba vq rfl rfl) ?_
 refine Tl rfl rfl rfl rfl G7 Dn (fun b3=> ?_)
 refine sf 0 5 ⟨rfl,rfl,rfl⟩ rfl rfl rfl rfl ?_
 refine ao ?_
 refine Tr.pad (Tr.rx ?_)
 refine ax ?_
 refine xo rfl (fun _=>Bn (SX hxs) rfl rfl) (xo rfl (fun _=>Ah (xs:=[.tmp 23]) (rows:=[_]) rfl rfl underlying28 Ba G7 rfl AB ⟨⟨Aq,(Va rfl)⟩,trivial⟩ AB) ?_)
 refine Cx.ef 1 rfl rfl AB (Di rfl rfl AB rfl underlying28 Ba bt G7 rfl AB AB (vl rfl) (Kf rfl) (Aj fun _=>rfl) (Nat.zero_lt_succ _) X7 U3) ?_
 refine xo rfl (fun _=>AF rfl Jr vq) (Cx.D7 2 rfl rfl (DT rfl rfl rfl vq rfl iZ Ai) ?_)
 refine Cx.nil ⟨by kernel_rfl,?_⟩
 refine BV.Np 1 2 25 rfl rfl AB rfl (fun v1=> ?_)
 refine BV.done dO ?_
 refine ac ?_
 refine Tr.drop 0 (wk [16,15,14,3,2,1] rfl ?_)
 refine ac ?_
 refine Fin.JU 1 [Ao v1 (lens ((e.Aw.take (k+1)).map Am).length),Es e.BI,is (.slice none 0 0)] rfl ⟨Cr X5,Lr,Lr,trivial⟩ ?_
 rw [V3 (f:=Am) Af]
 exact Fin.Ic (k+1) v1 (⟨Ae,by omega⟩) ⟨⟨_,rfl,AO k⟩,kz⟩ (fun _ _ h=>h)
 have BM:k=(e.Aw).length:=by have:=AW h1;omega
 subst BM
 rw [List.take_length]
 refine a2 ?_
 refine Tr.block (Tr.JU 1 [Ao v (lens (e.Aw.map Am).length),Es e.BI,Ao (.slice none 0 0) (I2 (e.items.take 0))] rfl ⟨Lr,Lr,Du rfl,trivial⟩ (Tr.Eg 86 5 (Tr.GG _ (kk [30,29,3,2] rfl) (fun m u=>[(31,int ((m:Nat):Int))]) (fun m u=>Hp M0 w0 S (Bi 86 5 u::Bf 79 9 (e.Aw.map Am) v::AE true b2 32 [Ao v (lens (e.Aw.map Am).length),Es e.BI,Ao u (I2 (e.items.take m))]::AE true b1 32 (([.slice none 0 0,.slice none 0 0,.slice none 0 0]:List Value).map is)::As M1 w1::rs)) (fun m:Nat=>m≤(e.items).length) (fun m:Nat=>(e.items).length-m) 0 (.slice none 0 0) (Nat.zero_le _) kz (fun _ _ h=>h) ?_)))
 rintro m u V1
 refine ac ?_
 refine Tr.seq ?_
 refine Tr.cn rfl ?_ ?_<;>intro h2 q2
 have JV:m<(e.items).length:=AV h2
 obtain ⟨y,Fv⟩:=at_ JV
 have hyl:=(hz.items y (List.mem_of_getElem? Fv)).2
 refine ac ?_
 refine Tr.seq (Tr.block (Tr.seq (Tr.BL (tp rfl (AD rfl underlying30 GJ vq vq AA DP) ?_))))
 refine tp rfl (AX rfl Nt GJ vq rfl rfl) ?_
 refine Tl rfl rfl rfl rfl YZ WL (fun b4=> ?_)
 refine TO.Ap 0 rfl rfl rfl vq CS rfl GJ rfl rfl ?_
 refine ao ?_
 refine ao ?_
 refine tp rfl (Vf rfl underlying84 E3 Yb Yd rfl AB vq vq Py P3) ?_
 refine tp rfl (AF rfl Qo vq) (TO.D7 0 rfl rfl (Bm rfl rfl vq CX jD rfl Ai rfl) ?_)
 refine ao ?_
 refine wk [31,30,29,7,3,2] rfl ?_
 refine ao ?_
 refine TO.Fw 1 rfl rfl AB (Dy rfl rfl rfl rfl underlying30 GJ bz YZ L9 E9 (CY Bt Er)) (fun v2=> ?_)
 refine tp rfl (AF rfl Nr vq) (TO.D7 3 rfl rfl (Bm rfl rfl vq CX bp rfl Ai rfl) ?_)
 refine ao ?_
 refine Tr.drop 0 ?_
 refine ac ?_
 refine Fin.JU 2 [Ao v (lens (e.Aw.map Am).length),Es e.BI,Ao v2 (I2 (e.items.take (m+1)))] rfl ⟨Lr,Lr,D3 (V3 (f:=Fl) Fv),trivial⟩ (Fin.Ic (m+1) v2 (⟨JV,by omega⟩) ⟨⟨_,rfl,AO m⟩,kz⟩ (fun _ _ h=>h))
 have RT:m=(e.items).length:=by have:=AW h2;omega
 subst RT
 refine ac ?_
 refine ao ?_
 refine TO.Ap 3 rfl rfl rfl vq CS rfl DL rfl rfl ?_
 refine ao ?_
 refine Tr.ret (Fin.PJ 1 rfl (Fin.drop 0 (Fin.drop 1 (Fin.Lc (Fin.WV v [_] rfl (AR.cell 0 rfl rfl DZ DL rfl Lr) ?_ (List.Perm.refl _))))))
 · exact X6
def EV (l:List CO) (c:BA):List CO×Int:=
 if c.AJ<0∨((l.length:Nat):Int)≤c.AJ then (l,40)
 else match l[c.AJ.toNat]? with
  |none=>(l,40)
  |some x=>if (Bh x c).2.2=0 then (l.set c.AJ.toNat (Bh x c).1,0) else (l,(Bh x c).2.2)
theorem M7 {l:List CO} {c:BA} (h:c.AJ<0∨((l.length:Nat):Int)≤c.AJ):EV l c=(l,40):=if_pos h
theorem RX {l:List CO} {c:BA} {x:CO} (h:¬(c.AJ<0∨((l.length:Nat):Int)≤c.AJ)) (hx:l[c.AJ.toNat]? =some x):EV l c=if (Bh x c).2.2=0 then (l.set c.AJ.toNat (Bh x c).1,0) else (l,(Bh x c).2.2):=by
 unfold EV;rw [if_neg h,hx]
theorem XF {l:List CO} {c:BA} {eb:Nat} {p1 p2:Pr} (hz:∀x∈l,x.sz n) (hn:n≤900000) (hl:l.length≤1000000) (hc:c.Bj.fits∧c.Bj.small):Au prog 84 [ptr eb 0,agg (A9 c)] [AE true eb 32 [is v,p1,p2],Ac 79 9 (l.map Am) v] (int (EV l c).2) [AE true eb 32 [is v,p1,p2],Ac 79 9 ((EV l c).1.map Am) v]:=by
 refine Au.of func84 rfl rfl Ai fun M0 w0 S rs M1 w1=>(Tr.seq ?_)
 have hml:(l.map Am).length=l.length:=List.length_map _
 refine ac ?_
 refine ag ?_ ?_<;>intro h1 q1
 refine ac ?_
 refine wk [19,3,0] rfl ?_
 refine ac ?_
 refine Tr.ret (Fin.AL ?_)
 rw [M7 (l:=l) (c:=c) AA]
 refine Fin.CD rfl (AR.tmp rfl Lr) ?_ (List.Perm.refl _)
 · exact Lr
 refine ac ?_
 refine cy h1 rfl (Bk 1 rfl (E4 rfl underlying28 vq)) ?_
 refine ac ?_
 refine wk [19,3,0] rfl ?_
 refine Tr.cn rfl ?_ ?_<;>intro h2 q2
 have hA:=M7 (l:=l) (c:=c) AA
 refine ac ?_
 refine Tr.ret (Fin.AL ?_)
 rw [hA]
 refine Fin.CD rfl (AR.tmp rfl Lr) ?_ (List.Perm.refl _)
 · exact Lr
 obtain ⟨x,hx⟩:=at_ (l:=l) (k:=c.AJ.toNat) AA
 have hA:=RX (l:=l) (c:=c) AA hx
 have hlt:=Ar hx
 refine ac ?_
 refine Tr.seq (Tr.pad (Tr.rx ?_))
 refine ax ?_
 refine IC 2 rfl rfl (EG rfl underlying28 Ba vq vq AA CT) ?_
 refine IC 2 rfl rfl (Eo rfl Bv Ba vq (Aj fun _=>rfl) KS) ?_
 refine xo rfl (fun _=>AX rfl CI B0 vq rfl rfl) ?_
 refine xo rfl (fun _=>Cb (Wr (hz x (List.mem_of_getElem? hx)).fits ((hz x (List.mem_of_getElem? hx)).small AA) hc.1 hc.2) rfl rfl rfl) ?_
 refine ax ?_
 refine Cx.ef 0 rfl rfl AB (Em rfl rfl AB rfl G7 Dn) (Cx.D7 0 rfl rfl (En rfl rfl rfl rfl CS Ba rfl rfl) (xm rfl ?_))
 refine Cx.nil ⟨by kernel_rfl,?_⟩
 refine BV.open_ 0 5 rfl rfl (fun v1=> ?_)
 refine BV.done K9 (Fin.VR 5 0 _ rfl rfl (fun _=>rfl) (fun b1=> ?_))
 refine Fin.go (wk [6,5,3,0] rfl ?_)
 refine an ?_ ?_<;>intro h3 q3
 rw [if_pos Me] at hA
 refine Tr.rx ?_
 refine ax ?_
 refine IC 2 rfl rfl (EG rfl underlying28 Ba vq vq AA CT) ?_
 refine Cx.D7 2 rfl rfl (D4 rfl rfl vq CS Ba rfl (Aj fun _=>rfl) KS AB (show _=(l.set c.AJ.toNat (Bh x c).1).map Am by rw [List.map_set];rfl)) ?_
 refine Cx.nil ⟨by kernel_rfl,?_⟩
 refine BV.done K9 (Fin.go (Tr.drop 0 (wk [6] rfl ?_)))
 refine ac ?_
 refine Tr.ret ?_
 rw [hA]
 refine Fin.CD rfl (AR.tmp rfl Lr) ?_ (List.Perm.refl _)
 · exact F0
 rw [if_neg Me] at hA
 refine ac ?_
 refine Tr.drop 0 ?_
 refine ac ?_
 refine Tr.ret ?_
 rw [hA]
 refine Fin.CD rfl (AR.tmp rfl Lr) ?_ (List.Perm.refl _)
 · exact Lr
def F9 (l:List BA):List Int→List CO→List CO×Int
 |[],Aw=>(Aw,0)
 |i::s,Aw=>match l[i.toNat]? with
  |none=>(Aw,0)
  |some c=>if (EV Aw c).2=0 then F9 l s (EV Aw c).1 else (Aw,(EV Aw c).2)
def HE (e:EA) (l:List BA) (s:List Int):EA×Int:=
 if El e=false then (Bq,31)
 else if 24<l.length then (Bq,3)
 else if Ep l.length s=false then (Bq,46)
 else if (F9 l s e.Aw).2=0 then (⟨(F9 l s e.Aw).1,e.BI,e.items⟩,0) else (Bq,(F9 l s e.Aw).2)
theorem Lp {l:List BA} {s:List Int} {Aw:List CO} {i:Int} {c:BA} (hi:s[k]? =some i) (hc:l[i.toNat]? =some c):F9 l (s.drop k) Aw=if (EV Aw c).2=0 then F9 l (s.drop (k+1)) (EV Aw c).1 else (Aw,(EV Aw c).2):=by
 have hk:=Ar hi
 rw [List.drop_eq_getElem_cons hk]
 rw [List.getElem?_eq_getElem hk] at hi;cases hi
 rw [F9];rw [hc]
theorem M8 (l:List CO) (c:BA):(EV l c).1.length=l.length:=by
 unfold EV;split
 · rfl
 ·
  split
  · rfl
  ·
   split
   · exact List.length_set
   · rfl
theorem Ub {l:List CO} {c:BA} (hz:∀x∈l,x.sz n) (hi:c.Bj.fits∧c.Bj.small):∀x∈(EV l c).1,x.sz (n+1):=by
 have JD:∀x∈l,x.sz (n+1):=fun x hx=>(hz x hx).le AA
 unfold EV;split
 · exact JD
 ·
  split
  · exact JD
  next x hx=>
  split
  next h0=>
   intro y hy
   rcases List.mem_or_eq_of_mem_set hy with hy|hy
   · exact JD y hy
   ·
    subst hy
    exact (V0 (b:=(Bh x c).2.1) (by rw [←h0]) (hz x (List.mem_of_getElem? hx)) hi).1
  · exact JD
def Pc (s:List Int) (k:Nat):Int:=if k=0 then -1 else s[k-1]?.getD 0
theorem Uc {s:List Int} {i:Int} (h:s[k]? =some i):Pc s (k+1)=i:=by unfold Pc;rw [if_neg AA,Nat.add_sub_cancel,h];rfl
theorem OS {n:Int} {s:List Int} {i:Int} (h:∀j,j<k→setAt n s j=true) (hi:s[k]? =some i):setAt n s k= !(decide (i≤Pc s k)||decide (n≤i)):=by
 have hk:=Ar hi
 unfold setAt Pc
 rw [hi,Option.getD_some]
 rcases Nat.eq_zero_or_pos k with hz|hz
 · subst hz;rw [Bool.eq_iff_iff];simp;omega
 ·
  have h1:=h (k-1) AA
  unfold setAt at h1
  simp only [Bool.and_eq_true,decide_eq_true_eq] at h1
  rw [if_neg AA,Bool.eq_iff_iff];simp;omega
theorem P4 {n:Int} {s:List Int} {i:Int} (h:∀j,j<k→setAt n s j=true) (hi:s[k]? =some i) (hb:i≤Pc s k∨n≤i):Ep n s=false:=
 Dz (p:=setAt n s) (k:=k) (Ar hi) (by rw [OS h hi];simp;omega)
theorem aE {n:Int} {s:List Int} (h:∀j,j<s.length→setAt n s j=true):∀j,j<s.length→(j:Int)≤s[j]?.getD 0
 |0,hj=>by have:=h 0 hj;unfold setAt at this;simp at this;simp;omega
 |j+1,hj=>by
  have h1:=aE h j AA
  have:=h (j+1) hj
  unfold setAt at this
  simp only [Bool.and_eq_true,Bool.or_eq_true,decide_eq_true_eq,Nat.add_sub_cancel] at this
  omega
theorem V4 {s:List Int} (h:Ep n s=true):s.length≤n:=by
 unfold Ep at h;rw [Br] at h
 rcases Nat.eq_zero_or_pos s.length with hz|hz
 · omega
 ·
  have h1:=aE h (s.length-1) AA
  have h2:=h (s.length-1) AA
  unfold setAt at h2
  simp only [Bool.and_eq_true,decide_eq_true_eq] at h2
  omega
theorem V5 {s:List Int} (h:Ep n s=true) {i:Int} (hi:s[k]? =some i):0≤i∧i<n:=by
 unfold Ep at h;rw [Br] at h
 have h2:=h k (Ar hi)
 unfold setAt at h2
 rw [hi] at h2
 simp only [Option.getD_some,Bool.and_eq_true,decide_eq_true_eq] at h2
 exact h2.1
theorem Lq {e:EA} {l:List BA} {s:List Int} (hz:e.sz n) (hn:n≤800000) (hc:∀c∈l,c.Bj.fits∧c.Bj.small):Ay prog 43 [agg (Bs e),slice 8 (l.map A9),ints s] (D_ [agg (Bs (HE e l s).1),int (HE e l s).2]):=by
 refine fo func43 rfl ⟨rfl,rfl⟩ fun M0 w0=>(Tr.Ed 1 rfl fun PG=>(Tr.Ed 2 rfl fun ZQ=>(Tr.seq (Tr.BL (tp rfl (BK rfl CS) ?_)))))
 refine Tl rfl rfl rfl rfl z32 F5 (fun b1=> ?_)
 refine ap ?_
 refine ac ?_
 refine co rfl (Bn (GV (hz.fits AA)) rfl rfl) ?_
 refine an ?_ ?_<;>intro h1 q1
 have hA:HE e l s=(Bq,31):=if_pos (by have:=q1;cases h_:El e<;>simp_all)
 refine ap ?_
 refine Tr.ret (Fin.Bb (Fin.AL (Fin.Cj rfl (AR.cell 0 rfl rfl DZ DL rfl Lr) (AR.tmp rfl Lr) ?_)))
 refine BT ⟨?_,?_,trivial⟩
 · exact HF
 · exact FG
 have hok:El e=true:=by have:=q1;cases h_:El e<;>simp_all
 refine an ?_ ?_<;>intro h2 q2
 have hA:HE e l s=(Bq,3):=by unfold HE;rw [if_neg HJ,if_pos (by have:=q2;omega)]
 refine ap ?_
 refine wk [7,6] rfl (Tr.ret (Fin.Bb (Fin.AL (Fin.Cj rfl (AR.cell 0 rfl rfl DZ DL rfl Lr) (AR.tmp rfl Lr) ?_))))
 refine BT ⟨?_,?_,trivial⟩
 · exact HF
 · exact FG
 have xD:l.length≤24:=by have:=q2;omega
 refine a3 ?_
 refine wk [27,26,25,8,6,3,2,1] rfl (Tr.block (Tr.Bc _ (kk [26,25,6,3,2,1] rfl) (fun k:Nat=>[(27,int ((k:Nat):Int)),(8,int (Pc s k))]) (fun k:Nat=>k≤(s).length∧(∀j,j<k→setAt l.length s j=true)) (fun k:Nat=>(s).length-k) 0 (⟨Nat.zero_le _,fun j hj=>absurd hj AA⟩) ⟨kq,⟨_,rfl,int_eq rfl⟩,trivial⟩ ?_))
 rintro k ⟨Be,AU⟩
 refine ac ?_
 refine Tr.seq ?_
 refine Tr.cn rfl ?_ ?_<;>intro h3 q3
 have Ae:k<(s).length:=AV h3
 obtain ⟨i,Af⟩:=at_ Ae
 have hsl:=OS AU Af
 refine ac ?_
 refine Tr.seq (Tr.block (Tr.seq (Tr.CL (co rfl (AD rfl underlying50 DC vq vq AA (Ak Af)) ?_))))
 refine ac ?_
 refine ag ?_ ?_<;>intro h4 q4
 refine ac ?_
 refine wk [39,27,26,25,10,6,3,2,1] rfl (Tr.cond rfl (fun _=> ?_) (fun h=>nomatch h))
 refine Tr.seq (Tr.BL (tp rfl (Ax (rows:=[]) rfl ia F5 trivial rfl) (TO.Ap 0 rfl rfl rfl vq CS rfl DL rfl rfl (tm rfl (TO.nil (Fin.go (Tr.ret (Fin.AL (Fin.Bb (Fin.AL (Fin.AL (Fin.Bb (Fin.AL (Fin.Cj rfl (AR.cell 0 rfl rfl DZ DL rfl Lr) (AR.tmp rfl Lr) ?_))))))))))))))
 refine BT ⟨?_,?_,trivial⟩
 · exact Xp
 · exact Xv
 refine ac ?_
 refine wk [39,27,26,25,10,6,3,2,1] rfl ?_
 refine Tr.cn rfl ?_ ?_<;>intro h5 q5
 refine ap ?_
 refine Tr.ret (Fin.AL (Fin.Bb (Fin.AL (Fin.AL (Fin.Bb (Fin.AL (Fin.Cj rfl (AR.cell 0 rfl rfl DZ DL rfl Lr) (AR.tmp rfl Lr) ?_)))))))
 refine BT ⟨?_,?_,trivial⟩
 · exact Xp
 · exact Xv
 refine a3 ?_
 exact Fin.AQ (k+1) ⟨⟨Ae,Bo AU (by rw [hsl];simp;omega)⟩,by omega⟩ ⟨⟨_,rfl,AO k⟩,⟨_,rfl,int_eq (by rw [Uc Af])⟩,kz⟩
 have BM:k=(s).length:=by have:=AW h3;omega
 subst BM
 have hsb:Ep l.length s=true:=Br.2 AU
 have hsn:=V4 hsb
 have hel:=hz.le
 refine ac ?_
 refine ap ?_
 refine TO.N_ rfl rfl AB rfl (Pb hz AA) kz (fun v1=> ?_)
 refine Tl rfl rfl rfl rfl z32 F5 (fun b2=> ?_)
 refine ap ?_
 refine ac ?_
 refine wk [47,46,45,11,6,1] rfl (Tr.block (Tr.Kk _ (kk [46,45,11,6,1] rfl) (fun (m:Nat) (Aw:List CO)=>[(47,int ((m:Nat):Int))]) (fun (m:Nat) (Aw:List CO)=>Hp M0 w0 Lw ([AE true b2 32 [is v1,Es e.BI,I2 e.items],Ac 79 9 (Aw.map Am) v1,AE true b1 32 (([.slice none 0 0,.slice none 0 0,.slice none 0 0]:List Value).map is)])) (fun (m:Nat) (Aw:List CO)=>m≤s.length∧(∀x∈Aw,x.sz (n+m))∧Aw.length=e.Aw.length∧F9 l (s.drop m) Aw=F9 l s e.Aw) (fun (m:Nat) (Aw:List CO)=>s.length-m) (0) (e.Aw)  (⟨Nat.zero_le _,hz.Aw,rfl,rfl⟩) kz (fun _ _ h=>h) ?_))
 rintro m Aw  ⟨hm1,fN,hm3,kr⟩
 refine ac ?_
 refine Tr.seq ?_
 refine Tr.cn rfl ?_ ?_<;>intro h6 q6
 have gB:m<s.length:=by have:=F4.IB h6;omega
 obtain ⟨i,Fv⟩:=at_ gB
 have nQ:=V5 hsb Fv
 obtain ⟨c,ku⟩:=at_ (l:=l) (k:=i.toNat) AA
 have Ud:=hc c (List.mem_of_getElem? ku)
 have hst:=Lp (Aw:=Aw) Fv ku
 rw [kr] at hst
 refine ac ?_
 refine Tr.seq (Tr.block (Tr.seq (Tr.CL (co rfl (AD rfl underlying50 DC vq vq AA (Ak Fv)) ?_))))
 refine ac ?_
 refine ap ?_
 refine tp rfl (AD rfl underlying42 B0 vq vq AA (E0 (f:=A9) ku)) (tp rfl (AX rfl CI B0 vq rfl rfl) ?_)
 refine TO.Cv _ rfl rfl AB rfl (XF (l:=Aw) (c:=c) fN AA AA Ud) ⟨kq,kz⟩ ((AK (j:=0) rfl).trans (List.Perm.cons _ ((AK (j:=0) rfl).trans (List.Perm.cons _ (List.Perm.refl _))))) ?_
 refine ap ?_
 refine wk [47,46,45,14,11,6,1] rfl ?_
 refine an ?_ ?_<;>intro h7 q7
 have XG:¬(EV Aw c).2=0:=by have:=q7;omega
 rw [if_neg XG] at hst
 have hA:HE e l s=(Bq,(EV Aw c).2):=by unfold HE;rw [if_neg HJ,if_neg AA,if_neg (by simp [hsb]),hst];exact if_neg XG
 refine ap ?_
 refine Tr.ret (Fin.Bb (Fin.AL (Fin.AL (Fin.Bb (Fin.AL (Fin.Cj rfl (AR.cell 2 rfl rfl DZ DL rfl Lr) (AR.tmp rfl Lr) ?_))))))
 refine BT ⟨?_,?_,trivial⟩
 · exact HF
 · exact FG
 have XG:=q7
 refine a2 ?_
 exact Fin.Mk (m+1) ((EV Aw c).1)  (⟨⟨by omega,by have:=Ub (c:=c) fN Ud;rw [show n+(m+1)=n+m+1 by omega];exact this,by rw [M8];exact hm3,by rw [hst,if_pos AA]⟩,by omega⟩) ⟨⟨_,rfl,AO m⟩,kz⟩ (fun _ _ h=>h)
 obtain rfl:m=s.length:=by have:=F4.IB h6;omega
 rw [List.drop_length] at kr
 have hA:HE e l s=(⟨Aw,e.BI,e.items⟩,0):=by unfold HE;rw [if_neg HJ,if_neg AA,if_neg (by simp [hsb]),←kr];exact if_pos rfl
 refine ac ?_
 refine Tr.seq (Tr.Gf 0 1 0 rfl rfl AB rfl Lr (Aj fun _=>rfl) ?_)
 refine ap ?_
 refine Tr.ret (Fin.Cj rfl (AR.cell 2 rfl rfl DZ DL rfl Lr) (AR.tmp rfl Lr) ?_)
 refine BT ⟨?_,?_,trivial⟩
 · rw [hA];exact Lr
 · exact FG
theorem xE:Ep ((1:Nat):Int) [0]=true:=by decide
def M9 (e:EA) (c:BA):EA×Int:=if (EV e.Aw c).2=0 then (⟨(EV e.Aw c).1,e.BI,e.items⟩,0) else (Bq,(EV e.Aw c).2)
def KF (e:EA) (c:BA):EA×Int:=if El e=false then (Bq,31) else M9 e c
theorem Sz (c:BA) (Aw:List CO):F9 [c] [0] Aw=if (EV Aw c).2=0 then ((EV Aw c).1,0) else (Aw,(EV Aw c).2):=rfl
theorem aF (e:EA) (c:BA):HE e [c] [0]=KF e c:=by
 unfold HE KF
 by_cases h:El e=false
 · rw [if_pos h,if_pos h]
 ·
  rw [if_neg h,if_neg h,if_neg Aa,if_neg (by show ¬Ep ((1:Nat):Int) [0]=false;rw [xE];decide),Sz]
  unfold M9
  by_cases h2:(EV e.Aw c).2=0
  · rw [if_pos h2,if_pos rfl,if_pos h2]
  · rw [if_neg h2,if_neg h2,if_neg h2]
theorem XH {e:EA} {c:BA} (hz:e.sz n) (hn:n≤800000) (Ud:c.Bj.fits∧c.Bj.small):Ay prog 46 [agg (Bs e),agg (A9 c)] (D_ [agg (Bs (KF e c).1),int (KF e c).2]):=by
 refine fo func46 rfl ⟨rfl,rfl⟩ fun M0 w0=>(Tr.seq (Tr.BL (tp rfl (BK rfl CS) (tp rfl (BK rfl CS) ?_))))
 refine Tl rfl rfl rfl rfl z32 F5 (fun b1=> ?_)
 refine ap ?_
 refine ap ?_
 refine tp rfl (Ad rfl (Lq (e:=e) (l:=[c]) (s:=[0]) hz hn (fun x hx=>by simp at hx;subst hx;exact Ud)) ⟨kq,⟨_,rfl,Pr.le_trans (BC _ _) (Pr.le_of_eq (show _=slice 8 (([c]:List BA).map A9) from rfl))⟩,⟨_,rfl,Pr.le_trans (BC _ _) (Pr.le_of_eq (show _=ints [0] from rfl))⟩,trivial⟩) ?_
 refine ap ?_
 refine Tr.ret (Fin.Cj rfl (AR.cell 0 rfl rfl DZ DL rfl Lr) (AR.tmp rfl Lr) ?_)
 refine BT ⟨?_,?_,trivial⟩
 · rw [←aF];exact Lr
 · exact int_eq (by rw [aF])
theorem OU {e:EA} (hz:e.sz n) (hn:n≤1000000):Im prog 41 [agg (Bs e)] (fun x=>agg [is x,Es e.BI,I2 e.items]) (fun x=>[Ac 79 9 (e.Aw.map Am) x]):=by
 refine Im.of func41 rfl rfl Ai fun M0 w0 S rs M1 w1=> ?_
 have hl1:=hz.le
 have bC:=hz.lg
 have mw:=hz.li
 refine Tr.seq (Tr.BL (tp rfl (BK rfl CS) ?_))
 refine Tl rfl rfl rfl rfl z32 F5 (fun b1=> ?_)
 refine ao ?_
 refine ao ?_
 refine tp rfl (JK rfl underlying29 Ig jA lq rfl AB vq Py P3) ?_
 refine tp rfl (oD) ?_
 refine Tl rfl rfl rfl rfl z32 F5 (fun b2=> ?_)
 refine TO.Ap 0 rfl rfl rfl vq CS rfl DL rfl rfl ?_
 refine ao ?_
 refine ac ?_
 refine Tr.block (Tr.JU 0 [Ao (.slice none 0 0) (lens ((e.Aw.take 0).map Am).length),Es e.BI,is (.slice none 0 0)] rfl ⟨Km rfl,Lr,Lr,trivial⟩ (Tr.N0 79 9 (Tr.GG _ (kk [14,13,3,2,1] rfl) (fun k v=>[(15,int ((k:Nat):Int))]) (fun k v=>Hp M0 w0 S (Bf 79 9 ((e.Aw.take k).map Am) v::AE true b2 32 [Ao v (lens ((e.Aw.take k).map Am).length),Es e.BI,is (.slice none 0 0)]::AE true b1 32 (([.slice none 0 0,.slice none 0 0,.slice none 0 0]:List Value).map is)::As M1 w1::rs)) (fun k:Nat=>k≤(e.Aw).length) (fun k:Nat=>(e.Aw).length-k) 0 (.slice none 0 0) (Nat.zero_le _) kz (fun _ _ h=>h) ?_)))
 rintro k v Be
 refine ac ?_
 refine Tr.seq ?_
 refine Tr.cn rfl ?_ ?_<;>intro h1 q1
 have Ae:k<(e.Aw).length:=AV h1
 obtain ⟨x,Af⟩:=at_ Ae
 have hxs:=(hz.Aw x (List.mem_of_getElem? Af)).small hn
 refine ac ?_
 refine Tr.seq (Tr.block (Tr.seq (Tr.BL (tp rfl (AD rfl underlying28 Ba vq vq AA DP) ?_))))
 refine tp rfl (AX rfl Bv Ba vq rfl rfl) ?_
 refine Tl rfl rfl rfl rfl G7 Dn (fun b3=> ?_)
 refine sf 0 5 ⟨rfl,rfl,rfl⟩ rfl rfl rfl rfl ?_
 refine ao ?_
 refine Tr.pad (Tr.rx ?_)
 refine ax ?_
 refine xo rfl (fun _=>Bn (Pa hxs) rfl rfl) (xo rfl (fun _=>Ah (xs:=[.tmp 22]) (rows:=[_]) rfl rfl underlying28 Ba G7 rfl AB ⟨⟨Aq,(Va rfl)⟩,trivial⟩ AB) ?_)
 refine Cx.ef 1 rfl rfl AB (Di rfl rfl AB rfl underlying28 Ba bt G7 rfl AB AB (vl rfl) (Kf rfl) (Aj fun _=>rfl) (Nat.zero_lt_succ _) X7 U3) ?_
 refine xo rfl (fun _=>AF rfl Jr vq) (Cx.D7 2 rfl rfl (DT rfl rfl rfl vq rfl iZ Ai) ?_)
 refine Cx.nil ⟨by kernel_rfl,?_⟩
 refine BV.Np 1 2 24 rfl rfl AB rfl (fun v1=> ?_)
 refine BV.done dO ?_
 refine ac ?_
 refine Tr.drop 0 (wk [15,14,13,3,2,1] rfl ?_)
 refine ac ?_
 refine Fin.JU 1 [Ao v1 (lens ((e.Aw.take (k+1)).map Am).length),Es e.BI,is (.slice none 0 0)] rfl ⟨Cr X5,Lr,Lr,trivial⟩ ?_
 rw [V3 (f:=Am) Af]
 exact Fin.Ic (k+1) v1 (⟨Ae,by omega⟩) ⟨⟨_,rfl,AO k⟩,kz⟩ (fun _ _ h=>h)
 have BM:k=(e.Aw).length:=by have:=AW h1;omega
 subst BM
 rw [List.take_length]
 refine a2 ?_
 refine Tr.block (Tr.JU 1 [Ao v (lens (e.Aw.map Am).length),Es e.BI,Ao (.slice none 0 0) (I2 (e.items.take 0))] rfl ⟨Lr,Lr,Du rfl,trivial⟩ (Tr.Eg 86 5 (Tr.GG _ (kk [29,28,3,2] rfl) (fun m u=>[(30,int ((m:Nat):Int))]) (fun m u=>Hp M0 w0 S (Bi 86 5 u::Bf 79 9 (e.Aw.map Am) v::AE true b2 32 [Ao v (lens (e.Aw.map Am).length),Es e.BI,Ao u (I2 (e.items.take m))]::AE true b1 32 (([.slice none 0 0,.slice none 0 0,.slice none 0 0]:List Value).map is)::As M1 w1::rs)) (fun m:Nat=>m≤(e.items).length) (fun m:Nat=>(e.items).length-m) 0 (.slice none 0 0) (Nat.zero_le _) kz (fun _ _ h=>h) ?_)))
 rintro m u V1
 refine ac ?_
 refine Tr.seq ?_
 refine Tr.cn rfl ?_ ?_<;>intro h2 q2
 have JV:m<(e.items).length:=AV h2
 obtain ⟨y,Fv⟩:=at_ JV
 have hyl:=(hz.items y (List.mem_of_getElem? Fv)).2
 refine ac ?_
 refine Tr.seq (Tr.block (Tr.seq (Tr.BL (tp rfl (AD rfl underlying30 GJ vq vq AA DP) ?_))))
 refine tp rfl (AX rfl Nt GJ vq rfl rfl) ?_
 refine Tl rfl rfl rfl rfl YZ WL (fun b4=> ?_)
 refine TO.Ap 0 rfl rfl rfl vq CS rfl GJ rfl rfl ?_
 refine ao ?_
 refine ao ?_
 refine tp rfl (JK rfl underlying84 E3 Yb Yd rfl AB vq Py P3) ?_
 refine tp rfl (AF rfl Qo vq) (TO.D7 0 rfl rfl (Bm rfl rfl vq CX jD rfl Ai rfl) ?_)
 refine ao ?_
 refine wk [30,29,28,7,3,2] rfl ?_
 refine ao ?_
 refine TO.Fw 1 rfl rfl AB (Dy rfl rfl rfl rfl underlying30 GJ bz YZ L9 E9 (CY Bt Er)) (fun v2=> ?_)
 refine tp rfl (AF rfl Nr vq) (TO.D7 3 rfl rfl (Bm rfl rfl vq CX bp rfl Ai rfl) ?_)
 refine ao ?_
 refine Tr.drop 0 ?_
 refine ac ?_
 refine Fin.JU 2 [Ao v (lens (e.Aw.map Am).length),Es e.BI,Ao v2 (I2 (e.items.take (m+1)))] rfl ⟨Lr,Lr,D3 (V3 (f:=Fl) Fv),trivial⟩ (Fin.Ic (m+1) v2 (⟨JV,by omega⟩) ⟨⟨_,rfl,AO m⟩,kz⟩ (fun _ _ h=>h))
 have RT:m=(e.items).length:=by have:=AW h2;omega
 subst RT
 refine ac ?_
 refine ao ?_
 refine TO.Ap 3 rfl rfl rfl vq CS rfl DL rfl rfl ?_
 refine ao ?_
 refine Tr.ret (Fin.PJ 1 rfl (Fin.drop 0 (Fin.drop 1 (Fin.Lc (Fin.WV v [_] rfl (AR.cell 0 rfl rfl DZ DL rfl Lr) ?_ (List.Perm.refl _))))))
 · exact X6
theorem QB {e:EA} {c:BA} (h:c.AJ<0∨((e.Aw.length:Nat):Int)≤c.AJ):M9 e c=(Bq,40):=by unfold M9;rw [M7 h];rfl
theorem k4 {e:EA} {c:BA} {x:CO} (h:¬(c.AJ<0∨((e.Aw.length:Nat):Int)≤c.AJ)) (hx:e.Aw[c.AJ.toNat]? =some x):M9 e c=if (Bh x c).2.2=0 then (⟨e.Aw.set c.AJ.toNat (Bh x c).1,e.BI,e.items⟩,0) else (Bq,(Bh x c).2.2):=by grind [M9,RX,Bh]
theorem Ue {e:EA} {c:BA} (hz:e.sz n) (hi:c.Bj.fits∧c.Bj.small) (h:(M9 e c).2=0):(M9 e c).1.sz (n+1)∧M9 e c=(⟨(EV e.Aw c).1,e.BI,e.items⟩,0):=by
 have h0:(EV e.Aw c).2=0:=by
  by_cases h0:(EV e.Aw c).2=0
  · exact h0
  · unfold M9 at h;rw [if_neg h0] at h;exact h
 have h1:M9 e c=(⟨(EV e.Aw c).1,e.BI,e.items⟩,0):=by unfold M9;rw [if_pos h0]
 rw [h1]
 exact ⟨⟨Ub hz.Aw hi,hz.items,by show (EV e.Aw c).1.length≤_;rw [M8];exact hz.le,hz.lg,hz.li⟩,rfl⟩
theorem fO {e:EA} {c:BA} (h:¬(M9 e c).2=0):¬(EV e.Aw c).2=0∧(M9 e c).2=(EV e.Aw c).2∧(M9 e c).1=Bq:=by grind [M9]
theorem Pf {e:EA} {c:BA} (hz:e.sz n) (hn:n≤900000) (Ud:c.Bj.fits∧c.Bj.small):Ay prog 42 [agg (Bs e),agg (A9 c)] (D_ [agg (Bs (M9 e c).1),int (M9 e c).2]):=by
 refine fo func42 rfl ⟨rfl,rfl⟩ fun M0 w0=> ?_
 have xC:=hz.le
 refine Tr.seq (Tr.BL (tp rfl (BK rfl CS) (tp rfl (BK rfl CS) ?_)))
 refine Tl rfl rfl rfl rfl z32 F5 (fun b1=> ?_)
 refine ao ?_
 refine ag ?_ ?_<;>intro h1 q1
 refine ac ?_
 refine wk [19,4,3,2] rfl (Tr.cond rfl (fun _=> ?_) (fun h=>nomatch h))
 refine Tr.seq (Tr.BL (tp rfl (Ax (rows:=[]) rfl ia F5 trivial rfl) (TO.Ap 0 rfl rfl rfl vq CS rfl DL rfl rfl ?_)))
 refine ao ?_
 refine Tr.ret (Fin.AL (Fin.Cj rfl (AR.cell 0 rfl rfl DZ DL rfl Lr) (AR.tmp rfl Lr) ?_))
 refine BT ⟨?_,?_,trivial⟩
 · exact U0
 · exact int_eq (by rw [QB (e:=e) (c:=c) AA])
 refine ac ?_
 refine wk [19,4,3,2] rfl ?_
 refine Tr.cn rfl ?_ ?_<;>intro h2 q2
 refine ao ?_
 refine TO.Ap 0 rfl rfl rfl vq CS rfl DL rfl rfl ?_
 refine ao ?_
 refine Tr.ret (Fin.AL (Fin.Cj rfl (AR.cell 0 rfl rfl DZ DL rfl Lr) (AR.tmp rfl Lr) ?_))
 refine BT ⟨?_,?_,trivial⟩
 · exact U0
 · exact int_eq (by rw [QB (e:=e) (c:=c) AA])
 obtain ⟨x,hx⟩:=at_ (l:=e.Aw) (k:=c.AJ.toNat) AA
 have hA:=k4 (e:=e) (c:=c) AA hx
 have hlt:=Ar hx
 refine ac ?_
 refine Tr.seq (Tr.pad (Tr.rx ?_))
 refine ax ?_
 refine xo rfl (fun _=>AD rfl underlying28 Ba vq vq AA (E0 (f:=Am) hx)) ?_
 refine ax ?_
 refine xo rfl (fun _=>Cb (UX (hz.Aw x (List.mem_of_getElem? hx)) AA Ud) rfl rfl rfl) ?_
 refine ax ?_
 refine Cx.ef 0 rfl rfl AB (Em rfl rfl AB rfl G7 Dn) (Cx.D7 0 rfl rfl (En rfl rfl rfl rfl CS Ba rfl rfl) (xm rfl ?_))
 refine Cx.nil ⟨by kernel_rfl,?_⟩
 refine BV.open_ 0 6 rfl rfl (fun v1=> ?_)
 refine BV.done Xd (Fin.VR 6 0 _ rfl rfl (fun _=>rfl) (fun b2=> ?_))
 refine Fin.go (wk [7,6,4,3,2] rfl ?_)
 refine an ?_ ?_<;>intro h3 q3
 rw [if_neg Me] at hA
 refine ao ?_
 refine TO.Ap 1 rfl rfl rfl vq CS rfl DL rfl rfl ?_
 refine ao ?_
 refine Tr.drop 0 (Tr.ret (Fin.AL (Fin.Cj rfl (AR.cell 0 rfl rfl DZ DL rfl Lr) (AR.tmp rfl Lr) ?_)))
 refine BT ⟨?_,?_,trivial⟩
 · exact HF
 · exact FG
 rw [if_pos Me] at hA
 refine ac ?_
 refine ao ?_
 refine TO.N_ rfl rfl AB rfl (OU hz AA) kz (fun v2=> ?_)
 refine Tl rfl rfl rfl rfl z32 F5 (fun b3=> ?_)
 refine TO.Ap 0 rfl rfl rfl vq CS rfl DL rfl rfl ?_
 refine ao ?_
 refine ao ?_
 refine tp rfl (Bk 1 rfl (EG rfl underlying28 Ba vq vq AA CT)) ?_
 refine TO.D7 1 rfl rfl (D4 rfl rfl vq CS Ba rfl (Aj fun _=>rfl) KS AB (show _=(e.Aw.set c.AJ.toNat (Bh x c).1).map Am by rw [List.map_set];rfl)) ?_
 refine ao ?_
 refine Tr.drop 2 (wk [8,4] rfl (Tr.seq (Tr.Gf 0 1 0 rfl rfl AB rfl Lr (Aj fun _=>rfl) ?_)))
 refine ao ?_
 refine TO.Ap 2 rfl rfl rfl vq CS rfl DL rfl rfl ?_
 refine ao ?_
 refine Tr.drop 1 (Tr.ret (Fin.Cj rfl (AR.cell 1 rfl rfl DZ DL rfl Lr) (AR.tmp rfl Lr) ?_))
 refine BT ⟨?_,?_,trivial⟩
 · rw [hA];exact Lr
 · exact FG
theorem Uf {e:EA} {c:BA} (hz:e.sz n) (hn:n≤800000) (Ud:c.Bj.fits∧c.Bj.small):Ay prog 20 [agg (Bs e),agg (A9 c)] (D_ [agg (Bs (KF e c).1),int (KF e c).2]):=by
 refine fo func20 rfl ⟨rfl,rfl⟩ fun M0 w0=>(Tr.seq (Tr.BL (tp rfl (BK rfl CS) (tp rfl (BK rfl CS) ?_))))
 refine Tl rfl rfl rfl rfl z32 F5 (fun b1=> ?_)
 refine ap ?_
 refine ac ?_
 refine co rfl (Bn (OR (hz.fits AA)) rfl rfl) ?_
 refine an ?_ ?_<;>intro h1 q1
 have hA:KF e c=(Bq,31):=if_pos (by have:=q1;cases h_:El e<;>simp_all)
 refine ap ?_
 refine Tr.ret (Fin.AL (Fin.Cj rfl (AR.cell 0 rfl rfl DZ DL rfl Lr) (AR.tmp rfl Lr) ?_))
 refine BT ⟨?_,?_,trivial⟩
 · exact HF
 · exact FG
 have hA:KF e c=M9 e c:=if_neg (by have:=q1;cases h_:El e<;>simp_all)
 refine ac ?_
 refine ap ?_
 refine tp rfl (Cb (Pf hz AA Ud) rfl rfl rfl) ?_
 refine ap ?_
 refine wk [5,4] rfl (Tr.ret (Fin.Cj rfl (AR.cell 0 rfl rfl DZ DL rfl Lr) (AR.tmp rfl Lr) ?_))
 refine BT ⟨?_,?_,trivial⟩
 · rw [hA];exact Lr
 · exact FG
theorem Ug {e:EA} {l:List BA} {s:List Int} (hz:e.sz n) (hn:n≤800000) (hc:∀c∈l,c.Bj.fits∧c.Bj.small):Ay prog 17 [agg (Bs e),slice 8 (l.map A9),ints s] (D_ [agg (Bs (HE e l s).1),int (HE e l s).2]):=by
 refine fo func17 rfl ⟨rfl,rfl⟩ fun M0 w0=>(Tr.Ed 1 rfl fun PG=>(Tr.Ed 2 rfl fun ZQ=>(Tr.seq (Tr.BL (tp rfl (BK rfl CS) ?_)))))
 refine Tl rfl rfl rfl rfl z32 F5 (fun b1=> ?_)
 refine ap ?_
 refine ac ?_
 refine co rfl (Bn (OR (hz.fits AA)) rfl rfl) ?_
 refine an ?_ ?_<;>intro h1 q1
 have hA:HE e l s=(Bq,31):=if_pos (by have:=q1;cases h_:El e<;>simp_all)
 refine ap ?_
 refine Tr.ret (Fin.AL (Fin.Cj rfl (AR.cell 0 rfl rfl DZ DL rfl Lr) (AR.tmp rfl Lr) ?_))
 refine BT ⟨?_,?_,trivial⟩
 · exact HF
 · exact FG
 have hok:El e=true:=by have:=q1;cases h_:El e<;>simp_all
 refine ac ?_
 refine an ?_ ?_<;>intro h2 q2
 have hA:HE e l s=(Bq,3):=by unfold HE;rw [if_neg HJ,if_pos (by have:=q2;omega)]
 refine ap ?_
 refine Tr.ret (Fin.AL (Fin.Cj rfl (AR.cell 0 rfl rfl DZ DL rfl Lr) (AR.tmp rfl Lr) ?_))
 refine BT ⟨?_,?_,trivial⟩
 · exact HF
 · exact FG
 have xD:l.length≤24:=by have:=q2;omega
 refine a2 ?_
 refine co rfl (Cb (Ua (l:=s) (n:=((l.length:Nat):Int))) rfl rfl rfl) ?_
 refine ac ?_
 refine wk [25,6,3,2,1] rfl ?_
 refine Tr.cn rfl ?_ ?_<;>intro h3 q3
 have hA:HE e l s=(Bq,46):=by unfold HE;rw [if_neg HJ,if_neg AA,if_pos (by simpa using h3)]
 refine ap ?_
 refine Tr.ret (Fin.AL (Fin.Cj rfl (AR.cell 0 rfl rfl DZ DL rfl Lr) (AR.tmp rfl Lr) ?_))
 refine BT ⟨?_,?_,trivial⟩
 · exact HF
 · exact FG
 have hsb:Ep l.length s=true:=by simpa using h3
 have hsn:=V4 hsb
 have hel:=hz.le
 refine ac ?_
 refine ap ?_
 refine TO.N_ rfl rfl AB rfl (OU hz AA) kz (fun v1=> ?_)
 refine Tl rfl rfl rfl rfl z32 F5 (fun b2=> ?_)
 refine ap ?_
 refine Tr.seq (Tr.seq (Tr.Gf 0 1 0 rfl rfl AB rfl Lr (Aj fun _=>rfl) ?_))
 refine ac ?_
 refine Tr.drop 1 (Tr.block (Tr.Kk _ (kk [30,29,8,6,1] rfl) (fun (m:Nat) (Aw:List CO)=>[(31,int ((m:Nat):Int))]) (fun (m:Nat) (Aw:List CO)=>Hp M0 w0 Lw ([AE true b2 32 (Bs ⟨Aw,e.BI,e.items⟩),AE true b1 32 (([.slice none 0 0,.slice none 0 0,.slice none 0 0]:List Value).map is)])) (fun (m:Nat) (Aw:List CO)=>m≤s.length∧(⟨Aw,e.BI,e.items⟩:EA).sz (n+m)∧F9 l (s.drop m) Aw=F9 l s e.Aw) (fun (m:Nat) (Aw:List CO)=>s.length-m) (0) (e.Aw)  (⟨Nat.zero_le _,hz,rfl⟩) kz (fun _ _ h=>h) ?_))
 rintro m Aw  ⟨hm1,fN,kr⟩
 refine ac ?_
 refine Tr.seq ?_
 refine Tr.cn rfl ?_ ?_<;>intro h4 q4
 have gB:m<s.length:=by have:=F4.IB h4;omega
 obtain ⟨i,Fv⟩:=at_ gB
 have nQ:=V5 hsb Fv
 obtain ⟨c,ku⟩:=at_ (l:=l) (k:=i.toNat) AA
 have Ud:=hc c (List.mem_of_getElem? ku)
 have hst:=Lp (Aw:=Aw) Fv ku
 rw [kr] at hst
 refine ac ?_
 refine Tr.seq (Tr.block (Tr.seq (Tr.CL (co rfl (AD rfl underlying50 DC vq vq AA (Ak Fv)) ?_))))
 refine ac ?_
 refine Tr.seq (Tr.pad (Tr.rx ?_))
 refine ax ?_
 refine xo rfl (fun _=>AD rfl underlying42 B0 vq vq AA (E0 (f:=A9) ku)) (xo rfl (fun _=>AX rfl CI B0 vq rfl rfl) ?_)
 refine xo rfl (fun _=>Cb (Pf (e:=⟨Aw,e.BI,e.items⟩) (c:=c) fN AA Ud) rfl rfl rfl) ?_
 refine ax ?_
 refine Cx.ef 0 rfl rfl AB (Em rfl rfl AB rfl z32 F5) (Cx.D7 0 rfl rfl (En rfl rfl rfl rfl CS DL rfl rfl) (xm rfl ?_))
 refine Cx.nil ⟨by kernel_rfl,?_⟩
 refine BV.open_ 0 11 rfl rfl (fun v2=> ?_)
 refine BV.done bF (Fin.VR 11 0 _ rfl rfl (fun _=>rfl) (fun b3=> ?_))
 refine Fin.go (wk [31,30,29,12,11,8,6,1] rfl ?_)
 refine an ?_ ?_<;>intro h5 q5
 obtain ⟨XG,h1_,h2_⟩:=fO (e:=⟨Aw,e.BI,e.items⟩) (c:=c) (by have:=q5;omega)
 have XG:¬(EV Aw c).2=0:=XG
 rw [if_neg XG] at hst
 have hA:HE e l s=(Bq,(M9 ⟨Aw,e.BI,e.items⟩ c).2):=by unfold HE;rw [if_neg HJ,if_neg AA,if_neg (by simp [hsb]),hst,h1_];exact if_neg XG
 refine ap ?_
 refine Tr.drop 0 (Tr.ret (Fin.AL (Fin.Bb (Fin.AL (Fin.AL (Fin.Bb (Fin.AL (Fin.Cj rfl (AR.cell 1 rfl rfl DZ DL rfl Lr) (AR.tmp rfl Lr) ?_))))))))
 refine BT ⟨?_,?_,trivial⟩
 · exact HF
 · exact FG
 have hs0:(M9 ⟨Aw,e.BI,e.items⟩ c).2=0:=by have:=q5;omega
 have hap:(EV Aw c).2=0:=by by_cases h0:(EV Aw c).2=0;exact h0;(exfalso;unfold M9 at hs0;rw [if_neg (show ¬(EV (⟨Aw,e.BI,e.items⟩:EA).Aw c).2=0 from h0)] at hs0;exact h0 hs0)
 refine ac ?_
 refine ap ?_
 refine Tr.drop 0 ?_
 refine ac ?_
 refine Fin.eqC 0 (Bs ⟨(EV Aw c).1,e.BI,e.items⟩) rfl (by rw [(Ue fN Ud hs0).2];rfl) ?_
 exact Fin.Mk (m+1) ((EV Aw c).1)  (⟨⟨by omega,by have h_:=(Ue fN Ud hs0).1;rw [(Ue fN Ud hs0).2] at h_;rw [show n+(m+1)=n+m+1 by omega];exact h_,by rw [hst,if_pos hap]⟩,by omega⟩) ⟨⟨_,rfl,AO m⟩,kz⟩ (fun _ _ h=>h)
 obtain rfl:m=s.length:=by have:=F4.IB h4;omega
 rw [List.drop_length] at kr
 have hA:HE e l s=(⟨Aw,e.BI,e.items⟩,0):=by unfold HE;rw [if_neg HJ,if_neg AA,if_neg (by simp [hsb]),←kr];exact if_pos rfl
 refine ac ?_
 refine ap ?_
 refine Tr.ret (Fin.Cj rfl (AR.cell 1 rfl rfl DZ DL rfl Lr) (AR.tmp rfl Lr) ?_)
 refine BT ⟨?_,?_,trivial⟩
 · rw [hA];exact Lr
 · exact FG
structure ChS (l:List Hf):Prop where
 fits:∀c∈l,c.fits
 small:(⟨0,0,0,l⟩:D9).small
abbrev chE:Pr:=Cp.ex fun l:List Hf=>fact (ChS l) (Je l)
abbrev De (c:BA):List Pr:=[int c.AJ,int c.kind,int c.number,int c.at_,int c.Bj.Bw,int c.Bj.bits,int c.Bj.BB,chE]
structure fP (es:List CO) (c:BA):Prop where
 lo:0≤c.AJ
 hi:c.AJ<(es.length:Nat)
 kind:1≤c.kind∧c.kind≤12
def HD (es:List CO) (l:List BA):Prop:=∀c∈l,fP es c
theorem HD.snoc {es:List CO} {l:List BA} {c:BA} (h:HD es l) (hc:fP es c):HD es (l++[c]):=by
 intro x hx
 rcases List.mem_append.1 hx with hx|hx
 · exact h x hx
 · simp at hx;subst hx;exact hc
theorem HD.two {es:List CO} {l:List BA} {c d:BA} (h:HD es l) (hc:fP es c) (hd:fP es d):HD es (l++[c,d]):=by
 intro x hx
 rcases List.mem_append.1 hx with hx|hx
 · exact h x hx
 · simp at hx;rcases hx with rfl|rfl;exact hc;exact hd
theorem HD.perm {es:List CO} {l m:List BA} (hp:m.Perm l) (h:HD es l):HD es m:=fun c hc=>h c (hp.mem_iff.1 hc)
theorem HD.take {es:List CO} {l:List BA} (h:HD es l):HD es (l.take n):=fun c hc=>h c (List.mem_of_mem_take hc)
theorem fQ:ChS []:=⟨(fun c h=>by cases h),⟨by show 0≤_;omega,(fun c hc=>by cases hc)⟩⟩
theorem K1:Pr.le (is (.slice none 0 0)) chE:=FB [] (Ev fQ (AH 15))
theorem fR {nm:List UInt8} (h:nm∈E8) {a b id key:Int}:Pr.le (kV nm a b id 901 key) chE:=by
 rintro M w v ⟨s,hs,hv⟩
 have hf:=rX (a:=a) (b:=b) (id:=id) (key:=key) (s:=s) h
 exact ⟨_,⟨hf.1,⟨hf.2.chain,hf.2.names⟩⟩,hv⟩
theorem aG {nm:List UInt8} {a b id to key:Int}:(iA nm a b id to key).le (agg [int a,int b,int id,kV nm a b id to key]):=by
 rintro M w v ⟨s,hs,hv⟩
 exact BP (ps:=BJ (Gi nm a b id to key s)) (qs:=[int a,int b,int id,kV nm a b id to key]) ⟨Pr.le_refl _,Pr.le_refl _,Pr.le_refl _,fun M w v h=>⟨s,hs,h⟩,trivial⟩ M w v hv
theorem aH (c:BA) (M:Av) (w:World) (ad:Addr) (n:Nat) (h:Row M w ad n (De c)):∃b:BA,(b.AJ=c.AJ∧b.kind=c.kind∧b.number=c.number∧b.at_=c.at_∧ChS b.Bj.chain)∧Row M w ad n (A9 b):=by
 obtain ⟨ch,h1⟩:=dX (ps:=[int c.AJ,int c.kind,int c.number,int c.at_,int c.Bj.Bw,int c.Bj.bits,int c.Bj.BB]) h
 obtain ⟨h2,h3⟩:=WY (ps:=[int c.AJ,int c.kind,int c.number,int c.at_,int c.Bj.Bw,int c.Bj.bits,int c.Bj.BB]) h1
 exact ⟨⟨c.AJ,c.kind,c.number,c.at_,⟨c.Bj.Bw,c.Bj.bits,c.Bj.BB,ch⟩⟩,⟨rfl,rfl,rfl,rfl,h2⟩,h3⟩
structure rz (es:List CO) (l:List BA):Prop where
 len:l.length≤7
 any:∀c∈l,wh es c
theorem RY {es:List CO} {ms:List BA} (h:HD es ms) (hl:ms.length≤7):Pr.le (slice 8 (ms.map De)) (Cp.ex fun l:List BA=>fact (rz es l) (slice 8 (l.map A9))):=by
 intro M w v hv
 obtain ⟨l,⟨h1,h2⟩,h3⟩:=T9 aH (fun _=>rfl) (fun _=>rfl) ms M w v hv
 refine ⟨l,⟨by omega,fun c hc=> ?_⟩,h3⟩
 obtain ⟨i,hi⟩:=List.getElem?_of_mem hc
 obtain ⟨a,ha⟩:=at_ (l:=ms) (k:=i) (by have:=Ar hi;omega)
 obtain ⟨g1,g2,g3,g4,g5⟩:=h2 i a c ha hi
 have hm:=h a (List.mem_of_getElem? ha)
 exact ⟨by rw [g1];exact hm.lo,by rw [g1];exact hm.hi,by rw [g2];exact hm.kind,g5.fits,⟨g5.small.chain,g5.small.names⟩⟩
theorem fS {s:DS} {e:EA} (hs:Zy e.Aw) (hl:1≤e.Aw.length∧e.Aw.length≤3):BN prog 16 [ptr b 0,agg (Bs e)] (Cp.ex fun l:List BA=>fact (rz e.Aw l) (slice 8 (l.map A9))) (Da b s) (fun _=>Jp 72 b):=by
 refine BN.of func16 rfl rfl Ai fun M0 w0 S rs M1 w1=> ?_
 refine Tr.seq (Tr.CL (co rfl (BK rfl (Va rfl)) (cm rfl (Ch.nil (Fin.go (Tr.seq (Tr.CL (cm rfl (Ch.nil (Fin.go (Tr.seq (Tr.BL (tm rfl ?_)))))))))))))
 refine TO.Kg 0 rfl rfl AB (An rfl rfl AB rfl (CZ AA AA) ⟨ke rfl,ke rfl,trivial⟩) (tp rfl (ki rfl rfl rfl rfl) (tm rfl (TO.Kg 0 rfl rfl AB (An rfl rfl AB rfl (CZ AA AA) ⟨ke rfl,ke rfl,trivial⟩) (tp rfl (ki rfl rfl rfl rfl) (tm rfl (TO.Kg 0 rfl rfl AB (An rfl rfl AB rfl (CZ AA AA) ⟨ke rfl,ke rfl,trivial⟩) (tp rfl (ki rfl rfl rfl rfl) (tm rfl (tm rfl (tm rfl (TO.nil (Fin.go (wk6 0 3 5 6 7 8 rfl (Tr.seq ?_))))))))))))))
 refine Tr.seq (Tr.CL (co rfl (Oa rfl Jr rfl rfl) (co rfl (GX rfl Rz rfl) (co rfl (F3 rfl underlying28 (vl rfl)) (cm rfl (Ch.nil (Fin.go (Tr.block (Tr.N0 67 8 (Tr.G6 [(0,_),(6,_),(7,_),(8,_),(23,_),(24,_)] ⟨ke rfl,ke rfl,ke rfl,ke rfl,ke rfl,ke rfl,trivial⟩ (fun (k:Nat) (ms:List BA) (s2:DS) v=>[(25,int ((k:Nat):Int)),(5,Ao v (lens (ms.map De).length))]) (fun (k:Nat) (ms:List BA) (s2:DS) v=>Hp M0 w0 S (Bf 67 8 (ms.map De) v::Da b s2::As M1 w1::rs)) (fun (k:Nat) (ms:List BA) (s2:DS)=>k≤e.Aw.length∧ms.length≤6*k∧HD e.Aw ms) (fun (k:Nat) (ms:List BA) (s2:DS)=>e.Aw.length-k) (0) ([]) (_) (.slice none 0 0) (⟨Nat.zero_le _,by simp,fun c hc=>by simp at hc⟩) ⟨ke rfl,⟨_,rfl,Km (by rfl)⟩,trivial⟩ (fun _ _ h=>h) ?_))))))))))
 rintro k ms s2 v ⟨hk1,xd,Pg⟩
 refine Tr.seq (Tr.CL (co rfl (ki rfl rfl rfl rfl) (Ch.nil (Fin.go (Tr.seq ?_)))))
 refine Tr.cn rfl ?_ ?_<;>intro h1 q1
 have Ae:k<e.Aw.length:=by have:=F4.IB h1;omega
 obtain ⟨x,Af⟩:=at_ Ae
 have fN:=hs k x Af
 have hnm:=List.mem_of_getElem? fN.name
 refine Tr.skip (Fin.go (Tr.seq (Tr.block (Tr.seq (Tr.BL (tm rfl (tp rfl (AD rfl underlying28 Ba (vl rfl) (vl rfl) AA (Ak Af)) (tp rfl (AX rfl Bv Ba (vl rfl) rfl rfl) ?_))))))))
 refine Tl rfl rfl rfl rfl G7 Dn (fun b1=> ?_)
 refine tm rfl (TO.Ap 0 rfl rfl rfl (vl rfl) (Va rfl) rfl Ba rfl rfl (TO.freeze 0 10 rfl rfl (TO.nil (Fin.go (iV 0 5 6 7 8 9 10 23 24 25 rfl (Tr.Mn [(0,_),(6,_),(7,_),(8,_),(9,_),(10,_),(23,_),(24,_),(25,_)] ⟨ke rfl,ke rfl,ke rfl,ke rfl,ke rfl,ke rfl,ke rfl,ke rfl,ke rfl,trivial⟩ (fun (m1:List BA) (s3:DS) v1=>[(5,Ao v1 (lens (m1.map De).length))]) (fun (m1:List BA) (s3:DS) v1=>Hp M0 w0 S (Bf 67 8 (m1.map De) v1::Da b s3::As M1 w1::rs)) (fun (m1:List BA) (s3:DS)=>m1.length≤6*k+1∧HD e.Aw m1) ?_ ?_))))))
 refine Tr.seq (Tr.CL (cm rfl (cm rfl ?_)))
 refine Ch.cs 31 rfl ?_ ?_<;>intro h2 q2
 refine cy h2 rfl (Oa rfl Fu rfl rfl) (cy h2 rfl (GX rfl O5 rfl) (cy h2 rfl (Ad rfl (V2) ⟨ke rfl,ke rfl,trivial⟩) (cy h2 rfl (NT rfl (vl rfl)) (co rfl (WI rfl rfl h2 rfl) (Ch.nil (Fin.go (Qf 0 5 6 7 8 9 10 23 24 25 36 rfl ?_)))))))
 refine Tr.cn rfl ?_ ?_<;>intro h3 q3
 have NH:=s2.DG (n:=2) AA
 refine Tr.BL (tm rfl (tm rfl (tm rfl (TO.Kg 1 rfl rfl AB (An rfl rfl AB rfl (CZ AA AA) ⟨ke rfl,ke rfl,trivial⟩) (tp rfl (Ax (rows:=[(0,[_]),(1,[_]),(2,[_]),(3,[_])]) rfl Qm F6 ⟨⟨rfl,(Vo rfl)⟩,⟨⟨rfl,(Vo rfl)⟩,⟨⟨rfl,(Vo rfl)⟩,⟨⟨rfl,(Vo rfl)⟩,trivial⟩⟩⟩⟩ rfl) (tp rfl (Ah (xs:=[.tmp 41]) (rows:=[De ⟨((k:Nat):Int),1,12,s2.val 2,⟨0,0,0,[]⟩⟩]) rfl rfl underlying42 B0 K8 rfl AB ⟨⟨Aq,VL.le (vl rfl) (Pr.le_trans (BP (qs:=De _) ⟨Lr,Lr,Lr,Lr,Lr,Lr,Lr,K1,trivial⟩) (AY _))⟩,trivial⟩ AB) ?_))))))
 refine TO.Fw 0 rfl rfl AB (Di rfl rfl AB rfl underlying42 B0 Tt K8 rfl AB AB (vl rfl) (Kf rfl) (Aj fun _=>rfl) (Nat.zero_lt_succ _) IU IV) (fun v1=> ?_)
 refine tm rfl (TO.nil ?_)
 exact Fin.Db (ms++[⟨((k:Nat):Int),1,12,s2.val 2,⟨0,0,0,[]⟩⟩]) (_) v1 (⟨by simp;omega,Pg.snoc ⟨by show 0≤((k:Nat):Int);omega,by show ((k:Nat):Int)<_;omega,by dsimp only;omega⟩⟩) ⟨⟨_,rfl,Cr Aa⟩,ke rfl,ke rfl,ke rfl,ke rfl,ke rfl,ke rfl,ke rfl,ke rfl,ke rfl,trivial⟩ (fun _ _ h=>KT)
 refine Tr.skip (Fin.Db (ms) (_) v (⟨by omega,Pg⟩) ⟨⟨_,rfl,Cr Aa⟩,ke rfl,ke rfl,ke rfl,ke rfl,ke rfl,ke rfl,ke rfl,ke rfl,ke rfl,trivial⟩ (fun _ _ h=>h))
 iterate 4 refine cnt h2 rfl ?_
 refine co rfl (YK rfl rfl h2 rfl) (Ch.nil (Fin.go (Qf 0 5 6 7 8 9 10 23 24 25 36 rfl (Tr.cond rfl (fun h=>nomatch h) (fun _=> ?_)))))
 refine Tr.skip (Fin.Db (ms) (_) v (⟨by omega,Pg⟩) ⟨⟨_,rfl,Cr Aa⟩,ke rfl,ke rfl,ke rfl,ke rfl,ke rfl,ke rfl,ke rfl,ke rfl,ke rfl,trivial⟩ (fun _ _ h=>h))
 rintro m1 s3 v1 ⟨xe,aI⟩
 refine Tr.Mn [(0,_),(6,_),(7,_),(8,_),(9,_),(10,_),(23,_),(24,_),(25,_)] ⟨ke rfl,ke rfl,ke rfl,ke rfl,ke rfl,ke rfl,ke rfl,ke rfl,ke rfl,trivial⟩ (fun (m2:List BA) (s4:DS) v2=>[(5,Ao v2 (lens (m2.map De).length))]) (fun (m2:List BA) (s4:DS) v2=>Hp M0 w0 S (Bf 67 8 (m2.map De) v2::Da b s4::As M1 w1::rs)) (fun (m2:List BA) (s4:DS)=>m2.length≤6*k+2∧HD e.Aw m2) ?_ ?_
 refine Tr.seq (Tr.CL (cm rfl (cm rfl ?_)))
 refine Ch.cs 45 rfl ?_ ?_<;>intro h4 q4
 refine L5 h4 rfl (cy h4 rfl (ki rfl rfl rfl rfl) (co rfl (WI rfl rfl h4 rfl) (Ch.nil (Fin.go (Qf 0 5 6 7 8 9 10 23 24 25 48 rfl ?_)))))
 refine Tr.cn rfl ?_ ?_<;>intro h5 q5
 refine Tr.BL (tm rfl (tm rfl (tp rfl (Ax (rows:=[(0,[_]),(1,[_]),(2,[_])]) rfl Qm F6 ⟨⟨rfl,(Vo rfl)⟩,⟨⟨rfl,(Vo rfl)⟩,⟨⟨rfl,(Vo rfl)⟩,trivial⟩⟩⟩ rfl) (tp rfl (Ah (xs:=[.tmp 51]) (rows:=[De ⟨((k:Nat):Int),7,2,0,⟨0,0,0,[]⟩⟩]) rfl rfl underlying42 B0 K8 rfl AB ⟨⟨Aq,VL.le (vl rfl) (Pr.le_trans (BP (qs:=De _) ⟨Lr,Lr,Lr,Lr,Lr,Lr,Lr,K1,trivial⟩) (AY _))⟩,trivial⟩ AB) ?_))))
 refine TO.Fw 0 rfl rfl AB (Di rfl rfl AB rfl underlying42 B0 Tt K8 rfl AB AB (vl rfl) (Kf rfl) (Aj fun _=>rfl) (Nat.zero_lt_succ _) IU IV) (fun v2=> ?_)
 refine tm rfl (TO.nil ?_)
 exact Fin.Db (m1++[⟨((k:Nat):Int),7,2,0,⟨0,0,0,[]⟩⟩]) (_) v2 (⟨by simp;omega,aI.snoc ⟨by show 0≤((k:Nat):Int);omega,by show ((k:Nat):Int)<_;omega,by dsimp only;omega⟩⟩) ⟨⟨_,rfl,Cr Aa⟩,ke rfl,ke rfl,ke rfl,ke rfl,ke rfl,ke rfl,ke rfl,ke rfl,ke rfl,trivial⟩ (fun _ _ h=>KT)
 refine Tr.skip (Fin.Db (m1) (_) v1 (⟨by omega,aI⟩) ⟨⟨_,rfl,Cr Aa⟩,ke rfl,ke rfl,ke rfl,ke rfl,ke rfl,ke rfl,ke rfl,ke rfl,ke rfl,trivial⟩ (fun _ _ h=>h))
 refine cnt h4 rfl (cnt h4 rfl (co rfl (YK rfl rfl h4 rfl) (Ch.nil (Fin.go (Qf 0 5 6 7 8 9 10 23 24 25 48 rfl (Tr.cond rfl (fun h=>nomatch h) (fun _=> ?_)))))))
 refine Tr.skip (Fin.Db (m1) (_) v1 (⟨by omega,aI⟩) ⟨⟨_,rfl,Cr Aa⟩,ke rfl,ke rfl,ke rfl,ke rfl,ke rfl,ke rfl,ke rfl,ke rfl,ke rfl,trivial⟩ (fun _ _ h=>h))
 rintro m2 s4 v2 ⟨xg,aJ⟩
 refine Tr.Mn [(0,_),(6,_),(7,_),(8,_),(9,_),(10,_),(23,_),(24,_),(25,_)] ⟨ke rfl,ke rfl,ke rfl,ke rfl,ke rfl,ke rfl,ke rfl,ke rfl,ke rfl,trivial⟩ (fun (m3:List BA) (s5:DS) v3=>[(5,Ao v3 (lens (m3.map De).length))]) (fun (m3:List BA) (s5:DS) v3=>Hp M0 w0 S (Bf 67 8 (m3.map De) v3::Da b s5::As M1 w1::rs)) (fun (m3:List BA) (s5:DS)=>m3.length≤6*k+3∧HD e.Aw m3) ?_ ?_
 refine Tr.seq (Tr.CL (cm rfl (cm rfl ?_)))
 refine Ch.cs 55 rfl ?_ ?_<;>intro h6 q6
 refine L5 h6 rfl (cy h6 rfl (ki rfl rfl rfl rfl) (co rfl (WI rfl rfl h6 rfl) (Ch.nil (Fin.go (Qf 0 5 6 7 8 9 10 23 24 25 58 rfl ?_)))))
 refine Tr.cn rfl ?_ ?_<;>intro h7 q7
 have hof:=s4.Qh (l:=[2,1]) Aa
 simp at hof
 refine Tr.pad (Tr.YB mixed [none,none,none,none,none,none,none,some (0,2,true,0),none,none,none,none,none,none,some (0,1,true,73),some (73,1,true,5)] BD (xm rfl (xm rfl (xo rfl (fun _=>Oa rfl YX rfl rfl) (xo rfl (fun _=>GX rfl Nq rfl) (xo rfl (fun _=>Ad rfl (we) trivial) (xm rfl (xo rfl (fun _=>Ah (xs:=[.const (.int .i64 (2)),.const (.int .i64 (1))]) (rows:=[[_],[_]]) rfl rfl underlying22 DC z3 rfl AB ⟨⟨Aq,(Vo rfl)⟩,⟨⟨Aq,(Vo rfl)⟩,trivial⟩⟩ AB) ?_))))))))
 refine Cx.ef 2 rfl rfl AB (An rfl rfl AB rfl (Vd (l:=[2,1]) Aa Aa) ⟨ke rfl,(Kf rfl),trivial⟩) ?_
 refine xo rfl (fun _=>Ad rfl (UP (name:=x.name) (a:=7) (b:=256) (id:=201) (to:=901) (key:=s4.of [2,1]) (rV hnm (.inr ⟨rfl,rfl⟩) AA AA AA) (rW (.inr ⟨rfl,rfl⟩) AA) AA) ⟨ke rfl,ke rfl,ke rfl,ke rfl,ke rfl,trivial⟩) ?_
 refine xo rfl (fun _=>Oa rfl GI rfl rfl) (xo rfl (fun _=>GX rfl gL rfl) (xo rfl (fun _=>F3 rfl underlying77 (vl rfl)) (xo rfl (fun _=>Ax (rows:=[(0,[_]),(1,[_]),(4,_),(3,[_])]) rfl Qm F6 ⟨⟨rfl,(Vo rfl)⟩,⟨⟨rfl,(Vo rfl)⟩,⟨⟨rfl,⟨_,rfl,Pr.le_trans (aG) (AY _)⟩⟩,⟨⟨rfl,(Vo rfl)⟩,trivial⟩⟩⟩⟩ rfl) (xo rfl (fun _=>Ah (xs:=[.tmp 71]) (rows:=[De ⟨((k:Nat):Int),5,0,((x.ids.length:Nat):Int),⟨7,256,201,[]⟩⟩]) rfl rfl underlying42 B0 K8 rfl AB ⟨⟨Aq,VL.le (vl rfl) (Pr.le_trans (BP (qs:=De _) ⟨Lr,Lr,Lr,Lr,Lr,Lr,Lr,fR hnm,trivial⟩) (AY _))⟩,trivial⟩ AB) ?_))))
 refine Cx.ef 1 rfl rfl AB (Di rfl rfl AB rfl underlying42 B0 Tt K8 rfl AB AB (vl rfl) (Kf rfl) (Aj fun _=>rfl) (Nat.zero_lt_succ _) IU IV) ?_
 refine Cx.ef 1 rfl rfl AB (Qc rfl rfl AB rfl (vl rfl)) ?_
 refine Cx.nil ⟨rfl,?_⟩
 refine BV.open_ 1 5 rfl rfl (fun v3=> ?_)
 refine BV.done (Dx.cons (Dx.cons (Dx.cons (Dx.cons (Dx.map _))))) (Fin.drop 0 ?_)
 exact Fin.Db (m2++[⟨((k:Nat):Int),5,0,((x.ids.length:Nat):Int),⟨7,256,201,[]⟩⟩]) (_) v3 (⟨by simp;omega,aJ.snoc ⟨by show 0≤((k:Nat):Int);omega,by show ((k:Nat):Int)<_;omega,by dsimp only;omega⟩⟩) ⟨⟨_,rfl,Cr Aa⟩,ke rfl,ke rfl,ke rfl,ke rfl,ke rfl,ke rfl,ke rfl,ke rfl,ke rfl,trivial⟩ (fun _ _ h=>KT)
 refine Tr.skip (Fin.Db (m2) (_) v2 (⟨by omega,aJ⟩) ⟨⟨_,rfl,Cr Aa⟩,ke rfl,ke rfl,ke rfl,ke rfl,ke rfl,ke rfl,ke rfl,ke rfl,ke rfl,trivial⟩ (fun _ _ h=>h))
 refine cnt h6 rfl (cnt h6 rfl (co rfl (YK rfl rfl h6 rfl) (Ch.nil (Fin.go (Qf 0 5 6 7 8 9 10 23 24 25 58 rfl (Tr.cond rfl (fun h=>nomatch h) (fun _=> ?_)))))))
 refine Tr.skip (Fin.Db (m2) (_) v2 (⟨by omega,aJ⟩) ⟨⟨_,rfl,Cr Aa⟩,ke rfl,ke rfl,ke rfl,ke rfl,ke rfl,ke rfl,ke rfl,ke rfl,ke rfl,trivial⟩ (fun _ _ h=>h))
 rintro m3 s5 v3 ⟨xh,V6⟩
 refine Tr.Mn [(0,_),(6,_),(7,_),(8,_),(9,_),(10,_),(23,_),(24,_),(25,_)] ⟨ke rfl,ke rfl,ke rfl,ke rfl,ke rfl,ke rfl,ke rfl,ke rfl,ke rfl,trivial⟩ (fun (m4:List BA) (s6:DS) v4=>[(5,Ao v4 (lens (m4.map De).length))]) (fun (m4:List BA) (s6:DS) v4=>Hp M0 w0 S (Bf 67 8 (m4.map De) v4::Da b s6::As M1 w1::rs)) (fun (m4:List BA) (s6:DS)=>m4.length≤6*k+4∧HD e.Aw m4) ?_ ?_
 refine Tr.seq (Tr.BL (tm rfl (tm rfl ?_)))
 refine TO.cases 75 rfl (fun h8=> ?_) (fun h8=> ?_)
 have q8:=F4.IB h8
 refine TO.Yu rfl rfl rfl h8 rfl AB (Oa rfl Fu rfl rfl) (TO.Yu rfl rfl rfl h8 rfl AB (GX rfl O5 rfl) (TO.Yu rfl rfl rfl h8 rfl AB (Ad rfl (V2) ⟨ke rfl,ke rfl,trivial⟩) (tp rfl (WI rfl rfl h8 rfl) (tm rfl ?_))))
 refine TO.cases 80 rfl (fun h9=> ?_) (fun h9=> ?_)
 have q9:=F4.IB h9
 refine TO.Yu rfl rfl rfl h9 rfl AB (BU rfl (vl rfl)) (TO.pz 1 rfl rfl rfl h9 rfl rfl AB (An rfl rfl AB rfl (CZ AA AA) ⟨ke rfl,ke rfl,trivial⟩) (TO.Yu rfl rfl rfl h9 rfl AB (ki rfl rfl rfl rfl) (tp rfl (WI rfl rfl h9 rfl) (TO.nil (Fin.go (Qf 0 5 6 7 8 9 10 23 24 25 84 rfl ?_))))))
 refine Tr.cn rfl ?_ ?_<;>intro h10 SH
 refine Tr.BL (tm rfl (tm rfl (tp rfl (Ax (rows:=[(0,[_]),(1,[_]),(2,[_])]) rfl Qm F6 ⟨⟨rfl,(Vo rfl)⟩,⟨⟨rfl,(Vo rfl)⟩,⟨⟨rfl,(Vo rfl)⟩,trivial⟩⟩⟩ rfl) (tp rfl (Ah (xs:=[.tmp 87]) (rows:=[De ⟨((k:Nat):Int),2,2,0,⟨0,0,0,[]⟩⟩]) rfl rfl underlying42 B0 K8 rfl AB ⟨⟨Aq,VL.le (vl rfl) (Pr.le_trans (BP (qs:=De _) ⟨Lr,Lr,Lr,Lr,Lr,Lr,Lr,K1,trivial⟩) (AY _))⟩,trivial⟩ AB) ?_))))
 refine TO.Fw 0 rfl rfl AB (Di rfl rfl AB rfl underlying42 B0 Tt K8 rfl AB AB (vl rfl) (Kf rfl) (Aj fun _=>rfl) (Nat.zero_lt_succ _) IU IV) (fun v4=> ?_)
 refine tm rfl (TO.nil ?_)
 exact Fin.Db (m3++[⟨((k:Nat):Int),2,2,0,⟨0,0,0,[]⟩⟩]) (_) v4 (⟨by simp;omega,V6.snoc ⟨by show 0≤((k:Nat):Int);omega,by show ((k:Nat):Int)<_;omega,by dsimp only;omega⟩⟩) ⟨⟨_,rfl,Cr Aa⟩,ke rfl,ke rfl,ke rfl,ke rfl,ke rfl,ke rfl,ke rfl,ke rfl,ke rfl,trivial⟩ (fun _ _ h=>KT)
 refine Tr.skip (Fin.Db (m3) (_) v3 (⟨by omega,V6⟩) ⟨⟨_,rfl,Cr Aa⟩,ke rfl,ke rfl,ke rfl,ke rfl,ke rfl,ke rfl,ke rfl,ke rfl,ke rfl,trivial⟩ (fun _ _ h=>h))
 have q9:=F4.IB h9
 refine TO.Vc rfl rfl rfl (DM h9) rfl AB (TO.Vc rfl rfl rfl (DM h9) rfl AB (TO.Vc rfl rfl rfl (DM h9) rfl AB (tp rfl (YK rfl rfl h9 rfl) (TO.nil (Fin.go (Qf 0 5 6 7 8 9 10 23 24 25 84 rfl (Tr.cond rfl (fun h=>nomatch h) (fun _=> ?_))))))))
 refine Tr.skip (Fin.Db (m3) (_) v3 (⟨by omega,V6⟩) ⟨⟨_,rfl,Cr Aa⟩,ke rfl,ke rfl,ke rfl,ke rfl,ke rfl,ke rfl,ke rfl,ke rfl,ke rfl,trivial⟩ (fun _ _ h=>h))
 have q8:=F4.IB h8
 refine TO.Vc rfl rfl rfl (DM h8) rfl AB (TO.Vc rfl rfl rfl (DM h8) rfl AB (TO.Vc rfl rfl rfl (DM h8) rfl AB (tp rfl (YK rfl rfl h8 rfl) (tm rfl (TO.Vc rfl rfl rfl (DM rfl) rfl AB (TO.Vc rfl rfl rfl (DM rfl) rfl AB (TO.Vc rfl rfl rfl (DM rfl) rfl AB (tp rfl (YK rfl rfl rfl rfl) (TO.nil (Fin.go (Qf 0 5 6 7 8 9 10 23 24 25 84 rfl (Tr.cond rfl (fun h=>nomatch h) (fun _=> ?_)))))))))))))
 refine Tr.skip (Fin.Db (m3) (_) v3 (⟨by omega,V6⟩) ⟨⟨_,rfl,Cr Aa⟩,ke rfl,ke rfl,ke rfl,ke rfl,ke rfl,ke rfl,ke rfl,ke rfl,ke rfl,trivial⟩ (fun _ _ h=>h))
 rintro m4 s6 v4 ⟨xj,aK⟩
 refine Tr.seq (Tr.CL (cm rfl (cm rfl ?_)))
 refine Ch.cs 91 rfl ?_ ?_<;>intro h11 T8
 refine cy h11 rfl (Oa rfl YY rfl rfl) (cy h11 rfl (GX rfl C1 rfl) (cy h11 rfl (ki rfl rfl rfl rfl) (co rfl (WI rfl rfl h11 rfl) (Ch.nil (Fin.go (iV 0 5 6 7 8 9 23 24 25 95 rfl ?_))))))
 refine Tr.cn rfl ?_ ?_<;>intro h12 Ws
 refine Tr.BL (tm rfl (tm rfl (tp rfl (Ax (rows:=[(0,[_]),(1,[_]),(2,[_])]) rfl Qm F6 ⟨⟨rfl,(Vo rfl)⟩,⟨⟨rfl,(Vo rfl)⟩,⟨⟨rfl,(Vo rfl)⟩,trivial⟩⟩⟩ rfl) (tm rfl (tp rfl (Ax (rows:=[(0,[_]),(1,[_]),(2,[_])]) rfl Qm F6 ⟨⟨rfl,(Vo rfl)⟩,⟨⟨rfl,(Vo rfl)⟩,⟨⟨rfl,(Vo rfl)⟩,trivial⟩⟩⟩ rfl) (tp rfl (Ah (xs:=[.tmp 98,.tmp 100]) (rows:=[De ⟨((k:Nat):Int),3,4,0,⟨0,0,0,[]⟩⟩,De ⟨((k:Nat):Int),1,14,0,⟨0,0,0,[]⟩⟩]) rfl rfl underlying42 B0 K8 rfl AB ⟨⟨Aq,VL.le (vl rfl) (Pr.le_trans (BP (qs:=De _) ⟨Lr,Lr,Lr,Lr,Lr,Lr,Lr,K1,trivial⟩) (AY _))⟩,⟨⟨Aq,VL.le (vl rfl) (Pr.le_trans (BP (qs:=De _) ⟨Lr,Lr,Lr,Lr,Lr,Lr,Lr,K1,trivial⟩) (AY _))⟩,trivial⟩⟩ AB) ?_))))))
 refine TO.Fw 0 rfl rfl AB (Di rfl rfl AB rfl underlying42 B0 Tt K8 rfl AB AB (vl rfl) (Kf rfl) (Aj fun _=>rfl) (Nat.zero_lt_succ _) IU IV) (fun v5=> ?_)
 refine tm rfl (TO.nil (Fin.block (Fin.go (wk8 0 5 6 7 8 23 24 25 rfl (Tr.CL (lp rfl rfl rfl rfl AA (cm rfl (Ch.nil ?_))))))))
 exact Fin.EU (k+1) (m4++[⟨((k:Nat):Int),3,4,0,⟨0,0,0,[]⟩⟩,⟨((k:Nat):Int),1,14,0,⟨0,0,0,[]⟩⟩]) (_) v5 (⟨⟨by omega,by simp;omega,aK.two ⟨by show 0≤((k:Nat):Int);omega,by show ((k:Nat):Int)<_;omega,by dsimp only;omega⟩ ⟨by show 0≤((k:Nat):Int);omega,by show ((k:Nat):Int)<_;omega,by dsimp only;omega⟩⟩,by omega⟩) ⟨⟨_,rfl,AO k⟩,⟨_,rfl,Cr Aa⟩,ke rfl,ke rfl,ke rfl,ke rfl,ke rfl,ke rfl,trivial⟩ (fun _ _ h=>KT)
 refine Tr.skip (Fin.block (Fin.go (Tr.CL (lp rfl rfl rfl rfl AA (cm rfl (Ch.nil (Fin.EU (k+1) (m4) (_) v4 (⟨⟨by omega,by omega,aK⟩,by omega⟩) ⟨⟨_,rfl,AO k⟩,⟨_,rfl,Cr Aa⟩,ke rfl,ke rfl,ke rfl,ke rfl,ke rfl,ke rfl,trivial⟩ (fun _ _ h=>h))))))))
 refine cnt h11 rfl (cnt h11 rfl (cnt h11 rfl (co rfl (YK rfl rfl h11 rfl) (Ch.nil (Fin.go (iV 0 5 6 7 8 9 23 24 25 95 rfl (Tr.cond rfl (fun h=>nomatch h) (fun _=> ?_))))))))
 refine Tr.skip (Fin.block (Fin.go (Tr.CL (lp rfl rfl rfl rfl AA (cm rfl (Ch.nil (Fin.EU (k+1) (m4) (_) v4 (⟨⟨by omega,by omega,aK⟩,by omega⟩) ⟨⟨_,rfl,AO k⟩,⟨_,rfl,Cr Aa⟩,ke rfl,ke rfl,ke rfl,ke rfl,ke rfl,ke rfl,trivial⟩ (fun _ _ h=>h))))))))
 have:=h1
 refine Tr.exit (Fin.BH (Fin.BH (Fin.Bu (Fin.go (Tr.seq (Tr.block ?_))))))
 rcases Nat.eq_zero_or_pos ms.length with h0|h0
 refine Tr.Bc [(0,_)] ⟨ke rfl,trivial⟩ (fun _=>[(5,Ao v (lens (ms.map De).length))]) (fun _=>True) (fun _=>0) () (trivial) ⟨ke rfl,trivial⟩ ?_
 rintro _ _
 refine Tr.seq (Tr.seq (Tr.CL (cm rfl (co rfl (SC rfl underlying42 (Kb rfl)) (co rfl (ki rfl rfl rfl rfl) (Ch.nil (Fin.go ?_)))))))
 refine Tr.cn rfl ?_ ?_<;>intro Mo Xh
 exfalso;have h_:=F4.IB Mo;rw [List.length_map] at h_;omega
 have:=Mo
 refine Tr.exit (Fin.BH (Fin.BH (Fin.Bu (Fin.go (Tr.seq (Tr.seq ?_))))))
 have hv4:=s2.DG (n:=4) AA
 refine Tr.BL (tm rfl (TO.Kg 1 rfl rfl AB (An rfl rfl AB rfl (CZ AA AA) ⟨ke rfl,ke rfl,trivial⟩) (tm rfl (TO.nil (Fin.go (Tr.block (Tr.Kk [(0,_)] ⟨ke rfl,trivial⟩ (fun (q:Int) (s9:DS)=>[(11,int q),(5,Ao v (lens (ms.map De).length))]) (fun (q:Int) (s9:DS)=>Hp M0 w0 S (Bf 67 8 (ms.map De) v::Da b s9::As M1 w1::rs)) (fun (q:Int) (s9:DS)=>True) (fun (q:Int) (s9:DS)=>q.toNat) (_) (_)  (trivial) ⟨ke rfl,ke rfl,trivial⟩ (fun _ _ h=>h) ?_)))))))
 rintro q s9  _
 refine Tr.seq (Tr.seq (Tr.CL (cm rfl (co rfl (ki rfl rfl rfl rfl) (cm rfl ?_)))))
 refine Ch.cs 116 rfl ?_ ?_<;>intro Lh ec
 refine L5 Lh rfl (cy Lh rfl (SC rfl underlying42 (Kb rfl)) (cy Lh rfl (ki rfl rfl rfl rfl) (co rfl (WI rfl rfl Lh rfl) (Ch.nil (Fin.go ?_)))))
 refine Tr.cn rfl ?_ ?_<;>intro TE hO
 exfalso;have h_:=F4.IB TE;rw [List.length_map] at h_;omega
 have:=TE
 refine Tr.exit (Fin.BH (Fin.BH (Fin.Bu (Fin.go (Tr.seq (Tr.Yn 0 5 rfl rfl (Aj fun _=>rfl) (Tr.CL (cm rfl (cm rfl (Ch.nil (Fin.go (Tr.ret (Fin.Jq 1 _ rfl rfl (Fin.Ge [_] rfl (AR.tmp rfl (Lr)) ?_ (fun _ _ _ _=>rfl)))))))))))))))
 · exact Pr.le_trans (BF _ _) (RY Pg AA)
 refine cnt Lh rfl (cnt Lh rfl (cnt Lh rfl (co rfl (YK rfl rfl Lh rfl) (Ch.nil (Fin.go (Tr.cond rfl (fun h=>nomatch h) (fun _=> ?_)))))))
 refine Tr.exit (Fin.BH (Fin.BH (Fin.Bu (Fin.go (Tr.seq (Tr.Yn 0 5 rfl rfl (Aj fun _=>rfl) (Tr.CL (cm rfl (cm rfl (Ch.nil (Fin.go (Tr.ret (Fin.Jq 1 _ rfl rfl (Fin.Ge [_] rfl (AR.tmp rfl (Lr)) ?_ (fun _ _ _ _=>rfl)))))))))))))))
 · exact Pr.le_trans (BF _ _) (RY Pg AA)
 refine Tr.pS (sz:=8) 0 rfl (by intro h_;simp at h_;rw [h_] at h0;simp at h0) fun b9 r6 sp9 hv9 hg9 hm9 hs9=> ?_
 subst hv9
 rw [List.length_map] at hg9 hs9
 refine Tr.Nl [(0,_)] ⟨ke rfl,trivial⟩ (fun (m:Nat)=>[(5,is (.slice (some ⟨b9,0,none⟩) m r6))]) (fun (m:Nat)=>Hp M0 w0 S (AE true b9 67 ((ms.map De).flatten++sp9.map is)::Da b s2::As M1 w1::rs)) (fun (m:Nat)=>1≤m∧m≤ms.length) (fun (m:Nat)=>m) (ms.length)  (⟨h0,Nat.le_refl _⟩) ⟨⟨_,rfl,Pr.le_trans (Cz _ _) (Pr.le_of_eq HI)⟩,trivial⟩ (fun _ _ h=>h) ?_
 rintro m  ⟨hm1,hm2⟩
 refine Tr.seq (Tr.seq (Tr.CL (cm rfl (co rfl (Dw rfl underlying42 (vl rfl)) (co rfl (ki rfl rfl rfl rfl) (Ch.nil (Fin.go ?_)))))))
 refine Tr.cn rfl ?_ ?_<;>intro h16 kT
 have hm7:7<m:=by have:=F4.IB h16;omega
 refine Tr.skip (Fin.go (Tr.block (Tr.CL (cm rfl (cm rfl (co rfl (Dw rfl underlying42 (vl rfl)) (csu rfl rfl rfl rfl AA (co rfl (Fg rfl underlying42 B0 (vl rfl) (vl rfl) AA AA AA AA) (cm rfl (Ch.nil (Fin.block ?_)))))))))))
 exact Fin.Qg (m-1)  (⟨⟨by omega,by omega⟩,by omega⟩) ⟨⟨_,rfl,Pr.le_of_eq (by congr 2;omega)⟩,ke rfl,trivial⟩ (fun _ _ h=>h)
 have hm7:m≤7:=by have:=F4.IB h16;omega
 refine Tr.exit (Fin.BH (Fin.BH (Fin.Bu (Fin.go (Tr.seq (Tr.seq ?_))))))
 have hv4:=s2.DG (n:=4) AA
 refine Tr.BL (tm rfl (TO.Kg 1 rfl rfl AB (An rfl rfl AB rfl (CZ AA AA) ⟨ke rfl,ke rfl,trivial⟩) (tm rfl (TO.nil (Fin.go (Tr.block (Tr.Rw [(0,_)] ⟨ke rfl,trivial⟩ (fun (q:Int) (ns:List BA) (s9:DS)=>[(11,int q),(5,is (.slice (some ⟨b9,0,none⟩) m r6))]) (fun (q:Int) (ns:List BA) (s9:DS)=>Hp M0 w0 S (AE true b9 67 ((ns.map De).flatten++sp9.map is)::Da b s9::As M1 w1::rs)) (fun (q:Int) (ns:List BA) (s9:DS)=>(ns.length=ms.length∧q≤3)∧HD e.Aw ns) (fun (q:Int) (ns:List BA) (s9:DS)=>q.toNat) (_) (ms) (_)  (⟨⟨rfl,by omega⟩,Pg⟩) ⟨ke rfl,ke rfl,trivial⟩ (fun _ _ h=>h) ?_)))))))
 rintro q ns s9  ⟨⟨hn1,hn3⟩,hn2⟩
 refine Tr.seq (Tr.seq (Tr.CL (cm rfl (co rfl (ki rfl rfl rfl rfl) (cm rfl ?_)))))
 refine Ch.cs 116 rfl ?_ ?_<;>intro Oj dU
 refine L5 Oj rfl (cy Oj rfl (Dw rfl underlying42 (vl rfl)) (cy Oj rfl (ki rfl rfl rfl rfl) (co rfl (WI rfl rfl Oj rfl) (Ch.nil (Fin.go ?_)))))
 refine Tr.cn rfl ?_ ?_<;>intro PI jw
 have hq1:=F4.IB PI
 refine Tr.skip (Fin.go (Tr.seq (Tr.block (Tr.seq ?_))))
 have hvm:=s9.DG (n:=((m:Nat):Int)-1) AA
 refine Tr.BL (tm rfl (tm rfl (tp rfl (Dw rfl underlying42 (vl rfl)) ?_)))
 refine tp rfl (Th rfl (vl rfl) (vl rfl) ?hin) ?_;case hin=>unfold Tg;omega
 refine TO.Kg 1 rfl rfl AB (An rfl rfl AB rfl (CZ AA AA) ⟨ke rfl,ke rfl,trivial⟩) (tm rfl (TO.nil (Fin.go (wk4 0 5 11 12 rfl (Tr.YB mixed [none,none,none,none,none,none,none,none,none,some (0,0,false,0),none,none,none,some (0,0,false,0),none,some (0,0,true,0),none,some (0,0,true,0)] BD ?_)))))
 iterate 4 refine xm rfl ?_
 refine xo rfl (fun _=>LP rfl (vl rfl) (vl rfl) ?hin) ?_;case hin=>unfold Tg;omega
 refine xm rfl (xm rfl ?_)
 refine xo rfl (fun _=>LP rfl (vl rfl) (vl rfl) ?hin) ?_;case hin=>unfold Tg;omega
 refine xo rfl (fun _=>DA rfl underlying42 B0 (vl rfl) (vl rfl) AA AA) (IC 0 rfl rfl (Cf rfl CI B0 (vl rfl) (JH (f:=De) (fun _=>rfl) AA) rfl) (xm rfl (xm rfl (xo rfl (fun _=>DA rfl underlying42 B0 (vl rfl) (vl rfl) AA AA) (IC 0 rfl rfl (Cf rfl CI B0 (vl rfl) (JH (f:=De) (fun _=>rfl) AA) rfl) (xo rfl (fun _=>DA rfl underlying42 B0 (vl rfl) (vl rfl) AA AA) ?_))))))
 refine Cx.D7 0 rfl rfl (Bm rfl rfl (vl rfl) (Va rfl) B0 rfl (by rw [LI (sz:=8) (fun _=>rfl)];omega) (HX (f:=De) (fun _=>rfl) AA)) ?_
 refine xo rfl (fun _=>DA rfl underlying42 B0 (vl rfl) (vl rfl) AA AA) ?_
 refine Cx.D7 0 rfl rfl (Bm rfl rfl (vl rfl) (Va rfl) B0 rfl U8 (HX (f:=De) (fun _=>rfl) (by simp only [List.length_set];omega))) ?_
 refine Cx.nil ⟨rfl,?_⟩
 refine BV.done (Dx.cons (Dx.cons (Dx.cons (Dx.map _)))) (Fin.block (Fin.go (wk3 0 5 11 rfl (Tr.CL (cm rfl (csu rfl rfl rfl rfl AA (cm rfl (Ch.nil (Fin.Gd (q-1) (_) (_)  (⟨⟨⟨(N2 AA AA).length_eq.trans hn1,by omega⟩,HD.perm (N2 AA AA) hn2⟩,by omega⟩) ⟨⟨_,rfl,int_eq AA⟩,ke rfl,ke rfl,trivial⟩ (fun _ _ h=>h))))))))))
 have:=PI
 refine Tr.exit (Fin.BH (Fin.BH (Fin.Bu (Fin.go (Tr.seq (Tr.eqC 0 (((ns.take m).map De).flatten++(((ns.drop m).map De).flatten++sp9.map is)) rfl Ux ?_))))))
 have hnt:(ns.take m).length=m:=by rw [List.length_take];omega
 refine Tr.Qu (sz:=8) ((ns.take m).map De) 0 5 rfl rfl (Pr.le_of_eq (by rw [List.length_map,hnt])) (Aj fun _=>rfl) CT hm9 Xx ?_
 refine Tr.CL (cm rfl (cm rfl (Ch.nil (Fin.go (Tr.ret (Fin.Jq 1 _ rfl rfl (Fin.Ge [_] rfl (AR.tmp rfl (Lr)) ?_ (fun _ _ _ _=>rfl))))))))
 · exact Pr.le_trans (BF _ _) (RY hn2.take AA)
 refine cnt Oj rfl (cnt Oj rfl (cnt Oj rfl (co rfl (YK rfl rfl Oj rfl) (Ch.nil (Fin.go (Tr.cond rfl (fun h=>nomatch h) (fun _=> ?_)))))))
 refine Tr.exit (Fin.BH (Fin.BH (Fin.Bu (Fin.go (Tr.seq (Tr.eqC 0 (((ns.take m).map De).flatten++(((ns.drop m).map De).flatten++sp9.map is)) rfl Ux ?_))))))
 have hnt:(ns.take m).length=m:=by rw [List.length_take];omega
 refine Tr.Qu (sz:=8) ((ns.take m).map De) 0 5 rfl rfl (Pr.le_of_eq (by rw [List.length_map,hnt])) (Aj fun _=>rfl) CT hm9 Xx ?_
 refine Tr.CL (cm rfl (cm rfl (Ch.nil (Fin.go (Tr.ret (Fin.Jq 1 _ rfl rfl (Fin.Ge [_] rfl (AR.tmp rfl (Lr)) ?_ (fun _ _ _ _=>rfl))))))))
 · exact Pr.le_trans (BF _ _) (RY hn2.take AA)
structure Ou (n:Int) (k:Nat) (l:List Int):Prop where
 at_:∀j,j<l.length→setAt n l j=true
 lt:∀x∈l,x<(k:Int)
 len:l.length≤k
theorem Ou.nil (n:Int) (k:Nat):Ou n k []:=⟨fun j hj=>by simp at hj,fun x hx=>by simp at hx,by simp⟩
theorem Ou.step {n:Int} (h:Ou n k l):Ou n (k+1) l:=⟨h.at_,fun x hx=>by have:=h.lt x hx;omega,by have:=h.len;omega⟩
theorem Ou.snoc {n:Int} (h:Ou n k l) (hk:(k:Int)<n):Ou n (k+1) (l++[(k:Int)]):=by
 refine ⟨fun j hj=> ?_,fun x hx=> ?_,by have:=h.len;simp;omega⟩
 ·
  rw [List.length_append] at hj;simp at hj
  rcases Nat.lt_or_ge j l.length with hl|hl
  ·
   have:=h.at_ j hl
   unfold setAt at this ⊢
   rw [List.getElem?_append_left hl,List.getElem?_append_left (show j-1<l.length by omega)];exact this
  ·
   have:j=l.length:=by omega
   subst this
   unfold setAt
   rw [List.getElem?_append_right (Nat.le_refl _),Nat.sub_self]
   rcases Nat.eq_zero_or_pos l.length with hz|hz
   ·
    obtain rfl:=List.eq_nil_of_length_eq_zero hz
    simp;omega
   ·
    obtain ⟨y,hy⟩:=Cp.at_ (l:=l) (k:=l.length-1) AA
    rw [List.getElem?_append_left (show l.length-1<l.length by omega),hy]
    have:=h.lt y (List.mem_of_getElem? hy)
    simp;omega
 ·
  rcases List.mem_append.1 hx with hx|hx
  · have:=h.lt x hx;omega
  · simp at hx;subst hx;omega
theorem Ou.set {n:Int} (h:Ou n k l):Ep n l=true:=Br.2 h.at_
def m_:List (Int×Int):=[(2,0),(1,0),(5,2048),(16,128),(3,0),(15,168)]
def V7 (v:Int):Int×Int:=m_[v.toNat]?.getD (2,0)
theorem r7 {v:Int} (h:0≤v∧v<6):(m_.map fun u=>[int u.1,int u.2])[v.toNat]? =some [int (V7 v).1,int (V7 v).2]:=by
 have hl:v.toNat<m_.length:=by show v.toNat<6;omega
 unfold V7;rw [List.getElem?_map,List.getElem?_eq_getElem hl];rfl
theorem k5:∀u∈m_,Bx u.1 u.2>0:=by decide+kernel
theorem iE (v:Int):Bx (V7 v).1 (V7 v).2>0:=by
 unfold V7
 cases h:m_[v.toNat]? with
 |none=>decide+kernel
 |some u=>exact k5 u (List.mem_of_getElem? h)
def KG:Nat→DS→Int→List Sy→List Sy×Int×DS
 |0,s,day,l=>(l,day,s)
 |k+1,s,day,l=>KG k s.CN.CN (day+1+s.CN.of [5,30,0,100]) (l++[⟨(V7 (s.val 6)).1,(V7 (s.val 6)).2,day⟩])
abbrev Dp (s:DS):List Sy×Int×DS:=KG (1+s.CN.CN.CN.val 3).toNat s.CN.CN.CN.CN (s.CN.CN.val 20) []
def Ph (s:DS) (name:List UInt8):LA:=⟨name,1+s.val 2,1+s.CN.val 4,(Dp s).1,((Dp s).1[0]?.getD D5).day+(Dp s).2.2.of [50,300,0,3000]⟩
def r8 (s:DS):DS:=(Dp s).2.2.CN
structure XI (l:List Sy) (day:Int):Prop where
 lo:0≤day
 hi:day≤20+101*(l.length:Nat)
 at_:∀j,j<l.length→EX l j=true
 lt:∀x∈l,x.day<day
theorem S0 {l:List Sy} {day d:Int} {u:Int×Int} (h:XI l day) (h3:l.length≤3) (hu:Bx u.1 u.2>0) (hd:0≤d∧d≤100):XI (l++[⟨u.1,u.2,day⟩]) (day+1+d):=by
 have h0:=h.lo;have h1:=h.hi
 refine ⟨by omega,by rw [List.length_append];simp;omega,fun j hj=> ?_,fun x hx=> ?_⟩
 ·
  rw [List.length_append] at hj;simp at hj
  rcases Nat.lt_or_ge j l.length with hl|hl
  ·
   have:=h.at_ j hl
   unfold EX at this ⊢
   rw [List.getElem?_append_left hl,List.getElem?_append_left (show j-1<l.length by omega)];exact this
  ·
   have:j=l.length:=by omega
   subst this
   unfold EX
   rw [List.getElem?_append_right (Nat.le_refl _),Nat.sub_self]
   rcases Nat.eq_zero_or_pos l.length with hz|hz
   ·
    obtain rfl:=List.eq_nil_of_length_eq_zero hz
    simp [hu];simp at h1;omega
   ·
    obtain ⟨y,hy⟩:=at_ (l:=l) (k:=l.length-1) AA
    rw [List.getElem?_append_left (show l.length-1<l.length by omega),hy]
    have:=h.lt y (List.mem_of_getElem? hy)
    simp [hu];omega
 ·
  rcases List.mem_append.1 hx with hx|hx
  · have:=h.lt x hx;omega
  · simp at hx;subst hx;show day<_;omega
theorem Uh (s:DS):0≤s.of [5,30,0,100]∧s.of [5,30,0,100]≤100:=by have:=s.Qh (l:=[5,30,0,100]) Aa;simp at this;omega
theorem aL (s:DS):0≤s.of [50,300,0,3000]∧s.of [50,300,0,3000]≤3000:=by have:=s.Qh (l:=[50,300,0,3000]) Aa;simp at this;omega
theorem Pj:∀(k:Nat) (s:DS) (day:Int) (l:List Sy),XI l day→l.length+k≤3→XI (KG k s day l).1 (KG k s day l).2.1∧(KG k s day l).1.length=l.length+k
 |0,s,day,l,h,_=>⟨h,rfl⟩
 |k+1,s,day,l,h,hk=>by
  have:=Pj k s.CN.CN (day+1+s.CN.of [5,30,0,100]) (l++[⟨(V7 (s.val 6)).1,(V7 (s.val 6)).2,day⟩]) (S0 h AA (iE _) (Uh _)) CK
  refine ⟨this.1,?_⟩
  show (KG k _ _ _).1.length=_
  rw [this.2];simp;omega
structure Ui (x:LA):Prop where
 ok:Fy x=true
 name:x.name.length≤32
 links:x.links.length≤3
theorem V8 {s:DS} {name:List UInt8} (hn:named name=true):Ui (Ph s name):=by
 have h2:=s.DG (n:=2) AA
 have h4:=s.CN.DG (n:=4) AA
 have Ol:=s.CN.CN.DG (n:=20) AA
 have h3:=s.CN.CN.CN.DG (n:=3) AA
 have hI:XI [] (s.CN.CN.val 20):=⟨by omega,by simp;omega,fun j hj=>by simp at hj,fun x hx=>by simp at hx⟩
 obtain ⟨hL,hl⟩:=Pj (1+s.CN.CN.CN.val 3).toNat s.CN.CN.CN.CN (s.CN.CN.val 20) [] hI CK
 simp only [List.length_nil,Nat.zero_add] at hl
 have hlen:(Dp s).1.length=(1+s.CN.CN.CN.val 3).toNat:=hl
 have hu:=aL (Dp s).2.2
 obtain ⟨c,hc⟩:=at_ (l:=(Dp s).1) (k:=0) AA
 have hg:=getD_at (d:=D5) hc
 have hc1:=hL.lt c (List.mem_of_getElem? hc)
 have hc2:=hL.hi
 refine ⟨Et.2 ⟨hn,?_,?_,?_,?_,?_,hL.at_,?_,?_⟩,JR hn,?_⟩
 · show 1+s.val 2=1∨1+s.val 2=2;omega
 · show 1≤1+s.CN.val 4;omega
 · show 1+s.CN.val 4≤4;omega
 · show 1≤(Dp s).1.length;omega
 · show (Dp s).1.length≤8;omega
 · show ((Dp s).1[0]?.getD D5).day≤((Dp s).1[0]?.getD D5).day+_;omega
 · show ((Dp s).1[0]?.getD D5).day+_≤40000;rw [hg];omega
 · show (Dp s).1.length≤3;omega
theorem V9 {s:DS} {name:List UInt8}:BN prog 27 [ptr b 0,str name] (agg (Fl (Ph s name))) (Da b s) (fun _=>Da b (r8 s)):=by
 refine BN.of func27 rfl rfl Ai fun M0 w0 S rs M1 w1=> ?_
 have NH:=s.DG (n:=2) AA
 have hv4:=s.CN.DG (n:=4) AA
 have yE:=s.CN.CN.DG (n:=20) AA
 have hv3:=s.CN.CN.CN.DG (n:=3) AA
 refine Tr.seq (Tr.BL ?_)
 refine Tl rfl rfl rfl rfl YZ WL (fun b1=> ?_)
 refine ao ?_
 refine ao ?_
 refine TO.Kg 1 rfl rfl AB (An rfl rfl AB rfl (CZ AA AA) ⟨ke rfl,ke rfl,trivial⟩) ?_
 refine ao ?_
 refine TO.Kg 1 rfl rfl AB (An rfl rfl AB rfl (CZ AA AA) ⟨ke rfl,ke rfl,trivial⟩) ?_
 refine ao ?_
 refine Tl rfl rfl rfl rfl YZ WL (fun b2=> ?_)
 refine TO.Ap 0 rfl rfl rfl vq CS rfl GJ rfl rfl ?_
 refine ao ?_
 refine ao ?_
 refine TO.Kg 2 rfl rfl AB (An rfl rfl AB rfl (CZ AA AA) ⟨ke rfl,ke rfl,trivial⟩) ?_
 refine ao ?_
 refine wk [6,5,4,0] rfl ?_
 refine ao ?_
 refine TO.Kg 2 rfl rfl AB (An rfl rfl AB rfl (CZ AA AA) ⟨ke rfl,ke rfl,trivial⟩) ?_
 refine ao ?_
 refine Tr.block (Tr.JU 0 [str name,int (1+s.val 2),int (1+s.CN.val 4),Ao (.slice none 0 0) (aA []),is (.int .i64 0)] rfl ⟨Lr,Lr,Lr,Du rfl,Lr,trivial⟩ (Tr.Eg 134 3 ?_))
 refine Tr.YP _ (kk [5,4,0] rfl) (fun (k:Int) (day:Int) (l:List Sy) (s2:DS) v=>[(7,int k),(6,int day)]) (fun (k:Int) (day:Int) (l:List Sy) (s2:DS) v=>Hp M0 w0 S (Bi 134 3 v::AE true b2 86 [str name,int (1+s.val 2),int (1+s.CN.val 4),Ao v (aA l),is (.int .i64 0)]::AE true b1 86 (([.string (ByteArray.mk #[]),.int .i64 0,.int .i64 0,.slice none 0 0,.int .i64 0]:List Value).map is)::Da b s2::As M1 w1::rs)) (fun (k:Int) (day:Int) (l:List Sy) (s2:DS)=>(0≤k∧k+l.length≤3∧1≤k+l.length∧XI l day)∧KG k.toNat s2 day l=Dp s) (fun (k:Int) (day:Int) (l:List Sy) (s2:DS)=>k.toNat) (_) (_) ([]) (_) (.slice none 0 0) (⟨⟨by omega,by simp;omega,by simp;omega,⟨by omega,by simp;omega,fun j hj=>by simp at hj,fun x hx=>by simp at hx⟩⟩,rfl⟩) ⟨kq,kz⟩ (fun _ _ h=>h) ?_
 rintro k day l s2 v ⟨⟨hk0,hk1,hk2,hL⟩,hR⟩
 have hL0:=hL.lo
 have hL1:=hL.hi
 have hof:=Uh s2.CN
 refine an ?_ ?_<;>intro h1 q1
 have nE:0<k:=of_decide_eq_true h1
 have hv6:=s2.DG (n:=6) AA
 refine ac ?_
 refine ao ?_
 refine TO.Kg 3 rfl rfl AB (An rfl rfl AB rfl (CZ AA AA) ⟨ke rfl,ke rfl,trivial⟩) ?_
 refine tp rfl (AD rfl underlying132 DH E9 vq AA (show (m_.map fun u=>[int u.1,int u.2])[_]? =_ from r7 hv6)) ?_
 refine tp rfl (AX rfl CG DH vq rfl rfl) ?_
 refine Tl rfl rfl rfl rfl JG Dm (fun b3=> ?_)
 refine sf 0 8 ⟨rfl,rfl,rfl⟩ rfl rfl rfl rfl ?_
 refine ao ?_
 refine wk [8,7,6,5,4,0] rfl ?_
 refine ao ?_
 refine TO.Fw 0 rfl rfl AB (Dy rfl rfl rfl rfl underlying84 E3 Yb Yd L9 E9 (CY Bt Er)) (fun v1=> ?_)
 refine tp rfl (AF rfl Qo vq) (TO.D7 1 rfl rfl (Bm rfl rfl vq CX jD rfl Ai rfl) ?_)
 refine ao ?_
 refine wk [7,6,5,4,0] rfl ?_
 refine ao ?_
 refine TO.Kg 3 rfl rfl AB (An rfl rfl AB rfl (Vd (l:=[5,30,0,100]) Aa Aa) ⟨kq,E9,trivial⟩) ?_
 refine ao ?_
 refine ac ?_
 refine Fin.JU 1 [str name,int (1+s.val 2),int (1+s.CN.val 4),Ao v1 (aA (l++[(⟨(V7 (s2.val 6)).1,(V7 (s2.val 6)).2,day⟩:Sy)])),is (.int .i64 0)] rfl ⟨Lr,Lr,Lr,D3 I4,Lr,trivial⟩ ?_
 exact Fin.bh (k-1) (_) (l++[(⟨(V7 (s2.val 6)).1,(V7 (s2.val 6)).2,day⟩:Sy)]) (_) v1 (⟨⟨⟨by omega,by simp;omega,by simp;omega,S0 hL AA (iE _) (Uh _)⟩,by rw [←hR,show k.toNat=(k-1).toNat+1 by omega];rfl⟩,by omega⟩) ⟨⟨_,rfl,int_eq AA⟩,⟨_,rfl,int_eq AA⟩,kz⟩ (fun _ _ h=>h)
 have nE:¬0<k:=of_decide_eq_false h1
 obtain rfl:k=0:=by omega
 obtain ⟨c0,hc0⟩:=at_ (l:=l) (k:=0) AA
 have bD:=getD_at (d:=D5) hc0
 have yF:=hL.lt c0 (List.mem_of_getElem? hc0)
 have yG:0≤c0.day:=by have h_:=hL.at_ 0 (Ar hc0);unfold EX at h_;rw [bD] at h_;simp at h_;omega
 have yH:=aL s2
 have hR1:(Dp s).1=l:=by rw [←hR];rfl
 obtain rfl:s2=(Dp s).2.2:=by rw [←hR];rfl
 refine ac ?_
 refine Tr.seq (Tr.rx ?_)
 refine ay ?_
 refine xo rfl (fun _=>AD rfl underlying84 E3 L9 vq AA (Ak (k:=0) hc0)) ?_
 refine ay ?_
 refine xo rfl (fun _=>oI) ?_
 refine Cx.ef 3 rfl rfl AB (An rfl rfl AB rfl (Vd (l:=[50,300,0,3000]) Aa Aa) ⟨kq,E9,trivial⟩) ?_
 refine ay ?_
 refine Cx.nil ⟨by kernel_rfl,?_⟩
 refine BV.done dO (Fin.go (wk [5,4] rfl ?_))
 refine ao ?_
 refine TO.Ap 2 rfl rfl rfl vq CS rfl GJ rfl rfl ?_
 refine ao ?_
 refine Tr.ret (Fin.Ge [_,_,_] rfl (AR.cell 2 rfl rfl Nt GJ rfl Lr) ?_ (fun _ _ _ _=>rfl))
 · exact BP ⟨Lr,Lr,Lr,Pr.le_trans (BF _ _) (Pr.le_of_eq (by show _=aA (Dp s).1;rw [hR1])),int_eq (by show _=((Dp s).1[0]?.getD D5).day+_;rw [hR1,bD]),trivial⟩
structure Uj (n:Nat) (i j:Int) (l:List OQ):Prop where
 at_:∀k,k<l.length→Cl n l k=true
 lt:∀g∈l,g.client<i∨(g.client=i∧g.server<j)
theorem Uj.nil (n:Nat) (i j:Int):Uj n i j []:=⟨fun k hk=>by simp at hk,fun g hg=>by simp at hg⟩
theorem Uj.step {i j:Int} {l:List OQ} (h:Uj n i j l):Uj n i (j+1) l:=⟨h.at_,fun g hg=>by have:=h.lt g hg;omega⟩
theorem Uj.row {i j:Int} {l:List OQ} (h:Uj n i j l):Uj n (i+1) 0 l:=⟨h.at_,fun g hg=>by have:=h.lt g hg;omega⟩
theorem Uj.snoc {i j:Int} {l:List OQ} (h:Uj n i j l) (hi:0≤i∧i<n) (hj:0≤j∧j<n) (hn:i≠j):Uj n i (j+1) (l++[⟨i,j⟩]):=by
 refine ⟨fun k hk=> ?_,fun g hg=> ?_⟩
 ·
  rw [List.length_append] at hk;simp at hk
  rcases Nat.lt_or_ge k l.length with hl|hl
  ·
   have:=h.at_ k hl
   unfold Cl at this ⊢
   rw [List.getElem?_append_left hl,List.getElem?_append_left (show k-1<l.length by omega)];exact this
  ·
   have:k=l.length:=by omega
   subst this
   unfold Cl
   rw [List.getElem?_append_right (Nat.le_refl _),Nat.sub_self]
   rcases Nat.eq_zero_or_pos l.length with hz|hz
   ·
    obtain rfl:=List.eq_nil_of_length_eq_zero hz
    simp;omega
   ·
    obtain ⟨y,hy⟩:=Cp.at_ (l:=l) (k:=l.length-1) AA
    rw [List.getElem?_append_left (show l.length-1<l.length by omega),hy]
    have:=h.lt y (List.mem_of_getElem? hy)
    simp;omega
 ·
  rcases List.mem_append.1 hg with hg|hg
  · have:=h.lt g hg;omega
  · simp at hg;subst hg;right;exact ⟨rfl,by show j<j+1;omega⟩
theorem aM:∀i,i<2→Lib.compareBytes (E8[i]?.getD []) (E8[i+1]?.getD [])= -1:=by decide+kernel
structure OV (e:EA):Prop where
 n2:2≤e.Aw.length
 n3:e.Aw.length≤3
 snd:Zy e.Aw
 ed:∀k,k<e.BI.length→Cl e.Aw.length e.BI k=true
 g1:1≤e.BI.length
 g3:e.BI.length≤3
 it:∀x∈e.items,Ui x
 i2:e.items.length≤2
theorem OV.ok {e:EA} (h:OV e):El e=true:=by
 have h3:=h.n3;have g3:=h.g3;have i2:=h.i2
 refine EP.2 ⟨fun j hj=> ?_,by omega,h.ed,by omega,List.all_eq_true.2 fun x hx=>(h.it x hx).ok,by omega⟩
 obtain ⟨x,hx⟩:=at_ hj
 have hs:=h.snd j x hx
 unfold Ji
 rw [hx,Option.getD_some,CJ.2 (e_ hs),Bool.true_and,Bool.or_eq_true,decide_eq_true_eq,decide_eq_true_eq]
 rcases Nat.eq_zero_or_pos j with hz|hz
 · exact .inl hz
 ·
  right
  obtain ⟨y,hy⟩:=at_ (l:=e.Aw) (k:=j-1) AA
  have L_:=h.snd _ y hy
  rw [hy,Option.getD_some]
  have:=aM (j-1) AA
  rw [L_.name,show j-1+1=j by omega,hs.name] at this
  exact this
theorem OV.fits {e:EA} (h:OV e):e.fits:=by
 have h3:=h.n3;have g3:=h.g3;have i2:=h.i2
 refine ⟨fun x hx=> ?_,fun x hx=>by have:=(h.it x hx).name;unfold maxLen;omega,by omega,by omega,by omega⟩
 obtain ⟨i,hi⟩:=List.getElem?_of_mem hx
 exact ⟨PY (h.snd i x hi),ON (h.snd i x hi)⟩
abbrev KH:List UInt8:=[98,97,99,107,117,112]
abbrev Uk:List UInt8:=[100,101,101,100]
theorem V_ (s:DS):named (Iz s [KH,Uk])=true:=by
 have h:=s.DG (n:=2) AA
 unfold Iz
 have:s.val (([KH,Uk]:List (List UInt8)).length:Nat)=0∨s.val (([KH,Uk]:List (List UInt8)).length:Nat)=1:=by show s.val 2=0∨s.val 2=1;omega
 rcases this with h|h<;>rw [h]<;>decide
theorem S1 {l:List LA} {y:LA} (h:∀x∈l,Ui x) (hy:Ui y):∀x∈l++[y],Ui x:=by grind
theorem aN {s:DS}:BN prog 8 [ptr b 0] (Cp.ex fun e:EA=>fact (OV e) (agg (Bs e))) (Da b s) (fun _=>Jp 72 b):=by
 refine BN.of func8 rfl rfl Ai fun M0 w0 S rs M1 w1=> ?_
 have NH:=s.DG (n:=2) AA
 have N1:(E8.take (2+s.val 2).toNat).length=(2+s.val 2).toNat:=by rw [List.length_take];show min _ 3=_;omega
 refine Tr.seq (Tr.BL ?_)
 refine Tl rfl rfl rfl rfl z32 F5 (fun b1=> ?_)
 refine ap ?_
 refine Tr.seq (Tr.BL ?_)
 refine Tl rfl rfl rfl rfl z32 F5 (fun b2=> ?_)
 refine ap ?_
 refine ap ?_
 refine TO.Kg 2 rfl rfl AB (An rfl rfl AB rfl (CZ AA AA) ⟨ke rfl,ke rfl,trivial⟩) ?_
 refine tp rfl (LP rfl vq vq ?hin) ?_;case hin=>unfold Tg;omega
 refine tp rfl (Eh rfl underlying73 LV E9 vq AA CK) ?_
 refine ap ?_
 refine ac ?_
 refine co rfl (A8 rfl underlying73 vq) ?_
 refine ac ?_
 refine Tr.block ?_
 refine Tr.re 16 rfl (Pr.le_of_eq (by show slice 1 (List.take _ (E8.map fun t=>[str t]))=_;rw [←List.map_take]):Pr.le _ (WZ (E8.take (2+s.val 2).toNat))) ?_
 refine Tr.re 17 rfl (int_eq (by simp;rfl):Pr.le _ (int (((E8.take (2+s.val 2).toNat).length:Nat):Int))) ?_
 refine Tr.JU 0 [Ao (.slice none 0 0) (slice 9 (([]:List CO).map Am)),is (.slice none 0 0),is (.slice none 0 0)] rfl ⟨Du rfl,Lr,Lr,trivial⟩ (Tr.Eg 79 9 (Tr.G6 _ (kk [17,16,4,3,2,0] rfl) (fun (k:Nat) (es:List CO) (s2:DS) v=>[(18,int ((k:Nat):Int))]) (fun (k:Nat) (es:List CO) (s2:DS) v=>Hp M0 w0 S (Bi 79 9 v::AE true b2 32 [Ao v (slice 9 (es.map Am)),is (.slice none 0 0),is (.slice none 0 0)]::AE true b1 32 (([.slice none 0 0,.slice none 0 0,.slice none 0 0]:List Value).map is)::Da b s2::As M1 w1::rs)) (fun (k:Nat) (es:List CO) (s2:DS)=>k≤(2+s.val 2).toNat∧es.length=k∧Zy es) (fun (k:Nat) (es:List CO) (s2:DS)=>(2+s.val 2).toNat-k) (0) ([]) (_) (.slice none 0 0) (⟨by omega,rfl,fun i e h=>by simp at h⟩) kz (fun _ _ h=>h) ?_))
 rintro k es s2 v ⟨hk1,hk2,nE⟩
 refine ac ?_
 refine Tr.seq ?_
 refine Tr.cn rfl ?_ ?_<;>intro h1 q1
 have hkn:k<(2+s.val 2).toNat:=by have:=F4.IB h1;rw [N1] at this;omega
 obtain ⟨nm,hnm⟩:=at_ (l:=E8.take (2+s.val 2).toNat) (k:=k) AA
 have Lj:E8[k]? =some nm:=Zz hnm
 have hso:=Z0 (s2.CN.val 3)
 have yI:k<3:=Ar Lj
 have hvs:=s2.CN.DG (n:=3) AA
 have hof:=kU s2
 refine ac ?_
 refine ac ?_
 refine co rfl (AD rfl underlying73 LV vq vq AA (Ak hnm)) ?_
 refine ac ?_
 refine Tr.seq (Tr.pad (Tr.rx ?_))
 refine ax ?_
 refine xo rfl (fun _=>oI) ?_
 refine Cx.ef 4 rfl rfl AB (An rfl rfl AB rfl (Vd (l:=[3,3,4]) Aa Aa) ⟨kq,E9,trivial⟩) ?_
 refine xo rfl (fun _=>oI) ?_
 refine xo rfl (fun _=>oI) ?_
 refine xo rfl (fun _=>oI) ?_
 refine xo rfl (fun _=>Ah (xs:=[.tmp 27,.tmp 28,.tmp 29]) (rows:=[[_],[_],[_]]) rfl rfl underlying75 Gs z22 rfl AB ⟨⟨Aq,⟨_,rfl,Pr.le_trans (BC _ _) (AP _)⟩⟩,⟨⟨Aq,⟨_,rfl,Pr.le_trans (BC _ _) (AP _)⟩⟩,⟨⟨Aq,⟨_,rfl,Pr.le_trans (BC _ _) (AP _)⟩⟩,trivial⟩⟩⟩ AB) ?_
 refine xm rfl (Cx.ef 4 rfl rfl AB (An rfl rfl AB rfl (CZ AA AA) ⟨ke rfl,ke rfl,trivial⟩) ?_)
 refine xo rfl (fun _=>AD rfl underlying75 Gs E9 vq AA (show (MR.map fun l=>[ints l])[_]? =_ from ez hvs)) ?_
 refine ax ?_
 refine Cx.ef 4 rfl rfl AB (An rfl rfl AB rfl (Y8 AA AA) ⟨ke rfl,ke rfl,trivial⟩) (xo rfl (fun _=>oI) ?_)
 refine xo rfl (fun _=>oI) ?_
 refine xm rfl (Cx.ef 4 rfl rfl AB (An rfl rfl AB rfl (Y8 AA AA) ⟨ke rfl,ke rfl,trivial⟩) (xo rfl (fun _=>Ax (rows:=[(0,[_]),(1,[_]),(2,[_]),(3,[_]),(4,[_]),(6,[_]),(7,[_]),(8,[_])]) rfl bu Dn ⟨⟨rfl,(Vo rfl)⟩,⟨⟨rfl,(Vo rfl)⟩,⟨⟨rfl,(Vo rfl)⟩,⟨⟨rfl,(Vo rfl)⟩,⟨⟨rfl,(Vo rfl)⟩,⟨⟨rfl,⟨_,rfl,Pr.le_trans (BC _ _) (AP _)⟩⟩,⟨⟨rfl,⟨_,rfl,Pr.le_trans (BC _ _) (AP _)⟩⟩,⟨⟨rfl,(Vo rfl)⟩,trivial⟩⟩⟩⟩⟩⟩⟩⟩ rfl) (Cx.ef 0 rfl rfl AB (Em rfl rfl AB rfl G7 Dn) (Cx.D7 0 rfl rfl (En rfl rfl rfl rfl (Va rfl) Ba rfl rfl) ?_))))
 refine Cx.nil ⟨by kernel_rfl,?_⟩
 refine BV.open_ 0 7 rfl rfl (fun v1=> ?_)
 refine BV.done al6 (Fin.VR 7 0 _ rfl rfl (fun _=>rfl) (fun b3=> ?_))
 refine Fin.go (wk [18,17,16,7,6,5,4,3,2,0] rfl (Tr.seq (Tr.seq (Tr.JU 0 [str nm,int 1,int (s2.of [3,3,4]),ints (KD (s2.CN.val 3)),bool (s2.CN.CN.val 2==2-1),is (.slice none 0 0),ints [1],ints [2,3],bool (s2.CN.CN.CN.val 3==3-1)] rfl ⟨Lr,Lr,Lr,Lr,Lr,Lr,Lr,Lr,Lr,trivial⟩ ?_))))
 refine ac ?_
 refine Tr.cn rfl ?_ ?_<;>intro h2 q2
 refine ap ?_
 refine TO.pad ?_
 refine TO.Fw 0 rfl rfl AB (Dy rfl rfl rfl rfl underlying22 DC S9 z3 E9 vq (B9 Bt vq)) (fun v2=> ?_)
 refine ap ?_
 refine wk [18,17,16,7,6,5,4,3,2,0] rfl ?_
 refine ap ?_
 refine tp rfl (Qx (iB) rfl) ?_
 refine ap ?_
 refine tp rfl (mA (UP (name:=nm) (a:=5) (b:=2048) (id:=100+(k:Nat)) (to:=901) (key:=1) (RP Lj AA AA) (PX AA) AA) rfl rfl rfl rfl rfl rfl) ?_
 refine TO.ex 54 rfl (fun Xc=>TO.fact 54 rfl fun k6=> ?_)
 refine ap ?_
 refine wk8 0 2 3 4 7 16 17 18 rfl (Tr.BL (tp rfl (AF rfl Jr (vl rfl)) (TO.rd 3 rfl rfl rfl AB (B1 rfl Rz (vl rfl) rfl) (TO.rd 1 rfl rfl rfl AB (Cf rfl Bv Ba (vl rfl) rfl rfl) (tp rfl (Ah (xs:=[.tmp 59]) (rows:=[Am (⟨nm,1,s2.of [3,3,4],14::KD (s2.CN.val 3),(s2.CN.CN.val 2==2-1),[Gi nm 5 2048 (100+(k:Nat)) 901 1 Xc],[1],[2,3],(s2.CN.CN.CN.val 3==3-1)⟩:CO)]) rfl rfl underlying28 Ba G7 rfl AB ⟨⟨Aq,VL.le (vl rfl) (Pr.le_trans (BP (qs:=Am (⟨nm,1,s2.of [3,3,4],14::KD (s2.CN.val 3),(s2.CN.CN.val 2==2-1),[Gi nm 5 2048 (100+(k:Nat)) 901 1 Xc],[1],[2,3],(s2.CN.CN.CN.val 3==3-1)⟩:CO)) ⟨Lr,Lr,Lr,Pr.le_trans (BF _ _) (Pr.le_of_eq rfl),Lr,BC _ _,Lr,Lr,Lr,trivial⟩) (AY _))⟩,trivial⟩ AB) ?_)))))
 refine TO.Fw 2 rfl rfl AB (Dy rfl rfl rfl rfl underlying28 Ba bt G7 (Kb rfl) (Kf rfl) (CY Bt (Ka rfl))) (fun v3=> ?_)
 refine ap ?_
 refine Tr.drop 1 (wk [18,17,16,4,3,2,0] rfl ?_)
 refine ac ?_
 refine Fin.JU 2 [Ao v3 (slice 9 ((es++[(⟨nm,1,s2.of [3,3,4],14::KD (s2.CN.val 3),(s2.CN.CN.val 2==2-1),[Gi nm 5 2048 (100+(k:Nat)) 901 1 Xc],[1],[2,3],(s2.CN.CN.CN.val 3==3-1)⟩:CO)]).map Am)),is (.slice none 0 0),is (.slice none 0 0)] rfl ⟨D3 I4,Lr,Lr,trivial⟩ ?_
 refine Fin.drop 0 ?_
 exact Fin.EU (k+1) (es++[(⟨nm,1,s2.of [3,3,4],14::KD (s2.CN.val 3),(s2.CN.CN.val 2==2-1),[Gi nm 5 2048 (100+(k:Nat)) 901 1 Xc],[1],[2,3],(s2.CN.CN.CN.val 3==3-1)⟩:CO)]) (_) v3 (⟨⟨by omega,by rw [List.length_append,hk2];rfl,Sr nE ⟨by rw [hk2];exact Lj,rfl,hof,.inr ⟨_,Sq hvs,rfl⟩,⟨Xc,k6,by rw [hk2]⟩,rfl,rfl⟩⟩,by omega⟩) ⟨⟨_,rfl,AO k⟩,kz⟩ (fun _ _ h=>h)
 refine ac ?_
 refine ap ?_
 refine tp rfl (Qx (iB) rfl) ?_
 refine ap ?_
 refine tp rfl (mA (UP (name:=nm) (a:=5) (b:=2048) (id:=100+(k:Nat)) (to:=901) (key:=1) (RP Lj AA AA) (PX AA) AA) rfl rfl rfl rfl rfl rfl) ?_
 refine TO.ex 54 rfl (fun Xc=>TO.fact 54 rfl fun k6=> ?_)
 refine ap ?_
 refine wk8 0 2 3 4 7 16 17 18 rfl (Tr.BL (tp rfl (AF rfl Jr (vl rfl)) (TO.rd 2 rfl rfl rfl AB (B1 rfl Rz (vl rfl) rfl) (TO.rd 0 rfl rfl rfl AB (Cf rfl Bv Ba (vl rfl) rfl rfl) (tp rfl (Ah (xs:=[.tmp 59]) (rows:=[Am (⟨nm,1,s2.of [3,3,4],KD (s2.CN.val 3),(s2.CN.CN.val 2==2-1),[Gi nm 5 2048 (100+(k:Nat)) 901 1 Xc],[1],[2,3],(s2.CN.CN.CN.val 3==3-1)⟩:CO)]) rfl rfl underlying28 Ba G7 rfl AB ⟨⟨Aq,VL.le (vl rfl) (Pr.le_trans (BP (qs:=Am (⟨nm,1,s2.of [3,3,4],KD (s2.CN.val 3),(s2.CN.CN.val 2==2-1),[Gi nm 5 2048 (100+(k:Nat)) 901 1 Xc],[1],[2,3],(s2.CN.CN.CN.val 3==3-1)⟩:CO)) ⟨Lr,Lr,Lr,Lr,Lr,BC _ _,Lr,Lr,Lr,trivial⟩) (AY _))⟩,trivial⟩ AB) ?_)))))
 refine TO.Fw 1 rfl rfl AB (Dy rfl rfl rfl rfl underlying28 Ba bt G7 (Kb rfl) (Kf rfl) (CY Bt (Ka rfl))) (fun v4=> ?_)
 refine ap ?_
 refine Tr.drop 0 (wk [18,17,16,4,3,2,0] rfl ?_)
 refine ac ?_
 refine Fin.JU 1 [Ao v4 (slice 9 ((es++[(⟨nm,1,s2.of [3,3,4],KD (s2.CN.val 3),(s2.CN.CN.val 2==2-1),[Gi nm 5 2048 (100+(k:Nat)) 901 1 Xc],[1],[2,3],(s2.CN.CN.CN.val 3==3-1)⟩:CO)]).map Am)),is (.slice none 0 0),is (.slice none 0 0)] rfl ⟨D3 I4,Lr,Lr,trivial⟩ ?_
 exact Fin.EU (k+1) (es++[(⟨nm,1,s2.of [3,3,4],KD (s2.CN.val 3),(s2.CN.CN.val 2==2-1),[Gi nm 5 2048 (100+(k:Nat)) 901 1 Xc],[1],[2,3],(s2.CN.CN.CN.val 3==3-1)⟩:CO)]) (_) v4 (⟨⟨by omega,by rw [List.length_append,hk2];rfl,Sr nE ⟨by rw [hk2];exact Lj,rfl,hof,.inl (Sq hvs),⟨Xc,k6,by rw [hk2]⟩,rfl,rfl⟩⟩,by omega⟩) ⟨⟨_,rfl,AO k⟩,kz⟩ (fun _ _ h=>h)
 have hke:k=(2+s.val 2).toNat:=by have:=F4.IB h1;rw [N1] at this;omega
 refine ac ?_
 refine Tr.seq (Tr.seq (Tr.JU 1 [slice 9 (es.map Am),is (.slice none 0 0),is (.slice none 0 0)] rfl ⟨BF _ _,Lr,Lr,trivial⟩ (Tr.drop 0 ?_)))
 refine ac ?_
 refine co rfl (A8 rfl underlying73 vq) ?_
 refine ac ?_
 refine Tr.block ?_
 refine Tr.re 65 rfl (int_eq (by simp;rfl):Pr.le _ (int (((E8.take (2+s.val 2).toNat).length:Nat):Int))) ?_
 refine Tr.JU 0 [slice 9 (es.map Am),Ao (.slice none 0 0) (Es []),is (.slice none 0 0)] rfl ⟨Lr,Du rfl,Lr,trivial⟩ (Tr.Eg 83 2 (Tr.G6 _ (kk [65,4,3,2,0] rfl) (fun (i:Nat) (gs:List OQ) (s3:DS) w=>[(66,int ((i:Nat):Int))]) (fun (i:Nat) (gs:List OQ) (s3:DS) w=>Hp M0 w0 S (Bi 83 2 w::AE true b2 32 [slice 9 (es.map Am),Ao w (Es gs),is (.slice none 0 0)]::AE true b1 32 (([.slice none 0 0,.slice none 0 0,.slice none 0 0]:List Value).map is)::Da b s3::As M1 w1::rs)) (fun (i:Nat) (gs:List OQ) (s3:DS)=>i≤(2+s.val 2).toNat∧gs.length≤3∧Uj (2+s.val 2).toNat i 0 gs) (fun (i:Nat) (gs:List OQ) (s3:DS)=>(2+s.val 2).toNat-i) (0) ([]) (_) (.slice none 0 0) (⟨by omega,by simp,Uj.nil _ _ _⟩) kz (fun _ _ h=>h) ?_))
 rintro i gs s3 w ⟨hi1,hi2,hi3⟩
 refine ac ?_
 refine Tr.seq ?_
 refine Tr.cn rfl ?_ ?_<;>intro h3 q3
 have hin:i<(2+s.val 2).toNat:=by have:=F4.IB h3;rw [N1] at this;omega
 refine ac ?_
 refine ac ?_
 refine ac ?_
 refine co rfl (A8 rfl underlying73 vq) ?_
 refine ac ?_
 refine Tr.block ?_
 refine Tr.re 70 rfl (int_eq (by simp;rfl):Pr.le _ (int (((E8.take (2+s.val 2).toNat).length:Nat):Int))) ?_
 refine Tr.G6 _ (kk [70,66,65,8,4,3,2,0] rfl) (fun (j:Nat) (XJ:List OQ) (s4:DS) u=>[(71,int ((j:Nat):Int))]) (fun (j:Nat) (XJ:List OQ) (s4:DS) u=>Hp M0 w0 S (Bi 83 2 u::AE true b2 32 [slice 9 (es.map Am),Ao u (Es XJ),is (.slice none 0 0)]::AE true b1 32 (([.slice none 0 0,.slice none 0 0,.slice none 0 0]:List Value).map is)::Da b s4::As M1 w1::rs)) (fun (j:Nat) (XJ:List OQ) (s4:DS)=>j≤(2+s.val 2).toNat∧XJ.length≤3∧Uj (2+s.val 2).toNat i j XJ) (fun (j:Nat) (XJ:List OQ) (s4:DS)=>(2+s.val 2).toNat-j) (0) (gs) (_) w (⟨by omega,hi2,hi3⟩) kz (fun _ _ h=>h) ?_
 rintro j XJ s4 u ⟨hj1,hj2,hj3⟩
 refine ac ?_
 refine Tr.seq ?_
 refine Tr.cn rfl ?_ ?_<;>intro h4 q4
 have hjn:j<(2+s.val 2).toNat:=by have:=F4.IB h4;rw [N1] at this;omega
 refine ac ?_
 refine ac ?_
 refine ap ?_
 refine TO.cases 77 rfl (fun h5=> ?_) (fun h5=> ?_)
 have q5:=F4.IB h5
 refine TO.Yu rfl rfl rfl h5 rfl AB (BU rfl (vl rfl)) (TO.pz 3 rfl rfl rfl h5 rfl rfl AB (An rfl rfl AB rfl (CZ AA AA) ⟨ke rfl,ke rfl,trivial⟩) (TO.Yu rfl rfl rfl h5 rfl AB (ki rfl rfl rfl rfl) ?_))
 refine ap ?_
 refine TO.cases 82 rfl (fun h6=> ?_) (fun h6=> ?_)
 have q6:=F4.IB h6
 refine TO.Yu rfl rfl rfl h6 rfl AB (AF rfl YQ vq) (TO.Yu rfl rfl rfl h6 rfl AB (Bk 1 rfl (B1 rfl gH vq rfl)) (TO.Yu rfl rfl rfl h6 rfl AB (F3 rfl underlying29 L9) (TO.Yu rfl rfl rfl h6 rfl AB gG ?_)))
 refine ap ?_
 refine wk [87,71,70,66,65,9,8,4,3,2,0] rfl ?_
 refine Tr.cn rfl ?_ ?_<;>intro h7 q7
 refine ap ?_
 refine TO.Fw 0 rfl rfl AB (Dy rfl rfl rfl rfl underlying29 Ig jA lq L9 E9 (CY Bt Er)) (fun v5=> ?_)
 refine ap ?_
 refine wk [71,70,66,65,8,4,3,2,0] rfl ?_
 refine ac ?_
 refine Fin.JU 1 [slice 9 (es.map Am),Ao v5 (Es (XJ++[(⟨((i:Nat):Int),((j:Nat):Int)⟩:OQ)])),is (.slice none 0 0)] rfl ⟨Lr,D3 I4,Lr,trivial⟩ ?_
 exact Fin.EU (j+1) (XJ++[(⟨((i:Nat):Int),((j:Nat):Int)⟩:OQ)]) (_) v5 (⟨⟨by omega,by simp;omega,hj3.snoc ⟨by omega,by omega⟩ ⟨by omega,by omega⟩ AA⟩,by omega⟩) ⟨⟨_,rfl,AO j⟩,kz⟩ (fun _ _ h=>h)
 refine ac ?_
 refine ac ?_
 exact Fin.EU (j+1) (XJ) (_) u (⟨⟨by omega,hj2,hj3.step⟩,by omega⟩) ⟨⟨_,rfl,AO j⟩,kz⟩ (fun _ _ h=>h)
 have q6:=F4.IB h6
 iterate 4 refine TO.Vc rfl rfl rfl (DM h6) rfl AB ?_
 refine ap ?_
 refine wk [87,71,70,66,65,9,8,4,3,2,0] rfl ?_
 refine ac ?_
 refine ac ?_
 exact Fin.EU (j+1) (XJ) (_) u (⟨⟨by omega,hj2,hj3.step⟩,by omega⟩) ⟨⟨_,rfl,AO j⟩,kz⟩ (fun _ _ h=>h)
 have q5:=F4.IB h5
 refine TO.Vc rfl rfl rfl (DM h5) rfl AB (TO.Vc rfl rfl rfl (DM h5) rfl AB (TO.Vc rfl rfl rfl (DM h5) rfl AB ?_))
 refine ap ?_
 iterate 4 refine TO.Vc rfl rfl rfl (DM rfl) rfl AB ?_
 refine ap ?_
 refine wk [87,71,70,66,65,9,8,4,3,2,0] rfl ?_
 refine ac ?_
 refine ac ?_
 exact Fin.EU (j+1) (XJ) (_) u (⟨⟨by omega,hj2,hj3.step⟩,by omega⟩) ⟨⟨_,rfl,AO j⟩,kz⟩ (fun _ _ h=>h)
 have hje:j=(2+s.val 2).toNat:=by have:=F4.IB h4;rw [N1] at this;omega
 refine ac ?_
 refine ac ?_
 exact Fin.EU (i+1) (XJ) (_) u (⟨⟨by omega,hj2,hj3.row⟩,by omega⟩) ⟨⟨_,rfl,AO i⟩,kz⟩ (fun _ _ h=>h)
 have hie:i=(2+s.val 2).toNat:=by have:=F4.IB h3;rw [N1] at this;omega
 refine ac ?_
 refine ac ?_
 refine co rfl (F3 rfl underlying29 L9) ?_
 refine ac ?_
 refine Tr.cn rfl ?_ ?_<;>intro h8 q8
 refine ap ?_
 refine wk [3,2,0] rfl (Tr.seq (Tr.seq ?_))
 have hv9:=s3.DG (n:=3) AA
 obtain ⟨XY,hge,nF,nG,nH⟩:∃l:List OQ,l=[⟨0,1⟩]∧(∀k,k<l.length→Cl (2+s.val 2).toNat l k=true)∧1≤l.length∧l.length≤3:=⟨_,rfl,((Uj.nil (2+s.val 2).toNat 0 1).snoc ⟨by omega,by omega⟩ ⟨by omega,by omega⟩ AA).at_,by simp,by simp⟩
 refine Tr.JU 1 [slice 9 (es.map Am),Es XY,is (.slice none 0 0)] rfl ⟨Lr,Pr.le_trans (BC _ _) (Pr.le_of_eq (by rw [hge];rfl)),Lr,trivial⟩ ?_
 refine Tr.drop 0 ?_
 refine ap ?_
 refine TO.Kg 2 rfl rfl AB (An rfl rfl AB rfl (CZ AA AA) ⟨ke rfl,ke rfl,trivial⟩) ?_
 refine ap ?_
 refine Tr.block (Tr.JU 0 [slice 9 (es.map Am),Es XY,Ao (.slice none 0 0) (I2 [])] rfl ⟨Lr,Lr,Du rfl,trivial⟩ (Tr.Eg 86 5 ?_))
 refine Tr.G6 [(0,_),(2,_),(3,_)] ⟨ke rfl,ke rfl,ke rfl,trivial⟩ (fun (q:Int) (its:List LA) (s5:DS) x=>[(10,int q)]) (fun (q:Int) (its:List LA) (s5:DS) x=>Hp M0 w0 S (Bi 86 5 x::AE true b2 32 [slice 9 (es.map Am),Es XY,Ao x (I2 its)]::AE true b1 32 (([.slice none 0 0,.slice none 0 0,.slice none 0 0]:List Value).map is)::Da b s5::As M1 w1::rs)) (fun (q:Int) (its:List LA) (s5:DS)=>0≤q∧q+its.length≤2∧∀x∈its,Ui x) (fun (q:Int) (its:List LA) (s5:DS)=>q.toNat) (_) ([]) (_) (.slice none 0 0) (⟨by omega,by simp;omega,fun x h=>by simp at h⟩) ⟨ke rfl,trivial⟩ (fun _ _ h=>h) ?_
 rintro q its s5 x ⟨hq1,Rk,hqi⟩
 refine ac ?_
 refine Tr.cn rfl ?_ ?_<;>intro h9 q9
 have dB:0<q:=of_decide_eq_true h9
 refine ac ?_
 refine Tr.seq (Tr.block (Tr.pad (Tr.rx ?_)))
 refine ax ?_
 refine xo rfl (fun _=>oI) ?_
 refine Cx.ef 4 rfl rfl AB (An rfl rfl AB rfl (So (l:=[[98,97,99,107,117,112],[100,101,101,100]]) Aa Aa) ⟨kq,E9,trivial⟩) ?_
 refine Cx.ef 4 rfl rfl AB (An rfl rfl AB rfl (V9) ⟨ke rfl,ke rfl,trivial⟩) (xo rfl (fun _=>Ah (xs:=[.tmp 117]) (rows:=[_]) rfl rfl underlying30 GJ YZ rfl AB ⟨⟨Aq,(Va rfl)⟩,trivial⟩ AB) ?_)
 refine Cx.ef 1 rfl rfl AB (Dy rfl rfl rfl rfl underlying30 GJ bz YZ L9 E9 (CY Bt Er)) ?_
 refine xo rfl (fun _=>AF rfl Nr vq) (Cx.D7 2 rfl rfl (DT rfl rfl rfl vq rfl bp Ai) ?_)
 refine Cx.nil ⟨by kernel_rfl,?_⟩
 refine BV.Np 1 2 119 rfl rfl AB rfl (fun v6=> ?_)
 refine BV.done al6 ?_
 refine ac ?_
 refine Tr.drop 0 (wk [10,3,2,0] rfl ?_)
 refine ac ?_
 refine Fin.JU 1 [slice 9 (es.map Am),Es XY,Ao v6 (I2 (its++[(Ph s5.CN (Iz s5 [KH,Uk]))]))] rfl ⟨Lr,Lr,D3 I4,trivial⟩ ?_
 exact Fin.EU (q-1) (its++[(Ph s5.CN (Iz s5 [KH,Uk]))]) (_) v6 (⟨⟨by omega,by simp;omega,S1 hqi (V8 (V_ s5))⟩,by omega⟩) ⟨⟨_,rfl,int_eq AA⟩,kz⟩ (fun _ _ h=>h)
 have dB:¬0<q:=of_decide_eq_false h9
 refine ac ?_
 refine ap ?_
 refine Tr.ret (Fin.Jq 3 _ rfl rfl (Fin.Ge [_,_,_] rfl (AR.cell 2 rfl rfl DZ DL rfl Lr) ?_ (fun _ _ _ _=>rfl)))
 · exact Xm
 refine ac ?_
 refine Tr.seq (Tr.seq ?_)
 have hv9:=s3.DG (n:=3) AA
 obtain ⟨XY,hge,nF,nG,nH⟩:∃l:List OQ,l=gs∧(∀k,k<l.length→Cl (2+s.val 2).toNat l k=true)∧1≤l.length∧l.length≤3:=⟨_,rfl,hi3.at_,by have h_:=h8;simp at h_;exact List.length_pos_iff.2 h_,hi2⟩
 refine Tr.JU 1 [slice 9 (es.map Am),Es XY,is (.slice none 0 0)] rfl ⟨Lr,Pr.le_trans (BF _ _) (Pr.le_of_eq (by rw [hge])),Lr,trivial⟩ (Tr.drop 0 ?_)
 refine ap ?_
 refine TO.Kg 2 rfl rfl AB (An rfl rfl AB rfl (CZ AA AA) ⟨ke rfl,ke rfl,trivial⟩) ?_
 refine ap ?_
 refine wk [10,3,2,0] rfl (Tr.block (Tr.JU 0 [slice 9 (es.map Am),Es XY,Ao (.slice none 0 0) (I2 [])] rfl ⟨Lr,Lr,Du rfl,trivial⟩ (Tr.Eg 86 5 ?_)))
 refine Tr.G6 [(0,_),(2,_),(3,_)] ⟨ke rfl,ke rfl,ke rfl,trivial⟩ (fun (q:Int) (its:List LA) (s5:DS) x=>[(10,int q)]) (fun (q:Int) (its:List LA) (s5:DS) x=>Hp M0 w0 S (Bi 86 5 x::AE true b2 32 [slice 9 (es.map Am),Es XY,Ao x (I2 its)]::AE true b1 32 (([.slice none 0 0,.slice none 0 0,.slice none 0 0]:List Value).map is)::Da b s5::As M1 w1::rs)) (fun (q:Int) (its:List LA) (s5:DS)=>0≤q∧q+its.length≤2∧∀x∈its,Ui x) (fun (q:Int) (its:List LA) (s5:DS)=>q.toNat) (_) ([]) (_) (.slice none 0 0) (⟨by omega,by simp;omega,fun x h=>by simp at h⟩) ⟨ke rfl,trivial⟩ (fun _ _ h=>h) ?_
 rintro q its s5 x ⟨hq1,Rk,hqi⟩
 refine ac ?_
 refine Tr.cn rfl ?_ ?_<;>intro h10 SH
 have dB:0<q:=of_decide_eq_true h10
 refine ac ?_
 refine Tr.seq (Tr.block (Tr.pad (Tr.rx ?_)))
 refine ax ?_
 refine xo rfl (fun _=>oI) ?_
 refine Cx.ef 4 rfl rfl AB (An rfl rfl AB rfl (So (l:=[[98,97,99,107,117,112],[100,101,101,100]]) Aa Aa) ⟨kq,E9,trivial⟩) ?_
 refine Cx.ef 4 rfl rfl AB (An rfl rfl AB rfl (V9) ⟨ke rfl,ke rfl,trivial⟩) (xo rfl (fun _=>Ah (xs:=[.tmp 117]) (rows:=[_]) rfl rfl underlying30 GJ YZ rfl AB ⟨⟨Aq,(Va rfl)⟩,trivial⟩ AB) ?_)
 refine Cx.ef 1 rfl rfl AB (Dy rfl rfl rfl rfl underlying30 GJ bz YZ L9 E9 (CY Bt Er)) ?_
 refine xo rfl (fun _=>AF rfl Nr vq) (Cx.D7 2 rfl rfl (DT rfl rfl rfl vq rfl bp Ai) ?_)
 refine Cx.nil ⟨by kernel_rfl,?_⟩
 refine BV.Np 1 2 119 rfl rfl AB rfl (fun v7=> ?_)
 refine BV.done al6 ?_
 refine ac ?_
 refine Tr.drop 0 (wk [10,3,2,0] rfl ?_)
 refine ac ?_
 refine Fin.JU 1 [slice 9 (es.map Am),Es XY,Ao v7 (I2 (its++[(Ph s5.CN (Iz s5 [KH,Uk]))]))] rfl ⟨Lr,Lr,D3 I4,trivial⟩ ?_
 exact Fin.EU (q-1) (its++[(Ph s5.CN (Iz s5 [KH,Uk]))]) (_) v7 (⟨⟨by omega,by simp;omega,S1 hqi (V8 (V_ s5))⟩,by omega⟩) ⟨⟨_,rfl,int_eq AA⟩,kz⟩ (fun _ _ h=>h)
 have dB:¬0<q:=of_decide_eq_false h10
 refine ac ?_
 refine ap ?_
 refine Tr.ret (Fin.Jq 3 _ rfl rfl (Fin.Ge [_,_,_] rfl (AR.cell 2 rfl rfl DZ DL rfl Lr) ?_ (fun _ _ _ _=>rfl)))
 · exact Xm
theorem Ul {x:CO} {c b:BA} (h:Bh e c=(x,b,0)):x.name=e.name:=by
 obtain ⟨_,h2,h3,_⟩:=JO h
 rcases My h2.1 with hk|hk|hk|hk|hk|hk|hk|hk|hk|hk|hk|hk
 · rw [Ho hk] at h3;(repeat' (split at h3))<;>first|(cases h3;done)|(injection h3 with h3;obtain ⟨rfl,rfl⟩:=Prod.mk.inj h3;rfl)
 · rw [Hq hk] at h3;(repeat' (split at h3))<;>first|(cases h3;done)|(injection h3 with h3;obtain ⟨rfl,rfl⟩:=Prod.mk.inj h3;rfl)
 · rw [Hr hk] at h3;(repeat' (split at h3))<;>first|(cases h3;done)|(injection h3 with h3;obtain ⟨rfl,rfl⟩:=Prod.mk.inj h3;rfl)
 · rw [Hs hk] at h3;(repeat' (split at h3))<;>first|(cases h3;done)|(injection h3 with h3;obtain ⟨rfl,rfl⟩:=Prod.mk.inj h3;rfl)
 · rw [Ht hk] at h3;(repeat' (split at h3))<;>first|(cases h3;done)|(injection h3 with h3;obtain ⟨rfl,rfl⟩:=Prod.mk.inj h3;rfl)
 · rw [Hu hk] at h3;(repeat' (split at h3))<;>first|(cases h3;done)|(injection h3 with h3;obtain ⟨rfl,rfl⟩:=Prod.mk.inj h3;rfl)
 · rw [Hv hk] at h3;(repeat' (split at h3))<;>first|(cases h3;done)|(injection h3 with h3;obtain ⟨rfl,rfl⟩:=Prod.mk.inj h3;rfl)
 · rw [Hw hk] at h3;(repeat' (split at h3))<;>first|(cases h3;done)|(injection h3 with h3;obtain ⟨rfl,rfl⟩:=Prod.mk.inj h3;rfl)
 · rw [Hx hk] at h3;(repeat' (split at h3))<;>first|(cases h3;done)|(injection h3 with h3;obtain ⟨rfl,rfl⟩:=Prod.mk.inj h3;rfl)
 · rw [GN hk] at h3;(repeat' (split at h3))<;>first|(cases h3;done)|(injection h3 with h3;obtain ⟨rfl,rfl⟩:=Prod.mk.inj h3;rfl)
 · rw [GO hk] at h3;(repeat' (split at h3))<;>first|(cases h3;done)|(injection h3 with h3;obtain ⟨rfl,rfl⟩:=Prod.mk.inj h3;rfl)
 · rw [GP hk] at h3;(repeat' (split at h3))<;>first|(cases h3;done)|(injection h3 with h3;obtain ⟨rfl,rfl⟩:=Prod.mk.inj h3;rfl)
theorem WA {x:CO} {c:BA} (h:(Bh x c).2.2=0):CA (Bh x c).1=true∧(Bh x c).1.name=x.name:=by
 have h2:Bh x c=((Bh x c).1,(Bh x c).2.1,0):=by rw [←h]
 exact ⟨CJ.2 (JO h2).2.2.2,Ul h2⟩
theorem Um {l:List CO} {c:BA} (h:(EV l c).2=0):∃x,0≤c.AJ∧l[c.AJ.toNat]? =some x∧(Bh x c).2.2=0∧(EV l c).1=l.set c.AJ.toNat (Bh x c).1:=by
 by_cases hb:c.AJ<0∨((l.length:Nat):Int)≤c.AJ
 · rw [M7 hb] at h;cases h
 ·
  obtain ⟨x,hx⟩:=at_ (l:=l) (k:=c.AJ.toNat) AA
  rw [RX hb hx] at h ⊢
  by_cases h0:(Bh x c).2.2=0
  · rw [if_pos h0];exact ⟨x,by omega,hx,h0,rfl⟩
  · rw [if_neg h0] at h;exact absurd h h0
theorem aO {l:List CO} {x y:CO} (h:∀j,j<l.length→Ji l j=true) (hk:l[k]? =some x) (hv:CA y=true) (hn:y.name=x.name):∀j,j<(l.set k y).length→Ji (l.set k y) j=true:=by
 intro j hj
 rw [List.length_set] at hj
 have QZ:=Ar hk
 have hj0:=h j hj
 have nm:∀i,i<l.length→((l.set k y)[i]?.getD BR).name=(l[i]?.getD BR).name:=by
  intro i hi
  by_cases hik:k=i
  · subst hik;rw [List.getElem?_set_self QZ,hk];exact hn
  · rw [List.getElem?_set_ne hik]
 unfold Ji at hj0 ⊢
 rw [nm j hj]
 simp only [Bool.and_eq_true] at hj0 ⊢
 refine ⟨?_,?_⟩
 ·
  by_cases hjk:k=j
  · subst hjk;rw [List.getElem?_set_self QZ];exact hv
  · rw [List.getElem?_set_ne hjk];exact hj0.1
 ·
  rcases Nat.eq_zero_or_pos j with hz|hz
  · simp [hz]
  · rw [nm (j-1) AA];exact hj0.2
theorem aP {e:EA} {c:BA} (h:El e=true) (h0:(EV e.Aw c).2=0):El ⟨(EV e.Aw c).1,e.BI,e.items⟩=true:=by
 obtain ⟨x,_,hx,hd,hs⟩:=Um h0
 have ok:=EP.1 h
 have hl:=M8 e.Aw c
 refine EP.2 ⟨?_,by show (EV e.Aw c).1.length≤16;rw [hl];exact ok.e16,by show ∀j,j<e.BI.length→Cl (EV e.Aw c).1.length e.BI j=true;rw [hl];exact ok.ed,ok.nC,ok.it,ok.i30⟩
 show ∀j,j<(EV e.Aw c).1.length→Ji (EV e.Aw c).1 j=true
 rw [hs]
 exact aO ok.ep hx (WA hd).1 (WA hd).2
theorem Pk {e:EA} {l:List BA}:∀(s:List Int) (Aw:List CO),El ⟨Aw,e.BI,e.items⟩=true→(F9 l s Aw).2=0→El ⟨(F9 l s Aw).1,e.BI,e.items⟩=true
 |[],Aw,h,_=>h
 |i::s,Aw,h,h0=>by
  rw [F9] at h0 ⊢
  split at h0
  · exact h
  next c hc=>
  by_cases ha:(EV Aw c).2=0
  ·
   rw [if_pos ha] at h0 ⊢
   exact Pk s _ (aP (e:=⟨Aw,e.BI,e.items⟩) h ha) h0
  · rw [if_neg ha] at h0;exact absurd h0 ha
theorem r9 {e:EA} {l:List BA} {s:List Int} (h:El e=true) (hl:l.length≤24) (hs:Ep l.length s=true):HE e l s=if (F9 l s e.Aw).2=0 then (⟨(F9 l s e.Aw).1,e.BI,e.items⟩,0) else (Bq,(F9 l s e.Aw).2):=by
 unfold HE;rw [if_neg (by simp [h]),if_neg AA,if_neg (by simp [hs])]
theorem OV.sz {e:EA} (h:OV e):e.sz 5:=by
 have h3:=h.n3;have g3:=h.g3;have i2:=h.i2
 refine ⟨fun x hx=> ?_,fun x hx=>⟨by have:=(h.it x hx).name;unfold maxLen;omega,by have:=(h.it x hx).links;omega⟩,by omega,by omega,by omega⟩
 obtain ⟨i,hi⟩:=List.getElem?_of_mem hx
 exact fA (h.snd i x hi)
theorem fT {e:EA} {c:BA} {x:EA} {f:Int} (h:KF e c=(x,f)) (hz:e.sz n) (hn:n≤800000) (hc:c.Bj.fits∧c.Bj.small):Ay Tryz.prog 46 [agg (Bs e),agg (A9 c)] (D_ [agg (Bs x),int f]):=by
 have:=XH (e:=e) (c:=c) hz hn hc;rw [h] at this;exact this
def Fo (l:List BA) (Aw:List CO):Nat→List CO
 |0=>Aw
 |k+1=>match l[k]? with
  |none=>Fo l Aw k
  |some c=>(EV (Fo l Aw k) c).1
theorem K2 {l:List BA} {Aw:List CO} {c:BA} (hc:l[k]? =some c):Fo l Aw (k+1)=(EV (Fo l Aw k) c).1:=by simp only [Fo,hc]
def RZ (Aw:List CO) (c:BA):BA:=(Bh (Aw[c.AJ.toNat]?.getD BR) c).2.1
def K3 (l:List BA) (Aw:List CO):Nat→List BA
 |0=>[]
 |k+1=>match l[k]? with
  |none=>K3 l Aw k
  |some c=>K3 l Aw k++[RZ (Fo l Aw k) c]
theorem OW {l:List BA} {Aw:List CO} {c:BA} (hc:l[k]? =some c):K3 l Aw (k+1)=K3 l Aw k++[RZ (Fo l Aw k) c]:=by simp only [K3,hc]
theorem Gj {l:List BA} {Aw:List CO}:∀k,k≤l.length→(K3 l Aw k).length=k
 |0,_=>rfl
 |k+1,h=>by
  obtain ⟨c,hc⟩:=at_ (l:=l) (k:=k) AA
  rw [OW hc,List.length_append,Gj k AA];rfl
theorem aQ {l:List BA} {Aw:List CO} {k:Nat} {c:BA} (hc:l[k]? =some c):∀n,k<n→n≤l.length→(K3 l Aw n)[k]? =some (RZ (Fo l Aw k) c)
 |0,h,_=>absurd h (Nat.not_lt_zero _)
 |n+1,h,hn=>by
  obtain ⟨d,hd⟩:=at_ (l:=l) (k:=n) AA
  have hl:=Gj (l:=l) (Aw:=Aw) n AA
  rw [OW hd]
  rcases Nat.lt_or_ge k n with h1|h1
  · rw [List.getElem?_append_left AA];exact aQ hc n h1 AA
  ·
   obtain rfl:k=n:=by omega
   rw [hc] at hd;cases hd
   rw [List.getElem?_append_right AA,hl,Nat.sub_self];rfl
abbrev GW (n:Nat):List Int:=(List.range n).map fun i:Nat=>(i:Int)
theorem Ra (h:k<n):(GW n)[k]? =some (k:Int):=by
 rw [List.getElem?_map,List.getElem?_range h];rfl
theorem aR (n:Nat):Ep (n:Int) (GW n)=true:=by
 unfold Ep
 rw [Br]
 intro j hj
 have hj2:j<n:=by simpa using hj
 unfold setAt
 rw [Ra hj2]
 rcases Nat.eq_zero_or_pos j with h0|h0
 · subst h0;simp;omega
 · rw [Ra (show j-1<n by omega)];simp;omega
theorem aS {l:List BA} {Aw:List CO} (h:(F9 l (GW l.length) Aw).2=0):∀k,k≤l.length→(∀(j:Nat) c,j<k→l[j]? =some c→(EV (Fo l Aw j) c).2=0)∧F9 l ((GW l.length).drop k) (Fo l Aw k)=F9 l (GW l.length) Aw
 |0,_=>⟨fun j c hj=>absurd hj (Nat.not_lt_zero _),rfl⟩
 |k+1,hk=>by
  obtain ⟨h1,h2⟩:=aS h k AA
  obtain ⟨c,hc⟩:=at_ (l:=l) (k:=k) AA
  have hs:=Lp (Aw:=Fo l Aw k) (Ra (n:=l.length) (k:=k) AA) (c:=c) (by rw [Int.toNat_natCast];exact hc)
  have h0:(EV (Fo l Aw k) c).2=0:=by
   by_cases hz:(EV (Fo l Aw k) c).2=0
   · exact hz
   · rw [if_neg hz] at hs;rw [←h2,hs] at h;exact absurd h hz
  rw [if_pos h0,←K2 hc] at hs
  refine ⟨fun j d hj hd=> ?_,by rw [←hs];exact h2⟩
  rcases Nat.lt_or_ge j k with h3|h3
  · exact h1 j d h3 hd
  ·
   obtain rfl:j=k:=by omega
   rw [hc] at hd;cases hd;exact h0
theorem iF {e:EA} {l:List BA} (hv:El e=true) (hl:l.length≤24) (h:(HE e l (GW l.length)).2=0):(∀(j:Nat) c,l[j]? =some c→(EV (Fo l e.Aw j) c).2=0)∧HE e l (GW l.length)=(⟨Fo l e.Aw l.length,e.BI,e.items⟩,0):=by
 rw [r9 hv hl (aR _)] at h ⊢
 have h0:(F9 l (GW l.length) e.Aw).2=0:=by
  by_cases hz:(F9 l (GW l.length) e.Aw).2=0
  · exact hz
  · rw [if_neg hz] at h;exact absurd h hz
 obtain ⟨h1,h2⟩:=aS h0 l.length (Nat.le_refl _)
 refine ⟨fun j c hc=>h1 j c (Ar hc) hc,?_⟩
 rw [List.drop_eq_nil_of_le Aa] at h2
 rw [if_pos h0,←h2];rfl
theorem OX {e:EA} {l:List BA} (hv:El e=true) (ha:∀(j:Nat) c,l[j]? =some c→(EV (Fo l e.Aw j) c).2=0):∀k,k≤l.length→El ⟨Fo l e.Aw k,e.BI,e.items⟩=true
 |0,_=>hv
 |k+1,hk=>by
  obtain ⟨c,hc⟩:=at_ (l:=l) (k:=k) AA
  have ih:=OX hv ha k AA
  have h0:=ha k c hc
  have hr:F9 [c] [0] (Fo l e.Aw k)=((EV (Fo l e.Aw k) c).1,0):=by rw [Sz,if_pos h0]
  have:=Pk (e:=e) (l:=[c]) [0] (Fo l e.Aw k) ih (by rw [hr])
  rw [hr] at this
  rw [K2 hc];exact this
theorem iG {l:List BA} {Aw:List CO} {n:Nat} (hz:∀x∈Aw,x.sz n) (hi:∀c∈l,c.Bj.fits∧c.Bj.small):∀k,k≤l.length→(∀x∈Fo l Aw k,x.sz (n+k))∧(Fo l Aw k).length=Aw.length
 |0,_=>⟨hz,rfl⟩
 |k+1,hk=>by
  obtain ⟨c,hc⟩:=at_ (l:=l) (k:=k) AA
  obtain ⟨h1,h2⟩:=iG hz hi k AA
  rw [K2 hc]
  exact ⟨Ub h1 (hi c (List.mem_of_getElem? hc)),by rw [M8];exact h2⟩
theorem Rb {e:EA} {l:List BA} (hz:e.sz n) (hi:∀c∈l,c.Bj.fits∧c.Bj.small) (hk:k≤l.length):EA.sz ⟨Fo l e.Aw k,e.BI,e.items⟩ (n+k):=by
 obtain ⟨h1,h2⟩:=iG hz.Aw hi k hk
 exact ⟨h1,hz.items,by show (Fo l e.Aw k).length≤_;rw [h2];exact hz.le,hz.lg,hz.li⟩
theorem fU {l:List BA} {Aw:List CO} {c:BA} (hc:l[k]? =some c) (h0:(EV (Fo l Aw k) c).2=0):EV (Fo l Aw (k+1)) (RZ (Fo l Aw k) c)=(Fo l Aw k,0):=by
 obtain ⟨x,h1,h2,h3,h4⟩:=Um h0
 obtain ⟨x2,b,f,hr⟩:∃x2 b f,Bh x c=(x2,b,f):=⟨_,_,_,rfl⟩
 rw [hr] at h3 h4
 obtain rfl:f=0:=h3
 obtain ⟨hb,he⟩:=Ww hr
 have hinv:RZ (Fo l Aw k) c=b:=by unfold RZ;rw [h2,Option.getD_some,hr]
 have hlt:=Ar h2
 rw [hinv,K2 hc,h4]
 rw [RX (x:=x2) (by rw [he,List.length_set];omega) (by rw [he,List.getElem?_set_self hlt]),hb,if_pos rfl,he,List.set_set]
 refine Prod.ext ?_ rfl
 show (Fo l Aw k).set c.AJ.toNat x=Fo l Aw k
 rw [List.getElem?_eq_getElem hlt] at h2
 cases h2
 exact List.set_getElem_self hlt
theorem k7 {e:EA} {l:List BA} {c:BA} (hv:El e=true) (ha:∀(j:Nat) c,l[j]? =some c→(EV (Fo l e.Aw j) c).2=0) (hc:l[k]? =some c):KF ⟨Fo l e.Aw (k+1),e.BI,e.items⟩ (RZ (Fo l e.Aw k) c)=(⟨Fo l e.Aw k,e.BI,e.items⟩,0):=by
 have hk:=Ar hc
 unfold KF M9
 rw [if_neg (by rw [OX hv ha (k+1) AA];decide)]
 show (if (EV (Fo l e.Aw (k+1)) _).2=0 then _ else _)=_
 rw [fU hc (ha k c hc),if_pos rfl]
theorem k8 {e:EA} {l:List BA} {c:BA} (hv:El e=true) (ha:∀(j:Nat) c,l[j]? =some c→(EV (Fo l e.Aw j) c).2=0) (hc:l[k]? =some c):KF ⟨Fo l e.Aw k,e.BI,e.items⟩ c=(⟨Fo l e.Aw (k+1),e.BI,e.items⟩,0):=by
 have hk:=Ar hc
 unfold KF M9
 rw [if_neg (by rw [OX hv ha k AA];decide)]
 show (if (EV (Fo l e.Aw k) c).2=0 then _ else _)=_
 rw [if_pos (ha k c hc),K2 hc]
theorem iH {l:List BA} {Aw:List CO} {c:BA} (h0:(EV (Fo l Aw k) c).2=0):∃x b,0≤c.AJ∧(Fo l Aw k)[c.AJ.toNat]? =some x∧Bh x c=((Bh x c).1,b,0)∧RZ (Fo l Aw k) c=b:=by
 obtain ⟨x,h1,h2,h3,h4⟩:=Um h0
 refine ⟨x,(Bh x c).2.1,h1,h2,?_,by unfold RZ;rw [h2];rfl⟩
 rw [←h3]
def IK {α:Type} (l:List α):Nat→List α
 |0=>l
 |k+1=>match (IK l k)[k]?,(IK l k)[l.length-1-k]? with
  |some x,some y=>((IK l k).set k y).set (l.length-1-k) x
  |_,_=>IK l k
theorem K4 {α:Type} (l:List α):∀k,(IK l k).length=l.length
 |0=>rfl
 |k+1=>by
  have ih:=K4 l k
  unfold IK
  split
  · rw [List.length_set,List.length_set];exact ih
  · exact ih
theorem Pm {α:Type} {l:List α} {x y:α} (hx:(IK l k)[k]? =some x) (hy:(IK l k)[l.length-1-k]? =some y):IK l (k+1)=((IK l k).set k y).set (l.length-1-k) x:=by
 simp only [IK,hx,hy]
theorem WB {α:Type} {l:List α}:∀k,2*k≤l.length→∀i,i<l.length→(IK l k)[i]? =if i<k∨l.length-1-i<k then l[l.length-1-i]? else l[i]?
 |0,_,i,_=>by rw [if_neg AA];rfl
 |k+1,h,i,hi=>by
  have ih:=WB (l:=l) k AA
  have hl:=K4 l k
  obtain ⟨x,hx⟩:=at_ (l:=IK l k) (k:=k) AA
  obtain ⟨y,hy⟩:=at_ (l:=IK l k) (k:=l.length-1-k) AA
  have hx2:=ih k AA
  rw [hx,if_neg AA] at hx2
  have hy2:=ih (l.length-1-k) AA
  rw [hy,if_neg AA] at hy2
  rw [Pm hx hy]
  by_cases h1:i=l.length-1-k
  ·
   subst h1
   rw [List.getElem?_set_self (by rw [List.length_set];omega),if_pos AA,show l.length-1-(l.length-1-k)=k by omega];exact hx2
  ·
   rw [List.getElem?_set_ne (fun e=>h1 e.symm)]
   by_cases h2:i=k
   ·
    subst h2
    rw [List.getElem?_set_self AA,if_pos AA];exact hy2
   ·
    rw [List.getElem?_set_ne (fun e=>h2 e.symm),ih i hi]
    by_cases h3:i<k∨l.length-1-i<k
    · rw [if_pos h3,if_pos AA]
    · rw [if_neg h3,if_neg AA]
theorem aT {α:Type} {l:List α} (h:2*k≤l.length) (he:l.length≤2*k+1):IK l k=l.reverse:=by
 refine List.ext_getElem? fun i=> ?_
 by_cases hi:i<l.length
 ·
  rw [WB k h i hi,List.getElem?_reverse hi]
  by_cases h3:i<k∨l.length-1-i<k
  · rw [if_pos h3]
  · rw [if_neg h3,show l.length-1-i=i by omega]
 · rw [List.getElem?_eq_none (by rw [K4];omega),List.getElem?_eq_none (by rw [List.length_reverse];omega)]
end Go.Proofs.YtoodkpodinniaaaGreatDoor
namespace Cp
open Go Go.RowKit Go.Great
variable {new:Bool} {f:FuncId} {rows:List (List Pr)} {b:Nat} {p q:Pr} {T t:TypeId}
section
variable {P:Program} {L:Lg P} {n:Fm} {fz:Nat} {E:Env} {I:CU} {M0:Av} {w0:World} {S:Nat→Prop} {rs:List A7} {Q:Exit→Act→World→Prop} {c:Code}
theorem AR.iI (i:Nat) {c:Tmp} (h:E.lookup c=some (ptr b 0)) (hi:rs[i]? =some (AE new b T [q])) (ht:DY P t=true) (hl:Pr.le q p):AR P E rs (.cell c t) p:=by
 intro M w a he hr
 obtain ⟨_,cs,h4,h5,_⟩:=hr _ (List.mem_of_getElem? hi)
 obtain ⟨v,hv,hh⟩:=h5.at_ 0 q rfl
 have hc:w.cell? ⟨b,0,none⟩=some v:=by simp [World.cell?,h4,hv]
 have h1:(loadVar t ⟨b,0,none⟩).run P w= .ok v w:=by simp [loadVar,EK ht,hc]
 refine ⟨v,?_,hl _ _ _ hh⟩
 have hc2:a.tmps.getD c undef= .pointer (some ⟨b,0,none⟩):=he _ _ h
 unfold Ie
 simp only [hc2,asAddr]
 simpa [Sem.run_bind] using h1
theorem Fin.N0 {e:Exit} (T:TypeId) (sz:Nat) (k:Fin n E (Hp M0 w0 S (Bf T sz [] (.slice none 0 0)::rs)) Q e):Fin n E (Hp M0 w0 S rs) Q e:=fun a w hs=>by
 obtain ⟨M,h1,h2,h3,h4⟩:=hs
 have h4:BG M0 w0 S rs M w:=h4
 exact k a w ⟨M,h1,h2,h3,BG.LH h4 (r:=Bf T sz [] (.slice none 0 0)) rfl (.inl ⟨rfl,rfl⟩)⟩
end
section
variable {P:Program}
theorem Im.bB {args:List Pr} {p0 p1:Pr} {e:TypeId} {sz:Nat} (hl:∀r∈rows,r.length=sz) (h:Im P f args (fun x=>agg [p0,p1,is x]) (fun x=>[Ac e sz rows x])):Ay P f args (agg [p0,p1,slice sz rows]):=by
 refine ⟨h.1,fun M w vs hb hv=> ?_⟩
 refine (h.2 M w Lw [] M w vs (BG.begin hb) hv).mono ?_
 rintro e' w' ⟨v,M',x,rfl,_,h1,h2,h3⟩
 obtain ⟨M2,j1,j2,j3⟩:=BG.WQ (j:=0) h3 rfl hl
 obtain ⟨cs,hc,g1,g2⟩:=(agg [p0,p1,is x]).st _ _ _ _ _ j1 h1
 refine ⟨v,rfl,?_,j2.below⟩
 exact (agg [p0,p1,slice sz rows]).st _ _ _ _ _ (Ext.less j2.m) ⟨cs,hc,g1,HL.set (k:=2) g2 rfl fun u hu=>by rw [show u=x from hu];exact j3⟩
theorem MK.dG {args:List Pr} {k:Pr} {e:TypeId} {sz m:Nat} {R:A7} (hl:∀r∈rows,r.length=sz) (h:MK (α:=Value) P f args [R] (fun _=>True) (fun v=>D_ [Ao v (lens m),k]) (fun v=>[R,Bf e sz rows v])):BN P f args (D_ [slice sz rows,k]) R (fun _=>R):=by
 refine ⟨h.1,fun M0 w0 S rs M w vs hI hv=>(h.2 M0 w0 S rs M w vs hI hv).mono ?_⟩
 rintro e' w' ⟨v,M',x,rfl,_,h1,h2,h3⟩
 have h3:BG M0 w0 S (R::Bf e sz rows x::rs) M' w':=h3
 obtain ⟨M2,j1,j2,j3⟩:=BG.dG (j:=1) h3 rfl hl
 obtain ⟨cs,hc,g2⟩:=(D_ [Ao x (lens m),k]).st _ _ _ _ _ j1 h1
 exact ⟨v,M2,rfl,⟨cs,hc,HL.set (k:=0) g2 rfl fun u hu=>by rw [show u=x from hu.1];exact j3⟩,h2.trans j1,(BG.perm (List.Perm.swap _ _ _) j2).G2⟩
variable {n:Fm} {E:Env} {M0:Av} {w0:World} {S:Nat→Prop} {o:Oper}
end
end Cp
namespace Cp
open Go Go.RowKit
def Rc (ps:List Pr) (vs:List Value):A7:=⟨none,true,fun M w=>HL M w ps vs,fun _ _ _ _ he _ h=>h.st he⟩
section
variable {P:Program} {n:Fm} {M0:Av} {w0:World} {S:Nat→Prop} {rs:List A7} {Q:Exit→Act→World→Prop}
theorem MB.nil {gf:Nat} {ps:List Pr} {vs:List Value} (h:Ay P gf (any::ps) G8):MB P gf vs.toArray (fun _:Unit=>Value.bool true) [] (fun _=>[Rc ps vs]):=by
 intro M0 w0 S l β R Rx _ d M w hI
 have hp:HL M w ps vs:=(hI.hold (Rc ps vs) Aa).1
 have h1:=h.2 M w (.func (.yield l) #[] #[]::vs) hI.bd ⟨trivial,hp⟩
 have e1:(Value.func (.yield l) #[] #[]::vs).toArray= #[Value.func (.yield l) #[] #[]]++vs.toArray:=by apply Array.ext';simp
 rw [e1] at h1
 refine callsIn_wide.2 (h1.mono ?_)
 rintro e w' ⟨v,rfl,_,hb⟩
 exact ⟨⟨v,rfl⟩,M,d,Ext.below hb,.inl ((Hp M0 w0 S _).st M w w' hb hI)⟩
theorem Tr.S2 {s p gf:Nat} {ps:List Pr} {assign body:Code} {E:Env} (hE:E.lookup s=none) (hpn:p<n.sz) (eg:Entry P gf) (h:Ay P gf (any::ps) G8)
  (k:∀D,Fin ⟨n.sz,mark D::n.df⟩ E (Hp M0 w0 S (Vh D::rs)) Q .normal):Tr (Td P) n ((s,fn (.func gf) ps)::E) (Hp M0 w0 S rs) (.rangeFunc (.tmp s) #[p] assign body) Q:=by
 intro a w ⟨M,h1,h2,h3,h4⟩
 have h4:BG M0 w0 S rs M w:=h4
 obtain ⟨cs,hv,hl⟩:=h3 s (fn (.func gf) ps) (by simp [List.lookup])
 have no:∀(pre:List Unit) (x:Unit),¬(pre++[x])<+:([]:List Unit):=fun pre x hx=>by simpa using List.prefix_nil.1 hx
 refine Tr.j4 (E:=(s,is (.func (.func gf) #[] cs.toArray))::E) p [] trivial (fun _=>rs) (MB.nil (vs:=cs) h) eg ⟨_,by simp [Cm,List.lookup],Pr.le_refl _⟩ (List.Perm.refl _) rfl hpn (fun l D rec M1 w1 pre x hx=>absurd hx (no pre x)) (fun l D rec M1 w1 pre x hx=>absurd hx (no pre x)) ?_ a w ⟨M,h1,h2,?_,BG.LH h4 (r:=Rc ps cs) rfl hl⟩
 ·
  intro l D rec M1 w1 a' w' ⟨M',g1,g2,g3,g4⟩
  refine k D a' w' ⟨M',g1,g2,fun t q ht=> ?_,?_⟩
  ·
   have hne:t≠s:=fun e=>by rw [e,hE] at ht;cases ht
   exact g3 t q (by rw [List.lookup_cons,show (t==s)=false by simpa using hne];exact ht)
  ·
   have g4:BG M0 w0 S (Rc ps cs::BE l rec::Vh D::As M1 w1::rs) M' w':=g4
   exact (BG.perm (List.Perm.swap _ _ _) (BG.G2 (BG.G2 g4))).G2
 ·
  intro t q ht
  rw [List.lookup_cons] at ht
  by_cases e:t=s
  · subst e;simp at ht;subst ht;exact hv
  ·
   rw [show (t==s)=false by simpa using e] at ht
   exact h3 t q (by rw [List.lookup_cons,show (t==s)=false by simpa using e];exact ht)
theorem Tr.C5 {L:Lg P} {n:Fm} {E:Env} {I:CU} {c:Code} (h:Tr L n E I c (Exit.then (fun _ _=>False) Q)):Tr L n E I (.loop c) Q:=fun a w hst=>
 L.loop (fun _:Unit=>0) (fun _ a w=>St n E I a w) (fun _ a w hx=>L.mono (fun e a w h=>by cases e with|normal=>exact h.elim|_=>exact h) (h a w hx)) () a w hst
end
end Cp
namespace Go.Proofs.YtoodkpodinniaaaGreatDoor
open Go Go.RowKit Cp Go.Proofs.Tryz
theorem k9 {l:List BA} {b0 cap:Nat} {sp:List Value} (NN:l.length≤1000000) (hc:l.length≤cap) (hm:cap≤maxLen) (hq:sp.length=(cap-l.length)*8):BN prog 47 [Ao (.slice (some ⟨b0,0,none⟩) l.length cap) (lens l.length)] (G8) (AE true b0 67 ((l.map A9).flatten++sp.map is)) (fun _=>Bf 67 8 (l.reverse.map A9) (.slice (some ⟨b0,0,none⟩) l.length cap)):=by
 refine BN.of func47 rfl rfl Ai fun M0 w0 S rs M1 w1=> ?_
 refine ac ?_
 refine co rfl (Dw rfl underlying42 Er) ?_
 refine ac ?_
 refine Tr.block (Tr.Nl _ (kk [0] rfl) (fun (k:Nat)=>[(2,int ((k:Nat):Int)),(3,int (((l.length:Nat):Int)-1-((k:Nat):Int)))]) (fun (k:Nat)=>Hp M0 w0 S (AE true b0 67 (((IK l k).map A9).flatten++sp.map is)::As M1 w1::rs)) (fun (k:Nat)=>2*k≤l.length) (fun (k:Nat)=>l.length-k) (0)  (Nat.zero_le _) ⟨kq,⟨_,rfl,int_eq AA⟩,trivial⟩ (fun _ _ h=>h) ?_)
 rintro k  hk
 refine an ?_ ?_<;>intro h1 q1
 have QZ:2*k+2≤l.length:=by have:=F4.IB h1;omega
 have hrl:=K4 l k
 obtain ⟨x,hx⟩:=at_ (l:=IK l k) (k:=k) AA
 obtain ⟨y,hy⟩:=at_ (l:=IK l k) (k:=l.length-1-k) AA
 have e1:(((l.length:Nat):Int)-1-((k:Nat):Int)).toNat=l.length-1-k:=by omega
 refine ac ?_
 refine Tr.seq (Tr.block (Tr.rx ?_))
 refine ay ?_
 refine xo rfl (fun _=>DA rfl underlying42 B0 Er vq AA AA) (IC 0 rfl rfl (Cf rfl CI B0 vq (JH (f:=A9) (fun _=>rfl) AA) rfl) ?_)
 refine ay ?_
 refine xo rfl (fun _=>DA rfl underlying42 B0 Er vq AA AA) (IC 0 rfl rfl (Cf rfl CI B0 vq (JH (f:=A9) (fun _=>rfl) AA) rfl) (xo rfl (fun _=>DA rfl underlying42 B0 Er vq AA AA) ?_))
 refine Cx.D7 0 rfl rfl (Bm rfl rfl vq CS B0 rfl (by rw [LI (sz:=8) (fun _=>rfl)];omega) (HX (f:=A9) (fun _=>rfl) AA)) ?_
 refine xo rfl (fun _=>DA rfl underlying42 B0 Er vq AA AA) ?_
 refine Cx.D7 0 rfl rfl (Bm rfl rfl vq CS B0 rfl U8 (HX (f:=A9) (fun _=>rfl) (by simp only [List.length_set];omega))) ?_
 refine Cx.nil ⟨by kernel_rfl,?_⟩
 refine BV.done Xd ?_
 refine ac ?_
 refine wk [3,2,0] rfl ?_
 refine ac ?_
 exact Fin.Qg (k+1)  (⟨by omega,by omega⟩) ⟨⟨_,rfl,AO k⟩,⟨_,rfl,int_eq AA⟩,kz⟩ (by rw [Pm hx hy];simp only [e1,Int.toNat_natCast,(List.getElem?_eq_some_iff.1 hx).2,(List.getElem?_eq_some_iff.1 hy).2];exact fun _ _ h=>h)
 have hke:l.length≤2*k+1:=by have:=F4.IB h1;omega
 refine Tr.exit (Fin.BH (Fin.BH (Fin.Bu (Fin.J5 (sz:=8) 0 rfl (rows:=l.reverse.map A9) (sp:=sp) (by rw [aT hk AA]) (by rw [List.length_map,List.length_reverse]) hc hm hq (Fin.pM rfl)))))
theorem k_:Entry Tryz.prog 47:=⟨_,Tryz.func47,rfl,rfl⟩
theorem aU   :Ay prog 47 [is (.slice none 0 0)] (G8):=by
 refine fo func47 rfl ⟨rfl,rfl⟩ fun M0 w0=> ?_
 refine ac ?_
 refine co rfl (A8 rfl underlying42 ⟨_,rfl,AH 8⟩) ?_
 refine ac ?_
 refine Tr.block (Tr.C5 ?_)
 refine an ?_ ?_<;>intro h1 q1
 exact absurd h1 AB
 have:=h1
 refine Tr.exit (Fin.BH (Fin.BH (Fin.Bu (Fin.Yh rfl))))
theorem lA {l:List BA} {v:Value} {p:Pr} (NN:l.length≤1000000):BN Tryz.prog 47 [Ao v p] G8 (Bf 67 8 (l.map A9) v) (fun _=>Bf 67 8 (l.reverse.map A9) v):=by
 refine BN.WN k_ (fun h0 hv=> ?_) (fun b cap sp hv hc hm hq=> ?_)
 ·
  subst hv
  have hl:l=[]:=by simpa using h0
  subst hl
  refine ⟨aU.1,fun M0 w0 S rs M w vs hI hh=>(aU.2 M w vs hI.bd hh).mono ?_⟩
  rintro e' w' ⟨u,rfl,h2,h3⟩
  have K6:BG M0 w0 S (BW::rs) M w':=(Hp M0 w0 S _).st _ _ _ h3 hI
  exact ⟨u,M,rfl,h2,Ext.below h3,K6.C0 (i:=0) rfl rfl rfl (.inl ⟨rfl,rfl⟩)⟩
 ·
  subst hv
  rw [List.length_map] at hc hq ⊢
  exact k9 NN hc hm hq
theorem XK {e:EA} {n:Nat} (hz:e.sz n) (hn:n≤1000000):Ay Tryz.prog 44 [agg (Bs e)] (agg (Bs e)):=by
 have h:=Pb (e:=e) hz hn
 refine ⟨h.1,fun M w vs hb hv=> ?_⟩
 refine (h.2 M w Lw [] M w vs (BG.begin hb) hv).mono ?_
 rintro e' w' ⟨v,M',x,rfl,_,h1,h2,h3⟩
 obtain ⟨M2,j1,j2,j3⟩:=BG.WQ (j:=0) h3 rfl (Aj fun _=>rfl)
 obtain ⟨cs,hc,g1,g2⟩:=(agg [is x,Es e.BI,I2 e.items]).st _ _ _ _ _ j1 h1
 refine ⟨v,rfl,?_,j2.below⟩
 exact (agg (Bs e)).st _ _ _ _ _ (Ext.less j2.m) ⟨cs,hc,g1,HL.set (k:=0) g2 rfl fun u hu=>by rw [show u=x from hu];exact j3⟩
def Un (e:EA) (l:List BA):List BA×Int:=if (HE e l (GW l.length)).2=0 then ((K3 l e.Aw l.length).reverse,0) else ([],(HE e l (GW l.length)).2)
theorem Pn (k:Nat):GW (k+1)=GW k++[(k:Int)]:=by unfold GW;rw [List.range_succ,List.map_append];rfl
theorem lB {l:List BA} {e:EA} {k:Nat} {c:BA} {n:Nat} (hv:El e=true) (ha:∀(j:Nat) c,l[j]? =some c→(EV (Fo l e.Aw j) c).2=0) (hk:l[k]? =some c) (hz:e.sz n) (hn:n+l.length≤800000) (hc:∀c∈l,c.Bj.fits∧c.Bj.small):Ay Tryz.prog 46 [agg (Bs ⟨Fo l e.Aw k,e.BI,e.items⟩),agg (A9 c)] (D_ [agg (Bs ⟨Fo l e.Aw (k+1),e.BI,e.items⟩),int 0]):=
 fT (k8 hv ha hk) (Rb hz hc (k:=k) (by have:=Ar hk;omega)) (by have:=Ar hk;omega) (hc c (List.mem_of_getElem? hk))
theorem fV {e:EA} {l:List BA} {n:Nat} (hz:e.sz n) (hn:n≤700000) (hc:∀c∈l,c.Bj.fits∧c.Bj.small) (hv:El e=true) (NN:l.length≤24):Ay prog 19 [agg (Bs e),slice 8 (l.map A9)] (D_ [slice 8 ((Un e l).1.map A9),int (Un e l).2]):=by
 refine Ay.of func19 rfl rfl Ai fun M0 w0=> ?_
 refine Tr.seq (Tr.CL (co rfl (BK rfl (Va rfl)) (cm rfl (cm rfl (Ch.nil (Fin.go (Tr.seq (Tr.CL (cm rfl (Ch.nil (Fin.go (Tr.seq (Tr.seq (Tr.CL ?_))))))))))))))
 refine cm rfl (co rfl (F3 rfl underlying42 (vl rfl)) (cm rfl (Ch.nil (Fin.go (Tr.block (Tr.Eg 3 1 (Tr.GG [(1,_),(2,_),(17,_)] ⟨ke rfl,ke rfl,ke rfl,trivial⟩ (fun i v=>[(18,int ((i:Nat):Int)),(6,Ao v (ints (GW i)))]) (fun i v=>Hp M0 w0 Lw ([Bi 3 1 v])) (fun i:Nat=>i≤(l).length) (fun i:Nat=>(l).length-i) 0 (.slice none 0 0) (Nat.zero_le _) ⟨ke rfl,⟨_,rfl,Du rfl⟩,trivial⟩ (fun _ _ h=>h) ?_)))))))
 rintro i v rY
 refine Tr.seq (Tr.CL (co rfl (ki rfl rfl rfl rfl) (Ch.nil (Fin.go (Tr.seq ?_)))))
 refine Tr.cn rfl ?_ ?_<;>intro h1 q1
 have Z9:i<(l).length:=AV h1
 obtain ⟨_c,fH⟩:=at_ Z9
 refine Tr.skip (Fin.go (Tr.seq (Tr.block (Tr.seq (Tr.CL (cm rfl (cm rfl (Ch.nil (Fin.go (Tr.BL (tm rfl (tm rfl (tp rfl (Ah (xs:=[.tmp 22]) (rows:=[[_]]) rfl rfl underlying50 DC z3 rfl AB ⟨⟨Aq,(Vo rfl)⟩,trivial⟩ AB) ?_)))))))))))))
 refine TO.Fw 0 rfl rfl AB (Dy rfl rfl rfl rfl underlying50 DC S9 z3 (Kb rfl) (Kf rfl) (CY Bt (Ka rfl))) (fun v1=> ?_)
 refine tm rfl (TO.nil (Fin.block (Fin.go (Tr.CL (lp rfl rfl rfl rfl AA (cm rfl (Ch.nil ?_)))))))
 exact Fin.Ic (i+1) v1 (⟨Z9,by omega⟩) ⟨⟨_,rfl,AO i⟩,⟨_,rfl,D3 (by rw [Pn,List.map_append];rfl)⟩,ke rfl,ke rfl,ke rfl,trivial⟩ (fun _ _ h=>h)
 have kZ:i=(l).length:=by have:=AW h1;omega
 subst kZ
 refine Tr.exit (Fin.BH (Fin.BH (Fin.Bu (Fin.go (Tr.seq (Tr.seq (Tr.BL (tp rfl (AX rfl DZ DL (vl rfl) rfl rfl) (tm rfl (tm rfl ?_))))))))))
 refine tp rfl (Ad rfl (Lq (s:=GW l.length) hz AA hc) ⟨ke rfl,ke rfl,(Kb rfl),trivial⟩) ?_
 refine tm rfl (tp rfl (Ec rfl (vl rfl) rfl) (tp rfl (Ec rfl (vl rfl) rfl) ?_))
 refine Tl rfl rfl rfl rfl z32 F5 (fun b1=> ?_)
 refine TO.Ap 0 rfl rfl rfl (vl rfl) (Va rfl) rfl DL rfl rfl (tm rfl (TO.nil (Fin.go (Tr.drop 0 (wk3 1 2 9 rfl (Tr.seq (Tr.CL (cm rfl (co rfl (ki rfl rfl rfl rfl) (Ch.nil (Fin.go ?_)))))))))))
 refine Tr.cn rfl ?_ ?_<;>intro h2 q2
 have XG:¬(HE e l (GW l.length)).2=0:=by have:=q2;omega
 have hR:Un e l=([],(HE e l (GW l.length)).2):=if_neg XG
 refine Tr.seq (Tr.CL (cm rfl (cm rfl (cm rfl (Ch.nil (Fin.go (Tr.ret (Fin.AL (Fin.EJ rfl (Cd.F_ _ _) rfl ?_ rfl ?_)))))))))
 · rw [hR];exact AH 8
 · exact int_eq (by rw [hR])
 have XG:(HE e l (GW l.length)).2=0:=by have:=q2;omega
 have hR:Un e l=((K3 l e.Aw l.length).reverse,0):=if_pos XG
 obtain ⟨ha,_⟩:=iF hv NN XG
 refine Tr.skip (Fin.go (Tr.seq (Tr.CL (cm rfl (Ch.nil (Fin.go (Tr.seq (Tr.BL (tp rfl (AX rfl DZ DL (vl rfl) rfl rfl) (tp rfl (Ad rfl (XK hz AA) ⟨ke rfl,trivial⟩) ?_))))))))))
 refine Tl rfl rfl rfl rfl z32 F5 (fun b2=> ?_)
 refine TO.Ap 0 rfl rfl rfl (vl rfl) (Va rfl) rfl DL rfl rfl (TO.nil (Fin.go (Tr.seq (Tr.seq (Tr.CL (cm rfl (co rfl (F3 rfl underlying42 (vl rfl)) (cm rfl (Ch.nil (Fin.go (Tr.block (Tr.N0 67 8 (Tr.GG [(11,_),(38,_),(39,_)] ⟨ke rfl,ke rfl,ke rfl,trivial⟩ (fun k v2=>[(40,int ((k:Nat):Int)),(10,Ao v2 (lens ((K3 l e.Aw k).map A9).length))]) (fun k v2=>Hp M0 w0 Lw ([Bf 67 8 ((K3 l e.Aw k).map A9) v2,AE true b2 32 (Bs ⟨Fo l e.Aw k,e.BI,e.items⟩),Bi 3 1 v])) (fun k:Nat=>k≤(l).length) (fun k:Nat=>(l).length-k) 0 (.slice none 0 0) (Nat.zero_le _) ⟨ke rfl,⟨_,rfl,Km (by rfl)⟩,trivial⟩ (fun _ _ h=>h) ?_)))))))))))))
 rintro k v2 Be
 refine Tr.seq (Tr.CL (co rfl (ki rfl rfl rfl rfl) (Ch.nil (Fin.go (Tr.seq ?_)))))
 refine Tr.cn rfl ?_ ?_<;>intro h3 q3
 have Ae:k<(l).length:=AV h3
 obtain ⟨c,Af⟩:=at_ Ae
 have hcm:=List.mem_of_getElem? Af
 obtain ⟨x,b,hc0,hx,hdn,hinv⟩:=iH (ha k c Af)
 have hx2:=(Rb hz hc (k:=k) AA).Aw x (List.mem_of_getElem? hx)
 have hx3:x.fits∧x.small:=⟨hx2.fits,hx2.small AA⟩
 have VJ:(Bh x c).2.1=b:=by rw [hdn]
 have hol:=Gj (l:=l) (Aw:=e.Aw) k AA
 refine Tr.skip (Fin.go (Tr.seq (Tr.block (Tr.seq (Tr.BL (tp rfl (AD rfl underlying42 B0 (vl rfl) (vl rfl) AA (Ak Af)) (tp rfl (AX rfl CI B0 (vl rfl) rfl rfl) ?_)))))))
 refine Tl rfl rfl rfl rfl K8 F6 (fun b3=> ?_)
 refine TO.Ap 0 rfl rfl rfl (vl rfl) (Va rfl) rfl B0 rfl rfl (TO.nil (Fin.go (Tr.seq (Tr.pad (Tr.YB mixed [none,some (0,3,false,0),none,some (0,1,false,0),none,none,some (0,1,false,0),none,none,none,none,some (0,0,true,14),some (14,0,true,14),none] BD (xo rfl (fun _=>AF rfl Jr (vl rfl)) (IC 3 rfl rfl (B1 rfl Rz (vl rfl) rfl) (xo rfl (fun _=>AF rfl YW (vl rfl)) (IC 1 rfl rfl (B1 rfl C1 (vl rfl) rfl) (xo rfl (fun _=>AD rfl underlying28 Ba (vl rfl) (vl rfl) AA (E0 (f:=Am) hx)) (xo rfl (fun _=>AX rfl Bv Ba (vl rfl) rfl rfl) (IC 1 rfl rfl (Cf rfl CI B0 (vl rfl) rfl rfl) (xo rfl (fun _=>Ad rfl (Se hx3.1 hx3.2 (hc c hcm).1 (hc c hcm).2) ⟨ke rfl,ke rfl,trivial⟩) ?_)))))))))))))
 refine xm rfl (xo rfl (fun _=>Ec rfl (vl rfl) rfl) (xo rfl (fun _=>Ec rfl (vl rfl) rfl) (Cx.ef 0 rfl rfl AB (Em rfl rfl AB rfl K8 F6) (Cx.D7 0 rfl rfl (En rfl rfl rfl rfl (Va rfl) B0 rfl rfl) (xm rfl ?_)))))
 refine Cx.nil ⟨rfl,?_⟩
 refine BV.open_ 0 14 rfl rfl (fun v2=> ?_)
 refine BV.done (Dx.cons (Dx.cons (Dx.cons (Dx.cons (Dx.cons (Dx.map _)))))) (Fin.VR 14 0 _ rfl rfl (fun _=>rfl) (fun b4=> ?_))
 refine Fin.go (wk7 10 11 13 14 38 39 40 rfl (Tr.seq (Tr.BL (tm rfl (TO.rd 0 rfl rfl rfl AB (Cf rfl CI B0 (vl rfl) rfl rfl) (tp rfl (Ah (xs:=[.tmp 56]) (rows:=[_]) rfl rfl underlying42 B0 K8 rfl AB ⟨⟨Aq,(Va rfl)⟩,trivial⟩ AB) ?_))))))
 refine TO.Fw 2 rfl rfl AB (Di rfl rfl AB rfl underlying42 B0 Tt K8 rfl AB AB (vl rfl) (Kf rfl) (Aj fun _=>rfl) (Nat.zero_lt_succ _) IU IV) (fun v3=> ?_)
 refine tm rfl (TO.nil (Fin.go (Tr.drop 0 (Tr.BL (TO.rd 2 rfl rfl rfl AB (Cf rfl DZ DL (vl rfl) rfl rfl) (TO.rd 0 rfl rfl rfl AB (Cf rfl CI B0 (vl rfl) rfl rfl) (tp rfl (Ad rfl (lB hv ha Af hz AA hc) ⟨ke rfl,ke rfl,trivial⟩) (tm rfl (tp rfl (Ec rfl (vl rfl) rfl) (tp rfl (Ec rfl (vl rfl) rfl) (TO.Ap 2 rfl rfl rfl (vl rfl) (Va rfl) rfl DL rfl rfl (TO.nil (Fin.block (Fin.go ?_))))))))))))))
 refine Tr.drop 0 (wk5 10 11 38 39 40 rfl (Tr.CL (lp rfl rfl rfl rfl AA (cm rfl (Ch.nil ?_)))))
 exact Fin.Ic (k+1) v3 (⟨Ae,by omega⟩) ⟨⟨_,rfl,AO k⟩,⟨_,rfl,Cr (by simp [Gj (l:=l) (Aw:=e.Aw) k AA,Gj (l:=l) (Aw:=e.Aw) (k+1) AA])⟩,ke rfl,ke rfl,ke rfl,trivial⟩ (by rw [OW Af,hinv,←VJ,List.map_append];exact fun _ _ h=>h)
 have BM:k=(l).length:=by have:=AW h3;omega
 subst BM
 have hol:=Gj (l:=l) (Aw:=e.Aw) l.length (Nat.le_refl _)
 refine Tr.exit (Fin.BH (Fin.BH (Fin.Bu (Fin.go (Tr.seq (Tr.BL (tm rfl ?_)))))))
 refine TO.Kg 0 rfl rfl AB (An rfl rfl AB rfl (lA (l:=K3 l e.Aw l.length) (by rw [hol];omega)) ⟨ke rfl,trivial⟩) ?_
 refine TO.nil (Fin.go (Tr.seq (Tr.Yn 0 10 rfl rfl (Aj fun _=>rfl) (Tr.CL (cm rfl (cm rfl (cm rfl (Ch.nil (Fin.go (Tr.ret (Fin.EJ rfl (Cd.F_ _ _) rfl ?_ rfl ?_)))))))))))
 · rw [hR];exact BF _ _
 · exact int_eq (by rw [hR])
end Go.Proofs.YtoodkpodinniaaaGreatDoor
