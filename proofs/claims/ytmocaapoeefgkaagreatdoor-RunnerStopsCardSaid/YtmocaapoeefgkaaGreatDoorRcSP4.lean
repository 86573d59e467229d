/-
  Part 4 of the texts that prove this claim, merged.
-/
import Derived.Test.YtmocaapoeefgkaaGreatDoorRcSP3
set_option linter.all false
set_option maxRecDepth 40000
set_option maxHeartbeats 16000000
namespace Go.Proofs.YtmocaapoeefgkaaGreatDoor
open Go Go.RowKit Cp Go.Proofs.Tryz
structure WO where
 CC:Int
 bits:Int
 day:Int
 deriving DecidableEq
abbrev AEM (x:WO):List Pr:=[int x.CC,int x.bits,int x.day]
abbrev kC (l:List WO):Pr:=slice 3 (l.map AEM)
structure Um where
 name:List UInt8
 kind:Int
 Ih:Int
 links:List WO
 LV:Int
 deriving DecidableEq
abbrev bJ (x:Um):List Pr:=[str x.name,int x.kind,int x.Ih,kC x.links,int x.LV]
abbrev Qq (l:List Um):Pr:=slice 5 (l.map bJ)
structure IA where
 client:Int
 server:Int
 deriving DecidableEq
abbrev vU (x:IA):List Pr:=[int x.client,int x.server]
abbrev Hy (l:List IA):Pr:=slice 2 (l.map vU)
abbrev FD:WO:=⟨0,0,0⟩
abbrev GZ:IA:=⟨0,0⟩
def Gm (l:List WO) (i:Nat):Bool:=decide (Di (l[i]?.getD FD).CC (l[i]?.getD FD).bits>0)&&decide (0≤(l[i]?.getD FD).day)&&decide ((l[i]?.getD FD).day≤40000)&&(decide (i=0)||decide ((l[i-1]?.getD FD).day<(l[i]?.getD FD).day))
def N3 (x:Um):Bool:=(named x.name&&decide (x.kind=1∨x.kind=2)&&decide (1≤x.Ih)&&decide (x.Ih≤4)&&decide (1≤x.links.length)&&decide (x.links.length≤8))&&allI (Gm x.links) x.links.length&&(decide ((x.links[0]?.getD FD).day≤x.LV)&&decide (x.LV≤40000))
structure AAz (x:Um):Prop where
 name:named x.name=true
 kind:x.kind=1∨x.kind=2
 p1:1≤x.Ih
 p4:x.Ih≤4
 l1:1≤x.links.length
 l8:x.links.length≤8
 lnk:∀j,j<x.links.length→Gm x.links j=true
 u0:(x.links[0]?.getD FD).day≤x.LV
 u1:x.LV≤40000
theorem Gl {x:Um}:N3 x=true↔AAz x:=by
 unfold N3
 simp only [Bool.and_eq_true,decide_eq_true_eq,B6]
 exact ⟨fun ⟨⟨⟨⟨⟨⟨⟨h1,h2⟩,h3⟩,h4⟩,h5⟩,h6⟩,h7⟩,h8,h9⟩=>⟨h1,h2,h3,h4,h5,h6,h7,h8,h9⟩,fun h=>⟨⟨⟨⟨⟨⟨⟨h.name,h.kind⟩,h.p1⟩,h.p4⟩,h.l1⟩,h.l8⟩,h.lnk⟩,h.u0,h.u1⟩⟩
def Ea (n:Nat) (l:List IA) (i:Nat):Bool:=(decide (0≤(l[i]?.getD GZ).client∧(l[i]?.getD GZ).client<n)&&decide (0≤(l[i]?.getD GZ).server∧(l[i]?.getD GZ).server<n)&&decide ((l[i]?.getD GZ).client≠(l[i]?.getD GZ).server))&&(decide (i=0)||decide ((l[i-1]?.getD GZ).client<(l[i]?.getD GZ).client∨((l[i-1]?.getD GZ).client=(l[i]?.getD GZ).client∧(l[i-1]?.getD GZ).server<(l[i]?.getD GZ).server)))
def Un (n:Nat) (l:List IA):Bool:=allI (Ea n l) l.length&&decide (l.length≤40)
theorem Yb {x:Um}  :BC prog 149 [agg (bJ x)] (int (if N3 x then 0 else 30)):=by
 refine fo func149 rfl ⟨rfl,rfl⟩ fun M0 w0=> ?_
 refine ac ?_
 refine wk [1] rfl (Tr.Vc [1] [] ((named x.name=true∧(x.kind=1∨x.kind=2)∧1≤x.Ih∧x.Ih≤4)∧1≤x.links.length∧x.links.length≤8∧(x.links[0]?.getD FD).day≤x.LV∧x.LV≤40000) ?_ (fun hpre=> ?_))
 refine ac ?_
 refine co rfl (Ck (Gf) rfl rfl) ?_
 refine ag ?_ ?_<;>intro h2 q2
 refine ac ?_
 refine wk [54,1] rfl ?_
 refine a2 ?_
 · refine int_eq (if_neg (fun hv=> ?_)).symm;have ok:=Gl.1 hv;have o1:=ok.name;have o2:=ok.kind;have o3:=ok.p1;have o4:=ok.p4;have o5:=ok.l1;have o6:=ok.l8;have o7:=ok.u0;have o8:=ok.u1;(simp_all)
 refine ag ?_ ?_<;>intro h3 q3
 refine ag ?_ ?_<;>intro h4 q4
 refine ac ?_
 refine wk [54,1] rfl ?_
 refine a2 ?_
 · exact JR
 refine ag ?_ ?_<;>intro h5 q5
 refine ac ?_
 refine wk [54,1] rfl ?_
 refine a2 ?_
 · exact JR
 refine ag ?_ ?_<;>intro h6 q6
 refine ac ?_
 refine wk [54,1] rfl ?_
 refine a2 ?_
 · exact JR
 refine ag ?_ ?_<;>intro h7 q7
 refine ac ?_
 refine wk [54,1] rfl ?_
 refine a2 ?_
 · exact JR
 refine ag ?_ ?_<;>intro h8 q8
 refine ac ?_
 refine wk [54,1] rfl ?_
 refine a2 ?_
 · exact JR
 refine ag ?_ ?_<;>intro h9 q9
 refine ac ?_
 refine wk [54,1] rfl ?_
 refine a2 ?_
 · exact JR
 obtain ⟨c0,hc0⟩:=at_ (l:=x.links) (k:=0) AA
 have hg0:=getD_at (d:=FD) hc0
 refine ac ?_
 refine cy h9 rfl (AD rfl underlying133 Ja vq vq AA (AX (k:=0) hc0)) ?_
 refine ac ?_
 refine wk [54,1] rfl ?_
 refine Tr.cn rfl ?_ ?_<;>intro h10 PC
 refine a2 ?_
 · exact gq
 refine Tr.skip ?_
 exact Fin.AP () ⟨⟨by simp_all,by omega,by omega,by omega⟩,by omega,by omega,by rw [hg0];omega,by omega⟩ kz
 refine ag ?_ ?_<;>intro h11 Rt
 refine ac ?_
 refine wk [54,1] rfl ?_
 refine a2 ?_
 · exact JR
 refine ag ?_ ?_<;>intro h12 VQ
 refine ac ?_
 refine wk [54,1] rfl ?_
 refine a2 ?_
 · exact JR
 refine ag ?_ ?_<;>intro Nv eE
 refine ac ?_
 refine wk [54,1] rfl ?_
 refine a2 ?_
 · exact JR
 refine ag ?_ ?_<;>intro Mo q14
 refine ac ?_
 refine wk [54,1] rfl ?_
 refine a2 ?_
 · exact JR
 refine ag ?_ ?_<;>intro Vs q15
 refine ac ?_
 refine wk [54,1] rfl ?_
 refine a2 ?_
 · exact JR
 obtain ⟨c0,hc0⟩:=at_ (l:=x.links) (k:=0) AA
 have hg0:=getD_at (d:=FD) hc0
 refine ac ?_
 refine cy Vs rfl (AD rfl underlying133 Ja vq vq AA (AX (k:=0) hc0)) ?_
 refine ac ?_
 refine wk [54,1] rfl ?_
 refine Tr.cn rfl ?_ ?_<;>intro h16 q16
 refine a2 ?_
 · exact gq
 refine Tr.skip ?_
 exact Fin.AP () ⟨⟨by simp_all,by omega,by omega,by omega⟩,by omega,by omega,by rw [hg0];omega,by omega⟩ kz
 obtain ⟨⟨hq1,dD,hq3,hq4⟩,hq5,hq6,hq7,hq8⟩:=hpre
 refine ac ?_
 refine Tr.block (Tr.BE _ (kk [1] rfl) (fun k:Nat=>[(3,int ((k:Nat):Int))]) (fun k:Nat=>k≤(x.links).length∧(∀j,j<k→Gm x.links j=true)) (fun k:Nat=>(x.links).length-k) 0 (⟨Nat.zero_le _,fun j hj=>absurd hj AA⟩) kz ?_)
 rintro k ⟨BV,AZ⟩
 refine an ?_ ?_<;>intro OL q17
 have Ai:k<(x.links).length:=AH OL
 obtain ⟨c,Ah⟩:=at_ Ai
 have hg:=getD_at (d:=FD) Ah
 refine a2 ?_
 refine co rfl (AD rfl underlying133 Ja vq vq AA (AX Ah)) ?_
 refine ac ?_
 refine co rfl (Ck (Je) rfl rfl) ?_
 refine ag ?_ ?_<;>intro Rr q18
 refine ac ?_
 refine wk [107,3,1] rfl ?_
 refine a2 ?_
 · exact Xl
 refine ac ?_
 refine cy Rr rfl (AD rfl underlying133 Ja vq vq AA (AX Ah)) ?_
 refine ag ?_ ?_<;>intro nZ q19
 refine ac ?_
 refine wk [107,3,1] rfl ?_
 refine a2 ?_
 · exact Xl
 refine ac ?_
 refine cy nZ rfl (AD rfl underlying133 Ja vq vq AA (AX Ah)) ?_
 refine ag ?_ ?_<;>intro Ru q20
 refine ac ?_
 refine wk [107,3,1] rfl ?_
 refine a2 ?_
 · exact Xl
 refine ag ?_ ?_<;>intro av q21
 have hk0:0<k:=by simpa using av
 obtain ⟨y,hy⟩:=at_ (l:=x.links) (k:=k-1) AA
 have VJ:=getD_at (d:=FD) hy
 · repeat' first|(refine int_eq (if_neg (fun hv=> ?_)).symm;have ok:=Gl.1 hv;have o1:=ok.name;have o2:=ok.kind;have o3:=ok.p1;have o4:=ok.p4;have o5:=ok.l1;have o6:=ok.l8;have o7:=ok.u0;have o8:=ok.u1;(have h_:=ok.lnk k AA;unfold Gm at h_;rw [hg,VJ] at h_;simp_all;omega))|(exact Fin.AP (k+1) ⟨⟨Ai,Dz AZ (by unfold Gm;rw [hg,VJ];simp_all)⟩,by omega⟩ ⟨⟨_,rfl,AG k⟩,kz⟩)|(refine cy av rfl (AD rfl underlying133 Ja vq vq AA K_) ?_)|refine cy av rfl (AD rfl underlying133 Ja vq vq AA (AX Ah)) ?_|refine ac ?_|(refine Tr.cn rfl ?_ ?_<;>intro h q)
 have LS:¬0<k:=by simpa using av
 refine ac ?_
 refine wk [107,3,1] rfl ?_
 refine a2 ?_
 exact Fin.AP (k+1) ⟨⟨Ai,Dz AZ (by unfold Gm;rw [hg];simp_all)⟩,by omega⟩ ⟨⟨_,rfl,AG k⟩,kz⟩
 have BL:k=(x.links).length:=by have:=AJ OL;omega
 subst BL
 refine a3 ?_
 · refine int_eq (if_pos (Gl.2 ⟨hq1,dD,hq3,hq4,hq5,hq6,AZ,by omega,by omega⟩)).symm
theorem kD {d:Nat} {w:World} {x0 y0:Int} {x1 y1:Int}:(Op.equalIn (d+2) 187 (.agg #[.int .i64 x0,.int .i64 x1]) (.agg #[.int .i64 y0,.int .i64 y1])).run Tryz.prog w= .ok (decide (x0=y0∧x1=y1)) w:=by
 have h:=eqS (w:=w) (d:=d+1) (xs:= #[.int .i64 x0,.int .i64 x1]) (ys:= #[.int .i64 y0,.int .i64 y1]) Tryz.underlying187 BS (Ev AB (CA DF rfl) (CA DF rfl) (F8 (d:=d+0) Tryz.underlying3) (Ev AB (CA DF rfl) (CA DF rfl) (F8 (d:=d+0) Tryz.underlying3) (MK)))
 refine h.trans (congrArg (fun b=>Result.ok b w) ?_)
 rw [Bool.eq_iff_iff];simp [and_assoc]
theorem kE {E:Env} {I:Cb} {o:Oper} {u:TypeId} {x y:Operand} {x0 y0:Int} {x1 y1:Int} (ho:o.op= .binOp .eql 187 x y u) (hx:VL E x (agg [is (.int .i64 x0),is (.int .i64 x1)])) (hy:VL E y (agg [is (.int .i64 y0),is (.int .i64 y1)])):Ad Tryz.prog I o E (bool (decide (x0=y0∧x1=y1))):=
 MI [.int .i64 x0,.int .i64 x1] [.int .i64 y0,.int .i64 y1] ho hx hy BS (fun w=>by rw [show Op.equal 187 _ _=Op.equalIn (9998+2) 187 _ _ from rfl];exact kD)
theorem kG {E:Env} {I:Cb} {o:Oper} {u:TypeId} {x y:Operand} {x0 y0:Int} {x1 y1:Int} (ho:o.op= .binOp .neq 187 x y u) (hx:VL E x (agg [is (.int .i64 x0),is (.int .i64 x1)])) (hy:VL E y (agg [is (.int .i64 y0),is (.int .i64 y1)])):Ad Tryz.prog I o E (bool (!decide (x0=y0∧x1=y1))):=
 MJ [.int .i64 x0,.int .i64 x1] [.int .i64 y0,.int .i64 y1] ho hx hy BS (fun w=>by rw [show Op.equal 187 _ _=Op.equalIn (9998+2) 187 _ _ from rfl];exact kD)
deriving instance DecidableEq for HB
deriving instance DecidableEq for JL
deriving instance DecidableEq for B7
deriving instance DecidableEq for BW
theorem SM {α:Type} {a b:List α} {k:Nat} {x y:α} (ha:a[k]? =some x) (hb:b[k]? =some y) (h:a.take k=b.take k) (e:x=y):a.take (k+1)=b.take (k+1):=by
 rw [List.take_add_one,List.take_add_one,ha,hb,h,e]
theorem Zf {α:Type} {a b:List α} {k:Nat} {x y:α} (ha:a[k]? =some x) (hb:b[k]? =some y) (e:¬x=y):¬a=b:=by
 rintro rfl;rw [ha] at hb;cases hb;exact e rfl
theorem gz {α:Type} {a b:List α} (hl:a.length=b.length) (h:a.take a.length=b.take a.length):a=b:=by
 rw [List.take_length,hl,List.take_length] at h;exact h
theorem Yc {a b:HB} (hn:a.names.length≤8796093022208):BC prog 207 [agg (DH a),agg (DH b)] (bool (decide (a=b))):=by
 refine fo func207 rfl ⟨rfl,rfl⟩ fun M0 w0=> ?_
 refine ac ?_
 refine ag ?_ ?_<;>intro h1 q1
 refine ac ?_
 refine wk [89,3,2] rfl ?_
 refine a2 ?_
 · exact E2
 refine ag ?_ ?_<;>intro h2 q2
 refine ac ?_
 refine wk [89,3,2] rfl ?_
 refine a2 ?_
 · exact E2
 refine ag ?_ ?_<;>intro h3 q3
 refine ac ?_
 refine wk [89,3,2] rfl ?_
 refine a2 ?_
 · exact E2
 refine ac ?_
 refine cy h3 rfl (Oz rfl vq vq) ?_
 refine ag ?_ ?_<;>intro h4 q4
 refine ac ?_
 refine wk [89,3,2] rfl ?_
 refine a2 ?_
 · exact E2
 refine ag ?_ ?_<;>intro h5 q5
 refine ac ?_
 refine wk [89,3,2] rfl ?_
 refine a2 ?_
 · exact E2
 refine ac ?_
 refine cy h5 rfl (Oz rfl vq vq) ?_
 refine ag ?_ ?_<;>intro h6 q6
 refine ac ?_
 refine wk [89,3,2] rfl ?_
 refine a2 ?_
 · exact E2
 refine ag ?_ ?_<;>intro h7 q7
 refine ac ?_
 refine wk [89,3,2] rfl ?_
 refine a2 ?_
 · exact E2
 refine ag ?_ ?_<;>intro h8 q8
 refine ac ?_
 refine wk [89,3,2] rfl ?_
 refine a2 ?_
 · exact E2
 refine ac ?_
 refine cy h8 rfl (X9 rfl underlying4 vq vq) ?_
 refine ag ?_ ?_<;>intro h9 q9
 refine ac ?_
 refine wk [89,3,2] rfl ?_
 refine a2 ?_
 · exact E2
 refine ag ?_ ?_<;>intro h10 PC
 refine ac ?_
 refine wk [89,3,2] rfl ?_
 refine a2 ?_
 · exact E2
 refine ac ?_
 refine cy h10 rfl (kG rfl vq vq) ?_
 refine ag ?_ ?_<;>intro h11 Rt
 refine ac ?_
 refine wk [89,3,2] rfl ?_
 refine a2 ?_
 · exact E2
 refine ac ?_
 refine wk [89,3,2] rfl ?_
 refine Tr.cn rfl ?_ ?_<;>intro h12 VQ
 refine a2 ?_
 · exact E2
 have Td:a.names.length=b.names.length:=by simp_all;omega
 refine a2 ?_
 refine Tr.block (Tr.BE _ (kk [92,3,2] rfl) (fun k:Nat=>[(93,int ((k:Nat):Int))]) (fun k:Nat=>k≤(a.names).length∧(a.names.take k=b.names.take k)) (fun k:Nat=>(a.names).length-k) 0 (⟨Nat.zero_le _,rfl⟩) kz ?_)
 rintro k ⟨BV,AZ⟩
 refine ac ?_
 refine Tr.seq ?_
 refine Tr.cn rfl ?_ ?_<;>intro Nv eE
 have Ai:k<(a.names).length:=AH Nv
 obtain ⟨x,Ah⟩:=at_ Ai
 obtain ⟨y,hy⟩:=at_ (l:=b.names) (k:=k) AA
 · repeat' first|(refine bool_eq ?_;symm;rw [decide_eq_false_iff_not];rintro rfl;rw [Ah] at hy;cases hy;simp_all)|exact Fin.AP (k+1) ⟨⟨Ai,SM Ah hy AZ CY⟩,by omega⟩ ⟨⟨_,rfl,AG k⟩,kz⟩|refine co rfl (AD rfl underlying127 MF vq vq AA (AX Ah)) ?_|refine co rfl (AD rfl underlying127 MF vq vq AA (AX hy)) ?_|refine ac ?_|(refine Tr.cn rfl ?_ ?_<;>intro h q)
 have BL:k=(a.names).length:=by have:=AJ Nv;omega
 subst BL
 refine a3 ?_
 · refine bool_eq ?_;have hnn:=gz Td AZ;clear AZ Td;cases a;cases b;simp_all
theorem Yd {a b:JL} (hs:a.small):BC prog 162 [agg (G1 a),agg (G1 b)] (bool (decide (a=b))):=by
 refine fo func162 rfl ⟨rfl,rfl⟩ fun M0 w0=> ?_
 have hsc:=hs.chain
 refine a2 ?_
 refine co rfl (Oz rfl vq vq) (cm rfl ?_)
 refine Ch.cs 11 rfl ?_ ?_<;>intro h1 q1
 refine ac ?_
 refine wk [26,3,2] rfl ?_
 refine a2 ?_
 · exact E2
 refine ag ?_ ?_<;>intro h2 q2
 refine ac ?_
 refine wk [26,3,2] rfl ?_
 refine a2 ?_
 · exact E2
 refine ac ?_
 refine wk [26,3,2] rfl ?_
 refine Tr.cn rfl ?_ ?_<;>intro h3 q3
 refine a2 ?_
 · exact E2
 have Td:a.chain.length=b.chain.length:=by simp_all;omega
 refine a2 ?_
 refine Tr.block (Tr.BE _ (kk [29,3,2] rfl) (fun k:Nat=>[(30,int ((k:Nat):Int))]) (fun k:Nat=>k≤(a.chain).length∧(a.chain.take k=b.chain.take k)) (fun k:Nat=>(a.chain).length-k) 0 (⟨Nat.zero_le _,rfl⟩) kz ?_)
 rintro k ⟨BV,AZ⟩
 refine ac ?_
 refine Tr.seq ?_
 refine Tr.cn rfl ?_ ?_<;>intro h4 q4
 have Ai:k<(a.chain).length:=AH h4
 obtain ⟨x,Ah⟩:=at_ Ai
 obtain ⟨y,hy⟩:=at_ (l:=b.chain) (k:=k) AA
 have hxn:=hs.names x (List.mem_of_getElem? Ah)
 · repeat' first|(refine bool_eq ?_;symm;rw [decide_eq_false_iff_not];rintro rfl;rw [Ah] at hy;cases hy;simp_all)|exact Fin.AP (k+1) ⟨⟨Ai,SM Ah hy AZ CY⟩,by omega⟩ ⟨⟨_,rfl,AG k⟩,kz⟩|refine co rfl (AD rfl underlying82 C3 vq vq AA (AX Ah)) ?_|refine co rfl (AD rfl underlying82 C3 vq vq AA (AX hy)) (co rfl (AL rfl Fv C3 vq rfl rfl) (co rfl (CK (Yc hxn) rfl rfl rfl) ?_))|refine ac ?_|(refine Tr.cn rfl ?_ ?_<;>intro h q)
 have BL:k=(a.chain).length:=by have:=AJ h4;omega
 subst BL
 refine a3 ?_
 · refine bool_eq ?_;have hnn:=gz Td AZ;clear AZ Td hs;cases a;cases b;simp_all
theorem bK {k:Int} (hk:1≤k∧k≤12):k=1∨k=2∨k=3∨k=4∨k=5∨k=6∨k=7∨k=8∨k=9∨k=10∨k=11∨k=12:=by omega
theorem WQ {e:B7} {c:BW} {f:Int} (hc:JD c) (h:B8 e c= .error f):f≠0:=by
 rcases bK hc.1 with hk|hk|hk|hk|hk|hk|hk|hk|hk|hk|hk|hk
 · rw [O3 hk] at h;(repeat' (split at h))<;>first|(injection h with h;omega)|(cases h;done)
 · rw [O4 hk] at h;(repeat' (split at h))<;>first|(injection h with h;omega)|(cases h;done)
 · rw [O5 hk] at h;(repeat' (split at h))<;>first|(injection h with h;omega)|(cases h;done)
 · rw [O6 hk] at h;(repeat' (split at h))<;>first|(injection h with h;omega)|(cases h;done)
 · rw [O7 hk] at h;(repeat' (split at h))<;>first|(injection h with h;omega)|(cases h;done)
 · rw [O8 hk] at h;(repeat' (split at h))<;>first|(injection h with h;omega)|(cases h;done)
 · rw [O9 hk] at h;(repeat' (split at h))<;>first|(injection h with h;omega)|(cases h;done)
 · rw [O_ hk] at h;(repeat' (split at h))<;>first|(injection h with h;omega)|(cases h;done)
 · rw [PB hk] at h;(repeat' (split at h))<;>first|(injection h with h;omega)|(cases h;done)
 · rw [MU hk] at h;(repeat' (split at h))<;>first|(injection h with h;omega)|(cases h;done)
 · rw [MV hk] at h;(repeat' (split at h))<;>first|(injection h with h;omega)|(cases h;done)
 · rw [MW hk] at h;(repeat' (split at h))<;>first|(injection h with h;omega)|(cases h;done)
theorem eK {e:B7} {c:BW} {x:B7} {b:BW} (h:D8 e c=(x,b,0)):bB e∧JD c∧B8 e c= .ok (x,b)∧bB x:=by
 unfold D8 at h
 split at h
 · cases h
 next h1=>
 split at h
 · cases h
 next h2=>
 have h1 : GI e = true := by cases hh : GI e with
  |true=>rfl
  |false=>exact absurd hh h1
 have h2:JD c:=Classical.not_not.1 h2
 cases hs:B8 e c with
 |error f=>
  rw [hs] at h
  simp only [Prod.mk.injEq] at h
  exact absurd h.2.2 (WQ h2 hs)
 |ok r=>
  obtain ⟨x',b'⟩:=r
  rw [hs] at h
  simp only at h
  split at h
  next h3=>simp only [Prod.mk.injEq,and_true] at h;obtain ⟨rfl,rfl⟩:=h;exact ⟨DA.1 h1,h2,rfl,DA.1 h3⟩
  · cases h
section
variable {α:Type} {p:α→Bool} {l:List α} {a:α} {i:Nat}
end
theorem Ye {l:List Int} (h:KM l=true) {i j:Nat} {n:Int} (hi:l[i]? =some n) (hj:l[j]? =some n):i=j:=by
 unfold KM at h;rw [B6] at h
 have key:∀{a b:Nat},a<b→l[a]? =some n→l[b]? =some n→False:=by
  intro a b hab ha hb
  have:=h b (BN hb)
  unfold F9 at this
  rw [getD_at hb] at this
  simp only [Bool.and_eq_true,Bool.not_eq_true',List.any_eq_false] at this
  have:=this.2 n (List.mem_of_getElem? (show (l.take b)[a]? =some n by rw [List.getElem?_take,if_pos hab];exact ha))
  simp at this
 rcases Nat.lt_trichotomy i j with h1|h1|h1
 · exact (key h1 hi hj).elim
 · exact h1
 · exact (key h1 hj hi).elim
def qn (n:Nat):Bool:=decide ((97≤n∧n≤122)∨(65≤n∧n≤90)∨(48≤n∧n≤57)∨n=45∨n=95∨n=46)
theorem Yf:∀n∈List.range 256,KL [45,95,46] (UInt8.ofNat n)=qn n:=by decide+kernel
theorem Sr (c:UInt8):KL [45,95,46] c=qn c.toNat:=by
 have h:=Yf c.toNat (List.mem_range.2 c.toNat_lt)
 rw [UInt8.ofNat_toNat] at h;exact h
theorem kH {s:List UInt8}  :BC prog 191 [str s] (bool (P3 s)):=by
 refine fo func191 rfl ⟨rfl,rfl⟩ fun M0 w0=> ?_
 refine ac ?_
 refine ag ?_ ?_<;>intro h1 q1
 refine a3 ?_
 · exact Zz
 refine an ?_ ?_<;>intro h2 q2
 refine a2 ?_
 · exact Zz
 refine a2 ?_
 refine Tr.block (Tr.BE _ (kk [0] rfl) (fun k:Nat=>[(3,int ((k:Nat):Int))]) (fun k:Nat=>k≤(s).length∧(∀j y,j<k→s[j]? =some y→(!KL [45,95,46] y)=false)) (fun k:Nat=>(s).length-k) 0 (⟨Nat.zero_le _,fun j y hj=>absurd hj AA⟩) kz ?_)
 rintro k ⟨BV,AZ⟩
 refine an ?_ ?_<;>intro h3 q3
 have Ai:k<(s).length:=AH h3
 obtain ⟨c,Ah⟩:=at_ Ai
 · repeat' first|(refine bool_eq ?_;unfold P3;rw [UZ (p:=KL [45,95,46]) Ah (by rw [Sr];unfold qn;simp;omega)];rfl)|(exact Fin.AP (k+1) ⟨⟨Ai,ED (p:=fun c=> !KL [45,95,46] c) Ah (by rw [Sr];unfold qn;simp;omega) AZ⟩,by omega⟩ ⟨⟨_,rfl,AG k⟩,kz⟩)|refine co rfl (UM rfl underlying9 vq vq AA (UN Bt)) ?_|refine ac ?_|(refine Tr.cn rfl ?_ ?_<;>intro h q)|(refine Ch.cg rfl rfl rfl ?_ ?_<;>intro h q)
 have BL:k=(s).length:=by have:=AJ h3;omega
 subst BL
 refine a3 ?_
 · refine bool_eq ?_;unfold P3;rw [MP AZ,Bool.true_and];symm;rw [decide_eq_true_eq];omega
theorem Bh {a b:Int}  :BC prog 266 [int a,int b] (agg [int a,int b]):=by
 refine fo func266 rfl ⟨rfl,rfl⟩ fun M0 w0=>(Tr.seq (Tr.An ?_))
 refine Tl rfl rfl rfl rfl KI EP (fun b1=> ?_)
 refine ap ?_
 refine ap ?_
 refine Tr.ret (Fin.CR rfl (AO.cell 0 rfl rfl I5 Kj rfl Lr) ?_)
 · exact Lr
theorem Ce {a l m x1 y1 x2 y2 x3 y3 x4 y4:Int} {s:List UInt8}  :BC prog 267 [int a,str s,agg [int x1,int y1],agg [int x2,int y2],agg [int x3,int y3],agg [int x4,int y4],int l,int m] (agg DI):=by
 refine BC.of func267 rfl rfl Ao fun M0 w0=> ?_
 refine Tr.seq (Tr.An ?_)
 iterate 4 refine tp rfl (BZ rfl (Va rfl)) ?_
 refine Tl rfl rfl rfl rfl R5 Hv (fun b1=> ?_)
 refine TO.nil (Fin.go (Tr.seq (Tr.An (tm rfl (tm rfl ?_)))))
 iterate 4 refine tp rfl (AL rfl I5 Kj (vl rfl) rfl rfl) ?_
 refine tm rfl (tm rfl (tp rfl (Al (rows:=[(0,[_]),(1,[_]),(2,_),(3,_),(4,_),(5,_),(6,[_]),(7,[_])]) rfl V1 Hv ⟨⟨rfl,(Vo rfl)⟩,⟨⟨rfl,(Vo rfl)⟩,⟨⟨rfl,(Va rfl)⟩,⟨⟨rfl,(Va rfl)⟩,⟨⟨rfl,(Va rfl)⟩,⟨⟨rfl,(Va rfl)⟩,⟨⟨rfl,(Vo rfl)⟩,⟨⟨rfl,(Vo rfl)⟩,trivial⟩⟩⟩⟩⟩⟩⟩⟩ rfl) (TO.re 25 (agg DI) rfl (Ub rfl) (TO.AK 0 rfl rfl rfl (vl rfl) (Va rfl) rfl Ff rfl rfl (TO.nil (Fin.go (NC 16 rfl (Tr.ret (Fin.CR rfl (AO.cell 0 rfl rfl IY Ff rfl (Lr)) ?_)))))))))
 · exact Lr
theorem Yg   :BC prog 227 [] (slice 12 MR):=by
 refine fo func227 rfl ⟨rfl,rfl⟩ fun M0 w0=> ?_
 refine ac ?_
 refine Tr.seq (Tr.An (tp rfl (CK (Bh) rfl rfl rfl) (tp rfl (CK (Bh) rfl rfl rfl) (tp rfl (Al (rows:=[]) rfl uj EP trivial rfl) ?_))))
 refine Tl rfl rfl rfl rfl KI EP (fun b1=> ?_)
 refine Tl rfl rfl rfl rfl KI EP (fun b2=> ?_)
 refine Tl rfl rfl rfl rfl KI EP (fun b3=> ?_)
 refine sf 2 1 ⟨rfl,rfl,rfl⟩ rfl rfl rfl rfl ?_
 refine sf 1 2 ⟨rfl,rfl,rfl⟩ rfl rfl rfl rfl ?_
 refine sf 0 3 ⟨rfl,rfl,rfl⟩ rfl rfl rfl rfl ?_
 refine ao ?_
 refine Tr.seq (Tr.An (tp rfl (CK (Bh) rfl rfl rfl) (tp rfl (CK (Bh) rfl rfl rfl) ?_)))
 refine Tl rfl rfl rfl rfl KI EP (fun b4=> ?_)
 refine Tl rfl rfl rfl rfl KI EP (fun b5=> ?_)
 refine sf 1 4 ⟨rfl,rfl,rfl⟩ rfl rfl rfl rfl ?_
 refine sf 0 5 ⟨rfl,rfl,rfl⟩ rfl rfl rfl rfl ?_
 refine ao ?_
 refine wk [5,4,3,2,1] rfl (Tr.seq (Tr.An (tp rfl (CK (Bh) rfl rfl rfl) (tp rfl (CK (Bh) rfl rfl rfl) (tp rfl (CK (Bh) rfl rfl rfl) ?_)))))
 refine Tl rfl rfl rfl rfl KI EP (fun b6=> ?_)
 refine Tl rfl rfl rfl rfl KI EP (fun b7=> ?_)
 refine Tl rfl rfl rfl rfl KI EP (fun b8=> ?_)
 refine sf 2 6 ⟨rfl,rfl,rfl⟩ rfl rfl rfl rfl ?_
 refine sf 1 7 ⟨rfl,rfl,rfl⟩ rfl rfl rfl rfl ?_
 refine sf 0 8 ⟨rfl,rfl,rfl⟩ rfl rfl rfl rfl ?_
 refine ao ?_
 refine wk [8,7,6,5,4,3,2,1] rfl (Tr.seq (Tr.An ?_))
 iterate 4 refine tp rfl (CK (Bh) rfl rfl rfl) ?_
 refine Tl rfl rfl rfl rfl KI EP (fun b9=> ?_)
 refine Tl rfl rfl rfl rfl KI EP (fun b10=> ?_)
 refine Tl rfl rfl rfl rfl KI EP (fun b11=> ?_)
 refine Tl rfl rfl rfl rfl KI EP (fun b12=> ?_)
 refine sf 3 9 ⟨rfl,rfl,rfl⟩ rfl rfl rfl rfl ?_
 refine sf 2 10 ⟨rfl,rfl,rfl⟩ rfl rfl rfl rfl ?_
 refine sf 1 11 ⟨rfl,rfl,rfl⟩ rfl rfl rfl rfl ?_
 refine sf 0 12 ⟨rfl,rfl,rfl⟩ rfl rfl rfl rfl ?_
 refine ao ?_
 refine wk [12,11,10,9,8,7,6,5,4,3,2,1] rfl (Tr.seq (Tr.An (tp rfl (CK (Bh) rfl rfl rfl) (tp rfl (CK (Bh) rfl rfl rfl) ?_))))
 refine Tl rfl rfl rfl rfl KI EP (fun b13=> ?_)
 refine Tl rfl rfl rfl rfl KI EP (fun b14=> ?_)
 refine sf 1 13 ⟨rfl,rfl,rfl⟩ rfl rfl rfl rfl ?_
 refine sf 0 14 ⟨rfl,rfl,rfl⟩ rfl rfl rfl rfl ?_
 refine ao ?_
 refine wk [14,13,12,11,10,9,8,7,6,5,4,3,2,1] rfl ?_
 refine ac ?_
 refine co rfl (AR rfl (Ce) ⟨kq,kz⟩) ?_
 refine ac ?_
 refine co rfl (AR rfl (Ce) ⟨kq,kz⟩) ?_
 refine ac ?_
 refine co rfl (AR rfl (Ce) ⟨kq,kz⟩) (co rfl (CK (Bh) rfl rfl rfl) (co rfl (CK (Bh) rfl rfl rfl) ?_))
 refine ac ?_
 refine co rfl (AR rfl (Ce) ⟨kq,kz⟩) (co rfl (CK (Bh) rfl rfl rfl) ?_)
 refine ac ?_
 refine co rfl (AR rfl (Ce) ⟨kq,kz⟩) ?_
 refine ac ?_
 refine co rfl (AR rfl (Ce) ⟨kq,kz⟩) (co rfl (CK (Bh) rfl rfl rfl) ?_)
 refine ac ?_
 refine co rfl (AR rfl (Ce) ⟨kq,kz⟩) ?_
 refine ac ?_
 refine co rfl (AR rfl (Ce) ⟨kq,kz⟩) (co rfl (AL rfl I5 Kj vq rfl rfl) (co rfl (CK (Bh) rfl rfl rfl) (co rfl (CK (Bh) rfl rfl rfl) (co rfl (AL rfl I5 Kj vq rfl rfl) (co rfl (AR rfl (Ce) ⟨kq,kz⟩) ?_)))))
 refine ac ?_
 refine co rfl (AR rfl (Ce) ⟨kq,kz⟩) (co rfl (CK (Bh) rfl rfl rfl) (co rfl (CK (Bh) rfl rfl rfl) ?_))
 refine ac ?_
 refine co rfl (AR rfl (Ce) ⟨kq,kz⟩) ?_
 refine ac ?_
 refine co rfl (AR rfl (Ce) ⟨kq,kz⟩) ?_
 refine ac ?_
 refine co rfl (AR rfl (Ce) ⟨kq,kz⟩) ?_
 refine ac ?_
 refine co rfl (AR rfl (Ce) ⟨kq,kz⟩) ?_
 refine ac ?_
 refine co rfl (AR rfl (Ce) ⟨kq,kz⟩) (co rfl (CK (Bh) rfl rfl rfl) ?_)
 refine ac ?_
 refine co rfl (AR rfl (Ce) ⟨kq,kz⟩) (co rfl (AM (xs:=[.tmp 33,.tmp 38,.tmp 43,.tmp 48,.tmp 53,.tmp 58,.tmp 63,.tmp 68,.tmp 73,.tmp 78,.tmp 83,.tmp 88,.tmp 93,.tmp 98,.tmp 103,.tmp 108]) (rows:=MR) rfl rfl underlying287 Ff R5 rfl AB ⟨⟨Am,VL.le vq (Ac _)⟩,⟨⟨Am,VL.le vq (Ac _)⟩,⟨⟨Am,VL.le vq (Ac _)⟩,⟨⟨Am,VL.le vq (Ac _)⟩,⟨⟨Am,VL.le vq (Ac _)⟩,⟨⟨Am,VL.le vq (Ac _)⟩,⟨⟨Am,VL.le vq (Ac _)⟩,⟨⟨Am,VL.le vq (Ac _)⟩,⟨⟨Am,VL.le vq (Ac _)⟩,⟨⟨Am,VL.le vq (Ac _)⟩,⟨⟨Am,VL.le vq (Ac _)⟩,⟨⟨Am,VL.le vq (Ac _)⟩,⟨⟨Am,VL.le vq (Ac _)⟩,⟨⟨Am,VL.le vq (Ac _)⟩,⟨⟨Am,VL.le vq (Ac _)⟩,⟨⟨Am,VL.le vq (Ac _)⟩,trivial⟩⟩⟩⟩⟩⟩⟩⟩⟩⟩⟩⟩⟩⟩⟩⟩ AB) ?_)
 refine ac ?_
 refine wk [0] rfl ?_
 refine ac ?_
 · exact B0 _ _
theorem eL {code:Int}  :BC prog 192 [int code] (D7 [agg DI,int (if 1≤code∧code≤16 then 0 else 8)]):=by
 refine fo func192 rfl ⟨rfl,rfl⟩ fun M0 w0=>(Tr.seq (Tr.An ?_))
 refine Tl rfl rfl rfl rfl R5 Hv (fun b1=> ?_)
 refine ap ?_
 refine ag ?_ ?_<;>intro h1 q1
 refine ac ?_
 refine Tr.cond rfl (fun _=> ?_) (fun h=>nomatch h)
 refine Tr.seq (Tr.An (tp rfl (Al (rows:=[]) rfl V1 Hv trivial rfl) (TO.AK 0 rfl rfl rfl vq Cm rfl Ff rfl rfl (tm rfl (TO.nil (Fin.go (Tr.ret (Fin.AE (Fin.BU rfl (AO.cell 0 rfl rfl IY Ff rfl Lr) (AO.tmp rfl Lr) ?_)))))))))
 · exact A0 ⟨Ub rfl,int_eq (by rw [if_neg];simp_all;omega),trivial⟩
 refine an ?_ ?_<;>intro h2 q2
 refine ap ?_
 refine Tr.ret (Fin.AE (Fin.BU rfl (AO.cell 0 rfl rfl IY Ff rfl Lr) (AO.tmp rfl Lr) ?_))
 · exact A0 ⟨Ub rfl,int_eq (by rw [if_neg];simp_all),trivial⟩
 have hin:1≤code∧code≤16:=by omega
 refine ac ?_
 refine Tr.seq (Tr.An (tp rfl (kc0 (Yg) rfl) ?_))
 refine ap ?_
 refine tp rfl (AD rfl underlying287 Ff vq vq AA (ju AA)) ?_
 refine ap ?_
 refine wk [3,2] rfl (Tr.ret (Fin.BU rfl (AO.cell 0 rfl rfl IY Ff rfl Lr) (AO.tmp rfl Lr) ?_))
 · exact A0 ⟨Lr,int_eq (by rw [if_pos hin]),trivial⟩
theorem Jl {l:List Int} {v:Int}  :BC prog 193 [ints l,int v] (bool (l.any fun x=>v==x)):=by
 refine fo func193 rfl ⟨rfl,rfl⟩ fun M0 w0=>(Tr.Cf 0 rfl fun EH=> ?_)
 refine a2 ?_
 refine Tr.block (Tr.BE _ (kk [1,0] rfl) (fun k:Nat=>[(5,int ((k:Nat):Int))]) (fun k:Nat=>k≤(l).length∧((l.take k).any (fun x=>v==x)=false)) (fun k:Nat=>(l).length-k) 0 (⟨Nat.zero_le _,rfl⟩) kz ?_)
 rintro k ⟨BV,AZ⟩
 refine an ?_ ?_<;>intro h1 q1
 have Ai:k<(l).length:=AH h1
 obtain ⟨x,Ah⟩:=at_ Ai
 · repeat' first|(refine bool_eq ?_;symm;rw [List.any_eq_true];exact ⟨_,List.mem_of_getElem? Ah,by simp_all⟩)|(exact Fin.AP (k+1) ⟨⟨Ai,Z7⟩,by omega⟩ ⟨⟨_,rfl,AG k⟩,kz⟩)|refine co rfl (AD rfl underlying22 CH vq vq AA CL) ?_|refine ac ?_|(refine Tr.cn rfl ?_ ?_<;>intro h q)
 have BL:k=(l).length:=by have:=AJ h1;omega
 subst BL
 refine a3 ?_
 · exact Te
theorem C8 {l:List (List UInt8)}:G0 l=true↔(∀j,j<l.length→nameAt l j=true)∧l.length≤8:=by unfold G0;rw [Bool.and_eq_true,B6,decide_eq_true_eq]
theorem KP {l:List (List UInt8)} {k:Nat} {s:List UInt8} (hs:l[k]? =some s) (h1:named s=true) (h2:0<k→∃y,l[k-1]? =some y∧Lib.compareBytes y s= -1):nameAt l k=true:=by
 unfold nameAt;rw [hs];simp only [Option.getD_some,h1,Bool.true_and,Bool.or_eq_true,decide_eq_true_eq]
 rcases Nat.eq_zero_or_pos k with h0|h0
 · exact .inl h0
 · obtain ⟨y,hy,hc⟩:=h2 h0;rw [hy];exact .inr hc
theorem LW {c:HB}  :BC prog 188 [agg (DH c)] (int (if D3 c then 0 else 9)):=by
 refine fo func188 rfl ⟨rfl,rfl⟩ fun M0 w0=> ?_
 refine ac ?_
 refine ag ?_ ?_<;>intro h1 q1
 refine ac ?_
 refine wk [39,1] rfl ?_
 refine a2 ?_
 · exact JQ
 refine ag ?_ ?_<;>intro h2 q2
 refine ac ?_
 refine wk [39,1] rfl ?_
 refine a2 ?_
 · exact JQ
 refine ac ?_
 refine cy h2 rfl (Ck (Gf) rfl rfl) ?_
 refine ag ?_ ?_<;>intro h3 q3
 refine ac ?_
 refine wk [39,1] rfl ?_
 refine a2 ?_
 · exact Pg
 refine ac ?_
 refine cy h3 rfl (Ck (Gf) rfl rfl) ?_
 refine ag ?_ ?_<;>intro h4 q4
 refine ac ?_
 refine wk [39,1] rfl ?_
 refine a2 ?_
 · exact Pg
 refine ac ?_
 refine cy h4 rfl (Ck (Jf) rfl rfl) ?_
 refine ag ?_ ?_<;>intro h5 q5
 refine ac ?_
 refine wk [39,1] rfl ?_
 refine a2 ?_
 · exact Pg
 refine ag ?_ ?_<;>intro h6 q6
 refine ac ?_
 refine wk [39,1] rfl ?_
 refine a2 ?_
 · exact JQ
 refine ac ?_
 refine wk [39,1] rfl ?_
 refine Tr.cn rfl ?_ ?_<;>intro h7 q7
 refine a2 ?_
 · exact JQ
 refine a2 ?_
 refine co rfl (Ck (Je) rfl rfl) ?_
 refine ag ?_ ?_<;>intro h8 q8
 refine ac ?_
 refine wk [67,1] rfl ?_
 refine a2 ?_
 · refine int_eq (if_neg (fun hv=> ?_)).symm;have vf:=I4 hv;obtain ⟨XX,XY,PX,PY,JC,Gk,XZ,Xa,E0,PZ,Pa,Pb,Pc,Xb,Xc,Xd,Xe,Xf,Xg⟩:=vf;have Xh:=(C8.1 JC).2;unfold Kq at Gk E0;simp_all;omega
 refine ac ?_
 refine cy h8 rfl (Ck (O1) rfl rfl) ?_
 refine ag ?_ ?_<;>intro h9 q9
 refine ac ?_
 refine wk [67,1] rfl ?_
 refine a2 ?_
 · exact Pg
 refine ag ?_ ?_<;>intro h10 PC
 refine ac ?_
 refine wk [67,1] rfl ?_
 refine a2 ?_
 · exact JQ
 refine ag ?_ ?_<;>intro h11 Rt
 refine ac ?_
 refine wk [67,1] rfl ?_
 refine a2 ?_
 · exact JQ
 refine ac ?_
 refine wk [67,1] rfl ?_
 refine Tr.cn rfl ?_ ?_<;>intro h12 VQ
 refine a2 ?_
 · exact JQ
 refine ac ?_
 refine ag ?_ ?_<;>intro Nv eE
 refine ac ?_
 refine wk [91,1] rfl ?_
 refine a2 ?_
 · exact JQ
 refine ag ?_ ?_<;>intro Mo q14
 refine ac ?_
 refine wk [91,1] rfl ?_
 refine a2 ?_
 · exact JQ
 refine ag ?_ ?_<;>intro Vs q15
 refine ag ?_ ?_<;>intro h16 q16
 refine ac ?_
 refine wk [91,1] rfl ?_
 refine a2 ?_
 · exact Pg
 refine ac ?_
 refine wk [91,1] rfl ?_
 refine Tr.cn rfl ?_ ?_<;>intro OL q17
 refine a2 ?_
 · exact JQ
 refine a2 ?_
 refine Tr.block (Tr.BE _ (kk [1] rfl) (fun k:Nat=>[(3,int ((k:Nat):Int))]) (fun k:Nat=>k≤(c.names).length∧(∀j,j<k→nameAt c.names j=true)) (fun k:Nat=>(c.names).length-k) 0 (⟨Nat.zero_le _,fun j hj=>absurd hj AA⟩) kz ?_)
 rintro k ⟨BV,AZ⟩
 refine an ?_ ?_<;>intro Rr q18
 have Ai:k<(c.names).length:=AH Rr
 obtain ⟨s,Ah⟩:=at_ Ai
 refine a2 ?_
 refine co rfl (AD rfl underlying127 MF vq vq AA (AX Ah)) (co rfl (GX rfl OM rfl) (co rfl (Ck (Gf) rfl rfl) ?_))
 refine ag ?_ ?_<;>intro nZ q19
 refine ac ?_
 refine wk [123,3,1] rfl ?_
 refine a2 ?_
 · exact gh
 refine ag ?_ ?_<;>intro Ru q20
 have LS:0<k:=by simpa using Ru
 obtain ⟨y,hy⟩:=at_ (l:=c.names) (k:=k-1) AA
 · repeat' first|(refine int_eq (if_neg (fun hv=> ?_)).symm;have vf:=I4 hv;obtain ⟨XX,XY,PX,PY,JC,Gk,XZ,Xa,E0,PZ,Pa,Pb,Pc,Xb,Xc,Xd,Xe,Xf,Xg⟩:=vf;have Xh:=(C8.1 JC).2;unfold Kq at Gk E0;have gj:=(C8.1 JC).1 k AA;unfold nameAt at gj;simp_all)|(exact Fin.AP (k+1) ⟨⟨Ai,(fun j hj=>by rcases Nat.lt_or_eq_of_le (Nat.le_of_lt_succ hj) with h_|h_;exact AZ j h_;(subst h_;refine KP Ah CY (fun h0=> ?_);exact ⟨y,hy,by simp_all⟩))⟩,by omega⟩ ⟨⟨_,rfl,AG k⟩,kz⟩)|(refine cy Ru rfl (AD rfl underlying127 MF vq vq AA K_) ?_)|refine cy Ru rfl (AD rfl underlying127 MF vq vq AA (AX Ah)) (cy Ru rfl (GX rfl OM rfl) (cy Ru rfl (QZ rfl vq vq) ?_))|refine ac ?_|(refine Tr.cn rfl ?_ ?_<;>intro h q)
 have LS:¬0<k:=by simpa using Ru
 refine ac ?_
 refine wk [123,3,1] rfl ?_
 refine a2 ?_
 exact Fin.AP (k+1) ⟨⟨Ai,(fun j hj=>by rcases Nat.lt_or_eq_of_le (Nat.le_of_lt_succ hj) with h_|h_;exact AZ j h_;(subst h_;refine KP Ah CY (fun h0=> ?_);exact absurd h0 LS))⟩,by omega⟩ ⟨⟨_,rfl,AG k⟩,kz⟩
 have BL:k=(c.names).length:=by have:=AJ Rr;omega
 subst BL
 · repeat' first|(refine int_eq (if_neg (fun hv=> ?_)).symm;have vf:=I4 hv;obtain ⟨XX,XY,PX,PY,JC,Gk,XZ,Xa,E0,PZ,Pa,Pb,Pc,Xb,Xc,Xd,Xe,Xf,Xg⟩:=vf;have Xh:=(C8.1 JC).2;unfold Kq at Gk E0;omega)|(refine int_eq (if_pos (bF ⟨by omega,by omega,by simp_all,by simp_all,C8.2 ⟨AZ,by omega⟩,by unfold Kq;simp_all,by omega,by omega,by unfold Kq;simp_all,by omega,by omega,by omega,by omega,by omega,by omega,by omega,by omega,by omega,by right;omega⟩)).symm)|refine ac ?_|(refine Tr.cn rfl ?_ ?_<;>intro h q)|(refine Ch.cg rfl rfl rfl ?_ ?_<;>intro h q)
 refine ac ?_
 refine wk [91,1] rfl ?_
 refine Tr.cn rfl ?_ ?_<;>intro h26 q26
 refine a2 ?_
 · exact JQ
 refine a2 ?_
 refine Tr.block (Tr.BE _ (kk [1] rfl) (fun k:Nat=>[(3,int ((k:Nat):Int))]) (fun k:Nat=>k≤(c.names).length∧(∀j,j<k→nameAt c.names j=true)) (fun k:Nat=>(c.names).length-k) 0 (⟨Nat.zero_le _,fun j hj=>absurd hj AA⟩) kz ?_)
 rintro k ⟨BV,AZ⟩
 refine an ?_ ?_<;>intro h27 q27
 have Ai:k<(c.names).length:=AH h27
 obtain ⟨s,Ah⟩:=at_ Ai
 refine a2 ?_
 refine co rfl (AD rfl underlying127 MF vq vq AA (AX Ah)) (co rfl (GX rfl OM rfl) (co rfl (Ck (Gf) rfl rfl) ?_))
 refine ag ?_ ?_<;>intro h28 q28
 refine ac ?_
 refine wk [123,3,1] rfl ?_
 refine a2 ?_
 · exact gh
 refine ag ?_ ?_<;>intro gY q29
 have LS:0<k:=by simpa using gY
 obtain ⟨y,hy⟩:=at_ (l:=c.names) (k:=k-1) AA
 · repeat' first|(refine int_eq (if_neg (fun hv=> ?_)).symm;have vf:=I4 hv;obtain ⟨XX,XY,PX,PY,JC,Gk,XZ,Xa,E0,PZ,Pa,Pb,Pc,Xb,Xc,Xd,Xe,Xf,Xg⟩:=vf;have Xh:=(C8.1 JC).2;unfold Kq at Gk E0;have gj:=(C8.1 JC).1 k AA;unfold nameAt at gj;simp_all)|(exact Fin.AP (k+1) ⟨⟨Ai,(fun j hj=>by rcases Nat.lt_or_eq_of_le (Nat.le_of_lt_succ hj) with h_|h_;exact AZ j h_;(subst h_;refine KP Ah CY (fun h0=> ?_);exact ⟨y,hy,by simp_all⟩))⟩,by omega⟩ ⟨⟨_,rfl,AG k⟩,kz⟩)|(refine cy gY rfl (AD rfl underlying127 MF vq vq AA K_) ?_)|refine cy gY rfl (AD rfl underlying127 MF vq vq AA (AX Ah)) (cy gY rfl (GX rfl OM rfl) (cy gY rfl (QZ rfl vq vq) ?_))|refine ac ?_|(refine Tr.cn rfl ?_ ?_<;>intro h q)
 have LS:¬0<k:=by simpa using gY
 refine ac ?_
 refine wk [123,3,1] rfl ?_
 refine a2 ?_
 exact Fin.AP (k+1) ⟨⟨Ai,(fun j hj=>by rcases Nat.lt_or_eq_of_le (Nat.le_of_lt_succ hj) with h_|h_;exact AZ j h_;(subst h_;refine KP Ah CY (fun h0=> ?_);exact absurd h0 LS))⟩,by omega⟩ ⟨⟨_,rfl,AG k⟩,kz⟩
 have BL:k=(c.names).length:=by have:=AJ h27;omega
 subst BL
 · repeat' first|(refine int_eq (if_neg (fun hv=> ?_)).symm;have vf:=I4 hv;obtain ⟨XX,XY,PX,PY,JC,Gk,XZ,Xa,E0,PZ,Pa,Pb,Pc,Xb,Xc,Xd,Xe,Xf,Xg⟩:=vf;have Xh:=(C8.1 JC).2;unfold Kq at Gk E0;omega)|(refine int_eq (if_pos (bF ⟨by omega,by omega,by simp_all,by simp_all,C8.2 ⟨AZ,by omega⟩,by unfold Kq;simp_all,by omega,by omega,by unfold Kq;simp_all,by omega,by omega,by omega,by omega,by omega,by omega,by omega,by omega,by omega,by left;simp_all⟩)).symm)|refine ac ?_|(refine Tr.cn rfl ?_ ?_<;>intro h q)|(refine Ch.cg rfl rfl rfl ?_ ?_<;>intro h q)
theorem and1 {a b:Bool} (h:(a&&b)=true):a=true:=by simp at h;exact h.1
theorem vV {a b:Bool} (h:(a&&b)=true):b=true:=by simp at h;exact h.2
theorem kI:∀(n:Nat) (l:List Int),(∀x∈l,1≤x∧x≤(n:Int))→l.Nodup→l.length≤n
 |0,l,h,_=>by
  cases l with
  |nil=>exact Nat.le_refl _
  |cons a l=>have:=h a (List.mem_cons_self ..);omega
 |n+1,l,h,hn=>by
  have ih:=kI n (l.erase ((n:Int)+1)) (fun x hx=>by
   have h1:=h x (List.mem_of_mem_erase hx)
   have h2:=(hn.mem_erase_iff.1 hx).1
   omega) (hn.erase _)
  rw [List.length_erase] at ih
  split at ih<;>omega
theorem SL {l:List Int} (h:KM l=true):l.length≤16:=by
 refine kI 16 l (fun x hx=> ?_) ?_
 ·
  obtain ⟨j,hj⟩:=List.getElem?_of_mem hx
  have h1:=B6.1 (show allI (F9 l) l.length=true from h) j (BN hj)
  unfold F9 at h1;rw [getD_at hj] at h1
  have:=and1 h1
  simpa using this
 ·
  refine List.pairwise_iff_getElem.2 fun i j hi hj hij he=> ?_
  have:=Ye h (List.getElem?_eq_getElem hi) (by rw [he];exact List.getElem?_eq_getElem hj)
  omega
theorem kJ {p:Int→Bool} {l:List Int} (h:∀j,j<l.length→p (l[j]?.getD 0)=true):l.all p=true:=List.all_eq_true.2 fun x hx=>by
 obtain ⟨j,hj⟩:=List.getElem?_of_mem hx
 have:=h j (BN hj)
 rw [getD_at hj] at this;exact this
theorem eM {CC bits id:Int} {l:List HB}  :BC prog 194 [agg [int CC,int bits],int id,Kz l] (bool (Ua CC bits id l)):=by
 refine fo func194 rfl ⟨rfl,rfl⟩ fun M0 w0=>(Tr.Cf 2 rfl fun kK=> ?_)
 refine a2 ?_
 refine co rfl (Ck (Jf) rfl rfl) ?_
 refine ag ?_ ?_<;>intro h1 q1
 refine ac ?_
 refine wk [23,3,2,1] rfl ?_
 refine a2 ?_
 · refine bool_eq ?_;rw [Gh];unfold Kq Hg;simp_all
 refine ag ?_ ?_<;>intro h2 q2
 refine ac ?_
 refine wk [23,3,2,1] rfl ?_
 refine a2 ?_
 · exact Tk
 refine ag ?_ ?_<;>intro h3 q3
 refine ac ?_
 refine wk [23,3,2,1] rfl ?_
 refine a2 ?_
 · exact Tk
 refine ac ?_
 refine wk [23,3,2,1] rfl ?_
 refine Tr.cn rfl ?_ ?_<;>intro h4 q4
 refine a2 ?_
 · exact Tk
 refine a2 ?_
 refine Tr.block (Tr.BE _ (kk [3,2,1] rfl) (fun k:Nat=>[(7,int ((k:Nat):Int))]) (fun k:Nat=>k≤(l).length∧(∀j y,j<k→l[j]? =some y→(!D3 y)=false)) (fun k:Nat=>(l).length-k) 0 (⟨Nat.zero_le _,fun j y hj=>absurd hj AA⟩) kz ?_)
 rintro k ⟨BV,AZ⟩
 refine an ?_ ?_<;>intro h5 q5
 have Ai:k<(l).length:=AH h5
 obtain ⟨c,Ah⟩:=at_ Ai
 · repeat' first|(refine bool_eq ?_;rw [Gh];unfold Kq Hg;rw [UZ (p:=D3) Ah CY];simp)|exact Fin.AP (k+1) ⟨⟨Ai,ED (p:=fun c=> !D3 c) Ah CY AZ⟩,by omega⟩ ⟨⟨_,rfl,AG k⟩,kz⟩|refine co rfl (AD rfl underlying82 C3 vq vq AA (AX Ah)) (co rfl (AL rfl Fv C3 vq rfl rfl) (co rfl (Ck (LW) rfl rfl) ?_))|refine ac ?_|(refine Tr.cn rfl ?_ ?_<;>intro h q)
 have BL:k=(l).length:=by have:=AJ h5;omega
 subst BL
 have hall:=MP AZ
 refine ac ?_
 refine ag ?_ ?_<;>intro h7 q7
 refine ac ?_
 refine wk [6] rfl ?_
 refine ac ?_
 · refine bool_eq ?_;rw [Gh];unfold Kq Hg;rw [hall,dZ CY];simp_all
 obtain ⟨c0,hc0⟩:=at_ (l:=l) (k:=0) (by have:=h7;simp at this;exact List.length_pos_iff.2 this)
 refine NB h7 rfl ?_
 refine cy h7 rfl (AD rfl underlying82 C3 vq vq AA (AX (k:=0) hc0)) ?_
 refine ac ?_
 refine cy h7 rfl (Oy rfl vq vq) (NB h7 rfl ?_)
 refine Ch.cs 46 rfl ?_ ?_<;>intro h8 q8
 refine NB h8 rfl ?_
 refine cy h8 rfl (AD rfl underlying82 C3 vq vq AA (AX (k:=0) hc0)) ?_
 refine ac ?_
 refine wk [6] rfl ?_
 refine ac ?_
 · refine bool_eq ?_;rw [Gh];unfold Kq Hg;rw [hall,WG hc0];clear hall AZ hc0;simp_all;omega
 refine ac ?_
 refine wk [6] rfl ?_
 refine ac ?_
 · refine bool_eq ?_;rw [Gh];unfold Kq Hg;rw [hall,WG hc0];clear hall AZ hc0;simp_all
theorem Yh {e:B7} (hs3:e.hashes.length≤17592186044416):BC prog 148 [agg (Bc e)] (int (if GI e then 0 else 19)):=by
 refine fo func148 rfl ⟨rfl,rfl⟩ fun M0 w0=> ?_
 refine ac ?_
 refine ac ?_
 refine co rfl (Ck (kH) rfl rfl) ?_
 refine ac ?_
 refine Ch.cs 13 rfl ?_ ?_<;>intro h1 q1
 refine ac ?_
 refine T_ 1 47 rfl ?_
 refine ac ?_
 refine ac ?_
 · refine int_eq (if_neg (fun hv=> ?_)).symm;have ok:=DA.1 hv;have v1:=ok.name;have v2:=ok.least;have v3:=ok.lm;have v4:=ok.most;have v5:=SL ok.Ay;have v6:=ok.Xi;have v7:=ok.yL;simp_all
 refine ac ?_
 refine Ch.cs 18 rfl ?_ ?_<;>intro h2 q2
 refine ac ?_
 refine T_ 1 47 rfl ?_
 refine ac ?_
 refine ac ?_
 · exact Ms
 refine ac ?_
 refine Ch.cs 25 rfl ?_ ?_<;>intro h3 q3
 refine ac ?_
 refine T_ 1 47 rfl ?_
 refine ac ?_
 refine ac ?_
 · exact Ms
 refine ac ?_
 refine Ch.cs 30 rfl ?_ ?_<;>intro h4 q4
 refine ac ?_
 refine T_ 1 47 rfl ?_
 refine ac ?_
 refine ac ?_
 · exact Ms
 refine ac ?_
 refine Ch.cs 36 rfl ?_ ?_<;>intro h5 q5
 refine ac ?_
 refine T_ 1 47 rfl ?_
 refine ac ?_
 refine ac ?_
 · exact Ms
 refine ac ?_
 refine Ch.cs 42 rfl ?_ ?_<;>intro h6 q6
 refine ac ?_
 refine T_ 1 47 rfl ?_
 refine ac ?_
 refine ac ?_
 · exact Ms
 refine ac ?_
 refine T_ 1 47 rfl ?_
 refine Tr.cn rfl ?_ ?_<;>intro h7 q7
 refine ac ?_
 refine ac ?_
 · exact Ms
 refine ac ?_
 refine ac ?_
 refine Tr.block (Tr.BE [(1,_)] ⟨ke rfl,trivial⟩ (fun i:Nat=>[(3,int ((i:Nat):Int))]) (fun i:Nat=>i≤(e.Ay).length∧(∀j,j<i→F9 e.Ay j=true)) (fun i:Nat=>(e.Ay).length-i) 0 (⟨Nat.zero_le _,fun j hj=>absurd hj AA⟩) ⟨ke rfl,trivial⟩ ?_)
 rintro i ⟨WR,En⟩
 refine ac ?_
 refine Tr.cn rfl ?_ ?_<;>intro h8 q8
 have JM:i<(e.Ay).length:=AH h8
 obtain ⟨x,Kh⟩:=at_ JM
 have hg:=getD_at (d:=(0:Int)) Kh
 refine ac ?_
 refine ao ?_
 refine tp rfl (AD rfl underlying22 CH (vl rfl) (vl rfl) AA (AX Kh)) (tp rfl (GX rfl DF rfl) (tp rfl (Ck (eL) rfl rfl) ?_))
 refine ao ?_
 refine Tl rfl rfl rfl rfl R5 Hv (fun b1=> ?_)
 refine sf 0 4 ⟨rfl,rfl,rfl⟩ rfl rfl rfl rfl ?_
 refine ao ?_
 refine GF 1 3 5 rfl ?_
 refine ac ?_
 refine Ch.cs 66 rfl ?_ ?_<;>intro h9 q9
 have AEN:¬(1≤x∧x≤16):=by intro hh;rw [if_pos hh] at h9;exact absurd h9 AB
 refine ac ?_
 refine GF 1 3 77 rfl ?_
 refine ac ?_
 refine ac ?_
 · refine int_eq (if_neg (fun hv=> ?_)).symm;have ok:=DA.1 hv;have h_:=B6.1 (show allI (F9 e.Ay) e.Ay.length=true from ok.Ay) i AA;unfold F9 at h_;rw [hg] at h_;exact AEN (by simpa using and1 h_)
 have hin:1≤x∧x≤16:=by refine Decidable.byContradiction fun hh=> ?_;rw [if_neg hh] at h9;exact absurd h9 AB
 refine ac ?_
 refine cy h9 rfl (Dn rfl underlying22 CH (vl rfl) (vl rfl) AA B9) ?_
 refine ac ?_
 refine cy h9 rfl (AD rfl underlying22 CH (vl rfl) (vl rfl) AA (AX Kh)) (cy h9 rfl (GX rfl DF rfl) ?_)
 refine cy h9 rfl (AR rfl (Jl (l:=e.Ay.take i) (v:=x)) ⟨⟨_,rfl,Pr.le_of_eq (by rw [←List.map_take,Int.toNat_natCast])⟩,ke rfl,trivial⟩) ?_
 refine ac ?_
 refine GF 1 3 77 rfl ?_
 refine Tr.cn rfl ?_ ?_<;>intro h10 PC
 refine ac ?_
 refine ac ?_
 · refine int_eq (if_neg (fun hv=> ?_)).symm;have ok:=DA.1 hv;have h_:=B6.1 (show allI (F9 e.Ay) e.Ay.length=true from ok.Ay) i AA;unfold F9 at h_;rw [hg] at h_;exact absurd (by assumption:((e.Ay.take i).any fun y=>x==y)=true) (by have h2:=vV h_;rw [Bool.not_eq_true'] at h2;rw [h2];decide)
 refine ac ?_
 refine ac ?_
 exact Fin.AP (i+1) ⟨⟨JM,Dz En (by unfold F9;rw [hg];rw [decide_eq_true hin];simp_all)⟩,by omega⟩ ⟨⟨_,rfl,AG i⟩,ke rfl,trivial⟩
 have OR:i=(e.Ay).length:=by have:=AJ h8;omega
 subst OR
 refine ac ?_
 refine ac ?_
 refine Tr.block (Tr.BE [(1,_)] ⟨ke rfl,trivial⟩ (fun m:Nat=>[(6,int ((m:Nat):Int))]) (fun m:Nat=>m≤(e.ids).length∧(∀j y,j<m→e.ids[j]? =some y→(!idB y)=false)) (fun m:Nat=>(e.ids).length-m) 0 (⟨Nat.zero_le _,fun j y hj=>absurd hj AA⟩) ⟨ke rfl,trivial⟩ ?_)
 rintro m ⟨MY,HY⟩
 refine ac ?_
 refine Tr.cn rfl ?_ ?_<;>intro h11 Rt
 have ES:m<(e.ids).length:=AH h11
 obtain ⟨x,EX⟩:=at_ ES
 refine ac ?_
 refine ac ?_
 refine co rfl (AD rfl underlying38 E6 (vl rfl) (vl rfl) AA (AX EX)) ?_
 refine ac ?_
 refine co rfl (AD rfl underlying38 E6 (vl rfl) (vl rfl) AA (AX EX)) ?_
 refine ac ?_
 refine co rfl (AD rfl underlying38 E6 (vl rfl) (vl rfl) AA (AX EX)) ?_
 refine ac ?_
 refine co rfl (Kk (eM) rfl rfl rfl rfl) ?_
 refine ac ?_
 refine GF 1 6 104 rfl ?_
 refine Tr.cn rfl ?_ ?_<;>intro h12 VQ
 refine ac ?_
 refine ac ?_
 · refine int_eq (if_neg (fun hv=> ?_)).symm;have ok:=DA.1 hv;have h_:=List.all_eq_true.1 ok.ids x (List.mem_of_getElem? EX);unfold idB at h_;simp_all
 refine ac ?_
 refine ac ?_
 exact Fin.AP (m+1) ⟨⟨ES,ED (p:=fun c=> !idB c) EX (by unfold idB;simp_all) HY⟩,by omega⟩ ⟨⟨_,rfl,AG m⟩,ke rfl,trivial⟩
 have Jm:m=(e.ids).length:=by have:=AJ h11;omega
 subst Jm
 have hall:=MP HY
 refine ac ?_
 refine ac ?_
 refine Tr.block (Tr.BE [(1,_)] ⟨ke rfl,trivial⟩ (fun o:Nat=>[(7,int ((o:Nat):Int))]) (fun o:Nat=>o≤(e.anchors).length∧(∀j,j<o→(Hx e.anchors j&&Hg (e.anchors[j]?.getD 0))=true)) (fun o:Nat=>(e.anchors).length-o) 0 (⟨Nat.zero_le _,fun j hj=>absurd hj AA⟩) ⟨ke rfl,trivial⟩ ?_)
 rintro o ⟨AA0,LX⟩
 refine ac ?_
 refine Tr.cn rfl ?_ ?_<;>intro Nv eE
 have eN:o<(e.anchors).length:=AH Nv
 obtain ⟨a,Tc⟩:=at_ eN
 have hg:=getD_at (d:=(0:Int)) Tc
 refine ac ?_
 refine ac ?_
 refine co rfl (AD rfl underlying22 CH (vl rfl) (vl rfl) AA (AX Tc)) ?_
 refine ac ?_
 refine Ch.cs 118 rfl ?_ ?_<;>intro Mo q14
 refine ac ?_
 refine GF 1 7 143 rfl ?_
 refine ac ?_
 refine ac ?_
 · exact gy
 refine ac ?_
 refine cy Mo rfl (AD rfl underlying22 CH (vl rfl) (vl rfl) AA (AX Tc)) ?_
 refine ac ?_
 refine Ch.cs 126 rfl ?_ ?_<;>intro Vs q15
 refine ac ?_
 refine GF 1 7 143 rfl ?_
 refine ac ?_
 refine ac ?_
 · exact gy
 refine ac ?_
 refine Ch.cs 129 rfl ?_ ?_<;>intro h16 q16
 have hk0:0<o:=by simpa using h16
 obtain ⟨y,hy⟩:=at_ (l:=e.anchors) (k:=o-1) AA
 have VJ:=getD_at (d:=(0:Int)) hy
 refine ac ?_
 refine cy h16 rfl (AD rfl underlying22 CH (vl rfl) (vl rfl) AA (by rw [show ((o:Nat):Int)-1=((o-1:Nat):Int) by omega];exact AX hy)) ?_
 refine ac ?_
 refine cy h16 rfl (AD rfl underlying22 CH (vl rfl) (vl rfl) AA (AX Tc)) ?_
 refine ac ?_
 refine GF 1 7 143 rfl ?_
 refine Tr.cn rfl ?_ ?_<;>intro OL q17
 refine ac ?_
 refine ac ?_
 · refine int_eq (if_neg (fun hv=> ?_)).symm;have ok:=DA.1 hv;have h_:=B6.1 (show allI (Hx e.anchors) e.anchors.length=true from ok.anc) o AA;unfold Hx at h_;rw [hg,VJ] at h_;simp at h_;omega
 refine ac ?_
 refine ac ?_
 exact Fin.AP (o+1) ⟨⟨eN,(fun j hj=>by rcases Nat.lt_or_eq_of_le (Nat.le_of_lt_succ hj) with h_|h_;exact LX j h_;(subst h_;unfold Hx Hg;rw [hg];rw [VJ];simp_all))⟩,by omega⟩ ⟨⟨_,rfl,AG o⟩,ke rfl,trivial⟩
 have LS:¬0<o:=by simpa using h16
 refine ac ?_
 refine GF 1 7 143 rfl ?_
 refine ac ?_
 refine ac ?_
 exact Fin.AP (o+1) ⟨⟨eN,(fun j hj=>by rcases Nat.lt_or_eq_of_le (Nat.le_of_lt_succ hj) with h_|h_;exact LX j h_;(subst h_;unfold Hx Hg;rw [hg];simp_all))⟩,by omega⟩ ⟨⟨_,rfl,AG o⟩,ke rfl,trivial⟩
 have vW:o=(e.anchors).length:=by have:=AJ Nv;omega
 subst vW
 refine ac ?_
 refine ac ?_
 refine Tr.block (Tr.BE [(1,_)] ⟨ke rfl,trivial⟩ (fun q:Nat=>[(8,int ((q:Nat):Int))]) (fun q:Nat=>q≤(e.hashes).length∧(∀j,j<q→(Hx e.hashes j&&Ql (e.hashes[j]?.getD 0))=true)) (fun q:Nat=>(e.hashes).length-q) 0 (⟨Nat.zero_le _,fun j hj=>absurd hj AA⟩) ⟨ke rfl,trivial⟩ ?_)
 rintro q ⟨AFB,Uo⟩
 refine ac ?_
 refine Tr.cn rfl ?_ ?_<;>intro Rr q18
 have vX:q<(e.hashes).length:=AH Rr
 obtain ⟨a,WS⟩:=at_ vX
 have hg:=getD_at (d:=(0:Int)) WS
 refine ac ?_
 refine ac ?_
 refine co rfl (AD rfl underlying22 CH (vl rfl) (vl rfl) AA (AX WS)) (co rfl (GX rfl DF rfl) (co rfl (Ck (O1) rfl rfl) ?_))
 refine ac ?_
 refine Ch.cs 158 rfl ?_ ?_<;>intro nZ q19
 refine ac ?_
 refine GF 1 8 175 rfl ?_
 refine ac ?_
 refine ac ?_
 · refine int_eq (if_neg (fun hv=> ?_)).symm;have ok:=DA.1 hv;have h_:=List.all_eq_true.1 ok.hsh a (List.mem_of_getElem? WS);unfold Ql at h_;simp_all
 refine ac ?_
 refine Ch.cs 161 rfl ?_ ?_<;>intro Ru q20
 have hk0:0<q:=by simpa using Ru
 obtain ⟨y,hy⟩:=at_ (l:=e.hashes) (k:=q-1) AA
 have VJ:=getD_at (d:=(0:Int)) hy
 refine ac ?_
 refine cy Ru rfl (AD rfl underlying22 CH (vl rfl) (vl rfl) AA (by rw [show ((q:Nat):Int)-1=((q-1:Nat):Int) by omega];exact AX hy)) ?_
 refine ac ?_
 refine cy Ru rfl (AD rfl underlying22 CH (vl rfl) (vl rfl) AA (AX WS)) ?_
 refine ac ?_
 refine GF 1 8 175 rfl ?_
 refine Tr.cn rfl ?_ ?_<;>intro av q21
 refine ac ?_
 refine ac ?_
 · refine int_eq (if_neg (fun hv=> ?_)).symm;have ok:=DA.1 hv;have h_:=B6.1 (show allI (Hx e.hashes) e.hashes.length=true from ok.hash) q AA;unfold Hx at h_;rw [hg,VJ] at h_;simp at h_;omega
 refine ac ?_
 refine ac ?_
 exact Fin.AP (q+1) ⟨⟨vX,(fun j hj=>by rcases Nat.lt_or_eq_of_le (Nat.le_of_lt_succ hj) with h_|h_;exact Uo j h_;(subst h_;unfold Hx Ql;rw [hg];rw [VJ];simp_all))⟩,by omega⟩ ⟨⟨_,rfl,AG q⟩,ke rfl,trivial⟩
 have LS:¬0<q:=by simpa using Ru
 refine ac ?_
 refine GF 1 8 175 rfl ?_
 refine ac ?_
 refine ac ?_
 exact Fin.AP (q+1) ⟨⟨vX,(fun j hj=>by rcases Nat.lt_or_eq_of_le (Nat.le_of_lt_succ hj) with h_|h_;exact Uo j h_;(subst h_;unfold Hx Ql;rw [hg];simp_all))⟩,by omega⟩ ⟨⟨_,rfl,AG q⟩,ke rfl,trivial⟩
 have AEO:q=(e.hashes).length:=by have:=AJ Rr;omega
 subst AEO
 refine ac ?_
 refine ac ?_
 refine ac ?_
 · refine int_eq (if_pos (DA.2 ⟨by simp_all,by omega,by omega,by omega,B6.2 En,by omega,by omega,B6.2 (fun j hj=>and1 (LX j hj)),B6.2 (fun j hj=>and1 (Uo j hj)),hall,kJ (fun j hj=>vV (LX j hj)),kJ (fun j hj=>vV (Uo j hj))⟩)).symm
theorem FE {e:B7} (F6:e.small):BC Tryz.prog 148 [agg (Bc e)] (int (if GI e then 0 else 19)):=Yh (by have:=F6.hashes;omega)
theorem kL {a b:List (Int)}  :BC prog 87 [ints a,ints b] (bool (decide (a=b))):=by
 refine fo func87 rfl ⟨rfl,rfl⟩ fun M0 w0=>(Tr.Cf 0 rfl fun EH=>(Tr.Cf 1 rfl fun FC=> ?_))
 refine ac ?_
 refine an ?_ ?_<;>intro h1 q1
 have hne:¬a.length=b.length:=by simp_all;omega
 refine a2 ?_
 · exact Pv
 have Td:a.length=b.length:=by simp_all;omega
 refine a2 ?_
 refine Tr.block (Tr.BE _ (kk [12,1,0] rfl) (fun k:Nat=>[(13,int ((k:Nat):Int))]) (fun k:Nat=>k≤(a).length∧(a.take k=b.take k)) (fun k:Nat=>(a).length-k) 0 (⟨Nat.zero_le _,rfl⟩) kz ?_)
 rintro k ⟨BV,AZ⟩
 refine ac ?_
 refine Tr.seq ?_
 refine Tr.cn rfl ?_ ?_<;>intro h2 q2
 have Ai:k<(a).length:=AH h2
 obtain ⟨x,Ah⟩:=at_ Ai
 obtain ⟨y,hy⟩:=at_ (l:=b) (k:=k) AA
 · repeat' first|(refine bool_eq ?_;symm;rw [decide_eq_false_iff_not];refine Zf Ah hy ?_;rintro rfl;simp_all)|exact Fin.AP (k+1) ⟨⟨Ai,SM Ah hy AZ CY⟩,by omega⟩ ⟨⟨_,rfl,AG k⟩,kz⟩|refine co rfl (AD rfl underlying22 CH vq vq AA (AX Ah)) ?_|refine co rfl (AD rfl underlying22 CH vq vq AA (AX hy)) ?_|refine ac ?_|(refine Tr.cn rfl ?_ ?_<;>intro h q)
 have BL:k=(a).length:=by have:=AJ h2;omega
 subst BL
 refine a3 ?_
 · exact Py
theorem vY {a b:List (List UInt8)}  :BC prog 185 [dW a,dW b] (bool (decide (a=b))):=by
 refine fo func185 rfl ⟨rfl,rfl⟩ fun M0 w0=>(Tr.Cf 0 rfl fun EH=>(Tr.Cf 1 rfl fun FC=> ?_))
 refine ac ?_
 refine an ?_ ?_<;>intro h1 q1
 have hne:¬a.length=b.length:=by simp_all;omega
 refine a2 ?_
 · exact Pv
 have Td:a.length=b.length:=by simp_all;omega
 refine a2 ?_
 refine Tr.block (Tr.BE _ (kk [12,1,0] rfl) (fun k:Nat=>[(13,int ((k:Nat):Int))]) (fun k:Nat=>k≤(a).length∧(a.take k=b.take k)) (fun k:Nat=>(a).length-k) 0 (⟨Nat.zero_le _,rfl⟩) kz ?_)
 rintro k ⟨BV,AZ⟩
 refine ac ?_
 refine Tr.seq ?_
 refine Tr.cn rfl ?_ ?_<;>intro h2 q2
 have Ai:k<(a).length:=AH h2
 obtain ⟨x,Ah⟩:=at_ Ai
 obtain ⟨y,hy⟩:=at_ (l:=b) (k:=k) AA
 · repeat' first|(refine bool_eq ?_;symm;rw [decide_eq_false_iff_not];refine Zf Ah hy ?_;rintro rfl;simp_all)|exact Fin.AP (k+1) ⟨⟨Ai,SM Ah hy AZ CY⟩,by omega⟩ ⟨⟨_,rfl,AG k⟩,kz⟩|refine co rfl (AD rfl underlying127 MF vq vq AA (AX Ah)) ?_|refine co rfl (AD rfl underlying127 MF vq vq AA (AX hy)) ?_|refine ac ?_|(refine Tr.cn rfl ?_ ?_<;>intro h q)
 have BL:k=(a).length:=by have:=AJ h2;omega
 subst BL
 refine a3 ?_
 · exact Py
abbrev AEP (l:List B7):Pr:=slice 9 (l.map Bc)
theorem vZ {a b:List HB}  :BC prog 141 [Kz a,Kz b,clo prog (fun p:HB×HB=>[agg (DH p.1),agg (DH p.2)]) (fun p=>bool (decide (p.1=p.2)))] (bool (decide (a=b))):=by
 refine fo func141 rfl ⟨rfl,rfl⟩ fun M0 w0=>(Tr.Cf 0 rfl fun EH=>(Tr.Cf 1 rfl fun FC=> ?_))
 refine ac ?_
 refine an ?_ ?_<;>intro h1 q1
 have hne:¬a.length=b.length:=by simp_all;omega
 refine a2 ?_
 · exact Pv
 have Td:a.length=b.length:=by simp_all;omega
 refine a2 ?_
 refine Tr.block (Tr.BE _ (kk [16,15,2,1] rfl) (fun k:Nat=>[(17,int ((k:Nat):Int))]) (fun k:Nat=>k≤(a).length∧(a.take k=b.take k)) (fun k:Nat=>(a).length-k) 0 (⟨Nat.zero_le _,rfl⟩) kz ?_)
 rintro k ⟨BV,AZ⟩
 refine ac ?_
 refine Tr.seq ?_
 refine Tr.cn rfl ?_ ?_<;>intro h2 q2
 have Ai:k<(a).length:=AH h2
 obtain ⟨x,Ah⟩:=at_ Ai
 obtain ⟨y,hy⟩:=at_ (l:=b) (k:=k) AA
 refine ac ?_
 refine ao ?_
 refine tp rfl (AD rfl underlying82 C3 (vl rfl) (vl rfl) AA (AX Ah)) (tp rfl (AL rfl Fv C3 (vl rfl) rfl rfl) ?_)
 refine Tl rfl rfl rfl rfl QV Kw (fun b1=> ?_)
 refine tm rfl ?_
 refine sf 0 8 ⟨rfl,rfl,rfl⟩ rfl rfl rfl rfl ?_
 refine ao ?_
 refine ao ?_
 refine tp rfl (AD rfl underlying82 C3 (vl rfl) (vl rfl) AA (AX hy)) (tp rfl (AL rfl Fv C3 (vl rfl) rfl rfl) ?_)
 refine Tl rfl rfl rfl rfl QV Kw (fun b2=> ?_)
 refine sf 0 9 ⟨rfl,rfl,rfl⟩ rfl rfl rfl rfl ?_
 refine ao ?_
 · exact gb
 have BL:k=(a).length:=by have:=AJ h2;omega
 subst BL
 refine a3 ?_
 · exact Py
structure Da where
 Bp:List B7
 BQ:List IA
 items:List Um
 deriving DecidableEq
abbrev CG (e:Da):List Pr:=[AEP e.Bp,Hy e.BQ,Qq e.items]
abbrev Fx:Da:=⟨[],[],[]⟩
structure Da.fits (e:Da):Prop where
 Bp:∀x∈e.Bp,x.fits∧x.small
 items:∀x∈e.items,x.name.length≤maxLen
 le:e.Bp.length≤1000000000000
 lg:e.BQ.length≤1000000000000
 li:e.items.length≤1000000000000
def WT (l:List B7) (i:Nat):Bool:=GI (l[i]?.getD E3)&&(decide (i=0)||decide (Lib.compareBytes (l[i-1]?.getD E3).name (l[i]?.getD E3).name= -1))
def FH (e:Da):Bool:=(allI (WT e.Bp) e.Bp.length&&decide (e.Bp.length≤16))&&Un e.Bp.length e.BQ&&(e.items.all N3&&decide (e.items.length≤30))
structure tX (e:Da):Prop where
 ep:∀j,j<e.Bp.length→WT e.Bp j=true
 e16:e.Bp.length≤16
 ed:∀j,j<e.BQ.length→Ea e.Bp.length e.BQ j=true
 e40:e.BQ.length≤40
 it:e.items.all N3=true
 i30:e.items.length≤30
theorem FI {e:Da}:FH e=true↔tX e:=by
 unfold FH Un
 simp only [Bool.and_eq_true,decide_eq_true_eq,B6]
 exact ⟨fun ⟨⟨⟨h1,h2⟩,h3,h4⟩,h5,h6⟩=>⟨h1,h2,h3,h4,h5,h6⟩,fun h=>⟨⟨⟨h.ep,h.e16⟩,h.ed,h.e40⟩,h.it,h.i30⟩⟩
theorem cw {e:Da} (h:tX e):Un e.Bp.length e.BQ=true:=by unfold Un;simp only [Bool.and_eq_true,decide_eq_true_eq,B6];exact ⟨h.ed,h.e40⟩
theorem Dp {e:Da} (hf:e.fits):BC prog 94 [agg (CG e)] (int (if FH e then 0 else 31)):=by
 refine fo func94 rfl ⟨rfl,rfl⟩ fun M0 w0=> ?_
 have hl1:=hf.le
 have hl2:=hf.lg
 have hl3:=hf.li
 refine ac ?_
 refine ac ?_
 refine Ch.cs 11 rfl ?_ ?_<;>intro h1 q1
 refine ac ?_
 refine T_ 1 22 rfl ?_
 refine ac ?_
 refine ac ?_
 · exact Xo
 refine ac ?_
 refine Ch.cs 17 rfl ?_ ?_<;>intro h2 q2
 refine ac ?_
 refine T_ 1 22 rfl ?_
 refine ac ?_
 refine ac ?_
 · exact Xo
 refine ac ?_
 refine T_ 1 22 rfl ?_
 refine Tr.cn rfl ?_ ?_<;>intro h3 q3
 refine ac ?_
 refine ac ?_
 · exact Xo
 refine ac ?_
 refine ac ?_
 refine Tr.block (Tr.BE [(1,_)] ⟨ke rfl,trivial⟩ (fun k:Nat=>[(3,int ((k:Nat):Int))]) (fun k:Nat=>k≤(e.Bp).length∧(∀j,j<k→WT e.Bp j=true)) (fun k:Nat=>(e.Bp).length-k) 0 (⟨Nat.zero_le _,fun j hj=>absurd hj AA⟩) ⟨ke rfl,trivial⟩ ?_)
 rintro k ⟨BV,AZ⟩
 refine ac ?_
 refine Tr.cn rfl ?_ ?_<;>intro h4 q4
 have Ai:k<(e.Bp).length:=AH h4
 obtain ⟨x,Ah⟩:=at_ Ai
 have hg:=getD_at (d:=E3) Ah
 have hxf:=hf.Bp x (List.mem_of_getElem? Ah)
 refine ac ?_
 refine ac ?_
 refine co rfl (AD rfl underlying27 CF (vl rfl) (vl rfl) AA (AX Ah)) (co rfl (AL rfl Cj CF (vl rfl) rfl rfl) (co rfl (Ck (FE hxf.2) rfl rfl) ?_))
 refine ac ?_
 refine Ch.cs 37 rfl ?_ ?_<;>intro h5 q5
 refine ac ?_
 refine GF 1 3 56 rfl ?_
 refine ac ?_
 refine ac ?_
 · refine int_eq (if_neg (fun hv=> ?_)).symm;have ok:=FI.1 hv;(have h_:=ok.ep k AA;unfold WT at h_;rw [hg] at h_;simp_all)
 refine ac ?_
 refine Ch.cs 40 rfl ?_ ?_<;>intro h6 q6
 have hk0:0<k:=by simpa using h6
 obtain ⟨y,hy⟩:=at_ (l:=e.Bp) (k:=k-1) AA
 have VJ:=getD_at (d:=E3) hy
 refine ac ?_
 refine cy h6 rfl (AD rfl underlying27 CF (vl rfl) (vl rfl) AA K_) ?_
 refine ac ?_
 refine cy h6 rfl (AD rfl underlying27 CF (vl rfl) (vl rfl) AA (AX Ah)) ?_
 refine ac ?_
 refine cy h6 rfl (QZ rfl (vl rfl) (vl rfl)) ?_
 refine ac ?_
 refine GF 1 3 56 rfl ?_
 refine Tr.cn rfl ?_ ?_<;>intro h7 q7
 refine ac ?_
 refine ac ?_
 · refine int_eq (if_neg (fun hv=> ?_)).symm;have ok:=FI.1 hv;(have h_:=ok.ep k AA;unfold WT at h_;rw [hg,VJ] at h_;simp_all)
 refine ac ?_
 refine ac ?_
 exact Fin.AP (k+1) ⟨⟨Ai,Dz AZ (by unfold WT;rw [hg,VJ];simp_all)⟩,by omega⟩ ⟨⟨_,rfl,AG k⟩,ke rfl,trivial⟩
 have LS:¬0<k:=by simpa using h6
 refine ac ?_
 refine GF 1 3 56 rfl ?_
 refine ac ?_
 refine ac ?_
 exact Fin.AP (k+1) ⟨⟨Ai,Dz AZ (by unfold WT;rw [hg];simp_all)⟩,by omega⟩ ⟨⟨_,rfl,AG k⟩,ke rfl,trivial⟩
 have BL:k=(e.Bp).length:=by have:=AJ h4;omega
 subst BL
 have Up:=AZ
 refine ac ?_
 refine ac ?_
 refine Tr.block (Tr.BE [(1,_)] ⟨ke rfl,trivial⟩ (fun m:Nat=>[(4,int ((m:Nat):Int))]) (fun m:Nat=>m≤(e.BQ).length∧(∀j,j<m→Ea e.Bp.length e.BQ j=true)) (fun m:Nat=>(e.BQ).length-m) 0 (⟨Nat.zero_le _,fun j hj=>absurd hj AA⟩) ⟨ke rfl,trivial⟩ ?_)
 rintro m ⟨MY,HY⟩
 refine ac ?_
 refine Tr.cn rfl ?_ ?_<;>intro h8 q8
 have ES:m<(e.BQ).length:=AH h8
 obtain ⟨c,EX⟩:=at_ ES
 have hg:=getD_at (d:=GZ) EX
 refine ac ?_
 refine ao ?_
 refine tp rfl (AD rfl underlying28 Eh (vl rfl) (vl rfl) AA (AX EX)) (tp rfl (AL rfl QS Eh (vl rfl) rfl rfl) ?_)
 refine Tl rfl rfl rfl rfl YK Vy (fun b1=> ?_)
 refine sf 0 5 ⟨rfl,rfl,rfl⟩ rfl rfl rfl rfl ?_
 refine ao ?_
 refine GF 1 4 5 rfl ?_
 refine ac ?_
 refine Ch.cs 72 rfl ?_ ?_<;>intro h9 q9
 refine ac ?_
 refine UA 1 4 5 99 rfl ?_
 refine ac ?_
 refine ac ?_
 · exact TX
 refine ac ?_
 refine Ch.cs 80 rfl ?_ ?_<;>intro h10 PC
 refine ac ?_
 refine UA 1 4 5 99 rfl ?_
 refine ac ?_
 refine ac ?_
 · exact TX
 refine ac ?_
 refine Ch.cs 85 rfl ?_ ?_<;>intro h11 Rt
 refine ac ?_
 refine UA 1 4 5 99 rfl ?_
 refine ac ?_
 refine ac ?_
 · exact TX
 refine ac ?_
 refine Ch.cs 93 rfl ?_ ?_<;>intro h12 VQ
 refine ac ?_
 refine UA 1 4 5 99 rfl ?_
 refine ac ?_
 refine ac ?_
 · exact TX
 refine ac ?_
 refine UA 1 4 5 99 rfl ?_
 refine Tr.cn rfl ?_ ?_<;>intro Nv eE
 refine ac ?_
 refine ac ?_
 · refine int_eq (if_neg (fun hv=> ?_)).symm;have ok:=FI.1 hv;(have h_:=ok.ed m AA;unfold Ea at h_;rw [hg] at h_;simp_all)
 refine ac ?_
 refine ac ?_
 refine Ch.cs 102 rfl ?_ ?_<;>intro Mo q14
 have hk0:0<m:=by simpa using Mo
 obtain ⟨y,hy⟩:=at_ (l:=e.BQ) (k:=m-1) AA
 have VJ:=getD_at (d:=GZ) hy
 refine ac ?_
 refine cy Mo rfl (AD rfl underlying28 Eh (vl rfl) (vl rfl) AA Xv) ?_
 refine ac ?_
 refine Ch.cs 113 rfl ?_ ?_<;>intro Vs q15
 refine ac ?_
 refine GF 1 4 137 rfl ?_
 refine ac ?_
 refine ac ?_
 · exact hO
 refine ac ?_
 refine cy Vs rfl (AD rfl underlying28 Eh (vl rfl) (vl rfl) AA Xv) ?_
 refine ac ?_
 refine Ch.cs 124 rfl ?_ ?_<;>intro h16 q16
 refine ac ?_
 refine cy h16 rfl (AD rfl underlying28 Eh (vl rfl) (vl rfl) AA Xv) ?_
 refine ac ?_
 refine GF 1 4 137 rfl ?_
 refine Tr.cn rfl ?_ ?_<;>intro OL q17
 refine ac ?_
 refine ac ?_
 · exact hO
 refine ac ?_
 refine ac ?_
 exact Fin.AP (m+1) ⟨⟨ES,Dz HY (by unfold Ea;rw [hg,VJ];simp_all)⟩,by omega⟩ ⟨⟨_,rfl,AG m⟩,ke rfl,trivial⟩
 refine ac ?_
 refine GF 1 4 137 rfl ?_
 refine ac ?_
 refine ac ?_
 exact Fin.AP (m+1) ⟨⟨ES,Dz HY (by unfold Ea;rw [hg,VJ];simp_all;omega)⟩,by omega⟩ ⟨⟨_,rfl,AG m⟩,ke rfl,trivial⟩
 have LS:¬0<m:=by simpa using Mo
 refine ac ?_
 refine GF 1 4 137 rfl ?_
 refine ac ?_
 refine ac ?_
 exact Fin.AP (m+1) ⟨⟨ES,Dz HY (by unfold Ea;rw [hg];simp_all)⟩,by omega⟩ ⟨⟨_,rfl,AG m⟩,ke rfl,trivial⟩
 have Jm:m=(e.BQ).length:=by have:=AJ h8;omega
 subst Jm
 refine ac ?_
 refine ac ?_
 refine Tr.block (Tr.BE [(1,_)] ⟨ke rfl,trivial⟩ (fun o:Nat=>[(6,int ((o:Nat):Int))]) (fun o:Nat=>o≤(e.items).length∧(∀j y,j<o→e.items[j]? =some y→(!N3 y)=false)) (fun o:Nat=>(e.items).length-o) 0 (⟨Nat.zero_le _,fun j y hj=>absurd hj AA⟩) ⟨ke rfl,trivial⟩ ?_)
 rintro o ⟨AA0,LX⟩
 refine ac ?_
 refine Tr.cn rfl ?_ ?_<;>intro Rr q18
 have eN:o<(e.items).length:=AH Rr
 obtain ⟨x,Tc⟩:=at_ eN
 refine ac ?_
 refine ac ?_
 refine co rfl (AD rfl underlying29 HM (vl rfl) (vl rfl) AA (AX Tc)) (co rfl (AL rfl UH HM (vl rfl) rfl rfl) (co rfl (Ck (Yb) rfl rfl) ?_))
 refine ac ?_
 refine GF 1 6 151 rfl ?_
 refine Tr.cn rfl ?_ ?_<;>intro nZ q19
 refine ac ?_
 refine ac ?_
 · refine int_eq (if_neg (fun hv=> ?_)).symm;have ok:=FI.1 hv;(have h_:=List.all_eq_true.1 ok.it x (List.mem_of_getElem? Tc);simp_all)
 refine ac ?_
 refine ac ?_
 exact Fin.AP (o+1) ⟨⟨eN,ED (p:=fun c=> !N3 c) Tc CY LX⟩,by omega⟩ ⟨⟨_,rfl,AG o⟩,ke rfl,trivial⟩
 have vW:o=(e.items).length:=by have:=AJ Rr;omega
 subst vW
 have hall:=MP LX
 refine ac ?_
 refine ac ?_
 refine ac ?_
 · refine int_eq (if_pos (FI.2 ⟨Up,by omega,HY,by omega,hall,by omega⟩)).symm
theorem vc {d:Nat} {w:World} {x0 y0:Int} {x1 y1:Int}:(Op.equalIn (d+2) 132 (.agg #[.int .i64 x0,.int .i64 x1]) (.agg #[.int .i64 y0,.int .i64 y1])).run Tryz.prog w= .ok (decide (x0=y0∧x1=y1)) w:=by
 have h:=eqS (w:=w) (d:=d+1) (xs:= #[.int .i64 x0,.int .i64 x1]) (ys:= #[.int .i64 y0,.int .i64 y1]) Tryz.underlying132 BS (Ev AB (CA DF rfl) (CA DF rfl) (F8 (d:=d+0) Tryz.underlying3) (Ev AB (CA DF rfl) (CA DF rfl) (F8 (d:=d+0) Tryz.underlying3) (MK)))
 refine h.trans (congrArg (fun b=>Result.ok b w) ?_)
 rw [Bool.eq_iff_iff];simp [and_assoc]
theorem kM {E:Env} {I:Cb} {o:Oper} {u:TypeId} {x y:Operand} {x0 y0:Int} {x1 y1:Int} (ho:o.op= .binOp .neq 132 x y u) (hx:VL E x (agg [is (.int .i64 x0),is (.int .i64 x1)])) (hy:VL E y (agg [is (.int .i64 y0),is (.int .i64 y1)])):Ad Tryz.prog I o E (bool (!decide (x0=y0∧x1=y1))):=
 MJ [.int .i64 x0,.int .i64 x1] [.int .i64 y0,.int .i64 y1] ho hx hy BS (fun w=>by rw [show Op.equal 132 _ _=Op.equalIn (9998+2) 132 _ _ from rfl];exact vc)
def setAt (n:Int) (l:List Int) (i:Nat):Bool:=decide (0≤l[i]?.getD 0)&&decide (l[i]?.getD 0<n)&&(decide (i=0)||decide (l[i-1]?.getD 0<l[i]?.getD 0))
def Dx (n:Int) (l:List Int):Bool:=allI (setAt n l) l.length
theorem Qr {l:List Int} {n:Int}  :BC prog 82 [ints l,int n] (bool (Dx n l)):=by
 refine fo func82 rfl ⟨rfl,rfl⟩ fun M0 w0=>(Tr.Cf 0 rfl fun EH=> ?_)
 refine a2 ?_
 refine Tr.block (Tr.BE _ (kk [8,7,1,0] rfl) (fun k:Nat=>[(9,int ((k:Nat):Int))]) (fun k:Nat=>k≤(l).length∧(∀j,j<k→setAt n l j=true)) (fun k:Nat=>(l).length-k) 0 (⟨Nat.zero_le _,fun j hj=>absurd hj AA⟩) kz ?_)
 rintro k ⟨BV,AZ⟩
 refine ac ?_
 refine Tr.seq ?_
 refine Tr.cn rfl ?_ ?_<;>intro h1 q1
 have Ai:k<(l).length:=AH h1
 obtain ⟨x,Ah⟩:=at_ Ai
 have hg:=getD_at (d:=(0:Int)) Ah
 refine a2 ?_
 refine co rfl (AD rfl underlying51 CH vq vq AA (AX Ah)) ?_
 refine ac ?_
 refine ag ?_ ?_<;>intro h2 q2
 refine ac ?_
 refine wk [33,9,8,7,1,0] rfl ?_
 refine a2 ?_
 · exact iH
 refine ag ?_ ?_<;>intro h3 q3
 refine ac ?_
 refine wk [33,9,8,7,1,0] rfl ?_
 refine a2 ?_
 · exact iH
 refine ag ?_ ?_<;>intro h4 q4
 have hk0:0<k:=by simpa using h4
 obtain ⟨y,hy⟩:=at_ (l:=l) (k:=k-1) AA
 have VJ:=getD_at (d:=(0:Int)) hy
 · repeat' first|(refine bool_eq ?_;unfold Dx;rw [Pz (p:=setAt n l) (k:=k) AA (by unfold setAt;rw [hg,VJ];simp_all;omega)])|(exact Fin.AP (k+1) ⟨⟨Ai,Dz AZ (by unfold setAt;rw [hg,VJ];simp_all)⟩,by omega⟩ ⟨⟨_,rfl,AG k⟩,kz⟩)|(refine cy h4 rfl (AD rfl underlying51 CH vq vq AA K_) ?_)|refine ac ?_|(refine Tr.cn rfl ?_ ?_<;>intro h q)
 have LS:¬0<k:=by simpa using h4
 refine ac ?_
 refine wk [33,9,8,7,1,0] rfl ?_
 refine a2 ?_
 exact Fin.AP (k+1) ⟨⟨Ai,Dz AZ (by unfold setAt;rw [hg];simp_all)⟩,by omega⟩ ⟨⟨_,rfl,AG k⟩,kz⟩
 have BL:k=(l).length:=by have:=AJ h1;omega
 subst BL
 refine a3 ?_
 · refine bool_eq ?_;unfold Dx;rw [jS AZ]
theorem bL {l:List Int} {v:Int}  :BC prog 92 [ints l,int v] (bool (l.any fun x=>v==x)):=by
 refine fo func92 rfl ⟨rfl,rfl⟩ fun M0 w0=>(Tr.Cf 0 rfl fun EH=> ?_)
 refine a2 ?_
 refine Tr.block (Tr.BE _ (kk [8,7,1] rfl) (fun k:Nat=>[(9,int ((k:Nat):Int))]) (fun k:Nat=>k≤(l).length∧((l.take k).any (fun x=>v==x)=false)) (fun k:Nat=>(l).length-k) 0 (⟨Nat.zero_le _,rfl⟩) kz ?_)
 rintro k ⟨BV,AZ⟩
 refine ac ?_
 refine Tr.seq ?_
 refine Tr.cn rfl ?_ ?_<;>intro h1 q1
 have Ai:k<(l).length:=AH h1
 obtain ⟨x,Ah⟩:=at_ Ai
 refine ac ?_
 refine Tr.seq (Tr.block (Tr.seq (Tr.Aj (co rfl (AD rfl underlying22 CH vq vq AA (AX Ah)) ?_))))
 · repeat' first|(refine bool_eq ?_;symm;rw [List.any_eq_true];exact ⟨_,List.mem_of_getElem? Ah,by simp_all⟩)|(exact Fin.AP (k+1) ⟨⟨Ai,Z7⟩,by omega⟩ ⟨⟨_,rfl,AG k⟩,kz⟩)|refine ac ?_|(refine Tr.cn rfl ?_ ?_<;>intro h q)
 have BL:k=(l).length:=by have:=AJ h1;omega
 subst BL
 refine a3 ?_
 · exact Te
def usL:List (Int×Int):=[(2,0),(1,0),(5,2048),(16,128),(3,0),(15,168)]
def bM (v:Int):Int×Int:=usL[v.toNat]?.getD (2,0)
theorem AA1 {v:Int} (h:0≤v∧v<6):(usL.map fun u=>[int u.1,int u.2])[v.toNat]? =some [int (bM v).1,int (bM v).2]:=by
 have hl:v.toNat<usL.length:=by show v.toNat<6;omega
 unfold bM;rw [List.getElem?_map,List.getElem?_eq_getElem hl];rfl
theorem ve:∀u∈usL,Di u.1 u.2>0:=by decide+kernel
theorem tY (v:Int):Di (bM v).1 (bM v).2>0:=by
 unfold bM
 cases h:usL[v.toNat]? with
 |none=>decide+kernel
 |some u=>exact ve u (List.mem_of_getElem? h)
def LY:Nat→DS→Int→List WO→List WO×Int×DS
 |0,s,day,l=>(l,day,s)
 |k+1,s,day,l=>LY k s.Ca.Ca (day+1+s.Ca.of [5,30,0,100]) (l++[⟨(bM (s.val 6)).1,(bM (s.val 6)).2,day⟩])
abbrev ET (s:DS):List WO×Int×DS:=LY (1+s.Ca.Ca.Ca.val 3).toNat s.Ca.Ca.Ca.Ca (s.Ca.Ca.val 20) []
def Ss (s:DS) (name:List UInt8):Um:=⟨name,1+s.val 2,1+s.Ca.val 4,(ET s).1,((ET s).1[0]?.getD FD).day+(ET s).2.2.of [50,300,0,3000]⟩
def AA2 (s:DS):DS:=(ET s).2.2.Ca
structure eO (l:List WO) (day:Int):Prop where
 lo:0≤day
 hi:day≤20+101*(l.length:Nat)
 at_:∀j,j<l.length→Gm l j=true
 lt:∀x∈l,x.day<day
theorem WU {l:List WO} {day d:Int} {u:Int×Int} (h:eO l day) (h3:l.length≤3) (hu:Di u.1 u.2>0) (hd:0≤d∧d≤100):eO (l++[⟨u.1,u.2,day⟩]) (day+1+d):=by
 have h0:=h.lo;have h1:=h.hi
 refine ⟨by omega,by rw [List.length_append];simp;omega,fun j hj=> ?_,fun x hx=> ?_⟩
 ·
  rw [List.length_append] at hj;simp at hj
  rcases Nat.lt_or_ge j l.length with hl|hl
  ·
   have:=h.at_ j hl
   unfold Gm at this ⊢
   rw [List.getElem?_append_left hl,List.getElem?_append_left (show j-1<l.length by omega)];exact this
  ·
   have:j=l.length:=by omega
   subst this
   unfold Gm
   rw [List.getElem?_append_right (Nat.le_refl _),Nat.sub_self]
   rcases Nat.eq_zero_or_pos l.length with hz|hz
   ·
    obtain rfl:=List.eq_nil_of_length_eq_zero hz
    simp [hu];simp at h1;omega
   ·
    obtain ⟨y,hy⟩:=at_ (l:=l) (k:=l.length-1) AA
    rw [List.getElem?_append_left (show l.length-1<l.length by omega),hy]
    have:=h.lt y (List.mem_of_getElem? hy)
    simp [hu];omega
 ·
  rcases List.mem_append.1 hx with hx|hx
  · have:=h.lt x hx;omega
  · simp at hx;subst hx;show day<_;omega
theorem Yi (s:DS):0≤s.of [5,30,0,100]∧s.of [5,30,0,100]≤100:=by have:=s.QK (l:=[5,30,0,100]) AV;simp at this;omega
theorem kN (s:DS):0≤s.of [50,300,0,3000]∧s.of [50,300,0,3000]≤3000:=by have:=s.QK (l:=[50,300,0,3000]) AV;simp at this;omega
theorem Sv:∀(k:Nat) (s:DS) (day:Int) (l:List WO),eO l day→l.length+k≤3→eO (LY k s day l).1 (LY k s day l).2.1∧(LY k s day l).1.length=l.length+k
 |0,s,day,l,h,_=>⟨h,rfl⟩
 |k+1,s,day,l,h,hk=>by
  have:=Sv k s.Ca.Ca (day+1+s.Ca.of [5,30,0,100]) (l++[⟨(bM (s.val 6)).1,(bM (s.val 6)).2,day⟩]) (WU h AA (tY _) (Yi _)) B9
  refine ⟨this.1,?_⟩
  show (LY k _ _ _).1.length=_
  rw [this.2];simp;omega
structure Yj (x:Um):Prop where
 ok:N3 x=true
 name:x.name.length≤32
 links:x.links.length≤3
theorem bN {s:DS} {name:List UInt8} (hn:named name=true):Yj (Ss s name):=by
 have h2:=s.C5 (n:=2) AA
 have h4:=s.Ca.C5 (n:=4) AA
 have Ru:=s.Ca.Ca.C5 (n:=20) AA
 have h3:=s.Ca.Ca.Ca.C5 (n:=3) AA
 have hI:eO [] (s.Ca.Ca.val 20):=⟨by omega,by simp;omega,fun j hj=>by simp at hj,fun x hx=>by simp at hx⟩
 obtain ⟨hL,hl⟩:=Sv (1+s.Ca.Ca.Ca.val 3).toNat s.Ca.Ca.Ca.Ca (s.Ca.Ca.val 20) [] hI B9
 simp only [List.length_nil,Nat.zero_add] at hl
 have hlen:(ET s).1.length=(1+s.Ca.Ca.Ca.val 3).toNat:=hl
 have hu:=kN (ET s).2.2
 obtain ⟨c,hc⟩:=at_ (l:=(ET s).1) (k:=0) AA
 have hg:=getD_at (d:=FD) hc
 have hc1:=hL.lt c (List.mem_of_getElem? hc)
 have hc2:=hL.hi
 refine ⟨Gl.2 ⟨hn,?_,?_,?_,?_,?_,hL.at_,?_,?_⟩,KO hn,?_⟩
 · show 1+s.val 2=1∨1+s.val 2=2;omega
 · show 1≤1+s.Ca.val 4;omega
 · show 1+s.Ca.val 4≤4;omega
 · show 1≤(ET s).1.length;omega
 · show (ET s).1.length≤8;omega
 · show ((ET s).1[0]?.getD FD).day≤((ET s).1[0]?.getD FD).day+_;omega
 · show ((ET s).1[0]?.getD FD).day+_≤40000;rw [hg];omega
 · show (ET s).1.length≤3;omega
theorem bO {b:Nat} {s:DS} {name:List UInt8}  :Be prog 90 [ptr b 0,str name] (agg (bJ (Ss s name))) (DT b s) (fun _=>DT b (AA2 s)):=by
 refine Be.of func90 rfl rfl Ao fun M0 w0 S rs M1 w1=> ?_
 have Vg:=s.C5 (n:=2) AA
 have hv4:=s.Ca.C5 (n:=4) AA
 have AFb:=s.Ca.Ca.C5 (n:=20) AA
 have hv3:=s.Ca.Ca.Ca.C5 (n:=3) AA
 refine Tr.seq (Tr.An ?_)
 refine Tl rfl rfl rfl rfl UI Vz (fun b1=> ?_)
 refine ao ?_
 refine ao ?_
 refine TO.IK 1 rfl rfl AB (Aq rfl rfl AB rfl (CX AA AA) ⟨ke rfl,ke rfl,trivial⟩) ?_
 refine ao ?_
 refine TO.IK 1 rfl rfl AB (Aq rfl rfl AB rfl (CX AA AA) ⟨ke rfl,ke rfl,trivial⟩) ?_
 refine ao ?_
 refine Tl rfl rfl rfl rfl UI Vz (fun b2=> ?_)
 refine TO.AK 0 rfl rfl rfl (vl rfl) (Va rfl) rfl HM rfl rfl ?_
 refine ao ?_
 refine ao ?_
 refine TO.IK 2 rfl rfl AB (Aq rfl rfl AB rfl (CX AA AA) ⟨ke rfl,ke rfl,trivial⟩) ?_
 refine ao ?_
 refine UA 0 4 5 6 rfl ?_
 refine ao ?_
 refine TO.IK 2 rfl rfl AB (Aq rfl rfl AB rfl (CX AA AA) ⟨ke rfl,ke rfl,trivial⟩) ?_
 refine ao ?_
 refine Tr.block (Tr.HC 0 [str name,int (1+s.val 2),int (1+s.Ca.val 4),Af (.slice none 0 0) (kC []),is (.int .i64 0)] rfl ⟨Lr,Lr,Lr,Bn rfl,Lr,trivial⟩ (Tr.B5 198 3 ?_))
 refine Tr.ir [(0,_),(4,_),(5,_)] ⟨ke rfl,ke rfl,ke rfl,trivial⟩ (fun (k:Int) (day:Int) (l:List WO) (s2:DS) v=>[(7,int k),(6,int day)]) (fun (k:Int) (day:Int) (l:List WO) (s2:DS) v=>Hp M0 w0 S (Au 198 3 v::AF true b2 135 [str name,int (1+s.val 2),int (1+s.Ca.val 4),Af v (kC l),is (.int .i64 0)]::AF true b1 135 (([.string (ByteArray.mk #[]),.int .i64 0,.int .i64 0,.slice none 0 0,.int .i64 0]:List Value).map is)::DT b s2::Ak M1 w1::rs)) (fun (k:Int) (day:Int) (l:List WO) (s2:DS)=>(0≤k∧k+l.length≤3∧1≤k+l.length∧eO l day)∧LY k.toNat s2 day l=ET s) (fun (k:Int) (day:Int) (l:List WO) (s2:DS)=>k.toNat) (_) (_) ([]) (_) (.slice none 0 0) (⟨⟨by omega,by simp;omega,by simp;omega,⟨by omega,by simp;omega,fun j hj=>by simp at hj,fun x hx=>by simp at hx⟩⟩,rfl⟩) ⟨ke rfl,ke rfl,trivial⟩ (fun _ _ h=>h) ?_
 rintro k day l s2 v ⟨⟨hk0,hk1,hk2,hL⟩,hR⟩
 have hL0:=hL.lo
 have hL1:=hL.hi
 have hof:=Yi s2.Ca
 refine an ?_ ?_<;>intro h1 q1
 have hk3:0<k:=of_decide_eq_true h1
 have hv6:=s2.C5 (n:=6) AA
 refine ac ?_
 refine ao ?_
 refine TO.IK 3 rfl rfl AB (Aq rfl rfl AB rfl (CX AA AA) ⟨ke rfl,ke rfl,trivial⟩) ?_
 refine tp rfl (AD rfl underlying143 Kj (Kf rfl) (vl rfl) AA (show (usL.map fun u=>[int u.1,int u.2])[_]? =_ from AA1 hv6)) ?_
 refine tp rfl (AL rfl I5 Kj (vl rfl) rfl rfl) ?_
 refine Tl rfl rfl rfl rfl KI EP (fun b3=> ?_)
 refine sf 0 8 ⟨rfl,rfl,rfl⟩ rfl rfl rfl rfl ?_
 refine ao ?_
 refine wk6 0 4 5 6 7 8 rfl ?_
 refine ao ?_
 refine TO.DZ 0 rfl rfl AB (B4 rfl rfl rfl rfl underlying133 Ja tF z198 (Kb rfl) (Kf rfl) (Az BJ (Ka rfl))) (fun v1=> ?_)
 refine tp rfl (Ab rfl UJ (vl rfl)) (TO.Dr 1 rfl rfl (A_ rfl rfl (vl rfl) (Vo rfl) tA rfl Ao rfl) ?_)
 refine ao ?_
 refine wk5 0 4 5 6 7 rfl ?_
 refine ao ?_
 refine TO.IK 3 rfl rfl AB (Aq rfl rfl AB rfl (WE (l:=[5,30,0,100]) AV AV) ⟨ke rfl,(Kf rfl),trivial⟩) ?_
 refine ao ?_
 refine ac ?_
 refine Fin.HC 1 [str name,int (1+s.val 2),int (1+s.Ca.val 4),Af v1 (kC (l++[(⟨(bM (s2.val 6)).1,(bM (s2.val 6)).2,day⟩:WO)])),is (.int .i64 0)] rfl ⟨Lr,Lr,Lr,BA DB,Lr,trivial⟩ ?_
 exact Fin.oZ (k-1) (_) (l++[(⟨(bM (s2.val 6)).1,(bM (s2.val 6)).2,day⟩:WO)]) (_) v1 (⟨⟨⟨by omega,by simp;omega,by simp;omega,WU hL AA (tY _) (Yi _)⟩,by rw [←hR,show k.toNat=(k-1).toNat+1 by omega];rfl⟩,by omega⟩) ⟨⟨_,rfl,int_eq AA⟩,⟨_,rfl,int_eq AA⟩,ke rfl,ke rfl,ke rfl,trivial⟩ (fun _ _ h=>h)
 have hk3:¬0<k:=of_decide_eq_false h1
 obtain rfl:k=0:=by omega
 obtain ⟨c0,hc0⟩:=at_ (l:=l) (k:=0) AA
 have hg0:=getD_at (d:=FD) hc0
 have AFc:=hL.lt c0 (List.mem_of_getElem? hc0)
 have AFd:0≤c0.day:=by have h_:=hL.at_ 0 (BN hc0);unfold Gm at h_;rw [hg0] at h_;simp at h_;omega
 have AFe:=kN s2
 have hR1:(ET s).1=l:=by rw [←hR];rfl
 obtain rfl:s2=(ET s).2.2:=by rw [←hR];rfl
 refine ac ?_
 refine Tr.seq (Tr.rx ?_)
 refine ay ?_
 refine xo rfl (fun _=>AD rfl underlying133 Ja (Kb rfl) (vl rfl) AA (AX (k:=0) hc0)) ?_
 refine ay ?_
 refine xo rfl (fun _=>oI) ?_
 refine Cx.ef 3 rfl rfl AB (Aq rfl rfl AB rfl (WE (l:=[50,300,0,3000]) AV AV) ⟨ke rfl,(Kf rfl),trivial⟩) ?_
 refine ay ?_
 refine Cx.nil ⟨by kernel_rfl,?_⟩
 refine BH.done al5 (Fin.go (T_ 4 5 rfl ?_))
 refine ao ?_
 refine TO.AK 2 rfl rfl rfl (vl rfl) (Va rfl) rfl HM rfl rfl ?_
 refine ao ?_
 refine Tr.ret (Fin.GG [_,_,_] rfl (AO.cell 2 rfl rfl UH HM rfl (Lr)) ?_ (fun _ _ _ _=>rfl))
 · exact BR ⟨Lr,Lr,Lr,Pr.le_trans (At _ _) (Pr.le_of_eq (by show _=kC (ET s).1;rw [hR1])),int_eq (by show _=((ET s).1[0]?.getD FD).day+_;rw [hR1,hg0]),trivial⟩
structure Yk (n:Nat) (i j:Int) (l:List IA):Prop where
 at_:∀k,k<l.length→Ea n l k=true
 lt:∀g∈l,g.client<i∨(g.client=i∧g.server<j)
theorem Yk.nil (n:Nat) (i j:Int):Yk n i j []:=⟨fun k hk=>by simp at hk,fun g hg=>by simp at hg⟩
theorem Yk.step {n:Nat} {i j:Int} {l:List IA} (h:Yk n i j l):Yk n i (j+1) l:=⟨h.at_,fun g hg=>by have:=h.lt g hg;omega⟩
theorem Yk.row {n:Nat} {i j:Int} {l:List IA} (h:Yk n i j l):Yk n (i+1) 0 l:=⟨h.at_,fun g hg=>by have:=h.lt g hg;omega⟩
theorem Yk.snoc {n:Nat} {i j:Int} {l:List IA} (h:Yk n i j l) (hi:0≤i∧i<n) (hj:0≤j∧j<n) (hn:i≠j):Yk n i (j+1) (l++[⟨i,j⟩]):=by
 refine ⟨fun k hk=> ?_,fun g hg=> ?_⟩
 ·
  rw [List.length_append] at hk;simp at hk
  rcases Nat.lt_or_ge k l.length with hl|hl
  ·
   have:=h.at_ k hl
   unfold Ea at this ⊢
   rw [List.getElem?_append_left hl,List.getElem?_append_left (show k-1<l.length by omega)];exact this
  ·
   have:k=l.length:=by omega
   subst this
   unfold Ea
   rw [List.getElem?_append_right (Nat.le_refl _),Nat.sub_self]
   rcases Nat.eq_zero_or_pos l.length with hz|hz
   ·
    obtain rfl:=List.eq_nil_of_length_eq_zero hz
    simp;omega
   ·
    obtain ⟨y,hy⟩:=Cp.at_ (l:=l) (k:=l.length-1) AA
    rw [List.getElem?_append_left (show l.length-1<l.length by omega),hy]
    have:=h.lt y (List.mem_of_getElem? hy)
    simp;omega
 ·
  rcases List.mem_append.1 hg with hg|hg
  · have:=h.lt g hg;omega
  · simp at hg;subst hg;right;exact ⟨rfl,by show j<j+1;omega⟩
theorem kO:∀i,i<2→Lib.compareBytes (FX[i]?.getD []) (FX[i+1]?.getD [])= -1:=by decide+kernel
structure N4 (e:Da):Prop where
 n2:2≤e.Bp.length
 n3:e.Bp.length≤3
 snd:j8 e.Bp
 ed:∀k,k<e.BQ.length→Ea e.Bp.length e.BQ k=true
 g1:1≤e.BQ.length
 g3:e.BQ.length≤3
 it:∀x∈e.items,Yj x
 i2:e.items.length≤2
theorem N4.ok {e:Da} (h:N4 e):FH e=true:=by
 have h3:=h.n3;have g3:=h.g3;have i2:=h.i2
 refine FI.2 ⟨fun j hj=> ?_,by omega,h.ed,by omega,List.all_eq_true.2 fun x hx=>(h.it x hx).ok,by omega⟩
 obtain ⟨x,hx⟩:=at_ hj
 have hs:=h.snd j x hx
 unfold WT
 rw [hx,Option.getD_some,DA.2 (qm hs),Bool.true_and,Bool.or_eq_true,decide_eq_true_eq,decide_eq_true_eq]
 rcases Nat.eq_zero_or_pos j with hz|hz
 · exact .inl hz
 ·
  right
  obtain ⟨y,hy⟩:=at_ (l:=e.Bp) (k:=j-1) AA
  have UY:=h.snd _ y hy
  rw [hy,Option.getD_some]
  have:=kO (j-1) AA
  rw [UY.name,show j-1+1=j by omega,hs.name] at this
  exact this
theorem N4.fits {e:Da} (h:N4 e):e.fits:=by
 have h3:=h.n3;have g3:=h.g3;have i2:=h.i2
 refine ⟨fun x hx=> ?_,fun x hx=>by have:=(h.it x hx).name;unfold maxLen;omega,by omega,by omega,by omega⟩
 obtain ⟨i,hi⟩:=List.getElem?_of_mem hx
 exact ⟨Sq (h.snd i x hi),Qp (h.snd i x hi)⟩
abbrev LZ:List UInt8:=[98,97,99,107,117,112]
abbrev Yl:List UInt8:=[100,101,101,100]
theorem bP (s:DS):named (Jj s [LZ,Yl])=true:=by
 have h:=s.C5 (n:=2) AA
 unfold Jj
 have:s.val (([LZ,Yl]:List (List UInt8)).length:Nat)=0∨s.val (([LZ,Yl]:List (List UInt8)).length:Nat)=1:=by show s.val 2=0∨s.val 2=1;omega
 rcases this with h|h<;>rw [h]<;>decide
theorem WV {l:List Um} {y:Um} (h:∀x∈l,Yj x) (hy:Yj y):∀x∈l++[y],Yj x:=by
 intro x hx
 rcases List.mem_append.1 hx with hx|hx
 · exact h x hx
 · simp at hx;subst hx;exact hy
theorem kP {b:Nat} {s:DS}  :Be prog 46 [ptr b 0] (Cp.ex fun e:Da=>fact (N4 e) (agg (CG e))) (DT b s) (fun _=>IP 104 b):=by
 refine Be.of func46 rfl rfl Ao fun M0 w0 S rs M1 w1=> ?_
 have Vg:=s.C5 (n:=2) AA
 have YL:(FX.take (2+s.val 2).toNat).length=(2+s.val 2).toNat:=by rw [List.length_take];show min _ 3=_;omega
 refine Tr.seq (Tr.An ?_)
 refine Tl rfl rfl rfl rfl z31 Ht (fun b1=> ?_)
 refine TO.nil (Fin.go (Tr.seq (Tr.An ?_)))
 refine Tl rfl rfl rfl rfl z31 Ht (fun b2=> ?_)
 refine TO.nil (Fin.go (Tr.seq (Tr.An (tp rfl (AM (xs:=[.const (.string ⟨[97,112,112].toArray⟩),.const (.string ⟨[100,98].toArray⟩),.const (.string ⟨[119,101,98].toArray⟩)]) (rows:=[[_],[_],[_]]) rfl rfl underlying127 MF z9 rfl AB ⟨⟨Am,(Vo rfl)⟩,⟨⟨Am,(Vo rfl)⟩,⟨⟨Am,(Vo rfl)⟩,trivial⟩⟩⟩ AB) ?_))))
 refine tm rfl (TO.IK 2 rfl rfl AB (Aq rfl rfl AB rfl (CX AA AA) ⟨ke rfl,ke rfl,trivial⟩) ?_)
 refine tp rfl (E5 rfl (vl rfl) (vl rfl) ?hin) ?_;case hin=>unfold OK;omega
 refine tp rfl (Dn rfl underlying127 MF (Kf rfl) (vl rfl) AA B9) ?_
 refine tm rfl (TO.nil (Fin.go (Tr.seq (Tr.seq (Tr.Aj (cm rfl (co rfl (CE rfl underlying127 (vl rfl)) (cm rfl (Ch.nil (Fin.go (Tr.block ?_)))))))))))
 refine Tr.re 16 rfl (Pr.le_of_eq (by show slice 1 (List.take _ (FX.map fun t=>[str t]))=_;rw [←List.map_take]):Pr.le _ (dW (FX.take (2+s.val 2).toNat))) ?_
 refine Tr.re 17 rfl (int_eq (by simp;rfl):Pr.le _ (int (((FX.take (2+s.val 2).toNat).length:Nat):Int))) ?_
 refine Tr.HC 0 [Af (.slice none 0 0) (slice 9 (([]:List B7).map Bc)),is (.slice none 0 0),is (.slice none 0 0)] rfl ⟨Bn rfl,Lr,Lr,trivial⟩ (Tr.B5 40 9 (Tr.FR [(0,_),(2,_),(3,_),(4,_),(16,_),(17,_)] ⟨ke rfl,ke rfl,ke rfl,ke rfl,ke rfl,ke rfl,trivial⟩ (fun (k:Nat) (es:List B7) (s2:DS) v=>[(18,int ((k:Nat):Int))]) (fun (k:Nat) (es:List B7) (s2:DS) v=>Hp M0 w0 S (Au 40 9 v::AF true b2 31 [Af v (slice 9 (es.map Bc)),is (.slice none 0 0),is (.slice none 0 0)]::AF true b1 31 (([.slice none 0 0,.slice none 0 0,.slice none 0 0]:List Value).map is)::DT b s2::Ak M1 w1::rs)) (fun (k:Nat) (es:List B7) (s2:DS)=>k≤(2+s.val 2).toNat∧es.length=k∧j8 es) (fun (k:Nat) (es:List B7) (s2:DS)=>(2+s.val 2).toNat-k) (0) ([]) (_) (.slice none 0 0) (⟨by omega,rfl,fun i e h=>by simp at h⟩) ⟨ke rfl,trivial⟩ (fun _ _ h=>h) ?_))
 rintro k es s2 v ⟨hk1,hk2,hk3⟩
 refine Tr.seq (Tr.Aj (co rfl (ki rfl rfl rfl rfl) (Ch.nil (Fin.go (Tr.seq ?_)))))
 refine Tr.cn rfl ?_ ?_<;>intro h1 q1
 have hkn:k<(2+s.val 2).toNat:=by have:=Co.C_ h1;rw [YL] at this;omega
 obtain ⟨nm,hnm⟩:=at_ (l:=FX.take (2+s.val 2).toNat) (k:=k) AA
 have NQ:FX[k]? =some nm:=j9 hnm
 have hso:=j_ (s2.Ca.val 3)
 have AFf:k<3:=BN NQ
 have hvs:=s2.Ca.C5 (n:=3) AA
 have hof:=vS s2
 refine Tr.skip (Fin.go (Tr.seq (Tr.block (Tr.seq (Tr.Aj (cm rfl (co rfl (AD rfl underlying127 MF (vl rfl) (vl rfl) AA (AX hnm)) (co rfl (GX rfl OM rfl) (cm rfl (cm rfl (Ch.nil (Fin.go (Tr.seq (Tr.pad ?_))))))))))))))
 refine Tr.GQ mixed [none,none,none,some (0,4,true,0),none,none,none,none,none,some (0,4,true,0),none,none,none,some (0,4,true,0),none,none,none,some (0,4,true,0),none,some (0,0,true,7),some (7,0,true,7)] BS (xm rfl (xm rfl (xo rfl (fun _=>AM (xs:=[.const (.int .i64 (3)),.const (.int .i64 (3)),.const (.int .i64 (4))]) (rows:=[[_],[_],[_]]) rfl rfl underlying22 CH z3 rfl AB ⟨⟨Am,(Vo rfl)⟩,⟨⟨Am,(Vo rfl)⟩,⟨⟨Am,(Vo rfl)⟩,trivial⟩⟩⟩ AB) ?_)))
 refine Cx.ef 4 rfl rfl AB (Aq rfl rfl AB rfl (WE (l:=[3,3,4]) AV AV) ⟨ke rfl,(Kf rfl),trivial⟩) ?_
 refine xo rfl (fun _=>AM (xs:=[.const (.int .i64 (10)),.const (.int .i64 (8)),.const (.int .i64 (2))]) (rows:=[[_],[_],[_]]) rfl rfl underlying22 CH z3 rfl AB ⟨⟨Am,(Vo rfl)⟩,⟨⟨Am,(Vo rfl)⟩,⟨⟨Am,(Vo rfl)⟩,trivial⟩⟩⟩ AB) ?_
 refine xo rfl (fun _=>AM (xs:=[.const (.int .i64 (8)),.const (.int .i64 (2))]) (rows:=[[_],[_]]) rfl rfl underlying22 CH z3 rfl AB ⟨⟨Am,(Vo rfl)⟩,⟨⟨Am,(Vo rfl)⟩,trivial⟩⟩ AB) ?_
 refine xo rfl (fun _=>AM (xs:=[.const (.int .i64 (2)),.const (.int .i64 (10)),.const (.int .i64 (8)),.const (.int .i64 (3))]) (rows:=[[_],[_],[_],[_]]) rfl rfl underlying22 CH z3 rfl AB ⟨⟨Am,(Vo rfl)⟩,⟨⟨Am,(Vo rfl)⟩,⟨⟨Am,(Vo rfl)⟩,⟨⟨Am,(Vo rfl)⟩,trivial⟩⟩⟩⟩ AB) ?_
 refine xo rfl (fun _=>AM (xs:=[.tmp 27,.tmp 28,.tmp 29]) (rows:=[[_],[_],[_]]) rfl rfl underlying128 NF z22 rfl AB ⟨⟨Am,⟨_,rfl,Pr.le_trans (B0 _ _) (Aa _)⟩⟩,⟨⟨Am,⟨_,rfl,Pr.le_trans (B0 _ _) (Aa _)⟩⟩,⟨⟨Am,⟨_,rfl,Pr.le_trans (B0 _ _) (Aa _)⟩⟩,trivial⟩⟩⟩ AB) ?_
 refine xm rfl (Cx.ef 4 rfl rfl AB (Aq rfl rfl AB rfl (CX AA AA) ⟨ke rfl,ke rfl,trivial⟩) ?_)
 refine xo rfl (fun _=>AD rfl underlying128 NF (Kf rfl) (vl rfl) AA (show (OQ.map fun l=>[ints l])[_]? =_ from qi hvs)) ?_
 refine xo rfl (fun _=>GX rfl Sc rfl) (xm rfl (Cx.ef 4 rfl rfl AB (Aq rfl rfl AB rfl (jo AA AA) ⟨ke rfl,ke rfl,trivial⟩) (xo rfl (fun _=>AM (xs:=[.const (.int .i64 (1))]) (rows:=[[_]]) rfl rfl underlying22 CH z3 rfl AB ⟨⟨Am,(Vo rfl)⟩,trivial⟩ AB) ?_)))
 refine xo rfl (fun _=>AM (xs:=[.const (.int .i64 (2)),.const (.int .i64 (3))]) (rows:=[[_],[_]]) rfl rfl underlying22 CH z3 rfl AB ⟨⟨Am,(Vo rfl)⟩,⟨⟨Am,(Vo rfl)⟩,trivial⟩⟩ AB) ?_
 refine xm rfl (Cx.ef 4 rfl rfl AB (Aq rfl rfl AB rfl (jo AA AA) ⟨ke rfl,ke rfl,trivial⟩) (xo rfl (fun _=>Al (rows:=[(0,[_]),(1,[_]),(2,[_]),(3,[_]),(4,[_]),(6,[_]),(7,[_]),(8,[_])]) rfl om IU ⟨⟨rfl,(Vo rfl)⟩,⟨⟨rfl,(Vo rfl)⟩,⟨⟨rfl,(Vo rfl)⟩,⟨⟨rfl,(Vo rfl)⟩,⟨⟨rfl,(Vo rfl)⟩,⟨⟨rfl,⟨_,rfl,Pr.le_trans (B0 _ _) (Aa _)⟩⟩,⟨⟨rfl,⟨_,rfl,Pr.le_trans (B0 _ _) (Aa _)⟩⟩,⟨⟨rfl,(Vo rfl)⟩,trivial⟩⟩⟩⟩⟩⟩⟩⟩ rfl) (Cx.ef 0 rfl rfl AB (CB rfl rfl AB rfl z40 IU) (Cx.Dr 0 rfl rfl (Cd rfl rfl rfl rfl (Va rfl) CF rfl rfl) ?_))))
 refine Cx.nil ⟨rfl,?_⟩
 refine BH.open_ 0 7 rfl rfl (fun v1=> ?_)
 refine BH.done (Ax.cons (Ax.cons (Ax.cons (Ax.cons (Ax.cons (Ax.cons (Ax.map _))))))) (Fin.LI 7 0 _ rfl rfl (fun _=>rfl) (fun b3=> ?_))
 refine Fin.go (UB 0 2 3 4 5 6 7 16 17 18 rfl (Tr.seq (Tr.seq (Tr.HC 0 [str nm,int 1,int (s2.of [3,3,4]),ints (LU (s2.Ca.val 3)),bool (s2.Ca.Ca.val 2==2-1),is (.slice none 0 0),ints [1],ints [2,3],bool (s2.Ca.Ca.Ca.val 3==3-1)] rfl ⟨Lr,Lr,Lr,Lr,Lr,Lr,Lr,Lr,Lr,trivial⟩ (Tr.Aj (co rfl (Ab rfl YD (vl rfl)) (co rfl (C7 0 rfl (BI rfl DF (vl rfl) rfl)) (co rfl (ki rfl rfl rfl rfl) (Ch.nil (Fin.go ?_))))))))))
 refine Tr.cn rfl ?_ ?_<;>intro h2 q2
 refine Tr.An (tp rfl (AM (xs:=[.const (.int .i64 (14))]) (rows:=[[_]]) rfl rfl underlying22 CH z3 rfl AB ⟨⟨Am,(Vo rfl)⟩,trivial⟩ AB) ?_)
 refine tp rfl (Ab rfl NI (vl rfl)) (TO.rd 0 rfl rfl rfl AB (BI rfl Sc (vl rfl) rfl) (TO.pad ?_))
 refine TO.DZ 0 rfl rfl AB (B4 rfl rfl rfl rfl underlying22 CH IQ z3 (Kf rfl) (vl rfl) (Br BJ (vl rfl))) (fun v2=> ?_)
 refine tp rfl (Ab rfl NI (vl rfl)) (TO.Dr 1 rfl rfl (A_ rfl rfl (vl rfl) (Vo rfl) NF rfl Ao rfl) (TO.nil (Fin.go (UB 0 2 3 4 5 6 7 16 17 18 rfl (Tr.seq (Tr.An (tm rfl (tp rfl (AR rfl (tW) trivial) (tm rfl ?_)))))))))
 refine tp rfl (E5 rfl (vl rfl) (vl rfl) ?hin) ?_;case hin=>unfold OK;omega
 refine tp rfl (AR rfl (YZ (name:=nm) (a:=5) (b:=2048) (id:=100+(k:Nat)) (to:=901) (key:=1) (Uj NQ AA AA) (So AA) AA) ⟨ke rfl,ke rfl,ke rfl,ke rfl,ke rfl,trivial⟩) ?_
 refine TO.ex 54 rfl (fun gK=>TO.fact 54 rfl fun vg=> ?_)
 refine tp rfl (AM (xs:=[.tmp 54]) (rows:=[_]) rfl rfl underlying38 E6 VP rfl AB ⟨⟨Am,(Va rfl)⟩,trivial⟩ AB) ?_
 refine tp rfl (Ab rfl QM (vl rfl)) (TO.Dr 1 rfl rfl (A_ rfl rfl (vl rfl) (Vo rfl) jA rfl Ao rfl) (TO.nil (Fin.go (wk8 0 2 3 4 7 16 17 18 rfl (Tr.An (tp rfl (Ab rfl GS (vl rfl)) (TO.rd 3 rfl rfl rfl AB (BI rfl MG (vl rfl) rfl) (TO.rd 1 rfl rfl rfl AB (CM rfl Cj CF (vl rfl) rfl rfl) (tp rfl (AM (xs:=[.tmp 59]) (rows:=[Bc (⟨nm,1,s2.of [3,3,4],14::LU (s2.Ca.val 3),(s2.Ca.Ca.val 2==2-1),[HP nm 5 2048 (100+(k:Nat)) 901 1 gK],[1],[2,3],(s2.Ca.Ca.Ca.val 3==3-1)⟩:B7)]) rfl rfl underlying27 CF z40 rfl AB ⟨⟨Am,VL.le (vl rfl) (Pr.le_trans (BR (qs:=Bc (⟨nm,1,s2.of [3,3,4],14::LU (s2.Ca.val 3),(s2.Ca.Ca.val 2==2-1),[HP nm 5 2048 (100+(k:Nat)) 901 1 gK],[1],[2,3],(s2.Ca.Ca.Ca.val 3==3-1)⟩:B7)) ⟨Lr,Lr,Lr,Pr.le_trans (At _ _) (Pr.le_of_eq rfl),Lr,B0 _ _,Lr,Lr,Lr,trivial⟩) (Ac _))⟩,trivial⟩ AB) ?_)))))))))
 refine TO.DZ 2 rfl rfl AB (B4 rfl rfl rfl rfl underlying27 CF uV z40 (Kb rfl) (Kf rfl) (Az BJ (Ka rfl))) (fun v3=> ?_)
 refine tp rfl (Ab rfl GS (vl rfl)) (TO.Dr 3 rfl rfl (A_ rfl rfl (vl rfl) (Vo rfl) uS rfl Ao rfl) (TO.nil (Fin.block (Fin.go (Tr.drop 1 (nU 0 2 3 4 16 17 18 rfl (Tr.Aj (LH rfl rfl rfl rfl AA (cm rfl (Ch.nil ?_))))))))))
 refine Fin.HC 2 [Af v3 (slice 9 ((es++[(⟨nm,1,s2.of [3,3,4],14::LU (s2.Ca.val 3),(s2.Ca.Ca.val 2==2-1),[HP nm 5 2048 (100+(k:Nat)) 901 1 gK],[1],[2,3],(s2.Ca.Ca.Ca.val 3==3-1)⟩:B7)]).map Bc)),is (.slice none 0 0),is (.slice none 0 0)] rfl ⟨BA DB,Lr,Lr,trivial⟩ ?_
 refine Fin.drop 0 ?_
 exact Fin.EC (k+1) (es++[(⟨nm,1,s2.of [3,3,4],14::LU (s2.Ca.val 3),(s2.Ca.Ca.val 2==2-1),[HP nm 5 2048 (100+(k:Nat)) 901 1 gK],[1],[2,3],(s2.Ca.Ca.Ca.val 3==3-1)⟩:B7)]) (_) v3 (⟨⟨by omega,by rw [List.length_append,hk2];rfl,WN hk3 ⟨by rw [hk2];exact NQ,rfl,hof,.inr ⟨_,WM hvs,rfl⟩,⟨gK,vg,by rw [hk2]⟩,rfl,rfl⟩⟩,by omega⟩) ⟨⟨_,rfl,AG k⟩,ke rfl,ke rfl,ke rfl,ke rfl,ke rfl,ke rfl,trivial⟩ (fun _ _ h=>h)
 refine Tr.skip (Fin.go (Tr.seq (Tr.An (tm rfl (tp rfl (AR rfl (tW) trivial) (tm rfl ?_))))))
 refine tp rfl (E5 rfl (vl rfl) (vl rfl) ?hin) ?_;case hin=>unfold OK;omega
 refine tp rfl (AR rfl (YZ (name:=nm) (a:=5) (b:=2048) (id:=100+(k:Nat)) (to:=901) (key:=1) (Uj NQ AA AA) (So AA) AA) ⟨ke rfl,ke rfl,ke rfl,ke rfl,ke rfl,trivial⟩) ?_
 refine TO.ex 54 rfl (fun gK=>TO.fact 54 rfl fun vg=> ?_)
 refine tp rfl (AM (xs:=[.tmp 54]) (rows:=[_]) rfl rfl underlying38 E6 VP rfl AB ⟨⟨Am,(Va rfl)⟩,trivial⟩ AB) ?_
 refine tp rfl (Ab rfl QM (vl rfl)) (TO.Dr 0 rfl rfl (A_ rfl rfl (vl rfl) (Vo rfl) jA rfl Ao rfl) (TO.nil (Fin.go (wk8 0 2 3 4 7 16 17 18 rfl (Tr.An (tp rfl (Ab rfl GS (vl rfl)) (TO.rd 2 rfl rfl rfl AB (BI rfl MG (vl rfl) rfl) (TO.rd 0 rfl rfl rfl AB (CM rfl Cj CF (vl rfl) rfl rfl) (tp rfl (AM (xs:=[.tmp 59]) (rows:=[Bc (⟨nm,1,s2.of [3,3,4],LU (s2.Ca.val 3),(s2.Ca.Ca.val 2==2-1),[HP nm 5 2048 (100+(k:Nat)) 901 1 gK],[1],[2,3],(s2.Ca.Ca.Ca.val 3==3-1)⟩:B7)]) rfl rfl underlying27 CF z40 rfl AB ⟨⟨Am,VL.le (vl rfl) (Pr.le_trans (BR (qs:=Bc (⟨nm,1,s2.of [3,3,4],LU (s2.Ca.val 3),(s2.Ca.Ca.val 2==2-1),[HP nm 5 2048 (100+(k:Nat)) 901 1 gK],[1],[2,3],(s2.Ca.Ca.Ca.val 3==3-1)⟩:B7)) ⟨Lr,Lr,Lr,Lr,Lr,B0 _ _,Lr,Lr,Lr,trivial⟩) (Ac _))⟩,trivial⟩ AB) ?_)))))))))
 refine TO.DZ 1 rfl rfl AB (B4 rfl rfl rfl rfl underlying27 CF uV z40 (Kb rfl) (Kf rfl) (Az BJ (Ka rfl))) (fun v4=> ?_)
 refine tp rfl (Ab rfl GS (vl rfl)) (TO.Dr 2 rfl rfl (A_ rfl rfl (vl rfl) (Vo rfl) uS rfl Ao rfl) (TO.nil (Fin.block (Fin.go (Tr.drop 0 (nU 0 2 3 4 16 17 18 rfl (Tr.Aj (LH rfl rfl rfl rfl AA (cm rfl (Ch.nil ?_))))))))))
 refine Fin.HC 1 [Af v4 (slice 9 ((es++[(⟨nm,1,s2.of [3,3,4],LU (s2.Ca.val 3),(s2.Ca.Ca.val 2==2-1),[HP nm 5 2048 (100+(k:Nat)) 901 1 gK],[1],[2,3],(s2.Ca.Ca.Ca.val 3==3-1)⟩:B7)]).map Bc)),is (.slice none 0 0),is (.slice none 0 0)] rfl ⟨BA DB,Lr,Lr,trivial⟩ ?_
 exact Fin.EC (k+1) (es++[(⟨nm,1,s2.of [3,3,4],LU (s2.Ca.val 3),(s2.Ca.Ca.val 2==2-1),[HP nm 5 2048 (100+(k:Nat)) 901 1 gK],[1],[2,3],(s2.Ca.Ca.Ca.val 3==3-1)⟩:B7)]) (_) v4 (⟨⟨by omega,by rw [List.length_append,hk2];rfl,WN hk3 ⟨by rw [hk2];exact NQ,rfl,hof,.inl (WM hvs),⟨gK,vg,by rw [hk2]⟩,rfl,rfl⟩⟩,by omega⟩) ⟨⟨_,rfl,AG k⟩,ke rfl,ke rfl,ke rfl,ke rfl,ke rfl,ke rfl,trivial⟩ (fun _ _ h=>h)
 have cv:k=(2+s.val 2).toNat:=by have:=Co.C_ h1;rw [YL] at this;omega
 refine Tr.exit (Fin.Ag (Fin.Ag (Fin.BD (Fin.go (Tr.seq (Tr.seq (Tr.HC 1 [slice 9 (es.map Bc),is (.slice none 0 0),is (.slice none 0 0)] rfl ⟨At _ _,Lr,Lr,trivial⟩ (Tr.drop 0 (Tr.Aj (cm rfl (co rfl (CE rfl underlying127 (vl rfl)) (cm rfl (Ch.nil (Fin.go ?_))))))))))))))
 refine Tr.block ?_
 refine Tr.re 65 rfl (int_eq (by simp;rfl):Pr.le _ (int (((FX.take (2+s.val 2).toNat).length:Nat):Int))) ?_
 refine Tr.HC 0 [slice 9 (es.map Bc),Af (.slice none 0 0) (Hy []),is (.slice none 0 0)] rfl ⟨Lr,Bn rfl,Lr,trivial⟩ (Tr.B5 132 2 (Tr.FR [(0,_),(2,_),(3,_),(4,_),(65,_)] ⟨ke rfl,ke rfl,ke rfl,ke rfl,ke rfl,trivial⟩ (fun (i:Nat) (gs:List IA) (s3:DS) w=>[(66,int ((i:Nat):Int))]) (fun (i:Nat) (gs:List IA) (s3:DS) w=>Hp M0 w0 S (Au 132 2 w::AF true b2 31 [slice 9 (es.map Bc),Af w (Hy gs),is (.slice none 0 0)]::AF true b1 31 (([.slice none 0 0,.slice none 0 0,.slice none 0 0]:List Value).map is)::DT b s3::Ak M1 w1::rs)) (fun (i:Nat) (gs:List IA) (s3:DS)=>i≤(2+s.val 2).toNat∧gs.length≤3∧Yk (2+s.val 2).toNat i 0 gs) (fun (i:Nat) (gs:List IA) (s3:DS)=>(2+s.val 2).toNat-i) (0) ([]) (_) (.slice none 0 0) (⟨by omega,by simp,Yk.nil _ _ _⟩) ⟨ke rfl,trivial⟩ (fun _ _ h=>h) ?_))
 rintro i gs s3 w ⟨hi1,hi2,hi3⟩
 refine Tr.seq (Tr.Aj (co rfl (ki rfl rfl rfl rfl) (Ch.nil (Fin.go (Tr.seq ?_)))))
 refine Tr.cn rfl ?_ ?_<;>intro h3 q3
 have hin:i<(2+s.val 2).toNat:=by have:=Co.C_ h3;rw [YL] at this;omega
 refine Tr.skip (Fin.go (Tr.seq (Tr.block (Tr.seq (Tr.Aj (cm rfl (cm rfl (Ch.nil (Fin.go (Tr.seq (Tr.Aj (cm rfl (co rfl (CE rfl underlying127 (vl rfl)) ?_)))))))))))))
 refine cm rfl (Ch.nil (Fin.go (Tr.block ?_)))
 refine Tr.re 70 rfl (int_eq (by simp;rfl):Pr.le _ (int (((FX.take (2+s.val 2).toNat).length:Nat):Int))) ?_
 refine Tr.FR [(0,_),(2,_),(3,_),(4,_),(8,_),(65,_),(66,_),(70,_)] ⟨ke rfl,ke rfl,ke rfl,ke rfl,ke rfl,ke rfl,ke rfl,ke rfl,trivial⟩ (fun (j:Nat) (eP:List IA) (s4:DS) u=>[(71,int ((j:Nat):Int))]) (fun (j:Nat) (eP:List IA) (s4:DS) u=>Hp M0 w0 S (Au 132 2 u::AF true b2 31 [slice 9 (es.map Bc),Af u (Hy eP),is (.slice none 0 0)]::AF true b1 31 (([.slice none 0 0,.slice none 0 0,.slice none 0 0]:List Value).map is)::DT b s4::Ak M1 w1::rs)) (fun (j:Nat) (eP:List IA) (s4:DS)=>j≤(2+s.val 2).toNat∧eP.length≤3∧Yk (2+s.val 2).toNat i j eP) (fun (j:Nat) (eP:List IA) (s4:DS)=>(2+s.val 2).toNat-j) (0) (gs) (_) w (⟨by omega,hi2,hi3⟩) ⟨ke rfl,trivial⟩ (fun _ _ h=>h) ?_
 rintro j eP s4 u ⟨hj1,hj2,hj3⟩
 refine Tr.seq (Tr.Aj (co rfl (ki rfl rfl rfl rfl) (Ch.nil (Fin.go (Tr.seq ?_)))))
 refine Tr.cn rfl ?_ ?_<;>intro h4 q4
 have hjn:j<(2+s.val 2).toNat:=by have:=Co.C_ h4;rw [YL] at this;omega
 refine Tr.skip (Fin.go (Tr.seq (Tr.block (Tr.seq (Tr.Aj (cm rfl (cm rfl (Ch.nil (Fin.go (Tr.seq (Tr.An (tm rfl (tm rfl ?_)))))))))))))
 refine tp rfl (ki rfl rfl rfl rfl) (tm rfl ?_)
 refine TO.cases 77 rfl (fun h5=> ?_) (fun h5=> ?_)
 have q5:=Co.C_ h5
 refine TO.FG rfl rfl rfl h5 rfl AB (BK rfl (vl rfl)) (TO.jX 3 rfl rfl rfl h5 rfl rfl AB (Aq rfl rfl AB rfl (CX AA AA) ⟨ke rfl,ke rfl,trivial⟩) (TO.FG rfl rfl rfl h5 rfl AB (ki rfl rfl rfl rfl) (tp rfl (KH rfl rfl h5 rfl) (tm rfl ?_))))
 refine TO.cases 82 rfl (fun h6=> ?_) (fun h6=> ?_)
 have q6:=Co.C_ h6
 refine TO.FG rfl rfl rfl h6 rfl AB (Ab rfl NG (vl rfl)) (TO.FG rfl rfl rfl h6 rfl AB (C7 1 rfl (BI rfl aV (vl rfl) rfl)) (TO.FG rfl rfl rfl h6 rfl AB (CW rfl underlying28 (Kb rfl)) (TO.FG rfl rfl rfl h6 rfl AB (ki rfl rfl rfl rfl) (tp rfl (KH rfl rfl h6 rfl) (TO.nil (Fin.go (JG 0 2 3 4 8 9 65 66 70 71 87 rfl ?_)))))))
 refine Tr.cn rfl ?_ ?_<;>intro h7 q7
 refine Tr.An (tp rfl (Ab rfl NG (vl rfl)) (TO.rd 1 rfl rfl rfl AB (BI rfl aV (vl rfl) rfl) (tm rfl (tm rfl (tp rfl (Al (rows:=[(0,[_]),(1,[_])]) rfl s_ Vy ⟨⟨rfl,(Vo rfl)⟩,⟨⟨rfl,(Vo rfl)⟩,trivial⟩⟩ rfl) (tp rfl (AM (xs:=[.tmp 92]) (rows:=[_]) rfl rfl underlying28 Eh YK rfl AB ⟨⟨Am,(Va rfl)⟩,trivial⟩ AB) ?_))))))
 refine TO.DZ 0 rfl rfl AB (B4 rfl rfl rfl rfl underlying28 Eh s8 YK (Kb rfl) (Kf rfl) (Az BJ (Ka rfl))) (fun v5=> ?_)
 refine tp rfl (Ab rfl NG (vl rfl)) (TO.Dr 1 rfl rfl (A_ rfl rfl (vl rfl) (Vo rfl) yj rfl Ao rfl) (TO.nil (Fin.block (Fin.go (oQ 0 2 3 4 8 65 66 70 71 rfl (Tr.Aj (LH rfl rfl rfl rfl AA (cm rfl (Ch.nil ?_)))))))))
 refine Fin.HC 1 [slice 9 (es.map Bc),Af v5 (Hy (eP++[(⟨((i:Nat):Int),((j:Nat):Int)⟩:IA)])),is (.slice none 0 0)] rfl ⟨Lr,BA DB,Lr,trivial⟩ ?_
 exact Fin.EC (j+1) (eP++[(⟨((i:Nat):Int),((j:Nat):Int)⟩:IA)]) (_) v5 (⟨⟨by omega,by simp;omega,hj3.snoc ⟨by omega,by omega⟩ ⟨by omega,by omega⟩ AA⟩,by omega⟩) ⟨⟨_,rfl,AG j⟩,ke rfl,ke rfl,ke rfl,ke rfl,ke rfl,ke rfl,ke rfl,ke rfl,trivial⟩ (fun _ _ h=>h)
 refine Tr.skip (Fin.block (Fin.go (Tr.Aj (LH rfl rfl rfl rfl AA (cm rfl (Ch.nil (Fin.EC (j+1) (eP) (_) u (⟨⟨by omega,hj2,hj3.step⟩,by omega⟩) ⟨⟨_,rfl,AG j⟩,ke rfl,ke rfl,ke rfl,ke rfl,ke rfl,ke rfl,ke rfl,ke rfl,trivial⟩ (fun _ _ h=>h))))))))
 have q6:=Co.C_ h6
 iterate 4 refine TO.UU rfl rfl rfl (Ba h6) rfl AB ?_
 refine tp rfl (Ou rfl rfl h6 rfl) (TO.nil (Fin.go (JG 0 2 3 4 8 9 65 66 70 71 87 rfl (Tr.cond rfl (fun h=>nomatch h) (fun _=> ?_)))))
 refine Tr.skip (Fin.block (Fin.go (Tr.Aj (LH rfl rfl rfl rfl AA (cm rfl (Ch.nil (Fin.EC (j+1) (eP) (_) u (⟨⟨by omega,hj2,hj3.step⟩,by omega⟩) ⟨⟨_,rfl,AG j⟩,ke rfl,ke rfl,ke rfl,ke rfl,ke rfl,ke rfl,ke rfl,ke rfl,trivial⟩ (fun _ _ h=>h))))))))
 have q5:=Co.C_ h5
 refine TO.UU rfl rfl rfl (Ba h5) rfl AB (TO.UU rfl rfl rfl (Ba h5) rfl AB (TO.UU rfl rfl rfl (Ba h5) rfl AB (tp rfl (Ou rfl rfl h5 rfl) (tm rfl ?_))))
 iterate 4 refine TO.UU rfl rfl rfl (Ba rfl) rfl AB ?_
 refine tp rfl (Ou rfl rfl rfl rfl) (TO.nil (Fin.go (JG 0 2 3 4 8 9 65 66 70 71 87 rfl (Tr.cond rfl (fun h=>nomatch h) (fun _=> ?_)))))
 refine Tr.skip (Fin.block (Fin.go (Tr.Aj (LH rfl rfl rfl rfl AA (cm rfl (Ch.nil (Fin.EC (j+1) (eP) (_) u (⟨⟨by omega,hj2,hj3.step⟩,by omega⟩) ⟨⟨_,rfl,AG j⟩,ke rfl,ke rfl,ke rfl,ke rfl,ke rfl,ke rfl,ke rfl,ke rfl,trivial⟩ (fun _ _ h=>h))))))))
 have hje:j=(2+s.val 2).toNat:=by have:=Co.C_ h4;rw [YL] at this;omega
 refine Tr.exit (Fin.Ag (Fin.Ag (Fin.BD (Fin.block (Fin.go (Tr.Aj (LH rfl rfl rfl rfl AA (cm rfl (Ch.nil (Fin.EC (i+1) (eP) (_) u (⟨⟨by omega,hj2,hj3.row⟩,by omega⟩) ⟨⟨_,rfl,AG i⟩,ke rfl,ke rfl,ke rfl,ke rfl,ke rfl,trivial⟩ (fun _ _ h=>h)))))))))))
 have hie:i=(2+s.val 2).toNat:=by have:=Co.C_ h3;rw [YL] at this;omega
 refine Tr.exit (Fin.Ag (Fin.Ag (Fin.BD (Fin.go (Tr.seq (Tr.seq (Tr.Aj (co rfl (Ab rfl NG (vl rfl)) (co rfl (C7 1 rfl (BI rfl aV (vl rfl) rfl)) (co rfl (CW rfl underlying28 (Kb rfl)) (co rfl (ki rfl rfl rfl rfl) (Ch.nil (Fin.go ?_)))))))))))))
 refine Tr.cn rfl ?_ ?_<;>intro h8 q8
 refine Tr.An (tp rfl (Al (rows:=[(0,[_]),(1,[_])]) rfl s_ Vy ⟨⟨rfl,(Vo rfl)⟩,⟨⟨rfl,(Vo rfl)⟩,trivial⟩⟩ rfl) (tp rfl (AM (xs:=[.tmp 102]) (rows:=[_]) rfl rfl underlying28 Eh YK rfl AB ⟨⟨Am,(Va rfl)⟩,trivial⟩ AB) ?_))
 refine tp rfl (Ab rfl NG (vl rfl)) (TO.Dr 1 rfl rfl (A_ rfl rfl (vl rfl) (Vo rfl) yj rfl Ao rfl) (TO.nil (Fin.go (GF 0 2 3 rfl (Tr.seq (Tr.seq ?_))))))
 have hv9:=s3.C5 (n:=3) AA
 obtain ⟨gH,hge,yM,yN,yO⟩:∃l:List IA,l=[⟨0,1⟩]∧(∀k,k<l.length→Ea (2+s.val 2).toNat l k=true)∧1≤l.length∧l.length≤3:=⟨_,rfl,((Yk.nil (2+s.val 2).toNat 0 1).snoc ⟨by omega,by omega⟩ ⟨by omega,by omega⟩ AA).at_,by simp,by simp⟩
 refine Tr.HC 1 [slice 9 (es.map Bc),Hy gH,is (.slice none 0 0)] rfl ⟨Lr,Pr.le_trans (B0 _ _) (Pr.le_of_eq (by rw [hge];rfl)),Lr,trivial⟩ ?_
 refine Tr.drop 0 (Tr.An (tm rfl (TO.IK 2 rfl rfl AB (Aq rfl rfl AB rfl (CX AA AA) ⟨ke rfl,ke rfl,trivial⟩) (tm rfl (TO.nil (Fin.go (Tr.block (Tr.HC 0 [slice 9 (es.map Bc),Hy gH,Af (.slice none 0 0) (Qq [])] rfl ⟨Lr,Lr,Bn rfl,trivial⟩ (Tr.B5 135 5 ?_)))))))))
 refine Tr.FR [(0,_),(2,_),(3,_)] ⟨ke rfl,ke rfl,ke rfl,trivial⟩ (fun (q:Int) (its:List Um) (s5:DS) x=>[(10,int q)]) (fun (q:Int) (its:List Um) (s5:DS) x=>Hp M0 w0 S (Au 135 5 x::AF true b2 31 [slice 9 (es.map Bc),Hy gH,Af x (Qq its)]::AF true b1 31 (([.slice none 0 0,.slice none 0 0,.slice none 0 0]:List Value).map is)::DT b s5::Ak M1 w1::rs)) (fun (q:Int) (its:List Um) (s5:DS)=>0≤q∧q+its.length≤2∧∀x∈its,Yj x) (fun (q:Int) (its:List Um) (s5:DS)=>q.toNat) (_) ([]) (_) (.slice none 0 0) (⟨by omega,by simp;omega,fun x h=>by simp at h⟩) ⟨ke rfl,trivial⟩ (fun _ _ h=>h) ?_
 rintro q its s5 x ⟨hq1,dD,hqi⟩
 refine Tr.seq (Tr.seq (Tr.Aj (cm rfl (co rfl (ki rfl rfl rfl rfl) (Ch.nil (Fin.go ?_))))))
 refine Tr.cn rfl ?_ ?_<;>intro h9 q9
 have hq3:0<q:=of_decide_eq_true h9
 refine Tr.skip (Fin.go (Tr.seq (Tr.block (Tr.pad (Tr.GQ mixed [none,some (0,2,false,0),none,none,none,some (0,4,true,0),some (0,4,true,0),none,some (0,1,true,119),none,some (0,2,true,119)] BS (xo rfl (fun _=>Ab rfl NH (vl rfl)) (JP 2 rfl rfl (BI rfl i_ (vl rfl) rfl) (xm rfl (xm rfl (xo rfl (fun _=>AM (xs:=[.const (.string ⟨[98,97,99,107,117,112].toArray⟩),.const (.string ⟨[100,101,101,100].toArray⟩)]) (rows:=[[_],[_]]) rfl rfl underlying127 MF z9 rfl AB ⟨⟨Am,(Vo rfl)⟩,⟨⟨Am,(Vo rfl)⟩,trivial⟩⟩ AB) ?_))))))))))
 refine Cx.ef 4 rfl rfl AB (Aq rfl rfl AB rfl (WL (l:=[[98,97,99,107,117,112],[100,101,101,100]]) AV AV) ⟨ke rfl,(Kf rfl),trivial⟩) ?_
 refine Cx.ef 4 rfl rfl AB (Aq rfl rfl AB rfl (bO) ⟨ke rfl,ke rfl,trivial⟩) (xo rfl (fun _=>AM (xs:=[.tmp 117]) (rows:=[_]) rfl rfl underlying29 HM UI rfl AB ⟨⟨Am,(Va rfl)⟩,trivial⟩ AB) ?_)
 refine Cx.ef 1 rfl rfl AB (B4 rfl rfl rfl rfl underlying29 HM jG UI (Kb rfl) (Kf rfl) (Az BJ (Ka rfl))) ?_
 refine xo rfl (fun _=>Ab rfl NH (vl rfl)) (Cx.Dr 2 rfl rfl (Ft rfl rfl rfl (vl rfl) rfl uT Ao) ?_)
 refine Cx.nil ⟨rfl,?_⟩
 refine BH.QL 1 2 119 rfl rfl AB rfl (fun v6=> ?_)
 refine BH.done (Ax.cons (Ax.cons (Ax.cons (Ax.cons (Ax.cons (Ax.cons (Ax.map _))))))) (Fin.block (Fin.go (Tr.drop 0 (UA 0 2 3 10 rfl (Tr.Aj (cm rfl (csu rfl rfl rfl rfl AA (cm rfl (Ch.nil ?_)))))))))
 refine Fin.HC 1 [slice 9 (es.map Bc),Hy gH,Af v6 (Qq (its++[(Ss s5.Ca (Jj s5 [LZ,Yl]))]))] rfl ⟨Lr,Lr,BA DB,trivial⟩ ?_
 exact Fin.EC (q-1) (its++[(Ss s5.Ca (Jj s5 [LZ,Yl]))]) (_) v6 (⟨⟨by omega,by simp;omega,WV hqi (bN (bP s5))⟩,by omega⟩) ⟨⟨_,rfl,int_eq AA⟩,ke rfl,ke rfl,ke rfl,trivial⟩ (fun _ _ h=>h)
 have hq3:¬0<q:=of_decide_eq_false h9
 refine Tr.exit (Fin.Ag (Fin.Ag (Fin.BD (Fin.go (Tr.seq (Tr.An (TO.rd 1 rfl rfl rfl AB (CM rfl DR DP (vl rfl) rfl rfl) (TO.AK 2 rfl rfl rfl (vl rfl) (Va rfl) rfl DP rfl rfl (TO.nil (Fin.go (Tr.ret (Fin.Gv 3 _ rfl rfl (Fin.GG [_,_,_] rfl (AO.cell 2 rfl rfl DR DP rfl (Lr)) ?_ (fun _ _ _ _=>rfl))))))))))))))
 · exact gl
 refine Tr.skip (Fin.go (Tr.seq (Tr.seq ?_)))
 have hv9:=s3.C5 (n:=3) AA
 obtain ⟨gH,hge,yM,yN,yO⟩:∃l:List IA,l=gs∧(∀k,k<l.length→Ea (2+s.val 2).toNat l k=true)∧1≤l.length∧l.length≤3:=⟨_,rfl,hi3.at_,by have h_:=h8;simp at h_;exact List.length_pos_iff.2 h_,hi2⟩
 refine Tr.HC 1 [slice 9 (es.map Bc),Hy gH,is (.slice none 0 0)] rfl ⟨Lr,Pr.le_trans (At _ _) (Pr.le_of_eq (by rw [hge])),Lr,trivial⟩ (Tr.drop 0 (Tr.An (tm rfl (TO.IK 2 rfl rfl AB (Aq rfl rfl AB rfl (CX AA AA) ⟨ke rfl,ke rfl,trivial⟩) (tm rfl (TO.nil (Fin.go (UA 0 2 3 10 rfl (Tr.block (Tr.HC 0 [slice 9 (es.map Bc),Hy gH,Af (.slice none 0 0) (Qq [])] rfl ⟨Lr,Lr,Bn rfl,trivial⟩ (Tr.B5 135 5 ?_)))))))))))
 refine Tr.FR [(0,_),(2,_),(3,_)] ⟨ke rfl,ke rfl,ke rfl,trivial⟩ (fun (q:Int) (its:List Um) (s5:DS) x=>[(10,int q)]) (fun (q:Int) (its:List Um) (s5:DS) x=>Hp M0 w0 S (Au 135 5 x::AF true b2 31 [slice 9 (es.map Bc),Hy gH,Af x (Qq its)]::AF true b1 31 (([.slice none 0 0,.slice none 0 0,.slice none 0 0]:List Value).map is)::DT b s5::Ak M1 w1::rs)) (fun (q:Int) (its:List Um) (s5:DS)=>0≤q∧q+its.length≤2∧∀x∈its,Yj x) (fun (q:Int) (its:List Um) (s5:DS)=>q.toNat) (_) ([]) (_) (.slice none 0 0) (⟨by omega,by simp;omega,fun x h=>by simp at h⟩) ⟨ke rfl,trivial⟩ (fun _ _ h=>h) ?_
 rintro q its s5 x ⟨hq1,dD,hqi⟩
 refine Tr.seq (Tr.seq (Tr.Aj (cm rfl (co rfl (ki rfl rfl rfl rfl) (Ch.nil (Fin.go ?_))))))
 refine Tr.cn rfl ?_ ?_<;>intro h10 PC
 have hq3:0<q:=of_decide_eq_true h10
 refine Tr.skip (Fin.go (Tr.seq (Tr.block (Tr.pad (Tr.GQ mixed [none,some (0,2,false,0),none,none,none,some (0,4,true,0),some (0,4,true,0),none,some (0,1,true,119),none,some (0,2,true,119)] BS (xo rfl (fun _=>Ab rfl NH (vl rfl)) (JP 2 rfl rfl (BI rfl i_ (vl rfl) rfl) (xm rfl (xm rfl (xo rfl (fun _=>AM (xs:=[.const (.string ⟨[98,97,99,107,117,112].toArray⟩),.const (.string ⟨[100,101,101,100].toArray⟩)]) (rows:=[[_],[_]]) rfl rfl underlying127 MF z9 rfl AB ⟨⟨Am,(Vo rfl)⟩,⟨⟨Am,(Vo rfl)⟩,trivial⟩⟩ AB) ?_))))))))))
 refine Cx.ef 4 rfl rfl AB (Aq rfl rfl AB rfl (WL (l:=[[98,97,99,107,117,112],[100,101,101,100]]) AV AV) ⟨ke rfl,(Kf rfl),trivial⟩) ?_
 refine Cx.ef 4 rfl rfl AB (Aq rfl rfl AB rfl (bO) ⟨ke rfl,ke rfl,trivial⟩) (xo rfl (fun _=>AM (xs:=[.tmp 117]) (rows:=[_]) rfl rfl underlying29 HM UI rfl AB ⟨⟨Am,(Va rfl)⟩,trivial⟩ AB) ?_)
 refine Cx.ef 1 rfl rfl AB (B4 rfl rfl rfl rfl underlying29 HM jG UI (Kb rfl) (Kf rfl) (Az BJ (Ka rfl))) ?_
 refine xo rfl (fun _=>Ab rfl NH (vl rfl)) (Cx.Dr 2 rfl rfl (Ft rfl rfl rfl (vl rfl) rfl uT Ao) ?_)
 refine Cx.nil ⟨rfl,?_⟩
 refine BH.QL 1 2 119 rfl rfl AB rfl (fun v7=> ?_)
 refine BH.done (Ax.cons (Ax.cons (Ax.cons (Ax.cons (Ax.cons (Ax.cons (Ax.map _))))))) (Fin.block (Fin.go (Tr.drop 0 (UA 0 2 3 10 rfl (Tr.Aj (cm rfl (csu rfl rfl rfl rfl AA (cm rfl (Ch.nil ?_)))))))))
 refine Fin.HC 1 [slice 9 (es.map Bc),Hy gH,Af v7 (Qq (its++[(Ss s5.Ca (Jj s5 [LZ,Yl]))]))] rfl ⟨Lr,Lr,BA DB,trivial⟩ ?_
 exact Fin.EC (q-1) (its++[(Ss s5.Ca (Jj s5 [LZ,Yl]))]) (_) v7 (⟨⟨by omega,by simp;omega,WV hqi (bN (bP s5))⟩,by omega⟩) ⟨⟨_,rfl,int_eq AA⟩,ke rfl,ke rfl,ke rfl,trivial⟩ (fun _ _ h=>h)
 have hq3:¬0<q:=of_decide_eq_false h10
 refine Tr.exit (Fin.Ag (Fin.Ag (Fin.BD (Fin.go (Tr.seq (Tr.An (TO.rd 1 rfl rfl rfl AB (CM rfl DR DP (vl rfl) rfl rfl) (TO.AK 2 rfl rfl rfl (vl rfl) (Va rfl) rfl DP rfl rfl (TO.nil (Fin.go (Tr.ret (Fin.Gv 3 _ rfl rfl (Fin.GG [_,_,_] rfl (AO.cell 2 rfl rfl DR DP rfl (Lr)) ?_ (fun _ _ _ _=>rfl))))))))))))))
 · exact gl
end Go.Proofs.YtmocaapoeefgkaaGreatDoor
namespace Cp
open Go Go.RowKit
theorem Ij {P:Program} {E:Env} {I:Cb} {o:Oper} {t e:TypeId} {y:Operand} {sz bytes:Nat} {zs:List Value} {rows:List (List Pr)} (ho:o.op= .call { callee:= .builtin .append,args:= #[.const (.slice none 0 0),y],argTypes:= #[t,t] })
  (ht:P.underlying t=some (.slice e)) (hz:A9 P e=some sz) (hby:Bu P e=some bytes) (E_:BX P e=some zs) (hzl:zs.length=sz) (hsz:0<sz) (hy:VL E y (slice sz rows)) (Gp:rows.length≤maxLen) (hfit:rows.length*bytes≤140737488355328):Ad P I o E (slice sz rows):=
 Ad.val fun M w a he hI=>by
  have h0:=(A7.begin (I.bd _ _ hI)).JE (r:=Bq) rfl trivial
  obtain ⟨v',w',M',h1,h2,h3,h4⟩:=Vf (ty:=o.type) (j:=0) (v:= .slice none 0 0) (rows:=[]) ht hz hby E_ hzl hsz h0 rfl (.inr ⟨rfl,rfl⟩) (AQ sz M w _ rfl) (hy.ev he DV) Oo On
  have h5:a.eval (.const (.slice none 0 0))= .slice none 0 0:=rfl
  exact ⟨v',w',by simp [execOp,ho,resolve,invoke,builtin,h1,h5],(slice sz rows).st _ _ _ _ _ (Ext.less h4.m) (by simpa using h2),h4.below⟩
theorem TO.Sa {P:Program} {n:Fm} {E:Env} {M0:Av} {w0:World} {S:Nat→Prop} {rs:List As} {ops:Array Oper} {r:List Oper} {Q:Exit→Act→World→Prop} (i:Nat) {T:TypeId} {b:Nat} (hi:rs[i]? =some (IP T b)) (k:∀s,TO P n ops r E (Hp M0 w0 S (rs.set i (Vq T b s))) Q):TO P n ops r E (Hp M0 w0 S rs) Q:=by
 rintro m hl a w ⟨M,h1,h2,h3,h4⟩
 have h4:A7 M0 w0 S rs M w:=h4
 obtain ⟨x,hx,hh⟩:=(h4.hold _ (List.mem_of_getElem? hi)).1
 exact k x m hl a w ⟨M,h1,h2,h3,h4.C1 hi rfl rfl hh⟩
theorem Ad.LI {P:Program} {E:Env} {I:Cb} {o:Oper} {p:Pr} (s:Nat) {α:Type} {f:α→Pr} (hs:E.lookup s=some (Cp.ex f)) (hm:s∈looks o) (h:∀x,Ad P I o ((s,f x)::E) p):Ad P I o E p:=by
 intro M w a he hI
 obtain ⟨x,hx⟩:=he s _ hm hs
 refine h x M w a (fun t q ht hq=> ?_) hI
 simp only [List.lookup] at hq
 by_cases hts:t=s
 · exact Tt
 · exact Ti
theorem Ad.opf {P:Program} {E:Env} {I:Cb} {o:Oper} {p q:Pr} {φ:Prop} (s:Nat) (hs:E.lookup s=some (Cp.fact φ q)) (hm:s∈looks o) (h:φ→Ad P I o ((s,q)::E) p):Ad P I o E p:=by
 intro M w a he hI
 obtain ⟨hφ,hx⟩:=he s _ hm hs
 refine h hφ M w a (fun t r ht hr=> ?_) hI
 simp only [List.lookup] at hr
 by_cases hts:t=s
 · subst hts;simp at hr;subst hr;exact hx
 · rw [show (t==s)=false by simpa using hts] at hr;exact he t r ht hr
end Cp
namespace Cp
open Go Go.RowKit Go.Great
section
variable {P:Program} {L:Lg P} {n:Fm} {fz:Nat} {E:Env} {M0:Av} {w0:World} {S:Nat→Prop} {rs:List As}
theorem A7.WW {i:Nat} {r r':As} {M:Av} {w:World} (h:A7 M0 w0 S rs M w) (hi:rs[i]? =some r) (hb:∀b,r'.blk=some b→r.blk=some b) (hn:r'.new=r.new) (hh:r'.h M w):A7 M0 w0 S (rs.set i r') M w:=by
 have GC:i<rs.length:=by rcases Nat.lt_or_ge i rs.length with h|h;exact h;rw [List.getElem?_eq_none h] at hi;cases hi
 have h1:=A7.perm (Df hi) h
 refine A7.perm (JZ GC) ⟨h1.m0,h1.m,h1.os,h1.tape,h1.output,h1.size,h1.block,h1.bd,fun q hq=> ?_,?_⟩
 ·
  rcases List.mem_cons.1 hq with rfl|hq
  · exact ⟨hh,fun b hbk=>by rw [hn];exact (h1.hold r AV).2 b (hb b hbk)⟩
  · exact h1.hold q (by simp [hq])
 ·
  obtain ⟨h2,h3⟩:=List.pairwise_cons.1 h1.nd
  exact List.Pairwise.cons (fun q hq b hbk=>h2 q hq b (hb b hbk)) h3
theorem A7.Qs {j:Nat} {e:TypeId} {sz:Nat} {rows:List (List Pr)} {v:Value} {M:Av} {w:World} (h:A7 M0 w0 S rs M w) (hj:rs[j]? =some (Bi e sz rows v)):A7 M0 w0 S (rs.set j (Bx e sz rows v)) M w:=by
 rcases (h.hold _ (List.mem_of_getElem? hj)).1 with ⟨h1,h2⟩|⟨b,cap,sp,h1,h2,h3,h4,h5⟩
 ·
  subst h2
  exact h.WW hj (fun b hb=>by cases hb) rfl (.inl ⟨h1,_,rfl⟩)
 ·
  subst h1
  cases cap with
  |zero=>
   have hr:rows=[]:=List.eq_nil_of_length_eq_zero AA
   subst hr
   exact h.WW hj (fun b hb=>by cases hb) rfl (.inl ⟨rfl,_,rfl⟩)
  |succ c=>exact h.WW hj (fun b hb=>hb) rfl (.inr ⟨b,c,sp,rfl,h2,h3,h4,h5⟩)
theorem Fin.Qs {Q:Exit→Act→World→Prop} {x:Exit} {e:TypeId} {sz:Nat} {rows:List (List Pr)} {v:Value} (j:Nat) (hj:rs[j]? =some (Bi e sz rows v)) (k:Fin n E (Hp M0 w0 S (rs.set j (Bx e sz rows v))) Q x):Fin n E (Hp M0 w0 S rs) Q x:=
 Fin.conv (fun a w hs=>by
  obtain ⟨M,h1,h2,h3,h4⟩:=hs
  have h4:A7 M0 w0 S rs M w:=h4
  exact ⟨M,h1,h2,h3,h4.Qs hj⟩) k
theorem Tr.Qs {Q:Exit→Act→World→Prop} {c:Code} {e:TypeId} {sz:Nat} {rows:List (List Pr)} {v:Value} (j:Nat) (hj:rs[j]? =some (Bi e sz rows v)) (k:Tr L n E (Hp M0 w0 S (rs.set j (Bx e sz rows v))) c Q):Tr L n E (Hp M0 w0 S rs) c Q:=
 Tr.conv (fun _ _ ⟨M,h1,h2,h3,h4⟩=>⟨M,h1,h2,h3,A7.Qs h4 hj⟩) k
end
end Cp
namespace Go.Proofs.YtmocaapoeefgkaaGreatDoor
open Go Go.RowKit Cp Go.Proofs.Tryz
structure B7.sz (e:B7) (n:Nat):Prop where
 name:e.name.length≤maxLen
 Ay:e.Ay.length≤n
 anchors:e.anchors.length≤n
 hashes:e.hashes.length≤n
 Xi:e.ids.length≤n
 ids:∀x∈e.ids,x.fits∧x.small
theorem B7.sz.fits {e:B7} {n:Nat} (h:e.sz n):e.fits:=⟨h.name,fun x hx=>(h.ids x hx).1⟩
theorem B7.sz.small {e:B7} {n:Nat} (h:e.sz n) (hn:n≤1000000):e.small:=⟨by have:=h.Ay;omega,by have:=h.anchors;omega,by have:=h.hashes;omega,by have:=h.Xi;omega,fun x hx=>(h.ids x hx).2⟩
theorem B7.sz.le {e:B7} {n m:Nat} (h:e.sz n) (hn:n≤m):e.sz m:=⟨h.name,Nat.le_trans h.Ay hn,Nat.le_trans h.anchors hn,Nat.le_trans h.hashes hn,Nat.le_trans h.Xi hn,h.ids⟩
theorem qo {i:Nat} {e:B7} (h:Ya i e):e.sz 5:=by
 have hs:=Uk _ (Jk h)
 have h1:=Sq h;have h2:=Qp h
 obtain ⟨s,hs1,UY⟩:=h.ids
 exact ⟨h1.name,hs.2,by rw [h.anchors];simp,by rw [h.hashes];simp,by rw [UY];simp,fun x hx=>⟨h1.ids x hx,h2.ids x hx⟩⟩
theorem PD {α:Type} {l:List α} {a:α} {i:Nat}:(l.take i++[a]++l.drop i).length≤l.length+1:=by simp [List.length_take,List.length_drop];omega
theorem PF {α:Type} {l:List α} {i:Nat}:(l.eraseIdx i).length≤l.length:=by rw [List.length_eraseIdx];split<;>omega
theorem G3:Bv.fits∧Bv.small:=⟨kB,eC⟩
theorem qp {P:JL→Prop} {l:List JL} {x:JL} {i:Nat} (h:∀y∈l,P y) (hx:P x):∀y∈l.take i++[x]++l.drop i,P y:=by
 intro y hy
 simp only [List.mem_append,List.mem_cons,List.not_mem_nil,or_false] at hy
 rcases hy with (hy|rfl)|hy
 · exact h y (List.mem_of_mem_take hy)
 · exact hx
 · exact h y (List.mem_of_mem_drop hy)
theorem bQ {e:B7} {c:BW} {x:B7} {b:BW} {n:Nat} (hc:JD c) (h:B8 e c= .ok (x,b)) (hs:e.sz n) (hi:c.Cr.fits∧c.Cr.small):x.sz (n+1)∧b.Cr.fits∧b.Cr.small:=by
 have h1:=hs.Ay;have h2:=hs.anchors;have h3:=hs.hashes;have h4:=hs.Xi
 rcases bK hc.1 with hk|hk|hk|hk|hk|hk|hk|hk|hk|hk|hk|hk
 · rw [O3 hk] at h;(repeat' (split at h))<;>first|(cases h;done)|(injection h with h;obtain ⟨rfl,rfl⟩:=Prod.mk.inj h;exact ⟨⟨hs.name,Nat.le_trans PD AA,Nat.le_trans h2 AA,Nat.le_trans h3 AA,Nat.le_trans h4 AA,hs.ids⟩,G3⟩)
 · rw [O4 hk] at h;(repeat' (split at h))<;>first|(cases h;done)|(injection h with h;obtain ⟨rfl,rfl⟩:=Prod.mk.inj h;exact ⟨⟨hs.name,Nat.le_trans PF AA,Nat.le_trans h2 AA,Nat.le_trans h3 AA,Nat.le_trans h4 AA,hs.ids⟩,G3⟩)
 · rw [O5 hk] at h;(repeat' (split at h))<;>first|(cases h;done)|(injection h with h;obtain ⟨rfl,rfl⟩:=Prod.mk.inj h;exact ⟨⟨hs.name,Nat.le_trans h1 AA,Nat.le_trans h2 AA,Nat.le_trans h3 AA,Nat.le_trans h4 AA,hs.ids⟩,G3⟩)
 · rw [O6 hk] at h;(repeat' (split at h))<;>first|(cases h;done)|(injection h with h;obtain ⟨rfl,rfl⟩:=Prod.mk.inj h;exact ⟨⟨hs.name,Nat.le_trans h1 AA,Nat.le_trans h2 AA,Nat.le_trans h3 AA,Nat.le_trans h4 AA,hs.ids⟩,G3⟩)
 · rw [O7 hk] at h;(repeat' (split at h))<;>first|(cases h;done)|(injection h with h;obtain ⟨rfl,rfl⟩:=Prod.mk.inj h;exact ⟨⟨hs.name,Nat.le_trans h1 AA,Nat.le_trans h2 AA,Nat.le_trans h3 AA,Nat.le_trans PD AA,qp hs.ids hi⟩,G3⟩)
 · rw [O8 hk] at h;(repeat' (split at h))<;>first|(cases h;done)|(injection h with h;obtain ⟨rfl,rfl⟩:=Prod.mk.inj h;exact ⟨⟨hs.name,Nat.le_trans h1 AA,Nat.le_trans h2 AA,Nat.le_trans h3 AA,Nat.le_trans PF AA,fun y hy=>hs.ids y (List.mem_of_mem_eraseIdx hy)⟩,hs.ids _ (List.mem_of_getElem? Bt)⟩)
 · rw [O9 hk] at h;(repeat' (split at h))<;>first|(cases h;done)|(injection h with h;obtain ⟨rfl,rfl⟩:=Prod.mk.inj h;exact ⟨⟨hs.name,Nat.le_trans h1 AA,Nat.le_trans PD AA,Nat.le_trans h3 AA,Nat.le_trans h4 AA,hs.ids⟩,G3⟩)
 · rw [O_ hk] at h;(repeat' (split at h))<;>first|(cases h;done)|(injection h with h;obtain ⟨rfl,rfl⟩:=Prod.mk.inj h;exact ⟨⟨hs.name,Nat.le_trans h1 AA,Nat.le_trans PF AA,Nat.le_trans h3 AA,Nat.le_trans h4 AA,hs.ids⟩,G3⟩)
 · rw [PB hk] at h;(repeat' (split at h))<;>first|(cases h;done)|(injection h with h;obtain ⟨rfl,rfl⟩:=Prod.mk.inj h;exact ⟨⟨hs.name,Nat.le_trans h1 AA,Nat.le_trans h2 AA,Nat.le_trans PD AA,Nat.le_trans h4 AA,hs.ids⟩,G3⟩)
 · rw [MU hk] at h;(repeat' (split at h))<;>first|(cases h;done)|(injection h with h;obtain ⟨rfl,rfl⟩:=Prod.mk.inj h;exact ⟨⟨hs.name,Nat.le_trans h1 AA,Nat.le_trans h2 AA,Nat.le_trans PF AA,Nat.le_trans h4 AA,hs.ids⟩,G3⟩)
 · rw [MV hk] at h;(repeat' (split at h))<;>first|(cases h;done)|(injection h with h;obtain ⟨rfl,rfl⟩:=Prod.mk.inj h;exact ⟨⟨hs.name,Nat.le_trans h1 AA,Nat.le_trans h2 AA,Nat.le_trans h3 AA,Nat.le_trans h4 AA,hs.ids⟩,G3⟩)
 · rw [MW hk] at h;(repeat' (split at h))<;>first|(cases h;done)|(injection h with h;obtain ⟨rfl,rfl⟩:=Prod.mk.inj h;exact ⟨⟨hs.name,Nat.le_trans h1 AA,Nat.le_trans h2 AA,Nat.le_trans h3 AA,Nat.le_trans h4 AA,hs.ids⟩,G3⟩)
theorem qq {e:B7} {c:BW} {x:B7} {b:BW} {n:Nat} (h:D8 e c=(x,b,0)) (hs:e.sz n) (hi:c.Cr.fits∧c.Cr.small):x.sz (n+1)∧b.Cr.fits∧b.Cr.small:=by
 obtain ⟨_,h2,h3,_⟩:=eK h
 exact bQ h2 h3 hs hi
structure Da.sz (e:Da) (n:Nat):Prop where
 Bp:∀x∈e.Bp,x.sz n
 items:∀x∈e.items,x.name.length≤maxLen∧x.links.length≤1000000
 le:e.Bp.length≤1000000
 lg:e.BQ.length≤1000000
 li:e.items.length≤1000000
theorem Da.sz.fits {e:Da} {n:Nat} (h:e.sz n) (hn:n≤1000000):e.fits:=
 ⟨fun x hx=>⟨(h.Bp x hx).fits,(h.Bp x hx).small hn⟩,fun x hx=>(h.items x hx).1,by have:=h.le;omega,by have:=h.lg;omega,by have:=h.li;omega⟩
theorem tZ {β γ:Type} {f:β→γ} {l:List β} {k:Nat} {x:β} (h:l[k]? =some x):(l.take k).map f++[f x]=(l.take (k+1)).map f:=by rw [List.take_add_one,h,List.map_append];rfl
def K1 (l:List B7) (c:BW):List B7×Int:=
 if c.AW<0∨((l.length:Nat):Int)≤c.AW then (l,40)
 else match l[c.AW.toNat]? with
  |none=>(l,40)
  |some x=>if (D8 x c).2.2=0 then (l.set c.AW.toNat (D8 x c).1,0) else (l,(D8 x c).2.2)
theorem qt {l:List B7} {c:BW} (h:c.AW<0∨((l.length:Nat):Int)≤c.AW):K1 l c=(l,40):=if_pos h
theorem vh {l:List B7} {c:BW} {x:B7} (h:¬(c.AW<0∨((l.length:Nat):Int)≤c.AW)) (hx:l[c.AW.toNat]? =some x):K1 l c=if (D8 x c).2.2=0 then (l.set c.AW.toNat (D8 x c).1,0) else (l,(D8 x c).2.2):=by
 unfold K1;rw [if_neg h,hx]
def NR (l:List BW):List Int→List B7→List B7×Int
 |[],Bp=>(Bp,0)
 |i::s,Bp=>match l[i.toNat]? with
  |none=>(Bp,0)
  |some c=>if (K1 Bp c).2=0 then NR l s (K1 Bp c).1 else (Bp,(K1 Bp c).2)
def Uq (e:Da) (l:List BW) (s:List Int):Da×Int:=
 if FH e=false then (Fx,31)
 else if 24<l.length then (Fx,3)
 else if Dx l.length s=false then (Fx,46)
 else if (NR l s e.Bp).2=0 then (⟨(NR l s e.Bp).1,e.BQ,e.items⟩,0) else (Fx,(NR l s e.Bp).2)
theorem eR {l:List BW} {s:List Int} {Bp:List B7} {k:Nat} {i:Int} {c:BW} (hi:s[k]? =some i) (hc:l[i.toNat]? =some c):NR l (s.drop k) Bp=if (K1 Bp c).2=0 then NR l (s.drop (k+1)) (K1 Bp c).1 else (Bp,(K1 Bp c).2):=by
 have hk:=BN hi
 rw [List.drop_eq_getElem_cons hk]
 rw [List.getElem?_eq_getElem hk] at hi;cases hi
 rw [NR];rw [hc]
theorem bR (l:List B7) (c:BW):(K1 l c).1.length=l.length:=by
 unfold K1;split
 · rfl
 ·
  split
  · rfl
  ·
   split
   · exact List.length_set
   · rfl
theorem kQ {l:List B7} {c:BW} {n:Nat} (hz:∀x∈l,x.sz n) (hi:c.Cr.fits∧c.Cr.small):∀x∈(K1 l c).1,x.sz (n+1):=by
 have EY:∀x∈l,x.sz (n+1):=fun x hx=>(hz x hx).le AA
 unfold K1;split
 · exact EY
 ·
  split
  · exact EY
  next x hx=>
  split
  next h0=>
   intro y hy
   rcases List.mem_or_eq_of_mem_set hy with hy|hy
   · exact EY y hy
   ·
    subst hy
    exact (qq (b:=(D8 x c).2.1) (by rw [←h0]) (hz x (List.mem_of_getElem? hx)) hi).1
  · exact EY
def N5 (s:List Int) (k:Nat):Int:=if k=0 then -1 else s[k-1]?.getD 0
theorem Ym {s:List Int} {k:Nat} {i:Int} (h:s[k]? =some i):N5 s (k+1)=i:=by unfold N5;rw [if_neg AA,Nat.add_sub_cancel,h];rfl
theorem Qt {n:Int} {s:List Int} {k:Nat} {i:Int} (h:∀j,j<k→setAt n s j=true) (hi:s[k]? =some i):setAt n s k= !(decide (i≤N5 s k)||decide (n≤i)):=by
 have hk:=BN hi
 unfold setAt N5
 rw [hi,Option.getD_some]
 rcases Nat.eq_zero_or_pos k with hz|hz
 · subst hz;rw [Bool.eq_iff_iff];simp;omega
 ·
  have h1:=h (k-1) AA
  unfold setAt at h1
  simp only [Bool.and_eq_true,decide_eq_true_eq] at h1
  rw [if_neg AA,Bool.eq_iff_iff];simp;omega
theorem Tf {n:Int} {s:List Int} {k:Nat} {i:Int} (h:∀j,j<k→setAt n s j=true) (hi:s[k]? =some i) (hb:i≤N5 s k∨n≤i):Dx n s=false:=
 Pz (p:=setAt n s) (k:=k) (BN hi) (by rw [Qt h hi];simp;omega)
theorem kR {n:Int} {s:List Int} (h:∀j,j<s.length→setAt n s j=true):∀j,j<s.length→(j:Int)≤s[j]?.getD 0
 |0,hj=>by have:=h 0 hj;unfold setAt at this;simp at this;simp;omega
 |j+1,hj=>by
  have h1:=kR h j AA
  have:=h (j+1) hj
  unfold setAt at this
  simp only [Bool.and_eq_true,Bool.or_eq_true,decide_eq_true_eq,Nat.add_sub_cancel] at this
  omega
theorem bS {n:Nat} {s:List Int} (h:Dx n s=true):s.length≤n:=by
 unfold Dx at h;rw [B6] at h
 rcases Nat.eq_zero_or_pos s.length with hz|hz
 · omega
 ·
  have h1:=kR h (s.length-1) AA
  have h2:=h (s.length-1) AA
  unfold setAt at h2
  simp only [Bool.and_eq_true,decide_eq_true_eq] at h2
  omega
theorem PG {n:Nat} {s:List Int} (h:Dx n s=true) {k:Nat} {i:Int} (hi:s[k]? =some i):0≤i∧i<n:=by
 unfold Dx at h;rw [B6] at h
 have h2:=h k (BN hi)
 unfold setAt at h2
 rw [hi] at h2
 simp only [Option.getD_some,Bool.and_eq_true,decide_eq_true_eq] at h2
 exact h2.1
end Go.Proofs.YtmocaapoeefgkaaGreatDoor
namespace Cp
open Go Go.RowKit
theorem qu {β:Type} {f:β→Pr} {ps:List Pr} {M:Av} {w:World} {ad:Addr} {n:Nat} (h:Row M w ad n (ps++[Cp.ex f])):∃x,Row M w ad n (ps++[f x]):=by
 obtain ⟨u,h1,h2,h3,x,h4⟩:=h ps.length (Cp.ex f) AV
 refine ⟨x,fun j p hp=> ?_⟩
 rcases Nat.lt_trichotomy j ps.length with hj|hj|hj
 · exact Z8
 · subst hj;simp at hp;subst hp;exact ⟨u,h1,h2,h3,h4⟩
 · exact OW
theorem eS {φ:Prop} {q:Pr} {ps:List Pr} {M:Av} {w:World} {ad:Addr} {n:Nat} (h:Row M w ad n (ps++[fact φ q])):φ∧Row M w ad n (ps++[q]):=by
 obtain ⟨u,h1,h2,h3,hφ,h4⟩:=h ps.length (fact φ q) AV
 refine ⟨hφ,fun j p hp=> ?_⟩
 rcases Nat.lt_trichotomy j ps.length with hj|hj|hj
 · exact Z8
 · subst hj;simp at hp;subst hp;exact ⟨u,h1,h2,h3,h4⟩
 · exact OW
theorem Yn {α β:Type} {f:α→List Pr} {g:β→List Pr} {φ:α→β→Prop} {sz:Nat} (h:∀a M w ad n,Row M w ad n (f a)→∃b,φ a b∧Row M w ad n (g b)) (hf:∀a,(f a).length=sz) (hg:∀b,(g b).length=sz) (ms:List α):
  Pr.le (slice sz (ms.map f)) (Cp.ex fun l:List β=>fact (l.length=ms.length∧∀(i:Nat) a b,ms[i]? =some a→l[i]? =some b→φ a b) (slice sz (l.map g))):=by
 rintro M w v ⟨a,cap,hv,h1,h2,h3,h5⟩
 have hk:∀k,k≤ms.length→∃l:List β,l.length=k∧(∀(i:Nat) a b,ms[i]? =some a→l[i]? =some b→φ a b)∧∀(i:Nat) b,l[i]? =some b→∃ad,a=some ad∧Row M w ad (i*sz) (g b):=by
  intro k
  induction k with
  |zero=>intro _;exact ⟨[],rfl,by simp,by simp⟩
  |succ k ih=>
   intro hk
   obtain ⟨l,hl,hp,hr⟩:=ih AA
   obtain ⟨x,hx⟩:∃x,ms[k]? =some x:=⟨ms[k],List.getElem?_eq_getElem AA⟩
   obtain ⟨_,ad,had,hrow⟩:=h5 k (f x) Ts
   obtain ⟨b,Rp,VK⟩:=h x M w ad (k*sz) hrow
   refine ⟨l++[b],by simp [hl],fun i y c hy hc=> ?_,fun i c hc=> ?_⟩
   ·
    rcases Nat.lt_trichotomy i k with hi|hi|hi
    · rw [List.getElem?_append_left AA] at hc;exact hp i y c hy hc
    · subst hi;rw [List.getElem?_append_right AA,hl] at hc;simp at hc;subst hc;rw [hx] at hy;cases hy;exact Rp
    · rw [List.getElem?_eq_none (by simp [hl];omega)] at hc;cases hc
   ·
    rcases Nat.lt_trichotomy i k with hi|hi|hi
    · rw [List.getElem?_append_left AA] at hc;exact hr i c hc
    · subst hi;rw [List.getElem?_append_right AA,hl] at hc;simp at hc;subst hc;exact ⟨ad,had,VK⟩
    · rw [List.getElem?_eq_none (by simp [hl];omega)] at hc;cases hc
 obtain ⟨l,hl,hp,hr⟩:=hk ms.length (Nat.le_refl _)
 rw [List.length_map] at hv h1
 refine ⟨l,⟨hl,hp⟩,a,cap,by rw [List.length_map,hl];exact hv,by rw [List.length_map,hl];exact h1,h2,h3,fun i row hrow=> ?_⟩
 rw [List.getElem?_map] at hrow
 cases hb:l[i]? with
 |none=>rw [hb] at hrow;cases hrow
 |some b=>
  rw [hb] at hrow;simp at hrow;subst hrow
  exact ⟨hg b,hr i b hb⟩
end Cp
namespace Go.Proofs.YtmocaapoeefgkaaGreatDoor
open Go Go.RowKit Cp Go.Proofs.Tryz
structure ChS (l:List HB):Prop where
 fits:∀c∈l,c.fits
 small:(⟨0,0,0,l⟩:JL).small
abbrev chE:Pr:=Cp.ex fun l:List HB=>fact (ChS l) (Kz l)
abbrev EF (c:BW):List Pr:=[int c.AW,int c.kind,int c.number,int c.at_,int c.Cr.CC,int c.Cr.bits,int c.Cr.CS,chE]
structure qv (es:List B7) (c:BW):Prop where
 lo:0≤c.AW
 hi:c.AW<(es.length:Nat)
 kind:1≤c.kind∧c.kind≤12
def Hz (es:List B7) (l:List BW):Prop:=∀c∈l,qv es c
theorem Hz.snoc {es:List B7} {l:List BW} {c:BW} (h:Hz es l) (hc:qv es c):Hz es (l++[c]):=by
 intro x hx
 rcases List.mem_append.1 hx with hx|hx
 · exact h x hx
 · simp at hx;subst hx;exact hc
theorem Hz.two {es:List B7} {l:List BW} {c d:BW} (h:Hz es l) (hc:qv es c) (hd:qv es d):Hz es (l++[c,d]):=by
 intro x hx
 rcases List.mem_append.1 hx with hx|hx
 · exact h x hx
 · simp at hx;rcases hx with rfl|rfl;exact hc;exact hd
theorem Hz.perm {es:List B7} {l m:List BW} (hp:m.Perm l) (h:Hz es l):Hz es m:=fun c hc=>h c (hp.mem_iff.1 hc)
theorem Hz.take {es:List B7} {l:List BW} {n:Nat} (h:Hz es l):Hz es (l.take n):=fun c hc=>h c (List.mem_of_mem_take hc)
theorem qw:ChS []:=⟨(fun c h=>by cases h),⟨by show 0≤_;omega,(fun c hc=>by cases hc)⟩⟩
theorem MZ:Pr.le (is (.slice none 0 0)) chE:=Aw [] (A8 qw (AQ 15))
theorem qx {nm:List UInt8} (h:nm∈FX) {a b id key:Int}:Pr.le (vT nm a b id 901 key) chE:=by
 rintro M w v ⟨s,hs,hv⟩
 have hf:=AAy (a:=a) (b:=b) (id:=id) (key:=key) (s:=s) h
 exact ⟨_,⟨hf.1,⟨hf.2.chain,hf.2.names⟩⟩,hv⟩
theorem kS {nm:List UInt8} {a b id to key:Int}:(tV nm a b id to key).le (agg [int a,int b,int id,vT nm a b id to key]):=by
 rintro M w v ⟨s,hs,hv⟩
 exact BR (ps:=G1 (HP nm a b id to key s)) (qs:=[int a,int b,int id,vT nm a b id to key]) ⟨Pr.le_refl _,Pr.le_refl _,Pr.le_refl _,fun M w v h=>⟨s,hs,h⟩,trivial⟩ M w v hv
theorem kU (c:BW) (M:Av) (w:World) (ad:Addr) (n:Nat) (h:Row M w ad n (EF c)):∃b:BW,(b.AW=c.AW∧b.kind=c.kind∧b.number=c.number∧b.at_=c.at_∧ChS b.Cr.chain)∧Row M w ad n (DK b):=by
 obtain ⟨ch,h1⟩:=qu (ps:=[int c.AW,int c.kind,int c.number,int c.at_,int c.Cr.CC,int c.Cr.bits,int c.Cr.CS]) h
 obtain ⟨h2,h3⟩:=eS (ps:=[int c.AW,int c.kind,int c.number,int c.at_,int c.Cr.CC,int c.Cr.bits,int c.Cr.CS]) h1
 exact ⟨⟨c.AW,c.kind,c.number,c.at_,⟨c.Cr.CC,c.Cr.bits,c.Cr.CS,ch⟩⟩,⟨rfl,rfl,rfl,rfl,h2⟩,h3⟩
structure AA3 (es:List B7) (l:List BW):Prop where
 len:l.length≤7
 any:∀c∈l,AEL es c
theorem Ur {es:List B7} {ms:List BW} (h:Hz es ms) (hl:ms.length≤7):Pr.le (slice 8 (ms.map EF)) (Cp.ex fun l:List BW=>fact (AA3 es l) (slice 8 (l.map DK))):=by
 intro M w v hv
 obtain ⟨l,⟨h1,h2⟩,h3⟩:=Yn kU (fun _=>rfl) (fun _=>rfl) ms M w v hv
 refine ⟨l,⟨by omega,fun c hc=> ?_⟩,h3⟩
 obtain ⟨i,hi⟩:=List.getElem?_of_mem hc
 obtain ⟨a,ha⟩:=at_ (l:=ms) (k:=i) (by have:=BN hi;omega)
 obtain ⟨g1,g2,g3,g4,g5⟩:=h2 i a c ha hi
 have hm:=h a (List.mem_of_getElem? ha)
 exact ⟨by rw [g1];exact hm.lo,by rw [g1];exact hm.hi,by rw [g2];exact hm.kind,g5.fits,⟨g5.small.chain,g5.small.names⟩⟩
theorem qy {b:Nat} {s:DS} {e:Da} (hs:j8 e.Bp) (hl:1≤e.Bp.length∧e.Bp.length≤3):Be prog 48 [ptr b 0,agg (CG e)] (Cp.ex fun l:List BW=>fact (AA3 e.Bp l) (slice 8 (l.map DK))) (DT b s) (fun _=>IP 104 b):=by
 refine Be.of func48 rfl rfl Ao fun M0 w0 S rs M1 w1=> ?_
 refine Tr.seq (Tr.Aj (co rfl (BZ rfl (Va rfl)) (cm rfl (Ch.nil (Fin.go (Tr.seq (Tr.Aj (cm rfl (Ch.nil (Fin.go (Tr.seq (Tr.An (tm rfl ?_)))))))))))))
 refine TO.IK 0 rfl rfl AB (Aq rfl rfl AB rfl (CX AA AA) ⟨ke rfl,ke rfl,trivial⟩) (tp rfl (ki rfl rfl rfl rfl) (tm rfl (TO.IK 0 rfl rfl AB (Aq rfl rfl AB rfl (CX AA AA) ⟨ke rfl,ke rfl,trivial⟩) (tp rfl (ki rfl rfl rfl rfl) (tm rfl (TO.IK 0 rfl rfl AB (Aq rfl rfl AB rfl (CX AA AA) ⟨ke rfl,ke rfl,trivial⟩) (tp rfl (ki rfl rfl rfl rfl) (tm rfl (tm rfl (tm rfl (TO.nil (Fin.go (wk6 0 3 5 6 7 8 rfl (Tr.seq ?_))))))))))))))
 refine Tr.seq (Tr.Aj (co rfl (QG rfl GS rfl rfl) (co rfl (GX rfl MG rfl) (co rfl (CW rfl underlying27 (vl rfl)) (cm rfl (Ch.nil (Fin.go (Tr.block (Tr.LM 86 8 (Tr.FR [(0,_),(6,_),(7,_),(8,_),(23,_),(24,_)] ⟨ke rfl,ke rfl,ke rfl,ke rfl,ke rfl,ke rfl,trivial⟩ (fun (k:Nat) (ms:List BW) (s2:DS) v=>[(25,int ((k:Nat):Int)),(5,Af v (lens (ms.map EF).length))]) (fun (k:Nat) (ms:List BW) (s2:DS) v=>Hp M0 w0 S (Bi 86 8 (ms.map EF) v::DT b s2::Ak M1 w1::rs)) (fun (k:Nat) (ms:List BW) (s2:DS)=>k≤e.Bp.length∧ms.length≤6*k∧Hz e.Bp ms) (fun (k:Nat) (ms:List BW) (s2:DS)=>e.Bp.length-k) (0) ([]) (_) (.slice none 0 0) (⟨Nat.zero_le _,by simp,fun c hc=>by simp at hc⟩) ⟨ke rfl,⟨_,rfl,JX (by rfl)⟩,trivial⟩ (fun _ _ h=>h) ?_))))))))))
 rintro k ms s2 v ⟨hk1,AFC,Sw⟩
 refine Tr.seq (Tr.Aj (co rfl (ki rfl rfl rfl rfl) (Ch.nil (Fin.go (Tr.seq ?_)))))
 refine Tr.cn rfl ?_ ?_<;>intro h1 q1
 have Ai:k<e.Bp.length:=by have:=Co.C_ h1;omega
 obtain ⟨x,Ah⟩:=at_ Ai
 have hse:=hs k x Ah
 have hnm:=List.mem_of_getElem? hse.name
 refine Tr.skip (Fin.go (Tr.seq (Tr.block (Tr.seq (Tr.An (tm rfl (tp rfl (AD rfl underlying27 CF (vl rfl) (vl rfl) AA (AX Ah)) (tp rfl (AL rfl Cj CF (vl rfl) rfl rfl) ?_))))))))
 refine Tl rfl rfl rfl rfl z40 IU (fun b1=> ?_)
 refine tm rfl (TO.AK 0 rfl rfl rfl (vl rfl) (Va rfl) rfl CF rfl rfl (TO.freeze 0 10 rfl rfl (TO.nil (Fin.go (UB 0 5 6 7 8 9 10 23 24 25 rfl (Tr.Ox [(0,_),(6,_),(7,_),(8,_),(9,_),(10,_),(23,_),(24,_),(25,_)] ⟨ke rfl,ke rfl,ke rfl,ke rfl,ke rfl,ke rfl,ke rfl,ke rfl,ke rfl,trivial⟩ (fun (m1:List BW) (s3:DS) v1=>[(5,Af v1 (lens (m1.map EF).length))]) (fun (m1:List BW) (s3:DS) v1=>Hp M0 w0 S (Bi 86 8 (m1.map EF) v1::DT b s3::Ak M1 w1::rs)) (fun (m1:List BW) (s3:DS)=>m1.length≤6*k+1∧Hz e.Bp m1) ?_ ?_))))))
 refine Tr.seq (Tr.Aj (cm rfl (cm rfl ?_)))
 refine Ch.cs 31 rfl ?_ ?_<;>intro h2 q2
 refine cy h2 rfl (QG rfl NI rfl rfl) (cy h2 rfl (GX rfl Sc rfl) (cy h2 rfl (AR rfl (bL) ⟨ke rfl,ke rfl,trivial⟩) (cy h2 rfl (Gs rfl (vl rfl)) (co rfl (KH rfl rfl h2 rfl) (Ch.nil (Fin.go (JG 0 5 6 7 8 9 10 23 24 25 36 rfl ?_)))))))
 refine Tr.cn rfl ?_ ?_<;>intro h3 q3
 have Vg:=s2.C5 (n:=2) AA
 refine Tr.An (tm rfl (tm rfl (tm rfl (TO.IK 1 rfl rfl AB (Aq rfl rfl AB rfl (CX AA AA) ⟨ke rfl,ke rfl,trivial⟩) (tp rfl (Al (rows:=[(0,[_]),(1,[_]),(2,[_]),(3,[_])]) rfl dO JI ⟨⟨rfl,(Vo rfl)⟩,⟨⟨rfl,(Vo rfl)⟩,⟨⟨rfl,(Vo rfl)⟩,⟨⟨rfl,(Vo rfl)⟩,trivial⟩⟩⟩⟩ rfl) (tp rfl (AM (xs:=[.tmp 41]) (rows:=[EF ⟨((k:Nat):Int),1,12,s2.val 2,⟨0,0,0,[]⟩⟩]) rfl rfl underlying32 C9 Nx rfl AB ⟨⟨Am,VL.le (vl rfl) (Pr.le_trans (BR (qs:=EF _) ⟨Lr,Lr,Lr,Lr,Lr,Lr,Lr,MZ,trivial⟩) (Ac _))⟩,trivial⟩ AB) ?_))))))
 refine TO.DZ 0 rfl rfl AB (Fw rfl rfl AB rfl underlying32 C9 YI Nx rfl AB AB (vl rfl) (Kf rfl) (Bl fun _=>rfl) (Nat.zero_lt_succ _) Mu Mw) (fun v1=> ?_)
 refine tm rfl (TO.nil ?_)
 exact Fin.Bg (ms++[⟨((k:Nat):Int),1,12,s2.val 2,⟨0,0,0,[]⟩⟩]) (_) v1 (⟨by simp;omega,Sw.snoc ⟨by show 0≤((k:Nat):Int);omega,by show ((k:Nat):Int)<_;omega,by dsimp only;omega⟩⟩) ⟨⟨_,rfl,C6 AV⟩,ke rfl,ke rfl,ke rfl,ke rfl,ke rfl,ke rfl,ke rfl,ke rfl,ke rfl,trivial⟩ (fun _ _ h=>Ly)
 refine Tr.skip (Fin.Bg (ms) (_) v (⟨by omega,Sw⟩) ⟨⟨_,rfl,C6 AV⟩,ke rfl,ke rfl,ke rfl,ke rfl,ke rfl,ke rfl,ke rfl,ke rfl,ke rfl,trivial⟩ (fun _ _ h=>h))
 iterate 4 refine cnt h2 rfl ?_
 refine co rfl (Ou rfl rfl h2 rfl) (Ch.nil (Fin.go (JG 0 5 6 7 8 9 10 23 24 25 36 rfl (Tr.cond rfl (fun h=>nomatch h) (fun _=> ?_)))))
 refine Tr.skip (Fin.Bg (ms) (_) v (⟨by omega,Sw⟩) ⟨⟨_,rfl,C6 AV⟩,ke rfl,ke rfl,ke rfl,ke rfl,ke rfl,ke rfl,ke rfl,ke rfl,ke rfl,trivial⟩ (fun _ _ h=>h))
 rintro m1 s3 v1 ⟨AFD,kV⟩
 refine Tr.Ox [(0,_),(6,_),(7,_),(8,_),(9,_),(10,_),(23,_),(24,_),(25,_)] ⟨ke rfl,ke rfl,ke rfl,ke rfl,ke rfl,ke rfl,ke rfl,ke rfl,ke rfl,trivial⟩ (fun (m2:List BW) (s4:DS) v2=>[(5,Af v2 (lens (m2.map EF).length))]) (fun (m2:List BW) (s4:DS) v2=>Hp M0 w0 S (Bi 86 8 (m2.map EF) v2::DT b s4::Ak M1 w1::rs)) (fun (m2:List BW) (s4:DS)=>m2.length≤6*k+2∧Hz e.Bp m2) ?_ ?_
 refine Tr.seq (Tr.Aj (cm rfl (cm rfl ?_)))
 refine Ch.cs 45 rfl ?_ ?_<;>intro h4 q4
 refine NB h4 rfl (cy h4 rfl (ki rfl rfl rfl rfl) (co rfl (KH rfl rfl h4 rfl) (Ch.nil (Fin.go (JG 0 5 6 7 8 9 10 23 24 25 48 rfl ?_)))))
 refine Tr.cn rfl ?_ ?_<;>intro h5 q5
 refine Tr.An (tm rfl (tm rfl (tp rfl (Al (rows:=[(0,[_]),(1,[_]),(2,[_])]) rfl dO JI ⟨⟨rfl,(Vo rfl)⟩,⟨⟨rfl,(Vo rfl)⟩,⟨⟨rfl,(Vo rfl)⟩,trivial⟩⟩⟩ rfl) (tp rfl (AM (xs:=[.tmp 51]) (rows:=[EF ⟨((k:Nat):Int),7,2,0,⟨0,0,0,[]⟩⟩]) rfl rfl underlying32 C9 Nx rfl AB ⟨⟨Am,VL.le (vl rfl) (Pr.le_trans (BR (qs:=EF _) ⟨Lr,Lr,Lr,Lr,Lr,Lr,Lr,MZ,trivial⟩) (Ac _))⟩,trivial⟩ AB) ?_))))
 refine TO.DZ 0 rfl rfl AB (Fw rfl rfl AB rfl underlying32 C9 YI Nx rfl AB AB (vl rfl) (Kf rfl) (Bl fun _=>rfl) (Nat.zero_lt_succ _) Mu Mw) (fun v2=> ?_)
 refine tm rfl (TO.nil ?_)
 exact Fin.Bg (m1++[⟨((k:Nat):Int),7,2,0,⟨0,0,0,[]⟩⟩]) (_) v2 (⟨by simp;omega,kV.snoc ⟨by show 0≤((k:Nat):Int);omega,by show ((k:Nat):Int)<_;omega,by dsimp only;omega⟩⟩) ⟨⟨_,rfl,C6 AV⟩,ke rfl,ke rfl,ke rfl,ke rfl,ke rfl,ke rfl,ke rfl,ke rfl,ke rfl,trivial⟩ (fun _ _ h=>Ly)
 refine Tr.skip (Fin.Bg (m1) (_) v1 (⟨by omega,kV⟩) ⟨⟨_,rfl,C6 AV⟩,ke rfl,ke rfl,ke rfl,ke rfl,ke rfl,ke rfl,ke rfl,ke rfl,ke rfl,trivial⟩ (fun _ _ h=>h))
 refine cnt h4 rfl (cnt h4 rfl (co rfl (Ou rfl rfl h4 rfl) (Ch.nil (Fin.go (JG 0 5 6 7 8 9 10 23 24 25 48 rfl (Tr.cond rfl (fun h=>nomatch h) (fun _=> ?_)))))))
 refine Tr.skip (Fin.Bg (m1) (_) v1 (⟨by omega,kV⟩) ⟨⟨_,rfl,C6 AV⟩,ke rfl,ke rfl,ke rfl,ke rfl,ke rfl,ke rfl,ke rfl,ke rfl,ke rfl,trivial⟩ (fun _ _ h=>h))
 rintro m2 s4 v2 ⟨AFE,kW⟩
 refine Tr.Ox [(0,_),(6,_),(7,_),(8,_),(9,_),(10,_),(23,_),(24,_),(25,_)] ⟨ke rfl,ke rfl,ke rfl,ke rfl,ke rfl,ke rfl,ke rfl,ke rfl,ke rfl,trivial⟩ (fun (m3:List BW) (s5:DS) v3=>[(5,Af v3 (lens (m3.map EF).length))]) (fun (m3:List BW) (s5:DS) v3=>Hp M0 w0 S (Bi 86 8 (m3.map EF) v3::DT b s5::Ak M1 w1::rs)) (fun (m3:List BW) (s5:DS)=>m3.length≤6*k+3∧Hz e.Bp m3) ?_ ?_
 refine Tr.seq (Tr.Aj (cm rfl (cm rfl ?_)))
 refine Ch.cs 55 rfl ?_ ?_<;>intro h6 q6
 refine NB h6 rfl (cy h6 rfl (ki rfl rfl rfl rfl) (co rfl (KH rfl rfl h6 rfl) (Ch.nil (Fin.go (JG 0 5 6 7 8 9 10 23 24 25 58 rfl ?_)))))
 refine Tr.cn rfl ?_ ?_<;>intro h7 q7
 have hof:=s4.QK (l:=[2,1]) AV
 simp at hof
 refine Tr.pad (Tr.GQ mixed [none,none,none,none,none,none,none,some (0,2,true,0),none,none,none,none,none,none,some (0,1,true,73),some (73,1,true,5)] BS (xm rfl (xm rfl (xo rfl (fun _=>QG rfl jB rfl rfl) (xo rfl (fun _=>GX rfl OM rfl) (xo rfl (fun _=>AR rfl (AEJ) trivial) (xm rfl (xo rfl (fun _=>AM (xs:=[.const (.int .i64 (2)),.const (.int .i64 (1))]) (rows:=[[_],[_]]) rfl rfl underlying22 CH z3 rfl AB ⟨⟨Am,(Vo rfl)⟩,⟨⟨Am,(Vo rfl)⟩,trivial⟩⟩ AB) ?_))))))))
 refine Cx.ef 2 rfl rfl AB (Aq rfl rfl AB rfl (WE (l:=[2,1]) AV AV) ⟨ke rfl,(Kf rfl),trivial⟩) ?_
 refine xo rfl (fun _=>AR rfl (YZ (name:=x.name) (a:=7) (b:=256) (id:=201) (to:=901) (key:=s4.of [2,1]) (AAw hnm (.inr ⟨rfl,rfl⟩) AA AA AA) (AAx (.inr ⟨rfl,rfl⟩) AA) AA) ⟨ke rfl,ke rfl,ke rfl,ke rfl,ke rfl,trivial⟩) ?_
 refine xo rfl (fun _=>QG rfl QM rfl rfl) (xo rfl (fun _=>GX rfl sy rfl) (xo rfl (fun _=>CW rfl underlying38 (vl rfl)) (xo rfl (fun _=>Al (rows:=[(0,[_]),(1,[_]),(4,_),(3,[_])]) rfl dO JI ⟨⟨rfl,(Vo rfl)⟩,⟨⟨rfl,(Vo rfl)⟩,⟨⟨rfl,⟨_,rfl,Pr.le_trans (kS) (Ac _)⟩⟩,⟨⟨rfl,(Vo rfl)⟩,trivial⟩⟩⟩⟩ rfl) (xo rfl (fun _=>AM (xs:=[.tmp 71]) (rows:=[EF ⟨((k:Nat):Int),5,0,((x.ids.length:Nat):Int),⟨7,256,201,[]⟩⟩]) rfl rfl underlying32 C9 Nx rfl AB ⟨⟨Am,VL.le (vl rfl) (Pr.le_trans (BR (qs:=EF _) ⟨Lr,Lr,Lr,Lr,Lr,Lr,Lr,qx hnm,trivial⟩) (Ac _))⟩,trivial⟩ AB) ?_))))
 refine Cx.ef 1 rfl rfl AB (Fw rfl rfl AB rfl underlying32 C9 YI Nx rfl AB AB (vl rfl) (Kf rfl) (Bl fun _=>rfl) (Nat.zero_lt_succ _) Mu Mw) ?_
 refine Cx.ef 1 rfl rfl AB (T7 rfl rfl AB rfl (vl rfl)) ?_
 refine Cx.nil ⟨rfl,?_⟩
 refine BH.open_ 1 5 rfl rfl (fun v3=> ?_)
 refine BH.done (Ax.cons (Ax.cons (Ax.cons (Ax.cons (Ax.map _))))) (Fin.drop 0 ?_)
 exact Fin.Bg (m2++[⟨((k:Nat):Int),5,0,((x.ids.length:Nat):Int),⟨7,256,201,[]⟩⟩]) (_) v3 (⟨by simp;omega,kW.snoc ⟨by show 0≤((k:Nat):Int);omega,by show ((k:Nat):Int)<_;omega,by dsimp only;omega⟩⟩) ⟨⟨_,rfl,C6 AV⟩,ke rfl,ke rfl,ke rfl,ke rfl,ke rfl,ke rfl,ke rfl,ke rfl,ke rfl,trivial⟩ (fun _ _ h=>Ly)
 refine Tr.skip (Fin.Bg (m2) (_) v2 (⟨by omega,kW⟩) ⟨⟨_,rfl,C6 AV⟩,ke rfl,ke rfl,ke rfl,ke rfl,ke rfl,ke rfl,ke rfl,ke rfl,ke rfl,trivial⟩ (fun _ _ h=>h))
 refine cnt h6 rfl (cnt h6 rfl (co rfl (Ou rfl rfl h6 rfl) (Ch.nil (Fin.go (JG 0 5 6 7 8 9 10 23 24 25 58 rfl (Tr.cond rfl (fun h=>nomatch h) (fun _=> ?_)))))))
 refine Tr.skip (Fin.Bg (m2) (_) v2 (⟨by omega,kW⟩) ⟨⟨_,rfl,C6 AV⟩,ke rfl,ke rfl,ke rfl,ke rfl,ke rfl,ke rfl,ke rfl,ke rfl,ke rfl,trivial⟩ (fun _ _ h=>h))
 rintro m3 s5 v3 ⟨AFF,bT⟩
 refine Tr.Ox [(0,_),(6,_),(7,_),(8,_),(9,_),(10,_),(23,_),(24,_),(25,_)] ⟨ke rfl,ke rfl,ke rfl,ke rfl,ke rfl,ke rfl,ke rfl,ke rfl,ke rfl,trivial⟩ (fun (m4:List BW) (s6:DS) v4=>[(5,Af v4 (lens (m4.map EF).length))]) (fun (m4:List BW) (s6:DS) v4=>Hp M0 w0 S (Bi 86 8 (m4.map EF) v4::DT b s6::Ak M1 w1::rs)) (fun (m4:List BW) (s6:DS)=>m4.length≤6*k+4∧Hz e.Bp m4) ?_ ?_
 refine Tr.seq (Tr.An (tm rfl (tm rfl ?_)))
 refine TO.cases 75 rfl (fun h8=> ?_) (fun h8=> ?_)
 have q8:=Co.C_ h8
 refine TO.FG rfl rfl rfl h8 rfl AB (QG rfl NI rfl rfl) (TO.FG rfl rfl rfl h8 rfl AB (GX rfl Sc rfl) (TO.FG rfl rfl rfl h8 rfl AB (AR rfl (bL) ⟨ke rfl,ke rfl,trivial⟩) (tp rfl (KH rfl rfl h8 rfl) (tm rfl ?_))))
 refine TO.cases 80 rfl (fun h9=> ?_) (fun h9=> ?_)
 have q9:=Co.C_ h9
 refine TO.FG rfl rfl rfl h9 rfl AB (BK rfl (vl rfl)) (TO.jX 1 rfl rfl rfl h9 rfl rfl AB (Aq rfl rfl AB rfl (CX AA AA) ⟨ke rfl,ke rfl,trivial⟩) (TO.FG rfl rfl rfl h9 rfl AB (ki rfl rfl rfl rfl) (tp rfl (KH rfl rfl h9 rfl) (TO.nil (Fin.go (JG 0 5 6 7 8 9 10 23 24 25 84 rfl ?_))))))
 refine Tr.cn rfl ?_ ?_<;>intro h10 PC
 refine Tr.An (tm rfl (tm rfl (tp rfl (Al (rows:=[(0,[_]),(1,[_]),(2,[_])]) rfl dO JI ⟨⟨rfl,(Vo rfl)⟩,⟨⟨rfl,(Vo rfl)⟩,⟨⟨rfl,(Vo rfl)⟩,trivial⟩⟩⟩ rfl) (tp rfl (AM (xs:=[.tmp 87]) (rows:=[EF ⟨((k:Nat):Int),2,2,0,⟨0,0,0,[]⟩⟩]) rfl rfl underlying32 C9 Nx rfl AB ⟨⟨Am,VL.le (vl rfl) (Pr.le_trans (BR (qs:=EF _) ⟨Lr,Lr,Lr,Lr,Lr,Lr,Lr,MZ,trivial⟩) (Ac _))⟩,trivial⟩ AB) ?_))))
 refine TO.DZ 0 rfl rfl AB (Fw rfl rfl AB rfl underlying32 C9 YI Nx rfl AB AB (vl rfl) (Kf rfl) (Bl fun _=>rfl) (Nat.zero_lt_succ _) Mu Mw) (fun v4=> ?_)
 refine tm rfl (TO.nil ?_)
 exact Fin.Bg (m3++[⟨((k:Nat):Int),2,2,0,⟨0,0,0,[]⟩⟩]) (_) v4 (⟨by simp;omega,bT.snoc ⟨by show 0≤((k:Nat):Int);omega,by show ((k:Nat):Int)<_;omega,by dsimp only;omega⟩⟩) ⟨⟨_,rfl,C6 AV⟩,ke rfl,ke rfl,ke rfl,ke rfl,ke rfl,ke rfl,ke rfl,ke rfl,ke rfl,trivial⟩ (fun _ _ h=>Ly)
 refine Tr.skip (Fin.Bg (m3) (_) v3 (⟨by omega,bT⟩) ⟨⟨_,rfl,C6 AV⟩,ke rfl,ke rfl,ke rfl,ke rfl,ke rfl,ke rfl,ke rfl,ke rfl,ke rfl,trivial⟩ (fun _ _ h=>h))
 have q9:=Co.C_ h9
 refine TO.UU rfl rfl rfl (Ba h9) rfl AB (TO.UU rfl rfl rfl (Ba h9) rfl AB (TO.UU rfl rfl rfl (Ba h9) rfl AB (tp rfl (Ou rfl rfl h9 rfl) (TO.nil (Fin.go (JG 0 5 6 7 8 9 10 23 24 25 84 rfl (Tr.cond rfl (fun h=>nomatch h) (fun _=> ?_))))))))
 refine Tr.skip (Fin.Bg (m3) (_) v3 (⟨by omega,bT⟩) ⟨⟨_,rfl,C6 AV⟩,ke rfl,ke rfl,ke rfl,ke rfl,ke rfl,ke rfl,ke rfl,ke rfl,ke rfl,trivial⟩ (fun _ _ h=>h))
 have q8:=Co.C_ h8
 refine TO.UU rfl rfl rfl (Ba h8) rfl AB (TO.UU rfl rfl rfl (Ba h8) rfl AB (TO.UU rfl rfl rfl (Ba h8) rfl AB (tp rfl (Ou rfl rfl h8 rfl) (tm rfl (TO.UU rfl rfl rfl (Ba rfl) rfl AB (TO.UU rfl rfl rfl (Ba rfl) rfl AB (TO.UU rfl rfl rfl (Ba rfl) rfl AB (tp rfl (Ou rfl rfl rfl rfl) (TO.nil (Fin.go (JG 0 5 6 7 8 9 10 23 24 25 84 rfl (Tr.cond rfl (fun h=>nomatch h) (fun _=> ?_)))))))))))))
 refine Tr.skip (Fin.Bg (m3) (_) v3 (⟨by omega,bT⟩) ⟨⟨_,rfl,C6 AV⟩,ke rfl,ke rfl,ke rfl,ke rfl,ke rfl,ke rfl,ke rfl,ke rfl,ke rfl,trivial⟩ (fun _ _ h=>h))
 rintro m4 s6 v4 ⟨AFG,kX⟩
 refine Tr.seq (Tr.Aj (cm rfl (cm rfl ?_)))
 refine Ch.cs 91 rfl ?_ ?_<;>intro h11 Rt
 refine cy h11 rfl (QG rfl YD rfl rfl) (cy h11 rfl (GX rfl DF rfl) (cy h11 rfl (ki rfl rfl rfl rfl) (co rfl (KH rfl rfl h11 rfl) (Ch.nil (Fin.go (UB 0 5 6 7 8 9 23 24 25 95 rfl ?_))))))
 refine Tr.cn rfl ?_ ?_<;>intro h12 VQ
 refine Tr.An (tm rfl (tm rfl (tp rfl (Al (rows:=[(0,[_]),(1,[_]),(2,[_])]) rfl dO JI ⟨⟨rfl,(Vo rfl)⟩,⟨⟨rfl,(Vo rfl)⟩,⟨⟨rfl,(Vo rfl)⟩,trivial⟩⟩⟩ rfl) (tm rfl (tp rfl (Al (rows:=[(0,[_]),(1,[_]),(2,[_])]) rfl dO JI ⟨⟨rfl,(Vo rfl)⟩,⟨⟨rfl,(Vo rfl)⟩,⟨⟨rfl,(Vo rfl)⟩,trivial⟩⟩⟩ rfl) (tp rfl (AM (xs:=[.tmp 98,.tmp 100]) (rows:=[EF ⟨((k:Nat):Int),3,4,0,⟨0,0,0,[]⟩⟩,EF ⟨((k:Nat):Int),1,14,0,⟨0,0,0,[]⟩⟩]) rfl rfl underlying32 C9 Nx rfl AB ⟨⟨Am,VL.le (vl rfl) (Pr.le_trans (BR (qs:=EF _) ⟨Lr,Lr,Lr,Lr,Lr,Lr,Lr,MZ,trivial⟩) (Ac _))⟩,⟨⟨Am,VL.le (vl rfl) (Pr.le_trans (BR (qs:=EF _) ⟨Lr,Lr,Lr,Lr,Lr,Lr,Lr,MZ,trivial⟩) (Ac _))⟩,trivial⟩⟩ AB) ?_))))))
 refine TO.DZ 0 rfl rfl AB (Fw rfl rfl AB rfl underlying32 C9 YI Nx rfl AB AB (vl rfl) (Kf rfl) (Bl fun _=>rfl) (Nat.zero_lt_succ _) Mu Mw) (fun v5=> ?_)
 refine tm rfl (TO.nil (Fin.block (Fin.go (wk8 0 5 6 7 8 23 24 25 rfl (Tr.Aj (LH rfl rfl rfl rfl AA (cm rfl (Ch.nil ?_))))))))
 exact Fin.EC (k+1) (m4++[⟨((k:Nat):Int),3,4,0,⟨0,0,0,[]⟩⟩,⟨((k:Nat):Int),1,14,0,⟨0,0,0,[]⟩⟩]) (_) v5 (⟨⟨by omega,by simp;omega,kX.two ⟨by show 0≤((k:Nat):Int);omega,by show ((k:Nat):Int)<_;omega,by dsimp only;omega⟩ ⟨by show 0≤((k:Nat):Int);omega,by show ((k:Nat):Int)<_;omega,by dsimp only;omega⟩⟩,by omega⟩) ⟨⟨_,rfl,AG k⟩,⟨_,rfl,C6 AV⟩,ke rfl,ke rfl,ke rfl,ke rfl,ke rfl,ke rfl,trivial⟩ (fun _ _ h=>Ly)
 refine Tr.skip (Fin.block (Fin.go (Tr.Aj (LH rfl rfl rfl rfl AA (cm rfl (Ch.nil (Fin.EC (k+1) (m4) (_) v4 (⟨⟨by omega,by omega,kX⟩,by omega⟩) ⟨⟨_,rfl,AG k⟩,⟨_,rfl,C6 AV⟩,ke rfl,ke rfl,ke rfl,ke rfl,ke rfl,ke rfl,trivial⟩ (fun _ _ h=>h))))))))
 refine cnt h11 rfl (cnt h11 rfl (cnt h11 rfl (co rfl (Ou rfl rfl h11 rfl) (Ch.nil (Fin.go (UB 0 5 6 7 8 9 23 24 25 95 rfl (Tr.cond rfl (fun h=>nomatch h) (fun _=> ?_))))))))
 refine Tr.skip (Fin.block (Fin.go (Tr.Aj (LH rfl rfl rfl rfl AA (cm rfl (Ch.nil (Fin.EC (k+1) (m4) (_) v4 (⟨⟨by omega,by omega,kX⟩,by omega⟩) ⟨⟨_,rfl,AG k⟩,⟨_,rfl,C6 AV⟩,ke rfl,ke rfl,ke rfl,ke rfl,ke rfl,ke rfl,trivial⟩ (fun _ _ h=>h))))))))
 have:=h1
 refine Tr.exit (Fin.Ag (Fin.Ag (Fin.BD (Fin.go (Tr.seq (Tr.block ?_))))))
 rcases Nat.eq_zero_or_pos ms.length with h0|h0
 refine Tr.BE [(0,_)] ⟨ke rfl,trivial⟩ (fun _=>[(5,Af v (lens (ms.map EF).length))]) (fun _=>True) (fun _=>0) () (trivial) ⟨ke rfl,trivial⟩ ?_
 rintro _ _
 refine Tr.seq (Tr.seq (Tr.Aj (cm rfl (co rfl (V9 rfl underlying32 (Kb rfl)) (co rfl (ki rfl rfl rfl rfl) (Ch.nil (Fin.go ?_)))))))
 refine Tr.cn rfl ?_ ?_<;>intro Nv eE
 exfalso;have h_:=Co.C_ Nv;rw [List.length_map] at h_;omega
 have:=Nv
 refine Tr.exit (Fin.Ag (Fin.Ag (Fin.BD (Fin.go (Tr.seq (Tr.seq ?_))))))
 have hv4:=s2.C5 (n:=4) AA
 refine Tr.An (tm rfl (TO.IK 1 rfl rfl AB (Aq rfl rfl AB rfl (CX AA AA) ⟨ke rfl,ke rfl,trivial⟩) (tm rfl (TO.nil (Fin.go (Tr.block (Tr.DE [(0,_)] ⟨ke rfl,trivial⟩ (fun (q:Int) (s9:DS)=>[(11,int q),(5,Af v (lens (ms.map EF).length))]) (fun (q:Int) (s9:DS)=>Hp M0 w0 S (Bi 86 8 (ms.map EF) v::DT b s9::Ak M1 w1::rs)) (fun (q:Int) (s9:DS)=>True) (fun (q:Int) (s9:DS)=>q.toNat) (_) (_)  (trivial) ⟨ke rfl,ke rfl,trivial⟩ (fun _ _ h=>h) ?_)))))))
 rintro q s9  _
 refine Tr.seq (Tr.seq (Tr.Aj (cm rfl (co rfl (ki rfl rfl rfl rfl) (cm rfl ?_)))))
 refine Ch.cs 116 rfl ?_ ?_<;>intro Mo q14
 refine NB Mo rfl (cy Mo rfl (V9 rfl underlying32 (Kb rfl)) (cy Mo rfl (ki rfl rfl rfl rfl) (co rfl (KH rfl rfl Mo rfl) (Ch.nil (Fin.go ?_)))))
 refine Tr.cn rfl ?_ ?_<;>intro Vs q15
 exfalso;have h_:=Co.C_ Vs;rw [List.length_map] at h_;omega
 have:=Vs
 refine Tr.exit (Fin.Ag (Fin.Ag (Fin.BD (Fin.go (Tr.seq (Tr.qK 0 5 rfl rfl (Bl fun _=>rfl) (Tr.Aj (cm rfl (cm rfl (Ch.nil (Fin.go (Tr.ret (Fin.Gv 1 _ rfl rfl (Fin.GG [_] rfl (AO.tmp rfl (Lr)) ?_ (fun _ _ _ _=>rfl)))))))))))))))
 · exact Pr.le_trans (At _ _) (Ur Sw AA)
 refine cnt Mo rfl (cnt Mo rfl (cnt Mo rfl (co rfl (Ou rfl rfl Mo rfl) (Ch.nil (Fin.go (Tr.cond rfl (fun h=>nomatch h) (fun _=> ?_)))))))
 refine Tr.exit (Fin.Ag (Fin.Ag (Fin.BD (Fin.go (Tr.seq (Tr.qK 0 5 rfl rfl (Bl fun _=>rfl) (Tr.Aj (cm rfl (cm rfl (Ch.nil (Fin.go (Tr.ret (Fin.Gv 1 _ rfl rfl (Fin.GG [_] rfl (AO.tmp rfl (Lr)) ?_ (fun _ _ _ _=>rfl)))))))))))))))
 · exact Pr.le_trans (At _ _) (Ur Sw AA)
 refine Tr.ze (sz:=8) 0 rfl (by intro h_;simp at h_;rw [h_] at h0;simp at h0) fun b9 AA4 sp9 hv9 hg9 hm9 hs9=> ?_
 subst hv9
 rw [List.length_map] at hg9 hs9
 refine Tr.MC [(0,_)] ⟨ke rfl,trivial⟩ (fun (m:Nat)=>[(5,is (.slice (some ⟨b9,0,none⟩) m AA4))]) (fun (m:Nat)=>Hp M0 w0 S (AF true b9 86 ((ms.map EF).flatten++sp9.map is)::DT b s2::Ak M1 w1::rs)) (fun (m:Nat)=>1≤m∧m≤ms.length) (fun (m:Nat)=>m) (ms.length)  (⟨h0,Nat.le_refl _⟩) ⟨⟨_,rfl,Pr.le_trans (FP _ _) (Pr.le_of_eq (by rw [List.length_map]))⟩,trivial⟩ (fun _ _ h=>h) ?_
 rintro m  ⟨hm1,hm2⟩
 refine Tr.seq (Tr.seq (Tr.Aj (cm rfl (co rfl (Ow rfl underlying32 (vl rfl)) (co rfl (ki rfl rfl rfl rfl) (Ch.nil (Fin.go ?_)))))))
 refine Tr.cn rfl ?_ ?_<;>intro h16 q16
 have hm7:7<m:=by have:=Co.C_ h16;omega
 refine Tr.skip (Fin.go (Tr.block (Tr.Aj (cm rfl (cm rfl (co rfl (Ow rfl underlying32 (vl rfl)) (csu rfl rfl rfl rfl AA (co rfl (V7 rfl underlying32 C9 (vl rfl) (vl rfl) AA AA AA AA) (cm rfl (Ch.nil (Fin.block ?_)))))))))))
 exact Fin.MD (m-1)  (⟨⟨by omega,by omega⟩,by omega⟩) ⟨⟨_,rfl,Pr.le_of_eq (by congr 2;omega)⟩,ke rfl,trivial⟩ (fun _ _ h=>h)
 have hm7:m≤7:=by have:=Co.C_ h16;omega
 refine Tr.exit (Fin.Ag (Fin.Ag (Fin.BD (Fin.go (Tr.seq (Tr.seq ?_))))))
 have hv4:=s2.C5 (n:=4) AA
 refine Tr.An (tm rfl (TO.IK 1 rfl rfl AB (Aq rfl rfl AB rfl (CX AA AA) ⟨ke rfl,ke rfl,trivial⟩) (tm rfl (TO.nil (Fin.go (Tr.block (Tr.QJ [(0,_)] ⟨ke rfl,trivial⟩ (fun (q:Int) (ns:List BW) (s9:DS)=>[(11,int q),(5,is (.slice (some ⟨b9,0,none⟩) m AA4))]) (fun (q:Int) (ns:List BW) (s9:DS)=>Hp M0 w0 S (AF true b9 86 ((ns.map EF).flatten++sp9.map is)::DT b s9::Ak M1 w1::rs)) (fun (q:Int) (ns:List BW) (s9:DS)=>(ns.length=ms.length∧q≤3)∧Hz e.Bp ns) (fun (q:Int) (ns:List BW) (s9:DS)=>q.toNat) (_) (ms) (_)  (⟨⟨rfl,by omega⟩,Sw⟩) ⟨ke rfl,ke rfl,trivial⟩ (fun _ _ h=>h) ?_)))))))
 rintro q ns s9  ⟨⟨hn1,hn3⟩,hn2⟩
 refine Tr.seq (Tr.seq (Tr.Aj (cm rfl (co rfl (ki rfl rfl rfl rfl) (cm rfl ?_)))))
 refine Ch.cs 116 rfl ?_ ?_<;>intro OL q17
 refine NB OL rfl (cy OL rfl (Ow rfl underlying32 (vl rfl)) (cy OL rfl (ki rfl rfl rfl rfl) (co rfl (KH rfl rfl OL rfl) (Ch.nil (Fin.go ?_)))))
 refine Tr.cn rfl ?_ ?_<;>intro Rr q18
 have hq1:=Co.C_ Rr
 refine Tr.skip (Fin.go (Tr.seq (Tr.block (Tr.seq ?_))))
 have hvm:=s9.C5 (n:=((m:Nat):Int)-1) AA
 refine Tr.An (tm rfl (tm rfl (tp rfl (Ow rfl underlying32 (vl rfl)) ?_)))
 refine tp rfl (Xx rfl (vl rfl) (vl rfl) ?hin) ?_;case hin=>unfold OK;omega
 refine TO.IK 1 rfl rfl AB (Aq rfl rfl AB rfl (CX AA AA) ⟨ke rfl,ke rfl,trivial⟩) (tm rfl (TO.nil (Fin.go (UA 0 5 11 12 rfl (Tr.GQ mixed [none,none,none,none,none,none,none,none,none,some (0,0,false,0),none,none,none,some (0,0,false,0),none,some (0,0,true,0),none,some (0,0,true,0)] BS ?_)))))
 iterate 4 refine xm rfl ?_
 refine xo rfl (fun _=>E5 rfl (vl rfl) (vl rfl) ?hin) ?_;case hin=>unfold OK;omega
 refine xm rfl (xm rfl ?_)
 refine xo rfl (fun _=>E5 rfl (vl rfl) (vl rfl) ?hin) ?_;case hin=>unfold OK;omega
 refine xo rfl (fun _=>Bb rfl underlying32 C9 (vl rfl) (vl rfl) AA AA) (JP 0 rfl rfl (CM rfl GY C9 (vl rfl) (Si (f:=EF) (fun _=>rfl) AA) rfl) (xm rfl (xm rfl (xo rfl (fun _=>Bb rfl underlying32 C9 (vl rfl) (vl rfl) AA AA) (JP 0 rfl rfl (CM rfl GY C9 (vl rfl) (Si (f:=EF) (fun _=>rfl) AA) rfl) (xo rfl (fun _=>Bb rfl underlying32 C9 (vl rfl) (vl rfl) AA AA) ?_))))))
 refine Cx.Dr 0 rfl rfl (A_ rfl rfl (vl rfl) (Va rfl) C9 rfl (by rw [KJ (sz:=8) (fun _=>rfl)];omega) (Ib (f:=EF) (fun _=>rfl) AA)) ?_
 refine xo rfl (fun _=>Bb rfl underlying32 C9 (vl rfl) (vl rfl) AA AA) ?_
 refine Cx.Dr 0 rfl rfl (A_ rfl rfl (vl rfl) (Va rfl) C9 rfl (by rw [KJ (sz:=8) (fun _=>rfl)];simp only [List.length_set];omega) (Ib (f:=EF) (fun _=>rfl) (by simp only [List.length_set];omega))) ?_
 refine Cx.nil ⟨rfl,?_⟩
 refine BH.done (Ax.cons (Ax.cons (Ax.cons (Ax.map _)))) (Fin.block (Fin.go (GF 0 5 11 rfl (Tr.Aj (cm rfl (csu rfl rfl rfl rfl AA (cm rfl (Ch.nil (Fin.F7 (q-1) (_) (_)  (⟨⟨⟨(Qe AA AA).length_eq.trans hn1,by omega⟩,Hz.perm (Qe AA AA) hn2⟩,by omega⟩) ⟨⟨_,rfl,int_eq AA⟩,ke rfl,ke rfl,trivial⟩ (fun _ _ h=>h))))))))))
 have:=Rr
 refine Tr.exit (Fin.Ag (Fin.Ag (Fin.BD (Fin.go (Tr.seq (Tr.nW 0 (((ns.take m).map EF).flatten++(((ns.drop m).map EF).flatten++sp9.map is)) rfl Zk ?_))))))
 have hnt:(ns.take m).length=m:=by rw [List.length_take];omega
 refine Tr.dP (sz:=8) ((ns.take m).map EF) 0 5 rfl rfl (Pr.le_of_eq (by rw [List.length_map,hnt])) (Bl fun _=>rfl) EM hm9 iA ?_
 refine Tr.Aj (cm rfl (cm rfl (Ch.nil (Fin.go (Tr.ret (Fin.Gv 1 _ rfl rfl (Fin.GG [_] rfl (AO.tmp rfl (Lr)) ?_ (fun _ _ _ _=>rfl))))))))
 · exact Pr.le_trans (At _ _) (Ur hn2.take AA)
 refine cnt OL rfl (cnt OL rfl (cnt OL rfl (co rfl (Ou rfl rfl OL rfl) (Ch.nil (Fin.go (Tr.cond rfl (fun h=>nomatch h) (fun _=> ?_)))))))
 refine Tr.exit (Fin.Ag (Fin.Ag (Fin.BD (Fin.go (Tr.seq (Tr.nW 0 (((ns.take m).map EF).flatten++(((ns.drop m).map EF).flatten++sp9.map is)) rfl Zk ?_))))))
 have hnt:(ns.take m).length=m:=by rw [List.length_take];omega
 refine Tr.dP (sz:=8) ((ns.take m).map EF) 0 5 rfl rfl (Pr.le_of_eq (by rw [List.length_map,hnt])) (Bl fun _=>rfl) EM hm9 iA ?_
 refine Tr.Aj (cm rfl (cm rfl (Ch.nil (Fin.go (Tr.ret (Fin.Gv 1 _ rfl rfl (Fin.GG [_] rfl (AO.tmp rfl (Lr)) ?_ (fun _ _ _ _=>rfl))))))))
 · exact Pr.le_trans (At _ _) (Ur hn2.take AA)
structure R8 (n:Int) (k:Nat) (l:List Int):Prop where
 at_:∀j,j<l.length→setAt n l j=true
 lt:∀x∈l,x<(k:Int)
 len:l.length≤k
theorem R8.nil (n:Int) (k:Nat):R8 n k []:=⟨fun j hj=>by simp at hj,fun x hx=>by simp at hx,by simp⟩
theorem R8.step {n:Int} {k:Nat} {l:List Int} (h:R8 n k l):R8 n (k+1) l:=⟨h.at_,fun x hx=>by have:=h.lt x hx;omega,by have:=h.len;omega⟩
theorem R8.snoc {n:Int} {k:Nat} {l:List Int} (h:R8 n k l) (hk:(k:Int)<n):R8 n (k+1) (l++[(k:Int)]):=by
 refine ⟨fun j hj=> ?_,fun x hx=> ?_,by have:=h.len;simp;omega⟩
 ·
  rw [List.length_append] at hj;simp at hj
  rcases Nat.lt_or_ge j l.length with hl|hl
  ·
   have:=h.at_ j hl
   unfold setAt at this ⊢
   rw [List.getElem?_append_left hl,List.getElem?_append_left (show j-1<l.length by omega)];exact this
  ·
   have:j=l.length:=by omega
   subst this
   unfold setAt
   rw [List.getElem?_append_right (Nat.le_refl _),Nat.sub_self]
   rcases Nat.eq_zero_or_pos l.length with hz|hz
   ·
    obtain rfl:=List.eq_nil_of_length_eq_zero hz
    simp;omega
   ·
    obtain ⟨y,hy⟩:=Cp.at_ (l:=l) (k:=l.length-1) AA
    rw [List.getElem?_append_left (show l.length-1<l.length by omega),hy]
    have:=h.lt y (List.mem_of_getElem? hy)
    simp;omega
 ·
  rcases List.mem_append.1 hx with hx|hx
  · have:=h.lt x hx;omega
  · simp at hx;subst hx;omega
theorem R8.set {n:Int} {k:Nat} {l:List Int} (h:R8 n k l):Dx n l=true:=B6.2 h.at_
structure Ik where
 lo:Int
 hi:Int
 Ae:List Int
structure BP where
 Bw:List Ik
 Il:List Int
 room:List Int
def vi (w:Ik):List Pr:=[int w.lo,int w.hi,ints w.Ae]
abbrev AA5 (l:List Ik):Pr:=slice 3 (l.map vi)
def La (c:BP):Pr:=agg [AA5 c.Bw,ints c.Il,ints c.room]
instance AA6 (l:List Int):One (ints l):=dG _ _
def D4 (day:Int) (w:Ik):Bool:=decide (w.lo≤day)&&decide (day<w.hi)
def BP.has (c:BP) (n:Int):Bool:=decide (0≤n)&&decide (n<c.room.length)
def BP.at (c:BP) (day:Int):Int:=idx (D4 day) c.Bw
def KQ (n:Int):Bool:=decide (n<0)||decide (n>24)
def Lb (w:Ik):Bool:=decide (w.lo<0)||decide (w.lo≥w.hi)||decide (w.hi>40001)
def Us (l:List Int):Prop:=∀(j:Nat) a b,l[j]? =some a→l[j+1]? =some b→a<b
def Yo (l:List Ik):Prop:=∀(j:Nat) a b,l[j]? =some a→l[j+1]? =some b→a.hi≤b.lo
open Classical in
noncomputable def BP.check (c:BP) (eT:Int):Int:=
 if 32<c.Bw.length∨8<c.room.length then 3
 else if c.room.any KQ then 2
 else if c.Bw.any Lb then 47
 else if ¬(Yo c.Bw∧∀w∈c.Bw,Us w.Ae) then 6
 else if c.Bw.any (fun w=>w.Ae.any fun n=> !c.has n) then 2
 else if (c.Il.length:Int)≠eT∨c.Il.any (fun n=> !c.has n) then 1
 else 0
noncomputable def BP.own (c:BP):Int:=c.check c.Il.length
theorem Sx {β:Type} (p:β→Bool) (l:List β): -1≤idx p l∧idx p l<l.length:=by
 unfold idx
 cases h:l.findIdx? p with
 |none=>simp;omega
 |some i=>
  rw [List.findIdx?_eq_some_iff_getElem] at h
  obtain ⟨h1,_⟩:=h
  simp;omega
theorem qz {β:Type} {p:β→Bool} {l:List β} (h:0≤idx p l):∃x,l[(idx p l).toNat]? =some x∧p x=true:=by
 unfold idx at*
 cases h':l.findIdx? p with
 |none=>rw [h'] at h;simp at h
 |some i=>
  rw [List.findIdx?_eq_some_iff_getElem] at h'
  obtain ⟨h1,h2,_⟩:=h'
  exact ⟨l[i],by simp,h2⟩
def BP.Sy (c:BP) (day:Int):Option Ik:=c.Bw.find? (D4 day)
theorem Qu {β:Type} (p:β→Bool) (l:List β):l.find? p=if 0≤idx p l then l[(idx p l).toNat]? else none:=by
 unfold idx
 cases h:l.findIdx? p with
 |none=>
  rw [List.findIdx?_eq_none_iff] at h
  rw [if_neg AV,List.find?_eq_none]
  intro x hx;simpa using h x hx
 |some i=>
  rw [List.findIdx?_eq_some_iff_getElem] at h
  obtain ⟨h1,h2,h3⟩:=h
  simp only [Int.natCast_nonneg,if_true,Int.toNat_natCast]
  rw [List.getElem?_eq_getElem h1,List.find?_eq_some_iff_getElem]
  exact ⟨h2,i,h1,rfl,fun j hj=>by simpa using h3 j hj⟩
def BP.may (c:BP) (n day:Int):Bool:=match c.Sy day with|some w=>w.Ae.any (fun x=>n==x)|none=>false
theorem eU {l:List Ik} {k:Nat} {x:Ik} (hx:l[k]? =some x) (hp:∀y,0<k→l[k-1]? =some y→y.hi≤x.lo) (h:∀(j:Nat) a b,j+1<k→l[j]? =some a→l[j+1]? =some b→a.hi≤b.lo):
  ∀(j:Nat) a b,j+1<k+1→l[j]? =some a→l[j+1]? =some b→a.hi≤b.lo:=by
 intro j a b hj ha hb
 by_cases hjk:j+1=k
 · exact Tg
 · exact h j a b AA ha hb
theorem eV {l:List Int} {k:Nat} {x:Int} (hx:l[k]? =some x) (hp:∀y,0<k→l[k-1]? =some y→y<x) (h:∀(j:Nat) a b,j+1<k→l[j]? =some a→l[j+1]? =some b→a<b):
  ∀(j:Nat) a b,j+1<k+1→l[j]? =some a→l[j+1]? =some b→a<b:=by
 intro j a b hj ha hb
 by_cases hjk:j+1=k
 · exact Tg
 · exact h j a b AA ha hb
theorem q_ {l:List Ik} {k:Nat} {x:Ik} (hx:l[k]? =some x) (hp:∀(j:Nat) a b,j+1<x.Ae.length→x.Ae[j]? =some a→x.Ae[j+1]? =some b→a<b) (h:∀(j:Nat) a,j<k→l[j]? =some a→Us a.Ae):
  ∀(j:Nat) a,j<k+1→l[j]? =some a→Us a.Ae:=by
 intro j a hj ha
 by_cases hjk:j=k
 ·
  subst hjk;rw [hx] at ha;cases ha
  intro i u v hu hv
  exact hp i u v (by rcases Nat.lt_or_ge (i+1) x.Ae.length with h|h;exact h;rw [List.getElem?_eq_none h] at hv;cases hv) hu hv
 · exact h j a AA ha
theorem PI {l:List Ik} (h:(∀(j:Nat) a b,j+1<l.length→l[j]? =some a→l[j+1]? =some b→a.hi≤b.lo)∧∀(j:Nat) a,j<l.length→l[j]? =some a→Us a.Ae):Yo l∧∀w∈l,Us w.Ae:=by
 refine ⟨fun j a b ha hb=>h.1 j a b (by rcases Nat.lt_or_ge (j+1) l.length with h|h;exact h;rw [List.getElem?_eq_none h] at hb;cases hb) ha hb,fun w hw=> ?_⟩
 obtain ⟨j,hj,rfl⟩:=List.mem_iff_getElem.1 hw
 exact h.2 j _ hj (List.getElem?_eq_getElem hj)
theorem kY {l:List Ik} {k:Nat} {x y:Ik} (hk:0<k) (hx:l[k]? =some x) (hy:l[k-1]? =some y) (h:x.lo<y.hi):¬(Yo l∧∀w∈l,Us w.Ae):=by
 rintro ⟨h1,_⟩
 have:=h1 (k-1) y x hy (by rw [show k-1+1=k by omega];exact hx)
 omega
theorem kZ {l:List Ik} {k i:Nat} {x:Ik} {t u:Int} (hx:l[k]? =some x) (hi:0<i) (ht:x.Ae[i]? =some t) (hu:x.Ae[i-1]? =some u) (h:t≤u):¬(Yo l∧∀w∈l,Us w.Ae):=by
 rintro ⟨_,h2⟩
 have:=h2 x (List.mem_of_getElem? hx) (i-1) u t hu (by rw [show i-1+1=i by omega];exact ht)
 omega
def D5 (n d:Int) (room:Nat→Bool):Nat→List Ik→Option Int
 |_,[]=>none
 |i,w::r=>if d<w.hi∧w.Ae.any (fun x=>n==x)∧room i then some (max d w.lo) else D5 n d room (i+1) r
def BP.next (c:BP) (n day:Int) (room:Nat→Bool):Option Int:=D5 n (max day 0) room 0 c.Bw
theorem bU {β:Type} {l:List β} {k:Nat} {x:β} (h:l[k]? =some x):l.drop k=x::l.drop (k+1):=by
 have hk:k<l.length:=by rcases Nat.lt_or_ge k l.length with h'|h';exact h';rw [List.getElem?_eq_none h'] at h;cases h
 rw [List.drop_eq_getElem_cons hk]
 rw [List.getElem?_eq_getElem hk] at h
 simp at h;rw [h]
theorem kf {n d:Int} {room:Nat→Bool} {l:List Ik} {k:Nat} {x:Ik} (h:l[k]? =some x) (h1:d<x.hi) (h2:x.Ae.any (fun y=>n==y)=true) (h3:room k=true):D5 n d room k (l.drop k)=some (max d x.lo):=by
 rw [bU h,D5,if_pos ⟨h1,h2,h3⟩]
theorem eW {n d:Int} {room:Nat→Bool} {l:List Ik} {k:Nat} {x:Ik} (h:l[k]? =some x) (h':¬(d<x.hi∧x.Ae.any (fun y=>n==y)=true∧room k=true)):D5 n d room k (l.drop k)=D5 n d room (k+1) (l.drop (k+1)):=by
 rw [bU h,D5,if_neg h']
noncomputable def BP.EI (c:BP) (Ae days others:List Int):Int:=
 if c.own≠0 then c.own else if Ae.length≠days.length then 1 else if 24<Ae.length then 3
 else if (Ae++others).any (fun n=> !c.has n) then 2 else if (Ae.zip days).all (fun p=>c.may p.1 p.2) then 0 else 47
def BP.cell (c:BP) (p:Int×Int):Nat:=(c.at p.2).toNat*8+p.1.toNat
def BP.cnt (c:BP) (l:List (Int×Int)) (k:Nat):Nat:=l.countP fun p=>c.cell p==k
def BP.AA7 (c:BP) (l:List (Int×Int)):List Int:=(List.range 256).map fun k=>(c.cnt l k:Int)
def AA8 (c:BP) (l:List (Int×Int)):List Pr:=(c.AA7 l).map fun z=>int z
theorem vk (c:BP) (l:List (Int×Int)) (k:Nat):c.cnt l k≤l.length:=List.countP_le_length
theorem WX {a b:List Int} {k:Nat} {x y:Int} (hx:a[k]? =some x) (hy:b[k]? =some y):(a.zip b).take (k+1)=(a.zip b).take k++[(x,y)]:=by
 have hz:(a.zip b)[k]? =some (x,y):=by rw [List.getElem?_zip_eq_some];exact ⟨hx,hy⟩
 rw [List.take_add_one,hz];rfl
theorem kg {c:BP} {n d:Int} (h:c.may n d=true):0≤c.at d:=by
 have h2:=Qu (D4 d) c.Bw
 unfold BP.may BP.Sy at h
 unfold BP.at
 rcases Int.lt_or_le (idx (D4 d) c.Bw) 0 with h3|h3
 ·
  rw [if_neg AA] at h2
  rw [h2] at h;cases h
 · exact h3
theorem Qv {c:BP} (h:c.own=0):c.Bw.length≤32∧c.room.length≤8:=by
 unfold BP.own BP.check at h
 split at h
 · omega
 · omega
theorem kj {c:BP} {n:Int} (h:c.own=0) (hn:c.has n=true):0≤n∧n<8:=by
 have:=(Qv h).2
 unfold BP.has at hn
 simp at hn
 omega
theorem vm {c:BP} {a b:List Int} {k:Nat} {n d:Int} (hx:a[k]? =some n) (hd:b[k]? =some d) (h:(!c.may n d)=true):¬(a.zip b).all (fun p=>c.may p.1 p.2)=true:=by
 intro h2
 rw [List.all_eq_true] at h2
 have hz:(a.zip b)[k]? =some (n,d):=by rw [List.getElem?_zip_eq_some];exact ⟨hx,hd⟩
 have:=h2 _ (List.mem_of_getElem? hz)
 simp [this] at h
theorem rA {c:BP} {a b:List Int} (h:((a.zip b).take a.length).all (fun p=>c.may p.1 p.2)=true) (hl:a.length=b.length):(a.zip b).all (fun p=>c.may p.1 p.2)=true:=by
 rwa [List.take_of_length_le B9] at h
theorem vn {c:BP} {l:List Int} {n:Int} (h:l.any (fun n=> !c.has n)=false) (hn:n∈l):c.has n=true:=by
 rw [List.any_eq_false] at h
 simpa using h n hn
def BP.over (c:BP) (l:List (Int×Int)):Prop:=∃(i n:Nat) (r:Int),i<c.Bw.length∧c.room[n]? =some r∧r<(c.cnt l (i*8+n):Int)
open Classical in
noncomputable def BP.DU (c:BP) (Ae days others:List Int):Int:=
 if c.EI Ae days others≠0 then c.EI Ae days others else if c.over (Ae.zip days) then 48 else 0
noncomputable def td (c:BP) (Ae days others:List Int):Pr:=if c.DU Ae days others=0 then ref (AA8 c (Ae.zip days)) else is (.pointer none)
noncomputable instance yK (c:BP) (Ae days others:List Int):One (td c Ae days others):=by
 unfold td;split
 · exact aJ _
 · exact aI _
theorem GJ {c:BP} {Ae days others:List Int} (h:c.EI Ae days others=0):c.own=0:=by
 unfold BP.EI at h
 by_cases h':c.own=0
 · exact h'
 · rw [if_pos h'] at h;exact absurd h h'
theorem WY {c:BP} {Ae days others:List Int} (h:c.EI Ae days others=0):∀n∈Ae++others,c.has n=true:=by
 have ho:=GJ h
 unfold BP.EI at h
 rw [if_neg (not_not_intro ho)] at h
 split at h
 · cases h
 ·
  split at h
  · cases h
  ·
   split at h
   · cases h
   ·
    rename_i h1
    intro n hn
    exact vn (by simpa using h1) hn
theorem G4 {c:BP} {Ae days others:List Int} (h:c.DU Ae days others=0):c.EI Ae days others=0:=by
 unfold BP.DU at h
 by_cases h':c.EI Ae days others=0
 · exact h'
 · rw [if_pos h'] at h;exact absurd h h'
theorem Yp {c:BP} {l:List (Int×Int)} {i:Nat} (h0:∀i' n r,i'<i→c.room[n]? =some r→(c.cnt l (i'*8+n):Int)≤r) (h1:∀n r,n<c.room.length→c.room[n]? =some r→(c.cnt l (i*8+n):Int)≤r):∀i' n r,i'<i+1→c.room[n]? =some r→(c.cnt l (i'*8+n):Int)≤r:=by
 intro i' n r hi hr
 by_cases hii:i'=i
 ·
  subst hii
  refine h1 n r ?_ hr
  rcases Nat.lt_or_ge n c.room.length with h|h
  · exact h
  · rw [List.getElem?_eq_none h] at hr;cases hr
 · exact h0 i' n r AA hr
theorem Yq {c:BP} {l:List (Int×Int)} {i m:Nat} {r:Int} (h0:∀n r,n<m→c.room[n]? =some r→(c.cnt l (i*8+n):Int)≤r) (hx:c.room[m]? =some r) (hle:(c.cnt l (i*8+m):Int)≤r):∀n r,n<m+1→c.room[n]? =some r→(c.cnt l (i*8+n):Int)≤r:=by
 intro n r' hn hr
 by_cases hnm:n=m
 · subst hnm;rw [hx] at hr;cases hr;exact hle
 · exact h0 n r' AA hr
def BP.Lc (c:BP) (n:Int):Int:=(c.room[n.toNat]?).getD 0
theorem Qw {c:BP} {n:Int} (h:c.has n=true):0≤n∧c.room[n.toNat]? =some (c.Lc n):=by
 unfold BP.has at h
 simp at h
 refine ⟨h.1,?_⟩
 have:n.toNat<c.room.length:=by omega
 unfold BP.Lc
 rw [List.getElem?_eq_getElem this];rfl
def BP.free (c:BP) (l:List (Int×Int)) (n:Int) (i:Nat):Bool:=decide ((c.cnt l (i*8+n.toNat):Int)<c.Lc n)
noncomputable def BP.early (c:BP) (Ae days:List Int) (n from_:Int):Option Int:=if c.DU Ae days [n]=0 then c.next n from_ (c.free (Ae.zip days) n) else none
theorem Ld {c:BP} {n:Int} (h:c.check n=0):(c.Bw.length≤32∧c.room.length≤8)∧c.room.any KQ=false∧c.Bw.any Lb=false∧Yo c.Bw∧(∀w∈c.Bw,Us w.Ae)∧c.Bw.any (fun w=>w.Ae.any fun n=> !c.has n)=false:=by
 unfold BP.check at h
 split at h
 · cases h
 ·
  split at h
  · cases h
  ·
   split at h
   · cases h
   ·
    split at h
    · cases h
    ·
     split at h
     · cases h
     ·
      rename_i h1 h2 h3 h4 h5
      rw [Classical.not_not] at h4
      exact ⟨by omega,by simpa using h2,by simpa using h3,h4.1,h4.2,by simpa using h5⟩
theorem H6 {c:BP} (h:c.own=0):Yo c.Bw∧∀w∈c.Bw,0≤w.lo∧w.lo<w.hi:=by
 obtain ⟨_,_,h3,h4,_⟩:=Ld h
 refine ⟨h4,fun w hw=> ?_⟩
 rw [List.any_eq_false] at h3
 have:=h3 w hw
 simp [Lb] at this
 omega
abbrev Sz (l:List Ik):Prop:=l.Pairwise fun a b=>a.hi≤b.lo
theorem H7:∀{l:List Ik},Yo l→(∀w∈l,0≤w.lo∧w.lo<w.hi)→Sz l
 |[],_,_=>List.Pairwise.nil
 |[a],_,_=>by simp [Sz]
 |a::b::l,h,hw=>by
  have ih:Sz (b::l):=H7 (fun j x y hx hy=>h (j+1) x y Gb (by simpa using hy)) (fun w hm=>hw w (List.mem_cons_of_mem _ hm))
  refine List.Pairwise.cons (fun w hm=> ?_) ih
  have h0:=h 0 a b rfl rfl
  rcases List.mem_cons.1 hm with rfl|hm
  · exact h0
  ·
   have h1:=(List.pairwise_cons.1 ih).1 w hm
   have:=hw b AV
   omega
theorem Qx {k:Int} {w:Ik} (h:D4 k w=true):w.lo≤k∧k<w.hi:=by unfold D4 at h;simpa using h
theorem tg {k:Int} {w:Ik} (h:w.lo≤k∧k<w.hi):D4 k w=true:=by unfold D4;simpa using h
theorem Ut {k:Int}:∀{l:List Ik} {w:Ik},Sz l→w∈l→D4 k w=true→l.find? (D4 k)=some w
 |a::l,w,hp,hm,hin=>by
  rcases List.mem_cons.1 hm with rfl|hm
  · exact List.find?_cons_of_pos hin
  ·
   have h1:=(List.pairwise_cons.1 hp).1 w hm
   have h2:=Qx hin
   rw [List.find?_cons_of_neg (by intro h;have:=Qx h;omega)]
   exact Ut (List.pairwise_cons.1 hp).2 hm hin
theorem rB {c:BP} {t k:Int} (h:c.own=0):c.may t k=true↔∃w∈c.Bw,D4 k w=true∧w.Ae.any (fun x=>t==x)=true:=by
 obtain ⟨h1,h2⟩:=H6 h
 unfold BP.may BP.Sy
 constructor
 ·
  intro hm
  cases hf:c.Bw.find? (D4 k) with
  |none=>rw [hf] at hm;cases hm
  |some w=>rw [hf] at hm;exact ⟨w,List.mem_of_find?_eq_some hf,List.find?_some hf,hm⟩
 ·
  rintro ⟨w,hw,hin,ht⟩
  rw [Ut (H7 h1 h2) hw hin];exact ht
end Go.Proofs.YtmocaapoeefgkaaGreatDoor
