/-
  Part 4 of the texts that prove this claim, merged.
-/
import Derived.Test.YtmocaapoeefgkaaGreatDoorRcTP3
set_option linter.all false
set_option maxRecDepth 40000
set_option maxHeartbeats 16000000
namespace Go.Proofs.YtmocaapoeefgkaaGreatDoor
open Go Go.RowKit Cp Go.Proofs.Tryz
abbrev ADI:List (List Int):=PU++PU.map (14:: ·)
theorem KT {i:Nat} {e:B7} (h:Zm i e):e.A9∈ADI:=by
 rcases h.A9 with h|⟨l,h,h2⟩
 · exact List.mem_append_left _ h
 · rw [h2];exact List.mem_append_right _ (List.mem_map_of_mem h)
theorem Vs:∀l∈ADI,LB l=true∧l.length≤5:=by decide+kernel
theorem Vt:∀n∈F1,Qx n=true∧n.length≤3:=by decide+kernel
theorem uJ:[2,3].all Rd=true:=by decide+kernel
theorem uK:LZ 5 2048 2=true:=by decide+kernel
theorem nI {nm:List UInt8} {k:Nat} {id:Int} (h:F1[k]? =some nm) (hid:id=100+(k:Nat)) {s:Int} (hs:0≤s∧s<4294967296):idB (H8 nm 5 2048 id 901 1 s)=true:=by
 subst hid
 have hk:k<3:=BM h
 have hv:=Vr h hs (key:=1) AA
 have hk2:IM (100+(k:Nat))=true:=by unfold IM;simp;omega
 unfold idB Vh;simp only [uK,hk2,List.all_cons,List.all_nil,hv];simp
theorem uL {i:Nat} {e:B7} (h:Zm i e):dV e:=by
 have hn:=Vt _ (List.mem_of_getElem? h.name)
 have hs:=Vs _ (KT h)
 obtain ⟨s,hs1,S8⟩:=h.ids
 have hm:=h.most;have hl:=h.least
 refine ⟨hn.1,by omega,by omega,by omega,hs.1,by rw [S8];simp,by rw [h.anchors];simp,by rw [h.anchors];decide,by rw [h.hashes];decide,?_,by rw [h.anchors];decide,by rw [h.hashes];exact uJ⟩
 rw [S8];simp only [List.all_cons,List.all_nil,nI h.name rfl hs1,Bool.and_self]
theorem T4 {i:Nat} {e:B7} (h:Zm i e):e.fits:=by
 have hn:=Vt _ (List.mem_of_getElem? h.name)
 obtain ⟨s,hs1,S8⟩:=h.ids
 refine ⟨by unfold maxLen;omega,fun x hx c hc=> ?_⟩
 rw [S8] at hx;simp at hx;subst hx;simp at hc;subst hc
 exact ⟨by show 4≤maxLen;unfold maxLen;omega,by show e.name.length≤maxLen;unfold maxLen;omega,fun n hn2=>by simp at hn2;subst hn2;unfold maxLen;omega⟩
theorem Ri {i:Nat} {e:B7} (h:Zm i e):e.small:=by
 have hs:=Vs _ (KT h)
 obtain ⟨s,hs1,S8⟩:=h.ids
 refine ⟨by omega,by rw [h.anchors];simp,by rw [h.hashes];simp,by rw [S8];simp,fun x hx=> ?_⟩
 rw [S8] at hx;simp at hx;subst hx
 exact ⟨by simp,fun c hc=>by simp at hc;subst hc;simp⟩
theorem nJ:B5.fits:=fun c hc=>by cases hc
theorem ADJ {nm:List UInt8} (h:nm∈F1) {a b id key s:Int} (hab:(a=5∧b=2048)∨(a=7∧b=256)) (hid:0≤id∧id≤1000) (hs:0≤s∧s<4294967296) (hk:0≤key∧key≤2):EI (Lm nm a b id 901 key s)=true:=by
 have hn:named nm=true:=by
  revert h;unfold F1;intro hm;simp at hm
  rcases hm with rfl|rfl|rfl<;>decide
 have hof:LZ a b 2=true:=by rcases hab with ⟨rfl,rfl⟩|⟨rfl,rfl⟩<;>decide+kernel
 refine dc ⟨?_,?_,by show named [114,111,111,116]=true;decide,hn,?_,hof,?_,?_,by show LZ 3 0 1=true;decide+kernel,hk.1,?_,hs.1,hs.2,by show (0:Int)≤0;omega,by show (0:Int)≤901;omega,by show (901:Int)≤40000;omega,by show (0:Int)≤0;omega,by show (0:Int)≤8;omega,.inr rfl⟩
 · show 0≤id;omega
 · show id≤_;omega
 ·
  show HQ [nm]=true
  unfold HQ;rw [Bool.and_eq_true];refine ⟨B_.2 fun j hj=> ?_,by simp⟩
  have:j=0:=by simp at hj;omega
  subst this;unfold nameAt;simp [hn]
 · show 0≤id;omega
 · show id≤_;omega
 · show key≤_;omega
theorem ADK {nm:List UInt8} {a b id:Int} (hab:(a=5∧b=2048)∨(a=7∧b=256)) (hid:0≤id∧id≤1000):(Lm nm a b id 901 0 0).Zk:=
 ⟨by show id≤1099511627776;omega,by show id≤2147483648;omega,⟨by show (0:Int)≤a;omega,by show a≤40000;omega⟩,⟨by show (0:Int)≤b;omega,by show b≤40000;omega⟩,⟨by show (0:Int)≤3;omega,by show (3:Int)≤40000;omega⟩,⟨by show (0:Int)≤0;omega,by show (0:Int)≤40000;omega⟩⟩
structure AGw (es:List B7) (c:Ba):Prop where
 lo:0≤c.AY
 hi:c.AY<(es.length:Nat)
 kind:1≤c.kind∧c.kind≤12
 fits:c.C6.fits
 small:c.C6.small
abbrev yc (nm:List UInt8) (a b id to key:Int):Pr:=Cp.ex fun s:Int=>fact (0≤s∧s<4294967296) (Ll [Lm nm a b id to key s])
theorem ADL {nm:List UInt8} (h:nm∈F1) {a b id key s:Int}:(H8 nm a b id 901 key s).fits∧(H8 nm a b id 901 key s).small:=by
 have hn:=(Vt _ h).2
 refine ⟨fun c hc=> ?_,⟨by simp,fun c hc=>by simp at hc;subst hc;simp⟩⟩
 simp at hc;subst hc
 exact ⟨by show 4≤maxLen;unfold maxLen;omega,by show nm.length≤maxLen;unfold maxLen;omega,fun n hn2=>by simp at hn2;subst hn2;unfold maxLen;omega⟩
structure Xe where
 CG:Int
 bits:Int
 day:Int
 deriving DecidableEq
abbrev AGx (x:Xe):List Pr:=[int x.CG,int x.bits,int x.day]
abbrev nK (l:List Xe):Pr:=slice 3 (l.map AGx)
structure Vu where
 name:List UInt8
 kind:Int
 JM:Int
 links:List Xe
 MH:Int
 deriving DecidableEq
abbrev dw (x:Vu):List Pr:=[str x.name,int x.kind,int x.JM,nK x.links,int x.MH]
abbrev Rj (l:List Vu):Pr:=slice 5 (l.map dw)
structure Iz where
 client:Int
 server:Int
 deriving DecidableEq
abbrev yd (x:Iz):List Pr:=[int x.client,int x.server]
abbrev Ij (l:List Iz):Pr:=slice 2 (l.map yd)
abbrev FX:Xe:=⟨0,0,0⟩
abbrev G2:Iz:=⟨0,0⟩
def HD (l:List Xe) (i:Nat):Bool:=decide (Du (l[i]?.getD FX).CG (l[i]?.getD FX).bits>0)&&decide (0≤(l[i]?.getD FX).day)&&decide ((l[i]?.getD FX).day≤40000)&&(decide (i=0)||decide ((l[i-1]?.getD FX).day<(l[i]?.getD FX).day))
def O3 (x:Vu):Bool:=(named x.name&&decide (x.kind=1∨x.kind=2)&&decide (1≤x.JM)&&decide (x.JM≤4)&&decide (1≤x.links.length)&&decide (x.links.length≤8))&&allI (HD x.links) x.links.length&&(decide ((x.links[0]?.getD FX).day≤x.MH)&&decide (x.MH≤40000))
structure ADM (x:Vu):Prop where
 name:named x.name=true
 kind:x.kind=1∨x.kind=2
 p1:1≤x.JM
 p4:x.JM≤4
 l1:1≤x.links.length
 l8:x.links.length≤8
 lnk:∀j,j<x.links.length→HD x.links j=true
 u0:(x.links[0]?.getD FX).day≤x.MH
 u1:x.MH≤40000
theorem HC {x:Vu}:O3 x=true↔ADM x:=by
 unfold O3
 simp only [Bool.and_eq_true,decide_eq_true_eq,B_]
 exact ⟨fun ⟨⟨⟨⟨⟨⟨⟨h1,h2⟩,h3⟩,h4⟩,h5⟩,h6⟩,h7⟩,h8,h9⟩=>⟨h1,h2,h3,h4,h5,h6,h7,h8,h9⟩,fun h=>⟨⟨⟨⟨⟨⟨⟨h.name,h.kind⟩,h.p1⟩,h.p4⟩,h.l1⟩,h.l8⟩,h.lnk⟩,h.u0,h.u1⟩⟩
def Eo (n:Nat) (l:List Iz) (i:Nat):Bool:=(decide (0≤(l[i]?.getD G2).client∧(l[i]?.getD G2).client<n)&&decide (0≤(l[i]?.getD G2).server∧(l[i]?.getD G2).server<n)&&decide ((l[i]?.getD G2).client≠(l[i]?.getD G2).server))&&(decide (i=0)||decide ((l[i-1]?.getD G2).client<(l[i]?.getD G2).client∨((l[i-1]?.getD G2).client=(l[i]?.getD G2).client∧(l[i-1]?.getD G2).server<(l[i]?.getD G2).server)))
def Vv (n:Nat) (l:List Iz):Bool:=allI (Eo n l) l.length&&decide (l.length≤40)
theorem Zn {x:Vu}  :BF prog 149 [agg (dw x)] (int (if O3 x then 0 else 30)):=by
 refine fo func149 rfl ⟨rfl,rfl⟩ fun M0 w0=> ?_
 refine ac ?_
 refine wk [1] rfl (Tr.Q5 [1] [] ((named x.name=true∧(x.kind=1∨x.kind=2)∧1≤x.JM∧x.JM≤4)∧1≤x.links.length∧x.links.length≤8∧(x.links[0]?.getD FX).day≤x.MH∧x.MH≤40000) ?_ (fun hpre=> ?_))
 refine ac ?_
 refine co rfl (Cz (G7) rfl rfl) ?_
 refine ag ?_ ?_<;>intro h2 q2
 refine ac ?_
 refine wk [54,1] rfl ?_
 refine a2 ?_
 · refine int_eq (if_neg (fun hv=> ?_)).symm;have ok:=HC.1 hv;have o1:=ok.name;have o2:=ok.kind;have o3:=ok.p1;have o4:=ok.p4;have o5:=ok.l1;have o6:=ok.l8;have o7:=ok.u0;have o8:=ok.u1;(simp_all)
 refine ag ?_ ?_<;>intro h3 q3
 refine ag ?_ ?_<;>intro h4 q4
 refine ac ?_
 refine wk [54,1] rfl ?_
 refine a2 ?_
 · exact J3
 refine ag ?_ ?_<;>intro h5 q5
 refine ac ?_
 refine wk [54,1] rfl ?_
 refine a2 ?_
 · exact J3
 refine ag ?_ ?_<;>intro h6 q6
 refine ac ?_
 refine wk [54,1] rfl ?_
 refine a2 ?_
 · exact J3
 refine ag ?_ ?_<;>intro h7 q7
 refine ac ?_
 refine wk [54,1] rfl ?_
 refine a2 ?_
 · exact J3
 refine ag ?_ ?_<;>intro h8 q8
 refine ac ?_
 refine wk [54,1] rfl ?_
 refine a2 ?_
 · exact J3
 refine ag ?_ ?_<;>intro h9 q9
 refine ac ?_
 refine wk [54,1] rfl ?_
 refine a2 ?_
 · exact J3
 obtain ⟨c0,hc0⟩:=at_ (l:=x.links) (k:=0) AA
 have hg0:=getD_at (d:=FX) hc0
 refine ac ?_
 refine cy h9 rfl (AD rfl underlying133 KG vq vq AA (AZ (k:=0) hc0)) ?_
 refine ac ?_
 refine wk [54,1] rfl ?_
 refine Tr.cn rfl ?_ ?_<;>intro h10 Sx
 refine a2 ?_
 · exact kI
 refine Tr.skip ?_
 exact Fin.AO () ⟨⟨by simp_all,by omega,by omega,by omega⟩,by omega,by omega,by rw [hg0];omega,by omega⟩ kz
 refine ag ?_ ?_<;>intro h11 Ty
 refine ac ?_
 refine wk [54,1] rfl ?_
 refine a2 ?_
 · exact J3
 refine ag ?_ ?_<;>intro h12 XY
 refine ac ?_
 refine wk [54,1] rfl ?_
 refine a2 ?_
 · exact J3
 refine ag ?_ ?_<;>intro J0 dY
 refine ac ?_
 refine wk [54,1] rfl ?_
 refine a2 ?_
 · exact J3
 refine ag ?_ ?_<;>intro J1 nB
 refine ac ?_
 refine wk [54,1] rfl ?_
 refine a2 ?_
 · exact J3
 refine ag ?_ ?_<;>intro OB q15
 refine ac ?_
 refine wk [54,1] rfl ?_
 refine a2 ?_
 · exact J3
 obtain ⟨c0,hc0⟩:=at_ (l:=x.links) (k:=0) AA
 have hg0:=getD_at (d:=FX) hc0
 refine ac ?_
 refine cy OB rfl (AD rfl underlying133 KG vq vq AA (AZ (k:=0) hc0)) ?_
 refine ac ?_
 refine wk [54,1] rfl ?_
 refine Tr.cn rfl ?_ ?_<;>intro h16 q16
 refine a2 ?_
 · exact kI
 refine Tr.skip ?_
 exact Fin.AO () ⟨⟨by simp_all,by omega,by omega,by omega⟩,by omega,by omega,by rw [hg0];omega,by omega⟩ kz
 obtain ⟨⟨hq1,gB,hq3,hq4⟩,hq5,hq6,hq7,hq8⟩:=hpre
 refine ac ?_
 refine Tr.block (Tr.BE _ (kk [1] rfl) (fun k:Nat=>[(3,int ((k:Nat):Int))]) (fun k:Nat=>k≤(x.links).length∧(∀j,j<k→HD x.links j=true)) (fun k:Nat=>(x.links).length-k) 0 (⟨Nat.zero_le _,fun j hj=>absurd hj AA⟩) kz ?_)
 rintro k ⟨BT,AX⟩
 refine an ?_ ?_<;>intro Jg m8
 have Ai:k<(x.links).length:=AH Jg
 obtain ⟨c,Ah⟩:=at_ Ai
 have hg:=getD_at (d:=FX) Ah
 refine a2 ?_
 refine co rfl (AD rfl underlying133 KG vq vq AA (AZ Ah)) ?_
 refine ac ?_
 refine co rfl (Cz (KM) rfl rfl) ?_
 refine ag ?_ ?_<;>intro NB q18
 refine ac ?_
 refine wk [107,3,1] rfl ?_
 refine a2 ?_
 · exact Y1
 refine ac ?_
 refine cy NB rfl (AD rfl underlying133 KG vq vq AA (AZ Ah)) ?_
 refine ag ?_ ?_<;>intro Wg q19
 refine ac ?_
 refine wk [107,3,1] rfl ?_
 refine a2 ?_
 · exact Y1
 refine ac ?_
 refine cy Wg rfl (AD rfl underlying133 KG vq vq AA (AZ Ah)) ?_
 refine ag ?_ ?_<;>intro NQ q20
 refine ac ?_
 refine wk [107,3,1] rfl ?_
 refine a2 ?_
 · exact Y1
 refine ag ?_ ?_<;>intro dQ q21
 have hk0:0<k:=by simpa using dQ
 obtain ⟨y,hy⟩:=at_ (l:=x.links) (k:=k-1) AA
 have Wd:=getD_at (d:=FX) hy
 · repeat' first|(refine int_eq (if_neg (fun hv=> ?_)).symm;have ok:=HC.1 hv;have o1:=ok.name;have o2:=ok.kind;have o3:=ok.p1;have o4:=ok.p4;have o5:=ok.l1;have o6:=ok.l8;have o7:=ok.u0;have o8:=ok.u1;(have h_:=ok.lnk k AA;unfold HD at h_;rw [hg,Wd] at h_;simp_all;omega))|(exact Fin.AO (k+1) ⟨⟨Ai,EG AX (by unfold HD;rw [hg,Wd];simp_all)⟩,by omega⟩ ⟨⟨_,rfl,AG k⟩,kz⟩)|(refine cy dQ rfl (AD rfl underlying133 KG vq vq AA Lz) ?_)|refine cy dQ rfl (AD rfl underlying133 KG vq vq AA (AZ Ah)) ?_|refine ac ?_|(refine Tr.cn rfl ?_ ?_<;>intro h q)
 have MF:¬0<k:=by simpa using dQ
 refine ac ?_
 refine wk [107,3,1] rfl ?_
 refine a2 ?_
 exact Fin.AO (k+1) ⟨⟨Ai,EG AX (by unfold HD;rw [hg];simp_all)⟩,by omega⟩ ⟨⟨_,rfl,AG k⟩,kz⟩
 have BP:k=(x.links).length:=by have:=AJ Jg;omega
 subst BP
 refine a3 ?_
 · refine int_eq (if_pos (HC.2 ⟨hq1,gB,hq3,hq4,hq5,hq6,AX,by omega,by omega⟩)).symm
theorem nL {d:Nat} {w:World} {x0 y0:Int} {x1 y1:Int}:(Op.equalIn (d+2) 187 (.agg #[.int .i64 x0,.int .i64 x1]) (.agg #[.int .i64 y0,.int .i64 y1])).run Tryz.prog w= .ok (decide (x0=y0∧x1=y1)) w:=by
 have h:=eqS (w:=w) (d:=d+1) (xs:= #[.int .i64 x0,.int .i64 x1]) (ys:= #[.int .i64 y0,.int .i64 y1]) Tryz.underlying187 BV (FF AB (CI Cs rfl) (CI Cs rfl) (Gd (d:=d+0) Tryz.underlying3) (FF AB (CI Cs rfl) (CI Cs rfl) (Gd (d:=d+0) Tryz.underlying3) (NH)))
 refine h.trans (congrArg (fun b=>Result.ok b w) ?_)
 rw [Bool.eq_iff_iff];simp [and_assoc]
theorem nM {E:Env} {I:Ck} {o:Oper} {u:TypeId} {x y:Operand} {x0 y0:Int} {x1 y1:Int} (ho:o.op= .binOp .eql 187 x y u) (hx:VL E x (agg [is (.int .i64 x0),is (.int .i64 x1)])) (hy:VL E y (agg [is (.int .i64 y0),is (.int .i64 y1)])):Ae Tryz.prog I o E (bool (decide (x0=y0∧x1=y1))):=
 NG [.int .i64 x0,.int .i64 x1] [.int .i64 y0,.int .i64 y1] ho hx hy BV (fun w=>by rw [show Op.equal 187 _ _=Op.equalIn (9998+2) 187 _ _ from rfl];exact nL)
theorem nN {E:Env} {I:Ck} {o:Oper} {u:TypeId} {x y:Operand} {x0 y0:Int} {x1 y1:Int} (ho:o.op= .binOp .neq 187 x y u) (hx:VL E x (agg [is (.int .i64 x0),is (.int .i64 x1)])) (hy:VL E y (agg [is (.int .i64 y0),is (.int .i64 y1)])):Ae Tryz.prog I o E (bool (!decide (x0=y0∧x1=y1))):=
 RR [.int .i64 x0,.int .i64 x1] [.int .i64 y0,.int .i64 y1] ho hx hy BV (fun w=>by rw [show Op.equal 187 _ _=Op.equalIn (9998+2) 187 _ _ from rfl];exact nL)
deriving instance DecidableEq for Hf
deriving instance DecidableEq for IF
deriving instance DecidableEq for B7
deriving instance DecidableEq for Ba
theorem Wj {α:Type} {a b:List α} {k:Nat} {x y:α} (ha:a[k]? =some x) (hb:b[k]? =some y) (h:a.take k=b.take k) (e:x=y):a.take (k+1)=b.take (k+1):=by
 rw [List.take_add_one,List.take_add_one,ha,hb,h,e]
theorem kC {α:Type} {a b:List α} {k:Nat} {x y:α} (ha:a[k]? =some x) (hb:b[k]? =some y) (e:¬x=y):¬a=b:=by
 rintro rfl;rw [ha] at hb;cases hb;exact e rfl
theorem kU {α:Type} {a b:List α} (hl:a.length=b.length) (h:a.take a.length=b.take a.length):a=b:=by
 rw [List.take_length,hl,List.take_length] at h;exact h
theorem Zo {a b:Hf} (hn:a.names.length≤8796093022208):BF prog 207 [agg (DW a),agg (DW b)] (bool (decide (a=b))):=by
 refine fo func207 rfl ⟨rfl,rfl⟩ fun M0 w0=> ?_
 refine ac ?_
 refine ag ?_ ?_<;>intro h1 q1
 refine ac ?_
 refine wk [89,3,2] rfl ?_
 refine a2 ?_
 · exact FN
 refine ag ?_ ?_<;>intro h2 q2
 refine ac ?_
 refine wk [89,3,2] rfl ?_
 refine a2 ?_
 · exact FN
 refine ag ?_ ?_<;>intro h3 q3
 refine ac ?_
 refine wk [89,3,2] rfl ?_
 refine a2 ?_
 · exact FN
 refine ac ?_
 refine cy h3 rfl (P5 rfl vq vq) ?_
 refine ag ?_ ?_<;>intro h4 q4
 refine ac ?_
 refine wk [89,3,2] rfl ?_
 refine a2 ?_
 · exact FN
 refine ag ?_ ?_<;>intro h5 q5
 refine ac ?_
 refine wk [89,3,2] rfl ?_
 refine a2 ?_
 · exact FN
 refine ac ?_
 refine cy h5 rfl (P5 rfl vq vq) ?_
 refine ag ?_ ?_<;>intro h6 q6
 refine ac ?_
 refine wk [89,3,2] rfl ?_
 refine a2 ?_
 · exact FN
 refine ag ?_ ?_<;>intro h7 q7
 refine ac ?_
 refine wk [89,3,2] rfl ?_
 refine a2 ?_
 · exact FN
 refine ag ?_ ?_<;>intro h8 q8
 refine ac ?_
 refine wk [89,3,2] rfl ?_
 refine a2 ?_
 · exact FN
 refine ac ?_
 refine cy h8 rfl (ZJ rfl underlying4 vq vq) ?_
 refine ag ?_ ?_<;>intro h9 q9
 refine ac ?_
 refine wk [89,3,2] rfl ?_
 refine a2 ?_
 · exact FN
 refine ag ?_ ?_<;>intro h10 Sx
 refine ac ?_
 refine wk [89,3,2] rfl ?_
 refine a2 ?_
 · exact FN
 refine ac ?_
 refine cy h10 rfl (nN rfl vq vq) ?_
 refine ag ?_ ?_<;>intro h11 Ty
 refine ac ?_
 refine wk [89,3,2] rfl ?_
 refine a2 ?_
 · exact FN
 refine ac ?_
 refine wk [89,3,2] rfl ?_
 refine Tr.cn rfl ?_ ?_<;>intro h12 XY
 refine a2 ?_
 · exact FN
 have Sz:a.names.length=b.names.length:=by simp_all;omega
 refine a2 ?_
 refine Tr.block (Tr.BE _ (kk [92,3,2] rfl) (fun k:Nat=>[(93,int ((k:Nat):Int))]) (fun k:Nat=>k≤(a.names).length∧(a.names.take k=b.names.take k)) (fun k:Nat=>(a.names).length-k) 0 (⟨Nat.zero_le _,rfl⟩) kz ?_)
 rintro k ⟨BT,AX⟩
 refine ac ?_
 refine Tr.seq ?_
 refine Tr.cn rfl ?_ ?_<;>intro J0 dY
 have Ai:k<(a.names).length:=AH J0
 obtain ⟨x,Ah⟩:=at_ Ai
 obtain ⟨y,hy⟩:=at_ (l:=b.names) (k:=k) AA
 · repeat' first|(refine bool_eq ?_;symm;rw [decide_eq_false_iff_not];rintro rfl;rw [Ah] at hy;cases hy;simp_all)|exact Fin.AO (k+1) ⟨⟨Ai,Wj Ah hy AX Br⟩,by omega⟩ ⟨⟨_,rfl,AG k⟩,kz⟩|refine co rfl (AD rfl underlying127 NC vq vq AA (AZ Ah)) ?_|refine co rfl (AD rfl underlying127 NC vq vq AA (AZ hy)) ?_|refine ac ?_|(refine Tr.cn rfl ?_ ?_<;>intro h q)
 have BP:k=(a.names).length:=by have:=AJ J0;omega
 subst BP
 refine a3 ?_
 · refine bool_eq ?_;have hnn:=kU Sz AX;clear AX Sz;cases a;cases b;simp_all
theorem Zp {a b:IF} (hs:a.small):BF prog 162 [agg (FG a),agg (FG b)] (bool (decide (a=b))):=by
 refine fo func162 rfl ⟨rfl,rfl⟩ fun M0 w0=> ?_
 have hsc:=hs.chain
 refine a2 ?_
 refine co rfl (P5 rfl vq vq) (cm rfl ?_)
 refine Ch.cs 11 rfl ?_ ?_<;>intro h1 q1
 refine ac ?_
 refine wk [26,3,2] rfl ?_
 refine a2 ?_
 · exact FN
 refine ag ?_ ?_<;>intro h2 q2
 refine ac ?_
 refine wk [26,3,2] rfl ?_
 refine a2 ?_
 · exact FN
 refine ac ?_
 refine wk [26,3,2] rfl ?_
 refine Tr.cn rfl ?_ ?_<;>intro h3 q3
 refine a2 ?_
 · exact FN
 have Sz:a.chain.length=b.chain.length:=by simp_all;omega
 refine a2 ?_
 refine Tr.block (Tr.BE _ (kk [29,3,2] rfl) (fun k:Nat=>[(30,int ((k:Nat):Int))]) (fun k:Nat=>k≤(a.chain).length∧(a.chain.take k=b.chain.take k)) (fun k:Nat=>(a.chain).length-k) 0 (⟨Nat.zero_le _,rfl⟩) kz ?_)
 rintro k ⟨BT,AX⟩
 refine ac ?_
 refine Tr.seq ?_
 refine Tr.cn rfl ?_ ?_<;>intro h4 q4
 have Ai:k<(a.chain).length:=AH h4
 obtain ⟨x,Ah⟩:=at_ Ai
 obtain ⟨y,hy⟩:=at_ (l:=b.chain) (k:=k) AA
 have hxn:=hs.names x (List.mem_of_getElem? Ah)
 · repeat' first|(refine bool_eq ?_;symm;rw [decide_eq_false_iff_not];rintro rfl;rw [Ah] at hy;cases hy;simp_all)|exact Fin.AO (k+1) ⟨⟨Ai,Wj Ah hy AX Br⟩,by omega⟩ ⟨⟨_,rfl,AG k⟩,kz⟩|refine co rfl (AD rfl underlying82 DF vq vq AA (AZ Ah)) ?_|refine co rfl (AD rfl underlying82 DF vq vq AA (AZ hy)) (co rfl (AM rfl GN DF vq rfl rfl) (co rfl (CS (Zo hxn) rfl rfl rfl) ?_))|refine ac ?_|(refine Tr.cn rfl ?_ ?_<;>intro h q)
 have BP:k=(a.chain).length:=by have:=AJ h4;omega
 subst BP
 refine a3 ?_
 · refine bool_eq ?_;have hnn:=kU Sz AX;clear AX Sz hs;cases a;cases b;simp_all
theorem dx {k:Int} (hk:1≤k∧k≤12):k=1∨k=2∨k=3∨k=4∨k=5∨k=6∨k=7∨k=8∨k=9∨k=10∨k=11∨k=12:=by omega
theorem Xf {e:B7} {c:Ba} {f:Int} (hc:Jp c) (h:CE e c= .error f):f≠0:=by
 rcases dx hc.1 with hk|hk|hk|hk|hk|hk|hk|hk|hk|hk|hk|hk
 · rw [P9 hk] at h;(repeat' (split at h))<;>first|(injection h with h;omega)|(cases h;done)
 · rw [P_ hk] at h;(repeat' (split at h))<;>first|(injection h with h;omega)|(cases h;done)
 · rw [QA hk] at h;(repeat' (split at h))<;>first|(injection h with h;omega)|(cases h;done)
 · rw [QB hk] at h;(repeat' (split at h))<;>first|(injection h with h;omega)|(cases h;done)
 · rw [QC hk] at h;(repeat' (split at h))<;>first|(injection h with h;omega)|(cases h;done)
 · rw [QD hk] at h;(repeat' (split at h))<;>first|(injection h with h;omega)|(cases h;done)
 · rw [QE hk] at h;(repeat' (split at h))<;>first|(injection h with h;omega)|(cases h;done)
 · rw [QF hk] at h;(repeat' (split at h))<;>first|(injection h with h;omega)|(cases h;done)
 · rw [QG hk] at h;(repeat' (split at h))<;>first|(injection h with h;omega)|(cases h;done)
 · rw [NS hk] at h;(repeat' (split at h))<;>first|(injection h with h;omega)|(cases h;done)
 · rw [NT hk] at h;(repeat' (split at h))<;>first|(injection h with h;omega)|(cases h;done)
 · rw [NU hk] at h;(repeat' (split at h))<;>first|(injection h with h;omega)|(cases h;done)
theorem hO {e:B7} {c:Ba} {x:B7} {b:Ba} (h:EM e c=(x,b,0)):dV e∧Jp c∧CE e c= .ok (x,b)∧dV x:=by
 unfold EM at h
 split at h
 · cases h
 next h1=>
 split at h
 · cases h
 next h2=>
 have h1 : Gp e = true := by cases hh : Gp e with
  |true=>rfl
  |false=>exact absurd hh h1
 have h2:Jp c:=Classical.not_not.1 h2
 cases hs:CE e c with
 |error f=>
  rw [hs] at h
  simp only [Prod.mk.injEq] at h
  exact absurd h.2.2 (Xf h2 hs)
 |ok r=>
  obtain ⟨x',b'⟩:=r
  rw [hs] at h
  simp only at h
  split at h
  next h3=>simp only [Prod.mk.injEq,and_true] at h;obtain ⟨rfl,rfl⟩:=h;exact ⟨DP.1 h1,h2,rfl,DP.1 h3⟩
  · cases h
section
variable {α:Type} {p:α→Bool} {l:List α} {a:α} {i:Nat}
end
theorem Zq {l:List Int} (h:LB l=true) {i j:Nat} {n:Int} (hi:l[i]? =some n) (hj:l[j]? =some n):i=j:=by
 unfold LB at h;rw [B_] at h
 have key:∀{a b:Nat},a<b→l[a]? =some n→l[b]? =some n→False:=by
  intro a b hab ha hb
  have:=h b (BM hb)
  unfold Ge at this
  rw [getD_at hb] at this
  simp only [Bool.and_eq_true,Bool.not_eq_true',List.any_eq_false] at this
  have:=this.2 n (List.mem_of_getElem? (show (l.take b)[a]? =some n by rw [List.getElem?_take,if_pos hab];exact ha))
  simp at this
 rcases Nat.lt_trichotomy i j with h1|h1|h1
 · exact (key h1 hi hj).elim
 · exact h1
 · exact (key h1 hj hi).elim
def uM (n:Nat):Bool:=decide ((97≤n∧n≤122)∨(65≤n∧n≤90)∨(48≤n∧n≤57)∨n=45∨n=95∨n=46)
theorem Zr:∀n∈List.range 256,LA [45,95,46] (UInt8.ofNat n)=uM n:=by decide+kernel
theorem T5 (c:UInt8):LA [45,95,46] c=uM c.toNat:=by
 have h:=Zr c.toNat (List.mem_range.2 c.toNat_lt)
 rw [UInt8.ofNat_toNat] at h;exact h
theorem nO {s:List UInt8}  :BF prog 191 [str s] (bool (Qx s)):=by
 refine fo func191 rfl ⟨rfl,rfl⟩ fun M0 w0=> ?_
 refine ac ?_
 refine ag ?_ ?_<;>intro h1 q1
 refine a3 ?_
 · exact bu
 refine an ?_ ?_<;>intro h2 q2
 refine a2 ?_
 · exact bu
 refine a2 ?_
 refine Tr.block (Tr.BE _ (kk [0] rfl) (fun k:Nat=>[(3,int ((k:Nat):Int))]) (fun k:Nat=>k≤(s).length∧(∀j y,j<k→s[j]? =some y→(!LA [45,95,46] y)=false)) (fun k:Nat=>(s).length-k) 0 (⟨Nat.zero_le _,fun j y hj=>absurd hj AA⟩) kz ?_)
 rintro k ⟨BT,AX⟩
 refine an ?_ ?_<;>intro h3 q3
 have Ai:k<(s).length:=AH h3
 obtain ⟨c,Ah⟩:=at_ Ai
 · repeat' first|(refine bool_eq ?_;unfold Qx;rw [Vf (p:=LA [45,95,46]) Ah (by rw [T5];unfold uM;simp;omega)];rfl)|(exact Fin.AO (k+1) ⟨⟨Ai,Db (p:=fun c=> !LA [45,95,46] c) Ah (by rw [T5];unfold uM;simp;omega) AX⟩,by omega⟩ ⟨⟨_,rfl,AG k⟩,kz⟩)|refine co rfl (VU rfl underlying9 vq vq AA (VV Bi)) ?_|refine ac ?_|(refine Tr.cn rfl ?_ ?_<;>intro h q)|(refine Ch.cg rfl rfl rfl ?_ ?_<;>intro h q)
 have BP:k=(s).length:=by have:=AJ h3;omega
 subst BP
 refine a3 ?_
 · refine bool_eq ?_;unfold Qx;rw [NM AX,Bool.true_and];symm;rw [decide_eq_true_eq];omega
theorem Bl {a b:Int}  :BF prog 266 [int a,int b] (agg [int a,int b]):=by
 refine fo func266 rfl ⟨rfl,rfl⟩ fun M0 w0=>(Tr.seq (Tr.Ap ?_))
 refine Tl rfl rfl rfl rfl K9 Eb (fun b1=> ?_)
 refine ap ?_
 refine ap ?_
 refine Tr.ret (Fin.Cb rfl (AL.cell 0 rfl rfl Jh LS rfl Lr) ?_)
 · exact Lr
theorem Cr {a l m x1 y1 x2 y2 x3 y3 x4 y4:Int} {s:List UInt8}  :BF prog 267 [int a,str s,agg [int x1,int y1],agg [int x2,int y2],agg [int x3,int y3],agg [int x4,int y4],int l,int m] (agg DY):=by
 refine BF.of func267 rfl rfl Az fun M0 w0=> ?_
 refine Tr.seq (Tr.Ap ?_)
 iterate 4 refine tp rfl (Bh rfl (Va rfl)) ?_
 refine Tl rfl rfl rfl rfl S6 Ic (fun b1=> ?_)
 refine TO.nil (Fin.go (Tr.seq (Tr.Ap (tm rfl (tm rfl ?_)))))
 iterate 4 refine tp rfl (AM rfl Jh LS (vl rfl) rfl rfl) ?_
 refine tm rfl (tm rfl (tp rfl (An (rows:=[(0,[_]),(1,[_]),(2,_),(3,_),(4,_),(5,_),(6,[_]),(7,[_])]) rfl XH Ic ⟨⟨rfl,(Vo rfl)⟩,⟨⟨rfl,(Vo rfl)⟩,⟨⟨rfl,(Va rfl)⟩,⟨⟨rfl,(Va rfl)⟩,⟨⟨rfl,(Va rfl)⟩,⟨⟨rfl,(Va rfl)⟩,⟨⟨rfl,(Vo rfl)⟩,⟨⟨rfl,(Vo rfl)⟩,trivial⟩⟩⟩⟩⟩⟩⟩⟩ rfl) (TO.re 25 (agg DY) rfl (Vi rfl) (TO.AK 0 rfl rfl rfl (vl rfl) (Va rfl) rfl F9 rfl rfl (TO.nil (Fin.go (Nu 16 rfl (Tr.ret (Fin.Cb rfl (AL.cell 0 rfl rfl JI F9 rfl (Lr)) ?_)))))))))
 · exact Lr
theorem Zs   :BF prog 227 [] (slice 12 NO):=by
 refine fo func227 rfl ⟨rfl,rfl⟩ fun M0 w0=> ?_
 refine ac ?_
 refine Tr.seq (Tr.Ap (tp rfl (CS (Bl) rfl rfl rfl) (tp rfl (CS (Bl) rfl rfl rfl) (tp rfl (An (rows:=[]) rfl xp Eb trivial rfl) ?_))))
 refine Tl rfl rfl rfl rfl K9 Eb (fun b1=> ?_)
 refine Tl rfl rfl rfl rfl K9 Eb (fun b2=> ?_)
 refine Tl rfl rfl rfl rfl K9 Eb (fun b3=> ?_)
 refine sf 2 1 ⟨rfl,rfl,rfl⟩ rfl rfl rfl rfl ?_
 refine sf 1 2 ⟨rfl,rfl,rfl⟩ rfl rfl rfl rfl ?_
 refine sf 0 3 ⟨rfl,rfl,rfl⟩ rfl rfl rfl rfl ?_
 refine ao ?_
 refine Tr.seq (Tr.Ap (tp rfl (CS (Bl) rfl rfl rfl) (tp rfl (CS (Bl) rfl rfl rfl) ?_)))
 refine Tl rfl rfl rfl rfl K9 Eb (fun b4=> ?_)
 refine Tl rfl rfl rfl rfl K9 Eb (fun b5=> ?_)
 refine sf 1 4 ⟨rfl,rfl,rfl⟩ rfl rfl rfl rfl ?_
 refine sf 0 5 ⟨rfl,rfl,rfl⟩ rfl rfl rfl rfl ?_
 refine ao ?_
 refine wk [5,4,3,2,1] rfl (Tr.seq (Tr.Ap (tp rfl (CS (Bl) rfl rfl rfl) (tp rfl (CS (Bl) rfl rfl rfl) (tp rfl (CS (Bl) rfl rfl rfl) ?_)))))
 refine Tl rfl rfl rfl rfl K9 Eb (fun b6=> ?_)
 refine Tl rfl rfl rfl rfl K9 Eb (fun b7=> ?_)
 refine Tl rfl rfl rfl rfl K9 Eb (fun b8=> ?_)
 refine sf 2 6 ⟨rfl,rfl,rfl⟩ rfl rfl rfl rfl ?_
 refine sf 1 7 ⟨rfl,rfl,rfl⟩ rfl rfl rfl rfl ?_
 refine sf 0 8 ⟨rfl,rfl,rfl⟩ rfl rfl rfl rfl ?_
 refine ao ?_
 refine wk [8,7,6,5,4,3,2,1] rfl (Tr.seq (Tr.Ap ?_))
 iterate 4 refine tp rfl (CS (Bl) rfl rfl rfl) ?_
 refine Tl rfl rfl rfl rfl K9 Eb (fun b9=> ?_)
 refine Tl rfl rfl rfl rfl K9 Eb (fun b10=> ?_)
 refine Tl rfl rfl rfl rfl K9 Eb (fun b11=> ?_)
 refine Tl rfl rfl rfl rfl K9 Eb (fun b12=> ?_)
 refine sf 3 9 ⟨rfl,rfl,rfl⟩ rfl rfl rfl rfl ?_
 refine sf 2 10 ⟨rfl,rfl,rfl⟩ rfl rfl rfl rfl ?_
 refine sf 1 11 ⟨rfl,rfl,rfl⟩ rfl rfl rfl rfl ?_
 refine sf 0 12 ⟨rfl,rfl,rfl⟩ rfl rfl rfl rfl ?_
 refine ao ?_
 refine wk [12,11,10,9,8,7,6,5,4,3,2,1] rfl (Tr.seq (Tr.Ap (tp rfl (CS (Bl) rfl rfl rfl) (tp rfl (CS (Bl) rfl rfl rfl) ?_))))
 refine Tl rfl rfl rfl rfl K9 Eb (fun b13=> ?_)
 refine Tl rfl rfl rfl rfl K9 Eb (fun b14=> ?_)
 refine sf 1 13 ⟨rfl,rfl,rfl⟩ rfl rfl rfl rfl ?_
 refine sf 0 14 ⟨rfl,rfl,rfl⟩ rfl rfl rfl rfl ?_
 refine ao ?_
 refine wk [14,13,12,11,10,9,8,7,6,5,4,3,2,1] rfl ?_
 refine ac ?_
 refine co rfl (AV rfl (Cr) ⟨kq,kz⟩) ?_
 refine ac ?_
 refine co rfl (AV rfl (Cr) ⟨kq,kz⟩) ?_
 refine ac ?_
 refine co rfl (AV rfl (Cr) ⟨kq,kz⟩) (co rfl (CS (Bl) rfl rfl rfl) (co rfl (CS (Bl) rfl rfl rfl) ?_))
 refine ac ?_
 refine co rfl (AV rfl (Cr) ⟨kq,kz⟩) (co rfl (CS (Bl) rfl rfl rfl) ?_)
 refine ac ?_
 refine co rfl (AV rfl (Cr) ⟨kq,kz⟩) ?_
 refine ac ?_
 refine co rfl (AV rfl (Cr) ⟨kq,kz⟩) (co rfl (CS (Bl) rfl rfl rfl) ?_)
 refine ac ?_
 refine co rfl (AV rfl (Cr) ⟨kq,kz⟩) ?_
 refine ac ?_
 refine co rfl (AV rfl (Cr) ⟨kq,kz⟩) (co rfl (AM rfl Jh LS vq rfl rfl) (co rfl (CS (Bl) rfl rfl rfl) (co rfl (CS (Bl) rfl rfl rfl) (co rfl (AM rfl Jh LS vq rfl rfl) (co rfl (AV rfl (Cr) ⟨kq,kz⟩) ?_)))))
 refine ac ?_
 refine co rfl (AV rfl (Cr) ⟨kq,kz⟩) (co rfl (CS (Bl) rfl rfl rfl) (co rfl (CS (Bl) rfl rfl rfl) ?_))
 refine ac ?_
 refine co rfl (AV rfl (Cr) ⟨kq,kz⟩) ?_
 refine ac ?_
 refine co rfl (AV rfl (Cr) ⟨kq,kz⟩) ?_
 refine ac ?_
 refine co rfl (AV rfl (Cr) ⟨kq,kz⟩) ?_
 refine ac ?_
 refine co rfl (AV rfl (Cr) ⟨kq,kz⟩) ?_
 refine ac ?_
 refine co rfl (AV rfl (Cr) ⟨kq,kz⟩) (co rfl (CS (Bl) rfl rfl rfl) ?_)
 refine ac ?_
 refine co rfl (AV rfl (Cr) ⟨kq,kz⟩) (co rfl (AP (xs:=[.tmp 33,.tmp 38,.tmp 43,.tmp 48,.tmp 53,.tmp 58,.tmp 63,.tmp 68,.tmp 73,.tmp 78,.tmp 83,.tmp 88,.tmp 93,.tmp 98,.tmp 103,.tmp 108]) (rows:=NO) rfl rfl underlying287 F9 S6 rfl AB ⟨⟨Ao,VL.le vq (Af _)⟩,⟨⟨Ao,VL.le vq (Af _)⟩,⟨⟨Ao,VL.le vq (Af _)⟩,⟨⟨Ao,VL.le vq (Af _)⟩,⟨⟨Ao,VL.le vq (Af _)⟩,⟨⟨Ao,VL.le vq (Af _)⟩,⟨⟨Ao,VL.le vq (Af _)⟩,⟨⟨Ao,VL.le vq (Af _)⟩,⟨⟨Ao,VL.le vq (Af _)⟩,⟨⟨Ao,VL.le vq (Af _)⟩,⟨⟨Ao,VL.le vq (Af _)⟩,⟨⟨Ao,VL.le vq (Af _)⟩,⟨⟨Ao,VL.le vq (Af _)⟩,⟨⟨Ao,VL.le vq (Af _)⟩,⟨⟨Ao,VL.le vq (Af _)⟩,⟨⟨Ao,VL.le vq (Af _)⟩,trivial⟩⟩⟩⟩⟩⟩⟩⟩⟩⟩⟩⟩⟩⟩⟩⟩ AB) ?_)
 refine ac ?_
 refine wk [0] rfl ?_
 refine ac ?_
 · exact B8 _ _
theorem iA {code:Int}  :BF prog 192 [int code] (Dy [agg DY,int (if 1≤code∧code≤16 then 0 else 8)]):=by
 refine fo func192 rfl ⟨rfl,rfl⟩ fun M0 w0=>(Tr.seq (Tr.Ap ?_))
 refine Tl rfl rfl rfl rfl S6 Ic (fun b1=> ?_)
 refine ap ?_
 refine ag ?_ ?_<;>intro h1 q1
 refine ac ?_
 refine Tr.cond rfl (fun _=> ?_) (fun h=>nomatch h)
 refine Tr.seq (Tr.Ap (tp rfl (An (rows:=[]) rfl XH Ic trivial rfl) (TO.AK 0 rfl rfl rfl vq C3 rfl F9 rfl rfl (tm rfl (TO.nil (Fin.go (Tr.ret (Fin.AE (Fin.Bc rfl (AL.cell 0 rfl rfl JI F9 rfl Lr) (AL.tmp rfl Lr) ?_)))))))))
 · exact Ay ⟨Vi rfl,int_eq (by rw [if_neg];simp_all;omega),trivial⟩
 refine an ?_ ?_<;>intro h2 q2
 refine ap ?_
 refine Tr.ret (Fin.AE (Fin.Bc rfl (AL.cell 0 rfl rfl JI F9 rfl Lr) (AL.tmp rfl Lr) ?_))
 · exact Ay ⟨Vi rfl,int_eq (by rw [if_neg];simp_all),trivial⟩
 have hin:1≤code∧code≤16:=by omega
 refine ac ?_
 refine Tr.seq (Tr.Ap (tp rfl (kc0 (Zs) rfl) ?_))
 refine ap ?_
 refine tp rfl (AD rfl underlying287 F9 vq vq AA (mo AA)) ?_
 refine ap ?_
 refine wk [3,2] rfl (Tr.ret (Fin.Bc rfl (AL.cell 0 rfl rfl JI F9 rfl Lr) (AL.tmp rfl Lr) ?_))
 · exact Ay ⟨Lr,int_eq (by rw [if_pos hin]),trivial⟩
theorem KU {l:List Int} {v:Int}  :BF prog 193 [ints l,int v] (bool (l.any fun x=>v==x)):=by
 refine fo func193 rfl ⟨rfl,rfl⟩ fun M0 w0=>(Tr.Cl 0 rfl fun EH=> ?_)
 refine a2 ?_
 refine Tr.block (Tr.BE _ (kk [1,0] rfl) (fun k:Nat=>[(5,int ((k:Nat):Int))]) (fun k:Nat=>k≤(l).length∧((l.take k).any (fun x=>v==x)=false)) (fun k:Nat=>(l).length-k) 0 (⟨Nat.zero_le _,rfl⟩) kz ?_)
 rintro k ⟨BT,AX⟩
 refine an ?_ ?_<;>intro h1 q1
 have Ai:k<(l).length:=AH h1
 obtain ⟨x,Ah⟩:=at_ Ai
 · repeat' first|(refine bool_eq ?_;symm;rw [List.any_eq_true];exact ⟨_,List.mem_of_getElem? Ah,by simp_all⟩)|(exact Fin.AO (k+1) ⟨⟨Ai,cF⟩,by omega⟩ ⟨⟨_,rfl,AG k⟩,kz⟩)|refine co rfl (AD rfl underlying22 Bs vq vq AA CO) ?_|refine ac ?_|(refine Tr.cn rfl ?_ ?_<;>intro h q)
 have BP:k=(l).length:=by have:=AJ h1;omega
 subst BP
 refine a3 ?_
 · exact Un
theorem DN {l:List (List UInt8)}:HQ l=true↔(∀j,j<l.length→nameAt l j=true)∧l.length≤8:=by unfold HQ;rw [Bool.and_eq_true,B_,decide_eq_true_eq]
theorem LD {l:List (List UInt8)} {k:Nat} {s:List UInt8} (hs:l[k]? =some s) (h1:named s=true) (h2:0<k→∃y,l[k-1]? =some y∧Lib.compareBytes y s= -1):nameAt l k=true:=by
 unfold nameAt;rw [hs];simp only [Option.getD_some,h1,Bool.true_and,Bool.or_eq_true,decide_eq_true_eq]
 rcases Nat.eq_zero_or_pos k with h0|h0
 · exact .inl h0
 · obtain ⟨y,hy,hc⟩:=h2 h0;rw [hy];exact .inr hc
theorem MI {c:Hf}  :BF prog 188 [agg (DW c)] (int (if EI c then 0 else 9)):=by
 refine fo func188 rfl ⟨rfl,rfl⟩ fun M0 w0=> ?_
 refine ac ?_
 refine ag ?_ ?_<;>intro h1 q1
 refine ac ?_
 refine wk [39,1] rfl ?_
 refine a2 ?_
 · exact J2
 refine ag ?_ ?_<;>intro h2 q2
 refine ac ?_
 refine wk [39,1] rfl ?_
 refine a2 ?_
 · exact J2
 refine ac ?_
 refine cy h2 rfl (Cz (G7) rfl rfl) ?_
 refine ag ?_ ?_<;>intro h3 q3
 refine ac ?_
 refine wk [39,1] rfl ?_
 refine a2 ?_
 · exact Qj
 refine ac ?_
 refine cy h3 rfl (Cz (G7) rfl rfl) ?_
 refine ag ?_ ?_<;>intro h4 q4
 refine ac ?_
 refine wk [39,1] rfl ?_
 refine a2 ?_
 · exact Qj
 refine ac ?_
 refine cy h4 rfl (Cz (KO) rfl rfl) ?_
 refine ag ?_ ?_<;>intro h5 q5
 refine ac ?_
 refine wk [39,1] rfl ?_
 refine a2 ?_
 · exact Qj
 refine ag ?_ ?_<;>intro h6 q6
 refine ac ?_
 refine wk [39,1] rfl ?_
 refine a2 ?_
 · exact J2
 refine ac ?_
 refine wk [39,1] rfl ?_
 refine Tr.cn rfl ?_ ?_<;>intro h7 q7
 refine a2 ?_
 · exact J2
 refine a2 ?_
 refine co rfl (Cz (KM) rfl rfl) ?_
 refine ag ?_ ?_<;>intro h8 q8
 refine ac ?_
 refine wk [67,1] rfl ?_
 refine a2 ?_
 · refine int_eq (if_neg (fun hv=> ?_)).symm;have vf:=Jf hv;obtain ⟨Yn,Yo,Qd,Qe,Jo,HB,Yp,Yq,FM,Qf,Qg,Qh,Qi,Yr,Ys,Yt,Yu,Yv,Yw⟩:=vf;have Yx:=(DN.1 Jo).2;unfold LZ at HB FM;simp_all;omega
 refine ac ?_
 refine cy h8 rfl (Cz (P7) rfl rfl) ?_
 refine ag ?_ ?_<;>intro h9 q9
 refine ac ?_
 refine wk [67,1] rfl ?_
 refine a2 ?_
 · exact Qj
 refine ag ?_ ?_<;>intro h10 Sx
 refine ac ?_
 refine wk [67,1] rfl ?_
 refine a2 ?_
 · exact J2
 refine ag ?_ ?_<;>intro h11 Ty
 refine ac ?_
 refine wk [67,1] rfl ?_
 refine a2 ?_
 · exact J2
 refine ac ?_
 refine wk [67,1] rfl ?_
 refine Tr.cn rfl ?_ ?_<;>intro h12 XY
 refine a2 ?_
 · exact J2
 refine ac ?_
 refine ag ?_ ?_<;>intro J0 dY
 refine ac ?_
 refine wk [91,1] rfl ?_
 refine a2 ?_
 · exact J2
 refine ag ?_ ?_<;>intro J1 nB
 refine ac ?_
 refine wk [91,1] rfl ?_
 refine a2 ?_
 · exact J2
 refine ag ?_ ?_<;>intro OB q15
 refine ag ?_ ?_<;>intro h16 q16
 refine ac ?_
 refine wk [91,1] rfl ?_
 refine a2 ?_
 · exact Qj
 refine ac ?_
 refine wk [91,1] rfl ?_
 refine Tr.cn rfl ?_ ?_<;>intro Jg m8
 refine a2 ?_
 · exact J2
 refine a2 ?_
 refine Tr.block (Tr.BE _ (kk [1] rfl) (fun k:Nat=>[(3,int ((k:Nat):Int))]) (fun k:Nat=>k≤(c.names).length∧(∀j,j<k→nameAt c.names j=true)) (fun k:Nat=>(c.names).length-k) 0 (⟨Nat.zero_le _,fun j hj=>absurd hj AA⟩) kz ?_)
 rintro k ⟨BT,AX⟩
 refine an ?_ ?_<;>intro NB q18
 have Ai:k<(c.names).length:=AH NB
 obtain ⟨s,Ah⟩:=at_ Ai
 refine a2 ?_
 refine co rfl (AD rfl underlying127 NC vq vq AA (AZ Ah)) (co rfl (F5 rfl PM rfl) (co rfl (Cz (G7) rfl rfl) ?_))
 refine ag ?_ ?_<;>intro Wg q19
 refine ac ?_
 refine wk [123,3,1] rfl ?_
 refine a2 ?_
 · exact kD
 refine ag ?_ ?_<;>intro NQ q20
 have MF:0<k:=by simpa using NQ
 obtain ⟨y,hy⟩:=at_ (l:=c.names) (k:=k-1) AA
 · repeat' first|(refine int_eq (if_neg (fun hv=> ?_)).symm;have vf:=Jf hv;obtain ⟨Yn,Yo,Qd,Qe,Jo,HB,Yp,Yq,FM,Qf,Qg,Qh,Qi,Yr,Ys,Yt,Yu,Yv,Yw⟩:=vf;have Yx:=(DN.1 Jo).2;unfold LZ at HB FM;have Yh:=(DN.1 Jo).1 k AA;unfold nameAt at Yh;simp_all)|(exact Fin.AO (k+1) ⟨⟨Ai,(fun j hj=>by rcases Nat.lt_or_eq_of_le (Nat.le_of_lt_succ hj) with h_|h_;exact AX j h_;(subst h_;refine LD Ah Br (fun h0=> ?_);exact ⟨y,hy,by simp_all⟩))⟩,by omega⟩ ⟨⟨_,rfl,AG k⟩,kz⟩)|(refine cy NQ rfl (AD rfl underlying127 NC vq vq AA Lz) ?_)|refine cy NQ rfl (AD rfl underlying127 NC vq vq AA (AZ Ah)) (cy NQ rfl (F5 rfl PM rfl) (cy NQ rfl (RQ rfl vq vq) ?_))|refine ac ?_|(refine Tr.cn rfl ?_ ?_<;>intro h q)
 have MF:¬0<k:=by simpa using NQ
 refine ac ?_
 refine wk [123,3,1] rfl ?_
 refine a2 ?_
 exact Fin.AO (k+1) ⟨⟨Ai,(fun j hj=>by rcases Nat.lt_or_eq_of_le (Nat.le_of_lt_succ hj) with h_|h_;exact AX j h_;(subst h_;refine LD Ah Br (fun h0=> ?_);exact absurd h0 MF))⟩,by omega⟩ ⟨⟨_,rfl,AG k⟩,kz⟩
 have BP:k=(c.names).length:=by have:=AJ NB;omega
 subst BP
 · repeat' first|(refine int_eq (if_neg (fun hv=> ?_)).symm;have vf:=Jf hv;obtain ⟨Yn,Yo,Qd,Qe,Jo,HB,Yp,Yq,FM,Qf,Qg,Qh,Qi,Yr,Ys,Yt,Yu,Yv,Yw⟩:=vf;have Yx:=(DN.1 Jo).2;unfold LZ at HB FM;omega)|(refine int_eq (if_pos (dc ⟨by omega,by omega,by simp_all,by simp_all,DN.2 ⟨AX,by omega⟩,by unfold LZ;simp_all,by omega,by omega,by unfold LZ;simp_all,by omega,by omega,by omega,by omega,by omega,by omega,by omega,by omega,by omega,by right;omega⟩)).symm)|refine ac ?_|(refine Tr.cn rfl ?_ ?_<;>intro h q)|(refine Ch.cg rfl rfl rfl ?_ ?_<;>intro h q)
 refine ac ?_
 refine wk [91,1] rfl ?_
 refine Tr.cn rfl ?_ ?_<;>intro h26 q26
 refine a2 ?_
 · exact J2
 refine a2 ?_
 refine Tr.block (Tr.BE _ (kk [1] rfl) (fun k:Nat=>[(3,int ((k:Nat):Int))]) (fun k:Nat=>k≤(c.names).length∧(∀j,j<k→nameAt c.names j=true)) (fun k:Nat=>(c.names).length-k) 0 (⟨Nat.zero_le _,fun j hj=>absurd hj AA⟩) kz ?_)
 rintro k ⟨BT,AX⟩
 refine an ?_ ?_<;>intro h27 q27
 have Ai:k<(c.names).length:=AH h27
 obtain ⟨s,Ah⟩:=at_ Ai
 refine a2 ?_
 refine co rfl (AD rfl underlying127 NC vq vq AA (AZ Ah)) (co rfl (F5 rfl PM rfl) (co rfl (Cz (G7) rfl rfl) ?_))
 refine ag ?_ ?_<;>intro h28 q28
 refine ac ?_
 refine wk [123,3,1] rfl ?_
 refine a2 ?_
 · exact kD
 refine ag ?_ ?_<;>intro j9 q29
 have MF:0<k:=by simpa using j9
 obtain ⟨y,hy⟩:=at_ (l:=c.names) (k:=k-1) AA
 · repeat' first|(refine int_eq (if_neg (fun hv=> ?_)).symm;have vf:=Jf hv;obtain ⟨Yn,Yo,Qd,Qe,Jo,HB,Yp,Yq,FM,Qf,Qg,Qh,Qi,Yr,Ys,Yt,Yu,Yv,Yw⟩:=vf;have Yx:=(DN.1 Jo).2;unfold LZ at HB FM;have Yh:=(DN.1 Jo).1 k AA;unfold nameAt at Yh;simp_all)|(exact Fin.AO (k+1) ⟨⟨Ai,(fun j hj=>by rcases Nat.lt_or_eq_of_le (Nat.le_of_lt_succ hj) with h_|h_;exact AX j h_;(subst h_;refine LD Ah Br (fun h0=> ?_);exact ⟨y,hy,by simp_all⟩))⟩,by omega⟩ ⟨⟨_,rfl,AG k⟩,kz⟩)|(refine cy j9 rfl (AD rfl underlying127 NC vq vq AA Lz) ?_)|refine cy j9 rfl (AD rfl underlying127 NC vq vq AA (AZ Ah)) (cy j9 rfl (F5 rfl PM rfl) (cy j9 rfl (RQ rfl vq vq) ?_))|refine ac ?_|(refine Tr.cn rfl ?_ ?_<;>intro h q)
 have MF:¬0<k:=by simpa using j9
 refine ac ?_
 refine wk [123,3,1] rfl ?_
 refine a2 ?_
 exact Fin.AO (k+1) ⟨⟨Ai,(fun j hj=>by rcases Nat.lt_or_eq_of_le (Nat.le_of_lt_succ hj) with h_|h_;exact AX j h_;(subst h_;refine LD Ah Br (fun h0=> ?_);exact absurd h0 MF))⟩,by omega⟩ ⟨⟨_,rfl,AG k⟩,kz⟩
 have BP:k=(c.names).length:=by have:=AJ h27;omega
 subst BP
 · repeat' first|(refine int_eq (if_neg (fun hv=> ?_)).symm;have vf:=Jf hv;obtain ⟨Yn,Yo,Qd,Qe,Jo,HB,Yp,Yq,FM,Qf,Qg,Qh,Qi,Yr,Ys,Yt,Yu,Yv,Yw⟩:=vf;have Yx:=(DN.1 Jo).2;unfold LZ at HB FM;omega)|(refine int_eq (if_pos (dc ⟨by omega,by omega,by simp_all,by simp_all,DN.2 ⟨AX,by omega⟩,by unfold LZ;simp_all,by omega,by omega,by unfold LZ;simp_all,by omega,by omega,by omega,by omega,by omega,by omega,by omega,by omega,by omega,by left;simp_all⟩)).symm)|refine ac ?_|(refine Tr.cn rfl ?_ ?_<;>intro h q)|(refine Ch.cg rfl rfl rfl ?_ ?_<;>intro h q)
theorem and1 {a b:Bool} (h:(a&&b)=true):a=true:=by simp at h;exact h.1
theorem yf {a b:Bool} (h:(a&&b)=true):b=true:=by simp at h;exact h.2
theorem nP:∀(n:Nat) (l:List Int),(∀x∈l,1≤x∧x≤(n:Int))→l.Nodup→l.length≤n
 |0,l,h,_=>by
  cases l with
  |nil=>exact Nat.le_refl _
  |cons a l=>have:=h a (List.mem_cons_self ..);omega
 |n+1,l,h,hn=>by
  have ih:=nP n (l.erase ((n:Int)+1)) (fun x hx=>by
   have h1:=h x (List.mem_of_mem_erase hx)
   have h2:=(hn.mem_erase_iff.1 hx).1
   omega) (hn.erase _)
  rw [List.length_erase] at ih
  split at ih<;>omega
theorem TT {l:List Int} (h:LB l=true):l.length≤16:=by
 refine nP 16 l (fun x hx=> ?_) ?_
 ·
  obtain ⟨j,hj⟩:=List.getElem?_of_mem hx
  have h1:=B_.1 (show allI (Ge l) l.length=true from h) j (BM hj)
  unfold Ge at h1;rw [getD_at hj] at h1
  have:=and1 h1
  simpa using this
 ·
  refine List.pairwise_iff_getElem.2 fun i j hi hj hij he=> ?_
  have:=Zq h (List.getElem?_eq_getElem hi) (by rw [he];exact List.getElem?_eq_getElem hj)
  omega
theorem nQ {p:Int→Bool} {l:List Int} (h:∀j,j<l.length→p (l[j]?.getD 0)=true):l.all p=true:=List.all_eq_true.2 fun x hx=>by
 obtain ⟨j,hj⟩:=List.getElem?_of_mem hx
 have:=h j (BM hj)
 rw [getD_at hj] at this;exact this
theorem iB {CG bits id:Int} {l:List Hf}  :BF prog 194 [agg [int CG,int bits],int id,Ll l] (bool (Vh CG bits id l)):=by
 refine fo func194 rfl ⟨rfl,rfl⟩ fun M0 w0=>(Tr.Cl 2 rfl fun nR=> ?_)
 refine a2 ?_
 refine co rfl (Cz (KO) rfl rfl) ?_
 refine ag ?_ ?_<;>intro h1 q1
 refine ac ?_
 refine wk [23,3,2,1] rfl ?_
 refine a2 ?_
 · refine bool_eq ?_;rw [G_];unfold LZ IM;simp_all
 refine ag ?_ ?_<;>intro h2 q2
 refine ac ?_
 refine wk [23,3,2,1] rfl ?_
 refine a2 ?_
 · exact Ut
 refine ag ?_ ?_<;>intro h3 q3
 refine ac ?_
 refine wk [23,3,2,1] rfl ?_
 refine a2 ?_
 · exact Ut
 refine ac ?_
 refine wk [23,3,2,1] rfl ?_
 refine Tr.cn rfl ?_ ?_<;>intro h4 q4
 refine a2 ?_
 · exact Ut
 refine a2 ?_
 refine Tr.block (Tr.BE _ (kk [3,2,1] rfl) (fun k:Nat=>[(7,int ((k:Nat):Int))]) (fun k:Nat=>k≤(l).length∧(∀j y,j<k→l[j]? =some y→(!EI y)=false)) (fun k:Nat=>(l).length-k) 0 (⟨Nat.zero_le _,fun j y hj=>absurd hj AA⟩) kz ?_)
 rintro k ⟨BT,AX⟩
 refine an ?_ ?_<;>intro h5 q5
 have Ai:k<(l).length:=AH h5
 obtain ⟨c,Ah⟩:=at_ Ai
 · repeat' first|(refine bool_eq ?_;rw [G_];unfold LZ IM;rw [Vf (p:=EI) Ah Br];simp)|exact Fin.AO (k+1) ⟨⟨Ai,Db (p:=fun c=> !EI c) Ah Br AX⟩,by omega⟩ ⟨⟨_,rfl,AG k⟩,kz⟩|refine co rfl (AD rfl underlying82 DF vq vq AA (AZ Ah)) (co rfl (AM rfl GN DF vq rfl rfl) (co rfl (Cz (MI) rfl rfl) ?_))|refine ac ?_|(refine Tr.cn rfl ?_ ?_<;>intro h q)
 have BP:k=(l).length:=by have:=AJ h5;omega
 subst BP
 have hall:=NM AX
 refine ac ?_
 refine ag ?_ ?_<;>intro h7 q7
 refine ac ?_
 refine wk [6] rfl ?_
 refine ac ?_
 · refine bool_eq ?_;rw [G_];unfold LZ IM;rw [hall,gX Br];simp_all
 obtain ⟨c0,hc0⟩:=at_ (l:=l) (k:=0) (by have:=h7;simp at this;exact List.length_pos_iff.2 this)
 refine Jz h7 rfl ?_
 refine cy h7 rfl (AD rfl underlying82 DF vq vq AA (AZ (k:=0) hc0)) ?_
 refine ac ?_
 refine cy h7 rfl (P4 rfl vq vq) (Jz h7 rfl ?_)
 refine Ch.cs 46 rfl ?_ ?_<;>intro h8 q8
 refine Jz h8 rfl ?_
 refine cy h8 rfl (AD rfl underlying82 DF vq vq AA (AZ (k:=0) hc0)) ?_
 refine ac ?_
 refine wk [6] rfl ?_
 refine ac ?_
 · refine bool_eq ?_;rw [G_];unfold LZ IM;rw [hall,XW hc0];clear hall AX hc0;simp_all;omega
 refine ac ?_
 refine wk [6] rfl ?_
 refine ac ?_
 · refine bool_eq ?_;rw [G_];unfold LZ IM;rw [hall,XW hc0];clear hall AX hc0;simp_all
theorem Zt {e:B7} (hs3:e.hashes.length≤17592186044416):BF prog 148 [agg (Be e)] (int (if Gp e then 0 else 19)):=by
 refine fo func148 rfl ⟨rfl,rfl⟩ fun M0 w0=> ?_
 refine ac ?_
 refine ac ?_
 refine co rfl (Cz (nO) rfl rfl) ?_
 refine ac ?_
 refine Ch.cs 13 rfl ?_ ?_<;>intro h1 q1
 refine ac ?_
 refine Ti 1 47 rfl ?_
 refine ac ?_
 refine ac ?_
 · refine int_eq (if_neg (fun hv=> ?_)).symm;have ok:=DP.1 hv;have v1:=ok.name;have v2:=ok.least;have v3:=ok.lm;have v4:=ok.most;have v5:=TT ok.A9;have v6:=ok.Yy;have v7:=ok.ABA;simp_all
 refine ac ?_
 refine Ch.cs 18 rfl ?_ ?_<;>intro h2 q2
 refine ac ?_
 refine Ti 1 47 rfl ?_
 refine ac ?_
 refine ac ?_
 · exact Nx
 refine ac ?_
 refine Ch.cs 25 rfl ?_ ?_<;>intro h3 q3
 refine ac ?_
 refine Ti 1 47 rfl ?_
 refine ac ?_
 refine ac ?_
 · exact Nx
 refine ac ?_
 refine Ch.cs 30 rfl ?_ ?_<;>intro h4 q4
 refine ac ?_
 refine Ti 1 47 rfl ?_
 refine ac ?_
 refine ac ?_
 · exact Nx
 refine ac ?_
 refine Ch.cs 36 rfl ?_ ?_<;>intro h5 q5
 refine ac ?_
 refine Ti 1 47 rfl ?_
 refine ac ?_
 refine ac ?_
 · exact Nx
 refine ac ?_
 refine Ch.cs 42 rfl ?_ ?_<;>intro h6 q6
 refine ac ?_
 refine Ti 1 47 rfl ?_
 refine ac ?_
 refine ac ?_
 · exact Nx
 refine ac ?_
 refine Ti 1 47 rfl ?_
 refine Tr.cn rfl ?_ ?_<;>intro h7 q7
 refine ac ?_
 refine ac ?_
 · exact Nx
 refine ac ?_
 refine ac ?_
 refine Tr.block (Tr.BE [(1,_)] ⟨ke rfl,trivial⟩ (fun i:Nat=>[(3,int ((i:Nat):Int))]) (fun i:Nat=>i≤(e.A9).length∧(∀j,j<i→Ge e.A9 j=true)) (fun i:Nat=>(e.A9).length-i) 0 (⟨Nat.zero_le _,fun j hj=>absurd hj AA⟩) ⟨ke rfl,trivial⟩ ?_)
 rintro i ⟨Xg,E_⟩
 refine ac ?_
 refine Tr.cn rfl ?_ ?_<;>intro h8 q8
 have Jv:i<(e.A9).length:=AH h8
 obtain ⟨x,LQ⟩:=at_ Jv
 have hg:=getD_at (d:=(0:Int)) LQ
 refine ac ?_
 refine ao ?_
 refine tp rfl (AD rfl underlying22 Bs (vl rfl) (vl rfl) AA (AZ LQ)) (tp rfl (F5 rfl Cs rfl) (tp rfl (Cz (iA) rfl rfl) ?_))
 refine ao ?_
 refine Tl rfl rfl rfl rfl S6 Ic (fun b1=> ?_)
 refine sf 0 4 ⟨rfl,rfl,rfl⟩ rfl rfl rfl rfl ?_
 refine ao ?_
 refine Gk 1 3 5 rfl ?_
 refine ac ?_
 refine Ch.cs 66 rfl ?_ ?_<;>intro h9 q9
 have AGy:¬(1≤x∧x≤16):=by intro hh;rw [if_pos hh] at h9;exact absurd h9 AB
 refine ac ?_
 refine Gk 1 3 77 rfl ?_
 refine ac ?_
 refine ac ?_
 · refine int_eq (if_neg (fun hv=> ?_)).symm;have ok:=DP.1 hv;have h_:=B_.1 (show allI (Ge e.A9) e.A9.length=true from ok.A9) i AA;unfold Ge at h_;rw [hg] at h_;exact AGy (by simpa using and1 h_)
 have hin:1≤x∧x≤16:=by refine Decidable.byContradiction fun hh=> ?_;rw [if_neg hh] at h9;exact absurd h9 AB
 refine ac ?_
 refine cy h9 rfl (D6 rfl underlying22 Bs (vl rfl) (vl rfl) AA CF) ?_
 refine ac ?_
 refine cy h9 rfl (AD rfl underlying22 Bs (vl rfl) (vl rfl) AA (AZ LQ)) (cy h9 rfl (F5 rfl Cs rfl) ?_)
 refine cy h9 rfl (AV rfl (KU (l:=e.A9.take i) (v:=x)) ⟨⟨_,rfl,Pr.le_of_eq (by rw [←List.map_take,Int.toNat_natCast])⟩,ke rfl,trivial⟩) ?_
 refine ac ?_
 refine Gk 1 3 77 rfl ?_
 refine Tr.cn rfl ?_ ?_<;>intro h10 Sx
 refine ac ?_
 refine ac ?_
 · refine int_eq (if_neg (fun hv=> ?_)).symm;have ok:=DP.1 hv;have h_:=B_.1 (show allI (Ge e.A9) e.A9.length=true from ok.A9) i AA;unfold Ge at h_;rw [hg] at h_;exact absurd (by assumption:((e.A9.take i).any fun y=>x==y)=true) (by have h2:=yf h_;rw [Bool.not_eq_true'] at h2;rw [h2];decide)
 refine ac ?_
 refine ac ?_
 exact Fin.AO (i+1) ⟨⟨Jv,EG E_ (by unfold Ge;rw [hg];rw [decide_eq_true hin];simp_all)⟩,by omega⟩ ⟨⟨_,rfl,AG i⟩,ke rfl,trivial⟩
 have PV:i=(e.A9).length:=by have:=AJ h8;omega
 subst PV
 refine ac ?_
 refine ac ?_
 refine Tr.block (Tr.BE [(1,_)] ⟨ke rfl,trivial⟩ (fun m:Nat=>[(6,int ((m:Nat):Int))]) (fun m:Nat=>m≤(e.ids).length∧(∀j y,j<m→e.ids[j]? =some y→(!idB y)=false)) (fun m:Nat=>(e.ids).length-m) 0 (⟨Nat.zero_le _,fun j y hj=>absurd hj AA⟩) ⟨ke rfl,trivial⟩ ?_)
 rintro m ⟨NW,IG⟩
 refine ac ?_
 refine Tr.cn rfl ?_ ?_<;>intro h11 Ty
 have Ee:m<(e.ids).length:=AH h11
 obtain ⟨x,Em⟩:=at_ Ee
 refine ac ?_
 refine ac ?_
 refine co rfl (AD rfl underlying38 E8 (vl rfl) (vl rfl) AA (AZ Em)) ?_
 refine ac ?_
 refine co rfl (AD rfl underlying38 E8 (vl rfl) (vl rfl) AA (AZ Em)) ?_
 refine ac ?_
 refine co rfl (AD rfl underlying38 E8 (vl rfl) (vl rfl) AA (AZ Em)) ?_
 refine ac ?_
 refine co rfl (LV (iB) rfl rfl rfl rfl) ?_
 refine ac ?_
 refine Gk 1 6 104 rfl ?_
 refine Tr.cn rfl ?_ ?_<;>intro h12 XY
 refine ac ?_
 refine ac ?_
 · refine int_eq (if_neg (fun hv=> ?_)).symm;have ok:=DP.1 hv;have h_:=List.all_eq_true.1 ok.ids x (List.mem_of_getElem? Em);unfold idB at h_;simp_all
 refine ac ?_
 refine ac ?_
 exact Fin.AO (m+1) ⟨⟨Ee,Db (p:=fun c=> !idB c) Em (by unfold idB;simp_all) IG⟩,by omega⟩ ⟨⟨_,rfl,AG m⟩,ke rfl,trivial⟩
 have KV:m=(e.ids).length:=by have:=AJ h11;omega
 subst KV
 have hall:=NM IG
 refine ac ?_
 refine ac ?_
 refine Tr.block (Tr.BE [(1,_)] ⟨ke rfl,trivial⟩ (fun o:Nat=>[(7,int ((o:Nat):Int))]) (fun o:Nat=>o≤(e.anchors).length∧(∀j,j<o→(Ih e.anchors j&&IM (e.anchors[j]?.getD 0))=true)) (fun o:Nat=>(e.anchors).length-o) 0 (⟨Nat.zero_le _,fun j hj=>absurd hj AA⟩) ⟨ke rfl,trivial⟩ ?_)
 rintro o ⟨ADN,MJ⟩
 refine ac ?_
 refine Tr.cn rfl ?_ ?_<;>intro J0 dY
 have iC:o<(e.anchors).length:=AH J0
 obtain ⟨a,Uj⟩:=at_ iC
 have hg:=getD_at (d:=(0:Int)) Uj
 refine ac ?_
 refine ac ?_
 refine co rfl (AD rfl underlying22 Bs (vl rfl) (vl rfl) AA (AZ Uj)) ?_
 refine ac ?_
 refine Ch.cs 118 rfl ?_ ?_<;>intro J1 nB
 refine ac ?_
 refine Gk 1 7 143 rfl ?_
 refine ac ?_
 refine ac ?_
 · exact kN
 refine ac ?_
 refine cy J1 rfl (AD rfl underlying22 Bs (vl rfl) (vl rfl) AA (AZ Uj)) ?_
 refine ac ?_
 refine Ch.cs 126 rfl ?_ ?_<;>intro OB q15
 refine ac ?_
 refine Gk 1 7 143 rfl ?_
 refine ac ?_
 refine ac ?_
 · exact kN
 refine ac ?_
 refine Ch.cs 129 rfl ?_ ?_<;>intro h16 q16
 have hk0:0<o:=by simpa using h16
 obtain ⟨y,hy⟩:=at_ (l:=e.anchors) (k:=o-1) AA
 have Wd:=getD_at (d:=(0:Int)) hy
 refine ac ?_
 refine cy h16 rfl (AD rfl underlying22 Bs (vl rfl) (vl rfl) AA (by rw [show ((o:Nat):Int)-1=((o-1:Nat):Int) by omega];exact AZ hy)) ?_
 refine ac ?_
 refine cy h16 rfl (AD rfl underlying22 Bs (vl rfl) (vl rfl) AA (AZ Uj)) ?_
 refine ac ?_
 refine Gk 1 7 143 rfl ?_
 refine Tr.cn rfl ?_ ?_<;>intro Jg m8
 refine ac ?_
 refine ac ?_
 · refine int_eq (if_neg (fun hv=> ?_)).symm;have ok:=DP.1 hv;have h_:=B_.1 (show allI (Ih e.anchors) e.anchors.length=true from ok.anc) o AA;unfold Ih at h_;rw [hg,Wd] at h_;simp at h_;omega
 refine ac ?_
 refine ac ?_
 exact Fin.AO (o+1) ⟨⟨iC,(fun j hj=>by rcases Nat.lt_or_eq_of_le (Nat.le_of_lt_succ hj) with h_|h_;exact MJ j h_;(subst h_;unfold Ih IM;rw [hg];rw [Wd];simp_all))⟩,by omega⟩ ⟨⟨_,rfl,AG o⟩,ke rfl,trivial⟩
 have MF:¬0<o:=by simpa using h16
 refine ac ?_
 refine Gk 1 7 143 rfl ?_
 refine ac ?_
 refine ac ?_
 exact Fin.AO (o+1) ⟨⟨iC,(fun j hj=>by rcases Nat.lt_or_eq_of_le (Nat.le_of_lt_succ hj) with h_|h_;exact MJ j h_;(subst h_;unfold Ih IM;rw [hg];simp_all))⟩,by omega⟩ ⟨⟨_,rfl,AG o⟩,ke rfl,trivial⟩
 have yg:o=(e.anchors).length:=by have:=AJ J0;omega
 subst yg
 refine ac ?_
 refine ac ?_
 refine Tr.block (Tr.BE [(1,_)] ⟨ke rfl,trivial⟩ (fun q:Nat=>[(8,int ((q:Nat):Int))]) (fun q:Nat=>q≤(e.hashes).length∧(∀j,j<q→(Ih e.hashes j&&Rd (e.hashes[j]?.getD 0))=true)) (fun q:Nat=>(e.hashes).length-q) 0 (⟨Nat.zero_le _,fun j hj=>absurd hj AA⟩) ⟨ke rfl,trivial⟩ ?_)
 rintro q ⟨AHq,Vw⟩
 refine ac ?_
 refine Tr.cn rfl ?_ ?_<;>intro NB q18
 have yh:q<(e.hashes).length:=AH NB
 obtain ⟨a,Xh⟩:=at_ yh
 have hg:=getD_at (d:=(0:Int)) Xh
 refine ac ?_
 refine ac ?_
 refine co rfl (AD rfl underlying22 Bs (vl rfl) (vl rfl) AA (AZ Xh)) (co rfl (F5 rfl Cs rfl) (co rfl (Cz (P7) rfl rfl) ?_))
 refine ac ?_
 refine Ch.cs 158 rfl ?_ ?_<;>intro Wg q19
 refine ac ?_
 refine Gk 1 8 175 rfl ?_
 refine ac ?_
 refine ac ?_
 · refine int_eq (if_neg (fun hv=> ?_)).symm;have ok:=DP.1 hv;have h_:=List.all_eq_true.1 ok.hsh a (List.mem_of_getElem? Xh);unfold Rd at h_;simp_all
 refine ac ?_
 refine Ch.cs 161 rfl ?_ ?_<;>intro NQ q20
 have hk0:0<q:=by simpa using NQ
 obtain ⟨y,hy⟩:=at_ (l:=e.hashes) (k:=q-1) AA
 have Wd:=getD_at (d:=(0:Int)) hy
 refine ac ?_
 refine cy NQ rfl (AD rfl underlying22 Bs (vl rfl) (vl rfl) AA (by rw [show ((q:Nat):Int)-1=((q-1:Nat):Int) by omega];exact AZ hy)) ?_
 refine ac ?_
 refine cy NQ rfl (AD rfl underlying22 Bs (vl rfl) (vl rfl) AA (AZ Xh)) ?_
 refine ac ?_
 refine Gk 1 8 175 rfl ?_
 refine Tr.cn rfl ?_ ?_<;>intro dQ q21
 refine ac ?_
 refine ac ?_
 · refine int_eq (if_neg (fun hv=> ?_)).symm;have ok:=DP.1 hv;have h_:=B_.1 (show allI (Ih e.hashes) e.hashes.length=true from ok.hash) q AA;unfold Ih at h_;rw [hg,Wd] at h_;simp at h_;omega
 refine ac ?_
 refine ac ?_
 exact Fin.AO (q+1) ⟨⟨yh,(fun j hj=>by rcases Nat.lt_or_eq_of_le (Nat.le_of_lt_succ hj) with h_|h_;exact Vw j h_;(subst h_;unfold Ih Rd;rw [hg];rw [Wd];simp_all))⟩,by omega⟩ ⟨⟨_,rfl,AG q⟩,ke rfl,trivial⟩
 have MF:¬0<q:=by simpa using NQ
 refine ac ?_
 refine Gk 1 8 175 rfl ?_
 refine ac ?_
 refine ac ?_
 exact Fin.AO (q+1) ⟨⟨yh,(fun j hj=>by rcases Nat.lt_or_eq_of_le (Nat.le_of_lt_succ hj) with h_|h_;exact Vw j h_;(subst h_;unfold Ih Rd;rw [hg];simp_all))⟩,by omega⟩ ⟨⟨_,rfl,AG q⟩,ke rfl,trivial⟩
 have AGz:q=(e.hashes).length:=by have:=AJ NB;omega
 subst AGz
 refine ac ?_
 refine ac ?_
 refine ac ?_
 · refine int_eq (if_pos (DP.2 ⟨by simp_all,by omega,by omega,by omega,B_.2 E_,by omega,by omega,B_.2 (fun j hj=>and1 (MJ j hj)),B_.2 (fun j hj=>and1 (Vw j hj)),hall,nQ (fun j hj=>yf (MJ j hj)),nQ (fun j hj=>yf (Vw j hj))⟩)).symm
theorem FY {e:B7} (Gb:e.small):BF Tryz.prog 148 [agg (Be e)] (int (if Gp e then 0 else 19)):=Zt (by have:=Gb.hashes;omega)
theorem nS {a b:List (Int)}  :BF prog 87 [ints a,ints b] (bool (decide (a=b))):=by
 refine fo func87 rfl ⟨rfl,rfl⟩ fun M0 w0=>(Tr.Cl 0 rfl fun EH=>(Tr.Cl 1 rfl fun F0=> ?_))
 refine ac ?_
 refine an ?_ ?_<;>intro h1 q1
 have hne:¬a.length=b.length:=by simp_all;omega
 refine a2 ?_
 · exact Uk
 have Sz:a.length=b.length:=by simp_all;omega
 refine a2 ?_
 refine Tr.block (Tr.BE _ (kk [12,1,0] rfl) (fun k:Nat=>[(13,int ((k:Nat):Int))]) (fun k:Nat=>k≤(a).length∧(a.take k=b.take k)) (fun k:Nat=>(a).length-k) 0 (⟨Nat.zero_le _,rfl⟩) kz ?_)
 rintro k ⟨BT,AX⟩
 refine ac ?_
 refine Tr.seq ?_
 refine Tr.cn rfl ?_ ?_<;>intro h2 q2
 have Ai:k<(a).length:=AH h2
 obtain ⟨x,Ah⟩:=at_ Ai
 obtain ⟨y,hy⟩:=at_ (l:=b) (k:=k) AA
 · repeat' first|(refine bool_eq ?_;symm;rw [decide_eq_false_iff_not];refine kC Ah hy ?_;rintro rfl;simp_all)|exact Fin.AO (k+1) ⟨⟨Ai,Wj Ah hy AX Br⟩,by omega⟩ ⟨⟨_,rfl,AG k⟩,kz⟩|refine co rfl (AD rfl underlying22 Bs vq vq AA (AZ Ah)) ?_|refine co rfl (AD rfl underlying22 Bs vq vq AA (AZ hy)) ?_|refine ac ?_|(refine Tr.cn rfl ?_ ?_<;>intro h q)
 have BP:k=(a).length:=by have:=AJ h2;omega
 subst BP
 refine a3 ?_
 · exact Um
theorem yj {a b:List (List UInt8)}  :BF prog 185 [gU a,gU b] (bool (decide (a=b))):=by
 refine fo func185 rfl ⟨rfl,rfl⟩ fun M0 w0=>(Tr.Cl 0 rfl fun EH=>(Tr.Cl 1 rfl fun F0=> ?_))
 refine ac ?_
 refine an ?_ ?_<;>intro h1 q1
 have hne:¬a.length=b.length:=by simp_all;omega
 refine a2 ?_
 · exact Uk
 have Sz:a.length=b.length:=by simp_all;omega
 refine a2 ?_
 refine Tr.block (Tr.BE _ (kk [12,1,0] rfl) (fun k:Nat=>[(13,int ((k:Nat):Int))]) (fun k:Nat=>k≤(a).length∧(a.take k=b.take k)) (fun k:Nat=>(a).length-k) 0 (⟨Nat.zero_le _,rfl⟩) kz ?_)
 rintro k ⟨BT,AX⟩
 refine ac ?_
 refine Tr.seq ?_
 refine Tr.cn rfl ?_ ?_<;>intro h2 q2
 have Ai:k<(a).length:=AH h2
 obtain ⟨x,Ah⟩:=at_ Ai
 obtain ⟨y,hy⟩:=at_ (l:=b) (k:=k) AA
 · repeat' first|(refine bool_eq ?_;symm;rw [decide_eq_false_iff_not];refine kC Ah hy ?_;rintro rfl;simp_all)|exact Fin.AO (k+1) ⟨⟨Ai,Wj Ah hy AX Br⟩,by omega⟩ ⟨⟨_,rfl,AG k⟩,kz⟩|refine co rfl (AD rfl underlying127 NC vq vq AA (AZ Ah)) ?_|refine co rfl (AD rfl underlying127 NC vq vq AA (AZ hy)) ?_|refine ac ?_|(refine Tr.cn rfl ?_ ?_<;>intro h q)
 have BP:k=(a).length:=by have:=AJ h2;omega
 subst BP
 refine a3 ?_
 · exact Um
abbrev AG0 (l:List B7):Pr:=slice 9 (l.map Be)
theorem uN {a b:Hf}  :BF prog 142 [agg (DW a),agg (DW b)] (bool (decide (a=b))):=by
 refine fo func142 rfl ⟨rfl,rfl⟩ fun M0 w0=> ?_
 refine ac ?_
 refine wk [3,2] rfl (Tr.Q5 [2,3] [(5,bool (decide (a.IE=b.IE∧a.KK=b.KK∧a.Hz=b.Hz∧a.names=b.names)))] (True) ?_ (fun h1=> ?_))
 · repeat' first|exact Fin.AO () Br ⟨⟨_,rfl,bool_eq Br⟩,kz⟩|refine cy h rfl (CS (yj) rfl rfl rfl) ?_|refine ac ?_|(refine Ch.cg rfl rfl rfl ?_ ?_<;>intro h q)
 refine wk [5,3,2] rfl (Tr.Q5 [2,3,5] [(6,bool (decide (a.PT=b.PT∧a.Jl=b.Jl∧a.CU=b.CU∧a.Vg=b.Vg∧a.NN=b.NN∧a.gS=b.gS∧a.gT=b.gT)))] (True) ?_ (fun h5=> ?_))
 · repeat' first|exact Fin.AO () Br ⟨⟨_,rfl,bool_eq Br⟩,kz⟩|refine co rfl (P4 rfl vq vq) (cm rfl ?_)|refine cy h rfl (P4 rfl vq vq) ?_|refine cy h rfl (nM rfl vq vq) ?_|refine ac ?_|(refine Ch.cg rfl rfl rfl ?_ ?_<;>intro h q)
 · repeat' first|(refine bool_eq ?_;cases a;cases b;simp_all [Bool.beq_eq_decide_eq])|refine ac ?_|(refine Ch.cg rfl rfl rfl ?_ ?_<;>intro h q)
theorem uO:Entry Tryz.prog 142:=⟨_,Tryz.func142,rfl,rfl⟩
theorem yl {a b:List Hf}  :BF prog 141 [Ll a,Ll b,cQ prog (fun p:Hf×Hf=>[agg (DW p.1),agg (DW p.2)]) (fun p=>bool (decide (p.1=p.2)))] (bool (decide (a=b))):=by
 refine fo func141 rfl ⟨rfl,rfl⟩ fun M0 w0=>(Tr.Cl 0 rfl fun EH=>(Tr.Cl 1 rfl fun F0=> ?_))
 refine ac ?_
 refine an ?_ ?_<;>intro h1 q1
 have hne:¬a.length=b.length:=by simp_all;omega
 refine a2 ?_
 · exact Uk
 have Sz:a.length=b.length:=by simp_all;omega
 refine a2 ?_
 refine Tr.block (Tr.BE _ (kk [16,15,2,1] rfl) (fun k:Nat=>[(17,int ((k:Nat):Int))]) (fun k:Nat=>k≤(a).length∧(a.take k=b.take k)) (fun k:Nat=>(a).length-k) 0 (⟨Nat.zero_le _,rfl⟩) kz ?_)
 rintro k ⟨BT,AX⟩
 refine ac ?_
 refine Tr.seq ?_
 refine Tr.cn rfl ?_ ?_<;>intro h2 q2
 have Ai:k<(a).length:=AH h2
 obtain ⟨x,Ah⟩:=at_ Ai
 obtain ⟨y,hy⟩:=at_ (l:=b) (k:=k) AA
 refine ac ?_
 refine ao ?_
 refine tp rfl (AD rfl underlying82 DF (vl rfl) (vl rfl) AA (AZ Ah)) (tp rfl (AM rfl GN DF (vl rfl) rfl rfl) ?_)
 refine Tl rfl rfl rfl rfl RM Lh (fun b1=> ?_)
 refine tm rfl ?_
 refine sf 0 8 ⟨rfl,rfl,rfl⟩ rfl rfl rfl rfl ?_
 refine ao ?_
 refine ao ?_
 refine tp rfl (AD rfl underlying82 DF (vl rfl) (vl rfl) AA (AZ hy)) (tp rfl (AM rfl GN DF (vl rfl) rfl rfl) ?_)
 refine Tl rfl rfl rfl rfl RM Lh (fun b2=> ?_)
 refine sf 0 9 ⟨rfl,rfl,rfl⟩ rfl rfl rfl rfl ?_
 refine ao ?_
 · exact kB
 have BP:k=(a).length:=by have:=AJ h2;omega
 subst BP
 refine a3 ?_
 · exact Um
theorem ADO {a b:IF}  :BF prog 140 [agg (FG a),agg (FG b)] (bool (decide (a=b))):=by
 refine fo func140 rfl ⟨rfl,rfl⟩ fun M0 w0=> ?_
 · repeat' first|(refine bool_eq ?_;cases a;cases b;simp_all [Bool.beq_eq_decide_eq])|refine co rfl (P4 rfl vq vq) (cm rfl ?_)|refine cy h rfl (AV rfl (yl) ⟨kq,kq,⟨_,rfl,E0 (dom:=fun p:Hf×Hf=>[agg (DW p.1),agg (DW p.2)]) (res:=fun p=>bool (decide (p.1=p.2))) uO (fun p=>uN (a:=p.1) (b:=p.2))⟩,trivial⟩) ?_|refine ac ?_|(refine Ch.cg rfl rfl rfl ?_ ?_<;>intro h q)
theorem ADP:Entry Tryz.prog 140:=⟨_,Tryz.func140,rfl,rfl⟩
theorem ym {a b:List IF}  :BF prog 143 [yV a,yV b,cQ prog (fun p:IF×IF=>[agg (FG p.1),agg (FG p.2)]) (fun p=>bool (decide (p.1=p.2)))] (bool (decide (a=b))):=by
 refine fo func143 rfl ⟨rfl,rfl⟩ fun M0 w0=>(Tr.Cl 0 rfl fun EH=>(Tr.Cl 1 rfl fun F0=> ?_))
 refine ac ?_
 refine an ?_ ?_<;>intro h1 q1
 have hne:¬a.length=b.length:=by simp_all;omega
 refine a2 ?_
 · exact Uk
 have Sz:a.length=b.length:=by simp_all;omega
 refine a2 ?_
 refine Tr.block (Tr.BE _ (kk [16,15,2,1] rfl) (fun k:Nat=>[(17,int ((k:Nat):Int))]) (fun k:Nat=>k≤(a).length∧(a.take k=b.take k)) (fun k:Nat=>(a).length-k) 0 (⟨Nat.zero_le _,rfl⟩) kz ?_)
 rintro k ⟨BT,AX⟩
 refine ac ?_
 refine Tr.seq ?_
 refine Tr.cn rfl ?_ ?_<;>intro h2 q2
 have Ai:k<(a).length:=AH h2
 obtain ⟨x,Ah⟩:=at_ Ai
 obtain ⟨y,hy⟩:=at_ (l:=b) (k:=k) AA
 refine ac ?_
 refine ao ?_
 refine tp rfl (AD rfl underlying38 E8 (vl rfl) (vl rfl) AA (AZ Ah)) (tp rfl (AM rfl Ov E8 (vl rfl) rfl rfl) ?_)
 refine Tl rfl rfl rfl rfl Wf S5 (fun b1=> ?_)
 refine tm rfl ?_
 refine sf 0 8 ⟨rfl,rfl,rfl⟩ rfl rfl rfl rfl ?_
 refine ao ?_
 refine ao ?_
 refine tp rfl (AD rfl underlying38 E8 (vl rfl) (vl rfl) AA (AZ hy)) (tp rfl (AM rfl Ov E8 (vl rfl) rfl rfl) ?_)
 refine Tl rfl rfl rfl rfl Wf S5 (fun b2=> ?_)
 refine sf 0 9 ⟨rfl,rfl,rfl⟩ rfl rfl rfl rfl ?_
 refine ao ?_
 · exact kB
 have BP:k=(a).length:=by have:=AJ h2;omega
 subst BP
 refine a3 ?_
 · exact Um
theorem d_ {a b:B7}  :BF prog 80 [agg (Be a),agg (Be b)] (bool (decide (a=b))):=by
 refine fo func80 rfl ⟨rfl,rfl⟩ fun M0 w0=> ?_
 refine a2 ?_
 refine wk [5,3,2] rfl (Tr.Q5 [2,3,5] [(6,bool (decide (a.A9=b.A9∧a.anchors=b.anchors∧a.hashes=b.hashes)))] (True) ?_ (fun h1=> ?_))
 · repeat' first|exact Fin.AO () Br ⟨⟨_,rfl,bool_eq Br⟩,kz⟩|refine co rfl (CS (nS) rfl rfl rfl) (cm rfl ?_)|refine cy h rfl (CS (nS) rfl rfl rfl) ?_|refine ac ?_|(refine Ch.cg rfl rfl rfl ?_ ?_<;>intro h q)
 · repeat' first|(refine bool_eq ?_;cases a;cases b;simp_all [Bool.beq_eq_decide_eq])|refine cy h rfl (AV rfl (ym) ⟨kq,kq,⟨_,rfl,E0 (dom:=fun p:IF×IF=>[agg (FG p.1),agg (FG p.2)]) (res:=fun p=>bool (decide (p.1=p.2))) ADP (fun p=>ADO (a:=p.1) (b:=p.2))⟩,trivial⟩) ?_|refine ac ?_|(refine Ch.cg rfl rfl rfl ?_ ?_<;>intro h q)
structure Dn where
 Bu:List B7
 BX:List Iz
 items:List Vu
 deriving DecidableEq
abbrev CM (e:Dn):List Pr:=[AG0 e.Bu,Ij e.BX,Rj e.items]
abbrev GR:Dn:=⟨[],[],[]⟩
structure Dn.fits (e:Dn):Prop where
 Bu:∀x∈e.Bu,x.fits∧x.small
 items:∀x∈e.items,x.name.length≤maxLen
 le:e.Bu.length≤1000000000000
 lg:e.BX.length≤1000000000000
 li:e.items.length≤1000000000000
def Xi (l:List B7) (i:Nat):Bool:=Gp (l[i]?.getD FO)&&(decide (i=0)||decide (Lib.compareBytes (l[i-1]?.getD FO).name (l[i]?.getD FO).name= -1))
def Fc (e:Dn):Bool:=(allI (Xi e.Bu) e.Bu.length&&decide (e.Bu.length≤16))&&Vv e.Bu.length e.BX&&(e.items.all O3&&decide (e.items.length≤30))
structure wu (e:Dn):Prop where
 ep:∀j,j<e.Bu.length→Xi e.Bu j=true
 e16:e.Bu.length≤16
 ed:∀j,j<e.BX.length→Eo e.Bu.length e.BX j=true
 e40:e.BX.length≤40
 it:e.items.all O3=true
 i30:e.items.length≤30
theorem Fe {e:Dn}:Fc e=true↔wu e:=by
 unfold Fc Vv
 simp only [Bool.and_eq_true,decide_eq_true_eq,B_]
 exact ⟨fun ⟨⟨⟨h1,h2⟩,h3,h4⟩,h5,h6⟩=>⟨h1,h2,h3,h4,h5,h6⟩,fun h=>⟨⟨⟨h.ep,h.e16⟩,h.ed,h.e40⟩,h.it,h.i30⟩⟩
theorem fq {e:Dn} (h:wu e):Vv e.Bu.length e.BX=true:=by unfold Vv;simp only [Bool.and_eq_true,decide_eq_true_eq,B_];exact ⟨h.ed,h.e40⟩
theorem D7 {e:Dn} (hf:e.fits):BF prog 94 [agg (CM e)] (int (if Fc e then 0 else 31)):=by
 refine fo func94 rfl ⟨rfl,rfl⟩ fun M0 w0=> ?_
 have hl1:=hf.le
 have hl2:=hf.lg
 have hl3:=hf.li
 refine ac ?_
 refine ac ?_
 refine Ch.cs 11 rfl ?_ ?_<;>intro h1 q1
 refine ac ?_
 refine Ti 1 22 rfl ?_
 refine ac ?_
 refine ac ?_
 · exact Y4
 refine ac ?_
 refine Ch.cs 17 rfl ?_ ?_<;>intro h2 q2
 refine ac ?_
 refine Ti 1 22 rfl ?_
 refine ac ?_
 refine ac ?_
 · exact Y4
 refine ac ?_
 refine Ti 1 22 rfl ?_
 refine Tr.cn rfl ?_ ?_<;>intro h3 q3
 refine ac ?_
 refine ac ?_
 · exact Y4
 refine ac ?_
 refine ac ?_
 refine Tr.block (Tr.BE [(1,_)] ⟨ke rfl,trivial⟩ (fun k:Nat=>[(3,int ((k:Nat):Int))]) (fun k:Nat=>k≤(e.Bu).length∧(∀j,j<k→Xi e.Bu j=true)) (fun k:Nat=>(e.Bu).length-k) 0 (⟨Nat.zero_le _,fun j hj=>absurd hj AA⟩) ⟨ke rfl,trivial⟩ ?_)
 rintro k ⟨BT,AX⟩
 refine ac ?_
 refine Tr.cn rfl ?_ ?_<;>intro h4 q4
 have Ai:k<(e.Bu).length:=AH h4
 obtain ⟨x,Ah⟩:=at_ Ai
 have hg:=getD_at (d:=FO) Ah
 have hxf:=hf.Bu x (List.mem_of_getElem? Ah)
 refine ac ?_
 refine ac ?_
 refine co rfl (AD rfl underlying27 Bw (vl rfl) (vl rfl) AA (AZ Ah)) (co rfl (AM rfl CD Bw (vl rfl) rfl rfl) (co rfl (Cz (FY hxf.2) rfl rfl) ?_))
 refine ac ?_
 refine Ch.cs 37 rfl ?_ ?_<;>intro h5 q5
 refine ac ?_
 refine Gk 1 3 56 rfl ?_
 refine ac ?_
 refine ac ?_
 · refine int_eq (if_neg (fun hv=> ?_)).symm;have ok:=Fe.1 hv;(have h_:=ok.ep k AA;unfold Xi at h_;rw [hg] at h_;simp_all)
 refine ac ?_
 refine Ch.cs 40 rfl ?_ ?_<;>intro h6 q6
 have hk0:0<k:=by simpa using h6
 obtain ⟨y,hy⟩:=at_ (l:=e.Bu) (k:=k-1) AA
 have Wd:=getD_at (d:=FO) hy
 refine ac ?_
 refine cy h6 rfl (AD rfl underlying27 Bw (vl rfl) (vl rfl) AA Lz) ?_
 refine ac ?_
 refine cy h6 rfl (AD rfl underlying27 Bw (vl rfl) (vl rfl) AA (AZ Ah)) ?_
 refine ac ?_
 refine cy h6 rfl (RQ rfl (vl rfl) (vl rfl)) ?_
 refine ac ?_
 refine Gk 1 3 56 rfl ?_
 refine Tr.cn rfl ?_ ?_<;>intro h7 q7
 refine ac ?_
 refine ac ?_
 · refine int_eq (if_neg (fun hv=> ?_)).symm;have ok:=Fe.1 hv;(have h_:=ok.ep k AA;unfold Xi at h_;rw [hg,Wd] at h_;simp_all)
 refine ac ?_
 refine ac ?_
 exact Fin.AO (k+1) ⟨⟨Ai,EG AX (by unfold Xi;rw [hg,Wd];simp_all)⟩,by omega⟩ ⟨⟨_,rfl,AG k⟩,ke rfl,trivial⟩
 have MF:¬0<k:=by simpa using h6
 refine ac ?_
 refine Gk 1 3 56 rfl ?_
 refine ac ?_
 refine ac ?_
 exact Fin.AO (k+1) ⟨⟨Ai,EG AX (by unfold Xi;rw [hg];simp_all)⟩,by omega⟩ ⟨⟨_,rfl,AG k⟩,ke rfl,trivial⟩
 have BP:k=(e.Bu).length:=by have:=AJ h4;omega
 subst BP
 have Vx:=AX
 refine ac ?_
 refine ac ?_
 refine Tr.block (Tr.BE [(1,_)] ⟨ke rfl,trivial⟩ (fun m:Nat=>[(4,int ((m:Nat):Int))]) (fun m:Nat=>m≤(e.BX).length∧(∀j,j<m→Eo e.Bu.length e.BX j=true)) (fun m:Nat=>(e.BX).length-m) 0 (⟨Nat.zero_le _,fun j hj=>absurd hj AA⟩) ⟨ke rfl,trivial⟩ ?_)
 rintro m ⟨NW,IG⟩
 refine ac ?_
 refine Tr.cn rfl ?_ ?_<;>intro h8 q8
 have Ee:m<(e.BX).length:=AH h8
 obtain ⟨c,Em⟩:=at_ Ee
 have hg:=getD_at (d:=G2) Em
 refine ac ?_
 refine ao ?_
 refine tp rfl (AD rfl underlying28 E5 (vl rfl) (vl rfl) AA (AZ Em)) (tp rfl (AM rfl RJ E5 (vl rfl) rfl rfl) ?_)
 refine Tl rfl rfl rfl rfl ZU XE (fun b1=> ?_)
 refine sf 0 5 ⟨rfl,rfl,rfl⟩ rfl rfl rfl rfl ?_
 refine ao ?_
 refine Gk 1 4 5 rfl ?_
 refine ac ?_
 refine Ch.cs 72 rfl ?_ ?_<;>intro h9 q9
 refine ac ?_
 refine Tj 1 4 5 99 rfl ?_
 refine ac ?_
 refine ac ?_
 · exact Ug
 refine ac ?_
 refine Ch.cs 80 rfl ?_ ?_<;>intro h10 Sx
 refine ac ?_
 refine Tj 1 4 5 99 rfl ?_
 refine ac ?_
 refine ac ?_
 · exact Ug
 refine ac ?_
 refine Ch.cs 85 rfl ?_ ?_<;>intro h11 Ty
 refine ac ?_
 refine Tj 1 4 5 99 rfl ?_
 refine ac ?_
 refine ac ?_
 · exact Ug
 refine ac ?_
 refine Ch.cs 93 rfl ?_ ?_<;>intro h12 XY
 refine ac ?_
 refine Tj 1 4 5 99 rfl ?_
 refine ac ?_
 refine ac ?_
 · exact Ug
 refine ac ?_
 refine Tj 1 4 5 99 rfl ?_
 refine Tr.cn rfl ?_ ?_<;>intro J0 dY
 refine ac ?_
 refine ac ?_
 · refine int_eq (if_neg (fun hv=> ?_)).symm;have ok:=Fe.1 hv;(have h_:=ok.ed m AA;unfold Eo at h_;rw [hg] at h_;simp_all)
 refine ac ?_
 refine ac ?_
 refine Ch.cs 102 rfl ?_ ?_<;>intro J1 nB
 have hk0:0<m:=by simpa using J1
 obtain ⟨y,hy⟩:=at_ (l:=e.BX) (k:=m-1) AA
 have Wd:=getD_at (d:=G2) hy
 refine ac ?_
 refine cy J1 rfl (AD rfl underlying28 E5 (vl rfl) (vl rfl) AA ZA) ?_
 refine ac ?_
 refine Ch.cs 113 rfl ?_ ?_<;>intro OB q15
 refine ac ?_
 refine Gk 1 4 137 rfl ?_
 refine ac ?_
 refine ac ?_
 · exact kP
 refine ac ?_
 refine cy OB rfl (AD rfl underlying28 E5 (vl rfl) (vl rfl) AA ZA) ?_
 refine ac ?_
 refine Ch.cs 124 rfl ?_ ?_<;>intro h16 q16
 refine ac ?_
 refine cy h16 rfl (AD rfl underlying28 E5 (vl rfl) (vl rfl) AA ZA) ?_
 refine ac ?_
 refine Gk 1 4 137 rfl ?_
 refine Tr.cn rfl ?_ ?_<;>intro Jg m8
 refine ac ?_
 refine ac ?_
 · exact kP
 refine ac ?_
 refine ac ?_
 exact Fin.AO (m+1) ⟨⟨Ee,EG IG (by unfold Eo;rw [hg,Wd];simp_all)⟩,by omega⟩ ⟨⟨_,rfl,AG m⟩,ke rfl,trivial⟩
 refine ac ?_
 refine Gk 1 4 137 rfl ?_
 refine ac ?_
 refine ac ?_
 exact Fin.AO (m+1) ⟨⟨Ee,EG IG (by unfold Eo;rw [hg,Wd];simp_all;omega)⟩,by omega⟩ ⟨⟨_,rfl,AG m⟩,ke rfl,trivial⟩
 have MF:¬0<m:=by simpa using J1
 refine ac ?_
 refine Gk 1 4 137 rfl ?_
 refine ac ?_
 refine ac ?_
 exact Fin.AO (m+1) ⟨⟨Ee,EG IG (by unfold Eo;rw [hg];simp_all)⟩,by omega⟩ ⟨⟨_,rfl,AG m⟩,ke rfl,trivial⟩
 have KV:m=(e.BX).length:=by have:=AJ h8;omega
 subst KV
 refine ac ?_
 refine ac ?_
 refine Tr.block (Tr.BE [(1,_)] ⟨ke rfl,trivial⟩ (fun o:Nat=>[(6,int ((o:Nat):Int))]) (fun o:Nat=>o≤(e.items).length∧(∀j y,j<o→e.items[j]? =some y→(!O3 y)=false)) (fun o:Nat=>(e.items).length-o) 0 (⟨Nat.zero_le _,fun j y hj=>absurd hj AA⟩) ⟨ke rfl,trivial⟩ ?_)
 rintro o ⟨ADN,MJ⟩
 refine ac ?_
 refine Tr.cn rfl ?_ ?_<;>intro NB q18
 have iC:o<(e.items).length:=AH NB
 obtain ⟨x,Uj⟩:=at_ iC
 refine ac ?_
 refine ac ?_
 refine co rfl (AD rfl underlying29 Hx (vl rfl) (vl rfl) AA (AZ Uj)) (co rfl (AM rfl VP Hx (vl rfl) rfl rfl) (co rfl (Cz (Zn) rfl rfl) ?_))
 refine ac ?_
 refine Gk 1 6 151 rfl ?_
 refine Tr.cn rfl ?_ ?_<;>intro Wg q19
 refine ac ?_
 refine ac ?_
 · refine int_eq (if_neg (fun hv=> ?_)).symm;have ok:=Fe.1 hv;(have h_:=List.all_eq_true.1 ok.it x (List.mem_of_getElem? Uj);simp_all)
 refine ac ?_
 refine ac ?_
 exact Fin.AO (o+1) ⟨⟨iC,Db (p:=fun c=> !O3 c) Uj Br MJ⟩,by omega⟩ ⟨⟨_,rfl,AG o⟩,ke rfl,trivial⟩
 have yg:o=(e.items).length:=by have:=AJ NB;omega
 subst yg
 have hall:=NM MJ
 refine ac ?_
 refine ac ?_
 refine ac ?_
 · refine int_eq (if_pos (Fe.2 ⟨Vx,by omega,IG,by omega,hall,by omega⟩)).symm
theorem yp {d:Nat} {w:World} {x0 y0:Int} {x1 y1:Int}:(Op.equalIn (d+2) 132 (.agg #[.int .i64 x0,.int .i64 x1]) (.agg #[.int .i64 y0,.int .i64 y1])).run Tryz.prog w= .ok (decide (x0=y0∧x1=y1)) w:=by
 have h:=eqS (w:=w) (d:=d+1) (xs:= #[.int .i64 x0,.int .i64 x1]) (ys:= #[.int .i64 y0,.int .i64 y1]) Tryz.underlying132 BV (FF AB (CI Cs rfl) (CI Cs rfl) (Gd (d:=d+0) Tryz.underlying3) (FF AB (CI Cs rfl) (CI Cs rfl) (Gd (d:=d+0) Tryz.underlying3) (NH)))
 refine h.trans (congrArg (fun b=>Result.ok b w) ?_)
 rw [Bool.eq_iff_iff];simp [and_assoc]
theorem nT {E:Env} {I:Ck} {o:Oper} {u:TypeId} {x y:Operand} {x0 y0:Int} {x1 y1:Int} (ho:o.op= .binOp .neq 132 x y u) (hx:VL E x (agg [is (.int .i64 x0),is (.int .i64 x1)])) (hy:VL E y (agg [is (.int .i64 y0),is (.int .i64 y1)])):Ae Tryz.prog I o E (bool (!decide (x0=y0∧x1=y1))):=
 RR [.int .i64 x0,.int .i64 x1] [.int .i64 y0,.int .i64 y1] ho hx hy BV (fun w=>by rw [show Op.equal 132 _ _=Op.equalIn (9998+2) 132 _ _ from rfl];exact yp)
def setAt (n:Int) (l:List Int) (i:Nat):Bool:=decide (0≤l[i]?.getD 0)&&decide (l[i]?.getD 0<n)&&(decide (i=0)||decide (l[i-1]?.getD 0<l[i]?.getD 0))
def Dc (n:Int) (l:List Int):Bool:=allI (setAt n l) l.length
theorem Rk {l:List Int} {n:Int}  :BF prog 82 [ints l,int n] (bool (Dc n l)):=by
 refine fo func82 rfl ⟨rfl,rfl⟩ fun M0 w0=>(Tr.Cl 0 rfl fun EH=> ?_)
 refine a2 ?_
 refine Tr.block (Tr.BE _ (kk [8,7,1,0] rfl) (fun k:Nat=>[(9,int ((k:Nat):Int))]) (fun k:Nat=>k≤(l).length∧(∀j,j<k→setAt n l j=true)) (fun k:Nat=>(l).length-k) 0 (⟨Nat.zero_le _,fun j hj=>absurd hj AA⟩) kz ?_)
 rintro k ⟨BT,AX⟩
 refine ac ?_
 refine Tr.seq ?_
 refine Tr.cn rfl ?_ ?_<;>intro h1 q1
 have Ai:k<(l).length:=AH h1
 obtain ⟨x,Ah⟩:=at_ Ai
 have hg:=getD_at (d:=(0:Int)) Ah
 refine a2 ?_
 refine co rfl (AD rfl underlying51 Bs vq vq AA (AZ Ah)) ?_
 refine ac ?_
 refine ag ?_ ?_<;>intro h2 q2
 refine ac ?_
 refine wk [33,9,8,7,1,0] rfl ?_
 refine a2 ?_
 · exact kZ
 refine ag ?_ ?_<;>intro h3 q3
 refine ac ?_
 refine wk [33,9,8,7,1,0] rfl ?_
 refine a2 ?_
 · exact kZ
 refine ag ?_ ?_<;>intro h4 q4
 have hk0:0<k:=by simpa using h4
 obtain ⟨y,hy⟩:=at_ (l:=l) (k:=k-1) AA
 have Wd:=getD_at (d:=(0:Int)) hy
 · repeat' first|(refine bool_eq ?_;unfold Dc;rw [Qw (p:=setAt n l) (k:=k) AA (by unfold setAt;rw [hg,Wd];simp_all;omega)])|(exact Fin.AO (k+1) ⟨⟨Ai,EG AX (by unfold setAt;rw [hg,Wd];simp_all)⟩,by omega⟩ ⟨⟨_,rfl,AG k⟩,kz⟩)|(refine cy h4 rfl (AD rfl underlying51 Bs vq vq AA Lz) ?_)|refine ac ?_|(refine Tr.cn rfl ?_ ?_<;>intro h q)
 have MF:¬0<k:=by simpa using h4
 refine ac ?_
 refine wk [33,9,8,7,1,0] rfl ?_
 refine a2 ?_
 exact Fin.AO (k+1) ⟨⟨Ai,EG AX (by unfold setAt;rw [hg];simp_all)⟩,by omega⟩ ⟨⟨_,rfl,AG k⟩,kz⟩
 have BP:k=(l).length:=by have:=AJ h1;omega
 subst BP
 refine a3 ?_
 · refine bool_eq ?_;unfold Dc;rw [mK AX]
theorem eA {l:List Int} {v:Int}  :BF prog 92 [ints l,int v] (bool (l.any fun x=>v==x)):=by
 refine fo func92 rfl ⟨rfl,rfl⟩ fun M0 w0=>(Tr.Cl 0 rfl fun EH=> ?_)
 refine a2 ?_
 refine Tr.block (Tr.BE _ (kk [8,7,1] rfl) (fun k:Nat=>[(9,int ((k:Nat):Int))]) (fun k:Nat=>k≤(l).length∧((l.take k).any (fun x=>v==x)=false)) (fun k:Nat=>(l).length-k) 0 (⟨Nat.zero_le _,rfl⟩) kz ?_)
 rintro k ⟨BT,AX⟩
 refine ac ?_
 refine Tr.seq ?_
 refine Tr.cn rfl ?_ ?_<;>intro h1 q1
 have Ai:k<(l).length:=AH h1
 obtain ⟨x,Ah⟩:=at_ Ai
 refine ac ?_
 refine Tr.seq (Tr.block (Tr.seq (Tr.Al (co rfl (AD rfl underlying22 Bs vq vq AA (AZ Ah)) ?_))))
 · repeat' first|(refine bool_eq ?_;symm;rw [List.any_eq_true];exact ⟨_,List.mem_of_getElem? Ah,by simp_all⟩)|(exact Fin.AO (k+1) ⟨⟨Ai,cF⟩,by omega⟩ ⟨⟨_,rfl,AG k⟩,kz⟩)|refine ac ?_|(refine Tr.cn rfl ?_ ?_<;>intro h q)
 have BP:k=(l).length:=by have:=AJ h1;omega
 subst BP
 refine a3 ?_
 · exact Un
def usL:List (Int×Int):=[(2,0),(1,0),(5,2048),(16,128),(3,0),(15,168)]
def eB (v:Int):Int×Int:=usL[v.toNat]?.getD (2,0)
theorem ADQ {v:Int} (h:0≤v∧v<6):(usL.map fun u=>[int u.1,int u.2])[v.toNat]? =some [int (eB v).1,int (eB v).2]:=by
 have hl:v.toNat<usL.length:=by show v.toNat<6;omega
 unfold eB;rw [List.getElem?_map,List.getElem?_eq_getElem hl];rfl
theorem yq:∀u∈usL,Du u.1 u.2>0:=by decide+kernel
theorem wv (v:Int):Du (eB v).1 (eB v).2>0:=by
 unfold eB
 cases h:usL[v.toNat]? with
 |none=>decide+kernel
 |some u=>exact yq u (List.mem_of_getElem? h)
def MK:Nat→DS→Int→List Xe→List Xe×Int×DS
 |0,s,day,l=>(l,day,s)
 |k+1,s,day,l=>MK k s.Cj.Cj (day+1+s.Cj.of [5,30,0,100]) (l++[⟨(eB (s.val 6)).1,(eB (s.val 6)).2,day⟩])
abbrev Ef (s:DS):List Xe×Int×DS:=MK (1+s.Cj.Cj.Cj.val 3).toNat s.Cj.Cj.Cj.Cj (s.Cj.Cj.val 20) []
def T6 (s:DS) (name:List UInt8):Vu:=⟨name,1+s.val 2,1+s.Cj.val 4,(Ef s).1,((Ef s).1[0]?.getD FX).day+(Ef s).2.2.of [50,300,0,3000]⟩
def ADR (s:DS):DS:=(Ef s).2.2.Cj
structure iD (l:List Xe) (day:Int):Prop where
 lo:0≤day
 hi:day≤20+101*(l.length:Nat)
 at_:∀j,j<l.length→HD l j=true
 lt:∀x∈l,x.day<day
theorem Xj {l:List Xe} {day d:Int} {u:Int×Int} (h:iD l day) (h3:l.length≤3) (hu:Du u.1 u.2>0) (hd:0≤d∧d≤100):iD (l++[⟨u.1,u.2,day⟩]) (day+1+d):=by
 have h0:=h.lo;have h1:=h.hi
 refine ⟨by omega,by rw [List.length_append];simp;omega,fun j hj=> ?_,fun x hx=> ?_⟩
 ·
  rw [List.length_append] at hj;simp at hj
  rcases Nat.lt_or_ge j l.length with hl|hl
  ·
   have:=h.at_ j hl
   unfold HD at this ⊢
   rw [List.getElem?_append_left hl,List.getElem?_append_left (show j-1<l.length by omega)];exact this
  ·
   have:j=l.length:=by omega
   subst this
   unfold HD
   rw [List.getElem?_append_right (Nat.le_refl _),Nat.sub_self]
   rcases Nat.eq_zero_or_pos l.length with hz|hz
   ·
    obtain rfl:=List.eq_nil_of_length_eq_zero hz
    simp [hu];simp at h1;omega
   ·
    obtain ⟨y,hy⟩:=at_ (l:=l) (k:=l.length-1) AA
    rw [List.getElem?_append_left (show l.length-1<l.length by omega),hy]
    have:=h.lt y (List.mem_of_getElem? hy)
    simp [hu];omega
 ·
  rcases List.mem_append.1 hx with hx|hx
  · have:=h.lt x hx;omega
  · simp at hx;subst hx;show day<_;omega
theorem Zu (s:DS):0≤s.of [5,30,0,100]∧s.of [5,30,0,100]≤100:=by have:=s.RD (l:=[5,30,0,100]) AU;simp at this;omega
theorem nU (s:DS):0≤s.of [50,300,0,3000]∧s.of [50,300,0,3000]≤3000:=by have:=s.RD (l:=[50,300,0,3000]) AU;simp at this;omega
theorem T7:∀(k:Nat) (s:DS) (day:Int) (l:List Xe),iD l day→l.length+k≤3→iD (MK k s day l).1 (MK k s day l).2.1∧(MK k s day l).1.length=l.length+k
 |0,s,day,l,h,_=>⟨h,rfl⟩
 |k+1,s,day,l,h,hk=>by
  have:=T7 k s.Cj.Cj (day+1+s.Cj.of [5,30,0,100]) (l++[⟨(eB (s.val 6)).1,(eB (s.val 6)).2,day⟩]) (Xj h AA (wv _) (Zu _)) CF
  refine ⟨this.1,?_⟩
  show (MK k _ _ _).1.length=_
  rw [this.2];simp;omega
structure Zv (x:Vu):Prop where
 ok:O3 x=true
 name:x.name.length≤32
 links:x.links.length≤3
theorem eC {s:DS} {name:List UInt8} (hn:named name=true):Zv (T6 s name):=by
 have h2:=s.DM (n:=2) AA
 have h4:=s.Cj.DM (n:=4) AA
 have NQ:=s.Cj.Cj.DM (n:=20) AA
 have h3:=s.Cj.Cj.Cj.DM (n:=3) AA
 have hI:iD [] (s.Cj.Cj.val 20):=⟨by omega,by simp;omega,fun j hj=>by simp at hj,fun x hx=>by simp at hx⟩
 obtain ⟨hL,hl⟩:=T7 (1+s.Cj.Cj.Cj.val 3).toNat s.Cj.Cj.Cj.Cj (s.Cj.Cj.val 20) [] hI CF
 simp only [List.length_nil,Nat.zero_add] at hl
 have hlen:(Ef s).1.length=(1+s.Cj.Cj.Cj.val 3).toNat:=hl
 have hu:=nU (Ef s).2.2
 obtain ⟨c,hc⟩:=at_ (l:=(Ef s).1) (k:=0) AA
 have hg:=getD_at (d:=FX) hc
 have hc1:=hL.lt c (List.mem_of_getElem? hc)
 have hc2:=hL.hi
 refine ⟨HC.2 ⟨hn,?_,?_,?_,?_,?_,hL.at_,?_,?_⟩,LC hn,?_⟩
 · show 1+s.val 2=1∨1+s.val 2=2;omega
 · show 1≤1+s.Cj.val 4;omega
 · show 1+s.Cj.val 4≤4;omega
 · show 1≤(Ef s).1.length;omega
 · show (Ef s).1.length≤8;omega
 · show ((Ef s).1[0]?.getD FX).day≤((Ef s).1[0]?.getD FX).day+_;omega
 · show ((Ef s).1[0]?.getD FX).day+_≤40000;rw [hg];omega
 · show (Ef s).1.length≤3;omega
theorem eD {b:Nat} {s:DS} {name:List UInt8}  :BS prog 90 [ptr b 0,str name] (agg (dw (T6 s name))) (Dh b s) (fun _=>Dh b (ADR s)):=by
 refine BS.of func90 rfl rfl Az fun M0 w0 S rs M1 w1=> ?_
 have Ww:=s.DM (n:=2) AA
 have hv4:=s.Cj.DM (n:=4) AA
 have AIH:=s.Cj.Cj.DM (n:=20) AA
 have hv3:=s.Cj.Cj.Cj.DM (n:=3) AA
 refine Tr.seq (Tr.Ap ?_)
 refine Tl rfl rfl rfl rfl VQ XF (fun b1=> ?_)
 refine ao ?_
 refine ao ?_
 refine TO.GK 1 rfl rfl AB (Aj rfl rfl AB rfl (Cf AA AA) ⟨ke rfl,ke rfl,trivial⟩) ?_
 refine ao ?_
 refine TO.GK 1 rfl rfl AB (Aj rfl rfl AB rfl (Cf AA AA) ⟨ke rfl,ke rfl,trivial⟩) ?_
 refine ao ?_
 refine Tl rfl rfl rfl rfl VQ XF (fun b2=> ?_)
 refine TO.AK 0 rfl rfl rfl (vl rfl) (Va rfl) rfl Hx rfl rfl ?_
 refine ao ?_
 refine ao ?_
 refine TO.GK 2 rfl rfl AB (Aj rfl rfl AB rfl (Cf AA AA) ⟨ke rfl,ke rfl,trivial⟩) ?_
 refine ao ?_
 refine Tj 0 4 5 6 rfl ?_
 refine ao ?_
 refine TO.GK 2 rfl rfl AB (Aj rfl rfl AB rfl (Cf AA AA) ⟨ke rfl,ke rfl,trivial⟩) ?_
 refine ao ?_
 refine Tr.block (Tr.HZ 0 [str name,int (1+s.val 2),int (1+s.Cj.val 4),Aa (.slice none 0 0) (nK []),is (.int .i64 0)] rfl ⟨Lr,Lr,Lr,Bp rfl,Lr,trivial⟩ (Tr.CC 198 3 ?_))
 refine Tr.lM [(0,_),(4,_),(5,_)] ⟨ke rfl,ke rfl,ke rfl,trivial⟩ (fun (k:Int) (day:Int) (l:List Xe) (s2:DS) v=>[(7,int k),(6,int day)]) (fun (k:Int) (day:Int) (l:List Xe) (s2:DS) v=>Hp M0 w0 S (Au 198 3 v::AF true b2 135 [str name,int (1+s.val 2),int (1+s.Cj.val 4),Aa v (nK l),is (.int .i64 0)]::AF true b1 135 (([.string (ByteArray.mk #[]),.int .i64 0,.int .i64 0,.slice none 0 0,.int .i64 0]:List Value).map is)::Dh b s2::Ak M1 w1::rs)) (fun (k:Int) (day:Int) (l:List Xe) (s2:DS)=>(0≤k∧k+l.length≤3∧1≤k+l.length∧iD l day)∧MK k.toNat s2 day l=Ef s) (fun (k:Int) (day:Int) (l:List Xe) (s2:DS)=>k.toNat) (_) (_) ([]) (_) (.slice none 0 0) (⟨⟨by omega,by simp;omega,by simp;omega,⟨by omega,by simp;omega,fun j hj=>by simp at hj,fun x hx=>by simp at hx⟩⟩,rfl⟩) ⟨ke rfl,ke rfl,trivial⟩ (fun _ _ h=>h) ?_
 rintro k day l s2 v ⟨⟨hk0,hk1,hk2,hL⟩,hR⟩
 have hL0:=hL.lo
 have hL1:=hL.hi
 have hof:=Zu s2.Cj
 refine an ?_ ?_<;>intro h1 q1
 have hk3:0<k:=of_decide_eq_true h1
 have hv6:=s2.DM (n:=6) AA
 refine ac ?_
 refine ao ?_
 refine TO.GK 3 rfl rfl AB (Aj rfl rfl AB rfl (Cf AA AA) ⟨ke rfl,ke rfl,trivial⟩) ?_
 refine tp rfl (AD rfl underlying143 LS (Kf rfl) (vl rfl) AA (show (usL.map fun u=>[int u.1,int u.2])[_]? =_ from ADQ hv6)) ?_
 refine tp rfl (AM rfl Jh LS (vl rfl) rfl rfl) ?_
 refine Tl rfl rfl rfl rfl K9 Eb (fun b3=> ?_)
 refine sf 0 8 ⟨rfl,rfl,rfl⟩ rfl rfl rfl rfl ?_
 refine ao ?_
 refine wk6 0 4 5 6 7 8 rfl ?_
 refine ao ?_
 refine TO.Dl 0 rfl rfl AB (CB rfl rfl rfl rfl underlying133 KG wS z198 (Kb rfl) (Kf rfl) (BC BR (Ka rfl))) (fun v1=> ?_)
 refine tp rfl (AW rfl VR (vl rfl)) (TO.DG 1 rfl rfl (Aw rfl rfl (vl rfl) (Vo rfl) wN rfl Az rfl) ?_)
 refine ao ?_
 refine wk5 0 4 5 6 7 rfl ?_
 refine ao ?_
 refine TO.GK 3 rfl rfl AB (Aj rfl rfl AB rfl (XV (l:=[5,30,0,100]) AU AU) ⟨ke rfl,(Kf rfl),trivial⟩) ?_
 refine ao ?_
 refine ac ?_
 refine Fin.HZ 1 [str name,int (1+s.val 2),int (1+s.Cj.val 4),Aa v1 (nK (l++[(⟨(eB (s2.val 6)).1,(eB (s2.val 6)).2,day⟩:Xe)])),is (.int .i64 0)] rfl ⟨Lr,Lr,Lr,BJ DQ,Lr,trivial⟩ ?_
 exact Fin.r_ (k-1) (_) (l++[(⟨(eB (s2.val 6)).1,(eB (s2.val 6)).2,day⟩:Xe)]) (_) v1 (⟨⟨⟨by omega,by simp;omega,by simp;omega,Xj hL AA (wv _) (Zu _)⟩,by rw [←hR,show k.toNat=(k-1).toNat+1 by omega];rfl⟩,by omega⟩) ⟨⟨_,rfl,int_eq AA⟩,⟨_,rfl,int_eq AA⟩,ke rfl,ke rfl,ke rfl,trivial⟩ (fun _ _ h=>h)
 have hk3:¬0<k:=of_decide_eq_false h1
 obtain rfl:k=0:=by omega
 obtain ⟨c0,hc0⟩:=at_ (l:=l) (k:=0) AA
 have hg0:=getD_at (d:=FX) hc0
 have AII:=hL.lt c0 (List.mem_of_getElem? hc0)
 have AIJ:0≤c0.day:=by have h_:=hL.at_ 0 (BM hc0);unfold HD at h_;rw [hg0] at h_;simp at h_;omega
 have AIK:=nU s2
 have hR1:(Ef s).1=l:=by rw [←hR];rfl
 obtain rfl:s2=(Ef s).2.2:=by rw [←hR];rfl
 refine ac ?_
 refine Tr.seq (Tr.rx ?_)
 refine ay ?_
 refine xo rfl (fun _=>AD rfl underlying133 KG (Kb rfl) (vl rfl) AA (AZ (k:=0) hc0)) ?_
 refine ay ?_
 refine xo rfl (fun _=>oI) ?_
 refine Cx.ef 3 rfl rfl AB (Aj rfl rfl AB rfl (XV (l:=[50,300,0,3000]) AU AU) ⟨ke rfl,(Kf rfl),trivial⟩) ?_
 refine ay ?_
 refine Cx.nil ⟨by kernel_rfl,?_⟩
 refine BI.done al5 (Fin.go (Ti 4 5 rfl ?_))
 refine ao ?_
 refine TO.AK 2 rfl rfl rfl (vl rfl) (Va rfl) rfl Hx rfl rfl ?_
 refine ao ?_
 refine Tr.ret (Fin.Gl [_,_,_] rfl (AL.cell 2 rfl rfl VP Hx rfl (Lr)) ?_ (fun _ _ _ _=>rfl))
 · exact BU ⟨Lr,Lr,Lr,Pr.le_trans (As _ _) (Pr.le_of_eq (by show _=nK (Ef s).1;rw [hR1])),int_eq (by show _=((Ef s).1[0]?.getD FX).day+_;rw [hR1,hg0]),trivial⟩
structure Zw (n:Nat) (i j:Int) (l:List Iz):Prop where
 at_:∀k,k<l.length→Eo n l k=true
 lt:∀g∈l,g.client<i∨(g.client=i∧g.server<j)
theorem Zw.nil (n:Nat) (i j:Int):Zw n i j []:=⟨fun k hk=>by simp at hk,fun g hg=>by simp at hg⟩
theorem Zw.step {n:Nat} {i j:Int} {l:List Iz} (h:Zw n i j l):Zw n i (j+1) l:=⟨h.at_,fun g hg=>by have:=h.lt g hg;omega⟩
theorem Zw.row {n:Nat} {i j:Int} {l:List Iz} (h:Zw n i j l):Zw n (i+1) 0 l:=⟨h.at_,fun g hg=>by have:=h.lt g hg;omega⟩
theorem Zw.snoc {n:Nat} {i j:Int} {l:List Iz} (h:Zw n i j l) (hi:0≤i∧i<n) (hj:0≤j∧j<n) (hn:i≠j):Zw n i (j+1) (l++[⟨i,j⟩]):=by
 refine ⟨fun k hk=> ?_,fun g hg=> ?_⟩
 ·
  rw [List.length_append] at hk;simp at hk
  rcases Nat.lt_or_ge k l.length with hl|hl
  ·
   have:=h.at_ k hl
   unfold Eo at this ⊢
   rw [List.getElem?_append_left hl,List.getElem?_append_left (show k-1<l.length by omega)];exact this
  ·
   have:k=l.length:=by omega
   subst this
   unfold Eo
   rw [List.getElem?_append_right (Nat.le_refl _),Nat.sub_self]
   rcases Nat.eq_zero_or_pos l.length with hz|hz
   ·
    obtain rfl:=List.eq_nil_of_length_eq_zero hz
    simp;omega
   ·
    obtain ⟨y,hy⟩:=Cp.at_ (l:=l) (k:=l.length-1) AA
    rw [List.getElem?_append_left (show l.length-1<l.length by omega),hy]
    have:=h.lt y (List.mem_of_getElem? hy)
    simp;omega
 ·
  rcases List.mem_append.1 hg with hg|hg
  · have:=h.lt g hg;omega
  · simp at hg;subst hg;right;exact ⟨rfl,by show j<j+1;omega⟩
theorem nV:∀i,i<2→Lib.compareBytes (F1[i]?.getD []) (F1[i+1]?.getD [])= -1:=by decide+kernel
structure O4 (e:Dn):Prop where
 n2:2≤e.Bu.length
 n3:e.Bu.length≤3
 snd:nF e.Bu
 ed:∀k,k<e.BX.length→Eo e.Bu.length e.BX k=true
 g1:1≤e.BX.length
 g3:e.BX.length≤3
 it:∀x∈e.items,Zv x
 i2:e.items.length≤2
theorem O4.ok {e:Dn} (h:O4 e):Fc e=true:=by
 have h3:=h.n3;have g3:=h.g3;have i2:=h.i2
 refine Fe.2 ⟨fun j hj=> ?_,by omega,h.ed,by omega,List.all_eq_true.2 fun x hx=>(h.it x hx).ok,by omega⟩
 obtain ⟨x,hx⟩:=at_ hj
 have hs:=h.snd j x hx
 unfold Xi
 rw [hx,Option.getD_some,DP.2 (uL hs),Bool.true_and,Bool.or_eq_true,decide_eq_true_eq,decide_eq_true_eq]
 rcases Nat.eq_zero_or_pos j with hz|hz
 · exact .inl hz
 ·
  right
  obtain ⟨y,hy⟩:=at_ (l:=e.Bu) (k:=j-1) AA
  have S8:=h.snd _ y hy
  rw [hy,Option.getD_some]
  have:=nV (j-1) AA
  rw [S8.name,show j-1+1=j by omega,hs.name] at this
  exact this
theorem O4.fits {e:Dn} (h:O4 e):e.fits:=by
 have h3:=h.n3;have g3:=h.g3;have i2:=h.i2
 refine ⟨fun x hx=> ?_,fun x hx=>by have:=(h.it x hx).name;unfold maxLen;omega,by omega,by omega,by omega⟩
 obtain ⟨i,hi⟩:=List.getElem?_of_mem hx
 exact ⟨T4 (h.snd i x hi),Ri (h.snd i x hi)⟩
abbrev ML:List UInt8:=[98,97,99,107,117,112]
abbrev Zx:List UInt8:=[100,101,101,100]
theorem eE (s:DS):named (KS s [ML,Zx])=true:=by
 have h:=s.DM (n:=2) AA
 unfold KS
 have:s.val (([ML,Zx]:List (List UInt8)).length:Nat)=0∨s.val (([ML,Zx]:List (List UInt8)).length:Nat)=1:=by show s.val 2=0∨s.val 2=1;omega
 rcases this with h|h<;>rw [h]<;>decide
theorem Xk {l:List Vu} {y:Vu} (h:∀x∈l,Zv x) (hy:Zv y):∀x∈l++[y],Zv x:=by
 intro x hx
 rcases List.mem_append.1 hx with hx|hx
 · exact h x hx
 · simp at hx;subst hx;exact hy
theorem nW {b:Nat} {s:DS}  :BS prog 46 [ptr b 0] (Cp.ex fun e:Dn=>fact (O4 e) (agg (CM e))) (Dh b s) (fun _=>JE 104 b):=by
 refine BS.of func46 rfl rfl Az fun M0 w0 S rs M1 w1=> ?_
 have Ww:=s.DM (n:=2) AA
 have ZX:(F1.take (2+s.val 2).toNat).length=(2+s.val 2).toNat:=by rw [List.length_take];show min _ 3=_;omega
 refine Tr.seq (Tr.Ap ?_)
 refine Tl rfl rfl rfl rfl z31 Ia (fun b1=> ?_)
 refine TO.nil (Fin.go (Tr.seq (Tr.Ap ?_)))
 refine Tl rfl rfl rfl rfl z31 Ia (fun b2=> ?_)
 refine TO.nil (Fin.go (Tr.seq (Tr.Ap (tp rfl (AP (xs:=[.const (.string ⟨[97,112,112].toArray⟩),.const (.string ⟨[100,98].toArray⟩),.const (.string ⟨[119,101,98].toArray⟩)]) (rows:=[[_],[_],[_]]) rfl rfl underlying127 NC z9 rfl AB ⟨⟨Ao,(Vo rfl)⟩,⟨⟨Ao,(Vo rfl)⟩,⟨⟨Ao,(Vo rfl)⟩,trivial⟩⟩⟩ AB) ?_))))
 refine tm rfl (TO.GK 2 rfl rfl AB (Aj rfl rfl AB rfl (Cf AA AA) ⟨ke rfl,ke rfl,trivial⟩) ?_)
 refine tp rfl (EO rfl (vl rfl) (vl rfl) ?hin) ?_;case hin=>unfold Mn;omega
 refine tp rfl (D6 rfl underlying127 NC (Kf rfl) (vl rfl) AA CF) ?_
 refine tm rfl (TO.nil (Fin.go (Tr.seq (Tr.seq (Tr.Al (cm rfl (co rfl (Ci rfl underlying127 (vl rfl)) (cm rfl (Ch.nil (Fin.go (Tr.block ?_)))))))))))
 refine Tr.re 16 rfl (Pr.le_of_eq (by show slice 1 (List.take _ (F1.map fun t=>[str t]))=_;rw [←List.map_take]):Pr.le _ (gU (F1.take (2+s.val 2).toNat))) ?_
 refine Tr.re 17 rfl (int_eq (by simp;rfl):Pr.le _ (int (((F1.take (2+s.val 2).toNat).length:Nat):Int))) ?_
 refine Tr.HZ 0 [Aa (.slice none 0 0) (slice 9 (([]:List B7).map Be)),is (.slice none 0 0),is (.slice none 0 0)] rfl ⟨Bp rfl,Lr,Lr,trivial⟩ (Tr.CC 40 9 (Tr.Fw [(0,_),(2,_),(3,_),(4,_),(16,_),(17,_)] ⟨ke rfl,ke rfl,ke rfl,ke rfl,ke rfl,ke rfl,trivial⟩ (fun (k:Nat) (es:List B7) (s2:DS) v=>[(18,int ((k:Nat):Int))]) (fun (k:Nat) (es:List B7) (s2:DS) v=>Hp M0 w0 S (Au 40 9 v::AF true b2 31 [Aa v (slice 9 (es.map Be)),is (.slice none 0 0),is (.slice none 0 0)]::AF true b1 31 (([.slice none 0 0,.slice none 0 0,.slice none 0 0]:List Value).map is)::Dh b s2::Ak M1 w1::rs)) (fun (k:Nat) (es:List B7) (s2:DS)=>k≤(2+s.val 2).toNat∧es.length=k∧nF es) (fun (k:Nat) (es:List B7) (s2:DS)=>(2+s.val 2).toNat-k) (0) ([]) (_) (.slice none 0 0) (⟨by omega,rfl,fun i e h=>by simp at h⟩) ⟨ke rfl,trivial⟩ (fun _ _ h=>h) ?_))
 rintro k es s2 v ⟨hk1,hk2,hk3⟩
 refine Tr.seq (Tr.Al (co rfl (ki rfl rfl rfl rfl) (Ch.nil (Fin.go (Tr.seq ?_)))))
 refine Tr.cn rfl ?_ ?_<;>intro h1 q1
 have hkn:k<(2+s.val 2).toNat:=by have:=DH.Dp h1;rw [ZX] at this;omega
 obtain ⟨nm,hnm⟩:=at_ (l:=F1.take (2+s.val 2).toNat) (k:=k) AA
 have OO:F1[k]? =some nm:=nG hnm
 have hso:=nH (s2.Cj.val 3)
 have AIL:k<3:=BM OO
 have hvs:=s2.Cj.DM (n:=3) AA
 have hof:=ya s2
 refine Tr.skip (Fin.go (Tr.seq (Tr.block (Tr.seq (Tr.Al (cm rfl (co rfl (AD rfl underlying127 NC (vl rfl) (vl rfl) AA (AZ hnm)) (co rfl (F5 rfl PM rfl) (cm rfl (cm rfl (Ch.nil (Fin.go (Tr.seq (Tr.pad ?_))))))))))))))
 refine Tr.GI mixed [none,none,none,some (0,4,true,0),none,none,none,none,none,some (0,4,true,0),none,none,none,some (0,4,true,0),none,none,none,some (0,4,true,0),none,some (0,0,true,7),some (7,0,true,7)] BV (xm rfl (xm rfl (xo rfl (fun _=>AP (xs:=[.const (.int .i64 (3)),.const (.int .i64 (3)),.const (.int .i64 (4))]) (rows:=[[_],[_],[_]]) rfl rfl underlying22 Bs z3 rfl AB ⟨⟨Ao,(Vo rfl)⟩,⟨⟨Ao,(Vo rfl)⟩,⟨⟨Ao,(Vo rfl)⟩,trivial⟩⟩⟩ AB) ?_)))
 refine Cx.ef 4 rfl rfl AB (Aj rfl rfl AB rfl (XV (l:=[3,3,4]) AU AU) ⟨ke rfl,(Kf rfl),trivial⟩) ?_
 refine xo rfl (fun _=>AP (xs:=[.const (.int .i64 (10)),.const (.int .i64 (8)),.const (.int .i64 (2))]) (rows:=[[_],[_],[_]]) rfl rfl underlying22 Bs z3 rfl AB ⟨⟨Ao,(Vo rfl)⟩,⟨⟨Ao,(Vo rfl)⟩,⟨⟨Ao,(Vo rfl)⟩,trivial⟩⟩⟩ AB) ?_
 refine xo rfl (fun _=>AP (xs:=[.const (.int .i64 (8)),.const (.int .i64 (2))]) (rows:=[[_],[_]]) rfl rfl underlying22 Bs z3 rfl AB ⟨⟨Ao,(Vo rfl)⟩,⟨⟨Ao,(Vo rfl)⟩,trivial⟩⟩ AB) ?_
 refine xo rfl (fun _=>AP (xs:=[.const (.int .i64 (2)),.const (.int .i64 (10)),.const (.int .i64 (8)),.const (.int .i64 (3))]) (rows:=[[_],[_],[_],[_]]) rfl rfl underlying22 Bs z3 rfl AB ⟨⟨Ao,(Vo rfl)⟩,⟨⟨Ao,(Vo rfl)⟩,⟨⟨Ao,(Vo rfl)⟩,⟨⟨Ao,(Vo rfl)⟩,trivial⟩⟩⟩⟩ AB) ?_
 refine xo rfl (fun _=>AP (xs:=[.tmp 27,.tmp 28,.tmp 29]) (rows:=[[_],[_],[_]]) rfl rfl underlying128 L7 z22 rfl AB ⟨⟨Ao,⟨_,rfl,Pr.le_trans (B8 _ _) (Ad _)⟩⟩,⟨⟨Ao,⟨_,rfl,Pr.le_trans (B8 _ _) (Ad _)⟩⟩,⟨⟨Ao,⟨_,rfl,Pr.le_trans (B8 _ _) (Ad _)⟩⟩,trivial⟩⟩⟩ AB) ?_
 refine xm rfl (Cx.ef 4 rfl rfl AB (Aj rfl rfl AB rfl (Cf AA AA) ⟨ke rfl,ke rfl,trivial⟩) ?_)
 refine xo rfl (fun _=>AD rfl underlying128 L7 (Kf rfl) (vl rfl) AA (show (PU.map fun l=>[ints l])[_]? =_ from uI hvs)) ?_
 refine xo rfl (fun _=>F5 rfl KF rfl) (xm rfl (Cx.ef 4 rfl rfl AB (Aj rfl rfl AB rfl (mh AA AA) ⟨ke rfl,ke rfl,trivial⟩) (xo rfl (fun _=>AP (xs:=[.const (.int .i64 (1))]) (rows:=[[_]]) rfl rfl underlying22 Bs z3 rfl AB ⟨⟨Ao,(Vo rfl)⟩,trivial⟩ AB) ?_)))
 refine xo rfl (fun _=>AP (xs:=[.const (.int .i64 (2)),.const (.int .i64 (3))]) (rows:=[[_],[_]]) rfl rfl underlying22 Bs z3 rfl AB ⟨⟨Ao,(Vo rfl)⟩,⟨⟨Ao,(Vo rfl)⟩,trivial⟩⟩ AB) ?_
 refine xm rfl (Cx.ef 4 rfl rfl AB (Aj rfl rfl AB rfl (mh AA AA) ⟨ke rfl,ke rfl,trivial⟩) (xo rfl (fun _=>An (rows:=[(0,[_]),(1,[_]),(2,[_]),(3,[_]),(4,[_]),(6,[_]),(7,[_]),(8,[_])]) rfl sD Hh ⟨⟨rfl,(Vo rfl)⟩,⟨⟨rfl,(Vo rfl)⟩,⟨⟨rfl,(Vo rfl)⟩,⟨⟨rfl,(Vo rfl)⟩,⟨⟨rfl,(Vo rfl)⟩,⟨⟨rfl,⟨_,rfl,Pr.le_trans (B8 _ _) (Ad _)⟩⟩,⟨⟨rfl,⟨_,rfl,Pr.le_trans (B8 _ _) (Ad _)⟩⟩,⟨⟨rfl,(Vo rfl)⟩,trivial⟩⟩⟩⟩⟩⟩⟩⟩ rfl) (Cx.ef 0 rfl rfl AB (CA rfl rfl AB rfl z40 Hh) (Cx.DG 0 rfl rfl (Cc rfl rfl rfl rfl (Va rfl) Bw rfl rfl) ?_))))
 refine Cx.nil ⟨rfl,?_⟩
 refine BI.open_ 0 7 rfl rfl (fun v1=> ?_)
 refine BI.done (At.cons (At.cons (At.cons (At.cons (At.cons (At.cons (At.map _))))))) (Fin.Le 7 0 _ rfl rfl (fun _=>rfl) (fun b3=> ?_))
 refine Fin.go (VH 0 2 3 4 5 6 7 16 17 18 rfl (Tr.seq (Tr.seq (Tr.HZ 0 [str nm,int 1,int (s2.of [3,3,4]),ints (MG (s2.Cj.val 3)),bool (s2.Cj.Cj.val 2==2-1),is (.slice none 0 0),ints [1],ints [2,3],bool (s2.Cj.Cj.Cj.val 3==3-1)] rfl ⟨Lr,Lr,Lr,Lr,Lr,Lr,Lr,Lr,Lr,trivial⟩ (Tr.Al (co rfl (AW rfl ZN (vl rfl)) (co rfl (CN 0 rfl (A_ rfl Cs (vl rfl) rfl)) (co rfl (ki rfl rfl rfl rfl) (Ch.nil (Fin.go ?_))))))))))
 refine Tr.cn rfl ?_ ?_<;>intro h2 q2
 refine Tr.Ap (tp rfl (AP (xs:=[.const (.int .i64 (14))]) (rows:=[[_]]) rfl rfl underlying22 Bs z3 rfl AB ⟨⟨Ao,(Vo rfl)⟩,trivial⟩ AB) ?_)
 refine tp rfl (AW rfl OG (vl rfl)) (TO.rd 0 rfl rfl rfl AB (A_ rfl KF (vl rfl) rfl) (TO.pad ?_))
 refine TO.Dl 0 rfl rfl AB (CB rfl rfl rfl rfl underlying22 Bs Iw z3 (Kf rfl) (vl rfl) (Bv BR (vl rfl))) (fun v2=> ?_)
 refine tp rfl (AW rfl OG (vl rfl)) (TO.DG 1 rfl rfl (Aw rfl rfl (vl rfl) (Vo rfl) L7 rfl Az rfl) (TO.nil (Fin.go (VH 0 2 3 4 5 6 7 16 17 18 rfl (Tr.seq (Tr.Ap (tm rfl (tp rfl (AV rfl (wq) trivial) (tm rfl ?_)))))))))
 refine tp rfl (EO rfl (vl rfl) (vl rfl) ?hin) ?_;case hin=>unfold Mn;omega
 refine tp rfl (AV rfl (Zl (name:=nm) (a:=5) (b:=2048) (id:=100+(k:Nat)) (to:=901) (key:=1) (Vr OO AA AA) (T3 AA) AA) ⟨ke rfl,ke rfl,ke rfl,ke rfl,ke rfl,trivial⟩) ?_
 refine TO.ex 54 rfl (fun jt=>TO.fact 54 rfl fun yt=> ?_)
 refine tp rfl (AP (xs:=[.tmp 54]) (rows:=[_]) rfl rfl underlying38 E8 Wf rfl AB ⟨⟨Ao,(Va rfl)⟩,trivial⟩ AB) ?_
 refine tp rfl (AW rfl RF (vl rfl)) (TO.DG 1 rfl rfl (Aw rfl rfl (vl rfl) (Vo rfl) lU rfl Az rfl) (TO.nil (Fin.go (wk8 0 2 3 4 7 16 17 18 rfl (Tr.Ap (tp rfl (AW rfl Gv (vl rfl)) (TO.rd 3 rfl rfl rfl AB (A_ rfl ND (vl rfl) rfl) (TO.rd 1 rfl rfl rfl AB (B4 rfl CD Bw (vl rfl) rfl rfl) (tp rfl (AP (xs:=[.tmp 59]) (rows:=[Be (⟨nm,1,s2.of [3,3,4],14::MG (s2.Cj.val 3),(s2.Cj.Cj.val 2==2-1),[H8 nm 5 2048 (100+(k:Nat)) 901 1 jt],[1],[2,3],(s2.Cj.Cj.Cj.val 3==3-1)⟩:B7)]) rfl rfl underlying27 Bw z40 rfl AB ⟨⟨Ao,VL.le (vl rfl) (Pr.le_trans (BU (qs:=Be (⟨nm,1,s2.of [3,3,4],14::MG (s2.Cj.val 3),(s2.Cj.Cj.val 2==2-1),[H8 nm 5 2048 (100+(k:Nat)) 901 1 jt],[1],[2,3],(s2.Cj.Cj.Cj.val 3==3-1)⟩:B7)) ⟨Lr,Lr,Lr,Pr.le_trans (As _ _) (Pr.le_of_eq rfl),Lr,B8 _ _,Lr,Lr,Lr,trivial⟩) (Af _))⟩,trivial⟩ AB) ?_)))))))))
 refine TO.Dl 2 rfl rfl AB (CB rfl rfl rfl rfl underlying27 Bw xZ z40 (Kb rfl) (Kf rfl) (BC BR (Ka rfl))) (fun v3=> ?_)
 refine tp rfl (AW rfl Gv (vl rfl)) (TO.DG 3 rfl rfl (Aw rfl rfl (vl rfl) (Vo rfl) xW rfl Az rfl) (TO.nil (Fin.block (Fin.go (Tr.drop 1 (jr 0 2 3 4 16 17 18 rfl (Tr.Al (Mz rfl rfl rfl rfl AA (cm rfl (Ch.nil ?_))))))))))
 refine Fin.HZ 2 [Aa v3 (slice 9 ((es++[(⟨nm,1,s2.of [3,3,4],14::MG (s2.Cj.val 3),(s2.Cj.Cj.val 2==2-1),[H8 nm 5 2048 (100+(k:Nat)) 901 1 jt],[1],[2,3],(s2.Cj.Cj.Cj.val 3==3-1)⟩:B7)]).map Be)),is (.slice none 0 0),is (.slice none 0 0)] rfl ⟨BJ DQ,Lr,Lr,trivial⟩ ?_
 refine Fin.drop 0 ?_
 exact Fin.ER (k+1) (es++[(⟨nm,1,s2.of [3,3,4],14::MG (s2.Cj.val 3),(s2.Cj.Cj.val 2==2-1),[H8 nm 5 2048 (100+(k:Nat)) 901 1 jt],[1],[2,3],(s2.Cj.Cj.Cj.val 3==3-1)⟩:B7)]) (_) v3 (⟨⟨by omega,by rw [List.length_append,hk2];rfl,Xd hk3 ⟨by rw [hk2];exact OO,rfl,hof,.inr ⟨_,Xc hvs,rfl⟩,⟨jt,yt,by rw [hk2]⟩,rfl,rfl⟩⟩,by omega⟩) ⟨⟨_,rfl,AG k⟩,ke rfl,ke rfl,ke rfl,ke rfl,ke rfl,ke rfl,trivial⟩ (fun _ _ h=>h)
 refine Tr.skip (Fin.go (Tr.seq (Tr.Ap (tm rfl (tp rfl (AV rfl (wq) trivial) (tm rfl ?_))))))
 refine tp rfl (EO rfl (vl rfl) (vl rfl) ?hin) ?_;case hin=>unfold Mn;omega
 refine tp rfl (AV rfl (Zl (name:=nm) (a:=5) (b:=2048) (id:=100+(k:Nat)) (to:=901) (key:=1) (Vr OO AA AA) (T3 AA) AA) ⟨ke rfl,ke rfl,ke rfl,ke rfl,ke rfl,trivial⟩) ?_
 refine TO.ex 54 rfl (fun jt=>TO.fact 54 rfl fun yt=> ?_)
 refine tp rfl (AP (xs:=[.tmp 54]) (rows:=[_]) rfl rfl underlying38 E8 Wf rfl AB ⟨⟨Ao,(Va rfl)⟩,trivial⟩ AB) ?_
 refine tp rfl (AW rfl RF (vl rfl)) (TO.DG 0 rfl rfl (Aw rfl rfl (vl rfl) (Vo rfl) lU rfl Az rfl) (TO.nil (Fin.go (wk8 0 2 3 4 7 16 17 18 rfl (Tr.Ap (tp rfl (AW rfl Gv (vl rfl)) (TO.rd 2 rfl rfl rfl AB (A_ rfl ND (vl rfl) rfl) (TO.rd 0 rfl rfl rfl AB (B4 rfl CD Bw (vl rfl) rfl rfl) (tp rfl (AP (xs:=[.tmp 59]) (rows:=[Be (⟨nm,1,s2.of [3,3,4],MG (s2.Cj.val 3),(s2.Cj.Cj.val 2==2-1),[H8 nm 5 2048 (100+(k:Nat)) 901 1 jt],[1],[2,3],(s2.Cj.Cj.Cj.val 3==3-1)⟩:B7)]) rfl rfl underlying27 Bw z40 rfl AB ⟨⟨Ao,VL.le (vl rfl) (Pr.le_trans (BU (qs:=Be (⟨nm,1,s2.of [3,3,4],MG (s2.Cj.val 3),(s2.Cj.Cj.val 2==2-1),[H8 nm 5 2048 (100+(k:Nat)) 901 1 jt],[1],[2,3],(s2.Cj.Cj.Cj.val 3==3-1)⟩:B7)) ⟨Lr,Lr,Lr,Lr,Lr,B8 _ _,Lr,Lr,Lr,trivial⟩) (Af _))⟩,trivial⟩ AB) ?_)))))))))
 refine TO.Dl 1 rfl rfl AB (CB rfl rfl rfl rfl underlying27 Bw xZ z40 (Kb rfl) (Kf rfl) (BC BR (Ka rfl))) (fun v4=> ?_)
 refine tp rfl (AW rfl Gv (vl rfl)) (TO.DG 2 rfl rfl (Aw rfl rfl (vl rfl) (Vo rfl) xW rfl Az rfl) (TO.nil (Fin.block (Fin.go (Tr.drop 0 (jr 0 2 3 4 16 17 18 rfl (Tr.Al (Mz rfl rfl rfl rfl AA (cm rfl (Ch.nil ?_))))))))))
 refine Fin.HZ 1 [Aa v4 (slice 9 ((es++[(⟨nm,1,s2.of [3,3,4],MG (s2.Cj.val 3),(s2.Cj.Cj.val 2==2-1),[H8 nm 5 2048 (100+(k:Nat)) 901 1 jt],[1],[2,3],(s2.Cj.Cj.Cj.val 3==3-1)⟩:B7)]).map Be)),is (.slice none 0 0),is (.slice none 0 0)] rfl ⟨BJ DQ,Lr,Lr,trivial⟩ ?_
 exact Fin.ER (k+1) (es++[(⟨nm,1,s2.of [3,3,4],MG (s2.Cj.val 3),(s2.Cj.Cj.val 2==2-1),[H8 nm 5 2048 (100+(k:Nat)) 901 1 jt],[1],[2,3],(s2.Cj.Cj.Cj.val 3==3-1)⟩:B7)]) (_) v4 (⟨⟨by omega,by rw [List.length_append,hk2];rfl,Xd hk3 ⟨by rw [hk2];exact OO,rfl,hof,.inl (Xc hvs),⟨jt,yt,by rw [hk2]⟩,rfl,rfl⟩⟩,by omega⟩) ⟨⟨_,rfl,AG k⟩,ke rfl,ke rfl,ke rfl,ke rfl,ke rfl,ke rfl,trivial⟩ (fun _ _ h=>h)
 have fm:k=(2+s.val 2).toNat:=by have:=DH.Dp h1;rw [ZX] at this;omega
 refine Tr.exit (Fin.Ac (Fin.Ac (Fin.A0 (Fin.go (Tr.seq (Tr.seq (Tr.HZ 1 [slice 9 (es.map Be),is (.slice none 0 0),is (.slice none 0 0)] rfl ⟨As _ _,Lr,Lr,trivial⟩ (Tr.drop 0 (Tr.Al (cm rfl (co rfl (Ci rfl underlying127 (vl rfl)) (cm rfl (Ch.nil (Fin.go ?_))))))))))))))
 refine Tr.block ?_
 refine Tr.re 65 rfl (int_eq (by simp;rfl):Pr.le _ (int (((F1.take (2+s.val 2).toNat).length:Nat):Int))) ?_
 refine Tr.HZ 0 [slice 9 (es.map Be),Aa (.slice none 0 0) (Ij []),is (.slice none 0 0)] rfl ⟨Lr,Bp rfl,Lr,trivial⟩ (Tr.CC 132 2 (Tr.Fw [(0,_),(2,_),(3,_),(4,_),(65,_)] ⟨ke rfl,ke rfl,ke rfl,ke rfl,ke rfl,trivial⟩ (fun (i:Nat) (gs:List Iz) (s3:DS) w=>[(66,int ((i:Nat):Int))]) (fun (i:Nat) (gs:List Iz) (s3:DS) w=>Hp M0 w0 S (Au 132 2 w::AF true b2 31 [slice 9 (es.map Be),Aa w (Ij gs),is (.slice none 0 0)]::AF true b1 31 (([.slice none 0 0,.slice none 0 0,.slice none 0 0]:List Value).map is)::Dh b s3::Ak M1 w1::rs)) (fun (i:Nat) (gs:List Iz) (s3:DS)=>i≤(2+s.val 2).toNat∧gs.length≤3∧Zw (2+s.val 2).toNat i 0 gs) (fun (i:Nat) (gs:List Iz) (s3:DS)=>(2+s.val 2).toNat-i) (0) ([]) (_) (.slice none 0 0) (⟨by omega,by simp,Zw.nil _ _ _⟩) ⟨ke rfl,trivial⟩ (fun _ _ h=>h) ?_))
 rintro i gs s3 w ⟨hi1,hi2,hi3⟩
 refine Tr.seq (Tr.Al (co rfl (ki rfl rfl rfl rfl) (Ch.nil (Fin.go (Tr.seq ?_)))))
 refine Tr.cn rfl ?_ ?_<;>intro h3 q3
 have hin:i<(2+s.val 2).toNat:=by have:=DH.Dp h3;rw [ZX] at this;omega
 refine Tr.skip (Fin.go (Tr.seq (Tr.block (Tr.seq (Tr.Al (cm rfl (cm rfl (Ch.nil (Fin.go (Tr.seq (Tr.Al (cm rfl (co rfl (Ci rfl underlying127 (vl rfl)) ?_)))))))))))))
 refine cm rfl (Ch.nil (Fin.go (Tr.block ?_)))
 refine Tr.re 70 rfl (int_eq (by simp;rfl):Pr.le _ (int (((F1.take (2+s.val 2).toNat).length:Nat):Int))) ?_
 refine Tr.Fw [(0,_),(2,_),(3,_),(4,_),(8,_),(65,_),(66,_),(70,_)] ⟨ke rfl,ke rfl,ke rfl,ke rfl,ke rfl,ke rfl,ke rfl,ke rfl,trivial⟩ (fun (j:Nat) (iE:List Iz) (s4:DS) u=>[(71,int ((j:Nat):Int))]) (fun (j:Nat) (iE:List Iz) (s4:DS) u=>Hp M0 w0 S (Au 132 2 u::AF true b2 31 [slice 9 (es.map Be),Aa u (Ij iE),is (.slice none 0 0)]::AF true b1 31 (([.slice none 0 0,.slice none 0 0,.slice none 0 0]:List Value).map is)::Dh b s4::Ak M1 w1::rs)) (fun (j:Nat) (iE:List Iz) (s4:DS)=>j≤(2+s.val 2).toNat∧iE.length≤3∧Zw (2+s.val 2).toNat i j iE) (fun (j:Nat) (iE:List Iz) (s4:DS)=>(2+s.val 2).toNat-j) (0) (gs) (_) w (⟨by omega,hi2,hi3⟩) ⟨ke rfl,trivial⟩ (fun _ _ h=>h) ?_
 rintro j iE s4 u ⟨hj1,hj2,hj3⟩
 refine Tr.seq (Tr.Al (co rfl (ki rfl rfl rfl rfl) (Ch.nil (Fin.go (Tr.seq ?_)))))
 refine Tr.cn rfl ?_ ?_<;>intro h4 q4
 have hjn:j<(2+s.val 2).toNat:=by have:=DH.Dp h4;rw [ZX] at this;omega
 refine Tr.skip (Fin.go (Tr.seq (Tr.block (Tr.seq (Tr.Al (cm rfl (cm rfl (Ch.nil (Fin.go (Tr.seq (Tr.Ap (tm rfl (tm rfl ?_)))))))))))))
 refine tp rfl (ki rfl rfl rfl rfl) (tm rfl ?_)
 refine TO.cases 77 rfl (fun h5=> ?_) (fun h5=> ?_)
 have q5:=DH.Dp h5
 refine TO.HP rfl rfl rfl h5 rfl AB (BQ rfl (vl rfl)) (TO.Zc 3 rfl rfl rfl h5 rfl rfl AB (Aj rfl rfl AB rfl (Cf AA AA) ⟨ke rfl,ke rfl,trivial⟩) (TO.HP rfl rfl rfl h5 rfl AB (ki rfl rfl rfl rfl) (tp rfl (Nt rfl rfl h5 rfl) (tm rfl ?_))))
 refine TO.cases 82 rfl (fun h6=> ?_) (fun h6=> ?_)
 have q6:=DH.Dp h6
 refine TO.HP rfl rfl rfl h6 rfl AB (AW rfl OC (vl rfl)) (TO.HP rfl rfl rfl h6 rfl AB (CN 1 rfl (A_ rfl dD (vl rfl) rfl)) (TO.HP rfl rfl rfl h6 rfl AB (CJ rfl underlying28 (Kb rfl)) (TO.HP rfl rfl rfl h6 rfl AB (ki rfl rfl rfl rfl) (tp rfl (Nt rfl rfl h6 rfl) (TO.nil (Fin.go (Jr 0 2 3 4 8 9 65 66 70 71 87 rfl ?_)))))))
 refine Tr.cn rfl ?_ ?_<;>intro h7 q7
 refine Tr.Ap (tp rfl (AW rfl OC (vl rfl)) (TO.rd 1 rfl rfl rfl AB (A_ rfl dD (vl rfl) rfl) (tm rfl (tm rfl (tp rfl (An (rows:=[(0,[_]),(1,[_])]) rfl wM XE ⟨⟨rfl,(Vo rfl)⟩,⟨⟨rfl,(Vo rfl)⟩,trivial⟩⟩ rfl) (tp rfl (AP (xs:=[.tmp 92]) (rows:=[_]) rfl rfl underlying28 E5 ZU rfl AB ⟨⟨Ao,(Va rfl)⟩,trivial⟩ AB) ?_))))))
 refine TO.Dl 0 rfl rfl AB (CB rfl rfl rfl rfl underlying28 E5 wL ZU (Kb rfl) (Kf rfl) (BC BR (Ka rfl))) (fun v5=> ?_)
 refine tp rfl (AW rfl OC (vl rfl)) (TO.DG 1 rfl rfl (Aw rfl rfl (vl rfl) (Vo rfl) ABW rfl Az rfl) (TO.nil (Fin.block (Fin.go (wk9 0 2 3 4 8 65 66 70 71 rfl (Tr.Al (Mz rfl rfl rfl rfl AA (cm rfl (Ch.nil ?_)))))))))
 refine Fin.HZ 1 [slice 9 (es.map Be),Aa v5 (Ij (iE++[(⟨((i:Nat):Int),((j:Nat):Int)⟩:Iz)])),is (.slice none 0 0)] rfl ⟨Lr,BJ DQ,Lr,trivial⟩ ?_
 exact Fin.ER (j+1) (iE++[(⟨((i:Nat):Int),((j:Nat):Int)⟩:Iz)]) (_) v5 (⟨⟨by omega,by simp;omega,hj3.snoc ⟨by omega,by omega⟩ ⟨by omega,by omega⟩ AA⟩,by omega⟩) ⟨⟨_,rfl,AG j⟩,ke rfl,ke rfl,ke rfl,ke rfl,ke rfl,ke rfl,ke rfl,ke rfl,trivial⟩ (fun _ _ h=>h)
 refine Tr.skip (Fin.block (Fin.go (Tr.Al (Mz rfl rfl rfl rfl AA (cm rfl (Ch.nil (Fin.ER (j+1) (iE) (_) u (⟨⟨by omega,hj2,hj3.step⟩,by omega⟩) ⟨⟨_,rfl,AG j⟩,ke rfl,ke rfl,ke rfl,ke rfl,ke rfl,ke rfl,ke rfl,ke rfl,trivial⟩ (fun _ _ h=>h))))))))
 have q6:=DH.Dp h6
 iterate 4 refine TO.Rc rfl rfl rfl (Bg h6) rfl AB ?_
 refine tp rfl (KE rfl rfl h6 rfl) (TO.nil (Fin.go (Jr 0 2 3 4 8 9 65 66 70 71 87 rfl (Tr.cond rfl (fun h=>nomatch h) (fun _=> ?_)))))
 refine Tr.skip (Fin.block (Fin.go (Tr.Al (Mz rfl rfl rfl rfl AA (cm rfl (Ch.nil (Fin.ER (j+1) (iE) (_) u (⟨⟨by omega,hj2,hj3.step⟩,by omega⟩) ⟨⟨_,rfl,AG j⟩,ke rfl,ke rfl,ke rfl,ke rfl,ke rfl,ke rfl,ke rfl,ke rfl,trivial⟩ (fun _ _ h=>h))))))))
 have q5:=DH.Dp h5
 refine TO.Rc rfl rfl rfl (Bg h5) rfl AB (TO.Rc rfl rfl rfl (Bg h5) rfl AB (TO.Rc rfl rfl rfl (Bg h5) rfl AB (tp rfl (KE rfl rfl h5 rfl) (tm rfl ?_))))
 iterate 4 refine TO.Rc rfl rfl rfl (Bg rfl) rfl AB ?_
 refine tp rfl (KE rfl rfl rfl rfl) (TO.nil (Fin.go (Jr 0 2 3 4 8 9 65 66 70 71 87 rfl (Tr.cond rfl (fun h=>nomatch h) (fun _=> ?_)))))
 refine Tr.skip (Fin.block (Fin.go (Tr.Al (Mz rfl rfl rfl rfl AA (cm rfl (Ch.nil (Fin.ER (j+1) (iE) (_) u (⟨⟨by omega,hj2,hj3.step⟩,by omega⟩) ⟨⟨_,rfl,AG j⟩,ke rfl,ke rfl,ke rfl,ke rfl,ke rfl,ke rfl,ke rfl,ke rfl,trivial⟩ (fun _ _ h=>h))))))))
 have hje:j=(2+s.val 2).toNat:=by have:=DH.Dp h4;rw [ZX] at this;omega
 refine Tr.exit (Fin.Ac (Fin.Ac (Fin.A0 (Fin.block (Fin.go (Tr.Al (Mz rfl rfl rfl rfl AA (cm rfl (Ch.nil (Fin.ER (i+1) (iE) (_) u (⟨⟨by omega,hj2,hj3.row⟩,by omega⟩) ⟨⟨_,rfl,AG i⟩,ke rfl,ke rfl,ke rfl,ke rfl,ke rfl,trivial⟩ (fun _ _ h=>h)))))))))))
 have hie:i=(2+s.val 2).toNat:=by have:=DH.Dp h3;rw [ZX] at this;omega
 refine Tr.exit (Fin.Ac (Fin.Ac (Fin.A0 (Fin.go (Tr.seq (Tr.seq (Tr.Al (co rfl (AW rfl OC (vl rfl)) (co rfl (CN 1 rfl (A_ rfl dD (vl rfl) rfl)) (co rfl (CJ rfl underlying28 (Kb rfl)) (co rfl (ki rfl rfl rfl rfl) (Ch.nil (Fin.go ?_)))))))))))))
 refine Tr.cn rfl ?_ ?_<;>intro h8 q8
 refine Tr.Ap (tp rfl (An (rows:=[(0,[_]),(1,[_])]) rfl wM XE ⟨⟨rfl,(Vo rfl)⟩,⟨⟨rfl,(Vo rfl)⟩,trivial⟩⟩ rfl) (tp rfl (AP (xs:=[.tmp 102]) (rows:=[_]) rfl rfl underlying28 E5 ZU rfl AB ⟨⟨Ao,(Va rfl)⟩,trivial⟩ AB) ?_))
 refine tp rfl (AW rfl OC (vl rfl)) (TO.DG 1 rfl rfl (Aw rfl rfl (vl rfl) (Vo rfl) ABW rfl Az rfl) (TO.nil (Fin.go (Gk 0 2 3 rfl (Tr.seq (Tr.seq ?_))))))
 have hv9:=s3.DM (n:=3) AA
 obtain ⟨jo,hge,ABB,ABC,ABD⟩:∃l:List Iz,l=[⟨0,1⟩]∧(∀k,k<l.length→Eo (2+s.val 2).toNat l k=true)∧1≤l.length∧l.length≤3:=⟨_,rfl,((Zw.nil (2+s.val 2).toNat 0 1).snoc ⟨by omega,by omega⟩ ⟨by omega,by omega⟩ AA).at_,by simp,by simp⟩
 refine Tr.HZ 1 [slice 9 (es.map Be),Ij jo,is (.slice none 0 0)] rfl ⟨Lr,Pr.le_trans (B8 _ _) (Pr.le_of_eq (by rw [hge];rfl)),Lr,trivial⟩ ?_
 refine Tr.drop 0 (Tr.Ap (tm rfl (TO.GK 2 rfl rfl AB (Aj rfl rfl AB rfl (Cf AA AA) ⟨ke rfl,ke rfl,trivial⟩) (tm rfl (TO.nil (Fin.go (Tr.block (Tr.HZ 0 [slice 9 (es.map Be),Ij jo,Aa (.slice none 0 0) (Rj [])] rfl ⟨Lr,Lr,Bp rfl,trivial⟩ (Tr.CC 135 5 ?_)))))))))
 refine Tr.Fw [(0,_),(2,_),(3,_)] ⟨ke rfl,ke rfl,ke rfl,trivial⟩ (fun (q:Int) (its:List Vu) (s5:DS) x=>[(10,int q)]) (fun (q:Int) (its:List Vu) (s5:DS) x=>Hp M0 w0 S (Au 135 5 x::AF true b2 31 [slice 9 (es.map Be),Ij jo,Aa x (Rj its)]::AF true b1 31 (([.slice none 0 0,.slice none 0 0,.slice none 0 0]:List Value).map is)::Dh b s5::Ak M1 w1::rs)) (fun (q:Int) (its:List Vu) (s5:DS)=>0≤q∧q+its.length≤2∧∀x∈its,Zv x) (fun (q:Int) (its:List Vu) (s5:DS)=>q.toNat) (_) ([]) (_) (.slice none 0 0) (⟨by omega,by simp;omega,fun x h=>by simp at h⟩) ⟨ke rfl,trivial⟩ (fun _ _ h=>h) ?_
 rintro q its s5 x ⟨hq1,gB,hqi⟩
 refine Tr.seq (Tr.seq (Tr.Al (cm rfl (co rfl (ki rfl rfl rfl rfl) (Ch.nil (Fin.go ?_))))))
 refine Tr.cn rfl ?_ ?_<;>intro h9 q9
 have hq3:0<q:=of_decide_eq_true h9
 refine Tr.skip (Fin.go (Tr.seq (Tr.block (Tr.pad (Tr.GI mixed [none,some (0,2,false,0),none,none,none,some (0,4,true,0),some (0,4,true,0),none,some (0,1,true,119),none,some (0,2,true,119)] BV (xo rfl (fun _=>AW rfl OD (vl rfl)) (IZ 2 rfl rfl (A_ rfl lT (vl rfl) rfl) (xm rfl (xm rfl (xo rfl (fun _=>AP (xs:=[.const (.string ⟨[98,97,99,107,117,112].toArray⟩),.const (.string ⟨[100,101,101,100].toArray⟩)]) (rows:=[[_],[_]]) rfl rfl underlying127 NC z9 rfl AB ⟨⟨Ao,(Vo rfl)⟩,⟨⟨Ao,(Vo rfl)⟩,trivial⟩⟩ AB) ?_))))))))))
 refine Cx.ef 4 rfl rfl AB (Aj rfl rfl AB rfl (Xb (l:=[[98,97,99,107,117,112],[100,101,101,100]]) AU AU) ⟨ke rfl,(Kf rfl),trivial⟩) ?_
 refine Cx.ef 4 rfl rfl AB (Aj rfl rfl AB rfl (eD) ⟨ke rfl,ke rfl,trivial⟩) (xo rfl (fun _=>AP (xs:=[.tmp 117]) (rows:=[_]) rfl rfl underlying29 Hx VQ rfl AB ⟨⟨Ao,(Va rfl)⟩,trivial⟩ AB) ?_)
 refine Cx.ef 1 rfl rfl AB (CB rfl rfl rfl rfl underlying29 Hx lp VQ (Kb rfl) (Kf rfl) (BC BR (Ka rfl))) ?_
 refine xo rfl (fun _=>AW rfl OD (vl rfl)) (Cx.DG 2 rfl rfl (GL rfl rfl rfl (vl rfl) rfl xX Az) ?_)
 refine Cx.nil ⟨rfl,?_⟩
 refine BI.RE 1 2 119 rfl rfl AB rfl (fun v6=> ?_)
 refine BI.done (At.cons (At.cons (At.cons (At.cons (At.cons (At.cons (At.map _))))))) (Fin.block (Fin.go (Tr.drop 0 (Tj 0 2 3 10 rfl (Tr.Al (cm rfl (csu rfl rfl rfl rfl AA (cm rfl (Ch.nil ?_)))))))))
 refine Fin.HZ 1 [slice 9 (es.map Be),Ij jo,Aa v6 (Rj (its++[(T6 s5.Cj (KS s5 [ML,Zx]))]))] rfl ⟨Lr,Lr,BJ DQ,trivial⟩ ?_
 exact Fin.ER (q-1) (its++[(T6 s5.Cj (KS s5 [ML,Zx]))]) (_) v6 (⟨⟨by omega,by simp;omega,Xk hqi (eC (eE s5))⟩,by omega⟩) ⟨⟨_,rfl,int_eq AA⟩,ke rfl,ke rfl,ke rfl,trivial⟩ (fun _ _ h=>h)
 have hq3:¬0<q:=of_decide_eq_false h9
 refine Tr.exit (Fin.Ac (Fin.Ac (Fin.A0 (Fin.go (Tr.seq (Tr.Ap (TO.rd 1 rfl rfl rfl AB (B4 rfl Dg De (vl rfl) rfl rfl) (TO.AK 2 rfl rfl rfl (vl rfl) (Va rfl) rfl De rfl rfl (TO.nil (Fin.go (Tr.ret (Fin.HK 3 _ rfl rfl (Fin.Gl [_,_,_] rfl (AL.cell 2 rfl rfl Dg De rfl (Lr)) ?_ (fun _ _ _ _=>rfl))))))))))))))
 · exact kE
 refine Tr.skip (Fin.go (Tr.seq (Tr.seq ?_)))
 have hv9:=s3.DM (n:=3) AA
 obtain ⟨jo,hge,ABB,ABC,ABD⟩:∃l:List Iz,l=gs∧(∀k,k<l.length→Eo (2+s.val 2).toNat l k=true)∧1≤l.length∧l.length≤3:=⟨_,rfl,hi3.at_,by have h_:=h8;simp at h_;exact List.length_pos_iff.2 h_,hi2⟩
 refine Tr.HZ 1 [slice 9 (es.map Be),Ij jo,is (.slice none 0 0)] rfl ⟨Lr,Pr.le_trans (As _ _) (Pr.le_of_eq (by rw [hge])),Lr,trivial⟩ (Tr.drop 0 (Tr.Ap (tm rfl (TO.GK 2 rfl rfl AB (Aj rfl rfl AB rfl (Cf AA AA) ⟨ke rfl,ke rfl,trivial⟩) (tm rfl (TO.nil (Fin.go (Tj 0 2 3 10 rfl (Tr.block (Tr.HZ 0 [slice 9 (es.map Be),Ij jo,Aa (.slice none 0 0) (Rj [])] rfl ⟨Lr,Lr,Bp rfl,trivial⟩ (Tr.CC 135 5 ?_)))))))))))
 refine Tr.Fw [(0,_),(2,_),(3,_)] ⟨ke rfl,ke rfl,ke rfl,trivial⟩ (fun (q:Int) (its:List Vu) (s5:DS) x=>[(10,int q)]) (fun (q:Int) (its:List Vu) (s5:DS) x=>Hp M0 w0 S (Au 135 5 x::AF true b2 31 [slice 9 (es.map Be),Ij jo,Aa x (Rj its)]::AF true b1 31 (([.slice none 0 0,.slice none 0 0,.slice none 0 0]:List Value).map is)::Dh b s5::Ak M1 w1::rs)) (fun (q:Int) (its:List Vu) (s5:DS)=>0≤q∧q+its.length≤2∧∀x∈its,Zv x) (fun (q:Int) (its:List Vu) (s5:DS)=>q.toNat) (_) ([]) (_) (.slice none 0 0) (⟨by omega,by simp;omega,fun x h=>by simp at h⟩) ⟨ke rfl,trivial⟩ (fun _ _ h=>h) ?_
 rintro q its s5 x ⟨hq1,gB,hqi⟩
 refine Tr.seq (Tr.seq (Tr.Al (cm rfl (co rfl (ki rfl rfl rfl rfl) (Ch.nil (Fin.go ?_))))))
 refine Tr.cn rfl ?_ ?_<;>intro h10 Sx
 have hq3:0<q:=of_decide_eq_true h10
 refine Tr.skip (Fin.go (Tr.seq (Tr.block (Tr.pad (Tr.GI mixed [none,some (0,2,false,0),none,none,none,some (0,4,true,0),some (0,4,true,0),none,some (0,1,true,119),none,some (0,2,true,119)] BV (xo rfl (fun _=>AW rfl OD (vl rfl)) (IZ 2 rfl rfl (A_ rfl lT (vl rfl) rfl) (xm rfl (xm rfl (xo rfl (fun _=>AP (xs:=[.const (.string ⟨[98,97,99,107,117,112].toArray⟩),.const (.string ⟨[100,101,101,100].toArray⟩)]) (rows:=[[_],[_]]) rfl rfl underlying127 NC z9 rfl AB ⟨⟨Ao,(Vo rfl)⟩,⟨⟨Ao,(Vo rfl)⟩,trivial⟩⟩ AB) ?_))))))))))
 refine Cx.ef 4 rfl rfl AB (Aj rfl rfl AB rfl (Xb (l:=[[98,97,99,107,117,112],[100,101,101,100]]) AU AU) ⟨ke rfl,(Kf rfl),trivial⟩) ?_
 refine Cx.ef 4 rfl rfl AB (Aj rfl rfl AB rfl (eD) ⟨ke rfl,ke rfl,trivial⟩) (xo rfl (fun _=>AP (xs:=[.tmp 117]) (rows:=[_]) rfl rfl underlying29 Hx VQ rfl AB ⟨⟨Ao,(Va rfl)⟩,trivial⟩ AB) ?_)
 refine Cx.ef 1 rfl rfl AB (CB rfl rfl rfl rfl underlying29 Hx lp VQ (Kb rfl) (Kf rfl) (BC BR (Ka rfl))) ?_
 refine xo rfl (fun _=>AW rfl OD (vl rfl)) (Cx.DG 2 rfl rfl (GL rfl rfl rfl (vl rfl) rfl xX Az) ?_)
 refine Cx.nil ⟨rfl,?_⟩
 refine BI.RE 1 2 119 rfl rfl AB rfl (fun v7=> ?_)
 refine BI.done (At.cons (At.cons (At.cons (At.cons (At.cons (At.cons (At.map _))))))) (Fin.block (Fin.go (Tr.drop 0 (Tj 0 2 3 10 rfl (Tr.Al (cm rfl (csu rfl rfl rfl rfl AA (cm rfl (Ch.nil ?_)))))))))
 refine Fin.HZ 1 [slice 9 (es.map Be),Ij jo,Aa v7 (Rj (its++[(T6 s5.Cj (KS s5 [ML,Zx]))]))] rfl ⟨Lr,Lr,BJ DQ,trivial⟩ ?_
 exact Fin.ER (q-1) (its++[(T6 s5.Cj (KS s5 [ML,Zx]))]) (_) v7 (⟨⟨by omega,by simp;omega,Xk hqi (eC (eE s5))⟩,by omega⟩) ⟨⟨_,rfl,int_eq AA⟩,ke rfl,ke rfl,ke rfl,trivial⟩ (fun _ _ h=>h)
 have hq3:¬0<q:=of_decide_eq_false h10
 refine Tr.exit (Fin.Ac (Fin.Ac (Fin.A0 (Fin.go (Tr.seq (Tr.Ap (TO.rd 1 rfl rfl rfl AB (B4 rfl Dg De (vl rfl) rfl rfl) (TO.AK 2 rfl rfl rfl (vl rfl) (Va rfl) rfl De rfl rfl (TO.nil (Fin.go (Tr.ret (Fin.HK 3 _ rfl rfl (Fin.Gl [_,_,_] rfl (AL.cell 2 rfl rfl Dg De rfl (Lr)) ?_ (fun _ _ _ _=>rfl))))))))))))))
 · exact kE
end Go.Proofs.YtmocaapoeefgkaaGreatDoor
namespace Cp
open Go Go.RowKit
theorem JN {P:Program} {E:Env} {I:Ck} {o:Oper} {t e:TypeId} {y:Operand} {sz bytes:Nat} {zs:List Value} {rows:List (List Pr)} (ho:o.op= .call { callee:= .builtin .append,args:= #[.const (.slice none 0 0),y],argTypes:= #[t,t] })
  (ht:P.underlying t=some (.slice e)) (hz:BA P e=some sz) (hby:B1 P e=some bytes) (El:Bb P e=some zs) (hzl:zs.length=sz) (hsz:0<sz) (hy:VL E y (slice sz rows)) (HE:rows.length≤maxLen) (hfit:rows.length*bytes≤140737488355328):Ae P I o E (slice sz rows):=
 Ae.val fun M w a he hI=>by
  have h0:=(A8.begin (I.bd _ _ hI)).I0 (r:=Bq) rfl trivial
  obtain ⟨v',w',M',h1,h2,h3,h4⟩:=Wv (ty:=o.type) (j:=0) (v:= .slice none 0 0) (rows:=[]) ht hz hby El hzl hsz h0 rfl (.inr ⟨rfl,rfl⟩) (AQ sz M w _ rfl) (hy.ev he DK) Pu Pt
  have h5:a.eval (.const (.slice none 0 0))= .slice none 0 0:=rfl
  exact ⟨v',w',by simp [execOp,ho,resolve,invoke,builtin,h1,h5],(slice sz rows).st _ _ _ _ _ (Ext.less h4.m) Mq,h4.below⟩
theorem TO.Tn {P:Program} {n:Fm} {E:Env} {M0:Av} {w0:World} {S:Nat→Prop} {rs:List Aq} {ops:Array Oper} {r:List Oper} {Q:Exit→Act→World→Prop} (i:Nat) {T:TypeId} {b:Nat} (hi:rs[i]? =some (JE T b)) (k:∀s,TO P n ops r E (Hp M0 w0 S (rs.set i (W9 T b s))) Q):TO P n ops r E (Hp M0 w0 S rs) Q:=by
 rintro m hl a w ⟨M,h1,h2,h3,h4⟩
 have h4:A8 M0 w0 S rs M w:=h4
 obtain ⟨x,hx,hh⟩:=(h4.hold _ (List.mem_of_getElem? hi)).1
 exact k x m hl a w ⟨M,h1,h2,h3,h4.CV hi rfl rfl hh⟩
theorem Ae.Le {P:Program} {E:Env} {I:Ck} {o:Oper} {p:Pr} (s:Nat) {α:Type} {f:α→Pr} (hs:E.lookup s=some (Cp.ex f)) (hm:s∈looks o) (h:∀x,Ae P I o ((s,f x)::E) p):Ae P I o E p:=by
 intro M w a he hI
 obtain ⟨x,hx⟩:=he s _ hm hs
 refine h x M w a (fun t q ht hq=> ?_) hI
 simp only [List.lookup] at hq
 by_cases hts:t=s
 · exact U2
 · exact Ur
theorem Ae.opf {P:Program} {E:Env} {I:Ck} {o:Oper} {p q:Pr} {φ:Prop} (s:Nat) (hs:E.lookup s=some (Cp.fact φ q)) (hm:s∈looks o) (h:φ→Ae P I o ((s,q)::E) p):Ae P I o E p:=by
 intro M w a he hI
 obtain ⟨hφ,hx⟩:=he s _ hm hs
 refine h hφ M w a (fun t r ht hr=> ?_) hI
 simp only [List.lookup] at hr
 by_cases hts:t=s
 · subst hts;simp at hr;subst hr;exact hx
 · rw [show (t==s)=false by simpa using hts] at hr;exact he t r ht hr
end Cp
namespace Cp
open Go Go.RowKit Go.Great
section
variable {P:Program} {L:Lg P} {n:Fm} {fz:Nat} {E:Env} {M0:Av} {w0:World} {S:Nat→Prop} {rs:List Aq}
theorem A8.Xl {i:Nat} {r r':Aq} {M:Av} {w:World} (h:A8 M0 w0 S rs M w) (hi:rs[i]? =some r) (hb:∀b,r'.blk=some b→r.blk=some b) (hn:r'.new=r.new) (hh:r'.h M w):A8 M0 w0 S (rs.set i r') M w:=by
 have F6:i<rs.length:=by rcases Nat.lt_or_ge i rs.length with h|h;exact h;rw [List.getElem?_eq_none h] at hi;cases hi
 have h1:=A8.perm (Cm hi) h
 refine A8.perm (KC F6) ⟨h1.m0,h1.m,h1.os,h1.tape,h1.output,h1.size,h1.block,h1.bd,fun q hq=> ?_,?_⟩
 ·
  rcases List.mem_cons.1 hq with rfl|hq
  · exact ⟨hh,fun b hbk=>by rw [hn];exact (h1.hold r AU).2 b (hb b hbk)⟩
  · exact h1.hold q (by simp [hq])
 ·
  obtain ⟨h2,h3⟩:=List.pairwise_cons.1 h1.nd
  exact List.Pairwise.cons (fun q hq b hbk=>h2 q hq b (hb b hbk)) h3
theorem A8.Rl {j:Nat} {e:TypeId} {sz:Nat} {rows:List (List Pr)} {v:Value} {M:Av} {w:World} (h:A8 M0 w0 S rs M w) (hj:rs[j]? =some (BG e sz rows v)):A8 M0 w0 S (rs.set j (Bz e sz rows v)) M w:=by
 rcases (h.hold _ (List.mem_of_getElem? hj)).1 with ⟨h1,h2⟩|⟨b,cap,sp,h1,h2,h3,h4,h5⟩
 ·
  subst h2
  exact h.Xl hj (fun b hb=>by cases hb) rfl (.inl ⟨h1,_,rfl⟩)
 ·
  subst h1
  cases cap with
  |zero=>
   have hr:rows=[]:=List.eq_nil_of_length_eq_zero AA
   subst hr
   exact h.Xl hj (fun b hb=>by cases hb) rfl (.inl ⟨rfl,_,rfl⟩)
  |succ c=>exact h.Xl hj (fun b hb=>hb) rfl (.inr ⟨b,c,sp,rfl,h2,h3,h4,h5⟩)
theorem Fin.Rl {Q:Exit→Act→World→Prop} {x:Exit} {e:TypeId} {sz:Nat} {rows:List (List Pr)} {v:Value} (j:Nat) (hj:rs[j]? =some (BG e sz rows v)) (k:Fin n E (Hp M0 w0 S (rs.set j (Bz e sz rows v))) Q x):Fin n E (Hp M0 w0 S rs) Q x:=
 Fin.conv (fun a w hs=>by
  obtain ⟨M,h1,h2,h3,h4⟩:=hs
  have h4:A8 M0 w0 S rs M w:=h4
  exact ⟨M,h1,h2,h3,h4.Rl hj⟩) k
theorem Tr.Rl {Q:Exit→Act→World→Prop} {c:Code} {e:TypeId} {sz:Nat} {rows:List (List Pr)} {v:Value} (j:Nat) (hj:rs[j]? =some (BG e sz rows v)) (k:Tr L n E (Hp M0 w0 S (rs.set j (Bz e sz rows v))) c Q):Tr L n E (Hp M0 w0 S rs) c Q:=
 Tr.conv (fun _ _ ⟨M,h1,h2,h3,h4⟩=>⟨M,h1,h2,h3,A8.Rl h4 hj⟩) k
end
end Cp
namespace Go.Proofs.YtmocaapoeefgkaaGreatDoor
open Go Go.RowKit Cp Go.Proofs.Tryz
structure B7.sz (e:B7) (n:Nat):Prop where
 name:e.name.length≤maxLen
 A9:e.A9.length≤n
 anchors:e.anchors.length≤n
 hashes:e.hashes.length≤n
 Yy:e.ids.length≤n
 ids:∀x∈e.ids,x.fits∧x.small
theorem B7.sz.fits {e:B7} {n:Nat} (h:e.sz n):e.fits:=⟨h.name,fun x hx=>(h.ids x hx).1⟩
theorem B7.sz.small {e:B7} {n:Nat} (h:e.sz n) (hn:n≤1000000):e.small:=⟨by have:=h.A9;omega,by have:=h.anchors;omega,by have:=h.hashes;omega,by have:=h.Yy;omega,fun x hx=>(h.ids x hx).2⟩
theorem B7.sz.le {e:B7} {n m:Nat} (h:e.sz n) (hn:n≤m):e.sz m:=⟨h.name,Nat.le_trans h.A9 hn,Nat.le_trans h.anchors hn,Nat.le_trans h.hashes hn,Nat.le_trans h.Yy hn,h.ids⟩
theorem uP {i:Nat} {e:B7} (h:Zm i e):e.sz 5:=by
 have hs:=Vs _ (KT h)
 have h1:=T4 h;have h2:=Ri h
 obtain ⟨s,hs1,S8⟩:=h.ids
 exact ⟨h1.name,hs.2,by rw [h.anchors];simp,by rw [h.hashes];simp,by rw [S8];simp,fun x hx=>⟨h1.ids x hx,h2.ids x hx⟩⟩
theorem QH {α:Type} {l:List α} {a:α} {i:Nat}:(l.take i++[a]++l.drop i).length≤l.length+1:=by simp [List.length_take,List.length_drop];omega
theorem QI {α:Type} {l:List α} {i:Nat}:(l.eraseIdx i).length≤l.length:=by rw [List.length_eraseIdx];split<;>omega
theorem HS:B5.fits∧B5.small:=⟨nJ,gr⟩
theorem uQ {P:IF→Prop} {l:List IF} {x:IF} {i:Nat} (h:∀y∈l,P y) (hx:P x):∀y∈l.take i++[x]++l.drop i,P y:=by
 intro y hy
 simp only [List.mem_append,List.mem_cons,List.not_mem_nil,or_false] at hy
 rcases hy with (hy|rfl)|hy
 · exact h y (List.mem_of_mem_take hy)
 · exact hx
 · exact h y (List.mem_of_mem_drop hy)
theorem eF {e:B7} {c:Ba} {x:B7} {b:Ba} {n:Nat} (hc:Jp c) (h:CE e c= .ok (x,b)) (hs:e.sz n) (hi:c.C6.fits∧c.C6.small):x.sz (n+1)∧b.C6.fits∧b.C6.small:=by
 have h1:=hs.A9;have h2:=hs.anchors;have h3:=hs.hashes;have h4:=hs.Yy
 rcases dx hc.1 with hk|hk|hk|hk|hk|hk|hk|hk|hk|hk|hk|hk
 · rw [P9 hk] at h;(repeat' (split at h))<;>first|(cases h;done)|(injection h with h;obtain ⟨rfl,rfl⟩:=Prod.mk.inj h;exact ⟨⟨hs.name,Nat.le_trans QH AA,Nat.le_trans h2 AA,Nat.le_trans h3 AA,Nat.le_trans h4 AA,hs.ids⟩,HS⟩)
 · rw [P_ hk] at h;(repeat' (split at h))<;>first|(cases h;done)|(injection h with h;obtain ⟨rfl,rfl⟩:=Prod.mk.inj h;exact ⟨⟨hs.name,Nat.le_trans QI AA,Nat.le_trans h2 AA,Nat.le_trans h3 AA,Nat.le_trans h4 AA,hs.ids⟩,HS⟩)
 · rw [QA hk] at h;(repeat' (split at h))<;>first|(cases h;done)|(injection h with h;obtain ⟨rfl,rfl⟩:=Prod.mk.inj h;exact ⟨⟨hs.name,Nat.le_trans h1 AA,Nat.le_trans h2 AA,Nat.le_trans h3 AA,Nat.le_trans h4 AA,hs.ids⟩,HS⟩)
 · rw [QB hk] at h;(repeat' (split at h))<;>first|(cases h;done)|(injection h with h;obtain ⟨rfl,rfl⟩:=Prod.mk.inj h;exact ⟨⟨hs.name,Nat.le_trans h1 AA,Nat.le_trans h2 AA,Nat.le_trans h3 AA,Nat.le_trans h4 AA,hs.ids⟩,HS⟩)
 · rw [QC hk] at h;(repeat' (split at h))<;>first|(cases h;done)|(injection h with h;obtain ⟨rfl,rfl⟩:=Prod.mk.inj h;exact ⟨⟨hs.name,Nat.le_trans h1 AA,Nat.le_trans h2 AA,Nat.le_trans h3 AA,Nat.le_trans QH AA,uQ hs.ids hi⟩,HS⟩)
 · rw [QD hk] at h;(repeat' (split at h))<;>first|(cases h;done)|(injection h with h;obtain ⟨rfl,rfl⟩:=Prod.mk.inj h;exact ⟨⟨hs.name,Nat.le_trans h1 AA,Nat.le_trans h2 AA,Nat.le_trans h3 AA,Nat.le_trans QI AA,fun y hy=>hs.ids y (List.mem_of_mem_eraseIdx hy)⟩,hs.ids _ (List.mem_of_getElem? Bi)⟩)
 · rw [QE hk] at h;(repeat' (split at h))<;>first|(cases h;done)|(injection h with h;obtain ⟨rfl,rfl⟩:=Prod.mk.inj h;exact ⟨⟨hs.name,Nat.le_trans h1 AA,Nat.le_trans QH AA,Nat.le_trans h3 AA,Nat.le_trans h4 AA,hs.ids⟩,HS⟩)
 · rw [QF hk] at h;(repeat' (split at h))<;>first|(cases h;done)|(injection h with h;obtain ⟨rfl,rfl⟩:=Prod.mk.inj h;exact ⟨⟨hs.name,Nat.le_trans h1 AA,Nat.le_trans QI AA,Nat.le_trans h3 AA,Nat.le_trans h4 AA,hs.ids⟩,HS⟩)
 · rw [QG hk] at h;(repeat' (split at h))<;>first|(cases h;done)|(injection h with h;obtain ⟨rfl,rfl⟩:=Prod.mk.inj h;exact ⟨⟨hs.name,Nat.le_trans h1 AA,Nat.le_trans h2 AA,Nat.le_trans QH AA,Nat.le_trans h4 AA,hs.ids⟩,HS⟩)
 · rw [NS hk] at h;(repeat' (split at h))<;>first|(cases h;done)|(injection h with h;obtain ⟨rfl,rfl⟩:=Prod.mk.inj h;exact ⟨⟨hs.name,Nat.le_trans h1 AA,Nat.le_trans h2 AA,Nat.le_trans QI AA,Nat.le_trans h4 AA,hs.ids⟩,HS⟩)
 · rw [NT hk] at h;(repeat' (split at h))<;>first|(cases h;done)|(injection h with h;obtain ⟨rfl,rfl⟩:=Prod.mk.inj h;exact ⟨⟨hs.name,Nat.le_trans h1 AA,Nat.le_trans h2 AA,Nat.le_trans h3 AA,Nat.le_trans h4 AA,hs.ids⟩,HS⟩)
 · rw [NU hk] at h;(repeat' (split at h))<;>first|(cases h;done)|(injection h with h;obtain ⟨rfl,rfl⟩:=Prod.mk.inj h;exact ⟨⟨hs.name,Nat.le_trans h1 AA,Nat.le_trans h2 AA,Nat.le_trans h3 AA,Nat.le_trans h4 AA,hs.ids⟩,HS⟩)
theorem uR {e:B7} {c:Ba} {x:B7} {b:Ba} {n:Nat} (h:EM e c=(x,b,0)) (hs:e.sz n) (hi:c.C6.fits∧c.C6.small):x.sz (n+1)∧b.C6.fits∧b.C6.small:=by
 obtain ⟨_,h2,h3,_⟩:=hO h
 exact eF h2 h3 hs hi
structure Dn.sz (e:Dn) (n:Nat):Prop where
 Bu:∀x∈e.Bu,x.sz n
 items:∀x∈e.items,x.name.length≤maxLen∧x.links.length≤1000000
 le:e.Bu.length≤1000000
 lg:e.BX.length≤1000000
 li:e.items.length≤1000000
theorem Dn.sz.fits {e:Dn} {n:Nat} (h:e.sz n) (hn:n≤1000000):e.fits:=
 ⟨fun x hx=>⟨(h.Bu x hx).fits,(h.Bu x hx).small hn⟩,fun x hx=>(h.items x hx).1,by have:=h.le;omega,by have:=h.lg;omega,by have:=h.li;omega⟩
theorem wz {β γ:Type} {f:β→γ} {l:List β} {k:Nat} {x:β} (h:l[k]? =some x):(l.take k).map f++[f x]=(l.take (k+1)).map f:=by rw [List.take_add_one,h,List.map_append];rfl
def Ln (l:List B7) (c:Ba):List B7×Int:=
 if c.AY<0∨((l.length:Nat):Int)≤c.AY then (l,40)
 else match l[c.AY.toNat]? with
  |none=>(l,40)
  |some x=>if (EM x c).2.2=0 then (l.set c.AY.toNat (EM x c).1,0) else (l,(EM x c).2.2)
theorem uS {l:List B7} {c:Ba} (h:c.AY<0∨((l.length:Nat):Int)≤c.AY):Ln l c=(l,40):=if_pos h
theorem yu {l:List B7} {c:Ba} {x:B7} (h:¬(c.AY<0∨((l.length:Nat):Int)≤c.AY)) (hx:l[c.AY.toNat]? =some x):Ln l c=if (EM x c).2.2=0 then (l.set c.AY.toNat (EM x c).1,0) else (l,(EM x c).2.2):=by
 unfold Ln;rw [if_neg h,hx]
def OP (l:List Ba):List Int→List B7→List B7×Int
 |[],Bu=>(Bu,0)
 |i::s,Bu=>match l[i.toNat]? with
  |none=>(Bu,0)
  |some c=>if (Ln Bu c).2=0 then OP l s (Ln Bu c).1 else (Bu,(Ln Bu c).2)
def Vy (e:Dn) (l:List Ba) (s:List Int):Dn×Int:=
 if Fc e=false then (GR,31)
 else if 24<l.length then (GR,3)
 else if Dc l.length s=false then (GR,46)
 else if (OP l s e.Bu).2=0 then (⟨(OP l s e.Bu).1,e.BX,e.items⟩,0) else (GR,(OP l s e.Bu).2)
theorem iF {l:List Ba} {s:List Int} {Bu:List B7} {k:Nat} {i:Int} {c:Ba} (hi:s[k]? =some i) (hc:l[i.toNat]? =some c):OP l (s.drop k) Bu=if (Ln Bu c).2=0 then OP l (s.drop (k+1)) (Ln Bu c).1 else (Bu,(Ln Bu c).2):=by
 have hk:=BM hi
 rw [List.drop_eq_getElem_cons hk]
 rw [List.getElem?_eq_getElem hk] at hi;cases hi
 rw [OP];rw [hc]
theorem eG (l:List B7) (c:Ba):(Ln l c).1.length=l.length:=by
 unfold Ln;split
 · rfl
 ·
  split
  · rfl
  ·
   split
   · exact List.length_set
   · rfl
theorem nX {l:List B7} {c:Ba} {n:Nat} (hz:∀x∈l,x.sz n) (hi:c.C6.fits∧c.C6.small):∀x∈(Ln l c).1,x.sz (n+1):=by
 have Eh:∀x∈l,x.sz (n+1):=fun x hx=>(hz x hx).le AA
 unfold Ln;split
 · exact Eh
 ·
  split
  · exact Eh
  next x hx=>
  split
  next h0=>
   intro y hy
   rcases List.mem_or_eq_of_mem_set hy with hy|hy
   · exact Eh y hy
   ·
    subst hy
    exact (uR (b:=(EM x c).2.1) (by rw [←h0]) (hz x (List.mem_of_getElem? hx)) hi).1
  · exact Eh
def O5 (s:List Int) (k:Nat):Int:=if k=0 then -1 else s[k-1]?.getD 0
theorem Zy {s:List Int} {k:Nat} {i:Int} (h:s[k]? =some i):O5 s (k+1)=i:=by unfold O5;rw [if_neg AA,Nat.add_sub_cancel,h];rfl
theorem Rm {n:Int} {s:List Int} {k:Nat} {i:Int} (h:∀j,j<k→setAt n s j=true) (hi:s[k]? =some i):setAt n s k= !(decide (i≤O5 s k)||decide (n≤i)):=by
 have hk:=BM hi
 unfold setAt O5
 rw [hi,Option.getD_some]
 rcases Nat.eq_zero_or_pos k with hz|hz
 · subst hz;rw [Bool.eq_iff_iff];simp;omega
 ·
  have h1:=h (k-1) AA
  unfold setAt at h1
  simp only [Bool.and_eq_true,decide_eq_true_eq] at h1
  rw [if_neg AA,Bool.eq_iff_iff];simp;omega
theorem Uo {n:Int} {s:List Int} {k:Nat} {i:Int} (h:∀j,j<k→setAt n s j=true) (hi:s[k]? =some i) (hb:i≤O5 s k∨n≤i):Dc n s=false:=
 Qw (p:=setAt n s) (k:=k) (BM hi) (by rw [Rm h hi];simp;omega)
theorem nY {n:Int} {s:List Int} (h:∀j,j<s.length→setAt n s j=true):∀j,j<s.length→(j:Int)≤s[j]?.getD 0
 |0,hj=>by have:=h 0 hj;unfold setAt at this;simp at this;simp;omega
 |j+1,hj=>by
  have h1:=nY h j AA
  have:=h (j+1) hj
  unfold setAt at this
  simp only [Bool.and_eq_true,Bool.or_eq_true,decide_eq_true_eq,Nat.add_sub_cancel] at this
  omega
theorem eH {n:Nat} {s:List Int} (h:Dc n s=true):s.length≤n:=by
 unfold Dc at h;rw [B_] at h
 rcases Nat.eq_zero_or_pos s.length with hz|hz
 · omega
 ·
  have h1:=nY h (s.length-1) AA
  have h2:=h (s.length-1) AA
  unfold setAt at h2
  simp only [Bool.and_eq_true,decide_eq_true_eq] at h2
  omega
theorem QJ {n:Nat} {s:List Int} (h:Dc n s=true) {k:Nat} {i:Int} (hi:s[k]? =some i):0≤i∧i<n:=by
 unfold Dc at h;rw [B_] at h
 have h2:=h k (BM hi)
 unfold setAt at h2
 rw [hi] at h2
 simp only [Option.getD_some,Bool.and_eq_true,decide_eq_true_eq] at h2
 exact h2.1
end Go.Proofs.YtmocaapoeefgkaaGreatDoor
namespace Cp
open Go Go.RowKit
theorem uT {β:Type} {f:β→Pr} {ps:List Pr} {M:Av} {w:World} {ad:Addr} {n:Nat} (h:Row M w ad n (ps++[Cp.ex f])):∃x,Row M w ad n (ps++[f x]):=by
 obtain ⟨u,h1,h2,h3,x,h4⟩:=h ps.length (Cp.ex f) AU
 refine ⟨x,fun j p hp=> ?_⟩
 rcases Nat.lt_trichotomy j ps.length with hj|hj|hj
 · exact cI
 · subst hj;simp at hp;subst hp;exact ⟨u,h1,h2,h3,h4⟩
 · exact Pa
theorem iG {φ:Prop} {q:Pr} {ps:List Pr} {M:Av} {w:World} {ad:Addr} {n:Nat} (h:Row M w ad n (ps++[fact φ q])):φ∧Row M w ad n (ps++[q]):=by
 obtain ⟨u,h1,h2,h3,hφ,h4⟩:=h ps.length (fact φ q) AU
 refine ⟨hφ,fun j p hp=> ?_⟩
 rcases Nat.lt_trichotomy j ps.length with hj|hj|hj
 · exact cI
 · subst hj;simp at hp;subst hp;exact ⟨u,h1,h2,h3,h4⟩
 · exact Pa
theorem Zz {α β:Type} {f:α→List Pr} {g:β→List Pr} {φ:α→β→Prop} {sz:Nat} (h:∀a M w ad n,Row M w ad n (f a)→∃b,φ a b∧Row M w ad n (g b)) (hf:∀a,(f a).length=sz) (hg:∀b,(g b).length=sz) (ms:List α):
  Pr.le (slice sz (ms.map f)) (Cp.ex fun l:List β=>fact (l.length=ms.length∧∀(i:Nat) a b,ms[i]? =some a→l[i]? =some b→φ a b) (slice sz (l.map g))):=by
 rintro M w v ⟨a,cap,hv,h1,h2,h3,h5⟩
 have hk:∀k,k≤ms.length→∃l:List β,l.length=k∧(∀(i:Nat) a b,ms[i]? =some a→l[i]? =some b→φ a b)∧∀(i:Nat) b,l[i]? =some b→∃ad,a=some ad∧Row M w ad (i*sz) (g b):=by
  intro k
  induction k with
  |zero=>intro _;exact ⟨[],rfl,by simp,by simp⟩
  |succ k ih=>
   intro hk
   obtain ⟨l,hl,hp,hr⟩:=ih AA
   obtain ⟨x,hx⟩:∃x,ms[k]? =some x:=⟨ms[k],List.getElem?_eq_getElem AA⟩
   obtain ⟨_,ad,had,hrow⟩:=h5 k (f x) U1
   obtain ⟨b,PL,Ta⟩:=h x M w ad (k*sz) hrow
   refine ⟨l++[b],by simp [hl],fun i y c hy hc=> ?_,fun i c hc=> ?_⟩
   ·
    rcases Nat.lt_trichotomy i k with hi|hi|hi
    · rw [List.getElem?_append_left AA] at hc;exact hp i y c hy hc
    · subst hi;rw [List.getElem?_append_right AA,hl] at hc;simp at hc;subst hc;rw [hx] at hy;cases hy;exact PL
    · rw [List.getElem?_eq_none (by simp [hl];omega)] at hc;cases hc
   ·
    rcases Nat.lt_trichotomy i k with hi|hi|hi
    · rw [List.getElem?_append_left AA] at hc;exact hr i c hc
    · subst hi;rw [List.getElem?_append_right AA,hl] at hc;simp at hc;subst hc;exact ⟨ad,had,Ta⟩
    · rw [List.getElem?_eq_none (by simp [hl];omega)] at hc;cases hc
 obtain ⟨l,hl,hp,hr⟩:=hk ms.length (Nat.le_refl _)
 rw [List.length_map] at hv h1
 refine ⟨l,⟨hl,hp⟩,a,cap,by rw [List.length_map,hl];exact hv,by rw [List.length_map,hl];exact h1,h2,h3,fun i row hrow=> ?_⟩
 rw [List.getElem?_map] at hrow
 cases hb:l[i]? with
 |none=>rw [hb] at hrow;cases hrow
 |some b=>
  rw [hb] at hrow;simp at hrow;subst hrow
  exact ⟨hg b,hr i b hb⟩
end Cp
namespace Go.Proofs.YtmocaapoeefgkaaGreatDoor
open Go Go.RowKit Cp Go.Proofs.Tryz
structure ChS (l:List Hf):Prop where
 fits:∀c∈l,c.fits
 small:(⟨0,0,0,l⟩:IF).small
abbrev chE:Pr:=Cp.ex fun l:List Hf=>fact (ChS l) (Ll l)
abbrev ET (c:Ba):List Pr:=[int c.AY,int c.kind,int c.number,int c.at_,int c.C6.CG,int c.C6.bits,int c.C6.CU,chE]
structure uU (es:List B7) (c:Ba):Prop where
 lo:0≤c.AY
 hi:c.AY<(es.length:Nat)
 kind:1≤c.kind∧c.kind≤12
def Ik (es:List B7) (l:List Ba):Prop:=∀c∈l,uU es c
theorem Ik.snoc {es:List B7} {l:List Ba} {c:Ba} (h:Ik es l) (hc:uU es c):Ik es (l++[c]):=by
 intro x hx
 rcases List.mem_append.1 hx with hx|hx
 · exact h x hx
 · simp at hx;subst hx;exact hc
theorem Ik.two {es:List B7} {l:List Ba} {c d:Ba} (h:Ik es l) (hc:uU es c) (hd:uU es d):Ik es (l++[c,d]):=by
 intro x hx
 rcases List.mem_append.1 hx with hx|hx
 · exact h x hx
 · simp at hx;rcases hx with rfl|rfl;exact hc;exact hd
theorem Ik.perm {es:List B7} {l m:List Ba} (hp:m.Perm l) (h:Ik es l):Ik es m:=fun c hc=>h c (hp.mem_iff.1 hc)
theorem Ik.take {es:List B7} {l:List Ba} {n:Nat} (h:Ik es l):Ik es (l.take n):=fun c hc=>h c (List.mem_of_mem_take hc)
theorem uV:ChS []:=⟨(fun c h=>by cases h),⟨by show 0≤_;omega,(fun c hc=>by cases hc)⟩⟩
theorem NX:Pr.le (is (.slice none 0 0)) chE:=Ax [] (BB uV (AQ 15))
theorem uW {nm:List UInt8} (h:nm∈F1) {a b id key:Int}:Pr.le (yc nm a b id 901 key) chE:=by
 rintro M w v ⟨s,hs,hv⟩
 have hf:=ADL (a:=a) (b:=b) (id:=id) (key:=key) (s:=s) h
 exact ⟨_,⟨hf.1,⟨hf.2.chain,hf.2.names⟩⟩,hv⟩
theorem nZ {nm:List UInt8} {a b id to key:Int}:(wo nm a b id to key).le (agg [int a,int b,int id,yc nm a b id to key]):=by
 rintro M w v ⟨s,hs,hv⟩
 exact BU (ps:=FG (H8 nm a b id to key s)) (qs:=[int a,int b,int id,yc nm a b id to key]) ⟨Pr.le_refl _,Pr.le_refl _,Pr.le_refl _,fun M w v h=>⟨s,hs,h⟩,trivial⟩ M w v hv
theorem ng (c:Ba) (M:Av) (w:World) (ad:Addr) (n:Nat) (h:Row M w ad n (ET c)):∃b:Ba,(b.AY=c.AY∧b.kind=c.kind∧b.number=c.number∧b.at_=c.at_∧ChS b.C6.chain)∧Row M w ad n (Ew b):=by
 obtain ⟨ch,h1⟩:=uT (ps:=[int c.AY,int c.kind,int c.number,int c.at_,int c.C6.CG,int c.C6.bits,int c.C6.CU]) h
 obtain ⟨h2,h3⟩:=iG (ps:=[int c.AY,int c.kind,int c.number,int c.at_,int c.C6.CG,int c.C6.bits,int c.C6.CU]) h1
 exact ⟨⟨c.AY,c.kind,c.number,c.at_,⟨c.C6.CG,c.C6.bits,c.C6.CU,ch⟩⟩,⟨rfl,rfl,rfl,rfl,h2⟩,h3⟩
structure ADS (es:List B7) (l:List Ba):Prop where
 len:l.length≤7
 any:∀c∈l,AGw es c
theorem Vz {es:List B7} {ms:List Ba} (h:Ik es ms) (hl:ms.length≤7):Pr.le (slice 8 (ms.map ET)) (Cp.ex fun l:List Ba=>fact (ADS es l) (slice 8 (l.map Ew))):=by
 intro M w v hv
 obtain ⟨l,⟨h1,h2⟩,h3⟩:=Zz ng (fun _=>rfl) (fun _=>rfl) ms M w v hv
 refine ⟨l,⟨by omega,fun c hc=> ?_⟩,h3⟩
 obtain ⟨i,hi⟩:=List.getElem?_of_mem hc
 obtain ⟨a,ha⟩:=at_ (l:=ms) (k:=i) (by have:=BM hi;omega)
 obtain ⟨g1,g2,g3,g4,g5⟩:=h2 i a c ha hi
 have hm:=h a (List.mem_of_getElem? ha)
 exact ⟨by rw [g1];exact hm.lo,by rw [g1];exact hm.hi,by rw [g2];exact hm.kind,g5.fits,⟨g5.small.chain,g5.small.names⟩⟩
theorem uX {b:Nat} {s:DS} {e:Dn} (hs:nF e.Bu) (hl:1≤e.Bu.length∧e.Bu.length≤3):BS prog 48 [ptr b 0,agg (CM e)] (Cp.ex fun l:List Ba=>fact (ADS e.Bu l) (slice 8 (l.map Ew))) (Dh b s) (fun _=>JE 104 b):=by
 refine BS.of func48 rfl rfl Az fun M0 w0 S rs M1 w1=> ?_
 refine Tr.seq (Tr.Al (co rfl (Bh rfl (Va rfl)) (cm rfl (Ch.nil (Fin.go (Tr.seq (Tr.Al (cm rfl (Ch.nil (Fin.go (Tr.seq (Tr.Ap (tm rfl ?_)))))))))))))
 refine TO.GK 0 rfl rfl AB (Aj rfl rfl AB rfl (Cf AA AA) ⟨ke rfl,ke rfl,trivial⟩) (tp rfl (ki rfl rfl rfl rfl) (tm rfl (TO.GK 0 rfl rfl AB (Aj rfl rfl AB rfl (Cf AA AA) ⟨ke rfl,ke rfl,trivial⟩) (tp rfl (ki rfl rfl rfl rfl) (tm rfl (TO.GK 0 rfl rfl AB (Aj rfl rfl AB rfl (Cf AA AA) ⟨ke rfl,ke rfl,trivial⟩) (tp rfl (ki rfl rfl rfl rfl) (tm rfl (tm rfl (tm rfl (TO.nil (Fin.go (wk6 0 3 5 6 7 8 rfl (Tr.seq ?_))))))))))))))
 refine Tr.seq (Tr.Al (co rfl (N_ rfl Gv rfl rfl) (co rfl (F5 rfl ND rfl) (co rfl (CJ rfl underlying27 (vl rfl)) (cm rfl (Ch.nil (Fin.go (Tr.block (Tr.GO 86 8 (Tr.Fw [(0,_),(6,_),(7,_),(8,_),(23,_),(24,_)] ⟨ke rfl,ke rfl,ke rfl,ke rfl,ke rfl,ke rfl,trivial⟩ (fun (k:Nat) (ms:List Ba) (s2:DS) v=>[(25,int ((k:Nat):Int)),(5,Aa v (lens (ms.map ET).length))]) (fun (k:Nat) (ms:List Ba) (s2:DS) v=>Hp M0 w0 S (BG 86 8 (ms.map ET) v::Dh b s2::Ak M1 w1::rs)) (fun (k:Nat) (ms:List Ba) (s2:DS)=>k≤e.Bu.length∧ms.length≤6*k∧Ik e.Bu ms) (fun (k:Nat) (ms:List Ba) (s2:DS)=>e.Bu.length-k) (0) ([]) (_) (.slice none 0 0) (⟨Nat.zero_le _,by simp,fun c hc=>by simp at hc⟩) ⟨ke rfl,⟨_,rfl,Gh (by rfl)⟩,trivial⟩ (fun _ _ h=>h) ?_))))))))))
 rintro k ms s2 v ⟨hk1,AHr,T8⟩
 refine Tr.seq (Tr.Al (co rfl (ki rfl rfl rfl rfl) (Ch.nil (Fin.go (Tr.seq ?_)))))
 refine Tr.cn rfl ?_ ?_<;>intro h1 q1
 have Ai:k<e.Bu.length:=by have:=DH.Dp h1;omega
 obtain ⟨x,Ah⟩:=at_ Ai
 have hse:=hs k x Ah
 have hnm:=List.mem_of_getElem? hse.name
 refine Tr.skip (Fin.go (Tr.seq (Tr.block (Tr.seq (Tr.Ap (tm rfl (tp rfl (AD rfl underlying27 Bw (vl rfl) (vl rfl) AA (AZ Ah)) (tp rfl (AM rfl CD Bw (vl rfl) rfl rfl) ?_))))))))
 refine Tl rfl rfl rfl rfl z40 Hh (fun b1=> ?_)
 refine tm rfl (TO.AK 0 rfl rfl rfl (vl rfl) (Va rfl) rfl Bw rfl rfl (TO.freeze 0 10 rfl rfl (TO.nil (Fin.go (VH 0 5 6 7 8 9 10 23 24 25 rfl (Tr.Pz [(0,_),(6,_),(7,_),(8,_),(9,_),(10,_),(23,_),(24,_),(25,_)] ⟨ke rfl,ke rfl,ke rfl,ke rfl,ke rfl,ke rfl,ke rfl,ke rfl,ke rfl,trivial⟩ (fun (m1:List Ba) (s3:DS) v1=>[(5,Aa v1 (lens (m1.map ET).length))]) (fun (m1:List Ba) (s3:DS) v1=>Hp M0 w0 S (BG 86 8 (m1.map ET) v1::Dh b s3::Ak M1 w1::rs)) (fun (m1:List Ba) (s3:DS)=>m1.length≤6*k+1∧Ik e.Bu m1) ?_ ?_))))))
 refine Tr.seq (Tr.Al (cm rfl (cm rfl ?_)))
 refine Ch.cs 31 rfl ?_ ?_<;>intro h2 q2
 refine cy h2 rfl (N_ rfl OG rfl rfl) (cy h2 rfl (F5 rfl KF rfl) (cy h2 rfl (AV rfl (eA) ⟨ke rfl,ke rfl,trivial⟩) (cy h2 rfl (Fp rfl (vl rfl)) (co rfl (Nt rfl rfl h2 rfl) (Ch.nil (Fin.go (Jr 0 5 6 7 8 9 10 23 24 25 36 rfl ?_)))))))
 refine Tr.cn rfl ?_ ?_<;>intro h3 q3
 have Ww:=s2.DM (n:=2) AA
 refine Tr.Ap (tm rfl (tm rfl (tm rfl (TO.GK 1 rfl rfl AB (Aj rfl rfl AB rfl (Cf AA AA) ⟨ke rfl,ke rfl,trivial⟩) (tp rfl (An (rows:=[(0,[_]),(1,[_]),(2,[_]),(3,[_])]) rfl gM LU ⟨⟨rfl,(Vo rfl)⟩,⟨⟨rfl,(Vo rfl)⟩,⟨⟨rfl,(Vo rfl)⟩,⟨⟨rfl,(Vo rfl)⟩,trivial⟩⟩⟩⟩ rfl) (tp rfl (AP (xs:=[.tmp 41]) (rows:=[ET ⟨((k:Nat):Int),1,12,s2.val 2,⟨0,0,0,[]⟩⟩]) rfl rfl underlying32 Dr Py rfl AB ⟨⟨Ao,VL.le (vl rfl) (Pr.le_trans (BU (qs:=ET _) ⟨Lr,Lr,Lr,Lr,Lr,Lr,Lr,NX,trivial⟩) (Af _))⟩,trivial⟩ AB) ?_))))))
 refine TO.Dl 0 rfl rfl AB (FW rfl rfl AB rfl underlying32 Dr ZS Py rfl AB AB (vl rfl) (Kf rfl) (A7 fun _=>rfl) (Nat.zero_lt_succ _) Nz N0) (fun v1=> ?_)
 refine tm rfl (TO.nil ?_)
 exact Fin.Bk (ms++[⟨((k:Nat):Int),1,12,s2.val 2,⟨0,0,0,[]⟩⟩]) (_) v1 (⟨by simp;omega,T8.snoc ⟨by show 0≤((k:Nat):Int);omega,by show ((k:Nat):Int)<_;omega,by dsimp only;omega⟩⟩) ⟨⟨_,rfl,C5 AU⟩,ke rfl,ke rfl,ke rfl,ke rfl,ke rfl,ke rfl,ke rfl,ke rfl,ke rfl,trivial⟩ (fun _ _ h=>Mj)
 refine Tr.skip (Fin.Bk (ms) (_) v (⟨by omega,T8⟩) ⟨⟨_,rfl,C5 AU⟩,ke rfl,ke rfl,ke rfl,ke rfl,ke rfl,ke rfl,ke rfl,ke rfl,ke rfl,trivial⟩ (fun _ _ h=>h))
 iterate 4 refine cnt h2 rfl ?_
 refine co rfl (KE rfl rfl h2 rfl) (Ch.nil (Fin.go (Jr 0 5 6 7 8 9 10 23 24 25 36 rfl (Tr.cond rfl (fun h=>nomatch h) (fun _=> ?_)))))
 refine Tr.skip (Fin.Bk (ms) (_) v (⟨by omega,T8⟩) ⟨⟨_,rfl,C5 AU⟩,ke rfl,ke rfl,ke rfl,ke rfl,ke rfl,ke rfl,ke rfl,ke rfl,ke rfl,trivial⟩ (fun _ _ h=>h))
 rintro m1 s3 v1 ⟨AHs,nh⟩
 refine Tr.Pz [(0,_),(6,_),(7,_),(8,_),(9,_),(10,_),(23,_),(24,_),(25,_)] ⟨ke rfl,ke rfl,ke rfl,ke rfl,ke rfl,ke rfl,ke rfl,ke rfl,ke rfl,trivial⟩ (fun (m2:List Ba) (s4:DS) v2=>[(5,Aa v2 (lens (m2.map ET).length))]) (fun (m2:List Ba) (s4:DS) v2=>Hp M0 w0 S (BG 86 8 (m2.map ET) v2::Dh b s4::Ak M1 w1::rs)) (fun (m2:List Ba) (s4:DS)=>m2.length≤6*k+2∧Ik e.Bu m2) ?_ ?_
 refine Tr.seq (Tr.Al (cm rfl (cm rfl ?_)))
 refine Ch.cs 45 rfl ?_ ?_<;>intro h4 q4
 refine Jz h4 rfl (cy h4 rfl (ki rfl rfl rfl rfl) (co rfl (Nt rfl rfl h4 rfl) (Ch.nil (Fin.go (Jr 0 5 6 7 8 9 10 23 24 25 48 rfl ?_)))))
 refine Tr.cn rfl ?_ ?_<;>intro h5 q5
 refine Tr.Ap (tm rfl (tm rfl (tp rfl (An (rows:=[(0,[_]),(1,[_]),(2,[_])]) rfl gM LU ⟨⟨rfl,(Vo rfl)⟩,⟨⟨rfl,(Vo rfl)⟩,⟨⟨rfl,(Vo rfl)⟩,trivial⟩⟩⟩ rfl) (tp rfl (AP (xs:=[.tmp 51]) (rows:=[ET ⟨((k:Nat):Int),7,2,0,⟨0,0,0,[]⟩⟩]) rfl rfl underlying32 Dr Py rfl AB ⟨⟨Ao,VL.le (vl rfl) (Pr.le_trans (BU (qs:=ET _) ⟨Lr,Lr,Lr,Lr,Lr,Lr,Lr,NX,trivial⟩) (Af _))⟩,trivial⟩ AB) ?_))))
 refine TO.Dl 0 rfl rfl AB (FW rfl rfl AB rfl underlying32 Dr ZS Py rfl AB AB (vl rfl) (Kf rfl) (A7 fun _=>rfl) (Nat.zero_lt_succ _) Nz N0) (fun v2=> ?_)
 refine tm rfl (TO.nil ?_)
 exact Fin.Bk (m1++[⟨((k:Nat):Int),7,2,0,⟨0,0,0,[]⟩⟩]) (_) v2 (⟨by simp;omega,nh.snoc ⟨by show 0≤((k:Nat):Int);omega,by show ((k:Nat):Int)<_;omega,by dsimp only;omega⟩⟩) ⟨⟨_,rfl,C5 AU⟩,ke rfl,ke rfl,ke rfl,ke rfl,ke rfl,ke rfl,ke rfl,ke rfl,ke rfl,trivial⟩ (fun _ _ h=>Mj)
 refine Tr.skip (Fin.Bk (m1) (_) v1 (⟨by omega,nh⟩) ⟨⟨_,rfl,C5 AU⟩,ke rfl,ke rfl,ke rfl,ke rfl,ke rfl,ke rfl,ke rfl,ke rfl,ke rfl,trivial⟩ (fun _ _ h=>h))
 refine cnt h4 rfl (cnt h4 rfl (co rfl (KE rfl rfl h4 rfl) (Ch.nil (Fin.go (Jr 0 5 6 7 8 9 10 23 24 25 48 rfl (Tr.cond rfl (fun h=>nomatch h) (fun _=> ?_)))))))
 refine Tr.skip (Fin.Bk (m1) (_) v1 (⟨by omega,nh⟩) ⟨⟨_,rfl,C5 AU⟩,ke rfl,ke rfl,ke rfl,ke rfl,ke rfl,ke rfl,ke rfl,ke rfl,ke rfl,trivial⟩ (fun _ _ h=>h))
 rintro m2 s4 v2 ⟨AHt,nj⟩
 refine Tr.Pz [(0,_),(6,_),(7,_),(8,_),(9,_),(10,_),(23,_),(24,_),(25,_)] ⟨ke rfl,ke rfl,ke rfl,ke rfl,ke rfl,ke rfl,ke rfl,ke rfl,ke rfl,trivial⟩ (fun (m3:List Ba) (s5:DS) v3=>[(5,Aa v3 (lens (m3.map ET).length))]) (fun (m3:List Ba) (s5:DS) v3=>Hp M0 w0 S (BG 86 8 (m3.map ET) v3::Dh b s5::Ak M1 w1::rs)) (fun (m3:List Ba) (s5:DS)=>m3.length≤6*k+3∧Ik e.Bu m3) ?_ ?_
 refine Tr.seq (Tr.Al (cm rfl (cm rfl ?_)))
 refine Ch.cs 55 rfl ?_ ?_<;>intro h6 q6
 refine Jz h6 rfl (cy h6 rfl (ki rfl rfl rfl rfl) (co rfl (Nt rfl rfl h6 rfl) (Ch.nil (Fin.go (Jr 0 5 6 7 8 9 10 23 24 25 58 rfl ?_)))))
 refine Tr.cn rfl ?_ ?_<;>intro h7 q7
 have hof:=s4.RD (l:=[2,1]) AU
 simp at hof
 refine Tr.pad (Tr.GI mixed [none,none,none,none,none,none,none,some (0,2,true,0),none,none,none,none,none,none,some (0,1,true,73),some (73,1,true,5)] BV (xm rfl (xm rfl (xo rfl (fun _=>N_ rfl lV rfl rfl) (xo rfl (fun _=>F5 rfl PM rfl) (xo rfl (fun _=>AV rfl (AGu) trivial) (xm rfl (xo rfl (fun _=>AP (xs:=[.const (.int .i64 (2)),.const (.int .i64 (1))]) (rows:=[[_],[_]]) rfl rfl underlying22 Bs z3 rfl AB ⟨⟨Ao,(Vo rfl)⟩,⟨⟨Ao,(Vo rfl)⟩,trivial⟩⟩ AB) ?_))))))))
 refine Cx.ef 2 rfl rfl AB (Aj rfl rfl AB rfl (XV (l:=[2,1]) AU AU) ⟨ke rfl,(Kf rfl),trivial⟩) ?_
 refine xo rfl (fun _=>AV rfl (Zl (name:=x.name) (a:=7) (b:=256) (id:=201) (to:=901) (key:=s4.of [2,1]) (ADJ hnm (.inr ⟨rfl,rfl⟩) AA AA AA) (ADK (.inr ⟨rfl,rfl⟩) AA) AA) ⟨ke rfl,ke rfl,ke rfl,ke rfl,ke rfl,trivial⟩) ?_
 refine xo rfl (fun _=>N_ rfl RF rfl rfl) (xo rfl (fun _=>F5 rfl wJ rfl) (xo rfl (fun _=>CJ rfl underlying38 (vl rfl)) (xo rfl (fun _=>An (rows:=[(0,[_]),(1,[_]),(4,_),(3,[_])]) rfl gM LU ⟨⟨rfl,(Vo rfl)⟩,⟨⟨rfl,(Vo rfl)⟩,⟨⟨rfl,⟨_,rfl,Pr.le_trans (nZ) (Af _)⟩⟩,⟨⟨rfl,(Vo rfl)⟩,trivial⟩⟩⟩⟩ rfl) (xo rfl (fun _=>AP (xs:=[.tmp 71]) (rows:=[ET ⟨((k:Nat):Int),5,0,((x.ids.length:Nat):Int),⟨7,256,201,[]⟩⟩]) rfl rfl underlying32 Dr Py rfl AB ⟨⟨Ao,VL.le (vl rfl) (Pr.le_trans (BU (qs:=ET _) ⟨Lr,Lr,Lr,Lr,Lr,Lr,Lr,uW hnm,trivial⟩) (Af _))⟩,trivial⟩ AB) ?_))))
 refine Cx.ef 1 rfl rfl AB (FW rfl rfl AB rfl underlying32 Dr ZS Py rfl AB AB (vl rfl) (Kf rfl) (A7 fun _=>rfl) (Nat.zero_lt_succ _) Nz N0) ?_
 refine Cx.ef 1 rfl rfl AB (VD rfl rfl AB rfl (vl rfl)) ?_
 refine Cx.nil ⟨rfl,?_⟩
 refine BI.open_ 1 5 rfl rfl (fun v3=> ?_)
 refine BI.done (At.cons (At.cons (At.cons (At.cons (At.map _))))) (Fin.drop 0 ?_)
 exact Fin.Bk (m2++[⟨((k:Nat):Int),5,0,((x.ids.length:Nat):Int),⟨7,256,201,[]⟩⟩]) (_) v3 (⟨by simp;omega,nj.snoc ⟨by show 0≤((k:Nat):Int);omega,by show ((k:Nat):Int)<_;omega,by dsimp only;omega⟩⟩) ⟨⟨_,rfl,C5 AU⟩,ke rfl,ke rfl,ke rfl,ke rfl,ke rfl,ke rfl,ke rfl,ke rfl,ke rfl,trivial⟩ (fun _ _ h=>Mj)
 refine Tr.skip (Fin.Bk (m2) (_) v2 (⟨by omega,nj⟩) ⟨⟨_,rfl,C5 AU⟩,ke rfl,ke rfl,ke rfl,ke rfl,ke rfl,ke rfl,ke rfl,ke rfl,ke rfl,trivial⟩ (fun _ _ h=>h))
 refine cnt h6 rfl (cnt h6 rfl (co rfl (KE rfl rfl h6 rfl) (Ch.nil (Fin.go (Jr 0 5 6 7 8 9 10 23 24 25 58 rfl (Tr.cond rfl (fun h=>nomatch h) (fun _=> ?_)))))))
 refine Tr.skip (Fin.Bk (m2) (_) v2 (⟨by omega,nj⟩) ⟨⟨_,rfl,C5 AU⟩,ke rfl,ke rfl,ke rfl,ke rfl,ke rfl,ke rfl,ke rfl,ke rfl,ke rfl,trivial⟩ (fun _ _ h=>h))
 rintro m3 s5 v3 ⟨AHu,eI⟩
 refine Tr.Pz [(0,_),(6,_),(7,_),(8,_),(9,_),(10,_),(23,_),(24,_),(25,_)] ⟨ke rfl,ke rfl,ke rfl,ke rfl,ke rfl,ke rfl,ke rfl,ke rfl,ke rfl,trivial⟩ (fun (m4:List Ba) (s6:DS) v4=>[(5,Aa v4 (lens (m4.map ET).length))]) (fun (m4:List Ba) (s6:DS) v4=>Hp M0 w0 S (BG 86 8 (m4.map ET) v4::Dh b s6::Ak M1 w1::rs)) (fun (m4:List Ba) (s6:DS)=>m4.length≤6*k+4∧Ik e.Bu m4) ?_ ?_
 refine Tr.seq (Tr.Ap (tm rfl (tm rfl ?_)))
 refine TO.cases 75 rfl (fun h8=> ?_) (fun h8=> ?_)
 have q8:=DH.Dp h8
 refine TO.HP rfl rfl rfl h8 rfl AB (N_ rfl OG rfl rfl) (TO.HP rfl rfl rfl h8 rfl AB (F5 rfl KF rfl) (TO.HP rfl rfl rfl h8 rfl AB (AV rfl (eA) ⟨ke rfl,ke rfl,trivial⟩) (tp rfl (Nt rfl rfl h8 rfl) (tm rfl ?_))))
 refine TO.cases 80 rfl (fun h9=> ?_) (fun h9=> ?_)
 have q9:=DH.Dp h9
 refine TO.HP rfl rfl rfl h9 rfl AB (BQ rfl (vl rfl)) (TO.Zc 1 rfl rfl rfl h9 rfl rfl AB (Aj rfl rfl AB rfl (Cf AA AA) ⟨ke rfl,ke rfl,trivial⟩) (TO.HP rfl rfl rfl h9 rfl AB (ki rfl rfl rfl rfl) (tp rfl (Nt rfl rfl h9 rfl) (TO.nil (Fin.go (Jr 0 5 6 7 8 9 10 23 24 25 84 rfl ?_))))))
 refine Tr.cn rfl ?_ ?_<;>intro h10 Sx
 refine Tr.Ap (tm rfl (tm rfl (tp rfl (An (rows:=[(0,[_]),(1,[_]),(2,[_])]) rfl gM LU ⟨⟨rfl,(Vo rfl)⟩,⟨⟨rfl,(Vo rfl)⟩,⟨⟨rfl,(Vo rfl)⟩,trivial⟩⟩⟩ rfl) (tp rfl (AP (xs:=[.tmp 87]) (rows:=[ET ⟨((k:Nat):Int),2,2,0,⟨0,0,0,[]⟩⟩]) rfl rfl underlying32 Dr Py rfl AB ⟨⟨Ao,VL.le (vl rfl) (Pr.le_trans (BU (qs:=ET _) ⟨Lr,Lr,Lr,Lr,Lr,Lr,Lr,NX,trivial⟩) (Af _))⟩,trivial⟩ AB) ?_))))
 refine TO.Dl 0 rfl rfl AB (FW rfl rfl AB rfl underlying32 Dr ZS Py rfl AB AB (vl rfl) (Kf rfl) (A7 fun _=>rfl) (Nat.zero_lt_succ _) Nz N0) (fun v4=> ?_)
 refine tm rfl (TO.nil ?_)
 exact Fin.Bk (m3++[⟨((k:Nat):Int),2,2,0,⟨0,0,0,[]⟩⟩]) (_) v4 (⟨by simp;omega,eI.snoc ⟨by show 0≤((k:Nat):Int);omega,by show ((k:Nat):Int)<_;omega,by dsimp only;omega⟩⟩) ⟨⟨_,rfl,C5 AU⟩,ke rfl,ke rfl,ke rfl,ke rfl,ke rfl,ke rfl,ke rfl,ke rfl,ke rfl,trivial⟩ (fun _ _ h=>Mj)
 refine Tr.skip (Fin.Bk (m3) (_) v3 (⟨by omega,eI⟩) ⟨⟨_,rfl,C5 AU⟩,ke rfl,ke rfl,ke rfl,ke rfl,ke rfl,ke rfl,ke rfl,ke rfl,ke rfl,trivial⟩ (fun _ _ h=>h))
 have q9:=DH.Dp h9
 refine TO.Rc rfl rfl rfl (Bg h9) rfl AB (TO.Rc rfl rfl rfl (Bg h9) rfl AB (TO.Rc rfl rfl rfl (Bg h9) rfl AB (tp rfl (KE rfl rfl h9 rfl) (TO.nil (Fin.go (Jr 0 5 6 7 8 9 10 23 24 25 84 rfl (Tr.cond rfl (fun h=>nomatch h) (fun _=> ?_))))))))
 refine Tr.skip (Fin.Bk (m3) (_) v3 (⟨by omega,eI⟩) ⟨⟨_,rfl,C5 AU⟩,ke rfl,ke rfl,ke rfl,ke rfl,ke rfl,ke rfl,ke rfl,ke rfl,ke rfl,trivial⟩ (fun _ _ h=>h))
 have q8:=DH.Dp h8
 refine TO.Rc rfl rfl rfl (Bg h8) rfl AB (TO.Rc rfl rfl rfl (Bg h8) rfl AB (TO.Rc rfl rfl rfl (Bg h8) rfl AB (tp rfl (KE rfl rfl h8 rfl) (tm rfl (TO.Rc rfl rfl rfl (Bg rfl) rfl AB (TO.Rc rfl rfl rfl (Bg rfl) rfl AB (TO.Rc rfl rfl rfl (Bg rfl) rfl AB (tp rfl (KE rfl rfl rfl rfl) (TO.nil (Fin.go (Jr 0 5 6 7 8 9 10 23 24 25 84 rfl (Tr.cond rfl (fun h=>nomatch h) (fun _=> ?_)))))))))))))
 refine Tr.skip (Fin.Bk (m3) (_) v3 (⟨by omega,eI⟩) ⟨⟨_,rfl,C5 AU⟩,ke rfl,ke rfl,ke rfl,ke rfl,ke rfl,ke rfl,ke rfl,ke rfl,ke rfl,trivial⟩ (fun _ _ h=>h))
 rintro m4 s6 v4 ⟨AHv,nk⟩
 refine Tr.seq (Tr.Al (cm rfl (cm rfl ?_)))
 refine Ch.cs 91 rfl ?_ ?_<;>intro h11 Ty
 refine cy h11 rfl (N_ rfl ZN rfl rfl) (cy h11 rfl (F5 rfl Cs rfl) (cy h11 rfl (ki rfl rfl rfl rfl) (co rfl (Nt rfl rfl h11 rfl) (Ch.nil (Fin.go (VH 0 5 6 7 8 9 23 24 25 95 rfl ?_))))))
 refine Tr.cn rfl ?_ ?_<;>intro h12 XY
 refine Tr.Ap (tm rfl (tm rfl (tp rfl (An (rows:=[(0,[_]),(1,[_]),(2,[_])]) rfl gM LU ⟨⟨rfl,(Vo rfl)⟩,⟨⟨rfl,(Vo rfl)⟩,⟨⟨rfl,(Vo rfl)⟩,trivial⟩⟩⟩ rfl) (tm rfl (tp rfl (An (rows:=[(0,[_]),(1,[_]),(2,[_])]) rfl gM LU ⟨⟨rfl,(Vo rfl)⟩,⟨⟨rfl,(Vo rfl)⟩,⟨⟨rfl,(Vo rfl)⟩,trivial⟩⟩⟩ rfl) (tp rfl (AP (xs:=[.tmp 98,.tmp 100]) (rows:=[ET ⟨((k:Nat):Int),3,4,0,⟨0,0,0,[]⟩⟩,ET ⟨((k:Nat):Int),1,14,0,⟨0,0,0,[]⟩⟩]) rfl rfl underlying32 Dr Py rfl AB ⟨⟨Ao,VL.le (vl rfl) (Pr.le_trans (BU (qs:=ET _) ⟨Lr,Lr,Lr,Lr,Lr,Lr,Lr,NX,trivial⟩) (Af _))⟩,⟨⟨Ao,VL.le (vl rfl) (Pr.le_trans (BU (qs:=ET _) ⟨Lr,Lr,Lr,Lr,Lr,Lr,Lr,NX,trivial⟩) (Af _))⟩,trivial⟩⟩ AB) ?_))))))
 refine TO.Dl 0 rfl rfl AB (FW rfl rfl AB rfl underlying32 Dr ZS Py rfl AB AB (vl rfl) (Kf rfl) (A7 fun _=>rfl) (Nat.zero_lt_succ _) Nz N0) (fun v5=> ?_)
 refine tm rfl (TO.nil (Fin.block (Fin.go (wk8 0 5 6 7 8 23 24 25 rfl (Tr.Al (Mz rfl rfl rfl rfl AA (cm rfl (Ch.nil ?_))))))))
 exact Fin.ER (k+1) (m4++[⟨((k:Nat):Int),3,4,0,⟨0,0,0,[]⟩⟩,⟨((k:Nat):Int),1,14,0,⟨0,0,0,[]⟩⟩]) (_) v5 (⟨⟨by omega,by simp;omega,nk.two ⟨by show 0≤((k:Nat):Int);omega,by show ((k:Nat):Int)<_;omega,by dsimp only;omega⟩ ⟨by show 0≤((k:Nat):Int);omega,by show ((k:Nat):Int)<_;omega,by dsimp only;omega⟩⟩,by omega⟩) ⟨⟨_,rfl,AG k⟩,⟨_,rfl,C5 AU⟩,ke rfl,ke rfl,ke rfl,ke rfl,ke rfl,ke rfl,trivial⟩ (fun _ _ h=>Mj)
 refine Tr.skip (Fin.block (Fin.go (Tr.Al (Mz rfl rfl rfl rfl AA (cm rfl (Ch.nil (Fin.ER (k+1) (m4) (_) v4 (⟨⟨by omega,by omega,nk⟩,by omega⟩) ⟨⟨_,rfl,AG k⟩,⟨_,rfl,C5 AU⟩,ke rfl,ke rfl,ke rfl,ke rfl,ke rfl,ke rfl,trivial⟩ (fun _ _ h=>h))))))))
 refine cnt h11 rfl (cnt h11 rfl (cnt h11 rfl (co rfl (KE rfl rfl h11 rfl) (Ch.nil (Fin.go (VH 0 5 6 7 8 9 23 24 25 95 rfl (Tr.cond rfl (fun h=>nomatch h) (fun _=> ?_))))))))
 refine Tr.skip (Fin.block (Fin.go (Tr.Al (Mz rfl rfl rfl rfl AA (cm rfl (Ch.nil (Fin.ER (k+1) (m4) (_) v4 (⟨⟨by omega,by omega,nk⟩,by omega⟩) ⟨⟨_,rfl,AG k⟩,⟨_,rfl,C5 AU⟩,ke rfl,ke rfl,ke rfl,ke rfl,ke rfl,ke rfl,trivial⟩ (fun _ _ h=>h))))))))
 have:=h1
 refine Tr.exit (Fin.Ac (Fin.Ac (Fin.A0 (Fin.go (Tr.seq (Tr.block ?_))))))
 rcases Nat.eq_zero_or_pos ms.length with h0|h0
 refine Tr.BE [(0,_)] ⟨ke rfl,trivial⟩ (fun _=>[(5,Aa v (lens (ms.map ET).length))]) (fun _=>True) (fun _=>0) () (trivial) ⟨ke rfl,trivial⟩ ?_
 rintro _ _
 refine Tr.seq (Tr.seq (Tr.Al (cm rfl (co rfl (XQ rfl underlying32 (Kb rfl)) (co rfl (ki rfl rfl rfl rfl) (Ch.nil (Fin.go ?_)))))))
 refine Tr.cn rfl ?_ ?_<;>intro J0 dY
 exfalso;have h_:=DH.Dp J0;rw [List.length_map] at h_;omega
 have:=J0
 refine Tr.exit (Fin.Ac (Fin.Ac (Fin.A0 (Fin.go (Tr.seq (Tr.seq ?_))))))
 have hv4:=s2.DM (n:=4) AA
 refine Tr.Ap (tm rfl (TO.GK 1 rfl rfl AB (Aj rfl rfl AB rfl (Cf AA AA) ⟨ke rfl,ke rfl,trivial⟩) (tm rfl (TO.nil (Fin.go (Tr.block (Tr.Cy [(0,_)] ⟨ke rfl,trivial⟩ (fun (q:Int) (s9:DS)=>[(11,int q),(5,Aa v (lens (ms.map ET).length))]) (fun (q:Int) (s9:DS)=>Hp M0 w0 S (BG 86 8 (ms.map ET) v::Dh b s9::Ak M1 w1::rs)) (fun (q:Int) (s9:DS)=>True) (fun (q:Int) (s9:DS)=>q.toNat) (_) (_)  (trivial) ⟨ke rfl,ke rfl,trivial⟩ (fun _ _ h=>h) ?_)))))))
 rintro q s9  _
 refine Tr.seq (Tr.seq (Tr.Al (cm rfl (co rfl (ki rfl rfl rfl rfl) (cm rfl ?_)))))
 refine Ch.cs 116 rfl ?_ ?_<;>intro J1 nB
 refine Jz J1 rfl (cy J1 rfl (XQ rfl underlying32 (Kb rfl)) (cy J1 rfl (ki rfl rfl rfl rfl) (co rfl (Nt rfl rfl J1 rfl) (Ch.nil (Fin.go ?_)))))
 refine Tr.cn rfl ?_ ?_<;>intro OB q15
 exfalso;have h_:=DH.Dp OB;rw [List.length_map] at h_;omega
 have:=OB
 refine Tr.exit (Fin.Ac (Fin.Ac (Fin.A0 (Fin.go (Tr.seq (Tr.tX 0 5 rfl rfl (A7 fun _=>rfl) (Tr.Al (cm rfl (cm rfl (Ch.nil (Fin.go (Tr.ret (Fin.HK 1 _ rfl rfl (Fin.Gl [_] rfl (AL.tmp rfl (Lr)) ?_ (fun _ _ _ _=>rfl)))))))))))))))
 · exact Pr.le_trans (As _ _) (Vz T8 AA)
 refine cnt J1 rfl (cnt J1 rfl (cnt J1 rfl (co rfl (KE rfl rfl J1 rfl) (Ch.nil (Fin.go (Tr.cond rfl (fun h=>nomatch h) (fun _=> ?_)))))))
 refine Tr.exit (Fin.Ac (Fin.Ac (Fin.A0 (Fin.go (Tr.seq (Tr.tX 0 5 rfl rfl (A7 fun _=>rfl) (Tr.Al (cm rfl (cm rfl (Ch.nil (Fin.go (Tr.ret (Fin.HK 1 _ rfl rfl (Fin.Gl [_] rfl (AL.tmp rfl (Lr)) ?_ (fun _ _ _ _=>rfl)))))))))))))))
 · exact Pr.le_trans (As _ _) (Vz T8 AA)
 refine Tr.ACC (sz:=8) 0 rfl (by intro h_;simp at h_;rw [h_] at h0;simp at h0) fun b9 ADT sp9 hv9 hg9 hm9 hs9=> ?_
 subst hv9
 rw [List.length_map] at hg9 hs9
 refine Tr.M8 [(0,_)] ⟨ke rfl,trivial⟩ (fun (m:Nat)=>[(5,is (.slice (some ⟨b9,0,none⟩) m ADT))]) (fun (m:Nat)=>Hp M0 w0 S (AF true b9 86 ((ms.map ET).flatten++sp9.map is)::Dh b s2::Ak M1 w1::rs)) (fun (m:Nat)=>1≤m∧m≤ms.length) (fun (m:Nat)=>m) (ms.length)  (⟨h0,Nat.le_refl _⟩) ⟨⟨_,rfl,Pr.le_trans (EC _ _) (Pr.le_of_eq (by rw [List.length_map]))⟩,trivial⟩ (fun _ _ h=>h) ?_
 rintro m  ⟨hm1,hm2⟩
 refine Tr.seq (Tr.seq (Tr.Al (cm rfl (co rfl (K_ rfl underlying32 (vl rfl)) (co rfl (ki rfl rfl rfl rfl) (Ch.nil (Fin.go ?_)))))))
 refine Tr.cn rfl ?_ ?_<;>intro h16 q16
 have hm7:7<m:=by have:=DH.Dp h16;omega
 refine Tr.skip (Fin.go (Tr.block (Tr.Al (cm rfl (cm rfl (co rfl (K_ rfl underlying32 (vl rfl)) (csu rfl rfl rfl rfl AA (co rfl (Oz rfl underlying32 Dr (vl rfl) (vl rfl) AA AA AA AA) (cm rfl (Ch.nil (Fin.block ?_)))))))))))
 exact Fin.M9 (m-1)  (⟨⟨by omega,by omega⟩,by omega⟩) ⟨⟨_,rfl,Pr.le_of_eq (by congr 2;omega)⟩,ke rfl,trivial⟩ (fun _ _ h=>h)
 have hm7:m≤7:=by have:=DH.Dp h16;omega
 refine Tr.exit (Fin.Ac (Fin.Ac (Fin.A0 (Fin.go (Tr.seq (Tr.seq ?_))))))
 have hv4:=s2.DM (n:=4) AA
 refine Tr.Ap (tm rfl (TO.GK 1 rfl rfl AB (Aj rfl rfl AB rfl (Cf AA AA) ⟨ke rfl,ke rfl,trivial⟩) (tm rfl (TO.nil (Fin.go (Tr.block (Tr.NA [(0,_)] ⟨ke rfl,trivial⟩ (fun (q:Int) (ns:List Ba) (s9:DS)=>[(11,int q),(5,is (.slice (some ⟨b9,0,none⟩) m ADT))]) (fun (q:Int) (ns:List Ba) (s9:DS)=>Hp M0 w0 S (AF true b9 86 ((ns.map ET).flatten++sp9.map is)::Dh b s9::Ak M1 w1::rs)) (fun (q:Int) (ns:List Ba) (s9:DS)=>(ns.length=ms.length∧q≤3)∧Ik e.Bu ns) (fun (q:Int) (ns:List Ba) (s9:DS)=>q.toNat) (_) (ms) (_)  (⟨⟨rfl,by omega⟩,T8⟩) ⟨ke rfl,ke rfl,trivial⟩ (fun _ _ h=>h) ?_)))))))
 rintro q ns s9  ⟨⟨hn1,hn3⟩,hn2⟩
 refine Tr.seq (Tr.seq (Tr.Al (cm rfl (co rfl (ki rfl rfl rfl rfl) (cm rfl ?_)))))
 refine Ch.cs 116 rfl ?_ ?_<;>intro Jg m8
 refine Jz Jg rfl (cy Jg rfl (K_ rfl underlying32 (vl rfl)) (cy Jg rfl (ki rfl rfl rfl rfl) (co rfl (Nt rfl rfl Jg rfl) (Ch.nil (Fin.go ?_)))))
 refine Tr.cn rfl ?_ ?_<;>intro NB q18
 have hq1:=DH.Dp NB
 refine Tr.skip (Fin.go (Tr.seq (Tr.block (Tr.seq ?_))))
 have hvm:=s9.DM (n:=((m:Nat):Int)-1) AA
 refine Tr.Ap (tm rfl (tm rfl (tp rfl (K_ rfl underlying32 (vl rfl)) ?_)))
 refine tp rfl (ZB rfl (vl rfl) (vl rfl) ?hin) ?_;case hin=>unfold Mn;omega
 refine TO.GK 1 rfl rfl AB (Aj rfl rfl AB rfl (Cf AA AA) ⟨ke rfl,ke rfl,trivial⟩) (tm rfl (TO.nil (Fin.go (Tj 0 5 11 12 rfl (Tr.GI mixed [none,none,none,none,none,none,none,none,none,some (0,0,false,0),none,none,none,some (0,0,false,0),none,some (0,0,true,0),none,some (0,0,true,0)] BV ?_)))))
 iterate 4 refine xm rfl ?_
 refine xo rfl (fun _=>EO rfl (vl rfl) (vl rfl) ?hin) ?_;case hin=>unfold Mn;omega
 refine xm rfl (xm rfl ?_)
 refine xo rfl (fun _=>EO rfl (vl rfl) (vl rfl) ?hin) ?_;case hin=>unfold Mn;omega
 refine xo rfl (fun _=>BL rfl underlying32 Dr (vl rfl) (vl rfl) AA AA) (IZ 0 rfl rfl (B4 rfl Hw Dr (vl rfl) (Tv (f:=ET) (fun _=>rfl) AA) rfl) (xm rfl (xm rfl (xo rfl (fun _=>BL rfl underlying32 Dr (vl rfl) (vl rfl) AA AA) (IZ 0 rfl rfl (B4 rfl Hw Dr (vl rfl) (Tv (f:=ET) (fun _=>rfl) AA) rfl) (xo rfl (fun _=>BL rfl underlying32 Dr (vl rfl) (vl rfl) AA AA) ?_))))))
 refine Cx.DG 0 rfl rfl (Aw rfl rfl (vl rfl) (Va rfl) Dr rfl (by rw [Kw (sz:=8) (fun _=>rfl)];omega) (GP (f:=ET) (fun _=>rfl) AA)) ?_
 refine xo rfl (fun _=>BL rfl underlying32 Dr (vl rfl) (vl rfl) AA AA) ?_
 refine Cx.DG 0 rfl rfl (Aw rfl rfl (vl rfl) (Va rfl) Dr rfl (by rw [Kw (sz:=8) (fun _=>rfl)];simp only [List.length_set];omega) (GP (f:=ET) (fun _=>rfl) (by simp only [List.length_set];omega))) ?_
 refine Cx.nil ⟨rfl,?_⟩
 refine BI.done (At.cons (At.cons (At.cons (At.map _)))) (Fin.block (Fin.go (Gk 0 5 11 rfl (Tr.Al (cm rfl (csu rfl rfl rfl rfl AA (cm rfl (Ch.nil (Fin.FK (q-1) (_) (_)  (⟨⟨⟨(RV AA AA).length_eq.trans hn1,by omega⟩,Ik.perm (RV AA AA) hn2⟩,by omega⟩) ⟨⟨_,rfl,int_eq AA⟩,ke rfl,ke rfl,trivial⟩ (fun _ _ h=>h))))))))))
 have:=NB
 refine Tr.exit (Fin.Ac (Fin.Ac (Fin.A0 (Fin.go (Tr.seq (Tr.eqC 0 (((ns.take m).map ET).flatten++(((ns.drop m).map ET).flatten++sp9.map is)) rfl bS ?_))))))
 have hnt:(ns.take m).length=m:=by rw [List.length_take];omega
 refine Tr.ZW (sz:=8) ((ns.take m).map ET) 0 5 rfl rfl (Pr.le_of_eq (by rw [List.length_map,hnt])) (A7 fun _=>rfl) C1 hm9 kQ ?_
 refine Tr.Al (cm rfl (cm rfl (Ch.nil (Fin.go (Tr.ret (Fin.HK 1 _ rfl rfl (Fin.Gl [_] rfl (AL.tmp rfl (Lr)) ?_ (fun _ _ _ _=>rfl))))))))
 · exact Pr.le_trans (As _ _) (Vz hn2.take AA)
 refine cnt Jg rfl (cnt Jg rfl (cnt Jg rfl (co rfl (KE rfl rfl Jg rfl) (Ch.nil (Fin.go (Tr.cond rfl (fun h=>nomatch h) (fun _=> ?_)))))))
 refine Tr.exit (Fin.Ac (Fin.Ac (Fin.A0 (Fin.go (Tr.seq (Tr.eqC 0 (((ns.take m).map ET).flatten++(((ns.drop m).map ET).flatten++sp9.map is)) rfl bS ?_))))))
 have hnt:(ns.take m).length=m:=by rw [List.length_take];omega
 refine Tr.ZW (sz:=8) ((ns.take m).map ET) 0 5 rfl rfl (Pr.le_of_eq (by rw [List.length_map,hnt])) (A7 fun _=>rfl) C1 hm9 kQ ?_
 refine Tr.Al (cm rfl (cm rfl (Ch.nil (Fin.go (Tr.ret (Fin.HK 1 _ rfl rfl (Fin.Gl [_] rfl (AL.tmp rfl (Lr)) ?_ (fun _ _ _ _=>rfl))))))))
 · exact Pr.le_trans (As _ _) (Vz hn2.take AA)
structure S_ (n:Int) (k:Nat) (l:List Int):Prop where
 at_:∀j,j<l.length→setAt n l j=true
 lt:∀x∈l,x<(k:Int)
 len:l.length≤k
theorem S_.nil (n:Int) (k:Nat):S_ n k []:=⟨fun j hj=>by simp at hj,fun x hx=>by simp at hx,by simp⟩
theorem S_.step {n:Int} {k:Nat} {l:List Int} (h:S_ n k l):S_ n (k+1) l:=⟨h.at_,fun x hx=>by have:=h.lt x hx;omega,by have:=h.len;omega⟩
theorem S_.snoc {n:Int} {k:Nat} {l:List Int} (h:S_ n k l) (hk:(k:Int)<n):S_ n (k+1) (l++[(k:Int)]):=by
 refine ⟨fun j hj=> ?_,fun x hx=> ?_,by have:=h.len;simp;omega⟩
 ·
  rw [List.length_append] at hj;simp at hj
  rcases Nat.lt_or_ge j l.length with hl|hl
  ·
   have:=h.at_ j hl
   unfold setAt at this ⊢
   rw [List.getElem?_append_left hl,List.getElem?_append_left (show j-1<l.length by omega)];exact this
  ·
   have:j=l.length:=by omega
   subst this
   unfold setAt
   rw [List.getElem?_append_right (Nat.le_refl _),Nat.sub_self]
   rcases Nat.eq_zero_or_pos l.length with hz|hz
   ·
    obtain rfl:=List.eq_nil_of_length_eq_zero hz
    simp;omega
   ·
    obtain ⟨y,hy⟩:=Cp.at_ (l:=l) (k:=l.length-1) AA
    rw [List.getElem?_append_left (show l.length-1<l.length by omega),hy]
    have:=h.lt y (List.mem_of_getElem? hy)
    simp;omega
 ·
  rcases List.mem_append.1 hx with hx|hx
  · have:=h.lt x hx;omega
  · simp at hx;subst hx;omega
theorem S_.set {n:Int} {k:Nat} {l:List Int} (h:S_ n k l):Dc n l=true:=B_.2 h.at_
structure JO where
 lo:Int
 hi:Int
 Ag:List Int
structure BW where
 B6:List JO
 JP:List Int
 room:List Int
def yw (w:JO):List Pr:=[int w.lo,int w.hi,ints w.Ag]
abbrev ADU (l:List JO):Pr:=slice 3 (l.map yw)
def MM (c:BW):Pr:=agg [ADU c.B6,ints c.JP,ints c.room]
instance ADV (l:List Int):One (ints l):=gD _ _
def EJ (day:Int) (w:JO):Bool:=decide (w.lo≤day)&&decide (day<w.hi)
def BW.has (c:BW) (n:Int):Bool:=decide (0≤n)&&decide (n<c.room.length)
def BW.at (c:BW) (day:Int):Int:=idx (EJ day) c.B6
def LF (n:Int):Bool:=decide (n<0)||decide (n>24)
def MN (w:JO):Bool:=decide (w.lo<0)||decide (w.lo≥w.hi)||decide (w.hi>40001)
def V0 (l:List Int):Prop:=∀(j:Nat) a b,l[j]? =some a→l[j+1]? =some b→a<b
def Z0 (l:List JO):Prop:=∀(j:Nat) a b,l[j]? =some a→l[j+1]? =some b→a.hi≤b.lo
open Classical in
noncomputable def BW.check (c:BW) (iH:Int):Int:=
 if 32<c.B6.length∨8<c.room.length then 3
 else if c.room.any LF then 2
 else if c.B6.any MN then 47
 else if ¬(Z0 c.B6∧∀w∈c.B6,V0 w.Ag) then 6
 else if c.B6.any (fun w=>w.Ag.any fun n=> !c.has n) then 2
 else if (c.JP.length:Int)≠iH∨c.JP.any (fun n=> !c.has n) then 1
 else 0
noncomputable def BW.own (c:BW):Int:=c.check c.JP.length
theorem T9 {β:Type} (p:β→Bool) (l:List β): -1≤idx p l∧idx p l<l.length:=by
 unfold idx
 cases h:l.findIdx? p with
 |none=>simp;omega
 |some i=>
  rw [List.findIdx?_eq_some_iff_getElem] at h
  obtain ⟨h1,_⟩:=h
  simp;omega
theorem uY {β:Type} {p:β→Bool} {l:List β} (h:0≤idx p l):∃x,l[(idx p l).toNat]? =some x∧p x=true:=by
 unfold idx at*
 cases h':l.findIdx? p with
 |none=>rw [h'] at h;simp at h
 |some i=>
  rw [List.findIdx?_eq_some_iff_getElem] at h'
  obtain ⟨h1,h2,_⟩:=h'
  exact ⟨l[i],by simp,h2⟩
def BW.T_ (c:BW) (day:Int):Option JO:=c.B6.find? (EJ day)
theorem Rn {β:Type} (p:β→Bool) (l:List β):l.find? p=if 0≤idx p l then l[(idx p l).toNat]? else none:=by
 unfold idx
 cases h:l.findIdx? p with
 |none=>
  rw [List.findIdx?_eq_none_iff] at h
  rw [if_neg AU,List.find?_eq_none]
  intro x hx;simpa using h x hx
 |some i=>
  rw [List.findIdx?_eq_some_iff_getElem] at h
  obtain ⟨h1,h2,h3⟩:=h
  simp only [Int.natCast_nonneg,if_true,Int.toNat_natCast]
  rw [List.getElem?_eq_getElem h1,List.find?_eq_some_iff_getElem]
  exact ⟨h2,i,h1,rfl,fun j hj=>by simpa using h3 j hj⟩
def BW.may (c:BW) (n day:Int):Bool:=match c.T_ day with|some w=>w.Ag.any (fun x=>n==x)|none=>false
theorem iI {l:List JO} {k:Nat} {x:JO} (hx:l[k]? =some x) (hp:∀y,0<k→l[k-1]? =some y→y.hi≤x.lo) (h:∀(j:Nat) a b,j+1<k→l[j]? =some a→l[j+1]? =some b→a.hi≤b.lo):
  ∀(j:Nat) a b,j+1<k+1→l[j]? =some a→l[j+1]? =some b→a.hi≤b.lo:=by
 intro j a b hj ha hb
 by_cases hjk:j+1=k
 · exact Up
 · exact h j a b AA ha hb
theorem iJ {l:List Int} {k:Nat} {x:Int} (hx:l[k]? =some x) (hp:∀y,0<k→l[k-1]? =some y→y<x) (h:∀(j:Nat) a b,j+1<k→l[j]? =some a→l[j+1]? =some b→a<b):
  ∀(j:Nat) a b,j+1<k+1→l[j]? =some a→l[j+1]? =some b→a<b:=by
 intro j a b hj ha hb
 by_cases hjk:j+1=k
 · exact Up
 · exact h j a b AA ha hb
theorem uZ {l:List JO} {k:Nat} {x:JO} (hx:l[k]? =some x) (hp:∀(j:Nat) a b,j+1<x.Ag.length→x.Ag[j]? =some a→x.Ag[j+1]? =some b→a<b) (h:∀(j:Nat) a,j<k→l[j]? =some a→V0 a.Ag):
  ∀(j:Nat) a,j<k+1→l[j]? =some a→V0 a.Ag:=by
 intro j a hj ha
 by_cases hjk:j=k
 ·
  subst hjk;rw [hx] at ha;cases ha
  intro i u v hu hv
  exact hp i u v (by rcases Nat.lt_or_ge (i+1) x.Ag.length with h|h;exact h;rw [List.getElem?_eq_none h] at hv;cases hv) hu hv
 · exact h j a AA ha
theorem QK {l:List JO} (h:(∀(j:Nat) a b,j+1<l.length→l[j]? =some a→l[j+1]? =some b→a.hi≤b.lo)∧∀(j:Nat) a,j<l.length→l[j]? =some a→V0 a.Ag):Z0 l∧∀w∈l,V0 w.Ag:=by
 refine ⟨fun j a b ha hb=>h.1 j a b (by rcases Nat.lt_or_ge (j+1) l.length with h|h;exact h;rw [List.getElem?_eq_none h] at hb;cases hb) ha hb,fun w hw=> ?_⟩
 obtain ⟨j,hj,rfl⟩:=List.mem_iff_getElem.1 hw
 exact h.2 j _ hj (List.getElem?_eq_getElem hj)
theorem nq {l:List JO} {k:Nat} {x y:JO} (hk:0<k) (hx:l[k]? =some x) (hy:l[k-1]? =some y) (h:x.lo<y.hi):¬(Z0 l∧∀w∈l,V0 w.Ag):=by
 rintro ⟨h1,_⟩
 have:=h1 (k-1) y x hy (by rw [show k-1+1=k by omega];exact hx)
 omega
theorem nr {l:List JO} {k i:Nat} {x:JO} {t u:Int} (hx:l[k]? =some x) (hi:0<i) (ht:x.Ag[i]? =some t) (hu:x.Ag[i-1]? =some u) (h:t≤u):¬(Z0 l∧∀w∈l,V0 w.Ag):=by
 rintro ⟨_,h2⟩
 have:=h2 x (List.mem_of_getElem? hx) (i-1) u t hu (by rw [show i-1+1=i by omega];exact ht)
 omega
def EK (n d:Int) (room:Nat→Bool):Nat→List JO→Option Int
 |_,[]=>none
 |i,w::r=>if d<w.hi∧w.Ag.any (fun x=>n==x)∧room i then some (max d w.lo) else EK n d room (i+1) r
def BW.next (c:BW) (n day:Int) (room:Nat→Bool):Option Int:=EK n (max day 0) room 0 c.B6
theorem eJ {β:Type} {l:List β} {k:Nat} {x:β} (h:l[k]? =some x):l.drop k=x::l.drop (k+1):=by
 have hk:k<l.length:=by rcases Nat.lt_or_ge k l.length with h'|h';exact h';rw [List.getElem?_eq_none h'] at h;cases h
 rw [List.drop_eq_getElem_cons hk]
 rw [List.getElem?_eq_getElem hk] at h
 simp at h;rw [h]
theorem nu {n d:Int} {room:Nat→Bool} {l:List JO} {k:Nat} {x:JO} (h:l[k]? =some x) (h1:d<x.hi) (h2:x.Ag.any (fun y=>n==y)=true) (h3:room k=true):EK n d room k (l.drop k)=some (max d x.lo):=by
 rw [eJ h,EK,if_pos ⟨h1,h2,h3⟩]
theorem iK {n d:Int} {room:Nat→Bool} {l:List JO} {k:Nat} {x:JO} (h:l[k]? =some x) (h':¬(d<x.hi∧x.Ag.any (fun y=>n==y)=true∧room k=true)):EK n d room k (l.drop k)=EK n d room (k+1) (l.drop (k+1)):=by
 rw [eJ h,EK,if_neg h']
noncomputable def BW.EV (c:BW) (Ag days others:List Int):Int:=
 if c.own≠0 then c.own else if Ag.length≠days.length then 1 else if 24<Ag.length then 3
 else if (Ag++others).any (fun n=> !c.has n) then 2 else if (Ag.zip days).all (fun p=>c.may p.1 p.2) then 0 else 47
def BW.cell (c:BW) (p:Int×Int):Nat:=(c.at p.2).toNat*8+p.1.toNat
def BW.cnt (c:BW) (l:List (Int×Int)) (k:Nat):Nat:=l.countP fun p=>c.cell p==k
def BW.ADW (c:BW) (l:List (Int×Int)):List Int:=(List.range 256).map fun k=>(c.cnt l k:Int)
def ADX (c:BW) (l:List (Int×Int)):List Pr:=(c.ADW l).map fun z=>int z
theorem yx (c:BW) (l:List (Int×Int)) (k:Nat):c.cnt l k≤l.length:=List.countP_le_length
theorem Xm {a b:List Int} {k:Nat} {x y:Int} (hx:a[k]? =some x) (hy:b[k]? =some y):(a.zip b).take (k+1)=(a.zip b).take k++[(x,y)]:=by
 have hz:(a.zip b)[k]? =some (x,y):=by rw [List.getElem?_zip_eq_some];exact ⟨hx,hy⟩
 rw [List.take_add_one,hz];rfl
theorem nv {c:BW} {n d:Int} (h:c.may n d=true):0≤c.at d:=by
 have h2:=Rn (EJ d) c.B6
 unfold BW.may BW.T_ at h
 unfold BW.at
 rcases Int.lt_or_le (idx (EJ d) c.B6) 0 with h3|h3
 ·
  rw [if_neg AA] at h2
  rw [h2] at h;cases h
 · exact h3
theorem Ro {c:BW} (h:c.own=0):c.B6.length≤32∧c.room.length≤8:=by
 unfold BW.own BW.check at h
 split at h
 · omega
 · omega
theorem nw {c:BW} {n:Int} (h:c.own=0) (hn:c.has n=true):0≤n∧n<8:=by
 have:=(Ro h).2
 unfold BW.has at hn
 simp at hn
 omega
theorem yy {c:BW} {a b:List Int} {k:Nat} {n d:Int} (hx:a[k]? =some n) (hd:b[k]? =some d) (h:(!c.may n d)=true):¬(a.zip b).all (fun p=>c.may p.1 p.2)=true:=by
 intro h2
 rw [List.all_eq_true] at h2
 have hz:(a.zip b)[k]? =some (n,d):=by rw [List.getElem?_zip_eq_some];exact ⟨hx,hd⟩
 have:=h2 _ (List.mem_of_getElem? hz)
 simp [this] at h
theorem uc {c:BW} {a b:List Int} (h:((a.zip b).take a.length).all (fun p=>c.may p.1 p.2)=true) (hl:a.length=b.length):(a.zip b).all (fun p=>c.may p.1 p.2)=true:=by
 rwa [List.take_of_length_le CF] at h
theorem yz {c:BW} {l:List Int} {n:Int} (h:l.any (fun n=> !c.has n)=false) (hn:n∈l):c.has n=true:=by
 rw [List.any_eq_false] at h
 simpa using h n hn
def BW.over (c:BW) (l:List (Int×Int)):Prop:=∃(i n:Nat) (r:Int),i<c.B6.length∧c.room[n]? =some r∧r<(c.cnt l (i*8+n):Int)
open Classical in
noncomputable def BW.Di (c:BW) (Ag days others:List Int):Int:=
 if c.EV Ag days others≠0 then c.EV Ag days others else if c.over (Ag.zip days) then 48 else 0
noncomputable def w4 (c:BW) (Ag days others:List Int):Pr:=if c.Di Ag days others=0 then ref (ADX c (Ag.zip days)) else is (.pointer none)
noncomputable instance AA_ (c:BW) (Ag days others:List Int):One (w4 c Ag days others):=by
 unfold w4;split
 · exact cX _
 · exact cW _
theorem Gq {c:BW} {Ag days others:List Int} (h:c.EV Ag days others=0):c.own=0:=by
 unfold BW.EV at h
 by_cases h':c.own=0
 · exact h'
 · rw [if_pos h'] at h;exact absurd h h'
theorem Xn {c:BW} {Ag days others:List Int} (h:c.EV Ag days others=0):∀n∈Ag++others,c.has n=true:=by
 have ho:=Gq h
 unfold BW.EV at h
 rw [if_neg (not_not_intro ho)] at h
 split at h
 · cases h
 ·
  split at h
  · cases h
  ·
   split at h
   · cases h
   ·
    rename_i h1
    intro n hn
    exact yz I5 hn
theorem HT {c:BW} {Ag days others:List Int} (h:c.Di Ag days others=0):c.EV Ag days others=0:=by
 unfold BW.Di at h
 by_cases h':c.EV Ag days others=0
 · exact h'
 · rw [if_pos h'] at h;exact absurd h h'
theorem Z1 {c:BW} {l:List (Int×Int)} {i:Nat} (h0:∀i' n r,i'<i→c.room[n]? =some r→(c.cnt l (i'*8+n):Int)≤r) (h1:∀n r,n<c.room.length→c.room[n]? =some r→(c.cnt l (i*8+n):Int)≤r):∀i' n r,i'<i+1→c.room[n]? =some r→(c.cnt l (i'*8+n):Int)≤r:=by
 intro i' n r hi hr
 by_cases hii:i'=i
 ·
  subst hii
  refine h1 n r ?_ hr
  rcases Nat.lt_or_ge n c.room.length with h|h
  · exact h
  · rw [List.getElem?_eq_none h] at hr;cases hr
 · exact h0 i' n r AA hr
theorem Z2 {c:BW} {l:List (Int×Int)} {i m:Nat} {r:Int} (h0:∀n r,n<m→c.room[n]? =some r→(c.cnt l (i*8+n):Int)≤r) (hx:c.room[m]? =some r) (hle:(c.cnt l (i*8+m):Int)≤r):∀n r,n<m+1→c.room[n]? =some r→(c.cnt l (i*8+n):Int)≤r:=by
 intro n r' hn hr
 by_cases hnm:n=m
 · subst hnm;rw [hx] at hr;cases hr;exact hle
 · exact h0 n r' AA hr
def BW.MO (c:BW) (n:Int):Int:=(c.room[n.toNat]?).getD 0
theorem Rp {c:BW} {n:Int} (h:c.has n=true):0≤n∧c.room[n.toNat]? =some (c.MO n):=by
 unfold BW.has at h
 simp at h
 refine ⟨h.1,?_⟩
 have:n.toNat<c.room.length:=by omega
 unfold BW.MO
 rw [List.getElem?_eq_getElem this];rfl
def BW.free (c:BW) (l:List (Int×Int)) (n:Int) (i:Nat):Bool:=decide ((c.cnt l (i*8+n.toNat):Int)<c.MO n)
noncomputable def BW.early (c:BW) (Ag days:List Int) (n from_:Int):Option Int:=if c.Di Ag days [n]=0 then c.next n from_ (c.free (Ag.zip days) n) else none
theorem MP {c:BW} {n:Int} (h:c.check n=0):(c.B6.length≤32∧c.room.length≤8)∧c.room.any LF=false∧c.B6.any MN=false∧Z0 c.B6∧(∀w∈c.B6,V0 w.Ag)∧c.B6.any (fun w=>w.Ag.any fun n=> !c.has n)=false:=by
 unfold BW.check at h
 split at h
 · cases h
 ·
  split at h
  · cases h
  ·
   split at h
   · cases h
   ·
    split at h
    · cases h
    ·
     split at h
     · cases h
     ·
      rename_i h1 h2 h3 h4 h5
      rw [Classical.not_not] at h4
      exact ⟨by omega,by simpa using h2,by simpa using h3,h4.1,h4.2,by simpa using h5⟩
theorem Il {c:BW} (h:c.own=0):Z0 c.B6∧∀w∈c.B6,0≤w.lo∧w.lo<w.hi:=by
 obtain ⟨_,_,h3,h4,_⟩:=MP h
 refine ⟨h4,fun w hw=> ?_⟩
 rw [List.any_eq_false] at h3
 have:=h3 w hw
 simp [MN] at this
 omega
abbrev UA (l:List JO):Prop:=l.Pairwise fun a b=>a.hi≤b.lo
theorem Im:∀{l:List JO},Z0 l→(∀w∈l,0≤w.lo∧w.lo<w.hi)→UA l
 |[],_,_=>List.Pairwise.nil
 |[a],_,_=>by simp [UA]
 |a::b::l,h,hw=>by
  have ih:UA (b::l):=Im (fun j x y hx hy=>h (j+1) x y Fh (by simpa using hy)) (fun w hm=>hw w (List.mem_cons_of_mem _ hm))
  refine List.Pairwise.cons (fun w hm=> ?_) ih
  have h0:=h 0 a b rfl rfl
  rcases List.mem_cons.1 hm with rfl|hm
  · exact h0
  ·
   have h1:=(List.pairwise_cons.1 ih).1 w hm
   have:=hw b AU
   omega
theorem Rr {k:Int} {w:JO} (h:EJ k w=true):w.lo≤k∧k<w.hi:=by unfold EJ at h;simpa using h
theorem w5 {k:Int} {w:JO} (h:w.lo≤k∧k<w.hi):EJ k w=true:=by unfold EJ;simpa using h
theorem V1 {k:Int}:∀{l:List JO} {w:JO},UA l→w∈l→EJ k w=true→l.find? (EJ k)=some w
 |a::l,w,hp,hm,hin=>by
  rcases List.mem_cons.1 hm with rfl|hm
  · exact List.find?_cons_of_pos hin
  ·
   have h1:=(List.pairwise_cons.1 hp).1 w hm
   have h2:=Rr hin
   rw [List.find?_cons_of_neg (by intro h;have:=Rr h;omega)]
   exact V1 (List.pairwise_cons.1 hp).2 hm hin
theorem ud {c:BW} {t k:Int} (h:c.own=0):c.may t k=true↔∃w∈c.B6,EJ k w=true∧w.Ag.any (fun x=>t==x)=true:=by
 obtain ⟨h1,h2⟩:=Il h
 unfold BW.may BW.T_
 constructor
 ·
  intro hm
  cases hf:c.B6.find? (EJ k) with
  |none=>rw [hf] at hm;cases hm
  |some w=>rw [hf] at hm;exact ⟨w,List.mem_of_find?_eq_some hf,List.find?_some hf,hm⟩
 ·
  rintro ⟨w,hw,hin,ht⟩
  rw [V1 (Im h1 h2) hw hin];exact ht
end Go.Proofs.YtmocaapoeefgkaaGreatDoor
