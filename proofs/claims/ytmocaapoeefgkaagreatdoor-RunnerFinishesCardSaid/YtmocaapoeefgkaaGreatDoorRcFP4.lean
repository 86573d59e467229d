/-
  Part 4 of the texts that prove this claim, merged.
-/
import Derived.Test.YtmocaapoeefgkaaGreatDoorRcFP3
set_option linter.all false
set_option maxRecDepth 40000
set_option maxHeartbeats 16000000
namespace Go.Proofs.YtmocaapoeefgkaaGreatDoor
open Go Go.RowKit Cp Go.Proofs.Tryz
def Fo:List (List UInt8):=[[97,112,112],[100,98],[119,101,98]]
def PV:List (List Int):=[[10,8,2],[8,2],[2,10,8,3]]
def L3 (i:Int):List Int:=(PV[i.toNat]?).getD []
theorem tU {i:Int} (h:0≤i∧i<3):(PV.map fun l=>[ints l])[i.toNat]? =some [ints (L3 i)]:=by
 have hl:i.toNat<PV.length:=by show i.toNat<3;omega
 unfold L3
 rw [List.getElem?_map,List.getElem?_eq_getElem hl];rfl
theorem XD {i:Int} (h:0≤i∧i<3):L3 i∈PV:=by
 have hl:i.toNat<PV.length:=by show i.toNat<3;omega
 unfold L3
 rw [List.getElem?_eq_getElem hl];exact List.getElem_mem hl
structure ZN (i:Nat) (e:CA):Prop where
 name:Fo[i]? =some e.name
 least:e.least=1
 most:e.most=3∨e.most=4
 A0:e.A0∈PV∨∃l∈PV,e.A0=14::l
 ids:∃s:Int,(0≤s∧s<4294967296)∧e.ids=[Hg e.name 5 2048 (100+(i:Nat)) 901 1 s]
 anchors:e.anchors=[1]
 hashes:e.hashes=[2,3]
def mN (es:List CA):Prop:=∀(i:Nat) e,es[i]? =some e→ZN i e
theorem XE {es:List CA} {e:CA} (h:mN es) (he:ZN es.length e):mN (es++[e]):=by
 intro i x hx
 rcases Nat.lt_or_ge i es.length with hi|hi
 · rw [List.getElem?_append_left hi] at hx;exact h i x hx
 ·
  rcases Nat.eq_or_lt_of_le hi with hi|hi
  · subst hi;rw [List.getElem?_append_right (Nat.le_refl _),Nat.sub_self] at hx;simp at hx;subst hx;exact he
  · rw [List.getElem?_eq_none CE] at hx;cases hx
theorem VV {nm:List UInt8} {k:Nat} (h:Fo[k]? =some nm) {s:Int} (hs:0≤s∧s<4294967296) {key:Int} (hk:0≤key∧key≤2):EA (LX nm 5 2048 (100+(k:Nat)) 901 key s)=true:=by
 have hlt:k<3:=BN h
 have hn:named nm=true:=by
  have hm:=List.mem_of_getElem? h
  revert hm;unfold Fo;intro hm;simp at hm
  rcases hm with rfl|rfl|rfl<;>decide
 refine ck ⟨?_,?_,by show named [114,111,111,116]=true;decide,hn,?_,by show LO 5 2048 2=true;decide+kernel,?_,?_,by show LO 3 0 1=true;decide+kernel,hk.1,?_,hs.1,hs.2,by show (0:Int)≤0;omega,by show (0:Int)≤901;omega,by show (901:Int)≤40000;omega,by show (0:Int)≤0;omega,by show (0:Int)≤8;omega,.inr rfl⟩
 · show 0≤(100:Int)+(k:Nat);omega
 · show (100:Int)+(k:Nat)≤_;omega
 ·
  show G_ [nm]=true
  unfold G_;rw [Bool.and_eq_true];refine ⟨B7.2 fun j hj=> ?_,by simp⟩
  have:j=0:=by simp at hj;omega
  subst this;unfold nameAt;simp [hn]
 · show 0≤(100:Int)+(k:Nat);omega
 · show (100:Int)+(k:Nat)≤_;omega
 · show key≤_;omega
theorem Ti {nm:List UInt8} {k:Nat} (h:k<3):(LX nm 5 2048 (100+(k:Nat)) 901 0 0).ZL:=
 ⟨by show (100:Int)+(k:Nat)≤1099511627776;omega,by show (100:Int)+(k:Nat)≤2147483648;omega,⟨by show (0:Int)≤5;omega,by show (5:Int)≤40000;omega⟩,⟨by show (0:Int)≤2048;omega,by show (2048:Int)≤40000;omega⟩,⟨by show (0:Int)≤3;omega,by show (3:Int)≤40000;omega⟩,⟨by show (0:Int)≤0;omega,by show (0:Int)≤40000;omega⟩⟩
theorem mO {β:Type} {l:List β} {n k:Nat} {x:β} (h:(l.take n)[k]? =some x):l[k]? =some x:=by
 have hlt:=BN h
 rw [List.length_take] at hlt
 rw [List.getElem?_take,if_pos AA] at h;exact h
theorem mP (i:Int):(L3 i).length≤4:=by
 unfold L3
 cases h:PV[i.toNat]? with
 |none=>show 0≤4;omega
 |some l=>
  have hm:=List.mem_of_getElem? h
  show l.length≤4
  unfold PV at hm;simp at hm
  rcases hm with rfl|rfl|rfl<;>simp
theorem yH (s:DS):s.of [3,3,4]=3∨s.of [3,3,4]=4:=by have:=s.RB (l:=[3,3,4]) AV;simp at this;exact this
abbrev ACs:List (List Int):=PV++PV.map (14:: ·)
theorem KF {i:Nat} {e:CA} (h:ZN i e):e.A0∈ACs:=by
 rcases h.A0 with h|⟨l,h,h2⟩
 · exact List.mem_append_left _ h
 · rw [h2];exact List.mem_append_right _ (List.mem_map_of_mem h)
theorem VW:∀l∈ACs,Kz l=true∧l.length≤5:=by decide+kernel
theorem VX:∀n∈Fo,Qv n=true∧n.length≤3:=by decide+kernel
theorem tV:[2,3].all Rb=true:=by decide+kernel
theorem tW:LO 5 2048 2=true:=by decide+kernel
theorem mQ {nm:List UInt8} {k:Nat} {id:Int} (h:Fo[k]? =some nm) (hid:id=100+(k:Nat)) {s:Int} (hs:0≤s∧s<4294967296):idB (Hg nm 5 2048 id 901 1 s)=true:=by
 subst hid
 have hk:k<3:=BN h
 have hv:=VV h hs (key:=1) AA
 have hk2:H9 (100+(k:Nat))=true:=by unfold H9;simp;omega
 unfold idB VM;simp only [tW,hk2,List.all_cons,List.all_nil,hv];simp
theorem tX {i:Nat} {e:CA} (h:ZN i e):cW e:=by
 have hn:=VX _ (List.mem_of_getElem? h.name)
 have hs:=VW _ (KF h)
 obtain ⟨s,hs1,VI⟩:=h.ids
 have hm:=h.most;have hl:=h.least
 refine ⟨hn.1,by omega,by omega,by omega,hs.1,by rw [VI];simp,by rw [h.anchors];simp,by rw [h.anchors];decide,by rw [h.hashes];decide,?_,by rw [h.anchors];decide,by rw [h.hashes];exact tV⟩
 rw [VI];simp only [List.all_cons,List.all_nil,mQ h.name rfl hs1,Bool.and_self]
theorem Tj {i:Nat} {e:CA} (h:ZN i e):e.fits:=by
 have hn:=VX _ (List.mem_of_getElem? h.name)
 obtain ⟨s,hs1,VI⟩:=h.ids
 refine ⟨by unfold maxLen;omega,fun x hx c hc=> ?_⟩
 rw [VI] at hx;simp at hx;subst hx;simp at hc;subst hc
 exact ⟨by show 4≤maxLen;unfold maxLen;omega,by show e.name.length≤maxLen;unfold maxLen;omega,fun n hn2=>by simp at hn2;subst hn2;unfold maxLen;omega⟩
theorem Rh {i:Nat} {e:CA} (h:ZN i e):e.small:=by
 have hs:=VW _ (KF h)
 obtain ⟨s,hs1,VI⟩:=h.ids
 refine ⟨by omega,by rw [h.anchors];simp,by rw [h.hashes];simp,by rw [VI];simp,fun x hx=> ?_⟩
 rw [VI] at hx;simp at hx;subst hx
 exact ⟨by simp,fun c hc=>by simp at hc;subst hc;simp⟩
theorem mR:Bz.fits:=fun c hc=>by cases hc
theorem ACt {nm:List UInt8} (h:nm∈Fo) {a b id key s:Int} (hab:(a=5∧b=2048)∨(a=7∧b=256)) (hid:0≤id∧id≤1000) (hs:0≤s∧s<4294967296) (hk:0≤key∧key≤2):EA (LX nm a b id 901 key s)=true:=by
 have hn:named nm=true:=by
  revert h;unfold Fo;intro hm;simp at hm
  rcases hm with rfl|rfl|rfl<;>decide
 have hof:LO a b 2=true:=by rcases hab with ⟨rfl,rfl⟩|⟨rfl,rfl⟩<;>decide+kernel
 refine ck ⟨?_,?_,by show named [114,111,111,116]=true;decide,hn,?_,hof,?_,?_,by show LO 3 0 1=true;decide+kernel,hk.1,?_,hs.1,hs.2,by show (0:Int)≤0;omega,by show (0:Int)≤901;omega,by show (901:Int)≤40000;omega,by show (0:Int)≤0;omega,by show (0:Int)≤8;omega,.inr rfl⟩
 · show 0≤id;omega
 · show id≤_;omega
 ·
  show G_ [nm]=true
  unfold G_;rw [Bool.and_eq_true];refine ⟨B7.2 fun j hj=> ?_,by simp⟩
  have:j=0:=by simp at hj;omega
  subst this;unfold nameAt;simp [hn]
 · show 0≤id;omega
 · show id≤_;omega
 · show key≤_;omega
theorem ACu {nm:List UInt8} {a b id:Int} (hab:(a=5∧b=2048)∨(a=7∧b=256)) (hid:0≤id∧id≤1000):(LX nm a b id 901 0 0).ZL:=
 ⟨by show id≤1099511627776;omega,by show id≤2147483648;omega,⟨by show (0:Int)≤a;omega,by show a≤40000;omega⟩,⟨by show (0:Int)≤b;omega,by show b≤40000;omega⟩,⟨by show (0:Int)≤3;omega,by show (3:Int)≤40000;omega⟩,⟨by show (0:Int)≤0;omega,by show (0:Int)≤40000;omega⟩⟩
structure AGS (es:List CA) (c:Bb):Prop where
 lo:0≤c.AZ
 hi:c.AZ<(es.length:Nat)
 kind:1≤c.kind∧c.kind≤12
 fits:c.C1.fits
 small:c.C1.small
abbrev yI (nm:List UInt8) (a b id to key:Int):Pr:=Cp.ex fun s:Int=>fact (0≤s∧s<4294967296) (LW [LX nm a b id to key s])
theorem ACv {nm:List UInt8} (h:nm∈Fo) {a b id key s:Int}:(Hg nm a b id 901 key s).fits∧(Hg nm a b id 901 key s).small:=by
 have hn:=(VX _ h).2
 refine ⟨fun c hc=> ?_,⟨by simp,fun c hc=>by simp at hc;subst hc;simp⟩⟩
 simp at hc;subst hc
 exact ⟨by show 4≤maxLen;unfold maxLen;omega,by show nm.length≤maxLen;unfold maxLen;omega,fun n hn2=>by simp at hn2;subst hn2;unfold maxLen;omega⟩
structure XF where
 CF:Int
 bits:Int
 day:Int
 deriving DecidableEq
abbrev AGT (x:XF):List Pr:=[int x.CF,int x.bits,int x.day]
abbrev mS (l:List XF):Pr:=slice 3 (l.map AGT)
structure VY where
 name:List UInt8
 kind:Int
 Iz:Int
 links:List XF
 L4:Int
 deriving DecidableEq
abbrev cw (x:VY):List Pr:=[str x.name,int x.kind,int x.Iz,mS x.links,int x.L4]
abbrev Ri (l:List VY):Pr:=slice 5 (l.map cw)
structure Ia where
 client:Int
 server:Int
 deriving DecidableEq
abbrev yJ (x:Ia):List Pr:=[int x.client,int x.server]
abbrev IM (l:List Ia):Pr:=slice 2 (l.map yJ)
abbrev FN:XF:=⟨0,0,0⟩
abbrev Gi:Ia:=⟨0,0⟩
def Gw (l:List XF) (i:Nat):Bool:=decide (Dr (l[i]?.getD FN).CF (l[i]?.getD FN).bits>0)&&decide (0≤(l[i]?.getD FN).day)&&decide ((l[i]?.getD FN).day≤40000)&&(decide (i=0)||decide ((l[i-1]?.getD FN).day<(l[i]?.getD FN).day))
def Ox (x:VY):Bool:=(named x.name&&decide (x.kind=1∨x.kind=2)&&decide (1≤x.Iz)&&decide (x.Iz≤4)&&decide (1≤x.links.length)&&decide (x.links.length≤8))&&allI (Gw x.links) x.links.length&&(decide ((x.links[0]?.getD FN).day≤x.L4)&&decide (x.L4≤40000))
structure ACw (x:VY):Prop where
 name:named x.name=true
 kind:x.kind=1∨x.kind=2
 p1:1≤x.Iz
 p4:x.Iz≤4
 l1:1≤x.links.length
 l8:x.links.length≤8
 lnk:∀j,j<x.links.length→Gw x.links j=true
 u0:(x.links[0]?.getD FN).day≤x.L4
 u1:x.L4≤40000
theorem Gv {x:VY}:Ox x=true↔ACw x:=by
 unfold Ox
 simp only [Bool.and_eq_true,decide_eq_true_eq,B7]
 exact ⟨fun ⟨⟨⟨⟨⟨⟨⟨h1,h2⟩,h3⟩,h4⟩,h5⟩,h6⟩,h7⟩,h8,h9⟩=>⟨h1,h2,h3,h4,h5,h6,h7,h8,h9⟩,fun h=>⟨⟨⟨⟨⟨⟨⟨h.name,h.kind⟩,h.p1⟩,h.p4⟩,h.l1⟩,h.l8⟩,h.lnk⟩,h.u0,h.u1⟩⟩
def Ek (n:Nat) (l:List Ia) (i:Nat):Bool:=(decide (0≤(l[i]?.getD Gi).client∧(l[i]?.getD Gi).client<n)&&decide (0≤(l[i]?.getD Gi).server∧(l[i]?.getD Gi).server<n)&&decide ((l[i]?.getD Gi).client≠(l[i]?.getD Gi).server))&&(decide (i=0)||decide ((l[i-1]?.getD Gi).client<(l[i]?.getD Gi).client∨((l[i-1]?.getD Gi).client=(l[i]?.getD Gi).client∧(l[i-1]?.getD Gi).server<(l[i]?.getD Gi).server)))
def VZ (n:Nat) (l:List Ia):Bool:=allI (Ek n l) l.length&&decide (l.length≤40)
theorem ZO {x:VY}  :BC prog 149 [agg (cw x)] (int (if Ox x then 0 else 30)):=by
 refine fo func149 rfl ⟨rfl,rfl⟩ fun M0 w0=> ?_
 refine ac ?_
 refine wk [1] rfl (Tr.Q2 [1] [] ((named x.name=true∧(x.kind=1∨x.kind=2)∧1≤x.Iz∧x.Iz≤4)∧1≤x.links.length∧x.links.length≤8∧(x.links[0]?.getD FN).day≤x.L4∧x.L4≤40000) ?_ (fun hpre=> ?_))
 refine ac ?_
 refine co rfl (Ct (Gp) rfl rfl) ?_
 refine ag ?_ ?_<;>intro h2 q2
 refine ac ?_
 refine wk [54,1] rfl ?_
 refine a2 ?_
 · refine int_eq (if_neg (fun hv=> ?_)).symm;have ok:=Gv.1 hv;have o1:=ok.name;have o2:=ok.kind;have o3:=ok.p1;have o4:=ok.p4;have o5:=ok.l1;have o6:=ok.l8;have o7:=ok.u0;have o8:=ok.u1;(simp_all)
 refine ag ?_ ?_<;>intro h3 q3
 refine ag ?_ ?_<;>intro h4 q4
 refine ac ?_
 refine wk [54,1] rfl ?_
 refine a2 ?_
 · exact Jn
 refine ag ?_ ?_<;>intro h5 q5
 refine ac ?_
 refine wk [54,1] rfl ?_
 refine a2 ?_
 · exact Jn
 refine ag ?_ ?_<;>intro h6 q6
 refine ac ?_
 refine wk [54,1] rfl ?_
 refine a2 ?_
 · exact Jn
 refine ag ?_ ?_<;>intro h7 q7
 refine ac ?_
 refine wk [54,1] rfl ?_
 refine a2 ?_
 · exact Jn
 refine ag ?_ ?_<;>intro h8 q8
 refine ac ?_
 refine wk [54,1] rfl ?_
 refine a2 ?_
 · exact Jn
 refine ag ?_ ?_<;>intro h9 q9
 refine ac ?_
 refine wk [54,1] rfl ?_
 refine a2 ?_
 · exact Jn
 obtain ⟨c0,hc0⟩:=at_ (l:=x.links) (k:=0) AA
 have hg0:=getD_at (d:=FN) hc0
 refine ac ?_
 refine cy h9 rfl (AD rfl underlying133 J2 vq vq AA (Aa (k:=0) hc0)) ?_
 refine ac ?_
 refine wk [54,1] rfl ?_
 refine Tr.cn rfl ?_ ?_<;>intro h10 Re
 refine a2 ?_
 · exact jj
 refine Tr.skip ?_
 exact Fin.AL () ⟨⟨by simp_all,by omega,by omega,by omega⟩,by omega,by omega,by rw [hg0];omega,by omega⟩ kz
 refine ag ?_ ?_<;>intro h11 Sw
 refine ac ?_
 refine wk [54,1] rfl ?_
 refine a2 ?_
 · exact Jn
 refine ag ?_ ?_<;>intro h12 WE
 refine ac ?_
 refine wk [54,1] rfl ?_
 refine a2 ?_
 · exact Jn
 refine ag ?_ ?_<;>intro Nf cZ
 refine ac ?_
 refine wk [54,1] rfl ?_
 refine a2 ?_
 · exact Jn
 refine ag ?_ ?_<;>intro Ng q14
 refine ac ?_
 refine wk [54,1] rfl ?_
 refine a2 ?_
 · exact Jn
 refine ag ?_ ?_<;>intro Wh q15
 refine ac ?_
 refine wk [54,1] rfl ?_
 refine a2 ?_
 · exact Jn
 obtain ⟨c0,hc0⟩:=at_ (l:=x.links) (k:=0) AA
 have hg0:=getD_at (d:=FN) hc0
 refine ac ?_
 refine cy Wh rfl (AD rfl underlying133 J2 vq vq AA (Aa (k:=0) hc0)) ?_
 refine ac ?_
 refine wk [54,1] rfl ?_
 refine Tr.cn rfl ?_ ?_<;>intro h16 q16
 refine a2 ?_
 · exact jj
 refine Tr.skip ?_
 exact Fin.AL () ⟨⟨by simp_all,by omega,by omega,by omega⟩,by omega,by omega,by rw [hg0];omega,by omega⟩ kz
 obtain ⟨⟨hq1,fA,hq3,hq4⟩,hq5,hq6,hq7,hq8⟩:=hpre
 refine ac ?_
 refine Tr.block (Tr.BD _ (kk [1] rfl) (fun k:Nat=>[(3,int ((k:Nat):Int))]) (fun k:Nat=>k≤(x.links).length∧(∀j,j<k→Gw x.links j=true)) (fun k:Nat=>(x.links).length-k) 0 (⟨Nat.zero_le _,fun j hj=>absurd hj AA⟩) kz ?_)
 rintro k ⟨BR,AX⟩
 refine an ?_ ?_<;>intro PL q17
 have Ai:k<(x.links).length:=AH PL
 obtain ⟨c,Ah⟩:=at_ Ai
 have hg:=getD_at (d:=FN) Ah
 refine a2 ?_
 refine co rfl (AD rfl underlying133 J2 vq vq AA (Aa Ah)) ?_
 refine ac ?_
 refine co rfl (Ct (J_) rfl rfl) ?_
 refine ag ?_ ?_<;>intro Sb q18
 refine ac ?_
 refine wk [107,3,1] rfl ?_
 refine a2 ?_
 · exact Yc
 refine ac ?_
 refine cy Sb rfl (AD rfl underlying133 J2 vq vq AA (Aa Ah)) ?_
 refine ag ?_ ?_<;>intro h19 q19
 refine ac ?_
 refine wk [107,3,1] rfl ?_
 refine a2 ?_
 · exact Yc
 refine ac ?_
 refine cy h19 rfl (AD rfl underlying133 J2 vq vq AA (Aa Ah)) ?_
 refine ag ?_ ?_<;>intro Sd q20
 refine ac ?_
 refine wk [107,3,1] rfl ?_
 refine a2 ?_
 · exact Yc
 refine ag ?_ ?_<;>intro cR q21
 have hk0:0<k:=by simpa using cR
 obtain ⟨y,hy⟩:=at_ (l:=x.links) (k:=k-1) AA
 have WA:=getD_at (d:=FN) hy
 · repeat' first|(refine int_eq (if_neg (fun hv=> ?_)).symm;have ok:=Gv.1 hv;have o1:=ok.name;have o2:=ok.kind;have o3:=ok.p1;have o4:=ok.p4;have o5:=ok.l1;have o6:=ok.l8;have o7:=ok.u0;have o8:=ok.u1;(have h_:=ok.lnk k AA;unfold Gw at h_;rw [hg,WA] at h_;simp_all;omega))|(exact Fin.AL (k+1) ⟨⟨Ai,D9 AX (by unfold Gw;rw [hg,WA];simp_all)⟩,by omega⟩ ⟨⟨_,rfl,AG k⟩,kz⟩)|(refine cy cR rfl (AD rfl underlying133 J2 vq vq AA Li) ?_)|refine cy cR rfl (AD rfl underlying133 J2 vq vq AA (Aa Ah)) ?_|refine ac ?_|(refine Tr.cn rfl ?_ ?_<;>intro h q)
 have L2:¬0<k:=by simpa using cR
 refine ac ?_
 refine wk [107,3,1] rfl ?_
 refine a2 ?_
 exact Fin.AL (k+1) ⟨⟨Ai,D9 AX (by unfold Gw;rw [hg];simp_all)⟩,by omega⟩ ⟨⟨_,rfl,AG k⟩,kz⟩
 have BM:k=(x.links).length:=by have:=AJ PL;omega
 subst BM
 refine a3 ?_
 · refine int_eq (if_pos (Gv.2 ⟨hq1,fA,hq3,hq4,hq5,hq6,AX,by omega,by omega⟩)).symm
theorem mT {d:Nat} {w:World} {x0 y0:Int} {x1 y1:Int}:(Op.equalIn (d+2) 187 (.agg #[.int .i64 x0,.int .i64 x1]) (.agg #[.int .i64 y0,.int .i64 y1])).run Tryz.prog w= .ok (decide (x0=y0∧x1=y1)) w:=by
 have h:=eqS (w:=w) (d:=d+1) (xs:= #[.int .i64 x0,.int .i64 x1]) (ys:= #[.int .i64 y0,.int .i64 y1]) Tryz.underlying187 BV (E_ AB (CH Cq rfl) (CH Cq rfl) (GN (d:=d+0) Tryz.underlying3) (E_ AB (CH Cq rfl) (CH Cq rfl) (GN (d:=d+0) Tryz.underlying3) (Mw)))
 refine h.trans (congrArg (fun b=>Result.ok b w) ?_)
 rw [Bool.eq_iff_iff];simp [and_assoc]
theorem mU {E:Env} {I:Ce} {o:Oper} {u:TypeId} {x y:Operand} {x0 y0:Int} {x1 y1:Int} (ho:o.op= .binOp .eql 187 x y u) (hx:VL E x (agg [is (.int .i64 x0),is (.int .i64 x1)])) (hy:VL E y (agg [is (.int .i64 y0),is (.int .i64 y1)])):Ae Tryz.prog I o E (bool (decide (x0=y0∧x1=y1))):=
 Mv [.int .i64 x0,.int .i64 x1] [.int .i64 y0,.int .i64 y1] ho hx hy BV (fun w=>by rw [show Op.equal 187 _ _=Op.equalIn (9998+2) 187 _ _ from rfl];exact mT)
theorem mV {E:Env} {I:Ce} {o:Oper} {u:TypeId} {x y:Operand} {x0 y0:Int} {x1 y1:Int} (ho:o.op= .binOp .neq 187 x y u) (hx:VL E x (agg [is (.int .i64 x0),is (.int .i64 x1)])) (hy:VL E y (agg [is (.int .i64 y0),is (.int .i64 y1)])):Ae Tryz.prog I o E (bool (!decide (x0=y0∧x1=y1))):=
 RP [.int .i64 x0,.int .i64 x1] [.int .i64 y0,.int .i64 y1] ho hx hy BV (fun w=>by rw [show Op.equal 187 _ _=Op.equalIn (9998+2) 187 _ _ from rfl];exact mT)
deriving instance DecidableEq for HJ
deriving instance DecidableEq for Hx
deriving instance DecidableEq for CA
deriving instance DecidableEq for Bb
theorem WG {α:Type} {a b:List α} {k:Nat} {x y:α} (ha:a[k]? =some x) (hb:b[k]? =some y) (h:a.take k=b.take k) (e:x=y):a.take (k+1)=b.take (k+1):=by
 rw [List.take_add_one,List.take_add_one,ha,hb,h,e]
theorem je {α:Type} {a b:List α} {k:Nat} {x y:α} (ha:a[k]? =some x) (hb:b[k]? =some y) (e:¬x=y):¬a=b:=by
 rintro rfl;rw [ha] at hb;cases hb;exact e rfl
theorem jx {α:Type} {a b:List α} (hl:a.length=b.length) (h:a.take a.length=b.take a.length):a=b:=by
 rw [List.take_length,hl,List.take_length] at h;exact h
theorem ZP {a b:HJ} (hn:a.names.length≤8796093022208):BC prog 207 [agg (DO a),agg (DO b)] (bool (decide (a=b))):=by
 refine fo func207 rfl ⟨rfl,rfl⟩ fun M0 w0=> ?_
 refine ac ?_
 refine ag ?_ ?_<;>intro h1 q1
 refine ac ?_
 refine wk [89,3,2] rfl ?_
 refine a2 ?_
 · exact FG
 refine ag ?_ ?_<;>intro h2 q2
 refine ac ?_
 refine wk [89,3,2] rfl ?_
 refine a2 ?_
 · exact FG
 refine ag ?_ ?_<;>intro h3 q3
 refine ac ?_
 refine wk [89,3,2] rfl ?_
 refine a2 ?_
 · exact FG
 refine ac ?_
 refine cy h3 rfl (P9 rfl vq vq) ?_
 refine ag ?_ ?_<;>intro h4 q4
 refine ac ?_
 refine wk [89,3,2] rfl ?_
 refine a2 ?_
 · exact FG
 refine ag ?_ ?_<;>intro h5 q5
 refine ac ?_
 refine wk [89,3,2] rfl ?_
 refine a2 ?_
 · exact FG
 refine ac ?_
 refine cy h5 rfl (P9 rfl vq vq) ?_
 refine ag ?_ ?_<;>intro h6 q6
 refine ac ?_
 refine wk [89,3,2] rfl ?_
 refine a2 ?_
 · exact FG
 refine ag ?_ ?_<;>intro h7 q7
 refine ac ?_
 refine wk [89,3,2] rfl ?_
 refine a2 ?_
 · exact FG
 refine ag ?_ ?_<;>intro h8 q8
 refine ac ?_
 refine wk [89,3,2] rfl ?_
 refine a2 ?_
 · exact FG
 refine ac ?_
 refine cy h8 rfl (Yw rfl underlying4 vq vq) ?_
 refine ag ?_ ?_<;>intro h9 q9
 refine ac ?_
 refine wk [89,3,2] rfl ?_
 refine a2 ?_
 · exact FG
 refine ag ?_ ?_<;>intro h10 Re
 refine ac ?_
 refine wk [89,3,2] rfl ?_
 refine a2 ?_
 · exact FG
 refine ac ?_
 refine cy h10 rfl (mV rfl vq vq) ?_
 refine ag ?_ ?_<;>intro h11 Sw
 refine ac ?_
 refine wk [89,3,2] rfl ?_
 refine a2 ?_
 · exact FG
 refine ac ?_
 refine wk [89,3,2] rfl ?_
 refine Tr.cn rfl ?_ ?_<;>intro h12 WE
 refine a2 ?_
 · exact FG
 have Sh:a.names.length=b.names.length:=by simp_all;omega
 refine a2 ?_
 refine Tr.block (Tr.BD _ (kk [92,3,2] rfl) (fun k:Nat=>[(93,int ((k:Nat):Int))]) (fun k:Nat=>k≤(a.names).length∧(a.names.take k=b.names.take k)) (fun k:Nat=>(a.names).length-k) 0 (⟨Nat.zero_le _,rfl⟩) kz ?_)
 rintro k ⟨BR,AX⟩
 refine ac ?_
 refine Tr.seq ?_
 refine Tr.cn rfl ?_ ?_<;>intro Nf cZ
 have Ai:k<(a.names).length:=AH Nf
 obtain ⟨x,Ah⟩:=at_ Ai
 obtain ⟨y,hy⟩:=at_ (l:=b.names) (k:=k) AA
 · repeat' first|(refine bool_eq ?_;symm;rw [decide_eq_false_iff_not];rintro rfl;rw [Ah] at hy;cases hy;simp_all)|exact Fin.AL (k+1) ⟨⟨Ai,WG Ah hy AX Bv⟩,by omega⟩ ⟨⟨_,rfl,AG k⟩,kz⟩|refine co rfl (AD rfl underlying127 Ms vq vq AA (Aa Ah)) ?_|refine co rfl (AD rfl underlying127 Ms vq vq AA (Aa hy)) ?_|refine ac ?_|(refine Tr.cn rfl ?_ ?_<;>intro h q)
 have BM:k=(a.names).length:=by have:=AJ Nf;omega
 subst BM
 refine a3 ?_
 · refine bool_eq ?_;have hnn:=jx Sh AX;clear AX Sh;cases a;cases b;simp_all
theorem ZQ {a b:Hx} (hs:a.small):BC prog 162 [agg (FB a),agg (FB b)] (bool (decide (a=b))):=by
 refine fo func162 rfl ⟨rfl,rfl⟩ fun M0 w0=> ?_
 have hsc:=hs.chain
 refine a2 ?_
 refine co rfl (P9 rfl vq vq) (cm rfl ?_)
 refine Ch.cs 11 rfl ?_ ?_<;>intro h1 q1
 refine ac ?_
 refine wk [26,3,2] rfl ?_
 refine a2 ?_
 · exact FG
 refine ag ?_ ?_<;>intro h2 q2
 refine ac ?_
 refine wk [26,3,2] rfl ?_
 refine a2 ?_
 · exact FG
 refine ac ?_
 refine wk [26,3,2] rfl ?_
 refine Tr.cn rfl ?_ ?_<;>intro h3 q3
 refine a2 ?_
 · exact FG
 have Sh:a.chain.length=b.chain.length:=by simp_all;omega
 refine a2 ?_
 refine Tr.block (Tr.BD _ (kk [29,3,2] rfl) (fun k:Nat=>[(30,int ((k:Nat):Int))]) (fun k:Nat=>k≤(a.chain).length∧(a.chain.take k=b.chain.take k)) (fun k:Nat=>(a.chain).length-k) 0 (⟨Nat.zero_le _,rfl⟩) kz ?_)
 rintro k ⟨BR,AX⟩
 refine ac ?_
 refine Tr.seq ?_
 refine Tr.cn rfl ?_ ?_<;>intro h4 q4
 have Ai:k<(a.chain).length:=AH h4
 obtain ⟨x,Ah⟩:=at_ Ai
 obtain ⟨y,hy⟩:=at_ (l:=b.chain) (k:=k) AA
 have hxn:=hs.names x (List.mem_of_getElem? Ah)
 · repeat' first|(refine bool_eq ?_;symm;rw [decide_eq_false_iff_not];rintro rfl;rw [Ah] at hy;cases hy;simp_all)|exact Fin.AL (k+1) ⟨⟨Ai,WG Ah hy AX Bv⟩,by omega⟩ ⟨⟨_,rfl,AG k⟩,kz⟩|refine co rfl (AD rfl underlying82 C8 vq vq AA (Aa Ah)) ?_|refine co rfl (AD rfl underlying82 C8 vq vq AA (Aa hy)) (co rfl (AP rfl F_ C8 vq rfl rfl) (co rfl (CL (ZP hxn) rfl rfl rfl) ?_))|refine ac ?_|(refine Tr.cn rfl ?_ ?_<;>intro h q)
 have BM:k=(a.chain).length:=by have:=AJ h4;omega
 subst BM
 refine a3 ?_
 · refine bool_eq ?_;have hnn:=jx Sh AX;clear AX Sh hs;cases a;cases b;simp_all
theorem cz {k:Int} (hk:1≤k∧k≤12):k=1∨k=2∨k=3∨k=4∨k=5∨k=6∨k=7∨k=8∨k=9∨k=10∨k=11∨k=12:=by omega
theorem XG {e:CA} {c:Bb} {f:Int} (hc:JW c) (h:CD e c= .error f):f≠0:=by
 rcases cz hc.1 with hk|hk|hk|hk|hk|hk|hk|hk|hk|hk|hk|hk
 · rw [QC hk] at h;(repeat' (split at h))<;>first|(injection h with h;omega)|(cases h;done)
 · rw [QD hk] at h;(repeat' (split at h))<;>first|(injection h with h;omega)|(cases h;done)
 · rw [QE hk] at h;(repeat' (split at h))<;>first|(injection h with h;omega)|(cases h;done)
 · rw [QF hk] at h;(repeat' (split at h))<;>first|(injection h with h;omega)|(cases h;done)
 · rw [QG hk] at h;(repeat' (split at h))<;>first|(injection h with h;omega)|(cases h;done)
 · rw [QH hk] at h;(repeat' (split at h))<;>first|(injection h with h;omega)|(cases h;done)
 · rw [QI hk] at h;(repeat' (split at h))<;>first|(injection h with h;omega)|(cases h;done)
 · rw [QJ hk] at h;(repeat' (split at h))<;>first|(injection h with h;omega)|(cases h;done)
 · rw [QK hk] at h;(repeat' (split at h))<;>first|(injection h with h;omega)|(cases h;done)
 · rw [M_ hk] at h;(repeat' (split at h))<;>first|(injection h with h;omega)|(cases h;done)
 · rw [NA hk] at h;(repeat' (split at h))<;>first|(injection h with h;omega)|(cases h;done)
 · rw [NB hk] at h;(repeat' (split at h))<;>first|(injection h with h;omega)|(cases h;done)
theorem gH {e:CA} {c:Bb} {x:CA} {b:Bb} (h:ED e c=(x,b,0)):cW e∧JW c∧CD e c= .ok (x,b)∧cW x:=by
 unfold ED at h
 split at h
 · cases h
 next h1=>
 split at h
 · cases h
 next h2=>
 have h1 : GY e = true := by cases hh : GY e with
  |true=>rfl
  |false=>exact absurd hh h1
 have h2:JW c:=Classical.not_not.1 h2
 cases hs:CD e c with
 |error f=>
  rw [hs] at h
  simp only [Prod.mk.injEq] at h
  exact absurd h.2.2 (XG h2 hs)
 |ok r=>
  obtain ⟨x',b'⟩:=r
  rw [hs] at h
  simp only at h
  split at h
  next h3=>simp only [Prod.mk.injEq,and_true] at h;obtain ⟨rfl,rfl⟩:=h;exact ⟨DG.1 h1,h2,rfl,DG.1 h3⟩
  · cases h
section
variable {α:Type} {p:α→Bool} {l:List α} {a:α} {i:Nat}
end
theorem ZR {l:List Int} (h:Kz l=true) {i j:Nat} {n:Int} (hi:l[i]? =some n) (hj:l[j]? =some n):i=j:=by
 unfold Kz at h;rw [B7] at h
 have key:∀{a b:Nat},a<b→l[a]? =some n→l[b]? =some n→False:=by
  intro a b hab ha hb
  have:=h b (BN hb)
  unfold GO at this
  rw [getD_at hb] at this
  simp only [Bool.and_eq_true,Bool.not_eq_true',List.any_eq_false] at this
  have:=this.2 n (List.mem_of_getElem? (show (l.take b)[a]? =some n by rw [List.getElem?_take,if_pos hab];exact ha))
  simp at this
 rcases Nat.lt_trichotomy i j with h1|h1|h1
 · exact (key h1 hi hj).elim
 · exact h1
 · exact (key h1 hj hi).elim
def tY (n:Nat):Bool:=decide ((97≤n∧n≤122)∨(65≤n∧n≤90)∨(48≤n∧n≤57)∨n=45∨n=95∨n=46)
theorem ZS:∀n∈List.range 256,Ky [45,95,46] (UInt8.ofNat n)=tY n:=by decide+kernel
theorem Tk (c:UInt8):Ky [45,95,46] c=tY c.toNat:=by
 have h:=ZS c.toNat (List.mem_range.2 c.toNat_lt)
 rw [UInt8.ofNat_toNat] at h;exact h
theorem mW {s:List UInt8}  :BC prog 191 [str s] (bool (Qv s)):=by
 refine fo func191 rfl ⟨rfl,rfl⟩ fun M0 w0=> ?_
 refine ac ?_
 refine ag ?_ ?_<;>intro h1 q1
 refine a3 ?_
 · exact bI
 refine an ?_ ?_<;>intro h2 q2
 refine a2 ?_
 · exact bI
 refine a2 ?_
 refine Tr.block (Tr.BD _ (kk [0] rfl) (fun k:Nat=>[(3,int ((k:Nat):Int))]) (fun k:Nat=>k≤(s).length∧(∀j y,j<k→s[j]? =some y→(!Ky [45,95,46] y)=false)) (fun k:Nat=>(s).length-k) 0 (⟨Nat.zero_le _,fun j y hj=>absurd hj AA⟩) kz ?_)
 rintro k ⟨BR,AX⟩
 refine an ?_ ?_<;>intro h3 q3
 have Ai:k<(s).length:=AH h3
 obtain ⟨c,Ah⟩:=at_ Ai
 · repeat' first|(refine bool_eq ?_;unfold Qv;rw [VJ (p:=Ky [45,95,46]) Ah (by rw [Tk];unfold tY;simp;omega)];rfl)|(exact Fin.AL (k+1) ⟨⟨Ai,DV (p:=fun c=> !Ky [45,95,46] c) Ah (by rw [Tk];unfold tY;simp;omega) AX⟩,by omega⟩ ⟨⟨_,rfl,AG k⟩,kz⟩)|refine co rfl (U8 rfl underlying9 vq vq AA (U9 Bh)) ?_|refine ac ?_|(refine Tr.cn rfl ?_ ?_<;>intro h q)|(refine Ch.cg rfl rfl rfl ?_ ?_<;>intro h q)
 have BM:k=(s).length:=by have:=AJ h3;omega
 subst BM
 refine a3 ?_
 · refine bool_eq ?_;unfold Qv;rw [M4 AX,Bool.true_and];symm;rw [decide_eq_true_eq];omega
theorem Bm {a b:Int}  :BC prog 266 [int a,int b] (agg [int a,int b]):=by
 refine fo func266 rfl ⟨rfl,rfl⟩ fun M0 w0=>(Tr.seq (Tr.Ao ?_))
 refine Tl rfl rfl rfl rfl Kv EU (fun b1=> ?_)
 refine ap ?_
 refine ap ?_
 refine Tr.ret (Fin.CX rfl (AM.cell 0 rfl rfl JL LG rfl Lr) ?_)
 · exact Lr
theorem Cj {a l m x1 y1 x2 y2 x3 y3 x4 y4:Int} {s:List UInt8}  :BC prog 267 [int a,str s,agg [int x1,int y1],agg [int x2,int y2],agg [int x3,int y3],agg [int x4,int y4],int l,int m] (agg DP):=by
 refine BC.of func267 rfl rfl BA fun M0 w0=> ?_
 refine Tr.seq (Tr.Ao ?_)
 iterate 4 refine tp rfl (Bj rfl (Va rfl)) ?_
 refine Tl rfl rfl rfl rfl Sq IJ (fun b1=> ?_)
 refine TO.nil (Fin.go (Tr.seq (Tr.Ao (tm rfl (tm rfl ?_)))))
 iterate 4 refine tp rfl (AP rfl JL LG (vl rfl) rfl rfl) ?_
 refine tm rfl (tm rfl (tp rfl (Al (rows:=[(0,[_]),(1,[_]),(2,_),(3,_),(4,_),(5,_),(6,[_]),(7,[_])]) rfl Wq IJ ⟨⟨rfl,(Vo rfl)⟩,⟨⟨rfl,(Vo rfl)⟩,⟨⟨rfl,(Va rfl)⟩,⟨⟨rfl,(Va rfl)⟩,⟨⟨rfl,(Va rfl)⟩,⟨⟨rfl,(Va rfl)⟩,⟨⟨rfl,(Vo rfl)⟩,⟨⟨rfl,(Vo rfl)⟩,trivial⟩⟩⟩⟩⟩⟩⟩⟩ rfl) (TO.re 25 (agg DP) rfl (VN rfl) (TO.AK 0 rfl rfl rfl (vl rfl) (Va rfl) rfl Fv rfl rfl (TO.nil (Fin.go (N0 16 rfl (Tr.ret (Fin.CX rfl (AM.cell 0 rfl rfl Iu Fv rfl (Lr)) ?_)))))))))
 · exact Lr
theorem ZT   :BC prog 227 [] (slice 12 M7):=by
 refine fo func227 rfl ⟨rfl,rfl⟩ fun M0 w0=> ?_
 refine ac ?_
 refine Tr.seq (Tr.Ao (tp rfl (CL (Bm) rfl rfl rfl) (tp rfl (CL (Bm) rfl rfl rfl) (tp rfl (Al (rows:=[]) rfl xO EU trivial rfl) ?_))))
 refine Tl rfl rfl rfl rfl Kv EU (fun b1=> ?_)
 refine Tl rfl rfl rfl rfl Kv EU (fun b2=> ?_)
 refine Tl rfl rfl rfl rfl Kv EU (fun b3=> ?_)
 refine sf 2 1 ⟨rfl,rfl,rfl⟩ rfl rfl rfl rfl ?_
 refine sf 1 2 ⟨rfl,rfl,rfl⟩ rfl rfl rfl rfl ?_
 refine sf 0 3 ⟨rfl,rfl,rfl⟩ rfl rfl rfl rfl ?_
 refine ao ?_
 refine Tr.seq (Tr.Ao (tp rfl (CL (Bm) rfl rfl rfl) (tp rfl (CL (Bm) rfl rfl rfl) ?_)))
 refine Tl rfl rfl rfl rfl Kv EU (fun b4=> ?_)
 refine Tl rfl rfl rfl rfl Kv EU (fun b5=> ?_)
 refine sf 1 4 ⟨rfl,rfl,rfl⟩ rfl rfl rfl rfl ?_
 refine sf 0 5 ⟨rfl,rfl,rfl⟩ rfl rfl rfl rfl ?_
 refine ao ?_
 refine wk [5,4,3,2,1] rfl (Tr.seq (Tr.Ao (tp rfl (CL (Bm) rfl rfl rfl) (tp rfl (CL (Bm) rfl rfl rfl) (tp rfl (CL (Bm) rfl rfl rfl) ?_)))))
 refine Tl rfl rfl rfl rfl Kv EU (fun b6=> ?_)
 refine Tl rfl rfl rfl rfl Kv EU (fun b7=> ?_)
 refine Tl rfl rfl rfl rfl Kv EU (fun b8=> ?_)
 refine sf 2 6 ⟨rfl,rfl,rfl⟩ rfl rfl rfl rfl ?_
 refine sf 1 7 ⟨rfl,rfl,rfl⟩ rfl rfl rfl rfl ?_
 refine sf 0 8 ⟨rfl,rfl,rfl⟩ rfl rfl rfl rfl ?_
 refine ao ?_
 refine wk [8,7,6,5,4,3,2,1] rfl (Tr.seq (Tr.Ao ?_))
 iterate 4 refine tp rfl (CL (Bm) rfl rfl rfl) ?_
 refine Tl rfl rfl rfl rfl Kv EU (fun b9=> ?_)
 refine Tl rfl rfl rfl rfl Kv EU (fun b10=> ?_)
 refine Tl rfl rfl rfl rfl Kv EU (fun b11=> ?_)
 refine Tl rfl rfl rfl rfl Kv EU (fun b12=> ?_)
 refine sf 3 9 ⟨rfl,rfl,rfl⟩ rfl rfl rfl rfl ?_
 refine sf 2 10 ⟨rfl,rfl,rfl⟩ rfl rfl rfl rfl ?_
 refine sf 1 11 ⟨rfl,rfl,rfl⟩ rfl rfl rfl rfl ?_
 refine sf 0 12 ⟨rfl,rfl,rfl⟩ rfl rfl rfl rfl ?_
 refine ao ?_
 refine wk [12,11,10,9,8,7,6,5,4,3,2,1] rfl (Tr.seq (Tr.Ao (tp rfl (CL (Bm) rfl rfl rfl) (tp rfl (CL (Bm) rfl rfl rfl) ?_))))
 refine Tl rfl rfl rfl rfl Kv EU (fun b13=> ?_)
 refine Tl rfl rfl rfl rfl Kv EU (fun b14=> ?_)
 refine sf 1 13 ⟨rfl,rfl,rfl⟩ rfl rfl rfl rfl ?_
 refine sf 0 14 ⟨rfl,rfl,rfl⟩ rfl rfl rfl rfl ?_
 refine ao ?_
 refine wk [14,13,12,11,10,9,8,7,6,5,4,3,2,1] rfl ?_
 refine ac ?_
 refine co rfl (AR rfl (Cj) ⟨kq,kz⟩) ?_
 refine ac ?_
 refine co rfl (AR rfl (Cj) ⟨kq,kz⟩) ?_
 refine ac ?_
 refine co rfl (AR rfl (Cj) ⟨kq,kz⟩) (co rfl (CL (Bm) rfl rfl rfl) (co rfl (CL (Bm) rfl rfl rfl) ?_))
 refine ac ?_
 refine co rfl (AR rfl (Cj) ⟨kq,kz⟩) (co rfl (CL (Bm) rfl rfl rfl) ?_)
 refine ac ?_
 refine co rfl (AR rfl (Cj) ⟨kq,kz⟩) ?_
 refine ac ?_
 refine co rfl (AR rfl (Cj) ⟨kq,kz⟩) (co rfl (CL (Bm) rfl rfl rfl) ?_)
 refine ac ?_
 refine co rfl (AR rfl (Cj) ⟨kq,kz⟩) ?_
 refine ac ?_
 refine co rfl (AR rfl (Cj) ⟨kq,kz⟩) (co rfl (AP rfl JL LG vq rfl rfl) (co rfl (CL (Bm) rfl rfl rfl) (co rfl (CL (Bm) rfl rfl rfl) (co rfl (AP rfl JL LG vq rfl rfl) (co rfl (AR rfl (Cj) ⟨kq,kz⟩) ?_)))))
 refine ac ?_
 refine co rfl (AR rfl (Cj) ⟨kq,kz⟩) (co rfl (CL (Bm) rfl rfl rfl) (co rfl (CL (Bm) rfl rfl rfl) ?_))
 refine ac ?_
 refine co rfl (AR rfl (Cj) ⟨kq,kz⟩) ?_
 refine ac ?_
 refine co rfl (AR rfl (Cj) ⟨kq,kz⟩) ?_
 refine ac ?_
 refine co rfl (AR rfl (Cj) ⟨kq,kz⟩) ?_
 refine ac ?_
 refine co rfl (AR rfl (Cj) ⟨kq,kz⟩) ?_
 refine ac ?_
 refine co rfl (AR rfl (Cj) ⟨kq,kz⟩) (co rfl (CL (Bm) rfl rfl rfl) ?_)
 refine ac ?_
 refine co rfl (AR rfl (Cj) ⟨kq,kz⟩) (co rfl (AO (xs:=[.tmp 33,.tmp 38,.tmp 43,.tmp 48,.tmp 53,.tmp 58,.tmp 63,.tmp 68,.tmp 73,.tmp 78,.tmp 83,.tmp 88,.tmp 93,.tmp 98,.tmp 103,.tmp 108]) (rows:=M7) rfl rfl underlying287 Fv Sq rfl AB ⟨⟨Am,VL.le vq (Ad _)⟩,⟨⟨Am,VL.le vq (Ad _)⟩,⟨⟨Am,VL.le vq (Ad _)⟩,⟨⟨Am,VL.le vq (Ad _)⟩,⟨⟨Am,VL.le vq (Ad _)⟩,⟨⟨Am,VL.le vq (Ad _)⟩,⟨⟨Am,VL.le vq (Ad _)⟩,⟨⟨Am,VL.le vq (Ad _)⟩,⟨⟨Am,VL.le vq (Ad _)⟩,⟨⟨Am,VL.le vq (Ad _)⟩,⟨⟨Am,VL.le vq (Ad _)⟩,⟨⟨Am,VL.le vq (Ad _)⟩,⟨⟨Am,VL.le vq (Ad _)⟩,⟨⟨Am,VL.le vq (Ad _)⟩,⟨⟨Am,VL.le vq (Ad _)⟩,⟨⟨Am,VL.le vq (Ad _)⟩,trivial⟩⟩⟩⟩⟩⟩⟩⟩⟩⟩⟩⟩⟩⟩⟩⟩ AB) ?_)
 refine ac ?_
 refine wk [0] rfl ?_
 refine ac ?_
 · exact B5 _ _
theorem gI {code:Int}  :BC prog 192 [int code] (D6 [agg DP,int (if 1≤code∧code≤16 then 0 else 8)]):=by
 refine fo func192 rfl ⟨rfl,rfl⟩ fun M0 w0=>(Tr.seq (Tr.Ao ?_))
 refine Tl rfl rfl rfl rfl Sq IJ (fun b1=> ?_)
 refine ap ?_
 refine ag ?_ ?_<;>intro h1 q1
 refine ac ?_
 refine Tr.cond rfl (fun _=> ?_) (fun h=>nomatch h)
 refine Tr.seq (Tr.Ao (tp rfl (Al (rows:=[]) rfl Wq IJ trivial rfl) (TO.AK 0 rfl rfl rfl vq Cv rfl Fv rfl rfl (tm rfl (TO.nil (Fin.go (Tr.ret (Fin.AF (Fin.BZ rfl (AM.cell 0 rfl rfl Iu Fv rfl Lr) (AM.tmp rfl Lr) ?_)))))))))
 · exact A7 ⟨VN rfl,int_eq (by rw [if_neg];simp_all;omega),trivial⟩
 refine an ?_ ?_<;>intro h2 q2
 refine ap ?_
 refine Tr.ret (Fin.AF (Fin.BZ rfl (AM.cell 0 rfl rfl Iu Fv rfl Lr) (AM.tmp rfl Lr) ?_))
 · exact A7 ⟨VN rfl,int_eq (by rw [if_neg];simp_all),trivial⟩
 have hin:1≤code∧code≤16:=by omega
 refine ac ?_
 refine Tr.seq (Tr.Ao (tp rfl (kc0 (ZT) rfl) ?_))
 refine ap ?_
 refine tp rfl (AD rfl underlying287 Fv vq vq AA (mC AA)) ?_
 refine ap ?_
 refine wk [3,2] rfl (Tr.ret (Fin.BZ rfl (AM.cell 0 rfl rfl Iu Fv rfl Lr) (AM.tmp rfl Lr) ?_))
 · exact A7 ⟨Lr,int_eq (by rw [if_pos hin]),trivial⟩
theorem KG {l:List Int} {v:Int}  :BC prog 193 [ints l,int v] (bool (l.any fun x=>v==x)):=by
 refine fo func193 rfl ⟨rfl,rfl⟩ fun M0 w0=>(Tr.Cf 0 rfl fun D_=> ?_)
 refine a2 ?_
 refine Tr.block (Tr.BD _ (kk [1,0] rfl) (fun k:Nat=>[(5,int ((k:Nat):Int))]) (fun k:Nat=>k≤(l).length∧((l.take k).any (fun x=>v==x)=false)) (fun k:Nat=>(l).length-k) 0 (⟨Nat.zero_le _,rfl⟩) kz ?_)
 rintro k ⟨BR,AX⟩
 refine an ?_ ?_<;>intro h1 q1
 have Ai:k<(l).length:=AH h1
 obtain ⟨x,Ah⟩:=at_ Ai
 · repeat' first|(refine bool_eq ?_;symm;rw [List.any_eq_true];exact ⟨_,List.mem_of_getElem? Ah,by simp_all⟩)|(exact Fin.AL (k+1) ⟨⟨Ai,bQ⟩,by omega⟩ ⟨⟨_,rfl,AG k⟩,kz⟩)|refine co rfl (AD rfl underlying22 Bw vq vq AA CM) ?_|refine ac ?_|(refine Tr.cn rfl ?_ ?_<;>intro h q)
 have BM:k=(l).length:=by have:=AJ h1;omega
 subst BM
 refine a3 ?_
 · exact UQ
theorem DE {l:List (List UInt8)}:G_ l=true↔(∀j,j<l.length→nameAt l j=true)∧l.length≤8:=by unfold G_;rw [Bool.and_eq_true,B7,decide_eq_true_eq]
theorem K1 {l:List (List UInt8)} {k:Nat} {s:List UInt8} (hs:l[k]? =some s) (h1:named s=true) (h2:0<k→∃y,l[k-1]? =some y∧Lib.compareBytes y s= -1):nameAt l k=true:=by
 unfold nameAt;rw [hs];simp only [Option.getD_some,h1,Bool.true_and,Bool.or_eq_true,decide_eq_true_eq]
 rcases Nat.eq_zero_or_pos k with h0|h0
 · exact .inl h0
 · obtain ⟨y,hy,hc⟩:=h2 h0;rw [hy];exact .inr hc
theorem L5 {c:HJ}  :BC prog 188 [agg (DO c)] (int (if EA c then 0 else 9)):=by
 refine fo func188 rfl ⟨rfl,rfl⟩ fun M0 w0=> ?_
 refine ac ?_
 refine ag ?_ ?_<;>intro h1 q1
 refine ac ?_
 refine wk [39,1] rfl ?_
 refine a2 ?_
 · exact Jm
 refine ag ?_ ?_<;>intro h2 q2
 refine ac ?_
 refine wk [39,1] rfl ?_
 refine a2 ?_
 · exact Jm
 refine ac ?_
 refine cy h2 rfl (Ct (Gp) rfl rfl) ?_
 refine ag ?_ ?_<;>intro h3 q3
 refine ac ?_
 refine wk [39,1] rfl ?_
 refine a2 ?_
 · exact Qg
 refine ac ?_
 refine cy h3 rfl (Ct (Gp) rfl rfl) ?_
 refine ag ?_ ?_<;>intro h4 q4
 refine ac ?_
 refine wk [39,1] rfl ?_
 refine a2 ?_
 · exact Qg
 refine ac ?_
 refine cy h4 rfl (Ct (KA) rfl rfl) ?_
 refine ag ?_ ?_<;>intro h5 q5
 refine ac ?_
 refine wk [39,1] rfl ?_
 refine a2 ?_
 · exact Qg
 refine ag ?_ ?_<;>intro h6 q6
 refine ac ?_
 refine wk [39,1] rfl ?_
 refine a2 ?_
 · exact Jm
 refine ac ?_
 refine wk [39,1] rfl ?_
 refine Tr.cn rfl ?_ ?_<;>intro h7 q7
 refine a2 ?_
 · exact Jm
 refine a2 ?_
 refine co rfl (Ct (J_) rfl rfl) ?_
 refine ag ?_ ?_<;>intro h8 q8
 refine ac ?_
 refine wk [67,1] rfl ?_
 refine a2 ?_
 · refine int_eq (if_neg (fun hv=> ?_)).symm;have vf:=JI hv;obtain ⟨YO,YP,Qa,Qb,JV,Gu,YQ,YR,FF,Qc,Qd,Qe,Qf,YS,YT,YU,YV,YW,YX⟩:=vf;have YY:=(DE.1 JV).2;unfold LO at Gu FF;simp_all;omega
 refine ac ?_
 refine cy h8 rfl (Ct (QA) rfl rfl) ?_
 refine ag ?_ ?_<;>intro h9 q9
 refine ac ?_
 refine wk [67,1] rfl ?_
 refine a2 ?_
 · exact Qg
 refine ag ?_ ?_<;>intro h10 Re
 refine ac ?_
 refine wk [67,1] rfl ?_
 refine a2 ?_
 · exact Jm
 refine ag ?_ ?_<;>intro h11 Sw
 refine ac ?_
 refine wk [67,1] rfl ?_
 refine a2 ?_
 · exact Jm
 refine ac ?_
 refine wk [67,1] rfl ?_
 refine Tr.cn rfl ?_ ?_<;>intro h12 WE
 refine a2 ?_
 · exact Jm
 refine ac ?_
 refine ag ?_ ?_<;>intro Nf cZ
 refine ac ?_
 refine wk [91,1] rfl ?_
 refine a2 ?_
 · exact Jm
 refine ag ?_ ?_<;>intro Ng q14
 refine ac ?_
 refine wk [91,1] rfl ?_
 refine a2 ?_
 · exact Jm
 refine ag ?_ ?_<;>intro Wh q15
 refine ag ?_ ?_<;>intro h16 q16
 refine ac ?_
 refine wk [91,1] rfl ?_
 refine a2 ?_
 · exact Qg
 refine ac ?_
 refine wk [91,1] rfl ?_
 refine Tr.cn rfl ?_ ?_<;>intro PL q17
 refine a2 ?_
 · exact Jm
 refine a2 ?_
 refine Tr.block (Tr.BD _ (kk [1] rfl) (fun k:Nat=>[(3,int ((k:Nat):Int))]) (fun k:Nat=>k≤(c.names).length∧(∀j,j<k→nameAt c.names j=true)) (fun k:Nat=>(c.names).length-k) 0 (⟨Nat.zero_le _,fun j hj=>absurd hj AA⟩) kz ?_)
 rintro k ⟨BR,AX⟩
 refine an ?_ ?_<;>intro Sb q18
 have Ai:k<(c.names).length:=AH Sb
 obtain ⟨s,Ah⟩:=at_ Ai
 refine a2 ?_
 refine co rfl (AD rfl underlying127 Ms vq vq AA (Aa Ah)) (co rfl (F5 rfl PM rfl) (co rfl (Ct (Gp) rfl rfl) ?_))
 refine ag ?_ ?_<;>intro h19 q19
 refine ac ?_
 refine wk [123,3,1] rfl ?_
 refine a2 ?_
 · exact jf
 refine ag ?_ ?_<;>intro Sd q20
 have L2:0<k:=by simpa using Sd
 obtain ⟨y,hy⟩:=at_ (l:=c.names) (k:=k-1) AA
 · repeat' first|(refine int_eq (if_neg (fun hv=> ?_)).symm;have vf:=JI hv;obtain ⟨YO,YP,Qa,Qb,JV,Gu,YQ,YR,FF,Qc,Qd,Qe,Qf,YS,YT,YU,YV,YW,YX⟩:=vf;have YY:=(DE.1 JV).2;unfold LO at Gu FF;have YJ:=(DE.1 JV).1 k AA;unfold nameAt at YJ;simp_all)|(exact Fin.AL (k+1) ⟨⟨Ai,(fun j hj=>by rcases Nat.lt_or_eq_of_le (Nat.le_of_lt_succ hj) with h_|h_;exact AX j h_;(subst h_;refine K1 Ah Bv (fun h0=> ?_);exact ⟨y,hy,by simp_all⟩))⟩,by omega⟩ ⟨⟨_,rfl,AG k⟩,kz⟩)|(refine cy Sd rfl (AD rfl underlying127 Ms vq vq AA Li) ?_)|refine cy Sd rfl (AD rfl underlying127 Ms vq vq AA (Aa Ah)) (cy Sd rfl (F5 rfl PM rfl) (cy Sd rfl (RO rfl vq vq) ?_))|refine ac ?_|(refine Tr.cn rfl ?_ ?_<;>intro h q)
 have L2:¬0<k:=by simpa using Sd
 refine ac ?_
 refine wk [123,3,1] rfl ?_
 refine a2 ?_
 exact Fin.AL (k+1) ⟨⟨Ai,(fun j hj=>by rcases Nat.lt_or_eq_of_le (Nat.le_of_lt_succ hj) with h_|h_;exact AX j h_;(subst h_;refine K1 Ah Bv (fun h0=> ?_);exact absurd h0 L2))⟩,by omega⟩ ⟨⟨_,rfl,AG k⟩,kz⟩
 have BM:k=(c.names).length:=by have:=AJ Sb;omega
 subst BM
 · repeat' first|(refine int_eq (if_neg (fun hv=> ?_)).symm;have vf:=JI hv;obtain ⟨YO,YP,Qa,Qb,JV,Gu,YQ,YR,FF,Qc,Qd,Qe,Qf,YS,YT,YU,YV,YW,YX⟩:=vf;have YY:=(DE.1 JV).2;unfold LO at Gu FF;omega)|(refine int_eq (if_pos (ck ⟨by omega,by omega,by simp_all,by simp_all,DE.2 ⟨AX,by omega⟩,by unfold LO;simp_all,by omega,by omega,by unfold LO;simp_all,by omega,by omega,by omega,by omega,by omega,by omega,by omega,by omega,by omega,by right;omega⟩)).symm)|refine ac ?_|(refine Tr.cn rfl ?_ ?_<;>intro h q)|(refine Ch.cg rfl rfl rfl ?_ ?_<;>intro h q)
 refine ac ?_
 refine wk [91,1] rfl ?_
 refine Tr.cn rfl ?_ ?_<;>intro h26 q26
 refine a2 ?_
 · exact Jm
 refine a2 ?_
 refine Tr.block (Tr.BD _ (kk [1] rfl) (fun k:Nat=>[(3,int ((k:Nat):Int))]) (fun k:Nat=>k≤(c.names).length∧(∀j,j<k→nameAt c.names j=true)) (fun k:Nat=>(c.names).length-k) 0 (⟨Nat.zero_le _,fun j hj=>absurd hj AA⟩) kz ?_)
 rintro k ⟨BR,AX⟩
 refine an ?_ ?_<;>intro h27 q27
 have Ai:k<(c.names).length:=AH h27
 obtain ⟨s,Ah⟩:=at_ Ai
 refine a2 ?_
 refine co rfl (AD rfl underlying127 Ms vq vq AA (Aa Ah)) (co rfl (F5 rfl PM rfl) (co rfl (Ct (Gp) rfl rfl) ?_))
 refine ag ?_ ?_<;>intro h28 q28
 refine ac ?_
 refine wk [123,3,1] rfl ?_
 refine a2 ?_
 · exact jf
 refine ag ?_ ?_<;>intro jX q29
 have L2:0<k:=by simpa using jX
 obtain ⟨y,hy⟩:=at_ (l:=c.names) (k:=k-1) AA
 · repeat' first|(refine int_eq (if_neg (fun hv=> ?_)).symm;have vf:=JI hv;obtain ⟨YO,YP,Qa,Qb,JV,Gu,YQ,YR,FF,Qc,Qd,Qe,Qf,YS,YT,YU,YV,YW,YX⟩:=vf;have YY:=(DE.1 JV).2;unfold LO at Gu FF;have YJ:=(DE.1 JV).1 k AA;unfold nameAt at YJ;simp_all)|(exact Fin.AL (k+1) ⟨⟨Ai,(fun j hj=>by rcases Nat.lt_or_eq_of_le (Nat.le_of_lt_succ hj) with h_|h_;exact AX j h_;(subst h_;refine K1 Ah Bv (fun h0=> ?_);exact ⟨y,hy,by simp_all⟩))⟩,by omega⟩ ⟨⟨_,rfl,AG k⟩,kz⟩)|(refine cy jX rfl (AD rfl underlying127 Ms vq vq AA Li) ?_)|refine cy jX rfl (AD rfl underlying127 Ms vq vq AA (Aa Ah)) (cy jX rfl (F5 rfl PM rfl) (cy jX rfl (RO rfl vq vq) ?_))|refine ac ?_|(refine Tr.cn rfl ?_ ?_<;>intro h q)
 have L2:¬0<k:=by simpa using jX
 refine ac ?_
 refine wk [123,3,1] rfl ?_
 refine a2 ?_
 exact Fin.AL (k+1) ⟨⟨Ai,(fun j hj=>by rcases Nat.lt_or_eq_of_le (Nat.le_of_lt_succ hj) with h_|h_;exact AX j h_;(subst h_;refine K1 Ah Bv (fun h0=> ?_);exact absurd h0 L2))⟩,by omega⟩ ⟨⟨_,rfl,AG k⟩,kz⟩
 have BM:k=(c.names).length:=by have:=AJ h27;omega
 subst BM
 · repeat' first|(refine int_eq (if_neg (fun hv=> ?_)).symm;have vf:=JI hv;obtain ⟨YO,YP,Qa,Qb,JV,Gu,YQ,YR,FF,Qc,Qd,Qe,Qf,YS,YT,YU,YV,YW,YX⟩:=vf;have YY:=(DE.1 JV).2;unfold LO at Gu FF;omega)|(refine int_eq (if_pos (ck ⟨by omega,by omega,by simp_all,by simp_all,DE.2 ⟨AX,by omega⟩,by unfold LO;simp_all,by omega,by omega,by unfold LO;simp_all,by omega,by omega,by omega,by omega,by omega,by omega,by omega,by omega,by omega,by left;simp_all⟩)).symm)|refine ac ?_|(refine Tr.cn rfl ?_ ?_<;>intro h q)|(refine Ch.cg rfl rfl rfl ?_ ?_<;>intro h q)
theorem and1 {a b:Bool} (h:(a&&b)=true):a=true:=by simp at h;exact h.1
theorem yK {a b:Bool} (h:(a&&b)=true):b=true:=by simp at h;exact h.2
theorem mX:∀(n:Nat) (l:List Int),(∀x∈l,1≤x∧x≤(n:Int))→l.Nodup→l.length≤n
 |0,l,h,_=>by
  cases l with
  |nil=>exact Nat.le_refl _
  |cons a l=>have:=h a (List.mem_cons_self ..);omega
 |n+1,l,h,hn=>by
  have ih:=mX n (l.erase ((n:Int)+1)) (fun x hx=>by
   have h1:=h x (List.mem_of_mem_erase hx)
   have h2:=(hn.mem_erase_iff.1 hx).1
   omega) (hn.erase _)
  rw [List.length_erase] at ih
  split at ih<;>omega
theorem S9 {l:List Int} (h:Kz l=true):l.length≤16:=by
 refine mX 16 l (fun x hx=> ?_) ?_
 ·
  obtain ⟨j,hj⟩:=List.getElem?_of_mem hx
  have h1:=B7.1 (show allI (GO l) l.length=true from h) j (BN hj)
  unfold GO at h1;rw [getD_at hj] at h1
  have:=and1 h1
  simpa using this
 ·
  refine List.pairwise_iff_getElem.2 fun i j hi hj hij he=> ?_
  have:=ZR h (List.getElem?_eq_getElem hi) (by rw [he];exact List.getElem?_eq_getElem hj)
  omega
theorem mY {p:Int→Bool} {l:List Int} (h:∀j,j<l.length→p (l[j]?.getD 0)=true):l.all p=true:=List.all_eq_true.2 fun x hx=>by
 obtain ⟨j,hj⟩:=List.getElem?_of_mem hx
 have:=h j (BN hj)
 rw [getD_at hj] at this;exact this
theorem gJ {CF bits id:Int} {l:List HJ}  :BC prog 194 [agg [int CF,int bits],int id,LW l] (bool (VM CF bits id l)):=by
 refine fo func194 rfl ⟨rfl,rfl⟩ fun M0 w0=>(Tr.Cf 2 rfl fun mZ=> ?_)
 refine a2 ?_
 refine co rfl (Ct (KA) rfl rfl) ?_
 refine ag ?_ ?_<;>intro h1 q1
 refine ac ?_
 refine wk [23,3,2,1] rfl ?_
 refine a2 ?_
 · refine bool_eq ?_;rw [Gr];unfold LO H9;simp_all
 refine ag ?_ ?_<;>intro h2 q2
 refine ac ?_
 refine wk [23,3,2,1] rfl ?_
 refine a2 ?_
 · exact UX
 refine ag ?_ ?_<;>intro h3 q3
 refine ac ?_
 refine wk [23,3,2,1] rfl ?_
 refine a2 ?_
 · exact UX
 refine ac ?_
 refine wk [23,3,2,1] rfl ?_
 refine Tr.cn rfl ?_ ?_<;>intro h4 q4
 refine a2 ?_
 · exact UX
 refine a2 ?_
 refine Tr.block (Tr.BD _ (kk [3,2,1] rfl) (fun k:Nat=>[(7,int ((k:Nat):Int))]) (fun k:Nat=>k≤(l).length∧(∀j y,j<k→l[j]? =some y→(!EA y)=false)) (fun k:Nat=>(l).length-k) 0 (⟨Nat.zero_le _,fun j y hj=>absurd hj AA⟩) kz ?_)
 rintro k ⟨BR,AX⟩
 refine an ?_ ?_<;>intro h5 q5
 have Ai:k<(l).length:=AH h5
 obtain ⟨c,Ah⟩:=at_ Ai
 · repeat' first|(refine bool_eq ?_;rw [Gr];unfold LO H9;rw [VJ (p:=EA) Ah Bv];simp)|exact Fin.AL (k+1) ⟨⟨Ai,DV (p:=fun c=> !EA c) Ah Bv AX⟩,by omega⟩ ⟨⟨_,rfl,AG k⟩,kz⟩|refine co rfl (AD rfl underlying82 C8 vq vq AA (Aa Ah)) (co rfl (AP rfl F_ C8 vq rfl rfl) (co rfl (Ct (L5) rfl rfl) ?_))|refine ac ?_|(refine Tr.cn rfl ?_ ?_<;>intro h q)
 have BM:k=(l).length:=by have:=AJ h5;omega
 subst BM
 have hall:=M4 AX
 refine ac ?_
 refine ag ?_ ?_<;>intro h7 q7
 refine ac ?_
 refine wk [6] rfl ?_
 refine ac ?_
 · refine bool_eq ?_;rw [Gr];unfold LO H9;rw [hall,fX Bv];simp_all
 obtain ⟨c0,hc0⟩:=at_ (l:=l) (k:=0) (by have:=h7;simp at this;exact List.length_pos_iff.2 this)
 refine MM h7 rfl ?_
 refine cy h7 rfl (AD rfl underlying82 C8 vq vq AA (Aa (k:=0) hc0)) ?_
 refine ac ?_
 refine cy h7 rfl (P8 rfl vq vq) (MM h7 rfl ?_)
 refine Ch.cs 46 rfl ?_ ?_<;>intro h8 q8
 refine MM h8 rfl ?_
 refine cy h8 rfl (AD rfl underlying82 C8 vq vq AA (Aa (k:=0) hc0)) ?_
 refine ac ?_
 refine wk [6] rfl ?_
 refine ac ?_
 · refine bool_eq ?_;rw [Gr];unfold LO H9;rw [hall,W9 hc0];clear hall AX hc0;simp_all;omega
 refine ac ?_
 refine wk [6] rfl ?_
 refine ac ?_
 · refine bool_eq ?_;rw [Gr];unfold LO H9;rw [hall,W9 hc0];clear hall AX hc0;simp_all
theorem ZU {e:CA} (hs3:e.hashes.length≤17592186044416):BC prog 148 [agg (Bg e)] (int (if GY e then 0 else 19)):=by
 refine fo func148 rfl ⟨rfl,rfl⟩ fun M0 w0=> ?_
 refine ac ?_
 refine ac ?_
 refine co rfl (Ct (mW) rfl rfl) ?_
 refine ac ?_
 refine Ch.cs 13 rfl ?_ ?_<;>intro h1 q1
 refine ac ?_
 refine TN 1 47 rfl ?_
 refine ac ?_
 refine ac ?_
 · refine int_eq (if_neg (fun hv=> ?_)).symm;have ok:=DG.1 hv;have v1:=ok.name;have v2:=ok.least;have v3:=ok.lm;have v4:=ok.most;have v5:=S9 ok.A0;have v6:=ok.YZ;have v7:=ok.AAk;simp_all
 refine ac ?_
 refine Ch.cs 18 rfl ?_ ?_<;>intro h2 q2
 refine ac ?_
 refine TN 1 47 rfl ?_
 refine ac ?_
 refine ac ?_
 · exact Nk
 refine ac ?_
 refine Ch.cs 25 rfl ?_ ?_<;>intro h3 q3
 refine ac ?_
 refine TN 1 47 rfl ?_
 refine ac ?_
 refine ac ?_
 · exact Nk
 refine ac ?_
 refine Ch.cs 30 rfl ?_ ?_<;>intro h4 q4
 refine ac ?_
 refine TN 1 47 rfl ?_
 refine ac ?_
 refine ac ?_
 · exact Nk
 refine ac ?_
 refine Ch.cs 36 rfl ?_ ?_<;>intro h5 q5
 refine ac ?_
 refine TN 1 47 rfl ?_
 refine ac ?_
 refine ac ?_
 · exact Nk
 refine ac ?_
 refine Ch.cs 42 rfl ?_ ?_<;>intro h6 q6
 refine ac ?_
 refine TN 1 47 rfl ?_
 refine ac ?_
 refine ac ?_
 · exact Nk
 refine ac ?_
 refine TN 1 47 rfl ?_
 refine Tr.cn rfl ?_ ?_<;>intro h7 q7
 refine ac ?_
 refine ac ?_
 · exact Nk
 refine ac ?_
 refine ac ?_
 refine Tr.block (Tr.BD [(1,_)] ⟨ke rfl,trivial⟩ (fun i:Nat=>[(3,int ((i:Nat):Int))]) (fun i:Nat=>i≤(e.A0).length∧(∀j,j<i→GO e.A0 j=true)) (fun i:Nat=>(e.A0).length-i) 0 (⟨Nat.zero_le _,fun j hj=>absurd hj AA⟩) ⟨ke rfl,trivial⟩ ?_)
 rintro i ⟨XH,E5⟩
 refine ac ?_
 refine Tr.cn rfl ?_ ?_<;>intro h8 q8
 have Jc:i<(e.A0).length:=AH h8
 obtain ⟨x,LD⟩:=at_ Jc
 have hg:=getD_at (d:=(0:Int)) LD
 refine ac ?_
 refine ao ?_
 refine tp rfl (AD rfl underlying22 Bw (vl rfl) (vl rfl) AA (Aa LD)) (tp rfl (F5 rfl Cq rfl) (tp rfl (Ct (gI) rfl rfl) ?_))
 refine ao ?_
 refine Tl rfl rfl rfl rfl Sq IJ (fun b1=> ?_)
 refine sf 0 4 ⟨rfl,rfl,rfl⟩ rfl rfl rfl rfl ?_
 refine ao ?_
 refine F6 1 3 5 rfl ?_
 refine ac ?_
 refine Ch.cs 66 rfl ?_ ?_<;>intro h9 q9
 have AGU:¬(1≤x∧x≤16):=by intro hh;rw [if_pos hh] at h9;exact absurd h9 AB
 refine ac ?_
 refine F6 1 3 77 rfl ?_
 refine ac ?_
 refine ac ?_
 · refine int_eq (if_neg (fun hv=> ?_)).symm;have ok:=DG.1 hv;have h_:=B7.1 (show allI (GO e.A0) e.A0.length=true from ok.A0) i AA;unfold GO at h_;rw [hg] at h_;exact AGU (by simpa using and1 h_)
 have hin:1≤x∧x≤16:=by refine Decidable.byContradiction fun hh=> ?_;rw [if_neg hh] at h9;exact absurd h9 AB
 refine ac ?_
 refine cy h9 rfl (Dx rfl underlying22 Bw (vl rfl) (vl rfl) AA CE) ?_
 refine ac ?_
 refine cy h9 rfl (AD rfl underlying22 Bw (vl rfl) (vl rfl) AA (Aa LD)) (cy h9 rfl (F5 rfl Cq rfl) ?_)
 refine cy h9 rfl (AR rfl (KG (l:=e.A0.take i) (v:=x)) ⟨⟨_,rfl,Pr.le_of_eq (by rw [←List.map_take,Int.toNat_natCast])⟩,ke rfl,trivial⟩) ?_
 refine ac ?_
 refine F6 1 3 77 rfl ?_
 refine Tr.cn rfl ?_ ?_<;>intro h10 Re
 refine ac ?_
 refine ac ?_
 · refine int_eq (if_neg (fun hv=> ?_)).symm;have ok:=DG.1 hv;have h_:=B7.1 (show allI (GO e.A0) e.A0.length=true from ok.A0) i AA;unfold GO at h_;rw [hg] at h_;exact absurd (by assumption:((e.A0.take i).any fun y=>x==y)=true) (by have h2:=yK h_;rw [Bool.not_eq_true'] at h2;rw [h2];decide)
 refine ac ?_
 refine ac ?_
 exact Fin.AL (i+1) ⟨⟨Jc,D9 E5 (by unfold GO;rw [hg];rw [decide_eq_true hin];simp_all)⟩,by omega⟩ ⟨⟨_,rfl,AG i⟩,ke rfl,trivial⟩
 have PW:i=(e.A0).length:=by have:=AJ h8;omega
 subst PW
 refine ac ?_
 refine ac ?_
 refine Tr.block (Tr.BD [(1,_)] ⟨ke rfl,trivial⟩ (fun m:Nat=>[(6,int ((m:Nat):Int))]) (fun m:Nat=>m≤(e.ids).length∧(∀j y,j<m→e.ids[j]? =some y→(!idB y)=false)) (fun m:Nat=>(e.ids).length-m) 0 (⟨Nat.zero_le _,fun j y hj=>absurd hj AA⟩) ⟨ke rfl,trivial⟩ ?_)
 rintro m ⟨ND,Hy⟩
 refine ac ?_
 refine Tr.cn rfl ?_ ?_<;>intro h11 Sw
 have EW:m<(e.ids).length:=AH h11
 obtain ⟨x,Ef⟩:=at_ EW
 refine ac ?_
 refine ac ?_
 refine co rfl (AD rfl underlying38 E3 (vl rfl) (vl rfl) AA (Aa Ef)) ?_
 refine ac ?_
 refine co rfl (AD rfl underlying38 E3 (vl rfl) (vl rfl) AA (Aa Ef)) ?_
 refine ac ?_
 refine co rfl (AD rfl underlying38 E3 (vl rfl) (vl rfl) AA (Aa Ef)) ?_
 refine ac ?_
 refine co rfl (LI (gJ) rfl rfl rfl rfl) ?_
 refine ac ?_
 refine F6 1 6 104 rfl ?_
 refine Tr.cn rfl ?_ ?_<;>intro h12 WE
 refine ac ?_
 refine ac ?_
 · refine int_eq (if_neg (fun hv=> ?_)).symm;have ok:=DG.1 hv;have h_:=List.all_eq_true.1 ok.ids x (List.mem_of_getElem? Ef);unfold idB at h_;simp_all
 refine ac ?_
 refine ac ?_
 exact Fin.AL (m+1) ⟨⟨EW,DV (p:=fun c=> !idB c) Ef (by unfold idB;simp_all) Hy⟩,by omega⟩ ⟨⟨_,rfl,AG m⟩,ke rfl,trivial⟩
 have KH:m=(e.ids).length:=by have:=AJ h11;omega
 subst KH
 have hall:=M4 Hy
 refine ac ?_
 refine ac ?_
 refine Tr.block (Tr.BD [(1,_)] ⟨ke rfl,trivial⟩ (fun o:Nat=>[(7,int ((o:Nat):Int))]) (fun o:Nat=>o≤(e.anchors).length∧(∀j,j<o→(IL e.anchors j&&H9 (e.anchors[j]?.getD 0))=true)) (fun o:Nat=>(e.anchors).length-o) 0 (⟨Nat.zero_le _,fun j hj=>absurd hj AA⟩) ⟨ke rfl,trivial⟩ ?_)
 rintro o ⟨ACx,L6⟩
 refine ac ?_
 refine Tr.cn rfl ?_ ?_<;>intro Nf cZ
 have gK:o<(e.anchors).length:=AH Nf
 obtain ⟨a,UN⟩:=at_ gK
 have hg:=getD_at (d:=(0:Int)) UN
 refine ac ?_
 refine ac ?_
 refine co rfl (AD rfl underlying22 Bw (vl rfl) (vl rfl) AA (Aa UN)) ?_
 refine ac ?_
 refine Ch.cs 118 rfl ?_ ?_<;>intro Ng q14
 refine ac ?_
 refine F6 1 7 143 rfl ?_
 refine ac ?_
 refine ac ?_
 · exact jq
 refine ac ?_
 refine cy Ng rfl (AD rfl underlying22 Bw (vl rfl) (vl rfl) AA (Aa UN)) ?_
 refine ac ?_
 refine Ch.cs 126 rfl ?_ ?_<;>intro Wh q15
 refine ac ?_
 refine F6 1 7 143 rfl ?_
 refine ac ?_
 refine ac ?_
 · exact jq
 refine ac ?_
 refine Ch.cs 129 rfl ?_ ?_<;>intro h16 q16
 have hk0:0<o:=by simpa using h16
 obtain ⟨y,hy⟩:=at_ (l:=e.anchors) (k:=o-1) AA
 have WA:=getD_at (d:=(0:Int)) hy
 refine ac ?_
 refine cy h16 rfl (AD rfl underlying22 Bw (vl rfl) (vl rfl) AA (by rw [show ((o:Nat):Int)-1=((o-1:Nat):Int) by omega];exact Aa hy)) ?_
 refine ac ?_
 refine cy h16 rfl (AD rfl underlying22 Bw (vl rfl) (vl rfl) AA (Aa UN)) ?_
 refine ac ?_
 refine F6 1 7 143 rfl ?_
 refine Tr.cn rfl ?_ ?_<;>intro PL q17
 refine ac ?_
 refine ac ?_
 · refine int_eq (if_neg (fun hv=> ?_)).symm;have ok:=DG.1 hv;have h_:=B7.1 (show allI (IL e.anchors) e.anchors.length=true from ok.anc) o AA;unfold IL at h_;rw [hg,WA] at h_;simp at h_;omega
 refine ac ?_
 refine ac ?_
 exact Fin.AL (o+1) ⟨⟨gK,(fun j hj=>by rcases Nat.lt_or_eq_of_le (Nat.le_of_lt_succ hj) with h_|h_;exact L6 j h_;(subst h_;unfold IL H9;rw [hg];rw [WA];simp_all))⟩,by omega⟩ ⟨⟨_,rfl,AG o⟩,ke rfl,trivial⟩
 have L2:¬0<o:=by simpa using h16
 refine ac ?_
 refine F6 1 7 143 rfl ?_
 refine ac ?_
 refine ac ?_
 exact Fin.AL (o+1) ⟨⟨gK,(fun j hj=>by rcases Nat.lt_or_eq_of_le (Nat.le_of_lt_succ hj) with h_|h_;exact L6 j h_;(subst h_;unfold IL H9;rw [hg];simp_all))⟩,by omega⟩ ⟨⟨_,rfl,AG o⟩,ke rfl,trivial⟩
 have yL:o=(e.anchors).length:=by have:=AJ Nf;omega
 subst yL
 refine ac ?_
 refine ac ?_
 refine Tr.block (Tr.BD [(1,_)] ⟨ke rfl,trivial⟩ (fun q:Nat=>[(8,int ((q:Nat):Int))]) (fun q:Nat=>q≤(e.hashes).length∧(∀j,j<q→(IL e.hashes j&&Rb (e.hashes[j]?.getD 0))=true)) (fun q:Nat=>(e.hashes).length-q) 0 (⟨Nat.zero_le _,fun j hj=>absurd hj AA⟩) ⟨ke rfl,trivial⟩ ?_)
 rintro q ⟨AHP,Vb⟩
 refine ac ?_
 refine Tr.cn rfl ?_ ?_<;>intro Sb q18
 have yM:q<(e.hashes).length:=AH Sb
 obtain ⟨a,XI⟩:=at_ yM
 have hg:=getD_at (d:=(0:Int)) XI
 refine ac ?_
 refine ac ?_
 refine co rfl (AD rfl underlying22 Bw (vl rfl) (vl rfl) AA (Aa XI)) (co rfl (F5 rfl Cq rfl) (co rfl (Ct (QA) rfl rfl) ?_))
 refine ac ?_
 refine Ch.cs 158 rfl ?_ ?_<;>intro h19 q19
 refine ac ?_
 refine F6 1 8 175 rfl ?_
 refine ac ?_
 refine ac ?_
 · refine int_eq (if_neg (fun hv=> ?_)).symm;have ok:=DG.1 hv;have h_:=List.all_eq_true.1 ok.hsh a (List.mem_of_getElem? XI);unfold Rb at h_;simp_all
 refine ac ?_
 refine Ch.cs 161 rfl ?_ ?_<;>intro Sd q20
 have hk0:0<q:=by simpa using Sd
 obtain ⟨y,hy⟩:=at_ (l:=e.hashes) (k:=q-1) AA
 have WA:=getD_at (d:=(0:Int)) hy
 refine ac ?_
 refine cy Sd rfl (AD rfl underlying22 Bw (vl rfl) (vl rfl) AA (by rw [show ((q:Nat):Int)-1=((q-1:Nat):Int) by omega];exact Aa hy)) ?_
 refine ac ?_
 refine cy Sd rfl (AD rfl underlying22 Bw (vl rfl) (vl rfl) AA (Aa XI)) ?_
 refine ac ?_
 refine F6 1 8 175 rfl ?_
 refine Tr.cn rfl ?_ ?_<;>intro cR q21
 refine ac ?_
 refine ac ?_
 · refine int_eq (if_neg (fun hv=> ?_)).symm;have ok:=DG.1 hv;have h_:=B7.1 (show allI (IL e.hashes) e.hashes.length=true from ok.hash) q AA;unfold IL at h_;rw [hg,WA] at h_;simp at h_;omega
 refine ac ?_
 refine ac ?_
 exact Fin.AL (q+1) ⟨⟨yM,(fun j hj=>by rcases Nat.lt_or_eq_of_le (Nat.le_of_lt_succ hj) with h_|h_;exact Vb j h_;(subst h_;unfold IL Rb;rw [hg];rw [WA];simp_all))⟩,by omega⟩ ⟨⟨_,rfl,AG q⟩,ke rfl,trivial⟩
 have L2:¬0<q:=by simpa using Sd
 refine ac ?_
 refine F6 1 8 175 rfl ?_
 refine ac ?_
 refine ac ?_
 exact Fin.AL (q+1) ⟨⟨yM,(fun j hj=>by rcases Nat.lt_or_eq_of_le (Nat.le_of_lt_succ hj) with h_|h_;exact Vb j h_;(subst h_;unfold IL Rb;rw [hg];simp_all))⟩,by omega⟩ ⟨⟨_,rfl,AG q⟩,ke rfl,trivial⟩
 have AGV:q=(e.hashes).length:=by have:=AJ Sb;omega
 subst AGV
 refine ac ?_
 refine ac ?_
 refine ac ?_
 · refine int_eq (if_pos (DG.2 ⟨by simp_all,by omega,by omega,by omega,B7.2 E5,by omega,by omega,B7.2 (fun j hj=>and1 (L6 j hj)),B7.2 (fun j hj=>and1 (Vb j hj)),hall,mY (fun j hj=>yK (L6 j hj)),mY (fun j hj=>yK (Vb j hj))⟩)).symm
theorem FO {e:CA} (G2:e.small):BC Tryz.prog 148 [agg (Bg e)] (int (if GY e then 0 else 19)):=ZU (by have:=G2.hashes;omega)
theorem me {a b:List (Int)}  :BC prog 87 [ints a,ints b] (bool (decide (a=b))):=by
 refine fo func87 rfl ⟨rfl,rfl⟩ fun M0 w0=>(Tr.Cf 0 rfl fun D_=>(Tr.Cf 1 rfl fun Fl=> ?_))
 refine ac ?_
 refine an ?_ ?_<;>intro h1 q1
 have hne:¬a.length=b.length:=by simp_all;omega
 refine a2 ?_
 · exact UO
 have Sh:a.length=b.length:=by simp_all;omega
 refine a2 ?_
 refine Tr.block (Tr.BD _ (kk [12,1,0] rfl) (fun k:Nat=>[(13,int ((k:Nat):Int))]) (fun k:Nat=>k≤(a).length∧(a.take k=b.take k)) (fun k:Nat=>(a).length-k) 0 (⟨Nat.zero_le _,rfl⟩) kz ?_)
 rintro k ⟨BR,AX⟩
 refine ac ?_
 refine Tr.seq ?_
 refine Tr.cn rfl ?_ ?_<;>intro h2 q2
 have Ai:k<(a).length:=AH h2
 obtain ⟨x,Ah⟩:=at_ Ai
 obtain ⟨y,hy⟩:=at_ (l:=b) (k:=k) AA
 · repeat' first|(refine bool_eq ?_;symm;rw [decide_eq_false_iff_not];refine je Ah hy ?_;rintro rfl;simp_all)|exact Fin.AL (k+1) ⟨⟨Ai,WG Ah hy AX Bv⟩,by omega⟩ ⟨⟨_,rfl,AG k⟩,kz⟩|refine co rfl (AD rfl underlying22 Bw vq vq AA (Aa Ah)) ?_|refine co rfl (AD rfl underlying22 Bw vq vq AA (Aa hy)) ?_|refine ac ?_|(refine Tr.cn rfl ?_ ?_<;>intro h q)
 have BM:k=(a).length:=by have:=AJ h2;omega
 subst BM
 refine a3 ?_
 · exact UP
theorem yN {a b:List (List UInt8)}  :BC prog 185 [fU a,fU b] (bool (decide (a=b))):=by
 refine fo func185 rfl ⟨rfl,rfl⟩ fun M0 w0=>(Tr.Cf 0 rfl fun D_=>(Tr.Cf 1 rfl fun Fl=> ?_))
 refine ac ?_
 refine an ?_ ?_<;>intro h1 q1
 have hne:¬a.length=b.length:=by simp_all;omega
 refine a2 ?_
 · exact UO
 have Sh:a.length=b.length:=by simp_all;omega
 refine a2 ?_
 refine Tr.block (Tr.BD _ (kk [12,1,0] rfl) (fun k:Nat=>[(13,int ((k:Nat):Int))]) (fun k:Nat=>k≤(a).length∧(a.take k=b.take k)) (fun k:Nat=>(a).length-k) 0 (⟨Nat.zero_le _,rfl⟩) kz ?_)
 rintro k ⟨BR,AX⟩
 refine ac ?_
 refine Tr.seq ?_
 refine Tr.cn rfl ?_ ?_<;>intro h2 q2
 have Ai:k<(a).length:=AH h2
 obtain ⟨x,Ah⟩:=at_ Ai
 obtain ⟨y,hy⟩:=at_ (l:=b) (k:=k) AA
 · repeat' first|(refine bool_eq ?_;symm;rw [decide_eq_false_iff_not];refine je Ah hy ?_;rintro rfl;simp_all)|exact Fin.AL (k+1) ⟨⟨Ai,WG Ah hy AX Bv⟩,by omega⟩ ⟨⟨_,rfl,AG k⟩,kz⟩|refine co rfl (AD rfl underlying127 Ms vq vq AA (Aa Ah)) ?_|refine co rfl (AD rfl underlying127 Ms vq vq AA (Aa hy)) ?_|refine ac ?_|(refine Tr.cn rfl ?_ ?_<;>intro h q)
 have BM:k=(a).length:=by have:=AJ h2;omega
 subst BM
 refine a3 ?_
 · exact UP
abbrev AGW (l:List CA):Pr:=slice 9 (l.map Bg)
theorem tZ {a b:HJ}  :BC prog 142 [agg (DO a),agg (DO b)] (bool (decide (a=b))):=by
 refine fo func142 rfl ⟨rfl,rfl⟩ fun M0 w0=> ?_
 refine ac ?_
 refine wk [3,2] rfl (Tr.Q2 [2,3] [(5,bool (decide (a.Hw=b.Hw∧a.J8=b.J8∧a.HZ=b.HZ∧a.names=b.names)))] (True) ?_ (fun h1=> ?_))
 · repeat' first|exact Fin.AL () Bv ⟨⟨_,rfl,bool_eq Bv⟩,kz⟩|refine cy h rfl (CL (yN) rfl rfl rfl) ?_|refine ac ?_|(refine Ch.cg rfl rfl rfl ?_ ?_<;>intro h q)
 refine wk [5,3,2] rfl (Tr.Q2 [2,3,5] [(6,bool (decide (a.PU=b.PU∧a.JQ=b.JQ∧a.CR=b.CR∧a.VK=b.VK∧a.M6=b.M6∧a.fS=b.fS∧a.fT=b.fT)))] (True) ?_ (fun h5=> ?_))
 · repeat' first|exact Fin.AL () Bv ⟨⟨_,rfl,bool_eq Bv⟩,kz⟩|refine co rfl (P8 rfl vq vq) (cm rfl ?_)|refine cy h rfl (P8 rfl vq vq) ?_|refine cy h rfl (mU rfl vq vq) ?_|refine ac ?_|(refine Ch.cg rfl rfl rfl ?_ ?_<;>intro h q)
 · repeat' first|(refine bool_eq ?_;cases a;cases b;simp_all [Bool.beq_eq_decide_eq])|refine ac ?_|(refine Ch.cg rfl rfl rfl ?_ ?_<;>intro h q)
theorem td:Entry Tryz.prog 142:=⟨_,Tryz.func142,rfl,rfl⟩
theorem yO {a b:List HJ}  :BC prog 141 [LW a,LW b,Yn prog (fun p:HJ×HJ=>[agg (DO p.1),agg (DO p.2)]) (fun p=>bool (decide (p.1=p.2)))] (bool (decide (a=b))):=by
 refine fo func141 rfl ⟨rfl,rfl⟩ fun M0 w0=>(Tr.Cf 0 rfl fun D_=>(Tr.Cf 1 rfl fun Fl=> ?_))
 refine ac ?_
 refine an ?_ ?_<;>intro h1 q1
 have hne:¬a.length=b.length:=by simp_all;omega
 refine a2 ?_
 · exact UO
 have Sh:a.length=b.length:=by simp_all;omega
 refine a2 ?_
 refine Tr.block (Tr.BD _ (kk [16,15,2,1] rfl) (fun k:Nat=>[(17,int ((k:Nat):Int))]) (fun k:Nat=>k≤(a).length∧(a.take k=b.take k)) (fun k:Nat=>(a).length-k) 0 (⟨Nat.zero_le _,rfl⟩) kz ?_)
 rintro k ⟨BR,AX⟩
 refine ac ?_
 refine Tr.seq ?_
 refine Tr.cn rfl ?_ ?_<;>intro h2 q2
 have Ai:k<(a).length:=AH h2
 obtain ⟨x,Ah⟩:=at_ Ai
 obtain ⟨y,hy⟩:=at_ (l:=b) (k:=k) AA
 refine ac ?_
 refine ao ?_
 refine tp rfl (AD rfl underlying82 C8 (vl rfl) (vl rfl) AA (Aa Ah)) (tp rfl (AP rfl F_ C8 (vl rfl) rfl rfl) ?_)
 refine Tl rfl rfl rfl rfl RJ LU (fun b1=> ?_)
 refine tm rfl ?_
 refine sf 0 8 ⟨rfl,rfl,rfl⟩ rfl rfl rfl rfl ?_
 refine ao ?_
 refine ao ?_
 refine tp rfl (AD rfl underlying82 C8 (vl rfl) (vl rfl) AA (Aa hy)) (tp rfl (AP rfl F_ C8 (vl rfl) rfl rfl) ?_)
 refine Tl rfl rfl rfl rfl RJ LU (fun b2=> ?_)
 refine sf 0 9 ⟨rfl,rfl,rfl⟩ rfl rfl rfl rfl ?_
 refine ao ?_
 · exact jd
 have BM:k=(a).length:=by have:=AJ h2;omega
 subst BM
 refine a3 ?_
 · exact UP
theorem ACy {a b:Hx}  :BC prog 140 [agg (FB a),agg (FB b)] (bool (decide (a=b))):=by
 refine fo func140 rfl ⟨rfl,rfl⟩ fun M0 w0=> ?_
 · repeat' first|(refine bool_eq ?_;cases a;cases b;simp_all [Bool.beq_eq_decide_eq])|refine co rfl (P8 rfl vq vq) (cm rfl ?_)|refine cy h rfl (AR rfl (yO) ⟨kq,kq,⟨_,rfl,FJ (dom:=fun p:HJ×HJ=>[agg (DO p.1),agg (DO p.2)]) (res:=fun p=>bool (decide (p.1=p.2))) td (fun p=>tZ (a:=p.1) (b:=p.2))⟩,trivial⟩) ?_|refine ac ?_|(refine Ch.cg rfl rfl rfl ?_ ?_<;>intro h q)
theorem ACz:Entry Tryz.prog 140:=⟨_,Tryz.func140,rfl,rfl⟩
theorem yP {a b:List Hx}  :BC prog 143 [yC a,yC b,Yn prog (fun p:Hx×Hx=>[agg (FB p.1),agg (FB p.2)]) (fun p=>bool (decide (p.1=p.2)))] (bool (decide (a=b))):=by
 refine fo func143 rfl ⟨rfl,rfl⟩ fun M0 w0=>(Tr.Cf 0 rfl fun D_=>(Tr.Cf 1 rfl fun Fl=> ?_))
 refine ac ?_
 refine an ?_ ?_<;>intro h1 q1
 have hne:¬a.length=b.length:=by simp_all;omega
 refine a2 ?_
 · exact UO
 have Sh:a.length=b.length:=by simp_all;omega
 refine a2 ?_
 refine Tr.block (Tr.BD _ (kk [16,15,2,1] rfl) (fun k:Nat=>[(17,int ((k:Nat):Int))]) (fun k:Nat=>k≤(a).length∧(a.take k=b.take k)) (fun k:Nat=>(a).length-k) 0 (⟨Nat.zero_le _,rfl⟩) kz ?_)
 rintro k ⟨BR,AX⟩
 refine ac ?_
 refine Tr.seq ?_
 refine Tr.cn rfl ?_ ?_<;>intro h2 q2
 have Ai:k<(a).length:=AH h2
 obtain ⟨x,Ah⟩:=at_ Ai
 obtain ⟨y,hy⟩:=at_ (l:=b) (k:=k) AA
 refine ac ?_
 refine ao ?_
 refine tp rfl (AD rfl underlying38 E3 (vl rfl) (vl rfl) AA (Aa Ah)) (tp rfl (AP rfl Om E3 (vl rfl) rfl rfl) ?_)
 refine Tl rfl rfl rfl rfl WD So (fun b1=> ?_)
 refine tm rfl ?_
 refine sf 0 8 ⟨rfl,rfl,rfl⟩ rfl rfl rfl rfl ?_
 refine ao ?_
 refine ao ?_
 refine tp rfl (AD rfl underlying38 E3 (vl rfl) (vl rfl) AA (Aa hy)) (tp rfl (AP rfl Om E3 (vl rfl) rfl rfl) ?_)
 refine Tl rfl rfl rfl rfl WD So (fun b2=> ?_)
 refine sf 0 9 ⟨rfl,rfl,rfl⟩ rfl rfl rfl rfl ?_
 refine ao ?_
 · exact jd
 have BM:k=(a).length:=by have:=AJ h2;omega
 subst BM
 refine a3 ?_
 · exact UP
theorem tg {a b:CA}  :BC prog 80 [agg (Bg a),agg (Bg b)] (bool (decide (a=b))):=by
 refine fo func80 rfl ⟨rfl,rfl⟩ fun M0 w0=> ?_
 refine a2 ?_
 refine wk [5,3,2] rfl (Tr.Q2 [2,3,5] [(6,bool (decide (a.A0=b.A0∧a.anchors=b.anchors∧a.hashes=b.hashes)))] (True) ?_ (fun h1=> ?_))
 · repeat' first|exact Fin.AL () Bv ⟨⟨_,rfl,bool_eq Bv⟩,kz⟩|refine co rfl (CL (me) rfl rfl rfl) (cm rfl ?_)|refine cy h rfl (CL (me) rfl rfl rfl) ?_|refine ac ?_|(refine Ch.cg rfl rfl rfl ?_ ?_<;>intro h q)
 · repeat' first|(refine bool_eq ?_;cases a;cases b;simp_all [Bool.beq_eq_decide_eq])|refine cy h rfl (AR rfl (yP) ⟨kq,kq,⟨_,rfl,FJ (dom:=fun p:Hx×Hx=>[agg (FB p.1),agg (FB p.2)]) (res:=fun p=>bool (decide (p.1=p.2))) ACz (fun p=>ACy (a:=p.1) (b:=p.2))⟩,trivial⟩) ?_|refine ac ?_|(refine Ch.cg rfl rfl rfl ?_ ?_<;>intro h q)
structure Dl where
 Bt:List CA
 BU:List Ia
 items:List VY
 deriving DecidableEq
abbrev CK (e:Dl):List Pr:=[AGW e.Bt,IM e.BU,Ri e.items]
abbrev GC:Dl:=⟨[],[],[]⟩
structure Dl.fits (e:Dl):Prop where
 Bt:∀x∈e.Bt,x.fits∧x.small
 items:∀x∈e.items,x.name.length≤maxLen
 le:e.Bt.length≤1000000000000
 lg:e.BU.length≤1000000000000
 li:e.items.length≤1000000000000
def XJ (l:List CA) (i:Nat):Bool:=GY (l[i]?.getD FH)&&(decide (i=0)||decide (Lib.compareBytes (l[i-1]?.getD FH).name (l[i]?.getD FH).name= -1))
def FR (e:Dl):Bool:=(allI (XJ e.Bt) e.Bt.length&&decide (e.Bt.length≤16))&&VZ e.Bt.length e.BU&&(e.items.all Ox&&decide (e.items.length≤30))
structure wO (e:Dl):Prop where
 ep:∀j,j<e.Bt.length→XJ e.Bt j=true
 e16:e.Bt.length≤16
 ed:∀j,j<e.BU.length→Ek e.Bt.length e.BU j=true
 e40:e.BU.length≤40
 it:e.items.all Ox=true
 i30:e.items.length≤30
theorem FU {e:Dl}:FR e=true↔wO e:=by
 unfold FR VZ
 simp only [Bool.and_eq_true,decide_eq_true_eq,B7]
 exact ⟨fun ⟨⟨⟨h1,h2⟩,h3,h4⟩,h5,h6⟩=>⟨h1,h2,h3,h4,h5,h6⟩,fun h=>⟨⟨⟨h.ep,h.e16⟩,h.ed,h.e40⟩,h.it,h.i30⟩⟩
theorem eu {e:Dl} (h:wO e):VZ e.Bt.length e.BU=true:=by unfold VZ;simp only [Bool.and_eq_true,decide_eq_true_eq,B7];exact ⟨h.ed,h.e40⟩
theorem Dy {e:Dl} (hf:e.fits):BC prog 94 [agg (CK e)] (int (if FR e then 0 else 31)):=by
 refine fo func94 rfl ⟨rfl,rfl⟩ fun M0 w0=> ?_
 have hl1:=hf.le
 have hl2:=hf.lg
 have hl3:=hf.li
 refine ac ?_
 refine ac ?_
 refine Ch.cs 11 rfl ?_ ?_<;>intro h1 q1
 refine ac ?_
 refine TN 1 22 rfl ?_
 refine ac ?_
 refine ac ?_
 · exact Yf
 refine ac ?_
 refine Ch.cs 17 rfl ?_ ?_<;>intro h2 q2
 refine ac ?_
 refine TN 1 22 rfl ?_
 refine ac ?_
 refine ac ?_
 · exact Yf
 refine ac ?_
 refine TN 1 22 rfl ?_
 refine Tr.cn rfl ?_ ?_<;>intro h3 q3
 refine ac ?_
 refine ac ?_
 · exact Yf
 refine ac ?_
 refine ac ?_
 refine Tr.block (Tr.BD [(1,_)] ⟨ke rfl,trivial⟩ (fun k:Nat=>[(3,int ((k:Nat):Int))]) (fun k:Nat=>k≤(e.Bt).length∧(∀j,j<k→XJ e.Bt j=true)) (fun k:Nat=>(e.Bt).length-k) 0 (⟨Nat.zero_le _,fun j hj=>absurd hj AA⟩) ⟨ke rfl,trivial⟩ ?_)
 rintro k ⟨BR,AX⟩
 refine ac ?_
 refine Tr.cn rfl ?_ ?_<;>intro h4 q4
 have Ai:k<(e.Bt).length:=AH h4
 obtain ⟨x,Ah⟩:=at_ Ai
 have hg:=getD_at (d:=FH) Ah
 have hxf:=hf.Bt x (List.mem_of_getElem? Ah)
 refine ac ?_
 refine ac ?_
 refine co rfl (AD rfl underlying27 CC (vl rfl) (vl rfl) AA (Aa Ah)) (co rfl (AP rfl Cg CC (vl rfl) rfl rfl) (co rfl (Ct (FO hxf.2) rfl rfl) ?_))
 refine ac ?_
 refine Ch.cs 37 rfl ?_ ?_<;>intro h5 q5
 refine ac ?_
 refine F6 1 3 56 rfl ?_
 refine ac ?_
 refine ac ?_
 · refine int_eq (if_neg (fun hv=> ?_)).symm;have ok:=FU.1 hv;(have h_:=ok.ep k AA;unfold XJ at h_;rw [hg] at h_;simp_all)
 refine ac ?_
 refine Ch.cs 40 rfl ?_ ?_<;>intro h6 q6
 have hk0:0<k:=by simpa using h6
 obtain ⟨y,hy⟩:=at_ (l:=e.Bt) (k:=k-1) AA
 have WA:=getD_at (d:=FH) hy
 refine ac ?_
 refine cy h6 rfl (AD rfl underlying27 CC (vl rfl) (vl rfl) AA Li) ?_
 refine ac ?_
 refine cy h6 rfl (AD rfl underlying27 CC (vl rfl) (vl rfl) AA (Aa Ah)) ?_
 refine ac ?_
 refine cy h6 rfl (RO rfl (vl rfl) (vl rfl)) ?_
 refine ac ?_
 refine F6 1 3 56 rfl ?_
 refine Tr.cn rfl ?_ ?_<;>intro h7 q7
 refine ac ?_
 refine ac ?_
 · refine int_eq (if_neg (fun hv=> ?_)).symm;have ok:=FU.1 hv;(have h_:=ok.ep k AA;unfold XJ at h_;rw [hg,WA] at h_;simp_all)
 refine ac ?_
 refine ac ?_
 exact Fin.AL (k+1) ⟨⟨Ai,D9 AX (by unfold XJ;rw [hg,WA];simp_all)⟩,by omega⟩ ⟨⟨_,rfl,AG k⟩,ke rfl,trivial⟩
 have L2:¬0<k:=by simpa using h6
 refine ac ?_
 refine F6 1 3 56 rfl ?_
 refine ac ?_
 refine ac ?_
 exact Fin.AL (k+1) ⟨⟨Ai,D9 AX (by unfold XJ;rw [hg];simp_all)⟩,by omega⟩ ⟨⟨_,rfl,AG k⟩,ke rfl,trivial⟩
 have BM:k=(e.Bt).length:=by have:=AJ h4;omega
 subst BM
 have Vc:=AX
 refine ac ?_
 refine ac ?_
 refine Tr.block (Tr.BD [(1,_)] ⟨ke rfl,trivial⟩ (fun m:Nat=>[(4,int ((m:Nat):Int))]) (fun m:Nat=>m≤(e.BU).length∧(∀j,j<m→Ek e.Bt.length e.BU j=true)) (fun m:Nat=>(e.BU).length-m) 0 (⟨Nat.zero_le _,fun j hj=>absurd hj AA⟩) ⟨ke rfl,trivial⟩ ?_)
 rintro m ⟨ND,Hy⟩
 refine ac ?_
 refine Tr.cn rfl ?_ ?_<;>intro h8 q8
 have EW:m<(e.BU).length:=AH h8
 obtain ⟨c,Ef⟩:=at_ EW
 have hg:=getD_at (d:=Gi) Ef
 refine ac ?_
 refine ao ?_
 refine tp rfl (AD rfl underlying28 Ez (vl rfl) (vl rfl) AA (Aa Ef)) (tp rfl (AP rfl RG Ez (vl rfl) rfl rfl) ?_)
 refine Tl rfl rfl rfl rfl Y9 Wn (fun b1=> ?_)
 refine sf 0 5 ⟨rfl,rfl,rfl⟩ rfl rfl rfl rfl ?_
 refine ao ?_
 refine F6 1 4 5 rfl ?_
 refine ac ?_
 refine Ch.cs 72 rfl ?_ ?_<;>intro h9 q9
 refine ac ?_
 refine WC 1 4 5 99 rfl ?_
 refine ac ?_
 refine ac ?_
 · exact UK
 refine ac ?_
 refine Ch.cs 80 rfl ?_ ?_<;>intro h10 Re
 refine ac ?_
 refine WC 1 4 5 99 rfl ?_
 refine ac ?_
 refine ac ?_
 · exact UK
 refine ac ?_
 refine Ch.cs 85 rfl ?_ ?_<;>intro h11 Sw
 refine ac ?_
 refine WC 1 4 5 99 rfl ?_
 refine ac ?_
 refine ac ?_
 · exact UK
 refine ac ?_
 refine Ch.cs 93 rfl ?_ ?_<;>intro h12 WE
 refine ac ?_
 refine WC 1 4 5 99 rfl ?_
 refine ac ?_
 refine ac ?_
 · exact UK
 refine ac ?_
 refine WC 1 4 5 99 rfl ?_
 refine Tr.cn rfl ?_ ?_<;>intro Nf cZ
 refine ac ?_
 refine ac ?_
 · refine int_eq (if_neg (fun hv=> ?_)).symm;have ok:=FU.1 hv;(have h_:=ok.ed m AA;unfold Ek at h_;rw [hg] at h_;simp_all)
 refine ac ?_
 refine ac ?_
 refine Ch.cs 102 rfl ?_ ?_<;>intro Ng q14
 have hk0:0<m:=by simpa using Ng
 obtain ⟨y,hy⟩:=at_ (l:=e.BU) (k:=m-1) AA
 have WA:=getD_at (d:=Gi) hy
 refine ac ?_
 refine cy Ng rfl (AD rfl underlying28 Ez (vl rfl) (vl rfl) AA Ym) ?_
 refine ac ?_
 refine Ch.cs 113 rfl ?_ ?_<;>intro Wh q15
 refine ac ?_
 refine F6 1 4 137 rfl ?_
 refine ac ?_
 refine ac ?_
 · exact jt
 refine ac ?_
 refine cy Wh rfl (AD rfl underlying28 Ez (vl rfl) (vl rfl) AA Ym) ?_
 refine ac ?_
 refine Ch.cs 124 rfl ?_ ?_<;>intro h16 q16
 refine ac ?_
 refine cy h16 rfl (AD rfl underlying28 Ez (vl rfl) (vl rfl) AA Ym) ?_
 refine ac ?_
 refine F6 1 4 137 rfl ?_
 refine Tr.cn rfl ?_ ?_<;>intro PL q17
 refine ac ?_
 refine ac ?_
 · exact jt
 refine ac ?_
 refine ac ?_
 exact Fin.AL (m+1) ⟨⟨EW,D9 Hy (by unfold Ek;rw [hg,WA];simp_all)⟩,by omega⟩ ⟨⟨_,rfl,AG m⟩,ke rfl,trivial⟩
 refine ac ?_
 refine F6 1 4 137 rfl ?_
 refine ac ?_
 refine ac ?_
 exact Fin.AL (m+1) ⟨⟨EW,D9 Hy (by unfold Ek;rw [hg,WA];simp_all;omega)⟩,by omega⟩ ⟨⟨_,rfl,AG m⟩,ke rfl,trivial⟩
 have L2:¬0<m:=by simpa using Ng
 refine ac ?_
 refine F6 1 4 137 rfl ?_
 refine ac ?_
 refine ac ?_
 exact Fin.AL (m+1) ⟨⟨EW,D9 Hy (by unfold Ek;rw [hg];simp_all)⟩,by omega⟩ ⟨⟨_,rfl,AG m⟩,ke rfl,trivial⟩
 have KH:m=(e.BU).length:=by have:=AJ h8;omega
 subst KH
 refine ac ?_
 refine ac ?_
 refine Tr.block (Tr.BD [(1,_)] ⟨ke rfl,trivial⟩ (fun o:Nat=>[(6,int ((o:Nat):Int))]) (fun o:Nat=>o≤(e.items).length∧(∀j y,j<o→e.items[j]? =some y→(!Ox y)=false)) (fun o:Nat=>(e.items).length-o) 0 (⟨Nat.zero_le _,fun j y hj=>absurd hj AA⟩) ⟨ke rfl,trivial⟩ ?_)
 rintro o ⟨ACx,L6⟩
 refine ac ?_
 refine Tr.cn rfl ?_ ?_<;>intro Sb q18
 have gK:o<(e.items).length:=AH Sb
 obtain ⟨x,UN⟩:=at_ gK
 refine ac ?_
 refine ac ?_
 refine co rfl (AD rfl underlying29 HX (vl rfl) (vl rfl) AA (Aa UN)) (co rfl (AP rfl U3 HX (vl rfl) rfl rfl) (co rfl (Ct (ZO) rfl rfl) ?_))
 refine ac ?_
 refine F6 1 6 151 rfl ?_
 refine Tr.cn rfl ?_ ?_<;>intro h19 q19
 refine ac ?_
 refine ac ?_
 · refine int_eq (if_neg (fun hv=> ?_)).symm;have ok:=FU.1 hv;(have h_:=List.all_eq_true.1 ok.it x (List.mem_of_getElem? UN);simp_all)
 refine ac ?_
 refine ac ?_
 exact Fin.AL (o+1) ⟨⟨gK,DV (p:=fun c=> !Ox c) UN Bv L6⟩,by omega⟩ ⟨⟨_,rfl,AG o⟩,ke rfl,trivial⟩
 have yL:o=(e.items).length:=by have:=AJ Sb;omega
 subst yL
 have hall:=M4 L6
 refine ac ?_
 refine ac ?_
 refine ac ?_
 · refine int_eq (if_pos (FU.2 ⟨Vc,by omega,Hy,by omega,hall,by omega⟩)).symm
theorem yQ {d:Nat} {w:World} {x0 y0:Int} {x1 y1:Int}:(Op.equalIn (d+2) 132 (.agg #[.int .i64 x0,.int .i64 x1]) (.agg #[.int .i64 y0,.int .i64 y1])).run Tryz.prog w= .ok (decide (x0=y0∧x1=y1)) w:=by
 have h:=eqS (w:=w) (d:=d+1) (xs:= #[.int .i64 x0,.int .i64 x1]) (ys:= #[.int .i64 y0,.int .i64 y1]) Tryz.underlying132 BV (E_ AB (CH Cq rfl) (CH Cq rfl) (GN (d:=d+0) Tryz.underlying3) (E_ AB (CH Cq rfl) (CH Cq rfl) (GN (d:=d+0) Tryz.underlying3) (Mw)))
 refine h.trans (congrArg (fun b=>Result.ok b w) ?_)
 rw [Bool.eq_iff_iff];simp [and_assoc]
theorem mg {E:Env} {I:Ce} {o:Oper} {u:TypeId} {x y:Operand} {x0 y0:Int} {x1 y1:Int} (ho:o.op= .binOp .neq 132 x y u) (hx:VL E x (agg [is (.int .i64 x0),is (.int .i64 x1)])) (hy:VL E y (agg [is (.int .i64 y0),is (.int .i64 y1)])):Ae Tryz.prog I o E (bool (!decide (x0=y0∧x1=y1))):=
 RP [.int .i64 x0,.int .i64 x1] [.int .i64 y0,.int .i64 y1] ho hx hy BV (fun w=>by rw [show Op.equal 132 _ _=Op.equalIn (9998+2) 132 _ _ from rfl];exact yQ)
def setAt (n:Int) (l:List Int) (i:Nat):Bool:=decide (0≤l[i]?.getD 0)&&decide (l[i]?.getD 0<n)&&(decide (i=0)||decide (l[i-1]?.getD 0<l[i]?.getD 0))
def DW (n:Int) (l:List Int):Bool:=allI (setAt n l) l.length
theorem L7 {l:List Int} {n:Int}  :BC prog 82 [ints l,int n] (bool (DW n l)):=by
 refine fo func82 rfl ⟨rfl,rfl⟩ fun M0 w0=>(Tr.Cf 0 rfl fun D_=> ?_)
 refine a2 ?_
 refine Tr.block (Tr.BD _ (kk [8,7,1,0] rfl) (fun k:Nat=>[(9,int ((k:Nat):Int))]) (fun k:Nat=>k≤(l).length∧(∀j,j<k→setAt n l j=true)) (fun k:Nat=>(l).length-k) 0 (⟨Nat.zero_le _,fun j hj=>absurd hj AA⟩) kz ?_)
 rintro k ⟨BR,AX⟩
 refine ac ?_
 refine Tr.seq ?_
 refine Tr.cn rfl ?_ ?_<;>intro h1 q1
 have Ai:k<(l).length:=AH h1
 obtain ⟨x,Ah⟩:=at_ Ai
 have hg:=getD_at (d:=(0:Int)) Ah
 refine a2 ?_
 refine co rfl (AD rfl underlying51 Bw vq vq AA (Aa Ah)) ?_
 refine ac ?_
 refine ag ?_ ?_<;>intro h2 q2
 refine ac ?_
 refine wk [33,9,8,7,1,0] rfl ?_
 refine a2 ?_
 · exact j5
 refine ag ?_ ?_<;>intro h3 q3
 refine ac ?_
 refine wk [33,9,8,7,1,0] rfl ?_
 refine a2 ?_
 · exact j5
 refine ag ?_ ?_<;>intro h4 q4
 have hk0:0<k:=by simpa using h4
 obtain ⟨y,hy⟩:=at_ (l:=l) (k:=k-1) AA
 have WA:=getD_at (d:=(0:Int)) hy
 · repeat' first|(refine bool_eq ?_;unfold DW;rw [Qt (p:=setAt n l) (k:=k) AA (by unfold setAt;rw [hg,WA];simp_all;omega)])|(exact Fin.AL (k+1) ⟨⟨Ai,D9 AX (by unfold setAt;rw [hg,WA];simp_all)⟩,by omega⟩ ⟨⟨_,rfl,AG k⟩,kz⟩)|(refine cy h4 rfl (AD rfl underlying51 Bw vq vq AA Li) ?_)|refine ac ?_|(refine Tr.cn rfl ?_ ?_<;>intro h q)
 have L2:¬0<k:=by simpa using h4
 refine ac ?_
 refine wk [33,9,8,7,1,0] rfl ?_
 refine a2 ?_
 exact Fin.AL (k+1) ⟨⟨Ai,D9 AX (by unfold setAt;rw [hg];simp_all)⟩,by omega⟩ ⟨⟨_,rfl,AG k⟩,kz⟩
 have BM:k=(l).length:=by have:=AJ h1;omega
 subst BM
 refine a3 ?_
 · refine bool_eq ?_;unfold DW;rw [lQ AX]
theorem c_ {l:List Int} {v:Int}  :BC prog 92 [ints l,int v] (bool (l.any fun x=>v==x)):=by
 refine fo func92 rfl ⟨rfl,rfl⟩ fun M0 w0=>(Tr.Cf 0 rfl fun D_=> ?_)
 refine a2 ?_
 refine Tr.block (Tr.BD _ (kk [8,7,1] rfl) (fun k:Nat=>[(9,int ((k:Nat):Int))]) (fun k:Nat=>k≤(l).length∧((l.take k).any (fun x=>v==x)=false)) (fun k:Nat=>(l).length-k) 0 (⟨Nat.zero_le _,rfl⟩) kz ?_)
 rintro k ⟨BR,AX⟩
 refine ac ?_
 refine Tr.seq ?_
 refine Tr.cn rfl ?_ ?_<;>intro h1 q1
 have Ai:k<(l).length:=AH h1
 obtain ⟨x,Ah⟩:=at_ Ai
 refine ac ?_
 refine Tr.seq (Tr.block (Tr.seq (Tr.Aj (co rfl (AD rfl underlying22 Bw vq vq AA (Aa Ah)) ?_))))
 · repeat' first|(refine bool_eq ?_;symm;rw [List.any_eq_true];exact ⟨_,List.mem_of_getElem? Ah,by simp_all⟩)|(exact Fin.AL (k+1) ⟨⟨Ai,bQ⟩,by omega⟩ ⟨⟨_,rfl,AG k⟩,kz⟩)|refine ac ?_|(refine Tr.cn rfl ?_ ?_<;>intro h q)
 have BM:k=(l).length:=by have:=AJ h1;omega
 subst BM
 refine a3 ?_
 · exact UQ
def usL:List (Int×Int):=[(2,0),(1,0),(5,2048),(16,128),(3,0),(15,168)]
def dA (v:Int):Int×Int:=usL[v.toNat]?.getD (2,0)
theorem AC0 {v:Int} (h:0≤v∧v<6):(usL.map fun u=>[int u.1,int u.2])[v.toNat]? =some [int (dA v).1,int (dA v).2]:=by
 have hl:v.toNat<usL.length:=by show v.toNat<6;omega
 unfold dA;rw [List.getElem?_map,List.getElem?_eq_getElem hl];rfl
theorem yR:∀u∈usL,Dr u.1 u.2>0:=by decide+kernel
theorem wP (v:Int):Dr (dA v).1 (dA v).2>0:=by
 unfold dA
 cases h:usL[v.toNat]? with
 |none=>decide+kernel
 |some u=>exact yR u (List.mem_of_getElem? h)
def L8:Nat→DS→Int→List XF→List XF×Int×DS
 |0,s,day,l=>(l,day,s)
 |k+1,s,day,l=>L8 k s.Cd.Cd (day+1+s.Cd.of [5,30,0,100]) (l++[⟨(dA (s.val 6)).1,(dA (s.val 6)).2,day⟩])
abbrev EX (s:DS):List XF×Int×DS:=L8 (1+s.Cd.Cd.Cd.val 3).toNat s.Cd.Cd.Cd.Cd (s.Cd.Cd.val 20) []
def Tm (s:DS) (name:List UInt8):VY:=⟨name,1+s.val 2,1+s.Cd.val 4,(EX s).1,((EX s).1[0]?.getD FN).day+(EX s).2.2.of [50,300,0,3000]⟩
def AC1 (s:DS):DS:=(EX s).2.2.Cd
structure gL (l:List XF) (day:Int):Prop where
 lo:0≤day
 hi:day≤20+101*(l.length:Nat)
 at_:∀j,j<l.length→Gw l j=true
 lt:∀x∈l,x.day<day
theorem XK {l:List XF} {day d:Int} {u:Int×Int} (h:gL l day) (h3:l.length≤3) (hu:Dr u.1 u.2>0) (hd:0≤d∧d≤100):gL (l++[⟨u.1,u.2,day⟩]) (day+1+d):=by
 have h0:=h.lo;have h1:=h.hi
 refine ⟨by omega,by rw [List.length_append];simp;omega,fun j hj=> ?_,fun x hx=> ?_⟩
 ·
  rw [List.length_append] at hj;simp at hj
  rcases Nat.lt_or_ge j l.length with hl|hl
  ·
   have:=h.at_ j hl
   unfold Gw at this ⊢
   rw [List.getElem?_append_left hl,List.getElem?_append_left (show j-1<l.length by omega)];exact this
  ·
   have:j=l.length:=by omega
   subst this
   unfold Gw
   rw [List.getElem?_append_right (Nat.le_refl _),Nat.sub_self]
   rcases Nat.eq_zero_or_pos l.length with hz|hz
   ·
    obtain rfl:=List.eq_nil_of_length_eq_zero hz
    simp [hu];simp at h1;omega
   ·
    obtain ⟨y,hy⟩:=at_ (l:=l) (k:=l.length-1) AA
    rw [List.getElem?_append_left (show l.length-1<l.length by omega),hy]
    have:=h.lt y (List.mem_of_getElem? hy)
    simp [hu];omega
 ·
  rcases List.mem_append.1 hx with hx|hx
  · have:=h.lt x hx;omega
  · simp at hx;subst hx;show day<_;omega
theorem ZV (s:DS):0≤s.of [5,30,0,100]∧s.of [5,30,0,100]≤100:=by have:=s.RB (l:=[5,30,0,100]) AV;simp at this;omega
theorem mh (s:DS):0≤s.of [50,300,0,3000]∧s.of [50,300,0,3000]≤3000:=by have:=s.RB (l:=[50,300,0,3000]) AV;simp at this;omega
theorem Tn:∀(k:Nat) (s:DS) (day:Int) (l:List XF),gL l day→l.length+k≤3→gL (L8 k s day l).1 (L8 k s day l).2.1∧(L8 k s day l).1.length=l.length+k
 |0,s,day,l,h,_=>⟨h,rfl⟩
 |k+1,s,day,l,h,hk=>by
  have:=Tn k s.Cd.Cd (day+1+s.Cd.of [5,30,0,100]) (l++[⟨(dA (s.val 6)).1,(dA (s.val 6)).2,day⟩]) (XK h AA (wP _) (ZV _)) CE
  refine ⟨this.1,?_⟩
  show (L8 k _ _ _).1.length=_
  rw [this.2];simp;omega
structure ZW (x:VY):Prop where
 ok:Ox x=true
 name:x.name.length≤32
 links:x.links.length≤3
theorem dB {s:DS} {name:List UInt8} (hn:named name=true):ZW (Tm s name):=by
 have h2:=s.DD (n:=2) AA
 have h4:=s.Cd.DD (n:=4) AA
 have Sd:=s.Cd.Cd.DD (n:=20) AA
 have h3:=s.Cd.Cd.Cd.DD (n:=3) AA
 have hI:gL [] (s.Cd.Cd.val 20):=⟨by omega,by simp;omega,fun j hj=>by simp at hj,fun x hx=>by simp at hx⟩
 obtain ⟨hL,hl⟩:=Tn (1+s.Cd.Cd.Cd.val 3).toNat s.Cd.Cd.Cd.Cd (s.Cd.Cd.val 20) [] hI CE
 simp only [List.length_nil,Nat.zero_add] at hl
 have hlen:(EX s).1.length=(1+s.Cd.Cd.Cd.val 3).toNat:=hl
 have hu:=mh (EX s).2.2
 obtain ⟨c,hc⟩:=at_ (l:=(EX s).1) (k:=0) AA
 have hg:=getD_at (d:=FN) hc
 have hc1:=hL.lt c (List.mem_of_getElem? hc)
 have hc2:=hL.hi
 refine ⟨Gv.2 ⟨hn,?_,?_,?_,?_,?_,hL.at_,?_,?_⟩,K0 hn,?_⟩
 · show 1+s.val 2=1∨1+s.val 2=2;omega
 · show 1≤1+s.Cd.val 4;omega
 · show 1+s.Cd.val 4≤4;omega
 · show 1≤(EX s).1.length;omega
 · show (EX s).1.length≤8;omega
 · show ((EX s).1[0]?.getD FN).day≤((EX s).1[0]?.getD FN).day+_;omega
 · show ((EX s).1[0]?.getD FN).day+_≤40000;rw [hg];omega
 · show (EX s).1.length≤3;omega
theorem dD {b:Nat} {s:DS} {name:List UInt8}  :Ba prog 90 [ptr b 0,str name] (agg (cw (Tm s name))) (Dc b s) (fun _=>Dc b (AC1 s)):=by
 refine Ba.of func90 rfl rfl BA fun M0 w0 S rs M1 w1=> ?_
 have Ur:=s.DD (n:=2) AA
 have hv4:=s.Cd.DD (n:=4) AA
 have AHq:=s.Cd.Cd.DD (n:=20) AA
 have hv3:=s.Cd.Cd.Cd.DD (n:=3) AA
 refine Tr.seq (Tr.Ao ?_)
 refine Tl rfl rfl rfl rfl U4 Wo (fun b1=> ?_)
 refine ao ?_
 refine ao ?_
 refine TO.G4 1 rfl rfl AB (An rfl rfl AB rfl (Ca AA AA) ⟨ke rfl,ke rfl,trivial⟩) ?_
 refine ao ?_
 refine TO.G4 1 rfl rfl AB (An rfl rfl AB rfl (Ca AA AA) ⟨ke rfl,ke rfl,trivial⟩) ?_
 refine ao ?_
 refine Tl rfl rfl rfl rfl U4 Wo (fun b2=> ?_)
 refine TO.AK 0 rfl rfl rfl (vl rfl) (Va rfl) rfl HX rfl rfl ?_
 refine ao ?_
 refine ao ?_
 refine TO.G4 2 rfl rfl AB (An rfl rfl AB rfl (Ca AA AA) ⟨ke rfl,ke rfl,trivial⟩) ?_
 refine ao ?_
 refine WC 0 4 5 6 rfl ?_
 refine ao ?_
 refine TO.G4 2 rfl rfl AB (An rfl rfl AB rfl (Ca AA AA) ⟨ke rfl,ke rfl,trivial⟩) ?_
 refine ao ?_
 refine Tr.block (Tr.H8 0 [str name,int (1+s.val 2),int (1+s.Cd.val 4),Ac (.slice none 0 0) (mS []),is (.int .i64 0)] rfl ⟨Lr,Lr,Lr,Bq rfl,Lr,trivial⟩ (Tr.B_ 198 3 ?_))
 refine Tr.kU [(0,_),(4,_),(5,_)] ⟨ke rfl,ke rfl,ke rfl,trivial⟩ (fun (k:Int) (day:Int) (l:List XF) (s2:DS) v=>[(7,int k),(6,int day)]) (fun (k:Int) (day:Int) (l:List XF) (s2:DS) v=>Hp M0 w0 S (At 198 3 v::AE true b2 135 [str name,int (1+s.val 2),int (1+s.Cd.val 4),Ac v (mS l),is (.int .i64 0)]::AE true b1 135 (([.string (ByteArray.mk #[]),.int .i64 0,.int .i64 0,.slice none 0 0,.int .i64 0]:List Value).map is)::Dc b s2::Ak M1 w1::rs)) (fun (k:Int) (day:Int) (l:List XF) (s2:DS)=>(0≤k∧k+l.length≤3∧1≤k+l.length∧gL l day)∧L8 k.toNat s2 day l=EX s) (fun (k:Int) (day:Int) (l:List XF) (s2:DS)=>k.toNat) (_) (_) ([]) (_) (.slice none 0 0) (⟨⟨by omega,by simp;omega,by simp;omega,⟨by omega,by simp;omega,fun j hj=>by simp at hj,fun x hx=>by simp at hx⟩⟩,rfl⟩) ⟨ke rfl,ke rfl,trivial⟩ (fun _ _ h=>h) ?_
 rintro k day l s2 v ⟨⟨hk0,hk1,hk2,hL⟩,hR⟩
 have hL0:=hL.lo
 have hL1:=hL.hi
 have hof:=ZV s2.Cd
 refine an ?_ ?_<;>intro h1 q1
 have hk3:0<k:=of_decide_eq_true h1
 have hv6:=s2.DD (n:=6) AA
 refine ac ?_
 refine ao ?_
 refine TO.G4 3 rfl rfl AB (An rfl rfl AB rfl (Ca AA AA) ⟨ke rfl,ke rfl,trivial⟩) ?_
 refine tp rfl (AD rfl underlying143 LG (Kf rfl) (vl rfl) AA (show (usL.map fun u=>[int u.1,int u.2])[_]? =_ from AC0 hv6)) ?_
 refine tp rfl (AP rfl JL LG (vl rfl) rfl rfl) ?_
 refine Tl rfl rfl rfl rfl Kv EU (fun b3=> ?_)
 refine sf 0 8 ⟨rfl,rfl,rfl⟩ rfl rfl rfl rfl ?_
 refine ao ?_
 refine wk6 0 4 5 6 7 8 rfl ?_
 refine ao ?_
 refine TO.Dj 0 rfl rfl AB (B8 rfl rfl rfl rfl underlying133 J2 v_ z198 (Kb rfl) (Kf rfl) (A_ BO (Ka rfl))) (fun v1=> ?_)
 refine tp rfl (AW rfl U5 (vl rfl)) (TO.DY 1 rfl rfl (Ay rfl rfl (vl rfl) (Vo rfl) vo rfl BA rfl) ?_)
 refine ao ?_
 refine wk5 0 4 5 6 7 rfl ?_
 refine ao ?_
 refine TO.G4 3 rfl rfl AB (An rfl rfl AB rfl (W8 (l:=[5,30,0,100]) AV AV) ⟨ke rfl,(Kf rfl),trivial⟩) ?_
 refine ao ?_
 refine ac ?_
 refine Fin.H8 1 [str name,int (1+s.val 2),int (1+s.Cd.val 4),Ac v1 (mS (l++[(⟨(dA (s2.val 6)).1,(dA (s2.val 6)).2,day⟩:XF)])),is (.int .i64 0)] rfl ⟨Lr,Lr,Lr,BE DI,Lr,trivial⟩ ?_
 exact Fin.rK (k-1) (_) (l++[(⟨(dA (s2.val 6)).1,(dA (s2.val 6)).2,day⟩:XF)]) (_) v1 (⟨⟨⟨by omega,by simp;omega,by simp;omega,XK hL AA (wP _) (ZV _)⟩,by rw [←hR,show k.toNat=(k-1).toNat+1 by omega];rfl⟩,by omega⟩) ⟨⟨_,rfl,int_eq AA⟩,⟨_,rfl,int_eq AA⟩,ke rfl,ke rfl,ke rfl,trivial⟩ (fun _ _ h=>h)
 have hk3:¬0<k:=of_decide_eq_false h1
 obtain rfl:k=0:=by omega
 obtain ⟨c0,hc0⟩:=at_ (l:=l) (k:=0) AA
 have hg0:=getD_at (d:=FN) hc0
 have AHr:=hL.lt c0 (List.mem_of_getElem? hc0)
 have AHs:0≤c0.day:=by have h_:=hL.at_ 0 (BN hc0);unfold Gw at h_;rw [hg0] at h_;simp at h_;omega
 have AHt:=mh s2
 have hR1:(EX s).1=l:=by rw [←hR];rfl
 obtain rfl:s2=(EX s).2.2:=by rw [←hR];rfl
 refine ac ?_
 refine Tr.seq (Tr.rx ?_)
 refine ay ?_
 refine xo rfl (fun _=>AD rfl underlying133 J2 (Kb rfl) (vl rfl) AA (Aa (k:=0) hc0)) ?_
 refine ay ?_
 refine xo rfl (fun _=>oI) ?_
 refine Cx.ef 3 rfl rfl AB (An rfl rfl AB rfl (W8 (l:=[50,300,0,3000]) AV AV) ⟨ke rfl,(Kf rfl),trivial⟩) ?_
 refine ay ?_
 refine Cx.nil ⟨by kernel_rfl,?_⟩
 refine BJ.done al5 (Fin.go (TN 4 5 rfl ?_))
 refine ao ?_
 refine TO.AK 2 rfl rfl rfl (vl rfl) (Va rfl) rfl HX rfl rfl ?_
 refine ao ?_
 refine Tr.ret (Fin.GW [_,_,_] rfl (AM.cell 2 rfl rfl U3 HX rfl (Lr)) ?_ (fun _ _ _ _=>rfl))
 · exact BS ⟨Lr,Lr,Lr,Pr.le_trans (As _ _) (Pr.le_of_eq (by show _=mS (EX s).1;rw [hR1])),int_eq (by show _=((EX s).1[0]?.getD FN).day+_;rw [hR1,hg0]),trivial⟩
structure ZX (n:Nat) (i j:Int) (l:List Ia):Prop where
 at_:∀k,k<l.length→Ek n l k=true
 lt:∀g∈l,g.client<i∨(g.client=i∧g.server<j)
theorem ZX.nil (n:Nat) (i j:Int):ZX n i j []:=⟨fun k hk=>by simp at hk,fun g hg=>by simp at hg⟩
theorem ZX.step {n:Nat} {i j:Int} {l:List Ia} (h:ZX n i j l):ZX n i (j+1) l:=⟨h.at_,fun g hg=>by have:=h.lt g hg;omega⟩
theorem ZX.row {n:Nat} {i j:Int} {l:List Ia} (h:ZX n i j l):ZX n (i+1) 0 l:=⟨h.at_,fun g hg=>by have:=h.lt g hg;omega⟩
theorem ZX.snoc {n:Nat} {i j:Int} {l:List Ia} (h:ZX n i j l) (hi:0≤i∧i<n) (hj:0≤j∧j<n) (hn:i≠j):ZX n i (j+1) (l++[⟨i,j⟩]):=by
 refine ⟨fun k hk=> ?_,fun g hg=> ?_⟩
 ·
  rw [List.length_append] at hk;simp at hk
  rcases Nat.lt_or_ge k l.length with hl|hl
  ·
   have:=h.at_ k hl
   unfold Ek at this ⊢
   rw [List.getElem?_append_left hl,List.getElem?_append_left (show k-1<l.length by omega)];exact this
  ·
   have:k=l.length:=by omega
   subst this
   unfold Ek
   rw [List.getElem?_append_right (Nat.le_refl _),Nat.sub_self]
   rcases Nat.eq_zero_or_pos l.length with hz|hz
   ·
    obtain rfl:=List.eq_nil_of_length_eq_zero hz
    simp;omega
   ·
    obtain ⟨y,hy⟩:=Cp.at_ (l:=l) (k:=l.length-1) AA
    rw [List.getElem?_append_left (show l.length-1<l.length by omega),hy]
    have:=h.lt y (List.mem_of_getElem? hy)
    simp;omega
 ·
  rcases List.mem_append.1 hg with hg|hg
  · have:=h.lt g hg;omega
  · simp at hg;subst hg;right;exact ⟨rfl,by show j<j+1;omega⟩
theorem mj:∀i,i<2→Lib.compareBytes (Fo[i]?.getD []) (Fo[i+1]?.getD [])= -1:=by decide+kernel
structure Oy (e:Dl):Prop where
 n2:2≤e.Bt.length
 n3:e.Bt.length≤3
 snd:mN e.Bt
 ed:∀k,k<e.BU.length→Ek e.Bt.length e.BU k=true
 g1:1≤e.BU.length
 g3:e.BU.length≤3
 it:∀x∈e.items,ZW x
 i2:e.items.length≤2
theorem Oy.ok {e:Dl} (h:Oy e):FR e=true:=by
 have h3:=h.n3;have g3:=h.g3;have i2:=h.i2
 refine FU.2 ⟨fun j hj=> ?_,by omega,h.ed,by omega,List.all_eq_true.2 fun x hx=>(h.it x hx).ok,by omega⟩
 obtain ⟨x,hx⟩:=at_ hj
 have hs:=h.snd j x hx
 unfold XJ
 rw [hx,Option.getD_some,DG.2 (tX hs),Bool.true_and,Bool.or_eq_true,decide_eq_true_eq,decide_eq_true_eq]
 rcases Nat.eq_zero_or_pos j with hz|hz
 · exact .inl hz
 ·
  right
  obtain ⟨y,hy⟩:=at_ (l:=e.Bt) (k:=j-1) AA
  have VI:=h.snd _ y hy
  rw [hy,Option.getD_some]
  have:=mj (j-1) AA
  rw [VI.name,show j-1+1=j by omega,hs.name] at this
  exact this
theorem Oy.fits {e:Dl} (h:Oy e):e.fits:=by
 have h3:=h.n3;have g3:=h.g3;have i2:=h.i2
 refine ⟨fun x hx=> ?_,fun x hx=>by have:=(h.it x hx).name;unfold maxLen;omega,by omega,by omega,by omega⟩
 obtain ⟨i,hi⟩:=List.getElem?_of_mem hx
 exact ⟨Tj (h.snd i x hi),Rh (h.snd i x hi)⟩
abbrev L9:List UInt8:=[98,97,99,107,117,112]
abbrev ZY:List UInt8:=[100,101,101,100]
theorem dF (s:DS):named (KE s [L9,ZY])=true:=by
 have h:=s.DD (n:=2) AA
 unfold KE
 have:s.val (([L9,ZY]:List (List UInt8)).length:Nat)=0∨s.val (([L9,ZY]:List (List UInt8)).length:Nat)=1:=by show s.val 2=0∨s.val 2=1;omega
 rcases this with h|h<;>rw [h]<;>decide
theorem XL {l:List VY} {y:VY} (h:∀x∈l,ZW x) (hy:ZW y):∀x∈l++[y],ZW x:=by
 intro x hx
 rcases List.mem_append.1 hx with hx|hx
 · exact h x hx
 · simp at hx;subst hx;exact hy
theorem mm {b:Nat} {s:DS}  :Ba prog 46 [ptr b 0] (Cp.ex fun e:Dl=>fact (Oy e) (agg (CK e))) (Dc b s) (fun _=>Is 104 b):=by
 refine Ba.of func46 rfl rfl BA fun M0 w0 S rs M1 w1=> ?_
 have Ur:=s.DD (n:=2) AA
 have Ta:(Fo.take (2+s.val 2).toNat).length=(2+s.val 2).toNat:=by rw [List.length_take];show min _ 3=_;omega
 refine Tr.seq (Tr.Ao ?_)
 refine Tl rfl rfl rfl rfl z31 IG (fun b1=> ?_)
 refine TO.nil (Fin.go (Tr.seq (Tr.Ao ?_)))
 refine Tl rfl rfl rfl rfl z31 IG (fun b2=> ?_)
 refine TO.nil (Fin.go (Tr.seq (Tr.Ao (tp rfl (AO (xs:=[.const (.string ⟨[97,112,112].toArray⟩),.const (.string ⟨[100,98].toArray⟩),.const (.string ⟨[119,101,98].toArray⟩)]) (rows:=[[_],[_],[_]]) rfl rfl underlying127 Ms z9 rfl AB ⟨⟨Am,(Vo rfl)⟩,⟨⟨Am,(Vo rfl)⟩,⟨⟨Am,(Vo rfl)⟩,trivial⟩⟩⟩ AB) ?_))))
 refine tm rfl (TO.G4 2 rfl rfl AB (An rfl rfl AB rfl (Ca AA AA) ⟨ke rfl,ke rfl,trivial⟩) ?_)
 refine tp rfl (E0 rfl (vl rfl) (vl rfl) ?hin) ?_;case hin=>unfold Oc;omega
 refine tp rfl (Dx rfl underlying127 Ms (Kf rfl) (vl rfl) AA CE) ?_
 refine tm rfl (TO.nil (Fin.go (Tr.seq (Tr.seq (Tr.Aj (cm rfl (co rfl (Cc rfl underlying127 (vl rfl)) (cm rfl (Ch.nil (Fin.go (Tr.block ?_)))))))))))
 refine Tr.re 16 rfl (Pr.le_of_eq (by show slice 1 (List.take _ (Fo.map fun t=>[str t]))=_;rw [←List.map_take]):Pr.le _ (fU (Fo.take (2+s.val 2).toNat))) ?_
 refine Tr.re 17 rfl (int_eq (by simp;rfl):Pr.le _ (int (((Fo.take (2+s.val 2).toNat).length:Nat):Int))) ?_
 refine Tr.H8 0 [Ac (.slice none 0 0) (slice 9 (([]:List CA).map Bg)),is (.slice none 0 0),is (.slice none 0 0)] rfl ⟨Bq rfl,Lr,Lr,trivial⟩ (Tr.B_ 40 9 (Tr.Fg [(0,_),(2,_),(3,_),(4,_),(16,_),(17,_)] ⟨ke rfl,ke rfl,ke rfl,ke rfl,ke rfl,ke rfl,trivial⟩ (fun (k:Nat) (es:List CA) (s2:DS) v=>[(18,int ((k:Nat):Int))]) (fun (k:Nat) (es:List CA) (s2:DS) v=>Hp M0 w0 S (At 40 9 v::AE true b2 31 [Ac v (slice 9 (es.map Bg)),is (.slice none 0 0),is (.slice none 0 0)]::AE true b1 31 (([.slice none 0 0,.slice none 0 0,.slice none 0 0]:List Value).map is)::Dc b s2::Ak M1 w1::rs)) (fun (k:Nat) (es:List CA) (s2:DS)=>k≤(2+s.val 2).toNat∧es.length=k∧mN es) (fun (k:Nat) (es:List CA) (s2:DS)=>(2+s.val 2).toNat-k) (0) ([]) (_) (.slice none 0 0) (⟨by omega,rfl,fun i e h=>by simp at h⟩) ⟨ke rfl,trivial⟩ (fun _ _ h=>h) ?_))
 rintro k es s2 v ⟨hk1,hk2,hk3⟩
 refine Tr.seq (Tr.Aj (co rfl (ki rfl rfl rfl rfl) (Ch.nil (Fin.go (Tr.seq ?_)))))
 refine Tr.cn rfl ?_ ?_<;>intro h1 q1
 have hkn:k<(2+s.val 2).toNat:=by have:=DU.D7 h1;rw [Ta] at this;omega
 obtain ⟨nm,hnm⟩:=at_ (l:=Fo.take (2+s.val 2).toNat) (k:=k) AA
 have OB:Fo[k]? =some nm:=mO hnm
 have hso:=mP (s2.Cd.val 3)
 have AHu:k<3:=BN OB
 have hvs:=s2.Cd.DD (n:=3) AA
 have hof:=yH s2
 refine Tr.skip (Fin.go (Tr.seq (Tr.block (Tr.seq (Tr.Aj (cm rfl (co rfl (AD rfl underlying127 Ms (vl rfl) (vl rfl) AA (Aa hnm)) (co rfl (F5 rfl PM rfl) (cm rfl (cm rfl (Ch.nil (Fin.go (Tr.seq (Tr.pad ?_))))))))))))))
 refine Tr.GV mixed [none,none,none,some (0,4,true,0),none,none,none,none,none,some (0,4,true,0),none,none,none,some (0,4,true,0),none,none,none,some (0,4,true,0),none,some (0,0,true,7),some (7,0,true,7)] BV (xm rfl (xm rfl (xo rfl (fun _=>AO (xs:=[.const (.int .i64 (3)),.const (.int .i64 (3)),.const (.int .i64 (4))]) (rows:=[[_],[_],[_]]) rfl rfl underlying22 Bw z3 rfl AB ⟨⟨Am,(Vo rfl)⟩,⟨⟨Am,(Vo rfl)⟩,⟨⟨Am,(Vo rfl)⟩,trivial⟩⟩⟩ AB) ?_)))
 refine Cx.ef 4 rfl rfl AB (An rfl rfl AB rfl (W8 (l:=[3,3,4]) AV AV) ⟨ke rfl,(Kf rfl),trivial⟩) ?_
 refine xo rfl (fun _=>AO (xs:=[.const (.int .i64 (10)),.const (.int .i64 (8)),.const (.int .i64 (2))]) (rows:=[[_],[_],[_]]) rfl rfl underlying22 Bw z3 rfl AB ⟨⟨Am,(Vo rfl)⟩,⟨⟨Am,(Vo rfl)⟩,⟨⟨Am,(Vo rfl)⟩,trivial⟩⟩⟩ AB) ?_
 refine xo rfl (fun _=>AO (xs:=[.const (.int .i64 (8)),.const (.int .i64 (2))]) (rows:=[[_],[_]]) rfl rfl underlying22 Bw z3 rfl AB ⟨⟨Am,(Vo rfl)⟩,⟨⟨Am,(Vo rfl)⟩,trivial⟩⟩ AB) ?_
 refine xo rfl (fun _=>AO (xs:=[.const (.int .i64 (2)),.const (.int .i64 (10)),.const (.int .i64 (8)),.const (.int .i64 (3))]) (rows:=[[_],[_],[_],[_]]) rfl rfl underlying22 Bw z3 rfl AB ⟨⟨Am,(Vo rfl)⟩,⟨⟨Am,(Vo rfl)⟩,⟨⟨Am,(Vo rfl)⟩,⟨⟨Am,(Vo rfl)⟩,trivial⟩⟩⟩⟩ AB) ?_
 refine xo rfl (fun _=>AO (xs:=[.tmp 27,.tmp 28,.tmp 29]) (rows:=[[_],[_],[_]]) rfl rfl underlying128 Ls z22 rfl AB ⟨⟨Am,⟨_,rfl,Pr.le_trans (B5 _ _) (Af _)⟩⟩,⟨⟨Am,⟨_,rfl,Pr.le_trans (B5 _ _) (Af _)⟩⟩,⟨⟨Am,⟨_,rfl,Pr.le_trans (B5 _ _) (Af _)⟩⟩,trivial⟩⟩⟩ AB) ?_
 refine xm rfl (Cx.ef 4 rfl rfl AB (An rfl rfl AB rfl (Ca AA AA) ⟨ke rfl,ke rfl,trivial⟩) ?_)
 refine xo rfl (fun _=>AD rfl underlying128 Ls (Kf rfl) (vl rfl) AA (show (PV.map fun l=>[ints l])[_]? =_ from tU hvs)) ?_
 refine xo rfl (fun _=>F5 rfl Mt rfl) (xm rfl (Cx.ef 4 rfl rfl AB (An rfl rfl AB rfl (l_ AA AA) ⟨ke rfl,ke rfl,trivial⟩) (xo rfl (fun _=>AO (xs:=[.const (.int .i64 (1))]) (rows:=[[_]]) rfl rfl underlying22 Bw z3 rfl AB ⟨⟨Am,(Vo rfl)⟩,trivial⟩ AB) ?_)))
 refine xo rfl (fun _=>AO (xs:=[.const (.int .i64 (2)),.const (.int .i64 (3))]) (rows:=[[_],[_]]) rfl rfl underlying22 Bw z3 rfl AB ⟨⟨Am,(Vo rfl)⟩,⟨⟨Am,(Vo rfl)⟩,trivial⟩⟩ AB) ?_
 refine xm rfl (Cx.ef 4 rfl rfl AB (An rfl rfl AB rfl (l_ AA AA) ⟨ke rfl,ke rfl,trivial⟩) (xo rfl (fun _=>Al (rows:=[(0,[_]),(1,[_]),(2,[_]),(3,[_]),(4,[_]),(6,[_]),(7,[_]),(8,[_])]) rfl rO Hs ⟨⟨rfl,(Vo rfl)⟩,⟨⟨rfl,(Vo rfl)⟩,⟨⟨rfl,(Vo rfl)⟩,⟨⟨rfl,(Vo rfl)⟩,⟨⟨rfl,(Vo rfl)⟩,⟨⟨rfl,⟨_,rfl,Pr.le_trans (B5 _ _) (Af _)⟩⟩,⟨⟨rfl,⟨_,rfl,Pr.le_trans (B5 _ _) (Af _)⟩⟩,⟨⟨rfl,(Vo rfl)⟩,trivial⟩⟩⟩⟩⟩⟩⟩⟩ rfl) (Cx.ef 0 rfl rfl AB (CN rfl rfl AB rfl z40 Hs) (Cx.DY 0 rfl rfl (Cs rfl rfl rfl rfl (Va rfl) CC rfl rfl) ?_))))
 refine Cx.nil ⟨rfl,?_⟩
 refine BJ.open_ 0 7 rfl rfl (fun v1=> ?_)
 refine BJ.done (Aw.cons (Aw.cons (Aw.cons (Aw.cons (Aw.cons (Aw.cons (Aw.map _))))))) (Fin.MN 7 0 _ rfl rfl (fun _=>rfl) (fun b3=> ?_))
 refine Fin.go (Wa 0 2 3 4 5 6 7 16 17 18 rfl (Tr.seq (Tr.seq (Tr.H8 0 [str nm,int 1,int (s2.of [3,3,4]),ints (L3 (s2.Cd.val 3)),bool (s2.Cd.Cd.val 2==2-1),is (.slice none 0 0),ints [1],ints [2,3],bool (s2.Cd.Cd.Cd.val 3==3-1)] rfl ⟨Lr,Lr,Lr,Lr,Lr,Lr,Lr,Lr,Lr,trivial⟩ (Tr.Aj (co rfl (AW rfl Y0 (vl rfl)) (co rfl (Ck 0 rfl (BB rfl Cq (vl rfl) rfl)) (co rfl (ki rfl rfl rfl rfl) (Ch.nil (Fin.go ?_))))))))))
 refine Tr.cn rfl ?_ ?_<;>intro h2 q2
 refine Tr.Ao (tp rfl (AO (xs:=[.const (.int .i64 (14))]) (rows:=[[_]]) rfl rfl underlying22 Bw z3 rfl AB ⟨⟨Am,(Vo rfl)⟩,trivial⟩ AB) ?_)
 refine tp rfl (AW rfl N4 (vl rfl)) (TO.rd 0 rfl rfl rfl AB (BB rfl Mt (vl rfl) rfl) (TO.pad ?_))
 refine TO.Dj 0 rfl rfl AB (B8 rfl rfl rfl rfl underlying22 Bw IY z3 (Kf rfl) (vl rfl) (Bu BO (vl rfl))) (fun v2=> ?_)
 refine tp rfl (AW rfl N4 (vl rfl)) (TO.DY 1 rfl rfl (Ay rfl rfl (vl rfl) (Vo rfl) Ls rfl BA rfl) (TO.nil (Fin.go (Wa 0 2 3 4 5 6 7 16 17 18 rfl (Tr.seq (Tr.Ao (tm rfl (tp rfl (AR rfl (wN) trivial) (tm rfl ?_)))))))))
 refine tp rfl (E0 rfl (vl rfl) (vl rfl) ?hin) ?_;case hin=>unfold Oc;omega
 refine tp rfl (AR rfl (ZM (name:=nm) (a:=5) (b:=2048) (id:=100+(k:Nat)) (to:=901) (key:=1) (VV OB AA AA) (Ti AA) AA) ⟨ke rfl,ke rfl,ke rfl,ke rfl,ke rfl,trivial⟩) ?_
 refine TO.ex 54 rfl (fun jK=>TO.fact 54 rfl fun yS=> ?_)
 refine tp rfl (AO (xs:=[.tmp 54]) (rows:=[_]) rfl rfl underlying38 E3 WD rfl AB ⟨⟨Am,(Va rfl)⟩,trivial⟩ AB) ?_
 refine tp rfl (AW rfl RD (vl rfl)) (TO.DY 1 rfl rfl (Ay rfl rfl (vl rfl) (Vo rfl) ko rfl BA rfl) (TO.nil (Fin.go (wk8 0 2 3 4 7 16 17 18 rfl (Tr.Ao (tp rfl (AW rfl G8 (vl rfl)) (TO.rd 3 rfl rfl rfl AB (BB rfl Oj (vl rfl) rfl) (TO.rd 1 rfl rfl rfl AB (B4 rfl Cg CC (vl rfl) rfl rfl) (tp rfl (AO (xs:=[.tmp 59]) (rows:=[Bg (⟨nm,1,s2.of [3,3,4],14::L3 (s2.Cd.val 3),(s2.Cd.Cd.val 2==2-1),[Hg nm 5 2048 (100+(k:Nat)) 901 1 jK],[1],[2,3],(s2.Cd.Cd.Cd.val 3==3-1)⟩:CA)]) rfl rfl underlying27 CC z40 rfl AB ⟨⟨Am,VL.le (vl rfl) (Pr.le_trans (BS (qs:=Bg (⟨nm,1,s2.of [3,3,4],14::L3 (s2.Cd.val 3),(s2.Cd.Cd.val 2==2-1),[Hg nm 5 2048 (100+(k:Nat)) 901 1 jK],[1],[2,3],(s2.Cd.Cd.Cd.val 3==3-1)⟩:CA)) ⟨Lr,Lr,Lr,Pr.le_trans (As _ _) (Pr.le_of_eq rfl),Lr,B5 _ _,Lr,Lr,Lr,trivial⟩) (Ad _))⟩,trivial⟩ AB) ?_)))))))))
 refine TO.Dj 2 rfl rfl AB (B8 rfl rfl rfl rfl underlying27 CC xE z40 (Kb rfl) (Kf rfl) (A_ BO (Ka rfl))) (fun v3=> ?_)
 refine tp rfl (AW rfl G8 (vl rfl)) (TO.DY 3 rfl rfl (Ay rfl rfl (vl rfl) (Vo rfl) xC rfl BA rfl) (TO.nil (Fin.block (Fin.go (Tr.drop 1 (jI 0 2 3 4 16 17 18 rfl (Tr.Aj (Lq rfl rfl rfl rfl AA (cm rfl (Ch.nil ?_))))))))))
 refine Fin.H8 2 [Ac v3 (slice 9 ((es++[(⟨nm,1,s2.of [3,3,4],14::L3 (s2.Cd.val 3),(s2.Cd.Cd.val 2==2-1),[Hg nm 5 2048 (100+(k:Nat)) 901 1 jK],[1],[2,3],(s2.Cd.Cd.Cd.val 3==3-1)⟩:CA)]).map Bg)),is (.slice none 0 0),is (.slice none 0 0)] rfl ⟨BE DI,Lr,Lr,trivial⟩ ?_
 refine Fin.drop 0 ?_
 exact Fin.EG (k+1) (es++[(⟨nm,1,s2.of [3,3,4],14::L3 (s2.Cd.val 3),(s2.Cd.Cd.val 2==2-1),[Hg nm 5 2048 (100+(k:Nat)) 901 1 jK],[1],[2,3],(s2.Cd.Cd.Cd.val 3==3-1)⟩:CA)]) (_) v3 (⟨⟨by omega,by rw [List.length_append,hk2];rfl,XE hk3 ⟨by rw [hk2];exact OB,rfl,hof,.inr ⟨_,XD hvs,rfl⟩,⟨jK,yS,by rw [hk2]⟩,rfl,rfl⟩⟩,by omega⟩) ⟨⟨_,rfl,AG k⟩,ke rfl,ke rfl,ke rfl,ke rfl,ke rfl,ke rfl,trivial⟩ (fun _ _ h=>h)
 refine Tr.skip (Fin.go (Tr.seq (Tr.Ao (tm rfl (tp rfl (AR rfl (wN) trivial) (tm rfl ?_))))))
 refine tp rfl (E0 rfl (vl rfl) (vl rfl) ?hin) ?_;case hin=>unfold Oc;omega
 refine tp rfl (AR rfl (ZM (name:=nm) (a:=5) (b:=2048) (id:=100+(k:Nat)) (to:=901) (key:=1) (VV OB AA AA) (Ti AA) AA) ⟨ke rfl,ke rfl,ke rfl,ke rfl,ke rfl,trivial⟩) ?_
 refine TO.ex 54 rfl (fun jK=>TO.fact 54 rfl fun yS=> ?_)
 refine tp rfl (AO (xs:=[.tmp 54]) (rows:=[_]) rfl rfl underlying38 E3 WD rfl AB ⟨⟨Am,(Va rfl)⟩,trivial⟩ AB) ?_
 refine tp rfl (AW rfl RD (vl rfl)) (TO.DY 0 rfl rfl (Ay rfl rfl (vl rfl) (Vo rfl) ko rfl BA rfl) (TO.nil (Fin.go (wk8 0 2 3 4 7 16 17 18 rfl (Tr.Ao (tp rfl (AW rfl G8 (vl rfl)) (TO.rd 2 rfl rfl rfl AB (BB rfl Oj (vl rfl) rfl) (TO.rd 0 rfl rfl rfl AB (B4 rfl Cg CC (vl rfl) rfl rfl) (tp rfl (AO (xs:=[.tmp 59]) (rows:=[Bg (⟨nm,1,s2.of [3,3,4],L3 (s2.Cd.val 3),(s2.Cd.Cd.val 2==2-1),[Hg nm 5 2048 (100+(k:Nat)) 901 1 jK],[1],[2,3],(s2.Cd.Cd.Cd.val 3==3-1)⟩:CA)]) rfl rfl underlying27 CC z40 rfl AB ⟨⟨Am,VL.le (vl rfl) (Pr.le_trans (BS (qs:=Bg (⟨nm,1,s2.of [3,3,4],L3 (s2.Cd.val 3),(s2.Cd.Cd.val 2==2-1),[Hg nm 5 2048 (100+(k:Nat)) 901 1 jK],[1],[2,3],(s2.Cd.Cd.Cd.val 3==3-1)⟩:CA)) ⟨Lr,Lr,Lr,Lr,Lr,B5 _ _,Lr,Lr,Lr,trivial⟩) (Ad _))⟩,trivial⟩ AB) ?_)))))))))
 refine TO.Dj 1 rfl rfl AB (B8 rfl rfl rfl rfl underlying27 CC xE z40 (Kb rfl) (Kf rfl) (A_ BO (Ka rfl))) (fun v4=> ?_)
 refine tp rfl (AW rfl G8 (vl rfl)) (TO.DY 2 rfl rfl (Ay rfl rfl (vl rfl) (Vo rfl) xC rfl BA rfl) (TO.nil (Fin.block (Fin.go (Tr.drop 0 (jI 0 2 3 4 16 17 18 rfl (Tr.Aj (Lq rfl rfl rfl rfl AA (cm rfl (Ch.nil ?_))))))))))
 refine Fin.H8 1 [Ac v4 (slice 9 ((es++[(⟨nm,1,s2.of [3,3,4],L3 (s2.Cd.val 3),(s2.Cd.Cd.val 2==2-1),[Hg nm 5 2048 (100+(k:Nat)) 901 1 jK],[1],[2,3],(s2.Cd.Cd.Cd.val 3==3-1)⟩:CA)]).map Bg)),is (.slice none 0 0),is (.slice none 0 0)] rfl ⟨BE DI,Lr,Lr,trivial⟩ ?_
 exact Fin.EG (k+1) (es++[(⟨nm,1,s2.of [3,3,4],L3 (s2.Cd.val 3),(s2.Cd.Cd.val 2==2-1),[Hg nm 5 2048 (100+(k:Nat)) 901 1 jK],[1],[2,3],(s2.Cd.Cd.Cd.val 3==3-1)⟩:CA)]) (_) v4 (⟨⟨by omega,by rw [List.length_append,hk2];rfl,XE hk3 ⟨by rw [hk2];exact OB,rfl,hof,.inl (XD hvs),⟨jK,yS,by rw [hk2]⟩,rfl,rfl⟩⟩,by omega⟩) ⟨⟨_,rfl,AG k⟩,ke rfl,ke rfl,ke rfl,ke rfl,ke rfl,ke rfl,trivial⟩ (fun _ _ h=>h)
 have aY:k=(2+s.val 2).toNat:=by have:=DU.D7 h1;rw [Ta] at this;omega
 refine Tr.exit (Fin.AY (Fin.AY (Fin.Au (Fin.go (Tr.seq (Tr.seq (Tr.H8 1 [slice 9 (es.map Bg),is (.slice none 0 0),is (.slice none 0 0)] rfl ⟨As _ _,Lr,Lr,trivial⟩ (Tr.drop 0 (Tr.Aj (cm rfl (co rfl (Cc rfl underlying127 (vl rfl)) (cm rfl (Ch.nil (Fin.go ?_))))))))))))))
 refine Tr.block ?_
 refine Tr.re 65 rfl (int_eq (by simp;rfl):Pr.le _ (int (((Fo.take (2+s.val 2).toNat).length:Nat):Int))) ?_
 refine Tr.H8 0 [slice 9 (es.map Bg),Ac (.slice none 0 0) (IM []),is (.slice none 0 0)] rfl ⟨Lr,Bq rfl,Lr,trivial⟩ (Tr.B_ 132 2 (Tr.Fg [(0,_),(2,_),(3,_),(4,_),(65,_)] ⟨ke rfl,ke rfl,ke rfl,ke rfl,ke rfl,trivial⟩ (fun (i:Nat) (gs:List Ia) (s3:DS) w=>[(66,int ((i:Nat):Int))]) (fun (i:Nat) (gs:List Ia) (s3:DS) w=>Hp M0 w0 S (At 132 2 w::AE true b2 31 [slice 9 (es.map Bg),Ac w (IM gs),is (.slice none 0 0)]::AE true b1 31 (([.slice none 0 0,.slice none 0 0,.slice none 0 0]:List Value).map is)::Dc b s3::Ak M1 w1::rs)) (fun (i:Nat) (gs:List Ia) (s3:DS)=>i≤(2+s.val 2).toNat∧gs.length≤3∧ZX (2+s.val 2).toNat i 0 gs) (fun (i:Nat) (gs:List Ia) (s3:DS)=>(2+s.val 2).toNat-i) (0) ([]) (_) (.slice none 0 0) (⟨by omega,by simp,ZX.nil _ _ _⟩) ⟨ke rfl,trivial⟩ (fun _ _ h=>h) ?_))
 rintro i gs s3 w ⟨hi1,hi2,hi3⟩
 refine Tr.seq (Tr.Aj (co rfl (ki rfl rfl rfl rfl) (Ch.nil (Fin.go (Tr.seq ?_)))))
 refine Tr.cn rfl ?_ ?_<;>intro h3 q3
 have hin:i<(2+s.val 2).toNat:=by have:=DU.D7 h3;rw [Ta] at this;omega
 refine Tr.skip (Fin.go (Tr.seq (Tr.block (Tr.seq (Tr.Aj (cm rfl (cm rfl (Ch.nil (Fin.go (Tr.seq (Tr.Aj (cm rfl (co rfl (Cc rfl underlying127 (vl rfl)) ?_)))))))))))))
 refine cm rfl (Ch.nil (Fin.go (Tr.block ?_)))
 refine Tr.re 70 rfl (int_eq (by simp;rfl):Pr.le _ (int (((Fo.take (2+s.val 2).toNat).length:Nat):Int))) ?_
 refine Tr.Fg [(0,_),(2,_),(3,_),(4,_),(8,_),(65,_),(66,_),(70,_)] ⟨ke rfl,ke rfl,ke rfl,ke rfl,ke rfl,ke rfl,ke rfl,ke rfl,trivial⟩ (fun (j:Nat) (gM:List Ia) (s4:DS) u=>[(71,int ((j:Nat):Int))]) (fun (j:Nat) (gM:List Ia) (s4:DS) u=>Hp M0 w0 S (At 132 2 u::AE true b2 31 [slice 9 (es.map Bg),Ac u (IM gM),is (.slice none 0 0)]::AE true b1 31 (([.slice none 0 0,.slice none 0 0,.slice none 0 0]:List Value).map is)::Dc b s4::Ak M1 w1::rs)) (fun (j:Nat) (gM:List Ia) (s4:DS)=>j≤(2+s.val 2).toNat∧gM.length≤3∧ZX (2+s.val 2).toNat i j gM) (fun (j:Nat) (gM:List Ia) (s4:DS)=>(2+s.val 2).toNat-j) (0) (gs) (_) w (⟨by omega,hi2,hi3⟩) ⟨ke rfl,trivial⟩ (fun _ _ h=>h) ?_
 rintro j gM s4 u ⟨hj1,hj2,hj3⟩
 refine Tr.seq (Tr.Aj (co rfl (ki rfl rfl rfl rfl) (Ch.nil (Fin.go (Tr.seq ?_)))))
 refine Tr.cn rfl ?_ ?_<;>intro h4 q4
 have hjn:j<(2+s.val 2).toNat:=by have:=DU.D7 h4;rw [Ta] at this;omega
 refine Tr.skip (Fin.go (Tr.seq (Tr.block (Tr.seq (Tr.Aj (cm rfl (cm rfl (Ch.nil (Fin.go (Tr.seq (Tr.Ao (tm rfl (tm rfl ?_)))))))))))))
 refine tp rfl (ki rfl rfl rfl rfl) (tm rfl ?_)
 refine TO.cases 77 rfl (fun h5=> ?_) (fun h5=> ?_)
 have q5:=DU.D7 h5
 refine TO.Hv rfl rfl rfl h5 rfl AB (BX rfl (vl rfl)) (TO.lU 3 rfl rfl rfl h5 rfl rfl AB (An rfl rfl AB rfl (Ca AA AA) ⟨ke rfl,ke rfl,trivial⟩) (TO.Hv rfl rfl rfl h5 rfl AB (ki rfl rfl rfl rfl) (tp rfl (Q9 rfl rfl h5 rfl) (tm rfl ?_))))
 refine TO.cases 82 rfl (fun h6=> ?_) (fun h6=> ?_)
 have q6:=DU.D7 h6
 refine TO.Hv rfl rfl rfl h6 rfl AB (AW rfl N2 (vl rfl)) (TO.Hv rfl rfl rfl h6 rfl AB (Ck 1 rfl (BB rfl cE (vl rfl) rfl)) (TO.Hv rfl rfl rfl h6 rfl AB (CB rfl underlying28 (Kb rfl)) (TO.Hv rfl rfl rfl h6 rfl AB (ki rfl rfl rfl rfl) (tp rfl (Q9 rfl rfl h6 rfl) (TO.nil (Fin.go (Ip 0 2 3 4 8 9 65 66 70 71 87 rfl ?_)))))))
 refine Tr.cn rfl ?_ ?_<;>intro h7 q7
 refine Tr.Ao (tp rfl (AW rfl N2 (vl rfl)) (TO.rd 1 rfl rfl rfl AB (BB rfl cE (vl rfl) rfl) (tm rfl (tm rfl (tp rfl (Al (rows:=[(0,[_]),(1,[_])]) rfl vn Wn ⟨⟨rfl,(Vo rfl)⟩,⟨⟨rfl,(Vo rfl)⟩,trivial⟩⟩ rfl) (tp rfl (AO (xs:=[.tmp 92]) (rows:=[_]) rfl rfl underlying28 Ez Y9 rfl AB ⟨⟨Am,(Va rfl)⟩,trivial⟩ AB) ?_))))))
 refine TO.Dj 0 rfl rfl AB (B8 rfl rfl rfl rfl underlying28 Ez vm Y9 (Kb rfl) (Kf rfl) (A_ BO (Ka rfl))) (fun v5=> ?_)
 refine tp rfl (AW rfl N2 (vl rfl)) (TO.DY 1 rfl rfl (Ay rfl rfl (vl rfl) (Vo rfl) AA7 rfl BA rfl) (TO.nil (Fin.block (Fin.go (jJ 0 2 3 4 8 65 66 70 71 rfl (Tr.Aj (Lq rfl rfl rfl rfl AA (cm rfl (Ch.nil ?_)))))))))
 refine Fin.H8 1 [slice 9 (es.map Bg),Ac v5 (IM (gM++[(⟨((i:Nat):Int),((j:Nat):Int)⟩:Ia)])),is (.slice none 0 0)] rfl ⟨Lr,BE DI,Lr,trivial⟩ ?_
 exact Fin.EG (j+1) (gM++[(⟨((i:Nat):Int),((j:Nat):Int)⟩:Ia)]) (_) v5 (⟨⟨by omega,by simp;omega,hj3.snoc ⟨by omega,by omega⟩ ⟨by omega,by omega⟩ AA⟩,by omega⟩) ⟨⟨_,rfl,AG j⟩,ke rfl,ke rfl,ke rfl,ke rfl,ke rfl,ke rfl,ke rfl,ke rfl,trivial⟩ (fun _ _ h=>h)
 refine Tr.skip (Fin.block (Fin.go (Tr.Aj (Lq rfl rfl rfl rfl AA (cm rfl (Ch.nil (Fin.EG (j+1) (gM) (_) u (⟨⟨by omega,hj2,hj3.step⟩,by omega⟩) ⟨⟨_,rfl,AG j⟩,ke rfl,ke rfl,ke rfl,ke rfl,ke rfl,ke rfl,ke rfl,ke rfl,trivial⟩ (fun _ _ h=>h))))))))
 have q6:=DU.D7 h6
 iterate 4 refine TO.VG rfl rfl rfl (Be h6) rfl AB ?_
 refine tp rfl (Mk rfl rfl h6 rfl) (TO.nil (Fin.go (Ip 0 2 3 4 8 9 65 66 70 71 87 rfl (Tr.cond rfl (fun h=>nomatch h) (fun _=> ?_)))))
 refine Tr.skip (Fin.block (Fin.go (Tr.Aj (Lq rfl rfl rfl rfl AA (cm rfl (Ch.nil (Fin.EG (j+1) (gM) (_) u (⟨⟨by omega,hj2,hj3.step⟩,by omega⟩) ⟨⟨_,rfl,AG j⟩,ke rfl,ke rfl,ke rfl,ke rfl,ke rfl,ke rfl,ke rfl,ke rfl,trivial⟩ (fun _ _ h=>h))))))))
 have q5:=DU.D7 h5
 refine TO.VG rfl rfl rfl (Be h5) rfl AB (TO.VG rfl rfl rfl (Be h5) rfl AB (TO.VG rfl rfl rfl (Be h5) rfl AB (tp rfl (Mk rfl rfl h5 rfl) (tm rfl ?_))))
 iterate 4 refine TO.VG rfl rfl rfl (Be rfl) rfl AB ?_
 refine tp rfl (Mk rfl rfl rfl rfl) (TO.nil (Fin.go (Ip 0 2 3 4 8 9 65 66 70 71 87 rfl (Tr.cond rfl (fun h=>nomatch h) (fun _=> ?_)))))
 refine Tr.skip (Fin.block (Fin.go (Tr.Aj (Lq rfl rfl rfl rfl AA (cm rfl (Ch.nil (Fin.EG (j+1) (gM) (_) u (⟨⟨by omega,hj2,hj3.step⟩,by omega⟩) ⟨⟨_,rfl,AG j⟩,ke rfl,ke rfl,ke rfl,ke rfl,ke rfl,ke rfl,ke rfl,ke rfl,trivial⟩ (fun _ _ h=>h))))))))
 have hje:j=(2+s.val 2).toNat:=by have:=DU.D7 h4;rw [Ta] at this;omega
 refine Tr.exit (Fin.AY (Fin.AY (Fin.Au (Fin.block (Fin.go (Tr.Aj (Lq rfl rfl rfl rfl AA (cm rfl (Ch.nil (Fin.EG (i+1) (gM) (_) u (⟨⟨by omega,hj2,hj3.row⟩,by omega⟩) ⟨⟨_,rfl,AG i⟩,ke rfl,ke rfl,ke rfl,ke rfl,ke rfl,trivial⟩ (fun _ _ h=>h)))))))))))
 have hie:i=(2+s.val 2).toNat:=by have:=DU.D7 h3;rw [Ta] at this;omega
 refine Tr.exit (Fin.AY (Fin.AY (Fin.Au (Fin.go (Tr.seq (Tr.seq (Tr.Aj (co rfl (AW rfl N2 (vl rfl)) (co rfl (Ck 1 rfl (BB rfl cE (vl rfl) rfl)) (co rfl (CB rfl underlying28 (Kb rfl)) (co rfl (ki rfl rfl rfl rfl) (Ch.nil (Fin.go ?_)))))))))))))
 refine Tr.cn rfl ?_ ?_<;>intro h8 q8
 refine Tr.Ao (tp rfl (Al (rows:=[(0,[_]),(1,[_])]) rfl vn Wn ⟨⟨rfl,(Vo rfl)⟩,⟨⟨rfl,(Vo rfl)⟩,trivial⟩⟩ rfl) (tp rfl (AO (xs:=[.tmp 102]) (rows:=[_]) rfl rfl underlying28 Ez Y9 rfl AB ⟨⟨Am,(Va rfl)⟩,trivial⟩ AB) ?_))
 refine tp rfl (AW rfl N2 (vl rfl)) (TO.DY 1 rfl rfl (Ay rfl rfl (vl rfl) (Vo rfl) AA7 rfl BA rfl) (TO.nil (Fin.go (F6 0 2 3 rfl (Tr.seq (Tr.seq ?_))))))
 have hv9:=s3.DD (n:=3) AA
 obtain ⟨jF,hge,AAl,AAm,AAn⟩:∃l:List Ia,l=[⟨0,1⟩]∧(∀k,k<l.length→Ek (2+s.val 2).toNat l k=true)∧1≤l.length∧l.length≤3:=⟨_,rfl,((ZX.nil (2+s.val 2).toNat 0 1).snoc ⟨by omega,by omega⟩ ⟨by omega,by omega⟩ AA).at_,by simp,by simp⟩
 refine Tr.H8 1 [slice 9 (es.map Bg),IM jF,is (.slice none 0 0)] rfl ⟨Lr,Pr.le_trans (B5 _ _) (Pr.le_of_eq (by rw [hge];rfl)),Lr,trivial⟩ ?_
 refine Tr.drop 0 (Tr.Ao (tm rfl (TO.G4 2 rfl rfl AB (An rfl rfl AB rfl (Ca AA AA) ⟨ke rfl,ke rfl,trivial⟩) (tm rfl (TO.nil (Fin.go (Tr.block (Tr.H8 0 [slice 9 (es.map Bg),IM jF,Ac (.slice none 0 0) (Ri [])] rfl ⟨Lr,Lr,Bq rfl,trivial⟩ (Tr.B_ 135 5 ?_)))))))))
 refine Tr.Fg [(0,_),(2,_),(3,_)] ⟨ke rfl,ke rfl,ke rfl,trivial⟩ (fun (q:Int) (its:List VY) (s5:DS) x=>[(10,int q)]) (fun (q:Int) (its:List VY) (s5:DS) x=>Hp M0 w0 S (At 135 5 x::AE true b2 31 [slice 9 (es.map Bg),IM jF,Ac x (Ri its)]::AE true b1 31 (([.slice none 0 0,.slice none 0 0,.slice none 0 0]:List Value).map is)::Dc b s5::Ak M1 w1::rs)) (fun (q:Int) (its:List VY) (s5:DS)=>0≤q∧q+its.length≤2∧∀x∈its,ZW x) (fun (q:Int) (its:List VY) (s5:DS)=>q.toNat) (_) ([]) (_) (.slice none 0 0) (⟨by omega,by simp;omega,fun x h=>by simp at h⟩) ⟨ke rfl,trivial⟩ (fun _ _ h=>h) ?_
 rintro q its s5 x ⟨hq1,fA,hqi⟩
 refine Tr.seq (Tr.seq (Tr.Aj (cm rfl (co rfl (ki rfl rfl rfl rfl) (Ch.nil (Fin.go ?_))))))
 refine Tr.cn rfl ?_ ?_<;>intro h9 q9
 have hq3:0<q:=of_decide_eq_true h9
 refine Tr.skip (Fin.go (Tr.seq (Tr.block (Tr.pad (Tr.GV mixed [none,some (0,2,false,0),none,none,none,some (0,4,true,0),some (0,4,true,0),none,some (0,1,true,119),none,some (0,2,true,119)] BV (xo rfl (fun _=>AW rfl N3 (vl rfl)) (IF 2 rfl rfl (BB rfl kg (vl rfl) rfl) (xm rfl (xm rfl (xo rfl (fun _=>AO (xs:=[.const (.string ⟨[98,97,99,107,117,112].toArray⟩),.const (.string ⟨[100,101,101,100].toArray⟩)]) (rows:=[[_],[_]]) rfl rfl underlying127 Ms z9 rfl AB ⟨⟨Am,(Vo rfl)⟩,⟨⟨Am,(Vo rfl)⟩,trivial⟩⟩ AB) ?_))))))))))
 refine Cx.ef 4 rfl rfl AB (An rfl rfl AB rfl (XC (l:=[[98,97,99,107,117,112],[100,101,101,100]]) AV AV) ⟨ke rfl,(Kf rfl),trivial⟩) ?_
 refine Cx.ef 4 rfl rfl AB (An rfl rfl AB rfl (dD) ⟨ke rfl,ke rfl,trivial⟩) (xo rfl (fun _=>AO (xs:=[.tmp 117]) (rows:=[_]) rfl rfl underlying29 HX U4 rfl AB ⟨⟨Am,(Va rfl)⟩,trivial⟩ AB) ?_)
 refine Cx.ef 1 rfl rfl AB (B8 rfl rfl rfl rfl underlying29 HX k9 U4 (Kb rfl) (Kf rfl) (A_ BO (Ka rfl))) ?_
 refine xo rfl (fun _=>AW rfl N3 (vl rfl)) (Cx.DY 2 rfl rfl (F7 rfl rfl rfl (vl rfl) rfl xD BA) ?_)
 refine Cx.nil ⟨rfl,?_⟩
 refine BJ.RC 1 2 119 rfl rfl AB rfl (fun v6=> ?_)
 refine BJ.done (Aw.cons (Aw.cons (Aw.cons (Aw.cons (Aw.cons (Aw.cons (Aw.map _))))))) (Fin.block (Fin.go (Tr.drop 0 (WC 0 2 3 10 rfl (Tr.Aj (cm rfl (csu rfl rfl rfl rfl AA (cm rfl (Ch.nil ?_)))))))))
 refine Fin.H8 1 [slice 9 (es.map Bg),IM jF,Ac v6 (Ri (its++[(Tm s5.Cd (KE s5 [L9,ZY]))]))] rfl ⟨Lr,Lr,BE DI,trivial⟩ ?_
 exact Fin.EG (q-1) (its++[(Tm s5.Cd (KE s5 [L9,ZY]))]) (_) v6 (⟨⟨by omega,by simp;omega,XL hqi (dB (dF s5))⟩,by omega⟩) ⟨⟨_,rfl,int_eq AA⟩,ke rfl,ke rfl,ke rfl,trivial⟩ (fun _ _ h=>h)
 have hq3:¬0<q:=of_decide_eq_false h9
 refine Tr.exit (Fin.AY (Fin.AY (Fin.Au (Fin.go (Tr.seq (Tr.Ao (TO.rd 1 rfl rfl rfl AB (B4 rfl Db DZ (vl rfl) rfl rfl) (TO.AK 2 rfl rfl rfl (vl rfl) (Va rfl) rfl DZ rfl rfl (TO.nil (Fin.go (Tr.ret (Fin.G5 3 _ rfl rfl (Fin.GW [_,_,_] rfl (AM.cell 2 rfl rfl Db DZ rfl (Lr)) ?_ (fun _ _ _ _=>rfl))))))))))))))
 · exact jg
 refine Tr.skip (Fin.go (Tr.seq (Tr.seq ?_)))
 have hv9:=s3.DD (n:=3) AA
 obtain ⟨jF,hge,AAl,AAm,AAn⟩:∃l:List Ia,l=gs∧(∀k,k<l.length→Ek (2+s.val 2).toNat l k=true)∧1≤l.length∧l.length≤3:=⟨_,rfl,hi3.at_,by have h_:=h8;simp at h_;exact List.length_pos_iff.2 h_,hi2⟩
 refine Tr.H8 1 [slice 9 (es.map Bg),IM jF,is (.slice none 0 0)] rfl ⟨Lr,Pr.le_trans (As _ _) (Pr.le_of_eq (by rw [hge])),Lr,trivial⟩ (Tr.drop 0 (Tr.Ao (tm rfl (TO.G4 2 rfl rfl AB (An rfl rfl AB rfl (Ca AA AA) ⟨ke rfl,ke rfl,trivial⟩) (tm rfl (TO.nil (Fin.go (WC 0 2 3 10 rfl (Tr.block (Tr.H8 0 [slice 9 (es.map Bg),IM jF,Ac (.slice none 0 0) (Ri [])] rfl ⟨Lr,Lr,Bq rfl,trivial⟩ (Tr.B_ 135 5 ?_)))))))))))
 refine Tr.Fg [(0,_),(2,_),(3,_)] ⟨ke rfl,ke rfl,ke rfl,trivial⟩ (fun (q:Int) (its:List VY) (s5:DS) x=>[(10,int q)]) (fun (q:Int) (its:List VY) (s5:DS) x=>Hp M0 w0 S (At 135 5 x::AE true b2 31 [slice 9 (es.map Bg),IM jF,Ac x (Ri its)]::AE true b1 31 (([.slice none 0 0,.slice none 0 0,.slice none 0 0]:List Value).map is)::Dc b s5::Ak M1 w1::rs)) (fun (q:Int) (its:List VY) (s5:DS)=>0≤q∧q+its.length≤2∧∀x∈its,ZW x) (fun (q:Int) (its:List VY) (s5:DS)=>q.toNat) (_) ([]) (_) (.slice none 0 0) (⟨by omega,by simp;omega,fun x h=>by simp at h⟩) ⟨ke rfl,trivial⟩ (fun _ _ h=>h) ?_
 rintro q its s5 x ⟨hq1,fA,hqi⟩
 refine Tr.seq (Tr.seq (Tr.Aj (cm rfl (co rfl (ki rfl rfl rfl rfl) (Ch.nil (Fin.go ?_))))))
 refine Tr.cn rfl ?_ ?_<;>intro h10 Re
 have hq3:0<q:=of_decide_eq_true h10
 refine Tr.skip (Fin.go (Tr.seq (Tr.block (Tr.pad (Tr.GV mixed [none,some (0,2,false,0),none,none,none,some (0,4,true,0),some (0,4,true,0),none,some (0,1,true,119),none,some (0,2,true,119)] BV (xo rfl (fun _=>AW rfl N3 (vl rfl)) (IF 2 rfl rfl (BB rfl kg (vl rfl) rfl) (xm rfl (xm rfl (xo rfl (fun _=>AO (xs:=[.const (.string ⟨[98,97,99,107,117,112].toArray⟩),.const (.string ⟨[100,101,101,100].toArray⟩)]) (rows:=[[_],[_]]) rfl rfl underlying127 Ms z9 rfl AB ⟨⟨Am,(Vo rfl)⟩,⟨⟨Am,(Vo rfl)⟩,trivial⟩⟩ AB) ?_))))))))))
 refine Cx.ef 4 rfl rfl AB (An rfl rfl AB rfl (XC (l:=[[98,97,99,107,117,112],[100,101,101,100]]) AV AV) ⟨ke rfl,(Kf rfl),trivial⟩) ?_
 refine Cx.ef 4 rfl rfl AB (An rfl rfl AB rfl (dD) ⟨ke rfl,ke rfl,trivial⟩) (xo rfl (fun _=>AO (xs:=[.tmp 117]) (rows:=[_]) rfl rfl underlying29 HX U4 rfl AB ⟨⟨Am,(Va rfl)⟩,trivial⟩ AB) ?_)
 refine Cx.ef 1 rfl rfl AB (B8 rfl rfl rfl rfl underlying29 HX k9 U4 (Kb rfl) (Kf rfl) (A_ BO (Ka rfl))) ?_
 refine xo rfl (fun _=>AW rfl N3 (vl rfl)) (Cx.DY 2 rfl rfl (F7 rfl rfl rfl (vl rfl) rfl xD BA) ?_)
 refine Cx.nil ⟨rfl,?_⟩
 refine BJ.RC 1 2 119 rfl rfl AB rfl (fun v7=> ?_)
 refine BJ.done (Aw.cons (Aw.cons (Aw.cons (Aw.cons (Aw.cons (Aw.cons (Aw.map _))))))) (Fin.block (Fin.go (Tr.drop 0 (WC 0 2 3 10 rfl (Tr.Aj (cm rfl (csu rfl rfl rfl rfl AA (cm rfl (Ch.nil ?_)))))))))
 refine Fin.H8 1 [slice 9 (es.map Bg),IM jF,Ac v7 (Ri (its++[(Tm s5.Cd (KE s5 [L9,ZY]))]))] rfl ⟨Lr,Lr,BE DI,trivial⟩ ?_
 exact Fin.EG (q-1) (its++[(Tm s5.Cd (KE s5 [L9,ZY]))]) (_) v7 (⟨⟨by omega,by simp;omega,XL hqi (dB (dF s5))⟩,by omega⟩) ⟨⟨_,rfl,int_eq AA⟩,ke rfl,ke rfl,ke rfl,trivial⟩ (fun _ _ h=>h)
 have hq3:¬0<q:=of_decide_eq_false h10
 refine Tr.exit (Fin.AY (Fin.AY (Fin.Au (Fin.go (Tr.seq (Tr.Ao (TO.rd 1 rfl rfl rfl AB (B4 rfl Db DZ (vl rfl) rfl rfl) (TO.AK 2 rfl rfl rfl (vl rfl) (Va rfl) rfl DZ rfl rfl (TO.nil (Fin.go (Tr.ret (Fin.G5 3 _ rfl rfl (Fin.GW [_,_,_] rfl (AM.cell 2 rfl rfl Db DZ rfl (Lr)) ?_ (fun _ _ _ _=>rfl))))))))))))))
 · exact jg
end Go.Proofs.YtmocaapoeefgkaaGreatDoor
namespace Cp
open Go Go.RowKit
theorem I0 {P:Program} {E:Env} {I:Ce} {o:Oper} {t e:TypeId} {y:Operand} {sz bytes:Nat} {zs:List Value} {rows:List (List Pr)} (ho:o.op= .call { callee:= .builtin .append,args:= #[.const (.slice none 0 0),y],argTypes:= #[t,t] })
  (ht:P.underlying t=some (.slice e)) (hz:A8 P e=some sz) (hby:Bx P e=some bytes) (Ee:Bc P e=some zs) (hzl:zs.length=sz) (hsz:0<sz) (hy:VL E y (slice sz rows)) (Gy:rows.length≤maxLen) (hfit:rows.length*bytes≤140737488355328):Ae P I o E (slice sz rows):=
 Ae.val fun M w a he hI=>by
  have h0:=(Az.begin (I.bd _ _ hI)).Ib (r:=Bp) rfl trivial
  obtain ⟨v',w',M',h1,h2,h3,h4⟩:=WW (ty:=o.type) (j:=0) (v:= .slice none 0 0) (rows:=[]) ht hz hby Ee hzl hsz h0 rfl (.inr ⟨rfl,rfl⟩) (AQ sz M w _ rfl) (hy.ev he DH) Pw Pv
  have h5:a.eval (.const (.slice none 0 0))= .slice none 0 0:=rfl
  exact ⟨v',w',by simp [execOp,ho,resolve,invoke,builtin,h1,h5],(slice sz rows).st _ _ _ _ _ (Ext.less h4.m) MY,h4.below⟩
theorem TO.TR {P:Program} {n:Fm} {E:Env} {M0:Av} {w0:World} {S:Nat→Prop} {rs:List Ap} {ops:Array Oper} {r:List Oper} {Q:Exit→Act→World→Prop} (i:Nat) {T:TypeId} {b:Nat} (hi:rs[i]? =some (Is T b)) (k:∀s,TO P n ops r E (Hp M0 w0 S (rs.set i (Wf T b s))) Q):TO P n ops r E (Hp M0 w0 S rs) Q:=by
 rintro m hl a w ⟨M,h1,h2,h3,h4⟩
 have h4:Az M0 w0 S rs M w:=h4
 obtain ⟨x,hx,hh⟩:=(h4.hold _ (List.mem_of_getElem? hi)).1
 exact k x m hl a w ⟨M,h1,h2,h3,h4.CU hi rfl rfl hh⟩
theorem Ae.MN {P:Program} {E:Env} {I:Ce} {o:Oper} {p:Pr} (s:Nat) {α:Type} {f:α→Pr} (hs:E.lookup s=some (Cp.ex f)) (hm:s∈looks o) (h:∀x,Ae P I o ((s,f x)::E) p):Ae P I o E p:=by
 intro M w a he hI
 obtain ⟨x,hx⟩:=he s _ hm hs
 refine h x M w a (fun t q ht hq=> ?_) hI
 simp only [List.lookup] at hq
 by_cases hts:t=s
 · exact Ug
 · exact UU
theorem Ae.opf {P:Program} {E:Env} {I:Ce} {o:Oper} {p q:Pr} {φ:Prop} (s:Nat) (hs:E.lookup s=some (Cp.fact φ q)) (hm:s∈looks o) (h:φ→Ae P I o ((s,q)::E) p):Ae P I o E p:=by
 intro M w a he hI
 obtain ⟨hφ,hx⟩:=he s _ hm hs
 refine h hφ M w a (fun t r ht hr=> ?_) hI
 simp only [List.lookup] at hr
 by_cases hts:t=s
 · subst hts;simp at hr;subst hr;exact hx
 · rw [show (t==s)=false by simpa using hts] at hr;exact he t r ht hr
end Cp
namespace Cp
open Go Go.RowKit Go.Great
section
variable {P:Program} {L:Lg P} {n:Fm} {fz:Nat} {E:Env} {M0:Av} {w0:World} {S:Nat→Prop} {rs:List Ap}
theorem Az.XM {i:Nat} {r r':Ap} {M:Av} {w:World} (h:Az M0 w0 S rs M w) (hi:rs[i]? =some r) (hb:∀b,r'.blk=some b→r.blk=some b) (hn:r'.new=r.new) (hh:r'.h M w):Az M0 w0 S (rs.set i r') M w:=by
 have Fp:i<rs.length:=by rcases Nat.lt_or_ge i rs.length with h|h;exact h;rw [List.getElem?_eq_none h] at hi;cases hi
 have h1:=Az.perm (DT hi) h
 refine Az.perm (Mh Fp) ⟨h1.m0,h1.m,h1.os,h1.tape,h1.output,h1.size,h1.block,h1.bd,fun q hq=> ?_,?_⟩
 ·
  rcases List.mem_cons.1 hq with rfl|hq
  · exact ⟨hh,fun b hbk=>by rw [hn];exact (h1.hold r AV).2 b (hb b hbk)⟩
  · exact h1.hold q (by simp [hq])
 ·
  obtain ⟨h2,h3⟩:=List.pairwise_cons.1 h1.nd
  exact List.Pairwise.cons (fun q hq b hbk=>h2 q hq b (hb b hbk)) h3
theorem Az.Rj {j:Nat} {e:TypeId} {sz:Nat} {rows:List (List Pr)} {v:Value} {M:Av} {w:World} (h:Az M0 w0 S rs M w) (hj:rs[j]? =some (BQ e sz rows v)):Az M0 w0 S (rs.set j (Bs e sz rows v)) M w:=by
 rcases (h.hold _ (List.mem_of_getElem? hj)).1 with ⟨h1,h2⟩|⟨b,cap,sp,h1,h2,h3,h4,h5⟩
 ·
  subst h2
  exact h.XM hj (fun b hb=>by cases hb) rfl (.inl ⟨h1,_,rfl⟩)
 ·
  subst h1
  cases cap with
  |zero=>
   have hr:rows=[]:=List.eq_nil_of_length_eq_zero AA
   subst hr
   exact h.XM hj (fun b hb=>by cases hb) rfl (.inl ⟨rfl,_,rfl⟩)
  |succ c=>exact h.XM hj (fun b hb=>hb) rfl (.inr ⟨b,c,sp,rfl,h2,h3,h4,h5⟩)
theorem Fin.Rj {Q:Exit→Act→World→Prop} {x:Exit} {e:TypeId} {sz:Nat} {rows:List (List Pr)} {v:Value} (j:Nat) (hj:rs[j]? =some (BQ e sz rows v)) (k:Fin n E (Hp M0 w0 S (rs.set j (Bs e sz rows v))) Q x):Fin n E (Hp M0 w0 S rs) Q x:=
 Fin.conv (fun a w hs=>by
  obtain ⟨M,h1,h2,h3,h4⟩:=hs
  have h4:Az M0 w0 S rs M w:=h4
  exact ⟨M,h1,h2,h3,h4.Rj hj⟩) k
theorem Tr.Rj {Q:Exit→Act→World→Prop} {c:Code} {e:TypeId} {sz:Nat} {rows:List (List Pr)} {v:Value} (j:Nat) (hj:rs[j]? =some (BQ e sz rows v)) (k:Tr L n E (Hp M0 w0 S (rs.set j (Bs e sz rows v))) c Q):Tr L n E (Hp M0 w0 S rs) c Q:=
 Tr.conv (fun _ _ ⟨M,h1,h2,h3,h4⟩=>⟨M,h1,h2,h3,Az.Rj h4 hj⟩) k
end
end Cp
namespace Go.Proofs.YtmocaapoeefgkaaGreatDoor
open Go Go.RowKit Cp Go.Proofs.Tryz
structure CA.sz (e:CA) (n:Nat):Prop where
 name:e.name.length≤maxLen
 A0:e.A0.length≤n
 anchors:e.anchors.length≤n
 hashes:e.hashes.length≤n
 YZ:e.ids.length≤n
 ids:∀x∈e.ids,x.fits∧x.small
theorem CA.sz.fits {e:CA} {n:Nat} (h:e.sz n):e.fits:=⟨h.name,fun x hx=>(h.ids x hx).1⟩
theorem CA.sz.small {e:CA} {n:Nat} (h:e.sz n) (hn:n≤1000000):e.small:=⟨by have:=h.A0;omega,by have:=h.anchors;omega,by have:=h.hashes;omega,by have:=h.YZ;omega,fun x hx=>(h.ids x hx).2⟩
theorem CA.sz.le {e:CA} {n m:Nat} (h:e.sz n) (hn:n≤m):e.sz m:=⟨h.name,Nat.le_trans h.A0 hn,Nat.le_trans h.anchors hn,Nat.le_trans h.hashes hn,Nat.le_trans h.YZ hn,h.ids⟩
theorem th {i:Nat} {e:CA} (h:ZN i e):e.sz 5:=by
 have hs:=VW _ (KF h)
 have h1:=Tj h;have h2:=Rh h
 obtain ⟨s,hs1,VI⟩:=h.ids
 exact ⟨h1.name,hs.2,by rw [h.anchors];simp,by rw [h.hashes];simp,by rw [VI];simp,fun x hx=>⟨h1.ids x hx,h2.ids x hx⟩⟩
theorem QL {α:Type} {l:List α} {a:α} {i:Nat}:(l.take i++[a]++l.drop i).length≤l.length+1:=by simp [List.length_take,List.length_drop];omega
theorem QM {α:Type} {l:List α} {i:Nat}:(l.eraseIdx i).length≤l.length:=by rw [List.length_eraseIdx];split<;>omega
theorem HB:Bz.fits∧Bz.small:=⟨mR,gA⟩
theorem tj {P:Hx→Prop} {l:List Hx} {x:Hx} {i:Nat} (h:∀y∈l,P y) (hx:P x):∀y∈l.take i++[x]++l.drop i,P y:=by
 intro y hy
 simp only [List.mem_append,List.mem_cons,List.not_mem_nil,or_false] at hy
 rcases hy with (hy|rfl)|hy
 · exact h y (List.mem_of_mem_take hy)
 · exact hx
 · exact h y (List.mem_of_mem_drop hy)
theorem dG {e:CA} {c:Bb} {x:CA} {b:Bb} {n:Nat} (hc:JW c) (h:CD e c= .ok (x,b)) (hs:e.sz n) (hi:c.C1.fits∧c.C1.small):x.sz (n+1)∧b.C1.fits∧b.C1.small:=by
 have h1:=hs.A0;have h2:=hs.anchors;have h3:=hs.hashes;have h4:=hs.YZ
 rcases cz hc.1 with hk|hk|hk|hk|hk|hk|hk|hk|hk|hk|hk|hk
 · rw [QC hk] at h;(repeat' (split at h))<;>first|(cases h;done)|(injection h with h;obtain ⟨rfl,rfl⟩:=Prod.mk.inj h;exact ⟨⟨hs.name,Nat.le_trans QL AA,Nat.le_trans h2 AA,Nat.le_trans h3 AA,Nat.le_trans h4 AA,hs.ids⟩,HB⟩)
 · rw [QD hk] at h;(repeat' (split at h))<;>first|(cases h;done)|(injection h with h;obtain ⟨rfl,rfl⟩:=Prod.mk.inj h;exact ⟨⟨hs.name,Nat.le_trans QM AA,Nat.le_trans h2 AA,Nat.le_trans h3 AA,Nat.le_trans h4 AA,hs.ids⟩,HB⟩)
 · rw [QE hk] at h;(repeat' (split at h))<;>first|(cases h;done)|(injection h with h;obtain ⟨rfl,rfl⟩:=Prod.mk.inj h;exact ⟨⟨hs.name,Nat.le_trans h1 AA,Nat.le_trans h2 AA,Nat.le_trans h3 AA,Nat.le_trans h4 AA,hs.ids⟩,HB⟩)
 · rw [QF hk] at h;(repeat' (split at h))<;>first|(cases h;done)|(injection h with h;obtain ⟨rfl,rfl⟩:=Prod.mk.inj h;exact ⟨⟨hs.name,Nat.le_trans h1 AA,Nat.le_trans h2 AA,Nat.le_trans h3 AA,Nat.le_trans h4 AA,hs.ids⟩,HB⟩)
 · rw [QG hk] at h;(repeat' (split at h))<;>first|(cases h;done)|(injection h with h;obtain ⟨rfl,rfl⟩:=Prod.mk.inj h;exact ⟨⟨hs.name,Nat.le_trans h1 AA,Nat.le_trans h2 AA,Nat.le_trans h3 AA,Nat.le_trans QL AA,tj hs.ids hi⟩,HB⟩)
 · rw [QH hk] at h;(repeat' (split at h))<;>first|(cases h;done)|(injection h with h;obtain ⟨rfl,rfl⟩:=Prod.mk.inj h;exact ⟨⟨hs.name,Nat.le_trans h1 AA,Nat.le_trans h2 AA,Nat.le_trans h3 AA,Nat.le_trans QM AA,fun y hy=>hs.ids y (List.mem_of_mem_eraseIdx hy)⟩,hs.ids _ (List.mem_of_getElem? Bh)⟩)
 · rw [QI hk] at h;(repeat' (split at h))<;>first|(cases h;done)|(injection h with h;obtain ⟨rfl,rfl⟩:=Prod.mk.inj h;exact ⟨⟨hs.name,Nat.le_trans h1 AA,Nat.le_trans QL AA,Nat.le_trans h3 AA,Nat.le_trans h4 AA,hs.ids⟩,HB⟩)
 · rw [QJ hk] at h;(repeat' (split at h))<;>first|(cases h;done)|(injection h with h;obtain ⟨rfl,rfl⟩:=Prod.mk.inj h;exact ⟨⟨hs.name,Nat.le_trans h1 AA,Nat.le_trans QM AA,Nat.le_trans h3 AA,Nat.le_trans h4 AA,hs.ids⟩,HB⟩)
 · rw [QK hk] at h;(repeat' (split at h))<;>first|(cases h;done)|(injection h with h;obtain ⟨rfl,rfl⟩:=Prod.mk.inj h;exact ⟨⟨hs.name,Nat.le_trans h1 AA,Nat.le_trans h2 AA,Nat.le_trans QL AA,Nat.le_trans h4 AA,hs.ids⟩,HB⟩)
 · rw [M_ hk] at h;(repeat' (split at h))<;>first|(cases h;done)|(injection h with h;obtain ⟨rfl,rfl⟩:=Prod.mk.inj h;exact ⟨⟨hs.name,Nat.le_trans h1 AA,Nat.le_trans h2 AA,Nat.le_trans QM AA,Nat.le_trans h4 AA,hs.ids⟩,HB⟩)
 · rw [NA hk] at h;(repeat' (split at h))<;>first|(cases h;done)|(injection h with h;obtain ⟨rfl,rfl⟩:=Prod.mk.inj h;exact ⟨⟨hs.name,Nat.le_trans h1 AA,Nat.le_trans h2 AA,Nat.le_trans h3 AA,Nat.le_trans h4 AA,hs.ids⟩,HB⟩)
 · rw [NB hk] at h;(repeat' (split at h))<;>first|(cases h;done)|(injection h with h;obtain ⟨rfl,rfl⟩:=Prod.mk.inj h;exact ⟨⟨hs.name,Nat.le_trans h1 AA,Nat.le_trans h2 AA,Nat.le_trans h3 AA,Nat.le_trans h4 AA,hs.ids⟩,HB⟩)
theorem tq {e:CA} {c:Bb} {x:CA} {b:Bb} {n:Nat} (h:ED e c=(x,b,0)) (hs:e.sz n) (hi:c.C1.fits∧c.C1.small):x.sz (n+1)∧b.C1.fits∧b.C1.small:=by
 obtain ⟨_,h2,h3,_⟩:=gH h
 exact dG h2 h3 hs hi
structure Dl.sz (e:Dl) (n:Nat):Prop where
 Bt:∀x∈e.Bt,x.sz n
 items:∀x∈e.items,x.name.length≤maxLen∧x.links.length≤1000000
 le:e.Bt.length≤1000000
 lg:e.BU.length≤1000000
 li:e.items.length≤1000000
theorem Dl.sz.fits {e:Dl} {n:Nat} (h:e.sz n) (hn:n≤1000000):e.fits:=
 ⟨fun x hx=>⟨(h.Bt x hx).fits,(h.Bt x hx).small hn⟩,fun x hx=>(h.items x hx).1,by have:=h.le;omega,by have:=h.lg;omega,by have:=h.li;omega⟩
theorem wQ {β γ:Type} {f:β→γ} {l:List β} {k:Nat} {x:β} (h:l[k]? =some x):(l.take k).map f++[f x]=(l.take (k+1)).map f:=by rw [List.take_add_one,h,List.map_append];rfl
def LY (l:List CA) (c:Bb):List CA×Int:=
 if c.AZ<0∨((l.length:Nat):Int)≤c.AZ then (l,40)
 else match l[c.AZ.toNat]? with
  |none=>(l,40)
  |some x=>if (ED x c).2.2=0 then (l.set c.AZ.toNat (ED x c).1,0) else (l,(ED x c).2.2)
theorem tu {l:List CA} {c:Bb} (h:c.AZ<0∨((l.length:Nat):Int)≤c.AZ):LY l c=(l,40):=if_pos h
theorem yT {l:List CA} {c:Bb} {x:CA} (h:¬(c.AZ<0∨((l.length:Nat):Int)≤c.AZ)) (hx:l[c.AZ.toNat]? =some x):LY l c=if (ED x c).2.2=0 then (l.set c.AZ.toNat (ED x c).1,0) else (l,(ED x c).2.2):=by
 unfold LY;rw [if_neg h,hx]
def OC (l:List Bb):List Int→List CA→List CA×Int
 |[],Bt=>(Bt,0)
 |i::s,Bt=>match l[i.toNat]? with
  |none=>(Bt,0)
  |some c=>if (LY Bt c).2=0 then OC l s (LY Bt c).1 else (Bt,(LY Bt c).2)
def Vd (e:Dl) (l:List Bb) (s:List Int):Dl×Int:=
 if FR e=false then (GC,31)
 else if 24<l.length then (GC,3)
 else if DW l.length s=false then (GC,46)
 else if (OC l s e.Bt).2=0 then (⟨(OC l s e.Bt).1,e.BU,e.items⟩,0) else (GC,(OC l s e.Bt).2)
theorem gN {l:List Bb} {s:List Int} {Bt:List CA} {k:Nat} {i:Int} {c:Bb} (hi:s[k]? =some i) (hc:l[i.toNat]? =some c):OC l (s.drop k) Bt=if (LY Bt c).2=0 then OC l (s.drop (k+1)) (LY Bt c).1 else (Bt,(LY Bt c).2):=by
 have hk:=BN hi
 rw [List.drop_eq_getElem_cons hk]
 rw [List.getElem?_eq_getElem hk] at hi;cases hi
 rw [OC];rw [hc]
theorem dH (l:List CA) (c:Bb):(LY l c).1.length=l.length:=by
 unfold LY;split
 · rfl
 ·
  split
  · rfl
  ·
   split
   · exact List.length_set
   · rfl
theorem mo {l:List CA} {c:Bb} {n:Nat} (hz:∀x∈l,x.sz n) (hi:c.C1.fits∧c.C1.small):∀x∈(LY l c).1,x.sz (n+1):=by
 have Eh:∀x∈l,x.sz (n+1):=fun x hx=>(hz x hx).le AA
 unfold LY;split
 · exact Eh
 ·
  split
  · exact Eh
  next x hx=>
  split
  next h0=>
   intro y hy
   rcases List.mem_or_eq_of_mem_set hy with hy|hy
   · exact Eh y hy
   ·
    subst hy
    exact (tq (b:=(ED x c).2.1) (by rw [←h0]) (hz x (List.mem_of_getElem? hx)) hi).1
  · exact Eh
def Oz (s:List Int) (k:Nat):Int:=if k=0 then -1 else s[k-1]?.getD 0
theorem ZZ {s:List Int} {k:Nat} {i:Int} (h:s[k]? =some i):Oz s (k+1)=i:=by unfold Oz;rw [if_neg AA,Nat.add_sub_cancel,h];rfl
theorem Rk {n:Int} {s:List Int} {k:Nat} {i:Int} (h:∀j,j<k→setAt n s j=true) (hi:s[k]? =some i):setAt n s k= !(decide (i≤Oz s k)||decide (n≤i)):=by
 have hk:=BN hi
 unfold setAt Oz
 rw [hi,Option.getD_some]
 rcases Nat.eq_zero_or_pos k with hz|hz
 · subst hz;rw [Bool.eq_iff_iff];simp;omega
 ·
  have h1:=h (k-1) AA
  unfold setAt at h1
  simp only [Bool.and_eq_true,decide_eq_true_eq] at h1
  rw [if_neg AA,Bool.eq_iff_iff];simp;omega
theorem UR {n:Int} {s:List Int} {k:Nat} {i:Int} (h:∀j,j<k→setAt n s j=true) (hi:s[k]? =some i) (hb:i≤Oz s k∨n≤i):DW n s=false:=
 Qt (p:=setAt n s) (k:=k) (BN hi) (by rw [Rk h hi];simp;omega)
theorem mq {n:Int} {s:List Int} (h:∀j,j<s.length→setAt n s j=true):∀j,j<s.length→(j:Int)≤s[j]?.getD 0
 |0,hj=>by have:=h 0 hj;unfold setAt at this;simp at this;simp;omega
 |j+1,hj=>by
  have h1:=mq h j AA
  have:=h (j+1) hj
  unfold setAt at this
  simp only [Bool.and_eq_true,Bool.or_eq_true,decide_eq_true_eq,Nat.add_sub_cancel] at this
  omega
theorem dI {n:Nat} {s:List Int} (h:DW n s=true):s.length≤n:=by
 unfold DW at h;rw [B7] at h
 rcases Nat.eq_zero_or_pos s.length with hz|hz
 · omega
 ·
  have h1:=mq h (s.length-1) AA
  have h2:=h (s.length-1) AA
  unfold setAt at h2
  simp only [Bool.and_eq_true,decide_eq_true_eq] at h2
  omega
theorem QN {n:Nat} {s:List Int} (h:DW n s=true) {k:Nat} {i:Int} (hi:s[k]? =some i):0≤i∧i<n:=by
 unfold DW at h;rw [B7] at h
 have h2:=h k (BN hi)
 unfold setAt at h2
 rw [hi] at h2
 simp only [Option.getD_some,Bool.and_eq_true,decide_eq_true_eq] at h2
 exact h2.1
end Go.Proofs.YtmocaapoeefgkaaGreatDoor
namespace Cp
open Go Go.RowKit
theorem tv {β:Type} {f:β→Pr} {ps:List Pr} {M:Av} {w:World} {ad:Addr} {n:Nat} (h:Row M w ad n (ps++[Cp.ex f])):∃x,Row M w ad n (ps++[f x]):=by
 obtain ⟨u,h1,h2,h3,x,h4⟩:=h ps.length (Cp.ex f) AV
 refine ⟨x,fun j p hp=> ?_⟩
 rcases Nat.lt_trichotomy j ps.length with hj|hj|hj
 · exact bS
 · subst hj;simp at hp;subst hp;exact ⟨u,h1,h2,h3,h4⟩
 · exact Pb
theorem gO {φ:Prop} {q:Pr} {ps:List Pr} {M:Av} {w:World} {ad:Addr} {n:Nat} (h:Row M w ad n (ps++[fact φ q])):φ∧Row M w ad n (ps++[q]):=by
 obtain ⟨u,h1,h2,h3,hφ,h4⟩:=h ps.length (fact φ q) AV
 refine ⟨hφ,fun j p hp=> ?_⟩
 rcases Nat.lt_trichotomy j ps.length with hj|hj|hj
 · exact bS
 · subst hj;simp at hp;subst hp;exact ⟨u,h1,h2,h3,h4⟩
 · exact Pb
theorem Za {α β:Type} {f:α→List Pr} {g:β→List Pr} {φ:α→β→Prop} {sz:Nat} (h:∀a M w ad n,Row M w ad n (f a)→∃b,φ a b∧Row M w ad n (g b)) (hf:∀a,(f a).length=sz) (hg:∀b,(g b).length=sz) (ms:List α):
  Pr.le (slice sz (ms.map f)) (Cp.ex fun l:List β=>fact (l.length=ms.length∧∀(i:Nat) a b,ms[i]? =some a→l[i]? =some b→φ a b) (slice sz (l.map g))):=by
 rintro M w v ⟨a,cap,hv,h1,h2,h3,h5⟩
 have hk:∀k,k≤ms.length→∃l:List β,l.length=k∧(∀(i:Nat) a b,ms[i]? =some a→l[i]? =some b→φ a b)∧∀(i:Nat) b,l[i]? =some b→∃ad,a=some ad∧Row M w ad (i*sz) (g b):=by
  intro k
  induction k with
  |zero=>intro _;exact ⟨[],rfl,by simp,by simp⟩
  |succ k ih=>
   intro hk
   obtain ⟨l,hl,hp,hr⟩:=ih AA
   obtain ⟨x,hx⟩:∃x,ms[k]? =some x:=⟨ms[k],List.getElem?_eq_getElem AA⟩
   obtain ⟨_,ad,had,hrow⟩:=h5 k (f x) Uf
   obtain ⟨b,PJ,TE⟩:=h x M w ad (k*sz) hrow
   refine ⟨l++[b],by simp [hl],fun i y c hy hc=> ?_,fun i c hc=> ?_⟩
   ·
    rcases Nat.lt_trichotomy i k with hi|hi|hi
    · rw [List.getElem?_append_left AA] at hc;exact hp i y c hy hc
    · subst hi;rw [List.getElem?_append_right AA,hl] at hc;simp at hc;subst hc;rw [hx] at hy;cases hy;exact PJ
    · rw [List.getElem?_eq_none (by simp [hl];omega)] at hc;cases hc
   ·
    rcases Nat.lt_trichotomy i k with hi|hi|hi
    · rw [List.getElem?_append_left AA] at hc;exact hr i c hc
    · subst hi;rw [List.getElem?_append_right AA,hl] at hc;simp at hc;subst hc;exact ⟨ad,had,TE⟩
    · rw [List.getElem?_eq_none (by simp [hl];omega)] at hc;cases hc
 obtain ⟨l,hl,hp,hr⟩:=hk ms.length (Nat.le_refl _)
 rw [List.length_map] at hv h1
 refine ⟨l,⟨hl,hp⟩,a,cap,by rw [List.length_map,hl];exact hv,by rw [List.length_map,hl];exact h1,h2,h3,fun i row hrow=> ?_⟩
 rw [List.getElem?_map] at hrow
 cases hb:l[i]? with
 |none=>rw [hb] at hrow;cases hrow
 |some b=>
  rw [hb] at hrow;simp at hrow;subst hrow
  exact ⟨hg b,hr i b hb⟩
end Cp
namespace Go.Proofs.YtmocaapoeefgkaaGreatDoor
open Go Go.RowKit Cp Go.Proofs.Tryz
structure ChS (l:List HJ):Prop where
 fits:∀c∈l,c.fits
 small:(⟨0,0,0,l⟩:Hx).small
abbrev chE:Pr:=Cp.ex fun l:List HJ=>fact (ChS l) (LW l)
abbrev EI (c:Bb):List Pr:=[int c.AZ,int c.kind,int c.number,int c.at_,int c.C1.CF,int c.C1.bits,int c.C1.CR,chE]
structure tw (es:List CA) (c:Bb):Prop where
 lo:0≤c.AZ
 hi:c.AZ<(es.length:Nat)
 kind:1≤c.kind∧c.kind≤12
def IP (es:List CA) (l:List Bb):Prop:=∀c∈l,tw es c
theorem IP.snoc {es:List CA} {l:List Bb} {c:Bb} (h:IP es l) (hc:tw es c):IP es (l++[c]):=by
 intro x hx
 rcases List.mem_append.1 hx with hx|hx
 · exact h x hx
 · simp at hx;subst hx;exact hc
theorem IP.two {es:List CA} {l:List Bb} {c d:Bb} (h:IP es l) (hc:tw es c) (hd:tw es d):IP es (l++[c,d]):=by
 intro x hx
 rcases List.mem_append.1 hx with hx|hx
 · exact h x hx
 · simp at hx;rcases hx with rfl|rfl;exact hc;exact hd
theorem IP.perm {es:List CA} {l m:List Bb} (hp:m.Perm l) (h:IP es l):IP es m:=fun c hc=>h c (hp.mem_iff.1 hc)
theorem IP.take {es:List CA} {l:List Bb} {n:Nat} (h:IP es l):IP es (l.take n):=fun c hc=>h c (List.mem_of_mem_take hc)
theorem t_:ChS []:=⟨(fun c h=>by cases h),⟨by show 0≤_;omega,(fun c hc=>by cases hc)⟩⟩
theorem NF:Pr.le (is (.slice none 0 0)) chE:=Ax [] (A9 t_ (AQ 15))
theorem uA {nm:List UInt8} (h:nm∈Fo) {a b id key:Int}:Pr.le (yI nm a b id 901 key) chE:=by
 rintro M w v ⟨s,hs,hv⟩
 have hf:=ACv (a:=a) (b:=b) (id:=id) (key:=key) (s:=s) h
 exact ⟨_,⟨hf.1,⟨hf.2.chain,hf.2.names⟩⟩,hv⟩
theorem mu {nm:List UInt8} {a b id to key:Int}:(wM nm a b id to key).le (agg [int a,int b,int id,yI nm a b id to key]):=by
 rintro M w v ⟨s,hs,hv⟩
 exact BS (ps:=FB (Hg nm a b id to key s)) (qs:=[int a,int b,int id,yI nm a b id to key]) ⟨Pr.le_refl _,Pr.le_refl _,Pr.le_refl _,fun M w v h=>⟨s,hs,h⟩,trivial⟩ M w v hv
theorem mw (c:Bb) (M:Av) (w:World) (ad:Addr) (n:Nat) (h:Row M w ad n (EI c)):∃b:Bb,(b.AZ=c.AZ∧b.kind=c.kind∧b.number=c.number∧b.at_=c.at_∧ChS b.C1.chain)∧Row M w ad n (Et b):=by
 obtain ⟨ch,h1⟩:=tv (ps:=[int c.AZ,int c.kind,int c.number,int c.at_,int c.C1.CF,int c.C1.bits,int c.C1.CR]) h
 obtain ⟨h2,h3⟩:=gO (ps:=[int c.AZ,int c.kind,int c.number,int c.at_,int c.C1.CF,int c.C1.bits,int c.C1.CR]) h1
 exact ⟨⟨c.AZ,c.kind,c.number,c.at_,⟨c.C1.CF,c.C1.bits,c.C1.CR,ch⟩⟩,⟨rfl,rfl,rfl,rfl,h2⟩,h3⟩
structure AC2 (es:List CA) (l:List Bb):Prop where
 len:l.length≤7
 any:∀c∈l,AGS es c
theorem Ve {es:List CA} {ms:List Bb} (h:IP es ms) (hl:ms.length≤7):Pr.le (slice 8 (ms.map EI)) (Cp.ex fun l:List Bb=>fact (AC2 es l) (slice 8 (l.map Et))):=by
 intro M w v hv
 obtain ⟨l,⟨h1,h2⟩,h3⟩:=Za mw (fun _=>rfl) (fun _=>rfl) ms M w v hv
 refine ⟨l,⟨by omega,fun c hc=> ?_⟩,h3⟩
 obtain ⟨i,hi⟩:=List.getElem?_of_mem hc
 obtain ⟨a,ha⟩:=at_ (l:=ms) (k:=i) (by have:=BN hi;omega)
 obtain ⟨g1,g2,g3,g4,g5⟩:=h2 i a c ha hi
 have hm:=h a (List.mem_of_getElem? ha)
 exact ⟨by rw [g1];exact hm.lo,by rw [g1];exact hm.hi,by rw [g2];exact hm.kind,g5.fits,⟨g5.small.chain,g5.small.names⟩⟩
theorem uB {b:Nat} {s:DS} {e:Dl} (hs:mN e.Bt) (hl:1≤e.Bt.length∧e.Bt.length≤3):Ba prog 48 [ptr b 0,agg (CK e)] (Cp.ex fun l:List Bb=>fact (AC2 e.Bt l) (slice 8 (l.map Et))) (Dc b s) (fun _=>Is 104 b):=by
 refine Ba.of func48 rfl rfl BA fun M0 w0 S rs M1 w1=> ?_
 refine Tr.seq (Tr.Aj (co rfl (Bj rfl (Va rfl)) (cm rfl (Ch.nil (Fin.go (Tr.seq (Tr.Aj (cm rfl (Ch.nil (Fin.go (Tr.seq (Tr.Ao (tm rfl ?_)))))))))))))
 refine TO.G4 0 rfl rfl AB (An rfl rfl AB rfl (Ca AA AA) ⟨ke rfl,ke rfl,trivial⟩) (tp rfl (ki rfl rfl rfl rfl) (tm rfl (TO.G4 0 rfl rfl AB (An rfl rfl AB rfl (Ca AA AA) ⟨ke rfl,ke rfl,trivial⟩) (tp rfl (ki rfl rfl rfl rfl) (tm rfl (TO.G4 0 rfl rfl AB (An rfl rfl AB rfl (Ca AA AA) ⟨ke rfl,ke rfl,trivial⟩) (tp rfl (ki rfl rfl rfl rfl) (tm rfl (tm rfl (tm rfl (TO.nil (Fin.go (wk6 0 3 5 6 7 8 rfl (Tr.seq ?_))))))))))))))
 refine Tr.seq (Tr.Aj (co rfl (PK rfl G8 rfl rfl) (co rfl (F5 rfl Oj rfl) (co rfl (CB rfl underlying27 (vl rfl)) (cm rfl (Ch.nil (Fin.go (Tr.block (Tr.Ht 86 8 (Tr.Fg [(0,_),(6,_),(7,_),(8,_),(23,_),(24,_)] ⟨ke rfl,ke rfl,ke rfl,ke rfl,ke rfl,ke rfl,trivial⟩ (fun (k:Nat) (ms:List Bb) (s2:DS) v=>[(25,int ((k:Nat):Int)),(5,Ac v (lens (ms.map EI).length))]) (fun (k:Nat) (ms:List Bb) (s2:DS) v=>Hp M0 w0 S (BQ 86 8 (ms.map EI) v::Dc b s2::Ak M1 w1::rs)) (fun (k:Nat) (ms:List Bb) (s2:DS)=>k≤e.Bt.length∧ms.length≤6*k∧IP e.Bt ms) (fun (k:Nat) (ms:List Bb) (s2:DS)=>e.Bt.length-k) (0) ([]) (_) (.slice none 0 0) (⟨Nat.zero_le _,by simp,fun c hc=>by simp at hc⟩) ⟨ke rfl,⟨_,rfl,GR (by rfl)⟩,trivial⟩ (fun _ _ h=>h) ?_))))))))))
 rintro k ms s2 v ⟨hk1,AHQ,To⟩
 refine Tr.seq (Tr.Aj (co rfl (ki rfl rfl rfl rfl) (Ch.nil (Fin.go (Tr.seq ?_)))))
 refine Tr.cn rfl ?_ ?_<;>intro h1 q1
 have Ai:k<e.Bt.length:=by have:=DU.D7 h1;omega
 obtain ⟨x,Ah⟩:=at_ Ai
 have hse:=hs k x Ah
 have hnm:=List.mem_of_getElem? hse.name
 refine Tr.skip (Fin.go (Tr.seq (Tr.block (Tr.seq (Tr.Ao (tm rfl (tp rfl (AD rfl underlying27 CC (vl rfl) (vl rfl) AA (Aa Ah)) (tp rfl (AP rfl Cg CC (vl rfl) rfl rfl) ?_))))))))
 refine Tl rfl rfl rfl rfl z40 Hs (fun b1=> ?_)
 refine tm rfl (TO.AK 0 rfl rfl rfl (vl rfl) (Va rfl) rfl CC rfl rfl (TO.freeze 0 10 rfl rfl (TO.nil (Fin.go (Wa 0 5 6 7 8 9 10 23 24 25 rfl (Tr.P6 [(0,_),(6,_),(7,_),(8,_),(9,_),(10,_),(23,_),(24,_),(25,_)] ⟨ke rfl,ke rfl,ke rfl,ke rfl,ke rfl,ke rfl,ke rfl,ke rfl,ke rfl,trivial⟩ (fun (m1:List Bb) (s3:DS) v1=>[(5,Ac v1 (lens (m1.map EI).length))]) (fun (m1:List Bb) (s3:DS) v1=>Hp M0 w0 S (BQ 86 8 (m1.map EI) v1::Dc b s3::Ak M1 w1::rs)) (fun (m1:List Bb) (s3:DS)=>m1.length≤6*k+1∧IP e.Bt m1) ?_ ?_))))))
 refine Tr.seq (Tr.Aj (cm rfl (cm rfl ?_)))
 refine Ch.cs 31 rfl ?_ ?_<;>intro h2 q2
 refine cy h2 rfl (PK rfl N4 rfl rfl) (cy h2 rfl (F5 rfl Mt rfl) (cy h2 rfl (AR rfl (c_) ⟨ke rfl,ke rfl,trivial⟩) (cy h2 rfl (F2 rfl (vl rfl)) (co rfl (Q9 rfl rfl h2 rfl) (Ch.nil (Fin.go (Ip 0 5 6 7 8 9 10 23 24 25 36 rfl ?_)))))))
 refine Tr.cn rfl ?_ ?_<;>intro h3 q3
 have Ur:=s2.DD (n:=2) AA
 refine Tr.Ao (tm rfl (tm rfl (tm rfl (TO.G4 1 rfl rfl AB (An rfl rfl AB rfl (Ca AA AA) ⟨ke rfl,ke rfl,trivial⟩) (tp rfl (Al (rows:=[(0,[_]),(1,[_]),(2,[_]),(3,[_])]) rfl fL LH ⟨⟨rfl,(Vo rfl)⟩,⟨⟨rfl,(Vo rfl)⟩,⟨⟨rfl,(Vo rfl)⟩,⟨⟨rfl,(Vo rfl)⟩,trivial⟩⟩⟩⟩ rfl) (tp rfl (AO (xs:=[.tmp 41]) (rows:=[EI ⟨((k:Nat):Int),1,12,s2.val 2,⟨0,0,0,[]⟩⟩]) rfl rfl underlying32 Dp P5 rfl AB ⟨⟨Am,VL.le (vl rfl) (Pr.le_trans (BS (qs:=EI _) ⟨Lr,Lr,Lr,Lr,Lr,Lr,Lr,NF,trivial⟩) (Ad _))⟩,trivial⟩ AB) ?_))))))
 refine TO.Dj 0 rfl rfl AB (FM rfl rfl AB rfl underlying32 Dp Y7 P5 rfl AB AB (vl rfl) (Kf rfl) (BP fun _=>rfl) (Nat.zero_lt_succ _) Nn Nq) (fun v1=> ?_)
 refine tm rfl (TO.nil ?_)
 exact Fin.Bl (ms++[⟨((k:Nat):Int),1,12,s2.val 2,⟨0,0,0,[]⟩⟩]) (_) v1 (⟨by simp;omega,To.snoc ⟨by show 0≤((k:Nat):Int);omega,by show ((k:Nat):Int)<_;omega,by dsimp only;omega⟩⟩) ⟨⟨_,rfl,C2 AV⟩,ke rfl,ke rfl,ke rfl,ke rfl,ke rfl,ke rfl,ke rfl,ke rfl,ke rfl,trivial⟩ (fun _ _ h=>MS)
 refine Tr.skip (Fin.Bl (ms) (_) v (⟨by omega,To⟩) ⟨⟨_,rfl,C2 AV⟩,ke rfl,ke rfl,ke rfl,ke rfl,ke rfl,ke rfl,ke rfl,ke rfl,ke rfl,trivial⟩ (fun _ _ h=>h))
 iterate 4 refine cnt h2 rfl ?_
 refine co rfl (Mk rfl rfl h2 rfl) (Ch.nil (Fin.go (Ip 0 5 6 7 8 9 10 23 24 25 36 rfl (Tr.cond rfl (fun h=>nomatch h) (fun _=> ?_)))))
 refine Tr.skip (Fin.Bl (ms) (_) v (⟨by omega,To⟩) ⟨⟨_,rfl,C2 AV⟩,ke rfl,ke rfl,ke rfl,ke rfl,ke rfl,ke rfl,ke rfl,ke rfl,ke rfl,trivial⟩ (fun _ _ h=>h))
 rintro m1 s3 v1 ⟨AHR,mz⟩
 refine Tr.P6 [(0,_),(6,_),(7,_),(8,_),(9,_),(10,_),(23,_),(24,_),(25,_)] ⟨ke rfl,ke rfl,ke rfl,ke rfl,ke rfl,ke rfl,ke rfl,ke rfl,ke rfl,trivial⟩ (fun (m2:List Bb) (s4:DS) v2=>[(5,Ac v2 (lens (m2.map EI).length))]) (fun (m2:List Bb) (s4:DS) v2=>Hp M0 w0 S (BQ 86 8 (m2.map EI) v2::Dc b s4::Ak M1 w1::rs)) (fun (m2:List Bb) (s4:DS)=>m2.length≤6*k+2∧IP e.Bt m2) ?_ ?_
 refine Tr.seq (Tr.Aj (cm rfl (cm rfl ?_)))
 refine Ch.cs 45 rfl ?_ ?_<;>intro h4 q4
 refine MM h4 rfl (cy h4 rfl (ki rfl rfl rfl rfl) (co rfl (Q9 rfl rfl h4 rfl) (Ch.nil (Fin.go (Ip 0 5 6 7 8 9 10 23 24 25 48 rfl ?_)))))
 refine Tr.cn rfl ?_ ?_<;>intro h5 q5
 refine Tr.Ao (tm rfl (tm rfl (tp rfl (Al (rows:=[(0,[_]),(1,[_]),(2,[_])]) rfl fL LH ⟨⟨rfl,(Vo rfl)⟩,⟨⟨rfl,(Vo rfl)⟩,⟨⟨rfl,(Vo rfl)⟩,trivial⟩⟩⟩ rfl) (tp rfl (AO (xs:=[.tmp 51]) (rows:=[EI ⟨((k:Nat):Int),7,2,0,⟨0,0,0,[]⟩⟩]) rfl rfl underlying32 Dp P5 rfl AB ⟨⟨Am,VL.le (vl rfl) (Pr.le_trans (BS (qs:=EI _) ⟨Lr,Lr,Lr,Lr,Lr,Lr,Lr,NF,trivial⟩) (Ad _))⟩,trivial⟩ AB) ?_))))
 refine TO.Dj 0 rfl rfl AB (FM rfl rfl AB rfl underlying32 Dp Y7 P5 rfl AB AB (vl rfl) (Kf rfl) (BP fun _=>rfl) (Nat.zero_lt_succ _) Nn Nq) (fun v2=> ?_)
 refine tm rfl (TO.nil ?_)
 exact Fin.Bl (m1++[⟨((k:Nat):Int),7,2,0,⟨0,0,0,[]⟩⟩]) (_) v2 (⟨by simp;omega,mz.snoc ⟨by show 0≤((k:Nat):Int);omega,by show ((k:Nat):Int)<_;omega,by dsimp only;omega⟩⟩) ⟨⟨_,rfl,C2 AV⟩,ke rfl,ke rfl,ke rfl,ke rfl,ke rfl,ke rfl,ke rfl,ke rfl,ke rfl,trivial⟩ (fun _ _ h=>MS)
 refine Tr.skip (Fin.Bl (m1) (_) v1 (⟨by omega,mz⟩) ⟨⟨_,rfl,C2 AV⟩,ke rfl,ke rfl,ke rfl,ke rfl,ke rfl,ke rfl,ke rfl,ke rfl,ke rfl,trivial⟩ (fun _ _ h=>h))
 refine cnt h4 rfl (cnt h4 rfl (co rfl (Mk rfl rfl h4 rfl) (Ch.nil (Fin.go (Ip 0 5 6 7 8 9 10 23 24 25 48 rfl (Tr.cond rfl (fun h=>nomatch h) (fun _=> ?_)))))))
 refine Tr.skip (Fin.Bl (m1) (_) v1 (⟨by omega,mz⟩) ⟨⟨_,rfl,C2 AV⟩,ke rfl,ke rfl,ke rfl,ke rfl,ke rfl,ke rfl,ke rfl,ke rfl,ke rfl,trivial⟩ (fun _ _ h=>h))
 rintro m2 s4 v2 ⟨AHS,m8⟩
 refine Tr.P6 [(0,_),(6,_),(7,_),(8,_),(9,_),(10,_),(23,_),(24,_),(25,_)] ⟨ke rfl,ke rfl,ke rfl,ke rfl,ke rfl,ke rfl,ke rfl,ke rfl,ke rfl,trivial⟩ (fun (m3:List Bb) (s5:DS) v3=>[(5,Ac v3 (lens (m3.map EI).length))]) (fun (m3:List Bb) (s5:DS) v3=>Hp M0 w0 S (BQ 86 8 (m3.map EI) v3::Dc b s5::Ak M1 w1::rs)) (fun (m3:List Bb) (s5:DS)=>m3.length≤6*k+3∧IP e.Bt m3) ?_ ?_
 refine Tr.seq (Tr.Aj (cm rfl (cm rfl ?_)))
 refine Ch.cs 55 rfl ?_ ?_<;>intro h6 q6
 refine MM h6 rfl (cy h6 rfl (ki rfl rfl rfl rfl) (co rfl (Q9 rfl rfl h6 rfl) (Ch.nil (Fin.go (Ip 0 5 6 7 8 9 10 23 24 25 58 rfl ?_)))))
 refine Tr.cn rfl ?_ ?_<;>intro h7 q7
 have hof:=s4.RB (l:=[2,1]) AV
 simp at hof
 refine Tr.pad (Tr.GV mixed [none,none,none,none,none,none,none,some (0,2,true,0),none,none,none,none,none,none,some (0,1,true,73),some (73,1,true,5)] BV (xm rfl (xm rfl (xo rfl (fun _=>PK rfl kr rfl rfl) (xo rfl (fun _=>F5 rfl PM rfl) (xo rfl (fun _=>AR rfl (AGQ) trivial) (xm rfl (xo rfl (fun _=>AO (xs:=[.const (.int .i64 (2)),.const (.int .i64 (1))]) (rows:=[[_],[_]]) rfl rfl underlying22 Bw z3 rfl AB ⟨⟨Am,(Vo rfl)⟩,⟨⟨Am,(Vo rfl)⟩,trivial⟩⟩ AB) ?_))))))))
 refine Cx.ef 2 rfl rfl AB (An rfl rfl AB rfl (W8 (l:=[2,1]) AV AV) ⟨ke rfl,(Kf rfl),trivial⟩) ?_
 refine xo rfl (fun _=>AR rfl (ZM (name:=x.name) (a:=7) (b:=256) (id:=201) (to:=901) (key:=s4.of [2,1]) (ACt hnm (.inr ⟨rfl,rfl⟩) AA AA AA) (ACu (.inr ⟨rfl,rfl⟩) AA) AA) ⟨ke rfl,ke rfl,ke rfl,ke rfl,ke rfl,trivial⟩) ?_
 refine xo rfl (fun _=>PK rfl RD rfl rfl) (xo rfl (fun _=>F5 rfl vi rfl) (xo rfl (fun _=>CB rfl underlying38 (vl rfl)) (xo rfl (fun _=>Al (rows:=[(0,[_]),(1,[_]),(4,_),(3,[_])]) rfl fL LH ⟨⟨rfl,(Vo rfl)⟩,⟨⟨rfl,(Vo rfl)⟩,⟨⟨rfl,⟨_,rfl,Pr.le_trans (mu) (Ad _)⟩⟩,⟨⟨rfl,(Vo rfl)⟩,trivial⟩⟩⟩⟩ rfl) (xo rfl (fun _=>AO (xs:=[.tmp 71]) (rows:=[EI ⟨((k:Nat):Int),5,0,((x.ids.length:Nat):Int),⟨7,256,201,[]⟩⟩]) rfl rfl underlying32 Dp P5 rfl AB ⟨⟨Am,VL.le (vl rfl) (Pr.le_trans (BS (qs:=EI _) ⟨Lr,Lr,Lr,Lr,Lr,Lr,Lr,uA hnm,trivial⟩) (Ad _))⟩,trivial⟩ AB) ?_))))
 refine Cx.ef 1 rfl rfl AB (FM rfl rfl AB rfl underlying32 Dp Y7 P5 rfl AB AB (vl rfl) (Kf rfl) (BP fun _=>rfl) (Nat.zero_lt_succ _) Nn Nq) ?_
 refine Cx.ef 1 rfl rfl AB (Us rfl rfl AB rfl (vl rfl)) ?_
 refine Cx.nil ⟨rfl,?_⟩
 refine BJ.open_ 1 5 rfl rfl (fun v3=> ?_)
 refine BJ.done (Aw.cons (Aw.cons (Aw.cons (Aw.cons (Aw.map _))))) (Fin.drop 0 ?_)
 exact Fin.Bl (m2++[⟨((k:Nat):Int),5,0,((x.ids.length:Nat):Int),⟨7,256,201,[]⟩⟩]) (_) v3 (⟨by simp;omega,m8.snoc ⟨by show 0≤((k:Nat):Int);omega,by show ((k:Nat):Int)<_;omega,by dsimp only;omega⟩⟩) ⟨⟨_,rfl,C2 AV⟩,ke rfl,ke rfl,ke rfl,ke rfl,ke rfl,ke rfl,ke rfl,ke rfl,ke rfl,trivial⟩ (fun _ _ h=>MS)
 refine Tr.skip (Fin.Bl (m2) (_) v2 (⟨by omega,m8⟩) ⟨⟨_,rfl,C2 AV⟩,ke rfl,ke rfl,ke rfl,ke rfl,ke rfl,ke rfl,ke rfl,ke rfl,ke rfl,trivial⟩ (fun _ _ h=>h))
 refine cnt h6 rfl (cnt h6 rfl (co rfl (Mk rfl rfl h6 rfl) (Ch.nil (Fin.go (Ip 0 5 6 7 8 9 10 23 24 25 58 rfl (Tr.cond rfl (fun h=>nomatch h) (fun _=> ?_)))))))
 refine Tr.skip (Fin.Bl (m2) (_) v2 (⟨by omega,m8⟩) ⟨⟨_,rfl,C2 AV⟩,ke rfl,ke rfl,ke rfl,ke rfl,ke rfl,ke rfl,ke rfl,ke rfl,ke rfl,trivial⟩ (fun _ _ h=>h))
 rintro m3 s5 v3 ⟨AHT,dJ⟩
 refine Tr.P6 [(0,_),(6,_),(7,_),(8,_),(9,_),(10,_),(23,_),(24,_),(25,_)] ⟨ke rfl,ke rfl,ke rfl,ke rfl,ke rfl,ke rfl,ke rfl,ke rfl,ke rfl,trivial⟩ (fun (m4:List Bb) (s6:DS) v4=>[(5,Ac v4 (lens (m4.map EI).length))]) (fun (m4:List Bb) (s6:DS) v4=>Hp M0 w0 S (BQ 86 8 (m4.map EI) v4::Dc b s6::Ak M1 w1::rs)) (fun (m4:List Bb) (s6:DS)=>m4.length≤6*k+4∧IP e.Bt m4) ?_ ?_
 refine Tr.seq (Tr.Ao (tm rfl (tm rfl ?_)))
 refine TO.cases 75 rfl (fun h8=> ?_) (fun h8=> ?_)
 have q8:=DU.D7 h8
 refine TO.Hv rfl rfl rfl h8 rfl AB (PK rfl N4 rfl rfl) (TO.Hv rfl rfl rfl h8 rfl AB (F5 rfl Mt rfl) (TO.Hv rfl rfl rfl h8 rfl AB (AR rfl (c_) ⟨ke rfl,ke rfl,trivial⟩) (tp rfl (Q9 rfl rfl h8 rfl) (tm rfl ?_))))
 refine TO.cases 80 rfl (fun h9=> ?_) (fun h9=> ?_)
 have q9:=DU.D7 h9
 refine TO.Hv rfl rfl rfl h9 rfl AB (BX rfl (vl rfl)) (TO.lU 1 rfl rfl rfl h9 rfl rfl AB (An rfl rfl AB rfl (Ca AA AA) ⟨ke rfl,ke rfl,trivial⟩) (TO.Hv rfl rfl rfl h9 rfl AB (ki rfl rfl rfl rfl) (tp rfl (Q9 rfl rfl h9 rfl) (TO.nil (Fin.go (Ip 0 5 6 7 8 9 10 23 24 25 84 rfl ?_))))))
 refine Tr.cn rfl ?_ ?_<;>intro h10 Re
 refine Tr.Ao (tm rfl (tm rfl (tp rfl (Al (rows:=[(0,[_]),(1,[_]),(2,[_])]) rfl fL LH ⟨⟨rfl,(Vo rfl)⟩,⟨⟨rfl,(Vo rfl)⟩,⟨⟨rfl,(Vo rfl)⟩,trivial⟩⟩⟩ rfl) (tp rfl (AO (xs:=[.tmp 87]) (rows:=[EI ⟨((k:Nat):Int),2,2,0,⟨0,0,0,[]⟩⟩]) rfl rfl underlying32 Dp P5 rfl AB ⟨⟨Am,VL.le (vl rfl) (Pr.le_trans (BS (qs:=EI _) ⟨Lr,Lr,Lr,Lr,Lr,Lr,Lr,NF,trivial⟩) (Ad _))⟩,trivial⟩ AB) ?_))))
 refine TO.Dj 0 rfl rfl AB (FM rfl rfl AB rfl underlying32 Dp Y7 P5 rfl AB AB (vl rfl) (Kf rfl) (BP fun _=>rfl) (Nat.zero_lt_succ _) Nn Nq) (fun v4=> ?_)
 refine tm rfl (TO.nil ?_)
 exact Fin.Bl (m3++[⟨((k:Nat):Int),2,2,0,⟨0,0,0,[]⟩⟩]) (_) v4 (⟨by simp;omega,dJ.snoc ⟨by show 0≤((k:Nat):Int);omega,by show ((k:Nat):Int)<_;omega,by dsimp only;omega⟩⟩) ⟨⟨_,rfl,C2 AV⟩,ke rfl,ke rfl,ke rfl,ke rfl,ke rfl,ke rfl,ke rfl,ke rfl,ke rfl,trivial⟩ (fun _ _ h=>MS)
 refine Tr.skip (Fin.Bl (m3) (_) v3 (⟨by omega,dJ⟩) ⟨⟨_,rfl,C2 AV⟩,ke rfl,ke rfl,ke rfl,ke rfl,ke rfl,ke rfl,ke rfl,ke rfl,ke rfl,trivial⟩ (fun _ _ h=>h))
 have q9:=DU.D7 h9
 refine TO.VG rfl rfl rfl (Be h9) rfl AB (TO.VG rfl rfl rfl (Be h9) rfl AB (TO.VG rfl rfl rfl (Be h9) rfl AB (tp rfl (Mk rfl rfl h9 rfl) (TO.nil (Fin.go (Ip 0 5 6 7 8 9 10 23 24 25 84 rfl (Tr.cond rfl (fun h=>nomatch h) (fun _=> ?_))))))))
 refine Tr.skip (Fin.Bl (m3) (_) v3 (⟨by omega,dJ⟩) ⟨⟨_,rfl,C2 AV⟩,ke rfl,ke rfl,ke rfl,ke rfl,ke rfl,ke rfl,ke rfl,ke rfl,ke rfl,trivial⟩ (fun _ _ h=>h))
 have q8:=DU.D7 h8
 refine TO.VG rfl rfl rfl (Be h8) rfl AB (TO.VG rfl rfl rfl (Be h8) rfl AB (TO.VG rfl rfl rfl (Be h8) rfl AB (tp rfl (Mk rfl rfl h8 rfl) (tm rfl (TO.VG rfl rfl rfl (Be rfl) rfl AB (TO.VG rfl rfl rfl (Be rfl) rfl AB (TO.VG rfl rfl rfl (Be rfl) rfl AB (tp rfl (Mk rfl rfl rfl rfl) (TO.nil (Fin.go (Ip 0 5 6 7 8 9 10 23 24 25 84 rfl (Tr.cond rfl (fun h=>nomatch h) (fun _=> ?_)))))))))))))
 refine Tr.skip (Fin.Bl (m3) (_) v3 (⟨by omega,dJ⟩) ⟨⟨_,rfl,C2 AV⟩,ke rfl,ke rfl,ke rfl,ke rfl,ke rfl,ke rfl,ke rfl,ke rfl,ke rfl,trivial⟩ (fun _ _ h=>h))
 rintro m4 s6 v4 ⟨AHU,m9⟩
 refine Tr.seq (Tr.Aj (cm rfl (cm rfl ?_)))
 refine Ch.cs 91 rfl ?_ ?_<;>intro h11 Sw
 refine cy h11 rfl (PK rfl Y0 rfl rfl) (cy h11 rfl (F5 rfl Cq rfl) (cy h11 rfl (ki rfl rfl rfl rfl) (co rfl (Q9 rfl rfl h11 rfl) (Ch.nil (Fin.go (Wa 0 5 6 7 8 9 23 24 25 95 rfl ?_))))))
 refine Tr.cn rfl ?_ ?_<;>intro h12 WE
 refine Tr.Ao (tm rfl (tm rfl (tp rfl (Al (rows:=[(0,[_]),(1,[_]),(2,[_])]) rfl fL LH ⟨⟨rfl,(Vo rfl)⟩,⟨⟨rfl,(Vo rfl)⟩,⟨⟨rfl,(Vo rfl)⟩,trivial⟩⟩⟩ rfl) (tm rfl (tp rfl (Al (rows:=[(0,[_]),(1,[_]),(2,[_])]) rfl fL LH ⟨⟨rfl,(Vo rfl)⟩,⟨⟨rfl,(Vo rfl)⟩,⟨⟨rfl,(Vo rfl)⟩,trivial⟩⟩⟩ rfl) (tp rfl (AO (xs:=[.tmp 98,.tmp 100]) (rows:=[EI ⟨((k:Nat):Int),3,4,0,⟨0,0,0,[]⟩⟩,EI ⟨((k:Nat):Int),1,14,0,⟨0,0,0,[]⟩⟩]) rfl rfl underlying32 Dp P5 rfl AB ⟨⟨Am,VL.le (vl rfl) (Pr.le_trans (BS (qs:=EI _) ⟨Lr,Lr,Lr,Lr,Lr,Lr,Lr,NF,trivial⟩) (Ad _))⟩,⟨⟨Am,VL.le (vl rfl) (Pr.le_trans (BS (qs:=EI _) ⟨Lr,Lr,Lr,Lr,Lr,Lr,Lr,NF,trivial⟩) (Ad _))⟩,trivial⟩⟩ AB) ?_))))))
 refine TO.Dj 0 rfl rfl AB (FM rfl rfl AB rfl underlying32 Dp Y7 P5 rfl AB AB (vl rfl) (Kf rfl) (BP fun _=>rfl) (Nat.zero_lt_succ _) Nn Nq) (fun v5=> ?_)
 refine tm rfl (TO.nil (Fin.block (Fin.go (wk8 0 5 6 7 8 23 24 25 rfl (Tr.Aj (Lq rfl rfl rfl rfl AA (cm rfl (Ch.nil ?_))))))))
 exact Fin.EG (k+1) (m4++[⟨((k:Nat):Int),3,4,0,⟨0,0,0,[]⟩⟩,⟨((k:Nat):Int),1,14,0,⟨0,0,0,[]⟩⟩]) (_) v5 (⟨⟨by omega,by simp;omega,m9.two ⟨by show 0≤((k:Nat):Int);omega,by show ((k:Nat):Int)<_;omega,by dsimp only;omega⟩ ⟨by show 0≤((k:Nat):Int);omega,by show ((k:Nat):Int)<_;omega,by dsimp only;omega⟩⟩,by omega⟩) ⟨⟨_,rfl,AG k⟩,⟨_,rfl,C2 AV⟩,ke rfl,ke rfl,ke rfl,ke rfl,ke rfl,ke rfl,trivial⟩ (fun _ _ h=>MS)
 refine Tr.skip (Fin.block (Fin.go (Tr.Aj (Lq rfl rfl rfl rfl AA (cm rfl (Ch.nil (Fin.EG (k+1) (m4) (_) v4 (⟨⟨by omega,by omega,m9⟩,by omega⟩) ⟨⟨_,rfl,AG k⟩,⟨_,rfl,C2 AV⟩,ke rfl,ke rfl,ke rfl,ke rfl,ke rfl,ke rfl,trivial⟩ (fun _ _ h=>h))))))))
 refine cnt h11 rfl (cnt h11 rfl (cnt h11 rfl (co rfl (Mk rfl rfl h11 rfl) (Ch.nil (Fin.go (Wa 0 5 6 7 8 9 23 24 25 95 rfl (Tr.cond rfl (fun h=>nomatch h) (fun _=> ?_))))))))
 refine Tr.skip (Fin.block (Fin.go (Tr.Aj (Lq rfl rfl rfl rfl AA (cm rfl (Ch.nil (Fin.EG (k+1) (m4) (_) v4 (⟨⟨by omega,by omega,m9⟩,by omega⟩) ⟨⟨_,rfl,AG k⟩,⟨_,rfl,C2 AV⟩,ke rfl,ke rfl,ke rfl,ke rfl,ke rfl,ke rfl,trivial⟩ (fun _ _ h=>h))))))))
 have:=h1
 refine Tr.exit (Fin.AY (Fin.AY (Fin.Au (Fin.go (Tr.seq (Tr.block ?_))))))
 rcases Nat.eq_zero_or_pos ms.length with h0|h0
 refine Tr.BD [(0,_)] ⟨ke rfl,trivial⟩ (fun _=>[(5,Ac v (lens (ms.map EI).length))]) (fun _=>True) (fun _=>0) () (trivial) ⟨ke rfl,trivial⟩ ?_
 rintro _ _
 refine Tr.seq (Tr.seq (Tr.Aj (cm rfl (co rfl (Wz rfl underlying32 (Kb rfl)) (co rfl (ki rfl rfl rfl rfl) (Ch.nil (Fin.go ?_)))))))
 refine Tr.cn rfl ?_ ?_<;>intro Nf cZ
 exfalso;have h_:=DU.D7 Nf;rw [List.length_map] at h_;omega
 have:=Nf
 refine Tr.exit (Fin.AY (Fin.AY (Fin.Au (Fin.go (Tr.seq (Tr.seq ?_))))))
 have hv4:=s2.DD (n:=4) AA
 refine Tr.Ao (tm rfl (TO.G4 1 rfl rfl AB (An rfl rfl AB rfl (Ca AA AA) ⟨ke rfl,ke rfl,trivial⟩) (tm rfl (TO.nil (Fin.go (Tr.block (Tr.Co [(0,_)] ⟨ke rfl,trivial⟩ (fun (q:Int) (s9:DS)=>[(11,int q),(5,Ac v (lens (ms.map EI).length))]) (fun (q:Int) (s9:DS)=>Hp M0 w0 S (BQ 86 8 (ms.map EI) v::Dc b s9::Ak M1 w1::rs)) (fun (q:Int) (s9:DS)=>True) (fun (q:Int) (s9:DS)=>q.toNat) (_) (_)  (trivial) ⟨ke rfl,ke rfl,trivial⟩ (fun _ _ h=>h) ?_)))))))
 rintro q s9  _
 refine Tr.seq (Tr.seq (Tr.Aj (cm rfl (co rfl (ki rfl rfl rfl rfl) (cm rfl ?_)))))
 refine Ch.cs 116 rfl ?_ ?_<;>intro Ng q14
 refine MM Ng rfl (cy Ng rfl (Wz rfl underlying32 (Kb rfl)) (cy Ng rfl (ki rfl rfl rfl rfl) (co rfl (Q9 rfl rfl Ng rfl) (Ch.nil (Fin.go ?_)))))
 refine Tr.cn rfl ?_ ?_<;>intro Wh q15
 exfalso;have h_:=DU.D7 Wh;rw [List.length_map] at h_;omega
 have:=Wh
 refine Tr.exit (Fin.AY (Fin.AY (Fin.Au (Fin.go (Tr.seq (Tr.s8 0 5 rfl rfl (BP fun _=>rfl) (Tr.Aj (cm rfl (cm rfl (Ch.nil (Fin.go (Tr.ret (Fin.G5 1 _ rfl rfl (Fin.GW [_] rfl (AM.tmp rfl (Lr)) ?_ (fun _ _ _ _=>rfl)))))))))))))))
 · exact Pr.le_trans (As _ _) (Ve To AA)
 refine cnt Ng rfl (cnt Ng rfl (cnt Ng rfl (co rfl (Mk rfl rfl Ng rfl) (Ch.nil (Fin.go (Tr.cond rfl (fun h=>nomatch h) (fun _=> ?_)))))))
 refine Tr.exit (Fin.AY (Fin.AY (Fin.Au (Fin.go (Tr.seq (Tr.s8 0 5 rfl rfl (BP fun _=>rfl) (Tr.Aj (cm rfl (cm rfl (Ch.nil (Fin.go (Tr.ret (Fin.G5 1 _ rfl rfl (Fin.GW [_] rfl (AM.tmp rfl (Lr)) ?_ (fun _ _ _ _=>rfl)))))))))))))))
 · exact Pr.le_trans (As _ _) (Ve To AA)
 refine Tr.ABm (sz:=8) 0 rfl (by intro h_;simp at h_;rw [h_] at h0;simp at h0) fun b9 AC3 sp9 hv9 hg9 hm9 hs9=> ?_
 subst hv9
 rw [List.length_map] at hg9 hs9
 refine Tr.Mo [(0,_)] ⟨ke rfl,trivial⟩ (fun (m:Nat)=>[(5,is (.slice (some ⟨b9,0,none⟩) m AC3))]) (fun (m:Nat)=>Hp M0 w0 S (AE true b9 86 ((ms.map EI).flatten++sp9.map is)::Dc b s2::Ak M1 w1::rs)) (fun (m:Nat)=>1≤m∧m≤ms.length) (fun (m:Nat)=>m) (ms.length)  (⟨h0,Nat.le_refl _⟩) ⟨⟨_,rfl,Pr.le_trans (EK _ _) (Pr.le_of_eq (by rw [List.length_map]))⟩,trivial⟩ (fun _ _ h=>h) ?_
 rintro m  ⟨hm1,hm2⟩
 refine Tr.seq (Tr.seq (Tr.Aj (cm rfl (co rfl (Kw rfl underlying32 (vl rfl)) (co rfl (ki rfl rfl rfl rfl) (Ch.nil (Fin.go ?_)))))))
 refine Tr.cn rfl ?_ ?_<;>intro h16 q16
 have hm7:7<m:=by have:=DU.D7 h16;omega
 refine Tr.skip (Fin.go (Tr.block (Tr.Aj (cm rfl (cm rfl (co rfl (Kw rfl underlying32 (vl rfl)) (csu rfl rfl rfl rfl AA (co rfl (Oq rfl underlying32 Dp (vl rfl) (vl rfl) AA AA AA AA) (cm rfl (Ch.nil (Fin.block ?_)))))))))))
 exact Fin.Mp (m-1)  (⟨⟨by omega,by omega⟩,by omega⟩) ⟨⟨_,rfl,Pr.le_of_eq (by congr 2;omega)⟩,ke rfl,trivial⟩ (fun _ _ h=>h)
 have hm7:m≤7:=by have:=DU.D7 h16;omega
 refine Tr.exit (Fin.AY (Fin.AY (Fin.Au (Fin.go (Tr.seq (Tr.seq ?_))))))
 have hv4:=s2.DD (n:=4) AA
 refine Tr.Ao (tm rfl (TO.G4 1 rfl rfl AB (An rfl rfl AB rfl (Ca AA AA) ⟨ke rfl,ke rfl,trivial⟩) (tm rfl (TO.nil (Fin.go (Tr.block (Tr.Jz [(0,_)] ⟨ke rfl,trivial⟩ (fun (q:Int) (ns:List Bb) (s9:DS)=>[(11,int q),(5,is (.slice (some ⟨b9,0,none⟩) m AC3))]) (fun (q:Int) (ns:List Bb) (s9:DS)=>Hp M0 w0 S (AE true b9 86 ((ns.map EI).flatten++sp9.map is)::Dc b s9::Ak M1 w1::rs)) (fun (q:Int) (ns:List Bb) (s9:DS)=>(ns.length=ms.length∧q≤3)∧IP e.Bt ns) (fun (q:Int) (ns:List Bb) (s9:DS)=>q.toNat) (_) (ms) (_)  (⟨⟨rfl,by omega⟩,To⟩) ⟨ke rfl,ke rfl,trivial⟩ (fun _ _ h=>h) ?_)))))))
 rintro q ns s9  ⟨⟨hn1,hn3⟩,hn2⟩
 refine Tr.seq (Tr.seq (Tr.Aj (cm rfl (co rfl (ki rfl rfl rfl rfl) (cm rfl ?_)))))
 refine Ch.cs 116 rfl ?_ ?_<;>intro PL q17
 refine MM PL rfl (cy PL rfl (Kw rfl underlying32 (vl rfl)) (cy PL rfl (ki rfl rfl rfl rfl) (co rfl (Q9 rfl rfl PL rfl) (Ch.nil (Fin.go ?_)))))
 refine Tr.cn rfl ?_ ?_<;>intro Sb q18
 have hq1:=DU.D7 Sb
 refine Tr.skip (Fin.go (Tr.seq (Tr.block (Tr.seq ?_))))
 have hvm:=s9.DD (n:=((m:Nat):Int)-1) AA
 refine Tr.Ao (tm rfl (tm rfl (tp rfl (Kw rfl underlying32 (vl rfl)) ?_)))
 refine tp rfl (Yo rfl (vl rfl) (vl rfl) ?hin) ?_;case hin=>unfold Oc;omega
 refine TO.G4 1 rfl rfl AB (An rfl rfl AB rfl (Ca AA AA) ⟨ke rfl,ke rfl,trivial⟩) (tm rfl (TO.nil (Fin.go (WC 0 5 11 12 rfl (Tr.GV mixed [none,none,none,none,none,none,none,none,none,some (0,0,false,0),none,none,none,some (0,0,false,0),none,some (0,0,true,0),none,some (0,0,true,0)] BV ?_)))))
 iterate 4 refine xm rfl ?_
 refine xo rfl (fun _=>E0 rfl (vl rfl) (vl rfl) ?hin) ?_;case hin=>unfold Oc;omega
 refine xm rfl (xm rfl ?_)
 refine xo rfl (fun _=>E0 rfl (vl rfl) (vl rfl) ?hin) ?_;case hin=>unfold Oc;omega
 refine xo rfl (fun _=>BH rfl underlying32 Dp (vl rfl) (vl rfl) AA AA) (IF 0 rfl rfl (B4 rfl HW Dp (vl rfl) (Tc (f:=EI) (fun _=>rfl) AA) rfl) (xm rfl (xm rfl (xo rfl (fun _=>BH rfl underlying32 Dp (vl rfl) (vl rfl) AA AA) (IF 0 rfl rfl (B4 rfl HW Dp (vl rfl) (Tc (f:=EI) (fun _=>rfl) AA) rfl) (xo rfl (fun _=>BH rfl underlying32 Dp (vl rfl) (vl rfl) AA AA) ?_))))))
 refine Cx.DY 0 rfl rfl (Ay rfl rfl (vl rfl) (Va rfl) Dp rfl (by rw [Kj (sz:=8) (fun _=>rfl)];omega) (GA (f:=EI) (fun _=>rfl) AA)) ?_
 refine xo rfl (fun _=>BH rfl underlying32 Dp (vl rfl) (vl rfl) AA AA) ?_
 refine Cx.DY 0 rfl rfl (Ay rfl rfl (vl rfl) (Va rfl) Dp rfl (by rw [Kj (sz:=8) (fun _=>rfl)];simp only [List.length_set];omega) (GA (f:=EI) (fun _=>rfl) (by simp only [List.length_set];omega))) ?_
 refine Cx.nil ⟨rfl,?_⟩
 refine BJ.done (Aw.cons (Aw.cons (Aw.cons (Aw.map _)))) (Fin.block (Fin.go (F6 0 5 11 rfl (Tr.Aj (cm rfl (csu rfl rfl rfl rfl AA (cm rfl (Ch.nil (Fin.EZ (q-1) (_) (_)  (⟨⟨⟨(RT AA AA).length_eq.trans hn1,by omega⟩,IP.perm (RT AA AA) hn2⟩,by omega⟩) ⟨⟨_,rfl,int_eq AA⟩,ke rfl,ke rfl,trivial⟩ (fun _ _ h=>h))))))))))
 have:=Sb
 refine Tr.exit (Fin.AY (Fin.AY (Fin.Au (Fin.go (Tr.seq (Tr.eqC 0 (((ns.take m).map EI).flatten++(((ns.drop m).map EI).flatten++sp9.map is)) rfl ah ?_))))))
 have hnt:(ns.take m).length=m:=by rw [List.length_take];omega
 refine Tr.fM (sz:=8) ((ns.take m).map EI) 0 5 rfl rfl (Pr.le_of_eq (by rw [List.length_map,hnt])) (BP fun _=>rfl) Df hm9 ju ?_
 refine Tr.Aj (cm rfl (cm rfl (Ch.nil (Fin.go (Tr.ret (Fin.G5 1 _ rfl rfl (Fin.GW [_] rfl (AM.tmp rfl (Lr)) ?_ (fun _ _ _ _=>rfl))))))))
 · exact Pr.le_trans (As _ _) (Ve hn2.take AA)
 refine cnt PL rfl (cnt PL rfl (cnt PL rfl (co rfl (Mk rfl rfl PL rfl) (Ch.nil (Fin.go (Tr.cond rfl (fun h=>nomatch h) (fun _=> ?_)))))))
 refine Tr.exit (Fin.AY (Fin.AY (Fin.Au (Fin.go (Tr.seq (Tr.eqC 0 (((ns.take m).map EI).flatten++(((ns.drop m).map EI).flatten++sp9.map is)) rfl ah ?_))))))
 have hnt:(ns.take m).length=m:=by rw [List.length_take];omega
 refine Tr.fM (sz:=8) ((ns.take m).map EI) 0 5 rfl rfl (Pr.le_of_eq (by rw [List.length_map,hnt])) (BP fun _=>rfl) Df hm9 ju ?_
 refine Tr.Aj (cm rfl (cm rfl (Ch.nil (Fin.go (Tr.ret (Fin.G5 1 _ rfl rfl (Fin.GW [_] rfl (AM.tmp rfl (Lr)) ?_ (fun _ _ _ _=>rfl))))))))
 · exact Pr.le_trans (As _ _) (Ve hn2.take AA)
structure Sx (n:Int) (k:Nat) (l:List Int):Prop where
 at_:∀j,j<l.length→setAt n l j=true
 lt:∀x∈l,x<(k:Int)
 len:l.length≤k
theorem Sx.nil (n:Int) (k:Nat):Sx n k []:=⟨fun j hj=>by simp at hj,fun x hx=>by simp at hx,by simp⟩
theorem Sx.step {n:Int} {k:Nat} {l:List Int} (h:Sx n k l):Sx n (k+1) l:=⟨h.at_,fun x hx=>by have:=h.lt x hx;omega,by have:=h.len;omega⟩
theorem Sx.snoc {n:Int} {k:Nat} {l:List Int} (h:Sx n k l) (hk:(k:Int)<n):Sx n (k+1) (l++[(k:Int)]):=by
 refine ⟨fun j hj=> ?_,fun x hx=> ?_,by have:=h.len;simp;omega⟩
 ·
  rw [List.length_append] at hj;simp at hj
  rcases Nat.lt_or_ge j l.length with hl|hl
  ·
   have:=h.at_ j hl
   unfold setAt at this ⊢
   rw [List.getElem?_append_left hl,List.getElem?_append_left (show j-1<l.length by omega)];exact this
  ·
   have:j=l.length:=by omega
   subst this
   unfold setAt
   rw [List.getElem?_append_right (Nat.le_refl _),Nat.sub_self]
   rcases Nat.eq_zero_or_pos l.length with hz|hz
   ·
    obtain rfl:=List.eq_nil_of_length_eq_zero hz
    simp;omega
   ·
    obtain ⟨y,hy⟩:=Cp.at_ (l:=l) (k:=l.length-1) AA
    rw [List.getElem?_append_left (show l.length-1<l.length by omega),hy]
    have:=h.lt y (List.mem_of_getElem? hy)
    simp;omega
 ·
  rcases List.mem_append.1 hx with hx|hx
  · have:=h.lt x hx;omega
  · simp at hx;subst hx;omega
theorem Sx.set {n:Int} {k:Nat} {l:List Int} (h:Sx n k l):DW n l=true:=B7.2 h.at_
structure I2 where
 lo:Int
 hi:Int
 Ag:List Int
structure BT where
 B0:List I2
 I3:List Int
 room:List Int
def yU (w:I2):List Pr:=[int w.lo,int w.hi,ints w.Ag]
abbrev AC4 (l:List I2):Pr:=slice 3 (l.map yU)
def L_ (c:BT):Pr:=agg [AC4 c.B0,ints c.I3,ints c.room]
instance AC5 (l:List Int):One (ints l):=fC _ _
def EB (day:Int) (w:I2):Bool:=decide (w.lo≤day)&&decide (day<w.hi)
def BT.has (c:BT) (n:Int):Bool:=decide (0≤n)&&decide (n<c.room.length)
def BT.at (c:BT) (day:Int):Int:=idx (EB day) c.B0
def K2 (n:Int):Bool:=decide (n<0)||decide (n>24)
def MA (w:I2):Bool:=decide (w.lo<0)||decide (w.lo≥w.hi)||decide (w.hi>40001)
def Vf (l:List Int):Prop:=∀(j:Nat) a b,l[j]? =some a→l[j+1]? =some b→a<b
def Zb (l:List I2):Prop:=∀(j:Nat) a b,l[j]? =some a→l[j+1]? =some b→a.hi≤b.lo
open Classical in
noncomputable def BT.check (c:BT) (gP:Int):Int:=
 if 32<c.B0.length∨8<c.room.length then 3
 else if c.room.any K2 then 2
 else if c.B0.any MA then 47
 else if ¬(Zb c.B0∧∀w∈c.B0,Vf w.Ag) then 6
 else if c.B0.any (fun w=>w.Ag.any fun n=> !c.has n) then 2
 else if (c.I3.length:Int)≠gP∨c.I3.any (fun n=> !c.has n) then 1
 else 0
noncomputable def BT.own (c:BT):Int:=c.check c.I3.length
theorem Tp {β:Type} (p:β→Bool) (l:List β): -1≤idx p l∧idx p l<l.length:=by
 unfold idx
 cases h:l.findIdx? p with
 |none=>simp;omega
 |some i=>
  rw [List.findIdx?_eq_some_iff_getElem] at h
  obtain ⟨h1,_⟩:=h
  simp;omega
theorem uC {β:Type} {p:β→Bool} {l:List β} (h:0≤idx p l):∃x,l[(idx p l).toNat]? =some x∧p x=true:=by
 unfold idx at*
 cases h':l.findIdx? p with
 |none=>rw [h'] at h;simp at h
 |some i=>
  rw [List.findIdx?_eq_some_iff_getElem] at h'
  obtain ⟨h1,h2,_⟩:=h'
  exact ⟨l[i],by simp,h2⟩
def BT.Tq (c:BT) (day:Int):Option I2:=c.B0.find? (EB day)
theorem Rl {β:Type} (p:β→Bool) (l:List β):l.find? p=if 0≤idx p l then l[(idx p l).toNat]? else none:=by
 unfold idx
 cases h:l.findIdx? p with
 |none=>
  rw [List.findIdx?_eq_none_iff] at h
  rw [if_neg AV,List.find?_eq_none]
  intro x hx;simpa using h x hx
 |some i=>
  rw [List.findIdx?_eq_some_iff_getElem] at h
  obtain ⟨h1,h2,h3⟩:=h
  simp only [Int.natCast_nonneg,if_true,Int.toNat_natCast]
  rw [List.getElem?_eq_getElem h1,List.find?_eq_some_iff_getElem]
  exact ⟨h2,i,h1,rfl,fun j hj=>by simpa using h3 j hj⟩
def BT.may (c:BT) (n day:Int):Bool:=match c.Tq day with|some w=>w.Ag.any (fun x=>n==x)|none=>false
theorem gQ {l:List I2} {k:Nat} {x:I2} (hx:l[k]? =some x) (hp:∀y,0<k→l[k-1]? =some y→y.hi≤x.lo) (h:∀(j:Nat) a b,j+1<k→l[j]? =some a→l[j+1]? =some b→a.hi≤b.lo):
  ∀(j:Nat) a b,j+1<k+1→l[j]? =some a→l[j+1]? =some b→a.hi≤b.lo:=by
 intro j a b hj ha hb
 by_cases hjk:j+1=k
 · exact US
 · exact h j a b AA ha hb
theorem gR {l:List Int} {k:Nat} {x:Int} (hx:l[k]? =some x) (hp:∀y,0<k→l[k-1]? =some y→y<x) (h:∀(j:Nat) a b,j+1<k→l[j]? =some a→l[j+1]? =some b→a<b):
  ∀(j:Nat) a b,j+1<k+1→l[j]? =some a→l[j+1]? =some b→a<b:=by
 intro j a b hj ha hb
 by_cases hjk:j+1=k
 · exact US
 · exact h j a b AA ha hb
theorem uD {l:List I2} {k:Nat} {x:I2} (hx:l[k]? =some x) (hp:∀(j:Nat) a b,j+1<x.Ag.length→x.Ag[j]? =some a→x.Ag[j+1]? =some b→a<b) (h:∀(j:Nat) a,j<k→l[j]? =some a→Vf a.Ag):
  ∀(j:Nat) a,j<k+1→l[j]? =some a→Vf a.Ag:=by
 intro j a hj ha
 by_cases hjk:j=k
 ·
  subst hjk;rw [hx] at ha;cases ha
  intro i u v hu hv
  exact hp i u v (by rcases Nat.lt_or_ge (i+1) x.Ag.length with h|h;exact h;rw [List.getElem?_eq_none h] at hv;cases hv) hu hv
 · exact h j a AA ha
theorem QO {l:List I2} (h:(∀(j:Nat) a b,j+1<l.length→l[j]? =some a→l[j+1]? =some b→a.hi≤b.lo)∧∀(j:Nat) a,j<l.length→l[j]? =some a→Vf a.Ag):Zb l∧∀w∈l,Vf w.Ag:=by
 refine ⟨fun j a b ha hb=>h.1 j a b (by rcases Nat.lt_or_ge (j+1) l.length with h|h;exact h;rw [List.getElem?_eq_none h] at hb;cases hb) ha hb,fun w hw=> ?_⟩
 obtain ⟨j,hj,rfl⟩:=List.mem_iff_getElem.1 hw
 exact h.2 j _ hj (List.getElem?_eq_getElem hj)
theorem m_ {l:List I2} {k:Nat} {x y:I2} (hk:0<k) (hx:l[k]? =some x) (hy:l[k-1]? =some y) (h:x.lo<y.hi):¬(Zb l∧∀w∈l,Vf w.Ag):=by
 rintro ⟨h1,_⟩
 have:=h1 (k-1) y x hy (by rw [show k-1+1=k by omega];exact hx)
 omega
theorem nA {l:List I2} {k i:Nat} {x:I2} {t u:Int} (hx:l[k]? =some x) (hi:0<i) (ht:x.Ag[i]? =some t) (hu:x.Ag[i-1]? =some u) (h:t≤u):¬(Zb l∧∀w∈l,Vf w.Ag):=by
 rintro ⟨_,h2⟩
 have:=h2 x (List.mem_of_getElem? hx) (i-1) u t hu (by rw [show i-1+1=i by omega];exact ht)
 omega
def EC (n d:Int) (room:Nat→Bool):Nat→List I2→Option Int
 |_,[]=>none
 |i,w::r=>if d<w.hi∧w.Ag.any (fun x=>n==x)∧room i then some (max d w.lo) else EC n d room (i+1) r
def BT.next (c:BT) (n day:Int) (room:Nat→Bool):Option Int:=EC n (max day 0) room 0 c.B0
theorem dK {β:Type} {l:List β} {k:Nat} {x:β} (h:l[k]? =some x):l.drop k=x::l.drop (k+1):=by
 have hk:k<l.length:=by rcases Nat.lt_or_ge k l.length with h'|h';exact h';rw [List.getElem?_eq_none h'] at h;cases h
 rw [List.drop_eq_getElem_cons hk]
 rw [List.getElem?_eq_getElem hk] at h
 simp at h;rw [h]
theorem nB {n d:Int} {room:Nat→Bool} {l:List I2} {k:Nat} {x:I2} (h:l[k]? =some x) (h1:d<x.hi) (h2:x.Ag.any (fun y=>n==y)=true) (h3:room k=true):EC n d room k (l.drop k)=some (max d x.lo):=by
 rw [dK h,EC,if_pos ⟨h1,h2,h3⟩]
theorem gS {n d:Int} {room:Nat→Bool} {l:List I2} {k:Nat} {x:I2} (h:l[k]? =some x) (h':¬(d<x.hi∧x.Ag.any (fun y=>n==y)=true∧room k=true)):EC n d room k (l.drop k)=EC n d room (k+1) (l.drop (k+1)):=by
 rw [dK h,EC,if_neg h']
noncomputable def BT.EL (c:BT) (Ag days others:List Int):Int:=
 if c.own≠0 then c.own else if Ag.length≠days.length then 1 else if 24<Ag.length then 3
 else if (Ag++others).any (fun n=> !c.has n) then 2 else if (Ag.zip days).all (fun p=>c.may p.1 p.2) then 0 else 47
def BT.cell (c:BT) (p:Int×Int):Nat:=(c.at p.2).toNat*8+p.1.toNat
def BT.cnt (c:BT) (l:List (Int×Int)) (k:Nat):Nat:=l.countP fun p=>c.cell p==k
def BT.AC6 (c:BT) (l:List (Int×Int)):List Int:=(List.range 256).map fun k=>(c.cnt l k:Int)
def AC7 (c:BT) (l:List (Int×Int)):List Pr:=(c.AC6 l).map fun z=>int z
theorem yV (c:BT) (l:List (Int×Int)) (k:Nat):c.cnt l k≤l.length:=List.countP_le_length
theorem XN {a b:List Int} {k:Nat} {x y:Int} (hx:a[k]? =some x) (hy:b[k]? =some y):(a.zip b).take (k+1)=(a.zip b).take k++[(x,y)]:=by
 have hz:(a.zip b)[k]? =some (x,y):=by rw [List.getElem?_zip_eq_some];exact ⟨hx,hy⟩
 rw [List.take_add_one,hz];rfl
theorem nC {c:BT} {n d:Int} (h:c.may n d=true):0≤c.at d:=by
 have h2:=Rl (EB d) c.B0
 unfold BT.may BT.Tq at h
 unfold BT.at
 rcases Int.lt_or_le (idx (EB d) c.B0) 0 with h3|h3
 ·
  rw [if_neg AA] at h2
  rw [h2] at h;cases h
 · exact h3
theorem Rm {c:BT} (h:c.own=0):c.B0.length≤32∧c.room.length≤8:=by
 unfold BT.own BT.check at h
 split at h
 · omega
 · omega
theorem nD {c:BT} {n:Int} (h:c.own=0) (hn:c.has n=true):0≤n∧n<8:=by
 have:=(Rm h).2
 unfold BT.has at hn
 simp at hn
 omega
theorem yW {c:BT} {a b:List Int} {k:Nat} {n d:Int} (hx:a[k]? =some n) (hd:b[k]? =some d) (h:(!c.may n d)=true):¬(a.zip b).all (fun p=>c.may p.1 p.2)=true:=by
 intro h2
 rw [List.all_eq_true] at h2
 have hz:(a.zip b)[k]? =some (n,d):=by rw [List.getElem?_zip_eq_some];exact ⟨hx,hd⟩
 have:=h2 _ (List.mem_of_getElem? hz)
 simp [this] at h
theorem uE {c:BT} {a b:List Int} (h:((a.zip b).take a.length).all (fun p=>c.may p.1 p.2)=true) (hl:a.length=b.length):(a.zip b).all (fun p=>c.may p.1 p.2)=true:=by
 rwa [List.take_of_length_le CE] at h
theorem yX {c:BT} {l:List Int} {n:Int} (h:l.any (fun n=> !c.has n)=false) (hn:n∈l):c.has n=true:=by
 rw [List.any_eq_false] at h
 simpa using h n hn
def BT.over (c:BT) (l:List (Int×Int)):Prop:=∃(i n:Nat) (r:Int),i<c.B0.length∧c.room[n]? =some r∧r<(c.cnt l (i*8+n):Int)
open Classical in
noncomputable def BT.De (c:BT) (Ag days others:List Int):Int:=
 if c.EL Ag days others≠0 then c.EL Ag days others else if c.over (Ag.zip days) then 48 else 0
noncomputable def wR (c:BT) (Ag days others:List Int):Pr:=if c.De Ag days others=0 then ref (AC7 c (Ag.zip days)) else is (.pointer none)
noncomputable instance AAj (c:BT) (Ag days others:List Int):One (wR c Ag days others):=by
 unfold wR;split
 · exact bl _
 · exact bk _
theorem GZ {c:BT} {Ag days others:List Int} (h:c.EL Ag days others=0):c.own=0:=by
 unfold BT.EL at h
 by_cases h':c.own=0
 · exact h'
 · rw [if_pos h'] at h;exact absurd h h'
theorem XO {c:BT} {Ag days others:List Int} (h:c.EL Ag days others=0):∀n∈Ag++others,c.has n=true:=by
 have ho:=GZ h
 unfold BT.EL at h
 rw [if_neg (not_not_intro ho)] at h
 split at h
 · cases h
 ·
  split at h
  · cases h
  ·
   split at h
   · cases h
   ·
    rename_i h1
    intro n hn
    exact yX Ie hn
theorem HC {c:BT} {Ag days others:List Int} (h:c.De Ag days others=0):c.EL Ag days others=0:=by
 unfold BT.De at h
 by_cases h':c.EL Ag days others=0
 · exact h'
 · rw [if_pos h'] at h;exact absurd h h'
theorem Zc {c:BT} {l:List (Int×Int)} {i:Nat} (h0:∀i' n r,i'<i→c.room[n]? =some r→(c.cnt l (i'*8+n):Int)≤r) (h1:∀n r,n<c.room.length→c.room[n]? =some r→(c.cnt l (i*8+n):Int)≤r):∀i' n r,i'<i+1→c.room[n]? =some r→(c.cnt l (i'*8+n):Int)≤r:=by
 intro i' n r hi hr
 by_cases hii:i'=i
 ·
  subst hii
  refine h1 n r ?_ hr
  rcases Nat.lt_or_ge n c.room.length with h|h
  · exact h
  · rw [List.getElem?_eq_none h] at hr;cases hr
 · exact h0 i' n r AA hr
theorem Zd {c:BT} {l:List (Int×Int)} {i m:Nat} {r:Int} (h0:∀n r,n<m→c.room[n]? =some r→(c.cnt l (i*8+n):Int)≤r) (hx:c.room[m]? =some r) (hle:(c.cnt l (i*8+m):Int)≤r):∀n r,n<m+1→c.room[n]? =some r→(c.cnt l (i*8+n):Int)≤r:=by
 intro n r' hn hr
 by_cases hnm:n=m
 · subst hnm;rw [hx] at hr;cases hr;exact hle
 · exact h0 n r' AA hr
def BT.MB (c:BT) (n:Int):Int:=(c.room[n.toNat]?).getD 0
theorem Rn {c:BT} {n:Int} (h:c.has n=true):0≤n∧c.room[n.toNat]? =some (c.MB n):=by
 unfold BT.has at h
 simp at h
 refine ⟨h.1,?_⟩
 have:n.toNat<c.room.length:=by omega
 unfold BT.MB
 rw [List.getElem?_eq_getElem this];rfl
def BT.free (c:BT) (l:List (Int×Int)) (n:Int) (i:Nat):Bool:=decide ((c.cnt l (i*8+n.toNat):Int)<c.MB n)
noncomputable def BT.early (c:BT) (Ag days:List Int) (n from_:Int):Option Int:=if c.De Ag days [n]=0 then c.next n from_ (c.free (Ag.zip days) n) else none
end Go.Proofs.YtmocaapoeefgkaaGreatDoor
