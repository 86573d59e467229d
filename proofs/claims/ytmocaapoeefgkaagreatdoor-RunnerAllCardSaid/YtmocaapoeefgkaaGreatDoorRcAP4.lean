/-
  Part 4 of the texts that prove this claim, merged.
-/
import Derived.Test.YtmocaapoeefgkaaGreatDoorRcAP3
set_option linter.all false
set_option maxRecDepth 40000
set_option maxHeartbeats 16000000
namespace Go.Proofs.YtmocaapoeefgkaaGreatDoor
open Go Go.RowKit Cp Go.Proofs.Tryz
variable {I:C1} {E:Env} {nm:List UInt8} {b i j k n:Nat} {o:Oper}
def F9:List (List UInt8):=[[97,112,112],[100,98],[119,101,98]]
def Pq:List (List Int):=[[10,8,2],[8,2],[2,10,8,3]]
def MT (i:Int):List Int:=(Pq[i.toNat]?).getD []
theorem wH {i:Int} (h:0≤i∧i<3):(Pq.map fun l=>[ints l])[i.toNat]? =some [ints (MT i)]:=by
 have hl:i.toNat<Pq.length:=by show i.toNat<3;omega
 unfold MT
 rw [List.getElem?_map,List.getElem?_eq_getElem hl];rfl
theorem X9 {i:Int} (h:0≤i∧i<3):MT i∈Pq:=by
 have hl:i.toNat<Pq.length:=by show i.toNat<3;omega
 unfold MT
 rw [List.getElem?_eq_getElem hl];exact List.getElem_mem hl
structure aP (i:Nat) (e:Bw):Prop where
 name:F9[i]? =some e.name
 least:e.least=1
 most:e.most=3∨e.most=4
 A_:e.A_∈Pq∨∃l∈Pq,e.A_=14::l
 ids:∃s:Int,(0≤s∧s<4294967296)∧e.ids=[IM e.name 5 2048 (100+(i:Nat)) 901 1 s]
 anchors:e.anchors=[1]
 hashes:e.hashes=[2,3]
def pz (es:List Bw):Prop:=∀(i:Nat) e,es[i]? =some e→aP i e
theorem X_ {es:List Bw} {e:Bw} (h:pz es) (he:aP es.length e):pz (es++[e]):=by
 intro i x hx
 rcases Nat.lt_or_ge i es.length with hi|hi
 · rw [List.getElem?_append_left hi] at hx;exact h i x hx
 ·
  rcases Nat.eq_or_lt_of_le hi with hi|hi
  · subst hi;rw [List.getElem?_append_right (Nat.le_refl _),Nat.sub_self] at hx;simp at hx;subst hx;exact he
  · rw [List.getElem?_eq_none CL] at hx;cases hx
theorem WL (h:F9[k]? =some nm) {s:Int} (hs:0≤s∧s<4294967296) {key:Int} (hk:0≤key∧key≤2):EP (L5 nm 5 2048 (100+(k:Nat)) 901 key s)=true:=by
 have hlt:k<3:=BH h
 have hn:named nm=true:=by
  have hm:=List.mem_of_getElem? h
  revert hm;unfold F9;intro hm;simp at hm
  rcases hm with rfl|rfl|rfl<;>decide
 refine fT ⟨?_,?_,by show named [114,111,111,116]=true;decide,hn,?_,by show L1 5 2048 2=true;decide+kernel,?_,?_,by show L1 3 0 1=true;decide+kernel,hk.1,?_,hs.1,hs.2,by show (0:Int)≤0;omega,by show (0:Int)≤901;omega,by show (901:Int)≤40000;omega,by show (0:Int)≤0;omega,by show (0:Int)≤8;omega,.inr rfl⟩
 · show 0≤(100:Int)+(k:Nat);omega
 · show (100:Int)+(k:Nat)≤_;omega
 ·
  show He [nm]=true
  unfold He;rw [Bool.and_eq_true];refine ⟨CD.2 fun j hj=> ?_,by simp⟩
  have:j=0:=by simp at hj;omega
  subst this;unfold nameAt;simp [hn]
 · show 0≤(100:Int)+(k:Nat);omega
 · show (100:Int)+(k:Nat)≤_;omega
 · show key≤_;omega
theorem UQ (h:k<3):(L5 nm 5 2048 (100+(k:Nat)) 901 0 0).aN:=
 ⟨by show (100:Int)+(k:Nat)≤1099511627776;omega,by show (100:Int)+(k:Nat)≤2147483648;omega,⟨by show (0:Int)≤5;omega,by show (5:Int)≤40000;omega⟩,⟨by show (0:Int)≤2048;omega,by show (2048:Int)≤40000;omega⟩,⟨by show (0:Int)≤3;omega,by show (3:Int)≤40000;omega⟩,⟨by show (0:Int)≤0;omega,by show (0:Int)≤40000;omega⟩⟩
theorem p_ {β:Type} {l:List β} {x:β} (h:(l.take n)[k]? =some x):l[k]? =some x:=by
 have hlt:=BH h
 rw [List.length_take] at hlt
 rw [List.getElem?_take,if_pos AA] at h;exact h
theorem qA (i:Int):(MT i).length≤4:=by
 unfold MT
 cases h:Pq[i.toNat]? with
 |none=>show 0≤4;omega
 |some l=>
  have hm:=List.mem_of_getElem? h
  show l.length≤4
  unfold Pq at hm;simp at hm
  rcases hm with rfl|rfl|rfl<;>simp
theorem AAi (s:DS):s.of [3,3,4]=3∨s.of [3,3,4]=4:=by have:=s.OP (l:=[3,3,4]) AO;simp at this;exact this
abbrev AE6:List (List Int):=Pq++Pq.map (14:: ·)
theorem Kr {e:Bw} (h:aP i e):e.A_∈AE6:=by
 rcases h.A_ with h|⟨l,h,h2⟩
 · exact List.mem_append_left _ h
 · rw [h2];exact List.mem_append_right _ (List.mem_map_of_mem h)
theorem WM:∀l∈AE6,LX l=true∧l.length≤5:=by decide+kernel
theorem WN:∀n∈F9,RM n=true∧n.length≤3:=by decide+kernel
theorem wI:[2,3].all R7=true:=by decide+kernel
theorem wJ:L1 5 2048 2=true:=by decide+kernel
theorem qB {id:Int} (h:F9[k]? =some nm) (hid:id=100+(k:Nat)) {s:Int} (hs:0≤s∧s<4294967296):idB (IM nm 5 2048 id 901 1 s)=true:=by
 subst hid
 have hk:k<3:=BH h
 have hv:=WL h hs (key:=1) AA
 have hk2:Il (100+(k:Nat))=true:=by unfold Il;simp;omega
 unfold idB WB;simp only [wJ,hk2,List.all_cons,List.all_nil,hv];simp
theorem wK {e:Bw} (h:aP i e):fN e:=by
 have hn:=WN _ (List.mem_of_getElem? h.name)
 have hs:=WM _ (Kr h)
 obtain ⟨s,hs1,V9⟩:=h.ids
 have hm:=h.most;have hl:=h.least
 refine ⟨hn.1,by omega,by omega,by omega,hs.1,by rw [V9];simp,by rw [h.anchors];simp,by rw [h.anchors];decide,by rw [h.hashes];decide,?_,by rw [h.anchors];decide,by rw [h.hashes];exact wI⟩
 rw [V9];simp only [List.all_cons,List.all_nil,qB h.name rfl hs1,Bool.and_self]
theorem UR {e:Bw} (h:aP i e):e.fits:=by
 have hn:=WN _ (List.mem_of_getElem? h.name)
 obtain ⟨s,hs1,V9⟩:=h.ids
 refine ⟨by unfold maxLen;omega,fun x hx c hc=> ?_⟩
 rw [V9] at hx;simp at hx;subst hx;simp at hc;subst hc
 exact ⟨by show 4≤maxLen;unfold maxLen;omega,by show e.name.length≤maxLen;unfold maxLen;omega,fun n hn2=>by simp at hn2;subst hn2;unfold maxLen;omega⟩
theorem SD {e:Bw} (h:aP i e):e.small:=by
 have hs:=WM _ (Kr h)
 obtain ⟨s,hs1,V9⟩:=h.ids
 refine ⟨by omega,by rw [h.anchors];simp,by rw [h.hashes];simp,by rw [V9];simp,fun x hx=> ?_⟩
 rw [V9] at hx;simp at hx;subst hx
 exact ⟨by simp,fun c hc=>by simp at hc;subst hc;simp⟩
theorem qC:B6.fits:=fun c hc=>by cases hc
theorem AE7 (h:nm∈F9) {a b id key s:Int} (hab:(a=5∧b=2048)∨(a=7∧b=256)) (hid:0≤id∧id≤1000) (hs:0≤s∧s<4294967296) (hk:0≤key∧key≤2):EP (L5 nm a b id 901 key s)=true:=by
 have hn:named nm=true:=by
  revert h;unfold F9;intro hm;simp at hm
  rcases hm with rfl|rfl|rfl<;>decide
 have hof:L1 a b 2=true:=by rcases hab with ⟨rfl,rfl⟩|⟨rfl,rfl⟩<;>decide+kernel
 refine fT ⟨?_,?_,by show named [114,111,111,116]=true;decide,hn,?_,hof,?_,?_,by show L1 3 0 1=true;decide+kernel,hk.1,?_,hs.1,hs.2,by show (0:Int)≤0;omega,by show (0:Int)≤901;omega,by show (901:Int)≤40000;omega,by show (0:Int)≤0;omega,by show (0:Int)≤8;omega,.inr rfl⟩
 · show 0≤id;omega
 · show id≤_;omega
 ·
  show He [nm]=true
  unfold He;rw [Bool.and_eq_true];refine ⟨CD.2 fun j hj=> ?_,by simp⟩
  have:j=0:=by simp at hj;omega
  subst this;unfold nameAt;simp [hn]
 · show 0≤id;omega
 · show id≤_;omega
 · show key≤_;omega
theorem AE8 {a b id:Int} (hab:(a=5∧b=2048)∨(a=7∧b=256)) (hid:0≤id∧id≤1000):(L5 nm a b id 901 0 0).aN:=
 ⟨by show id≤1099511627776;omega,by show id≤2147483648;omega,⟨by show (0:Int)≤a;omega,by show a≤40000;omega⟩,⟨by show (0:Int)≤b;omega,by show b≤40000;omega⟩,⟨by show (0:Int)≤3;omega,by show (3:Int)≤40000;omega⟩,⟨by show (0:Int)≤0;omega,by show (0:Int)≤40000;omega⟩⟩
structure AIk (es:List Bw) (c:Bm):Prop where
 lo:0≤c.Aa
 hi:c.Aa<(es.length:Nat)
 kind:1≤c.kind∧c.kind≤12
 fits:c.Cb.fits
 small:c.Cb.small
abbrev AAj (nm:List UInt8) (a b id to key:Int):Pr:=Cp.ex fun s:Int=>fact (0≤s∧s<4294967296) (J8 [L5 nm a b id to key s])
theorem AE9 (h:nm∈F9) {a b id key s:Int}:(IM nm a b id 901 key s).fits∧(IM nm a b id 901 key s).small:=by
 have hn:=(WN _ h).2
 refine ⟨fun c hc=> ?_,⟨by simp,fun c hc=>by simp at hc;subst hc;simp⟩⟩
 simp at hc;subst hc
 exact ⟨by show 4≤maxLen;unfold maxLen;omega,by show nm.length≤maxLen;unfold maxLen;omega,fun n hn2=>by simp at hn2;subst hn2;unfold maxLen;omega⟩
structure YA where
 CN:Int
 bits:Int
 day:Int
 deriving DecidableEq
abbrev AIl (x:YA):List Pr:=[int x.CN,int x.bits,int x.day]
abbrev qD (l:List YA):Pr:=slice 3 (l.map AIl)
structure WO where
 name:List UInt8
 kind:Int
 Jg:Int
 links:List YA
 MU:Int
 deriving DecidableEq
abbrev fX (x:WO):List Pr:=[str x.name,int x.kind,int x.Jg,qD x.links,int x.MU]
abbrev SE (l:List WO):Pr:=slice 5 (l.map fX)
structure JI where
 client:Int
 server:Int
 deriving DecidableEq
abbrev AAk (x:JI):List Pr:=[int x.client,int x.server]
abbrev I4 (l:List JI):Pr:=slice 2 (l.map AAk)
abbrev Fh:YA:=⟨0,0,0⟩
abbrev Hg:JI:=⟨0,0⟩
def HS (l:List YA) (i:Nat):Bool:=decide (D8 (l[i]?.getD Fh).CN (l[i]?.getD Fh).bits>0)&&decide (0≤(l[i]?.getD Fh).day)&&decide ((l[i]?.getD Fh).day≤40000)&&(decide (i=0)||decide ((l[i-1]?.getD Fh).day<(l[i]?.getD Fh).day))
def PR (x:WO):Bool:=(named x.name&&decide (x.kind=1∨x.kind=2)&&decide (1≤x.Jg)&&decide (x.Jg≤4)&&decide (1≤x.links.length)&&decide (x.links.length≤8))&&allI (HS x.links) x.links.length&&(decide ((x.links[0]?.getD Fh).day≤x.MU)&&decide (x.MU≤40000))
structure AE_ (x:WO):Prop where
 name:named x.name=true
 kind:x.kind=1∨x.kind=2
 p1:1≤x.Jg
 p4:x.Jg≤4
 l1:1≤x.links.length
 l8:x.links.length≤8
 lnk:∀j,j<x.links.length→HS x.links j=true
 u0:(x.links[0]?.getD Fh).day≤x.MU
 u1:x.MU≤40000
theorem HR {x:WO}:PR x=true↔AE_ x:=by
 unfold PR
 simp only [Bool.and_eq_true,decide_eq_true_eq,CD]
 exact ⟨fun ⟨⟨⟨⟨⟨⟨⟨h1,h2⟩,h3⟩,h4⟩,h5⟩,h6⟩,h7⟩,h8,h9⟩=>⟨h1,h2,h3,h4,h5,h6,h7,h8,h9⟩,fun h=>⟨⟨⟨⟨⟨⟨⟨h.name,h.kind⟩,h.p1⟩,h.p4⟩,h.l1⟩,h.l8⟩,h.lnk⟩,h.u0,h.u1⟩⟩
def Ez (n:Nat) (l:List JI) (i:Nat):Bool:=(decide (0≤(l[i]?.getD Hg).client∧(l[i]?.getD Hg).client<n)&&decide (0≤(l[i]?.getD Hg).server∧(l[i]?.getD Hg).server<n)&&decide ((l[i]?.getD Hg).client≠(l[i]?.getD Hg).server))&&(decide (i=0)||decide ((l[i-1]?.getD Hg).client<(l[i]?.getD Hg).client∨((l[i-1]?.getD Hg).client=(l[i]?.getD Hg).client∧(l[i-1]?.getD Hg).server<(l[i]?.getD Hg).server)))
def WQ (n:Nat) (l:List JI):Bool:=allI (Ez n l) l.length&&decide (l.length≤40)
theorem aQ {x:WO}  :A0 prog 149 [agg (fX x)] (int (if PR x then 0 else 30)):=by
 refine fo func149 rfl ⟨rfl,rfl⟩ fun M0 w0=> ?_
 refine ac ?_
 refine wk [1] rfl (Tr.Pm [1] [] ((named x.name=true∧(x.kind=1∨x.kind=2)∧1≤x.Jg∧x.Jg≤4)∧1≤x.links.length∧x.links.length≤8∧(x.links[0]?.getD Fh).day≤x.MU∧x.MU≤40000) ?_ (fun hpre=> ?_))
 refine ac ?_
 refine co rfl (CM (HI) rfl rfl) ?_
 refine ag ?_ ?_<;>intro h2 q2
 refine ac ?_
 refine wk [54,1] rfl ?_
 refine a2 ?_
 · refine int_eq (if_neg (fun hv=> ?_)).symm;have ok:=HR.1 hv;have o1:=ok.name;have o2:=ok.kind;have o3:=ok.p1;have o4:=ok.p4;have o5:=ok.l1;have o6:=ok.l8;have o7:=ok.u0;have o8:=ok.u1;(simp_all)
 refine ag ?_ ?_<;>intro h3 q3
 refine ag ?_ ?_<;>intro h4 q4
 refine ac ?_
 refine wk [54,1] rfl ?_
 refine a2 ?_
 · exact KL
 refine ag ?_ ?_<;>intro h5 q5
 refine ac ?_
 refine wk [54,1] rfl ?_
 refine a2 ?_
 · exact KL
 refine ag ?_ ?_<;>intro h6 q6
 refine ac ?_
 refine wk [54,1] rfl ?_
 refine a2 ?_
 · exact KL
 refine ag ?_ ?_<;>intro h7 q7
 refine ac ?_
 refine wk [54,1] rfl ?_
 refine a2 ?_
 · exact KL
 refine ag ?_ ?_<;>intro h8 q8
 refine ac ?_
 refine wk [54,1] rfl ?_
 refine a2 ?_
 · exact KL
 refine ag ?_ ?_<;>intro h9 q9
 refine ac ?_
 refine wk [54,1] rfl ?_
 refine a2 ?_
 · exact KL
 obtain ⟨c0,hc0⟩:=at_ (l:=x.links) (k:=0) AA
 have hg0:=getD_at (d:=Fh) hc0
 refine ac ?_
 refine cy h9 rfl (AD rfl underlying133 Ke vq vq AA (AR (k:=0) hc0)) ?_
 refine ac ?_
 refine wk [54,1] rfl ?_
 refine Tr.cn rfl ?_ ?_<;>intro h10 R9
 refine a2 ?_
 · exact mU
 refine Tr.skip ?_
 exact Fin.AM () ⟨⟨by simp_all,by omega,by omega,by omega⟩,by omega,by omega,by rw [hg0];omega,by omega⟩ kz
 refine ag ?_ ?_<;>intro h11 Ti
 refine ac ?_
 refine wk [54,1] rfl ?_
 refine a2 ?_
 · exact KL
 refine ag ?_ ?_<;>intro h12 X0
 refine ac ?_
 refine wk [54,1] rfl ?_
 refine a2 ?_
 · exact KL
 refine ag ?_ ?_<;>intro OQ fO
 refine ac ?_
 refine wk [54,1] rfl ?_
 refine a2 ?_
 · exact KL
 refine ag ?_ ?_<;>intro NN q14
 refine ac ?_
 refine wk [54,1] rfl ?_
 refine a2 ?_
 · exact KL
 refine ag ?_ ?_<;>intro XG q15
 refine ac ?_
 refine wk [54,1] rfl ?_
 refine a2 ?_
 · exact KL
 obtain ⟨c0,hc0⟩:=at_ (l:=x.links) (k:=0) AA
 have hg0:=getD_at (d:=Fh) hc0
 refine ac ?_
 refine cy XG rfl (AD rfl underlying133 Ke vq vq AA (AR (k:=0) hc0)) ?_
 refine ac ?_
 refine wk [54,1] rfl ?_
 refine Tr.cn rfl ?_ ?_<;>intro h16 q16
 refine a2 ?_
 · exact mU
 refine Tr.skip ?_
 exact Fin.AM () ⟨⟨by simp_all,by omega,by omega,by omega⟩,by omega,by omega,by rw [hg0];omega,by omega⟩ kz
 obtain ⟨⟨hq1,ig,hq3,hq4⟩,hq5,hq6,hq7,hq8⟩:=hpre
 refine ac ?_
 refine Tr.block (Tr.Ax _ (kk [1] rfl) (fun k:Nat=>[(3,int ((k:Nat):Int))]) (fun k:Nat=>k≤(x.links).length∧(∀j,j<k→HS x.links j=true)) (fun k:Nat=>(x.links).length-k) 0 (⟨Nat.zero_le _,fun j hj=>absurd hj AA⟩) kz ?_)
 rintro k ⟨BJ,AQ⟩
 refine an ?_ ?_<;>intro N7 q17
 have AZ:k<(x.links).length:=AH N7
 obtain ⟨c,AX⟩:=at_ AZ
 have hg:=getD_at (d:=Fh) AX
 refine a2 ?_
 refine co rfl (AD rfl underlying133 Ke vq vq AA (AR AX)) ?_
 refine ac ?_
 refine co rfl (CM (Kl) rfl rfl) ?_
 refine ag ?_ ?_<;>intro OR q18
 refine ac ?_
 refine wk [107,3,1] rfl ?_
 refine a2 ?_
 · exact Zi
 refine ac ?_
 refine cy OR rfl (AD rfl underlying133 Ke vq vq AA (AR AX)) ?_
 refine ag ?_ ?_<;>intro mJ q19
 refine ac ?_
 refine wk [107,3,1] rfl ?_
 refine a2 ?_
 · exact Zi
 refine ac ?_
 refine cy mJ rfl (AD rfl underlying133 Ke vq vq AA (AR AX)) ?_
 refine ag ?_ ?_<;>intro TP q20
 refine ac ?_
 refine wk [107,3,1] rfl ?_
 refine a2 ?_
 · exact Zi
 refine ag ?_ ?_<;>intro fP q21
 have hk0:0<k:=by simpa using fP
 obtain ⟨y,hy⟩:=at_ (l:=x.links) (k:=k-1) AA
 have XE:=getD_at (d:=Fh) hy
 · repeat' first|(refine int_eq (if_neg (fun hv=> ?_)).symm;have ok:=HR.1 hv;have o1:=ok.name;have o2:=ok.kind;have o3:=ok.p1;have o4:=ok.p4;have o5:=ok.l1;have o6:=ok.l8;have o7:=ok.u0;have o8:=ok.u1;(have h_:=ok.lnk k AA;unfold HS at h_;rw [hg,XE] at h_;simp_all;omega))|(exact Fin.AM (k+1) ⟨⟨AZ,EO AQ (by unfold HS;rw [hg,XE];simp_all)⟩,by omega⟩ ⟨⟨_,rfl,AG k⟩,kz⟩)|(refine cy fP rfl (AD rfl underlying133 Ke vq vq AA MG) ?_)|refine cy fP rfl (AD rfl underlying133 Ke vq vq AA (AR AX)) ?_|refine ac ?_|(refine Tr.cn rfl ?_ ?_<;>intro h q)
 have MS:¬0<k:=by simpa using fP
 refine ac ?_
 refine wk [107,3,1] rfl ?_
 refine a2 ?_
 exact Fin.AM (k+1) ⟨⟨AZ,EO AQ (by unfold HS;rw [hg];simp_all)⟩,by omega⟩ ⟨⟨_,rfl,AG k⟩,kz⟩
 have A8:k=(x.links).length:=by have:=AJ N7;omega
 subst A8
 refine a3 ?_
 · refine int_eq (if_pos (HR.2 ⟨hq1,ig,hq3,hq4,hq5,hq6,AQ,by omega,by omega⟩)).symm
theorem fY {k:Int} (hk:1≤k∧k≤12):k=1∨k=2∨k=3∨k=4∨k=5∨k=6∨k=7∨k=8∨k=9∨k=10∨k=11∨k=12:=by omega
theorem YB {e:Bw} {c:Bm} {f:Int} (hc:KC c) (h:CJ e c= .error f):f≠0:=by
 rcases fY hc.1 with hk|hk|hk|hk|hk|hk|hk|hk|hk|hk|hk|hk
 · rw [QV hk] at h;(repeat' (split at h))<;>first|(injection h with h;omega)|(cases h;done)
 · rw [QW hk] at h;(repeat' (split at h))<;>first|(injection h with h;omega)|(cases h;done)
 · rw [QX hk] at h;(repeat' (split at h))<;>first|(injection h with h;omega)|(cases h;done)
 · rw [QY hk] at h;(repeat' (split at h))<;>first|(injection h with h;omega)|(cases h;done)
 · rw [QZ hk] at h;(repeat' (split at h))<;>first|(injection h with h;omega)|(cases h;done)
 · rw [Qa hk] at h;(repeat' (split at h))<;>first|(injection h with h;omega)|(cases h;done)
 · rw [Qb hk] at h;(repeat' (split at h))<;>first|(injection h with h;omega)|(cases h;done)
 · rw [Qc hk] at h;(repeat' (split at h))<;>first|(injection h with h;omega)|(cases h;done)
 · rw [Qd hk] at h;(repeat' (split at h))<;>first|(injection h with h;omega)|(cases h;done)
 · rw [Nf hk] at h;(repeat' (split at h))<;>first|(injection h with h;omega)|(cases h;done)
 · rw [Ng hk] at h;(repeat' (split at h))<;>first|(injection h with h;omega)|(cases h;done)
 · rw [Nh hk] at h;(repeat' (split at h))<;>first|(injection h with h;omega)|(cases h;done)
theorem jj {e:Bw} {c:Bm} {x:Bw} {b:Bm} (h:Eg e c=(x,b,0)):fN e∧KC c∧CJ e c= .ok (x,b)∧fN x:=by
 unfold Eg at h
 split at h
 · cases h
 next h1=>
 split at h
 · cases h
 next h2=>
 have h1 : G4 e = true := by cases hh : G4 e with
  |true=>rfl
  |false=>exact absurd hh h1
 have h2:KC c:=Classical.not_not.1 h2
 cases hs:CJ e c with
 |error f=>
  rw [hs] at h
  simp only [Prod.mk.injEq] at h
  exact absurd h.2.2 (YB h2 hs)
 |ok r=>
  obtain ⟨x',b'⟩:=r
  rw [hs] at h
  simp only at h
  split at h
  next h3=>simp only [Prod.mk.injEq,and_true] at h;obtain ⟨rfl,rfl⟩:=h;exact ⟨Dl.1 h1,h2,rfl,Dl.1 h3⟩
  · cases h
section
variable {α:Type} {p:α→Bool} {l:List α} {a:α} {i:Nat}
end
theorem aR {l:List Int} (h:LX l=true) {n:Int} (hi:l[i]? =some n) (hj:l[j]? =some n):i=j:=by
 unfold LX at h;rw [CD] at h
 have key:∀{a b:Nat},a<b→l[a]? =some n→l[b]? =some n→False:=by
  intro a b hab ha hb
  have:=h b (BH hb)
  unfold Gg at this
  rw [getD_at hb] at this
  simp only [Bool.and_eq_true,Bool.not_eq_true',List.any_eq_false] at this
  have:=this.2 n (List.mem_of_getElem? (show (l.take b)[a]? =some n by rw [List.getElem?_take,if_pos hab];exact ha))
  simp at this
 rcases Nat.lt_trichotomy i j with h1|h1|h1
 · exact (key h1 hi hj).elim
 · exact h1
 · exact (key h1 hj hi).elim
def wL (n:Nat):Bool:=decide ((97≤n∧n≤122)∨(65≤n∧n≤90)∨(48≤n∧n≤57)∨n=45∨n=95∨n=46)
theorem aS:∀n∈List.range 256,LW [45,95,46] (UInt8.ofNat n)=wL n:=by decide+kernel
theorem US (c:UInt8):LW [45,95,46] c=wL c.toNat:=by
 have h:=aS c.toNat (List.mem_range.2 c.toNat_lt)
 rw [UInt8.ofNat_toNat] at h;exact h
theorem qE {s:List UInt8}  :A0 prog 191 [str s] (bool (RM s)):=by
 refine fo func191 rfl ⟨rfl,rfl⟩ fun M0 w0=> ?_
 refine ac ?_
 refine ag ?_ ?_<;>intro h1 q1
 refine a3 ?_
 · exact dZ
 refine an ?_ ?_<;>intro h2 q2
 refine a2 ?_
 · exact dZ
 refine a2 ?_
 refine Tr.block (Tr.Ax _ (kk [0] rfl) (fun k:Nat=>[(3,int ((k:Nat):Int))]) (fun k:Nat=>k≤(s).length∧(∀j y,j<k→s[j]? =some y→(!LW [45,95,46] y)=false)) (fun k:Nat=>(s).length-k) 0 (⟨Nat.zero_le _,fun j y hj=>absurd hj AA⟩) kz ?_)
 rintro k ⟨BJ,AQ⟩
 refine an ?_ ?_<;>intro h3 q3
 have AZ:k<(s).length:=AH h3
 obtain ⟨c,AX⟩:=at_ AZ
 · repeat' first|(refine bool_eq ?_;unfold RM;rw [V_ (p:=LW [45,95,46]) AX (by rw [US];unfold wL;simp;omega)];rfl)|(exact Fin.AM (k+1) ⟨⟨AZ,DR (p:=fun c=> !LW [45,95,46] c) AX (by rw [US];unfold wL;simp;omega) AQ⟩,by omega⟩ ⟨⟨_,rfl,AG k⟩,kz⟩)|refine co rfl (Vz rfl underlying9 vq vq AA (V0 Bh)) ?_|refine ac ?_|(refine Tr.cn rfl ?_ ?_<;>intro h q)|(refine Ch.cg rfl rfl rfl ?_ ?_<;>intro h q)
 have A8:k=(s).length:=by have:=AJ h3;omega
 subst A8
 refine a3 ?_
 · refine bool_eq ?_;unfold RM;rw [NX AQ,Bool.true_and];symm;rw [decide_eq_true_eq];omega
theorem Bl {a b:Int}  :A0 prog 266 [int a,int b] (agg [int a,int b]):=by
 refine fo func266 rfl ⟨rfl,rfl⟩ fun M0 w0=>(Tr.seq (Tr.BE ?_))
 refine Tl rfl rfl rfl rfl LS Eo (fun b1=> ?_)
 refine ap ?_
 refine ap ?_
 refine Tr.ret (Fin.Cf rfl (AL.cell 0 rfl rfl J3 Lt rfl Lr) ?_)
 · exact Lr
theorem Cw {a l m x1 y1 x2 y2 x3 y3 x4 y4:Int} {s:List UInt8}  :A0 prog 267 [int a,str s,agg [int x1,int y1],agg [int x2,int y2],agg [int x3,int y3],agg [int x4,int y4],int l,int m] (agg Dq):=by
 refine fo func267 rfl ⟨rfl,rfl⟩ fun M0 w0=>(Tr.seq (Tr.BE ?_))
 iterate 4 refine tp rfl (BU rfl Be) ?_
 refine Tl rfl rfl rfl rfl Tc J4 (fun b1=> ?_)
 refine ap ?_
 refine Tr.seq (Tr.BE (tm rfl (tm rfl ?_)))
 iterate 4 refine tp rfl (Ad rfl J3 Lt vq rfl rfl) ?_
 refine tm rfl (tm rfl (tp rfl (oD) (TO.re 25 (agg Dq) rfl (WC rfl) ?_)))
 refine ap ?_
 refine wk [16] rfl (Tr.ret (Fin.Cf rfl (AL.cell 0 rfl rfl Jb Gr rfl Lr) ?_))
 · exact Lr
theorem aT   :A0 prog 227 [] (slice 12 NZ):=by
 refine fo func227 rfl ⟨rfl,rfl⟩ fun M0 w0=> ?_
 refine ac ?_
 refine Tr.seq (Tr.BE (tp rfl (Bq (Bl) rfl rfl rfl) (tp rfl (Bq (Bl) rfl rfl rfl) (tp rfl (BO (rows:=[]) rfl zx Eo trivial rfl) ?_))))
 refine Tl rfl rfl rfl rfl LS Eo (fun b1=> ?_)
 refine Tl rfl rfl rfl rfl LS Eo (fun b2=> ?_)
 refine Tl rfl rfl rfl rfl LS Eo (fun b3=> ?_)
 refine sf 2 1 ⟨rfl,rfl,rfl⟩ rfl rfl rfl rfl ?_
 refine sf 1 2 ⟨rfl,rfl,rfl⟩ rfl rfl rfl rfl ?_
 refine sf 0 3 ⟨rfl,rfl,rfl⟩ rfl rfl rfl rfl ?_
 refine ao ?_
 refine Tr.seq (Tr.BE (tp rfl (Bq (Bl) rfl rfl rfl) (tp rfl (Bq (Bl) rfl rfl rfl) ?_)))
 refine Tl rfl rfl rfl rfl LS Eo (fun b4=> ?_)
 refine Tl rfl rfl rfl rfl LS Eo (fun b5=> ?_)
 refine sf 1 4 ⟨rfl,rfl,rfl⟩ rfl rfl rfl rfl ?_
 refine sf 0 5 ⟨rfl,rfl,rfl⟩ rfl rfl rfl rfl ?_
 refine ao ?_
 refine wk [5,4,3,2,1] rfl (Tr.seq (Tr.BE (tp rfl (Bq (Bl) rfl rfl rfl) (tp rfl (Bq (Bl) rfl rfl rfl) (tp rfl (Bq (Bl) rfl rfl rfl) ?_)))))
 refine Tl rfl rfl rfl rfl LS Eo (fun b6=> ?_)
 refine Tl rfl rfl rfl rfl LS Eo (fun b7=> ?_)
 refine Tl rfl rfl rfl rfl LS Eo (fun b8=> ?_)
 refine sf 2 6 ⟨rfl,rfl,rfl⟩ rfl rfl rfl rfl ?_
 refine sf 1 7 ⟨rfl,rfl,rfl⟩ rfl rfl rfl rfl ?_
 refine sf 0 8 ⟨rfl,rfl,rfl⟩ rfl rfl rfl rfl ?_
 refine ao ?_
 refine wk [8,7,6,5,4,3,2,1] rfl (Tr.seq (Tr.BE ?_))
 iterate 4 refine tp rfl (Bq (Bl) rfl rfl rfl) ?_
 refine Tl rfl rfl rfl rfl LS Eo (fun b9=> ?_)
 refine Tl rfl rfl rfl rfl LS Eo (fun b10=> ?_)
 refine Tl rfl rfl rfl rfl LS Eo (fun b11=> ?_)
 refine Tl rfl rfl rfl rfl LS Eo (fun b12=> ?_)
 refine sf 3 9 ⟨rfl,rfl,rfl⟩ rfl rfl rfl rfl ?_
 refine sf 2 10 ⟨rfl,rfl,rfl⟩ rfl rfl rfl rfl ?_
 refine sf 1 11 ⟨rfl,rfl,rfl⟩ rfl rfl rfl rfl ?_
 refine sf 0 12 ⟨rfl,rfl,rfl⟩ rfl rfl rfl rfl ?_
 refine ao ?_
 refine wk [12,11,10,9,8,7,6,5,4,3,2,1] rfl (Tr.seq (Tr.BE (tp rfl (Bq (Bl) rfl rfl rfl) (tp rfl (Bq (Bl) rfl rfl rfl) ?_))))
 refine Tl rfl rfl rfl rfl LS Eo (fun b13=> ?_)
 refine Tl rfl rfl rfl rfl LS Eo (fun b14=> ?_)
 refine sf 1 13 ⟨rfl,rfl,rfl⟩ rfl rfl rfl rfl ?_
 refine sf 0 14 ⟨rfl,rfl,rfl⟩ rfl rfl rfl rfl ?_
 refine ao ?_
 refine wk [14,13,12,11,10,9,8,7,6,5,4,3,2,1] rfl ?_
 refine ac ?_
 refine co rfl (Ah rfl (Cw) ⟨kq,kz⟩) ?_
 refine ac ?_
 refine co rfl (Ah rfl (Cw) ⟨kq,kz⟩) ?_
 refine ac ?_
 refine co rfl (Ah rfl (Cw) ⟨kq,kz⟩) (co rfl (Bq (Bl) rfl rfl rfl) (co rfl (Bq (Bl) rfl rfl rfl) ?_))
 refine ac ?_
 refine co rfl (Ah rfl (Cw) ⟨kq,kz⟩) (co rfl (Bq (Bl) rfl rfl rfl) ?_)
 refine ac ?_
 refine co rfl (Ah rfl (Cw) ⟨kq,kz⟩) ?_
 refine ac ?_
 refine co rfl (Ah rfl (Cw) ⟨kq,kz⟩) (co rfl (Bq (Bl) rfl rfl rfl) ?_)
 refine ac ?_
 refine co rfl (Ah rfl (Cw) ⟨kq,kz⟩) ?_
 refine ac ?_
 refine co rfl (Ah rfl (Cw) ⟨kq,kz⟩) (co rfl (Ad rfl J3 Lt vq rfl rfl) (co rfl (Bq (Bl) rfl rfl rfl) (co rfl (Bq (Bl) rfl rfl rfl) (co rfl (Ad rfl J3 Lt vq rfl rfl) (co rfl (Ah rfl (Cw) ⟨kq,kz⟩) ?_)))))
 refine ac ?_
 refine co rfl (Ah rfl (Cw) ⟨kq,kz⟩) (co rfl (Bq (Bl) rfl rfl rfl) (co rfl (Bq (Bl) rfl rfl rfl) ?_))
 refine ac ?_
 refine co rfl (Ah rfl (Cw) ⟨kq,kz⟩) ?_
 refine ac ?_
 refine co rfl (Ah rfl (Cw) ⟨kq,kz⟩) ?_
 refine ac ?_
 refine co rfl (Ah rfl (Cw) ⟨kq,kz⟩) ?_
 refine ac ?_
 refine co rfl (Ah rfl (Cw) ⟨kq,kz⟩) ?_
 refine ac ?_
 refine co rfl (Ah rfl (Cw) ⟨kq,kz⟩) (co rfl (Bq (Bl) rfl rfl rfl) ?_)
 refine ac ?_
 refine co rfl (Ah rfl (Cw) ⟨kq,kz⟩) (co rfl (Af (xs:=[.tmp 33,.tmp 38,.tmp 43,.tmp 48,.tmp 53,.tmp 58,.tmp 63,.tmp 68,.tmp 73,.tmp 78,.tmp 83,.tmp 88,.tmp 93,.tmp 98,.tmp 103,.tmp 108]) (rows:=NZ) rfl rfl underlying287 Gr Tc rfl AB ⟨⟨An,VL.le vq (AY _)⟩,⟨⟨An,VL.le vq (AY _)⟩,⟨⟨An,VL.le vq (AY _)⟩,⟨⟨An,VL.le vq (AY _)⟩,⟨⟨An,VL.le vq (AY _)⟩,⟨⟨An,VL.le vq (AY _)⟩,⟨⟨An,VL.le vq (AY _)⟩,⟨⟨An,VL.le vq (AY _)⟩,⟨⟨An,VL.le vq (AY _)⟩,⟨⟨An,VL.le vq (AY _)⟩,⟨⟨An,VL.le vq (AY _)⟩,⟨⟨An,VL.le vq (AY _)⟩,⟨⟨An,VL.le vq (AY _)⟩,⟨⟨An,VL.le vq (AY _)⟩,⟨⟨An,VL.le vq (AY _)⟩,⟨⟨An,VL.le vq (AY _)⟩,trivial⟩⟩⟩⟩⟩⟩⟩⟩⟩⟩⟩⟩⟩⟩⟩⟩ AB) ?_)
 refine ac ?_
 refine wk [0] rfl ?_
 refine ac ?_
 · exact B4 _ _
theorem jk {code:Int}  :A0 prog 192 [int code] (C_ [agg Dq,int (if 1≤code∧code≤16 then 0 else 8)]):=by
 refine fo func192 rfl ⟨rfl,rfl⟩ fun M0 w0=>(Tr.seq (Tr.BE ?_))
 refine Tl rfl rfl rfl rfl Tc J4 (fun b1=> ?_)
 refine ap ?_
 refine ag ?_ ?_<;>intro h1 q1
 refine ac ?_
 refine Tr.cond rfl (fun _=> ?_) (fun h=>nomatch h)
 refine Tr.seq (Tr.BE (tp rfl (BO (rows:=[]) rfl fA J4 trivial rfl) (TO.AK 0 rfl rfl rfl vq Be rfl Gr rfl rfl (tm rfl (TO.nil (Fin.go (Tr.ret (Fin.AE (Fin.BL rfl (AL.cell 0 rfl rfl Jb Gr rfl Lr) (AL.tmp rfl Lr) ?_)))))))))
 · exact Al ⟨WC rfl,int_eq (by rw [if_neg];simp_all;omega),trivial⟩
 refine an ?_ ?_<;>intro h2 q2
 refine ap ?_
 refine Tr.ret (Fin.AE (Fin.BL rfl (AL.cell 0 rfl rfl Jb Gr rfl Lr) (AL.tmp rfl Lr) ?_))
 · exact Al ⟨WC rfl,int_eq (by rw [if_neg];simp_all),trivial⟩
 have hin:1≤code∧code≤16:=by omega
 refine ac ?_
 refine Tr.seq (Tr.BE (tp rfl (kc0 (aT) rfl) ?_))
 refine ap ?_
 refine tp rfl (AD rfl underlying287 Gr vq vq AA (pO AA)) ?_
 refine ap ?_
 refine wk [3,2] rfl (Tr.ret (Fin.BL rfl (AL.cell 0 rfl rfl Jb Gr rfl Lr) (AL.tmp rfl Lr) ?_))
 · exact Al ⟨Lr,int_eq (by rw [if_pos hin]),trivial⟩
theorem Ks {l:List Int} {v:Int}  :A0 prog 193 [ints l,int v] (bool (l.any fun x=>v==x)):=by
 refine fo func193 rfl ⟨rfl,rfl⟩ fun M0 w0=>(Tr.CG 0 rfl fun DN=> ?_)
 refine a2 ?_
 refine Tr.block (Tr.Ax _ (kk [1,0] rfl) (fun k:Nat=>[(5,int ((k:Nat):Int))]) (fun k:Nat=>k≤(l).length∧((l.take k).any (fun x=>v==x)=false)) (fun k:Nat=>(l).length-k) 0 (⟨Nat.zero_le _,rfl⟩) kz ?_)
 rintro k ⟨BJ,AQ⟩
 refine an ?_ ?_<;>intro h1 q1
 have AZ:k<(l).length:=AH h1
 obtain ⟨x,AX⟩:=at_ AZ
 · repeat' first|(refine bool_eq ?_;symm;rw [List.any_eq_true];exact ⟨_,List.mem_of_getElem? AX,by simp_all⟩)|(exact Fin.AM (k+1) ⟨⟨AZ,eB⟩,by omega⟩ ⟨⟨_,rfl,AG k⟩,kz⟩)|refine co rfl (AD rfl underlying22 Bi vq vq AA CX) ?_|refine ac ?_|(refine Tr.cn rfl ?_ ?_<;>intro h q)
 have A8:k=(l).length:=by have:=AJ h1;omega
 subst A8
 refine a3 ?_
 · exact VE
theorem Dh {l:List (List UInt8)}:He l=true↔(∀j,j<l.length→nameAt l j=true)∧l.length≤8:=by unfold He;rw [Bool.and_eq_true,CD,decide_eq_true_eq]
theorem LZ {l:List (List UInt8)} {s:List UInt8} (hs:l[k]? =some s) (h1:named s=true) (h2:0<k→∃y,l[k-1]? =some y∧Lib.compareBytes y s= -1):nameAt l k=true:=by grind [nameAt]
theorem MV {c:Gt}  :A0 prog 188 [agg (C0 c)] (int (if EP c then 0 else 9)):=by
 refine fo func188 rfl ⟨rfl,rfl⟩ fun M0 w0=> ?_
 refine ac ?_
 refine ag ?_ ?_<;>intro h1 q1
 refine ac ?_
 refine wk [39,1] rfl ?_
 refine a2 ?_
 · exact KK
 refine ag ?_ ?_<;>intro h2 q2
 refine ac ?_
 refine wk [39,1] rfl ?_
 refine a2 ?_
 · exact KK
 refine ac ?_
 refine cy h2 rfl (CM (HI) rfl rfl) ?_
 refine ag ?_ ?_<;>intro h3 q3
 refine ac ?_
 refine wk [39,1] rfl ?_
 refine a2 ?_
 · exact Q9
 refine ac ?_
 refine cy h3 rfl (CM (HI) rfl rfl) ?_
 refine ag ?_ ?_<;>intro h4 q4
 refine ac ?_
 refine wk [39,1] rfl ?_
 refine a2 ?_
 · exact Q9
 refine ac ?_
 refine cy h4 rfl (CM (Km) rfl rfl) ?_
 refine ag ?_ ?_<;>intro h5 q5
 refine ac ?_
 refine wk [39,1] rfl ?_
 refine a2 ?_
 · exact Q9
 refine ag ?_ ?_<;>intro h6 q6
 refine ac ?_
 refine wk [39,1] rfl ?_
 refine a2 ?_
 · exact KK
 refine ac ?_
 refine wk [39,1] rfl ?_
 refine Tr.cn rfl ?_ ?_<;>intro h7 q7
 refine a2 ?_
 · exact KK
 refine a2 ?_
 refine co rfl (CM (Kl) rfl rfl) ?_
 refine ag ?_ ?_<;>intro h8 q8
 refine ac ?_
 refine wk [67,1] rfl ?_
 refine a2 ?_
 · refine int_eq (if_neg (fun hv=> ?_)).symm;have vf:=Jy hv;obtain ⟨ZS,ZT,Q2,Q3,KA,HQ,ZU,ZV,FQ,Q4,Q5,Q6,Q7,ZW,ZX,ZY,ZZ,Za,Zb⟩:=vf;have Zc:=(Dh.1 KA).2;unfold L1 at HQ FQ;simp_all;omega
 refine ac ?_
 refine cy h8 rfl (CM (Qe) rfl rfl) ?_
 refine ag ?_ ?_<;>intro h9 q9
 refine ac ?_
 refine wk [67,1] rfl ?_
 refine a2 ?_
 · exact Q9
 refine ag ?_ ?_<;>intro h10 R9
 refine ac ?_
 refine wk [67,1] rfl ?_
 refine a2 ?_
 · exact KK
 refine ag ?_ ?_<;>intro h11 Ti
 refine ac ?_
 refine wk [67,1] rfl ?_
 refine a2 ?_
 · exact KK
 refine ac ?_
 refine wk [67,1] rfl ?_
 refine Tr.cn rfl ?_ ?_<;>intro h12 X0
 refine a2 ?_
 · exact KK
 refine ac ?_
 refine ag ?_ ?_<;>intro OQ fO
 refine ac ?_
 refine wk [91,1] rfl ?_
 refine a2 ?_
 · exact KK
 refine ag ?_ ?_<;>intro NN q14
 refine ac ?_
 refine wk [91,1] rfl ?_
 refine a2 ?_
 · exact KK
 refine ag ?_ ?_<;>intro XG q15
 refine ag ?_ ?_<;>intro h16 q16
 refine ac ?_
 refine wk [91,1] rfl ?_
 refine a2 ?_
 · exact Q9
 refine ac ?_
 refine wk [91,1] rfl ?_
 refine Tr.cn rfl ?_ ?_<;>intro N7 q17
 refine a2 ?_
 · exact KK
 refine a2 ?_
 refine Tr.block (Tr.Ax _ (kk [1] rfl) (fun k:Nat=>[(3,int ((k:Nat):Int))]) (fun k:Nat=>k≤(c.names).length∧(∀j,j<k→nameAt c.names j=true)) (fun k:Nat=>(c.names).length-k) 0 (⟨Nat.zero_le _,fun j hj=>absurd hj AA⟩) kz ?_)
 rintro k ⟨BJ,AQ⟩
 refine an ?_ ?_<;>intro OR q18
 have AZ:k<(c.names).length:=AH OR
 obtain ⟨s,AX⟩:=at_ AZ
 refine a2 ?_
 refine co rfl (AD rfl underlying127 O6 vq vq AA (AR AX)) (co rfl (Iv rfl Ri rfl) (co rfl (CM (HI) rfl rfl) ?_))
 refine ag ?_ ?_<;>intro mJ q19
 refine ac ?_
 refine wk [123,3,1] rfl ?_
 refine a2 ?_
 · exact mQ
 refine ag ?_ ?_<;>intro TP q20
 have MS:0<k:=by simpa using TP
 obtain ⟨y,hy⟩:=at_ (l:=c.names) (k:=k-1) AA
 · repeat' first|(refine int_eq (if_neg (fun hv=> ?_)).symm;have vf:=Jy hv;obtain ⟨ZS,ZT,Q2,Q3,KA,HQ,ZU,ZV,FQ,Q4,Q5,Q6,Q7,ZW,ZX,ZY,ZZ,Za,Zb⟩:=vf;have Zc:=(Dh.1 KA).2;unfold L1 at HQ FQ;have ZJ:=(Dh.1 KA).1 k AA;unfold nameAt at ZJ;simp_all)|(exact Fin.AM (k+1) ⟨⟨AZ,(fun j hj=>by rcases Nat.lt_or_eq_of_le (Nat.le_of_lt_succ hj) with h_|h_;exact AQ j h_;(subst h_;refine LZ AX Bp (fun h0=> ?_);exact ⟨y,hy,by simp_all⟩))⟩,by omega⟩ ⟨⟨_,rfl,AG k⟩,kz⟩)|(refine cy TP rfl (AD rfl underlying127 O6 vq vq AA MG) ?_)|refine cy TP rfl (AD rfl underlying127 O6 vq vq AA (AR AX)) (cy TP rfl (Iv rfl Ri rfl) (cy TP rfl (Rs rfl vq vq) ?_))|refine ac ?_|(refine Tr.cn rfl ?_ ?_<;>intro h q)
 have MS:¬0<k:=by simpa using TP
 refine ac ?_
 refine wk [123,3,1] rfl ?_
 refine a2 ?_
 exact Fin.AM (k+1) ⟨⟨AZ,(fun j hj=>by rcases Nat.lt_or_eq_of_le (Nat.le_of_lt_succ hj) with h_|h_;exact AQ j h_;(subst h_;refine LZ AX Bp (fun h0=> ?_);exact absurd h0 MS))⟩,by omega⟩ ⟨⟨_,rfl,AG k⟩,kz⟩
 have A8:k=(c.names).length:=by have:=AJ OR;omega
 subst A8
 · repeat' first|(refine int_eq (if_neg (fun hv=> ?_)).symm;have vf:=Jy hv;obtain ⟨ZS,ZT,Q2,Q3,KA,HQ,ZU,ZV,FQ,Q4,Q5,Q6,Q7,ZW,ZX,ZY,ZZ,Za,Zb⟩:=vf;have Zc:=(Dh.1 KA).2;unfold L1 at HQ FQ;omega)|(refine int_eq (if_pos (fT ⟨by omega,by omega,by simp_all,by simp_all,Dh.2 ⟨AQ,by omega⟩,by unfold L1;simp_all,by omega,by omega,by unfold L1;simp_all,by omega,by omega,by omega,by omega,by omega,by omega,by omega,by omega,by omega,by right;omega⟩)).symm)|refine ac ?_|(refine Tr.cn rfl ?_ ?_<;>intro h q)|(refine Ch.cg rfl rfl rfl ?_ ?_<;>intro h q)
 refine ac ?_
 refine wk [91,1] rfl ?_
 refine Tr.cn rfl ?_ ?_<;>intro h26 q26
 refine a2 ?_
 · exact KK
 refine a2 ?_
 refine Tr.block (Tr.Ax _ (kk [1] rfl) (fun k:Nat=>[(3,int ((k:Nat):Int))]) (fun k:Nat=>k≤(c.names).length∧(∀j,j<k→nameAt c.names j=true)) (fun k:Nat=>(c.names).length-k) 0 (⟨Nat.zero_le _,fun j hj=>absurd hj AA⟩) kz ?_)
 rintro k ⟨BJ,AQ⟩
 refine an ?_ ?_<;>intro h27 q27
 have AZ:k<(c.names).length:=AH h27
 obtain ⟨s,AX⟩:=at_ AZ
 refine a2 ?_
 refine co rfl (AD rfl underlying127 O6 vq vq AA (AR AX)) (co rfl (Iv rfl Ri rfl) (co rfl (CM (HI) rfl rfl) ?_))
 refine ag ?_ ?_<;>intro h28 q28
 refine ac ?_
 refine wk [123,3,1] rfl ?_
 refine a2 ?_
 · exact mQ
 refine ag ?_ ?_<;>intro mL q29
 have MS:0<k:=by simpa using mL
 obtain ⟨y,hy⟩:=at_ (l:=c.names) (k:=k-1) AA
 · repeat' first|(refine int_eq (if_neg (fun hv=> ?_)).symm;have vf:=Jy hv;obtain ⟨ZS,ZT,Q2,Q3,KA,HQ,ZU,ZV,FQ,Q4,Q5,Q6,Q7,ZW,ZX,ZY,ZZ,Za,Zb⟩:=vf;have Zc:=(Dh.1 KA).2;unfold L1 at HQ FQ;have ZJ:=(Dh.1 KA).1 k AA;unfold nameAt at ZJ;simp_all)|(exact Fin.AM (k+1) ⟨⟨AZ,(fun j hj=>by rcases Nat.lt_or_eq_of_le (Nat.le_of_lt_succ hj) with h_|h_;exact AQ j h_;(subst h_;refine LZ AX Bp (fun h0=> ?_);exact ⟨y,hy,by simp_all⟩))⟩,by omega⟩ ⟨⟨_,rfl,AG k⟩,kz⟩)|(refine cy mL rfl (AD rfl underlying127 O6 vq vq AA MG) ?_)|refine cy mL rfl (AD rfl underlying127 O6 vq vq AA (AR AX)) (cy mL rfl (Iv rfl Ri rfl) (cy mL rfl (Rs rfl vq vq) ?_))|refine ac ?_|(refine Tr.cn rfl ?_ ?_<;>intro h q)
 have MS:¬0<k:=by simpa using mL
 refine ac ?_
 refine wk [123,3,1] rfl ?_
 refine a2 ?_
 exact Fin.AM (k+1) ⟨⟨AZ,(fun j hj=>by rcases Nat.lt_or_eq_of_le (Nat.le_of_lt_succ hj) with h_|h_;exact AQ j h_;(subst h_;refine LZ AX Bp (fun h0=> ?_);exact absurd h0 MS))⟩,by omega⟩ ⟨⟨_,rfl,AG k⟩,kz⟩
 have A8:k=(c.names).length:=by have:=AJ h27;omega
 subst A8
 · repeat' first|(refine int_eq (if_neg (fun hv=> ?_)).symm;have vf:=Jy hv;obtain ⟨ZS,ZT,Q2,Q3,KA,HQ,ZU,ZV,FQ,Q4,Q5,Q6,Q7,ZW,ZX,ZY,ZZ,Za,Zb⟩:=vf;have Zc:=(Dh.1 KA).2;unfold L1 at HQ FQ;omega)|(refine int_eq (if_pos (fT ⟨by omega,by omega,by simp_all,by simp_all,Dh.2 ⟨AQ,by omega⟩,by unfold L1;simp_all,by omega,by omega,by unfold L1;simp_all,by omega,by omega,by omega,by omega,by omega,by omega,by omega,by omega,by omega,by left;simp_all⟩)).symm)|refine ac ?_|(refine Tr.cn rfl ?_ ?_<;>intro h q)|(refine Ch.cg rfl rfl rfl ?_ ?_<;>intro h q)
theorem and1 {a b:Bool} (h:(a&&b)=true):a=true:=by simp at h;exact h.1
theorem AAl {a b:Bool} (h:(a&&b)=true):b=true:=by simp at h;exact h.2
theorem qF:∀(n:Nat) (l:List Int),(∀x∈l,1≤x∧x≤(n:Int))→l.Nodup→l.length≤n
 |0,l,h,_=>by
  cases l with
  |nil=>exact Nat.le_refl _
  |cons a l=>have:=h a (List.mem_cons_self ..);omega
 |n+1,l,h,hn=>by
  have ih:=qF n (l.erase ((n:Int)+1)) (fun x hx=>by
   have h1:=h x (List.mem_of_mem_erase hx)
   have h2:=(hn.mem_erase_iff.1 hx).1
   omega) (hn.erase _)
  rw [List.length_erase] at ih
  split at ih<;>omega
theorem T3 {l:List Int} (h:LX l=true):l.length≤16:=by
 refine qF 16 l (fun x hx=> ?_) ?_
 ·
  obtain ⟨j,hj⟩:=List.getElem?_of_mem hx
  have h1:=CD.1 (show allI (Gg l) l.length=true from h) j (BH hj)
  unfold Gg at h1;rw [getD_at hj] at h1
  have:=and1 h1
  simpa using this
 ·
  refine List.pairwise_iff_getElem.2 fun i j hi hj hij he=> ?_
  have:=aR h (List.getElem?_eq_getElem hi) (by rw [he];exact List.getElem?_eq_getElem hj)
  omega
theorem qG {p:Int→Bool} {l:List Int} (h:∀j,j<l.length→p (l[j]?.getD 0)=true):l.all p=true:=List.all_eq_true.2 fun x hx=>by
 obtain ⟨j,hj⟩:=List.getElem?_of_mem hx
 have:=h j (BH hj)
 rw [getD_at hj] at this;exact this
theorem jl {CN bits id:Int} {l:List Gt}  :A0 prog 194 [agg [int CN,int bits],int id,J8 l] (bool (WB CN bits id l)):=by
 refine fo func194 rfl ⟨rfl,rfl⟩ fun M0 w0=>(Tr.CG 2 rfl fun qH=> ?_)
 refine a2 ?_
 refine co rfl (CM (Km) rfl rfl) ?_
 refine ag ?_ ?_<;>intro h1 q1
 refine ac ?_
 refine wk [23,3,2,1] rfl ?_
 refine a2 ?_
 · refine bool_eq ?_;rw [HN];unfold L1 Il;simp_all
 refine ag ?_ ?_<;>intro h2 q2
 refine ac ?_
 refine wk [23,3,2,1] rfl ?_
 refine a2 ?_
 · exact VN
 refine ag ?_ ?_<;>intro h3 q3
 refine ac ?_
 refine wk [23,3,2,1] rfl ?_
 refine a2 ?_
 · exact VN
 refine ac ?_
 refine wk [23,3,2,1] rfl ?_
 refine Tr.cn rfl ?_ ?_<;>intro h4 q4
 refine a2 ?_
 · exact VN
 refine a2 ?_
 refine Tr.block (Tr.Ax _ (kk [3,2,1] rfl) (fun k:Nat=>[(7,int ((k:Nat):Int))]) (fun k:Nat=>k≤(l).length∧(∀j y,j<k→l[j]? =some y→(!EP y)=false)) (fun k:Nat=>(l).length-k) 0 (⟨Nat.zero_le _,fun j y hj=>absurd hj AA⟩) kz ?_)
 rintro k ⟨BJ,AQ⟩
 refine an ?_ ?_<;>intro h5 q5
 have AZ:k<(l).length:=AH h5
 obtain ⟨c,AX⟩:=at_ AZ
 · repeat' first|(refine bool_eq ?_;rw [HN];unfold L1 Il;rw [V_ (p:=EP) AX Bp];simp)|exact Fin.AM (k+1) ⟨⟨AZ,DR (p:=fun c=> !EP c) AX Bp AQ⟩,by omega⟩ ⟨⟨_,rfl,AG k⟩,kz⟩|refine co rfl (AD rfl underlying82 Dv vq vq AA (AR AX)) (co rfl (Ad rfl Ia Dv vq rfl rfl) (co rfl (CM (MV) rfl rfl) ?_))|refine ac ?_|(refine Tr.cn rfl ?_ ?_<;>intro h q)
 have A8:k=(l).length:=by have:=AJ h5;omega
 subst A8
 have hall:=NX AQ
 refine ac ?_
 refine ag ?_ ?_<;>intro h7 q7
 refine ac ?_
 refine wk [6] rfl ?_
 refine ac ?_
 · refine bool_eq ?_;rw [HN];unfold L1 Il;rw [hall,jO Bp];simp_all
 obtain ⟨c0,hc0⟩:=at_ (l:=l) (k:=0) (by have:=h7;simp at this;exact List.length_pos_iff.2 this)
 refine ZM h7 rfl ?_
 refine cy h7 rfl (AD rfl underlying82 Dv vq vq AA (AR (k:=0) hc0)) ?_
 refine ac ?_
 refine cy h7 rfl (II rfl vq vq) (ZM h7 rfl ?_)
 refine Ch.cs 46 rfl ?_ ?_<;>intro h8 q8
 refine ZM h8 rfl ?_
 refine cy h8 rfl (AD rfl underlying82 Dv vq vq AA (AR (k:=0) hc0)) ?_
 refine ac ?_
 refine wk [6] rfl ?_
 refine ac ?_
 · refine bool_eq ?_;rw [HN];unfold L1 Il;rw [hall,Xw hc0];clear hall AQ hc0;simp_all;omega
 refine ac ?_
 refine wk [6] rfl ?_
 refine ac ?_
 · refine bool_eq ?_;rw [HN];unfold L1 Il;rw [hall,Xw hc0];clear hall AQ hc0;simp_all
theorem aU {e:Bw} (hs3:e.hashes.length≤17592186044416):A0 prog 148 [agg (BQ e)] (int (if G4 e then 0 else 19)):=by
 refine fo func148 rfl ⟨rfl,rfl⟩ fun M0 w0=> ?_
 refine ac ?_
 refine ac ?_
 refine co rfl (CM (qE) rfl rfl) ?_
 refine ac ?_
 refine Ch.cs 13 rfl ?_ ?_<;>intro h1 q1
 refine ac ?_
 refine wk [47,1] rfl ?_
 refine ac ?_
 refine ac ?_
 · refine int_eq (if_neg (fun hv=> ?_)).symm;have ok:=Dl.1 hv;have v1:=ok.name;have v2:=ok.least;have v3:=ok.lm;have v4:=ok.most;have v5:=T3 ok.A_;have v6:=ok.Ze;have v7:=ok.ACp;simp_all
 refine ac ?_
 refine Ch.cs 18 rfl ?_ ?_<;>intro h2 q2
 refine ac ?_
 refine wk [47,1] rfl ?_
 refine ac ?_
 refine ac ?_
 · exact N9
 refine ac ?_
 refine Ch.cs 25 rfl ?_ ?_<;>intro h3 q3
 refine ac ?_
 refine wk [47,1] rfl ?_
 refine ac ?_
 refine ac ?_
 · exact N9
 refine ac ?_
 refine Ch.cs 30 rfl ?_ ?_<;>intro h4 q4
 refine ac ?_
 refine wk [47,1] rfl ?_
 refine ac ?_
 refine ac ?_
 · exact N9
 refine ac ?_
 refine Ch.cs 36 rfl ?_ ?_<;>intro h5 q5
 refine ac ?_
 refine wk [47,1] rfl ?_
 refine ac ?_
 refine ac ?_
 · exact N9
 refine ac ?_
 refine Ch.cs 42 rfl ?_ ?_<;>intro h6 q6
 refine ac ?_
 refine wk [47,1] rfl ?_
 refine ac ?_
 refine ac ?_
 · exact N9
 refine ac ?_
 refine wk [47,1] rfl ?_
 refine Tr.cn rfl ?_ ?_<;>intro h7 q7
 refine ac ?_
 refine ac ?_
 · exact N9
 refine ac ?_
 refine ac ?_
 refine Tr.block (Tr.Ax _ (kk [1] rfl) (fun i:Nat=>[(3,int ((i:Nat):Int))]) (fun i:Nat=>i≤(e.A_).length∧(∀j,j<i→Gg e.A_ j=true)) (fun i:Nat=>(e.A_).length-i) 0 (⟨Nat.zero_le _,fun j hj=>absurd hj AA⟩) kz ?_)
 rintro i ⟨UT,FD⟩
 refine ac ?_
 refine Tr.cn rfl ?_ ?_<;>intro h8 q8
 have Ic:i<(e.A_).length:=AH h8
 obtain ⟨x,JM⟩:=at_ Ic
 have hg:=getD_at (d:=(0:Int)) JM
 refine ac ?_
 refine ao ?_
 refine tp rfl (AD rfl underlying22 Bi vq vq AA (AR JM)) (tp rfl (Iv rfl DL rfl) (tp rfl (CM (jk) rfl rfl) ?_))
 refine ao ?_
 refine Tl rfl rfl rfl rfl Tc J4 (fun b1=> ?_)
 refine sf 0 4 ⟨rfl,rfl,rfl⟩ rfl rfl rfl rfl ?_
 refine ao ?_
 refine wk [5,3,1] rfl ?_
 refine ac ?_
 refine Ch.cs 66 rfl ?_ ?_<;>intro h9 q9
 have AIm:¬(1≤x∧x≤16):=by intro hh;rw [if_pos hh] at h9;exact absurd h9 AB
 refine ac ?_
 refine wk [77,3,1] rfl ?_
 refine ac ?_
 refine ac ?_
 · refine int_eq (if_neg (fun hv=> ?_)).symm;have ok:=Dl.1 hv;have h_:=CD.1 (show allI (Gg e.A_) e.A_.length=true from ok.A_) i AA;unfold Gg at h_;rw [hg] at h_;exact AIm (by simpa using and1 h_)
 have hin:1≤x∧x≤16:=by refine Decidable.byContradiction fun hh=> ?_;rw [if_neg hh] at h9;exact absurd h9 AB
 refine ac ?_
 refine cy h9 rfl (Dp rfl underlying22 Bi vq vq AA CL) ?_
 refine ac ?_
 refine cy h9 rfl (AD rfl underlying22 Bi vq vq AA (AR JM)) (cy h9 rfl (Iv rfl DL rfl) ?_)
 refine cy h9 rfl (Ah rfl (Ks (l:=e.A_.take i) (v:=x)) ⟨⟨_,rfl,Pr.le_of_eq (by rw [←List.map_take,Int.toNat_natCast])⟩,kz⟩) ?_
 refine ac ?_
 refine wk [77,3,1] rfl ?_
 refine Tr.cn rfl ?_ ?_<;>intro h10 R9
 refine ac ?_
 refine ac ?_
 · refine int_eq (if_neg (fun hv=> ?_)).symm;have ok:=Dl.1 hv;have h_:=CD.1 (show allI (Gg e.A_) e.A_.length=true from ok.A_) i AA;unfold Gg at h_;rw [hg] at h_;exact absurd (by assumption:((e.A_.take i).any fun y=>x==y)=true) (by have h2:=AAl h_;rw [Bool.not_eq_true'] at h2;rw [h2];decide)
 refine ac ?_
 refine ac ?_
 exact Fin.AM (i+1) ⟨⟨Ic,EO FD (by unfold Gg;rw [hg];rw [decide_eq_true hin];simp_all)⟩,by omega⟩ ⟨⟨_,rfl,AG i⟩,kz⟩
 have Oe:i=(e.A_).length:=by have:=AJ h8;omega
 subst Oe
 refine ac ?_
 refine ac ?_
 refine Tr.block (Tr.Ax _ (kk [1] rfl) (fun m:Nat=>[(6,int ((m:Nat):Int))]) (fun m:Nat=>m≤(e.ids).length∧(∀j y,j<m→e.ids[j]? =some y→(!idB y)=false)) (fun m:Nat=>(e.ids).length-m) 0 (⟨Nat.zero_le _,fun j y hj=>absurd hj AA⟩) kz ?_)
 rintro m ⟨Nk,Ie⟩
 refine ac ?_
 refine Tr.cn rfl ?_ ?_<;>intro h11 Ti
 have Es:m<(e.ids).length:=AH h11
 obtain ⟨x,Ew⟩:=at_ Es
 refine ac ?_
 refine ac ?_
 refine co rfl (AD rfl underlying38 Ep vq vq AA (AR Ew)) ?_
 refine ac ?_
 refine co rfl (AD rfl underlying38 Ep vq vq AA (AR Ew)) ?_
 refine ac ?_
 refine co rfl (AD rfl underlying38 Ep vq vq AA (AR Ew)) ?_
 refine ac ?_
 refine co rfl (Jd (jl) rfl rfl rfl rfl) ?_
 refine ac ?_
 refine wk [104,6,1] rfl ?_
 refine Tr.cn rfl ?_ ?_<;>intro h12 X0
 refine ac ?_
 refine ac ?_
 · refine int_eq (if_neg (fun hv=> ?_)).symm;have ok:=Dl.1 hv;have h_:=List.all_eq_true.1 ok.ids x (List.mem_of_getElem? Ew);unfold idB at h_;simp_all
 refine ac ?_
 refine ac ?_
 exact Fin.AM (m+1) ⟨⟨Es,DR (p:=fun c=> !idB c) Ew (by unfold idB;simp_all) Ie⟩,by omega⟩ ⟨⟨_,rfl,AG m⟩,kz⟩
 have Kt:m=(e.ids).length:=by have:=AJ h11;omega
 subst Kt
 have hall:=NX Ie
 refine ac ?_
 refine ac ?_
 refine Tr.block (Tr.Ax _ (kk [1] rfl) (fun o:Nat=>[(7,int ((o:Nat):Int))]) (fun o:Nat=>o≤(e.anchors).length∧(∀j,j<o→(I3 e.anchors j&&Il (e.anchors[j]?.getD 0))=true)) (fun o:Nat=>(e.anchors).length-o) 0 (⟨Nat.zero_le _,fun j hj=>absurd hj AA⟩) kz ?_)
 rintro o ⟨AFA,MW⟩
 refine ac ?_
 refine Tr.cn rfl ?_ ?_<;>intro OQ fO
 have jm:o<(e.anchors).length:=AH OQ
 obtain ⟨a,VB⟩:=at_ jm
 have hg:=getD_at (d:=(0:Int)) VB
 refine ac ?_
 refine ac ?_
 refine co rfl (AD rfl underlying22 Bi vq vq AA (AR VB)) ?_
 refine ac ?_
 refine Ch.cs 118 rfl ?_ ?_<;>intro NN q14
 refine ac ?_
 refine wk [143,7,1] rfl ?_
 refine ac ?_
 refine ac ?_
 · exact mg
 refine ac ?_
 refine cy NN rfl (AD rfl underlying22 Bi vq vq AA (AR VB)) ?_
 refine ac ?_
 refine Ch.cs 126 rfl ?_ ?_<;>intro XG q15
 refine ac ?_
 refine wk [143,7,1] rfl ?_
 refine ac ?_
 refine ac ?_
 · exact mg
 refine ac ?_
 refine Ch.cs 129 rfl ?_ ?_<;>intro h16 q16
 have hk0:0<o:=by simpa using h16
 obtain ⟨y,hy⟩:=at_ (l:=e.anchors) (k:=o-1) AA
 have XE:=getD_at (d:=(0:Int)) hy
 refine ac ?_
 refine cy h16 rfl (AD rfl underlying22 Bi vq vq AA (by rw [show ((o:Nat):Int)-1=((o-1:Nat):Int) by omega];exact AR hy)) ?_
 refine ac ?_
 refine cy h16 rfl (AD rfl underlying22 Bi vq vq AA (AR VB)) ?_
 refine ac ?_
 refine wk [143,7,1] rfl ?_
 refine Tr.cn rfl ?_ ?_<;>intro N7 q17
 refine ac ?_
 refine ac ?_
 · refine int_eq (if_neg (fun hv=> ?_)).symm;have ok:=Dl.1 hv;have h_:=CD.1 (show allI (I3 e.anchors) e.anchors.length=true from ok.anc) o AA;unfold I3 at h_;rw [hg,XE] at h_;simp at h_;omega
 refine ac ?_
 refine ac ?_
 exact Fin.AM (o+1) ⟨⟨jm,(fun j hj=>by rcases Nat.lt_or_eq_of_le (Nat.le_of_lt_succ hj) with h_|h_;exact MW j h_;(subst h_;unfold I3 Il;rw [hg];rw [XE];simp_all))⟩,by omega⟩ ⟨⟨_,rfl,AG o⟩,kz⟩
 have MS:¬0<o:=by simpa using h16
 refine ac ?_
 refine wk [143,7,1] rfl ?_
 refine ac ?_
 refine ac ?_
 exact Fin.AM (o+1) ⟨⟨jm,(fun j hj=>by rcases Nat.lt_or_eq_of_le (Nat.le_of_lt_succ hj) with h_|h_;exact MW j h_;(subst h_;unfold I3 Il;rw [hg];simp_all))⟩,by omega⟩ ⟨⟨_,rfl,AG o⟩,kz⟩
 have AAm:o=(e.anchors).length:=by have:=AJ OQ;omega
 subst AAm
 refine ac ?_
 refine ac ?_
 refine Tr.block (Tr.Ax _ (kk [1] rfl) (fun q:Nat=>[(8,int ((q:Nat):Int))]) (fun q:Nat=>q≤(e.hashes).length∧(∀j,j<q→(I3 e.hashes j&&R7 (e.hashes[j]?.getD 0))=true)) (fun q:Nat=>(e.hashes).length-q) 0 (⟨Nat.zero_le _,fun j hj=>absurd hj AA⟩) kz ?_)
 rintro q ⟨AJj,WR⟩
 refine ac ?_
 refine Tr.cn rfl ?_ ?_<;>intro OR q18
 have AAn:q<(e.hashes).length:=AH OR
 obtain ⟨a,YC⟩:=at_ AAn
 have hg:=getD_at (d:=(0:Int)) YC
 refine ac ?_
 refine ac ?_
 refine co rfl (AD rfl underlying22 Bi vq vq AA (AR YC)) (co rfl (Iv rfl DL rfl) (co rfl (CM (Qe) rfl rfl) ?_))
 refine ac ?_
 refine Ch.cs 158 rfl ?_ ?_<;>intro mJ q19
 refine ac ?_
 refine wk [175,8,1] rfl ?_
 refine ac ?_
 refine ac ?_
 · refine int_eq (if_neg (fun hv=> ?_)).symm;have ok:=Dl.1 hv;have h_:=List.all_eq_true.1 ok.hsh a (List.mem_of_getElem? YC);unfold R7 at h_;simp_all
 refine ac ?_
 refine Ch.cs 161 rfl ?_ ?_<;>intro TP q20
 have hk0:0<q:=by simpa using TP
 obtain ⟨y,hy⟩:=at_ (l:=e.hashes) (k:=q-1) AA
 have XE:=getD_at (d:=(0:Int)) hy
 refine ac ?_
 refine cy TP rfl (AD rfl underlying22 Bi vq vq AA (by rw [show ((q:Nat):Int)-1=((q-1:Nat):Int) by omega];exact AR hy)) ?_
 refine ac ?_
 refine cy TP rfl (AD rfl underlying22 Bi vq vq AA (AR YC)) ?_
 refine ac ?_
 refine wk [175,8,1] rfl ?_
 refine Tr.cn rfl ?_ ?_<;>intro fP q21
 refine ac ?_
 refine ac ?_
 · refine int_eq (if_neg (fun hv=> ?_)).symm;have ok:=Dl.1 hv;have h_:=CD.1 (show allI (I3 e.hashes) e.hashes.length=true from ok.hash) q AA;unfold I3 at h_;rw [hg,XE] at h_;simp at h_;omega
 refine ac ?_
 refine ac ?_
 exact Fin.AM (q+1) ⟨⟨AAn,(fun j hj=>by rcases Nat.lt_or_eq_of_le (Nat.le_of_lt_succ hj) with h_|h_;exact WR j h_;(subst h_;unfold I3 R7;rw [hg];rw [XE];simp_all))⟩,by omega⟩ ⟨⟨_,rfl,AG q⟩,kz⟩
 have MS:¬0<q:=by simpa using TP
 refine ac ?_
 refine wk [175,8,1] rfl ?_
 refine ac ?_
 refine ac ?_
 exact Fin.AM (q+1) ⟨⟨AAn,(fun j hj=>by rcases Nat.lt_or_eq_of_le (Nat.le_of_lt_succ hj) with h_|h_;exact WR j h_;(subst h_;unfold I3 R7;rw [hg];simp_all))⟩,by omega⟩ ⟨⟨_,rfl,AG q⟩,kz⟩
 have AIn:q=(e.hashes).length:=by have:=AJ OR;omega
 subst AIn
 refine ac ?_
 refine ac ?_
 refine ac ?_
 · refine int_eq (if_pos (Dl.2 ⟨by simp_all,by omega,by omega,by omega,CD.2 FD,by omega,by omega,CD.2 (fun j hj=>and1 (MW j hj)),CD.2 (fun j hj=>and1 (WR j hj)),hall,qG (fun j hj=>AAl (MW j hj)),qG (fun j hj=>AAl (WR j hj))⟩)).symm
theorem Fi {e:Bw} (DF:e.small):A0 Tryz.prog 148 [agg (BQ e)] (int (if G4 e then 0 else 19)):=aU (by have:=DF.hashes;omega)
theorem WS {a b:List (Int)}  :A0 prog 87 [ints a,ints b] (bool (decide (a=b))):=by
 refine fo func87 rfl ⟨rfl,rfl⟩ fun M0 w0=>(Tr.CG 0 rfl fun DN=>(Tr.CG 1 rfl fun ER=> ?_))
 refine ac ?_
 refine an ?_ ?_<;>intro h1 q1
 have hne:¬a.length=b.length:=by simp_all;omega
 refine a2 ?_
 · exact HT
 have Mu:a.length=b.length:=by simp_all;omega
 refine a2 ?_
 refine Tr.block (Tr.Ax _ (kk [12,1,0] rfl) (fun k:Nat=>[(13,int ((k:Nat):Int))]) (fun k:Nat=>k≤(a).length∧(a.take k=b.take k)) (fun k:Nat=>(a).length-k) 0 (⟨Nat.zero_le _,rfl⟩) kz ?_)
 rintro k ⟨BJ,AQ⟩
 refine ac ?_
 refine Tr.seq ?_
 refine Tr.cn rfl ?_ ?_<;>intro h2 q2
 have AZ:k<(a).length:=AH h2
 obtain ⟨x,AX⟩:=at_ AZ
 obtain ⟨y,hy⟩:=at_ (l:=b) (k:=k) AA
 · exact Zd
 have A8:k=(a).length:=by have:=AJ h2;omega
 subst A8
 refine a3 ?_
 · exact HU
theorem qI {a b:List (List UInt8)}  :A0 prog 185 [Xv a,Xv b] (bool (decide (a=b))):=by
 refine fo func185 rfl ⟨rfl,rfl⟩ fun M0 w0=>(Tr.CG 0 rfl fun DN=>(Tr.CG 1 rfl fun ER=> ?_))
 refine ac ?_
 refine an ?_ ?_<;>intro h1 q1
 have hne:¬a.length=b.length:=by simp_all;omega
 refine a2 ?_
 · exact HT
 have Mu:a.length=b.length:=by simp_all;omega
 refine a2 ?_
 refine Tr.block (Tr.Ax _ (kk [12,1,0] rfl) (fun k:Nat=>[(13,int ((k:Nat):Int))]) (fun k:Nat=>k≤(a).length∧(a.take k=b.take k)) (fun k:Nat=>(a).length-k) 0 (⟨Nat.zero_le _,rfl⟩) kz ?_)
 rintro k ⟨BJ,AQ⟩
 refine ac ?_
 refine Tr.seq ?_
 refine Tr.cn rfl ?_ ?_<;>intro h2 q2
 have AZ:k<(a).length:=AH h2
 obtain ⟨x,AX⟩:=at_ AZ
 obtain ⟨y,hy⟩:=at_ (l:=b) (k:=k) AA
 · exact mO
 have A8:k=(a).length:=by have:=AJ h2;omega
 subst A8
 refine a3 ?_
 · exact HU
abbrev AIo (l:List Bw):Pr:=slice 9 (l.map BQ)
theorem wM {a b:Gt}  :A0 prog 142 [agg (C0 a),agg (C0 b)] (bool (decide (a=b))):=by
 refine fo func142 rfl ⟨rfl,rfl⟩ fun M0 w0=> ?_
 refine ac ?_
 refine wk [3,2] rfl (Tr.Pm [2,3] [(5,bool (decide (a.Ib=b.Ib∧a.Kj=b.Kj∧a.IJ=b.IJ∧a.names=b.names)))] (True) ?_ (fun h1=> ?_))
 · repeat' first|exact Fin.AM () Bp ⟨⟨_,rfl,bool_eq Bp⟩,kz⟩|refine cy h rfl (Bq (qI) rfl rfl rfl) ?_|refine ac ?_|(refine Ch.cg rfl rfl rfl ?_ ?_<;>intro h q)
 refine wk [5,3,2] rfl (Tr.Pm [2,3,5] [(6,bool (decide (a.Pp=b.Pp∧a.J7=b.J7∧a.Cd=b.Cd∧a.WA=b.WA∧a.NY=b.NY∧a.jK=b.jK∧a.jL=b.jL)))] (True) ?_ (fun h5=> ?_))
 · repeat' first|exact Fin.AM () Bp ⟨⟨_,rfl,bool_eq Bp⟩,kz⟩|refine co rfl (II rfl vq vq) (cm rfl ?_)|refine cy h rfl (II rfl vq vq) ?_|refine cy h rfl (R8 rfl vq vq) ?_|refine ac ?_|(refine Ch.cg rfl rfl rfl ?_ ?_<;>intro h q)
 · repeat' first|(refine bool_eq ?_;cases a;cases b;simp_all [Bool.beq_eq_decide_eq])|refine ac ?_|(refine Ch.cg rfl rfl rfl ?_ ?_<;>intro h q)
theorem wN:Entry Tryz.prog 142:=⟨_,Tryz.func142,rfl,rfl⟩
theorem qJ {a b:List Gt}  :A0 prog 141 [J8 a,J8 b,Zu prog (fun p:Gt×Gt=>[agg (C0 p.1),agg (C0 p.2)]) (fun p=>bool (decide (p.1=p.2)))] (bool (decide (a=b))):=by
 refine fo func141 rfl ⟨rfl,rfl⟩ fun M0 w0=>(Tr.CG 0 rfl fun DN=>(Tr.CG 1 rfl fun ER=> ?_))
 refine ac ?_
 refine an ?_ ?_<;>intro h1 q1
 have hne:¬a.length=b.length:=by simp_all;omega
 refine a2 ?_
 · exact HT
 have Mu:a.length=b.length:=by simp_all;omega
 refine a2 ?_
 refine Tr.block (Tr.Ax _ (kk [16,15,2,1] rfl) (fun k:Nat=>[(17,int ((k:Nat):Int))]) (fun k:Nat=>k≤(a).length∧(a.take k=b.take k)) (fun k:Nat=>(a).length-k) 0 (⟨Nat.zero_le _,rfl⟩) kz ?_)
 rintro k ⟨BJ,AQ⟩
 refine ac ?_
 refine Tr.seq ?_
 refine Tr.cn rfl ?_ ?_<;>intro h2 q2
 have AZ:k<(a).length:=AH h2
 obtain ⟨x,AX⟩:=at_ AZ
 obtain ⟨y,hy⟩:=at_ (l:=b) (k:=k) AA
 refine ac ?_
 refine ao ?_
 refine tp rfl (AD rfl underlying82 Dv (vl rfl) (vl rfl) AA (AR AX)) (tp rfl (Ad rfl Ia Dv (vl rfl) rfl rfl) ?_)
 refine Tl rfl rfl rfl rfl Ro L3 (fun b1=> ?_)
 refine tm rfl ?_
 refine sf 0 8 ⟨rfl,rfl,rfl⟩ rfl rfl rfl rfl ?_
 refine ao ?_
 refine ao ?_
 refine tp rfl (AD rfl underlying82 Dv (vl rfl) (vl rfl) AA (AR hy)) (tp rfl (Ad rfl Ia Dv (vl rfl) rfl rfl) ?_)
 refine Tl rfl rfl rfl rfl Ro L3 (fun b2=> ?_)
 refine sf 0 9 ⟨rfl,rfl,rfl⟩ rfl rfl rfl rfl ?_
 refine ao ?_
 · exact Zg
 have A8:k=(a).length:=by have:=AJ h2;omega
 subst A8
 refine a3 ?_
 · exact HU
theorem AFB {a b:Hw}  :A0 prog 140 [agg (E_ a),agg (E_ b)] (bool (decide (a=b))):=by
 refine fo func140 rfl ⟨rfl,rfl⟩ fun M0 w0=> ?_
 · repeat' first|(refine bool_eq ?_;cases a;cases b;simp_all [Bool.beq_eq_decide_eq])|refine co rfl (II rfl vq vq) (cm rfl ?_)|refine cy h rfl (Ah rfl (qJ) ⟨kq,kq,⟨_,rfl,EK (dom:=fun p:Gt×Gt=>[agg (C0 p.1),agg (C0 p.2)]) (res:=fun p=>bool (decide (p.1=p.2))) wN (fun p=>wM (a:=p.1) (b:=p.2))⟩,trivial⟩) ?_|refine ac ?_|(refine Ch.cg rfl rfl rfl ?_ ?_<;>intro h q)
theorem AFC:Entry Tryz.prog 140:=⟨_,Tryz.func140,rfl,rfl⟩
theorem AAo {a b:List Hw}  :A0 prog 143 [pN a,pN b,Zu prog (fun p:Hw×Hw=>[agg (E_ p.1),agg (E_ p.2)]) (fun p=>bool (decide (p.1=p.2)))] (bool (decide (a=b))):=by
 refine fo func143 rfl ⟨rfl,rfl⟩ fun M0 w0=>(Tr.CG 0 rfl fun DN=>(Tr.CG 1 rfl fun ER=> ?_))
 refine ac ?_
 refine an ?_ ?_<;>intro h1 q1
 have hne:¬a.length=b.length:=by simp_all;omega
 refine a2 ?_
 · exact HT
 have Mu:a.length=b.length:=by simp_all;omega
 refine a2 ?_
 refine Tr.block (Tr.Ax _ (kk [16,15,2,1] rfl) (fun k:Nat=>[(17,int ((k:Nat):Int))]) (fun k:Nat=>k≤(a).length∧(a.take k=b.take k)) (fun k:Nat=>(a).length-k) 0 (⟨Nat.zero_le _,rfl⟩) kz ?_)
 rintro k ⟨BJ,AQ⟩
 refine ac ?_
 refine Tr.seq ?_
 refine Tr.cn rfl ?_ ?_<;>intro h2 q2
 have AZ:k<(a).length:=AH h2
 obtain ⟨x,AX⟩:=at_ AZ
 obtain ⟨y,hy⟩:=at_ (l:=b) (k:=k) AA
 refine ac ?_
 refine ao ?_
 refine tp rfl (AD rfl underlying38 Ep (vl rfl) (vl rfl) AA (AR AX)) (tp rfl (Ad rfl PG Ep (vl rfl) rfl rfl) ?_)
 refine Tl rfl rfl rfl rfl Vv OV (fun b1=> ?_)
 refine tm rfl ?_
 refine sf 0 8 ⟨rfl,rfl,rfl⟩ rfl rfl rfl rfl ?_
 refine ao ?_
 refine ao ?_
 refine tp rfl (AD rfl underlying38 Ep (vl rfl) (vl rfl) AA (AR hy)) (tp rfl (Ad rfl PG Ep (vl rfl) rfl rfl) ?_)
 refine Tl rfl rfl rfl rfl Vv OV (fun b2=> ?_)
 refine sf 0 9 ⟨rfl,rfl,rfl⟩ rfl rfl rfl rfl ?_
 refine ao ?_
 · exact Zg
 have A8:k=(a).length:=by have:=AJ h2;omega
 subst A8
 refine a3 ?_
 · exact HU
theorem fZ {a b:Bw}  :A0 prog 80 [agg (BQ a),agg (BQ b)] (bool (decide (a=b))):=by
 refine fo func80 rfl ⟨rfl,rfl⟩ fun M0 w0=> ?_
 refine a2 ?_
 refine wk [5,3,2] rfl (Tr.Pm [2,3,5] [(6,bool (decide (a.A_=b.A_∧a.anchors=b.anchors∧a.hashes=b.hashes)))] (True) ?_ (fun h1=> ?_))
 · repeat' first|exact Fin.AM () Bp ⟨⟨_,rfl,bool_eq Bp⟩,kz⟩|refine co rfl (Bq (WS) rfl rfl rfl) (cm rfl ?_)|refine cy h rfl (Bq (WS) rfl rfl rfl) ?_|refine ac ?_|(refine Ch.cg rfl rfl rfl ?_ ?_<;>intro h q)
 · repeat' first|(refine bool_eq ?_;cases a;cases b;simp_all [Bool.beq_eq_decide_eq])|refine cy h rfl (Ah rfl (AAo) ⟨kq,kq,⟨_,rfl,EK (dom:=fun p:Hw×Hw=>[agg (E_ p.1),agg (E_ p.2)]) (res:=fun p=>bool (decide (p.1=p.2))) AFC (fun p=>AFB (a:=p.1) (b:=p.2))⟩,trivial⟩) ?_|refine ac ?_|(refine Ch.cg rfl rfl rfl ?_ ?_<;>intro h q)
structure D5 where
 Bu:List Bw
 BX:List JI
 items:List WO
 deriving DecidableEq
abbrev CV (e:D5):List Pr:=[AIo e.Bu,I4 e.BX,SE e.items]
abbrev GS:D5:=⟨[],[],[]⟩
structure D5.fits (e:D5):Prop where
 Bu:∀x∈e.Bu,x.fits∧x.small
 items:∀x∈e.items,x.name.length≤maxLen
 le:e.Bu.length≤1000000000000
 lg:e.BX.length≤1000000000000
 li:e.items.length≤1000000000000
def YD (l:List Bw) (i:Nat):Bool:=G4 (l[i]?.getD FT)&&(decide (i=0)||decide (Lib.compareBytes (l[i-1]?.getD FT).name (l[i]?.getD FT).name= -1))
def Fl (e:D5):Bool:=(allI (YD e.Bu) e.Bu.length&&decide (e.Bu.length≤16))&&WQ e.Bu.length e.BX&&(e.items.all PR&&decide (e.items.length≤30))
structure y8 (e:D5):Prop where
 ep:∀j,j<e.Bu.length→YD e.Bu j=true
 e16:e.Bu.length≤16
 ed:∀j,j<e.BX.length→Ez e.Bu.length e.BX j=true
 e40:e.BX.length≤40
 it:e.items.all PR=true
 i30:e.items.length≤30
theorem Fq {e:D5}:Fl e=true↔y8 e:=by
 unfold Fl WQ
 simp only [Bool.and_eq_true,decide_eq_true_eq,CD]
 exact ⟨fun ⟨⟨⟨h1,h2⟩,h3,h4⟩,h5,h6⟩=>⟨h1,h2,h3,h4,h5,h6⟩,fun h=>⟨⟨⟨h.ep,h.e16⟩,h.ed,h.e40⟩,h.it,h.i30⟩⟩
theorem iW {e:D5} (h:y8 e):WQ e.Bu.length e.BX=true:=by unfold WQ;simp only [Bool.and_eq_true,decide_eq_true_eq,CD];exact ⟨h.ed,h.e40⟩
theorem EE {e:D5} (hf:e.fits):A0 prog 94 [agg (CV e)] (int (if Fl e then 0 else 31)):=by
 refine fo func94 rfl ⟨rfl,rfl⟩ fun M0 w0=> ?_
 have hl1:=hf.le
 have hl2:=hf.lg
 have hl3:=hf.li
 refine ac ?_
 refine ac ?_
 refine Ch.cs 11 rfl ?_ ?_<;>intro h1 q1
 refine ac ?_
 refine wk [22,1] rfl ?_
 refine ac ?_
 refine ac ?_
 · exact Zl
 refine ac ?_
 refine Ch.cs 17 rfl ?_ ?_<;>intro h2 q2
 refine ac ?_
 refine wk [22,1] rfl ?_
 refine ac ?_
 refine ac ?_
 · exact Zl
 refine ac ?_
 refine wk [22,1] rfl ?_
 refine Tr.cn rfl ?_ ?_<;>intro h3 q3
 refine ac ?_
 refine ac ?_
 · exact Zl
 refine ac ?_
 refine ac ?_
 refine Tr.block (Tr.Ax _ (kk [1] rfl) (fun k:Nat=>[(3,int ((k:Nat):Int))]) (fun k:Nat=>k≤(e.Bu).length∧(∀j,j<k→YD e.Bu j=true)) (fun k:Nat=>(e.Bu).length-k) 0 (⟨Nat.zero_le _,fun j hj=>absurd hj AA⟩) kz ?_)
 rintro k ⟨BJ,AQ⟩
 refine ac ?_
 refine Tr.cn rfl ?_ ?_<;>intro h4 q4
 have AZ:k<(e.Bu).length:=AH h4
 obtain ⟨x,AX⟩:=at_ AZ
 have hg:=getD_at (d:=FT) AX
 have hxf:=hf.Bu x (List.mem_of_getElem? AX)
 refine ac ?_
 refine ac ?_
 refine co rfl (AD rfl underlying27 CS vq vq AA (AR AX)) (co rfl (Ad rfl DC CS vq rfl rfl) (co rfl (CM (Fi hxf.2) rfl rfl) ?_))
 refine ac ?_
 refine Ch.cs 37 rfl ?_ ?_<;>intro h5 q5
 refine ac ?_
 refine wk [56,3,1] rfl ?_
 refine ac ?_
 refine ac ?_
 · refine int_eq (if_neg (fun hv=> ?_)).symm;have ok:=Fq.1 hv;(have h_:=ok.ep k AA;unfold YD at h_;rw [hg] at h_;simp_all)
 refine ac ?_
 refine Ch.cs 40 rfl ?_ ?_<;>intro h6 q6
 have hk0:0<k:=by simpa using h6
 obtain ⟨y,hy⟩:=at_ (l:=e.Bu) (k:=k-1) AA
 have XE:=getD_at (d:=FT) hy
 refine ac ?_
 refine cy h6 rfl (AD rfl underlying27 CS vq vq AA MG) ?_
 refine ac ?_
 refine cy h6 rfl (AD rfl underlying27 CS vq vq AA (AR AX)) ?_
 refine ac ?_
 refine cy h6 rfl (Rs rfl vq vq) ?_
 refine ac ?_
 refine wk [56,3,1] rfl ?_
 refine Tr.cn rfl ?_ ?_<;>intro h7 q7
 refine ac ?_
 refine ac ?_
 · refine int_eq (if_neg (fun hv=> ?_)).symm;have ok:=Fq.1 hv;(have h_:=ok.ep k AA;unfold YD at h_;rw [hg,XE] at h_;simp_all)
 refine ac ?_
 refine ac ?_
 exact Fin.AM (k+1) ⟨⟨AZ,EO AQ (by unfold YD;rw [hg,XE];simp_all)⟩,by omega⟩ ⟨⟨_,rfl,AG k⟩,kz⟩
 have MS:¬0<k:=by simpa using h6
 refine ac ?_
 refine wk [56,3,1] rfl ?_
 refine ac ?_
 refine ac ?_
 exact Fin.AM (k+1) ⟨⟨AZ,EO AQ (by unfold YD;rw [hg];simp_all)⟩,by omega⟩ ⟨⟨_,rfl,AG k⟩,kz⟩
 have A8:k=(e.Bu).length:=by have:=AJ h4;omega
 subst A8
 have WU:=AQ
 refine ac ?_
 refine ac ?_
 refine Tr.block (Tr.Ax _ (kk [1] rfl) (fun m:Nat=>[(4,int ((m:Nat):Int))]) (fun m:Nat=>m≤(e.BX).length∧(∀j,j<m→Ez e.Bu.length e.BX j=true)) (fun m:Nat=>(e.BX).length-m) 0 (⟨Nat.zero_le _,fun j hj=>absurd hj AA⟩) kz ?_)
 rintro m ⟨Nk,Ie⟩
 refine ac ?_
 refine Tr.cn rfl ?_ ?_<;>intro h8 q8
 have Es:m<(e.BX).length:=AH h8
 obtain ⟨c,Ew⟩:=at_ Es
 have hg:=getD_at (d:=Hg) Ew
 refine ac ?_
 refine ao ?_
 refine tp rfl (AD rfl underlying28 Fe vq vq AA (AR Ew)) (tp rfl (Ad rfl Rl Fe vq rfl rfl) ?_)
 refine Tl rfl rfl rfl rfl jE Xg (fun b1=> ?_)
 refine sf 0 5 ⟨rfl,rfl,rfl⟩ rfl rfl rfl rfl ?_
 refine ao ?_
 refine wk [5,4,1] rfl ?_
 refine ac ?_
 refine Ch.cs 72 rfl ?_ ?_<;>intro h9 q9
 refine ac ?_
 refine wk [99,5,4,1] rfl ?_
 refine ac ?_
 refine ac ?_
 · exact U7
 refine ac ?_
 refine Ch.cs 80 rfl ?_ ?_<;>intro h10 R9
 refine ac ?_
 refine wk [99,5,4,1] rfl ?_
 refine ac ?_
 refine ac ?_
 · exact U7
 refine ac ?_
 refine Ch.cs 85 rfl ?_ ?_<;>intro h11 Ti
 refine ac ?_
 refine wk [99,5,4,1] rfl ?_
 refine ac ?_
 refine ac ?_
 · exact U7
 refine ac ?_
 refine Ch.cs 93 rfl ?_ ?_<;>intro h12 X0
 refine ac ?_
 refine wk [99,5,4,1] rfl ?_
 refine ac ?_
 refine ac ?_
 · exact U7
 refine ac ?_
 refine wk [99,5,4,1] rfl ?_
 refine Tr.cn rfl ?_ ?_<;>intro OQ fO
 refine ac ?_
 refine ac ?_
 · refine int_eq (if_neg (fun hv=> ?_)).symm;have ok:=Fq.1 hv;(have h_:=ok.ed m AA;unfold Ez at h_;rw [hg] at h_;simp_all)
 refine ac ?_
 refine ac ?_
 refine Ch.cs 102 rfl ?_ ?_<;>intro NN q14
 have hk0:0<m:=by simpa using NN
 obtain ⟨y,hy⟩:=at_ (l:=e.BX) (k:=m-1) AA
 have XE:=getD_at (d:=Hg) hy
 refine ac ?_
 refine cy NN rfl (AD rfl underlying28 Fe vq vq AA VF) ?_
 refine ac ?_
 refine Ch.cs 113 rfl ?_ ?_<;>intro XG q15
 refine ac ?_
 refine wk [137,4,1] rfl ?_
 refine ac ?_
 refine ac ?_
 · exact mj
 refine ac ?_
 refine cy XG rfl (AD rfl underlying28 Fe vq vq AA VF) ?_
 refine ac ?_
 refine Ch.cs 124 rfl ?_ ?_<;>intro h16 q16
 refine ac ?_
 refine cy h16 rfl (AD rfl underlying28 Fe vq vq AA VF) ?_
 refine ac ?_
 refine wk [137,4,1] rfl ?_
 refine Tr.cn rfl ?_ ?_<;>intro N7 q17
 refine ac ?_
 refine ac ?_
 · exact mj
 refine ac ?_
 refine ac ?_
 exact Fin.AM (m+1) ⟨⟨Es,EO Ie (by unfold Ez;rw [hg,XE];simp_all)⟩,by omega⟩ ⟨⟨_,rfl,AG m⟩,kz⟩
 refine ac ?_
 refine wk [137,4,1] rfl ?_
 refine ac ?_
 refine ac ?_
 exact Fin.AM (m+1) ⟨⟨Es,EO Ie (by unfold Ez;rw [hg,XE];simp_all;omega)⟩,by omega⟩ ⟨⟨_,rfl,AG m⟩,kz⟩
 have MS:¬0<m:=by simpa using NN
 refine ac ?_
 refine wk [137,4,1] rfl ?_
 refine ac ?_
 refine ac ?_
 exact Fin.AM (m+1) ⟨⟨Es,EO Ie (by unfold Ez;rw [hg];simp_all)⟩,by omega⟩ ⟨⟨_,rfl,AG m⟩,kz⟩
 have Kt:m=(e.BX).length:=by have:=AJ h8;omega
 subst Kt
 refine ac ?_
 refine ac ?_
 refine Tr.block (Tr.Ax _ (kk [1] rfl) (fun o:Nat=>[(6,int ((o:Nat):Int))]) (fun o:Nat=>o≤(e.items).length∧(∀j y,j<o→e.items[j]? =some y→(!PR y)=false)) (fun o:Nat=>(e.items).length-o) 0 (⟨Nat.zero_le _,fun j y hj=>absurd hj AA⟩) kz ?_)
 rintro o ⟨AFA,MW⟩
 refine ac ?_
 refine Tr.cn rfl ?_ ?_<;>intro OR q18
 have jm:o<(e.items).length:=AH OR
 obtain ⟨x,VB⟩:=at_ jm
 refine ac ?_
 refine ac ?_
 refine co rfl (AD rfl underlying29 IE vq vq AA (AR VB)) (co rfl (Ad rfl Vw IE vq rfl rfl) (co rfl (CM (aQ) rfl rfl) ?_))
 refine ac ?_
 refine wk [151,6,1] rfl ?_
 refine Tr.cn rfl ?_ ?_<;>intro mJ q19
 refine ac ?_
 refine ac ?_
 · refine int_eq (if_neg (fun hv=> ?_)).symm;have ok:=Fq.1 hv;(have h_:=List.all_eq_true.1 ok.it x (List.mem_of_getElem? VB);simp_all)
 refine ac ?_
 refine ac ?_
 exact Fin.AM (o+1) ⟨⟨jm,DR (p:=fun c=> !PR c) VB Bp MW⟩,by omega⟩ ⟨⟨_,rfl,AG o⟩,kz⟩
 have AAm:o=(e.items).length:=by have:=AJ OR;omega
 subst AAm
 have hall:=NX MW
 refine ac ?_
 refine ac ?_
 refine ac ?_
 · refine int_eq (if_pos (Fq.2 ⟨WU,by omega,Ie,by omega,hall,by omega⟩)).symm
theorem AAp {d:Nat} {w:World} {x0 y0:Int} {x1 y1:Int}:(Op.equalIn (d+2) 132 (.agg #[.int .i64 x0,.int .i64 x1]) (.agg #[.int .i64 y0,.int .i64 y1])).run Tryz.prog w= .ok (decide (x0=y0∧x1=y1)) w:=by
 have h:=eqS (w:=w) (d:=d+1) (xs:= #[.int .i64 x0,.int .i64 x1]) (ys:= #[.int .i64 y0,.int .i64 y1]) Tryz.underlying132 Ak (FI AB (CR DL rfl) (CR DL rfl) (Gf (d:=d+0) Tryz.underlying3) (FI AB (CR DL rfl) (CR DL rfl) (Gf (d:=d+0) Tryz.underlying3) (NS)))
 refine h.trans (congrArg (fun b=>Result.ok b w) ?_)
 rw [Bool.eq_iff_iff];simp [and_assoc]
theorem qK {u:TypeId} {x y:Operand} {x0 y0:Int} {x1 y1:Int} (ho:o.op= .binOp .neq 132 x y u) (hx:VL E x (agg [is (.int .i64 x0),is (.int .i64 x1)])) (hy:VL E y (agg [is (.int .i64 y0),is (.int .i64 y1)])):Ac Tryz.prog I o E (bool (!decide (x0=y0∧x1=y1))):=
 NR [.int .i64 x0,.int .i64 x1] [.int .i64 y0,.int .i64 y1] ho hx hy Ak (fun w=>by rw [show Op.equal 132 _ _=Op.equalIn (9998+2) 132 _ _ from rfl];exact AAp)
def setAt (n:Int) (l:List Int) (i:Nat):Bool:=decide (0≤l[i]?.getD 0)&&decide (l[i]?.getD 0<n)&&(decide (i=0)||decide (l[i-1]?.getD 0<l[i]?.getD 0))
def Di (n:Int) (l:List Int):Bool:=allI (setAt n l) l.length
theorem MX {l:List Int} {n:Int}  :A0 prog 82 [ints l,int n] (bool (Di n l)):=by
 refine fo func82 rfl ⟨rfl,rfl⟩ fun M0 w0=>(Tr.CG 0 rfl fun DN=> ?_)
 refine a2 ?_
 refine Tr.block (Tr.Ax _ (kk [8,7,1,0] rfl) (fun k:Nat=>[(9,int ((k:Nat):Int))]) (fun k:Nat=>k≤(l).length∧(∀j,j<k→setAt n l j=true)) (fun k:Nat=>(l).length-k) 0 (⟨Nat.zero_le _,fun j hj=>absurd hj AA⟩) kz ?_)
 rintro k ⟨BJ,AQ⟩
 refine ac ?_
 refine Tr.seq ?_
 refine Tr.cn rfl ?_ ?_<;>intro h1 q1
 have AZ:k<(l).length:=AH h1
 obtain ⟨x,AX⟩:=at_ AZ
 have hg:=getD_at (d:=(0:Int)) AX
 refine a2 ?_
 refine co rfl (AD rfl underlying51 Bi vq vq AA (AR AX)) ?_
 refine ac ?_
 refine ag ?_ ?_<;>intro h2 q2
 refine ac ?_
 refine wk [33,9,8,7,1,0] rfl ?_
 refine a2 ?_
 · exact dA
 refine ag ?_ ?_<;>intro h3 q3
 refine ac ?_
 refine wk [33,9,8,7,1,0] rfl ?_
 refine a2 ?_
 · exact dA
 refine ag ?_ ?_<;>intro h4 q4
 have hk0:0<k:=by simpa using h4
 obtain ⟨y,hy⟩:=at_ (l:=l) (k:=k-1) AA
 have XE:=getD_at (d:=(0:Int)) hy
 · repeat' first|(refine bool_eq ?_;unfold Di;rw [RK (p:=setAt n l) (k:=k) AA (by unfold setAt;rw [hg,XE];simp_all;omega)])|(exact Fin.AM (k+1) ⟨⟨AZ,EO AQ (by unfold setAt;rw [hg,XE];simp_all)⟩,by omega⟩ ⟨⟨_,rfl,AG k⟩,kz⟩)|(refine cy h4 rfl (AD rfl underlying51 Bi vq vq AA MG) ?_)|refine ac ?_|(refine Tr.cn rfl ?_ ?_<;>intro h q)
 have MS:¬0<k:=by simpa using h4
 refine ac ?_
 refine wk [33,9,8,7,1,0] rfl ?_
 refine a2 ?_
 exact Fin.AM (k+1) ⟨⟨AZ,EO AQ (by unfold setAt;rw [hg];simp_all)⟩,by omega⟩ ⟨⟨_,rfl,AG k⟩,kz⟩
 have A8:k=(l).length:=by have:=AJ h1;omega
 subst A8
 refine a3 ?_
 · refine bool_eq ?_;unfold Di;rw [oh AQ]
theorem fc {l:List Int} {v:Int}  :A0 prog 92 [ints l,int v] (bool (l.any fun x=>v==x)):=by
 refine fo func92 rfl ⟨rfl,rfl⟩ fun M0 w0=>(Tr.CG 0 rfl fun DN=> ?_)
 refine a2 ?_
 refine Tr.block (Tr.Ax _ (kk [8,7,1] rfl) (fun k:Nat=>[(9,int ((k:Nat):Int))]) (fun k:Nat=>k≤(l).length∧((l.take k).any (fun x=>v==x)=false)) (fun k:Nat=>(l).length-k) 0 (⟨Nat.zero_le _,rfl⟩) kz ?_)
 rintro k ⟨BJ,AQ⟩
 refine ac ?_
 refine Tr.seq ?_
 refine Tr.cn rfl ?_ ?_<;>intro h1 q1
 have AZ:k<(l).length:=AH h1
 obtain ⟨x,AX⟩:=at_ AZ
 refine ac ?_
 refine Tr.seq (Tr.block (Tr.seq (Tr.Bt (co rfl (AD rfl underlying22 Bi vq vq AA (AR AX)) ?_))))
 · repeat' first|(refine bool_eq ?_;symm;rw [List.any_eq_true];exact ⟨_,List.mem_of_getElem? AX,by simp_all⟩)|(exact Fin.AM (k+1) ⟨⟨AZ,eB⟩,by omega⟩ ⟨⟨_,rfl,AG k⟩,kz⟩)|refine ac ?_|(refine Tr.cn rfl ?_ ?_<;>intro h q)
 have A8:k=(l).length:=by have:=AJ h1;omega
 subst A8
 refine a3 ?_
 · exact VE
def usL:List (Int×Int):=[(2,0),(1,0),(5,2048),(16,128),(3,0),(15,168)]
def ff (v:Int):Int×Int:=usL[v.toNat]?.getD (2,0)
theorem AFD {v:Int} (h:0≤v∧v<6):(usL.map fun u=>[int u.1,int u.2])[v.toNat]? =some [int (ff v).1,int (ff v).2]:=by
 have hl:v.toNat<usL.length:=by show v.toNat<6;omega
 unfold ff;rw [List.getElem?_map,List.getElem?_eq_getElem hl];rfl
theorem AAq:∀u∈usL,D8 u.1 u.2>0:=by decide+kernel
theorem y9 (v:Int):D8 (ff v).1 (ff v).2>0:=by
 unfold ff
 cases h:usL[v.toNat]? with
 |none=>decide+kernel
 |some u=>exact AAq u (List.mem_of_getElem? h)
def MY:Nat→DS→Int→List YA→List YA×Int×DS
 |0,s,day,l=>(l,day,s)
 |k+1,s,day,l=>MY k s.Ci.Ci (day+1+s.Ci.of [5,30,0,100]) (l++[⟨(ff (s.val 6)).1,(ff (s.val 6)).2,day⟩])
abbrev Et (s:DS):List YA×Int×DS:=MY (1+s.Ci.Ci.Ci.val 3).toNat s.Ci.Ci.Ci.Ci (s.Ci.Ci.val 20) []
def UU (s:DS) (name:List UInt8):WO:=⟨name,1+s.val 2,1+s.Ci.val 4,(Et s).1,((Et s).1[0]?.getD Fh).day+(Et s).2.2.of [50,300,0,3000]⟩
def AFE (s:DS):DS:=(Et s).2.2.Ci
structure jo (l:List YA) (day:Int):Prop where
 lo:0≤day
 hi:day≤20+101*(l.length:Nat)
 at_:∀j,j<l.length→HS l j=true
 lt:∀x∈l,x.day<day
theorem YE {l:List YA} {day d:Int} {u:Int×Int} (h:jo l day) (h3:l.length≤3) (hu:D8 u.1 u.2>0) (hd:0≤d∧d≤100):jo (l++[⟨u.1,u.2,day⟩]) (day+1+d):=by
 have h0:=h.lo;have h1:=h.hi
 refine ⟨by omega,by rw [List.length_append];simp;omega,fun j hj=> ?_,fun x hx=> ?_⟩
 ·
  rw [List.length_append] at hj;simp at hj
  rcases Nat.lt_or_ge j l.length with hl|hl
  ·
   have:=h.at_ j hl
   unfold HS at this ⊢
   rw [List.getElem?_append_left hl,List.getElem?_append_left (show j-1<l.length by omega)];exact this
  ·
   have:j=l.length:=by omega
   subst this
   unfold HS
   rw [List.getElem?_append_right (Nat.le_refl _),Nat.sub_self]
   rcases Nat.eq_zero_or_pos l.length with hz|hz
   ·
    obtain rfl:=List.eq_nil_of_length_eq_zero hz
    simp [hu];simp at h1;omega
   ·
    obtain ⟨y,hy⟩:=at_ (l:=l) (k:=l.length-1) AA
    rw [List.getElem?_append_left (show l.length-1<l.length by omega),hy]
    have:=h.lt y (List.mem_of_getElem? hy)
    simp [hu];omega
 ·
  rcases List.mem_append.1 hx with hx|hx
  · have:=h.lt x hx;omega
  · simp at hx;subst hx;show day<_;omega
theorem aV (s:DS):0≤s.of [5,30,0,100]∧s.of [5,30,0,100]≤100:=by have:=s.OP (l:=[5,30,0,100]) AO;simp at this;omega
theorem qL (s:DS):0≤s.of [50,300,0,3000]∧s.of [50,300,0,3000]≤3000:=by have:=s.OP (l:=[50,300,0,3000]) AO;simp at this;omega
theorem UW:∀(k:Nat) (s:DS) (day:Int) (l:List YA),jo l day→l.length+k≤3→jo (MY k s day l).1 (MY k s day l).2.1∧(MY k s day l).1.length=l.length+k
 |0,s,day,l,h,_=>⟨h,rfl⟩
 |k+1,s,day,l,h,hk=>by
  have:=UW k s.Ci.Ci (day+1+s.Ci.of [5,30,0,100]) (l++[⟨(ff (s.val 6)).1,(ff (s.val 6)).2,day⟩]) (YE h AA (y9 _) (aV _)) CL
  refine ⟨this.1,?_⟩
  show (MY k _ _ _).1.length=_
  rw [this.2];simp;omega
structure aW (x:WO):Prop where
 ok:PR x=true
 name:x.name.length≤32
 links:x.links.length≤3
theorem fk {s:DS} {name:List UInt8} (hn:named name=true):aW (UU s name):=by
 have h2:=s.DK (n:=2) AA
 have h4:=s.Ci.DK (n:=4) AA
 have TP:=s.Ci.Ci.DK (n:=20) AA
 have h3:=s.Ci.Ci.Ci.DK (n:=3) AA
 have hI:jo [] (s.Ci.Ci.val 20):=⟨by omega,by simp;omega,fun j hj=>by simp at hj,fun x hx=>by simp at hx⟩
 obtain ⟨hL,hl⟩:=UW (1+s.Ci.Ci.Ci.val 3).toNat s.Ci.Ci.Ci.Ci (s.Ci.Ci.val 20) [] hI CL
 simp only [List.length_nil,Nat.zero_add] at hl
 have hlen:(Et s).1.length=(1+s.Ci.Ci.Ci.val 3).toNat:=hl
 have hu:=qL (Et s).2.2
 obtain ⟨c,hc⟩:=at_ (l:=(Et s).1) (k:=0) AA
 have hg:=getD_at (d:=Fh) hc
 have hc1:=hL.lt c (List.mem_of_getElem? hc)
 have hc2:=hL.hi
 refine ⟨HR.2 ⟨hn,?_,?_,?_,?_,?_,hL.at_,?_,?_⟩,LY hn,?_⟩
 · show 1+s.val 2=1∨1+s.val 2=2;omega
 · show 1≤1+s.Ci.val 4;omega
 · show 1+s.Ci.val 4≤4;omega
 · show 1≤(Et s).1.length;omega
 · show (Et s).1.length≤8;omega
 · show ((Et s).1[0]?.getD Fh).day≤((Et s).1[0]?.getD Fh).day+_;omega
 · show ((Et s).1[0]?.getD Fh).day+_≤40000;rw [hg];omega
 · show (Et s).1.length≤3;omega
theorem fm {s:DS} {name:List UInt8}:BP prog 90 [ptr b 0,str name] (agg (fX (UU s name))) (DT b s) (fun _=>DT b (AFE s)):=by
 refine BP.of func90 rfl rfl Am fun M0 w0 S rs M1 w1=> ?_
 have QJ:=s.DK (n:=2) AA
 have hv4:=s.Ci.DK (n:=4) AA
 have AJ_:=s.Ci.Ci.DK (n:=20) AA
 have hv3:=s.Ci.Ci.Ci.DK (n:=3) AA
 refine Tr.seq (Tr.BE ?_)
 refine Tl rfl rfl rfl rfl Vx Xh (fun b1=> ?_)
 refine ao ?_
 refine ao ?_
 refine TO.F0 1 rfl rfl AB (Ae rfl rfl AB rfl (CI AA AA) ⟨ke rfl,ke rfl,trivial⟩) ?_
 refine ao ?_
 refine TO.F0 1 rfl rfl AB (Ae rfl rfl AB rfl (CI AA AA) ⟨ke rfl,ke rfl,trivial⟩) ?_
 refine ao ?_
 refine Tl rfl rfl rfl rfl Vx Xh (fun b2=> ?_)
 refine TO.AK 0 rfl rfl rfl vq Be rfl IE rfl rfl ?_
 refine ao ?_
 refine ao ?_
 refine TO.F0 2 rfl rfl AB (Ae rfl rfl AB rfl (CI AA AA) ⟨ke rfl,ke rfl,trivial⟩) ?_
 refine ao ?_
 refine wk [6,5,4,0] rfl ?_
 refine ao ?_
 refine TO.F0 2 rfl rfl AB (Ae rfl rfl AB rfl (CI AA AA) ⟨ke rfl,ke rfl,trivial⟩) ?_
 refine ao ?_
 refine Tr.block (Tr.G9 0 [str name,int (1+s.val 2),int (1+s.Ci.val 4),AV (.slice none 0 0) (qD []),is (.int .i64 0)] rfl ⟨Lr,Lr,Lr,Bg rfl,Lr,trivial⟩ (Tr.B5 198 3 ?_))
 refine Tr.nP _ (kk [5,4,0] rfl) (fun (k:Int) (day:Int) (l:List YA) (s2:DS) v=>[(7,int k),(6,int day)]) (fun (k:Int) (day:Int) (l:List YA) (s2:DS) v=>Hp M0 w0 S (As 198 3 v::AF true b2 135 [str name,int (1+s.val 2),int (1+s.Ci.val 4),AV v (qD l),is (.int .i64 0)]::AF true b1 135 (([.string (ByteArray.mk #[]),.int .i64 0,.int .i64 0,.slice none 0 0,.int .i64 0]:List Value).map is)::DT b s2::Ai M1 w1::rs)) (fun (k:Int) (day:Int) (l:List YA) (s2:DS)=>(0≤k∧k+l.length≤3∧1≤k+l.length∧jo l day)∧MY k.toNat s2 day l=Et s) (fun (k:Int) (day:Int) (l:List YA) (s2:DS)=>k.toNat) (_) (_) ([]) (_) (.slice none 0 0) (⟨⟨by omega,by simp;omega,by simp;omega,⟨by omega,by simp;omega,fun j hj=>by simp at hj,fun x hx=>by simp at hx⟩⟩,rfl⟩) ⟨kq,kz⟩ (fun _ _ h=>h) ?_
 rintro k day l s2 v ⟨⟨hk0,hk1,hk2,hL⟩,hR⟩
 have hL0:=hL.lo
 have aX:=hL.hi
 have hof:=aV s2.Ci
 refine an ?_ ?_<;>intro h1 q1
 have hk3:0<k:=of_decide_eq_true h1
 have hv6:=s2.DK (n:=6) AA
 refine ac ?_
 refine ao ?_
 refine TO.F0 3 rfl rfl AB (Ae rfl rfl AB rfl (CI AA AA) ⟨ke rfl,ke rfl,trivial⟩) ?_
 refine tp rfl (AD rfl underlying143 Lt Db vq AA (show (usL.map fun u=>[int u.1,int u.2])[_]? =_ from AFD hv6)) ?_
 refine tp rfl (Ad rfl J3 Lt vq rfl rfl) ?_
 refine Tl rfl rfl rfl rfl LS Eo (fun b3=> ?_)
 refine sf 0 8 ⟨rfl,rfl,rfl⟩ rfl rfl rfl rfl ?_
 refine ao ?_
 refine wk [8,7,6,5,4,0] rfl ?_
 refine ao ?_
 refine TO.Df 0 rfl rfl AB (B9 rfl rfl rfl rfl underlying133 Ke yg z198 Ea Db (Ay BK FC)) (fun v1=> ?_)
 refine tp rfl (Aq rfl Vy vq) (TO.DP 1 rfl rfl (BF rfl rfl vq F7 yc rfl Am rfl) ?_)
 refine ao ?_
 refine wk [7,6,5,4,0] rfl ?_
 refine ao ?_
 refine TO.F0 3 rfl rfl AB (Ae rfl rfl AB rfl (R6 (l:=[5,30,0,100]) AO AO) ⟨kq,Db,trivial⟩) ?_
 refine ao ?_
 refine ac ?_
 refine Fin.G9 1 [str name,int (1+s.val 2),int (1+s.Ci.val 4),AV v1 (qD (l++[(⟨(ff (s2.val 6)).1,(ff (s2.val 6)).2,day⟩:YA)])),is (.int .i64 0)] rfl ⟨Lr,Lr,Lr,BB Dm,Lr,trivial⟩ ?_
 exact Fin.uV (k-1) (_) (l++[(⟨(ff (s2.val 6)).1,(ff (s2.val 6)).2,day⟩:YA)]) (_) v1 (⟨⟨⟨by omega,by simp;omega,by simp;omega,YE hL AA (y9 _) (aV _)⟩,by rw [←hR,show k.toNat=(k-1).toNat+1 by omega];rfl⟩,by omega⟩) ⟨⟨_,rfl,int_eq AA⟩,⟨_,rfl,int_eq AA⟩,kz⟩ (fun _ _ h=>h)
 have hk3:¬0<k:=of_decide_eq_false h1
 obtain rfl:k=0:=by omega
 obtain ⟨c0,hc0⟩:=at_ (l:=l) (k:=0) AA
 have hg0:=getD_at (d:=Fh) hc0
 have AKA:=hL.lt c0 (List.mem_of_getElem? hc0)
 have AKB:0≤c0.day:=by have h_:=hL.at_ 0 (BH hc0);unfold HS at h_;rw [hg0] at h_;simp at h_;omega
 have AKC:=qL s2
 have hR1:(Et s).1=l:=by rw [←hR];rfl
 obtain rfl:s2=(Et s).2.2:=by rw [←hR];rfl
 refine ac ?_
 refine Tr.seq (Tr.rx ?_)
 refine ay ?_
 refine xo rfl (fun _=>AD rfl underlying133 Ke Ea vq AA (AR (k:=0) hc0)) ?_
 refine ay ?_
 refine xo rfl (fun _=>oI) ?_
 refine Cx.ef 3 rfl rfl AB (Ae rfl rfl AB rfl (R6 (l:=[50,300,0,3000]) AO AO) ⟨kq,Db,trivial⟩) ?_
 refine ay ?_
 refine Cx.nil ⟨by kernel_rfl,?_⟩
 refine Aw.done al5 (Fin.go (wk [5,4] rfl ?_))
 refine ao ?_
 refine TO.AK 2 rfl rfl rfl vq Be rfl IE rfl rfl ?_
 refine ao ?_
 refine Tr.ret (Fin.Gn [_,_,_] rfl (AL.cell 2 rfl rfl Vw IE rfl Lr) ?_ (fun _ _ _ _=>rfl))
 · exact BR ⟨Lr,Lr,Lr,Pr.le_trans (Ao _ _) (Pr.le_of_eq (by show _=qD (Et s).1;rw [hR1])),int_eq (by show _=((Et s).1[0]?.getD Fh).day+_;rw [hR1,hg0]),trivial⟩
structure aY (n:Nat) (i j:Int) (l:List JI):Prop where
 at_:∀k,k<l.length→Ez n l k=true
 lt:∀g∈l,g.client<i∨(g.client=i∧g.server<j)
theorem aY.nil (n:Nat) (i j:Int):aY n i j []:=⟨fun k hk=>by simp at hk,fun g hg=>by simp at hg⟩
theorem aY.step {i j:Int} {l:List JI} (h:aY n i j l):aY n i (j+1) l:=⟨h.at_,fun g hg=>by have:=h.lt g hg;omega⟩
theorem aY.row {i j:Int} {l:List JI} (h:aY n i j l):aY n (i+1) 0 l:=⟨h.at_,fun g hg=>by have:=h.lt g hg;omega⟩
theorem aY.snoc {i j:Int} {l:List JI} (h:aY n i j l) (hi:0≤i∧i<n) (hj:0≤j∧j<n) (hn:i≠j):aY n i (j+1) (l++[⟨i,j⟩]):=by
 refine ⟨fun k hk=> ?_,fun g hg=> ?_⟩
 ·
  rw [List.length_append] at hk;simp at hk
  rcases Nat.lt_or_ge k l.length with hl|hl
  ·
   have:=h.at_ k hl
   unfold Ez at this ⊢
   rw [List.getElem?_append_left hl,List.getElem?_append_left (show k-1<l.length by omega)];exact this
  ·
   have:k=l.length:=by omega
   subst this
   unfold Ez
   rw [List.getElem?_append_right (Nat.le_refl _),Nat.sub_self]
   rcases Nat.eq_zero_or_pos l.length with hz|hz
   ·
    obtain rfl:=List.eq_nil_of_length_eq_zero hz
    simp;omega
   ·
    obtain ⟨y,hy⟩:=Cp.at_ (l:=l) (k:=l.length-1) AA
    rw [List.getElem?_append_left (show l.length-1<l.length by omega),hy]
    have:=h.lt y (List.mem_of_getElem? hy)
    simp;omega
 ·
  rcases List.mem_append.1 hg with hg|hg
  · have:=h.lt g hg;omega
  · simp at hg;subst hg;right;exact ⟨rfl,by show j<j+1;omega⟩
theorem qM:∀i,i<2→Lib.compareBytes (F9[i]?.getD []) (F9[i+1]?.getD [])= -1:=by decide+kernel
structure PT (e:D5):Prop where
 n2:2≤e.Bu.length
 n3:e.Bu.length≤3
 snd:pz e.Bu
 ed:∀k,k<e.BX.length→Ez e.Bu.length e.BX k=true
 g1:1≤e.BX.length
 g3:e.BX.length≤3
 it:∀x∈e.items,aW x
 i2:e.items.length≤2
theorem PT.ok {e:D5} (h:PT e):Fl e=true:=by
 have h3:=h.n3;have g3:=h.g3;have i2:=h.i2
 refine Fq.2 ⟨fun j hj=> ?_,by omega,h.ed,by omega,List.all_eq_true.2 fun x hx=>(h.it x hx).ok,by omega⟩
 obtain ⟨x,hx⟩:=at_ hj
 have hs:=h.snd j x hx
 unfold YD
 rw [hx,Option.getD_some,Dl.2 (wK hs),Bool.true_and,Bool.or_eq_true,decide_eq_true_eq,decide_eq_true_eq]
 rcases Nat.eq_zero_or_pos j with hz|hz
 · exact .inl hz
 ·
  right
  obtain ⟨y,hy⟩:=at_ (l:=e.Bu) (k:=j-1) AA
  have V9:=h.snd _ y hy
  rw [hy,Option.getD_some]
  have:=qM (j-1) AA
  rw [V9.name,show j-1+1=j by omega,hs.name] at this
  exact this
theorem PT.fits {e:D5} (h:PT e):e.fits:=by
 have h3:=h.n3;have g3:=h.g3;have i2:=h.i2
 refine ⟨fun x hx=> ?_,fun x hx=>by have:=(h.it x hx).name;unfold maxLen;omega,by omega,by omega,by omega⟩
 obtain ⟨i,hi⟩:=List.getElem?_of_mem hx
 exact ⟨UR (h.snd i x hi),SD (h.snd i x hi)⟩
abbrev MZ:List UInt8:=[98,97,99,107,117,112]
abbrev aZ:List UInt8:=[100,101,101,100]
theorem fq (s:DS):named (Kq s [MZ,aZ])=true:=by
 have h:=s.DK (n:=2) AA
 unfold Kq
 have:s.val (([MZ,aZ]:List (List UInt8)).length:Nat)=0∨s.val (([MZ,aZ]:List (List UInt8)).length:Nat)=1:=by show s.val 2=0∨s.val 2=1;omega
 rcases this with h|h<;>rw [h]<;>decide
theorem YF {l:List WO} {y:WO} (h:∀x∈l,aW x) (hy:aW y):∀x∈l++[y],aW x:=by grind
theorem qN {s:DS}:BP prog 46 [ptr b 0] (Cp.ex fun e:D5=>fact (PT e) (agg (CV e))) (DT b s) (fun _=>JY 104 b):=by
 refine BP.of func46 rfl rfl Am fun M0 w0 S rs M1 w1=> ?_
 have QJ:=s.DK (n:=2) AA
 have Z9:(F9.take (2+s.val 2).toNat).length=(2+s.val 2).toNat:=by rw [List.length_take];show min _ 3=_;omega
 refine Tr.seq (Tr.BE ?_)
 refine Tl rfl rfl rfl rfl z31 Iw (fun b1=> ?_)
 refine ap ?_
 refine Tr.seq (Tr.BE ?_)
 refine Tl rfl rfl rfl rfl z31 Iw (fun b2=> ?_)
 refine ap ?_
 refine ap ?_
 refine TO.F0 2 rfl rfl AB (Ae rfl rfl AB rfl (CI AA AA) ⟨ke rfl,ke rfl,trivial⟩) ?_
 refine tp rfl (Gz rfl vq vq ?hin) ?_;case hin=>unfold RO;omega
 refine tp rfl (Dp rfl underlying127 O6 Db vq AA CL) ?_
 refine ap ?_
 refine ac ?_
 refine co rfl (Cq rfl underlying127 vq) ?_
 refine ac ?_
 refine Tr.block ?_
 refine Tr.re 16 rfl (Pr.le_of_eq (by show slice 1 (List.take _ (F9.map fun t=>[str t]))=_;rw [←List.map_take]):Pr.le _ (Xv (F9.take (2+s.val 2).toNat))) ?_
 refine Tr.re 17 rfl (int_eq (by simp;rfl):Pr.le _ (int (((F9.take (2+s.val 2).toNat).length:Nat):Int))) ?_
 refine Tr.G9 0 [AV (.slice none 0 0) (slice 9 (([]:List Bw).map BQ)),is (.slice none 0 0),is (.slice none 0 0)] rfl ⟨Bg rfl,Lr,Lr,trivial⟩ (Tr.B5 40 9 (Tr.F4 _ (kk [17,16,4,3,2,0] rfl) (fun (k:Nat) (es:List Bw) (s2:DS) v=>[(18,int ((k:Nat):Int))]) (fun (k:Nat) (es:List Bw) (s2:DS) v=>Hp M0 w0 S (As 40 9 v::AF true b2 31 [AV v (slice 9 (es.map BQ)),is (.slice none 0 0),is (.slice none 0 0)]::AF true b1 31 (([.slice none 0 0,.slice none 0 0,.slice none 0 0]:List Value).map is)::DT b s2::Ai M1 w1::rs)) (fun (k:Nat) (es:List Bw) (s2:DS)=>k≤(2+s.val 2).toNat∧es.length=k∧pz es) (fun (k:Nat) (es:List Bw) (s2:DS)=>(2+s.val 2).toNat-k) (0) ([]) (_) (.slice none 0 0) (⟨by omega,rfl,fun i e h=>by simp at h⟩) kz (fun _ _ h=>h) ?_))
 rintro k es s2 v ⟨hk1,hk2,hk3⟩
 refine ac ?_
 refine Tr.seq ?_
 refine Tr.cn rfl ?_ ?_<;>intro h1 q1
 have hkn:k<(2+s.val 2).toNat:=by have:=EW.E9 h1;rw [Z9] at this;omega
 obtain ⟨nm,hnm⟩:=at_ (l:=F9.take (2+s.val 2).toNat) (k:=k) AA
 have Od:F9[k]? =some nm:=p_ hnm
 have hso:=qA (s2.Ci.val 3)
 have AKD:k<3:=BH Od
 have hvs:=s2.Ci.DK (n:=3) AA
 have hof:=AAi s2
 refine ac ?_
 refine ac ?_
 refine co rfl (AD rfl underlying127 O6 vq vq AA (AR hnm)) ?_
 refine ac ?_
 refine Tr.seq (Tr.pad (Tr.rx ?_))
 refine ax ?_
 refine xo rfl (fun _=>oI) ?_
 refine Cx.ef 4 rfl rfl AB (Ae rfl rfl AB rfl (R6 (l:=[3,3,4]) AO AO) ⟨kq,Db,trivial⟩) ?_
 refine xo rfl (fun _=>oI) ?_
 refine xo rfl (fun _=>oI) ?_
 refine xo rfl (fun _=>oI) ?_
 refine xo rfl (fun _=>Af (xs:=[.tmp 27,.tmp 28,.tmp 29]) (rows:=[[_],[_],[_]]) rfl rfl underlying128 NO z22 rfl AB ⟨⟨An,⟨_,rfl,Pr.le_trans (B4 _ _) (Ag _)⟩⟩,⟨⟨An,⟨_,rfl,Pr.le_trans (B4 _ _) (Ag _)⟩⟩,⟨⟨An,⟨_,rfl,Pr.le_trans (B4 _ _) (Ag _)⟩⟩,trivial⟩⟩⟩ AB) ?_
 refine xm rfl (Cx.ef 4 rfl rfl AB (Ae rfl rfl AB rfl (CI AA AA) ⟨ke rfl,ke rfl,trivial⟩) ?_)
 refine xo rfl (fun _=>AD rfl underlying128 NO Db vq AA (show (Pq.map fun l=>[ints l])[_]? =_ from wH hvs)) ?_
 refine ax ?_
 refine Cx.ef 4 rfl rfl AB (Ae rfl rfl AB rfl (aE AA AA) ⟨ke rfl,ke rfl,trivial⟩) (xo rfl (fun _=>oI) ?_)
 refine xo rfl (fun _=>oI) ?_
 refine xm rfl (Cx.ef 4 rfl rfl AB (Ae rfl rfl AB rfl (aE AA AA) ⟨ke rfl,ke rfl,trivial⟩) (xo rfl (fun _=>BO (rows:=[(0,[_]),(1,[_]),(2,[_]),(3,[_]),(4,[_]),(6,[_]),(7,[_]),(8,[_])]) rfl uZ Hx ⟨⟨rfl,(Vo rfl)⟩,⟨⟨rfl,(Vo rfl)⟩,⟨⟨rfl,(Vo rfl)⟩,⟨⟨rfl,(Vo rfl)⟩,⟨⟨rfl,(Vo rfl)⟩,⟨⟨rfl,⟨_,rfl,Pr.le_trans (B4 _ _) (Ag _)⟩⟩,⟨⟨rfl,⟨_,rfl,Pr.le_trans (B4 _ _) (Ag _)⟩⟩,⟨⟨rfl,(Vo rfl)⟩,trivial⟩⟩⟩⟩⟩⟩⟩⟩ rfl) (Cx.ef 0 rfl rfl AB (Bx rfl rfl AB rfl z40 Hx) (Cx.DP 0 rfl rfl (CZ rfl rfl rfl rfl (Va rfl) CS rfl rfl) ?_))))
 refine Cx.nil ⟨by kernel_rfl,?_⟩
 refine Aw.open_ 0 7 rfl rfl (fun v1=> ?_)
 refine Aw.done fI (Fin.LR 7 0 _ rfl rfl (fun _=>rfl) (fun b3=> ?_))
 refine Fin.go (wk [18,17,16,7,6,5,4,3,2,0] rfl (Tr.seq (Tr.seq (Tr.G9 0 [str nm,int 1,int (s2.of [3,3,4]),ints (MT (s2.Ci.val 3)),bool (s2.Ci.Ci.val 2==2-1),is (.slice none 0 0),ints [1],ints [2,3],bool (s2.Ci.Ci.Ci.val 3==3-1)] rfl ⟨Lr,Lr,Lr,Lr,Lr,Lr,Lr,Lr,Lr,trivial⟩ ?_))))
 refine ac ?_
 refine Tr.cn rfl ?_ ?_<;>intro h2 q2
 refine ap ?_
 refine TO.pad ?_
 refine TO.Df 0 rfl rfl AB (B9 rfl rfl rfl rfl underlying22 Bi G_ z3 Db vq (Bs BK vq)) (fun v2=> ?_)
 refine ap ?_
 refine wk [18,17,16,7,6,5,4,3,2,0] rfl ?_
 refine ap ?_
 refine tp rfl (kc0 (y7) rfl) ?_
 refine ap ?_
 refine tp rfl (kc5 (aO (name:=nm) (a:=5) (b:=2048) (id:=100+(k:Nat)) (to:=901) (key:=1) (WL Od AA AA) (UQ AA) AA) rfl rfl rfl rfl rfl rfl) ?_
 refine TO.ex 54 rfl (fun l9=>TO.fact 54 rfl fun AAr=> ?_)
 refine ap ?_
 refine wk8 0 2 3 4 7 16 17 18 rfl (Tr.BE (tp rfl (Aq rfl Rj (vl rfl)) (TO.rd 3 rfl rfl rfl AB (BT rfl eo (vl rfl) rfl) (TO.rd 1 rfl rfl rfl AB (EL rfl DC CS (vl rfl) rfl rfl) (tp rfl (Af (xs:=[.tmp 59]) (rows:=[BQ (⟨nm,1,s2.of [3,3,4],14::MT (s2.Ci.val 3),(s2.Ci.Ci.val 2==2-1),[IM nm 5 2048 (100+(k:Nat)) 901 1 l9],[1],[2,3],(s2.Ci.Ci.Ci.val 3==3-1)⟩:Bw)]) rfl rfl underlying27 CS z40 rfl AB ⟨⟨An,VL.le (vl rfl) (Pr.le_trans (BR (qs:=BQ (⟨nm,1,s2.of [3,3,4],14::MT (s2.Ci.val 3),(s2.Ci.Ci.val 2==2-1),[IM nm 5 2048 (100+(k:Nat)) 901 1 l9],[1],[2,3],(s2.Ci.Ci.Ci.val 3==3-1)⟩:Bw)) ⟨Lr,Lr,Lr,Pr.le_trans (Ao _ _) (Pr.le_of_eq rfl),Lr,B4 _ _,Lr,Lr,Lr,trivial⟩) (AY _))⟩,trivial⟩ AB) ?_)))))
 refine TO.Df 2 rfl rfl AB (B9 rfl rfl rfl rfl underlying27 CS zk z40 (Kb rfl) (Kf rfl) (Ay BK (Ka rfl))) (fun v3=> ?_)
 refine ap ?_
 refine Tr.drop 1 (wk [18,17,16,4,3,2,0] rfl ?_)
 refine ac ?_
 refine Fin.G9 2 [AV v3 (slice 9 ((es++[(⟨nm,1,s2.of [3,3,4],14::MT (s2.Ci.val 3),(s2.Ci.Ci.val 2==2-1),[IM nm 5 2048 (100+(k:Nat)) 901 1 l9],[1],[2,3],(s2.Ci.Ci.Ci.val 3==3-1)⟩:Bw)]).map BQ)),is (.slice none 0 0),is (.slice none 0 0)] rfl ⟨BB Dm,Lr,Lr,trivial⟩ ?_
 refine Fin.drop 0 ?_
 exact Fin.EZ (k+1) (es++[(⟨nm,1,s2.of [3,3,4],14::MT (s2.Ci.val 3),(s2.Ci.Ci.val 2==2-1),[IM nm 5 2048 (100+(k:Nat)) 901 1 l9],[1],[2,3],(s2.Ci.Ci.Ci.val 3==3-1)⟩:Bw)]) (_) v3 (⟨⟨by omega,by rw [List.length_append,hk2];rfl,X_ hk3 ⟨by rw [hk2];exact Od,rfl,hof,.inr ⟨_,X9 hvs,rfl⟩,⟨l9,AAr,by rw [hk2]⟩,rfl,rfl⟩⟩,by omega⟩) ⟨⟨_,rfl,AG k⟩,kz⟩ (fun _ _ h=>h)
 refine ac ?_
 refine ap ?_
 refine tp rfl (kc0 (y7) rfl) ?_
 refine ap ?_
 refine tp rfl (kc5 (aO (name:=nm) (a:=5) (b:=2048) (id:=100+(k:Nat)) (to:=901) (key:=1) (WL Od AA AA) (UQ AA) AA) rfl rfl rfl rfl rfl rfl) ?_
 refine TO.ex 54 rfl (fun l9=>TO.fact 54 rfl fun AAr=> ?_)
 refine ap ?_
 refine wk8 0 2 3 4 7 16 17 18 rfl (Tr.BE (tp rfl (Aq rfl Rj (vl rfl)) (TO.rd 2 rfl rfl rfl AB (BT rfl eo (vl rfl) rfl) (TO.rd 0 rfl rfl rfl AB (EL rfl DC CS (vl rfl) rfl rfl) (tp rfl (Af (xs:=[.tmp 59]) (rows:=[BQ (⟨nm,1,s2.of [3,3,4],MT (s2.Ci.val 3),(s2.Ci.Ci.val 2==2-1),[IM nm 5 2048 (100+(k:Nat)) 901 1 l9],[1],[2,3],(s2.Ci.Ci.Ci.val 3==3-1)⟩:Bw)]) rfl rfl underlying27 CS z40 rfl AB ⟨⟨An,VL.le (vl rfl) (Pr.le_trans (BR (qs:=BQ (⟨nm,1,s2.of [3,3,4],MT (s2.Ci.val 3),(s2.Ci.Ci.val 2==2-1),[IM nm 5 2048 (100+(k:Nat)) 901 1 l9],[1],[2,3],(s2.Ci.Ci.Ci.val 3==3-1)⟩:Bw)) ⟨Lr,Lr,Lr,Lr,Lr,B4 _ _,Lr,Lr,Lr,trivial⟩) (AY _))⟩,trivial⟩ AB) ?_)))))
 refine TO.Df 1 rfl rfl AB (B9 rfl rfl rfl rfl underlying27 CS zk z40 (Kb rfl) (Kf rfl) (Ay BK (Ka rfl))) (fun v4=> ?_)
 refine ap ?_
 refine Tr.drop 0 (wk [18,17,16,4,3,2,0] rfl ?_)
 refine ac ?_
 refine Fin.G9 1 [AV v4 (slice 9 ((es++[(⟨nm,1,s2.of [3,3,4],MT (s2.Ci.val 3),(s2.Ci.Ci.val 2==2-1),[IM nm 5 2048 (100+(k:Nat)) 901 1 l9],[1],[2,3],(s2.Ci.Ci.Ci.val 3==3-1)⟩:Bw)]).map BQ)),is (.slice none 0 0),is (.slice none 0 0)] rfl ⟨BB Dm,Lr,Lr,trivial⟩ ?_
 exact Fin.EZ (k+1) (es++[(⟨nm,1,s2.of [3,3,4],MT (s2.Ci.val 3),(s2.Ci.Ci.val 2==2-1),[IM nm 5 2048 (100+(k:Nat)) 901 1 l9],[1],[2,3],(s2.Ci.Ci.Ci.val 3==3-1)⟩:Bw)]) (_) v4 (⟨⟨by omega,by rw [List.length_append,hk2];rfl,X_ hk3 ⟨by rw [hk2];exact Od,rfl,hof,.inl (X9 hvs),⟨l9,AAr,by rw [hk2]⟩,rfl,rfl⟩⟩,by omega⟩) ⟨⟨_,rfl,AG k⟩,kz⟩ (fun _ _ h=>h)
 have cz:k=(2+s.val 2).toNat:=by have:=EW.E9 h1;rw [Z9] at this;omega
 refine ac ?_
 refine Tr.seq (Tr.seq (Tr.G9 1 [slice 9 (es.map BQ),is (.slice none 0 0),is (.slice none 0 0)] rfl ⟨Ao _ _,Lr,Lr,trivial⟩ (Tr.drop 0 ?_)))
 refine ac ?_
 refine co rfl (Cq rfl underlying127 vq) ?_
 refine ac ?_
 refine Tr.block ?_
 refine Tr.re 65 rfl (int_eq (by simp;rfl):Pr.le _ (int (((F9.take (2+s.val 2).toNat).length:Nat):Int))) ?_
 refine Tr.G9 0 [slice 9 (es.map BQ),AV (.slice none 0 0) (I4 []),is (.slice none 0 0)] rfl ⟨Lr,Bg rfl,Lr,trivial⟩ (Tr.B5 132 2 (Tr.F4 _ (kk [65,4,3,2,0] rfl) (fun (i:Nat) (gs:List JI) (s3:DS) w=>[(66,int ((i:Nat):Int))]) (fun (i:Nat) (gs:List JI) (s3:DS) w=>Hp M0 w0 S (As 132 2 w::AF true b2 31 [slice 9 (es.map BQ),AV w (I4 gs),is (.slice none 0 0)]::AF true b1 31 (([.slice none 0 0,.slice none 0 0,.slice none 0 0]:List Value).map is)::DT b s3::Ai M1 w1::rs)) (fun (i:Nat) (gs:List JI) (s3:DS)=>i≤(2+s.val 2).toNat∧gs.length≤3∧aY (2+s.val 2).toNat i 0 gs) (fun (i:Nat) (gs:List JI) (s3:DS)=>(2+s.val 2).toNat-i) (0) ([]) (_) (.slice none 0 0) (⟨by omega,by simp,aY.nil _ _ _⟩) kz (fun _ _ h=>h) ?_))
 rintro i gs s3 w ⟨hi1,hi2,hi3⟩
 refine ac ?_
 refine Tr.seq ?_
 refine Tr.cn rfl ?_ ?_<;>intro h3 q3
 have hin:i<(2+s.val 2).toNat:=by have:=EW.E9 h3;rw [Z9] at this;omega
 refine ac ?_
 refine ac ?_
 refine ac ?_
 refine co rfl (Cq rfl underlying127 vq) ?_
 refine ac ?_
 refine Tr.block ?_
 refine Tr.re 70 rfl (int_eq (by simp;rfl):Pr.le _ (int (((F9.take (2+s.val 2).toNat).length:Nat):Int))) ?_
 refine Tr.F4 _ (kk [70,66,65,8,4,3,2,0] rfl) (fun (j:Nat) (jq:List JI) (s4:DS) u=>[(71,int ((j:Nat):Int))]) (fun (j:Nat) (jq:List JI) (s4:DS) u=>Hp M0 w0 S (As 132 2 u::AF true b2 31 [slice 9 (es.map BQ),AV u (I4 jq),is (.slice none 0 0)]::AF true b1 31 (([.slice none 0 0,.slice none 0 0,.slice none 0 0]:List Value).map is)::DT b s4::Ai M1 w1::rs)) (fun (j:Nat) (jq:List JI) (s4:DS)=>j≤(2+s.val 2).toNat∧jq.length≤3∧aY (2+s.val 2).toNat i j jq) (fun (j:Nat) (jq:List JI) (s4:DS)=>(2+s.val 2).toNat-j) (0) (gs) (_) w (⟨by omega,hi2,hi3⟩) kz (fun _ _ h=>h) ?_
 rintro j jq s4 u ⟨hj1,hj2,hj3⟩
 refine ac ?_
 refine Tr.seq ?_
 refine Tr.cn rfl ?_ ?_<;>intro h4 q4
 have hjn:j<(2+s.val 2).toNat:=by have:=EW.E9 h4;rw [Z9] at this;omega
 refine ac ?_
 refine ac ?_
 refine ap ?_
 refine TO.cases 77 rfl (fun h5=> ?_) (fun h5=> ?_)
 have q5:=EW.E9 h5
 refine TO.IG rfl rfl rfl h5 rfl AB (Cs rfl (vl rfl)) (TO.ot 3 rfl rfl rfl h5 rfl rfl AB (Ae rfl rfl AB rfl (CI AA AA) ⟨ke rfl,ke rfl,trivial⟩) (TO.IG rfl rfl rfl h5 rfl AB (ki rfl rfl rfl rfl) ?_))
 refine ap ?_
 refine TO.cases 82 rfl (fun h6=> ?_) (fun h6=> ?_)
 have q6:=EW.E9 h6
 refine TO.IG rfl rfl rfl h6 rfl AB (Aq rfl nW vq) (TO.IG rfl rfl rfl h6 rfl AB (CC 1 rfl (BT rfl yW vq rfl)) (TO.IG rfl rfl rfl h6 rfl AB (FP rfl underlying28 Ea) (TO.IG rfl rfl rfl h6 rfl AB Vl ?_)))
 refine ap ?_
 refine wk [87,71,70,66,65,9,8,4,3,2,0] rfl ?_
 refine Tr.cn rfl ?_ ?_<;>intro h7 q7
 refine ap ?_
 refine TO.Df 0 rfl rfl AB (B9 rfl rfl rfl rfl underlying28 Fe ya jE Ea Db (Ay BK FC)) (fun v5=> ?_)
 refine ap ?_
 refine wk [71,70,66,65,8,4,3,2,0] rfl ?_
 refine ac ?_
 refine Fin.G9 1 [slice 9 (es.map BQ),AV v5 (I4 (jq++[(⟨((i:Nat):Int),((j:Nat):Int)⟩:JI)])),is (.slice none 0 0)] rfl ⟨Lr,BB Dm,Lr,trivial⟩ ?_
 exact Fin.EZ (j+1) (jq++[(⟨((i:Nat):Int),((j:Nat):Int)⟩:JI)]) (_) v5 (⟨⟨by omega,by simp;omega,hj3.snoc ⟨by omega,by omega⟩ ⟨by omega,by omega⟩ AA⟩,by omega⟩) ⟨⟨_,rfl,AG j⟩,kz⟩ (fun _ _ h=>h)
 refine ac ?_
 refine ac ?_
 exact Fin.EZ (j+1) (jq) (_) u (⟨⟨by omega,hj2,hj3.step⟩,by omega⟩) ⟨⟨_,rfl,AG j⟩,kz⟩ (fun _ _ h=>h)
 have q6:=EW.E9 h6
 iterate 4 refine TO.Tg rfl rfl rfl (Bc h6) rfl AB ?_
 refine ap ?_
 refine wk [87,71,70,66,65,9,8,4,3,2,0] rfl ?_
 refine ac ?_
 refine ac ?_
 exact Fin.EZ (j+1) (jq) (_) u (⟨⟨by omega,hj2,hj3.step⟩,by omega⟩) ⟨⟨_,rfl,AG j⟩,kz⟩ (fun _ _ h=>h)
 have q5:=EW.E9 h5
 refine TO.Tg rfl rfl rfl (Bc h5) rfl AB (TO.Tg rfl rfl rfl (Bc h5) rfl AB (TO.Tg rfl rfl rfl (Bc h5) rfl AB ?_))
 refine ap ?_
 iterate 4 refine TO.Tg rfl rfl rfl (Bc rfl) rfl AB ?_
 refine ap ?_
 refine wk [87,71,70,66,65,9,8,4,3,2,0] rfl ?_
 refine ac ?_
 refine ac ?_
 exact Fin.EZ (j+1) (jq) (_) u (⟨⟨by omega,hj2,hj3.step⟩,by omega⟩) ⟨⟨_,rfl,AG j⟩,kz⟩ (fun _ _ h=>h)
 have hje:j=(2+s.val 2).toNat:=by have:=EW.E9 h4;rw [Z9] at this;omega
 refine ac ?_
 refine ac ?_
 exact Fin.EZ (i+1) (jq) (_) u (⟨⟨by omega,hj2,hj3.row⟩,by omega⟩) ⟨⟨_,rfl,AG i⟩,kz⟩ (fun _ _ h=>h)
 have hie:i=(2+s.val 2).toNat:=by have:=EW.E9 h3;rw [Z9] at this;omega
 refine ac ?_
 refine ac ?_
 refine co rfl (FP rfl underlying28 Ea) ?_
 refine ac ?_
 refine Tr.cn rfl ?_ ?_<;>intro h8 q8
 refine ap ?_
 refine wk [3,2,0] rfl (Tr.seq (Tr.seq ?_))
 have hv9:=s3.DK (n:=3) AA
 obtain ⟨l5,hge,ACq,ACr,ACs⟩:∃l:List JI,l=[⟨0,1⟩]∧(∀k,k<l.length→Ez (2+s.val 2).toNat l k=true)∧1≤l.length∧l.length≤3:=⟨_,rfl,((aY.nil (2+s.val 2).toNat 0 1).snoc ⟨by omega,by omega⟩ ⟨by omega,by omega⟩ AA).at_,by simp,by simp⟩
 refine Tr.G9 1 [slice 9 (es.map BQ),I4 l5,is (.slice none 0 0)] rfl ⟨Lr,Pr.le_trans (B4 _ _) (Pr.le_of_eq (by rw [hge];rfl)),Lr,trivial⟩ ?_
 refine Tr.drop 0 ?_
 refine ap ?_
 refine TO.F0 2 rfl rfl AB (Ae rfl rfl AB rfl (CI AA AA) ⟨ke rfl,ke rfl,trivial⟩) ?_
 refine ap ?_
 refine Tr.block (Tr.G9 0 [slice 9 (es.map BQ),I4 l5,AV (.slice none 0 0) (SE [])] rfl ⟨Lr,Lr,Bg rfl,trivial⟩ (Tr.B5 135 5 ?_))
 refine Tr.F4 [(0,_),(2,_),(3,_)] ⟨ke rfl,ke rfl,ke rfl,trivial⟩ (fun (q:Int) (its:List WO) (s5:DS) x=>[(10,int q)]) (fun (q:Int) (its:List WO) (s5:DS) x=>Hp M0 w0 S (As 135 5 x::AF true b2 31 [slice 9 (es.map BQ),I4 l5,AV x (SE its)]::AF true b1 31 (([.slice none 0 0,.slice none 0 0,.slice none 0 0]:List Value).map is)::DT b s5::Ai M1 w1::rs)) (fun (q:Int) (its:List WO) (s5:DS)=>0≤q∧q+its.length≤2∧∀x∈its,aW x) (fun (q:Int) (its:List WO) (s5:DS)=>q.toNat) (_) ([]) (_) (.slice none 0 0) (⟨by omega,by simp;omega,fun x h=>by simp at h⟩) ⟨ke rfl,trivial⟩ (fun _ _ h=>h) ?_
 rintro q its s5 x ⟨hq1,ig,hqi⟩
 refine ac ?_
 refine Tr.cn rfl ?_ ?_<;>intro h9 q9
 have hq3:0<q:=of_decide_eq_true h9
 refine ac ?_
 refine Tr.seq (Tr.block (Tr.pad (Tr.rx ?_)))
 refine ax ?_
 refine xo rfl (fun _=>oI) ?_
 refine Cx.ef 4 rfl rfl AB (Ae rfl rfl AB rfl (X8 (l:=[[98,97,99,107,117,112],[100,101,101,100]]) AO AO) ⟨kq,Db,trivial⟩) ?_
 refine Cx.ef 4 rfl rfl AB (Ae rfl rfl AB rfl (fm) ⟨ke rfl,ke rfl,trivial⟩) (xo rfl (fun _=>Af (xs:=[.tmp 117]) (rows:=[_]) rfl rfl underlying29 IE Vx rfl AB ⟨⟨An,(Va rfl)⟩,trivial⟩ AB) ?_)
 refine Cx.ef 1 rfl rfl AB (B9 rfl rfl rfl rfl underlying29 IE n7 Vx Ea Db (Ay BK FC)) ?_
 refine xo rfl (fun _=>Aq rfl Vs vq) (Cx.DP 2 rfl rfl (Fc rfl rfl rfl vq rfl zh Am) ?_)
 refine Cx.nil ⟨by kernel_rfl,?_⟩
 refine Aw.PF 1 2 119 rfl rfl AB rfl (fun v6=> ?_)
 refine Aw.done fI ?_
 refine ac ?_
 refine Tr.drop 0 (wk [10,3,2,0] rfl ?_)
 refine ac ?_
 refine Fin.G9 1 [slice 9 (es.map BQ),I4 l5,AV v6 (SE (its++[(UU s5.Ci (Kq s5 [MZ,aZ]))]))] rfl ⟨Lr,Lr,BB Dm,trivial⟩ ?_
 exact Fin.EZ (q-1) (its++[(UU s5.Ci (Kq s5 [MZ,aZ]))]) (_) v6 (⟨⟨by omega,by simp;omega,YF hqi (fk (fq s5))⟩,by omega⟩) ⟨⟨_,rfl,int_eq AA⟩,kz⟩ (fun _ _ h=>h)
 have hq3:¬0<q:=of_decide_eq_false h9
 refine ac ?_
 refine ap ?_
 refine Tr.ret (Fin.HX 3 _ rfl rfl (Fin.Gn [_,_,_] rfl (AL.cell 2 rfl rfl Gp F5 rfl Lr) ?_ (fun _ _ _ _=>rfl)))
 · exact mR
 refine ac ?_
 refine Tr.seq (Tr.seq ?_)
 have hv9:=s3.DK (n:=3) AA
 obtain ⟨l5,hge,ACq,ACr,ACs⟩:∃l:List JI,l=gs∧(∀k,k<l.length→Ez (2+s.val 2).toNat l k=true)∧1≤l.length∧l.length≤3:=⟨_,rfl,hi3.at_,by have h_:=h8;simp at h_;exact List.length_pos_iff.2 h_,hi2⟩
 refine Tr.G9 1 [slice 9 (es.map BQ),I4 l5,is (.slice none 0 0)] rfl ⟨Lr,Pr.le_trans (Ao _ _) (Pr.le_of_eq (by rw [hge])),Lr,trivial⟩ (Tr.drop 0 ?_)
 refine ap ?_
 refine TO.F0 2 rfl rfl AB (Ae rfl rfl AB rfl (CI AA AA) ⟨ke rfl,ke rfl,trivial⟩) ?_
 refine ap ?_
 refine wk [10,3,2,0] rfl (Tr.block (Tr.G9 0 [slice 9 (es.map BQ),I4 l5,AV (.slice none 0 0) (SE [])] rfl ⟨Lr,Lr,Bg rfl,trivial⟩ (Tr.B5 135 5 ?_)))
 refine Tr.F4 [(0,_),(2,_),(3,_)] ⟨ke rfl,ke rfl,ke rfl,trivial⟩ (fun (q:Int) (its:List WO) (s5:DS) x=>[(10,int q)]) (fun (q:Int) (its:List WO) (s5:DS) x=>Hp M0 w0 S (As 135 5 x::AF true b2 31 [slice 9 (es.map BQ),I4 l5,AV x (SE its)]::AF true b1 31 (([.slice none 0 0,.slice none 0 0,.slice none 0 0]:List Value).map is)::DT b s5::Ai M1 w1::rs)) (fun (q:Int) (its:List WO) (s5:DS)=>0≤q∧q+its.length≤2∧∀x∈its,aW x) (fun (q:Int) (its:List WO) (s5:DS)=>q.toNat) (_) ([]) (_) (.slice none 0 0) (⟨by omega,by simp;omega,fun x h=>by simp at h⟩) ⟨ke rfl,trivial⟩ (fun _ _ h=>h) ?_
 rintro q its s5 x ⟨hq1,ig,hqi⟩
 refine ac ?_
 refine Tr.cn rfl ?_ ?_<;>intro h10 R9
 have hq3:0<q:=of_decide_eq_true h10
 refine ac ?_
 refine Tr.seq (Tr.block (Tr.pad (Tr.rx ?_)))
 refine ax ?_
 refine xo rfl (fun _=>oI) ?_
 refine Cx.ef 4 rfl rfl AB (Ae rfl rfl AB rfl (X8 (l:=[[98,97,99,107,117,112],[100,101,101,100]]) AO AO) ⟨kq,Db,trivial⟩) ?_
 refine Cx.ef 4 rfl rfl AB (Ae rfl rfl AB rfl (fm) ⟨ke rfl,ke rfl,trivial⟩) (xo rfl (fun _=>Af (xs:=[.tmp 117]) (rows:=[_]) rfl rfl underlying29 IE Vx rfl AB ⟨⟨An,(Va rfl)⟩,trivial⟩ AB) ?_)
 refine Cx.ef 1 rfl rfl AB (B9 rfl rfl rfl rfl underlying29 IE n7 Vx Ea Db (Ay BK FC)) ?_
 refine xo rfl (fun _=>Aq rfl Vs vq) (Cx.DP 2 rfl rfl (Fc rfl rfl rfl vq rfl zh Am) ?_)
 refine Cx.nil ⟨by kernel_rfl,?_⟩
 refine Aw.PF 1 2 119 rfl rfl AB rfl (fun v7=> ?_)
 refine Aw.done fI ?_
 refine ac ?_
 refine Tr.drop 0 (wk [10,3,2,0] rfl ?_)
 refine ac ?_
 refine Fin.G9 1 [slice 9 (es.map BQ),I4 l5,AV v7 (SE (its++[(UU s5.Ci (Kq s5 [MZ,aZ]))]))] rfl ⟨Lr,Lr,BB Dm,trivial⟩ ?_
 exact Fin.EZ (q-1) (its++[(UU s5.Ci (Kq s5 [MZ,aZ]))]) (_) v7 (⟨⟨by omega,by simp;omega,YF hqi (fk (fq s5))⟩,by omega⟩) ⟨⟨_,rfl,int_eq AA⟩,kz⟩ (fun _ _ h=>h)
 have hq3:¬0<q:=of_decide_eq_false h10
 refine ac ?_
 refine ap ?_
 refine Tr.ret (Fin.HX 3 _ rfl rfl (Fin.Gn [_,_,_] rfl (AL.cell 2 rfl rfl Gp F5 rfl Lr) ?_ (fun _ _ _ _=>rfl)))
 · exact mR
end Go.Proofs.YtmocaapoeefgkaaGreatDoor
namespace Cp
open Go Go.RowKit
variable {ops:Array Oper} {rows:List (List Pr)} {rs:List At} {zs:List Value} {b:Nat} {o:Oper} {p q:Pr} {P:Program} {T e t:TypeId} {w0:World}
theorem Jh {E:Env} {I:C1} {y:Operand} {sz bytes:Nat} (ho:o.op= .call { callee:= .builtin .append,args:= #[.const (.slice none 0 0),y],argTypes:= #[t,t] }) (ht:P.underlying t=some (.slice e)) (hz:A9 P e=some sz) (hby:B1 P e=some bytes) (Ev:BZ P e=some zs) (hzl:zs.length=sz) (hsz:0<sz) (hy:VL E y (slice sz rows)) (HF:rows.length≤maxLen) (hfit:rows.length*bytes≤140737488355328):Ac P I o E (slice sz rows):=
 Ac.val fun M w a he hI=>by
  have h0:=(A7.begin (I.bd _ _ hI)).Im (r:=Bf) rfl trivial
  obtain ⟨v',w',M',h1,h2,h3,h4⟩:=XV (ty:=o.type) (j:=0) (v:= .slice none 0 0) (rows:=[]) ht hz hby Ev hzl hsz h0 rfl (.inr ⟨rfl,rfl⟩) (AP sz M w _ rfl) (hy.ev he DG) QE QD
  have h5:a.eval (.const (.slice none 0 0))= .slice none 0 0:=rfl
  exact ⟨v',w',by simp [execOp,ho,resolve,invoke,builtin,h1,h5],(slice sz rows).st _ _ _ _ _ (Ext.less h4.m) LN,h4.below⟩
theorem TO.UD {n:Fm} {E:Env} {M0:Av} {S:Nat→Prop} {r:List Oper} {Q:Exit→Act→World→Prop} (i:Nat) (hi:rs[i]? =some (JY T b)) (k:∀s,TO P n ops r E (Hp M0 w0 S (rs.set i (Xc T b s))) Q):TO P n ops r E (Hp M0 w0 S rs) Q:=by
 rintro m hl a w ⟨M,h1,h2,h3,h4⟩
 have h4:A7 M0 w0 S rs M w:=h4
 obtain ⟨x,hx,hh⟩:=(h4.hold _ (List.mem_of_getElem? hi)).1
 exact k x m hl a w ⟨M,h1,h2,h3,h4.Ce hi rfl rfl hh⟩
theorem Ac.LR {E:Env} {I:C1} (s:Nat) {α:Type} {f:α→Pr} (hs:E.lookup s=some (Cp.ex f)) (hm:s∈looks o) (h:∀x,Ac P I o ((s,f x)::E) p):Ac P I o E p:=by
 intro M w a he hI
 obtain ⟨x,hx⟩:=he s _ hm hs
 refine h x M w a (fun t q ht hq=> ?_) hI
 simp only [List.lookup] at hq
 by_cases hts:t=s
 · subst hts;simp at hq;subst hq;exact hx
 · exact VJ
theorem Ac.opf {E:Env} {I:C1} {φ:Prop} (s:Nat) (hs:E.lookup s=some (Cp.fact φ q)) (hm:s∈looks o) (h:φ→Ac P I o ((s,q)::E) p):Ac P I o E p:=by
 intro M w a he hI
 obtain ⟨hφ,hx⟩:=he s _ hm hs
 refine h hφ M w a (fun t r ht hr=> ?_) hI
 simp only [List.lookup] at hr
 by_cases hts:t=s
 · subst hts;simp at hr;subst hr;exact hx
 · rw [show (t==s)=false by simpa using hts] at hr;exact he t r ht hr
end Cp
namespace Cp
open Go Go.RowKit Go.Great
variable {M:Av} {rows:List (List Pr)} {i j:Nat} {e:TypeId} {v:Value}
section
variable {P:Program} {L:Lg P} {n:Fm} {fz:Nat} {E:Env} {M0:Av} {w0:World} {S:Nat→Prop} {rs:List At}
theorem A7.YG {r r':At} {w:World} (h:A7 M0 w0 S rs M w) (hi:rs[i]? =some r) (hb:∀b,r'.blk=some b→r.blk=some b) (hn:r'.new=r.new) (hh:r'.h M w):A7 M0 w0 S (rs.set i r') M w:=by
 have Gm:i<rs.length:=by rcases Nat.lt_or_ge i rs.length with h|h;exact h;rw [List.getElem?_eq_none h] at hi;cases hi
 have h1:=A7.perm (CH hi) h
 refine A7.perm (KY Gm) ⟨h1.m0,h1.m,h1.os,h1.tape,h1.output,h1.size,h1.block,h1.bd,fun q hq=> ?_,?_⟩
 ·
  rcases List.mem_cons.1 hq with rfl|hq
  · exact ⟨hh,fun b hbk=>by rw [hn];exact (h1.hold r AO).2 b (hb b hbk)⟩
  · exact h1.hold q (by simp [hq])
 ·
  obtain ⟨h2,h3⟩:=List.pairwise_cons.1 h1.nd
  exact List.Pairwise.cons (fun q hq b hbk=>h2 q hq b (hb b hbk)) h3
theorem A7.SF {sz:Nat} {w:World} (h:A7 M0 w0 S rs M w) (hj:rs[j]? =some (BG e sz rows v)):A7 M0 w0 S (rs.set j (Ba e sz rows v)) M w:=by
 rcases (h.hold _ (List.mem_of_getElem? hj)).1 with ⟨h1,h2⟩|⟨b,cap,sp,h1,h2,h3,h4,h5⟩
 ·
  subst h2
  exact h.YG hj (fun b hb=>by cases hb) rfl (.inl ⟨h1,_,rfl⟩)
 ·
  subst h1
  cases cap with
  |zero=>
   have hr:rows=[]:=List.eq_nil_of_length_eq_zero AA
   subst hr
   exact h.YG hj (fun b hb=>by cases hb) rfl (.inl ⟨rfl,_,rfl⟩)
  |succ c=>exact h.YG hj (fun b hb=>hb) rfl (.inr ⟨b,c,sp,rfl,h2,h3,h4,h5⟩)
theorem Fin.SF {Q:Exit→Act→World→Prop} {x:Exit} {sz:Nat} (j:Nat) (hj:rs[j]? =some (BG e sz rows v)) (k:Fin n E (Hp M0 w0 S (rs.set j (Ba e sz rows v))) Q x):Fin n E (Hp M0 w0 S rs) Q x:=
 Fin.conv (fun a w hs=>by
  obtain ⟨M,h1,h2,h3,h4⟩:=hs
  have h4:A7 M0 w0 S rs M w:=h4
  exact ⟨M,h1,h2,h3,h4.SF hj⟩) k
theorem Tr.SF {Q:Exit→Act→World→Prop} {c:Code} {sz:Nat} (j:Nat) (hj:rs[j]? =some (BG e sz rows v)) (k:Tr L n E (Hp M0 w0 S (rs.set j (Ba e sz rows v))) c Q):Tr L n E (Hp M0 w0 S rs) c Q:=
 Tr.conv (fun _ _ ⟨M,h1,h2,h3,h4⟩=>⟨M,h1,h2,h3,A7.SF h4 hj⟩) k
end
end Cp
namespace Go.Proofs.YtmocaapoeefgkaaGreatDoor
open Go Go.RowKit Cp Go.Proofs.Tryz
variable {l:List Bm} {s:List Int} {i k m n:Nat}
structure Bw.sz (e:Bw) (n:Nat):Prop where
 name:e.name.length≤maxLen
 A_:e.A_.length≤n
 anchors:e.anchors.length≤n
 hashes:e.hashes.length≤n
 Ze:e.ids.length≤n
 ids:∀x∈e.ids,x.fits∧x.small
theorem Bw.sz.fits {e:Bw} (h:e.sz n):e.fits:=⟨h.name,fun x hx=>(h.ids x hx).1⟩
theorem Bw.sz.small {e:Bw} (h:e.sz n) (hn:n≤1000000):e.small:=⟨by have:=h.A_;omega,by have:=h.anchors;omega,by have:=h.hashes;omega,by have:=h.Ze;omega,fun x hx=>(h.ids x hx).2⟩
theorem Bw.sz.le {e:Bw} (h:e.sz n) (hn:n≤m):e.sz m:=⟨h.name,Nat.le_trans h.A_ hn,Nat.le_trans h.anchors hn,Nat.le_trans h.hashes hn,Nat.le_trans h.Ze hn,h.ids⟩
theorem wO {e:Bw} (h:aP i e):e.sz 5:=by
 have hs:=WM _ (Kr h)
 have h1:=UR h;have h2:=SD h
 obtain ⟨s,hs1,V9⟩:=h.ids
 exact ⟨h1.name,hs.2,by rw [h.anchors];simp,by rw [h.hashes];simp,by rw [V9];simp,fun x hx=>⟨h1.ids x hx,h2.ids x hx⟩⟩
theorem Qf {α:Type} {l:List α} {a:α}:(l.take i++[a]++l.drop i).length≤l.length+1:=by simp [List.length_take,List.length_drop];omega
theorem Qg {α:Type} {l:List α}:(l.eraseIdx i).length≤l.length:=by rw [List.length_eraseIdx];split<;>omega
theorem Hh:B6.fits∧B6.small:=⟨qC,jY⟩
theorem wP {P:Hw→Prop} {l:List Hw} {x:Hw} (h:∀y∈l,P y) (hx:P x):∀y∈l.take i++[x]++l.drop i,P y:=by grind
theorem fu {e:Bw} {c:Bm} {x:Bw} {b:Bm} (hc:KC c) (h:CJ e c= .ok (x,b)) (hs:e.sz n) (hi:c.Cb.fits∧c.Cb.small):x.sz (n+1)∧b.Cb.fits∧b.Cb.small:=by
 have h1:=hs.A_;have h2:=hs.anchors;have h3:=hs.hashes;have h4:=hs.Ze
 rcases fY hc.1 with hk|hk|hk|hk|hk|hk|hk|hk|hk|hk|hk|hk
 · rw [QV hk] at h;(repeat' (split at h))<;>first|(cases h;done)|(injection h with h;obtain ⟨rfl,rfl⟩:=Prod.mk.inj h;exact ⟨⟨hs.name,Nat.le_trans Qf AA,Nat.le_trans h2 AA,Nat.le_trans h3 AA,Nat.le_trans h4 AA,hs.ids⟩,Hh⟩)
 · rw [QW hk] at h;(repeat' (split at h))<;>first|(cases h;done)|(injection h with h;obtain ⟨rfl,rfl⟩:=Prod.mk.inj h;exact ⟨⟨hs.name,Nat.le_trans Qg AA,Nat.le_trans h2 AA,Nat.le_trans h3 AA,Nat.le_trans h4 AA,hs.ids⟩,Hh⟩)
 · rw [QX hk] at h;(repeat' (split at h))<;>first|(cases h;done)|(injection h with h;obtain ⟨rfl,rfl⟩:=Prod.mk.inj h;exact ⟨⟨hs.name,Nat.le_trans h1 AA,Nat.le_trans h2 AA,Nat.le_trans h3 AA,Nat.le_trans h4 AA,hs.ids⟩,Hh⟩)
 · rw [QY hk] at h;(repeat' (split at h))<;>first|(cases h;done)|(injection h with h;obtain ⟨rfl,rfl⟩:=Prod.mk.inj h;exact ⟨⟨hs.name,Nat.le_trans h1 AA,Nat.le_trans h2 AA,Nat.le_trans h3 AA,Nat.le_trans h4 AA,hs.ids⟩,Hh⟩)
 · rw [QZ hk] at h;(repeat' (split at h))<;>first|(cases h;done)|(injection h with h;obtain ⟨rfl,rfl⟩:=Prod.mk.inj h;exact ⟨⟨hs.name,Nat.le_trans h1 AA,Nat.le_trans h2 AA,Nat.le_trans h3 AA,Nat.le_trans Qf AA,wP hs.ids hi⟩,Hh⟩)
 · rw [Qa hk] at h;(repeat' (split at h))<;>first|(cases h;done)|(injection h with h;obtain ⟨rfl,rfl⟩:=Prod.mk.inj h;exact ⟨⟨hs.name,Nat.le_trans h1 AA,Nat.le_trans h2 AA,Nat.le_trans h3 AA,Nat.le_trans Qg AA,fun y hy=>hs.ids y (List.mem_of_mem_eraseIdx hy)⟩,hs.ids _ (List.mem_of_getElem? Bh)⟩)
 · rw [Qb hk] at h;(repeat' (split at h))<;>first|(cases h;done)|(injection h with h;obtain ⟨rfl,rfl⟩:=Prod.mk.inj h;exact ⟨⟨hs.name,Nat.le_trans h1 AA,Nat.le_trans Qf AA,Nat.le_trans h3 AA,Nat.le_trans h4 AA,hs.ids⟩,Hh⟩)
 · rw [Qc hk] at h;(repeat' (split at h))<;>first|(cases h;done)|(injection h with h;obtain ⟨rfl,rfl⟩:=Prod.mk.inj h;exact ⟨⟨hs.name,Nat.le_trans h1 AA,Nat.le_trans Qg AA,Nat.le_trans h3 AA,Nat.le_trans h4 AA,hs.ids⟩,Hh⟩)
 · rw [Qd hk] at h;(repeat' (split at h))<;>first|(cases h;done)|(injection h with h;obtain ⟨rfl,rfl⟩:=Prod.mk.inj h;exact ⟨⟨hs.name,Nat.le_trans h1 AA,Nat.le_trans h2 AA,Nat.le_trans Qf AA,Nat.le_trans h4 AA,hs.ids⟩,Hh⟩)
 · rw [Nf hk] at h;(repeat' (split at h))<;>first|(cases h;done)|(injection h with h;obtain ⟨rfl,rfl⟩:=Prod.mk.inj h;exact ⟨⟨hs.name,Nat.le_trans h1 AA,Nat.le_trans h2 AA,Nat.le_trans Qg AA,Nat.le_trans h4 AA,hs.ids⟩,Hh⟩)
 · rw [Ng hk] at h;(repeat' (split at h))<;>first|(cases h;done)|(injection h with h;obtain ⟨rfl,rfl⟩:=Prod.mk.inj h;exact ⟨⟨hs.name,Nat.le_trans h1 AA,Nat.le_trans h2 AA,Nat.le_trans h3 AA,Nat.le_trans h4 AA,hs.ids⟩,Hh⟩)
 · rw [Nh hk] at h;(repeat' (split at h))<;>first|(cases h;done)|(injection h with h;obtain ⟨rfl,rfl⟩:=Prod.mk.inj h;exact ⟨⟨hs.name,Nat.le_trans h1 AA,Nat.le_trans h2 AA,Nat.le_trans h3 AA,Nat.le_trans h4 AA,hs.ids⟩,Hh⟩)
theorem wQ {e:Bw} {c:Bm} {x:Bw} {b:Bm} (h:Eg e c=(x,b,0)) (hs:e.sz n) (hi:c.Cb.fits∧c.Cb.small):x.sz (n+1)∧b.Cb.fits∧b.Cb.small:=by
 obtain ⟨_,h2,h3,_⟩:=jj h
 exact fu h2 h3 hs hi
structure D5.sz (e:D5) (n:Nat):Prop where
 Bu:∀x∈e.Bu,x.sz n
 items:∀x∈e.items,x.name.length≤maxLen∧x.links.length≤1000000
 le:e.Bu.length≤1000000
 lg:e.BX.length≤1000000
 li:e.items.length≤1000000
theorem D5.sz.fits {e:D5} (h:e.sz n) (hn:n≤1000000):e.fits:=
 ⟨fun x hx=>⟨(h.Bu x hx).fits,(h.Bu x hx).small hn⟩,fun x hx=>(h.items x hx).1,by have:=h.le;omega,by have:=h.lg;omega,by have:=h.li;omega⟩
theorem y_ {β γ:Type} {f:β→γ} {l:List β} {x:β} (h:l[k]? =some x):(l.take k).map f++[f x]=(l.take (k+1)).map f:=by rw [List.take_add_one,h,List.map_append];rfl
def Md (l:List Bw) (c:Bm):List Bw×Int:=
 if c.Aa<0∨((l.length:Nat):Int)≤c.Aa then (l,40)
 else match l[c.Aa.toNat]? with
  |none=>(l,40)
  |some x=>if (Eg x c).2.2=0 then (l.set c.Aa.toNat (Eg x c).1,0) else (l,(Eg x c).2.2)
theorem wR {l:List Bw} {c:Bm} (h:c.Aa<0∨((l.length:Nat):Int)≤c.Aa):Md l c=(l,40):=if_pos h
theorem AAs {l:List Bw} {c:Bm} {x:Bw} (h:¬(c.Aa<0∨((l.length:Nat):Int)≤c.Aa)) (hx:l[c.Aa.toNat]? =some x):Md l c=if (Eg x c).2.2=0 then (l.set c.Aa.toNat (Eg x c).1,0) else (l,(Eg x c).2.2):=by
 unfold Md;rw [if_neg h,hx]
def Of (l:List Bm):List Int→List Bw→List Bw×Int
 |[],Bu=>(Bu,0)
 |i::s,Bu=>match l[i.toNat]? with
  |none=>(Bu,0)
  |some c=>if (Md Bu c).2=0 then Of l s (Md Bu c).1 else (Bu,(Md Bu c).2)
def WV (e:D5) (l:List Bm) (s:List Int):D5×Int:=
 if Fl e=false then (GS,31)
 else if 24<l.length then (GS,3)
 else if Di l.length s=false then (GS,46)
 else if (Of l s e.Bu).2=0 then (⟨(Of l s e.Bu).1,e.BX,e.items⟩,0) else (GS,(Of l s e.Bu).2)
theorem jr {Bu:List Bw} {i:Int} {c:Bm} (hi:s[k]? =some i) (hc:l[i.toNat]? =some c):Of l (s.drop k) Bu=if (Md Bu c).2=0 then Of l (s.drop (k+1)) (Md Bu c).1 else (Bu,(Md Bu c).2):=by
 have hk:=BH hi
 rw [List.drop_eq_getElem_cons hk]
 rw [List.getElem?_eq_getElem hk] at hi;cases hi
 rw [Of];rw [hc]
theorem fy (l:List Bw) (c:Bm):(Md l c).1.length=l.length:=by
 unfold Md;split
 · rfl
 ·
  split
  · rfl
  ·
   split
   · exact List.length_set
   · rfl
theorem qO {l:List Bw} {c:Bm} (hz:∀x∈l,x.sz n) (hi:c.Cb.fits∧c.Cb.small):∀x∈(Md l c).1,x.sz (n+1):=by
 have Ex:∀x∈l,x.sz (n+1):=fun x hx=>(hz x hx).le AA
 unfold Md;split
 · exact Ex
 ·
  split
  · exact Ex
  next x hx=>
  split
  next h0=>
   intro y hy
   rcases List.mem_or_eq_of_mem_set hy with hy|hy
   · exact Ex y hy
   ·
    subst hy
    exact (wQ (b:=(Eg x c).2.1) (by rw [←h0]) (hz x (List.mem_of_getElem? hx)) hi).1
  · exact Ex
def PU (s:List Int) (k:Nat):Int:=if k=0 then -1 else s[k-1]?.getD 0
theorem aa {i:Int} (h:s[k]? =some i):PU s (k+1)=i:=by unfold PU;rw [if_neg AA,Nat.add_sub_cancel,h];rfl
theorem SG {n:Int} {i:Int} (h:∀j,j<k→setAt n s j=true) (hi:s[k]? =some i):setAt n s k= !(decide (i≤PU s k)||decide (n≤i)):=by
 have hk:=BH hi
 unfold setAt PU
 rw [hi,Option.getD_some]
 rcases Nat.eq_zero_or_pos k with hz|hz
 · subst hz;rw [Bool.eq_iff_iff];simp;omega
 ·
  have h1:=h (k-1) AA
  unfold setAt at h1
  simp only [Bool.and_eq_true,decide_eq_true_eq] at h1
  rw [if_neg AA,Bool.eq_iff_iff];simp;omega
theorem VG {n:Int} {i:Int} (h:∀j,j<k→setAt n s j=true) (hi:s[k]? =some i) (hb:i≤PU s k∨n≤i):Di n s=false:=
 RK (p:=setAt n s) (k:=k) (BH hi) (by rw [SG h hi];simp;omega)
theorem qP {n:Int} {s:List Int} (h:∀j,j<s.length→setAt n s j=true):∀j,j<s.length→(j:Int)≤s[j]?.getD 0
 |0,hj=>by have:=h 0 hj;unfold setAt at this;simp at this;simp;omega
 |j+1,hj=>by
  have h1:=qP h j AA
  have:=h (j+1) hj
  unfold setAt at this
  simp only [Bool.and_eq_true,Bool.or_eq_true,decide_eq_true_eq,Nat.add_sub_cancel] at this
  omega
theorem f_ (h:Di n s=true):s.length≤n:=by
 unfold Di at h;rw [CD] at h
 rcases Nat.eq_zero_or_pos s.length with hz|hz
 · omega
 ·
  have h1:=qP h (s.length-1) AA
  have h2:=h (s.length-1) AA
  unfold setAt at h2
  simp only [Bool.and_eq_true,decide_eq_true_eq] at h2
  omega
theorem Qh (h:Di n s=true) {i:Int} (hi:s[k]? =some i):0≤i∧i<n:=by
 unfold Di at h;rw [CD] at h
 have h2:=h k (BH hi)
 unfold setAt at h2
 rw [hi] at h2
 simp only [Option.getD_some,Bool.and_eq_true,decide_eq_true_eq] at h2
 exact h2.1
end Go.Proofs.YtmocaapoeefgkaaGreatDoor
namespace Cp
open Go Go.RowKit
variable {M:Av} {ps:List Pr} {n:Nat} {q:Pr}
theorem wS {β:Type} {f:β→Pr} {w:World} {ad:Addr} (h:Row M w ad n (ps++[Cp.ex f])):∃x,Row M w ad n (ps++[f x]):=by
 obtain ⟨u,h1,h2,h3,x,h4⟩:=h ps.length (Cp.ex f) AO
 refine ⟨x,fun j p hp=> ?_⟩
 rcases Nat.lt_trichotomy j ps.length with hj|hj|hj
 · exact eD
 · grind
 · grind
theorem jt {φ:Prop} {w:World} {ad:Addr} (h:Row M w ad n (ps++[fact φ q])):φ∧Row M w ad n (ps++[q]):=by
 obtain ⟨u,h1,h2,h3,hφ,h4⟩:=h ps.length (fact φ q) AO
 refine ⟨hφ,fun j p hp=> ?_⟩
 rcases Nat.lt_trichotomy j ps.length with hj|hj|hj
 · exact eD
 · grind
 · grind
theorem af {α β:Type} {f:α→List Pr} {g:β→List Pr} {φ:α→β→Prop} {sz:Nat} (h:∀a M w ad n,Row M w ad n (f a)→∃b,φ a b∧Row M w ad n (g b)) (hf:∀a,(f a).length=sz) (hg:∀b,(g b).length=sz) (ms:List α):
  Pr.le (slice sz (ms.map f)) (Cp.ex fun l:List β=>fact (l.length=ms.length∧∀(i:Nat) a b,ms[i]? =some a→l[i]? =some b→φ a b) (slice sz (l.map g))):=by
 rintro M w v ⟨a,cap,hv,h1,h2,h3,h5⟩
 have hk:∀k,k≤ms.length→∃l:List β,l.length=k∧(∀(i:Nat) a b,ms[i]? =some a→l[i]? =some b→φ a b)∧∀(i:Nat) b,l[i]? =some b→∃ad,a=some ad∧Row M w ad (i*sz) (g b):=by
  intro k
  induction k with
  |zero=>intro _;exact ⟨[],rfl,by simp,by simp⟩
  |succ k ih=>
   intro hk
   obtain ⟨l,hl,hp,hr⟩:=ih AA
   obtain ⟨x,hx⟩:∃x,ms[k]? =some x:=⟨ms[k],List.getElem?_eq_getElem AA⟩
   obtain ⟨_,ad,had,hrow⟩:=h5 k (f x) VW
   obtain ⟨b,N6,TW⟩:=h x M w ad (k*sz) hrow
   refine ⟨l++[b],by simp [hl],fun i y c hy hc=> ?_,fun i c hc=> ?_⟩
   · grind
   · grind
 obtain ⟨l,hl,hp,hr⟩:=hk ms.length (Nat.le_refl _)
 rw [List.length_map] at hv h1
 refine ⟨l,⟨hl,hp⟩,a,cap,by rw [List.length_map,hl];exact hv,by rw [List.length_map,hl];exact h1,h2,h3,fun i row hrow=> ?_⟩
 rw [List.getElem?_map] at hrow
 cases hb:l[i]? with
 |none=>rw [hb] at hrow;cases hrow
 |some b=>
  rw [hb] at hrow;simp at hrow;subst hrow
  exact ⟨hg b,hr i b hb⟩
end Cp
namespace Go.Proofs.YtmocaapoeefgkaaGreatDoor
open Go Go.RowKit Cp Go.Proofs.Tryz
variable {l:List Bm} {nm:List UInt8} {b k n:Nat}
structure ChS (l:List Gt):Prop where
 fits:∀c∈l,c.fits
 small:(⟨0,0,0,l⟩:Hw).small
abbrev chE:Pr:=Cp.ex fun l:List Gt=>fact (ChS l) (J8 l)
abbrev Ec (c:Bm):List Pr:=[int c.Aa,int c.kind,int c.number,int c.at_,int c.Cb.CN,int c.Cb.bits,int c.Cb.Cd,chE]
structure wT (es:List Bw) (c:Bm):Prop where
 lo:0≤c.Aa
 hi:c.Aa<(es.length:Nat)
 kind:1≤c.kind∧c.kind≤12
def I5 (es:List Bw) (l:List Bm):Prop:=∀c∈l,wT es c
theorem I5.snoc {es:List Bw} {c:Bm} (h:I5 es l) (hc:wT es c):I5 es (l++[c]):=by
 intro x hx
 rcases List.mem_append.1 hx with hx|hx
 · exact h x hx
 · simp at hx;subst hx;exact hc
theorem I5.two {es:List Bw} {c d:Bm} (h:I5 es l) (hc:wT es c) (hd:wT es d):I5 es (l++[c,d]):=by
 intro x hx
 rcases List.mem_append.1 hx with hx|hx
 · exact h x hx
 · simp at hx;rcases hx with rfl|rfl;exact hc;exact hd
theorem I5.perm {es:List Bw} {m:List Bm} (hp:m.Perm l) (h:I5 es l):I5 es m:=fun c hc=>h c (hp.mem_iff.1 hc)
theorem I5.take {es:List Bw} (h:I5 es l):I5 es (l.take n):=fun c hc=>h c (List.mem_of_mem_take hc)
theorem wU:ChS []:=⟨(fun c h=>by cases h),⟨by show 0≤_;omega,(fun c hc=>by cases hc)⟩⟩
theorem Nl:Pr.le (is (.slice none 0 0)) chE:=Az [] (BC wU (AP 15))
theorem wV (h:nm∈F9) {a b id key:Int}:Pr.le (AAj nm a b id 901 key) chE:=by
 rintro M w v ⟨s,hs,hv⟩
 have hf:=AE9 (a:=a) (b:=b) (id:=id) (key:=key) (s:=s) h
 exact ⟨_,⟨hf.1,⟨hf.2.chain,hf.2.names⟩⟩,hv⟩
theorem qQ {a b id to key:Int}:(y5 nm a b id to key).le (agg [int a,int b,int id,AAj nm a b id to key]):=by
 rintro M w v ⟨s,hs,hv⟩
 exact BR (ps:=E_ (IM nm a b id to key s)) (qs:=[int a,int b,int id,AAj nm a b id to key]) ⟨Pr.le_refl _,Pr.le_refl _,Pr.le_refl _,fun M w v h=>⟨s,hs,h⟩,trivial⟩ M w v hv
theorem qR (c:Bm) (M:Av) (w:World) (ad:Addr) (n:Nat) (h:Row M w ad n (Ec c)):∃b:Bm,(b.Aa=c.Aa∧b.kind=c.kind∧b.number=c.number∧b.at_=c.at_∧ChS b.Cb.chain)∧Row M w ad n (DO b):=by
 obtain ⟨ch,h1⟩:=wS (ps:=[int c.Aa,int c.kind,int c.number,int c.at_,int c.Cb.CN,int c.Cb.bits,int c.Cb.Cd]) h
 obtain ⟨h2,h3⟩:=jt (ps:=[int c.Aa,int c.kind,int c.number,int c.at_,int c.Cb.CN,int c.Cb.bits,int c.Cb.Cd]) h1
 exact ⟨⟨c.Aa,c.kind,c.number,c.at_,⟨c.Cb.CN,c.Cb.bits,c.Cb.Cd,ch⟩⟩,⟨rfl,rfl,rfl,rfl,h2⟩,h3⟩
structure AFF (es:List Bw) (l:List Bm):Prop where
 len:l.length≤7
 any:∀c∈l,AIk es c
theorem WW {es:List Bw} {ms:List Bm} (h:I5 es ms) (hl:ms.length≤7):Pr.le (slice 8 (ms.map Ec)) (Cp.ex fun l:List Bm=>fact (AFF es l) (slice 8 (l.map DO))):=by
 intro M w v hv
 obtain ⟨l,⟨h1,h2⟩,h3⟩:=af qR (fun _=>rfl) (fun _=>rfl) ms M w v hv
 refine ⟨l,⟨by omega,fun c hc=> ?_⟩,h3⟩
 obtain ⟨i,hi⟩:=List.getElem?_of_mem hc
 obtain ⟨a,ha⟩:=at_ (l:=ms) (k:=i) (by have:=BH hi;omega)
 obtain ⟨g1,g2,g3,g4,g5⟩:=h2 i a c ha hi
 have hm:=h a (List.mem_of_getElem? ha)
 exact ⟨by rw [g1];exact hm.lo,by rw [g1];exact hm.hi,by rw [g2];exact hm.kind,g5.fits,⟨g5.small.chain,g5.small.names⟩⟩
theorem wW {s:DS} {e:D5} (hs:pz e.Bu) (hl:1≤e.Bu.length∧e.Bu.length≤3):BP prog 48 [ptr b 0,agg (CV e)] (Cp.ex fun l:List Bm=>fact (AFF e.Bu l) (slice 8 (l.map DO))) (DT b s) (fun _=>JY 104 b):=by
 refine BP.of func48 rfl rfl Am fun M0 w0 S rs M1 w1=> ?_
 refine Tr.seq (Tr.Bt (co rfl (BU rfl (Va rfl)) (cm rfl (Ch.nil (Fin.go (Tr.seq (Tr.Bt (cm rfl (Ch.nil (Fin.go (Tr.seq (Tr.BE (tm rfl ?_)))))))))))))
 refine TO.F0 0 rfl rfl AB (Ae rfl rfl AB rfl (CI AA AA) ⟨ke rfl,ke rfl,trivial⟩) (tp rfl (ki rfl rfl rfl rfl) (tm rfl (TO.F0 0 rfl rfl AB (Ae rfl rfl AB rfl (CI AA AA) ⟨ke rfl,ke rfl,trivial⟩) (tp rfl (ki rfl rfl rfl rfl) (tm rfl (TO.F0 0 rfl rfl AB (Ae rfl rfl AB rfl (CI AA AA) ⟨ke rfl,ke rfl,trivial⟩) (tp rfl (ki rfl rfl rfl rfl) (tm rfl (tm rfl (tm rfl (TO.nil (Fin.go (wk6 0 3 5 6 7 8 rfl (Tr.seq ?_))))))))))))))
 refine Tr.seq (Tr.Bt (co rfl (i7 rfl Rj rfl rfl) (co rfl (Iv rfl eo rfl) (co rfl (FP rfl underlying27 (vl rfl)) (cm rfl (Ch.nil (Fin.go (Tr.block (Tr.GP 86 8 (Tr.F4 [(0,_),(6,_),(7,_),(8,_),(23,_),(24,_)] ⟨ke rfl,ke rfl,ke rfl,ke rfl,ke rfl,ke rfl,trivial⟩ (fun (k:Nat) (ms:List Bm) (s2:DS) v=>[(25,int ((k:Nat):Int)),(5,AV v (lens (ms.map Ec).length))]) (fun (k:Nat) (ms:List Bm) (s2:DS) v=>Hp M0 w0 S (BG 86 8 (ms.map Ec) v::DT b s2::Ai M1 w1::rs)) (fun (k:Nat) (ms:List Bm) (s2:DS)=>k≤e.Bu.length∧ms.length≤6*k∧I5 e.Bu ms) (fun (k:Nat) (ms:List Bm) (s2:DS)=>e.Bu.length-k) (0) ([]) (_) (.slice none 0 0) (⟨Nat.zero_le _,by simp,fun c hc=>by simp at hc⟩) ⟨ke rfl,⟨_,rfl,Gk (by rfl)⟩,trivial⟩ (fun _ _ h=>h) ?_))))))))))
 rintro k ms s2 v ⟨hk1,AJk,UX⟩
 refine Tr.seq (Tr.Bt (co rfl (ki rfl rfl rfl rfl) (Ch.nil (Fin.go (Tr.seq ?_)))))
 refine Tr.cn rfl ?_ ?_<;>intro h1 q1
 have AZ:k<e.Bu.length:=by have:=EW.E9 h1;omega
 obtain ⟨x,AX⟩:=at_ AZ
 have hse:=hs k x AX
 have hnm:=List.mem_of_getElem? hse.name
 refine Tr.skip (Fin.go (Tr.seq (Tr.block (Tr.seq (Tr.BE (tm rfl (tp rfl (AD rfl underlying27 CS (vl rfl) (vl rfl) AA (AR AX)) (tp rfl (Ad rfl DC CS (vl rfl) rfl rfl) ?_))))))))
 refine Tl rfl rfl rfl rfl z40 Hx (fun b1=> ?_)
 refine tm rfl (TO.AK 0 rfl rfl rfl (vl rfl) (Va rfl) rfl CS rfl rfl (TO.freeze 0 10 rfl rfl (TO.nil (Fin.go (zb 0 5 6 7 8 9 10 23 24 25 rfl (Tr.QO [(0,_),(6,_),(7,_),(8,_),(9,_),(10,_),(23,_),(24,_),(25,_)] ⟨ke rfl,ke rfl,ke rfl,ke rfl,ke rfl,ke rfl,ke rfl,ke rfl,ke rfl,trivial⟩ (fun (m1:List Bm) (s3:DS) v1=>[(5,AV v1 (lens (m1.map Ec).length))]) (fun (m1:List Bm) (s3:DS) v1=>Hp M0 w0 S (BG 86 8 (m1.map Ec) v1::DT b s3::Ai M1 w1::rs)) (fun (m1:List Bm) (s3:DS)=>m1.length≤6*k+1∧I5 e.Bu m1) ?_ ?_))))))
 refine Tr.seq (Tr.Bt (cm rfl (cm rfl ?_)))
 refine Ch.cs 31 rfl ?_ ?_<;>intro h2 q2
 refine cy h2 rfl (i7 rfl Vu rfl rfl) (cy h2 rfl (Iv rfl ej rfl) (cy h2 rfl (Ah rfl (fc) ⟨ke rfl,ke rfl,trivial⟩) (cy h2 rfl (MK rfl (vl rfl)) (co rfl (kpt rfl rfl h2 rfl) (Ch.nil (Fin.go (Vm 0 5 6 7 8 9 10 23 24 25 36 rfl ?_)))))))
 refine Tr.cn rfl ?_ ?_<;>intro h3 q3
 have QJ:=s2.DK (n:=2) AA
 refine Tr.BE (tm rfl (tm rfl (tm rfl (TO.F0 1 rfl rfl AB (Ae rfl rfl AB rfl (CI AA AA) ⟨ke rfl,ke rfl,trivial⟩) (tp rfl (BO (rows:=[(0,[_]),(1,[_]),(2,[_]),(3,[_])]) rfl jD JZ ⟨⟨rfl,(Vo rfl)⟩,⟨⟨rfl,(Vo rfl)⟩,⟨⟨rfl,(Vo rfl)⟩,⟨⟨rfl,(Vo rfl)⟩,trivial⟩⟩⟩⟩ rfl) (tp rfl (Af (xs:=[.tmp 41]) (rows:=[Ec ⟨((k:Nat):Int),1,12,s2.val 2,⟨0,0,0,[]⟩⟩]) rfl rfl underlying32 DB NP rfl AB ⟨⟨An,VL.le (vl rfl) (Pr.le_trans (BR (qs:=Ec _) ⟨Lr,Lr,Lr,Lr,Lr,Lr,Lr,Nl,trivial⟩) (AY _))⟩,trivial⟩ AB) ?_))))))
 refine TO.Df 0 rfl rfl AB (Fg rfl rfl AB rfl underlying32 DB Xf NP rfl AB AB (vl rfl) (Kf rfl) (AW fun _=>rfl) (Nat.zero_lt_succ _) KP KQ) (fun v1=> ?_)
 refine tm rfl (TO.nil ?_)
 exact Fin.Bk (ms++[⟨((k:Nat):Int),1,12,s2.val 2,⟨0,0,0,[]⟩⟩]) (_) v1 (⟨by simp;omega,UX.snoc ⟨by show 0≤((k:Nat):Int);omega,by show ((k:Nat):Int)<_;omega,by dsimp only;omega⟩⟩) ⟨⟨_,rfl,DE AO⟩,ke rfl,ke rfl,ke rfl,ke rfl,ke rfl,ke rfl,ke rfl,ke rfl,ke rfl,trivial⟩ (fun _ _ h=>M6)
 refine Tr.skip (Fin.Bk (ms) (_) v (⟨by omega,UX⟩) ⟨⟨_,rfl,DE AO⟩,ke rfl,ke rfl,ke rfl,ke rfl,ke rfl,ke rfl,ke rfl,ke rfl,ke rfl,trivial⟩ (fun _ _ h=>h))
 iterate 4 refine cnt h2 rfl ?_
 refine co rfl (nL rfl rfl h2 rfl) (Ch.nil (Fin.go (Vm 0 5 6 7 8 9 10 23 24 25 36 rfl (Tr.cond rfl (fun h=>nomatch h) (fun _=> ?_)))))
 refine Tr.skip (Fin.Bk (ms) (_) v (⟨by omega,UX⟩) ⟨⟨_,rfl,DE AO⟩,ke rfl,ke rfl,ke rfl,ke rfl,ke rfl,ke rfl,ke rfl,ke rfl,ke rfl,trivial⟩ (fun _ _ h=>h))
 rintro m1 s3 v1 ⟨AJl,qS⟩
 refine Tr.QO [(0,_),(6,_),(7,_),(8,_),(9,_),(10,_),(23,_),(24,_),(25,_)] ⟨ke rfl,ke rfl,ke rfl,ke rfl,ke rfl,ke rfl,ke rfl,ke rfl,ke rfl,trivial⟩ (fun (m2:List Bm) (s4:DS) v2=>[(5,AV v2 (lens (m2.map Ec).length))]) (fun (m2:List Bm) (s4:DS) v2=>Hp M0 w0 S (BG 86 8 (m2.map Ec) v2::DT b s4::Ai M1 w1::rs)) (fun (m2:List Bm) (s4:DS)=>m2.length≤6*k+2∧I5 e.Bu m2) ?_ ?_
 refine Tr.seq (Tr.Bt (cm rfl (cm rfl ?_)))
 refine Ch.cs 45 rfl ?_ ?_<;>intro h4 q4
 refine ZM h4 rfl (cy h4 rfl (ki rfl rfl rfl rfl) (co rfl (kpt rfl rfl h4 rfl) (Ch.nil (Fin.go (Vm 0 5 6 7 8 9 10 23 24 25 48 rfl ?_)))))
 refine Tr.cn rfl ?_ ?_<;>intro h5 q5
 refine Tr.BE (tm rfl (tm rfl (tp rfl (BO (rows:=[(0,[_]),(1,[_]),(2,[_])]) rfl jD JZ ⟨⟨rfl,(Vo rfl)⟩,⟨⟨rfl,(Vo rfl)⟩,⟨⟨rfl,(Vo rfl)⟩,trivial⟩⟩⟩ rfl) (tp rfl (Af (xs:=[.tmp 51]) (rows:=[Ec ⟨((k:Nat):Int),7,2,0,⟨0,0,0,[]⟩⟩]) rfl rfl underlying32 DB NP rfl AB ⟨⟨An,VL.le (vl rfl) (Pr.le_trans (BR (qs:=Ec _) ⟨Lr,Lr,Lr,Lr,Lr,Lr,Lr,Nl,trivial⟩) (AY _))⟩,trivial⟩ AB) ?_))))
 refine TO.Df 0 rfl rfl AB (Fg rfl rfl AB rfl underlying32 DB Xf NP rfl AB AB (vl rfl) (Kf rfl) (AW fun _=>rfl) (Nat.zero_lt_succ _) KP KQ) (fun v2=> ?_)
 refine tm rfl (TO.nil ?_)
 exact Fin.Bk (m1++[⟨((k:Nat):Int),7,2,0,⟨0,0,0,[]⟩⟩]) (_) v2 (⟨by simp;omega,qS.snoc ⟨by show 0≤((k:Nat):Int);omega,by show ((k:Nat):Int)<_;omega,by dsimp only;omega⟩⟩) ⟨⟨_,rfl,DE AO⟩,ke rfl,ke rfl,ke rfl,ke rfl,ke rfl,ke rfl,ke rfl,ke rfl,ke rfl,trivial⟩ (fun _ _ h=>M6)
 refine Tr.skip (Fin.Bk (m1) (_) v1 (⟨by omega,qS⟩) ⟨⟨_,rfl,DE AO⟩,ke rfl,ke rfl,ke rfl,ke rfl,ke rfl,ke rfl,ke rfl,ke rfl,ke rfl,trivial⟩ (fun _ _ h=>h))
 refine cnt h4 rfl (cnt h4 rfl (co rfl (nL rfl rfl h4 rfl) (Ch.nil (Fin.go (Vm 0 5 6 7 8 9 10 23 24 25 48 rfl (Tr.cond rfl (fun h=>nomatch h) (fun _=> ?_)))))))
 refine Tr.skip (Fin.Bk (m1) (_) v1 (⟨by omega,qS⟩) ⟨⟨_,rfl,DE AO⟩,ke rfl,ke rfl,ke rfl,ke rfl,ke rfl,ke rfl,ke rfl,ke rfl,ke rfl,trivial⟩ (fun _ _ h=>h))
 rintro m2 s4 v2 ⟨AJm,qT⟩
 refine Tr.QO [(0,_),(6,_),(7,_),(8,_),(9,_),(10,_),(23,_),(24,_),(25,_)] ⟨ke rfl,ke rfl,ke rfl,ke rfl,ke rfl,ke rfl,ke rfl,ke rfl,ke rfl,trivial⟩ (fun (m3:List Bm) (s5:DS) v3=>[(5,AV v3 (lens (m3.map Ec).length))]) (fun (m3:List Bm) (s5:DS) v3=>Hp M0 w0 S (BG 86 8 (m3.map Ec) v3::DT b s5::Ai M1 w1::rs)) (fun (m3:List Bm) (s5:DS)=>m3.length≤6*k+3∧I5 e.Bu m3) ?_ ?_
 refine Tr.seq (Tr.Bt (cm rfl (cm rfl ?_)))
 refine Ch.cs 55 rfl ?_ ?_<;>intro h6 q6
 refine ZM h6 rfl (cy h6 rfl (ki rfl rfl rfl rfl) (co rfl (kpt rfl rfl h6 rfl) (Ch.nil (Fin.go (Vm 0 5 6 7 8 9 10 23 24 25 58 rfl ?_)))))
 refine Tr.cn rfl ?_ ?_<;>intro h7 q7
 have hof:=s4.OP (l:=[2,1]) AO
 simp at hof
 refine Tr.pad (Tr.XU mixed [none,none,none,none,none,none,none,some (0,2,true,0),none,none,none,none,none,none,some (0,1,true,73),some (73,1,true,5)] Ak (xm rfl (xm rfl (xo rfl (fun _=>i7 rfl nZ rfl rfl) (xo rfl (fun _=>Iv rfl Ri rfl) (xo rfl (fun _=>Ah rfl (AIi) trivial) (xm rfl (xo rfl (fun _=>Af (xs:=[.const (.int .i64 (2)),.const (.int .i64 (1))]) (rows:=[[_],[_]]) rfl rfl underlying22 Bi z3 rfl AB ⟨⟨An,(Vo rfl)⟩,⟨⟨An,(Vo rfl)⟩,trivial⟩⟩ AB) ?_))))))))
 refine Cx.ef 2 rfl rfl AB (Ae rfl rfl AB rfl (R6 (l:=[2,1]) AO AO) ⟨ke rfl,(Kf rfl),trivial⟩) ?_
 refine xo rfl (fun _=>Ah rfl (aO (name:=x.name) (a:=7) (b:=256) (id:=201) (to:=901) (key:=s4.of [2,1]) (AE7 hnm (.inr ⟨rfl,rfl⟩) AA AA AA) (AE8 (.inr ⟨rfl,rfl⟩) AA) AA) ⟨ke rfl,ke rfl,ke rfl,ke rfl,ke rfl,trivial⟩) ?_
 refine xo rfl (fun _=>i7 rfl Z5 rfl rfl) (xo rfl (fun _=>Iv rfl yX rfl) (xo rfl (fun _=>FP rfl underlying38 (vl rfl)) (xo rfl (fun _=>BO (rows:=[(0,[_]),(1,[_]),(4,_),(3,[_])]) rfl jD JZ ⟨⟨rfl,(Vo rfl)⟩,⟨⟨rfl,(Vo rfl)⟩,⟨⟨rfl,⟨_,rfl,Pr.le_trans (qQ) (AY _)⟩⟩,⟨⟨rfl,(Vo rfl)⟩,trivial⟩⟩⟩⟩ rfl) (xo rfl (fun _=>Af (xs:=[.tmp 71]) (rows:=[Ec ⟨((k:Nat):Int),5,0,((x.ids.length:Nat):Int),⟨7,256,201,[]⟩⟩]) rfl rfl underlying32 DB NP rfl AB ⟨⟨An,VL.le (vl rfl) (Pr.le_trans (BR (qs:=Ec _) ⟨Lr,Lr,Lr,Lr,Lr,Lr,Lr,wV hnm,trivial⟩) (AY _))⟩,trivial⟩ AB) ?_))))
 refine Cx.ef 1 rfl rfl AB (Fg rfl rfl AB rfl underlying32 DB Xf NP rfl AB AB (vl rfl) (Kf rfl) (AW fun _=>rfl) (Nat.zero_lt_succ _) KP KQ) ?_
 refine Cx.ef 1 rfl rfl AB (Vh rfl rfl AB rfl (vl rfl)) ?_
 refine Cx.nil ⟨rfl,?_⟩
 refine Aw.open_ 1 5 rfl rfl (fun v3=> ?_)
 refine Aw.done (CY.cons (CY.cons (CY.cons (CY.cons (CY.map _))))) (Fin.drop 0 ?_)
 exact Fin.Bk (m2++[⟨((k:Nat):Int),5,0,((x.ids.length:Nat):Int),⟨7,256,201,[]⟩⟩]) (_) v3 (⟨by simp;omega,qT.snoc ⟨by show 0≤((k:Nat):Int);omega,by show ((k:Nat):Int)<_;omega,by dsimp only;omega⟩⟩) ⟨⟨_,rfl,DE AO⟩,ke rfl,ke rfl,ke rfl,ke rfl,ke rfl,ke rfl,ke rfl,ke rfl,ke rfl,trivial⟩ (fun _ _ h=>M6)
 refine Tr.skip (Fin.Bk (m2) (_) v2 (⟨by omega,qT⟩) ⟨⟨_,rfl,DE AO⟩,ke rfl,ke rfl,ke rfl,ke rfl,ke rfl,ke rfl,ke rfl,ke rfl,ke rfl,trivial⟩ (fun _ _ h=>h))
 refine cnt h6 rfl (cnt h6 rfl (co rfl (nL rfl rfl h6 rfl) (Ch.nil (Fin.go (Vm 0 5 6 7 8 9 10 23 24 25 58 rfl (Tr.cond rfl (fun h=>nomatch h) (fun _=> ?_)))))))
 refine Tr.skip (Fin.Bk (m2) (_) v2 (⟨by omega,qT⟩) ⟨⟨_,rfl,DE AO⟩,ke rfl,ke rfl,ke rfl,ke rfl,ke rfl,ke rfl,ke rfl,ke rfl,ke rfl,trivial⟩ (fun _ _ h=>h))
 rintro m3 s5 v3 ⟨AJn,gA⟩
 refine Tr.QO [(0,_),(6,_),(7,_),(8,_),(9,_),(10,_),(23,_),(24,_),(25,_)] ⟨ke rfl,ke rfl,ke rfl,ke rfl,ke rfl,ke rfl,ke rfl,ke rfl,ke rfl,trivial⟩ (fun (m4:List Bm) (s6:DS) v4=>[(5,AV v4 (lens (m4.map Ec).length))]) (fun (m4:List Bm) (s6:DS) v4=>Hp M0 w0 S (BG 86 8 (m4.map Ec) v4::DT b s6::Ai M1 w1::rs)) (fun (m4:List Bm) (s6:DS)=>m4.length≤6*k+4∧I5 e.Bu m4) ?_ ?_
 refine Tr.seq (Tr.BE (tm rfl (tm rfl ?_)))
 refine TO.cases 75 rfl (fun h8=> ?_) (fun h8=> ?_)
 have q8:=EW.E9 h8
 refine TO.IG rfl rfl rfl h8 rfl AB (i7 rfl Vu rfl rfl) (TO.IG rfl rfl rfl h8 rfl AB (Iv rfl ej rfl) (TO.IG rfl rfl rfl h8 rfl AB (Ah rfl (fc) ⟨ke rfl,ke rfl,trivial⟩) (tp rfl (kpt rfl rfl h8 rfl) (tm rfl ?_))))
 refine TO.cases 80 rfl (fun h9=> ?_) (fun h9=> ?_)
 have q9:=EW.E9 h9
 refine TO.IG rfl rfl rfl h9 rfl AB (Cs rfl (vl rfl)) (TO.ot 1 rfl rfl rfl h9 rfl rfl AB (Ae rfl rfl AB rfl (CI AA AA) ⟨ke rfl,ke rfl,trivial⟩) (TO.IG rfl rfl rfl h9 rfl AB (ki rfl rfl rfl rfl) (tp rfl (kpt rfl rfl h9 rfl) (TO.nil (Fin.go (Vm 0 5 6 7 8 9 10 23 24 25 84 rfl ?_))))))
 refine Tr.cn rfl ?_ ?_<;>intro h10 R9
 refine Tr.BE (tm rfl (tm rfl (tp rfl (BO (rows:=[(0,[_]),(1,[_]),(2,[_])]) rfl jD JZ ⟨⟨rfl,(Vo rfl)⟩,⟨⟨rfl,(Vo rfl)⟩,⟨⟨rfl,(Vo rfl)⟩,trivial⟩⟩⟩ rfl) (tp rfl (Af (xs:=[.tmp 87]) (rows:=[Ec ⟨((k:Nat):Int),2,2,0,⟨0,0,0,[]⟩⟩]) rfl rfl underlying32 DB NP rfl AB ⟨⟨An,VL.le (vl rfl) (Pr.le_trans (BR (qs:=Ec _) ⟨Lr,Lr,Lr,Lr,Lr,Lr,Lr,Nl,trivial⟩) (AY _))⟩,trivial⟩ AB) ?_))))
 refine TO.Df 0 rfl rfl AB (Fg rfl rfl AB rfl underlying32 DB Xf NP rfl AB AB (vl rfl) (Kf rfl) (AW fun _=>rfl) (Nat.zero_lt_succ _) KP KQ) (fun v4=> ?_)
 refine tm rfl (TO.nil ?_)
 exact Fin.Bk (m3++[⟨((k:Nat):Int),2,2,0,⟨0,0,0,[]⟩⟩]) (_) v4 (⟨by simp;omega,gA.snoc ⟨by show 0≤((k:Nat):Int);omega,by show ((k:Nat):Int)<_;omega,by dsimp only;omega⟩⟩) ⟨⟨_,rfl,DE AO⟩,ke rfl,ke rfl,ke rfl,ke rfl,ke rfl,ke rfl,ke rfl,ke rfl,ke rfl,trivial⟩ (fun _ _ h=>M6)
 refine Tr.skip (Fin.Bk (m3) (_) v3 (⟨by omega,gA⟩) ⟨⟨_,rfl,DE AO⟩,ke rfl,ke rfl,ke rfl,ke rfl,ke rfl,ke rfl,ke rfl,ke rfl,ke rfl,trivial⟩ (fun _ _ h=>h))
 have q9:=EW.E9 h9
 refine TO.Tg rfl rfl rfl (Bc h9) rfl AB (TO.Tg rfl rfl rfl (Bc h9) rfl AB (TO.Tg rfl rfl rfl (Bc h9) rfl AB (tp rfl (nL rfl rfl h9 rfl) (TO.nil (Fin.go (Vm 0 5 6 7 8 9 10 23 24 25 84 rfl (Tr.cond rfl (fun h=>nomatch h) (fun _=> ?_))))))))
 refine Tr.skip (Fin.Bk (m3) (_) v3 (⟨by omega,gA⟩) ⟨⟨_,rfl,DE AO⟩,ke rfl,ke rfl,ke rfl,ke rfl,ke rfl,ke rfl,ke rfl,ke rfl,ke rfl,trivial⟩ (fun _ _ h=>h))
 have q8:=EW.E9 h8
 refine TO.Tg rfl rfl rfl (Bc h8) rfl AB (TO.Tg rfl rfl rfl (Bc h8) rfl AB (TO.Tg rfl rfl rfl (Bc h8) rfl AB (tp rfl (nL rfl rfl h8 rfl) (tm rfl (TO.Tg rfl rfl rfl (Bc rfl) rfl AB (TO.Tg rfl rfl rfl (Bc rfl) rfl AB (TO.Tg rfl rfl rfl (Bc rfl) rfl AB (tp rfl (nL rfl rfl rfl rfl) (TO.nil (Fin.go (Vm 0 5 6 7 8 9 10 23 24 25 84 rfl (Tr.cond rfl (fun h=>nomatch h) (fun _=> ?_)))))))))))))
 refine Tr.skip (Fin.Bk (m3) (_) v3 (⟨by omega,gA⟩) ⟨⟨_,rfl,DE AO⟩,ke rfl,ke rfl,ke rfl,ke rfl,ke rfl,ke rfl,ke rfl,ke rfl,ke rfl,trivial⟩ (fun _ _ h=>h))
 rintro m4 s6 v4 ⟨AJo,qU⟩
 refine Tr.seq (Tr.Bt (cm rfl (cm rfl ?_)))
 refine Ch.cs 91 rfl ?_ ?_<;>intro h11 Ti
 refine cy h11 rfl (i7 rfl ng rfl rfl) (cy h11 rfl (Iv rfl DL rfl) (cy h11 rfl (ki rfl rfl rfl rfl) (co rfl (kpt rfl rfl h11 rfl) (Ch.nil (Fin.go (zb 0 5 6 7 8 9 23 24 25 95 rfl ?_))))))
 refine Tr.cn rfl ?_ ?_<;>intro h12 X0
 refine Tr.BE (tm rfl (tm rfl (tp rfl (BO (rows:=[(0,[_]),(1,[_]),(2,[_])]) rfl jD JZ ⟨⟨rfl,(Vo rfl)⟩,⟨⟨rfl,(Vo rfl)⟩,⟨⟨rfl,(Vo rfl)⟩,trivial⟩⟩⟩ rfl) (tm rfl (tp rfl (BO (rows:=[(0,[_]),(1,[_]),(2,[_])]) rfl jD JZ ⟨⟨rfl,(Vo rfl)⟩,⟨⟨rfl,(Vo rfl)⟩,⟨⟨rfl,(Vo rfl)⟩,trivial⟩⟩⟩ rfl) (tp rfl (Af (xs:=[.tmp 98,.tmp 100]) (rows:=[Ec ⟨((k:Nat):Int),3,4,0,⟨0,0,0,[]⟩⟩,Ec ⟨((k:Nat):Int),1,14,0,⟨0,0,0,[]⟩⟩]) rfl rfl underlying32 DB NP rfl AB ⟨⟨An,VL.le (vl rfl) (Pr.le_trans (BR (qs:=Ec _) ⟨Lr,Lr,Lr,Lr,Lr,Lr,Lr,Nl,trivial⟩) (AY _))⟩,⟨⟨An,VL.le (vl rfl) (Pr.le_trans (BR (qs:=Ec _) ⟨Lr,Lr,Lr,Lr,Lr,Lr,Lr,Nl,trivial⟩) (AY _))⟩,trivial⟩⟩ AB) ?_))))))
 refine TO.Df 0 rfl rfl AB (Fg rfl rfl AB rfl underlying32 DB Xf NP rfl AB AB (vl rfl) (Kf rfl) (AW fun _=>rfl) (Nat.zero_lt_succ _) KP KQ) (fun v5=> ?_)
 refine tm rfl (TO.nil (Fin.block (Fin.go (wk8 0 5 6 7 8 23 24 25 rfl (Tr.Bt (ZN rfl rfl rfl rfl AA (cm rfl (Ch.nil ?_))))))))
 exact Fin.EZ (k+1) (m4++[⟨((k:Nat):Int),3,4,0,⟨0,0,0,[]⟩⟩,⟨((k:Nat):Int),1,14,0,⟨0,0,0,[]⟩⟩]) (_) v5 (⟨⟨by omega,by simp;omega,qU.two ⟨by show 0≤((k:Nat):Int);omega,by show ((k:Nat):Int)<_;omega,by dsimp only;omega⟩ ⟨by show 0≤((k:Nat):Int);omega,by show ((k:Nat):Int)<_;omega,by dsimp only;omega⟩⟩,by omega⟩) ⟨⟨_,rfl,AG k⟩,⟨_,rfl,DE AO⟩,ke rfl,ke rfl,ke rfl,ke rfl,ke rfl,ke rfl,trivial⟩ (fun _ _ h=>M6)
 refine Tr.skip (Fin.block (Fin.go (Tr.Bt (ZN rfl rfl rfl rfl AA (cm rfl (Ch.nil (Fin.EZ (k+1) (m4) (_) v4 (⟨⟨by omega,by omega,qU⟩,by omega⟩) ⟨⟨_,rfl,AG k⟩,⟨_,rfl,DE AO⟩,ke rfl,ke rfl,ke rfl,ke rfl,ke rfl,ke rfl,trivial⟩ (fun _ _ h=>h))))))))
 refine cnt h11 rfl (cnt h11 rfl (cnt h11 rfl (co rfl (nL rfl rfl h11 rfl) (Ch.nil (Fin.go (zb 0 5 6 7 8 9 23 24 25 95 rfl (Tr.cond rfl (fun h=>nomatch h) (fun _=> ?_))))))))
 refine Tr.skip (Fin.block (Fin.go (Tr.Bt (ZN rfl rfl rfl rfl AA (cm rfl (Ch.nil (Fin.EZ (k+1) (m4) (_) v4 (⟨⟨by omega,by omega,qU⟩,by omega⟩) ⟨⟨_,rfl,AG k⟩,⟨_,rfl,DE AO⟩,ke rfl,ke rfl,ke rfl,ke rfl,ke rfl,ke rfl,trivial⟩ (fun _ _ h=>h))))))))
 have:=h1
 refine Tr.exit (Fin.BA (Fin.BA (Fin.Bn (Fin.go (Tr.seq (Tr.block ?_))))))
 rcases Nat.eq_zero_or_pos ms.length with h0|h0
 refine Tr.Ax [(0,_)] ⟨ke rfl,trivial⟩ (fun _=>[(5,AV v (lens (ms.map Ec).length))]) (fun _=>True) (fun _=>0) () (trivial) ⟨ke rfl,trivial⟩ ?_
 rintro _ _
 refine Tr.seq (Tr.seq (Tr.Bt (cm rfl (co rfl (Xr rfl underlying32 (Kb rfl)) (co rfl (ki rfl rfl rfl rfl) (Ch.nil (Fin.go ?_)))))))
 refine Tr.cn rfl ?_ ?_<;>intro OQ fO
 exfalso;have h_:=EW.E9 OQ;rw [List.length_map] at h_;omega
 have:=OQ
 refine Tr.exit (Fin.BA (Fin.BA (Fin.Bn (Fin.go (Tr.seq (Tr.seq ?_))))))
 have hv4:=s2.DK (n:=4) AA
 refine Tr.BE (tm rfl (TO.F0 1 rfl rfl AB (Ae rfl rfl AB rfl (CI AA AA) ⟨ke rfl,ke rfl,trivial⟩) (tm rfl (TO.nil (Fin.go (Tr.block (Tr.DI [(0,_)] ⟨ke rfl,trivial⟩ (fun (q:Int) (s9:DS)=>[(11,int q),(5,AV v (lens (ms.map Ec).length))]) (fun (q:Int) (s9:DS)=>Hp M0 w0 S (BG 86 8 (ms.map Ec) v::DT b s9::Ai M1 w1::rs)) (fun (q:Int) (s9:DS)=>True) (fun (q:Int) (s9:DS)=>q.toNat) (_) (_)  (trivial) ⟨ke rfl,ke rfl,trivial⟩ (fun _ _ h=>h) ?_)))))))
 rintro q s9  _
 refine Tr.seq (Tr.seq (Tr.Bt (cm rfl (co rfl (ki rfl rfl rfl rfl) (cm rfl ?_)))))
 refine Ch.cs 116 rfl ?_ ?_<;>intro NN q14
 refine ZM NN rfl (cy NN rfl (Xr rfl underlying32 (Kb rfl)) (cy NN rfl (ki rfl rfl rfl rfl) (co rfl (kpt rfl rfl NN rfl) (Ch.nil (Fin.go ?_)))))
 refine Tr.cn rfl ?_ ?_<;>intro XG q15
 exfalso;have h_:=EW.E9 XG;rw [List.length_map] at h_;omega
 have:=XG
 refine Tr.exit (Fin.BA (Fin.BA (Fin.Bn (Fin.go (Tr.seq (Tr.vg 0 5 rfl rfl (AW fun _=>rfl) (Tr.Bt (cm rfl (cm rfl (Ch.nil (Fin.go (Tr.ret (Fin.HX 1 _ rfl rfl (Fin.Gn [_] rfl (AL.tmp rfl (Lr)) ?_ (fun _ _ _ _=>rfl)))))))))))))))
 · exact Pr.le_trans (Ao _ _) (WW UX AA)
 refine cnt NN rfl (cnt NN rfl (cnt NN rfl (co rfl (nL rfl rfl NN rfl) (Ch.nil (Fin.go (Tr.cond rfl (fun h=>nomatch h) (fun _=> ?_)))))))
 refine Tr.exit (Fin.BA (Fin.BA (Fin.Bn (Fin.go (Tr.seq (Tr.vg 0 5 rfl rfl (AW fun _=>rfl) (Tr.Bt (cm rfl (cm rfl (Ch.nil (Fin.go (Tr.ret (Fin.HX 1 _ rfl rfl (Fin.Gn [_] rfl (AL.tmp rfl (Lr)) ?_ (fun _ _ _ _=>rfl)))))))))))))))
 · exact Pr.le_trans (Ao _ _) (WW UX AA)
 refine Tr.ADz (sz:=8) 0 rfl (by intro h_;simp at h_;rw [h_] at h0;simp at h0) fun b9 AFG sp9 hv9 hg9 hm9 hs9=> ?_
 subst hv9
 rw [List.length_map] at hg9 hs9
 refine Tr.KZ [(0,_)] ⟨ke rfl,trivial⟩ (fun (m:Nat)=>[(5,is (.slice (some ⟨b9,0,none⟩) m AFG))]) (fun (m:Nat)=>Hp M0 w0 S (AF true b9 86 ((ms.map Ec).flatten++sp9.map is)::DT b s2::Ai M1 w1::rs)) (fun (m:Nat)=>1≤m∧m≤ms.length) (fun (m:Nat)=>m) (ms.length)  (⟨h0,Nat.le_refl _⟩) ⟨⟨_,rfl,Pr.le_trans (Ct _ _) (Pr.le_of_eq (by rw [List.length_map]))⟩,trivial⟩ (fun _ _ h=>h) ?_
 rintro m  ⟨hm1,hm2⟩
 refine Tr.seq (Tr.seq (Tr.Bt (cm rfl (co rfl (LV rfl underlying32 (vl rfl)) (co rfl (ki rfl rfl rfl rfl) (Ch.nil (Fin.go ?_)))))))
 refine Tr.cn rfl ?_ ?_<;>intro h16 q16
 have hm7:7<m:=by have:=EW.E9 h16;omega
 refine Tr.skip (Fin.go (Tr.block (Tr.Bt (cm rfl (cm rfl (co rfl (LV rfl underlying32 (vl rfl)) (csu rfl rfl rfl rfl AA (co rfl (PL rfl underlying32 DB (vl rfl) (vl rfl) AA AA AA AA) (cm rfl (Ch.nil (Fin.block ?_)))))))))))
 exact Fin.LQ (m-1)  (⟨⟨by omega,by omega⟩,by omega⟩) ⟨⟨_,rfl,Pr.le_of_eq (by congr 2;omega)⟩,ke rfl,trivial⟩ (fun _ _ h=>h)
 have hm7:m≤7:=by have:=EW.E9 h16;omega
 refine Tr.exit (Fin.BA (Fin.BA (Fin.Bn (Fin.go (Tr.seq (Tr.seq ?_))))))
 have hv4:=s2.DK (n:=4) AA
 refine Tr.BE (tm rfl (TO.F0 1 rfl rfl AB (Ae rfl rfl AB rfl (CI AA AA) ⟨ke rfl,ke rfl,trivial⟩) (tm rfl (TO.nil (Fin.go (Tr.block (Tr.Kc [(0,_)] ⟨ke rfl,trivial⟩ (fun (q:Int) (ns:List Bm) (s9:DS)=>[(11,int q),(5,is (.slice (some ⟨b9,0,none⟩) m AFG))]) (fun (q:Int) (ns:List Bm) (s9:DS)=>Hp M0 w0 S (AF true b9 86 ((ns.map Ec).flatten++sp9.map is)::DT b s9::Ai M1 w1::rs)) (fun (q:Int) (ns:List Bm) (s9:DS)=>(ns.length=ms.length∧q≤3)∧I5 e.Bu ns) (fun (q:Int) (ns:List Bm) (s9:DS)=>q.toNat) (_) (ms) (_)  (⟨⟨rfl,by omega⟩,UX⟩) ⟨ke rfl,ke rfl,trivial⟩ (fun _ _ h=>h) ?_)))))))
 rintro q ns s9  ⟨⟨hn1,hn3⟩,hn2⟩
 refine Tr.seq (Tr.seq (Tr.Bt (cm rfl (co rfl (ki rfl rfl rfl rfl) (cm rfl ?_)))))
 refine Ch.cs 116 rfl ?_ ?_<;>intro N7 q17
 refine ZM N7 rfl (cy N7 rfl (LV rfl underlying32 (vl rfl)) (cy N7 rfl (ki rfl rfl rfl rfl) (co rfl (kpt rfl rfl N7 rfl) (Ch.nil (Fin.go ?_)))))
 refine Tr.cn rfl ?_ ?_<;>intro OR q18
 have hq1:=EW.E9 OR
 refine Tr.skip (Fin.go (Tr.seq (Tr.block (Tr.seq ?_))))
 have hvm:=s9.DK (n:=((m:Nat):Int)-1) AA
 refine Tr.BE (tm rfl (tm rfl (tp rfl (LV rfl underlying32 (vl rfl)) ?_)))
 refine tp rfl (Zv rfl (vl rfl) (vl rfl) ?hin) ?_;case hin=>unfold RO;omega
 refine TO.F0 1 rfl rfl AB (Ae rfl rfl AB rfl (CI AA AA) ⟨ke rfl,ke rfl,trivial⟩) (tm rfl (TO.nil (Fin.go (wk4 0 5 11 12 rfl (Tr.XU mixed [none,none,none,none,none,none,none,none,none,some (0,0,false,0),none,none,none,some (0,0,false,0),none,some (0,0,true,0),none,some (0,0,true,0)] Ak ?_)))))
 iterate 4 refine xm rfl ?_
 refine xo rfl (fun _=>Gz rfl (vl rfl) (vl rfl) ?hin) ?_;case hin=>unfold RO;omega
 refine xm rfl (xm rfl ?_)
 refine xo rfl (fun _=>Gz rfl (vl rfl) (vl rfl) ?hin) ?_;case hin=>unfold RO;omega
 refine xo rfl (fun _=>BI rfl underlying32 DB (vl rfl) (vl rfl) AA AA) (JU 0 rfl rfl (EL rfl GG DB (vl rfl) (UJ (f:=Ec) (fun _=>rfl) AA) rfl) (xm rfl (xm rfl (xo rfl (fun _=>BI rfl underlying32 DB (vl rfl) (vl rfl) AA AA) (JU 0 rfl rfl (EL rfl GG DB (vl rfl) (UJ (f:=Ec) (fun _=>rfl) AA) rfl) (xo rfl (fun _=>BI rfl underlying32 DB (vl rfl) (vl rfl) AA AA) ?_))))))
 refine Cx.DP 0 rfl rfl (BF rfl rfl (vl rfl) (Va rfl) DB rfl (by rw [LH (sz:=8) (fun _=>rfl)];omega) (GQ (f:=Ec) (fun _=>rfl) AA)) ?_
 refine xo rfl (fun _=>BI rfl underlying32 DB (vl rfl) (vl rfl) AA AA) ?_
 refine Cx.DP 0 rfl rfl (BF rfl rfl (vl rfl) (Va rfl) DB rfl (by rw [LH (sz:=8) (fun _=>rfl)];simp only [List.length_set];omega) (GQ (f:=Ec) (fun _=>rfl) (by simp only [List.length_set];omega))) ?_
 refine Cx.nil ⟨rfl,?_⟩
 refine Aw.done (CY.cons (CY.cons (CY.cons (CY.map _)))) (Fin.block (Fin.go (wk3 0 5 11 rfl (Tr.Bt (cm rfl (csu rfl rfl rfl rfl AA (cm rfl (Ch.nil (Fin.C4 (q-1) (_) (_)  (⟨⟨⟨(Rw AA AA).length_eq.trans hn1,by omega⟩,I5.perm (Rw AA AA) hn2⟩,by omega⟩) ⟨⟨_,rfl,int_eq AA⟩,ke rfl,ke rfl,trivial⟩ (fun _ _ h=>h))))))))))
 have:=OR
 refine Tr.exit (Fin.BA (Fin.BA (Fin.Bn (Fin.go (Tr.seq (Tr.eqC 0 (((ns.take m).map Ec).flatten++(((ns.drop m).map Ec).flatten++sp9.map is)) rfl dJ ?_))))))
 have hnt:(ns.take m).length=m:=by rw [List.length_take];omega
 refine Tr.Z8 (sz:=8) ((ns.take m).map Ec) 0 5 rfl rfl (Pr.le_of_eq (by rw [List.length_map,hnt])) (AW fun _=>rfl) B8 hm9 mm ?_
 refine Tr.Bt (cm rfl (cm rfl (Ch.nil (Fin.go (Tr.ret (Fin.HX 1 _ rfl rfl (Fin.Gn [_] rfl (AL.tmp rfl (Lr)) ?_ (fun _ _ _ _=>rfl))))))))
 · exact Pr.le_trans (Ao _ _) (WW hn2.take AA)
 refine cnt N7 rfl (cnt N7 rfl (cnt N7 rfl (co rfl (nL rfl rfl N7 rfl) (Ch.nil (Fin.go (Tr.cond rfl (fun h=>nomatch h) (fun _=> ?_)))))))
 refine Tr.exit (Fin.BA (Fin.BA (Fin.Bn (Fin.go (Tr.seq (Tr.eqC 0 (((ns.take m).map Ec).flatten++(((ns.drop m).map Ec).flatten++sp9.map is)) rfl dJ ?_))))))
 have hnt:(ns.take m).length=m:=by rw [List.length_take];omega
 refine Tr.Z8 (sz:=8) ((ns.take m).map Ec) 0 5 rfl rfl (Pr.le_of_eq (by rw [List.length_map,hnt])) (AW fun _=>rfl) B8 hm9 mm ?_
 refine Tr.Bt (cm rfl (cm rfl (Ch.nil (Fin.go (Tr.ret (Fin.HX 1 _ rfl rfl (Fin.Gn [_] rfl (AL.tmp rfl (Lr)) ?_ (fun _ _ _ _=>rfl))))))))
 · exact Pr.le_trans (Ao _ _) (WW hn2.take AA)
structure Tk (n:Int) (k:Nat) (l:List Int):Prop where
 at_:∀j,j<l.length→setAt n l j=true
 lt:∀x∈l,x<(k:Int)
 len:l.length≤k
theorem Tk.nil (n:Int) (k:Nat):Tk n k []:=⟨fun j hj=>by simp at hj,fun x hx=>by simp at hx,by simp⟩
theorem Tk.step {n:Int} {l:List Int} (h:Tk n k l):Tk n (k+1) l:=⟨h.at_,fun x hx=>by have:=h.lt x hx;omega,by have:=h.len;omega⟩
theorem Tk.snoc {n:Int} {l:List Int} (h:Tk n k l) (hk:(k:Int)<n):Tk n (k+1) (l++[(k:Int)]):=by
 refine ⟨fun j hj=> ?_,fun x hx=> ?_,by have:=h.len;simp;omega⟩
 ·
  rw [List.length_append] at hj;simp at hj
  rcases Nat.lt_or_ge j l.length with hl|hl
  ·
   have:=h.at_ j hl
   unfold setAt at this ⊢
   rw [List.getElem?_append_left hl,List.getElem?_append_left (show j-1<l.length by omega)];exact this
  ·
   have:j=l.length:=by omega
   subst this
   unfold setAt
   rw [List.getElem?_append_right (Nat.le_refl _),Nat.sub_self]
   rcases Nat.eq_zero_or_pos l.length with hz|hz
   ·
    obtain rfl:=List.eq_nil_of_length_eq_zero hz
    simp;omega
   ·
    obtain ⟨y,hy⟩:=Cp.at_ (l:=l) (k:=l.length-1) AA
    rw [List.getElem?_append_left (show l.length-1<l.length by omega),hy]
    have:=h.lt y (List.mem_of_getElem? hy)
    simp;omega
 ·
  rcases List.mem_append.1 hx with hx|hx
  · have:=h.lt x hx;omega
  · simp at hx;subst hx;omega
theorem Tk.set {n:Int} {l:List Int} (h:Tk n k l):Di n l=true:=CD.2 h.at_
structure Ji where
 lo:Int
 hi:Int
 Aj:List Int
structure BV where
 B_:List Ji
 Jj:List Int
 room:List Int
def AAt (w:Ji):List Pr:=[int w.lo,int w.hi,ints w.Aj]
abbrev AFH (l:List Ji):Pr:=slice 3 (l.map AAt)
def Me (c:BV):Pr:=agg [AFH c.B_,ints c.Jj,ints c.room]
instance AFI (l:List Int):One (ints l):=iq _ _
def ES (day:Int) (w:Ji):Bool:=decide (w.lo≤day)&&decide (day<w.hi)
def BV.has (c:BV) (n:Int):Bool:=decide (0≤n)&&decide (n<c.room.length)
def BV.at (c:BV) (day:Int):Int:=idx (ES day) c.B_
def La (n:Int):Bool:=decide (n<0)||decide (n>24)
def Mf (w:Ji):Bool:=decide (w.lo<0)||decide (w.lo≥w.hi)||decide (w.hi>40001)
def WX (l:List Int):Prop:=∀(j:Nat) a b,l[j]? =some a→l[j+1]? =some b→a<b
def ah (l:List Ji):Prop:=∀(j:Nat) a b,l[j]? =some a→l[j+1]? =some b→a.hi≤b.lo
open Classical in
noncomputable def BV.check (c:BV) (ju:Int):Int:=
 if 32<c.B_.length∨8<c.room.length then 3
 else if c.room.any La then 2
 else if c.B_.any Mf then 47
 else if ¬(ah c.B_∧∀w∈c.B_,WX w.Aj) then 6
 else if c.B_.any (fun w=>w.Aj.any fun n=> !c.has n) then 2
 else if (c.Jj.length:Int)≠ju∨c.Jj.any (fun n=> !c.has n) then 1
 else 0
variable {i k:Nat}
noncomputable def BV.own (c:BV):Int:=c.check c.Jj.length
theorem UY {β:Type} (p:β→Bool) (l:List β): -1≤idx p l∧idx p l<l.length:=by
 unfold idx
 cases h:l.findIdx? p with
 |none=>simp;omega
 |some i=>
  rw [List.findIdx?_eq_some_iff_getElem] at h
  obtain ⟨h1,_⟩:=h
  simp;omega
theorem wX {β:Type} {p:β→Bool} {l:List β} (h:0≤idx p l):∃x,l[(idx p l).toNat]? =some x∧p x=true:=by
 unfold idx at*
 cases h':l.findIdx? p with
 |none=>rw [h'] at h;simp at h
 |some i=>
  rw [List.findIdx?_eq_some_iff_getElem] at h'
  obtain ⟨h1,h2,_⟩:=h'
  exact ⟨l[i],by simp,h2⟩
def BV.UZ (c:BV) (day:Int):Option Ji:=c.B_.find? (ES day)
theorem SH {β:Type} (p:β→Bool) (l:List β):l.find? p=if 0≤idx p l then l[(idx p l).toNat]? else none:=by
 unfold idx
 cases h:l.findIdx? p with
 |none=>
  rw [List.findIdx?_eq_none_iff] at h
  rw [if_neg AO,List.find?_eq_none]
  intro x hx;simpa using h x hx
 |some i=>
  rw [List.findIdx?_eq_some_iff_getElem] at h
  obtain ⟨h1,h2,h3⟩:=h
  simp only [Int.natCast_nonneg,if_true,Int.toNat_natCast]
  rw [List.getElem?_eq_getElem h1,List.find?_eq_some_iff_getElem]
  exact ⟨h2,i,h1,rfl,fun j hj=>by simpa using h3 j hj⟩
def BV.may (c:BV) (n day:Int):Bool:=match c.UZ day with|some w=>w.Aj.any (fun x=>n==x)|none=>false
theorem jv {l:List Ji} {x:Ji} (hx:l[k]? =some x) (hp:∀y,0<k→l[k-1]? =some y→y.hi≤x.lo) (h:∀(j:Nat) a b,j+1<k→l[j]? =some a→l[j+1]? =some b→a.hi≤b.lo):
  ∀(j:Nat) a b,j+1<k+1→l[j]? =some a→l[j+1]? =some b→a.hi≤b.lo:=by
 intro j a b hj ha hb
 by_cases hjk:j+1=k
 · exact d_
 · exact h j a b AA ha hb
theorem jw {l:List Int} {x:Int} (hx:l[k]? =some x) (hp:∀y,0<k→l[k-1]? =some y→y<x) (h:∀(j:Nat) a b,j+1<k→l[j]? =some a→l[j+1]? =some b→a<b):
  ∀(j:Nat) a b,j+1<k+1→l[j]? =some a→l[j+1]? =some b→a<b:=by
 intro j a b hj ha hb
 by_cases hjk:j+1=k
 · exact d_
 · exact h j a b AA ha hb
theorem wY {l:List Ji} {x:Ji} (hx:l[k]? =some x) (hp:∀(j:Nat) a b,j+1<x.Aj.length→x.Aj[j]? =some a→x.Aj[j+1]? =some b→a<b) (h:∀(j:Nat) a,j<k→l[j]? =some a→WX a.Aj):
  ∀(j:Nat) a,j<k+1→l[j]? =some a→WX a.Aj:=by
 intro j a hj ha
 by_cases hjk:j=k
 ·
  subst hjk;rw [hx] at ha;cases ha
  intro i u v hu hv
  exact hp i u v (by rcases Nat.lt_or_ge (i+1) x.Aj.length with h|h;exact h;rw [List.getElem?_eq_none h] at hv;cases hv) hu hv
 · exact h j a AA ha
theorem Qi {l:List Ji} (h:(∀(j:Nat) a b,j+1<l.length→l[j]? =some a→l[j+1]? =some b→a.hi≤b.lo)∧∀(j:Nat) a,j<l.length→l[j]? =some a→WX a.Aj):ah l∧∀w∈l,WX w.Aj:=by
 refine ⟨fun j a b ha hb=>h.1 j a b (by rcases Nat.lt_or_ge (j+1) l.length with h|h;exact h;rw [List.getElem?_eq_none h] at hb;cases hb) ha hb,fun w hw=> ?_⟩
 obtain ⟨j,hj,rfl⟩:=List.mem_iff_getElem.1 hw
 exact h.2 j _ hj (List.getElem?_eq_getElem hj)
theorem qV {l:List Ji} {x y:Ji} (hk:0<k) (hx:l[k]? =some x) (hy:l[k-1]? =some y) (h:x.lo<y.hi):¬(ah l∧∀w∈l,WX w.Aj):=by
 rintro ⟨h1,_⟩
 have:=h1 (k-1) y x hy (by rw [show k-1+1=k by omega];exact hx)
 omega
theorem qW {l:List Ji} {x:Ji} {t u:Int} (hx:l[k]? =some x) (hi:0<i) (ht:x.Aj[i]? =some t) (hu:x.Aj[i-1]? =some u) (h:t≤u):¬(ah l∧∀w∈l,WX w.Aj):=by
 rintro ⟨_,h2⟩
 have:=h2 x (List.mem_of_getElem? hx) (i-1) u t hu (by rw [show i-1+1=i by omega];exact ht)
 omega
def ET (n d:Int) (room:Nat→Bool):Nat→List Ji→Option Int
 |_,[]=>none
 |i,w::r=>if d<w.hi∧w.Aj.any (fun x=>n==x)∧room i then some (max d w.lo) else ET n d room (i+1) r
def BV.next (c:BV) (n day:Int) (room:Nat→Bool):Option Int:=ET n (max day 0) room 0 c.B_
theorem gB {β:Type} {l:List β} {x:β} (h:l[k]? =some x):l.drop k=x::l.drop (k+1):=by
 have hk:k<l.length:=by rcases Nat.lt_or_ge k l.length with h'|h';exact h';rw [List.getElem?_eq_none h'] at h;cases h
 rw [List.drop_eq_getElem_cons hk]
 rw [List.getElem?_eq_getElem hk] at h
 simp at h;rw [h]
theorem qX {n d:Int} {room:Nat→Bool} {l:List Ji} {x:Ji} (h:l[k]? =some x) (h1:d<x.hi) (h2:x.Aj.any (fun y=>n==y)=true) (h3:room k=true):ET n d room k (l.drop k)=some (max d x.lo):=by
 rw [gB h,ET,if_pos ⟨h1,h2,h3⟩]
theorem jx {n d:Int} {room:Nat→Bool} {l:List Ji} {x:Ji} (h:l[k]? =some x) (h':¬(d<x.hi∧x.Aj.any (fun y=>n==y)=true∧room k=true)):ET n d room k (l.drop k)=ET n d room (k+1) (l.drop (k+1)):=by
 rw [gB h,ET,if_neg h']
noncomputable def BV.Eh (c:BV) (Aj days others:List Int):Int:=
 if c.own≠0 then c.own else if Aj.length≠days.length then 1 else if 24<Aj.length then 3
 else if (Aj++others).any (fun n=> !c.has n) then 2 else if (Aj.zip days).all (fun p=>c.may p.1 p.2) then 0 else 47
def BV.cell (c:BV) (p:Int×Int):Nat:=(c.at p.2).toNat*8+p.1.toNat
def BV.cnt (c:BV) (l:List (Int×Int)) (k:Nat):Nat:=l.countP fun p=>c.cell p==k
def BV.AFJ (c:BV) (l:List (Int×Int)):List Int:=(List.range 256).map fun k=>(c.cnt l k:Int)
def AFK (c:BV) (l:List (Int×Int)):List Pr:=(c.AFJ l).map fun z=>int z
theorem AAu (c:BV) (l:List (Int×Int)) (k:Nat):c.cnt l k≤l.length:=List.countP_le_length
theorem YH {a b:List Int} {x y:Int} (hx:a[k]? =some x) (hy:b[k]? =some y):(a.zip b).take (k+1)=(a.zip b).take k++[(x,y)]:=by
 have hz:(a.zip b)[k]? =some (x,y):=by rw [List.getElem?_zip_eq_some];exact ⟨hx,hy⟩
 rw [List.take_add_one,hz];rfl
theorem qY {c:BV} {n d:Int} (h:c.may n d=true):0≤c.at d:=by
 have h2:=SH (ES d) c.B_
 unfold BV.may BV.UZ at h
 unfold BV.at
 rcases Int.lt_or_le (idx (ES d) c.B_) 0 with h3|h3
 ·
  rw [if_neg AA] at h2
  rw [h2] at h;cases h
 · exact h3
theorem SI {c:BV} (h:c.own=0):c.B_.length≤32∧c.room.length≤8:=by
 unfold BV.own BV.check at h
 split at h
 · omega
 · omega
theorem qZ {c:BV} {n:Int} (h:c.own=0) (hn:c.has n=true):0≤n∧n<8:=by
 have:=(SI h).2
 unfold BV.has at hn
 simp at hn
 omega
theorem AAv {c:BV} {a b:List Int} {n d:Int} (hx:a[k]? =some n) (hd:b[k]? =some d) (h:(!c.may n d)=true):¬(a.zip b).all (fun p=>c.may p.1 p.2)=true:=by
 intro h2
 rw [List.all_eq_true] at h2
 have hz:(a.zip b)[k]? =some (n,d):=by rw [List.getElem?_zip_eq_some];exact ⟨hx,hd⟩
 have:=h2 _ (List.mem_of_getElem? hz)
 simp [this] at h
theorem wZ {c:BV} {a b:List Int} (h:((a.zip b).take a.length).all (fun p=>c.may p.1 p.2)=true) (hl:a.length=b.length):(a.zip b).all (fun p=>c.may p.1 p.2)=true:=by
 rwa [List.take_of_length_le CL] at h
theorem AAw {c:BV} {l:List Int} {n:Int} (h:l.any (fun n=> !c.has n)=false) (hn:n∈l):c.has n=true:=by
 rw [List.any_eq_false] at h
 simpa using h n hn
def BV.over (c:BV) (l:List (Int×Int)):Prop:=∃(i n:Nat) (r:Int),i<c.B_.length∧c.room[n]? =some r∧r<(c.cnt l (i*8+n):Int)
open Classical in
noncomputable def BV.Dw (c:BV) (Aj days others:List Int):Int:=
 if c.Eh Aj days others≠0 then c.Eh Aj days others else if c.over (Aj.zip days) then 48 else 0
noncomputable def zA (c:BV) (Aj days others:List Int):Pr:=if c.Dw Aj days others=0 then ref (AFK c (Aj.zip days)) else is (.pointer none)
noncomputable instance ACo (c:BV) (Aj days others:List Int):One (zA c Aj days others):=by
 unfold zA;split
 · exact eP _
 · exact eO _
theorem I6 {c:BV} {Aj days others:List Int} (h:c.Eh Aj days others=0):c.own=0:=by
 unfold BV.Eh at h
 by_cases h':c.own=0
 · exact h'
 · rw [if_pos h'] at h;exact absurd h h'
theorem YI {c:BV} {Aj days others:List Int} (h:c.Eh Aj days others=0):∀n∈Aj++others,c.has n=true:=by
 have ho:=I6 h
 unfold BV.Eh at h
 rw [if_neg (not_not_intro ho)] at h
 split at h
 · cases h
 ·
  split at h
  · cases h
  ·
   split at h
   · cases h
   ·
    rename_i h1
    intro n hn
    exact AAw Gb hn
theorem Hj {c:BV} {Aj days others:List Int} (h:c.Dw Aj days others=0):c.Eh Aj days others=0:=by
 unfold BV.Dw at h
 by_cases h':c.Eh Aj days others=0
 · exact h'
 · rw [if_pos h'] at h;exact absurd h h'
theorem aj {c:BV} {l:List (Int×Int)} {i:Nat} (h0:∀i' n r,i'<i→c.room[n]? =some r→(c.cnt l (i'*8+n):Int)≤r) (h1:∀n r,n<c.room.length→c.room[n]? =some r→(c.cnt l (i*8+n):Int)≤r):∀i' n r,i'<i+1→c.room[n]? =some r→(c.cnt l (i'*8+n):Int)≤r:=by
 intro i' n r hi hr
 by_cases hii:i'=i
 ·
  subst hii
  refine h1 n r ?_ hr
  rcases Nat.lt_or_ge n c.room.length with h|h
  · exact h
  · rw [List.getElem?_eq_none h] at hr;cases hr
 · exact h0 i' n r AA hr
theorem ak {c:BV} {l:List (Int×Int)} {i m:Nat} {r:Int} (h0:∀n r,n<m→c.room[n]? =some r→(c.cnt l (i*8+n):Int)≤r) (hx:c.room[m]? =some r) (hle:(c.cnt l (i*8+m):Int)≤r):∀n r,n<m+1→c.room[n]? =some r→(c.cnt l (i*8+n):Int)≤r:=by
 intro n r' hn hr
 by_cases hnm:n=m
 · subst hnm;rw [hx] at hr;cases hr;exact hle
 · exact h0 n r' AA hr
def BV.Mg (c:BV) (n:Int):Int:=(c.room[n.toNat]?).getD 0
theorem SJ {c:BV} {n:Int} (h:c.has n=true):0≤n∧c.room[n.toNat]? =some (c.Mg n):=by
 unfold BV.has at h
 simp at h
 refine ⟨h.1,?_⟩
 have:n.toNat<c.room.length:=by omega
 unfold BV.Mg
 rw [List.getElem?_eq_getElem this];rfl
def BV.free (c:BV) (l:List (Int×Int)) (n:Int) (i:Nat):Bool:=decide ((c.cnt l (i*8+n.toNat):Int)<c.Mg n)
noncomputable def BV.early (c:BV) (Aj days:List Int) (n from_:Int):Option Int:=if c.Dw Aj days [n]=0 then c.next n from_ (c.free (Aj.zip days) n) else none
theorem Mh {c:BV} {n:Int} (h:c.check n=0):(c.B_.length≤32∧c.room.length≤8)∧c.room.any La=false∧c.B_.any Mf=false∧ah c.B_∧(∀w∈c.B_,WX w.Aj)∧c.B_.any (fun w=>w.Aj.any fun n=> !c.has n)=false:=by
 unfold BV.check at h
 split at h
 · cases h
 ·
  split at h
  · cases h
  ·
   split at h
   · cases h
   ·
    split at h
    · cases h
    ·
     split at h
     · cases h
     ·
      rename_i h1 h2 h3 h4 h5
      rw [Classical.not_not] at h4
      exact ⟨by omega,by simpa using h2,by simpa using h3,h4.1,h4.2,by simpa using h5⟩
theorem I7 {c:BV} (h:c.own=0):ah c.B_∧∀w∈c.B_,0≤w.lo∧w.lo<w.hi:=by
 obtain ⟨_,_,h3,h4,_⟩:=Mh h
 refine ⟨h4,fun w hw=> ?_⟩
 rw [List.any_eq_false] at h3
 have:=h3 w hw
 simp [Mf] at this
 omega
abbrev Ua (l:List Ji):Prop:=l.Pairwise fun a b=>a.hi≤b.lo
theorem I8:∀{l:List Ji},ah l→(∀w∈l,0≤w.lo∧w.lo<w.hi)→Ua l
 |[],_,_=>List.Pairwise.nil
 |[a],_,_=>by simp [Ua]
 |a::b::l,h,hw=>by
  have ih:Ua (b::l):=I8 (fun j x y hx hy=>h (j+1) x y FL (by simpa using hy)) (fun w hm=>hw w (List.mem_cons_of_mem _ hm))
  refine List.Pairwise.cons (fun w hm=> ?_) ih
  have h0:=h 0 a b rfl rfl
  rcases List.mem_cons.1 hm with rfl|hm
  · exact h0
  ·
   have h1:=(List.pairwise_cons.1 ih).1 w hm
   have:=hw b AO
   omega
theorem SK {k:Int} {w:Ji} (h:ES k w=true):w.lo≤k∧k<w.hi:=by unfold ES at h;simpa using h
theorem zB {k:Int} {w:Ji} (h:w.lo≤k∧k<w.hi):ES k w=true:=by unfold ES;simpa using h
theorem WY {k:Int}:∀{l:List Ji} {w:Ji},Ua l→w∈l→ES k w=true→l.find? (ES k)=some w
 |a::l,w,hp,hm,hin=>by
  rcases List.mem_cons.1 hm with rfl|hm
  · exact List.find?_cons_of_pos hin
  ·
   have h1:=(List.pairwise_cons.1 hp).1 w hm
   have h2:=SK hin
   rw [List.find?_cons_of_neg (by intro h;have:=SK h;omega)]
   exact WY (List.pairwise_cons.1 hp).2 hm hin
theorem we {c:BV} {t k:Int} (h:c.own=0):c.may t k=true↔∃w∈c.B_,ES k w=true∧w.Aj.any (fun x=>t==x)=true:=by
 obtain ⟨h1,h2⟩:=I7 h
 unfold BV.may BV.UZ
 constructor
 ·
  intro hm
  cases hf:c.B_.find? (ES k) with
  |none=>rw [hf] at hm;cases hm
  |some w=>rw [hf] at hm;exact ⟨w,List.mem_of_find?_eq_some hf,List.find?_some hf,hm⟩
 ·
  rintro ⟨w,hw,hin,ht⟩
  rw [WY (I8 h1 h2) hw hin];exact ht
end Go.Proofs.YtmocaapoeefgkaaGreatDoor
