/-
  Part 4 of the texts that prove this claim, merged.
-/
import Derived.Test.YtmocaapoeefgkaaGreatDoorRcDP3
set_option linter.all false
set_option maxRecDepth 40000
set_option maxHeartbeats 16000000
namespace Go.Proofs.YtmocaapoeefgkaaGreatDoor
open Go Go.RowKit Cp Go.Proofs.Tryz
abbrev ACU:List (List Int):=On++On.map (14:: ·)
theorem J0 {i:Nat} {e:B_} (h:Y0 i e):e.Az∈ACU:=by
 rcases h.Az with h|⟨l,h,h2⟩
 · exact List.mem_append_left _ h
 · rw [h2];exact List.mem_append_right _ (List.mem_map_of_mem h)
theorem U8:∀l∈ACU,Ke l=true∧l.length≤5:=by decide+kernel
theorem U9:∀n∈Ff,QF n=true∧n.length≤3:=by decide+kernel
theorem sk:[2,3].all Q1=true:=by decide+kernel
theorem sn:K7 5 2048 2=true:=by decide+kernel
theorem lW {nm:List UInt8} {k:Nat} {id:Int} (h:Ff[k]? =some nm) (hid:id=100+(k:Nat)) {s:Int} (hs:0≤s∧s<4294967296):idB (HQ nm 5 2048 id 901 1 s)=true:=by
 subst hid
 have hk:k<3:=BI h
 have hv:=U7 h hs (key:=1) AA
 have hk2:Hq (100+(k:Nat))=true:=by unfold Hq;simp;omega
 unfold idB Uy;simp only [sn,hk2,List.all_cons,List.all_nil,hv];simp
theorem sr {i:Nat} {e:B_} (h:Y0 i e):bq e:=by
 have hn:=U9 _ (List.mem_of_getElem? h.name)
 have hs:=U8 _ (J0 h)
 obtain ⟨s,hs1,Uw⟩:=h.ids
 have hm:=h.most;have hl:=h.least
 refine ⟨hn.1,by omega,by omega,by omega,hs.1,by rw [Uw];simp,by rw [h.anchors];simp,by rw [h.anchors];decide,by rw [h.hashes];decide,?_,by rw [h.anchors];decide,by rw [h.hashes];exact sk⟩
 rw [Uw];simp only [List.all_cons,List.all_nil,lW h.name rfl hs1,Bool.and_self]
theorem TG {i:Nat} {e:B_} (h:Y0 i e):e.fits:=by
 have hn:=U9 _ (List.mem_of_getElem? h.name)
 obtain ⟨s,hs1,Uw⟩:=h.ids
 refine ⟨by unfold maxLen;omega,fun x hx c hc=> ?_⟩
 rw [Uw] at hx;simp at hx;subst hx;simp at hc;subst hc
 exact ⟨by show 4≤maxLen;unfold maxLen;omega,by show e.name.length≤maxLen;unfold maxLen;omega,fun n hn2=>by simp at hn2;subst hn2;unfold maxLen;omega⟩
theorem Q6 {i:Nat} {e:B_} (h:Y0 i e):e.small:=by
 have hs:=U8 _ (J0 h)
 obtain ⟨s,hs1,Uw⟩:=h.ids
 refine ⟨by omega,by rw [h.anchors];simp,by rw [h.hashes];simp,by rw [Uw];simp,fun x hx=> ?_⟩
 rw [Uw] at hx;simp at hx;subst hx
 exact ⟨by simp,fun c hc=>by simp at hc;subst hc;simp⟩
theorem lX:Bv.fits:=fun c hc=>by cases hc
theorem ACV {nm:List UInt8} (h:nm∈Ff) {a b id key s:Int} (hab:(a=5∧b=2048)∨(a=7∧b=256)) (hid:0≤id∧id≤1000) (hs:0≤s∧s<4294967296) (hk:0≤key∧key≤2):D6 (LB nm a b id 901 key s)=true:=by
 have hn:named nm=true:=by
  revert h;unfold Ff;intro hm;simp at hm
  rcases hm with rfl|rfl|rfl<;>decide
 have hof:K7 a b 2=true:=by rcases hab with ⟨rfl,rfl⟩|⟨rfl,rfl⟩<;>decide+kernel
 refine b_ ⟨?_,?_,by show named [114,111,111,116]=true;decide,hn,?_,hof,?_,?_,by show K7 3 0 1=true;decide+kernel,hk.1,?_,hs.1,hs.2,by show (0:Int)≤0;omega,by show (0:Int)≤901;omega,by show (901:Int)≤40000;omega,by show (0:Int)≤0;omega,by show (0:Int)≤8;omega,.inr rfl⟩
 · show 0≤id;omega
 · show id≤_;omega
 ·
  show G0 [nm]=true
  unfold G0;rw [Bool.and_eq_true];refine ⟨B7.2 fun j hj=> ?_,by simp⟩
  have:j=0:=by simp at hj;omega
  subst this;unfold nameAt;simp [hn]
 · show 0≤id;omega
 · show id≤_;omega
 · show key≤_;omega
theorem ACW {nm:List UInt8} {a b id:Int} (hab:(a=5∧b=2048)∨(a=7∧b=256)) (hid:0≤id∧id≤1000):(LB nm a b id 901 0 0).Yy:=
 ⟨by show id≤1099511627776;omega,by show id≤2147483648;omega,⟨by show (0:Int)≤a;omega,by show a≤40000;omega⟩,⟨by show (0:Int)≤b;omega,by show b≤40000;omega⟩,⟨by show (0:Int)≤3;omega,by show (3:Int)≤40000;omega⟩,⟨by show (0:Int)≤0;omega,by show (0:Int)≤40000;omega⟩⟩
structure AF3 (es:List B_) (c:BX):Prop where
 lo:0≤c.AX
 hi:c.AX<(es.length:Nat)
 kind:1≤c.kind∧c.kind≤12
 fits:c.C2.fits
 small:c.C2.small
abbrev xj (nm:List UInt8) (a b id to key:Int):Pr:=Cp.ex fun s:Int=>fact (0≤s∧s<4294967296) (OL [LB nm a b id to key s])
theorem ACX {nm:List UInt8} (h:nm∈Ff) {a b id key s:Int}:(HQ nm a b id 901 key s).fits∧(HQ nm a b id 901 key s).small:=by
 have hn:=(U9 _ h).2
 refine ⟨fun c hc=> ?_,⟨by simp,fun c hc=>by simp at hc;subst hc;simp⟩⟩
 simp at hc;subst hc
 exact ⟨by show 4≤maxLen;unfold maxLen;omega,by show nm.length≤maxLen;unfold maxLen;omega,fun n hn2=>by simp at hn2;subst hn2;unfold maxLen;omega⟩
structure Wq where
 CA:Int
 bits:Int
 day:Int
 deriving DecidableEq
abbrev AF4 (x:Wq):List Pr:=[int x.CA,int x.bits,int x.day]
abbrev lY (l:List Wq):Pr:=slice 3 (l.map AF4)
structure U_ where
 name:List UInt8
 kind:Int
 Io:Int
 links:List Wq
 Le:Int
 deriving DecidableEq
abbrev cE (x:U_):List Pr:=[str x.name,int x.kind,int x.Io,lY x.links,int x.Le]
abbrev Q7 (l:List U_):Pr:=slice 5 (l.map cE)
structure IE where
 client:Int
 server:Int
 deriving DecidableEq
abbrev xl (x:IE):List Pr:=[int x.client,int x.server]
abbrev H8 (l:List IE):Pr:=slice 2 (l.map xl)
abbrev FJ:Wq:=⟨0,0,0⟩
abbrev Ga:IE:=⟨0,0⟩
def Gn (l:List Wq) (i:Nat):Bool:=decide (Dj (l[i]?.getD FJ).CA (l[i]?.getD FJ).bits>0)&&decide (0≤(l[i]?.getD FJ).day)&&decide ((l[i]?.getD FJ).day≤40000)&&(decide (i=0)||decide ((l[i-1]?.getD FJ).day<(l[i]?.getD FJ).day))
def ON (x:U_):Bool:=(named x.name&&decide (x.kind=1∨x.kind=2)&&decide (1≤x.Io)&&decide (x.Io≤4)&&decide (1≤x.links.length)&&decide (x.links.length≤8))&&allI (Gn x.links) x.links.length&&(decide ((x.links[0]?.getD FJ).day≤x.Le)&&decide (x.Le≤40000))
structure ACY (x:U_):Prop where
 name:named x.name=true
 kind:x.kind=1∨x.kind=2
 p1:1≤x.Io
 p4:x.Io≤4
 l1:1≤x.links.length
 l8:x.links.length≤8
 lnk:∀j,j<x.links.length→Gn x.links j=true
 u0:(x.links[0]?.getD FJ).day≤x.Le
 u1:x.Le≤40000
theorem Gm {x:U_}:ON x=true↔ACY x:=by
 unfold ON
 simp only [Bool.and_eq_true,decide_eq_true_eq,B7]
 exact ⟨fun ⟨⟨⟨⟨⟨⟨⟨h1,h2⟩,h3⟩,h4⟩,h5⟩,h6⟩,h7⟩,h8,h9⟩=>⟨h1,h2,h3,h4,h5,h6,h7,h8,h9⟩,fun h=>⟨⟨⟨⟨⟨⟨⟨h.name,h.kind⟩,h.p1⟩,h.p4⟩,h.l1⟩,h.l8⟩,h.lnk⟩,h.u0,h.u1⟩⟩
def Ec (n:Nat) (l:List IE) (i:Nat):Bool:=(decide (0≤(l[i]?.getD Ga).client∧(l[i]?.getD Ga).client<n)&&decide (0≤(l[i]?.getD Ga).server∧(l[i]?.getD Ga).server<n)&&decide ((l[i]?.getD Ga).client≠(l[i]?.getD Ga).server))&&(decide (i=0)||decide ((l[i-1]?.getD Ga).client<(l[i]?.getD Ga).client∨((l[i-1]?.getD Ga).client=(l[i]?.getD Ga).client∧(l[i-1]?.getD Ga).server<(l[i]?.getD Ga).server)))
def VA (n:Nat) (l:List IE):Bool:=allI (Ec n l) l.length&&decide (l.length≤40)
theorem Y1 {x:U_}  :BD prog 149 [agg (cE x)] (int (if ON x then 0 else 30)):=by
 refine fo func149 rfl ⟨rfl,rfl⟩ fun M0 w0=> ?_
 refine ac ?_
 refine wk [1] rfl (Tr.UQ [1] [] ((named x.name=true∧(x.kind=1∨x.kind=2)∧1≤x.Io∧x.Io≤4)∧1≤x.links.length∧x.links.length≤8∧(x.links[0]?.getD FJ).day≤x.Le∧x.Le≤40000) ?_ (fun hpre=> ?_))
 refine ac ?_
 refine co rfl (Cn (Gg) rfl rfl) ?_
 refine ag ?_ ?_<;>intro h2 q2
 refine ac ?_
 refine wk [54,1] rfl ?_
 refine a2 ?_
 · refine int_eq (if_neg (fun hv=> ?_)).symm;have ok:=Gm.1 hv;have o1:=ok.name;have o2:=ok.kind;have o3:=ok.p1;have o4:=ok.p4;have o5:=ok.l1;have o6:=ok.l8;have o7:=ok.u0;have o8:=ok.u1;(simp_all)
 refine ag ?_ ?_<;>intro h3 q3
 refine ag ?_ ?_<;>intro h4 q4
 refine ac ?_
 refine wk [54,1] rfl ?_
 refine a2 ?_
 · exact Jc
 refine ag ?_ ?_<;>intro h5 q5
 refine ac ?_
 refine wk [54,1] rfl ?_
 refine a2 ?_
 · exact Jc
 refine ag ?_ ?_<;>intro h6 q6
 refine ac ?_
 refine wk [54,1] rfl ?_
 refine a2 ?_
 · exact Jc
 refine ag ?_ ?_<;>intro h7 q7
 refine ac ?_
 refine wk [54,1] rfl ?_
 refine a2 ?_
 · exact Jc
 refine ag ?_ ?_<;>intro h8 q8
 refine ac ?_
 refine wk [54,1] rfl ?_
 refine a2 ?_
 · exact Jc
 refine ag ?_ ?_<;>intro h9 q9
 refine ac ?_
 refine wk [54,1] rfl ?_
 refine a2 ?_
 · exact Jc
 obtain ⟨c0,hc0⟩:=at_ (l:=x.links) (k:=0) AA
 have hg0:=getD_at (d:=FJ) hc0
 refine ac ?_
 refine cy h9 rfl (AD rfl underlying133 Jo vq vq AA (Aa (k:=0) hc0)) ?_
 refine ac ?_
 refine wk [54,1] rfl ?_
 refine Tr.cn rfl ?_ ?_<;>intro h10 Q4
 refine a2 ?_
 · exact jD
 refine Tr.skip ?_
 exact Fin.AL () ⟨⟨by simp_all,by omega,by omega,by omega⟩,by omega,by omega,by rw [hg0];omega,by omega⟩ kz
 refine ag ?_ ?_<;>intro h11 SK
 refine ac ?_
 refine wk [54,1] rfl ?_
 refine a2 ?_
 · exact Jc
 refine ag ?_ ?_<;>intro h12 Vt
 refine ac ?_
 refine wk [54,1] rfl ?_
 refine a2 ?_
 · exact Jc
 refine ag ?_ ?_<;>intro JR Yv
 refine ac ?_
 refine wk [54,1] rfl ?_
 refine a2 ?_
 · exact Jc
 refine ag ?_ ?_<;>intro Jm lP
 refine ac ?_
 refine wk [54,1] rfl ?_
 refine a2 ?_
 · exact Jc
 refine ag ?_ ?_<;>intro WJ q15
 refine ac ?_
 refine wk [54,1] rfl ?_
 refine a2 ?_
 · exact Jc
 obtain ⟨c0,hc0⟩:=at_ (l:=x.links) (k:=0) AA
 have hg0:=getD_at (d:=FJ) hc0
 refine ac ?_
 refine cy WJ rfl (AD rfl underlying133 Jo vq vq AA (Aa (k:=0) hc0)) ?_
 refine ac ?_
 refine wk [54,1] rfl ?_
 refine Tr.cn rfl ?_ ?_<;>intro h16 q16
 refine a2 ?_
 · exact jD
 refine Tr.skip ?_
 exact Fin.AL () ⟨⟨by simp_all,by omega,by omega,by omega⟩,by omega,by omega,by rw [hg0];omega,by omega⟩ kz
 obtain ⟨⟨hq1,eO,hq3,hq4⟩,hq5,hq6,hq7,hq8⟩:=hpre
 refine ac ?_
 refine Tr.block (Tr.BA _ (kk [1] rfl) (fun k:Nat=>[(3,int ((k:Nat):Int))]) (fun k:Nat=>k≤(x.links).length∧(∀j,j<k→Gn x.links j=true)) (fun k:Nat=>(x.links).length-k) 0 (⟨Nat.zero_le _,fun j hj=>absurd hj AA⟩) kz ?_)
 rintro k ⟨BV,AY⟩
 refine an ?_ ?_<;>intro Og q17
 have Ah:k<(x.links).length:=AH Og
 obtain ⟨c,Ai⟩:=at_ Ah
 have hg:=getD_at (d:=FJ) Ai
 refine a2 ?_
 refine co rfl (AD rfl underlying133 Jo vq vq AA (Aa Ai)) ?_
 refine ac ?_
 refine co rfl (Cn (Ju) rfl rfl) ?_
 refine ag ?_ ?_<;>intro R5 q18
 refine ac ?_
 refine wk [107,3,1] rfl ?_
 refine a2 ?_
 · exact YH
 refine ac ?_
 refine cy R5 rfl (AD rfl underlying133 Jo vq vq AA (Aa Ai)) ?_
 refine ag ?_ ?_<;>intro h19 q19
 refine ac ?_
 refine wk [107,3,1] rfl ?_
 refine a2 ?_
 · exact YH
 refine ac ?_
 refine cy h19 rfl (AD rfl underlying133 Jo vq vq AA (Aa Ai)) ?_
 refine ag ?_ ?_<;>intro R7 q20
 refine ac ?_
 refine wk [107,3,1] rfl ?_
 refine a2 ?_
 · exact YH
 refine ag ?_ ?_<;>intro bk q21
 have hk0:0<k:=by simpa using bk
 obtain ⟨y,hy⟩:=at_ (l:=x.links) (k:=k-1) AA
 have Vq:=getD_at (d:=FJ) hy
 · repeat' first|(refine int_eq (if_neg (fun hv=> ?_)).symm;have ok:=Gm.1 hv;have o1:=ok.name;have o2:=ok.kind;have o3:=ok.p1;have o4:=ok.p4;have o5:=ok.l1;have o6:=ok.l8;have o7:=ok.u0;have o8:=ok.u1;(have h_:=ok.lnk k AA;unfold Gn at h_;rw [hg,Vq] at h_;simp_all;omega))|(exact Fin.AL (k+1) ⟨⟨Ah,D5 AY (by unfold Gn;rw [hg,Vq];simp_all)⟩,by omega⟩ ⟨⟨_,rfl,AG k⟩,kz⟩)|(refine cy bk rfl (AD rfl underlying133 Jo vq vq AA LM) ?_)|refine cy bk rfl (AD rfl underlying133 Jo vq vq AA (Aa Ai)) ?_|refine ac ?_|(refine Tr.cn rfl ?_ ?_<;>intro h q)
 have Lc:¬0<k:=by simpa using bk
 refine ac ?_
 refine wk [107,3,1] rfl ?_
 refine a2 ?_
 exact Fin.AL (k+1) ⟨⟨Ah,D5 AY (by unfold Gn;rw [hg];simp_all)⟩,by omega⟩ ⟨⟨_,rfl,AG k⟩,kz⟩
 have BP:k=(x.links).length:=by have:=AJ Og;omega
 subst BP
 refine a3 ?_
 · refine int_eq (if_pos (Gm.2 ⟨hq1,eO,hq3,hq4,hq5,hq6,AY,by omega,by omega⟩)).symm
theorem xp {d:Nat} {w:World} {x0 y0:Int} {x1 y1:Int}:(Op.equalIn (d+2) 187 (.agg #[.int .i64 x0,.int .i64 x1]) (.agg #[.int .i64 y0,.int .i64 y1])).run Tryz.prog w= .ok (decide (x0=y0∧x1=y1)) w:=by
 have h:=eqS (w:=w) (d:=d+1) (xs:= #[.int .i64 x0,.int .i64 x1]) (ys:= #[.int .i64 y0,.int .i64 y1]) Tryz.underlying187 Be (E4 AB (CC Cj rfl) (CC Cj rfl) (GF (d:=d+0) Tryz.underlying3) (E4 AB (CC Cj rfl) (CC Cj rfl) (GF (d:=d+0) Tryz.underlying3) (MV)))
 refine h.trans (congrArg (fun b=>Result.ok b w) ?_)
 rw [Bool.eq_iff_iff];simp [and_assoc]
theorem lZ {E:Env} {I:Cd} {o:Oper} {u:TypeId} {x y:Operand} {x0 y0:Int} {x1 y1:Int} (ho:o.op= .binOp .neq 187 x y u) (hx:VL E x (agg [is (.int .i64 x0),is (.int .i64 x1)])) (hy:VL E y (agg [is (.int .i64 y0),is (.int .i64 y1)])):Ae Tryz.prog I o E (bool (!decide (x0=y0∧x1=y1))):=
 Qo [.int .i64 x0,.int .i64 x1] [.int .i64 y0,.int .i64 y1] ho hx hy Be (fun w=>by rw [show Op.equal 187 _ _=Op.equalIn (9998+2) 187 _ _ from rfl];exact xp)
deriving instance DecidableEq for ID
deriving instance DecidableEq for JV
deriving instance DecidableEq for B_
deriving instance DecidableEq for BX
theorem vc {α:Type} {a b:List α} {k:Nat} {x y:α} (ha:a[k]? =some x) (hb:b[k]? =some y) (h:a.take k=b.take k) (e:x=y):a.take (k+1)=b.take (k+1):=by
 rw [List.take_add_one,List.take_add_one,ha,hb,h,e]
theorem ve {α:Type} {a b:List α} (hl:a.length=b.length) (h:a.take a.length=b.take a.length):a=b:=by
 rw [List.take_length,hl,List.take_length] at h;exact h
theorem Y2 {a b:ID} (hn:a.names.length≤8796093022208):BD prog 207 [agg (EL a),agg (EL b)] (bool (decide (a=b))):=by
 refine fo func207 rfl ⟨rfl,rfl⟩ fun M0 w0=> ?_
 refine ac ?_
 refine ag ?_ ?_<;>intro h1 q1
 refine ac ?_
 refine wk [89,3,2] rfl ?_
 refine a2 ?_
 · exact FA
 refine ag ?_ ?_<;>intro h2 q2
 refine ac ?_
 refine wk [89,3,2] rfl ?_
 refine a2 ?_
 · exact FA
 refine ag ?_ ?_<;>intro h3 q3
 refine ac ?_
 refine wk [89,3,2] rfl ?_
 refine a2 ?_
 · exact FA
 refine ac ?_
 refine cy h3 rfl (PK rfl vq vq) ?_
 refine ag ?_ ?_<;>intro h4 q4
 refine ac ?_
 refine wk [89,3,2] rfl ?_
 refine a2 ?_
 · exact FA
 refine ag ?_ ?_<;>intro h5 q5
 refine ac ?_
 refine wk [89,3,2] rfl ?_
 refine a2 ?_
 · exact FA
 refine ac ?_
 refine cy h5 rfl (PK rfl vq vq) ?_
 refine ag ?_ ?_<;>intro h6 q6
 refine ac ?_
 refine wk [89,3,2] rfl ?_
 refine a2 ?_
 · exact FA
 refine ag ?_ ?_<;>intro h7 q7
 refine ac ?_
 refine wk [89,3,2] rfl ?_
 refine a2 ?_
 · exact FA
 refine ag ?_ ?_<;>intro h8 q8
 refine ac ?_
 refine wk [89,3,2] rfl ?_
 refine a2 ?_
 · exact FA
 refine ac ?_
 refine cy h8 rfl (Ya rfl underlying4 vq vq) ?_
 refine ag ?_ ?_<;>intro h9 q9
 refine ac ?_
 refine wk [89,3,2] rfl ?_
 refine a2 ?_
 · exact FA
 refine ag ?_ ?_<;>intro h10 Q4
 refine ac ?_
 refine wk [89,3,2] rfl ?_
 refine a2 ?_
 · exact FA
 refine ac ?_
 refine cy h10 rfl (lZ rfl vq vq) ?_
 refine ag ?_ ?_<;>intro h11 SK
 refine ac ?_
 refine wk [89,3,2] rfl ?_
 refine a2 ?_
 · exact FA
 refine ac ?_
 refine wk [89,3,2] rfl ?_
 refine Tr.cn rfl ?_ ?_<;>intro h12 Vt
 refine a2 ?_
 · exact FA
 have Xx:a.names.length=b.names.length:=by simp_all;omega
 refine a2 ?_
 refine Tr.block (Tr.BA _ (kk [92,3,2] rfl) (fun k:Nat=>[(93,int ((k:Nat):Int))]) (fun k:Nat=>k≤(a.names).length∧(a.names.take k=b.names.take k)) (fun k:Nat=>(a.names).length-k) 0 (⟨Nat.zero_le _,rfl⟩) kz ?_)
 rintro k ⟨BV,AY⟩
 refine ac ?_
 refine Tr.seq ?_
 refine Tr.cn rfl ?_ ?_<;>intro JR Yv
 have Ah:k<(a.names).length:=AH JR
 obtain ⟨x,Ai⟩:=at_ Ah
 obtain ⟨y,hy⟩:=at_ (l:=b.names) (k:=k) AA
 · repeat' first|(refine bool_eq ?_;symm;rw [decide_eq_false_iff_not];rintro rfl;rw [Ai] at hy;cases hy;simp_all)|exact Fin.AL (k+1) ⟨⟨Ah,vc Ai hy AY CG⟩,by omega⟩ ⟨⟨_,rfl,AG k⟩,kz⟩|refine co rfl (AD rfl underlying127 NT vq vq AA (Aa Ai)) ?_|refine co rfl (AD rfl underlying127 NT vq vq AA (Aa hy)) ?_|refine ac ?_|(refine Tr.cn rfl ?_ ?_<;>intro h q)
 have BP:k=(a.names).length:=by have:=AJ JR;omega
 subst BP
 refine a3 ?_
 · refine bool_eq ?_;have hnn:=ve Xx AY;clear AY Xx;cases a;cases b;simp_all
theorem Y3 {a b:JV} (hs:a.small):BD prog 162 [agg (G1 a),agg (G1 b)] (bool (decide (a=b))):=by
 refine fo func162 rfl ⟨rfl,rfl⟩ fun M0 w0=> ?_
 have hsc:=hs.chain
 refine a2 ?_
 refine co rfl (PK rfl vq vq) (cm rfl ?_)
 refine Ch.cs 11 rfl ?_ ?_<;>intro h1 q1
 refine ac ?_
 refine wk [26,3,2] rfl ?_
 refine a2 ?_
 · exact FA
 refine ag ?_ ?_<;>intro h2 q2
 refine ac ?_
 refine wk [26,3,2] rfl ?_
 refine a2 ?_
 · exact FA
 refine ac ?_
 refine wk [26,3,2] rfl ?_
 refine Tr.cn rfl ?_ ?_<;>intro h3 q3
 refine a2 ?_
 · exact FA
 have Xx:a.chain.length=b.chain.length:=by simp_all;omega
 refine a2 ?_
 refine Tr.block (Tr.BA _ (kk [29,3,2] rfl) (fun k:Nat=>[(30,int ((k:Nat):Int))]) (fun k:Nat=>k≤(a.chain).length∧(a.chain.take k=b.chain.take k)) (fun k:Nat=>(a.chain).length-k) 0 (⟨Nat.zero_le _,rfl⟩) kz ?_)
 rintro k ⟨BV,AY⟩
 refine ac ?_
 refine Tr.seq ?_
 refine Tr.cn rfl ?_ ?_<;>intro h4 q4
 have Ah:k<(a.chain).length:=AH h4
 obtain ⟨x,Ai⟩:=at_ Ah
 obtain ⟨y,hy⟩:=at_ (l:=b.chain) (k:=k) AA
 have hxn:=hs.names x (List.mem_of_getElem? Ai)
 · repeat' first|(refine bool_eq ?_;symm;rw [decide_eq_false_iff_not];rintro rfl;rw [Ai] at hy;cases hy;simp_all)|exact Fin.AL (k+1) ⟨⟨Ah,vc Ai hy AY CG⟩,by omega⟩ ⟨⟨_,rfl,AG k⟩,kz⟩|refine co rfl (AD rfl underlying82 Di vq vq AA (Aa Ai)) ?_|refine co rfl (AD rfl underlying82 Di vq vq AA (Aa hy)) (co rfl (AQ rfl Gz Di vq rfl rfl) (co rfl (CK (Y2 hxn) rfl rfl rfl) ?_))|refine ac ?_|(refine Tr.cn rfl ?_ ?_<;>intro h q)
 have BP:k=(a.chain).length:=by have:=AJ h4;omega
 subst BP
 refine a3 ?_
 · refine bool_eq ?_;have hnn:=ve Xx AY;clear AY Xx hs;cases a;cases b;simp_all
theorem cF {k:Int} (hk:1≤k∧k≤12):k=1∨k=2∨k=3∨k=4∨k=5∨k=6∨k=7∨k=8∨k=9∨k=10∨k=11∨k=12:=by omega
theorem Wr {e:B_} {c:BX} {f:Int} (hc:JM c) (h:B9 e c= .error f):f≠0:=by
 rcases cF hc.1 with hk|hk|hk|hk|hk|hk|hk|hk|hk|hk|hk|hk
 · rw [PO hk] at h;(repeat' (split at h))<;>first|(injection h with h;omega)|(cases h;done)
 · rw [PR hk] at h;(repeat' (split at h))<;>first|(injection h with h;omega)|(cases h;done)
 · rw [PT hk] at h;(repeat' (split at h))<;>first|(injection h with h;omega)|(cases h;done)
 · rw [PU hk] at h;(repeat' (split at h))<;>first|(injection h with h;omega)|(cases h;done)
 · rw [PV hk] at h;(repeat' (split at h))<;>first|(injection h with h;omega)|(cases h;done)
 · rw [PW hk] at h;(repeat' (split at h))<;>first|(injection h with h;omega)|(cases h;done)
 · rw [PX hk] at h;(repeat' (split at h))<;>first|(injection h with h;omega)|(cases h;done)
 · rw [PY hk] at h;(repeat' (split at h))<;>first|(injection h with h;omega)|(cases h;done)
 · rw [PZ hk] at h;(repeat' (split at h))<;>first|(injection h with h;omega)|(cases h;done)
 · rw [Mf hk] at h;(repeat' (split at h))<;>first|(injection h with h;omega)|(cases h;done)
 · rw [Mg hk] at h;(repeat' (split at h))<;>first|(injection h with h;omega)|(cases h;done)
 · rw [Mh hk] at h;(repeat' (split at h))<;>first|(injection h with h;omega)|(cases h;done)
theorem fU {e:B_} {c:BX} {x:B_} {b:BX} (h:EC e c=(x,b,0)):bq e∧JM c∧B9 e c= .ok (x,b)∧bq x:=by
 unfold EC at h
 split at h
 · cases h
 next h1=>
 split at h
 · cases h
 next h2=>
 have h1 : GO e = true := by cases hh : GO e with
  |true=>rfl
  |false=>exact absurd hh h1
 have h2:JM c:=Classical.not_not.1 h2
 cases hs:B9 e c with
 |error f=>
  rw [hs] at h
  simp only [Prod.mk.injEq] at h
  exact absurd h.2.2 (Wr h2 hs)
 |ok r=>
  obtain ⟨x',b'⟩:=r
  rw [hs] at h
  simp only at h
  split at h
  next h3=>simp only [Prod.mk.injEq,and_true] at h;obtain ⟨rfl,rfl⟩:=h;exact ⟨DG.1 h1,h2,rfl,DG.1 h3⟩
  · cases h
section
variable {α:Type} {p:α→Bool} {l:List α} {a:α} {i:Nat}
end
theorem Y4 {l:List Int} (h:Ke l=true) {i j:Nat} {n:Int} (hi:l[i]? =some n) (hj:l[j]? =some n):i=j:=by
 unfold Ke at h;rw [B7] at h
 have key:∀{a b:Nat},a<b→l[a]? =some n→l[b]? =some n→False:=by
  intro a b hab ha hb
  have:=h b (BI hb)
  unfold GH at this
  rw [getD_at hb] at this
  simp only [Bool.and_eq_true,Bool.not_eq_true',List.any_eq_false] at this
  have:=this.2 n (List.mem_of_getElem? (show (l.take b)[a]? =some n by rw [List.getElem?_take,if_pos hab];exact ha))
  simp at this
 rcases Nat.lt_trichotomy i j with h1|h1|h1
 · exact (key h1 hi hj).elim
 · exact h1
 · exact (key h1 hj hi).elim
def sy (n:Nat):Bool:=decide ((97≤n∧n≤122)∨(65≤n∧n≤90)∨(48≤n∧n≤57)∨n=45∨n=95∨n=46)
theorem Y5:∀n∈List.range 256,Kc [45,95,46] (UInt8.ofNat n)=sy n:=by decide+kernel
theorem TH (c:UInt8):Kc [45,95,46] c=sy c.toNat:=by
 have h:=Y5 c.toNat (List.mem_range.2 c.toNat_lt)
 rw [UInt8.ofNat_toNat] at h;exact h
theorem ld {s:List UInt8}  :BD prog 191 [str s] (bool (QF s)):=by
 refine fo func191 rfl ⟨rfl,rfl⟩ fun M0 w0=> ?_
 refine ac ?_
 refine ag ?_ ?_<;>intro h1 q1
 refine a3 ?_
 · exact aS
 refine an ?_ ?_<;>intro h2 q2
 refine a2 ?_
 · exact aS
 refine a2 ?_
 refine Tr.block (Tr.BA _ (kk [0] rfl) (fun k:Nat=>[(3,int ((k:Nat):Int))]) (fun k:Nat=>k≤(s).length∧(∀j y,j<k→s[j]? =some y→(!Kc [45,95,46] y)=false)) (fun k:Nat=>(s).length-k) 0 (⟨Nat.zero_le _,fun j y hj=>absurd hj AA⟩) kz ?_)
 rintro k ⟨BV,AY⟩
 refine an ?_ ?_<;>intro h3 q3
 have Ah:k<(s).length:=AH h3
 obtain ⟨c,Ai⟩:=at_ Ah
 · repeat' first|(refine bool_eq ?_;unfold QF;rw [Ux (p:=Kc [45,95,46]) Ai (by rw [TH];unfold sy;simp;omega)];rfl)|(exact Fin.AL (k+1) ⟨⟨Ah,DP (p:=fun c=> !Kc [45,95,46] c) Ai (by rw [TH];unfold sy;simp;omega) AY⟩,by omega⟩ ⟨⟨_,rfl,AG k⟩,kz⟩)|refine co rfl (Um rfl underlying9 vq vq AA (Un Bg)) ?_|refine ac ?_|(refine Tr.cn rfl ?_ ?_<;>intro h q)|(refine Ch.cg rfl rfl rfl ?_ ?_<;>intro h q)
 have BP:k=(s).length:=by have:=AJ h3;omega
 subst BP
 refine a3 ?_
 · refine bool_eq ?_;unfold QF;rw [Ma AY,Bool.true_and];symm;rw [decide_eq_true_eq];omega
theorem Bj {a b:Int}  :BD prog 266 [int a,int b] (agg [int a,int b]):=by
 refine fo func266 rfl ⟨rfl,rfl⟩ fun M0 w0=>(Tr.seq (Tr.Ap ?_))
 refine Tl rfl rfl rfl rfl KW EU (fun b1=> ?_)
 refine ap ?_
 refine ap ?_
 refine Tr.ret (Fin.CV rfl (AO.cell 0 rfl rfl JE Ky rfl Lr) ?_)
 · exact Lr
theorem Ce {a l m x1 y1 x2 y2 x3 y3 x4 y4:Int} {s:List UInt8}  :BD prog 267 [int a,str s,agg [int x1,int y1],agg [int x2,int y2],agg [int x3,int y3],agg [int x4,int y4],int l,int m] (agg DN):=by
 refine BD.of func267 rfl rfl Ao fun M0 w0=> ?_
 refine Tr.seq (Tr.Ap ?_)
 iterate 4 refine tp rfl (Bn rfl (Va rfl)) ?_
 refine Tl rfl rfl rfl rfl SG Hz (fun b1=> ?_)
 refine TO.nil (Fin.go (Tr.seq (Tr.Ap (tm rfl (tm rfl ?_)))))
 iterate 4 refine tp rfl (AQ rfl JE Ky (vl rfl) rfl rfl) ?_
 refine tm rfl (tm rfl (tp rfl (Al (rows:=[(0,[_]),(1,[_]),(2,_),(3,_),(4,_),(5,_),(6,[_]),(7,[_])]) rfl WT Hz ⟨⟨rfl,(Vo rfl)⟩,⟨⟨rfl,(Vo rfl)⟩,⟨⟨rfl,(Va rfl)⟩,⟨⟨rfl,(Va rfl)⟩,⟨⟨rfl,(Va rfl)⟩,⟨⟨rfl,(Va rfl)⟩,⟨⟨rfl,(Vo rfl)⟩,⟨⟨rfl,(Vo rfl)⟩,trivial⟩⟩⟩⟩⟩⟩⟩⟩ rfl) (TO.re 25 (agg DN) rfl (Uz rfl) (TO.AK 0 rfl rfl rfl (vl rfl) (Va rfl) rfl Fo rfl rfl (TO.nil (Fin.go (L2 16 rfl (Tr.ret (Fin.CV rfl (AO.cell 0 rfl rfl Ih Fo rfl (Lr)) ?_)))))))))
 · exact Lr
theorem Y6   :BD prog 227 [] (slice 12 Mc):=by
 refine fo func227 rfl ⟨rfl,rfl⟩ fun M0 w0=> ?_
 refine ac ?_
 refine Tr.seq (Tr.Ap (tp rfl (CK (Bj) rfl rfl rfl) (tp rfl (CK (Bj) rfl rfl rfl) (tp rfl (Al (rows:=[]) rfl wv EU trivial rfl) ?_))))
 refine Tl rfl rfl rfl rfl KW EU (fun b1=> ?_)
 refine Tl rfl rfl rfl rfl KW EU (fun b2=> ?_)
 refine Tl rfl rfl rfl rfl KW EU (fun b3=> ?_)
 refine sf 2 1 ⟨rfl,rfl,rfl⟩ rfl rfl rfl rfl ?_
 refine sf 1 2 ⟨rfl,rfl,rfl⟩ rfl rfl rfl rfl ?_
 refine sf 0 3 ⟨rfl,rfl,rfl⟩ rfl rfl rfl rfl ?_
 refine ao ?_
 refine Tr.seq (Tr.Ap (tp rfl (CK (Bj) rfl rfl rfl) (tp rfl (CK (Bj) rfl rfl rfl) ?_)))
 refine Tl rfl rfl rfl rfl KW EU (fun b4=> ?_)
 refine Tl rfl rfl rfl rfl KW EU (fun b5=> ?_)
 refine sf 1 4 ⟨rfl,rfl,rfl⟩ rfl rfl rfl rfl ?_
 refine sf 0 5 ⟨rfl,rfl,rfl⟩ rfl rfl rfl rfl ?_
 refine ao ?_
 refine wk [5,4,3,2,1] rfl (Tr.seq (Tr.Ap (tp rfl (CK (Bj) rfl rfl rfl) (tp rfl (CK (Bj) rfl rfl rfl) (tp rfl (CK (Bj) rfl rfl rfl) ?_)))))
 refine Tl rfl rfl rfl rfl KW EU (fun b6=> ?_)
 refine Tl rfl rfl rfl rfl KW EU (fun b7=> ?_)
 refine Tl rfl rfl rfl rfl KW EU (fun b8=> ?_)
 refine sf 2 6 ⟨rfl,rfl,rfl⟩ rfl rfl rfl rfl ?_
 refine sf 1 7 ⟨rfl,rfl,rfl⟩ rfl rfl rfl rfl ?_
 refine sf 0 8 ⟨rfl,rfl,rfl⟩ rfl rfl rfl rfl ?_
 refine ao ?_
 refine wk [8,7,6,5,4,3,2,1] rfl (Tr.seq (Tr.Ap ?_))
 iterate 4 refine tp rfl (CK (Bj) rfl rfl rfl) ?_
 refine Tl rfl rfl rfl rfl KW EU (fun b9=> ?_)
 refine Tl rfl rfl rfl rfl KW EU (fun b10=> ?_)
 refine Tl rfl rfl rfl rfl KW EU (fun b11=> ?_)
 refine Tl rfl rfl rfl rfl KW EU (fun b12=> ?_)
 refine sf 3 9 ⟨rfl,rfl,rfl⟩ rfl rfl rfl rfl ?_
 refine sf 2 10 ⟨rfl,rfl,rfl⟩ rfl rfl rfl rfl ?_
 refine sf 1 11 ⟨rfl,rfl,rfl⟩ rfl rfl rfl rfl ?_
 refine sf 0 12 ⟨rfl,rfl,rfl⟩ rfl rfl rfl rfl ?_
 refine ao ?_
 refine wk [12,11,10,9,8,7,6,5,4,3,2,1] rfl (Tr.seq (Tr.Ap (tp rfl (CK (Bj) rfl rfl rfl) (tp rfl (CK (Bj) rfl rfl rfl) ?_))))
 refine Tl rfl rfl rfl rfl KW EU (fun b13=> ?_)
 refine Tl rfl rfl rfl rfl KW EU (fun b14=> ?_)
 refine sf 1 13 ⟨rfl,rfl,rfl⟩ rfl rfl rfl rfl ?_
 refine sf 0 14 ⟨rfl,rfl,rfl⟩ rfl rfl rfl rfl ?_
 refine ao ?_
 refine wk [14,13,12,11,10,9,8,7,6,5,4,3,2,1] rfl ?_
 refine ac ?_
 refine co rfl (AV rfl (Ce) ⟨kq,kz⟩) ?_
 refine ac ?_
 refine co rfl (AV rfl (Ce) ⟨kq,kz⟩) ?_
 refine ac ?_
 refine co rfl (AV rfl (Ce) ⟨kq,kz⟩) (co rfl (CK (Bj) rfl rfl rfl) (co rfl (CK (Bj) rfl rfl rfl) ?_))
 refine ac ?_
 refine co rfl (AV rfl (Ce) ⟨kq,kz⟩) (co rfl (CK (Bj) rfl rfl rfl) ?_)
 refine ac ?_
 refine co rfl (AV rfl (Ce) ⟨kq,kz⟩) ?_
 refine ac ?_
 refine co rfl (AV rfl (Ce) ⟨kq,kz⟩) (co rfl (CK (Bj) rfl rfl rfl) ?_)
 refine ac ?_
 refine co rfl (AV rfl (Ce) ⟨kq,kz⟩) ?_
 refine ac ?_
 refine co rfl (AV rfl (Ce) ⟨kq,kz⟩) (co rfl (AQ rfl JE Ky vq rfl rfl) (co rfl (CK (Bj) rfl rfl rfl) (co rfl (CK (Bj) rfl rfl rfl) (co rfl (AQ rfl JE Ky vq rfl rfl) (co rfl (AV rfl (Ce) ⟨kq,kz⟩) ?_)))))
 refine ac ?_
 refine co rfl (AV rfl (Ce) ⟨kq,kz⟩) (co rfl (CK (Bj) rfl rfl rfl) (co rfl (CK (Bj) rfl rfl rfl) ?_))
 refine ac ?_
 refine co rfl (AV rfl (Ce) ⟨kq,kz⟩) ?_
 refine ac ?_
 refine co rfl (AV rfl (Ce) ⟨kq,kz⟩) ?_
 refine ac ?_
 refine co rfl (AV rfl (Ce) ⟨kq,kz⟩) ?_
 refine ac ?_
 refine co rfl (AV rfl (Ce) ⟨kq,kz⟩) ?_
 refine ac ?_
 refine co rfl (AV rfl (Ce) ⟨kq,kz⟩) (co rfl (CK (Bj) rfl rfl rfl) ?_)
 refine ac ?_
 refine co rfl (AV rfl (Ce) ⟨kq,kz⟩) (co rfl (AM (xs:=[.tmp 33,.tmp 38,.tmp 43,.tmp 48,.tmp 53,.tmp 58,.tmp 63,.tmp 68,.tmp 73,.tmp 78,.tmp 83,.tmp 88,.tmp 93,.tmp 98,.tmp 103,.tmp 108]) (rows:=Mc) rfl rfl underlying287 Fo SG rfl AB ⟨⟨Am,VL.le vq (Ad _)⟩,⟨⟨Am,VL.le vq (Ad _)⟩,⟨⟨Am,VL.le vq (Ad _)⟩,⟨⟨Am,VL.le vq (Ad _)⟩,⟨⟨Am,VL.le vq (Ad _)⟩,⟨⟨Am,VL.le vq (Ad _)⟩,⟨⟨Am,VL.le vq (Ad _)⟩,⟨⟨Am,VL.le vq (Ad _)⟩,⟨⟨Am,VL.le vq (Ad _)⟩,⟨⟨Am,VL.le vq (Ad _)⟩,⟨⟨Am,VL.le vq (Ad _)⟩,⟨⟨Am,VL.le vq (Ad _)⟩,⟨⟨Am,VL.le vq (Ad _)⟩,⟨⟨Am,VL.le vq (Ad _)⟩,⟨⟨Am,VL.le vq (Ad _)⟩,⟨⟨Am,VL.le vq (Ad _)⟩,trivial⟩⟩⟩⟩⟩⟩⟩⟩⟩⟩⟩⟩⟩⟩⟩⟩ AB) ?_)
 refine ac ?_
 refine wk [0] rfl ?_
 refine ac ?_
 · exact B0 _ _
theorem fV {code:Int}  :BD prog 192 [int code] (EA [agg DN,int (if 1≤code∧code≤16 then 0 else 8)]):=by
 refine fo func192 rfl ⟨rfl,rfl⟩ fun M0 w0=>(Tr.seq (Tr.Ap ?_))
 refine Tl rfl rfl rfl rfl SG Hz (fun b1=> ?_)
 refine ap ?_
 refine ag ?_ ?_<;>intro h1 q1
 refine ac ?_
 refine Tr.cond rfl (fun _=> ?_) (fun h=>nomatch h)
 refine Tr.seq (Tr.Ap (tp rfl (Al (rows:=[]) rfl WT Hz trivial rfl) (TO.AK 0 rfl rfl rfl vq C1 rfl Fo rfl rfl (tm rfl (TO.nil (Fin.go (Tr.ret (Fin.AE (Fin.Ba rfl (AO.cell 0 rfl rfl Ih Fo rfl Lr) (AO.tmp rfl Lr) ?_)))))))))
 · exact A_ ⟨Uz rfl,int_eq (by rw [if_neg];simp_all;omega),trivial⟩
 refine an ?_ ?_<;>intro h2 q2
 refine ap ?_
 refine Tr.ret (Fin.AE (Fin.Ba rfl (AO.cell 0 rfl rfl Ih Fo rfl Lr) (AO.tmp rfl Lr) ?_))
 · exact A_ ⟨Uz rfl,int_eq (by rw [if_neg];simp_all),trivial⟩
 have hin:1≤code∧code≤16:=by omega
 refine ac ?_
 refine Tr.seq (Tr.Ap (tp rfl (kc0 (Y6) rfl) ?_))
 refine ap ?_
 refine tp rfl (AD rfl underlying287 Fo vq vq AA (lG AA)) ?_
 refine ap ?_
 refine wk [3,2] rfl (Tr.ret (Fin.Ba rfl (AO.cell 0 rfl rfl Ih Fo rfl Lr) (AO.tmp rfl Lr) ?_))
 · exact A_ ⟨Lr,int_eq (by rw [if_pos hin]),trivial⟩
theorem J1 {l:List Int} {v:Int}  :BD prog 193 [ints l,int v] (bool (l.any fun x=>v==x)):=by
 refine fo func193 rfl ⟨rfl,rfl⟩ fun M0 w0=>(Tr.C6 0 rfl fun Eu=> ?_)
 refine a2 ?_
 refine Tr.block (Tr.BA _ (kk [1,0] rfl) (fun k:Nat=>[(5,int ((k:Nat):Int))]) (fun k:Nat=>k≤(l).length∧((l.take k).any (fun x=>v==x)=false)) (fun k:Nat=>(l).length-k) 0 (⟨Nat.zero_le _,rfl⟩) kz ?_)
 rintro k ⟨BV,AY⟩
 refine an ?_ ?_<;>intro h1 q1
 have Ah:k<(l).length:=AH h1
 obtain ⟨x,Ai⟩:=at_ Ah
 · repeat' first|(refine bool_eq ?_;symm;rw [List.any_eq_true];exact ⟨_,List.mem_of_getElem? Ai,by simp_all⟩)|(exact Fin.AL (k+1) ⟨⟨Ah,aa⟩,by omega⟩ ⟨⟨_,rfl,AG k⟩,kz⟩)|refine co rfl (AD rfl underlying22 Bt vq vq AA CF) ?_|refine ac ?_|(refine Tr.cn rfl ?_ ?_<;>intro h q)
 have BP:k=(l).length:=by have:=AJ h1;omega
 subst BP
 refine a3 ?_
 · exact T2
theorem DE {l:List (List UInt8)}:G0 l=true↔(∀j,j<l.length→nameAt l j=true)∧l.length≤8:=by unfold G0;rw [Bool.and_eq_true,B7,decide_eq_true_eq]
theorem Kh {l:List (List UInt8)} {k:Nat} {s:List UInt8} (hs:l[k]? =some s) (h1:named s=true) (h2:0<k→∃y,l[k-1]? =some y∧Lib.compareBytes y s= -1):nameAt l k=true:=by
 unfold nameAt;rw [hs];simp only [Option.getD_some,h1,Bool.true_and,Bool.or_eq_true,decide_eq_true_eq]
 rcases Nat.eq_zero_or_pos k with h0|h0
 · exact .inl h0
 · obtain ⟨y,hy,hc⟩:=h2 h0;rw [hy];exact .inr hc
theorem Lf {c:ID}  :BD prog 188 [agg (EL c)] (int (if D6 c then 0 else 9)):=by
 refine fo func188 rfl ⟨rfl,rfl⟩ fun M0 w0=> ?_
 refine ac ?_
 refine ag ?_ ?_<;>intro h1 q1
 refine ac ?_
 refine wk [39,1] rfl ?_
 refine a2 ?_
 · exact Jb
 refine ag ?_ ?_<;>intro h2 q2
 refine ac ?_
 refine wk [39,1] rfl ?_
 refine a2 ?_
 · exact Jb
 refine ac ?_
 refine cy h2 rfl (Cn (Gg) rfl rfl) ?_
 refine ag ?_ ?_<;>intro h3 q3
 refine ac ?_
 refine wk [39,1] rfl ?_
 refine a2 ?_
 · exact Py
 refine ac ?_
 refine cy h3 rfl (Cn (Gg) rfl rfl) ?_
 refine ag ?_ ?_<;>intro h4 q4
 refine ac ?_
 refine wk [39,1] rfl ?_
 refine a2 ?_
 · exact Py
 refine ac ?_
 refine cy h4 rfl (Cn (Jv) rfl rfl) ?_
 refine ag ?_ ?_<;>intro h5 q5
 refine ac ?_
 refine wk [39,1] rfl ?_
 refine a2 ?_
 · exact Py
 refine ag ?_ ?_<;>intro h6 q6
 refine ac ?_
 refine wk [39,1] rfl ?_
 refine a2 ?_
 · exact Jb
 refine ac ?_
 refine wk [39,1] rfl ?_
 refine Tr.cn rfl ?_ ?_<;>intro h7 q7
 refine a2 ?_
 · exact Jb
 refine a2 ?_
 refine co rfl (Cn (Ju) rfl rfl) ?_
 refine ag ?_ ?_<;>intro h8 q8
 refine ac ?_
 refine wk [67,1] rfl ?_
 refine a2 ?_
 · refine int_eq (if_neg (fun hv=> ?_)).symm;have vf:=JA hv;obtain ⟨X0,X5,Pp,Pq,JL,Gl,X6,X7,E_,Pt,Pu,Pv,Pw,X8,X9,X_,YA,YB,YC⟩:=vf;have YD:=(DE.1 JL).2;unfold K7 at Gl E_;simp_all;omega
 refine ac ?_
 refine cy h8 rfl (Cn (PM) rfl rfl) ?_
 refine ag ?_ ?_<;>intro h9 q9
 refine ac ?_
 refine wk [67,1] rfl ?_
 refine a2 ?_
 · exact Py
 refine ag ?_ ?_<;>intro h10 Q4
 refine ac ?_
 refine wk [67,1] rfl ?_
 refine a2 ?_
 · exact Jb
 refine ag ?_ ?_<;>intro h11 SK
 refine ac ?_
 refine wk [67,1] rfl ?_
 refine a2 ?_
 · exact Jb
 refine ac ?_
 refine wk [67,1] rfl ?_
 refine Tr.cn rfl ?_ ?_<;>intro h12 Vt
 refine a2 ?_
 · exact Jb
 refine ac ?_
 refine ag ?_ ?_<;>intro JR Yv
 refine ac ?_
 refine wk [91,1] rfl ?_
 refine a2 ?_
 · exact Jb
 refine ag ?_ ?_<;>intro Jm lP
 refine ac ?_
 refine wk [91,1] rfl ?_
 refine a2 ?_
 · exact Jb
 refine ag ?_ ?_<;>intro WJ q15
 refine ag ?_ ?_<;>intro h16 q16
 refine ac ?_
 refine wk [91,1] rfl ?_
 refine a2 ?_
 · exact Py
 refine ac ?_
 refine wk [91,1] rfl ?_
 refine Tr.cn rfl ?_ ?_<;>intro Og q17
 refine a2 ?_
 · exact Jb
 refine a2 ?_
 refine Tr.block (Tr.BA _ (kk [1] rfl) (fun k:Nat=>[(3,int ((k:Nat):Int))]) (fun k:Nat=>k≤(c.names).length∧(∀j,j<k→nameAt c.names j=true)) (fun k:Nat=>(c.names).length-k) 0 (⟨Nat.zero_le _,fun j hj=>absurd hj AA⟩) kz ?_)
 rintro k ⟨BV,AY⟩
 refine an ?_ ?_<;>intro R5 q18
 have Ah:k<(c.names).length:=AH R5
 obtain ⟨s,Ai⟩:=at_ Ah
 refine a2 ?_
 refine co rfl (AD rfl underlying127 NT vq vq AA (Aa Ai)) (co rfl (GU rfl Oh rfl) (co rfl (Cn (Gg) rfl rfl) ?_))
 refine ag ?_ ?_<;>intro h19 q19
 refine ac ?_
 refine wk [123,3,1] rfl ?_
 refine a2 ?_
 · exact i_
 refine ag ?_ ?_<;>intro R7 q20
 have Lc:0<k:=by simpa using R7
 obtain ⟨y,hy⟩:=at_ (l:=c.names) (k:=k-1) AA
 · repeat' first|(refine int_eq (if_neg (fun hv=> ?_)).symm;have vf:=JA hv;obtain ⟨X0,X5,Pp,Pq,JL,Gl,X6,X7,E_,Pt,Pu,Pv,Pw,X8,X9,X_,YA,YB,YC⟩:=vf;have YD:=(DE.1 JL).2;unfold K7 at Gl E_;have Xt:=(DE.1 JL).1 k AA;unfold nameAt at Xt;simp_all)|(exact Fin.AL (k+1) ⟨⟨Ah,(fun j hj=>by rcases Nat.lt_or_eq_of_le (Nat.le_of_lt_succ hj) with h_|h_;exact AY j h_;(subst h_;refine Kh Ai CG (fun h0=> ?_);exact ⟨y,hy,by simp_all⟩))⟩,by omega⟩ ⟨⟨_,rfl,AG k⟩,kz⟩)|(refine cy R7 rfl (AD rfl underlying127 NT vq vq AA LM) ?_)|refine cy R7 rfl (AD rfl underlying127 NT vq vq AA (Aa Ai)) (cy R7 rfl (GU rfl Oh rfl) (cy R7 rfl (Qm rfl vq vq) ?_))|refine ac ?_|(refine Tr.cn rfl ?_ ?_<;>intro h q)
 have Lc:¬0<k:=by simpa using R7
 refine ac ?_
 refine wk [123,3,1] rfl ?_
 refine a2 ?_
 exact Fin.AL (k+1) ⟨⟨Ah,(fun j hj=>by rcases Nat.lt_or_eq_of_le (Nat.le_of_lt_succ hj) with h_|h_;exact AY j h_;(subst h_;refine Kh Ai CG (fun h0=> ?_);exact absurd h0 Lc))⟩,by omega⟩ ⟨⟨_,rfl,AG k⟩,kz⟩
 have BP:k=(c.names).length:=by have:=AJ R5;omega
 subst BP
 · repeat' first|(refine int_eq (if_neg (fun hv=> ?_)).symm;have vf:=JA hv;obtain ⟨X0,X5,Pp,Pq,JL,Gl,X6,X7,E_,Pt,Pu,Pv,Pw,X8,X9,X_,YA,YB,YC⟩:=vf;have YD:=(DE.1 JL).2;unfold K7 at Gl E_;omega)|(refine int_eq (if_pos (b_ ⟨by omega,by omega,by simp_all,by simp_all,DE.2 ⟨AY,by omega⟩,by unfold K7;simp_all,by omega,by omega,by unfold K7;simp_all,by omega,by omega,by omega,by omega,by omega,by omega,by omega,by omega,by omega,by right;omega⟩)).symm)|refine ac ?_|(refine Tr.cn rfl ?_ ?_<;>intro h q)|(refine Ch.cg rfl rfl rfl ?_ ?_<;>intro h q)
 refine ac ?_
 refine wk [91,1] rfl ?_
 refine Tr.cn rfl ?_ ?_<;>intro h26 q26
 refine a2 ?_
 · exact Jb
 refine a2 ?_
 refine Tr.block (Tr.BA _ (kk [1] rfl) (fun k:Nat=>[(3,int ((k:Nat):Int))]) (fun k:Nat=>k≤(c.names).length∧(∀j,j<k→nameAt c.names j=true)) (fun k:Nat=>(c.names).length-k) 0 (⟨Nat.zero_le _,fun j hj=>absurd hj AA⟩) kz ?_)
 rintro k ⟨BV,AY⟩
 refine an ?_ ?_<;>intro h27 q27
 have Ah:k<(c.names).length:=AH h27
 obtain ⟨s,Ai⟩:=at_ Ah
 refine a2 ?_
 refine co rfl (AD rfl underlying127 NT vq vq AA (Aa Ai)) (co rfl (GU rfl Oh rfl) (co rfl (Cn (Gg) rfl rfl) ?_))
 refine ag ?_ ?_<;>intro h28 q28
 refine ac ?_
 refine wk [123,3,1] rfl ?_
 refine a2 ?_
 · exact i_
 refine ag ?_ ?_<;>intro iy q29
 have Lc:0<k:=by simpa using iy
 obtain ⟨y,hy⟩:=at_ (l:=c.names) (k:=k-1) AA
 · repeat' first|(refine int_eq (if_neg (fun hv=> ?_)).symm;have vf:=JA hv;obtain ⟨X0,X5,Pp,Pq,JL,Gl,X6,X7,E_,Pt,Pu,Pv,Pw,X8,X9,X_,YA,YB,YC⟩:=vf;have YD:=(DE.1 JL).2;unfold K7 at Gl E_;have Xt:=(DE.1 JL).1 k AA;unfold nameAt at Xt;simp_all)|(exact Fin.AL (k+1) ⟨⟨Ah,(fun j hj=>by rcases Nat.lt_or_eq_of_le (Nat.le_of_lt_succ hj) with h_|h_;exact AY j h_;(subst h_;refine Kh Ai CG (fun h0=> ?_);exact ⟨y,hy,by simp_all⟩))⟩,by omega⟩ ⟨⟨_,rfl,AG k⟩,kz⟩)|(refine cy iy rfl (AD rfl underlying127 NT vq vq AA LM) ?_)|refine cy iy rfl (AD rfl underlying127 NT vq vq AA (Aa Ai)) (cy iy rfl (GU rfl Oh rfl) (cy iy rfl (Qm rfl vq vq) ?_))|refine ac ?_|(refine Tr.cn rfl ?_ ?_<;>intro h q)
 have Lc:¬0<k:=by simpa using iy
 refine ac ?_
 refine wk [123,3,1] rfl ?_
 refine a2 ?_
 exact Fin.AL (k+1) ⟨⟨Ah,(fun j hj=>by rcases Nat.lt_or_eq_of_le (Nat.le_of_lt_succ hj) with h_|h_;exact AY j h_;(subst h_;refine Kh Ai CG (fun h0=> ?_);exact absurd h0 Lc))⟩,by omega⟩ ⟨⟨_,rfl,AG k⟩,kz⟩
 have BP:k=(c.names).length:=by have:=AJ h27;omega
 subst BP
 · repeat' first|(refine int_eq (if_neg (fun hv=> ?_)).symm;have vf:=JA hv;obtain ⟨X0,X5,Pp,Pq,JL,Gl,X6,X7,E_,Pt,Pu,Pv,Pw,X8,X9,X_,YA,YB,YC⟩:=vf;have YD:=(DE.1 JL).2;unfold K7 at Gl E_;omega)|(refine int_eq (if_pos (b_ ⟨by omega,by omega,by simp_all,by simp_all,DE.2 ⟨AY,by omega⟩,by unfold K7;simp_all,by omega,by omega,by unfold K7;simp_all,by omega,by omega,by omega,by omega,by omega,by omega,by omega,by omega,by omega,by left;simp_all⟩)).symm)|refine ac ?_|(refine Tr.cn rfl ?_ ?_<;>intro h q)|(refine Ch.cg rfl rfl rfl ?_ ?_<;>intro h q)
theorem and1 {a b:Bool} (h:(a&&b)=true):a=true:=by simp at h;exact h.1
theorem xq {a b:Bool} (h:(a&&b)=true):b=true:=by simp at h;exact h.2
theorem lf:∀(n:Nat) (l:List Int),(∀x∈l,1≤x∧x≤(n:Int))→l.Nodup→l.length≤n
 |0,l,h,_=>by
  cases l with
  |nil=>exact Nat.le_refl _
  |cons a l=>have:=h a (List.mem_cons_self ..);omega
 |n+1,l,h,hn=>by
  have ih:=lf n (l.erase ((n:Int)+1)) (fun x hx=>by
   have h1:=h x (List.mem_of_mem_erase hx)
   have h2:=(hn.mem_erase_iff.1 hx).1
   omega) (hn.erase _)
  rw [List.length_erase] at ih
  split at ih<;>omega
theorem Sh {l:List Int} (h:Ke l=true):l.length≤16:=by
 refine lf 16 l (fun x hx=> ?_) ?_
 ·
  obtain ⟨j,hj⟩:=List.getElem?_of_mem hx
  have h1:=B7.1 (show allI (GH l) l.length=true from h) j (BI hj)
  unfold GH at h1;rw [getD_at hj] at h1
  have:=and1 h1
  simpa using this
 ·
  refine List.pairwise_iff_getElem.2 fun i j hi hj hij he=> ?_
  have:=Y4 h (List.getElem?_eq_getElem hi) (by rw [he];exact List.getElem?_eq_getElem hj)
  omega
theorem lp {p:Int→Bool} {l:List Int} (h:∀j,j<l.length→p (l[j]?.getD 0)=true):l.all p=true:=List.all_eq_true.2 fun x hx=>by
 obtain ⟨j,hj⟩:=List.getElem?_of_mem hx
 have:=h j (BI hj)
 rw [getD_at hj] at this;exact this
theorem fW {CA bits id:Int} {l:List ID}  :BD prog 194 [agg [int CA,int bits],int id,OL l] (bool (Uy CA bits id l)):=by
 refine fo func194 rfl ⟨rfl,rfl⟩ fun M0 w0=>(Tr.C6 2 rfl fun lq=> ?_)
 refine a2 ?_
 refine co rfl (Cn (Jv) rfl rfl) ?_
 refine ag ?_ ?_<;>intro h1 q1
 refine ac ?_
 refine wk [23,3,2,1] rfl ?_
 refine a2 ?_
 · refine bool_eq ?_;rw [Gh];unfold K7 Hq;simp_all
 refine ag ?_ ?_<;>intro h2 q2
 refine ac ?_
 refine wk [23,3,2,1] rfl ?_
 refine a2 ?_
 · exact T9
 refine ag ?_ ?_<;>intro h3 q3
 refine ac ?_
 refine wk [23,3,2,1] rfl ?_
 refine a2 ?_
 · exact T9
 refine ac ?_
 refine wk [23,3,2,1] rfl ?_
 refine Tr.cn rfl ?_ ?_<;>intro h4 q4
 refine a2 ?_
 · exact T9
 refine a2 ?_
 refine Tr.block (Tr.BA _ (kk [3,2,1] rfl) (fun k:Nat=>[(7,int ((k:Nat):Int))]) (fun k:Nat=>k≤(l).length∧(∀j y,j<k→l[j]? =some y→(!D6 y)=false)) (fun k:Nat=>(l).length-k) 0 (⟨Nat.zero_le _,fun j y hj=>absurd hj AA⟩) kz ?_)
 rintro k ⟨BV,AY⟩
 refine an ?_ ?_<;>intro h5 q5
 have Ah:k<(l).length:=AH h5
 obtain ⟨c,Ai⟩:=at_ Ah
 · repeat' first|(refine bool_eq ?_;rw [Gh];unfold K7 Hq;rw [Ux (p:=D6) Ai CG];simp)|exact Fin.AL (k+1) ⟨⟨Ah,DP (p:=fun c=> !D6 c) Ai CG AY⟩,by omega⟩ ⟨⟨_,rfl,AG k⟩,kz⟩|refine co rfl (AD rfl underlying82 Di vq vq AA (Aa Ai)) (co rfl (AQ rfl Gz Di vq rfl rfl) (co rfl (Cn (Lf) rfl rfl) ?_))|refine ac ?_|(refine Tr.cn rfl ?_ ?_<;>intro h q)
 have BP:k=(l).length:=by have:=AJ h5;omega
 subst BP
 have hall:=Ma AY
 refine ac ?_
 refine ag ?_ ?_<;>intro h7 q7
 refine ac ?_
 refine wk [6] rfl ?_
 refine ac ?_
 · refine bool_eq ?_;rw [Gh];unfold K7 Hq;rw [hall,fB CG];simp_all
 obtain ⟨c0,hc0⟩:=at_ (l:=l) (k:=0) (by have:=h7;simp at this;exact List.length_pos_iff.2 this)
 refine ML h7 rfl ?_
 refine cy h7 rfl (AD rfl underlying82 Di vq vq AA (Aa (k:=0) hc0)) ?_
 refine ac ?_
 refine cy h7 rfl (sG rfl vq vq) (ML h7 rfl ?_)
 refine Ch.cs 46 rfl ?_ ?_<;>intro h8 q8
 refine ML h8 rfl ?_
 refine cy h8 rfl (AD rfl underlying82 Di vq vq AA (Aa (k:=0) hc0)) ?_
 refine ac ?_
 refine wk [6] rfl ?_
 refine ac ?_
 · refine bool_eq ?_;rw [Gh];unfold K7 Hq;rw [hall,Wj hc0];clear hall AY hc0;simp_all;omega
 refine ac ?_
 refine wk [6] rfl ?_
 refine ac ?_
 · refine bool_eq ?_;rw [Gh];unfold K7 Hq;rw [hall,Wj hc0];clear hall AY hc0;simp_all
theorem Y7 {e:B_} (hs3:e.hashes.length≤17592186044416):BD prog 148 [agg (Bk e)] (int (if GO e then 0 else 19)):=by
 refine fo func148 rfl ⟨rfl,rfl⟩ fun M0 w0=> ?_
 refine ac ?_
 refine ac ?_
 refine co rfl (Cn (ld) rfl rfl) ?_
 refine ac ?_
 refine Ch.cs 13 rfl ?_ ?_<;>intro h1 q1
 refine ac ?_
 refine UX 1 47 rfl ?_
 refine ac ?_
 refine ac ?_
 · refine int_eq (if_neg (fun hv=> ?_)).symm;have ok:=DG.1 hv;have v1:=ok.name;have v2:=ok.least;have v3:=ok.lm;have v4:=ok.most;have v5:=Sh ok.Az;have v6:=ok.YE;have v7:=ok.AAM;simp_all
 refine ac ?_
 refine Ch.cs 18 rfl ?_ ?_<;>intro h2 q2
 refine ac ?_
 refine UX 1 47 rfl ?_
 refine ac ?_
 refine ac ?_
 · exact NC
 refine ac ?_
 refine Ch.cs 25 rfl ?_ ?_<;>intro h3 q3
 refine ac ?_
 refine UX 1 47 rfl ?_
 refine ac ?_
 refine ac ?_
 · exact NC
 refine ac ?_
 refine Ch.cs 30 rfl ?_ ?_<;>intro h4 q4
 refine ac ?_
 refine UX 1 47 rfl ?_
 refine ac ?_
 refine ac ?_
 · exact NC
 refine ac ?_
 refine Ch.cs 36 rfl ?_ ?_<;>intro h5 q5
 refine ac ?_
 refine UX 1 47 rfl ?_
 refine ac ?_
 refine ac ?_
 · exact NC
 refine ac ?_
 refine Ch.cs 42 rfl ?_ ?_<;>intro h6 q6
 refine ac ?_
 refine UX 1 47 rfl ?_
 refine ac ?_
 refine ac ?_
 · exact NC
 refine ac ?_
 refine UX 1 47 rfl ?_
 refine Tr.cn rfl ?_ ?_<;>intro h7 q7
 refine ac ?_
 refine ac ?_
 · exact NC
 refine ac ?_
 refine ac ?_
 refine Tr.block (Tr.BA [(1,_)] ⟨ke rfl,trivial⟩ (fun i:Nat=>[(3,int ((i:Nat):Int))]) (fun i:Nat=>i≤(e.Az).length∧(∀j,j<i→GH e.Az j=true)) (fun i:Nat=>(e.Az).length-i) 0 (⟨Nat.zero_le _,fun j hj=>absurd hj AA⟩) ⟨ke rfl,trivial⟩ ?_)
 rintro i ⟨Ws,Ex⟩
 refine ac ?_
 refine Tr.cn rfl ?_ ?_<;>intro h8 q8
 have JW:i<(e.Az).length:=AH h8
 obtain ⟨x,Kv⟩:=at_ JW
 have hg:=getD_at (d:=(0:Int)) Kv
 refine ac ?_
 refine ao ?_
 refine tp rfl (AD rfl underlying22 Bt (vl rfl) (vl rfl) AA (Aa Kv)) (tp rfl (GU rfl Cj rfl) (tp rfl (Cn (fV) rfl rfl) ?_))
 refine ao ?_
 refine Tl rfl rfl rfl rfl SG Hz (fun b1=> ?_)
 refine sf 0 4 ⟨rfl,rfl,rfl⟩ rfl rfl rfl rfl ?_
 refine ao ?_
 refine GM 1 3 5 rfl ?_
 refine ac ?_
 refine Ch.cs 66 rfl ?_ ?_<;>intro h9 q9
 have AF5:¬(1≤x∧x≤16):=by intro hh;rw [if_pos hh] at h9;exact absurd h9 AB
 refine ac ?_
 refine GM 1 3 77 rfl ?_
 refine ac ?_
 refine ac ?_
 · refine int_eq (if_neg (fun hv=> ?_)).symm;have ok:=DG.1 hv;have h_:=B7.1 (show allI (GH e.Az) e.Az.length=true from ok.Az) i AA;unfold GH at h_;rw [hg] at h_;exact AF5 (by simpa using and1 h_)
 have hin:1≤x∧x≤16:=by refine Decidable.byContradiction fun hh=> ?_;rw [if_neg hh] at h9;exact absurd h9 AB
 refine ac ?_
 refine cy h9 rfl (DM rfl underlying22 Bt (vl rfl) (vl rfl) AA B4) ?_
 refine ac ?_
 refine cy h9 rfl (AD rfl underlying22 Bt (vl rfl) (vl rfl) AA (Aa Kv)) (cy h9 rfl (GU rfl Cj rfl) ?_)
 refine cy h9 rfl (AV rfl (J1 (l:=e.Az.take i) (v:=x)) ⟨⟨_,rfl,Pr.le_of_eq (by rw [←List.map_take,Int.toNat_natCast])⟩,ke rfl,trivial⟩) ?_
 refine ac ?_
 refine GM 1 3 77 rfl ?_
 refine Tr.cn rfl ?_ ?_<;>intro h10 Q4
 refine ac ?_
 refine ac ?_
 · refine int_eq (if_neg (fun hv=> ?_)).symm;have ok:=DG.1 hv;have h_:=B7.1 (show allI (GH e.Az) e.Az.length=true from ok.Az) i AA;unfold GH at h_;rw [hg] at h_;exact absurd (by assumption:((e.Az.take i).any fun y=>x==y)=true) (by have h2:=xq h_;rw [Bool.not_eq_true'] at h2;rw [h2];decide)
 refine ac ?_
 refine ac ?_
 exact Fin.AL (i+1) ⟨⟨JW,D5 Ex (by unfold GH;rw [hg];rw [decide_eq_true hin];simp_all)⟩,by omega⟩ ⟨⟨_,rfl,AG i⟩,ke rfl,trivial⟩
 have Oo:i=(e.Az).length:=by have:=AJ h8;omega
 subst Oo
 refine ac ?_
 refine ac ?_
 refine Tr.block (Tr.BA [(1,_)] ⟨ke rfl,trivial⟩ (fun m:Nat=>[(6,int ((m:Nat):Int))]) (fun m:Nat=>m≤(e.ids).length∧(∀j y,j<m→e.ids[j]? =some y→(!idB y)=false)) (fun m:Nat=>(e.ids).length-m) 0 (⟨Nat.zero_le _,fun j y hj=>absurd hj AA⟩) ⟨ke rfl,trivial⟩ ?_)
 rintro m ⟨LC,Hg⟩
 refine ac ?_
 refine Tr.cn rfl ?_ ?_<;>intro h11 SK
 have D7:m<(e.ids).length:=AH h11
 obtain ⟨x,D_⟩:=at_ D7
 refine ac ?_
 refine ac ?_
 refine co rfl (AD rfl underlying38 Fc (vl rfl) (vl rfl) AA (Aa D_)) ?_
 refine ac ?_
 refine co rfl (AD rfl underlying38 Fc (vl rfl) (vl rfl) AA (Aa D_)) ?_
 refine ac ?_
 refine co rfl (AD rfl underlying38 Fc (vl rfl) (vl rfl) AA (Aa D_)) ?_
 refine ac ?_
 refine co rfl (K0 (fW) rfl rfl rfl rfl) ?_
 refine ac ?_
 refine GM 1 6 104 rfl ?_
 refine Tr.cn rfl ?_ ?_<;>intro h12 Vt
 refine ac ?_
 refine ac ?_
 · refine int_eq (if_neg (fun hv=> ?_)).symm;have ok:=DG.1 hv;have h_:=List.all_eq_true.1 ok.ids x (List.mem_of_getElem? D_);unfold idB at h_;simp_all
 refine ac ?_
 refine ac ?_
 exact Fin.AL (m+1) ⟨⟨D7,DP (p:=fun c=> !idB c) D_ (by unfold idB;simp_all) Hg⟩,by omega⟩ ⟨⟨_,rfl,AG m⟩,ke rfl,trivial⟩
 have Ip:m=(e.ids).length:=by have:=AJ h11;omega
 subst Ip
 have hall:=Ma Hg
 refine ac ?_
 refine ac ?_
 refine Tr.block (Tr.BA [(1,_)] ⟨ke rfl,trivial⟩ (fun o:Nat=>[(7,int ((o:Nat):Int))]) (fun o:Nat=>o≤(e.anchors).length∧(∀j,j<o→(H7 e.anchors j&&Hq (e.anchors[j]?.getD 0))=true)) (fun o:Nat=>(e.anchors).length-o) 0 (⟨Nat.zero_le _,fun j hj=>absurd hj AA⟩) ⟨ke rfl,trivial⟩ ?_)
 rintro o ⟨ACZ,Lh⟩
 refine ac ?_
 refine Tr.cn rfl ?_ ?_<;>intro JR Yv
 have fX:o<(e.anchors).length:=AH JR
 obtain ⟨a,T0⟩:=at_ fX
 have hg:=getD_at (d:=(0:Int)) T0
 refine ac ?_
 refine ac ?_
 refine co rfl (AD rfl underlying22 Bt (vl rfl) (vl rfl) AA (Aa T0)) ?_
 refine ac ?_
 refine Ch.cs 118 rfl ?_ ?_<;>intro Jm lP
 refine ac ?_
 refine GM 1 7 143 rfl ?_
 refine ac ?_
 refine ac ?_
 · exact jI
 refine ac ?_
 refine cy Jm rfl (AD rfl underlying22 Bt (vl rfl) (vl rfl) AA (Aa T0)) ?_
 refine ac ?_
 refine Ch.cs 126 rfl ?_ ?_<;>intro WJ q15
 refine ac ?_
 refine GM 1 7 143 rfl ?_
 refine ac ?_
 refine ac ?_
 · exact jI
 refine ac ?_
 refine Ch.cs 129 rfl ?_ ?_<;>intro h16 q16
 have hk0:0<o:=by simpa using h16
 obtain ⟨y,hy⟩:=at_ (l:=e.anchors) (k:=o-1) AA
 have Vq:=getD_at (d:=(0:Int)) hy
 refine ac ?_
 refine cy h16 rfl (AD rfl underlying22 Bt (vl rfl) (vl rfl) AA (by rw [show ((o:Nat):Int)-1=((o-1:Nat):Int) by omega];exact Aa hy)) ?_
 refine ac ?_
 refine cy h16 rfl (AD rfl underlying22 Bt (vl rfl) (vl rfl) AA (Aa T0)) ?_
 refine ac ?_
 refine GM 1 7 143 rfl ?_
 refine Tr.cn rfl ?_ ?_<;>intro Og q17
 refine ac ?_
 refine ac ?_
 · refine int_eq (if_neg (fun hv=> ?_)).symm;have ok:=DG.1 hv;have h_:=B7.1 (show allI (H7 e.anchors) e.anchors.length=true from ok.anc) o AA;unfold H7 at h_;rw [hg,Vq] at h_;simp at h_;omega
 refine ac ?_
 refine ac ?_
 exact Fin.AL (o+1) ⟨⟨fX,(fun j hj=>by rcases Nat.lt_or_eq_of_le (Nat.le_of_lt_succ hj) with h_|h_;exact Lh j h_;(subst h_;unfold H7 Hq;rw [hg];rw [Vq];simp_all))⟩,by omega⟩ ⟨⟨_,rfl,AG o⟩,ke rfl,trivial⟩
 have Lc:¬0<o:=by simpa using h16
 refine ac ?_
 refine GM 1 7 143 rfl ?_
 refine ac ?_
 refine ac ?_
 exact Fin.AL (o+1) ⟨⟨fX,(fun j hj=>by rcases Nat.lt_or_eq_of_le (Nat.le_of_lt_succ hj) with h_|h_;exact Lh j h_;(subst h_;unfold H7 Hq;rw [hg];simp_all))⟩,by omega⟩ ⟨⟨_,rfl,AG o⟩,ke rfl,trivial⟩
 have xu:o=(e.anchors).length:=by have:=AJ JR;omega
 subst xu
 refine ac ?_
 refine ac ?_
 refine Tr.block (Tr.BA [(1,_)] ⟨ke rfl,trivial⟩ (fun q:Nat=>[(8,int ((q:Nat):Int))]) (fun q:Nat=>q≤(e.hashes).length∧(∀j,j<q→(H7 e.hashes j&&Q1 (e.hashes[j]?.getD 0))=true)) (fun q:Nat=>(e.hashes).length-q) 0 (⟨Nat.zero_le _,fun j hj=>absurd hj AA⟩) ⟨ke rfl,trivial⟩ ?_)
 rintro q ⟨AG0,VB⟩
 refine ac ?_
 refine Tr.cn rfl ?_ ?_<;>intro R5 q18
 have xw:q<(e.hashes).length:=AH R5
 obtain ⟨a,Wt⟩:=at_ xw
 have hg:=getD_at (d:=(0:Int)) Wt
 refine ac ?_
 refine ac ?_
 refine co rfl (AD rfl underlying22 Bt (vl rfl) (vl rfl) AA (Aa Wt)) (co rfl (GU rfl Cj rfl) (co rfl (Cn (PM) rfl rfl) ?_))
 refine ac ?_
 refine Ch.cs 158 rfl ?_ ?_<;>intro h19 q19
 refine ac ?_
 refine GM 1 8 175 rfl ?_
 refine ac ?_
 refine ac ?_
 · refine int_eq (if_neg (fun hv=> ?_)).symm;have ok:=DG.1 hv;have h_:=List.all_eq_true.1 ok.hsh a (List.mem_of_getElem? Wt);unfold Q1 at h_;simp_all
 refine ac ?_
 refine Ch.cs 161 rfl ?_ ?_<;>intro R7 q20
 have hk0:0<q:=by simpa using R7
 obtain ⟨y,hy⟩:=at_ (l:=e.hashes) (k:=q-1) AA
 have Vq:=getD_at (d:=(0:Int)) hy
 refine ac ?_
 refine cy R7 rfl (AD rfl underlying22 Bt (vl rfl) (vl rfl) AA (by rw [show ((q:Nat):Int)-1=((q-1:Nat):Int) by omega];exact Aa hy)) ?_
 refine ac ?_
 refine cy R7 rfl (AD rfl underlying22 Bt (vl rfl) (vl rfl) AA (Aa Wt)) ?_
 refine ac ?_
 refine GM 1 8 175 rfl ?_
 refine Tr.cn rfl ?_ ?_<;>intro bk q21
 refine ac ?_
 refine ac ?_
 · refine int_eq (if_neg (fun hv=> ?_)).symm;have ok:=DG.1 hv;have h_:=B7.1 (show allI (H7 e.hashes) e.hashes.length=true from ok.hash) q AA;unfold H7 at h_;rw [hg,Vq] at h_;simp at h_;omega
 refine ac ?_
 refine ac ?_
 exact Fin.AL (q+1) ⟨⟨xw,(fun j hj=>by rcases Nat.lt_or_eq_of_le (Nat.le_of_lt_succ hj) with h_|h_;exact VB j h_;(subst h_;unfold H7 Q1;rw [hg];rw [Vq];simp_all))⟩,by omega⟩ ⟨⟨_,rfl,AG q⟩,ke rfl,trivial⟩
 have Lc:¬0<q:=by simpa using R7
 refine ac ?_
 refine GM 1 8 175 rfl ?_
 refine ac ?_
 refine ac ?_
 exact Fin.AL (q+1) ⟨⟨xw,(fun j hj=>by rcases Nat.lt_or_eq_of_le (Nat.le_of_lt_succ hj) with h_|h_;exact VB j h_;(subst h_;unfold H7 Q1;rw [hg];simp_all))⟩,by omega⟩ ⟨⟨_,rfl,AG q⟩,ke rfl,trivial⟩
 have AF6:q=(e.hashes).length:=by have:=AJ R5;omega
 subst AF6
 refine ac ?_
 refine ac ?_
 refine ac ?_
 · refine int_eq (if_pos (DG.2 ⟨by simp_all,by omega,by omega,by omega,B7.2 Ex,by omega,by omega,B7.2 (fun j hj=>and1 (Lh j hj)),B7.2 (fun j hj=>and1 (VB j hj)),hall,lp (fun j hj=>xq (Lh j hj)),lp (fun j hj=>xq (VB j hj))⟩)).symm
theorem FK {e:B_} (IW:e.small):BD Tryz.prog 148 [agg (Bk e)] (int (if GO e then 0 else 19)):=Y7 (by have:=IW.hashes;omega)
abbrev AF7 (l:List B_):Pr:=slice 9 (l.map Bk)
structure Dc where
 Bs:List B_
 BS:List IE
 items:List U_
 deriving DecidableEq
abbrev CE (e:Dc):List Pr:=[AF7 e.Bs,H8 e.BS,Q7 e.items]
abbrev F4:Dc:=⟨[],[],[]⟩
structure Dc.fits (e:Dc):Prop where
 Bs:∀x∈e.Bs,x.fits∧x.small
 items:∀x∈e.items,x.name.length≤maxLen
 le:e.Bs.length≤1000000000000
 lg:e.BS.length≤1000000000000
 li:e.items.length≤1000000000000
def Wu (l:List B_) (i:Nat):Bool:=GO (l[i]?.getD FB)&&(decide (i=0)||decide (Lib.compareBytes (l[i-1]?.getD FB).name (l[i]?.getD FB).name= -1))
def FM (e:Dc):Bool:=(allI (Wu e.Bs) e.Bs.length&&decide (e.Bs.length≤16))&&VA e.Bs.length e.BS&&(e.items.all ON&&decide (e.items.length≤30))
structure vg (e:Dc):Prop where
 ep:∀j,j<e.Bs.length→Wu e.Bs j=true
 e16:e.Bs.length≤16
 ed:∀j,j<e.BS.length→Ec e.Bs.length e.BS j=true
 e40:e.BS.length≤40
 it:e.items.all ON=true
 i30:e.items.length≤30
theorem FP {e:Dc}:FM e=true↔vg e:=by
 unfold FM VA
 simp only [Bool.and_eq_true,decide_eq_true_eq,B7]
 exact ⟨fun ⟨⟨⟨h1,h2⟩,h3,h4⟩,h5,h6⟩=>⟨h1,h2,h3,h4,h5,h6⟩,fun h=>⟨⟨⟨h.ep,h.e16⟩,h.ed,h.e40⟩,h.it,h.i30⟩⟩
theorem eI {e:Dc} (h:vg e):VA e.Bs.length e.BS=true:=by unfold VA;simp only [Bool.and_eq_true,decide_eq_true_eq,B7];exact ⟨h.ed,h.e40⟩
theorem Dr {e:Dc} (hf:e.fits):BD prog 94 [agg (CE e)] (int (if FM e then 0 else 31)):=by
 refine fo func94 rfl ⟨rfl,rfl⟩ fun M0 w0=> ?_
 have hl1:=hf.le
 have hl2:=hf.lg
 have hl3:=hf.li
 refine ac ?_
 refine ac ?_
 refine Ch.cs 11 rfl ?_ ?_<;>intro h1 q1
 refine ac ?_
 refine UX 1 22 rfl ?_
 refine ac ?_
 refine ac ?_
 · exact YK
 refine ac ?_
 refine Ch.cs 17 rfl ?_ ?_<;>intro h2 q2
 refine ac ?_
 refine UX 1 22 rfl ?_
 refine ac ?_
 refine ac ?_
 · exact YK
 refine ac ?_
 refine UX 1 22 rfl ?_
 refine Tr.cn rfl ?_ ?_<;>intro h3 q3
 refine ac ?_
 refine ac ?_
 · exact YK
 refine ac ?_
 refine ac ?_
 refine Tr.block (Tr.BA [(1,_)] ⟨ke rfl,trivial⟩ (fun k:Nat=>[(3,int ((k:Nat):Int))]) (fun k:Nat=>k≤(e.Bs).length∧(∀j,j<k→Wu e.Bs j=true)) (fun k:Nat=>(e.Bs).length-k) 0 (⟨Nat.zero_le _,fun j hj=>absurd hj AA⟩) ⟨ke rfl,trivial⟩ ?_)
 rintro k ⟨BV,AY⟩
 refine ac ?_
 refine Tr.cn rfl ?_ ?_<;>intro h4 q4
 have Ah:k<(e.Bs).length:=AH h4
 obtain ⟨x,Ai⟩:=at_ Ah
 have hg:=getD_at (d:=FB) Ai
 have hxf:=hf.Bs x (List.mem_of_getElem? Ai)
 refine ac ?_
 refine ac ?_
 refine co rfl (AD rfl underlying27 CL (vl rfl) (vl rfl) AA (Aa Ai)) (co rfl (AQ rfl Cy CL (vl rfl) rfl rfl) (co rfl (Cn (FK hxf.2) rfl rfl) ?_))
 refine ac ?_
 refine Ch.cs 37 rfl ?_ ?_<;>intro h5 q5
 refine ac ?_
 refine GM 1 3 56 rfl ?_
 refine ac ?_
 refine ac ?_
 · refine int_eq (if_neg (fun hv=> ?_)).symm;have ok:=FP.1 hv;(have h_:=ok.ep k AA;unfold Wu at h_;rw [hg] at h_;simp_all)
 refine ac ?_
 refine Ch.cs 40 rfl ?_ ?_<;>intro h6 q6
 have hk0:0<k:=by simpa using h6
 obtain ⟨y,hy⟩:=at_ (l:=e.Bs) (k:=k-1) AA
 have Vq:=getD_at (d:=FB) hy
 refine ac ?_
 refine cy h6 rfl (AD rfl underlying27 CL (vl rfl) (vl rfl) AA LM) ?_
 refine ac ?_
 refine cy h6 rfl (AD rfl underlying27 CL (vl rfl) (vl rfl) AA (Aa Ai)) ?_
 refine ac ?_
 refine cy h6 rfl (Qm rfl (vl rfl) (vl rfl)) ?_
 refine ac ?_
 refine GM 1 3 56 rfl ?_
 refine Tr.cn rfl ?_ ?_<;>intro h7 q7
 refine ac ?_
 refine ac ?_
 · refine int_eq (if_neg (fun hv=> ?_)).symm;have ok:=FP.1 hv;(have h_:=ok.ep k AA;unfold Wu at h_;rw [hg,Vq] at h_;simp_all)
 refine ac ?_
 refine ac ?_
 exact Fin.AL (k+1) ⟨⟨Ah,D5 AY (by unfold Wu;rw [hg,Vq];simp_all)⟩,by omega⟩ ⟨⟨_,rfl,AG k⟩,ke rfl,trivial⟩
 have Lc:¬0<k:=by simpa using h6
 refine ac ?_
 refine GM 1 3 56 rfl ?_
 refine ac ?_
 refine ac ?_
 exact Fin.AL (k+1) ⟨⟨Ah,D5 AY (by unfold Wu;rw [hg];simp_all)⟩,by omega⟩ ⟨⟨_,rfl,AG k⟩,ke rfl,trivial⟩
 have BP:k=(e.Bs).length:=by have:=AJ h4;omega
 subst BP
 have VC:=AY
 refine ac ?_
 refine ac ?_
 refine Tr.block (Tr.BA [(1,_)] ⟨ke rfl,trivial⟩ (fun m:Nat=>[(4,int ((m:Nat):Int))]) (fun m:Nat=>m≤(e.BS).length∧(∀j,j<m→Ec e.Bs.length e.BS j=true)) (fun m:Nat=>(e.BS).length-m) 0 (⟨Nat.zero_le _,fun j hj=>absurd hj AA⟩) ⟨ke rfl,trivial⟩ ?_)
 rintro m ⟨LC,Hg⟩
 refine ac ?_
 refine Tr.cn rfl ?_ ?_<;>intro h8 q8
 have D7:m<(e.BS).length:=AH h8
 obtain ⟨c,D_⟩:=at_ D7
 have hg:=getD_at (d:=Ga) D_
 refine ac ?_
 refine ao ?_
 refine tp rfl (AD rfl underlying28 Et (vl rfl) (vl rfl) AA (Aa D_)) (tp rfl (AQ rfl Qf Et (vl rfl) rfl rfl) ?_)
 refine Tl rfl rfl rfl rfl Yi WQ (fun b1=> ?_)
 refine sf 0 5 ⟨rfl,rfl,rfl⟩ rfl rfl rfl rfl ?_
 refine ao ?_
 refine GM 1 4 5 rfl ?_
 refine ac ?_
 refine Ch.cs 72 rfl ?_ ?_<;>intro h9 q9
 refine ac ?_
 refine UY 1 4 5 99 rfl ?_
 refine ac ?_
 refine ac ?_
 · exact Tx
 refine ac ?_
 refine Ch.cs 80 rfl ?_ ?_<;>intro h10 Q4
 refine ac ?_
 refine UY 1 4 5 99 rfl ?_
 refine ac ?_
 refine ac ?_
 · exact Tx
 refine ac ?_
 refine Ch.cs 85 rfl ?_ ?_<;>intro h11 SK
 refine ac ?_
 refine UY 1 4 5 99 rfl ?_
 refine ac ?_
 refine ac ?_
 · exact Tx
 refine ac ?_
 refine Ch.cs 93 rfl ?_ ?_<;>intro h12 Vt
 refine ac ?_
 refine UY 1 4 5 99 rfl ?_
 refine ac ?_
 refine ac ?_
 · exact Tx
 refine ac ?_
 refine UY 1 4 5 99 rfl ?_
 refine Tr.cn rfl ?_ ?_<;>intro JR Yv
 refine ac ?_
 refine ac ?_
 · refine int_eq (if_neg (fun hv=> ?_)).symm;have ok:=FP.1 hv;(have h_:=ok.ed m AA;unfold Ec at h_;rw [hg] at h_;simp_all)
 refine ac ?_
 refine ac ?_
 refine Ch.cs 102 rfl ?_ ?_<;>intro Jm lP
 have hk0:0<m:=by simpa using Jm
 obtain ⟨y,hy⟩:=at_ (l:=e.BS) (k:=m-1) AA
 have Vq:=getD_at (d:=Ga) hy
 refine ac ?_
 refine cy Jm rfl (AD rfl underlying28 Et (vl rfl) (vl rfl) AA YR) ?_
 refine ac ?_
 refine Ch.cs 113 rfl ?_ ?_<;>intro WJ q15
 refine ac ?_
 refine GM 1 4 137 rfl ?_
 refine ac ?_
 refine ac ?_
 · exact jK
 refine ac ?_
 refine cy WJ rfl (AD rfl underlying28 Et (vl rfl) (vl rfl) AA YR) ?_
 refine ac ?_
 refine Ch.cs 124 rfl ?_ ?_<;>intro h16 q16
 refine ac ?_
 refine cy h16 rfl (AD rfl underlying28 Et (vl rfl) (vl rfl) AA YR) ?_
 refine ac ?_
 refine GM 1 4 137 rfl ?_
 refine Tr.cn rfl ?_ ?_<;>intro Og q17
 refine ac ?_
 refine ac ?_
 · exact jK
 refine ac ?_
 refine ac ?_
 exact Fin.AL (m+1) ⟨⟨D7,D5 Hg (by unfold Ec;rw [hg,Vq];simp_all)⟩,by omega⟩ ⟨⟨_,rfl,AG m⟩,ke rfl,trivial⟩
 refine ac ?_
 refine GM 1 4 137 rfl ?_
 refine ac ?_
 refine ac ?_
 exact Fin.AL (m+1) ⟨⟨D7,D5 Hg (by unfold Ec;rw [hg,Vq];simp_all;omega)⟩,by omega⟩ ⟨⟨_,rfl,AG m⟩,ke rfl,trivial⟩
 have Lc:¬0<m:=by simpa using Jm
 refine ac ?_
 refine GM 1 4 137 rfl ?_
 refine ac ?_
 refine ac ?_
 exact Fin.AL (m+1) ⟨⟨D7,D5 Hg (by unfold Ec;rw [hg];simp_all)⟩,by omega⟩ ⟨⟨_,rfl,AG m⟩,ke rfl,trivial⟩
 have Ip:m=(e.BS).length:=by have:=AJ h8;omega
 subst Ip
 refine ac ?_
 refine ac ?_
 refine Tr.block (Tr.BA [(1,_)] ⟨ke rfl,trivial⟩ (fun o:Nat=>[(6,int ((o:Nat):Int))]) (fun o:Nat=>o≤(e.items).length∧(∀j y,j<o→e.items[j]? =some y→(!ON y)=false)) (fun o:Nat=>(e.items).length-o) 0 (⟨Nat.zero_le _,fun j y hj=>absurd hj AA⟩) ⟨ke rfl,trivial⟩ ?_)
 rintro o ⟨ACZ,Lh⟩
 refine ac ?_
 refine Tr.cn rfl ?_ ?_<;>intro R5 q18
 have fX:o<(e.items).length:=AH R5
 obtain ⟨x,T0⟩:=at_ fX
 refine ac ?_
 refine ac ?_
 refine co rfl (AD rfl underlying29 HM (vl rfl) (vl rfl) AA (Aa T0)) (co rfl (AQ rfl Ug HM (vl rfl) rfl rfl) (co rfl (Cn (Y1) rfl rfl) ?_))
 refine ac ?_
 refine GM 1 6 151 rfl ?_
 refine Tr.cn rfl ?_ ?_<;>intro h19 q19
 refine ac ?_
 refine ac ?_
 · refine int_eq (if_neg (fun hv=> ?_)).symm;have ok:=FP.1 hv;(have h_:=List.all_eq_true.1 ok.it x (List.mem_of_getElem? T0);simp_all)
 refine ac ?_
 refine ac ?_
 exact Fin.AL (o+1) ⟨⟨fX,DP (p:=fun c=> !ON c) T0 CG Lh⟩,by omega⟩ ⟨⟨_,rfl,AG o⟩,ke rfl,trivial⟩
 have xu:o=(e.items).length:=by have:=AJ R5;omega
 subst xu
 have hall:=Ma Lh
 refine ac ?_
 refine ac ?_
 refine ac ?_
 · refine int_eq (if_pos (FP.2 ⟨VC,by omega,Hg,by omega,hall,by omega⟩)).symm
theorem xx {d:Nat} {w:World} {x0 y0:Int} {x1 y1:Int}:(Op.equalIn (d+2) 132 (.agg #[.int .i64 x0,.int .i64 x1]) (.agg #[.int .i64 y0,.int .i64 y1])).run Tryz.prog w= .ok (decide (x0=y0∧x1=y1)) w:=by
 have h:=eqS (w:=w) (d:=d+1) (xs:= #[.int .i64 x0,.int .i64 x1]) (ys:= #[.int .i64 y0,.int .i64 y1]) Tryz.underlying132 Be (E4 AB (CC Cj rfl) (CC Cj rfl) (GF (d:=d+0) Tryz.underlying3) (E4 AB (CC Cj rfl) (CC Cj rfl) (GF (d:=d+0) Tryz.underlying3) (MV)))
 refine h.trans (congrArg (fun b=>Result.ok b w) ?_)
 rw [Bool.eq_iff_iff];simp [and_assoc]
theorem lu {E:Env} {I:Cd} {o:Oper} {u:TypeId} {x y:Operand} {x0 y0:Int} {x1 y1:Int} (ho:o.op= .binOp .neq 132 x y u) (hx:VL E x (agg [is (.int .i64 x0),is (.int .i64 x1)])) (hy:VL E y (agg [is (.int .i64 y0),is (.int .i64 y1)])):Ae Tryz.prog I o E (bool (!decide (x0=y0∧x1=y1))):=
 Qo [.int .i64 x0,.int .i64 x1] [.int .i64 y0,.int .i64 y1] ho hx hy Be (fun w=>by rw [show Op.equal 132 _ _=Op.equalIn (9998+2) 132 _ _ from rfl];exact xx)
def setAt (n:Int) (l:List Int) (i:Nat):Bool:=decide (0≤l[i]?.getD 0)&&decide (l[i]?.getD 0<n)&&(decide (i=0)||decide (l[i-1]?.getD 0<l[i]?.getD 0))
def De (n:Int) (l:List Int):Bool:=allI (setAt n l) l.length
theorem Q8 {l:List Int} {n:Int}  :BD prog 82 [ints l,int n] (bool (De n l)):=by
 refine fo func82 rfl ⟨rfl,rfl⟩ fun M0 w0=>(Tr.C6 0 rfl fun Eu=> ?_)
 refine a2 ?_
 refine Tr.block (Tr.BA _ (kk [8,7,1,0] rfl) (fun k:Nat=>[(9,int ((k:Nat):Int))]) (fun k:Nat=>k≤(l).length∧(∀j,j<k→setAt n l j=true)) (fun k:Nat=>(l).length-k) 0 (⟨Nat.zero_le _,fun j hj=>absurd hj AA⟩) kz ?_)
 rintro k ⟨BV,AY⟩
 refine ac ?_
 refine Tr.seq ?_
 refine Tr.cn rfl ?_ ?_<;>intro h1 q1
 have Ah:k<(l).length:=AH h1
 obtain ⟨x,Ai⟩:=at_ Ah
 have hg:=getD_at (d:=(0:Int)) Ai
 refine a2 ?_
 refine co rfl (AD rfl underlying51 Bt vq vq AA (Aa Ai)) ?_
 refine ac ?_
 refine ag ?_ ?_<;>intro h2 q2
 refine ac ?_
 refine wk [33,9,8,7,1,0] rfl ?_
 refine a2 ?_
 · exact jS
 refine ag ?_ ?_<;>intro h3 q3
 refine ac ?_
 refine wk [33,9,8,7,1,0] rfl ?_
 refine a2 ?_
 · exact jS
 refine ag ?_ ?_<;>intro h4 q4
 have hk0:0<k:=by simpa using h4
 obtain ⟨y,hy⟩:=at_ (l:=l) (k:=k-1) AA
 have Vq:=getD_at (d:=(0:Int)) hy
 · repeat' first|(refine bool_eq ?_;unfold De;rw [QD (p:=setAt n l) (k:=k) AA (by unfold setAt;rw [hg,Vq];simp_all;omega)])|(exact Fin.AL (k+1) ⟨⟨Ah,D5 AY (by unfold setAt;rw [hg,Vq];simp_all)⟩,by omega⟩ ⟨⟨_,rfl,AG k⟩,kz⟩)|(refine cy h4 rfl (AD rfl underlying51 Bt vq vq AA LM) ?_)|refine ac ?_|(refine Tr.cn rfl ?_ ?_<;>intro h q)
 have Lc:¬0<k:=by simpa using h4
 refine ac ?_
 refine wk [33,9,8,7,1,0] rfl ?_
 refine a2 ?_
 exact Fin.AL (k+1) ⟨⟨Ah,D5 AY (by unfold setAt;rw [hg];simp_all)⟩,by omega⟩ ⟨⟨_,rfl,AG k⟩,kz⟩
 have BP:k=(l).length:=by have:=AJ h1;omega
 subst BP
 refine a3 ?_
 · refine bool_eq ?_;unfold De;rw [kX AY]
theorem cH {l:List Int} {v:Int}  :BD prog 92 [ints l,int v] (bool (l.any fun x=>v==x)):=by
 refine fo func92 rfl ⟨rfl,rfl⟩ fun M0 w0=>(Tr.C6 0 rfl fun Eu=> ?_)
 refine a2 ?_
 refine Tr.block (Tr.BA _ (kk [8,7,1] rfl) (fun k:Nat=>[(9,int ((k:Nat):Int))]) (fun k:Nat=>k≤(l).length∧((l.take k).any (fun x=>v==x)=false)) (fun k:Nat=>(l).length-k) 0 (⟨Nat.zero_le _,rfl⟩) kz ?_)
 rintro k ⟨BV,AY⟩
 refine ac ?_
 refine Tr.seq ?_
 refine Tr.cn rfl ?_ ?_<;>intro h1 q1
 have Ah:k<(l).length:=AH h1
 obtain ⟨x,Ai⟩:=at_ Ah
 refine ac ?_
 refine Tr.seq (Tr.block (Tr.seq (Tr.Aj (co rfl (AD rfl underlying22 Bt vq vq AA (Aa Ai)) ?_))))
 · repeat' first|(refine bool_eq ?_;symm;rw [List.any_eq_true];exact ⟨_,List.mem_of_getElem? Ai,by simp_all⟩)|(exact Fin.AL (k+1) ⟨⟨Ah,aa⟩,by omega⟩ ⟨⟨_,rfl,AG k⟩,kz⟩)|refine ac ?_|(refine Tr.cn rfl ?_ ?_<;>intro h q)
 have BP:k=(l).length:=by have:=AJ h1;omega
 subst BP
 refine a3 ?_
 · exact T2
def usL:List (Int×Int):=[(2,0),(1,0),(5,2048),(16,128),(3,0),(15,168)]
def cI (v:Int):Int×Int:=usL[v.toNat]?.getD (2,0)
theorem ACa {v:Int} (h:0≤v∧v<6):(usL.map fun u=>[int u.1,int u.2])[v.toNat]? =some [int (cI v).1,int (cI v).2]:=by
 have hl:v.toNat<usL.length:=by show v.toNat<6;omega
 unfold cI;rw [List.getElem?_map,List.getElem?_eq_getElem hl];rfl
theorem xy:∀u∈usL,Dj u.1 u.2>0:=by decide+kernel
theorem vh (v:Int):Dj (cI v).1 (cI v).2>0:=by
 unfold cI
 cases h:usL[v.toNat]? with
 |none=>decide+kernel
 |some u=>exact xy u (List.mem_of_getElem? h)
def Li:Nat→DS→Int→List Wq→List Wq×Int×DS
 |0,s,day,l=>(l,day,s)
 |k+1,s,day,l=>Li k s.Cb.Cb (day+1+s.Cb.of [5,30,0,100]) (l++[⟨(cI (s.val 6)).1,(cI (s.val 6)).2,day⟩])
abbrev EW (s:DS):List Wq×Int×DS:=Li (1+s.Cb.Cb.Cb.val 3).toNat s.Cb.Cb.Cb.Cb (s.Cb.Cb.val 20) []
def TI (s:DS) (name:List UInt8):U_:=⟨name,1+s.val 2,1+s.Cb.val 4,(EW s).1,((EW s).1[0]?.getD FJ).day+(EW s).2.2.of [50,300,0,3000]⟩
def ACb (s:DS):DS:=(EW s).2.2.Cb
structure fY (l:List Wq) (day:Int):Prop where
 lo:0≤day
 hi:day≤20+101*(l.length:Nat)
 at_:∀j,j<l.length→Gn l j=true
 lt:∀x∈l,x.day<day
theorem Wv {l:List Wq} {day d:Int} {u:Int×Int} (h:fY l day) (h3:l.length≤3) (hu:Dj u.1 u.2>0) (hd:0≤d∧d≤100):fY (l++[⟨u.1,u.2,day⟩]) (day+1+d):=by
 have h0:=h.lo;have h1:=h.hi
 refine ⟨by omega,by rw [List.length_append];simp;omega,fun j hj=> ?_,fun x hx=> ?_⟩
 ·
  rw [List.length_append] at hj;simp at hj
  rcases Nat.lt_or_ge j l.length with hl|hl
  ·
   have:=h.at_ j hl
   unfold Gn at this ⊢
   rw [List.getElem?_append_left hl,List.getElem?_append_left (show j-1<l.length by omega)];exact this
  ·
   have:j=l.length:=by omega
   subst this
   unfold Gn
   rw [List.getElem?_append_right (Nat.le_refl _),Nat.sub_self]
   rcases Nat.eq_zero_or_pos l.length with hz|hz
   ·
    obtain rfl:=List.eq_nil_of_length_eq_zero hz
    simp [hu];simp at h1;omega
   ·
    obtain ⟨y,hy⟩:=at_ (l:=l) (k:=l.length-1) AA
    rw [List.getElem?_append_left (show l.length-1<l.length by omega),hy]
    have:=h.lt y (List.mem_of_getElem? hy)
    simp [hu];omega
 ·
  rcases List.mem_append.1 hx with hx|hx
  · have:=h.lt x hx;omega
  · simp at hx;subst hx;show day<_;omega
theorem Y8 (s:DS):0≤s.of [5,30,0,100]∧s.of [5,30,0,100]≤100:=by have:=s.QZ (l:=[5,30,0,100]) AU;simp at this;omega
theorem l5 (s:DS):0≤s.of [50,300,0,3000]∧s.of [50,300,0,3000]≤3000:=by have:=s.QZ (l:=[50,300,0,3000]) AU;simp at this;omega
theorem TJ:∀(k:Nat) (s:DS) (day:Int) (l:List Wq),fY l day→l.length+k≤3→fY (Li k s day l).1 (Li k s day l).2.1∧(Li k s day l).1.length=l.length+k
 |0,s,day,l,h,_=>⟨h,rfl⟩
 |k+1,s,day,l,h,hk=>by
  have:=TJ k s.Cb.Cb (day+1+s.Cb.of [5,30,0,100]) (l++[⟨(cI (s.val 6)).1,(cI (s.val 6)).2,day⟩]) (Wv h AA (vh _) (Y8 _)) B4
  refine ⟨this.1,?_⟩
  show (Li k _ _ _).1.length=_
  rw [this.2];simp;omega
structure Y9 (x:U_):Prop where
 ok:ON x=true
 name:x.name.length≤32
 links:x.links.length≤3
theorem cJ {s:DS} {name:List UInt8} (hn:named name=true):Y9 (TI s name):=by
 have h2:=s.DB (n:=2) AA
 have h4:=s.Cb.DB (n:=4) AA
 have R7:=s.Cb.Cb.DB (n:=20) AA
 have h3:=s.Cb.Cb.Cb.DB (n:=3) AA
 have hI:fY [] (s.Cb.Cb.val 20):=⟨by omega,by simp;omega,fun j hj=>by simp at hj,fun x hx=>by simp at hx⟩
 obtain ⟨hL,hl⟩:=TJ (1+s.Cb.Cb.Cb.val 3).toNat s.Cb.Cb.Cb.Cb (s.Cb.Cb.val 20) [] hI B4
 simp only [List.length_nil,Nat.zero_add] at hl
 have hlen:(EW s).1.length=(1+s.Cb.Cb.Cb.val 3).toNat:=hl
 have hu:=l5 (EW s).2.2
 obtain ⟨c,hc⟩:=at_ (l:=(EW s).1) (k:=0) AA
 have hg:=getD_at (d:=FJ) hc
 have hc1:=hL.lt c (List.mem_of_getElem? hc)
 have hc2:=hL.hi
 refine ⟨Gm.2 ⟨hn,?_,?_,?_,?_,?_,hL.at_,?_,?_⟩,Kg hn,?_⟩
 · show 1+s.val 2=1∨1+s.val 2=2;omega
 · show 1≤1+s.Cb.val 4;omega
 · show 1+s.Cb.val 4≤4;omega
 · show 1≤(EW s).1.length;omega
 · show (EW s).1.length≤8;omega
 · show ((EW s).1[0]?.getD FJ).day≤((EW s).1[0]?.getD FJ).day+_;omega
 · show ((EW s).1[0]?.getD FJ).day+_≤40000;rw [hg];omega
 · show (EW s).1.length≤3;omega
theorem cL {b:Nat} {s:DS} {name:List UInt8}  :BZ prog 90 [ptr b 0,str name] (agg (cE (TI s name))) (DU b s) (fun _=>DU b (ACb s)):=by
 refine BZ.of func90 rfl rfl Ao fun M0 w0 S rs M1 w1=> ?_
 have V7:=s.DB (n:=2) AA
 have hv4:=s.Cb.DB (n:=4) AA
 have AHP:=s.Cb.Cb.DB (n:=20) AA
 have hv3:=s.Cb.Cb.Cb.DB (n:=3) AA
 refine Tr.seq (Tr.Ap ?_)
 refine Tl rfl rfl rfl rfl Uh WR (fun b1=> ?_)
 refine ao ?_
 refine ao ?_
 refine TO.HJ 1 rfl rfl AB (An rfl rfl AB rfl (CY AA AA) ⟨ke rfl,ke rfl,trivial⟩) ?_
 refine ao ?_
 refine TO.HJ 1 rfl rfl AB (An rfl rfl AB rfl (CY AA AA) ⟨ke rfl,ke rfl,trivial⟩) ?_
 refine ao ?_
 refine Tl rfl rfl rfl rfl Uh WR (fun b2=> ?_)
 refine TO.AK 0 rfl rfl rfl (vl rfl) (Va rfl) rfl HM rfl rfl ?_
 refine ao ?_
 refine ao ?_
 refine TO.HJ 2 rfl rfl AB (An rfl rfl AB rfl (CY AA AA) ⟨ke rfl,ke rfl,trivial⟩) ?_
 refine ao ?_
 refine UY 0 4 5 6 rfl ?_
 refine ao ?_
 refine TO.HJ 2 rfl rfl AB (An rfl rfl AB rfl (CY AA AA) ⟨ke rfl,ke rfl,trivial⟩) ?_
 refine ao ?_
 refine Tr.block (Tr.Ho 0 [str name,int (1+s.val 2),int (1+s.Cb.val 4),Ab (.slice none 0 0) (lY []),is (.int .i64 0)] rfl ⟨Lr,Lr,Lr,Bl rfl,Lr,trivial⟩ (Tr.B6 198 3 ?_))
 refine Tr.jx [(0,_),(4,_),(5,_)] ⟨ke rfl,ke rfl,ke rfl,trivial⟩ (fun (k:Int) (day:Int) (l:List Wq) (s2:DS) v=>[(7,int k),(6,int day)]) (fun (k:Int) (day:Int) (l:List Wq) (s2:DS) v=>Hp M0 w0 S (As 198 3 v::AF true b2 135 [str name,int (1+s.val 2),int (1+s.Cb.val 4),Ab v (lY l),is (.int .i64 0)]::AF true b1 135 (([.string (ByteArray.mk #[]),.int .i64 0,.int .i64 0,.slice none 0 0,.int .i64 0]:List Value).map is)::DU b s2::Ak M1 w1::rs)) (fun (k:Int) (day:Int) (l:List Wq) (s2:DS)=>(0≤k∧k+l.length≤3∧1≤k+l.length∧fY l day)∧Li k.toNat s2 day l=EW s) (fun (k:Int) (day:Int) (l:List Wq) (s2:DS)=>k.toNat) (_) (_) ([]) (_) (.slice none 0 0) (⟨⟨by omega,by simp;omega,by simp;omega,⟨by omega,by simp;omega,fun j hj=>by simp at hj,fun x hx=>by simp at hx⟩⟩,rfl⟩) ⟨ke rfl,ke rfl,trivial⟩ (fun _ _ h=>h) ?_
 rintro k day l s2 v ⟨⟨hk0,hk1,hk2,hL⟩,hR⟩
 have hL0:=hL.lo
 have hL1:=hL.hi
 have hof:=Y8 s2.Cb
 refine an ?_ ?_<;>intro h1 q1
 have hk3:0<k:=of_decide_eq_true h1
 have hv6:=s2.DB (n:=6) AA
 refine ac ?_
 refine ao ?_
 refine TO.HJ 3 rfl rfl AB (An rfl rfl AB rfl (CY AA AA) ⟨ke rfl,ke rfl,trivial⟩) ?_
 refine tp rfl (AD rfl underlying143 Ky (Kf rfl) (vl rfl) AA (show (usL.map fun u=>[int u.1,int u.2])[_]? =_ from ACa hv6)) ?_
 refine tp rfl (AQ rfl JE Ky (vl rfl) rfl rfl) ?_
 refine Tl rfl rfl rfl rfl KW EU (fun b3=> ?_)
 refine sf 0 8 ⟨rfl,rfl,rfl⟩ rfl rfl rfl rfl ?_
 refine ao ?_
 refine wk6 0 4 5 6 7 8 rfl ?_
 refine ao ?_
 refine TO.DQ 0 rfl rfl AB (B1 rfl rfl rfl rfl underlying133 Jo vK z198 (Kb rfl) (Kf rfl) (Ax BN (Ka rfl))) (fun v1=> ?_)
 refine tp rfl (Ac rfl Ui (vl rfl)) (TO.Dv 1 rfl rfl (A9 rfl rfl (vl rfl) (Vo rfl) vF rfl Ao rfl) ?_)
 refine ao ?_
 refine wk5 0 4 5 6 7 rfl ?_
 refine ao ?_
 refine TO.HJ 3 rfl rfl AB (An rfl rfl AB rfl (Wi (l:=[5,30,0,100]) AU AU) ⟨ke rfl,(Kf rfl),trivial⟩) ?_
 refine ao ?_
 refine ac ?_
 refine Fin.Ho 1 [str name,int (1+s.val 2),int (1+s.Cb.val 4),Ab v1 (lY (l++[(⟨(cI (s2.val 6)).1,(cI (s2.val 6)).2,day⟩:Wq)])),is (.int .i64 0)] rfl ⟨Lr,Lr,Lr,BC DI,Lr,trivial⟩ ?_
 exact Fin.qc (k-1) (_) (l++[(⟨(cI (s2.val 6)).1,(cI (s2.val 6)).2,day⟩:Wq)]) (_) v1 (⟨⟨⟨by omega,by simp;omega,by simp;omega,Wv hL AA (vh _) (Y8 _)⟩,by rw [←hR,show k.toNat=(k-1).toNat+1 by omega];rfl⟩,by omega⟩) ⟨⟨_,rfl,int_eq AA⟩,⟨_,rfl,int_eq AA⟩,ke rfl,ke rfl,ke rfl,trivial⟩ (fun _ _ h=>h)
 have hk3:¬0<k:=of_decide_eq_false h1
 obtain rfl:k=0:=by omega
 obtain ⟨c0,hc0⟩:=at_ (l:=l) (k:=0) AA
 have hg0:=getD_at (d:=FJ) hc0
 have AHQ:=hL.lt c0 (List.mem_of_getElem? hc0)
 have AHR:0≤c0.day:=by have h_:=hL.at_ 0 (BI hc0);unfold Gn at h_;rw [hg0] at h_;simp at h_;omega
 have AHS:=l5 s2
 have hR1:(EW s).1=l:=by rw [←hR];rfl
 obtain rfl:s2=(EW s).2.2:=by rw [←hR];rfl
 refine ac ?_
 refine Tr.seq (Tr.rx ?_)
 refine ay ?_
 refine xo rfl (fun _=>AD rfl underlying133 Jo (Kb rfl) (vl rfl) AA (Aa (k:=0) hc0)) ?_
 refine ay ?_
 refine xo rfl (fun _=>oI) ?_
 refine Cx.ef 3 rfl rfl AB (An rfl rfl AB rfl (Wi (l:=[50,300,0,3000]) AU AU) ⟨ke rfl,(Kf rfl),trivial⟩) ?_
 refine ay ?_
 refine Cx.nil ⟨by kernel_rfl,?_⟩
 refine BO.done al5 (Fin.go (UX 4 5 rfl ?_))
 refine ao ?_
 refine TO.AK 2 rfl rfl rfl (vl rfl) (Va rfl) rfl HM rfl rfl ?_
 refine ao ?_
 refine Tr.ret (Fin.GN [_,_,_] rfl (AO.cell 2 rfl rfl Ug HM rfl (Lr)) ?_ (fun _ _ _ _=>rfl))
 · exact BT ⟨Lr,Lr,Lr,Pr.le_trans (Aq _ _) (Pr.le_of_eq (by show _=lY (EW s).1;rw [hR1])),int_eq (by show _=((EW s).1[0]?.getD FJ).day+_;rw [hR1,hg0]),trivial⟩
structure Y_ (n:Nat) (i j:Int) (l:List IE):Prop where
 at_:∀k,k<l.length→Ec n l k=true
 lt:∀g∈l,g.client<i∨(g.client=i∧g.server<j)
theorem Y_.nil (n:Nat) (i j:Int):Y_ n i j []:=⟨fun k hk=>by simp at hk,fun g hg=>by simp at hg⟩
theorem Y_.step {n:Nat} {i j:Int} {l:List IE} (h:Y_ n i j l):Y_ n i (j+1) l:=⟨h.at_,fun g hg=>by have:=h.lt g hg;omega⟩
theorem Y_.row {n:Nat} {i j:Int} {l:List IE} (h:Y_ n i j l):Y_ n (i+1) 0 l:=⟨h.at_,fun g hg=>by have:=h.lt g hg;omega⟩
theorem Y_.snoc {n:Nat} {i j:Int} {l:List IE} (h:Y_ n i j l) (hi:0≤i∧i<n) (hj:0≤j∧j<n) (hn:i≠j):Y_ n i (j+1) (l++[⟨i,j⟩]):=by
 refine ⟨fun k hk=> ?_,fun g hg=> ?_⟩
 ·
  rw [List.length_append] at hk;simp at hk
  rcases Nat.lt_or_ge k l.length with hl|hl
  ·
   have:=h.at_ k hl
   unfold Ec at this ⊢
   rw [List.getElem?_append_left hl,List.getElem?_append_left (show k-1<l.length by omega)];exact this
  ·
   have:k=l.length:=by omega
   subst this
   unfold Ec
   rw [List.getElem?_append_right (Nat.le_refl _),Nat.sub_self]
   rcases Nat.eq_zero_or_pos l.length with hz|hz
   ·
    obtain rfl:=List.eq_nil_of_length_eq_zero hz
    simp;omega
   ·
    obtain ⟨y,hy⟩:=Cp.at_ (l:=l) (k:=l.length-1) AA
    rw [List.getElem?_append_left (show l.length-1<l.length by omega),hy]
    have:=h.lt y (List.mem_of_getElem? hy)
    simp;omega
 ·
  rcases List.mem_append.1 hg with hg|hg
  · have:=h.lt g hg;omega
  · simp at hg;subst hg;right;exact ⟨rfl,by show j<j+1;omega⟩
theorem l6:∀i,i<2→Lib.compareBytes (Ff[i]?.getD []) (Ff[i+1]?.getD [])= -1:=by decide+kernel
structure OO (e:Dc):Prop where
 n2:2≤e.Bs.length
 n3:e.Bs.length≤3
 snd:lT e.Bs
 ed:∀k,k<e.BS.length→Ec e.Bs.length e.BS k=true
 g1:1≤e.BS.length
 g3:e.BS.length≤3
 it:∀x∈e.items,Y9 x
 i2:e.items.length≤2
theorem OO.ok {e:Dc} (h:OO e):FM e=true:=by
 have h3:=h.n3;have g3:=h.g3;have i2:=h.i2
 refine FP.2 ⟨fun j hj=> ?_,by omega,h.ed,by omega,List.all_eq_true.2 fun x hx=>(h.it x hx).ok,by omega⟩
 obtain ⟨x,hx⟩:=at_ hj
 have hs:=h.snd j x hx
 unfold Wu
 rw [hx,Option.getD_some,DG.2 (sr hs),Bool.true_and,Bool.or_eq_true,decide_eq_true_eq,decide_eq_true_eq]
 rcases Nat.eq_zero_or_pos j with hz|hz
 · exact .inl hz
 ·
  right
  obtain ⟨y,hy⟩:=at_ (l:=e.Bs) (k:=j-1) AA
  have Uw:=h.snd _ y hy
  rw [hy,Option.getD_some]
  have:=l6 (j-1) AA
  rw [Uw.name,show j-1+1=j by omega,hs.name] at this
  exact this
theorem OO.fits {e:Dc} (h:OO e):e.fits:=by
 have h3:=h.n3;have g3:=h.g3;have i2:=h.i2
 refine ⟨fun x hx=> ?_,fun x hx=>by have:=(h.it x hx).name;unfold maxLen;omega,by omega,by omega,by omega⟩
 obtain ⟨i,hi⟩:=List.getElem?_of_mem hx
 exact ⟨TG (h.snd i x hi),Q6 (h.snd i x hi)⟩
abbrev Lj:List UInt8:=[98,97,99,107,117,112]
abbrev ZA:List UInt8:=[100,101,101,100]
theorem cM (s:DS):named (Jz s [Lj,ZA])=true:=by
 have h:=s.DB (n:=2) AA
 unfold Jz
 have:s.val (([Lj,ZA]:List (List UInt8)).length:Nat)=0∨s.val (([Lj,ZA]:List (List UInt8)).length:Nat)=1:=by show s.val 2=0∨s.val 2=1;omega
 rcases this with h|h<;>rw [h]<;>decide
theorem Ww {l:List U_} {y:U_} (h:∀x∈l,Y9 x) (hy:Y9 y):∀x∈l++[y],Y9 x:=by
 intro x hx
 rcases List.mem_append.1 hx with hx|hx
 · exact h x hx
 · simp at hx;subst hx;exact hy
theorem l9 {b:Nat} {s:DS}  :BZ prog 46 [ptr b 0] (Cp.ex fun e:Dc=>fact (OO e) (agg (CE e))) (DU b s) (fun _=>Ib 104 b):=by
 refine BZ.of func46 rfl rfl Ao fun M0 w0 S rs M1 w1=> ?_
 have V7:=s.DB (n:=2) AA
 have Yk:(Ff.take (2+s.val 2).toNat).length=(2+s.val 2).toNat:=by rw [List.length_take];show min _ 3=_;omega
 refine Tr.seq (Tr.Ap ?_)
 refine Tl rfl rfl rfl rfl z31 Hx (fun b1=> ?_)
 refine TO.nil (Fin.go (Tr.seq (Tr.Ap ?_)))
 refine Tl rfl rfl rfl rfl z31 Hx (fun b2=> ?_)
 refine TO.nil (Fin.go (Tr.seq (Tr.Ap (tp rfl (AM (xs:=[.const (.string ⟨[97,112,112].toArray⟩),.const (.string ⟨[100,98].toArray⟩),.const (.string ⟨[119,101,98].toArray⟩)]) (rows:=[[_],[_],[_]]) rfl rfl underlying127 NT z9 rfl AB ⟨⟨Am,(Vo rfl)⟩,⟨⟨Am,(Vo rfl)⟩,⟨⟨Am,(Vo rfl)⟩,trivial⟩⟩⟩ AB) ?_))))
 refine tm rfl (TO.HJ 2 rfl rfl AB (An rfl rfl AB rfl (CY AA AA) ⟨ke rfl,ke rfl,trivial⟩) ?_)
 refine tp rfl (FE rfl (vl rfl) (vl rfl) ?hin) ?_;case hin=>unfold Oe;omega
 refine tp rfl (DM rfl underlying127 NT (Kf rfl) (vl rfl) AA B4) ?_
 refine tm rfl (TO.nil (Fin.go (Tr.seq (Tr.seq (Tr.Aj (cm rfl (co rfl (Ca rfl underlying127 (vl rfl)) (cm rfl (Ch.nil (Fin.go (Tr.block ?_)))))))))))
 refine Tr.re 16 rfl (Pr.le_of_eq (by show slice 1 (List.take _ (Ff.map fun t=>[str t]))=_;rw [←List.map_take]):Pr.le _ (sK (Ff.take (2+s.val 2).toNat))) ?_
 refine Tr.re 17 rfl (int_eq (by simp;rfl):Pr.le _ (int (((Ff.take (2+s.val 2).toNat).length:Nat):Int))) ?_
 refine Tr.Ho 0 [Ab (.slice none 0 0) (slice 9 (([]:List B_).map Bk)),is (.slice none 0 0),is (.slice none 0 0)] rfl ⟨Bl rfl,Lr,Lr,trivial⟩ (Tr.B6 40 9 (Tr.Fb [(0,_),(2,_),(3,_),(4,_),(16,_),(17,_)] ⟨ke rfl,ke rfl,ke rfl,ke rfl,ke rfl,ke rfl,trivial⟩ (fun (k:Nat) (es:List B_) (s2:DS) v=>[(18,int ((k:Nat):Int))]) (fun (k:Nat) (es:List B_) (s2:DS) v=>Hp M0 w0 S (As 40 9 v::AF true b2 31 [Ab v (slice 9 (es.map Bk)),is (.slice none 0 0),is (.slice none 0 0)]::AF true b1 31 (([.slice none 0 0,.slice none 0 0,.slice none 0 0]:List Value).map is)::DU b s2::Ak M1 w1::rs)) (fun (k:Nat) (es:List B_) (s2:DS)=>k≤(2+s.val 2).toNat∧es.length=k∧lT es) (fun (k:Nat) (es:List B_) (s2:DS)=>(2+s.val 2).toNat-k) (0) ([]) (_) (.slice none 0 0) (⟨by omega,rfl,fun i e h=>by simp at h⟩) ⟨ke rfl,trivial⟩ (fun _ _ h=>h) ?_))
 rintro k es s2 v ⟨hk1,hk2,hk3⟩
 refine Tr.seq (Tr.Aj (co rfl (ki rfl rfl rfl rfl) (Ch.nil (Fin.go (Tr.seq ?_)))))
 refine Tr.cn rfl ?_ ?_<;>intro h1 q1
 have hkn:k<(2+s.val 2).toNat:=by have:=C3.DZ h1;rw [Yk] at this;omega
 obtain ⟨nm,hnm⟩:=at_ (l:=Ff.take (2+s.val 2).toNat) (k:=k) AA
 have Ni:Ff[k]? =some nm:=lU hnm
 have hso:=lV (s2.Cb.val 3)
 have AHT:k<3:=BI Ni
 have hvs:=s2.Cb.DB (n:=3) AA
 have hof:=xh s2
 refine Tr.skip (Fin.go (Tr.seq (Tr.block (Tr.seq (Tr.Aj (cm rfl (co rfl (AD rfl underlying127 NT (vl rfl) (vl rfl) AA (Aa hnm)) (co rfl (GU rfl Oh rfl) (cm rfl (cm rfl (Ch.nil (Fin.go (Tr.seq (Tr.pad ?_))))))))))))))
 refine Tr.Gu mixed [none,none,none,some (0,4,true,0),none,none,none,none,none,some (0,4,true,0),none,none,none,some (0,4,true,0),none,none,none,some (0,4,true,0),none,some (0,0,true,7),some (7,0,true,7)] Be (xm rfl (xm rfl (xo rfl (fun _=>AM (xs:=[.const (.int .i64 (3)),.const (.int .i64 (3)),.const (.int .i64 (4))]) (rows:=[[_],[_],[_]]) rfl rfl underlying22 Bt z3 rfl AB ⟨⟨Am,(Vo rfl)⟩,⟨⟨Am,(Vo rfl)⟩,⟨⟨Am,(Vo rfl)⟩,trivial⟩⟩⟩ AB) ?_)))
 refine Cx.ef 4 rfl rfl AB (An rfl rfl AB rfl (Wi (l:=[3,3,4]) AU AU) ⟨ke rfl,(Kf rfl),trivial⟩) ?_
 refine xo rfl (fun _=>AM (xs:=[.const (.int .i64 (10)),.const (.int .i64 (8)),.const (.int .i64 (2))]) (rows:=[[_],[_],[_]]) rfl rfl underlying22 Bt z3 rfl AB ⟨⟨Am,(Vo rfl)⟩,⟨⟨Am,(Vo rfl)⟩,⟨⟨Am,(Vo rfl)⟩,trivial⟩⟩⟩ AB) ?_
 refine xo rfl (fun _=>AM (xs:=[.const (.int .i64 (8)),.const (.int .i64 (2))]) (rows:=[[_],[_]]) rfl rfl underlying22 Bt z3 rfl AB ⟨⟨Am,(Vo rfl)⟩,⟨⟨Am,(Vo rfl)⟩,trivial⟩⟩ AB) ?_
 refine xo rfl (fun _=>AM (xs:=[.const (.int .i64 (2)),.const (.int .i64 (10)),.const (.int .i64 (8)),.const (.int .i64 (3))]) (rows:=[[_],[_],[_],[_]]) rfl rfl underlying22 Bt z3 rfl AB ⟨⟨Am,(Vo rfl)⟩,⟨⟨Am,(Vo rfl)⟩,⟨⟨Am,(Vo rfl)⟩,⟨⟨Am,(Vo rfl)⟩,trivial⟩⟩⟩⟩ AB) ?_
 refine xo rfl (fun _=>AM (xs:=[.tmp 27,.tmp 28,.tmp 29]) (rows:=[[_],[_],[_]]) rfl rfl underlying128 NU z22 rfl AB ⟨⟨Am,⟨_,rfl,Pr.le_trans (B0 _ _) (Af _)⟩⟩,⟨⟨Am,⟨_,rfl,Pr.le_trans (B0 _ _) (Af _)⟩⟩,⟨⟨Am,⟨_,rfl,Pr.le_trans (B0 _ _) (Af _)⟩⟩,trivial⟩⟩⟩ AB) ?_
 refine xm rfl (Cx.ef 4 rfl rfl AB (An rfl rfl AB rfl (CY AA AA) ⟨ke rfl,ke rfl,trivial⟩) ?_)
 refine xo rfl (fun _=>AD rfl underlying128 NU (Kf rfl) (vl rfl) AA (show (On.map fun l=>[ints l])[_]? =_ from sj hvs)) ?_
 refine xo rfl (fun _=>GU rfl Qb rfl) (xm rfl (Cx.ef 4 rfl rfl AB (An rfl rfl AB rfl (lD AA AA) ⟨ke rfl,ke rfl,trivial⟩) (xo rfl (fun _=>AM (xs:=[.const (.int .i64 (1))]) (rows:=[[_]]) rfl rfl underlying22 Bt z3 rfl AB ⟨⟨Am,(Vo rfl)⟩,trivial⟩ AB) ?_)))
 refine xo rfl (fun _=>AM (xs:=[.const (.int .i64 (2)),.const (.int .i64 (3))]) (rows:=[[_],[_]]) rfl rfl underlying22 Bt z3 rfl AB ⟨⟨Am,(Vo rfl)⟩,⟨⟨Am,(Vo rfl)⟩,trivial⟩⟩ AB) ?_
 refine xm rfl (Cx.ef 4 rfl rfl AB (An rfl rfl AB rfl (lD AA AA) ⟨ke rfl,ke rfl,trivial⟩) (xo rfl (fun _=>Al (rows:=[(0,[_]),(1,[_]),(2,[_]),(3,[_]),(4,[_]),(6,[_]),(7,[_]),(8,[_])]) rfl qi Ie ⟨⟨rfl,(Vo rfl)⟩,⟨⟨rfl,(Vo rfl)⟩,⟨⟨rfl,(Vo rfl)⟩,⟨⟨rfl,(Vo rfl)⟩,⟨⟨rfl,(Vo rfl)⟩,⟨⟨rfl,⟨_,rfl,Pr.le_trans (B0 _ _) (Af _)⟩⟩,⟨⟨rfl,⟨_,rfl,Pr.le_trans (B0 _ _) (Af _)⟩⟩,⟨⟨rfl,(Vo rfl)⟩,trivial⟩⟩⟩⟩⟩⟩⟩⟩ rfl) (Cx.ef 0 rfl rfl AB (CW rfl rfl AB rfl z40 Ie) (Cx.Dv 0 rfl rfl (DF rfl rfl rfl rfl (Va rfl) CL rfl rfl) ?_))))
 refine Cx.nil ⟨rfl,?_⟩
 refine BO.open_ 0 7 rfl rfl (fun v1=> ?_)
 refine BO.done (A8.cons (A8.cons (A8.cons (A8.cons (A8.cons (A8.cons (A8.map _))))))) (Fin.M_ 7 0 _ rfl rfl (fun _=>rfl) (fun b3=> ?_))
 refine Fin.go (Of 0 2 3 4 5 6 7 16 17 18 rfl (Tr.seq (Tr.seq (Tr.Ho 0 [str nm,int 1,int (s2.of [3,3,4]),ints (Ld (s2.Cb.val 3)),bool (s2.Cb.Cb.val 2==2-1),is (.slice none 0 0),ints [1],ints [2,3],bool (s2.Cb.Cb.Cb.val 3==3-1)] rfl ⟨Lr,Lr,Lr,Lr,Lr,Lr,Lr,Lr,Lr,trivial⟩ (Tr.Aj (co rfl (Ac rfl Ye (vl rfl)) (co rfl (Cw 0 rfl (BE rfl Cj (vl rfl) rfl)) (co rfl (ki rfl rfl rfl rfl) (Ch.nil (Fin.go ?_))))))))))
 refine Tr.cn rfl ?_ ?_<;>intro h2 q2
 refine Tr.Ap (tp rfl (AM (xs:=[.const (.int .i64 (14))]) (rows:=[[_]]) rfl rfl underlying22 Bt z3 rfl AB ⟨⟨Am,(Vo rfl)⟩,trivial⟩ AB) ?_)
 refine tp rfl (Ac rfl NX (vl rfl)) (TO.rd 0 rfl rfl rfl AB (BE rfl Qb (vl rfl) rfl) (TO.pad ?_))
 refine TO.DQ 0 rfl rfl AB (B1 rfl rfl rfl rfl underlying22 Bt He z3 (Kf rfl) (vl rfl) (Bq BN (vl rfl))) (fun v2=> ?_)
 refine tp rfl (Ac rfl NX (vl rfl)) (TO.Dv 1 rfl rfl (A9 rfl rfl (vl rfl) (Vo rfl) NU rfl Ao rfl) (TO.nil (Fin.go (Of 0 2 3 4 5 6 7 16 17 18 rfl (Tr.seq (Tr.Ap (tm rfl (tp rfl (AV rfl (vZ) trivial) (tm rfl ?_)))))))))
 refine tp rfl (FE rfl (vl rfl) (vl rfl) ?hin) ?_;case hin=>unfold Oe;omega
 refine tp rfl (AV rfl (Yz (name:=nm) (a:=5) (b:=2048) (id:=100+(k:Nat)) (to:=901) (key:=1) (U7 Ni AA AA) (TE AA) AA) ⟨ke rfl,ke rfl,ke rfl,ke rfl,ke rfl,trivial⟩) ?_
 refine TO.ex 54 rfl (fun iT=>TO.fact 54 rfl fun xz=> ?_)
 refine tp rfl (AM (xs:=[.tmp 54]) (rows:=[_]) rfl rfl underlying38 Fc Xw rfl AB ⟨⟨Am,(Va rfl)⟩,trivial⟩ AB) ?_
 refine tp rfl (Ac rfl Qc (vl rfl)) (TO.Dv 1 rfl rfl (A9 rfl rfl (vl rfl) (Vo rfl) j9 rfl Ao rfl) (TO.nil (Fin.go (wk8 0 2 3 4 7 16 17 18 rfl (Tr.Ap (tp rfl (Ac rfl Ic (vl rfl)) (TO.rd 3 rfl rfl rfl AB (BE rfl S0 (vl rfl) rfl) (TO.rd 1 rfl rfl rfl AB (CU rfl Cy CL (vl rfl) rfl rfl) (tp rfl (AM (xs:=[.tmp 59]) (rows:=[Bk (⟨nm,1,s2.of [3,3,4],14::Ld (s2.Cb.val 3),(s2.Cb.Cb.val 2==2-1),[HQ nm 5 2048 (100+(k:Nat)) 901 1 iT],[1],[2,3],(s2.Cb.Cb.Cb.val 3==3-1)⟩:B_)]) rfl rfl underlying27 CL z40 rfl AB ⟨⟨Am,VL.le (vl rfl) (Pr.le_trans (BT (qs:=Bk (⟨nm,1,s2.of [3,3,4],14::Ld (s2.Cb.val 3),(s2.Cb.Cb.val 2==2-1),[HQ nm 5 2048 (100+(k:Nat)) 901 1 iT],[1],[2,3],(s2.Cb.Cb.Cb.val 3==3-1)⟩:B_)) ⟨Lr,Lr,Lr,Pr.le_trans (Aq _ _) (Pr.le_of_eq rfl),Lr,B0 _ _,Lr,Lr,Lr,trivial⟩) (Ad _))⟩,trivial⟩ AB) ?_)))))))))
 refine TO.DQ 2 rfl rfl AB (B1 rfl rfl rfl rfl underlying27 CL wW z40 (Kb rfl) (Kf rfl) (Ax BN (Ka rfl))) (fun v3=> ?_)
 refine tp rfl (Ac rfl Ic (vl rfl)) (TO.Dv 3 rfl rfl (A9 rfl rfl (vl rfl) (Vo rfl) wU rfl Ao rfl) (TO.nil (Fin.block (Fin.go (Tr.drop 1 (wk7 0 2 3 4 16 17 18 rfl (Tr.Aj (Kx rfl rfl rfl rfl AA (cm rfl (Ch.nil ?_))))))))))
 refine Fin.Ho 2 [Ab v3 (slice 9 ((es++[(⟨nm,1,s2.of [3,3,4],14::Ld (s2.Cb.val 3),(s2.Cb.Cb.val 2==2-1),[HQ nm 5 2048 (100+(k:Nat)) 901 1 iT],[1],[2,3],(s2.Cb.Cb.Cb.val 3==3-1)⟩:B_)]).map Bk)),is (.slice none 0 0),is (.slice none 0 0)] rfl ⟨BC DI,Lr,Lr,trivial⟩ ?_
 refine Fin.drop 0 ?_
 exact Fin.EI (k+1) (es++[(⟨nm,1,s2.of [3,3,4],14::Ld (s2.Cb.val 3),(s2.Cb.Cb.val 2==2-1),[HQ nm 5 2048 (100+(k:Nat)) 901 1 iT],[1],[2,3],(s2.Cb.Cb.Cb.val 3==3-1)⟩:B_)]) (_) v3 (⟨⟨by omega,by rw [List.length_append,hk2];rfl,Wp hk3 ⟨by rw [hk2];exact Ni,rfl,hof,.inr ⟨_,Wo hvs,rfl⟩,⟨iT,xz,by rw [hk2]⟩,rfl,rfl⟩⟩,by omega⟩) ⟨⟨_,rfl,AG k⟩,ke rfl,ke rfl,ke rfl,ke rfl,ke rfl,ke rfl,trivial⟩ (fun _ _ h=>h)
 refine Tr.skip (Fin.go (Tr.seq (Tr.Ap (tm rfl (tp rfl (AV rfl (vZ) trivial) (tm rfl ?_))))))
 refine tp rfl (FE rfl (vl rfl) (vl rfl) ?hin) ?_;case hin=>unfold Oe;omega
 refine tp rfl (AV rfl (Yz (name:=nm) (a:=5) (b:=2048) (id:=100+(k:Nat)) (to:=901) (key:=1) (U7 Ni AA AA) (TE AA) AA) ⟨ke rfl,ke rfl,ke rfl,ke rfl,ke rfl,trivial⟩) ?_
 refine TO.ex 54 rfl (fun iT=>TO.fact 54 rfl fun xz=> ?_)
 refine tp rfl (AM (xs:=[.tmp 54]) (rows:=[_]) rfl rfl underlying38 Fc Xw rfl AB ⟨⟨Am,(Va rfl)⟩,trivial⟩ AB) ?_
 refine tp rfl (Ac rfl Qc (vl rfl)) (TO.Dv 0 rfl rfl (A9 rfl rfl (vl rfl) (Vo rfl) j9 rfl Ao rfl) (TO.nil (Fin.go (wk8 0 2 3 4 7 16 17 18 rfl (Tr.Ap (tp rfl (Ac rfl Ic (vl rfl)) (TO.rd 2 rfl rfl rfl AB (BE rfl S0 (vl rfl) rfl) (TO.rd 0 rfl rfl rfl AB (CU rfl Cy CL (vl rfl) rfl rfl) (tp rfl (AM (xs:=[.tmp 59]) (rows:=[Bk (⟨nm,1,s2.of [3,3,4],Ld (s2.Cb.val 3),(s2.Cb.Cb.val 2==2-1),[HQ nm 5 2048 (100+(k:Nat)) 901 1 iT],[1],[2,3],(s2.Cb.Cb.Cb.val 3==3-1)⟩:B_)]) rfl rfl underlying27 CL z40 rfl AB ⟨⟨Am,VL.le (vl rfl) (Pr.le_trans (BT (qs:=Bk (⟨nm,1,s2.of [3,3,4],Ld (s2.Cb.val 3),(s2.Cb.Cb.val 2==2-1),[HQ nm 5 2048 (100+(k:Nat)) 901 1 iT],[1],[2,3],(s2.Cb.Cb.Cb.val 3==3-1)⟩:B_)) ⟨Lr,Lr,Lr,Lr,Lr,B0 _ _,Lr,Lr,Lr,trivial⟩) (Ad _))⟩,trivial⟩ AB) ?_)))))))))
 refine TO.DQ 1 rfl rfl AB (B1 rfl rfl rfl rfl underlying27 CL wW z40 (Kb rfl) (Kf rfl) (Ax BN (Ka rfl))) (fun v4=> ?_)
 refine tp rfl (Ac rfl Ic (vl rfl)) (TO.Dv 2 rfl rfl (A9 rfl rfl (vl rfl) (Vo rfl) wU rfl Ao rfl) (TO.nil (Fin.block (Fin.go (Tr.drop 0 (wk7 0 2 3 4 16 17 18 rfl (Tr.Aj (Kx rfl rfl rfl rfl AA (cm rfl (Ch.nil ?_))))))))))
 refine Fin.Ho 1 [Ab v4 (slice 9 ((es++[(⟨nm,1,s2.of [3,3,4],Ld (s2.Cb.val 3),(s2.Cb.Cb.val 2==2-1),[HQ nm 5 2048 (100+(k:Nat)) 901 1 iT],[1],[2,3],(s2.Cb.Cb.Cb.val 3==3-1)⟩:B_)]).map Bk)),is (.slice none 0 0),is (.slice none 0 0)] rfl ⟨BC DI,Lr,Lr,trivial⟩ ?_
 exact Fin.EI (k+1) (es++[(⟨nm,1,s2.of [3,3,4],Ld (s2.Cb.val 3),(s2.Cb.Cb.val 2==2-1),[HQ nm 5 2048 (100+(k:Nat)) 901 1 iT],[1],[2,3],(s2.Cb.Cb.Cb.val 3==3-1)⟩:B_)]) (_) v4 (⟨⟨by omega,by rw [List.length_append,hk2];rfl,Wp hk3 ⟨by rw [hk2];exact Ni,rfl,hof,.inl (Wo hvs),⟨iT,xz,by rw [hk2]⟩,rfl,rfl⟩⟩,by omega⟩) ⟨⟨_,rfl,AG k⟩,ke rfl,ke rfl,ke rfl,ke rfl,ke rfl,ke rfl,trivial⟩ (fun _ _ h=>h)
 have eH:k=(2+s.val 2).toNat:=by have:=C3.DZ h1;rw [Yk] at this;omega
 refine Tr.exit (Fin.AW (Fin.AW (Fin.Au (Fin.go (Tr.seq (Tr.seq (Tr.Ho 1 [slice 9 (es.map Bk),is (.slice none 0 0),is (.slice none 0 0)] rfl ⟨Aq _ _,Lr,Lr,trivial⟩ (Tr.drop 0 (Tr.Aj (cm rfl (co rfl (Ca rfl underlying127 (vl rfl)) (cm rfl (Ch.nil (Fin.go ?_))))))))))))))
 refine Tr.block ?_
 refine Tr.re 65 rfl (int_eq (by simp;rfl):Pr.le _ (int (((Ff.take (2+s.val 2).toNat).length:Nat):Int))) ?_
 refine Tr.Ho 0 [slice 9 (es.map Bk),Ab (.slice none 0 0) (H8 []),is (.slice none 0 0)] rfl ⟨Lr,Bl rfl,Lr,trivial⟩ (Tr.B6 132 2 (Tr.Fb [(0,_),(2,_),(3,_),(4,_),(65,_)] ⟨ke rfl,ke rfl,ke rfl,ke rfl,ke rfl,trivial⟩ (fun (i:Nat) (gs:List IE) (s3:DS) w=>[(66,int ((i:Nat):Int))]) (fun (i:Nat) (gs:List IE) (s3:DS) w=>Hp M0 w0 S (As 132 2 w::AF true b2 31 [slice 9 (es.map Bk),Ab w (H8 gs),is (.slice none 0 0)]::AF true b1 31 (([.slice none 0 0,.slice none 0 0,.slice none 0 0]:List Value).map is)::DU b s3::Ak M1 w1::rs)) (fun (i:Nat) (gs:List IE) (s3:DS)=>i≤(2+s.val 2).toNat∧gs.length≤3∧Y_ (2+s.val 2).toNat i 0 gs) (fun (i:Nat) (gs:List IE) (s3:DS)=>(2+s.val 2).toNat-i) (0) ([]) (_) (.slice none 0 0) (⟨by omega,by simp,Y_.nil _ _ _⟩) ⟨ke rfl,trivial⟩ (fun _ _ h=>h) ?_))
 rintro i gs s3 w ⟨hi1,hi2,hi3⟩
 refine Tr.seq (Tr.Aj (co rfl (ki rfl rfl rfl rfl) (Ch.nil (Fin.go (Tr.seq ?_)))))
 refine Tr.cn rfl ?_ ?_<;>intro h3 q3
 have hin:i<(2+s.val 2).toNat:=by have:=C3.DZ h3;rw [Yk] at this;omega
 refine Tr.skip (Fin.go (Tr.seq (Tr.block (Tr.seq (Tr.Aj (cm rfl (cm rfl (Ch.nil (Fin.go (Tr.seq (Tr.Aj (cm rfl (co rfl (Ca rfl underlying127 (vl rfl)) ?_)))))))))))))
 refine cm rfl (Ch.nil (Fin.go (Tr.block ?_)))
 refine Tr.re 70 rfl (int_eq (by simp;rfl):Pr.le _ (int (((Ff.take (2+s.val 2).toNat).length:Nat):Int))) ?_
 refine Tr.Fb [(0,_),(2,_),(3,_),(4,_),(8,_),(65,_),(66,_),(70,_)] ⟨ke rfl,ke rfl,ke rfl,ke rfl,ke rfl,ke rfl,ke rfl,ke rfl,trivial⟩ (fun (j:Nat) (fZ:List IE) (s4:DS) u=>[(71,int ((j:Nat):Int))]) (fun (j:Nat) (fZ:List IE) (s4:DS) u=>Hp M0 w0 S (As 132 2 u::AF true b2 31 [slice 9 (es.map Bk),Ab u (H8 fZ),is (.slice none 0 0)]::AF true b1 31 (([.slice none 0 0,.slice none 0 0,.slice none 0 0]:List Value).map is)::DU b s4::Ak M1 w1::rs)) (fun (j:Nat) (fZ:List IE) (s4:DS)=>j≤(2+s.val 2).toNat∧fZ.length≤3∧Y_ (2+s.val 2).toNat i j fZ) (fun (j:Nat) (fZ:List IE) (s4:DS)=>(2+s.val 2).toNat-j) (0) (gs) (_) w (⟨by omega,hi2,hi3⟩) ⟨ke rfl,trivial⟩ (fun _ _ h=>h) ?_
 rintro j fZ s4 u ⟨hj1,hj2,hj3⟩
 refine Tr.seq (Tr.Aj (co rfl (ki rfl rfl rfl rfl) (Ch.nil (Fin.go (Tr.seq ?_)))))
 refine Tr.cn rfl ?_ ?_<;>intro h4 q4
 have hjn:j<(2+s.val 2).toNat:=by have:=C3.DZ h4;rw [Yk] at this;omega
 refine Tr.skip (Fin.go (Tr.seq (Tr.block (Tr.seq (Tr.Aj (cm rfl (cm rfl (Ch.nil (Fin.go (Tr.seq (Tr.Ap (tm rfl (tm rfl ?_)))))))))))))
 refine tp rfl (ki rfl rfl rfl rfl) (tm rfl ?_)
 refine TO.cases 77 rfl (fun h5=> ?_) (fun h5=> ?_)
 have q5:=C3.DZ h5
 refine TO.Fh rfl rfl rfl h5 rfl AB (BM rfl (vl rfl)) (TO.Wf 3 rfl rfl rfl h5 rfl rfl AB (An rfl rfl AB rfl (CY AA AA) ⟨ke rfl,ke rfl,trivial⟩) (TO.Fh rfl rfl rfl h5 rfl AB (ki rfl rfl rfl rfl) (tp rfl (JD rfl rfl h5 rfl) (tm rfl ?_))))
 refine TO.cases 82 rfl (fun h6=> ?_) (fun h6=> ?_)
 have q6:=C3.DZ h6
 refine TO.Fh rfl rfl rfl h6 rfl AB (Ac rfl NV (vl rfl)) (TO.Fh rfl rfl rfl h6 rfl AB (Cw 1 rfl (BE rfl bT (vl rfl) rfl)) (TO.Fh rfl rfl rfl h6 rfl AB (CH rfl underlying28 (Kb rfl)) (TO.Fh rfl rfl rfl h6 rfl AB (ki rfl rfl rfl rfl) (tp rfl (JD rfl rfl h6 rfl) (TO.nil (Fin.go (JP 0 2 3 4 8 9 65 66 70 71 87 rfl ?_)))))))
 refine Tr.cn rfl ?_ ?_<;>intro h7 q7
 refine Tr.Ap (tp rfl (Ac rfl NV (vl rfl)) (TO.rd 1 rfl rfl rfl AB (BE rfl bT (vl rfl) rfl) (tm rfl (tm rfl (tp rfl (Al (rows:=[(0,[_]),(1,[_])]) rfl vE WQ ⟨⟨rfl,(Vo rfl)⟩,⟨⟨rfl,(Vo rfl)⟩,trivial⟩⟩ rfl) (tp rfl (AM (xs:=[.tmp 92]) (rows:=[_]) rfl rfl underlying28 Et Yi rfl AB ⟨⟨Am,(Va rfl)⟩,trivial⟩ AB) ?_))))))
 refine TO.DQ 0 rfl rfl AB (B1 rfl rfl rfl rfl underlying28 Et vD Yi (Kb rfl) (Kf rfl) (Ax BN (Ka rfl))) (fun v5=> ?_)
 refine tp rfl (Ac rfl NV (vl rfl)) (TO.Dv 1 rfl rfl (A9 rfl rfl (vl rfl) (Vo rfl) AAi rfl Ao rfl) (TO.nil (Fin.block (Fin.go (wk9 0 2 3 4 8 65 66 70 71 rfl (Tr.Aj (Kx rfl rfl rfl rfl AA (cm rfl (Ch.nil ?_)))))))))
 refine Fin.Ho 1 [slice 9 (es.map Bk),Ab v5 (H8 (fZ++[(⟨((i:Nat):Int),((j:Nat):Int)⟩:IE)])),is (.slice none 0 0)] rfl ⟨Lr,BC DI,Lr,trivial⟩ ?_
 exact Fin.EI (j+1) (fZ++[(⟨((i:Nat):Int),((j:Nat):Int)⟩:IE)]) (_) v5 (⟨⟨by omega,by simp;omega,hj3.snoc ⟨by omega,by omega⟩ ⟨by omega,by omega⟩ AA⟩,by omega⟩) ⟨⟨_,rfl,AG j⟩,ke rfl,ke rfl,ke rfl,ke rfl,ke rfl,ke rfl,ke rfl,ke rfl,trivial⟩ (fun _ _ h=>h)
 refine Tr.skip (Fin.block (Fin.go (Tr.Aj (Kx rfl rfl rfl rfl AA (cm rfl (Ch.nil (Fin.EI (j+1) (fZ) (_) u (⟨⟨by omega,hj2,hj3.step⟩,by omega⟩) ⟨⟨_,rfl,AG j⟩,ke rfl,ke rfl,ke rfl,ke rfl,ke rfl,ke rfl,ke rfl,ke rfl,trivial⟩ (fun _ _ h=>h))))))))
 have q6:=C3.DZ h6
 iterate 4 refine TO.OI rfl rfl rfl (Bf h6) rfl AB ?_
 refine tp rfl (MM rfl rfl h6 rfl) (TO.nil (Fin.go (JP 0 2 3 4 8 9 65 66 70 71 87 rfl (Tr.cond rfl (fun h=>nomatch h) (fun _=> ?_)))))
 refine Tr.skip (Fin.block (Fin.go (Tr.Aj (Kx rfl rfl rfl rfl AA (cm rfl (Ch.nil (Fin.EI (j+1) (fZ) (_) u (⟨⟨by omega,hj2,hj3.step⟩,by omega⟩) ⟨⟨_,rfl,AG j⟩,ke rfl,ke rfl,ke rfl,ke rfl,ke rfl,ke rfl,ke rfl,ke rfl,trivial⟩ (fun _ _ h=>h))))))))
 have q5:=C3.DZ h5
 refine TO.OI rfl rfl rfl (Bf h5) rfl AB (TO.OI rfl rfl rfl (Bf h5) rfl AB (TO.OI rfl rfl rfl (Bf h5) rfl AB (tp rfl (MM rfl rfl h5 rfl) (tm rfl ?_))))
 iterate 4 refine TO.OI rfl rfl rfl (Bf rfl) rfl AB ?_
 refine tp rfl (MM rfl rfl rfl rfl) (TO.nil (Fin.go (JP 0 2 3 4 8 9 65 66 70 71 87 rfl (Tr.cond rfl (fun h=>nomatch h) (fun _=> ?_)))))
 refine Tr.skip (Fin.block (Fin.go (Tr.Aj (Kx rfl rfl rfl rfl AA (cm rfl (Ch.nil (Fin.EI (j+1) (fZ) (_) u (⟨⟨by omega,hj2,hj3.step⟩,by omega⟩) ⟨⟨_,rfl,AG j⟩,ke rfl,ke rfl,ke rfl,ke rfl,ke rfl,ke rfl,ke rfl,ke rfl,trivial⟩ (fun _ _ h=>h))))))))
 have hje:j=(2+s.val 2).toNat:=by have:=C3.DZ h4;rw [Yk] at this;omega
 refine Tr.exit (Fin.AW (Fin.AW (Fin.Au (Fin.block (Fin.go (Tr.Aj (Kx rfl rfl rfl rfl AA (cm rfl (Ch.nil (Fin.EI (i+1) (fZ) (_) u (⟨⟨by omega,hj2,hj3.row⟩,by omega⟩) ⟨⟨_,rfl,AG i⟩,ke rfl,ke rfl,ke rfl,ke rfl,ke rfl,trivial⟩ (fun _ _ h=>h)))))))))))
 have hie:i=(2+s.val 2).toNat:=by have:=C3.DZ h3;rw [Yk] at this;omega
 refine Tr.exit (Fin.AW (Fin.AW (Fin.Au (Fin.go (Tr.seq (Tr.seq (Tr.Aj (co rfl (Ac rfl NV (vl rfl)) (co rfl (Cw 1 rfl (BE rfl bT (vl rfl) rfl)) (co rfl (CH rfl underlying28 (Kb rfl)) (co rfl (ki rfl rfl rfl rfl) (Ch.nil (Fin.go ?_)))))))))))))
 refine Tr.cn rfl ?_ ?_<;>intro h8 q8
 refine Tr.Ap (tp rfl (Al (rows:=[(0,[_]),(1,[_])]) rfl vE WQ ⟨⟨rfl,(Vo rfl)⟩,⟨⟨rfl,(Vo rfl)⟩,trivial⟩⟩ rfl) (tp rfl (AM (xs:=[.tmp 102]) (rows:=[_]) rfl rfl underlying28 Et Yi rfl AB ⟨⟨Am,(Va rfl)⟩,trivial⟩ AB) ?_))
 refine tp rfl (Ac rfl NV (vl rfl)) (TO.Dv 1 rfl rfl (A9 rfl rfl (vl rfl) (Vo rfl) AAi rfl Ao rfl) (TO.nil (Fin.go (GM 0 2 3 rfl (Tr.seq (Tr.seq ?_))))))
 have hv9:=s3.DB (n:=3) AA
 obtain ⟨iQ,hge,AAN,AAO,AAP⟩:∃l:List IE,l=[⟨0,1⟩]∧(∀k,k<l.length→Ec (2+s.val 2).toNat l k=true)∧1≤l.length∧l.length≤3:=⟨_,rfl,((Y_.nil (2+s.val 2).toNat 0 1).snoc ⟨by omega,by omega⟩ ⟨by omega,by omega⟩ AA).at_,by simp,by simp⟩
 refine Tr.Ho 1 [slice 9 (es.map Bk),H8 iQ,is (.slice none 0 0)] rfl ⟨Lr,Pr.le_trans (B0 _ _) (Pr.le_of_eq (by rw [hge];rfl)),Lr,trivial⟩ ?_
 refine Tr.drop 0 (Tr.Ap (tm rfl (TO.HJ 2 rfl rfl AB (An rfl rfl AB rfl (CY AA AA) ⟨ke rfl,ke rfl,trivial⟩) (tm rfl (TO.nil (Fin.go (Tr.block (Tr.Ho 0 [slice 9 (es.map Bk),H8 iQ,Ab (.slice none 0 0) (Q7 [])] rfl ⟨Lr,Lr,Bl rfl,trivial⟩ (Tr.B6 135 5 ?_)))))))))
 refine Tr.Fb [(0,_),(2,_),(3,_)] ⟨ke rfl,ke rfl,ke rfl,trivial⟩ (fun (q:Int) (its:List U_) (s5:DS) x=>[(10,int q)]) (fun (q:Int) (its:List U_) (s5:DS) x=>Hp M0 w0 S (As 135 5 x::AF true b2 31 [slice 9 (es.map Bk),H8 iQ,Ab x (Q7 its)]::AF true b1 31 (([.slice none 0 0,.slice none 0 0,.slice none 0 0]:List Value).map is)::DU b s5::Ak M1 w1::rs)) (fun (q:Int) (its:List U_) (s5:DS)=>0≤q∧q+its.length≤2∧∀x∈its,Y9 x) (fun (q:Int) (its:List U_) (s5:DS)=>q.toNat) (_) ([]) (_) (.slice none 0 0) (⟨by omega,by simp;omega,fun x h=>by simp at h⟩) ⟨ke rfl,trivial⟩ (fun _ _ h=>h) ?_
 rintro q its s5 x ⟨hq1,eO,hqi⟩
 refine Tr.seq (Tr.seq (Tr.Aj (cm rfl (co rfl (ki rfl rfl rfl rfl) (Ch.nil (Fin.go ?_))))))
 refine Tr.cn rfl ?_ ?_<;>intro h9 q9
 have hq3:0<q:=of_decide_eq_true h9
 refine Tr.skip (Fin.go (Tr.seq (Tr.block (Tr.pad (Tr.Gu mixed [none,some (0,2,false,0),none,none,none,some (0,4,true,0),some (0,4,true,0),none,some (0,1,true,119),none,some (0,2,true,119)] Be (xo rfl (fun _=>Ac rfl NW (vl rfl)) (JC 2 rfl rfl (BE rfl j7 (vl rfl) rfl) (xm rfl (xm rfl (xo rfl (fun _=>AM (xs:=[.const (.string ⟨[98,97,99,107,117,112].toArray⟩),.const (.string ⟨[100,101,101,100].toArray⟩)]) (rows:=[[_],[_]]) rfl rfl underlying127 NT z9 rfl AB ⟨⟨Am,(Vo rfl)⟩,⟨⟨Am,(Vo rfl)⟩,trivial⟩⟩ AB) ?_))))))))))
 refine Cx.ef 4 rfl rfl AB (An rfl rfl AB rfl (Wn (l:=[[98,97,99,107,117,112],[100,101,101,100]]) AU AU) ⟨ke rfl,(Kf rfl),trivial⟩) ?_
 refine Cx.ef 4 rfl rfl AB (An rfl rfl AB rfl (cL) ⟨ke rfl,ke rfl,trivial⟩) (xo rfl (fun _=>AM (xs:=[.tmp 117]) (rows:=[_]) rfl rfl underlying29 HM Uh rfl AB ⟨⟨Am,(Va rfl)⟩,trivial⟩ AB) ?_)
 refine Cx.ef 1 rfl rfl AB (B1 rfl rfl rfl rfl underlying29 HM kG Uh (Kb rfl) (Kf rfl) (Ax BN (Ka rfl))) ?_
 refine xo rfl (fun _=>Ac rfl NW (vl rfl)) (Cx.Dv 2 rfl rfl (Fz rfl rfl rfl (vl rfl) rfl wV Ao) ?_)
 refine Cx.nil ⟨rfl,?_⟩
 refine BO.Qa 1 2 119 rfl rfl AB rfl (fun v6=> ?_)
 refine BO.done (A8.cons (A8.cons (A8.cons (A8.cons (A8.cons (A8.cons (A8.map _))))))) (Fin.block (Fin.go (Tr.drop 0 (UY 0 2 3 10 rfl (Tr.Aj (cm rfl (csu rfl rfl rfl rfl AA (cm rfl (Ch.nil ?_)))))))))
 refine Fin.Ho 1 [slice 9 (es.map Bk),H8 iQ,Ab v6 (Q7 (its++[(TI s5.Cb (Jz s5 [Lj,ZA]))]))] rfl ⟨Lr,Lr,BC DI,trivial⟩ ?_
 exact Fin.EI (q-1) (its++[(TI s5.Cb (Jz s5 [Lj,ZA]))]) (_) v6 (⟨⟨by omega,by simp;omega,Ww hqi (cJ (cM s5))⟩,by omega⟩) ⟨⟨_,rfl,int_eq AA⟩,ke rfl,ke rfl,ke rfl,trivial⟩ (fun _ _ h=>h)
 have hq3:¬0<q:=of_decide_eq_false h9
 refine Tr.exit (Fin.AW (Fin.AW (Fin.Au (Fin.go (Tr.seq (Tr.Ap (TO.rd 1 rfl rfl rfl AB (CU rfl DT DR (vl rfl) rfl rfl) (TO.AK 2 rfl rfl rfl (vl rfl) (Va rfl) rfl DR rfl rfl (TO.nil (Fin.go (Tr.ret (Fin.Gw 3 _ rfl rfl (Fin.GN [_,_,_] rfl (AO.cell 2 rfl rfl DT DR rfl (Lr)) ?_ (fun _ _ _ _=>rfl))))))))))))))
 · exact jA
 refine Tr.skip (Fin.go (Tr.seq (Tr.seq ?_)))
 have hv9:=s3.DB (n:=3) AA
 obtain ⟨iQ,hge,AAN,AAO,AAP⟩:∃l:List IE,l=gs∧(∀k,k<l.length→Ec (2+s.val 2).toNat l k=true)∧1≤l.length∧l.length≤3:=⟨_,rfl,hi3.at_,by have h_:=h8;simp at h_;exact List.length_pos_iff.2 h_,hi2⟩
 refine Tr.Ho 1 [slice 9 (es.map Bk),H8 iQ,is (.slice none 0 0)] rfl ⟨Lr,Pr.le_trans (Aq _ _) (Pr.le_of_eq (by rw [hge])),Lr,trivial⟩ (Tr.drop 0 (Tr.Ap (tm rfl (TO.HJ 2 rfl rfl AB (An rfl rfl AB rfl (CY AA AA) ⟨ke rfl,ke rfl,trivial⟩) (tm rfl (TO.nil (Fin.go (UY 0 2 3 10 rfl (Tr.block (Tr.Ho 0 [slice 9 (es.map Bk),H8 iQ,Ab (.slice none 0 0) (Q7 [])] rfl ⟨Lr,Lr,Bl rfl,trivial⟩ (Tr.B6 135 5 ?_)))))))))))
 refine Tr.Fb [(0,_),(2,_),(3,_)] ⟨ke rfl,ke rfl,ke rfl,trivial⟩ (fun (q:Int) (its:List U_) (s5:DS) x=>[(10,int q)]) (fun (q:Int) (its:List U_) (s5:DS) x=>Hp M0 w0 S (As 135 5 x::AF true b2 31 [slice 9 (es.map Bk),H8 iQ,Ab x (Q7 its)]::AF true b1 31 (([.slice none 0 0,.slice none 0 0,.slice none 0 0]:List Value).map is)::DU b s5::Ak M1 w1::rs)) (fun (q:Int) (its:List U_) (s5:DS)=>0≤q∧q+its.length≤2∧∀x∈its,Y9 x) (fun (q:Int) (its:List U_) (s5:DS)=>q.toNat) (_) ([]) (_) (.slice none 0 0) (⟨by omega,by simp;omega,fun x h=>by simp at h⟩) ⟨ke rfl,trivial⟩ (fun _ _ h=>h) ?_
 rintro q its s5 x ⟨hq1,eO,hqi⟩
 refine Tr.seq (Tr.seq (Tr.Aj (cm rfl (co rfl (ki rfl rfl rfl rfl) (Ch.nil (Fin.go ?_))))))
 refine Tr.cn rfl ?_ ?_<;>intro h10 Q4
 have hq3:0<q:=of_decide_eq_true h10
 refine Tr.skip (Fin.go (Tr.seq (Tr.block (Tr.pad (Tr.Gu mixed [none,some (0,2,false,0),none,none,none,some (0,4,true,0),some (0,4,true,0),none,some (0,1,true,119),none,some (0,2,true,119)] Be (xo rfl (fun _=>Ac rfl NW (vl rfl)) (JC 2 rfl rfl (BE rfl j7 (vl rfl) rfl) (xm rfl (xm rfl (xo rfl (fun _=>AM (xs:=[.const (.string ⟨[98,97,99,107,117,112].toArray⟩),.const (.string ⟨[100,101,101,100].toArray⟩)]) (rows:=[[_],[_]]) rfl rfl underlying127 NT z9 rfl AB ⟨⟨Am,(Vo rfl)⟩,⟨⟨Am,(Vo rfl)⟩,trivial⟩⟩ AB) ?_))))))))))
 refine Cx.ef 4 rfl rfl AB (An rfl rfl AB rfl (Wn (l:=[[98,97,99,107,117,112],[100,101,101,100]]) AU AU) ⟨ke rfl,(Kf rfl),trivial⟩) ?_
 refine Cx.ef 4 rfl rfl AB (An rfl rfl AB rfl (cL) ⟨ke rfl,ke rfl,trivial⟩) (xo rfl (fun _=>AM (xs:=[.tmp 117]) (rows:=[_]) rfl rfl underlying29 HM Uh rfl AB ⟨⟨Am,(Va rfl)⟩,trivial⟩ AB) ?_)
 refine Cx.ef 1 rfl rfl AB (B1 rfl rfl rfl rfl underlying29 HM kG Uh (Kb rfl) (Kf rfl) (Ax BN (Ka rfl))) ?_
 refine xo rfl (fun _=>Ac rfl NW (vl rfl)) (Cx.Dv 2 rfl rfl (Fz rfl rfl rfl (vl rfl) rfl wV Ao) ?_)
 refine Cx.nil ⟨rfl,?_⟩
 refine BO.Qa 1 2 119 rfl rfl AB rfl (fun v7=> ?_)
 refine BO.done (A8.cons (A8.cons (A8.cons (A8.cons (A8.cons (A8.cons (A8.map _))))))) (Fin.block (Fin.go (Tr.drop 0 (UY 0 2 3 10 rfl (Tr.Aj (cm rfl (csu rfl rfl rfl rfl AA (cm rfl (Ch.nil ?_)))))))))
 refine Fin.Ho 1 [slice 9 (es.map Bk),H8 iQ,Ab v7 (Q7 (its++[(TI s5.Cb (Jz s5 [Lj,ZA]))]))] rfl ⟨Lr,Lr,BC DI,trivial⟩ ?_
 exact Fin.EI (q-1) (its++[(TI s5.Cb (Jz s5 [Lj,ZA]))]) (_) v7 (⟨⟨by omega,by simp;omega,Ww hqi (cJ (cM s5))⟩,by omega⟩) ⟨⟨_,rfl,int_eq AA⟩,ke rfl,ke rfl,ke rfl,trivial⟩ (fun _ _ h=>h)
 have hq3:¬0<q:=of_decide_eq_false h10
 refine Tr.exit (Fin.AW (Fin.AW (Fin.Au (Fin.go (Tr.seq (Tr.Ap (TO.rd 1 rfl rfl rfl AB (CU rfl DT DR (vl rfl) rfl rfl) (TO.AK 2 rfl rfl rfl (vl rfl) (Va rfl) rfl DR rfl rfl (TO.nil (Fin.go (Tr.ret (Fin.Gw 3 _ rfl rfl (Fin.GN [_,_,_] rfl (AO.cell 2 rfl rfl DT DR rfl (Lr)) ?_ (fun _ _ _ _=>rfl))))))))))))))
 · exact jA
end Go.Proofs.YtmocaapoeefgkaaGreatDoor
namespace Cp
open Go Go.RowKit
theorem Iq {P:Program} {E:Env} {I:Cd} {o:Oper} {t e:TypeId} {y:Operand} {sz bytes:Nat} {zs:List Value} {rows:List (List Pr)} (ho:o.op= .call { callee:= .builtin .append,args:= #[.const (.slice none 0 0),y],argTypes:= #[t,t] })
  (ht:P.underlying t=some (.slice e)) (hz:A0 P e=some sz) (hby:Bu P e=some bytes) (Ea:BW P e=some zs) (hzl:zs.length=sz) (hsz:0<sz) (hy:VL E y (slice sz rows)) (Gq:rows.length≤maxLen) (hfit:rows.length*bytes≤140737488355328):Ae P I o E (slice sz rows):=
 Ae.val fun M w a he hI=>by
  have h0:=(Ay.begin (I.bd _ _ hI)).JN (r:=Bp) rfl trivial
  obtain ⟨v',w',M',h1,h2,h3,h4⟩:=V6 (ty:=o.type) (j:=0) (v:= .slice none 0 0) (rows:=[]) ht hz hby Ea hzl hsz h0 rfl (.inr ⟨rfl,rfl⟩) (AP sz M w _ rfl) (hy.ev he DH) PB O_
  have h5:a.eval (.const (.slice none 0 0))= .slice none 0 0:=rfl
  exact ⟨v',w',by simp [execOp,ho,resolve,invoke,builtin,h1,h5],(slice sz rows).st _ _ _ _ _ (Ext.less h4.m) MB,h4.below⟩
theorem TO.Sy {P:Program} {n:Fm} {E:Env} {M0:Av} {w0:World} {S:Nat→Prop} {rs:List At} {ops:Array Oper} {r:List Oper} {Q:Exit→Act→World→Prop} (i:Nat) {T:TypeId} {b:Nat} (hi:rs[i]? =some (Ib T b)) (k:∀s,TO P n ops r E (Hp M0 w0 S (rs.set i (WI T b s))) Q):TO P n ops r E (Hp M0 w0 S rs) Q:=by
 rintro m hl a w ⟨M,h1,h2,h3,h4⟩
 have h4:Ay M0 w0 S rs M w:=h4
 obtain ⟨x,hx,hh⟩:=(h4.hold _ (List.mem_of_getElem? hi)).1
 exact k x m hl a w ⟨M,h1,h2,h3,h4.CR hi rfl rfl hh⟩
theorem Ae.M_ {P:Program} {E:Env} {I:Cd} {o:Oper} {p:Pr} (s:Nat) {α:Type} {f:α→Pr} (hs:E.lookup s=some (Cp.ex f)) (hm:s∈looks o) (h:∀x,Ae P I o ((s,f x)::E) p):Ae P I o E p:=by
 intro M w a he hI
 obtain ⟨x,hx⟩:=he s _ hm hs
 refine h x M w a (fun t q ht hq=> ?_) hI
 simp only [List.lookup] at hq
 by_cases hts:t=s
 · exact UH
 · exact T7
theorem Ae.opf {P:Program} {E:Env} {I:Cd} {o:Oper} {p q:Pr} {φ:Prop} (s:Nat) (hs:E.lookup s=some (Cp.fact φ q)) (hm:s∈looks o) (h:φ→Ae P I o ((s,q)::E) p):Ae P I o E p:=by
 intro M w a he hI
 obtain ⟨hφ,hx⟩:=he s _ hm hs
 refine h hφ M w a (fun t r ht hr=> ?_) hI
 simp only [List.lookup] at hr
 by_cases hts:t=s
 · subst hts;simp at hr;subst hr;exact hx
 · rw [show (t==s)=false by simpa using hts] at hr;exact he t r ht hr
end Cp
namespace Cp
open Go Go.RowKit Go.Great
section
variable {P:Program} {L:Lg P} {n:Fm} {fz:Nat} {E:Env} {M0:Av} {w0:World} {S:Nat→Prop} {rs:List At}
theorem Ay.Wx {i:Nat} {r r':At} {M:Av} {w:World} (h:Ay M0 w0 S rs M w) (hi:rs[i]? =some r) (hb:∀b,r'.blk=some b→r.blk=some b) (hn:r'.new=r.new) (hh:r'.h M w):Ay M0 w0 S (rs.set i r') M w:=by
 have Fg:i<rs.length:=by rcases Nat.lt_or_ge i rs.length with h|h;exact h;rw [List.getElem?_eq_none h] at hi;cases hi
 have h1:=Ay.perm (EG hi) h
 refine Ay.perm (MI Fg) ⟨h1.m0,h1.m,h1.os,h1.tape,h1.output,h1.size,h1.block,h1.bd,fun q hq=> ?_,?_⟩
 ·
  rcases List.mem_cons.1 hq with rfl|hq
  · exact ⟨hh,fun b hbk=>by rw [hn];exact (h1.hold r AU).2 b (hb b hbk)⟩
  · exact h1.hold q (by simp [hq])
 ·
  obtain ⟨h2,h3⟩:=List.pairwise_cons.1 h1.nd
  exact List.Pairwise.cons (fun q hq b hbk=>h2 q hq b (hb b hbk)) h3
theorem Ay.Q9 {j:Nat} {e:TypeId} {sz:Nat} {rows:List (List Pr)} {v:Value} {M:Av} {w:World} (h:Ay M0 w0 S rs M w) (hj:rs[j]? =some (BQ e sz rows v)):Ay M0 w0 S (rs.set j (Bx e sz rows v)) M w:=by
 rcases (h.hold _ (List.mem_of_getElem? hj)).1 with ⟨h1,h2⟩|⟨b,cap,sp,h1,h2,h3,h4,h5⟩
 ·
  subst h2
  exact h.Wx hj (fun b hb=>by cases hb) rfl (.inl ⟨h1,_,rfl⟩)
 ·
  subst h1
  cases cap with
  |zero=>
   have hr:rows=[]:=List.eq_nil_of_length_eq_zero AA
   subst hr
   exact h.Wx hj (fun b hb=>by cases hb) rfl (.inl ⟨rfl,_,rfl⟩)
  |succ c=>exact h.Wx hj (fun b hb=>hb) rfl (.inr ⟨b,c,sp,rfl,h2,h3,h4,h5⟩)
theorem Fin.Q9 {Q:Exit→Act→World→Prop} {x:Exit} {e:TypeId} {sz:Nat} {rows:List (List Pr)} {v:Value} (j:Nat) (hj:rs[j]? =some (BQ e sz rows v)) (k:Fin n E (Hp M0 w0 S (rs.set j (Bx e sz rows v))) Q x):Fin n E (Hp M0 w0 S rs) Q x:=
 Fin.conv (fun a w hs=>by
  obtain ⟨M,h1,h2,h3,h4⟩:=hs
  have h4:Ay M0 w0 S rs M w:=h4
  exact ⟨M,h1,h2,h3,h4.Q9 hj⟩) k
theorem Tr.Q9 {Q:Exit→Act→World→Prop} {c:Code} {e:TypeId} {sz:Nat} {rows:List (List Pr)} {v:Value} (j:Nat) (hj:rs[j]? =some (BQ e sz rows v)) (k:Tr L n E (Hp M0 w0 S (rs.set j (Bx e sz rows v))) c Q):Tr L n E (Hp M0 w0 S rs) c Q:=
 Tr.conv (fun _ _ ⟨M,h1,h2,h3,h4⟩=>⟨M,h1,h2,h3,Ay.Q9 h4 hj⟩) k
end
end Cp
namespace Go.Proofs.YtmocaapoeefgkaaGreatDoor
open Go Go.RowKit Cp Go.Proofs.Tryz
structure B_.sz (e:B_) (n:Nat):Prop where
 name:e.name.length≤maxLen
 Az:e.Az.length≤n
 anchors:e.anchors.length≤n
 hashes:e.hashes.length≤n
 YE:e.ids.length≤n
 ids:∀x∈e.ids,x.fits∧x.small
theorem B_.sz.fits {e:B_} {n:Nat} (h:e.sz n):e.fits:=⟨h.name,fun x hx=>(h.ids x hx).1⟩
theorem B_.sz.small {e:B_} {n:Nat} (h:e.sz n) (hn:n≤1000000):e.small:=⟨by have:=h.Az;omega,by have:=h.anchors;omega,by have:=h.hashes;omega,by have:=h.YE;omega,fun x hx=>(h.ids x hx).2⟩
theorem B_.sz.le {e:B_} {n m:Nat} (h:e.sz n) (hn:n≤m):e.sz m:=⟨h.name,Nat.le_trans h.Az hn,Nat.le_trans h.anchors hn,Nat.le_trans h.hashes hn,Nat.le_trans h.YE hn,h.ids⟩
theorem s7 {i:Nat} {e:B_} (h:Y0 i e):e.sz 5:=by
 have hs:=U8 _ (J0 h)
 have h1:=TG h;have h2:=Q6 h
 obtain ⟨s,hs1,Uw⟩:=h.ids
 exact ⟨h1.name,hs.2,by rw [h.anchors];simp,by rw [h.hashes];simp,by rw [Uw];simp,fun x hx=>⟨h1.ids x hx,h2.ids x hx⟩⟩
theorem Pa {α:Type} {l:List α} {a:α} {i:Nat}:(l.take i++[a]++l.drop i).length≤l.length+1:=by simp [List.length_take,List.length_drop];omega
theorem Pb {α:Type} {l:List α} {i:Nat}:(l.eraseIdx i).length≤l.length:=by rw [List.length_eraseIdx];split<;>omega
theorem G4:Bv.fits∧Bv.small:=⟨lX,fN⟩
theorem s8 {P:JV→Prop} {l:List JV} {x:JV} {i:Nat} (h:∀y∈l,P y) (hx:P x):∀y∈l.take i++[x]++l.drop i,P y:=by
 intro y hy
 simp only [List.mem_append,List.mem_cons,List.not_mem_nil,or_false] at hy
 rcases hy with (hy|rfl)|hy
 · exact h y (List.mem_of_mem_take hy)
 · exact hx
 · exact h y (List.mem_of_mem_drop hy)
theorem cN {e:B_} {c:BX} {x:B_} {b:BX} {n:Nat} (hc:JM c) (h:B9 e c= .ok (x,b)) (hs:e.sz n) (hi:c.C2.fits∧c.C2.small):x.sz (n+1)∧b.C2.fits∧b.C2.small:=by
 have h1:=hs.Az;have h2:=hs.anchors;have h3:=hs.hashes;have h4:=hs.YE
 rcases cF hc.1 with hk|hk|hk|hk|hk|hk|hk|hk|hk|hk|hk|hk
 · rw [PO hk] at h;(repeat' (split at h))<;>first|(cases h;done)|(injection h with h;obtain ⟨rfl,rfl⟩:=Prod.mk.inj h;exact ⟨⟨hs.name,Nat.le_trans Pa AA,Nat.le_trans h2 AA,Nat.le_trans h3 AA,Nat.le_trans h4 AA,hs.ids⟩,G4⟩)
 · rw [PR hk] at h;(repeat' (split at h))<;>first|(cases h;done)|(injection h with h;obtain ⟨rfl,rfl⟩:=Prod.mk.inj h;exact ⟨⟨hs.name,Nat.le_trans Pb AA,Nat.le_trans h2 AA,Nat.le_trans h3 AA,Nat.le_trans h4 AA,hs.ids⟩,G4⟩)
 · rw [PT hk] at h;(repeat' (split at h))<;>first|(cases h;done)|(injection h with h;obtain ⟨rfl,rfl⟩:=Prod.mk.inj h;exact ⟨⟨hs.name,Nat.le_trans h1 AA,Nat.le_trans h2 AA,Nat.le_trans h3 AA,Nat.le_trans h4 AA,hs.ids⟩,G4⟩)
 · rw [PU hk] at h;(repeat' (split at h))<;>first|(cases h;done)|(injection h with h;obtain ⟨rfl,rfl⟩:=Prod.mk.inj h;exact ⟨⟨hs.name,Nat.le_trans h1 AA,Nat.le_trans h2 AA,Nat.le_trans h3 AA,Nat.le_trans h4 AA,hs.ids⟩,G4⟩)
 · rw [PV hk] at h;(repeat' (split at h))<;>first|(cases h;done)|(injection h with h;obtain ⟨rfl,rfl⟩:=Prod.mk.inj h;exact ⟨⟨hs.name,Nat.le_trans h1 AA,Nat.le_trans h2 AA,Nat.le_trans h3 AA,Nat.le_trans Pa AA,s8 hs.ids hi⟩,G4⟩)
 · rw [PW hk] at h;(repeat' (split at h))<;>first|(cases h;done)|(injection h with h;obtain ⟨rfl,rfl⟩:=Prod.mk.inj h;exact ⟨⟨hs.name,Nat.le_trans h1 AA,Nat.le_trans h2 AA,Nat.le_trans h3 AA,Nat.le_trans Pb AA,fun y hy=>hs.ids y (List.mem_of_mem_eraseIdx hy)⟩,hs.ids _ (List.mem_of_getElem? Bg)⟩)
 · rw [PX hk] at h;(repeat' (split at h))<;>first|(cases h;done)|(injection h with h;obtain ⟨rfl,rfl⟩:=Prod.mk.inj h;exact ⟨⟨hs.name,Nat.le_trans h1 AA,Nat.le_trans Pa AA,Nat.le_trans h3 AA,Nat.le_trans h4 AA,hs.ids⟩,G4⟩)
 · rw [PY hk] at h;(repeat' (split at h))<;>first|(cases h;done)|(injection h with h;obtain ⟨rfl,rfl⟩:=Prod.mk.inj h;exact ⟨⟨hs.name,Nat.le_trans h1 AA,Nat.le_trans Pb AA,Nat.le_trans h3 AA,Nat.le_trans h4 AA,hs.ids⟩,G4⟩)
 · rw [PZ hk] at h;(repeat' (split at h))<;>first|(cases h;done)|(injection h with h;obtain ⟨rfl,rfl⟩:=Prod.mk.inj h;exact ⟨⟨hs.name,Nat.le_trans h1 AA,Nat.le_trans h2 AA,Nat.le_trans Pa AA,Nat.le_trans h4 AA,hs.ids⟩,G4⟩)
 · rw [Mf hk] at h;(repeat' (split at h))<;>first|(cases h;done)|(injection h with h;obtain ⟨rfl,rfl⟩:=Prod.mk.inj h;exact ⟨⟨hs.name,Nat.le_trans h1 AA,Nat.le_trans h2 AA,Nat.le_trans Pb AA,Nat.le_trans h4 AA,hs.ids⟩,G4⟩)
 · rw [Mg hk] at h;(repeat' (split at h))<;>first|(cases h;done)|(injection h with h;obtain ⟨rfl,rfl⟩:=Prod.mk.inj h;exact ⟨⟨hs.name,Nat.le_trans h1 AA,Nat.le_trans h2 AA,Nat.le_trans h3 AA,Nat.le_trans h4 AA,hs.ids⟩,G4⟩)
 · rw [Mh hk] at h;(repeat' (split at h))<;>first|(cases h;done)|(injection h with h;obtain ⟨rfl,rfl⟩:=Prod.mk.inj h;exact ⟨⟨hs.name,Nat.le_trans h1 AA,Nat.le_trans h2 AA,Nat.le_trans h3 AA,Nat.le_trans h4 AA,hs.ids⟩,G4⟩)
theorem s_ {e:B_} {c:BX} {x:B_} {b:BX} {n:Nat} (h:EC e c=(x,b,0)) (hs:e.sz n) (hi:c.C2.fits∧c.C2.small):x.sz (n+1)∧b.C2.fits∧b.C2.small:=by
 obtain ⟨_,h2,h3,_⟩:=fU h
 exact cN h2 h3 hs hi
structure Dc.sz (e:Dc) (n:Nat):Prop where
 Bs:∀x∈e.Bs,x.sz n
 items:∀x∈e.items,x.name.length≤maxLen∧x.links.length≤1000000
 le:e.Bs.length≤1000000
 lg:e.BS.length≤1000000
 li:e.items.length≤1000000
theorem Dc.sz.fits {e:Dc} {n:Nat} (h:e.sz n) (hn:n≤1000000):e.fits:=
 ⟨fun x hx=>⟨(h.Bs x hx).fits,(h.Bs x hx).small hn⟩,fun x hx=>(h.items x hx).1,by have:=h.le;omega,by have:=h.lg;omega,by have:=h.li;omega⟩
theorem vi {β γ:Type} {f:β→γ} {l:List β} {k:Nat} {x:β} (h:l[k]? =some x):(l.take k).map f++[f x]=(l.take (k+1)).map f:=by rw [List.take_add_one,h,List.map_append];rfl
def LD (l:List B_) (c:BX):List B_×Int:=
 if c.AX<0∨((l.length:Nat):Int)≤c.AX then (l,40)
 else match l[c.AX.toNat]? with
  |none=>(l,40)
  |some x=>if (EC x c).2.2=0 then (l.set c.AX.toNat (EC x c).1,0) else (l,(EC x c).2.2)
theorem tA {l:List B_} {c:BX} (h:c.AX<0∨((l.length:Nat):Int)≤c.AX):LD l c=(l,40):=if_pos h
theorem x5 {l:List B_} {c:BX} {x:B_} (h:¬(c.AX<0∨((l.length:Nat):Int)≤c.AX)) (hx:l[c.AX.toNat]? =some x):LD l c=if (EC x c).2.2=0 then (l.set c.AX.toNat (EC x c).1,0) else (l,(EC x c).2.2):=by
 unfold LD;rw [if_neg h,hx]
def Nj (l:List BX):List Int→List B_→List B_×Int
 |[],Bs=>(Bs,0)
 |i::s,Bs=>match l[i.toNat]? with
  |none=>(Bs,0)
  |some c=>if (LD Bs c).2=0 then Nj l s (LD Bs c).1 else (Bs,(LD Bs c).2)
def VD (e:Dc) (l:List BX) (s:List Int):Dc×Int:=
 if FM e=false then (F4,31)
 else if 24<l.length then (F4,3)
 else if De l.length s=false then (F4,46)
 else if (Nj l s e.Bs).2=0 then (⟨(Nj l s e.Bs).1,e.BS,e.items⟩,0) else (F4,(Nj l s e.Bs).2)
theorem fc {l:List BX} {s:List Int} {Bs:List B_} {k:Nat} {i:Int} {c:BX} (hi:s[k]? =some i) (hc:l[i.toNat]? =some c):Nj l (s.drop k) Bs=if (LD Bs c).2=0 then Nj l (s.drop (k+1)) (LD Bs c).1 else (Bs,(LD Bs c).2):=by
 have hk:=BI hi
 rw [List.drop_eq_getElem_cons hk]
 rw [List.getElem?_eq_getElem hk] at hi;cases hi
 rw [Nj];rw [hc]
theorem cO (l:List B_) (c:BX):(LD l c).1.length=l.length:=by
 unfold LD;split
 · rfl
 ·
  split
  · rfl
  ·
   split
   · exact List.length_set
   · rfl
theorem l_ {l:List B_} {c:BX} {n:Nat} (hz:∀x∈l,x.sz n) (hi:c.C2.fits∧c.C2.small):∀x∈(LD l c).1,x.sz (n+1):=by
 have Eg:∀x∈l,x.sz (n+1):=fun x hx=>(hz x hx).le AA
 unfold LD;split
 · exact Eg
 ·
  split
  · exact Eg
  next x hx=>
  split
  next h0=>
   intro y hy
   rcases List.mem_or_eq_of_mem_set hy with hy|hy
   · exact Eg y hy
   ·
    subst hy
    exact (s_ (b:=(EC x c).2.1) (by rw [←h0]) (hz x (List.mem_of_getElem? hx)) hi).1
  · exact Eg
def OP (s:List Int) (k:Nat):Int:=if k=0 then -1 else s[k-1]?.getD 0
theorem ZB {s:List Int} {k:Nat} {i:Int} (h:s[k]? =some i):OP s (k+1)=i:=by unfold OP;rw [if_neg AA,Nat.add_sub_cancel,h];rfl
theorem Q_ {n:Int} {s:List Int} {k:Nat} {i:Int} (h:∀j,j<k→setAt n s j=true) (hi:s[k]? =some i):setAt n s k= !(decide (i≤OP s k)||decide (n≤i)):=by
 have hk:=BI hi
 unfold setAt OP
 rw [hi,Option.getD_some]
 rcases Nat.eq_zero_or_pos k with hz|hz
 · subst hz;rw [Bool.eq_iff_iff];simp;omega
 ·
  have h1:=h (k-1) AA
  unfold setAt at h1
  simp only [Bool.and_eq_true,decide_eq_true_eq] at h1
  rw [if_neg AA,Bool.eq_iff_iff];simp;omega
theorem T3 {n:Int} {s:List Int} {k:Nat} {i:Int} (h:∀j,j<k→setAt n s j=true) (hi:s[k]? =some i) (hb:i≤OP s k∨n≤i):De n s=false:=
 QD (p:=setAt n s) (k:=k) (BI hi) (by rw [Q_ h hi];simp;omega)
theorem mA {n:Int} {s:List Int} (h:∀j,j<s.length→setAt n s j=true):∀j,j<s.length→(j:Int)≤s[j]?.getD 0
 |0,hj=>by have:=h 0 hj;unfold setAt at this;simp at this;simp;omega
 |j+1,hj=>by
  have h1:=mA h j AA
  have:=h (j+1) hj
  unfold setAt at this
  simp only [Bool.and_eq_true,Bool.or_eq_true,decide_eq_true_eq,Nat.add_sub_cancel] at this
  omega
theorem cQ {n:Nat} {s:List Int} (h:De n s=true):s.length≤n:=by
 unfold De at h;rw [B7] at h
 rcases Nat.eq_zero_or_pos s.length with hz|hz
 · omega
 ·
  have h1:=mA h (s.length-1) AA
  have h2:=h (s.length-1) AA
  unfold setAt at h2
  simp only [Bool.and_eq_true,decide_eq_true_eq] at h2
  omega
theorem Pc {n:Nat} {s:List Int} (h:De n s=true) {k:Nat} {i:Int} (hi:s[k]? =some i):0≤i∧i<n:=by
 unfold De at h;rw [B7] at h
 have h2:=h k (BI hi)
 unfold setAt at h2
 rw [hi] at h2
 simp only [Option.getD_some,Bool.and_eq_true,decide_eq_true_eq] at h2
 exact h2.1
end Go.Proofs.YtmocaapoeefgkaaGreatDoor
namespace Cp
open Go Go.RowKit
theorem tB {β:Type} {f:β→Pr} {ps:List Pr} {M:Av} {w:World} {ad:Addr} {n:Nat} (h:Row M w ad n (ps++[Cp.ex f])):∃x,Row M w ad n (ps++[f x]):=by
 obtain ⟨u,h1,h2,h3,x,h4⟩:=h ps.length (Cp.ex f) AU
 refine ⟨x,fun j p hp=> ?_⟩
 rcases Nat.lt_trichotomy j ps.length with hj|hj|hj
 · exact ah
 · subst hj;simp at hp;subst hp;exact ⟨u,h1,h2,h3,h4⟩
 · exact Ow
theorem ff {φ:Prop} {q:Pr} {ps:List Pr} {M:Av} {w:World} {ad:Addr} {n:Nat} (h:Row M w ad n (ps++[fact φ q])):φ∧Row M w ad n (ps++[q]):=by
 obtain ⟨u,h1,h2,h3,hφ,h4⟩:=h ps.length (fact φ q) AU
 refine ⟨hφ,fun j p hp=> ?_⟩
 rcases Nat.lt_trichotomy j ps.length with hj|hj|hj
 · exact ah
 · subst hj;simp at hp;subst hp;exact ⟨u,h1,h2,h3,h4⟩
 · exact Ow
theorem ZC {α β:Type} {f:α→List Pr} {g:β→List Pr} {φ:α→β→Prop} {sz:Nat} (h:∀a M w ad n,Row M w ad n (f a)→∃b,φ a b∧Row M w ad n (g b)) (hf:∀a,(f a).length=sz) (hg:∀b,(g b).length=sz) (ms:List α):
  Pr.le (slice sz (ms.map f)) (Cp.ex fun l:List β=>fact (l.length=ms.length∧∀(i:Nat) a b,ms[i]? =some a→l[i]? =some b→φ a b) (slice sz (l.map g))):=by
 rintro M w v ⟨a,cap,hv,h1,h2,h3,h5⟩
 have hk:∀k,k≤ms.length→∃l:List β,l.length=k∧(∀(i:Nat) a b,ms[i]? =some a→l[i]? =some b→φ a b)∧∀(i:Nat) b,l[i]? =some b→∃ad,a=some ad∧Row M w ad (i*sz) (g b):=by
  intro k
  induction k with
  |zero=>intro _;exact ⟨[],rfl,by simp,by simp⟩
  |succ k ih=>
   intro hk
   obtain ⟨l,hl,hp,hr⟩:=ih AA
   obtain ⟨x,hx⟩:∃x,ms[k]? =some x:=⟨ms[k],List.getElem?_eq_getElem AA⟩
   obtain ⟨_,ad,had,hrow⟩:=h5 k (f x) UG
   obtain ⟨b,M9,R3⟩:=h x M w ad (k*sz) hrow
   refine ⟨l++[b],by simp [hl],fun i y c hy hc=> ?_,fun i c hc=> ?_⟩
   ·
    rcases Nat.lt_trichotomy i k with hi|hi|hi
    · rw [List.getElem?_append_left AA] at hc;exact hp i y c hy hc
    · subst hi;rw [List.getElem?_append_right AA,hl] at hc;simp at hc;subst hc;rw [hx] at hy;cases hy;exact M9
    · rw [List.getElem?_eq_none (by simp [hl];omega)] at hc;cases hc
   ·
    rcases Nat.lt_trichotomy i k with hi|hi|hi
    · rw [List.getElem?_append_left AA] at hc;exact hr i c hc
    · subst hi;rw [List.getElem?_append_right AA,hl] at hc;simp at hc;subst hc;exact ⟨ad,had,R3⟩
    · rw [List.getElem?_eq_none (by simp [hl];omega)] at hc;cases hc
 obtain ⟨l,hl,hp,hr⟩:=hk ms.length (Nat.le_refl _)
 rw [List.length_map] at hv h1
 refine ⟨l,⟨hl,hp⟩,a,cap,by rw [List.length_map,hl];exact hv,by rw [List.length_map,hl];exact h1,h2,h3,fun i row hrow=> ?_⟩
 rw [List.getElem?_map] at hrow
 cases hb:l[i]? with
 |none=>rw [hb] at hrow;cases hrow
 |some b=>
  rw [hb] at hrow;simp at hrow;subst hrow
  exact ⟨hg b,hr i b hb⟩
end Cp
namespace Go.Proofs.YtmocaapoeefgkaaGreatDoor
open Go Go.RowKit Cp Go.Proofs.Tryz
structure ChS (l:List ID):Prop where
 fits:∀c∈l,c.fits
 small:(⟨0,0,0,l⟩:JV).small
abbrev chE:Pr:=Cp.ex fun l:List ID=>fact (ChS l) (OL l)
abbrev EK (c:BX):List Pr:=[int c.AX,int c.kind,int c.number,int c.at_,int c.C2.CA,int c.C2.bits,int c.C2.CS,chE]
structure tC (es:List B_) (c:BX):Prop where
 lo:0≤c.AX
 hi:c.AX<(es.length:Nat)
 kind:1≤c.kind∧c.kind≤12
def H9 (es:List B_) (l:List BX):Prop:=∀c∈l,tC es c
theorem H9.snoc {es:List B_} {l:List BX} {c:BX} (h:H9 es l) (hc:tC es c):H9 es (l++[c]):=by
 intro x hx
 rcases List.mem_append.1 hx with hx|hx
 · exact h x hx
 · simp at hx;subst hx;exact hc
theorem H9.two {es:List B_} {l:List BX} {c d:BX} (h:H9 es l) (hc:tC es c) (hd:tC es d):H9 es (l++[c,d]):=by
 intro x hx
 rcases List.mem_append.1 hx with hx|hx
 · exact h x hx
 · simp at hx;rcases hx with rfl|rfl;exact hc;exact hd
theorem H9.perm {es:List B_} {l m:List BX} (hp:m.Perm l) (h:H9 es l):H9 es m:=fun c hc=>h c (hp.mem_iff.1 hc)
theorem H9.take {es:List B_} {l:List BX} {n:Nat} (h:H9 es l):H9 es (l.take n):=fun c hc=>h c (List.mem_of_mem_take hc)
theorem tD:ChS []:=⟨(fun c h=>by cases h),⟨by show 0≤_;omega,(fun c hc=>by cases hc)⟩⟩
theorem Mj:Pr.le (is (.slice none 0 0)) chE:=Aw [] (A7 tD (AP 15))
theorem tE {nm:List UInt8} (h:nm∈Ff) {a b id key:Int}:Pr.le (xj nm a b id 901 key) chE:=by
 rintro M w v ⟨s,hs,hv⟩
 have hf:=ACX (a:=a) (b:=b) (id:=id) (key:=key) (s:=s) h
 exact ⟨_,⟨hf.1,⟨hf.2.chain,hf.2.names⟩⟩,hv⟩
theorem mB {nm:List UInt8} {a b id to key:Int}:(vY nm a b id to key).le (agg [int a,int b,int id,xj nm a b id to key]):=by
 rintro M w v ⟨s,hs,hv⟩
 exact BT (ps:=G1 (HQ nm a b id to key s)) (qs:=[int a,int b,int id,xj nm a b id to key]) ⟨Pr.le_refl _,Pr.le_refl _,Pr.le_refl _,fun M w v h=>⟨s,hs,h⟩,trivial⟩ M w v hv
theorem mC (c:BX) (M:Av) (w:World) (ad:Addr) (n:Nat) (h:Row M w ad n (EK c)):∃b:BX,(b.AX=c.AX∧b.kind=c.kind∧b.number=c.number∧b.at_=c.at_∧ChS b.C2.chain)∧Row M w ad n (El b):=by
 obtain ⟨ch,h1⟩:=tB (ps:=[int c.AX,int c.kind,int c.number,int c.at_,int c.C2.CA,int c.C2.bits,int c.C2.CS]) h
 obtain ⟨h2,h3⟩:=ff (ps:=[int c.AX,int c.kind,int c.number,int c.at_,int c.C2.CA,int c.C2.bits,int c.C2.CS]) h1
 exact ⟨⟨c.AX,c.kind,c.number,c.at_,⟨c.C2.CA,c.C2.bits,c.C2.CS,ch⟩⟩,⟨rfl,rfl,rfl,rfl,h2⟩,h3⟩
structure ACc (es:List B_) (l:List BX):Prop where
 len:l.length≤7
 any:∀c∈l,AF3 es c
theorem VE {es:List B_} {ms:List BX} (h:H9 es ms) (hl:ms.length≤7):Pr.le (slice 8 (ms.map EK)) (Cp.ex fun l:List BX=>fact (ACc es l) (slice 8 (l.map El))):=by
 intro M w v hv
 obtain ⟨l,⟨h1,h2⟩,h3⟩:=ZC mC (fun _=>rfl) (fun _=>rfl) ms M w v hv
 refine ⟨l,⟨by omega,fun c hc=> ?_⟩,h3⟩
 obtain ⟨i,hi⟩:=List.getElem?_of_mem hc
 obtain ⟨a,ha⟩:=at_ (l:=ms) (k:=i) (by have:=BI hi;omega)
 obtain ⟨g1,g2,g3,g4,g5⟩:=h2 i a c ha hi
 have hm:=h a (List.mem_of_getElem? ha)
 exact ⟨by rw [g1];exact hm.lo,by rw [g1];exact hm.hi,by rw [g2];exact hm.kind,g5.fits,⟨g5.small.chain,g5.small.names⟩⟩
theorem tF {b:Nat} {s:DS} {e:Dc} (hs:lT e.Bs) (hl:1≤e.Bs.length∧e.Bs.length≤3):BZ prog 48 [ptr b 0,agg (CE e)] (Cp.ex fun l:List BX=>fact (ACc e.Bs l) (slice 8 (l.map El))) (DU b s) (fun _=>Ib 104 b):=by
 refine BZ.of func48 rfl rfl Ao fun M0 w0 S rs M1 w1=> ?_
 refine Tr.seq (Tr.Aj (co rfl (Bn rfl (Va rfl)) (cm rfl (Ch.nil (Fin.go (Tr.seq (Tr.Aj (cm rfl (Ch.nil (Fin.go (Tr.seq (Tr.Ap (tm rfl ?_)))))))))))))
 refine TO.HJ 0 rfl rfl AB (An rfl rfl AB rfl (CY AA AA) ⟨ke rfl,ke rfl,trivial⟩) (tp rfl (ki rfl rfl rfl rfl) (tm rfl (TO.HJ 0 rfl rfl AB (An rfl rfl AB rfl (CY AA AA) ⟨ke rfl,ke rfl,trivial⟩) (tp rfl (ki rfl rfl rfl rfl) (tm rfl (TO.HJ 0 rfl rfl AB (An rfl rfl AB rfl (CY AA AA) ⟨ke rfl,ke rfl,trivial⟩) (tp rfl (ki rfl rfl rfl rfl) (tm rfl (tm rfl (tm rfl (TO.nil (Fin.go (wk6 0 3 5 6 7 8 rfl (Tr.seq ?_))))))))))))))
 refine Tr.seq (Tr.Aj (co rfl (Ss rfl Ic rfl rfl) (co rfl (GU rfl S0 rfl) (co rfl (CH rfl underlying27 (vl rfl)) (cm rfl (Ch.nil (Fin.go (Tr.block (Tr.Hf 86 8 (Tr.Fb [(0,_),(6,_),(7,_),(8,_),(23,_),(24,_)] ⟨ke rfl,ke rfl,ke rfl,ke rfl,ke rfl,ke rfl,trivial⟩ (fun (k:Nat) (ms:List BX) (s2:DS) v=>[(25,int ((k:Nat):Int)),(5,Ab v (lens (ms.map EK).length))]) (fun (k:Nat) (ms:List BX) (s2:DS) v=>Hp M0 w0 S (BQ 86 8 (ms.map EK) v::DU b s2::Ak M1 w1::rs)) (fun (k:Nat) (ms:List BX) (s2:DS)=>k≤e.Bs.length∧ms.length≤6*k∧H9 e.Bs ms) (fun (k:Nat) (ms:List BX) (s2:DS)=>e.Bs.length-k) (0) ([]) (_) (.slice none 0 0) (⟨Nat.zero_le _,by simp,fun c hc=>by simp at hc⟩) ⟨ke rfl,⟨_,rfl,GK (by rfl)⟩,trivial⟩ (fun _ _ h=>h) ?_))))))))))
 rintro k ms s2 v ⟨hk1,AG1,TK⟩
 refine Tr.seq (Tr.Aj (co rfl (ki rfl rfl rfl rfl) (Ch.nil (Fin.go (Tr.seq ?_)))))
 refine Tr.cn rfl ?_ ?_<;>intro h1 q1
 have Ah:k<e.Bs.length:=by have:=C3.DZ h1;omega
 obtain ⟨x,Ai⟩:=at_ Ah
 have hse:=hs k x Ai
 have hnm:=List.mem_of_getElem? hse.name
 refine Tr.skip (Fin.go (Tr.seq (Tr.block (Tr.seq (Tr.Ap (tm rfl (tp rfl (AD rfl underlying27 CL (vl rfl) (vl rfl) AA (Aa Ai)) (tp rfl (AQ rfl Cy CL (vl rfl) rfl rfl) ?_))))))))
 refine Tl rfl rfl rfl rfl z40 Ie (fun b1=> ?_)
 refine tm rfl (TO.AK 0 rfl rfl rfl (vl rfl) (Va rfl) rfl CL rfl rfl (TO.freeze 0 10 rfl rfl (TO.nil (Fin.go (Of 0 5 6 7 8 9 10 23 24 25 rfl (Tr.PI [(0,_),(6,_),(7,_),(8,_),(9,_),(10,_),(23,_),(24,_),(25,_)] ⟨ke rfl,ke rfl,ke rfl,ke rfl,ke rfl,ke rfl,ke rfl,ke rfl,ke rfl,trivial⟩ (fun (m1:List BX) (s3:DS) v1=>[(5,Ab v1 (lens (m1.map EK).length))]) (fun (m1:List BX) (s3:DS) v1=>Hp M0 w0 S (BQ 86 8 (m1.map EK) v1::DU b s3::Ak M1 w1::rs)) (fun (m1:List BX) (s3:DS)=>m1.length≤6*k+1∧H9 e.Bs m1) ?_ ?_))))))
 refine Tr.seq (Tr.Aj (cm rfl (cm rfl ?_)))
 refine Ch.cs 31 rfl ?_ ?_<;>intro h2 q2
 refine cy h2 rfl (Ss rfl NX rfl rfl) (cy h2 rfl (GU rfl Qb rfl) (cy h2 rfl (AV rfl (cH) ⟨ke rfl,ke rfl,trivial⟩) (cy h2 rfl (HW rfl (vl rfl)) (co rfl (JD rfl rfl h2 rfl) (Ch.nil (Fin.go (JP 0 5 6 7 8 9 10 23 24 25 36 rfl ?_)))))))
 refine Tr.cn rfl ?_ ?_<;>intro h3 q3
 have V7:=s2.DB (n:=2) AA
 refine Tr.Ap (tm rfl (tm rfl (tm rfl (TO.HJ 1 rfl rfl AB (An rfl rfl AB rfl (CY AA AA) ⟨ke rfl,ke rfl,trivial⟩) (tp rfl (Al (rows:=[(0,[_]),(1,[_]),(2,[_]),(3,[_])]) rfl ec Kz ⟨⟨rfl,(Vo rfl)⟩,⟨⟨rfl,(Vo rfl)⟩,⟨⟨rfl,(Vo rfl)⟩,⟨⟨rfl,(Vo rfl)⟩,trivial⟩⟩⟩⟩ rfl) (tp rfl (AM (xs:=[.tmp 41]) (rows:=[EK ⟨((k:Nat):Int),1,12,s2.val 2,⟨0,0,0,[]⟩⟩]) rfl rfl underlying32 Dh PG rfl AB ⟨⟨Am,VL.le (vl rfl) (Pr.le_trans (BT (qs:=EK _) ⟨Lr,Lr,Lr,Lr,Lr,Lr,Lr,Mj,trivial⟩) (Ad _))⟩,trivial⟩ AB) ?_))))))
 refine TO.DQ 0 rfl rfl AB (FI rfl rfl AB rfl underlying32 Dh Yg PG rfl AB AB (vl rfl) (Kf rfl) (Bb fun _=>rfl) (Nat.zero_lt_succ _) NF NH) (fun v1=> ?_)
 refine tm rfl (TO.nil ?_)
 exact Fin.Bi (ms++[⟨((k:Nat):Int),1,12,s2.val 2,⟨0,0,0,[]⟩⟩]) (_) v1 (⟨by simp;omega,TK.snoc ⟨by show 0≤((k:Nat):Int);omega,by show ((k:Nat):Int)<_;omega,by dsimp only;omega⟩⟩) ⟨⟨_,rfl,Cz AU⟩,ke rfl,ke rfl,ke rfl,ke rfl,ke rfl,ke rfl,ke rfl,ke rfl,ke rfl,trivial⟩ (fun _ _ h=>L6)
 refine Tr.skip (Fin.Bi (ms) (_) v (⟨by omega,TK⟩) ⟨⟨_,rfl,Cz AU⟩,ke rfl,ke rfl,ke rfl,ke rfl,ke rfl,ke rfl,ke rfl,ke rfl,ke rfl,trivial⟩ (fun _ _ h=>h))
 iterate 4 refine cnt h2 rfl ?_
 refine co rfl (MM rfl rfl h2 rfl) (Ch.nil (Fin.go (JP 0 5 6 7 8 9 10 23 24 25 36 rfl (Tr.cond rfl (fun h=>nomatch h) (fun _=> ?_)))))
 refine Tr.skip (Fin.Bi (ms) (_) v (⟨by omega,TK⟩) ⟨⟨_,rfl,Cz AU⟩,ke rfl,ke rfl,ke rfl,ke rfl,ke rfl,ke rfl,ke rfl,ke rfl,ke rfl,trivial⟩ (fun _ _ h=>h))
 rintro m1 s3 v1 ⟨AG2,mD⟩
 refine Tr.PI [(0,_),(6,_),(7,_),(8,_),(9,_),(10,_),(23,_),(24,_),(25,_)] ⟨ke rfl,ke rfl,ke rfl,ke rfl,ke rfl,ke rfl,ke rfl,ke rfl,ke rfl,trivial⟩ (fun (m2:List BX) (s4:DS) v2=>[(5,Ab v2 (lens (m2.map EK).length))]) (fun (m2:List BX) (s4:DS) v2=>Hp M0 w0 S (BQ 86 8 (m2.map EK) v2::DU b s4::Ak M1 w1::rs)) (fun (m2:List BX) (s4:DS)=>m2.length≤6*k+2∧H9 e.Bs m2) ?_ ?_
 refine Tr.seq (Tr.Aj (cm rfl (cm rfl ?_)))
 refine Ch.cs 45 rfl ?_ ?_<;>intro h4 q4
 refine ML h4 rfl (cy h4 rfl (ki rfl rfl rfl rfl) (co rfl (JD rfl rfl h4 rfl) (Ch.nil (Fin.go (JP 0 5 6 7 8 9 10 23 24 25 48 rfl ?_)))))
 refine Tr.cn rfl ?_ ?_<;>intro h5 q5
 refine Tr.Ap (tm rfl (tm rfl (tp rfl (Al (rows:=[(0,[_]),(1,[_]),(2,[_])]) rfl ec Kz ⟨⟨rfl,(Vo rfl)⟩,⟨⟨rfl,(Vo rfl)⟩,⟨⟨rfl,(Vo rfl)⟩,trivial⟩⟩⟩ rfl) (tp rfl (AM (xs:=[.tmp 51]) (rows:=[EK ⟨((k:Nat):Int),7,2,0,⟨0,0,0,[]⟩⟩]) rfl rfl underlying32 Dh PG rfl AB ⟨⟨Am,VL.le (vl rfl) (Pr.le_trans (BT (qs:=EK _) ⟨Lr,Lr,Lr,Lr,Lr,Lr,Lr,Mj,trivial⟩) (Ad _))⟩,trivial⟩ AB) ?_))))
 refine TO.DQ 0 rfl rfl AB (FI rfl rfl AB rfl underlying32 Dh Yg PG rfl AB AB (vl rfl) (Kf rfl) (Bb fun _=>rfl) (Nat.zero_lt_succ _) NF NH) (fun v2=> ?_)
 refine tm rfl (TO.nil ?_)
 exact Fin.Bi (m1++[⟨((k:Nat):Int),7,2,0,⟨0,0,0,[]⟩⟩]) (_) v2 (⟨by simp;omega,mD.snoc ⟨by show 0≤((k:Nat):Int);omega,by show ((k:Nat):Int)<_;omega,by dsimp only;omega⟩⟩) ⟨⟨_,rfl,Cz AU⟩,ke rfl,ke rfl,ke rfl,ke rfl,ke rfl,ke rfl,ke rfl,ke rfl,ke rfl,trivial⟩ (fun _ _ h=>L6)
 refine Tr.skip (Fin.Bi (m1) (_) v1 (⟨by omega,mD⟩) ⟨⟨_,rfl,Cz AU⟩,ke rfl,ke rfl,ke rfl,ke rfl,ke rfl,ke rfl,ke rfl,ke rfl,ke rfl,trivial⟩ (fun _ _ h=>h))
 refine cnt h4 rfl (cnt h4 rfl (co rfl (MM rfl rfl h4 rfl) (Ch.nil (Fin.go (JP 0 5 6 7 8 9 10 23 24 25 48 rfl (Tr.cond rfl (fun h=>nomatch h) (fun _=> ?_)))))))
 refine Tr.skip (Fin.Bi (m1) (_) v1 (⟨by omega,mD⟩) ⟨⟨_,rfl,Cz AU⟩,ke rfl,ke rfl,ke rfl,ke rfl,ke rfl,ke rfl,ke rfl,ke rfl,ke rfl,trivial⟩ (fun _ _ h=>h))
 rintro m2 s4 v2 ⟨AG3,mE⟩
 refine Tr.PI [(0,_),(6,_),(7,_),(8,_),(9,_),(10,_),(23,_),(24,_),(25,_)] ⟨ke rfl,ke rfl,ke rfl,ke rfl,ke rfl,ke rfl,ke rfl,ke rfl,ke rfl,trivial⟩ (fun (m3:List BX) (s5:DS) v3=>[(5,Ab v3 (lens (m3.map EK).length))]) (fun (m3:List BX) (s5:DS) v3=>Hp M0 w0 S (BQ 86 8 (m3.map EK) v3::DU b s5::Ak M1 w1::rs)) (fun (m3:List BX) (s5:DS)=>m3.length≤6*k+3∧H9 e.Bs m3) ?_ ?_
 refine Tr.seq (Tr.Aj (cm rfl (cm rfl ?_)))
 refine Ch.cs 55 rfl ?_ ?_<;>intro h6 q6
 refine ML h6 rfl (cy h6 rfl (ki rfl rfl rfl rfl) (co rfl (JD rfl rfl h6 rfl) (Ch.nil (Fin.go (JP 0 5 6 7 8 9 10 23 24 25 58 rfl ?_)))))
 refine Tr.cn rfl ?_ ?_<;>intro h7 q7
 have hof:=s4.QZ (l:=[2,1]) AU
 simp at hof
 refine Tr.pad (Tr.Gu mixed [none,none,none,none,none,none,none,some (0,2,true,0),none,none,none,none,none,none,some (0,1,true,73),some (73,1,true,5)] Be (xm rfl (xm rfl (xo rfl (fun _=>Ss rfl j_ rfl rfl) (xo rfl (fun _=>GU rfl Oh rfl) (xo rfl (fun _=>AV rfl (AF1) trivial) (xm rfl (xo rfl (fun _=>AM (xs:=[.const (.int .i64 (2)),.const (.int .i64 (1))]) (rows:=[[_],[_]]) rfl rfl underlying22 Bt z3 rfl AB ⟨⟨Am,(Vo rfl)⟩,⟨⟨Am,(Vo rfl)⟩,trivial⟩⟩ AB) ?_))))))))
 refine Cx.ef 2 rfl rfl AB (An rfl rfl AB rfl (Wi (l:=[2,1]) AU AU) ⟨ke rfl,(Kf rfl),trivial⟩) ?_
 refine xo rfl (fun _=>AV rfl (Yz (name:=x.name) (a:=7) (b:=256) (id:=201) (to:=901) (key:=s4.of [2,1]) (ACV hnm (.inr ⟨rfl,rfl⟩) AA AA AA) (ACW (.inr ⟨rfl,rfl⟩) AA) AA) ⟨ke rfl,ke rfl,ke rfl,ke rfl,ke rfl,trivial⟩) ?_
 refine xo rfl (fun _=>Ss rfl Qc rfl rfl) (xo rfl (fun _=>GU rfl vB rfl) (xo rfl (fun _=>CH rfl underlying38 (vl rfl)) (xo rfl (fun _=>Al (rows:=[(0,[_]),(1,[_]),(4,_),(3,[_])]) rfl ec Kz ⟨⟨rfl,(Vo rfl)⟩,⟨⟨rfl,(Vo rfl)⟩,⟨⟨rfl,⟨_,rfl,Pr.le_trans (mB) (Ad _)⟩⟩,⟨⟨rfl,(Vo rfl)⟩,trivial⟩⟩⟩⟩ rfl) (xo rfl (fun _=>AM (xs:=[.tmp 71]) (rows:=[EK ⟨((k:Nat):Int),5,0,((x.ids.length:Nat):Int),⟨7,256,201,[]⟩⟩]) rfl rfl underlying32 Dh PG rfl AB ⟨⟨Am,VL.le (vl rfl) (Pr.le_trans (BT (qs:=EK _) ⟨Lr,Lr,Lr,Lr,Lr,Lr,Lr,tE hnm,trivial⟩) (Ad _))⟩,trivial⟩ AB) ?_))))
 refine Cx.ef 1 rfl rfl AB (FI rfl rfl AB rfl underlying32 Dh Yg PG rfl AB AB (vl rfl) (Kf rfl) (Bb fun _=>rfl) (Nat.zero_lt_succ _) NF NH) ?_
 refine Cx.ef 1 rfl rfl AB (UT rfl rfl AB rfl (vl rfl)) ?_
 refine Cx.nil ⟨rfl,?_⟩
 refine BO.open_ 1 5 rfl rfl (fun v3=> ?_)
 refine BO.done (A8.cons (A8.cons (A8.cons (A8.cons (A8.map _))))) (Fin.drop 0 ?_)
 exact Fin.Bi (m2++[⟨((k:Nat):Int),5,0,((x.ids.length:Nat):Int),⟨7,256,201,[]⟩⟩]) (_) v3 (⟨by simp;omega,mE.snoc ⟨by show 0≤((k:Nat):Int);omega,by show ((k:Nat):Int)<_;omega,by dsimp only;omega⟩⟩) ⟨⟨_,rfl,Cz AU⟩,ke rfl,ke rfl,ke rfl,ke rfl,ke rfl,ke rfl,ke rfl,ke rfl,ke rfl,trivial⟩ (fun _ _ h=>L6)
 refine Tr.skip (Fin.Bi (m2) (_) v2 (⟨by omega,mE⟩) ⟨⟨_,rfl,Cz AU⟩,ke rfl,ke rfl,ke rfl,ke rfl,ke rfl,ke rfl,ke rfl,ke rfl,ke rfl,trivial⟩ (fun _ _ h=>h))
 refine cnt h6 rfl (cnt h6 rfl (co rfl (MM rfl rfl h6 rfl) (Ch.nil (Fin.go (JP 0 5 6 7 8 9 10 23 24 25 58 rfl (Tr.cond rfl (fun h=>nomatch h) (fun _=> ?_)))))))
 refine Tr.skip (Fin.Bi (m2) (_) v2 (⟨by omega,mE⟩) ⟨⟨_,rfl,Cz AU⟩,ke rfl,ke rfl,ke rfl,ke rfl,ke rfl,ke rfl,ke rfl,ke rfl,ke rfl,trivial⟩ (fun _ _ h=>h))
 rintro m3 s5 v3 ⟨AG4,cR⟩
 refine Tr.PI [(0,_),(6,_),(7,_),(8,_),(9,_),(10,_),(23,_),(24,_),(25,_)] ⟨ke rfl,ke rfl,ke rfl,ke rfl,ke rfl,ke rfl,ke rfl,ke rfl,ke rfl,trivial⟩ (fun (m4:List BX) (s6:DS) v4=>[(5,Ab v4 (lens (m4.map EK).length))]) (fun (m4:List BX) (s6:DS) v4=>Hp M0 w0 S (BQ 86 8 (m4.map EK) v4::DU b s6::Ak M1 w1::rs)) (fun (m4:List BX) (s6:DS)=>m4.length≤6*k+4∧H9 e.Bs m4) ?_ ?_
 refine Tr.seq (Tr.Ap (tm rfl (tm rfl ?_)))
 refine TO.cases 75 rfl (fun h8=> ?_) (fun h8=> ?_)
 have q8:=C3.DZ h8
 refine TO.Fh rfl rfl rfl h8 rfl AB (Ss rfl NX rfl rfl) (TO.Fh rfl rfl rfl h8 rfl AB (GU rfl Qb rfl) (TO.Fh rfl rfl rfl h8 rfl AB (AV rfl (cH) ⟨ke rfl,ke rfl,trivial⟩) (tp rfl (JD rfl rfl h8 rfl) (tm rfl ?_))))
 refine TO.cases 80 rfl (fun h9=> ?_) (fun h9=> ?_)
 have q9:=C3.DZ h9
 refine TO.Fh rfl rfl rfl h9 rfl AB (BM rfl (vl rfl)) (TO.Wf 1 rfl rfl rfl h9 rfl rfl AB (An rfl rfl AB rfl (CY AA AA) ⟨ke rfl,ke rfl,trivial⟩) (TO.Fh rfl rfl rfl h9 rfl AB (ki rfl rfl rfl rfl) (tp rfl (JD rfl rfl h9 rfl) (TO.nil (Fin.go (JP 0 5 6 7 8 9 10 23 24 25 84 rfl ?_))))))
 refine Tr.cn rfl ?_ ?_<;>intro h10 Q4
 refine Tr.Ap (tm rfl (tm rfl (tp rfl (Al (rows:=[(0,[_]),(1,[_]),(2,[_])]) rfl ec Kz ⟨⟨rfl,(Vo rfl)⟩,⟨⟨rfl,(Vo rfl)⟩,⟨⟨rfl,(Vo rfl)⟩,trivial⟩⟩⟩ rfl) (tp rfl (AM (xs:=[.tmp 87]) (rows:=[EK ⟨((k:Nat):Int),2,2,0,⟨0,0,0,[]⟩⟩]) rfl rfl underlying32 Dh PG rfl AB ⟨⟨Am,VL.le (vl rfl) (Pr.le_trans (BT (qs:=EK _) ⟨Lr,Lr,Lr,Lr,Lr,Lr,Lr,Mj,trivial⟩) (Ad _))⟩,trivial⟩ AB) ?_))))
 refine TO.DQ 0 rfl rfl AB (FI rfl rfl AB rfl underlying32 Dh Yg PG rfl AB AB (vl rfl) (Kf rfl) (Bb fun _=>rfl) (Nat.zero_lt_succ _) NF NH) (fun v4=> ?_)
 refine tm rfl (TO.nil ?_)
 exact Fin.Bi (m3++[⟨((k:Nat):Int),2,2,0,⟨0,0,0,[]⟩⟩]) (_) v4 (⟨by simp;omega,cR.snoc ⟨by show 0≤((k:Nat):Int);omega,by show ((k:Nat):Int)<_;omega,by dsimp only;omega⟩⟩) ⟨⟨_,rfl,Cz AU⟩,ke rfl,ke rfl,ke rfl,ke rfl,ke rfl,ke rfl,ke rfl,ke rfl,ke rfl,trivial⟩ (fun _ _ h=>L6)
 refine Tr.skip (Fin.Bi (m3) (_) v3 (⟨by omega,cR⟩) ⟨⟨_,rfl,Cz AU⟩,ke rfl,ke rfl,ke rfl,ke rfl,ke rfl,ke rfl,ke rfl,ke rfl,ke rfl,trivial⟩ (fun _ _ h=>h))
 have q9:=C3.DZ h9
 refine TO.OI rfl rfl rfl (Bf h9) rfl AB (TO.OI rfl rfl rfl (Bf h9) rfl AB (TO.OI rfl rfl rfl (Bf h9) rfl AB (tp rfl (MM rfl rfl h9 rfl) (TO.nil (Fin.go (JP 0 5 6 7 8 9 10 23 24 25 84 rfl (Tr.cond rfl (fun h=>nomatch h) (fun _=> ?_))))))))
 refine Tr.skip (Fin.Bi (m3) (_) v3 (⟨by omega,cR⟩) ⟨⟨_,rfl,Cz AU⟩,ke rfl,ke rfl,ke rfl,ke rfl,ke rfl,ke rfl,ke rfl,ke rfl,ke rfl,trivial⟩ (fun _ _ h=>h))
 have q8:=C3.DZ h8
 refine TO.OI rfl rfl rfl (Bf h8) rfl AB (TO.OI rfl rfl rfl (Bf h8) rfl AB (TO.OI rfl rfl rfl (Bf h8) rfl AB (tp rfl (MM rfl rfl h8 rfl) (tm rfl (TO.OI rfl rfl rfl (Bf rfl) rfl AB (TO.OI rfl rfl rfl (Bf rfl) rfl AB (TO.OI rfl rfl rfl (Bf rfl) rfl AB (tp rfl (MM rfl rfl rfl rfl) (TO.nil (Fin.go (JP 0 5 6 7 8 9 10 23 24 25 84 rfl (Tr.cond rfl (fun h=>nomatch h) (fun _=> ?_)))))))))))))
 refine Tr.skip (Fin.Bi (m3) (_) v3 (⟨by omega,cR⟩) ⟨⟨_,rfl,Cz AU⟩,ke rfl,ke rfl,ke rfl,ke rfl,ke rfl,ke rfl,ke rfl,ke rfl,ke rfl,trivial⟩ (fun _ _ h=>h))
 rintro m4 s6 v4 ⟨AG5,mF⟩
 refine Tr.seq (Tr.Aj (cm rfl (cm rfl ?_)))
 refine Ch.cs 91 rfl ?_ ?_<;>intro h11 SK
 refine cy h11 rfl (Ss rfl Ye rfl rfl) (cy h11 rfl (GU rfl Cj rfl) (cy h11 rfl (ki rfl rfl rfl rfl) (co rfl (JD rfl rfl h11 rfl) (Ch.nil (Fin.go (Of 0 5 6 7 8 9 23 24 25 95 rfl ?_))))))
 refine Tr.cn rfl ?_ ?_<;>intro h12 Vt
 refine Tr.Ap (tm rfl (tm rfl (tp rfl (Al (rows:=[(0,[_]),(1,[_]),(2,[_])]) rfl ec Kz ⟨⟨rfl,(Vo rfl)⟩,⟨⟨rfl,(Vo rfl)⟩,⟨⟨rfl,(Vo rfl)⟩,trivial⟩⟩⟩ rfl) (tm rfl (tp rfl (Al (rows:=[(0,[_]),(1,[_]),(2,[_])]) rfl ec Kz ⟨⟨rfl,(Vo rfl)⟩,⟨⟨rfl,(Vo rfl)⟩,⟨⟨rfl,(Vo rfl)⟩,trivial⟩⟩⟩ rfl) (tp rfl (AM (xs:=[.tmp 98,.tmp 100]) (rows:=[EK ⟨((k:Nat):Int),3,4,0,⟨0,0,0,[]⟩⟩,EK ⟨((k:Nat):Int),1,14,0,⟨0,0,0,[]⟩⟩]) rfl rfl underlying32 Dh PG rfl AB ⟨⟨Am,VL.le (vl rfl) (Pr.le_trans (BT (qs:=EK _) ⟨Lr,Lr,Lr,Lr,Lr,Lr,Lr,Mj,trivial⟩) (Ad _))⟩,⟨⟨Am,VL.le (vl rfl) (Pr.le_trans (BT (qs:=EK _) ⟨Lr,Lr,Lr,Lr,Lr,Lr,Lr,Mj,trivial⟩) (Ad _))⟩,trivial⟩⟩ AB) ?_))))))
 refine TO.DQ 0 rfl rfl AB (FI rfl rfl AB rfl underlying32 Dh Yg PG rfl AB AB (vl rfl) (Kf rfl) (Bb fun _=>rfl) (Nat.zero_lt_succ _) NF NH) (fun v5=> ?_)
 refine tm rfl (TO.nil (Fin.block (Fin.go (wk8 0 5 6 7 8 23 24 25 rfl (Tr.Aj (Kx rfl rfl rfl rfl AA (cm rfl (Ch.nil ?_))))))))
 exact Fin.EI (k+1) (m4++[⟨((k:Nat):Int),3,4,0,⟨0,0,0,[]⟩⟩,⟨((k:Nat):Int),1,14,0,⟨0,0,0,[]⟩⟩]) (_) v5 (⟨⟨by omega,by simp;omega,mF.two ⟨by show 0≤((k:Nat):Int);omega,by show ((k:Nat):Int)<_;omega,by dsimp only;omega⟩ ⟨by show 0≤((k:Nat):Int);omega,by show ((k:Nat):Int)<_;omega,by dsimp only;omega⟩⟩,by omega⟩) ⟨⟨_,rfl,AG k⟩,⟨_,rfl,Cz AU⟩,ke rfl,ke rfl,ke rfl,ke rfl,ke rfl,ke rfl,trivial⟩ (fun _ _ h=>L6)
 refine Tr.skip (Fin.block (Fin.go (Tr.Aj (Kx rfl rfl rfl rfl AA (cm rfl (Ch.nil (Fin.EI (k+1) (m4) (_) v4 (⟨⟨by omega,by omega,mF⟩,by omega⟩) ⟨⟨_,rfl,AG k⟩,⟨_,rfl,Cz AU⟩,ke rfl,ke rfl,ke rfl,ke rfl,ke rfl,ke rfl,trivial⟩ (fun _ _ h=>h))))))))
 refine cnt h11 rfl (cnt h11 rfl (cnt h11 rfl (co rfl (MM rfl rfl h11 rfl) (Ch.nil (Fin.go (Of 0 5 6 7 8 9 23 24 25 95 rfl (Tr.cond rfl (fun h=>nomatch h) (fun _=> ?_))))))))
 refine Tr.skip (Fin.block (Fin.go (Tr.Aj (Kx rfl rfl rfl rfl AA (cm rfl (Ch.nil (Fin.EI (k+1) (m4) (_) v4 (⟨⟨by omega,by omega,mF⟩,by omega⟩) ⟨⟨_,rfl,AG k⟩,⟨_,rfl,Cz AU⟩,ke rfl,ke rfl,ke rfl,ke rfl,ke rfl,ke rfl,trivial⟩ (fun _ _ h=>h))))))))
 have:=h1
 refine Tr.exit (Fin.AW (Fin.AW (Fin.Au (Fin.go (Tr.seq (Tr.block ?_))))))
 rcases Nat.eq_zero_or_pos ms.length with h0|h0
 refine Tr.BA [(0,_)] ⟨ke rfl,trivial⟩ (fun _=>[(5,Ab v (lens (ms.map EK).length))]) (fun _=>True) (fun _=>0) () (trivial) ⟨ke rfl,trivial⟩ ?_
 rintro _ _
 refine Tr.seq (Tr.seq (Tr.Aj (cm rfl (co rfl (Wc rfl underlying32 (Kb rfl)) (co rfl (ki rfl rfl rfl rfl) (Ch.nil (Fin.go ?_)))))))
 refine Tr.cn rfl ?_ ?_<;>intro JR Yv
 exfalso;have h_:=C3.DZ JR;rw [List.length_map] at h_;omega
 have:=JR
 refine Tr.exit (Fin.AW (Fin.AW (Fin.Au (Fin.go (Tr.seq (Tr.seq ?_))))))
 have hv4:=s2.DB (n:=4) AA
 refine Tr.Ap (tm rfl (TO.HJ 1 rfl rfl AB (An rfl rfl AB rfl (CY AA AA) ⟨ke rfl,ke rfl,trivial⟩) (tm rfl (TO.nil (Fin.go (Tr.block (Tr.Cr [(0,_)] ⟨ke rfl,trivial⟩ (fun (q:Int) (s9:DS)=>[(11,int q),(5,Ab v (lens (ms.map EK).length))]) (fun (q:Int) (s9:DS)=>Hp M0 w0 S (BQ 86 8 (ms.map EK) v::DU b s9::Ak M1 w1::rs)) (fun (q:Int) (s9:DS)=>True) (fun (q:Int) (s9:DS)=>q.toNat) (_) (_)  (trivial) ⟨ke rfl,ke rfl,trivial⟩ (fun _ _ h=>h) ?_)))))))
 rintro q s9  _
 refine Tr.seq (Tr.seq (Tr.Aj (cm rfl (co rfl (ki rfl rfl rfl rfl) (cm rfl ?_)))))
 refine Ch.cs 116 rfl ?_ ?_<;>intro Jm lP
 refine ML Jm rfl (cy Jm rfl (Wc rfl underlying32 (Kb rfl)) (cy Jm rfl (ki rfl rfl rfl rfl) (co rfl (JD rfl rfl Jm rfl) (Ch.nil (Fin.go ?_)))))
 refine Tr.cn rfl ?_ ?_<;>intro WJ q15
 exfalso;have h_:=C3.DZ WJ;rw [List.length_map] at h_;omega
 have:=WJ
 refine Tr.exit (Fin.AW (Fin.AW (Fin.Au (Fin.go (Tr.seq (Tr.sA 0 5 rfl rfl (Bb fun _=>rfl) (Tr.Aj (cm rfl (cm rfl (Ch.nil (Fin.go (Tr.ret (Fin.Gw 1 _ rfl rfl (Fin.GN [_] rfl (AO.tmp rfl (Lr)) ?_ (fun _ _ _ _=>rfl)))))))))))))))
 · exact Pr.le_trans (Aq _ _) (VE TK AA)
 refine cnt Jm rfl (cnt Jm rfl (cnt Jm rfl (co rfl (MM rfl rfl Jm rfl) (Ch.nil (Fin.go (Tr.cond rfl (fun h=>nomatch h) (fun _=> ?_)))))))
 refine Tr.exit (Fin.AW (Fin.AW (Fin.Au (Fin.go (Tr.seq (Tr.sA 0 5 rfl rfl (Bb fun _=>rfl) (Tr.Aj (cm rfl (cm rfl (Ch.nil (Fin.go (Tr.ret (Fin.Gw 1 _ rfl rfl (Fin.GN [_] rfl (AO.tmp rfl (Lr)) ?_ (fun _ _ _ _=>rfl)))))))))))))))
 · exact Pr.le_trans (Aq _ _) (VE TK AA)
 refine Tr.ABO (sz:=8) 0 rfl (by intro h_;simp at h_;rw [h_] at h0;simp at h0) fun b9 ACd sp9 hv9 hg9 hm9 hs9=> ?_
 subst hv9
 rw [List.length_map] at hg9 hs9
 refine Tr.MQ [(0,_)] ⟨ke rfl,trivial⟩ (fun (m:Nat)=>[(5,is (.slice (some ⟨b9,0,none⟩) m ACd))]) (fun (m:Nat)=>Hp M0 w0 S (AF true b9 86 ((ms.map EK).flatten++sp9.map is)::DU b s2::Ak M1 w1::rs)) (fun (m:Nat)=>1≤m∧m≤ms.length) (fun (m:Nat)=>m) (ms.length)  (⟨h0,Nat.le_refl _⟩) ⟨⟨_,rfl,Pr.le_trans (E0 _ _) (Pr.le_of_eq (by rw [List.length_map]))⟩,trivial⟩ (fun _ _ h=>h) ?_
 rintro m  ⟨hm1,hm2⟩
 refine Tr.seq (Tr.seq (Tr.Aj (cm rfl (co rfl (KY rfl underlying32 (vl rfl)) (co rfl (ki rfl rfl rfl rfl) (Ch.nil (Fin.go ?_)))))))
 refine Tr.cn rfl ?_ ?_<;>intro h16 q16
 have hm7:7<m:=by have:=C3.DZ h16;omega
 refine Tr.skip (Fin.go (Tr.block (Tr.Aj (cm rfl (cm rfl (co rfl (KY rfl underlying32 (vl rfl)) (csu rfl rfl rfl rfl AA (co rfl (OG rfl underlying32 Dh (vl rfl) (vl rfl) AA AA AA AA) (cm rfl (Ch.nil (Fin.block ?_)))))))))))
 exact Fin.MR (m-1)  (⟨⟨by omega,by omega⟩,by omega⟩) ⟨⟨_,rfl,Pr.le_of_eq (by congr 2;omega)⟩,ke rfl,trivial⟩ (fun _ _ h=>h)
 have hm7:m≤7:=by have:=C3.DZ h16;omega
 refine Tr.exit (Fin.AW (Fin.AW (Fin.Au (Fin.go (Tr.seq (Tr.seq ?_))))))
 have hv4:=s2.DB (n:=4) AA
 refine Tr.Ap (tm rfl (TO.HJ 1 rfl rfl AB (An rfl rfl AB rfl (CY AA AA) ⟨ke rfl,ke rfl,trivial⟩) (tm rfl (TO.nil (Fin.go (Tr.block (Tr.MT [(0,_)] ⟨ke rfl,trivial⟩ (fun (q:Int) (ns:List BX) (s9:DS)=>[(11,int q),(5,is (.slice (some ⟨b9,0,none⟩) m ACd))]) (fun (q:Int) (ns:List BX) (s9:DS)=>Hp M0 w0 S (AF true b9 86 ((ns.map EK).flatten++sp9.map is)::DU b s9::Ak M1 w1::rs)) (fun (q:Int) (ns:List BX) (s9:DS)=>(ns.length=ms.length∧q≤3)∧H9 e.Bs ns) (fun (q:Int) (ns:List BX) (s9:DS)=>q.toNat) (_) (ms) (_)  (⟨⟨rfl,by omega⟩,TK⟩) ⟨ke rfl,ke rfl,trivial⟩ (fun _ _ h=>h) ?_)))))))
 rintro q ns s9  ⟨⟨hn1,hn3⟩,hn2⟩
 refine Tr.seq (Tr.seq (Tr.Aj (cm rfl (co rfl (ki rfl rfl rfl rfl) (cm rfl ?_)))))
 refine Ch.cs 116 rfl ?_ ?_<;>intro Og q17
 refine ML Og rfl (cy Og rfl (KY rfl underlying32 (vl rfl)) (cy Og rfl (ki rfl rfl rfl rfl) (co rfl (JD rfl rfl Og rfl) (Ch.nil (Fin.go ?_)))))
 refine Tr.cn rfl ?_ ?_<;>intro R5 q18
 have hq1:=C3.DZ R5
 refine Tr.skip (Fin.go (Tr.seq (Tr.block (Tr.seq ?_))))
 have hvm:=s9.DB (n:=((m:Nat):Int)-1) AA
 refine Tr.Ap (tm rfl (tm rfl (tp rfl (KY rfl underlying32 (vl rfl)) ?_)))
 refine tp rfl (YS rfl (vl rfl) (vl rfl) ?hin) ?_;case hin=>unfold Oe;omega
 refine TO.HJ 1 rfl rfl AB (An rfl rfl AB rfl (CY AA AA) ⟨ke rfl,ke rfl,trivial⟩) (tm rfl (TO.nil (Fin.go (UY 0 5 11 12 rfl (Tr.Gu mixed [none,none,none,none,none,none,none,none,none,some (0,0,false,0),none,none,none,some (0,0,false,0),none,some (0,0,true,0),none,some (0,0,true,0)] Be ?_)))))
 iterate 4 refine xm rfl ?_
 refine xo rfl (fun _=>FE rfl (vl rfl) (vl rfl) ?hin) ?_;case hin=>unfold Oe;omega
 refine xm rfl (xm rfl ?_)
 refine xo rfl (fun _=>FE rfl (vl rfl) (vl rfl) ?hin) ?_;case hin=>unfold Oe;omega
 refine xo rfl (fun _=>BG rfl underlying32 Dh (vl rfl) (vl rfl) AA AA) (JC 0 rfl rfl (CU rfl HK Dh (vl rfl) (S6 (f:=EK) (fun _=>rfl) AA) rfl) (xm rfl (xm rfl (xo rfl (fun _=>BG rfl underlying32 Dh (vl rfl) (vl rfl) AA AA) (JC 0 rfl rfl (CU rfl HK Dh (vl rfl) (S6 (f:=EK) (fun _=>rfl) AA) rfl) (xo rfl (fun _=>BG rfl underlying32 Dh (vl rfl) (vl rfl) AA AA) ?_))))))
 refine Cx.Dv 0 rfl rfl (A9 rfl rfl (vl rfl) (Va rfl) Dh rfl (by rw [KK (sz:=8) (fun _=>rfl)];omega) (F2 (f:=EK) (fun _=>rfl) AA)) ?_
 refine xo rfl (fun _=>BG rfl underlying32 Dh (vl rfl) (vl rfl) AA AA) ?_
 refine Cx.Dv 0 rfl rfl (A9 rfl rfl (vl rfl) (Va rfl) Dh rfl (by rw [KK (sz:=8) (fun _=>rfl)];simp only [List.length_set];omega) (F2 (f:=EK) (fun _=>rfl) (by simp only [List.length_set];omega))) ?_
 refine Cx.nil ⟨rfl,?_⟩
 refine BO.done (A8.cons (A8.cons (A8.cons (A8.map _)))) (Fin.block (Fin.go (GM 0 5 11 rfl (Tr.Aj (cm rfl (csu rfl rfl rfl rfl AA (cm rfl (Ch.nil (Fin.E9 (q-1) (_) (_)  (⟨⟨⟨(Qs AA AA).length_eq.trans hn1,by omega⟩,H9.perm (Qs AA AA) hn2⟩,by omega⟩) ⟨⟨_,rfl,int_eq AA⟩,ke rfl,ke rfl,trivial⟩ (fun _ _ h=>h))))))))))
 have:=R5
 refine Tr.exit (Fin.AW (Fin.AW (Fin.Au (Fin.go (Tr.seq (Tr.eqC 0 (((ns.take m).map EK).flatten++(((ns.drop m).map EK).flatten++sp9.map is)) rfl aC ?_))))))
 have hnt:(ns.take m).length=m:=by rw [List.length_take];omega
 refine Tr.ej (sz:=8) ((ns.take m).map EK) 0 5 rfl rfl (Pr.le_of_eq (by rw [List.length_map,hnt])) (Bb fun _=>rfl) EE hm9 jL ?_
 refine Tr.Aj (cm rfl (cm rfl (Ch.nil (Fin.go (Tr.ret (Fin.Gw 1 _ rfl rfl (Fin.GN [_] rfl (AO.tmp rfl (Lr)) ?_ (fun _ _ _ _=>rfl))))))))
 · exact Pr.le_trans (Aq _ _) (VE hn2.take AA)
 refine cnt Og rfl (cnt Og rfl (cnt Og rfl (co rfl (MM rfl rfl Og rfl) (Ch.nil (Fin.go (Tr.cond rfl (fun h=>nomatch h) (fun _=> ?_)))))))
 refine Tr.exit (Fin.AW (Fin.AW (Fin.Au (Fin.go (Tr.seq (Tr.eqC 0 (((ns.take m).map EK).flatten++(((ns.drop m).map EK).flatten++sp9.map is)) rfl aC ?_))))))
 have hnt:(ns.take m).length=m:=by rw [List.length_take];omega
 refine Tr.ej (sz:=8) ((ns.take m).map EK) 0 5 rfl rfl (Pr.le_of_eq (by rw [List.length_map,hnt])) (Bb fun _=>rfl) EE hm9 jL ?_
 refine Tr.Aj (cm rfl (cm rfl (Ch.nil (Fin.go (Tr.ret (Fin.Gw 1 _ rfl rfl (Fin.GN [_] rfl (AO.tmp rfl (Lr)) ?_ (fun _ _ _ _=>rfl))))))))
 · exact Pr.le_trans (Aq _ _) (VE hn2.take AA)
structure SL (n:Int) (k:Nat) (l:List Int):Prop where
 at_:∀j,j<l.length→setAt n l j=true
 lt:∀x∈l,x<(k:Int)
 len:l.length≤k
theorem SL.nil (n:Int) (k:Nat):SL n k []:=⟨fun j hj=>by simp at hj,fun x hx=>by simp at hx,by simp⟩
theorem SL.step {n:Int} {k:Nat} {l:List Int} (h:SL n k l):SL n (k+1) l:=⟨h.at_,fun x hx=>by have:=h.lt x hx;omega,by have:=h.len;omega⟩
theorem SL.snoc {n:Int} {k:Nat} {l:List Int} (h:SL n k l) (hk:(k:Int)<n):SL n (k+1) (l++[(k:Int)]):=by
 refine ⟨fun j hj=> ?_,fun x hx=> ?_,by have:=h.len;simp;omega⟩
 ·
  rw [List.length_append] at hj;simp at hj
  rcases Nat.lt_or_ge j l.length with hl|hl
  ·
   have:=h.at_ j hl
   unfold setAt at this ⊢
   rw [List.getElem?_append_left hl,List.getElem?_append_left (show j-1<l.length by omega)];exact this
  ·
   have:j=l.length:=by omega
   subst this
   unfold setAt
   rw [List.getElem?_append_right (Nat.le_refl _),Nat.sub_self]
   rcases Nat.eq_zero_or_pos l.length with hz|hz
   ·
    obtain rfl:=List.eq_nil_of_length_eq_zero hz
    simp;omega
   ·
    obtain ⟨y,hy⟩:=Cp.at_ (l:=l) (k:=l.length-1) AA
    rw [List.getElem?_append_left (show l.length-1<l.length by omega),hy]
    have:=h.lt y (List.mem_of_getElem? hy)
    simp;omega
 ·
  rcases List.mem_append.1 hx with hx|hx
  · have:=h.lt x hx;omega
  · simp at hx;subst hx;omega
theorem SL.set {n:Int} {k:Nat} {l:List Int} (h:SL n k l):De n l=true:=B7.2 h.at_
structure Ir where
 lo:Int
 hi:Int
 Ag:List Int
structure BR where
 Bw:List Ir
 Is:List Int
 room:List Int
def x6 (w:Ir):List Pr:=[int w.lo,int w.hi,ints w.Ag]
abbrev ACe (l:List Ir):Pr:=slice 3 (l.map x6)
def Ll (c:BR):Pr:=agg [ACe c.Bw,ints c.Is,ints c.room]
instance ACf (l:List Int):One (ints l):=eR _ _
def D8 (day:Int) (w:Ir):Bool:=decide (w.lo≤day)&&decide (day<w.hi)
def BR.has (c:BR) (n:Int):Bool:=decide (0≤n)&&decide (n<c.room.length)
def BR.at (c:BR) (day:Int):Int:=idx (D8 day) c.Bw
def Ki (n:Int):Bool:=decide (n<0)||decide (n>24)
def Lm (w:Ir):Bool:=decide (w.lo<0)||decide (w.lo≥w.hi)||decide (w.hi>40001)
def VF (l:List Int):Prop:=∀(j:Nat) a b,l[j]? =some a→l[j+1]? =some b→a<b
def ZD (l:List Ir):Prop:=∀(j:Nat) a b,l[j]? =some a→l[j+1]? =some b→a.hi≤b.lo
open Classical in
noncomputable def BR.check (c:BR) (fk:Int):Int:=
 if 32<c.Bw.length∨8<c.room.length then 3
 else if c.room.any Ki then 2
 else if c.Bw.any Lm then 47
 else if ¬(ZD c.Bw∧∀w∈c.Bw,VF w.Ag) then 6
 else if c.Bw.any (fun w=>w.Ag.any fun n=> !c.has n) then 2
 else if (c.Is.length:Int)≠fk∨c.Is.any (fun n=> !c.has n) then 1
 else 0
noncomputable def BR.own (c:BR):Int:=c.check c.Is.length
theorem TL {β:Type} (p:β→Bool) (l:List β): -1≤idx p l∧idx p l<l.length:=by
 unfold idx
 cases h:l.findIdx? p with
 |none=>simp;omega
 |some i=>
  rw [List.findIdx?_eq_some_iff_getElem] at h
  obtain ⟨h1,_⟩:=h
  simp;omega
theorem tH {β:Type} {p:β→Bool} {l:List β} (h:0≤idx p l):∃x,l[(idx p l).toNat]? =some x∧p x=true:=by
 unfold idx at*
 cases h':l.findIdx? p with
 |none=>rw [h'] at h;simp at h
 |some i=>
  rw [List.findIdx?_eq_some_iff_getElem] at h'
  obtain ⟨h1,h2,_⟩:=h'
  exact ⟨l[i],by simp,h2⟩
def BR.TN (c:BR) (day:Int):Option Ir:=c.Bw.find? (D8 day)
theorem RA {β:Type} (p:β→Bool) (l:List β):l.find? p=if 0≤idx p l then l[(idx p l).toNat]? else none:=by
 unfold idx
 cases h:l.findIdx? p with
 |none=>
  rw [List.findIdx?_eq_none_iff] at h
  rw [if_neg AU,List.find?_eq_none]
  intro x hx;simpa using h x hx
 |some i=>
  rw [List.findIdx?_eq_some_iff_getElem] at h
  obtain ⟨h1,h2,h3⟩:=h
  simp only [Int.natCast_nonneg,if_true,Int.toNat_natCast]
  rw [List.getElem?_eq_getElem h1,List.find?_eq_some_iff_getElem]
  exact ⟨h2,i,h1,rfl,fun j hj=>by simpa using h3 j hj⟩
def BR.may (c:BR) (n day:Int):Bool:=match c.TN day with|some w=>w.Ag.any (fun x=>n==x)|none=>false
theorem fm {l:List Ir} {k:Nat} {x:Ir} (hx:l[k]? =some x) (hp:∀y,0<k→l[k-1]? =some y→y.hi≤x.lo) (h:∀(j:Nat) a b,j+1<k→l[j]? =some a→l[j+1]? =some b→a.hi≤b.lo):
  ∀(j:Nat) a b,j+1<k+1→l[j]? =some a→l[j+1]? =some b→a.hi≤b.lo:=by
 intro j a b hj ha hb
 by_cases hjk:j+1=k
 · exact T5
 · exact h j a b AA ha hb
theorem fq {l:List Int} {k:Nat} {x:Int} (hx:l[k]? =some x) (hp:∀y,0<k→l[k-1]? =some y→y<x) (h:∀(j:Nat) a b,j+1<k→l[j]? =some a→l[j+1]? =some b→a<b):
  ∀(j:Nat) a b,j+1<k+1→l[j]? =some a→l[j+1]? =some b→a<b:=by
 intro j a b hj ha hb
 by_cases hjk:j+1=k
 · exact T5
 · exact h j a b AA ha hb
theorem tI {l:List Ir} {k:Nat} {x:Ir} (hx:l[k]? =some x) (hp:∀(j:Nat) a b,j+1<x.Ag.length→x.Ag[j]? =some a→x.Ag[j+1]? =some b→a<b) (h:∀(j:Nat) a,j<k→l[j]? =some a→VF a.Ag):
  ∀(j:Nat) a,j<k+1→l[j]? =some a→VF a.Ag:=by
 intro j a hj ha
 by_cases hjk:j=k
 ·
  subst hjk;rw [hx] at ha;cases ha
  intro i u v hu hv
  exact hp i u v (by rcases Nat.lt_or_ge (i+1) x.Ag.length with h|h;exact h;rw [List.getElem?_eq_none h] at hv;cases hv) hu hv
 · exact h j a AA ha
theorem Pf {l:List Ir} (h:(∀(j:Nat) a b,j+1<l.length→l[j]? =some a→l[j+1]? =some b→a.hi≤b.lo)∧∀(j:Nat) a,j<l.length→l[j]? =some a→VF a.Ag):ZD l∧∀w∈l,VF w.Ag:=by
 refine ⟨fun j a b ha hb=>h.1 j a b (by rcases Nat.lt_or_ge (j+1) l.length with h|h;exact h;rw [List.getElem?_eq_none h] at hb;cases hb) ha hb,fun w hw=> ?_⟩
 obtain ⟨j,hj,rfl⟩:=List.mem_iff_getElem.1 hw
 exact h.2 j _ hj (List.getElem?_eq_getElem hj)
theorem mG {l:List Ir} {k:Nat} {x y:Ir} (hk:0<k) (hx:l[k]? =some x) (hy:l[k-1]? =some y) (h:x.lo<y.hi):¬(ZD l∧∀w∈l,VF w.Ag):=by
 rintro ⟨h1,_⟩
 have:=h1 (k-1) y x hy (by rw [show k-1+1=k by omega];exact hx)
 omega
theorem mH {l:List Ir} {k i:Nat} {x:Ir} {t u:Int} (hx:l[k]? =some x) (hi:0<i) (ht:x.Ag[i]? =some t) (hu:x.Ag[i-1]? =some u) (h:t≤u):¬(ZD l∧∀w∈l,VF w.Ag):=by
 rintro ⟨_,h2⟩
 have:=h2 x (List.mem_of_getElem? hx) (i-1) u t hu (by rw [show i-1+1=i by omega];exact ht)
 omega
def D9 (n d:Int) (room:Nat→Bool):Nat→List Ir→Option Int
 |_,[]=>none
 |i,w::r=>if d<w.hi∧w.Ag.any (fun x=>n==x)∧room i then some (max d w.lo) else D9 n d room (i+1) r
def BR.next (c:BR) (n day:Int) (room:Nat→Bool):Option Int:=D9 n (max day 0) room 0 c.Bw
theorem cT {β:Type} {l:List β} {k:Nat} {x:β} (h:l[k]? =some x):l.drop k=x::l.drop (k+1):=by
 have hk:k<l.length:=by rcases Nat.lt_or_ge k l.length with h'|h';exact h';rw [List.getElem?_eq_none h'] at h;cases h
 rw [List.drop_eq_getElem_cons hk]
 rw [List.getElem?_eq_getElem hk] at h
 simp at h;rw [h]
theorem mI {n d:Int} {room:Nat→Bool} {l:List Ir} {k:Nat} {x:Ir} (h:l[k]? =some x) (h1:d<x.hi) (h2:x.Ag.any (fun y=>n==y)=true) (h3:room k=true):D9 n d room k (l.drop k)=some (max d x.lo):=by
 rw [cT h,D9,if_pos ⟨h1,h2,h3⟩]
theorem fu {n d:Int} {room:Nat→Bool} {l:List Ir} {k:Nat} {x:Ir} (h:l[k]? =some x) (h':¬(d<x.hi∧x.Ag.any (fun y=>n==y)=true∧room k=true)):D9 n d room k (l.drop k)=D9 n d room (k+1) (l.drop (k+1)):=by
 rw [cT h,D9,if_neg h']
noncomputable def BR.EM (c:BR) (Ag days others:List Int):Int:=
 if c.own≠0 then c.own else if Ag.length≠days.length then 1 else if 24<Ag.length then 3
 else if (Ag++others).any (fun n=> !c.has n) then 2 else if (Ag.zip days).all (fun p=>c.may p.1 p.2) then 0 else 47
def BR.cell (c:BR) (p:Int×Int):Nat:=(c.at p.2).toNat*8+p.1.toNat
def BR.cnt (c:BR) (l:List (Int×Int)) (k:Nat):Nat:=l.countP fun p=>c.cell p==k
def BR.ACg (c:BR) (l:List (Int×Int)):List Int:=(List.range 256).map fun k=>(c.cnt l k:Int)
def ACh (c:BR) (l:List (Int×Int)):List Pr:=(c.ACg l).map fun z=>int z
theorem x7 (c:BR) (l:List (Int×Int)) (k:Nat):c.cnt l k≤l.length:=List.countP_le_length
theorem Wy {a b:List Int} {k:Nat} {x y:Int} (hx:a[k]? =some x) (hy:b[k]? =some y):(a.zip b).take (k+1)=(a.zip b).take k++[(x,y)]:=by
 have hz:(a.zip b)[k]? =some (x,y):=by rw [List.getElem?_zip_eq_some];exact ⟨hx,hy⟩
 rw [List.take_add_one,hz];rfl
theorem mJ {c:BR} {n d:Int} (h:c.may n d=true):0≤c.at d:=by
 have h2:=RA (D8 d) c.Bw
 unfold BR.may BR.TN at h
 unfold BR.at
 rcases Int.lt_or_le (idx (D8 d) c.Bw) 0 with h3|h3
 ·
  rw [if_neg AA] at h2
  rw [h2] at h;cases h
 · exact h3
theorem RB {c:BR} (h:c.own=0):c.Bw.length≤32∧c.room.length≤8:=by
 unfold BR.own BR.check at h
 split at h
 · omega
 · omega
theorem mK {c:BR} {n:Int} (h:c.own=0) (hn:c.has n=true):0≤n∧n<8:=by
 have:=(RB h).2
 unfold BR.has at hn
 simp at hn
 omega
theorem x8 {c:BR} {a b:List Int} {k:Nat} {n d:Int} (hx:a[k]? =some n) (hd:b[k]? =some d) (h:(!c.may n d)=true):¬(a.zip b).all (fun p=>c.may p.1 p.2)=true:=by
 intro h2
 rw [List.all_eq_true] at h2
 have hz:(a.zip b)[k]? =some (n,d):=by rw [List.getElem?_zip_eq_some];exact ⟨hx,hd⟩
 have:=h2 _ (List.mem_of_getElem? hz)
 simp [this] at h
theorem tJ {c:BR} {a b:List Int} (h:((a.zip b).take a.length).all (fun p=>c.may p.1 p.2)=true) (hl:a.length=b.length):(a.zip b).all (fun p=>c.may p.1 p.2)=true:=by
 rwa [List.take_of_length_le B4] at h
theorem yA {c:BR} {l:List Int} {n:Int} (h:l.any (fun n=> !c.has n)=false) (hn:n∈l):c.has n=true:=by
 rw [List.any_eq_false] at h
 simpa using h n hn
def BR.over (c:BR) (l:List (Int×Int)):Prop:=∃(i n:Nat) (r:Int),i<c.Bw.length∧c.room[n]? =some r∧r<(c.cnt l (i*8+n):Int)
open Classical in
noncomputable def BR.DV (c:BR) (Ag days others:List Int):Int:=
 if c.EM Ag days others≠0 then c.EM Ag days others else if c.over (Ag.zip days) then 48 else 0
noncomputable def vk (c:BR) (Ag days others:List Int):Pr:=if c.DV Ag days others=0 then ref (ACh c (Ag.zip days)) else is (.pointer none)
noncomputable instance AAL (c:BR) (Ag days others:List Int):One (vk c Ag days others):=by
 unfold vk;split
 · exact bE _
 · exact bD _
theorem GP {c:BR} {Ag days others:List Int} (h:c.EM Ag days others=0):c.own=0:=by
 unfold BR.EM at h
 by_cases h':c.own=0
 · exact h'
 · rw [if_pos h'] at h;exact absurd h h'
theorem Wz {c:BR} {Ag days others:List Int} (h:c.EM Ag days others=0):∀n∈Ag++others,c.has n=true:=by
 have ho:=GP h
 unfold BR.EM at h
 rw [if_neg (not_not_intro ho)] at h
 split at h
 · cases h
 ·
  split at h
  · cases h
  ·
   split at h
   · cases h
   ·
    rename_i h1
    intro n hn
    exact yA IK hn
theorem G5 {c:BR} {Ag days others:List Int} (h:c.DV Ag days others=0):c.EM Ag days others=0:=by
 unfold BR.DV at h
 by_cases h':c.EM Ag days others=0
 · exact h'
 · rw [if_pos h'] at h;exact absurd h h'
theorem ZE {c:BR} {l:List (Int×Int)} {i:Nat} (h0:∀i' n r,i'<i→c.room[n]? =some r→(c.cnt l (i'*8+n):Int)≤r) (h1:∀n r,n<c.room.length→c.room[n]? =some r→(c.cnt l (i*8+n):Int)≤r):∀i' n r,i'<i+1→c.room[n]? =some r→(c.cnt l (i'*8+n):Int)≤r:=by
 intro i' n r hi hr
 by_cases hii:i'=i
 ·
  subst hii
  refine h1 n r ?_ hr
  rcases Nat.lt_or_ge n c.room.length with h|h
  · exact h
  · rw [List.getElem?_eq_none h] at hr;cases hr
 · exact h0 i' n r AA hr
theorem ZF {c:BR} {l:List (Int×Int)} {i m:Nat} {r:Int} (h0:∀n r,n<m→c.room[n]? =some r→(c.cnt l (i*8+n):Int)≤r) (hx:c.room[m]? =some r) (hle:(c.cnt l (i*8+m):Int)≤r):∀n r,n<m+1→c.room[n]? =some r→(c.cnt l (i*8+n):Int)≤r:=by
 intro n r' hn hr
 by_cases hnm:n=m
 · subst hnm;rw [hx] at hr;cases hr;exact hle
 · exact h0 n r' AA hr
def BR.Ln (c:BR) (n:Int):Int:=(c.room[n.toNat]?).getD 0
theorem RC {c:BR} {n:Int} (h:c.has n=true):0≤n∧c.room[n.toNat]? =some (c.Ln n):=by
 unfold BR.has at h
 simp at h
 refine ⟨h.1,?_⟩
 have:n.toNat<c.room.length:=by omega
 unfold BR.Ln
 rw [List.getElem?_eq_getElem this];rfl
def BR.free (c:BR) (l:List (Int×Int)) (n:Int) (i:Nat):Bool:=decide ((c.cnt l (i*8+n.toNat):Int)<c.Ln n)
noncomputable def BR.early (c:BR) (Ag days:List Int) (n from_:Int):Option Int:=if c.DV Ag days [n]=0 then c.next n from_ (c.free (Ag.zip days) n) else none
theorem Lp {c:BR} {n:Int} (h:c.check n=0):(c.Bw.length≤32∧c.room.length≤8)∧c.room.any Ki=false∧c.Bw.any Lm=false∧ZD c.Bw∧(∀w∈c.Bw,VF w.Ag)∧c.Bw.any (fun w=>w.Ag.any fun n=> !c.has n)=false:=by
 unfold BR.check at h
 split at h
 · cases h
 ·
  split at h
  · cases h
  ·
   split at h
   · cases h
   ·
    split at h
    · cases h
    ·
     split at h
     · cases h
     ·
      rename_i h1 h2 h3 h4 h5
      rw [Classical.not_not] at h4
      exact ⟨by omega,by simpa using h2,by simpa using h3,h4.1,h4.2,by simpa using h5⟩
theorem H_ {c:BR} (h:c.own=0):ZD c.Bw∧∀w∈c.Bw,0≤w.lo∧w.lo<w.hi:=by
 obtain ⟨_,_,h3,h4,_⟩:=Lp h
 refine ⟨h4,fun w hw=> ?_⟩
 rw [List.any_eq_false] at h3
 have:=h3 w hw
 simp [Lm] at this
 omega
abbrev TP (l:List Ir):Prop:=l.Pairwise fun a b=>a.hi≤b.lo
theorem IA:∀{l:List Ir},ZD l→(∀w∈l,0≤w.lo∧w.lo<w.hi)→TP l
 |[],_,_=>List.Pairwise.nil
 |[a],_,_=>by simp [TP]
 |a::b::l,h,hw=>by
  have ih:TP (b::l):=IA (fun j x y hx hy=>h (j+1) x y F_ (by simpa using hy)) (fun w hm=>hw w (List.mem_cons_of_mem _ hm))
  refine List.Pairwise.cons (fun w hm=> ?_) ih
  have h0:=h 0 a b rfl rfl
  rcases List.mem_cons.1 hm with rfl|hm
  · exact h0
  ·
   have h1:=(List.pairwise_cons.1 ih).1 w hm
   have:=hw b AU
   omega
theorem RD {k:Int} {w:Ir} (h:D8 k w=true):w.lo≤k∧k<w.hi:=by unfold D8 at h;simpa using h
theorem vm {k:Int} {w:Ir} (h:w.lo≤k∧k<w.hi):D8 k w=true:=by unfold D8;simpa using h
theorem VG {k:Int}:∀{l:List Ir} {w:Ir},TP l→w∈l→D8 k w=true→l.find? (D8 k)=some w
 |a::l,w,hp,hm,hin=>by
  rcases List.mem_cons.1 hm with rfl|hm
  · exact List.find?_cons_of_pos hin
  ·
   have h1:=(List.pairwise_cons.1 hp).1 w hm
   have h2:=RD hin
   rw [List.find?_cons_of_neg (by intro h;have:=RD h;omega)]
   exact VG (List.pairwise_cons.1 hp).2 hm hin
theorem tL {c:BR} {t k:Int} (h:c.own=0):c.may t k=true↔∃w∈c.Bw,D8 k w=true∧w.Ag.any (fun x=>t==x)=true:=by
 obtain ⟨h1,h2⟩:=H_ h
 unfold BR.may BR.TN
 constructor
 ·
  intro hm
  cases hf:c.Bw.find? (D8 k) with
  |none=>rw [hf] at hm;cases hm
  |some w=>rw [hf] at hm;exact ⟨w,List.mem_of_find?_eq_some hf,List.find?_some hf,hm⟩
 ·
  rintro ⟨w,hw,hin,ht⟩
  rw [VG (IA h1 h2) hw hin];exact ht
end Go.Proofs.YtmocaapoeefgkaaGreatDoor
