/-
  Part 4 of the texts that prove this claim, merged.
-/
import Derived.Test.YtppdobdifkefcaaGreatDoorPlWP3
set_option linter.all false
set_option maxRecDepth 40000
set_option maxHeartbeats 16000000
namespace Go.Proofs.YtppdobdifkefcaaGreatDoor
open Go Go.RowKit Cp Go.Proofs.Tryz
abbrev Gq (name:List UInt8) (a b id to key s:Int):GW:=⟨id,[114,111,111,116],name,a,b,id,3,0,0,to,false,0,[name],key,s⟩
abbrev Ej (name:List UInt8) (a b id to key s:Int):Q0:=⟨a,b,id,[Gq name a b id to key s]⟩
abbrev Y0 (name:List UInt8) (a b id to key:Int):Pr:=Cp.ex fun s:Int=>fact (0≤s∧s<4294967296) (agg (Nq (Ej name a b id to key s)))
theorem Y1   :A7 prog 24 [] (agg [int 5,int 2048]):=by
 refine fo func24 rfl ⟨rfl,rfl⟩ fun M0 w0=>(Tr.seq (Tr.Az ?_))
 refine Tl rfl rfl rfl rfl MZ Ex (fun b1=> ?_)
 refine ap ?_
 refine ap ?_
 refine Tr.ret (Fin.C2 rfl (BE.cell 0 rfl rfl Bj Cf rfl (Lr)) ?_)
 · exact Lr
theorem o_   :A7 prog 28 [] (agg [int 7,int 256]):=by
 refine fo func28 rfl ⟨rfl,rfl⟩ fun M0 w0=>(Tr.seq (Tr.Az ?_))
 refine Tl rfl rfl rfl rfl MZ Ex (fun b1=> ?_)
 refine ap ?_
 refine ap ?_
 refine Tr.ret (Fin.C2 rfl (BE.cell 0 rfl rfl Bj Cf rfl (Lr)) ?_)
 · exact Lr
theorem PY {name:List UInt8} {a b id to key:Int} (hv:CK (Gq name a b id to 0 0)=true) (ht:(Gq name a b id to 0 0).SO) (hk:0≤key∧key≤2147483648):A7 prog 23 [str name,agg [int a,int b],int id,int key,int to] (Y0 name a b id to key):=by
 refine fo func23 rfl ⟨rfl,rfl⟩ fun M0 w0=>(Tr.seq (Tr.Az (tp rfl (Dq rfl (Va rfl)) ?_)))
 refine Tl rfl rfl rfl rfl eo Wc (fun b1=> ?_)
 refine ap ?_
 refine ap ?_
 refine tp rfl (Ab (rows:=[(0,[_]),(1,[_]),(2,[_]),(3,_),(4,[_]),(5,_),(7,[_]),(10,[_])]) rfl fE KK ⟨⟨rfl,(Vo rfl)⟩,⟨⟨rfl,(Vo rfl)⟩,⟨⟨rfl,(Vo rfl)⟩,⟨⟨rfl,(Va rfl)⟩,⟨⟨rfl,(Vo rfl)⟩,⟨⟨rfl,(Va rfl)⟩,⟨⟨rfl,(Vo rfl)⟩,⟨⟨rfl,⟨_,rfl,Pr.le_trans (Al _ _) (AD _)⟩⟩,trivial⟩⟩⟩⟩⟩⟩⟩⟩ rfl) (TO.re 20 (agg (Dl (Gq name a b id to 0 0))) rfl (Pr.le_of_eq rfl) ?_)
 refine Tl rfl rfl rfl rfl z107 KK (fun b2=> ?_)
 refine ap ?_
 refine JD 2 3 6 10 11 rfl ?_
 refine ap ?_
 refine tp rfl (EB (Uk (c:=Gq name a b id to 0 0) hv ht hk) rfl rfl rfl) ?_
 refine TO.ex 24 rfl (fun z24=>TO.fact 24 rfl fun pE=> ?_)
 refine ap ?_
 refine ap ?_
 refine tp rfl (Ab (rows:=[(0,_),(1,[_]),(2,[_])]) rfl mK Wc ⟨⟨rfl,(Va rfl)⟩,⟨⟨rfl,(Vo rfl)⟩,⟨⟨rfl,⟨_,rfl,Pr.le_trans (Al _ _) (AD _)⟩⟩,trivial⟩⟩⟩ rfl) ?_
 refine ap ?_
 refine Tr.drop 0 (Fl 10 rfl (Tr.ret (Fin.C2 rfl (BE.cell 0 rfl rfl Qq NY rfl (Lr)) ?_)))
 · exact BW z24 (CS pE (Lr))
def GD (s:DS) (l:List (List UInt8)):List UInt8:=(l[(s.val l.length).toNat]?).getD []
theorem Ny {b:Nat} {s:DS} {l:List (List UInt8)} (hl:l≠[]) (lC:l.length≤1000000000):A9 prog 26 [ptr b 0,XK l] (str (GD s l)) (Bx b s) (fun _=>Bx b s.BN):=by
 refine A9.of func26 rfl rfl (by exact Nb rfl) fun M0 w0 S rs M1 w1=> ?_
 have iO:1≤(l.length:Int):=by have:=List.length_pos_iff.2 hl;omega
 have hv:=s.Ba iO
 obtain ⟨x,hx⟩:=at_ (l:=l) (k:=(s.val l.length).toNat) (by omega)
 refine ac ?_
 refine ap ?_
 refine TO.E8 0 rfl rfl (by decide) (AY rfl rfl (by decide) rfl (BJ (by omega) (by omega)) ⟨ke rfl,ke rfl,trivial⟩) (tp rfl (AA rfl underlying67 MU (vl rfl) (vl rfl) (by omega) (Ck hx)) ?_)
 refine ap ?_
 refine Tr.ret (Fin.ED [] rfl (BE.tmp rfl (Lr)) ?_ (fun _ _ _ _=>rfl))
 · refine Pr.le_of_eq ?_;unfold GD;rw [hx];rfl
def Db:List (List UInt8):=[[97,112,112],[100,98],[119,101,98]]
def JY:List (List Int):=[[10,8,2],[8,2],[2,10,8,3]]
def HE (i:Int):List Int:=(JY[i.toNat]?).getD []
theorem Xe {i:Int} (h:0≤i∧i<3):(JY.map fun l=>[ints l])[i.toNat]? =some [ints (HE i)]:=by
 have hl:i.toNat<JY.length:=by show i.toNat<3;omega
 unfold HE
 rw [List.getElem?_map,List.getElem?_eq_getElem hl];rfl
theorem Nz {i:Int} (h:0≤i∧i<3):HE i∈JY:=by
 have hl:i.toNat<JY.length:=by show i.toNat<3;omega
 unfold HE
 rw [List.getElem?_eq_getElem hl];exact List.getElem_mem hl
structure SQ (i:Nat) (e:Eg):Prop where
 name:Db[i]? =some e.name
 least:e.least=1
 most:e.most=3∨e.most=4
 EV:e.EV∈JY∨∃l∈JY,e.EV=14::l
 ids:∃s:Int,(0≤s∧s<4294967296)∧e.ids=[Ej e.name 5 2048 (100+(i:Nat)) 901 1 s]
 anchors:e.anchors=[1]
 hashes:e.hashes=[2,3]
def Ul (es:List Eg):Prop:=∀(i:Nat) e,es[i]? =some e→SQ i e
theorem N0 {es:List Eg} {e:Eg} (h:Ul es) (he:SQ es.length e):Ul (es++[e]):=by
 intro i x hx
 rcases Nat.lt_or_ge i es.length with hi|hi
 · rw [List.getElem?_append_left hi] at hx;exact h i x hx
 ·
  rcases Nat.eq_or_lt_of_le hi with hi|hi
  · subst hi;rw [List.getElem?_append_right (Nat.le_refl _),Nat.sub_self] at hx;simp at hx;subst hx;exact he
  · rw [List.getElem?_eq_none (by simp;omega)] at hx;cases hx
theorem Mu {nm:List UInt8} {k:Nat} (h:Db[k]? =some nm) {s:Int} (hs:0≤s∧s<4294967296) {key:Int} (hk:0≤key∧key≤2):CK (Gq nm 5 2048 (100+(k:Nat)) 901 key s)=true:=by
 have hlt:k<3:=BR h
 have hn:named nm=true:=by
  have hm:=List.mem_of_getElem? h
  revert hm;unfold Db;intro hm;simp at hm
  rcases hm with rfl|rfl|rfl<;>decide
 refine Yy ⟨?_,?_,by show named [114,111,111,116]=true;decide,hn,?_,by show Ji 5 2048 2=true;decide+kernel,?_,?_,by show Ji 3 0 1=true;decide+kernel,hk.1,?_,hs.1,hs.2,by show (0:Int)≤0;omega,by show (0:Int)≤901;omega,by show (901:Int)≤40000;omega,by show (0:Int)≤0;omega,by show (0:Int)≤8;omega,.inr rfl⟩
 · show 0≤(100:Int)+(k:Nat);omega
 · show (100:Int)+(k:Nat)≤_;omega
 ·
  show Dv [nm]=true
  unfold Dv;rw [Bool.and_eq_true];refine ⟨Ct.2 fun j hj=> ?_,by simp⟩
  have:j=0:=by simp at hj;omega
  subst this;unfold nameAt;simp [hn]
 · show 0≤(100:Int)+(k:Nat);omega
 · show (100:Int)+(k:Nat)≤_;omega
 · show key≤_;omega
theorem Lz {nm:List UInt8} {k:Nat} (h:k<3):(Gq nm 5 2048 (100+(k:Nat)) 901 0 0).SO:=
 ⟨by show (100:Int)+(k:Nat)≤40000;omega,by show (100:Int)+(k:Nat)≤40000;omega,⟨by show (0:Int)≤5;omega,by show (5:Int)≤40000;omega⟩,⟨by show (0:Int)≤2048;omega,by show (2048:Int)≤40000;omega⟩,⟨by show (0:Int)≤3;omega,by show (3:Int)≤40000;omega⟩,⟨by show (0:Int)≤0;omega,by show (0:Int)≤40000;omega⟩⟩
theorem Um {β:Type} {l:List β} {n k:Nat} {x:β} (h:(l.take n)[k]? =some x):l[k]? =some x:=by
 have hlt:=BR h
 rw [List.length_take] at hlt
 rw [List.getElem?_take,if_pos (by omega)] at h;exact h
theorem Un (i:Int):(HE i).length≤4:=by
 unfold HE
 cases h:JY[i.toNat]? with
 |none=>show 0≤4;omega
 |some l=>
  have hm:=List.mem_of_getElem? h
  show l.length≤4
  unfold JY at hm;simp at hm
  rcases hm with rfl|rfl|rfl<;>simp
theorem aq (s:DS):s.of [3,3,4]=3∨s.of [3,3,4]=4:=by have:=s.G2 (l:=[3,3,4]) (by simp);simp at this;exact this
abbrev iq:List (List Int):=JY++JY.map (14:: ·)
theorem JK {i:Nat} {e:Eg} (h:SQ i e):e.EV∈iq:=by
 rcases h.EV with h|⟨l,h,h2⟩
 · exact List.mem_append_left _ h
 · rw [h2];exact List.mem_append_right _ (List.mem_map_of_mem h)
theorem RA:∀l∈iq,FY l=true∧l.length≤5:=by decide+kernel
theorem Mv:∀n∈Db,Ki n=true∧n.length≤3:=by decide+kernel
theorem Xf:[2,3].all Kj=true:=by decide+kernel
theorem Xg:Ji 5 2048 2=true:=by decide+kernel
theorem Uo {nm:List UInt8} {k:Nat} {id:Int} (h:Db[k]? =some nm) (hid:id=100+(k:Nat)) {s:Int} (hs:0≤s∧s<4294967296):XL (Ej nm 5 2048 id 901 1 s)=true:=by
 subst hid
 have hk:k<3:=BR h
 have hv:=Mu h hs (key:=1) (by omega)
 have hk2:Gd (100+(k:Nat))=true:=by unfold Gd;simp;omega
 unfold XL Mo;simp only [Xg,hk2,List.all_cons,List.all_nil,hv];simp
theorem Xh {i:Nat} {e:Eg} (h:SQ i e):Yx e:=by
 have hn:=Mv _ (List.mem_of_getElem? h.name)
 have hs:=RA _ (JK h)
 obtain ⟨s,hs1,S7⟩:=h.ids
 have hm:=h.most;have hl:=h.least
 refine ⟨hn.1,by omega,by omega,by omega,hs.1,by rw [S7];simp,by rw [h.anchors];simp,by rw [h.anchors];decide,by rw [h.hashes];decide,?_,by rw [h.anchors];decide,by rw [h.hashes];exact Xf⟩
 rw [S7];simp only [List.all_cons,List.all_nil,Uo h.name rfl hs1,Bool.and_self]
theorem SS {i:Nat} {e:Eg} (h:SQ i e):e.fits:=by
 have hn:=Mv _ (List.mem_of_getElem? h.name)
 obtain ⟨s,hs1,S7⟩:=h.ids
 refine ⟨by unfold maxLen;omega,fun x hx c hc=> ?_⟩
 rw [S7] at hx;simp at hx;subst hx;simp at hc;subst hc
 exact ⟨by show 4≤maxLen;unfold maxLen;omega,by show e.name.length≤maxLen;unfold maxLen;omega,fun n hn2=>by simp at hn2;subst hn2;unfold maxLen;omega⟩
theorem PZ {i:Nat} {e:Eg} (h:SQ i e):e.small:=by
 have hs:=RA _ (JK h)
 obtain ⟨s,hs1,S7⟩:=h.ids
 refine ⟨by omega,by rw [h.anchors];simp,by rw [h.hashes];simp,by rw [S7];simp,fun x hx=> ?_⟩
 rw [S7] at hx;simp at hx;subst hx
 exact ⟨by simp,fun c hc=>by simp at hc;subst hc;simp⟩
theorem ir {nm:List UInt8} (h:nm∈Db) {a b id key s:Int} (hab:(a=5∧b=2048)∨(a=7∧b=256)) (hid:0≤id∧id≤1000) (hs:0≤s∧s<4294967296) (hk:0≤key∧key≤2):CK (Gq nm a b id 901 key s)=true:=by
 have hn:named nm=true:=by
  revert h;unfold Db;intro hm;simp at hm
  rcases hm with rfl|rfl|rfl<;>decide
 have hof:Ji a b 2=true:=by rcases hab with ⟨rfl,rfl⟩|⟨rfl,rfl⟩<;>decide+kernel
 refine Yy ⟨?_,?_,by show named [114,111,111,116]=true;decide,hn,?_,hof,?_,?_,by show Ji 3 0 1=true;decide+kernel,hk.1,?_,hs.1,hs.2,by show (0:Int)≤0;omega,by show (0:Int)≤901;omega,by show (901:Int)≤40000;omega,by show (0:Int)≤0;omega,by show (0:Int)≤8;omega,.inr rfl⟩
 · show 0≤id;omega
 · show id≤_;omega
 ·
  show Dv [nm]=true
  unfold Dv;rw [Bool.and_eq_true];refine ⟨Ct.2 fun j hj=> ?_,by simp⟩
  have:j=0:=by simp at hj;omega
  subst this;unfold nameAt;simp [hn]
 · show 0≤id;omega
 · show id≤_;omega
 · show key≤_;omega
theorem iw {nm:List UInt8} {a b id:Int} (hab:(a=5∧b=2048)∨(a=7∧b=256)) (hid:0≤id∧id≤1000):(Gq nm a b id 901 0 0).SO:=
 ⟨by show id≤40000;omega,by show id≤40000;omega,⟨by show (0:Int)≤a;omega,by show a≤40000;omega⟩,⟨by show (0:Int)≤b;omega,by show b≤40000;omega⟩,⟨by show (0:Int)≤3;omega,by show (3:Int)≤40000;omega⟩,⟨by show (0:Int)≤0;omega,by show (0:Int)≤40000;omega⟩⟩
structure pF (es:List Eg) (c:Cb):Prop where
 lo:0≤c.Bm
 hi:c.Bm<(es.length:Nat)
 kind:1≤c.kind∧c.kind≤12
 fits:c.JX.fits
 small:c.JX.small
abbrev au (nm:List UInt8) (a b id to key:Int):Pr:=Cp.ex fun s:Int=>fact (0≤s∧s<4294967296) (Np [Gq nm a b id to key s])
theorem iy {nm:List UInt8} (h:nm∈Db) {a b id key s:Int}:(Ej nm a b id 901 key s).fits∧(Ej nm a b id 901 key s).small:=by
 have hn:=(Mv _ h).2
 refine ⟨fun c hc=> ?_,⟨by simp,fun c hc=>by simp at hc;subst hc;simp⟩⟩
 simp at hc;subst hc
 exact ⟨by show 4≤maxLen;unfold maxLen;omega,by show nm.length≤maxLen;unfold maxLen;omega,fun n hn2=>by simp at hn2;subst hn2;unfold maxLen;omega⟩
structure N1 where
 BB:Int
 bits:Int
 day:Int
 deriving DecidableEq
abbrev pG (x:N1):List Pr:=[int x.BB,int x.bits,int x.day]
abbrev Up (l:List N1):Pr:=slice 3 (l.map pG)
structure JL where
 name:List UInt8
 kind:Int
 Fb:Int
 links:List N1
 Kr:Int
 deriving DecidableEq
abbrev Fu (x:JL):List Pr:=[str x.name,int x.kind,int x.Fb,Up x.links,int x.Kr]
abbrev Pa (l:List JL):Pr:=slice 5 (l.map Fu)
structure Ks where
 client:Int
 server:Int
 deriving DecidableEq
abbrev pH (x:Ks):List Pr:=[int x.client,int x.server]
abbrev Hy (l:List Ks):Pr:=slice 2 (l.map pH)
abbrev Dm:N1:=⟨0,0,0⟩
abbrev Ek:Ks:=⟨0,0⟩
def Dw (l:List N1) (i:Nat):Bool:=decide (BD (l[i]?.getD Dm).BB (l[i]?.getD Dm).bits>0)&&decide (0≤(l[i]?.getD Dm).day)&&decide ((l[i]?.getD Dm).day≤40000)&&(decide (i=0)||decide ((l[i-1]?.getD Dm).day<(l[i]?.getD Dm).day))
def FD (x:JL):Bool:=(named x.name&&decide (x.kind=1∨x.kind=2)&&decide (1≤x.Fb)&&decide (x.Fb≤4)&&decide (1≤x.links.length)&&decide (x.links.length≤8))&&allI (Dw x.links) x.links.length&&(decide ((x.links[0]?.getD Dm).day≤x.Kr)&&decide (x.Kr≤40000))
structure iz (x:JL):Prop where
 name:named x.name=true
 kind:x.kind=1∨x.kind=2
 p1:1≤x.Fb
 p4:x.Fb≤4
 l1:1≤x.links.length
 l8:x.links.length≤8
 i6:∀j,j<x.links.length→Dw x.links j=true
 u0:(x.links[0]?.getD Dm).day≤x.Kr
 u1:x.Kr≤40000
theorem B9 {x:JL}:FD x=true↔iz x:=by
 unfold FD
 simp only [Bool.and_eq_true,decide_eq_true_eq,Ct]
 exact ⟨fun ⟨⟨⟨⟨⟨⟨⟨h1,h2⟩,h3⟩,h4⟩,h5⟩,h6⟩,h7⟩,h8,h9⟩=>⟨h1,h2,h3,h4,h5,h6,h7,h8,h9⟩,fun h=>⟨⟨⟨⟨⟨⟨⟨h.name,h.kind⟩,h.p1⟩,h.p4⟩,h.l1⟩,h.l8⟩,h.i6⟩,h.u0,h.u1⟩⟩
def Bf (n:Nat) (l:List Ks) (i:Nat):Bool:=(decide (0≤(l[i]?.getD Ek).client∧(l[i]?.getD Ek).client<n)&&decide (0≤(l[i]?.getD Ek).server∧(l[i]?.getD Ek).server<n)&&decide ((l[i]?.getD Ek).client≠(l[i]?.getD Ek).server))&&(decide (i=0)||decide ((l[i-1]?.getD Ek).client<(l[i]?.getD Ek).client∨((l[i-1]?.getD Ek).client=(l[i]?.getD Ek).client∧(l[i-1]?.getD Ek).server<(l[i]?.getD Ek).server)))
def Dx (n:Nat) (l:List Ks):Bool:=allI (Bf n l) l.length&&decide (l.length≤40)
theorem SU {x:JL} (hx:x.name.length≤maxLen):A7 prog 73 [agg (Fu x)] (int (if FD x then 0 else 30)):=by
 refine fo func73 rfl ⟨rfl,rfl⟩ fun M0 w0=> ?_
 refine ac ?_
 refine Fl 1 rfl (Tr.WH [1] [(3,bool (decide (x.kind=1∨x.kind=2)))] (True) ?_ (fun h1=> ?_))
 refine ac ?_
 refine Ch.cs 9 rfl ?_ ?_<;>intro h2 q2
 refine ac ?_
 exact Fin.AP () trivial ⟨⟨_,rfl,bool_eq (by simp_all [Bool.beq_eq_decide_eq])⟩,ke rfl,trivial⟩
 refine ac ?_
 exact Fin.AP () trivial ⟨⟨_,rfl,bool_eq (by simp_all [Bool.beq_eq_decide_eq])⟩,ke rfl,trivial⟩
 refine EZ 1 3 rfl (Tr.WH [1] [] ((named x.name=true∧(x.kind=1∨x.kind=2)∧1≤x.Fb∧x.Fb≤4)∧1≤x.links.length∧x.links.length≤8) ?_ (fun hpre=> ?_))
 refine ac ?_
 refine co rfl (Ca (Jg hx) rfl rfl) ?_
 refine ac ?_
 refine Ch.cs 18 rfl ?_ ?_<;>intro h4 q4
 refine ac ?_
 refine EZ 1 43 rfl ?_
 refine ac ?_
 refine ac ?_
 · refine int_eq (if_neg (fun hv=> ?_)).symm;have ok:=B9.1 hv;have o1:=ok.name;have o2:=ok.kind;have o3:=ok.p1;have o4:=ok.p4;have o5:=ok.l1;have o6:=ok.l8;have o7:=ok.u0;have o8:=ok.u1;(simp_all)
 refine ac ?_
 refine Ch.cs 22 rfl ?_ ?_<;>intro h5 q5
 refine ac ?_
 refine EZ 1 43 rfl ?_
 refine ac ?_
 refine ac ?_
 · refine int_eq (if_neg (fun hv=> ?_)).symm;have ok:=B9.1 hv;have o1:=ok.name;have o2:=ok.kind;have o3:=ok.p1;have o4:=ok.p4;have o5:=ok.l1;have o6:=ok.l8;have o7:=ok.u0;have o8:=ok.u1;(omega)
 refine ac ?_
 refine Ch.cs 27 rfl ?_ ?_<;>intro h6 q6
 refine ac ?_
 refine EZ 1 43 rfl ?_
 refine ac ?_
 refine ac ?_
 · refine int_eq (if_neg (fun hv=> ?_)).symm;have ok:=B9.1 hv;have o1:=ok.name;have o2:=ok.kind;have o3:=ok.p1;have o4:=ok.p4;have o5:=ok.l1;have o6:=ok.l8;have o7:=ok.u0;have o8:=ok.u1;(omega)
 refine ac ?_
 refine Ch.cs 32 rfl ?_ ?_<;>intro h7 q7
 refine ac ?_
 refine EZ 1 43 rfl ?_
 refine ac ?_
 refine ac ?_
 · refine int_eq (if_neg (fun hv=> ?_)).symm;have ok:=B9.1 hv;have o1:=ok.name;have o2:=ok.kind;have o3:=ok.p1;have o4:=ok.p4;have o5:=ok.l1;have o6:=ok.l8;have o7:=ok.u0;have o8:=ok.u1;(omega)
 refine ac ?_
 refine Ch.cs 38 rfl ?_ ?_<;>intro h8 q8
 refine ac ?_
 refine EZ 1 43 rfl ?_
 refine ac ?_
 refine ac ?_
 · refine int_eq (if_neg (fun hv=> ?_)).symm;have ok:=B9.1 hv;have o1:=ok.name;have o2:=ok.kind;have o3:=ok.p1;have o4:=ok.p4;have o5:=ok.l1;have o6:=ok.l8;have o7:=ok.u0;have o8:=ok.u1;(omega)
 refine ac ?_
 refine EZ 1 43 rfl ?_
 refine Tr.cn rfl ?_ ?_<;>intro h9 q9
 refine ac ?_
 refine ac ?_
 · refine int_eq (if_neg (fun hv=> ?_)).symm;have ok:=B9.1 hv;have o1:=ok.name;have o2:=ok.kind;have o3:=ok.p1;have o4:=ok.p4;have o5:=ok.l1;have o6:=ok.l8;have o7:=ok.u0;have o8:=ok.u1;(omega)
 refine Tr.skip (Fin.AP () ⟨⟨by simp_all,by simp_all,by omega,by omega⟩,by omega,by omega⟩ ⟨ke rfl,trivial⟩)
 obtain ⟨⟨hq1,Rl,Z8,hq4⟩,hq5,hq6⟩:=hpre
 obtain ⟨c0,hc0⟩:=at_ (l:=x.links) (k:=0) (by omega)
 have av:=getD_at (d:=Dm) hc0
 refine ac ?_
 refine Tr.block (Tr.BK [(1,_),(45,_),(46,_)] (LK rfl) (fun k:Nat=>[(47,int ((k:Nat):Int))]) (fun k:Nat=>k≤(x.links).length∧(∀j,j<k→Dw x.links j=true)) (fun k:Nat=>(x.links).length-k) 0 (⟨Nat.zero_le _,fun j hj=>absurd hj (by omega)⟩) ⟨ke rfl,trivial⟩ ?_)
 rintro k ⟨BO,AJ⟩
 refine ac ?_
 refine Tr.seq ?_
 refine Tr.cn rfl ?_ ?_<;>intro h10 S6
 have Ad:k<(x.links).length:=AQ h10
 obtain ⟨c,Ac⟩:=at_ Ad
 have hg:=getD_at (d:=Dm) Ac
 refine ac ?_
 refine ao ?_
 refine tp rfl (AA rfl underlying79 KM (vl rfl) (vl rfl) (by omega) (Ah Ac)) (tp rfl (AM rfl Z0 KM (vl rfl) rfl rfl) ?_)
 refine Tl rfl rfl rfl rfl Z1 Tn (fun b1=> ?_)
 refine tm rfl ?_
 refine sf 0 5 ⟨rfl,rfl,rfl⟩ rfl rfl rfl rfl ?_
 refine ao ?_
 refine ac ?_
 refine co rfl (Ca (Mn) rfl rfl) ?_
 refine ac ?_
 refine Ch.cs 56 rfl ?_ ?_<;>intro h11 WB
 refine ac ?_
 refine JD 1 45 46 47 81 rfl ?_
 refine ac ?_
 refine ac ?_
 · refine int_eq (if_neg (fun hv=> ?_)).symm;have ok:=B9.1 hv;have o1:=ok.name;have o2:=ok.kind;have o3:=ok.p1;have o4:=ok.p4;have o5:=ok.l1;have o6:=ok.l8;have o7:=ok.u0;have o8:=ok.u1;(have h_:=ok.i6 k (by omega);unfold Dw at h_;rw [hg] at h_;simp_all;omega)
 refine ac ?_
 refine Ch.cs 61 rfl ?_ ?_<;>intro h12 dc
 refine ac ?_
 refine JD 1 45 46 47 81 rfl ?_
 refine ac ?_
 refine ac ?_
 · refine int_eq (if_neg (fun hv=> ?_)).symm;have ok:=B9.1 hv;have o1:=ok.name;have o2:=ok.kind;have o3:=ok.p1;have o4:=ok.p4;have o5:=ok.l1;have o6:=ok.l8;have o7:=ok.u0;have o8:=ok.u1;(have h_:=ok.i6 k (by omega);unfold Dw at h_;rw [hg] at h_;simp_all;omega)
 refine ac ?_
 refine Ch.cs 66 rfl ?_ ?_<;>intro Q2 aP
 refine ac ?_
 refine JD 1 45 46 47 81 rfl ?_
 refine ac ?_
 refine ac ?_
 · refine int_eq (if_neg (fun hv=> ?_)).symm;have ok:=B9.1 hv;have o1:=ok.name;have o2:=ok.kind;have o3:=ok.p1;have o4:=ok.p4;have o5:=ok.l1;have o6:=ok.l8;have o7:=ok.u0;have o8:=ok.u1;(have h_:=ok.i6 k (by omega);unfold Dw at h_;rw [hg] at h_;simp_all;omega)
 refine ac ?_
 refine Ch.cs 69 rfl ?_ ?_<;>intro NF lF
 have hk0:0<k:=by simpa using NF
 obtain ⟨y,hy⟩:=at_ (l:=x.links) (k:=k-1) (by omega)
 have Oo:=getD_at (d:=Dm) hy
 refine ac ?_
 refine cy NF rfl (AA rfl underlying79 KM (vl rfl) (vl rfl) (by omega) (by rw [show ((k:Nat):Int)-1=((k-1:Nat):Int) by omega];exact Ah hy)) ?_
 refine ac ?_
 refine JD 1 45 46 47 81 rfl ?_
 refine Tr.cn rfl ?_ ?_<;>intro XW oq
 refine ac ?_
 refine ac ?_
 · refine int_eq (if_neg (fun hv=> ?_)).symm;have ok:=B9.1 hv;have o1:=ok.name;have o2:=ok.kind;have o3:=ok.p1;have o4:=ok.p4;have o5:=ok.l1;have o6:=ok.l8;have o7:=ok.u0;have o8:=ok.u1;(have h_:=ok.i6 k (by omega);unfold Dw at h_;rw [hg,Oo] at h_;simp_all;omega)
 refine ac ?_
 refine ac ?_
 exact Fin.AP (k+1) ⟨⟨Ad,B4 AJ (by unfold Dw;rw [hg,Oo];simp_all)⟩,by omega⟩ ⟨⟨_,rfl,AF k⟩,ke rfl,ke rfl,ke rfl,trivial⟩
 have SM:¬0<k:=by simpa using NF
 refine ac ?_
 refine JD 1 45 46 47 81 rfl ?_
 refine ac ?_
 refine ac ?_
 exact Fin.AP (k+1) ⟨⟨Ad,B4 AJ (by unfold Dw;rw [hg];simp_all)⟩,by omega⟩ ⟨⟨_,rfl,AF k⟩,ke rfl,ke rfl,ke rfl,trivial⟩
 have BF:k=(x.links).length:=by have:=AR h10;omega
 subst BF
 refine ac ?_
 refine ac ?_
 refine co rfl (AA rfl underlying79 KM (vl rfl) (vl rfl) (by omega) (Ah (k:=0) hc0)) ?_
 refine ac ?_
 refine Ch.cs 91 rfl ?_ ?_<;>intro h16 q16
 refine ac ?_
 refine Fl 95 rfl ?_
 refine ac ?_
 refine ac ?_
 · refine int_eq (if_neg (fun hv=> ?_)).symm;have ok:=B9.1 hv;have o1:=ok.name;have o2:=ok.kind;have o3:=ok.p1;have o4:=ok.p4;have o5:=ok.l1;have o6:=ok.l8;have o7:=ok.u0;have o8:=ok.u1;(simp_all;omega)
 refine ac ?_
 refine Fl 95 rfl ?_
 refine Tr.cn rfl ?_ ?_<;>intro SH lD
 refine ac ?_
 refine ac ?_
 · refine int_eq (if_neg (fun hv=> ?_)).symm;have ok:=B9.1 hv;have o1:=ok.name;have o2:=ok.kind;have o3:=ok.p1;have o4:=ok.p4;have o5:=ok.l1;have o6:=ok.l8;have o7:=ok.u0;have o8:=ok.u1;(omega)
 refine ac ?_
 refine ac ?_
 refine ac ?_
 · refine int_eq (if_pos (B9.2 ⟨hq1,Rl,Z8,hq4,hq5,hq6,AJ,by rw [av];omega,by omega⟩)).symm
theorem Uq {l:List Ks} {n:Nat}  :A7 prog 74 [Hy l,int ((n:Nat):Int)] (bool (Dx n l)):=by
 refine fo func74 rfl ⟨rfl,rfl⟩ fun M0 w0=>(Tr.EF 0 rfl fun Fp=> ?_)
 refine ac ?_
 refine ac ?_
 refine Tr.block (Tr.BK [(0,_),(1,_),(7,_),(8,_)] (jy rfl) (fun k:Nat=>[(9,int ((k:Nat):Int))]) (fun k:Nat=>k≤(l).length∧(∀j,j<k→Bf n l j=true)) (fun k:Nat=>(l).length-k) 0 (⟨Nat.zero_le _,fun j hj=>absurd hj (by omega)⟩) ⟨ke rfl,trivial⟩ ?_)
 rintro k ⟨BO,AJ⟩
 refine ac ?_
 refine Tr.seq ?_
 refine Tr.cn rfl ?_ ?_<;>intro h1 q1
 have Ad:k<(l).length:=AQ h1
 obtain ⟨c,Ac⟩:=at_ Ad
 have hg:=getD_at (d:=Ek) Ac
 refine ac ?_
 refine ao ?_
 refine tp rfl (AA rfl underlying28 Mc (vl rfl) (vl rfl) (by omega) (Ah Ac)) (tp rfl (AM rfl e_ Mc (vl rfl) rfl rfl) ?_)
 refine Tl rfl rfl rfl rfl jz Zn (fun b1=> ?_)
 refine tm rfl ?_
 refine sf 0 6 ⟨rfl,rfl,rfl⟩ rfl rfl rfl rfl ?_
 refine ao ?_
 refine ac ?_
 refine Ch.cs 17 rfl ?_ ?_<;>intro h2 q2
 refine ac ?_
 refine Rs 0 1 5 6 7 8 9 40 rfl ?_
 refine ac ?_
 refine ac ?_
 · refine bool_eq ?_;unfold Dx;rw [CY (p:=Bf n l) (k:=k) (by omega) (by unfold Bf;rw [hg];simp_all;omega)];rfl
 refine ac ?_
 refine Ch.cs 23 rfl ?_ ?_<;>intro h3 q3
 refine ac ?_
 refine Rs 0 1 5 6 7 8 9 40 rfl ?_
 refine ac ?_
 refine ac ?_
 · refine bool_eq ?_;unfold Dx;rw [CY (p:=Bf n l) (k:=k) (by omega) (by unfold Bf;rw [hg];simp_all;omega)];rfl
 refine ac ?_
 refine Ch.cs 28 rfl ?_ ?_<;>intro h4 q4
 refine ac ?_
 refine Rs 0 1 5 6 7 8 9 40 rfl ?_
 refine ac ?_
 refine ac ?_
 · refine bool_eq ?_;unfold Dx;rw [CY (p:=Bf n l) (k:=k) (by omega) (by unfold Bf;rw [hg];simp_all;omega)];rfl
 refine ac ?_
 refine Ch.cs 34 rfl ?_ ?_<;>intro h5 q5
 refine ac ?_
 refine Rs 0 1 5 6 7 8 9 40 rfl ?_
 refine ac ?_
 refine ac ?_
 · refine bool_eq ?_;unfold Dx;rw [CY (p:=Bf n l) (k:=k) (by omega) (by unfold Bf;rw [hg];simp_all;omega)];rfl
 refine ac ?_
 refine Rs 0 1 5 6 7 8 9 40 rfl ?_
 refine Tr.cn rfl ?_ ?_<;>intro h6 q6
 refine ac ?_
 refine ac ?_
 · refine bool_eq ?_;unfold Dx;rw [CY (p:=Bf n l) (k:=k) (by omega) (by unfold Bf;rw [hg];simp_all)];rfl
 refine ac ?_
 refine ac ?_
 refine Ch.cs 43 rfl ?_ ?_<;>intro h7 q7
 have hk0:0<k:=by simpa using h7
 obtain ⟨y,hy⟩:=at_ (l:=l) (k:=k-1) (by omega)
 have Oo:=getD_at (d:=Ek) hy
 refine ac ?_
 refine cy h7 rfl (AA rfl underlying28 Mc (vl rfl) (vl rfl) (by omega) (by rw [show ((k:Nat):Int)-1=((k-1:Nat):Int) by omega];exact Ah hy)) ?_
 refine ac ?_
 refine Ch.cs 53 rfl ?_ ?_<;>intro h8 q8
 refine ac ?_
 refine O7 0 1 7 8 9 75 rfl ?_
 refine ac ?_
 refine ac ?_
 · refine bool_eq ?_;unfold Dx;rw [CY (p:=Bf n l) (k:=k) (by omega) (by unfold Bf;rw [hg,Oo];simp_all;omega)];rfl
 refine ac ?_
 refine cy h8 rfl (AA rfl underlying28 Mc (vl rfl) (vl rfl) (by omega) (by rw [show ((k:Nat):Int)-1=((k-1:Nat):Int) by omega];exact Ah hy)) ?_
 refine ac ?_
 refine Ch.cs 63 rfl ?_ ?_<;>intro h9 q9
 refine ac ?_
 refine cy h9 rfl (AA rfl underlying28 Mc (vl rfl) (vl rfl) (by omega) (by rw [show ((k:Nat):Int)-1=((k-1:Nat):Int) by omega];exact Ah hy)) ?_
 refine ac ?_
 refine O7 0 1 7 8 9 75 rfl ?_
 refine Tr.cn rfl ?_ ?_<;>intro h10 S6
 refine ac ?_
 refine ac ?_
 · refine bool_eq ?_;unfold Dx;rw [CY (p:=Bf n l) (k:=k) (by omega) (by unfold Bf;rw [hg,Oo];simp_all;omega)];rfl
 refine ac ?_
 refine ac ?_
 exact Fin.AP (k+1) ⟨⟨Ad,B4 AJ (by unfold Bf;rw [hg,Oo];simp_all)⟩,by omega⟩ ⟨⟨_,rfl,AF k⟩,ke rfl,ke rfl,ke rfl,ke rfl,trivial⟩
 refine ac ?_
 refine O7 0 1 7 8 9 75 rfl ?_
 refine ac ?_
 refine ac ?_
 exact Fin.AP (k+1) ⟨⟨Ad,B4 AJ (by unfold Bf;rw [hg,Oo];simp_all;omega)⟩,by omega⟩ ⟨⟨_,rfl,AF k⟩,ke rfl,ke rfl,ke rfl,ke rfl,trivial⟩
 have SM:¬0<k:=by simpa using h7
 refine ac ?_
 refine O7 0 1 7 8 9 75 rfl ?_
 refine ac ?_
 refine ac ?_
 exact Fin.AP (k+1) ⟨⟨Ad,B4 AJ (by unfold Bf;rw [hg];simp_all)⟩,by omega⟩ ⟨⟨_,rfl,AF k⟩,ke rfl,ke rfl,ke rfl,ke rfl,trivial⟩
 have BF:k=(l).length:=by have:=AR h1;omega
 subst BF
 refine ac ?_
 refine ac ?_
 refine ac ?_
 · refine bool_eq ?_;unfold Dx;rw [Ht AJ,Bool.true_and,decide_eq_decide];omega
deriving instance DecidableEq for GW
deriving instance DecidableEq for Q0
deriving instance DecidableEq for Eg
deriving instance DecidableEq for Cb
section
variable {α:Type} {p:α→Bool} {l:List α} {a:α} {i:Nat}
end
abbrev pI (l:List Eg):Pr:=slice 9 (l.map Cu)
structure IL where
 EK:List Eg
 Fv:List Ks
 items:List JL
 deriving DecidableEq
abbrev L1 (e:IL):List Pr:=[pI e.EK,Hy e.Fv,Pa e.items]
structure IL.fits (e:IL):Prop where
 EK:∀x∈e.EK,x.fits∧x.small
 items:∀x∈e.items,x.name.length≤maxLen
 le:e.EK.length≤1000000000000
 lg:e.Fv.length≤1000000000000
 li:e.items.length≤1000000000000
def N2 (l:List Eg) (i:Nat):Bool:=Ge (l[i]?.getD Kl)&&(decide (i=0)||decide (Lib.compareBytes (l[i-1]?.getD Kl).name (l[i]?.getD Kl).name= -1))
def Kt (e:IL):Bool:=(allI (N2 e.EK) e.EK.length&&decide (e.EK.length≤16))&&Dx e.EK.length e.Fv&&(e.items.all FD&&decide (e.items.length≤30))
structure Y2 (e:IL):Prop where
 ep:∀j,j<e.EK.length→N2 e.EK j=true
 i7:e.EK.length≤16
 ed:∀j,j<e.Fv.length→Bf e.EK.length e.Fv j=true
 dh:e.Fv.length≤40
 it:e.items.all FD=true
 i9:e.items.length≤30
theorem Fc {e:IL}:Kt e=true↔Y2 e:=by
 unfold Kt Dx
 simp only [Bool.and_eq_true,decide_eq_true_eq,Ct]
 exact ⟨fun ⟨⟨⟨h1,h2⟩,h3,h4⟩,h5,h6⟩=>⟨h1,h2,h3,h4,h5,h6⟩,fun h=>⟨⟨⟨h.ep,h.i7⟩,h.ed,h.dh⟩,h.it,h.i9⟩⟩
theorem GY {e:IL} (h:Y2 e):Dx e.EK.length e.Fv=true:=by unfold Dx;simp only [Bool.and_eq_true,decide_eq_true_eq,Ct];exact ⟨h.ed,h.dh⟩
theorem az {x:JL} (hx:x.name.length≤maxLen):A7 prog 72 [agg (Fu x)] (bool (!FD x)):=by
 refine fo func72 rfl ⟨rfl,rfl⟩ fun M0 w0=> ?_
 refine a2 ?_
 refine co rfl (Ca (SU hx) rfl rfl) ?_
 refine a2 ?_
 · refine bool_eq ?_;cases h_:FD x<;>simp_all
theorem a_:Entry Tryz.prog 72:=⟨_,Tryz.func72,rfl,rfl⟩
theorem Xi {α:Type} {g:α→JL} {l:List α} {p:α→Bool}  :A7 prog 101 [slice 5 (l.map fun x=>Fu (g x)),Oq prog (fun x:α=>[agg (Fu (g x))]) (fun x=>bool (p x))] (int (idx p l)):=by
 refine fo func101 rfl ⟨rfl,rfl⟩ fun M0 w0=>(Tr.EF 0 rfl fun Fp=> ?_)
 refine a2 ?_
 refine Tr.block (Tr.BK [(0,_),(1,_),(7,_)] (LK rfl) (fun k:Nat=>[(8,int ((k:Nat):Int))]) (fun k:Nat=>k≤(l).length∧(∀j y,j<k→l[j]? =some y→p y=false)) (fun k:Nat=>(l).length-k) 0 (⟨Nat.zero_le _,fun j y hj=>absurd hj (by omega)⟩) ⟨ke rfl,trivial⟩ ?_)
 rintro k ⟨BO,AJ⟩
 refine ac ?_
 refine Tr.seq ?_
 refine Tr.cn rfl ?_ ?_<;>intro h1 q1
 have Ad:k<(l).length:=AQ h1
 obtain ⟨x,Ac⟩:=at_ Ad
 · repeat' first|exact int_eq (EJ Ac (by assumption) AJ)|exact Fin.AP (k+1) ⟨⟨Ad,Cm Ac (by assumption) AJ⟩,by omega⟩ ⟨⟨_,rfl,AF k⟩,ke rfl,ke rfl,ke rfl,trivial⟩|refine co rfl (AA rfl underlying29 LN (vl rfl) (vl rfl) (by omega) (by exact Ah (by assumption))) ?_|refine co rfl (AM rfl Tj LN (vl rfl) rfl rfl) (co rfl (EP x rfl (vl rfl) ⟨ke rfl,trivial⟩) ?_)|refine ac ?_|(refine Tr.cn rfl ?_ ?_<;>intro h q)
 have BF:k=(l).length:=by have:=AR h1;omega
 subst BF
 refine a3 ?_
 · exact int_eq (F7 AJ)
theorem Xj {α:Type} {g:α→JL} {l:List α} {p:α→Bool}  :A7 prog 71 [slice 5 (l.map fun x=>Fu (g x)),Oq prog (fun x:α=>[agg (Fu (g x))]) (fun x=>bool (p x))] (bool (l.any p)):=by
 refine fo func71 rfl ⟨rfl,rfl⟩ fun M0 w0=> ?_
 refine a2 ?_
 refine co rfl (EB (Xi) rfl rfl rfl) ?_
 refine a2 ?_
 · exact bool_eq (Jf p l)
theorem Pb {l:List JL} (h:∀x∈l,x.name.length≤maxLen):∃m:List {x:JL//x.name.length≤maxLen},(m.map fun x=>Fu x.1)=l.map Fu∧(m.any fun x=> !FD x.1)= !l.all FD:=by
 refine ⟨l.attach.map fun x=>⟨x.1,h x.1 x.2⟩,?_,?_⟩
 · rw [List.map_map];exact List.attach_map_val (f:=Fu) ▸ rfl
 ·
  rw [←Q1,List.any_map]
  show (l.attach.any fun x=> !FD x.1)=_
  rw [Bool.eq_iff_iff];simp
theorem Ur {e:IL} (hf:e.fits):A7 prog 45 [agg (L1 e)] (int (if Kt e then 0 else 31)):=by
 refine fo func45 rfl ⟨rfl,rfl⟩ fun M0 w0=> ?_
 have hl1:=hf.le
 have lC:=hf.lg
 have hl3:=hf.li
 obtain ⟨mi,pJ,ZP⟩:=Pb hf.items
 refine ac ?_
 refine ac ?_
 refine Tr.block (Tr.BK [(1,_),(7,_),(8,_)] (LK rfl) (fun k:Nat=>[(9,int ((k:Nat):Int))]) (fun k:Nat=>k≤(e.EK).length∧(∀j,j<k→N2 e.EK j=true)) (fun k:Nat=>(e.EK).length-k) 0 (⟨Nat.zero_le _,fun j hj=>absurd hj (by omega)⟩) ⟨ke rfl,trivial⟩ ?_)
 rintro k ⟨BO,AJ⟩
 refine ac ?_
 refine Tr.seq ?_
 refine Tr.cn rfl ?_ ?_<;>intro h1 q1
 have Ad:k<(e.EK).length:=AQ h1
 obtain ⟨x,Ac⟩:=at_ Ad
 have hg:=getD_at (d:=Kl) Ac
 have om:=hf.EK x (List.mem_of_getElem? Ac)
 refine ac ?_
 refine ao ?_
 refine tp rfl (AA rfl underlying27 Hj (vl rfl) (vl rfl) (by omega) (Ah Ac)) (tp rfl (AM rfl NZ Hj (vl rfl) rfl rfl) ?_)
 refine Tl rfl rfl rfl rfl Zj Wd (fun b1=> ?_)
 refine tm rfl ?_
 refine sf 0 4 ⟨rfl,rfl,rfl⟩ rfl rfl rfl rfl ?_
 refine ao ?_
 refine ac ?_
 refine co rfl (Ca (UY om.1) rfl rfl) ?_
 refine ac ?_
 refine Ch.cs 17 rfl ?_ ?_<;>intro h2 q2
 refine ac ?_
 refine JD 1 7 8 9 32 rfl ?_
 refine ac ?_
 refine ac ?_
 · refine int_eq (if_neg (fun hv=> ?_)).symm;have ok:=Fc.1 hv;(have h_:=ok.ep k (by omega);unfold N2 at h_;rw [hg] at h_;simp_all)
 refine ac ?_
 refine Ch.cs 20 rfl ?_ ?_<;>intro h3 q3
 have hk0:0<k:=by simpa using h3
 obtain ⟨y,hy⟩:=at_ (l:=e.EK) (k:=k-1) (by omega)
 have Oo:=getD_at (d:=Kl) hy
 refine ac ?_
 refine cy h3 rfl (AA rfl underlying27 Hj (vl rfl) (vl rfl) (by omega) (by rw [show ((k:Nat):Int)-1=((k-1:Nat):Int) by omega];exact Ah hy)) ?_
 refine ac ?_
 refine cy h3 rfl (Mh rfl (vl rfl) (vl rfl)) ?_
 refine ac ?_
 refine JD 1 7 8 9 32 rfl ?_
 refine Tr.cn rfl ?_ ?_<;>intro h4 q4
 refine ac ?_
 refine ac ?_
 · refine int_eq (if_neg (fun hv=> ?_)).symm;have ok:=Fc.1 hv;(have h_:=ok.ep k (by omega);unfold N2 at h_;rw [hg,Oo] at h_;simp_all)
 refine ac ?_
 refine ac ?_
 exact Fin.AP (k+1) ⟨⟨Ad,B4 AJ (by unfold N2;rw [hg,Oo];simp_all)⟩,by omega⟩ ⟨⟨_,rfl,AF k⟩,ke rfl,ke rfl,ke rfl,trivial⟩
 have SM:¬0<k:=by simpa using h3
 refine ac ?_
 refine JD 1 7 8 9 32 rfl ?_
 refine ac ?_
 refine ac ?_
 exact Fin.AP (k+1) ⟨⟨Ad,B4 AJ (by unfold N2;rw [hg];simp_all)⟩,by omega⟩ ⟨⟨_,rfl,AF k⟩,ke rfl,ke rfl,ke rfl,trivial⟩
 have BF:k=(e.EK).length:=by have:=AR h1;omega
 subst BF
 have pK:=AJ
 refine ac ?_
 refine ac ?_
 refine co rfl (Ag rfl (Xj (g:=fun x:{x:JL//x.name.length≤maxLen}=>x.1) (l:=mi) (p:=fun x=> !FD x.1)) ⟨⟨_,rfl,Pr.le_of_eq (by rw [pJ])⟩,⟨_,rfl,Bt (dom:=fun x:{x:JL//x.name.length≤maxLen}=>[agg (Fu x.1)]) (res:=fun x=>bool (!FD x.1)) a_ (fun x=>az x.2)⟩,trivial⟩) ?_
 refine ac ?_
 refine ac ?_
 refine Ch.cs 38 rfl ?_ ?_<;>intro h5 q5
 refine ac ?_
 refine Fl 58 rfl ?_
 refine ac ?_
 refine ac ?_
 · refine int_eq (if_neg (fun hv=> ?_)).symm;have ok:=Fc.1 hv;(have o1:=ok.i7;have o2:=ok.dh;have o3:=ok.i9;have o4:=ok.it;have o5:=GY ok;simp_all)
 refine ac ?_
 refine Ch.cs 44 rfl ?_ ?_<;>intro h6 q6
 refine ac ?_
 refine Fl 58 rfl ?_
 refine ac ?_
 refine ac ?_
 · refine int_eq (if_neg (fun hv=> ?_)).symm;have ok:=Fc.1 hv;(have o1:=ok.i7;have o2:=ok.dh;have o3:=ok.i9;have o4:=ok.it;have o5:=GY ok;omega)
 refine ac ?_
 refine Ch.cs 50 rfl ?_ ?_<;>intro h7 q7
 refine ac ?_
 refine Fl 58 rfl ?_
 refine ac ?_
 refine ac ?_
 · refine int_eq (if_neg (fun hv=> ?_)).symm;have ok:=Fc.1 hv;(have o1:=ok.i7;have o2:=ok.dh;have o3:=ok.i9;have o4:=ok.it;have o5:=GY ok;omega)
 refine ac ?_
 refine cy h7 rfl (EB (Uq (l:=e.Fv) (n:=e.EK.length)) rfl rfl rfl) ?_
 refine ac ?_
 refine Fl 58 rfl ?_
 refine Tr.cn rfl ?_ ?_<;>intro h8 q8
 refine ac ?_
 refine ac ?_
 · refine int_eq (if_neg (fun hv=> ?_)).symm;have ok:=Fc.1 hv;(have o1:=ok.i7;have o2:=ok.dh;have o3:=ok.i9;have o4:=ok.it;have o5:=GY ok;simp_all)
 refine ac ?_
 refine ac ?_
 refine ac ?_
 · refine int_eq (if_pos ?_).symm;unfold Kt;simp_all [Ct];omega
def dj:List (Int×Int):=[(2,0),(1,0),(5,2048),(16,128),(3,0),(15,168)]
def RB (v:Int):Int×Int:=dj[v.toNat]?.getD (2,0)
theorem i_ {v:Int} (h:0≤v∧v<6):(dj.map fun u=>[int u.1,int u.2])[v.toNat]? =some [int (RB v).1,int (RB v).2]:=by
 have hl:v.toNat<dj.length:=by show v.toNat<6;omega
 unfold RB;rw [List.getElem?_map,List.getElem?_eq_getElem hl];rfl
theorem bA:∀u∈dj,BD u.1 u.2>0:=by decide+kernel
theorem Y3 (v:Int):BD (RB v).1 (RB v).2>0:=by
 unfold RB
 cases h:dj[v.toNat]? with
 |none=>decide+kernel
 |some u=>exact bA u (List.mem_of_getElem? h)
def HF:Nat→DS→Int→List N1→List N1×Int×DS
 |0,s,day,l=>(l,day,s)
 |k+1,s,day,l=>HF k s.BN.BN (day+1+s.BN.of [5,30,0,100]) (l++[⟨(RB (s.val 6)).1,(RB (s.val 6)).2,day⟩])
abbrev Ci (s:DS):List N1×Int×DS:=HF (1+s.BN.BN.BN.val 3).toNat s.BN.BN.BN.BN (s.BN.BN.val 20) []
def L2 (s:DS) (name:List UInt8):JL:=⟨name,1+s.val 2,1+s.BN.val 4,(Ci s).1,((Ci s).1[0]?.getD Dm).day+(Ci s).2.2.of [50,300,0,3000]⟩
def jA (s:DS):DS:=(Ci s).2.2.BN
structure SV (l:List N1) (day:Int):Prop where
 lo:0≤day
 hi:day≤20+101*(l.length:Nat)
 at_:∀j,j<l.length→Dw l j=true
 lt:∀x∈l,x.day<day
theorem N3 {l:List N1} {day d:Int} {u:Int×Int} (h:SV l day) (h3:l.length≤3) (hu:BD u.1 u.2>0) (hd:0≤d∧d≤100):SV (l++[⟨u.1,u.2,day⟩]) (day+1+d):=by
 have h0:=h.lo;have h1:=h.hi
 refine ⟨by omega,by rw [List.length_append];simp;omega,fun j hj=> ?_,fun x hx=> ?_⟩
 ·
  rw [List.length_append] at hj;simp at hj
  rcases Nat.lt_or_ge j l.length with hl|hl
  ·
   have:=h.at_ j hl
   unfold Dw at this ⊢
   rw [List.getElem?_append_left hl,List.getElem?_append_left (show j-1<l.length by omega)];exact this
  ·
   have:j=l.length:=by omega
   subst this
   unfold Dw
   rw [List.getElem?_append_right (Nat.le_refl _),Nat.sub_self]
   rcases Nat.eq_zero_or_pos l.length with hz|hz
   ·
    obtain rfl:=List.eq_nil_of_length_eq_zero hz
    simp [hu];simp at h1;omega
   ·
    obtain ⟨y,hy⟩:=at_ (l:=l) (k:=l.length-1) (by omega)
    rw [List.getElem?_append_left (show l.length-1<l.length by omega),hy]
    have:=h.lt y (List.mem_of_getElem? hy)
    simp [hu];omega
 ·
  rcases List.mem_append.1 hx with hx|hx
  · have:=h.lt x hx;omega
  · simp at hx;subst hx;show day<_;omega
theorem Pc (s:DS):0≤s.of [5,30,0,100]∧s.of [5,30,0,100]≤100:=by have:=s.G2 (l:=[5,30,0,100]) (by simp);simp at this;omega
theorem Us (s:DS):0≤s.of [50,300,0,3000]∧s.of [50,300,0,3000]≤3000:=by have:=s.G2 (l:=[50,300,0,3000]) (by simp);simp at this;omega
theorem L3:∀(k:Nat) (s:DS) (day:Int) (l:List N1),SV l day→l.length+k≤3→SV (HF k s day l).1 (HF k s day l).2.1∧(HF k s day l).1.length=l.length+k
 |0,s,day,l,h,_=>⟨h,rfl⟩
 |k+1,s,day,l,h,hk=>by
  have:=L3 k s.BN.BN (day+1+s.BN.of [5,30,0,100]) (l++[⟨(RB (s.val 6)).1,(RB (s.val 6)).2,day⟩]) (N3 h (by omega) (Y3 _) (Pc _)) (by simp;omega)
  refine ⟨this.1,?_⟩
  show (HF k _ _ _).1.length=_
  rw [this.2];simp;omega
structure Pf (x:JL):Prop where
 ok:FD x=true
 name:x.name.length≤32
 links:x.links.length≤3
theorem RC {s:DS} {name:List UInt8} (hn:named name=true):Pf (L2 s name):=by
 have h2:=s.Ba (n:=2) (by omega)
 have h4:=s.BN.Ba (n:=4) (by omega)
 have aZ:=s.BN.BN.Ba (n:=20) (by omega)
 have h3:=s.BN.BN.BN.Ba (n:=3) (by omega)
 have hI:SV [] (s.BN.BN.val 20):=⟨by omega,by simp;omega,fun j hj=>by simp at hj,fun x hx=>by simp at hx⟩
 obtain ⟨hL,hl⟩:=L3 (1+s.BN.BN.BN.val 3).toNat s.BN.BN.BN.BN (s.BN.BN.val 20) [] hI (by simp;omega)
 simp only [List.length_nil,Nat.zero_add] at hl
 have hlen:(Ci s).1.length=(1+s.BN.BN.BN.val 3).toNat:=hl
 have hu:=Us (Ci s).2.2
 obtain ⟨c,hc⟩:=at_ (l:=(Ci s).1) (k:=0) (by omega)
 have hg:=getD_at (d:=Dm) hc
 have hc1:=hL.lt c (List.mem_of_getElem? hc)
 have hc2:=hL.hi
 refine ⟨B9.2 ⟨hn,?_,?_,?_,?_,?_,hL.at_,?_,?_⟩,GX hn,?_⟩
 · show 1+s.val 2=1∨1+s.val 2=2;omega
 · show 1≤1+s.BN.val 4;omega
 · show 1+s.BN.val 4≤4;omega
 · show 1≤(Ci s).1.length;omega
 · show (Ci s).1.length≤8;omega
 · show ((Ci s).1[0]?.getD Dm).day≤((Ci s).1[0]?.getD Dm).day+_;omega
 · show ((Ci s).1[0]?.getD Dm).day+_≤40000;rw [hg];omega
 · show (Ci s).1.length≤3;omega
theorem RD {b:Nat} {s:DS} {name:List UInt8}  :A9 prog 25 [ptr b 0,str name] (agg (Fu (L2 s name))) (Bx b s) (fun _=>Bx b (jA s)):=by
 refine A9.of func25 rfl rfl (by exact Nb rfl) fun M0 w0 S rs M1 w1=> ?_
 have S0:=s.Ba (n:=2) (by omega)
 have hv4:=s.BN.Ba (n:=4) (by omega)
 have qd:=s.BN.BN.Ba (n:=20) (by omega)
 have hv3:=s.BN.BN.BN.Ba (n:=3) (by omega)
 refine Tr.seq (Tr.Az ?_)
 refine Tl rfl rfl rfl rfl cY Zq (fun b1=> ?_)
 refine ao ?_
 refine ao ?_
 refine TO.E8 1 rfl rfl (by decide) (AY rfl rfl (by decide) rfl (BJ (by omega) (by omega)) ⟨ke rfl,ke rfl,trivial⟩) ?_
 refine ao ?_
 refine TO.E8 1 rfl rfl (by decide) (AY rfl rfl (by decide) rfl (BJ (by omega) (by omega)) ⟨ke rfl,ke rfl,trivial⟩) ?_
 refine ao ?_
 refine Tl rfl rfl rfl rfl cY Zq (fun b2=> ?_)
 refine TO.At 0 rfl rfl rfl (vl rfl) (Va rfl) rfl LN rfl rfl ?_
 refine ao ?_
 refine ao ?_
 refine TO.E8 2 rfl rfl (by decide) (AY rfl rfl (by decide) rfl (BJ (by omega) (by omega)) ⟨ke rfl,ke rfl,trivial⟩) ?_
 refine ao ?_
 refine FO 0 4 5 6 rfl ?_
 refine ao ?_
 refine TO.E8 2 rfl rfl (by decide) (AY rfl rfl (by decide) rfl (BJ (by omega) (by omega)) ⟨ke rfl,ke rfl,trivial⟩) ?_
 refine ao ?_
 refine Tr.block (Tr.HO 0 [str name,int (1+s.val 2),int (1+s.BN.val 4),AZ (.slice none 0 0) (Up []),is (.int .i64 0)] rfl ⟨Lr,Lr,Lr,CR rfl,Lr,trivial⟩ (Tr.Cs 112 3 ?_))
 refine Tr.NS [(0,_),(4,_),(5,_)] ⟨ke rfl,ke rfl,ke rfl,trivial⟩ (fun (k:Int) (day:Int) (l:List N1) (s2:DS) v=>[(7,int k),(6,int day)]) (fun (k:Int) (day:Int) (l:List N1) (s2:DS) v=>Hp M0 w0 S (As 112 3 v::AB true b2 81 [str name,int (1+s.val 2),int (1+s.BN.val 4),AZ v (Up l),is (.int .i64 0)]::AB true b1 81 (([.string (ByteArray.mk #[]),.int .i64 0,.int .i64 0,.slice none 0 0,.int .i64 0]:List Value).map is)::Bx b s2::AX M1 w1::rs)) (fun (k:Int) (day:Int) (l:List N1) (s2:DS)=>(0≤k∧k+l.length≤3∧1≤k+l.length∧SV l day)∧HF k.toNat s2 day l=Ci s) (fun (k:Int) (day:Int) (l:List N1) (s2:DS)=>k.toNat) (_) (_) ([]) (_) (.slice none 0 0) (⟨⟨by omega,by simp;omega,by simp;omega,⟨by omega,by simp;omega,fun j hj=>by simp at hj,fun x hx=>by simp at hx⟩⟩,rfl⟩) ⟨ke rfl,ke rfl,trivial⟩ (fun _ _ h=>h) ?_
 rintro k day l s2 v ⟨⟨hk0,hk1,hk2,hL⟩,hR⟩
 have hL0:=hL.lo
 have hL1:=hL.hi
 have hof:=Pc s2.BN
 refine an ?_ ?_<;>intro h1 q1
 have dm:0<k:=of_decide_eq_true h1
 have hv6:=s2.Ba (n:=6) (by omega)
 refine ac ?_
 refine ao ?_
 refine TO.E8 3 rfl rfl (by decide) (AY rfl rfl (by decide) rfl (BJ (by omega) (by omega)) ⟨ke rfl,ke rfl,trivial⟩) ?_
 refine tp rfl (AA rfl underlying110 Cf (Kf rfl) (vl rfl) (by omega) (show (dj.map fun u=>[int u.1,int u.2])[_]? =_ from i_ hv6)) ?_
 refine tp rfl (AM rfl Bj Cf (vl rfl) rfl rfl) ?_
 refine Tl rfl rfl rfl rfl MZ Ex (fun b3=> ?_)
 refine sf 0 8 ⟨rfl,rfl,rfl⟩ rfl rfl rfl rfl ?_
 refine ao ?_
 refine O7 0 4 5 6 7 8 rfl ?_
 refine ao ?_
 refine TO.Es 0 rfl rfl (by decide) (Cg rfl rfl rfl rfl underlying79 KM fF Z1 (Kb rfl) (Kf rfl) (Bk (by exact List.Mem.head _) (Ka rfl))) (fun v1=> ?_)
 refine tp rfl (AO rfl Tk (vl rfl)) (TO.E3 1 rfl rfl (BI rfl rfl (vl rfl) (Vo rfl) mR rfl (by exact Nb rfl) rfl) ?_)
 refine ao ?_
 refine JD 0 4 5 6 7 rfl ?_
 refine ao ?_
 refine TO.E8 3 rfl rfl (by decide) (AY rfl rfl (by decide) rfl (Kk (l:=[5,30,0,100]) (by simp) (by simp)) ⟨ke rfl,(Kf rfl),trivial⟩) ?_
 refine ao ?_
 refine ac ?_
 refine Fin.HO 1 [str name,int (1+s.val 2),int (1+s.BN.val 4),AZ v1 (Up (l++[(⟨(RB (s2.val 6)).1,(RB (s2.val 6)).2,day⟩:N1)])),is (.int .i64 0)] rfl ⟨Lr,Lr,Lr,Ce (by rw [List.map_append];rfl),Lr,trivial⟩ ?_
 exact Fin.Ql (k-1) (_) (l++[(⟨(RB (s2.val 6)).1,(RB (s2.val 6)).2,day⟩:N1)]) (_) v1 (⟨⟨⟨by omega,by simp;omega,by simp;omega,N3 hL (by omega) (Y3 _) (Pc _)⟩,by rw [←hR,show k.toNat=(k-1).toNat+1 by omega];rfl⟩,by omega⟩) ⟨⟨_,rfl,int_eq (by omega)⟩,⟨_,rfl,int_eq (by omega)⟩,ke rfl,ke rfl,ke rfl,trivial⟩ (fun _ _ h=>h)
 have dm:¬0<k:=of_decide_eq_false h1
 obtain rfl:k=0:=by omega
 obtain ⟨c0,hc0⟩:=at_ (l:=l) (k:=0) (by omega)
 have av:=getD_at (d:=Dm) hc0
 have qg:=hL.lt c0 (List.mem_of_getElem? hc0)
 have qh:0≤c0.day:=by have h_:=hL.at_ 0 (BR hc0);unfold Dw at h_;rw [av] at h_;simp at h_;omega
 have qi:=Us s2
 have hR1:(Ci s).1=l:=by rw [←hR];rfl
 obtain rfl:s2=(Ci s).2.2:=by rw [←hR];rfl
 refine ac ?_
 refine Tr.seq (Tr.rx ?_)
 refine ay ?_
 refine xo rfl (fun _=>AA rfl underlying79 KM (Kb rfl) (vl rfl) (by omega) (Ah (k:=0) hc0)) ?_
 refine ay ?_
 refine xo rfl (fun _=>oI) ?_
 refine Cx.ef 3 rfl rfl (by decide) (AY rfl rfl (by decide) rfl (Kk (l:=[50,300,0,3000]) (by simp) (by simp)) ⟨ke rfl,(Kf rfl),trivial⟩) ?_
 refine ay ?_
 refine Cx.nil ⟨by kernel_rfl,?_⟩
 refine BH.done al5 (Fin.go (EZ 4 5 rfl ?_))
 refine ao ?_
 refine TO.At 2 rfl rfl rfl (vl rfl) (Va rfl) rfl LN rfl rfl ?_
 refine ao ?_
 refine Tr.ret (Fin.ED [_,_,_] rfl (BE.cell 2 rfl rfl Tj LN rfl (Lr)) ?_ (fun _ _ _ _=>rfl))
 · exact A_ ⟨Lr,Lr,Lr,Pr.le_trans (Aj _ _) (Pr.le_of_eq (by show _=Up (Ci s).1;rw [hR1])),int_eq (by show _=((Ci s).1[0]?.getD Dm).day+_;rw [hR1,av]),trivial⟩
structure Pg (n:Nat) (i j:Int) (l:List Ks):Prop where
 at_:∀k,k<l.length→Bf n l k=true
 lt:∀g∈l,g.client<i∨(g.client=i∧g.server<j)
theorem Pg.nil (n:Nat) (i j:Int):Pg n i j []:=⟨fun k hk=>by simp at hk,fun g hg=>by simp at hg⟩
theorem Pg.step {n:Nat} {i j:Int} {l:List Ks} (h:Pg n i j l):Pg n i (j+1) l:=⟨h.at_,fun g hg=>by have:=h.lt g hg;omega⟩
theorem Pg.row {n:Nat} {i j:Int} {l:List Ks} (h:Pg n i j l):Pg n (i+1) 0 l:=⟨h.at_,fun g hg=>by have:=h.lt g hg;omega⟩
theorem Pg.snoc {n:Nat} {i j:Int} {l:List Ks} (h:Pg n i j l) (hi:0≤i∧i<n) (hj:0≤j∧j<n) (hn:i≠j):Pg n i (j+1) (l++[⟨i,j⟩]):=by
 refine ⟨fun k hk=> ?_,fun g hg=> ?_⟩
 ·
  rw [List.length_append] at hk;simp at hk
  rcases Nat.lt_or_ge k l.length with hl|hl
  ·
   have:=h.at_ k hl
   unfold Bf at this ⊢
   rw [List.getElem?_append_left hl,List.getElem?_append_left (show k-1<l.length by omega)];exact this
  ·
   have:k=l.length:=by omega
   subst this
   unfold Bf
   rw [List.getElem?_append_right (Nat.le_refl _),Nat.sub_self]
   rcases Nat.eq_zero_or_pos l.length with hz|hz
   ·
    obtain rfl:=List.eq_nil_of_length_eq_zero hz
    simp;omega
   ·
    obtain ⟨y,hy⟩:=Cp.at_ (l:=l) (k:=l.length-1) (by omega)
    rw [List.getElem?_append_left (show l.length-1<l.length by omega),hy]
    have:=h.lt y (List.mem_of_getElem? hy)
    simp;omega
 ·
  rcases List.mem_append.1 hg with hg|hg
  · have:=h.lt g hg;omega
  · simp at hg;subst hg;right;exact ⟨rfl,by show j<j+1;omega⟩
theorem Ut:∀i,i<2→Lib.compareBytes (Db[i]?.getD []) (Db[i+1]?.getD [])= -1:=by decide+kernel
structure L4 (e:IL):Prop where
 n2:2≤e.EK.length
 n3:e.EK.length≤3
 snd:Ul e.EK
 ed:∀k,k<e.Fv.length→Bf e.EK.length e.Fv k=true
 g1:1≤e.Fv.length
 g3:e.Fv.length≤3
 it:∀x∈e.items,Pf x
 i2:e.items.length≤2
theorem L4.ok {e:IL} (h:L4 e):Kt e=true:=by
 have h3:=h.n3;have g3:=h.g3;have i2:=h.i2
 refine Fc.2 ⟨fun j hj=> ?_,by omega,h.ed,by omega,List.all_eq_true.2 fun x hx=>(h.it x hx).ok,by omega⟩
 obtain ⟨x,hx⟩:=at_ hj
 have hs:=h.snd j x hx
 unfold N2
 rw [hx,Option.getD_some,Ud.2 (Xh hs),Bool.true_and,Bool.or_eq_true,decide_eq_true_eq,decide_eq_true_eq]
 rcases Nat.eq_zero_or_pos j with hz|hz
 · exact .inl hz
 ·
  right
  obtain ⟨y,hy⟩:=at_ (l:=e.EK) (k:=j-1) (by omega)
  have S7:=h.snd _ y hy
  rw [hy,Option.getD_some]
  have:=Ut (j-1) (by omega)
  rw [S7.name,show j-1+1=j by omega,hs.name] at this
  exact this
theorem L4.fits {e:IL} (h:L4 e):e.fits:=by
 have h3:=h.n3;have g3:=h.g3;have i2:=h.i2
 refine ⟨fun x hx=> ?_,fun x hx=>by have:=(h.it x hx).name;unfold maxLen;omega,by omega,by omega,by omega⟩
 obtain ⟨i,hi⟩:=List.getElem?_of_mem hx
 exact ⟨SS (h.snd i x hi),PZ (h.snd i x hi)⟩
abbrev HG:List UInt8:=[98,97,99,107,117,112]
abbrev Ph:List UInt8:=[100,101,101,100]
theorem RE (s:DS):named (GD s [HG,Ph])=true:=by
 have h:=s.Ba (n:=2) (by omega)
 unfold GD
 have:s.val (([HG,Ph]:List (List UInt8)).length:Nat)=0∨s.val (([HG,Ph]:List (List UInt8)).length:Nat)=1:=by show s.val 2=0∨s.val 2=1;omega
 rcases this with h|h<;>rw [h]<;>decide
theorem N4 {l:List JL} {y:JL} (h:∀x∈l,Pf x) (hy:Pf y):∀x∈l++[y],Pf x:=by
 intro x hx
 rcases List.mem_append.1 hx with hx|hx
 · exact h x hx
 · simp at hx;subst hx;exact hy
theorem Uu {b:Nat} {s:DS}  :A9 prog 8 [ptr b 0] (Cp.ex fun e:IL=>fact (L4 e) (agg (L1 e))) (Bx b s) (fun _=>FP 66 b):=by
 refine A9.of func8 rfl rfl (by exact Nb rfl) fun M0 w0 S rs M1 w1=> ?_
 have S0:=s.Ba (n:=2) (by omega)
 have Tw:(Db.take (2+s.val 2).toNat).length=(2+s.val 2).toNat:=by rw [List.length_take];show min _ 3=_;omega
 refine Tr.seq (Tr.Az ?_)
 refine Tl rfl rfl rfl rfl z31 ZZ (fun b1=> ?_)
 refine TO.nil (Fin.go (Tr.seq (Tr.Az ?_)))
 refine Tl rfl rfl rfl rfl z31 ZZ (fun b2=> ?_)
 refine TO.nil (Fin.go (Tr.seq (Tr.Az (tp rfl (AG (xs:=[.const (.string ⟨[97,112,112].toArray⟩),.const (.string ⟨[100,98].toArray⟩),.const (.string ⟨[119,101,98].toArray⟩)]) (rows:=[[_],[_],[_]]) rfl rfl underlying67 MU z9 rfl (by decide) ⟨⟨(by exact rfl),(Vo rfl)⟩,⟨⟨(by exact rfl),(Vo rfl)⟩,⟨⟨(by exact rfl),(Vo rfl)⟩,trivial⟩⟩⟩ (by decide)) ?_))))
 refine tm rfl (TO.E8 2 rfl rfl (by decide) (AY rfl rfl (by decide) rfl (BJ (by omega) (by omega)) ⟨ke rfl,ke rfl,trivial⟩) ?_)
 refine tp rfl (C4 rfl (vl rfl) (vl rfl) ?hin) ?_;case hin=>unfold HS;omega
 refine tp rfl (FT rfl underlying67 MU (Kf rfl) (vl rfl) (by omega) (by simp;omega)) ?_
 refine tm rfl (TO.nil (Fin.go (Tr.seq (Tr.seq (Tr.Ai (cm rfl (co rfl (Br rfl underlying67 (vl rfl)) (cm rfl (Ch.nil (Fin.go (Tr.block ?_)))))))))))
 refine Tr.re 16 rfl (Pr.le_of_eq (by show slice 1 (List.take _ (Db.map fun t=>[str t]))=_;rw [←List.map_take]):Pr.le _ (XK (Db.take (2+s.val 2).toNat))) ?_
 refine Tr.re 17 rfl (int_eq (by simp;rfl):Pr.le _ (int (((Db.take (2+s.val 2).toNat).length:Nat):Int))) ?_
 refine Tr.HO 0 [AZ (.slice none 0 0) (slice 9 (([]:List Eg).map Cu)),is (.slice none 0 0),is (.slice none 0 0)] rfl ⟨CR rfl,Lr,Lr,trivial⟩ (Tr.Cs 74 9 (Tr.FA [(0,_),(2,_),(3,_),(4,_),(16,_),(17,_)] ⟨ke rfl,ke rfl,ke rfl,ke rfl,ke rfl,ke rfl,trivial⟩ (fun (k:Nat) (es:List Eg) (s2:DS) v=>[(18,int ((k:Nat):Int))]) (fun (k:Nat) (es:List Eg) (s2:DS) v=>Hp M0 w0 S (As 74 9 v::AB true b2 31 [AZ v (slice 9 (es.map Cu)),is (.slice none 0 0),is (.slice none 0 0)]::AB true b1 31 (([.slice none 0 0,.slice none 0 0,.slice none 0 0]:List Value).map is)::Bx b s2::AX M1 w1::rs)) (fun (k:Nat) (es:List Eg) (s2:DS)=>k≤(2+s.val 2).toNat∧es.length=k∧Ul es) (fun (k:Nat) (es:List Eg) (s2:DS)=>(2+s.val 2).toNat-k) (0) ([]) (_) (.slice none 0 0) (⟨by omega,rfl,fun i e h=>by simp at h⟩) ⟨ke rfl,trivial⟩ (fun _ _ h=>h) ?_))
 rintro k es s2 v ⟨hk1,hk2,dm⟩
 refine Tr.seq (Tr.Ai (co rfl (ki rfl rfl rfl rfl) (Ch.nil (Fin.go (Tr.seq ?_)))))
 refine Tr.cn rfl ?_ ?_<;>intro h1 q1
 have hkn:k<(2+s.val 2).toNat:=by have:=C5.Di h1;rw [Tw] at this;omega
 obtain ⟨nm,hnm⟩:=at_ (l:=Db.take (2+s.val 2).toNat) (k:=k) (by omega)
 have Ir:Db[k]? =some nm:=Um hnm
 have j6:=Un (s2.BN.val 3)
 have qj:k<3:=BR Ir
 have hvs:=s2.BN.Ba (n:=3) (by omega)
 have hof:=aq s2
 refine Tr.skip (Fin.go (Tr.seq (Tr.block (Tr.seq (Tr.Ai (cm rfl (co rfl (AA rfl underlying67 MU (vl rfl) (vl rfl) (by omega) (Ah hnm)) (co rfl (G0 rfl NW rfl) (cm rfl (cm rfl (Ch.nil (Fin.go (Tr.seq (Tr.pad ?_))))))))))))))
 refine Tr.JU mixed [none,none,none,some (0,4,true,0),none,none,none,none,none,some (0,4,true,0),none,none,none,some (0,4,true,0),none,none,none,some (0,4,true,0),none,some (0,0,true,7),some (7,0,true,7)] (by kernel_rfl) (xm rfl (xm rfl (xo rfl (fun _=>AG (xs:=[.const (.int .i64 (3)),.const (.int .i64 (3)),.const (.int .i64 (4))]) (rows:=[[_],[_],[_]]) rfl rfl underlying22 C8 z3 rfl (by decide) ⟨⟨(by exact rfl),(Vo rfl)⟩,⟨⟨(by exact rfl),(Vo rfl)⟩,⟨⟨(by exact rfl),(Vo rfl)⟩,trivial⟩⟩⟩ (by decide)) ?_)))
 refine Cx.ef 4 rfl rfl (by decide) (AY rfl rfl (by decide) rfl (Kk (l:=[3,3,4]) (by simp) (by simp)) ⟨ke rfl,(Kf rfl),trivial⟩) ?_
 refine xo rfl (fun _=>AG (xs:=[.const (.int .i64 (10)),.const (.int .i64 (8)),.const (.int .i64 (2))]) (rows:=[[_],[_],[_]]) rfl rfl underlying22 C8 z3 rfl (by decide) ⟨⟨(by exact rfl),(Vo rfl)⟩,⟨⟨(by exact rfl),(Vo rfl)⟩,⟨⟨(by exact rfl),(Vo rfl)⟩,trivial⟩⟩⟩ (by decide)) ?_
 refine xo rfl (fun _=>AG (xs:=[.const (.int .i64 (8)),.const (.int .i64 (2))]) (rows:=[[_],[_]]) rfl rfl underlying22 C8 z3 rfl (by decide) ⟨⟨(by exact rfl),(Vo rfl)⟩,⟨⟨(by exact rfl),(Vo rfl)⟩,trivial⟩⟩ (by decide)) ?_
 refine xo rfl (fun _=>AG (xs:=[.const (.int .i64 (2)),.const (.int .i64 (10)),.const (.int .i64 (8)),.const (.int .i64 (3))]) (rows:=[[_],[_],[_],[_]]) rfl rfl underlying22 C8 z3 rfl (by decide) ⟨⟨(by exact rfl),(Vo rfl)⟩,⟨⟨(by exact rfl),(Vo rfl)⟩,⟨⟨(by exact rfl),(Vo rfl)⟩,⟨⟨(by exact rfl),(Vo rfl)⟩,trivial⟩⟩⟩⟩ (by decide)) ?_
 refine xo rfl (fun _=>AG (xs:=[.tmp 27,.tmp 28,.tmp 29]) (rows:=[[_],[_],[_]]) rfl rfl underlying70 Ru z22 rfl (by decide) ⟨⟨(by exact rfl),⟨_,rfl,Pr.le_trans (Al _ _) (AD _)⟩⟩,⟨⟨(by exact rfl),⟨_,rfl,Pr.le_trans (Al _ _) (AD _)⟩⟩,⟨⟨(by exact rfl),⟨_,rfl,Pr.le_trans (Al _ _) (AD _)⟩⟩,trivial⟩⟩⟩ (by decide)) ?_
 refine xm rfl (Cx.ef 4 rfl rfl (by decide) (AY rfl rfl (by decide) rfl (BJ (by omega) (by omega)) ⟨ke rfl,ke rfl,trivial⟩) ?_)
 refine xo rfl (fun _=>AA rfl underlying70 Ru (Kf rfl) (vl rfl) (by omega) (show (JY.map fun l=>[ints l])[_]? =_ from Xe hvs)) ?_
 refine xo rfl (fun _=>G0 rfl Ee rfl) (xm rfl (Cx.ef 4 rfl rfl (by decide) (AY rfl rfl (by decide) rfl (Ua (by omega) (by omega)) ⟨ke rfl,ke rfl,trivial⟩) (xo rfl (fun _=>AG (xs:=[.const (.int .i64 (1))]) (rows:=[[_]]) rfl rfl underlying22 C8 z3 rfl (by decide) ⟨⟨(by exact rfl),(Vo rfl)⟩,trivial⟩ (by decide)) ?_)))
 refine xo rfl (fun _=>AG (xs:=[.const (.int .i64 (2)),.const (.int .i64 (3))]) (rows:=[[_],[_]]) rfl rfl underlying22 C8 z3 rfl (by decide) ⟨⟨(by exact rfl),(Vo rfl)⟩,⟨⟨(by exact rfl),(Vo rfl)⟩,trivial⟩⟩ (by decide)) ?_
 refine xm rfl (Cx.ef 4 rfl rfl (by decide) (AY rfl rfl (by decide) rfl (Ua (by omega) (by omega)) ⟨ke rfl,ke rfl,trivial⟩) (xo rfl (fun _=>Ab (rows:=[(0,[_]),(1,[_]),(2,[_]),(3,[_]),(4,[_]),(6,[_]),(7,[_]),(8,[_])]) rfl mP Wd ⟨⟨rfl,(Vo rfl)⟩,⟨⟨rfl,(Vo rfl)⟩,⟨⟨rfl,(Vo rfl)⟩,⟨⟨rfl,(Vo rfl)⟩,⟨⟨rfl,(Vo rfl)⟩,⟨⟨rfl,⟨_,rfl,Pr.le_trans (Al _ _) (AD _)⟩⟩,⟨⟨rfl,⟨_,rfl,Pr.le_trans (Al _ _) (AD _)⟩⟩,⟨⟨rfl,(Vo rfl)⟩,trivial⟩⟩⟩⟩⟩⟩⟩⟩ rfl) (Cx.ef 0 rfl rfl (by decide) (Il rfl rfl (by decide) rfl Zj Wd) (Cx.E3 0 rfl rfl (Im rfl rfl rfl rfl (Va rfl) Hj rfl rfl) ?_))))
 refine Cx.nil ⟨rfl,?_⟩
 refine BH.open_ 0 7 rfl rfl (fun v1=> ?_)
 refine BH.done (A0.cons (A0.cons (A0.cons (A0.cons (A0.cons (A0.cons (A0.map _))))))) (Fin.Rt 7 0 _ rfl rfl (fun _=>rfl) (fun b3=> ?_))
 refine Fin.go (NO 0 2 3 4 5 6 7 16 17 18 rfl (Tr.seq (Tr.seq (Tr.HO 0 [str nm,int 1,int (s2.of [3,3,4]),ints (HE (s2.BN.val 3)),bool (s2.BN.BN.val 2==2-1),is (.slice none 0 0),ints [1],ints [2,3],bool (s2.BN.BN.BN.val 3==3-1)] rfl ⟨Lr,Lr,Lr,Lr,Lr,Lr,Lr,Lr,Lr,trivial⟩ (Tr.Ai (co rfl (AO rfl PC (vl rfl)) (co rfl (CH 0 rfl (Aq rfl C6 (vl rfl) rfl)) (co rfl (ki rfl rfl rfl rfl) (Ch.nil (Fin.go ?_))))))))))
 refine Tr.cn rfl ?_ ?_<;>intro h2 q2
 refine Tr.Az (tp rfl (AG (xs:=[.const (.int .i64 (14))]) (rows:=[[_]]) rfl rfl underlying22 C8 z3 rfl (by decide) ⟨⟨(by exact rfl),(Vo rfl)⟩,trivial⟩ (by decide)) ?_)
 refine tp rfl (AO rfl KI (vl rfl)) (TO.rd 0 rfl rfl rfl (by decide) (Aq rfl Ee (vl rfl) rfl) (TO.pad ?_))
 refine TO.Es 0 rfl rfl (by decide) (Cg rfl rfl rfl rfl underlying22 C8 V9 z3 (Kf rfl) (vl rfl) (BV (by exact List.Mem.head _) (vl rfl))) (fun v2=> ?_)
 refine tp rfl (AO rfl KI (vl rfl)) (TO.E3 1 rfl rfl (BI rfl rfl (vl rfl) (Vo rfl) Ru rfl (by exact Nb rfl) rfl) (TO.nil (Fin.go (NO 0 2 3 4 5 6 7 16 17 18 rfl (Tr.seq (Tr.Az (tm rfl (tp rfl (Ag rfl (Y1) trivial) (tm rfl ?_)))))))))
 refine tp rfl (C4 rfl (vl rfl) (vl rfl) ?hin) ?_;case hin=>unfold HS;omega
 refine tp rfl (Ag rfl (PY (name:=nm) (a:=5) (b:=2048) (id:=100+(k:Nat)) (to:=901) (key:=1) (Mu Ir (by omega) (by omega)) (Lz (by omega)) (by omega)) ⟨ke rfl,ke rfl,ke rfl,ke rfl,ke rfl,trivial⟩) ?_
 refine TO.ex 54 rfl (fun Uv=>TO.fact 54 rfl fun bB=> ?_)
 refine tp rfl (AG (xs:=[.tmp 54]) (rows:=[_]) rfl rfl underlying72 NY eo rfl (by decide) ⟨⟨(by exact rfl),(Va rfl)⟩,trivial⟩ (by decide)) ?_
 refine tp rfl (AO rfl Mb (vl rfl)) (TO.E3 1 rfl rfl (BI rfl rfl (vl rfl) (Vo rfl) ez rfl (by exact Nb rfl) rfl) (TO.nil (Fin.go (Rs 0 2 3 4 7 16 17 18 rfl (Tr.Az (tp rfl (AO rfl G4 (vl rfl)) (TO.rd 3 rfl rfl rfl (by decide) (Aq rfl NX (vl rfl) rfl) (TO.rd 1 rfl rfl rfl (by decide) (CX rfl NZ Hj (vl rfl) rfl rfl) (tp rfl (AG (xs:=[.tmp 59]) (rows:=[Cu (⟨nm,1,s2.of [3,3,4],14::HE (s2.BN.val 3),(s2.BN.BN.val 2==2-1),[Ej nm 5 2048 (100+(k:Nat)) 901 1 Uv],[1],[2,3],(s2.BN.BN.BN.val 3==3-1)⟩:Eg)]) rfl rfl underlying27 Hj Zj rfl (by decide) ⟨⟨(by exact rfl),VL.le (vl rfl) (Pr.le_trans (A_ (qs:=Cu (⟨nm,1,s2.of [3,3,4],14::HE (s2.BN.val 3),(s2.BN.BN.val 2==2-1),[Ej nm 5 2048 (100+(k:Nat)) 901 1 Uv],[1],[2,3],(s2.BN.BN.BN.val 3==3-1)⟩:Eg)) ⟨Lr,Lr,Lr,Pr.le_trans (Aj _ _) (Pr.le_of_eq rfl),Lr,Al _ _,Lr,Lr,Lr,trivial⟩) (AV _))⟩,trivial⟩ (by decide)) ?_)))))))))
 refine TO.Es 2 rfl rfl (by decide) (Cg rfl rfl rfl rfl underlying27 Hj e7 Zj (Kb rfl) (Kf rfl) (Bk (by exact List.Mem.head _) (Ka rfl))) (fun v3=> ?_)
 refine tp rfl (AO rfl G4 (vl rfl)) (TO.E3 3 rfl rfl (BI rfl rfl (vl rfl) (Vo rfl) eW rfl (by exact Nb rfl) rfl) (TO.nil (Fin.block (Fin.go (Tr.drop 1 (S1 0 2 3 4 16 17 18 rfl (Tr.Ai (O5 rfl rfl rfl rfl (by omega) (cm rfl (Ch.nil ?_))))))))))
 refine Fin.HO 2 [AZ v3 (slice 9 ((es++[(⟨nm,1,s2.of [3,3,4],14::HE (s2.BN.val 3),(s2.BN.BN.val 2==2-1),[Ej nm 5 2048 (100+(k:Nat)) 901 1 Uv],[1],[2,3],(s2.BN.BN.BN.val 3==3-1)⟩:Eg)]).map Cu)),is (.slice none 0 0),is (.slice none 0 0)] rfl ⟨Ce (by rw [List.map_append];rfl),Lr,Lr,trivial⟩ ?_
 refine Fin.drop 0 ?_
 exact Fin.DI (k+1) (es++[(⟨nm,1,s2.of [3,3,4],14::HE (s2.BN.val 3),(s2.BN.BN.val 2==2-1),[Ej nm 5 2048 (100+(k:Nat)) 901 1 Uv],[1],[2,3],(s2.BN.BN.BN.val 3==3-1)⟩:Eg)]) (_) v3 (⟨⟨by omega,by rw [List.length_append,hk2];rfl,N0 dm ⟨by rw [hk2];exact Ir,rfl,hof,.inr ⟨_,Nz hvs,rfl⟩,⟨Uv,bB,by rw [hk2]⟩,rfl,rfl⟩⟩,by omega⟩) ⟨⟨_,rfl,AF k⟩,ke rfl,ke rfl,ke rfl,ke rfl,ke rfl,ke rfl,trivial⟩ (fun _ _ h=>h)
 refine Tr.skip (Fin.go (Tr.seq (Tr.Az (tm rfl (tp rfl (Ag rfl (Y1) trivial) (tm rfl ?_))))))
 refine tp rfl (C4 rfl (vl rfl) (vl rfl) ?hin) ?_;case hin=>unfold HS;omega
 refine tp rfl (Ag rfl (PY (name:=nm) (a:=5) (b:=2048) (id:=100+(k:Nat)) (to:=901) (key:=1) (Mu Ir (by omega) (by omega)) (Lz (by omega)) (by omega)) ⟨ke rfl,ke rfl,ke rfl,ke rfl,ke rfl,trivial⟩) ?_
 refine TO.ex 54 rfl (fun Uv=>TO.fact 54 rfl fun bB=> ?_)
 refine tp rfl (AG (xs:=[.tmp 54]) (rows:=[_]) rfl rfl underlying72 NY eo rfl (by decide) ⟨⟨(by exact rfl),(Va rfl)⟩,trivial⟩ (by decide)) ?_
 refine tp rfl (AO rfl Mb (vl rfl)) (TO.E3 0 rfl rfl (BI rfl rfl (vl rfl) (Vo rfl) ez rfl (by exact Nb rfl) rfl) (TO.nil (Fin.go (Rs 0 2 3 4 7 16 17 18 rfl (Tr.Az (tp rfl (AO rfl G4 (vl rfl)) (TO.rd 2 rfl rfl rfl (by decide) (Aq rfl NX (vl rfl) rfl) (TO.rd 0 rfl rfl rfl (by decide) (CX rfl NZ Hj (vl rfl) rfl rfl) (tp rfl (AG (xs:=[.tmp 59]) (rows:=[Cu (⟨nm,1,s2.of [3,3,4],HE (s2.BN.val 3),(s2.BN.BN.val 2==2-1),[Ej nm 5 2048 (100+(k:Nat)) 901 1 Uv],[1],[2,3],(s2.BN.BN.BN.val 3==3-1)⟩:Eg)]) rfl rfl underlying27 Hj Zj rfl (by decide) ⟨⟨(by exact rfl),VL.le (vl rfl) (Pr.le_trans (A_ (qs:=Cu (⟨nm,1,s2.of [3,3,4],HE (s2.BN.val 3),(s2.BN.BN.val 2==2-1),[Ej nm 5 2048 (100+(k:Nat)) 901 1 Uv],[1],[2,3],(s2.BN.BN.BN.val 3==3-1)⟩:Eg)) ⟨Lr,Lr,Lr,Lr,Lr,Al _ _,Lr,Lr,Lr,trivial⟩) (AV _))⟩,trivial⟩ (by decide)) ?_)))))))))
 refine TO.Es 1 rfl rfl (by decide) (Cg rfl rfl rfl rfl underlying27 Hj e7 Zj (Kb rfl) (Kf rfl) (Bk (by exact List.Mem.head _) (Ka rfl))) (fun v4=> ?_)
 refine tp rfl (AO rfl G4 (vl rfl)) (TO.E3 2 rfl rfl (BI rfl rfl (vl rfl) (Vo rfl) eW rfl (by exact Nb rfl) rfl) (TO.nil (Fin.block (Fin.go (Tr.drop 0 (S1 0 2 3 4 16 17 18 rfl (Tr.Ai (O5 rfl rfl rfl rfl (by omega) (cm rfl (Ch.nil ?_))))))))))
 refine Fin.HO 1 [AZ v4 (slice 9 ((es++[(⟨nm,1,s2.of [3,3,4],HE (s2.BN.val 3),(s2.BN.BN.val 2==2-1),[Ej nm 5 2048 (100+(k:Nat)) 901 1 Uv],[1],[2,3],(s2.BN.BN.BN.val 3==3-1)⟩:Eg)]).map Cu)),is (.slice none 0 0),is (.slice none 0 0)] rfl ⟨Ce (by rw [List.map_append];rfl),Lr,Lr,trivial⟩ ?_
 exact Fin.DI (k+1) (es++[(⟨nm,1,s2.of [3,3,4],HE (s2.BN.val 3),(s2.BN.BN.val 2==2-1),[Ej nm 5 2048 (100+(k:Nat)) 901 1 Uv],[1],[2,3],(s2.BN.BN.BN.val 3==3-1)⟩:Eg)]) (_) v4 (⟨⟨by omega,by rw [List.length_append,hk2];rfl,N0 dm ⟨by rw [hk2];exact Ir,rfl,hof,.inl (Nz hvs),⟨Uv,bB,by rw [hk2]⟩,rfl,rfl⟩⟩,by omega⟩) ⟨⟨_,rfl,AF k⟩,ke rfl,ke rfl,ke rfl,ke rfl,ke rfl,ke rfl,trivial⟩ (fun _ _ h=>h)
 have ou:k=(2+s.val 2).toNat:=by have:=C5.Di h1;rw [Tw] at this;omega
 refine Tr.exit (Fin.AU (Fin.AU (Fin.Am (Fin.go (Tr.seq (Tr.seq (Tr.HO 1 [slice 9 (es.map Cu),is (.slice none 0 0),is (.slice none 0 0)] rfl ⟨Aj _ _,Lr,Lr,trivial⟩ (Tr.drop 0 (Tr.Ai (cm rfl (co rfl (Br rfl underlying67 (vl rfl)) (cm rfl (Ch.nil (Fin.go ?_))))))))))))))
 refine Tr.block ?_
 refine Tr.re 65 rfl (int_eq (by simp;rfl):Pr.le _ (int (((Db.take (2+s.val 2).toNat).length:Nat):Int))) ?_
 refine Tr.HO 0 [slice 9 (es.map Cu),AZ (.slice none 0 0) (Hy []),is (.slice none 0 0)] rfl ⟨Lr,CR rfl,Lr,trivial⟩ (Tr.Cs 78 2 (Tr.FA [(0,_),(2,_),(3,_),(4,_),(65,_)] ⟨ke rfl,ke rfl,ke rfl,ke rfl,ke rfl,trivial⟩ (fun (i:Nat) (gs:List Ks) (s3:DS) w=>[(66,int ((i:Nat):Int))]) (fun (i:Nat) (gs:List Ks) (s3:DS) w=>Hp M0 w0 S (As 78 2 w::AB true b2 31 [slice 9 (es.map Cu),AZ w (Hy gs),is (.slice none 0 0)]::AB true b1 31 (([.slice none 0 0,.slice none 0 0,.slice none 0 0]:List Value).map is)::Bx b s3::AX M1 w1::rs)) (fun (i:Nat) (gs:List Ks) (s3:DS)=>i≤(2+s.val 2).toNat∧gs.length≤3∧Pg (2+s.val 2).toNat i 0 gs) (fun (i:Nat) (gs:List Ks) (s3:DS)=>(2+s.val 2).toNat-i) (0) ([]) (_) (.slice none 0 0) (⟨by omega,by simp,Pg.nil _ _ _⟩) ⟨ke rfl,trivial⟩ (fun _ _ h=>h) ?_))
 rintro i gs s3 w ⟨hi1,hi2,hi3⟩
 refine Tr.seq (Tr.Ai (co rfl (ki rfl rfl rfl rfl) (Ch.nil (Fin.go (Tr.seq ?_)))))
 refine Tr.cn rfl ?_ ?_<;>intro h3 q3
 have hin:i<(2+s.val 2).toNat:=by have:=C5.Di h3;rw [Tw] at this;omega
 refine Tr.skip (Fin.go (Tr.seq (Tr.block (Tr.seq (Tr.Ai (cm rfl (cm rfl (Ch.nil (Fin.go (Tr.seq (Tr.Ai (cm rfl (co rfl (Br rfl underlying67 (vl rfl)) ?_)))))))))))))
 refine cm rfl (Ch.nil (Fin.go (Tr.block ?_)))
 refine Tr.re 70 rfl (int_eq (by simp;rfl):Pr.le _ (int (((Db.take (2+s.val 2).toNat).length:Nat):Int))) ?_
 refine Tr.FA [(0,_),(2,_),(3,_),(4,_),(8,_),(65,_),(66,_),(70,_)] ⟨ke rfl,ke rfl,ke rfl,ke rfl,ke rfl,ke rfl,ke rfl,ke rfl,trivial⟩ (fun (j:Nat) (SW:List Ks) (s4:DS) u=>[(71,int ((j:Nat):Int))]) (fun (j:Nat) (SW:List Ks) (s4:DS) u=>Hp M0 w0 S (As 78 2 u::AB true b2 31 [slice 9 (es.map Cu),AZ u (Hy SW),is (.slice none 0 0)]::AB true b1 31 (([.slice none 0 0,.slice none 0 0,.slice none 0 0]:List Value).map is)::Bx b s4::AX M1 w1::rs)) (fun (j:Nat) (SW:List Ks) (s4:DS)=>j≤(2+s.val 2).toNat∧SW.length≤3∧Pg (2+s.val 2).toNat i j SW) (fun (j:Nat) (SW:List Ks) (s4:DS)=>(2+s.val 2).toNat-j) (0) (gs) (_) w (⟨by omega,hi2,hi3⟩) ⟨ke rfl,trivial⟩ (fun _ _ h=>h) ?_
 rintro j SW s4 u ⟨ck,hj2,jB⟩
 refine Tr.seq (Tr.Ai (co rfl (ki rfl rfl rfl rfl) (Ch.nil (Fin.go (Tr.seq ?_)))))
 refine Tr.cn rfl ?_ ?_<;>intro h4 q4
 have hjn:j<(2+s.val 2).toNat:=by have:=C5.Di h4;rw [Tw] at this;omega
 refine Tr.skip (Fin.go (Tr.seq (Tr.block (Tr.seq (Tr.Ai (cm rfl (cm rfl (Ch.nil (Fin.go (Tr.seq (Tr.Az (tm rfl (tm rfl ?_)))))))))))))
 refine tp rfl (ki rfl rfl rfl rfl) (tm rfl ?_)
 refine TO.cases 77 rfl (fun h5=> ?_) (fun h5=> ?_)
 have q5:=C5.Di h5
 refine TO.LG rfl rfl rfl h5 rfl (by decide) (Aw rfl (vl rfl)) (TO.gH 3 rfl rfl rfl h5 rfl rfl (by decide) (AY rfl rfl (by decide) rfl (BJ (by omega) (by omega)) ⟨ke rfl,ke rfl,trivial⟩) (TO.LG rfl rfl rfl h5 rfl (by decide) (ki rfl rfl rfl rfl) (tp rfl (Qj rfl rfl h5 rfl) (tm rfl ?_))))
 refine TO.cases 82 rfl (fun h6=> ?_) (fun h6=> ?_)
 have q6:=C5.Di h6
 refine TO.LG rfl rfl rfl h6 rfl (by decide) (AO rfl Ih (vl rfl)) (TO.LG rfl rfl rfl h6 rfl (by decide) (CH 1 rfl (Aq rfl Qn (vl rfl) rfl)) (TO.LG rfl rfl rfl h6 rfl (by decide) (B6 rfl underlying28 (Kb rfl)) (TO.LG rfl rfl rfl h6 rfl (by decide) (ki rfl rfl rfl rfl) (tp rfl (Qj rfl rfl h6 rfl) (TO.nil (Fin.go (HY 0 2 3 4 8 9 65 66 70 71 87 rfl ?_)))))))
 refine Tr.cn rfl ?_ ?_<;>intro h7 q7
 refine Tr.Az (tp rfl (AO rfl Ih (vl rfl)) (TO.rd 1 rfl rfl rfl (by decide) (Aq rfl Qn (vl rfl) rfl) (tm rfl (tm rfl (tp rfl (Ab (rows:=[(0,[_]),(1,[_])]) rfl fA Zn ⟨⟨rfl,(Vo rfl)⟩,⟨⟨rfl,(Vo rfl)⟩,trivial⟩⟩ rfl) (tp rfl (AG (xs:=[.tmp 92]) (rows:=[_]) rfl rfl underlying28 Mc jz rfl (by decide) ⟨⟨(by exact rfl),(Va rfl)⟩,trivial⟩ (by decide)) ?_))))))
 refine TO.Es 0 rfl rfl (by decide) (Cg rfl rfl rfl rfl underlying28 Mc mQ jz (Kb rfl) (Kf rfl) (Bk (by exact List.Mem.head _) (Ka rfl))) (fun v5=> ?_)
 refine tp rfl (AO rfl Ih (vl rfl)) (TO.E3 1 rfl rfl (BI rfl rfl (vl rfl) (Vo rfl) eX rfl (by exact Nb rfl) rfl) (TO.nil (Fin.block (Fin.go (l5 0 2 3 4 8 65 66 70 71 rfl (Tr.Ai (O5 rfl rfl rfl rfl (by omega) (cm rfl (Ch.nil ?_)))))))))
 refine Fin.HO 1 [slice 9 (es.map Cu),AZ v5 (Hy (SW++[(⟨((i:Nat):Int),((j:Nat):Int)⟩:Ks)])),is (.slice none 0 0)] rfl ⟨Lr,Ce (by rw [List.map_append];rfl),Lr,trivial⟩ ?_
 exact Fin.DI (j+1) (SW++[(⟨((i:Nat):Int),((j:Nat):Int)⟩:Ks)]) (_) v5 (⟨⟨by omega,by simp;omega,jB.snoc ⟨by omega,by omega⟩ ⟨by omega,by omega⟩ (by omega)⟩,by omega⟩) ⟨⟨_,rfl,AF j⟩,ke rfl,ke rfl,ke rfl,ke rfl,ke rfl,ke rfl,ke rfl,ke rfl,trivial⟩ (fun _ _ h=>h)
 refine Tr.skip (Fin.block (Fin.go (Tr.Ai (O5 rfl rfl rfl rfl (by omega) (cm rfl (Ch.nil (Fin.DI (j+1) (SW) (_) u (⟨⟨by omega,hj2,jB.step⟩,by omega⟩) ⟨⟨_,rfl,AF j⟩,ke rfl,ke rfl,ke rfl,ke rfl,ke rfl,ke rfl,ke rfl,ke rfl,trivial⟩ (fun _ _ h=>h))))))))
 have q6:=C5.Di h6
 iterate 4 refine TO.Qy rfl rfl rfl (Ay h6) rfl (by decide) ?_
 refine tp rfl (ND rfl rfl h6 rfl) (TO.nil (Fin.go (HY 0 2 3 4 8 9 65 66 70 71 87 rfl (Tr.cond rfl (fun h=>nomatch h) (fun _=> ?_)))))
 refine Tr.skip (Fin.block (Fin.go (Tr.Ai (O5 rfl rfl rfl rfl (by omega) (cm rfl (Ch.nil (Fin.DI (j+1) (SW) (_) u (⟨⟨by omega,hj2,jB.step⟩,by omega⟩) ⟨⟨_,rfl,AF j⟩,ke rfl,ke rfl,ke rfl,ke rfl,ke rfl,ke rfl,ke rfl,ke rfl,trivial⟩ (fun _ _ h=>h))))))))
 have q5:=C5.Di h5
 refine TO.Qy rfl rfl rfl (Ay h5) rfl (by decide) (TO.Qy rfl rfl rfl (Ay h5) rfl (by decide) (TO.Qy rfl rfl rfl (Ay h5) rfl (by decide) (tp rfl (ND rfl rfl h5 rfl) (tm rfl ?_))))
 iterate 4 refine TO.Qy rfl rfl rfl (Ay rfl) rfl (by decide) ?_
 refine tp rfl (ND rfl rfl rfl rfl) (TO.nil (Fin.go (HY 0 2 3 4 8 9 65 66 70 71 87 rfl (Tr.cond rfl (fun h=>nomatch h) (fun _=> ?_)))))
 refine Tr.skip (Fin.block (Fin.go (Tr.Ai (O5 rfl rfl rfl rfl (by omega) (cm rfl (Ch.nil (Fin.DI (j+1) (SW) (_) u (⟨⟨by omega,hj2,jB.step⟩,by omega⟩) ⟨⟨_,rfl,AF j⟩,ke rfl,ke rfl,ke rfl,ke rfl,ke rfl,ke rfl,ke rfl,ke rfl,trivial⟩ (fun _ _ h=>h))))))))
 have hje:j=(2+s.val 2).toNat:=by have:=C5.Di h4;rw [Tw] at this;omega
 refine Tr.exit (Fin.AU (Fin.AU (Fin.Am (Fin.block (Fin.go (Tr.Ai (O5 rfl rfl rfl rfl (by omega) (cm rfl (Ch.nil (Fin.DI (i+1) (SW) (_) u (⟨⟨by omega,hj2,jB.row⟩,by omega⟩) ⟨⟨_,rfl,AF i⟩,ke rfl,ke rfl,ke rfl,ke rfl,ke rfl,trivial⟩ (fun _ _ h=>h)))))))))))
 have hie:i=(2+s.val 2).toNat:=by have:=C5.Di h3;rw [Tw] at this;omega
 refine Tr.exit (Fin.AU (Fin.AU (Fin.Am (Fin.go (Tr.seq (Tr.seq (Tr.Ai (co rfl (AO rfl Ih (vl rfl)) (co rfl (CH 1 rfl (Aq rfl Qn (vl rfl) rfl)) (co rfl (B6 rfl underlying28 (Kb rfl)) (co rfl (ki rfl rfl rfl rfl) (Ch.nil (Fin.go ?_)))))))))))))
 refine Tr.cn rfl ?_ ?_<;>intro h8 q8
 refine Tr.Az (tp rfl (Ab (rows:=[(0,[_]),(1,[_])]) rfl fA Zn ⟨⟨rfl,(Vo rfl)⟩,⟨⟨rfl,(Vo rfl)⟩,trivial⟩⟩ rfl) (tp rfl (AG (xs:=[.tmp 102]) (rows:=[_]) rfl rfl underlying28 Mc jz rfl (by decide) ⟨⟨(by exact rfl),(Va rfl)⟩,trivial⟩ (by decide)) ?_))
 refine tp rfl (AO rfl Ih (vl rfl)) (TO.E3 1 rfl rfl (BI rfl rfl (vl rfl) (Vo rfl) eX rfl (by exact Nb rfl) rfl) (TO.nil (Fin.go (O6 0 2 3 rfl (Tr.seq (Tr.seq ?_))))))
 have hv9:=s3.Ba (n:=3) (by omega)
 obtain ⟨Pj,hge,bC,bD,bE⟩:∃l:List Ks,l=[⟨0,1⟩]∧(∀k,k<l.length→Bf (2+s.val 2).toNat l k=true)∧1≤l.length∧l.length≤3:=⟨_,rfl,((Pg.nil (2+s.val 2).toNat 0 1).snoc ⟨by omega,by omega⟩ ⟨by omega,by omega⟩ (by omega)).at_,by simp,by simp⟩
 refine Tr.HO 1 [slice 9 (es.map Cu),Hy Pj,is (.slice none 0 0)] rfl ⟨Lr,Pr.le_trans (Al _ _) (Pr.le_of_eq (by rw [hge];rfl)),Lr,trivial⟩ ?_
 refine Tr.drop 0 (Tr.Az (tm rfl (TO.E8 2 rfl rfl (by decide) (AY rfl rfl (by decide) rfl (BJ (by omega) (by omega)) ⟨ke rfl,ke rfl,trivial⟩) (tm rfl (TO.nil (Fin.go (Tr.block (Tr.HO 0 [slice 9 (es.map Cu),Hy Pj,AZ (.slice none 0 0) (Pa [])] rfl ⟨Lr,Lr,CR rfl,trivial⟩ (Tr.Cs 81 5 ?_)))))))))
 refine Tr.FA [(0,_),(2,_),(3,_)] ⟨ke rfl,ke rfl,ke rfl,trivial⟩ (fun (q:Int) (its:List JL) (s5:DS) x=>[(10,int q)]) (fun (q:Int) (its:List JL) (s5:DS) x=>Hp M0 w0 S (As 81 5 x::AB true b2 31 [slice 9 (es.map Cu),Hy Pj,AZ x (Pa its)]::AB true b1 31 (([.slice none 0 0,.slice none 0 0,.slice none 0 0]:List Value).map is)::Bx b s5::AX M1 w1::rs)) (fun (q:Int) (its:List JL) (s5:DS)=>0≤q∧q+its.length≤2∧∀x∈its,Pf x) (fun (q:Int) (its:List JL) (s5:DS)=>q.toNat) (_) ([]) (_) (.slice none 0 0) (⟨by omega,by simp;omega,fun x h=>by simp at h⟩) ⟨ke rfl,trivial⟩ (fun _ _ h=>h) ?_
 rintro q its s5 x ⟨hq1,Rl,hqi⟩
 refine Tr.seq (Tr.seq (Tr.Ai (cm rfl (co rfl (ki rfl rfl rfl rfl) (Ch.nil (Fin.go ?_))))))
 refine Tr.cn rfl ?_ ?_<;>intro h9 q9
 have Z8:0<q:=of_decide_eq_true h9
 refine Tr.skip (Fin.go (Tr.seq (Tr.block (Tr.pad (Tr.JU mixed [none,some (0,2,false,0),none,none,none,some (0,4,true,0),some (0,4,true,0),none,some (0,1,true,119),none,some (0,2,true,119)] (by kernel_rfl) (xo rfl (fun _=>AO rfl KG (vl rfl)) (Ie 2 rfl rfl (Aq rfl Td (vl rfl) rfl) (xm rfl (xm rfl (xo rfl (fun _=>AG (xs:=[.const (.string ⟨[98,97,99,107,117,112].toArray⟩),.const (.string ⟨[100,101,101,100].toArray⟩)]) (rows:=[[_],[_]]) rfl rfl underlying67 MU z9 rfl (by decide) ⟨⟨(by exact rfl),(Vo rfl)⟩,⟨⟨(by exact rfl),(Vo rfl)⟩,trivial⟩⟩ (by decide)) ?_))))))))))
 refine Cx.ef 4 rfl rfl (by decide) (AY rfl rfl (by decide) rfl (Ny (l:=[[98,97,99,107,117,112],[100,101,101,100]]) (by simp) (by simp)) ⟨ke rfl,(Kf rfl),trivial⟩) ?_
 refine Cx.ef 4 rfl rfl (by decide) (AY rfl rfl (by decide) rfl (RD) ⟨ke rfl,ke rfl,trivial⟩) (xo rfl (fun _=>AG (xs:=[.tmp 117]) (rows:=[_]) rfl rfl underlying29 LN cY rfl (by decide) ⟨⟨(by exact rfl),(Va rfl)⟩,trivial⟩ (by decide)) ?_)
 refine Cx.ef 1 rfl rfl (by decide) (Cg rfl rfl rfl rfl underlying29 LN fC cY (Kb rfl) (Kf rfl) (Bk (by exact List.Mem.head _) (Ka rfl))) ?_
 refine xo rfl (fun _=>AO rfl KG (vl rfl)) (Cx.E3 2 rfl rfl (FB rfl rfl rfl (vl rfl) rfl eY (by exact Nb rfl)) ?_)
 refine Cx.nil ⟨rfl,?_⟩
 refine BH.NV 1 2 119 rfl rfl (by decide) rfl (fun v6=> ?_)
 refine BH.done (A0.cons (A0.cons (A0.cons (A0.cons (A0.cons (A0.cons (A0.map _))))))) (Fin.block (Fin.go (Tr.drop 0 (FO 0 2 3 10 rfl (Tr.Ai (cm rfl (cW rfl rfl rfl rfl (by omega) (cm rfl (Ch.nil ?_)))))))))
 refine Fin.HO 1 [slice 9 (es.map Cu),Hy Pj,AZ v6 (Pa (its++[(L2 s5.BN (GD s5 [HG,Ph]))]))] rfl ⟨Lr,Lr,Ce (by rw [List.map_append];rfl),trivial⟩ ?_
 exact Fin.DI (q-1) (its++[(L2 s5.BN (GD s5 [HG,Ph]))]) (_) v6 (⟨⟨by omega,by simp;omega,N4 hqi (RC (RE s5))⟩,by omega⟩) ⟨⟨_,rfl,int_eq (by omega)⟩,ke rfl,ke rfl,ke rfl,trivial⟩ (fun _ _ h=>h)
 have Z8:¬0<q:=of_decide_eq_false h9
 refine Tr.exit (Fin.AU (Fin.AU (Fin.Am (Fin.go (Tr.seq (Tr.Az (TO.rd 1 rfl rfl rfl (by decide) (CX rfl Hh JV (vl rfl) rfl rfl) (TO.At 2 rfl rfl rfl (vl rfl) (Va rfl) rfl JV rfl rfl (TO.nil (Fin.go (Tr.ret (Fin.Ev 3 _ rfl rfl (Fin.ED [_,_,_] rfl (BE.cell 2 rfl rfl Hh JV rfl (Lr)) ?_ (fun _ _ _ _=>rfl))))))))))))))
 · exact BW ⟨es,Pj,its⟩ (CS ⟨by show 2≤es.length;omega,by show es.length≤3;omega,dm,by show ∀k,k<Pj.length→Bf es.length Pj k=true;rw [hk2,ou];exact bC,bD,bE,hqi,by show its.length≤2;omega⟩ (A_ ⟨Lr,Lr,Aj _ _,trivial⟩))
 refine Tr.skip (Fin.go (Tr.seq (Tr.seq ?_)))
 have hv9:=s3.Ba (n:=3) (by omega)
 obtain ⟨Pj,hge,bC,bD,bE⟩:∃l:List Ks,l=gs∧(∀k,k<l.length→Bf (2+s.val 2).toNat l k=true)∧1≤l.length∧l.length≤3:=⟨_,rfl,hi3.at_,by have h_:=h8;simp at h_;exact List.length_pos_iff.2 h_,hi2⟩
 refine Tr.HO 1 [slice 9 (es.map Cu),Hy Pj,is (.slice none 0 0)] rfl ⟨Lr,Pr.le_trans (Aj _ _) (Pr.le_of_eq (by rw [hge])),Lr,trivial⟩ (Tr.drop 0 (Tr.Az (tm rfl (TO.E8 2 rfl rfl (by decide) (AY rfl rfl (by decide) rfl (BJ (by omega) (by omega)) ⟨ke rfl,ke rfl,trivial⟩) (tm rfl (TO.nil (Fin.go (FO 0 2 3 10 rfl (Tr.block (Tr.HO 0 [slice 9 (es.map Cu),Hy Pj,AZ (.slice none 0 0) (Pa [])] rfl ⟨Lr,Lr,CR rfl,trivial⟩ (Tr.Cs 81 5 ?_)))))))))))
 refine Tr.FA [(0,_),(2,_),(3,_)] ⟨ke rfl,ke rfl,ke rfl,trivial⟩ (fun (q:Int) (its:List JL) (s5:DS) x=>[(10,int q)]) (fun (q:Int) (its:List JL) (s5:DS) x=>Hp M0 w0 S (As 81 5 x::AB true b2 31 [slice 9 (es.map Cu),Hy Pj,AZ x (Pa its)]::AB true b1 31 (([.slice none 0 0,.slice none 0 0,.slice none 0 0]:List Value).map is)::Bx b s5::AX M1 w1::rs)) (fun (q:Int) (its:List JL) (s5:DS)=>0≤q∧q+its.length≤2∧∀x∈its,Pf x) (fun (q:Int) (its:List JL) (s5:DS)=>q.toNat) (_) ([]) (_) (.slice none 0 0) (⟨by omega,by simp;omega,fun x h=>by simp at h⟩) ⟨ke rfl,trivial⟩ (fun _ _ h=>h) ?_
 rintro q its s5 x ⟨hq1,Rl,hqi⟩
 refine Tr.seq (Tr.seq (Tr.Ai (cm rfl (co rfl (ki rfl rfl rfl rfl) (Ch.nil (Fin.go ?_))))))
 refine Tr.cn rfl ?_ ?_<;>intro h10 S6
 have Z8:0<q:=of_decide_eq_true h10
 refine Tr.skip (Fin.go (Tr.seq (Tr.block (Tr.pad (Tr.JU mixed [none,some (0,2,false,0),none,none,none,some (0,4,true,0),some (0,4,true,0),none,some (0,1,true,119),none,some (0,2,true,119)] (by kernel_rfl) (xo rfl (fun _=>AO rfl KG (vl rfl)) (Ie 2 rfl rfl (Aq rfl Td (vl rfl) rfl) (xm rfl (xm rfl (xo rfl (fun _=>AG (xs:=[.const (.string ⟨[98,97,99,107,117,112].toArray⟩),.const (.string ⟨[100,101,101,100].toArray⟩)]) (rows:=[[_],[_]]) rfl rfl underlying67 MU z9 rfl (by decide) ⟨⟨(by exact rfl),(Vo rfl)⟩,⟨⟨(by exact rfl),(Vo rfl)⟩,trivial⟩⟩ (by decide)) ?_))))))))))
 refine Cx.ef 4 rfl rfl (by decide) (AY rfl rfl (by decide) rfl (Ny (l:=[[98,97,99,107,117,112],[100,101,101,100]]) (by simp) (by simp)) ⟨ke rfl,(Kf rfl),trivial⟩) ?_
 refine Cx.ef 4 rfl rfl (by decide) (AY rfl rfl (by decide) rfl (RD) ⟨ke rfl,ke rfl,trivial⟩) (xo rfl (fun _=>AG (xs:=[.tmp 117]) (rows:=[_]) rfl rfl underlying29 LN cY rfl (by decide) ⟨⟨(by exact rfl),(Va rfl)⟩,trivial⟩ (by decide)) ?_)
 refine Cx.ef 1 rfl rfl (by decide) (Cg rfl rfl rfl rfl underlying29 LN fC cY (Kb rfl) (Kf rfl) (Bk (by exact List.Mem.head _) (Ka rfl))) ?_
 refine xo rfl (fun _=>AO rfl KG (vl rfl)) (Cx.E3 2 rfl rfl (FB rfl rfl rfl (vl rfl) rfl eY (by exact Nb rfl)) ?_)
 refine Cx.nil ⟨rfl,?_⟩
 refine BH.NV 1 2 119 rfl rfl (by decide) rfl (fun v7=> ?_)
 refine BH.done (A0.cons (A0.cons (A0.cons (A0.cons (A0.cons (A0.cons (A0.map _))))))) (Fin.block (Fin.go (Tr.drop 0 (FO 0 2 3 10 rfl (Tr.Ai (cm rfl (cW rfl rfl rfl rfl (by omega) (cm rfl (Ch.nil ?_)))))))))
 refine Fin.HO 1 [slice 9 (es.map Cu),Hy Pj,AZ v7 (Pa (its++[(L2 s5.BN (GD s5 [HG,Ph]))]))] rfl ⟨Lr,Lr,Ce (by rw [List.map_append];rfl),trivial⟩ ?_
 exact Fin.DI (q-1) (its++[(L2 s5.BN (GD s5 [HG,Ph]))]) (_) v7 (⟨⟨by omega,by simp;omega,N4 hqi (RC (RE s5))⟩,by omega⟩) ⟨⟨_,rfl,int_eq (by omega)⟩,ke rfl,ke rfl,ke rfl,trivial⟩ (fun _ _ h=>h)
 have Z8:¬0<q:=of_decide_eq_false h10
 refine Tr.exit (Fin.AU (Fin.AU (Fin.Am (Fin.go (Tr.seq (Tr.Az (TO.rd 1 rfl rfl rfl (by decide) (CX rfl Hh JV (vl rfl) rfl rfl) (TO.At 2 rfl rfl rfl (vl rfl) (Va rfl) rfl JV rfl rfl (TO.nil (Fin.go (Tr.ret (Fin.Ev 3 _ rfl rfl (Fin.ED [_,_,_] rfl (BE.cell 2 rfl rfl Hh JV rfl (Lr)) ?_ (fun _ _ _ _=>rfl))))))))))))))
 · exact BW ⟨es,Pj,its⟩ (CS ⟨by show 2≤es.length;omega,by show es.length≤3;omega,dm,by show ∀k,k<Pj.length→Bf es.length Pj k=true;rw [hk2,ou];exact bC,bD,bE,hqi,by show its.length≤2;omega⟩ (A_ ⟨Lr,Lr,Aj _ _,trivial⟩))
end Go.Proofs.YtppdobdifkefcaaGreatDoor
namespace Cp
open Go Go.RowKit
theorem TO.Le {P:Program} {n:Fm} {E:Env} {M0:Av} {w0:World} {S:Nat→Prop} {rs:List Aa} {ops:Array Oper} {r:List Oper} {Q:Exit→Act→World→Prop} (i:Nat) {T:TypeId} {b:Nat} (hi:rs[i]? =some (FP T b)) (k:∀s,TO P n ops r E (Hp M0 w0 S (rs.set i (NT T b s))) Q):TO P n ops r E (Hp M0 w0 S rs) Q:=by
 rintro m hl a w ⟨M,h1,h2,h3,h4⟩
 have h4:An M0 w0 S rs M w:=h4
 obtain ⟨x,hx,hh⟩:=(h4.hold _ (List.mem_of_getElem? hi)).1
 exact k x m hl a w ⟨M,h1,h2,h3,h4.CI hi rfl rfl hh⟩
theorem AH.Rt {P:Program} {E:Env} {I:Bn} {o:Oper} {p:Pr} (s:Nat) {α:Type} {f:α→Pr} (hs:E.lookup s=some (Cp.ex f)) (hm:s∈looks o) (h:∀x,AH P I o ((s,f x)::E) p):AH P I o E p:=by
 intro M w a he hI
 obtain ⟨x,hx⟩:=he s _ hm hs
 refine h x M w a (fun t q ht hq=> ?_) hI
 simp only [List.lookup] at hq
 by_cases hts:t=s
 · subst hts;simp at hq;subst hq;exact hx
 · rw [show (t==s)=false by simpa using hts] at hq;exact he t q ht hq
end Cp
namespace Cp
open Go Go.RowKit Go.Great
section
variable {P:Program} {L:Lg P} {n:Fm} {fz:Nat} {E:Env} {M0:Av} {w0:World} {S:Nat→Prop} {rs:List Aa}
end
end Cp
namespace Cp
open Go Go.RowKit
theorem Xk {β:Type} {f:β→Pr} {ps:List Pr} {M:Av} {w:World} {ad:Addr} {n:Nat} (h:Row M w ad n (ps++[Cp.ex f])):∃x,Row M w ad n (ps++[f x]):=by
 obtain ⟨u,h1,h2,h3,x,h4⟩:=h ps.length (Cp.ex f) (by simp)
 refine ⟨x,fun j p hp=> ?_⟩
 rcases Nat.lt_trichotomy j ps.length with hj|hj|hj
 · exact h j p (by rw [List.getElem?_append_left hj] at hp ⊢;exact hp)
 · subst hj;simp at hp;subst hp;exact ⟨u,h1,h2,h3,h4⟩
 · rw [List.getElem?_eq_none (by simp;omega)] at hp;cases hp
theorem SX {φ:Prop} {q:Pr} {ps:List Pr} {M:Av} {w:World} {ad:Addr} {n:Nat} (h:Row M w ad n (ps++[fact φ q])):φ∧Row M w ad n (ps++[q]):=by
 obtain ⟨u,h1,h2,h3,hφ,h4⟩:=h ps.length (fact φ q) (by simp)
 refine ⟨hφ,fun j p hp=> ?_⟩
 rcases Nat.lt_trichotomy j ps.length with hj|hj|hj
 · exact h j p (by rw [List.getElem?_append_left hj] at hp ⊢;exact hp)
 · subst hj;simp at hp;subst hp;exact ⟨u,h1,h2,h3,h4⟩
 · rw [List.getElem?_eq_none (by simp;omega)] at hp;cases hp
theorem Pk {α β:Type} {f:α→List Pr} {g:β→List Pr} {φ:α→β→Prop} {sz:Nat} (h:∀a M w ad n,Row M w ad n (f a)→∃b,φ a b∧Row M w ad n (g b)) (hf:∀a,(f a).length=sz) (hg:∀b,(g b).length=sz) (ms:List α):
  Pr.le (slice sz (ms.map f)) (Cp.ex fun l:List β=>fact (l.length=ms.length∧∀(i:Nat) a b,ms[i]? =some a→l[i]? =some b→φ a b) (slice sz (l.map g))):=by
 rintro M w v ⟨a,cap,hv,h1,h2,h3,h5⟩
 have hk:∀k,k≤ms.length→∃l:List β,l.length=k∧(∀(i:Nat) a b,ms[i]? =some a→l[i]? =some b→φ a b)∧∀(i:Nat) b,l[i]? =some b→∃ad,a=some ad∧Row M w ad (i*sz) (g b):=by
  intro k
  induction k with
  |zero=>intro _;exact ⟨[],rfl,by simp,by simp⟩
  |succ k ih=>
   intro hk
   obtain ⟨l,hl,hp,hr⟩:=ih (by omega)
   obtain ⟨x,hx⟩:∃x,ms[k]? =some x:=⟨ms[k],List.getElem?_eq_getElem (by omega)⟩
   obtain ⟨_,ad,had,hrow⟩:=h5 k (f x) (by rw [List.getElem?_map,hx];rfl)
   obtain ⟨b,NA,Ow⟩:=h x M w ad (k*sz) hrow
   refine ⟨l++[b],by simp [hl],fun i y c hy hc=> ?_,fun i c hc=> ?_⟩
   ·
    rcases Nat.lt_trichotomy i k with hi|hi|hi
    · rw [List.getElem?_append_left (by omega)] at hc;exact hp i y c hy hc
    · subst hi;rw [List.getElem?_append_right (by omega),hl] at hc;simp at hc;subst hc;rw [hx] at hy;cases hy;exact NA
    · rw [List.getElem?_eq_none (by simp [hl];omega)] at hc;cases hc
   ·
    rcases Nat.lt_trichotomy i k with hi|hi|hi
    · rw [List.getElem?_append_left (by omega)] at hc;exact hr i c hc
    · subst hi;rw [List.getElem?_append_right (by omega),hl] at hc;simp at hc;subst hc;exact ⟨ad,had,Ow⟩
    · rw [List.getElem?_eq_none (by simp [hl];omega)] at hc;cases hc
 obtain ⟨l,hl,hp,hr⟩:=hk ms.length (Nat.le_refl _)
 rw [List.length_map] at hv h1
 refine ⟨l,⟨hl,hp⟩,a,cap,by rw [List.length_map,hl];exact hv,by rw [List.length_map,hl];exact h1,h2,h3,fun i row hrow=> ?_⟩
 rw [List.getElem?_map] at hrow
 cases hb:l[i]? with
 |none=>rw [hb] at hrow;cases hrow
 |some b=>
  rw [hb] at hrow;simp at hrow;subst hrow
  exact ⟨hg b,hr i b hb⟩
end Cp
namespace Go.Proofs.YtppdobdifkefcaaGreatDoor
open Go Go.RowKit Cp Go.Proofs.Tryz
def setAt (n:Int) (l:List Int) (i:Nat):Bool:=decide (0≤l[i]?.getD 0)&&decide (l[i]?.getD 0<n)&&(decide (i=0)||decide (l[i-1]?.getD 0<l[i]?.getD 0))
def Ik (n:Int) (l:List Int):Bool:=allI (setAt n l) l.length
theorem RF {l:List Int} {v:Int}  :A7 prog 27 [ints l,int v] (bool (l.any fun x=>v==x)):=by
 refine fo func27 rfl ⟨rfl,rfl⟩ fun M0 w0=>(Tr.EF 0 rfl fun Fp=> ?_)
 refine a2 ?_
 refine Tr.block (Tr.BK [(1,_),(7,_),(8,_)] (LK rfl) (fun k:Nat=>[(9,int ((k:Nat):Int))]) (fun k:Nat=>k≤(l).length∧((l.take k).any (fun x=>v==x)=false)) (fun k:Nat=>(l).length-k) 0 (⟨Nat.zero_le _,rfl⟩) ⟨ke rfl,trivial⟩ ?_)
 rintro k ⟨BO,AJ⟩
 refine ac ?_
 refine Tr.seq ?_
 refine Tr.cn rfl ?_ ?_<;>intro h1 q1
 have Ad:k<(l).length:=AQ h1
 obtain ⟨x,Ac⟩:=at_ Ad
 refine ac ?_
 refine Tr.seq (Tr.block (Tr.seq (Tr.Ai (co rfl (AA rfl underlying22 C8 (vl rfl) (vl rfl) (by omega) (Ah Ac)) ?_))))
 · repeat' first|(refine bool_eq ?_;symm;rw [List.any_eq_true];exact ⟨_,List.mem_of_getElem? Ac,by simp_all⟩)|(exact Fin.AP (k+1) ⟨⟨Ad,(by rw [List.take_add_one,Ac,List.any_append,AJ];simp;omega)⟩,by omega⟩ ⟨⟨_,rfl,AF k⟩,ke rfl,ke rfl,ke rfl,trivial⟩)|refine ac ?_|(refine Tr.cn rfl ?_ ?_<;>intro h q)
 have BF:k=(l).length:=by have:=AR h1;omega
 subst BF
 refine a3 ?_
 · refine bool_eq ?_;rw [List.take_length] at AJ;exact AJ.symm
structure ChS (l:List GW):Prop where
 fits:∀c∈l,c.fits
 small:(⟨0,0,0,l⟩:Q0).small
abbrev chE:Pr:=Cp.ex fun l:List GW=>fact (ChS l) (Np l)
abbrev CU (c:Cb):List Pr:=[int c.Bm,int c.kind,int c.number,int c.at_,int c.JX.BB,int c.JX.bits,int c.JX.Da,chE]
structure Xl (es:List Eg) (c:Cb):Prop where
 lo:0≤c.Bm
 hi:c.Bm<(es.length:Nat)
 kind:1≤c.kind∧c.kind≤12
def FE (es:List Eg) (l:List Cb):Prop:=∀c∈l,Xl es c
theorem FE.snoc {es:List Eg} {l:List Cb} {c:Cb} (h:FE es l) (hc:Xl es c):FE es (l++[c]):=by
 intro x hx
 rcases List.mem_append.1 hx with hx|hx
 · exact h x hx
 · simp at hx;subst hx;exact hc
theorem FE.two {es:List Eg} {l:List Cb} {c d:Cb} (h:FE es l) (hc:Xl es c) (hd:Xl es d):FE es (l++[c,d]):=by
 intro x hx
 rcases List.mem_append.1 hx with hx|hx
 · exact h x hx
 · simp at hx;rcases hx with rfl|rfl;exact hc;exact hd
theorem FE.perm {es:List Eg} {l m:List Cb} (hp:m.Perm l) (h:FE es l):FE es m:=fun c hc=>h c (hp.mem_iff.1 hc)
theorem FE.take {es:List Eg} {l:List Cb} {n:Nat} (h:FE es l):FE es (l.take n):=fun c hc=>h c (List.mem_of_mem_take hc)
theorem Xm:ChS []:=⟨(fun c h=>by cases h),⟨by show 0≤_;omega,(fun c hc=>by cases hc)⟩⟩
theorem Hz:Pr.le (is (.slice none 0 0)) chE:=BW [] (CS Xm (AL 15))
theorem Xn {nm:List UInt8} (h:nm∈Db) {a b id key:Int}:Pr.le (au nm a b id 901 key) chE:=by
 rintro M w v ⟨s,hs,hv⟩
 have hf:=iy (a:=a) (b:=b) (id:=id) (key:=key) (s:=s) h
 exact ⟨_,⟨hf.1,⟨hf.2.chain,hf.2.names⟩⟩,hv⟩
theorem Uw {nm:List UInt8} {a b id to key:Int}:(Y0 nm a b id to key).le (agg [int a,int b,int id,au nm a b id to key]):=by
 rintro M w v ⟨s,hs,hv⟩
 exact A_ (ps:=Nq (Ej nm a b id to key s)) (qs:=[int a,int b,int id,au nm a b id to key]) ⟨Pr.le_refl _,Pr.le_refl _,Pr.le_refl _,fun M w v h=>⟨s,hs,h⟩,trivial⟩ M w v hv
theorem Ux (c:Cb) (M:Av) (w:World) (ad:Addr) (n:Nat) (h:Row M w ad n (CU c)):∃b:Cb,(b.Bm=c.Bm∧b.kind=c.kind∧b.number=c.number∧b.at_=c.at_∧ChS b.JX.chain)∧Row M w ad n (Io b):=by
 obtain ⟨ch,h1⟩:=Xk (ps:=[int c.Bm,int c.kind,int c.number,int c.at_,int c.JX.BB,int c.JX.bits,int c.JX.Da]) h
 obtain ⟨h2,h3⟩:=SX (ps:=[int c.Bm,int c.kind,int c.number,int c.at_,int c.JX.BB,int c.JX.bits,int c.JX.Da]) h1
 exact ⟨⟨c.Bm,c.kind,c.number,c.at_,⟨c.JX.BB,c.JX.bits,c.JX.Da,ch⟩⟩,⟨rfl,rfl,rfl,rfl,h2⟩,h3⟩
structure bF (es:List Eg) (l:List Cb):Prop where
 len:l.length≤7
 any:∀c∈l,pF es c
theorem Mw {es:List Eg} {ms:List Cb} (h:FE es ms) (hl:ms.length≤7):Pr.le (slice 8 (ms.map CU)) (Cp.ex fun l:List Cb=>fact (bF es l) (slice 8 (l.map Io))):=by
 intro M w v hv
 obtain ⟨l,⟨h1,h2⟩,h3⟩:=Pk Ux (fun _=>rfl) (fun _=>rfl) ms M w v hv
 refine ⟨l,⟨by omega,fun c hc=> ?_⟩,h3⟩
 obtain ⟨i,hi⟩:=List.getElem?_of_mem hc
 obtain ⟨a,ha⟩:=at_ (l:=ms) (k:=i) (by have:=BR hi;omega)
 obtain ⟨g1,g2,g3,g4,g5⟩:=h2 i a c ha hi
 have hm:=h a (List.mem_of_getElem? ha)
 exact ⟨by rw [g1];exact hm.lo,by rw [g1];exact hm.hi,by rw [g2];exact hm.kind,g5.fits,⟨g5.small.chain,g5.small.names⟩⟩
theorem Xo {b:Nat} {s:DS} {e:IL} (hs:Ul e.EK) (hl:1≤e.EK.length∧e.EK.length≤3):A9 prog 10 [ptr b 0,agg (L1 e)] (Cp.ex fun l:List Cb=>fact (bF e.EK l) (slice 8 (l.map Io))) (Bx b s) (fun _=>FP 66 b):=by
 refine A9.of func10 rfl rfl (by exact Nb rfl) fun M0 w0 S rs M1 w1=> ?_
 refine Tr.seq (Tr.Ai (co rfl (Dq rfl (Va rfl)) (cm rfl (Ch.nil (Fin.go (Tr.seq (Tr.Ai (cm rfl (Ch.nil (Fin.go (Tr.seq (Tr.Az (tm rfl ?_)))))))))))))
 refine TO.E8 0 rfl rfl (by decide) (AY rfl rfl (by decide) rfl (BJ (by omega) (by omega)) ⟨ke rfl,ke rfl,trivial⟩) (tp rfl (ki rfl rfl rfl rfl) (tm rfl (TO.E8 0 rfl rfl (by decide) (AY rfl rfl (by decide) rfl (BJ (by omega) (by omega)) ⟨ke rfl,ke rfl,trivial⟩) (tp rfl (ki rfl rfl rfl rfl) (tm rfl (TO.E8 0 rfl rfl (by decide) (AY rfl rfl (by decide) rfl (BJ (by omega) (by omega)) ⟨ke rfl,ke rfl,trivial⟩) (tp rfl (ki rfl rfl rfl rfl) (tm rfl (tm rfl (tm rfl (TO.nil (Fin.go (O7 0 3 5 6 7 8 rfl (Tr.seq ?_))))))))))))))
 refine Tr.seq (Tr.Ai (co rfl (NN rfl G4 rfl rfl) (co rfl (G0 rfl NX rfl) (co rfl (B6 rfl underlying27 (vl rfl)) (cm rfl (Ch.nil (Fin.go (Tr.block (Tr.Z_ 62 8 (Tr.FA [(0,_),(6,_),(7,_),(8,_),(23,_),(24,_)] ⟨ke rfl,ke rfl,ke rfl,ke rfl,ke rfl,ke rfl,trivial⟩ (fun (k:Nat) (ms:List Cb) (s2:DS) v=>[(25,int ((k:Nat):Int)),(5,AZ v (lens (ms.map CU).length))]) (fun (k:Nat) (ms:List Cb) (s2:DS) v=>Hp M0 w0 S (B1 62 8 (ms.map CU) v::Bx b s2::AX M1 w1::rs)) (fun (k:Nat) (ms:List Cb) (s2:DS)=>k≤e.EK.length∧ms.length≤6*k∧FE e.EK ms) (fun (k:Nat) (ms:List Cb) (s2:DS)=>e.EK.length-k) (0) ([]) (_) (.slice none 0 0) (⟨Nat.zero_le _,by simp,fun c hc=>by simp at hc⟩) ⟨ke rfl,⟨_,rfl,Ty (by rfl)⟩,trivial⟩ (fun _ _ h=>h) ?_))))))))))
 rintro k ms s2 v ⟨hk1,qI,L5⟩
 refine Tr.seq (Tr.Ai (co rfl (ki rfl rfl rfl rfl) (Ch.nil (Fin.go (Tr.seq ?_)))))
 refine Tr.cn rfl ?_ ?_<;>intro h1 q1
 have Ad:k<e.EK.length:=by have:=C5.Di h1;omega
 obtain ⟨x,Ac⟩:=at_ Ad
 have hse:=hs k x Ac
 have hnm:=List.mem_of_getElem? hse.name
 refine Tr.skip (Fin.go (Tr.seq (Tr.block (Tr.seq (Tr.Az (tm rfl (tp rfl (AA rfl underlying27 Hj (vl rfl) (vl rfl) (by omega) (Ah Ac)) (tp rfl (AM rfl NZ Hj (vl rfl) rfl rfl) ?_))))))))
 refine Tl rfl rfl rfl rfl Zj Wd (fun b1=> ?_)
 refine tm rfl (TO.At 0 rfl rfl rfl (vl rfl) (Va rfl) rfl Hj rfl rfl (TO.freeze 0 10 rfl rfl (TO.nil (Fin.go (NO 0 5 6 7 8 9 10 23 24 25 rfl (Tr.Je [(0,_),(6,_),(7,_),(8,_),(9,_),(10,_),(23,_),(24,_),(25,_)] ⟨ke rfl,ke rfl,ke rfl,ke rfl,ke rfl,ke rfl,ke rfl,ke rfl,ke rfl,trivial⟩ (fun (m1:List Cb) (s3:DS) v1=>[(5,AZ v1 (lens (m1.map CU).length))]) (fun (m1:List Cb) (s3:DS) v1=>Hp M0 w0 S (B1 62 8 (m1.map CU) v1::Bx b s3::AX M1 w1::rs)) (fun (m1:List Cb) (s3:DS)=>m1.length≤6*k+1∧FE e.EK m1) ?_ ?_))))))
 refine Tr.seq (Tr.Ai (cm rfl (cm rfl ?_)))
 refine Ch.cs 31 rfl ?_ ?_<;>intro h2 q2
 refine cy h2 rfl (NN rfl KI rfl rfl) (cy h2 rfl (G0 rfl Ee rfl) (cy h2 rfl (Ag rfl (RF) ⟨ke rfl,ke rfl,trivial⟩) (cy h2 rfl (ML rfl (vl rfl)) (co rfl (Qj rfl rfl h2 rfl) (Ch.nil (Fin.go (HY 0 5 6 7 8 9 10 23 24 25 36 rfl ?_)))))))
 refine Tr.cn rfl ?_ ?_<;>intro h3 q3
 have S0:=s2.Ba (n:=2) (by omega)
 refine Tr.Az (tm rfl (tm rfl (tm rfl (TO.E8 1 rfl rfl (by decide) (AY rfl rfl (by decide) rfl (BJ (by omega) (by omega)) ⟨ke rfl,ke rfl,trivial⟩) (tp rfl (Ab (rows:=[(0,[_]),(1,[_]),(2,[_]),(3,[_])]) rfl Rv Ma ⟨⟨rfl,(Vo rfl)⟩,⟨⟨rfl,(Vo rfl)⟩,⟨⟨rfl,(Vo rfl)⟩,⟨⟨rfl,(Vo rfl)⟩,trivial⟩⟩⟩⟩ rfl) (tp rfl (AG (xs:=[.tmp 41]) (rows:=[CU ⟨((k:Nat):Int),1,12,s2.val 2,⟨0,0,0,[]⟩⟩]) rfl rfl underlying37 Dg Om rfl (by decide) ⟨⟨(by exact rfl),VL.le (vl rfl) (Pr.le_trans (A_ (qs:=CU _) ⟨Lr,Lr,Lr,Lr,Lr,Lr,Lr,Hz,trivial⟩) (AV _))⟩,trivial⟩ (by decide)) ?_))))))
 refine TO.Es 0 rfl rfl (by decide) (FC rfl rfl (by decide) rfl underlying37 Dg PB Om rfl (by decide) (by decide) (vl rfl) (Kf rfl) (BQ fun _=>rfl) (Nat.zero_lt_succ _) (by simp only [List.length_map,List.length_cons,List.length_nil];unfold maxLen;omega) (by simp only [List.length_map,List.length_cons,List.length_nil];omega)) (fun v1=> ?_)
 refine tm rfl (TO.nil ?_)
 exact Fin.B7 (ms++[⟨((k:Nat):Int),1,12,s2.val 2,⟨0,0,0,[]⟩⟩]) (_) v1 (⟨by simp;omega,L5.snoc ⟨by show 0≤((k:Nat):Int);omega,by show ((k:Nat):Int)<_;omega,by dsimp only;omega⟩⟩) ⟨⟨_,rfl,CE (by simp)⟩,ke rfl,ke rfl,ke rfl,ke rfl,ke rfl,ke rfl,ke rfl,ke rfl,ke rfl,trivial⟩ (fun _ _ h=>(by rw [List.map_append];exact h))
 refine Tr.skip (Fin.B7 (ms) (_) v (⟨by omega,L5⟩) ⟨⟨_,rfl,CE (by simp)⟩,ke rfl,ke rfl,ke rfl,ke rfl,ke rfl,ke rfl,ke rfl,ke rfl,ke rfl,trivial⟩ (fun _ _ h=>h))
 iterate 4 refine cnt h2 rfl ?_
 refine co rfl (ND rfl rfl h2 rfl) (Ch.nil (Fin.go (HY 0 5 6 7 8 9 10 23 24 25 36 rfl (Tr.cond rfl (fun h=>nomatch h) (fun _=> ?_)))))
 refine Tr.skip (Fin.B7 (ms) (_) v (⟨by omega,L5⟩) ⟨⟨_,rfl,CE (by simp)⟩,ke rfl,ke rfl,ke rfl,ke rfl,ke rfl,ke rfl,ke rfl,ke rfl,ke rfl,trivial⟩ (fun _ _ h=>h))
 rintro m1 s3 v1 ⟨qJ,Uy⟩
 refine Tr.Je [(0,_),(6,_),(7,_),(8,_),(9,_),(10,_),(23,_),(24,_),(25,_)] ⟨ke rfl,ke rfl,ke rfl,ke rfl,ke rfl,ke rfl,ke rfl,ke rfl,ke rfl,trivial⟩ (fun (m2:List Cb) (s4:DS) v2=>[(5,AZ v2 (lens (m2.map CU).length))]) (fun (m2:List Cb) (s4:DS) v2=>Hp M0 w0 S (B1 62 8 (m2.map CU) v2::Bx b s4::AX M1 w1::rs)) (fun (m2:List Cb) (s4:DS)=>m2.length≤6*k+2∧FE e.EK m2) ?_ ?_
 refine Tr.seq (Tr.Ai (cm rfl (cm rfl ?_)))
 refine Ch.cs 45 rfl ?_ ?_<;>intro h4 q4
 refine Lb h4 rfl (cy h4 rfl (ki rfl rfl rfl rfl) (co rfl (Qj rfl rfl h4 rfl) (Ch.nil (Fin.go (HY 0 5 6 7 8 9 10 23 24 25 48 rfl ?_)))))
 refine Tr.cn rfl ?_ ?_<;>intro h5 q5
 refine Tr.Az (tm rfl (tm rfl (tp rfl (Ab (rows:=[(0,[_]),(1,[_]),(2,[_])]) rfl Rv Ma ⟨⟨rfl,(Vo rfl)⟩,⟨⟨rfl,(Vo rfl)⟩,⟨⟨rfl,(Vo rfl)⟩,trivial⟩⟩⟩ rfl) (tp rfl (AG (xs:=[.tmp 51]) (rows:=[CU ⟨((k:Nat):Int),7,2,0,⟨0,0,0,[]⟩⟩]) rfl rfl underlying37 Dg Om rfl (by decide) ⟨⟨(by exact rfl),VL.le (vl rfl) (Pr.le_trans (A_ (qs:=CU _) ⟨Lr,Lr,Lr,Lr,Lr,Lr,Lr,Hz,trivial⟩) (AV _))⟩,trivial⟩ (by decide)) ?_))))
 refine TO.Es 0 rfl rfl (by decide) (FC rfl rfl (by decide) rfl underlying37 Dg PB Om rfl (by decide) (by decide) (vl rfl) (Kf rfl) (BQ fun _=>rfl) (Nat.zero_lt_succ _) (by simp only [List.length_map,List.length_cons,List.length_nil];unfold maxLen;omega) (by simp only [List.length_map,List.length_cons,List.length_nil];omega)) (fun v2=> ?_)
 refine tm rfl (TO.nil ?_)
 exact Fin.B7 (m1++[⟨((k:Nat):Int),7,2,0,⟨0,0,0,[]⟩⟩]) (_) v2 (⟨by simp;omega,Uy.snoc ⟨by show 0≤((k:Nat):Int);omega,by show ((k:Nat):Int)<_;omega,by dsimp only;omega⟩⟩) ⟨⟨_,rfl,CE (by simp)⟩,ke rfl,ke rfl,ke rfl,ke rfl,ke rfl,ke rfl,ke rfl,ke rfl,ke rfl,trivial⟩ (fun _ _ h=>(by rw [List.map_append];exact h))
 refine Tr.skip (Fin.B7 (m1) (_) v1 (⟨by omega,Uy⟩) ⟨⟨_,rfl,CE (by simp)⟩,ke rfl,ke rfl,ke rfl,ke rfl,ke rfl,ke rfl,ke rfl,ke rfl,ke rfl,trivial⟩ (fun _ _ h=>h))
 refine cnt h4 rfl (cnt h4 rfl (co rfl (ND rfl rfl h4 rfl) (Ch.nil (Fin.go (HY 0 5 6 7 8 9 10 23 24 25 48 rfl (Tr.cond rfl (fun h=>nomatch h) (fun _=> ?_)))))))
 refine Tr.skip (Fin.B7 (m1) (_) v1 (⟨by omega,Uy⟩) ⟨⟨_,rfl,CE (by simp)⟩,ke rfl,ke rfl,ke rfl,ke rfl,ke rfl,ke rfl,ke rfl,ke rfl,ke rfl,trivial⟩ (fun _ _ h=>h))
 rintro m2 s4 v2 ⟨qK,Uz⟩
 refine Tr.Je [(0,_),(6,_),(7,_),(8,_),(9,_),(10,_),(23,_),(24,_),(25,_)] ⟨ke rfl,ke rfl,ke rfl,ke rfl,ke rfl,ke rfl,ke rfl,ke rfl,ke rfl,trivial⟩ (fun (m3:List Cb) (s5:DS) v3=>[(5,AZ v3 (lens (m3.map CU).length))]) (fun (m3:List Cb) (s5:DS) v3=>Hp M0 w0 S (B1 62 8 (m3.map CU) v3::Bx b s5::AX M1 w1::rs)) (fun (m3:List Cb) (s5:DS)=>m3.length≤6*k+3∧FE e.EK m3) ?_ ?_
 refine Tr.seq (Tr.Ai (cm rfl (cm rfl ?_)))
 refine Ch.cs 55 rfl ?_ ?_<;>intro h6 q6
 refine Lb h6 rfl (cy h6 rfl (ki rfl rfl rfl rfl) (co rfl (Qj rfl rfl h6 rfl) (Ch.nil (Fin.go (HY 0 5 6 7 8 9 10 23 24 25 58 rfl ?_)))))
 refine Tr.cn rfl ?_ ?_<;>intro h7 q7
 have hof:=s4.G2 (l:=[2,1]) (by simp)
 simp at hof
 refine Tr.pad (Tr.JU mixed [none,none,none,none,none,none,none,some (0,2,true,0),none,none,none,none,none,none,some (0,1,true,73),some (73,1,true,5)] (by kernel_rfl) (xm rfl (xm rfl (xo rfl (fun _=>NN rfl Ti rfl rfl) (xo rfl (fun _=>G0 rfl NW rfl) (xo rfl (fun _=>Ag rfl (o_) trivial) (xm rfl (xo rfl (fun _=>AG (xs:=[.const (.int .i64 (2)),.const (.int .i64 (1))]) (rows:=[[_],[_]]) rfl rfl underlying22 C8 z3 rfl (by decide) ⟨⟨(by exact rfl),(Vo rfl)⟩,⟨⟨(by exact rfl),(Vo rfl)⟩,trivial⟩⟩ (by decide)) ?_))))))))
 refine Cx.ef 2 rfl rfl (by decide) (AY rfl rfl (by decide) rfl (Kk (l:=[2,1]) (by simp) (by simp)) ⟨ke rfl,(Kf rfl),trivial⟩) ?_
 refine xo rfl (fun _=>Ag rfl (PY (name:=x.name) (a:=7) (b:=256) (id:=201) (to:=901) (key:=s4.of [2,1]) (ir hnm (.inr ⟨rfl,rfl⟩) (by omega) (by omega) (by omega)) (iw (.inr ⟨rfl,rfl⟩) (by omega)) (by omega)) ⟨ke rfl,ke rfl,ke rfl,ke rfl,ke rfl,trivial⟩) ?_
 refine xo rfl (fun _=>NN rfl Mb rfl rfl) (xo rfl (fun _=>G0 rfl Yb rfl) (xo rfl (fun _=>B6 rfl underlying72 (vl rfl)) (xo rfl (fun _=>Ab (rows:=[(0,[_]),(1,[_]),(4,_),(3,[_])]) rfl Rv Ma ⟨⟨rfl,(Vo rfl)⟩,⟨⟨rfl,(Vo rfl)⟩,⟨⟨rfl,⟨_,rfl,Pr.le_trans (Uw) (AV _)⟩⟩,⟨⟨rfl,(Vo rfl)⟩,trivial⟩⟩⟩⟩ rfl) (xo rfl (fun _=>AG (xs:=[.tmp 71]) (rows:=[CU ⟨((k:Nat):Int),5,0,((x.ids.length:Nat):Int),⟨7,256,201,[]⟩⟩]) rfl rfl underlying37 Dg Om rfl (by decide) ⟨⟨(by exact rfl),VL.le (vl rfl) (Pr.le_trans (A_ (qs:=CU _) ⟨Lr,Lr,Lr,Lr,Lr,Lr,Lr,Xn hnm,trivial⟩) (AV _))⟩,trivial⟩ (by decide)) ?_))))
 refine Cx.ef 1 rfl rfl (by decide) (FC rfl rfl (by decide) rfl underlying37 Dg PB Om rfl (by decide) (by decide) (vl rfl) (Kf rfl) (BQ fun _=>rfl) (Nat.zero_lt_succ _) (by simp only [List.length_map,List.length_cons,List.length_nil];unfold maxLen;omega) (by simp only [List.length_map,List.length_cons,List.length_nil];omega)) ?_
 refine Cx.ef 1 rfl rfl (by decide) (MO rfl rfl (by decide) rfl (vl rfl)) ?_
 refine Cx.nil ⟨rfl,?_⟩
 refine BH.open_ 1 5 rfl rfl (fun v3=> ?_)
 refine BH.done (A0.cons (A0.cons (A0.cons (A0.cons (A0.map _))))) (Fin.drop 0 ?_)
 exact Fin.B7 (m2++[⟨((k:Nat):Int),5,0,((x.ids.length:Nat):Int),⟨7,256,201,[]⟩⟩]) (_) v3 (⟨by simp;omega,Uz.snoc ⟨by show 0≤((k:Nat):Int);omega,by show ((k:Nat):Int)<_;omega,by dsimp only;omega⟩⟩) ⟨⟨_,rfl,CE (by simp)⟩,ke rfl,ke rfl,ke rfl,ke rfl,ke rfl,ke rfl,ke rfl,ke rfl,ke rfl,trivial⟩ (fun _ _ h=>(by rw [List.map_append];exact h))
 refine Tr.skip (Fin.B7 (m2) (_) v2 (⟨by omega,Uz⟩) ⟨⟨_,rfl,CE (by simp)⟩,ke rfl,ke rfl,ke rfl,ke rfl,ke rfl,ke rfl,ke rfl,ke rfl,ke rfl,trivial⟩ (fun _ _ h=>h))
 refine cnt h6 rfl (cnt h6 rfl (co rfl (ND rfl rfl h6 rfl) (Ch.nil (Fin.go (HY 0 5 6 7 8 9 10 23 24 25 58 rfl (Tr.cond rfl (fun h=>nomatch h) (fun _=> ?_)))))))
 refine Tr.skip (Fin.B7 (m2) (_) v2 (⟨by omega,Uz⟩) ⟨⟨_,rfl,CE (by simp)⟩,ke rfl,ke rfl,ke rfl,ke rfl,ke rfl,ke rfl,ke rfl,ke rfl,ke rfl,trivial⟩ (fun _ _ h=>h))
 rintro m3 s5 v3 ⟨qL,RG⟩
 refine Tr.Je [(0,_),(6,_),(7,_),(8,_),(9,_),(10,_),(23,_),(24,_),(25,_)] ⟨ke rfl,ke rfl,ke rfl,ke rfl,ke rfl,ke rfl,ke rfl,ke rfl,ke rfl,trivial⟩ (fun (m4:List Cb) (s6:DS) v4=>[(5,AZ v4 (lens (m4.map CU).length))]) (fun (m4:List Cb) (s6:DS) v4=>Hp M0 w0 S (B1 62 8 (m4.map CU) v4::Bx b s6::AX M1 w1::rs)) (fun (m4:List Cb) (s6:DS)=>m4.length≤6*k+4∧FE e.EK m4) ?_ ?_
 refine Tr.seq (Tr.Az (tm rfl (tm rfl ?_)))
 refine TO.cases 75 rfl (fun h8=> ?_) (fun h8=> ?_)
 have q8:=C5.Di h8
 refine TO.LG rfl rfl rfl h8 rfl (by decide) (NN rfl KI rfl rfl) (TO.LG rfl rfl rfl h8 rfl (by decide) (G0 rfl Ee rfl) (TO.LG rfl rfl rfl h8 rfl (by decide) (Ag rfl (RF) ⟨ke rfl,ke rfl,trivial⟩) (tp rfl (Qj rfl rfl h8 rfl) (tm rfl ?_))))
 refine TO.cases 80 rfl (fun h9=> ?_) (fun h9=> ?_)
 have q9:=C5.Di h9
 refine TO.LG rfl rfl rfl h9 rfl (by decide) (Aw rfl (vl rfl)) (TO.gH 1 rfl rfl rfl h9 rfl rfl (by decide) (AY rfl rfl (by decide) rfl (BJ (by omega) (by omega)) ⟨ke rfl,ke rfl,trivial⟩) (TO.LG rfl rfl rfl h9 rfl (by decide) (ki rfl rfl rfl rfl) (tp rfl (Qj rfl rfl h9 rfl) (TO.nil (Fin.go (HY 0 5 6 7 8 9 10 23 24 25 84 rfl ?_))))))
 refine Tr.cn rfl ?_ ?_<;>intro h10 S6
 refine Tr.Az (tm rfl (tm rfl (tp rfl (Ab (rows:=[(0,[_]),(1,[_]),(2,[_])]) rfl Rv Ma ⟨⟨rfl,(Vo rfl)⟩,⟨⟨rfl,(Vo rfl)⟩,⟨⟨rfl,(Vo rfl)⟩,trivial⟩⟩⟩ rfl) (tp rfl (AG (xs:=[.tmp 87]) (rows:=[CU ⟨((k:Nat):Int),2,2,0,⟨0,0,0,[]⟩⟩]) rfl rfl underlying37 Dg Om rfl (by decide) ⟨⟨(by exact rfl),VL.le (vl rfl) (Pr.le_trans (A_ (qs:=CU _) ⟨Lr,Lr,Lr,Lr,Lr,Lr,Lr,Hz,trivial⟩) (AV _))⟩,trivial⟩ (by decide)) ?_))))
 refine TO.Es 0 rfl rfl (by decide) (FC rfl rfl (by decide) rfl underlying37 Dg PB Om rfl (by decide) (by decide) (vl rfl) (Kf rfl) (BQ fun _=>rfl) (Nat.zero_lt_succ _) (by simp only [List.length_map,List.length_cons,List.length_nil];unfold maxLen;omega) (by simp only [List.length_map,List.length_cons,List.length_nil];omega)) (fun v4=> ?_)
 refine tm rfl (TO.nil ?_)
 exact Fin.B7 (m3++[⟨((k:Nat):Int),2,2,0,⟨0,0,0,[]⟩⟩]) (_) v4 (⟨by simp;omega,RG.snoc ⟨by show 0≤((k:Nat):Int);omega,by show ((k:Nat):Int)<_;omega,by dsimp only;omega⟩⟩) ⟨⟨_,rfl,CE (by simp)⟩,ke rfl,ke rfl,ke rfl,ke rfl,ke rfl,ke rfl,ke rfl,ke rfl,ke rfl,trivial⟩ (fun _ _ h=>(by rw [List.map_append];exact h))
 refine Tr.skip (Fin.B7 (m3) (_) v3 (⟨by omega,RG⟩) ⟨⟨_,rfl,CE (by simp)⟩,ke rfl,ke rfl,ke rfl,ke rfl,ke rfl,ke rfl,ke rfl,ke rfl,ke rfl,trivial⟩ (fun _ _ h=>h))
 have q9:=C5.Di h9
 refine TO.Qy rfl rfl rfl (Ay h9) rfl (by decide) (TO.Qy rfl rfl rfl (Ay h9) rfl (by decide) (TO.Qy rfl rfl rfl (Ay h9) rfl (by decide) (tp rfl (ND rfl rfl h9 rfl) (TO.nil (Fin.go (HY 0 5 6 7 8 9 10 23 24 25 84 rfl (Tr.cond rfl (fun h=>nomatch h) (fun _=> ?_))))))))
 refine Tr.skip (Fin.B7 (m3) (_) v3 (⟨by omega,RG⟩) ⟨⟨_,rfl,CE (by simp)⟩,ke rfl,ke rfl,ke rfl,ke rfl,ke rfl,ke rfl,ke rfl,ke rfl,ke rfl,trivial⟩ (fun _ _ h=>h))
 have q8:=C5.Di h8
 refine TO.Qy rfl rfl rfl (Ay h8) rfl (by decide) (TO.Qy rfl rfl rfl (Ay h8) rfl (by decide) (TO.Qy rfl rfl rfl (Ay h8) rfl (by decide) (tp rfl (ND rfl rfl h8 rfl) (tm rfl (TO.Qy rfl rfl rfl (Ay rfl) rfl (by decide) (TO.Qy rfl rfl rfl (Ay rfl) rfl (by decide) (TO.Qy rfl rfl rfl (Ay rfl) rfl (by decide) (tp rfl (ND rfl rfl rfl rfl) (TO.nil (Fin.go (HY 0 5 6 7 8 9 10 23 24 25 84 rfl (Tr.cond rfl (fun h=>nomatch h) (fun _=> ?_)))))))))))))
 refine Tr.skip (Fin.B7 (m3) (_) v3 (⟨by omega,RG⟩) ⟨⟨_,rfl,CE (by simp)⟩,ke rfl,ke rfl,ke rfl,ke rfl,ke rfl,ke rfl,ke rfl,ke rfl,ke rfl,trivial⟩ (fun _ _ h=>h))
 rintro m4 s6 v4 ⟨qM,U0⟩
 refine Tr.seq (Tr.Ai (cm rfl (cm rfl ?_)))
 refine Ch.cs 91 rfl ?_ ?_<;>intro h11 WB
 refine cy h11 rfl (NN rfl PC rfl rfl) (cy h11 rfl (G0 rfl C6 rfl) (cy h11 rfl (ki rfl rfl rfl rfl) (co rfl (Qj rfl rfl h11 rfl) (Ch.nil (Fin.go (NO 0 5 6 7 8 9 23 24 25 95 rfl ?_))))))
 refine Tr.cn rfl ?_ ?_<;>intro h12 dc
 refine Tr.Az (tm rfl (tm rfl (tp rfl (Ab (rows:=[(0,[_]),(1,[_]),(2,[_])]) rfl Rv Ma ⟨⟨rfl,(Vo rfl)⟩,⟨⟨rfl,(Vo rfl)⟩,⟨⟨rfl,(Vo rfl)⟩,trivial⟩⟩⟩ rfl) (tm rfl (tp rfl (Ab (rows:=[(0,[_]),(1,[_]),(2,[_])]) rfl Rv Ma ⟨⟨rfl,(Vo rfl)⟩,⟨⟨rfl,(Vo rfl)⟩,⟨⟨rfl,(Vo rfl)⟩,trivial⟩⟩⟩ rfl) (tp rfl (AG (xs:=[.tmp 98,.tmp 100]) (rows:=[CU ⟨((k:Nat):Int),3,4,0,⟨0,0,0,[]⟩⟩,CU ⟨((k:Nat):Int),1,14,0,⟨0,0,0,[]⟩⟩]) rfl rfl underlying37 Dg Om rfl (by decide) ⟨⟨(by exact rfl),VL.le (vl rfl) (Pr.le_trans (A_ (qs:=CU _) ⟨Lr,Lr,Lr,Lr,Lr,Lr,Lr,Hz,trivial⟩) (AV _))⟩,⟨⟨(by exact rfl),VL.le (vl rfl) (Pr.le_trans (A_ (qs:=CU _) ⟨Lr,Lr,Lr,Lr,Lr,Lr,Lr,Hz,trivial⟩) (AV _))⟩,trivial⟩⟩ (by decide)) ?_))))))
 refine TO.Es 0 rfl rfl (by decide) (FC rfl rfl (by decide) rfl underlying37 Dg PB Om rfl (by decide) (by decide) (vl rfl) (Kf rfl) (BQ fun _=>rfl) (Nat.zero_lt_succ _) (by simp only [List.length_map,List.length_cons,List.length_nil];unfold maxLen;omega) (by simp only [List.length_map,List.length_cons,List.length_nil];omega)) (fun v5=> ?_)
 refine tm rfl (TO.nil (Fin.block (Fin.go (Rs 0 5 6 7 8 23 24 25 rfl (Tr.Ai (O5 rfl rfl rfl rfl (by omega) (cm rfl (Ch.nil ?_))))))))
 exact Fin.DI (k+1) (m4++[⟨((k:Nat):Int),3,4,0,⟨0,0,0,[]⟩⟩,⟨((k:Nat):Int),1,14,0,⟨0,0,0,[]⟩⟩]) (_) v5 (⟨⟨by omega,by simp;omega,U0.two ⟨by show 0≤((k:Nat):Int);omega,by show ((k:Nat):Int)<_;omega,by dsimp only;omega⟩ ⟨by show 0≤((k:Nat):Int);omega,by show ((k:Nat):Int)<_;omega,by dsimp only;omega⟩⟩,by omega⟩) ⟨⟨_,rfl,AF k⟩,⟨_,rfl,CE (by simp)⟩,ke rfl,ke rfl,ke rfl,ke rfl,ke rfl,ke rfl,trivial⟩ (fun _ _ h=>(by rw [List.map_append];exact h))
 refine Tr.skip (Fin.block (Fin.go (Tr.Ai (O5 rfl rfl rfl rfl (by omega) (cm rfl (Ch.nil (Fin.DI (k+1) (m4) (_) v4 (⟨⟨by omega,by omega,U0⟩,by omega⟩) ⟨⟨_,rfl,AF k⟩,⟨_,rfl,CE (by simp)⟩,ke rfl,ke rfl,ke rfl,ke rfl,ke rfl,ke rfl,trivial⟩ (fun _ _ h=>h))))))))
 refine cnt h11 rfl (cnt h11 rfl (cnt h11 rfl (co rfl (ND rfl rfl h11 rfl) (Ch.nil (Fin.go (NO 0 5 6 7 8 9 23 24 25 95 rfl (Tr.cond rfl (fun h=>nomatch h) (fun _=> ?_))))))))
 refine Tr.skip (Fin.block (Fin.go (Tr.Ai (O5 rfl rfl rfl rfl (by omega) (cm rfl (Ch.nil (Fin.DI (k+1) (m4) (_) v4 (⟨⟨by omega,by omega,U0⟩,by omega⟩) ⟨⟨_,rfl,AF k⟩,⟨_,rfl,CE (by simp)⟩,ke rfl,ke rfl,ke rfl,ke rfl,ke rfl,ke rfl,trivial⟩ (fun _ _ h=>h))))))))
 have:=h1
 refine Tr.exit (Fin.AU (Fin.AU (Fin.Am (Fin.go (Tr.seq (Tr.block ?_))))))
 rcases Nat.eq_zero_or_pos ms.length with h0|h0
 refine Tr.BK [(0,_)] ⟨ke rfl,trivial⟩ (fun _=>[(5,AZ v (lens (ms.map CU).length))]) (fun _=>True) (fun _=>0) () (trivial) ⟨ke rfl,trivial⟩ ?_
 rintro _ _
 refine Tr.seq (Tr.seq (Tr.Ai (cm rfl (co rfl (Ni rfl underlying37 (Kb rfl)) (co rfl (ki rfl rfl rfl rfl) (Ch.nil (Fin.go ?_)))))))
 refine Tr.cn rfl ?_ ?_<;>intro Q2 aP
 exfalso;have h_:=C5.Di Q2;rw [List.length_map] at h_;omega
 have:=Q2
 refine Tr.exit (Fin.AU (Fin.AU (Fin.Am (Fin.go (Tr.seq (Tr.seq ?_))))))
 have hv4:=s2.Ba (n:=4) (by omega)
 refine Tr.Az (tm rfl (TO.E8 1 rfl rfl (by decide) (AY rfl rfl (by decide) rfl (BJ (by omega) (by omega)) ⟨ke rfl,ke rfl,trivial⟩) (tm rfl (TO.nil (Fin.go (Tr.block (Tr.F5 [(0,_)] ⟨ke rfl,trivial⟩ (fun (q:Int) (s9:DS)=>[(11,int q),(5,AZ v (lens (ms.map CU).length))]) (fun (q:Int) (s9:DS)=>Hp M0 w0 S (B1 62 8 (ms.map CU) v::Bx b s9::AX M1 w1::rs)) (fun (q:Int) (s9:DS)=>True) (fun (q:Int) (s9:DS)=>q.toNat) (_) (_)  (trivial) ⟨ke rfl,ke rfl,trivial⟩ (fun _ _ h=>h) ?_)))))))
 rintro q s9  _
 refine Tr.seq (Tr.seq (Tr.Ai (cm rfl (co rfl (ki rfl rfl rfl rfl) (cm rfl ?_)))))
 refine Ch.cs 116 rfl ?_ ?_<;>intro NF lF
 refine Lb NF rfl (cy NF rfl (Ni rfl underlying37 (Kb rfl)) (cy NF rfl (ki rfl rfl rfl rfl) (co rfl (Qj rfl rfl NF rfl) (Ch.nil (Fin.go ?_)))))
 refine Tr.cn rfl ?_ ?_<;>intro XW oq
 exfalso;have h_:=C5.Di XW;rw [List.length_map] at h_;omega
 have:=XW
 refine Tr.exit (Fin.AU (Fin.AU (Fin.Am (Fin.go (Tr.seq (Tr.XB 0 5 rfl rfl (BQ fun _=>rfl) (Tr.Ai (cm rfl (cm rfl (Ch.nil (Fin.go (Tr.ret (Fin.Ev 1 _ rfl rfl (Fin.ED [_] rfl (BE.tmp rfl (Lr)) ?_ (fun _ _ _ _=>rfl)))))))))))))))
 · exact Pr.le_trans (Aj _ _) (Mw L5 (by omega))
 refine cnt NF rfl (cnt NF rfl (cnt NF rfl (co rfl (ND rfl rfl NF rfl) (Ch.nil (Fin.go (Tr.cond rfl (fun h=>nomatch h) (fun _=> ?_)))))))
 refine Tr.exit (Fin.AU (Fin.AU (Fin.Am (Fin.go (Tr.seq (Tr.XB 0 5 rfl rfl (BQ fun _=>rfl) (Tr.Ai (cm rfl (cm rfl (Ch.nil (Fin.go (Tr.ret (Fin.Ev 1 _ rfl rfl (Fin.ED [_] rfl (BE.tmp rfl (Lr)) ?_ (fun _ _ _ _=>rfl)))))))))))))))
 · exact Pr.le_trans (Aj _ _) (Mw L5 (by omega))
 refine Tr.fu (sz:=8) 0 rfl (by intro h_;simp at h_;rw [h_] at h0;simp at h0) fun b9 jC lG hv9 hg9 hm9 hs9=> ?_
 subst hv9
 rw [List.length_map] at hg9 hs9
 refine Tr.TY [(0,_)] ⟨ke rfl,trivial⟩ (fun (m:Nat)=>[(5,is (.slice (some ⟨b9,0,none⟩) m jC))]) (fun (m:Nat)=>Hp M0 w0 S (AB true b9 62 ((ms.map CU).flatten++lG.map is)::Bx b s2::AX M1 w1::rs)) (fun (m:Nat)=>1≤m∧m≤ms.length) (fun (m:Nat)=>m) (ms.length)  (⟨h0,Nat.le_refl _⟩) ⟨⟨_,rfl,Pr.le_trans (D6 _ _) (Pr.le_of_eq (by rw [List.length_map]))⟩,trivial⟩ (fun _ _ h=>h) ?_
 rintro m  ⟨hm1,hm2⟩
 refine Tr.seq (Tr.seq (Tr.Ai (cm rfl (co rfl (Hr rfl underlying37 (vl rfl)) (co rfl (ki rfl rfl rfl rfl) (Ch.nil (Fin.go ?_)))))))
 refine Tr.cn rfl ?_ ?_<;>intro h16 q16
 have hm7:7<m:=by have:=C5.Di h16;omega
 refine Tr.skip (Fin.go (Tr.block (Tr.Ai (cm rfl (cm rfl (co rfl (Hr rfl underlying37 (vl rfl)) (cW rfl rfl rfl rfl (by omega) (co rfl (Nh rfl underlying37 Dg (vl rfl) (vl rfl) (by omega) (by omega) (by omega) (by omega)) (cm rfl (Ch.nil (Fin.block ?_)))))))))))
 exact Fin.WW (m-1)  (⟨⟨by omega,by omega⟩,by omega⟩) ⟨⟨_,rfl,Pr.le_of_eq (by congr 2;omega)⟩,ke rfl,trivial⟩ (fun _ _ h=>h)
 have hm7:m≤7:=by have:=C5.Di h16;omega
 refine Tr.exit (Fin.AU (Fin.AU (Fin.Am (Fin.go (Tr.seq (Tr.seq ?_))))))
 have hv4:=s2.Ba (n:=4) (by omega)
 refine Tr.Az (tm rfl (TO.E8 1 rfl rfl (by decide) (AY rfl rfl (by decide) rfl (BJ (by omega) (by omega)) ⟨ke rfl,ke rfl,trivial⟩) (tm rfl (TO.nil (Fin.go (Tr.block (Tr.KD [(0,_)] ⟨ke rfl,trivial⟩ (fun (q:Int) (ns:List Cb) (s9:DS)=>[(11,int q),(5,is (.slice (some ⟨b9,0,none⟩) m jC))]) (fun (q:Int) (ns:List Cb) (s9:DS)=>Hp M0 w0 S (AB true b9 62 ((ns.map CU).flatten++lG.map is)::Bx b s9::AX M1 w1::rs)) (fun (q:Int) (ns:List Cb) (s9:DS)=>(ns.length=ms.length∧q≤3)∧FE e.EK ns) (fun (q:Int) (ns:List Cb) (s9:DS)=>q.toNat) (_) (ms) (_)  (⟨⟨rfl,by omega⟩,L5⟩) ⟨ke rfl,ke rfl,trivial⟩ (fun _ _ h=>h) ?_)))))))
 rintro q ns s9  ⟨⟨hn1,hn3⟩,hn2⟩
 refine Tr.seq (Tr.seq (Tr.Ai (cm rfl (co rfl (ki rfl rfl rfl rfl) (cm rfl ?_)))))
 refine Ch.cs 116 rfl ?_ ?_<;>intro SH lD
 refine Lb SH rfl (cy SH rfl (Hr rfl underlying37 (vl rfl)) (cy SH rfl (ki rfl rfl rfl rfl) (co rfl (Qj rfl rfl SH rfl) (Ch.nil (Fin.go ?_)))))
 refine Tr.cn rfl ?_ ?_<;>intro Yw q18
 have hq1:=C5.Di Yw
 refine Tr.skip (Fin.go (Tr.seq (Tr.block (Tr.seq ?_))))
 have hvm:=s9.Ba (n:=((m:Nat):Int)-1) (by omega)
 refine Tr.Az (tm rfl (tm rfl (tp rfl (Hr rfl underlying37 (vl rfl)) ?_)))
 refine tp rfl (Ov rfl (vl rfl) (vl rfl) ?hin) ?_;case hin=>unfold HS;omega
 refine TO.E8 1 rfl rfl (by decide) (AY rfl rfl (by decide) rfl (BJ (by omega) (by omega)) ⟨ke rfl,ke rfl,trivial⟩) (tm rfl (TO.nil (Fin.go (FO 0 5 11 12 rfl (Tr.JU mixed [none,none,none,none,none,none,none,none,none,some (0,0,false,0),none,none,none,some (0,0,false,0),none,some (0,0,true,0),none,some (0,0,true,0)] (by kernel_rfl) ?_)))))
 iterate 4 refine xm rfl ?_
 refine xo rfl (fun _=>C4 rfl (vl rfl) (vl rfl) ?hin) ?_;case hin=>unfold HS;omega
 refine xm rfl (xm rfl ?_)
 refine xo rfl (fun _=>C4 rfl (vl rfl) (vl rfl) ?hin) ?_;case hin=>unfold HS;omega
 refine xo rfl (fun _=>BP rfl underlying37 Dg (vl rfl) (vl rfl) (by omega) (by omega)) (Ie 0 rfl rfl (CX rfl Lh Dg (vl rfl) (Lp (f:=CU) (fun _=>rfl) (by omega)) rfl) (xm rfl (xm rfl (xo rfl (fun _=>BP rfl underlying37 Dg (vl rfl) (vl rfl) (by omega) (by omega)) (Ie 0 rfl rfl (CX rfl Lh Dg (vl rfl) (Lp (f:=CU) (fun _=>rfl) (by omega)) rfl) (xo rfl (fun _=>BP rfl underlying37 Dg (vl rfl) (vl rfl) (by omega) (by omega)) ?_))))))
 refine Cx.E3 0 rfl rfl (BI rfl rfl (vl rfl) (Va rfl) Dg rfl (by rw [Lm (sz:=8) (fun _=>rfl)];omega) (KV (f:=CU) (fun _=>rfl) (by omega))) ?_
 refine xo rfl (fun _=>BP rfl underlying37 Dg (vl rfl) (vl rfl) (by omega) (by omega)) ?_
 refine Cx.E3 0 rfl rfl (BI rfl rfl (vl rfl) (Va rfl) Dg rfl (by rw [Lm (sz:=8) (fun _=>rfl)];simp only [List.length_set];omega) (KV (f:=CU) (fun _=>rfl) (by simp only [List.length_set];omega))) ?_
 refine Cx.nil ⟨rfl,?_⟩
 refine BH.done (A0.cons (A0.cons (A0.cons (A0.map _)))) (Fin.block (Fin.go (O6 0 5 11 rfl (Tr.Ai (cm rfl (cW rfl rfl rfl rfl (by omega) (cm rfl (Ch.nil (Fin.D4 (q-1) (_) (_)  (⟨⟨⟨(KW (by omega) (by omega)).length_eq.trans hn1,by omega⟩,FE.perm (KW (by omega) (by omega)) hn2⟩,by omega⟩) ⟨⟨_,rfl,int_eq (by omega)⟩,ke rfl,ke rfl,trivial⟩ (fun _ _ h=>h))))))))))
 have:=Yw
 refine Tr.exit (Fin.AU (Fin.AU (Fin.Am (Fin.go (Tr.seq (Tr.fy 0 (((ns.take m).map CU).flatten++(((ns.drop m).map CU).flatten++lG.map is)) rfl (by rw [←List.append_assoc,←List.flatten_append,←List.map_append,List.take_append_drop]) ?_))))))
 have hnt:(ns.take m).length=m:=by rw [List.length_take];omega
 refine Tr.PD (sz:=8) ((ns.take m).map CU) 0 5 rfl rfl (Pr.le_of_eq (by rw [List.length_map,hnt])) (BQ fun _=>rfl) (by rw [List.length_map];omega) hm9 (by rw [List.length_append,Bv (sz:=8) (BQ fun _=>rfl),List.length_map,List.length_map,List.length_map,List.length_drop];omega) ?_
 refine Tr.Ai (cm rfl (cm rfl (Ch.nil (Fin.go (Tr.ret (Fin.Ev 1 _ rfl rfl (Fin.ED [_] rfl (BE.tmp rfl (Lr)) ?_ (fun _ _ _ _=>rfl))))))))
 · exact Pr.le_trans (Aj _ _) (Mw hn2.take (by omega))
 refine cnt SH rfl (cnt SH rfl (cnt SH rfl (co rfl (ND rfl rfl SH rfl) (Ch.nil (Fin.go (Tr.cond rfl (fun h=>nomatch h) (fun _=> ?_)))))))
 refine Tr.exit (Fin.AU (Fin.AU (Fin.Am (Fin.go (Tr.seq (Tr.fy 0 (((ns.take m).map CU).flatten++(((ns.drop m).map CU).flatten++lG.map is)) rfl (by rw [←List.append_assoc,←List.flatten_append,←List.map_append,List.take_append_drop]) ?_))))))
 have hnt:(ns.take m).length=m:=by rw [List.length_take];omega
 refine Tr.PD (sz:=8) ((ns.take m).map CU) 0 5 rfl rfl (Pr.le_of_eq (by rw [List.length_map,hnt])) (BQ fun _=>rfl) (by rw [List.length_map];omega) hm9 (by rw [List.length_append,Bv (sz:=8) (BQ fun _=>rfl),List.length_map,List.length_map,List.length_map,List.length_drop];omega) ?_
 refine Tr.Ai (cm rfl (cm rfl (Ch.nil (Fin.go (Tr.ret (Fin.Ev 1 _ rfl rfl (Fin.ED [_] rfl (BE.tmp rfl (Lr)) ?_ (fun _ _ _ _=>rfl))))))))
 · exact Pr.le_trans (Aj _ _) (Mw hn2.take (by omega))
structure LQ (n:Int) (k:Nat) (l:List Int):Prop where
 at_:∀j,j<l.length→setAt n l j=true
 lt:∀x∈l,x<(k:Int)
 len:l.length≤k
theorem LQ.nil (n:Int) (k:Nat):LQ n k []:=⟨fun j hj=>by simp at hj,fun x hx=>by simp at hx,by simp⟩
theorem LQ.step {n:Int} {k:Nat} {l:List Int} (h:LQ n k l):LQ n (k+1) l:=⟨h.at_,fun x hx=>by have:=h.lt x hx;omega,by have:=h.len;omega⟩
theorem LQ.snoc {n:Int} {k:Nat} {l:List Int} (h:LQ n k l) (hk:(k:Int)<n):LQ n (k+1) (l++[(k:Int)]):=by
 refine ⟨fun j hj=> ?_,fun x hx=> ?_,by have:=h.len;simp;omega⟩
 ·
  rw [List.length_append] at hj;simp at hj
  rcases Nat.lt_or_ge j l.length with hl|hl
  ·
   have:=h.at_ j hl
   unfold setAt at this ⊢
   rw [List.getElem?_append_left hl,List.getElem?_append_left (show j-1<l.length by omega)];exact this
  ·
   have:j=l.length:=by omega
   subst this
   unfold setAt
   rw [List.getElem?_append_right (Nat.le_refl _),Nat.sub_self]
   rcases Nat.eq_zero_or_pos l.length with hz|hz
   ·
    obtain rfl:=List.eq_nil_of_length_eq_zero hz
    simp;omega
   ·
    obtain ⟨y,hy⟩:=Cp.at_ (l:=l) (k:=l.length-1) (by omega)
    rw [List.getElem?_append_left (show l.length-1<l.length by omega),hy]
    have:=h.lt y (List.mem_of_getElem? hy)
    simp;omega
 ·
  rcases List.mem_append.1 hx with hx|hx
  · have:=h.lt x hx;omega
  · simp at hx;subst hx;omega
theorem LQ.set {n:Int} {k:Nat} {l:List Int} (h:LQ n k l):Ik n l=true:=Ct.2 h.at_
structure Dy where
 lo:Int
 hi:Int
 AW:List Int
structure Ao where
 Bh:List Dy
 FF:List Int
 room:List Int
def GF (w:Dy):List Pr:=[int w.lo,int w.hi,ints w.AW]
abbrev Gr (l:List Dy):Pr:=slice 3 (l.map GF)
def HH (c:Ao):Pr:=agg [Gr c.Bh,ints c.FF,ints c.room]
instance jD (l:List Int):One (ints l):=Rn _ _
def CL (day:Int) (w:Dy):Bool:=decide (w.lo≤day)&&decide (day<w.hi)
def Ao.has (c:Ao) (n:Int):Bool:=decide (0≤n)&&decide (n<c.room.length)
def Ao.at (c:Ao) (day:Int):Int:=idx (CL day) c.Bh
def Fe (n:Int):Bool:=decide (n<0)||decide (n>24)
def GG (w:Dy):Bool:=decide (w.lo<0)||decide (w.lo≥w.hi)||decide (w.hi>40001)
def H6 (l:List Int):Prop:=∀(j:Nat) a b,l[j]? =some a→l[j+1]? =some b→a<b
def Ku (l:List Dy):Prop:=∀(j:Nat) a b,l[j]? =some a→l[j+1]? =some b→a.hi≤b.lo
open Classical in
noncomputable def Ao.check (c:Ao) (SY:Int):Int:=
 if 32<c.Bh.length∨8<c.room.length then 3
 else if c.room.any Fe then 2
 else if c.Bh.any GG then 47
 else if ¬(Ku c.Bh∧∀w∈c.Bh,H6 w.AW) then 6
 else if c.Bh.any (fun w=>w.AW.any fun n=> !c.has n) then 2
 else if (c.FF.length:Int)≠SY∨c.FF.any (fun n=> !c.has n) then 1
 else 0
noncomputable def Ao.own (c:Ao):Int:=c.check c.FF.length
theorem L6 {β:Type} (p:β→Bool) (l:List β): -1≤idx p l∧idx p l<l.length:=by
 unfold idx
 cases h:l.findIdx? p with
 |none=>simp;omega
 |some i=>
  rw [List.findIdx?_eq_some_iff_getElem] at h
  obtain ⟨h1,_⟩:=h
  simp;omega
theorem Xp {β:Type} {p:β→Bool} {l:List β} (h:0≤idx p l):∃x,l[(idx p l).toNat]? =some x∧p x=true:=by
 unfold idx at*
 cases h':l.findIdx? p with
 |none=>rw [h'] at h;simp at h
 |some i=>
  rw [List.findIdx?_eq_some_iff_getElem] at h'
  obtain ⟨h1,h2,_⟩:=h'
  exact ⟨l[i],by simp,h2⟩
def Ao.N5 (c:Ao) (day:Int):Option Dy:=c.Bh.find? (CL day)
theorem Kv {β:Type} (p:β→Bool) (l:List β):l.find? p=if 0≤idx p l then l[(idx p l).toNat]? else none:=by
 unfold idx
 cases h:l.findIdx? p with
 |none=>
  rw [List.findIdx?_eq_none_iff] at h
  rw [if_neg (by simp),List.find?_eq_none]
  intro x hx;simpa using h x hx
 |some i=>
  rw [List.findIdx?_eq_some_iff_getElem] at h
  obtain ⟨h1,h2,h3⟩:=h
  simp only [Int.natCast_nonneg,if_true,Int.toNat_natCast]
  rw [List.getElem?_eq_getElem h1,List.find?_eq_some_iff_getElem]
  exact ⟨h2,i,h1,rfl,fun j hj=>by simpa using h3 j hj⟩
def Ao.may (c:Ao) (n day:Int):Bool:=match c.N5 day with|some w=>w.AW.any (fun x=>n==x)|none=>false
theorem Y4 {w:Dy} {day:Int}  :A7 prog 132 [agg (GF w),ref [int day]] (bool (CL day w)):=by
 refine fo func132 rfl ⟨rfl,rfl⟩ fun M0 w0=> ?_
 · repeat' first|exact bool_eq (by simp [CL,h])|refine ac ?_|(refine Ch.cg rfl rfl rfl ?_ ?_<;>intro h q)
theorem U1 {c:Ao} {n:Int}  :A7 prog 60 [HH c,int n] (bool (c.has n)):=by
 refine fo func60 rfl ⟨rfl,rfl⟩ fun M0 w0=> ?_
 · repeat' first|(exact bool_eq (by simp [Ao.has];simp at h;omega))|refine ac ?_|(refine Ch.cg rfl rfl rfl ?_ ?_<;>intro h q)
theorem H7 {l:List Dy} {p:Dy→Bool}  :A7 prog 82 [Gr l,Oq prog (fun x:Dy=>[agg (GF x)]) (fun x=>bool (p x))] (int (idx p l)):=by
 refine fo func82 rfl ⟨rfl,rfl⟩ fun M0 w0=>(Tr.EF 0 rfl fun Fp=> ?_)
 refine a2 ?_
 refine Tr.block (Tr.BK [(0,_),(1,_),(7,_)] (LK rfl) (fun k:Nat=>[(8,int ((k:Nat):Int))]) (fun k:Nat=>k≤(l).length∧(∀j y,j<k→l[j]? =some y→p y=false)) (fun k:Nat=>(l).length-k) 0 (⟨Nat.zero_le _,fun j y hj=>absurd hj (by omega)⟩) ⟨ke rfl,trivial⟩ ?_)
 rintro k ⟨BO,AJ⟩
 refine ac ?_
 refine Tr.seq ?_
 refine Tr.cn rfl ?_ ?_<;>intro h1 q1
 have Ad:k<(l).length:=AQ h1
 obtain ⟨x,Ac⟩:=at_ Ad
 · repeat' first|exact int_eq (EJ Ac (by assumption) AJ)|exact Fin.AP (k+1) ⟨⟨Ad,Cm Ac (by assumption) AJ⟩,by omega⟩ ⟨⟨_,rfl,AF k⟩,ke rfl,ke rfl,ke rfl,trivial⟩|refine co rfl (AA rfl underlying33 KJ (vl rfl) (vl rfl) (by omega) (by exact Ah (by assumption))) ?_|refine co rfl (AM rfl Tm KJ (vl rfl) rfl rfl) (co rfl (EP x rfl (vl rfl) ⟨ke rfl,trivial⟩) ?_)|refine ac ?_|(refine Tr.cn rfl ?_ ?_<;>intro h q)
 have BF:k=(l).length:=by have:=AR h1;omega
 subst BF
 refine a3 ?_
 · exact int_eq (F7 AJ)
theorem Fw {l:List Dy} {p:Dy→Bool}  :A7 prog 57 [Gr l,Oq prog (fun x:Dy=>[agg (GF x)]) (fun x=>bool (p x))] (bool (l.any p)):=by
 refine fo func57 rfl ⟨rfl,rfl⟩ fun M0 w0=> ?_
 refine a2 ?_
 refine co rfl (EB (H7) rfl rfl rfl) ?_
 refine a2 ?_
 · exact bool_eq (Jf p l)
theorem jE {c:Ao} {day:Int}  :A7 prog 112 [HH c,int day] (int (c.at day)):=by
 refine fo func112 rfl ⟨rfl,rfl⟩ fun M0 w0=> ?_
 refine a2 ?_
 refine co rfl (Ag rfl (H7 (p:=CL day)) ⟨ke rfl,⟨_,rfl,Bt (Y4 (w:=⟨0,0,[]⟩) (day:=0)).1 (fun x=>Y4 (w:=x))⟩,trivial⟩) ?_
 refine a2 ?_
 · exact Lr
theorem jF {c:Ao} {n day:Int}  :A7 prog 111 [HH c,int n,int day] (bool (c.may n day)):=by
 refine fo func111 rfl ⟨rfl,rfl⟩ fun M0 w0=> ?_
 refine a2 ?_
 refine co rfl (EB (jE) rfl rfl rfl) ?_
 refine ac ?_
 refine ag ?_ ?_<;>intro h1 q1
 obtain ⟨x,hx,hp⟩:=Xp (p:=CL day) (l:=c.Bh) q1
 refine ac ?_
 refine cy h1 rfl (AA rfl underlying33 KJ (vl rfl) (vl rfl) (by omega) (Ck hx)) ?_
 refine ac ?_
 refine cy h1 rfl (EB (Ef) rfl rfl rfl) ?_
 refine ac ?_
 refine Fl 6 rfl ?_
 refine ac ?_
 · exact bool_eq (by have h2:=Kv (CL day) c.Bh;rw [if_pos (by unfold Ao.at at q1;exact q1),hx] at h2;unfold Ao.may Ao.N5;rw [h2])
 refine ac ?_
 refine Fl 6 rfl ?_
 refine ac ?_
 · exact bool_eq (by have h2:=Kv (CL day) c.Bh;rw [if_neg (by unfold Ao.at at q1;omega)] at h2;unfold Ao.may Ao.N5;rw [h2])
theorem N6 {n:Int}  :A7 prog 56 [int n] (bool (Fe n)):=by
 refine fo func56 rfl ⟨rfl,rfl⟩ fun M0 w0=> ?_
 · repeat' first|exact bool_eq (by simp [Fe,h])|refine ac ?_|(refine Ch.cg rfl rfl rfl ?_ ?_<;>intro h q)
theorem N7 {w:Dy}  :A7 prog 58 [agg (GF w)] (bool (GG w)):=by
 refine fo func58 rfl ⟨rfl,rfl⟩ fun M0 w0=> ?_
 · repeat' first|(refine bool_eq ?_;simp [GG];omega)|refine ac ?_|(refine Ch.cg rfl rfl rfl ?_ ?_<;>intro h q)
theorem H8 {c:Ao} {n:Int}  :A7 prog 59 [int n,ref [Gr c.Bh,ints c.FF,ints c.room]] (bool (!c.has n)):=by
 refine fo func59 rfl ⟨rfl,rfl⟩ fun M0 w0=> ?_
 refine a2 ?_
 refine co rfl (EB (U1) rfl rfl rfl) ?_
 refine a2 ?_
 · exact Lr
theorem N8 {c:Ao} {w:Dy}  :A7 prog 61 [agg (GF w),ref [fn (.func 59) [ref [Gr c.Bh,ints c.FF,ints c.room]]]] (bool (w.AW.any fun n=> !c.has n)):=by
 refine fo func61 rfl ⟨rfl,rfl⟩ fun M0 w0=> ?_
 refine a2 ?_
 refine co rfl (Ag rfl (B5 (p:=fun n=> !c.has n)) ⟨ke rfl,⟨_,rfl,Bt (H8 (c:=c) (n:=0)).1 (fun x=>H8 (c:=c) (n:=x))⟩,trivial⟩) ?_
 refine a2 ?_
 · exact Lr
theorem SZ {l:List Dy} {k:Nat} {x:Dy} (hx:l[k]? =some x) (hp:∀y,0<k→l[k-1]? =some y→y.hi≤x.lo) (h:∀(j:Nat) a b,j+1<k→l[j]? =some a→l[j+1]? =some b→a.hi≤b.lo):
  ∀(j:Nat) a b,j+1<k+1→l[j]? =some a→l[j+1]? =some b→a.hi≤b.lo:=by
 intro j a b hj ha hb
 by_cases hjk:j+1=k
 · subst hjk;rw [hx] at hb;cases hb;exact hp a (by omega) (by simpa using ha)
 · exact h j a b (by omega) ha hb
theorem L7 {l:List Int} {k:Nat} {x:Int} (hx:l[k]? =some x) (hp:∀y,0<k→l[k-1]? =some y→y<x) (h:∀(j:Nat) a b,j+1<k→l[j]? =some a→l[j+1]? =some b→a<b):
  ∀(j:Nat) a b,j+1<k+1→l[j]? =some a→l[j+1]? =some b→a<b:=by
 intro j a b hj ha hb
 by_cases hjk:j+1=k
 · subst hjk;rw [hx] at hb;cases hb;exact hp a (by omega) (by simpa using ha)
 · exact h j a b (by omega) ha hb
theorem Xq {l:List Dy} {k:Nat} {x:Dy} (hx:l[k]? =some x) (hp:∀(j:Nat) a b,j+1<x.AW.length→x.AW[j]? =some a→x.AW[j+1]? =some b→a<b) (h:∀(j:Nat) a,j<k→l[j]? =some a→H6 a.AW):
  ∀(j:Nat) a,j<k+1→l[j]? =some a→H6 a.AW:=by
 intro j a hj ha
 by_cases hjk:j=k
 ·
  subst hjk;rw [hx] at ha;cases ha
  intro i u v hu hv
  exact hp i u v (by rcases Nat.lt_or_ge (i+1) x.AW.length with h|h;exact h;rw [List.getElem?_eq_none h] at hv;cases hv) hu hv
 · exact h j a (by omega) ha
theorem Jj {l:List Dy} (h:(∀(j:Nat) a b,j+1<l.length→l[j]? =some a→l[j+1]? =some b→a.hi≤b.lo)∧∀(j:Nat) a,j<l.length→l[j]? =some a→H6 a.AW):Ku l∧∀w∈l,H6 w.AW:=by
 refine ⟨fun j a b ha hb=>h.1 j a b (by rcases Nat.lt_or_ge (j+1) l.length with h|h;exact h;rw [List.getElem?_eq_none h] at hb;cases hb) ha hb,fun w hw=> ?_⟩
 obtain ⟨j,hj,rfl⟩:=List.mem_iff_getElem.1 hw
 exact h.2 j _ hj (List.getElem?_eq_getElem hj)
theorem U2 {l:List Dy} {k:Nat} {x y:Dy} (hk:0<k) (hx:l[k]? =some x) (hy:l[k-1]? =some y) (h:x.lo<y.hi):¬(Ku l∧∀w∈l,H6 w.AW):=by
 rintro ⟨h1,_⟩
 have:=h1 (k-1) y x hy (by rw [show k-1+1=k by omega];exact hx)
 omega
theorem U3 {l:List Dy} {k i:Nat} {x:Dy} {t u:Int} (hx:l[k]? =some x) (hi:0<i) (ht:x.AW[i]? =some t) (hu:x.AW[i-1]? =some u) (h:t≤u):¬(Ku l∧∀w∈l,H6 w.AW):=by
 rintro ⟨_,h2⟩
 have:=h2 x (List.mem_of_getElem? hx) (i-1) u t hu (by rw [show i-1+1=i by omega];exact ht)
 omega
theorem RH {c:Ao} {m:Int}  :A7 prog 36 [HH c,int m] (int (c.check m)):=by
 refine fo func36 rfl ⟨rfl,rfl⟩ fun M0 w0=>(Tr.IY 0 0 rfl rfl fun Jk=>(Tr.IY 0 1 rfl rfl fun Xr=>(Tr.IY 0 2 rfl rfl fun RI=> ?_)))
 refine ac ?_
 refine ag ?_ ?_<;>intro h1 q1
 refine a3 ?_
 · refine int_eq ?_;unfold Ao.check;rw [if_pos (by omega)]
 refine an ?_ ?_<;>intro h2 q2
 refine a2 ?_
 · refine int_eq ?_;unfold Ao.check;rw [if_pos (by omega)]
 refine a2 ?_
 refine co rfl (Ag rfl (B5 (p:=Fe)) ⟨ke rfl,⟨_,rfl,Bt (N6 (n:=0)).1 (fun x=>N6 (n:=x))⟩,trivial⟩) ?_
 refine ac ?_
 refine O6 1 2 22 rfl ?_
 refine Tr.cn rfl ?_ ?_<;>intro h3 q3
 refine a2 ?_
 · refine int_eq ?_;unfold Ao.check;rw [if_neg (by omega),if_pos h3]
 refine a2 ?_
 refine co rfl (Ag rfl (Fw (p:=GG)) ⟨ke rfl,⟨_,rfl,Bt (N7 (w:=⟨0,0,[]⟩)).1 (fun x=>N7 (w:=x))⟩,trivial⟩) ?_
 refine an ?_ ?_<;>intro h4 q4
 refine a2 ?_
 · refine int_eq ?_;unfold Ao.check;rw [if_neg (by omega),if_neg (Ay h3),if_pos h4]
 refine a2 ?_
 refine Tr.block (Tr.BK [(1,_),(2,_),(27,_),(28,_)] (jy rfl) (fun k:Nat=>[(29,int ((k:Nat):Int))]) (fun k:Nat=>k≤(c.Bh).length∧((∀(j:Nat) a b,j+1<k→c.Bh[j]? =some a→c.Bh[j+1]? =some b→a.hi≤b.lo)∧∀(j:Nat) a,j<k→c.Bh[j]? =some a→H6 a.AW)) (fun k:Nat=>(c.Bh).length-k) 0 (⟨Nat.zero_le _,⟨fun j a b hj=>absurd hj (by omega),fun j a hj=>absurd hj (by omega)⟩⟩) ⟨ke rfl,trivial⟩ ?_)
 rintro k ⟨BO,AJ⟩
 refine ac ?_
 refine Tr.seq ?_
 refine Tr.cn rfl ?_ ?_<;>intro h5 q5
 have Ad:k<(c.Bh).length:=AQ h5
 obtain ⟨x,Ac⟩:=at_ Ad
 refine ac ?_
 refine ao ?_
 refine tp rfl (AA rfl underlying33 KJ (vl rfl) (vl rfl) (by omega) (by exact Ah (by assumption))) ?_
 refine tp rfl (AM rfl Tm KJ (vl rfl) rfl rfl) ?_
 refine Tl rfl rfl rfl rfl z87 Zx (fun b1=> ?_)
 refine tm rfl ?_
 refine sf 0 6 ⟨rfl,rfl,rfl⟩ rfl rfl rfl rfl ?_
 refine ao ?_
 refine S1 1 2 5 6 27 28 29 rfl (Tr.WH [1,2,6,27,28,29] [] (∀y,0<k→c.Bh[k-1]? =some y→y.hi≤x.lo) ?_ (fun jG=> ?_))
 refine ag ?_ ?_<;>intro h7 q7
 obtain ⟨y,hy⟩:=at_ (l:=c.Bh) (k:=k-1) (by omega)
 refine ac ?_
 refine cy h7 rfl (AA rfl underlying33 KJ (vl rfl) (vl rfl) (by omega) (J2 (by omega) hy)) ?_
 refine ac ?_
 refine S1 1 2 6 27 28 29 49 rfl ?_
 refine Tr.cn rfl ?_ ?_<;>intro h8 q8
 refine a2 ?_
 · refine int_eq ?_;unfold Ao.check;rw [if_neg (by omega),if_neg (Ay h3),if_neg (Ay h4),if_pos (U2 (by omega) Ac hy (by assumption))]
 refine Tr.skip ?_
 exact Fin.AP () (by intro y' hk' hy';rw [hy] at hy';cases hy';omega) (kk6 rfl)
 refine ac ?_
 refine S1 1 2 6 27 28 29 49 rfl (Tr.cond rfl (fun h=>nomatch h) (fun _=> ?_))
 refine Tr.skip ?_
 exact Fin.AP () (by intro y' hk' hy';omega) (kk6 rfl)
 refine ac ?_
 refine Tr.block (Tr.EF 51 rfl fun hlt=>(Tr.BK [(1,_),(2,_),(6,_),(27,_),(28,_),(29,_),(51,_),(52,_)] (kk8 rfl) (fun i:Nat=>[(53,int ((i:Nat):Int))]) (fun i:Nat=>i≤(x.AW).length∧(∀(j:Nat) a b,j+1<i→x.AW[j]? =some a→x.AW[j+1]? =some b→a<b)) (fun i:Nat=>(x.AW).length-i) 0 (⟨Nat.zero_le _,fun j a b hj=>absurd hj (by omega)⟩) ⟨ke rfl,trivial⟩ ?_))
 rintro i ⟨U4,EX⟩
 refine ac ?_
 refine Tr.seq ?_
 refine Tr.cn rfl ?_ ?_<;>intro h9 q9
 have Is:i<(x.AW).length:=AQ h9
 obtain ⟨t,Mx⟩:=at_ Is
 refine a2 ?_
 refine co rfl (AA rfl underlying22 C8 (vl rfl) (vl rfl) (by omega) (by exact Ah (by assumption))) ?_
 refine ac ?_
 refine HY 1 2 6 7 8 27 28 29 51 52 53 rfl ?_
 refine ag ?_ ?_<;>intro h10 S6
 obtain ⟨u,hu⟩:=at_ (l:=x.AW) (k:=i-1) (by omega)
 · repeat' first|(refine int_eq ?_;unfold Ao.check;rw [if_neg (by omega),if_neg (Ay h3),if_neg (Ay h4),if_pos (U3 Ac (by omega) Mx hu (by assumption))])|(exact Fin.AP (i+1) ⟨⟨Is,L7 Mx (by intro y' hk' hy';rw [hu] at hy';cases hy';omega) EX⟩,by omega⟩ ⟨⟨_,rfl,AF i⟩,ke rfl,ke rfl,ke rfl,ke rfl,ke rfl,ke rfl,ke rfl,ke rfl,trivial⟩)|refine cy h10 rfl (AA rfl underlying22 C8 (vl rfl) (vl rfl) (by omega) (J2 (by omega) hu)) ?_|refine ac ?_|(refine Tr.cn rfl ?_ ?_<;>intro h q)
 refine ac ?_
 refine NO 1 2 6 27 28 29 51 52 53 69 rfl ?_
 refine a2 ?_
 exact Fin.AP (i+1) ⟨⟨Is,L7 Mx (by intro y' hk' hy';omega) EX⟩,by omega⟩ ⟨⟨_,rfl,AF i⟩,ke rfl,ke rfl,ke rfl,ke rfl,ke rfl,ke rfl,ke rfl,ke rfl,trivial⟩
 have N9:i=(x.AW).length:=by have:=AR h9;omega
 subst N9
 refine a2 ?_
 exact Fin.AP (k+1) ⟨⟨Ad,⟨SZ Ac jG AJ.1,Xq Ac EX AJ.2⟩⟩,by omega⟩ ⟨⟨_,rfl,AF k⟩,ke rfl,ke rfl,ke rfl,ke rfl,trivial⟩
 have BF:k=(c.Bh).length:=by have:=AR h5;omega
 subst BF
 refine ac ?_
 refine ao ?_
 refine Tl rfl rfl rfl rfl z71 mO (fun b2=> ?_)
 refine sf 0 9 ⟨rfl,rfl,rfl⟩ rfl rfl rfl rfl ?_
 refine ao ?_
 · repeat' first|(refine int_eq ?_;unfold Ao.check;rw [if_neg (by omega),if_neg (Ay h3),if_neg (Ay h4),if_neg (not_not_intro (Jj AJ)),if_pos (by assumption)])|(refine int_eq ?_;unfold Ao.check;rw [if_neg (by omega),if_neg (Ay h3),if_neg (Ay h4),if_neg (not_not_intro (Jj AJ)),if_neg (Ay (by assumption)),if_pos (.inl (by assumption))])|(refine int_eq ?_;unfold Ao.check;rw [if_neg (by omega),if_neg (Ay h3),if_neg (Ay h4),if_neg (not_not_intro (Jj AJ)),if_neg (Ay (by assumption)),if_pos (.inr (by assumption))])|(refine int_eq ?_;unfold Ao.check;rw [if_neg (by omega),if_neg (Ay h3),if_neg (Ay h4),if_neg (not_not_intro (Jj AJ)),if_neg (Ay (by assumption)),if_neg (not_or.2 ⟨not_not_intro (by assumption),Ay (by assumption)⟩)])|refine co rfl (Ag rfl (Fw (p:=fun w=>w.AW.any fun n=> !c.has n)) ⟨ke rfl,⟨_,rfl,Bt (N8 (c:=c) (w:=⟨0,0,[]⟩)).1 (fun x=>N8 (c:=c) (w:=x))⟩,trivial⟩) ?_|refine cy h rfl (Ag rfl (B5 (p:=fun n=> !c.has n)) ⟨ke rfl,⟨_,rfl,Bt (H8 (c:=c) (n:=0)).1 (fun x=>H8 (c:=c) (n:=x))⟩,trivial⟩) ?_|refine ac ?_|(refine Tr.cn rfl ?_ ?_<;>intro h q)|(refine Ch.cg rfl rfl rfl ?_ ?_<;>intro h q)
theorem jH {c:Ao}  :A7 prog 109 [HH c] (int c.own):=by
 refine fo func109 rfl ⟨rfl,rfl⟩ fun M0 w0=> ?_
 refine a2 ?_
 refine co rfl (EB (RH) rfl rfl rfl) ?_
 refine a2 ?_
 · exact Lr
def DE (n d:Int) (room:Nat→Bool):Nat→List Dy→Option Int
 |_,[]=>none
 |i,w::r=>if d<w.hi∧w.AW.any (fun x=>n==x)∧room i then some (max d w.lo) else DE n d room (i+1) r
def Ao.next (c:Ao) (n day:Int) (room:Nat→Bool):Option Int:=DE n (max day 0) room 0 c.Bh
theorem RJ {β:Type} {l:List β} {k:Nat} {x:β} (h:l[k]? =some x):l.drop k=x::l.drop (k+1):=by
 have hk:k<l.length:=by rcases Nat.lt_or_ge k l.length with h'|h';exact h';rw [List.getElem?_eq_none h'] at h;cases h
 rw [List.drop_eq_getElem_cons hk]
 rw [List.getElem?_eq_getElem hk] at h
 simp at h;rw [h]
theorem N_ {n d:Int} {room:Nat→Bool} {l:List Dy} {k:Nat} {x:Dy} (h:l[k]? =some x) (h1:d<x.hi) (h2:x.AW.any (fun y=>n==y)=true) (h3:room k=true):DE n d room k (l.drop k)=some (max d x.lo):=by
 rw [RJ h,DE,if_pos ⟨h1,h2,h3⟩]
theorem It {n d:Int} {room:Nat→Bool} {l:List Dy} {k:Nat} {x:Dy} (h:l[k]? =some x) (h':¬(d<x.hi∧x.AW.any (fun y=>n==y)=true∧room k=true)):DE n d room k (l.drop k)=DE n d room (k+1) (l.drop (k+1)):=by
 rw [RJ h,DE,if_neg h']
theorem bG {c:Ao} {n day:Int} {room:Nat→Bool}  :A7 prog 53 [HH c,int n,int day,Oq prog (fun i:Fin c.Bh.length=>[int ((i.1:Nat):Int)]) (fun i=>bool (room i.1))] (IM [int ((c.next n day room).getD 0),bool (c.next n day room).isSome]):=by
 refine fo func53 rfl ⟨rfl,rfl⟩ fun M0 w0=>(Tr.IY 0 0 rfl rfl fun Jk=> ?_)
 refine a2 ?_
 refine co rfl (Jy rfl (vl rfl) (vl rfl)) ?_
 refine a2 ?_
 refine Tr.block (Tr.BK [(1,_),(2,_),(3,_),(15,_),(16,_)] (l_ rfl) (fun k:Nat=>[(17,int ((k:Nat):Int))]) (fun k:Nat=>k≤(c.Bh).length∧(c.next n day room=DE n (max day 0) room k (c.Bh.drop k))) (fun k:Nat=>(c.Bh).length-k) 0 (⟨Nat.zero_le _,rfl⟩) ⟨ke rfl,trivial⟩ ?_)
 rintro k ⟨BO,AJ⟩
 refine ac ?_
 refine Tr.seq ?_
 refine Tr.cn rfl ?_ ?_<;>intro h1 q1
 have Ad:k<(c.Bh).length:=AQ h1
 obtain ⟨x,Ac⟩:=at_ Ad
 refine ac ?_
 refine ao ?_
 refine tp rfl (AA rfl underlying33 KJ (vl rfl) (vl rfl) (by omega) (by exact Ah (by assumption))) ?_
 refine tp rfl (AM rfl Tm KJ (vl rfl) rfl rfl) ?_
 refine Tl rfl rfl rfl rfl z87 Zx (fun b1=> ?_)
 refine tm rfl ?_
 refine sf 0 11 ⟨rfl,rfl,rfl⟩ rfl rfl rfl rfl ?_
 refine ao ?_
 refine Rs 1 2 3 10 11 15 16 17 rfl ?_
 refine ag ?_ ?_<;>intro h2 q2
 refine ac ?_
 refine cy h2 rfl (EB (Ef) rfl rfl rfl) ?_
 refine ag ?_ ?_<;>intro h3 q3
 refine ac ?_
 refine cy h3 rfl (EP ⟨k,Ad⟩ rfl (vl rfl) ⟨ke rfl,trivial⟩) ?_
 refine ac ?_
 refine Rs 1 2 3 11 15 16 17 37 rfl ?_
 refine Tr.cn rfl ?_ ?_<;>intro h4 q4
 refine ac ?_
 refine co rfl (Jy rfl (vl rfl) (vl rfl)) ?_
 refine ac ?_
 refine EZ 8 9 rfl (Tr.ret (Fin.Ae (Fin.AE (Fin.AE (Fin.Ae (Fin.AE (Fin.EO rfl (Cq.HN _ _) rfl ?_ rfl ?_)))))))
 · refine int_eq ?_;rw [AJ,N_ Ac (by assumption) (by assumption) (by assumption)];rfl
 · refine bool_eq ?_;rw [AJ,N_ Ac (by assumption) (by assumption) (by assumption)];rfl
 refine a2 ?_
 exact Fin.AP (k+1) ⟨⟨Ad,(by rw [AJ];exact It Ac (by rintro ⟨ha,hb,hc⟩;simp_all))⟩,by omega⟩ ⟨⟨_,rfl,AF k⟩,ke rfl,ke rfl,ke rfl,ke rfl,ke rfl,trivial⟩
 refine ac ?_
 refine Rs 1 2 3 11 15 16 17 37 rfl ?_
 refine a2 ?_
 exact Fin.AP (k+1) ⟨⟨Ad,(by rw [AJ];exact It Ac (by rintro ⟨ha,hb,hc⟩;simp_all))⟩,by omega⟩ ⟨⟨_,rfl,AF k⟩,ke rfl,ke rfl,ke rfl,ke rfl,ke rfl,trivial⟩
 refine ac ?_
 refine Rs 1 2 3 11 15 16 17 37 rfl ?_
 refine a2 ?_
 exact Fin.AP (k+1) ⟨⟨Ad,(by rw [AJ];exact It Ac (by rintro ⟨ha,hb,hc⟩;omega))⟩,by omega⟩ ⟨⟨_,rfl,AF k⟩,ke rfl,ke rfl,ke rfl,ke rfl,ke rfl,trivial⟩
 have BF:k=(c.Bh).length:=by have:=AR h1;omega
 subst BF
 refine a2 ?_
 refine Tr.ret (Fin.EO rfl (Cq.HN _ _) rfl ?_ rfl ?_)
 · refine int_eq ?_;rw [AJ,List.drop_length];rfl
 · refine bool_eq ?_;rw [AJ,List.drop_length];rfl
noncomputable def Ao.CV (c:Ao) (AW days others:List Int):Int:=
 if c.own≠0 then c.own else if AW.length≠days.length then 1 else if 24<AW.length then 3
 else if (AW++others).any (fun n=> !c.has n) then 2 else if (AW.zip days).all (fun p=>c.may p.1 p.2) then 0 else 47
def Ao.cell (c:Ao) (p:Int×Int):Nat:=(c.at p.2).toNat*8+p.1.toNat
def Ao.cnt (c:Ao) (l:List (Int×Int)) (k:Nat):Nat:=l.countP fun p=>c.cell p==k
def Ao.U5 (c:Ao) (l:List (Int×Int)):List Int:=(List.range 256).map fun k=>(c.cnt l k:Int)
def D9 (c:Ao) (l:List (Int×Int)):List Pr:=(c.U5 l).map fun z=>int z
noncomputable def OA (c:Ao) (AW days others:List Int):Pr:=if c.CV AW days others=0 then ref (D9 c (AW.zip days)) else is (.pointer none)
theorem FG {c:Ao} {AW days others:List Int} {e:Int} (h:c.CV AW days others=e) (he:e≠0):Pr.le (is (.pointer none)) (OA c AW days others):=by
 unfold OA;rw [if_neg (by rw [h];exact he)];exact Pr.le_refl _
theorem OB {c:Ao} {AW days others:List Int} (h:c.CV AW days others=0):OA c AW days others=ref (D9 c (AW.zip days)):=by
 unfold OA;rw [if_pos h]
theorem Bs (c:Ao) (l:List (Int×Int)):(D9 c l).length=256:=by simp [D9,Ao.U5]
theorem FH (c:Ao) (l:List (Int×Int)) {k:Nat} (hk:k<256):(D9 c l)[k]? =some (int (c.cnt l k)):=by
 simp [D9,Ao.U5,List.getElem?_range hk]
theorem Sa (c:Ao) (l:List (Int×Int)) {a x:Int} (h1:0≤a∧a<32) (h2:0≤x∧x<8):(D9 c l)[0+a.toNat*8+x.toNat*1]? =some (int (c.cnt l (a.toNat*8+x.toNat))):=by
 rw [show 0+a.toNat*8+x.toNat*1=a.toNat*8+x.toNat by omega]
 exact FH c l (by omega)
theorem Pm (c:Ao):D9 c []=(List.replicate 256 (Value.int .i64 0)).map is:=by
 apply List.ext_getElem?
 intro k
 by_cases hk:k<256
 · rw [FH c [] hk,List.getElem?_map,List.getElem?_replicate,if_pos hk];rfl
 · rw [List.getElem?_eq_none (by rw [Bs];omega),List.getElem?_eq_none (by rw [List.length_map,List.length_replicate];omega)]
theorem Pn (c:Ao) (l:List (Int×Int)) {x d:Int} (h1:0≤c.at d∧c.at d<32) (h2:0≤x∧x<8):
  (D9 c l).take (0+(c.at d).toNat*8+x.toNat*1)++[int ((c.cnt l ((c.at d).toNat*8+x.toNat):Int)+1)]++(D9 c l).drop (0+(c.at d).toNat*8+x.toNat*1+1)=D9 c (l++[(x,d)]):=by
 generalize hm:(c.at d).toNat*8+x.toNat=m
 rw [show 0+(c.at d).toNat*8+x.toNat*1=m by omega]
 have hm2:m<256:=by omega
 have hcell:c.cell (x,d)=m:=hm
 have jI:∀k,c.cnt (l++[(x,d)]) k=c.cnt l k+if m=k then 1 else 0:=by
  intro k
  unfold Ao.cnt
  rw [List.countP_append,List.countP_cons,List.countP_nil,hcell]
  simp
 apply List.ext_getElem?
 intro k
 by_cases hk:k<256
 ·
  rw [FH c _ hk,jI]
  rcases Nat.lt_trichotomy k m with h|h|h
  · rw [List.append_assoc,List.getElem?_append_left (by rw [List.length_take,Bs];omega),List.getElem?_take,if_pos h,FH c l hk,if_neg (by omega)];rfl
  ·
   subst h
   rw [List.append_assoc,List.getElem?_append_right (by rw [List.length_take,Bs];omega),List.length_take,Bs,Nat.min_eq_left (by omega),Nat.sub_self]
   simp
  ·
   rw [List.getElem?_append_right (by rw [List.length_append,List.length_take,Bs];simp;omega),List.length_append,List.length_take,Bs,List.getElem?_drop,Nat.min_eq_left (by omega)]
   simp only [List.length_cons,List.length_nil]
   rw [show m+1+(k-(m+(0+1)))=k by omega,FH c l hk,if_neg (by omega)];rfl
 · rw [List.getElem?_eq_none (by simp [Bs];omega),List.getElem?_eq_none (by rw [Bs];omega)]
theorem bH (c:Ao) (l:List (Int×Int)) (k:Nat):c.cnt l k≤l.length:=List.countP_le_length
theorem OC {a b:List Int} {k:Nat} {x y:Int} (hx:a[k]? =some x) (hy:b[k]? =some y):(a.zip b).take (k+1)=(a.zip b).take k++[(x,y)]:=by
 have hz:(a.zip b)[k]? =some (x,y):=by rw [List.getElem?_zip_eq_some];exact ⟨hx,hy⟩
 rw [List.take_add_one,hz];rfl
theorem U6 {c:Ao} {n d:Int} (h:c.may n d=true):0≤c.at d:=by
 have h2:=Kv (CL d) c.Bh
 unfold Ao.may Ao.N5 at h
 unfold Ao.at
 rcases Int.lt_or_le (idx (CL d) c.Bh) 0 with h3|h3
 ·
  rw [if_neg (by omega)] at h2
  rw [h2] at h;cases h
 · exact h3
theorem GH {c:Ao} (h:c.own=0):c.Bh.length≤32∧c.room.length≤8:=by
 unfold Ao.own Ao.check at h
 split at h
 · omega
 · omega
theorem My {c:Ao} {n:Int} (h:c.own=0) (hn:c.has n=true):0≤n∧n<8:=by
 have:=(GH h).2
 unfold Ao.has at hn
 simp at hn
 omega
theorem jJ {c:Ao} {d:Int} (h:c.own=0):c.at d<32:=by
 have:=(GH h).1
 have:=(L6 (CL d) c.Bh).2
 unfold Ao.at
 omega
theorem U7 {c:Ao} {a b:List Int} {k:Nat} {n d:Int} (hx:a[k]? =some n) (hd:b[k]? =some d) (h:(!c.may n d)=true):¬(a.zip b).all (fun p=>c.may p.1 p.2)=true:=by
 intro h2
 rw [List.all_eq_true] at h2
 have hz:(a.zip b)[k]? =some (n,d):=by rw [List.getElem?_zip_eq_some];exact ⟨hx,hd⟩
 have:=h2 _ (List.mem_of_getElem? hz)
 simp [this] at h
theorem RK {c:Ao} {a b:List Int} (h:((a.zip b).take a.length).all (fun p=>c.may p.1 p.2)=true) (hl:a.length=b.length):(a.zip b).all (fun p=>c.may p.1 p.2)=true:=by
 rwa [List.take_of_length_le (by simp;omega)] at h
theorem U8 {c:Ao} {l:List Int} {n:Int} (h:l.any (fun n=> !c.has n)=false) (hn:n∈l):c.has n=true:=by
 rw [List.any_eq_false] at h
 simpa using h n hn
theorem RL {c:Ao} {n:Int}  :A7 prog 110 [int n,ref [Gr c.Bh,ints c.FF,ints c.room]] (bool (!c.has n)):=by
 refine fo func110 rfl ⟨rfl,rfl⟩ fun M0 w0=> ?_
 refine a2 ?_
 refine co rfl (EB (U1) rfl rfl rfl) ?_
 refine a2 ?_
 · exact Lr
theorem bI {c:Ao} {AW days others:List Int} (ho:others.length≤1000000000):A7 prog 79 [HH c,ints AW,ints days,ints others] (IM [OA c AW days others,int (c.CV AW days others)]):=by
 refine fo func79 rfl ⟨rfl,rfl⟩ fun M0 w0=> ?_
 refine a2 ?_
 refine co rfl (Ca (jH) rfl rfl) ?_
 refine ac ?_
 refine an ?_ ?_<;>intro h1 q1
 refine ac ?_
 refine Tr.ret (Fin.AE (Fin.EO rfl (Cq.HN _ _) rfl ?_ rfl ?_))
 · exact FG (by unfold Ao.CV;rw [if_pos q1]) q1
 · refine int_eq ?_;unfold Ao.CV;rw [if_pos q1]
 refine a2 ?_
 refine JD 1 2 3 4 19 rfl ?_
 refine Tr.cn rfl ?_ ?_<;>intro h2 q2
 refine ac ?_
 refine Tr.ret (Fin.Ae (Fin.AE (Fin.EO rfl (Cq.HN _ _) rfl ?_ rfl ?_)))
 · exact FG (by unfold Ao.CV;rw [if_neg (not_not_intro q1),if_pos (by omega)]) (by decide)
 · refine int_eq ?_;unfold Ao.CV;rw [if_neg (not_not_intro q1),if_pos (by omega)]
 refine an ?_ ?_<;>intro h3 q3
 refine ac ?_
 refine Tr.ret (Fin.Ae (Fin.AE (Fin.EO rfl (Cq.HN _ _) rfl ?_ rfl ?_)))
 · exact FG (by unfold Ao.CV;rw [if_neg (not_not_intro q1),if_neg (by omega),if_pos (by omega)]) (by decide)
 · refine int_eq ?_;unfold Ao.CV;rw [if_neg (not_not_intro q1),if_neg (by omega),if_pos (by omega)]
 refine ap ?_
 refine TO.pad ?_
 refine TO.Es 0 rfl rfl (by decide) (GS rfl rfl (by decide) rfl (UI (by omega)) ⟨ke rfl,trivial⟩) (fun v1=> ?_)
 refine tm rfl ?_
 refine TO.Es 0 rfl rfl (by decide) (Cg rfl rfl rfl rfl underlying22 C8 V9 z3 (Kb rfl) (vl rfl) (Bk (by exact List.Mem.head _) (Ka rfl))) (fun v2=> ?_)
 refine tp rfl (I_ rfl rfl) ?_
 refine tp rfl (Ag rfl (B5 (l:=AW++others) (p:=fun n=> !c.has n)) ⟨⟨_,rfl,Pr.le_trans (Aj _ _) (Pr.le_of_eq (by rw [←List.map_append]))⟩,⟨_,rfl,Bt (RL (c:=c) (n:=0)).1 (fun x=>RL (c:=c) (n:=x))⟩,trivial⟩) ?_
 refine ap ?_
 refine Tr.drop 0 (FO 1 2 4 29 rfl ?_)
 refine Tr.cn rfl ?_ ?_<;>intro h4 q4
 refine ac ?_
 refine Tr.ret (Fin.Ae (Fin.AE (Fin.EO rfl (Cq.HN _ _) rfl ?_ rfl ?_)))
 · exact FG (by unfold Ao.CV;rw [if_neg (not_not_intro q1),if_neg (by omega),if_neg (by omega),if_pos (by assumption)]) (by decide)
 · refine int_eq ?_;unfold Ao.CV;rw [if_neg (not_not_intro q1),if_neg (by omega),if_neg (by omega),if_pos (by assumption)]
 refine ac ?_
 refine ap ?_
 refine TO.O3 rfl rfl (by decide) rfl (Va rfl) (fun b1=> ?_)
 refine ap ?_
 refine ac ?_
 refine Tr.block ?_
 refine Tr.HU [(2,_),(4,_),(11,_),(38,_),(39,_)] ⟨ke rfl,ke rfl,ke rfl,ke rfl,ke rfl,trivial⟩ (fun k:Nat=>[(40,int ((k:Nat):Int))]) (fun k:Nat=>Hp M0 w0 Ot ([AB true b1 176 (D9 c ((AW.zip days).take k))])) (fun k:Nat=>k≤(AW).length∧(((AW.zip days).take k).all (fun p=>c.may p.1 p.2)=true)) (fun k:Nat=>(AW).length-k) 0 (⟨Nat.zero_le _,by simp⟩) ⟨ke rfl,trivial⟩ ((by rw [List.take_zero,Pm];exact fun _ _ h=>h)) ?_
 rintro k ⟨BO,AJ⟩
 refine ac ?_
 refine Tr.seq ?_
 refine Tr.cn rfl ?_ ?_<;>intro h5 q5
 have Ad:k<(AW).length:=AQ h5
 obtain ⟨n,Ac⟩:=at_ Ad
 obtain ⟨d,hd⟩:=at_ (l:=days) (k:=k) (by omega)
 refine a2 ?_
 refine co rfl (AA rfl underlying22 C8 (vl rfl) (vl rfl) (by omega) (by exact Ah (by assumption))) ?_
 refine a2 ?_
 refine co rfl (AA rfl underlying22 C8 (vl rfl) (vl rfl) (by omega) (by exact Ah (by assumption))) ?_
 refine co rfl (G0 rfl C6 rfl) (co rfl (nS (jF) rfl rfl rfl rfl) ?_)
 refine ac ?_
 refine l5 2 4 11 12 13 38 39 40 52 rfl ?_
 refine Tr.cn rfl ?_ ?_<;>intro h6 q6
 refine ac ?_
 refine Tr.drop 0 (Tr.ret (Fin.AE (Fin.Ae (Fin.AE (Fin.AE (Fin.Ae (Fin.AE (Fin.EO rfl (Cq.HN _ _) rfl ?_ rfl ?_))))))))
 · exact FG (by unfold Ao.CV;rw [if_neg (not_not_intro q1),if_neg (by omega),if_neg (by omega),if_neg (Ay (by assumption)),if_neg (U7 Ac hd (by assumption))]) (by decide)
 · refine int_eq ?_;unfold Ao.CV;rw [if_neg (not_not_intro q1),if_neg (by omega),if_neg (by omega),if_neg (Ay (by assumption)),if_neg (U7 Ac hd (by assumption))]
 have hmay:c.may n d=true:=by simpa using h6
 have hown:c.own=0:=by assumption
 have hat:=And.intro (U6 hmay) (jJ (d:=d) hown)
 have jK:0≤n∧n<8:=My hown (U8 (by assumption) (List.mem_append_left _ (List.mem_of_getElem? Ac)))
 have jI:c.cnt ((AW.zip days).take k) ((c.at d).toNat*8+n.toNat)≤24:=Nat.le_trans (bH _ _ _) (by simp;omega)
 refine ac ?_
 refine Tr.rx ?_
 refine ay ?_
 refine xo rfl (fun _=>AA rfl underlying22 C8 (vl rfl) (vl rfl) (by omega) (by exact Ah (by assumption))) ?_
 refine xo rfl (fun _=>G0 rfl C6 rfl) (xo rfl (fun _=>EB (jE) rfl rfl rfl) ?_)
 refine ay ?_
 refine xo rfl (fun _=>EG rfl underlying176 Qr (vl rfl) (vl rfl) (by omega) (by omega)) (xo rfl (fun _=>EG rfl underlying128 C8 (vl rfl) (vl rfl) (by omega) (by omega)) (Ie 0 rfl rfl (Aq rfl C6 (vl rfl) (Sa c _ hat jK)) ?_))
 refine ay ?_
 refine xo rfl (fun _=>EG rfl underlying176 Qr (vl rfl) (vl rfl) (by omega) (by omega)) (xo rfl (fun _=>EG rfl underlying128 C8 (vl rfl) (vl rfl) (by omega) (by omega)) ?_)
 refine Cx.E3 0 rfl rfl (BI rfl rfl (vl rfl) (Vo rfl) C8 rfl (by rw [Bs];omega) (Pn c _ hat jK)) ?_
 refine Cx.nil ⟨by kernel_rfl,?_⟩
 refine BH.done nT ?_
 refine ac ?_
 refine O7 2 4 11 38 39 40 rfl ?_
 refine ac ?_
 exact Fin.fam (k+1) ⟨⟨Ad,(by rw [OC Ac hd,List.all_append,AJ];simp;assumption)⟩,by omega⟩ ⟨⟨_,rfl,AF k⟩,ke rfl,ke rfl,ke rfl,ke rfl,ke rfl,trivial⟩ ((by rw [OC Ac hd];exact fun _ _ h=>h))
 have BF:k=(AW).length:=by have:=AR h5;omega
 subst BF
 refine a2 ?_
 refine Tr.ret (Fin.freeze 0 8 rfl rfl (Fin.EO rfl (Cq.HN _ _) rfl ?_ rfl ?_))
 · rw [OB (by unfold Ao.CV;rw [if_neg (not_not_intro q1),if_neg (by omega),if_neg (by omega),if_neg (Ay (by assumption)),if_pos (RK AJ (by omega))])];exact Pr.le_of_eq (by rw [List.take_of_length_le (by simp;omega)])
 · refine int_eq ?_;unfold Ao.CV;rw [if_neg (not_not_intro q1),if_neg (by omega),if_neg (by omega),if_neg (Ay (by assumption)),if_pos (RK AJ (by omega))]
def Ao.over (c:Ao) (l:List (Int×Int)):Prop:=∃(i n:Nat) (r:Int),i<c.Bh.length∧c.room[n]? =some r∧r<(c.cnt l (i*8+n):Int)
open Classical in
noncomputable def Ao.Be (c:Ao) (AW days others:List Int):Int:=
 if c.CV AW days others≠0 then c.CV AW days others else if c.over (AW.zip days) then 48 else 0
noncomputable def Kw (c:Ao) (AW days others:List Int):Pr:=if c.Be AW days others=0 then ref (D9 c (AW.zip days)) else is (.pointer none)
noncomputable instance dn (c:Ao) (AW days others:List Int):One (Kw c AW days others):=by
 unfold Kw;split
 · exact Qa _
 · exact QZ _
theorem L8 {c:Ao} {AW days others:List Int} {e:Int} (h:c.Be AW days others=e) (he:e≠0):Pr.le (is (.pointer none)) (Kw c AW days others):=by
 unfold Kw;rw [if_neg (by rw [h];exact he)];exact Pr.le_refl _
theorem OD {c:Ao} {AW days others:List Int} (h:c.Be AW days others=0):Kw c AW days others=ref (D9 c (AW.zip days)):=by
 unfold Kw;rw [if_pos h]
theorem DF {c:Ao} {AW days others:List Int} (h:c.CV AW days others=0):c.own=0:=by
 unfold Ao.CV at h
 by_cases h':c.own=0
 · exact h'
 · rw [if_pos h'] at h;exact absurd h h'
theorem Kx {c:Ao} {AW days others:List Int} (h:c.CV AW days others=0):∀n∈AW++others,c.has n=true:=by
 have ho:=DF h
 unfold Ao.CV at h
 rw [if_neg (not_not_intro ho)] at h
 split at h
 · cases h
 ·
  split at h
  · cases h
  ·
   split at h
   · cases h
   ·
    rename_i h1
    intro n hn
    exact U8 (by simpa using h1) hn
theorem DN {c:Ao} {AW days others:List Int} (h:c.Be AW days others=0):c.CV AW days others=0:=by
 unfold Ao.Be at h
 by_cases h':c.CV AW days others=0
 · exact h'
 · rw [if_pos h'] at h;exact absurd h h'
theorem OE (c:Ao) (l:List (Int×Int)) {i m:Nat} (h1:i<32) (h2:m<8):(((D9 c l).drop (((i:Nat):Int).toNat*8)).drop (((m:Nat):Int).toNat*1))[0]? =some (int (c.cnt l (i*8+m))):=by
 rw [List.drop_drop,List.getElem?_drop,Int.toNat_natCast,Int.toNat_natCast,show i*8+m*1+0=i*8+m by omega]
 exact FH c l (by omega)
theorem Sb (c:Ao) (l:List (Int×Int)) {i:Nat} {m:Int} (h1:i<32) (h2:0≤m∧m<8):(((D9 c l).drop (((i:Nat):Int).toNat*8)).drop (m.toNat*1))[0]? =some (int (c.cnt l (i*8+m.toNat))):=by
 have:=OE c l (i:=i) (m:=m.toNat) h1 (by omega)
 rwa [Int.toNat_natCast m.toNat] at this
theorem Po {c:Ao} {l:List (Int×Int)} {i:Nat} (h0:∀i' n r,i'<i→c.room[n]? =some r→(c.cnt l (i'*8+n):Int)≤r) (h1:∀n r,n<c.room.length→c.room[n]? =some r→(c.cnt l (i*8+n):Int)≤r):∀i' n r,i'<i+1→c.room[n]? =some r→(c.cnt l (i'*8+n):Int)≤r:=by
 intro i' n r hi hr
 by_cases hii:i'=i
 ·
  subst hii
  refine h1 n r ?_ hr
  rcases Nat.lt_or_ge n c.room.length with h|h
  · exact h
  · rw [List.getElem?_eq_none h] at hr;cases hr
 · exact h0 i' n r (by omega) hr
theorem Pp {c:Ao} {l:List (Int×Int)} {i m:Nat} {r:Int} (h0:∀n r,n<m→c.room[n]? =some r→(c.cnt l (i*8+n):Int)≤r) (hx:c.room[m]? =some r) (hle:(c.cnt l (i*8+m):Int)≤r):∀n r,n<m+1→c.room[n]? =some r→(c.cnt l (i*8+n):Int)≤r:=by
 intro n r' hn hr
 by_cases hnm:n=m
 · subst hnm;rw [hx] at hr;cases hr;exact hle
 · exact h0 n r' (by omega) hr
def Ao.HI (c:Ao) (n:Int):Int:=(c.room[n.toNat]?).getD 0
theorem Ky {c:Ao} {n:Int} (h:c.has n=true):0≤n∧c.room[n.toNat]? =some (c.HI n):=by
 unfold Ao.has at h
 simp at h
 refine ⟨h.1,?_⟩
 have:n.toNat<c.room.length:=by omega
 unfold Ao.HI
 rw [List.getElem?_eq_getElem this];rfl
def Ao.free (c:Ao) (l:List (Int×Int)) (n:Int) (i:Nat):Bool:=decide ((c.cnt l (i*8+n.toNat):Int)<c.HI n)
noncomputable def Ao.early (c:Ao) (AW days:List Int) (n from_:Int):Option Int:=if c.Be AW days [n]=0 then c.next n from_ (c.free (AW.zip days) n) else none
theorem U9 {c:Ao} {AW days others:List Int} (ho:others.length≤1000000000):A7 prog 52 [HH c,ints AW,ints days,ints others] (IM [Kw c AW days others,int (c.Be AW days others)]):=by
 refine fo func52 rfl ⟨rfl,rfl⟩ fun M0 w0=>(Tr.IY 0 0 rfl rfl fun Jk=>(Tr.IY 0 2 rfl rfl fun RI=> ?_))
 refine a2 ?_
 refine co rfl (kc4 (bI (by assumption)) rfl rfl rfl rfl rfl) ?_
 refine a2 ?_
 refine FO 4 10 11 24 rfl ?_
 refine Tr.cn rfl ?_ ?_<;>intro h1 q1
 refine ac ?_
 refine Tr.ret (Fin.AE (Fin.EO rfl (Cq.HN _ _) rfl ?_ rfl ?_))
 · exact L8 (by unfold Ao.Be;rw [if_pos q1]) q1
 · refine int_eq ?_;unfold Ao.Be;rw [if_pos q1]
 have hf:c.CV AW days others=0:=q1
 have hown:=DF hf
 have hw:=GH hown
 refine Tr.re 10 rfl (Pr.le_of_eq (OB hf)) ?_
 refine a2 ?_
 refine Tr.block (Tr.BK [(4,_),(10,_),(28,_)] (LK rfl) (fun i:Nat=>[(29,int ((i:Nat):Int))]) (fun i:Nat=>i≤(c.Bh).length∧(∀i' n r,i'<i→c.room[n]? =some r→(c.cnt (AW.zip days) (i'*8+n):Int)≤r)) (fun i:Nat=>(c.Bh).length-i) 0 (⟨Nat.zero_le _,fun i' n r hi=>absurd hi (by omega)⟩) ⟨ke rfl,trivial⟩ ?_)
 rintro i ⟨U4,EX⟩
 refine ac ?_
 refine Tr.seq ?_
 refine Tr.cn rfl ?_ ?_<;>intro h2 q2
 have Is:i<(c.Bh).length:=AQ h2
 obtain ⟨w,Mx⟩:=at_ Is
 refine a3 ?_
 refine Tr.block (Tr.BK [(4,_),(10,_),(12,_),(28,_),(29,_),(33,_),(34,_)] (kk7 rfl) (fun m:Nat=>[(35,int ((m:Nat):Int))]) (fun m:Nat=>m≤(c.room).length∧(∀n r,n<m→c.room[n]? =some r→(c.cnt (AW.zip days) (i*8+n):Int)≤r)) (fun m:Nat=>(c.room).length-m) 0 (⟨Nat.zero_le _,fun n r hn=>absurd hn (by omega)⟩) ⟨ke rfl,trivial⟩ ?_)
 rintro m ⟨U_,VA⟩
 refine ac ?_
 refine Tr.seq ?_
 refine Tr.cn rfl ?_ ?_<;>intro h3 q3
 have JZ:m<(c.room).length:=AQ h3
 obtain ⟨r,HJ⟩:=at_ JZ
 refine a2 ?_
 refine co rfl (AA rfl underlying22 C8 (vl rfl) (vl rfl) (by omega) (by exact Ah (by assumption))) ?_
 refine ac ?_
 refine NO 4 10 12 13 14 28 29 33 34 35 rfl ?_
 refine ac ?_
 refine co rfl (DP rfl underlying176 Qr (vl rfl) (vl rfl) (by omega) (by omega) rfl) (co rfl (DP rfl underlying128 C8 (vl rfl) (vl rfl) (by omega) (by omega) rfl) (co rfl (FN rfl C6 (vl rfl) (OE c _ (by omega) (by omega))) ?_))
 refine ac ?_
 refine l5 4 10 12 28 29 33 34 35 48 rfl ?_
 refine Tr.cn rfl ?_ ?_<;>intro h4 q4
 refine ac ?_
 refine Tr.ret (Fin.Ae (Fin.AE (Fin.AE (Fin.Ae (Fin.Ae (Fin.AE (Fin.AE (Fin.Ae (Fin.AE (Fin.EO rfl (Cq.HN _ _) rfl ?_ rfl ?_))))))))))
 · exact L8 (by unfold Ao.Be;rw [if_neg (not_not_intro hf),if_pos ⟨i,m,r,Is,HJ,by assumption⟩]) (by decide)
 · refine int_eq ?_;unfold Ao.Be;rw [if_neg (not_not_intro hf),if_pos ⟨i,m,r,Is,HJ,by assumption⟩]
 refine a2 ?_
 exact Fin.AP (m+1) ⟨⟨JZ,(Pp VA HJ (by assumption))⟩,by omega⟩ ⟨⟨_,rfl,AF m⟩,ke rfl,ke rfl,ke rfl,ke rfl,ke rfl,ke rfl,ke rfl,trivial⟩
 have Sc:m=(c.room).length:=by have:=AR h3;omega
 subst Sc
 refine a2 ?_
 exact Fin.AP (i+1) ⟨⟨Is,(Po EX VA)⟩,by omega⟩ ⟨⟨_,rfl,AF i⟩,ke rfl,ke rfl,ke rfl,trivial⟩
 have N9:i=(c.Bh).length:=by have:=AR h2;omega
 subst N9
 refine a2 ?_
 refine Tr.ret (Fin.EO rfl (Cq.HN _ _) rfl ?_ rfl ?_)
 · rw [OD (by unfold Ao.Be;rw [if_neg (not_not_intro hf),if_neg (by rintro ⟨i,n,r,h1,h2,h3⟩;have:=EX i n r h1 h2;omega)])];exact Lr
 · refine int_eq ?_;unfold Ao.Be;rw [if_neg (not_not_intro hf),if_neg (by rintro ⟨i,n,r,h1,h2,h3⟩;have:=EX i n r h1 h2;omega)]
theorem bJ {c:Ao} {AW days:List Int}  :A7 prog 35 [HH c,ints AW,ints days] (int (c.Be AW days [])):=by
 refine fo func35 rfl ⟨rfl,rfl⟩ fun M0 w0=> ?_
 refine a2 ?_
 refine co rfl (Ag rfl (U9 (others:=[]) (by simp)) ⟨ke rfl,ke rfl,ke rfl,⟨_,rfl,AL _⟩,trivial⟩) ?_
 refine a3 ?_
 · exact Lr
theorem Xs {c:Ao} {l:List (Int×Int)} {n:Int} {i:Fin c.Bh.length} (hown:c.own=0) (hn:c.has n=true):A7 prog 54 [int ((i.1:Nat):Int),ref [ref (D9 c l)],ref [int n],ref [Gr c.Bh,ints c.FF,ints c.room]] (bool (c.free l n i.1)):=by
 refine fo func54 rfl ⟨rfl,rfl⟩ fun M0 w0=> ?_
 have hw:=GH hown
 obtain ⟨hn0,hr⟩:=Ky hn
 have jK:=My hown hn
 have hi:=i.2
 refine a2 ?_
 refine co rfl (DP rfl underlying176 Qr (vl rfl) (vl rfl) (by omega) (by omega) rfl) (co rfl (DP rfl underlying128 C8 (vl rfl) (vl rfl) (by omega) (by omega) rfl) (co rfl (FN rfl C6 (vl rfl) (Sb c l (by omega) jK)) ?_))
 refine ac ?_
 refine co rfl (AA rfl underlying22 C8 (vl rfl) (vl rfl) (by omega) (Ck hr)) ?_
 refine ac ?_
 refine Fl 5 rfl ?_
 refine ac ?_
 · exact Lr
theorem Xt:Entry Tryz.prog 54:=⟨_,Tryz.func54,rfl,rfl⟩
theorem Pq {c:Ao} {AW days:List Int} {n from_:Int}  :A7 prog 33 [HH c,ints AW,ints days,int n,int from_] (IM [int ((c.early AW days n from_).getD 0),bool (c.early AW days n from_).isSome,int (c.Be AW days [n])]):=by
 refine fo func33 rfl ⟨rfl,rfl⟩ fun M0 w0=> ?_
 refine ac ?_
 refine ao ?_
 refine tp rfl (Ag rfl (U9 (others:=[n]) (by simp)) ⟨ke rfl,ke rfl,ke rfl,(Kf rfl),trivial⟩) ?_
 refine ao ?_
 refine Tl rfl rfl rfl rfl mY fL (fun b1=> ?_)
 refine sf 0 13 ⟨rfl,rfl,rfl⟩ rfl rfl rfl rfl ?_
 refine ao ?_
 refine JD 4 5 8 13 14 rfl ?_
 refine an ?_ ?_<;>intro h1 q1
 refine ac ?_
 refine Tr.ret (Fin.AE (Fin.eB rfl (Cq.HN _ _) rfl ?_ rfl ?_ rfl ?_))
 · refine int_eq ?_;unfold Ao.early;rw [if_neg q1];rfl
 · refine bool_eq ?_;unfold Ao.early;rw [if_neg q1];rfl
 · exact Lr
 have hf:c.Be AW days [n]=0:=q1
 have hown:=DF (DN hf)
 have hn:=Kx (DN hf) n (by simp)
 refine Tr.re 13 rfl (Pr.le_of_eq (by rw [OD hf])) ?_
 refine a2 ?_
 refine co rfl (Ag rfl (bG (room:=c.free (AW.zip days) n)) ⟨ke rfl,ke rfl,ke rfl,⟨_,rfl,Bt Xt (fun i=>Xs (i:=i) hown hn)⟩,trivial⟩) ?_
 refine ac ?_
 refine EZ 15 16 rfl ?_
 refine ac ?_
 refine Tr.ret (Fin.eB rfl (Cq.HN _ _) rfl ?_ rfl ?_ rfl ?_)
 · unfold Ao.early;rw [if_pos hf];exact Lr
 · unfold Ao.early;rw [if_pos hf];exact Lr
 · refine int_eq ?_;exact hf.symm
structure Mz (c:Ao) (n:Nat):Prop where
 own:c.own=0
 room:c.room.length=2
 FF:c.FF.length=n
 top:∀w∈c.Bh,w.hi<200
 some:1≤c.Bh.length
def M4 (w:Dy):Prop:=0≤w.lo∧w.lo<w.hi∧w.hi<200∧H6 w.AW∧∀t∈w.AW,0≤t∧t<2
def GI:List (List Int):=[[0,1],[0,1],[0],[1],[]]
theorem OG {l:List Int} (h:l∈GI):H6 l∧∀t∈l,0≤t∧t<2:=by
 have h01:H6 [0,1]:=by
  intro j a b h1 h2
  match j with
  |0=>simp at h1 h2;subst h1 h2;decide
  |j+1=>simp at h2
 have h1:∀x:Int,H6 [x]:=by intro x j a b _ h2;simp at h2
 have h0:H6 []:=by intro j a b _ h2;simp at h2
 simp [GI] at h
 rcases h with rfl|rfl|rfl|rfl
 · exact ⟨h01,by simp⟩
 · exact ⟨h1 _,by simp⟩
 · exact ⟨h1 _,by simp⟩
 · exact ⟨h0,by simp⟩
theorem Sd {ws:List Dy} {w:Dy} (h:Ku ws) (hw:∀x∈ws,x.hi≤w.lo):Ku (ws++[w]):=by
 intro j a b h1 h2
 rcases Nat.lt_or_ge (j+1) ws.length with hj|hj
 ·
  rw [List.getElem?_append_left (by omega)] at h1
  rw [List.getElem?_append_left hj] at h2
  exact h j a b h1 h2
 ·
  rcases Nat.eq_or_lt_of_le hj with hj|hj
  ·
   rw [List.getElem?_append_left (by omega)] at h1
   rw [List.getElem?_append_right (by omega),←hj,Nat.sub_self] at h2
   simp at h2;subst h2
   exact hw a (List.mem_of_getElem? h1)
  · rw [List.getElem?_eq_none (by simp;omega)] at h2;cases h2
theorem Xu {ws:List Dy} {l room:List Int} (h0:1≤ws.length) (h1:ws.length≤32) (h2:Ku ws) (h3:∀w∈ws,M4 w) (h4:∀t∈l,0≤t∧t<2) (h5:room.length=2) (h6:∀r∈room,0≤r∧r≤24):Mz ⟨ws,l,room⟩ l.length:=by
 have has:∀t:Int,0≤t∧t<2→Ao.has (Ao.mk ws l room) t=true:=by
  intro t ht;unfold Ao.has;simp [h5];omega
 refine ⟨?_,h5,rfl,fun w hw=>(h3 w hw).2.2.1,h0⟩
 unfold Ao.own Ao.check
 rw [if_neg (by simp only [h5];omega),if_neg,if_neg,if_neg,if_neg,if_neg]
 ·
  rintro (h|h)
  · exact h rfl
  ·
   obtain ⟨t,ht,h⟩:=List.any_eq_true.1 h
   simp [has t (h4 t ht)] at h
 ·
  intro h
  obtain ⟨w,hw,h⟩:=List.any_eq_true.1 h
  obtain ⟨t,ht,h⟩:=List.any_eq_true.1 h
  simp [has t ((h3 w hw).2.2.2.2 t ht)] at h
 · exact not_not_intro ⟨h2,fun w hw=>(h3 w hw).2.2.2.1⟩
 ·
  intro h
  obtain ⟨w,hw,h⟩:=List.any_eq_true.1 h
  have:=h3 w hw
  unfold M4 at this
  simp [GG] at h
  omega
 ·
  intro h
  obtain ⟨r,hr,h⟩:=List.any_eq_true.1 h
  have:=h6 r hr
  simp [Fe] at h
  omega
theorem Pt (l:List Int) (x:Int):(l.map fun n=>[int n])++[[int x]]=(l++[x]).map fun n=>[int n]:=by rw [List.map_append];rfl
theorem Se (l:List Dy) (a b:Int) (t:List Int):(l.map GF)++[[int a,int b,ints t]]=(l++[Dy.mk a b t]).map GF:=by rw [List.map_append];rfl
theorem Kz {β:Type} {p:β→Prop} {l:List β} {x:β} (h:∀y∈l,p y) (hx:p x):∀y∈l++[x],p y:=by
 intro y hy
 rcases List.mem_append.1 hy with hy|hy
 · exact h y hy
 · rw [List.mem_singleton.1 hy];exact hx
theorem Pu {b:Nat} {s:DS} {n:Nat} (hn:n≤1000):A9 prog 9 [ptr b 0,int ((n:Nat):Int)] (ex fun c:Ao=>fact (Mz c n) (HH c)) (Bx b s) (fun _=>FP 66 b):=by
 refine A9.of func9 rfl rfl (by exact Nb rfl) fun M0 w0 S rs M1 w1=> ?_
 refine Tr.seq (Tr.Az ?_)
 refine Tl rfl rfl rfl rfl z35 Wb (fun b1=> ?_)
 refine ap ?_
 refine ap ?_
 refine TO.E8 1 rfl rfl (by decide) (AY rfl rfl (by decide) rfl (Kk (l:=[24,2,1]) (by simp) (by simp)) ⟨ke rfl,(Kf rfl),trivial⟩) ?_
 refine ap ?_
 refine TO.E8 1 rfl rfl (by decide) (AY rfl rfl (by decide) rfl (Kk (l:=[24,3]) (by simp) (by simp)) ⟨ke rfl,(Kf rfl),trivial⟩) ?_
 refine tp rfl (AG (xs:=[.tmp 12,.tmp 15]) (rows:=[[_],[_]]) rfl rfl underlying22 C8 z3 rfl (by decide) ⟨⟨(by exact rfl),(Vo rfl)⟩,⟨⟨(by exact rfl),(Vo rfl)⟩,trivial⟩⟩ (by decide)) ?_
 refine tp rfl (Ab (rows:=[(2,[_])]) rfl mG Wb ⟨⟨rfl,⟨_,rfl,Pr.le_trans (Al _ _) (AD _)⟩⟩,trivial⟩ rfl) ?_
 refine Tl rfl rfl rfl rfl z35 Wb (fun b2=> ?_)
 refine ap ?_
 refine ac ?_
 refine Tr.block (Tr.HO 0 [is (.slice none 0 0),AZ (.slice none 0 0) (ints []),ints [s.of [24,2,1],s.BN.of [24,3]]] rfl ⟨Lr,CR rfl,Lr,trivial⟩ (Tr.Cs 3 1 (Tr.Hg [(0,_),(1,_),(4,_),(5,_)] ⟨ke rfl,ke rfl,ke rfl,ke rfl,trivial⟩ (fun (l:List Int) (s':DS) u=>[(6,int ((l.length:Nat):Int))]) (fun (l:List Int) (s':DS) u=>Hp M0 w0 S (As 3 1 u::AB true b2 35 [is (.slice none 0 0),AZ u (ints l),ints [s.of [24,2,1],s.BN.of [24,3]]]::AB true b1 35 [is (.slice none 0 0),is (.slice none 0 0),is (.slice none 0 0)]::Bx b s'::AX M1 w1::rs)) (fun (l:List Int) (s':DS)=>l.length≤n∧∀t∈l,0≤t∧t<2) (fun (l:List Int) (s':DS)=>n-l.length) ([]) (_) (.slice none 0 0) (⟨by simp,by simp⟩) ⟨ke rfl,trivial⟩ (fun _ _ h=>h) ?_)))
 rintro l s' u ⟨hl,hlt⟩
 refine an ?_ ?_<;>intro h1 q1
 have:=h1
 refine ac ?_
 refine Tr.seq (Tr.block (Tr.pad (Tr.rx ?_)))
 refine ax ?_
 refine Cx.ef 4 rfl rfl (by decide) (AY rfl rfl (by decide) rfl (BJ (by omega) (by omega)) ⟨ke rfl,ke rfl,trivial⟩) (xo rfl (fun _=>AG (xs:=[.tmp 26]) (rows:=[[_]]) rfl rfl underlying22 C8 z3 rfl (by decide) ⟨⟨(by exact rfl),(Vo rfl)⟩,trivial⟩ (by decide)) ?_)
 refine Cx.ef 1 rfl rfl (by decide) (Cg rfl rfl rfl rfl underlying22 C8 V9 z3 (Kb rfl) (Kf rfl) (Bk (by exact List.Mem.head _) (Ka rfl))) ?_
 refine xo rfl (fun _=>AO rfl Tf (vl rfl)) (Cx.E3 2 rfl rfl (FB rfl rfl rfl (vl rfl) rfl Ru (by exact Nb rfl)) ?_)
 refine Cx.nil ⟨by kernel_rfl,?_⟩
 refine BH.NV 1 2 28 rfl rfl (by decide) rfl (fun v1=> ?_)
 refine BH.done al6 ?_
 refine ac ?_
 refine Tr.drop 0 (JD 0 1 4 5 6 rfl ?_)
 refine ac ?_
 refine Fin.HO 1 [is (.slice none 0 0),AZ v1 (ints (l++[s'.val 2])),ints [s.of [24,2,1],s.BN.of [24,3]]] rfl ⟨Lr,Ce (Pt _ _),Lr,trivial⟩ ?_
 exact Fin.B7 (l++[s'.val 2]) (_) v1 (⟨⟨by simp;omega,Kz hlt (s'.Ba (by omega))⟩,by simp;omega⟩) ⟨⟨_,rfl,int_eq (by simp)⟩,ke rfl,ke rfl,ke rfl,ke rfl,trivial⟩ (fun _ _ h=>h)
 have:=h1
 refine ac ?_
 refine ap ?_
 refine TO.E8 3 rfl rfl (by decide) (AY rfl rfl (by decide) rfl (BJ (by omega) (by omega)) ⟨ke rfl,ke rfl,trivial⟩) ?_
 refine ap ?_
 refine Tr.seq (Tr.seq ?_)
 have S0:=s'.BN.Ba (n:=4) (by omega)
 refine ap ?_
 refine TO.E8 3 rfl rfl (by decide) (AY rfl rfl (by decide) rfl (BJ (by omega) (by omega)) ⟨ke rfl,ke rfl,trivial⟩) ?_
 refine ap ?_
 refine JD 0 4 5 7 8 rfl (Tr.block ?_)
 have XV:=s'.Ba (n:=4) (by omega)
 refine Tr.HO 1 [AZ (.slice none 0 0) (Gr []),AZ u (ints l),ints [s.of [24,2,1],s.BN.of [24,3]]] rfl ⟨CR rfl,Lr,Lr,trivial⟩ (Tr.Cs 87 3 ?_)
 refine Tr.NS [(0,_),(4,_),(5,_)] ⟨ke rfl,ke rfl,ke rfl,trivial⟩ (fun (ws:List Dy) (fr:Int) (i:Int) (s2:DS) u2=>[(7,int fr),(8,int i)]) (fun (ws:List Dy) (fr:Int) (i:Int) (s2:DS) u2=>Hp M0 w0 S (As 87 3 u2::As 3 1 u::AB true b2 35 [AZ u2 (Gr ws),AZ u (ints l),ints [s.of [24,2,1],s.BN.of [24,3]]]::AB true b1 35 [is (.slice none 0 0),is (.slice none 0 0),is (.slice none 0 0)]::Bx b s2::AX M1 w1::rs)) (fun (ws:List Dy) (fr:Int) (i:Int) (s2:DS)=>0≤i∧(2≤i+ws.length∧i+ws.length≤5)∧0≤fr∧fr≤3+35*ws.length∧Ku ws∧(∀w∈ws,M4 w)∧∀w∈ws,w.hi≤fr) (fun (ws:List Dy) (fr:Int) (i:Int) (s2:DS)=>i.toNat) ([]) (s'.val 4) (2+s'.BN.val 4) (_) (.slice none 0 0) (⟨by omega,by simp;omega,by omega,by simp;omega,by intro j a b h;simp at h,by simp,by simp⟩) ⟨ke rfl,ke rfl,trivial⟩ (fun _ _ h=>h) ?_
 rintro ws fr i s2 u2 ⟨hi,hiw,pL,ql,jL,Y5,hfr⟩
 have hof:s2.of [30,5,1]=30∨s2.of [30,5,1]=5∨s2.of [30,5,1]=1:=by have:=s2.G2 (l:=[30,5,1]) (by simp);simpa using this
 have hv3:=s2.BN.BN.Ba (n:=5) (by omega)
 refine an ?_ ?_<;>intro h2 q2
 have hi0:i>0:=of_decide_eq_true h2
 refine ac ?_
 refine ap ?_
 refine TO.E8 4 rfl rfl (by decide) (AY rfl rfl (by decide) rfl (Kk (l:=[30,5,1]) (by simp) (by simp)) ⟨ke rfl,(Kf rfl),trivial⟩) ?_
 refine ap ?_
 refine O7 0 4 5 7 8 9 rfl (Tr.seq ?_)
 have hv5:=s2.BN.Ba (n:=5) (by omega)
 obtain ⟨tl,lH⟩:=at_ (l:=GI) (k:=(s2.BN.val 5).toNat) (by have:GI.length=5:=rfl;omega)
 have jM:=OG (List.mem_of_getElem? lH)
 refine Tr.pad (Tr.rx ?_)
 refine ax ?_
 refine xo rfl (fun _=>oI) ?_
 refine xo rfl (fun _=>oI) ?_
 refine xo rfl (fun _=>oI) ?_
 refine xo rfl (fun _=>oI) ?_
 refine xo rfl (fun _=>AG (xs:=[.tmp 50,.tmp 51,.tmp 52,.tmp 53,.const (.slice none 0 0)]) (rows:=[[_],[_],[_],[_],[_]]) rfl rfl underlying70 Ru z22 rfl (by decide) ⟨⟨(by exact rfl),⟨_,rfl,Pr.le_trans (Al _ _) (AD _)⟩⟩,⟨⟨(by exact rfl),⟨_,rfl,Pr.le_trans (Al _ _) (AD _)⟩⟩,⟨⟨(by exact rfl),⟨_,rfl,Pr.le_trans (Al _ _) (AD _)⟩⟩,⟨⟨(by exact rfl),⟨_,rfl,Pr.le_trans (Al _ _) (AD _)⟩⟩,⟨⟨(by exact rfl),⟨_,rfl,Pr.le_trans (AL 1) (AD _)⟩⟩,trivial⟩⟩⟩⟩⟩ (by decide)) ?_
 refine xm rfl (Cx.ef 5 rfl rfl (by decide) (AY rfl rfl (by decide) rfl (BJ (by omega) (by omega)) ⟨ke rfl,ke rfl,trivial⟩) (xo rfl (fun _=>AA rfl underlying70 Ru (Kf rfl) (vl rfl) (by omega) (Ck (l:=GI) (f:=fun l=>[ints l]) lH)) ?_))
 refine ax ?_
 refine xo rfl (fun _=>AG (xs:=[.tmp 59]) (rows:=[_]) rfl rfl underlying33 KJ z87 rfl (by decide) ⟨⟨(by exact rfl),(Va rfl)⟩,trivial⟩ (by decide)) ?_
 refine Cx.ef 1 rfl rfl (by decide) (Cg rfl rfl rfl rfl underlying33 KJ mV z87 (Kb rfl) (Kf rfl) (Bk (by exact List.Mem.head _) (Ka rfl))) ?_
 refine xo rfl (fun _=>AO rfl Te (vl rfl)) (Cx.E3 3 rfl rfl (FB rfl rfl rfl (vl rfl) rfl mF (by exact Nb rfl)) ?_)
 refine Cx.nil ⟨by kernel_rfl,?_⟩
 refine BH.NV 1 3 61 rfl rfl (by decide) rfl (fun v2=> ?_)
 refine BH.done al7 (Fin.go (Tr.drop 0 (JD 0 4 5 8 9 rfl ?_)))
 refine ap ?_
 refine TO.E8 4 rfl rfl (by decide) (AY rfl rfl (by decide) rfl (BJ (by omega) (by omega)) ⟨ke rfl,ke rfl,trivial⟩) ?_
 refine ap ?_
 refine ac ?_
 refine Fin.HO 2 [AZ v2 (Gr (ws++[Dy.mk fr (fr+1+s2.of [30,5,1]) tl])),AZ u (ints l),ints [s.of [24,2,1],s.BN.of [24,3]]] rfl ⟨Ce (Se _ _ _ _),Lr,Lr,trivial⟩ ?_
 exact Fin.Ql (ws++[Dy.mk fr (fr+1+s2.of [30,5,1]) tl]) (fr+1+s2.of [30,5,1]+s2.BN.BN.val 5) (i-1) (_) v2 (⟨⟨by omega,by simp;omega,by omega,by simp;omega,Sd jL hfr,Kz Y5 ⟨pL,by show fr<fr+1+_;omega,by show fr+1+_<200;omega,jM.1,jM.2⟩,Kz (fun w hw=>by have:=hfr w hw;omega) (by show fr+1+_≤_;omega)⟩,by omega⟩) ⟨ke rfl,ke rfl,ke rfl,ke rfl,ke rfl,trivial⟩ (fun _ _ h=>h)
 have hi0:¬i>0:=of_decide_eq_false h2
 refine ac ?_
 refine ap ?_
 refine Tr.ret (Fin.Ev 4 _ rfl rfl (Fin.ED [_,_,_,_] rfl (BE.cell 3 rfl rfl Lf O9 rfl (Lr)) ?_ (fun _ _ _ _=>rfl)))
 · exact BW ⟨ws,l,[s.of [24,2,1],s.BN.of [24,3]]⟩ (CS (by have hln:l.length=n:=(by omega);rw [←hln];exact Xu (by omega) (by omega) jL Y5 hlt rfl (by have h1:=s.G2 (l:=[24,2,1]) (by simp);have h2:=s.BN.G2 (l:=[24,3]) (by simp);intro r hr;simp at h1 h2 hr;omega)) (A_ ⟨Aj _ _,Aj _ _,Lr,trivial⟩))
theorem HK {c:Ao} {n:Int} (h:c.check n=0):(c.Bh.length≤32∧c.room.length≤8)∧c.room.any Fe=false∧c.Bh.any GG=false∧Ku c.Bh∧(∀w∈c.Bh,H6 w.AW)∧c.Bh.any (fun w=>w.AW.any fun n=> !c.has n)=false:=by
 unfold Ao.check at h
 split at h
 · cases h
 ·
  split at h
  · cases h
  ·
   split at h
   · cases h
   ·
    split at h
    · cases h
    ·
     split at h
     · cases h
     ·
      rename_i h1 h2 h3 h4 h5
      rw [Classical.not_not] at h4
      exact ⟨by omega,by simpa using h2,by simpa using h3,h4.1,h4.2,by simpa using h5⟩
theorem K0 {c:Ao} (h:c.own=0):Ku c.Bh∧∀w∈c.Bh,0≤w.lo∧w.lo<w.hi:=by
 obtain ⟨_,_,h3,h4,_⟩:=HK h
 refine ⟨h4,fun w hw=> ?_⟩
 rw [List.any_eq_false] at h3
 have:=h3 w hw
 simp [GG] at this
 omega
abbrev L9 (l:List Dy):Prop:=l.Pairwise fun a b=>a.hi≤b.lo
theorem GZ:∀{l:List Dy},Ku l→(∀w∈l,0≤w.lo∧w.lo<w.hi)→L9 l
 |[],_,_=>List.Pairwise.nil
 |[a],_,_=>by simp [L9]
 |a::b::l,h,hw=>by
  have ih:L9 (b::l):=GZ (fun j x y hx hy=>h (j+1) x y (by simpa using hx) (by simpa using hy)) (fun w hm=>hw w (List.mem_cons_of_mem _ hm))
  refine List.Pairwise.cons (fun w hm=> ?_) ih
  have h0:=h 0 a b rfl rfl
  rcases List.mem_cons.1 hm with rfl|hm
  · exact h0
  ·
   have h1:=(List.pairwise_cons.1 ih).1 w hm
   have:=hw b (by simp)
   omega
theorem K1 {k:Int} {w:Dy} (h:CL k w=true):w.lo≤k∧k<w.hi:=by unfold CL at h;simpa using h
theorem jN {k:Int} {w:Dy} (h:w.lo≤k∧k<w.hi):CL k w=true:=by unfold CL;simpa using h
theorem RM {k:Int}:∀{l:List Dy} {w:Dy},L9 l→w∈l→CL k w=true→l.find? (CL k)=some w
 |a::l,w,hp,hm,hin=>by
  rcases List.mem_cons.1 hm with rfl|hm
  · exact List.find?_cons_of_pos hin
  ·
   have h1:=(List.pairwise_cons.1 hp).1 w hm
   have h2:=K1 hin
   rw [List.find?_cons_of_neg (by intro h;have:=K1 h;omega)]
   exact RM (List.pairwise_cons.1 hp).2 hm hin
theorem Xv {c:Ao} {t k:Int} (h:c.own=0):c.may t k=true↔∃w∈c.Bh,CL k w=true∧w.AW.any (fun x=>t==x)=true:=by
 obtain ⟨h1,h2⟩:=K0 h
 unfold Ao.may Ao.N5
 constructor
 ·
  intro hm
  cases hf:c.Bh.find? (CL k) with
  |none=>rw [hf] at hm;cases hm
  |some w=>rw [hf] at hm;exact ⟨w,List.mem_of_find?_eq_some hf,List.find?_some hf,hm⟩
 ·
  rintro ⟨w,hw,hin,ht⟩
  rw [RM (GZ h1 h2) hw hin];exact ht
theorem OH (c:Ao) (l:List (Int×Int)) (x d:Int) (k:Nat):c.cnt (l++[(x,d)]) k=c.cnt l k+if (c.at d).toNat*8+x.toNat=k then 1 else 0:=by
 unfold Ao.cnt
 rw [List.countP_append,List.countP_cons,List.countP_nil]
 simp [Ao.cell]
theorem H9 {c:Ao} {AW days others:List Int} (h:c.CV AW days others=0):AW.length=days.length∧AW.length≤24:=by
 have ho:=DF h
 unfold Ao.CV at h
 rw [if_neg (not_not_intro ho)] at h
 split at h
 · cases h
 ·
  split at h
  · cases h
  · omega
theorem K2 {c:Ao} {AW days others:List Int} (h:c.CV AW days others=0):(AW.zip days).all (fun p=>c.may p.1 p.2)=true:=by
 have ho:=DF h
 unfold Ao.CV at h
 rw [if_neg (not_not_intro ho)] at h
 split at h
 · cases h
 ·
  split at h
  · cases h
  ·
   split at h
   · cases h
   ·
    split at h
    · assumption
    · cases h
theorem Sf {c:Ao} {AW days:List Int} {n:Int} (h:c.has n=true):c.CV AW days [n]=c.CV AW days []:=by
 unfold Ao.CV
 rw [List.any_append,List.append_nil]
 simp [h]
theorem Pv {c:Ao} {AW days:List Int} {n:Int} (h:c.has n=true):c.Be AW days [n]=c.Be AW days []:=by
 unfold Ao.Be;rw [Sf h]
theorem VB {c:Ao} {AW days:List Int} {n d:Int} (h:c.Be AW days [n]=0):c.early AW days n d=c.next n d (c.free (AW.zip days) n):=by
 unfold Ao.early;rw [if_pos h]
theorem bK {k:Int}:∀{l:List Dy} {j:Nat} {w:Dy},L9 l→l[j]? =some w→CL k w=true→idx (CL k) l=j:=by
 intro l j w hp hj hin
 refine (EJ hj hin fun i y hi hy=> ?_).symm
 rw [Bool.eq_false_iff]
 intro hc
 have h1:=K1 hc
 have h2:=K1 hin
 have hij:i<l.length:=by rcases Nat.lt_or_ge i l.length with h|h;exact h;rw [List.getElem?_eq_none h] at hy;cases hy
 have hjl:j<l.length:=by rcases Nat.lt_or_ge j l.length with h|h;exact h;rw [List.getElem?_eq_none h] at hj;cases hj
 have:=List.pairwise_iff_getElem.1 hp i j hij hjl hi
 rw [List.getElem?_eq_getElem hij] at hy
 rw [List.getElem?_eq_getElem hjl] at hj
 simp at hy hj
 rw [hy,hj] at this
 omega
theorem VC {c:Ao} {k:Int} {j:Nat} {w:Dy} (h:c.own=0) (hj:c.Bh[j]? =some w) (hin:CL k w=true):c.at k=j:=by
 obtain ⟨h1,h2⟩:=K0 h
 exact bK (GZ h1 h2) hj hin
theorem H_ {a b:List Int} (h:a.length=b.length) (x y:Int):(a++[x]).zip (b++[y])=a.zip b++[(x,y)]:=by
 rw [List.zip_append h];rfl
theorem Sg {c:Ao} {a b:List Int} {t d:Int} (hf:c.CV a b []=0) (Ko:a.length<24) (ht:c.has t=true) (hm:c.may t d=true):c.CV (a++[t]) (b++[d]) []=0:=by
 have ho:=DF hf
 have hl:=(H9 hf).1
 have h1:=Kx hf
 have h2:=K2 hf
 unfold Ao.CV
 rw [if_neg (not_not_intro ho),if_neg (by simp [hl]),if_neg (by simp;omega),if_neg,H_ hl,List.all_append,h2,if_pos (by simp [hm])]
 rw [Bool.not_eq_true,List.any_eq_false]
 intro n hn
 have:c.has n=true:=by
  rw [List.append_nil] at hn
  rcases List.mem_append.1 hn with hn|hn
  · exact h1 n (List.mem_append_left _ hn)
  · rw [List.mem_singleton.1 hn];exact ht
 simp [this]
theorem Sh {c:Ao} {a b:List Int} {t d:Int} (hf:c.Be a b []=0) (Ko:a.length<24) (ht:c.has t=true) (hm:c.may t d=true) (hr:c.cnt (a.zip b) ((c.at d).toNat*8+t.toNat)<c.HI t):c.Be (a++[t]) (b++[d]) []=0:=by
 have XZ:=DN hf
 have h1:=Sg XZ Ko ht hm
 have ho:=DF XZ
 obtain ⟨h32,h8⟩:=GH ho
 have hl:=(H9 XZ).1
 unfold Ao.Be
 rw [if_neg (not_not_intro h1),if_neg]
 rintro ⟨i,n,r,hi,hn,hc⟩
 rw [H_ hl,OH] at hc
 have jK:n<8:=by
  rcases Nat.lt_or_ge n c.room.length with h|h
  · omega
  · rw [List.getElem?_eq_none h] at hn;cases hn
 have ht8:=My ho ht
 have hno:¬c.over (a.zip b):=by
  unfold Ao.Be at hf
  rw [if_neg (not_not_intro XZ)] at hf
  intro hh;rw [if_pos hh] at hf;cases hf
 have hle:(c.cnt (a.zip b) (i*8+n):Int)≤r:=by
  rcases Int.lt_or_le r (c.cnt (a.zip b) (i*8+n):Int) with h|h
  · exact absurd ⟨i,n,r,hi,hn,h⟩ hno
  · exact h
 split at hc
 ·
  rename_i he
  have e1:(c.at d).toNat=i:=by omega
  have e2:t.toNat=n:=by omega
  have:=(Ky ht).2
  rw [e2,hn] at this
  simp at this
  rw [e1,e2] at hr
  omega
 · omega
theorem VD {c:Ao} (h:c.own=0):c.Be [] [] []=0:=by
 have hf:c.CV [] [] []=0:=by
  unfold Ao.CV
  rw [if_neg (not_not_intro h),if_neg (by simp),if_neg (by simp),if_neg (by simp),if_pos (by rfl)]
 unfold Ao.Be
 rw [if_neg (not_not_intro hf),if_neg]
 rintro ⟨i,n,r,_,hn,hc⟩
 have h2:=(HK (show c.check c.FF.length=0 from h)).2.1
 rw [List.any_eq_false] at h2
 have:=h2 r (List.mem_of_getElem? hn)
 simp [Fe] at this
 simp [Ao.cnt] at hc
 omega
theorem JM {t d x:Int} {room:Nat→Bool}:∀{l:List Dy} {i:Nat},DE t d room i l=some x→L9 l→(∀w∈l,0≤w.lo∧w.lo<w.hi)→
  d≤x∧(∃(j:Nat) (w:Dy),l[j]? =some w∧CL x w=true∧w.AW.any (fun y=>t==y)=true∧room (i+j)=true)∧∀k,d≤k→k<x→∀(j:Nat) (w:Dy),l[j]? =some w→CL k w=true→¬(w.AW.any (fun y=>t==y)=true∧room (i+j)=true)
 |[],_,h,_,_=>by cases h
 |a::l,i,h,hp,hw=>by
  have ha:=hw a (by simp)
  unfold DE at h
  split at h
  ·
   rename_i hc
   simp only [Option.some.injEq] at h
   subst h
   refine ⟨by omega,⟨0,a,rfl,jN (by omega),hc.2.1,hc.2.2⟩,fun k hk hx j w hj hin=> ?_⟩
   have:=K1 hin
   match j with
   |0=>simp at hj;subst hj;omega
   |j+1=>
    have h1:=(List.pairwise_cons.1 hp).1 w (List.mem_of_getElem? (by simpa using hj))
    omega
  ·
   rename_i hc
   obtain ⟨h1,⟨j,w,hj,h2,h3,h5⟩,h4⟩:=JM h (List.pairwise_cons.1 hp).2 (fun w hm=>hw w (List.mem_cons_of_mem _ hm))
   refine ⟨h1,⟨j+1,w,by simpa using hj,h2,h3,by rw [show i+(j+1)=i+1+j by omega];exact h5⟩,fun k hk hx j u hu hin=> ?_⟩
   match j with
   |0=>
    simp at hu;subst hu
    have:=K1 hin
    exact fun h=>hc ⟨by omega,h.1,h.2⟩
   |j+1=>
    have:=h4 k hk hx j u (by simpa using hu) hin
    rwa [show i+(j+1)=i+1+j by omega]
def Ao.Rt (c:Ao) (l:List (Int×Int)) (t k:Int):Bool:=c.may t k&&decide ((c.cnt l ((c.at k).toNat*8+t.toNat):Int)<c.HI t)
theorem Xw {c:Ao} {l:List (Int×Int)} {t k:Int} (h:c.own=0):c.Rt l t k=true↔∃(j:Nat) (w:Dy),c.Bh[j]? =some w∧CL k w=true∧w.AW.any (fun y=>t==y)=true∧c.free l t j=true:=by
 unfold Ao.Rt
 rw [Bool.and_eq_true,Xv h,decide_eq_true_eq]
 constructor
 ·
  rintro ⟨⟨w,hw,h1,h2⟩,h3⟩
  obtain ⟨j,hj⟩:=List.mem_iff_getElem?.1 hw
  refine ⟨j,w,hj,h1,h2,?_⟩
  rw [VC h hj h1,Int.toNat_natCast] at h3
  simpa [Ao.free] using h3
 ·
  rintro ⟨j,w,hj,h1,h2,h3⟩
  refine ⟨⟨w,List.mem_of_getElem? hj,h1,h2⟩,?_⟩
  rw [VC h hj h1,Int.toNat_natCast]
  simpa [Ao.free] using h3
theorem VE {c:Ao} {a b:List Int} {t k:Int} (hf:c.Be a b []=0) (Ko:a.length<24) (ht:c.has t=true):decide (c.Be (a++[t]) (b++[k]) []=0)=c.Rt (a.zip b) t k:=by
 have XZ:=DN hf
 have ho:=DF XZ
 obtain ⟨hl,_⟩:=H9 XZ
 have ht8:=My ho ht
 rw [Bool.eq_iff_iff,decide_eq_true_eq,Ao.Rt,Bool.and_eq_true,decide_eq_true_eq]
 constructor
 ·
  intro h
  have h0:=DN h
  have hm:=K2 h0
  rw [H_ hl,List.all_append,Bool.and_eq_true] at hm
  have hm1:c.may t k=true:=by simpa using hm.2
  refine ⟨hm1,?_⟩
  unfold Ao.Be at h
  rw [if_neg (not_not_intro h0)] at h
  have hno:¬c.over ((a++[t]).zip (b++[k])):=by intro hh;rw [if_pos hh] at h;cases h
  have hat:=U6 hm1
  have hai:(c.at k).toNat<c.Bh.length:=by have:=(L6 (CL k) c.Bh).2;unfold Ao.at at*;omega
  have hr:=(Ky ht).2
  rcases Int.lt_or_le (c.cnt (a.zip b) ((c.at k).toNat*8+t.toNat)) (c.HI t) with h5|h5
  · exact h5
  ·
   refine absurd ⟨(c.at k).toNat,t.toNat,c.HI t,hai,hr,?_⟩ hno
   rw [H_ hl,OH,if_pos (by omega)]
   omega
 ·
  rintro ⟨h1,h2⟩
  exact Sh hf Ko ht h1 h2
end Go.Proofs.YtppdobdifkefcaaGreatDoor
