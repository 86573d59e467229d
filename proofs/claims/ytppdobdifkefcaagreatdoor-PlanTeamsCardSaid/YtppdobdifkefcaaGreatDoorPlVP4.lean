/-
  Part 4 of the texts that prove this claim, merged.
-/
import Derived.Test.YtppdobdifkefcaaGreatDoorPlVP3
set_option linter.all false
set_option maxRecDepth 40000
set_option maxHeartbeats 16000000
namespace Go.Proofs.YtppdobdifkefcaaGreatDoor
open Go Go.RowKit Cp Go.Proofs.Tryz
abbrev H8 (name:List UInt8) (a b id to key s:Int):Gt:=⟨id,[114,111,111,116],name,a,b,id,3,0,0,to,false,0,[name],key,s⟩
abbrev Fc (name:List UInt8) (a b id to key s:Int):QK:=⟨a,b,id,[H8 name a b id to key s]⟩
abbrev av (name:List UInt8) (a b id to key:Int):Pr:=Cp.ex fun s:Int=>fact (0≤s∧s<4294967296) (agg (L4 (Fc name a b id to key s)))
theorem az   :A9 prog 24 [] (agg [int 5,int 2048]):=by
 refine fo func24 rfl ⟨rfl,rfl⟩ fun M0 w0=>(Tr.seq (Tr.As ?_))
 refine Tl rfl rfl rfl rfl HQ DD (fun b1=> ?_)
 refine ap ?_
 refine ap ?_
 refine Tr.ret (Fin.Cm rfl (BK.cell 0 rfl rfl Bj Cn rfl (Lr)) ?_)
 · exact Lr
theorem rH   :A9 prog 28 [] (agg [int 7,int 256]):=by
 refine fo func28 rfl ⟨rfl,rfl⟩ fun M0 w0=>(Tr.seq (Tr.As ?_))
 refine Tl rfl rfl rfl rfl HQ DD (fun b1=> ?_)
 refine ap ?_
 refine ap ?_
 refine Tr.ret (Fin.Cm rfl (BK.cell 0 rfl rfl Bj Cn rfl (Lr)) ?_)
 · exact Lr
theorem Qx {name:List UInt8} {a b id to key:Int} (hv:CC (H8 name a b id to 0 0)=true) (ht:(H8 name a b id to 0 0).T2) (hk:0≤key∧key≤2147483648):A9 prog 23 [str name,agg [int a,int b],int id,int key,int to] (av name a b id to key):=by
 refine fo func23 rfl ⟨rfl,rfl⟩ fun M0 w0=>(Tr.seq (Tr.As (tp rfl (Dh rfl (Va rfl)) ?_)))
 refine Tl rfl rfl rfl rfl cB Qe (fun b1=> ?_)
 refine ap ?_
 refine ap ?_
 refine tp rfl (Ad (rows:=[(0,[_]),(1,[_]),(2,[_]),(3,_),(4,[_]),(5,_),(7,[_]),(10,[_])]) rfl iy KY ⟨⟨rfl,(Vo rfl)⟩,⟨⟨rfl,(Vo rfl)⟩,⟨⟨rfl,(Vo rfl)⟩,⟨⟨rfl,(Va rfl)⟩,⟨⟨rfl,(Vo rfl)⟩,⟨⟨rfl,(Va rfl)⟩,⟨⟨rfl,(Vo rfl)⟩,⟨⟨rfl,⟨_,rfl,Pr.le_trans (Am _ _) (AD _)⟩⟩,trivial⟩⟩⟩⟩⟩⟩⟩⟩ rfl) (TO.re 20 (agg (DN (H8 name a b id to 0 0))) rfl (Pr.le_of_eq rfl) ?_)
 refine Tl rfl rfl rfl rfl z107 KY (fun b2=> ?_)
 refine ap ?_
 refine K5 2 3 6 10 11 rfl ?_
 refine ap ?_
 refine tp rfl (DK (WG (c:=H8 name a b id to 0 0) hv ht hk) rfl rfl rfl) ?_
 refine TO.ex 24 rfl (fun z24=>TO.fact 24 rfl fun rI=> ?_)
 refine ap ?_
 refine ap ?_
 refine tp rfl (Ad (rows:=[(0,_),(1,[_]),(2,[_])]) rfl iX Qe ⟨⟨rfl,(Va rfl)⟩,⟨⟨rfl,(Vo rfl)⟩,⟨⟨rfl,⟨_,rfl,Pr.le_trans (Am _ _) (AD _)⟩⟩,trivial⟩⟩⟩ rfl) ?_
 refine ap ?_
 refine Tr.drop 0 (FD 10 rfl (Tr.ret (Fin.Cm rfl (BK.cell 0 rfl rfl Ou Kv rfl (Lr)) ?_)))
 · exact Bp z24 (Dx rI (Lr))
def HC (s:DS) (l:List (List UInt8)):List UInt8:=(l[(s.val l.length).toNat]?).getD []
theorem PF {b:Nat} {s:DS} {l:List (List UInt8)} (hl:l≠[]) (gh:l.length≤1000000000):BJ prog 26 [ptr b 0,Y2 l] (str (HC s l)) (Cw b s) (fun _=>Cw b s.Bo):=by
 refine BJ.of func26 rfl rfl (by exact Nb rfl) fun M0 w0 S rs M1 w1=> ?_
 have aZ:1≤(l.length:Int):=by have:=List.length_pos_iff.2 hl;omega
 have hv:=s.Ca aZ
 obtain ⟨x,hx⟩:=at_ (l:=l) (k:=(s.val l.length).toNat) (by omega)
 refine ac ?_
 refine ap ?_
 refine TO.Hu 0 rfl rfl (by decide) (Ag rfl rfl (by decide) rfl (Bx (by omega) (by omega)) ⟨ke rfl,ke rfl,trivial⟩) (tp rfl (AA rfl underlying67 KV (vl rfl) (vl rfl) (by omega) (Cf hx)) ?_)
 refine ap ?_
 refine Tr.ret (Fin.F5 [] rfl (BK.tmp rfl (Lr)) ?_ (fun _ _ _ _=>rfl))
 · refine Pr.le_of_eq ?_;unfold HC;rw [hx];rfl
def EK:List (List UInt8):=[[97,112,112],[100,98],[119,101,98]]
def Ky:List (List Int):=[[10,8,2],[8,2],[2,10,8,3]]
def Ih (i:Int):List Int:=(Ky[i.toNat]?).getD []
theorem ZJ {i:Int} (h:0≤i∧i<3):(Ky.map fun l=>[ints l])[i.toNat]? =some [ints (Ih i)]:=by
 have hl:i.toNat<Ky.length:=by show i.toNat<3;omega
 unfold Ih
 rw [List.getElem?_map,List.getElem?_eq_getElem hl];rfl
theorem PG {i:Int} (h:0≤i∧i<3):Ih i∈Ky:=by
 have hl:i.toNat<Ky.length:=by show i.toNat<3;omega
 unfold Ih
 rw [List.getElem?_eq_getElem hl];exact List.getElem_mem hl
structure T4 (i:Nat) (e:Ez):Prop where
 name:EK[i]? =some e.name
 least:e.least=1
 most:e.most=3∨e.most=4
 Bc:e.Bc∈Ky∨∃l∈Ky,e.Bc=14::l
 ids:∃s:Int,(0≤s∧s<4294967296)∧e.ids=[Fc e.name 5 2048 (100+(i:Nat)) 901 1 s]
 anchors:e.anchors=[1]
 hashes:e.hashes=[2,3]
def WH (es:List Ez):Prop:=∀(i:Nat) e,es[i]? =some e→T4 i e
theorem PI {es:List Ez} {e:Ez} (h:WH es) (he:T4 es.length e):WH (es++[e]):=by
 intro i x hx
 rcases Nat.lt_or_ge i es.length with hi|hi
 · rw [List.getElem?_append_left hi] at hx;exact h i x hx
 ·
  rcases Nat.eq_or_lt_of_le hi with hi|hi
  · subst hi;rw [List.getElem?_append_right (Nat.le_refl _),Nat.sub_self] at hx;simp at hx;subst hx;exact he
  · rw [List.getElem?_eq_none (by simp;omega)] at hx;cases hx
theorem OB {nm:List UInt8} {k:Nat} (h:EK[k]? =some nm) {s:Int} (hs:0≤s∧s<4294967296) {key:Int} (hk:0≤key∧key≤2):CC (H8 nm 5 2048 (100+(k:Nat)) 901 key s)=true:=by
 have hlt:k<3:=BM h
 have hn:named nm=true:=by
  have hm:=List.mem_of_getElem? h
  revert hm;unfold EK;intro hm;simp at hm
  rcases hm with rfl|rfl|rfl<;>decide
 refine Sa ⟨?_,?_,by show named [114,111,111,116]=true;decide,hn,?_,by show EJ 5 2048 2=true;decide+kernel,?_,?_,by show EJ 3 0 1=true;decide+kernel,hk.1,?_,hs.1,hs.2,by show (0:Int)≤0;omega,by show (0:Int)≤901;omega,by show (901:Int)≤40000;omega,by show (0:Int)≤0;omega,by show (0:Int)≤8;omega,.inr rfl⟩
 · show 0≤(100:Int)+(k:Nat);omega
 · show (100:Int)+(k:Nat)≤_;omega
 ·
  show D4 [nm]=true
  unfold D4;rw [Bool.and_eq_true];refine ⟨Ba.2 fun j hj=> ?_,by simp⟩
  have:j=0:=by simp at hj;omega
  subst this;unfold nameAt;simp [hn]
 · show 0≤(100:Int)+(k:Nat);omega
 · show (100:Int)+(k:Nat)≤_;omega
 · show key≤_;omega
theorem NG {nm:List UInt8} {k:Nat} (h:k<3):(H8 nm 5 2048 (100+(k:Nat)) 901 0 0).T2:=
 ⟨by show (100:Int)+(k:Nat)≤40000;omega,by show (100:Int)+(k:Nat)≤40000;omega,⟨by show (0:Int)≤5;omega,by show (5:Int)≤40000;omega⟩,⟨by show (0:Int)≤2048;omega,by show (2048:Int)≤40000;omega⟩,⟨by show (0:Int)≤3;omega,by show (3:Int)≤40000;omega⟩,⟨by show (0:Int)≤0;omega,by show (0:Int)≤40000;omega⟩⟩
theorem WI {β:Type} {l:List β} {n k:Nat} {x:β} (h:(l.take n)[k]? =some x):l[k]? =some x:=by
 have hlt:=BM h
 rw [List.length_take] at hlt
 rw [List.getElem?_take,if_pos (by omega)] at h;exact h
theorem WJ (i:Int):(Ih i).length≤4:=by
 unfold Ih
 cases h:Ky[i.toNat]? with
 |none=>show 0≤4;omega
 |some l=>
  have hm:=List.mem_of_getElem? h
  show l.length≤4
  unfold Ky at hm;simp at hm
  rcases hm with rfl|rfl|rfl<;>simp
theorem eC (s:DS):s.of [3,3,4]=3∨s.of [3,3,4]=4:=by have:=s.Nt (l:=[3,3,4]) (by simp);simp at this;exact this
abbrev lH:List (List Int):=Ky++Ky.map (14:: ·)
theorem Kh {i:Nat} {e:Ez} (h:T4 i e):e.Bc∈lH:=by
 rcases h.Bc with h|⟨l,h,h2⟩
 · exact List.mem_append_left _ h
 · rw [h2];exact List.mem_append_right _ (List.mem_map_of_mem h)
theorem Sd:∀l∈lH,Ed l=true∧l.length≤5:=by decide+kernel
theorem OC:∀n∈EK,Gg n=true∧n.length≤3:=by decide+kernel
theorem ZK:[2,3].all G6=true:=by decide+kernel
theorem ZL:EJ 5 2048 2=true:=by decide+kernel
theorem WK {nm:List UInt8} {k:Nat} {id:Int} (h:EK[k]? =some nm) (hid:id=100+(k:Nat)) {s:Int} (hs:0≤s∧s<4294967296):Th (Fc nm 5 2048 id 901 1 s)=true:=by
 subst hid
 have hk:k<3:=BM h
 have hv:=OB h hs (key:=1) (by omega)
 have hk2:EI (100+(k:Nat))=true:=by unfold EI;simp;omega
 unfold Th L3;simp only [ZL,hk2,List.all_cons,List.all_nil,hv];simp
theorem ZM {i:Nat} {e:Ez} (h:T4 i e):ak e:=by
 have hn:=OC _ (List.mem_of_getElem? h.name)
 have hs:=Sd _ (Kh h)
 obtain ⟨s,hs1,Uk⟩:=h.ids
 have hm:=h.most;have hl:=h.least
 refine ⟨hn.1,by omega,by omega,by omega,hs.1,by rw [Uk];simp,by rw [h.anchors];simp,by rw [h.anchors];decide,by rw [h.hashes];decide,?_,by rw [h.anchors];decide,by rw [h.hashes];exact ZK⟩
 rw [Uk];simp only [List.all_cons,List.all_nil,WK h.name rfl hs1,Bool.and_self]
theorem T5 {i:Nat} {e:Ez} (h:T4 i e):e.fits:=by
 have hn:=OC _ (List.mem_of_getElem? h.name)
 obtain ⟨s,hs1,Uk⟩:=h.ids
 refine ⟨by unfold maxLen;omega,fun x hx c hc=> ?_⟩
 rw [Uk] at hx;simp at hx;subst hx;simp at hc;subst hc
 exact ⟨by show 4≤maxLen;unfold maxLen;omega,by show e.name.length≤maxLen;unfold maxLen;omega,fun n hn2=>by simp at hn2;subst hn2;unfold maxLen;omega⟩
theorem Qy {i:Nat} {e:Ez} (h:T4 i e):e.small:=by
 have hs:=Sd _ (Kh h)
 obtain ⟨s,hs1,Uk⟩:=h.ids
 refine ⟨by omega,by rw [h.anchors];simp,by rw [h.hashes];simp,by rw [Uk];simp,fun x hx=> ?_⟩
 rw [Uk] at hx;simp at hx;subst hx
 exact ⟨by simp,fun c hc=>by simp at hc;subst hc;simp⟩
theorem lI {nm:List UInt8} (h:nm∈EK) {a b id key s:Int} (hab:(a=5∧b=2048)∨(a=7∧b=256)) (hid:0≤id∧id≤1000) (hs:0≤s∧s<4294967296) (hk:0≤key∧key≤2):CC (H8 nm a b id 901 key s)=true:=by
 have hn:named nm=true:=by
  revert h;unfold EK;intro hm;simp at hm
  rcases hm with rfl|rfl|rfl<;>decide
 have hof:EJ a b 2=true:=by rcases hab with ⟨rfl,rfl⟩|⟨rfl,rfl⟩<;>decide+kernel
 refine Sa ⟨?_,?_,by show named [114,111,111,116]=true;decide,hn,?_,hof,?_,?_,by show EJ 3 0 1=true;decide+kernel,hk.1,?_,hs.1,hs.2,by show (0:Int)≤0;omega,by show (0:Int)≤901;omega,by show (901:Int)≤40000;omega,by show (0:Int)≤0;omega,by show (0:Int)≤8;omega,.inr rfl⟩
 · show 0≤id;omega
 · show id≤_;omega
 ·
  show D4 [nm]=true
  unfold D4;rw [Bool.and_eq_true];refine ⟨Ba.2 fun j hj=> ?_,by simp⟩
  have:j=0:=by simp at hj;omega
  subst this;unfold nameAt;simp [hn]
 · show 0≤id;omega
 · show id≤_;omega
 · show key≤_;omega
theorem lJ {nm:List UInt8} {a b id:Int} (hab:(a=5∧b=2048)∨(a=7∧b=256)) (hid:0≤id∧id≤1000):(H8 nm a b id 901 0 0).T2:=
 ⟨by show id≤40000;omega,by show id≤40000;omega,⟨by show (0:Int)≤a;omega,by show a≤40000;omega⟩,⟨by show (0:Int)≤b;omega,by show b≤40000;omega⟩,⟨by show (0:Int)≤3;omega,by show (3:Int)≤40000;omega⟩,⟨by show (0:Int)≤0;omega,by show (0:Int)≤40000;omega⟩⟩
structure rJ (es:List Ez) (c:B8):Prop where
 lo:0≤c.BA
 hi:c.BA<(es.length:Nat)
 kind:1≤c.kind∧c.kind≤12
 fits:c.JM.fits
 small:c.JM.small
abbrev eD (nm:List UInt8) (a b id to key:Int):Pr:=Cp.ex fun s:Int=>fact (0≤s∧s<4294967296) (M8 [H8 nm a b id to key s])
theorem lK {nm:List UInt8} (h:nm∈EK) {a b id key s:Int}:(Fc nm a b id 901 key s).fits∧(Fc nm a b id 901 key s).small:=by
 have hn:=(OC _ h).2
 refine ⟨fun c hc=> ?_,⟨by simp,fun c hc=>by simp at hc;subst hc;simp⟩⟩
 simp at hc;subst hc
 exact ⟨by show 4≤maxLen;unfold maxLen;omega,by show nm.length≤maxLen;unfold maxLen;omega,fun n hn2=>by simp at hn2;subst hn2;unfold maxLen;omega⟩
end Go.Proofs.YtppdobdifkefcaaGreatDoor
namespace Cp
open Go Go.RowKit
theorem Se {P:Program} {E:Env} {I:B6} {o:Oper} {t e:TypeId} {y:Operand} {sz bytes:Nat} {zs:List Value} {rows:List (List Pr)} (ho:o.op= .call { callee:= .builtin .append,args:= #[.const (.slice none 0 0),y],argTypes:= #[t,t] })
  (ht:P.underlying t=some (.slice e)) (hz:Af P e=some sz) (hby:Bb P e=some bytes) (DV:A7 P e=some zs) (hzl:zs.length=sz) (hsz:0<sz) (hy:VL E y (slice sz rows)) (EP:rows.length≤maxLen) (hfit:rows.length*bytes≤140737488355328):AR P I o E (slice sz rows):=
 AR.val fun M w a he hI=>by
  have h0:=(Al.begin (I.bd _ _ hI)).Hj (r:=BC) rfl trivial
  obtain ⟨v',w',M',h1,h2,h3,h4⟩:=Ob (ty:=o.type) (j:=0) (v:= .slice none 0 0) (rows:=[]) ht hz hby DV hzl hsz h0 rfl (.inr ⟨rfl,rfl⟩) (AV sz M w _ rfl) (hy.ev he (by simp [ho,Op.operands,Call.operands])) (by simpa using EP) (by simpa using hfit)
  have h5:a.eval (.const (.slice none 0 0))= .slice none 0 0:=rfl
  exact ⟨v',w',by simp [execOp,ho,resolve,invoke,builtin,h1,h5],(slice sz rows).st _ _ _ _ _ (Ext.less h4.m) (by simpa using h2),h4.below⟩
end Cp
namespace Go.Proofs.YtppdobdifkefcaaGreatDoor
open Go Go.RowKit Cp Go.Proofs.Tryz
deriving instance DecidableEq for Gt
deriving instance DecidableEq for QK
deriving instance DecidableEq for Ez
deriving instance DecidableEq for B8
section
variable {α:Type} {p:α→Bool} {l:List α} {a:α} {i:Nat}
end
theorem Qz {l:List Int} (h:Ed l=true) {i j:Nat} {n:Int} (hi:l[i]? =some n) (hj:l[j]? =some n):i=j:=by
 unfold Ed at h;rw [Ba] at h
 have key:∀{a b:Nat},a<b→l[a]? =some n→l[b]? =some n→False:=by
  intro a b hab ha hb
  have:=h b (BM hb)
  unfold Ck at this
  rw [getD_at hb] at this
  simp only [Bool.and_eq_true,Bool.not_eq_true',List.any_eq_false] at this
  have:=this.2 n (List.mem_of_getElem? (show (l.take b)[a]? =some n by rw [List.getElem?_take,if_pos hab];exact ha))
  simp at this
 rcases Nat.lt_trichotomy i j with h1|h1|h1
 · exact (key h1 hi hj).elim
 · exact h1
 · exact (key h1 hj hi).elim
def ZN (n:Nat):Bool:=decide ((97≤n∧n≤122)∨(65≤n∧n≤90)∨(48≤n∧n≤57)∨n=45∨n=95∨n=46)
theorem Q0:∀n∈List.range 256,Bv [45,95,46] (UInt8.ofNat n)=ZN n:=by decide+kernel
theorem NH (c:UInt8):Bv [45,95,46] c=ZN c.toNat:=by
 have h:=Q0 c.toNat (List.mem_range.2 c.toNat_lt)
 rw [UInt8.ofNat_toNat] at h;exact h
theorem WL {s:List UInt8}  :A9 prog 83 [str s] (bool (Gg s)):=by
 refine fo func83 rfl ⟨rfl,rfl⟩ fun M0 w0=> ?_
 refine ac ?_
 refine ag ?_ ?_<;>intro h1 q1
 refine a3 ?_
 · refine bool_eq ?_;unfold Gg;rw [Bool.and_eq_false_iff.2 (.inr (by simp;omega))]
 refine an ?_ ?_<;>intro h2 q2
 refine a2 ?_
 · refine bool_eq ?_;unfold Gg;rw [Bool.and_eq_false_iff.2 (.inr (by simp;omega))]
 refine a2 ?_
 refine Tr.block (Tr.BH [(0,_)] ⟨ke rfl,trivial⟩ (fun k:Nat=>[(3,int ((k:Nat):Int))]) (fun k:Nat=>k≤(s).length∧(∀j y,j<k→s[j]? =some y→(!Bv [45,95,46] y)=false)) (fun k:Nat=>(s).length-k) 0 (⟨Nat.zero_le _,fun j y hj=>absurd hj (by omega)⟩) ⟨ke rfl,trivial⟩ ?_)
 rintro k ⟨BR,AG⟩
 refine an ?_ ?_<;>intro h3 q3
 have Aa:k<(s).length:=AL h3
 obtain ⟨c,AY⟩:=at_ Aa
 · repeat' first|(refine bool_eq ?_;unfold Gg;rw [GP (p:=Bv [45,95,46]) AY (by rw [NH];unfold ZN;simp;omega)];rfl)|(exact Fin.AK (k+1) ⟨⟨Aa,CB (p:=fun c=> !Bv [45,95,46] c) AY (by rw [NH];unfold ZN;simp;omega) AG⟩,by omega⟩ ⟨⟨_,rfl,AE k⟩,ke rfl,trivial⟩)|refine co rfl (N1 rfl underlying9 (vl rfl) (vl rfl) (by omega) (N2 (by assumption))) ?_|refine ac ?_|(refine Tr.cn rfl ?_ ?_<;>intro h q)|(refine Ch.cg rfl rfl rfl ?_ ?_<;>intro h q)
 have A_:k=(s).length:=by have:=AM h3;omega
 subst A_
 refine a3 ?_
 · refine bool_eq ?_;unfold Gg;rw [EH AG,Bool.true_and];symm;rw [decide_eq_true_eq];omega
theorem CE {a b:Int}  :A9 prog 133 [int a,int b] (agg [int a,int b]):=by
 refine fo func133 rfl ⟨rfl,rfl⟩ fun M0 w0=>(Tr.seq (Tr.As ?_))
 refine Tl rfl rfl rfl rfl HQ DD (fun b1=> ?_)
 refine ap ?_
 refine ap ?_
 refine Tr.ret (Fin.Cm rfl (BK.cell 0 rfl rfl Bj Cn rfl (Lr)) ?_)
 · exact Lr
theorem Bm {a l m x1 y1 x2 y2 x3 y3 x4 y4:Int} {s:List UInt8}  :A9 prog 134 [int a,str s,agg [int x1,int y1],agg [int x2,int y2],agg [int x3,int y3],agg [int x4,int y4],int l,int m] (agg B4):=by
 refine A9.of func134 rfl rfl (by exact Nb rfl) fun M0 w0=> ?_
 refine Tr.seq (Tr.As ?_)
 iterate 4 refine tp rfl (Dh rfl (Va rfl)) ?_
 refine Tl rfl rfl rfl rfl z157 JE (fun b1=> ?_)
 refine TO.nil (Fin.go (Tr.seq (Tr.As (tm rfl (tm rfl ?_)))))
 iterate 4 refine tp rfl (AF rfl Bj Cn (vl rfl) rfl rfl) ?_
 refine tm rfl (tm rfl (tp rfl (Ad (rows:=[(0,[_]),(1,[_]),(2,_),(3,_),(4,_),(5,_),(6,[_]),(7,[_])]) rfl SK JE ⟨⟨rfl,(Vo rfl)⟩,⟨⟨rfl,(Vo rfl)⟩,⟨⟨rfl,(Va rfl)⟩,⟨⟨rfl,(Va rfl)⟩,⟨⟨rfl,(Va rfl)⟩,⟨⟨rfl,(Va rfl)⟩,⟨⟨rfl,(Vo rfl)⟩,⟨⟨rfl,(Vo rfl)⟩,trivial⟩⟩⟩⟩⟩⟩⟩⟩ rfl) (TO.re 25 (agg B4) rfl (Bw rfl) (TO.Ap 0 rfl rfl rfl (vl rfl) (Va rfl) rfl Ek rfl rfl (TO.nil (Fin.go (FD 16 rfl (Tr.ret (Fin.Cm rfl (BK.cell 0 rfl rfl G1 Ek rfl (Lr)) ?_)))))))))
 · exact Lr
theorem Q1   :A9 prog 114 [] (slice 12 CD):=by
 refine fo func114 rfl ⟨rfl,rfl⟩ fun M0 w0=> ?_
 refine ac ?_
 refine Tr.seq (Tr.As (tp rfl (DK (CE) rfl rfl rfl) (tp rfl (DK (CE) rfl rfl rfl) (tp rfl (Ad (rows:=[]) rfl bz DD trivial rfl) ?_))))
 refine Tl rfl rfl rfl rfl HQ DD (fun b1=> ?_)
 refine Tl rfl rfl rfl rfl HQ DD (fun b2=> ?_)
 refine Tl rfl rfl rfl rfl HQ DD (fun b3=> ?_)
 refine sf 2 1 ⟨rfl,rfl,rfl⟩ rfl rfl rfl rfl ?_
 refine sf 1 2 ⟨rfl,rfl,rfl⟩ rfl rfl rfl rfl ?_
 refine sf 0 3 ⟨rfl,rfl,rfl⟩ rfl rfl rfl rfl ?_
 refine ao ?_
 refine Tr.seq (Tr.As (tp rfl (DK (CE) rfl rfl rfl) (tp rfl (DK (CE) rfl rfl rfl) ?_)))
 refine Tl rfl rfl rfl rfl HQ DD (fun b4=> ?_)
 refine Tl rfl rfl rfl rfl HQ DD (fun b5=> ?_)
 refine sf 1 4 ⟨rfl,rfl,rfl⟩ rfl rfl rfl rfl ?_
 refine sf 0 5 ⟨rfl,rfl,rfl⟩ rfl rfl rfl rfl ?_
 refine ao ?_
 refine K5 1 2 3 4 5 rfl (Tr.seq (Tr.As (tp rfl (DK (CE) rfl rfl rfl) (tp rfl (DK (CE) rfl rfl rfl) (tp rfl (DK (CE) rfl rfl rfl) ?_)))))
 refine Tl rfl rfl rfl rfl HQ DD (fun b6=> ?_)
 refine Tl rfl rfl rfl rfl HQ DD (fun b7=> ?_)
 refine Tl rfl rfl rfl rfl HQ DD (fun b8=> ?_)
 refine sf 2 6 ⟨rfl,rfl,rfl⟩ rfl rfl rfl rfl ?_
 refine sf 1 7 ⟨rfl,rfl,rfl⟩ rfl rfl rfl rfl ?_
 refine sf 0 8 ⟨rfl,rfl,rfl⟩ rfl rfl rfl rfl ?_
 refine ao ?_
 refine Oh 1 2 3 4 5 6 7 8 rfl (Tr.seq (Tr.As ?_))
 iterate 4 refine tp rfl (DK (CE) rfl rfl rfl) ?_
 refine Tl rfl rfl rfl rfl HQ DD (fun b9=> ?_)
 refine Tl rfl rfl rfl rfl HQ DD (fun b10=> ?_)
 refine Tl rfl rfl rfl rfl HQ DD (fun b11=> ?_)
 refine Tl rfl rfl rfl rfl HQ DD (fun b12=> ?_)
 refine sf 3 9 ⟨rfl,rfl,rfl⟩ rfl rfl rfl rfl ?_
 refine sf 2 10 ⟨rfl,rfl,rfl⟩ rfl rfl rfl rfl ?_
 refine sf 1 11 ⟨rfl,rfl,rfl⟩ rfl rfl rfl rfl ?_
 refine sf 0 12 ⟨rfl,rfl,rfl⟩ rfl rfl rfl rfl ?_
 refine ao ?_
 refine iL 1 2 3 4 5 6 7 8 9 10 11 12 rfl (Tr.seq (Tr.As (tp rfl (DK (CE) rfl rfl rfl) (tp rfl (DK (CE) rfl rfl rfl) ?_))))
 refine Tl rfl rfl rfl rfl HQ DD (fun b13=> ?_)
 refine Tl rfl rfl rfl rfl HQ DD (fun b14=> ?_)
 refine sf 1 13 ⟨rfl,rfl,rfl⟩ rfl rfl rfl rfl ?_
 refine sf 0 14 ⟨rfl,rfl,rfl⟩ rfl rfl rfl rfl ?_
 refine ao ?_
 refine YE 1 2 3 4 5 6 7 8 9 10 11 12 13 14 rfl ?_
 refine ac ?_
 refine co rfl (AW rfl (Bm) ⟨ke rfl,ke rfl,ke rfl,ke rfl,ke rfl,ke rfl,ke rfl,ke rfl,trivial⟩) ?_
 refine ac ?_
 refine co rfl (AW rfl (Bm) ⟨ke rfl,ke rfl,ke rfl,ke rfl,ke rfl,ke rfl,ke rfl,ke rfl,trivial⟩) ?_
 refine ac ?_
 refine co rfl (AW rfl (Bm) ⟨ke rfl,ke rfl,ke rfl,ke rfl,ke rfl,ke rfl,ke rfl,ke rfl,trivial⟩) (co rfl (DK (CE) rfl rfl rfl) (co rfl (DK (CE) rfl rfl rfl) ?_))
 refine ac ?_
 refine co rfl (AW rfl (Bm) ⟨ke rfl,ke rfl,ke rfl,ke rfl,ke rfl,ke rfl,ke rfl,ke rfl,trivial⟩) (co rfl (DK (CE) rfl rfl rfl) ?_)
 refine ac ?_
 refine co rfl (AW rfl (Bm) ⟨ke rfl,ke rfl,ke rfl,ke rfl,ke rfl,ke rfl,ke rfl,ke rfl,trivial⟩) ?_
 refine ac ?_
 refine co rfl (AW rfl (Bm) ⟨ke rfl,ke rfl,ke rfl,ke rfl,ke rfl,ke rfl,ke rfl,ke rfl,trivial⟩) (co rfl (DK (CE) rfl rfl rfl) ?_)
 refine ac ?_
 refine co rfl (AW rfl (Bm) ⟨ke rfl,ke rfl,ke rfl,ke rfl,ke rfl,ke rfl,ke rfl,ke rfl,trivial⟩) ?_
 refine ac ?_
 refine co rfl (AW rfl (Bm) ⟨ke rfl,ke rfl,ke rfl,ke rfl,ke rfl,ke rfl,ke rfl,ke rfl,trivial⟩) (co rfl (AF rfl Bj Cn (vl rfl) rfl rfl) (co rfl (DK (CE) rfl rfl rfl) (co rfl (DK (CE) rfl rfl rfl) (co rfl (AF rfl Bj Cn (vl rfl) rfl rfl) (co rfl (AW rfl (Bm) ⟨ke rfl,ke rfl,ke rfl,ke rfl,ke rfl,ke rfl,ke rfl,ke rfl,trivial⟩) ?_)))))
 refine ac ?_
 refine co rfl (AW rfl (Bm) ⟨ke rfl,ke rfl,ke rfl,ke rfl,ke rfl,ke rfl,ke rfl,ke rfl,trivial⟩) (co rfl (DK (CE) rfl rfl rfl) (co rfl (DK (CE) rfl rfl rfl) ?_))
 refine ac ?_
 refine co rfl (AW rfl (Bm) ⟨ke rfl,ke rfl,ke rfl,ke rfl,ke rfl,ke rfl,ke rfl,ke rfl,trivial⟩) ?_
 refine ac ?_
 refine co rfl (AW rfl (Bm) ⟨ke rfl,ke rfl,ke rfl,ke rfl,ke rfl,ke rfl,ke rfl,ke rfl,trivial⟩) ?_
 refine ac ?_
 refine co rfl (AW rfl (Bm) ⟨ke rfl,ke rfl,ke rfl,ke rfl,ke rfl,ke rfl,ke rfl,ke rfl,trivial⟩) ?_
 refine ac ?_
 refine co rfl (AW rfl (Bm) ⟨ke rfl,ke rfl,ke rfl,ke rfl,ke rfl,ke rfl,ke rfl,ke rfl,trivial⟩) ?_
 refine ac ?_
 refine co rfl (AW rfl (Bm) ⟨ke rfl,ke rfl,ke rfl,ke rfl,ke rfl,ke rfl,ke rfl,ke rfl,trivial⟩) (co rfl (DK (CE) rfl rfl rfl) ?_)
 refine ac ?_
 refine co rfl (AW rfl (Bm) ⟨ke rfl,ke rfl,ke rfl,ke rfl,ke rfl,ke rfl,ke rfl,ke rfl,trivial⟩) (co rfl (AQ (xs:=[.tmp 33,.tmp 38,.tmp 43,.tmp 48,.tmp 53,.tmp 58,.tmp 63,.tmp 68,.tmp 73,.tmp 78,.tmp 83,.tmp 88,.tmp 93,.tmp 98,.tmp 103,.tmp 108]) (rows:=CD) rfl rfl underlying180 Ek z157 rfl (by decide) ⟨⟨(by exact rfl),VL.le (vl rfl) (AJ _)⟩,⟨⟨(by exact rfl),VL.le (vl rfl) (AJ _)⟩,⟨⟨(by exact rfl),VL.le (vl rfl) (AJ _)⟩,⟨⟨(by exact rfl),VL.le (vl rfl) (AJ _)⟩,⟨⟨(by exact rfl),VL.le (vl rfl) (AJ _)⟩,⟨⟨(by exact rfl),VL.le (vl rfl) (AJ _)⟩,⟨⟨(by exact rfl),VL.le (vl rfl) (AJ _)⟩,⟨⟨(by exact rfl),VL.le (vl rfl) (AJ _)⟩,⟨⟨(by exact rfl),VL.le (vl rfl) (AJ _)⟩,⟨⟨(by exact rfl),VL.le (vl rfl) (AJ _)⟩,⟨⟨(by exact rfl),VL.le (vl rfl) (AJ _)⟩,⟨⟨(by exact rfl),VL.le (vl rfl) (AJ _)⟩,⟨⟨(by exact rfl),VL.le (vl rfl) (AJ _)⟩,⟨⟨(by exact rfl),VL.le (vl rfl) (AJ _)⟩,⟨⟨(by exact rfl),VL.le (vl rfl) (AJ _)⟩,⟨⟨(by exact rfl),VL.le (vl rfl) (AJ _)⟩,trivial⟩⟩⟩⟩⟩⟩⟩⟩⟩⟩⟩⟩⟩⟩⟩⟩ (by decide)) ?_)
 refine ac ?_
 refine FD 0 rfl ?_
 refine ac ?_
 · exact Am _ _
theorem T6 {code:Int}  :A9 prog 84 [int code] (Iv [agg B4,int (if 1≤code∧code≤16 then 0 else 8)]):=by
 refine fo func84 rfl ⟨rfl,rfl⟩ fun M0 w0=>(Tr.seq (Tr.As ?_))
 refine Tl rfl rfl rfl rfl z157 JE (fun b1=> ?_)
 refine ap ?_
 refine ag ?_ ?_<;>intro h1 q1
 refine ac ?_
 refine Tr.cond rfl (fun _=> ?_) (fun h=>nomatch h)
 refine Tr.seq (Tr.As (tp rfl (Ad (rows:=[]) rfl SK JE trivial rfl) (TO.Ap 0 rfl rfl rfl (vl rfl) (Va rfl) rfl Ek rfl rfl (tm rfl (TO.nil (Fin.go (Tr.ret (Fin.AH (Fin.Hx rfl (BK.cell 0 rfl rfl G1 Ek rfl (Lr)) (BK.tmp rfl (Lr)) ?_)))))))))
 · exact EE ⟨Bw rfl,int_eq (by rw [if_neg];simp_all;omega),trivial⟩
 refine an ?_ ?_<;>intro h2 q2
 refine ap ?_
 refine Tr.ret (Fin.AH (Fin.Hx rfl (BK.cell 0 rfl rfl G1 Ek rfl (Lr)) (BK.tmp rfl (Lr)) ?_))
 · exact EE ⟨Bw rfl,int_eq (by rw [if_neg];simp_all),trivial⟩
 have hin:1≤code∧code≤16:=by omega
 refine ac ?_
 refine Tr.seq (Tr.As (tp rfl (mj (Q1) rfl) ?_))
 refine ap ?_
 refine tp rfl (AA rfl underlying180 Ek (vl rfl) (vl rfl) (by omega) (O_ (by omega))) ?_
 refine ap ?_
 refine CY 2 3 rfl (Tr.ret (Fin.Hx rfl (BK.cell 0 rfl rfl G1 Ek rfl (Lr)) (BK.tmp rfl (Lr)) ?_))
 · exact EE ⟨Lr,int_eq (by rw [if_pos hin]),trivial⟩
theorem WM {l:List Int} {v:Int}  :A9 prog 85 [ints l,int v] (bool (l.any fun x=>v==x)):=by
 refine fo func85 rfl ⟨rfl,rfl⟩ fun M0 w0=>(Tr.Fg 0 rfl fun Hz=> ?_)
 refine a2 ?_
 refine Tr.block (Tr.BH [(0,_),(1,_)] (iO rfl) (fun k:Nat=>[(5,int ((k:Nat):Int))]) (fun k:Nat=>k≤(l).length∧((l.take k).any (fun x=>v==x)=false)) (fun k:Nat=>(l).length-k) 0 (⟨Nat.zero_le _,rfl⟩) ⟨ke rfl,trivial⟩ ?_)
 rintro k ⟨BR,AG⟩
 refine an ?_ ?_<;>intro h1 q1
 have Aa:k<(l).length:=AL h1
 obtain ⟨x,AY⟩:=at_ Aa
 · repeat' first|(refine bool_eq ?_;symm;rw [List.any_eq_true];exact ⟨_,List.mem_of_getElem? AY,by simp_all⟩)|(exact Fin.AK (k+1) ⟨⟨Aa,(by rw [List.take_add_one,AY,List.any_append,AG];simp;omega)⟩,by omega⟩ ⟨⟨_,rfl,AE k⟩,ke rfl,ke rfl,trivial⟩)|refine co rfl (AA rfl underlying22 Ce (vl rfl) (vl rfl) (by omega) (by exact AU (by assumption))) ?_|refine ac ?_|(refine Tr.cn rfl ?_ ?_<;>intro h q)
 have A_:k=(l).length:=by have:=AM h1;omega
 subst A_
 refine a3 ?_
 · refine bool_eq ?_;rw [List.take_length] at AG;exact AG.symm
theorem Au {l:List (List UInt8)}:D4 l=true↔(∀j,j<l.length→nameAt l j=true)∧l.length≤8:=by unfold D4;rw [Bool.and_eq_true,Ba,decide_eq_true_eq]
theorem HV {l:List (List UInt8)} {k:Nat} {s:List UInt8} (hs:l[k]? =some s) (h1:named s=true) (h2:0<k→∃y,l[k-1]? =some y∧Lib.compareBytes y s= -1):nameAt l k=true:=by
 unfold nameAt;rw [hs];simp only [Option.getD_some,h1,Bool.true_and,Bool.or_eq_true,decide_eq_true_eq]
 rcases Nat.eq_zero_or_pos k with h0|h0
 · exact .inl h0
 · obtain ⟨y,hy,hc⟩:=h2 h0;rw [hy];exact .inr hc
theorem Q2 {c:Gt}  :A9 prog 66 [agg (DN c)] (int (if CC c then 0 else 9)):=by
 refine fo func66 rfl ⟨rfl,rfl⟩ fun M0 w0=> ?_
 refine ac ?_
 refine ag ?_ ?_<;>intro h1 q1
 refine ac ?_
 refine CY 1 39 rfl ?_
 refine a2 ?_
 · refine int_eq (if_neg (fun hv=> ?_)).symm;have vf:=Cy hv;obtain ⟨FE,FF,Da,Db,CF,BX,FG,FH,BF,Dc,De,Df,Dg,FI,FJ,FK,FL,FM,FN⟩:=vf;have FO:=(Au.1 CF).2;unfold EJ at BX BF;omega
 refine ag ?_ ?_<;>intro h2 q2
 refine ac ?_
 refine CY 1 39 rfl ?_
 refine a2 ?_
 · refine int_eq (if_neg (fun hv=> ?_)).symm;have vf:=Cy hv;obtain ⟨FE,FF,Da,Db,CF,BX,FG,FH,BF,Dc,De,Df,Dg,FI,FJ,FK,FL,FM,FN⟩:=vf;have FO:=(Au.1 CF).2;unfold EJ at BX BF;omega
 refine ac ?_
 refine cy h2 rfl (CN (Es) rfl rfl) ?_
 refine ag ?_ ?_<;>intro h3 q3
 refine ac ?_
 refine CY 1 39 rfl ?_
 refine a2 ?_
 · refine int_eq (if_neg (fun hv=> ?_)).symm;have vf:=Cy hv;obtain ⟨FE,FF,Da,Db,CF,BX,FG,FH,BF,Dc,De,Df,Dg,FI,FJ,FK,FL,FM,FN⟩:=vf;have FO:=(Au.1 CF).2;unfold EJ at BX BF;simp_all
 refine ac ?_
 refine cy h3 rfl (CN (Es) rfl rfl) ?_
 refine ag ?_ ?_<;>intro h4 q4
 refine ac ?_
 refine CY 1 39 rfl ?_
 refine a2 ?_
 · refine int_eq (if_neg (fun hv=> ?_)).symm;have vf:=Cy hv;obtain ⟨FE,FF,Da,Db,CF,BX,FG,FH,BF,Dc,De,Df,Dg,FI,FJ,FK,FL,FM,FN⟩:=vf;have FO:=(Au.1 CF).2;unfold EJ at BX BF;simp_all
 refine ac ?_
 refine cy h4 rfl (CN (G8) rfl rfl) ?_
 refine ag ?_ ?_<;>intro h5 q5
 refine ac ?_
 refine CY 1 39 rfl ?_
 refine a2 ?_
 · refine int_eq (if_neg (fun hv=> ?_)).symm;have vf:=Cy hv;obtain ⟨FE,FF,Da,Db,CF,BX,FG,FH,BF,Dc,De,Df,Dg,FI,FJ,FK,FL,FM,FN⟩:=vf;have FO:=(Au.1 CF).2;unfold EJ at BX BF;simp_all
 refine ag ?_ ?_<;>intro h6 q6
 refine ac ?_
 refine CY 1 39 rfl ?_
 refine a2 ?_
 · refine int_eq (if_neg (fun hv=> ?_)).symm;have vf:=Cy hv;obtain ⟨FE,FF,Da,Db,CF,BX,FG,FH,BF,Dc,De,Df,Dg,FI,FJ,FK,FL,FM,FN⟩:=vf;have FO:=(Au.1 CF).2;unfold EJ at BX BF;omega
 refine ac ?_
 refine CY 1 39 rfl ?_
 refine Tr.cn rfl ?_ ?_<;>intro h7 q7
 refine a2 ?_
 · refine int_eq (if_neg (fun hv=> ?_)).symm;have vf:=Cy hv;obtain ⟨FE,FF,Da,Db,CF,BX,FG,FH,BF,Dc,De,Df,Dg,FI,FJ,FK,FL,FM,FN⟩:=vf;have FO:=(Au.1 CF).2;unfold EJ at BX BF;omega
 refine a2 ?_
 refine co rfl (CN (JN) rfl rfl) ?_
 refine ag ?_ ?_<;>intro h8 q8
 refine ac ?_
 refine CY 1 67 rfl ?_
 refine a2 ?_
 · refine int_eq (if_neg (fun hv=> ?_)).symm;have vf:=Cy hv;obtain ⟨FE,FF,Da,Db,CF,BX,FG,FH,BF,Dc,De,Df,Dg,FI,FJ,FK,FL,FM,FN⟩:=vf;have FO:=(Au.1 CF).2;unfold EJ at BX BF;simp_all;omega
 refine ac ?_
 refine cy h8 rfl (CN (K9) rfl rfl) ?_
 refine ag ?_ ?_<;>intro h9 q9
 refine ac ?_
 refine CY 1 67 rfl ?_
 refine a2 ?_
 · refine int_eq (if_neg (fun hv=> ?_)).symm;have vf:=Cy hv;obtain ⟨FE,FF,Da,Db,CF,BX,FG,FH,BF,Dc,De,Df,Dg,FI,FJ,FK,FL,FM,FN⟩:=vf;have FO:=(Au.1 CF).2;unfold EJ at BX BF;simp_all
 refine ag ?_ ?_<;>intro h10 O9
 refine ac ?_
 refine CY 1 67 rfl ?_
 refine a2 ?_
 · refine int_eq (if_neg (fun hv=> ?_)).symm;have vf:=Cy hv;obtain ⟨FE,FF,Da,Db,CF,BX,FG,FH,BF,Dc,De,Df,Dg,FI,FJ,FK,FL,FM,FN⟩:=vf;have FO:=(Au.1 CF).2;unfold EJ at BX BF;omega
 refine ag ?_ ?_<;>intro h11 SS
 refine ac ?_
 refine CY 1 67 rfl ?_
 refine a2 ?_
 · refine int_eq (if_neg (fun hv=> ?_)).symm;have vf:=Cy hv;obtain ⟨FE,FF,Da,Db,CF,BX,FG,FH,BF,Dc,De,Df,Dg,FI,FJ,FK,FL,FM,FN⟩:=vf;have FO:=(Au.1 CF).2;unfold EJ at BX BF;omega
 refine ac ?_
 refine CY 1 67 rfl ?_
 refine Tr.cn rfl ?_ ?_<;>intro h12 Tw
 refine a2 ?_
 · refine int_eq (if_neg (fun hv=> ?_)).symm;have vf:=Cy hv;obtain ⟨FE,FF,Da,Db,CF,BX,FG,FH,BF,Dc,De,Df,Dg,FI,FJ,FK,FL,FM,FN⟩:=vf;have FO:=(Au.1 CF).2;unfold EJ at BX BF;omega
 refine ac ?_
 refine ag ?_ ?_<;>intro MU Uj
 refine ac ?_
 refine CY 1 91 rfl ?_
 refine a2 ?_
 · refine int_eq (if_neg (fun hv=> ?_)).symm;have vf:=Cy hv;obtain ⟨FE,FF,Da,Db,CF,BX,FG,FH,BF,Dc,De,Df,Dg,FI,FJ,FK,FL,FM,FN⟩:=vf;have FO:=(Au.1 CF).2;unfold EJ at BX BF;omega
 refine ag ?_ ?_<;>intro Jz Xv
 refine ac ?_
 refine CY 1 91 rfl ?_
 refine a2 ?_
 · refine int_eq (if_neg (fun hv=> ?_)).symm;have vf:=Cy hv;obtain ⟨FE,FF,Da,Db,CF,BX,FG,FH,BF,Dc,De,Df,Dg,FI,FJ,FK,FL,FM,FN⟩:=vf;have FO:=(Au.1 CF).2;unfold EJ at BX BF;omega
 refine ag ?_ ?_<;>intro MV ZC
 refine ag ?_ ?_<;>intro h16 au
 refine ac ?_
 refine CY 1 91 rfl ?_
 refine a2 ?_
 · refine int_eq (if_neg (fun hv=> ?_)).symm;have vf:=Cy hv;obtain ⟨FE,FF,Da,Db,CF,BX,FG,FH,BF,Dc,De,Df,Dg,FI,FJ,FK,FL,FM,FN⟩:=vf;have FO:=(Au.1 CF).2;unfold EJ at BX BF;simp_all
 refine ac ?_
 refine CY 1 91 rfl ?_
 refine Tr.cn rfl ?_ ?_<;>intro NA Xr
 refine a2 ?_
 · refine int_eq (if_neg (fun hv=> ?_)).symm;have vf:=Cy hv;obtain ⟨FE,FF,Da,Db,CF,BX,FG,FH,BF,Dc,De,Df,Dg,FI,FJ,FK,FL,FM,FN⟩:=vf;have FO:=(Au.1 CF).2;unfold EJ at BX BF;omega
 refine a2 ?_
 refine Tr.block (Tr.BH [(1,_)] ⟨ke rfl,trivial⟩ (fun k:Nat=>[(3,int ((k:Nat):Int))]) (fun k:Nat=>k≤(c.names).length∧(∀j,j<k→nameAt c.names j=true)) (fun k:Nat=>(c.names).length-k) 0 (⟨Nat.zero_le _,fun j hj=>absurd hj (by omega)⟩) ⟨ke rfl,trivial⟩ ?_)
 rintro k ⟨BR,AG⟩
 refine an ?_ ?_<;>intro Kc aj
 have Aa:k<(c.names).length:=AL Kc
 obtain ⟨s,AY⟩:=at_ Aa
 refine a2 ?_
 refine co rfl (AA rfl underlying67 KV (vl rfl) (vl rfl) (by omega) (AU AY)) (co rfl (Gd rfl Ku rfl) (co rfl (CN (Es) rfl rfl) ?_))
 refine ag ?_ ?_<;>intro Xs lA
 refine ac ?_
 refine FX 1 3 123 rfl ?_
 refine a2 ?_
 · refine int_eq (if_neg (fun hv=> ?_)).symm;have vf:=Cy hv;obtain ⟨FE,FF,Da,Db,CF,BX,FG,FH,BF,Dc,De,Df,Dg,FI,FJ,FK,FL,FM,FN⟩:=vf;have FO:=(Au.1 CF).2;unfold EJ at BX BF;have eE:=(Au.1 CF).1 k (by omega);unfold nameAt at eE;simp_all
 refine ag ?_ ?_<;>intro NB nu
 have HB:0<k:=by simpa using NB
 obtain ⟨y,hy⟩:=at_ (l:=c.names) (k:=k-1) (by omega)
 · repeat' first|(refine int_eq (if_neg (fun hv=> ?_)).symm;have vf:=Cy hv;obtain ⟨FE,FF,Da,Db,CF,BX,FG,FH,BF,Dc,De,Df,Dg,FI,FJ,FK,FL,FM,FN⟩:=vf;have FO:=(Au.1 CF).2;unfold EJ at BX BF;have eE:=(Au.1 CF).1 k (by omega);unfold nameAt at eE;simp_all)|(exact Fin.AK (k+1) ⟨⟨Aa,(fun j hj=>by rcases Nat.lt_or_eq_of_le (Nat.le_of_lt_succ hj) with h_|h_;exact AG j h_;(subst h_;refine HV AY (by simp_all) (fun h0=> ?_);exact ⟨y,hy,by simp_all⟩))⟩,by omega⟩ ⟨⟨_,rfl,AE k⟩,ke rfl,trivial⟩)|(refine cy NB rfl (AA rfl underlying67 KV (vl rfl) (vl rfl) (by omega) (by rw [show ((k:Nat):Int)-1=((k-1:Nat):Int) by omega];exact AU hy)) ?_)|refine cy NB rfl (AA rfl underlying67 KV (vl rfl) (vl rfl) (by omega) (AU AY)) (cy NB rfl (Gd rfl Ku rfl) (cy NB rfl (IW rfl (vl rfl) (vl rfl)) ?_))|refine ac ?_|(refine Tr.cn rfl ?_ ?_<;>intro h q)
 have HB:¬0<k:=by simpa using NB
 refine ac ?_
 refine FX 1 3 123 rfl ?_
 refine a2 ?_
 exact Fin.AK (k+1) ⟨⟨Aa,(fun j hj=>by rcases Nat.lt_or_eq_of_le (Nat.le_of_lt_succ hj) with h_|h_;exact AG j h_;(subst h_;refine HV AY (by simp_all) (fun h0=> ?_);exact absurd h0 HB))⟩,by omega⟩ ⟨⟨_,rfl,AE k⟩,ke rfl,trivial⟩
 have A_:k=(c.names).length:=by have:=AM Kc;omega
 subst A_
 · repeat' first|(refine int_eq (if_neg (fun hv=> ?_)).symm;have vf:=Cy hv;obtain ⟨FE,FF,Da,Db,CF,BX,FG,FH,BF,Dc,De,Df,Dg,FI,FJ,FK,FL,FM,FN⟩:=vf;have FO:=(Au.1 CF).2;unfold EJ at BX BF;omega)|(refine int_eq (if_pos (Sa ⟨by omega,by omega,by simp_all,by simp_all,Au.2 ⟨AG,by omega⟩,by unfold EJ;simp_all,by omega,by omega,by unfold EJ;simp_all,by omega,by omega,by omega,by omega,by omega,by omega,by omega,by omega,by omega,by right;omega⟩)).symm)|refine ac ?_|(refine Tr.cn rfl ?_ ?_<;>intro h q)|(refine Ch.cg rfl rfl rfl ?_ ?_<;>intro h q)
 refine ac ?_
 refine CY 1 91 rfl ?_
 refine Tr.cn rfl ?_ ?_<;>intro h26 q26
 refine a2 ?_
 · refine int_eq (if_neg (fun hv=> ?_)).symm;have vf:=Cy hv;obtain ⟨FE,FF,Da,Db,CF,BX,FG,FH,BF,Dc,De,Df,Dg,FI,FJ,FK,FL,FM,FN⟩:=vf;have FO:=(Au.1 CF).2;unfold EJ at BX BF;omega
 refine a2 ?_
 refine Tr.block (Tr.BH [(1,_)] ⟨ke rfl,trivial⟩ (fun k:Nat=>[(3,int ((k:Nat):Int))]) (fun k:Nat=>k≤(c.names).length∧(∀j,j<k→nameAt c.names j=true)) (fun k:Nat=>(c.names).length-k) 0 (⟨Nat.zero_le _,fun j hj=>absurd hj (by omega)⟩) ⟨ke rfl,trivial⟩ ?_)
 rintro k ⟨BR,AG⟩
 refine an ?_ ?_<;>intro lE q27
 have Aa:k<(c.names).length:=AL lE
 obtain ⟨s,AY⟩:=at_ Aa
 refine a2 ?_
 refine co rfl (AA rfl underlying67 KV (vl rfl) (vl rfl) (by omega) (AU AY)) (co rfl (Gd rfl Ku rfl) (co rfl (CN (Es) rfl rfl) ?_))
 refine ag ?_ ?_<;>intro h28 q28
 refine ac ?_
 refine FX 1 3 123 rfl ?_
 refine a2 ?_
 · refine int_eq (if_neg (fun hv=> ?_)).symm;have vf:=Cy hv;obtain ⟨FE,FF,Da,Db,CF,BX,FG,FH,BF,Dc,De,Df,Dg,FI,FJ,FK,FL,FM,FN⟩:=vf;have FO:=(Au.1 CF).2;unfold EJ at BX BF;have eE:=(Au.1 CF).1 k (by omega);unfold nameAt at eE;simp_all
 refine ag ?_ ?_<;>intro Ul q29
 have HB:0<k:=by simpa using Ul
 obtain ⟨y,hy⟩:=at_ (l:=c.names) (k:=k-1) (by omega)
 · repeat' first|(refine int_eq (if_neg (fun hv=> ?_)).symm;have vf:=Cy hv;obtain ⟨FE,FF,Da,Db,CF,BX,FG,FH,BF,Dc,De,Df,Dg,FI,FJ,FK,FL,FM,FN⟩:=vf;have FO:=(Au.1 CF).2;unfold EJ at BX BF;have eE:=(Au.1 CF).1 k (by omega);unfold nameAt at eE;simp_all)|(exact Fin.AK (k+1) ⟨⟨Aa,(fun j hj=>by rcases Nat.lt_or_eq_of_le (Nat.le_of_lt_succ hj) with h_|h_;exact AG j h_;(subst h_;refine HV AY (by simp_all) (fun h0=> ?_);exact ⟨y,hy,by simp_all⟩))⟩,by omega⟩ ⟨⟨_,rfl,AE k⟩,ke rfl,trivial⟩)|(refine cy Ul rfl (AA rfl underlying67 KV (vl rfl) (vl rfl) (by omega) (by rw [show ((k:Nat):Int)-1=((k-1:Nat):Int) by omega];exact AU hy)) ?_)|refine cy Ul rfl (AA rfl underlying67 KV (vl rfl) (vl rfl) (by omega) (AU AY)) (cy Ul rfl (Gd rfl Ku rfl) (cy Ul rfl (IW rfl (vl rfl) (vl rfl)) ?_))|refine ac ?_|(refine Tr.cn rfl ?_ ?_<;>intro h q)
 have HB:¬0<k:=by simpa using Ul
 refine ac ?_
 refine FX 1 3 123 rfl ?_
 refine a2 ?_
 exact Fin.AK (k+1) ⟨⟨Aa,(fun j hj=>by rcases Nat.lt_or_eq_of_le (Nat.le_of_lt_succ hj) with h_|h_;exact AG j h_;(subst h_;refine HV AY (by simp_all) (fun h0=> ?_);exact absurd h0 HB))⟩,by omega⟩ ⟨⟨_,rfl,AE k⟩,ke rfl,trivial⟩
 have A_:k=(c.names).length:=by have:=AM lE;omega
 subst A_
 · repeat' first|(refine int_eq (if_neg (fun hv=> ?_)).symm;have vf:=Cy hv;obtain ⟨FE,FF,Da,Db,CF,BX,FG,FH,BF,Dc,De,Df,Dg,FI,FJ,FK,FL,FM,FN⟩:=vf;have FO:=(Au.1 CF).2;unfold EJ at BX BF;omega)|(refine int_eq (if_pos (Sa ⟨by omega,by omega,by simp_all,by simp_all,Au.2 ⟨AG,by omega⟩,by unfold EJ;simp_all,by omega,by omega,by unfold EJ;simp_all,by omega,by omega,by omega,by omega,by omega,by omega,by omega,by omega,by omega,by left;simp_all⟩)).symm)|refine ac ?_|(refine Tr.cn rfl ?_ ?_<;>intro h q)|(refine Ch.cg rfl rfl rfl ?_ ?_<;>intro h q)
theorem and1 {a b:Bool} (h:(a&&b)=true):a=true:=by simp at h;exact h.1
theorem eF {a b:Bool} (h:(a&&b)=true):b=true:=by simp at h;exact h.2
theorem WN:∀(n:Nat) (l:List Int),(∀x∈l,1≤x∧x≤(n:Int))→l.Nodup→l.length≤n
 |0,l,h,_=>by
  cases l with
  |nil=>exact Nat.le_refl _
  |cons a l=>have:=h a (List.mem_cons_self ..);omega
 |n+1,l,h,hn=>by
  have ih:=WN n (l.erase ((n:Int)+1)) (fun x hx=>by
   have h1:=h x (List.mem_of_mem_erase hx)
   have h2:=(hn.mem_erase_iff.1 hx).1
   omega) (hn.erase _)
  rw [List.length_erase] at ih
  split at ih<;>omega
theorem EZ {l:List Int} (h:Ed l=true):l.length≤16:=by
 refine WN 16 l (fun x hx=> ?_) ?_
 ·
  obtain ⟨j,hj⟩:=List.getElem?_of_mem hx
  have h1:=Ba.1 (show allI (Ck l) l.length=true from h) j (BM hj)
  unfold Ck at h1;rw [getD_at hj] at h1
  have:=and1 h1
  simpa using this
 ·
  refine List.pairwise_iff_getElem.2 fun i j hi hj hij he=> ?_
  have:=Qz h (List.getElem?_eq_getElem hi) (by rw [he];exact List.getElem?_eq_getElem hj)
  omega
theorem WO {p:Int→Bool} {l:List Int} (h:∀j,j<l.length→p (l[j]?.getD 0)=true):l.all p=true:=List.all_eq_true.2 fun x hx=>by
 obtain ⟨j,hj⟩:=List.getElem?_of_mem hx
 have:=h j (BM hj)
 rw [getD_at hj] at this;exact this
theorem T7 {BI bits id:Int} {l:List Gt}  :A9 prog 86 [agg [int BI,int bits],int id,M8 l] (bool (L3 BI bits id l)):=by
 refine fo func86 rfl ⟨rfl,rfl⟩ fun M0 w0=>(Tr.Fg 2 rfl fun k5=> ?_)
 refine a2 ?_
 refine co rfl (CN (G8) rfl rfl) ?_
 refine ag ?_ ?_<;>intro h1 q1
 refine ac ?_
 refine Fw 1 2 3 23 rfl ?_
 refine a2 ?_
 · refine bool_eq ?_;rw [Bl];unfold EJ EI;simp_all
 refine ag ?_ ?_<;>intro h2 q2
 refine ac ?_
 refine Fw 1 2 3 23 rfl ?_
 refine a2 ?_
 · refine bool_eq ?_;rw [Bl];unfold EJ EI;simp_all;omega
 refine ag ?_ ?_<;>intro h3 q3
 refine ac ?_
 refine Fw 1 2 3 23 rfl ?_
 refine a2 ?_
 · refine bool_eq ?_;rw [Bl];unfold EJ EI;simp_all;omega
 refine ac ?_
 refine Fw 1 2 3 23 rfl ?_
 refine Tr.cn rfl ?_ ?_<;>intro h4 q4
 refine a2 ?_
 · refine bool_eq ?_;rw [Bl];unfold EJ EI;simp_all;omega
 refine a2 ?_
 refine Tr.block (Tr.BH [(1,_),(2,_),(3,_)] (Nr rfl) (fun k:Nat=>[(7,int ((k:Nat):Int))]) (fun k:Nat=>k≤(l).length∧(∀j y,j<k→l[j]? =some y→(!CC y)=false)) (fun k:Nat=>(l).length-k) 0 (⟨Nat.zero_le _,fun j y hj=>absurd hj (by omega)⟩) ⟨ke rfl,trivial⟩ ?_)
 rintro k ⟨BR,AG⟩
 refine an ?_ ?_<;>intro h5 q5
 have Aa:k<(l).length:=AL h5
 obtain ⟨c,AY⟩:=at_ Aa
 · repeat' first|(refine bool_eq ?_;rw [Bl];unfold EJ EI;rw [GP (p:=CC) AY (by simp_all)];simp)|exact Fin.AK (k+1) ⟨⟨Aa,CB (p:=fun c=> !CC c) AY (by simp_all) AG⟩,by omega⟩ ⟨⟨_,rfl,AE k⟩,ke rfl,ke rfl,ke rfl,trivial⟩|refine co rfl (AA rfl underlying58 C7 (vl rfl) (vl rfl) (by omega) (AU AY)) (co rfl (AF rfl E8 C7 (vl rfl) rfl rfl) (co rfl (CN (Q2) rfl rfl) ?_))|refine ac ?_|(refine Tr.cn rfl ?_ ?_<;>intro h q)
 have A_:k=(l).length:=by have:=AM h5;omega
 subst A_
 have hall:=EH AG
 refine ac ?_
 refine ag ?_ ?_<;>intro h7 q7
 refine ac ?_
 refine FD 6 rfl ?_
 refine ac ?_
 · refine bool_eq ?_;rw [Bl];unfold EJ EI;rw [hall,M9 (by simp_all)];simp_all
 obtain ⟨c0,hc0⟩:=at_ (l:=l) (k:=0) (by have:=h7;simp at this;exact List.length_pos_iff.2 this)
 refine K4 h7 rfl ?_
 refine cy h7 rfl (AA rfl underlying58 C7 (vl rfl) (vl rfl) (by omega) (AU (k:=0) hc0)) ?_
 refine ac ?_
 refine cy h7 rfl (SO rfl (vl rfl) (vl rfl)) (K4 h7 rfl ?_)
 refine Ch.cs 46 rfl ?_ ?_<;>intro h8 q8
 refine K4 h8 rfl ?_
 refine cy h8 rfl (AA rfl underlying58 C7 (vl rfl) (vl rfl) (by omega) (AU (k:=0) hc0)) ?_
 refine ac ?_
 refine FD 6 rfl ?_
 refine ac ?_
 · refine bool_eq ?_;rw [Bl];unfold EJ EI;rw [hall,JK hc0];clear hall AG hc0;simp_all;omega
 refine ac ?_
 refine FD 6 rfl ?_
 refine ac ?_
 · refine bool_eq ?_;rw [Bl];unfold EJ EI;rw [hall,JK hc0];clear hall AG hc0;simp_all
theorem Q3 {e:Ez} (hs3:e.hashes.length≤17592186044416):A9 prog 62 [agg (Cv e)] (int (if Gq e then 0 else 19)):=by
 refine fo func62 rfl ⟨rfl,rfl⟩ fun M0 w0=> ?_
 refine ac ?_
 refine ac ?_
 refine co rfl (CN (WL) rfl rfl) ?_
 refine ac ?_
 refine Ch.cs 13 rfl ?_ ?_<;>intro h1 q1
 refine ac ?_
 refine CY 1 47 rfl ?_
 refine ac ?_
 refine ac ?_
 · refine int_eq (if_neg (fun hv=> ?_)).symm;have ok:=B5.1 hv;have v1:=ok.name;have v2:=ok.least;have v3:=ok.lm;have v4:=ok.most;have v5:=EZ ok.Bc;have v6:=ok.ah;have v7:=ok.Qv;simp_all
 refine ac ?_
 refine Ch.cs 18 rfl ?_ ?_<;>intro h2 q2
 refine ac ?_
 refine CY 1 47 rfl ?_
 refine ac ?_
 refine ac ?_
 · refine int_eq (if_neg (fun hv=> ?_)).symm;have ok:=B5.1 hv;have v1:=ok.name;have v2:=ok.least;have v3:=ok.lm;have v4:=ok.most;have v5:=EZ ok.Bc;have v6:=ok.ah;have v7:=ok.Qv;omega
 refine ac ?_
 refine Ch.cs 25 rfl ?_ ?_<;>intro h3 q3
 refine ac ?_
 refine CY 1 47 rfl ?_
 refine ac ?_
 refine ac ?_
 · refine int_eq (if_neg (fun hv=> ?_)).symm;have ok:=B5.1 hv;have v1:=ok.name;have v2:=ok.least;have v3:=ok.lm;have v4:=ok.most;have v5:=EZ ok.Bc;have v6:=ok.ah;have v7:=ok.Qv;omega
 refine ac ?_
 refine Ch.cs 30 rfl ?_ ?_<;>intro h4 q4
 refine ac ?_
 refine CY 1 47 rfl ?_
 refine ac ?_
 refine ac ?_
 · refine int_eq (if_neg (fun hv=> ?_)).symm;have ok:=B5.1 hv;have v1:=ok.name;have v2:=ok.least;have v3:=ok.lm;have v4:=ok.most;have v5:=EZ ok.Bc;have v6:=ok.ah;have v7:=ok.Qv;omega
 refine ac ?_
 refine Ch.cs 36 rfl ?_ ?_<;>intro h5 q5
 refine ac ?_
 refine CY 1 47 rfl ?_
 refine ac ?_
 refine ac ?_
 · refine int_eq (if_neg (fun hv=> ?_)).symm;have ok:=B5.1 hv;have v1:=ok.name;have v2:=ok.least;have v3:=ok.lm;have v4:=ok.most;have v5:=EZ ok.Bc;have v6:=ok.ah;have v7:=ok.Qv;omega
 refine ac ?_
 refine Ch.cs 42 rfl ?_ ?_<;>intro h6 q6
 refine ac ?_
 refine CY 1 47 rfl ?_
 refine ac ?_
 refine ac ?_
 · refine int_eq (if_neg (fun hv=> ?_)).symm;have ok:=B5.1 hv;have v1:=ok.name;have v2:=ok.least;have v3:=ok.lm;have v4:=ok.most;have v5:=EZ ok.Bc;have v6:=ok.ah;have v7:=ok.Qv;omega
 refine ac ?_
 refine CY 1 47 rfl ?_
 refine Tr.cn rfl ?_ ?_<;>intro h7 q7
 refine ac ?_
 refine ac ?_
 · refine int_eq (if_neg (fun hv=> ?_)).symm;have ok:=B5.1 hv;have v1:=ok.name;have v2:=ok.least;have v3:=ok.lm;have v4:=ok.most;have v5:=EZ ok.Bc;have v6:=ok.ah;have v7:=ok.Qv;omega
 refine ac ?_
 refine ac ?_
 refine Tr.block (Tr.BH [(1,_)] ⟨ke rfl,trivial⟩ (fun i:Nat=>[(3,int ((i:Nat):Int))]) (fun i:Nat=>i≤(e.Bc).length∧(∀j,j<i→Ck e.Bc j=true)) (fun i:Nat=>(e.Bc).length-i) 0 (⟨Nat.zero_le _,fun j hj=>absurd hj (by omega)⟩) ⟨ke rfl,trivial⟩ ?_)
 rintro i ⟨PJ,EL⟩
 refine ac ?_
 refine Tr.cn rfl ?_ ?_<;>intro h8 q8
 have GV:i<(e.Bc).length:=AL h8
 obtain ⟨x,HD⟩:=at_ GV
 have hg:=getD_at (d:=(0:Int)) HD
 refine ac ?_
 refine ao ?_
 refine tp rfl (AA rfl underlying22 Ce (vl rfl) (vl rfl) (by omega) (AU HD)) (tp rfl (Gd rfl DC rfl) (tp rfl (CN (T6) rfl rfl) ?_))
 refine ao ?_
 refine Tl rfl rfl rfl rfl z157 JE (fun b1=> ?_)
 refine sf 0 4 ⟨rfl,rfl,rfl⟩ rfl rfl rfl rfl ?_
 refine ao ?_
 refine FX 1 3 5 rfl ?_
 refine ac ?_
 refine Ch.cs 66 rfl ?_ ?_<;>intro h9 q9
 have dc:¬(1≤x∧x≤16):=by intro hh;rw [if_pos hh] at h9;exact absurd h9 (by decide)
 refine ac ?_
 refine FX 1 3 77 rfl ?_
 refine ac ?_
 refine ac ?_
 · refine int_eq (if_neg (fun hv=> ?_)).symm;have ok:=B5.1 hv;have h_:=Ba.1 (show allI (Ck e.Bc) e.Bc.length=true from ok.Bc) i (by omega);unfold Ck at h_;rw [hg] at h_;exact dc (by simpa using and1 h_)
 have hin:1≤x∧x≤16:=by refine Decidable.byContradiction fun hh=> ?_;rw [if_neg hh] at h9;exact absurd h9 (by decide)
 refine ac ?_
 refine cy h9 rfl (IX rfl underlying22 Ce (vl rfl) (vl rfl) (by omega) (by simp;omega)) ?_
 refine ac ?_
 refine cy h9 rfl (AA rfl underlying22 Ce (vl rfl) (vl rfl) (by omega) (AU HD)) (cy h9 rfl (Gd rfl DC rfl) ?_)
 refine cy h9 rfl (AW rfl (WM (l:=e.Bc.take i) (v:=x)) ⟨⟨_,rfl,Pr.le_of_eq (by rw [←List.map_take,Int.toNat_natCast])⟩,ke rfl,trivial⟩) ?_
 refine ac ?_
 refine FX 1 3 77 rfl ?_
 refine Tr.cn rfl ?_ ?_<;>intro h10 O9
 refine ac ?_
 refine ac ?_
 · refine int_eq (if_neg (fun hv=> ?_)).symm;have ok:=B5.1 hv;have h_:=Ba.1 (show allI (Ck e.Bc) e.Bc.length=true from ok.Bc) i (by omega);unfold Ck at h_;rw [hg] at h_;exact absurd (by assumption:((e.Bc.take i).any fun y=>x==y)=true) (by have h2:=eF h_;rw [Bool.not_eq_true'] at h2;rw [h2];decide)
 refine ac ?_
 refine ac ?_
 exact Fin.AK (i+1) ⟨⟨GV,BT EL (by unfold Ck;rw [hg];rw [decide_eq_true hin];simp_all)⟩,by omega⟩ ⟨⟨_,rfl,AE i⟩,ke rfl,trivial⟩
 have Kz:i=(e.Bc).length:=by have:=AM h8;omega
 subst Kz
 refine ac ?_
 refine ac ?_
 refine Tr.block (Tr.BH [(1,_)] ⟨ke rfl,trivial⟩ (fun m:Nat=>[(6,int ((m:Nat):Int))]) (fun m:Nat=>m≤(e.ids).length∧(∀j y,j<m→e.ids[j]? =some y→(!Th y)=false)) (fun m:Nat=>(e.ids).length-m) 0 (⟨Nat.zero_le _,fun j y hj=>absurd hj (by omega)⟩) ⟨ke rfl,trivial⟩ ?_)
 rintro m ⟨Sf,Fq⟩
 refine ac ?_
 refine Tr.cn rfl ?_ ?_<;>intro h11 SS
 have HE:m<(e.ids).length:=AL h11
 obtain ⟨x,Ft⟩:=at_ HE
 refine ac ?_
 refine ac ?_
 refine co rfl (AA rfl underlying72 Kv (vl rfl) (vl rfl) (by omega) (AU Ft)) ?_
 refine ac ?_
 refine co rfl (AA rfl underlying72 Kv (vl rfl) (vl rfl) (by omega) (AU Ft)) ?_
 refine ac ?_
 refine co rfl (AA rfl underlying72 Kv (vl rfl) (vl rfl) (by omega) (AU Ft)) ?_
 refine ac ?_
 refine co rfl (jj (T7) rfl rfl rfl rfl) ?_
 refine ac ?_
 refine FX 1 6 104 rfl ?_
 refine Tr.cn rfl ?_ ?_<;>intro h12 Tw
 refine ac ?_
 refine ac ?_
 · refine int_eq (if_neg (fun hv=> ?_)).symm;have ok:=B5.1 hv;have h_:=List.all_eq_true.1 ok.ids x (List.mem_of_getElem? Ft);unfold Th at h_;simp_all
 refine ac ?_
 refine ac ?_
 exact Fin.AK (m+1) ⟨⟨HE,CB (p:=fun c=> !Th c) Ft (by unfold Th;simp_all) Fq⟩,by omega⟩ ⟨⟨_,rfl,AE m⟩,ke rfl,trivial⟩
 have PK:m=(e.ids).length:=by have:=AM h11;omega
 subst PK
 have hall:=EH Fq
 refine ac ?_
 refine ac ?_
 refine Tr.block (Tr.BH [(1,_)] ⟨ke rfl,trivial⟩ (fun o:Nat=>[(7,int ((o:Nat):Int))]) (fun o:Nat=>o≤(e.anchors).length∧(∀j,j<o→(El e.anchors j&&EI (e.anchors[j]?.getD 0))=true)) (fun o:Nat=>(e.anchors).length-o) 0 (⟨Nat.zero_le _,fun j hj=>absurd hj (by omega)⟩) ⟨ke rfl,trivial⟩ ?_)
 rintro o ⟨lM,Ij⟩
 refine ac ?_
 refine Tr.cn rfl ?_ ?_<;>intro MU Uj
 have T8:o<(e.anchors).length:=AL MU
 obtain ⟨a,Mc⟩:=at_ T8
 have hg:=getD_at (d:=(0:Int)) Mc
 refine ac ?_
 refine ac ?_
 refine co rfl (AA rfl underlying22 Ce (vl rfl) (vl rfl) (by omega) (AU Mc)) ?_
 refine ac ?_
 refine Ch.cs 118 rfl ?_ ?_<;>intro Jz Xv
 refine ac ?_
 refine FX 1 7 143 rfl ?_
 refine ac ?_
 refine ac ?_
 · refine int_eq (if_neg (fun hv=> ?_)).symm;have ok:=B5.1 hv;have h_:=List.all_eq_true.1 ok.keys a (List.mem_of_getElem? Mc);unfold EI at h_;simp at h_;omega
 refine ac ?_
 refine cy Jz rfl (AA rfl underlying22 Ce (vl rfl) (vl rfl) (by omega) (AU Mc)) ?_
 refine ac ?_
 refine Ch.cs 126 rfl ?_ ?_<;>intro MV ZC
 refine ac ?_
 refine FX 1 7 143 rfl ?_
 refine ac ?_
 refine ac ?_
 · refine int_eq (if_neg (fun hv=> ?_)).symm;have ok:=B5.1 hv;have h_:=List.all_eq_true.1 ok.keys a (List.mem_of_getElem? Mc);unfold EI at h_;simp at h_;omega
 refine ac ?_
 refine Ch.cs 129 rfl ?_ ?_<;>intro h16 au
 have hk0:0<o:=by simpa using h16
 obtain ⟨y,hy⟩:=at_ (l:=e.anchors) (k:=o-1) (by omega)
 have Ho:=getD_at (d:=(0:Int)) hy
 refine ac ?_
 refine cy h16 rfl (AA rfl underlying22 Ce (vl rfl) (vl rfl) (by omega) (by rw [show ((o:Nat):Int)-1=((o-1:Nat):Int) by omega];exact AU hy)) ?_
 refine ac ?_
 refine cy h16 rfl (AA rfl underlying22 Ce (vl rfl) (vl rfl) (by omega) (AU Mc)) ?_
 refine ac ?_
 refine FX 1 7 143 rfl ?_
 refine Tr.cn rfl ?_ ?_<;>intro NA Xr
 refine ac ?_
 refine ac ?_
 · refine int_eq (if_neg (fun hv=> ?_)).symm;have ok:=B5.1 hv;have h_:=Ba.1 (show allI (El e.anchors) e.anchors.length=true from ok.anc) o (by omega);unfold El at h_;rw [hg,Ho] at h_;simp at h_;omega
 refine ac ?_
 refine ac ?_
 exact Fin.AK (o+1) ⟨⟨T8,(fun j hj=>by rcases Nat.lt_or_eq_of_le (Nat.le_of_lt_succ hj) with h_|h_;exact Ij j h_;(subst h_;unfold El EI;rw [hg];rw [Ho];simp_all))⟩,by omega⟩ ⟨⟨_,rfl,AE o⟩,ke rfl,trivial⟩
 have HB:¬0<o:=by simpa using h16
 refine ac ?_
 refine FX 1 7 143 rfl ?_
 refine ac ?_
 refine ac ?_
 exact Fin.AK (o+1) ⟨⟨T8,(fun j hj=>by rcases Nat.lt_or_eq_of_le (Nat.le_of_lt_succ hj) with h_|h_;exact Ij j h_;(subst h_;unfold El EI;rw [hg];simp_all))⟩,by omega⟩ ⟨⟨_,rfl,AE o⟩,ke rfl,trivial⟩
 have eG:o=(e.anchors).length:=by have:=AM MU;omega
 subst eG
 refine ac ?_
 refine ac ?_
 refine Tr.block (Tr.BH [(1,_)] ⟨ke rfl,trivial⟩ (fun q:Nat=>[(8,int ((q:Nat):Int))]) (fun q:Nat=>q≤(e.hashes).length∧(∀j,j<q→(El e.hashes j&&G6 (e.hashes[j]?.getD 0))=true)) (fun q:Nat=>(e.hashes).length-q) 0 (⟨Nat.zero_le _,fun j hj=>absurd hj (by omega)⟩) ⟨ke rfl,trivial⟩ ?_)
 rintro q ⟨sF,OD⟩
 refine ac ?_
 refine Tr.cn rfl ?_ ?_<;>intro Kc aj
 have eH:q<(e.hashes).length:=AL Kc
 obtain ⟨a,ZO⟩:=at_ eH
 have hg:=getD_at (d:=(0:Int)) ZO
 refine ac ?_
 refine ac ?_
 refine co rfl (AA rfl underlying22 Ce (vl rfl) (vl rfl) (by omega) (AU ZO)) (co rfl (Gd rfl DC rfl) (co rfl (CN (K9) rfl rfl) ?_))
 refine ac ?_
 refine Ch.cs 158 rfl ?_ ?_<;>intro Xs lA
 refine ac ?_
 refine FX 1 8 175 rfl ?_
 refine ac ?_
 refine ac ?_
 · refine int_eq (if_neg (fun hv=> ?_)).symm;have ok:=B5.1 hv;have h_:=List.all_eq_true.1 ok.hsh a (List.mem_of_getElem? ZO);unfold G6 at h_;simp_all
 refine ac ?_
 refine Ch.cs 161 rfl ?_ ?_<;>intro NB nu
 have hk0:0<q:=by simpa using NB
 obtain ⟨y,hy⟩:=at_ (l:=e.hashes) (k:=q-1) (by omega)
 have Ho:=getD_at (d:=(0:Int)) hy
 refine ac ?_
 refine cy NB rfl (AA rfl underlying22 Ce (vl rfl) (vl rfl) (by omega) (by rw [show ((q:Nat):Int)-1=((q-1:Nat):Int) by omega];exact AU hy)) ?_
 refine ac ?_
 refine cy NB rfl (AA rfl underlying22 Ce (vl rfl) (vl rfl) (by omega) (AU ZO)) ?_
 refine ac ?_
 refine FX 1 8 175 rfl ?_
 refine Tr.cn rfl ?_ ?_<;>intro Xt q21
 refine ac ?_
 refine ac ?_
 · refine int_eq (if_neg (fun hv=> ?_)).symm;have ok:=B5.1 hv;have h_:=Ba.1 (show allI (El e.hashes) e.hashes.length=true from ok.hash) q (by omega);unfold El at h_;rw [hg,Ho] at h_;simp at h_;omega
 refine ac ?_
 refine ac ?_
 exact Fin.AK (q+1) ⟨⟨eH,(fun j hj=>by rcases Nat.lt_or_eq_of_le (Nat.le_of_lt_succ hj) with h_|h_;exact OD j h_;(subst h_;unfold El G6;rw [hg];rw [Ho];simp_all))⟩,by omega⟩ ⟨⟨_,rfl,AE q⟩,ke rfl,trivial⟩
 have HB:¬0<q:=by simpa using NB
 refine ac ?_
 refine FX 1 8 175 rfl ?_
 refine ac ?_
 refine ac ?_
 exact Fin.AK (q+1) ⟨⟨eH,(fun j hj=>by rcases Nat.lt_or_eq_of_le (Nat.le_of_lt_succ hj) with h_|h_;exact OD j h_;(subst h_;unfold El G6;rw [hg];simp_all))⟩,by omega⟩ ⟨⟨_,rfl,AE q⟩,ke rfl,trivial⟩
 have rK:q=(e.hashes).length:=by have:=AM Kc;omega
 subst rK
 refine ac ?_
 refine ac ?_
 refine ac ?_
 · refine int_eq (if_pos (B5.2 ⟨by simp_all,by omega,by omega,by omega,Ba.2 EL,by omega,by omega,Ba.2 (fun j hj=>and1 (Ij j hj)),Ba.2 (fun j hj=>and1 (OD j hj)),hall,WO (fun j hj=>eF (Ij j hj)),WO (fun j hj=>eF (OD j hj))⟩)).symm
theorem T9 {e:Ez} (OU:e.small):A9 Tryz.prog 62 [agg (Cv e)] (int (if Gq e then 0 else 19)):=Q3 (by have:=OU.hashes;omega)
theorem Q4 {β γ:Type} {f:β→γ} {l:List β} {k:Nat} {x:β} (h:l[k]? =some x):(l.take k).map f++[f x]=(l.take (k+1)).map f:=by rw [List.take_add_one,h,List.map_append];rfl
theorem Q5 {x:QK} (hx:x.small):A9 prog 64 [agg (L4 x)] (agg (L4 x)):=by
 refine fo func64 rfl ⟨rfl,rfl⟩ fun M0 w0=> ?_
 have hch:=hx.chain
 refine Tr.seq (Tr.As (tp rfl (Dh rfl (Va rfl)) ?_))
 refine Tl rfl rfl rfl rfl cB Qe (fun b1=> ?_)
 refine ap ?_
 refine ap ?_
 refine Tl rfl rfl rfl rfl cB Qe (fun b2=> ?_)
 refine ap ?_
 refine ac ?_
 refine K5 2 3 12 13 14 rfl (Tr.block (Tr.Iw 0 [int x.BI,int x.bits,int x.DZ,Ab (.slice none 0 0) (slice 15 ((x.chain.take 0).map DN))] rfl ⟨Lr,Lr,Lr,Cg rfl,trivial⟩ (Tr.DB 107 15 (Tr.Gx [(2,_),(3,_),(12,_),(13,_)] ⟨ke rfl,ke rfl,ke rfl,ke rfl,trivial⟩ (fun k v=>[(14,int ((k:Nat):Int))]) (fun k v=>Hp M0 w0 OR ([Ax 107 15 v,AB true b2 60 [int x.BI,int x.bits,int x.DZ,Ab v (slice 15 ((x.chain.take k).map DN))],AB true b1 60 (([.int .i64 0,.int .i64 0,.int .i64 0,.slice none 0 0]:List Value).map is)])) (fun k:Nat=>k≤(x.chain).length) (fun k:Nat=>(x.chain).length-k) 0 (.slice none 0 0) (Nat.zero_le _) ⟨ke rfl,trivial⟩ (fun _ _ h=>h) ?_))))
 rintro k v BR
 refine ac ?_
 refine Tr.seq ?_
 refine Tr.cn rfl ?_ ?_<;>intro h1 q1
 have Aa:k<(x.chain).length:=AL h1
 obtain ⟨c,AY⟩:=at_ Aa
 have hcn:=hx.names c (List.mem_of_getElem? AY)
 refine ac ?_
 refine Tr.seq (Tr.block (Tr.seq (Tr.As (tp rfl (AA rfl underlying58 C7 (vl rfl) (vl rfl) (by omega) (by exact AU (by assumption))) ?_))))
 refine tp rfl (AF rfl E8 C7 (vl rfl) rfl rfl) ?_
 refine Tl rfl rfl rfl rfl z107 KY (fun b3=> ?_)
 refine ap ?_
 refine ap ?_
 refine tp rfl (Se rfl underlying67 KV ox z9 rfl (by decide) (vl rfl) (by simp only [List.length_map];unfold maxLen;omega) (by simp only [List.length_map];omega)) ?_
 refine ap ?_
 refine Og 2 3 5 12 13 14 rfl ?_
 refine ap ?_
 refine TO.GJ 1 rfl rfl (by decide) (DY rfl rfl rfl rfl underlying58 C7 aK z107 (Kb rfl) (Kf rfl) (CO (by exact List.Mem.head _) (Ka rfl))) (fun v1=> ?_)
 refine ap ?_
 refine Tr.drop 0 ?_
 refine ac ?_
 refine Fin.Iw 1 [int x.BI,int x.bits,int x.DZ,Ab v1 (slice 15 ((x.chain.take (k+1)).map DN))] rfl ⟨Lr,Lr,Lr,CK (Q4 (f:=DN) AY),trivial⟩ (Fin.Hv (k+1) v1 (⟨Aa,by omega⟩) ⟨⟨_,rfl,AE k⟩,ke rfl,ke rfl,ke rfl,ke rfl,trivial⟩ (fun _ _ h=>h))
 have A_:k=(x.chain).length:=by have:=AM h1;omega
 subst A_
 refine ac ?_
 refine ap ?_
 refine Tr.ret (Fin.Cm rfl (BK.cell 2 rfl rfl Ou Kv rfl (Lr)) ?_)
 · exact BB ⟨Lr,Lr,Lr,Pr.le_trans (Ai _ _) (Pr.le_of_eq (by rw [List.take_length])),trivial⟩
theorem Q6 {c:B8} (hx:c.JM.small):A9 prog 41 [agg (GR c)] (agg (GR c)):=by
 refine fo func41 rfl ⟨rfl,rfl⟩ fun M0 w0=>(Tr.seq (Tr.As ?_))
 refine TO.Od rfl rfl (by decide) rfl (Va rfl) (fun b1=> ?_)
 refine Tl rfl rfl rfl rfl Lj JD (fun b2=> ?_)
 refine ap ?_
 refine ap ?_
 refine tp rfl (CN (Q5 (x:=c.JM) hx) rfl rfl) ?_
 refine ap ?_
 refine ap ?_
 refine Tr.drop 1 (Tr.ret (Fin.Cm rfl (BK.cell 0 rfl rfl G0 Ct rfl (Lr)) ?_))
 · exact Lr
structure PL where
 BI:Int
 bits:Int
 day:Int
 deriving DecidableEq
abbrev rL (x:PL):List Pr:=[int x.BI,int x.bits,int x.day]
abbrev WQ (l:List PL):Pr:=slice 3 (l.map rL)
structure J2 where
 name:List UInt8
 kind:Int
 Ev:Int
 links:List PL
 Ik:Int
 deriving DecidableEq
abbrev F8 (x:J2):List Pr:=[str x.name,int x.kind,int x.Ev,WQ x.links,int x.Ik]
abbrev Q7 (l:List J2):Pr:=slice 5 (l.map F8)
structure Ji where
 client:Int
 server:Int
 deriving DecidableEq
abbrev rM (x:Ji):List Pr:=[int x.client,int x.server]
abbrev JP (l:List Ji):Pr:=slice 2 (l.map rM)
abbrev DO:PL:=⟨0,0,0⟩
abbrev Em:Ji:=⟨0,0⟩
def Cq (l:List PL) (i:Nat):Bool:=decide (BS (l[i]?.getD DO).BI (l[i]?.getD DO).bits>0)&&decide (0≤(l[i]?.getD DO).day)&&decide ((l[i]?.getD DO).day≤40000)&&(decide (i=0)||decide ((l[i-1]?.getD DO).day<(l[i]?.getD DO).day))
def En (x:J2):Bool:=(named x.name&&decide (x.kind=1∨x.kind=2)&&decide (1≤x.Ev)&&decide (x.Ev≤4)&&decide (1≤x.links.length)&&decide (x.links.length≤8))&&allI (Cq x.links) x.links.length&&(decide ((x.links[0]?.getD DO).day≤x.Ik)&&decide (x.Ik≤40000))
structure lN (x:J2):Prop where
 name:named x.name=true
 kind:x.kind=1∨x.kind=2
 p1:1≤x.Ev
 p4:x.Ev≤4
 l1:1≤x.links.length
 l8:x.links.length≤8
 ZP:∀j,j<x.links.length→Cq x.links j=true
 u0:(x.links[0]?.getD DO).day≤x.Ik
 u1:x.Ik≤40000
theorem Ay {x:J2}:En x=true↔lN x:=by
 unfold En
 simp only [Bool.and_eq_true,decide_eq_true_eq,Ba]
 exact ⟨fun ⟨⟨⟨⟨⟨⟨⟨h1,h2⟩,h3⟩,h4⟩,h5⟩,h6⟩,h7⟩,h8,h9⟩=>⟨h1,h2,h3,h4,h5,h6,h7,h8,h9⟩,fun h=>⟨⟨⟨⟨⟨⟨⟨h.name,h.kind⟩,h.p1⟩,h.p4⟩,h.l1⟩,h.l8⟩,h.ZP⟩,h.u0,h.u1⟩⟩
def BO (n:Nat) (l:List Ji) (i:Nat):Bool:=(decide (0≤(l[i]?.getD Em).client∧(l[i]?.getD Em).client<n)&&decide (0≤(l[i]?.getD Em).server∧(l[i]?.getD Em).server<n)&&decide ((l[i]?.getD Em).client≠(l[i]?.getD Em).server))&&(decide (i=0)||decide ((l[i-1]?.getD Em).client<(l[i]?.getD Em).client∨((l[i-1]?.getD Em).client=(l[i]?.getD Em).client∧(l[i-1]?.getD Em).server<(l[i]?.getD Em).server)))
def Ea (n:Nat) (l:List Ji):Bool:=allI (BO n l) l.length&&decide (l.length≤40)
theorem T_ {x:J2} (hx:x.name.length≤maxLen):A9 prog 73 [agg (F8 x)] (int (if En x then 0 else 30)):=by
 refine fo func73 rfl ⟨rfl,rfl⟩ fun M0 w0=> ?_
 refine ac ?_
 refine FD 1 rfl (Tr.X2 [1] [(3,bool (decide (x.kind=1∨x.kind=2)))] (True) ?_ (fun h1=> ?_))
 refine ac ?_
 refine Ch.cs 9 rfl ?_ ?_<;>intro h2 q2
 refine ac ?_
 exact Fin.AK () trivial ⟨⟨_,rfl,bool_eq (by simp_all [Bool.beq_eq_decide_eq])⟩,ke rfl,trivial⟩
 refine ac ?_
 exact Fin.AK () trivial ⟨⟨_,rfl,bool_eq (by simp_all [Bool.beq_eq_decide_eq])⟩,ke rfl,trivial⟩
 refine CY 1 3 rfl (Tr.X2 [1] [] ((named x.name=true∧(x.kind=1∨x.kind=2)∧1≤x.Ev∧x.Ev≤4)∧1≤x.links.length∧x.links.length≤8) ?_ (fun hpre=> ?_))
 refine ac ?_
 refine co rfl (CN (K8 hx) rfl rfl) ?_
 refine ac ?_
 refine Ch.cs 18 rfl ?_ ?_<;>intro h4 q4
 refine ac ?_
 refine CY 1 43 rfl ?_
 refine ac ?_
 refine ac ?_
 · refine int_eq (if_neg (fun hv=> ?_)).symm;have ok:=Ay.1 hv;have o1:=ok.name;have o2:=ok.kind;have o3:=ok.p1;have o4:=ok.p4;have o5:=ok.l1;have o6:=ok.l8;have o7:=ok.u0;have o8:=ok.u1;(simp_all)
 refine ac ?_
 refine Ch.cs 22 rfl ?_ ?_<;>intro h5 q5
 refine ac ?_
 refine CY 1 43 rfl ?_
 refine ac ?_
 refine ac ?_
 · refine int_eq (if_neg (fun hv=> ?_)).symm;have ok:=Ay.1 hv;have o1:=ok.name;have o2:=ok.kind;have o3:=ok.p1;have o4:=ok.p4;have o5:=ok.l1;have o6:=ok.l8;have o7:=ok.u0;have o8:=ok.u1;(omega)
 refine ac ?_
 refine Ch.cs 27 rfl ?_ ?_<;>intro h6 q6
 refine ac ?_
 refine CY 1 43 rfl ?_
 refine ac ?_
 refine ac ?_
 · refine int_eq (if_neg (fun hv=> ?_)).symm;have ok:=Ay.1 hv;have o1:=ok.name;have o2:=ok.kind;have o3:=ok.p1;have o4:=ok.p4;have o5:=ok.l1;have o6:=ok.l8;have o7:=ok.u0;have o8:=ok.u1;(omega)
 refine ac ?_
 refine Ch.cs 32 rfl ?_ ?_<;>intro h7 q7
 refine ac ?_
 refine CY 1 43 rfl ?_
 refine ac ?_
 refine ac ?_
 · refine int_eq (if_neg (fun hv=> ?_)).symm;have ok:=Ay.1 hv;have o1:=ok.name;have o2:=ok.kind;have o3:=ok.p1;have o4:=ok.p4;have o5:=ok.l1;have o6:=ok.l8;have o7:=ok.u0;have o8:=ok.u1;(omega)
 refine ac ?_
 refine Ch.cs 38 rfl ?_ ?_<;>intro h8 q8
 refine ac ?_
 refine CY 1 43 rfl ?_
 refine ac ?_
 refine ac ?_
 · refine int_eq (if_neg (fun hv=> ?_)).symm;have ok:=Ay.1 hv;have o1:=ok.name;have o2:=ok.kind;have o3:=ok.p1;have o4:=ok.p4;have o5:=ok.l1;have o6:=ok.l8;have o7:=ok.u0;have o8:=ok.u1;(omega)
 refine ac ?_
 refine CY 1 43 rfl ?_
 refine Tr.cn rfl ?_ ?_<;>intro h9 q9
 refine ac ?_
 refine ac ?_
 · refine int_eq (if_neg (fun hv=> ?_)).symm;have ok:=Ay.1 hv;have o1:=ok.name;have o2:=ok.kind;have o3:=ok.p1;have o4:=ok.p4;have o5:=ok.l1;have o6:=ok.l8;have o7:=ok.u0;have o8:=ok.u1;(omega)
 refine Tr.skip (Fin.AK () ⟨⟨by simp_all,by simp_all,by omega,by omega⟩,by omega,by omega⟩ ⟨ke rfl,trivial⟩)
 obtain ⟨⟨hq1,OX,Ys,hq4⟩,hq5,hq6⟩:=hpre
 obtain ⟨c0,hc0⟩:=at_ (l:=x.links) (k:=0) (by omega)
 have WR:=getD_at (d:=DO) hc0
 refine ac ?_
 refine Tr.block (Tr.BH [(1,_),(45,_),(46,_)] (Nr rfl) (fun k:Nat=>[(47,int ((k:Nat):Int))]) (fun k:Nat=>k≤(x.links).length∧(∀j,j<k→Cq x.links j=true)) (fun k:Nat=>(x.links).length-k) 0 (⟨Nat.zero_le _,fun j hj=>absurd hj (by omega)⟩) ⟨ke rfl,trivial⟩ ?_)
 rintro k ⟨BR,AG⟩
 refine ac ?_
 refine Tr.seq ?_
 refine Tr.cn rfl ?_ ?_<;>intro h10 O9
 have Aa:k<(x.links).length:=AL h10
 obtain ⟨c,AY⟩:=at_ Aa
 have hg:=getD_at (d:=DO) AY
 refine ac ?_
 refine ao ?_
 refine tp rfl (AA rfl underlying79 FZ (vl rfl) (vl rfl) (by omega) (AU AY)) (tp rfl (AF rfl cr FZ (vl rfl) rfl rfl) ?_)
 refine Tl rfl rfl rfl rfl cv VI (fun b1=> ?_)
 refine tm rfl ?_
 refine sf 0 5 ⟨rfl,rfl,rfl⟩ rfl rfl rfl rfl ?_
 refine ao ?_
 refine ac ?_
 refine co rfl (CN (N7) rfl rfl) ?_
 refine ac ?_
 refine Ch.cs 56 rfl ?_ ?_<;>intro h11 SS
 refine ac ?_
 refine K5 1 45 46 47 81 rfl ?_
 refine ac ?_
 refine ac ?_
 · refine int_eq (if_neg (fun hv=> ?_)).symm;have ok:=Ay.1 hv;have o1:=ok.name;have o2:=ok.kind;have o3:=ok.p1;have o4:=ok.p4;have o5:=ok.l1;have o6:=ok.l8;have o7:=ok.u0;have o8:=ok.u1;(have h_:=ok.ZP k (by omega);unfold Cq at h_;rw [hg] at h_;simp_all;omega)
 refine ac ?_
 refine Ch.cs 61 rfl ?_ ?_<;>intro h12 Tw
 refine ac ?_
 refine K5 1 45 46 47 81 rfl ?_
 refine ac ?_
 refine ac ?_
 · refine int_eq (if_neg (fun hv=> ?_)).symm;have ok:=Ay.1 hv;have o1:=ok.name;have o2:=ok.kind;have o3:=ok.p1;have o4:=ok.p4;have o5:=ok.l1;have o6:=ok.l8;have o7:=ok.u0;have o8:=ok.u1;(have h_:=ok.ZP k (by omega);unfold Cq at h_;rw [hg] at h_;simp_all;omega)
 refine ac ?_
 refine Ch.cs 66 rfl ?_ ?_<;>intro MU Uj
 refine ac ?_
 refine K5 1 45 46 47 81 rfl ?_
 refine ac ?_
 refine ac ?_
 · refine int_eq (if_neg (fun hv=> ?_)).symm;have ok:=Ay.1 hv;have o1:=ok.name;have o2:=ok.kind;have o3:=ok.p1;have o4:=ok.p4;have o5:=ok.l1;have o6:=ok.l8;have o7:=ok.u0;have o8:=ok.u1;(have h_:=ok.ZP k (by omega);unfold Cq at h_;rw [hg] at h_;simp_all;omega)
 refine ac ?_
 refine Ch.cs 69 rfl ?_ ?_<;>intro Jz Xv
 have hk0:0<k:=by simpa using Jz
 obtain ⟨y,hy⟩:=at_ (l:=x.links) (k:=k-1) (by omega)
 have Ho:=getD_at (d:=DO) hy
 refine ac ?_
 refine cy Jz rfl (AA rfl underlying79 FZ (vl rfl) (vl rfl) (by omega) (by rw [show ((k:Nat):Int)-1=((k-1:Nat):Int) by omega];exact AU hy)) ?_
 refine ac ?_
 refine K5 1 45 46 47 81 rfl ?_
 refine Tr.cn rfl ?_ ?_<;>intro MV ZC
 refine ac ?_
 refine ac ?_
 · refine int_eq (if_neg (fun hv=> ?_)).symm;have ok:=Ay.1 hv;have o1:=ok.name;have o2:=ok.kind;have o3:=ok.p1;have o4:=ok.p4;have o5:=ok.l1;have o6:=ok.l8;have o7:=ok.u0;have o8:=ok.u1;(have h_:=ok.ZP k (by omega);unfold Cq at h_;rw [hg,Ho] at h_;simp_all;omega)
 refine ac ?_
 refine ac ?_
 exact Fin.AK (k+1) ⟨⟨Aa,BT AG (by unfold Cq;rw [hg,Ho];simp_all)⟩,by omega⟩ ⟨⟨_,rfl,AE k⟩,ke rfl,ke rfl,ke rfl,trivial⟩
 have HB:¬0<k:=by simpa using Jz
 refine ac ?_
 refine K5 1 45 46 47 81 rfl ?_
 refine ac ?_
 refine ac ?_
 exact Fin.AK (k+1) ⟨⟨Aa,BT AG (by unfold Cq;rw [hg];simp_all)⟩,by omega⟩ ⟨⟨_,rfl,AE k⟩,ke rfl,ke rfl,ke rfl,trivial⟩
 have A_:k=(x.links).length:=by have:=AM h10;omega
 subst A_
 refine ac ?_
 refine ac ?_
 refine co rfl (AA rfl underlying79 FZ (vl rfl) (vl rfl) (by omega) (AU (k:=0) hc0)) ?_
 refine ac ?_
 refine Ch.cs 91 rfl ?_ ?_<;>intro h16 au
 refine ac ?_
 refine FD 95 rfl ?_
 refine ac ?_
 refine ac ?_
 · refine int_eq (if_neg (fun hv=> ?_)).symm;have ok:=Ay.1 hv;have o1:=ok.name;have o2:=ok.kind;have o3:=ok.p1;have o4:=ok.p4;have o5:=ok.l1;have o6:=ok.l8;have o7:=ok.u0;have o8:=ok.u1;(simp_all;omega)
 refine ac ?_
 refine FD 95 rfl ?_
 refine Tr.cn rfl ?_ ?_<;>intro NA Xr
 refine ac ?_
 refine ac ?_
 · refine int_eq (if_neg (fun hv=> ?_)).symm;have ok:=Ay.1 hv;have o1:=ok.name;have o2:=ok.kind;have o3:=ok.p1;have o4:=ok.p4;have o5:=ok.l1;have o6:=ok.l8;have o7:=ok.u0;have o8:=ok.u1;(omega)
 refine ac ?_
 refine ac ?_
 refine ac ?_
 · refine int_eq (if_pos (Ay.2 ⟨hq1,OX,Ys,hq4,hq5,hq6,AG,by rw [WR];omega,by omega⟩)).symm
theorem Q8 {x:J2}  :A9 prog 63 [agg (F8 x)] (int (if En x then 0 else 30)):=by
 refine fo func63 rfl ⟨rfl,rfl⟩ fun M0 w0=> ?_
 refine ac ?_
 refine FD 1 rfl (Tr.X2 [1] [] ((named x.name=true∧(x.kind=1∨x.kind=2)∧1≤x.Ev∧x.Ev≤4)∧1≤x.links.length∧x.links.length≤8∧(x.links[0]?.getD DO).day≤x.Ik∧x.Ik≤40000) ?_ (fun hpre=> ?_))
 refine ac ?_
 refine co rfl (CN (Es) rfl rfl) ?_
 refine ag ?_ ?_<;>intro h2 q2
 refine ac ?_
 refine CY 1 54 rfl ?_
 refine a2 ?_
 · refine int_eq (if_neg (fun hv=> ?_)).symm;have ok:=Ay.1 hv;have o1:=ok.name;have o2:=ok.kind;have o3:=ok.p1;have o4:=ok.p4;have o5:=ok.l1;have o6:=ok.l8;have o7:=ok.u0;have o8:=ok.u1;(simp_all)
 refine ag ?_ ?_<;>intro h3 q3
 refine ag ?_ ?_<;>intro h4 q4
 refine ac ?_
 refine CY 1 54 rfl ?_
 refine a2 ?_
 · refine int_eq (if_neg (fun hv=> ?_)).symm;have ok:=Ay.1 hv;have o1:=ok.name;have o2:=ok.kind;have o3:=ok.p1;have o4:=ok.p4;have o5:=ok.l1;have o6:=ok.l8;have o7:=ok.u0;have o8:=ok.u1;(omega)
 refine ag ?_ ?_<;>intro h5 q5
 refine ac ?_
 refine CY 1 54 rfl ?_
 refine a2 ?_
 · refine int_eq (if_neg (fun hv=> ?_)).symm;have ok:=Ay.1 hv;have o1:=ok.name;have o2:=ok.kind;have o3:=ok.p1;have o4:=ok.p4;have o5:=ok.l1;have o6:=ok.l8;have o7:=ok.u0;have o8:=ok.u1;(omega)
 refine ag ?_ ?_<;>intro h6 q6
 refine ac ?_
 refine CY 1 54 rfl ?_
 refine a2 ?_
 · refine int_eq (if_neg (fun hv=> ?_)).symm;have ok:=Ay.1 hv;have o1:=ok.name;have o2:=ok.kind;have o3:=ok.p1;have o4:=ok.p4;have o5:=ok.l1;have o6:=ok.l8;have o7:=ok.u0;have o8:=ok.u1;(omega)
 refine ag ?_ ?_<;>intro h7 q7
 refine ac ?_
 refine CY 1 54 rfl ?_
 refine a2 ?_
 · refine int_eq (if_neg (fun hv=> ?_)).symm;have ok:=Ay.1 hv;have o1:=ok.name;have o2:=ok.kind;have o3:=ok.p1;have o4:=ok.p4;have o5:=ok.l1;have o6:=ok.l8;have o7:=ok.u0;have o8:=ok.u1;(omega)
 refine ag ?_ ?_<;>intro h8 q8
 refine ac ?_
 refine CY 1 54 rfl ?_
 refine a2 ?_
 · refine int_eq (if_neg (fun hv=> ?_)).symm;have ok:=Ay.1 hv;have o1:=ok.name;have o2:=ok.kind;have o3:=ok.p1;have o4:=ok.p4;have o5:=ok.l1;have o6:=ok.l8;have o7:=ok.u0;have o8:=ok.u1;(omega)
 refine ag ?_ ?_<;>intro h9 q9
 refine ac ?_
 refine CY 1 54 rfl ?_
 refine a2 ?_
 · refine int_eq (if_neg (fun hv=> ?_)).symm;have ok:=Ay.1 hv;have o1:=ok.name;have o2:=ok.kind;have o3:=ok.p1;have o4:=ok.p4;have o5:=ok.l1;have o6:=ok.l8;have o7:=ok.u0;have o8:=ok.u1;(omega)
 obtain ⟨c0,hc0⟩:=at_ (l:=x.links) (k:=0) (by omega)
 have WR:=getD_at (d:=DO) hc0
 refine ac ?_
 refine cy h9 rfl (AA rfl underlying79 FZ (vl rfl) (vl rfl) (by omega) (AU (k:=0) hc0)) ?_
 refine ac ?_
 refine CY 1 54 rfl ?_
 refine Tr.cn rfl ?_ ?_<;>intro h10 O9
 refine a2 ?_
 · refine int_eq (if_neg (fun hv=> ?_)).symm;have ok:=Ay.1 hv;have o1:=ok.name;have o2:=ok.kind;have o3:=ok.p1;have o4:=ok.p4;have o5:=ok.l1;have o6:=ok.l8;have o7:=ok.u0;have o8:=ok.u1;(simp_all;omega)
 refine Tr.skip ?_
 exact Fin.AK () ⟨⟨by simp_all,by omega,by omega,by omega⟩,by omega,by omega,by rw [WR];omega,by omega⟩ ⟨ke rfl,trivial⟩
 refine ag ?_ ?_<;>intro h11 SS
 refine ac ?_
 refine CY 1 54 rfl ?_
 refine a2 ?_
 · refine int_eq (if_neg (fun hv=> ?_)).symm;have ok:=Ay.1 hv;have o1:=ok.name;have o2:=ok.kind;have o3:=ok.p1;have o4:=ok.p4;have o5:=ok.l1;have o6:=ok.l8;have o7:=ok.u0;have o8:=ok.u1;(omega)
 refine ag ?_ ?_<;>intro h12 Tw
 refine ac ?_
 refine CY 1 54 rfl ?_
 refine a2 ?_
 · refine int_eq (if_neg (fun hv=> ?_)).symm;have ok:=Ay.1 hv;have o1:=ok.name;have o2:=ok.kind;have o3:=ok.p1;have o4:=ok.p4;have o5:=ok.l1;have o6:=ok.l8;have o7:=ok.u0;have o8:=ok.u1;(omega)
 refine ag ?_ ?_<;>intro MU Uj
 refine ac ?_
 refine CY 1 54 rfl ?_
 refine a2 ?_
 · refine int_eq (if_neg (fun hv=> ?_)).symm;have ok:=Ay.1 hv;have o1:=ok.name;have o2:=ok.kind;have o3:=ok.p1;have o4:=ok.p4;have o5:=ok.l1;have o6:=ok.l8;have o7:=ok.u0;have o8:=ok.u1;(omega)
 refine ag ?_ ?_<;>intro Jz Xv
 refine ac ?_
 refine CY 1 54 rfl ?_
 refine a2 ?_
 · refine int_eq (if_neg (fun hv=> ?_)).symm;have ok:=Ay.1 hv;have o1:=ok.name;have o2:=ok.kind;have o3:=ok.p1;have o4:=ok.p4;have o5:=ok.l1;have o6:=ok.l8;have o7:=ok.u0;have o8:=ok.u1;(omega)
 refine ag ?_ ?_<;>intro MV ZC
 refine ac ?_
 refine CY 1 54 rfl ?_
 refine a2 ?_
 · refine int_eq (if_neg (fun hv=> ?_)).symm;have ok:=Ay.1 hv;have o1:=ok.name;have o2:=ok.kind;have o3:=ok.p1;have o4:=ok.p4;have o5:=ok.l1;have o6:=ok.l8;have o7:=ok.u0;have o8:=ok.u1;(omega)
 obtain ⟨c0,hc0⟩:=at_ (l:=x.links) (k:=0) (by omega)
 have WR:=getD_at (d:=DO) hc0
 refine ac ?_
 refine cy MV rfl (AA rfl underlying79 FZ (vl rfl) (vl rfl) (by omega) (AU (k:=0) hc0)) ?_
 refine ac ?_
 refine CY 1 54 rfl ?_
 refine Tr.cn rfl ?_ ?_<;>intro h16 au
 refine a2 ?_
 · refine int_eq (if_neg (fun hv=> ?_)).symm;have ok:=Ay.1 hv;have o1:=ok.name;have o2:=ok.kind;have o3:=ok.p1;have o4:=ok.p4;have o5:=ok.l1;have o6:=ok.l8;have o7:=ok.u0;have o8:=ok.u1;(simp_all;omega)
 refine Tr.skip ?_
 exact Fin.AK () ⟨⟨by simp_all,by omega,by omega,by omega⟩,by omega,by omega,by rw [WR];omega,by omega⟩ ⟨ke rfl,trivial⟩
 obtain ⟨⟨hq1,OX,Ys,hq4⟩,hq5,hq6,hq7,hq8⟩:=hpre
 refine ac ?_
 refine Tr.block (Tr.BH [(1,_)] ⟨ke rfl,trivial⟩ (fun k:Nat=>[(3,int ((k:Nat):Int))]) (fun k:Nat=>k≤(x.links).length∧(∀j,j<k→Cq x.links j=true)) (fun k:Nat=>(x.links).length-k) 0 (⟨Nat.zero_le _,fun j hj=>absurd hj (by omega)⟩) ⟨ke rfl,trivial⟩ ?_)
 rintro k ⟨BR,AG⟩
 refine an ?_ ?_<;>intro NA Xr
 have Aa:k<(x.links).length:=AL NA
 obtain ⟨c,AY⟩:=at_ Aa
 have hg:=getD_at (d:=DO) AY
 refine a2 ?_
 refine co rfl (AA rfl underlying79 FZ (vl rfl) (vl rfl) (by omega) (AU AY)) ?_
 refine ac ?_
 refine co rfl (CN (JN) rfl rfl) ?_
 refine ag ?_ ?_<;>intro Kc aj
 refine ac ?_
 refine FX 1 3 107 rfl ?_
 refine a2 ?_
 · refine int_eq (if_neg (fun hv=> ?_)).symm;have ok:=Ay.1 hv;have o1:=ok.name;have o2:=ok.kind;have o3:=ok.p1;have o4:=ok.p4;have o5:=ok.l1;have o6:=ok.l8;have o7:=ok.u0;have o8:=ok.u1;(have h_:=ok.ZP k (by omega);unfold Cq at h_;rw [hg] at h_;simp_all;omega)
 refine ac ?_
 refine cy Kc rfl (AA rfl underlying79 FZ (vl rfl) (vl rfl) (by omega) (AU AY)) ?_
 refine ag ?_ ?_<;>intro Xs lA
 refine ac ?_
 refine FX 1 3 107 rfl ?_
 refine a2 ?_
 · refine int_eq (if_neg (fun hv=> ?_)).symm;have ok:=Ay.1 hv;have o1:=ok.name;have o2:=ok.kind;have o3:=ok.p1;have o4:=ok.p4;have o5:=ok.l1;have o6:=ok.l8;have o7:=ok.u0;have o8:=ok.u1;(have h_:=ok.ZP k (by omega);unfold Cq at h_;rw [hg] at h_;simp_all;omega)
 refine ac ?_
 refine cy Xs rfl (AA rfl underlying79 FZ (vl rfl) (vl rfl) (by omega) (AU AY)) ?_
 refine ag ?_ ?_<;>intro NB nu
 refine ac ?_
 refine FX 1 3 107 rfl ?_
 refine a2 ?_
 · refine int_eq (if_neg (fun hv=> ?_)).symm;have ok:=Ay.1 hv;have o1:=ok.name;have o2:=ok.kind;have o3:=ok.p1;have o4:=ok.p4;have o5:=ok.l1;have o6:=ok.l8;have o7:=ok.u0;have o8:=ok.u1;(have h_:=ok.ZP k (by omega);unfold Cq at h_;rw [hg] at h_;simp_all;omega)
 refine ag ?_ ?_<;>intro Xt q21
 have hk0:0<k:=by simpa using Xt
 obtain ⟨y,hy⟩:=at_ (l:=x.links) (k:=k-1) (by omega)
 have Ho:=getD_at (d:=DO) hy
 · repeat' first|(refine int_eq (if_neg (fun hv=> ?_)).symm;have ok:=Ay.1 hv;have o1:=ok.name;have o2:=ok.kind;have o3:=ok.p1;have o4:=ok.p4;have o5:=ok.l1;have o6:=ok.l8;have o7:=ok.u0;have o8:=ok.u1;(have h_:=ok.ZP k (by omega);unfold Cq at h_;rw [hg,Ho] at h_;simp_all;omega))|(exact Fin.AK (k+1) ⟨⟨Aa,BT AG (by unfold Cq;rw [hg,Ho];simp_all)⟩,by omega⟩ ⟨⟨_,rfl,AE k⟩,ke rfl,trivial⟩)|(refine cy Xt rfl (AA rfl underlying79 FZ (vl rfl) (vl rfl) (by omega) (by rw [show ((k:Nat):Int)-1=((k-1:Nat):Int) by omega];exact AU hy)) ?_)|refine cy Xt rfl (AA rfl underlying79 FZ (vl rfl) (vl rfl) (by omega) (AU AY)) ?_|refine ac ?_|(refine Tr.cn rfl ?_ ?_<;>intro h q)
 have HB:¬0<k:=by simpa using Xt
 refine ac ?_
 refine FX 1 3 107 rfl ?_
 refine a2 ?_
 exact Fin.AK (k+1) ⟨⟨Aa,BT AG (by unfold Cq;rw [hg];simp_all)⟩,by omega⟩ ⟨⟨_,rfl,AE k⟩,ke rfl,trivial⟩
 have A_:k=(x.links).length:=by have:=AM NA;omega
 subst A_
 refine a3 ?_
 · refine int_eq (if_pos (Ay.2 ⟨hq1,OX,Ys,hq4,hq5,hq6,AG,by omega,by omega⟩)).symm
theorem WS {l:List Ji} {n:Nat}  :A9 prog 74 [JP l,int ((n:Nat):Int)] (bool (Ea n l)):=by
 refine fo func74 rfl ⟨rfl,rfl⟩ fun M0 w0=>(Tr.Fg 0 rfl fun Hz=> ?_)
 refine ac ?_
 refine ac ?_
 refine Tr.block (Tr.BH [(0,_),(1,_),(7,_),(8,_)] (fc rfl) (fun k:Nat=>[(9,int ((k:Nat):Int))]) (fun k:Nat=>k≤(l).length∧(∀j,j<k→BO n l j=true)) (fun k:Nat=>(l).length-k) 0 (⟨Nat.zero_le _,fun j hj=>absurd hj (by omega)⟩) ⟨ke rfl,trivial⟩ ?_)
 rintro k ⟨BR,AG⟩
 refine ac ?_
 refine Tr.seq ?_
 refine Tr.cn rfl ?_ ?_<;>intro h1 q1
 have Aa:k<(l).length:=AL h1
 obtain ⟨c,AY⟩:=at_ Aa
 have hg:=getD_at (d:=Em) AY
 refine ac ?_
 refine ao ?_
 refine tp rfl (AA rfl underlying28 Hl (vl rfl) (vl rfl) (by omega) (AU AY)) (tp rfl (AF rfl VE Hl (vl rfl) rfl rfl) ?_)
 refine Tl rfl rfl rfl rfl ff VF (fun b1=> ?_)
 refine tm rfl ?_
 refine sf 0 6 ⟨rfl,rfl,rfl⟩ rfl rfl rfl rfl ?_
 refine ao ?_
 refine ac ?_
 refine Ch.cs 17 rfl ?_ ?_<;>intro h2 q2
 refine ac ?_
 refine Oh 0 1 5 6 7 8 9 40 rfl ?_
 refine ac ?_
 refine ac ?_
 · refine bool_eq ?_;unfold Ea;rw [C8 (p:=BO n l) (k:=k) (by omega) (by unfold BO;rw [hg];simp_all;omega)];rfl
 refine ac ?_
 refine Ch.cs 23 rfl ?_ ?_<;>intro h3 q3
 refine ac ?_
 refine Oh 0 1 5 6 7 8 9 40 rfl ?_
 refine ac ?_
 refine ac ?_
 · refine bool_eq ?_;unfold Ea;rw [C8 (p:=BO n l) (k:=k) (by omega) (by unfold BO;rw [hg];simp_all;omega)];rfl
 refine ac ?_
 refine Ch.cs 28 rfl ?_ ?_<;>intro h4 q4
 refine ac ?_
 refine Oh 0 1 5 6 7 8 9 40 rfl ?_
 refine ac ?_
 refine ac ?_
 · refine bool_eq ?_;unfold Ea;rw [C8 (p:=BO n l) (k:=k) (by omega) (by unfold BO;rw [hg];simp_all;omega)];rfl
 refine ac ?_
 refine Ch.cs 34 rfl ?_ ?_<;>intro h5 q5
 refine ac ?_
 refine Oh 0 1 5 6 7 8 9 40 rfl ?_
 refine ac ?_
 refine ac ?_
 · refine bool_eq ?_;unfold Ea;rw [C8 (p:=BO n l) (k:=k) (by omega) (by unfold BO;rw [hg];simp_all;omega)];rfl
 refine ac ?_
 refine Oh 0 1 5 6 7 8 9 40 rfl ?_
 refine Tr.cn rfl ?_ ?_<;>intro h6 q6
 refine ac ?_
 refine ac ?_
 · refine bool_eq ?_;unfold Ea;rw [C8 (p:=BO n l) (k:=k) (by omega) (by unfold BO;rw [hg];simp_all)];rfl
 refine ac ?_
 refine ac ?_
 refine Ch.cs 43 rfl ?_ ?_<;>intro h7 q7
 have hk0:0<k:=by simpa using h7
 obtain ⟨y,hy⟩:=at_ (l:=l) (k:=k-1) (by omega)
 have Ho:=getD_at (d:=Em) hy
 refine ac ?_
 refine cy h7 rfl (AA rfl underlying28 Hl (vl rfl) (vl rfl) (by omega) (by rw [show ((k:Nat):Int)-1=((k-1:Nat):Int) by omega];exact AU hy)) ?_
 refine ac ?_
 refine Ch.cs 53 rfl ?_ ?_<;>intro h8 q8
 refine ac ?_
 refine Og 0 1 7 8 9 75 rfl ?_
 refine ac ?_
 refine ac ?_
 · refine bool_eq ?_;unfold Ea;rw [C8 (p:=BO n l) (k:=k) (by omega) (by unfold BO;rw [hg,Ho];simp_all;omega)];rfl
 refine ac ?_
 refine cy h8 rfl (AA rfl underlying28 Hl (vl rfl) (vl rfl) (by omega) (by rw [show ((k:Nat):Int)-1=((k-1:Nat):Int) by omega];exact AU hy)) ?_
 refine ac ?_
 refine Ch.cs 63 rfl ?_ ?_<;>intro h9 q9
 refine ac ?_
 refine cy h9 rfl (AA rfl underlying28 Hl (vl rfl) (vl rfl) (by omega) (by rw [show ((k:Nat):Int)-1=((k-1:Nat):Int) by omega];exact AU hy)) ?_
 refine ac ?_
 refine Og 0 1 7 8 9 75 rfl ?_
 refine Tr.cn rfl ?_ ?_<;>intro h10 O9
 refine ac ?_
 refine ac ?_
 · refine bool_eq ?_;unfold Ea;rw [C8 (p:=BO n l) (k:=k) (by omega) (by unfold BO;rw [hg,Ho];simp_all;omega)];rfl
 refine ac ?_
 refine ac ?_
 exact Fin.AK (k+1) ⟨⟨Aa,BT AG (by unfold BO;rw [hg,Ho];simp_all)⟩,by omega⟩ ⟨⟨_,rfl,AE k⟩,ke rfl,ke rfl,ke rfl,ke rfl,trivial⟩
 refine ac ?_
 refine Og 0 1 7 8 9 75 rfl ?_
 refine ac ?_
 refine ac ?_
 exact Fin.AK (k+1) ⟨⟨Aa,BT AG (by unfold BO;rw [hg,Ho];simp_all;omega)⟩,by omega⟩ ⟨⟨_,rfl,AE k⟩,ke rfl,ke rfl,ke rfl,ke rfl,trivial⟩
 have HB:¬0<k:=by simpa using h7
 refine ac ?_
 refine Og 0 1 7 8 9 75 rfl ?_
 refine ac ?_
 refine ac ?_
 exact Fin.AK (k+1) ⟨⟨Aa,BT AG (by unfold BO;rw [hg];simp_all)⟩,by omega⟩ ⟨⟨_,rfl,AE k⟩,ke rfl,ke rfl,ke rfl,ke rfl,trivial⟩
 have A_:k=(l).length:=by have:=AM h1;omega
 subst A_
 refine ac ?_
 refine ac ?_
 refine ac ?_
 · refine bool_eq ?_;unfold Ea;rw [JI AG,Bool.true_and,decide_eq_decide];omega
abbrev rN (l:List Ez):Pr:=slice 9 (l.map Cv)
structure FC where
 Cu:List Ez
 Cz:List Ji
 items:List J2
 deriving DecidableEq
abbrev JQ (e:FC):List Pr:=[rN e.Cu,JP e.Cz,Q7 e.items]
structure FC.fits (e:FC):Prop where
 Cu:∀x∈e.Cu,x.fits∧x.small
 items:∀x∈e.items,x.name.length≤maxLen
 le:e.Cu.length≤1000000000000
 lg:e.Cz.length≤1000000000000
 li:e.items.length≤1000000000000
def J3 (l:List Ez) (i:Nat):Bool:=Gq (l[i]?.getD G9)&&(decide (i=0)||decide (Lib.compareBytes (l[i-1]?.getD G9).name (l[i]?.getD G9).name= -1))
def J4 (e:FC):Bool:=(allI (J3 e.Cu) e.Cu.length&&decide (e.Cu.length≤16))&&Ea e.Cu.length e.Cz&&(e.items.all En&&decide (e.items.length≤30))
structure a_ (e:FC):Prop where
 ep:∀j,j<e.Cu.length→J3 e.Cu j=true
 bA:e.Cu.length≤16
 ed:∀j,j<e.Cz.length→BO e.Cu.length e.Cz j=true
 ZQ:e.Cz.length≤40
 it:e.items.all En=true
 bB:e.items.length≤30
theorem Bz {e:FC}:J4 e=true↔a_ e:=by
 unfold J4 Ea
 simp only [Bool.and_eq_true,decide_eq_true_eq,Ba]
 exact ⟨fun ⟨⟨⟨h1,h2⟩,h3,h4⟩,h5,h6⟩=>⟨h1,h2,h3,h4,h5,h6⟩,fun h=>⟨⟨⟨h.ep,h.bA⟩,h.ed,h.ZQ⟩,h.it,h.bB⟩⟩
theorem Eb {e:FC} (h:a_ e):Ea e.Cu.length e.Cz=true:=by unfold Ea;simp only [Bool.and_eq_true,decide_eq_true_eq,Ba];exact ⟨h.ed,h.ZQ⟩
theorem eI {x:J2} (hx:x.name.length≤maxLen):A9 prog 72 [agg (F8 x)] (bool (!En x)):=by
 refine fo func72 rfl ⟨rfl,rfl⟩ fun M0 w0=> ?_
 refine a2 ?_
 refine co rfl (CN (T_ hx) rfl rfl) ?_
 refine a2 ?_
 · refine bool_eq ?_;cases h_:En x<;>simp_all
theorem eJ:Entry Tryz.prog 72:=⟨_,Tryz.func72,rfl,rfl⟩
theorem ZR {α:Type} {g:α→J2} {l:List α} {p:α→Bool}  :A9 prog 101 [slice 5 (l.map fun x=>F8 (g x)),QL prog (fun x:α=>[agg (F8 (g x))]) (fun x=>bool (p x))] (int (idx p l)):=by
 refine fo func101 rfl ⟨rfl,rfl⟩ fun M0 w0=>(Tr.Fg 0 rfl fun Hz=> ?_)
 refine a2 ?_
 refine Tr.block (Tr.BH [(0,_),(1,_),(7,_)] (Nr rfl) (fun k:Nat=>[(8,int ((k:Nat):Int))]) (fun k:Nat=>k≤(l).length∧(∀j y,j<k→l[j]? =some y→p y=false)) (fun k:Nat=>(l).length-k) 0 (⟨Nat.zero_le _,fun j y hj=>absurd hj (by omega)⟩) ⟨ke rfl,trivial⟩ ?_)
 rintro k ⟨BR,AG⟩
 refine ac ?_
 refine Tr.seq ?_
 refine Tr.cn rfl ?_ ?_<;>intro h1 q1
 have Aa:k<(l).length:=AL h1
 obtain ⟨x,AY⟩:=at_ Aa
 · repeat' first|exact int_eq (Ey AY (by assumption) AG)|exact Fin.AK (k+1) ⟨⟨Aa,CB AY (by assumption) AG⟩,by omega⟩ ⟨⟨_,rfl,AE k⟩,ke rfl,ke rfl,ke rfl,trivial⟩|refine co rfl (AA rfl underlying29 Kw (vl rfl) (vl rfl) (by omega) (by exact AU (by assumption))) ?_|refine co rfl (AF rfl SI Kw (vl rfl) rfl rfl) (co rfl (E5 x rfl (vl rfl) ⟨ke rfl,trivial⟩) ?_)|refine ac ?_|(refine Tr.cn rfl ?_ ?_<;>intro h q)
 have A_:k=(l).length:=by have:=AM h1;omega
 subst A_
 refine a3 ?_
 · exact int_eq (G3 AG)
theorem ZS {α:Type} {g:α→J2} {l:List α} {p:α→Bool}  :A9 prog 71 [slice 5 (l.map fun x=>F8 (g x)),QL prog (fun x:α=>[agg (F8 (g x))]) (fun x=>bool (p x))] (bool (l.any p)):=by
 refine fo func71 rfl ⟨rfl,rfl⟩ fun M0 w0=> ?_
 refine a2 ?_
 refine co rfl (DK (ZR) rfl rfl rfl) ?_
 refine a2 ?_
 · exact bool_eq (K7 p l)
theorem Q9 {l:List J2} (h:∀x∈l,x.name.length≤maxLen):∃m:List {x:J2//x.name.length≤maxLen},(m.map fun x=>F8 x.1)=l.map F8∧(m.any fun x=> !En x.1)= !l.all En:=by
 refine ⟨l.attach.map fun x=>⟨x.1,h x.1 x.2⟩,?_,?_⟩
 · rw [List.map_map];exact List.attach_map_val (f:=F8) ▸ rfl
 ·
  rw [←SQ,List.any_map]
  show (l.attach.any fun x=> !En x.1)=_
  rw [Bool.eq_iff_iff];simp
theorem WT {e:FC} (hf:e.fits):A9 prog 45 [agg (JQ e)] (int (if J4 e then 0 else 31)):=by
 refine fo func45 rfl ⟨rfl,rfl⟩ fun M0 w0=> ?_
 have hl1:=hf.le
 have gh:=hf.lg
 have hl3:=hf.li
 obtain ⟨mi,rO,bX⟩:=Q9 hf.items
 refine ac ?_
 refine ac ?_
 refine Tr.block (Tr.BH [(1,_),(7,_),(8,_)] (Nr rfl) (fun k:Nat=>[(9,int ((k:Nat):Int))]) (fun k:Nat=>k≤(e.Cu).length∧(∀j,j<k→J3 e.Cu j=true)) (fun k:Nat=>(e.Cu).length-k) 0 (⟨Nat.zero_le _,fun j hj=>absurd hj (by omega)⟩) ⟨ke rfl,trivial⟩ ?_)
 rintro k ⟨BR,AG⟩
 refine ac ?_
 refine Tr.seq ?_
 refine Tr.cn rfl ?_ ?_<;>intro h1 q1
 have Aa:k<(e.Cu).length:=AL h1
 obtain ⟨x,AY⟩:=at_ Aa
 have hg:=getD_at (d:=G9) AY
 have k8:=hf.Cu x (List.mem_of_getElem? AY)
 refine ac ?_
 refine ao ?_
 refine tp rfl (AA rfl underlying27 F6 (vl rfl) (vl rfl) (by omega) (AU AY)) (tp rfl (AF rfl Mt F6 (vl rfl) rfl rfl) ?_)
 refine Tl rfl rfl rfl rfl cM YN (fun b1=> ?_)
 refine tm rfl ?_
 refine sf 0 4 ⟨rfl,rfl,rfl⟩ rfl rfl rfl rfl ?_
 refine ao ?_
 refine ac ?_
 refine co rfl (CN (V5 k8.1) rfl rfl) ?_
 refine ac ?_
 refine Ch.cs 17 rfl ?_ ?_<;>intro h2 q2
 refine ac ?_
 refine K5 1 7 8 9 32 rfl ?_
 refine ac ?_
 refine ac ?_
 · refine int_eq (if_neg (fun hv=> ?_)).symm;have ok:=Bz.1 hv;(have h_:=ok.ep k (by omega);unfold J3 at h_;rw [hg] at h_;simp_all)
 refine ac ?_
 refine Ch.cs 20 rfl ?_ ?_<;>intro h3 q3
 have hk0:0<k:=by simpa using h3
 obtain ⟨y,hy⟩:=at_ (l:=e.Cu) (k:=k-1) (by omega)
 have Ho:=getD_at (d:=G9) hy
 refine ac ?_
 refine cy h3 rfl (AA rfl underlying27 F6 (vl rfl) (vl rfl) (by omega) (by rw [show ((k:Nat):Int)-1=((k-1:Nat):Int) by omega];exact AU hy)) ?_
 refine ac ?_
 refine cy h3 rfl (IW rfl (vl rfl) (vl rfl)) ?_
 refine ac ?_
 refine K5 1 7 8 9 32 rfl ?_
 refine Tr.cn rfl ?_ ?_<;>intro h4 q4
 refine ac ?_
 refine ac ?_
 · refine int_eq (if_neg (fun hv=> ?_)).symm;have ok:=Bz.1 hv;(have h_:=ok.ep k (by omega);unfold J3 at h_;rw [hg,Ho] at h_;simp_all)
 refine ac ?_
 refine ac ?_
 exact Fin.AK (k+1) ⟨⟨Aa,BT AG (by unfold J3;rw [hg,Ho];simp_all)⟩,by omega⟩ ⟨⟨_,rfl,AE k⟩,ke rfl,ke rfl,ke rfl,trivial⟩
 have HB:¬0<k:=by simpa using h3
 refine ac ?_
 refine K5 1 7 8 9 32 rfl ?_
 refine ac ?_
 refine ac ?_
 exact Fin.AK (k+1) ⟨⟨Aa,BT AG (by unfold J3;rw [hg];simp_all)⟩,by omega⟩ ⟨⟨_,rfl,AE k⟩,ke rfl,ke rfl,ke rfl,trivial⟩
 have A_:k=(e.Cu).length:=by have:=AM h1;omega
 subst A_
 have WU:=AG
 refine ac ?_
 refine ac ?_
 refine co rfl (AW rfl (ZS (g:=fun x:{x:J2//x.name.length≤maxLen}=>x.1) (l:=mi) (p:=fun x=> !En x.1)) ⟨⟨_,rfl,Pr.le_of_eq (by rw [rO])⟩,⟨_,rfl,CH (dom:=fun x:{x:J2//x.name.length≤maxLen}=>[agg (F8 x.1)]) (res:=fun x=>bool (!En x.1)) eJ (fun x=>eI x.2)⟩,trivial⟩) ?_
 refine ac ?_
 refine ac ?_
 refine Ch.cs 38 rfl ?_ ?_<;>intro h5 q5
 refine ac ?_
 refine FD 58 rfl ?_
 refine ac ?_
 refine ac ?_
 · refine int_eq (if_neg (fun hv=> ?_)).symm;have ok:=Bz.1 hv;(have o1:=ok.bA;have o2:=ok.ZQ;have o3:=ok.bB;have o4:=ok.it;have o5:=Eb ok;simp_all)
 refine ac ?_
 refine Ch.cs 44 rfl ?_ ?_<;>intro h6 q6
 refine ac ?_
 refine FD 58 rfl ?_
 refine ac ?_
 refine ac ?_
 · refine int_eq (if_neg (fun hv=> ?_)).symm;have ok:=Bz.1 hv;(have o1:=ok.bA;have o2:=ok.ZQ;have o3:=ok.bB;have o4:=ok.it;have o5:=Eb ok;omega)
 refine ac ?_
 refine Ch.cs 50 rfl ?_ ?_<;>intro h7 q7
 refine ac ?_
 refine FD 58 rfl ?_
 refine ac ?_
 refine ac ?_
 · refine int_eq (if_neg (fun hv=> ?_)).symm;have ok:=Bz.1 hv;(have o1:=ok.bA;have o2:=ok.ZQ;have o3:=ok.bB;have o4:=ok.it;have o5:=Eb ok;omega)
 refine ac ?_
 refine cy h7 rfl (DK (WS (l:=e.Cz) (n:=e.Cu.length)) rfl rfl rfl) ?_
 refine ac ?_
 refine FD 58 rfl ?_
 refine Tr.cn rfl ?_ ?_<;>intro h8 q8
 refine ac ?_
 refine ac ?_
 · refine int_eq (if_neg (fun hv=> ?_)).symm;have ok:=Bz.1 hv;(have o1:=ok.bA;have o2:=ok.ZQ;have o3:=ok.bB;have o4:=ok.it;have o5:=Eb ok;simp_all)
 refine ac ?_
 refine ac ?_
 refine ac ?_
 · refine int_eq (if_pos ?_).symm;unfold J4;simp_all [Ba];omega
theorem Q_ {e:FC} (hf:e.fits):A9 prog 38 [agg (JQ e)] (int (if J4 e then 0 else 31)):=by
 refine fo func38 rfl ⟨rfl,rfl⟩ fun M0 w0=> ?_
 have hl1:=hf.le
 have gh:=hf.lg
 have hl3:=hf.li
 refine ac ?_
 refine ac ?_
 refine Ch.cs 11 rfl ?_ ?_<;>intro h1 q1
 refine ac ?_
 refine CY 1 22 rfl ?_
 refine ac ?_
 refine ac ?_
 · refine int_eq (if_neg (fun hv=> ?_)).symm;have ok:=Bz.1 hv;(have o1:=ok.bA;have o2:=ok.ZQ;have o3:=ok.bB;have o4:=ok.it;have o5:=Eb ok;omega)
 refine ac ?_
 refine Ch.cs 17 rfl ?_ ?_<;>intro h2 q2
 refine ac ?_
 refine CY 1 22 rfl ?_
 refine ac ?_
 refine ac ?_
 · refine int_eq (if_neg (fun hv=> ?_)).symm;have ok:=Bz.1 hv;(have o1:=ok.bA;have o2:=ok.ZQ;have o3:=ok.bB;have o4:=ok.it;have o5:=Eb ok;omega)
 refine ac ?_
 refine CY 1 22 rfl ?_
 refine Tr.cn rfl ?_ ?_<;>intro h3 q3
 refine ac ?_
 refine ac ?_
 · refine int_eq (if_neg (fun hv=> ?_)).symm;have ok:=Bz.1 hv;(have o1:=ok.bA;have o2:=ok.ZQ;have o3:=ok.bB;have o4:=ok.it;have o5:=Eb ok;omega)
 refine ac ?_
 refine ac ?_
 refine Tr.block (Tr.BH [(1,_)] ⟨ke rfl,trivial⟩ (fun k:Nat=>[(3,int ((k:Nat):Int))]) (fun k:Nat=>k≤(e.Cu).length∧(∀j,j<k→J3 e.Cu j=true)) (fun k:Nat=>(e.Cu).length-k) 0 (⟨Nat.zero_le _,fun j hj=>absurd hj (by omega)⟩) ⟨ke rfl,trivial⟩ ?_)
 rintro k ⟨BR,AG⟩
 refine ac ?_
 refine Tr.cn rfl ?_ ?_<;>intro h4 q4
 have Aa:k<(e.Cu).length:=AL h4
 obtain ⟨x,AY⟩:=at_ Aa
 have hg:=getD_at (d:=G9) AY
 have k8:=hf.Cu x (List.mem_of_getElem? AY)
 refine ac ?_
 refine ac ?_
 refine co rfl (AA rfl underlying27 F6 (vl rfl) (vl rfl) (by omega) (AU AY)) (co rfl (AF rfl Mt F6 (vl rfl) rfl rfl) (co rfl (CN (T9 k8.2) rfl rfl) ?_))
 refine ac ?_
 refine Ch.cs 37 rfl ?_ ?_<;>intro h5 q5
 refine ac ?_
 refine FX 1 3 56 rfl ?_
 refine ac ?_
 refine ac ?_
 · refine int_eq (if_neg (fun hv=> ?_)).symm;have ok:=Bz.1 hv;(have h_:=ok.ep k (by omega);unfold J3 at h_;rw [hg] at h_;simp_all)
 refine ac ?_
 refine Ch.cs 40 rfl ?_ ?_<;>intro h6 q6
 have hk0:0<k:=by simpa using h6
 obtain ⟨y,hy⟩:=at_ (l:=e.Cu) (k:=k-1) (by omega)
 have Ho:=getD_at (d:=G9) hy
 refine ac ?_
 refine cy h6 rfl (AA rfl underlying27 F6 (vl rfl) (vl rfl) (by omega) (by rw [show ((k:Nat):Int)-1=((k-1:Nat):Int) by omega];exact AU hy)) ?_
 refine ac ?_
 refine cy h6 rfl (AA rfl underlying27 F6 (vl rfl) (vl rfl) (by omega) (AU AY)) ?_
 refine ac ?_
 refine cy h6 rfl (IW rfl (vl rfl) (vl rfl)) ?_
 refine ac ?_
 refine FX 1 3 56 rfl ?_
 refine Tr.cn rfl ?_ ?_<;>intro h7 q7
 refine ac ?_
 refine ac ?_
 · refine int_eq (if_neg (fun hv=> ?_)).symm;have ok:=Bz.1 hv;(have h_:=ok.ep k (by omega);unfold J3 at h_;rw [hg,Ho] at h_;simp_all)
 refine ac ?_
 refine ac ?_
 exact Fin.AK (k+1) ⟨⟨Aa,BT AG (by unfold J3;rw [hg,Ho];simp_all)⟩,by omega⟩ ⟨⟨_,rfl,AE k⟩,ke rfl,trivial⟩
 have HB:¬0<k:=by simpa using h6
 refine ac ?_
 refine FX 1 3 56 rfl ?_
 refine ac ?_
 refine ac ?_
 exact Fin.AK (k+1) ⟨⟨Aa,BT AG (by unfold J3;rw [hg];simp_all)⟩,by omega⟩ ⟨⟨_,rfl,AE k⟩,ke rfl,trivial⟩
 have A_:k=(e.Cu).length:=by have:=AM h4;omega
 subst A_
 have WU:=AG
 refine ac ?_
 refine ac ?_
 refine Tr.block (Tr.BH [(1,_)] ⟨ke rfl,trivial⟩ (fun m:Nat=>[(4,int ((m:Nat):Int))]) (fun m:Nat=>m≤(e.Cz).length∧(∀j,j<m→BO e.Cu.length e.Cz j=true)) (fun m:Nat=>(e.Cz).length-m) 0 (⟨Nat.zero_le _,fun j hj=>absurd hj (by omega)⟩) ⟨ke rfl,trivial⟩ ?_)
 rintro m ⟨Sf,Fq⟩
 refine ac ?_
 refine Tr.cn rfl ?_ ?_<;>intro h8 q8
 have HE:m<(e.Cz).length:=AL h8
 obtain ⟨c,Ft⟩:=at_ HE
 have hg:=getD_at (d:=Em) Ft
 refine ac ?_
 refine ao ?_
 refine tp rfl (AA rfl underlying28 Hl (vl rfl) (vl rfl) (by omega) (AU Ft)) (tp rfl (AF rfl VE Hl (vl rfl) rfl rfl) ?_)
 refine Tl rfl rfl rfl rfl ff VF (fun b1=> ?_)
 refine sf 0 5 ⟨rfl,rfl,rfl⟩ rfl rfl rfl rfl ?_
 refine ao ?_
 refine FX 1 4 5 rfl ?_
 refine ac ?_
 refine Ch.cs 72 rfl ?_ ?_<;>intro h9 q9
 refine ac ?_
 refine Fw 1 4 5 99 rfl ?_
 refine ac ?_
 refine ac ?_
 · refine int_eq (if_neg (fun hv=> ?_)).symm;have ok:=Bz.1 hv;(have h_:=ok.ed m (by omega);unfold BO at h_;rw [hg] at h_;simp_all;omega)
 refine ac ?_
 refine Ch.cs 80 rfl ?_ ?_<;>intro h10 O9
 refine ac ?_
 refine Fw 1 4 5 99 rfl ?_
 refine ac ?_
 refine ac ?_
 · refine int_eq (if_neg (fun hv=> ?_)).symm;have ok:=Bz.1 hv;(have h_:=ok.ed m (by omega);unfold BO at h_;rw [hg] at h_;simp_all;omega)
 refine ac ?_
 refine Ch.cs 85 rfl ?_ ?_<;>intro h11 SS
 refine ac ?_
 refine Fw 1 4 5 99 rfl ?_
 refine ac ?_
 refine ac ?_
 · refine int_eq (if_neg (fun hv=> ?_)).symm;have ok:=Bz.1 hv;(have h_:=ok.ed m (by omega);unfold BO at h_;rw [hg] at h_;simp_all;omega)
 refine ac ?_
 refine Ch.cs 93 rfl ?_ ?_<;>intro h12 Tw
 refine ac ?_
 refine Fw 1 4 5 99 rfl ?_
 refine ac ?_
 refine ac ?_
 · refine int_eq (if_neg (fun hv=> ?_)).symm;have ok:=Bz.1 hv;(have h_:=ok.ed m (by omega);unfold BO at h_;rw [hg] at h_;simp_all;omega)
 refine ac ?_
 refine Fw 1 4 5 99 rfl ?_
 refine Tr.cn rfl ?_ ?_<;>intro MU Uj
 refine ac ?_
 refine ac ?_
 · refine int_eq (if_neg (fun hv=> ?_)).symm;have ok:=Bz.1 hv;(have h_:=ok.ed m (by omega);unfold BO at h_;rw [hg] at h_;simp_all)
 refine ac ?_
 refine ac ?_
 refine Ch.cs 102 rfl ?_ ?_<;>intro Jz Xv
 have hk0:0<m:=by simpa using Jz
 obtain ⟨y,hy⟩:=at_ (l:=e.Cz) (k:=m-1) (by omega)
 have Ho:=getD_at (d:=Em) hy
 refine ac ?_
 refine cy Jz rfl (AA rfl underlying28 Hl (vl rfl) (vl rfl) (by omega) (by rw [show ((m:Nat):Int)-1=((m-1:Nat):Int) by omega];exact AU hy)) ?_
 refine ac ?_
 refine Ch.cs 113 rfl ?_ ?_<;>intro MV ZC
 refine ac ?_
 refine FX 1 4 137 rfl ?_
 refine ac ?_
 refine ac ?_
 · refine int_eq (if_neg (fun hv=> ?_)).symm;have ok:=Bz.1 hv;(have h_:=ok.ed m (by omega);unfold BO at h_;rw [hg,Ho] at h_;simp_all;omega)
 refine ac ?_
 refine cy MV rfl (AA rfl underlying28 Hl (vl rfl) (vl rfl) (by omega) (by rw [show ((m:Nat):Int)-1=((m-1:Nat):Int) by omega];exact AU hy)) ?_
 refine ac ?_
 refine Ch.cs 124 rfl ?_ ?_<;>intro h16 au
 refine ac ?_
 refine cy h16 rfl (AA rfl underlying28 Hl (vl rfl) (vl rfl) (by omega) (by rw [show ((m:Nat):Int)-1=((m-1:Nat):Int) by omega];exact AU hy)) ?_
 refine ac ?_
 refine FX 1 4 137 rfl ?_
 refine Tr.cn rfl ?_ ?_<;>intro NA Xr
 refine ac ?_
 refine ac ?_
 · refine int_eq (if_neg (fun hv=> ?_)).symm;have ok:=Bz.1 hv;(have h_:=ok.ed m (by omega);unfold BO at h_;rw [hg,Ho] at h_;simp_all;omega)
 refine ac ?_
 refine ac ?_
 exact Fin.AK (m+1) ⟨⟨HE,BT Fq (by unfold BO;rw [hg,Ho];simp_all)⟩,by omega⟩ ⟨⟨_,rfl,AE m⟩,ke rfl,trivial⟩
 refine ac ?_
 refine FX 1 4 137 rfl ?_
 refine ac ?_
 refine ac ?_
 exact Fin.AK (m+1) ⟨⟨HE,BT Fq (by unfold BO;rw [hg,Ho];simp_all;omega)⟩,by omega⟩ ⟨⟨_,rfl,AE m⟩,ke rfl,trivial⟩
 have HB:¬0<m:=by simpa using Jz
 refine ac ?_
 refine FX 1 4 137 rfl ?_
 refine ac ?_
 refine ac ?_
 exact Fin.AK (m+1) ⟨⟨HE,BT Fq (by unfold BO;rw [hg];simp_all)⟩,by omega⟩ ⟨⟨_,rfl,AE m⟩,ke rfl,trivial⟩
 have PK:m=(e.Cz).length:=by have:=AM h8;omega
 subst PK
 refine ac ?_
 refine ac ?_
 refine Tr.block (Tr.BH [(1,_)] ⟨ke rfl,trivial⟩ (fun o:Nat=>[(6,int ((o:Nat):Int))]) (fun o:Nat=>o≤(e.items).length∧(∀j y,j<o→e.items[j]? =some y→(!En y)=false)) (fun o:Nat=>(e.items).length-o) 0 (⟨Nat.zero_le _,fun j y hj=>absurd hj (by omega)⟩) ⟨ke rfl,trivial⟩ ?_)
 rintro o ⟨lM,Ij⟩
 refine ac ?_
 refine Tr.cn rfl ?_ ?_<;>intro Kc aj
 have T8:o<(e.items).length:=AL Kc
 obtain ⟨x,Mc⟩:=at_ T8
 refine ac ?_
 refine ac ?_
 refine co rfl (AA rfl underlying29 Kw (vl rfl) (vl rfl) (by omega) (AU Mc)) (co rfl (AF rfl SI Kw (vl rfl) rfl rfl) (co rfl (CN (Q8) rfl rfl) ?_))
 refine ac ?_
 refine FX 1 6 151 rfl ?_
 refine Tr.cn rfl ?_ ?_<;>intro Xs lA
 refine ac ?_
 refine ac ?_
 · refine int_eq (if_neg (fun hv=> ?_)).symm;have ok:=Bz.1 hv;(have h_:=List.all_eq_true.1 ok.it x (List.mem_of_getElem? Mc);simp_all)
 refine ac ?_
 refine ac ?_
 exact Fin.AK (o+1) ⟨⟨T8,CB (p:=fun c=> !En c) Mc (by simp_all) Ij⟩,by omega⟩ ⟨⟨_,rfl,AE o⟩,ke rfl,trivial⟩
 have eG:o=(e.items).length:=by have:=AM Kc;omega
 subst eG
 have hall:=EH Ij
 refine ac ?_
 refine ac ?_
 refine ac ?_
 · refine int_eq (if_pos (Bz.2 ⟨WU,by omega,Fq,by omega,hall,by omega⟩)).symm
def gj:List (Int×Int):=[(2,0),(1,0),(5,2048),(16,128),(3,0),(15,168)]
def Sg (v:Int):Int×Int:=gj[v.toNat]?.getD (2,0)
theorem lO {v:Int} (h:0≤v∧v<6):(gj.map fun u=>[int u.1,int u.2])[v.toNat]? =some [int (Sg v).1,int (Sg v).2]:=by
 have hl:v.toNat<gj.length:=by show v.toNat<6;omega
 unfold Sg;rw [List.getElem?_map,List.getElem?_eq_getElem hl];rfl
theorem eK:∀u∈gj,BS u.1 u.2>0:=by decide+kernel
theorem bC (v:Int):BS (Sg v).1 (Sg v).2>0:=by
 unfold Sg
 cases h:gj[v.toNat]? with
 |none=>decide+kernel
 |some u=>exact eK u (List.mem_of_getElem? h)
def Il:Nat→DS→Int→List PL→List PL×Int×DS
 |0,s,day,l=>(l,day,s)
 |k+1,s,day,l=>Il k s.Bo.Bo (day+1+s.Bo.of [5,30,0,100]) (l++[⟨(Sg (s.val 6)).1,(Sg (s.val 6)).2,day⟩])
abbrev DE (s:DS):List PL×Int×DS:=Il (1+s.Bo.Bo.Bo.val 3).toNat s.Bo.Bo.Bo.Bo (s.Bo.Bo.val 20) []
def NI (s:DS) (name:List UInt8):J2:=⟨name,1+s.val 2,1+s.Bo.val 4,(DE s).1,((DE s).1[0]?.getD DO).day+(DE s).2.2.of [50,300,0,3000]⟩
def lP (s:DS):DS:=(DE s).2.2.Bo
structure UA (l:List PL) (day:Int):Prop where
 lo:0≤day
 hi:day≤20+101*(l.length:Nat)
 at_:∀j,j<l.length→Cq l j=true
 lt:∀x∈l,x.day<day
theorem PM {l:List PL} {day d:Int} {u:Int×Int} (h:UA l day) (h3:l.length≤3) (hu:BS u.1 u.2>0) (hd:0≤d∧d≤100):UA (l++[⟨u.1,u.2,day⟩]) (day+1+d):=by
 have h0:=h.lo;have h1:=h.hi
 refine ⟨by omega,by rw [List.length_append];simp;omega,fun j hj=> ?_,fun x hx=> ?_⟩
 ·
  rw [List.length_append] at hj;simp at hj
  rcases Nat.lt_or_ge j l.length with hl|hl
  ·
   have:=h.at_ j hl
   unfold Cq at this ⊢
   rw [List.getElem?_append_left hl,List.getElem?_append_left (show j-1<l.length by omega)];exact this
  ·
   have:j=l.length:=by omega
   subst this
   unfold Cq
   rw [List.getElem?_append_right (Nat.le_refl _),Nat.sub_self]
   rcases Nat.eq_zero_or_pos l.length with hz|hz
   ·
    obtain rfl:=List.eq_nil_of_length_eq_zero hz
    simp [hu];simp at h1;omega
   ·
    obtain ⟨y,hy⟩:=at_ (l:=l) (k:=l.length-1) (by omega)
    rw [List.getElem?_append_left (show l.length-1<l.length by omega),hy]
    have:=h.lt y (List.mem_of_getElem? hy)
    simp [hu];omega
 ·
  rcases List.mem_append.1 hx with hx|hx
  · have:=h.lt x hx;omega
  · simp at hx;subst hx;show day<_;omega
theorem RA (s:DS):0≤s.of [5,30,0,100]∧s.of [5,30,0,100]≤100:=by have:=s.Nt (l:=[5,30,0,100]) (by simp);simp at this;omega
theorem WV (s:DS):0≤s.of [50,300,0,3000]∧s.of [50,300,0,3000]≤3000:=by have:=s.Nt (l:=[50,300,0,3000]) (by simp);simp at this;omega
theorem NJ:∀(k:Nat) (s:DS) (day:Int) (l:List PL),UA l day→l.length+k≤3→UA (Il k s day l).1 (Il k s day l).2.1∧(Il k s day l).1.length=l.length+k
 |0,s,day,l,h,_=>⟨h,rfl⟩
 |k+1,s,day,l,h,hk=>by
  have:=NJ k s.Bo.Bo (day+1+s.Bo.of [5,30,0,100]) (l++[⟨(Sg (s.val 6)).1,(Sg (s.val 6)).2,day⟩]) (PM h (by omega) (bC _) (RA _)) (by simp;omega)
  refine ⟨this.1,?_⟩
  show (Il k _ _ _).1.length=_
  rw [this.2];simp;omega
structure RB (x:J2):Prop where
 ok:En x=true
 name:x.name.length≤32
 links:x.links.length≤3
theorem Sh {s:DS} {name:List UInt8} (hn:named name=true):RB (NI s name):=by
 have h2:=s.Ca (n:=2) (by omega)
 have h4:=s.Bo.Ca (n:=4) (by omega)
 have NB:=s.Bo.Bo.Ca (n:=20) (by omega)
 have h3:=s.Bo.Bo.Bo.Ca (n:=3) (by omega)
 have hI:UA [] (s.Bo.Bo.val 20):=⟨by omega,by simp;omega,fun j hj=>by simp at hj,fun x hx=>by simp at hx⟩
 obtain ⟨hL,hl⟩:=NJ (1+s.Bo.Bo.Bo.val 3).toNat s.Bo.Bo.Bo.Bo (s.Bo.Bo.val 20) [] hI (by simp;omega)
 simp only [List.length_nil,Nat.zero_add] at hl
 have hlen:(DE s).1.length=(1+s.Bo.Bo.Bo.val 3).toNat:=hl
 have hu:=WV (DE s).2.2
 obtain ⟨c,hc⟩:=at_ (l:=(DE s).1) (k:=0) (by omega)
 have hg:=getD_at (d:=DO) hc
 have hc1:=hL.lt c (List.mem_of_getElem? hc)
 have hc2:=hL.hi
 refine ⟨Ay.2 ⟨hn,?_,?_,?_,?_,?_,hL.at_,?_,?_⟩,HU hn,?_⟩
 · show 1+s.val 2=1∨1+s.val 2=2;omega
 · show 1≤1+s.Bo.val 4;omega
 · show 1+s.Bo.val 4≤4;omega
 · show 1≤(DE s).1.length;omega
 · show (DE s).1.length≤8;omega
 · show ((DE s).1[0]?.getD DO).day≤((DE s).1[0]?.getD DO).day+_;omega
 · show ((DE s).1[0]?.getD DO).day+_≤40000;rw [hg];omega
 · show (DE s).1.length≤3;omega
theorem Si {b:Nat} {s:DS} {name:List UInt8}  :BJ prog 25 [ptr b 0,str name] (agg (F8 (NI s name))) (Cw b s) (fun _=>Cw b (lP s)):=by
 refine BJ.of func25 rfl rfl (by exact Nb rfl) fun M0 w0 S rs M1 w1=> ?_
 have Ue:=s.Ca (n:=2) (by omega)
 have hv4:=s.Bo.Ca (n:=4) (by omega)
 have sn:=s.Bo.Bo.Ca (n:=20) (by omega)
 have hv3:=s.Bo.Bo.Bo.Ca (n:=3) (by omega)
 refine Tr.seq (Tr.As ?_)
 refine Tl rfl rfl rfl rfl fk cU (fun b1=> ?_)
 refine ao ?_
 refine ao ?_
 refine TO.Hu 1 rfl rfl (by decide) (Ag rfl rfl (by decide) rfl (Bx (by omega) (by omega)) ⟨ke rfl,ke rfl,trivial⟩) ?_
 refine ao ?_
 refine TO.Hu 1 rfl rfl (by decide) (Ag rfl rfl (by decide) rfl (Bx (by omega) (by omega)) ⟨ke rfl,ke rfl,trivial⟩) ?_
 refine ao ?_
 refine Tl rfl rfl rfl rfl fk cU (fun b2=> ?_)
 refine TO.Ap 0 rfl rfl rfl (vl rfl) (Va rfl) rfl Kw rfl rfl ?_
 refine ao ?_
 refine ao ?_
 refine TO.Hu 2 rfl rfl (by decide) (Ag rfl rfl (by decide) rfl (Bx (by omega) (by omega)) ⟨ke rfl,ke rfl,trivial⟩) ?_
 refine ao ?_
 refine Fw 0 4 5 6 rfl ?_
 refine ao ?_
 refine TO.Hu 2 rfl rfl (by decide) (Ag rfl rfl (by decide) rfl (Bx (by omega) (by omega)) ⟨ke rfl,ke rfl,trivial⟩) ?_
 refine ao ?_
 refine Tr.block (Tr.Iw 0 [str name,int (1+s.val 2),int (1+s.Bo.val 4),Ab (.slice none 0 0) (WQ []),is (.int .i64 0)] rfl ⟨Lr,Lr,Lr,Cg rfl,Lr,trivial⟩ (Tr.DB 112 3 ?_))
 refine Tr.U5 [(0,_),(4,_),(5,_)] ⟨ke rfl,ke rfl,ke rfl,trivial⟩ (fun (k:Int) (day:Int) (l:List PL) (s2:DS) v=>[(7,int k),(6,int day)]) (fun (k:Int) (day:Int) (l:List PL) (s2:DS) v=>Hp M0 w0 S (Ax 112 3 v::AB true b2 81 [str name,int (1+s.val 2),int (1+s.Bo.val 4),Ab v (WQ l),is (.int .i64 0)]::AB true b1 81 (([.string (ByteArray.mk #[]),.int .i64 0,.int .i64 0,.slice none 0 0,.int .i64 0]:List Value).map is)::Cw b s2::AZ M1 w1::rs)) (fun (k:Int) (day:Int) (l:List PL) (s2:DS)=>(0≤k∧k+l.length≤3∧1≤k+l.length∧UA l day)∧Il k.toNat s2 day l=DE s) (fun (k:Int) (day:Int) (l:List PL) (s2:DS)=>k.toNat) (_) (_) ([]) (_) (.slice none 0 0) (⟨⟨by omega,by simp;omega,by simp;omega,⟨by omega,by simp;omega,fun j hj=>by simp at hj,fun x hx=>by simp at hx⟩⟩,rfl⟩) ⟨ke rfl,ke rfl,trivial⟩ (fun _ _ h=>h) ?_
 rintro k day l s2 v ⟨⟨hk0,hk1,hk2,hL⟩,hR⟩
 have hL0:=hL.lo
 have hL1:=hL.hi
 have hof:=RA s2.Bo
 refine an ?_ ?_<;>intro h1 q1
 have gl:0<k:=of_decide_eq_true h1
 have hv6:=s2.Ca (n:=6) (by omega)
 refine ac ?_
 refine ao ?_
 refine TO.Hu 3 rfl rfl (by decide) (Ag rfl rfl (by decide) rfl (Bx (by omega) (by omega)) ⟨ke rfl,ke rfl,trivial⟩) ?_
 refine tp rfl (AA rfl underlying110 Cn (Kf rfl) (vl rfl) (by omega) (show (gj.map fun u=>[int u.1,int u.2])[_]? =_ from lO hv6)) ?_
 refine tp rfl (AF rfl Bj Cn (vl rfl) rfl rfl) ?_
 refine Tl rfl rfl rfl rfl HQ DD (fun b3=> ?_)
 refine sf 0 8 ⟨rfl,rfl,rfl⟩ rfl rfl rfl rfl ?_
 refine ao ?_
 refine Og 0 4 5 6 7 8 rfl ?_
 refine ao ?_
 refine TO.GJ 0 rfl rfl (by decide) (DY rfl rfl rfl rfl underlying79 FZ iz cv (Kb rfl) (Kf rfl) (CO (by exact List.Mem.head _) (Ka rfl))) (fun v1=> ?_)
 refine tp rfl (AO rfl VG (vl rfl)) (TO.Ew 1 rfl rfl (BP rfl rfl (vl rfl) (Vo rfl) pJ rfl (by exact Nb rfl) rfl) ?_)
 refine ao ?_
 refine K5 0 4 5 6 7 rfl ?_
 refine ao ?_
 refine TO.Hu 3 rfl rfl (by decide) (Ag rfl rfl (by decide) rfl (SV (l:=[5,30,0,100]) (by simp) (by simp)) ⟨ke rfl,(Kf rfl),trivial⟩) ?_
 refine ao ?_
 refine ac ?_
 refine Fin.Iw 1 [str name,int (1+s.val 2),int (1+s.Bo.val 4),Ab v1 (WQ (l++[(⟨(Sg (s2.val 6)).1,(Sg (s2.val 6)).2,day⟩:PL)])),is (.int .i64 0)] rfl ⟨Lr,Lr,Lr,CK (by rw [List.map_append];rfl),Lr,trivial⟩ ?_
 exact Fin.YI (k-1) (_) (l++[(⟨(Sg (s2.val 6)).1,(Sg (s2.val 6)).2,day⟩:PL)]) (_) v1 (⟨⟨⟨by omega,by simp;omega,by simp;omega,PM hL (by omega) (bC _) (RA _)⟩,by rw [←hR,show k.toNat=(k-1).toNat+1 by omega];rfl⟩,by omega⟩) ⟨⟨_,rfl,int_eq (by omega)⟩,⟨_,rfl,int_eq (by omega)⟩,ke rfl,ke rfl,ke rfl,trivial⟩ (fun _ _ h=>h)
 have gl:¬0<k:=of_decide_eq_false h1
 obtain rfl:k=0:=by omega
 obtain ⟨c0,hc0⟩:=at_ (l:=l) (k:=0) (by omega)
 have WR:=getD_at (d:=DO) hc0
 have sq:=hL.lt c0 (List.mem_of_getElem? hc0)
 have sr:0≤c0.day:=by have h_:=hL.at_ 0 (BM hc0);unfold Cq at h_;rw [WR] at h_;simp at h_;omega
 have su:=WV s2
 have hR1:(DE s).1=l:=by rw [←hR];rfl
 obtain rfl:s2=(DE s).2.2:=by rw [←hR];rfl
 refine ac ?_
 refine Tr.seq (Tr.rx ?_)
 refine ay ?_
 refine xo rfl (fun _=>AA rfl underlying79 FZ (Kb rfl) (vl rfl) (by omega) (AU (k:=0) hc0)) ?_
 refine ay ?_
 refine xo rfl (fun _=>oI) ?_
 refine Cx.ef 3 rfl rfl (by decide) (Ag rfl rfl (by decide) rfl (SV (l:=[50,300,0,3000]) (by simp) (by simp)) ⟨ke rfl,(Kf rfl),trivial⟩) ?_
 refine ay ?_
 refine Cx.nil ⟨by kernel_rfl,?_⟩
 refine BE.done al5 (Fin.go (CY 4 5 rfl ?_))
 refine ao ?_
 refine TO.Ap 2 rfl rfl rfl (vl rfl) (Va rfl) rfl Kw rfl rfl ?_
 refine ao ?_
 refine Tr.ret (Fin.F5 [_,_,_] rfl (BK.cell 2 rfl rfl SI Kw rfl (Lr)) ?_ (fun _ _ _ _=>rfl))
 · exact BB ⟨Lr,Lr,Lr,Pr.le_trans (Ai _ _) (Pr.le_of_eq (by show _=WQ (DE s).1;rw [hR1])),int_eq (by show _=((DE s).1[0]?.getD DO).day+_;rw [hR1,WR]),trivial⟩
structure RC (n:Nat) (i j:Int) (l:List Ji):Prop where
 at_:∀k,k<l.length→BO n l k=true
 lt:∀g∈l,g.client<i∨(g.client=i∧g.server<j)
theorem RC.nil (n:Nat) (i j:Int):RC n i j []:=⟨fun k hk=>by simp at hk,fun g hg=>by simp at hg⟩
theorem RC.step {n:Nat} {i j:Int} {l:List Ji} (h:RC n i j l):RC n i (j+1) l:=⟨h.at_,fun g hg=>by have:=h.lt g hg;omega⟩
theorem RC.row {n:Nat} {i j:Int} {l:List Ji} (h:RC n i j l):RC n (i+1) 0 l:=⟨h.at_,fun g hg=>by have:=h.lt g hg;omega⟩
theorem RC.snoc {n:Nat} {i j:Int} {l:List Ji} (h:RC n i j l) (hi:0≤i∧i<n) (hj:0≤j∧j<n) (hn:i≠j):RC n i (j+1) (l++[⟨i,j⟩]):=by
 refine ⟨fun k hk=> ?_,fun g hg=> ?_⟩
 ·
  rw [List.length_append] at hk;simp at hk
  rcases Nat.lt_or_ge k l.length with hl|hl
  ·
   have:=h.at_ k hl
   unfold BO at this ⊢
   rw [List.getElem?_append_left hl,List.getElem?_append_left (show k-1<l.length by omega)];exact this
  ·
   have:k=l.length:=by omega
   subst this
   unfold BO
   rw [List.getElem?_append_right (Nat.le_refl _),Nat.sub_self]
   rcases Nat.eq_zero_or_pos l.length with hz|hz
   ·
    obtain rfl:=List.eq_nil_of_length_eq_zero hz
    simp;omega
   ·
    obtain ⟨y,hy⟩:=Cp.at_ (l:=l) (k:=l.length-1) (by omega)
    rw [List.getElem?_append_left (show l.length-1<l.length by omega),hy]
    have:=h.lt y (List.mem_of_getElem? hy)
    simp;omega
 ·
  rcases List.mem_append.1 hg with hg|hg
  · have:=h.lt g hg;omega
  · simp at hg;subst hg;right;exact ⟨rfl,by show j<j+1;omega⟩
theorem WW:∀i,i<2→Lib.compareBytes (EK[i]?.getD []) (EK[i+1]?.getD [])= -1:=by decide+kernel
structure NK (e:FC):Prop where
 n2:2≤e.Cu.length
 n3:e.Cu.length≤3
 snd:WH e.Cu
 ed:∀k,k<e.Cz.length→BO e.Cu.length e.Cz k=true
 g1:1≤e.Cz.length
 g3:e.Cz.length≤3
 it:∀x∈e.items,RB x
 i2:e.items.length≤2
theorem NK.ok {e:FC} (h:NK e):J4 e=true:=by
 have h3:=h.n3;have g3:=h.g3;have i2:=h.i2
 refine Bz.2 ⟨fun j hj=> ?_,by omega,h.ed,by omega,List.all_eq_true.2 fun x hx=>(h.it x hx).ok,by omega⟩
 obtain ⟨x,hx⟩:=at_ hj
 have hs:=h.snd j x hx
 unfold J3
 rw [hx,Option.getD_some,B5.2 (ZM hs),Bool.true_and,Bool.or_eq_true,decide_eq_true_eq,decide_eq_true_eq]
 rcases Nat.eq_zero_or_pos j with hz|hz
 · exact .inl hz
 ·
  right
  obtain ⟨y,hy⟩:=at_ (l:=e.Cu) (k:=j-1) (by omega)
  have Uk:=h.snd _ y hy
  rw [hy,Option.getD_some]
  have:=WW (j-1) (by omega)
  rw [Uk.name,show j-1+1=j by omega,hs.name] at this
  exact this
theorem NK.fits {e:FC} (h:NK e):e.fits:=by
 have h3:=h.n3;have g3:=h.g3;have i2:=h.i2
 refine ⟨fun x hx=> ?_,fun x hx=>by have:=(h.it x hx).name;unfold maxLen;omega,by omega,by omega,by omega⟩
 obtain ⟨i,hi⟩:=List.getElem?_of_mem hx
 exact ⟨T5 (h.snd i x hi),Qy (h.snd i x hi)⟩
abbrev Im:List UInt8:=[98,97,99,107,117,112]
abbrev RD:List UInt8:=[100,101,101,100]
theorem Sj (s:DS):named (HC s [Im,RD])=true:=by
 have h:=s.Ca (n:=2) (by omega)
 unfold HC
 have:s.val (([Im,RD]:List (List UInt8)).length:Nat)=0∨s.val (([Im,RD]:List (List UInt8)).length:Nat)=1:=by show s.val 2=0∨s.val 2=1;omega
 rcases this with h|h<;>rw [h]<;>decide
theorem PN {l:List J2} {y:J2} (h:∀x∈l,RB x) (hy:RB y):∀x∈l++[y],RB x:=by
 intro x hx
 rcases List.mem_append.1 hx with hx|hx
 · exact h x hx
 · simp at hx;subst hx;exact hy
theorem WX {b:Nat} {s:DS}  :BJ prog 8 [ptr b 0] (Cp.ex fun e:FC=>fact (NK e) (agg (JQ e))) (Cw b s) (fun _=>IK 66 b):=by
 refine BJ.of func8 rfl rfl (by exact Nb rfl) fun M0 w0 S rs M1 w1=> ?_
 have Ue:=s.Ca (n:=2) (by omega)
 have VR:(EK.take (2+s.val 2).toNat).length=(2+s.val 2).toNat:=by rw [List.length_take];show min _ 3=_;omega
 refine Tr.seq (Tr.As ?_)
 refine Tl rfl rfl rfl rfl z31 bp (fun b1=> ?_)
 refine TO.nil (Fin.go (Tr.seq (Tr.As ?_)))
 refine Tl rfl rfl rfl rfl z31 bp (fun b2=> ?_)
 refine TO.nil (Fin.go (Tr.seq (Tr.As (tp rfl (AQ (xs:=[.const (.string ⟨[97,112,112].toArray⟩),.const (.string ⟨[100,98].toArray⟩),.const (.string ⟨[119,101,98].toArray⟩)]) (rows:=[[_],[_],[_]]) rfl rfl underlying67 KV z9 rfl (by decide) ⟨⟨(by exact rfl),(Vo rfl)⟩,⟨⟨(by exact rfl),(Vo rfl)⟩,⟨⟨(by exact rfl),(Vo rfl)⟩,trivial⟩⟩⟩ (by decide)) ?_))))
 refine tm rfl (TO.Hu 2 rfl rfl (by decide) (Ag rfl rfl (by decide) rfl (Bx (by omega) (by omega)) ⟨ke rfl,ke rfl,trivial⟩) ?_)
 refine tp rfl (Dz rfl (vl rfl) (vl rfl) ?hin) ?_;case hin=>unfold Jo;omega
 refine tp rfl (IX rfl underlying67 KV (Kf rfl) (vl rfl) (by omega) (by simp;omega)) ?_
 refine tm rfl (TO.nil (Fin.go (Tr.seq (Tr.seq (Tr.Ao (cm rfl (co rfl (CA rfl underlying67 (vl rfl)) (cm rfl (Ch.nil (Fin.go (Tr.block ?_)))))))))))
 refine Tr.re 16 rfl (Pr.le_of_eq (by show slice 1 (List.take _ (EK.map fun t=>[str t]))=_;rw [←List.map_take]):Pr.le _ (Y2 (EK.take (2+s.val 2).toNat))) ?_
 refine Tr.re 17 rfl (int_eq (by simp;rfl):Pr.le _ (int (((EK.take (2+s.val 2).toNat).length:Nat):Int))) ?_
 refine Tr.Iw 0 [Ab (.slice none 0 0) (slice 9 (([]:List Ez).map Cv)),is (.slice none 0 0),is (.slice none 0 0)] rfl ⟨Cg rfl,Lr,Lr,trivial⟩ (Tr.DB 74 9 (Tr.F4 [(0,_),(2,_),(3,_),(4,_),(16,_),(17,_)] ⟨ke rfl,ke rfl,ke rfl,ke rfl,ke rfl,ke rfl,trivial⟩ (fun (k:Nat) (es:List Ez) (s2:DS) v=>[(18,int ((k:Nat):Int))]) (fun (k:Nat) (es:List Ez) (s2:DS) v=>Hp M0 w0 S (Ax 74 9 v::AB true b2 31 [Ab v (slice 9 (es.map Cv)),is (.slice none 0 0),is (.slice none 0 0)]::AB true b1 31 (([.slice none 0 0,.slice none 0 0,.slice none 0 0]:List Value).map is)::Cw b s2::AZ M1 w1::rs)) (fun (k:Nat) (es:List Ez) (s2:DS)=>k≤(2+s.val 2).toNat∧es.length=k∧WH es) (fun (k:Nat) (es:List Ez) (s2:DS)=>(2+s.val 2).toNat-k) (0) ([]) (_) (.slice none 0 0) (⟨by omega,rfl,fun i e h=>by simp at h⟩) ⟨ke rfl,trivial⟩ (fun _ _ h=>h) ?_))
 rintro k es s2 v ⟨hk1,hk2,gl⟩
 refine Tr.seq (Tr.Ao (co rfl (ki rfl rfl rfl rfl) (Ch.nil (Fin.go (Tr.seq ?_)))))
 refine Tr.cn rfl ?_ ?_<;>intro h1 q1
 have hkn:k<(2+s.val 2).toNat:=by have:=C6.Dj h1;rw [VR] at this;omega
 obtain ⟨nm,hnm⟩:=at_ (l:=EK.take (2+s.val 2).toNat) (k:=k) (by omega)
 have J1:EK[k]? =some nm:=WI hnm
 have me:=WJ (s2.Bo.val 3)
 have sv:k<3:=BM J1
 have hvs:=s2.Bo.Ca (n:=3) (by omega)
 have hof:=eC s2
 refine Tr.skip (Fin.go (Tr.seq (Tr.block (Tr.seq (Tr.Ao (cm rfl (co rfl (AA rfl underlying67 KV (vl rfl) (vl rfl) (by omega) (AU hnm)) (co rfl (Gd rfl Ku rfl) (cm rfl (cm rfl (Ch.nil (Fin.go (Tr.seq (Tr.pad ?_))))))))))))))
 refine Tr.Hh mixed [none,none,none,some (0,4,true,0),none,none,none,none,none,some (0,4,true,0),none,none,none,some (0,4,true,0),none,none,none,some (0,4,true,0),none,some (0,0,true,7),some (7,0,true,7)] (by kernel_rfl) (xm rfl (xm rfl (xo rfl (fun _=>AQ (xs:=[.const (.int .i64 (3)),.const (.int .i64 (3)),.const (.int .i64 (4))]) (rows:=[[_],[_],[_]]) rfl rfl underlying22 Ce z3 rfl (by decide) ⟨⟨(by exact rfl),(Vo rfl)⟩,⟨⟨(by exact rfl),(Vo rfl)⟩,⟨⟨(by exact rfl),(Vo rfl)⟩,trivial⟩⟩⟩ (by decide)) ?_)))
 refine Cx.ef 4 rfl rfl (by decide) (Ag rfl rfl (by decide) rfl (SV (l:=[3,3,4]) (by simp) (by simp)) ⟨ke rfl,(Kf rfl),trivial⟩) ?_
 refine xo rfl (fun _=>AQ (xs:=[.const (.int .i64 (10)),.const (.int .i64 (8)),.const (.int .i64 (2))]) (rows:=[[_],[_],[_]]) rfl rfl underlying22 Ce z3 rfl (by decide) ⟨⟨(by exact rfl),(Vo rfl)⟩,⟨⟨(by exact rfl),(Vo rfl)⟩,⟨⟨(by exact rfl),(Vo rfl)⟩,trivial⟩⟩⟩ (by decide)) ?_
 refine xo rfl (fun _=>AQ (xs:=[.const (.int .i64 (8)),.const (.int .i64 (2))]) (rows:=[[_],[_]]) rfl rfl underlying22 Ce z3 rfl (by decide) ⟨⟨(by exact rfl),(Vo rfl)⟩,⟨⟨(by exact rfl),(Vo rfl)⟩,trivial⟩⟩ (by decide)) ?_
 refine xo rfl (fun _=>AQ (xs:=[.const (.int .i64 (2)),.const (.int .i64 (10)),.const (.int .i64 (8)),.const (.int .i64 (3))]) (rows:=[[_],[_],[_],[_]]) rfl rfl underlying22 Ce z3 rfl (by decide) ⟨⟨(by exact rfl),(Vo rfl)⟩,⟨⟨(by exact rfl),(Vo rfl)⟩,⟨⟨(by exact rfl),(Vo rfl)⟩,⟨⟨(by exact rfl),(Vo rfl)⟩,trivial⟩⟩⟩⟩ (by decide)) ?_
 refine xo rfl (fun _=>AQ (xs:=[.tmp 27,.tmp 28,.tmp 29]) (rows:=[[_],[_],[_]]) rfl rfl underlying70 YM z22 rfl (by decide) ⟨⟨(by exact rfl),⟨_,rfl,Pr.le_trans (Am _ _) (AD _)⟩⟩,⟨⟨(by exact rfl),⟨_,rfl,Pr.le_trans (Am _ _) (AD _)⟩⟩,⟨⟨(by exact rfl),⟨_,rfl,Pr.le_trans (Am _ _) (AD _)⟩⟩,trivial⟩⟩⟩ (by decide)) ?_
 refine xm rfl (Cx.ef 4 rfl rfl (by decide) (Ag rfl rfl (by decide) rfl (Bx (by omega) (by omega)) ⟨ke rfl,ke rfl,trivial⟩) ?_)
 refine xo rfl (fun _=>AA rfl underlying70 YM (Kf rfl) (vl rfl) (by omega) (show (Ky.map fun l=>[ints l])[_]? =_ from ZJ hvs)) ?_
 refine xo rfl (fun _=>Gd rfl ES rfl) (xm rfl (Cx.ef 4 rfl rfl (by decide) (Ag rfl rfl (by decide) rfl (V7 (by omega) (by omega)) ⟨ke rfl,ke rfl,trivial⟩) (xo rfl (fun _=>AQ (xs:=[.const (.int .i64 (1))]) (rows:=[[_]]) rfl rfl underlying22 Ce z3 rfl (by decide) ⟨⟨(by exact rfl),(Vo rfl)⟩,trivial⟩ (by decide)) ?_)))
 refine xo rfl (fun _=>AQ (xs:=[.const (.int .i64 (2)),.const (.int .i64 (3))]) (rows:=[[_],[_]]) rfl rfl underlying22 Ce z3 rfl (by decide) ⟨⟨(by exact rfl),(Vo rfl)⟩,⟨⟨(by exact rfl),(Vo rfl)⟩,trivial⟩⟩ (by decide)) ?_
 refine xm rfl (Cx.ef 4 rfl rfl (by decide) (Ag rfl rfl (by decide) rfl (V7 (by omega) (by omega)) ⟨ke rfl,ke rfl,trivial⟩) (xo rfl (fun _=>Ad (rows:=[(0,[_]),(1,[_]),(2,[_]),(3,[_]),(4,[_]),(6,[_]),(7,[_]),(8,[_])]) rfl pH YN ⟨⟨rfl,(Vo rfl)⟩,⟨⟨rfl,(Vo rfl)⟩,⟨⟨rfl,(Vo rfl)⟩,⟨⟨rfl,(Vo rfl)⟩,⟨⟨rfl,(Vo rfl)⟩,⟨⟨rfl,⟨_,rfl,Pr.le_trans (Am _ _) (AD _)⟩⟩,⟨⟨rfl,⟨_,rfl,Pr.le_trans (Am _ _) (AD _)⟩⟩,⟨⟨rfl,(Vo rfl)⟩,trivial⟩⟩⟩⟩⟩⟩⟩⟩ rfl) (Cx.ef 0 rfl rfl (by decide) (Ex rfl rfl (by decide) rfl cM YN) (Cx.Ew 0 rfl rfl (Jx rfl rfl rfl rfl (Va rfl) F6 rfl rfl) ?_))))
 refine Cx.nil ⟨rfl,?_⟩
 refine BE.open_ 0 7 rfl rfl (fun v1=> ?_)
 refine BE.done (An.cons (An.cons (An.cons (An.cons (An.cons (An.cons (An.map _))))))) (Fin.TW 7 0 _ rfl rfl (fun _=>rfl) (fun b3=> ?_))
 refine Fin.go (Nq 0 2 3 4 5 6 7 16 17 18 rfl (Tr.seq (Tr.seq (Tr.Iw 0 [str nm,int 1,int (s2.of [3,3,4]),ints (Ih (s2.Bo.val 3)),bool (s2.Bo.Bo.val 2==2-1),is (.slice none 0 0),ints [1],ints [2,3],bool (s2.Bo.Bo.Bo.val 3==3-1)] rfl ⟨Lr,Lr,Lr,Lr,Lr,Lr,Lr,Lr,Lr,trivial⟩ (Tr.Ao (co rfl (AO rfl Qf (vl rfl)) (co rfl (CT 0 rfl (Aj rfl DC (vl rfl) rfl)) (co rfl (ki rfl rfl rfl rfl) (Ch.nil (Fin.go ?_))))))))))
 refine Tr.cn rfl ?_ ?_<;>intro h2 q2
 refine Tr.As (tp rfl (AQ (xs:=[.const (.int .i64 (14))]) (rows:=[[_]]) rfl rfl underlying22 Ce z3 rfl (by decide) ⟨⟨(by exact rfl),(Vo rfl)⟩,trivial⟩ (by decide)) ?_)
 refine tp rfl (AO rfl Ll (vl rfl)) (TO.rd 0 rfl rfl rfl (by decide) (Aj rfl ES (vl rfl) rfl) (TO.pad ?_))
 refine TO.GJ 0 rfl rfl (by decide) (DY rfl rfl rfl rfl underlying22 Ce U8 z3 (Kf rfl) (vl rfl) (Bt (by exact List.Mem.head _) (vl rfl))) (fun v2=> ?_)
 refine tp rfl (AO rfl Ll (vl rfl)) (TO.Ew 1 rfl rfl (BP rfl rfl (vl rfl) (Vo rfl) YM rfl (by exact Nb rfl) rfl) (TO.nil (Fin.go (Nq 0 2 3 4 5 6 7 16 17 18 rfl (Tr.seq (Tr.As (tm rfl (tp rfl (AW rfl (az) trivial) (tm rfl ?_)))))))))
 refine tp rfl (Dz rfl (vl rfl) (vl rfl) ?hin) ?_;case hin=>unfold Jo;omega
 refine tp rfl (AW rfl (Qx (name:=nm) (a:=5) (b:=2048) (id:=100+(k:Nat)) (to:=901) (key:=1) (OB J1 (by omega) (by omega)) (NG (by omega)) (by omega)) ⟨ke rfl,ke rfl,ke rfl,ke rfl,ke rfl,trivial⟩) ?_
 refine TO.ex 54 rfl (fun WY=>TO.fact 54 rfl fun eL=> ?_)
 refine tp rfl (AQ (xs:=[.tmp 54]) (rows:=[_]) rfl rfl underlying72 Kv cB rfl (by decide) ⟨⟨(by exact rfl),(Va rfl)⟩,trivial⟩ (by decide)) ?_
 refine tp rfl (AO rfl Nw (vl rfl)) (TO.Ew 1 rfl rfl (BP rfl rfl (vl rfl) (Vo rfl) ig rfl (by exact Nb rfl) rfl) (TO.nil (Fin.go (Oh 0 2 3 4 7 16 17 18 rfl (Tr.As (tp rfl (AO rfl IP (vl rfl)) (TO.rd 3 rfl rfl rfl (by decide) (Aj rfl Oq (vl rfl) rfl) (TO.rd 1 rfl rfl rfl (by decide) (B1 rfl Mt F6 (vl rfl) rfl rfl) (tp rfl (AQ (xs:=[.tmp 59]) (rows:=[Cv (⟨nm,1,s2.of [3,3,4],14::Ih (s2.Bo.val 3),(s2.Bo.Bo.val 2==2-1),[Fc nm 5 2048 (100+(k:Nat)) 901 1 WY],[1],[2,3],(s2.Bo.Bo.Bo.val 3==3-1)⟩:Ez)]) rfl rfl underlying27 F6 cM rfl (by decide) ⟨⟨(by exact rfl),VL.le (vl rfl) (Pr.le_trans (BB (qs:=Cv (⟨nm,1,s2.of [3,3,4],14::Ih (s2.Bo.val 3),(s2.Bo.Bo.val 2==2-1),[Fc nm 5 2048 (100+(k:Nat)) 901 1 WY],[1],[2,3],(s2.Bo.Bo.Bo.val 3==3-1)⟩:Ez)) ⟨Lr,Lr,Lr,Pr.le_trans (Ai _ _) (Pr.le_of_eq rfl),Lr,Am _ _,Lr,Lr,Lr,trivial⟩) (AJ _))⟩,trivial⟩ (by decide)) ?_)))))))))
 refine TO.GJ 2 rfl rfl (by decide) (DY rfl rfl rfl rfl underlying27 F6 ij cM (Kb rfl) (Kf rfl) (CO (by exact List.Mem.head _) (Ka rfl))) (fun v3=> ?_)
 refine tp rfl (AO rfl IP (vl rfl)) (TO.Ew 3 rfl rfl (BP rfl rfl (vl rfl) (Vo rfl) iQ rfl (by exact Nb rfl) rfl) (TO.nil (Fin.block (Fin.go (Tr.drop 1 (TT 0 2 3 4 16 17 18 rfl (Tr.Ao (SA rfl rfl rfl rfl (by omega) (cm rfl (Ch.nil ?_))))))))))
 refine Fin.Iw 2 [Ab v3 (slice 9 ((es++[(⟨nm,1,s2.of [3,3,4],14::Ih (s2.Bo.val 3),(s2.Bo.Bo.val 2==2-1),[Fc nm 5 2048 (100+(k:Nat)) 901 1 WY],[1],[2,3],(s2.Bo.Bo.Bo.val 3==3-1)⟩:Ez)]).map Cv)),is (.slice none 0 0),is (.slice none 0 0)] rfl ⟨CK (by rw [List.map_append];rfl),Lr,Lr,trivial⟩ ?_
 refine Fin.drop 0 ?_
 exact Fin.Dw (k+1) (es++[(⟨nm,1,s2.of [3,3,4],14::Ih (s2.Bo.val 3),(s2.Bo.Bo.val 2==2-1),[Fc nm 5 2048 (100+(k:Nat)) 901 1 WY],[1],[2,3],(s2.Bo.Bo.Bo.val 3==3-1)⟩:Ez)]) (_) v3 (⟨⟨by omega,by rw [List.length_append,hk2];rfl,PI gl ⟨by rw [hk2];exact J1,rfl,hof,.inr ⟨_,PG hvs,rfl⟩,⟨WY,eL,by rw [hk2]⟩,rfl,rfl⟩⟩,by omega⟩) ⟨⟨_,rfl,AE k⟩,ke rfl,ke rfl,ke rfl,ke rfl,ke rfl,ke rfl,trivial⟩ (fun _ _ h=>h)
 refine Tr.skip (Fin.go (Tr.seq (Tr.As (tm rfl (tp rfl (AW rfl (az) trivial) (tm rfl ?_))))))
 refine tp rfl (Dz rfl (vl rfl) (vl rfl) ?hin) ?_;case hin=>unfold Jo;omega
 refine tp rfl (AW rfl (Qx (name:=nm) (a:=5) (b:=2048) (id:=100+(k:Nat)) (to:=901) (key:=1) (OB J1 (by omega) (by omega)) (NG (by omega)) (by omega)) ⟨ke rfl,ke rfl,ke rfl,ke rfl,ke rfl,trivial⟩) ?_
 refine TO.ex 54 rfl (fun WY=>TO.fact 54 rfl fun eL=> ?_)
 refine tp rfl (AQ (xs:=[.tmp 54]) (rows:=[_]) rfl rfl underlying72 Kv cB rfl (by decide) ⟨⟨(by exact rfl),(Va rfl)⟩,trivial⟩ (by decide)) ?_
 refine tp rfl (AO rfl Nw (vl rfl)) (TO.Ew 0 rfl rfl (BP rfl rfl (vl rfl) (Vo rfl) ig rfl (by exact Nb rfl) rfl) (TO.nil (Fin.go (Oh 0 2 3 4 7 16 17 18 rfl (Tr.As (tp rfl (AO rfl IP (vl rfl)) (TO.rd 2 rfl rfl rfl (by decide) (Aj rfl Oq (vl rfl) rfl) (TO.rd 0 rfl rfl rfl (by decide) (B1 rfl Mt F6 (vl rfl) rfl rfl) (tp rfl (AQ (xs:=[.tmp 59]) (rows:=[Cv (⟨nm,1,s2.of [3,3,4],Ih (s2.Bo.val 3),(s2.Bo.Bo.val 2==2-1),[Fc nm 5 2048 (100+(k:Nat)) 901 1 WY],[1],[2,3],(s2.Bo.Bo.Bo.val 3==3-1)⟩:Ez)]) rfl rfl underlying27 F6 cM rfl (by decide) ⟨⟨(by exact rfl),VL.le (vl rfl) (Pr.le_trans (BB (qs:=Cv (⟨nm,1,s2.of [3,3,4],Ih (s2.Bo.val 3),(s2.Bo.Bo.val 2==2-1),[Fc nm 5 2048 (100+(k:Nat)) 901 1 WY],[1],[2,3],(s2.Bo.Bo.Bo.val 3==3-1)⟩:Ez)) ⟨Lr,Lr,Lr,Lr,Lr,Am _ _,Lr,Lr,Lr,trivial⟩) (AJ _))⟩,trivial⟩ (by decide)) ?_)))))))))
 refine TO.GJ 1 rfl rfl (by decide) (DY rfl rfl rfl rfl underlying27 F6 ij cM (Kb rfl) (Kf rfl) (CO (by exact List.Mem.head _) (Ka rfl))) (fun v4=> ?_)
 refine tp rfl (AO rfl IP (vl rfl)) (TO.Ew 2 rfl rfl (BP rfl rfl (vl rfl) (Vo rfl) iQ rfl (by exact Nb rfl) rfl) (TO.nil (Fin.block (Fin.go (Tr.drop 0 (TT 0 2 3 4 16 17 18 rfl (Tr.Ao (SA rfl rfl rfl rfl (by omega) (cm rfl (Ch.nil ?_))))))))))
 refine Fin.Iw 1 [Ab v4 (slice 9 ((es++[(⟨nm,1,s2.of [3,3,4],Ih (s2.Bo.val 3),(s2.Bo.Bo.val 2==2-1),[Fc nm 5 2048 (100+(k:Nat)) 901 1 WY],[1],[2,3],(s2.Bo.Bo.Bo.val 3==3-1)⟩:Ez)]).map Cv)),is (.slice none 0 0),is (.slice none 0 0)] rfl ⟨CK (by rw [List.map_append];rfl),Lr,Lr,trivial⟩ ?_
 exact Fin.Dw (k+1) (es++[(⟨nm,1,s2.of [3,3,4],Ih (s2.Bo.val 3),(s2.Bo.Bo.val 2==2-1),[Fc nm 5 2048 (100+(k:Nat)) 901 1 WY],[1],[2,3],(s2.Bo.Bo.Bo.val 3==3-1)⟩:Ez)]) (_) v4 (⟨⟨by omega,by rw [List.length_append,hk2];rfl,PI gl ⟨by rw [hk2];exact J1,rfl,hof,.inl (PG hvs),⟨WY,eL,by rw [hk2]⟩,rfl,rfl⟩⟩,by omega⟩) ⟨⟨_,rfl,AE k⟩,ke rfl,ke rfl,ke rfl,ke rfl,ke rfl,ke rfl,trivial⟩ (fun _ _ h=>h)
 have hke:k=(2+s.val 2).toNat:=by have:=C6.Dj h1;rw [VR] at this;omega
 refine Tr.exit (Fin.Ac (Fin.Ac (Fin.Az (Fin.go (Tr.seq (Tr.seq (Tr.Iw 1 [slice 9 (es.map Cv),is (.slice none 0 0),is (.slice none 0 0)] rfl ⟨Ai _ _,Lr,Lr,trivial⟩ (Tr.drop 0 (Tr.Ao (cm rfl (co rfl (CA rfl underlying67 (vl rfl)) (cm rfl (Ch.nil (Fin.go ?_))))))))))))))
 refine Tr.block ?_
 refine Tr.re 65 rfl (int_eq (by simp;rfl):Pr.le _ (int (((EK.take (2+s.val 2).toNat).length:Nat):Int))) ?_
 refine Tr.Iw 0 [slice 9 (es.map Cv),Ab (.slice none 0 0) (JP []),is (.slice none 0 0)] rfl ⟨Lr,Cg rfl,Lr,trivial⟩ (Tr.DB 78 2 (Tr.F4 [(0,_),(2,_),(3,_),(4,_),(65,_)] ⟨ke rfl,ke rfl,ke rfl,ke rfl,ke rfl,trivial⟩ (fun (i:Nat) (gs:List Ji) (s3:DS) w=>[(66,int ((i:Nat):Int))]) (fun (i:Nat) (gs:List Ji) (s3:DS) w=>Hp M0 w0 S (Ax 78 2 w::AB true b2 31 [slice 9 (es.map Cv),Ab w (JP gs),is (.slice none 0 0)]::AB true b1 31 (([.slice none 0 0,.slice none 0 0,.slice none 0 0]:List Value).map is)::Cw b s3::AZ M1 w1::rs)) (fun (i:Nat) (gs:List Ji) (s3:DS)=>i≤(2+s.val 2).toNat∧gs.length≤3∧RC (2+s.val 2).toNat i 0 gs) (fun (i:Nat) (gs:List Ji) (s3:DS)=>(2+s.val 2).toNat-i) (0) ([]) (_) (.slice none 0 0) (⟨by omega,by simp,RC.nil _ _ _⟩) ⟨ke rfl,trivial⟩ (fun _ _ h=>h) ?_))
 rintro i gs s3 w ⟨hi1,hi2,hi3⟩
 refine Tr.seq (Tr.Ao (co rfl (ki rfl rfl rfl rfl) (Ch.nil (Fin.go (Tr.seq ?_)))))
 refine Tr.cn rfl ?_ ?_<;>intro h3 q3
 have hin:i<(2+s.val 2).toNat:=by have:=C6.Dj h3;rw [VR] at this;omega
 refine Tr.skip (Fin.go (Tr.seq (Tr.block (Tr.seq (Tr.Ao (cm rfl (cm rfl (Ch.nil (Fin.go (Tr.seq (Tr.Ao (cm rfl (co rfl (CA rfl underlying67 (vl rfl)) ?_)))))))))))))
 refine cm rfl (Ch.nil (Fin.go (Tr.block ?_)))
 refine Tr.re 70 rfl (int_eq (by simp;rfl):Pr.le _ (int (((EK.take (2+s.val 2).toNat).length:Nat):Int))) ?_
 refine Tr.F4 [(0,_),(2,_),(3,_),(4,_),(8,_),(65,_),(66,_),(70,_)] ⟨ke rfl,ke rfl,ke rfl,ke rfl,ke rfl,ke rfl,ke rfl,ke rfl,trivial⟩ (fun (j:Nat) (UB:List Ji) (s4:DS) u=>[(71,int ((j:Nat):Int))]) (fun (j:Nat) (UB:List Ji) (s4:DS) u=>Hp M0 w0 S (Ax 78 2 u::AB true b2 31 [slice 9 (es.map Cv),Ab u (JP UB),is (.slice none 0 0)]::AB true b1 31 (([.slice none 0 0,.slice none 0 0,.slice none 0 0]:List Value).map is)::Cw b s4::AZ M1 w1::rs)) (fun (j:Nat) (UB:List Ji) (s4:DS)=>j≤(2+s.val 2).toNat∧UB.length≤3∧RC (2+s.val 2).toNat i j UB) (fun (j:Nat) (UB:List Ji) (s4:DS)=>(2+s.val 2).toNat-j) (0) (gs) (_) w (⟨by omega,hi2,hi3⟩) ⟨ke rfl,trivial⟩ (fun _ _ h=>h) ?_
 rintro j UB s4 u ⟨fu,hj2,lQ⟩
 refine Tr.seq (Tr.Ao (co rfl (ki rfl rfl rfl rfl) (Ch.nil (Fin.go (Tr.seq ?_)))))
 refine Tr.cn rfl ?_ ?_<;>intro h4 q4
 have hjn:j<(2+s.val 2).toNat:=by have:=C6.Dj h4;rw [VR] at this;omega
 refine Tr.skip (Fin.go (Tr.seq (Tr.block (Tr.seq (Tr.Ao (cm rfl (cm rfl (Ch.nil (Fin.go (Tr.seq (Tr.As (tm rfl (tm rfl ?_)))))))))))))
 refine tp rfl (ki rfl rfl rfl rfl) (tm rfl ?_)
 refine TO.cases 77 rfl (fun h5=> ?_) (fun h5=> ?_)
 have q5:=C6.Dj h5
 refine TO.HT rfl rfl rfl h5 rfl (by decide) (Aw rfl (vl rfl)) (TO.Vc 3 rfl rfl rfl h5 rfl rfl (by decide) (Ag rfl rfl (by decide) rfl (Bx (by omega) (by omega)) ⟨ke rfl,ke rfl,trivial⟩) (TO.HT rfl rfl rfl h5 rfl (by decide) (ki rfl rfl rfl rfl) (tp rfl (SB rfl rfl h5 rfl) (tm rfl ?_))))
 refine TO.cases 82 rfl (fun h6=> ?_) (fun h6=> ?_)
 have q6:=C6.Dj h6
 refine TO.HT rfl rfl rfl h6 rfl (by decide) (AO rfl Js (vl rfl)) (TO.HT rfl rfl rfl h6 rfl (by decide) (CT 1 rfl (Aj rfl SG (vl rfl) rfl)) (TO.HT rfl rfl rfl h6 rfl (by decide) (Bq rfl underlying28 (Kb rfl)) (TO.HT rfl rfl rfl h6 rfl (by decide) (ki rfl rfl rfl rfl) (tp rfl (SB rfl rfl h6 rfl) (TO.nil (Fin.go (II 0 2 3 4 8 9 65 66 70 71 87 rfl ?_)))))))
 refine Tr.cn rfl ?_ ?_<;>intro h7 q7
 refine Tr.As (tp rfl (AO rfl Js (vl rfl)) (TO.rd 1 rfl rfl rfl (by decide) (Aj rfl SG (vl rfl) rfl) (tm rfl (tm rfl (tp rfl (Ad (rows:=[(0,[_]),(1,[_])]) rfl iq VF ⟨⟨rfl,(Vo rfl)⟩,⟨⟨rfl,(Vo rfl)⟩,trivial⟩⟩ rfl) (tp rfl (AQ (xs:=[.tmp 92]) (rows:=[_]) rfl rfl underlying28 Hl ff rfl (by decide) ⟨⟨(by exact rfl),(Va rfl)⟩,trivial⟩ (by decide)) ?_))))))
 refine TO.GJ 0 rfl rfl (by decide) (DY rfl rfl rfl rfl underlying28 Hl pI ff (Kb rfl) (Kf rfl) (CO (by exact List.Mem.head _) (Ka rfl))) (fun v5=> ?_)
 refine tp rfl (AO rfl Js (vl rfl)) (TO.Ew 1 rfl rfl (BP rfl rfl (vl rfl) (Vo rfl) iR rfl (by exact Nb rfl) rfl) (TO.nil (Fin.block (Fin.go (mW 0 2 3 4 8 65 66 70 71 rfl (Tr.Ao (SA rfl rfl rfl rfl (by omega) (cm rfl (Ch.nil ?_)))))))))
 refine Fin.Iw 1 [slice 9 (es.map Cv),Ab v5 (JP (UB++[(⟨((i:Nat):Int),((j:Nat):Int)⟩:Ji)])),is (.slice none 0 0)] rfl ⟨Lr,CK (by rw [List.map_append];rfl),Lr,trivial⟩ ?_
 exact Fin.Dw (j+1) (UB++[(⟨((i:Nat):Int),((j:Nat):Int)⟩:Ji)]) (_) v5 (⟨⟨by omega,by simp;omega,lQ.snoc ⟨by omega,by omega⟩ ⟨by omega,by omega⟩ (by omega)⟩,by omega⟩) ⟨⟨_,rfl,AE j⟩,ke rfl,ke rfl,ke rfl,ke rfl,ke rfl,ke rfl,ke rfl,ke rfl,trivial⟩ (fun _ _ h=>h)
 refine Tr.skip (Fin.block (Fin.go (Tr.Ao (SA rfl rfl rfl rfl (by omega) (cm rfl (Ch.nil (Fin.Dw (j+1) (UB) (_) u (⟨⟨by omega,hj2,lQ.step⟩,by omega⟩) ⟨⟨_,rfl,AE j⟩,ke rfl,ke rfl,ke rfl,ke rfl,ke rfl,ke rfl,ke rfl,ke rfl,trivial⟩ (fun _ _ h=>h))))))))
 have q6:=C6.Dj h6
 iterate 4 refine TO.QJ rfl rfl rfl (A0 h6) rfl (by decide) ?_
 refine tp rfl (LZ rfl rfl h6 rfl) (TO.nil (Fin.go (II 0 2 3 4 8 9 65 66 70 71 87 rfl (Tr.cond rfl (fun h=>nomatch h) (fun _=> ?_)))))
 refine Tr.skip (Fin.block (Fin.go (Tr.Ao (SA rfl rfl rfl rfl (by omega) (cm rfl (Ch.nil (Fin.Dw (j+1) (UB) (_) u (⟨⟨by omega,hj2,lQ.step⟩,by omega⟩) ⟨⟨_,rfl,AE j⟩,ke rfl,ke rfl,ke rfl,ke rfl,ke rfl,ke rfl,ke rfl,ke rfl,trivial⟩ (fun _ _ h=>h))))))))
 have q5:=C6.Dj h5
 refine TO.QJ rfl rfl rfl (A0 h5) rfl (by decide) (TO.QJ rfl rfl rfl (A0 h5) rfl (by decide) (TO.QJ rfl rfl rfl (A0 h5) rfl (by decide) (tp rfl (LZ rfl rfl h5 rfl) (tm rfl ?_))))
 iterate 4 refine TO.QJ rfl rfl rfl (A0 rfl) rfl (by decide) ?_
 refine tp rfl (LZ rfl rfl rfl rfl) (TO.nil (Fin.go (II 0 2 3 4 8 9 65 66 70 71 87 rfl (Tr.cond rfl (fun h=>nomatch h) (fun _=> ?_)))))
 refine Tr.skip (Fin.block (Fin.go (Tr.Ao (SA rfl rfl rfl rfl (by omega) (cm rfl (Ch.nil (Fin.Dw (j+1) (UB) (_) u (⟨⟨by omega,hj2,lQ.step⟩,by omega⟩) ⟨⟨_,rfl,AE j⟩,ke rfl,ke rfl,ke rfl,ke rfl,ke rfl,ke rfl,ke rfl,ke rfl,trivial⟩ (fun _ _ h=>h))))))))
 have hje:j=(2+s.val 2).toNat:=by have:=C6.Dj h4;rw [VR] at this;omega
 refine Tr.exit (Fin.Ac (Fin.Ac (Fin.Az (Fin.block (Fin.go (Tr.Ao (SA rfl rfl rfl rfl (by omega) (cm rfl (Ch.nil (Fin.Dw (i+1) (UB) (_) u (⟨⟨by omega,hj2,lQ.row⟩,by omega⟩) ⟨⟨_,rfl,AE i⟩,ke rfl,ke rfl,ke rfl,ke rfl,ke rfl,trivial⟩ (fun _ _ h=>h)))))))))))
 have hie:i=(2+s.val 2).toNat:=by have:=C6.Dj h3;rw [VR] at this;omega
 refine Tr.exit (Fin.Ac (Fin.Ac (Fin.Az (Fin.go (Tr.seq (Tr.seq (Tr.Ao (co rfl (AO rfl Js (vl rfl)) (co rfl (CT 1 rfl (Aj rfl SG (vl rfl) rfl)) (co rfl (Bq rfl underlying28 (Kb rfl)) (co rfl (ki rfl rfl rfl rfl) (Ch.nil (Fin.go ?_)))))))))))))
 refine Tr.cn rfl ?_ ?_<;>intro h8 q8
 refine Tr.As (tp rfl (Ad (rows:=[(0,[_]),(1,[_])]) rfl iq VF ⟨⟨rfl,(Vo rfl)⟩,⟨⟨rfl,(Vo rfl)⟩,trivial⟩⟩ rfl) (tp rfl (AQ (xs:=[.tmp 102]) (rows:=[_]) rfl rfl underlying28 Hl ff rfl (by decide) ⟨⟨(by exact rfl),(Va rfl)⟩,trivial⟩ (by decide)) ?_))
 refine tp rfl (AO rfl Js (vl rfl)) (TO.Ew 1 rfl rfl (BP rfl rfl (vl rfl) (Vo rfl) iR rfl (by exact Nb rfl) rfl) (TO.nil (Fin.go (FX 0 2 3 rfl (Tr.seq (Tr.seq ?_))))))
 have hv9:=s3.Ca (n:=3) (by omega)
 obtain ⟨RE,hge,eM,eN,eO⟩:∃l:List Ji,l=[⟨0,1⟩]∧(∀k,k<l.length→BO (2+s.val 2).toNat l k=true)∧1≤l.length∧l.length≤3:=⟨_,rfl,((RC.nil (2+s.val 2).toNat 0 1).snoc ⟨by omega,by omega⟩ ⟨by omega,by omega⟩ (by omega)).at_,by simp,by simp⟩
 refine Tr.Iw 1 [slice 9 (es.map Cv),JP RE,is (.slice none 0 0)] rfl ⟨Lr,Pr.le_trans (Am _ _) (Pr.le_of_eq (by rw [hge];rfl)),Lr,trivial⟩ ?_
 refine Tr.drop 0 (Tr.As (tm rfl (TO.Hu 2 rfl rfl (by decide) (Ag rfl rfl (by decide) rfl (Bx (by omega) (by omega)) ⟨ke rfl,ke rfl,trivial⟩) (tm rfl (TO.nil (Fin.go (Tr.block (Tr.Iw 0 [slice 9 (es.map Cv),JP RE,Ab (.slice none 0 0) (Q7 [])] rfl ⟨Lr,Lr,Cg rfl,trivial⟩ (Tr.DB 81 5 ?_)))))))))
 refine Tr.F4 [(0,_),(2,_),(3,_)] ⟨ke rfl,ke rfl,ke rfl,trivial⟩ (fun (q:Int) (its:List J2) (s5:DS) x=>[(10,int q)]) (fun (q:Int) (its:List J2) (s5:DS) x=>Hp M0 w0 S (Ax 81 5 x::AB true b2 31 [slice 9 (es.map Cv),JP RE,Ab x (Q7 its)]::AB true b1 31 (([.slice none 0 0,.slice none 0 0,.slice none 0 0]:List Value).map is)::Cw b s5::AZ M1 w1::rs)) (fun (q:Int) (its:List J2) (s5:DS)=>0≤q∧q+its.length≤2∧∀x∈its,RB x) (fun (q:Int) (its:List J2) (s5:DS)=>q.toNat) (_) ([]) (_) (.slice none 0 0) (⟨by omega,by simp;omega,fun x h=>by simp at h⟩) ⟨ke rfl,trivial⟩ (fun _ _ h=>h) ?_
 rintro q its s5 x ⟨hq1,OX,hqi⟩
 refine Tr.seq (Tr.seq (Tr.Ao (cm rfl (co rfl (ki rfl rfl rfl rfl) (Ch.nil (Fin.go ?_))))))
 refine Tr.cn rfl ?_ ?_<;>intro h9 q9
 have Ys:0<q:=of_decide_eq_true h9
 refine Tr.skip (Fin.go (Tr.seq (Tr.block (Tr.pad (Tr.Hh mixed [none,some (0,2,false,0),none,none,none,some (0,4,true,0),some (0,4,true,0),none,some (0,1,true,119),none,some (0,2,true,119)] (by kernel_rfl) (xo rfl (fun _=>AO rfl Lf (vl rfl)) (GL 2 rfl rfl (Aj rfl U9 (vl rfl) rfl) (xm rfl (xm rfl (xo rfl (fun _=>AQ (xs:=[.const (.string ⟨[98,97,99,107,117,112].toArray⟩),.const (.string ⟨[100,101,101,100].toArray⟩)]) (rows:=[[_],[_]]) rfl rfl underlying67 KV z9 rfl (by decide) ⟨⟨(by exact rfl),(Vo rfl)⟩,⟨⟨(by exact rfl),(Vo rfl)⟩,trivial⟩⟩ (by decide)) ?_))))))))))
 refine Cx.ef 4 rfl rfl (by decide) (Ag rfl rfl (by decide) rfl (PF (l:=[[98,97,99,107,117,112],[100,101,101,100]]) (by simp) (by simp)) ⟨ke rfl,(Kf rfl),trivial⟩) ?_
 refine Cx.ef 4 rfl rfl (by decide) (Ag rfl rfl (by decide) rfl (Si) ⟨ke rfl,ke rfl,trivial⟩) (xo rfl (fun _=>AQ (xs:=[.tmp 117]) (rows:=[_]) rfl rfl underlying29 Kw fk rfl (by decide) ⟨⟨(by exact rfl),(Va rfl)⟩,trivial⟩ (by decide)) ?_)
 refine Cx.ef 1 rfl rfl (by decide) (DY rfl rfl rfl rfl underlying29 Kw iw fk (Kb rfl) (Kf rfl) (CO (by exact List.Mem.head _) (Ka rfl))) ?_
 refine xo rfl (fun _=>AO rfl Lf (vl rfl)) (Cx.Ew 2 rfl rfl (HP rfl rfl rfl (vl rfl) rfl iS (by exact Nb rfl)) ?_)
 refine Cx.nil ⟨rfl,?_⟩
 refine BE.SE 1 2 119 rfl rfl (by decide) rfl (fun v6=> ?_)
 refine BE.done (An.cons (An.cons (An.cons (An.cons (An.cons (An.cons (An.map _))))))) (Fin.block (Fin.go (Tr.drop 0 (Fw 0 2 3 10 rfl (Tr.Ao (cm rfl (mV rfl rfl rfl rfl (by omega) (cm rfl (Ch.nil ?_)))))))))
 refine Fin.Iw 1 [slice 9 (es.map Cv),JP RE,Ab v6 (Q7 (its++[(NI s5.Bo (HC s5 [Im,RD]))]))] rfl ⟨Lr,Lr,CK (by rw [List.map_append];rfl),trivial⟩ ?_
 exact Fin.Dw (q-1) (its++[(NI s5.Bo (HC s5 [Im,RD]))]) (_) v6 (⟨⟨by omega,by simp;omega,PN hqi (Sh (Sj s5))⟩,by omega⟩) ⟨⟨_,rfl,int_eq (by omega)⟩,ke rfl,ke rfl,ke rfl,trivial⟩ (fun _ _ h=>h)
 have Ys:¬0<q:=of_decide_eq_false h9
 refine Tr.exit (Fin.Ac (Fin.Ac (Fin.Az (Fin.go (Tr.seq (Tr.As (TO.rd 1 rfl rfl rfl (by decide) (B1 rfl E7 Gp (vl rfl) rfl rfl) (TO.Ap 2 rfl rfl rfl (vl rfl) (Va rfl) rfl Gp rfl rfl (TO.nil (Fin.go (Tr.ret (Fin.IL 3 _ rfl rfl (Fin.F5 [_,_,_] rfl (BK.cell 2 rfl rfl E7 Gp rfl (Lr)) ?_ (fun _ _ _ _=>rfl))))))))))))))
 · exact Bp ⟨es,RE,its⟩ (Dx ⟨by show 2≤es.length;omega,by show es.length≤3;omega,gl,by show ∀k,k<RE.length→BO es.length RE k=true;rw [hk2,hke];exact eM,eN,eO,hqi,by show its.length≤2;omega⟩ (BB ⟨Lr,Lr,Ai _ _,trivial⟩))
 refine Tr.skip (Fin.go (Tr.seq (Tr.seq ?_)))
 have hv9:=s3.Ca (n:=3) (by omega)
 obtain ⟨RE,hge,eM,eN,eO⟩:∃l:List Ji,l=gs∧(∀k,k<l.length→BO (2+s.val 2).toNat l k=true)∧1≤l.length∧l.length≤3:=⟨_,rfl,hi3.at_,by have h_:=h8;simp at h_;exact List.length_pos_iff.2 h_,hi2⟩
 refine Tr.Iw 1 [slice 9 (es.map Cv),JP RE,is (.slice none 0 0)] rfl ⟨Lr,Pr.le_trans (Ai _ _) (Pr.le_of_eq (by rw [hge])),Lr,trivial⟩ (Tr.drop 0 (Tr.As (tm rfl (TO.Hu 2 rfl rfl (by decide) (Ag rfl rfl (by decide) rfl (Bx (by omega) (by omega)) ⟨ke rfl,ke rfl,trivial⟩) (tm rfl (TO.nil (Fin.go (Fw 0 2 3 10 rfl (Tr.block (Tr.Iw 0 [slice 9 (es.map Cv),JP RE,Ab (.slice none 0 0) (Q7 [])] rfl ⟨Lr,Lr,Cg rfl,trivial⟩ (Tr.DB 81 5 ?_)))))))))))
 refine Tr.F4 [(0,_),(2,_),(3,_)] ⟨ke rfl,ke rfl,ke rfl,trivial⟩ (fun (q:Int) (its:List J2) (s5:DS) x=>[(10,int q)]) (fun (q:Int) (its:List J2) (s5:DS) x=>Hp M0 w0 S (Ax 81 5 x::AB true b2 31 [slice 9 (es.map Cv),JP RE,Ab x (Q7 its)]::AB true b1 31 (([.slice none 0 0,.slice none 0 0,.slice none 0 0]:List Value).map is)::Cw b s5::AZ M1 w1::rs)) (fun (q:Int) (its:List J2) (s5:DS)=>0≤q∧q+its.length≤2∧∀x∈its,RB x) (fun (q:Int) (its:List J2) (s5:DS)=>q.toNat) (_) ([]) (_) (.slice none 0 0) (⟨by omega,by simp;omega,fun x h=>by simp at h⟩) ⟨ke rfl,trivial⟩ (fun _ _ h=>h) ?_
 rintro q its s5 x ⟨hq1,OX,hqi⟩
 refine Tr.seq (Tr.seq (Tr.Ao (cm rfl (co rfl (ki rfl rfl rfl rfl) (Ch.nil (Fin.go ?_))))))
 refine Tr.cn rfl ?_ ?_<;>intro h10 O9
 have Ys:0<q:=of_decide_eq_true h10
 refine Tr.skip (Fin.go (Tr.seq (Tr.block (Tr.pad (Tr.Hh mixed [none,some (0,2,false,0),none,none,none,some (0,4,true,0),some (0,4,true,0),none,some (0,1,true,119),none,some (0,2,true,119)] (by kernel_rfl) (xo rfl (fun _=>AO rfl Lf (vl rfl)) (GL 2 rfl rfl (Aj rfl U9 (vl rfl) rfl) (xm rfl (xm rfl (xo rfl (fun _=>AQ (xs:=[.const (.string ⟨[98,97,99,107,117,112].toArray⟩),.const (.string ⟨[100,101,101,100].toArray⟩)]) (rows:=[[_],[_]]) rfl rfl underlying67 KV z9 rfl (by decide) ⟨⟨(by exact rfl),(Vo rfl)⟩,⟨⟨(by exact rfl),(Vo rfl)⟩,trivial⟩⟩ (by decide)) ?_))))))))))
 refine Cx.ef 4 rfl rfl (by decide) (Ag rfl rfl (by decide) rfl (PF (l:=[[98,97,99,107,117,112],[100,101,101,100]]) (by simp) (by simp)) ⟨ke rfl,(Kf rfl),trivial⟩) ?_
 refine Cx.ef 4 rfl rfl (by decide) (Ag rfl rfl (by decide) rfl (Si) ⟨ke rfl,ke rfl,trivial⟩) (xo rfl (fun _=>AQ (xs:=[.tmp 117]) (rows:=[_]) rfl rfl underlying29 Kw fk rfl (by decide) ⟨⟨(by exact rfl),(Va rfl)⟩,trivial⟩ (by decide)) ?_)
 refine Cx.ef 1 rfl rfl (by decide) (DY rfl rfl rfl rfl underlying29 Kw iw fk (Kb rfl) (Kf rfl) (CO (by exact List.Mem.head _) (Ka rfl))) ?_
 refine xo rfl (fun _=>AO rfl Lf (vl rfl)) (Cx.Ew 2 rfl rfl (HP rfl rfl rfl (vl rfl) rfl iS (by exact Nb rfl)) ?_)
 refine Cx.nil ⟨rfl,?_⟩
 refine BE.SE 1 2 119 rfl rfl (by decide) rfl (fun v7=> ?_)
 refine BE.done (An.cons (An.cons (An.cons (An.cons (An.cons (An.cons (An.map _))))))) (Fin.block (Fin.go (Tr.drop 0 (Fw 0 2 3 10 rfl (Tr.Ao (cm rfl (mV rfl rfl rfl rfl (by omega) (cm rfl (Ch.nil ?_)))))))))
 refine Fin.Iw 1 [slice 9 (es.map Cv),JP RE,Ab v7 (Q7 (its++[(NI s5.Bo (HC s5 [Im,RD]))]))] rfl ⟨Lr,Lr,CK (by rw [List.map_append];rfl),trivial⟩ ?_
 exact Fin.Dw (q-1) (its++[(NI s5.Bo (HC s5 [Im,RD]))]) (_) v7 (⟨⟨by omega,by simp;omega,PN hqi (Sh (Sj s5))⟩,by omega⟩) ⟨⟨_,rfl,int_eq (by omega)⟩,ke rfl,ke rfl,ke rfl,trivial⟩ (fun _ _ h=>h)
 have Ys:¬0<q:=of_decide_eq_false h10
 refine Tr.exit (Fin.Ac (Fin.Ac (Fin.Az (Fin.go (Tr.seq (Tr.As (TO.rd 1 rfl rfl rfl (by decide) (B1 rfl E7 Gp (vl rfl) rfl rfl) (TO.Ap 2 rfl rfl rfl (vl rfl) (Va rfl) rfl Gp rfl rfl (TO.nil (Fin.go (Tr.ret (Fin.IL 3 _ rfl rfl (Fin.F5 [_,_,_] rfl (BK.cell 2 rfl rfl E7 Gp rfl (Lr)) ?_ (fun _ _ _ _=>rfl))))))))))))))
 · exact Bp ⟨es,RE,its⟩ (Dx ⟨by show 2≤es.length;omega,by show es.length≤3;omega,gl,by show ∀k,k<RE.length→BO es.length RE k=true;rw [hk2,hke];exact eM,eN,eO,hqi,by show its.length≤2;omega⟩ (BB ⟨Lr,Lr,Ai _ _,trivial⟩))
end Go.Proofs.YtppdobdifkefcaaGreatDoor
namespace Cp
open Go Go.RowKit
theorem TO.SD {P:Program} {n:Fm} {E:Env} {M0:Av} {w0:World} {S:Nat→Prop} {rs:List Ae} {ops:Array Oper} {r:List Oper} {Q:Exit→Act→World→Prop} (i:Nat) {T:TypeId} {b:Nat} (hi:rs[i]? =some (IK T b)) (k:∀s,TO P n ops r E (Hp M0 w0 S (rs.set i (On T b s))) Q):TO P n ops r E (Hp M0 w0 S rs) Q:=by
 rintro m hl a w ⟨M,h1,h2,h3,h4⟩
 have h4:Al M0 w0 S rs M w:=h4
 obtain ⟨x,hx,hh⟩:=(h4.hold _ (List.mem_of_getElem? hi)).1
 exact k x m hl a w ⟨M,h1,h2,h3,h4.CU hi rfl rfl hh⟩
theorem AR.TW {P:Program} {E:Env} {I:B6} {o:Oper} {p:Pr} (s:Nat) {α:Type} {f:α→Pr} (hs:E.lookup s=some (Cp.ex f)) (hm:s∈looks o) (h:∀x,AR P I o ((s,f x)::E) p):AR P I o E p:=by
 intro M w a he hI
 obtain ⟨x,hx⟩:=he s _ hm hs
 refine h x M w a (fun t q ht hq=> ?_) hI
 simp only [List.lookup] at hq
 by_cases hts:t=s
 · subst hts;simp at hq;subst hq;exact hx
 · rw [show (t==s)=false by simpa using hts] at hq;exact he t q ht hq
end Cp
namespace Cp
open Go Go.RowKit Go.Great
section
variable {P:Program} {L:Lg P} {n:Fm} {fz:Nat} {E:Env} {M0:Av} {w0:World} {S:Nat→Prop} {rs:List Ae}
theorem Al.PO {i:Nat} {r r':Ae} {M:Av} {w:World} (h:Al M0 w0 S rs M w) (hi:rs[i]? =some r) (hb:∀b,r'.blk=some b→r.blk=some b) (hn:r'.new=r.new) (hh:r'.h M w):Al M0 w0 S (rs.set i r') M w:=by
 have E3:i<rs.length:=by rcases Nat.lt_or_ge i rs.length with h|h;exact h;rw [List.getElem?_eq_none h] at hi;cases hi
 have h1:=Al.perm (FV hi) h
 refine Al.perm (I7 E3) ⟨h1.m0,h1.m,h1.os,h1.tape,h1.output,h1.size,h1.block,h1.bd,fun q hq=> ?_,?_⟩
 ·
  rcases List.mem_cons.1 hq with rfl|hq
  · exact ⟨hh,fun b hbk=>by rw [hn];exact (h1.hold r (by simp)).2 b (hb b hbk)⟩
  · exact h1.hold q (by simp [hq])
 ·
  obtain ⟨h2,h3⟩:=List.pairwise_cons.1 h1.nd
  exact List.Pairwise.cons (fun q hq b hbk=>h2 q hq b (hb b hbk)) h3
theorem Al.NL {j:Nat} {e:TypeId} {sz:Nat} {rows:List (List Pr)} {v:Value} {M:Av} {w:World} (h:Al M0 w0 S rs M w) (hj:rs[j]? =some (Bu e sz rows v)):Al M0 w0 S (rs.set j (BQ e sz rows v)) M w:=by
 rcases (h.hold _ (List.mem_of_getElem? hj)).1 with ⟨h1,h2⟩|⟨b,cap,sp,h1,h2,h3,h4,h5⟩
 ·
  subst h2
  exact h.PO hj (fun b hb=>by cases hb) rfl (.inl ⟨h1,_,rfl⟩)
 ·
  subst h1
  cases cap with
  |zero=>
   have hr:rows=[]:=List.eq_nil_of_length_eq_zero (by omega)
   subst hr
   exact h.PO hj (fun b hb=>by cases hb) rfl (.inl ⟨rfl,_,rfl⟩)
  |succ c=>exact h.PO hj (fun b hb=>hb) rfl (.inr ⟨b,c,sp,rfl,h2,h3,h4,h5⟩)
theorem Fin.NL {Q:Exit→Act→World→Prop} {x:Exit} {e:TypeId} {sz:Nat} {rows:List (List Pr)} {v:Value} (j:Nat) (hj:rs[j]? =some (Bu e sz rows v)) (k:Fin n E (Hp M0 w0 S (rs.set j (BQ e sz rows v))) Q x):Fin n E (Hp M0 w0 S rs) Q x:=
 Fin.conv (fun a w hs=>by
  obtain ⟨M,h1,h2,h3,h4⟩:=hs
  have h4:Al M0 w0 S rs M w:=h4
  exact ⟨M,h1,h2,h3,h4.NL hj⟩) k
theorem Tr.NL {Q:Exit→Act→World→Prop} {c:Code} {e:TypeId} {sz:Nat} {rows:List (List Pr)} {v:Value} (j:Nat) (hj:rs[j]? =some (Bu e sz rows v)) (k:Tr L n E (Hp M0 w0 S (rs.set j (BQ e sz rows v))) c Q):Tr L n E (Hp M0 w0 S rs) c Q:=
 Tr.conv (fun _ _ ⟨M,h1,h2,h3,h4⟩=>⟨M,h1,h2,h3,Al.NL h4 hj⟩) k
end
end Cp
namespace Cp
open Go Go.RowKit
theorem ZT {β:Type} {f:β→Pr} {ps:List Pr} {M:Av} {w:World} {ad:Addr} {n:Nat} (h:Row M w ad n (ps++[Cp.ex f])):∃x,Row M w ad n (ps++[f x]):=by
 obtain ⟨u,h1,h2,h3,x,h4⟩:=h ps.length (Cp.ex f) (by simp)
 refine ⟨x,fun j p hp=> ?_⟩
 rcases Nat.lt_trichotomy j ps.length with hj|hj|hj
 · exact h j p (by rw [List.getElem?_append_left hj] at hp ⊢;exact hp)
 · subst hj;simp at hp;subst hp;exact ⟨u,h1,h2,h3,h4⟩
 · rw [List.getElem?_eq_none (by simp;omega)] at hp;cases hp
theorem UC {φ:Prop} {q:Pr} {ps:List Pr} {M:Av} {w:World} {ad:Addr} {n:Nat} (h:Row M w ad n (ps++[fact φ q])):φ∧Row M w ad n (ps++[q]):=by
 obtain ⟨u,h1,h2,h3,hφ,h4⟩:=h ps.length (fact φ q) (by simp)
 refine ⟨hφ,fun j p hp=> ?_⟩
 rcases Nat.lt_trichotomy j ps.length with hj|hj|hj
 · exact h j p (by rw [List.getElem?_append_left hj] at hp ⊢;exact hp)
 · subst hj;simp at hp;subst hp;exact ⟨u,h1,h2,h3,h4⟩
 · rw [List.getElem?_eq_none (by simp;omega)] at hp;cases hp
theorem RF {α β:Type} {f:α→List Pr} {g:β→List Pr} {φ:α→β→Prop} {sz:Nat} (h:∀a M w ad n,Row M w ad n (f a)→∃b,φ a b∧Row M w ad n (g b)) (hf:∀a,(f a).length=sz) (hg:∀b,(g b).length=sz) (ms:List α):
  Pr.le (slice sz (ms.map f)) (Cp.ex fun l:List β=>fact (l.length=ms.length∧∀(i:Nat) a b,ms[i]? =some a→l[i]? =some b→φ a b) (slice sz (l.map g))):=by
 rintro M w v ⟨a,cap,hv,h1,h2,h3,h5⟩
 have hk:∀k,k≤ms.length→∃l:List β,l.length=k∧(∀(i:Nat) a b,ms[i]? =some a→l[i]? =some b→φ a b)∧∀(i:Nat) b,l[i]? =some b→∃ad,a=some ad∧Row M w ad (i*sz) (g b):=by
  intro k
  induction k with
  |zero=>intro _;exact ⟨[],rfl,by simp,by simp⟩
  |succ k ih=>
   intro hk
   obtain ⟨l,hl,hp,hr⟩:=ih (by omega)
   obtain ⟨x,hx⟩:∃x,ms[k]? =some x:=⟨ms[k],List.getElem?_eq_getElem (by omega)⟩
   obtain ⟨_,ad,had,hrow⟩:=h5 k (f x) (by rw [List.getElem?_map,hx];rfl)
   obtain ⟨b,OS,QT⟩:=h x M w ad (k*sz) hrow
   refine ⟨l++[b],by simp [hl],fun i y c hy hc=> ?_,fun i c hc=> ?_⟩
   ·
    rcases Nat.lt_trichotomy i k with hi|hi|hi
    · rw [List.getElem?_append_left (by omega)] at hc;exact hp i y c hy hc
    · subst hi;rw [List.getElem?_append_right (by omega),hl] at hc;simp at hc;subst hc;rw [hx] at hy;cases hy;exact OS
    · rw [List.getElem?_eq_none (by simp [hl];omega)] at hc;cases hc
   ·
    rcases Nat.lt_trichotomy i k with hi|hi|hi
    · rw [List.getElem?_append_left (by omega)] at hc;exact hr i c hc
    · subst hi;rw [List.getElem?_append_right (by omega),hl] at hc;simp at hc;subst hc;exact ⟨ad,had,QT⟩
    · rw [List.getElem?_eq_none (by simp [hl];omega)] at hc;cases hc
 obtain ⟨l,hl,hp,hr⟩:=hk ms.length (Nat.le_refl _)
 rw [List.length_map] at hv h1
 refine ⟨l,⟨hl,hp⟩,a,cap,by rw [List.length_map,hl];exact hv,by rw [List.length_map,hl];exact h1,h2,h3,fun i row hrow=> ?_⟩
 rw [List.getElem?_map] at hrow
 cases hb:l[i]? with
 |none=>rw [hb] at hrow;cases hrow
 |some b=>
  rw [hb] at hrow;simp at hrow;subst hrow
  exact ⟨hg b,hr i b hb⟩
end Cp
namespace Go.Proofs.YtppdobdifkefcaaGreatDoor
open Go Go.RowKit Cp Go.Proofs.Tryz
def setAt (n:Int) (l:List Int) (i:Nat):Bool:=decide (0≤l[i]?.getD 0)&&decide (l[i]?.getD 0<n)&&(decide (i=0)||decide (l[i-1]?.getD 0<l[i]?.getD 0))
def Jw (n:Int) (l:List Int):Bool:=allI (setAt n l) l.length
theorem Sk {l:List Int} {v:Int}  :A9 prog 27 [ints l,int v] (bool (l.any fun x=>v==x)):=by
 refine fo func27 rfl ⟨rfl,rfl⟩ fun M0 w0=>(Tr.Fg 0 rfl fun Hz=> ?_)
 refine a2 ?_
 refine Tr.block (Tr.BH [(1,_),(7,_),(8,_)] (Nr rfl) (fun k:Nat=>[(9,int ((k:Nat):Int))]) (fun k:Nat=>k≤(l).length∧((l.take k).any (fun x=>v==x)=false)) (fun k:Nat=>(l).length-k) 0 (⟨Nat.zero_le _,rfl⟩) ⟨ke rfl,trivial⟩ ?_)
 rintro k ⟨BR,AG⟩
 refine ac ?_
 refine Tr.seq ?_
 refine Tr.cn rfl ?_ ?_<;>intro h1 q1
 have Aa:k<(l).length:=AL h1
 obtain ⟨x,AY⟩:=at_ Aa
 refine ac ?_
 refine Tr.seq (Tr.block (Tr.seq (Tr.Ao (co rfl (AA rfl underlying22 Ce (vl rfl) (vl rfl) (by omega) (AU AY)) ?_))))
 · repeat' first|(refine bool_eq ?_;symm;rw [List.any_eq_true];exact ⟨_,List.mem_of_getElem? AY,by simp_all⟩)|(exact Fin.AK (k+1) ⟨⟨Aa,(by rw [List.take_add_one,AY,List.any_append,AG];simp;omega)⟩,by omega⟩ ⟨⟨_,rfl,AE k⟩,ke rfl,ke rfl,ke rfl,trivial⟩)|refine ac ?_|(refine Tr.cn rfl ?_ ?_<;>intro h q)
 have A_:k=(l).length:=by have:=AM h1;omega
 subst A_
 refine a3 ?_
 · refine bool_eq ?_;rw [List.take_length] at AG;exact AG.symm
structure ChS (l:List Gt):Prop where
 fits:∀c∈l,c.fits
 small:(⟨0,0,0,l⟩:QK).small
abbrev chE:Pr:=Cp.ex fun l:List Gt=>fact (ChS l) (M8 l)
abbrev C2 (c:B8):List Pr:=[int c.BA,int c.kind,int c.number,int c.at_,int c.JM.BI,int c.JM.bits,int c.JM.DZ,chE]
structure ZU (es:List Ez) (c:B8):Prop where
 lo:0≤c.BA
 hi:c.BA<(es.length:Nat)
 kind:1≤c.kind∧c.kind≤12
def F9 (es:List Ez) (l:List B8):Prop:=∀c∈l,ZU es c
theorem F9.snoc {es:List Ez} {l:List B8} {c:B8} (h:F9 es l) (hc:ZU es c):F9 es (l++[c]):=by
 intro x hx
 rcases List.mem_append.1 hx with hx|hx
 · exact h x hx
 · simp at hx;subst hx;exact hc
theorem F9.two {es:List Ez} {l:List B8} {c d:B8} (h:F9 es l) (hc:ZU es c) (hd:ZU es d):F9 es (l++[c,d]):=by
 intro x hx
 rcases List.mem_append.1 hx with hx|hx
 · exact h x hx
 · simp at hx;rcases hx with rfl|rfl;exact hc;exact hd
theorem F9.perm {es:List Ez} {l m:List B8} (hp:m.Perm l) (h:F9 es l):F9 es m:=fun c hc=>h c (hp.mem_iff.1 hc)
theorem F9.take {es:List Ez} {l:List B8} {n:Nat} (h:F9 es l):F9 es (l.take n):=fun c hc=>h c (List.mem_of_mem_take hc)
theorem ZV:ChS []:=⟨(fun c h=>by cases h),⟨by show 0≤_;omega,(fun c hc=>by cases hc)⟩⟩
theorem JR:Pr.le (is (.slice none 0 0)) chE:=Bp [] (Dx ZV (AV 15))
theorem ZW {nm:List UInt8} (h:nm∈EK) {a b id key:Int}:Pr.le (eD nm a b id 901 key) chE:=by
 rintro M w v ⟨s,hs,hv⟩
 have hf:=lK (a:=a) (b:=b) (id:=id) (key:=key) (s:=s) h
 exact ⟨_,⟨hf.1,⟨hf.2.chain,hf.2.names⟩⟩,hv⟩
theorem WZ {nm:List UInt8} {a b id to key:Int}:(av nm a b id to key).le (agg [int a,int b,int id,eD nm a b id to key]):=by
 rintro M w v ⟨s,hs,hv⟩
 exact BB (ps:=L4 (Fc nm a b id to key s)) (qs:=[int a,int b,int id,eD nm a b id to key]) ⟨Pr.le_refl _,Pr.le_refl _,Pr.le_refl _,fun M w v h=>⟨s,hs,h⟩,trivial⟩ M w v hv
theorem Wa (c:B8) (M:Av) (w:World) (ad:Addr) (n:Nat) (h:Row M w ad n (C2 c)):∃b:B8,(b.BA=c.BA∧b.kind=c.kind∧b.number=c.number∧b.at_=c.at_∧ChS b.JM.chain)∧Row M w ad n (GR b):=by
 obtain ⟨ch,h1⟩:=ZT (ps:=[int c.BA,int c.kind,int c.number,int c.at_,int c.JM.BI,int c.JM.bits,int c.JM.DZ]) h
 obtain ⟨h2,h3⟩:=UC (ps:=[int c.BA,int c.kind,int c.number,int c.at_,int c.JM.BI,int c.JM.bits,int c.JM.DZ]) h1
 exact ⟨⟨c.BA,c.kind,c.number,c.at_,⟨c.JM.BI,c.JM.bits,c.JM.DZ,ch⟩⟩,⟨rfl,rfl,rfl,rfl,h2⟩,h3⟩
structure eP (es:List Ez) (l:List B8):Prop where
 len:l.length≤7
 any:∀c∈l,rJ es c
theorem OE {es:List Ez} {ms:List B8} (h:F9 es ms) (hl:ms.length≤7):Pr.le (slice 8 (ms.map C2)) (Cp.ex fun l:List B8=>fact (eP es l) (slice 8 (l.map GR))):=by
 intro M w v hv
 obtain ⟨l,⟨h1,h2⟩,h3⟩:=RF Wa (fun _=>rfl) (fun _=>rfl) ms M w v hv
 refine ⟨l,⟨by omega,fun c hc=> ?_⟩,h3⟩
 obtain ⟨i,hi⟩:=List.getElem?_of_mem hc
 obtain ⟨a,ha⟩:=at_ (l:=ms) (k:=i) (by have:=BM hi;omega)
 obtain ⟨g1,g2,g3,g4,g5⟩:=h2 i a c ha hi
 have hm:=h a (List.mem_of_getElem? ha)
 exact ⟨by rw [g1];exact hm.lo,by rw [g1];exact hm.hi,by rw [g2];exact hm.kind,g5.fits,⟨g5.small.chain,g5.small.names⟩⟩
theorem ZX {b:Nat} {s:DS} {e:FC} (hs:WH e.Cu) (hl:1≤e.Cu.length∧e.Cu.length≤3):BJ prog 10 [ptr b 0,agg (JQ e)] (Cp.ex fun l:List B8=>fact (eP e.Cu l) (slice 8 (l.map GR))) (Cw b s) (fun _=>IK 66 b):=by
 refine BJ.of func10 rfl rfl (by exact Nb rfl) fun M0 w0 S rs M1 w1=> ?_
 refine Tr.seq (Tr.Ao (co rfl (Dh rfl (Va rfl)) (cm rfl (Ch.nil (Fin.go (Tr.seq (Tr.Ao (cm rfl (Ch.nil (Fin.go (Tr.seq (Tr.As (tm rfl ?_)))))))))))))
 refine TO.Hu 0 rfl rfl (by decide) (Ag rfl rfl (by decide) rfl (Bx (by omega) (by omega)) ⟨ke rfl,ke rfl,trivial⟩) (tp rfl (ki rfl rfl rfl rfl) (tm rfl (TO.Hu 0 rfl rfl (by decide) (Ag rfl rfl (by decide) rfl (Bx (by omega) (by omega)) ⟨ke rfl,ke rfl,trivial⟩) (tp rfl (ki rfl rfl rfl rfl) (tm rfl (TO.Hu 0 rfl rfl (by decide) (Ag rfl rfl (by decide) rfl (Bx (by omega) (by omega)) ⟨ke rfl,ke rfl,trivial⟩) (tp rfl (ki rfl rfl rfl rfl) (tm rfl (tm rfl (tm rfl (TO.nil (Fin.go (Og 0 3 5 6 7 8 rfl (Tr.seq ?_))))))))))))))
 refine Tr.seq (Tr.Ao (co rfl (Of rfl IP rfl rfl) (co rfl (Gd rfl Oq rfl) (co rfl (Bq rfl underlying27 (vl rfl)) (cm rfl (Ch.nil (Fin.go (Tr.block (Tr.dF 62 8 (Tr.F4 [(0,_),(6,_),(7,_),(8,_),(23,_),(24,_)] ⟨ke rfl,ke rfl,ke rfl,ke rfl,ke rfl,ke rfl,trivial⟩ (fun (k:Nat) (ms:List B8) (s2:DS) v=>[(25,int ((k:Nat):Int)),(5,Ab v (lens (ms.map C2).length))]) (fun (k:Nat) (ms:List B8) (s2:DS) v=>Hp M0 w0 S (Bu 62 8 (ms.map C2) v::Cw b s2::AZ M1 w1::rs)) (fun (k:Nat) (ms:List B8) (s2:DS)=>k≤e.Cu.length∧ms.length≤6*k∧F9 e.Cu ms) (fun (k:Nat) (ms:List B8) (s2:DS)=>e.Cu.length-k) (0) ([]) (_) (.slice none 0 0) (⟨Nat.zero_le _,by simp,fun c hc=>by simp at hc⟩) ⟨ke rfl,⟨_,rfl,VT (by rfl)⟩,trivial⟩ (fun _ _ h=>h) ?_))))))))))
 rintro k ms s2 v ⟨hk1,sG,NM⟩
 refine Tr.seq (Tr.Ao (co rfl (ki rfl rfl rfl rfl) (Ch.nil (Fin.go (Tr.seq ?_)))))
 refine Tr.cn rfl ?_ ?_<;>intro h1 q1
 have Aa:k<e.Cu.length:=by have:=C6.Dj h1;omega
 obtain ⟨x,AY⟩:=at_ Aa
 have hse:=hs k x AY
 have hnm:=List.mem_of_getElem? hse.name
 refine Tr.skip (Fin.go (Tr.seq (Tr.block (Tr.seq (Tr.As (tm rfl (tp rfl (AA rfl underlying27 F6 (vl rfl) (vl rfl) (by omega) (AU AY)) (tp rfl (AF rfl Mt F6 (vl rfl) rfl rfl) ?_))))))))
 refine Tl rfl rfl rfl rfl cM YN (fun b1=> ?_)
 refine tm rfl (TO.Ap 0 rfl rfl rfl (vl rfl) (Va rfl) rfl F6 rfl rfl (TO.freeze 0 10 rfl rfl (TO.nil (Fin.go (Nq 0 5 6 7 8 9 10 23 24 25 rfl (Tr.K6 [(0,_),(6,_),(7,_),(8,_),(9,_),(10,_),(23,_),(24,_),(25,_)] ⟨ke rfl,ke rfl,ke rfl,ke rfl,ke rfl,ke rfl,ke rfl,ke rfl,ke rfl,trivial⟩ (fun (m1:List B8) (s3:DS) v1=>[(5,Ab v1 (lens (m1.map C2).length))]) (fun (m1:List B8) (s3:DS) v1=>Hp M0 w0 S (Bu 62 8 (m1.map C2) v1::Cw b s3::AZ M1 w1::rs)) (fun (m1:List B8) (s3:DS)=>m1.length≤6*k+1∧F9 e.Cu m1) ?_ ?_))))))
 refine Tr.seq (Tr.Ao (cm rfl (cm rfl ?_)))
 refine Ch.cs 31 rfl ?_ ?_<;>intro h2 q2
 refine cy h2 rfl (Of rfl Ll rfl rfl) (cy h2 rfl (Gd rfl ES rfl) (cy h2 rfl (AW rfl (Sk) ⟨ke rfl,ke rfl,trivial⟩) (cy h2 rfl (QO rfl (vl rfl)) (co rfl (SB rfl rfl h2 rfl) (Ch.nil (Fin.go (II 0 5 6 7 8 9 10 23 24 25 36 rfl ?_)))))))
 refine Tr.cn rfl ?_ ?_<;>intro h3 q3
 have Ue:=s2.Ca (n:=2) (by omega)
 refine Tr.As (tm rfl (tm rfl (tm rfl (TO.Hu 1 rfl rfl (by decide) (Ag rfl rfl (by decide) rfl (Bx (by omega) (by omega)) ⟨ke rfl,ke rfl,trivial⟩) (tp rfl (Ad (rows:=[(0,[_]),(1,[_]),(2,[_]),(3,[_])]) rfl TY JD ⟨⟨rfl,(Vo rfl)⟩,⟨⟨rfl,(Vo rfl)⟩,⟨⟨rfl,(Vo rfl)⟩,⟨⟨rfl,(Vo rfl)⟩,trivial⟩⟩⟩⟩ rfl) (tp rfl (AQ (xs:=[.tmp 41]) (rows:=[C2 ⟨((k:Nat):Int),1,12,s2.val 2,⟨0,0,0,[]⟩⟩]) rfl rfl underlying37 Ct Lj rfl (by decide) ⟨⟨(by exact rfl),VL.le (vl rfl) (Pr.le_trans (BB (qs:=C2 _) ⟨Lr,Lr,Lr,Lr,Lr,Lr,Lr,JR,trivial⟩) (AJ _))⟩,trivial⟩ (by decide)) ?_))))))
 refine TO.GJ 0 rfl rfl (by decide) (F7 rfl rfl (by decide) rfl underlying37 Ct Ov Lj rfl (by decide) (by decide) (vl rfl) (Kf rfl) (BD fun _=>rfl) (Nat.zero_lt_succ _) (by simp only [List.length_map,List.length_cons,List.length_nil];unfold maxLen;omega) (by simp only [List.length_map,List.length_cons,List.length_nil];omega)) (fun v1=> ?_)
 refine tm rfl (TO.nil ?_)
 exact Fin.Ci (ms++[⟨((k:Nat):Int),1,12,s2.val 2,⟨0,0,0,[]⟩⟩]) (_) v1 (⟨by simp;omega,NM.snoc ⟨by show 0≤((k:Nat):Int);omega,by show ((k:Nat):Int)<_;omega,by dsimp only;omega⟩⟩) ⟨⟨_,rfl,Cj (by simp)⟩,ke rfl,ke rfl,ke rfl,ke rfl,ke rfl,ke rfl,ke rfl,ke rfl,ke rfl,trivial⟩ (fun _ _ h=>(by rw [List.map_append];exact h))
 refine Tr.skip (Fin.Ci (ms) (_) v (⟨by omega,NM⟩) ⟨⟨_,rfl,Cj (by simp)⟩,ke rfl,ke rfl,ke rfl,ke rfl,ke rfl,ke rfl,ke rfl,ke rfl,ke rfl,trivial⟩ (fun _ _ h=>h))
 iterate 4 refine cnt h2 rfl ?_
 refine co rfl (LZ rfl rfl h2 rfl) (Ch.nil (Fin.go (II 0 5 6 7 8 9 10 23 24 25 36 rfl (Tr.cond rfl (fun h=>nomatch h) (fun _=> ?_)))))
 refine Tr.skip (Fin.Ci (ms) (_) v (⟨by omega,NM⟩) ⟨⟨_,rfl,Cj (by simp)⟩,ke rfl,ke rfl,ke rfl,ke rfl,ke rfl,ke rfl,ke rfl,ke rfl,ke rfl,trivial⟩ (fun _ _ h=>h))
 rintro m1 s3 v1 ⟨sH,Wb⟩
 refine Tr.K6 [(0,_),(6,_),(7,_),(8,_),(9,_),(10,_),(23,_),(24,_),(25,_)] ⟨ke rfl,ke rfl,ke rfl,ke rfl,ke rfl,ke rfl,ke rfl,ke rfl,ke rfl,trivial⟩ (fun (m2:List B8) (s4:DS) v2=>[(5,Ab v2 (lens (m2.map C2).length))]) (fun (m2:List B8) (s4:DS) v2=>Hp M0 w0 S (Bu 62 8 (m2.map C2) v2::Cw b s4::AZ M1 w1::rs)) (fun (m2:List B8) (s4:DS)=>m2.length≤6*k+2∧F9 e.Cu m2) ?_ ?_
 refine Tr.seq (Tr.Ao (cm rfl (cm rfl ?_)))
 refine Ch.cs 45 rfl ?_ ?_<;>intro h4 q4
 refine K4 h4 rfl (cy h4 rfl (ki rfl rfl rfl rfl) (co rfl (SB rfl rfl h4 rfl) (Ch.nil (Fin.go (II 0 5 6 7 8 9 10 23 24 25 48 rfl ?_)))))
 refine Tr.cn rfl ?_ ?_<;>intro h5 q5
 refine Tr.As (tm rfl (tm rfl (tp rfl (Ad (rows:=[(0,[_]),(1,[_]),(2,[_])]) rfl TY JD ⟨⟨rfl,(Vo rfl)⟩,⟨⟨rfl,(Vo rfl)⟩,⟨⟨rfl,(Vo rfl)⟩,trivial⟩⟩⟩ rfl) (tp rfl (AQ (xs:=[.tmp 51]) (rows:=[C2 ⟨((k:Nat):Int),7,2,0,⟨0,0,0,[]⟩⟩]) rfl rfl underlying37 Ct Lj rfl (by decide) ⟨⟨(by exact rfl),VL.le (vl rfl) (Pr.le_trans (BB (qs:=C2 _) ⟨Lr,Lr,Lr,Lr,Lr,Lr,Lr,JR,trivial⟩) (AJ _))⟩,trivial⟩ (by decide)) ?_))))
 refine TO.GJ 0 rfl rfl (by decide) (F7 rfl rfl (by decide) rfl underlying37 Ct Ov Lj rfl (by decide) (by decide) (vl rfl) (Kf rfl) (BD fun _=>rfl) (Nat.zero_lt_succ _) (by simp only [List.length_map,List.length_cons,List.length_nil];unfold maxLen;omega) (by simp only [List.length_map,List.length_cons,List.length_nil];omega)) (fun v2=> ?_)
 refine tm rfl (TO.nil ?_)
 exact Fin.Ci (m1++[⟨((k:Nat):Int),7,2,0,⟨0,0,0,[]⟩⟩]) (_) v2 (⟨by simp;omega,Wb.snoc ⟨by show 0≤((k:Nat):Int);omega,by show ((k:Nat):Int)<_;omega,by dsimp only;omega⟩⟩) ⟨⟨_,rfl,Cj (by simp)⟩,ke rfl,ke rfl,ke rfl,ke rfl,ke rfl,ke rfl,ke rfl,ke rfl,ke rfl,trivial⟩ (fun _ _ h=>(by rw [List.map_append];exact h))
 refine Tr.skip (Fin.Ci (m1) (_) v1 (⟨by omega,Wb⟩) ⟨⟨_,rfl,Cj (by simp)⟩,ke rfl,ke rfl,ke rfl,ke rfl,ke rfl,ke rfl,ke rfl,ke rfl,ke rfl,trivial⟩ (fun _ _ h=>h))
 refine cnt h4 rfl (cnt h4 rfl (co rfl (LZ rfl rfl h4 rfl) (Ch.nil (Fin.go (II 0 5 6 7 8 9 10 23 24 25 48 rfl (Tr.cond rfl (fun h=>nomatch h) (fun _=> ?_)))))))
 refine Tr.skip (Fin.Ci (m1) (_) v1 (⟨by omega,Wb⟩) ⟨⟨_,rfl,Cj (by simp)⟩,ke rfl,ke rfl,ke rfl,ke rfl,ke rfl,ke rfl,ke rfl,ke rfl,ke rfl,trivial⟩ (fun _ _ h=>h))
 rintro m2 s4 v2 ⟨sI,Wc⟩
 refine Tr.K6 [(0,_),(6,_),(7,_),(8,_),(9,_),(10,_),(23,_),(24,_),(25,_)] ⟨ke rfl,ke rfl,ke rfl,ke rfl,ke rfl,ke rfl,ke rfl,ke rfl,ke rfl,trivial⟩ (fun (m3:List B8) (s5:DS) v3=>[(5,Ab v3 (lens (m3.map C2).length))]) (fun (m3:List B8) (s5:DS) v3=>Hp M0 w0 S (Bu 62 8 (m3.map C2) v3::Cw b s5::AZ M1 w1::rs)) (fun (m3:List B8) (s5:DS)=>m3.length≤6*k+3∧F9 e.Cu m3) ?_ ?_
 refine Tr.seq (Tr.Ao (cm rfl (cm rfl ?_)))
 refine Ch.cs 55 rfl ?_ ?_<;>intro h6 q6
 refine K4 h6 rfl (cy h6 rfl (ki rfl rfl rfl rfl) (co rfl (SB rfl rfl h6 rfl) (Ch.nil (Fin.go (II 0 5 6 7 8 9 10 23 24 25 58 rfl ?_)))))
 refine Tr.cn rfl ?_ ?_<;>intro h7 q7
 have hof:=s4.Nt (l:=[2,1]) (by simp)
 simp at hof
 refine Tr.pad (Tr.Hh mixed [none,none,none,none,none,none,none,some (0,2,true,0),none,none,none,none,none,none,some (0,1,true,73),some (73,1,true,5)] (by kernel_rfl) (xm rfl (xm rfl (xo rfl (fun _=>Of rfl VD rfl rfl) (xo rfl (fun _=>Gd rfl Ku rfl) (xo rfl (fun _=>AW rfl (rH) trivial) (xm rfl (xo rfl (fun _=>AQ (xs:=[.const (.int .i64 (2)),.const (.int .i64 (1))]) (rows:=[[_],[_]]) rfl rfl underlying22 Ce z3 rfl (by decide) ⟨⟨(by exact rfl),(Vo rfl)⟩,⟨⟨(by exact rfl),(Vo rfl)⟩,trivial⟩⟩ (by decide)) ?_))))))))
 refine Cx.ef 2 rfl rfl (by decide) (Ag rfl rfl (by decide) rfl (SV (l:=[2,1]) (by simp) (by simp)) ⟨ke rfl,(Kf rfl),trivial⟩) ?_
 refine xo rfl (fun _=>AW rfl (Qx (name:=x.name) (a:=7) (b:=256) (id:=201) (to:=901) (key:=s4.of [2,1]) (lI hnm (.inr ⟨rfl,rfl⟩) (by omega) (by omega) (by omega)) (lJ (.inr ⟨rfl,rfl⟩) (by omega)) (by omega)) ⟨ke rfl,ke rfl,ke rfl,ke rfl,ke rfl,trivial⟩) ?_
 refine xo rfl (fun _=>Of rfl Nw rfl rfl) (xo rfl (fun _=>Gd rfl aG rfl) (xo rfl (fun _=>Bq rfl underlying72 (vl rfl)) (xo rfl (fun _=>Ad (rows:=[(0,[_]),(1,[_]),(4,_),(3,[_])]) rfl TY JD ⟨⟨rfl,(Vo rfl)⟩,⟨⟨rfl,(Vo rfl)⟩,⟨⟨rfl,⟨_,rfl,Pr.le_trans (WZ) (AJ _)⟩⟩,⟨⟨rfl,(Vo rfl)⟩,trivial⟩⟩⟩⟩ rfl) (xo rfl (fun _=>AQ (xs:=[.tmp 71]) (rows:=[C2 ⟨((k:Nat):Int),5,0,((x.ids.length:Nat):Int),⟨7,256,201,[]⟩⟩]) rfl rfl underlying37 Ct Lj rfl (by decide) ⟨⟨(by exact rfl),VL.le (vl rfl) (Pr.le_trans (BB (qs:=C2 _) ⟨Lr,Lr,Lr,Lr,Lr,Lr,Lr,ZW hnm,trivial⟩) (AJ _))⟩,trivial⟩ (by decide)) ?_))))
 refine Cx.ef 1 rfl rfl (by decide) (F7 rfl rfl (by decide) rfl underlying37 Ct Ov Lj rfl (by decide) (by decide) (vl rfl) (Kf rfl) (BD fun _=>rfl) (Nat.zero_lt_succ _) (by simp only [List.length_map,List.length_cons,List.length_nil];unfold maxLen;omega) (by simp only [List.length_map,List.length_cons,List.length_nil];omega)) ?_
 refine Cx.ef 1 rfl rfl (by decide) (Nn rfl rfl (by decide) rfl (vl rfl)) ?_
 refine Cx.nil ⟨rfl,?_⟩
 refine BE.open_ 1 5 rfl rfl (fun v3=> ?_)
 refine BE.done (An.cons (An.cons (An.cons (An.cons (An.map _))))) (Fin.drop 0 ?_)
 exact Fin.Ci (m2++[⟨((k:Nat):Int),5,0,((x.ids.length:Nat):Int),⟨7,256,201,[]⟩⟩]) (_) v3 (⟨by simp;omega,Wc.snoc ⟨by show 0≤((k:Nat):Int);omega,by show ((k:Nat):Int)<_;omega,by dsimp only;omega⟩⟩) ⟨⟨_,rfl,Cj (by simp)⟩,ke rfl,ke rfl,ke rfl,ke rfl,ke rfl,ke rfl,ke rfl,ke rfl,ke rfl,trivial⟩ (fun _ _ h=>(by rw [List.map_append];exact h))
 refine Tr.skip (Fin.Ci (m2) (_) v2 (⟨by omega,Wc⟩) ⟨⟨_,rfl,Cj (by simp)⟩,ke rfl,ke rfl,ke rfl,ke rfl,ke rfl,ke rfl,ke rfl,ke rfl,ke rfl,trivial⟩ (fun _ _ h=>h))
 refine cnt h6 rfl (cnt h6 rfl (co rfl (LZ rfl rfl h6 rfl) (Ch.nil (Fin.go (II 0 5 6 7 8 9 10 23 24 25 58 rfl (Tr.cond rfl (fun h=>nomatch h) (fun _=> ?_)))))))
 refine Tr.skip (Fin.Ci (m2) (_) v2 (⟨by omega,Wc⟩) ⟨⟨_,rfl,Cj (by simp)⟩,ke rfl,ke rfl,ke rfl,ke rfl,ke rfl,ke rfl,ke rfl,ke rfl,ke rfl,trivial⟩ (fun _ _ h=>h))
 rintro m3 s5 v3 ⟨sJ,Sl⟩
 refine Tr.K6 [(0,_),(6,_),(7,_),(8,_),(9,_),(10,_),(23,_),(24,_),(25,_)] ⟨ke rfl,ke rfl,ke rfl,ke rfl,ke rfl,ke rfl,ke rfl,ke rfl,ke rfl,trivial⟩ (fun (m4:List B8) (s6:DS) v4=>[(5,Ab v4 (lens (m4.map C2).length))]) (fun (m4:List B8) (s6:DS) v4=>Hp M0 w0 S (Bu 62 8 (m4.map C2) v4::Cw b s6::AZ M1 w1::rs)) (fun (m4:List B8) (s6:DS)=>m4.length≤6*k+4∧F9 e.Cu m4) ?_ ?_
 refine Tr.seq (Tr.As (tm rfl (tm rfl ?_)))
 refine TO.cases 75 rfl (fun h8=> ?_) (fun h8=> ?_)
 have q8:=C6.Dj h8
 refine TO.HT rfl rfl rfl h8 rfl (by decide) (Of rfl Ll rfl rfl) (TO.HT rfl rfl rfl h8 rfl (by decide) (Gd rfl ES rfl) (TO.HT rfl rfl rfl h8 rfl (by decide) (AW rfl (Sk) ⟨ke rfl,ke rfl,trivial⟩) (tp rfl (SB rfl rfl h8 rfl) (tm rfl ?_))))
 refine TO.cases 80 rfl (fun h9=> ?_) (fun h9=> ?_)
 have q9:=C6.Dj h9
 refine TO.HT rfl rfl rfl h9 rfl (by decide) (Aw rfl (vl rfl)) (TO.Vc 1 rfl rfl rfl h9 rfl rfl (by decide) (Ag rfl rfl (by decide) rfl (Bx (by omega) (by omega)) ⟨ke rfl,ke rfl,trivial⟩) (TO.HT rfl rfl rfl h9 rfl (by decide) (ki rfl rfl rfl rfl) (tp rfl (SB rfl rfl h9 rfl) (TO.nil (Fin.go (II 0 5 6 7 8 9 10 23 24 25 84 rfl ?_))))))
 refine Tr.cn rfl ?_ ?_<;>intro h10 O9
 refine Tr.As (tm rfl (tm rfl (tp rfl (Ad (rows:=[(0,[_]),(1,[_]),(2,[_])]) rfl TY JD ⟨⟨rfl,(Vo rfl)⟩,⟨⟨rfl,(Vo rfl)⟩,⟨⟨rfl,(Vo rfl)⟩,trivial⟩⟩⟩ rfl) (tp rfl (AQ (xs:=[.tmp 87]) (rows:=[C2 ⟨((k:Nat):Int),2,2,0,⟨0,0,0,[]⟩⟩]) rfl rfl underlying37 Ct Lj rfl (by decide) ⟨⟨(by exact rfl),VL.le (vl rfl) (Pr.le_trans (BB (qs:=C2 _) ⟨Lr,Lr,Lr,Lr,Lr,Lr,Lr,JR,trivial⟩) (AJ _))⟩,trivial⟩ (by decide)) ?_))))
 refine TO.GJ 0 rfl rfl (by decide) (F7 rfl rfl (by decide) rfl underlying37 Ct Ov Lj rfl (by decide) (by decide) (vl rfl) (Kf rfl) (BD fun _=>rfl) (Nat.zero_lt_succ _) (by simp only [List.length_map,List.length_cons,List.length_nil];unfold maxLen;omega) (by simp only [List.length_map,List.length_cons,List.length_nil];omega)) (fun v4=> ?_)
 refine tm rfl (TO.nil ?_)
 exact Fin.Ci (m3++[⟨((k:Nat):Int),2,2,0,⟨0,0,0,[]⟩⟩]) (_) v4 (⟨by simp;omega,Sl.snoc ⟨by show 0≤((k:Nat):Int);omega,by show ((k:Nat):Int)<_;omega,by dsimp only;omega⟩⟩) ⟨⟨_,rfl,Cj (by simp)⟩,ke rfl,ke rfl,ke rfl,ke rfl,ke rfl,ke rfl,ke rfl,ke rfl,ke rfl,trivial⟩ (fun _ _ h=>(by rw [List.map_append];exact h))
 refine Tr.skip (Fin.Ci (m3) (_) v3 (⟨by omega,Sl⟩) ⟨⟨_,rfl,Cj (by simp)⟩,ke rfl,ke rfl,ke rfl,ke rfl,ke rfl,ke rfl,ke rfl,ke rfl,ke rfl,trivial⟩ (fun _ _ h=>h))
 have q9:=C6.Dj h9
 refine TO.QJ rfl rfl rfl (A0 h9) rfl (by decide) (TO.QJ rfl rfl rfl (A0 h9) rfl (by decide) (TO.QJ rfl rfl rfl (A0 h9) rfl (by decide) (tp rfl (LZ rfl rfl h9 rfl) (TO.nil (Fin.go (II 0 5 6 7 8 9 10 23 24 25 84 rfl (Tr.cond rfl (fun h=>nomatch h) (fun _=> ?_))))))))
 refine Tr.skip (Fin.Ci (m3) (_) v3 (⟨by omega,Sl⟩) ⟨⟨_,rfl,Cj (by simp)⟩,ke rfl,ke rfl,ke rfl,ke rfl,ke rfl,ke rfl,ke rfl,ke rfl,ke rfl,trivial⟩ (fun _ _ h=>h))
 have q8:=C6.Dj h8
 refine TO.QJ rfl rfl rfl (A0 h8) rfl (by decide) (TO.QJ rfl rfl rfl (A0 h8) rfl (by decide) (TO.QJ rfl rfl rfl (A0 h8) rfl (by decide) (tp rfl (LZ rfl rfl h8 rfl) (tm rfl (TO.QJ rfl rfl rfl (A0 rfl) rfl (by decide) (TO.QJ rfl rfl rfl (A0 rfl) rfl (by decide) (TO.QJ rfl rfl rfl (A0 rfl) rfl (by decide) (tp rfl (LZ rfl rfl rfl rfl) (TO.nil (Fin.go (II 0 5 6 7 8 9 10 23 24 25 84 rfl (Tr.cond rfl (fun h=>nomatch h) (fun _=> ?_)))))))))))))
 refine Tr.skip (Fin.Ci (m3) (_) v3 (⟨by omega,Sl⟩) ⟨⟨_,rfl,Cj (by simp)⟩,ke rfl,ke rfl,ke rfl,ke rfl,ke rfl,ke rfl,ke rfl,ke rfl,ke rfl,trivial⟩ (fun _ _ h=>h))
 rintro m4 s6 v4 ⟨sK,Wd⟩
 refine Tr.seq (Tr.Ao (cm rfl (cm rfl ?_)))
 refine Ch.cs 91 rfl ?_ ?_<;>intro h11 SS
 refine cy h11 rfl (Of rfl Qf rfl rfl) (cy h11 rfl (Gd rfl DC rfl) (cy h11 rfl (ki rfl rfl rfl rfl) (co rfl (SB rfl rfl h11 rfl) (Ch.nil (Fin.go (Nq 0 5 6 7 8 9 23 24 25 95 rfl ?_))))))
 refine Tr.cn rfl ?_ ?_<;>intro h12 Tw
 refine Tr.As (tm rfl (tm rfl (tp rfl (Ad (rows:=[(0,[_]),(1,[_]),(2,[_])]) rfl TY JD ⟨⟨rfl,(Vo rfl)⟩,⟨⟨rfl,(Vo rfl)⟩,⟨⟨rfl,(Vo rfl)⟩,trivial⟩⟩⟩ rfl) (tm rfl (tp rfl (Ad (rows:=[(0,[_]),(1,[_]),(2,[_])]) rfl TY JD ⟨⟨rfl,(Vo rfl)⟩,⟨⟨rfl,(Vo rfl)⟩,⟨⟨rfl,(Vo rfl)⟩,trivial⟩⟩⟩ rfl) (tp rfl (AQ (xs:=[.tmp 98,.tmp 100]) (rows:=[C2 ⟨((k:Nat):Int),3,4,0,⟨0,0,0,[]⟩⟩,C2 ⟨((k:Nat):Int),1,14,0,⟨0,0,0,[]⟩⟩]) rfl rfl underlying37 Ct Lj rfl (by decide) ⟨⟨(by exact rfl),VL.le (vl rfl) (Pr.le_trans (BB (qs:=C2 _) ⟨Lr,Lr,Lr,Lr,Lr,Lr,Lr,JR,trivial⟩) (AJ _))⟩,⟨⟨(by exact rfl),VL.le (vl rfl) (Pr.le_trans (BB (qs:=C2 _) ⟨Lr,Lr,Lr,Lr,Lr,Lr,Lr,JR,trivial⟩) (AJ _))⟩,trivial⟩⟩ (by decide)) ?_))))))
 refine TO.GJ 0 rfl rfl (by decide) (F7 rfl rfl (by decide) rfl underlying37 Ct Ov Lj rfl (by decide) (by decide) (vl rfl) (Kf rfl) (BD fun _=>rfl) (Nat.zero_lt_succ _) (by simp only [List.length_map,List.length_cons,List.length_nil];unfold maxLen;omega) (by simp only [List.length_map,List.length_cons,List.length_nil];omega)) (fun v5=> ?_)
 refine tm rfl (TO.nil (Fin.block (Fin.go (Oh 0 5 6 7 8 23 24 25 rfl (Tr.Ao (SA rfl rfl rfl rfl (by omega) (cm rfl (Ch.nil ?_))))))))
 exact Fin.Dw (k+1) (m4++[⟨((k:Nat):Int),3,4,0,⟨0,0,0,[]⟩⟩,⟨((k:Nat):Int),1,14,0,⟨0,0,0,[]⟩⟩]) (_) v5 (⟨⟨by omega,by simp;omega,Wd.two ⟨by show 0≤((k:Nat):Int);omega,by show ((k:Nat):Int)<_;omega,by dsimp only;omega⟩ ⟨by show 0≤((k:Nat):Int);omega,by show ((k:Nat):Int)<_;omega,by dsimp only;omega⟩⟩,by omega⟩) ⟨⟨_,rfl,AE k⟩,⟨_,rfl,Cj (by simp)⟩,ke rfl,ke rfl,ke rfl,ke rfl,ke rfl,ke rfl,trivial⟩ (fun _ _ h=>(by rw [List.map_append];exact h))
 refine Tr.skip (Fin.block (Fin.go (Tr.Ao (SA rfl rfl rfl rfl (by omega) (cm rfl (Ch.nil (Fin.Dw (k+1) (m4) (_) v4 (⟨⟨by omega,by omega,Wd⟩,by omega⟩) ⟨⟨_,rfl,AE k⟩,⟨_,rfl,Cj (by simp)⟩,ke rfl,ke rfl,ke rfl,ke rfl,ke rfl,ke rfl,trivial⟩ (fun _ _ h=>h))))))))
 refine cnt h11 rfl (cnt h11 rfl (cnt h11 rfl (co rfl (LZ rfl rfl h11 rfl) (Ch.nil (Fin.go (Nq 0 5 6 7 8 9 23 24 25 95 rfl (Tr.cond rfl (fun h=>nomatch h) (fun _=> ?_))))))))
 refine Tr.skip (Fin.block (Fin.go (Tr.Ao (SA rfl rfl rfl rfl (by omega) (cm rfl (Ch.nil (Fin.Dw (k+1) (m4) (_) v4 (⟨⟨by omega,by omega,Wd⟩,by omega⟩) ⟨⟨_,rfl,AE k⟩,⟨_,rfl,Cj (by simp)⟩,ke rfl,ke rfl,ke rfl,ke rfl,ke rfl,ke rfl,trivial⟩ (fun _ _ h=>h))))))))
 have:=h1
 refine Tr.exit (Fin.Ac (Fin.Ac (Fin.Az (Fin.go (Tr.seq (Tr.block ?_))))))
 rcases Nat.eq_zero_or_pos ms.length with h0|h0
 refine Tr.BH [(0,_)] ⟨ke rfl,trivial⟩ (fun _=>[(5,Ab v (lens (ms.map C2).length))]) (fun _=>True) (fun _=>0) () (trivial) ⟨ke rfl,trivial⟩ ?_
 rintro _ _
 refine Tr.seq (Tr.seq (Tr.Ao (cm rfl (co rfl (O3 rfl underlying37 (Kb rfl)) (co rfl (ki rfl rfl rfl rfl) (Ch.nil (Fin.go ?_)))))))
 refine Tr.cn rfl ?_ ?_<;>intro MU Uj
 exfalso;have h_:=C6.Dj MU;rw [List.length_map] at h_;omega
 have:=MU
 refine Tr.exit (Fin.Ac (Fin.Ac (Fin.Az (Fin.go (Tr.seq (Tr.seq ?_))))))
 have hv4:=s2.Ca (n:=4) (by omega)
 refine Tr.As (tm rfl (TO.Hu 1 rfl rfl (by decide) (Ag rfl rfl (by decide) rfl (Bx (by omega) (by omega)) ⟨ke rfl,ke rfl,trivial⟩) (tm rfl (TO.nil (Fin.go (Tr.block (Tr.Gy [(0,_)] ⟨ke rfl,trivial⟩ (fun (q:Int) (s9:DS)=>[(11,int q),(5,Ab v (lens (ms.map C2).length))]) (fun (q:Int) (s9:DS)=>Hp M0 w0 S (Bu 62 8 (ms.map C2) v::Cw b s9::AZ M1 w1::rs)) (fun (q:Int) (s9:DS)=>True) (fun (q:Int) (s9:DS)=>q.toNat) (_) (_)  (trivial) ⟨ke rfl,ke rfl,trivial⟩ (fun _ _ h=>h) ?_)))))))
 rintro q s9  _
 refine Tr.seq (Tr.seq (Tr.Ao (cm rfl (co rfl (ki rfl rfl rfl rfl) (cm rfl ?_)))))
 refine Ch.cs 116 rfl ?_ ?_<;>intro Jz Xv
 refine K4 Jz rfl (cy Jz rfl (O3 rfl underlying37 (Kb rfl)) (cy Jz rfl (ki rfl rfl rfl rfl) (co rfl (SB rfl rfl Jz rfl) (Ch.nil (Fin.go ?_)))))
 refine Tr.cn rfl ?_ ?_<;>intro MV ZC
 exfalso;have h_:=C6.Dj MV;rw [List.length_map] at h_;omega
 have:=MV
 refine Tr.exit (Fin.Ac (Fin.Ac (Fin.Az (Fin.go (Tr.seq (Tr.Yu 0 5 rfl rfl (BD fun _=>rfl) (Tr.Ao (cm rfl (cm rfl (Ch.nil (Fin.go (Tr.ret (Fin.IL 1 _ rfl rfl (Fin.F5 [_] rfl (BK.tmp rfl (Lr)) ?_ (fun _ _ _ _=>rfl)))))))))))))))
 · exact Pr.le_trans (Ai _ _) (OE NM (by omega))
 refine cnt Jz rfl (cnt Jz rfl (cnt Jz rfl (co rfl (LZ rfl rfl Jz rfl) (Ch.nil (Fin.go (Tr.cond rfl (fun h=>nomatch h) (fun _=> ?_)))))))
 refine Tr.exit (Fin.Ac (Fin.Ac (Fin.Az (Fin.go (Tr.seq (Tr.Yu 0 5 rfl rfl (BD fun _=>rfl) (Tr.Ao (cm rfl (cm rfl (Ch.nil (Fin.go (Tr.ret (Fin.IL 1 _ rfl rfl (Fin.F5 [_] rfl (BK.tmp rfl (Lr)) ?_ (fun _ _ _ _=>rfl)))))))))))))))
 · exact Pr.le_trans (Ai _ _) (OE NM (by omega))
 refine Tr.jV (sz:=8) 0 rfl (by intro h_;simp at h_;rw [h_] at h0;simp at h0) fun b9 lR nv hv9 hg9 hm9 hs9=> ?_
 subst hv9
 rw [List.length_map] at hg9 hs9
 refine Tr.U4 [(0,_)] ⟨ke rfl,trivial⟩ (fun (m:Nat)=>[(5,is (.slice (some ⟨b9,0,none⟩) m lR))]) (fun (m:Nat)=>Hp M0 w0 S (AB true b9 62 ((ms.map C2).flatten++nv.map is)::Cw b s2::AZ M1 w1::rs)) (fun (m:Nat)=>1≤m∧m≤ms.length) (fun (m:Nat)=>m) (ms.length)  (⟨h0,Nat.le_refl _⟩) ⟨⟨_,rfl,Pr.le_trans (EB _ _) (Pr.le_of_eq (by rw [List.length_map]))⟩,trivial⟩ (fun _ _ h=>h) ?_
 rintro m  ⟨hm1,hm2⟩
 refine Tr.seq (Tr.seq (Tr.Ao (cm rfl (co rfl (JG rfl underlying37 (vl rfl)) (co rfl (ki rfl rfl rfl rfl) (Ch.nil (Fin.go ?_)))))))
 refine Tr.cn rfl ?_ ?_<;>intro h16 au
 have hm7:7<m:=by have:=C6.Dj h16;omega
 refine Tr.skip (Fin.go (Tr.block (Tr.Ao (cm rfl (cm rfl (co rfl (JG rfl underlying37 (vl rfl)) (mV rfl rfl rfl rfl (by omega) (co rfl (O2 rfl underlying37 Ct (vl rfl) (vl rfl) (by omega) (by omega) (by omega) (by omega)) (cm rfl (Ch.nil (Fin.block ?_)))))))))))
 exact Fin.YG (m-1)  (⟨⟨by omega,by omega⟩,by omega⟩) ⟨⟨_,rfl,Pr.le_of_eq (by congr 2;omega)⟩,ke rfl,trivial⟩ (fun _ _ h=>h)
 have hm7:m≤7:=by have:=C6.Dj h16;omega
 refine Tr.exit (Fin.Ac (Fin.Ac (Fin.Az (Fin.go (Tr.seq (Tr.seq ?_))))))
 have hv4:=s2.Ca (n:=4) (by omega)
 refine Tr.As (tm rfl (TO.Hu 1 rfl rfl (by decide) (Ag rfl rfl (by decide) rfl (Bx (by omega) (by omega)) ⟨ke rfl,ke rfl,trivial⟩) (tm rfl (TO.nil (Fin.go (Tr.block (Tr.Om [(0,_)] ⟨ke rfl,trivial⟩ (fun (q:Int) (ns:List B8) (s9:DS)=>[(11,int q),(5,is (.slice (some ⟨b9,0,none⟩) m lR))]) (fun (q:Int) (ns:List B8) (s9:DS)=>Hp M0 w0 S (AB true b9 62 ((ns.map C2).flatten++nv.map is)::Cw b s9::AZ M1 w1::rs)) (fun (q:Int) (ns:List B8) (s9:DS)=>(ns.length=ms.length∧q≤3)∧F9 e.Cu ns) (fun (q:Int) (ns:List B8) (s9:DS)=>q.toNat) (_) (ms) (_)  (⟨⟨rfl,by omega⟩,NM⟩) ⟨ke rfl,ke rfl,trivial⟩ (fun _ _ h=>h) ?_)))))))
 rintro q ns s9  ⟨⟨hn1,hn3⟩,hn2⟩
 refine Tr.seq (Tr.seq (Tr.Ao (cm rfl (co rfl (ki rfl rfl rfl rfl) (cm rfl ?_)))))
 refine Ch.cs 116 rfl ?_ ?_<;>intro NA Xr
 refine K4 NA rfl (cy NA rfl (JG rfl underlying37 (vl rfl)) (cy NA rfl (ki rfl rfl rfl rfl) (co rfl (SB rfl rfl NA rfl) (Ch.nil (Fin.go ?_)))))
 refine Tr.cn rfl ?_ ?_<;>intro Kc aj
 have hq1:=C6.Dj Kc
 refine Tr.skip (Fin.go (Tr.seq (Tr.block (Tr.seq ?_))))
 have hvm:=s9.Ca (n:=((m:Nat):Int)-1) (by omega)
 refine Tr.As (tm rfl (tm rfl (tp rfl (JG rfl underlying37 (vl rfl)) ?_)))
 refine tp rfl (QN rfl (vl rfl) (vl rfl) ?hin) ?_;case hin=>unfold Jo;omega
 refine TO.Hu 1 rfl rfl (by decide) (Ag rfl rfl (by decide) rfl (Bx (by omega) (by omega)) ⟨ke rfl,ke rfl,trivial⟩) (tm rfl (TO.nil (Fin.go (Fw 0 5 11 12 rfl (Tr.Hh mixed [none,none,none,none,none,none,none,none,none,some (0,0,false,0),none,none,none,some (0,0,false,0),none,some (0,0,true,0),none,some (0,0,true,0)] (by kernel_rfl) ?_)))))
 iterate 4 refine xm rfl ?_
 refine xo rfl (fun _=>Dz rfl (vl rfl) (vl rfl) ?hin) ?_;case hin=>unfold Jo;omega
 refine xm rfl (xm rfl ?_)
 refine xo rfl (fun _=>Dz rfl (vl rfl) (vl rfl) ?hin) ?_;case hin=>unfold Jo;omega
 refine xo rfl (fun _=>BZ rfl underlying37 Ct (vl rfl) (vl rfl) (by omega) (by omega)) (GL 0 rfl rfl (B1 rfl G0 Ct (vl rfl) (Mz (f:=C2) (fun _=>rfl) (by omega)) rfl) (xm rfl (xm rfl (xo rfl (fun _=>BZ rfl underlying37 Ct (vl rfl) (vl rfl) (by omega) (by omega)) (GL 0 rfl rfl (B1 rfl G0 Ct (vl rfl) (Mz (f:=C2) (fun _=>rfl) (by omega)) rfl) (xo rfl (fun _=>BZ rfl underlying37 Ct (vl rfl) (vl rfl) (by omega) (by omega)) ?_))))))
 refine Cx.Ew 0 rfl rfl (BP rfl rfl (vl rfl) (Va rfl) Ct rfl (by rw [Mx (sz:=8) (fun _=>rfl)];omega) (Lw (f:=C2) (fun _=>rfl) (by omega))) ?_
 refine xo rfl (fun _=>BZ rfl underlying37 Ct (vl rfl) (vl rfl) (by omega) (by omega)) ?_
 refine Cx.Ew 0 rfl rfl (BP rfl rfl (vl rfl) (Va rfl) Ct rfl (by rw [Mx (sz:=8) (fun _=>rfl)];simp only [List.length_set];omega) (Lw (f:=C2) (fun _=>rfl) (by simp only [List.length_set];omega))) ?_
 refine Cx.nil ⟨rfl,?_⟩
 refine BE.done (An.cons (An.cons (An.cons (An.map _)))) (Fin.block (Fin.go (FX 0 5 11 rfl (Tr.Ao (cm rfl (mV rfl rfl rfl rfl (by omega) (cm rfl (Ch.nil (Fin.FY (q-1) (_) (_)  (⟨⟨⟨(Lx (by omega) (by omega)).length_eq.trans hn1,by omega⟩,F9.perm (Lx (by omega) (by omega)) hn2⟩,by omega⟩) ⟨⟨_,rfl,int_eq (by omega)⟩,ke rfl,ke rfl,trivial⟩ (fun _ _ h=>h))))))))))
 have:=Kc
 refine Tr.exit (Fin.Ac (Fin.Ac (Fin.Az (Fin.go (Tr.seq (Tr.jW 0 (((ns.take m).map C2).flatten++(((ns.drop m).map C2).flatten++nv.map is)) rfl (by rw [←List.append_assoc,←List.flatten_append,←List.map_append,List.take_append_drop]) ?_))))))
 have hnt:(ns.take m).length=m:=by rw [List.length_take];omega
 refine Tr.Qg (sz:=8) ((ns.take m).map C2) 0 5 rfl rfl (Pr.le_of_eq (by rw [List.length_map,hnt])) (BD fun _=>rfl) (by rw [List.length_map];omega) hm9 (by rw [List.length_append,CM (sz:=8) (BD fun _=>rfl),List.length_map,List.length_map,List.length_map,List.length_drop];omega) ?_
 refine Tr.Ao (cm rfl (cm rfl (Ch.nil (Fin.go (Tr.ret (Fin.IL 1 _ rfl rfl (Fin.F5 [_] rfl (BK.tmp rfl (Lr)) ?_ (fun _ _ _ _=>rfl))))))))
 · exact Pr.le_trans (Ai _ _) (OE hn2.take (by omega))
 refine cnt NA rfl (cnt NA rfl (cnt NA rfl (co rfl (LZ rfl rfl NA rfl) (Ch.nil (Fin.go (Tr.cond rfl (fun h=>nomatch h) (fun _=> ?_)))))))
 refine Tr.exit (Fin.Ac (Fin.Ac (Fin.Az (Fin.go (Tr.seq (Tr.jW 0 (((ns.take m).map C2).flatten++(((ns.drop m).map C2).flatten++nv.map is)) rfl (by rw [←List.append_assoc,←List.flatten_append,←List.map_append,List.take_append_drop]) ?_))))))
 have hnt:(ns.take m).length=m:=by rw [List.length_take];omega
 refine Tr.Qg (sz:=8) ((ns.take m).map C2) 0 5 rfl rfl (Pr.le_of_eq (by rw [List.length_map,hnt])) (BD fun _=>rfl) (by rw [List.length_map];omega) hm9 (by rw [List.length_append,CM (sz:=8) (BD fun _=>rfl),List.length_map,List.length_map,List.length_map,List.length_drop];omega) ?_
 refine Tr.Ao (cm rfl (cm rfl (Ch.nil (Fin.go (Tr.ret (Fin.IL 1 _ rfl rfl (Fin.F5 [_] rfl (BK.tmp rfl (Lr)) ?_ (fun _ _ _ _=>rfl))))))))
 · exact Pr.le_trans (Ai _ _) (OE hn2.take (by omega))
structure Md (n:Int) (k:Nat) (l:List Int):Prop where
 at_:∀j,j<l.length→setAt n l j=true
 lt:∀x∈l,x<(k:Int)
 len:l.length≤k
theorem Md.nil (n:Int) (k:Nat):Md n k []:=⟨fun j hj=>by simp at hj,fun x hx=>by simp at hx,by simp⟩
theorem Md.step {n:Int} {k:Nat} {l:List Int} (h:Md n k l):Md n (k+1) l:=⟨h.at_,fun x hx=>by have:=h.lt x hx;omega,by have:=h.len;omega⟩
theorem Md.snoc {n:Int} {k:Nat} {l:List Int} (h:Md n k l) (hk:(k:Int)<n):Md n (k+1) (l++[(k:Int)]):=by
 refine ⟨fun j hj=> ?_,fun x hx=> ?_,by have:=h.len;simp;omega⟩
 ·
  rw [List.length_append] at hj;simp at hj
  rcases Nat.lt_or_ge j l.length with hl|hl
  ·
   have:=h.at_ j hl
   unfold setAt at this ⊢
   rw [List.getElem?_append_left hl,List.getElem?_append_left (show j-1<l.length by omega)];exact this
  ·
   have:j=l.length:=by omega
   subst this
   unfold setAt
   rw [List.getElem?_append_right (Nat.le_refl _),Nat.sub_self]
   rcases Nat.eq_zero_or_pos l.length with hz|hz
   ·
    obtain rfl:=List.eq_nil_of_length_eq_zero hz
    simp;omega
   ·
    obtain ⟨y,hy⟩:=Cp.at_ (l:=l) (k:=l.length-1) (by omega)
    rw [List.getElem?_append_left (show l.length-1<l.length by omega),hy]
    have:=h.lt y (List.mem_of_getElem? hy)
    simp;omega
 ·
  rcases List.mem_append.1 hx with hx|hx
  · have:=h.lt x hx;omega
  · simp at hx;subst hx;omega
theorem Md.set {n:Int} {k:Nat} {l:List Int} (h:Md n k l):Jw n l=true:=Ba.2 h.at_
structure Fu where
 lo:Int
 hi:Int
 AX:List Int
structure Aq where
 B0:List Fu
 Gr:List Int
 room:List Int
def J5 (w:Fu):List Pr:=[int w.lo,int w.hi,ints w.AX]
abbrev L8 (l:List Fu):Pr:=slice 3 (l.map J5)
def Hq (c:Aq):Pr:=agg [L8 c.B0,ints c.Gr,ints c.room]
instance lS (l:List Int):One (ints l):=TL _ _
def Cr (day:Int) (w:Fu):Bool:=decide (w.lo≤day)&&decide (day<w.hi)
def Aq.has (c:Aq) (n:Int):Bool:=decide (0≤n)&&decide (n<c.room.length)
def Aq.at (c:Aq) (day:Int):Int:=idx (Cr day) c.B0
def GW (n:Int):Bool:=decide (n<0)||decide (n>24)
def HF (w:Fu):Bool:=decide (w.lo<0)||decide (w.lo≥w.hi)||decide (w.hi>40001)
def OG (l:List Int):Prop:=∀(j:Nat) a b,l[j]? =some a→l[j+1]? =some b→a<b
def RG (l:List Fu):Prop:=∀(j:Nat) a b,l[j]? =some a→l[j+1]? =some b→a.hi≤b.lo
open Classical in
noncomputable def Aq.check (c:Aq) (UD:Int):Int:=
 if 32<c.B0.length∨8<c.room.length then 3
 else if c.room.any GW then 2
 else if c.B0.any HF then 47
 else if ¬(RG c.B0∧∀w∈c.B0,OG w.AX) then 6
 else if c.B0.any (fun w=>w.AX.any fun n=> !c.has n) then 2
 else if (c.Gr.length:Int)≠UD∨c.Gr.any (fun n=> !c.has n) then 1
 else 0
noncomputable def Aq.own (c:Aq):Int:=c.check c.Gr.length
theorem NN {β:Type} (p:β→Bool) (l:List β): -1≤idx p l∧idx p l<l.length:=by
 unfold idx
 cases h:l.findIdx? p with
 |none=>simp;omega
 |some i=>
  rw [List.findIdx?_eq_some_iff_getElem] at h
  obtain ⟨h1,_⟩:=h
  simp;omega
theorem ZY {β:Type} {p:β→Bool} {l:List β} (h:0≤idx p l):∃x,l[(idx p l).toNat]? =some x∧p x=true:=by
 unfold idx at*
 cases h':l.findIdx? p with
 |none=>rw [h'] at h;simp at h
 |some i=>
  rw [List.findIdx?_eq_some_iff_getElem] at h'
  obtain ⟨h1,h2,_⟩:=h'
  exact ⟨l[i],by simp,h2⟩
def Aq.NO (c:Aq) (day:Int):Option Fu:=c.B0.find? (Cr day)
theorem L9 {β:Type} (p:β→Bool) (l:List β):l.find? p=if 0≤idx p l then l[(idx p l).toNat]? else none:=by
 unfold idx
 cases h:l.findIdx? p with
 |none=>
  rw [List.findIdx?_eq_none_iff] at h
  rw [if_neg (by simp),List.find?_eq_none]
  intro x hx;simpa using h x hx
 |some i=>
  rw [List.findIdx?_eq_some_iff_getElem] at h
  obtain ⟨h1,h2,h3⟩:=h
  simp only [Int.natCast_nonneg,if_true,Int.toNat_natCast]
  rw [List.getElem?_eq_getElem h1,List.find?_eq_some_iff_getElem]
  exact ⟨h2,i,h1,rfl,fun j hj=>by simpa using h3 j hj⟩
def Aq.may (c:Aq) (n day:Int):Bool:=match c.NO day with|some w=>w.AX.any (fun x=>n==x)|none=>false
theorem bD {w:Fu} {day:Int}  :A9 prog 132 [agg (J5 w),ref [int day]] (bool (Cr day w)):=by
 refine fo func132 rfl ⟨rfl,rfl⟩ fun M0 w0=> ?_
 · repeat' first|exact bool_eq (by simp [Cr,h])|refine ac ?_|(refine Ch.cg rfl rfl rfl ?_ ?_<;>intro h q)
theorem We {c:Aq} {n:Int}  :A9 prog 60 [Hq c,int n] (bool (c.has n)):=by
 refine fo func60 rfl ⟨rfl,rfl⟩ fun M0 w0=> ?_
 · repeat' first|(exact bool_eq (by simp [Aq.has];simp at h;omega))|refine ac ?_|(refine Ch.cg rfl rfl rfl ?_ ?_<;>intro h q)
theorem JS {l:List Fu} {p:Fu→Bool}  :A9 prog 82 [L8 l,QL prog (fun x:Fu=>[agg (J5 x)]) (fun x=>bool (p x))] (int (idx p l)):=by
 refine fo func82 rfl ⟨rfl,rfl⟩ fun M0 w0=>(Tr.Fg 0 rfl fun Hz=> ?_)
 refine a2 ?_
 refine Tr.block (Tr.BH [(0,_),(1,_),(7,_)] (Nr rfl) (fun k:Nat=>[(8,int ((k:Nat):Int))]) (fun k:Nat=>k≤(l).length∧(∀j y,j<k→l[j]? =some y→p y=false)) (fun k:Nat=>(l).length-k) 0 (⟨Nat.zero_le _,fun j y hj=>absurd hj (by omega)⟩) ⟨ke rfl,trivial⟩ ?_)
 rintro k ⟨BR,AG⟩
 refine ac ?_
 refine Tr.seq ?_
 refine Tr.cn rfl ?_ ?_<;>intro h1 q1
 have Aa:k<(l).length:=AL h1
 obtain ⟨x,AY⟩:=at_ Aa
 · repeat' first|exact int_eq (Ey AY (by assumption) AG)|exact Fin.AK (k+1) ⟨⟨Aa,CB AY (by assumption) AG⟩,by omega⟩ ⟨⟨_,rfl,AE k⟩,ke rfl,ke rfl,ke rfl,trivial⟩|refine co rfl (AA rfl underlying33 Nx (vl rfl) (vl rfl) (by omega) (by exact AU (by assumption))) ?_|refine co rfl (AF rfl VH Nx (vl rfl) rfl rfl) (co rfl (E5 x rfl (vl rfl) ⟨ke rfl,trivial⟩) ?_)|refine ac ?_|(refine Tr.cn rfl ?_ ?_<;>intro h q)
 have A_:k=(l).length:=by have:=AM h1;omega
 subst A_
 refine a3 ?_
 · exact int_eq (G3 AG)
theorem Gj {l:List Fu} {p:Fu→Bool}  :A9 prog 57 [L8 l,QL prog (fun x:Fu=>[agg (J5 x)]) (fun x=>bool (p x))] (bool (l.any p)):=by
 refine fo func57 rfl ⟨rfl,rfl⟩ fun M0 w0=> ?_
 refine a2 ?_
 refine co rfl (DK (JS) rfl rfl rfl) ?_
 refine a2 ?_
 · exact bool_eq (K7 p l)
theorem lT {c:Aq} {day:Int}  :A9 prog 112 [Hq c,int day] (int (c.at day)):=by
 refine fo func112 rfl ⟨rfl,rfl⟩ fun M0 w0=> ?_
 refine a2 ?_
 refine co rfl (AW rfl (JS (p:=Cr day)) ⟨ke rfl,⟨_,rfl,CH (bD (w:=⟨0,0,[]⟩) (day:=0)).1 (fun x=>bD (w:=x))⟩,trivial⟩) ?_
 refine a2 ?_
 · exact Lr
theorem lU {c:Aq} {n day:Int}  :A9 prog 111 [Hq c,int n,int day] (bool (c.may n day)):=by
 refine fo func111 rfl ⟨rfl,rfl⟩ fun M0 w0=> ?_
 refine a2 ?_
 refine co rfl (DK (lT) rfl rfl rfl) ?_
 refine ac ?_
 refine ag ?_ ?_<;>intro h1 q1
 obtain ⟨x,hx,hp⟩:=ZY (p:=Cr day) (l:=c.B0) q1
 refine ac ?_
 refine cy h1 rfl (AA rfl underlying33 Nx (vl rfl) (vl rfl) (by omega) (Cf hx)) ?_
 refine ac ?_
 refine cy h1 rfl (DK (Fa) rfl rfl rfl) ?_
 refine ac ?_
 refine FD 6 rfl ?_
 refine ac ?_
 · exact bool_eq (by have h2:=L9 (Cr day) c.B0;rw [if_pos (by unfold Aq.at at q1;exact q1),hx] at h2;unfold Aq.may Aq.NO;rw [h2])
 refine ac ?_
 refine FD 6 rfl ?_
 refine ac ?_
 · exact bool_eq (by have h2:=L9 (Cr day) c.B0;rw [if_neg (by unfold Aq.at at q1;omega)] at h2;unfold Aq.may Aq.NO;rw [h2])
theorem PR {n:Int}  :A9 prog 56 [int n] (bool (GW n)):=by
 refine fo func56 rfl ⟨rfl,rfl⟩ fun M0 w0=> ?_
 · repeat' first|exact bool_eq (by simp [GW,h])|refine ac ?_|(refine Ch.cg rfl rfl rfl ?_ ?_<;>intro h q)
theorem PT {w:Fu}  :A9 prog 58 [agg (J5 w)] (bool (HF w)):=by
 refine fo func58 rfl ⟨rfl,rfl⟩ fun M0 w0=> ?_
 · repeat' first|(refine bool_eq ?_;simp [HF];omega)|refine ac ?_|(refine Ch.cg rfl rfl rfl ?_ ?_<;>intro h q)
theorem JT {c:Aq} {n:Int}  :A9 prog 59 [int n,ref [L8 c.B0,ints c.Gr,ints c.room]] (bool (!c.has n)):=by
 refine fo func59 rfl ⟨rfl,rfl⟩ fun M0 w0=> ?_
 refine a2 ?_
 refine co rfl (DK (We) rfl rfl rfl) ?_
 refine a2 ?_
 · exact Lr
theorem PU {c:Aq} {w:Fu}  :A9 prog 61 [agg (J5 w),ref [fn (.func 59) [ref [L8 c.B0,ints c.Gr,ints c.room]]]] (bool (w.AX.any fun n=> !c.has n)):=by
 refine fo func61 rfl ⟨rfl,rfl⟩ fun M0 w0=> ?_
 refine a2 ?_
 refine co rfl (AW rfl (CS (p:=fun n=> !c.has n)) ⟨ke rfl,⟨_,rfl,CH (JT (c:=c) (n:=0)).1 (fun x=>JT (c:=c) (n:=x))⟩,trivial⟩) ?_
 refine a2 ?_
 · exact Lr
theorem UE {l:List Fu} {k:Nat} {x:Fu} (hx:l[k]? =some x) (hp:∀y,0<k→l[k-1]? =some y→y.hi≤x.lo) (h:∀(j:Nat) a b,j+1<k→l[j]? =some a→l[j+1]? =some b→a.hi≤b.lo):
  ∀(j:Nat) a b,j+1<k+1→l[j]? =some a→l[j+1]? =some b→a.hi≤b.lo:=by
 intro j a b hj ha hb
 by_cases hjk:j+1=k
 · subst hjk;rw [hx] at hb;cases hb;exact hp a (by omega) (by simpa using ha)
 · exact h j a b (by omega) ha hb
theorem NP {l:List Int} {k:Nat} {x:Int} (hx:l[k]? =some x) (hp:∀y,0<k→l[k-1]? =some y→y<x) (h:∀(j:Nat) a b,j+1<k→l[j]? =some a→l[j+1]? =some b→a<b):
  ∀(j:Nat) a b,j+1<k+1→l[j]? =some a→l[j+1]? =some b→a<b:=by
 intro j a b hj ha hb
 by_cases hjk:j+1=k
 · subst hjk;rw [hx] at hb;cases hb;exact hp a (by omega) (by simpa using ha)
 · exact h j a b (by omega) ha hb
theorem ZZ {l:List Fu} {k:Nat} {x:Fu} (hx:l[k]? =some x) (hp:∀(j:Nat) a b,j+1<x.AX.length→x.AX[j]? =some a→x.AX[j+1]? =some b→a<b) (h:∀(j:Nat) a,j<k→l[j]? =some a→OG a.AX):
  ∀(j:Nat) a,j<k+1→l[j]? =some a→OG a.AX:=by
 intro j a hj ha
 by_cases hjk:j=k
 ·
  subst hjk;rw [hx] at ha;cases ha
  intro i u v hu hv
  exact hp i u v (by rcases Nat.lt_or_ge (i+1) x.AX.length with h|h;exact h;rw [List.getElem?_eq_none h] at hv;cases hv) hu hv
 · exact h j a (by omega) ha
theorem K_ {l:List Fu} (h:(∀(j:Nat) a b,j+1<l.length→l[j]? =some a→l[j+1]? =some b→a.hi≤b.lo)∧∀(j:Nat) a,j<l.length→l[j]? =some a→OG a.AX):RG l∧∀w∈l,OG w.AX:=by
 refine ⟨fun j a b ha hb=>h.1 j a b (by rcases Nat.lt_or_ge (j+1) l.length with h|h;exact h;rw [List.getElem?_eq_none h] at hb;cases hb) ha hb,fun w hw=> ?_⟩
 obtain ⟨j,hj,rfl⟩:=List.mem_iff_getElem.1 hw
 exact h.2 j _ hj (List.getElem?_eq_getElem hj)
theorem Wf {l:List Fu} {k:Nat} {x y:Fu} (hk:0<k) (hx:l[k]? =some x) (hy:l[k-1]? =some y) (h:x.lo<y.hi):¬(RG l∧∀w∈l,OG w.AX):=by
 rintro ⟨h1,_⟩
 have:=h1 (k-1) y x hy (by rw [show k-1+1=k by omega];exact hx)
 omega
theorem Wg {l:List Fu} {k i:Nat} {x:Fu} {t u:Int} (hx:l[k]? =some x) (hi:0<i) (ht:x.AX[i]? =some t) (hu:x.AX[i-1]? =some u) (h:t≤u):¬(RG l∧∀w∈l,OG w.AX):=by
 rintro ⟨_,h2⟩
 have:=h2 x (List.mem_of_getElem? hx) (i-1) u t hu (by rw [show i-1+1=i by omega];exact ht)
 omega
theorem OH {c:Aq} {m:Int}  :A9 prog 36 [Hq c,int m] (int (c.check m)):=by
 refine fo func36 rfl ⟨rfl,rfl⟩ fun M0 w0=>(Tr.Gw 0 0 rfl rfl fun HW=>(Tr.Gw 0 1 rfl rfl fun OI=>(Tr.Gw 0 2 rfl rfl fun Sm=> ?_)))
 refine ac ?_
 refine ag ?_ ?_<;>intro h1 q1
 refine a3 ?_
 · refine int_eq ?_;unfold Aq.check;rw [if_pos (by omega)]
 refine an ?_ ?_<;>intro h2 q2
 refine a2 ?_
 · refine int_eq ?_;unfold Aq.check;rw [if_pos (by omega)]
 refine a2 ?_
 refine co rfl (AW rfl (CS (p:=GW)) ⟨ke rfl,⟨_,rfl,CH (PR (n:=0)).1 (fun x=>PR (n:=x))⟩,trivial⟩) ?_
 refine ac ?_
 refine FX 1 2 22 rfl ?_
 refine Tr.cn rfl ?_ ?_<;>intro h3 q3
 refine a2 ?_
 · refine int_eq ?_;unfold Aq.check;rw [if_neg (by omega),if_pos h3]
 refine a2 ?_
 refine co rfl (AW rfl (Gj (p:=HF)) ⟨ke rfl,⟨_,rfl,CH (PT (w:=⟨0,0,[]⟩)).1 (fun x=>PT (w:=x))⟩,trivial⟩) ?_
 refine an ?_ ?_<;>intro h4 q4
 refine a2 ?_
 · refine int_eq ?_;unfold Aq.check;rw [if_neg (by omega),if_neg (A0 h3),if_pos h4]
 refine a2 ?_
 refine Tr.block (Tr.BH [(1,_),(2,_),(27,_),(28,_)] (fc rfl) (fun k:Nat=>[(29,int ((k:Nat):Int))]) (fun k:Nat=>k≤(c.B0).length∧((∀(j:Nat) a b,j+1<k→c.B0[j]? =some a→c.B0[j+1]? =some b→a.hi≤b.lo)∧∀(j:Nat) a,j<k→c.B0[j]? =some a→OG a.AX)) (fun k:Nat=>(c.B0).length-k) 0 (⟨Nat.zero_le _,⟨fun j a b hj=>absurd hj (by omega),fun j a hj=>absurd hj (by omega)⟩⟩) ⟨ke rfl,trivial⟩ ?_)
 rintro k ⟨BR,AG⟩
 refine ac ?_
 refine Tr.seq ?_
 refine Tr.cn rfl ?_ ?_<;>intro h5 q5
 have Aa:k<(c.B0).length:=AL h5
 obtain ⟨x,AY⟩:=at_ Aa
 refine ac ?_
 refine ao ?_
 refine tp rfl (AA rfl underlying33 Nx (vl rfl) (vl rfl) (by omega) (by exact AU (by assumption))) ?_
 refine tp rfl (AF rfl VH Nx (vl rfl) rfl rfl) ?_
 refine Tl rfl rfl rfl rfl z87 YO (fun b1=> ?_)
 refine tm rfl ?_
 refine sf 0 6 ⟨rfl,rfl,rfl⟩ rfl rfl rfl rfl ?_
 refine ao ?_
 refine TT 1 2 5 6 27 28 29 rfl (Tr.X2 [1,2,6,27,28,29] [] (∀y,0<k→c.B0[k-1]? =some y→y.hi≤x.lo) ?_ (fun lV=> ?_))
 refine ag ?_ ?_<;>intro h7 q7
 obtain ⟨y,hy⟩:=at_ (l:=c.B0) (k:=k-1) (by omega)
 refine ac ?_
 refine cy h7 rfl (AA rfl underlying33 Nx (vl rfl) (vl rfl) (by omega) (LR (by omega) hy)) ?_
 refine ac ?_
 refine TT 1 2 6 27 28 29 49 rfl ?_
 refine Tr.cn rfl ?_ ?_<;>intro h8 q8
 refine a2 ?_
 · refine int_eq ?_;unfold Aq.check;rw [if_neg (by omega),if_neg (A0 h3),if_neg (A0 h4),if_pos (Wf (by omega) AY hy (by assumption))]
 refine Tr.skip ?_
 exact Fin.AK () (by intro y' hk' hy';rw [hy] at hy';cases hy';omega) (kk6 rfl)
 refine ac ?_
 refine TT 1 2 6 27 28 29 49 rfl (Tr.cond rfl (fun h=>nomatch h) (fun _=> ?_))
 refine Tr.skip ?_
 exact Fin.AK () (by intro y' hk' hy';omega) (kk6 rfl)
 refine ac ?_
 refine Tr.block (Tr.Fg 51 rfl fun hlt=>(Tr.BH [(1,_),(2,_),(6,_),(27,_),(28,_),(29,_),(51,_),(52,_)] (kk8 rfl) (fun i:Nat=>[(53,int ((i:Nat):Int))]) (fun i:Nat=>i≤(x.AX).length∧(∀(j:Nat) a b,j+1<i→x.AX[j]? =some a→x.AX[j+1]? =some b→a<b)) (fun i:Nat=>(x.AX).length-i) 0 (⟨Nat.zero_le _,fun j a b hj=>absurd hj (by omega)⟩) ⟨ke rfl,trivial⟩ ?_))
 rintro i ⟨PJ,EL⟩
 refine ac ?_
 refine Tr.seq ?_
 refine Tr.cn rfl ?_ ?_<;>intro h9 q9
 have GV:i<(x.AX).length:=AL h9
 obtain ⟨t,HD⟩:=at_ GV
 refine a2 ?_
 refine co rfl (AA rfl underlying22 Ce (vl rfl) (vl rfl) (by omega) (by exact AU (by assumption))) ?_
 refine ac ?_
 refine II 1 2 6 7 8 27 28 29 51 52 53 rfl ?_
 refine ag ?_ ?_<;>intro h10 O9
 obtain ⟨u,hu⟩:=at_ (l:=x.AX) (k:=i-1) (by omega)
 · repeat' first|(refine int_eq ?_;unfold Aq.check;rw [if_neg (by omega),if_neg (A0 h3),if_neg (A0 h4),if_pos (Wg AY (by omega) HD hu (by assumption))])|(exact Fin.AK (i+1) ⟨⟨GV,NP HD (by intro y' hk' hy';rw [hu] at hy';cases hy';omega) EL⟩,by omega⟩ ⟨⟨_,rfl,AE i⟩,ke rfl,ke rfl,ke rfl,ke rfl,ke rfl,ke rfl,ke rfl,ke rfl,trivial⟩)|refine cy h10 rfl (AA rfl underlying22 Ce (vl rfl) (vl rfl) (by omega) (LR (by omega) hu)) ?_|refine ac ?_|(refine Tr.cn rfl ?_ ?_<;>intro h q)
 refine ac ?_
 refine Nq 1 2 6 27 28 29 51 52 53 69 rfl ?_
 refine a2 ?_
 exact Fin.AK (i+1) ⟨⟨GV,NP HD (by intro y' hk' hy';omega) EL⟩,by omega⟩ ⟨⟨_,rfl,AE i⟩,ke rfl,ke rfl,ke rfl,ke rfl,ke rfl,ke rfl,ke rfl,ke rfl,trivial⟩
 have Kz:i=(x.AX).length:=by have:=AM h9;omega
 subst Kz
 refine a2 ?_
 exact Fin.AK (k+1) ⟨⟨Aa,⟨UE AY lV AG.1,ZZ AY EL AG.2⟩⟩,by omega⟩ ⟨⟨_,rfl,AE k⟩,ke rfl,ke rfl,ke rfl,ke rfl,trivial⟩
 have A_:k=(c.B0).length:=by have:=AM h5;omega
 subst A_
 refine ac ?_
 refine ao ?_
 refine Tl rfl rfl rfl rfl z71 pG (fun b2=> ?_)
 refine sf 0 9 ⟨rfl,rfl,rfl⟩ rfl rfl rfl rfl ?_
 refine ao ?_
 · repeat' first|(refine int_eq ?_;unfold Aq.check;rw [if_neg (by omega),if_neg (A0 h3),if_neg (A0 h4),if_neg (not_not_intro (K_ AG)),if_pos (by assumption)])|(refine int_eq ?_;unfold Aq.check;rw [if_neg (by omega),if_neg (A0 h3),if_neg (A0 h4),if_neg (not_not_intro (K_ AG)),if_neg (A0 (by assumption)),if_pos (.inl (by assumption))])|(refine int_eq ?_;unfold Aq.check;rw [if_neg (by omega),if_neg (A0 h3),if_neg (A0 h4),if_neg (not_not_intro (K_ AG)),if_neg (A0 (by assumption)),if_pos (.inr (by assumption))])|(refine int_eq ?_;unfold Aq.check;rw [if_neg (by omega),if_neg (A0 h3),if_neg (A0 h4),if_neg (not_not_intro (K_ AG)),if_neg (A0 (by assumption)),if_neg (not_or.2 ⟨not_not_intro (by assumption),A0 (by assumption)⟩)])|refine co rfl (AW rfl (Gj (p:=fun w=>w.AX.any fun n=> !c.has n)) ⟨ke rfl,⟨_,rfl,CH (PU (c:=c) (w:=⟨0,0,[]⟩)).1 (fun x=>PU (c:=c) (w:=x))⟩,trivial⟩) ?_|refine cy h rfl (AW rfl (CS (p:=fun n=> !c.has n)) ⟨ke rfl,⟨_,rfl,CH (JT (c:=c) (n:=0)).1 (fun x=>JT (c:=c) (n:=x))⟩,trivial⟩) ?_|refine ac ?_|(refine Tr.cn rfl ?_ ?_<;>intro h q)|(refine Ch.cg rfl rfl rfl ?_ ?_<;>intro h q)
theorem lW {c:Aq}  :A9 prog 109 [Hq c] (int c.own):=by
 refine fo func109 rfl ⟨rfl,rfl⟩ fun M0 w0=> ?_
 refine a2 ?_
 refine co rfl (DK (OH) rfl rfl rfl) ?_
 refine a2 ?_
 · exact Lr
def DP (n d:Int) (room:Nat→Bool):Nat→List Fu→Option Int
 |_,[]=>none
 |i,w::r=>if d<w.hi∧w.AX.any (fun x=>n==x)∧room i then some (max d w.lo) else DP n d room (i+1) r
def Aq.next (c:Aq) (n day:Int) (room:Nat→Bool):Option Int:=DP n (max day 0) room 0 c.B0
theorem Sn {β:Type} {l:List β} {k:Nat} {x:β} (h:l[k]? =some x):l.drop k=x::l.drop (k+1):=by
 have hk:k<l.length:=by rcases Nat.lt_or_ge k l.length with h'|h';exact h';rw [List.getElem?_eq_none h'] at h;cases h
 rw [List.drop_eq_getElem_cons hk]
 rw [List.getElem?_eq_getElem hk] at h
 simp at h;rw [h]
theorem PV {n d:Int} {room:Nat→Bool} {l:List Fu} {k:Nat} {x:Fu} (h:l[k]? =some x) (h1:d<x.hi) (h2:x.AX.any (fun y=>n==y)=true) (h3:room k=true):DP n d room k (l.drop k)=some (max d x.lo):=by
 rw [Sn h,DP,if_pos ⟨h1,h2,h3⟩]
theorem J6 {n d:Int} {room:Nat→Bool} {l:List Fu} {k:Nat} {x:Fu} (h:l[k]? =some x) (h':¬(d<x.hi∧x.AX.any (fun y=>n==y)=true∧room k=true)):DP n d room k (l.drop k)=DP n d room (k+1) (l.drop (k+1)):=by
 rw [Sn h,DP,if_neg h']
theorem eR {c:Aq} {n day:Int} {room:Nat→Bool}  :A9 prog 53 [Hq c,int n,int day,QL prog (fun i:Fin c.B0.length=>[int ((i.1:Nat):Int)]) (fun i=>bool (room i.1))] (Iv [int ((c.next n day room).getD 0),bool (c.next n day room).isSome]):=by
 refine fo func53 rfl ⟨rfl,rfl⟩ fun M0 w0=>(Tr.Gw 0 0 rfl rfl fun HW=> ?_)
 refine a2 ?_
 refine co rfl (LN rfl (vl rfl) (vl rfl)) ?_
 refine a2 ?_
 refine Tr.block (Tr.BH [(1,_),(2,_),(3,_),(15,_),(16,_)] (kk5 rfl) (fun k:Nat=>[(17,int ((k:Nat):Int))]) (fun k:Nat=>k≤(c.B0).length∧(c.next n day room=DP n (max day 0) room k (c.B0.drop k))) (fun k:Nat=>(c.B0).length-k) 0 (⟨Nat.zero_le _,rfl⟩) ⟨ke rfl,trivial⟩ ?_)
 rintro k ⟨BR,AG⟩
 refine ac ?_
 refine Tr.seq ?_
 refine Tr.cn rfl ?_ ?_<;>intro h1 q1
 have Aa:k<(c.B0).length:=AL h1
 obtain ⟨x,AY⟩:=at_ Aa
 refine ac ?_
 refine ao ?_
 refine tp rfl (AA rfl underlying33 Nx (vl rfl) (vl rfl) (by omega) (by exact AU (by assumption))) ?_
 refine tp rfl (AF rfl VH Nx (vl rfl) rfl rfl) ?_
 refine Tl rfl rfl rfl rfl z87 YO (fun b1=> ?_)
 refine tm rfl ?_
 refine sf 0 11 ⟨rfl,rfl,rfl⟩ rfl rfl rfl rfl ?_
 refine ao ?_
 refine Oh 1 2 3 10 11 15 16 17 rfl ?_
 refine ag ?_ ?_<;>intro h2 q2
 refine ac ?_
 refine cy h2 rfl (DK (Fa) rfl rfl rfl) ?_
 refine ag ?_ ?_<;>intro h3 q3
 refine ac ?_
 refine cy h3 rfl (E5 ⟨k,Aa⟩ rfl (vl rfl) ⟨ke rfl,trivial⟩) ?_
 refine ac ?_
 refine Oh 1 2 3 11 15 16 17 37 rfl ?_
 refine Tr.cn rfl ?_ ?_<;>intro h4 q4
 refine ac ?_
 refine co rfl (LN rfl (vl rfl) (vl rfl)) ?_
 refine ac ?_
 refine CY 8 9 rfl (Tr.ret (Fin.Ah (Fin.AH (Fin.AH (Fin.Ah (Fin.AH (Fin.Eg rfl (DA.Ht _ _) rfl ?_ rfl ?_)))))))
 · refine int_eq ?_;rw [AG,PV AY (by assumption) (by assumption) (by assumption)];rfl
 · refine bool_eq ?_;rw [AG,PV AY (by assumption) (by assumption) (by assumption)];rfl
 refine a2 ?_
 exact Fin.AK (k+1) ⟨⟨Aa,(by rw [AG];exact J6 AY (by rintro ⟨ha,hb,hc⟩;simp_all))⟩,by omega⟩ ⟨⟨_,rfl,AE k⟩,ke rfl,ke rfl,ke rfl,ke rfl,ke rfl,trivial⟩
 refine ac ?_
 refine Oh 1 2 3 11 15 16 17 37 rfl ?_
 refine a2 ?_
 exact Fin.AK (k+1) ⟨⟨Aa,(by rw [AG];exact J6 AY (by rintro ⟨ha,hb,hc⟩;simp_all))⟩,by omega⟩ ⟨⟨_,rfl,AE k⟩,ke rfl,ke rfl,ke rfl,ke rfl,ke rfl,trivial⟩
 refine ac ?_
 refine Oh 1 2 3 11 15 16 17 37 rfl ?_
 refine a2 ?_
 exact Fin.AK (k+1) ⟨⟨Aa,(by rw [AG];exact J6 AY (by rintro ⟨ha,hb,hc⟩;omega))⟩,by omega⟩ ⟨⟨_,rfl,AE k⟩,ke rfl,ke rfl,ke rfl,ke rfl,ke rfl,trivial⟩
 have A_:k=(c.B0).length:=by have:=AM h1;omega
 subst A_
 refine a2 ?_
 refine Tr.ret (Fin.Eg rfl (DA.Ht _ _) rfl ?_ rfl ?_)
 · refine int_eq ?_;rw [AG,List.drop_length];rfl
 · refine bool_eq ?_;rw [AG,List.drop_length];rfl
end Go.Proofs.YtppdobdifkefcaaGreatDoor
