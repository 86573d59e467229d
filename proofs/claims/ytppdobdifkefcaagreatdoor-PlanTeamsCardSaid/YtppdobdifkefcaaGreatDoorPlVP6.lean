/-
  PlanTeams: whatever the input, the law of this name returns true and its arguments read as before; the table of trailing zeros is tied to the program. No conditions.
-/
import Derived.Test.YtppdobdifkefcaaGreatDoorTie
import Derived.Test.YtppdobdifkefcaaGreatDoorCards
import Derived.LaidMore
import Derived.OpenShut
import Derived.Stop.Joined
import Derived.ProofKit
import Derived.Test.YtppdobdifkefcaaGreatDoorPlVP5
set_option linter.all false
set_option maxRecDepth 40000
set_option maxHeartbeats 16000000
namespace Go.Proofs.YtppdobdifkefcaaGreatDoor
open Go Go.RowKit Cp Go.Proofs.Tryz
-- bits as s7 are mB (behind s8.lean)
def bK (p:Nat→Bool):Nat→BitVec 32
 |0=>0#32
 |k+1=>if p k then Sx (bK p k) k else bK p k
theorem Rf (p:Nat→Bool):∀(k:Nat) {j:Nat},k≤32→(bK p k).getLsbD j=(decide (j<k)&&p j)
 |0,j,_=>by simp [bK]
 |k+1,j,hk=>by
  have ih:= @Rf p k j (by omega)
  unfold bK
  split
  next h=>
   rw [RT (by omega),ih]
   by_cases hj:k=j
   · subst hj;simp [h]
   ·
    by_cases h2:j<k
    ·
     have:j<k+1:=by omega
     simp [h2,this,hj]
    ·
     have:¬j<k+1:=by omega
     simp [h2,this,hj]
  next h=>
   rw [ih]
   by_cases hj:k=j
   · subst hj;simp at h;simp [h]
   ·
    by_cases h2:j<k
    ·
     have:j<k+1:=by omega
     simp [h2,this]
    ·
     have:¬j<k+1:=by omega
     simp [h2,this]
def Du (n:Nat) (l:List BU):List (BitVec 32):=(List.range n).map fun b=>bK (fun a=>Cd l n a b) n
theorem CX (n:Nat) (l:List BU):(Du n l).length=n:=by unfold Du;simp
theorem E0 {n:Nat} {l:List BU} (hn:n≤32):DU n (Du n l) (Cd l n):=by
 refine ⟨CX n l,fun b x hx a=> ?_⟩
 unfold Du at hx
 rw [List.getElem?_map] at hx
 rcases Nat.lt_or_ge b n with hb|hb
 ·
  rw [List.getElem?_range hb] at hx
  simp only [Option.map_some,Option.some.injEq] at hx
  subst hx
  exact Rf _ n hn
 · rw [List.getElem?_eq_none (by simpa using hb)] at hx;cases hx
theorem Rh {n:Nat} {B C:List (BitVec 32)} {M:Nat→Nat→Bool} (h:DU n B M) (h':DU n C M):B=C:=by
 apply List.ext_getElem?
 intro b
 rcases Nat.lt_or_ge b n with hb|hb
 ·
  obtain ⟨x,hx⟩:=at_ (l:=B) (k:=b) (by rw [h.1];exact hb)
  obtain ⟨y,hy⟩:=at_ (l:=C) (k:=b) (by rw [h'.1];exact hb)
  rw [hx,hy]
  congr 1
  exact BitVec.eq_of_getLsbD_eq fun i _=>by rw [h.2 b x hx,h'.2 b y hy]
 · rw [List.getElem?_eq_none (by rw [h.1];exact hb),List.getElem?_eq_none (by rw [h'.1];exact hb)]
theorem UO {l:List BU} {k:Nat} {r:BU} (h:l[k]? =some r) (a b:Nat):H9 (l.take (k+1)) a b=(H9 (l.take k) a b||(decide (r.fst=(a:Int))&&decide (r.thn=(b:Int)))):=by
 unfold H9;rw [List.take_add_one,h,List.any_append];simp
theorem Ri {n:Nat} {B:List (BitVec 32)} {l:List BU} {k:Nat} {r:BU} {x:BitVec 32} (h:DU n B (H9 (l.take k))) (hr:l[k]? =some r) (hf:0≤r.fst∧r.fst<n) (ht:0≤r.thn) (hx:B[r.thn.toNat]? =some x) (hn:n≤32):DU n (B.set r.thn.toNat (Sx x r.fst.toNat)) (H9 (l.take (k+1))):=by
 refine Jb (W9 h hx (f:=r.fst.toNat) (by omega) hn) fun a b _ _=> ?_
 rw [UO hr]
 congr 1
 rw [decide_eq_decide.2 (show r.fst.toNat=a↔r.fst=(a:Int) by omega),decide_eq_decide.2 (show r.thn.toNat=b↔r.thn=(b:Int) by omega)]
def Gm (i:Nat) (A:List (BitVec 32)) (k:Nat):List (BitVec 32):=A.set k (Sx (A.getD k 0#32) i)
def Hs (B:List (BitVec 32)):Nat→List (BitVec 32)
 |0=>List.replicate B.length 0#32
 |i+1=>(Mh (B.getD i 0#32)).foldl (Gm i) (Hs B i)
theorem KB (i:Nat):∀(ks:List Nat) (A:List (BitVec 32)),(ks.foldl (Gm i) A).length=A.length
 |[],_=>rfl
 |k::ks,A=>by rw [List.foldl_cons,KB i ks];unfold Gm;rw [List.length_set]
theorem GC (B:List (BitVec 32)):∀i,(Hs B i).length=B.length
 |0=>List.length_replicate
 |i+1=>by unfold Hs;rw [KB,GC B i]
theorem UP {B:List (BitVec 32)} {i:Nat} {x:BitVec 32} (h:B[i]? =some x):Hs B (i+1)=(Mh x).foldl (Gm i) (Hs B i):=by
 rw [Hs,List.getD_eq_getElem?_getD,h];rfl
def Gs (B:List (BitVec 32)) (s:BitVec 32):Nat→BitVec 32
 |0=>0#32
 |k+1=>if (!s.getLsbD k&&(B.getD k 0#32&&&~~~s==0#32))=true then Sx (Gs B s k) k else Gs B s k
theorem XO {B:List (BitVec 32)} {s x:BitVec 32} {k:Nat} (hx:B[k]? =some x) (h1:s.getLsbD k=false) (h2:(x&&&~~~s==0#32)=true):Gs B s (k+1)=Sx (Gs B s k) k:=by
 rw [Gs,List.getD_eq_getElem?_getD,hx,if_pos];rw [h1];simpa using h2
theorem Zx {B:List (BitVec 32)} {s x:BitVec 32} {k:Nat} (hx:B[k]? =some x) (h:s.getLsbD k=true∨(x&&&~~~s==0#32)=false):Gs B s (k+1)=Gs B s k:=by
 rw [Gs,List.getD_eq_getElem?_getD,hx,if_neg]
 intro hc
 rw [Bool.and_eq_true] at hc
 rcases h with h|h
 · rw [h] at hc;cases hc.1
 · have:=hc.2;rw [show (some x).getD 0#32=x from rfl,h] at this;cases this
theorem XP (B:List (BitVec 32)) (s:BitVec 32):∀k,Gs B s k=bK (fun j=> !s.getLsbD j&&(B.getD j 0#32&&&~~~s==0#32)) k
 |0=>rfl
 |k+1=>by unfold Gs bK;rw [XP B s k]
theorem Zy {n:Int} {l:List BU} {s:BitVec 32} {d:List Int} (hv:Ar n l=0) (hs:Km n.toNat s d) (hc:Fe l d=true) (j:Nat):(Gs (Du n.toNat l) s n.toNat).getLsbD j=(decide (j<n.toNat)&&Ph l d true j):=by
 obtain ⟨h0,_⟩:=CV hv
 rw [XP,Rf _ _ (by omega)]
 by_cases hj:j<n.toNat
 ·
  obtain ⟨x,hx⟩:=at_ (l:=Du n.toNat l) (k:=j) (by rw [CX];exact hj)
  rw [Zq hv (E0 (by omega)) hs hc hx hj,List.getD_eq_getElem?_getD,hx];rfl
 · simp [hj]
theorem XQ {n:Int} {l:List BU} {k:Nat} {s:BitVec 32} (hv:Ar n l=0) (hk:k<n.toNat) (hs:Km n.toNat s (BW n.toNat l k).2):
  Gs (Du n.toNat l) s n.toNat≠0#32∧Ej (Gs (Du n.toNat l) s n.toNat)<n.toNat∧(BW n.toNat l (k+1)).1=(BW n.toNat l k).1++[((Ej (Gs (Du n.toNat l) s n.toNat):Nat):Int)]∧Km n.toNat (Sx s (Ej (Gs (Du n.toNat l) s n.toNat))) (BW n.toNat l (k+1)).2:=by
 obtain ⟨h0,_⟩:=CV hv
 have hr:=(D6 hv k (by omega)).1
 obtain ⟨h1,h2,h3⟩:=RY hv hk (Zy hv hs hr.cl)
 refine ⟨h1,h2,by rw [h3],?_⟩
 rw [h3]
 exact XD hs (by omega)
abbrev bits (B:List (BitVec 32)):Pr:=slice 1 (B.map fun x=>[u32 x])
def fM (a b:BU):Int:=dN [Qn a.fst b.fst,Qn a.thn b.thn]
theorem OM {a b:BU}:decide (fM a b≥0)= !EM a b:=by
 unfold fM EM
 rw [Bool.eq_iff_iff,decide_eq_true_eq]
 simp only [dN,Qn]
 repeat' split
 all_goals (simp;try omega)
theorem He {B:List (BitVec 32)} {i:Int} {x:BitVec 32} (h:B[i.toNat]? =some x):(B.map fun x=>u32 x)[0+i.toNat*1]? =some (u32 x):=by rw [Nat.zero_add,Nat.mul_one,List.getElem?_map,h];rfl
theorem MM {B:List (BitVec 32)} {i:Int} {x y:BitVec 32} (h:B[i.toNat]? =some x):(B.map fun x=>u32 x).take (0+i.toNat*1)++[u32 y]++(B.map fun x=>u32 x).drop (0+i.toNat*1+1)=(B.set i.toNat y).map fun x=>u32 x:=by
 have hl:i.toNat<B.length:=by rcases Nat.lt_or_ge i.toNat B.length with h2|h2;exact h2;rw [List.getElem?_eq_none h2] at h;cases h
 rw [Nat.zero_add,Nat.mul_one,List.set_eq_take_append_cons_drop,if_pos hl]
 simp [List.map_take,List.map_drop]
theorem NW (B:List (BitVec 32)):(B.map fun x=>u32 x)=(B.map fun x=>[u32 x]).flatten++([]:List Value).map is:=by
 induction B with
 |nil=>rfl
 |cons x B ih=>simp at ih ⊢;exact ih
theorem NX (n:Nat):(List.replicate n (Value.int .u32 0)).map is=(List.replicate n 0#32).map fun x=>u32 x:=by rw [List.map_replicate,List.map_replicate];rfl
theorem Pz {B:List (BitVec 32)} {i:Nat} {x:BitVec 32} (h:B[i]? =some x):(B.map fun x=>[u32 x])[((i:Nat):Int).toNat]? =some [u32 x]:=by rw [Int.toNat_natCast,List.getElem?_map,h];rfl
theorem UQ {i k:Nat} {pre:List Nat} {A:List (BitVec 32)} {y:BitVec 32} (h:(pre.foldl (Gm i) A)[k]? =some y):(pre.foldl (Gm i) A).set k (Sx y i)=(pre++[k]).foldl (Gm i) A:=by
 rw [List.foldl_append]
 show _=(pre.foldl (Gm i) A).set k (Sx ((pre.foldl (Gm i) A).getD k 0#32) i)
 rw [List.getD_eq_getElem?_getD,h];rfl
theorem fN {n:Nat} {r:BU} (h:C3 n r=false):(0≤r.fst∧r.fst<n)∧(0≤r.thn∧r.thn<n)∧r.fst≠r.thn:=by
 unfold C3 at h;rw [decide_eq_false_iff_not] at h;omega
theorem fO {ps qs:List Pr} (h:LX ps qs):Pr.le (ref ps) (ref qs):=fun M w v ⟨a,h1,h2⟩=>⟨a,h1,fun i q hq=>by
 obtain ⟨p,hp,hle⟩:=h.at_ i q hq
 obtain ⟨u,g1,g2⟩:=h2 i p hp
 exact ⟨u,g1,g2.1,g2.2.1,hle _ _ _ g2.2.2⟩⟩
theorem fP {xs pre:List Nat} {x:Nat} (h:(pre++[x])<+:xs):x∈xs:=h.subset (by simp)
theorem Rj {a b:BU}  :A9 prog 75 [agg (RP a),agg (RP b)] (int (fM a b)):=by
 refine fo func75 rfl ⟨rfl,rfl⟩ fun M0 w0=> ?_
 refine a2 ?_
 refine co rfl (DK (Vw) rfl rfl rfl) ?_
 refine ac ?_
 refine co rfl (DK (Vw) rfl rfl rfl) (co rfl (AQ (xs:=[.tmp 9,.tmp 14]) (rows:=[[_],[_]]) rfl rfl underlying22 Ce z3 rfl (by decide) ⟨⟨(by exact rfl),(Vo rfl)⟩,⟨⟨(by exact rfl),(Vo rfl)⟩,trivial⟩⟩ (by decide)) ?_)
 refine co rfl (AW rfl (ku (l:=[Qn a.fst b.fst,Qn a.thn b.thn])) ⟨(Kf rfl),trivial⟩) ?_
 refine ac ?_
 refine FD 4 rfl ?_
 refine ac ?_
 · exact Lr
theorem UR {n:Nat} {l:List BU} (hn:n≤24) (hbd:∀r∈l,C3 n r=false):BJ Tryz.prog 76 [int ((n:Nat):Int),reqs l] (ref [int ((n:Nat):Int),bits (Du n l),bits (Hs (Du n l) n)]) (ER) (fun _=>ER):=by
 refine BJ.ofM Tryz.func76 rfl rfl (by exact Nat.le_of_ble_eq_true rfl) fun M0 w0 S rs M1 w1=> ?_
 refine Tr.Fg 1 rfl fun V9=> ?_
 refine Tr.seq ?_
 refine Tr.Ao ?_
 refine Ch.op rfl rfl (by decide) (Be rfl (vl rfl)) ?_
 refine Ch.nil ?_
 refine Fin.go ?_
 refine Tr.seq ?_
 refine Tr.pad ?_
 refine Tr.pad ?_
 refine Tr.pad ?_
 refine Tr.pad ?_
 refine Tr.Hh mixed [none,none,some (0,0,true,14),none,some (0,1,true,16),some (0,2,true,.three 17 14 16),some (.three 17 14 16,2,true,.three 18 14 16),some (0,3,true,5),some (5,3,true,.two 5 18)] (by kernel_rfl) ?_
 refine Cx.op rfl rfl (by decide) (fun _=>Aw rfl (vl rfl)) ?_
 refine Cx.op rfl rfl (by decide) (fun _=>Aw rfl (vl rfl)) ?_
 refine Cx.ef 0 rfl rfl (by decide) (XL rfl rfl (by decide) rfl Tryz.underlying148 Ee aL i_ rfl (vl rfl) (vl rfl) (by unfold maxLen;omega) (by omega)) ?_
 refine Cx.op rfl rfl (by decide) (fun _=>Aw rfl (vl rfl)) ?_
 refine Cx.ef 1 rfl rfl (by decide) (XL rfl rfl (by decide) rfl Tryz.underlying148 Ee aL i_ rfl (vl rfl) (vl rfl) (by unfold maxLen;omega) (by omega)) ?_
 refine Cx.ef 2 rfl rfl (by decide) (fF (d:=17) (s:=14) (t:=16) (q:=any) rfl (by decide) (by decide) (fun _ _ _ _ _ _=>trivial) rfl rfl rfl (by decide) (by decide) (fun v1 v2=>Rc rfl rfl (by decide) (fun _=>Ad (rows:=[(0,[_]),(1,[_]),(2,[_])]) rfl jD jE ⟨⟨rfl,VL.le (vl rfl) (AD _)⟩,⟨⟨rfl,VL.le (vl rfl) (AD _)⟩,⟨⟨rfl,VL.le (vl rfl) (AD _)⟩,trivial⟩⟩⟩ rfl))) ?_
 refine Cx.ef 2 rfl rfl (by decide) (Zu rfl rfl (by decide) rfl (by decide) (by decide)) ?_
 refine Cx.ef 3 rfl rfl (by decide) (Ex rfl rfl (by decide) rfl pO i9) ?_
 refine Cx.Ew 3 rfl rfl (UM rfl rfl rfl (by decide) rfl rfl i7 rfl) ?_
 refine Cx.nil ⟨rfl,?_⟩
 refine BE.S4 14 rfl (fun v14=> ?_)
 refine BE.S4 16 rfl (fun v16=> ?_)
 refine BE.S4 18 rfl (fun v18=> ?_)
 refine BE.S4 5 rfl (fun v5=> ?_)
 refine BE.UN 0 14 rfl rfl ?_
 refine BE.UN 1 16 rfl rfl ?_
 refine BE.rU 2 18 14 16 rfl rfl rfl rfl ?_
 refine BE.Rd 3 5 18 rfl rfl rfl ?_
 refine BE.done (An.cons (An.cons (An.cons (An.cons (An.cons (An.cons (An.map _))))))) ?_
 refine Fin.shape 14 (fun b=>Nv n b) rfl (fun b1 e1=> ?_)
 refine Fin.shape 16 (fun b=>Nv n b) rfl (fun b2 e2=> ?_)
 refine Fin.shape 18 (fun b=> .pointer (some ⟨b,0,none⟩)) rfl (fun b3 e3=> ?_)
 refine Fin.shape 5 (fun b=> .pointer (some ⟨b,0,none⟩)) rfl (fun b4 e4=> ?_)
 subst e1 e2 e3 e4
 refine Fin.Py 0 (AB true b1 NV ((List.replicate n 0#32).map fun x=>u32 x)) rfl (by rw [←NX];rfl) ?_
 refine Fin.Py 1 (AB true b2 NV ((List.replicate n 0#32).map fun x=>u32 x)) rfl (by rw [←NX];rfl) ?_
 refine Fin.Py 2 (AB true b3 150 [int ((n:Nat):Int),Ab (Nv n b1) _,Ab (Nv n b2) _]) rfl rfl ?_
 refine Fin.Iw 2 [int ((n:Nat):Int),is (Nv n b1),is (Nv n b2)] rfl ⟨Pr.le_refl _,EB _ _,EB _ _,trivial⟩ ?_
 refine Fin.Py 3 (AB true b4 114 [Ab (.pointer (some ⟨b3,0,none⟩)) _]) rfl rfl ?_
 refine Fin.Iw 3 [ptr b3 0] rfl ⟨EB _ _,trivial⟩ ?_
 refine Fin.go ?_
 refine Tr.seq ?_
 refine Tr.seq ?_
 refine Tr.Ao ?_
 refine Ch.op rfl rfl (by decide) (Aw rfl (vl rfl)) ?_
 first
  |refine Ch.op rfl rfl (by decide) (Bq rfl Tryz.underlying39 (vl rfl)) ?_
  |refine Ch.op rfl rfl (by decide) (CA rfl Tryz.underlying39 (vl rfl)) ?_
 refine Ch.op rfl rfl (by decide) (Aw rfl (vl rfl)) ?_
 refine Ch.nil ?_
 refine Fin.go ?_
 refine Tr.block ?_
 refine Tr.Gy [(0,_),(5,_),(19,_),(20,_)] ⟨⟨_,rfl,Pr.le_refl _⟩,⟨_,rfl,Pr.le_refl _⟩,⟨_,rfl,Pr.le_refl _⟩,⟨_,rfl,Pr.le_refl _⟩,trivial⟩ (fun (B:List (BitVec 32)) (m:Nat)=>[(21,int ((m:Nat):Int))]) (fun (B:List (BitVec 32)) (m:Nat)=>Hp M0 w0 S (AB true b1 NV (B.map fun x=>u32 x)::AB true b2 NV ((List.replicate n 0#32).map fun x=>u32 x)::AB true b3 150 [int ((n:Nat):Int),is (Nv n b1),is (Nv n b2)]::AB true b4 114 [ptr b3 0]::ER::AZ M1 w1::rs)) (fun (B:List (BitVec 32)) (m:Nat)=>m≤l.length∧DU n B (H9 (l.take m))) (fun (B:List (BitVec 32)) (m:Nat)=>l.length-m) (List.replicate n 0#32) (0)  (⟨Nat.zero_le _,Jb (RW n) fun a b _ _=>rfl⟩) ⟨⟨_,rfl,Pr.le_refl _⟩,trivial⟩ (fun _ _ h=>h) ?_
 rintro B m  ⟨hm0,hB⟩
 refine Tr.seq ?_
 refine Tr.Ao ?_
 refine Ch.op rfl rfl (by decide) (ok_int rfl (vl rfl) (vl rfl) rfl) ?_
 refine Ch.nil ?_
 refine Fin.go ?_
 refine Tr.seq ?_
 refine Tr.cond rfl (fun h1=> ?_) (fun h1=> ?_)
 ·
  have q1:=C6.Dj h1
  have hm:m<l.length:=AL h1
  obtain ⟨r,hr⟩:=at_ hm
  obtain ⟨hf,ht,_⟩:=fN (hbd r (List.mem_of_getElem? hr))
  have hBl:=hB.1
  obtain ⟨x,hx⟩:=at_ (l:=B) (k:=r.thn.toNat) (by omega)
  refine Tr.skip ?_
  refine Fin.go ?_
  refine Tr.seq ?_
  refine Tr.block ?_
  refine Tr.seq ?_
  refine Tr.As ?_
  refine TO.op rfl rfl (by decide) (AA rfl Tryz.underlying39 Er (vl rfl) (vl rfl) (by omega) (AU hr)) ?_
  refine TO.op rfl rfl (by decide) (AF rfl KW Er (vl rfl) rfl rfl) ?_
  refine TO.alloc rfl rfl (by decide) rfl z49 Ot (fun b5=> ?_)
  refine TO.Ap 0 rfl rfl rfl (vl rfl) (VL.le (vl rfl) (AJ _)) rfl Er rfl rfl ?_
  refine TO.freeze 0 7 rfl rfl ?_
  refine TO.nil ?_
  refine Fin.go ?_
  refine Tr.Hh mixed [some (0,3,false,0),none,none,some (0,2,false,0),none,none,none,some (0,0,false,0),none,none,none,none,none,some (0,0,true,0)] (by kernel_rfl) ?_
  refine Cx.rd 3 rfl rfl rfl (by decide) (Aj rfl IQ (vl rfl) rfl) ?_
  refine Cx.op rfl rfl (by decide) (fun _=>C1 rfl (vl rfl)) ?_
  refine Cx.op rfl rfl (by decide) (fun _=>AO rfl HR (vl rfl)) ?_
  refine Cx.rd 2 rfl rfl rfl (by decide) (Aj rfl IU (vl rfl) rfl) ?_
  refine Cx.op rfl rfl (by decide) (fun _=>BN rfl Li (vl rfl) rfl) ?_
  refine Cx.op rfl rfl (by decide) (fun _=>Bg rfl DC (vl rfl)) ?_
  refine Cx.op rfl rfl (by decide) (fun _=>BZ rfl Tryz.underlying148 Ee (vl rfl) (vl rfl) (by omega) (by omega)) ?_
  refine Cx.rd 0 rfl rfl rfl (by decide) (Aj rfl Fl (vl rfl) (He hx)) ?_
  refine Cx.op rfl rfl (by decide) (fun _=>BN rfl Lh (vl rfl) rfl) ?_
  refine Cx.op rfl rfl (by decide) (fun _=>Bg rfl DC (vl rfl)) ?_
  refine Cx.op rfl rfl (by decide) (fun _=>HK (b:=1#32) rfl (vl rfl) (vl rfl) (by omega)) ?_
  refine Cx.op rfl rfl (by decide) (fun _=>JZ rfl (vl rfl) (vl rfl)) ?_
  refine Cx.op rfl rfl (by decide) (fun _=>BZ rfl Tryz.underlying148 Ee (vl rfl) (vl rfl) (by omega) (by omega)) ?_
  refine Cx.Ew 0 rfl rfl (BP rfl rfl (vl rfl) (VL.le (vl rfl) (AD _)) Ee rfl (by rw [List.length_map];omega) (MM hx)) ?_
  refine Cx.nil ⟨rfl,?_⟩
  refine BE.done (An.cons (An.cons (An.cons (An.cons (An.cons (An.cons (An.map _))))))) ?_
  refine Fin.block ?_
  refine Fin.go ?_
  refine Tr.weak [(0,_),(5,_),(19,_),(20,_),(21,_)] ⟨⟨_,rfl,Pr.le_refl _⟩,⟨_,rfl,Pr.le_refl _⟩,⟨_,rfl,Pr.le_refl _⟩,⟨_,rfl,Pr.le_refl _⟩,⟨_,rfl,Pr.le_refl _⟩,trivial⟩ ?_
  refine Tr.Ao ?_
  first
   |(refine Ch.op rfl rfl (by decide) (Dz rfl (vl rfl) (vl rfl) ?hin) ?_;case hin=>unfold Jo;omega)
   |refine Ch.op rfl rfl (by decide) (ok_int rfl (vl rfl) (vl rfl) rfl) ?_
  refine Ch.op rfl rfl (by decide) (Aw rfl (vl rfl)) ?_
  refine Ch.nil ?_
  exact Fin.JC (B.set r.thn.toNat (Sx x r.fst.toNat)) (m+1)  (⟨⟨hm,Ri hB hr hf ht.1 hx (by omega)⟩,by omega⟩) ⟨⟨_,rfl,AE m⟩,⟨_,rfl,Pr.le_refl _⟩,⟨_,rfl,Pr.le_refl _⟩,⟨_,rfl,Pr.le_refl _⟩,⟨_,rfl,Pr.le_refl _⟩,trivial⟩ (fun _ _ h=>h)
 ·
  have q1:=C6.Dj h1
  have hml:m=l.length:=by have:=AM h1;omega
  rw [hml,List.take_length] at hB
  refine Tr.exit ?_
  refine Fin.Ac ?_
  refine Fin.Ac ?_
  refine Fin.Az ?_
  refine Fin.go ?_
  refine Tr.seq ?_
  refine Tr.seq ?_
  refine Tr.Ao ?_
  refine Ch.op rfl rfl (by decide) (Aw rfl (vl rfl)) ?_
  refine Ch.op rfl rfl (by decide) (Aw rfl (vl rfl)) ?_
  refine Ch.nil ?_
  refine Fin.go ?_
  refine Tr.block ?_
  refine Tr.Gy [(0,_),(5,_),(39,_)] ⟨⟨_,rfl,Pr.le_refl _⟩,⟨_,rfl,Pr.le_refl _⟩,⟨_,rfl,Pr.le_refl _⟩,trivial⟩ (fun (B2:List (BitVec 32)) (k:Nat)=>[(40,int ((k:Nat):Int))]) (fun (B2:List (BitVec 32)) (k:Nat)=>Hp M0 w0 S (AB true b1 NV (B2.map fun x=>u32 x)::AB true b2 NV ((List.replicate n 0#32).map fun x=>u32 x)::AB true b3 150 [int ((n:Nat):Int),is (Nv n b1),is (Nv n b2)]::AB true b4 114 [ptr b3 0]::ER::AZ M1 w1::rs)) (fun (B2:List (BitVec 32)) (k:Nat)=>k≤n∧DU n B2 (Cd l k)) (fun (B2:List (BitVec 32)) (k:Nat)=>n-k) (B) (0)  (⟨Nat.zero_le _,hB⟩) ⟨⟨_,rfl,Pr.le_refl _⟩,trivial⟩ (fun _ _ h=>h) ?_
  rintro B2 k  ⟨hk0,hB2⟩
  refine Tr.seq ?_
  refine Tr.Ao ?_
  refine Ch.op rfl rfl (by decide) (ok_int rfl (vl rfl) (vl rfl) rfl) ?_
  refine Ch.nil ?_
  refine Fin.go ?_
  refine Tr.seq ?_
  refine Tr.cond rfl (fun h2=> ?_) (fun h2=> ?_)
  ·
   have q2:=C6.Dj h2
   have hk:k<n:=AL h2
   refine Tr.skip ?_
   refine Fin.go ?_
   refine Tr.seq ?_
   refine Tr.block ?_
   refine Tr.seq ?_
   refine Tr.Ao ?_
   refine Ch.op rfl rfl (by decide) (Aw rfl (vl rfl)) ?_
   refine Ch.op rfl rfl (by decide) (Be rfl (vl rfl)) ?_
   refine Ch.nil ?_
   refine Fin.go ?_
   refine Tr.seq ?_
   refine Tr.Ao ?_
   refine Ch.op rfl rfl (by decide) (Aw rfl (vl rfl)) ?_
   refine Ch.op rfl rfl (by decide) (Aw rfl (vl rfl)) ?_
   refine Ch.nil ?_
   refine Fin.go ?_
   refine Tr.block ?_
   refine Tr.Gy [(0,_),(5,_),(8,_),(39,_),(40,_),(43,_)] ⟨⟨_,rfl,Pr.le_refl _⟩,⟨_,rfl,Pr.le_refl _⟩,⟨_,rfl,Pr.le_refl _⟩,⟨_,rfl,Pr.le_refl _⟩,⟨_,rfl,Pr.le_refl _⟩,⟨_,rfl,Pr.le_refl _⟩,trivial⟩ (fun (B3:List (BitVec 32)) (i:Nat)=>[(44,int ((i:Nat):Int))]) (fun (B3:List (BitVec 32)) (i:Nat)=>Hp M0 w0 S (AB true b1 NV (B3.map fun x=>u32 x)::AB true b2 NV ((List.replicate n 0#32).map fun x=>u32 x)::AB true b3 150 [int ((n:Nat):Int),is (Nv n b1),is (Nv n b2)]::AB true b4 114 [ptr b3 0]::ER::AZ M1 w1::rs)) (fun (B3:List (BitVec 32)) (i:Nat)=>i≤n∧DU n B3 (Hr k (Cd l k) i)) (fun (B3:List (BitVec 32)) (i:Nat)=>n-i) (B2) (0)  (⟨Nat.zero_le _,by rw [ew];exact hB2⟩) ⟨⟨_,rfl,Pr.le_refl _⟩,trivial⟩ (fun _ _ h=>h) ?_
   rintro B3 i  ⟨hi0,fQ⟩
   refine Tr.seq ?_
   refine Tr.Ao ?_
   refine Ch.op rfl rfl (by decide) (ok_int rfl (vl rfl) (vl rfl) rfl) ?_
   refine Ch.nil ?_
   refine Fin.go ?_
   refine Tr.seq ?_
   refine Tr.cond rfl (fun h3=> ?_) (fun h3=> ?_)
   ·
    have q3:=C6.Dj h3
    have hi:i<n:=AL h3
    have hBl:=fQ.1
    obtain ⟨x,hx⟩:=at_ (l:=B3) (k:=i) (by omega)
    obtain ⟨y,hy⟩:=at_ (l:=B3) (k:=k) (by omega)
    refine Tr.skip ?_
    refine Fin.go ?_
    refine Tr.seq ?_
    refine Tr.block ?_
    refine Tr.seq ?_
    refine Tr.Ao ?_
    refine Ch.op rfl rfl (by decide) (Aw rfl (vl rfl)) ?_
    refine Ch.op rfl rfl (by decide) (Be rfl (vl rfl)) ?_
    refine Ch.nil ?_
    refine Fin.go ?_
    refine Tr.seq ?_
    refine Tr.Ao ?_
    refine Ch.op rfl rfl (by decide) (CT 3 rfl (Aj rfl IQ (vl rfl) rfl)) ?_
    refine Ch.op rfl rfl (by decide) (C1 rfl (vl rfl)) ?_
    refine Ch.op rfl rfl (by decide) (AO rfl HR (vl rfl)) ?_
    refine Ch.op rfl rfl (by decide) (CT 2 rfl (Aj rfl IU (vl rfl) rfl)) ?_
    refine Ch.op rfl rfl (by decide) (Aw rfl (vl rfl)) ?_
    refine Ch.op rfl rfl (by decide) (BZ rfl Tryz.underlying148 Ee (vl rfl) (vl rfl) (by omega) (by omega)) ?_
    refine Ch.op rfl rfl (by decide) (CT 0 rfl (Aj rfl Fl (vl rfl) (He hx))) ?_
    refine Ch.op rfl rfl (by decide) (Aw rfl (vl rfl)) ?_
    refine Ch.op rfl rfl (by decide) (AW rfl (OL) ⟨⟨_,rfl,Pr.le_refl _⟩,⟨_,rfl,Pr.le_refl _⟩,trivial⟩) ?_
    refine Ch.nil ?_
    refine Fin.go ?_
    refine Tr.weak [(0,_),(5,_),(8,_),(9,_),(39,_),(40,_),(43,_),(44,_),(55,_)] ⟨⟨_,rfl,Pr.le_refl _⟩,⟨_,rfl,Pr.le_refl _⟩,⟨_,rfl,Pr.le_refl _⟩,⟨_,rfl,Pr.le_refl _⟩,⟨_,rfl,Pr.le_refl _⟩,⟨_,rfl,Pr.le_refl _⟩,⟨_,rfl,Pr.le_refl _⟩,⟨_,rfl,Pr.le_refl _⟩,⟨_,rfl,Pr.le_refl _⟩,trivial⟩ ?_
    refine Tr.cond rfl (fun h4=> ?_) (fun h4=> ?_)
    ·
     have q4:=C6.Dj h4
     refine Tr.Hh mixed [some (0,3,false,0),none,none,some (0,2,false,0),none,none,some (0,0,false,0),some (0,3,false,0),none,none,some (0,2,false,0),none,none,some (0,0,false,0),none,none,some (0,0,true,0)] (by kernel_rfl) ?_
     refine Cx.rd 3 rfl rfl rfl (by decide) (Aj rfl IQ (vl rfl) rfl) ?_
     refine Cx.op rfl rfl (by decide) (fun _=>C1 rfl (vl rfl)) ?_
     refine Cx.op rfl rfl (by decide) (fun _=>AO rfl HR (vl rfl)) ?_
     refine Cx.rd 2 rfl rfl rfl (by decide) (Aj rfl IU (vl rfl) rfl) ?_
     refine Cx.op rfl rfl (by decide) (fun _=>Aw rfl (vl rfl)) ?_
     refine Cx.op rfl rfl (by decide) (fun _=>BZ rfl Tryz.underlying148 Ee (vl rfl) (vl rfl) (by omega) (by omega)) ?_
     refine Cx.rd 0 rfl rfl rfl (by decide) (Aj rfl Fl (vl rfl) (He hx)) ?_
     refine Cx.rd 3 rfl rfl rfl (by decide) (Aj rfl IQ (vl rfl) rfl) ?_
     refine Cx.op rfl rfl (by decide) (fun _=>C1 rfl (vl rfl)) ?_
     refine Cx.op rfl rfl (by decide) (fun _=>AO rfl HR (vl rfl)) ?_
     refine Cx.rd 2 rfl rfl rfl (by decide) (Aj rfl IU (vl rfl) rfl) ?_
     refine Cx.op rfl rfl (by decide) (fun _=>Aw rfl (vl rfl)) ?_
     refine Cx.op rfl rfl (by decide) (fun _=>BZ rfl Tryz.underlying148 Ee (vl rfl) (vl rfl) (by omega) (by omega)) ?_
     refine Cx.rd 0 rfl rfl rfl (by decide) (Aj rfl Fl (vl rfl) (He hy)) ?_
     refine Cx.op rfl rfl (by decide) (fun _=>JZ rfl (vl rfl) (vl rfl)) ?_
     refine Cx.op rfl rfl (by decide) (fun _=>BZ rfl Tryz.underlying148 Ee (vl rfl) (vl rfl) (by omega) (by omega)) ?_
     refine Cx.Ew 0 rfl rfl (BP rfl rfl (vl rfl) (VL.le (vl rfl) (AD _)) Ee rfl (by rw [List.length_map];omega) (MM hx)) ?_
     refine Cx.nil ⟨rfl,?_⟩
     refine BE.done (An.cons (An.cons (An.cons (An.cons (An.cons (An.cons (An.map _))))))) ?_
     refine Fin.block ?_
     refine Fin.go ?_
     refine Tr.weak [(0,_),(5,_),(8,_),(39,_),(40,_),(43,_),(44,_)] ⟨⟨_,rfl,Pr.le_refl _⟩,⟨_,rfl,Pr.le_refl _⟩,⟨_,rfl,Pr.le_refl _⟩,⟨_,rfl,Pr.le_refl _⟩,⟨_,rfl,Pr.le_refl _⟩,⟨_,rfl,Pr.le_refl _⟩,⟨_,rfl,Pr.le_refl _⟩,trivial⟩ ?_
     refine Tr.Ao ?_
     first
      |(refine Ch.op rfl rfl (by decide) (Dz rfl (vl rfl) (vl rfl) ?hin) ?_;case hin=>unfold Jo;omega)
      |refine Ch.op rfl rfl (by decide) (ok_int rfl (vl rfl) (vl rfl) rfl) ?_
     refine Ch.op rfl rfl (by decide) (Aw rfl (vl rfl)) ?_
     refine Ch.nil ?_
     exact Fin.JC (B3.set i (x|||y)) (i+1)  (⟨⟨hi,XB fQ hx hy (by rw [←Pv fQ hx hk];exact h4)⟩,by omega⟩) ⟨⟨_,rfl,AE i⟩,⟨_,rfl,Pr.le_refl _⟩,⟨_,rfl,Pr.le_refl _⟩,⟨_,rfl,Pr.le_refl _⟩,⟨_,rfl,Pr.le_refl _⟩,⟨_,rfl,Pr.le_refl _⟩,⟨_,rfl,Pr.le_refl _⟩,trivial⟩ (fun _ _ h=>h)
    ·
     have q4:=C6.Dj h4
     refine Tr.skip ?_
     refine Fin.block ?_
     refine Fin.go ?_
     refine Tr.Ao ?_
     first
      |(refine Ch.op rfl rfl (by decide) (Dz rfl (vl rfl) (vl rfl) ?hin) ?_;case hin=>unfold Jo;omega)
      |refine Ch.op rfl rfl (by decide) (ok_int rfl (vl rfl) (vl rfl) rfl) ?_
     refine Ch.op rfl rfl (by decide) (Aw rfl (vl rfl)) ?_
     refine Ch.nil ?_
     exact Fin.JC (B3) (i+1)  (⟨⟨hi,Zp fQ (by rw [←Pv fQ hx hk];exact h4)⟩,by omega⟩) ⟨⟨_,rfl,AE i⟩,⟨_,rfl,Pr.le_refl _⟩,⟨_,rfl,Pr.le_refl _⟩,⟨_,rfl,Pr.le_refl _⟩,⟨_,rfl,Pr.le_refl _⟩,⟨_,rfl,Pr.le_refl _⟩,⟨_,rfl,Pr.le_refl _⟩,trivial⟩ (fun _ _ h=>h)
   ·
    have q3:=C6.Dj h3
    have hin:i=n:=by have:=AM h3;omega
    rw [hin] at fQ
    refine Tr.exit ?_
    refine Fin.Ac ?_
    refine Fin.Ac ?_
    refine Fin.Az ?_
    refine Fin.block ?_
    refine Fin.go ?_
    refine Tr.Ao ?_
    first
     |(refine Ch.op rfl rfl (by decide) (Dz rfl (vl rfl) (vl rfl) ?hin) ?_;case hin=>unfold Jo;omega)
     |refine Ch.op rfl rfl (by decide) (ok_int rfl (vl rfl) (vl rfl) rfl) ?_
    refine Ch.op rfl rfl (by decide) (Aw rfl (vl rfl)) ?_
    refine Ch.nil ?_
    exact Fin.JC (B3) (k+1)  (⟨⟨hk,Jb fQ fun a b _ hb=>W_ hb⟩,by omega⟩) ⟨⟨_,rfl,AE k⟩,⟨_,rfl,Pr.le_refl _⟩,⟨_,rfl,Pr.le_refl _⟩,⟨_,rfl,Pr.le_refl _⟩,trivial⟩ (fun _ _ h=>h)
  ·
   have q2:=C6.Dj h2
   have hkn:k=n:=by have:=AM h2;omega
   rw [hkn] at hB2
   obtain rfl:=Rh hB2 (E0 (by omega))
   refine Tr.exit ?_
   refine Fin.Ac ?_
   refine Fin.Ac ?_
   refine Fin.Az ?_
   refine Fin.go ?_
   refine Tr.seq ?_
   refine Tr.seq ?_
   refine Tr.Ao ?_
   refine Ch.op rfl rfl (by decide) (Aw rfl (vl rfl)) ?_
   refine Ch.op rfl rfl (by decide) (Aw rfl (vl rfl)) ?_
   refine Ch.nil ?_
   refine Fin.go ?_
   refine Tr.block ?_
   refine Tr.fH [(5,_),(74,_)] ⟨⟨_,rfl,Pr.le_refl _⟩,⟨_,rfl,Pr.le_refl _⟩,trivial⟩ (fun Ds i=>⟨_,Ds.map Cp.mark⟩) (fun Ds i=>[(75,int ((i:Nat):Int))]) (fun Ds i=>Hp M0 w0 S (AB true b1 NV ((Du n l).map fun x=>u32 x)::AB true b2 NV ((Hs (Du n l) i).map fun x=>u32 x)::AB true b3 150 [int ((n:Nat):Int),is (Nv n b1),is (Nv n b2)]::AB true b4 114 [ptr b3 0]::ER::(Ds.map Pw++AZ M1 w1::rs))) (fun Ds i=>i≤(n)) (fun Ds i=>(n)-i) [] 0 rfl (Nat.zero_le _) ⟨⟨_,rfl,Pr.le_refl _⟩,trivial⟩ ((by rw [Hs,CX];exact fun _ _ h=>h)) ?_
   rintro Ds i PJ
   refine Tr.seq ?_
   refine Tr.Ao ?_
   refine Ch.op rfl rfl (by exact Nat.le_of_ble_eq_true rfl) (ok_int rfl (vl rfl) (vl rfl) rfl) ?_
   refine Ch.nil ?_
   refine Fin.go ?_
   refine Tr.seq ?_
   refine Tr.cond rfl (fun h5=> ?_) (fun h5=> ?_)
   ·
    have q5:=C6.Dj h5
    have GV:i<(n):=AL h5
    obtain ⟨x,hx⟩:=at_ (l:=Du n l) (k:=i) (by rw [CX];omega)
    refine Tr.skip ?_
    refine Fin.go ?_
    refine Tr.seq ?_
    refine Tr.block ?_
    refine Tr.seq ?_
    refine Tr.As ?_
    refine TO.op rfl rfl (by exact Nat.le_of_ble_eq_true rfl) (Aw rfl (vl rfl)) ?_
    refine TO.alloc rfl rfl (by exact Nat.le_of_ble_eq_true rfl) rfl z3 zo3 (fun b6=> ?_)
    refine TO.Ap 0 rfl rfl rfl (vl rfl) (VL.le (vl rfl) (AD _)) rfl Ce rfl rfl ?_
    refine TO.freeze 0 10 rfl rfl ?_
    refine TO.nil ?_
    refine Fin.go ?_
    refine Tr.seq ?_
    refine Tr.pad ?_
    refine Tr.Hh mixed [some (0,4,false,0),none,none,some (0,3,false,0),none,none,some (0,1,false,0),some (0,0,true,85)] (by kernel_rfl) ?_
    refine Cx.rd 4 rfl rfl rfl (by exact Nat.le_of_ble_eq_true rfl) (Aj rfl IQ (vl rfl) rfl) ?_
    refine Cx.op rfl rfl (by exact Nat.le_of_ble_eq_true rfl) (fun _=>C1 rfl (vl rfl)) ?_
    refine Cx.op rfl rfl (by exact Nat.le_of_ble_eq_true rfl) (fun _=>AO rfl HR (vl rfl)) ?_
    refine Cx.rd 3 rfl rfl rfl (by exact Nat.le_of_ble_eq_true rfl) (Aj rfl IU (vl rfl) rfl) ?_
    refine Cx.op rfl rfl (by exact Nat.le_of_ble_eq_true rfl) (fun _=>Bg rfl DC (vl rfl)) ?_
    refine Cx.op rfl rfl (by exact Nat.le_of_ble_eq_true rfl) (fun _=>BZ rfl Tryz.underlying148 Ee (vl rfl) (vl rfl) (by omega) (by omega)) ?_
    refine Cx.rd 1 rfl rfl rfl (by exact Nat.le_of_ble_eq_true rfl) (Aj rfl Fl (vl rfl) (He hx)) ?_
    refine Cx.ef 0 rfl rfl (by exact Nat.le_of_ble_eq_true rfl) (FW rfl rfl (by exact Nat.le_of_ble_eq_true rfl) rfl (mA) ⟨⟨_,rfl,Pr.le_refl _⟩,trivial⟩) ?_
    refine Cx.nil ⟨rfl,?_⟩
    refine BE.open_ 0 85 rfl rfl (fun v1=> ?_)
    refine BE.done (An.cons (An.cons (An.cons (An.cons (An.cons (An.cons (An.map _))))))) ?_
    refine Fin.shape 85 (fun b=>fK b) rfl (fun fb7 fe7=> ?_)
    subst fe7
    refine Fin.Py 0 (AB true fb7 NV [_]) rfl rfl ?_
    refine Fin.go ?_
    refine Tr.weak [(5,_),(10,_),(74,_),(75,_),(85,_)] ⟨⟨_,rfl,Pr.le_refl _⟩,⟨_,rfl,Pr.le_refl _⟩,⟨_,rfl,Pr.le_refl _⟩,⟨_,rfl,Pr.le_refl _⟩,⟨_,rfl,Pr.le_refl _⟩,trivial⟩ ?_
    refine Tr.block ?_
    refine Tr.fG 11 [(5,_),(10,_)] ⟨⟨_,rfl,Pr.le_refl _⟩,⟨_,rfl,Pr.le_refl _⟩,trivial⟩ (fun pre=>AB true b1 NV ((Du n l).map fun x=>u32 x)::AB true b2 NV ((pre.foldl (Gm i) (Hs (Du n l) i)).map fun x=>u32 x)::AB true b3 150 [int ((n:Nat):Int),is (Nv n b1),is (Nv n b2)]::AB true b4 114 [ptr b3 0]::(Ds.map Pw++AZ M1 w1::rs)) (Zv (s:=x)) Zw (vl rfl) ((FV (j:=5) rfl).trans (List.Perm.cons _ ((FV (j:=0) rfl).trans (List.Perm.cons _ (List.Perm.refl _))))) rfl (by exact Nat.le_of_ble_eq_true rfl) ?_ ?_ ?_
    ·
     rintro lk Dk rk Mr wr pre y0 hpre
     refine Tr.Ao ?_
     refine Ch.op rfl rfl (by exact Nat.le_of_ble_eq_true rfl) (Be rfl (vl rfl)) ?_
     refine Ch.nil ?_
     exact Fin.st ⟨⟨_,rfl,Pr.le_refl _⟩,⟨_,rfl,Pr.le_refl _⟩,⟨_,rfl,Pr.le_refl _⟩,trivial⟩
    ·
     rintro lk Dk rk Mr wr pre y0 hpre
     have hlt:y0<n:=by
      have h_:=Sz.1 (fP hpre)
      rw [(E0 (by omega)).2 i x hx,Bool.and_eq_true,decide_eq_true_eq] at h_
      exact h_.1
     have hal:(pre.foldl (Gm i) (Hs (Du n l) i)).length=n:=by rw [KB,GC,CX]
     obtain ⟨y,hy⟩:=at_ (l:=pre.foldl (Gm i) (Hs (Du n l) i)) (k:=y0) (by omega)
     refine Tr.block ?_
     refine Tr.Hh mixed [some (0,8,false,0),none,none,some (0,7,false,0),none,none,some (0,6,false,0),none,none,none,none,some (0,6,true,0)] (by kernel_rfl) ?_
     refine Cx.rd 8 rfl rfl rfl (by exact Nat.le_of_ble_eq_true rfl) (Aj rfl IQ (vl rfl) rfl) ?_
     refine Cx.op rfl rfl (by exact Nat.le_of_ble_eq_true rfl) (fun _=>C1 rfl (vl rfl)) ?_
     refine Cx.op rfl rfl (by exact Nat.le_of_ble_eq_true rfl) (fun _=>AO rfl Ye (vl rfl)) ?_
     refine Cx.rd 7 rfl rfl rfl (by exact Nat.le_of_ble_eq_true rfl) (Aj rfl IU (vl rfl) rfl) ?_
     refine Cx.op rfl rfl (by exact Nat.le_of_ble_eq_true rfl) (fun _=>Aw rfl (vl rfl)) ?_
     refine Cx.op rfl rfl (by exact Nat.le_of_ble_eq_true rfl) (fun _=>BZ rfl Tryz.underlying148 Ee (vl rfl) (vl rfl) (by omega) (by omega)) ?_
     refine Cx.rd 6 rfl rfl rfl (by exact Nat.le_of_ble_eq_true rfl) (Aj rfl Fl (vl rfl) (He hy)) ?_
     refine Cx.op rfl rfl (by exact Nat.le_of_ble_eq_true rfl) (fun _=>Bg rfl DC (vl rfl)) ?_
     refine Cx.op rfl rfl (by exact Nat.le_of_ble_eq_true rfl) (fun _=>HK (b:=1#32) rfl (vl rfl) (vl rfl) (Int.natCast_nonneg _)) ?_
     refine Cx.op rfl rfl (by exact Nat.le_of_ble_eq_true rfl) (fun _=>JZ rfl (vl rfl) (vl rfl)) ?_
     refine Cx.op rfl rfl (by exact Nat.le_of_ble_eq_true rfl) (fun _=>BZ rfl Tryz.underlying148 Ee (vl rfl) (vl rfl) (by omega) (by omega)) ?_
     refine Cx.Ew 6 rfl rfl (BP rfl rfl (vl rfl) (VL.le (vl rfl) (AD _)) Ee rfl (by rw [List.length_map];omega) ((MM hy).trans (congrArg (fun B:List (BitVec 32)=>B.map fun x=>u32 x) (UQ hy)))) ?_
     refine Cx.nil ⟨rfl,?_⟩
     refine BE.done (An.cons (An.cons (An.cons (An.cons (An.cons (An.cons (An.cons (An.cons (An.cons (An.map _)))))))))) ?_
     refine Fin.block ?_
     exact Fin.rnd () (List.Perm.refl _)
    ·
     rintro lk Dk rk Mr wr
     refine Fin.drop 1 ?_
     refine Fin.drop 1 ?_
     refine Fin.drop 2 ?_
     refine Fin.XM (List.Perm.cons _ ((List.perm_middle (l₁:=[_,_,_,_])).symm)) ?_
     refine Fin.XM (List.perm_middle (l₁:=[_,_,_,_])).symm ?_
     refine Fin.block ?_
     refine Fin.block ?_
     refine Fin.go ?_
     refine Tr.Ao ?_
     first
      |(refine Ch.op rfl rfl (by exact Nat.le_of_ble_eq_true rfl) (Dz rfl (vl rfl) (vl rfl) ?hin) ?_;case hin=>unfold Jo;omega)
      |refine Ch.op rfl rfl (by exact Nat.le_of_ble_eq_true rfl) (ok_int rfl (vl rfl) (vl rfl) rfl) ?_
     refine Ch.op rfl rfl (by exact Nat.le_of_ble_eq_true rfl) (Aw rfl (vl rfl)) ?_
     refine Ch.nil ?_
     exact Fin.l9 (_::_) (i+1) rfl (⟨GV,by omega⟩) ⟨⟨_,rfl,AE i⟩,⟨_,rfl,Pr.le_refl _⟩,⟨_,rfl,Pr.le_refl _⟩,trivial⟩ ((by rw [UP hx];exact fun _ _ h=>h))
   ·
    have q5:=C6.Dj h5
    have Kz:i=(n):=by have:=AM h5;omega
    have rW:=Kz.symm
    subst rW
    refine Tr.exit ?_
    refine Fin.Ac ?_
    refine Fin.Ac ?_
    refine Fin.Az ?_
    refine Fin.go ?_
    refine Tr.seq ?_
    refine Tr.jW 0 (((Du n l).map fun x=>[u32 x]).flatten++([]:List Value).map is) rfl (NW _) ?_
    refine Tr.Yo (cap:=n) (sz:=1) ((Du n l).map fun x=>[u32 x]) 0 2 1 rfl rfl (by decide) rfl (Pr.le_of_eq (by rw [List.length_map,CX n l])) (BD fun _=>rfl) (by rw [List.length_map,CX n l];exact Nat.le_refl _) (by unfold maxLen;omega) (by simp [GC,CX]) rfl ?_
    refine Tr.jW 1 (((Hs (Du n l) n).map fun x=>[u32 x]).flatten++([]:List Value).map is) rfl (NW _) ?_
    refine Tr.Yo (cap:=n) (sz:=1) ((Hs (Du n l) n).map fun x=>[u32 x]) 1 2 2 rfl rfl (by decide) rfl (Pr.le_of_eq (by rw [List.length_map,(GC _ _).trans (CX n l)])) (BD fun _=>rfl) (by rw [List.length_map,(GC _ _).trans (CX n l)];exact Nat.le_refl _) (by unfold maxLen;omega) (by simp [GC,CX]) rfl ?_
    refine Tr.Ao ?_
    refine Ch.op rfl rfl (by exact Nat.le_of_ble_eq_true rfl) (CT 3 rfl (Aj rfl IQ (vl rfl) rfl)) ?_
    refine Ch.op rfl rfl (by exact Nat.le_of_ble_eq_true rfl) (Be rfl (vl rfl)) ?_
    refine Ch.nil ?_
    refine Fin.go ?_
    refine Tr.ret ?_
    refine Fin.freeze 2 4 rfl rfl ?_
    refine Fin.drop 0 ?_
    refine Fin.drop 0 ?_
    refine Fin.drop 0 ?_
    refine Fin.XM List.perm_middle.symm ?_
    refine Fin.S2 ?_
    refine Fin.D8 rfl rfl ?_ (fun _ _ _ _=>rfl)
    · exact fO ⟨Pr.le_refl _,Ai _ _,Ai _ _,trivial⟩
def Rk (n:Int) (l:List BU):Pr:=if Ar n l=0 then ref [int n,bits (Du n.toNat l),bits (Hs (Du n.toNat l) n.toNat)] else is (.pointer none)
instance mC (n:Int) (l:List BU):One (Rk n l):=by
 unfold Rk;split
 · exact R4 _
 · exact R3 _
theorem EO {n:Int} {l:List BU} {e:Int} (h:Ar n l=e) (he:e≠0):Pr.le (is (.pointer none)) (Rk n l):=by
 unfold Rk;rw [if_neg (by rw [h];exact he)];exact Pr.le_refl _
theorem S5 {n:Int} {l:List BU} (h:Ar n l=0):Rk n l=ref [int n,bits (Du n.toNat l),bits (Hs (Du n.toNat l) n.toNat)]:=by
 unfold Rk;rw [if_pos h]
theorem LH {n:Int} {l:List BU} (h:n<0∨24<n):Ar n l=2:=by unfold Ar;rw [if_pos h]
theorem Dv {n:Int} {l:List BU} {k:Nat} {r:BU} (h:0≤n∧n≤24) (hr:l[k]? =some r) (hb:C3 n r=true):Ar n l=44:=by
 unfold Ar;rw [if_neg (by omega),if_pos (List.any_eq_true.2 ⟨r,List.mem_of_getElem? hr,hb⟩)]
theorem Zz {n:Int} {l:List BU} (h:∀j y,j<l.length→l[j]? =some y→C3 n y=false):∀r∈l,C3 n r=false:=fun r hr=>by
 obtain ⟨j,hj⟩:=List.mem_iff_getElem?.1 hr
 exact h j r (by rcases Nat.lt_or_ge j l.length with h2|h2;exact h2;rw [List.getElem?_eq_none h2] at hj;cases hj) hj
theorem Rl {n:Int} {l:List BU} (h:∀r∈l,C3 n r=false):¬l.any (C3 n)=true:=by
 rw [Bool.not_eq_true,List.any_eq_false];exact fun r hr=>by rw [h r hr];decide
theorem S6 {n:Int} {l:List BU} {k:Nat} {a b:BU} (h:0≤n∧n≤24) (hb:∀r∈l,C3 n r=false) (hk:0<k) (ha:l[k-1]? =some a) (hx:l[k]? =some b) (hl:EM a b=false):Ar n l=6:=by
 unfold Ar;rw [if_neg (by omega),if_neg (Rl hb),if_pos]
 cases hs:CR l with
 |false=>rfl
 |true=>
  have:=Ip.1 hs (k-1) a b ha (by rw [Nat.sub_add_cancel hk];exact hx)
  rw [hl] at this;cases this
theorem P0 {n:Nat} {l:List BU} {i:Nat} (h:n≤24) (hb:∀r∈l,C3 n r=false) (hs:CR l=true) (hi:i<n) (hw:Cd l n i i=true):Ar n l=45:=by
 unfold Ar;rw [if_neg (by omega),if_neg (Rl hb),if_neg (by rw [hs];decide),if_pos (show lf (n:Int).toNat l=true from List.any_eq_true.2 ⟨i,List.mem_range.2 (by omega),hw⟩)]
theorem S7 {n:Nat} {l:List BU} (h:n≤24) (hb:∀r∈l,C3 n r=false) (hs:CR l=true) (hw:∀i,i<n→Cd l n i i=false):Ar n l=0:=by
 unfold Ar;rw [if_neg (by omega),if_neg (Rl hb),if_neg (by rw [hs];decide),if_neg]
 intro hc
 obtain ⟨i,hi,h2⟩:=List.any_eq_true.1 hc
 have:=hw i (by simpa using hi)
 rw [show ((n:Int)).toNat=n from rfl] at h2
 rw [this] at h2;cases h2
theorem Rm {l:List BU} (h:∀(j:Nat) a b,j+1<l.length→l[j]? =some a→l[j+1]? =some b→EM a b=true):CR l=true:=Ip.2 fun j a b ha hb=>h j a b (by rcases Nat.lt_or_ge (j+1) l.length with h2|h2;exact h2;rw [List.getElem?_eq_none h2] at hb;cases hb) ha hb
theorem Ko {l:List BU} {k:Nat} {x:BU} (hx:l[k]? =some x) (hp:∀y,0<k→l[k-1]? =some y→EM y x=true) (h:∀(j:Nat) a b,j+1<k→l[j]? =some a→l[j+1]? =some b→EM a b=true):∀(j:Nat) a b,j+1<k+1→l[j]? =some a→l[j+1]? =some b→EM a b=true:=by
 intro j a b hj ha hb
 by_cases hjk:j+1=k
 · subst hjk;rw [hx] at hb;cases hb;exact hp a (by omega) (by simpa using ha)
 · exact h j a b (by omega) ha hb
theorem S8 {n:Int} {l:List BU}  :BJ prog 46 [int n,reqs l] (Iv [Rk n l,int (Ar n l)]) (ER) (fun _=>ER):=by
 refine BJ.of func46 rfl rfl (by exact Nb rfl) fun M0 w0 S rs M1 w1=> ?_
 refine Tr.Fg 1 rfl fun V9=> ?_
 refine ac ?_
 refine ag ?_ ?_<;>intro h1 q1
 refine a2 ?_
 refine Tr.ret (Fin.AH (Fin.Gc rfl rfl ?_ rfl ?_))
 · exact EO (LH (by omega)) (by decide)
 · refine int_eq ?_;exact (LH (by omega)).symm
 refine an ?_ ?_<;>intro h2 q2
 refine ac ?_
 refine Tr.ret (Fin.AH (Fin.Gc rfl rfl ?_ rfl ?_))
 · exact EO (LH (by omega)) (by decide)
 · refine int_eq ?_;exact (LH (by omega)).symm
 have Ke:0≤n∧n≤24:=by omega
 obtain ⟨m,hm⟩:∃m:Nat,n=(m:Int):=⟨n.toNat,by omega⟩
 refine a2 ?_
 refine Tr.block (Tr.BH [(0,_),(1,_),(18,_),(19,_)] (fc rfl) (fun k:Nat=>[(20,int ((k:Nat):Int))]) (fun k:Nat=>k≤(l).length∧(∀j y,j<k→l[j]? =some y→C3 n y=false)) (fun k:Nat=>(l).length-k) 0 (⟨Nat.zero_le _,fun j y hj=>absurd hj (by omega)⟩) ⟨ke rfl,trivial⟩ ?_)
 rintro k ⟨BR,AG⟩
 refine ac ?_
 refine Tr.seq ?_
 refine Tr.cn rfl ?_ ?_<;>intro h3 q3
 have Aa:k<(l).length:=AL h3
 obtain ⟨x,AY⟩:=at_ Aa
 refine ac ?_
 refine Tr.seq (Tr.block (Tr.seq (Tr.As (tp rfl (AA rfl underlying39 Er (vl rfl) (vl rfl) (by omega) (AU AY)) (tp rfl (AF rfl KW Er (vl rfl) rfl rfl) ?_)))))
 refine Tl rfl rfl rfl rfl z49 Ot (fun b1=> ?_)
 refine sf 0 7 ⟨rfl,rfl,rfl⟩ rfl rfl rfl rfl ?_
 refine ao ?_
 refine ag ?_ ?_<;>intro h4 q4
 refine ac ?_
 refine Og 0 1 18 19 20 50 rfl ?_
 refine ac ?_
 refine Tr.ret (Fin.Ah (Fin.AH (Fin.AH (Fin.Ah (Fin.AH (Fin.Gc rfl rfl ?_ rfl ?_))))))
 · exact EO (Dv Ke AY (by unfold C3;rw [decide_eq_true_eq];omega)) (by decide)
 · refine int_eq ?_;exact (Dv Ke AY (by unfold C3;rw [decide_eq_true_eq];omega)).symm
 refine ag ?_ ?_<;>intro h5 q5
 refine ac ?_
 refine Og 0 1 18 19 20 50 rfl ?_
 refine ac ?_
 refine Tr.ret (Fin.Ah (Fin.AH (Fin.AH (Fin.Ah (Fin.AH (Fin.Gc rfl rfl ?_ rfl ?_))))))
 · exact EO (Dv Ke AY (by unfold C3;rw [decide_eq_true_eq];omega)) (by decide)
 · refine int_eq ?_;exact (Dv Ke AY (by unfold C3;rw [decide_eq_true_eq];omega)).symm
 refine ag ?_ ?_<;>intro h6 q6
 refine ac ?_
 refine Og 0 1 18 19 20 50 rfl ?_
 refine ac ?_
 refine Tr.ret (Fin.Ah (Fin.AH (Fin.AH (Fin.Ah (Fin.AH (Fin.Gc rfl rfl ?_ rfl ?_))))))
 · exact EO (Dv Ke AY (by unfold C3;rw [decide_eq_true_eq];omega)) (by decide)
 · refine int_eq ?_;exact (Dv Ke AY (by unfold C3;rw [decide_eq_true_eq];omega)).symm
 refine ag ?_ ?_<;>intro h7 q7
 refine ac ?_
 refine Og 0 1 18 19 20 50 rfl ?_
 refine ac ?_
 refine Tr.ret (Fin.Ah (Fin.AH (Fin.AH (Fin.Ah (Fin.AH (Fin.Gc rfl rfl ?_ rfl ?_))))))
 · exact EO (Dv Ke AY (by unfold C3;rw [decide_eq_true_eq];omega)) (by decide)
 · refine int_eq ?_;exact (Dv Ke AY (by unfold C3;rw [decide_eq_true_eq];omega)).symm
 refine ac ?_
 refine Og 0 1 18 19 20 50 rfl ?_
 refine Tr.cn rfl ?_ ?_<;>intro h8 q8
 refine ac ?_
 refine Tr.ret (Fin.Ah (Fin.AH (Fin.AH (Fin.Ah (Fin.AH (Fin.Gc rfl rfl ?_ rfl ?_))))))
 · exact EO (Dv Ke AY (by unfold C3;rw [decide_eq_true_eq];omega)) (by decide)
 · refine int_eq ?_;exact (Dv Ke AY (by unfold C3;rw [decide_eq_true_eq];omega)).symm
 refine a2 ?_
 exact Fin.AK (k+1) ⟨⟨Aa,CB (p:=C3 n) AY (by unfold C3;rw [decide_eq_false_iff_not];omega) AG⟩,by omega⟩ ⟨⟨_,rfl,AE k⟩,ke rfl,ke rfl,ke rfl,ke rfl,trivial⟩
 have A_:k=(l).length:=by have:=AM h3;omega
 subst A_
 refine ac ?_
 refine Tr.seq (Tr.seq ?_)
 have hall:=Zz AG
 clear AG
 refine ac ?_
 refine Tr.block (Tr.BH [(0,_),(1,_),(53,_)] (Nr rfl) (fun k:Nat=>[(54,int ((k:Nat):Int))]) (fun k:Nat=>k≤(l).length∧(∀(j:Nat) a b,j+1<k→l[j]? =some a→l[j+1]? =some b→EM a b=true)) (fun k:Nat=>(l).length-k) 0 (⟨Nat.zero_le _,fun j a b hj=>absurd hj (by omega)⟩) ⟨ke rfl,trivial⟩ ?_)
 rintro k ⟨BR,AG⟩
 refine ac ?_
 refine Tr.seq ?_
 refine Tr.cn rfl ?_ ?_<;>intro h9 q9
 have Aa:k<(l).length:=AL h9
 obtain ⟨x,AY⟩:=at_ Aa
 refine a2 ?_
 refine ag ?_ ?_<;>intro h10 O9
 obtain ⟨y,hy⟩:=at_ (l:=l) (k:=k-1) (by omega)
 refine ac ?_
 refine cy h10 rfl (AA rfl underlying39 Er (vl rfl) (vl rfl) (by omega) (LR (by omega) hy)) ?_
 refine ac ?_
 refine cy h10 rfl (AA rfl underlying39 Er (vl rfl) (vl rfl) (by omega) (AU AY)) (cy h10 rfl (AF rfl KW Er (vl rfl) rfl rfl) ?_)
 refine cy h10 rfl (DK (Rj (a:=y) (b:=x)) rfl rfl rfl) ?_
 refine ac ?_
 refine K5 0 1 53 54 71 rfl ?_
 refine Tr.cn rfl ?_ ?_<;>intro h11 SS
 refine ac ?_
 refine Tr.ret (Fin.Ah (Fin.AH (Fin.AH (Fin.Ah (Fin.AH (Fin.Gc rfl rfl ?_ rfl ?_))))))
 · exact EO (S6 Ke hall (by omega) hy AY (by have h_:=OM (a:=y) (b:=x);simp_all)) (by decide)
 · refine int_eq ?_;exact (S6 Ke hall (by omega) hy AY (by have h_:=OM (a:=y) (b:=x);simp_all)).symm
 refine a2 ?_
 exact Fin.AK (k+1) ⟨⟨Aa,Ko AY (by intro y2 hk2 lz;rw [hy] at lz;cases lz;have h_:=OM (a:=y) (b:=x);simp_all) AG⟩,by omega⟩ ⟨⟨_,rfl,AE k⟩,ke rfl,ke rfl,ke rfl,trivial⟩
 refine ac ?_
 refine K5 0 1 53 54 71 rfl ?_
 refine a2 ?_
 exact Fin.AK (k+1) ⟨⟨Aa,Ko AY (by intro y2 hk2 lz;omega) AG⟩,by omega⟩ ⟨⟨_,rfl,AE k⟩,ke rfl,ke rfl,ke rfl,trivial⟩
 have A_:k=(l).length:=by have:=AM h9;omega
 subst A_
 refine ac ?_
 refine Tr.seq ?_
 have Z0:=Rm AG
 subst hm
 refine ao ?_
 refine TO.Hu 0 rfl rfl (by decide) (Ag rfl rfl (by decide) rfl (UR (n:=m) (by omega) hall) ⟨ke rfl,ke rfl,trivial⟩) ?_
 refine ao ?_
 refine Tr.seq (Tr.seq ?_)
 have Xo:=CX m l
 refine ac ?_
 refine Fw 9 79 80 81 rfl (Tr.block (Tr.BH [(9,_),(79,_),(80,_)] (Nr rfl) (fun i:Nat=>[(81,int ((i:Nat):Int))]) (fun i:Nat=>i≤(Du m l).length∧(∀j,j<i→Cd l m j j=false)) (fun i:Nat=>(Du m l).length-i) 0 (⟨Nat.zero_le _,fun j hj=>absurd hj (by omega)⟩) ⟨ke rfl,trivial⟩ ?_))
 rintro i ⟨PJ,EL⟩
 refine ac ?_
 refine Tr.seq ?_
 refine Tr.cn rfl ?_ ?_<;>intro h12 Tw
 have GV:i<(Du m l).length:=AL h12
 obtain ⟨x,HD⟩:=at_ GV
 refine a2 ?_
 refine co rfl (AA rfl underlying148 Ee (vl rfl) (vl rfl) (by omega) (Pz HD)) ?_
 refine a2 ?_
 refine co rfl (DK (OL) rfl rfl rfl) ?_
 refine an ?_ ?_<;>intro MU Uj
 refine ac ?_
 refine CY 4 5 rfl (Tr.ret (Fin.Ah (Fin.AH (Fin.AH (Fin.Ah (Fin.AH (Fin.Gc rfl rfl ?_ rfl ?_)))))))
 · exact EO (P0 (by omega) hall Z0 (i:=i) (by omega) (by have h_:=(E0 (l:=l) (show m≤32 by omega)).2 i x HD i;simp_all)) (by decide)
 · refine int_eq ?_;exact (P0 (by omega) hall Z0 (i:=i) (by omega) (by have h_:=(E0 (l:=l) (show m≤32 by omega)).2 i x HD i;simp_all)).symm
 refine a2 ?_
 exact Fin.AK (i+1) ⟨⟨GV,(fun j hj=>by rcases Nat.lt_or_ge j i with h_|h_;exact EL j h_;(obtain rfl:j=i:=by omega);have h_:=(E0 (l:=l) (show m≤32 by omega)).2 j x HD j;simp_all;done)⟩,by omega⟩ ⟨⟨_,rfl,AE i⟩,ke rfl,ke rfl,ke rfl,trivial⟩
 have Kz:i=(Du m l).length:=by have:=AM h12;omega
 rw [CX] at Kz
 subst Kz
 refine a2 ?_
 refine Tr.ret (Fin.Gc rfl rfl ?_ rfl ?_)
 · rw [S5 (S7 (by omega) hall Z0 EL)];exact Lr
 · refine int_eq ?_;exact (S7 (by omega) hall Z0 EL).symm
theorem XR {n:Nat} {B:List (BitVec 32)} {p:Pr} {s:BitVec 32} (hB:B.length=n) (hn:n≤24):A9 prog 48 [ref [int ((n:Nat):Int),bits B,p],u32 s] (u32 (Gs B s n)):=by
 refine fo func48 rfl ⟨rfl,rfl⟩ fun M0 w0=> ?_
 refine a3 ?_
 refine Tr.block (Tr.BH [(0,_),(1,_),(10,_)] (Nr rfl) (fun k:Nat=>[(11,int ((k:Nat):Int)),(5,u32 (Gs B s k))]) (fun k:Nat=>k≤n) (fun k:Nat=>n-k) 0 (Nat.zero_le _) ⟨ke rfl,⟨_,rfl,Pp⟩,trivial⟩ ?_)
 rintro k hk0
 refine ac ?_
 refine Tr.seq ?_
 refine Tr.cn rfl ?_ ?_<;>intro h1 q1
 have hk:k<n:=AL h1
 obtain ⟨x,hx⟩:=at_ (l:=B) (k:=k) (by omega)
 · repeat' first|exact Fin.AK (k+1) ⟨by omega,by omega⟩ ⟨⟨_,rfl,AE k⟩,⟨_,rfl,Pr.le_of_eq (congrArg u32 (XO hx (by simp_all) (by simp_all)).symm)⟩,ke rfl,ke rfl,ke rfl,trivial⟩|exact Fin.AK (k+1) ⟨by omega,by omega⟩ ⟨⟨_,rfl,AE k⟩,⟨_,rfl,Pr.le_of_eq (congrArg u32 (Zx hx (by simp_all)).symm)⟩,ke rfl,ke rfl,ke rfl,trivial⟩|refine co rfl (DK (OL (b:=s) (i:=k)) rfl rfl rfl) ?_|refine cy h rfl (AA rfl underlying148 Ee (vl rfl) (vl rfl) (by omega) (Pz hx)) ?_|refine cy h rfl (Kl rfl (vl rfl) (vl rfl)) (cy h rfl (XF rfl (vl rfl) (vl rfl)) ?_)|refine co rfl (HK (b:=1#32) rfl (vl rfl) (vl rfl) (Int.natCast_nonneg _)) ?_|refine co rfl (JZ rfl (vl rfl) (vl rfl)) ?_|refine ac ?_|(refine Tr.cn rfl ?_ ?_<;>intro h q)|(refine Ch.cg rfl rfl rfl ?_ ?_<;>intro h q)
 obtain rfl:k=n:=by have:=AM h1;omega
 refine a3 ?_
 · exact Lr
theorem XS {n:Int} {l:List BU}  :BJ prog 31 [int n,reqs l] (Iv [ints (if Ar n l=0 then (BW n.toNat l n.toNat).1 else []),int (Ar n l)]) (ER) (fun _=>ER):=by
 refine BJ.of func31 rfl rfl (by exact Nb rfl) fun M0 w0 S rs M1 w1=> ?_
 refine ac ?_
 refine ap ?_
 refine TO.Hu 0 rfl rfl (by decide) (Ag rfl rfl (by decide) rfl (S8 (n:=n) (l:=l)) ⟨ke rfl,ke rfl,trivial⟩) ?_
 refine ap ?_
 refine an ?_ ?_<;>intro h1 q1
 refine ac ?_
 refine CY 4 5 rfl (Tr.ret (Fin.AH (Fin.Gc rfl rfl ?_ rfl ?_)))
 · refine Pr.le_trans (AV 1) (Pr.le_of_eq ?_);rw [if_neg (by assumption)];rfl
 · exact Lr
 have hv:Ar n l=0:=by simpa using h1
 obtain ⟨h0,_⟩:=CV hv
 obtain ⟨m,rfl⟩:∃m:Nat,n=(m:Int):=⟨n.toNat,by omega⟩
 refine Tr.re 6 rfl (Pr.le_of_eq (S5 hv)) ?_
 refine a3 ?_
 refine Fw 0 6 8 9 rfl ?_
 refine ac ?_
 refine Tr.block (Tr.DB 3 1 (Tr.Ld [(6,_),(20,_)] ⟨ke rfl,ke rfl,trivial⟩ (fun (s:BitVec 32) (k:Nat) v=>[(21,int ((k:Nat):Int)),(9,u32 s),(8,Ab v (ints (BW m l k).1))]) (fun (s:BitVec 32) (k:Nat) v=>Hp M0 w0 S (Ax 3 1 v::ER::AZ M1 w1::rs)) (fun (s:BitVec 32) (k:Nat)=>k≤m∧Km m s (BW m l k).2) (fun (s:BitVec 32) (k:Nat)=>m-k) (0#32) (0) (.slice none 0 0) (⟨Nat.zero_le _,RX m⟩) ⟨ke rfl,⟨_,rfl,Pp⟩,⟨_,rfl,Cg rfl⟩,trivial⟩ (fun _ _ h=>h) ?_))
 rintro s k v ⟨hk0,hs⟩
 refine ac ?_
 refine Tr.seq ?_
 refine Tr.cn rfl ?_ ?_<;>intro h2 q2
 have hk:k<m:=AL h2
 have hg:=XQ (k:=k) hv hk hs
 have hfl:(BW m l k).1.length=k:=(D6 hv k (by simpa using hk0)).2
 refine ac ?_
 refine ap ?_
 refine tp rfl (DK (XR (n:=m) (CX m l) (by omega)) rfl rfl rfl) ?_
 refine TO.Hu 1 rfl rfl (by decide) (Ag rfl rfl (by decide) rfl (XI hg.1) ⟨ke rfl,trivial⟩) ?_
 refine ap ?_
 refine ac ?_
 refine co rfl (HK (b:=1#32) rfl (vl rfl) (vl rfl) (Int.natCast_nonneg _)) ?_
 refine co rfl (JZ rfl (vl rfl) (vl rfl)) ?_
 refine ac ?_
 refine Og 6 8 9 10 20 21 rfl ?_
 refine ap ?_
 refine TO.GJ 0 rfl rfl (by decide) (DY rfl rfl rfl rfl underlying91 Ce U8 z3 (Kb rfl) (Kf rfl) (CO (by exact List.Mem.head _) (Ka rfl))) (fun v1=> ?_)
 refine ap ?_
 refine ac ?_
 exact Fin.Ci (Sx s (Ej (Gs (Du m l) s m))) (k+1) v1 (⟨⟨hk,hg.2.2.2⟩,by omega⟩) ⟨⟨_,rfl,AE k⟩,ke rfl,⟨_,rfl,CK (by rw [show (BW m l (k+1)).1=(BW m l k).1++[_] from hg.2.2.1,List.map_append];rfl)⟩,ke rfl,ke rfl,trivial⟩ (fun _ _ h=>h)
 obtain rfl:k=m:=by have:=AM h2;omega
 refine a2 ?_
 refine Tr.ret (Fin.drop 0 (Fin.Gc rfl rfl ?_ rfl ?_))
 · refine Pr.le_trans (Ai _ _) (Pr.le_of_eq ?_);rw [if_pos hv];rfl
 · refine int_eq ?_;exact hv.symm
theorem XT {n:Int} {l:List BU}  :BJ prog 34 [int n,reqs l] (int (Ar n l)) (ER) (fun _=>ER):=by
 refine BJ.of func34 rfl rfl (by exact Nb rfl) fun M0 w0 S rs M1 w1=> ?_
 refine ac ?_
 refine ap ?_
 refine TO.Hu 0 rfl rfl (by decide) (Ag rfl rfl (by decide) rfl (S8 (n:=n) (l:=l)) ⟨ke rfl,ke rfl,trivial⟩) ?_
 refine ap ?_
 refine ac ?_
 refine Tr.ret (Fin.D8 rfl rfl ?_ (fun _ _ _ _=>rfl))
 · exact Lr
end Go.Proofs.YtppdobdifkefcaaGreatDoor
namespace Cp
open Go Go.RowKit Go.Great
section
variable {P:Program} {L:Lg P} {n:Fm} {fz:Nat} {E:Env} {M0:Av} {w0:World} {S:Nat→Prop} {o:Oper}
def Rn (T:TypeId) (u v:Value):Ae:=match v with| .pointer (some a)=>AB true a.block T (u.cells.toList.map is)|_=>BC
theorem S9 {j d s:Nat} {R:SR} {p1 q:Pr} {p:Value→Pr} {R':Value→Value→Ae} (hd:o.dst=some d) (hs:d≠s) (hq:∀v,Pr.le (p v) q) (hg:o.guard=none) (h1:E.lookup s=some p1) (hls:s∈looks o) (h:∀v,C5 P M0 w0 S n j R ⟨d,R' v⟩ o ((s,Ab v p1)::E) (p v)):C5 P M0 w0 S n j R ⟨.two d s,Px R'⟩ o E q:=by
 refine ⟨hg,fun M w a rs hsz he hI hj=> ?_⟩
 refine D3.conv (hq _) (fun v=> ?_) ((h (a.tmps.getD s undef)).2 M w a rs hsz (GY he s (he s p1 hls h1)) hI hj)
 rw [LG,hd,At (Ne.symm hs)];rfl
theorem Hf {t:TypeId} {s y:Tmp} {j m:Nat} {T:TypeId} {ps qs:List Pr} {p:Pr} (hg:o.guard=none) (hd:o.dst=none) (ho:o.op= .store t (.tmp s) (.tmp y)) (hsy:s≠y) (hx:E.lookup s=some (Cp.ex fun b=>ptr b 0)) (hy:E.lookup y=some p) (hp:Pr.le p (CI qs))
  (hz:Af P t=some m) (hm:qs.length=m) (hl:ps.length=m):C5 P M0 w0 S n j ⟨s,EG T ps⟩ ⟨.two s y,Px fun u v=>Rn T u v⟩ o E any:=by
 refine ⟨hg,fun M w a rs hsz he hI hj=> ?_⟩
 have n5:y∈looks o:=NU (op:= .store t (.tmp s) (.tmp y)) (by simp [Op.operands]) ho
 have hpy:=hp _ _ _ (he y p n5 hy)
 have hle:Pr.le (Ab (a.tmps.getD y undef) (CI qs)) (CI ((a.tmps.getD y undef).cells.toList.map is)):=fun M w v h=>by
  obtain ⟨rfl,h2⟩:=h
  obtain ⟨g1,g2⟩:=h2
  exact ⟨I5 _ _ _,g2⟩
 have h:=(Jx (P:=P) (M0:=M0) (w0:=w0) (S:=S) (n:=n) (j:=j) (T:=T) (ps:=ps) (qs:=(a.tmps.getD y undef).cells.toList.map is) (E:=(y,Ab (a.tmps.getD y undef) (CI qs))::E) hg hd ho (by simp only [List.lookup];rw [show (s==y)=false by simpa using hsy];exact hx) ⟨_,List.lookup_cons_self,hle⟩ hz (by have:=hpy.1.length;rw [List.length_map];omega) hl).2 M w a rs hsz (GY he y hpy) hI hj
 refine D3.conv (Pr.le_refl _) (fun v=> ?_) h
 rw [LG,hd];rfl
end
section
variable {P:Program} {L:Lg P} {n:Fm} {fz:Nat} {E:Env} {M0:Av} {w0:World} {S:Nat→Prop} {rs:List Ae} {Q:Exit→Act→World→Prop}
theorem MN {M:Av} {w:World}:∀{zs cs:List Value},HL M w (zs.map is) cs→cs=zs
 |[],[],_=>rfl
 |[],_::_,h=>h.elim
 |_::_,[],h=>h.elim
 |z::zs,c::cs,h=>by
  obtain ⟨h1,h2⟩:=h
  rw [MN h2,show c=z from h1]
theorem Fin.P3 {e:Exit} {T:TypeId} {u:Value} {b:Nat} {ps:List Pr} (i j:Nat) (hi:rs[i]? =some (HM (agg ps) u)) (hj:rs[j]? =some (Rn T u (.pointer (some ⟨b,0,none⟩)))) (k:Fin n E (Hp M0 w0 S (rs.set j (AB true b T ps))) Q e):Fin n E (Hp M0 w0 S rs) Q e:=by
 rintro a w ⟨M,h1,h2,h3,h4⟩
 have h4:Al M0 w0 S rs M w:=h4
 refine k a w ⟨M,h1,h2,h3,Al.CU h4 hj rfl rfl ?_⟩
 obtain ⟨cs,rfl,_,hcs⟩:=(h4.hold _ (List.mem_of_getElem? hi)).1
 obtain ⟨g0,cs',g1,g2,g3⟩:=(h4.hold _ (List.mem_of_getElem? hj)).1
 have e1:cs'=cs:=by
  have:=MN g2
  rw [this];show cs.toArray.toList=cs;simp
 subst e1
 exact ⟨g0,cs',g1,hcs,g3⟩
end
end Cp
namespace Go.Proofs.YtppdobdifkefcaaGreatDoor
open Go Go.RowKit Cp Go.Proofs.Tryz
abbrev Fv (l:List B8):Pr:=slice 8 (l.map GR)
def Jc (c:Aq) (x:B8):Bool:=decide (x.BA<0)||decide (x.BA≥c.Gr.length)
def FB (c:Aq) (x:B8):Int:=c.Gr.getD x.BA.toNat 0
def C4 (c:Aq) (l:List B8):Int:=if 24<l.length then 3 else if l.any (Jc c) then 40 else 0
def Is (c:Aq) (l:List B8):List Int:=if C4 c l=0 then l.map (FB c) else []
open Classical in
noncomputable def DF (e:FC) (c:Aq) (l:List B8):Int:=if J4 e=false then 31 else if c.check (e.Cu.length:Nat)≠0 then c.check (e.Cu.length:Nat) else C4 c l
noncomputable def US (e:FC) (c:Aq) (l:List B8):List Int:=if DF e c l=0 then l.map (FB c) else []
theorem S_ {c:Aq} {l:List B8} (h:24<l.length):C4 c l=3:=by unfold C4;rw [if_pos h]
theorem Jd {c:Aq} {l:List B8} {k:Nat} {x:B8} (h:¬24<l.length) (hx:l[k]? =some x) (hb:Jc c x=true):C4 c l=40:=by unfold C4;rw [if_neg h,if_pos (List.any_eq_true.2 ⟨x,List.mem_of_getElem? hx,hb⟩)]
theorem ON {c:Aq} {l:List B8} (h:¬24<l.length) (hb:∀j y,j<l.length→l[j]? =some y→Jc c y=false):C4 c l=0:=by
 unfold C4;rw [if_neg h,if_neg]
 rw [Bool.not_eq_true,List.any_eq_false]
 intro y hy
 obtain ⟨j,hj⟩:=List.mem_iff_getElem?.1 hy
 rw [hb j y (by rcases Nat.lt_or_ge j l.length with h2|h2;exact h2;rw [List.getElem?_eq_none h2] at hj;cases hj) hj];decide
theorem MO {c:Aq} {l:List B8} {e:Int} (h:C4 c l=e) (he:e≠0):Is c l=[]:=by unfold Is;rw [if_neg (by rw [h];exact he)]
theorem P4 {c:Aq} {l:List B8} (h:C4 c l=0):Is c l=l.map (FB c):=by unfold Is;rw [if_pos h]
theorem XU {c:Aq} {x:B8} (h:0≤x.BA∧x.BA<c.Gr.length):c.Gr[x.BA.toNat]? =some (FB c x):=by
 unfold FB;rw [List.getD_eq_getElem?_getD,List.getElem?_eq_getElem (by omega)];rfl
theorem XV {c:Aq} {l:List B8} {k:Nat} {x:B8} (h:l[k]? =some x):(((l.take k).map (FB c)).map fun n=>[int n])++[[int (FB c x)]]=((l.take (k+1)).map (FB c)).map fun n=>[int n]:=by
 rw [List.take_add_one,h,List.map_append,List.map_append];rfl
def mD (l:List Int):Int:=l.foldl max (-1)
theorem P5 {c:Aq} {l:List B8}  :A9 prog 37 [Hq c,Fv l] (Iv [ints (Is c l),int (C4 c l)]):=by
 refine fo func37 rfl ⟨rfl,rfl⟩ fun M0 w0=>(Tr.Fg 1 rfl fun V9=>(Tr.Gw 0 1 rfl rfl fun OI=> ?_))
 refine ac ?_
 refine an ?_ ?_<;>intro h1 q1
 refine ac ?_
 refine Tr.ret (Fin.AH (Fin.Eg rfl (DA.Ht _ _) rfl ?_ rfl ?_))
 · rw [MO (S_ (by omega)) (by decide)];exact AV 1
 · refine int_eq ?_;exact (S_ (by omega)).symm
 refine a3 ?_
 refine Tr.block (Tr.DB 3 1 (Tr.Gx [(2,_),(12,_),(13,_)] ⟨ke rfl,ke rfl,ke rfl,trivial⟩ (fun k v=>[(14,int ((k:Nat):Int)),(6,Ab v (ints ((l.take k).map (FB c))))]) (fun k v=>Hp M0 w0 OR ([Ax 3 1 v])) (fun k:Nat=>k≤(l).length∧(∀j y,j<k→l[j]? =some y→Jc c y=false)) (fun k:Nat=>(l).length-k) 0 (.slice none 0 0) (⟨Nat.zero_le _,fun j y hj=>absurd hj (by omega)⟩) ⟨ke rfl,⟨_,rfl,Cg rfl⟩,trivial⟩ (fun _ _ h=>h) ?_))
 rintro k v ⟨BR,AG⟩
 refine ac ?_
 refine Tr.seq ?_
 refine Tr.cn rfl ?_ ?_<;>intro h2 q2
 have Aa:k<(l).length:=AL h2
 obtain ⟨x,AY⟩:=at_ Aa
 refine ac ?_
 refine Tr.seq (Tr.block (Tr.seq (Tr.As (tp rfl (AA rfl underlying37 Ct (vl rfl) (vl rfl) (by omega) (AU AY)) (tp rfl (AF rfl G0 Ct (vl rfl) rfl rfl) ?_)))))
 refine Tl rfl rfl rfl rfl Lj JD (fun b1=> ?_)
 refine sf 0 8 ⟨rfl,rfl,rfl⟩ rfl rfl rfl rfl ?_
 refine ao ?_
 refine ag ?_ ?_<;>intro h3 q3
 refine ac ?_
 refine TT 2 6 8 12 13 14 28 rfl ?_
 refine ac ?_
 refine Tr.ret (Fin.AH (Fin.Ah (Fin.AH (Fin.AH (Fin.Ah (Fin.AH (Fin.Eg rfl (DA.Ht _ _) rfl ?_ rfl ?_)))))))
 · rw [MO (Jd (by omega) AY (by unfold Jc;simp;omega)) (by decide)];exact AV 1
 · refine int_eq ?_;exact (Jd (by omega) AY (by unfold Jc;simp;omega)).symm
 refine ac ?_
 refine TT 2 6 8 12 13 14 28 rfl ?_
 refine Tr.cn rfl ?_ ?_<;>intro h4 q4
 refine ac ?_
 refine Tr.ret (Fin.AH (Fin.Ah (Fin.AH (Fin.AH (Fin.Ah (Fin.AH (Fin.Eg rfl (DA.Ht _ _) rfl ?_ rfl ?_)))))))
 · rw [MO (Jd (by omega) AY (by unfold Jc;simp;omega)) (by decide)];exact AV 1
 · refine int_eq ?_;exact (Jd (by omega) AY (by unfold Jc;simp;omega)).symm
 have htm:=XU (c:=c) (x:=x) (by omega)
 refine ac ?_
 refine ao ?_
 refine tp rfl (AA rfl underlying22 Ce (vl rfl) (vl rfl) (by omega) (Cf htm)) ?_
 refine ao ?_
 refine TO.GJ 0 rfl rfl (by decide) (DY rfl rfl rfl rfl underlying22 Ce U8 z3 (Kb rfl) (Kf rfl) (CO (by exact List.Mem.head _) (Ka rfl))) (fun v1=> ?_)
 refine ao ?_
 refine K5 2 6 12 13 14 rfl ?_
 refine ac ?_
 exact Fin.Hv (k+1) v1 (⟨⟨Aa,CB (p:=Jc c) AY (by unfold Jc;simp;omega) AG⟩,by omega⟩) ⟨⟨_,rfl,AE k⟩,⟨_,rfl,CK (XV AY)⟩,ke rfl,ke rfl,ke rfl,trivial⟩ (fun _ _ h=>h)
 have A_:k=(l).length:=by have:=AM h2;omega
 subst A_
 refine a2 ?_
 refine Tr.ret (Fin.Eg rfl (DA.Ht _ _) rfl ?_ rfl ?_)
 · rw [P4 (ON (by omega) AG)];exact Pr.le_trans (Ai _ _) (Pr.le_of_eq (by rw [List.take_length]))
 · refine int_eq ?_;exact (ON (by omega) AG).symm
theorem P6 {e:FC} {c:Aq} {l:List B8} (hf:e.fits):A9 prog 30 [agg (JQ e),Hq c,Fv l] (Iv [ints (US e c l),int (DF e c l)]):=by
 refine fo func30 rfl ⟨rfl,rfl⟩ fun M0 w0=>(Tr.Gw 0 0 rfl rfl fun HW=> ?_)
 refine a2 ?_
 refine co rfl (CN (WT hf) rfl rfl) ?_
 refine an ?_ ?_<;>intro h1 q1
 have hb:J4 e=false:=by cases h_:J4 e with|false=>rfl|true=>exact absurd h1 (by rw [h_];decide)
 have Wy:DF e c l=31:=by unfold DF;rw [if_pos hb]
 refine ac ?_
 refine Tr.ret (Fin.AH (Fin.Eg rfl (DA.Ht _ _) rfl ?_ rfl ?_))
 · refine Pr.le_trans (AV 1) (Pr.le_of_eq ?_);unfold US;rw [if_neg (by rw [Wy];decide)];rfl
 · refine int_eq ?_;exact Wy.symm
 have hb:¬J4 e=false:=by intro h_;rw [h_] at h1;exact absurd h1 (by decide)
 refine a2 ?_
 refine co rfl (DK (OH (c:=c) (m:=((e.Cu.length:Nat):Int))) rfl rfl rfl) ?_
 refine a2 ?_
 refine Fw 2 4 8 18 rfl ?_
 refine Tr.cn rfl ?_ ?_<;>intro h2 q2
 have Wy:DF e c l=c.check ((e.Cu.length:Nat):Int):=by unfold DF;rw [if_neg hb,if_pos (by simpa using h2)]
 refine ac ?_
 refine Tr.ret (Fin.AH (Fin.Eg rfl (DA.Ht _ _) rfl ?_ rfl ?_))
 · refine Pr.le_trans (AV 1) (Pr.le_of_eq ?_);unfold US;rw [if_neg (by rw [Wy];simp_all)];rfl
 · refine int_eq ?_;exact Wy.symm
 have Wy:DF e c l=C4 c l:=by unfold DF;rw [if_neg hb,if_neg (by simpa using h2)]
 refine a2 ?_
 refine co rfl (DK (P5 (c:=c) (l:=l)) rfl rfl rfl) ?_
 refine ac ?_
 refine Tr.ret (Fin.Eg rfl (DA.Ht _ _) rfl ?_ rfl ?_)
 · refine Pr.le_of_eq ?_;unfold US Is;rw [Wy]
 · refine int_eq ?_;exact Wy.symm
theorem TC {p q:Pr} [One p] [One q] {l:List Int}  :A9 prog 19 [agg [p,q,ints l]] (int (mD l)):=by
 refine fo func19 rfl ⟨rfl,rfl⟩ fun M0 w0=>(Tr.Gw 0 2 rfl rfl fun Sm=> ?_)
 refine a3 ?_
 refine Tr.block (Tr.BH [(7,_),(8,_)] (iO rfl) (fun k:Nat=>[(9,int ((k:Nat):Int)),(3,int ((l.take k).foldl max (-1)))]) (fun k:Nat=>k≤(l).length) (fun k:Nat=>(l).length-k) 0 (Nat.zero_le _) ⟨ke rfl,ke rfl,trivial⟩ ?_)
 rintro k BR
 refine ac ?_
 refine Tr.seq ?_
 refine Tr.cn rfl ?_ ?_<;>intro h1 q1
 have Aa:k<(l).length:=AL h1
 obtain ⟨x,AY⟩:=at_ Aa
 refine ac ?_
 refine Tr.seq (Tr.block (Tr.seq (Tr.Ao (co rfl (AA rfl underlying22 Ce (vl rfl) (vl rfl) (by omega) (AU AY)) ?_))))
 refine a2 ?_
 refine co rfl (LN rfl (vl rfl) (vl rfl)) ?_
 refine a2 ?_
 exact Fin.AK (k+1) ⟨Aa,by omega⟩ ⟨⟨_,rfl,AE k⟩,⟨_,rfl,int_eq (by rw [List.take_add_one,AY,List.foldl_append];rfl)⟩,ke rfl,ke rfl,trivial⟩
 have A_:k=(l).length:=by have:=AM h1;omega
 subst A_
 rw [List.take_length]
 refine a3 ?_
 · exact Lr
theorem UT {l:List BU} (h0:l≠[]) (hl:l.length≤1000000):BJ prog 49 [reqs l] (lens (l.map RP).length) (BC) (fun v=>Cb 49 2 (l.map RP) v):=by
 refine BJ.of func49 rfl rfl (by exact Nb rfl) fun M0 w0 S rs M1 w1=> ?_
 have hpos:=JL (f:=RP) h0
 refine a2 ?_
 refine co rfl (ED rfl underlying39 (vl rfl)) ?_
 refine ac ?_
 refine Tr.ex 4 rfl (fun z1=>Tr.fact 4 rfl fun GH=> ?_)
 refine Tr.cn rfl ?_ ?_<;>intro h1 q1
 exfalso;have:=GH h1;simp_all
 refine ac ?_
 refine ap ?_
 refine TO.pad ?_
 refine TO.GJ 0 rfl rfl (by decide) (GN rfl rfl (by decide) rfl underlying39 Er bw z49 rfl (by decide) (by decide) (vl rfl) (vl rfl) hpos (by rw [List.length_map];unfold maxLen;omega) (by rw [List.length_map];omega)) (fun v1=> ?_)
 refine ap ?_
 refine Tr.ret (Fin.drop 1 ?_)
 refine Fin.D8 rfl rfl ?_ (by intro _ _ _ h;rw [h.1])
 · exact Ai _ _
theorem UU   :A9 prog 49 [slice 2 []] (full 2 []):=by
 refine fo func49 rfl ⟨rfl,rfl⟩ fun M0 w0=> ?_
 refine a2 ?_
 refine co rfl (ED rfl underlying39 (vl rfl)) ?_
 refine ac ?_
 refine Tr.ex 4 rfl (fun z1=>Tr.fact 4 rfl fun GH=> ?_)
 · repeat' first|exact F1 2|exact Lr|refine co rfl (JJ rfl underlying39 Er (vl rfl) (vl rfl)) ?_|refine ac ?_|(refine Tr.cn rfl ?_ ?_<;>intro h q)
theorem UW {l:List BU} (hl:l.length≤1000000):A9 Tryz.prog 49 [reqs l] (reqs l):=by
 by_cases h0:l=[]
 · subst h0;exact A9.le UU (fun _ _ _ h=>h) (Am _ _)
 · exact (BJ.jc (rows:=l.map RP) (BD fun _=>rfl) (UT h0 hl)).pure
theorem XW {l:List B8} {r:List BU} {d:List Int} (OU:∀x∈l,x.JM.small) (hl:l.length≤1000000) (hr:r.length≤1000000) (hd:d.length≤1000000):O6 prog 32 [agg [Fv l,reqs r,ints d]] (fun x=>agg [Fv l,reqs r,is x]) (fun x=>[BQ 3 1 (d.map fun n=>[int n]) x]):=by
 refine O6.of func32 rfl rfl (by exact Nb rfl) fun M0 w0 S rs M1 w1=>(Tr.Gw 0 0 rfl rfl fun HW=>(Tr.seq (Tr.As (tp rfl (Dh rfl (Va rfl)) ?_))))
 refine Tl rfl rfl rfl rfl z42 Gz (fun b1=> ?_)
 refine ao ?_
 refine Tr.seq (Tr.pad (Tr.pad (Tr.pad (Tr.rx ?_))))
 refine ax ?_
 refine xo rfl (fun _=>CN (UW hr) rfl rfl) ?_
 refine ax ?_
 refine Cx.ef 0 rfl rfl (by decide) (FW rfl rfl (by decide) rfl (Tm (l:=d) hd) ⟨ke rfl,trivial⟩) ?_
 refine Cx.ef 1 rfl rfl (by decide) (S9 (d:=12) (s:=11) (p:=fun v=>agg [is (.slice none 0 0),reqs r,Ab v (lens d.length)]) (q:=agg [is (.slice none 0 0),reqs r,lens d.length]) rfl (by decide) (fun _=>BB ⟨Lr,Lr,Ai _ _,trivial⟩) rfl rfl (by decide) (fun v=>Rc rfl rfl (by decide) (fun _=>Ad (rows:=[(1,[_]),(2,[_])]) rfl TX Gz ⟨⟨rfl,VL.le (vl rfl) (AD _)⟩,⟨⟨rfl,VL.le (vl rfl) (AD _)⟩,trivial⟩⟩ rfl))) (Cx.ef 2 rfl rfl (by decide) (Ex rfl rfl (by decide) rfl z42 Gz) (Cx.Ew 2 rfl rfl (Hf rfl rfl rfl (by decide) rfl rfl (AJ _) Di rfl rfl) ?_))
 refine Cx.nil ⟨by kernel_rfl,?_⟩
 refine BE.S4 11 rfl (fun v11=> ?_)
 refine BE.S4 12 rfl (fun v12=> ?_)
 refine BE.S4 3 rfl (fun v3=> ?_)
 refine BE.UN 0 11 rfl rfl (BE.Rd 1 12 11 rfl rfl rfl (BE.Rd 2 3 12 rfl rfl rfl (BE.done al5 (Fin.shape 3 (fun b=> .pointer (some ⟨b,0,none⟩)) rfl (fun b9 e9=> ?_)))))
 subst e9
 refine Fin.P3 1 2 rfl rfl (Fin.drop 1 (Fin.go (FX 1 2 3 rfl ?_)))
 refine ac ?_
 refine Tr.block (Tr.Iw 1 [Ab (.slice none 0 0) (Fv (l.take 0)),reqs r,Ab v11 (lens d.length)] rfl ⟨Cg rfl,Lr,Lr,trivial⟩ (Tr.DB 62 8 (Tr.Gx [(2,_),(3,_),(14,_),(15,_)] ⟨ke rfl,ke rfl,ke rfl,ke rfl,trivial⟩ (fun k u=>[(16,int ((k:Nat):Int))]) (fun k u=>Hp M0 w0 S (Ax 62 8 u::BQ 3 1 (d.map fun n=>[int n]) v11::AB true b9 42 [Ab u (Fv (l.take k)),reqs r,Ab v11 (lens d.length)]::AB true b1 42 (([.slice none 0 0,.slice none 0 0,.slice none 0 0]:List Value).map is)::AZ M1 w1::rs)) (fun k:Nat=>k≤(l).length) (fun k:Nat=>(l).length-k) 0 (.slice none 0 0) (Nat.zero_le _) ⟨ke rfl,trivial⟩ (fun _ _ h=>h) ?_)))
 rintro k u BR
 refine ac ?_
 refine Tr.seq ?_
 refine Tr.cn rfl ?_ ?_<;>intro h1 q1
 have Aa:k<(l).length:=AL h1
 obtain ⟨x,AY⟩:=at_ Aa
 refine ac ?_
 refine Tr.seq (Tr.block (Tr.seq (Tr.As (tp rfl (AA rfl underlying37 Ct (vl rfl) (vl rfl) (by omega) (AU AY)) (tp rfl (AF rfl G0 Ct (vl rfl) rfl rfl) ?_)))))
 refine Tl rfl rfl rfl rfl Lj JD (fun b10=> ?_)
 refine sf 0 5 ⟨rfl,rfl,rfl⟩ rfl rfl rfl rfl ?_
 refine ao ?_
 refine Tr.pad (Tr.rx ?_)
 refine ax ?_
 refine xo rfl (fun _=>CN (Y5 (c:=x) (OU x (List.mem_of_getElem? AY))) rfl rfl) ?_
 refine xo rfl (fun _=>AQ (xs:=[.tmp 23]) (rows:=[_]) rfl rfl underlying37 Ct Lj rfl (by decide) ⟨⟨(by exact rfl),(Va rfl)⟩,trivial⟩ (by decide)) ?_
 refine Cx.ef 1 rfl rfl (by decide) (DY rfl rfl rfl rfl underlying37 Ct Ov Lj (Kb rfl) (Kf rfl) (CO (by exact List.Mem.head _) (Ka rfl))) ?_
 refine xo rfl (fun _=>AO rfl Ju (vl rfl)) (Cx.Ew 3 rfl rfl (HP rfl rfl rfl (vl rfl) rfl iU (by exact Nb rfl)) ?_)
 refine Cx.nil ⟨by kernel_rfl,?_⟩
 refine BE.SE 1 3 25 rfl rfl (by decide) rfl (fun v1=> ?_)
 refine BE.done al6 ?_
 refine ac ?_
 refine Tr.drop 0 (K5 2 3 14 15 16 rfl ?_)
 refine ac ?_
 refine Fin.Iw 2 [Ab v1 (Fv (l.take (k+1))),reqs r,Ab v11 (lens d.length)] rfl ⟨CK (by rw [List.take_add_one,AY,List.map_append];rfl),Lr,Lr,trivial⟩ ?_
 exact Fin.Hv (k+1) v1 (⟨Aa,by omega⟩) ⟨⟨_,rfl,AE k⟩,ke rfl,ke rfl,ke rfl,ke rfl,trivial⟩ (fun _ _ h=>h)
 have A_:k=(l).length:=by have:=AM h1;omega
 subst A_
 rw [List.take_length]
 refine ac ?_
 refine ao ?_
 refine TO.Ap 3 rfl rfl rfl (vl rfl) (Va rfl) rfl Di rfl rfl ?_
 refine ao ?_
 refine Tr.ret (Fin.drop 0 (Fin.drop 1 (Fin.VZ (Fin.jf v11 [_] rfl (BK.cell 0 rfl rfl ET Di rfl (Lr)) ?_ (List.Perm.refl _)))))
 · exact BB ⟨Ai _ _,Lr,EB _ _,trivial⟩
noncomputable def Je (c:Aq) (l:List B8) (r:List BU) (fr:Int):Option (List Int×List Int×List Int):=Iq c r (l.map (FB c)) fr l.length (BW l.length r l.length).1
open Classical in
noncomputable def Ga (e:FC) (c:Aq) (l:List B8) (r:List BU) (fr:Int):Int:=if DF e c l≠0 then DF e c l else if Ar (l.length:Nat) r≠0 then Ar (l.length:Nat) r else match Je c l r fr with|none=>51|some _=>0
noncomputable def P7 (c:Aq) (l:List B8) (r:List BU) (fr:Int):List Int:=match Je c l r fr with|none=>[]|some p=>p.1
open Classical in
noncomputable def UX (e:FC) (c:Aq) (l:List B8) (r:List BU) (fr:Int):List B8:=if Ga e c l r fr=0 then l else []
open Classical in
noncomputable def UY (e:FC) (c:Aq) (l:List B8) (r:List BU) (fr:Int):List BU:=if Ga e c l r fr=0 then r else []
open Classical in
noncomputable def UZ (e:FC) (c:Aq) (l:List B8) (r:List BU) (fr:Int):List Int:=if Ga e c l r fr=0 then P7 c l r fr else []
noncomputable abbrev XX (e:FC) (c:Aq) (l:List B8) (r:List BU) (fr:Int):List Pr:=[Fv (UX e c l r fr),reqs (UY e c l r fr),ints (UZ e c l r fr)]
section
variable {e:FC} {c:Aq} {l:List B8} {r:List BU} {fr:Int}
theorem Ro (h:DF e c l=0):J4 e=true∧c.check (e.Cu.length:Nat)=0∧C4 c l=0:=by
 unfold DF at h
 cases hb:J4 e with
 |false=>rw [if_pos hb] at h;cases h
 |true=>
  rw [if_neg (by rw [hb];decide)] at h
  by_cases hc:c.check (e.Cu.length:Nat)=0
  · rw [if_neg (not_not_intro hc)] at h;exact ⟨rfl,hc,h⟩
  · rw [if_pos hc] at h;exact absurd h hc
theorem bL (h:DF e c l=0):US e c l=l.map (FB c):=by unfold US;rw [if_pos h]
theorem KC {n:Int} (h:c.check n=0):c.own=0∧(c.Gr.length:Int)=n∧∀t∈c.Gr,c.has t=true:=by
 have h':=h
 unfold Aq.check at h
 split at h
 · cases h
 ·
  split at h
  · cases h
  ·
   split at h
   · cases h
   ·
    split at h
    · cases h
    ·
     split at h
     · cases h
     ·
      split at h
      · cases h
      ·
       rename_i _ _ _ _ _ h6
       rw [not_or,Classical.not_not,Bool.not_eq_true,List.any_eq_false] at h6
       refine ⟨by unfold Aq.own;rw [h6.1];exact h',h6.1,fun t ht=>by simpa using h6.2 t ht⟩
theorem MP (h:C4 c l=0):l.length≤24∧∀x∈l,Jc c x=false:=by
 unfold C4 at h
 by_cases h1:24<l.length
 · rw [if_pos h1] at h;cases h
 ·
  rw [if_neg h1] at h
  refine ⟨by omega,fun x hx=> ?_⟩
  cases hb:Jc c x with
  |false=>rfl
  |true=>rw [if_pos (List.any_eq_true.2 ⟨x,hx,hb⟩)] at h;cases h
theorem OO (h:C4 c l=0) (ht:∀t∈c.Gr,c.has t=true):∀x∈l.map (FB c),c.has x=true:=fun x hx=>by
 obtain ⟨y,hy,rfl⟩:=List.mem_map.1 hx
 have hb:=(MP h).2 y hy
 unfold Jc at hb
 rw [Bool.or_eq_false_iff,decide_eq_false_iff_not,decide_eq_false_iff_not] at hb
 exact ht _ (List.mem_of_getElem? (XU (by omega)))
theorem bM (h:DF e c l≠0):Ga e c l r fr=DF e c l:=by unfold Ga;rw [if_pos h]
theorem bN (h:DF e c l=0) (hv:Ar (l.length:Nat) r≠0):Ga e c l r fr=Ar (l.length:Nat) r:=by unfold Ga;rw [if_neg (not_not_intro h),if_pos hv]
theorem OP (h:DF e c l=0) (hv:Ar (l.length:Nat) r=0) (hs:Je c l r fr=none):Ga e c l r fr=51:=by unfold Ga;rw [if_neg (not_not_intro h),if_neg (not_not_intro hv),hs]
theorem XY {p:List Int×List Int×List Int} (h:DF e c l=0) (hv:Ar (l.length:Nat) r=0) (hs:Je c l r fr=some p):Ga e c l r fr=0:=by unfold Ga;rw [if_neg (not_not_intro h),if_neg (not_not_intro hv),hs]
theorem XZ (h:Ga e c l r fr≠0):UX e c l r fr=[]∧UY e c l r fr=[]∧UZ e c l r fr=[]:=by unfold UX UY UZ;rw [if_neg h,if_neg h,if_neg h];exact ⟨rfl,rfl,rfl⟩
theorem P8 (h:Ga e c l r fr=0):UX e c l r fr=l∧UY e c l r fr=r∧UZ e c l r fr=P7 c l r fr:=by unfold UX UY UZ;rw [if_pos h,if_pos h,if_pos h];exact ⟨rfl,rfl,rfl⟩
theorem OQ {k:Int} (h:Ga e c l r fr=k) (hk:k≠0):Pr.le (agg [is (.slice none 0 0),is (.slice none 0 0),is (.slice none 0 0)]) (agg (XX e c l r fr)):=by
 obtain ⟨h1,h2,h3⟩:=XZ (e:=e) (c:=c) (l:=l) (r:=r) (fr:=fr) (by rw [h];exact hk)
 unfold XX;rw [h1,h2,h3];exact BB ⟨AV 8,AV 2,AV 1,trivial⟩
theorem Z1 {d b y:List Int} (h:Ga e c l r fr=0) (hs:Je c l r fr=some (d,b,y)):Pr.le (agg [Fv l,reqs r,ints d]) (agg (XX e c l r fr)):=by
 obtain ⟨h1,h2,h3⟩:=P8 h
 unfold XX;rw [h1,h2,h3];unfold P7;rw [hs];exact Pr.le_refl _
theorem Z2 (h:Ga e c l r fr=0):DF e c l=0∧Ar (l.length:Nat) r=0∧∃d b y,Je c l r fr=some (d,b,y)∧P7 c l r fr=d:=by
 unfold Ga at h
 by_cases h1:DF e c l=0
 ·
  rw [if_neg (not_not_intro h1)] at h
  by_cases h2:Ar (l.length:Nat) r=0
  ·
   rw [if_neg (not_not_intro h2)] at h
   refine ⟨h1,h2,?_⟩
   unfold P7
   cases hs:Je c l r fr with
   |none=>rw [hs] at h;cases h
   |some p=>exact ⟨p.1,p.2.1,p.2.2,rfl,rfl⟩
  · rw [if_pos h2] at h;exact absurd h h2
 · rw [if_pos h1] at h;exact absurd h h1
theorem MQ {q:BU} {m:Nat} {d:List Int} {i:Int} (h:r[m]? =some q):DT (r.take (m+1)) d i fr=if q.thn=i then max (DT (r.take m) d i fr) (d.getD q.fst.toNat 0+1) else DT (r.take m) d i fr:=by
 unfold DT;rw [List.take_add_one,h,List.foldl_append];rfl
theorem Dy {l:List Int} {i:Nat} (h:i<l.length):l[i]? =some (l.getD i 0):=by rw [List.getD_eq_getElem?_getD,List.getElem?_eq_getElem h];rfl
end
theorem P9 {e:FC} {c:Aq} {l:List B8} {r:List BU} {fr:Int} (hf:e.fits) (OU:∀x∈l,x.JM.small) (hrl:r.length≤1000000):BJ prog 12 [agg (JQ e),Hq c,Fv l,reqs r,int fr] (Iv [agg (XX e c l r fr),int (Ga e c l r fr)]) (ER) (fun _=>ER):=by
 refine BJ.of func12 rfl rfl (by exact Nb rfl) fun M0 w0 S rs M1 w1=> ?_
 refine Tr.Fg 3 rfl fun sM=>(Tr.seq (Tr.As (tp rfl (Dh rfl (Va rfl)) (tp rfl (Dh rfl (Va rfl)) ?_))))
 refine Tl rfl rfl rfl rfl z42 Gz (fun b1=> ?_)
 refine ao ?_
 refine ac ?_
 refine co rfl (jj (P6 (e:=e) (c:=c) (l:=l) hf) rfl rfl rfl rfl) ?_
 refine ac ?_
 refine TT 2 3 4 6 10 12 13 rfl ?_
 refine an ?_ ?_<;>intro h1 q1
 have hb:DF e c l≠0:=by simpa using h1
 refine ao ?_
 refine TO.Ap 0 rfl rfl rfl (vl rfl) (Va rfl) rfl Di rfl rfl ?_
 refine ao ?_
 refine Tr.ret (Fin.AH (Fin.Oo [_] rfl (BK.cell 0 rfl rfl ET Di rfl (Lr)) (BK.tmp rfl (Lr)) ?_))
 refine EE ⟨?_,?_,trivial⟩
 · exact OQ (bM hb) hb
 · refine int_eq ?_;exact (bM hb).symm
 have hb:DF e c l=0:=by simpa using h1
 obtain ⟨hes,bO,hte⟩:=Ro hb
 obtain ⟨how,htl,mE⟩:=KC bO
 have Ke:=(MP hte).1
 have Zh:=OO hte mE
 obtain ⟨T,hT⟩:∃T,l.map (FB c)=T:=⟨_,rfl⟩
 have hTl:T.length=l.length:=by rw [←hT,List.length_map]
 rw [hT] at Zh
 refine Tr.re 12 rfl (Pr.le_of_eq (by rw [bL hb,hT])) ?_
 refine ac ?_
 refine ao ?_
 refine TO.Hu 1 rfl rfl (by decide) (Ag rfl rfl (by decide) rfl (XS (n:=((l.length:Nat):Int)) (l:=r)) ⟨ke rfl,ke rfl,trivial⟩) ?_
 refine ao ?_
 refine Oh 2 3 4 6 10 12 13 14 rfl ?_
 refine an ?_ ?_<;>intro h2 q2
 have hv:Ar (l.length:Nat) r≠0:=by simpa using h2
 refine ao ?_
 refine TO.Ap 0 rfl rfl rfl (vl rfl) (Va rfl) rfl Di rfl rfl ?_
 refine ao ?_
 refine Tr.ret (Fin.AH (Fin.Oo [_] rfl (BK.cell 0 rfl rfl ET Di rfl (Lr)) (BK.tmp rfl (Lr)) ?_))
 refine EE ⟨?_,?_,trivial⟩
 · exact OQ (bN hb hv) hv
 · refine int_eq ?_;exact (bN hb hv).symm
 have hv:Ar (l.length:Nat) r=0:=by simpa using h2
 obtain ⟨row,hrow⟩:∃row,(BW l.length r l.length).1=row:=⟨_,rfl⟩
 obtain ⟨hrr,rX⟩:=D6 hv l.length (by simp)
 rw [Int.toNat_natCast,hrow] at hrr rX
 have hrq:∀q∈r,(0≤q.fst∧q.fst<l.length)∧0≤q.thn∧q.fst≠q.thn:=fun q hq=>by
  have h_:=(CV hv).2.1 q hq
  unfold C3 at h_;rw [decide_eq_false_iff_not] at h_;omega
 refine Tr.re 14 rfl (Pr.le_of_eq (by rw [if_pos hv,Int.toNat_natCast,hrow])) ?_
 refine ac ?_
 refine ao ?_
 refine tp rfl (MI (m:=l.length) rfl underlying22 Ce U8 z3 rfl (by decide) (by decide) (vl rfl) (vl rfl) (by unfold maxLen;omega) (by omega)) ?_
 refine tp rfl (Ad (rows:=[(0,[_]),(1,[_]),(2,[_])]) rfl TX Gz ⟨⟨rfl,(Vo rfl)⟩,⟨⟨rfl,(Vo rfl)⟩,⟨⟨rfl,⟨_,rfl,Pr.le_trans (Pr.le_trans (Am _ _) (Pr.le_of_eq (show _=slice 1 ((List.replicate l.length (0:Int)).map fun n=>[int n]) by rw [List.map_replicate];rfl))) (AD _)⟩⟩,trivial⟩⟩⟩ rfl) ?_
 refine TO.Vb rfl rfl (by decide) rfl (XW (d:=List.replicate l.length 0) OU (by omega) hrl (by rw [List.length_replicate];omega)) ⟨ke rfl,trivial⟩ (fun v1=> ?_)
 refine Tl rfl rfl rfl rfl z42 Gz (fun b2=> ?_)
 refine TO.Ap 0 rfl rfl rfl (vl rfl) (Va rfl) rfl Di rfl rfl ?_
 refine ao ?_
 refine TT 3 4 6 10 12 14 15 rfl ?_
 refine a2 ?_
 refine Tr.block (Tr.DB 3 1 (Tr.DB 3 1 (Tr.U6 [(3,_),(4,_),(6,_),(10,_),(12,_),(15,_),(55,_),(56,_)] ⟨ke rfl,ke rfl,ke rfl,ke rfl,ke rfl,ke rfl,ke rfl,ke rfl,trivial⟩ (fun (dy:List Int) (b:List Int) (y:List Int) (k:Nat) u u2=>[(57,int ((k:Nat):Int)),(16,Ab u (ints b)),(17,Ab u2 (ints y))]) (fun (dy:List Int) (b:List Int) (y:List Int) (k:Nat) u u2=>Hp M0 w0 S (Ax 3 1 u2::Ax 3 1 u::AB true b2 42 [Fv l,reqs r,is v1]::BQ 3 1 (dy.map fun n=>[int n]) v1::AB true b1 42 (([.slice none 0 0,.slice none 0 0,.slice none 0 0]:List Value).map is)::ER::AZ M1 w1::rs)) (fun (dy:List Int) (b:List Int) (y:List Int) (k:Nat)=>k≤row.length∧Iq c r T fr l.length (row.take k)=some (dy,b,y)) (fun (dy:List Int) (b:List Int) (y:List Int) (k:Nat)=>row.length-k) (List.replicate l.length 0) ([]) ([]) (0) (.slice none 0 0) (.slice none 0 0) (⟨Nat.zero_le _,rfl⟩) ⟨ke rfl,⟨_,rfl,Cg rfl⟩,⟨_,rfl,Cg rfl⟩,trivial⟩ (fun _ _ h=>h) ?_)))
 rintro dy b y k u u2 ⟨hk0,hsc⟩
 have hS:=K1.run (k:=k) hrr (fun q hq=>by have:=hrq q hq;omega) Ke how (fun i h1 h2=>Zh _ (List.mem_of_getElem? (Dy (l:=T) (i:=i.toNat) (by omega)))) hk0 hsc
 have fR:=hS.len
 have Xo:b.length=k:=by rw [hS.hb,List.length_map,List.length_take];omega
 have n5:y.length=k:=by rw [hS.hd,List.length_map,List.length_take];omega
 refine ac ?_
 refine Tr.seq ?_
 refine Tr.cn rfl ?_ ?_<;>intro h3 q3
 have hk:k<row.length:=AL h3
 obtain ⟨i,hi⟩:=at_ hk
 have Pm:=hrr.bE i (List.mem_of_getElem? hi)
 have hti:T[i.toNat]? =some (Mf T i):=Dy (by omega)
 refine ac ?_
 refine Tr.seq (Tr.block (Tr.seq (Tr.Ao (co rfl (AA rfl underlying91 Ce (vl rfl) (vl rfl) (by omega) (AU hi)) ?_))))
 refine ac ?_
 refine iL 3 4 6 10 12 15 16 17 19 55 56 57 rfl ?_
 refine ac ?_
 refine Qb 3 4 6 10 12 15 16 17 19 20 55 56 57 rfl ?_
 refine ac ?_
 refine YF 3 4 6 10 12 15 16 17 19 20 55 56 57 62 63 64 rfl (Tr.block (Tr.BH [(3,_),(4,_),(6,_),(10,_),(12,_),(15,_),(16,_),(17,_),(19,_),(55,_),(56,_),(57,_),(62,_),(63,_)] (oq rfl) (fun m:Nat=>[(64,int ((m:Nat):Int)),(20,int (DT (r.take m) dy i fr))]) (fun m:Nat=>m≤(r).length) (fun m:Nat=>(r).length-m) 0 (Nat.zero_le _) ⟨ke rfl,ke rfl,trivial⟩ ?_))
 rintro m Sf
 refine ac ?_
 refine iM 3 4 6 10 12 15 16 17 19 20 55 56 57 62 63 64 65 rfl (Tr.seq ?_)
 refine Tr.cn rfl ?_ ?_<;>intro h4 q4
 have HE:m<(r).length:=AL h4
 obtain ⟨q,Ft⟩:=at_ HE
 refine ac ?_
 refine YF 3 4 6 10 12 15 16 17 19 20 55 56 57 62 63 64 rfl (Tr.seq (Tr.block (Tr.seq (Tr.As (tp rfl (AA rfl underlying39 Er (vl rfl) (vl rfl) (by omega) (AU Ft)) (tp rfl (AF rfl KW Er (vl rfl) rfl rfl) ?_))))))
 refine Tl rfl rfl rfl rfl z49 Ot (fun b3=> ?_)
 refine sf 0 22 ⟨rfl,rfl,rfl⟩ rfl rfl rfl rfl ?_
 refine ao ?_
 refine iM 3 4 6 10 12 15 16 17 19 20 22 55 56 57 62 63 64 rfl ?_
 refine ac ?_
 refine oo 3 4 6 10 12 15 16 17 19 20 22 55 56 57 62 63 64 71 rfl ?_
 refine Tr.cn rfl ?_ ?_<;>intro h5 q5
 have hqr:=hrq q (List.mem_of_getElem? Ft)
 have hz:=Dy (l:=dy) (i:=q.fst.toNat) (by have:=hS.len;omega)
 have hzb:=hS.nx _ (List.mem_of_getElem? hz)
 refine ac ?_
 refine co rfl (CT 3 rfl (GO rfl underlying22 Ce (vl rfl) (vl rfl) (by omega) (by rw [List.length_map];omega))) ?_
 refine co rfl (CT 3 rfl (Ir rfl DC (vl rfl) (BD fun _=>rfl) (by rw [List.getElem?_map,hz];rfl) rfl)) ?_
 refine SA rfl rfl rfl rfl (by omega) (co rfl (LN rfl (vl rfl) (vl rfl)) ?_)
 refine ac ?_
 refine YF 3 4 6 10 12 15 16 17 19 20 55 56 57 62 63 64 rfl ?_
 refine ac ?_
 exact Fin.AK (m+1) ⟨HE,by omega⟩ ⟨⟨_,rfl,AE m⟩,⟨_,rfl,int_eq (by rw [MQ Ft,if_pos (by simpa using h5)])⟩,ke rfl,ke rfl,ke rfl,ke rfl,ke rfl,ke rfl,ke rfl,ke rfl,ke rfl,ke rfl,ke rfl,ke rfl,ke rfl,ke rfl,trivial⟩
 refine ac ?_
 refine YF 3 4 6 10 12 15 16 17 19 20 55 56 57 62 63 64 rfl ?_
 refine ac ?_
 exact Fin.AK (m+1) ⟨HE,by omega⟩ ⟨⟨_,rfl,AE m⟩,⟨_,rfl,int_eq (by rw [MQ Ft,if_neg (by simpa using h5)])⟩,ke rfl,ke rfl,ke rfl,ke rfl,ke rfl,ke rfl,ke rfl,ke rfl,ke rfl,ke rfl,ke rfl,ke rfl,ke rfl,ke rfl,trivial⟩
 have PK:m=(r).length:=by have:=AM h4;omega
 subst PK
 rw [List.take_length]
 refine ac ?_
 refine Qb 3 4 6 10 12 15 16 17 19 20 55 56 57 rfl ?_
 refine ac ?_
 refine co rfl (AA rfl underlying22 Ce (vl rfl) (vl rfl) (by omega) (Cf hti)) ?_
 refine ac ?_
 refine co rfl (AW rfl (RL (c:=c) (AX:=b) (days:=y) (n:=Mf T i) (from_:=DT r dy i fr)) ⟨ke rfl,(Kb rfl),(Kb rfl),ke rfl,ke rfl,trivial⟩) ?_
 refine ac ?_
 refine om 3 4 6 10 12 15 16 17 19 23 24 25 55 56 57 rfl ?_
 refine ag ?_ ?_<;>intro h6 q6
 have hno:c.early b y (Mf T i) (DT r dy i fr)=none:=by unfold Aq.early;rw [if_neg (by simpa using h6)]
 refine ac ?_
 refine YE 3 4 6 10 12 15 16 17 19 23 55 56 57 100 rfl (Tr.cond rfl (fun _=> ?_) (fun h=>nomatch h))
 refine Tr.seq (Tr.As (tp rfl (Ad (rows:=[]) rfl TX Gz trivial rfl) (TO.Ap 4 rfl rfl rfl (vl rfl) (Va rfl) rfl Di rfl rfl ?_)))
 refine ao ?_
 refine CY 10 11 rfl (Tr.ret (Fin.AH (Fin.Ah (Fin.AH (Fin.AH (Fin.Ah (Fin.AH (Fin.Oo [_,_,_,_,_] rfl (BK.cell 4 rfl rfl ET Di rfl (Lr)) (BK.tmp rfl (Lr)) ?_))))))))
 refine EE ⟨?_,?_,trivial⟩
 · exact OQ (OP hb hv (by unfold Je;rw [hT,hrow];exact HZ hi hsc hno)) (by decide)
 · refine int_eq ?_;exact (OP hb hv (by unfold Je;rw [hT,hrow];exact HZ hi hsc hno)).symm
 refine ac ?_
 refine YE 3 4 6 10 12 15 16 17 19 23 55 56 57 100 rfl ?_
 refine Tr.cn rfl ?_ ?_<;>intro h7 q7
 have hno:c.early b y (Mf T i) (DT r dy i fr)=none:=by simpa using h7
 refine ao ?_
 refine TO.Ap 4 rfl rfl rfl (vl rfl) (Va rfl) rfl Di rfl rfl ?_
 refine ao ?_
 refine CY 10 11 rfl (Tr.ret (Fin.AH (Fin.Ah (Fin.AH (Fin.AH (Fin.Ah (Fin.AH (Fin.Oo [_,_,_,_,_] rfl (BK.cell 4 rfl rfl ET Di rfl (Lr)) (BK.tmp rfl (Lr)) ?_))))))))
 refine EE ⟨?_,?_,trivial⟩
 · exact OQ (OP hb hv (by unfold Je;rw [hT,hrow];exact HZ hi hsc hno)) (by decide)
 · refine int_eq ?_;exact (OP hb hv (by unfold Je;rw [hT,hrow];exact HZ hi hsc hno)).symm
 obtain ⟨x,hx⟩:∃x,c.early b y (Mf T i) (DT r dy i fr)=some x:=Option.isSome_iff_exists.1 (by simpa using h7)
 have hdi:=Dy (l:=dy) (i:=i.toNat) (by have:=hS.len;omega)
 refine Tr.re 23 rfl (int_eq (by rw [hx])) ?_
 refine ac ?_
 refine Qb 3 4 6 10 12 15 16 17 19 23 55 56 57 rfl ?_
 refine ao ?_
 refine tp rfl (CT 3 rfl (GO rfl underlying22 Ce (vl rfl) (vl rfl) (by omega) (by rw [List.length_map];omega))) ?_
 refine TO.Ew 3 rfl rfl (E9 rfl rfl (vl rfl) (Vo rfl) Ce rfl (BD fun _=>rfl) (by rw [List.getElem?_map,hdi];rfl) (by decide) (show _=(dy.set i.toNat x).map _ by rw [List.map_set];rfl)) ?_
 refine ao ?_
 refine Qb 3 4 6 10 12 15 16 17 19 23 55 56 57 rfl ?_
 refine ao ?_
 refine tp rfl (AA rfl underlying22 Ce (vl rfl) (vl rfl) (by omega) (Cf hti)) ?_
 refine ao ?_
 refine TO.GJ 1 rfl rfl (by decide) (DY rfl rfl rfl rfl underlying22 Ce U8 z3 (Kb rfl) (Kf rfl) (CO (by exact List.Mem.head _) (Ka rfl))) (fun v2=> ?_)
 refine ao ?_
 refine TO.GJ 0 rfl rfl (by decide) (DY rfl rfl rfl rfl underlying22 Ce U8 z3 (Kb rfl) (Kf rfl) (CO (by exact List.Mem.head _) (Ka rfl))) (fun v3=> ?_)
 refine ao ?_
 refine II 3 4 6 10 12 15 16 17 55 56 57 rfl ?_
 refine ac ?_
 exact Fin.YJ (dy.set i.toNat x) (b++[Mf T i]) (y++[x]) (k+1) v2 v3 (⟨⟨hk,Ss hi hsc hx⟩,by omega⟩) ⟨⟨_,rfl,AE k⟩,⟨_,rfl,CK (by rw [List.map_append];rfl)⟩,⟨_,rfl,CK (by rw [List.map_append];rfl)⟩,ke rfl,ke rfl,ke rfl,ke rfl,ke rfl,ke rfl,ke rfl,ke rfl,trivial⟩ (fun _ _ h=>h)
 have hkr:k=row.length:=by have:=AM h3;omega
 rw [hkr,List.take_length] at hsc
 have hsr:Je c l r fr=some (dy,b,y):=by unfold Je;rw [hT,hrow];exact hsc
 refine ac ?_
 refine Tr.seq (Tr.G2 2 3 2 rfl rfl (by decide) rfl (Lr) (BD fun _=>rfl) ?_)
 refine ao ?_
 refine TO.Ap 4 rfl rfl rfl (vl rfl) (Va rfl) rfl Di rfl rfl ?_
 refine ao ?_
 refine CY 10 11 rfl (Tr.ret (Fin.Oo [_,_,_,_,_] rfl (BK.cell 4 rfl rfl ET Di rfl (Lr)) (BK.tmp rfl (Lr)) ?_))
 refine EE ⟨?_,?_,trivial⟩
 · exact Z1 (XY hb hv hsr) hsr
 · refine int_eq ?_;exact (XY hb hv hsr).symm
def MR (d:List Int) (q:BU):Bool:=decide (d.getD q.fst.toNat 0≥d.getD q.thn.toNat 0)
open Classical in
noncomputable def HN (e:FC) (c:Aq) (l:List B8) (r:List BU) (d:List Int):Int:=if DF e c l≠0 then DF e c l else if d.length≠l.length then 49 else if Ar (l.length:Nat) r≠0 then Ar (l.length:Nat) r else if r.any (MR d) then 44 else c.Bi (l.map (FB c)) d []
section
variable {e:FC} {c:Aq} {l:List B8} {r:List BU} {d:List Int}
theorem mF (h:DF e c l≠0):HN e c l r d=DF e c l:=by unfold HN;rw [if_pos h]
theorem Xa (h:DF e c l=0) (h2:d.length≠l.length):HN e c l r d=49:=by unfold HN;rw [if_neg (not_not_intro h),if_pos h2]
theorem mG (h:DF e c l=0) (h2:d.length=l.length) (h3:Ar (l.length:Nat) r≠0):HN e c l r d=Ar (l.length:Nat) r:=by unfold HN;rw [if_neg (not_not_intro h),if_neg (not_not_intro h2),if_pos h3]
theorem Rp (h:DF e c l=0) (h2:d.length=l.length) (h3:Ar (l.length:Nat) r=0) (h4:r.any (MR d)=true):HN e c l r d=44:=by unfold HN;rw [if_neg (not_not_intro h),if_neg (not_not_intro h2),if_neg (not_not_intro h3),if_pos h4]
theorem Xb (h:DF e c l=0) (h2:d.length=l.length) (h3:Ar (l.length:Nat) r=0) (h4:∀q∈r,MR d q=false):HN e c l r d=c.Bi (l.map (FB c)) d []:=by
 unfold HN;rw [if_neg (not_not_intro h),if_neg (not_not_intro h2),if_neg (not_not_intro h3),if_neg]
 rw [Bool.not_eq_true,List.any_eq_false];exact fun q hq=>by rw [h4 q hq];decide
theorem Ua {fr:Int} (h:Ga e c l r fr=0):bF c r (l.map (FB c)) (P7 c l r fr) fr l.length∧HN e c l r (P7 c l r fr)=0:=by
 obtain ⟨h1,h2,d,b,y,h3,h4⟩:=Z2 h
 obtain ⟨hes,bO,hte⟩:=Ro h1
 obtain ⟨how,htl,mE⟩:=KC bO
 have hok:=eX (t:=l.map (FB c)) (fr:=fr) h2 how (by rw [List.length_map]) (OO hte mE) h3
 rw [h4]
 refine ⟨hok,?_⟩
 rw [Xb h1 hok.len h2 (fun q hq=> ?_)]
 · exact hok.fit
 · unfold MR;rw [decide_eq_false_iff_not];have:=hok.ord q hq;omega
end
structure It (n:Nat) (r:List BU):Prop where
 up:∀q∈r,(0≤q.fst∧q.fst<q.thn)∧q.thn<n
 srt:CR r=true
theorem It.nil (n:Nat):It n []:=⟨(fun q h=>by cases h),rfl⟩
theorem NY (r:List BU) (q:BU):Wu r [q]=Me (r.foldl Me []) q:=rfl
theorem It.put {n:Nat} {r:List BU} (h:It n r) {x y:Int} (h0:0≤x) (h1:x<y) (h2:y<n):It n (Wu r [⟨x,y⟩]):=by
 refine ⟨fun q hq=> ?_,?_⟩
 ·
  rw [NY,Pj,Mg] at hq
  rcases hq with rfl|hq|hq
  · exact ⟨⟨h0,h1⟩,h2⟩
  · cases hq
  · exact h.up q hq
 · rw [NY];exact Kk (J9 r rfl)
theorem It.valid {n:Nat} {r:List BU} (h:It n r) (hn:n≤24):Ar n r=0:=Wt hn h.up h.srt
theorem GD {e:FC} {c:Aq} {l:List B8} {r:List BU} {d:List Int} (hf:e.fits):BJ Tryz.prog 13 [agg (JQ e),Hq c,agg [Fv l,reqs r,ints d]] (int (HN e c l r d)) (ER) (fun _=>ER):=by
 refine BJ.of Tryz.func13 rfl rfl (by exact Nat.le_of_ble_eq_true rfl) fun M0 w0 S rs M1 w1=> ?_
 refine Tr.Gw 2 0 rfl rfl fun n8=> ?_
 refine Tr.Gw 2 1 rfl rfl fun n9=> ?_
 refine Tr.Gw 2 2 rfl rfl fun n_=> ?_
 refine Tr.seq ?_
 refine Tr.Ao ?_
 refine Ch.op rfl rfl (by decide) (Dh rfl (VL.le (vl rfl) (AJ _))) ?_
 refine Ch.op rfl rfl (by decide) (Dh rfl (VL.le (vl rfl) (AJ _))) ?_
 refine Ch.op rfl rfl (by decide) (Dh rfl (VL.le (vl rfl) (AJ _))) ?_
 refine Ch.op rfl rfl (by decide) (Be rfl (vl rfl)) ?_
 refine Ch.nil ?_
 refine Fin.go ?_
 refine Tr.seq ?_
 refine Tr.Ao ?_
 refine Ch.op rfl rfl (by decide) (AF rfl E7 Gp (vl rfl) rfl rfl) ?_
 refine Ch.op rfl rfl (by decide) (AF rfl Ge Jt (vl rfl) rfl rfl) ?_
 refine Ch.op rfl rfl (by decide) (BN rfl Ju (vl rfl) rfl) ?_
 refine Ch.op rfl rfl (by decide) (Bg rfl SH (vl rfl)) ?_
 refine Ch.op rfl rfl (by decide) (AW rfl (P6 (e:=e) (c:=c) (l:=l) hf) ⟨⟨_,rfl,Pr.le_refl _⟩,⟨_,rfl,Pr.le_refl _⟩,⟨_,rfl,Pr.le_refl _⟩,trivial⟩) ?_
 refine Ch.op rfl rfl (by decide) (Aw rfl (vl rfl)) ?_
 refine Ch.op rfl rfl (by decide) (CJ rfl (vl rfl) rfl) ?_
 refine Ch.op rfl rfl (by decide) (CJ rfl (vl rfl) rfl) ?_
 refine Ch.op rfl rfl (by decide) (Be rfl (vl rfl)) ?_
 refine Ch.op rfl rfl (by decide) (Be rfl (vl rfl)) ?_
 refine Ch.nil ?_
 refine Fin.go ?_
 refine Tr.weak [(4,_),(5,_),(7,_),(8,_)] ⟨⟨_,rfl,Pr.le_refl _⟩,⟨_,rfl,Pr.le_refl _⟩,⟨_,rfl,Pr.le_refl _⟩,⟨_,rfl,Pr.le_refl _⟩,trivial⟩ ?_
 refine Tr.seq ?_
 refine Tr.seq ?_
 refine Tr.Ao ?_
 refine Ch.op rfl rfl (by decide) (Aw rfl (vl rfl)) ?_
 refine Ch.op rfl rfl (by decide) (ok_int rfl (vl rfl) (vl rfl) rfl) ?_
 refine Ch.nil ?_
 refine Fin.go ?_
 refine Tr.cond rfl (fun h1=> ?_) (fun h1=> ?_)
 ·
  have q1:=C6.Dj h1
  have hb:DF e c l≠0:=by simpa using h1
  refine Tr.seq ?_
  refine Tr.Ao ?_
  refine Ch.op rfl rfl (by decide) (Aw rfl (vl rfl)) ?_
  refine Ch.op rfl rfl (by decide) (Be rfl (vl rfl)) ?_
  refine Ch.nil ?_
  refine Fin.go ?_
  refine Tr.ret ?_
  refine Fin.AH ?_
  refine Fin.D8 rfl rfl ?_ (fun _ _ _ _=>rfl)
  · refine int_eq ?_;exact (mF hb).symm
 ·
  have q1:=C6.Dj h1
  have hb:DF e c l=0:=by simpa using h1
  refine Tr.re 7 rfl (Pr.le_of_eq (by rw [bL hb])) ?_
  refine Tr.skip ?_
  refine Fin.go ?_
  refine Tr.seq ?_
  refine Tr.seq ?_
  refine Tr.Ao ?_
  refine Ch.op rfl rfl (by decide) (BN rfl EF (vl rfl) rfl) ?_
  refine Ch.op rfl rfl (by decide) (Bg rfl ES (vl rfl)) ?_
  first
   |refine Ch.op rfl rfl (by decide) (Bq rfl Tryz.underlying22 (vl rfl)) ?_
   |refine Ch.op rfl rfl (by decide) (CA rfl Tryz.underlying22 (vl rfl)) ?_
  refine Ch.op rfl rfl (by decide) (BN rfl Ju (vl rfl) rfl) ?_
  refine Ch.op rfl rfl (by decide) (Bg rfl SH (vl rfl)) ?_
  first
   |refine Ch.op rfl rfl (by decide) (Bq rfl Tryz.underlying37 (vl rfl)) ?_
   |refine Ch.op rfl rfl (by decide) (CA rfl Tryz.underlying37 (vl rfl)) ?_
  refine Ch.op rfl rfl (by decide) (ok_int rfl (vl rfl) (vl rfl) rfl) ?_
  refine Ch.nil ?_
  refine Fin.go ?_
  refine Tr.cond rfl (fun h2=> ?_) (fun h2=> ?_)
  ·
   have q2:=C6.Dj h2
   have fR:d.length≠l.length:=by have:=q2;omega
   refine Tr.seq ?_
   refine Tr.Ao ?_
   refine Ch.op rfl rfl (by decide) (Be rfl (vl rfl)) ?_
   refine Ch.nil ?_
   refine Fin.go ?_
   refine Tr.weak [(6,_)] ⟨⟨_,rfl,Pr.le_refl _⟩,trivial⟩ ?_
   refine Tr.ret ?_
   refine Fin.AH ?_
   refine Fin.D8 rfl rfl ?_ (fun _ _ _ _=>rfl)
   · refine int_eq ?_;exact (Xa hb fR).symm
  ·
   have q2:=C6.Dj h2
   have fR:d.length=l.length:=by have:=q2;omega
   refine Tr.skip ?_
   refine Fin.go ?_
   refine Tr.seq ?_
   refine Tr.seq ?_
   refine Tr.As ?_
   refine TO.op rfl rfl (by decide) (BN rfl Ju (vl rfl) rfl) ?_
   refine TO.op rfl rfl (by decide) (Bg rfl SH (vl rfl)) ?_
   first
    |refine TO.op rfl rfl (by decide) (Bq rfl Tryz.underlying37 (vl rfl)) ?_
    |refine TO.op rfl rfl (by decide) (CA rfl Tryz.underlying37 (vl rfl)) ?_
   refine TO.op rfl rfl (by decide) (BN rfl Qd (vl rfl) rfl) ?_
   refine TO.op rfl rfl (by decide) (Bg rfl VA (vl rfl)) ?_
   refine TO.Hu 0 rfl rfl (by decide) (Ag rfl rfl (by decide) rfl (XT (n:=((l.length:Nat):Int)) (l:=r)) ⟨⟨_,rfl,Pr.le_refl _⟩,⟨_,rfl,Pr.le_refl _⟩,trivial⟩) ?_
   refine TO.op rfl rfl (by decide) (Be rfl (vl rfl)) ?_
   refine TO.nil ?_
   refine Fin.go ?_
   refine Tr.weak [(4,_),(5,_),(7,_),(9,_)] ⟨⟨_,rfl,Pr.le_refl _⟩,⟨_,rfl,Pr.le_refl _⟩,⟨_,rfl,Pr.le_refl _⟩,⟨_,rfl,Pr.le_refl _⟩,trivial⟩ ?_
   refine Tr.seq ?_
   refine Tr.Ao ?_
   refine Ch.op rfl rfl (by decide) (Aw rfl (vl rfl)) ?_
   refine Ch.op rfl rfl (by decide) (ok_int rfl (vl rfl) (vl rfl) rfl) ?_
   refine Ch.nil ?_
   refine Fin.go ?_
   refine Tr.cond rfl (fun h3=> ?_) (fun h3=> ?_)
   ·
    have q3:=C6.Dj h3
    have hv:Ar (l.length:Nat) r≠0:=by simpa using h3
    refine Tr.seq ?_
    refine Tr.Ao ?_
    refine Ch.op rfl rfl (by decide) (Aw rfl (vl rfl)) ?_
    refine Ch.op rfl rfl (by decide) (Be rfl (vl rfl)) ?_
    refine Ch.nil ?_
    refine Fin.go ?_
    refine Tr.ret ?_
    refine Fin.AH ?_
    refine Fin.D8 rfl rfl ?_ (fun _ _ _ _=>rfl)
    · refine int_eq ?_;exact (mG hb fR hv).symm
   ·
    have q3:=C6.Dj h3
    have hv:Ar (l.length:Nat) r=0:=by simpa using h3
    refine Tr.skip ?_
    refine Fin.go ?_
    refine Tr.seq ?_
    refine Tr.seq ?_
    refine Tr.Ao ?_
    refine Ch.op rfl rfl (by decide) (BN rfl Qd (vl rfl) rfl) ?_
    refine Ch.op rfl rfl (by decide) (Bg rfl VA (vl rfl)) ?_
    first
     |refine Ch.op rfl rfl (by decide) (Bq rfl Tryz.underlying39 (vl rfl)) ?_
     |refine Ch.op rfl rfl (by decide) (CA rfl Tryz.underlying39 (vl rfl)) ?_
    refine Ch.op rfl rfl (by decide) (Aw rfl (vl rfl)) ?_
    refine Ch.nil ?_
    refine Fin.go ?_
    refine Tr.block ?_
    refine Tr.BH [(4,_),(5,_),(7,_),(40,_),(41,_)] ⟨⟨_,rfl,Pr.le_refl _⟩,⟨_,rfl,Pr.le_refl _⟩,⟨_,rfl,Pr.le_refl _⟩,⟨_,rfl,Pr.le_refl _⟩,⟨_,rfl,Pr.le_refl _⟩,trivial⟩ (fun k:Nat=>[(42,int ((k:Nat):Int))]) (fun k:Nat=>k≤(r).length∧(∀j y,j<k→r[j]? =some y→MR d y=false)) (fun k:Nat=>(r).length-k) 0 (⟨Nat.zero_le _,fun j y hj=>absurd hj (by omega)⟩) ⟨⟨_,rfl,Pr.le_refl _⟩,trivial⟩ ?_
    rintro k ⟨BR,AG⟩
    refine Tr.seq ?_
    refine Tr.Ao ?_
    refine Ch.op rfl rfl (by decide) (ok_int rfl (vl rfl) (vl rfl) rfl) ?_
    refine Ch.nil ?_
    refine Fin.go ?_
    refine Tr.seq ?_
    refine Tr.cond rfl (fun h4=> ?_) (fun h4=> ?_)
    ·
     have q4:=C6.Dj h4
     have Aa:k<(r).length:=AL h4
     obtain ⟨q,AY⟩:=at_ Aa
     have bP:=(CV hv).2.1 q (List.mem_of_getElem? AY)
     unfold C3 at bP
     rw [decide_eq_false_iff_not] at bP
     have GH:=Dy (l:=d) (i:=q.fst.toNat) (by omega)
     have QS:=Dy (l:=d) (i:=q.thn.toNat) (by omega)
     refine Tr.skip ?_
     refine Fin.go ?_
     refine Tr.seq ?_
     refine Tr.block ?_
     refine Tr.seq ?_
     refine Tr.As ?_
     refine TO.op rfl rfl (by decide) (AA rfl Tryz.underlying39 Er (vl rfl) (vl rfl) (by omega) (AU AY)) ?_
     refine TO.op rfl rfl (by decide) (AF rfl KW Er (vl rfl) rfl rfl) ?_
     refine TO.alloc rfl rfl (by decide) rfl z49 Ot (fun b1=> ?_)
     refine TO.Ap 0 rfl rfl rfl (vl rfl) (VL.le (vl rfl) (AJ _)) rfl Er rfl rfl ?_
     refine TO.freeze 0 11 rfl rfl ?_
     refine TO.nil ?_
     refine Fin.go ?_
     refine Tr.seq ?_
     refine Tr.bQ mixed (by kernel_rfl) ?_
     refine Ch.op rfl rfl (by decide) (BN rfl EF (vl rfl) rfl) ?_
     refine Ch.op rfl rfl (by decide) (Bg rfl ES (vl rfl)) ?_
     refine Ch.op rfl rfl (by decide) (BN rfl Lh (vl rfl) rfl) ?_
     refine Ch.op rfl rfl (by decide) (Bg rfl DC (vl rfl)) ?_
     refine Ch.op rfl rfl (by decide) (AA rfl Tryz.underlying22 Ce (vl rfl) (vl rfl) (by omega) (Cf GH)) ?_
     refine Ch.op rfl rfl (by decide) (Bg rfl DC (vl rfl)) ?_
     refine Ch.op rfl rfl (by decide) (BN rfl EF (vl rfl) rfl) ?_
     refine Ch.op rfl rfl (by decide) (Bg rfl ES (vl rfl)) ?_
     refine Ch.op rfl rfl (by decide) (BN rfl Li (vl rfl) rfl) ?_
     refine Ch.op rfl rfl (by decide) (Bg rfl DC (vl rfl)) ?_
     refine Ch.op rfl rfl (by decide) (AA rfl Tryz.underlying22 Ce (vl rfl) (vl rfl) (by omega) (Cf QS)) ?_
     refine Ch.op rfl rfl (by decide) (Bg rfl DC (vl rfl)) ?_
     refine Ch.op rfl rfl (by decide) (ok_int rfl (vl rfl) (vl rfl) rfl) ?_
     refine Ch.nil ?_
     refine Fin.go ?_
     refine Tr.weak [(4,_),(5,_),(7,_),(40,_),(41,_),(42,_),(58,_)] ⟨⟨_,rfl,Pr.le_refl _⟩,⟨_,rfl,Pr.le_refl _⟩,⟨_,rfl,Pr.le_refl _⟩,⟨_,rfl,Pr.le_refl _⟩,⟨_,rfl,Pr.le_refl _⟩,⟨_,rfl,Pr.le_refl _⟩,⟨_,rfl,Pr.le_refl _⟩,trivial⟩ ?_
     refine Tr.cond rfl (fun h5=> ?_) (fun h5=> ?_)
     ·
      have q5:=C6.Dj h5
      refine Tr.seq ?_
      refine Tr.Ao ?_
      refine Ch.op rfl rfl (by decide) (Be rfl (vl rfl)) ?_
      refine Ch.nil ?_
      refine Fin.go ?_
      refine Tr.ret ?_
      refine Fin.Ah ?_
      refine Fin.AH ?_
      refine Fin.AH ?_
      refine Fin.Ah ?_
      refine Fin.AH ?_
      refine Fin.D8 rfl rfl ?_ (fun _ _ _ _=>rfl)
      · refine int_eq ?_;exact (Rp hb fR hv (List.any_eq_true.2 ⟨q,List.mem_of_getElem? AY,by unfold MR;assumption⟩)).symm
     ·
      have q5:=C6.Dj h5
      refine Tr.skip ?_
      refine Fin.block ?_
      refine Fin.go ?_
      refine Tr.Ao ?_
      first
       |(refine Ch.op rfl rfl (by decide) (Dz rfl (vl rfl) (vl rfl) ?hin) ?_;case hin=>unfold Jo;omega)
       |refine Ch.op rfl rfl (by decide) (ok_int rfl (vl rfl) (vl rfl) rfl) ?_
      refine Ch.op rfl rfl (by decide) (Aw rfl (vl rfl)) ?_
      refine Ch.nil ?_
      exact Fin.AK (k+1) ⟨⟨Aa,CB (p:=MR d) AY (by unfold MR;assumption) AG⟩,by omega⟩ ⟨⟨_,rfl,AE k⟩,⟨_,rfl,Pr.le_refl _⟩,⟨_,rfl,Pr.le_refl _⟩,⟨_,rfl,Pr.le_refl _⟩,⟨_,rfl,Pr.le_refl _⟩,⟨_,rfl,Pr.le_refl _⟩,trivial⟩
    ·
     have q4:=C6.Dj h4
     have A_:k=(r).length:=by have:=AM h4;omega
     subst A_
     refine Tr.exit ?_
     refine Fin.Ac ?_
     refine Fin.Ac ?_
     refine Fin.Az ?_
     refine Fin.go ?_
     refine Tr.seq ?_
     refine Tr.Ao ?_
     refine Ch.op rfl rfl (by decide) (AF rfl Ge Jt (vl rfl) rfl rfl) ?_
     refine Ch.op rfl rfl (by decide) (Aw rfl (vl rfl)) ?_
     refine Ch.op rfl rfl (by decide) (BN rfl EF (vl rfl) rfl) ?_
     refine Ch.op rfl rfl (by decide) (Bg rfl ES (vl rfl)) ?_
     refine Ch.op rfl rfl (by decide) (AW rfl (eT (c:=c) (AX:=l.map (FB c)) (days:=d)) ⟨⟨_,rfl,Pr.le_refl _⟩,⟨_,rfl,Pr.le_refl _⟩,⟨_,rfl,Pr.le_refl _⟩,trivial⟩) ?_
     refine Ch.op rfl rfl (by decide) (Be rfl (vl rfl)) ?_
     refine Ch.nil ?_
     refine Fin.go ?_
     refine Tr.ret ?_
     refine Fin.D8 rfl rfl ?_ (fun _ _ _ _=>rfl)
     ·
      refine int_eq ?_;exact (Xb hb fR hv (fun q hq=>by
      obtain ⟨j,hj⟩:=List.mem_iff_getElem?.1 hq
      exact AG j q (BM hj) hj)).symm
def Jf (e:Ez) (c:B8):Int:=
 if c.kind=7∨c.kind=9 then 0 else if c.kind=5 then 1 else if c.kind=1∨c.kind=12 then 2
 else if c.kind=3 then (if c.number>e.most then 2 else 3) else if c.kind=4 then (if c.number<e.least then 2 else 3) else if c.kind=11 then (if c.number=1 then 2 else 3) else 3
def MS (a b:Int) (x:Ji):Bool:=(decide (x.client=a)&&decide (x.server=b))||(decide (x.client=b)&&decide (x.server=a))
def Kq (l:List Ji) (a b:Int):Bool:=decide (a=b)||l.any (MS a b)
theorem Xc {l:List Ji} {a b:Int} {k:Nat} {x:Ji} (hx:l[k]? =some x) (h:MS a b x=true):Kq l a b=true:=by unfold Kq;rw [List.any_eq_true.2 ⟨x,List.mem_of_getElem? hx,h⟩,Bool.or_true]
theorem Z3 {l:List Ji} {a b:Int} (h0:a≠b) (h:∀j y,j<l.length→l[j]? =some y→MS a b y=false):Kq l a b=false:=by
 unfold Kq
 rw [Bool.or_eq_false_iff,decide_eq_false_iff_not,List.any_eq_false]
 refine ⟨h0,fun y hy=> ?_⟩
 obtain ⟨j,hj⟩:=List.mem_iff_getElem?.1 hy
 rw [h j y (BM hj) hj];decide
def Kr (l:List B8) (i:Nat):B8:=l[i]?.getD ZB
def KD (e:FC) (c:B8):Int:=Jf (e.Cu[c.BA.toNat]?.getD G9) c
def Ub (e:FC) (l:List B8) (i k:Nat):Bool:=Kq e.Cz (Kr l i).BA (Kr l k).BA&&decide (KD e (Kr l i)<KD e (Kr l k))
def Iu (e:FC) (l:List B8) (i n:Nat):List BU:=((List.range n).filter (Ub e l i)).map fun k:Nat=>⟨(i:Int),(k:Int)⟩
def Mi (e:FC) (l:List B8) (m:Nat):List BU:=(List.range m).flatMap fun i=>Iu e l i l.length
def P_ (e:FC) (l:List B8):List BU:=Mi e l l.length
theorem QA (e:FC) (l:List B8) (i n:Nat):(Iu e l i n).length≤n:=by unfold Iu;rw [List.length_map];exact Nat.le_trans (List.length_filter_le _ _) (by rw [List.length_range];exact Nat.le_refl _)
theorem NZ (e:FC) (l:List B8) (m:Nat):Mi e l (m+1)=Mi e l m++Iu e l m l.length:=by unfold Mi;rw [List.range_succ,List.flatMap_append];simp
theorem MT (e:FC) (l:List B8):∀m,(Mi e l m).length≤m*l.length
 |0=>by simp [Mi]
 |m+1=>by have h1:=MT e l m;have h2:=QA e l m l.length;rw [NZ,List.length_append,Nat.succ_mul];omega
theorem Xd {e:FC} {l:List B8} {i k:Nat} (h:Ub e l i k=true):Iu e l i (k+1)=Iu e l i k++[⟨(i:Int),(k:Int)⟩]:=by unfold Iu;rw [List.range_succ,List.filter_append,List.map_append];simp [h]
theorem TD {e:FC} {l:List B8} {i k:Nat} (h:Ub e l i k=false):Iu e l i (k+1)=Iu e l i k:=by unfold Iu;rw [List.range_succ,List.filter_append,List.map_append];simp [h]
theorem TE {e:FC} {l:List B8} {q:BU} (h:q∈P_ e l):∃i k:Nat,(i<l.length∧k<l.length)∧q=⟨(i:Int),(k:Int)⟩∧KD e (Kr l i)<KD e (Kr l k):=by
 unfold P_ Mi at h
 obtain ⟨i,hi,h2⟩:=List.mem_flatMap.1 h
 unfold Iu at h2
 obtain ⟨k,hk,rfl⟩:=List.mem_map.1 h2
 obtain ⟨hk1,hk2⟩:=List.mem_filter.1 hk
 unfold Ub at hk2
 rw [Bool.and_eq_true,decide_eq_true_eq] at hk2
 exact ⟨i,k,⟨List.mem_range.1 hi,List.mem_range.1 hk1⟩,rfl,hk2.2⟩
theorem Ks:∀{l:List BU},l.Pairwise (fun a b=>EM a b=true)→CR l=true
 |[],_=>rfl
 |[_],_=>rfl
 |a::b::l,h=>by
  rw [List.pairwise_cons] at h
  unfold CR
  rw [h.1 b (by simp),Ks h.2];rfl
theorem Rr (e:FC) (l:List B8):CR (P_ e l)=true:=by
 refine Ks ?_
 unfold P_ Mi
 rw [List.pairwise_flatMap]
 refine ⟨fun i _=> ?_,List.Pairwise.imp (fun {a b} hab x hx y hy=> ?_) List.pairwise_lt_range⟩
 ·
  unfold Iu
  refine List.Pairwise.map _ (fun a b hab=> ?_) (List.Pairwise.filter _ List.pairwise_lt_range)
  unfold EM;simp;omega
 ·
  unfold Iu at hx hy
  obtain ⟨_,_,rfl⟩:=List.mem_map.1 hx
  obtain ⟨_,_,rfl⟩:=List.mem_map.1 hy
  unfold EM
  rw [if_neg (by show ¬(a:Int)=(b:Int);omega)]
  simp;omega
theorem Hg {l:List BU} {f:Nat→Int} (h:∀r∈l,0≤r.fst∧0≤r.thn∧f r.fst.toNat<f r.thn.toNat):∀(k:Nat) {a b:Nat},Cd l k a b=true→f a<f b
 |0,a,b,hb=>by
  obtain ⟨r,hr,h2⟩:=List.any_eq_true.1 hb
  rw [Bool.and_eq_true,decide_eq_true_eq,decide_eq_true_eq] at h2
  obtain ⟨h3,h4,h5⟩:=h r hr
  rw [h2.1,h2.2,Int.toNat_natCast,Int.toNat_natCast] at h5
  exact h5
 |k+1,a,b,hb=>by
  simp only [Cd,K0,Bool.or_eq_true,Bool.and_eq_true] at hb
  rcases hb with hb|⟨h1,h2⟩
  · exact Hg h k hb
  · have:=Hg h k h1;have:=Hg h k h2;omega
theorem Uc {e:FC} {l:List B8} (hn:l.length≤24):Ar (l.length:Nat) (P_ e l)=0:=by
 unfold Ar
 rw [if_neg (by omega),if_neg ?_,if_neg (by rw [Rr];decide),if_neg ?_]
 ·
  intro hc
  obtain ⟨i,_,hi⟩:=List.any_eq_true.1 hc
  have:=Hg (f:=fun i=>KD e (Kr l i)) (fun r hr=>by
   obtain ⟨i,k,_,rfl,h⟩:=TE hr
   exact ⟨Int.natCast_nonneg _,Int.natCast_nonneg _,h⟩) _ hi
  omega
 ·
  intro hc
  obtain ⟨r,hr,hb⟩:=List.any_eq_true.1 hc
  obtain ⟨i,k,⟨h1,h2⟩,rfl,h⟩:=TE hr
  unfold C3 at hb
  rw [decide_eq_true_eq] at hb
  have hne:i≠k:=fun e2=>by rw [e2] at h;omega
  simp at hb;omega
theorem Na {e:Ez} {c:B8}  :A9 prog 40 [agg (Cv e),agg (GR c)] (int (Jf e c)):=by
 refine fo func40 rfl ⟨rfl,rfl⟩ fun M0 w0=> ?_
 refine a2 ?_
 refine an ?_ ?_<;>intro h1 q1
 refine ac ?_
 refine Tr.cond rfl (fun _=> ?_) (fun h=>nomatch h1.symm.trans h)
 refine a2 ?_
 · refine int_eq ?_;unfold Jf;(repeat' split)<;>omega
 refine an ?_ ?_<;>intro h2 q2
 refine a2 ?_
 · refine int_eq ?_;unfold Jf;(repeat' split)<;>omega
 refine an ?_ ?_<;>intro h3 q3
 refine a2 ?_
 · refine int_eq ?_;unfold Jf;(repeat' split)<;>omega
 refine an ?_ ?_<;>intro h4 q4
 refine ac ?_
 refine Tr.cond rfl (fun _=> ?_) (fun h=>nomatch h4.symm.trans h)
 refine ac ?_
 refine FD 4 rfl ?_
 refine ac ?_
 · refine int_eq ?_;unfold Jf;(repeat' split)<;>omega
 · repeat' first|(refine int_eq ?_;unfold Jf;(repeat' split)<;>omega)|refine ac ?_|(refine Tr.cn rfl ?_ ?_<;>intro h q)
theorem QB {e:FC} {a b:Int}  :A9 prog 39 [agg (JQ e),int a,int b] (bool (Kq e.Cz a b)):=by
 refine fo func39 rfl ⟨rfl,rfl⟩ fun M0 w0=>(Tr.Gw 0 1 rfl rfl fun OI=> ?_)
 refine ac ?_
 refine an ?_ ?_<;>intro h1 q1
 refine a2 ?_
 · refine bool_eq ?_;symm;unfold Kq;rw [decide_eq_true (by assumption),Bool.true_or]
 refine a2 ?_
 refine Tr.block (Tr.BH [(1,_),(2,_),(13,_),(14,_)] (fc rfl) (fun k:Nat=>[(15,int ((k:Nat):Int))]) (fun k:Nat=>k≤(e.Cz).length∧(∀j y,j<k→e.Cz[j]? =some y→MS a b y=false)) (fun k:Nat=>(e.Cz).length-k) 0 (⟨Nat.zero_le _,fun j y hj=>absurd hj (by omega)⟩) ⟨ke rfl,trivial⟩ ?_)
 rintro k ⟨BR,AG⟩
 refine ac ?_
 refine Tr.seq ?_
 refine Tr.cn rfl ?_ ?_<;>intro h2 q2
 have Aa:k<(e.Cz).length:=AL h2
 obtain ⟨x,AY⟩:=at_ Aa
 refine ac ?_
 refine Tr.seq (Tr.block (Tr.seq (Tr.As (tp rfl (AA rfl underlying28 Hl (vl rfl) (vl rfl) (by omega) (AU AY)) (tp rfl (AF rfl VE Hl (vl rfl) rfl rfl) ?_)))))
 refine Tl rfl rfl rfl rfl ff VF (fun b1=> ?_)
 refine sf 0 8 ⟨rfl,rfl,rfl⟩ rfl rfl rfl rfl ?_
 refine ao ?_
 · repeat' first|(refine bool_eq ?_;symm;exact Xc AY (by unfold MS;simp_all))|(exact Fin.AK (k+1) ⟨⟨Aa,CB (p:=MS a b) AY (by unfold MS;simp_all) AG⟩,by omega⟩ ⟨⟨_,rfl,AE k⟩,ke rfl,ke rfl,ke rfl,ke rfl,trivial⟩)|refine ac ?_|(refine Tr.cn rfl ?_ ?_<;>intro h q)|(refine Ch.cg rfl rfl rfl ?_ ?_<;>intro h q)
 have A_:k=(e.Cz).length:=by have:=AM h2;omega
 subst A_
 refine a3 ?_
 · refine bool_eq ?_;symm;exact Z3 (by assumption) AG
theorem QC {e:FC} {l:List B8} (hf:e.fits) (he:J4 e=true) (Ke:l.length≤24) (hr:∀c∈l,0≤c.BA∧c.BA<(e.Cu.length:Nat)):A9 prog 17 [agg (JQ e),Fv l] (Iv [reqs (P_ e l),int 0]):=by
 refine fo func17 rfl ⟨rfl,rfl⟩ fun M0 w0=>(Tr.Gw 0 0 rfl rfl fun HW=> ?_)
 refine a2 ?_
 refine co rfl (CN (Q_ hf) rfl rfl) ?_
 refine an ?_ ?_<;>intro h1 q1
 exact absurd h1 (by rw [if_pos he];decide)
 refine ac ?_
 refine an ?_ ?_<;>intro h2 q2
 exfalso;have:=q2;omega
 refine a2 ?_
 refine Tr.block (Tr.BH [(1,_),(2,_),(19,_),(20,_)] (fc rfl) (fun m:Nat=>[(21,int ((m:Nat):Int))]) (fun m:Nat=>m≤(l).length) (fun m:Nat=>(l).length-m) 0 (Nat.zero_le _) ⟨ke rfl,trivial⟩ ?_)
 rintro m Sf
 refine ac ?_
 refine Tr.seq ?_
 refine Tr.cn rfl ?_ ?_<;>intro h3 q3
 have HE:m<(l).length:=AL h3
 obtain ⟨x,Ft⟩:=at_ HE
 have gp:=hr x (List.mem_of_getElem? Ft)
 refine ac ?_
 refine Tr.seq (Tr.block (Tr.seq (Tr.As (tp rfl (AA rfl underlying37 Ct (vl rfl) (vl rfl) (by omega) (AU Ft)) (tp rfl (AF rfl G0 Ct (vl rfl) rfl rfl) ?_)))))
 refine Tl rfl rfl rfl rfl Lj JD (fun b1=> ?_)
 refine sf 0 7 ⟨rfl,rfl,rfl⟩ rfl rfl rfl rfl ?_
 refine ao ?_
 · repeat' first|(exfalso;have:=hr x (List.mem_of_getElem? Ft);omega)|exact Fin.AK (m+1) ⟨HE,by omega⟩ ⟨⟨_,rfl,AE m⟩,ke rfl,ke rfl,ke rfl,ke rfl,trivial⟩|refine ac ?_|(refine Tr.cn rfl ?_ ?_<;>intro h q)|(refine Ch.cg rfl rfl rfl ?_ ?_<;>intro h q)
 have PK:m=(l).length:=by have:=AM h3;omega
 refine a3 ?_
 refine Tr.block (Tr.DB 49 2 (Tr.Gx [(1,_),(2,_),(37,_),(38,_)] ⟨ke rfl,ke rfl,ke rfl,ke rfl,trivial⟩ (fun i v=>[(39,int ((i:Nat):Int)),(8,Ab v (reqs (Mi e l i)))]) (fun i v=>Hp M0 w0 OR ([Ax 49 2 v])) (fun i:Nat=>i≤(l).length) (fun i:Nat=>(l).length-i) 0 (.slice none 0 0) (Nat.zero_le _) ⟨ke rfl,⟨_,rfl,Cg rfl⟩,trivial⟩ (fun _ _ h=>h) ?_))
 rintro i v PJ
 refine ac ?_
 refine Tr.seq ?_
 refine Tr.cn rfl ?_ ?_<;>intro h6 q6
 have GV:i<(l).length:=AL h6
 obtain ⟨x,HD⟩:=at_ GV
 have hri:=hr x (List.mem_of_getElem? HD)
 obtain ⟨ex,hex⟩:=at_ (l:=e.Cu) (k:=x.BA.toNat) (by omega)
 have hln:=MT e l i
 have gh:i*l.length≤24*24:=Nat.mul_le_mul (by omega) Ke
 refine ac ?_
 refine ao ?_
 refine tp rfl (AA rfl underlying37 Ct (vl rfl) (vl rfl) (by omega) (AU HD)) (tp rfl (AF rfl G0 Ct (vl rfl) rfl rfl) ?_)
 refine Tl rfl rfl rfl rfl Lj JD (fun b2=> ?_)
 refine tm rfl ?_
 refine sf 0 10 ⟨rfl,rfl,rfl⟩ rfl rfl rfl rfl ?_
 refine ao ?_
 refine Oh 1 2 8 9 10 37 38 39 rfl ?_
 refine ac ?_
 refine Tr.block (Tr.Gx [(1,_),(2,_),(9,_),(10,_),(37,_),(38,_),(39,_),(44,_),(45,_)] ⟨ke rfl,ke rfl,ke rfl,ke rfl,ke rfl,ke rfl,ke rfl,ke rfl,ke rfl,trivial⟩ (fun k v=>[(46,int ((k:Nat):Int)),(8,Ab v (reqs (Mi e l i++Iu e l i k)))]) (fun k v=>Hp M0 w0 OR ([Ax 49 2 v])) (fun k:Nat=>k≤(l).length) (fun k:Nat=>(l).length-k) 0 v (Nat.zero_le _) ⟨ke rfl,⟨_,rfl,CK (by simp [Iu])⟩,trivial⟩ (fun _ _ h=>h) ?_)
 rintro k v BR
 refine ac ?_
 refine Tr.seq ?_
 refine Tr.cn rfl ?_ ?_<;>intro h7 q7
 have Aa:k<(l).length:=AL h7
 obtain ⟨y,AY⟩:=at_ Aa
 have hrk:=hr y (List.mem_of_getElem? AY)
 obtain ⟨ey,hey⟩:=at_ (l:=e.Cu) (k:=y.BA.toNat) (by omega)
 have hll:=QA e l i k
 have hB:Ub e l i k=(Kq e.Cz x.BA y.BA&&decide (Jf ex x<Jf ey y)):=by unfold Ub KD Kr;rw [HD,AY,Option.getD_some,Option.getD_some,hex,hey];rfl
 refine ac ?_
 refine ao ?_
 refine tp rfl (AA rfl underlying37 Ct (vl rfl) (vl rfl) (by omega) (AU AY)) (tp rfl (AF rfl G0 Ct (vl rfl) rfl rfl) ?_)
 refine Tl rfl rfl rfl rfl Lj JD (fun b3=> ?_)
 refine tm rfl ?_
 refine sf 0 12 ⟨rfl,rfl,rfl⟩ rfl rfl rfl rfl ?_
 refine ao ?_
 refine Qb 1 2 8 9 10 11 12 37 38 39 44 45 46 rfl ?_
 refine ac ?_
 refine co rfl (jj (QB (e:=e) (a:=x.BA) (b:=y.BA)) rfl rfl rfl rfl) ?_
 refine cm rfl ?_
 refine Ch.cs 57 rfl ?_ ?_<;>intro h8 q8
 refine ac ?_
 refine cy h8 rfl (AA rfl underlying27 F6 (vl rfl) (vl rfl) (by omega) (Cf hex)) ?_
 refine ac ?_
 refine cy h8 rfl (DK (Na (e:=ex) (c:=x)) rfl rfl rfl) ?_
 refine ac ?_
 refine cy h8 rfl (AA rfl underlying27 F6 (vl rfl) (vl rfl) (by omega) (Cf hey)) ?_
 refine ac ?_
 refine cy h8 rfl (DK (Na (e:=ey) (c:=y)) rfl rfl rfl) ?_
 refine ac ?_
 refine Qb 1 2 8 9 10 11 37 38 39 44 45 46 75 rfl ?_
 refine Tr.cn rfl ?_ ?_<;>intro h9 q9
 refine ao ?_
 refine TO.GJ 0 rfl rfl (by decide) (DY rfl rfl rfl rfl underlying39 Er bw z49 (Kb rfl) (Kf rfl) (CO (by exact List.Mem.head _) (Ka rfl))) (fun v1=> ?_)
 refine ao ?_
 refine II 1 2 8 9 10 37 38 39 44 45 46 rfl ?_
 refine ac ?_
 exact Fin.Hv (k+1) v1 (⟨Aa,by omega⟩) ⟨⟨_,rfl,AE k⟩,⟨_,rfl,CK (by rw [Xd (by rw [hB,h8,h9];rfl),←List.append_assoc];simp;rfl)⟩,ke rfl,ke rfl,ke rfl,ke rfl,ke rfl,ke rfl,ke rfl,ke rfl,ke rfl,trivial⟩ (fun _ _ h=>h)
 refine a2 ?_
 exact Fin.Hv (k+1) v (⟨Aa,by omega⟩) ⟨⟨_,rfl,AE k⟩,⟨_,rfl,CK (by rw [TD (by rw [hB,h8,h9];rfl)])⟩,ke rfl,ke rfl,ke rfl,ke rfl,ke rfl,ke rfl,ke rfl,ke rfl,ke rfl,trivial⟩ (fun _ _ h=>h)
 refine ac ?_
 refine Qb 1 2 8 9 10 11 37 38 39 44 45 46 75 rfl ?_
 refine a2 ?_
 exact Fin.Hv (k+1) v (⟨Aa,by omega⟩) ⟨⟨_,rfl,AE k⟩,⟨_,rfl,CK (by rw [TD (by rw [hB,h8];rfl)])⟩,ke rfl,ke rfl,ke rfl,ke rfl,ke rfl,ke rfl,ke rfl,ke rfl,ke rfl,trivial⟩ (fun _ _ h=>h)
 have A_:k=(l).length:=by have:=AM h7;omega
 subst A_
 refine a2 ?_
 exact Fin.Hv (i+1) v (⟨GV,by omega⟩) ⟨⟨_,rfl,AE i⟩,⟨_,rfl,CK (by rw [NZ])⟩,ke rfl,ke rfl,ke rfl,ke rfl,trivial⟩ (fun _ _ h=>h)
 have Kz:i=(l).length:=by have:=AM h6;omega
 subst Kz
 refine a2 ?_
 refine Tr.ret (Fin.Eg rfl (DA.Ht _ _) rfl ?_ rfl ?_)
 · exact Ai _ _
 · exact Lr
theorem Ud {c:Aq} {l:List B8} (ho:c.own=0):A9 prog 16 [Hq c,Fv l] (Iv [ints (Is c l),int (C4 c l)]):=by
 refine fo func16 rfl ⟨rfl,rfl⟩ fun M0 w0=>(Tr.Gw 0 1 rfl rfl fun OI=> ?_)
 refine a2 ?_
 refine co rfl (DK (OH (c:=c) (m:=((c.Gr.length:Nat):Int))) rfl rfl rfl) ?_
 refine ac ?_
 refine an ?_ ?_<;>intro h1 q1
 exact absurd ho (by unfold Aq.own;simpa using h1)
 refine a2 ?_
 refine co rfl (DK (P5 (c:=c) (l:=l)) rfl rfl rfl) ?_
 refine ac ?_
 refine CY 4 5 rfl (Tr.ret (Fin.Eg rfl (DA.Ht _ _) rfl ?_ rfl ?_))
 · exact Lr
 · exact Lr
def BL (n:Nat):Aq:=⟨[⟨0,300,[0]⟩],List.replicate n 0,[24]⟩
theorem fS {n:Nat} (hn:n≤1000):A9 prog 15 [int ((n:Nat):Int)] (Hq (BL n)):=by
 refine fo func15 rfl ⟨rfl,rfl⟩ fun M0 w0=>(Tr.seq (Tr.As ?_))
 refine Tl rfl rfl rfl rfl z35 bq (fun b1=> ?_)
 refine ap ?_
 refine ap ?_
 refine tp rfl (Ad (rows:=[(0,_),(1,[_])]) rfl pN YO ⟨⟨rfl,(Va rfl)⟩,⟨⟨rfl,⟨_,rfl,Pr.le_trans (Am _ _) (AD _)⟩⟩,trivial⟩⟩ rfl) ?_
 refine ap ?_
 refine tp rfl (MI (m:=n) rfl underlying22 Ce U8 z3 rfl (by decide) (by decide) (vl rfl) (vl rfl) (by unfold maxLen;omega) (by omega)) ?_
 refine tp rfl (oI) ?_
 refine tp rfl (Ad (rows:=[(0,[_]),(1,[_]),(2,[_])]) rfl oz bq ⟨⟨rfl,⟨_,rfl,Pr.le_trans (Am _ _) (AD _)⟩⟩,⟨⟨rfl,⟨_,rfl,Pr.le_trans (Pr.le_trans (Am _ _) (Pr.le_of_eq (show _=slice 1 ((List.replicate n (0:Int)).map fun n=>[int n]) by rw [List.map_replicate];rfl))) (AD _)⟩⟩,⟨⟨rfl,⟨_,rfl,Pr.le_trans (Am _ _) (AD _)⟩⟩,trivial⟩⟩⟩ rfl) ?_
 refine ap ?_
 refine Tr.ret (Fin.Cm rfl (BK.cell 0 rfl rfl Ge Jt rfl (Lr)) ?_)
 · exact Lr
theorem Gb {l:List B8} {r:List BU} {d:List Int} (OU:∀x∈l,x.JM.small) (hl:l.length≤1000000) (hr:r.length≤1000000) (hd:d.length≤1000000):O6 prog 18 [agg [Fv l,reqs r,ints d]] (fun x=>agg [Fv l,reqs r,is x]) (fun x=>[BQ 3 1 (d.map fun n=>[int n]) x]):=by
 refine O6.of func18 rfl rfl (by exact Nb rfl) fun M0 w0 S rs M1 w1=>(Tr.Gw 0 0 rfl rfl fun HW=>(Tr.seq (Tr.As (tp rfl (Dh rfl (Va rfl)) ?_))))
 refine Tl rfl rfl rfl rfl z42 Gz (fun b1=> ?_)
 refine ao ?_
 refine Tr.seq (Tr.pad (Tr.pad (Tr.pad (Tr.rx ?_))))
 refine ax ?_
 refine xo rfl (fun _=>Se rfl underlying39 Er bw z49 rfl (by decide) (vl rfl) (by rw [List.length_map];unfold maxLen;omega) (by rw [List.length_map];omega)) ?_
 refine ax ?_
 refine Cx.ef 0 rfl rfl (by decide) (RR rfl rfl (by decide) rfl underlying22 Ce U8 z3 rfl (by decide) (by decide) ⟨_,rfl,F1 1⟩ (vl rfl) (by rw [List.length_map];unfold maxLen;omega) (by rw [List.length_map];omega)) ?_
 refine Cx.ef 1 rfl rfl (by decide) (S9 (d:=12) (s:=11) (p:=fun v=>agg [is (.slice none 0 0),reqs r,Ab v (lens (d.map fun n=>[int n]).length)]) (q:=agg [is (.slice none 0 0),reqs r,lens (d.map fun n=>[int n]).length]) rfl (by decide) (fun _=>BB ⟨Lr,Lr,Ai _ _,trivial⟩) rfl rfl (by decide) (fun v=>Rc rfl rfl (by decide) (fun _=>Ad (rows:=[(1,[_]),(2,[_])]) rfl TX Gz ⟨⟨rfl,VL.le (vl rfl) (AD _)⟩,⟨⟨rfl,VL.le (vl rfl) (AD _)⟩,trivial⟩⟩ rfl))) (Cx.ef 2 rfl rfl (by decide) (Ex rfl rfl (by decide) rfl z42 Gz) (Cx.Ew 2 rfl rfl (Hf rfl rfl rfl (by decide) rfl rfl (AJ _) Di rfl rfl) ?_))
 refine Cx.nil ⟨by kernel_rfl,?_⟩
 refine BE.S4 11 rfl (fun v11=> ?_)
 refine BE.S4 12 rfl (fun v12=> ?_)
 refine BE.S4 3 rfl (fun v3=> ?_)
 refine BE.UN 0 11 rfl rfl (BE.Rd 1 12 11 rfl rfl rfl (BE.Rd 2 3 12 rfl rfl rfl (BE.done al5 (Fin.shape 3 (fun b=> .pointer (some ⟨b,0,none⟩)) rfl (fun b9 e9=> ?_)))))
 subst e9
 refine Fin.P3 1 2 rfl rfl (Fin.drop 1 (Fin.go (FX 1 2 3 rfl ?_)))
 refine ac ?_
 refine Tr.block (Tr.Iw 1 [Ab (.slice none 0 0) (Fv (l.take 0)),reqs r,Ab v11 (lens (d.map fun n=>[int n]).length)] rfl ⟨Cg rfl,Lr,Lr,trivial⟩ (Tr.DB 62 8 (Tr.Gx [(2,_),(3,_),(14,_),(15,_)] ⟨ke rfl,ke rfl,ke rfl,ke rfl,trivial⟩ (fun k u=>[(16,int ((k:Nat):Int))]) (fun k u=>Hp M0 w0 S (Ax 62 8 u::BQ 3 1 (d.map fun n=>[int n]) v11::AB true b9 42 [Ab u (Fv (l.take k)),reqs r,Ab v11 (lens (d.map fun n=>[int n]).length)]::AB true b1 42 (([.slice none 0 0,.slice none 0 0,.slice none 0 0]:List Value).map is)::AZ M1 w1::rs)) (fun k:Nat=>k≤(l).length) (fun k:Nat=>(l).length-k) 0 (.slice none 0 0) (Nat.zero_le _) ⟨ke rfl,trivial⟩ (fun _ _ h=>h) ?_)))
 rintro k u BR
 refine ac ?_
 refine Tr.seq ?_
 refine Tr.cn rfl ?_ ?_<;>intro h1 q1
 have Aa:k<(l).length:=AL h1
 obtain ⟨x,AY⟩:=at_ Aa
 refine ac ?_
 refine Tr.seq (Tr.block (Tr.seq (Tr.As (tp rfl (AA rfl underlying37 Ct (vl rfl) (vl rfl) (by omega) (AU AY)) (tp rfl (AF rfl G0 Ct (vl rfl) rfl rfl) ?_)))))
 refine Tl rfl rfl rfl rfl Lj JD (fun b10=> ?_)
 refine sf 0 5 ⟨rfl,rfl,rfl⟩ rfl rfl rfl rfl ?_
 refine ao ?_
 refine Tr.pad (Tr.rx ?_)
 refine ax ?_
 refine xo rfl (fun _=>CN (Q6 (c:=x) (OU x (List.mem_of_getElem? AY))) rfl rfl) ?_
 refine xo rfl (fun _=>AQ (xs:=[.tmp 23]) (rows:=[_]) rfl rfl underlying37 Ct Lj rfl (by decide) ⟨⟨(by exact rfl),(Va rfl)⟩,trivial⟩ (by decide)) ?_
 refine Cx.ef 1 rfl rfl (by decide) (DY rfl rfl rfl rfl underlying37 Ct Ov Lj (Kb rfl) (Kf rfl) (CO (by exact List.Mem.head _) (Ka rfl))) ?_
 refine xo rfl (fun _=>AO rfl Ju (vl rfl)) (Cx.Ew 3 rfl rfl (HP rfl rfl rfl (vl rfl) rfl iU (by exact Nb rfl)) ?_)
 refine Cx.nil ⟨by kernel_rfl,?_⟩
 refine BE.SE 1 3 25 rfl rfl (by decide) rfl (fun v1=> ?_)
 refine BE.done al6 ?_
 refine ac ?_
 refine Tr.drop 0 (K5 2 3 14 15 16 rfl ?_)
 refine ac ?_
 refine Fin.Iw 2 [Ab v1 (Fv (l.take (k+1))),reqs r,Ab v11 (lens (d.map fun n=>[int n]).length)] rfl ⟨CK (by rw [List.take_add_one,AY,List.map_append];rfl),Lr,Lr,trivial⟩ ?_
 exact Fin.Hv (k+1) v1 (⟨Aa,by omega⟩) ⟨⟨_,rfl,AE k⟩,ke rfl,ke rfl,ke rfl,ke rfl,trivial⟩ (fun _ _ h=>h)
 have A_:k=(l).length:=by have:=AM h1;omega
 subst A_
 rw [List.take_length]
 refine ac ?_
 refine ao ?_
 refine TO.Ap 3 rfl rfl rfl (vl rfl) (Va rfl) rfl Di rfl rfl ?_
 refine ao ?_
 refine Tr.ret (Fin.drop 0 (Fin.drop 1 (Fin.VZ (Fin.jf v11 [_] rfl (BK.cell 0 rfl rfl ET Di rfl (Lr)) ?_ (List.Perm.refl _)))))
 · exact BB ⟨Ai _ _,Lr,EB _ _,trivial⟩
theorem Jg (n:Nat):(BL n).own=0:=by
 have hh:∀t:Int,t=0→(BL n).has t=true:=by intro t ht;subst ht;unfold Aq.has BL;simp
 unfold Aq.own Aq.check
 rw [if_neg (by unfold BL;simp),if_neg,if_neg,if_neg,if_neg,if_neg]
 ·
  rintro (h|h)
  · exact h rfl
  ·
   obtain ⟨t,ht,h⟩:=List.any_eq_true.1 h
   have h0:t=0:=List.eq_of_mem_replicate (by unfold BL at ht;exact ht)
   simp [hh t h0] at h
 ·
  intro h
  obtain ⟨w,hw,h⟩:=List.any_eq_true.1 h
  unfold BL at hw
  simp at hw
  subst hw
  simp at h
  have:=hh 0 rfl
  rw [this] at h;cases h
 ·
  refine not_not_intro ⟨?_,fun w hw=> ?_⟩
  ·
   intro j a b h1 h2
   unfold BL at h2
   simp at h2
  ·
   unfold BL at hw
   simp at hw
   subst hw
   intro j a b h1 h2
   simp at h2
 · unfold BL;simp [HF]
 · unfold BL;simp [GW]
theorem KE (n:Nat):(BL n).Gr.length=n:=by unfold BL;simp
theorem Z4 (n:Nat) (x:B8):FB (BL n) x=0:=by
 unfold FB BL
 rw [List.getD_eq_getElem?_getD]
 cases h:(List.replicate n (0:Int))[x.BA.toNat]? with
 |none=>rfl
 |some y=>exact List.eq_of_mem_replicate (List.mem_of_getElem? h)
theorem Rs {n:Nat} {b y:List Int} {fr:Int} (hf:(BL n).Bi b y []=0) (hb:b.length<24) (h0:0≤fr) (h1:fr<300):(BL n).early b y 0 fr=some fr:=by
 have hh:(BL n).has 0=true:=by unfold Aq.has BL;simp
 rw [Pc (by rw [MF hh];exact hf)]
 have hl:=(HI (DQ hf)).1
 have hfree:(BL n).free (b.zip y) 0 0=true:=by
  unfold Aq.free Aq.HH
  have hc:=Wi (BL n) (b.zip y) (0*8+(0:Int).toNat)
  rw [List.length_zip] at hc
  rw [decide_eq_true_eq]
  show _<(24:Int)
  omega
 unfold Aq.next BL
 unfold DP
 rw [if_pos ⟨by show max fr 0<300;omega,by simp,hfree⟩]
 congr 1
 show max (max fr 0) 0=fr
 omega
theorem QD {d:List Int} {i m:Int} (hd:∀x∈d,x+1≤m) (hm:1≤m):∀{r:List BU} {fr:Int},fr≤m→DT r d i fr≤m
 |[],_,h=>h
 |q::r,fr,h=>by
  unfold DT
  rw [List.foldl_cons]
  refine QD hd hm ?_
  split
  ·
   have:d.getD q.fst.toNat 0+1≤m:=by
    rw [List.getD_eq_getElem?_getD]
    cases hx:d[q.fst.toNat]? with
    |none=>show (0:Int)+1≤m;omega
    |some x=>exact hd x (List.mem_of_getElem? hx)
   omega
  · exact h
theorem QE {n m:Nat} {r:List BU} {T row done:List Int} (hr:JX (m:Int) r row done) (hl:∀q∈r,0≤q.fst∧0≤q.thn∧q.fst≠q.thn) (hm:m≤24) (hT:∀i:Int,0≤i→i<(m:Int)→Mf T i=0):
  ∀(k:Nat),k≤row.length→∃d b y,Iq (BL n) r T 3 m (row.take k)=some (d,b,y)∧∀x∈d,x+1≤3+k
 |0,_=>⟨_,_,_,rfl,fun x hx=>by rw [List.eq_of_mem_replicate hx];omega⟩
 |k+1,hk=>by
  obtain ⟨d,b,y,h1,h2⟩:=QE (n:=n) hr hl hm hT k (by omega)
  obtain ⟨i,hi⟩:=at_ (l:=row) (k:=k) (by omega)
  have Pm:=hr.bE i (List.mem_of_getElem? hi)
  have hh:(BL n).has 0=true:=by unfold Aq.has BL;simp
  have hS:=K1.run (k:=k) hr hl hm (Jg n) (fun i h0 h3=>by rw [hT i h0 h3];exact hh) (by omega) h1
  have hrl:=hr.len
  have Xo:b.length=k:=by rw [hS.hb,List.length_map,List.length_take];omega
  have hf1:=QD (d:=d) (i:=i) (m:=3+k) h2 (by omega) (r:=r) (fr:=3) (by omega)
  have Xw:= @JY d i r 3
  have he:(BL n).early b y (Mf T i) (DT r d i 3)=some (DT r d i 3):=by
   rw [hT i Pm.1 Pm.2]
   exact Rs hS.fit (by omega) (by omega) (by omega)
  refine ⟨_,_,_,Ss hi h1 he,fun x hx=> ?_⟩
  rcases List.mem_or_eq_of_mem_set hx with hx|rfl
  · have:=h2 x hx;omega
  · omega
theorem Xe {n:Nat} {l:List B8} {r:List BU} (hv:Ar (l.length:Nat) r=0):∃p,Je (BL n) l r 3=some p:=by
 obtain ⟨h0,h1,_,_⟩:=CV hv
 obtain ⟨hr,hrl⟩:=D6 hv l.length (by simp)
 rw [Int.toNat_natCast] at hr hrl
 obtain ⟨d,b,y,h2,_⟩:=QE (n:=n) (T:=l.map (FB (BL n))) hr (fun q hq=>by
  have:=h1 q hq;unfold C3 at this;rw [decide_eq_false_iff_not] at this;omega) (by omega) (fun i hi hl=>by
  unfold Mf
  rw [List.getD_eq_getElem?_getD,List.getElem?_map]
  cases hx:l[i.toNat]? with
  |none=>rfl
  |some x=>exact Z4 n x) _ (Nat.le_refl _)
 rw [List.take_length] at h2
 exact ⟨_,h2⟩
theorem Z5 {n w:Nat} {t d:List Int} (hl:t.length=d.length) (Ke:t.length≤24) (hh:∀x∈t,(BL n).has x=true) (hw:w<d.length):(BL n).Bi t (d.set w 300) []=47:=by
 have h0:(BL n).Cs t (d.set w 300) []=47:=by
  unfold Aq.Cs
  rw [if_neg (not_not_intro (Jg n)),if_neg (by rw [List.length_set];omega),if_neg (by omega),if_neg,if_neg]
  ·
   intro hc
   rw [List.all_eq_true] at hc
   obtain ⟨x,hx⟩:=at_ (l:=t) (k:=w) (by omega)
   have hm:(x,(300:Int))∈t.zip (d.set w 300):=List.mem_of_getElem? (List.getElem?_zip_eq_some.2 ⟨hx,by rw [List.getElem?_set];simp [hw]⟩)
   have h2:=hc _ hm
   have h3:(BL n).may x 300=false:=by unfold Aq.may Aq.NO BL;simp [Cr]
   rw [h3] at h2;cases h2
  ·
   rw [Bool.not_eq_true,List.any_eq_false]
   intro x hx
   rw [List.append_nil] at hx
   rw [hh x hx];decide
 unfold Aq.Bi
 rw [h0,if_pos (by decide)]
theorem Xf {e:FC} {n w:Nat} {l:List B8} {r:List BU} {d:List Int} (hb:DF e (BL n) l=0) (hd:d.length=l.length) (hv:Ar (l.length:Nat) r=0) (hw:w<d.length):HN e (BL n) l r (d.set w 300)=44∨HN e (BL n) l r (d.set w 300)=47:=by
 have hd2:(d.set w 300).length=l.length:=by rw [List.length_set];exact hd
 by_cases h:r.any (MR (d.set w 300))=true
 · exact .inl (Rp hb hd2 hv h)
 ·
  right
  obtain ⟨_,bO,hte⟩:=Ro hb
  obtain ⟨_,_,mE⟩:=KC bO
  rw [Xb hb hd2 hv (fun q hq=>by
   cases OX:MR (d.set w 300) q with
   |false=>rfl
   |true=>exact absurd (List.any_eq_true.2 ⟨q,hq,OX⟩) h)]
  exact Z5 (by rw [List.length_map];exact hd.symm) (by rw [List.length_map];exact (MP hte).1) (OO hte mE) hw
theorem Nc {e:FC} {c:Aq} {l:List B8} {r:List BU} {d:List Int} (hb:DF e c l=0) (hd:d.length=l.length) (h0:l.length≠0):HN e c l r (d.drop 1)=49:=Xa hb (by rw [List.length_drop];omega)
theorem Nd {e:FC} {c:Aq} {l:List B8} {r:List BU} {d:List Int} {q:BU} (hb:DF e c l=0) (hd:d.length=l.length) (hv:Ar (l.length:Nat) r=0) (hq:q∈r):HN e c l r (d.set q.thn.toNat (d.getD q.fst.toNat 0))=44:=by
 refine Rp hb (by rw [List.length_set];exact hd) hv (List.any_eq_true.2 ⟨q,hq,?_⟩)
 have h1:=(CV hv).2.1 q hq
 unfold C3 at h1
 rw [decide_eq_false_iff_not] at h1
 unfold MR
 rw [decide_eq_true_eq,Dt (by omega) (by omega) (by omega),Dt (by omega) (by omega) (by omega),if_neg (by omega),if_pos rfl]
 omega
theorem KF   :A9 prog 6 [] (bool true):=by
 refine fo func6 rfl ⟨rfl,rfl⟩ fun M0 w0=> ?_
 · repeat' first|exact bool_eq (by decide)|exact absurd h (by decide)|refine co rfl (AW rfl (TC (l:=[])) ⟨⟨_,rfl,BB (ps:=[is (.slice none 0 0),is (.slice none 0 0),is (.slice none 0 0)]) ⟨Lr,Lr,AV 1,trivial⟩⟩,trivial⟩) ?_|refine cy h rfl (MI (m:=2) rfl underlying37 Ct Ov Lj rfl (by decide) (by decide) ⟨_,rfl,int_eq rfl⟩ ⟨_,rfl,int_eq rfl⟩ (by decide) (by decide)) ?_|refine cy h rfl (oI) ?_|refine cy h rfl (Ad (rows:=[(0,[_]),(2,[_])]) rfl TX Gz ⟨⟨rfl,(Vo rfl)⟩,⟨⟨rfl,⟨_,rfl,Pr.le_trans (Am _ _) (AD _)⟩⟩,trivial⟩⟩ rfl) ?_|refine cy h rfl (CN (TC (l:=[3,1])) rfl rfl) ?_|refine ac ?_|(refine Ch.cg rfl rfl rfl ?_ ?_<;>intro h q)
end Go.Proofs.YtppdobdifkefcaaGreatDoor
namespace Cp
open Go Go.RowKit Go.Great
section
variable {P:Program}
theorem BJ.Z6 {f:FuncId} {args:List Pr} {res:Pr} {r:Ae} (h:BJ P f args res r (fun _=>r)) (hb:r.blk=none) (W:World) (vs:List Value) (hr:r.h Xn W) (hv:HL Xn W args vs):
  Calls P f vs.toArray W fun e w'=>∃v,e= .returned v∧res.h Xn w' v∧Below W.heap.size W w':=by
 refine (h.2 Xn W OR [] Xn W vs ((Al.begin (bk W)).Hj (r:=r) hb hr) hv).mono ?_
 rintro e w' ⟨v,M',rfl,h2,h3,h4⟩
 exact ⟨v,rfl,res.st _ _ _ _ _ (Ext.less h4.m) h2,h4.below⟩
end
section
variable {P:Program} {n:Fm} {E:Env} {M0:Av} {w0:World} {S:Nat→Prop} {rs:List Ae} {Q:Exit→Act→World→Prop} {p0 p1:Pr} {R:Value→Ae}
def TG (R:Value→Ae) (v:Value):Ae:=match v with| .agg cs=>R (cs.getD 2 undef)|_=>BC
theorem QF {M:Av} {w:World} {v x:Value} (h:(agg [p0,p1,is x]).h M w v):TG R v=R x:=by
 obtain ⟨cs,rfl,_,h2⟩:=h
 match cs,h2 with
 |[a,b,c],⟨_,_,h3,_⟩=>
  obtain rfl:c=x:=h3
  rfl
theorem BJ.mH {f:FuncId} {args:List Pr} (h:O6 P f args (fun x=>agg [p0,p1,is x]) (fun x=>[R x])):BJ P f args (Cp.ex fun x=>agg [p0,p1,is x]) BC (TG R):=by
 refine ⟨h.1,fun M0 w0 S rs M w vs hI hv=>(h.2 M0 w0 S rs M w vs (Al.I8 hI) hv).mono ?_⟩
 rintro e w' ⟨v,M',x,rfl,_,h1,h2,h3⟩
 exact ⟨_,M',rfl,⟨x,h1⟩,h2,by rw [QF (R:=R) h1];exact h3⟩
theorem Nf:(Cp.ex fun x=>agg [p0,p1,is x]).le (CI [p0,p1,any]):=fun M w v ⟨x,h⟩=>by
 obtain ⟨g1,g2⟩:=AJ _ M w v h
 refine ⟨?_,g2⟩
 match v.cells.toList,g1 with
 |[_,_,_],⟨h1,h2,_,_⟩=>exact ⟨h1,h2,trivial,trivial⟩
theorem Fin.Xg {e:Exit} {T:TypeId} {v:Value} {b:Nat} (s i j:Nat) (hs:E.lookup s=some (Ab v (Cp.ex fun x=>agg [p0,p1,is x]))) (hi:rs[i]? =some (TG R v)) (hj:rs[j]? =some (Rn T v (.pointer (some ⟨b,0,none⟩)))) (hij:i≠j)
  (k:∀x,Fin n E (Hp M0 w0 S ((rs.set i (R x)).set j (AB true b T [p0,p1,is x]))) Q e):Fin n E (Hp M0 w0 S rs) Q e:=by
 rintro a w ⟨M,h1,h2,h3,h4⟩
 have h4:Al M0 w0 S rs M w:=h4
 obtain ⟨_,x,hx⟩:=h3 s _ hs
 have hv:a.tmps.getD s undef=v:=(h3 s _ hs).1
 rw [hv] at hx
 have hl:TG R v=R x:=QF hx
 have E3:i<rs.length:=by rcases Nat.lt_or_ge i rs.length with h|h;exact h;rw [List.getElem?_eq_none h] at hi;cases hi
 have e1:rs.set i (R x)=rs:=by
  apply List.ext_getElem?
  intro m
  rw [List.getElem?_set]
  by_cases X6:i=m
  · subst X6;rw [if_pos rfl,if_pos E3,hi,hl]
  · rw [if_neg X6]
 refine k x a w ⟨M,h1,h2,h3,?_⟩
 rw [e1]
 refine Al.CU h4 hj rfl rfl ?_
 obtain ⟨cs,rfl,_,hcs⟩:=hx
 obtain ⟨g0,cs',g1,g2,g3⟩:=(h4.hold _ (List.mem_of_getElem? hj)).1
 have e1:cs'=cs:=by
  have:=MN g2
  rw [this];show cs.toArray.toList=cs;simp
 subst e1
 exact ⟨g0,cs',g1,hcs,g3⟩
end
end Cp
namespace Go.Proofs.YtppdobdifkefcaaGreatDoor
open Go Go.RowKit Cp Go.Proofs.Tryz
theorem Xh {f:Int} {n:Nat} (h:0≤f) (hn:0<n):∃w:Nat,f.tmod (n:Int)=w∧w<n:=by
 have h1:=Int.emod_nonneg f (b:=(n:Int)) (by omega)
 have h2:=Int.emod_lt_of_pos f (b:=(n:Int)) (by omega)
 rw [Int.tmod_eq_emod_of_nonneg h]
 exact ⟨(f % (n:Int)).toNat,by omega,by omega⟩
theorem Xi {e:FC} {l:List B8} (he:NK e) (hl:eP e.Cu l):DF e (BL e.Cu.length) l=0∧C4 (BL e.Cu.length) l=0:=by
 have Ke:=hl.len
 have ht : C4 (BL e.Cu.length) l = 0 := ON (by omega) fun j y _ hy => by
  have:=hl.any y (List.mem_of_getElem? hy)
  have h1:=this.lo
  have h2:=this.hi
  unfold Jc
  rw [Bool.or_eq_false_iff,decide_eq_false_iff_not,decide_eq_false_iff_not,KE]
  omega
 refine ⟨?_,ht⟩
 unfold DF
 rw [if_neg (by rw [he.ok];decide),if_neg]
 · exact ht
 ·
  refine not_not_intro ?_
  have h4:=Jg e.Cu.length
  unfold Aq.own at h4
  rw [KE] at h4;exact h4
theorem QG {t:List Int} {f:Int} (hf:0≤f∧f<256):BJ prog 4 [ints t,is (.int .u8 f)] (bool true) (ER) (fun _=>ER):=by
 refine BJ.of func4 rfl rfl (by exact Nb rfl) fun M0 w0 S rs M1 w1=> ?_
 refine Tr.seq (Tr.Ao (cm rfl (Ch.nil (Fin.go (Tr.seq (Tr.seq (Tr.Ao (cm rfl (co rfl (AW rfl (Y7) ⟨ke rfl,trivial⟩) (co rfl (QO rfl (vl rfl)) (Ch.nil (Fin.go ?_))))))))))))
 refine Tr.cn rfl ?_ ?_<;>intro h1 q1
 refine Tr.seq (Tr.Ao (co rfl (AW rfl (KF) trivial) (cm rfl (Ch.nil (Fin.go (Tr.ret (Fin.AH (Fin.D8 rfl rfl ?_ (fun _ _ _ _=>rfl)))))))))
 · exact Lr
 have ht4:t.length≤400:=by simpa using h1
 have ht9:t.length≤1000000000:=by omega
 refine Tr.skip (Fin.go (Tr.seq (Tr.As (tm rfl (TO.pad ?_)))))
 refine TO.GJ 0 rfl rfl (by decide) (FW rfl rfl (by decide) rfl (dn (l:=t) ht9) ⟨ke rfl,trivial⟩) (fun v1=> ?_)
 refine TO.TW 26 0 _ rfl rfl (fun _=>rfl) (fun b1=> ?_)
 refine tm rfl (TO.nil (Fin.go (Tr.seq (Tr.As (tm rfl (TO.Hu 0 rfl rfl (by decide) (Ag rfl rfl (by decide) rfl (WX) ⟨ke rfl,trivial⟩) ?_))))))
 refine TO.ex 28 rfl (fun z1=>TO.fact 28 rfl fun GH=> ?_)
 have hn2:=GH.n2
 have hn3:=GH.n3
 refine Tl rfl rfl rfl rfl z31 bp (fun b2=> ?_)
 refine TO.Ap 0 rfl rfl rfl (vl rfl) (Va rfl) rfl Gp rfl rfl (TO.freeze 0 6 rfl rfl (TO.nil (Fin.SD 0 rfl (fun s1=> ?_))))
 refine Fin.go (Tr.seq (Tr.As (tm rfl (tp rfl (AF rfl E7 Gp (vl rfl) rfl rfl) (TO.Hu 0 rfl rfl (by decide) (Ag rfl rfl (by decide) rfl (ZX GH.snd ⟨by omega,by omega⟩) ⟨ke rfl,ke rfl,trivial⟩) ?_)))))
 refine TO.ex 31 rfl (fun z2=>TO.fact 31 rfl fun QS=> ?_)
 have h7:=QS.len
 have OU:∀x∈z2,x.JM.small:=fun x hx=>(QS.any x hx).small
 have Pm:∀c∈z2,0≤c.BA∧c.BA<(z1.Cu.length:Nat):=fun c hc=>⟨(QS.any c hc).lo,(QS.any c hc).hi⟩
 obtain ⟨hb,hte⟩:=Xi GH QS
 have fR:=MT z1 z2 z2.length
 have s_:z2.length*z2.length≤7*7:=Nat.mul_le_mul h7 h7
 obtain ⟨R,hR⟩:∃R,P_ z1 z2=R:=⟨_,rfl⟩
 have hRl:R.length≤49:=by rw [←hR];unfold P_;omega
 have hv:Ar (z2.length:Nat) R=0:=by rw [←hR];exact Uc (by omega)
 refine tm rfl (TO.nil (Fin.SD 0 rfl (fun s2=> ?_)))
 refine Fin.go (FX 1 6 7 rfl (Tr.seq (Tr.As (tp rfl (Of rfl IP rfl rfl) (tp rfl (Gd rfl Oq rfl) (tp rfl (Bq rfl underlying27 (vl rfl)) ?_))))))
 refine tp rfl (AW rfl (fS (n:=z1.Cu.length) (by omega)) ⟨ke rfl,trivial⟩) ?_
 refine Tl rfl rfl rfl rfl z35 bq (fun b3=> ?_)
 refine TO.Ap 0 rfl rfl rfl (vl rfl) (Va rfl) rfl Jt rfl rfl (TO.freeze 0 8 rfl rfl (TO.nil (Fin.go (Tr.seq (Tr.Ao (co rfl (AF rfl Ge Jt (vl rfl) rfl rfl) (cm rfl ?_)))))))
 refine co rfl (AW rfl (Ud (c:=BL z1.Cu.length) (l:=z2) (Jg _)) ⟨ke rfl,ke rfl,trivial⟩) ?_
 refine cm rfl (co rfl (CJ rfl (vl rfl) rfl) (co rfl (CJ rfl (vl rfl) rfl) (cm rfl (cm rfl (Ch.nil (Fin.go (Og 1 6 7 8 9 10 rfl (Tr.seq (Tr.Ao (co rfl (AF rfl E7 Gp (vl rfl) rfl rfl) (cm rfl ?_)))))))))))
 refine co rfl (AW rfl (QC (e:=z1) (l:=z2) GH.fits GH.ok (by omega) Pm) ⟨ke rfl,ke rfl,trivial⟩) ?_
 refine cm rfl (co rfl (CJ rfl (vl rfl) rfl) (co rfl (CJ rfl (vl rfl) rfl) (cm rfl (cm rfl (Ch.nil (Fin.go (TT 1 6 7 8 9 10 11 rfl (Tr.seq (Tr.re 11 rfl (Pr.le_of_eq (by rw [hR])) (Tr.As (tp rfl (AF rfl E7 Gp (vl rfl) rfl rfl) (tp rfl (AF rfl Ge Jt (vl rfl) rfl rfl) (tm rfl ?_)))))))))))))
 refine tm rfl ?_
 refine TO.Hu 1 rfl rfl (by decide) (Ag rfl rfl (by decide) rfl (P9 (e:=z1) (c:=BL z1.Cu.length) (l:=z2) (r:=R) (fr:=3) GH.fits OU (by omega)) ⟨ke rfl,ke rfl,ke rfl,ke rfl,ke rfl,trivial⟩) ?_
 refine tm rfl (tp rfl (CJ rfl (vl rfl) rfl) (tp rfl (CJ rfl (vl rfl) rfl) ?_))
 refine Tl rfl rfl rfl rfl z42 Gz (fun b4=> ?_)
 refine TO.Ap 0 rfl rfl rfl (vl rfl) (Va rfl) rfl Di rfl rfl (TO.freeze 0 13 rfl rfl (tm rfl (TO.nil (Fin.go (mW 1 6 7 8 9 10 11 13 14 rfl (Tr.seq (Tr.seq ?_)))))))
 obtain ⟨pp,hpp⟩:=Xe (n:=z1.Cu.length) (l:=z2) (r:=R) hv
 have he:=XY hb hv hpp
 obtain ⟨h1_,h2_,h3_⟩:=P8 he
 obtain ⟨hok,bO⟩:=Ua he
 obtain ⟨D,hD⟩:∃D,P7 (BL z1.Cu.length) z2 R 3=D:=⟨_,rfl⟩
 rw [hD] at hok bO h3_
 have mI:=hok.len
 refine Tr.re 14 rfl (int_eq he) (Tr.re 13 rfl (Pr.le_of_eq (show ref [Fv (UX z1 (BL z1.Cu.length) z2 R 3),reqs (UY z1 (BL z1.Cu.length) z2 R 3),ints (UZ z1 (BL z1.Cu.length) z2 R 3)]=ref [Fv z2,reqs R,ints D] by rw [h1_,h2_,h3_])) (Tr.re 10 rfl (int_eq hte) (Tr.re 9 rfl (Pr.le_of_eq (congrArg ints (P4 hte))) (Tr.As (tm rfl (tp rfl (ki rfl rfl rfl rfl) (tm rfl ?_)))))))
 refine TO.cases 58 rfl (fun h2=> ?_) (fun h2=> ?_)
 have q2:=C6.Dj h2
 exact absurd h2 (by decide)
 have q2:=C6.Dj h2
 refine TO.HT rfl rfl rfl h2 rfl (by decide) (Aw rfl (vl rfl)) (TO.HT rfl rfl rfl h2 rfl (by decide) (ki rfl rfl rfl rfl) (tp rfl (LZ rfl rfl h2 rfl) (tm rfl ?_)))
 refine TO.cases 62 rfl (fun h3=> ?_) (fun h3=> ?_)
 have q3:=C6.Dj h3
 exact absurd h3 (by decide)
 have q3:=C6.Dj h3
 refine TO.HT rfl rfl rfl h3 rfl (by decide) (Aw rfl (vl rfl)) (TO.HT rfl rfl rfl h3 rfl (by decide) (Bq rfl underlying22 (vl rfl)) (TO.HT rfl rfl rfl h3 rfl (by decide) (Aw rfl (vl rfl)) (TO.HT rfl rfl rfl h3 rfl (by decide) (Bq rfl underlying37 (vl rfl)) (TO.HT rfl rfl rfl h3 rfl (by decide) (ki rfl rfl rfl rfl) (tp rfl (LZ rfl rfl h3 rfl) (tm rfl ?_))))))
 refine TO.cases 69 rfl (fun h4=> ?_) (fun h4=> ?_)
 have q4:=C6.Dj h4
 exact absurd h4 (by simp)
 have q4:=C6.Dj h4
 refine TO.HT rfl rfl rfl h4 rfl (by decide) (AF rfl E7 Gp (vl rfl) rfl rfl) (TO.HT rfl rfl rfl h4 rfl (by decide) (AF rfl Ge Jt (vl rfl) rfl rfl) (TO.HT rfl rfl rfl h4 rfl (by decide) (AF rfl ET Di (vl rfl) rfl rfl) ?_))
 refine TO.Vc 1 rfl rfl rfl h4 rfl rfl (by decide) (Ag rfl rfl (by decide) rfl (GD (e:=z1) (c:=BL z1.Cu.length) (l:=z2) (r:=R) (d:=D) GH.fits) ⟨ke rfl,ke rfl,ke rfl,trivial⟩) ?_
 refine TO.HT rfl rfl rfl h4 rfl (by decide) (ki rfl rfl rfl rfl) (tp rfl (LZ rfl rfl h4 rfl) (TO.nil (Fin.go (Oh 1 6 7 8 9 11 13 75 rfl ?_))))
 refine Tr.cn rfl ?_ ?_<;>intro h5 q5
 exact absurd h5 (by rw [bO];decide)
 refine Tr.skip (Fin.go (Tr.seq (Tr.seq (Tr.Ao (cm rfl (co rfl (Bq rfl underlying37 (vl rfl)) (cm rfl (Ch.nil (Fin.go (Tr.block (Tr.BH [(1,_),(6,_),(7,_),(8,_),(9,_),(11,_),(13,_),(77,_)] (kk8 rfl) (fun k:Nat=>[(78,int ((k:Nat):Int))]) (fun k:Nat=>k≤(z2).length) (fun k:Nat=>(z2).length-k) 0 (Nat.zero_le _) ⟨ke rfl,trivial⟩ ?_)))))))))))
 rintro k BR
 refine Tr.seq (Tr.Ao (co rfl (ki rfl rfl rfl rfl) (Ch.nil (Fin.go (Tr.seq ?_)))))
 refine Tr.cn rfl ?_ ?_<;>intro h6 q6
 have Aa:k<(z2).length:=AL h6
 obtain ⟨x,AY⟩:=at_ Aa
 have iB:=Pm x (List.mem_of_getElem? AY)
 have htm:=XU (c:=BL z1.Cu.length) (x:=x) (by rw [KE];exact iB)
 have hd5:=Dy (l:=D) (i:=k) (by omega)
 refine Tr.skip (Fin.go (Tr.seq (Tr.block (Tr.seq (Tr.Ao (cm rfl (cm rfl (Ch.nil (Fin.go (Tr.seq (Tr.bQ mixed (by kernel_rfl) (cm rfl (cm rfl ?_)))))))))))))
 refine co rfl (AA rfl underlying22 Ce (vl rfl) (vl rfl) (by omega) (AU (show (z2.map (FB (BL z1.Cu.length)))[k]? =some (FB (BL z1.Cu.length) x) by rw [List.getElem?_map,AY];rfl))) ?_
 refine co rfl (Gd rfl DC rfl) (co rfl (Of rfl U_ rfl rfl) (co rfl (Gd rfl ES rfl) (cm rfl (cm rfl (co rfl (AA rfl underlying37 Ct (vl rfl) (vl rfl) (by omega) (AU AY)) (co rfl (Of rfl VC rfl rfl) (co rfl (Gd rfl DC rfl) (co rfl (AA rfl underlying22 Ce (vl rfl) (vl rfl) (by omega) (Cf htm)) (co rfl (Gd rfl DC rfl) (co rfl (ki rfl rfl rfl rfl) (cm rfl ?_)))))))))))
 refine Ch.cs 95 rfl ?_ ?_<;>intro h7 q7
 exact absurd h7 (by simp)
 refine cy h7 rfl (Of rfl EF rfl rfl) (cy h7 rfl (Gd rfl ES rfl) (cy h7 rfl (Bq rfl underlying22 (vl rfl)) (K4 h7 rfl (cy h7 rfl (Bq rfl underlying37 (vl rfl)) (cy h7 rfl (ki rfl rfl rfl rfl) (co rfl (LZ rfl rfl h7 rfl) (cm rfl ?_)))))))
 refine Ch.cs 103 rfl ?_ ?_<;>intro h8 q8
 exfalso;have:=q8;omega
 refine cy h8 rfl (Of rfl EF rfl rfl) (cy h8 rfl (Gd rfl ES rfl) (K4 h8 rfl (cy h8 rfl (AA rfl underlying22 Ce (vl rfl) (vl rfl) (by omega) (AU hd5)) (cy h8 rfl (Gd rfl DC rfl) (cy h8 rfl (ki rfl rfl rfl rfl) (co rfl (LZ rfl rfl h8 rfl) (Ch.nil (Fin.go (Nq 1 6 7 8 9 11 13 77 78 110 rfl ?_)))))))))
 refine Tr.cn rfl ?_ ?_<;>intro h9 q9
 exfalso;have:=hok.ge _ (List.mem_of_getElem? hd5);have:=q9;omega
 refine Tr.skip (Fin.block (Fin.go (Tr.Ao (SA rfl rfl rfl rfl (by omega) (cm rfl (Ch.nil (Fin.AK (k+1) ⟨Aa,by omega⟩ ⟨⟨_,rfl,AE k⟩,ke rfl,ke rfl,ke rfl,ke rfl,ke rfl,ke rfl,ke rfl,ke rfl,trivial⟩)))))))
 have A_:k=(z2).length:=by have:=AM h6;omega
 subst A_
 refine Tr.exit (Fin.Ac (Fin.Ac (Fin.Az (Fin.go (Tr.seq (Tr.seq (Tr.Ao (cm rfl (co rfl (Bq rfl underlying37 (vl rfl)) (co rfl (ki rfl rfl rfl rfl) (Ch.nil (Fin.go ?_))))))))))))
 refine Tr.cn rfl ?_ ?_<;>intro h10 O9
 refine Tr.seq (Tr.Ao (co rfl (AW rfl (KF) trivial) (cm rfl (Ch.nil (Fin.go (FD 4 rfl (Tr.ret (Fin.AH (Fin.drop 0 (Fin.D8 rfl rfl ?_ (fun _ _ _ _=>rfl)))))))))))
 · exact Lr
 have aZ:z2.length≠0:=by have:=O9;omega
 obtain ⟨w,hw,hwl⟩:=Xh (n:=z2.length) hf.1 (by omega)
 have hwt:(f.tmod ((z2.length:Nat):Int)).toNat=w:=by rw [hw,Int.toNat_natCast]
 have hdw:=Dy (l:=D) (i:=w) (by omega)
 obtain ⟨g,hg,Xy⟩:∃g,HN z1 (BL z1.Cu.length) z2 R (D.set w 300)=g∧(g=44∨g=47):=⟨_,rfl,Xf hb mI hv (by omega)⟩
 refine Tr.skip (Fin.go (Tr.seq (Tr.pad ?_)))
 refine Tr.pad (Tr.pad (Tr.pad (Tr.Hh mixed [none,some (0,0,true,117),none,some (0,1,true,119),some (0,2,true,16),some (0,3,true,17),some (16,2,true,.two 16 117),some (17,3,true,.two 17 119)] (by kernel_rfl) (xo rfl (fun _=>AF rfl ET Di (vl rfl) rfl rfl) ?_))))
 refine Cx.ef 0 rfl rfl (by decide) (FW rfl rfl (by decide) rfl (BJ.mH (Gb (l:=z2) (r:=R) (d:=D) OU (by omega) (by omega) (by omega))) ⟨ke rfl,trivial⟩) ?_
 refine xo rfl (fun _=>AF rfl ET Di (vl rfl) rfl rfl) ?_
 refine Cx.ef 1 rfl rfl (by decide) (FW rfl rfl (by decide) rfl (BJ.mH (Gb (l:=z2) (r:=R) (d:=D) OU (by omega) (by omega) (by omega))) ⟨ke rfl,trivial⟩) ?_
 refine Cx.ef 2 rfl rfl (by decide) (Ex rfl rfl (by decide) rfl z42 Gz) (Cx.ef 3 rfl rfl (by decide) (Ex rfl rfl (by decide) rfl z42 Gz) (Cx.Ew 2 rfl rfl (Hf rfl rfl rfl (by decide) rfl rfl Nf Di rfl rfl) (Cx.Ew 3 rfl rfl (Hf rfl rfl rfl (by decide) rfl rfl Nf Di rfl rfl) ?_)))
 refine Cx.nil ⟨rfl,?_⟩
 refine BE.S4 117 rfl (fun v117=> ?_)
 refine BE.S4 119 rfl (fun tA=> ?_)
 refine BE.S4 16 rfl (fun v16=> ?_)
 refine BE.S4 17 rfl (fun v17=> ?_)
 refine BE.UN 0 117 rfl rfl (BE.UN 1 119 rfl rfl (BE.Rd 2 16 117 rfl rfl rfl (BE.Rd 3 17 119 rfl rfl rfl (BE.done (An.cons (An.cons (An.cons (An.cons (An.cons (An.cons (An.cons (An.map _)))))))) (Fin.shape 16 (fun b=> .pointer (some ⟨b,0,none⟩)) rfl (fun c1 e1=> ?_))))))
 refine Fin.shape 17 (fun b=> .pointer (some ⟨b,0,none⟩)) rfl (fun c2 e2=> ?_)
 subst e1 e2
 refine Fin.Xg 117 0 2 rfl rfl rfl (by decide) (fun y1=> ?_)
 refine Fin.Xg 119 1 3 rfl rfl rfl (by decide) (fun y2=> ?_)
 refine Fin.go (Oh 1 6 7 8 11 13 16 17 rfl (Tr.seq (Tr.G2 3 1 2 rfl rfl (by decide) rfl (Lr) (BD fun _=>rfl) (Tr.Hh mixed [none,some (0,2,false,0),none,none,none,none,none,some (0,0,false,0),some (0,0,true,0)] (by kernel_rfl) (xo rfl (fun _=>AO rfl EF (vl rfl)) (GL 2 rfl rfl (Aj rfl ES (vl rfl) rfl) (xm rfl ?_)))))))
 refine xo rfl (fun _=>I_ rfl underlying5 underlying3 (vl rfl) (by unfold Jo;omega)) ?_
 refine xm rfl (xo rfl (fun _=>Bq rfl underlying37 (vl rfl)) (xo rfl (fun _=>ID rfl (vl rfl) (vl rfl) (by omega)) ?_))
 refine GL 0 rfl rfl (GO rfl underlying22 Ce (vl rfl) (vl rfl) (by omega) (by rw [List.length_map];omega)) ?_
 refine Cx.Ew 0 rfl rfl (E9 rfl rfl (vl rfl) (Vo rfl) Ce rfl (BD fun _=>rfl) (by rw [List.getElem?_map,hwt,hdw];rfl) (by decide) (show _=(D.set w 300).map _ by rw [hwt,List.map_set];rfl)) ?_
 refine Cx.nil ⟨rfl,?_⟩
 refine BE.done (An.cons (An.cons (An.cons (An.cons (An.cons (An.cons (An.cons (An.map _)))))))) (Fin.go (Tr.drop 1 (TT 1 6 8 11 13 16 17 rfl (Tr.seq (Tr.As (tp rfl (AO rfl EF (vl rfl)) (TO.rd 2 rfl rfl rfl (by decide) (Aj rfl ES (vl rfl) rfl) ?_)))))))
 refine tp rfl (N3 rfl underlying22 Ce (vl rfl) (vl rfl) (by omega) (by rw [List.length_map];omega)) ?_
 refine tp rfl (AO rfl EF (vl rfl)) (TO.Ew 2 rfl rfl (BP rfl rfl (vl rfl) (Vo rfl) YM rfl (by exact Nb rfl) rfl) (TO.nil (Fin.go (Tr.seq (Tr.G2 1 0 2 rfl rfl (by decide) rfl (Lr) (BD fun _=>rfl) (Tr.As (tp rfl (AF rfl E7 Gp (vl rfl) rfl rfl) (tp rfl (AF rfl Ge Jt (vl rfl) rfl rfl) (TO.rd 1 rfl rfl rfl (by decide) (B1 rfl ET Di (vl rfl) rfl rfl) ?_)))))))))
 refine TO.Hu 4 rfl rfl (by decide) (Ag rfl rfl (by decide) rfl (GD (e:=z1) (c:=BL z1.Cu.length) (l:=z2) (r:=R) (d:=D.set w 300) GH.fits) ⟨ke rfl,ke rfl,ke rfl,trivial⟩) ?_
 refine tm rfl (TO.nil (Fin.go (Tr.drop 0 (TT 1 6 8 11 13 17 18 rfl (Tr.seq (Tr.seq (Tr.re 18 rfl (int_eq hg) (Tr.As (tm rfl (tp rfl (ki rfl rfl rfl rfl) (tm rfl ?_)))))))))))
 refine TO.cases 138 rfl (fun h11=> ?_) (fun h11=> ?_)
 have SS:=C6.Dj h11
 refine TO.HT rfl rfl rfl h11 rfl (by decide) (Aw rfl (vl rfl)) (TO.HT rfl rfl rfl h11 rfl (by decide) (ki rfl rfl rfl rfl) (tp rfl (SB rfl rfl h11 rfl) (tm rfl ?_)))
 refine TO.cases 142 rfl (fun h12=> ?_) (fun h12=> ?_)
 have Tw:=C6.Dj h12
 exfalso;have:=Tw;omega
 have Tw:=C6.Dj h12
 refine TO.HT rfl rfl rfl h12 rfl (by decide) (AF rfl E7 Gp (vl rfl) rfl rfl) (TO.HT rfl rfl rfl h12 rfl (by decide) (AF rfl Ge Jt (vl rfl) rfl rfl) (TO.HT rfl rfl rfl h12 rfl (by decide) (CT 1 rfl (B1 rfl ET Di (vl rfl) rfl rfl)) ?_))
 refine TO.Vc 3 rfl rfl rfl h12 rfl rfl (by decide) (Ag rfl rfl (by decide) rfl (GD (e:=z1) (c:=BL z1.Cu.length) (l:=z2) (r:=R) (d:=D.drop 1) GH.fits) ⟨ke rfl,ke rfl,⟨_,rfl,BB ⟨Lr,Lr,Pr.le_of_eq (show _=slice 1 ((D.drop 1).map fun n=>[int n]) by rw [List.map_drop];rfl),trivial⟩⟩,trivial⟩) ?_
 refine TO.HT rfl rfl rfl h12 rfl (by decide) (ki rfl rfl rfl rfl) (tp rfl (LZ rfl rfl h12 rfl) (TO.nil (Fin.go (Og 1 6 8 11 13 148 rfl ?_))))
 refine Tr.cn rfl ?_ ?_<;>intro MU Uj
 exact absurd MU (by rw [Nc hb mI aZ];decide)
 refine Tr.skip (Fin.go (Tr.seq (Tr.seq (Tr.Ao (cm rfl (co rfl (Bq rfl underlying39 (vl rfl)) (co rfl (ki rfl rfl rfl rfl) (Ch.nil (Fin.go ?_)))))))))
 refine Tr.cn rfl ?_ ?_<;>intro Jz Xv
 have Xm:0<R.length:=by have:=Xv;omega
 obtain ⟨w2,hw3,hw4⟩:=Xh (n:=R.length) hf.1 Xm
 obtain ⟨q,hq⟩:=at_ (l:=R) (k:=w2) hw4
 have bP:=(CV hv).2.1 q (List.mem_of_getElem? hq)
 unfold C3 at bP
 rw [decide_eq_false_iff_not] at bP
 have hz7:=Dy (l:=D) (i:=q.fst.toNat) (by omega)
 have hz8:=Dy (l:=D) (i:=q.thn.toNat) (by omega)
 refine Tr.seq (Tr.As (tp rfl (AF rfl ET Di (vl rfl) rfl rfl) ?_))
 refine TO.Vb rfl rfl (by decide) rfl (Gb (l:=z2) (r:=R) (d:=D) OU (by omega) (by omega) (by omega)) ⟨ke rfl,trivial⟩ (fun v2=> ?_)
 refine Tl rfl rfl rfl rfl z42 Gz (fun b5=> ?_)
 refine TO.Ap 0 rfl rfl rfl (vl rfl) (Va rfl) rfl Di rfl rfl (TO.nil (Fin.go (Tr.seq (Tr.As (tm rfl (tm rfl ?_))))))
 refine tp rfl (I_ rfl underlying5 underlying3 (vl rfl) (by unfold Jo;omega)) ?_
 refine tm rfl (tp rfl (Bq rfl underlying39 (vl rfl)) (tp rfl (ID rfl (vl rfl) (vl rfl) (by omega)) ?_))
 refine tp rfl (AA rfl underlying39 Er (vl rfl) (vl rfl) (by omega) (Cf (show R[(f.tmod ((R.length:Nat):Int)).toNat]? =some q by rw [hw3,Int.toNat_natCast];exact hq))) ?_
 refine tp rfl (AF rfl KW Er (vl rfl) rfl rfl) ?_
 refine Tl rfl rfl rfl rfl z49 Ot (fun b6=> ?_)
 refine TO.Ap 0 rfl rfl rfl (vl rfl) (Va rfl) rfl Er rfl rfl (TO.freeze 0 20 rfl rfl (TO.nil (Fin.go (Fw 6 8 19 20 rfl (Tr.seq (Tr.Hh mixed [none,some (0,0,false,0),none,none,none,some (0,0,false,0),none,none,some (0,1,false,0),some (0,1,false,0),some (0,1,false,0),some (0,1,true,0)] (by kernel_rfl) (xo rfl (fun _=>AO rfl EF (vl rfl)) (GL 0 rfl rfl (Aj rfl ES (vl rfl) rfl) (xo rfl (fun _=>Of rfl Li rfl rfl) (xo rfl (fun _=>Gd rfl DC rfl) (xo rfl (fun _=>AO rfl EF (vl rfl)) (GL 0 rfl rfl (Aj rfl ES (vl rfl) rfl) (xo rfl (fun _=>Of rfl Lh rfl rfl) ?_)))))))))))))
 refine xo rfl (fun _=>Gd rfl DC rfl) ?_
 refine GL 1 rfl rfl (GO rfl underlying22 Ce (vl rfl) (vl rfl) (by omega) (by rw [List.length_map];omega)) ?_
 refine GL 1 rfl rfl (Ir rfl DC (vl rfl) (BD fun _=>rfl) (by rw [List.getElem?_map,hz7];rfl) rfl) ?_
 refine GL 1 rfl rfl (GO rfl underlying22 Ce (vl rfl) (vl rfl) (by omega) (by rw [List.length_map];omega)) ?_
 refine Cx.Ew 1 rfl rfl (E9 rfl rfl (vl rfl) (Vo rfl) Ce rfl (BD fun _=>rfl) (by rw [List.getElem?_map,hz8];rfl) (by decide) (show _=(D.set q.thn.toNat (D.getD q.fst.toNat 0)).map _ by rw [List.map_set];rfl)) ?_
 refine Cx.nil ⟨rfl,?_⟩
 refine BE.done (An.cons (An.cons (An.cons (An.cons (An.cons (An.cons (An.cons (An.map _)))))))) (Fin.go (FX 6 8 19 rfl (Tr.seq (Tr.G2 0 1 2 rfl rfl (by decide) rfl (Lr) (BD fun _=>rfl) (Tr.As (tp rfl (AF rfl E7 Gp (vl rfl) rfl rfl) (tp rfl (AF rfl Ge Jt (vl rfl) rfl rfl) (TO.rd 0 rfl rfl rfl (by decide) (B1 rfl ET Di (vl rfl) rfl rfl) ?_))))))))
 refine TO.Hu 5 rfl rfl (by decide) (Ag rfl rfl (by decide) rfl (GD (e:=z1) (c:=BL z1.Cu.length) (l:=z2) (r:=R) (d:=D.set q.thn.toNat (D.getD q.fst.toNat 0)) GH.fits) ⟨ke rfl,ke rfl,ke rfl,trivial⟩) ?_
 refine tp rfl (ki rfl rfl rfl rfl) (tm rfl ?_)
 refine TO.cases 178 rfl (fun MV=> ?_) (fun MV=> ?_)
 have ZC:=C6.Dj MV
 refine TO.HT rfl rfl rfl MV rfl (by decide) (AW rfl (KF) trivial) (tp rfl (SB rfl rfl MV rfl) (tm rfl (TO.nil (Fin.go (Tr.drop 1 (Tr.ret (Fin.AH (Fin.drop 0 ?_))))))))
 refine Fin.drop 0 (Fin.drop 0 (Fin.drop 0 (Fin.D8 rfl rfl ?_ (fun _ _ _ _=>rfl))))
 · exact Lr
 have ZC:=C6.Dj MV
 exact absurd MV (by rw [Nd hb mI hv (List.mem_of_getElem? hq)];decide)
 refine Tr.skip (Fin.go (Tr.seq (Tr.Ao (co rfl (AW rfl (KF) trivial) (cm rfl (Ch.nil (Fin.go (Tr.ret (Fin.drop 0 (Fin.drop 0 (Fin.drop 0 (Fin.D8 rfl rfl ?_ (fun _ _ _ _=>rfl)))))))))))))
 · exact Lr
 have SS:=C6.Dj h11
 refine TO.QJ rfl rfl rfl (A0 h11) rfl (by decide) (TO.QJ rfl rfl rfl (A0 h11) rfl (by decide) (tp rfl (LZ rfl rfl h11 rfl) (tm rfl (TO.HT rfl rfl rfl rfl rfl (by decide) (AF rfl E7 Gp (vl rfl) rfl rfl) (TO.HT rfl rfl rfl rfl rfl (by decide) (AF rfl Ge Jt (vl rfl) rfl rfl) (TO.HT rfl rfl rfl rfl rfl (by decide) (CT 1 rfl (B1 rfl ET Di (vl rfl) rfl rfl)) ?_))))))
 refine TO.Vc 3 rfl rfl rfl rfl rfl rfl (by decide) (Ag rfl rfl (by decide) rfl (GD (e:=z1) (c:=BL z1.Cu.length) (l:=z2) (r:=R) (d:=D.drop 1) GH.fits) ⟨ke rfl,ke rfl,⟨_,rfl,BB ⟨Lr,Lr,Pr.le_of_eq (show _=slice 1 ((D.drop 1).map fun n=>[int n]) by rw [List.map_drop];rfl),trivial⟩⟩,trivial⟩) ?_
 refine TO.HT rfl rfl rfl rfl rfl (by decide) (ki rfl rfl rfl rfl) (tp rfl (LZ rfl rfl rfl rfl) (TO.nil (Fin.go (Og 1 6 8 11 13 148 rfl ?_))))
 refine Tr.cn rfl ?_ ?_<;>intro h16 au
 exact absurd h16 (by rw [Nc hb mI aZ];decide)
 refine Tr.skip (Fin.go (Tr.seq (Tr.seq (Tr.Ao (cm rfl (co rfl (Bq rfl underlying39 (vl rfl)) (co rfl (ki rfl rfl rfl rfl) (Ch.nil (Fin.go ?_)))))))))
 refine Tr.cn rfl ?_ ?_<;>intro NA Xr
 have Xm:0<R.length:=by have:=Xr;omega
 obtain ⟨w2,hw3,hw4⟩:=Xh (n:=R.length) hf.1 Xm
 obtain ⟨q,hq⟩:=at_ (l:=R) (k:=w2) hw4
 have bP:=(CV hv).2.1 q (List.mem_of_getElem? hq)
 unfold C3 at bP
 rw [decide_eq_false_iff_not] at bP
 have hz7:=Dy (l:=D) (i:=q.fst.toNat) (by omega)
 have hz8:=Dy (l:=D) (i:=q.thn.toNat) (by omega)
 refine Tr.seq (Tr.As (tp rfl (AF rfl ET Di (vl rfl) rfl rfl) ?_))
 refine TO.Vb rfl rfl (by decide) rfl (Gb (l:=z2) (r:=R) (d:=D) OU (by omega) (by omega) (by omega)) ⟨ke rfl,trivial⟩ (fun v3=> ?_)
 refine Tl rfl rfl rfl rfl z42 Gz (fun b7=> ?_)
 refine TO.Ap 0 rfl rfl rfl (vl rfl) (Va rfl) rfl Di rfl rfl (TO.nil (Fin.go (Tr.seq (Tr.As (tm rfl (tm rfl ?_))))))
 refine tp rfl (I_ rfl underlying5 underlying3 (vl rfl) (by unfold Jo;omega)) ?_
 refine tm rfl (tp rfl (Bq rfl underlying39 (vl rfl)) (tp rfl (ID rfl (vl rfl) (vl rfl) (by omega)) ?_))
 refine tp rfl (AA rfl underlying39 Er (vl rfl) (vl rfl) (by omega) (Cf (show R[(f.tmod ((R.length:Nat):Int)).toNat]? =some q by rw [hw3,Int.toNat_natCast];exact hq))) ?_
 refine tp rfl (AF rfl KW Er (vl rfl) rfl rfl) ?_
 refine Tl rfl rfl rfl rfl z49 Ot (fun b8=> ?_)
 refine TO.Ap 0 rfl rfl rfl (vl rfl) (Va rfl) rfl Er rfl rfl (TO.freeze 0 20 rfl rfl (TO.nil (Fin.go (Fw 6 8 19 20 rfl (Tr.seq (Tr.Hh mixed [none,some (0,0,false,0),none,none,none,some (0,0,false,0),none,none,some (0,1,false,0),some (0,1,false,0),some (0,1,false,0),some (0,1,true,0)] (by kernel_rfl) (xo rfl (fun _=>AO rfl EF (vl rfl)) (GL 0 rfl rfl (Aj rfl ES (vl rfl) rfl) (xo rfl (fun _=>Of rfl Li rfl rfl) (xo rfl (fun _=>Gd rfl DC rfl) (xo rfl (fun _=>AO rfl EF (vl rfl)) (GL 0 rfl rfl (Aj rfl ES (vl rfl) rfl) (xo rfl (fun _=>Of rfl Lh rfl rfl) ?_)))))))))))))
 refine xo rfl (fun _=>Gd rfl DC rfl) ?_
 refine GL 1 rfl rfl (GO rfl underlying22 Ce (vl rfl) (vl rfl) (by omega) (by rw [List.length_map];omega)) ?_
 refine GL 1 rfl rfl (Ir rfl DC (vl rfl) (BD fun _=>rfl) (by rw [List.getElem?_map,hz7];rfl) rfl) ?_
 refine GL 1 rfl rfl (GO rfl underlying22 Ce (vl rfl) (vl rfl) (by omega) (by rw [List.length_map];omega)) ?_
 refine Cx.Ew 1 rfl rfl (E9 rfl rfl (vl rfl) (Vo rfl) Ce rfl (BD fun _=>rfl) (by rw [List.getElem?_map,hz8];rfl) (by decide) (show _=(D.set q.thn.toNat (D.getD q.fst.toNat 0)).map _ by rw [List.map_set];rfl)) ?_
 refine Cx.nil ⟨rfl,?_⟩
 refine BE.done (An.cons (An.cons (An.cons (An.cons (An.cons (An.cons (An.cons (An.map _)))))))) (Fin.go (FX 6 8 19 rfl (Tr.seq (Tr.G2 0 1 2 rfl rfl (by decide) rfl (Lr) (BD fun _=>rfl) (Tr.As (tp rfl (AF rfl E7 Gp (vl rfl) rfl rfl) (tp rfl (AF rfl Ge Jt (vl rfl) rfl rfl) (TO.rd 0 rfl rfl rfl (by decide) (B1 rfl ET Di (vl rfl) rfl rfl) ?_))))))))
 refine TO.Hu 5 rfl rfl (by decide) (Ag rfl rfl (by decide) rfl (GD (e:=z1) (c:=BL z1.Cu.length) (l:=z2) (r:=R) (d:=D.set q.thn.toNat (D.getD q.fst.toNat 0)) GH.fits) ⟨ke rfl,ke rfl,ke rfl,trivial⟩) ?_
 refine tp rfl (ki rfl rfl rfl rfl) (tm rfl ?_)
 refine TO.cases 178 rfl (fun Kc=> ?_) (fun Kc=> ?_)
 have aj:=C6.Dj Kc
 refine TO.HT rfl rfl rfl Kc rfl (by decide) (AW rfl (KF) trivial) (tp rfl (SB rfl rfl Kc rfl) (tm rfl (TO.nil (Fin.go (Tr.drop 1 (Tr.ret (Fin.AH (Fin.drop 0 ?_))))))))
 refine Fin.drop 0 (Fin.drop 0 (Fin.drop 0 (Fin.D8 rfl rfl ?_ (fun _ _ _ _=>rfl))))
 · exact Lr
 have aj:=C6.Dj Kc
 exact absurd Kc (by rw [Nd hb mI hv (List.mem_of_getElem? hq)];decide)
 refine Tr.skip (Fin.go (Tr.seq (Tr.Ao (co rfl (AW rfl (KF) trivial) (cm rfl (Ch.nil (Fin.go (Tr.ret (Fin.drop 0 (Fin.drop 0 (Fin.drop 0 (Fin.D8 rfl rfl ?_ (fun _ _ _ _=>rfl)))))))))))))
 · exact Lr
end Go.Proofs.YtppdobdifkefcaaGreatDoor
namespace Go.Proofs.YtppdobdifkefcaaGreatDoor
open Go Go.RowKit Cp Go.ChangeShapes Go.WideShapes Go.ChangeAt Go.Proofs.Tryz
theorem rY : Tryz.prog.globalNamed "math/bits.deBruijn32tab" = some 0 := by kernel_rfl
theorem rZ:(Tryz.prog.globals[0]?).map (·.type)=some 151:=by kernel_rfl
theorem Xj (os : Os) (args : Array Value) : laidMetH Tryz.prog [("math/bits.deBruijn32tab", Rows.laid_math_bits_deBruijn32tab)] ((World.doorLaid Tryz.prog 14 os).forCall (fun _ _ => 0) ⟨#[], args, []⟩).memory :=
 laidMetH_of_parts3 (fuel:=33) (laidMet_of_run' 33 (by kernel_rfl) (by kernel_rfl)) (by kernel_rfl) (by kernel_rfl)
theorem fT {W : World} (h : laidMetH Tryz.prog [("math/bits.deBruijn32tab", Rows.laid_math_bits_deBruijn32tab)] W) : ER.h Xn W := by
 rw [MakeChecks.laidMetH_plain _ _ _ (by kernel_rfl)] at h
 obtain ⟨ps,⟨g0,t0,cs0,f0,p0,q0,WR,ht0,TP,hd0,_⟩,_⟩:=h
 obtain rfl:=Option.some.inj (rY.symm.trans WR)
 obtain rfl:=Option.some.inj (rZ.symm.trans ht0)
 obtain ⟨xs,m,rfl,hx,hlen,hn,hel⟩:=DataW.trod_array Tryz.underlying151 hd0
 have c1:Tryz.prog.cellsOf 5=1:=by kernel_rfl
 have hx1:Rows.laid_math_bits_deBruijn32tab=DataW.agg (xs.map (·.1)):=(Prod.mk.inj hx).1
 have hx2:xs.map (·.1)=Pu.map fun n:Nat=>DataW.lit (.int .u8 (n:Int)):=by
  have h3:(Rows.laid_math_bits_deBruijn32tab:DataW Unit)=DataW.agg (Pu.map fun n:Nat=>DataW.lit (.int .u8 (n:Int))):=rfl
  exact (DataW.agg.inj (hx1.symm.trans h3))
 intro j n hj
 refine ⟨?_,fun h=>h⟩
 have rj:j<32:=by
  rcases Nat.lt_or_ge j 32 with h|h
  · exact h
  · rw [List.getElem?_eq_none h] at hj;cases hj
 have h4:=hel j rj
 rw [c1,Nat.mul_one] at h4
 obtain ⟨y,hy⟩:=at_ (l:=xs) (k:=j) (by omega)
 rw [hy] at h4
 obtain ⟨k,e1,e2,_⟩:=DataW.trod_int Tryz.underlying5 h4
 have h5:(xs.map (·.1))[j]? =some (DataW.lit (.int .u8 (n:Int))):=by rw [hx2,List.getElem?_map,hj];rfl
 rw [List.getElem?_map,hy] at h5
 have hk:k=(n:Int):=by
  have h6:y.1=DataW.lit (.int .u8 (n:Int)):=Option.some.inj h5
  rw [e2] at h6
  simpa using h6
 have h7:=World.var?_cell WR TP j
 have h8:cs0.toList[j]? =some (.int .u8 k):=by
  have h9:=congrArg (fun l:List Value=>l[0]?) e1
  simpa using h9
 rw [hk] at h8
 have h10:cs0[j]? =some (.int .u8 (n:Int)):=by rw [←Array.getElem?_toList];exact h8
 rw [h10] at h7
 exact h7
theorem KG (os:Os) (started:os.Started) (H:Type) (enc:TypeId×Value→H):
  ReturnsInHanded {} Tryz.checked os 4 .any (fun w args => (Rows.planTeamsSpec.pre enc Tryz.prog Tryz.f4 [] false w args ∧ laidMetH Tryz.prog [("math/bits.deBruijn32tab", Rows.laid_math_bits_deBruijn32tab)] w) ∧ sizedMet enc Tryz.prog Tryz.f4 (OpenSpec.ofChange Rows.planTeamsSpec) false w args) (Rows.planTeamsSpec.post enc Tryz.prog Tryz.f4 false true false false) := by
 refine returnsInHanded_of_change_and (C := Tryz.checked) (X := fun w _ => laidMetH Tryz.prog [("math/bits.deBruijn32tab", Rows.laid_math_bits_deBruijn32tab)] w) (fun _ _ _ hh h => h.of_heap hh) qt started (by kernel_rfl) Tryz.func4
  (ChangeSpec.witness_shaped (enc := enc) (C := Tryz.checked) (os := os) (X := fun w _ => laidMetH Tryz.prog [("math/bits.deBruijn32tab", Rows.laid_math_bits_deBruijn32tab)] w) false (World.doorLaid Tryz.prog 14 os) #[.slice none 0 0, .int .u8 0] 8 rfl (World.shaped_of_RefB (by kernel_rfl) (by kernel_rfl)) (by kernel_rfl) (by kernel_rfl) (by kernel_rfl) (Xj os _)) ?_
 intro W base args ds gs before mJ hW tB _ hL _
 have hval:∀(j:Nat) t v,Tryz.f4.params[j]? =some t→args[j]? =some v→Value.okWide Tryz.prog W .any base t v:=mJ
 have hW':=hW
 obtain ⟨p,q,hA0,hV,hpq,hfz,hnd⟩:=hW
 have hA:DataW.TrodAll enc Tryz.prog W 0 (fun _=>true) true Tryz.f4.params.toList args.toList ds p:=hA0
 have Xl:=hA
 rw [Tryz.params4] at hA hval
 obtain ⟨v0,v1,d0,d1,p0,p1,rfl,rfl,hp,h0,h1⟩:=trodAll_two Xl
 obtain ⟨rfl,rfl⟩:=trodVars_none hV
 obtain ⟨a0,_,e0⟩:=SC (Qm Tryz.underlying22 Tryz.underlying3 (by kernel_rfl)) h0 (by obtain ⟨_,_,_,rfl⟩:=okWide_slice Tryz.underlying22 (hval 0 22 v0 rfl rfl);rfl)
 obtain ⟨a1,hf,e1⟩:=SC (Ms Tryz.underlying5) h1 (by obtain ⟨_,rfl⟩:=okWide_int Tryz.underlying5 (hval 1 5 v1 rfl rfl);rfl)
 refine (BJ.Z6 (QG (u8_in hf)) rfl W [v0,v1] (fT hL) ⟨e0,e1,trivial⟩).mono fun e W' ⟨v,he,hv,hb⟩=> ?_
 subst he
 obtain rfl:v= .bool true:=hv
 exact ⟨_,rfl,U2 Vs (by kernel_rfl) rfl Tryz.underlying4 rfl Xl (by rw [hpq];simp) hW' rfl hb⟩
theorem KH:(Rows.planTeamsRow.inPlace==Tryz.pinned.checked.prog.inPlace 4)=true:=by kernel_rfl
theorem KI:(Rows.planTeamsRow.unfollowed==Tryz.pinned.checked.prog.unfollowed 4)=true:=by kernel_rfl
theorem KJ:(Rows.planTeamsRow.recurses==Tryz.pinned.checked.prog.recurses 4)=true:=by kernel_rfl
theorem KK:(Rows.planTeamsRow.named==Tryz.pinned.checked.prog.varsNamed 4)=true:=by kernel_rfl
theorem K2:joinedFacts Tryz.pinned.checked.prog 4 Tryz.f4 Rows.planTeamsSpec Rows.planTeamsRow=true:=by
 unfold joinedFacts
 rw [KH,KI,KJ,KK]
 kernel_rfl
theorem planTeams_holds:Rows.PlanTeamsSaid:=
 OpenClaim.holds_of_wide 4 Tryz.f4 rfl rfl rfl rfl rfl rfl rfl ⟨rfl, rfl, rfl, rfl, rfl⟩ rfl rfl rfl rfl rfl (by kernel_rfl) Tryz.func4 K2
  (of_decide_eq_true (by kernel_rfl)) (by unfold Func.isWrapper;first|(rw [if_pos (by decide+kernel)];kernel_rfl)|(rw [if_neg (by decide+kernel)];exact ⟨rfl,rfl⟩))
  (fun os started H enc _=>KG os started H enc)
theorem planTeams_card_holds:Rows.PlanTeamsCardSaid:=
 Claim7.holds_tied_plain_at .later [] [.data] true Rows.planTeamsCard.stood.harness false planTeams_holds (fun _ h => by cases h) (by kernel_rfl) (fun _ h => by cases h) planTeams_row_tie rfl ⟨rfl, rfl⟩ (by kernel_rfl) rfl
  (fun f fn hf hfn=>by
   obtain rfl : f = 4 := Option.some.inj ((show Tryz.prog.funcNamed "cipherplan/cipherplanlaw31.PlanTeams" = some 4 by kernel_rfl).symm.trans hf) |>.symm
   obtain rfl:fn=Tryz.f4:=(Option.some.inj (Tryz.func4.symm.trans hfn)).symm
   exact ⟨by kernel_rfl, fun j t ht => by
    rw [Tryz.params4] at ht
    have hm:t∈[22,5]:=by simpa using Array.mem_of_getElem? ht
    have hall:([22,5].all fun u=> !Tryz.prog.wantsStandIn u)=true:=by kernel_rfl
    exact (show Tryz.prog.wantsStandIn t=false by simpa using List.all_eq_true.1 hall t hm)⟩)
  (by kernel_rfl)
end Go.Proofs.YtppdobdifkefcaaGreatDoor
