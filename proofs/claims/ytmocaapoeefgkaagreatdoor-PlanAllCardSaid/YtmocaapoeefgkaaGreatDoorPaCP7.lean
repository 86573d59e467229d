/-
  Part 7 of the texts that prove this claim, merged.
-/
import Derived.Test.YtmocaapoeefgkaaGreatDoorPaCP6
set_option linter.all false
set_option maxRecDepth 40000
set_option maxHeartbeats 16000000
namespace Go.Proofs.YtmocaapoeefgkaaGreatDoor
open Go Go.RowKit Cp Go.Proofs.Tryz
-- bits as AE3 are AAp (behind AE4.lean)
def bvF (p:Nat→Bool):Nat→BitVec 32
 |0=>0#32
 |k+1=>if p k then US (bvF p k) k else bvF p k
theorem YA (p:Nat→Bool):∀(k:Nat) {j:Nat},k≤32→(bvF p k).getLsbD j=(decide (j<k)&&p j)
 |0,j,_=>by simp [bvF]
 |k+1,j,hk=>by
  have ih:= @YA p k j AA
  unfold bvF
  split
  next h=>
   rw [T4 AA,ih]
   by_cases hj:k=j
   · subst hj;simp [h]
   ·
    by_cases h2:j<k
    ·
     have:j<k+1:=by omega
     simp [h2,this,hj]
    ·
     have:¬j<k+1:=by omega
     simp [h2,this,hj]
  next h=>
   rw [ih]
   by_cases hj:k=j
   · subst hj;simp at h;simp [h]
   ·
    by_cases h2:j<k
    ·
     have:j<k+1:=by omega
     simp [h2,this]
    ·
     have:¬j<k+1:=by omega
     simp [h2,this]
def Dz (n:Nat) (l:List BH):List (BitVec 32):=(List.range n).map fun b=>bvF (fun a=>Cu l n a b) n
theorem Cg (n:Nat) (l:List BH):(Dz n l).length=n:=by unfold Dz;simp
theorem GZ {n:Nat} {l:List BH} (hn:n≤32):Ed n (Dz n l) (Cu l n):=by
 refine ⟨Cg n l,fun b x hx a=> ?_⟩
 unfold Dz at hx
 rw [List.getElem?_map] at hx
 rcases Nat.lt_or_ge b n with hb|hb
 ·
  rw [List.getElem?_range hb] at hx
  simp only [Option.map_some,Option.some.injEq] at hx
  subst hx
  exact YA _ n hn
 · rw [List.getElem?_eq_none Ge] at hx;cases hx
theorem YB {n:Nat} {B C:List (BitVec 32)} {M:Nat→Nat→Bool} (h:Ed n B M) (h':Ed n C M):B=C:=by
 apply List.ext_getElem?
 intro b
 rcases Nat.lt_or_ge b n with hb|hb
 ·
  obtain ⟨x,hx⟩:=at_ (l:=B) (k:=b) (by rw [h.1];exact hb)
  obtain ⟨y,hy⟩:=at_ (l:=C) (k:=b) (by rw [h'.1];exact hb)
  rw [hx,hy]
  congr 1
  exact BitVec.eq_of_getLsbD_eq fun i _=>by rw [h.2 b x hx,h'.2 b y hy]
 · rw [List.getElem?_eq_none (by rw [h.1];exact hb),List.getElem?_eq_none (by rw [h'.1];exact hb)]
theorem dF {l:List BH} {k:Nat} {r:BH} (h:l[k]? =some r) (a b:Nat):F2 (l.take (k+1)) a b=(F2 (l.take k) a b||(decide (r.fst=(a:Int))&&decide (r.thn=(b:Int)))):=by
 unfold F2;rw [List.take_add_one,h,List.any_append];simp
theorem YC {n:Nat} {B:List (BitVec 32)} {l:List BH} {k:Nat} {r:BH} {x:BitVec 32} (h:Ed n B (F2 (l.take k))) (hr:l[k]? =some r) (hf:0≤r.fst∧r.fst<n) (ht:0≤r.thn) (hx:B[r.thn.toNat]? =some x) (hn:n≤32):Ed n (B.set r.thn.toNat (US x r.fst.toNat)) (F2 (l.take (k+1))):=by
 refine MT (kU h hx (f:=r.fst.toNat) AA hn) fun a b _ _=> ?_
 rw [dF hr]
 congr 1
 rw [decide_eq_decide.2 (show r.fst.toNat=a↔r.fst=(a:Int) by omega),decide_eq_decide.2 (show r.thn.toNat=b↔r.thn=(b:Int) by omega)]
def I6 (i:Nat) (A:List (BitVec 32)) (k:Nat):List (BitVec 32):=A.set k (US (A.getD k 0#32) i)
def KZ (B:List (BitVec 32)):Nat→List (BitVec 32)
 |0=>List.replicate B.length 0#32
 |i+1=>(Lb (B.getD i 0#32)).foldl (I6 i) (KZ B i)
theorem NK (i:Nat):∀(ks:List Nat) (A:List (BitVec 32)),(ks.foldl (I6 i) A).length=A.length
 |[],_=>rfl
 |k::ks,A=>by rw [List.foldl_cons,NK i ks];unfold I6;rw [List.length_set]
theorem H9 (B:List (BitVec 32)):∀i,(KZ B i).length=B.length
 |0=>List.length_replicate
 |i+1=>by unfold KZ;rw [NK,H9 B i]
theorem dG {B:List (BitVec 32)} {i:Nat} {x:BitVec 32} (h:B[i]? =some x):KZ B (i+1)=(Lb x).foldl (I6 i) (KZ B i):=by
 rw [KZ,List.getD_eq_getElem?_getD,h];rfl
def H_ (B:List (BitVec 32)) (s:BitVec 32):Nat→BitVec 32
 |0=>0#32
 |k+1=>if (!s.getLsbD k&&(B.getD k 0#32&&&~~~s==0#32))=true then US (H_ B s k) k else H_ B s k
theorem kr {B:List (BitVec 32)} {s x:BitVec 32} {k:Nat} (hx:B[k]? =some x) (h1:s.getLsbD k=false) (h2:(x&&&~~~s==0#32)=true):H_ B s (k+1)=US (H_ B s k) k:=by
 rw [H_,List.getD_eq_getElem?_getD,hx,if_pos];rw [h1];simpa using h2
theorem qi {B:List (BitVec 32)} {s x:BitVec 32} {k:Nat} (hx:B[k]? =some x) (h:s.getLsbD k=true∨(x&&&~~~s==0#32)=false):H_ B s (k+1)=H_ B s k:=by
 rw [H_,List.getD_eq_getElem?_getD,hx,if_neg]
 intro hc
 rw [Bool.and_eq_true] at hc
 rcases h with h|h
 · rw [h] at hc;cases hc.1
 · have:=hc.2;rw [show (some x).getD 0#32=x from rfl,h] at this;cases this
theorem ku (B:List (BitVec 32)) (s:BitVec 32):∀k,H_ B s k=bvF (fun j=> !s.getLsbD j&&(B.getD j 0#32&&&~~~s==0#32)) k
 |0=>rfl
 |k+1=>by unfold H_ bvF;rw [ku B s k]
theorem aK {n:Int} {l:List BH} {s:BitVec 32} {d:List Int} (hv:Am n l=0) (hs:H8 n.toNat s d) (hc:CH l d=true) (j:Nat):(H_ (Dz n.toNat l) s n.toNat).getLsbD j=(decide (j<n.toNat)&&KW l d true j):=by
 obtain ⟨h0,_⟩:=CV hv
 rw [ku,YA _ _ AA]
 by_cases hj:j<n.toNat
 ·
  obtain ⟨x,hx⟩:=at_ (l:=Dz n.toNat l) (k:=j) (by rw [Cg];exact hj)
  rw [qd hv (GZ AA) hs hc hx hj,List.getD_eq_getElem?_getD,hx];rfl
 · simp [hj]
theorem k5 {n:Int} {l:List BH} {k:Nat} {s:BitVec 32} (hv:Am n l=0) (hk:k<n.toNat) (hs:H8 n.toNat s (Bj n.toNat l k).2):
  H_ (Dz n.toNat l) s n.toNat≠0#32∧GF (H_ (Dz n.toNat l) s n.toNat)<n.toNat∧(Bj n.toNat l (k+1)).1=(Bj n.toNat l k).1++[((GF (H_ (Dz n.toNat l) s n.toNat):Nat):Int)]∧H8 n.toNat (US s (GF (H_ (Dz n.toNat l) s n.toNat))) (Bj n.toNat l (k+1)).2:=by
 obtain ⟨h0,_⟩:=CV hv
 have hr:=(Eb hv k AA).1
 obtain ⟨h1,h2,h3⟩:=X_ hv hk (aK hv hs hr.cl)
 refine ⟨h1,h2,by rw [h3],?_⟩
 rw [h3]
 exact kY hs AA
abbrev bits (B:List (BitVec 32)):Pr:=slice 1 (B.map fun x=>[u32 x])
def ve (a b:BH):Int:=orF [JB a.fst b.fst,JB a.thn b.thn]
theorem T8 {a b:BH}:decide (ve a b≥0)= !Ea a b:=by
 unfold ve Ea
 rw [Bool.eq_iff_iff,decide_eq_true_eq]
 simp only [orF,JB]
 repeat' split
 all_goals (simp;try omega)
theorem KK {B:List (BitVec 32)} {i:Int} {x:BitVec 32} (h:B[i.toNat]? =some x):(B.map fun x=>u32 x)[0+i.toNat*1]? =some (u32 x):=by rw [Nat.zero_add,Nat.mul_one,List.getElem?_map,h];rfl
theorem Qj {B:List (BitVec 32)} {i:Int} {x y:BitVec 32} (h:B[i.toNat]? =some x):(B.map fun x=>u32 x).take (0+i.toNat*1)++[u32 y]++(B.map fun x=>u32 x).drop (0+i.toNat*1+1)=(B.set i.toNat y).map fun x=>u32 x:=by
 have hl:i.toNat<B.length:=by rcases Nat.lt_or_ge i.toNat B.length with h2|h2;exact h2;rw [List.getElem?_eq_none h2] at h;cases h
 rw [Nat.zero_add,Nat.mul_one,List.set_eq_take_append_cons_drop,if_pos hl]
 simp [List.map_take,List.map_drop]
theorem SF (B:List (BitVec 32)):(B.map fun x=>u32 x)=(B.map fun x=>[u32 x]).flatten++([]:List Value).map is:=by
 induction B with
 |nil=>rfl
 |cons x B ih=>simp at ih ⊢;exact ih
theorem SG (n:Nat):(List.replicate n (Value.int .u32 0)).map is=(List.replicate n 0#32).map fun x=>u32 x:=by rw [List.map_replicate,List.map_replicate];rfl
theorem Qk {B:List (BitVec 32)} {i:Nat} {x:BitVec 32} (h:B[i]? =some x):(B.map fun x=>[u32 x])[((i:Nat):Int).toNat]? =some [u32 x]:=by rw [Int.toNat_natCast,List.getElem?_map,h];rfl
theorem dH {i k:Nat} {pre:List Nat} {A:List (BitVec 32)} {y:BitVec 32} (h:(pre.foldl (I6 i) A)[k]? =some y):(pre.foldl (I6 i) A).set k (US y i)=(pre++[k]).foldl (I6 i) A:=by
 rw [List.foldl_append]
 show _=(pre.foldl (I6 i) A).set k (US ((pre.foldl (I6 i) A).getD k 0#32) i)
 rw [List.getD_eq_getElem?_getD,h];rfl
theorem vg {n:Nat} {r:BH} (h:Eg n r=false):(0≤r.fst∧r.fst<n)∧(0≤r.thn∧r.thn<n)∧r.fst≠r.thn:=by
 unfold Eg at h;rw [decide_eq_false_iff_not] at h;omega
theorem vh {ps qs:List Pr} (h:PW ps qs):Pr.le (ref ps) (ref qs):=fun M w v ⟨a,h1,h2⟩=>⟨a,h1,fun i q hq=>by
 obtain ⟨p,hp,hle⟩:=h.at_ i q hq
 obtain ⟨u,g1,g2⟩:=h2 i p hp
 exact ⟨u,g1,g2.1,g2.2.1,hle _ _ _ g2.2.2⟩⟩
theorem k6 {xs pre:List Nat} {x:Nat} (h:(pre++[x])<+:xs):x∈xs:=h.subset AO
theorem YD {a b:BH}  :BD prog 182 [agg (Ml a),agg (Ml b)] (int (ve a b)):=by
 refine fo func182 rfl ⟨rfl,rfl⟩ fun M0 w0=> ?_
 refine a2 ?_
 refine co rfl (C4 (XD) rfl rfl rfl) ?_
 refine ac ?_
 refine co rfl (C4 (XD) rfl rfl rfl) (co rfl (AQ (xs:=[.tmp 9,.tmp 14]) (rows:=[[_],[_]]) rfl rfl underlying22 Bg z3 rfl AB ⟨⟨Ab,DK⟩,⟨⟨Ab,DK⟩,trivial⟩⟩ AB) ?_)
 refine co rfl (AZ rfl (zu (l:=[JB a.fst b.fst,JB a.thn b.thn])) ⟨Gx,trivial⟩) ?_
 refine ac ?_
 refine wk [4] rfl ?_
 refine ac ?_
 · exact Lr
theorem dI {n:Nat} {l:List BH} (hn:n≤24) (hbd:∀r∈l,Eg n r=false):BR prog 183 [int ((n:Nat):Int),reqs l] (ref [int ((n:Nat):Int),bits (Dz n l),bits (KZ (Dz n l) n)]) (DI) (fun _=>DI):=by
 refine BR.ofM func183 rfl rfl Al fun M0 w0 S rs M1 w1=> ?_
 refine Tr.CM 1 rfl fun Fz=>(Tr.seq (Tr.Ah (cm rfl (Ch.nil (Fin.go (Tr.seq (Tr.pad ?_)))))))
 refine Tr.pad (Tr.pad (Tr.pad (Tr.K3 mixed [none,none,some (0,0,true,14),none,some (0,1,true,16),some (0,2,true,.three 17 14 16),some (.three 17 14 16,2,true,.three 18 14 16),some (0,3,true,5),some (5,3,true,.two 5 18)] BS (xm rfl (xm rfl ?_)))))
 refine Cx.ef 0 rfl rfl AB (jr rfl rfl AB rfl underlying232 FW rY yM rfl (vl rfl) (vl rfl) HI AA) ?_
 refine xm rfl ?_
 refine Cx.ef 1 rfl rfl AB (jr rfl rfl AB rfl underlying232 FW rY yM rfl (vl rfl) (vl rfl) HI AA) ?_
 refine Cx.ef 2 rfl rfl AB (vH (d:=17) (s:=14) (t:=16) (q:=any) rfl AB AB (fun _ _ _ _ _ _=>trivial) rfl rfl rfl AB AB (fun v1 v2=>Xm rfl rfl AB (fun _=>Ar (rows:=[(0,[_]),(1,[_]),(2,[_])]) rfl yS yT ⟨⟨rfl,VL.le (vl rfl) (AP _)⟩,⟨⟨rfl,VL.le (vl rfl) (AP _)⟩,⟨⟨rfl,VL.le (vl rfl) (AP _)⟩,trivial⟩⟩⟩ rfl))) (Cx.ef 2 rfl rfl AB (qL rfl rfl AB rfl AB AB) (Cx.ef 3 rfl rfl AB (Gb rfl rfl AB rfl ACe yL) (Cx.Ee 3 rfl rfl (cZ rfl rfl rfl AB rfl rfl yK rfl) ?_)))
 refine Cx.nil ⟨rfl,?_⟩
 refine BW.mZ 14 rfl (fun v14=> ?_)
 refine BW.mZ 16 rfl (fun v16=> ?_)
 refine BW.mZ 18 rfl (fun v18=> ?_)
 refine BW.mZ 5 rfl (fun v5=> ?_)
 refine BW.qM 0 14 rfl rfl (BW.qM 1 16 rfl rfl (BW.ADr 2 18 14 16 rfl rfl rfl rfl (BW.jt 3 5 18 rfl rfl rfl (BW.done (BT.cons (BT.cons (BT.cons (BT.cons (BT.cons (BT.cons (BT.map _))))))) (Fin.shape 14 (fun b=>J8 n b) rfl (fun b1 e1=> ?_))))))
 refine Fin.shape 16 (fun b=>J8 n b) rfl (fun b2 e2=> ?_)
 refine Fin.shape 18 (fun b=> .pointer (some ⟨b,0,none⟩)) rfl (fun b3 e3=> ?_)
 refine Fin.shape 5 (fun b=> .pointer (some ⟨b,0,none⟩)) rfl (fun b4 e4=> ?_)
 subst e1 e2 e3 e4
 refine Fin.HH 0 (AE true b1 Q3 ((List.replicate n 0#32).map fun x=>u32 x)) rfl (by rw [←SG];rfl) ?_
 refine Fin.HH 1 (AE true b2 Q3 ((List.replicate n 0#32).map fun x=>u32 x)) rfl (by rw [←SG];rfl) ?_
 refine Fin.HH 2 (AE true b3 234 [int ((n:Nat):Int),Ae (J8 n b1) _,Ae (J8 n b2) _]) rfl rfl (Fin.HQ 2 [int ((n:Nat):Int),is (J8 n b1),is (J8 n b2)] rfl ⟨Lr,EU _ _,EU _ _,trivial⟩ (Fin.HH 3 (AE true b4 176 [Ae (.pointer (some ⟨b3,0,none⟩)) _]) rfl rfl (Fin.HQ 3 [ptr b3 0] rfl ⟨EU _ _,trivial⟩ (Fin.go (Tr.seq (Tr.seq (Tr.Ah (cm rfl (co rfl (Bn rfl underlying33 (vl rfl)) (cm rfl (Ch.nil (Fin.go (Tr.block (Tr.DU [(0,_),(5,_),(19,_),(20,_)] ⟨ke rfl,ke rfl,ke rfl,ke rfl,trivial⟩ (fun (B:List (BitVec 32)) (m:Nat)=>[(21,int ((m:Nat):Int))]) (fun (B:List (BitVec 32)) (m:Nat)=>Hp M0 w0 S (AE true b1 Q3 (B.map fun x=>u32 x)::AE true b2 Q3 ((List.replicate n 0#32).map fun x=>u32 x)::AE true b3 234 [int ((n:Nat):Int),is (J8 n b1),is (J8 n b2)]::AE true b4 176 [ptr b3 0]::DI::Ak M1 w1::rs)) (fun (B:List (BitVec 32)) (m:Nat)=>m≤l.length∧Ed n B (F2 (l.take m))) (fun (B:List (BitVec 32)) (m:Nat)=>l.length-m) (List.replicate n 0#32) (0)  (⟨Nat.zero_le _,MT (X8 n) fun a b _ _=>rfl⟩) ⟨ke rfl,trivial⟩ (fun _ _ h=>h) ?_))))))))))))))
 rintro B m  ⟨hm0,hB⟩
 refine Tr.seq (Tr.Ah (co rfl (ki rfl rfl rfl rfl) (Ch.nil (Fin.go (Tr.seq ?_)))))
 refine Tr.cn rfl ?_ ?_<;>intro h1 q1
 have hm:m<l.length:=AH h1
 obtain ⟨r,hr⟩:=at_ hm
 obtain ⟨hf,ht,_⟩:=vg (hbd r (List.mem_of_getElem? hr))
 have hBl:=hB.1
 obtain ⟨x,hx⟩:=at_ (l:=B) (k:=r.thn.toNat) AA
 refine Tr.skip (Fin.go (Tr.seq (Tr.block (Tr.seq (Tr.A0 (tp rfl (AD rfl underlying33 B5 (vl rfl) (vl rfl) AA (Ac hr)) (tp rfl (AK rfl EI B5 (vl rfl) rfl rfl) ?_)))))))
 refine Tl rfl rfl rfl rfl Ob L5 (fun b5=> ?_)
 refine TO.Aj 0 rfl rfl rfl (vl rfl) (Va rfl) rfl B5 rfl rfl (TO.freeze 0 7 rfl rfl (TO.nil (Fin.go (Tr.K3 mixed [some (0,3,false,0),none,none,some (0,2,false,0),none,none,none,some (0,0,false,0),none,none,none,none,none,some (0,0,true,0)] BS (HO 3 rfl rfl (Ay rfl JU (vl rfl) rfl) (xo rfl (fun _=>Dx rfl (vl rfl)) (xo rfl (fun _=>AY rfl IU (vl rfl)) (HO 2 rfl rfl (Ay rfl JV (vl rfl) rfl) (xo rfl (fun _=>ZM rfl Po rfl rfl) (xo rfl (fun _=>GI rfl CX rfl) (xo rfl (fun _=>BE rfl underlying232 FW (vl rfl) (vl rfl) AA AA) (HO 0 rfl rfl (Ay rfl Fe (vl rfl) (KK hx)) (xo rfl (fun _=>ZM rfl Pn rfl rfl) ?_)))))))))))))
 refine xo rfl (fun _=>GI rfl CX rfl) ?_
 refine xo rfl (fun _=>Hw (b:=1#32) rfl (vl rfl) (vl rfl) AA) ?_
 refine xo rfl (fun _=>KF rfl (vl rfl) (vl rfl)) (xo rfl (fun _=>BE rfl underlying232 FW (vl rfl) (vl rfl) AA AA) ?_)
 refine Cx.Ee 0 rfl rfl (A9 rfl rfl (vl rfl) (Vo rfl) FW rfl Da (Qj hx)) ?_
 refine Cx.nil ⟨rfl,?_⟩
 refine BW.done (BT.cons (BT.cons (BT.cons (BT.cons (BT.cons (BT.cons (BT.map _))))))) (Fin.block (Fin.go (Na 0 5 19 20 21 rfl (Tr.Ah (JF rfl rfl rfl rfl AA (cm rfl (Ch.nil (Fin.DG (B.set r.thn.toNat (US x r.fst.toNat)) (m+1)  (⟨⟨hm,YC hB hr hf ht.1 hx AA⟩,by omega⟩) ⟨⟨_,rfl,AF m⟩,ke rfl,ke rfl,ke rfl,ke rfl,trivial⟩ (fun _ _ h=>h)))))))))
 have hml:m=l.length:=by have:=AJ h1;omega
 rw [hml,List.take_length] at hB
 refine Tr.exit (Fin.AV (Fin.AV (Fin.Ao (Fin.go (Tr.seq (Tr.seq (Tr.Ah (cm rfl (cm rfl (Ch.nil (Fin.go (Tr.block (Tr.DU [(0,_),(5,_),(39,_)] ⟨ke rfl,ke rfl,ke rfl,trivial⟩ (fun (B2:List (BitVec 32)) (k:Nat)=>[(40,int ((k:Nat):Int))]) (fun (B2:List (BitVec 32)) (k:Nat)=>Hp M0 w0 S (AE true b1 Q3 (B2.map fun x=>u32 x)::AE true b2 Q3 ((List.replicate n 0#32).map fun x=>u32 x)::AE true b3 234 [int ((n:Nat):Int),is (J8 n b1),is (J8 n b2)]::AE true b4 176 [ptr b3 0]::DI::Ak M1 w1::rs)) (fun (B2:List (BitVec 32)) (k:Nat)=>k≤n∧Ed n B2 (Cu l k)) (fun (B2:List (BitVec 32)) (k:Nat)=>n-k) (B) (0)  (⟨Nat.zero_le _,hB⟩) ⟨ke rfl,trivial⟩ (fun _ _ h=>h) ?_)))))))))))))
 rintro B2 k  ⟨hk0,hB2⟩
 refine Tr.seq (Tr.Ah (co rfl (ki rfl rfl rfl rfl) (Ch.nil (Fin.go (Tr.seq ?_)))))
 refine Tr.cn rfl ?_ ?_<;>intro h2 q2
 have hk:k<n:=AH h2
 refine Tr.skip (Fin.go (Tr.seq (Tr.block (Tr.seq (Tr.Ah (cm rfl (cm rfl (Ch.nil (Fin.go (Tr.seq (Tr.Ah (cm rfl (cm rfl ?_)))))))))))))
 refine Ch.nil (Fin.go (Tr.block ?_))
 refine Tr.DU [(0,_),(5,_),(8,_),(39,_),(40,_),(43,_)] ⟨ke rfl,ke rfl,ke rfl,ke rfl,ke rfl,ke rfl,trivial⟩ (fun (B3:List (BitVec 32)) (i:Nat)=>[(44,int ((i:Nat):Int))]) (fun (B3:List (BitVec 32)) (i:Nat)=>Hp M0 w0 S (AE true b1 Q3 (B3.map fun x=>u32 x)::AE true b2 Q3 ((List.replicate n 0#32).map fun x=>u32 x)::AE true b3 234 [int ((n:Nat):Int),is (J8 n b1),is (J8 n b2)]::AE true b4 176 [ptr b3 0]::DI::Ak M1 w1::rs)) (fun (B3:List (BitVec 32)) (i:Nat)=>i≤n∧Ed n B3 (KY k (Cu l k) i)) (fun (B3:List (BitVec 32)) (i:Nat)=>n-i) (B2) (0)  (⟨Nat.zero_le _,by rw [vY];exact hB2⟩) ⟨ke rfl,trivial⟩ (fun _ _ h=>h) ?_
 rintro B3 i  ⟨hi0,hB3⟩
 refine Tr.seq (Tr.Ah (co rfl (ki rfl rfl rfl rfl) (Ch.nil (Fin.go (Tr.seq ?_)))))
 refine Tr.cn rfl ?_ ?_<;>intro h3 q3
 have hi:i<n:=AH h3
 have hBl:=hB3.1
 obtain ⟨x,hx⟩:=at_ (l:=B3) (k:=i) AA
 obtain ⟨y,hy⟩:=at_ (l:=B3) (k:=k) AA
 refine Tr.skip (Fin.go (Tr.seq (Tr.block (Tr.seq (Tr.Ah (cm rfl (cm rfl (Ch.nil (Fin.go (Tr.seq (Tr.Ah (co rfl (CY 3 rfl (Ay rfl JU (vl rfl) rfl)) (co rfl (Dx rfl (vl rfl)) ?_)))))))))))))
 refine co rfl (AY rfl IU (vl rfl)) (co rfl (CY 2 rfl (Ay rfl JV (vl rfl) rfl)) (cm rfl (co rfl (BE rfl underlying232 FW (vl rfl) (vl rfl) AA AA) (co rfl (CY 0 rfl (Ay rfl Fe (vl rfl) (KK hx))) (cm rfl (co rfl (AZ rfl (T5) ⟨ke rfl,ke rfl,trivial⟩) (Ch.nil (Fin.go (wk9 0 5 8 9 39 40 43 44 55 rfl ?_)))))))))
 refine Tr.cn rfl ?_ ?_<;>intro h4 q4
 refine Tr.K3 mixed [some (0,3,false,0),none,none,some (0,2,false,0),none,none,some (0,0,false,0),some (0,3,false,0),none,none,some (0,2,false,0),none,none,some (0,0,false,0),none,none,some (0,0,true,0)] BS (HO 3 rfl rfl (Ay rfl JU (vl rfl) rfl) (xo rfl (fun _=>Dx rfl (vl rfl)) (xo rfl (fun _=>AY rfl IU (vl rfl)) (HO 2 rfl rfl (Ay rfl JV (vl rfl) rfl) (xm rfl (xo rfl (fun _=>BE rfl underlying232 FW (vl rfl) (vl rfl) AA AA) (HO 0 rfl rfl (Ay rfl Fe (vl rfl) (KK hx)) (HO 3 rfl rfl (Ay rfl JU (vl rfl) rfl) (xo rfl (fun _=>Dx rfl (vl rfl)) (xo rfl (fun _=>AY rfl IU (vl rfl)) (HO 2 rfl rfl (Ay rfl JV (vl rfl) rfl) (xm rfl (xo rfl (fun _=>BE rfl underlying232 FW (vl rfl) (vl rfl) AA AA) ?_)))))))))))))
 refine HO 0 rfl rfl (Ay rfl Fe (vl rfl) (KK hy)) (xo rfl (fun _=>KF rfl (vl rfl) (vl rfl)) (xo rfl (fun _=>BE rfl underlying232 FW (vl rfl) (vl rfl) AA AA) ?_))
 refine Cx.Ee 0 rfl rfl (A9 rfl rfl (vl rfl) (Vo rfl) FW rfl Da (Qj hx)) ?_
 refine Cx.nil ⟨rfl,?_⟩
 refine BW.done (BT.cons (BT.cons (BT.cons (BT.cons (BT.cons (BT.cons (BT.map _))))))) (Fin.block (Fin.go (wk7 0 5 8 39 40 43 44 rfl (Tr.Ah (JF rfl rfl rfl rfl AA (cm rfl (Ch.nil ?_)))))))
 exact Fin.DG (B3.set i (x|||y)) (i+1)  (⟨⟨hi,kX hB3 hx hy (by rw [←Vn hB3 hx hk];exact h4)⟩,by omega⟩) ⟨⟨_,rfl,AF i⟩,ke rfl,ke rfl,ke rfl,ke rfl,ke rfl,ke rfl,trivial⟩ (fun _ _ h=>h)
 refine Tr.skip (Fin.block (Fin.go (Tr.Ah (JF rfl rfl rfl rfl AA (cm rfl (Ch.nil ?_))))))
 exact Fin.DG (B3) (i+1)  (⟨⟨hi,qc hB3 (by rw [←Vn hB3 hx hk];exact h4)⟩,by omega⟩) ⟨⟨_,rfl,AF i⟩,ke rfl,ke rfl,ke rfl,ke rfl,ke rfl,ke rfl,trivial⟩ (fun _ _ h=>h)
 have hin:i=n:=by have:=AJ h3;omega
 rw [hin] at hB3
 refine Tr.exit (Fin.AV (Fin.AV (Fin.Ao (Fin.block (Fin.go (Tr.Ah (JF rfl rfl rfl rfl AA (cm rfl (Ch.nil (Fin.DG (B3) (k+1)  (⟨⟨hk,MT hB3 fun a b _ hb=>kV hb⟩,by omega⟩) ⟨⟨_,rfl,AF k⟩,ke rfl,ke rfl,ke rfl,trivial⟩ (fun _ _ h=>h)))))))))))
 have hkn:k=n:=by have:=AJ h2;omega
 rw [hkn] at hB2
 obtain rfl:=YB hB2 (GZ AA)
 refine Tr.exit (Fin.AV (Fin.AV (Fin.Ao (Fin.go (Tr.seq (Tr.seq (Tr.Ah (cm rfl (cm rfl (Ch.nil (Fin.go (Tr.block ?_))))))))))))
 refine Tr.vJ [(5,_),(74,_)] ⟨ke rfl,ke rfl,trivial⟩ (fun Ds i=>⟨_,Ds.map Cp.mark⟩) (fun Ds i=>[(75,int ((i:Nat):Int))]) (fun Ds i=>Hp M0 w0 S (AE true b1 Q3 ((Dz n l).map fun x=>u32 x)::AE true b2 Q3 ((KZ (Dz n l) i).map fun x=>u32 x)::AE true b3 234 [int ((n:Nat):Int),is (J8 n b1),is (J8 n b2)]::AE true b4 176 [ptr b3 0]::DI::(Ds.map VQ++Ak M1 w1::rs))) (fun Ds i=>i≤(n)) (fun Ds i=>(n)-i) [] 0 rfl (Nat.zero_le _) ⟨ke rfl,trivial⟩ ((by rw [KZ,Cg];exact fun _ _ h=>h)) ?_
 rintro Ds i QH
 refine Tr.seq (Tr.Ah (Ch.op rfl rfl Al (ki rfl rfl rfl rfl) (Ch.nil (Fin.go (Tr.seq ?_)))))
 refine Tr.cn rfl ?_ ?_<;>intro h5 q5
 have Fi:i<(n):=AH h5
 obtain ⟨x,hx⟩:=at_ (l:=Dz n l) (k:=i) (by rw [Cg];omega)
 refine Tr.skip (Fin.go (Tr.seq (Tr.block (Tr.seq (Tr.A0 (TO.op rfl rfl Al (Bw rfl (vl rfl)) ?_))))))
 refine TO.alloc rfl rfl Al rfl z3 zo3 (fun b6=> ?_)
 refine TO.Aj 0 rfl rfl rfl (vl rfl) (Vo rfl) rfl Bg rfl rfl (TO.freeze 0 10 rfl rfl (TO.nil (Fin.go (Tr.seq (Tr.pad (Tr.K3 mixed [some (0,4,false,0),none,none,some (0,3,false,0),none,none,some (0,1,false,0),some (0,0,true,85)] BS (Cx.rd 4 rfl rfl rfl Al (Ay rfl JU (vl rfl) rfl) (Cx.op rfl rfl Al (fun _=>Dx rfl (vl rfl)) (Cx.op rfl rfl Al (fun _=>AY rfl IU (vl rfl)) (Cx.rd 3 rfl rfl rfl Al (Ay rfl JV (vl rfl) rfl) (Cx.op rfl rfl Al (fun _=>GI rfl CX rfl) (Cx.op rfl rfl Al (fun _=>BE rfl underlying232 FW (vl rfl) (vl rfl) AA AA) (Cx.rd 1 rfl rfl rfl Al (Ay rfl Fe (vl rfl) (KK hx)) ?_)))))))))))))
 refine Cx.ef 0 rfl rfl Al (HA rfl rfl Al rfl (kj) ⟨ke rfl,trivial⟩) ?_
 refine Cx.nil ⟨rfl,?_⟩
 refine BW.open_ 0 85 rfl rfl (fun v1=> ?_)
 refine BW.done (BT.cons (BT.cons (BT.cons (BT.cons (BT.cons (BT.cons (BT.map _))))))) (Fin.shape 85 (fun b=>kg b) rfl (fun fb7 fe7=> ?_))
 subst fe7
 refine Fin.HH 0 (AE true fb7 Q3 [_]) rfl rfl (Fin.go (Na 5 10 74 75 85 rfl (Tr.block (Tr.vI 11 [(5,_),(10,_)] ⟨ke rfl,ke rfl,trivial⟩ (fun pre=>AE true b1 Q3 ((Dz n l).map fun x=>u32 x)::AE true b2 Q3 ((pre.foldl (I6 i) (KZ (Dz n l) i)).map fun x=>u32 x)::AE true b3 234 [int ((n:Nat):Int),is (J8 n b1),is (J8 n b2)]::AE true b4 176 [ptr b3 0]::(Ds.map VQ++Ak M1 w1::rs)) (T6 (s:=x)) T7 (vl rfl) ((Cl (j:=5) rfl).trans (List.Perm.cons _ ((Cl (j:=0) rfl).trans (List.Perm.cons _ (List.Perm.refl _))))) rfl Al ?_ ?_ ?_))))
 rintro lk Dk rk Mr wr pre y0 hpre
 refine Tr.Ah (Ch.op rfl rfl Al (BX rfl (vl rfl)) (Ch.nil (Fin.st ⟨ke rfl,ke rfl,ke rfl,trivial⟩)))
 rintro lk Dk rk Mr wr pre y0 hpre
 have hlt:y0<n:=by
  have h_:=KJ.1 (k6 hpre)
  rw [(GZ AA).2 i x hx,Bool.and_eq_true,decide_eq_true_eq] at h_
  exact h_.1
 have hal:(pre.foldl (I6 i) (KZ (Dz n l) i)).length=n:=by rw [NK,H9,Cg]
 obtain ⟨y,hy⟩:=at_ (l:=pre.foldl (I6 i) (KZ (Dz n l) i)) (k:=y0) AA
 refine Tr.block (Tr.K3 mixed [some (0,8,false,0),none,none,some (0,7,false,0),none,none,some (0,6,false,0),none,none,none,none,some (0,6,true,0)] BS (Cx.rd 8 rfl rfl rfl Al (Ay rfl JU (vl rfl) rfl) (Cx.op rfl rfl Al (fun _=>Dx rfl (vl rfl)) (Cx.op rfl rfl Al (fun _=>AY rfl nx (vl rfl)) (Cx.rd 7 rfl rfl rfl Al (Ay rfl JV (vl rfl) rfl) (Cx.op rfl rfl Al (fun _=>Bw rfl (vl rfl)) (Cx.op rfl rfl Al (fun _=>BE rfl underlying232 FW (vl rfl) (vl rfl) AA AA) (Cx.rd 6 rfl rfl rfl Al (Ay rfl Fe (vl rfl) (KK hy)) (Cx.op rfl rfl Al (fun _=>GI rfl CX rfl) ?_)))))))))
 refine Cx.op rfl rfl Al (fun _=>Hw (b:=1#32) rfl (vl rfl) (vl rfl) (Int.natCast_nonneg _)) ?_
 refine Cx.op rfl rfl Al (fun _=>KF rfl (vl rfl) (vl rfl)) (Cx.op rfl rfl Al (fun _=>BE rfl underlying232 FW (vl rfl) (vl rfl) AA AA) ?_)
 refine Cx.Ee 6 rfl rfl (A9 rfl rfl (vl rfl) (Vo rfl) FW rfl Da ((Qj hy).trans (congrArg (fun B:List (BitVec 32)=>B.map fun x=>u32 x) (dH hy)))) ?_
 refine Cx.nil ⟨rfl,?_⟩
 refine BW.done (BT.cons (BT.cons (BT.cons (BT.cons (BT.cons (BT.cons (BT.cons (BT.cons (BT.cons (BT.map _)))))))))) (Fin.block (Fin.rnd () (List.Perm.refl _)))
 rintro lk Dk rk Mr wr
 refine Fin.drop 1 (Fin.drop 1 (Fin.drop 2 (Fin.MK (List.Perm.cons _ ((List.perm_middle (l₁:=[_,_,_,_])).symm)) ?_)))
 refine Fin.MK (List.perm_middle (l₁:=[_,_,_,_])).symm ?_
 refine Fin.block (Fin.block (Fin.go (Tr.Ah ?_)))
 refine Ch.op rfl rfl Al (Ey rfl (vl rfl) (vl rfl) ?hin) ?_;case hin=>unfold N9;omega
 refine Ch.op rfl rfl Al (Bw rfl (vl rfl)) (Ch.nil ?_)
 exact Fin.AAY (_::_) (i+1) rfl (⟨Fi,by omega⟩) ⟨⟨_,rfl,AF i⟩,ke rfl,ke rfl,trivial⟩ ((by rw [dG hx];exact fun _ _ h=>h))
 have KS:i=(n):=by have:=AJ h5;omega
 have AAq:=KS.symm
 subst AAq
 refine Tr.exit (Fin.AV (Fin.AV (Fin.Ao (Fin.go (Tr.seq (Tr.eqC 0 (((Dz n l).map fun x=>[u32 x]).flatten++([]:List Value).map is) rfl (SF _) ?_))))))
 refine Tr.oK (cap:=n) (sz:=1) ((Dz n l).map fun x=>[u32 x]) 0 2 1 rfl rfl AB rfl (Pr.le_of_eq (by rw [List.length_map,Cg n l])) (BL fun _=>rfl) (by rw [List.length_map,Cg n l];exact Nat.le_refl _) HI (by simp [H9,Cg]) rfl ?_
 refine Tr.eqC 1 (((KZ (Dz n l) n).map fun x=>[u32 x]).flatten++([]:List Value).map is) rfl (SF _) ?_
 refine Tr.oK (cap:=n) (sz:=1) ((KZ (Dz n l) n).map fun x=>[u32 x]) 1 2 2 rfl rfl AB rfl (Pr.le_of_eq (by rw [List.length_map,(H9 _ _).trans (Cg n l)])) (BL fun _=>rfl) (by rw [List.length_map,(H9 _ _).trans (Cg n l)];exact Nat.le_refl _) HI (by simp [H9,Cg]) rfl ?_
 refine Tr.Ah (Ch.op rfl rfl Al (CY 3 rfl (Ay rfl JU (vl rfl) rfl)) (Ch.op rfl rfl Al (BX rfl (vl rfl)) (Ch.nil (Fin.go (Tr.ret (Fin.freeze 2 4 rfl rfl (Fin.drop 0 (Fin.drop 0 (Fin.drop 0 (Fin.MK List.perm_middle.symm (Fin.Zz (Fin.E7 rfl rfl ?_ (fun _ _ _ _=>rfl)))))))))))))
 · exact vh ⟨Lr,A_ _ _,A_ _ _,trivial⟩
def YE (n:Int) (l:List BH):Pr:=if Am n l=0 then ref [int n,bits (Dz n.toNat l),bits (KZ (Dz n.toNat l) n.toNat)] else is (.pointer none)
instance AAr (n:Int) (l:List BH):One (YE n l):=by
 unfold YE;split
 · exact ZF _
 · exact ZE _
theorem JJ {n:Int} {l:List BH} {e:Int} (h:Am n l=e) (he:e≠0):Pr.le (is (.pointer none)) (YE n l):=by
 unfold YE;rw [if_neg G1];exact Pr.le_refl _
theorem T9 {n:Int} {l:List BH} (h:Am n l=0):YE n l=ref [int n,bits (Dz n.toNat l),bits (KZ (Dz n.toNat l) n.toNat)]:=by
 unfold YE;rw [if_pos h]
theorem KL {n:Int} {l:List BH} (h:n<0∨24<n):Am n l=2:=by unfold Am;rw [if_pos h]
theorem O8 {n:Int} {l:List BH} {k:Nat} {r:BH} (h:0≤n∧n≤24) (hr:l[k]? =some r) (hb:Eg n r=true):Am n l=44:=by
 unfold Am;rw [if_neg AA,if_pos (List.any_eq_true.2 ⟨r,List.mem_of_getElem? hr,hb⟩)]
theorem aL {n:Int} {l:List BH} (h:∀j y,j<l.length→l[j]? =some y→Eg n y=false):∀r∈l,Eg n r=false:=fun r hr=>by
 obtain ⟨j,hj⟩:=List.mem_iff_getElem?.1 hr
 exact h j r WY hj
theorem YF {n:Int} {l:List BH} (h:∀r∈l,Eg n r=false):¬l.any (Eg n)=true:=by
 rw [Bool.not_eq_true,List.any_eq_false];exact fun r hr=>by rw [h r hr];decide
theorem T_ {n:Int} {l:List BH} {k:Nat} {a b:BH} (h:0≤n∧n≤24) (hb:∀r∈l,Eg n r=false) (hk:0<k) (ha:l[k-1]? =some a) (hx:l[k]? =some b) (hl:Ea a b=false):Am n l=6:=by
 unfold Am;rw [if_neg AA,if_neg (YF hb),if_pos]
 cases hs:Dg l with
 |false=>rfl
 |true=>
  have:=LR.1 hs (k-1) a b ha (by rw [Nat.sub_add_cancel hk];exact hx)
  rw [hl] at this;cases this
theorem Ql {n:Nat} {l:List BH} {i:Nat} (h:n≤24) (hb:∀r∈l,Eg n r=false) (hs:Dg l=true) (hi:i<n) (hw:Cu l n i i=true):Am n l=45:=by
 unfold Am;rw [if_neg AA,if_neg (YF hb),if_neg (by rw [hs];decide),if_pos (show AAo (n:Int).toNat l=true from List.any_eq_true.2 ⟨i,List.mem_range.2 AA,hw⟩)]
theorem UA {n:Nat} {l:List BH} (h:n≤24) (hb:∀r∈l,Eg n r=false) (hs:Dg l=true) (hw:∀i,i<n→Cu l n i i=false):Am n l=0:=by
 unfold Am;rw [if_neg AA,if_neg (YF hb),if_neg (by rw [hs];decide),if_neg]
 intro hc
 obtain ⟨i,hi,h2⟩:=List.any_eq_true.1 hc
 have:=hw i (by simpa using hi)
 rw [show ((n:Int)).toNat=n from rfl] at h2
 rw [this] at h2;cases h2
theorem Qm {l:List BH} (h:∀(j:Nat) a b,j+1<l.length→l[j]? =some a→l[j+1]? =some b→Ea a b=true):Dg l=true:=LR.2 fun j a b ha hb=>h j a b (by rcases Nat.lt_or_ge (j+1) l.length with h2|h2;exact h2;rw [List.getElem?_eq_none h2] at hb;cases hb) ha hb
theorem Jy {l:List BH} {k:Nat} {x:BH} (hx:l[k]? =some x) (hp:∀y,0<k→l[k-1]? =some y→Ea y x=true) (h:∀(j:Nat) a b,j+1<k→l[j]? =some a→l[j+1]? =some b→Ea a b=true):∀(j:Nat) a b,j+1<k+1→l[j]? =some a→l[j+1]? =some b→Ea a b=true:=by
 intro j a b hj ha hb
 by_cases hjk:j+1=k
 · exact Wg
 · exact h j a b AA ha hb
theorem UB {n:Int} {l:List BH}  :BR prog 136 [int n,reqs l] (F8 [YE n l,int (Am n l)]) (DI) (fun _=>DI):=by
 refine BR.of func136 rfl rfl Al fun M0 w0 S rs M1 w1=> ?_
 refine Tr.CM 1 rfl fun Fz=> ?_
 refine ac ?_
 refine ag ?_ ?_<;>intro h1 q1
 refine a2 ?_
 refine Tr.ret (Fin.AG (Fin.Iw rfl rfl ?_ rfl ?_))
 · exact JJ (KL AA) AB
 · refine int_eq ?_;exact (KL AA).symm
 refine an ?_ ?_<;>intro h2 q2
 refine ac ?_
 refine Tr.ret (Fin.AG (Fin.Iw rfl rfl ?_ rfl ?_))
 · exact JJ (KL AA) AB
 · refine int_eq ?_;exact (KL AA).symm
 have Ld:0≤n∧n≤24:=by omega
 obtain ⟨m,hm⟩:∃m:Nat,n=(m:Int):=⟨n.toNat,by omega⟩
 refine a2 ?_
 refine Tr.block (Tr.Ax _ (kk [19,18,1,0] rfl) (fun k:Nat=>[(20,int ((k:Nat):Int))]) (fun k:Nat=>k≤(l).length∧(∀j y,j<k→l[j]? =some y→Eg n y=false)) (fun k:Nat=>(l).length-k) 0 (⟨Nat.zero_le _,fun j y hj=>absurd hj AA⟩) kz ?_)
 rintro k ⟨BK,AL⟩
 refine ac ?_
 refine Tr.seq ?_
 refine Tr.cn rfl ?_ ?_<;>intro h3 q3
 have Aa:k<(l).length:=AH h3
 obtain ⟨x,AX⟩:=at_ Aa
 refine ac ?_
 refine Tr.seq (Tr.block (Tr.seq (Tr.A0 (tp rfl (AD rfl underlying33 B5 vq vq AA (Ac AX)) (tp rfl (AK rfl EI B5 vq rfl rfl) ?_)))))
 refine Tl rfl rfl rfl rfl Ob L5 (fun b1=> ?_)
 refine sf 0 7 ⟨rfl,rfl,rfl⟩ rfl rfl rfl rfl ?_
 refine ao ?_
 refine ag ?_ ?_<;>intro h4 q4
 refine ac ?_
 refine wk [50,20,19,18,1,0] rfl ?_
 refine ac ?_
 refine Tr.ret (Fin.Ag (Fin.AG (Fin.AG (Fin.Ag (Fin.AG (Fin.Iw rfl rfl ?_ rfl ?_))))))
 · exact O9
 · exact O7
 refine ag ?_ ?_<;>intro h5 q5
 refine ac ?_
 refine wk [50,20,19,18,1,0] rfl ?_
 refine ac ?_
 refine Tr.ret (Fin.Ag (Fin.AG (Fin.AG (Fin.Ag (Fin.AG (Fin.Iw rfl rfl ?_ rfl ?_))))))
 · exact O9
 · exact O7
 refine ag ?_ ?_<;>intro h6 q6
 refine ac ?_
 refine wk [50,20,19,18,1,0] rfl ?_
 refine ac ?_
 refine Tr.ret (Fin.Ag (Fin.AG (Fin.AG (Fin.Ag (Fin.AG (Fin.Iw rfl rfl ?_ rfl ?_))))))
 · exact O9
 · exact O7
 refine ag ?_ ?_<;>intro h7 q7
 refine ac ?_
 refine wk [50,20,19,18,1,0] rfl ?_
 refine ac ?_
 refine Tr.ret (Fin.Ag (Fin.AG (Fin.AG (Fin.Ag (Fin.AG (Fin.Iw rfl rfl ?_ rfl ?_))))))
 · exact O9
 · exact O7
 refine ac ?_
 refine wk [50,20,19,18,1,0] rfl ?_
 refine Tr.cn rfl ?_ ?_<;>intro h8 q8
 refine ac ?_
 refine Tr.ret (Fin.Ag (Fin.AG (Fin.AG (Fin.Ag (Fin.AG (Fin.Iw rfl rfl ?_ rfl ?_))))))
 · exact O9
 · exact O7
 refine a2 ?_
 exact Fin.AM (k+1) ⟨⟨Aa,CJ (p:=Eg n) AX Y9 AL⟩,by omega⟩ ⟨⟨_,rfl,AF k⟩,kz⟩
 have Az:k=(l).length:=by have:=AJ h3;omega
 subst Az
 refine ac ?_
 refine Tr.seq (Tr.seq ?_)
 have hall:=aL AL
 clear AL
 refine ac ?_
 refine Tr.block (Tr.Ax _ (kk [53,1,0] rfl) (fun k:Nat=>[(54,int ((k:Nat):Int))]) (fun k:Nat=>k≤(l).length∧(∀(j:Nat) a b,j+1<k→l[j]? =some a→l[j+1]? =some b→Ea a b=true)) (fun k:Nat=>(l).length-k) 0 (⟨Nat.zero_le _,fun j a b hj=>absurd hj AA⟩) kz ?_)
 rintro k ⟨BK,AL⟩
 refine ac ?_
 refine Tr.seq ?_
 refine Tr.cn rfl ?_ ?_<;>intro h9 q9
 have Aa:k<(l).length:=AH h9
 obtain ⟨x,AX⟩:=at_ Aa
 refine a2 ?_
 refine ag ?_ ?_<;>intro h10 Q2
 obtain ⟨y,hy⟩:=at_ (l:=l) (k:=k-1) AA
 refine ac ?_
 refine cy h10 rfl (AD rfl underlying33 B5 vq vq AA (JO AA hy)) ?_
 refine ac ?_
 refine cy h10 rfl (AD rfl underlying33 B5 vq vq AA (Ac AX)) (cy h10 rfl (AK rfl EI B5 vq rfl rfl) ?_)
 refine cy h10 rfl (C4 (YD (a:=y) (b:=x)) rfl rfl rfl) ?_
 refine ac ?_
 refine wk [71,54,53,1,0] rfl ?_
 refine Tr.cn rfl ?_ ?_<;>intro h11 U7
 refine ac ?_
 refine Tr.ret (Fin.Ag (Fin.AG (Fin.AG (Fin.Ag (Fin.AG (Fin.Iw rfl rfl ?_ rfl ?_))))))
 · exact JJ (T_ Ld hall AA hy AX (by have h_:=T8 (a:=y) (b:=x);simp_all)) AB
 · refine int_eq ?_;exact (T_ Ld hall AA hy AX (by have h_:=T8 (a:=y) (b:=x);simp_all)).symm
 refine a2 ?_
 exact Fin.AM (k+1) ⟨⟨Aa,Jy AX (by intro y2 hk2 hy2;rw [hy] at hy2;cases hy2;have h_:=T8 (a:=y) (b:=x);simp_all) AL⟩,by omega⟩ ⟨⟨_,rfl,AF k⟩,kz⟩
 refine ac ?_
 refine wk [71,54,53,1,0] rfl ?_
 refine a2 ?_
 exact Fin.AM (k+1) ⟨⟨Aa,Jy AX (by intro y2 hk2 hy2;omega) AL⟩,by omega⟩ ⟨⟨_,rfl,AF k⟩,kz⟩
 have Az:k=(l).length:=by have:=AJ h9;omega
 subst Az
 refine ac ?_
 refine Tr.seq ?_
 have qj:=Qm AL
 subst hm
 refine ao ?_
 refine TO.EV 0 rfl rfl AB (AU rfl rfl AB rfl (dI (n:=m) AA hall) ⟨kq,kz⟩) ?_
 refine ao ?_
 refine Tr.seq (Tr.seq ?_)
 have Us:=Cg m l
 refine ac ?_
 refine wk [81,80,79,9] rfl (Tr.block (Tr.Ax _ (kk [80,79,9] rfl) (fun i:Nat=>[(81,int ((i:Nat):Int))]) (fun i:Nat=>i≤(Dz m l).length∧(∀j,j<i→Cu l m j j=false)) (fun i:Nat=>(Dz m l).length-i) 0 (⟨Nat.zero_le _,fun j hj=>absurd hj AA⟩) kz ?_))
 rintro i ⟨QH,DC⟩
 refine ac ?_
 refine Tr.seq ?_
 refine Tr.cn rfl ?_ ?_<;>intro h12 Ze
 have Fi:i<(Dz m l).length:=AH h12
 obtain ⟨x,HJ⟩:=at_ Fi
 refine a2 ?_
 refine co rfl (AD rfl underlying232 FW vq vq AA (Qk HJ)) ?_
 refine a2 ?_
 refine co rfl (C4 (T5) rfl rfl rfl) ?_
 refine an ?_ ?_<;>intro L4 XK
 refine ac ?_
 refine wk [5,4] rfl (Tr.ret (Fin.Ag (Fin.AG (Fin.AG (Fin.Ag (Fin.AG (Fin.Iw rfl rfl ?_ rfl ?_)))))))
 · exact JJ (Ql AA hall qj (i:=i) AA Yq) AB
 · refine int_eq ?_;exact (Ql AA hall qj (i:=i) AA Yq).symm
 refine a2 ?_
 exact Fin.AM (i+1) ⟨⟨Fi,(fun j hj=>by rcases Nat.lt_or_ge j i with h_|h_;exact DC j h_;(obtain rfl:j=i:=by omega);have h_:=(GZ (l:=l) (show m≤32 by omega)).2 j x HJ j;simp_all;done)⟩,by omega⟩ ⟨⟨_,rfl,AF i⟩,kz⟩
 have KS:i=(Dz m l).length:=by have:=AJ h12;omega
 rw [Cg] at KS
 subst KS
 refine a2 ?_
 refine Tr.ret (Fin.Iw rfl rfl ?_ rfl ?_)
 · rw [T9 (UA AA hall qj DC)];exact Lr
 · refine int_eq ?_;exact (UA AA hall qj DC).symm
theorem Vp {n:Nat} {B:List (BitVec 32)} {p:Pr} {s:BitVec 32} (hB:B.length=n) (hn:n≤24):BD prog 153 [ref [int ((n:Nat):Int),bits B,p],u32 s] (u32 (H_ B s n)):=by
 refine fo func153 rfl ⟨rfl,rfl⟩ fun M0 w0=> ?_
 refine a3 ?_
 refine Tr.block (Tr.Ax _ (kk [10,1,0] rfl) (fun k:Nat=>[(11,int ((k:Nat):Int)),(5,u32 (H_ B s k))]) (fun k:Nat=>k≤n) (fun k:Nat=>n-k) 0 (Nat.zero_le _) ⟨kq,⟨_,rfl,Lf⟩,trivial⟩ ?_)
 rintro k hk0
 refine ac ?_
 refine Tr.seq ?_
 refine Tr.cn rfl ?_ ?_<;>intro h1 q1
 have hk:k<n:=AH h1
 obtain ⟨x,hx⟩:=at_ (l:=B) (k:=k) AA
 · repeat' first|exact Fin.AM (k+1) ⟨by omega,by omega⟩ ⟨⟨_,rfl,AF k⟩,⟨_,rfl,Pr.le_of_eq (congrArg u32 (kr hx Cc Cc).symm)⟩,kz⟩|exact Fin.AM (k+1) ⟨by omega,by omega⟩ ⟨⟨_,rfl,AF k⟩,⟨_,rfl,Pr.le_of_eq (congrArg u32 (qi hx Cc).symm)⟩,kz⟩|refine co rfl (C4 (T5 (b:=s) (i:=k)) rfl rfl rfl) ?_|refine cy h rfl (AD rfl underlying232 FW vq vq AA (Qk hx)) ?_|refine cy h rfl (Jo rfl vq vq) (cy h rfl (jj rfl vq vq) ?_)|refine co rfl (Hw (b:=1#32) rfl vq vq (Int.natCast_nonneg _)) ?_|refine co rfl (KF rfl vq vq) ?_|refine ac ?_|(refine Tr.cn rfl ?_ ?_<;>intro h q)|(refine Ch.cg rfl rfl rfl ?_ ?_<;>intro h q)
 obtain rfl:k=n:=by have:=AJ h1;omega
 refine a3 ?_
 · exact Lr
theorem k7 {n:Int} {l:List BH}  :BR prog 99 [int n,reqs l] (F8 [ints (if Am n l=0 then (Bj n.toNat l n.toNat).1 else []),int (Am n l)]) (DI) (fun _=>DI):=by
 refine BR.of func99 rfl rfl Al fun M0 w0 S rs M1 w1=> ?_
 refine ac ?_
 refine ap ?_
 refine TO.EV 0 rfl rfl AB (AU rfl rfl AB rfl (UB (n:=n) (l:=l)) ⟨kq,kz⟩) ?_
 refine ap ?_
 refine an ?_ ?_<;>intro h1 q1
 refine ac ?_
 refine wk [5,4] rfl (Tr.ret (Fin.AG (Fin.Iw rfl rfl ?_ rfl ?_)))
 · refine Pr.le_trans (Ai 1) (Pr.le_of_eq ?_);rw [if_neg BC];rfl
 · exact Lr
 have hv:Am n l=0:=by simpa using h1
 obtain ⟨h0,_⟩:=CV hv
 obtain ⟨m,rfl⟩:∃m:Nat,n=(m:Int):=⟨n.toNat,by omega⟩
 refine Tr.re 6 rfl (Pr.le_of_eq (T9 hv)) ?_
 refine a3 ?_
 refine wk [9,8,6,0] rfl ?_
 refine ac ?_
 refine Tr.block (Tr.CB 3 1 (Tr.Hq _ (kk [20,6] rfl) (fun (s:BitVec 32) (k:Nat) v=>[(21,int ((k:Nat):Int)),(9,u32 s),(8,Ae v (ints (Bj m l k).1))]) (fun (s:BitVec 32) (k:Nat) v=>Hp M0 w0 S (As 3 1 v::DI::Ak M1 w1::rs)) (fun (s:BitVec 32) (k:Nat)=>k≤m∧H8 m s (Bj m l k).2) (fun (s:BitVec 32) (k:Nat)=>m-k) (0#32) (0) (.slice none 0 0) (⟨Nat.zero_le _,X9 m⟩) ⟨kq,⟨_,rfl,Lf⟩,⟨_,rfl,Bu rfl⟩,trivial⟩ (fun _ _ h=>h) ?_))
 rintro s k v ⟨hk0,hs⟩
 refine ac ?_
 refine Tr.seq ?_
 refine Tr.cn rfl ?_ ?_<;>intro h2 q2
 have hk:k<m:=AH h2
 have hg:=k5 (k:=k) hv hk hs
 have hfl:(Bj m l k).1.length=k:=(Eb hv k (by simpa using hk0)).2
 refine ac ?_
 refine ap ?_
 refine tp rfl (C4 (Vp (n:=m) (Cg m l) AA) rfl rfl rfl) ?_
 refine TO.EV 1 rfl rfl AB (AU rfl rfl AB rfl (kf hg.1) kz) ?_
 refine ap ?_
 refine ac ?_
 refine co rfl (Hw (b:=1#32) rfl vq vq (Int.natCast_nonneg _)) ?_
 refine co rfl (KF rfl vq vq) ?_
 refine ac ?_
 refine wk [21,20,10,9,8,6] rfl ?_
 refine ap ?_
 refine TO.Ef 0 rfl rfl AB (CN rfl rfl rfl rfl underlying51 Bg J_ z3 KR Gx (BQ BI Oc)) (fun v1=> ?_)
 refine ap ?_
 refine ac ?_
 exact Fin.CI (US s (GF (H_ (Dz m l) s m))) (k+1) v1 (⟨⟨hk,hg.2.2.2⟩,by omega⟩) ⟨⟨_,rfl,AF k⟩,kq,⟨_,rfl,BU (by rw [show (Bj m l (k+1)).1=(Bj m l k).1++[_] from hg.2.2.1,List.map_append];rfl)⟩,kz⟩ (fun _ _ h=>h)
 obtain rfl:k=m:=by have:=AJ h2;omega
 refine a2 ?_
 refine Tr.ret (Fin.drop 0 (Fin.Iw rfl rfl ?_ rfl ?_))
 · refine Pr.le_trans (A_ _ _) (Pr.le_of_eq ?_);rw [if_pos hv];rfl
 · refine int_eq ?_;exact hv.symm
theorem k8 {n:Int} {l:List BH}  :BR prog 107 [int n,reqs l] (int (Am n l)) (DI) (fun _=>DI):=by
 refine BR.of func107 rfl rfl Al fun M0 w0 S rs M1 w1=> ?_
 refine ac ?_
 refine ap ?_
 refine TO.EV 0 rfl rfl AB (AU rfl rfl AB rfl (UB (n:=n) (l:=l)) ⟨kq,kz⟩) ?_
 refine ap ?_
 refine ac ?_
 refine Tr.ret (Fin.E7 rfl rfl ?_ (fun _ _ _ _=>rfl))
 · exact Lr
-- sets as bits: read, closed, what can be added (behind AE5.lean)
def MU (l:List Int):BitVec 32:=l.foldl (fun b i=>US b i.toNat) 0#32
theorem YG {l:List Int} {k:Nat} {x:Int} (h:l[k]? =some x):MU (l.take (k+1))=US (MU (l.take k)) x.toNat:=by unfold MU;rw [List.take_add_one,h,List.foldl_append];rfl
theorem aM {n:Nat} (hn:n≤32):∀(l:List Int) (b:BitVec 32) (i:Nat),(∀x∈l,0≤x∧x<n)→((l.foldl (fun b i=>US b i.toNat) b).getLsbD i=true↔b.getLsbD i=true∨(i:Int)∈l)
 |[],b,i,_=>by simp
 |x::l,b,i,h=>by
  have hx:=h x (List.mem_cons_self ..)
  rw [List.foldl_cons,aM hn l (US b x.toNat) i (fun y hy=>h y (List.mem_cons_of_mem _ hy)),T4 AA,Bool.or_eq_true,decide_eq_true_eq,List.mem_cons]
  constructor
  ·
   rintro ((h1|h1)|h1)
   · exact .inl h1
   · right;left;omega
   · exact .inr (.inr h1)
  ·
   rintro (h1|h1|h1)
   · exact .inl (.inl h1)
   · left;right;omega
   · exact .inr h1
theorem YH {n:Nat} {l:List Int} (hn:n≤32) (h:∀x∈l,0≤x∧x<n):H8 n (MU l) l:=fun i=>by
 unfold MU
 rw [aM hn l 0#32 i h]
 simp
def UC (B:List (BitVec 32)) (s:BitVec 32):Bool:=(Lb s).all fun i=>B.getD i 0#32&&&~~~s==0#32
theorem aN {n:Int} {l:List BH} {s:BitVec 32} {d:List Int} (hv:Am n l=0) (hs:H8 n.toNat s d) (hd:∀x∈d,0≤x∧x<n):UC (Dz n.toNat l) s=CH l d:=by
 obtain ⟨hn,hb,_,_⟩:=CV hv
 have hB:=GZ (n:=n.toNat) (l:=l) AA
 have hat:∀i,i<n.toNat→(Dz n.toNat l)[i]? =some ((Dz n.toNat l).getD i 0#32):=fun i hi=>by
  rw [List.getD_eq_getElem?_getD,List.getElem?_eq_getElem (by rw [Cg];exact hi)];rfl
 rw [Bool.eq_iff_iff]
 unfold UC
 rw [List.all_eq_true]
 constructor
 ·
  intro h
  refine Cf.2 fun r hr hm=> ?_
  have hbr:=hb r hr
  unfold Eg at hbr;rw [decide_eq_false_iff_not] at hbr
  have e1:((r.thn.toNat:Nat):Int)=r.thn:=by omega
  have e2:((r.fst.toNat:Nat):Int)=r.fst:=by omega
  have h1:s.getLsbD r.thn.toNat=true:=(hs _).2 (by rw [e1];exact hm)
  have h2:=h _ (KJ.2 h1)
  rw [beq_iff_eq,Qi] at h2
  have h3:=h2 r.fst.toNat (by
   rw [hB.2 _ _ (hat r.thn.toNat AA)]
   rw [Bool.and_eq_true,decide_eq_true_eq]
   refine ⟨by omega,KG ?_ _⟩
   unfold F2
   exact List.any_eq_true.2 ⟨r,hr,by simp;omega⟩)
  have:=(hs _).1 h3
  rw [e2] at this;exact this
 ·
  intro h i hi
  have h1:=KJ.1 hi
  have h2:=(hs i).1 h1
  have h3:=hd _ h2
  rw [beq_iff_eq,Qi]
  intro a ha
  rw [hB.2 _ _ (hat i AA),Bool.and_eq_true] at ha
  exact (hs a).2 (F5 h _ ha.2 h2)
theorem k9 {n:Int} {s:List Int} {k:Nat} (hk:k≤s.length) (h:∀j,j<k→setAt n s j=true): -1≤Ny s k:=by
 unfold Ny
 split
 · omega
 ·
  have h1:=h (k-1) AA
  unfold setAt at h1
  simp only [Bool.and_eq_true,decide_eq_true_eq] at h1
  omega
theorem MV {n:Nat} {s:List Int} (h:DN (n:Int) s=true):∀x∈s,0≤x∧x<(n:Int):=fun x hx=>by
 obtain ⟨i,hi⟩:=List.mem_iff_getElem?.1 hx
 exact p_ h hi
theorem ql {n:Nat} {s:List Int} {b:BitVec 32} (hb:H8 n b s) (h:DN (n:Int) s=true) {i:Nat} (hi:b.getLsbD i=true):i<n:=by
 have:=MV h _ ((hb i).1 hi);omega
abbrev rdB (n:Nat) (l:List Int):BitVec 32:=if DN (n:Int) l=true then MU l else 0#32
abbrev qm (B:List (BitVec 32)) (s:BitVec 32) (pre:List Nat):Prop:=∀i∈pre,(B.getD i 0#32&&&~~~s==0#32)=true
theorem qn {n:Nat} {B:List (BitVec 32)} {p:Pr} {l:List Int} (hn:n≤24):BD prog 137 [ref [int ((n:Nat):Int),bits B,p],ints l] (F8 [u32 (rdB n l),bool (DN ((n:Nat):Int) l)]):=by
 refine fo func137 rfl ⟨rfl,rfl⟩ fun M0 w0=>(Tr.CM 1 rfl fun Fz=> ?_)
 iterate 4 refine ac ?_
 refine Tr.block (Tr.Ax _ (kk [11,10,0] rfl) (fun k:Nat=>[(12,int ((k:Nat):Int)),(7,int (Ny l k)),(6,u32 (MU (l.take k)))]) (fun k:Nat=>k≤(l).length∧(∀j,j<k→setAt (n:Nat) l j=true)) (fun k:Nat=>(l).length-k) 0 (⟨Nat.zero_le _,fun j hj=>absurd hj AA⟩) ⟨kq,⟨_,rfl,int_eq rfl⟩,⟨_,rfl,Lf⟩,trivial⟩ ?_)
 rintro k ⟨BK,AL⟩
 refine ac ?_
 refine Tr.seq ?_
 refine Tr.cn rfl ?_ ?_<;>intro h1 q1
 have Aa:k<(l).length:=AH h1
 obtain ⟨i,AX⟩:=at_ Aa
 have jA:=QK AL AX
 have hlg:=k9 AA AL
 refine ac ?_
 refine Tr.seq (Tr.block (Tr.seq (Tr.Ah (co rfl (AD rfl underlying51 Bg vq vq AA (Ac AX)) ?_))))
 refine ac ?_
 refine ag ?_ ?_<;>intro h2 q2
 refine ac ?_
 refine wk [26,12,11,10,9,6,0] rfl ?_
 refine ac ?_
 refine Tr.ret (Fin.AG (Fin.Ag (Fin.AG (Fin.AG (Fin.Ag (Fin.AG (Fin.DO rfl (Bm.Dw _ _) rfl ?_ rfl ?_)))))))
 · exact fJ
 · exact Yx
 refine ac ?_
 refine wk [26,12,11,10,9,6,0] rfl ?_
 refine Tr.cn rfl ?_ ?_<;>intro h3 q3
 refine ac ?_
 refine Tr.ret (Fin.AG (Fin.Ag (Fin.AG (Fin.AG (Fin.Ag (Fin.AG (Fin.DO rfl (Bm.Dw _ _) rfl ?_ rfl ?_)))))))
 · exact fJ
 · exact Yx
 refine a2 ?_
 refine co rfl (Hw (b:=1#32) rfl vq vq AA) ?_
 refine co rfl (KF rfl vq vq) ?_
 refine a2 ?_
 refine wk [12,11,10,7,6,0] rfl ?_
 refine ac ?_
 exact Fin.AM (k+1) ⟨⟨Aa,Bo AL (by rw [jA];simp;omega)⟩,by omega⟩ ⟨⟨_,rfl,AF k⟩,⟨_,rfl,int_eq (by rw [Xe AX])⟩,⟨_,rfl,Pr.le_of_eq (congrArg u32 (YG AX).symm)⟩,kz⟩
 have Az:k=(l).length:=by have:=AJ h1;omega
 subst Az
 have hsb:DN ((n:Nat):Int) l=true:=Br.2 AL
 refine a2 ?_
 refine Tr.ret (Fin.DO rfl (Bm.Dw _ _) rfl ?_ rfl ?_)
 · rw [show rdB n l=MU l from if_pos hsb,List.take_length];exact Lr
 · refine bool_eq ?_;exact hsb.symm
theorem vi {B:List (BitVec 32)} {s y:BitVec 32} {x:Nat} (h:x∈Lb s) (hy:B[x]? =some y) (hn:(y&&&~~~s==0#32)=false):UC B s=false:=by
 unfold UC
 rw [List.all_eq_false]
 exact ⟨x,h,by rw [List.getD_eq_getElem?_getD,hy];simpa using hn⟩
theorem qo {B:List (BitVec 32)} {s:BitVec 32} (h:qm B s (Lb s)):UC B s=true:=by
 unfold UC
 exact List.all_eq_true.2 h
theorem dJ {n:Nat} {B:List (BitVec 32)} {p:Pr} [One p] {s:BitVec 32} (hB:B.length=n) (hs:∀i,s.getLsbD i=true→i<n):BR prog 138 [ref [int ((n:Nat):Int),bits B,p],u32 s] (bool (UC B s)) (DI) (fun _=>DI):=by
 refine BR.ofM func138 rfl rfl Al fun M0 w0 S rs M1 w1=> ?_
 refine Tr.seq (Tr.A0 (tp rfl (Cq rfl (Vo rfl)) (tp rfl (Cq rfl (Vo rfl)) ?_)))
 refine Tl rfl rfl rfl rfl z4 zo4 (fun b1=> ?_)
 refine TO.nil (Fin.go (Tr.seq (Tr.seq (Tr.A0 (tp rfl (GI rfl Fe rfl) (TO.pad ?_))))))
 refine TO.Ef 0 rfl rfl AB (HA rfl rfl AB rfl (kj) ⟨ke rfl,trivial⟩) (fun v1=> ?_)
 refine TO.nil (Fin.shape 7 (fun b=>kg b) rfl (fun fb2 fe2=> ?_))
 subst fe2
 refine Fin.HH 0 (AE true fb2 Q3 [_]) rfl rfl (Fin.go (Tr.block (Tr.Z3 (p:=qm B s []) (fun i h=>(by cases h)) ?_)))
 refine Tr.jw 5 [(2,_),(3,_),(4,_)] ⟨ke rfl,ke rfl,ke rfl,trivial⟩ (fun pre (_:Unit)=>B0 (qm B s pre)::AE true b1 4 [bool false]::Ak M1 w1::rs) (fun pre (_:Unit)=>B0 (UC B s=false)::AE true b1 4 [bool false]::Ak M1 w1::rs) () (T6 (s:=s)) T7 (vl rfl) ((Cl (j:=3) rfl).trans (List.Perm.cons _ ((Cl (j:=1) rfl).trans (List.Perm.cons _ (List.Perm.refl _))))) rfl Al ?_ ?_ ?_ ?_
 rintro lk Dk rk Mr wr pre x _ hpre
 refine Tr.Ah (cm rfl (Ch.nil (Fin.st ⟨ke rfl,ke rfl,ke rfl,ke rfl,trivial⟩)))
 rintro lk Dk rk Mr wr pre x _ hpre
 have hsx:s.getLsbD x=true:=KJ.1 (k6 hpre)
 obtain ⟨y,hy⟩:=at_ (l:=B) (k:=x) (by have:=hs x hsx;omega)
 refine Tr.block (Tr.seq (Tr.Wi mixed BS (co rfl (GI rfl JU rfl) (co rfl (Iu rfl (vl rfl)) (co rfl (ZM rfl IU rfl rfl) (co rfl (GI rfl JV rfl) (cm rfl (co rfl (AD rfl underlying232 FW (vl rfl) (vl rfl) AA (Qk hy)) (co rfl (GI rfl Fe rfl) (co rfl (GI rfl Fe rfl) (co rfl (Jo rfl (vl rfl) (vl rfl)) (co rfl (jk rfl (vl rfl) (vl rfl)) (Ch.nil (Fin.go ?_))))))))))))))
 refine Ki 4 18 rfl ?_
 refine Tr.cn rfl ?_ ?_<;>intro h1 q1
 refine Tr.seq (Tr.A0 (TO.Aj 6 rfl rfl rfl (vl rfl) (Vo rfl) rfl gF rfl rfl (TO.nil (Fin.go (Tr.ret (Fin.Ag (Fin.jx 5 rfl (q:=UC B s=false) (fun _=>vi (KJ.2 hsx) hy Cc) ?_)))))))
 exact Fin.vM () (List.Perm.refl _)
 refine Tr.skip (Fin.block ?_)
 refine Fin.jx 5 rfl (q:=qm B s (pre++[x])) (fun h i hi=>by rcases List.mem_append.1 hi with hi|hi;exact h i hi;(rw [List.mem_singleton] at hi;subst hi;rw [List.getD_eq_getElem?_getD,hy];simp_all)) ?_
 exact Fin.rnd () (List.Perm.refl _)
 rintro lk Dk rk Mr wr _
 refine Fin.prop 5 rfl fun hok=>(Fin.drop 1 (Fin.drop 1 (Fin.drop 2 (Fin.drop 2 (Fin.block (Fin.go (Tr.seq (Tr.A0 (TO.Aj 2 rfl rfl rfl (vl rfl) (Vo rfl) rfl gF rfl rfl (TO.nil (Fin.go (Tr.ret (Fin.MK (List.perm_middle (l₁:=[_])) ?_)))))))))))))
 refine Fin.Tx (Fin.R5 (Fin.MK ((List.perm_middle (l₁:=[_])).symm) ?_))
 refine Fin.Cb [_] rfl (A7.sS 0 rfl rfl gG (Lr)) ?_ (fun _ _ _ _=>rfl)
 · exact bool_eq (qo hok).symm
 rintro lk Dk rk Mr wr pre _ hpre
 refine Fin.prop 5 rfl fun hno=>(Fin.drop 1 (Fin.drop 1 (Fin.drop 2 (Fin.drop 2 (Fin.Ag (Fin.AG (Fin.MK (List.perm_middle (l₁:=[_])) ?_)))))))
 refine Fin.Tx (Fin.R5 (Fin.MK ((List.perm_middle (l₁:=[_])).symm) ?_))
 refine Fin.Cb [_] rfl (A7.sS 0 rfl rfl gG (Lr)) ?_ (fun _ _ _ _=>rfl)
 · exact bool_eq hno.symm
theorem qp {s:BitVec 32}  :E2 (α:=Value) prog 180 [u32 s] [DI] (fun _=>True) (fun v=>Ae v (lens (((Lb s).map fun i:Nat=>(i:Int)).map (fun n=>[int n])).length)) (fun v=>[DI,BM 3 1 (((Lb s).map fun i:Nat=>(i:Int)).map (fun n=>[int n])) v]):=by
 refine E2.ofM func180 rfl rfl Al fun M0 w0 S rs M1 w1=> ?_
 refine ac ?_
 refine Tr.seq (Tr.A0 ?_)
 refine Tl rfl rfl rfl rfl z51 ACZ (fun b1=> ?_)
 refine ap ?_
 refine ap ?_
 refine TO.pad ?_
 refine TO.Ef 0 rfl rfl AB (HA rfl rfl AB rfl (kj) kz) (fun v1=> ?_)
 refine TO.nil (Fin.shape 6 (fun b=>kg b) rfl (fun fb2 fe2=> ?_))
 subst fe2
 refine Fin.HH 0 (AE true fb2 Q3 [_]) rfl rfl (Fin.go (Tr.block (Tr.IY 3 1 (Tr.HQ 2 [Ae (.slice none 0 0) (lens 0)] rfl ⟨Gg rfl,trivial⟩ (Tr.jd 4 _ (kk [3] rfl) (fun pre vr=>BM 3 1 ((pre.map fun i:Nat=>(i:Int)).map (fun n=>[int n])) vr::AE true b1 51 [Ae vr (lens ((pre.map fun i:Nat=>(i:Int)).map (fun n=>[int n])).length)]::Ak M1 w1::rs) (.slice none 0 0) (T6 (s:=s)) T7 (vl rfl) ((Cl (j:=3) rfl).trans (List.Perm.cons _ ((Cl (j:=1) rfl).trans (List.Perm.cons _ (List.Perm.refl _))))) rfl Al ?_ ?_ ?_)))))
 rintro lk Dk rk Mr wr pre x vr hpre
 refine ac ?_
 exact Fin.st ⟨ke rfl,kz⟩
 rintro lk Dk rk Mr wr pre x vr hpre
 have hpl:(pre++[x]).length≤32:=Nat.le_trans hpre.length_le (qg s)
 rw [List.length_append,List.length_cons,List.length_nil] at hpl
 refine Tr.block (Tr.A0 (TO.rd 6 rfl rfl rfl AB (Ay rfl gK (vl rfl) rfl) ?_))
 refine ap ?_
 refine TO.Ef 5 rfl rfl AB (Fg rfl rfl AB rfl underlying51 Bg J_ z3 rfl AB AB (vl rfl) (Kf rfl) (BL fun _=>rfl) (Nat.zero_lt_succ _) Kv Kw) (fun v2=> ?_)
 refine TO.Aj 6 rfl rfl rfl (vl rfl) (Vo rfl) rfl tU rfl rfl ?_
 refine ap ?_
 rw [show (pre.map fun i:Nat=>(i:Int)).map (fun n=>[int n])++[[int ((x:Nat):Int)]]=((pre++[x]).map fun i:Nat=>(i:Int)).map (fun n=>[int n]) by rw [List.map_append,List.map_append];rfl]
 refine Fin.HQ 6 [Ae v2 (lens (((pre++[x]).map fun i:Nat=>(i:Int)).map (fun n=>[int n])).length)] rfl ⟨C0 AO,trivial⟩ (Fin.rnd v2 (List.Perm.refl _))
 rintro lk Dk rk Mr wr vr
 refine Fin.drop 1 (Fin.drop 1 (Fin.drop 2 ?_))
 refine ac ?_
 refine Tr.seq (Tr.Ah (Ch.op rfl rfl Al (CY 3 rfl (Ay rfl gK (vl rfl) rfl)) (Ch.op rfl rfl Al (BX rfl (vl rfl)) ?_)))
 refine ac ?_
 refine Tr.ret (Fin.MK (List.perm_middle (l₁:=[_])) ?_)
 refine Fin.Tx (Fin.R5 (Fin.drop 2 (Fin.Rl (vr) rfl (A7.tmp rfl Lr) trivial ?_ (List.Perm.refl _))))
 · exact Lr
def FT (n:Int) (l:List BH) (s:List Int):Int:=if Am n l≠0 then Am n l else if DN n s=true∧CH l s=true then 0 else 46
def FB (n:Int) (l:List BH) (s:List Int):List Int:=if FT n l s=0 then EM n.toNat l s true else []
theorem sj {n:Int} {l:List BH} {s:List Int} (h:Am n l≠0):FT n l s=Am n l:=by unfold FT;rw [if_pos h]
theorem YI {n:Int} {l:List BH} {s:List Int} (h:Am n l=0) (hn:¬(DN n s=true∧CH l s=true)):FT n l s=46:=by unfold FT;rw [if_neg (not_not_intro h),if_neg hn]
theorem k_ {n:Int} {l:List BH} {s:List Int} (h:Am n l=0) (hs:DN n s=true) (hc:CH l s=true):FT n l s=0:=by unfold FT;rw [if_neg (not_not_intro h),if_pos ⟨hs,hc⟩]
theorem UD {n:Int} {l:List BH} {s:List Int} {e:Int} (h:FT n l s=e) (he:e≠0):FB n l s=[]:=by unfold FB;rw [if_neg G1]
theorem vk {n:Int} {l:List BH} {s:List Int} {b:BitVec 32} (h:FT n l s=0) (hv:Am n l=0) (hs:H8 n.toNat b s) (hc:CH l s=true):(Lb (H_ (Dz n.toNat l) b n.toNat)).map (fun i:Nat=>(i:Int))=FB n l s:=by
 unfold FB
 rw [if_pos h]
 have hn:=(CV hv).1
 exact (kZ (fun j=>aK hv hs hc j) AA).symm
theorem Ot {n:Nat} {s:List Int} (hn:n≤32) (h:DN (n:Int) s=true):H8 n (rdB n s) s:=by
 rw [show rdB n s=MU s from if_pos h];exact YH hn (MV h)
theorem dK {n:Int} {l:List BH} {s:List Int}  :E2 (α:=Value) prog 132 [int n,reqs l,ints s,fn (.func 153) []] [DI] (fun _=>True) (fun v=>F8 [Ae v (lens ((FB n l s).map (fun n=>[int n])).length),int (FT n l s)]) (fun v=>[DI,BM 3 1 ((FB n l s).map (fun n=>[int n])) v]):=by
 refine E2.of func132 rfl rfl Al fun M0 w0 S rs M1 w1=> ?_
 refine ac ?_
 refine ap ?_
 refine TO.EV 0 rfl rfl AB (AU rfl rfl AB rfl (UB (n:=n) (l:=l)) ⟨kq,kz⟩) ?_
 refine ap ?_
 refine an ?_ ?_<;>intro h1 q1
 have hv:Am n l≠0:=by simpa using h1
 refine ac ?_
 refine wk [9,8] rfl (Tr.ret (Fin.AG ?_))
 have hno:=UD (sj (s:=s) hv) hv
 refine Fin.IY 3 1 (Fin.JY ?_)
 refine Fin.HH 1 (BM 3 1 ((FB n l s).map (fun n=>[int n])) (.slice none 0 0)) rfl OO ?_
 refine Fin.Nu ((.slice none 0 0)) rfl (A7.tmp rfl Lr) (A7.tmp rfl Lr) trivial ?_ (List.Perm.refl _)
 · exact DB ⟨Gg OO,int_eq (sj (s:=s) hv).symm,trivial⟩
 have hv:Am n l=0:=by simpa using h1
 have Ld:=(CV hv).1
 obtain ⟨N,rfl⟩:∃N:Nat,n=(N:Int):=⟨n.toNat,by omega⟩
 refine Tr.re 10 rfl (Pr.le_of_eq (T9 hv)) ?_
 refine a2 ?_
 refine co rfl (C4 (qn (n:=N) (B:=Dz N l) (l:=s) AA) rfl rfl rfl) ?_
 refine ac ?_
 refine wk [13,12,10,3] rfl ?_
 refine ap ?_
 refine TO.cases 31 rfl (fun h2=> ?_) (fun h2=> ?_)
 have q2:=Df.EA h2
 have h46:FT (N:Int) l s=46:=YI hv (by rintro ⟨g1,g2⟩;simp_all)
 iterate 4 refine TO.RD rfl rfl rfl (Ub h2) rfl AB ?_
 refine ap ?_
 refine ac ?_
 refine wk [9,8] rfl (Tr.ret (Fin.AG ?_))
 have hno:=UD h46 AB
 refine Fin.IY 3 1 (Fin.JY ?_)
 refine Fin.HH 1 (BM 3 1 ((FB ((N:Nat):Int) l s).map (fun n=>[int n])) (.slice none 0 0)) rfl OO ?_
 refine Fin.Nu ((.slice none 0 0)) rfl (A7.tmp rfl Lr) (A7.tmp rfl Lr) trivial ?_ (List.Perm.refl _)
 · exact Y3
 have q2:=Df.EA h2
 have hsb:DN ((N:Nat):Int) s=true:=by simpa using h2
 refine TO.UR rfl rfl rfl h2 rfl AB (Bw rfl vq) (TO.UR rfl rfl rfl h2 rfl AB (Bw rfl vq) ?_)
 refine TO.gr 0 rfl rfl rfl h2 rfl rfl AB (AU rfl rfl AB rfl (dJ (n:=N) (Cg N l) (fun i h=>ql (Ot AA hsb) hsb h)) ⟨kq,kz⟩) ?_
 refine TO.UR rfl rfl rfl h2 rfl AB (F9 rfl vq) ?_
 refine ap ?_
 refine Tr.cn rfl ?_ ?_<;>intro h3 q3
 have h46:FT (N:Int) l s=46:=YI hv (by rintro ⟨g1,g2⟩;rw [←aN (n:=(N:Int)) hv (Ot AA g1) (MV g1)] at g2;simp_all)
 refine ac ?_
 refine wk [9,8] rfl (Tr.ret (Fin.AG ?_))
 have hno:=UD h46 AB
 refine Fin.IY 3 1 (Fin.JY ?_)
 refine Fin.HH 1 (BM 3 1 ((FB ((N:Nat):Int) l s).map (fun n=>[int n])) (.slice none 0 0)) rfl OO ?_
 refine Fin.Nu ((.slice none 0 0)) rfl (A7.tmp rfl Lr) (A7.tmp rfl Lr) trivial ?_ (List.Perm.refl _)
 · exact Y3
 have fY:CH l s=true:=by rw [←aN (n:=(N:Int)) hv (Ot AA hsb) (MV hsb)];simpa using h3
 have ha0:=k_ hv hsb fY
 have AAs:(Lb (H_ (Dz N l) (rdB N s) N)).map (fun i:Nat=>(i:Int))=FB (N:Int) l s:=vk ha0 hv (Ot AA hsb) fY
 refine ac ?_
 refine ap ?_
 refine tp rfl (gl rfl vq (show BD prog 153 ([_,_]++[]) _ from Vp (n:=N) (B:=Dz N l) (s:=rdB N s) (Cg N l) AA) ⟨kq,kz⟩) ?_
 refine TO.Nt _ rfl rfl AB rfl (qp) kz ((Cl (j:=0) rfl).trans (List.Perm.cons _ (List.Perm.refl _))) (fun x1 _=> ?_)
 refine ap ?_
 refine wk [9,8] rfl (Tr.ret (Fin.HH 1 (BM 3 1 ((FB ((N:Nat):Int) l s).map (fun n=>[int n])) x1) rfl (by rw [AAs]) (Fin.Nu (x1) rfl (A7.tmp rfl Lr) (A7.tmp rfl Lr) trivial ?_ (List.Perm.refl _))))
 · exact DB ⟨C0 (by rw [AAs]),int_eq ha0.symm,trivial⟩
theorem dL {n:Int} {l:List BH} {s:List Int}  :E2 (α:=Value) prog 117 [int n,reqs l,ints s] [DI] (fun _=>True) (fun v=>F8 [Ae v (lens ((FB n l s).map (fun n=>[int n])).length),int (FT n l s)]) (fun v=>[DI,BM 3 1 ((FB n l s).map (fun n=>[int n])) v]):=by
 refine E2.of func117 rfl rfl Al fun M0 w0 S rs M1 w1=> ?_
 refine ac ?_
 refine ap ?_
 refine TO.Nt _ rfl rfl AB rfl (dK (n:=n) (l:=l) (s:=s)) ⟨kq,kz⟩ ((Cl (j:=0) rfl).trans (List.Perm.cons _ (List.Perm.refl _))) (fun x1 _=> ?_)
 refine ap ?_
 refine Tr.ret (Fin.Nu (x1) rfl (A7.tmp rfl Lr) (A7.tmp rfl Lr) trivial ?_ (List.Perm.refl _))
 · exact Lr
def LU (n:Int) (l:List BH) (s:List Int):Int:=if Am n l≠0 then Am n l else if DN n s=true then 0 else 46
def RI (n:Int) (l:List BH) (s:List Int):Bool:=decide (Am n l=0)&&DN n s&&CH l s
theorem AAt {n:Int} {l:List BH} {s:List Int} (h:Am n l≠0):LU n l s=Am n l∧RI n l s=false:=by unfold LU RI;rw [if_pos h,decide_eq_false h];exact ⟨rfl,rfl⟩
theorem AAu {n:Int} {l:List BH} {s:List Int} (h:Am n l=0) (hs:DN n s=false):LU n l s=46∧RI n l s=false:=by unfold LU RI;rw [if_neg (not_not_intro h),if_neg (by rw [hs];decide),hs];simp
theorem aO {n:Int} {l:List BH} {s:List Int} (h:Am n l=0) (hs:DN n s=true):LU n l s=0∧RI n l s=CH l s:=by unfold LU RI;rw [if_neg (not_not_intro h),if_pos hs,hs,decide_eq_true h];simp
abbrev C_ (l:List Bz):Pr:=slice 8 (l.map DP)
def Mi (c:Aq) (x:Bz):Bool:=decide (x.BJ<0)||decide (x.BJ≥c.D5.length)
def HV (c:Aq) (x:Bz):Int:=c.D5.getD x.BJ.toNat 0
def C3 (c:Aq) (l:List Bz):Int:=if 24<l.length then 3 else if l.any (Mi c) then 40 else 0
def Jz (c:Aq) (l:List Bz):List Int:=if C3 c l=0 then l.map (HV c) else []
open Classical in
noncomputable def Cj (e:FQ) (c:Aq) (l:List Bz):Int:=if HT e=false then 31 else if c.check (e.Dy.length:Nat)≠0 then c.check (e.Dy.length:Nat) else C3 c l
noncomputable def dM (e:FQ) (c:Aq) (l:List Bz):List Int:=if Cj e c l=0 then l.map (HV c) else []
theorem Ou {c:Aq} {l:List Bz} (h:24<l.length):C3 c l=3:=by unfold C3;rw [if_pos h]
theorem UX {c:Aq} {l:List Bz} {k:Nat} {x:Bz} (h:¬24<l.length) (hx:l[k]? =some x) (hb:Mi c x=true):C3 c l=40:=by unfold C3;rw [if_neg h,if_pos (List.any_eq_true.2 ⟨x,List.mem_of_getElem? hx,hb⟩)]
theorem Sa {c:Aq} {l:List Bz} (h:¬24<l.length) (hb:∀j y,j<l.length→l[j]? =some y→Mi c y=false):C3 c l=0:=by
 unfold C3;rw [if_neg h,if_neg]
 rw [Bool.not_eq_true,List.any_eq_false]
 intro y hy
 obtain ⟨j,hj⟩:=List.mem_iff_getElem?.1 hy
 rw [hb j y WY hj];decide
theorem O_ {c:Aq} {l:List Bz} {e:Int} (h:C3 c l=e) (he:e≠0):Jz c l=[]:=by unfold Jz;rw [if_neg G1]
theorem PF {c:Aq} {l:List Bz} (h:C3 c l=0):Jz c l=l.map (HV c):=by unfold Jz;rw [if_pos h]
theorem lA {c:Aq} {x:Bz} (h:0≤x.BJ∧x.BJ<c.D5.length):c.D5[x.BJ.toNat]? =some (HV c x):=by
 unfold HV;rw [List.getD_eq_getElem?_getD,List.getElem?_eq_getElem AA];rfl
theorem Vq {c:Aq} {l:List Bz} {k:Nat} {x:Bz} (h:l[k]? =some x):(((l.take k).map (HV c)).map fun n=>[int n])++[[int (HV c x)]]=((l.take (k+1)).map (HV c)).map fun n=>[int n]:=by
 rw [List.take_add_one,h,List.map_append,List.map_append];rfl
def Vr (l:List Int):Int:=l.foldl max (-1)
theorem Vs {c:Aq} {l:List Bz}  :BD prog 121 [GA c,C_ l] (F8 [ints (Jz c l),int (C3 c l)]):=by
 refine fo func121 rfl ⟨rfl,rfl⟩ fun M0 w0=>(Tr.CM 1 rfl fun Fz=>(Tr.D9 0 1 rfl rfl fun Ij=> ?_))
 refine ac ?_
 refine an ?_ ?_<;>intro h1 q1
 refine ac ?_
 refine Tr.ret (Fin.AG (Fin.DO rfl (Bm.Dw _ _) rfl ?_ rfl ?_))
 · rw [O_ (Ou AA) AB];exact Ai 1
 · refine int_eq ?_;exact (Ou AA).symm
 refine a3 ?_
 refine Tr.block (Tr.CB 3 1 (Tr.Ez _ (kk [13,12,2] rfl) (fun k v=>[(14,int ((k:Nat):Int)),(6,Ae v (ints ((l.take k).map (HV c))))]) (fun k v=>Hp M0 w0 II ([As 3 1 v])) (fun k:Nat=>k≤(l).length∧(∀j y,j<k→l[j]? =some y→Mi c y=false)) (fun k:Nat=>(l).length-k) 0 (.slice none 0 0) (⟨Nat.zero_le _,fun j y hj=>absurd hj AA⟩) ⟨kq,⟨_,rfl,Bu rfl⟩,trivial⟩ (fun _ _ h=>h) ?_))
 rintro k v ⟨BK,AL⟩
 refine ac ?_
 refine Tr.seq ?_
 refine Tr.cn rfl ?_ ?_<;>intro h2 q2
 have Aa:k<(l).length:=AH h2
 obtain ⟨x,AX⟩:=at_ Aa
 refine ac ?_
 refine Tr.seq (Tr.block (Tr.seq (Tr.A0 (tp rfl (AD rfl underlying32 Be vq vq AA (Ac AX)) (tp rfl (AK rfl CT Be vq rfl rfl) ?_)))))
 refine Tl rfl rfl rfl rfl Km Gz (fun b1=> ?_)
 refine sf 0 8 ⟨rfl,rfl,rfl⟩ rfl rfl rfl rfl ?_
 refine ao ?_
 refine ag ?_ ?_<;>intro h3 q3
 refine ac ?_
 refine wk [28,14,13,12,8,6,2] rfl ?_
 refine ac ?_
 refine Tr.ret (Fin.AG (Fin.Ag (Fin.AG (Fin.AG (Fin.Ag (Fin.AG (Fin.DO rfl (Bm.Dw _ _) rfl ?_ rfl ?_)))))))
 · exact SW
 · exact SY
 refine ac ?_
 refine wk [28,14,13,12,8,6,2] rfl ?_
 refine Tr.cn rfl ?_ ?_<;>intro h4 q4
 refine ac ?_
 refine Tr.ret (Fin.AG (Fin.Ag (Fin.AG (Fin.AG (Fin.Ag (Fin.AG (Fin.DO rfl (Bm.Dw _ _) rfl ?_ rfl ?_)))))))
 · exact SW
 · exact SY
 have htm:=lA (c:=c) (x:=x) AA
 refine ac ?_
 refine ao ?_
 refine tp rfl (AD rfl underlying22 Bg vq vq AA (Bt htm)) ?_
 refine ao ?_
 refine TO.Ef 0 rfl rfl AB (CN rfl rfl rfl rfl underlying22 Bg J_ z3 KR Gx (BQ BI Oc)) (fun v1=> ?_)
 refine ao ?_
 refine wk [14,13,12,6,2] rfl ?_
 refine ac ?_
 exact Fin.Dm (k+1) v1 (⟨⟨Aa,CJ (p:=Mi c) AX fD AL⟩,by omega⟩) ⟨⟨_,rfl,AF k⟩,⟨_,rfl,BU (Vq AX)⟩,kz⟩ (fun _ _ h=>h)
 have Az:k=(l).length:=by have:=AJ h2;omega
 subst Az
 refine a2 ?_
 refine Tr.ret (Fin.DO rfl (Bm.Dw _ _) rfl ?_ rfl ?_)
 · exact fH
 · refine int_eq ?_;exact (Sa AA AL).symm
theorem Vt {e:FQ} {c:Aq} {l:List Bz} (hf:e.fits):BD prog 98 [agg (Hv e),GA c,C_ l] (F8 [ints (dM e c l),int (Cj e c l)]):=by
 refine fo func98 rfl ⟨rfl,rfl⟩ fun M0 w0=>(Tr.D9 0 0 rfl rfl fun EK=> ?_)
 refine a2 ?_
 refine co rfl (C8 (jI hf) rfl rfl) ?_
 refine an ?_ ?_<;>intro h1 q1
 have hb:HT e=false:=by cases h_:HT e with|false=>rfl|true=>exact absurd h1 (by rw [h_];decide)
 have Jk:Cj e c l=31:=by unfold Cj;rw [if_pos hb]
 refine ac ?_
 refine Tr.ret (Fin.AG (Fin.DO rfl (Bm.Dw _ _) rfl ?_ rfl ?_))
 · refine Pr.le_trans (Ai 1) (Pr.le_of_eq ?_);unfold dM;rw [if_neg (by rw [Jk];decide)];rfl
 · refine int_eq ?_;exact Jk.symm
 have hb:¬HT e=false:=by intro h_;rw [h_] at h1;exact absurd h1 AB
 refine a2 ?_
 refine co rfl (C4 (Tv (c:=c) (m:=((e.Dy.length:Nat):Int))) rfl rfl rfl) ?_
 refine a2 ?_
 refine wk [18,8,4,2] rfl ?_
 refine Tr.cn rfl ?_ ?_<;>intro h2 q2
 have Jk:Cj e c l=c.check ((e.Dy.length:Nat):Int):=by unfold Cj;rw [if_neg hb,if_pos G2]
 refine ac ?_
 refine Tr.ret (Fin.AG (Fin.DO rfl (Bm.Dw _ _) rfl ?_ rfl ?_))
 · refine Pr.le_trans (Ai 1) (Pr.le_of_eq ?_);unfold dM;rw [if_neg (by rw [Jk];simp_all)];rfl
 · refine int_eq ?_;exact Jk.symm
 have Jk:Cj e c l=C3 c l:=by unfold Cj;rw [if_neg hb,if_neg G2]
 refine a2 ?_
 refine co rfl (C4 (Vs (c:=c) (l:=l)) rfl rfl rfl) ?_
 refine ac ?_
 refine Tr.ret (Fin.DO rfl (Bm.Dw _ _) rfl ?_ rfl ?_)
 · refine Pr.le_of_eq ?_;unfold dM Jz;rw [Jk]
 · refine int_eq ?_;exact Jk.symm
theorem UE {p q:Pr} [One p] [One q] {l:List Int}  :BD prog 59 [agg [p,q,ints l]] (int (Vr l)):=by
 refine fo func59 rfl ⟨rfl,rfl⟩ fun M0 w0=>(Tr.D9 0 2 rfl rfl fun KE=> ?_)
 refine a3 ?_
 refine Tr.block (Tr.Ax _ (kk [8,7] rfl) (fun k:Nat=>[(9,int ((k:Nat):Int)),(3,int ((l.take k).foldl max (-1)))]) (fun k:Nat=>k≤(l).length) (fun k:Nat=>(l).length-k) 0 (Nat.zero_le _) ⟨kq,kz⟩ ?_)
 rintro k BK
 refine ac ?_
 refine Tr.seq ?_
 refine Tr.cn rfl ?_ ?_<;>intro h1 q1
 have Aa:k<(l).length:=AH h1
 obtain ⟨x,AX⟩:=at_ Aa
 refine ac ?_
 refine Tr.seq (Tr.block (Tr.seq (Tr.Ah (co rfl (AD rfl underlying22 Bg vq vq AA (Ac AX)) ?_))))
 refine a2 ?_
 refine co rfl (JM rfl vq vq) ?_
 refine a2 ?_
 exact Fin.AM (k+1) ⟨Aa,by omega⟩ ⟨⟨_,rfl,AF k⟩,⟨_,rfl,int_eq Y6⟩,kz⟩
 have Az:k=(l).length:=by have:=AJ h1;omega
 subst Az
 rw [List.take_length]
 refine a3 ?_
 · exact Lr
theorem dN {l:List BH} (h0:l≠[]) (hl:l.length≤1000000):BR prog 154 [reqs l] (lens (l.map Ml).length) (Bb) (fun v=>DE 61 2 (l.map Ml) v):=by
 refine BR.of func154 rfl rfl Al fun M0 w0 S rs M1 w1=> ?_
 have hpos:=MD (f:=Ml) h0
 refine a2 ?_
 refine co rfl (FJ rfl underlying33 vq) ?_
 refine ac ?_
 refine Tr.ex 4 rfl (fun z1=>Tr.fact 4 rfl fun G8=> ?_)
 refine Tr.cn rfl ?_ ?_<;>intro h1 q1
 exfalso;have:=G8 h1;simp_all
 refine ac ?_
 refine ap ?_
 refine TO.pad ?_
 refine TO.Ef 0 rfl rfl AB (IW rfl rfl AB rfl underlying33 B5 TI Ob rfl AB AB vq vq hpos Mn Da) (fun v1=> ?_)
 refine ap ?_
 refine Tr.ret (Fin.drop 1 ?_)
 refine Fin.E7 rfl rfl ?_ Ll
 · exact G3
theorem dO   :BD prog 154 [slice 2 []] (full 2 []):=by
 refine fo func154 rfl ⟨rfl,rfl⟩ fun M0 w0=> ?_
 refine a2 ?_
 refine co rfl (FJ rfl underlying33 vq) ?_
 refine ac ?_
 refine Tr.ex 4 rfl (fun z1=>Tr.fact 4 rfl fun G8=> ?_)
 · repeat' first|exact FI 2|exact Lr|refine co rfl (L_ rfl underlying33 B5 vq vq) ?_|refine ac ?_|(refine Tr.cn rfl ?_ ?_<;>intro h q)
theorem dP {l:List BH} (hl:l.length≤1000000):BD Tryz.prog 154 [reqs l] (reqs l):=by
 by_cases h0:l=[]
 · subst h0;exact BD.le dO (fun _ _ _ h=>h) (BA _ _)
 · exact (BR.yu (rows:=l.map Ml) (BL fun _=>rfl) (dN h0 hl)).pure
theorem lB {l:List Bz} {r:List BH} {d:List Int} (WA:∀x∈l,x.HS.small) (hl:l.length≤1000000) (hr:r.length≤1000000) (hd:d.length≤1000000):Tg prog 100 [agg [C_ l,reqs r,ints d]] (fun x=>agg [C_ l,reqs r,is x]) (fun x=>[Bc 3 1 (d.map fun n=>[int n]) x]):=by
 refine Tg.of func100 rfl rfl Al fun M0 w0 S rs M1 w1=>(Tr.D9 0 0 rfl rfl fun EK=>(Tr.seq (Tr.A0 (tp rfl (Cq rfl (Va rfl)) ?_))))
 refine Tl rfl rfl rfl rfl z35 I_ (fun b1=> ?_)
 refine ao ?_
 refine Tr.seq (Tr.pad (Tr.pad (Tr.pad (Tr.rx ?_))))
 refine ax ?_
 refine xo rfl (fun _=>C8 (dP hr) rfl rfl) ?_
 refine ax ?_
 refine Cx.ef 0 rfl rfl AB (HA rfl rfl AB rfl (bp (l:=d) hd) kz) ?_
 refine Cx.ef 1 rfl rfl AB (Z5 (d:=12) (s:=11) (p:=fun v=>agg [is (.slice none 0 0),reqs r,Ae v (lens d.length)]) (q:=agg [is (.slice none 0 0),reqs r,lens d.length]) rfl AB (fun _=>Bv ⟨Lr,Lr,A_ _ _,trivial⟩) rfl rfl AB (fun v=>Xm rfl rfl AB (fun _=>Ar (rows:=[(1,[_]),(2,[_])]) rfl Wv I_ ⟨⟨rfl,VL.le (vl rfl) (AP _)⟩,⟨⟨rfl,VL.le (vl rfl) (AP _)⟩,trivial⟩⟩ rfl))) (Cx.ef 2 rfl rfl AB (Gb rfl rfl AB rfl z35 I_) (Cx.Ee 2 rfl rfl (R7 rfl rfl rfl AB rfl rfl (AW _) Ci rfl rfl) ?_))
 refine Cx.nil ⟨by kernel_rfl,?_⟩
 refine BW.mZ 11 rfl (fun v11=> ?_)
 refine BW.mZ 12 rfl (fun v12=> ?_)
 refine BW.mZ 3 rfl (fun v3=> ?_)
 refine BW.qM 0 11 rfl rfl (BW.jt 1 12 11 rfl rfl rfl (BW.jt 2 3 12 rfl rfl rfl (BW.done al5 (Fin.shape 3 (fun b=> .pointer (some ⟨b,0,none⟩)) rfl (fun b9 e9=> ?_)))))
 subst e9
 refine Fin.VV 1 2 rfl rfl (Fin.drop 1 (Fin.go (wk [3,2,1] rfl ?_)))
 refine ac ?_
 refine Tr.block (Tr.HQ 1 [Ae (.slice none 0 0) (C_ (l.take 0)),reqs r,Ae v11 (lens d.length)] rfl ⟨Bu rfl,Lr,Lr,trivial⟩ (Tr.CB 86 8 (Tr.Ez _ (kk [15,14,3,2] rfl) (fun k u=>[(16,int ((k:Nat):Int))]) (fun k u=>Hp M0 w0 S (As 86 8 u::Bc 3 1 (d.map fun n=>[int n]) v11::AE true b9 35 [Ae u (C_ (l.take k)),reqs r,Ae v11 (lens d.length)]::AE true b1 35 (([.slice none 0 0,.slice none 0 0,.slice none 0 0]:List Value).map is)::Ak M1 w1::rs)) (fun k:Nat=>k≤(l).length) (fun k:Nat=>(l).length-k) 0 (.slice none 0 0) (Nat.zero_le _) kz (fun _ _ h=>h) ?_)))
 rintro k u BK
 refine ac ?_
 refine Tr.seq ?_
 refine Tr.cn rfl ?_ ?_<;>intro h1 q1
 have Aa:k<(l).length:=AH h1
 obtain ⟨x,AX⟩:=at_ Aa
 refine ac ?_
 refine Tr.seq (Tr.block (Tr.seq (Tr.A0 (tp rfl (AD rfl underlying32 Be (vl rfl) (vl rfl) AA (Ac AX)) (tp rfl (AK rfl CT Be (vl rfl) rfl rfl) ?_)))))
 refine Tl rfl rfl rfl rfl Km Gz (fun b10=> ?_)
 refine sf 0 5 ⟨rfl,rfl,rfl⟩ rfl rfl rfl rfl ?_
 refine ao ?_
 refine Tr.pad (Tr.rx ?_)
 refine ax ?_
 refine xo rfl (fun _=>C8 (pI (c:=x) (WA x (List.mem_of_getElem? AX))) rfl rfl) ?_
 refine xo rfl (fun _=>AQ (xs:=[.tmp 23]) (rows:=[_]) rfl rfl underlying32 Be Km rfl AB ⟨⟨Ab,(Va rfl)⟩,trivial⟩ AB) ?_
 refine Cx.ef 1 rfl rfl AB (CN rfl rfl rfl rfl underlying32 Be TL Km (Kb rfl) (Kf rfl) (BQ BI (Ka rfl))) ?_
 refine xo rfl (fun _=>AY rfl IQ (vl rfl)) (Cx.Ee 3 rfl rfl (Ga rfl rfl rfl (vl rfl) rfl xx Al) ?_)
 refine Cx.nil ⟨by kernel_rfl,?_⟩
 refine BW.Rc 1 3 25 rfl rfl AB rfl (fun v1=> ?_)
 refine BW.done al6 ?_
 refine ac ?_
 refine Tr.drop 0 (wk [16,15,14,3,2] rfl ?_)
 refine ac ?_
 refine Fin.HQ 2 [Ae v1 (C_ (l.take (k+1))),reqs r,Ae v11 (lens d.length)] rfl ⟨BU Y8,Lr,Lr,trivial⟩ ?_
 exact Fin.Dm (k+1) v1 (⟨Aa,by omega⟩) ⟨⟨_,rfl,AF k⟩,kz⟩ (fun _ _ h=>h)
 have Az:k=(l).length:=by have:=AJ h1;omega
 subst Az
 rw [List.take_length]
 refine ac ?_
 refine ao ?_
 refine TO.Aj 3 rfl rfl rfl (vl rfl) (Va rfl) rfl Ci rfl rfl ?_
 refine ao ?_
 refine Tr.ret (Fin.drop 0 (Fin.drop 1 (Fin.JY (Fin.yy v11 [_] rfl (A7.cell 0 rfl rfl C5 Ci rfl Lr) ?_ (List.Perm.refl _)))))
 · exact Bv ⟨A_ _ _,Lr,EU _ _,trivial⟩
noncomputable def Le (c:Aq) (l:List Bz) (r:List BH) (fr:Int):Option (List Int×List Int×List Int):=LS c r (l.map (HV c)) fr l.length (Bj l.length r l.length).1
open Classical in
noncomputable def Gu (e:FQ) (c:Aq) (l:List Bz) (r:List BH) (fr:Int):Int:=if Cj e c l≠0 then Cj e c l else if Am (l.length:Nat) r≠0 then Am (l.length:Nat) r else match Le c l r fr with|none=>51|some _=>0
noncomputable def RJ (c:Aq) (l:List Bz) (r:List BH) (fr:Int):List Int:=match Le c l r fr with|none=>[]|some p=>p.1
open Classical in
noncomputable def RK (e:FQ) (c:Aq) (l:List Bz) (r:List BH) (fr:Int):List Bz:=if Gu e c l r fr=0 then l else []
open Classical in
noncomputable def Vu (e:FQ) (c:Aq) (l:List Bz) (r:List BH) (fr:Int):List BH:=if Gu e c l r fr=0 then r else []
open Classical in
noncomputable def Vv (e:FQ) (c:Aq) (l:List Bz) (r:List BH) (fr:Int):List Int:=if Gu e c l r fr=0 then RJ c l r fr else []
noncomputable abbrev Vw (e:FQ) (c:Aq) (l:List Bz) (r:List BH) (fr:Int):List Pr:=[C_ (RK e c l r fr),reqs (Vu e c l r fr),ints (Vv e c l r fr)]
section
variable {e:FQ} {c:Aq} {l:List Bz} {r:List BH} {fr:Int}
theorem lC (h:Cj e c l=0):HT e=true∧c.check (e.Dy.length:Nat)=0∧C3 c l=0:=by
 unfold Cj at h
 cases hb:HT e with
 |false=>rw [if_pos hb] at h;cases h
 |true=>
  rw [if_neg (by rw [hb];decide)] at h
  by_cases hc:c.check (e.Dy.length:Nat)=0
  · rw [if_neg (not_not_intro hc)] at h;exact ⟨rfl,hc,h⟩
  · rw [if_pos hc] at h;exact absurd h hc
theorem sk (h:Cj e c l=0):dM e c l=l.map (HV c):=by unfold dM;rw [if_pos h]
theorem KM {n:Int} (h:c.check n=0):c.own=0∧(c.D5.length:Int)=n∧∀t∈c.D5,c.has t=true:=by
 have h':=h
 unfold Aq.check at h
 split at h
 · cases h
 ·
  split at h
  · cases h
  ·
   split at h
   · cases h
   ·
    split at h
    · cases h
    ·
     split at h
     · cases h
     ·
      split at h
      · cases h
      ·
       rename_i _ _ _ _ _ h6
       rw [not_or,Classical.not_not,Bool.not_eq_true,List.any_eq_false] at h6
       refine ⟨by unfold Aq.own;rw [h6.1];exact h',h6.1,fun t ht=>by simpa using h6.2 t ht⟩
theorem Qn (h:C3 c l=0):l.length≤24∧∀x∈l,Mi c x=false:=by
 unfold C3 at h
 by_cases h1:24<l.length
 · rw [if_pos h1] at h;cases h
 ·
  rw [if_neg h1] at h
  refine ⟨by omega,fun x hx=> ?_⟩
  cases hb:Mi c x with
  |false=>rfl
  |true=>rw [if_pos (List.any_eq_true.2 ⟨x,hx,hb⟩)] at h;cases h
theorem UF (h:C3 c l=0) (ht:∀t∈c.D5,c.has t=true):∀x∈l.map (HV c),c.has x=true:=fun x hx=>by
 obtain ⟨y,hy,rfl⟩:=List.mem_map.1 hx
 have hb:=(Qn h).2 y hy
 unfold Mi at hb
 rw [Bool.or_eq_false_iff,decide_eq_false_iff_not,decide_eq_false_iff_not] at hb
 exact ht _ (List.mem_of_getElem? (lA AA))
theorem N6 (h:Cj e c l≠0):Gu e c l r fr=Cj e c l:=by unfold Gu;rw [if_pos h]
theorem aP (h:Cj e c l=0) (hv:Am (l.length:Nat) r≠0):Gu e c l r fr=Am (l.length:Nat) r:=by unfold Gu;rw [if_neg (not_not_intro h),if_pos hv]
theorem ez (h:Cj e c l=0) (hv:Am (l.length:Nat) r=0) (hs:Le c l r fr=none):Gu e c l r fr=51:=by unfold Gu;rw [if_neg (not_not_intro h),if_neg (not_not_intro hv),hs]
theorem aQ {p:List Int×List Int×List Int} (h:Cj e c l=0) (hv:Am (l.length:Nat) r=0) (hs:Le c l r fr=some p):Gu e c l r fr=0:=by unfold Gu;rw [if_neg (not_not_intro h),if_neg (not_not_intro hv),hs]
theorem lD (h:Gu e c l r fr≠0):RK e c l r fr=[]∧Vu e c l r fr=[]∧Vv e c l r fr=[]:=by unfold RK Vu Vv;rw [if_neg h,if_neg h,if_neg h];exact ⟨rfl,rfl,rfl⟩
theorem Vx (h:Gu e c l r fr=0):RK e c l r fr=l∧Vu e c l r fr=r∧Vv e c l r fr=RJ c l r fr:=by unfold RK Vu Vv;rw [if_pos h,if_pos h,if_pos h];exact ⟨rfl,rfl,rfl⟩
theorem Ky {k:Int} (h:Gu e c l r fr=k) (hk:k≠0):Pr.le (agg [is (.slice none 0 0),is (.slice none 0 0),is (.slice none 0 0)]) (agg (Vw e c l r fr)):=by
 obtain ⟨h1,h2,h3⟩:=lD (e:=e) (c:=c) (l:=l) (r:=r) (fr:=fr) (by rw [h];exact hk)
 unfold Vw;rw [h1,h2,h3];exact Bv ⟨Ai 8,Ai 2,Ai 1,trivial⟩
theorem aR {d b y:List Int} (h:Gu e c l r fr=0) (hs:Le c l r fr=some (d,b,y)):Pr.le (agg [C_ l,reqs r,ints d]) (agg (Vw e c l r fr)):=by
 obtain ⟨h1,h2,h3⟩:=Vx h
 unfold Vw;rw [h1,h2,h3];unfold RJ;rw [hs];exact Pr.le_refl _
theorem aS (h:Gu e c l r fr=0):Cj e c l=0∧Am (l.length:Nat) r=0∧∃d b y,Le c l r fr=some (d,b,y)∧RJ c l r fr=d:=by
 unfold Gu at h
 by_cases h1:Cj e c l=0
 ·
  rw [if_neg (not_not_intro h1)] at h
  by_cases h2:Am (l.length:Nat) r=0
  ·
   rw [if_neg (not_not_intro h2)] at h
   refine ⟨h1,h2,?_⟩
   unfold RJ
   cases hs:Le c l r fr with
   |none=>rw [hs] at h;cases h
   |some p=>exact ⟨p.1,p.2.1,p.2.2,rfl,rfl⟩
  · rw [if_pos h2] at h;exact absurd h h2
 · rw [if_pos h1] at h;exact absurd h h1
theorem Is {q:BH} {m:Nat} {d:List Int} {i:Int} (h:r[m]? =some q):Ec (r.take (m+1)) d i fr=if q.thn=i then max (Ec (r.take m) d i fr) (d.getD q.fst.toNat 0+1) else Ec (r.take m) d i fr:=by
 unfold Ec;rw [List.take_add_one,h,List.foldl_append];rfl
theorem DH {l:List Int} {i:Nat} (h:i<l.length):l[i]? =some (l.getD i 0):=by rw [List.getD_eq_getElem?_getD,List.getElem?_eq_getElem h];rfl
end
theorem Vy {e:FQ} {c:Aq} {l:List Bz} {r:List BH} {fr:Int} (hf:e.fits) (WA:∀x∈l,x.HS.small) (hrl:r.length≤1000000):BR prog 53 [agg (Hv e),GA c,C_ l,reqs r,int fr] (F8 [agg (Vw e c l r fr),int (Gu e c l r fr)]) (DI) (fun _=>DI):=by
 refine BR.of func53 rfl rfl Al fun M0 w0 S rs M1 w1=> ?_
 refine Tr.CM 3 rfl fun AAv=>(Tr.seq (Tr.A0 (tp rfl (Cq rfl LD) (tp rfl (Cq rfl LD) ?_))))
 refine Tl rfl rfl rfl rfl z35 I_ (fun b1=> ?_)
 refine ao ?_
 refine ac ?_
 refine co rfl (XC (Vt (e:=e) (c:=c) (l:=l) hf) rfl rfl rfl rfl) ?_
 refine ac ?_
 refine wk [13,12,10,6,4,3,2] rfl ?_
 refine an ?_ ?_<;>intro h1 q1
 have hb:Cj e c l≠0:=by simpa using h1
 refine ao ?_
 refine TO.Aj 0 rfl rfl rfl vq LD rfl Ci rfl rfl ?_
 refine ao ?_
 refine Tr.ret (Fin.AG (Fin.Un [_] rfl (A7.cell 0 rfl rfl C5 Ci rfl Lr) (A7.tmp rfl Lr) ?_))
 refine DB ⟨?_,?_,trivial⟩
 · exact Ky (N6 hb) hb
 · refine int_eq ?_;exact (N6 hb).symm
 have hb:Cj e c l=0:=by simpa using h1
 obtain ⟨bR,YJ,hte⟩:=lC hb
 obtain ⟨how,htl,hth⟩:=KM YJ
 have Ld:=(Qn hte).1
 have KV:=UF hte hth
 obtain ⟨T,hT⟩:∃T,l.map (HV c)=T:=⟨_,rfl⟩
 have hTl:T.length=l.length:=by rw [←hT,List.length_map]
 rw [hT] at KV
 refine Tr.re 12 rfl (Pr.le_of_eq (by rw [sk hb,hT])) ?_
 refine ac ?_
 refine ao ?_
 refine TO.EV 1 rfl rfl AB (AU rfl rfl AB rfl (k7 (n:=((l.length:Nat):Int)) (l:=r)) ⟨kq,kz⟩) ?_
 refine ao ?_
 refine wk [14,13,12,10,6,4,3,2] rfl ?_
 refine an ?_ ?_<;>intro h2 q2
 have hv:Am (l.length:Nat) r≠0:=by simpa using h2
 refine ao ?_
 refine TO.Aj 0 rfl rfl rfl vq LD rfl Ci rfl rfl ?_
 refine ao ?_
 refine Tr.ret (Fin.AG (Fin.Un [_] rfl (A7.cell 0 rfl rfl C5 Ci rfl Lr) (A7.tmp rfl Lr) ?_))
 refine DB ⟨?_,?_,trivial⟩
 · exact Ky (aP hb hv) hv
 · refine int_eq ?_;exact (aP hb hv).symm
 have hv:Am (l.length:Nat) r=0:=by simpa using h2
 obtain ⟨row,hrow⟩:∃row,(Bj l.length r l.length).1=row:=⟨_,rfl⟩
 obtain ⟨YK,vm⟩:=Eb hv l.length AO
 rw [Int.toNat_natCast,hrow] at YK vm
 have hrq:∀q∈r,(0≤q.fst∧q.fst<l.length)∧0≤q.thn∧q.fst≠q.thn:=fun q hq=>by
  have h_:=(CV hv).2.1 q hq
  unfold Eg at h_;rw [decide_eq_false_iff_not] at h_;omega
 refine Tr.re 14 rfl (Pr.le_of_eq (by rw [if_pos hv,Int.toNat_natCast,hrow])) ?_
 refine ac ?_
 refine ao ?_
 refine tp rfl (QL (m:=l.length) rfl underlying22 Bg J_ z3 rfl AB AB vq vq HI AA) ?_
 refine tp rfl (Ar (rows:=[(0,[_]),(1,[_]),(2,[_])]) rfl Wv I_ ⟨⟨rfl,DK⟩,⟨⟨rfl,DK⟩,⟨⟨rfl,⟨_,rfl,Pr.le_trans (Pr.le_trans (BA _ _) (Pr.le_of_eq (show _=slice 1 ((List.replicate l.length (0:Int)).map fun n=>[int n]) by rw [List.map_replicate];rfl))) (AP _)⟩⟩,trivial⟩⟩⟩ rfl) ?_
 refine TO.gq rfl rfl AB rfl (lB (d:=List.replicate l.length 0) WA AA hrl (by rw [List.length_replicate];omega)) kz (fun v1=> ?_)
 refine Tl rfl rfl rfl rfl z35 I_ (fun b2=> ?_)
 refine TO.Aj 0 rfl rfl rfl vq LD rfl Ci rfl rfl ?_
 refine ao ?_
 refine wk [15,14,12,10,6,4,3] rfl ?_
 refine a2 ?_
 refine Tr.block (Tr.CB 3 1 (Tr.CB 3 1 (Tr.Um _ (kk [56,55,15,12,10,6,4,3] rfl) (fun (dy:List Int) (b:List Int) (y:List Int) (k:Nat) u u2=>[(57,int ((k:Nat):Int)),(16,Ae u (ints b)),(17,Ae u2 (ints y))]) (fun (dy:List Int) (b:List Int) (y:List Int) (k:Nat) u u2=>Hp M0 w0 S (As 3 1 u2::As 3 1 u::AE true b2 35 [C_ l,reqs r,is v1]::Bc 3 1 (dy.map fun n=>[int n]) v1::AE true b1 35 (([.slice none 0 0,.slice none 0 0,.slice none 0 0]:List Value).map is)::DI::Ak M1 w1::rs)) (fun (dy:List Int) (b:List Int) (y:List Int) (k:Nat)=>k≤row.length∧LS c r T fr l.length (row.take k)=some (dy,b,y)) (fun (dy:List Int) (b:List Int) (y:List Int) (k:Nat)=>row.length-k) (List.replicate l.length 0) ([]) ([]) (0) (.slice none 0 0) (.slice none 0 0) (⟨Nat.zero_le _,rfl⟩) ⟨kq,⟨_,rfl,Bu rfl⟩,⟨_,rfl,Bu rfl⟩,trivial⟩ (fun _ _ h=>h) ?_)))
 rintro dy b y k u u2 ⟨hk0,hsc⟩
 have hS:=OH.run (k:=k) YK (fun q hq=>by have:=hrq q hq;omega) Ld how (fun i h1 h2=>KV _ (List.mem_of_getElem? (DH (l:=T) (i:=i.toNat) AA))) hk0 hsc
 have UP:=hS.len
 have Us:b.length=k:=by rw [hS.hb,List.length_map,List.length_take];omega
 have hyl:y.length=k:=by rw [hS.hd,List.length_map,List.length_take];omega
 refine ac ?_
 refine Tr.seq ?_
 refine Tr.cn rfl ?_ ?_<;>intro h3 q3
 have hk:k<row.length:=AH h3
 obtain ⟨i,hi⟩:=at_ hk
 have eS:=YK.Xw i (List.mem_of_getElem? hi)
 have hti:T[i.toNat]? =some (Qg T i):=DH AA
 refine ac ?_
 refine Tr.seq (Tr.block (Tr.seq (Tr.Ah (co rfl (AD rfl underlying51 Bg vq vq AA (Ac hi)) ?_))))
 refine ac ?_
 refine wk [57,56,55,19,17,16,15,12,10,6,4,3] rfl ?_
 refine ac ?_
 refine wk [57,56,55,20,19,17,16,15,12,10,6,4,3] rfl ?_
 refine ac ?_
 refine wk [64,63,62,57,56,55,20,19,17,16,15,12,10,6,4,3] rfl (Tr.block (Tr.Ax _ (kk [63,62,57,56,55,19,17,16,15,12,10,6,4,3] rfl) (fun m:Nat=>[(64,int ((m:Nat):Int)),(20,int (Ec (r.take m) dy i fr))]) (fun m:Nat=>m≤(r).length) (fun m:Nat=>(r).length-m) 0 (Nat.zero_le _) ⟨kq,kz⟩ ?_))
 rintro m Nx
 refine ac ?_
 refine wk [65,64,63,62,57,56,55,20,19,17,16,15,12,10,6,4,3] rfl (Tr.seq ?_)
 refine Tr.cn rfl ?_ ?_<;>intro h4 q4
 have FA:m<(r).length:=AH h4
 obtain ⟨q,EC⟩:=at_ FA
 refine ac ?_
 refine wk [64,63,62,57,56,55,20,19,17,16,15,12,10,6,4,3] rfl (Tr.seq (Tr.block (Tr.seq (Tr.A0 (tp rfl (AD rfl underlying33 B5 vq vq AA (Ac EC)) (tp rfl (AK rfl EI B5 vq rfl rfl) ?_))))))
 refine Tl rfl rfl rfl rfl Ob L5 (fun b3=> ?_)
 refine sf 0 22 ⟨rfl,rfl,rfl⟩ rfl rfl rfl rfl ?_
 refine ao ?_
 refine wk [64,63,62,57,56,55,22,20,19,17,16,15,12,10,6,4,3] rfl ?_
 refine ac ?_
 refine wk [71,64,63,62,57,56,55,22,20,19,17,16,15,12,10,6,4,3] rfl ?_
 refine Tr.cn rfl ?_ ?_<;>intro h5 q5
 have hqr:=hrq q (List.mem_of_getElem? EC)
 have hz:=DH (l:=dy) (i:=q.fst.toNat) Ln
 have hzb:=hS.bnd _ (List.mem_of_getElem? hz)
 refine ac ?_
 refine co rfl (CY 3 rfl (LA rfl underlying22 Bg vq vq AA Da)) ?_
 refine co rfl (CY 3 rfl (QO rfl CX vq (BL fun _=>rfl) (by rw [List.getElem?_map,hz];rfl) rfl)) ?_
 refine JF rfl rfl rfl rfl AA (co rfl (JM rfl vq vq) ?_)
 refine ac ?_
 refine wk [64,63,62,57,56,55,20,19,17,16,15,12,10,6,4,3] rfl ?_
 refine ac ?_
 exact Fin.AM (m+1) ⟨FA,by omega⟩ ⟨⟨_,rfl,AF m⟩,⟨_,rfl,int_eq (by rw [Is EC,if_pos (by simpa using h5)])⟩,kz⟩
 refine ac ?_
 refine wk [64,63,62,57,56,55,20,19,17,16,15,12,10,6,4,3] rfl ?_
 refine ac ?_
 exact Fin.AM (m+1) ⟨FA,by omega⟩ ⟨⟨_,rfl,AF m⟩,⟨_,rfl,int_eq (by rw [Is EC,if_neg (by simpa using h5)])⟩,kz⟩
 have LK:m=(r).length:=by have:=AJ h4;omega
 subst LK
 rw [List.take_length]
 refine ac ?_
 refine wk [57,56,55,20,19,17,16,15,12,10,6,4,3] rfl ?_
 refine ac ?_
 refine co rfl (AD rfl underlying22 Bg vq vq AA (Bt hti)) ?_
 refine ac ?_
 refine co rfl (AZ rfl (Xr (c:=c) (AR:=b) (days:=y) (n:=Qg T i) (from_:=Ec r dy i fr)) ⟨kq,KR,KR,kz⟩) ?_
 refine ac ?_
 refine wk [57,56,55,25,24,23,19,17,16,15,12,10,6,4,3] rfl ?_
 refine ag ?_ ?_<;>intro h6 q6
 have hno:c.early b y (Qg T i) (Ec r dy i fr)=none:=by unfold Aq.early;rw [if_neg (by simpa using h6)]
 refine ac ?_
 refine wk [100,57,56,55,23,19,17,16,15,12,10,6,4,3] rfl (Tr.cond rfl (fun _=> ?_) (fun h=>nomatch h))
 refine Tr.seq (Tr.A0 (tp rfl (Ar (rows:=[]) rfl Wv I_ trivial rfl) (TO.Aj 4 rfl rfl rfl vq LD rfl Ci rfl rfl ?_)))
 refine ao ?_
 refine wk [11,10] rfl (Tr.ret (Fin.AG (Fin.Ag (Fin.AG (Fin.AG (Fin.Ag (Fin.AG (Fin.Un [_,_,_,_,_] rfl (A7.cell 4 rfl rfl C5 Ci rfl Lr) (A7.tmp rfl Lr) ?_))))))))
 refine DB ⟨?_,?_,trivial⟩
 · exact Wa
 · exact WZ
 refine ac ?_
 refine wk [100,57,56,55,23,19,17,16,15,12,10,6,4,3] rfl ?_
 refine Tr.cn rfl ?_ ?_<;>intro h7 q7
 have hno:c.early b y (Qg T i) (Ec r dy i fr)=none:=by simpa using h7
 refine ao ?_
 refine TO.Aj 4 rfl rfl rfl vq LD rfl Ci rfl rfl ?_
 refine ao ?_
 refine wk [11,10] rfl (Tr.ret (Fin.AG (Fin.Ag (Fin.AG (Fin.AG (Fin.Ag (Fin.AG (Fin.Un [_,_,_,_,_] rfl (A7.cell 4 rfl rfl C5 Ci rfl Lr) (A7.tmp rfl Lr) ?_))))))))
 refine DB ⟨?_,?_,trivial⟩
 · exact Wa
 · exact WZ
 obtain ⟨x,hx⟩:∃x,c.early b y (Qg T i) (Ec r dy i fr)=some x:=Option.isSome_iff_exists.1 (by simpa using h7)
 have lE:=DH (l:=dy) (i:=i.toNat) Ln
 refine Tr.re 23 rfl (int_eq (by rw [hx])) ?_
 refine ac ?_
 refine wk [57,56,55,23,19,17,16,15,12,10,6,4,3] rfl ?_
 refine ao ?_
 refine tp rfl (CY 3 rfl (LA rfl underlying22 Bg vq vq AA Da)) ?_
 refine TO.Ee 3 rfl rfl (Ia rfl rfl vq DK Bg rfl (BL fun _=>rfl) (by rw [List.getElem?_map,lE];rfl) AB (show _=(dy.set i.toNat x).map _ by rw [List.map_set];rfl)) ?_
 refine ao ?_
 refine wk [57,56,55,23,19,17,16,15,12,10,6,4,3] rfl ?_
 refine ao ?_
 refine tp rfl (AD rfl underlying22 Bg vq vq AA (Bt hti)) ?_
 refine ao ?_
 refine TO.Ef 1 rfl rfl AB (CN rfl rfl rfl rfl underlying22 Bg J_ z3 KR Gx (BQ BI Oc)) (fun v2=> ?_)
 refine ao ?_
 refine TO.Ef 0 rfl rfl AB (CN rfl rfl rfl rfl underlying22 Bg J_ z3 KR Gx (BQ BI Oc)) (fun v3=> ?_)
 refine ao ?_
 refine wk [57,56,55,17,16,15,12,10,6,4,3] rfl ?_
 refine ac ?_
 exact Fin.ZR (dy.set i.toNat x) (b++[Qg T i]) (y++[x]) (k+1) v2 v3 (⟨⟨hk,aG hi hsc hx⟩,by omega⟩) ⟨⟨_,rfl,AF k⟩,⟨_,rfl,BU Ex⟩,⟨_,rfl,BU Ex⟩,kz⟩ (fun _ _ h=>h)
 have hkr:k=row.length:=by have:=AJ h3;omega
 rw [hkr,List.take_length] at hsc
 have me:Le c l r fr=some (dy,b,y):=by unfold Le;rw [hT,hrow];exact hsc
 refine ac ?_
 refine Tr.seq (Tr.HC 2 3 2 rfl rfl AB rfl Lr (BL fun _=>rfl) ?_)
 refine ao ?_
 refine TO.Aj 4 rfl rfl rfl vq LD rfl Ci rfl rfl ?_
 refine ao ?_
 refine wk [11,10] rfl (Tr.ret (Fin.Un [_,_,_,_,_] rfl (A7.cell 4 rfl rfl C5 Ci rfl Lr) (A7.tmp rfl Lr) ?_))
 refine DB ⟨?_,?_,trivial⟩
 · exact aR (aQ hb hv me) me
 · refine int_eq ?_;exact (aQ hb hv me).symm
def PD (d:List Int) (q:BH):Bool:=decide (d.getD q.fst.toNat 0≥d.getD q.thn.toNat 0)
open Classical in
noncomputable def NL (e:FQ) (c:Aq) (l:List Bz) (r:List BH) (d:List Int):Int:=if Cj e c l≠0 then Cj e c l else if d.length≠l.length then 49 else if Am (l.length:Nat) r≠0 then Am (l.length:Nat) r else if r.any (PD d) then 44 else c.Bx (l.map (HV c)) d []
section
variable {e:FQ} {c:Aq} {l:List Bz} {r:List BH} {d:List Int}
theorem aT (h:Cj e c l≠0):NL e c l r d=Cj e c l:=by unfold NL;rw [if_pos h]
theorem lF (h:Cj e c l=0) (h2:d.length≠l.length):NL e c l r d=49:=by unfold NL;rw [if_neg (not_not_intro h),if_pos h2]
theorem sn (h:Cj e c l=0) (h2:d.length=l.length) (h3:Am (l.length:Nat) r≠0):NL e c l r d=Am (l.length:Nat) r:=by unfold NL;rw [if_neg (not_not_intro h),if_neg (not_not_intro h2),if_pos h3]
theorem s8 (h:Cj e c l=0) (h2:d.length=l.length) (h3:Am (l.length:Nat) r=0) (h4:r.any (PD d)=true):NL e c l r d=44:=by unfold NL;rw [if_neg (not_not_intro h),if_neg (not_not_intro h2),if_neg (not_not_intro h3),if_pos h4]
theorem lG (h:Cj e c l=0) (h2:d.length=l.length) (h3:Am (l.length:Nat) r=0) (h4:∀q∈r,PD d q=false):NL e c l r d=c.Bx (l.map (HV c)) d []:=by
 unfold NL;rw [if_neg (not_not_intro h),if_neg (not_not_intro h2),if_neg (not_not_intro h3),if_neg]
 rw [Bool.not_eq_true,List.any_eq_false];exact fun q hq=>by rw [h4 q hq];decide
theorem NM {fr:Int} (h:Gu e c l r fr=0):sZ c r (l.map (HV c)) (RJ c l r fr) fr l.length∧NL e c l r (RJ c l r fr)=0:=by
 obtain ⟨h1,h2,d,b,y,h3,h4⟩:=aS h
 obtain ⟨bR,YJ,hte⟩:=lC h1
 obtain ⟨how,htl,hth⟩:=KM YJ
 have hok:=vX (t:=l.map (HV c)) (fr:=fr) h2 how Sx (UF hte hth) h3
 rw [h4]
 refine ⟨hok,?_⟩
 rw [lG h1 hok.len h2 (fun q hq=> ?_)]
 · exact hok.fit
 · unfold PD;rw [decide_eq_false_iff_not];have:=hok.ord q hq;omega
end
structure HW (n:Nat) (r:List BH):Prop where
 up:∀q∈r,(0≤q.fst∧q.fst<q.thn)∧q.thn<n
 srt:Dg r=true
theorem HW.nil (n:Nat):HW n []:=⟨(fun q h=>by cases h),rfl⟩
theorem NN (r:List BH) (q:BH):Qc r [q]=F3 (r.foldl F3 []) q:=rfl
theorem HW.put {n:Nat} {r:List BH} (h:HW n r) {x y:Int} (h0:0≤x) (h1:x<y) (h2:y<n):HW n (Qc r [⟨x,y⟩]):=by
 refine ⟨fun q hq=> ?_,?_⟩
 ·
  rw [NN,Vi,RH] at hq
  rcases hq with rfl|hq|hq
  · exact ⟨⟨h0,h1⟩,h2⟩
  · cases hq
  · exact h.up q hq
 · rw [NN];exact N2 (NH r rfl)
theorem YL (r:List BH) (q:BH):(Qc r [q]).length≤r.length+1:=by
 rw [NN]
 have h1:=Vh (r.foldl F3 []) q
 have h2:=Ft r []
 simp at h2;omega
theorem HW.valid {n:Nat} {r:List BH} (h:HW n r) (hn:n≤24):Am n r=0:=kQ hn h.up h.srt
theorem dQ {α:Type} {a b:List α} {k:Nat} {x:α} (hx:a[k]? =some x) (hy:b[k]? =some x) (h:∀j,j<k→a[j]? =b[j]?):∀j,j<k+1→a[j]? =b[j]? :=fun j hj=>by
 by_cases hjk:j=k
 · subst hjk;rw [hx,hy]
 · exact h j AA
theorem lH {α:Type} {a b:List α} (hl:a.length=b.length) (h:∀j,j<a.length→a[j]? =b[j]?):a=b:=List.ext_getElem? fun j=>by
 rcases Nat.lt_or_ge j a.length with h2|h2
 · exact h j h2
 · rw [List.getElem?_eq_none h2,List.getElem?_eq_none AA]
theorem Vz {e:FQ} {c:Aq} {l:List Bz} {r:List BH} {d:List Int} (hf:e.fits):BR Tryz.prog 56 [agg (Hv e),GA c,agg [C_ l,reqs r,ints d]] (int (NL e c l r d)) (DI) (fun _=>DI):=by
 refine BR.of Tryz.func56 rfl rfl (by exact Nat.le_of_ble_eq_true rfl) fun M0 w0 S rs M1 w1=> ?_
 refine Tr.D9 2 0 rfl rfl fun qq=> ?_
 refine Tr.D9 2 1 rfl rfl fun qt=> ?_
 refine Tr.D9 2 2 rfl rfl fun qu=> ?_
 refine Tr.seq ?_
 refine Tr.Ah ?_
 refine Ch.op rfl rfl AB (Cq rfl (VL.le (vl rfl) (AW _))) ?_
 refine Ch.op rfl rfl AB (Cq rfl (VL.le (vl rfl) (AW _))) ?_
 refine Ch.op rfl rfl AB (Cq rfl (VL.le (vl rfl) (AW _))) ?_
 refine Ch.op rfl rfl AB (BX rfl (vl rfl)) ?_
 refine Ch.nil ?_
 refine Fin.go ?_
 refine Tr.seq ?_
 refine Tr.Ah ?_
 refine Ch.op rfl rfl AB (AK rfl GK IP (vl rfl) rfl rfl) ?_
 refine Ch.op rfl rfl AB (AK rfl Gn KQ (vl rfl) rfl rfl) ?_
 refine Ch.op rfl rfl AB (BF rfl IQ (vl rfl) rfl) ?_
 refine Ch.op rfl rfl AB (Bf rfl Pj (vl rfl)) ?_
 refine Ch.op rfl rfl AB (AZ rfl (Vt (e:=e) (c:=c) (l:=l) hf) ⟨⟨_,rfl,Pr.le_refl _⟩,⟨_,rfl,Pr.le_refl _⟩,⟨_,rfl,Pr.le_refl _⟩,trivial⟩) ?_
 refine Ch.op rfl rfl AB (Bw rfl (vl rfl)) ?_
 refine Ch.op rfl rfl AB (Ba rfl (vl rfl) rfl) ?_
 refine Ch.op rfl rfl AB (Ba rfl (vl rfl) rfl) ?_
 refine Ch.op rfl rfl AB (BX rfl (vl rfl)) ?_
 refine Ch.op rfl rfl AB (BX rfl (vl rfl)) ?_
 refine Ch.nil ?_
 refine Fin.go ?_
 refine Tr.weak [(4,_),(5,_),(7,_),(8,_)] ⟨⟨_,rfl,Pr.le_refl _⟩,⟨_,rfl,Pr.le_refl _⟩,⟨_,rfl,Pr.le_refl _⟩,⟨_,rfl,Pr.le_refl _⟩,trivial⟩ ?_
 refine Tr.seq ?_
 refine Tr.seq ?_
 refine Tr.Ah ?_
 refine Ch.op rfl rfl AB (Bw rfl (vl rfl)) ?_
 refine Ch.op rfl rfl AB (ok_int rfl (vl rfl) (vl rfl) rfl) ?_
 refine Ch.nil ?_
 refine Fin.go ?_
 refine Tr.cond rfl (fun h1=> ?_) (fun h1=> ?_)
 ·
  have q1:=Df.EA h1
  have hb:Cj e c l≠0:=by simpa using h1
  refine Tr.seq ?_
  refine Tr.Ah ?_
  refine Ch.op rfl rfl AB (Bw rfl (vl rfl)) ?_
  refine Ch.op rfl rfl AB (BX rfl (vl rfl)) ?_
  refine Ch.nil ?_
  refine Fin.go ?_
  refine Tr.ret ?_
  refine Fin.AG ?_
  refine Fin.E7 rfl rfl ?_ (fun _ _ _ _=>rfl)
  · refine int_eq ?_;exact (aT hb).symm
 ·
  have q1:=Df.EA h1
  have hb:Cj e c l=0:=by simpa using h1
  refine Tr.re 7 rfl (Pr.le_of_eq (by rw [sk hb])) ?_
  refine Tr.skip ?_
  refine Fin.go ?_
  refine Tr.seq ?_
  refine Tr.seq ?_
  refine Tr.Ah ?_
  refine Ch.op rfl rfl AB (BF rfl FL (vl rfl) rfl) ?_
  refine Ch.op rfl rfl AB (Bf rfl FV (vl rfl)) ?_
  first
   |refine Ch.op rfl rfl AB (Bn rfl Tryz.underlying22 (vl rfl)) ?_
   |refine Ch.op rfl rfl AB (B7 rfl Tryz.underlying22 (vl rfl)) ?_
  refine Ch.op rfl rfl AB (BF rfl IQ (vl rfl) rfl) ?_
  refine Ch.op rfl rfl AB (Bf rfl Pj (vl rfl)) ?_
  first
   |refine Ch.op rfl rfl AB (Bn rfl Tryz.underlying32 (vl rfl)) ?_
   |refine Ch.op rfl rfl AB (B7 rfl Tryz.underlying32 (vl rfl)) ?_
  refine Ch.op rfl rfl AB (ok_int rfl (vl rfl) (vl rfl) rfl) ?_
  refine Ch.nil ?_
  refine Fin.go ?_
  refine Tr.cond rfl (fun h2=> ?_) (fun h2=> ?_)
  ·
   have q2:=Df.EA h2
   have UP:d.length≠l.length:=by have:=q2;omega
   refine Tr.seq ?_
   refine Tr.Ah ?_
   refine Ch.op rfl rfl AB (BX rfl (vl rfl)) ?_
   refine Ch.nil ?_
   refine Fin.go ?_
   refine Tr.weak [(6,_)] ⟨⟨_,rfl,Pr.le_refl _⟩,trivial⟩ ?_
   refine Tr.ret ?_
   refine Fin.AG ?_
   refine Fin.E7 rfl rfl ?_ (fun _ _ _ _=>rfl)
   · refine int_eq ?_;exact (lF hb UP).symm
  ·
   have q2:=Df.EA h2
   have UP:d.length=l.length:=by have:=q2;omega
   refine Tr.skip ?_
   refine Fin.go ?_
   refine Tr.seq ?_
   refine Tr.seq ?_
   refine Tr.A0 ?_
   refine TO.op rfl rfl AB (BF rfl IQ (vl rfl) rfl) ?_
   refine TO.op rfl rfl AB (Bf rfl Pj (vl rfl)) ?_
   first
    |refine TO.op rfl rfl AB (Bn rfl Tryz.underlying32 (vl rfl)) ?_
    |refine TO.op rfl rfl AB (B7 rfl Tryz.underlying32 (vl rfl)) ?_
   refine TO.op rfl rfl AB (BF rfl Mz (vl rfl) rfl) ?_
   refine TO.op rfl rfl AB (Bf rfl Rf (vl rfl)) ?_
   refine TO.EV 0 rfl rfl AB (AU rfl rfl AB rfl (k8 (n:=((l.length:Nat):Int)) (l:=r)) ⟨⟨_,rfl,Pr.le_refl _⟩,⟨_,rfl,Pr.le_refl _⟩,trivial⟩) ?_
   refine TO.op rfl rfl AB (BX rfl (vl rfl)) ?_
   refine TO.nil ?_
   refine Fin.go ?_
   refine Tr.weak [(4,_),(5,_),(7,_),(9,_)] ⟨⟨_,rfl,Pr.le_refl _⟩,⟨_,rfl,Pr.le_refl _⟩,⟨_,rfl,Pr.le_refl _⟩,⟨_,rfl,Pr.le_refl _⟩,trivial⟩ ?_
   refine Tr.seq ?_
   refine Tr.Ah ?_
   refine Ch.op rfl rfl AB (Bw rfl (vl rfl)) ?_
   refine Ch.op rfl rfl AB (ok_int rfl (vl rfl) (vl rfl) rfl) ?_
   refine Ch.nil ?_
   refine Fin.go ?_
   refine Tr.cond rfl (fun h3=> ?_) (fun h3=> ?_)
   ·
    have q3:=Df.EA h3
    have hv:Am (l.length:Nat) r≠0:=by simpa using h3
    refine Tr.seq ?_
    refine Tr.Ah ?_
    refine Ch.op rfl rfl AB (Bw rfl (vl rfl)) ?_
    refine Ch.op rfl rfl AB (BX rfl (vl rfl)) ?_
    refine Ch.nil ?_
    refine Fin.go ?_
    refine Tr.ret ?_
    refine Fin.AG ?_
    refine Fin.E7 rfl rfl ?_ (fun _ _ _ _=>rfl)
    · refine int_eq ?_;exact (sn hb UP hv).symm
   ·
    have q3:=Df.EA h3
    have hv:Am (l.length:Nat) r=0:=by simpa using h3
    refine Tr.skip ?_
    refine Fin.go ?_
    refine Tr.seq ?_
    refine Tr.seq ?_
    refine Tr.Ah ?_
    refine Ch.op rfl rfl AB (BF rfl Mz (vl rfl) rfl) ?_
    refine Ch.op rfl rfl AB (Bf rfl Rf (vl rfl)) ?_
    first
     |refine Ch.op rfl rfl AB (Bn rfl Tryz.underlying33 (vl rfl)) ?_
     |refine Ch.op rfl rfl AB (B7 rfl Tryz.underlying33 (vl rfl)) ?_
    refine Ch.op rfl rfl AB (Bw rfl (vl rfl)) ?_
    refine Ch.nil ?_
    refine Fin.go ?_
    refine Tr.block ?_
    refine Tr.Ax [(4,_),(5,_),(7,_),(40,_),(41,_)] ⟨⟨_,rfl,Pr.le_refl _⟩,⟨_,rfl,Pr.le_refl _⟩,⟨_,rfl,Pr.le_refl _⟩,⟨_,rfl,Pr.le_refl _⟩,⟨_,rfl,Pr.le_refl _⟩,trivial⟩ (fun k:Nat=>[(42,int ((k:Nat):Int))]) (fun k:Nat=>k≤(r).length∧(∀j y,j<k→r[j]? =some y→PD d y=false)) (fun k:Nat=>(r).length-k) 0 (⟨Nat.zero_le _,fun j y hj=>absurd hj AA⟩) ⟨⟨_,rfl,Pr.le_refl _⟩,trivial⟩ ?_
    rintro k ⟨BK,AL⟩
    refine Tr.seq ?_
    refine Tr.Ah ?_
    refine Ch.op rfl rfl AB (ok_int rfl (vl rfl) (vl rfl) rfl) ?_
    refine Ch.nil ?_
    refine Fin.go ?_
    refine Tr.seq ?_
    refine Tr.cond rfl (fun h4=> ?_) (fun h4=> ?_)
    ·
     have q4:=Df.EA h4
     have Aa:k<(r).length:=AH h4
     obtain ⟨q,AX⟩:=at_ Aa
     have hqb:=(CV hv).2.1 q (List.mem_of_getElem? AX)
     unfold Eg at hqb
     rw [decide_eq_false_iff_not] at hqb
     have G8:=DH (l:=d) (i:=q.fst.toNat) AA
     have S2:=DH (l:=d) (i:=q.thn.toNat) AA
     refine Tr.skip ?_
     refine Fin.go ?_
     refine Tr.seq ?_
     refine Tr.block ?_
     refine Tr.seq ?_
     refine Tr.A0 ?_
     refine TO.op rfl rfl AB (AD rfl Tryz.underlying33 B5 (vl rfl) (vl rfl) AA (Ac AX)) ?_
     refine TO.op rfl rfl AB (AK rfl EI B5 (vl rfl) rfl rfl) ?_
     refine TO.alloc rfl rfl AB rfl Ob L5 (fun b1=> ?_)
     refine TO.Aj 0 rfl rfl rfl (vl rfl) (VL.le (vl rfl) (AW _)) rfl B5 rfl rfl ?_
     refine TO.freeze 0 11 rfl rfl ?_
     refine TO.nil ?_
     refine Fin.go ?_
     refine Tr.seq ?_
     refine Tr.Wi mixed BS ?_
     refine Ch.op rfl rfl AB (BF rfl FL (vl rfl) rfl) ?_
     refine Ch.op rfl rfl AB (Bf rfl FV (vl rfl)) ?_
     refine Ch.op rfl rfl AB (BF rfl Pn (vl rfl) rfl) ?_
     refine Ch.op rfl rfl AB (Bf rfl CX (vl rfl)) ?_
     refine Ch.op rfl rfl AB (AD rfl Tryz.underlying22 Bg (vl rfl) (vl rfl) AA (Bt G8)) ?_
     refine Ch.op rfl rfl AB (Bf rfl CX (vl rfl)) ?_
     refine Ch.op rfl rfl AB (BF rfl FL (vl rfl) rfl) ?_
     refine Ch.op rfl rfl AB (Bf rfl FV (vl rfl)) ?_
     refine Ch.op rfl rfl AB (BF rfl Po (vl rfl) rfl) ?_
     refine Ch.op rfl rfl AB (Bf rfl CX (vl rfl)) ?_
     refine Ch.op rfl rfl AB (AD rfl Tryz.underlying22 Bg (vl rfl) (vl rfl) AA (Bt S2)) ?_
     refine Ch.op rfl rfl AB (Bf rfl CX (vl rfl)) ?_
     refine Ch.op rfl rfl AB (ok_int rfl (vl rfl) (vl rfl) rfl) ?_
     refine Ch.nil ?_
     refine Fin.go ?_
     refine Tr.weak [(4,_),(5,_),(7,_),(40,_),(41,_),(42,_),(58,_)] ⟨⟨_,rfl,Pr.le_refl _⟩,⟨_,rfl,Pr.le_refl _⟩,⟨_,rfl,Pr.le_refl _⟩,⟨_,rfl,Pr.le_refl _⟩,⟨_,rfl,Pr.le_refl _⟩,⟨_,rfl,Pr.le_refl _⟩,⟨_,rfl,Pr.le_refl _⟩,trivial⟩ ?_
     refine Tr.cond rfl (fun h5=> ?_) (fun h5=> ?_)
     ·
      have q5:=Df.EA h5
      refine Tr.seq ?_
      refine Tr.Ah ?_
      refine Ch.op rfl rfl AB (BX rfl (vl rfl)) ?_
      refine Ch.nil ?_
      refine Fin.go ?_
      refine Tr.ret ?_
      refine Fin.Ag ?_
      refine Fin.AG ?_
      refine Fin.AG ?_
      refine Fin.Ag ?_
      refine Fin.AG ?_
      refine Fin.E7 rfl rfl ?_ (fun _ _ _ _=>rfl)
      · exact fF
     ·
      have q5:=Df.EA h5
      refine Tr.skip ?_
      refine Fin.block ?_
      refine Fin.go ?_
      refine Tr.Ah ?_
      first
       |(refine Ch.op rfl rfl AB (Ey rfl (vl rfl) (vl rfl) ?hin) ?_;case hin=>unfold N9;omega)
       |refine Ch.op rfl rfl AB (ok_int rfl (vl rfl) (vl rfl) rfl) ?_
      refine Ch.op rfl rfl AB (Bw rfl (vl rfl)) ?_
      refine Ch.nil ?_
      exact Fin.AM (k+1) ⟨⟨Aa,CJ (p:=PD d) AX (by unfold PD;assumption) AL⟩,by omega⟩ ⟨⟨_,rfl,AF k⟩,⟨_,rfl,Pr.le_refl _⟩,⟨_,rfl,Pr.le_refl _⟩,⟨_,rfl,Pr.le_refl _⟩,⟨_,rfl,Pr.le_refl _⟩,⟨_,rfl,Pr.le_refl _⟩,trivial⟩
    ·
     have q4:=Df.EA h4
     have Az:k=(r).length:=by have:=AJ h4;omega
     subst Az
     refine Tr.exit ?_
     refine Fin.AV ?_
     refine Fin.AV ?_
     refine Fin.Ao ?_
     refine Fin.go ?_
     refine Tr.seq ?_
     refine Tr.Ah ?_
     refine Ch.op rfl rfl AB (AK rfl Gn KQ (vl rfl) rfl rfl) ?_
     refine Ch.op rfl rfl AB (Bw rfl (vl rfl)) ?_
     refine Ch.op rfl rfl AB (BF rfl FL (vl rfl) rfl) ?_
     refine Ch.op rfl rfl AB (Bf rfl FV (vl rfl)) ?_
     refine Ch.op rfl rfl AB (AZ rfl (vQ (c:=c) (AR:=l.map (HV c)) (days:=d)) ⟨⟨_,rfl,Pr.le_refl _⟩,⟨_,rfl,Pr.le_refl _⟩,⟨_,rfl,Pr.le_refl _⟩,trivial⟩) ?_
     refine Ch.op rfl rfl AB (BX rfl (vl rfl)) ?_
     refine Ch.nil ?_
     refine Fin.go ?_
     refine Tr.ret ?_
     refine Fin.E7 rfl rfl ?_ (fun _ _ _ _=>rfl)
     ·
      refine int_eq ?_;exact (lG hb UP hv (fun q hq=>by
      obtain ⟨j,hj⟩:=List.mem_iff_getElem?.1 hq
      exact AL j q (BP hj) hj)).symm
theorem qv {b:Nat} {s:DS} {n:Nat} (hn:n≤24):BR prog 52 [ptr b 0,int ((n:Nat):Int)] (Cp.ex fun r:List BH=>fact (HW n r∧r.length≤2*n) (reqs r)) (CG b s) (fun _=>FK 104 b):=by
 refine BR.of func52 rfl rfl Al fun M0 w0 S rs M1 w1=> ?_
 have ZK:=s.Bi (n:=2*(n:Int)+1) AA
 refine Tr.seq (Tr.Ah (cm rfl (Ch.nil (Fin.go (Tr.seq (Tr.Ah (cm rfl (Ch.nil (Fin.go (Tr.seq (Tr.seq (Tr.A0 (tm rfl ?_)))))))))))))
 refine tm rfl ?_
 refine tp rfl (tA rfl (vl rfl) (vl rfl) ?hin) ?_;case hin=>unfold N9;omega
 refine tp rfl (Ey rfl (vl rfl) (vl rfl) ?hin) ?_;case hin=>unfold N9;omega
 refine TO.EV 0 rfl rfl AB (AU rfl rfl AB rfl (A8 AA AA) ⟨ke rfl,ke rfl,trivial⟩) (tm rfl (TO.nil (Fin.go (Tr.block ?_))))
 refine Tr.L3 [(0,_),(1,_)] ⟨ke rfl,ke rfl,trivial⟩ (fun (r:List BH) (k:Int) (s2:DS)=>[(6,int k),(5,reqs r)]) (fun (r:List BH) (k:Int) (s2:DS)=>Hp M0 w0 S (CG b s2::Ak M1 w1::rs)) (fun (r:List BH) (k:Int) (s2:DS)=>0≤k∧HW n r∧(r.length:Int)+k≤2*n) (fun (r:List BH) (k:Int) (s2:DS)=>k.toNat) ([]) (s.val (2*(n:Int)+1)) (_)  (⟨by omega,HW.nil n,by simp;omega⟩) ⟨ke rfl,⟨_,rfl,Ai 2⟩,trivial⟩ (fun _ _ h=>h) ?_
 rintro r k s2  ⟨hk0,hN,hrl⟩
 refine Tr.seq (Tr.seq (Tr.Ah (cm rfl (co rfl (ki rfl rfl rfl rfl) (cm rfl ?_)))))
 refine Ch.cs 16 rfl ?_ ?_<;>intro h1 q1
 have hkp:k>0:=by simpa using h1
 refine HZ h1 rfl (cy h1 rfl (ki rfl rfl rfl rfl) (co rfl (PY rfl rfl h1 rfl) (Ch.nil (Fin.go ?_))))
 refine Tr.cn rfl ?_ ?_<;>intro h2 q2
 have hn1:((n:Nat):Int)>1:=by simpa using h2
 have WD:=s2.Bi (n:=(n:Int)) AA
 have RW:=s2.BV.Bi (n:=(n:Int)) AA
 refine Tr.skip (Fin.go (Tr.seq (Tr.block (Tr.seq (Tr.A0 (tm rfl (tm rfl (TO.EV 0 rfl rfl AB (AU rfl rfl AB rfl (A8 AA AA) ⟨ke rfl,ke rfl,trivial⟩) (tm rfl (tm rfl (TO.EV 0 rfl rfl AB (AU rfl rfl AB rfl (A8 AA AA) ⟨ke rfl,ke rfl,trivial⟩) (tm rfl (tm rfl ?_)))))))))))))
 refine TO.nil (Fin.go (eE 0 1 5 6 7 8 rfl (Tr.seq (Tr.Ah (cm rfl (cm rfl (co rfl (ki rfl rfl rfl rfl) (Ch.nil (Fin.go ?_)))))))))
 refine Tr.cn rfl ?_ ?_<;>intro h3 q3
 refine Tr.Ah (cm rfl (cm rfl (cm rfl (co rfl (Ar (rows:=[(0,[_]),(1,[_])]) rfl x5 L5 ⟨⟨rfl,(Vo rfl)⟩,⟨⟨rfl,(Vo rfl)⟩,trivial⟩⟩ rfl) (co rfl (AQ (xs:=[.tmp 34]) (rows:=[_]) rfl rfl underlying33 B5 Ob rfl AB ⟨⟨Ab,(Va rfl)⟩,trivial⟩ AB) ?_)))))
 refine co rfl (AZ rfl (Xx (a:=r) (b:=[⟨s2.val n,s2.BV.val n⟩]) AA AO) ⟨ke rfl,(Kf rfl),trivial⟩) ?_
 refine cm rfl (Ch.nil (Fin.block (Fin.go (PZ 0 1 5 6 rfl (Tr.Ah (cm rfl (csu rfl rfl rfl rfl AA (cm rfl (Ch.nil ?_)))))))))
 exact Fin.DV (Qc r [⟨s2.val n,s2.BV.val n⟩]) (k-1) (_)  (⟨⟨by omega,hN.put AA (by simpa using h3) AA,by have:=YL r ⟨s2.val n,s2.BV.val n⟩;omega⟩,by omega⟩) ⟨ke rfl,ke rfl,ke rfl,ke rfl,trivial⟩ (fun _ _ h=>h)
 refine Tr.skip (Fin.block (Fin.go (Tr.Ah (cm rfl (csu rfl rfl rfl rfl AA (cm rfl (Ch.nil (Fin.DV (r) (k-1) (_)  (⟨⟨by omega,hN,by omega⟩,by omega⟩) ⟨ke rfl,ke rfl,ke rfl,ke rfl,trivial⟩ (fun _ _ h=>h)))))))))
 have:=h2
 refine Tr.exit (Fin.AV (Fin.AV (Fin.Ao (Fin.go (Tr.seq (Tr.Ah (cm rfl (cm rfl (Ch.nil (Fin.go (Tr.ret (Fin.B4 0 _ rfl rfl (Fin.Cb [] rfl (A7.tmp rfl (Lr)) ?_ (fun _ _ _ _=>rfl))))))))))))))
 · exact DA r (CO ⟨hN,by omega⟩ (Lr))
 refine cnt h1 rfl (cnt h1 rfl (co rfl (LX rfl rfl h1 rfl) (Ch.nil (Fin.go (Tr.cond rfl (fun h=>nomatch h) (fun _=> ?_))))))
 refine Tr.exit (Fin.AV (Fin.AV (Fin.Ao (Fin.go (Tr.seq (Tr.Ah (cm rfl (cm rfl (Ch.nil (Fin.go (Tr.ret (Fin.B4 0 _ rfl rfl (Fin.Cb [] rfl (A7.tmp rfl (Lr)) ?_ (fun _ _ _ _=>rfl))))))))))))))
 · exact DA r (CO ⟨hN,by omega⟩ (Lr))
theorem dR {a b:List BH}  :BD prog 105 [reqs a,reqs b] (bool (decide (a=b))):=by
 refine fo func105 rfl ⟨rfl,rfl⟩ fun M0 w0=>(Tr.CM 0 rfl fun D4=>(Tr.CM 1 rfl fun Fz=> ?_))
 refine ac ?_
 refine an ?_ ?_<;>intro h1 q1
 refine a2 ?_
 · refine bool_eq ?_;symm;rw [decide_eq_false_iff_not];intro h_;subst h_;omega
 refine a2 ?_
 refine Tr.block (Tr.Ax _ (kk [12,1,0] rfl) (fun k:Nat=>[(13,int ((k:Nat):Int))]) (fun k:Nat=>k≤(a).length∧(∀j,j<k→a[j]? =b[j]?)) (fun k:Nat=>(a).length-k) 0 (⟨Nat.zero_le _,fun j hj=>absurd hj AA⟩) kz ?_)
 rintro k ⟨BK,AL⟩
 refine ac ?_
 refine Tr.seq ?_
 refine Tr.cn rfl ?_ ?_<;>intro h2 q2
 have Aa:k<(a).length:=AH h2
 obtain ⟨x,AX⟩:=at_ Aa
 obtain ⟨y,hy⟩:=at_ (l:=b) (k:=k) AA
 · repeat' first|(refine bool_eq ?_;symm;rw [decide_eq_false_iff_not];intro h_;subst h_;rw [AX] at hy;cases hy;simp_all)|(exact Fin.AM (k+1) ⟨⟨Aa,dQ AX (by rw [hy];congr 1;cases x;cases y;simp_all) AL⟩,by omega⟩ ⟨⟨_,rfl,AF k⟩,kz⟩)|refine co rfl (AD rfl underlying33 B5 vq vq AA (Ac AX)) ?_|refine co rfl (AD rfl underlying33 B5 vq vq AA (Ac hy)) (co rfl (AK rfl EI B5 vq rfl rfl) (co rfl (aE rfl vq vq) ?_))|refine ac ?_|(refine Tr.cn rfl ?_ ?_<;>intro h q)
 have Az:k=(a).length:=by have:=AJ h2;omega
 subst Az
 refine a3 ?_
 · refine bool_eq ?_;symm;rw [decide_eq_true_eq];exact lH AA AL
theorem YM {β γ:Type} {f:β→γ} {l:List β} {k:Nat} {x:β} (h:l[k]? =some x):(l.take k).map f++[f x]=(l.take (k+1)).map f:=by rw [List.take_add_one,h,List.map_append];rfl
theorem YN {x:U8} (hx:x.small):BD prog 146 [agg (Ks x)] (agg (Ks x)):=by
 refine fo func146 rfl ⟨rfl,rfl⟩ fun M0 w0=> ?_
 have hch:=hx.chain
 refine Tr.seq (Tr.A0 (tp rfl (Cq rfl LD) ?_))
 refine Tl rfl rfl rfl rfl nH TK (fun b1=> ?_)
 refine ap ?_
 refine ap ?_
 refine Tl rfl rfl rfl rfl nH TK (fun b2=> ?_)
 refine ap ?_
 refine ac ?_
 refine wk [14,13,12,3,2] rfl (Tr.block (Tr.HQ 0 [int x.Bh,int x.bits,int x.El,Ae (.slice none 0 0) (slice 15 ((x.chain.take 0).map DF))] rfl ⟨Lr,Lr,Lr,Bu rfl,trivial⟩ (Tr.CB 189 15 (Tr.Ez _ (kk [13,12,3,2] rfl) (fun k v=>[(14,int ((k:Nat):Int))]) (fun k v=>Hp M0 w0 II ([As 189 15 v,AE true b2 84 [int x.Bh,int x.bits,int x.El,Ae v (slice 15 ((x.chain.take k).map DF))],AE true b1 84 (([.int .i64 0,.int .i64 0,.int .i64 0,.slice none 0 0]:List Value).map is)])) (fun k:Nat=>k≤(x.chain).length) (fun k:Nat=>(x.chain).length-k) 0 (.slice none 0 0) (Nat.zero_le _) kz (fun _ _ h=>h) ?_))))
 rintro k v BK
 refine ac ?_
 refine Tr.seq ?_
 refine Tr.cn rfl ?_ ?_<;>intro h1 q1
 have Aa:k<(x.chain).length:=AH h1
 obtain ⟨c,AX⟩:=at_ Aa
 have hcn:=hx.names c (List.mem_of_getElem? AX)
 refine ac ?_
 refine Tr.seq (Tr.block (Tr.seq (Tr.A0 (tp rfl (AD rfl underlying82 C6 vq vq AA Bl) ?_))))
 refine tp rfl (AK rfl FM C6 vq rfl rfl) ?_
 refine Tl rfl rfl rfl rfl Pp Kn (fun b3=> ?_)
 refine ap ?_
 refine ap ?_
 refine tp rfl (Zq rfl underlying127 LZ by9 z9 rfl AB vq (by simp only [List.length_map];unfold maxLen;omega) (by simp only [List.length_map];omega)) ?_
 refine ap ?_
 refine wk [14,13,12,5,3,2] rfl ?_
 refine ap ?_
 refine TO.Ef 1 rfl rfl AB (CN rfl rfl rfl rfl underlying82 C6 rq Pp KR Gx (BQ BI Oc)) (fun v1=> ?_)
 refine ap ?_
 refine Tr.drop 0 ?_
 refine ac ?_
 refine Fin.HQ 1 [int x.Bh,int x.bits,int x.El,Ae v1 (slice 15 ((x.chain.take (k+1)).map DF))] rfl ⟨Lr,Lr,Lr,BU (YM (f:=DF) AX),trivial⟩ (Fin.Dm (k+1) v1 (⟨Aa,by omega⟩) ⟨⟨_,rfl,AF k⟩,kz⟩ (fun _ _ h=>h))
 have Az:k=(x.chain).length:=by have:=AJ h1;omega
 subst Az
 refine ac ?_
 refine ap ?_
 refine Tr.ret (Fin.Dn rfl (A7.cell 2 rfl rfl Up JS rfl Lr) ?_)
 · exact Bv ⟨Lr,Lr,Lr,Pr.le_trans (A_ _ _) (Pr.le_of_eq mh),trivial⟩
theorem YO {c:Bz} (hx:c.HS.small):BD prog 86 [agg (DP c)] (agg (DP c)):=by
 refine fo func86 rfl ⟨rfl,rfl⟩ fun M0 w0=>(Tr.seq (Tr.A0 ?_))
 refine TO.S6 rfl rfl AB rfl LD (fun b1=> ?_)
 refine Tl rfl rfl rfl rfl Km Gz (fun b2=> ?_)
 refine ap ?_
 refine ap ?_
 refine tp rfl (C8 (YN (x:=c.HS) hx) rfl rfl) ?_
 refine ap ?_
 refine ap ?_
 refine Tr.drop 1 (Tr.ret (Fin.Dn rfl (A7.cell 0 rfl rfl CT Be rfl Lr) ?_))
 · exact Lr
def RQ (e:E4) (c:Bz):Int:=
 if c.kind=7∨c.kind=9 then 0 else if c.kind=5 then 1 else if c.kind=1∨c.kind=12 then 2
 else if c.kind=3 then (if c.number>e.most then 2 else 3) else if c.kind=4 then (if c.number<e.least then 2 else 3) else if c.kind=11 then (if c.number=1 then 2 else 3) else 3
def Qo (a b:Int) (x:La):Bool:=(decide (x.client=a)&&decide (x.server=b))||(decide (x.client=b)&&decide (x.server=a))
def N7 (l:List La) (a b:Int):Bool:=decide (a=b)||l.any (Qo a b)
theorem lI {l:List La} {a b:Int} {k:Nat} {x:La} (hx:l[k]? =some x) (h:Qo a b x=true):N7 l a b=true:=by unfold N7;rw [List.any_eq_true.2 ⟨x,List.mem_of_getElem? hx,h⟩,Bool.or_true]
theorem qw {l:List La} {a b:Int} (h0:a≠b) (h:∀j y,j<l.length→l[j]? =some y→Qo a b y=false):N7 l a b=false:=by
 unfold N7
 rw [Bool.or_eq_false_iff,decide_eq_false_iff_not,List.any_eq_false]
 refine ⟨h0,fun y hy=> ?_⟩
 obtain ⟨j,hj⟩:=List.mem_iff_getElem?.1 hy
 rw [h j y (BP hj) hj];decide
def V0 (l:List Bz) (i:Nat):Bz:=l[i]?.getD pJ
def YP (e:FQ) (c:Bz):Int:=RQ (e.Dy[c.BJ.toNat]?.getD Je) c
def lJ (e:FQ) (l:List Bz) (i k:Nat):Bool:=N7 e.DL (V0 l i).BJ (V0 l k).BJ&&decide (YP e (V0 l i)<YP e (V0 l k))
def OI (e:FQ) (l:List Bz) (i n:Nat):List BH:=((List.range n).filter (lJ e l i)).map fun k:Nat=>⟨(i:Int),(k:Int)⟩
def V1 (e:FQ) (l:List Bz) (m:Nat):List BH:=(List.range m).flatMap fun i=>OI e l i l.length
def vn (e:FQ) (l:List Bz):List BH:=V1 e l l.length
theorem V2 (e:FQ) (l:List Bz) (i n:Nat):(OI e l i n).length≤n:=by unfold OI;rw [List.length_map];exact Nat.le_trans (List.length_filter_le _ _) Sj
theorem SH (e:FQ) (l:List Bz) (m:Nat):V1 e l (m+1)=V1 e l m++OI e l m l.length:=by unfold V1;rw [List.range_succ,List.flatMap_append];simp
theorem Qp (e:FQ) (l:List Bz):∀m,(V1 e l m).length≤m*l.length
 |0=>by simp [V1]
 |m+1=>by have h1:=Qp e l m;have h2:=V2 e l m l.length;rw [SH,List.length_append,Nat.succ_mul];omega
theorem lK {e:FQ} {l:List Bz} {i k:Nat} (h:lJ e l i k=true):OI e l i (k+1)=OI e l i k++[⟨(i:Int),(k:Int)⟩]:=by unfold OI;rw [List.range_succ,List.filter_append,List.map_append];simp [h]
theorem aU {e:FQ} {l:List Bz} {i k:Nat} (h:lJ e l i k=false):OI e l i (k+1)=OI e l i k:=by unfold OI;rw [List.range_succ,List.filter_append,List.map_append];simp [h]
theorem SI {e:E4} {c:Bz}  :BD prog 96 [agg (Dq e),agg (DP c)] (int (RQ e c)):=by
 refine fo func96 rfl ⟨rfl,rfl⟩ fun M0 w0=> ?_
 refine a2 ?_
 refine an ?_ ?_<;>intro h1 q1
 refine ac ?_
 refine Tr.cond rfl (fun _=> ?_) (fun h=>nomatch h1.symm.trans h)
 refine a2 ?_
 · exact OK
 refine an ?_ ?_<;>intro h2 q2
 refine a2 ?_
 · exact OK
 refine an ?_ ?_<;>intro h3 q3
 refine a2 ?_
 · exact OK
 refine an ?_ ?_<;>intro h4 q4
 refine ac ?_
 refine Tr.cond rfl (fun _=> ?_) (fun h=>nomatch h4.symm.trans h)
 refine ac ?_
 refine wk [4] rfl ?_
 refine ac ?_
 · exact OK
 · repeat' first|(refine int_eq ?_;unfold RQ;(repeat' split)<;>omega)|refine ac ?_|(refine Tr.cn rfl ?_ ?_<;>intro h q)
theorem V3 {e:FQ} {a b:Int}  :BD prog 95 [agg (Hv e),int a,int b] (bool (N7 e.DL a b)):=by
 refine fo func95 rfl ⟨rfl,rfl⟩ fun M0 w0=>(Tr.D9 0 1 rfl rfl fun Ij=> ?_)
 refine ac ?_
 refine an ?_ ?_<;>intro h1 q1
 refine a2 ?_
 · refine bool_eq ?_;symm;unfold N7;rw [decide_eq_true BC,Bool.true_or]
 refine a2 ?_
 refine Tr.block (Tr.Ax _ (kk [14,13,2,1] rfl) (fun k:Nat=>[(15,int ((k:Nat):Int))]) (fun k:Nat=>k≤(e.DL).length∧(∀j y,j<k→e.DL[j]? =some y→Qo a b y=false)) (fun k:Nat=>(e.DL).length-k) 0 (⟨Nat.zero_le _,fun j y hj=>absurd hj AA⟩) kz ?_)
 rintro k ⟨BK,AL⟩
 refine ac ?_
 refine Tr.seq ?_
 refine Tr.cn rfl ?_ ?_<;>intro h2 q2
 have Aa:k<(e.DL).length:=AH h2
 obtain ⟨x,AX⟩:=at_ Aa
 refine ac ?_
 refine Tr.seq (Tr.block (Tr.seq (Tr.A0 (tp rfl (AD rfl underlying28 GL vq vq AA (Ac AX)) (tp rfl (AK rfl Wz GL vq rfl rfl) ?_)))))
 refine Tl rfl rfl rfl rfl bP Uq (fun b1=> ?_)
 refine sf 0 8 ⟨rfl,rfl,rfl⟩ rfl rfl rfl rfl ?_
 refine ao ?_
 · repeat' first|(refine bool_eq ?_;symm;exact lI AX (by unfold Qo;simp_all))|(exact Fin.AM (k+1) ⟨⟨Aa,CJ (p:=Qo a b) AX (by unfold Qo;simp_all) AL⟩,by omega⟩ ⟨⟨_,rfl,AF k⟩,kz⟩)|refine ac ?_|(refine Tr.cn rfl ?_ ?_<;>intro h q)|(refine Ch.cg rfl rfl rfl ?_ ?_<;>intro h q)
 have Az:k=(e.DL).length:=by have:=AJ h2;omega
 subst Az
 refine a3 ?_
 · refine bool_eq ?_;symm;exact qw BC AL
theorem V4 {e:FQ} {l:List Bz} (hf:e.fits) (he:HT e=true) (Ld:l.length≤24) (hr:∀c∈l,0≤c.BJ∧c.BJ<(e.Dy.length:Nat)):BD prog 51 [agg (Hv e),C_ l] (F8 [reqs (vn e l),int 0]):=by
 refine fo func51 rfl ⟨rfl,rfl⟩ fun M0 w0=>(Tr.D9 0 0 rfl rfl fun EK=> ?_)
 refine a2 ?_
 refine co rfl (C8 (Ih hf) rfl rfl) ?_
 refine an ?_ ?_<;>intro h1 q1
 exact absurd h1 (by rw [if_pos he];decide)
 refine ac ?_
 refine an ?_ ?_<;>intro h2 q2
 exfalso;have:=q2;omega
 refine a2 ?_
 refine Tr.block (Tr.Ax _ (kk [20,19,2,1] rfl) (fun m:Nat=>[(21,int ((m:Nat):Int))]) (fun m:Nat=>m≤(l).length) (fun m:Nat=>(l).length-m) 0 (Nat.zero_le _) kz ?_)
 rintro m Nx
 refine ac ?_
 refine Tr.seq ?_
 refine Tr.cn rfl ?_ ?_<;>intro h3 q3
 have FA:m<(l).length:=AH h3
 obtain ⟨x,EC⟩:=at_ FA
 have hrm:=hr x (List.mem_of_getElem? EC)
 refine ac ?_
 refine Tr.seq (Tr.block (Tr.seq (Tr.A0 (tp rfl (AD rfl underlying32 Be vq vq AA (Ac EC)) (tp rfl (AK rfl CT Be vq rfl rfl) ?_)))))
 refine Tl rfl rfl rfl rfl Km Gz (fun b1=> ?_)
 refine sf 0 7 ⟨rfl,rfl,rfl⟩ rfl rfl rfl rfl ?_
 refine ao ?_
 · repeat' first|(exfalso;have:=hr x (List.mem_of_getElem? EC);omega)|exact Fin.AM (m+1) ⟨FA,by omega⟩ ⟨⟨_,rfl,AF m⟩,kz⟩|refine ac ?_|(refine Tr.cn rfl ?_ ?_<;>intro h q)|(refine Ch.cg rfl rfl rfl ?_ ?_<;>intro h q)
 have LK:m=(l).length:=by have:=AJ h3;omega
 refine a3 ?_
 refine Tr.block (Tr.CB 61 2 (Tr.Ez _ (kk [38,37,2,1] rfl) (fun i v=>[(39,int ((i:Nat):Int)),(8,Ae v (reqs (V1 e l i)))]) (fun i v=>Hp M0 w0 II ([As 61 2 v])) (fun i:Nat=>i≤(l).length) (fun i:Nat=>(l).length-i) 0 (.slice none 0 0) (Nat.zero_le _) ⟨kq,⟨_,rfl,Bu rfl⟩,trivial⟩ (fun _ _ h=>h) ?_))
 rintro i v QH
 refine ac ?_
 refine Tr.seq ?_
 refine Tr.cn rfl ?_ ?_<;>intro h6 q6
 have Fi:i<(l).length:=AH h6
 obtain ⟨x,HJ⟩:=at_ Fi
 have hri:=hr x (List.mem_of_getElem? HJ)
 obtain ⟨ex,hex⟩:=at_ (l:=e.Dy) (k:=x.BJ.toNat) AA
 have mU:=Qp e l i
 have hl2:i*l.length≤24*24:=Nat.mul_le_mul AA Ld
 refine ac ?_
 refine ao ?_
 refine tp rfl (AD rfl underlying32 Be vq vq AA (Ac HJ)) (tp rfl (AK rfl CT Be vq rfl rfl) ?_)
 refine Tl rfl rfl rfl rfl Km Gz (fun b2=> ?_)
 refine tm rfl ?_
 refine sf 0 10 ⟨rfl,rfl,rfl⟩ rfl rfl rfl rfl ?_
 refine ao ?_
 refine wk [39,38,37,10,9,8,2,1] rfl ?_
 refine ac ?_
 refine Tr.block (Tr.Ez _ (kk [45,44,39,38,37,10,9,2,1] rfl) (fun k v=>[(46,int ((k:Nat):Int)),(8,Ae v (reqs (V1 e l i++OI e l i k)))]) (fun k v=>Hp M0 w0 II ([As 61 2 v])) (fun k:Nat=>k≤(l).length) (fun k:Nat=>(l).length-k) 0 v (Nat.zero_le _) ⟨kq,⟨_,rfl,BU (by simp [OI])⟩,trivial⟩ (fun _ _ h=>h) ?_)
 rintro k v BK
 refine ac ?_
 refine Tr.seq ?_
 refine Tr.cn rfl ?_ ?_<;>intro h7 q7
 have Aa:k<(l).length:=AH h7
 obtain ⟨y,AX⟩:=at_ Aa
 have hrk:=hr y (List.mem_of_getElem? AX)
 obtain ⟨ey,hey⟩:=at_ (l:=e.Dy) (k:=y.BJ.toNat) AA
 have Q0:=V2 e l i k
 have hB:lJ e l i k=(N7 e.DL x.BJ y.BJ&&decide (RQ ex x<RQ ey y)):=by unfold lJ YP V0;rw [HJ,AX,Option.getD_some,Option.getD_some,hex,hey];rfl
 refine ac ?_
 refine ao ?_
 refine tp rfl (AD rfl underlying32 Be vq vq AA (Ac AX)) (tp rfl (AK rfl CT Be vq rfl rfl) ?_)
 refine Tl rfl rfl rfl rfl Km Gz (fun b3=> ?_)
 refine tm rfl ?_
 refine sf 0 12 ⟨rfl,rfl,rfl⟩ rfl rfl rfl rfl ?_
 refine ao ?_
 refine wk [46,45,44,39,38,37,12,11,10,9,8,2,1] rfl ?_
 refine ac ?_
 refine co rfl (XC (V3 (e:=e) (a:=x.BJ) (b:=y.BJ)) rfl rfl rfl rfl) ?_
 refine cm rfl ?_
 refine Ch.cs 57 rfl ?_ ?_<;>intro h8 q8
 refine ac ?_
 refine cy h8 rfl (AD rfl underlying27 Gy vq vq AA (Bt hex)) ?_
 refine ac ?_
 refine cy h8 rfl (C4 (SI (e:=ex) (c:=x)) rfl rfl rfl) ?_
 refine ac ?_
 refine cy h8 rfl (AD rfl underlying27 Gy vq vq AA (Bt hey)) ?_
 refine ac ?_
 refine cy h8 rfl (C4 (SI (e:=ey) (c:=y)) rfl rfl rfl) ?_
 refine ac ?_
 refine wk [75,46,45,44,39,38,37,11,10,9,8,2,1] rfl ?_
 refine Tr.cn rfl ?_ ?_<;>intro h9 q9
 refine ao ?_
 refine TO.Ef 0 rfl rfl AB (CN rfl rfl rfl rfl underlying33 B5 TI Ob KR Gx (BQ BI Oc)) (fun v1=> ?_)
 refine ao ?_
 refine wk [46,45,44,39,38,37,10,9,8,2,1] rfl ?_
 refine ac ?_
 exact Fin.Dm (k+1) v1 (⟨Aa,by omega⟩) ⟨⟨_,rfl,AF k⟩,⟨_,rfl,BU (by rw [lK (by rw [hB,h8,h9];rfl),←List.append_assoc];simp;rfl)⟩,kz⟩ (fun _ _ h=>h)
 refine a2 ?_
 exact Fin.Dm (k+1) v (⟨Aa,by omega⟩) ⟨⟨_,rfl,AF k⟩,⟨_,rfl,BU (by rw [aU (by rw [hB,h8,h9];rfl)])⟩,kz⟩ (fun _ _ h=>h)
 refine ac ?_
 refine wk [75,46,45,44,39,38,37,11,10,9,8,2,1] rfl ?_
 refine a2 ?_
 exact Fin.Dm (k+1) v (⟨Aa,by omega⟩) ⟨⟨_,rfl,AF k⟩,⟨_,rfl,BU (by rw [aU (by rw [hB,h8];rfl)])⟩,kz⟩ (fun _ _ h=>h)
 have Az:k=(l).length:=by have:=AJ h7;omega
 subst Az
 refine a2 ?_
 exact Fin.Dm (i+1) v (⟨Fi,by omega⟩) ⟨⟨_,rfl,AF i⟩,⟨_,rfl,BU (by rw [SH])⟩,kz⟩ (fun _ _ h=>h)
 have KS:i=(l).length:=by have:=AJ h6;omega
 subst KS
 refine a2 ?_
 refine Tr.ret (Fin.DO rfl (Bm.Dw _ _) rfl ?_ rfl ?_)
 · exact G3
 · exact Lr
theorem dS {c:Aq} {l:List Bz} (ho:c.own=0):BD prog 64 [GA c,C_ l] (F8 [ints (Jz c l),int (C3 c l)]):=by
 refine fo func64 rfl ⟨rfl,rfl⟩ fun M0 w0=>(Tr.D9 0 1 rfl rfl fun Ij=> ?_)
 refine a2 ?_
 refine co rfl (C4 (Tv (c:=c) (m:=((c.D5.length:Nat):Int))) rfl rfl rfl) ?_
 refine ac ?_
 refine an ?_ ?_<;>intro h1 q1
 exact absurd ho (by unfold Aq.own;simpa using h1)
 refine a2 ?_
 refine co rfl (C4 (Vs (c:=c) (l:=l)) rfl rfl rfl) ?_
 refine ac ?_
 refine wk [5,4] rfl (Tr.ret (Fin.DO rfl (Bm.Dw _ _) rfl ?_ rfl ?_))
 · exact Lr
 · exact Lr
theorem Qq {l:List Bz} {r:List BH} {d:List Int} (WA:∀x∈l,x.HS.small) (hl:l.length≤1000000) (hr:r.length≤1000000) (hd:d.length≤1000000):Tg prog 33 [agg [C_ l,reqs r,ints d]] (fun x=>agg [C_ l,reqs r,is x]) (fun x=>[Bc 3 1 (d.map fun n=>[int n]) x]):=by
 refine Tg.of func33 rfl rfl Al fun M0 w0 S rs M1 w1=>(Tr.D9 0 0 rfl rfl fun EK=>(Tr.seq (Tr.A0 (tp rfl (Cq rfl (Va rfl)) ?_))))
 refine Tl rfl rfl rfl rfl z35 I_ (fun b1=> ?_)
 refine ao ?_
 refine Tr.seq (Tr.pad (Tr.pad (Tr.pad (Tr.rx ?_))))
 refine ax ?_
 refine xo rfl (fun _=>Zq rfl underlying33 B5 TI Ob rfl AB (vl rfl) Mn Da) ?_
 refine ax ?_
 refine Cx.ef 0 rfl rfl AB (Xi rfl rfl AB rfl underlying22 Bg J_ z3 rfl AB AB ⟨_,rfl,FI 1⟩ (vl rfl) Mn Da) ?_
 refine Cx.ef 1 rfl rfl AB (Z5 (d:=12) (s:=11) (p:=fun v=>agg [is (.slice none 0 0),reqs r,Ae v (lens (d.map fun n=>[int n]).length)]) (q:=agg [is (.slice none 0 0),reqs r,lens (d.map fun n=>[int n]).length]) rfl AB (fun _=>Bv ⟨Lr,Lr,A_ _ _,trivial⟩) rfl rfl AB (fun v=>Xm rfl rfl AB (fun _=>Ar (rows:=[(1,[_]),(2,[_])]) rfl Wv I_ ⟨⟨rfl,VL.le (vl rfl) (AP _)⟩,⟨⟨rfl,VL.le (vl rfl) (AP _)⟩,trivial⟩⟩ rfl))) (Cx.ef 2 rfl rfl AB (Gb rfl rfl AB rfl z35 I_) (Cx.Ee 2 rfl rfl (R7 rfl rfl rfl AB rfl rfl (AW _) Ci rfl rfl) ?_))
 refine Cx.nil ⟨by kernel_rfl,?_⟩
 refine BW.mZ 11 rfl (fun v11=> ?_)
 refine BW.mZ 12 rfl (fun v12=> ?_)
 refine BW.mZ 3 rfl (fun v3=> ?_)
 refine BW.qM 0 11 rfl rfl (BW.jt 1 12 11 rfl rfl rfl (BW.jt 2 3 12 rfl rfl rfl (BW.done al5 (Fin.shape 3 (fun b=> .pointer (some ⟨b,0,none⟩)) rfl (fun b9 e9=> ?_)))))
 subst e9
 refine Fin.VV 1 2 rfl rfl (Fin.drop 1 (Fin.go (wk [3,2,1] rfl ?_)))
 refine ac ?_
 refine Tr.block (Tr.HQ 1 [Ae (.slice none 0 0) (C_ (l.take 0)),reqs r,Ae v11 (lens (d.map fun n=>[int n]).length)] rfl ⟨Bu rfl,Lr,Lr,trivial⟩ (Tr.CB 86 8 (Tr.Ez _ (kk [15,14,3,2] rfl) (fun k u=>[(16,int ((k:Nat):Int))]) (fun k u=>Hp M0 w0 S (As 86 8 u::Bc 3 1 (d.map fun n=>[int n]) v11::AE true b9 35 [Ae u (C_ (l.take k)),reqs r,Ae v11 (lens (d.map fun n=>[int n]).length)]::AE true b1 35 (([.slice none 0 0,.slice none 0 0,.slice none 0 0]:List Value).map is)::Ak M1 w1::rs)) (fun k:Nat=>k≤(l).length) (fun k:Nat=>(l).length-k) 0 (.slice none 0 0) (Nat.zero_le _) kz (fun _ _ h=>h) ?_)))
 rintro k u BK
 refine ac ?_
 refine Tr.seq ?_
 refine Tr.cn rfl ?_ ?_<;>intro h1 q1
 have Aa:k<(l).length:=AH h1
 obtain ⟨x,AX⟩:=at_ Aa
 refine ac ?_
 refine Tr.seq (Tr.block (Tr.seq (Tr.A0 (tp rfl (AD rfl underlying32 Be (vl rfl) (vl rfl) AA (Ac AX)) (tp rfl (AK rfl CT Be (vl rfl) rfl rfl) ?_)))))
 refine Tl rfl rfl rfl rfl Km Gz (fun b10=> ?_)
 refine sf 0 5 ⟨rfl,rfl,rfl⟩ rfl rfl rfl rfl ?_
 refine ao ?_
 refine Tr.pad (Tr.rx ?_)
 refine ax ?_
 refine xo rfl (fun _=>C8 (YO (c:=x) (WA x (List.mem_of_getElem? AX))) rfl rfl) ?_
 refine xo rfl (fun _=>AQ (xs:=[.tmp 23]) (rows:=[_]) rfl rfl underlying32 Be Km rfl AB ⟨⟨Ab,(Va rfl)⟩,trivial⟩ AB) ?_
 refine Cx.ef 1 rfl rfl AB (CN rfl rfl rfl rfl underlying32 Be TL Km (Kb rfl) (Kf rfl) (BQ BI (Ka rfl))) ?_
 refine xo rfl (fun _=>AY rfl IQ (vl rfl)) (Cx.Ee 3 rfl rfl (Ga rfl rfl rfl (vl rfl) rfl xx Al) ?_)
 refine Cx.nil ⟨by kernel_rfl,?_⟩
 refine BW.Rc 1 3 25 rfl rfl AB rfl (fun v1=> ?_)
 refine BW.done al6 ?_
 refine ac ?_
 refine Tr.drop 0 (wk [16,15,14,3,2] rfl ?_)
 refine ac ?_
 refine Fin.HQ 2 [Ae v1 (C_ (l.take (k+1))),reqs r,Ae v11 (lens (d.map fun n=>[int n]).length)] rfl ⟨BU Y8,Lr,Lr,trivial⟩ ?_
 exact Fin.Dm (k+1) v1 (⟨Aa,by omega⟩) ⟨⟨_,rfl,AF k⟩,kz⟩ (fun _ _ h=>h)
 have Az:k=(l).length:=by have:=AJ h1;omega
 subst Az
 rw [List.take_length]
 refine ac ?_
 refine ao ?_
 refine TO.Aj 3 rfl rfl rfl (vl rfl) (Va rfl) rfl Ci rfl rfl ?_
 refine ao ?_
 refine Tr.ret (Fin.drop 0 (Fin.drop 1 (Fin.JY (Fin.yy v11 [_] rfl (A7.cell 0 rfl rfl C5 Ci rfl Lr) ?_ (List.Perm.refl _)))))
 · exact Bv ⟨A_ _ _,Lr,EU _ _,trivial⟩
section
variable {P:Program} {I:CS} {E:Env} {o:Oper}
end
structure sq (e:FQ) (i:Int) (x:La) (c s:E4):Prop where
 i0:0≤i
 hx:e.DL[i.toNat]? =some x
 c0:0≤x.client
 s0:0≤x.server
 hc:e.Dy[x.client.toNat]? =some c
 hs:e.Dy[x.server.toNat]? =some s
 cs:c.small
 ss:s.small
theorem sq.li {e:FQ} {i:Int} {x:La} {c s:E4} (h:sq e i x c s):i.toNat<e.DL.length:=by
 have:=h.hx
 rcases Nat.lt_or_ge i.toNat e.DL.length with h'|h'
 · exact h'
 · rw [List.getElem?_eq_none h'] at this;cases this
section
variable {P:Program} {I:CS} {E:Env} {o:Oper}
end
def Gv (n:Nat) (m:Nat→Nat→Bool):List (List Bool):=(List.range n).map fun a=>(List.range n).map (m a)
theorem IA (n:Nat) (m:Nat→Nat→Bool):(Gv n m).length=n:=by unfold Gv;simp
theorem KO {n:Nat} (m:Nat→Nat→Bool) {a:Nat} (h:a<n):(Gv n m)[a]? =some ((List.range n).map (m a)):=by
 unfold Gv;rw [List.getElem?_map,List.getElem?_range h];rfl
theorem KP {n:Nat} (m:Nat→Bool) {b:Nat} (h:b<n):((List.range n).map m)[b]? =some (m b):=by
 rw [List.getElem?_map,List.getElem?_range h];rfl
theorem SJ {n:Nat} {m m':Nat→Nat→Bool} (h:kM n m m'):Gv n m=Gv n m':=by
 unfold Gv
 refine List.map_congr_left fun a ha=>List.map_congr_left fun b hb=>h a b (List.mem_range.1 ha) (List.mem_range.1 hb)
theorem lM {n:Nat} {m:Nat→Nat→Bool} {i j:Nat} (hi:i<n) (hj:j<n):(Gv n m).set i (((List.range n).map (m i)).set j true)=Gv n (T3 m i j):=by
 apply List.ext_getElem?
 intro a
 rw [List.getElem?_set]
 by_cases h:i=a
 ·
  subst h
  rw [if_pos rfl,if_pos (by rw [IA];exact hi),KO _ hi]
  congr 1
  apply List.ext_getElem?
  intro b
  rw [List.getElem?_set]
  by_cases h2:j=b
  ·
   subst h2
   rw [if_pos rfl,if_pos Fo,KP _ hj]
   unfold T3;rw [if_pos ⟨rfl,rfl⟩]
  ·
   rw [if_neg h2]
   rcases Nat.lt_or_ge b n with hb|hb
   · rw [KP _ hb,KP _ hb];unfold T3;rw [if_neg (fun h3=>h2 h3.2.symm)]
   · rw [List.getElem?_eq_none Ge,List.getElem?_eq_none Ge]
 ·
  rw [if_neg h]
  rcases Nat.lt_or_ge a n with ha|ha
  ·
   rw [KO _ ha,KO _ ha]
   congr 1
   refine List.map_congr_left fun b _=> ?_
   unfold T3;rw [if_neg (fun h3=>h h3.1.symm)]
  · rw [List.getElem?_eq_none (by rw [IA];exact ha),List.getElem?_eq_none (by rw [IA];exact ha)]
theorem YQ {l:List BH} {q:Nat} {r:BH} (h:l[q]? =some r) (h0:0≤r.fst) (h1:0≤r.thn):F2 (l.take (q+1))=T3 (F2 (l.take q)) r.fst.toNat r.thn.toNat:=by
 funext a b
 have e:l.take (q+1)=l.take q++[r]:=by rw [List.take_add_one,h];rfl
 unfold F2 T3
 rw [e,List.any_append]
 by_cases hc:a=r.fst.toNat∧b=r.thn.toNat
 ·
  have h2:([r].any fun r=>decide (r.fst=(a:Int))&&decide (r.thn=(b:Int)))=true:=by simp;omega
  rw [if_pos hc,h2,Bool.or_true]
 ·
  have h2:([r].any fun r=>decide (r.fst=(a:Int))&&decide (r.thn=(b:Int)))=false:=by simp;omega
  rw [if_neg hc,h2,Bool.or_false]
theorem dU (n:Nat) (l:List BH):Gv n (F2 (l.take 0))=List.replicate n (List.replicate n false):=by
 unfold Gv F2
 rw [List.eq_replicate_iff]
 refine ⟨by simp,fun b hb=> ?_⟩
 obtain ⟨a,_,rfl⟩:=List.mem_map.1 hb
 rw [List.eq_replicate_iff]
 refine ⟨by simp,fun c hc=> ?_⟩
 obtain ⟨d,_,rfl⟩:=List.mem_map.1 hc
 simp
abbrev slv (n:Nat) (x:Nat×List Bool):Value:=J8 n x.1
abbrev AD1 (n:Nat) (m:Nat→Nat→Bool):Pr:=slice 1 ((Gv n m).map fun row=>[slice 1 (row.map fun b=>[bool b])])
theorem NO {n:Nat} {m:Nat→Nat→Bool} {X:List (Nat×List Bool)} {a:Nat} {x:Nat×List Bool} (hX:X.map (·.2)=Gv n m) (hx:X[a]? =some x) (ha:a<n):x.2=(List.range n).map (m a):=by
 have h:=congrArg (fun l=>l[a]?) hX
 simp only [List.getElem?_map,hx,Option.map_some] at h
 rw [KO m ha] at h
 simpa using h
theorem aV {n:Nat} {m:Nat→Nat→Bool} {X:List (Nat×List Bool)} {i j:Nat} {x:Nat×List Bool} (hX:X.map (·.2)=Gv n m) (hx:X[i]? =some x) (hi:i<n) (hj:j<n):(X.set i (x.1,x.2.set j true)).map (·.2)=Gv n (T3 m i j):=by
 rw [List.map_set,hX,NO hX hx hi];exact lM hi hj
theorem aW {e:TypeId} {X:List (Nat×List Bool)} {k:Nat} {x:Nat×List Bool} (h:X[k]? =some x):(Gw (Gs e) X)[k]? =some (AE true x.1 e (x.2.map fun b=>bool b)):=Z6 (f:=fun x:Nat×List Bool=>AE true x.1 e (x.2.map fun b=>bool b)) h
theorem lN {n:Nat} {m:Nat→Nat→Bool} {X:List (Nat×List Bool)} {a c:Nat} {x:Nat×List Bool} (hX:X.map (·.2)=Gv n m) (hx:X[a]? =some x) {v:Bool} (ha:a<n) (hc:c<n) (hv:m a c=v):(x.2.map fun b=>bool b)[0+c*1]? =some (bool v):=by
 subst hv
 rw [NO hX hx ha,Nat.zero_add,Nat.mul_one,List.getElem?_map,KP _ hc];rfl
theorem lO {n:Nat} {m:Nat→Nat→Bool} {X:List (Nat×List Bool)} (hX:X.map (·.2)=Gv n m):∀x∈X,x.2.length=n:=fun x hx=>by
 obtain ⟨i,hi⟩:=List.mem_iff_getElem?.1 hx
 have hl:i<n:=by
  have h:=congrArg List.length hX
  rw [List.length_map,IA] at h
  rcases Nat.lt_or_ge i X.length with h'|h'
  · omega
  · rw [List.getElem?_eq_none h'] at hi;cases hi
 rw [NO hX hi hl,List.length_map,List.length_range]
theorem lP {n:Nat} {m:Nat→Nat→Bool} {X:List (Nat×List Bool)} (hX:X.map (·.2)=Gv n m):(X.map fun x=>[slice 1 (x.2.map fun b=>[bool b])])=(Gv n m).map fun row=>[slice 1 (row.map fun b=>[bool b])]:=by rw [←hX,List.map_map];rfl
theorem aX {l:List Bool} {j:Nat} (h:j<l.length):List.take (0+j*1) (l.map fun b=>bool b)++[is (Value.bool true)]++List.drop (0+j*1+1) (l.map fun b=>bool b)=(l.set j true).map fun b=>bool b:=by
 rw [List.map_set,List.set_eq_take_append_cons_drop,if_pos DM];simp
theorem Qr {X:List (Nat×List Bool)} {bs:List Nat} {i:Nat} {x:Nat×List Bool} (h:X.map (·.1)=bs) (hx:X[i]? =some x):bs[i]? =some x.1:=by rw [←h,List.getElem?_map,hx];rfl
theorem aY {X:List (Nat×List Bool)} {bs:List Nat} {i:Nat} {x:Nat×List Bool} {r:List Bool} (h:X.map (·.1)=bs) (hx:X[i]? =some x):(X.set i (x.1,r)).map (·.1)=bs:=by
 have hb:=Qr h hx
 rw [List.map_set,h]
 apply List.ext_getElem?
 intro k
 rw [List.getElem?_set]
 split
 · rename_i e;subst e;rw [if_pos (by rcases Nat.lt_or_ge i bs.length with h'|h';exact h';rw [List.getElem?_eq_none h'] at hb;cases hb),hb]
 · rfl
theorem SK {n:Nat} {l:List BH} (hn:n≤24) (hl:l.length≤1000000) (hr:∀r∈l,(0≤r.fst∧r.fst<(n:Nat))∧0≤r.thn∧r.thn<(n:Nat)):BD prog 116 [int ((n:Nat):Int),reqs l] (AD1 n (Cu l n)):=by
 refine fo func116 rfl ⟨rfl,rfl⟩ fun M0 w0=> ?_
 refine a3 ?_
 refine Tr.block (Tr.CB 160 1 (Tr.Hq _ (kk [11,1,0] rfl) (fun (X:List (Nat×List Bool)) (k:Nat) u=>[(12,int ((k:Nat):Int)),(5,Ae u (slice 1 (X.map fun x=>[is (slv n x)])))]) (fun (X:List (Nat×List Bool)) (k:Nat) u=>Hp M0 w0 II (As 160 1 u::Gw (Gs 4) X)) (fun (X:List (Nat×List Bool)) (k:Nat)=>(k≤n∧X.length=k)∧X.map (·.2)=List.replicate k (List.replicate n false)) (fun (X:List (Nat×List Bool)) (k:Nat)=>n-k) ([]) (0) (.slice none 0 0) (⟨⟨Nat.zero_le _,rfl⟩,rfl⟩) ⟨kq,⟨_,rfl,Bu rfl⟩,trivial⟩ (fun _ _ h=>h) ?_))
 rintro X k u ⟨⟨hkn,hXl⟩,hX⟩
 refine ac ?_
 refine Tr.seq ?_
 refine Tr.cn rfl ?_ ?_<;>intro h1 q1
 have hk:k<n:=AH h1
 refine ac ?_
 refine ao ?_
 refine TO.ZS rfl rfl AB rfl underlying160 gF by4 z4 rfl vq vq HI AA (fun b1=> ?_)
 refine tp rfl (AQ (xs:=[.tmp 16]) (rows:=[[is (J8 n b1)]]) rfl rfl underlying158 Nl z160 rfl AB ⟨⟨Ab,VL.le vq (AP _)⟩,trivial⟩ AB) ?_
 refine TO.Ef 1 rfl rfl AB (CN rfl rfl rfl rfl underlying158 Nl yJ z160 KR Gx (BQ BI Oc)) (fun v1=> ?_)
 refine ao ?_
 refine ac ?_
 refine Fin.eqC 0 ((List.replicate n false).map fun b=>bool b) rfl jv (Fin.fold (res:=Gs 4) [_] (b1,List.replicate n false) rfl ?_)
 exact Fin.CI (X++[(b1,List.replicate n false)]) (k+1) v1 (⟨⟨⟨by omega,by simp;omega⟩,by rw [List.map_append,hX,List.replicate_succ'];rfl⟩,by omega⟩) ⟨⟨_,rfl,AF k⟩,⟨_,rfl,BU Ex⟩,kz⟩ (fun _ _ h=>h)
 have hk:=AJ h1
 refine a2 ?_
 refine Tr.block ?_
 obtain ⟨bs,hbs⟩:∃bs,X.map (·.1)=bs:=⟨_,rfl⟩
 refine Tr.re 5 rfl (Pr.le_trans (A_ _ _) (Pr.le_of_eq (show _=slice 1 (bs.map fun b=>[is (J8 n b)]) by rw [←hbs,List.map_map];rfl))) ?_
 refine Tr.drop 0 (Tr.DU _ (kk [21,20,5,0] rfl) (fun (X1:List (Nat×List Bool)) (q:Nat)=>[(22,int ((q:Nat):Int))]) (fun (X1:List (Nat×List Bool)) (q:Nat)=>Hp M0 w0 II (Gw (Gs 4) X1)) (fun (X1:List (Nat×List Bool)) (q:Nat)=>q≤l.length∧(X1.map (·.1)=bs∧X1.map (·.2)=Gv n (F2 (l.take q)))) (fun (X1:List (Nat×List Bool)) (q:Nat)=>l.length-q) (X) (0)  (⟨Nat.zero_le _,hbs,by rw [hX,dU,show k=n by omega]⟩) kz (fun _ _ h=>h) ?_)
 rintro X1 q  ⟨hq0,Lu,hX1⟩
 refine ac ?_
 refine Tr.seq ?_
 refine Tr.cn rfl ?_ ?_<;>intro h2 q2
 have hq:q<l.length:=AH h2
 obtain ⟨r,hrq⟩:=at_ hq
 have YK:=hr r (List.mem_of_getElem? hrq)
 have AE6:X1.length=n:=by have:=congrArg List.length hX1;rw [List.length_map,IA] at this;exact this
 obtain ⟨x,hx⟩:=at_ (l:=X1) (k:=r.fst.toNat) AA
 have hxl:x.2.length=n:=by rw [NO hX1 hx AA,List.length_map,List.length_range]
 refine ac ?_
 refine Tr.seq (Tr.block (Tr.seq (Tr.A0 (tp rfl (AD rfl underlying33 B5 vq vq AA (Ac hrq)) (tp rfl (AK rfl EI B5 vq rfl rfl) ?_)))))
 refine Tl rfl rfl rfl rfl Ob L5 (fun b2=> ?_)
 refine sf 0 7 ⟨rfl,rfl,rfl⟩ rfl rfl rfl rfl ?_
 refine ao ?_
 refine Tr.focus [] hx rfl (Tr.rx ?_)
 refine ay ?_
 refine xo rfl (fun _=>AD rfl underlying158 Nl vq vq AA (Bt (Qr Lu hx))) ?_
 refine ay ?_
 refine xo rfl (fun _=>BE rfl underlying160 gF vq vq AA AA) ?_
 refine Cx.Ee 0 rfl rfl (A9 rfl rfl vq DK gF rfl Da rfl) ?_
 refine Cx.nil ⟨by kernel_rfl,?_⟩
 refine BW.done al1 ?_
 refine ac ?_
 refine wk [22,21,20,5,0] rfl ?_
 refine ac ?_
 refine Fin.eqC 0 ((x.2.set r.thn.toNat true).map fun b=>bool b) rfl (aX AA) (Fin.Td (res:=Gs 4) [] (x.1,x.2.set r.thn.toNat true) (show r.fst.toNat<X1.length by omega) rfl ?_)
 exact Fin.DG (X1.set r.fst.toNat (x.1,x.2.set r.thn.toNat true)) (q+1)  (⟨⟨by omega,aY Lu hx,by rw [YQ hrq YK.1.1 YK.2.1];exact aV hX1 hx AA AA⟩,by omega⟩) ⟨⟨_,rfl,AF q⟩,kz⟩ (fun _ _ h=>h)
 have hq:=AJ h2
 refine a2 ?_
 refine Tr.block ?_
 refine Tr.DU _ (kk [35,5,0] rfl) (fun (X2:List (Nat×List Bool)) (k2:Nat)=>[(36,int ((k2:Nat):Int))]) (fun (X2:List (Nat×List Bool)) (k2:Nat)=>Hp M0 w0 II (Gw (Gs 4) X2)) (fun (X2:List (Nat×List Bool)) (k2:Nat)=>k2≤n∧(X2.map (·.1)=bs∧X2.map (·.2)=Gv n (Cu l k2))) (fun (X2:List (Nat×List Bool)) (k2:Nat)=>n-k2) (X1) (0)  (⟨Nat.zero_le _,Lu,by rw [hX1,List.take_of_length_le hq];rfl⟩) kz (fun _ _ h=>h) ?_
 rintro X2 k2  ⟨hk2,Q1,hX2⟩
 refine ac ?_
 refine Tr.seq ?_
 refine Tr.cn rfl ?_ ?_<;>intro h3 q3
 have AE7:k2<n:=AH h3
 refine a3 ?_
 refine Tr.block ?_
 refine Tr.DU _ (kk [39,36,35,8,5,0] rfl) (fun (X3:List (Nat×List Bool)) (i:Nat)=>[(40,int ((i:Nat):Int))]) (fun (X3:List (Nat×List Bool)) (i:Nat)=>Hp M0 w0 II (Gw (Gs 4) X3)) (fun (X3:List (Nat×List Bool)) (i:Nat)=>i≤n∧(X3.map (·.1)=bs∧X3.map (·.2)=Gv n (Ip k2 (Cu l k2) i 0))) (fun (X3:List (Nat×List Bool)) (i:Nat)=>n-i) (X2) (0)  (⟨Nat.zero_le _,Q1,by rw [AAn];exact hX2⟩) kz (fun _ _ h=>h) ?_
 rintro X3 i  ⟨hi0,hb3,hX3⟩
 refine ac ?_
 refine Tr.seq ?_
 refine Tr.cn rfl ?_ ?_<;>intro h4 q4
 have FU:i<n:=AH h4
 refine a3 ?_
 refine Tr.block (Tr.DU _ (kk [43,40,39,36,35,9,8,5,0] rfl) (fun (X4:List (Nat×List Bool)) (j:Nat)=>[(44,int ((j:Nat):Int))]) (fun (X4:List (Nat×List Bool)) (j:Nat)=>Hp M0 w0 II (Gw (Gs 4) X4)) (fun (X4:List (Nat×List Bool)) (j:Nat)=>j≤n∧(X4.map (·.1)=bs∧X4.map (·.2)=Gv n (Ip k2 (Cu l k2) i j))) (fun (X4:List (Nat×List Bool)) (j:Nat)=>n-j) (X3) (0)  (⟨Nat.zero_le _,hb3,hX3⟩) kz (fun _ _ h=>h) ?_)
 rintro X4 j  ⟨hj0,hb4,hX4⟩
 refine ac ?_
 refine Tr.seq ?_
 refine Tr.cn rfl ?_ ?_<;>intro h5 q5
 have hjl:j<n:=AH h5
 have AE8:X4.length=n:=by have:=congrArg List.length hX4;rw [List.length_map,IA] at this;exact this
 obtain ⟨xi,hxi⟩:=at_ (l:=X4) (k:=i) AA
 obtain ⟨xk,hxk⟩:=at_ (l:=X4) (k:=k2) AA
 have AE9:xi.2.length=n:=by rw [NO hX4 hxi AA,List.length_map,List.length_range]
 have AE_:xk.2.length=n:=by rw [NO hX4 hxk AA,List.length_map,List.length_range]
 refine a3 ?_
 refine co rfl (AD rfl underlying158 Nl vq vq AA (Ac (Qr hb4 hxi))) ?_
 refine ac ?_
 refine co rfl (BE rfl underlying160 gF vq vq AA AA) ?_
 refine co rfl (CY i (aW hxi) (Ay rfl gG vq (lN (c:=k2) hX4 hxi AA AA (qV k2 (Cu l k2) i j i)))) ?_
 refine cm rfl ?_
 refine Ch.cs 54 rfl ?_ ?_<;>intro h6 q6
 refine ac ?_
 refine cy h6 rfl (AD rfl underlying158 Nl vq vq AA (Ac (Qr hb4 hxk))) ?_
 refine ac ?_
 refine cy h6 rfl (BE rfl underlying160 gF vq vq AA AA) ?_
 refine cy h6 rfl (CY k2 (aW hxk) (Ay rfl gG vq (lN (c:=j) hX4 hxk AA AA (qW k2 (Cu l k2) i j j)))) ?_
 refine ac ?_
 refine wk [62,44,43,40,39,36,35,10,9,8,5,0] rfl ?_
 refine Tr.cn rfl ?_ ?_<;>intro h7 q7
 refine Tr.focus [] hxi rfl ?_
 refine ao ?_
 refine tp rfl (AD rfl underlying158 Nl vq vq AA (Ac (Qr hb4 hxi))) ?_
 refine ao ?_
 refine tp rfl (BE rfl underlying160 gF vq vq AA AA) ?_
 refine TO.Ee 0 rfl rfl (A9 rfl rfl vq DK gF rfl Da rfl) ?_
 refine ao ?_
 refine wk [44,43,40,39,36,35,9,8,5,0] rfl ?_
 refine ac ?_
 refine Fin.eqC 0 ((xi.2.set j true).map fun b=>bool b) rfl (aX AA) (Fin.Td (res:=Gs 4) [] (xi.1,xi.2.set j true) (show i<X4.length by omega) rfl ?_)
 exact Fin.DG (X4.set i (xi.1,xi.2.set j true)) (j+1)  (⟨⟨by omega,aY hb4 hxi,(by rw [←qX BC BC];exact aV hX4 hxi AA AA)⟩,by omega⟩) ⟨⟨_,rfl,AF j⟩,kz⟩ (fun _ _ h=>h)
 refine a2 ?_
 exact Fin.DG (X4) (j+1)  (⟨⟨by omega,hb4,(by rw [←kL Cc];exact hX4)⟩,by omega⟩) ⟨⟨_,rfl,AF j⟩,kz⟩ (fun _ _ h=>h)
 refine ac ?_
 refine wk [62,44,43,40,39,36,35,10,9,8,5,0] rfl ?_
 refine a2 ?_
 exact Fin.DG (X4) (j+1)  (⟨⟨by omega,hb4,(by rw [←kL Cc];exact hX4)⟩,by omega⟩) ⟨⟨_,rfl,AF j⟩,kz⟩ (fun _ _ h=>h)
 have hje:=AJ h5
 refine a2 ?_
 exact Fin.DG (X4) (i+1)  (⟨⟨by omega,hb4,by rw [hX4,show j=n by omega];exact SJ kN⟩,by omega⟩) ⟨⟨_,rfl,AF i⟩,kz⟩ (fun _ _ h=>h)
 have hie:=AJ h4
 refine a2 ?_
 exact Fin.DG (X3) (k2+1)  (⟨⟨by omega,hb3,by rw [hX3,show i=n by omega];exact SJ qY⟩,by omega⟩) ⟨⟨_,rfl,AF k2⟩,kz⟩ (fun _ _ h=>h)
 have AFA:=AJ h3
 refine ac ?_
 refine Tr.seq ?_
 have AD2:k2=n:=by omega
 refine Tr.qP (m:=n) (X:=X2) [] 5 rfl HI (lO hX2) rfl (Pr.le_of_eq (by rw [←Q1,List.map_map];rfl)) ?_
 refine Tr.drop 0 ?_
 refine a2 ?_
 · subst AD2;exact Pr.le_of_eq (congrArg (slice 1) (lP hX2))
theorem YR {n:Int} {l:List BH} (hl:l.length≤1000000):BD prog 144 [int n,reqs l] (int (Am n l)):=by
 refine fo func144 rfl ⟨rfl,rfl⟩ fun M0 w0=>(Tr.CM 1 rfl fun Fz=> ?_)
 refine ac ?_
 refine ag ?_ ?_<;>intro h1 q1
 refine a3 ?_
 · exact int_eq (KL AA).symm
 refine an ?_ ?_<;>intro h2 q2
 refine a2 ?_
 · exact int_eq (KL AA).symm
 obtain ⟨N,rfl⟩:∃N:Nat,n=(N:Int):=⟨n.toNat,by omega⟩
 refine a2 ?_
 refine Tr.block (Tr.Ax _ (kk [17,16,1,0] rfl) (fun k:Nat=>[(18,int ((k:Nat):Int))]) (fun k:Nat=>k≤(l).length∧(∀j y,j<k→l[j]? =some y→Eg N y=false)) (fun k:Nat=>(l).length-k) 0 (⟨Nat.zero_le _,fun j y hj=>absurd hj AA⟩) kz ?_)
 rintro k ⟨BK,AL⟩
 refine ac ?_
 refine Tr.seq ?_
 refine Tr.cn rfl ?_ ?_<;>intro h3 q3
 have Aa:k<(l).length:=AH h3
 obtain ⟨r,AX⟩:=at_ Aa
 refine ac ?_
 refine Tr.seq (Tr.block (Tr.seq (Tr.A0 (tp rfl (AD rfl underlying33 B5 vq vq AA (Ac AX)) (tp rfl (AK rfl EI B5 vq rfl rfl) ?_)))))
 refine Tl rfl rfl rfl rfl Ob L5 (fun b1=> ?_)
 refine sf 0 6 ⟨rfl,rfl,rfl⟩ rfl rfl rfl rfl ?_
 refine ao ?_
 · repeat' first|(exact int_eq (O8 AA AX s7).symm)|(exact Fin.AM (k+1) ⟨⟨Aa,CJ (p:=Eg N) AX Y9 AL⟩,by omega⟩ ⟨⟨_,rfl,AF k⟩,kz⟩)|refine ac ?_|(refine Tr.cn rfl ?_ ?_<;>intro h q)|(refine Ch.cg rfl rfl rfl ?_ ?_<;>intro h q)
 have Az:k=(l).length:=by have:=AJ h3;omega
 subst Az
 have hbs:=aL AL
 have YK:∀r∈l,(0≤r.fst∧r.fst<(N:Nat))∧0≤r.thn∧r.thn<(N:Nat):=fun r hr=>by
  have h_:=hbs r hr
  unfold Eg at h_;rw [decide_eq_false_iff_not] at h_;omega
 refine a2 ?_
 refine Tr.block (Tr.Pf _ (kk [1,0] rfl) (fun (i:Nat)=>[(7,int ((i:Nat):Int))]) (fun (i:Nat)=>Hp M0 w0 II ([])) (fun (i:Nat)=>(1≤i∧(i≤l.length∨i=1))∧∀(j:Nat) a b,j+1<i→l[j]? =some a→l[j+1]? =some b→Ea a b=true) (fun (i:Nat)=>l.length-i) (1)  (⟨⟨by omega,.inr rfl⟩,fun j a b hj=>absurd hj AA⟩) kz (fun _ _ h=>h) ?_)
 rintro i  ⟨⟨hi1,hi2⟩,hso⟩
 refine an ?_ ?_<;>intro h9 q9
 have FU:i<l.length:=AH h9
 obtain ⟨x,hx⟩:=at_ FU
 obtain ⟨y,hy⟩:=at_ (l:=l) (k:=i-1) AA
 · repeat' first|exact int_eq (T_ AA hbs AA hy hx Cc).symm|(exact Fin.S_ (i+1)  (⟨⟨⟨by omega,.inl AA⟩,Jy hx (fun z _ hz=>by rw [hy] at hz;cases hz;simp_all) hso⟩,by omega⟩) ⟨⟨_,rfl,AF i⟩,kz⟩ (fun _ _ h=>h))|(refine co rfl (AD rfl underlying33 B5 vq vq AA (by rw [show ((i:Nat):Int)-1=((i-1:Nat):Int) by omega];exact Ac hy)) ?_)|refine co rfl (AD rfl underlying33 B5 vq vq AA (Ac hx)) (co rfl (AK rfl EI B5 vq rfl rfl) (co rfl (C4 (R_) rfl rfl rfl) ?_))|refine ac ?_|(refine Tr.cn rfl ?_ ?_<;>intro h q)
 have hie:=AJ h9
 have me:Dg l=true:=Qm fun j a b hj=>hso j a b AA
 refine a2 ?_
 refine co rfl (C4 (SK (n:=N) (l:=l) AA hl YK) rfl rfl rfl) ?_
 refine a2 ?_
 refine Tr.block (Tr.Pf _ (kk [70,8] rfl) (fun (m:Nat)=>[(71,int ((m:Nat):Int))]) (fun (m:Nat)=>Hp M0 w0 II ([])) (fun (m:Nat)=>m≤N∧∀i,i<m→Cu l N i i=false) (fun (m:Nat)=>N-m) (0)  (⟨Nat.zero_le _,fun i hi=>absurd hi AA⟩) kz (fun _ _ h=>h) ?_)
 rintro m  ⟨hm0,hwn⟩
 refine ac ?_
 refine Tr.seq ?_
 refine Tr.cn rfl ?_ ?_<;>intro h11 U7
 have hm:m<N:=AH h11
 · repeat' first|exact int_eq (Ql AA hbs me hm BC).symm|(exact Fin.S_ (m+1)  (⟨⟨by omega,fun i hi=>by rcases Nat.lt_or_eq_of_le (Nat.le_of_lt_succ hi) with h_|h_;exact hwn i h_;(subst h_;assumption)⟩,by omega⟩) ⟨⟨_,rfl,AF m⟩,kz⟩ (fun _ _ h=>h))|refine co rfl (AD rfl underlying158 Nl vq vq AA (Ac (KO _ hm))) ?_|refine co rfl (AD rfl underlying160 gF vq vq AA (Ac (KP _ hm))) ?_|refine ac ?_|(refine Tr.cn rfl ?_ ?_<;>intro h q)
 have hme:=AJ h11
 refine a3 ?_
 · exact int_eq (UA AA hbs me fun i hi=>hwn i AA).symm
theorem LV {n:Int} {l:List BH} (hl:l.length≤1000000):BD prog 81 [int n,reqs l] (int (Am n l)):=by
 refine fo func81 rfl ⟨rfl,rfl⟩ fun M0 w0=> ?_
 refine a2 ?_
 refine co rfl (C4 (YR hl) rfl rfl rfl) ?_
 refine a2 ?_
 · exact Lr
abbrev sets (l:List (List Int)):Pr:=slice 1 (l.map fun s=>[ints s])
structure AD3 (l:List (List Int)) (s:List Int) (z:List (List Int)):Prop where
 mem:∀x∈z,x∈l∨x=s
 le:z.length≤l.length+1
 ge:l.length≤z.length
theorem SL (n:Nat) (l:List BH):∀k,(Bj n l k).2.length≤k
 |0=>Nat.le_refl _
 |k+1=>by
  have h:=SL n l k
  rw [Bj]
  split
  · omega
  ·
   rename_i x _
   have h2:=dA (Bj n l k).2 x true
   show (EF (Bj n l k).2 x true).length≤k+1
   omega
theorem YS {n:Int} {l:List BH} (hl:l.length≤1000000):BD prog 103 [int n,reqs l] (F8 [ints (if Am n l=0 then (Bj n.toNat l n.toNat).1 else []),int (Am n l)]):=by
 refine fo func103 rfl ⟨rfl,rfl⟩ fun M0 w0=> ?_
 refine a2 ?_
 refine co rfl (C4 (LV hl) rfl rfl rfl) ?_
 refine ac ?_
 refine an ?_ ?_<;>intro h1 q1
 have hv:Am n l≠0:=by simpa using h1
 refine ac ?_
 refine Tr.ret (Fin.AG (Fin.DO rfl (Bm.Dw _ _) rfl ?_ rfl ?_))
 · rw [if_neg hv];exact Ai 1
 · exact Lr
 have hv:Am n l=0:=by simpa using h1
 obtain ⟨N,rfl⟩:∃N:Nat,n=(N:Int):=⟨n.toNat,by have:=(CV hv).1;omega⟩
 have Ld:=(CV hv).1
 refine a2 ?_
 refine Tr.seq (Tr.block (Tr.CB 3 1 (Tr.Uk _ (kk [1,0] rfl) (fun (k:Nat) u=>[(7,ints (Bj N l k).2),(8,Ae u (ints (Bj N l k).1))]) (fun (k:Nat) u=>Hp M0 w0 II ([As 3 1 u])) (fun (k:Nat)=>k≤N) (fun (k:Nat)=>N-k) (0) (.slice none 0 0) (Nat.zero_le _) ⟨⟨_,rfl,Ai 1⟩,⟨_,rfl,Bu rfl⟩,trivial⟩ (fun _ _ h=>h) ?_)))
 rintro k u hkN
 have hrow:=Eb hv k (by simpa using hkN)
 rw [Int.toNat_natCast] at hrow
 obtain ⟨YK,hrl⟩:=hrow
 have UP:(Bj N l k).2.length≤100000:=Nat.le_trans (SL N l k) AA
 refine ac ?_
 refine co rfl (Bn rfl underlying51 KR) ?_
 refine an ?_ ?_<;>intro h2 q2
 have hk:k<N:=by have:=Df.EA h2;omega
 obtain ⟨x,hx0,hst⟩:=N3 hv (k:=k) OS
 rw [Int.toNat_natCast] at hx0 hst
 have AAw:=Ac (f:=fun n:Int=>[int n]) hx0
 refine a2 ?_
 refine co rfl (kc4 (N5 (n:=N) (l:=l) AA AA) rfl rfl rfl rfl rfl) ?_
 refine ac ?_
 refine Tr.pad (Tr.rx ?_)
 refine ay ?_
 refine xo rfl (fun _=>AD rfl underlying51 Bg vq vq AA AAw) (xo rfl (fun _=>GI rfl CX rfl) (xo rfl (fun _=>AQ (xs:=[.tmp 27]) (rows:=[[_]]) rfl rfl underlying51 Bg z3 rfl AB ⟨⟨Ab,DK⟩,trivial⟩ AB) ?_))
 refine Cx.ef 1 rfl rfl AB (CN rfl rfl rfl rfl underlying51 Bg J_ z3 KR Gx (BQ BI Oc)) ?_
 refine ay ?_
 refine xo rfl (fun _=>AD rfl underlying51 Bg vq vq AA AAw) (xo rfl (fun _=>GI rfl CX rfl) (xo rfl (fun _=>XC (SC AA) rfl rfl rfl rfl) (Cx.ef 1 rfl rfl AB (OX rfl rfl AB rfl vq) (xm rfl ?_))))
 refine Cx.nil ⟨by kernel_rfl,?_⟩
 refine BW.open_ 1 8 rfl rfl (fun v1=> ?_)
 refine BW.done al2 (Fin.block (Fin.drop 0 ?_))
 exact Fin.ZP (k+1) v1 (⟨by omega,by omega⟩) ⟨⟨_,rfl,Pr.le_of_eq (by rw [hst])⟩,⟨_,rfl,BU (by rw [hst];simp)⟩,kz⟩ (fun _ _ h=>h)
 have hke:k=N:=by have:=Df.EA h2;omega
 refine a2 ?_
 refine Tr.ret (Fin.DO rfl (Bm.Dw _ _) rfl ?_ rfl ?_)
 · rw [if_pos hv,Int.toNat_natCast,←hke];exact A_ _ _
 · refine int_eq ?_;exact hv.symm
structure lQ (n k:Nat) (L:List (List Int)):Prop where
 Xw:∀s∈L,∀x∈s,0≤x∧x<(n:Int)
 len:∀s∈L,s.length=k
theorem lR {n:Nat} {l:List BH} {s:List Int} {x:Int} (h:x∈EM n l s true):(0≤x∧x<(n:Int))∧x∉s:=by
 unfold EM at h
 obtain ⟨i,hi,rfl⟩:=List.mem_map.1 h
 obtain ⟨h1,h2⟩:=List.mem_filter.1 hi
 have h3:=List.mem_range.1 h1
 refine ⟨by omega,fun hc=> ?_⟩
 unfold KW at h2
 rw [Bool.and_eq_true] at h2
 have:=D6.2 hc
 rw [this] at h2
 exact absurd h2.1 AB
theorem lQ.put {n k:Nat} {l:List BH} {L z:List (List Int)} {s:List Int} {x:Int} (h:lQ n (k+1) L) (hs:s.length=k∧∀y∈s,0≤y∧y<(n:Int)) (hx:x∈EM n l s true) (hp:AD3 L (EF s x true) z):lQ n (k+1) z:=by
 have hb:=lR hx
 refine ⟨fun t ht=> ?_,fun t ht=> ?_⟩
 ·
  rcases hp.mem t ht with h1|rfl
  · exact h.Xw t h1
  ·
   intro y hy
   rcases C9.1 hy with rfl|hy
   · exact hb.1
   · exact hs.2 y hy
 ·
  rcases hp.mem t ht with h1|rfl
  · exact h.len t h1
  · rw [Iq hb.2,hs.1]
theorem LW {c:Aq} {l:List Bz} (ho:c.own=0):BD prog 65 [GA c,C_ l] (F8 [ints (Jz c l),int (C3 c l)]):=by
 refine fo func65 rfl ⟨rfl,rfl⟩ fun M0 w0=>(Tr.CM 1 rfl fun Fz=>(Tr.D9 0 1 rfl rfl fun Ij=> ?_))
 refine a2 ?_
 refine co rfl (C4 (Js (c:=c) (m:=((c.D5.length:Nat):Int))) rfl rfl rfl) ?_
 refine ac ?_
 refine an ?_ ?_<;>intro h1 q1
 exact absurd ho (by unfold Aq.own;simpa using h1)
 refine a2 ?_
 refine wk [20,2,1] rfl ?_
 refine Tr.cn rfl ?_ ?_<;>intro h2 q2
 refine ac ?_
 refine Tr.ret (Fin.AG (Fin.DO rfl (Bm.Dw _ _) rfl ?_ rfl ?_))
 · rw [O_ (Ou AA) AB];exact Ai 1
 · refine int_eq ?_;exact (Ou AA).symm
 refine a3 ?_
 refine Tr.block (Tr.CB 3 1 (Tr.Ez _ (kk [22,21,2] rfl) (fun k v=>[(23,int ((k:Nat):Int)),(7,Ae v (ints ((l.take k).map (HV c))))]) (fun k v=>Hp M0 w0 II ([As 3 1 v])) (fun k:Nat=>k≤(l).length∧(∀j y,j<k→l[j]? =some y→Mi c y=false)) (fun k:Nat=>(l).length-k) 0 (.slice none 0 0) (⟨Nat.zero_le _,fun j y hj=>absurd hj AA⟩) ⟨kq,⟨_,rfl,Bu rfl⟩,trivial⟩ (fun _ _ h=>h) ?_))
 rintro k v ⟨BK,AL⟩
 refine ac ?_
 refine Tr.seq ?_
 refine Tr.cn rfl ?_ ?_<;>intro h3 q3
 have Aa:k<(l).length:=AH h3
 obtain ⟨x,AX⟩:=at_ Aa
 refine ac ?_
 refine Tr.seq (Tr.block (Tr.seq (Tr.A0 (tp rfl (AD rfl underlying32 Be vq vq AA (Ac AX)) (tp rfl (AK rfl CT Be vq rfl rfl) ?_)))))
 refine Tl rfl rfl rfl rfl Km Gz (fun b1=> ?_)
 refine sf 0 9 ⟨rfl,rfl,rfl⟩ rfl rfl rfl rfl ?_
 refine ao ?_
 refine ag ?_ ?_<;>intro h4 q4
 refine ac ?_
 refine wk [37,23,22,21,9,7,2] rfl ?_
 refine ac ?_
 refine Tr.ret (Fin.AG (Fin.Ag (Fin.AG (Fin.AG (Fin.Ag (Fin.AG (Fin.DO rfl (Bm.Dw _ _) rfl ?_ rfl ?_)))))))
 · exact SW
 · exact SY
 refine ac ?_
 refine wk [37,23,22,21,9,7,2] rfl ?_
 refine Tr.cn rfl ?_ ?_<;>intro h5 q5
 refine ac ?_
 refine Tr.ret (Fin.AG (Fin.Ag (Fin.AG (Fin.AG (Fin.Ag (Fin.AG (Fin.DO rfl (Bm.Dw _ _) rfl ?_ rfl ?_)))))))
 · exact SW
 · exact SY
 have htm:=lA (c:=c) (x:=x) AA
 refine ac ?_
 refine ao ?_
 refine tp rfl (AD rfl underlying22 Bg vq vq AA (Bt htm)) ?_
 refine ao ?_
 refine TO.Ef 0 rfl rfl AB (CN rfl rfl rfl rfl underlying22 Bg J_ z3 KR Gx (BQ BI Oc)) (fun v1=> ?_)
 refine ao ?_
 refine wk [23,22,21,7,2] rfl ?_
 refine ac ?_
 exact Fin.Dm (k+1) v1 (⟨⟨Aa,CJ (p:=Mi c) AX fD AL⟩,by omega⟩) ⟨⟨_,rfl,AF k⟩,⟨_,rfl,BU (Vq AX)⟩,kz⟩ (fun _ _ h=>h)
 have Az:k=(l).length:=by have:=AJ h3;omega
 subst Az
 refine a2 ?_
 refine Tr.ret (Fin.DO rfl (Bm.Dw _ _) rfl ?_ rfl ?_)
 · exact fH
 · refine int_eq ?_;exact (Sa AA AL).symm
structure UG (m:Nat) (l:List Bz) (r:List BH) (d:List Int):Prop where
 l24:l.length≤24
 dl:d.length=l.length
 v:Am (l.length:Nat) r=0
 dd:∀j y c,j<l.length→d[j]? =some y→l[j]? =some c→(0≤y∧y≤40000)∧0≤c.BJ∧c.BJ<(m:Int)
theorem RL {e:FQ} {c:Aq} {l:List Bz} {r:List BH} {fr:Int} (hf:e.fits) (WA:∀x∈l,x.HS.small) (hrl:r.length≤1000000):BD prog 54 [agg (Hv e),GA c,C_ l,reqs r,int fr] (F8 [agg (Vw e c l r fr),int (Gu e c l r fr)]):=by
 refine fo func54 rfl ⟨rfl,rfl⟩ fun M0 w0=>(Tr.CM 3 rfl fun AAv=>(Tr.D9 0 0 rfl rfl fun EK=>(Tr.seq (Tr.A0 (tp rfl (Cq rfl LD) (tp rfl (Cq rfl LD) ?_))))))
 refine Tl rfl rfl rfl rfl z35 I_ (fun b1=> ?_)
 refine ao ?_
 refine ac ?_
 refine co rfl (C8 (Ih hf) rfl rfl) ?_
 refine an ?_ ?_<;>intro h1 q1
 have bR:HT e=false:=by cases h_:HT e with|false=>rfl|true=>exact absurd h1 (by rw [h_];decide)
 have Jk:Cj e c l=31:=by unfold Cj;rw [if_pos bR]
 have hb:Cj e c l≠0:=by rw [Jk];decide
 refine ao ?_
 refine TO.Aj 0 rfl rfl rfl vq LD rfl Ci rfl rfl ?_
 refine ao ?_
 refine Tr.ret (Fin.AG (Fin.GJ rfl (A7.cell 0 rfl rfl C5 Ci rfl Lr) (A7.tmp rfl Lr) ?_))
 refine DB ⟨?_,?_,trivial⟩
 · exact Ky (N6 hb) hb
 · refine int_eq ?_;rw [N6 hb,Jk]
 have bR:¬HT e=false:=by intro h_;rw [h_] at h1;exact absurd h1 AB
 refine a2 ?_
 refine co rfl (C4 (Js (c:=c) (m:=((e.Dy.length:Nat):Int))) rfl rfl rfl) ?_
 refine ac ?_
 refine wk [12,10,6,4,3,2] rfl ?_
 refine an ?_ ?_<;>intro h2 q2
 have YJ:c.check ((e.Dy.length:Nat):Int)≠0:=by simpa using h2
 have Jk:Cj e c l=c.check ((e.Dy.length:Nat):Int):=by unfold Cj;rw [if_neg bR,if_pos YJ]
 have hb:Cj e c l≠0:=by rw [Jk];exact YJ
 refine ao ?_
 refine TO.Aj 0 rfl rfl rfl vq LD rfl Ci rfl rfl ?_
 refine ao ?_
 refine Tr.ret (Fin.AG (Fin.GJ rfl (A7.cell 0 rfl rfl C5 Ci rfl Lr) (A7.tmp rfl Lr) ?_))
 refine DB ⟨?_,?_,trivial⟩
 · exact Ky (N6 hb) hb
 · refine int_eq ?_;rw [N6 hb,Jk]
 have YJ:c.check ((e.Dy.length:Nat):Int)=0:=by simpa using h2
 have Jk:Cj e c l=C3 c l:=by unfold Cj;rw [if_neg bR,if_neg (not_not_intro YJ)]
 obtain ⟨how,htl,hth⟩:=KM YJ
 refine a2 ?_
 refine co rfl (C4 (LW (c:=c) (l:=l) how) rfl rfl rfl) ?_
 refine ac ?_
 refine wk [14,13,10,6,4,3,2] rfl ?_
 refine an ?_ ?_<;>intro h3 q3
 have hte:C3 c l≠0:=by simpa using h3
 have hb:Cj e c l≠0:=by rw [Jk];exact hte
 refine ao ?_
 refine TO.Aj 0 rfl rfl rfl vq LD rfl Ci rfl rfl ?_
 refine ao ?_
 refine Tr.ret (Fin.AG (Fin.GJ rfl (A7.cell 0 rfl rfl C5 Ci rfl Lr) (A7.tmp rfl Lr) ?_))
 refine DB ⟨?_,?_,trivial⟩
 · exact Ky (N6 hb) hb
 · refine int_eq ?_;rw [N6 hb,Jk]
 have hte:C3 c l=0:=by simpa using h3
 have hb:Cj e c l=0:=by rw [Jk];exact hte
 have Ld:=(Qn hte).1
 have KV:=UF hte hth
 obtain ⟨T,hT⟩:∃T,l.map (HV c)=T:=⟨_,rfl⟩
 have hTl:T.length=l.length:=by rw [←hT,List.length_map]
 rw [hT] at KV
 refine Tr.re 13 rfl (Pr.le_of_eq (by rw [PF hte,hT])) ?_
 refine a2 ?_
 refine co rfl (C4 (YS (n:=((l.length:Nat):Int)) (l:=r) hrl) rfl rfl rfl) ?_
 refine ac ?_
 refine wk [15,14,13,10,6,4,3,2] rfl ?_
 refine an ?_ ?_<;>intro h4 q4
 have hv:Am (l.length:Nat) r≠0:=by simpa using h4
 refine ao ?_
 refine TO.Aj 0 rfl rfl rfl vq LD rfl Ci rfl rfl ?_
 refine ao ?_
 refine Tr.ret (Fin.AG (Fin.GJ rfl (A7.cell 0 rfl rfl C5 Ci rfl Lr) (A7.tmp rfl Lr) ?_))
 refine DB ⟨?_,?_,trivial⟩
 · exact Ky (aP hb hv) hv
 · refine int_eq ?_;exact (aP hb hv).symm
 have hv:Am (l.length:Nat) r=0:=by simpa using h4
 obtain ⟨row,hrow⟩:∃row,(Bj l.length r l.length).1=row:=⟨_,rfl⟩
 obtain ⟨YK,vm⟩:=Eb hv l.length AO
 rw [Int.toNat_natCast,hrow] at YK vm
 have hrq:∀q∈r,(0≤q.fst∧q.fst<l.length)∧0≤q.thn∧q.fst≠q.thn:=fun q hq=>by
  have h_:=(CV hv).2.1 q hq
  unfold Eg at h_;rw [decide_eq_false_iff_not] at h_;omega
 refine Tr.re 15 rfl (Pr.le_of_eq (by rw [if_pos hv,Int.toNat_natCast,hrow])) ?_
 refine ac ?_
 refine ao ?_
 refine tp rfl (QL (m:=l.length) rfl underlying22 Bg J_ z3 rfl AB AB vq vq HI AA) ?_
 refine tp rfl (Ar (rows:=[(0,[_]),(1,[_]),(2,[_])]) rfl Wv I_ ⟨⟨rfl,DK⟩,⟨⟨rfl,DK⟩,⟨⟨rfl,⟨_,rfl,Pr.le_trans (Pr.le_trans (BA _ _) (Pr.le_of_eq (show _=slice 1 ((List.replicate l.length (0:Int)).map fun n=>[int n]) by rw [List.map_replicate];rfl))) (AP _)⟩⟩,trivial⟩⟩⟩ rfl) ?_
 refine TO.gq rfl rfl AB rfl (Qq (d:=List.replicate l.length 0) WA AA hrl (by rw [List.length_replicate];omega)) kz (fun v1=> ?_)
 refine Tl rfl rfl rfl rfl z35 I_ (fun b2=> ?_)
 refine TO.Aj 0 rfl rfl rfl vq LD rfl Ci rfl rfl ?_
 refine ao ?_
 refine wk [16,15,13,10,6,4,3] rfl ?_
 refine a2 ?_
 refine Tr.block (Tr.CB 3 1 (Tr.CB 3 1 (Tr.Um _ (kk [69,68,16,13,10,6,4,3] rfl) (fun (dy:List Int) (b:List Int) (y:List Int) (k:Nat) u u2=>[(70,int ((k:Nat):Int)),(17,Ae u (ints b)),(18,Ae u2 (ints y))]) (fun (dy:List Int) (b:List Int) (y:List Int) (k:Nat) u u2=>Hp M0 w0 II ([As 3 1 u2,As 3 1 u,AE true b2 35 [C_ l,reqs r,is v1],Bc 3 1 (dy.map fun n=>[int n]) v1,AE true b1 35 (([.slice none 0 0,.slice none 0 0,.slice none 0 0]:List Value).map is)])) (fun (dy:List Int) (b:List Int) (y:List Int) (k:Nat)=>k≤row.length∧LS c r T fr l.length (row.take k)=some (dy,b,y)) (fun (dy:List Int) (b:List Int) (y:List Int) (k:Nat)=>row.length-k) (List.replicate l.length 0) ([]) ([]) (0) (.slice none 0 0) (.slice none 0 0) (⟨Nat.zero_le _,rfl⟩) ⟨kq,⟨_,rfl,Bu rfl⟩,⟨_,rfl,Bu rfl⟩,trivial⟩ (fun _ _ h=>h) ?_)))
 rintro dy b y k u u2 ⟨hk0,hsc⟩
 have hS:=OH.run (k:=k) YK (fun q hq=>by have:=hrq q hq;omega) Ld how (fun i h1 h2=>KV _ (List.mem_of_getElem? (DH (l:=T) (i:=i.toNat) AA))) hk0 hsc
 have UP:=hS.len
 have Us:b.length=k:=by rw [hS.hb,List.length_map,List.length_take];omega
 have hyl:y.length=k:=by rw [hS.hd,List.length_map,List.length_take];omega
 refine ac ?_
 refine Tr.seq ?_
 refine Tr.cn rfl ?_ ?_<;>intro h5 q5
 have hk:k<row.length:=AH h5
 obtain ⟨i,hi⟩:=at_ hk
 have eS:=YK.Xw i (List.mem_of_getElem? hi)
 have hti:T[i.toNat]? =some (Qg T i):=DH AA
 refine ac ?_
 refine Tr.seq (Tr.block (Tr.seq (Tr.Ah (co rfl (AD rfl underlying51 Bg vq vq AA (Ac hi)) ?_))))
 refine ac ?_
 refine wk [70,69,68,20,18,17,16,13,10,6,4,3] rfl ?_
 refine ac ?_
 refine wk [70,69,68,21,20,18,17,16,13,10,6,4,3] rfl ?_
 refine ac ?_
 refine wk [77,76,75,70,69,68,21,20,18,17,16,13,10,6,4,3] rfl (Tr.block (Tr.Ax _ (kk [76,75,70,69,68,20,18,17,16,13,10,6,4,3] rfl) (fun m:Nat=>[(77,int ((m:Nat):Int)),(21,int (Ec (r.take m) dy i fr))]) (fun m:Nat=>m≤(r).length) (fun m:Nat=>(r).length-m) 0 (Nat.zero_le _) ⟨kq,kz⟩ ?_))
 rintro m Nx
 refine ac ?_
 refine wk [78,77,76,75,70,69,68,21,20,18,17,16,13,10,6,4,3] rfl (Tr.seq ?_)
 refine Tr.cn rfl ?_ ?_<;>intro h6 q6
 have FA:m<(r).length:=AH h6
 obtain ⟨q,EC⟩:=at_ FA
 refine ac ?_
 refine wk [77,76,75,70,69,68,21,20,18,17,16,13,10,6,4,3] rfl (Tr.seq (Tr.block (Tr.seq (Tr.A0 (tp rfl (AD rfl underlying33 B5 vq vq AA (Ac EC)) (tp rfl (AK rfl EI B5 vq rfl rfl) ?_))))))
 refine Tl rfl rfl rfl rfl Ob L5 (fun b3=> ?_)
 refine sf 0 23 ⟨rfl,rfl,rfl⟩ rfl rfl rfl rfl ?_
 refine ao ?_
 refine wk [77,76,75,70,69,68,23,21,20,18,17,16,13,10,6,4,3] rfl ?_
 refine ac ?_
 refine wk [84,77,76,75,70,69,68,23,21,20,18,17,16,13,10,6,4,3] rfl ?_
 refine Tr.cn rfl ?_ ?_<;>intro h7 q7
 have hqr:=hrq q (List.mem_of_getElem? EC)
 have hz:=DH (l:=dy) (i:=q.fst.toNat) Ln
 have hzb:=hS.bnd _ (List.mem_of_getElem? hz)
 refine ac ?_
 refine co rfl (CY 3 rfl (LA rfl underlying22 Bg vq vq AA Da)) ?_
 refine co rfl (CY 3 rfl (QO rfl CX vq (BL fun _=>rfl) (by rw [List.getElem?_map,hz];rfl) rfl)) ?_
 refine JF rfl rfl rfl rfl AA (co rfl (JM rfl vq vq) ?_)
 refine ac ?_
 refine wk [77,76,75,70,69,68,21,20,18,17,16,13,10,6,4,3] rfl ?_
 refine ac ?_
 exact Fin.AM (m+1) ⟨FA,by omega⟩ ⟨⟨_,rfl,AF m⟩,⟨_,rfl,int_eq (by rw [Is EC,if_pos (by simpa using h7)])⟩,kz⟩
 refine ac ?_
 refine wk [77,76,75,70,69,68,21,20,18,17,16,13,10,6,4,3] rfl ?_
 refine ac ?_
 exact Fin.AM (m+1) ⟨FA,by omega⟩ ⟨⟨_,rfl,AF m⟩,⟨_,rfl,int_eq (by rw [Is EC,if_neg (by simpa using h7)])⟩,kz⟩
 have LK:m=(r).length:=by have:=AJ h6;omega
 subst LK
 rw [List.take_length]
 refine ac ?_
 refine wk [70,69,68,21,20,18,17,16,13,10,6,4,3] rfl ?_
 refine ac ?_
 refine co rfl (AD rfl underlying22 Bg vq vq AA (Bt hti)) ?_
 refine ac ?_
 refine co rfl (AZ rfl (Vd (c:=c) (AR:=b) (days:=y) (n:=Qg T i) (from_:=Ec r dy i fr)) ⟨kq,KR,KR,kz⟩) ?_
 refine ac ?_
 refine wk [70,69,68,25,24,20,18,17,16,13,10,6,4,3] rfl ?_
 refine ac ?_
 refine wk [109,70,69,68,24,20,18,17,16,13,10,6,4,3] rfl ?_
 refine Tr.cn rfl ?_ ?_<;>intro h8 q8
 have hno:c.early b y (Qg T i) (Ec r dy i fr)=none:=by simpa using h8
 refine ao ?_
 refine TO.Aj 4 rfl rfl rfl vq LD rfl Ci rfl rfl ?_
 refine ao ?_
 refine wk [11,10] rfl (Tr.ret (Fin.AG (Fin.Ag (Fin.AG (Fin.AG (Fin.Ag (Fin.AG (Fin.GJ rfl (A7.cell 4 rfl rfl C5 Ci rfl Lr) (A7.tmp rfl Lr) ?_))))))))
 refine DB ⟨?_,?_,trivial⟩
 · exact Wa
 · exact WZ
 obtain ⟨x,hx⟩:∃x,c.early b y (Qg T i) (Ec r dy i fr)=some x:=Option.isSome_iff_exists.1 (by simpa using h8)
 have lE:=DH (l:=dy) (i:=i.toNat) Ln
 refine Tr.re 24 rfl (int_eq (by rw [hx])) ?_
 refine ac ?_
 refine wk [70,69,68,24,20,18,17,16,13,10,6,4,3] rfl ?_
 refine ao ?_
 refine tp rfl (CY 3 rfl (LA rfl underlying22 Bg vq vq AA Da)) ?_
 refine TO.Ee 3 rfl rfl (Ia rfl rfl vq DK Bg rfl (BL fun _=>rfl) (by rw [List.getElem?_map,lE];rfl) AB (show _=(dy.set i.toNat x).map _ by rw [List.map_set];rfl)) ?_
 refine ao ?_
 refine wk [70,69,68,24,20,18,17,16,13,10,6,4,3] rfl ?_
 refine ao ?_
 refine tp rfl (AD rfl underlying22 Bg vq vq AA (Bt hti)) ?_
 refine ao ?_
 refine TO.Ef 1 rfl rfl AB (CN rfl rfl rfl rfl underlying22 Bg J_ z3 KR Gx (BQ BI Oc)) (fun v2=> ?_)
 refine ao ?_
 refine TO.Ef 0 rfl rfl AB (CN rfl rfl rfl rfl underlying22 Bg J_ z3 KR Gx (BQ BI Oc)) (fun v3=> ?_)
 refine ao ?_
 refine wk [70,69,68,18,17,16,13,10,6,4,3] rfl ?_
 refine ac ?_
 exact Fin.ZR (dy.set i.toNat x) (b++[Qg T i]) (y++[x]) (k+1) v2 v3 (⟨⟨hk,aG hi hsc hx⟩,by omega⟩) ⟨⟨_,rfl,AF k⟩,⟨_,rfl,BU Ex⟩,⟨_,rfl,BU Ex⟩,kz⟩ (fun _ _ h=>h)
 have hkr:k=row.length:=by have:=AJ h5;omega
 rw [hkr,List.take_length] at hsc
 have me:Le c l r fr=some (dy,b,y):=by unfold Le;rw [hT,hrow];exact hsc
 refine ac ?_
 refine Tr.seq (Tr.HC 2 3 2 rfl rfl AB rfl Lr (BL fun _=>rfl) ?_)
 refine ao ?_
 refine TO.Aj 4 rfl rfl rfl vq LD rfl Ci rfl rfl ?_
 refine ao ?_
 refine wk [11,10] rfl (Tr.ret (Fin.GJ rfl (A7.cell 4 rfl rfl C5 Ci rfl Lr) (A7.tmp rfl Lr) ?_))
 refine DB ⟨?_,?_,trivial⟩
 · exact aR (aQ hb hv me) me
 · refine int_eq ?_;exact (aQ hb hv me).symm
theorem QJ.sz {e:FQ} (h:QJ e):e.sz 5:=by
 have h3:=h.n3;have g3:=h.g3;have i2:=h.i2
 refine ⟨fun x hx=> ?_,fun x hx=>⟨by have:=(h.it x hx).name;unfold maxLen;omega,by have:=(h.it x hx).links;omega⟩,by omega,by omega,by omega⟩
 obtain ⟨i,hi⟩:=List.getElem?_of_mem hx
 exact pq (h.snd i x hi)
section
variable {β:Type} {c:β×β→Int}
def HX (c:β×β→Int):Nat→List β→List β
 |0,st=>st
 |j+1,st=>match st[j+1]?,st[j]? with
  |some x,some y=>if c (x,y)<0 then HX c j ((st.set (j+1) y).set j x) else st
  |_,_=>st
def Qs (c:β×β→Int) (x:β):List β→List β→List β
 |[],dn=>x::dn
 |y::rp,dn=>if c (x,y)<0 then Qs c x rp (y::dn) else (y::rp).reverse++x::dn
def lS (c:β×β→Int) (l:List β):Nat→List β
 |0=>l
 |i+1=>HX c i (lS c l i)
theorem V5 {j:Nat} {st:List β} {x y:β} (hx:st[j+1]? =some x) (hy:st[j]? =some y) (h:c (x,y)<0):HX c (j+1) st=HX c j ((st.set (j+1) y).set j x):=by rw [HX,hx,hy];simp [h]
theorem aZ {j:Nat} {st:List β} {x y:β} (hx:st[j+1]? =some x) (hy:st[j]? =some y) (h:¬c (x,y)<0):HX c (j+1) st=st:=by rw [HX,hx,hy];simp [h]
theorem V6:∀(j:Nat) (st:List β),(HX c j st).length=st.length
 |0,_=>rfl
 |j+1,st=>by
  rw [HX]
  split
  ·
   split
   · rw [V6];simp
   · rfl
  · rfl
theorem lT (x:β):∀(rp dn:List β),HX c rp.length (rp.reverse++x::dn)=Qs c x rp dn
 |[],dn=>rfl
 |y::rp,dn=>by
  have hx:((y::rp).reverse++x::dn)[rp.length+1]? =some x:=by
   rw [List.getElem?_append_right AO];simp
  have hy:((y::rp).reverse++x::dn)[rp.length]? =some y:=by
   rw [List.reverse_cons,List.append_assoc,List.getElem?_append_right AO];simp
  have hs:(((y::rp).reverse++x::dn).set (rp.length+1) y).set rp.length x=rp.reverse++x::(y::dn):=by
   rw [List.reverse_cons,List.append_assoc,List.set_append_right _ _ AO]
   simp
  unfold Qs
  show HX c (rp.length+1) _=_
  by_cases h:c (x,y)<0
  · rw [V5 hx hy h,hs,lT x rp (y::dn),if_pos h]
  · rw [aZ hx hy h,if_neg h]
theorem aa {R:β→β→Prop} (ht:∀a b d,R a b→R b d→R a d) {x:β}:∀(rp dn:List β),(rp.reverse++dn).Pairwise R→(∀z∈dn,R x z)→(∀y∈rp,(c (x,y)<0→R x y)∧(¬c (x,y)<0→R y x))→
  (Qs c x rp dn).Pairwise R∧(Qs c x rp dn).Perm (x::(rp.reverse++dn))
 |[],dn,h,hd,_=>by
  unfold Qs
  exact ⟨List.pairwise_cons.2 ⟨hd,by simpa using h⟩,by simp⟩
 |y::rp,dn,h,hd,hc=>by
  obtain ⟨h1,h2⟩:=hc y AO
  unfold Qs
  by_cases hlt:c (x,y)<0
  ·
   rw [if_pos hlt]
   obtain ⟨g1,g2⟩:=aa ht (x:=x) rp (y::dn) DM (fun z hz=>by
    rcases List.mem_cons.1 hz with rfl|hz
    · exact h1 hlt
    · exact hd z hz) (fun z hz=>hc z (List.mem_cons_of_mem _ hz))
   exact ⟨g1,by simpa using g2⟩
  ·
   rw [if_neg hlt]
   have hyx:=h2 hlt
   rw [List.pairwise_append] at h ⊢
   obtain ⟨p1,p2,p3⟩:=h
   refine ⟨⟨p1,List.pairwise_cons.2 ⟨hd,p2⟩,fun a ha b hb=> ?_⟩,?_⟩
   ·
    have hax:R a x:=by
     simp only [List.reverse_cons,List.mem_append,List.mem_reverse,List.mem_singleton] at ha
     rcases ha with ha|rfl
     ·
      refine ht _ _ _ ?_ hyx
      rw [List.reverse_cons,List.pairwise_append] at p1
      exact p1.2.2 a (List.mem_reverse.2 ha) y AO
     · exact hyx
    rcases List.mem_cons.1 hb with rfl|hb
    · exact hax
    · exact ht _ _ _ hax (hd b hb)
   · exact List.perm_middle
theorem lU {R:β→β→Prop} (ht:∀a b d,R a b→R b d→R a d) {l:List β} (hc:∀(i j:Nat) x y,j<i→l[i]? =some x→l[j]? =some y→(c (x,y)<0→R x y)∧(¬c (x,y)<0→R y x)):
  ∀(i:Nat),i≤l.length→∃st,lS c l i=st++l.drop i∧st.Pairwise R∧st.Perm (l.take i)
 |0,_=>⟨[],by simp [lS],List.Pairwise.nil,by simp⟩
 |i+1,hi=>by
  obtain ⟨st,h1,h2,h3⟩:=lU ht hc i AA
  obtain ⟨x,hx⟩:=at_ (l:=l) (k:=i) AA
  have hl:st.length=i:=by rw [h3.length_eq,List.length_take];omega
  have hd:l.drop i=x::l.drop (i+1):=by
   rw [List.drop_eq_getElem_cons (show i<l.length by omega)]
   rw [List.getElem?_eq_getElem (show i<l.length by omega)] at hx;cases hx;rfl
  have hk:=lT (c:=c) x st.reverse (l.drop (i+1))
  rw [List.length_reverse,List.reverse_reverse,hl] at hk
  have key:∀(rp dn rest:List β),Qs c x rp (dn++rest)=Qs c x rp dn++rest:=by
   intro rp
   induction rp with
   |nil=>intro dn rest;rfl
   |cons y rp ih=>
    intro dn rest
    unfold Qs
    split
    · exact ih (y::dn) rest
    · simp
  have hk2:=key st.reverse [] (l.drop (i+1))
  rw [List.nil_append] at hk2
  obtain ⟨g1, g2⟩ := aa ht (c := c) (x := x) st.reverse [] G2 (fun z hz => by cases hz) (fun y hy => by
   have hy2:y∈l.take i:=h3.mem_iff.1 (List.mem_reverse.1 hy)
   obtain ⟨j,hj⟩:=List.getElem?_of_mem hy2
   rw [List.getElem?_take] at hj
   split at hj
   next hji=>exact hc i j x y hji hx hj
   next=>cases hj)
  refine ⟨Qs c x st.reverse [],?_,g1,?_⟩
  · rw [lS,h1,hd,hk,hk2]
  ·
   refine g2.trans ?_
   rw [List.reverse_reverse,List.append_nil,List.take_add_one,hx]
   exact ((List.perm_append_comm (l₁:=[x]) (l₂:=st)).trans (h3.append_right [x]))
end
structure Fnd where
 src:Int
 host:List UInt8
 machine:Int
 day:Int
 AAx:Int
 kind:Int
 qx:List UInt8
 Bh:Int
 bits:Int
 num:Int
 text:List UInt8
structure Fnd.fits (f:Fnd):Prop where
 host:f.host.length≤maxLen
 qx:f.qx.length≤maxLen
 text:f.text.length≤maxLen
def orL:List Int→Int
 |[]=>0
 |a::l=>if a=0 then orL l else a
def AAy (a b:Fnd):List Int:=[Lib.compareBytes a.host b.host,JB a.machine b.machine,JB a.day b.day,Lib.compareBytes a.qx b.qx,JB a.kind b.kind,JB a.Bh b.Bh,JB a.bits b.bits,JB a.num b.num,Lib.compareBytes a.text b.text,JB a.src b.src,JB a.AAx b.AAx]
def AD4 (a b:Fnd):Int:=orL (AAy a b)
def kF (l:List Fnd) (f:Fnd):Nat:=(l.reverse.dropWhile fun x=>decide (0<AD4 x f)).length
def InR (own:List Int) (m:Nat):Prop:=∀i∈own,0≤i∧i<(m:Int)
instance (own:List Int) (m:Nat):Decidable (InR own m):=inferInstanceAs (Decidable (∀i∈own,0≤i∧i<(m:Int)))
theorem CO {φ:Prop} {p q:Pr} (h:φ) (hl:Pr.le p q):Pr.le p (fact φ q):=fun _ _ _ hp=>⟨h,hl _ _ _ hp⟩
end Go.Proofs.YtmocaapoeefgkaaGreatDoor
