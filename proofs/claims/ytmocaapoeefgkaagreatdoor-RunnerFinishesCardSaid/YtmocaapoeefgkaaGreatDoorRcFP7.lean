/-
  Part 7 of the texts that prove this claim, merged.
-/
import Derived.Test.YtmocaapoeefgkaaGreatDoorRcFP6
set_option linter.all false
set_option maxRecDepth 40000
set_option maxHeartbeats 16000000
namespace Go.Proofs.YtmocaapoeefgkaaGreatDoor
open Go Go.RowKit Cp Go.Proofs.Tryz
def HF (n:Nat) (m:Nat→Nat→Bool):List (List Bool):=(List.range n).map fun a=>(List.range n).map (m a)
theorem IW (n:Nat) (m:Nat→Nat→Bool):(HF n m).length=n:=by unfold HF;simp
theorem LB {n:Nat} (m:Nat→Nat→Bool) {a:Nat} (h:a<n):(HF n m)[a]? =some ((List.range n).map (m a)):=by
 unfold HF;rw [List.getElem?_map,List.getElem?_range h];rfl
theorem LC {n:Nat} (m:Nat→Bool) {b:Nat} (h:b<n):((List.range n).map m)[b]? =some (m b):=by
 rw [List.getElem?_map,List.getElem?_range h];rfl
theorem T8 {n:Nat} {m m':Nat→Nat→Bool} (h:nT n m m'):HF n m=HF n m':=by
 unfold HF
 refine List.map_congr_left fun a ha=>List.map_congr_left fun b hb=>h a b (List.mem_range.1 ha) (List.mem_range.1 hb)
theorem pY {n:Nat} {m:Nat→Nat→Bool} {i j:Nat} (hi:i<n) (hj:j<n):(HF n m).set i (((List.range n).map (m i)).set j true)=HF n (Vj m i j):=by
 apply List.ext_getElem?
 intro a
 rw [List.getElem?_set]
 by_cases h:i=a
 ·
  subst h
  rw [if_pos rfl,if_pos (by rw [IW];exact hi),LB _ hi]
  congr 1
  apply List.ext_getElem?
  intro b
  rw [List.getElem?_set]
  by_cases h2:j=b
  ·
   subst h2
   rw [if_pos rfl,if_pos GK,LC _ hj]
   unfold Vj;rw [if_pos ⟨rfl,rfl⟩]
  ·
   rw [if_neg h2]
   rcases Nat.lt_or_ge b n with hb|hb
   · rw [LC _ hb,LC _ hb];unfold Vj;rw [if_neg (fun h3=>h2 h3.2.symm)]
   · rw [List.getElem?_eq_none FW,List.getElem?_eq_none FW]
 ·
  rw [if_neg h]
  rcases Nat.lt_or_ge a n with ha|ha
  ·
   rw [LB _ ha,LB _ ha]
   congr 1
   refine List.map_congr_left fun b _=> ?_
   unfold Vj;rw [if_neg (fun h3=>h h3.1.symm)]
  · rw [List.getElem?_eq_none (by rw [IW];exact ha),List.getElem?_eq_none (by rw [IW];exact ha)]
theorem aA {l:List BI} {q:Nat} {r:BI} (h:l[q]? =some r) (h0:0≤r.fst) (h1:0≤r.thn):Ga (l.take (q+1))=Vj (Ga (l.take q)) r.fst.toNat r.thn.toNat:=by
 funext a b
 have e:l.take (q+1)=l.take q++[r]:=by rw [List.take_add_one,h];rfl
 unfold Ga Vj
 rw [e,List.any_append]
 by_cases hc:a=r.fst.toNat∧b=r.thn.toNat
 ·
  have h2:([r].any fun r=>decide (r.fst=(a:Int))&&decide (r.thn=(b:Int)))=true:=by simp;omega
  rw [if_pos hc,h2,Bool.or_true]
 ·
  have h2:([r].any fun r=>decide (r.fst=(a:Int))&&decide (r.thn=(b:Int)))=false:=by simp;omega
  rw [if_neg hc,h2,Bool.or_false]
theorem iH (n:Nat) (l:List BI):HF n (Ga (l.take 0))=List.replicate n (List.replicate n false):=by
 unfold HF Ga
 rw [List.eq_replicate_iff]
 refine ⟨by simp,fun b hb=> ?_⟩
 obtain ⟨a,_,rfl⟩:=List.mem_map.1 hb
 rw [List.eq_replicate_iff]
 refine ⟨by simp,fun c hc=> ?_⟩
 obtain ⟨d,_,rfl⟩:=List.mem_map.1 hc
 simp
abbrev slv (n:Nat) (x:Nat×List Bool):Value:=JY n x.1
abbrev AGk (n:Nat) (m:Nat→Nat→Bool):Pr:=slice 1 ((HF n m).map fun row=>[slice 1 (row.map fun b=>[bool b])])
theorem OP {n:Nat} {m:Nat→Nat→Bool} {X:List (Nat×List Bool)} {a:Nat} {x:Nat×List Bool} (hX:X.map (·.2)=HF n m) (hx:X[a]? =some x) (ha:a<n):x.2=(List.range n).map (m a):=by
 have h:=congrArg (fun l=>l[a]?) hX
 simp only [List.getElem?_map,hx,Option.map_some] at h
 rw [LB m ha] at h
 simpa using h
theorem eI {n:Nat} {m:Nat→Nat→Bool} {X:List (Nat×List Bool)} {i j:Nat} {x:Nat×List Bool} (hX:X.map (·.2)=HF n m) (hx:X[i]? =some x) (hi:i<n) (hj:j<n):(X.set i (x.1,x.2.set j true)).map (·.2)=HF n (Vj m i j):=by
 rw [List.map_set,hX,OP hX hx hi];exact pY hi hj
theorem eJ {e:TypeId} {X:List (Nat×List Bool)} {k:Nat} {x:Nat×List Bool} (h:X[k]? =some x):(HI (HE e) X)[k]? =some (AE true x.1 e (x.2.map fun b=>bool b)):=dz (f:=fun x:Nat×List Bool=>AE true x.1 e (x.2.map fun b=>bool b)) h
theorem pZ {n:Nat} {m:Nat→Nat→Bool} {X:List (Nat×List Bool)} {a c:Nat} {x:Nat×List Bool} (hX:X.map (·.2)=HF n m) (hx:X[a]? =some x) {v:Bool} (ha:a<n) (hc:c<n) (hv:m a c=v):(x.2.map fun b=>bool b)[0+c*1]? =some (bool v):=by
 subst hv
 rw [OP hX hx ha,Nat.zero_add,Nat.mul_one,List.getElem?_map,LC _ hc];rfl
theorem pg {n:Nat} {m:Nat→Nat→Bool} {X:List (Nat×List Bool)} (hX:X.map (·.2)=HF n m):∀x∈X,x.2.length=n:=fun x hx=>by
 obtain ⟨i,hi⟩:=List.mem_iff_getElem?.1 hx
 have hl:i<n:=by
  have h:=congrArg List.length hX
  rw [List.length_map,IW] at h
  rcases Nat.lt_or_ge i X.length with h'|h'
  · omega
  · rw [List.getElem?_eq_none h'] at hi;cases hi
 rw [OP hX hi hl,List.length_map,List.length_range]
theorem pq {n:Nat} {m:Nat→Nat→Bool} {X:List (Nat×List Bool)} (hX:X.map (·.2)=HF n m):(X.map fun x=>[slice 1 (x.2.map fun b=>[bool b])])=(HF n m).map fun row=>[slice 1 (row.map fun b=>[bool b])]:=by rw [←hX,List.map_map];rfl
theorem eK {l:List Bool} {j:Nat} (h:j<l.length):List.take (0+j*1) (l.map fun b=>bool b)++[is (Value.bool true)]++List.drop (0+j*1+1) (l.map fun b=>bool b)=(l.set j true).map fun b=>bool b:=by
 rw [List.map_set,List.set_eq_take_append_cons_drop,if_pos Du];simp
theorem SO {X:List (Nat×List Bool)} {bs:List Nat} {i:Nat} {x:Nat×List Bool} (h:X.map (·.1)=bs) (hx:X[i]? =some x):bs[i]? =some x.1:=by rw [←h,List.getElem?_map,hx];rfl
theorem eL {X:List (Nat×List Bool)} {bs:List Nat} {i:Nat} {x:Nat×List Bool} {r:List Bool} (h:X.map (·.1)=bs) (hx:X[i]? =some x):(X.set i (x.1,r)).map (·.1)=bs:=by
 have hb:=SO h hx
 rw [List.map_set,h]
 apply List.ext_getElem?
 intro k
 rw [List.getElem?_set]
 split
 · rename_i e;subst e;rw [if_pos (by rcases Nat.lt_or_ge i bs.length with h'|h';exact h';rw [List.getElem?_eq_none h'] at hb;cases hb),hb]
 · rfl
theorem T9 {n:Nat} {l:List BI} (hn:n≤24) (hl:l.length≤1000000) (hr:∀r∈l,(0≤r.fst∧r.fst<(n:Nat))∧0≤r.thn∧r.thn<(n:Nat)):BC prog 116 [int ((n:Nat):Int),reqs l] (AGk n (C9 l n)):=by
 refine fo func116 rfl ⟨rfl,rfl⟩ fun M0 w0=> ?_
 refine a3 ?_
 refine Tr.block (Tr.B_ 160 1 (Tr.C7 _ (kk [11,1,0] rfl) (fun (X:List (Nat×List Bool)) (k:Nat) u=>[(12,int ((k:Nat):Int)),(5,Ac u (slice 1 (X.map fun x=>[is (slv n x)])))]) (fun (X:List (Nat×List Bool)) (k:Nat) u=>Hp M0 w0 FT (At 160 1 u::HI (HE 4) X)) (fun (X:List (Nat×List Bool)) (k:Nat)=>(k≤n∧X.length=k)∧X.map (·.2)=List.replicate k (List.replicate n false)) (fun (X:List (Nat×List Bool)) (k:Nat)=>n-k) ([]) (0) (.slice none 0 0) (⟨⟨Nat.zero_le _,rfl⟩,rfl⟩) ⟨kq,⟨_,rfl,Bq rfl⟩,trivial⟩ (fun _ _ h=>h) ?_))
 rintro X k u ⟨⟨hkn,hXl⟩,hX⟩
 refine ac ?_
 refine Tr.seq ?_
 refine Tr.cn rfl ?_ ?_<;>intro h1 q1
 have hk:k<n:=AH h1
 refine ac ?_
 refine ao ?_
 refine TO.Uy rfl rfl AB rfl underlying160 U0 by4 z4 rfl vq vq Fz AA (fun b1=> ?_)
 refine tp rfl (AO (xs:=[.tmp 16]) (rows:=[[is (JY n b1)]]) rfl rfl underlying158 On z160 rfl AB ⟨⟨Am,VL.le vq (Af _)⟩,trivial⟩ AB) ?_
 refine TO.Dj 1 rfl rfl AB (B8 rfl rfl rfl rfl underlying158 On ABT z160 IZ GX (A_ BO Kx)) (fun v1=> ?_)
 refine ao ?_
 refine ac ?_
 refine Fin.eqC 0 ((List.replicate n false).map fun b=>bool b) rfl oz (Fin.fold (res:=HE 4) [_] (b1,List.replicate n false) rfl ?_)
 exact Fin.Bl (X++[(b1,List.replicate n false)]) (k+1) v1 (⟨⟨⟨by omega,by simp;omega⟩,by rw [List.map_append,hX,List.replicate_succ'];rfl⟩,by omega⟩) ⟨⟨_,rfl,AG k⟩,⟨_,rfl,BE DI⟩,kz⟩ (fun _ _ h=>h)
 have hk:=AJ h1
 refine a2 ?_
 refine Tr.block ?_
 obtain ⟨bs,hbs⟩:∃bs,X.map (·.1)=bs:=⟨_,rfl⟩
 refine Tr.re 5 rfl (Pr.le_trans (As _ _) (Pr.le_of_eq (show _=slice 1 (bs.map fun b=>[is (JY n b)]) by rw [←hbs,List.map_map];rfl))) ?_
 refine Tr.drop 0 (Tr.Co _ (kk [21,20,5,0] rfl) (fun (X1:List (Nat×List Bool)) (q:Nat)=>[(22,int ((q:Nat):Int))]) (fun (X1:List (Nat×List Bool)) (q:Nat)=>Hp M0 w0 FT (HI (HE 4) X1)) (fun (X1:List (Nat×List Bool)) (q:Nat)=>q≤l.length∧(X1.map (·.1)=bs∧X1.map (·.2)=HF n (Ga (l.take q)))) (fun (X1:List (Nat×List Bool)) (q:Nat)=>l.length-q) (X) (0)  (⟨Nat.zero_le _,hbs,by rw [hX,iH,show k=n by omega]⟩) kz (fun _ _ h=>h) ?_)
 rintro X1 q  ⟨hq0,PJ,hX1⟩
 refine ac ?_
 refine Tr.seq ?_
 refine Tr.cn rfl ?_ ?_<;>intro h2 q2
 have hq:q<l.length:=AH h2
 obtain ⟨r,hrq⟩:=at_ hq
 have iI:=hr r (List.mem_of_getElem? hrq)
 have AH2:X1.length=n:=by have:=congrArg List.length hX1;rw [List.length_map,IW] at this;exact this
 obtain ⟨x,hx⟩:=at_ (l:=X1) (k:=r.fst.toNat) AA
 have hxl:x.2.length=n:=by rw [OP hX1 hx AA,List.length_map,List.length_range]
 refine ac ?_
 refine Tr.seq (Tr.block (Tr.seq (Tr.Ao (tp rfl (AD rfl underlying33 Cr vq vq AA (Aa hrq)) (tp rfl (AP rfl Fh Cr vq rfl rfl) ?_)))))
 refine Tl rfl rfl rfl rfl Sc RE (fun b2=> ?_)
 refine sf 0 7 ⟨rfl,rfl,rfl⟩ rfl rfl rfl rfl ?_
 refine ao ?_
 refine Tr.focus [] hx rfl (Tr.rx ?_)
 refine ay ?_
 refine xo rfl (fun _=>AD rfl underlying158 On vq vq AA (Bf (SO PJ hx))) ?_
 refine ay ?_
 refine xo rfl (fun _=>BH rfl underlying160 U0 vq vq AA AA) ?_
 refine Cx.DY 0 rfl rfl (Ay rfl rfl vq Ni U0 rfl Df rfl) ?_
 refine Cx.nil ⟨by kernel_rfl,?_⟩
 refine BJ.done al1 ?_
 refine ac ?_
 refine wk [22,21,20,5,0] rfl ?_
 refine ac ?_
 refine Fin.eqC 0 ((x.2.set r.thn.toNat true).map fun b=>bool b) rfl (eK AA) (Fin.VE (res:=HE 4) [] (x.1,x.2.set r.thn.toNat true) (show r.fst.toNat<X1.length by omega) rfl ?_)
 exact Fin.Cm (X1.set r.fst.toNat (x.1,x.2.set r.thn.toNat true)) (q+1)  (⟨⟨by omega,eL PJ hx,by rw [aA hrq iI.1.1 iI.2.1];exact eI hX1 hx AA AA⟩,by omega⟩) ⟨⟨_,rfl,AG q⟩,kz⟩ (fun _ _ h=>h)
 have hq:=AJ h2
 refine a2 ?_
 refine Tr.block ?_
 refine Tr.Co _ (kk [35,5,0] rfl) (fun (X2:List (Nat×List Bool)) (k2:Nat)=>[(36,int ((k2:Nat):Int))]) (fun (X2:List (Nat×List Bool)) (k2:Nat)=>Hp M0 w0 FT (HI (HE 4) X2)) (fun (X2:List (Nat×List Bool)) (k2:Nat)=>k2≤n∧(X2.map (·.1)=bs∧X2.map (·.2)=HF n (C9 l k2))) (fun (X2:List (Nat×List Bool)) (k2:Nat)=>n-k2) (X1) (0)  (⟨Nat.zero_le _,PJ,by rw [hX1,List.take_of_length_le hq];rfl⟩) kz (fun _ _ h=>h) ?_
 rintro X2 k2  ⟨hk2,TE,hX2⟩
 refine ac ?_
 refine Tr.seq ?_
 refine Tr.cn rfl ?_ ?_<;>intro h3 q3
 have AH3:k2<n:=AH h3
 refine a3 ?_
 refine Tr.block ?_
 refine Tr.Co _ (kk [39,36,35,8,5,0] rfl) (fun (X3:List (Nat×List Bool)) (i:Nat)=>[(40,int ((i:Nat):Int))]) (fun (X3:List (Nat×List Bool)) (i:Nat)=>Hp M0 w0 FT (HI (HE 4) X3)) (fun (X3:List (Nat×List Bool)) (i:Nat)=>i≤n∧(X3.map (·.1)=bs∧X3.map (·.2)=HF n (I6 k2 (C9 l k2) i 0))) (fun (X3:List (Nat×List Bool)) (i:Nat)=>n-i) (X2) (0)  (⟨Nat.zero_le _,TE,by rw [ADH];exact hX2⟩) kz (fun _ _ h=>h) ?_
 rintro X3 i  ⟨hi0,hb3,hX3⟩
 refine ac ?_
 refine Tr.seq ?_
 refine Tr.cn rfl ?_ ?_<;>intro h4 q4
 have Fp:i<n:=AH h4
 refine a3 ?_
 refine Tr.block (Tr.Co _ (kk [43,40,39,36,35,9,8,5,0] rfl) (fun (X4:List (Nat×List Bool)) (j:Nat)=>[(44,int ((j:Nat):Int))]) (fun (X4:List (Nat×List Bool)) (j:Nat)=>Hp M0 w0 FT (HI (HE 4) X4)) (fun (X4:List (Nat×List Bool)) (j:Nat)=>j≤n∧(X4.map (·.1)=bs∧X4.map (·.2)=HF n (I6 k2 (C9 l k2) i j))) (fun (X4:List (Nat×List Bool)) (j:Nat)=>n-j) (X3) (0)  (⟨Nat.zero_le _,hb3,hX3⟩) kz (fun _ _ h=>h) ?_)
 rintro X4 j  ⟨hj0,hb4,hX4⟩
 refine ac ?_
 refine Tr.seq ?_
 refine Tr.cn rfl ?_ ?_<;>intro h5 q5
 have hjl:j<n:=AH h5
 have AH4:X4.length=n:=by have:=congrArg List.length hX4;rw [List.length_map,IW] at this;exact this
 obtain ⟨xi,hxi⟩:=at_ (l:=X4) (k:=i) AA
 obtain ⟨xk,hxk⟩:=at_ (l:=X4) (k:=k2) AA
 have AH5:xi.2.length=n:=by rw [OP hX4 hxi AA,List.length_map,List.length_range]
 have AH6:xk.2.length=n:=by rw [OP hX4 hxk AA,List.length_map,List.length_range]
 refine a3 ?_
 refine co rfl (AD rfl underlying158 On vq vq AA (Aa (SO hb4 hxi))) ?_
 refine ac ?_
 refine co rfl (BH rfl underlying160 U0 vq vq AA AA) ?_
 refine co rfl (Ck i (eJ hxi) (BB rfl Yz vq (pZ (c:=k2) hX4 hxi AA AA (uK k2 (C9 l k2) i j i)))) ?_
 refine cm rfl ?_
 refine Ch.cs 54 rfl ?_ ?_<;>intro h6 q6
 refine ac ?_
 refine cy h6 rfl (AD rfl underlying158 On vq vq AA (Aa (SO hb4 hxk))) ?_
 refine ac ?_
 refine cy h6 rfl (BH rfl underlying160 U0 vq vq AA AA) ?_
 refine cy h6 rfl (Ck k2 (eJ hxk) (BB rfl Yz vq (pZ (c:=j) hX4 hxk AA AA (uL k2 (C9 l k2) i j j)))) ?_
 refine ac ?_
 refine wk [62,44,43,40,39,36,35,10,9,8,5,0] rfl ?_
 refine Tr.cn rfl ?_ ?_<;>intro h7 q7
 refine Tr.focus [] hxi rfl ?_
 refine ao ?_
 refine tp rfl (AD rfl underlying158 On vq vq AA (Aa (SO hb4 hxi))) ?_
 refine ao ?_
 refine tp rfl (BH rfl underlying160 U0 vq vq AA AA) ?_
 refine TO.DY 0 rfl rfl (Ay rfl rfl vq Ni U0 rfl Df rfl) ?_
 refine ao ?_
 refine wk [44,43,40,39,36,35,9,8,5,0] rfl ?_
 refine ac ?_
 refine Fin.eqC 0 ((xi.2.set j true).map fun b=>bool b) rfl (eK AA) (Fin.VE (res:=HE 4) [] (xi.1,xi.2.set j true) (show i<X4.length by omega) rfl ?_)
 exact Fin.Cm (X4.set i (xi.1,xi.2.set j true)) (j+1)  (⟨⟨by omega,eL hb4 hxi,(by rw [←uM Bh Bh];exact eI hX4 hxi AA AA)⟩,by omega⟩) ⟨⟨_,rfl,AG j⟩,kz⟩ (fun _ _ h=>h)
 refine a2 ?_
 exact Fin.Cm (X4) (j+1)  (⟨⟨by omega,hb4,(by rw [←nS Bv];exact hX4)⟩,by omega⟩) ⟨⟨_,rfl,AG j⟩,kz⟩ (fun _ _ h=>h)
 refine ac ?_
 refine wk [62,44,43,40,39,36,35,10,9,8,5,0] rfl ?_
 refine a2 ?_
 exact Fin.Cm (X4) (j+1)  (⟨⟨by omega,hb4,(by rw [←nS Bv];exact hX4)⟩,by omega⟩) ⟨⟨_,rfl,AG j⟩,kz⟩ (fun _ _ h=>h)
 have hje:=AJ h5
 refine a2 ?_
 exact Fin.Cm (X4) (i+1)  (⟨⟨by omega,hb4,by rw [hX4,show j=n by omega];exact T8 nU⟩,by omega⟩) ⟨⟨_,rfl,AG i⟩,kz⟩ (fun _ _ h=>h)
 have hie:=AJ h4
 refine a2 ?_
 exact Fin.Cm (X3) (k2+1)  (⟨⟨by omega,hb3,by rw [hX3,show i=n by omega];exact T8 uN⟩,by omega⟩) ⟨⟨_,rfl,AG k2⟩,kz⟩ (fun _ _ h=>h)
 have AH7:=AJ h3
 refine ac ?_
 refine Tr.seq ?_
 have AGl:k2=n:=by omega
 refine Tr.uo (m:=n) (X:=X2) [] 5 rfl Fz (pg hX2) rfl (Pr.le_of_eq (by rw [←TE,List.map_map];rfl)) ?_
 refine Tr.drop 0 ?_
 refine a2 ?_
 · subst AGl;exact Pr.le_of_eq (congrArg (slice 1) (pq hX2))
theorem aB {n:Int} {l:List BI} (hl:l.length≤1000000):BC prog 144 [int n,reqs l] (int (BG n l)):=by
 refine fo func144 rfl ⟨rfl,rfl⟩ fun M0 w0=>(Tr.Cf 1 rfl fun Fl=> ?_)
 refine ac ?_
 refine ag ?_ ?_<;>intro h1 q1
 refine a3 ?_
 · exact int_eq (K9 AA).symm
 refine an ?_ ?_<;>intro h2 q2
 refine a2 ?_
 · exact int_eq (K9 AA).symm
 obtain ⟨N,rfl⟩:∃N:Nat,n=(N:Int):=⟨n.toNat,by omega⟩
 refine a2 ?_
 refine Tr.block (Tr.BD _ (kk [17,16,1,0] rfl) (fun k:Nat=>[(18,int ((k:Nat):Int))]) (fun k:Nat=>k≤(l).length∧(∀j y,j<k→l[j]? =some y→FP N y=false)) (fun k:Nat=>(l).length-k) 0 (⟨Nat.zero_le _,fun j y hj=>absurd hj AA⟩) kz ?_)
 rintro k ⟨BR,AX⟩
 refine ac ?_
 refine Tr.seq ?_
 refine Tr.cn rfl ?_ ?_<;>intro h3 q3
 have Ai:k<(l).length:=AH h3
 obtain ⟨r,Ah⟩:=at_ Ai
 refine ac ?_
 refine Tr.seq (Tr.block (Tr.seq (Tr.Ao (tp rfl (AD rfl underlying33 Cr vq vq AA (Aa Ah)) (tp rfl (AP rfl Fh Cr vq rfl rfl) ?_)))))
 refine Tl rfl rfl rfl rfl Sc RE (fun b1=> ?_)
 refine sf 0 6 ⟨rfl,rfl,rfl⟩ rfl rfl rfl rfl ?_
 refine ao ?_
 · repeat' first|(exact int_eq (Ql AA Ah wu).symm)|(exact Fin.AL (k+1) ⟨⟨Ai,DV (p:=FP N) Ah bX AX⟩,by omega⟩ ⟨⟨_,rfl,AG k⟩,kz⟩)|refine ac ?_|(refine Tr.cn rfl ?_ ?_<;>intro h q)|(refine Ch.cg rfl rfl rfl ?_ ?_<;>intro h q)
 have BM:k=(l).length:=by have:=AJ h3;omega
 subst BM
 have hbs:=dm AX
 have iI:∀r∈l,(0≤r.fst∧r.fst<(N:Nat))∧0≤r.thn∧r.thn<(N:Nat):=fun r hr=>by
  have h_:=hbs r hr
  unfold FP at h_;rw [decide_eq_false_iff_not] at h_;omega
 refine a2 ?_
 refine Tr.block (Tr.Mo _ (kk [1,0] rfl) (fun (i:Nat)=>[(7,int ((i:Nat):Int))]) (fun (i:Nat)=>Hp M0 w0 FT ([])) (fun (i:Nat)=>(1≤i∧(i≤l.length∨i=1))∧∀(j:Nat) a b,j+1<i→l[j]? =some a→l[j+1]? =some b→Ev a b=true) (fun (i:Nat)=>l.length-i) (1)  (⟨⟨by omega,.inr rfl⟩,fun j a b hj=>absurd hj AA⟩) kz (fun _ _ h=>h) ?_)
 rintro i  ⟨⟨hi1,hi2⟩,hso⟩
 refine an ?_ ?_<;>intro h9 q9
 have Fp:i<l.length:=AH h9
 obtain ⟨x,hx⟩:=at_ Fp
 obtain ⟨y,hy⟩:=at_ (l:=l) (k:=i-1) AA
 · repeat' first|exact int_eq (Vr AA hbs AA hy hx Bv).symm|(exact Fin.Mp (i+1)  (⟨⟨⟨by omega,.inl AA⟩,KT hx (fun z _ hz=>by rw [hy] at hz;cases hz;simp_all) hso⟩,by omega⟩) ⟨⟨_,rfl,AG i⟩,kz⟩ (fun _ _ h=>h))|(refine co rfl (AD rfl underlying33 Cr vq vq AA bK) ?_)|refine co rfl (AD rfl underlying33 Cr vq vq AA (Aa hx)) (co rfl (AP rfl Fh Cr vq rfl rfl) (co rfl (CL (Tt) rfl rfl rfl) ?_))|refine ac ?_|(refine Tr.cn rfl ?_ ?_<;>intro h q)
 have hie:=AJ h9
 have hsr:D5 l=true:=SE fun j a b hj=>hso j a b AA
 refine a2 ?_
 refine co rfl (CL (T9 (n:=N) (l:=l) AA hl iI) rfl rfl rfl) ?_
 refine a2 ?_
 refine Tr.block (Tr.Mo _ (kk [70,8] rfl) (fun (m:Nat)=>[(71,int ((m:Nat):Int))]) (fun (m:Nat)=>Hp M0 w0 FT ([])) (fun (m:Nat)=>m≤N∧∀i,i<m→C9 l N i i=false) (fun (m:Nat)=>N-m) (0)  (⟨Nat.zero_le _,fun i hi=>absurd hi AA⟩) kz (fun _ _ h=>h) ?_)
 rintro m  ⟨hm0,hwn⟩
 refine ac ?_
 refine Tr.seq ?_
 refine Tr.cn rfl ?_ ?_<;>intro h11 Sw
 have hm:m<N:=AH h11
 · repeat' first|exact int_eq (SD AA hbs hsr hm Bh).symm|(exact Fin.Mp (m+1)  (⟨⟨by omega,fun i hi=>by rcases Nat.lt_or_eq_of_le (Nat.le_of_lt_succ hi) with h_|h_;exact hwn i h_;(subst h_;assumption)⟩,by omega⟩) ⟨⟨_,rfl,AG m⟩,kz⟩ (fun _ _ h=>h))|refine co rfl (AD rfl underlying158 On vq vq AA (Aa (LB _ hm))) ?_|refine co rfl (AD rfl underlying160 U0 vq vq AA (Aa (LC _ hm))) ?_|refine ac ?_|(refine Tr.cn rfl ?_ ?_<;>intro h q)
 have hme:=AJ h11
 refine a3 ?_
 · exact int_eq (Vs AA hbs hsr fun i hi=>hwn i AA).symm
theorem HG {n:Int} {l:List BI} (hl:l.length≤1000000):BC prog 81 [int n,reqs l] (int (BG n l)):=by
 refine fo func81 rfl ⟨rfl,rfl⟩ fun M0 w0=> ?_
 refine a2 ?_
 refine co rfl (CL (aB hl) rfl rfl rfl) ?_
 refine a2 ?_
 · exact Lr
theorem OQ {a b:List Int} (hab:a.length≤b.length):BC prog 298 [ints a,ints b] (EH):=by
 refine fo func298 rfl ⟨rfl,rfl⟩ fun M0 w0=>(Tr.Cf 0 rfl fun D_=>(Tr.Cf 1 rfl fun Fl=> ?_))
 refine a2 ?_
 refine Tr.block (Tr.BD _ (kk [7,1,0] rfl) (fun k:Nat=>[(8,int ((k:Nat):Int))]) (fun k:Nat=>k≤(a).length) (fun k:Nat=>(a).length-k) 0 (Nat.zero_le _) kz ?_)
 rintro k BR
 refine ac ?_
 refine Tr.seq ?_
 refine Tr.cn rfl ?_ ?_<;>intro h1 q1
 have Ai:k<(a).length:=AH h1
 obtain ⟨x,Ah⟩:=at_ Ai
 obtain ⟨y,hy⟩:=at_ (l:=b) (k:=k) AA
 · repeat' first|exact Ax _ Lr|exact Fin.AL (k+1) ⟨Ai,by omega⟩ ⟨⟨_,rfl,AG k⟩,kz⟩|refine co rfl (AD rfl underlying51 Bw vq vq AA (Aa Ah)) ?_|refine co rfl (AD rfl underlying51 Bw vq vq AA (Aa hy)) ?_|refine ac ?_|(refine Tr.cn rfl ?_ ?_<;>intro h q)
 have BM:k=(a).length:=by have:=AJ h1;omega
 refine a3 ?_
 · exact BK
theorem T_ {a b:List Int}  :BC prog 281 [ints a,ints b] (EH):=by
 refine fo func281 rfl ⟨rfl,rfl⟩ fun M0 w0=>(Tr.Cf 0 rfl fun D_=>(Tr.Cf 1 rfl fun Fl=> ?_))
 refine ac ?_
 refine ap ?_
 refine TO.cases 10 rfl (fun h1=> ?_) (fun h1=> ?_)
 have q1:=DU.D7 h1
 refine TO.Hv rfl rfl rfl h1 rfl AB (BX rfl vq) (TO.Hv rfl rfl rfl h1 rfl AB (BX rfl vq) (TO.Hv rfl rfl rfl h1 rfl AB (CL (OQ AA) rfl rfl rfl) (TO.ex 13 rfl fun z13=>(TO.Hv rfl rfl rfl h1 rfl AB (F2 rfl vq) ?_))))
 refine ap ?_
 refine TO.cases 16 rfl (fun h2=> ?_) (fun h2=> ?_)
 have q2:=DU.D7 h2
 refine TO.Hv rfl rfl rfl h2 rfl AB (BX rfl vq) (TO.Hv rfl rfl rfl h2 rfl AB (BX rfl vq) (TO.Hv rfl rfl rfl h2 rfl AB (CL (OQ AA) rfl rfl rfl) (TO.ex 19 rfl fun z19=>(TO.Hv rfl rfl rfl h2 rfl AB (F2 rfl vq) ?_))))
 refine ap ?_
 refine wk [4] rfl ?_
 refine ac ?_
 · exact BK
 have q2:=DU.D7 h2
 iterate 4 refine TO.VG rfl rfl rfl (Be h2) rfl AB ?_
 refine ap ?_
 refine wk [4] rfl ?_
 refine ac ?_
 · exact BK
 have q1:=DU.D7 h1
 iterate 4 refine TO.VG rfl rfl rfl (Be h1) rfl AB ?_
 refine ap ?_
 iterate 4 refine TO.VG rfl rfl rfl (Be rfl) rfl AB ?_
 refine ap ?_
 refine wk [4] rfl ?_
 refine ac ?_
 · exact BK
theorem V1 {a b:List Int}  :BC prog 252 [ints a,ints b] (EH):=by
 refine fo func252 rfl ⟨rfl,rfl⟩ fun M0 w0=> ?_
 refine a2 ?_
 refine co rfl (CL (T_) rfl rfl rfl) ?_
 refine a2 ?_
 · exact Lr
abbrev sets (l:List (List Int)):Pr:=slice 1 (l.map fun s=>[ints s])
structure uz (l:List (List Int)) (s:List Int) (z:List (List Int)):Prop where
 mem:∀x∈z,x∈l∨x=s
 le:z.length≤l.length+1
 ge:l.length≤z.length
theorem qw {l:List (List Int)} {s:List Int} {k:Nat} (hk:k≤l.length):uz l s (l.take k++[s]++l.drop k):=by
 refine ⟨fun x hx=> ?_,by simp;omega,by simp;omega⟩
 simp only [List.mem_append,List.mem_singleton] at hx
 rcases hx with (hx|hx)|hx
 · exact .inl (List.mem_of_mem_take hx)
 · exact .inr hx
 · exact .inl (List.mem_of_mem_drop hx)
theorem u5 {lo hi:Nat} (h:lo+hi≤1000000):IntKind.i64.wrap (((lo:Int)+(hi:Int)).tdiv 2)=(((lo+hi)/2:Nat):Int):=by
 rw [Int.tdiv_eq_ediv_of_nonneg AA,Gl Kq];omega
theorem u6 {l:List (List Int)} {s:List Int}:uz l s l:=⟨fun x hx=> .inl hx,by omega,by omega⟩
theorem pz {l:List (List Int)} {s:List Int} (hl:l.length≤100000) (hs:∀x∈l,x.length=s.length):BC prog 297 [sets l,ints s] (Cp.ex fun z:List (List Int)=>fact (uz l s z) (sets z)):=by
 refine fo func297 rfl ⟨rfl,rfl⟩ fun M0 w0=>(Tr.Cf 0 rfl fun D_=> ?_)
 have hml:(l.map fun s=>[ints s]).length=l.length:=List.length_map _
 refine a2 ?_
 refine Tr.seq (Tr.block (Tr.Co _ (kk [1,0] rfl) (fun (lo:Nat) (hi:Nat)=>[(5,int ((lo:Nat):Int)),(6,int ((hi:Nat):Int))]) (fun (lo:Nat) (hi:Nat)=>Hp M0 w0 FT ([])) (fun (lo:Nat) (hi:Nat)=>lo≤hi∧hi≤l.length) (fun (lo:Nat) (hi:Nat)=>hi-lo) (0) (l.length)  (⟨Nat.zero_le _,Nat.le_refl _⟩) ⟨kq,kz⟩ (fun _ _ h=>h) ?_))
 rintro lo hi  ⟨hlh,hhl⟩
 refine an ?_ ?_<;>intro h1 q1
 have hlt:lo<hi:=AH h1
 obtain ⟨x,hx⟩:=at_ (l:=l) (k:=(lo+hi)/2) AA
 have hxs:=hs x (List.mem_of_getElem? hx)
 refine a2 ?_
 refine co rfl (UJ rfl vq vq AA) ?_
 refine ac ?_
 refine Tr.seq (Tr.re 7 rfl (int_eq (u5 AA)) ?_)
 refine ac ?_
 refine co rfl (AD rfl underlying99 Gn vq vq AA (Aa hx)) ?_
 refine ac ?_
 refine co rfl (CL (OQ AA) rfl rfl rfl) ?_
 refine ac ?_
 refine wk [23,7,6,5,1,0] rfl (Tr.ex 23 rfl fun AH8=> ?_)
 refine Tr.cn rfl ?_ ?_<;>intro h2 q2
 refine ac ?_
 exact Fin.Cm (((lo+hi)/2+1)) (hi)  (⟨⟨by omega,by omega⟩,by omega⟩) ⟨kq,kz⟩ (fun _ _ h=>h)
 refine ac ?_
 exact Fin.Cm (lo) (((lo+hi)/2))  (⟨⟨by omega,by omega⟩,by omega⟩) ⟨kq,kz⟩ (fun _ _ h=>h)
 have hge:=AJ h1
 refine ac ?_
 refine ap ?_
 refine TO.cases 31 rfl (fun h3=> ?_) (fun h3=> ?_)
 have q3:=DU.D7 h3
 obtain ⟨x2,hx2⟩:=at_ (l:=l) (k:=lo) AA
 refine TO.Hv rfl rfl rfl h3 rfl AB (BX rfl vq) (TO.Hv rfl rfl rfl h3 rfl AB (BX rfl vq) (TO.Hv rfl rfl rfl h3 rfl AB (AD rfl underlying99 Gn vq vq AA (Aa hx2)) (TO.Hv rfl rfl rfl h3 rfl AB (F5 rfl cF rfl) (TO.Hv rfl rfl rfl h3 rfl AB (BX rfl vq) (TO.Hv rfl rfl rfl h3 rfl AB (CL (T_) rfl rfl rfl) (TO.ex 37 rfl fun z37=> ?_))))))
 refine ap ?_
 refine wk [38,5,1,0] rfl ?_
 refine Tr.cn rfl ?_ ?_<;>intro h4 q4
 refine a2 ?_
 · exact Ax _ (A9 u6 Lr)
 refine ac ?_
 refine ap ?_
 refine tp rfl (Dx rfl underlying99 Gn vq vq AA AA) (TO.pad ?_)
 refine TO.Dj 0 rfl rfl AB (ER rfl rfl AB rfl underlying99 Gn Wk z51 rfl AB ⟨_,rfl,AQ _⟩ vq Jo Jq (Bu BO ⟨_,rfl,DL 1⟩)) (fun v1=> ?_)
 refine ap ?_
 refine ap ?_
 refine TO.Dj 0 rfl rfl AB (B8 rfl rfl rfl rfl underlying99 Gn Wk z51 IZ GX (A_ BO Kx)) (fun v2=> ?_)
 refine ap ?_
 refine wk [8,5,0] rfl ?_
 refine ap ?_
 refine tp rfl (Dq rfl underlying99 Gn vq vq AA AA) ?_
 refine TO.Dj 0 rfl rfl AB (B8 rfl rfl rfl rfl underlying99 Gn Wk z51 IZ vq (A_ BO Kx)) (fun v3=> ?_)
 refine ap ?_
 refine ac ?_
 · exact jk
 have q3:=DU.D7 h3
 iterate 6 refine TO.VG rfl rfl rfl (Be h3) rfl AB ?_
 refine ap ?_
 refine wk [38,5,1,0] rfl ?_
 refine ac ?_
 refine ap ?_
 refine tp rfl (Dx rfl underlying99 Gn vq vq AA AA) (TO.pad ?_)
 refine TO.Dj 0 rfl rfl AB (ER rfl rfl AB rfl underlying99 Gn Wk z51 rfl AB ⟨_,rfl,AQ _⟩ vq Jo Jq (Bu BO ⟨_,rfl,DL 1⟩)) (fun v4=> ?_)
 refine ap ?_
 refine ap ?_
 refine TO.Dj 0 rfl rfl AB (B8 rfl rfl rfl rfl underlying99 Gn Wk z51 IZ GX (A_ BO Kx)) (fun v5=> ?_)
 refine ap ?_
 refine wk [8,5,0] rfl ?_
 refine ap ?_
 refine tp rfl (Dq rfl underlying99 Gn vq vq AA AA) ?_
 refine TO.Dj 0 rfl rfl AB (B8 rfl rfl rfl rfl underlying99 Gn Wk z51 IZ vq (A_ BO Kx)) (fun v6=> ?_)
 refine ap ?_
 refine ac ?_
 · exact jk
theorem aC {o:List Int} (ho:o.length≤1000):BC prog 126 [ints o] (Cp.ex fun z:List BI=>fact (z.length≤o.length) (reqs z)):=by
 refine fo func126 rfl ⟨rfl,rfl⟩ fun M0 w0=>(Tr.Cf 0 rfl fun D_=> ?_)
 refine a3 ?_
 refine Tr.block (Tr.Co _ (kk [0] rfl) (fun (z:List BI) (i:Nat)=>[(3,reqs z),(4,int ((i:Nat):Int))]) (fun (z:List BI) (i:Nat)=>Hp M0 w0 FT ([])) (fun (z:List BI) (i:Nat)=>(1≤i∧(i≤o.length∨i=1))∧z.length+1≤i) (fun (z:List BI) (i:Nat)=>o.length-i) ([]) (1)  (⟨⟨by omega,.inr rfl⟩,by simp⟩) ⟨⟨_,rfl,AQ 2⟩,kz⟩ (fun _ _ h=>h) ?_)
 rintro z i  ⟨⟨hi1,hi2⟩,hzl⟩
 refine an ?_ ?_<;>intro h1 q1
 have Fp:i<o.length:=AH h1
 obtain ⟨x,hx⟩:=at_ Fp
 obtain ⟨y,hy⟩:=at_ (l:=o) (k:=i-1) AA
 refine a2 ?_
 refine co rfl (AD rfl underlying22 Bw vq vq AA bK) ?_
 refine ac ?_
 refine co rfl (AD rfl underlying22 Bw vq vq AA (Aa hx)) ?_
 refine ac ?_
 refine co rfl (CL (Rz (l:=z) (r:=⟨y,x⟩) AA) rfl rfl rfl) ?_
 refine ac ?_
 refine wk [4,3,0] rfl ?_
 refine ac ?_
 exact Fin.Cm ((GD z ⟨y,x⟩)) (i+1)  (⟨⟨⟨by omega,.inl AA⟩,by have:=Ry z ⟨y,x⟩;omega⟩,by omega⟩) ⟨kq,⟨_,rfl,AG i⟩,kz⟩ (fun _ _ h=>h)
 have hie:=AJ h1
 refine a3 ?_
 · exact Ax _ (A9 AA Lr)
theorem UA (n:Nat) (l:List BI):∀k,(DQ n l k).2.length≤k
 |0=>Nat.le_refl _
 |k+1=>by
  have h:=UA n l k
  rw [DQ]
  split
  · omega
  ·
   rename_i x _
   have h2:=OE (DQ n l k).2 x true
   show (EJ (DQ n l k).2 x true).length≤k+1
   omega
theorem aD {n:Int} {l:List BI} (hl:l.length≤1000000):BC prog 103 [int n,reqs l] (D6 [ints (if BG n l=0 then (DQ n.toNat l n.toNat).1 else []),int (BG n l)]):=by
 refine fo func103 rfl ⟨rfl,rfl⟩ fun M0 w0=> ?_
 refine a2 ?_
 refine co rfl (CL (HG hl) rfl rfl rfl) ?_
 refine ac ?_
 refine an ?_ ?_<;>intro h1 q1
 have hv:BG n l≠0:=by simpa using h1
 refine ac ?_
 refine Tr.ret (Fin.AF (Fin.Dm rfl (Br.D4 _ _) rfl ?_ rfl ?_))
 · rw [if_neg hv];exact AQ 1
 · exact Lr
 have hv:BG n l=0:=by simpa using h1
 obtain ⟨N,rfl⟩:∃N:Nat,n=(N:Int):=⟨n.toNat,by have:=(C_ hv).1;omega⟩
 have Np:=(C_ hv).1
 refine a2 ?_
 refine Tr.seq (Tr.block (Tr.B_ 3 1 (Tr.We _ (kk [1,0] rfl) (fun (k:Nat) u=>[(7,ints (DQ N l k).2),(8,Ac u (ints (DQ N l k).1))]) (fun (k:Nat) u=>Hp M0 w0 FT ([At 3 1 u])) (fun (k:Nat)=>k≤N) (fun (k:Nat)=>N-k) (0) (.slice none 0 0) (Nat.zero_le _) ⟨⟨_,rfl,AQ 1⟩,⟨_,rfl,Bq rfl⟩,trivial⟩ (fun _ _ h=>h) ?_)))
 rintro k u hkN
 have hrow:=I7 hv k (by simpa using hkN)
 rw [Int.toNat_natCast] at hrow
 obtain ⟨iI,hrl⟩:=hrow
 have hdl:(DQ N l k).2.length≤100000:=Nat.le_trans (UA N l k) AA
 refine ac ?_
 refine co rfl (CB rfl underlying51 IZ) ?_
 refine an ?_ ?_<;>intro h2 q2
 have hk:k<N:=by have:=DU.D7 h2;omega
 obtain ⟨x,hx0,hst⟩:=XV hv (k:=k) Py
 rw [Int.toNat_natCast] at hx0 hst
 have ADY:=Aa (f:=fun n:Int=>[int n]) hx0
 refine a2 ?_
 refine co rfl (jL (O3 (n:=N) (l:=l) AA AA) rfl rfl rfl rfl rfl) ?_
 refine ac ?_
 refine Tr.pad (Tr.rx ?_)
 refine ay ?_
 refine xo rfl (fun _=>AD rfl underlying51 Bw vq vq AA ADY) (xo rfl (fun _=>F5 rfl Cq rfl) (xo rfl (fun _=>AO (xs:=[.tmp 27]) (rows:=[[_]]) rfl rfl underlying51 Bw z3 rfl AB ⟨⟨Am,Ni⟩,trivial⟩ AB) ?_))
 refine Cx.ef 1 rfl rfl AB (B8 rfl rfl rfl rfl underlying51 Bw IY z3 IZ GX (A_ BO Kx)) ?_
 refine ay ?_
 refine xo rfl (fun _=>AD rfl underlying51 Bw vq vq AA ADY) (xo rfl (fun _=>F5 rfl Cq rfl) (xo rfl (fun _=>LI (Gt AA) rfl rfl rfl rfl) (Cx.ef 1 rfl rfl AB (Us rfl rfl AB rfl vq) (xm rfl ?_))))
 refine Cx.nil ⟨by kernel_rfl,?_⟩
 refine BJ.open_ 1 8 rfl rfl (fun v1=> ?_)
 refine BJ.done W7 (Fin.block (Fin.drop 0 ?_))
 exact Fin.cB (k+1) v1 (⟨by omega,by omega⟩) ⟨⟨_,rfl,Pr.le_of_eq (by rw [hst])⟩,⟨_,rfl,BE (by rw [hst];simp)⟩,kz⟩ (fun _ _ h=>h)
 have aY:k=N:=by have:=DU.D7 h2;omega
 refine a2 ?_
 refine Tr.ret (Fin.Dm rfl (Br.D4 _ _) rfl ?_ rfl ?_)
 · rw [if_pos hv,Int.toNat_natCast,←aY];exact As _ _
 · refine int_eq ?_;exact hv.symm
structure Ld (n k:Nat) (L:List (List Int)):Prop where
 PX:∀s∈L,∀x∈s,0≤x∧x<(n:Int)
 len:∀s∈L,s.length=k
theorem Xm {n:Nat} {l:List BI} {s:List Int} {x:Int} (h:x∈Eg n l s true):(0≤x∧x<(n:Int))∧x∉s:=by
 unfold Eg at h
 obtain ⟨i,hi,rfl⟩:=List.mem_map.1 h
 obtain ⟨h1,h2⟩:=List.mem_filter.1 hi
 have h3:=List.mem_range.1 h1
 refine ⟨by omega,fun hc=> ?_⟩
 unfold ME at h2
 rw [Bool.and_eq_true] at h2
 have:=EM.2 hc
 rw [this] at h2
 exact absurd h2.1 AB
theorem Ld.put {n k:Nat} {l:List BI} {L z:List (List Int)} {s:List Int} {x:Int} (h:Ld n (k+1) L) (hs:s.length=k∧∀y∈s,0≤y∧y<(n:Int)) (hx:x∈Eg n l s true) (hp:uz L (EJ s x true) z):Ld n (k+1) z:=by
 have hb:=Xm hx
 refine ⟨fun t ht=> ?_,fun t ht=> ?_⟩
 ·
  rcases hp.mem t ht with h1|rfl
  · exact h.PX t h1
  ·
   intro y hy
   rcases DF.1 hy with rfl|hy
   · exact hb.1
   · exact hs.2 y hy
 ·
  rcases hp.mem t ht with h1|rfl
  · exact h.len t h1
  · rw [Gq hb.2,hs.1]
theorem iJ {n k:Nat}:Ld n k []:=⟨fun _ h=>GI,fun _ h=>GI⟩
theorem iK {n:Nat}:Ld n 0 [[]]:=⟨fun s h x hx=>(by simp at h;subst h;cases hx),fun s h=>(by simp at h;subst h;rfl)⟩
structure Le (n:Int) (L:List (List Int)):Prop where
 PX:∀s∈L,∀x∈s,0≤x∧x<n
 len:L.length≤4096
 wid:∀s∈L,s.length≤4096
theorem iL {n d:Nat} {lv ou nx:List (List Int)} (h1:Ld n (d+1) nx) (h2:Le (n:Int) ou) (h3:lv=[]∨d+1≤ou.length) (hl:ou.length+nx.length≤4096) (hy:lv≠[]):((Ld n (d+1) nx∧Le (n:Int) (ou++nx))∧(nx=[]∨d+1+1≤(ou++nx).length)∧nx.length≤4096)∧(if nx=[] then 0 else 4097-(ou++nx).length)<(if lv=[] then 0 else 4097-ou.length):=by
 have h4:(ou++nx).length=ou.length+nx.length:=List.length_append
 have h5:=h2.len
 rw [if_neg hy]
 refine ⟨⟨⟨h1,⟨fun s hs=> ?_,by omega,fun s hs=> ?_⟩⟩,?_,by omega⟩,?_⟩
 ·
  rcases List.mem_append.1 hs with hs|hs
  · exact h2.PX s hs
  · exact h1.PX s hs
 ·
  rcases List.mem_append.1 hs with hs|hs
  · exact h2.wid s hs
  · rw [h1.len s hs];rcases h3 with h3|h3;exact absurd h3 hy;omega
 ·
  cases nx with
  |nil=>exact .inl rfl
  |cons a m=>right;rcases h3 with h3|h3;exact absurd h3 hy;rw [h4,List.length_cons];omega
 ·
  cases nx with
  |nil=>rw [if_pos rfl];omega
  |cons a m=>rw [if_neg (fun h=>by cases h),h4,List.length_cons];rcases h3 with h3|h3;exact absurd h3 hy;omega
theorem iM {n:Int} {l:List BI} (hl:l.length≤1000000):BC prog 280 [int n,reqs l] (Cp.ex fun z:List (List Int)×Int=>fact (Le n z.1) (D6 [sets z.1,int z.2])):=by
 refine fo func280 rfl ⟨rfl,rfl⟩ fun M0 w0=> ?_
 refine a2 ?_
 refine co rfl (CL (HG hl) rfl rfl rfl) ?_
 refine ac ?_
 refine an ?_ ?_<;>intro h1 q1
 refine ac ?_
 refine Tr.ret (Fin.AF (Fin.BZ rfl (AM.tmp rfl Lr) (AM.tmp rfl Lr) ?_))
 · exact Yd
 have hv:BG n l=0:=by simpa using h1
 obtain ⟨N,rfl⟩:∃N:Nat,n=(N:Int):=⟨n.toNat,by have:=(C_ hv).1;omega⟩
 have Np:=(C_ hv).1
 refine ac ?_
 refine Tr.seq (Tr.Aj (co rfl (AO (xs:=[.const (.slice none 0 0)]) (rows:=[[ints []]]) rfl rfl underlying99 Gn z51 rfl AB ⟨⟨Am,VL.le vq (Pr.le_trans (AQ 1) (Af _))⟩,trivial⟩ AB) ?_))
 refine ac ?_
 refine Tr.seq (Tr.Aj (co rfl (AO (xs:=[.const (.slice none 0 0)]) (rows:=[[ints []]]) rfl rfl underlying99 Gn z51 rfl AB ⟨⟨Am,VL.le vq (Pr.le_trans (AQ 1) (Af _))⟩,trivial⟩ AB) ?_))
 refine ac ?_
 refine Tr.seq (Tr.block (Tr.ADU (e:=51) (rows:=[[ints []]]) 8 rfl Lr (fun v8=> ?_)))
 refine Tr.Fg _ (kk [1,0] rfl) (fun (lv:List (List Int)) (ou:List (List Int)) (d:Nat) u=>[(7,sets lv),(8,Ac u (sets ou))]) (fun (lv:List (List Int)) (ou:List (List Int)) (d:Nat) u=>Hp M0 w0 FT ([At 51 1 u])) (fun (lv:List (List Int)) (ou:List (List Int)) (d:Nat)=>(Ld N d lv∧Le N ou)∧(lv=[]∨d+1≤ou.length)∧lv.length≤4096) (fun (lv:List (List Int)) (ou:List (List Int)) (d:Nat)=>(if lv=[] then 0 else 4097-ou.length)) ([[]]) ([[]]) (0) v8 (⟨⟨iK,⟨fun s h x hx=>(by simp at h;subst h;cases hx),by decide,fun s h=>(by simp at h;subst h;decide)⟩⟩,.inr AB,by decide⟩) ⟨⟨_,rfl,B5 1 _⟩,⟨_,rfl,BE rfl⟩,trivial⟩ (fun _ _ h=>h) ?_
 rintro lv ou d u ⟨⟨hlv,hou⟩,hd,hl4⟩
 refine an ?_ ?_<;>intro h2 q2
 have hy:lv≠[]:=by have h_:=DU.D7 h2;intro h0;subst h0;simp at h_
 have hd4:d+1≤4096:=by have:=hou.len;rcases hd with hd|hd;exact absurd hd hy;omega
 refine a3 ?_
 refine Tr.block ?_
 refine Tr.Co _ (kk [26,25,8,1,0] rfl) (fun (nx:List (List Int)) (m:Nat)=>[(9,sets nx),(27,int ((m:Nat):Int))]) (fun (nx:List (List Int)) (m:Nat)=>Hp M0 w0 FT ([At 51 1 u])) (fun (nx:List (List Int)) (m:Nat)=>(m≤lv.length∧Ld N (d+1) nx)∧ou.length+nx.length≤4096) (fun (nx:List (List Int)) (m:Nat)=>lv.length-m) ([]) (0)  (⟨⟨Nat.zero_le _,iJ⟩,by have:=hou.len;simpa using this⟩) ⟨⟨_,rfl,AQ 1⟩,kz⟩ (fun _ _ h=>h) ?_
 rintro nx m  ⟨⟨hm0,hnx⟩,Ta⟩
 refine ac ?_
 refine Tr.seq ?_
 refine Tr.cn rfl ?_ ?_<;>intro h3 q3
 have hml:m<lv.length:=AH h3
 obtain ⟨s,hs⟩:=at_ hml
 have Zl:=hlv.len s (List.mem_of_getElem? hs)
 refine ac ?_
 refine Tr.seq (Tr.block (Tr.seq (Tr.Aj (co rfl (AD rfl underlying99 Gn vq vq AA (Aa hs)) ?_))))
 refine a2 ?_
 refine co rfl (jL (O3 (n:=N) (l:=l) AA AA) rfl rfl rfl rfl rfl) ?_
 refine ac ?_
 refine wk [36,35,34,27,26,25,11,9,8,1,0] rfl (Tr.block (Tr.Co _ (kk [35,34,27,26,25,11,8,1,0] rfl) (fun (ny:List (List Int)) (q:Nat)=>[(9,sets ny),(36,int ((q:Nat):Int))]) (fun (ny:List (List Int)) (q:Nat)=>Hp M0 w0 FT ([At 51 1 u])) (fun (ny:List (List Int)) (q:Nat)=>(q≤(Eg N l s true).length∧Ld N (d+1) ny)∧ou.length+ny.length≤4096) (fun (ny:List (List Int)) (q:Nat)=>(Eg N l s true).length-q) (nx) (0)  (⟨⟨Nat.zero_le _,hnx⟩,Ta⟩) ⟨kq,kz⟩ (fun _ _ h=>h) ?_))
 rintro ny q  ⟨⟨hq0,hny⟩,AGm⟩
 refine ac ?_
 refine Tr.seq ?_
 refine Tr.cn rfl ?_ ?_<;>intro h4 q4
 have hql:q<(Eg N l s true).length:=AH h4
 have Wr:=XW (n:=N) (l:=l) (s:=s) (add:=true)
 obtain ⟨x,XI⟩:=at_ hql
 refine ac ?_
 refine Tr.seq (Tr.block (Tr.seq (Tr.Aj (co rfl (AD rfl underlying51 Bw vq vq AA (Aa XI)) ?_))))
 refine ac ?_
 refine wk [36,35,34,27,26,25,13,11,9,8,1,0] rfl ?_
 refine ap ?_
 refine tp rfl (LI (Gt AA) rfl rfl rfl rfl) ?_
 refine tp rfl (CL (pz AA (fun t ht=>by rw [hny.len t ht,Gq (Xm (List.mem_of_getElem? XI)).2];omega)) rfl rfl rfl) ?_
 refine TO.ex 44 rfl (fun z1=>TO.fact 44 rfl fun Eh=> ?_)
 have hzl:=Eh.le
 refine ap ?_
 refine wk [36,35,34,27,26,25,11,9,8,1,0] rfl ?_
 refine ac ?_
 refine co rfl (CB rfl underlying99 IZ) ?_
 refine ac ?_
 refine wk [50,36,35,34,27,26,25,11,9,8,1,0] rfl ?_
 refine Tr.cn rfl ?_ ?_<;>intro h5 q5
 refine ac ?_
 refine wk [5,4] rfl (Tr.ret (Fin.AU (Fin.AF (Fin.AF (Fin.AU (Fin.AU (Fin.AF (Fin.AF (Fin.AU (Fin.AF (Fin.AU (Fin.AF (Fin.AU (Fin.AF ?_))))))))))))))
 refine Fin.BZ rfl (AM.tmp rfl Lr) (AM.tmp rfl Lr) ?_
 · exact Yd
 refine a2 ?_
 exact Fin.Cm (z1) (q+1)  (⟨⟨⟨by omega,hny.put ⟨Zl,hlv.PX s (List.mem_of_getElem? hs)⟩ (List.mem_of_getElem? XI) Eh⟩,by omega⟩,by omega⟩) ⟨kq,⟨_,rfl,AG q⟩,kz⟩ (fun _ _ h=>h)
 have hqe:=AJ h4
 refine a2 ?_
 exact Fin.Cm (ny) (m+1)  (⟨⟨⟨by omega,hny⟩,AGm⟩,by omega⟩) ⟨kq,⟨_,rfl,AG m⟩,kz⟩ (fun _ _ h=>h)
 have hme:=AJ h3
 refine ac ?_
 refine ap ?_
 refine TO.Dj 0 rfl rfl AB (B8 rfl rfl rfl rfl underlying99 Gn Wk z51 IZ vq (A_ BO Kx)) (fun v1=> ?_)
 refine ap ?_
 exact Fin.EG (nx) (ou++nx) (d+1) v1 (iL hnx hou hd Ta hy) ⟨kq,⟨_,rfl,BE AV⟩,kz⟩ (fun _ _ h=>h)
 have hy:=h2
 refine a2 ?_
 refine Tr.ret (Fin.BZ rfl (AM.tmp rfl Lr) (AM.tmp rfl Lr) ?_)
 · exact Ax (_,_) (A9 hou (A7 ⟨As _ _,Lr,trivial⟩))
theorem p_ {β:Type} {p:β→Bool} {l:List β} {k:Nat} {x:β} (h:l[k]? =some x):idx p (l.take (k+1))=if idx p (l.take k)<0 then (if p x=true then (k:Int) else -1) else idx p (l.take k):=by
 have hk:=BN h
 rw [List.take_add_one,h]
 have hl:(l.take k).length=k:=by rw [List.length_take];omega
 show idx p (l.take k++[x])=_
 generalize l.take k=a at hl ⊢
 unfold idx
 rw [List.findIdx?_append]
 cases ha:a.findIdx? p with
 |some i=>simp;intro h3;omega
 |none=>cases hp:p x<;>simp [hp,hl]
theorem iN {β:Type} {p:β→Bool} {l:List β} {k:Nat} {x:β} (h:l[k]? =some x):(((l.take (k+1)).countP p:Nat):Int)=((l.take k).countP p:Nat)+(if p x=true then 1 else 0):=by
 rw [List.take_add_one,h]
 show (((l.take k++[x]).countP p:Nat):Int)=_
 rw [List.countP_append,List.countP_singleton];split<;>simp_all
theorem NT {β:Type} {p:β→Bool} {l:List β}:idx p l<0↔l.countP p=0:=by
 unfold idx
 cases h:l.findIdx? p with
 |none=>
  rw [List.findIdx?_eq_none_iff] at h
  simp only [show ((none:Option Nat).map fun n=>(n:Int)).getD (-1)= -1 from rfl]
  constructor
  · intro _;rw [List.countP_eq_zero];intro a ha;rw [h a ha];decide
  · intro _;decide
 |some i=>
  rw [List.findIdx?_eq_some_iff_getElem] at h
  obtain ⟨h1,h2,_⟩:=h
  constructor
  · intro h3;exfalso;revert h3;simp
  · intro h3;rw [List.countP_eq_zero] at h3;exact absurd h2 (h3 _ (List.getElem_mem h1))
theorem u7 {β:Type} {p:β→Bool} {l:List β} {k n:Nat} (h:l.length≤n):(l.take k).countP p≤n:=Nat.le_trans List.countP_le_length (Nat.le_trans Kl h)
theorem bsX {l:List Int} {n x:Int} {k:Nat} (h:∀(j:Nat) y,j<k→l[j]? =some y→y<n) (hx:l[k]? =some x) (hlt:x<n):∀(j:Nat) y,j<k+1→l[j]? =some y→y<n:=by
 intro j y hj hy
 rcases Nat.lt_or_eq_of_le (Nat.le_of_lt_succ hj) with h1|h1
 · exact h j y h1 hy
 · subst h1;rw [hx] at hy;cases hy;exact hlt
def HH (id:Int) (x:Hx):Bool:=x.CR==id
def Ft (id:Int) (l:List Hx):Int:=((l.countP (HH id):Nat):Int)
theorem GH (id:Int) (l:List Hx):Bo id l=idx (HH id) l:=rfl
theorem iO {id:Int} {l:List Hx} {k:Nat} {x:Hx} (h:l[k]? =some x):Ft id (l.take (k+1))=Ft id (l.take k)+(if x.CR=id then 1 else 0):=by
 unfold Ft;rw [iN h];unfold HH;simp only [beq_iff_eq]
theorem Xn {id:Int} {l:List Hx} {k:Nat} {x:Hx} (h:l[k]? =some x):Bo id (l.take (k+1))=if Ft id (l.take k)=0 then (if x.CR=id then (k:Int) else -1) else Bo id (l.take k):=by
 rw [GH,GH,p_ h]
 have:=NT (p:=HH id) (l:=l.take k)
 unfold Ft
 by_cases h2:idx (HH id) (l.take k)<0
 ·
  have h4:(((l.take k).countP (HH id):Nat):Int)=0:=by rw [this.1 h2];rfl
  rw [if_pos h2,if_pos h4];unfold HH;simp only [beq_iff_eq]
 · rw [if_neg h2,if_neg (fun h3=>h2 (this.2 AA))]
theorem Xo {id:Int} {l:List Hx} (h:Ft id l=0):Bo id l= -1:=by
 have h2:=(NT (p:=HH id) (l:=l)).2 (by unfold Ft at h;omega)
 rw [GH];unfold idx at h2 ⊢
 cases h3:l.findIdx? (HH id) with
 |none=>rfl
 |some i=>rw [h3] at h2;simp at h2;omega
def Hl (e:CA) (k:Int):Int×Bool:=if k=3 then (e.most,true) else if k=4 then (e.least,true) else if k=11 then (LK e.LJ,true) else if k=12 then (LK e.own,true) else (0,false)
def GQ (e:CA) (k:Int):List Int×Bool×Bool:=
 if k=1∨k=2 then (e.A0,decide (k=1),true) else if k=7∨k=8 then (e.anchors,decide (k=7),true) else if k=9∨k=10 then (e.hashes,decide (k=9),true) else ([],false,false)
theorem S_ (x:Hx):decide (x=Bz)=cQ x:=by
 rw [Bool.eq_iff_iff,decide_eq_true_eq];unfold cQ Bz
 cases x;simp only [Hx.mk.injEq,Bool.and_eq_true,decide_eq_true_eq,beq_iff_eq,and_assoc]
 constructor
 · rintro ⟨h1,h2,h3,h4⟩;exact ⟨h1,h2,h3,by simp [h4]⟩
 · rintro ⟨h1,h2,h3,h4⟩;exact ⟨h1,h2,h3,List.eq_nil_of_length_eq_zero AA⟩
theorem JC {l:List Int} {n:Int}  :BC prog 326 [ints l,int n] (int (idx (fun y=>n==y) l)):=by
 refine fo func326 rfl ⟨rfl,rfl⟩ fun M0 w0=>(Tr.Cf 0 rfl fun D_=> ?_)
 refine a2 ?_
 refine Tr.block (Tr.BD _ (kk [8,7,1] rfl) (fun k:Nat=>[(9,int ((k:Nat):Int))]) (fun k:Nat=>k≤(l).length∧(∀j y,j<k→l[j]? =some y→(n==y)=false)) (fun k:Nat=>(l).length-k) 0 (⟨Nat.zero_le _,fun j y hj=>absurd hj AA⟩) kz ?_)
 rintro k ⟨BR,AX⟩
 refine ac ?_
 refine Tr.seq ?_
 refine Tr.cn rfl ?_ ?_<;>intro h1 q1
 have Ai:k<(l).length:=AH h1
 obtain ⟨x,Ah⟩:=at_ Ai
 · repeat' first|(exact int_eq (EO (p:=fun y=>n==y) Ah CE AX))|(exact Fin.AL (k+1) ⟨⟨Ai,DV (p:=fun y=>n==y) Ah CE AX⟩,by omega⟩ ⟨⟨_,rfl,AG k⟩,kz⟩)|refine co rfl (AD rfl underlying22 Bw vq vq AA CM) ?_|refine ac ?_|(refine Tr.cn rfl ?_ ?_<;>intro h q)
 have BM:k=(l).length:=by have:=AJ h1;omega
 subst BM
 refine a3 ?_
 · exact int_eq (FA (p:=fun y=>n==y) AX)
theorem OR {e:CA} {id:Int} (hl:e.ids.length≤1000000):BC prog 328 [agg (Bg e),int id] (D6 [int (Ft id e.ids),int (Bo id e.ids)]):=by
 refine fo func328 rfl ⟨rfl,rfl⟩ fun M0 w0=> ?_
 refine a3 ?_
 refine Tr.block (Tr.BD _ (kk [12,11,1] rfl) (fun k:Nat=>[(13,int ((k:Nat):Int)),(6,int (Ft id (e.ids.take k))),(7,int (Bo id (e.ids.take k)))]) (fun k:Nat=>k≤(e.ids).length) (fun k:Nat=>(e.ids).length-k) 0 (Nat.zero_le _) ⟨kq,⟨_,rfl,int_eq rfl⟩,⟨_,rfl,int_eq rfl⟩,trivial⟩ ?_)
 rintro k BR
 refine ac ?_
 refine Tr.seq ?_
 refine Tr.cn rfl ?_ ?_<;>intro h1 q1
 have Ai:k<(e.ids).length:=AH h1
 obtain ⟨x,Ah⟩:=at_ Ai
 have hc:=iO (id:=id) Ah
 have hi:=Xn (id:=id) Ah
 have jH:0≤Ft id (e.ids.take k)∧Ft id (e.ids.take k)≤1000000:=⟨by unfold Ft;omega,by have:=u7 (p:=HH id) (k:=k) hl;unfold Ft;omega⟩
 have h0:=Xo (id:=id) (l:=e.ids.take k)
 refine ac ?_
 refine ao ?_
 refine tp rfl (AD rfl underlying38 E3 vq vq AA CM) ?_
 refine tp rfl (AP rfl Om E3 vq rfl rfl) ?_
 refine Tl rfl rfl rfl rfl WD So (fun b1=> ?_)
 refine tm rfl ?_
 refine sf 0 9 ⟨rfl,rfl,rfl⟩ rfl rfl rfl rfl ?_
 refine ao ?_
 · repeat' first|exact Fin.AL (k+1) ⟨Ai,by omega⟩ ⟨⟨_,rfl,AG k⟩,⟨_,rfl,int_eq Bv⟩,⟨_,rfl,int_eq Bv⟩,kz⟩|refine ac ?_|(refine Tr.cn rfl ?_ ?_<;>intro h q)
 have BM:k=(e.ids).length:=by have:=AJ h1;omega
 subst BM
 rw [List.take_length]
 refine a2 ?_
 refine Tr.ret (Fin.Dm rfl (Br.D4 _ _) rfl ?_ rfl ?_)
 · exact Lr
 · exact Lr
theorem Xp {b:Bool}  :BC prog 338 [bool b] (int (LK b)):=by
 refine fo func338 rfl ⟨rfl,rfl⟩ fun M0 w0=> ?_
 · repeat' first|exact int_eq (by simp_all [LK])|refine ac ?_|(refine Tr.cn rfl ?_ ?_<;>intro h q)
theorem aE {e:CA} {k:Int}  :BC prog 327 [agg (Bg e),int k] (D6 [int (Hl e k).1,bool (Hl e k).2]):=by
 refine fo func327 rfl ⟨rfl,rfl⟩ fun M0 w0=> ?_
 refine a2 ?_
 refine an ?_ ?_<;>intro h1 q1
 refine ac ?_
 refine Tr.ret (Fin.AU (Fin.AF (Fin.Dm rfl (Br.D4 _ _) rfl ?_ rfl ?_)))
 · exact MV
 · exact MU
 refine an ?_ ?_<;>intro h2 q2
 refine ac ?_
 refine Tr.ret (Fin.AU (Fin.AF (Fin.Dm rfl (Br.D4 _ _) rfl ?_ rfl ?_)))
 · exact MV
 · exact MU
 refine an ?_ ?_<;>intro h3 q3
 refine ac ?_
 refine co rfl (Ct (Xp) rfl rfl) ?_
 refine ac ?_
 refine wk [5,4] rfl (Tr.ret (Fin.AU (Fin.AF (Fin.Dm rfl (Br.D4 _ _) rfl ?_ rfl ?_))))
 · exact MV
 · exact MU
 refine an ?_ ?_<;>intro h4 q4
 refine ac ?_
 refine co rfl (Ct (Xp) rfl rfl) ?_
 refine ac ?_
 refine wk [5,4] rfl (Tr.ret (Fin.AU (Fin.AF (Fin.Dm rfl (Br.D4 _ _) rfl ?_ rfl ?_))))
 · exact MV
 · exact MU
 refine a2 ?_
 refine wk [5,4] rfl (Tr.ret (Fin.Dm rfl (Br.D4 _ _) rfl ?_ rfl ?_))
 · exact MV
 · exact MU
theorem iP {c:Bb} (hcs:c.C1.small):BC prog 324 [agg (Et c)] (bool (decide (JW c))):=by
 refine fo func324 rfl ⟨rfl,rfl⟩ fun M0 w0=> ?_
 refine ac ?_
 refine ac ?_
 refine co rfl (AR rfl (ZQ (a:=c.C1) (b:=Bz) hcs) ⟨ke rfl,⟨_,rfl,BS ⟨Lr,Lr,Lr,AQ 15,trivial⟩⟩,trivial⟩) ?_
 refine ac ?_
 refine ac ?_
 refine ac ?_
 refine Tr.cn rfl ?_ ?_<;>intro h1 q1
 refine ac ?_
 refine ac ?_
 · exact UL
 refine ac ?_
 refine Tr.cn rfl ?_ ?_<;>intro h2 q2
 refine ac ?_
 refine N0 2 rfl ?_
 refine ac ?_
 · exact UL
 refine ac ?_
 refine ac ?_
 refine Ch.cs 21 rfl ?_ ?_<;>intro h3 q3
 refine ac ?_
 refine Ch.cs 26 rfl ?_ ?_<;>intro h4 q4
 refine ac ?_
 refine Ch.cs 29 rfl ?_ ?_<;>intro h5 q5
 refine ac ?_
 refine N0 2 rfl ?_
 refine ac ?_
 · exact UL
 refine ac ?_
 refine N0 2 rfl ?_
 refine ac ?_
 · exact UL
 refine ac ?_
 refine N0 2 rfl ?_
 refine ac ?_
 · exact j4
 refine ac ?_
 refine N0 2 rfl ?_
 refine ac ?_
 · exact j4
theorem Xq {e:CA} {k:Int}  :BC prog 325 [agg (Bg e),int k] (D6 [ints (GQ e k).1,bool (GQ e k).2.1,bool (GQ e k).2.2]):=by
 refine fo func325 rfl ⟨rfl,rfl⟩ fun M0 w0=> ?_
 refine a2 ?_
 refine an ?_ ?_<;>intro h1 q1
 refine ac ?_
 refine Tr.cond rfl (fun _=> ?_) (fun h=>nomatch h1.symm.trans h)
 refine ac ?_
 refine wk [6,5,4] rfl (Tr.ret (Fin.AU (Fin.AF (Fin.Im rfl (Br.D4 _ _) rfl ?_ rfl ?_ rfl ?_))))
 · exact Kk
 · exact FV
 · exact FV
 refine an ?_ ?_<;>intro h2 q2
 refine ac ?_
 refine wk [6,5,4] rfl (Tr.ret (Fin.AU (Fin.AF (Fin.Im rfl (Br.D4 _ _) rfl ?_ rfl ?_ rfl ?_))))
 · exact Kk
 · exact FV
 · exact FV
 refine an ?_ ?_<;>intro h3 q3
 refine ac ?_
 refine Tr.cond rfl (fun _=> ?_) (fun h=>nomatch h3.symm.trans h)
 refine ac ?_
 refine wk [6,5,4] rfl (Tr.ret (Fin.AU (Fin.AF (Fin.Im rfl (Br.D4 _ _) rfl ?_ rfl ?_ rfl ?_))))
 · exact Kk
 · exact FV
 · exact FV
 refine an ?_ ?_<;>intro h4 q4
 refine ac ?_
 refine wk [6,5,4] rfl (Tr.ret (Fin.AU (Fin.AF (Fin.Im rfl (Br.D4 _ _) rfl ?_ rfl ?_ rfl ?_))))
 · exact Kk
 · exact FV
 · exact FV
 refine ac ?_
 refine wk [22,7,2,1] rfl ?_
 refine Tr.cn rfl ?_ ?_<;>intro h5 q5
 refine ac ?_
 refine Tr.cond rfl (fun _=> ?_) (fun h=>nomatch h5.symm.trans h)
 refine ac ?_
 refine Tr.ret (Fin.AU (Fin.AF (Fin.Im rfl (Br.D4 _ _) rfl ?_ rfl ?_ rfl ?_)))
 · exact Kk
 · exact FV
 · exact FV
 refine an ?_ ?_<;>intro h6 q6
 refine ac ?_
 refine Tr.ret (Fin.AU (Fin.AF (Fin.Im rfl (Br.D4 _ _) rfl ?_ rfl ?_ rfl ?_)))
 · exact Kk
 · exact FV
 · exact FV
 refine a2 ?_
 refine Tr.ret (Fin.Im rfl (Br.D4 _ _) rfl ?_ rfl ?_ rfl ?_)
 · exact Pr.le_trans (AQ 1) (Pr.le_of_eq (by rw [show (GQ e k).1=[] by simp_all [GQ]];rfl))
 · exact FV
 · exact FV
theorem OS {l:List Int} {i:Nat} {n:Int} (hi:i≤l.length) (hl:l.length≤1000000):BC prog 329 [ints l,int ((i:Nat):Int),int n] (ints (l.take i++[n]++l.drop i)):=by
 refine fo func329 rfl ⟨rfl,rfl⟩ fun M0 w0=> ?_
 have hml:(l.map fun n:Int=>[int n]).length=l.length:=List.length_map _
 refine ac ?_
 refine ap ?_
 refine tp rfl (Dx rfl underlying22 Bw vq vq AA AA) (TO.pad ?_)
 refine TO.Dj 0 rfl rfl AB (ER rfl rfl AB rfl underlying22 Bw IY z3 rfl AB ⟨_,rfl,AQ _⟩ vq Jo Jq (Bu BO ⟨_,rfl,DL 1⟩)) (fun v1=> ?_)
 refine ap ?_
 refine ap ?_
 refine TO.Dj 0 rfl rfl AB (B8 rfl rfl rfl rfl underlying22 Bw IY z3 IZ GX (A_ BO Kx)) (fun v2=> ?_)
 refine ap ?_
 refine ap ?_
 refine tp rfl (Dq rfl underlying22 Bw vq vq AA AA) ?_
 refine TO.Dj 0 rfl rfl AB (B8 rfl rfl rfl rfl underlying22 Bw IY z3 IZ vq (A_ BO Kx)) (fun v3=> ?_)
 refine ap ?_
 refine wk [6] rfl ?_
 refine ac ?_
 · exact Pr.le_trans (As _ _) (Pr.le_of_eq (by show _=slice 1 ((l.take i++[n]++l.drop i).map fun n=>[int n]);simp [List.map_take,List.map_drop]))
theorem JD {l:List Int} {i:Nat} (hi:i<l.length) (hl:l.length≤1000000):BC prog 330 [ints l,int ((i:Nat):Int)] (ints (l.eraseIdx i)):=by
 refine fo func330 rfl ⟨rfl,rfl⟩ fun M0 w0=> ?_
 have hml:(l.map fun n:Int=>[int n]).length=l.length:=List.length_map _
 refine ac ?_
 refine ap ?_
 refine tp rfl (Dx rfl underlying22 Bw vq vq AA AA) (TO.pad ?_)
 refine TO.Dj 0 rfl rfl AB (ER rfl rfl AB rfl underlying22 Bw IY z3 rfl AB ⟨_,rfl,AQ _⟩ vq Jo Jq (Bu BO ⟨_,rfl,DL 1⟩)) (fun v1=> ?_)
 refine ap ?_
 refine ap ?_
 refine tp rfl (Dq rfl underlying22 Bw vq vq AA AA) ?_
 refine TO.Dj 0 rfl rfl AB (B8 rfl rfl rfl rfl underlying22 Bw IY z3 IZ vq (A_ BO Kx)) (fun v2=> ?_)
 refine ap ?_
 refine ac ?_
 · exact Pr.le_trans (As _ _) (Pr.le_of_eq (by rw [List.eraseIdx_eq_take_drop_succ];show _=slice 1 ((l.take i++l.drop (i+1)).map fun n=>[int n]);simp [List.map_take,List.map_drop,show (((i:Nat):Int)+1).toNat=i+1 by omega]))
theorem O_ {l:List Int} {n:Int} (hl:l.length≤1000000):BC prog 331 [ints l,int n] (ints (ZI l n)):=by
 refine fo func331 rfl ⟨rfl,rfl⟩ fun M0 w0=>(Tr.Cf 0 rfl fun D_=> ?_)
 refine a2 ?_
 refine Tr.seq (Tr.block (Tr.BD _ (kk [1,0] rfl) (fun k:Nat=>[(5,int ((k:Nat):Int))]) (fun k:Nat=>k≤l.length∧(∀j y,j<k→l[j]? =some y→y<n)) (fun k:Nat=>l.length-k) 0 (⟨Nat.zero_le _,fun j y hj=>absurd hj AA⟩) kz ?_))
 rintro k ⟨BR,hinv⟩
 refine ag ?_ ?_<;>intro h1 q1
 obtain ⟨x,hx⟩:=at_ (l:=l) (k:=k) AA
 refine ac ?_
 refine cy h1 rfl (AD rfl underlying22 Bw vq vq AA (Aa hx)) ?_
 refine ac ?_
 refine wk [17,5,1,0] rfl ?_
 refine Tr.cn rfl ?_ ?_<;>intro h2 q2
 have hq:=h2
 refine a2 ?_
 exact Fin.AL (k+1) ⟨⟨by omega,bsX hinv hx (by simpa using hq)⟩,by omega⟩ ⟨⟨_,rfl,AG k⟩,kz⟩
 have hp:E4 l n=k:=VO BR hinv (fun y hy=>by have h_:=h2;rw [hx] at hy;cases hy;simpa using h_)
 refine a2 ?_
 refine co rfl (AR rfl (OS (l:=l) (i:=E4 l n) (cT _ _) hl) ⟨kq,⟨_,rfl,int_eq AA⟩,kz⟩) ?_
 refine a2 ?_
 · exact Lr
 have hp:E4 l n=k:=VO BR hinv (fun y hy=>by have:=BN hy;have:=q1;omega)
 refine ac ?_
 refine wk [17,5,1,0] rfl ?_
 refine a2 ?_
 refine co rfl (AR rfl (OS (l:=l) (i:=E4 l n) (cT _ _) hl) ⟨kq,⟨_,rfl,int_eq AA⟩,kz⟩) ?_
 refine a2 ?_
 · exact Lr
def S8 (e:CA) (c:Bb):Int:=
 if GY e=false then 19 else if ¬JW c then 40
 else if c.kind=1∧(c.at_<0∨(e.A0.length:Int)<c.at_) then 2
 else if c.kind=5∧(c.at_<0∨(e.ids.length:Int)<c.at_) then 2
 else if (c.kind=11∨c.kind=12)∧(c.number≠0∧c.number≠1) then 2
 else if (GQ e c.kind).2.2=true∧decide (0≤idx (fun y=>c.number==y) (GQ e c.kind).1)=(GQ e c.kind).2.1 then 41
 else if (Hl e c.kind).2=true∧(Hl e c.kind).1=c.number then 41
 else if c.kind=5∧0<Ft c.C1.CR e.ids then 41
 else if c.kind=6∧Ft c.number e.ids=0 then 41
 else if c.kind=6∧1<Ft c.number e.ids then 5 else 0
theorem V2 {l:List Int} (hs:tL l) {n:Int}:idx (fun y=>n==y) l=if Fq l n=true then ((E4 l n:Nat):Int) else -1:=by
 by_cases h:Fq l n=true
 ·
  rw [if_pos h]
  obtain ⟨y,hy⟩:=at_ (VQ h)
  have hyn:y=n:=by have h2:=cV rfl hy;rw [h] at h2;simpa using h2.symm
  exact (EO (p:=fun y=>n==y) hy (by simp [hyn]) (fun j z hj hz=>by have:=VP hj hz;simp;omega)).symm
 ·
  rw [if_neg h]
  refine (FA (p:=fun y=>n==y) (fun j z hj hz=> ?_)).symm
  simp only [beq_eq_false_iff_ne,ne_eq]
  intro hn;subst hn
  rcases Nat.lt_trichotomy j (E4 l n) with h1|h1|h1
  · have:=VP h1 hz;omega
  · subst h1;exact h (by rw [cV rfl hz];simp)
  ·
   obtain ⟨y,hy⟩:=at_ (l:=l) (k:=E4 l n) (by have:=BN hz;omega)
   have h2:=cU hy
   have h3:=tM hs h1 hy hz
   omega
theorem u9 {l:List Hx} {n:Int} {x:Hx} (h0:¬Bo n l<0) (hx:l[(Bo n l).toNat]? =some x):(1<Ft n l)↔((l.drop (Bo n l+1).toNat).any fun x=>x.CR==n)=true:=by
 obtain ⟨y,hy,hp,hlt⟩:=P_ (p:=HH n) (l:=l) (by rw [←GH];omega)
 rw [←GH] at hy hlt
 have hsplit:l=l.take (Bo n l).toNat++y::l.drop ((Bo n l).toNat+1):=by
  rw [List.getElem?_eq_getElem hlt] at hy;cases hy
  rw [List.getElem_cons_drop];exact (List.take_append_drop _ _).symm
 have h1:(l.take (Bo n l).toNat).countP (HH n)=0:=by
  refine NT.1 (Int.not_le.1 fun h2=> ?_)
  obtain ⟨z,hz,hzp,hzl⟩:=P_ h2
  have e1:Bo n l=idx (HH n) (l.take (Bo n l).toNat):=by
   obtain ⟨i,hi⟩:∃i:Nat,idx (HH n) (l.take (Bo n l).toNat)=(i:Int):=⟨_,(Int.toNat_of_nonneg h2).symm⟩
   have h3:((l.take (Bo n l).toNat).findIdx? (HH n))=some i:=by
    unfold idx at hi;cases h4:(l.take (Bo n l).toNat).findIdx? (HH n) with
    |none=>rw [h4] at hi;simp at hi
    |some k=>rw [h4] at hi;rw [show k=i by simp at hi;omega]
   have h5:l.findIdx? (HH n)=some i:=by
    rw [←List.take_append_drop (Bo n l).toNat l,List.findIdx?_append,h3];rfl
   have e2:idx (HH n) l=(i:Int):=by unfold idx;rw [h5]
   exact e2.trans hi.symm
  rw [←e1] at hzl;rw [List.length_take] at hzl;omega
 have h2:l.countP (HH n)=1+(l.drop ((Bo n l).toNat+1)).countP (HH n):=by
  conv=>lhs;rw [hsplit]
  rw [List.countP_append,h1,List.countP_cons,hp];simp;omega
 unfold Ft;rw [h2,show (Bo n l+1).toNat=(Bo n l).toNat+1 by omega]
 show _↔(List.any _ (HH n))=true
 rw [List.any_eq_true,←List.countP_pos_iff];omega
theorem u_ {l:List Int} {n:Int}:decide (0≤idx (fun y=>n==y) l)=l.any fun y=>n==y:=P7 _ _
theorem QX {l:List Int} (hs:tL l) {n:Int}:decide (0≤idx (fun y=>n==y) l)=Fq l n:=by
 rw [V2 hs];cases Fq l n<;>simp
theorem Xr {e:CA} {c:Bb} (hce:GY e=true) (hc:JW c):S8 e c=match CD e c with| .error f=>f| .ok _=>0:=by
 have ok:=DG.1 hce
 have ha:=QB ok.anc;have hh:=QB ok.hash
 have hk:=hc.1
 unfold S8
 rw [if_neg (by rw [hce];decide),if_neg (not_not_intro hc)]
 have h0:c.kind=1∨c.kind=2∨c.kind=3∨c.kind=4∨c.kind=5∨c.kind=6∨c.kind=7∨c.kind=8∨c.kind=9∨c.kind=10∨c.kind=11∨c.kind=12:=by omega
 rcases h0 with h|h|h|h|h|h|h|h|h|h|h|h
 ·
  rw [QC h];unfold GQ Hl;simp only [h]
  by_cases h1:c.at_<0∨(e.A0.length:Int)<c.at_
  ·
   have h2:¬(0≤c.at_∧c.at_≤(e.A0.length:Int)):=by omega
   simp [h1,h2]
  ·
   have h2:0≤c.at_∧c.at_≤(e.A0.length:Int):=by omega
   have h3:=u_ (l:=e.A0) (n:=c.number)
   have h4:(0≤idx (fun y=>c.number==y) e.A0)↔(e.A0.any fun y=>c.number==y)=true:=by rw [←h3,decide_eq_true_eq]
   by_cases h5:(e.A0.any fun y=>c.number==y)=true
   · have h6:=h4.2 h5;simp only [h5];simp [h1,h2,h6]
   ·
    have h6:¬0≤idx (fun y=>c.number==y) e.A0:=fun h=>h5 (h4.1 h)
    simp only [h5];simp [h1,h2,h6]
 ·
  rw [QD h];unfold GQ Hl M9;simp only [h]
  by_cases h1:idx (fun y=>c.number==y) e.A0<0
  · simp [h1]
  · simp [h1]
 · rw [QE h];unfold GQ Hl;simp only [h];by_cases h1:e.most=c.number<;>simp [h1]
 · rw [QF h];unfold GQ Hl;simp only [h];by_cases h1:e.least=c.number<;>simp [h1]
 ·
  rw [QG h];unfold GQ Hl;simp only [h]
  have uH:=NT (p:=HH c.C1.CR) (l:=e.ids)
  rw [←GH] at uH
  by_cases h1:c.at_<0∨(e.ids.length:Int)<c.at_
  ·
   have h2:¬(0≤c.at_∧c.at_≤(e.ids.length:Int)):=by omega
   simp [h1,h2]
  ·
   have h3:0≤c.at_∧c.at_≤(e.ids.length:Int):=by omega
   by_cases h2:0≤Bo c.C1.CR e.ids
   ·
    have:0<Ft c.C1.CR e.ids:=by unfold Ft;omega
    simp [h1,h2,h3,this]
   ·
    have:¬0<Ft c.C1.CR e.ids:=by unfold Ft;omega
    simp [h1,h2,h3,this]
 ·
  rw [QH h];unfold GQ Hl;simp only [h]
  have uH:=NT (p:=HH c.number) (l:=e.ids)
  rw [←GH] at uH
  by_cases h2:Bo c.number e.ids<0
  ·
   have:Ft c.number e.ids=0:=by unfold Ft;omega
   cases e.ids[(Bo c.number e.ids).toNat]? <;>simp [h2,this]
  ·
   have h3:¬Ft c.number e.ids=0:=by unfold Ft;omega
   obtain ⟨x,hx,_,_⟩:=P_ (p:=fun x:Hx=>x.CR==c.number) (l:=e.ids) (by unfold Bo at h2;omega)
   have hx:e.ids[(Bo c.number e.ids).toNat]? =some x:=hx
   have hd:=u9 h2 hx
   rw [hx];simp only [if_neg h2]
   by_cases h4:((e.ids.drop (Bo c.number e.ids+1).toNat).any fun x=>x.CR==c.number)=true
   · have:=hd.2 h4;simp only [h4];simp [h3,this]
   ·
    have:¬1<Ft c.number e.ids:=fun h5=>h4 (hd.1 h5)
    simp only [h4];simp [h3,this]
 ·
  rw [QI h];unfold GQ Hl;simp only [h]
  have h1:(0≤idx (fun y=>c.number==y) e.anchors)↔Fq e.anchors c.number=true:=by rw [←QX ha,decide_eq_true_eq]
  by_cases h2:Fq e.anchors c.number=true
  · exact Pu
  ·
   have h3:¬0≤idx (fun y=>c.number==y) e.anchors:=fun h=>h2 (h1.1 h)
   simp [h2,h3]
 ·
  rw [QJ h];unfold GQ Hl;simp only [h]
  have h1:(0≤idx (fun y=>c.number==y) e.anchors)↔Fq e.anchors c.number=true:=by rw [←QX ha,decide_eq_true_eq]
  by_cases h2:Fq e.anchors c.number=true
  · exact Pu
  ·
   have h3:¬0≤idx (fun y=>c.number==y) e.anchors:=fun h=>h2 (h1.1 h)
   simp [h2,h3]
 ·
  rw [QK h];unfold GQ Hl;simp only [h]
  have h1:(0≤idx (fun y=>c.number==y) e.hashes)↔Fq e.hashes c.number=true:=by rw [←QX hh,decide_eq_true_eq]
  by_cases h2:Fq e.hashes c.number=true
  · exact Pu
  ·
   have h3:¬0≤idx (fun y=>c.number==y) e.hashes:=fun h=>h2 (h1.1 h)
   simp [h2,h3]
 ·
  rw [M_ h];unfold GQ Hl;simp only [h]
  have h1:(0≤idx (fun y=>c.number==y) e.hashes)↔Fq e.hashes c.number=true:=by rw [←QX hh,decide_eq_true_eq]
  by_cases h2:Fq e.hashes c.number=true
  · exact Pu
  ·
   have h3:¬0≤idx (fun y=>c.number==y) e.hashes:=fun h=>h2 (h1.1 h)
   simp [h2,h3]
 ·
  rw [NA h];unfold GQ Hl;simp only [h]
  by_cases h1:0≤c.number∧c.number≤1
  ·
   have:¬(c.number≠0∧c.number≠1):=by omega
   by_cases h2:LK e.LJ=c.number<;>simp [this,h1,h2]
  ·
   have:c.number≠0∧c.number≠1:=by omega
   simp [this,h1]
 ·
  rw [NB h];unfold GQ Hl;simp only [h]
  by_cases h1:0≤c.number∧c.number≤1
  ·
   have:¬(c.number≠0∧c.number≠1):=by omega
   by_cases h2:LK e.own=c.number<;>simp [this,h1,h2]
  ·
   have:c.number≠0∧c.number≠1:=by omega
   simp [this,h1]
theorem vA {e:CA} {c:Bb} (h:S8 e c≠0):ED e c=(FH,He,S8 e c):=by
 by_cases hce:GY e=false
 ·
  have:S8 e c=19:=by unfold S8;rw [if_pos hce]
  rw [this];unfold ED;rw [if_pos hce]
 ·
  by_cases hc:JW c
  ·
   have hce:GY e=true:=by simpa using hce
   have hs:=Xr hce hc
   cases h2:CD e c with
   |error f=>rw [h2] at hs;rw [f_ hce hc h2,show S8 e c=f from hs]
   |ok r=>rw [h2] at hs;exact absurd hs h
  ·
   have:S8 e c=40:=by unfold S8;rw [if_neg hce,if_pos hc]
   rw [this];unfold ED;rw [if_neg hce,if_pos hc]
theorem zP {e:CA} {c:Bb} (h:S8 e c=0):GY e=true∧JW c∧∃e2 b,CD e c= .ok (e2,b):=by
 by_cases hce:GY e=false
 ·
  have:S8 e c=19:=by unfold S8;rw [if_pos hce]
  rw [this] at h;cases h
 ·
  by_cases hc:JW c
  ·
   have hce:GY e=true:=by simpa using hce
   have hs:=Xr hce hc
   cases h2:CD e c with
   |error f=>
    rw [h2] at hs;rw [h] at hs
    have h3:(0:Int)=f:=hs
    have:=XG hc h2;omega
   |ok r=>exact ⟨hce,hc,r.1,r.2,rfl⟩
  ·
   have:S8 e c=40:=by unfold S8;rw [if_neg hce,if_pos hc]
   rw [this] at h;cases h
theorem SP {β γ:Type} {f:β→γ} {l:List β} {k:Nat} {x:β} (h:l[k]? =some x):(l.take k).map f++[f x]=(l.take (k+1)).map f:=by rw [List.take_add_one,h,List.map_append];rfl
theorem MJ {x:Hx} (hx:x.small):BC prog 146 [agg (FB x)] (agg (FB x)):=by
 refine fo func146 rfl ⟨rfl,rfl⟩ fun M0 w0=> ?_
 have hch:=hx.chain
 refine Tr.seq (Tr.Ao (tp rfl (Bj rfl Cv) ?_))
 refine Tl rfl rfl rfl rfl WD So (fun b1=> ?_)
 refine ap ?_
 refine ap ?_
 refine Tl rfl rfl rfl rfl WD So (fun b2=> ?_)
 refine ap ?_
 refine ac ?_
 refine wk [14,13,12,3,2] rfl (Tr.block (Tr.H8 0 [int x.CF,int x.bits,int x.CR,Ac (.slice none 0 0) (slice 15 ((x.chain.take 0).map DO))] rfl ⟨Lr,Lr,Lr,Bq rfl,trivial⟩ (Tr.B_ 189 15 (Tr.Ep _ (kk [13,12,3,2] rfl) (fun k v=>[(14,int ((k:Nat):Int))]) (fun k v=>Hp M0 w0 FT ([At 189 15 v,AE true b2 84 [int x.CF,int x.bits,int x.CR,Ac v (slice 15 ((x.chain.take k).map DO))],AE true b1 84 (([.int .i64 0,.int .i64 0,.int .i64 0,.slice none 0 0]:List Value).map is)])) (fun k:Nat=>k≤(x.chain).length) (fun k:Nat=>(x.chain).length-k) 0 (.slice none 0 0) (Nat.zero_le _) kz (fun _ _ h=>h) ?_))))
 rintro k v BR
 refine ac ?_
 refine Tr.seq ?_
 refine Tr.cn rfl ?_ ?_<;>intro h1 q1
 have Ai:k<(x.chain).length:=AH h1
 obtain ⟨c,Ah⟩:=at_ Ai
 have hcn:=hx.names c (List.mem_of_getElem? Ah)
 refine ac ?_
 refine Tr.seq (Tr.block (Tr.seq (Tr.Ao (tp rfl (AD rfl underlying82 C8 vq vq AA CM) ?_))))
 refine tp rfl (AP rfl F_ C8 vq rfl rfl) ?_
 refine Tl rfl rfl rfl rfl RJ LU (fun b3=> ?_)
 refine ap ?_
 refine ap ?_
 refine tp rfl (I0 rfl underlying127 Ms by9 z9 rfl AB vq Pa Pm) ?_
 refine ap ?_
 refine wk [14,13,12,5,3,2] rfl ?_
 refine ap ?_
 refine TO.Dj 1 rfl rfl AB (B8 rfl rfl rfl rfl underlying82 C8 vw RJ IZ GX (A_ BO Kx)) (fun v1=> ?_)
 refine ap ?_
 refine Tr.drop 0 ?_
 refine ac ?_
 refine Fin.H8 1 [int x.CF,int x.bits,int x.CR,Ac v1 (slice 15 ((x.chain.take (k+1)).map DO))] rfl ⟨Lr,Lr,Lr,BE (SP (f:=DO) Ah),trivial⟩ (Fin.DM (k+1) v1 (⟨Ai,by omega⟩) ⟨⟨_,rfl,AG k⟩,kz⟩ (fun _ _ h=>h))
 have BM:k=(x.chain).length:=by have:=AJ h1;omega
 subst BM
 refine ac ?_
 refine ap ?_
 refine Tr.ret (Fin.CX rfl (AM.cell 2 rfl rfl Om E3 rfl Lr) ?_)
 · exact BS ⟨Lr,Lr,Lr,Pr.le_trans (As _ _) (Pr.le_of_eq Pq),trivial⟩
theorem aF {c:Bb} (hx:c.C1.small):BC prog 86 [agg (Et c)] (agg (Et c)):=by
 refine fo func86 rfl ⟨rfl,rfl⟩ fun M0 w0=>(Tr.seq (Tr.Ao ?_))
 refine TO.Uv rfl rfl AB rfl Cv (fun b1=> ?_)
 refine Tl rfl rfl rfl rfl P5 LH (fun b2=> ?_)
 refine ap ?_
 refine ap ?_
 refine tp rfl (Ct (MJ (x:=c.C1) hx) rfl rfl) ?_
 refine ap ?_
 refine ap ?_
 refine Tr.drop 1 (Tr.ret (Fin.CX rfl (AM.cell 0 rfl rfl HW Dp rfl Lr) ?_))
 · exact Lr
theorem UB {e:CA} (G2:e.small):BC prog 302 [agg (Bg e)] (agg (Bg e)):=by
 refine fo func302 rfl ⟨rfl,rfl⟩ fun M0 w0=> ?_
 have hs1:=G2.A0
 have VI:=G2.anchors
 have hs3:=G2.hashes
 have hs4:=G2.YZ
 refine Tr.seq (Tr.Ao (tp rfl (Bj rfl (Va rfl)) ?_))
 refine Tl rfl rfl rfl rfl z40 Hs (fun b1=> ?_)
 refine ao ?_
 refine ao ?_
 refine Tl rfl rfl rfl rfl z40 Hs (fun b2=> ?_)
 refine TO.AK 0 rfl rfl rfl (vl rfl) (Va rfl) rfl CC rfl rfl ?_
 refine ao ?_
 refine Tr.seq (Tr.rx ?_)
 refine ax ?_
 refine xo rfl (fun _=>I0 rfl underlying22 Bw IY z3 rfl AB (vl rfl) Pa Pm) ?_
 refine ax ?_
 refine xo rfl (fun _=>I0 rfl underlying22 Bw IY z3 rfl AB (vl rfl) Pa Pm) ?_
 refine ax ?_
 refine xo rfl (fun _=>I0 rfl underlying22 Bw IY z3 rfl AB (vl rfl) Pa Pm) ?_
 refine xo rfl (fun _=>AW rfl N4 (vl rfl)) (Cx.DY 0 rfl rfl (Ay rfl rfl (vl rfl) (Vo rfl) Ls rfl BA rfl) (xo rfl (fun _=>AW rfl ku (vl rfl)) (Cx.DY 0 rfl rfl (Ay rfl rfl (vl rfl) (Vo rfl) Ls rfl BA rfl) (xo rfl (fun _=>AW rfl k5 (vl rfl)) (Cx.DY 0 rfl rfl (Ay rfl rfl (vl rfl) (Vo rfl) Ls rfl BA rfl) ?_)))))
 refine Cx.nil ⟨by kernel_rfl,?_⟩
 refine BJ.done W7 (Fin.go (wk [3,2,1] rfl ?_))
 refine ao ?_
 refine TO.DY 0 rfl rfl (Ay rfl rfl (vl rfl) (Vo rfl) ko rfl BA rfl) ?_
 refine ao ?_
 refine ac ?_
 refine Tr.block (Tr.H8 0 [str e.name,int e.least,int e.most,ints e.A0,bool e.own,Ac (.slice none 0 0) (slice 4 ((e.ids.take 0).map FB)),ints e.anchors,ints e.hashes,bool e.LJ] rfl ⟨Lr,Lr,Lr,Lr,Lr,Bq rfl,Lr,Lr,Lr,trivial⟩ (Tr.B_ 84 4 (Tr.Ep _ (kk [22,21,3,2] rfl) (fun k v=>[(23,int ((k:Nat):Int))]) (fun k v=>Hp M0 w0 FT ([At 84 4 v,AE true b2 40 [str e.name,int e.least,int e.most,ints e.A0,bool e.own,Ac v (slice 4 ((e.ids.take k).map FB)),ints e.anchors,ints e.hashes,bool e.LJ],AE true b1 40 (([.string (ByteArray.mk #[]),.int .i64 0,.int .i64 0,.slice none 0 0,.bool false,.slice none 0 0,.slice none 0 0,.slice none 0 0,.bool false]:List Value).map is)])) (fun k:Nat=>k≤(e.ids).length) (fun k:Nat=>(e.ids).length-k) 0 (.slice none 0 0) (Nat.zero_le _) kz (fun _ _ h=>h) ?_)))
 rintro k v BR
 refine ac ?_
 refine Tr.seq ?_
 refine Tr.cn rfl ?_ ?_<;>intro h1 q1
 have Ai:k<(e.ids).length:=AH h1
 obtain ⟨x,Ah⟩:=at_ Ai
 have hxs:=G2.ids x (List.mem_of_getElem? Ah)
 refine ac ?_
 refine Tr.seq (Tr.block (Tr.seq (Tr.Ao (tp rfl (AD rfl underlying38 E3 (vl rfl) (vl rfl) AA CM) ?_))))
 refine tp rfl (AP rfl Om E3 (vl rfl) rfl rfl) ?_
 refine Tl rfl rfl rfl rfl WD So (fun b3=> ?_)
 refine sf 0 5 ⟨rfl,rfl,rfl⟩ rfl rfl rfl rfl ?_
 refine ao ?_
 refine Tr.pad (Tr.rx ?_)
 refine ax ?_
 refine xo rfl (fun _=>Ct (MJ hxs) rfl rfl) (xo rfl (fun _=>AO (xs:=[.tmp 30]) (rows:=[_]) rfl rfl underlying38 E3 WD rfl AB ⟨⟨Am,(Va rfl)⟩,trivial⟩ AB) ?_)
 refine Cx.ef 1 rfl rfl AB (B8 rfl rfl rfl rfl underlying38 E3 fK WD (Kb rfl) (Kf rfl) (A_ BO (Ka rfl))) ?_
 refine xo rfl (fun _=>AW rfl RD (vl rfl)) (Cx.DY 2 rfl rfl (F7 rfl rfl rfl (vl rfl) rfl ko BA) ?_)
 refine Cx.nil ⟨by kernel_rfl,?_⟩
 refine BJ.RC 1 2 32 rfl rfl AB rfl (fun v1=> ?_)
 refine BJ.done al4 ?_
 refine ac ?_
 refine Tr.drop 0 (wk [23,22,21,3,2] rfl ?_)
 refine ac ?_
 refine Fin.H8 1 [str e.name,int e.least,int e.most,ints e.A0,bool e.own,Ac v1 (slice 4 ((e.ids.take (k+1)).map FB)),ints e.anchors,ints e.hashes,bool e.LJ] rfl ⟨Lr,Lr,Lr,Lr,Lr,BE (SP (f:=FB) Ah),Lr,Lr,Lr,trivial⟩ (Fin.DM (k+1) v1 (⟨Ai,by omega⟩) ⟨⟨_,rfl,AG k⟩,kz⟩ (fun _ _ h=>h))
 have BM:k=(e.ids).length:=by have:=AJ h1;omega
 subst BM
 refine ac ?_
 refine ao ?_
 refine TO.AK 2 rfl rfl rfl (vl rfl) (Va rfl) rfl CC rfl rfl ?_
 refine ao ?_
 refine Tr.ret (Fin.CX rfl (AM.cell 2 rfl rfl Cg CC rfl Lr) ?_)
 · exact BS ⟨Lr,Lr,Lr,Lr,Lr,Pr.le_trans (As _ _) (Pr.le_of_eq Pq),Lr,Lr,Lr,trivial⟩
theorem V3 {e:CA} {c:Bb} (G2:e.small) (hcs:c.C1.small):BC prog 315 [agg (Bg e),agg (Et c)] (int (S8 e c)):=by
 refine fo func315 rfl ⟨rfl,rfl⟩ fun M0 w0=> ?_
 refine ac ?_
 refine ac ?_
 refine co rfl (Ct (FO G2) rfl rfl) ?_
 refine ac ?_
 refine Tr.cn rfl ?_ ?_<;>intro h1 q1
 refine ac ?_
 refine ac ?_
 · refine int_eq ?_;unfold S8;repeat (refine (if_pos ?_).symm;simp_all)
 refine ac ?_
 refine ac ?_
 refine co rfl (Ct (iP (c:=c) hcs) rfl rfl) ?_
 refine ac ?_
 refine Tr.cn rfl ?_ ?_<;>intro h2 q2
 refine ac ?_
 refine ac ?_
 · exact Yg
 refine ac ?_
 refine TN 2 3 rfl (Tr.Q2 [2,3] [] (¬(c.kind=1∧(c.at_<0∨(e.A0.length:Int)<c.at_))∧¬(c.kind=5∧(c.at_<0∨(e.ids.length:Int)<c.at_))∧¬((c.kind=11∨c.kind=12)∧(c.number≠0∧c.number≠1))) ?_ (fun AH9=> ?_))
 refine ac ?_
 refine ac ?_
 refine Tr.cn rfl ?_ ?_<;>intro h4 q4
 refine ac ?_
 refine Ch.cs 27 rfl ?_ ?_<;>intro h5 q5
 refine ac ?_
 refine F6 2 3 34 rfl ?_
 refine ac ?_
 refine ac ?_
 · exact Yg
 refine ac ?_
 refine F6 2 3 34 rfl ?_
 refine Tr.cn rfl ?_ ?_<;>intro h6 q6
 refine ac ?_
 refine ac ?_
 · exact Yg
 refine Tr.skip (Fin.block (Fin.AL () AA (Yy rfl)))
 refine ac ?_
 refine Tr.cn rfl ?_ ?_<;>intro h7 q7
 refine ac ?_
 refine Ch.cs 40 rfl ?_ ?_<;>intro h8 q8
 refine ac ?_
 refine F6 2 3 47 rfl ?_
 refine ac ?_
 refine ac ?_
 · exact Lf
 refine ac ?_
 refine F6 2 3 47 rfl ?_
 refine Tr.cn rfl ?_ ?_<;>intro h9 q9
 refine ac ?_
 refine ac ?_
 · exact Lf
 refine Tr.skip (Fin.block (Fin.AL () AA (Yy rfl)))
 refine ac ?_
 refine Tr.cn rfl ?_ ?_<;>intro h10 Re
 refine ac ?_
 refine Tr.cond rfl (fun _=> ?_) (fun h=>nomatch h10.symm.trans h)
 refine ac ?_
 refine Ch.cs 54 rfl ?_ ?_<;>intro h11 Sw
 refine ac ?_
 refine F6 2 3 58 rfl ?_
 refine Tr.cn rfl ?_ ?_<;>intro h12 WE
 refine ac ?_
 refine ac ?_
 · exact Lf
 refine Tr.skip (Fin.block (Fin.AL () AA (Yy rfl)))
 refine ac ?_
 refine F6 2 3 58 rfl (Tr.cond rfl (fun h=>nomatch h) (fun _=> ?_))
 refine Tr.skip (Fin.block (Fin.AL () AA (Yy rfl)))
 refine ac ?_
 refine Tr.cn rfl ?_ ?_<;>intro Nf cZ
 refine ac ?_
 refine Ch.cs 54 rfl ?_ ?_<;>intro Ng q14
 refine ac ?_
 refine F6 2 3 58 rfl ?_
 refine Tr.cn rfl ?_ ?_<;>intro Wh q15
 refine ac ?_
 refine ac ?_
 · exact Lf
 refine Tr.skip (Fin.block (Fin.AL () AA (Yy rfl)))
 refine ac ?_
 refine F6 2 3 58 rfl (Tr.cond rfl (fun h=>nomatch h) (fun _=> ?_))
 refine Tr.skip (Fin.block (Fin.AL () AA (Yy rfl)))
 refine Tr.skip (Fin.block (Fin.AL () AA (Yy rfl)))
 refine TN 2 3 rfl (Tr.Q2 [2,3] [] (¬((GQ e c.kind).2.2=true∧decide (0≤idx (fun y=>c.number==y) (GQ e c.kind).1)=(GQ e c.kind).2.1)) ?_ (fun AH_=> ?_))
 refine ac ?_
 refine co rfl (CL (Xq) rfl rfl rfl) ?_
 refine ac ?_
 refine ac ?_
 refine Ch.cs 68 rfl ?_ ?_<;>intro PL q17
 refine ac ?_
 refine cy PL rfl (CL (JC) rfl rfl rfl) ?_
 refine ac ?_
 refine F6 2 3 76 rfl ?_
 refine Tr.cn rfl ?_ ?_<;>intro Sb q18
 refine ac ?_
 refine ac ?_
 · exact jh
 refine Tr.skip (Fin.AL () Bv (Yy rfl))
 refine ac ?_
 refine F6 2 3 76 rfl (Tr.cond rfl (fun h=>nomatch h) (fun _=> ?_))
 refine Tr.skip (Fin.AL () Bv (Yy rfl))
 refine TN 2 3 rfl (Tr.Q2 [2,3] [] (¬((Hl e c.kind).2=true∧(Hl e c.kind).1=c.number)) ?_ (fun hval=> ?_))
 refine ac ?_
 refine co rfl (CL (aE) rfl rfl rfl) ?_
 refine ac ?_
 refine ac ?_
 refine Ch.cs 85 rfl ?_ ?_<;>intro Sd q20
 refine ac ?_
 refine F6 2 3 90 rfl ?_
 refine Tr.cn rfl ?_ ?_<;>intro cR q21
 refine ac ?_
 refine ac ?_
 · exact jh
 refine Tr.skip (Fin.AL () Bv (Yy rfl))
 refine ac ?_
 refine F6 2 3 90 rfl (Tr.cond rfl (fun h=>nomatch h) (fun _=> ?_))
 refine Tr.skip (Fin.AL () Bv (Yy rfl))
 refine TN 2 3 rfl (Tr.Q2 [2,3] [] (¬(c.kind=5∧0<Ft c.C1.CR e.ids)) ?_ (fun AIA=> ?_))
 refine ac ?_
 refine Tr.cn rfl ?_ ?_<;>intro h23 q23
 refine ac ?_
 refine co rfl (CL (OR G2.YZ) rfl rfl rfl) ?_
 refine ac ?_
 refine F6 2 3 10 rfl ?_
 refine ac ?_
 refine Tr.cn rfl ?_ ?_<;>intro Np q24
 refine ac ?_
 refine ac ?_
 · exact Lf
 refine Tr.skip (Fin.AL () AA (Yy rfl))
 refine Tr.skip (Fin.AL () AA (Yy rfl))
 refine ac ?_
 refine Tr.cn rfl ?_ ?_<;>intro h25 q25
 refine ac ?_
 refine co rfl (CL (OR G2.YZ) rfl rfl rfl) ?_
 refine ac ?_
 refine N0 12 rfl ?_
 refine ac ?_
 refine Tr.cn rfl ?_ ?_<;>intro h26 q26
 refine ac ?_
 refine ac ?_
 · exact Lf
 refine ac ?_
 refine ac ?_
 refine Tr.cn rfl ?_ ?_<;>intro h27 q27
 refine ac ?_
 refine ac ?_
 · exact Lf
 refine ac ?_
 refine ac ?_
 refine ac ?_
 · exact jm
 refine ac ?_
 refine ac ?_
 refine ac ?_
 · exact jm
def UC (e:Dl) (c:Bb):Dl×Int:=if (LY e.Bt c).2=0 then (⟨(LY e.Bt c).1,e.BU,e.items⟩,0) else (GC,(LY e.Bt c).2)
def V4 (x:Ia) (l:List Bb) (i:Nat):Bool:=(l[i]?).any fun c=>decide (c.AZ=x.client∨c.AZ=x.server)
def OU (x:Ia) (l:List Bb) (k:Nat):List Int:=((List.range k).filter (V4 x l)).map fun i:Nat=>(i:Int)
theorem Xs {x:Ia} {l:List Bb} {k:Nat} (h:V4 x l k=true):OU x l (k+1)=OU x l k++[(k:Int)]:=by unfold OU;rw [List.range_succ,List.filter_append,List.map_append];simp [h]
theorem vB {x:Ia} {l:List Bb} {k:Nat} (h:V4 x l k=false):OU x l (k+1)=OU x l k:=by unfold OU;rw [List.range_succ,List.filter_append,List.map_append];simp [h]
theorem Xt (x:Ia) (l:List Bb) (k:Nat):(OU x l k).length≤k:=by unfold OU;rw [List.length_map];exact Nat.le_trans (List.length_filter_le _ _) Pf
def Jt (e:Dl) (l:List Bb) (k:Int):List Int×Int:=
 if FR e=false then ([],31) else if 24<l.length then ([],3) else if k<0∨((e.BU.length:Nat):Int)≤k then ([],4)
 else (OU (e.BU[k.toNat]?.getD Gi) l l.length,0)
theorem AGn {e e2:CA} {c b:Bb} (h:c.kind=1) (hs:CD e c= .ok (e2,b)):(0≤c.at_∧c.at_≤(e.A0.length:Nat))∧e2={ e with A0:=e.A0.take c.at_.toNat++[c.number]++e.A0.drop c.at_.toNat }∧b=⟨c.AZ,2,c.number,0,Bz⟩:=by
 rw [QC h] at hs
 (repeat' (split at hs))<;>first|(cases hs;done)|(injection hs with hs;injection hs with h1 h2;exact ⟨by omega,h1.symm,h2.symm⟩)
theorem AGo {e e2:CA} {c b:Bb} (h:c.kind=2) (hs:CD e c= .ok (e2,b)):(0≤M9 e c)∧e2={ e with A0:=e.A0.eraseIdx (M9 e c).toNat }∧b=⟨c.AZ,1,c.number,M9 e c,Bz⟩:=by
 rw [QD h] at hs
 (repeat' (split at hs))<;>first|(cases hs;done)|(injection hs with hs;injection hs with h1 h2;exact ⟨by omega,h1.symm,h2.symm⟩)
theorem AGp {e e2:CA} {c b:Bb} (h:c.kind=3) (hs:CD e c= .ok (e2,b)):e2={ e with most:=c.number }∧b=⟨c.AZ,c.kind,e.most,0,Bz⟩:=by
 rw [QE h] at hs
 (repeat' (split at hs))<;>first|(cases hs;done)|(injection hs with hs;injection hs with h1 h2;exact ⟨h1.symm,h2.symm⟩)
theorem AGq {e e2:CA} {c b:Bb} (h:c.kind=4) (hs:CD e c= .ok (e2,b)):e2={ e with least:=c.number }∧b=⟨c.AZ,c.kind,e.least,0,Bz⟩:=by
 rw [QF h] at hs
 (repeat' (split at hs))<;>first|(cases hs;done)|(injection hs with hs;injection hs with h1 h2;exact ⟨h1.symm,h2.symm⟩)
theorem AGr {e e2:CA} {c b:Bb} (h:c.kind=5) (hs:CD e c= .ok (e2,b)):(0≤c.at_∧c.at_≤(e.ids.length:Nat))∧e2={ e with ids:=e.ids.take c.at_.toNat++[c.C1]++e.ids.drop c.at_.toNat }∧b=⟨c.AZ,6,c.C1.CR,0,Bz⟩:=by
 rw [QG h] at hs
 (repeat' (split at hs))<;>first|(cases hs;done)|(injection hs with hs;injection hs with h1 h2;exact ⟨by omega,h1.symm,h2.symm⟩)
theorem AGs {e e2:CA} {c b:Bb} (h:c.kind=6) (hs:CD e c= .ok (e2,b)):∃x,e.ids[(Bo c.number e.ids).toNat]? =some x∧0≤Bo c.number e.ids∧e2={ e with ids:=e.ids.eraseIdx (Bo c.number e.ids).toNat }∧b=⟨c.AZ,5,0,Bo c.number e.ids,x⟩:=by
 rw [QH h] at hs
 (repeat' (split at hs))<;>first|(cases hs;done)|(injection hs with hs;injection hs with h1 h2;exact ⟨_,by assumption,by omega,h1.symm,h2.symm⟩)
theorem AGt {e e2:CA} {c b:Bb} (h:c.kind=7) (hs:CD e c= .ok (e2,b)):Fq e.anchors c.number=false∧e2={ e with anchors:=ZI e.anchors c.number }∧b=⟨c.AZ,8,c.number,0,Bz⟩:=by
 rw [QI h] at hs
 (repeat' (split at hs))<;>first|(cases hs;done)|(injection hs with hs;injection hs with h1 h2;exact ⟨by simp_all,h1.symm,h2.symm⟩)
theorem AGu {e e2:CA} {c b:Bb} (h:c.kind=8) (hs:CD e c= .ok (e2,b)):Fq e.anchors c.number=true∧e2={ e with anchors:=e.anchors.eraseIdx (E4 e.anchors c.number) }∧b=⟨c.AZ,7,c.number,0,Bz⟩:=by
 rw [QJ h] at hs
 (repeat' (split at hs))<;>first|(cases hs;done)|(injection hs with hs;injection hs with h1 h2;exact ⟨by simp_all,h1.symm,h2.symm⟩)
theorem AGv {e e2:CA} {c b:Bb} (h:c.kind=9) (hs:CD e c= .ok (e2,b)):Fq e.hashes c.number=false∧e2={ e with hashes:=ZI e.hashes c.number }∧b=⟨c.AZ,10,c.number,0,Bz⟩:=by
 rw [QK h] at hs
 (repeat' (split at hs))<;>first|(cases hs;done)|(injection hs with hs;injection hs with h1 h2;exact ⟨by simp_all,h1.symm,h2.symm⟩)
theorem ADZ {e e2:CA} {c b:Bb} (h:c.kind=10) (hs:CD e c= .ok (e2,b)):Fq e.hashes c.number=true∧e2={ e with hashes:=e.hashes.eraseIdx (E4 e.hashes c.number) }∧b=⟨c.AZ,9,c.number,0,Bz⟩:=by
 rw [M_ h] at hs
 (repeat' (split at hs))<;>first|(cases hs;done)|(injection hs with hs;injection hs with h1 h2;exact ⟨by simp_all,h1.symm,h2.symm⟩)
theorem ADa {e e2:CA} {c b:Bb} (h:c.kind=11) (hs:CD e c= .ok (e2,b)):e2={ e with LJ:=(c.number==1) }∧b=⟨c.AZ,c.kind,LK e.LJ,0,Bz⟩:=by
 rw [NA h] at hs
 (repeat' (split at hs))<;>first|(cases hs;done)|(injection hs with hs;injection hs with h1 h2;exact ⟨h1.symm,h2.symm⟩)
theorem ADb {e e2:CA} {c b:Bb} (h:c.kind=12) (hs:CD e c= .ok (e2,b)):e2={ e with own:=(c.number==1) }∧b=⟨c.AZ,c.kind,LK e.own,0,Bz⟩:=by
 rw [NB h] at hs
 (repeat' (split at hs))<;>first|(cases hs;done)|(injection hs with hs;injection hs with h1 h2;exact ⟨h1.symm,h2.symm⟩)
theorem vC {e:CA} {c:Bb} (h:0≤M9 e c):(M9 e c).toNat<e.A0.length:=by obtain ⟨_,_,_,h3⟩:=P_ (p:=fun y=>c.number==y) (l:=e.A0) h;exact h3
theorem iQ {e e2:CA} {c b:Bb} (G2:e.small) (hcs:c.C1.small) (hce:GY e=true) (hc:JW c) (hs:CD e c= .ok (e2,b)):BC prog 316 [agg (Bg e),agg (Et c)] (agg (Bg e2)):=by
 refine fo func316 rfl ⟨rfl,rfl⟩ fun M0 w0=> ?_
 have hk:=hc.1
 have ok:=DG.1 hce
 have hs1:=G2.A0
 have VI:=G2.anchors
 have hs3:=G2.hashes
 have hs4:=G2.YZ
 refine Tr.seq (Tr.Ao (tp rfl (Bj rfl (Va rfl)) (tp rfl (Bj rfl (Va rfl)) ?_)))
 refine Tl rfl rfl rfl rfl z40 Hs (fun b1=> ?_)
 refine ap ?_
 refine ap ?_
 refine tp rfl (Ct (UB G2) rfl rfl) ?_
 refine Tl rfl rfl rfl rfl z40 Hs (fun b2=> ?_)
 refine ap ?_
 refine ac ?_
 refine an ?_ ?_<;>intro h1 q1
 obtain ⟨hr,rfl,rfl⟩:=AGn q1 hs
 refine ap ?_
 refine tp rfl (AR rfl (OS (l:=e.A0) (i:=c.at_.toNat) AA hs1) ⟨ke rfl,⟨_,rfl,int_eq AA⟩,kz⟩) ?_
 refine ap ?_
 refine wk [5,4] rfl ?_
 refine ap ?_
 refine Tr.drop 0 (Tr.ret (Fin.CX rfl (AM.cell 0 rfl rfl Cg CC rfl Lr) ?_))
 · exact Lr
 refine ac ?_
 refine wk [24,13,5,4,3,2] rfl ?_
 refine Tr.cn rfl ?_ ?_<;>intro h2 q2
 obtain ⟨hr,rfl,rfl⟩:=AGo q2 hs
 refine Tr.rx ?_
 refine ay ?_
 refine xo rfl (fun _=>CL (JC) rfl rfl rfl) ?_
 refine xo rfl (fun _=>AR rfl (JD (l:=e.A0) (i:=(M9 e c).toNat) (vC hr) hs1) ⟨ke rfl,⟨_,rfl,int_eq (show M9 e c=_ by omega)⟩,trivial⟩) ?_
 refine ay ?_
 refine Cx.nil ⟨by kernel_rfl,?_⟩
 refine BJ.done W7 ?_
 refine ac ?_
 refine wk [5,4] rfl ?_
 refine ap ?_
 refine Tr.drop 0 (Tr.ret (Fin.CX rfl (AM.cell 0 rfl rfl Cg CC rfl Lr) ?_))
 · exact Lr
 refine an ?_ ?_<;>intro h3 q3
 obtain ⟨rfl,rfl⟩:=AGp q3 hs
 refine ap ?_
 refine ap ?_
 refine Tr.drop 0 (Tr.ret (Fin.CX rfl (AM.cell 0 rfl rfl Cg CC rfl Lr) ?_))
 · exact Lr
 refine an ?_ ?_<;>intro h4 q4
 obtain ⟨rfl,rfl⟩:=AGq q4 hs
 refine ap ?_
 refine ap ?_
 refine Tr.drop 0 (wk [4] rfl (Tr.ret (Fin.CX rfl (AM.cell 0 rfl rfl Cg CC rfl Lr) ?_)))
 · exact Lr
 refine an ?_ ?_<;>intro h5 q5
 obtain ⟨hr,rfl,rfl⟩:=AGr q5 hs
 refine ap ?_
 refine tp rfl (Dx rfl underlying38 E3 (vl rfl) (vl rfl) AA CE) ?_
 refine TO.pad ?_
 refine TO.Dj 0 rfl rfl AB (ER rfl rfl AB rfl underlying38 E3 fK WD rfl AB ⟨_,rfl,AQ _⟩ (vl rfl) Jo Jq (Bu BO ⟨_,rfl,DL 1⟩)) (fun v1=> ?_)
 refine ap ?_
 refine wk [6,5,4,3] rfl ?_
 refine ap ?_
 refine tp rfl (Ct (MJ hcs) rfl rfl) (tp rfl (AO (xs:=[.tmp 56]) (rows:=[_]) rfl rfl underlying38 E3 WD rfl AB ⟨⟨Am,(Va rfl)⟩,trivial⟩ AB) ?_)
 refine TO.Dj 0 rfl rfl AB (B8 rfl rfl rfl rfl underlying38 E3 fK WD (Kb rfl) (Kf rfl) (A_ BO (Ka rfl))) (fun v2=> ?_)
 refine ap ?_
 refine ap ?_
 refine tp rfl (Dq rfl underlying38 E3 (vl rfl) (vl rfl) AA CE) ?_
 refine TO.Dj 0 rfl rfl AB (B8 rfl rfl rfl rfl underlying38 E3 fK WD (Kb rfl) (vl rfl) (A_ BO (Ka rfl))) (fun v3=> ?_)
 refine ap ?_
 refine wk [5,4] rfl ?_
 refine ap ?_
 refine Tr.drop 1 (Tr.ret (Fin.CX rfl (AM.cell 1 rfl rfl Cg CC rfl Lr) ?_))
 · exact BS ⟨Lr,Lr,Lr,Lr,Lr,Pr.le_trans (As _ _) (Pr.le_of_eq (by show _=slice 4 ((e.ids.take c.at_.toNat++[c.C1]++e.ids.drop c.at_.toNat).map FB);simp [List.map_take,List.map_drop])),Lr,Lr,Lr,trivial⟩
 refine ac ?_
 refine wk [67,13,5,4,3,2] rfl ?_
 refine Tr.cn rfl ?_ ?_<;>intro h6 q6
 obtain ⟨x_,hx_,hr,rfl,rfl⟩:=AGs q6 hs
 have hlt:=BN hx_
 refine ac ?_
 refine co rfl (CL (OR hs4) rfl rfl rfl) ?_
 refine ac ?_
 refine wk [8,5,4] rfl ?_
 refine ap ?_
 refine tp rfl (Dx rfl underlying38 E3 (vl rfl) (vl rfl) AA CE) ?_
 refine TO.pad ?_
 refine TO.Dj 0 rfl rfl AB (ER rfl rfl AB rfl underlying38 E3 fK WD rfl AB ⟨_,rfl,AQ _⟩ (vl rfl) Jo Jq (Bu BO ⟨_,rfl,DL 1⟩)) (fun v4=> ?_)
 refine ap ?_
 refine ap ?_
 refine tp rfl (Dq rfl underlying38 E3 (vl rfl) (vl rfl) AA CE) ?_
 refine TO.Dj 0 rfl rfl AB (B8 rfl rfl rfl rfl underlying38 E3 fK WD (Kb rfl) (vl rfl) (A_ BO (Ka rfl))) (fun v5=> ?_)
 refine ap ?_
 refine wk [5,4] rfl ?_
 refine ap ?_
 refine Tr.drop 1 (Tr.ret (Fin.CX rfl (AM.cell 1 rfl rfl Cg CC rfl Lr) ?_))
 · exact BS ⟨Lr,Lr,Lr,Lr,Lr,Pr.le_trans (As _ _) (Pr.le_of_eq (by show _=slice 4 ((e.ids.eraseIdx (Bo c.number e.ids).toNat).map FB);rw [List.eraseIdx_eq_take_drop_succ,show (Bo c.number e.ids+1).toNat=(Bo c.number e.ids).toNat+1 by omega];simp [List.map_take,List.map_drop])),Lr,Lr,Lr,trivial⟩
 refine an ?_ ?_<;>intro h7 q7
 obtain ⟨hr,rfl,rfl⟩:=AGt q7 hs
 refine ap ?_
 refine tp rfl (CL (O_ VI) rfl rfl rfl) ?_
 refine ap ?_
 refine wk [5,4] rfl ?_
 refine ap ?_
 refine Tr.drop 0 (Tr.ret (Fin.CX rfl (AM.cell 0 rfl rfl Cg CC rfl Lr) ?_))
 · exact Lr
 refine an ?_ ?_<;>intro h8 q8
 obtain ⟨hr,rfl,rfl⟩:=AGu q8 hs
 refine Tr.rx ?_
 refine ay ?_
 refine xo rfl (fun _=>CL (JC) rfl rfl rfl) ?_
 refine xo rfl (fun _=>AR rfl (JD (l:=e.anchors) (i:=E4 e.anchors c.number) (VQ hr) VI) ⟨ke rfl,⟨_,rfl,int_eq (by rw [V2 (QB ok.anc),if_pos hr])⟩,trivial⟩) ?_
 refine ay ?_
 refine Cx.nil ⟨by kernel_rfl,?_⟩
 refine BJ.done W7 ?_
 refine ac ?_
 refine wk [5,4] rfl ?_
 refine ap ?_
 refine Tr.drop 0 (Tr.ret (Fin.CX rfl (AM.cell 0 rfl rfl Cg CC rfl Lr) ?_))
 · exact Lr
 refine an ?_ ?_<;>intro h9 q9
 obtain ⟨hr,rfl,rfl⟩:=AGv q9 hs
 refine ap ?_
 refine tp rfl (CL (O_ hs3) rfl rfl rfl) ?_
 refine ap ?_
 refine wk [5,4] rfl ?_
 refine ap ?_
 refine Tr.drop 0 (Tr.ret (Fin.CX rfl (AM.cell 0 rfl rfl Cg CC rfl Lr) ?_))
 · exact Lr
 refine ac ?_
 refine wk [116,13,5,4,3,2] rfl ?_
 refine Tr.cn rfl ?_ ?_<;>intro h10 Re
 obtain ⟨hr,rfl,rfl⟩:=ADZ Re hs
 refine Tr.rx ?_
 refine ay ?_
 refine xo rfl (fun _=>CL (JC) rfl rfl rfl) ?_
 refine xo rfl (fun _=>AR rfl (JD (l:=e.hashes) (i:=E4 e.hashes c.number) (VQ hr) hs3) ⟨ke rfl,⟨_,rfl,int_eq (by rw [V2 (QB ok.hash),if_pos hr])⟩,trivial⟩) ?_
 refine ay ?_
 refine Cx.nil ⟨by kernel_rfl,?_⟩
 refine BJ.done W7 ?_
 refine ac ?_
 refine wk [5,4] rfl ?_
 refine ap ?_
 refine Tr.drop 0 (Tr.ret (Fin.CX rfl (AM.cell 0 rfl rfl Cg CC rfl Lr) ?_))
 · exact Lr
 refine an ?_ ?_<;>intro h11 Sw
 obtain ⟨rfl,rfl⟩:=ADa Sw hs
 refine ap ?_
 refine ap ?_
 refine Tr.drop 0 (Tr.ret (Fin.CX rfl (AM.cell 0 rfl rfl Cg CC rfl Lr) ?_))
 · exact Lr
 refine an ?_ ?_<;>intro h12 WE
 obtain ⟨rfl,rfl⟩:=ADb WE hs
 refine ap ?_
 refine wk [5,4] rfl ?_
 refine ap ?_
 refine Tr.drop 0 (Tr.ret (Fin.CX rfl (AM.cell 0 rfl rfl Cg CC rfl Lr) ?_))
 · exact Lr
 exfalso;omega
theorem aG {e:CA} {c:Bb} {n:Nat} (hz:e.sz n) (hn:n≤900000) (hi:c.C1.fits∧c.C1.small):BC prog 303 [agg (Bg e),agg (Et c)] (D6 [agg (Bg (ED e c).1),int (ED e c).2.2]):=by
 refine fo func303 rfl ⟨rfl,rfl⟩ fun M0 w0=> ?_
 have G2:=hz.small AA
 have hcs:=hi.2
 refine Tr.seq (Tr.Ao (tp rfl (Bj rfl Cv) (tp rfl (Bj rfl Cv) ?_)))
 refine Tl rfl rfl rfl rfl z40 Hs (fun b1=> ?_)
 refine ao ?_
 refine ac ?_
 refine co rfl (CL (V3 G2 hcs) rfl rfl rfl) ?_
 refine ac ?_
 refine an ?_ ?_<;>intro h1 q1
 have hb:=vA q1
 refine ao ?_
 refine TO.AK 0 rfl rfl rfl vq Cv rfl CC rfl rfl ?_
 refine ao ?_
 refine wk [5,4] rfl (Tr.ret (Fin.AF (Fin.BZ rfl (AM.cell 0 rfl rfl Cg CC rfl Lr) (AM.tmp rfl Lr) ?_)))
 refine A7 ⟨?_,?_,trivial⟩
 · exact az
 · exact int_eq (by rw [hb])
 obtain ⟨hce,hc,e2,b,hs⟩:=zP (e:=e) (c:=c) (by have:=q1;omega)
 have AGw:=(dG hc hs hz hi).1.small AA
 refine ac ?_
 refine ao ?_
 refine tp rfl (CL (iQ G2 hcs hce hc hs) rfl rfl rfl) ?_
 refine Tl rfl rfl rfl rfl z40 Hs (fun b2=> ?_)
 refine sf 0 7 ⟨rfl,rfl,rfl⟩ rfl rfl rfl rfl ?_
 refine ao ?_
 refine wk [7,4] rfl ?_
 refine ac ?_
 refine co rfl (Ct (FO AGw) rfl rfl) ?_
 refine an ?_ ?_<;>intro h2 q2
 have hb:=tN hce hc hs (by have:=q2;cases h_:GY e2<;>simp_all)
 refine ao ?_
 refine TO.AK 0 rfl rfl rfl vq Cv rfl CC rfl rfl ?_
 refine ao ?_
 refine Tr.ret (Fin.AF (Fin.BZ rfl (AM.cell 0 rfl rfl Cg CC rfl Lr) (AM.tmp rfl Lr) ?_))
 refine A7 ⟨?_,?_,trivial⟩
 · exact az
 · exact int_eq (by rw [hb])
 have hb:=mH hce hc hs (by have:=q2;cases h_:GY e2<;>simp_all)
 refine ac ?_
 refine ao ?_
 refine TO.AK 0 rfl rfl rfl vq Cv rfl CC rfl rfl ?_
 refine ao ?_
 refine Tr.ret (Fin.BZ rfl (AM.cell 0 rfl rfl Cg CC rfl Lr) (AM.tmp rfl Lr) ?_)
 refine A7 ⟨?_,?_,trivial⟩
 · rw [hb];exact Lr
 · exact int_eq (by rw [hb])
theorem SQ {e:Dl} {n:Nat} (hz:e.sz n) (hn:n≤1000000):PT prog 286 [agg (CK e)] (fun x=>agg [is x,IM e.BU,Ri e.items]) (fun x=>[Bs 40 9 (e.Bt.map Bg) x]):=by
 refine PT.of func286 rfl rfl BA fun M0 w0 S rs M1 w1=> ?_
 have hl1:=hz.le
 have hl2:=hz.lg
 have hl3:=hz.li
 refine Tr.seq (Tr.Ao (tp rfl (Bj rfl (Va rfl)) ?_))
 refine Tl rfl rfl rfl rfl z31 IG (fun b1=> ?_)
 refine ao ?_
 refine ao ?_
 refine tp rfl (I0 rfl underlying28 Ez vm Y9 rfl AB (vl rfl) jy j7) ?_
 refine tp rfl (oD) ?_
 refine Tl rfl rfl rfl rfl z31 IG (fun b2=> ?_)
 refine TO.AK 0 rfl rfl rfl (vl rfl) (Va rfl) rfl DZ rfl rfl ?_
 refine ao ?_
 refine ac ?_
 refine Tr.block (Tr.H8 0 [Ac (.slice none 0 0) (lens ((e.Bt.take 0).map Bg).length),IM e.BU,is (.slice none 0 0)] rfl ⟨GR rfl,Lr,Lr,trivial⟩ (Tr.Ht 40 9 (Tr.Ep _ (kk [14,13,3,2,1] rfl) (fun k v=>[(15,int ((k:Nat):Int))]) (fun k v=>Hp M0 w0 S (BQ 40 9 ((e.Bt.take k).map Bg) v::AE true b2 31 [Ac v (lens ((e.Bt.take k).map Bg).length),IM e.BU,is (.slice none 0 0)]::AE true b1 31 (([.slice none 0 0,.slice none 0 0,.slice none 0 0]:List Value).map is)::Ak M1 w1::rs)) (fun k:Nat=>k≤(e.Bt).length) (fun k:Nat=>(e.Bt).length-k) 0 (.slice none 0 0) (Nat.zero_le _) kz (fun _ _ h=>h) ?_)))
 rintro k v BR
 refine ac ?_
 refine Tr.seq ?_
 refine Tr.cn rfl ?_ ?_<;>intro h1 q1
 have Ai:k<(e.Bt).length:=AH h1
 obtain ⟨x,Ah⟩:=at_ Ai
 have hxs:=(hz.Bt x (List.mem_of_getElem? Ah)).small hn
 refine ac ?_
 refine Tr.seq (Tr.block (Tr.seq (Tr.Ao (tp rfl (AD rfl underlying27 CC (vl rfl) (vl rfl) AA CM) ?_))))
 refine tp rfl (AP rfl Cg CC (vl rfl) rfl rfl) ?_
 refine Tl rfl rfl rfl rfl z40 Hs (fun b3=> ?_)
 refine sf 0 5 ⟨rfl,rfl,rfl⟩ rfl rfl rfl rfl ?_
 refine ao ?_
 refine Tr.pad (Tr.rx ?_)
 refine ax ?_
 refine xo rfl (fun _=>Ct (UB hxs) rfl rfl) (xo rfl (fun _=>AO (xs:=[.tmp 22]) (rows:=[_]) rfl rfl underlying27 CC z40 rfl AB ⟨⟨Am,(Va rfl)⟩,trivial⟩ AB) ?_)
 refine Cx.ef 1 rfl rfl AB (FM rfl rfl AB rfl underlying27 CC xE z40 rfl AB AB (vl rfl) (Kf rfl) (BP fun _=>rfl) (Nat.zero_lt_succ _) (by simp only [List.length_map,List.length_take,List.length_cons,List.length_nil];unfold maxLen;omega) (by simp only [List.length_map,List.length_take,List.length_cons,List.length_nil];omega)) ?_
 refine xo rfl (fun _=>AW rfl G8 (vl rfl)) (Cx.DY 2 rfl rfl (F7 rfl rfl rfl (vl rfl) rfl xC BA) ?_)
 refine Cx.nil ⟨by kernel_rfl,?_⟩
 refine BJ.RC 1 2 24 rfl rfl AB rfl (fun v1=> ?_)
 refine BJ.done al5 ?_
 refine ac ?_
 refine Tr.drop 0 (wk [15,14,13,3,2,1] rfl ?_)
 refine ac ?_
 refine Fin.H8 1 [Ac v1 (lens ((e.Bt.take (k+1)).map Bg).length),IM e.BU,is (.slice none 0 0)] rfl ⟨C2 (by simp only [List.length_map,List.length_append,List.length_take,List.length_cons,List.length_nil];omega),Lr,Lr,trivial⟩ ?_
 rw [wQ (f:=Bg) Ah]
 exact Fin.DM (k+1) v1 (⟨Ai,by omega⟩) ⟨⟨_,rfl,AG k⟩,kz⟩ (fun _ _ h=>h)
 have BM:k=(e.Bt).length:=by have:=AJ h1;omega
 subst BM
 rw [List.take_length]
 refine a2 ?_
 refine Tr.block (Tr.H8 1 [Ac v (lens (e.Bt.map Bg).length),IM e.BU,Ac (.slice none 0 0) (Ri (e.items.take 0))] rfl ⟨Lr,Lr,Bq rfl,trivial⟩ (Tr.B_ 135 5 (Tr.Ep _ (kk [29,28,3,2] rfl) (fun m u=>[(30,int ((m:Nat):Int))]) (fun m u=>Hp M0 w0 S (At 135 5 u::BQ 40 9 (e.Bt.map Bg) v::AE true b2 31 [Ac v (lens (e.Bt.map Bg).length),IM e.BU,Ac u (Ri (e.items.take m))]::AE true b1 31 (([.slice none 0 0,.slice none 0 0,.slice none 0 0]:List Value).map is)::Ak M1 w1::rs)) (fun m:Nat=>m≤(e.items).length) (fun m:Nat=>(e.items).length-m) 0 (.slice none 0 0) (Nat.zero_le _) kz (fun _ _ h=>h) ?_)))
 rintro m u ND
 refine ac ?_
 refine Tr.seq ?_
 refine Tr.cn rfl ?_ ?_<;>intro h2 q2
 have EW:m<(e.items).length:=AH h2
 obtain ⟨y,Ef⟩:=at_ EW
 have hyl:=(hz.items y (List.mem_of_getElem? Ef)).2
 refine ac ?_
 refine Tr.seq (Tr.block (Tr.seq (Tr.Ao (tp rfl (AD rfl underlying29 HX (vl rfl) (vl rfl) AA CM) ?_))))
 refine tp rfl (AP rfl U3 HX (vl rfl) rfl rfl) ?_
 refine Tl rfl rfl rfl rfl U4 Wo (fun b4=> ?_)
 refine TO.AK 0 rfl rfl rfl (vl rfl) (Va rfl) rfl HX rfl rfl ?_
 refine ao ?_
 refine ao ?_
 refine tp rfl (I0 rfl underlying133 J2 v_ z198 rfl AB (vl rfl) jy j7) ?_
 refine tp rfl (AW rfl U5 (vl rfl)) (TO.DY 0 rfl rfl (Ay rfl rfl (vl rfl) (Vo rfl) vo rfl BA rfl) ?_)
 refine ao ?_
 refine wk [30,29,28,7,3,2] rfl ?_
 refine ao ?_
 refine TO.Dj 1 rfl rfl AB (B8 rfl rfl rfl rfl underlying29 HX k9 U4 (Kb rfl) (Kf rfl) (A_ BO (Ka rfl))) (fun v2=> ?_)
 refine tp rfl (AW rfl N3 (vl rfl)) (TO.DY 3 rfl rfl (Ay rfl rfl (vl rfl) (Vo rfl) xD rfl BA rfl) ?_)
 refine ao ?_
 refine Tr.drop 0 ?_
 refine ac ?_
 refine Fin.H8 2 [Ac v (lens (e.Bt.map Bg).length),IM e.BU,Ac v2 (Ri (e.items.take (m+1)))] rfl ⟨Lr,Lr,BE (wQ (f:=cw) Ef),trivial⟩ (Fin.DM (m+1) v2 (⟨EW,by omega⟩) ⟨⟨_,rfl,AG m⟩,kz⟩ (fun _ _ h=>h))
 have KH:m=(e.items).length:=by have:=AJ h2;omega
 subst KH
 refine ac ?_
 refine ao ?_
 refine TO.AK 3 rfl rfl rfl (vl rfl) (Va rfl) rfl DZ rfl rfl ?_
 refine ao ?_
 refine Tr.ret (Fin.Rj 1 rfl (Fin.drop 0 (Fin.drop 1 (Fin.J7 (Fin.xz v [_] rfl (AM.cell 0 rfl rfl Db DZ rfl Lr) ?_ (List.Perm.refl _))))))
 · exact BS ⟨EK _ _,Lr,Pr.le_trans (As _ _) (Pr.le_of_eq Pq),trivial⟩
theorem UT {e:Dl} {c:Bb} (h:c.AZ<0∨((e.Bt.length:Nat):Int)≤c.AZ):UC e c=(GC,40):=by unfold UC;rw [tu h];rfl
theorem zQ {e:Dl} {c:Bb} {x:CA} (h:¬(c.AZ<0∨((e.Bt.length:Nat):Int)≤c.AZ)) (hx:e.Bt[c.AZ.toNat]? =some x):UC e c=if (ED x c).2.2=0 then (⟨e.Bt.set c.AZ.toNat (ED x c).1,e.BU,e.items⟩,0) else (GC,(ED x c).2.2):=by
 unfold UC;rw [yT h hx]
 by_cases h0:(ED x c).2.2=0
 · rw [if_pos h0,if_pos h0];rfl
 · rw [if_neg h0,if_neg h0];exact (if_neg h0).symm
theorem aH {e:Dl} {c:Bb} {n:Nat} (hz:e.sz n) (hi:c.C1.fits∧c.C1.small) (h:(UC e c).2=0):(UC e c).1.sz (n+1)∧UC e c=(⟨(LY e.Bt c).1,e.BU,e.items⟩,0):=by
 have h0:(LY e.Bt c).2=0:=by
  by_cases h0:(LY e.Bt c).2=0
  · exact h0
  · unfold UC at h;rw [if_neg h0] at h;exact h
 have h1:UC e c=(⟨(LY e.Bt c).1,e.BU,e.items⟩,0):=by unfold UC;rw [if_pos h0]
 rw [h1]
 exact ⟨⟨mo hz.Bt hi,hz.items,by show (LY e.Bt c).1.length≤_;rw [dH];exact hz.le,hz.lg,hz.li⟩,rfl⟩
theorem vD {e:Dl} {c:Bb} (h:¬(UC e c).2=0):¬(LY e.Bt c).2=0∧(UC e c).2=(LY e.Bt c).2∧(UC e c).1=GC:=by
 by_cases h0:(LY e.Bt c).2=0
 · exfalso;unfold UC at h;rw [if_pos h0] at h;exact h rfl
 · unfold UC;rw [if_neg h0];exact ⟨h0,rfl,rfl⟩
theorem iR {e:Dl} {c:Bb} {n:Nat} (hz:e.sz n) (hn:n≤900000) (hci:c.C1.fits∧c.C1.small):BC prog 287 [agg (CK e),agg (Et c)] (D6 [agg (CK (UC e c).1),int (UC e c).2]):=by
 refine fo func287 rfl ⟨rfl,rfl⟩ fun M0 w0=> ?_
 have AIB:=hz.le
 refine Tr.seq (Tr.Ao (tp rfl (Bj rfl Cv) (tp rfl (Bj rfl Cv) ?_)))
 refine Tl rfl rfl rfl rfl z31 IG (fun b1=> ?_)
 refine ao ?_
 refine ag ?_ ?_<;>intro h1 q1
 refine ac ?_
 refine wk [19,4,3,2] rfl (Tr.cond rfl (fun _=> ?_) (fun h=>nomatch h))
 refine Tr.seq (Tr.Ao (tp rfl (Al (rows:=[]) rfl AA8 IG trivial rfl) (TO.AK 0 rfl rfl rfl vq Cv rfl DZ rfl rfl ?_)))
 refine ao ?_
 refine Tr.ret (Fin.AF (Fin.BZ rfl (AM.cell 0 rfl rfl Db DZ rfl Lr) (AM.tmp rfl Lr) ?_))
 refine A7 ⟨?_,?_,trivial⟩
 · exact ak
 · exact int_eq (by rw [UT (e:=e) (c:=c) AA])
 refine ac ?_
 refine wk [19,4,3,2] rfl ?_
 refine Tr.cn rfl ?_ ?_<;>intro h2 q2
 refine ao ?_
 refine TO.AK 0 rfl rfl rfl vq Cv rfl DZ rfl rfl ?_
 refine ao ?_
 refine Tr.ret (Fin.AF (Fin.BZ rfl (AM.cell 0 rfl rfl Db DZ rfl Lr) (AM.tmp rfl Lr) ?_))
 refine A7 ⟨?_,?_,trivial⟩
 · exact ak
 · exact int_eq (by rw [UT (e:=e) (c:=c) AA])
 obtain ⟨x,hx⟩:=at_ (l:=e.Bt) (k:=c.AZ.toNat) AA
 have hA:=zQ (e:=e) (c:=c) AA hx
 have hlt:=BN hx
 refine ac ?_
 refine Tr.seq (Tr.pad (Tr.rx ?_))
 refine ax ?_
 refine xo rfl (fun _=>AD rfl underlying27 CC vq vq AA (Bf (f:=Bg) hx)) ?_
 refine ax ?_
 refine xo rfl (fun _=>CL (aG (hz.Bt x (List.mem_of_getElem? hx)) AA hci) rfl rfl rfl) ?_
 refine ax ?_
 refine Cx.ef 0 rfl rfl AB (CN rfl rfl AB rfl z40 Hs) (Cx.DY 0 rfl rfl (Cs rfl rfl rfl rfl Cv CC rfl rfl) (xm rfl ?_))
 refine Cx.nil ⟨by kernel_rfl,?_⟩
 refine BJ.open_ 0 6 rfl rfl (fun v1=> ?_)
 refine BJ.done W7 (Fin.MN 6 0 _ rfl rfl (fun _=>rfl) (fun b2=> ?_))
 refine Fin.go (wk [7,6,4,3,2] rfl ?_)
 refine an ?_ ?_<;>intro h3 q3
 rw [if_neg (by have:=q3;omega)] at hA
 refine ao ?_
 refine TO.AK 1 rfl rfl rfl vq Cv rfl DZ rfl rfl ?_
 refine ao ?_
 refine Tr.drop 0 (Tr.ret (Fin.AF (Fin.BZ rfl (AM.cell 0 rfl rfl Db DZ rfl Lr) (AM.tmp rfl Lr) ?_)))
 refine A7 ⟨?_,?_,trivial⟩
 · exact Qr
 · exact GJ
 rw [if_pos (by have:=q3;omega)] at hA
 refine ac ?_
 refine ao ?_
 refine TO.lT rfl rfl AB rfl (SQ hz AA) kz (fun v2=> ?_)
 refine Tl rfl rfl rfl rfl z31 IG (fun b3=> ?_)
 refine TO.AK 0 rfl rfl rfl vq Cv rfl DZ rfl rfl ?_
 refine ao ?_
 refine ao ?_
 refine tp rfl (Ck 1 rfl (J6 rfl underlying27 CC vq vq AA Df)) ?_
 refine TO.DY 1 rfl rfl (G9 rfl rfl vq Cv CC rfl (BP fun _=>rfl) Uf AB (show _=(e.Bt.set c.AZ.toNat (ED x c).1).map Bg by rw [List.map_set];rfl)) ?_
 refine ao ?_
 refine Tr.drop 2 (wk [8,4] rfl (Tr.seq (Tr.JO 0 1 0 rfl rfl AB rfl Lr (BP fun _=>rfl) ?_)))
 refine ao ?_
 refine TO.AK 2 rfl rfl rfl vq Cv rfl DZ rfl rfl ?_
 refine ao ?_
 refine Tr.drop 1 (Tr.ret (Fin.BZ rfl (AM.cell 1 rfl rfl Db DZ rfl Lr) (AM.tmp rfl Lr) ?_))
 refine A7 ⟨?_,?_,trivial⟩
 · rw [hA];exact Lr
 · exact GJ
theorem SS {e:Dl} {l:List Bb} {s:List Int} {n:Nat} (hz:e.sz n) (hn:n≤800000) (hc:∀c∈l,c.C1.fits∧c.C1.small):BC prog 255 [agg (CK e),slice 8 (l.map Et),ints s] (D6 [agg (CK (Vd e l s).1),int (Vd e l s).2]):=by
 refine fo func255 rfl ⟨rfl,rfl⟩ fun M0 w0=>(Tr.Cf 1 rfl fun Fl=>(Tr.Cf 2 rfl fun mZ=>(Tr.seq (Tr.Ao (tp rfl (Bj rfl Cv) ?_)))))
 refine Tl rfl rfl rfl rfl z31 IG (fun b1=> ?_)
 refine ap ?_
 refine ac ?_
 refine co rfl (Ct (Dy (hz.fits AA)) rfl rfl) ?_
 refine an ?_ ?_<;>intro h1 q1
 have hA:Vd e l s=(GC,31):=if_pos (by have:=q1;cases h_:FR e<;>simp_all)
 refine ap ?_
 refine Tr.ret (Fin.AF (Fin.BZ rfl (AM.cell 0 rfl rfl Db DZ rfl Lr) (AM.tmp rfl Lr) ?_))
 refine A7 ⟨?_,?_,trivial⟩
 · exact Qr
 · exact GJ
 have hok:FR e=true:=by have:=q1;cases h_:FR e<;>simp_all
 refine ac ?_
 refine an ?_ ?_<;>intro h2 q2
 have hA:Vd e l s=(GC,3):=by unfold Vd;rw [if_neg Kn,if_pos (by have:=q2;omega)]
 refine ap ?_
 refine Tr.ret (Fin.AF (Fin.BZ rfl (AM.cell 0 rfl rfl Db DZ rfl Lr) (AM.tmp rfl Lr) ?_))
 refine A7 ⟨?_,?_,trivial⟩
 · exact Qr
 · exact GJ
 have AGx:l.length≤24:=by have:=q2;omega
 refine a2 ?_
 refine co rfl (CL (L7 (l:=s) (n:=((l.length:Nat):Int))) rfl rfl rfl) ?_
 refine ac ?_
 refine wk [25,6,3,2,1] rfl ?_
 refine Tr.cn rfl ?_ ?_<;>intro h3 q3
 have hA:Vd e l s=(GC,46):=by unfold Vd;rw [if_neg Kn,if_neg AA,if_pos Ks]
 refine ap ?_
 refine Tr.ret (Fin.AF (Fin.BZ rfl (AM.cell 0 rfl rfl Db DZ rfl Lr) (AM.tmp rfl Lr) ?_))
 refine A7 ⟨?_,?_,trivial⟩
 · exact Qr
 · exact GJ
 have hsb:DW l.length s=true:=by simpa using h3
 have hsn:=dI hsb
 have hel:=hz.le
 refine ac ?_
 refine ap ?_
 refine TO.lT rfl rfl AB rfl (SQ hz AA) kz (fun v1=> ?_)
 refine Tl rfl rfl rfl rfl z31 IG (fun b2=> ?_)
 refine ap ?_
 refine Tr.seq (Tr.seq (Tr.JO 0 1 0 rfl rfl AB rfl Lr (BP fun _=>rfl) ?_))
 refine ac ?_
 refine Tr.drop 1 (Tr.block (Tr.Co _ (kk [30,29,8,6,1] rfl) (fun (m:Nat) (Bt:List CA)=>[(31,int ((m:Nat):Int))]) (fun (m:Nat) (Bt:List CA)=>Hp M0 w0 FT ([AE true b2 31 (CK ⟨Bt,e.BU,e.items⟩),AE true b1 31 (([.slice none 0 0,.slice none 0 0,.slice none 0 0]:List Value).map is)])) (fun (m:Nat) (Bt:List CA)=>m≤s.length∧(⟨Bt,e.BU,e.items⟩:Dl).sz (n+m)∧OC l (s.drop m) Bt=OC l s e.Bt) (fun (m:Nat) (Bt:List CA)=>s.length-m) (0) (e.Bt)  (⟨Nat.zero_le _,hz,rfl⟩) kz (fun _ _ h=>h) ?_))
 rintro m Bt  ⟨hm1,hse,hm4⟩
 refine ac ?_
 refine Tr.seq ?_
 refine Tr.cn rfl ?_ ?_<;>intro h4 q4
 have hmm:m<s.length:=by have:=DU.D7 h4;omega
 obtain ⟨i,Ef⟩:=at_ hmm
 have him:=QN hsb Ef
 obtain ⟨c,jZ⟩:=at_ (l:=l) (k:=i.toNat) AA
 have hci:=hc c (List.mem_of_getElem? jZ)
 have hst:=gN (Bt:=Bt) Ef jZ
 rw [hm4] at hst
 refine ac ?_
 refine Tr.seq (Tr.block (Tr.seq (Tr.Aj (co rfl (AD rfl underlying51 Bw vq vq AA (Aa Ef)) ?_))))
 refine ac ?_
 refine Tr.seq (Tr.pad (Tr.rx ?_))
 refine ax ?_
 refine xo rfl (fun _=>AD rfl underlying32 Dp vq vq AA (Bf (f:=Et) jZ)) (xo rfl (fun _=>AP rfl HW Dp vq rfl rfl) ?_)
 refine xo rfl (fun _=>CL (iR (e:=⟨Bt,e.BU,e.items⟩) (c:=c) hse AA hci) rfl rfl rfl) ?_
 refine ax ?_
 refine Cx.ef 0 rfl rfl AB (CN rfl rfl AB rfl z31 IG) (Cx.DY 0 rfl rfl (Cs rfl rfl rfl rfl Cv DZ rfl rfl) (xm rfl ?_))
 refine Cx.nil ⟨by kernel_rfl,?_⟩
 refine BJ.open_ 0 11 rfl rfl (fun v2=> ?_)
 refine BJ.done al3 (Fin.MN 11 0 _ rfl rfl (fun _=>rfl) (fun b3=> ?_))
 refine Fin.go (wk [31,30,29,12,11,8,6,1] rfl ?_)
 refine an ?_ ?_<;>intro h5 q5
 obtain ⟨h0_,h1_,h2_⟩:=vD (e:=⟨Bt,e.BU,e.items⟩) (c:=c) (by have:=q5;omega)
 have h0_:¬(LY Bt c).2=0:=h0_
 rw [if_neg h0_] at hst
 have hA:Vd e l s=(GC,(UC ⟨Bt,e.BU,e.items⟩ c).2):=by unfold Vd;rw [if_neg Kn,if_neg AA,if_neg (by simp [hsb]),hst,h1_];exact if_neg h0_
 refine ap ?_
 refine Tr.drop 0 (Tr.ret (Fin.AF (Fin.AU (Fin.AF (Fin.AF (Fin.AU (Fin.AF (Fin.BZ rfl (AM.cell 1 rfl rfl Db DZ rfl Lr) (AM.tmp rfl Lr) ?_))))))))
 refine A7 ⟨?_,?_,trivial⟩
 · exact Qr
 · exact GJ
 have hs0:(UC ⟨Bt,e.BU,e.items⟩ c).2=0:=by have:=q5;omega
 have hap:(LY Bt c).2=0:=by by_cases h0:(LY Bt c).2=0;exact h0;(exfalso;unfold UC at hs0;rw [if_neg (show ¬(LY (⟨Bt,e.BU,e.items⟩:Dl).Bt c).2=0 from h0)] at hs0;exact h0 hs0)
 refine ac ?_
 refine ap ?_
 refine Tr.drop 0 ?_
 refine ac ?_
 refine Fin.eqC 0 (CK ⟨(LY Bt c).1,e.BU,e.items⟩) rfl (by rw [(aH hse hci hs0).2];rfl) ?_
 exact Fin.Cm (m+1) ((LY Bt c).1)  (⟨⟨by omega,by have h_:=(aH hse hci hs0).1;rw [(aH hse hci hs0).2] at h_;rw [show n+(m+1)=n+m+1 by omega];exact h_,by rw [hst,if_pos hap]⟩,by omega⟩) ⟨⟨_,rfl,AG m⟩,kz⟩ (fun _ _ h=>h)
 obtain rfl:m=s.length:=by have:=DU.D7 h4;omega
 rw [List.drop_length] at hm4
 have hA:Vd e l s=(⟨Bt,e.BU,e.items⟩,0):=by unfold Vd;rw [if_neg Kn,if_neg AA,if_neg (by simp [hsb]),←hm4];exact if_pos rfl
 refine ac ?_
 refine ap ?_
 refine Tr.ret (Fin.BZ rfl (AM.cell 1 rfl rfl Db DZ rfl Lr) (AM.tmp rfl Lr) ?_)
 refine A7 ⟨?_,?_,trivial⟩
 · rw [hA];exact Lr
 · exact GJ
theorem S3 {e:Dl} {l:List Bb} {i:Int} {n:Nat} (hz:e.sz n) (hn:n≤800000)  :BC prog 278 [agg (CK e),slice 8 (l.map Et),int i] (D6 [ints (Jt e l i).1,int (Jt e l i).2]):=by
 refine fo func278 rfl ⟨rfl,rfl⟩ fun M0 w0=>(Tr.Cf 1 rfl fun Fl=> ?_)
 refine a2 ?_
 refine co rfl (Ct (Dy (hz.fits AA)) rfl rfl) ?_
 refine an ?_ ?_<;>intro h1 q1
 have hA:Jt e l i=([],31):=if_pos (by have:=q1;cases h_:FR e<;>simp_all)
 refine ac ?_
 refine Tr.ret (Fin.AF (Fin.Dm rfl (Br.D4 _ _) rfl ?_ rfl ?_))
 · rw [hA];exact AQ 1
 · exact GJ
 have hok:FR e=true:=by have:=q1;cases h_:FR e<;>simp_all
 refine ac ?_
 refine an ?_ ?_<;>intro h2 q2
 have hA:Jt e l i=([],3):=by unfold Jt;rw [if_neg Kn,if_pos (by have:=q2;omega)]
 refine ac ?_
 refine Tr.ret (Fin.AF (Fin.Dm rfl (Br.D4 _ _) rfl ?_ rfl ?_))
 · rw [hA];exact AQ 1
 · exact GJ
 have AGx:l.length≤24:=by have:=q2;omega
 refine ac ?_
 refine ag ?_ ?_<;>intro h3 q3
 refine ac ?_
 refine wk [25,3,2,1] rfl ?_
 refine ac ?_
 refine Tr.ret (Fin.AF (Fin.Dm rfl (Br.D4 _ _) rfl ?_ rfl ?_))
 · exact j0
 · exact jz
 refine ac ?_
 refine wk [25,3,2,1] rfl ?_
 refine Tr.cn rfl ?_ ?_<;>intro h4 q4
 refine ac ?_
 refine Tr.ret (Fin.AF (Fin.Dm rfl (Br.D4 _ _) rfl ?_ rfl ?_))
 · exact j0
 · exact jz
 obtain ⟨g,hg⟩:=at_ (l:=e.BU) (k:=i.toNat) AA
 have hA:Jt e l i=(OU g l l.length,0):=by unfold Jt;rw [if_neg Kn,if_neg AA,if_neg AA,getD_at hg]
 refine a3 ?_
 refine Tr.block (Tr.B_ 3 1 (Tr.Ep _ (kk [27,26,3,2] rfl) (fun k v=>[(28,int ((k:Nat):Int)),(8,Ac v (ints (OU g l k)))]) (fun k v=>Hp M0 w0 FT ([At 3 1 v])) (fun k:Nat=>k≤(l).length) (fun k:Nat=>(l).length-k) 0 (.slice none 0 0) (Nat.zero_le _) ⟨kq,⟨_,rfl,Bq rfl⟩,trivial⟩ (fun _ _ h=>h) ?_))
 rintro k v BR
 refine ac ?_
 refine Tr.seq ?_
 refine Tr.cn rfl ?_ ?_<;>intro h5 q5
 have Ai:k<(l).length:=AH h5
 obtain ⟨c,Ah⟩:=at_ Ai
 have hrl:=Xt g l k
 refine ac ?_
 refine ao ?_
 refine tp rfl (AD rfl underlying32 Dp vq vq AA (Aa Ah)) (tp rfl (AP rfl HW Dp vq rfl rfl) ?_)
 refine Tl rfl rfl rfl rfl P5 LH (fun b1=> ?_)
 refine tm rfl ?_
 refine sf 0 10 ⟨rfl,rfl,rfl⟩ rfl rfl rfl rfl ?_
 refine ao ?_
 refine wk [28,27,26,10,9,8,3,2] rfl ?_
 refine ac ?_
 refine co rfl (AD rfl underlying28 Ez vq vq AA (Bf (f:=yJ) hg)) ?_
 refine ag ?_ ?_<;>intro h6 q6
 have hP:V4 g l k=true:=by unfold V4;rw [Ah];simp;omega
 refine ac ?_
 refine wk [52,28,27,26,9,8,3,2] rfl (Tr.cond rfl (fun _=> ?_) (fun h=>nomatch h))
 refine Tr.Ao (tm rfl (tm rfl (tp rfl (AO (xs:=[.tmp 54]) (rows:=[[_]]) rfl rfl underlying51 Bw z3 rfl AB ⟨⟨Am,Ni⟩,trivial⟩ AB) ?_)))
 refine TO.Dj 0 rfl rfl AB (B8 rfl rfl rfl rfl underlying51 Bw IY z3 IZ GX (A_ BO Kx)) (fun v1=> ?_)
 refine ao ?_
 refine ac ?_
 exact Fin.DM (k+1) v1 (⟨Ai,by omega⟩) ⟨⟨_,rfl,AG k⟩,⟨_,rfl,BE (by rw [Xs hP,List.map_append];rfl)⟩,kz⟩ (fun _ _ h=>h)
 refine ac ?_
 refine cy h6 rfl (AD rfl underlying28 Ez vq vq AA (Bf (f:=yJ) hg)) ?_
 refine ac ?_
 refine wk [52,28,27,26,9,8,3,2] rfl ?_
 refine Tr.cn rfl ?_ ?_<;>intro h7 q7
 have hP:V4 g l k=true:=by unfold V4;rw [Ah];simp;omega
 refine ao ?_
 refine TO.Dj 0 rfl rfl AB (B8 rfl rfl rfl rfl underlying51 Bw IY z3 IZ GX (A_ BO Kx)) (fun v2=> ?_)
 refine ao ?_
 refine ac ?_
 exact Fin.DM (k+1) v2 (⟨Ai,by omega⟩) ⟨⟨_,rfl,AG k⟩,⟨_,rfl,BE (by rw [Xs hP,List.map_append];rfl)⟩,kz⟩ (fun _ _ h=>h)
 have hP:V4 g l k=false:=by unfold V4;rw [Ah];simp;omega
 refine a2 ?_
 exact Fin.DM (k+1) v (⟨Ai,by omega⟩) ⟨⟨_,rfl,AG k⟩,⟨_,rfl,Pr.le_of_eq (by rw [vB hP])⟩,kz⟩ (fun _ _ h=>h)
 have BM:k=(l).length:=by have:=AJ h5;omega
 subst BM
 refine a2 ?_
 refine Tr.ret (Fin.Dm rfl (Br.D4 _ _) rfl ?_ rfl ?_)
 · rw [hA];exact As _ _
 · exact GJ
open Classical in
section
variable {e:Dl} {c:BT} {l:List Bb} {r:List BI} {d:List Int}
end
structure H6 (n:Nat) (r:List BI):Prop where
 up:∀q∈r,(0≤q.fst∧q.fst<q.thn)∧q.thn<n
 srt:D5 r=true
theorem H6.nil (n:Nat):H6 n []:=⟨(fun q h=>by cases h),rfl⟩
theorem OV (r:List BI) (q:BI):R3 r [q]=GD (r.foldl GD []) q:=rfl
theorem H6.put {n:Nat} {r:List BI} (h:H6 n r) {x y:Int} (h0:0≤x) (h1:x<y) (h2:y<n):H6 n (R3 r [⟨x,y⟩]):=by
 refine ⟨fun q hq=> ?_,?_⟩
 ·
  rw [OV,XU,Sy] at hq
  rcases hq with rfl|hq|hq
  · exact ⟨⟨h0,h1⟩,h2⟩
  · cases hq
  · exact h.up q hq
 · rw [OV];exact O1 (OH r rfl)
theorem aI (r:List BI) (q:BI):(R3 r [q]).length≤r.length+1:=by
 rw [OV]
 have h1:=Ry (r.foldl GD []) q
 have h2:=GP r []
 simp at h2;omega
theorem H6.valid {n:Nat} {r:List BI} (h:H6 n r) (hn:n≤24):BG n r=0:=nX hn h.up h.srt
theorem vE {b:Nat} {s:DS} {n:Nat} (hn:n≤24):Ba prog 52 [ptr b 0,int ((n:Nat):Int)] (Cp.ex fun r:List BI=>fact (H6 n r∧r.length≤2*n) (reqs r)) (Dc b s) (fun _=>Is 104 b):=by
 refine Ba.of func52 rfl rfl BA fun M0 w0 S rs M1 w1=> ?_
 have bw:=s.DD (n:=2*(n:Int)+1) AA
 refine Tr.seq (Tr.Aj (cm rfl (Ch.nil (Fin.go (Tr.seq (Tr.Aj (cm rfl (Ch.nil (Fin.go (Tr.seq (Tr.seq (Tr.Ao (tm rfl ?_)))))))))))))
 refine tm rfl ?_
 refine tp rfl (kG rfl (vl rfl) (vl rfl) ?hin) ?_;case hin=>unfold Oc;omega
 refine tp rfl (E0 rfl (vl rfl) (vl rfl) ?hin) ?_;case hin=>unfold Oc;omega
 refine TO.G4 0 rfl rfl AB (An rfl rfl AB rfl (Ca AA AA) ⟨ke rfl,ke rfl,trivial⟩) (tm rfl (TO.nil (Fin.go (Tr.block ?_))))
 refine Tr.Jz [(0,_),(1,_)] ⟨ke rfl,ke rfl,trivial⟩ (fun (r:List BI) (k:Int) (s2:DS)=>[(6,int k),(5,reqs r)]) (fun (r:List BI) (k:Int) (s2:DS)=>Hp M0 w0 S (Dc b s2::Ak M1 w1::rs)) (fun (r:List BI) (k:Int) (s2:DS)=>0≤k∧H6 n r∧(r.length:Int)+k≤2*n) (fun (r:List BI) (k:Int) (s2:DS)=>k.toNat) ([]) (s.val (2*(n:Int)+1)) (_)  (⟨by omega,H6.nil n,by simp;omega⟩) ⟨ke rfl,⟨_,rfl,AQ 2⟩,trivial⟩ (fun _ _ h=>h) ?_
 rintro r k s2  ⟨hk0,hN,hrl⟩
 refine Tr.seq (Tr.seq (Tr.Aj (cm rfl (co rfl (ki rfl rfl rfl rfl) (cm rfl ?_)))))
 refine Ch.cs 16 rfl ?_ ?_<;>intro h1 q1
 have hkp:k>0:=by simpa using h1
 refine MM h1 rfl (cy h1 rfl (ki rfl rfl rfl rfl) (co rfl (Q9 rfl rfl h1 rfl) (Ch.nil (Fin.go ?_))))
 refine Tr.cn rfl ?_ ?_<;>intro h2 q2
 have hn1:((n:Nat):Int)>1:=by simpa using h2
 have YL:=s2.DD (n:=(n:Int)) AA
 have Ur:=s2.Cd.DD (n:=(n:Int)) AA
 refine Tr.skip (Fin.go (Tr.seq (Tr.block (Tr.seq (Tr.Ao (tm rfl (tm rfl (TO.G4 0 rfl rfl AB (An rfl rfl AB rfl (Ca AA AA) ⟨ke rfl,ke rfl,trivial⟩) (tm rfl (tm rfl (TO.G4 0 rfl rfl AB (An rfl rfl AB rfl (Ca AA AA) ⟨ke rfl,ke rfl,trivial⟩) (tm rfl (tm rfl ?_)))))))))))))
 refine TO.nil (Fin.go (wk6 0 1 5 6 7 8 rfl (Tr.seq (Tr.Aj (cm rfl (cm rfl (co rfl (ki rfl rfl rfl rfl) (Ch.nil (Fin.go ?_)))))))))
 refine Tr.cn rfl ?_ ?_<;>intro h3 q3
 refine Tr.Aj (cm rfl (cm rfl (cm rfl (co rfl (Al (rows:=[(0,[_]),(1,[_])]) rfl ABB RE ⟨⟨rfl,(Vo rfl)⟩,⟨⟨rfl,(Vo rfl)⟩,trivial⟩⟩ rfl) (co rfl (AO (xs:=[.tmp 34]) (rows:=[_]) rfl rfl underlying33 Cr Sc rfl AB ⟨⟨Am,(Va rfl)⟩,trivial⟩ AB) ?_)))))
 refine co rfl (AR rfl (Zi (a:=r) (b:=[⟨s2.val n,s2.Cd.val n⟩]) AA AV) ⟨ke rfl,(Kf rfl),trivial⟩) ?_
 refine cm rfl (Ch.nil (Fin.block (Fin.go (WC 0 1 5 6 rfl (Tr.Aj (cm rfl (csu rfl rfl rfl rfl AA (cm rfl (Ch.nil ?_)))))))))
 exact Fin.EZ (R3 r [⟨s2.val n,s2.Cd.val n⟩]) (k-1) (_)  (⟨⟨by omega,hN.put AA Ks AA,by have:=aI r ⟨s2.val n,s2.Cd.val n⟩;omega⟩,by omega⟩) ⟨ke rfl,ke rfl,ke rfl,ke rfl,trivial⟩ (fun _ _ h=>h)
 refine Tr.skip (Fin.block (Fin.go (Tr.Aj (cm rfl (csu rfl rfl rfl rfl AA (cm rfl (Ch.nil (Fin.EZ (r) (k-1) (_)  (⟨⟨by omega,hN,by omega⟩,by omega⟩) ⟨ke rfl,ke rfl,ke rfl,ke rfl,trivial⟩ (fun _ _ h=>h)))))))))
 have:=h2
 refine Tr.exit (Fin.AY (Fin.AY (Fin.Au (Fin.go (Tr.seq (Tr.Aj (cm rfl (cm rfl (Ch.nil (Fin.go (Tr.ret (Fin.G5 0 _ rfl rfl (Fin.GW [] rfl (AM.tmp rfl (Lr)) ?_ (fun _ _ _ _=>rfl))))))))))))))
 · exact Ax r (A9 ⟨hN,by omega⟩ (Lr))
 refine cnt h1 rfl (cnt h1 rfl (co rfl (Mk rfl rfl h1 rfl) (Ch.nil (Fin.go (Tr.cond rfl (fun h=>nomatch h) (fun _=> ?_))))))
 refine Tr.exit (Fin.AY (Fin.AY (Fin.Au (Fin.go (Tr.seq (Tr.Aj (cm rfl (cm rfl (Ch.nil (Fin.go (Tr.ret (Fin.G5 0 _ rfl rfl (Fin.GW [] rfl (AM.tmp rfl (Lr)) ?_ (fun _ _ _ _=>rfl))))))))))))))
 · exact Ax r (A9 ⟨hN,by omega⟩ (Lr))
def TC (e:CA) (c:Bb):Int:=
 if c.kind=7∨c.kind=9 then 0 else if c.kind=5 then 1 else if c.kind=1∨c.kind=12 then 2
 else if c.kind=3 then (if c.number>e.most then 2 else 3) else if c.kind=4 then (if c.number<e.least then 2 else 3) else if c.kind=11 then (if c.number=1 then 2 else 3) else 3
def SU (a b:Int) (x:Ia):Bool:=(decide (x.client=a)&&decide (x.server=b))||(decide (x.client=b)&&decide (x.server=a))
def PB (l:List Ia) (a b:Int):Bool:=decide (a=b)||l.any (SU a b)
theorem qA {l:List Ia} {a b:Int} {k:Nat} {x:Ia} (hx:l[k]? =some x) (h:SU a b x=true):PB l a b=true:=by unfold PB;rw [List.any_eq_true.2 ⟨x,List.mem_of_getElem? hx,h⟩,Bool.or_true]
theorem vF {l:List Ia} {a b:Int} (h0:a≠b) (h:∀j y,j<l.length→l[j]? =some y→SU a b y=false):PB l a b=false:=by
 unfold PB
 rw [Bool.or_eq_false_iff,decide_eq_false_iff_not,List.any_eq_false]
 refine ⟨h0,fun y hy=> ?_⟩
 obtain ⟨j,hj⟩:=List.mem_iff_getElem?.1 hy
 rw [h j y (BN hj) hj];decide
def Xu (l:List Bb) (i:Nat):Bb:=l[i]?.getD He
def aJ (e:Dl) (c:Bb):Int:=TC (e.Bt[c.AZ.toNat]?.getD FH) c
def qB (e:Dl) (l:List Bb) (i k:Nat):Bool:=PB e.BU (Xu l i).AZ (Xu l k).AZ&&decide (aJ e (Xu l i)<aJ e (Xu l k))
def PY (e:Dl) (l:List Bb) (i n:Nat):List BI:=((List.range n).filter (qB e l i)).map fun k:Nat=>⟨(i:Int),(k:Int)⟩
def Xv (e:Dl) (l:List Bb) (m:Nat):List BI:=(List.range m).flatMap fun i=>PY e l i l.length
def vG (e:Dl) (l:List Bb):List BI:=Xv e l l.length
theorem Xw (e:Dl) (l:List Bb) (i n:Nat):(PY e l i n).length≤n:=by unfold PY;rw [List.length_map];exact Nat.le_trans (List.length_filter_le _ _) Pf
theorem UD (e:Dl) (l:List Bb) (m:Nat):Xv e l (m+1)=Xv e l m++PY e l m l.length:=by unfold Xv;rw [List.range_succ,List.flatMap_append];simp
theorem SV (e:Dl) (l:List Bb):∀m,(Xv e l m).length≤m*l.length
 |0=>by simp [Xv]
 |m+1=>by have h1:=SV e l m;have h2:=Xw e l m l.length;rw [UD,List.length_append,Nat.succ_mul];omega
theorem qC {e:Dl} {l:List Bb} {i k:Nat} (h:qB e l i k=true):PY e l i (k+1)=PY e l i k++[⟨(i:Int),(k:Int)⟩]:=by unfold PY;rw [List.range_succ,List.filter_append,List.map_append];simp [h]
theorem eM {e:Dl} {l:List Bb} {i k:Nat} (h:qB e l i k=false):PY e l i (k+1)=PY e l i k:=by unfold PY;rw [List.range_succ,List.filter_append,List.map_append];simp [h]
theorem UE {e:CA} {c:Bb}  :BC prog 96 [agg (Bg e),agg (Et c)] (int (TC e c)):=by
 refine fo func96 rfl ⟨rfl,rfl⟩ fun M0 w0=> ?_
 refine a2 ?_
 refine an ?_ ?_<;>intro h1 q1
 refine ac ?_
 refine Tr.cond rfl (fun _=> ?_) (fun h=>nomatch h1.symm.trans h)
 refine a2 ?_
 · exact Pc
 refine an ?_ ?_<;>intro h2 q2
 refine a2 ?_
 · exact Pc
 refine an ?_ ?_<;>intro h3 q3
 refine a2 ?_
 · exact Pc
 refine an ?_ ?_<;>intro h4 q4
 refine ac ?_
 refine Tr.cond rfl (fun _=> ?_) (fun h=>nomatch h4.symm.trans h)
 refine ac ?_
 refine wk [4] rfl ?_
 refine ac ?_
 · exact Pc
 · repeat' first|(refine int_eq ?_;unfold TC;(repeat' split)<;>omega)|refine ac ?_|(refine Tr.cn rfl ?_ ?_<;>intro h q)
theorem Xx {e:Dl} {a b:Int}  :BC prog 95 [agg (CK e),int a,int b] (bool (PB e.BU a b)):=by
 refine fo func95 rfl ⟨rfl,rfl⟩ fun M0 w0=>(Tr.HK 0 1 rfl rfl fun K3=> ?_)
 refine ac ?_
 refine an ?_ ?_<;>intro h1 q1
 refine a2 ?_
 · refine bool_eq ?_;symm;unfold PB;rw [decide_eq_true Bh,Bool.true_or]
 refine a2 ?_
 refine Tr.block (Tr.BD _ (kk [14,13,2,1] rfl) (fun k:Nat=>[(15,int ((k:Nat):Int))]) (fun k:Nat=>k≤(e.BU).length∧(∀j y,j<k→e.BU[j]? =some y→SU a b y=false)) (fun k:Nat=>(e.BU).length-k) 0 (⟨Nat.zero_le _,fun j y hj=>absurd hj AA⟩) kz ?_)
 rintro k ⟨BR,AX⟩
 refine ac ?_
 refine Tr.seq ?_
 refine Tr.cn rfl ?_ ?_<;>intro h2 q2
 have Ai:k<(e.BU).length:=AH h2
 obtain ⟨x,Ah⟩:=at_ Ai
 refine ac ?_
 refine Tr.seq (Tr.block (Tr.seq (Tr.Ao (tp rfl (AD rfl underlying28 Ez vq vq AA (Aa Ah)) (tp rfl (AP rfl RG Ez vq rfl rfl) ?_)))))
 refine Tl rfl rfl rfl rfl Y9 Wn (fun b1=> ?_)
 refine sf 0 8 ⟨rfl,rfl,rfl⟩ rfl rfl rfl rfl ?_
 refine ao ?_
 · repeat' first|(refine bool_eq ?_;symm;exact qA Ah (by unfold SU;simp_all))|(exact Fin.AL (k+1) ⟨⟨Ai,DV (p:=SU a b) Ah (by unfold SU;simp_all) AX⟩,by omega⟩ ⟨⟨_,rfl,AG k⟩,kz⟩)|refine ac ?_|(refine Tr.cn rfl ?_ ?_<;>intro h q)|(refine Ch.cg rfl rfl rfl ?_ ?_<;>intro h q)
 have BM:k=(e.BU).length:=by have:=AJ h2;omega
 subst BM
 refine a3 ?_
 · refine bool_eq ?_;symm;exact vF Bh AX
theorem Xy {e:Dl} {l:List Bb} (hf:e.fits) (he:FR e=true) (Np:l.length≤24) (hr:∀c∈l,0≤c.AZ∧c.AZ<(e.Bt.length:Nat)):BC prog 51 [agg (CK e),DR l] (D6 [reqs (vG e l),int 0]):=by
 refine fo func51 rfl ⟨rfl,rfl⟩ fun M0 w0=>(Tr.HK 0 0 rfl rfl fun I5=> ?_)
 refine a2 ?_
 refine co rfl (Ct (Dy hf) rfl rfl) ?_
 refine an ?_ ?_<;>intro h1 q1
 exact absurd h1 (by rw [if_pos he];decide)
 refine ac ?_
 refine an ?_ ?_<;>intro h2 q2
 exfalso;have:=q2;omega
 refine a2 ?_
 refine Tr.block (Tr.BD _ (kk [20,19,2,1] rfl) (fun m:Nat=>[(21,int ((m:Nat):Int))]) (fun m:Nat=>m≤(l).length) (fun m:Nat=>(l).length-m) 0 (Nat.zero_le _) kz ?_)
 rintro m ND
 refine ac ?_
 refine Tr.seq ?_
 refine Tr.cn rfl ?_ ?_<;>intro h3 q3
 have EW:m<(l).length:=AH h3
 obtain ⟨x,Ef⟩:=at_ EW
 have hrm:=hr x (List.mem_of_getElem? Ef)
 refine ac ?_
 refine Tr.seq (Tr.block (Tr.seq (Tr.Ao (tp rfl (AD rfl underlying32 Dp vq vq AA (Aa Ef)) (tp rfl (AP rfl HW Dp vq rfl rfl) ?_)))))
 refine Tl rfl rfl rfl rfl P5 LH (fun b1=> ?_)
 refine sf 0 7 ⟨rfl,rfl,rfl⟩ rfl rfl rfl rfl ?_
 refine ao ?_
 · repeat' first|(exfalso;have:=hr x (List.mem_of_getElem? Ef);omega)|exact Fin.AL (m+1) ⟨EW,by omega⟩ ⟨⟨_,rfl,AG m⟩,kz⟩|refine ac ?_|(refine Tr.cn rfl ?_ ?_<;>intro h q)|(refine Ch.cg rfl rfl rfl ?_ ?_<;>intro h q)
 have KH:m=(l).length:=by have:=AJ h3;omega
 refine a3 ?_
 refine Tr.block (Tr.B_ 61 2 (Tr.Ep _ (kk [38,37,2,1] rfl) (fun i v=>[(39,int ((i:Nat):Int)),(8,Ac v (reqs (Xv e l i)))]) (fun i v=>Hp M0 w0 FT ([At 61 2 v])) (fun i:Nat=>i≤(l).length) (fun i:Nat=>(l).length-i) 0 (.slice none 0 0) (Nat.zero_le _) ⟨kq,⟨_,rfl,Bq rfl⟩,trivial⟩ (fun _ _ h=>h) ?_))
 rintro i v XH
 refine ac ?_
 refine Tr.seq ?_
 refine Tr.cn rfl ?_ ?_<;>intro h6 q6
 have Jc:i<(l).length:=AH h6
 obtain ⟨x,LD⟩:=at_ Jc
 have hri:=hr x (List.mem_of_getElem? LD)
 obtain ⟨ex,hex⟩:=at_ (l:=e.Bt) (k:=x.AZ.toNat) AA
 have hln:=SV e l i
 have hl2:i*l.length≤24*24:=Nat.mul_le_mul AA Np
 refine ac ?_
 refine ao ?_
 refine tp rfl (AD rfl underlying32 Dp vq vq AA (Aa LD)) (tp rfl (AP rfl HW Dp vq rfl rfl) ?_)
 refine Tl rfl rfl rfl rfl P5 LH (fun b2=> ?_)
 refine tm rfl ?_
 refine sf 0 10 ⟨rfl,rfl,rfl⟩ rfl rfl rfl rfl ?_
 refine ao ?_
 refine wk [39,38,37,10,9,8,2,1] rfl ?_
 refine ac ?_
 refine Tr.block (Tr.Ep _ (kk [45,44,39,38,37,10,9,2,1] rfl) (fun k v=>[(46,int ((k:Nat):Int)),(8,Ac v (reqs (Xv e l i++PY e l i k)))]) (fun k v=>Hp M0 w0 FT ([At 61 2 v])) (fun k:Nat=>k≤(l).length) (fun k:Nat=>(l).length-k) 0 v (Nat.zero_le _) ⟨kq,⟨_,rfl,BE (by simp [PY])⟩,trivial⟩ (fun _ _ h=>h) ?_)
 rintro k v BR
 refine ac ?_
 refine Tr.seq ?_
 refine Tr.cn rfl ?_ ?_<;>intro h7 q7
 have Ai:k<(l).length:=AH h7
 obtain ⟨y,Ah⟩:=at_ Ai
 have hrk:=hr y (List.mem_of_getElem? Ah)
 obtain ⟨ey,hey⟩:=at_ (l:=e.Bt) (k:=y.AZ.toNat) AA
 have Sh:=Xw e l i k
 have hB:qB e l i k=(PB e.BU x.AZ y.AZ&&decide (TC ex x<TC ey y)):=by unfold qB aJ Xu;rw [LD,Ah,Option.getD_some,Option.getD_some,hex,hey];rfl
 refine ac ?_
 refine ao ?_
 refine tp rfl (AD rfl underlying32 Dp vq vq AA (Aa Ah)) (tp rfl (AP rfl HW Dp vq rfl rfl) ?_)
 refine Tl rfl rfl rfl rfl P5 LH (fun b3=> ?_)
 refine tm rfl ?_
 refine sf 0 12 ⟨rfl,rfl,rfl⟩ rfl rfl rfl rfl ?_
 refine ao ?_
 refine wk [46,45,44,39,38,37,12,11,10,9,8,2,1] rfl ?_
 refine ac ?_
 refine co rfl (LI (Xx (e:=e) (a:=x.AZ) (b:=y.AZ)) rfl rfl rfl rfl) ?_
 refine cm rfl ?_
 refine Ch.cs 57 rfl ?_ ?_<;>intro h8 q8
 refine ac ?_
 refine cy h8 rfl (AD rfl underlying27 CC vq vq AA (Bf hex)) ?_
 refine ac ?_
 refine cy h8 rfl (CL (UE (e:=ex) (c:=x)) rfl rfl rfl) ?_
 refine ac ?_
 refine cy h8 rfl (AD rfl underlying27 CC vq vq AA (Bf hey)) ?_
 refine ac ?_
 refine cy h8 rfl (CL (UE (e:=ey) (c:=y)) rfl rfl rfl) ?_
 refine ac ?_
 refine wk [75,46,45,44,39,38,37,11,10,9,8,2,1] rfl ?_
 refine Tr.cn rfl ?_ ?_<;>intro h9 q9
 refine ao ?_
 refine TO.Dj 0 rfl rfl AB (B8 rfl rfl rfl rfl underlying33 Cr Sn Sc IZ GX (A_ BO Kx)) (fun v1=> ?_)
 refine ao ?_
 refine wk [46,45,44,39,38,37,10,9,8,2,1] rfl ?_
 refine ac ?_
 exact Fin.DM (k+1) v1 (⟨Ai,by omega⟩) ⟨⟨_,rfl,AG k⟩,⟨_,rfl,BE (by rw [qC (by rw [hB,h8,h9];rfl),←List.append_assoc];simp;rfl)⟩,kz⟩ (fun _ _ h=>h)
 refine a2 ?_
 exact Fin.DM (k+1) v (⟨Ai,by omega⟩) ⟨⟨_,rfl,AG k⟩,⟨_,rfl,BE (by rw [eM (by rw [hB,h8,h9];rfl)])⟩,kz⟩ (fun _ _ h=>h)
 refine ac ?_
 refine wk [75,46,45,44,39,38,37,11,10,9,8,2,1] rfl ?_
 refine a2 ?_
 exact Fin.DM (k+1) v (⟨Ai,by omega⟩) ⟨⟨_,rfl,AG k⟩,⟨_,rfl,BE (by rw [eM (by rw [hB,h8];rfl)])⟩,kz⟩ (fun _ _ h=>h)
 have BM:k=(l).length:=by have:=AJ h7;omega
 subst BM
 refine a2 ?_
 exact Fin.DM (i+1) v (⟨Jc,by omega⟩) ⟨⟨_,rfl,AG i⟩,⟨_,rfl,BE (by rw [UD])⟩,kz⟩ (fun _ _ h=>h)
 have PW:i=(l).length:=by have:=AJ h6;omega
 subst PW
 refine a2 ?_
 refine Tr.ret (Fin.Dm rfl (Br.D4 _ _) rfl ?_ rfl ?_)
 · exact Ij
 · exact Lr
def wj (n:Nat):BT:=⟨[⟨0,300,[0]⟩],List.replicate n 0,[24]⟩
theorem zR {n:Nat} (hn:n≤1000):BC prog 67 [int ((n:Nat):Int)] (L_ (wj n)):=by
 refine fo func67 rfl ⟨rfl,rfl⟩ fun M0 w0=>(Tr.seq (Tr.Ao ?_))
 refine Tl rfl rfl rfl rfl z77 ABD (fun b1=> ?_)
 refine ap ?_
 refine ap ?_
 refine tp rfl (Al (rows:=[(0,_),(1,[_])]) rfl ABS RI ⟨⟨rfl,Cv⟩,⟨⟨rfl,⟨_,rfl,Pr.le_trans (B5 _ _) (Af _)⟩⟩,trivial⟩⟩ rfl) ?_
 refine ap ?_
 refine tp rfl (NK (m:=n) rfl underlying22 Bw IY z3 rfl AB AB vq vq Fz AA) ?_
 refine tp rfl (oI) ?_
 refine tp rfl (Al (rows:=[(0,[_]),(1,[_]),(2,[_])]) rfl AFL ABD ⟨⟨rfl,⟨_,rfl,Pr.le_trans (B5 _ _) (Af _)⟩⟩,⟨⟨rfl,⟨_,rfl,Pr.le_trans (Pr.le_trans (B5 _ _) (Pr.le_of_eq (show _=slice 1 ((List.replicate n (0:Int)).map fun n=>[int n]) by rw [List.map_replicate];rfl))) (Af _)⟩⟩,⟨⟨rfl,⟨_,rfl,Pr.le_trans (B5 _ _) (Af _)⟩⟩,trivial⟩⟩⟩ rfl) ?_
 refine ap ?_
 refine Tr.ret (Fin.CX rfl (AM.cell 0 rfl rfl Ol Wl rfl Lr) ?_)
 · exact Lr
theorem aK {l:List Bb} {r:List BI} {d:List Int} (G2:∀x∈l,x.C1.small) (hl:l.length≤1000000) (hr:r.length≤1000000) (hd:d.length≤1000000):PT prog 33 [agg [DR l,reqs r,ints d]] (fun x=>agg [DR l,reqs r,is x]) (fun x=>[Bs 3 1 (d.map fun n=>[int n]) x]):=by
 refine PT.of func33 rfl rfl BA fun M0 w0 S rs M1 w1=>(Tr.HK 0 0 rfl rfl fun I5=>(Tr.seq (Tr.Ao (tp rfl (Bj rfl (Va rfl)) ?_))))
 refine Tl rfl rfl rfl rfl z35 E9 (fun b1=> ?_)
 refine ao ?_
 refine Tr.seq (Tr.pad (Tr.pad (Tr.pad (Tr.rx ?_))))
 refine ax ?_
 refine xo rfl (fun _=>I0 rfl underlying33 Cr Sn Sc rfl AB (vl rfl) Nt Df) ?_
 refine ax ?_
 refine Cx.ef 0 rfl rfl AB (Zn rfl rfl AB rfl underlying22 Bw IY z3 rfl AB AB ⟨_,rfl,DL 1⟩ (vl rfl) Nt Df) ?_
 refine Cx.ef 1 rfl rfl AB (dx (d:=12) (s:=11) (p:=fun v=>agg [is (.slice none 0 0),reqs r,Ac v (lens (d.map fun n=>[int n]).length)]) (q:=agg [is (.slice none 0 0),reqs r,lens (d.map fun n=>[int n]).length]) rfl AB (fun _=>BS ⟨Lr,Lr,As _ _,trivial⟩) rfl rfl AB (fun v=>Zw rfl rfl AB (fun _=>Al (rows:=[(1,[_]),(2,[_])]) rfl Lt E9 ⟨⟨rfl,VL.le (vl rfl) (Af _)⟩,⟨⟨rfl,VL.le (vl rfl) (Af _)⟩,trivial⟩⟩ rfl))) (Cx.ef 2 rfl rfl AB (CN rfl rfl AB rfl z35 E9) (Cx.DY 2 rfl rfl (T3 rfl rfl rfl AB rfl rfl (Ad _) CJ rfl rfl) ?_))
 refine Cx.nil ⟨by kernel_rfl,?_⟩
 refine BJ.jY 11 rfl (fun v11=> ?_)
 refine BJ.jY 12 rfl (fun v12=> ?_)
 refine BJ.jY 3 rfl (fun v3=> ?_)
 refine BJ.gh 0 11 rfl rfl (BJ.gj 1 12 11 rfl rfl rfl (BJ.gj 2 3 12 rfl rfl rfl (BJ.done al5 (Fin.shape 3 (fun b=> .pointer (some ⟨b,0,none⟩)) rfl (fun b9 e9=> ?_)))))
 subst e9
 refine Fin.Xe 1 2 rfl rfl (Fin.drop 1 (Fin.go (wk [3,2,1] rfl ?_)))
 refine ac ?_
 refine Tr.block (Tr.H8 1 [Ac (.slice none 0 0) (DR (l.take 0)),reqs r,Ac v11 (lens (d.map fun n=>[int n]).length)] rfl ⟨Bq rfl,Lr,Lr,trivial⟩ (Tr.B_ 86 8 (Tr.Ep _ (kk [15,14,3,2] rfl) (fun k u=>[(16,int ((k:Nat):Int))]) (fun k u=>Hp M0 w0 S (At 86 8 u::Bs 3 1 (d.map fun n=>[int n]) v11::AE true b9 35 [Ac u (DR (l.take k)),reqs r,Ac v11 (lens (d.map fun n=>[int n]).length)]::AE true b1 35 (([.slice none 0 0,.slice none 0 0,.slice none 0 0]:List Value).map is)::Ak M1 w1::rs)) (fun k:Nat=>k≤(l).length) (fun k:Nat=>(l).length-k) 0 (.slice none 0 0) (Nat.zero_le _) kz (fun _ _ h=>h) ?_)))
 rintro k u BR
 refine ac ?_
 refine Tr.seq ?_
 refine Tr.cn rfl ?_ ?_<;>intro h1 q1
 have Ai:k<(l).length:=AH h1
 obtain ⟨x,Ah⟩:=at_ Ai
 refine ac ?_
 refine Tr.seq (Tr.block (Tr.seq (Tr.Ao (tp rfl (AD rfl underlying32 Dp (vl rfl) (vl rfl) AA (Aa Ah)) (tp rfl (AP rfl HW Dp (vl rfl) rfl rfl) ?_)))))
 refine Tl rfl rfl rfl rfl P5 LH (fun b10=> ?_)
 refine sf 0 5 ⟨rfl,rfl,rfl⟩ rfl rfl rfl rfl ?_
 refine ao ?_
 refine Tr.pad (Tr.rx ?_)
 refine ax ?_
 refine xo rfl (fun _=>Ct (aF (c:=x) (G2 x (List.mem_of_getElem? Ah))) rfl rfl) ?_
 refine xo rfl (fun _=>AO (xs:=[.tmp 23]) (rows:=[_]) rfl rfl underlying32 Dp P5 rfl AB ⟨⟨Am,(Va rfl)⟩,trivial⟩ AB) ?_
 refine Cx.ef 1 rfl rfl AB (B8 rfl rfl rfl rfl underlying32 Dp Y7 P5 (Kb rfl) (Kf rfl) (A_ BO (Ka rfl))) ?_
 refine xo rfl (fun _=>AW rfl Lu (vl rfl)) (Cx.DY 3 rfl rfl (F7 rfl rfl rfl (vl rfl) rfl AA9 BA) ?_)
 refine Cx.nil ⟨by kernel_rfl,?_⟩
 refine BJ.RC 1 3 25 rfl rfl AB rfl (fun v1=> ?_)
 refine BJ.done al6 ?_
 refine ac ?_
 refine Tr.drop 0 (wk [16,15,14,3,2] rfl ?_)
 refine ac ?_
 refine Fin.H8 2 [Ac v1 (DR (l.take (k+1))),reqs r,Ac v11 (lens (d.map fun n=>[int n]).length)] rfl ⟨BE bW,Lr,Lr,trivial⟩ ?_
 exact Fin.DM (k+1) v1 (⟨Ai,by omega⟩) ⟨⟨_,rfl,AG k⟩,kz⟩ (fun _ _ h=>h)
 have BM:k=(l).length:=by have:=AJ h1;omega
 subst BM
 rw [List.take_length]
 refine ac ?_
 refine ao ?_
 refine TO.AK 3 rfl rfl rfl (vl rfl) (Va rfl) rfl CJ rfl rfl ?_
 refine ao ?_
 refine Tr.ret (Fin.drop 0 (Fin.drop 1 (Fin.J7 (Fin.xz v11 [_] rfl (AM.cell 0 rfl rfl Cu CJ rfl Lr) ?_ (List.Perm.refl _)))))
 · exact BS ⟨As _ _,Lr,EK _ _,trivial⟩
theorem iS {n:Int} {l:List BI} {s:List Int} (hl:l.length≤1000000):BC prog 279 [int n,reqs l,ints s] (Cp.ex fun z:List BI×Int=>fact (z.1.length≤1000) (D6 [reqs z.1,int z.2])):=by
 refine fo func279 rfl ⟨rfl,rfl⟩ fun M0 w0=> ?_
 refine a2 ?_
 refine co rfl (CL (HG hl) rfl rfl rfl) ?_
 refine ac ?_
 refine an ?_ ?_<;>intro h1 q1
 refine ac ?_
 refine Tr.ret (Fin.AF (Fin.BZ rfl (AM.tmp rfl Lr) (AM.tmp rfl Lr) ?_))
 · exact Qp
 have hv:BG n l=0:=by simpa using h1
 obtain ⟨N,rfl⟩:∃N:Nat,n=(N:Int):=⟨n.toNat,by have:=(C_ hv).1;omega⟩
 have Np:=(C_ hv).1
 have iI:∀r∈l,(0≤r.fst∧r.fst<(N:Nat))∧0≤r.thn∧r.thn<(N:Nat):=fun r hr=>by
  have h_:=(C_ hv).2.1 r hr
  unfold FP at h_;rw [decide_eq_false_iff_not] at h_;omega
 refine a2 ?_
 refine co rfl (CL (L7 (l:=s) (n:=((N:Nat):Int))) rfl rfl rfl) ?_
 refine an ?_ ?_<;>intro h2 q2
 refine ac ?_
 refine wk [7,6] rfl (Tr.ret (Fin.AF (Fin.BZ rfl (AM.tmp rfl Lr) (AM.tmp rfl Lr) ?_)))
 · exact Qp
 have hsb:DW ((N:Nat):Int) s=true:=by simpa using h2
 have hsn:=dI hsb
 refine a2 ?_
 refine co rfl (CL (T9 (n:=N) (l:=l) AA hl iI) rfl rfl rfl) ?_
 refine ac ?_
 refine wk [9,2] rfl ?_
 refine a2 ?_
 refine Tr.block (Tr.B_ 61 2 (Tr.C7 _ (kk [29,28,9,2] rfl) (fun (o:List BI) (i:Nat) u=>[(30,int ((i:Nat):Int)),(10,Ac u (reqs o))]) (fun (o:List BI) (i:Nat) u=>Hp M0 w0 FT ([At 61 2 u])) (fun (o:List BI) (i:Nat)=>i≤s.length∧o.length≤24*i) (fun (o:List BI) (i:Nat)=>s.length-i) ([]) (0) (.slice none 0 0) (⟨Nat.zero_le _,by simp⟩) ⟨kq,⟨_,rfl,Bq rfl⟩,trivial⟩ (fun _ _ h=>h) ?_))
 rintro o i u ⟨hi0,hol⟩
 refine ac ?_
 refine Tr.seq ?_
 refine Tr.cn rfl ?_ ?_<;>intro h3 q3
 have hi:i<s.length:=AH h3
 obtain ⟨x,hx⟩:=at_ hi
 have hxn:=QN hsb hx
 refine a2 ?_
 refine co rfl (AD rfl underlying51 Bw vq vq AA (Aa hx)) ?_
 refine a2 ?_
 refine wk [37,36,35,30,29,28,12,11,10,9,2] rfl (Tr.block (Tr.C7 _ (kk [36,35,30,29,28,12,11,9,2] rfl) (fun (p:List BI) (k:Nat) u2=>[(37,int ((k:Nat):Int)),(10,Ac u2 (reqs p))]) (fun (p:List BI) (k:Nat) u2=>Hp M0 w0 FT ([At 61 2 u2])) (fun (p:List BI) (k:Nat)=>k≤s.length∧p.length≤24*i+k) (fun (p:List BI) (k:Nat)=>s.length-k) (o) (0) u (⟨Nat.zero_le _,by omega⟩) ⟨kq,⟨_,rfl,BE rfl⟩,trivial⟩ (fun _ _ h=>h) ?_))
 rintro p k u2 ⟨hk0,hpl⟩
 refine ac ?_
 refine Tr.seq ?_
 refine Tr.cn rfl ?_ ?_<;>intro h4 q4
 have hk:k<s.length:=AH h4
 obtain ⟨y,hy⟩:=at_ hk
 have hyn:=QN hsb hy
 refine a2 ?_
 refine co rfl (AD rfl underlying51 Bw vq vq AA (Aa hy)) ?_
 refine ac ?_
 refine wk [37,36,35,30,29,28,14,13,12,11,10,9,2] rfl ?_
 refine ac ?_
 refine co rfl (AD rfl underlying158 On vq vq AA (Bf (LB _ (a:=x.toNat) AA))) ?_
 refine ac ?_
 refine co rfl (AD rfl underlying160 U0 vq vq AA (Bf (LC _ (b:=y.toNat) AA))) ?_
 refine ac ?_
 refine wk [48,37,36,35,30,29,28,13,12,11,10,9,2] rfl ?_
 refine Tr.cn rfl ?_ ?_<;>intro h5 q5
 refine ap ?_
 refine TO.Dj 0 rfl rfl AB (B8 rfl rfl rfl rfl underlying33 Cr Sn Sc IZ GX (A_ BO Kx)) (fun v1=> ?_)
 refine ap ?_
 refine wk [37,36,35,30,29,28,12,11,10,9,2] rfl ?_
 refine ac ?_
 exact Fin.Bl (p++[⟨((i:Nat):Int),((k:Nat):Int)⟩]) (k+1) v1 (⟨⟨by omega,by simp;omega⟩,by omega⟩) ⟨⟨_,rfl,AG k⟩,⟨_,rfl,BE DI⟩,kz⟩ (fun _ _ h=>h)
 refine a2 ?_
 exact Fin.Bl (p) (k+1) u2 (⟨⟨by omega,by omega⟩,by omega⟩) ⟨⟨_,rfl,AG k⟩,⟨_,rfl,BE rfl⟩,kz⟩ (fun _ _ h=>h)
 have aY:=AJ h4
 refine a2 ?_
 exact Fin.Bl (p) (i+1) u2 (⟨⟨by omega,by omega⟩,by omega⟩) ⟨⟨_,rfl,AG i⟩,⟨_,rfl,BE rfl⟩,kz⟩ (fun _ _ h=>h)
 have hie:=AJ h3
 refine a2 ?_
 refine Tr.ret (Fin.BZ rfl (AM.tmp rfl Lr) (AM.tmp rfl Lr) ?_)
 · exact Yi
theorem SW {c:BT} {l:List Bb} (ho:c.own=0):BC prog 65 [L_ c,DR l] (D6 [ints (SG c l),int (EY c l)]):=by
 refine fo func65 rfl ⟨rfl,rfl⟩ fun M0 w0=>(Tr.Cf 1 rfl fun Fl=>(Tr.HK 0 1 rfl rfl fun K3=> ?_))
 refine a2 ?_
 refine co rfl (CL (KK (c:=c) (m:=((c.I3.length:Nat):Int))) rfl rfl rfl) ?_
 refine ac ?_
 refine an ?_ ?_<;>intro h1 q1
 exact absurd ho (by unfold BT.own;simpa using h1)
 refine a2 ?_
 refine wk [20,2,1] rfl ?_
 refine Tr.cn rfl ?_ ?_<;>intro h2 q2
 refine ac ?_
 refine Tr.ret (Fin.AF (Fin.Dm rfl (Br.D4 _ _) rfl ?_ rfl ?_))
 · rw [WI (eE AA) AB];exact AQ 1
 · refine int_eq ?_;exact (eE AA).symm
 refine a3 ?_
 refine Tr.block (Tr.B_ 3 1 (Tr.Ep _ (kk [22,21,2] rfl) (fun k v=>[(23,int ((k:Nat):Int)),(7,Ac v (ints ((l.take k).map (SF c))))]) (fun k v=>Hp M0 w0 FT ([At 3 1 v])) (fun k:Nat=>k≤(l).length∧(∀j y,j<k→l[j]? =some y→PI c y=false)) (fun k:Nat=>(l).length-k) 0 (.slice none 0 0) (⟨Nat.zero_le _,fun j y hj=>absurd hj AA⟩) ⟨kq,⟨_,rfl,Bq rfl⟩,trivial⟩ (fun _ _ h=>h) ?_))
 rintro k v ⟨BR,AX⟩
 refine ac ?_
 refine Tr.seq ?_
 refine Tr.cn rfl ?_ ?_<;>intro h3 q3
 have Ai:k<(l).length:=AH h3
 obtain ⟨x,Ah⟩:=at_ Ai
 refine ac ?_
 refine Tr.seq (Tr.block (Tr.seq (Tr.Ao (tp rfl (AD rfl underlying32 Dp vq vq AA (Aa Ah)) (tp rfl (AP rfl HW Dp vq rfl rfl) ?_)))))
 refine Tl rfl rfl rfl rfl P5 LH (fun b1=> ?_)
 refine sf 0 9 ⟨rfl,rfl,rfl⟩ rfl rfl rfl rfl ?_
 refine ao ?_
 refine ag ?_ ?_<;>intro h4 q4
 refine ac ?_
 refine wk [37,23,22,21,9,7,2] rfl ?_
 refine ac ?_
 refine Tr.ret (Fin.AF (Fin.AU (Fin.AF (Fin.AF (Fin.AU (Fin.AF (Fin.Dm rfl (Br.D4 _ _) rfl ?_ rfl ?_)))))))
 · exact av
 · exact bJ
 refine ac ?_
 refine wk [37,23,22,21,9,7,2] rfl ?_
 refine Tr.cn rfl ?_ ?_<;>intro h5 q5
 refine ac ?_
 refine Tr.ret (Fin.AF (Fin.AU (Fin.AF (Fin.AF (Fin.AU (Fin.AF (Fin.Dm rfl (Br.D4 _ _) rfl ?_ rfl ?_)))))))
 · exact av
 · exact bJ
 have htm:=we (c:=c) (x:=x) AA
 refine ac ?_
 refine ao ?_
 refine tp rfl (AD rfl underlying22 Bw vq vq AA (Bf htm)) ?_
 refine ao ?_
 refine TO.Dj 0 rfl rfl AB (B8 rfl rfl rfl rfl underlying22 Bw IY z3 IZ GX (A_ BO Kx)) (fun v1=> ?_)
 refine ao ?_
 refine wk [23,22,21,7,2] rfl ?_
 refine ac ?_
 exact Fin.DM (k+1) v1 (⟨⟨Ai,DV (p:=PI c) Ah qy AX⟩,by omega⟩) ⟨⟨_,rfl,AG k⟩,⟨_,rfl,BE (pJ Ah)⟩,kz⟩ (fun _ _ h=>h)
 have BM:k=(l).length:=by have:=AJ h3;omega
 subst BM
 refine a2 ?_
 refine Tr.ret (Fin.Dm rfl (Br.D4 _ _) rfl ?_ rfl ?_)
 · rw [Xf (eF AA AX)];exact Pr.le_trans (As _ _) (Pr.le_of_eq Pq)
 · refine int_eq ?_;exact (eF AA AX).symm
structure NU (m:Nat) (l:List Bb) (r:List BI) (d:List Int):Prop where
 l24:l.length≤24
 dl:d.length=l.length
 v:BG (l.length:Nat) r=0
 dd:∀j y c,j<l.length→d[j]? =some y→l[j]? =some c→(0≤y∧y≤40000)∧0≤c.AZ∧c.AZ<(m:Int)
abbrev JT (l:List Bb) (r:List BI) (d:List Int):Pr:=agg [DR l,reqs r,ints d]
theorem qD {e:Dl} {l:List Bb} {r:List BI} {d:List Int} (hrl:r.length≤1000000):BC prog 250 [agg (CK e),JT l r d] (Cp.ex fun z:Bool=>fact (z=true→NU e.Bt.length l r d) (bool z)):=by
 refine fo func250 rfl ⟨rfl,rfl⟩ fun M0 w0=>(Tr.HK 1 0 rfl rfl fun AEy=>(Tr.HK 1 2 rfl rfl fun AEz=>(Tr.HK 0 0 rfl rfl fun I5=> ?_)))
 refine a2 ?_
 refine ag ?_ ?_<;>intro h1 q1
 refine ac ?_
 refine wk [26,3,2] rfl ?_
 refine a2 ?_
 · exact Ub
 refine ag ?_ ?_<;>intro h2 q2
 refine ac ?_
 refine wk [26,3,2] rfl ?_
 refine a2 ?_
 · exact Ub
 refine ac ?_
 refine cy h2 rfl (CL (HG (n:=((l.length:Nat):Int)) (l:=r) hrl) rfl rfl rfl) ?_
 refine ac ?_
 refine wk [26,3,2] rfl ?_
 refine Tr.cn rfl ?_ ?_<;>intro h3 q3
 refine a2 ?_
 · exact Ub
 have Np:l.length≤24:=by omega
 have hdl:d.length=l.length:=by omega
 have hv:BG ((l.length:Nat):Int) r=0:=by omega
 refine a2 ?_
 refine Tr.block (Tr.BD _ (kk [29,28,3,2] rfl) (fun k:Nat=>[(30,int ((k:Nat):Int))]) (fun k:Nat=>k≤(l).length∧(∀j y c,j<k→d[j]? =some y→l[j]? =some c→(0≤y∧y≤40000)∧0≤c.AZ∧c.AZ<((e.Bt.length:Nat):Int))) (fun k:Nat=>(l).length-k) 0 (⟨Nat.zero_le _,fun j y c hj=>absurd hj AA⟩) kz ?_)
 rintro k ⟨BR,AX⟩
 refine ac ?_
 refine Tr.seq ?_
 refine Tr.cn rfl ?_ ?_<;>intro h4 q4
 have Ai:k<(l).length:=AH h4
 obtain ⟨x,Ah⟩:=at_ Ai
 obtain ⟨y,hy⟩:=at_ (l:=d) (k:=k) AA
 refine ac ?_
 refine ao ?_
 refine tp rfl (AD rfl underlying32 Dp vq vq AA (Aa Ah)) (tp rfl (AP rfl HW Dp vq rfl rfl) ?_)
 refine Tl rfl rfl rfl rfl P5 LH (fun b1=> ?_)
 refine tm rfl ?_
 refine sf 0 7 ⟨rfl,rfl,rfl⟩ rfl rfl rfl rfl ?_
 refine ao ?_
 · repeat' first|exact Ax false (A9 (fun h_=>by cases h_) Lr)|(exact Fin.AL (k+1) ⟨⟨Ai,fun j z c hj hz jZ=>by rcases Nat.lt_or_eq_of_le (Nat.le_of_lt_succ hj) with h_|h_;exact AX j z c h_ hz jZ;(subst h_;rw [hy] at hz;cases hz;rw [Ah] at jZ;cases jZ;omega)⟩,by omega⟩ ⟨⟨_,rfl,AG k⟩,kz⟩)|refine cy h rfl (AD rfl underlying22 Bw vq vq AA (Aa hy)) ?_|refine ac ?_|(refine Tr.cn rfl ?_ ?_<;>intro h q)|(refine Ch.cg rfl rfl rfl ?_ ?_<;>intro h q)
 have BM:k=(l).length:=by have:=AJ h4;omega
 subst BM
 refine a3 ?_
 · exact Ax true (A9 (fun _=>⟨Np,hdl,hv,AX⟩) Lr)
theorem qE {n:Nat} (hn:n≤1000):BC prog 127 [int ((n:Nat):Int)] (Cp.ex fun z:List Int=>fact (z.length≤n) (ints z)):=by
 refine fo func127 rfl ⟨rfl,rfl⟩ fun M0 w0=> ?_
 refine a3 ?_
 refine Tr.block (Tr.B_ 3 1 (Tr.C7 _ (kk [5] rfl) (fun (o:List Int) (k:Nat) u=>[(6,int ((k:Nat):Int)),(3,Ac u (ints o))]) (fun (o:List Int) (k:Nat) u=>Hp M0 w0 FT ([At 3 1 u])) (fun (o:List Int) (k:Nat)=>k≤n∧o.length=k) (fun (o:List Int) (k:Nat)=>n-k) ([]) (0) (.slice none 0 0) (⟨Nat.zero_le _,rfl⟩) ⟨kq,⟨_,rfl,Bq rfl⟩,trivial⟩ (fun _ _ h=>h) ?_))
 rintro o k u ⟨hk0,hol⟩
 refine ac ?_
 refine Tr.seq ?_
 refine Tr.cn rfl ?_ ?_<;>intro h1 q1
 have hk:k<n:=AH h1
 refine a2 ?_
 refine ap ?_
 refine TO.Dj 0 rfl rfl AB (B8 rfl rfl rfl rfl underlying51 Bw IY z3 IZ GX (A_ BO Kx)) (fun v1=> ?_)
 refine ap ?_
 refine ac ?_
 exact Fin.Bl (o++[((k:Nat):Int)]) (k+1) v1 (⟨⟨by omega,by simp;omega⟩,by omega⟩) ⟨⟨_,rfl,AG k⟩,⟨_,rfl,BE DI⟩,kz⟩ (fun _ _ h=>h)
 have aY:=AJ h1
 refine a3 ?_
 · exact Pg
theorem MK {e:Dl} {l:List Bb} {r:List BI} {d s:List Int} {n:Nat} (hz:e.sz n) (hn:n≤800000) (hc:∀c∈l,c.C1.fits∧c.C1.small):BC prog 253 [agg (CK e),JT l r d,ints s] (D6 [agg (CK (Vd e l s).1),bool (decide ((Vd e l s).2=0))]):=by
 refine fo func253 rfl ⟨rfl,rfl⟩ fun M0 w0=>(Tr.seq (Tr.Ao (tp rfl (Bj rfl Cv) (tp rfl (Bj rfl Cv) ?_))))
 refine Tl rfl rfl rfl rfl z31 IG (fun b1=> ?_)
 refine ao ?_
 refine ao ?_
 refine tp rfl (LI (SS hz hn hc) rfl rfl rfl rfl) ?_
 refine ao ?_
 refine Tl rfl rfl rfl rfl z31 IG (fun b2=> ?_)
 refine sf 0 8 ⟨rfl,rfl,rfl⟩ rfl rfl rfl rfl ?_
 refine ao ?_
 refine wk [9,8,6] rfl ?_
 refine ao ?_
 refine TO.AK 0 rfl rfl rfl vq Cv rfl DZ rfl rfl ?_
 refine ao ?_
 refine Tr.ret (Fin.BZ rfl (AM.cell 0 rfl rfl Db DZ rfl Lr) (AM.tmp rfl Lr) ?_)
 · exact Lr
theorem S4 {e:Dl} {c:BT} {l:List Bb} {r:List BI} {fr:Int} (hf:e.fits) (G2:∀x∈l,x.C1.small) (hrl:r.length≤1000000):BC prog 54 [agg (CK e),L_ c,DR l,reqs r,int fr] (D6 [agg (pL e c l r fr),int (KW e c l r fr)]):=by
 refine fo func54 rfl ⟨rfl,rfl⟩ fun M0 w0=>(Tr.Cf 3 rfl fun AHb=>(Tr.HK 0 0 rfl rfl fun I5=>(Tr.seq (Tr.Ao (tp rfl (Bj rfl Cv) (tp rfl (Bj rfl Cv) ?_))))))
 refine Tl rfl rfl rfl rfl z35 E9 (fun b1=> ?_)
 refine ao ?_
 refine ac ?_
 refine co rfl (Ct (Dy hf) rfl rfl) ?_
 refine an ?_ ?_<;>intro h1 q1
 have VB:FR e=false:=by cases h_:FR e with|false=>rfl|true=>exact absurd h1 MW
 have YM:KV e c l=31:=by unfold KV;rw [if_pos VB]
 have hb:KV e c l≠0:=by rw [YM];decide
 refine ao ?_
 refine TO.AK 0 rfl rfl rfl vq Cv rfl CJ rfl rfl ?_
 refine ao ?_
 refine Tr.ret (Fin.AF (Fin.BZ rfl (AM.cell 0 rfl rfl Cu CJ rfl Lr) (AM.tmp rfl Lr) ?_))
 refine A7 ⟨?_,?_,trivial⟩
 · exact SI (T6 hb) hb
 · refine int_eq ?_;rw [T6 hb,YM]
 have VB:¬FR e=false:=by intro h_;rw [h_] at h1;exact absurd h1 AB
 refine a2 ?_
 refine co rfl (CL (KK (c:=c) (m:=((e.Bt.length:Nat):Int))) rfl rfl rfl) ?_
 refine ac ?_
 refine wk [12,10,6,4,3,2] rfl ?_
 refine an ?_ ?_<;>intro h2 q2
 have hck:c.check ((e.Bt.length:Nat):Int)≠0:=by simpa using h2
 have YM:KV e c l=c.check ((e.Bt.length:Nat):Int):=by unfold KV;rw [if_neg VB,if_pos hck]
 have hb:KV e c l≠0:=by rw [YM];exact hck
 refine ao ?_
 refine TO.AK 0 rfl rfl rfl vq Cv rfl CJ rfl rfl ?_
 refine ao ?_
 refine Tr.ret (Fin.AF (Fin.BZ rfl (AM.cell 0 rfl rfl Cu CJ rfl Lr) (AM.tmp rfl Lr) ?_))
 refine A7 ⟨?_,?_,trivial⟩
 · exact SI (T6 hb) hb
 · refine int_eq ?_;rw [T6 hb,YM]
 have hck:c.check ((e.Bt.length:Nat):Int)=0:=by simpa using h2
 have YM:KV e c l=EY c l:=by unfold KV;rw [if_neg VB,if_neg (not_not_intro hck)]
 obtain ⟨how,htl,hth⟩:=T5 hck
 refine a2 ?_
 refine co rfl (CL (SW (c:=c) (l:=l) how) rfl rfl rfl) ?_
 refine ac ?_
 refine wk [14,13,10,6,4,3,2] rfl ?_
 refine an ?_ ?_<;>intro h3 q3
 have hte:EY c l≠0:=by simpa using h3
 have hb:KV e c l≠0:=by rw [YM];exact hte
 refine ao ?_
 refine TO.AK 0 rfl rfl rfl vq Cv rfl CJ rfl rfl ?_
 refine ao ?_
 refine Tr.ret (Fin.AF (Fin.BZ rfl (AM.cell 0 rfl rfl Cu CJ rfl Lr) (AM.tmp rfl Lr) ?_))
 refine A7 ⟨?_,?_,trivial⟩
 · exact SI (T6 hb) hb
 · refine int_eq ?_;rw [T6 hb,YM]
 have hte:EY c l=0:=by simpa using h3
 have hb:KV e c l=0:=by rw [YM];exact hte
 have Np:=(SH hte).1
 have Rs:=uv hte hth
 obtain ⟨T,hT⟩:∃T,l.map (SF c)=T:=⟨_,rfl⟩
 have hTl:T.length=l.length:=by rw [←hT,List.length_map]
 rw [hT] at Rs
 refine Tr.re 13 rfl (Pr.le_of_eq (by rw [Xf hte,hT])) ?_
 refine a2 ?_
 refine co rfl (CL (aD (n:=((l.length:Nat):Int)) (l:=r) hrl) rfl rfl rfl) ?_
 refine ac ?_
 refine wk [15,14,13,10,6,4,3,2] rfl ?_
 refine an ?_ ?_<;>intro h4 q4
 have hv:BG (l.length:Nat) r≠0:=by simpa using h4
 refine ao ?_
 refine TO.AK 0 rfl rfl rfl vq Cv rfl CJ rfl rfl ?_
 refine ao ?_
 refine Tr.ret (Fin.AF (Fin.BZ rfl (AM.cell 0 rfl rfl Cu CJ rfl Lr) (AM.tmp rfl Lr) ?_))
 refine A7 ⟨?_,?_,trivial⟩
 · exact SI (wg hb hv) hv
 · refine int_eq ?_;exact (wg hb hv).symm
 have hv:BG (l.length:Nat) r=0:=by simpa using h4
 obtain ⟨row,hrow⟩:∃row,(DQ l.length r l.length).1=row:=⟨_,rfl⟩
 obtain ⟨iI,AGy⟩:=I7 hv l.length AV
 rw [Int.toNat_natCast,hrow] at iI AGy
 have hrq:∀q∈r,(0≤q.fst∧q.fst<l.length)∧0≤q.thn∧q.fst≠q.thn:=fun q hq=>by
  have h_:=(C_ hv).2.1 q hq
  unfold FP at h_;rw [decide_eq_false_iff_not] at h_;omega
 refine Tr.re 15 rfl (Pr.le_of_eq (by rw [if_pos hv,Int.toNat_natCast,hrow])) ?_
 refine ac ?_
 refine ao ?_
 refine tp rfl (NK (m:=l.length) rfl underlying22 Bw IY z3 rfl AB AB vq vq Fz AA) ?_
 refine tp rfl (Al (rows:=[(0,[_]),(1,[_]),(2,[_])]) rfl Lt E9 ⟨⟨rfl,Ni⟩,⟨⟨rfl,Ni⟩,⟨⟨rfl,⟨_,rfl,Pr.le_trans (Pr.le_trans (B5 _ _) (Pr.le_of_eq (show _=slice 1 ((List.replicate l.length (0:Int)).map fun n=>[int n]) by rw [List.map_replicate];rfl))) (Af _)⟩⟩,trivial⟩⟩⟩ rfl) ?_
 refine TO.lT rfl rfl AB rfl (aK (d:=List.replicate l.length 0) G2 AA hrl Pn) kz (fun v1=> ?_)
 refine Tl rfl rfl rfl rfl z35 E9 (fun b2=> ?_)
 refine TO.AK 0 rfl rfl rfl vq Cv rfl CJ rfl rfl ?_
 refine ao ?_
 refine wk [16,15,13,10,6,4,3] rfl ?_
 refine a2 ?_
 refine Tr.block (Tr.B_ 3 1 (Tr.B_ 3 1 (Tr.kV _ (kk [69,68,16,13,10,6,4,3] rfl) (fun (dy:List Int) (b:List Int) (y:List Int) (k:Nat) u u2=>[(70,int ((k:Nat):Int)),(17,Ac u (ints b)),(18,Ac u2 (ints y))]) (fun (dy:List Int) (b:List Int) (y:List Int) (k:Nat) u u2=>Hp M0 w0 FT ([At 3 1 u2,At 3 1 u,AE true b2 35 [DR l,reqs r,is v1],Bs 3 1 (dy.map fun n=>[int n]) v1,AE true b1 35 (([.slice none 0 0,.slice none 0 0,.slice none 0 0]:List Value).map is)])) (fun (dy:List Int) (b:List Int) (y:List Int) (k:Nat)=>k≤row.length∧OI c r T fr l.length (row.take k)=some (dy,b,y)) (fun (dy:List Int) (b:List Int) (y:List Int) (k:Nat)=>row.length-k) (List.replicate l.length 0) ([]) ([]) (0) (.slice none 0 0) (.slice none 0 0) (⟨Nat.zero_le _,rfl⟩) ⟨kq,⟨_,rfl,Bq rfl⟩,⟨_,rfl,Bq rfl⟩,trivial⟩ (fun _ _ h=>h) ?_)))
 rintro dy b y k u u2 ⟨hk0,hsc⟩
 have hS:=Sz.run (k:=k) iI (fun q hq=>by have:=hrq q hq;omega) Np how (fun i h1 h2=>Rs _ (List.mem_of_getElem? (Ec (l:=T) (i:=i.toNat) AA))) hk0 hsc
 have hdl:=hS.len
 have Wr:b.length=k:=by rw [hS.hb,List.length_map,List.length_take];omega
 have hyl:y.length=k:=by rw [hS.hd,List.length_map,List.length_take];omega
 refine ac ?_
 refine Tr.seq ?_
 refine Tr.cn rfl ?_ ?_<;>intro h5 q5
 have hk:k<row.length:=AH h5
 obtain ⟨i,hi⟩:=at_ hk
 have nZ:=iI.PX i (List.mem_of_getElem? hi)
 have hti:T[i.toNat]? =some (YN T i):=Ec AA
 refine ac ?_
 refine Tr.seq (Tr.block (Tr.seq (Tr.Aj (co rfl (AD rfl underlying51 Bw vq vq AA (Aa hi)) ?_))))
 refine ac ?_
 refine wk [70,69,68,20,18,17,16,13,10,6,4,3] rfl ?_
 refine ac ?_
 refine wk [70,69,68,21,20,18,17,16,13,10,6,4,3] rfl ?_
 refine ac ?_
 refine wk [77,76,75,70,69,68,21,20,18,17,16,13,10,6,4,3] rfl (Tr.block (Tr.BD _ (kk [76,75,70,69,68,20,18,17,16,13,10,6,4,3] rfl) (fun m:Nat=>[(77,int ((m:Nat):Int)),(21,int (Fx (r.take m) dy i fr))]) (fun m:Nat=>m≤(r).length) (fun m:Nat=>(r).length-m) 0 (Nat.zero_le _) ⟨kq,kz⟩ ?_))
 rintro m ND
 refine ac ?_
 refine wk [78,77,76,75,70,69,68,21,20,18,17,16,13,10,6,4,3] rfl (Tr.seq ?_)
 refine Tr.cn rfl ?_ ?_<;>intro h6 q6
 have EW:m<(r).length:=AH h6
 obtain ⟨q,Ef⟩:=at_ EW
 refine ac ?_
 refine wk [77,76,75,70,69,68,21,20,18,17,16,13,10,6,4,3] rfl (Tr.seq (Tr.block (Tr.seq (Tr.Ao (tp rfl (AD rfl underlying33 Cr vq vq AA (Aa Ef)) (tp rfl (AP rfl Fh Cr vq rfl rfl) ?_))))))
 refine Tl rfl rfl rfl rfl Sc RE (fun b3=> ?_)
 refine sf 0 23 ⟨rfl,rfl,rfl⟩ rfl rfl rfl rfl ?_
 refine ao ?_
 refine wk [77,76,75,70,69,68,23,21,20,18,17,16,13,10,6,4,3] rfl ?_
 refine ac ?_
 refine wk [84,77,76,75,70,69,68,23,21,20,18,17,16,13,10,6,4,3] rfl ?_
 refine Tr.cn rfl ?_ ?_<;>intro h7 q7
 have hqr:=hrq q (List.mem_of_getElem? Ef)
 have hz:=Ec (l:=dy) (i:=q.fst.toNat) (by have:=hS.len;omega)
 have hzb:=hS.bnd _ (List.mem_of_getElem? hz)
 refine ac ?_
 refine co rfl (Ck 3 rfl (J6 rfl underlying22 Bw vq vq AA Df)) ?_
 refine co rfl (Ck 3 rfl (R6 rfl Cq vq (BP fun _=>rfl) (by rw [List.getElem?_map,hz];rfl) rfl)) ?_
 refine Lq rfl rfl rfl rfl AA (co rfl (Jv rfl vq vq) ?_)
 refine ac ?_
 refine wk [77,76,75,70,69,68,21,20,18,17,16,13,10,6,4,3] rfl ?_
 refine ac ?_
 exact Fin.AL (m+1) ⟨EW,by omega⟩ ⟨⟨_,rfl,AG m⟩,⟨_,rfl,int_eq (by rw [SJ Ef,if_pos (by simpa using h7)])⟩,kz⟩
 refine ac ?_
 refine wk [77,76,75,70,69,68,21,20,18,17,16,13,10,6,4,3] rfl ?_
 refine ac ?_
 exact Fin.AL (m+1) ⟨EW,by omega⟩ ⟨⟨_,rfl,AG m⟩,⟨_,rfl,int_eq (by rw [SJ Ef,if_neg (by simpa using h7)])⟩,kz⟩
 have KH:m=(r).length:=by have:=AJ h6;omega
 subst KH
 rw [List.take_length]
 refine ac ?_
 refine wk [70,69,68,21,20,18,17,16,13,10,6,4,3] rfl ?_
 refine ac ?_
 refine co rfl (AD rfl underlying22 Bw vq vq AA (Bf hti)) ?_
 refine ac ?_
 refine co rfl (AR rfl (XQ (c:=c) (Ag:=b) (days:=y) (n:=YN T i) (from_:=Fx r dy i fr)) ⟨kq,IZ,IZ,kz⟩) ?_
 refine ac ?_
 refine wk [70,69,68,25,24,20,18,17,16,13,10,6,4,3] rfl ?_
 refine ac ?_
 refine wk [109,70,69,68,24,20,18,17,16,13,10,6,4,3] rfl ?_
 refine Tr.cn rfl ?_ ?_<;>intro h8 q8
 have hno:c.early b y (YN T i) (Fx r dy i fr)=none:=by simpa using h8
 refine ao ?_
 refine TO.AK 4 rfl rfl rfl vq Cv rfl CJ rfl rfl ?_
 refine ao ?_
 refine wk [11,10] rfl (Tr.ret (Fin.AF (Fin.AU (Fin.AF (Fin.AF (Fin.AU (Fin.AF (Fin.BZ rfl (AM.cell 4 rfl rfl Cu CJ rfl Lr) (AM.tmp rfl Lr) ?_))))))))
 refine A7 ⟨?_,?_,trivial⟩
 · exact SI (pM hb hv bU) AB
 · refine int_eq ?_;exact (pM hb hv bU).symm
 obtain ⟨x,hx⟩:∃x,c.early b y (YN T i) (Fx r dy i fr)=some x:=Option.isSome_iff_exists.1 (by simpa using h8)
 have aL:=Ec (l:=dy) (i:=i.toNat) (by have:=hS.len;omega)
 refine Tr.re 24 rfl (int_eq (by rw [hx])) ?_
 refine ac ?_
 refine wk [70,69,68,24,20,18,17,16,13,10,6,4,3] rfl ?_
 refine ao ?_
 refine tp rfl (Ck 3 rfl (J6 rfl underlying22 Bw vq vq AA Df)) ?_
 refine TO.DY 3 rfl rfl (G9 rfl rfl vq Ni Bw rfl (BP fun _=>rfl) (by rw [List.getElem?_map,aL];rfl) AB (show _=(dy.set i.toNat x).map _ by rw [List.map_set];rfl)) ?_
 refine ao ?_
 refine wk [70,69,68,24,20,18,17,16,13,10,6,4,3] rfl ?_
 refine ao ?_
 refine tp rfl (AD rfl underlying22 Bw vq vq AA (Bf hti)) ?_
 refine ao ?_
 refine TO.Dj 1 rfl rfl AB (B8 rfl rfl rfl rfl underlying22 Bw IY z3 IZ GX (A_ BO Kx)) (fun v2=> ?_)
 refine ao ?_
 refine TO.Dj 0 rfl rfl AB (B8 rfl rfl rfl rfl underlying22 Bw IY z3 IZ GX (A_ BO Kx)) (fun v3=> ?_)
 refine ao ?_
 refine wk [70,69,68,18,17,16,13,10,6,4,3] rfl ?_
 refine ac ?_
 exact Fin.rL (dy.set i.toNat x) (b++[YN T i]) (y++[x]) (k+1) v2 v3 (⟨⟨hk,uP hi hsc hx⟩,by omega⟩) ⟨⟨_,rfl,AG k⟩,⟨_,rfl,BE DI⟩,⟨_,rfl,BE DI⟩,kz⟩ (fun _ _ h=>h)
 have hkr:k=row.length:=by have:=AJ h5;omega
 rw [hkr,List.take_length] at hsc
 have hsr:WL c l r fr=some (dy,b,y):=by unfold WL;rw [hT,hrow];exact hsc
 refine ac ?_
 refine Tr.seq (Tr.JO 2 3 2 rfl rfl AB rfl Lr (BP fun _=>rfl) ?_)
 refine ao ?_
 refine TO.AK 4 rfl rfl rfl vq Cv rfl CJ rfl rfl ?_
 refine ao ?_
 refine wk [11,10] rfl (Tr.ret (Fin.BZ rfl (AM.cell 4 rfl rfl Cu CJ rfl Lr) (AM.tmp rfl Lr) ?_))
 refine A7 ⟨?_,?_,trivial⟩
 · exact uw (wh hb hv hsr) hsr
 · refine int_eq ?_;exact (wh hb hv hsr).symm
theorem qF {l:List Bb} {n:Nat} (hc:∀c∈l,c.C1.fits∧c.C1.small):∀(s:List Int) (Bt:List CA),(∀x∈Bt,x.sz n)→(∀x∈(OC l s Bt).1,x.sz (n+s.length))∧(OC l s Bt).1.length=Bt.length
 |[],Bt,h=>⟨h,rfl⟩
 |i::s,Bt,h=>by
  rw [OC]
  split
  · exact ⟨fun x hx=>(h x hx).le AA,rfl⟩
  next c jZ=>
  by_cases ha:(LY Bt c).2=0
  ·
   rw [if_pos ha]
   have:=qF (n:=n+1) hc s (LY Bt c).1 (mo h (hc c (List.mem_of_getElem? jZ)))
   rw [dH] at this
   exact ⟨fun x hx=>by rw [List.length_cons,show n+(s.length+1)=n+1+s.length by omega];exact this.1 x hx,this.2⟩
  · rw [if_neg ha];exact ⟨fun x hx=>(h x hx).le AA,rfl⟩
theorem eN {e:Dl} {l:List Bb} {s:List Int} {n:Nat} (hz:e.sz n) (hc:∀c∈l,c.C1.fits∧c.C1.small):(Vd e l s).1.sz (n+s.length):=by
 have h0:GC.sz (n+s.length):=⟨(fun x hx=>by cases hx),(fun x hx=>by cases hx),Nat.zero_le _,Nat.zero_le _,Nat.zero_le _⟩
 obtain ⟨h1,h2⟩:=qF hc s e.Bt hz.Bt
 unfold Vd
 repeat' split
 · exact h0
 · exact h0
 · exact h0
 · exact ⟨h1,hz.items,by show (OC l s e.Bt).1.length≤_;rw [h2];exact hz.le,hz.lg,hz.li⟩
 · exact h0
theorem Oy.sz {e:Dl} (h:Oy e):e.sz 5:=by
 have h3:=h.n3;have g3:=h.g3;have i2:=h.i2
 refine ⟨fun x hx=> ?_,fun x hx=>⟨by have:=(h.it x hx).name;unfold maxLen;omega,by have:=(h.it x hx).links;omega⟩,by omega,by omega,by omega⟩
 obtain ⟨i,hi⟩:=List.getElem?_of_mem hx
 exact th (h.snd i x hi)
theorem Xz {e:Dl} {l:List Bb} {i:Int}:(∀x∈(Jt e l i).1,0≤x∧x<(l.length:Nat))∧(Jt e l i).1.length≤24:=by
 unfold Jt
 split
 · exact Uc
 split
 · exact Uc
 split
 · exact Uc
 ·
  rename_i Np _
  refine ⟨fun x hx=> ?_,by have:=Xt (e.BU[i.toNat]?.getD Gi) l l.length;show (OU _ _ _).length≤24;omega⟩
  unfold OU at hx
  obtain ⟨j,hj,rfl⟩:=List.mem_map.1 hx
  have:=List.mem_range.1 (List.mem_filter.1 hj).1
  omega
theorem aM {n:Int} {o:List (List Int)} {x:List Int} (h:(∀s∈o,∀y∈s,0≤y∧y<n)∧∀s∈o,s.length≤4096) (hx:∀y∈x,0≤y∧y<n) (hl:x.length≤4096):(∀s∈o++[x],∀y∈s,0≤y∧y<n)∧∀s∈o++[x],s.length≤4096:=by
 refine ⟨fun s hs=> ?_,fun s hs=> ?_⟩<;>rcases List.mem_append.1 hs with hs|hs
 · exact h.1 s hs
 · rw [List.mem_singleton] at hs;subst hs;exact hx
 · exact h.2 s hs
 · rw [List.mem_singleton] at hs;subst hs;exact hl
theorem iT {n:Int} {o:List Int} {x:Int} (h:∀y∈o,0≤y∧y<n) (hx:0≤x∧x<n):∀y∈o++[x],0≤y∧y<n:=fun y hy=>by
 rcases List.mem_append.1 hy with hy|hy
 · exact h y hy
 · rw [List.mem_singleton] at hy;subst hy;exact hx
theorem iU {e:Dl} {l:List Bb} {r:List BI} {d:List Int} {n:Nat} {i:Int} (hz:e.sz n) (hn:n≤800000) (hrl:r.length≤1000000):BC prog 251 [agg (CK e),JT l r d,int i] (Cp.ex fun z:List (List Int)×Int=>fact (Le ((l.length:Nat):Int) z.1) (D6 [sets z.1,int z.2])):=by
 refine fo func251 rfl ⟨rfl,rfl⟩ fun M0 w0=> ?_
 refine a2 ?_
 refine co rfl (LI (S3 hz hn) rfl rfl rfl rfl) ?_
 refine ac ?_
 refine wk [8,4] rfl (Tr.seq ?_)
 obtain ⟨rel,zS⟩:∃rel,(Jt e l i).1=rel:=⟨_,rfl⟩
 have iI:∀x∈rel,0≤x∧x<(l.length:Nat):=zS ▸ Xz.1
 have AIC:rel.length≤24:=zS ▸ Xz.2
 refine Tr.re 8 rfl (Pr.le_of_eq (by rw [zS])) ?_
 refine ap ?_
 refine tp rfl (LI (iS (n:=((l.length:Nat):Int)) (l:=r) (s:=rel) hrl) rfl rfl rfl rfl) ?_
 refine TO.ex 35 rfl (fun z1=>TO.fact 35 rfl fun Eh=> ?_)
 refine ap ?_
 refine wk [10,8] rfl ?_
 refine ap ?_
 refine tp rfl (CL (iM (n:=((rel.length:Nat):Int)) (l:=z1.1) AA) rfl rfl rfl) ?_
 refine TO.ex 42 rfl (fun z2=>TO.fact 42 rfl fun Ig=> ?_)
 refine ap ?_
 refine ac ?_
 refine wk [46,13,12,8] rfl ?_
 refine Tr.cn rfl ?_ ?_<;>intro h1 q1
 refine ac ?_
 refine Tr.ret (Fin.AF (Fin.BZ rfl (AM.tmp rfl Lr) (AM.tmp rfl Lr) ?_))
 · exact Yd
 have hl4:=Ig.len
 refine a3 ?_
 refine Tr.block (Tr.B_ 51 1 (Tr.C7 _ (kk [49,48,8] rfl) (fun (o:List (List Int)) (k:Nat) u=>[(50,int ((k:Nat):Int)),(14,Ac u (sets o))]) (fun (o:List (List Int)) (k:Nat) u=>Hp M0 w0 FT ([At 51 1 u])) (fun (o:List (List Int)) (k:Nat)=>(k≤z2.1.length∧o.length=k)∧(∀s∈o,∀y∈s,0≤y∧y<((l.length:Nat):Int))∧∀s∈o,s.length≤4096) (fun (o:List (List Int)) (k:Nat)=>z2.1.length-k) ([]) (0) (.slice none 0 0) (⟨⟨Nat.zero_le _,rfl⟩,fun s h=>GI,fun s h=>GI⟩) ⟨kq,⟨_,rfl,Bq rfl⟩,trivial⟩ (fun _ _ h=>h) ?_))
 rintro o k u ⟨⟨hk0,hol⟩,hou⟩
 refine ac ?_
 refine Tr.seq ?_
 refine Tr.cn rfl ?_ ?_<;>intro h2 q2
 have hk:k<z2.1.length:=AH h2
 obtain ⟨s,hs⟩:=at_ hk
 have hsr:=Ig.PX s (List.mem_of_getElem? hs)
 have hsw:=Ig.wid s (List.mem_of_getElem? hs)
 refine ac ?_
 refine Tr.seq (Tr.block (Tr.seq (Tr.Aj (co rfl (AD rfl underlying99 Gn vq vq AA (Aa hs)) ?_))))
 refine a3 ?_
 refine Tr.block (Tr.B_ 3 1 (Tr.C7 _ (kk [55,54,50,49,48,14,8] rfl) (fun (x:List Int) (m:Nat) u2=>[(56,int ((m:Nat):Int)),(17,Ac u2 (ints x))]) (fun (x:List Int) (m:Nat) u2=>Hp M0 w0 FT ([At 3 1 u2,At 51 1 u])) (fun (x:List Int) (m:Nat)=>(m≤s.length∧x.length=m)∧∀y∈x,0≤y∧y<((l.length:Nat):Int)) (fun (x:List Int) (m:Nat)=>s.length-m) ([]) (0) (.slice none 0 0) (⟨⟨Nat.zero_le _,rfl⟩,fun s h=>GI⟩) ⟨kq,⟨_,rfl,Bq rfl⟩,trivial⟩ (fun _ _ h=>h) ?_))
 rintro x m u2 ⟨⟨hm0,hxl⟩,hxr⟩
 refine ac ?_
 refine Tr.seq ?_
 refine Tr.cn rfl ?_ ?_<;>intro h3 q3
 have hm:m<s.length:=AH h3
 obtain ⟨i2,hi2⟩:=at_ hm
 have hir:=hsr i2 (List.mem_of_getElem? hi2)
 obtain ⟨y,hy⟩:=at_ (l:=rel) (k:=i2.toNat) AA
 have hyr:=iI y (List.mem_of_getElem? hy)
 refine ac ?_
 refine Tr.seq (Tr.block (Tr.seq (Tr.Aj (co rfl (AD rfl underlying51 Bw vq vq AA (Aa hi2)) ?_))))
 refine ac ?_
 refine ap ?_
 refine tp rfl (AD rfl underlying51 Bw vq vq AA (Bf hy)) ?_
 refine ap ?_
 refine TO.Dj 0 rfl rfl AB (B8 rfl rfl rfl rfl underlying51 Bw IY z3 IZ GX (A_ BO Kx)) (fun v1=> ?_)
 refine ap ?_
 refine wk [56,55,54,50,49,48,17,14,8] rfl ?_
 refine ac ?_
 exact Fin.Bl (x++[y]) (m+1) v1 (⟨⟨⟨by omega,by simp;omega⟩,iT hxr hyr⟩,by omega⟩) ⟨⟨_,rfl,AG m⟩,⟨_,rfl,BE DI⟩,kz⟩ (fun _ _ h=>h)
 have hme:=AJ h3
 refine ac ?_
 refine ap ?_
 refine tp rfl (AO (xs:=[.tmp 69]) (rows:=[[_]]) rfl rfl underlying99 Gn z51 rfl AB ⟨⟨Am,⟨_,rfl,Pr.le_trans (As _ _) (Af _)⟩⟩,trivial⟩ AB) ?_
 refine TO.Dj 1 rfl rfl AB (B8 rfl rfl rfl rfl underlying99 Gn Wk z51 IZ GX (A_ BO Kx)) (fun v2=> ?_)
 refine ap ?_
 refine wk [50,49,48,14,8] rfl ?_
 refine ac ?_
 refine Fin.drop 0 ?_
 exact Fin.Bl (o++[x]) (k+1) v2 (⟨⟨⟨by omega,by simp;omega⟩,aM hou hxr AA⟩,by omega⟩) ⟨⟨_,rfl,AG k⟩,⟨_,rfl,BE DI⟩,kz⟩ (fun _ _ h=>h)
 have aY:=AJ h2
 refine a2 ?_
 refine Tr.ret (Fin.BZ rfl (AM.tmp rfl Lr) (AM.tmp rfl Lr) ?_)
 · exact Ax (_,_) (A9 ⟨hou.1,(by show o.length≤4096;omega),hou.2⟩ (A7 ⟨As _ _,Lr,trivial⟩))
theorem X0 {e:Dl} {l:List Bb} {r:List BI} {d:List Int} (hf:e.fits) (hrl:r.length≤1000000):BC prog 214 [agg (CK e),JT l r d] (Cp.ex fun z:Int=>fact (z=0→FR e=true∧NU e.Bt.length l r d) (int z)):=by
 refine fo func214 rfl ⟨rfl,rfl⟩ fun M0 w0=> ?_
 refine a2 ?_
 refine co rfl (Ct (Dy hf) rfl rfl) ?_
 refine an ?_ ?_<;>intro h1 q1
 refine a2 ?_
 · exact PZ
 have VB:FR e=true:=by cases h_:FR e with|true=>rfl|false=>exact absurd h1 MW
 refine ac ?_
 refine ap ?_
 refine tp rfl (CL (qD hrl) rfl rfl rfl) ?_
 refine TO.ex 10 rfl (fun z1=>TO.fact 10 rfl fun Eh=> ?_)
 refine ap ?_
 · repeat' first|exact Ax _ (A9 (fun h_=>absurd h_ AB) Lr)|exact Ax 0 (A9 (fun _=>⟨VB,Eh Bv⟩) Lr)|refine ac ?_|(refine Tr.cn rfl ?_ ?_<;>intro h q)
def qG (d s:List Int) (fr:Int):Int:=s.foldl (fun a i=>max a (d.getD i.toNat 0)) fr
theorem iV {d s:List Int} {fr i:Int} {k:Nat} (h:s[k]? =some i):qG d (s.take (k+1)) fr=max (qG d (s.take k) fr) (d.getD i.toNat 0):=by unfold qG;rw [List.take_add_one,h,List.foldl_append];rfl
theorem ML {l:List Bb} {r:List BI} {d s:List Int} {fr:Int} (hs:∀i∈s,0≤i∧i<(d.length:Nat)):BC prog 216 [JT l r d,ints s,int fr] (int (qG d s fr)):=by
 refine fo func216 rfl ⟨rfl,rfl⟩ fun M0 w0=>(Tr.Cf 1 rfl fun Fl=> ?_)
 refine a3 ?_
 refine Tr.block (Tr.BD _ (kk [12,11,3] rfl) (fun k:Nat=>[(13,int ((k:Nat):Int)),(7,int (qG d (s.take k) fr))]) (fun k:Nat=>k≤(s).length) (fun k:Nat=>(s).length-k) 0 (Nat.zero_le _) ⟨kq,kz⟩ ?_)
 rintro k BR
 refine ac ?_
 refine Tr.seq ?_
 refine Tr.cn rfl ?_ ?_<;>intro h1 q1
 have Ai:k<(s).length:=AH h1
 obtain ⟨i,Ah⟩:=at_ Ai
 have hir:=hs i (List.mem_of_getElem? Ah)
 have aL:=Ec (l:=d) (i:=i.toNat) AA
 refine ac ?_
 refine Tr.seq (Tr.block (Tr.seq (Tr.Aj (co rfl (AD rfl underlying51 Bw vq vq AA (Aa Ah)) ?_))))
 refine a2 ?_
 refine co rfl (AD rfl underlying22 Bw vq vq AA (Bf aL)) (co rfl (F5 rfl Cq rfl) (co rfl (Jv rfl vq vq) ?_))
 refine ac ?_
 refine wk [13,12,11,7,3] rfl ?_
 refine ac ?_
 exact Fin.AL (k+1) ⟨Ai,by omega⟩ ⟨⟨_,rfl,AG k⟩,⟨_,rfl,int_eq (by rw [iV Ah])⟩,kz⟩
 have BM:k=(s).length:=by have:=AJ h1;omega
 subst BM
 rw [List.take_length]
 refine a3 ?_
 · exact Lr
structure AGz (n:Int) (L:List (List (List Int))):Prop where
 PX:∀t∈L,Le n t
 len:L.length≤1000000
abbrev wm (L:List (List (List Int))):Pr:=slice 1 (L.map fun t=>[sets t])
theorem iW {n:Int} {L:List (List (List Int))} {t:List (List Int)} (h:∀t∈L,Le n t) (ht:Le n t):∀u∈L++[t],Le n u:=fun u hu=>by
 rcases List.mem_append.1 hu with hu|hu
 · exact h u hu
 · rw [List.mem_singleton] at hu;subst hu;exact ht
theorem X5 {e:Dl} {l:List Bb} {r:List BI} {d:List Int} {n:Nat} (hz:e.sz n) (hn:n≤800000) (hrl:r.length≤1000000):BC prog 215 [agg (CK e),JT l r d] (Cp.ex fun z:List (List (List Int))×Int=>fact (AGz ((l.length:Nat):Int) z.1) (D6 [wm z.1,int z.2])):=by
 refine fo func215 rfl ⟨rfl,rfl⟩ fun M0 w0=> ?_
 have hlg:=hz.lg
 iterate 4 refine ac ?_
 refine Tr.block (Tr.B_ 99 1 (Tr.Fg _ (kk [13,3,2] rfl) (fun (o:List (List (List Int))) (m:Int) (k:Nat) u=>[(14,int ((k:Nat):Int)),(7,int m),(6,Ac u (wm o))]) (fun (o:List (List (List Int))) (m:Int) (k:Nat) u=>Hp M0 w0 FT ([At 99 1 u])) (fun (o:List (List (List Int))) (m:Int) (k:Nat)=>(k≤e.BU.length∧o.length=k)∧(0≤m∧m≤4096)∧∀t∈o,Le ((l.length:Nat):Int) t) (fun (o:List (List (List Int))) (m:Int) (k:Nat)=>e.BU.length-k) ([]) (0) (0) (.slice none 0 0) (⟨⟨Nat.zero_le _,rfl⟩,⟨by omega,by omega⟩,fun s h=>GI⟩) ⟨kq,kq,⟨_,rfl,Bq rfl⟩,trivial⟩ (fun _ _ h=>h) ?_))
 rintro o m k u ⟨⟨hk0,hol⟩,hm,hou⟩
 refine ac ?_
 refine Tr.seq ?_
 refine Tr.cn rfl ?_ ?_<;>intro h1 q1
 have hk:k<e.BU.length:=AH h1
 refine a2 ?_
 refine ap ?_
 refine tp rfl (LI (iU hz hn hrl) rfl rfl rfl rfl) ?_
 refine TO.ex 21 rfl (fun z1=>TO.fact 21 rfl fun Eh=> ?_)
 have hzl:=Eh.len
 refine ap ?_
 refine wk [14,13,10,9,7,6,3,2] rfl ?_
 refine ac ?_
 refine ag ?_ ?_<;>intro h2 q2
 refine ac ?_
 refine wk [33,14,13,9,7,6,3,2] rfl ?_
 refine ac ?_
 refine Tr.ret (Fin.AF (Fin.AU (Fin.AF (Fin.AF (Fin.AU (Fin.AF (Fin.BZ rfl (AM.tmp rfl Lr) (AM.tmp rfl Lr) ?_)))))))
 · exact jr
 refine ac ?_
 refine wk [33,14,13,9,7,6,3,2] rfl ?_
 refine Tr.cn rfl ?_ ?_<;>intro h3 q3
 refine ac ?_
 refine Tr.ret (Fin.AF (Fin.AU (Fin.AF (Fin.AF (Fin.AU (Fin.AF (Fin.BZ rfl (AM.tmp rfl Lr) (AM.tmp rfl Lr) ?_)))))))
 · exact jr
 refine ac ?_
 refine ap ?_
 refine TO.Dj 0 rfl rfl AB (B8 rfl rfl rfl rfl underlying274 rQ AFM z99 IZ GX (A_ BO Kx)) (fun v1=> ?_)
 refine ap ?_
 refine ac ?_
 exact Fin.EG (o++[z1.1]) (m+((z1.1.length:Nat):Int)) (k+1) v1 (⟨⟨⟨by omega,by simp;omega⟩,⟨by omega,by omega⟩,iW hou Eh⟩,by omega⟩) ⟨⟨_,rfl,AG k⟩,kq,⟨_,rfl,BE DI⟩,kz⟩ (fun _ _ h=>h)
 have aY:=AJ h1
 refine a2 ?_
 refine Tr.ret (Fin.BZ rfl (AM.tmp rfl Lr) (AM.tmp rfl Lr) ?_)
 · exact Ax (_,_) (A9 ⟨hou,(by show o.length≤1000000;omega)⟩ (A7 ⟨As _ _,Lr,trivial⟩))
abbrev zT:Pr:=agg [anyI,anyI]
theorem vH {φ:Prop}:Pr.le (Cp.ex fun z:Int×Int×Int=>fact φ (D6 [agg [int z.1,int z.2.1],int z.2.2])) (D6 [zT,anyI]):=fun M w v ⟨z,_,h⟩=>A7 (ps:=[agg [int z.1,int z.2.1],int z.2.2]) (qs:=[zT,anyI]) ⟨BS (ps:=[int z.1,int z.2.1]) (qs:=[anyI,anyI]) ⟨Ax _ (Pr.le_refl _),Ax _ (Pr.le_refl _),trivial⟩,Ax _ (Pr.le_refl _),trivial⟩ M w v h
abbrev wo:Pr:=Cp.ex fun z:List Int=>fact (z.length≤1000000) (ints z)
theorem zU:Pr.le (Cp.ex fun z:List Int×Int=>fact (z.1.length≤1000) (D6 [ints z.1,int z.2])) (D6 [wo,anyI]):=fun M w v ⟨z,hz,h⟩=>A7 (ps:=[ints z.1,int z.2]) (qs:=[wo,anyI]) ⟨Ax z.1 (A9 AA (Pr.le_refl _)),Ax _ (Pr.le_refl _),trivial⟩ M w v h
theorem aN {e:Dl} {l:List Bb} {r:List BI} {d:List Int} {n:Nat} {s:List Int} {i fr N8:Int} (hz:e.sz n) (hn:n≤800000) (hc:∀c∈l,c.C1.fits∧c.C1.small) (hs:∀i∈s,0≤i∧i<(d.length:Nat)) (Zl:s.length≤4096)  :BC prog 249 [agg (CK e),JT l r d,int i,ints s,int fr,int N8] (D6 [zT,EH]):=by
 refine fo func249 rfl ⟨rfl,rfl⟩ fun M0 w0=> ?_
 have hxf:=(eN (l:=l) (s:=s) hz hc).fits AA
 refine Tr.seq (Tr.Ao (tp rfl (Bj rfl Cv) (tp rfl (Bj rfl Cv) ?_)))
 refine Tl rfl rfl rfl rfl JZ Fi (fun b1=> ?_)
 refine ao ?_
 refine ao ?_
 refine tp rfl (LI (MK hz hn hc) rfl rfl rfl rfl) ?_
 refine ao ?_
 refine Tl rfl rfl rfl rfl z31 IG (fun b2=> ?_)
 refine sf 0 14 ⟨rfl,rfl,rfl⟩ rfl rfl rfl rfl ?_
 refine ao ?_
 refine wk [15,14,12,7,5,4,3,2] rfl ?_
 refine an ?_ ?_<;>intro h1 q1
 refine ao ?_
 refine TO.AK 0 rfl rfl rfl vq Cv rfl CG rfl rfl ?_
 refine ao ?_
 refine Tr.ret (Fin.AF (Fin.BZ rfl (AM.cell 0 rfl rfl Cy CG rfl Lr) (AM.tmp rfl Lr) ?_))
 refine A7 ⟨?_,?_,trivial⟩
 · exact BS ⟨Ax _ Lr,Ax _ Lr,trivial⟩
 · exact BK
 refine ac ?_
 refine Tr.seq (Tr.pad (Tr.rx ?_))
 refine ax ?_
 refine xo rfl (fun _=>LI (ML hs) rfl rfl rfl rfl) (xm rfl (xo rfl (fun _=>Ae.le (jL (O7 hxf) rfl rfl rfl rfl rfl) vH) ?_))
 refine ax ?_
 refine Cx.ef 0 rfl rfl AB (CN rfl rfl AB rfl JZ Fi) (Cx.DY 0 rfl rfl (Cs rfl rfl rfl rfl Cv CG rfl rfl) (xm rfl ?_))
 refine Cx.nil ⟨by kernel_rfl,?_⟩
 refine BJ.open_ 0 16 rfl rfl (fun v1=> ?_)
 refine BJ.done W7 (Fin.MN 16 0 _ rfl rfl (fun _=>rfl) (fun b3=> ?_))
 refine Fin.go (wk [17,16,12] rfl ?_)
 refine ao ?_
 refine tp rfl (pQ rfl (VL.le vq Z7) (VL.le vq (DA _ _))) (TO.AK 1 rfl rfl rfl vq Cv rfl CG rfl rfl ?_)
 refine ao ?_
 refine Tr.drop 0 (Tr.ret (Fin.BZ rfl (AM.cell 0 rfl rfl Cy CG rfl Lr) (AM.tmp rfl Lr) ?_))
 refine A7 ⟨?_,?_,trivial⟩
 · exact Lr
 · exact Lr
abbrev qH (c:Int×List Int):List Pr:=[int c.1,ints c.2,anyI,anyI]
abbrev qI:Pr:=agg [Cp.ex fun L:List (Int×List Int)=>slice 4 (L.map qH)]
abbrev ADc:Pr:=agg [anyI,Cp.ex fun s:List Int=>ints s,anyI,anyI]
theorem D3:Pr.le (agg [is (.slice none 0 0)]) qI:=BS ⟨Ax [] (AQ 4),trivial⟩
theorem MR:Pr.le (agg [is (.int .i64 0),is (.slice none 0 0),is (.int .i64 0),is (.int .i64 0)]) ADc:=BS ⟨Ax _ (Pr.le_refl _),Ax [] (AQ 1),Ax _ (Pr.le_refl _),Ax _ (Pr.le_refl _),trivial⟩
theorem iX {e:Dl} {l:List Bb} {r:List BI} {d:List Int} {n:Nat} {fr N8:Int} (hz:e.sz n) (hn:n≤800000) (hc:∀c∈l,c.C1.fits∧c.C1.small) (hrl:r.length≤1000000):BC prog 213 [agg (CK e),JT l r d,int fr,int N8] (Cp.ex fun z:Int=>fact (z=0→FR e=true∧NU e.Bt.length l r d) (D6 [qI,ADc,EH,int z])):=by
 refine fo func213 rfl ⟨rfl,rfl⟩ fun M0 w0=> ?_
 have hf:=hz.fits AA
 refine Tr.seq (Tr.Ao (tp rfl (Bj rfl Cv) (tp rfl (Bj rfl Cv) ?_)))
 refine Tl rfl rfl rfl rfl z107 Eb (fun b1=> ?_)
 refine Tl rfl rfl rfl rfl sS RL (fun b2=> ?_)
 refine ao ?_
 refine ao ?_
 refine tp rfl (CL (X0 hf hrl) rfl rfl rfl) ?_
 refine TO.ex 24 rfl (fun z1=>TO.fact 24 rfl fun Eh=> ?_)
 refine ao ?_
 refine wk [12,9,8,5,4,3,2] rfl ?_
 refine an ?_ ?_<;>intro h1 q1
 refine ao ?_
 refine TO.AK 1 rfl rfl rfl vq Cv rfl Bn rfl rfl (TO.AK 0 rfl rfl rfl vq Cv rfl Fw rfl rfl ?_)
 refine ao ?_
 refine wk [11,10,9,8] rfl (Tr.ret (Fin.AF (Fin.O5 rfl (AM.cell 1 rfl rfl CS Bn rfl Lr) (AM.cell 0 rfl rfl J4 Fw rfl Lr) (AM.tmp rfl Lr) (AM.tmp rfl Lr) ?_)))
 · exact Ax z1 (A9 (fun h_=>absurd h_ AA) (A7 ⟨D3,MR,Ax _ Lr,Lr,trivial⟩))
 have hz0:z1=0:=by have:=q1;omega
 obtain ⟨VB,hfp⟩:=Eh hz0
 have hdl:=hfp.dl
 refine ac ?_
 refine ag ?_ ?_<;>intro h2 q2
 refine ac ?_
 refine wk [43,9,8,5,4,3,2] rfl (Tr.cond rfl (fun _=> ?_) (fun h=>nomatch h))
 refine Tr.seq (Tr.Ao (tp rfl (Al (rows:=[]) rfl JM Eb trivial rfl) (tp rfl (Al (rows:=[]) rfl cL RL trivial rfl) (TO.AK 1 rfl rfl rfl vq Cv rfl Bn rfl rfl (TO.AK 0 rfl rfl rfl vq Cv rfl Fw rfl rfl ?_)))))
 refine ao ?_
 refine Tr.ret (Fin.AF (Fin.O5 rfl (AM.cell 1 rfl rfl CS Bn rfl Lr) (AM.cell 0 rfl rfl J4 Fw rfl Lr) (AM.tmp rfl Lr) (AM.tmp rfl Lr) ?_))
 · exact UM
 refine ag ?_ ?_<;>intro h3 q3
 refine ac ?_
 refine wk [43,9,8,5,4,3,2] rfl (Tr.cond rfl (fun _=> ?_) (fun h=>nomatch h))
 refine Tr.seq (Tr.Ao (tp rfl (Al (rows:=[]) rfl JM Eb trivial rfl) (tp rfl (Al (rows:=[]) rfl cL RL trivial rfl) (TO.AK 1 rfl rfl rfl vq Cv rfl Bn rfl rfl (TO.AK 0 rfl rfl rfl vq Cv rfl Fw rfl rfl ?_)))))
 refine ao ?_
 refine Tr.ret (Fin.AF (Fin.O5 rfl (AM.cell 1 rfl rfl CS Bn rfl Lr) (AM.cell 0 rfl rfl J4 Fw rfl Lr) (AM.tmp rfl Lr) (AM.tmp rfl Lr) ?_))
 · exact UM
 refine ag ?_ ?_<;>intro h4 q4
 refine ac ?_
 refine wk [43,9,8,5,4,3,2] rfl (Tr.cond rfl (fun _=> ?_) (fun h=>nomatch h))
 refine Tr.seq (Tr.Ao (tp rfl (Al (rows:=[]) rfl JM Eb trivial rfl) (tp rfl (Al (rows:=[]) rfl cL RL trivial rfl) (TO.AK 1 rfl rfl rfl vq Cv rfl Bn rfl rfl (TO.AK 0 rfl rfl rfl vq Cv rfl Fw rfl rfl ?_)))))
 refine ao ?_
 refine Tr.ret (Fin.AF (Fin.O5 rfl (AM.cell 1 rfl rfl CS Bn rfl Lr) (AM.cell 0 rfl rfl J4 Fw rfl Lr) (AM.tmp rfl Lr) (AM.tmp rfl Lr) ?_))
 · exact UM
 refine ac ?_
 refine wk [43,9,8,5,4,3,2] rfl ?_
 refine Tr.cn rfl ?_ ?_<;>intro h5 q5
 refine ao ?_
 refine TO.AK 1 rfl rfl rfl vq Cv rfl Bn rfl rfl (TO.AK 0 rfl rfl rfl vq Cv rfl Fw rfl rfl ?_)
 refine ao ?_
 refine Tr.ret (Fin.AF (Fin.O5 rfl (AM.cell 1 rfl rfl CS Bn rfl Lr) (AM.cell 0 rfl rfl J4 Fw rfl Lr) (AM.tmp rfl Lr) (AM.tmp rfl Lr) ?_))
 · exact UM
 refine ac ?_
 refine ao ?_
 refine tp rfl (CL (X5 hz hn hrl) rfl rfl rfl) ?_
 refine TO.ex 49 rfl (fun z2=>TO.fact 49 rfl fun Ig=> ?_)
 refine ao ?_
 refine wk [14,13,9,8,5,4,3,2] rfl ?_
 refine an ?_ ?_<;>intro h6 q6
 refine ao ?_
 refine TO.AK 1 rfl rfl rfl vq Cv rfl Bn rfl rfl (TO.AK 0 rfl rfl rfl vq Cv rfl Fw rfl rfl ?_)
 refine ao ?_
 refine wk [11,10,9,8] rfl (Tr.ret (Fin.AF (Fin.O5 rfl (AM.cell 1 rfl rfl CS Bn rfl Lr) (AM.cell 0 rfl rfl J4 Fw rfl Lr) (AM.tmp rfl Lr) (AM.tmp rfl Lr) ?_)))
 · exact Ax _ (A9 (fun _=>⟨VB,hfp⟩) (A7 ⟨D3,MR,Ax _ Lr,Lr,trivial⟩))
 refine ac ?_
 refine Tr.seq (Tr.Ao ?_)
 refine Tl rfl rfl rfl rfl z107 Eb (fun b3=> ?_)
 refine ao ?_
 refine ac ?_
 refine wk [59,58,57,15,9,8,5,4,3,2] rfl (Tr.block (Tr.H8 0 [Ac (.slice none 0 0) (slice 4 (([]:List (Int×List Int)).map qH))] rfl ⟨Bq rfl,trivial⟩ (Tr.B_ 270 4 (Tr.C7 _ (kk [58,57,15,9,8,5,4,3,2] rfl) (fun (q:List (Int×List Int)) (k:Nat) v=>[(59,int ((k:Nat):Int))]) (fun (q:List (Int×List Int)) (k:Nat) v=>Hp M0 w0 FT ([At 270 4 v,AE true b3 107 [Ac v (slice 4 (q.map qH))],AE true b2 270 (([.int .i64 0,.slice none 0 0,.int .i64 0,.int .i64 0]:List Value).map is),AE true b1 107 (([.slice none 0 0]:List Value).map is)])) (fun (q:List (Int×List Int)) (k:Nat)=>k≤z2.1.length∧q.length≤4096*k) (fun (q:List (Int×List Int)) (k:Nat)=>z2.1.length-k) ([]) (0) (.slice none 0 0) (⟨Nat.zero_le _,by simp⟩) kz (fun _ _ h=>h) ?_))))
 rintro q k v ⟨hk0,hql⟩
 refine ac ?_
 refine Tr.seq ?_
 refine Tr.cn rfl ?_ ?_<;>intro h7 q7
 have hk:k<z2.1.length:=AH h7
 obtain ⟨t,ht⟩:=at_ hk
 have hts:=Ig.PX t (List.mem_of_getElem? ht)
 have htl:=hts.len
 have hzl:=Ig.len
 refine a2 ?_
 refine co rfl (AD rfl underlying274 rQ vq vq AA (Aa ht)) ?_
 refine ac ?_
 refine wk [59,58,57,17,16,15,9,8,5,4,3,2] rfl ?_
 refine ac ?_
 refine wk [66,65,64,59,58,57,16,15,9,8,5,4,3,2] rfl (Tr.block (Tr.C7 _ (kk [65,64,59,58,57,16,15,9,8,5,4,3,2] rfl) (fun (q2:List (Int×List Int)) (m:Nat) u=>[(66,int ((m:Nat):Int))]) (fun (q2:List (Int×List Int)) (m:Nat) u=>Hp M0 w0 FT ([At 270 4 u,AE true b3 107 [Ac u (slice 4 (q2.map qH))],AE true b2 270 (([.int .i64 0,.slice none 0 0,.int .i64 0,.int .i64 0]:List Value).map is),AE true b1 107 (([.slice none 0 0]:List Value).map is)])) (fun (q2:List (Int×List Int)) (m:Nat)=>m≤t.length∧q2.length≤4096*k+m) (fun (q2:List (Int×List Int)) (m:Nat)=>t.length-m) (q) (0) v (⟨Nat.zero_le _,by omega⟩) kz (fun _ _ h=>h) ?_))
 rintro q2 m u ⟨hm0,AID⟩
 refine ac ?_
 refine wk [67,66,65,64,59,58,57,16,15,9,8,5,4,3,2] rfl (Tr.seq ?_)
 refine Tr.cn rfl ?_ ?_<;>intro h8 q8
 have hm:m<t.length:=AH h8
 obtain ⟨x,hx⟩:=at_ hm
 have hsd:∀i∈x,0≤i∧i<(d.length:Nat):=fun i hi=>by have:=hts.PX x (List.mem_of_getElem? hx) i hi;omega
 have hsw:=hts.wid x (List.mem_of_getElem? hx)
 refine ac ?_
 refine wk [66,65,64,59,58,57,16,15,9,8,5,4,3,2] rfl (Tr.seq (Tr.block (Tr.seq (Tr.Aj (co rfl (AD rfl underlying99 Gn vq vq AA (Aa hx)) ?_)))))
 refine ac ?_
 refine wk [66,65,64,59,58,57,19,16,15,9,8,5,4,3,2] rfl ?_
 refine ac ?_
 refine co rfl (LI (ML hsd) rfl rfl rfl rfl) ?_
 refine ac ?_
 refine wk [75,66,65,64,59,58,57,19,16,15,9,8,5,4,3,2] rfl ?_
 refine Tr.cn rfl ?_ ?_<;>intro h9 q9
 refine ac ?_
 refine wk [66,65,64,59,58,57,16,15,9,8,5,4,3,2] rfl ?_
 refine ac ?_
 exact Fin.Bl (q2) (m+1) u (⟨⟨by omega,by omega⟩,by omega⟩) ⟨⟨_,rfl,AG m⟩,kz⟩ (fun _ _ h=>h)
 refine ac ?_
 refine wk [66,65,64,59,58,57,19,16,15,9,8,5,4,3,2] rfl ?_
 refine ao ?_
 refine tp rfl (AR rfl (aN hz hn hc hsd hsw) ⟨kq,kz⟩) ?_
 refine ao ?_
 refine Tl rfl rfl rfl rfl JZ Fi (fun b4=> ?_)
 refine sf 0 20 ⟨rfl,rfl,rfl⟩ rfl rfl rfl rfl ?_
 refine ao ?_
 refine wk [66,65,64,59,58,57,21,20,19,16,15,9,8,5,4,3,2] rfl (Tr.seq (Tr.seq (Tr.ex 21 rfl fun x21=> ?_)))
 refine ac ?_
 refine wk [87,66,65,64,59,58,57,20,19,16,15,9,8,5,4,3,2] rfl ?_
 refine Tr.cn rfl ?_ ?_<;>intro h10 Re
 refine ao ?_
 refine TO.AK 3 rfl rfl rfl vq Cv rfl Bn rfl rfl (TO.AK 2 rfl rfl rfl vq Cv rfl Fw rfl rfl ?_)
 refine ao ?_
 refine wk [11,10,9,8] rfl (Tr.ret (Fin.AF (Fin.AU (Fin.AF (Fin.AF (Fin.AU (Fin.AU (Fin.AF (Fin.AF (Fin.AU (Fin.AF (Fin.O5 rfl (AM.cell 3 rfl rfl CS Bn rfl Lr) (AM.cell 2 rfl rfl J4 Fw rfl Lr) (AM.tmp rfl Lr) (AM.tmp rfl Lr) ?_))))))))))))
 · exact Ax 0 (A9 (fun _=>⟨VB,hfp⟩) (A7 ⟨D3,BS ⟨Ax _ Lr,Ax _ Lr,Ax _ Lr,Ax _ Lr,trivial⟩,Ax _ Lr,Lr,trivial⟩))
 refine ac ?_
 refine wk [66,65,64,59,58,57,20,19,16,15,9,8,5,4,3,2] rfl ?_
 refine ao ?_
 refine TO.Dj 0 rfl rfl AB (B8 rfl rfl rfl rfl underlying105 Fw ABc sS IZ GX (A_ BO Kx)) (fun v1=> ?_)
 refine tp rfl (AW rfl cH vq) (TO.AK 1 rfl rfl rfl vq Ni rfl ABK rfl rfl ?_)
 refine ao ?_
 refine wk [66,65,64,59,58,57,16,15,9,8,5,4,3,2] rfl ?_
 refine ac ?_
 refine Fin.H8 1 [Ac v1 (slice 4 ((q2++[(((k:Nat):Int),x)]).map qH))] rfl ⟨BE DI,trivial⟩ ?_
 exact Fin.Bl (q2++[(((k:Nat):Int),x)]) (m+1) v1 (⟨⟨by omega,by simp;omega⟩,by omega⟩) ⟨⟨_,rfl,AG m⟩,kz⟩ (fun _ _ h=>h)
 have hme:=AJ h8
 refine ac ?_
 refine wk [59,58,57,15,9,8,5,4,3,2] rfl ?_
 refine ac ?_
 exact Fin.Bl (q2) (k+1) u (⟨⟨by omega,by omega⟩,by omega⟩) ⟨⟨_,rfl,AG k⟩,kz⟩ (fun _ _ h=>h)
 have aY:=AJ h7
 refine ac ?_
 refine ao ?_
 refine TO.AK 3 rfl rfl rfl vq Cv rfl Bn rfl rfl (TO.AK 2 rfl rfl rfl vq Cv rfl Fw rfl rfl ?_)
 refine ao ?_
 refine wk [11,10,9,8] rfl (Tr.ret (Fin.O5 rfl (AM.cell 3 rfl rfl CS Bn rfl Lr) (AM.cell 2 rfl rfl J4 Fw rfl Lr) (AM.tmp rfl Lr) (AM.tmp rfl Lr) ?_))
 · exact Ax 0 (A9 (fun _=>⟨VB,hfp⟩) (A7 ⟨BS ⟨Ax _ (As _ _),trivial⟩,MR,Ax _ Lr,Lr,trivial⟩))
theorem iY {e:Dl} {l:List Bb} {r:List BI} {d:List Int} {n:Nat} {fr N8:Int} (hz:e.sz n) (hn:n≤800000) (hc:∀c∈l,c.C1.fits∧c.C1.small) (hrl:r.length≤1000000):BC prog 176 [agg (CK e),JT l r d,int fr,int N8] (Cp.ex fun z:Int=>fact (z=0→FR e=true∧NU e.Bt.length l r d) (D6 [qI,int z])):=by
 refine fo func176 rfl ⟨rfl,rfl⟩ fun M0 w0=>(Tr.seq (Tr.Ao (tp rfl (Bj rfl Cv) (tp rfl (Bj rfl Cv) ?_))))
 refine Tl rfl rfl rfl rfl z107 Eb (fun b1=> ?_)
 refine ao ?_
 refine ao ?_
 refine tp rfl (jL (iX hz hn hc hrl) rfl rfl rfl rfl rfl) ?_
 refine TO.ex 19 rfl (fun z1=>TO.fact 19 rfl fun Eh=> ?_)
 refine ao ?_
 refine Tl rfl rfl rfl rfl z107 Eb (fun b2=> ?_)
 refine Tl rfl rfl rfl rfl sS RL (fun b3=> ?_)
 refine sf 1 10 ⟨rfl,rfl,rfl⟩ rfl rfl rfl rfl ?_
 refine sf 0 11 ⟨rfl,rfl,rfl⟩ rfl rfl rfl rfl ?_
 refine ao ?_
 refine wk [13,12,10,8] rfl ?_
 refine an ?_ ?_<;>intro h1 q1
 refine ao ?_
 refine TO.AK 0 rfl rfl rfl vq Cv rfl Bn rfl rfl ?_
 refine ao ?_
 refine Tr.ret (Fin.AF (Fin.BZ rfl (AM.cell 0 rfl rfl CS Bn rfl Lr) (AM.tmp rfl Lr) ?_))
 · exact Ax z1 (A9 (fun h_=>absurd h_ AA) (A7 ⟨D3,Lr,trivial⟩))
 have hz0:z1=0:=by have:=q1;omega
 refine ac ?_
 refine Tr.seq (Tr.seq (Tr.ex 12 rfl fun x12=> ?_))
 refine an ?_ ?_<;>intro h2 q2
 refine ao ?_
 refine TO.AK 0 rfl rfl rfl vq Cv rfl Bn rfl rfl ?_
 refine ao ?_
 refine Tr.ret (Fin.AF (Fin.BZ rfl (AM.cell 0 rfl rfl CS Bn rfl Lr) (AM.tmp rfl Lr) ?_))
 · exact Ax 42 (A9 (fun h_=>absurd h_ AB) (A7 ⟨D3,Lr,trivial⟩))
 refine ac ?_
 refine ao ?_
 refine TO.AK 0 rfl rfl rfl vq Cv rfl Bn rfl rfl ?_
 refine ao ?_
 refine Tr.ret (Fin.BZ rfl (AM.cell 0 rfl rfl CS Bn rfl Lr) (AM.tmp rfl Lr) ?_)
 · exact Ax 0 (A9 (fun _=>Eh hz0) (A7 ⟨Lr,Lr,trivial⟩))
theorem V5 {e:Dl} {l:List Bb} {r:List BI} {d:List Int} {n:Nat} {s:List Int} {g i:Int} (hz:e.sz n) (hn:n≤800000) (hc:∀c∈l,c.C1.fits∧c.C1.small) (Zl:s.length≤4096) (hi:0≤i∧i<(d.length:Nat)):BC prog 218 [agg (CK e),JT l r d,int g,ints s,int i,NS,SN,Vz] (EH):=by
 refine fo func218 rfl ⟨rfl,rfl⟩ fun M0 w0=> ?_
 have hxf:=(eN (l:=l) (s:=s) hz hc).fits AA
 have hwl:=OE s i true
 have hyf:=(eN (l:=l) (s:=EJ s i true) hz hc).fits AA
 have aL:=Ec (l:=d) (i:=i.toNat) AA
 refine ac ?_
 refine ao ?_
 refine tp rfl (LI (MK hz hn hc) rfl rfl rfl rfl) ?_
 refine ao ?_
 refine Tl rfl rfl rfl rfl z31 IG (fun b1=> ?_)
 refine sf 0 17 ⟨rfl,rfl,rfl⟩ rfl rfl rfl rfl ?_
 refine ao ?_
 refine wk [18,17,15,13,9,8,6,4,3,2] rfl (Tr.seq (Tr.pad (Tr.rx ?_)))
 refine ax ?_
 refine xo rfl (fun _=>LI (Gt AA) rfl rfl rfl rfl) (xo rfl (fun _=>LI (MK hz hn hc) rfl rfl rfl rfl) ?_)
 refine ax ?_
 refine Cx.ef 0 rfl rfl AB (CN rfl rfl AB rfl z31 IG) (Cx.DY 0 rfl rfl (Cs rfl rfl rfl rfl Cv DZ rfl rfl) (xm rfl ?_))
 refine Cx.nil ⟨by kernel_rfl,?_⟩
 refine BJ.open_ 0 19 rfl rfl (fun v1=> ?_)
 refine BJ.done al1 (Fin.MN 19 0 _ rfl rfl (fun _=>rfl) (fun b2=> ?_))
 refine Fin.go (wk [20,19,18,17,15,13,9,6,4,2] rfl ?_)
 refine ag ?_ ?_<;>intro h1 q1
 refine ac ?_
 refine wk [46,19,17,15,13,9,6,4,2] rfl ?_
 refine ac ?_
 refine Tr.drop 0 ?_
 refine ac ?_
 · exact BK
 refine ac ?_
 refine wk [46,19,17,15,13,9,6,4,2] rfl ?_
 refine Tr.cn rfl ?_ ?_<;>intro h2 q2
 refine ac ?_
 refine Tr.drop 0 ?_
 refine ac ?_
 · exact BK
 refine a2 ?_
 refine co rfl (AD rfl underlying22 Bw vq vq AA (Bf aL)) (co rfl (F5 rfl Cq rfl) (co rfl (Ae.le (AR rfl (iG hxf hyf) ⟨kq,kz⟩) zU) ?_))
 refine ac ?_
 refine Tr.drop 0 (wk [21,2] rfl (Tr.seq (Tr.seq (Tr.ex 21 rfl fun bad=>(Tr.fact 21 rfl fun AIE=> ?_)))))
 refine ac ?_
 refine Tr.block (Tr.BD _ (kk [62,61,2] rfl) (fun k:Nat=>[(63,int ((k:Nat):Int))]) (fun k:Nat=>k≤(bad).length) (fun k:Nat=>(bad).length-k) 0 (Nat.zero_le _) kz ?_)
 rintro k BR
 refine ac ?_
 refine Tr.seq ?_
 refine Tr.cn rfl ?_ ?_<;>intro h3 q3
 have Ai:k<(bad).length:=AH h3
 obtain ⟨x,Ah⟩:=at_ Ai
 refine ac ?_
 refine Tr.seq (Tr.block (Tr.seq (Tr.Aj (co rfl (AD rfl underlying22 Bw vq vq AA (Aa Ah)) ?_))))
 · exact Lh
 have BM:k=(bad).length:=by have:=AJ h3;omega
 subst BM
 refine a3 ?_
 · exact BK
theorem aO {l:List (List Int)} {s:List Int}  :BC prog 217 [sets l,ints s] (EH):=by
 refine fo func217 rfl ⟨rfl,rfl⟩ fun M0 w0=>(Tr.Cf 0 rfl fun D_=> ?_)
 refine a2 ?_
 refine Tr.block (Tr.BD _ (kk [8,7,1] rfl) (fun k:Nat=>[(9,int ((k:Nat):Int))]) (fun k:Nat=>k≤(l).length) (fun k:Nat=>(l).length-k) 0 (Nat.zero_le _) kz ?_)
 rintro k BR
 refine ac ?_
 refine Tr.seq ?_
 refine Tr.cn rfl ?_ ?_<;>intro h1 q1
 have Ai:k<(l).length:=AH h1
 obtain ⟨x,Ah⟩:=at_ Ai
 refine ac ?_
 refine Tr.seq (Tr.block (Tr.seq (Tr.Aj (co rfl (AD rfl underlying99 Gn vq vq AA (Aa Ah)) ?_))))
 refine a2 ?_
 refine co rfl (CL (V1) rfl rfl rfl) ?_
 refine ac ?_
 refine Tr.ex 15 rfl fun AIF=> ?_
 · exact Lh
 have BM:k=(l).length:=by have:=AJ h1;omega
 refine a3 ?_
 · exact BK
theorem aP {e:Dl} {l:List Bb} {r:List BI} {d:List Int} {n:Nat} (hz:e.sz n) (hn:n≤800000) (hc:∀c∈l,c.C1.fits∧c.C1.small) (hrl:r.length≤1000000):BC prog 177 [agg (CK e),JT l r d,NS,SN,Vz] (Cp.ex fun z:List Int×Int=>fact (z.1.length≤1000) (D6 [ints z.1,int z.2])):=by
 refine fo func177 rfl ⟨rfl,rfl⟩ fun M0 w0=> ?_
 have hf:=hz.fits AA
 refine ac ?_
 refine ap ?_
 refine tp rfl (CL (X0 hf hrl) rfl rfl rfl) ?_
 refine TO.ex 25 rfl (fun z1=>TO.fact 25 rfl fun Eh=> ?_)
 refine ap ?_
 refine ac ?_
 refine jI 3 5 6 7 9 12 27 rfl ?_
 refine Tr.cn rfl ?_ ?_<;>intro h1 q1
 refine ac ?_
 refine Tr.ret (Fin.AF (Fin.BZ rfl (AM.tmp rfl (Lr)) (AM.tmp rfl (Lr)) ?_))
 · exact Qo
 have hz0:z1=0:=by have:=q1;omega
 obtain ⟨VB,hfp⟩:=Eh hz0
 have hdl:=hfp.dl
 have Np:=hfp.l24
 refine a2 ?_
 refine co rfl (LI (KY) rfl rfl rfl rfl) ?_
 refine ac ?_
 refine Tr.seq (Tr.ex 13 rfl fun x13=> ?_)
 refine an ?_ ?_<;>intro h2 q2
 refine ac ?_
 refine TN 10 11 rfl (Tr.ret (Fin.AF (Fin.BZ rfl (AM.tmp rfl (Lr)) (AM.tmp rfl (Lr)) ?_)))
 · exact Qo
 refine ac ?_
 refine ap ?_
 refine tp rfl (CL (X5 hz hn hrl) rfl rfl rfl) ?_
 refine TO.ex 38 rfl (fun z2=>TO.fact 38 rfl fun Ig=> ?_)
 refine ap ?_
 refine jI 3 5 6 7 9 14 15 rfl ?_
 refine an ?_ ?_<;>intro h3 q3
 refine ac ?_
 refine Tr.ret (Fin.AF (Fin.BZ rfl (AM.tmp rfl (Lr)) (AM.tmp rfl (Lr)) ?_))
 · exact Qo
 refine a3 ?_
 refine jJ 3 5 6 7 9 14 16 46 47 rfl (Tr.block (Tr.B_ 3 1 (Tr.C7 [(3,_),(5,_),(6,_),(7,_),(9,_),(14,_),(46,_)] ⟨ke rfl,ke rfl,ke rfl,ke rfl,ke rfl,ke rfl,ke rfl,trivial⟩ (fun (o:List Int) (k:Nat) u=>[(47,int ((k:Nat):Int)),(16,Ac u (ints o))]) (fun (o:List Int) (k:Nat) u=>Hp M0 w0 FT ([At 3 1 u])) (fun (o:List Int) (k:Nat)=>k≤l.length∧o.length≤k) (fun (o:List Int) (k:Nat)=>l.length-k) ([]) (0) (.slice none 0 0) (⟨Nat.zero_le _,by simp⟩) ⟨ke rfl,⟨_,rfl,Bq rfl⟩,trivial⟩ (fun _ _ h=>h) ?_)))
 rintro o k u ⟨hk0,hol⟩
 refine ac ?_
 refine Tr.seq ?_
 refine Tr.cn rfl ?_ ?_<;>intro h4 q4
 have hk:k<l.length:=AH h4
 obtain ⟨dk,aL⟩:=at_ (l:=d) (k:=k) AA
 iterate 4 refine ac ?_
 refine w9 3 5 6 7 9 14 16 17 18 46 47 50 51 52 rfl (Tr.block (Tr.BD [(3,_),(5,_),(6,_),(7,_),(9,_),(14,_),(16,_),(17,_),(46,_),(47,_),(50,_),(51,_)] (AFG rfl) (fun j:Nat=>[(52,int ((j:Nat):Int)),(18,EH)]) (fun j:Nat=>j≤(z2.1).length) (fun j:Nat=>(z2.1).length-j) 0 (Nat.zero_le _) ⟨ke rfl,⟨_,rfl,Ax _ (Lr)⟩,trivial⟩ ?_))
 rintro j AHc
 refine ac ?_
 refine AFE 3 5 6 7 9 14 16 17 18 46 47 50 51 52 53 rfl (Tr.seq ?_)
 refine Tr.cn rfl ?_ ?_<;>intro h5 q5
 have ADd:j<(z2.1).length:=AH h5
 obtain ⟨t,ADe⟩:=at_ ADd
 have hts:=Ig.PX t (List.mem_of_getElem? ADe)
 have ht:=ADe
 have htl:=hts.len
 have hzl:=Ig.len
 refine ac ?_
 refine w9 3 5 6 7 9 14 16 17 18 46 47 50 51 52 rfl ?_
 refine ac ?_
 refine co rfl (AD rfl underlying274 rQ (vl rfl) (vl rfl) AA (Aa ht)) ?_
 refine ac ?_
 refine AFF 3 5 6 7 9 14 16 17 18 19 20 46 47 50 51 52 rfl ?_
 refine ac ?_
 refine kP 3 5 6 7 9 14 16 17 18 19 20 46 47 50 51 52 57 58 59 rfl (Tr.block (Tr.BD [(3,_),(5,_),(6,_),(7,_),(9,_),(14,_),(16,_),(17,_),(19,_),(20,_),(46,_),(47,_),(50,_),(51,_),(52,_),(57,_),(58,_)] (AFH rfl) (fun m:Nat=>[(59,int ((m:Nat):Int)),(18,EH)]) (fun m:Nat=>m≤(t).length) (fun m:Nat=>(t).length-m) 0 (Nat.zero_le _) ⟨ke rfl,ke rfl,trivial⟩ ?_))
 rintro m ND
 refine ac ?_
 refine AA5 3 5 6 7 9 14 16 17 18 19 20 46 47 50 51 52 57 58 59 60 rfl (Tr.seq ?_)
 refine Tr.cn rfl ?_ ?_<;>intro h6 q6
 have EW:m<(t).length:=AH h6
 obtain ⟨x,Ef⟩:=at_ EW
 have hx:=Ef
 have hsd:∀i∈x,0≤i∧i<(d.length:Nat):=fun i hi=>by have:=hts.PX x (List.mem_of_getElem? hx) i hi;omega
 have hsw:=hts.wid x (List.mem_of_getElem? hx)
 refine ac ?_
 refine kP 3 5 6 7 9 14 16 17 18 19 20 46 47 50 51 52 57 58 59 rfl (Tr.seq (Tr.block (Tr.seq (Tr.Aj (co rfl (AD rfl underlying99 Gn (vl rfl) (vl rfl) AA (Aa hx)) ?_)))))
 refine ac ?_
 refine AA5 3 5 6 7 9 14 16 17 18 19 20 22 46 47 50 51 52 57 58 59 rfl (Tr.seq (Tr.ex 18 rfl fun x18=> ?_))
 refine ag ?_ ?_<;>intro h7 q7
 refine ac ?_
 refine cy h7 rfl (CL (KP) rfl rfl rfl) ?_
 refine ag ?_ ?_<;>intro h8 q8
 refine ac ?_
 refine cy h8 rfl (LI (ML hsd) rfl rfl rfl rfl) ?_
 refine ac ?_
 refine cy h8 rfl (AD rfl underlying22 Bw (vl rfl) (vl rfl) AA (Aa aL)) ?_
 refine ag ?_ ?_<;>intro h9 q9
 refine ac ?_
 refine cy h9 rfl (LI (Gt AA) rfl rfl rfl rfl) (cy h9 rfl (CL (aO) rfl rfl rfl) ?_)
 refine ac ?_
 refine rI 3 5 6 7 9 14 16 17 18 19 20 22 46 47 50 51 52 57 58 59 88 rfl (Tr.ex 88 rfl fun AIH=> ?_)
 · repeat' first|exact Fin.AL (m+1) ⟨EW,by omega⟩ ⟨⟨_,rfl,AG m⟩,ke rfl,ke rfl,ke rfl,ke rfl,ke rfl,ke rfl,ke rfl,ke rfl,ke rfl,ke rfl,ke rfl,ke rfl,ke rfl,ke rfl,ke rfl,ke rfl,ke rfl,ke rfl,trivial⟩|exact Fin.AL (m+1) ⟨EW,by omega⟩ ⟨⟨_,rfl,AG m⟩,⟨_,rfl,Ax _ (Lr)⟩,ke rfl,ke rfl,ke rfl,ke rfl,ke rfl,ke rfl,ke rfl,ke rfl,ke rfl,ke rfl,ke rfl,ke rfl,ke rfl,ke rfl,ke rfl,ke rfl,ke rfl,trivial⟩|refine co rfl (AR rfl (V5 hz hn hc hsw AA) ⟨ke rfl,ke rfl,ke rfl,ke rfl,ke rfl,ke rfl,ke rfl,ke rfl,trivial⟩) ?_|refine ac ?_|(refine Tr.cn rfl ?_ ?_<;>intro h q)
 refine ac ?_
 refine rI 3 5 6 7 9 14 16 17 18 19 20 22 46 47 50 51 52 57 58 59 88 rfl ?_
 refine ac ?_
 refine kP 3 5 6 7 9 14 16 17 18 19 20 46 47 50 51 52 57 58 59 rfl ?_
 refine ac ?_
 exact Fin.AL (m+1) ⟨EW,by omega⟩ ⟨⟨_,rfl,AG m⟩,⟨_,rfl,Ax _ (Lr)⟩,ke rfl,ke rfl,ke rfl,ke rfl,ke rfl,ke rfl,ke rfl,ke rfl,ke rfl,ke rfl,ke rfl,ke rfl,ke rfl,ke rfl,ke rfl,ke rfl,ke rfl,trivial⟩
 refine ac ?_
 refine rI 3 5 6 7 9 14 16 17 18 19 20 22 46 47 50 51 52 57 58 59 88 rfl ?_
 refine ac ?_
 refine kP 3 5 6 7 9 14 16 17 18 19 20 46 47 50 51 52 57 58 59 rfl ?_
 refine ac ?_
 exact Fin.AL (m+1) ⟨EW,by omega⟩ ⟨⟨_,rfl,AG m⟩,⟨_,rfl,Ax _ (Lr)⟩,ke rfl,ke rfl,ke rfl,ke rfl,ke rfl,ke rfl,ke rfl,ke rfl,ke rfl,ke rfl,ke rfl,ke rfl,ke rfl,ke rfl,ke rfl,ke rfl,ke rfl,trivial⟩
 refine ac ?_
 refine rI 3 5 6 7 9 14 16 17 18 19 20 22 46 47 50 51 52 57 58 59 88 rfl ?_
 refine ac ?_
 refine kP 3 5 6 7 9 14 16 17 18 19 20 46 47 50 51 52 57 58 59 rfl ?_
 refine ac ?_
 exact Fin.AL (m+1) ⟨EW,by omega⟩ ⟨⟨_,rfl,AG m⟩,⟨_,rfl,Ax _ (Lr)⟩,ke rfl,ke rfl,ke rfl,ke rfl,ke rfl,ke rfl,ke rfl,ke rfl,ke rfl,ke rfl,ke rfl,ke rfl,ke rfl,ke rfl,ke rfl,ke rfl,ke rfl,trivial⟩
 have KH:m=(t).length:=by have:=AJ h6;omega
 subst KH
 refine ac ?_
 refine w9 3 5 6 7 9 14 16 17 18 46 47 50 51 52 rfl ?_
 refine ac ?_
 exact Fin.AL (j+1) ⟨ADd,by omega⟩ ⟨⟨_,rfl,AG j⟩,ke rfl,ke rfl,ke rfl,ke rfl,ke rfl,ke rfl,ke rfl,ke rfl,ke rfl,ke rfl,ke rfl,ke rfl,ke rfl,trivial⟩
 have zE:j=(z2.1).length:=by have:=AJ h5;omega
 subst zE
 refine ac ?_
 refine Ip 3 5 6 7 9 14 16 17 18 46 47 rfl ?_
 refine ac ?_
 refine Tr.ex 100 rfl fun AHd=> ?_
 refine Tr.cn rfl ?_ ?_<;>intro h11 Sw
 refine ap ?_
 refine TO.Dj 0 rfl rfl AB (B8 rfl rfl rfl rfl underlying22 Bw IY z3 (Kb rfl) (Kf rfl) (A_ BO (Ka rfl))) (fun v1=> ?_)
 refine ap ?_
 refine jJ 3 5 6 7 9 14 16 46 47 rfl ?_
 refine ac ?_
 exact Fin.Bl (o++[((k:Nat):Int)]) (k+1) v1 (⟨⟨by omega,by simp;omega⟩,by omega⟩) ⟨⟨_,rfl,AG k⟩,⟨_,rfl,BE DI⟩,ke rfl,ke rfl,ke rfl,ke rfl,ke rfl,ke rfl,ke rfl,trivial⟩ (fun _ _ h=>h)
 refine a2 ?_
 exact Fin.Bl (o) (k+1) u (⟨⟨by omega,by omega⟩,by omega⟩) ⟨⟨_,rfl,AG k⟩,⟨_,rfl,BE rfl⟩,ke rfl,ke rfl,ke rfl,ke rfl,ke rfl,ke rfl,ke rfl,trivial⟩ (fun _ _ h=>h)
 have aY:=AJ h4
 refine a2 ?_
 refine Tr.ret (Fin.BZ rfl (AM.tmp rfl (Lr)) (AM.tmp rfl (Lr)) ?_)
 · exact Yi
end Go.Proofs.YtmocaapoeefgkaaGreatDoor
