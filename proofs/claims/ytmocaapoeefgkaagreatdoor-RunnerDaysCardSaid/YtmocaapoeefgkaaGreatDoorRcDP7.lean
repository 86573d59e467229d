/-
  Part 7 of the texts that prove this claim, merged.
-/
import Derived.Test.YtmocaapoeefgkaaGreatDoorRcDP6
set_option linter.all false
set_option maxRecDepth 40000
set_option maxHeartbeats 16000000
namespace Go.Proofs.YtmocaapoeefgkaaGreatDoor
open Go Go.RowKit Cp Go.Proofs.Tryz
def G8 (n:Nat) (m:Nat→Nat→Bool):List (List Bool):=(List.range n).map fun a=>(List.range n).map (m a)
theorem IC (n:Nat) (m:Nat→Nat→Bool):(G8 n m).length=n:=by unfold G8;simp
theorem Kt {n:Nat} (m:Nat→Nat→Bool) {a:Nat} (h:a<n):(G8 n m)[a]? =some ((List.range n).map (m a)):=by
 unfold G8;rw [List.getElem?_map,List.getElem?_range h];rfl
theorem Ku {n:Nat} (m:Nat→Bool) {b:Nat} (h:b<n):((List.range n).map m)[b]? =some (m b):=by
 rw [List.getElem?_map,List.getElem?_range h];rfl
theorem Th {n:Nat} {m m':Nat→Nat→Bool} (h:me n m m'):G8 n m=G8 n m':=by
 unfold G8
 refine List.map_congr_left fun a ha=>List.map_congr_left fun b hb=>h a b (List.mem_range.1 ha) (List.mem_range.1 hb)
theorem oh {n:Nat} {m:Nat→Nat→Bool} {i j:Nat} (hi:i<n) (hj:j<n):(G8 n m).set i (((List.range n).map (m i)).set j true)=G8 n (VI m i j):=by
 apply List.ext_getElem?
 intro a
 rw [List.getElem?_set]
 by_cases h:i=a
 ·
  subst h
  rw [if_pos rfl,if_pos (by rw [IC];exact hi),Kt _ hi]
  congr 1
  apply List.ext_getElem?
  intro b
  rw [List.getElem?_set]
  by_cases h2:j=b
  ·
   subst h2
   rw [if_pos rfl,if_pos F9,Ku _ hj]
   unfold VI;rw [if_pos ⟨rfl,rfl⟩]
  ·
   rw [if_neg h2]
   rcases Nat.lt_or_ge b n with hb|hb
   · rw [Ku _ hb,Ku _ hb];unfold VI;rw [if_neg (fun h3=>h2 h3.2.symm)]
   · rw [List.getElem?_eq_none FT,List.getElem?_eq_none FT]
 ·
  rw [if_neg h]
  rcases Nat.lt_or_ge a n with ha|ha
  ·
   rw [Kt _ ha,Kt _ ha]
   congr 1
   refine List.map_congr_left fun b _=> ?_
   unfold VI;rw [if_neg (fun h3=>h h3.1.symm)]
  · rw [List.getElem?_eq_none (by rw [IC];exact ha),List.getElem?_eq_none (by rw [IC];exact ha)]
theorem Zm {l:List BK} {q:Nat} {r:BK} (h:l[q]? =some r) (h0:0≤r.fst) (h1:0≤r.thn):GQ (l.take (q+1))=VI (GQ (l.take q)) r.fst.toNat r.thn.toNat:=by
 funext a b
 have e:l.take (q+1)=l.take q++[r]:=by rw [List.take_add_one,h];rfl
 unfold GQ VI
 rw [e,List.any_append]
 by_cases hc:a=r.fst.toNat∧b=r.thn.toNat
 ·
  have h2:([r].any fun r=>decide (r.fst=(a:Int))&&decide (r.thn=(b:Int)))=true:=by simp;omega
  rw [if_pos hc,h2,Bool.or_true]
 ·
  have h2:([r].any fun r=>decide (r.fst=(a:Int))&&decide (r.thn=(b:Int)))=false:=by simp;omega
  rw [if_neg hc,h2,Bool.or_false]
theorem ga (n:Nat) (l:List BK):G8 n (GQ (l.take 0))=List.replicate n (List.replicate n false):=by
 unfold G8 GQ
 rw [List.eq_replicate_iff]
 refine ⟨by simp,fun b hb=> ?_⟩
 obtain ⟨a,_,rfl⟩:=List.mem_map.1 hb
 rw [List.eq_replicate_iff]
 refine ⟨by simp,fun c hc=> ?_⟩
 obtain ⟨d,_,rfl⟩:=List.mem_map.1 hc
 simp
abbrev slv (n:Nat) (x:Nat×List Bool):Value:=JQ n x.1
abbrev AGK (n:Nat) (m:Nat→Nat→Bool):Pr:=slice 1 ((G8 n m).map fun row=>[slice 1 (row.map fun b=>[bool b])])
theorem Nx {n:Nat} {m:Nat→Nat→Bool} {X:List (Nat×List Bool)} {a:Nat} {x:Nat×List Bool} (hX:X.map (·.2)=G8 n m) (hx:X[a]? =some x) (ha:a<n):x.2=(List.range n).map (m a):=by
 have h:=congrArg (fun l=>l[a]?) hX
 simp only [List.getElem?_map,hx,Option.map_some] at h
 rw [Kt m ha] at h
 simpa using h
theorem dU {n:Nat} {m:Nat→Nat→Bool} {X:List (Nat×List Bool)} {i j:Nat} {x:Nat×List Bool} (hX:X.map (·.2)=G8 n m) (hx:X[i]? =some x) (hi:i<n) (hj:j<n):(X.set i (x.1,x.2.set j true)).map (·.2)=G8 n (VI m i j):=by
 rw [List.map_set,hX,Nx hX hx hi];exact oh hi hj
theorem dV {e:TypeId} {X:List (Nat×List Bool)} {k:Nat} {x:Nat×List Bool} (h:X[k]? =some x):(G_ (G7 e) X)[k]? =some (AF true x.1 e (x.2.map fun b=>bool b)):=dJ (f:=fun x:Nat×List Bool=>AF true x.1 e (x.2.map fun b=>bool b)) h
theorem om {n:Nat} {m:Nat→Nat→Bool} {X:List (Nat×List Bool)} {a c:Nat} {x:Nat×List Bool} (hX:X.map (·.2)=G8 n m) (hx:X[a]? =some x) {v:Bool} (ha:a<n) (hc:c<n) (hv:m a c=v):(x.2.map fun b=>bool b)[0+c*1]? =some (bool v):=by
 subst hv
 rw [Nx hX hx ha,Nat.zero_add,Nat.mul_one,List.getElem?_map,Ku _ hc];rfl
theorem oo {n:Nat} {m:Nat→Nat→Bool} {X:List (Nat×List Bool)} (hX:X.map (·.2)=G8 n m):∀x∈X,x.2.length=n:=fun x hx=>by
 obtain ⟨i,hi⟩:=List.mem_iff_getElem?.1 hx
 have hl:i<n:=by
  have h:=congrArg List.length hX
  rw [List.length_map,IC] at h
  rcases Nat.lt_or_ge i X.length with h'|h'
  · omega
  · rw [List.getElem?_eq_none h'] at hi;cases hi
 rw [Nx hX hi hl,List.length_map,List.length_range]
theorem oq {n:Nat} {m:Nat→Nat→Bool} {X:List (Nat×List Bool)} (hX:X.map (·.2)=G8 n m):(X.map fun x=>[slice 1 (x.2.map fun b=>[bool b])])=(G8 n m).map fun row=>[slice 1 (row.map fun b=>[bool b])]:=by rw [←hX,List.map_map];rfl
theorem dW {l:List Bool} {j:Nat} (h:j<l.length):List.take (0+j*1) (l.map fun b=>bool b)++[is (Value.bool true)]++List.drop (0+j*1+1) (l.map fun b=>bool b)=(l.set j true).map fun b=>bool b:=by
 rw [List.map_set,List.set_eq_take_append_cons_drop,if_pos Dn];simp
theorem Rl {X:List (Nat×List Bool)} {bs:List Nat} {i:Nat} {x:Nat×List Bool} (h:X.map (·.1)=bs) (hx:X[i]? =some x):bs[i]? =some x.1:=by rw [←h,List.getElem?_map,hx];rfl
theorem dX {X:List (Nat×List Bool)} {bs:List Nat} {i:Nat} {x:Nat×List Bool} {r:List Bool} (h:X.map (·.1)=bs) (hx:X[i]? =some x):(X.set i (x.1,r)).map (·.1)=bs:=by
 have hb:=Rl h hx
 rw [List.map_set,h]
 apply List.ext_getElem?
 intro k
 rw [List.getElem?_set]
 split
 · rename_i e;subst e;rw [if_pos (by rcases Nat.lt_or_ge i bs.length with h'|h';exact h';rw [List.getElem?_eq_none h'] at hb;cases hb),hb]
 · rfl
theorem Ti {n:Nat} {l:List BK} (hn:n≤24) (hl:l.length≤1000000) (hr:∀r∈l,(0≤r.fst∧r.fst<(n:Nat))∧0≤r.thn∧r.thn<(n:Nat)):BD prog 116 [int ((n:Nat):Int),reqs l] (AGK n (C_ l n)):=by
 refine fo func116 rfl ⟨rfl,rfl⟩ fun M0 w0=> ?_
 refine a3 ?_
 refine Tr.block (Tr.B6 160 1 (Tr.C9 _ (kk [11,1,0] rfl) (fun (X:List (Nat×List Bool)) (k:Nat) u=>[(12,int ((k:Nat):Int)),(5,Ab u (slice 1 (X.map fun x=>[is (slv n x)])))]) (fun (X:List (Nat×List Bool)) (k:Nat) u=>Hp M0 w0 FO (As 160 1 u::G_ (G7 4) X)) (fun (X:List (Nat×List Bool)) (k:Nat)=>(k≤n∧X.length=k)∧X.map (·.2)=List.replicate k (List.replicate n false)) (fun (X:List (Nat×List Bool)) (k:Nat)=>n-k) ([]) (0) (.slice none 0 0) (⟨⟨Nat.zero_le _,rfl⟩,rfl⟩) ⟨kq,⟨_,rfl,Bl rfl⟩,trivial⟩ (fun _ _ h=>h) ?_))
 rintro X k u ⟨⟨hkn,hXl⟩,hX⟩
 refine ac ?_
 refine Tr.seq ?_
 refine Tr.cn rfl ?_ ?_<;>intro h1 q1
 have hk:k<n:=AH h1
 refine ac ?_
 refine ao ?_
 refine TO.Ub rfl rfl AB rfl underlying160 Vs by4 z4 rfl vq vq Fu AA (fun b1=> ?_)
 refine tp rfl (AM (xs:=[.tmp 16]) (rows:=[[is (JQ n b1)]]) rfl rfl underlying158 OC z160 rfl AB ⟨⟨Am,VL.le vq (Af _)⟩,trivial⟩ AB) ?_
 refine TO.DQ 1 rfl rfl AB (B1 rfl rfl rfl rfl underlying158 OC AA6 z160 HA GG (Ax BN Ja)) (fun v1=> ?_)
 refine ao ?_
 refine ac ?_
 refine Fin.eqC 0 ((List.replicate n false).map fun b=>bool b) rfl nq (Fin.fold (res:=G7 4) [_] (b1,List.replicate n false) rfl ?_)
 exact Fin.Bi (X++[(b1,List.replicate n false)]) (k+1) v1 (⟨⟨⟨by omega,by simp;omega⟩,by rw [List.map_append,hX,List.replicate_succ'];rfl⟩,by omega⟩) ⟨⟨_,rfl,AG k⟩,⟨_,rfl,BC DI⟩,kz⟩ (fun _ _ h=>h)
 have hk:=AJ h1
 refine a2 ?_
 refine Tr.block ?_
 obtain ⟨bs,hbs⟩:∃bs,X.map (·.1)=bs:=⟨_,rfl⟩
 refine Tr.re 5 rfl (Pr.le_trans (Aq _ _) (Pr.le_of_eq (show _=slice 1 (bs.map fun b=>[is (JQ n b)]) by rw [←hbs,List.map_map];rfl))) ?_
 refine Tr.drop 0 (Tr.Cr _ (kk [21,20,5,0] rfl) (fun (X1:List (Nat×List Bool)) (q:Nat)=>[(22,int ((q:Nat):Int))]) (fun (X1:List (Nat×List Bool)) (q:Nat)=>Hp M0 w0 FO (G_ (G7 4) X1)) (fun (X1:List (Nat×List Bool)) (q:Nat)=>q≤l.length∧(X1.map (·.1)=bs∧X1.map (·.2)=G8 n (GQ (l.take q)))) (fun (X1:List (Nat×List Bool)) (q:Nat)=>l.length-q) (X) (0)  (⟨Nat.zero_le _,hbs,by rw [hX,ga,show k=n by omega]⟩) kz (fun _ _ h=>h) ?_)
 rintro X1 q  ⟨hq0,M9,hX1⟩
 refine ac ?_
 refine Tr.seq ?_
 refine Tr.cn rfl ?_ ?_<;>intro h2 q2
 have hq:q<l.length:=AH h2
 obtain ⟨r,hrq⟩:=at_ hq
 have gb:=hr r (List.mem_of_getElem? hrq)
 have AHb:X1.length=n:=by have:=congrArg List.length hX1;rw [List.length_map,IC] at this;exact this
 obtain ⟨x,hx⟩:=at_ (l:=X1) (k:=r.fst.toNat) AA
 have hxl:x.2.length=n:=by rw [Nx hX1 hx AA,List.length_map,List.length_range]
 refine ac ?_
 refine Tr.seq (Tr.block (Tr.seq (Tr.Ap (tp rfl (AD rfl underlying33 Cf vq vq AA (Aa hrq)) (tp rfl (AQ rfl FH Cf vq rfl rfl) ?_)))))
 refine Tl rfl rfl rfl rfl Qd Oi (fun b2=> ?_)
 refine sf 0 7 ⟨rfl,rfl,rfl⟩ rfl rfl rfl rfl ?_
 refine ao ?_
 refine Tr.focus [] hx rfl (Tr.rx ?_)
 refine ay ?_
 refine xo rfl (fun _=>AD rfl underlying158 OC vq vq AA (Bc (Rl M9 hx))) ?_
 refine ay ?_
 refine xo rfl (fun _=>BG rfl underlying160 Vs vq vq AA AA) ?_
 refine Cx.Dv 0 rfl rfl (A9 rfl rfl vq OJ Vs rfl EE rfl) ?_
 refine Cx.nil ⟨by kernel_rfl,?_⟩
 refine BO.done al1 ?_
 refine ac ?_
 refine wk [22,21,20,5,0] rfl ?_
 refine ac ?_
 refine Fin.eqC 0 ((x.2.set r.thn.toNat true).map fun b=>bool b) rfl (dW AA) (Fin.Ut (res:=G7 4) [] (x.1,x.2.set r.thn.toNat true) (show r.fst.toNat<X1.length by omega) rfl ?_)
 exact Fin.Co (X1.set r.fst.toNat (x.1,x.2.set r.thn.toNat true)) (q+1)  (⟨⟨by omega,dX M9 hx,by rw [Zm hrq gb.1.1 gb.2.1];exact dU hX1 hx AA AA⟩,by omega⟩) ⟨⟨_,rfl,AG q⟩,kz⟩ (fun _ _ h=>h)
 have hq:=AJ h2
 refine a2 ?_
 refine Tr.block ?_
 refine Tr.Cr _ (kk [35,5,0] rfl) (fun (X2:List (Nat×List Bool)) (k2:Nat)=>[(36,int ((k2:Nat):Int))]) (fun (X2:List (Nat×List Bool)) (k2:Nat)=>Hp M0 w0 FO (G_ (G7 4) X2)) (fun (X2:List (Nat×List Bool)) (k2:Nat)=>k2≤n∧(X2.map (·.1)=bs∧X2.map (·.2)=G8 n (C_ l k2))) (fun (X2:List (Nat×List Bool)) (k2:Nat)=>n-k2) (X1) (0)  (⟨Nat.zero_le _,M9,by rw [hX1,List.take_of_length_le hq];rfl⟩) kz (fun _ _ h=>h) ?_
 rintro X2 k2  ⟨hk2,R3,hX2⟩
 refine ac ?_
 refine Tr.seq ?_
 refine Tr.cn rfl ?_ ?_<;>intro h3 q3
 have AHc:k2<n:=AH h3
 refine a3 ?_
 refine Tr.block ?_
 refine Tr.Cr _ (kk [39,36,35,8,5,0] rfl) (fun (X3:List (Nat×List Bool)) (i:Nat)=>[(40,int ((i:Nat):Int))]) (fun (X3:List (Nat×List Bool)) (i:Nat)=>Hp M0 w0 FO (G_ (G7 4) X3)) (fun (X3:List (Nat×List Bool)) (i:Nat)=>i≤n∧(X3.map (·.1)=bs∧X3.map (·.2)=G8 n (Iu k2 (C_ l k2) i 0))) (fun (X3:List (Nat×List Bool)) (i:Nat)=>n-i) (X2) (0)  (⟨Nat.zero_le _,R3,by rw [ACs];exact hX2⟩) kz (fun _ _ h=>h) ?_
 rintro X3 i  ⟨hi0,hb3,hX3⟩
 refine ac ?_
 refine Tr.seq ?_
 refine Tr.cn rfl ?_ ?_<;>intro h4 q4
 have Fg:i<n:=AH h4
 refine a3 ?_
 refine Tr.block (Tr.Cr _ (kk [43,40,39,36,35,9,8,5,0] rfl) (fun (X4:List (Nat×List Bool)) (j:Nat)=>[(44,int ((j:Nat):Int))]) (fun (X4:List (Nat×List Bool)) (j:Nat)=>Hp M0 w0 FO (G_ (G7 4) X4)) (fun (X4:List (Nat×List Bool)) (j:Nat)=>j≤n∧(X4.map (·.1)=bs∧X4.map (·.2)=G8 n (Iu k2 (C_ l k2) i j))) (fun (X4:List (Nat×List Bool)) (j:Nat)=>n-j) (X3) (0)  (⟨Nat.zero_le _,hb3,hX3⟩) kz (fun _ _ h=>h) ?_)
 rintro X4 j  ⟨hj0,hb4,hX4⟩
 refine ac ?_
 refine Tr.seq ?_
 refine Tr.cn rfl ?_ ?_<;>intro h5 q5
 have hjl:j<n:=AH h5
 have AHd:X4.length=n:=by have:=congrArg List.length hX4;rw [List.length_map,IC] at this;exact this
 obtain ⟨xi,hxi⟩:=at_ (l:=X4) (k:=i) AA
 obtain ⟨xk,hxk⟩:=at_ (l:=X4) (k:=k2) AA
 have AHe:xi.2.length=n:=by rw [Nx hX4 hxi AA,List.length_map,List.length_range]
 have AHf:xk.2.length=n:=by rw [Nx hX4 hxk AA,List.length_map,List.length_range]
 refine a3 ?_
 refine co rfl (AD rfl underlying158 OC vq vq AA (Aa (Rl hb4 hxi))) ?_
 refine ac ?_
 refine co rfl (BG rfl underlying160 Vs vq vq AA AA) ?_
 refine co rfl (Cw i (dV hxi) (BE rfl eY vq (om (c:=k2) hX4 hxi AA AA (tQ k2 (C_ l k2) i j i)))) ?_
 refine cm rfl ?_
 refine Ch.cs 54 rfl ?_ ?_<;>intro h6 q6
 refine ac ?_
 refine cy h6 rfl (AD rfl underlying158 OC vq vq AA (Aa (Rl hb4 hxk))) ?_
 refine ac ?_
 refine cy h6 rfl (BG rfl underlying160 Vs vq vq AA AA) ?_
 refine cy h6 rfl (Cw k2 (dV hxk) (BE rfl eY vq (om (c:=j) hX4 hxk AA AA (tR k2 (C_ l k2) i j j)))) ?_
 refine ac ?_
 refine wk [62,44,43,40,39,36,35,10,9,8,5,0] rfl ?_
 refine Tr.cn rfl ?_ ?_<;>intro h7 q7
 refine Tr.focus [] hxi rfl ?_
 refine ao ?_
 refine tp rfl (AD rfl underlying158 OC vq vq AA (Aa (Rl hb4 hxi))) ?_
 refine ao ?_
 refine tp rfl (BG rfl underlying160 Vs vq vq AA AA) ?_
 refine TO.Dv 0 rfl rfl (A9 rfl rfl vq OJ Vs rfl EE rfl) ?_
 refine ao ?_
 refine wk [44,43,40,39,36,35,9,8,5,0] rfl ?_
 refine ac ?_
 refine Fin.eqC 0 ((xi.2.set j true).map fun b=>bool b) rfl (dW AA) (Fin.Ut (res:=G7 4) [] (xi.1,xi.2.set j true) (show i<X4.length by omega) rfl ?_)
 exact Fin.Co (X4.set i (xi.1,xi.2.set j true)) (j+1)  (⟨⟨by omega,dX hb4 hxi,(by rw [←tS Bg Bg];exact dU hX4 hxi AA AA)⟩,by omega⟩) ⟨⟨_,rfl,AG j⟩,kz⟩ (fun _ _ h=>h)
 refine a2 ?_
 exact Fin.Co (X4) (j+1)  (⟨⟨by omega,hb4,(by rw [←mZ CG];exact hX4)⟩,by omega⟩) ⟨⟨_,rfl,AG j⟩,kz⟩ (fun _ _ h=>h)
 refine ac ?_
 refine wk [62,44,43,40,39,36,35,10,9,8,5,0] rfl ?_
 refine a2 ?_
 exact Fin.Co (X4) (j+1)  (⟨⟨by omega,hb4,(by rw [←mZ CG];exact hX4)⟩,by omega⟩) ⟨⟨_,rfl,AG j⟩,kz⟩ (fun _ _ h=>h)
 have hje:=AJ h5
 refine a2 ?_
 exact Fin.Co (X4) (i+1)  (⟨⟨by omega,hb4,by rw [hX4,show j=n by omega];exact Th mg⟩,by omega⟩) ⟨⟨_,rfl,AG i⟩,kz⟩ (fun _ _ h=>h)
 have hie:=AJ h4
 refine a2 ?_
 exact Fin.Co (X3) (k2+1)  (⟨⟨by omega,hb3,by rw [hX3,show i=n by omega];exact Th tT⟩,by omega⟩) ⟨⟨_,rfl,AG k2⟩,kz⟩ (fun _ _ h=>h)
 have AHg:=AJ h3
 refine ac ?_
 refine Tr.seq ?_
 have AGL:k2=n:=by omega
 refine Tr.uH (m:=n) (X:=X2) [] 5 rfl Fu (oo hX2) rfl (Pr.le_of_eq (by rw [←R3,List.map_map];rfl)) ?_
 refine Tr.drop 0 ?_
 refine a2 ?_
 · subst AGL;exact Pr.le_of_eq (congrArg (slice 1) (oq hX2))
theorem Zn {n:Int} {l:List BK} (hl:l.length≤1000000):BD prog 144 [int n,reqs l] (int (BH n l)):=by
 refine fo func144 rfl ⟨rfl,rfl⟩ fun M0 w0=>(Tr.C6 1 rfl fun G2=> ?_)
 refine ac ?_
 refine ag ?_ ?_<;>intro h1 q1
 refine a3 ?_
 · exact int_eq (Kq AA).symm
 refine an ?_ ?_<;>intro h2 q2
 refine a2 ?_
 · exact int_eq (Kq AA).symm
 obtain ⟨N,rfl⟩:∃N:Nat,n=(N:Int):=⟨n.toNat,by omega⟩
 refine a2 ?_
 refine Tr.block (Tr.BA _ (kk [17,16,1,0] rfl) (fun k:Nat=>[(18,int ((k:Nat):Int))]) (fun k:Nat=>k≤(l).length∧(∀j y,j<k→l[j]? =some y→FC N y=false)) (fun k:Nat=>(l).length-k) 0 (⟨Nat.zero_le _,fun j y hj=>absurd hj AA⟩) kz ?_)
 rintro k ⟨BV,AY⟩
 refine ac ?_
 refine Tr.seq ?_
 refine Tr.cn rfl ?_ ?_<;>intro h3 q3
 have Ah:k<(l).length:=AH h3
 obtain ⟨r,Ai⟩:=at_ Ah
 refine ac ?_
 refine Tr.seq (Tr.block (Tr.seq (Tr.Ap (tp rfl (AD rfl underlying33 Cf vq vq AA (Aa Ai)) (tp rfl (AQ rfl FH Cf vq rfl rfl) ?_)))))
 refine Tl rfl rfl rfl rfl Qd Oi (fun b1=> ?_)
 refine sf 0 6 ⟨rfl,rfl,rfl⟩ rfl rfl rfl rfl ?_
 refine ao ?_
 · repeat' first|(exact int_eq (P6 AA Ai wL).symm)|(exact Fin.AL (k+1) ⟨⟨Ah,DP (p:=FC N) Ai av AY⟩,by omega⟩ ⟨⟨_,rfl,AG k⟩,kz⟩)|refine ac ?_|(refine Tr.cn rfl ?_ ?_<;>intro h q)|(refine Ch.cg rfl rfl rfl ?_ ?_<;>intro h q)
 have BP:k=(l).length:=by have:=AJ h3;omega
 subst BP
 have hbs:=dG AY
 have gb:∀r∈l,(0≤r.fst∧r.fst<(N:Nat))∧0≤r.thn∧r.thn<(N:Nat):=fun r hr=>by
  have h_:=hbs r hr
  unfold FC at h_;rw [decide_eq_false_iff_not] at h_;omega
 refine a2 ?_
 refine Tr.block (Tr.MQ _ (kk [1,0] rfl) (fun (i:Nat)=>[(7,int ((i:Nat):Int))]) (fun (i:Nat)=>Hp M0 w0 FO ([])) (fun (i:Nat)=>(1≤i∧(i≤l.length∨i=1))∧∀(j:Nat) a b,j+1<i→l[j]? =some a→l[j+1]? =some b→En a b=true) (fun (i:Nat)=>l.length-i) (1)  (⟨⟨by omega,.inr rfl⟩,fun j a b hj=>absurd hj AA⟩) kz (fun _ _ h=>h) ?_)
 rintro i  ⟨⟨hi1,hi2⟩,hso⟩
 refine an ?_ ?_<;>intro h9 q9
 have Fg:i<l.length:=AH h9
 obtain ⟨x,hx⟩:=at_ Fg
 obtain ⟨y,hy⟩:=at_ (l:=l) (k:=i-1) AA
 · repeat' first|exact int_eq (VQ AA hbs AA hy hx CG).symm|(exact Fin.MR (i+1)  (⟨⟨⟨by omega,.inl AA⟩,KB hx (fun z _ hz=>by rw [hy] at hz;cases hz;simp_all) hso⟩,by omega⟩) ⟨⟨_,rfl,AG i⟩,kz⟩ (fun _ _ h=>h))|(refine co rfl (AD rfl underlying33 Cf vq vq AA aU) ?_)|refine co rfl (AD rfl underlying33 Cf vq vq AA (Aa hx)) (co rfl (AQ rfl FH Cf vq rfl rfl) (co rfl (CK (TQ) rfl rfl rfl) ?_))|refine ac ?_|(refine Tr.cn rfl ?_ ?_<;>intro h q)
 have hie:=AJ h9
 have hsr:Dy l=true:=Ra fun j a b hj=>hso j a b AA
 refine a2 ?_
 refine co rfl (CK (Ti (n:=N) (l:=l) AA hl gb) rfl rfl rfl) ?_
 refine a2 ?_
 refine Tr.block (Tr.MQ _ (kk [70,8] rfl) (fun (m:Nat)=>[(71,int ((m:Nat):Int))]) (fun (m:Nat)=>Hp M0 w0 FO ([])) (fun (m:Nat)=>m≤N∧∀i,i<m→C_ l N i i=false) (fun (m:Nat)=>N-m) (0)  (⟨Nat.zero_le _,fun i hi=>absurd hi AA⟩) kz (fun _ _ h=>h) ?_)
 rintro m  ⟨hm0,hwn⟩
 refine ac ?_
 refine Tr.seq ?_
 refine Tr.cn rfl ?_ ?_<;>intro h11 SK
 have hm:m<N:=AH h11
 · repeat' first|exact int_eq (RZ AA hbs hsr hm Bg).symm|(exact Fin.MR (m+1)  (⟨⟨by omega,fun i hi=>by rcases Nat.lt_or_eq_of_le (Nat.le_of_lt_succ hi) with h_|h_;exact hwn i h_;(subst h_;assumption)⟩,by omega⟩) ⟨⟨_,rfl,AG m⟩,kz⟩ (fun _ _ h=>h))|refine co rfl (AD rfl underlying158 OC vq vq AA (Aa (Kt _ hm))) ?_|refine co rfl (AD rfl underlying160 Vs vq vq AA (Aa (Ku _ hm))) ?_|refine ac ?_|(refine Tr.cn rfl ?_ ?_<;>intro h q)
 have hme:=AJ h11
 refine a3 ?_
 · exact int_eq (VR AA hbs hsr fun i hi=>hwn i AA).symm
theorem I4 {n:Int} {l:List BK} (hl:l.length≤1000000):BD prog 81 [int n,reqs l] (int (BH n l)):=by
 refine fo func81 rfl ⟨rfl,rfl⟩ fun M0 w0=> ?_
 refine a2 ?_
 refine co rfl (CK (Zn hl) rfl rfl rfl) ?_
 refine a2 ?_
 · exact Lr
theorem Ny {a b:List Int} (hab:a.length≤b.length):BD prog 298 [ints a,ints b] (EJ):=by
 refine fo func298 rfl ⟨rfl,rfl⟩ fun M0 w0=>(Tr.C6 0 rfl fun Eu=>(Tr.C6 1 rfl fun G2=> ?_))
 refine a2 ?_
 refine Tr.block (Tr.BA _ (kk [7,1,0] rfl) (fun k:Nat=>[(8,int ((k:Nat):Int))]) (fun k:Nat=>k≤(a).length) (fun k:Nat=>(a).length-k) 0 (Nat.zero_le _) kz ?_)
 rintro k BV
 refine ac ?_
 refine Tr.seq ?_
 refine Tr.cn rfl ?_ ?_<;>intro h1 q1
 have Ah:k<(a).length:=AH h1
 obtain ⟨x,Ai⟩:=at_ Ah
 obtain ⟨y,hy⟩:=at_ (l:=b) (k:=k) AA
 · repeat' first|exact Aw _ Lr|exact Fin.AL (k+1) ⟨Ah,by omega⟩ ⟨⟨_,rfl,AG k⟩,kz⟩|refine co rfl (AD rfl underlying51 Bt vq vq AA (Aa Ai)) ?_|refine co rfl (AD rfl underlying51 Bt vq vq AA (Aa hy)) ?_|refine ac ?_|(refine Tr.cn rfl ?_ ?_<;>intro h q)
 have BP:k=(a).length:=by have:=AJ h1;omega
 refine a3 ?_
 · exact BJ
theorem Tj {a b:List Int}  :BD prog 281 [ints a,ints b] (EJ):=by
 refine fo func281 rfl ⟨rfl,rfl⟩ fun M0 w0=>(Tr.C6 0 rfl fun Eu=>(Tr.C6 1 rfl fun G2=> ?_))
 refine ac ?_
 refine ap ?_
 refine TO.cases 10 rfl (fun h1=> ?_) (fun h1=> ?_)
 have q1:=C3.DZ h1
 refine TO.Fh rfl rfl rfl h1 rfl AB (BM rfl vq) (TO.Fh rfl rfl rfl h1 rfl AB (BM rfl vq) (TO.Fh rfl rfl rfl h1 rfl AB (CK (Ny AA) rfl rfl rfl) (TO.ex 13 rfl fun z13=>(TO.Fh rfl rfl rfl h1 rfl AB (HW rfl vq) ?_))))
 refine ap ?_
 refine TO.cases 16 rfl (fun h2=> ?_) (fun h2=> ?_)
 have q2:=C3.DZ h2
 refine TO.Fh rfl rfl rfl h2 rfl AB (BM rfl vq) (TO.Fh rfl rfl rfl h2 rfl AB (BM rfl vq) (TO.Fh rfl rfl rfl h2 rfl AB (CK (Ny AA) rfl rfl rfl) (TO.ex 19 rfl fun z19=>(TO.Fh rfl rfl rfl h2 rfl AB (HW rfl vq) ?_))))
 refine ap ?_
 refine wk [4] rfl ?_
 refine ac ?_
 · exact BJ
 have q2:=C3.DZ h2
 iterate 4 refine TO.OI rfl rfl rfl (Bf h2) rfl AB ?_
 refine ap ?_
 refine wk [4] rfl ?_
 refine ac ?_
 · exact BJ
 have q1:=C3.DZ h1
 iterate 4 refine TO.OI rfl rfl rfl (Bf h1) rfl AB ?_
 refine ap ?_
 iterate 4 refine TO.OI rfl rfl rfl (Bf rfl) rfl AB ?_
 refine ap ?_
 refine wk [4] rfl ?_
 refine ac ?_
 · exact BJ
theorem Vb {a b:List Int}  :BD prog 252 [ints a,ints b] (EJ):=by
 refine fo func252 rfl ⟨rfl,rfl⟩ fun M0 w0=> ?_
 refine a2 ?_
 refine co rfl (CK (Tj) rfl rfl rfl) ?_
 refine a2 ?_
 · exact Lr
abbrev sets (l:List (List Int)):Pr:=slice 1 (l.map fun s=>[ints s])
structure uP (l:List (List Int)) (s:List Int) (z:List (List Int)):Prop where
 mem:∀x∈z,x∈l∨x=s
 le:z.length≤l.length+1
 ge:l.length≤z.length
theorem qO {l:List (List Int)} {s:List Int} {k:Nat} (hk:k≤l.length):uP l s (l.take k++[s]++l.drop k):=by
 refine ⟨fun x hx=> ?_,by simp;omega,by simp;omega⟩
 simp only [List.mem_append,List.mem_singleton] at hx
 rcases hx with (hx|hx)|hx
 · exact .inl (List.mem_of_mem_take hx)
 · exact .inr hx
 · exact .inl (List.mem_of_mem_drop hx)
theorem uQ {lo hi:Nat} (h:lo+hi≤1000000):IntKind.i64.wrap (((lo:Int)+(hi:Int)).tdiv 2)=(((lo+hi)/2:Nat):Int):=by
 rw [Int.tdiv_eq_ediv_of_nonneg AA,Gd IJ];omega
theorem uR {l:List (List Int)} {s:List Int}:uP l s l:=⟨fun x hx=> .inl hx,by omega,by omega⟩
theorem ot {l:List (List Int)} {s:List Int} (hl:l.length≤100000) (hs:∀x∈l,x.length=s.length):BD prog 297 [sets l,ints s] (Cp.ex fun z:List (List Int)=>fact (uP l s z) (sets z)):=by
 refine fo func297 rfl ⟨rfl,rfl⟩ fun M0 w0=>(Tr.C6 0 rfl fun Eu=> ?_)
 have hml:(l.map fun s=>[ints s]).length=l.length:=List.length_map _
 refine a2 ?_
 refine Tr.seq (Tr.block (Tr.Cr _ (kk [1,0] rfl) (fun (lo:Nat) (hi:Nat)=>[(5,int ((lo:Nat):Int)),(6,int ((hi:Nat):Int))]) (fun (lo:Nat) (hi:Nat)=>Hp M0 w0 FO ([])) (fun (lo:Nat) (hi:Nat)=>lo≤hi∧hi≤l.length) (fun (lo:Nat) (hi:Nat)=>hi-lo) (0) (l.length)  (⟨Nat.zero_le _,Nat.le_refl _⟩) ⟨kq,kz⟩ (fun _ _ h=>h) ?_))
 rintro lo hi  ⟨hlh,hhl⟩
 refine an ?_ ?_<;>intro h1 q1
 have hlt:lo<hi:=AH h1
 obtain ⟨x,hx⟩:=at_ (l:=l) (k:=(lo+hi)/2) AA
 have hxs:=hs x (List.mem_of_getElem? hx)
 refine a2 ?_
 refine co rfl (Tw rfl vq vq AA) ?_
 refine ac ?_
 refine Tr.seq (Tr.re 7 rfl (int_eq (uQ AA)) ?_)
 refine ac ?_
 refine co rfl (AD rfl underlying99 Gf vq vq AA (Aa hx)) ?_
 refine ac ?_
 refine co rfl (CK (Ny AA) rfl rfl rfl) ?_
 refine ac ?_
 refine wk [23,7,6,5,1,0] rfl (Tr.ex 23 rfl fun AHh=> ?_)
 refine Tr.cn rfl ?_ ?_<;>intro h2 q2
 refine ac ?_
 exact Fin.Co (((lo+hi)/2+1)) (hi)  (⟨⟨by omega,by omega⟩,by omega⟩) ⟨kq,kz⟩ (fun _ _ h=>h)
 refine ac ?_
 exact Fin.Co (lo) (((lo+hi)/2))  (⟨⟨by omega,by omega⟩,by omega⟩) ⟨kq,kz⟩ (fun _ _ h=>h)
 have hge:=AJ h1
 refine ac ?_
 refine ap ?_
 refine TO.cases 31 rfl (fun h3=> ?_) (fun h3=> ?_)
 have q3:=C3.DZ h3
 obtain ⟨x2,hx2⟩:=at_ (l:=l) (k:=lo) AA
 refine TO.Fh rfl rfl rfl h3 rfl AB (BM rfl vq) (TO.Fh rfl rfl rfl h3 rfl AB (BM rfl vq) (TO.Fh rfl rfl rfl h3 rfl AB (AD rfl underlying99 Gf vq vq AA (Aa hx2)) (TO.Fh rfl rfl rfl h3 rfl AB (GU rfl bU rfl) (TO.Fh rfl rfl rfl h3 rfl AB (BM rfl vq) (TO.Fh rfl rfl rfl h3 rfl AB (CK (Tj) rfl rfl rfl) (TO.ex 37 rfl fun z37=> ?_))))))
 refine ap ?_
 refine wk [38,5,1,0] rfl ?_
 refine Tr.cn rfl ?_ ?_<;>intro h4 q4
 refine a2 ?_
 · exact Aw _ (A7 uR Lr)
 refine ac ?_
 refine ap ?_
 refine tp rfl (DM rfl underlying99 Gf vq vq AA AA) (TO.pad ?_)
 refine TO.DQ 0 rfl rfl AB (D3 rfl rfl AB rfl underlying99 Gf WL z51 rfl AB ⟨_,rfl,AP _⟩ vq IF IG (Bq BN ⟨_,rfl,C8 1⟩)) (fun v1=> ?_)
 refine ap ?_
 refine ap ?_
 refine TO.DQ 0 rfl rfl AB (B1 rfl rfl rfl rfl underlying99 Gf WL z51 HA GG (Ax BN Ja)) (fun v2=> ?_)
 refine ap ?_
 refine wk [8,5,0] rfl ?_
 refine ap ?_
 refine tp rfl (DC rfl underlying99 Gf vq vq AA AA) ?_
 refine TO.DQ 0 rfl rfl AB (B1 rfl rfl rfl rfl underlying99 Gf WL z51 HA vq (Ax BN Ja)) (fun v3=> ?_)
 refine ap ?_
 refine ac ?_
 · exact jE
 have q3:=C3.DZ h3
 iterate 6 refine TO.OI rfl rfl rfl (Bf h3) rfl AB ?_
 refine ap ?_
 refine wk [38,5,1,0] rfl ?_
 refine ac ?_
 refine ap ?_
 refine tp rfl (DM rfl underlying99 Gf vq vq AA AA) (TO.pad ?_)
 refine TO.DQ 0 rfl rfl AB (D3 rfl rfl AB rfl underlying99 Gf WL z51 rfl AB ⟨_,rfl,AP _⟩ vq IF IG (Bq BN ⟨_,rfl,C8 1⟩)) (fun v4=> ?_)
 refine ap ?_
 refine ap ?_
 refine TO.DQ 0 rfl rfl AB (B1 rfl rfl rfl rfl underlying99 Gf WL z51 HA GG (Ax BN Ja)) (fun v5=> ?_)
 refine ap ?_
 refine wk [8,5,0] rfl ?_
 refine ap ?_
 refine tp rfl (DC rfl underlying99 Gf vq vq AA AA) ?_
 refine TO.DQ 0 rfl rfl AB (B1 rfl rfl rfl rfl underlying99 Gf WL z51 HA vq (Ax BN Ja)) (fun v6=> ?_)
 refine ap ?_
 refine ac ?_
 · exact jE
theorem Zo {o:List Int} (ho:o.length≤1000):BD prog 126 [ints o] (Cp.ex fun z:List BK=>fact (z.length≤o.length) (reqs z)):=by
 refine fo func126 rfl ⟨rfl,rfl⟩ fun M0 w0=>(Tr.C6 0 rfl fun Eu=> ?_)
 refine a3 ?_
 refine Tr.block (Tr.Cr _ (kk [0] rfl) (fun (z:List BK) (i:Nat)=>[(3,reqs z),(4,int ((i:Nat):Int))]) (fun (z:List BK) (i:Nat)=>Hp M0 w0 FO ([])) (fun (z:List BK) (i:Nat)=>(1≤i∧(i≤o.length∨i=1))∧z.length+1≤i) (fun (z:List BK) (i:Nat)=>o.length-i) ([]) (1)  (⟨⟨by omega,.inr rfl⟩,by simp⟩) ⟨⟨_,rfl,AP 2⟩,kz⟩ (fun _ _ h=>h) ?_)
 rintro z i  ⟨⟨hi1,hi2⟩,hzl⟩
 refine an ?_ ?_<;>intro h1 q1
 have Fg:i<o.length:=AH h1
 obtain ⟨x,hx⟩:=at_ Fg
 obtain ⟨y,hy⟩:=at_ (l:=o) (k:=i-1) AA
 refine a2 ?_
 refine co rfl (AD rfl underlying22 Bt vq vq AA aU) ?_
 refine ac ?_
 refine co rfl (AD rfl underlying22 Bt vq vq AA (Aa hx)) ?_
 refine ac ?_
 refine co rfl (CK (RN (l:=z) (r:=⟨y,x⟩) AA) rfl rfl rfl) ?_
 refine ac ?_
 refine wk [4,3,0] rfl ?_
 refine ac ?_
 exact Fin.Co ((F5 z ⟨y,x⟩)) (i+1)  (⟨⟨⟨by omega,.inl AA⟩,by have:=RM z ⟨y,x⟩;omega⟩,by omega⟩) ⟨kq,⟨_,rfl,AG i⟩,kz⟩ (fun _ _ h=>h)
 have hie:=AJ h1
 refine a3 ?_
 · exact Aw _ (A7 AA Lr)
theorem Tk (n:Nat) (l:List BK):∀k,(DO n l k).2.length≤k
 |0=>Nat.le_refl _
 |k+1=>by
  have h:=Tk n l k
  rw [DO]
  split
  · omega
  ·
   rename_i x _
   have h2:=Nl (DO n l k).2 x true
   show (Ed (DO n l k).2 x true).length≤k+1
   omega
theorem Zp {n:Int} {l:List BK} (hl:l.length≤1000000):BD prog 103 [int n,reqs l] (EA [ints (if BH n l=0 then (DO n.toNat l n.toNat).1 else []),int (BH n l)]):=by
 refine fo func103 rfl ⟨rfl,rfl⟩ fun M0 w0=> ?_
 refine a2 ?_
 refine co rfl (CK (I4 hl) rfl rfl rfl) ?_
 refine ac ?_
 refine an ?_ ?_<;>intro h1 q1
 have hv:BH n l≠0:=by simpa using h1
 refine ac ?_
 refine Tr.ret (Fin.AE (Fin.Dp rfl (Br.Dz _ _) rfl ?_ rfl ?_))
 · rw [if_neg hv];exact AP 1
 · exact Lr
 have hv:BH n l=0:=by simpa using h1
 obtain ⟨N,rfl⟩:∃N:Nat,n=(N:Int):=⟨n.toNat,by have:=(Cu hv).1;omega⟩
 have NG:=(Cu hv).1
 refine a2 ?_
 refine Tr.seq (Tr.block (Tr.B6 3 1 (Tr.WH _ (kk [1,0] rfl) (fun (k:Nat) u=>[(7,ints (DO N l k).2),(8,Ab u (ints (DO N l k).1))]) (fun (k:Nat) u=>Hp M0 w0 FO ([As 3 1 u])) (fun (k:Nat)=>k≤N) (fun (k:Nat)=>N-k) (0) (.slice none 0 0) (Nat.zero_le _) ⟨⟨_,rfl,AP 1⟩,⟨_,rfl,Bl rfl⟩,trivial⟩ (fun _ _ h=>h) ?_)))
 rintro k u hkN
 have hrow:=Iw hv k (by simpa using hkN)
 rw [Int.toNat_natCast] at hrow
 obtain ⟨gb,hrl⟩:=hrow
 have gh:(DO N l k).2.length≤100000:=Nat.le_trans (Tk N l k) AA
 refine ac ?_
 refine co rfl (CH rfl underlying51 HA) ?_
 refine an ?_ ?_<;>intro h2 q2
 have hk:k<N:=by have:=C3.DZ h2;omega
 obtain ⟨x,hx0,hst⟩:=W_ hv (k:=k) PC
 rw [Int.toNat_natCast] at hx0 hst
 have AC9:=Aa (f:=fun n:Int=>[int n]) hx0
 refine a2 ?_
 refine co rfl (iU (OS (n:=N) (l:=l) AA AA) rfl rfl rfl rfl rfl) ?_
 refine ac ?_
 refine Tr.pad (Tr.rx ?_)
 refine ay ?_
 refine xo rfl (fun _=>AD rfl underlying51 Bt vq vq AA AC9) (xo rfl (fun _=>GU rfl Cj rfl) (xo rfl (fun _=>AM (xs:=[.tmp 27]) (rows:=[[_]]) rfl rfl underlying51 Bt z3 rfl AB ⟨⟨Am,OJ⟩,trivial⟩ AB) ?_))
 refine Cx.ef 1 rfl rfl AB (B1 rfl rfl rfl rfl underlying51 Bt He z3 HA GG (Ax BN Ja)) ?_
 refine ay ?_
 refine xo rfl (fun _=>AD rfl underlying51 Bt vq vq AA AC9) (xo rfl (fun _=>GU rfl Cj rfl) (xo rfl (fun _=>K0 (Gk AA) rfl rfl rfl rfl) (Cx.ef 1 rfl rfl AB (UT rfl rfl AB rfl vq) (xm rfl ?_))))
 refine Cx.nil ⟨by kernel_rfl,?_⟩
 refine BO.open_ 1 8 rfl rfl (fun v1=> ?_)
 refine BO.done Wh (Fin.block (Fin.drop 0 ?_))
 exact Fin.bP (k+1) v1 (⟨by omega,by omega⟩) ⟨⟨_,rfl,Pr.le_of_eq (by rw [hst])⟩,⟨_,rfl,BC (by rw [hst];simp)⟩,kz⟩ (fun _ _ h=>h)
 have eH:k=N:=by have:=C3.DZ h2;omega
 refine a2 ?_
 refine Tr.ret (Fin.Dp rfl (Br.Dz _ _) rfl ?_ rfl ?_)
 · rw [if_pos hv,Int.toNat_natCast,←eH];exact Aq _ _
 · refine int_eq ?_;exact hv.symm
structure LJ (n k:Nat) (L:List (List Int)):Prop where
 RL:∀s∈L,∀x∈s,0≤x∧x<(n:Int)
 len:∀s∈L,s.length=k
theorem XS {n:Nat} {l:List BK} {s:List Int} {x:Int} (h:x∈EX n l s true):(0≤x∧x<(n:Int))∧x∉s:=by
 unfold EX at h
 obtain ⟨i,hi,rfl⟩:=List.mem_map.1 h
 obtain ⟨h1,h2⟩:=List.mem_filter.1 hi
 have h3:=List.mem_range.1 h1
 refine ⟨by omega,fun hc=> ?_⟩
 unfold K3 at h2
 rw [Bool.and_eq_true] at h2
 have:=EN.2 hc
 rw [this] at h2
 exact absurd h2.1 AB
theorem LJ.put {n k:Nat} {l:List BK} {L z:List (List Int)} {s:List Int} {x:Int} (h:LJ n (k+1) L) (hs:s.length=k∧∀y∈s,0≤y∧y<(n:Int)) (hx:x∈EX n l s true) (hp:uP L (Ed s x true) z):LJ n (k+1) z:=by
 have hb:=XS hx
 refine ⟨fun t ht=> ?_,fun t ht=> ?_⟩
 ·
  rcases hp.mem t ht with h1|rfl
  · exact h.RL t h1
  ·
   intro y hy
   rcases Cm.1 hy with rfl|hy
   · exact hb.1
   · exact hs.2 y hy
 ·
  rcases hp.mem t ht with h1|rfl
  · exact h.len t h1
  · rw [Iv hb.2,hs.1]
theorem gj {n k:Nat}:LJ n k []:=⟨fun _ h=>FR,fun _ h=>FR⟩
theorem gl {n:Nat}:LJ n 0 [[]]:=⟨fun s h x hx=>(by simp at h;subst h;cases hx),fun s h=>(by simp at h;subst h;rfl)⟩
structure LK (n:Int) (L:List (List Int)):Prop where
 RL:∀s∈L,∀x∈s,0≤x∧x<n
 len:L.length≤4096
 wid:∀s∈L,s.length≤4096
theorem gm {n d:Nat} {lv ou nx:List (List Int)} (h1:LJ n (d+1) nx) (h2:LK (n:Int) ou) (h3:lv=[]∨d+1≤ou.length) (hl:ou.length+nx.length≤4096) (hy:lv≠[]):((LJ n (d+1) nx∧LK (n:Int) (ou++nx))∧(nx=[]∨d+1+1≤(ou++nx).length)∧nx.length≤4096)∧(if nx=[] then 0 else 4097-(ou++nx).length)<(if lv=[] then 0 else 4097-ou.length):=by
 have h4:(ou++nx).length=ou.length+nx.length:=List.length_append
 have h5:=h2.len
 rw [if_neg hy]
 refine ⟨⟨⟨h1,⟨fun s hs=> ?_,by omega,fun s hs=> ?_⟩⟩,?_,by omega⟩,?_⟩
 ·
  rcases List.mem_append.1 hs with hs|hs
  · exact h2.RL s hs
  · exact h1.RL s hs
 ·
  rcases List.mem_append.1 hs with hs|hs
  · exact h2.wid s hs
  · rw [h1.len s hs];rcases h3 with h3|h3;exact absurd h3 hy;omega
 ·
  cases nx with
  |nil=>exact .inl rfl
  |cons a m=>right;rcases h3 with h3|h3;exact absurd h3 hy;rw [h4,List.length_cons];omega
 ·
  cases nx with
  |nil=>rw [if_pos rfl];omega
  |cons a m=>rw [if_neg (fun h=>by cases h),h4,List.length_cons];rcases h3 with h3|h3;exact absurd h3 hy;omega
theorem gp {n:Int} {l:List BK} (hl:l.length≤1000000):BD prog 280 [int n,reqs l] (Cp.ex fun z:List (List Int)×Int=>fact (LK n z.1) (EA [sets z.1,int z.2])):=by
 refine fo func280 rfl ⟨rfl,rfl⟩ fun M0 w0=> ?_
 refine a2 ?_
 refine co rfl (CK (I4 hl) rfl rfl rfl) ?_
 refine ac ?_
 refine an ?_ ?_<;>intro h1 q1
 refine ac ?_
 refine Tr.ret (Fin.AE (Fin.Ba rfl (AO.tmp rfl Lr) (AO.tmp rfl Lr) ?_))
 · exact YI
 have hv:BH n l=0:=by simpa using h1
 obtain ⟨N,rfl⟩:∃N:Nat,n=(N:Int):=⟨n.toNat,by have:=(Cu hv).1;omega⟩
 have NG:=(Cu hv).1
 refine ac ?_
 refine Tr.seq (Tr.Aj (co rfl (AM (xs:=[.const (.slice none 0 0)]) (rows:=[[ints []]]) rfl rfl underlying99 Gf z51 rfl AB ⟨⟨Am,VL.le vq (Pr.le_trans (AP 1) (Af _))⟩,trivial⟩ AB) ?_))
 refine ac ?_
 refine Tr.seq (Tr.Aj (co rfl (AM (xs:=[.const (.slice none 0 0)]) (rows:=[[ints []]]) rfl rfl underlying99 Gf z51 rfl AB ⟨⟨Am,VL.le vq (Pr.le_trans (AP 1) (Af _))⟩,trivial⟩ AB) ?_))
 refine ac ?_
 refine Tr.seq (Tr.block (Tr.AC5 (e:=51) (rows:=[[ints []]]) 8 rfl Lr (fun v8=> ?_)))
 refine Tr.Fb _ (kk [1,0] rfl) (fun (lv:List (List Int)) (ou:List (List Int)) (d:Nat) u=>[(7,sets lv),(8,Ab u (sets ou))]) (fun (lv:List (List Int)) (ou:List (List Int)) (d:Nat) u=>Hp M0 w0 FO ([As 51 1 u])) (fun (lv:List (List Int)) (ou:List (List Int)) (d:Nat)=>(LJ N d lv∧LK N ou)∧(lv=[]∨d+1≤ou.length)∧lv.length≤4096) (fun (lv:List (List Int)) (ou:List (List Int)) (d:Nat)=>(if lv=[] then 0 else 4097-ou.length)) ([[]]) ([[]]) (0) v8 (⟨⟨gl,⟨fun s h x hx=>(by simp at h;subst h;cases hx),by decide,fun s h=>(by simp at h;subst h;decide)⟩⟩,.inr AB,by decide⟩) ⟨⟨_,rfl,B0 1 _⟩,⟨_,rfl,BC rfl⟩,trivial⟩ (fun _ _ h=>h) ?_
 rintro lv ou d u ⟨⟨hlv,ow⟩,hd,hl4⟩
 refine an ?_ ?_<;>intro h2 q2
 have hy:lv≠[]:=by have h_:=C3.DZ h2;intro h0;subst h0;simp at h_
 have hd4:d+1≤4096:=by have:=ow.len;rcases hd with hd|hd;exact absurd hd hy;omega
 refine a3 ?_
 refine Tr.block ?_
 refine Tr.Cr _ (kk [26,25,8,1,0] rfl) (fun (nx:List (List Int)) (m:Nat)=>[(9,sets nx),(27,int ((m:Nat):Int))]) (fun (nx:List (List Int)) (m:Nat)=>Hp M0 w0 FO ([As 51 1 u])) (fun (nx:List (List Int)) (m:Nat)=>(m≤lv.length∧LJ N (d+1) nx)∧ou.length+nx.length≤4096) (fun (nx:List (List Int)) (m:Nat)=>lv.length-m) ([]) (0)  (⟨⟨Nat.zero_le _,gj⟩,by have:=ow.len;simpa using this⟩) ⟨⟨_,rfl,AP 1⟩,kz⟩ (fun _ _ h=>h) ?_
 rintro nx m  ⟨⟨hm0,hnx⟩,Yk⟩
 refine ac ?_
 refine Tr.seq ?_
 refine Tr.cn rfl ?_ ?_<;>intro h3 q3
 have hml:m<lv.length:=AH h3
 obtain ⟨s,hs⟩:=at_ hml
 have iz:=hlv.len s (List.mem_of_getElem? hs)
 refine ac ?_
 refine Tr.seq (Tr.block (Tr.seq (Tr.Aj (co rfl (AD rfl underlying99 Gf vq vq AA (Aa hs)) ?_))))
 refine a2 ?_
 refine co rfl (iU (OS (n:=N) (l:=l) AA AA) rfl rfl rfl rfl rfl) ?_
 refine ac ?_
 refine wk [36,35,34,27,26,25,11,9,8,1,0] rfl (Tr.block (Tr.Cr _ (kk [35,34,27,26,25,11,8,1,0] rfl) (fun (ny:List (List Int)) (q:Nat)=>[(9,sets ny),(36,int ((q:Nat):Int))]) (fun (ny:List (List Int)) (q:Nat)=>Hp M0 w0 FO ([As 51 1 u])) (fun (ny:List (List Int)) (q:Nat)=>(q≤(EX N l s true).length∧LJ N (d+1) ny)∧ou.length+ny.length≤4096) (fun (ny:List (List Int)) (q:Nat)=>(EX N l s true).length-q) (nx) (0)  (⟨⟨Nat.zero_le _,hnx⟩,Yk⟩) ⟨kq,kz⟩ (fun _ _ h=>h) ?_))
 rintro ny q  ⟨⟨hq0,hny⟩,AGM⟩
 refine ac ?_
 refine Tr.seq ?_
 refine Tr.cn rfl ?_ ?_<;>intro h4 q4
 have hql:q<(EX N l s true).length:=AH h4
 have WU:=XB (n:=N) (l:=l) (s:=s) (add:=true)
 obtain ⟨x,Wt⟩:=at_ hql
 refine ac ?_
 refine Tr.seq (Tr.block (Tr.seq (Tr.Aj (co rfl (AD rfl underlying51 Bt vq vq AA (Aa Wt)) ?_))))
 refine ac ?_
 refine wk [36,35,34,27,26,25,13,11,9,8,1,0] rfl ?_
 refine ap ?_
 refine tp rfl (K0 (Gk AA) rfl rfl rfl rfl) ?_
 refine tp rfl (CK (ot AA (fun t ht=>by rw [hny.len t ht,Iv (XS (List.mem_of_getElem? Wt)).2];omega)) rfl rfl rfl) ?_
 refine TO.ex 44 rfl (fun z1=>TO.fact 44 rfl fun Eg=> ?_)
 have hzl:=Eg.le
 refine ap ?_
 refine wk [36,35,34,27,26,25,11,9,8,1,0] rfl ?_
 refine ac ?_
 refine co rfl (CH rfl underlying99 HA) ?_
 refine ac ?_
 refine wk [50,36,35,34,27,26,25,11,9,8,1,0] rfl ?_
 refine Tr.cn rfl ?_ ?_<;>intro h5 q5
 refine ac ?_
 refine wk [5,4] rfl (Tr.ret (Fin.AR (Fin.AE (Fin.AE (Fin.AR (Fin.AR (Fin.AE (Fin.AE (Fin.AR (Fin.AE (Fin.AR (Fin.AE (Fin.AR (Fin.AE ?_))))))))))))))
 refine Fin.Ba rfl (AO.tmp rfl Lr) (AO.tmp rfl Lr) ?_
 · exact YI
 refine a2 ?_
 exact Fin.Co (z1) (q+1)  (⟨⟨⟨by omega,hny.put ⟨iz,hlv.RL s (List.mem_of_getElem? hs)⟩ (List.mem_of_getElem? Wt) Eg⟩,by omega⟩,by omega⟩) ⟨kq,⟨_,rfl,AG q⟩,kz⟩ (fun _ _ h=>h)
 have hqe:=AJ h4
 refine a2 ?_
 exact Fin.Co (ny) (m+1)  (⟨⟨⟨by omega,hny⟩,AGM⟩,by omega⟩) ⟨kq,⟨_,rfl,AG m⟩,kz⟩ (fun _ _ h=>h)
 have hme:=AJ h3
 refine ac ?_
 refine ap ?_
 refine TO.DQ 0 rfl rfl AB (B1 rfl rfl rfl rfl underlying99 Gf WL z51 HA vq (Ax BN Ja)) (fun v1=> ?_)
 refine ap ?_
 exact Fin.EI (nx) (ou++nx) (d+1) v1 (gm hnx ow hd Yk hy) ⟨kq,⟨_,rfl,BC AU⟩,kz⟩ (fun _ _ h=>h)
 have hy:=h2
 refine a2 ?_
 refine Tr.ret (Fin.Ba rfl (AO.tmp rfl Lr) (AO.tmp rfl Lr) ?_)
 · exact Aw (_,_) (A7 ow (A_ ⟨Aq _ _,Lr,trivial⟩))
theorem ox {β:Type} {p:β→Bool} {l:List β} {k:Nat} {x:β} (h:l[k]? =some x):idx p (l.take (k+1))=if idx p (l.take k)<0 then (if p x=true then (k:Int) else -1) else idx p (l.take k):=by
 have hk:=BI h
 rw [List.take_add_one,h]
 have hl:(l.take k).length=k:=by rw [List.length_take];omega
 show idx p (l.take k++[x])=_
 generalize l.take k=a at hl ⊢
 unfold idx
 rw [List.findIdx?_append]
 cases ha:a.findIdx? p with
 |some i=>simp;intro h3;omega
 |none=>cases hp:p x<;>simp [hp,hl]
theorem gq {β:Type} {p:β→Bool} {l:List β} {k:Nat} {x:β} (h:l[k]? =some x):(((l.take (k+1)).countP p:Nat):Int)=((l.take k).countP p:Nat)+(if p x=true then 1 else 0):=by
 rw [List.take_add_one,h]
 show (((l.take k++[x]).countP p:Nat):Int)=_
 rw [List.countP_append,List.countP_singleton];split<;>simp_all
theorem Mx {β:Type} {p:β→Bool} {l:List β}:idx p l<0↔l.countP p=0:=by
 unfold idx
 cases h:l.findIdx? p with
 |none=>
  rw [List.findIdx?_eq_none_iff] at h
  simp only [show ((none:Option Nat).map fun n=>(n:Int)).getD (-1)= -1 from rfl]
  constructor
  · intro _;rw [List.countP_eq_zero];intro a ha;rw [h a ha];decide
  · intro _;decide
 |some i=>
  rw [List.findIdx?_eq_some_iff_getElem] at h
  obtain ⟨h1,h2,_⟩:=h
  constructor
  · intro h3;exfalso;revert h3;simp
  · intro h3;rw [List.countP_eq_zero] at h3;exact absurd h2 (h3 _ (List.getElem_mem h1))
theorem uS {β:Type} {p:β→Bool} {l:List β} {k n:Nat} (h:l.length≤n):(l.take k).countP p≤n:=Nat.le_trans List.countP_le_length (Nat.le_trans KM h)
theorem bsX {l:List Int} {n x:Int} {k:Nat} (h:∀(j:Nat) y,j<k→l[j]? =some y→y<n) (hx:l[k]? =some x) (hlt:x<n):∀(j:Nat) y,j<k+1→l[j]? =some y→y<n:=by
 intro j y hj hy
 rcases Nat.lt_or_eq_of_le (Nat.le_of_lt_succ hj) with h1|h1
 · exact h j y h1 hy
 · subst h1;rw [hx] at hy;cases hy;exact hlt
def G9 (id:Int) (x:JV):Bool:=x.CS==id
def Fj (id:Int) (l:List JV):Int:=((l.countP (G9 id):Nat):Int)
theorem F7 (id:Int) (l:List JV):Bo id l=idx (G9 id) l:=rfl
theorem gr {id:Int} {l:List JV} {k:Nat} {x:JV} (h:l[k]? =some x):Fj id (l.take (k+1))=Fj id (l.take k)+(if x.CS=id then 1 else 0):=by
 unfold Fj;rw [gq h];unfold G9;simp only [beq_iff_eq]
theorem XT {id:Int} {l:List JV} {k:Nat} {x:JV} (h:l[k]? =some x):Bo id (l.take (k+1))=if Fj id (l.take k)=0 then (if x.CS=id then (k:Int) else -1) else Bo id (l.take k):=by
 rw [F7,F7,ox h]
 have:=Mx (p:=G9 id) (l:=l.take k)
 unfold Fj
 by_cases h2:idx (G9 id) (l.take k)<0
 ·
  have h4:(((l.take k).countP (G9 id):Nat):Int)=0:=by rw [this.1 h2];rfl
  rw [if_pos h2,if_pos h4];unfold G9;simp only [beq_iff_eq]
 · rw [if_neg h2,if_neg (fun h3=>h2 (this.2 AA))]
theorem XU {id:Int} {l:List JV} (h:Fj id l=0):Bo id l= -1:=by
 have h2:=(Mx (p:=G9 id) (l:=l)).2 (by unfold Fj at h;omega)
 rw [F7];unfold idx at h2 ⊢
 cases h3:l.findIdx? (G9 id) with
 |none=>rfl
 |some i=>rw [h3] at h2;simp at h2;omega
def HU (e:B_) (k:Int):Int×Bool:=if k=3 then (e.most,true) else if k=4 then (e.least,true) else if k=11 then (K1 e.Mb,true) else if k=12 then (K1 e.own,true) else (0,false)
def GJ (e:B_) (k:Int):List Int×Bool×Bool:=
 if k=1∨k=2 then (e.Az,decide (k=1),true) else if k=7∨k=8 then (e.anchors,decide (k=7),true) else if k=9∨k=10 then (e.hashes,decide (k=9),true) else ([],false,false)
theorem Si (x:JV):decide (x=Bv)=bh x:=by
 rw [Bool.eq_iff_iff,decide_eq_true_eq];unfold bh Bv
 cases x;simp only [JV.mk.injEq,Bool.and_eq_true,decide_eq_true_eq,beq_iff_eq,and_assoc]
 constructor
 · rintro ⟨h1,h2,h3,h4⟩;exact ⟨h1,h2,h3,by simp [h4]⟩
 · rintro ⟨h1,h2,h3,h4⟩;exact ⟨h1,h2,h3,List.eq_nil_of_length_eq_zero AA⟩
theorem I5 {l:List Int} {n:Int}  :BD prog 326 [ints l,int n] (int (idx (fun y=>n==y) l)):=by
 refine fo func326 rfl ⟨rfl,rfl⟩ fun M0 w0=>(Tr.C6 0 rfl fun Eu=> ?_)
 refine a2 ?_
 refine Tr.block (Tr.BA _ (kk [8,7,1] rfl) (fun k:Nat=>[(9,int ((k:Nat):Int))]) (fun k:Nat=>k≤(l).length∧(∀j y,j<k→l[j]? =some y→(n==y)=false)) (fun k:Nat=>(l).length-k) 0 (⟨Nat.zero_le _,fun j y hj=>absurd hj AA⟩) kz ?_)
 rintro k ⟨BV,AY⟩
 refine ac ?_
 refine Tr.seq ?_
 refine Tr.cn rfl ?_ ?_<;>intro h1 q1
 have Ah:k<(l).length:=AH h1
 obtain ⟨x,Ai⟩:=at_ Ah
 · repeat' first|(exact int_eq (EP (p:=fun y=>n==y) Ai B4 AY))|(exact Fin.AL (k+1) ⟨⟨Ah,DP (p:=fun y=>n==y) Ai B4 AY⟩,by omega⟩ ⟨⟨_,rfl,AG k⟩,kz⟩)|refine co rfl (AD rfl underlying22 Bt vq vq AA CF) ?_|refine ac ?_|(refine Tr.cn rfl ?_ ?_<;>intro h q)
 have BP:k=(l).length:=by have:=AJ h1;omega
 subst BP
 refine a3 ?_
 · exact int_eq (E5 (p:=fun y=>n==y) AY)
theorem Nz {e:B_} {id:Int} (hl:e.ids.length≤1000000):BD prog 328 [agg (Bk e),int id] (EA [int (Fj id e.ids),int (Bo id e.ids)]):=by
 refine fo func328 rfl ⟨rfl,rfl⟩ fun M0 w0=> ?_
 refine a3 ?_
 refine Tr.block (Tr.BA _ (kk [12,11,1] rfl) (fun k:Nat=>[(13,int ((k:Nat):Int)),(6,int (Fj id (e.ids.take k))),(7,int (Bo id (e.ids.take k)))]) (fun k:Nat=>k≤(e.ids).length) (fun k:Nat=>(e.ids).length-k) 0 (Nat.zero_le _) ⟨kq,⟨_,rfl,int_eq rfl⟩,⟨_,rfl,int_eq rfl⟩,trivial⟩ ?_)
 rintro k BV
 refine ac ?_
 refine Tr.seq ?_
 refine Tr.cn rfl ?_ ?_<;>intro h1 q1
 have Ah:k<(e.ids).length:=AH h1
 obtain ⟨x,Ai⟩:=at_ Ah
 have hc:=gr (id:=id) Ai
 have hi:=XT (id:=id) Ai
 have iS:0≤Fj id (e.ids.take k)∧Fj id (e.ids.take k)≤1000000:=⟨by unfold Fj;omega,by have:=uS (p:=G9 id) (k:=k) hl;unfold Fj;omega⟩
 have h0:=XU (id:=id) (l:=e.ids.take k)
 refine ac ?_
 refine ao ?_
 refine tp rfl (AD rfl underlying38 Fc vq vq AA CF) ?_
 refine tp rfl (AQ rfl S1 Fc vq rfl rfl) ?_
 refine Tl rfl rfl rfl rfl Xw WN (fun b1=> ?_)
 refine tm rfl ?_
 refine sf 0 9 ⟨rfl,rfl,rfl⟩ rfl rfl rfl rfl ?_
 refine ao ?_
 · repeat' first|exact Fin.AL (k+1) ⟨Ah,by omega⟩ ⟨⟨_,rfl,AG k⟩,⟨_,rfl,int_eq CG⟩,⟨_,rfl,int_eq CG⟩,kz⟩|refine ac ?_|(refine Tr.cn rfl ?_ ?_<;>intro h q)
 have BP:k=(e.ids).length:=by have:=AJ h1;omega
 subst BP
 rw [List.take_length]
 refine a2 ?_
 refine Tr.ret (Fin.Dp rfl (Br.Dz _ _) rfl ?_ rfl ?_)
 · exact Lr
 · exact Lr
theorem XV {b:Bool}  :BD prog 338 [bool b] (int (K1 b)):=by
 refine fo func338 rfl ⟨rfl,rfl⟩ fun M0 w0=> ?_
 · repeat' first|exact int_eq (by simp_all [K1])|refine ac ?_|(refine Tr.cn rfl ?_ ?_<;>intro h q)
theorem Zq {e:B_} {k:Int}  :BD prog 327 [agg (Bk e),int k] (EA [int (HU e k).1,bool (HU e k).2]):=by
 refine fo func327 rfl ⟨rfl,rfl⟩ fun M0 w0=> ?_
 refine a2 ?_
 refine an ?_ ?_<;>intro h1 q1
 refine ac ?_
 refine Tr.ret (Fin.AR (Fin.AE (Fin.Dp rfl (Br.Dz _ _) rfl ?_ rfl ?_)))
 · exact L9
 · exact L8
 refine an ?_ ?_<;>intro h2 q2
 refine ac ?_
 refine Tr.ret (Fin.AR (Fin.AE (Fin.Dp rfl (Br.Dz _ _) rfl ?_ rfl ?_)))
 · exact L9
 · exact L8
 refine an ?_ ?_<;>intro h3 q3
 refine ac ?_
 refine co rfl (Cn (XV) rfl rfl) ?_
 refine ac ?_
 refine wk [5,4] rfl (Tr.ret (Fin.AR (Fin.AE (Fin.Dp rfl (Br.Dz _ _) rfl ?_ rfl ?_))))
 · exact L9
 · exact L8
 refine an ?_ ?_<;>intro h4 q4
 refine ac ?_
 refine co rfl (Cn (XV) rfl rfl) ?_
 refine ac ?_
 refine wk [5,4] rfl (Tr.ret (Fin.AR (Fin.AE (Fin.Dp rfl (Br.Dz _ _) rfl ?_ rfl ?_))))
 · exact L9
 · exact L8
 refine a2 ?_
 refine wk [5,4] rfl (Tr.ret (Fin.Dp rfl (Br.Dz _ _) rfl ?_ rfl ?_))
 · exact L9
 · exact L8
theorem gu {c:BX} (hcs:c.C2.small):BD prog 324 [agg (El c)] (bool (decide (JM c))):=by
 refine fo func324 rfl ⟨rfl,rfl⟩ fun M0 w0=> ?_
 refine ac ?_
 refine ac ?_
 refine co rfl (AV rfl (Y3 (a:=c.C2) (b:=Bv) hcs) ⟨ke rfl,⟨_,rfl,BT ⟨Lr,Lr,Lr,AP 15,trivial⟩⟩,trivial⟩) ?_
 refine ac ?_
 refine ac ?_
 refine ac ?_
 refine Tr.cn rfl ?_ ?_<;>intro h1 q1
 refine ac ?_
 refine ac ?_
 · exact Ty
 refine ac ?_
 refine Tr.cn rfl ?_ ?_<;>intro h2 q2
 refine ac ?_
 refine L2 2 rfl ?_
 refine ac ?_
 · exact Ty
 refine ac ?_
 refine ac ?_
 refine Ch.cs 21 rfl ?_ ?_<;>intro h3 q3
 refine ac ?_
 refine Ch.cs 26 rfl ?_ ?_<;>intro h4 q4
 refine ac ?_
 refine Ch.cs 29 rfl ?_ ?_<;>intro h5 q5
 refine ac ?_
 refine L2 2 rfl ?_
 refine ac ?_
 · exact Ty
 refine ac ?_
 refine L2 2 rfl ?_
 refine ac ?_
 · exact Ty
 refine ac ?_
 refine L2 2 rfl ?_
 refine ac ?_
 · exact jR
 refine ac ?_
 refine L2 2 rfl ?_
 refine ac ?_
 · exact jR
theorem XW {e:B_} {k:Int}  :BD prog 325 [agg (Bk e),int k] (EA [ints (GJ e k).1,bool (GJ e k).2.1,bool (GJ e k).2.2]):=by
 refine fo func325 rfl ⟨rfl,rfl⟩ fun M0 w0=> ?_
 refine a2 ?_
 refine an ?_ ?_<;>intro h1 q1
 refine ac ?_
 refine Tr.cond rfl (fun _=> ?_) (fun h=>nomatch h1.symm.trans h)
 refine ac ?_
 refine wk [6,5,4] rfl (Tr.ret (Fin.AR (Fin.AE (Fin.IV rfl (Br.Dz _ _) rfl ?_ rfl ?_ rfl ?_))))
 · exact KL
 · exact FQ
 · exact FQ
 refine an ?_ ?_<;>intro h2 q2
 refine ac ?_
 refine wk [6,5,4] rfl (Tr.ret (Fin.AR (Fin.AE (Fin.IV rfl (Br.Dz _ _) rfl ?_ rfl ?_ rfl ?_))))
 · exact KL
 · exact FQ
 · exact FQ
 refine an ?_ ?_<;>intro h3 q3
 refine ac ?_
 refine Tr.cond rfl (fun _=> ?_) (fun h=>nomatch h3.symm.trans h)
 refine ac ?_
 refine wk [6,5,4] rfl (Tr.ret (Fin.AR (Fin.AE (Fin.IV rfl (Br.Dz _ _) rfl ?_ rfl ?_ rfl ?_))))
 · exact KL
 · exact FQ
 · exact FQ
 refine an ?_ ?_<;>intro h4 q4
 refine ac ?_
 refine wk [6,5,4] rfl (Tr.ret (Fin.AR (Fin.AE (Fin.IV rfl (Br.Dz _ _) rfl ?_ rfl ?_ rfl ?_))))
 · exact KL
 · exact FQ
 · exact FQ
 refine ac ?_
 refine wk [22,7,2,1] rfl ?_
 refine Tr.cn rfl ?_ ?_<;>intro h5 q5
 refine ac ?_
 refine Tr.cond rfl (fun _=> ?_) (fun h=>nomatch h5.symm.trans h)
 refine ac ?_
 refine Tr.ret (Fin.AR (Fin.AE (Fin.IV rfl (Br.Dz _ _) rfl ?_ rfl ?_ rfl ?_)))
 · exact KL
 · exact FQ
 · exact FQ
 refine an ?_ ?_<;>intro h6 q6
 refine ac ?_
 refine Tr.ret (Fin.AR (Fin.AE (Fin.IV rfl (Br.Dz _ _) rfl ?_ rfl ?_ rfl ?_)))
 · exact KL
 · exact FQ
 · exact FQ
 refine a2 ?_
 refine Tr.ret (Fin.IV rfl (Br.Dz _ _) rfl ?_ rfl ?_ rfl ?_)
 · exact Pr.le_trans (AP 1) (Pr.le_of_eq (by rw [show (GJ e k).1=[] by simp_all [GJ]];rfl))
 · exact FQ
 · exact FQ
theorem N0 {l:List Int} {i:Nat} {n:Int} (hi:i≤l.length) (hl:l.length≤1000000):BD prog 329 [ints l,int ((i:Nat):Int),int n] (ints (l.take i++[n]++l.drop i)):=by
 refine fo func329 rfl ⟨rfl,rfl⟩ fun M0 w0=> ?_
 have hml:(l.map fun n:Int=>[int n]).length=l.length:=List.length_map _
 refine ac ?_
 refine ap ?_
 refine tp rfl (DM rfl underlying22 Bt vq vq AA AA) (TO.pad ?_)
 refine TO.DQ 0 rfl rfl AB (D3 rfl rfl AB rfl underlying22 Bt He z3 rfl AB ⟨_,rfl,AP _⟩ vq IF IG (Bq BN ⟨_,rfl,C8 1⟩)) (fun v1=> ?_)
 refine ap ?_
 refine ap ?_
 refine TO.DQ 0 rfl rfl AB (B1 rfl rfl rfl rfl underlying22 Bt He z3 HA GG (Ax BN Ja)) (fun v2=> ?_)
 refine ap ?_
 refine ap ?_
 refine tp rfl (DC rfl underlying22 Bt vq vq AA AA) ?_
 refine TO.DQ 0 rfl rfl AB (B1 rfl rfl rfl rfl underlying22 Bt He z3 HA vq (Ax BN Ja)) (fun v3=> ?_)
 refine ap ?_
 refine wk [6] rfl ?_
 refine ac ?_
 · exact Pr.le_trans (Aq _ _) (Pr.le_of_eq (by show _=slice 1 ((l.take i++[n]++l.drop i).map fun n=>[int n]);simp [List.map_take,List.map_drop]))
theorem I6 {l:List Int} {i:Nat} (hi:i<l.length) (hl:l.length≤1000000):BD prog 330 [ints l,int ((i:Nat):Int)] (ints (l.eraseIdx i)):=by
 refine fo func330 rfl ⟨rfl,rfl⟩ fun M0 w0=> ?_
 have hml:(l.map fun n:Int=>[int n]).length=l.length:=List.length_map _
 refine ac ?_
 refine ap ?_
 refine tp rfl (DM rfl underlying22 Bt vq vq AA AA) (TO.pad ?_)
 refine TO.DQ 0 rfl rfl AB (D3 rfl rfl AB rfl underlying22 Bt He z3 rfl AB ⟨_,rfl,AP _⟩ vq IF IG (Bq BN ⟨_,rfl,C8 1⟩)) (fun v1=> ?_)
 refine ap ?_
 refine ap ?_
 refine tp rfl (DC rfl underlying22 Bt vq vq AA AA) ?_
 refine TO.DQ 0 rfl rfl AB (B1 rfl rfl rfl rfl underlying22 Bt He z3 HA vq (Ax BN Ja)) (fun v2=> ?_)
 refine ap ?_
 refine ac ?_
 · exact Pr.le_trans (Aq _ _) (Pr.le_of_eq (by rw [List.eraseIdx_eq_take_drop_succ];show _=slice 1 ((l.take i++l.drop (i+1)).map fun n=>[int n]);simp [List.map_take,List.map_drop,show (((i:Nat):Int)+1).toNat=i+1 by omega]))
theorem OY {l:List Int} {n:Int} (hl:l.length≤1000000):BD prog 331 [ints l,int n] (ints (Yu l n)):=by
 refine fo func331 rfl ⟨rfl,rfl⟩ fun M0 w0=>(Tr.C6 0 rfl fun Eu=> ?_)
 refine a2 ?_
 refine Tr.seq (Tr.block (Tr.BA _ (kk [1,0] rfl) (fun k:Nat=>[(5,int ((k:Nat):Int))]) (fun k:Nat=>k≤l.length∧(∀j y,j<k→l[j]? =some y→y<n)) (fun k:Nat=>l.length-k) 0 (⟨Nat.zero_le _,fun j y hj=>absurd hj AA⟩) kz ?_))
 rintro k ⟨BV,hinv⟩
 refine ag ?_ ?_<;>intro h1 q1
 obtain ⟨x,hx⟩:=at_ (l:=l) (k:=k) AA
 refine ac ?_
 refine cy h1 rfl (AD rfl underlying22 Bt vq vq AA (Aa hx)) ?_
 refine ac ?_
 refine wk [17,5,1,0] rfl ?_
 refine Tr.cn rfl ?_ ?_<;>intro h2 q2
 have hq:=h2
 refine a2 ?_
 exact Fin.AL (k+1) ⟨⟨by omega,bsX hinv hx (by simpa using hq)⟩,by omega⟩ ⟨⟨_,rfl,AG k⟩,kz⟩
 have hp:Ew l n=k:=U0 BV hinv (fun y hy=>by have h_:=h2;rw [hx] at hy;cases hy;simpa using h_)
 refine a2 ?_
 refine co rfl (AV rfl (N0 (l:=l) (i:=Ew l n) (bl _ _) hl) ⟨kq,⟨_,rfl,int_eq AA⟩,kz⟩) ?_
 refine a2 ?_
 · exact Lr
 have hp:Ew l n=k:=U0 BV hinv (fun y hy=>by have:=BI hy;have:=q1;omega)
 refine ac ?_
 refine wk [17,5,1,0] rfl ?_
 refine a2 ?_
 refine co rfl (AV rfl (N0 (l:=l) (i:=Ew l n) (bl _ _) hl) ⟨kq,⟨_,rfl,int_eq AA⟩,kz⟩) ?_
 refine a2 ?_
 · exact Lr
def Sg (e:B_) (c:BX):Int:=
 if GO e=false then 19 else if ¬JM c then 40
 else if c.kind=1∧(c.at_<0∨(e.Az.length:Int)<c.at_) then 2
 else if c.kind=5∧(c.at_<0∨(e.ids.length:Int)<c.at_) then 2
 else if (c.kind=11∨c.kind=12)∧(c.number≠0∧c.number≠1) then 2
 else if (GJ e c.kind).2.2=true∧decide (0≤idx (fun y=>c.number==y) (GJ e c.kind).1)=(GJ e c.kind).2.1 then 41
 else if (HU e c.kind).2=true∧(HU e c.kind).1=c.number then 41
 else if c.kind=5∧0<Fj c.C2.CS e.ids then 41
 else if c.kind=6∧Fj c.number e.ids=0 then 41
 else if c.kind=6∧1<Fj c.number e.ids then 5 else 0
theorem Vc {l:List Int} (hs:sP l) {n:Int}:idx (fun y=>n==y) l=if Fi l n=true then ((Ew l n:Nat):Int) else -1:=by
 by_cases h:Fi l n=true
 ·
  rw [if_pos h]
  obtain ⟨y,hy⟩:=at_ (U2 h)
  have hyn:y=n:=by have h2:=bp rfl hy;rw [h] at h2;simpa using h2.symm
  exact (EP (p:=fun y=>n==y) hy (by simp [hyn]) (fun j z hj hz=>by have:=U1 hj hz;simp;omega)).symm
 ·
  rw [if_neg h]
  refine (E5 (p:=fun y=>n==y) (fun j z hj hz=> ?_)).symm
  simp only [beq_eq_false_iff_ne,ne_eq]
  intro hn;subst hn
  rcases Nat.lt_trichotomy j (Ew l n) with h1|h1|h1
  · have:=U1 h1 hz;omega
  · subst h1;exact h (by rw [bp rfl hz];simp)
  ·
   obtain ⟨y,hy⟩:=at_ (l:=l) (k:=Ew l n) (by have:=BI hz;omega)
   have h2:=bn hy
   have h3:=sQ hs h1 hy hz
   omega
theorem uT {l:List JV} {n:Int} {x:JV} (h0:¬Bo n l<0) (hx:l[(Bo n l).toNat]? =some x):(1<Fj n l)↔((l.drop (Bo n l+1).toNat).any fun x=>x.CS==n)=true:=by
 obtain ⟨y,hy,hp,hlt⟩:=PL (p:=G9 n) (l:=l) (by rw [←F7];omega)
 rw [←F7] at hy hlt
 have hsplit:l=l.take (Bo n l).toNat++y::l.drop ((Bo n l).toNat+1):=by
  rw [List.getElem?_eq_getElem hlt] at hy;cases hy
  rw [List.getElem_cons_drop];exact (List.take_append_drop _ _).symm
 have h1:(l.take (Bo n l).toNat).countP (G9 n)=0:=by
  refine Mx.1 (Int.not_le.1 fun h2=> ?_)
  obtain ⟨z,hz,hzp,hzl⟩:=PL h2
  have e1:Bo n l=idx (G9 n) (l.take (Bo n l).toNat):=by
   obtain ⟨i,hi⟩:∃i:Nat,idx (G9 n) (l.take (Bo n l).toNat)=(i:Int):=⟨_,(Int.toNat_of_nonneg h2).symm⟩
   have h3:((l.take (Bo n l).toNat).findIdx? (G9 n))=some i:=by
    unfold idx at hi;cases h4:(l.take (Bo n l).toNat).findIdx? (G9 n) with
    |none=>rw [h4] at hi;simp at hi
    |some k=>rw [h4] at hi;rw [show k=i by simp at hi;omega]
   have h5:l.findIdx? (G9 n)=some i:=by
    rw [←List.take_append_drop (Bo n l).toNat l,List.findIdx?_append,h3];rfl
   have e2:idx (G9 n) l=(i:Int):=by unfold idx;rw [h5]
   exact e2.trans hi.symm
  rw [←e1] at hzl;rw [List.length_take] at hzl;omega
 have h2:l.countP (G9 n)=1+(l.drop ((Bo n l).toNat+1)).countP (G9 n):=by
  conv=>lhs;rw [hsplit]
  rw [List.countP_append,h1,List.countP_cons,hp];simp;omega
 unfold Fj;rw [h2,show (Bo n l+1).toNat=(Bo n l).toNat+1 by omega]
 show _↔(List.any _ (G9 n))=true
 rw [List.any_eq_true,←List.countP_pos_iff];omega
theorem uU {l:List Int} {n:Int}:decide (0≤idx (fun y=>n==y) l)=l.any fun y=>n==y:=PJ _ _
theorem Po {l:List Int} (hs:sP l) {n:Int}:decide (0≤idx (fun y=>n==y) l)=Fi l n:=by
 rw [Vc hs];cases Fi l n<;>simp
theorem XX {e:B_} {c:BX} (hce:GO e=true) (hc:JM c):Sg e c=match B9 e c with| .error f=>f| .ok _=>0:=by
 have ok:=DG.1 hce
 have ha:=PN ok.anc;have hh:=PN ok.hash
 have hk:=hc.1
 unfold Sg
 rw [if_neg (by rw [hce];decide),if_neg (not_not_intro hc)]
 have h0:c.kind=1∨c.kind=2∨c.kind=3∨c.kind=4∨c.kind=5∨c.kind=6∨c.kind=7∨c.kind=8∨c.kind=9∨c.kind=10∨c.kind=11∨c.kind=12:=by omega
 rcases h0 with h|h|h|h|h|h|h|h|h|h|h|h
 ·
  rw [PO h];unfold GJ HU;simp only [h]
  by_cases h1:c.at_<0∨(e.Az.length:Int)<c.at_
  ·
   have h2:¬(0≤c.at_∧c.at_≤(e.Az.length:Int)):=by omega
   simp [h1,h2]
  ·
   have h2:0≤c.at_∧c.at_≤(e.Az.length:Int):=by omega
   have h3:=uU (l:=e.Az) (n:=c.number)
   have h4:(0≤idx (fun y=>c.number==y) e.Az)↔(e.Az.any fun y=>c.number==y)=true:=by rw [←h3,decide_eq_true_eq]
   by_cases h5:(e.Az.any fun y=>c.number==y)=true
   · have h6:=h4.2 h5;simp only [h5];simp [h1,h2,h6]
   ·
    have h6:¬0≤idx (fun y=>c.number==y) e.Az:=fun h=>h5 (h4.1 h)
    simp only [h5];simp [h1,h2,h6]
 ·
  rw [PR h];unfold GJ HU Me;simp only [h]
  by_cases h1:idx (fun y=>c.number==y) e.Az<0
  · simp [h1]
  · simp [h1]
 · rw [PT h];unfold GJ HU;simp only [h];by_cases h1:e.most=c.number<;>simp [h1]
 · rw [PU h];unfold GJ HU;simp only [h];by_cases h1:e.least=c.number<;>simp [h1]
 ·
  rw [PV h];unfold GJ HU;simp only [h]
  have tN:=Mx (p:=G9 c.C2.CS) (l:=e.ids)
  rw [←F7] at tN
  by_cases h1:c.at_<0∨(e.ids.length:Int)<c.at_
  ·
   have h2:¬(0≤c.at_∧c.at_≤(e.ids.length:Int)):=by omega
   simp [h1,h2]
  ·
   have h3:0≤c.at_∧c.at_≤(e.ids.length:Int):=by omega
   by_cases h2:0≤Bo c.C2.CS e.ids
   ·
    have:0<Fj c.C2.CS e.ids:=by unfold Fj;omega
    simp [h1,h2,h3,this]
   ·
    have:¬0<Fj c.C2.CS e.ids:=by unfold Fj;omega
    simp [h1,h2,h3,this]
 ·
  rw [PW h];unfold GJ HU;simp only [h]
  have tN:=Mx (p:=G9 c.number) (l:=e.ids)
  rw [←F7] at tN
  by_cases h2:Bo c.number e.ids<0
  ·
   have:Fj c.number e.ids=0:=by unfold Fj;omega
   cases e.ids[(Bo c.number e.ids).toNat]? <;>simp [h2,this]
  ·
   have h3:¬Fj c.number e.ids=0:=by unfold Fj;omega
   obtain ⟨x,hx,_,_⟩:=PL (p:=fun x:JV=>x.CS==c.number) (l:=e.ids) (by unfold Bo at h2;omega)
   have hx:e.ids[(Bo c.number e.ids).toNat]? =some x:=hx
   have hd:=uT h2 hx
   rw [hx];simp only [if_neg h2]
   by_cases h4:((e.ids.drop (Bo c.number e.ids+1).toNat).any fun x=>x.CS==c.number)=true
   · have:=hd.2 h4;simp only [h4];simp [h3,this]
   ·
    have:¬1<Fj c.number e.ids:=fun h5=>h4 (hd.1 h5)
    simp only [h4];simp [h3,this]
 ·
  rw [PX h];unfold GJ HU;simp only [h]
  have h1:(0≤idx (fun y=>c.number==y) e.anchors)↔Fi e.anchors c.number=true:=by rw [←Po ha,decide_eq_true_eq]
  by_cases h2:Fi e.anchors c.number=true
  · exact O9
  ·
   have h3:¬0≤idx (fun y=>c.number==y) e.anchors:=fun h=>h2 (h1.1 h)
   simp [h2,h3]
 ·
  rw [PY h];unfold GJ HU;simp only [h]
  have h1:(0≤idx (fun y=>c.number==y) e.anchors)↔Fi e.anchors c.number=true:=by rw [←Po ha,decide_eq_true_eq]
  by_cases h2:Fi e.anchors c.number=true
  · exact O9
  ·
   have h3:¬0≤idx (fun y=>c.number==y) e.anchors:=fun h=>h2 (h1.1 h)
   simp [h2,h3]
 ·
  rw [PZ h];unfold GJ HU;simp only [h]
  have h1:(0≤idx (fun y=>c.number==y) e.hashes)↔Fi e.hashes c.number=true:=by rw [←Po hh,decide_eq_true_eq]
  by_cases h2:Fi e.hashes c.number=true
  · exact O9
  ·
   have h3:¬0≤idx (fun y=>c.number==y) e.hashes:=fun h=>h2 (h1.1 h)
   simp [h2,h3]
 ·
  rw [Mf h];unfold GJ HU;simp only [h]
  have h1:(0≤idx (fun y=>c.number==y) e.hashes)↔Fi e.hashes c.number=true:=by rw [←Po hh,decide_eq_true_eq]
  by_cases h2:Fi e.hashes c.number=true
  · exact O9
  ·
   have h3:¬0≤idx (fun y=>c.number==y) e.hashes:=fun h=>h2 (h1.1 h)
   simp [h2,h3]
 ·
  rw [Mg h];unfold GJ HU;simp only [h]
  by_cases h1:0≤c.number∧c.number≤1
  ·
   have:¬(c.number≠0∧c.number≠1):=by omega
   by_cases h2:K1 e.Mb=c.number<;>simp [this,h1,h2]
  ·
   have:c.number≠0∧c.number≠1:=by omega
   simp [this,h1]
 ·
  rw [Mh h];unfold GJ HU;simp only [h]
  by_cases h1:0≤c.number∧c.number≤1
  ·
   have:¬(c.number≠0∧c.number≠1):=by omega
   by_cases h2:K1 e.own=c.number<;>simp [this,h1,h2]
  ·
   have:c.number≠0∧c.number≠1:=by omega
   simp [this,h1]
theorem uV {e:B_} {c:BX} (h:Sg e c≠0):EC e c=(FB,HO,Sg e c):=by
 by_cases hce:GO e=false
 ·
  have:Sg e c=19:=by unfold Sg;rw [if_pos hce]
  rw [this];unfold EC;rw [if_pos hce]
 ·
  by_cases hc:JM c
  ·
   have hce:GO e=true:=by simpa using hce
   have hs:=XX hce hc
   cases h2:B9 e c with
   |error f=>rw [h2] at hs;rw [fM hce hc h2,show Sg e c=f from hs]
   |ok r=>rw [h2] at hs;exact absurd hs h
  ·
   have:Sg e c=40:=by unfold Sg;rw [if_neg hce,if_pos hc]
   rw [this];unfold EC;rw [if_neg hce,if_pos hc]
theorem yx {e:B_} {c:BX} (h:Sg e c=0):GO e=true∧JM c∧∃e2 b,B9 e c= .ok (e2,b):=by
 by_cases hce:GO e=false
 ·
  have:Sg e c=19:=by unfold Sg;rw [if_pos hce]
  rw [this] at h;cases h
 ·
  by_cases hc:JM c
  ·
   have hce:GO e=true:=by simpa using hce
   have hs:=XX hce hc
   cases h2:B9 e c with
   |error f=>
    rw [h2] at hs;rw [h] at hs
    have h3:(0:Int)=f:=hs
    have:=Wr hc h2;omega
   |ok r=>exact ⟨hce,hc,r.1,r.2,rfl⟩
  ·
   have:Sg e c=40:=by unfold Sg;rw [if_neg hce,if_pos hc]
   rw [this] at h;cases h
theorem Rm {β γ:Type} {f:β→γ} {l:List β} {k:Nat} {x:β} (h:l[k]? =some x):(l.take k).map f++[f x]=(l.take (k+1)).map f:=by rw [List.take_add_one,h,List.map_append];rfl
theorem Lw {x:JV} (hx:x.small):BD prog 146 [agg (G1 x)] (agg (G1 x)):=by
 refine fo func146 rfl ⟨rfl,rfl⟩ fun M0 w0=> ?_
 have hch:=hx.chain
 refine Tr.seq (Tr.Ap (tp rfl (Bn rfl C1) ?_))
 refine Tl rfl rfl rfl rfl Xw WN (fun b1=> ?_)
 refine ap ?_
 refine ap ?_
 refine Tl rfl rfl rfl rfl Xw WN (fun b2=> ?_)
 refine ap ?_
 refine ac ?_
 refine wk [14,13,12,3,2] rfl (Tr.block (Tr.Ho 0 [int x.CA,int x.bits,int x.CS,Ab (.slice none 0 0) (slice 15 ((x.chain.take 0).map EL))] rfl ⟨Lr,Lr,Lr,Bl rfl,trivial⟩ (Tr.B6 189 15 (Tr.ET _ (kk [13,12,3,2] rfl) (fun k v=>[(14,int ((k:Nat):Int))]) (fun k v=>Hp M0 w0 FO ([As 189 15 v,AF true b2 84 [int x.CA,int x.bits,int x.CS,Ab v (slice 15 ((x.chain.take k).map EL))],AF true b1 84 (([.int .i64 0,.int .i64 0,.int .i64 0,.slice none 0 0]:List Value).map is)])) (fun k:Nat=>k≤(x.chain).length) (fun k:Nat=>(x.chain).length-k) 0 (.slice none 0 0) (Nat.zero_le _) kz (fun _ _ h=>h) ?_))))
 rintro k v BV
 refine ac ?_
 refine Tr.seq ?_
 refine Tr.cn rfl ?_ ?_<;>intro h1 q1
 have Ah:k<(x.chain).length:=AH h1
 obtain ⟨c,Ai⟩:=at_ Ah
 have hcn:=hx.names c (List.mem_of_getElem? Ai)
 refine ac ?_
 refine Tr.seq (Tr.block (Tr.seq (Tr.Ap (tp rfl (AD rfl underlying82 Di vq vq AA CF) ?_))))
 refine tp rfl (AQ rfl Gz Di vq rfl rfl) ?_
 refine Tl rfl rfl rfl rfl Uj OD (fun b3=> ?_)
 refine ap ?_
 refine ap ?_
 refine tp rfl (Iq rfl underlying127 NT by9 z9 rfl AB vq Ov O3) ?_
 refine ap ?_
 refine wk [14,13,12,5,3,2] rfl ?_
 refine ap ?_
 refine TO.DQ 1 rfl rfl AB (B1 rfl rfl rfl rfl underlying82 Di vJ Uj HA GG (Ax BN Ja)) (fun v1=> ?_)
 refine ap ?_
 refine Tr.drop 0 ?_
 refine ac ?_
 refine Fin.Ho 1 [int x.CA,int x.bits,int x.CS,Ab v1 (slice 15 ((x.chain.take (k+1)).map EL))] rfl ⟨Lr,Lr,Lr,BC (Rm (f:=EL) Ai),trivial⟩ (Fin.DD (k+1) v1 (⟨Ah,by omega⟩) ⟨⟨_,rfl,AG k⟩,kz⟩ (fun _ _ h=>h))
 have BP:k=(x.chain).length:=by have:=AJ h1;omega
 subst BP
 refine ac ?_
 refine ap ?_
 refine Tr.ret (Fin.CV rfl (AO.cell 2 rfl rfl S1 Fc rfl Lr) ?_)
 · exact BT ⟨Lr,Lr,Lr,Pr.le_trans (Aq _ _) (Pr.le_of_eq O7),trivial⟩
theorem Zr {c:BX} (hx:c.C2.small):BD prog 86 [agg (El c)] (agg (El c)):=by
 refine fo func86 rfl ⟨rfl,rfl⟩ fun M0 w0=>(Tr.seq (Tr.Ap ?_))
 refine TO.V9 rfl rfl AB rfl C1 (fun b1=> ?_)
 refine Tl rfl rfl rfl rfl PG Kz (fun b2=> ?_)
 refine ap ?_
 refine ap ?_
 refine tp rfl (Cn (Lw (x:=c.C2) hx) rfl rfl) ?_
 refine ap ?_
 refine ap ?_
 refine Tr.drop 1 (Tr.ret (Fin.CV rfl (AO.cell 0 rfl rfl HK Dh rfl Lr) ?_))
 · exact Lr
theorem Tm {e:B_} (IW:e.small):BD prog 302 [agg (Bk e)] (agg (Bk e)):=by
 refine fo func302 rfl ⟨rfl,rfl⟩ fun M0 w0=> ?_
 have hs1:=IW.Az
 have Uw:=IW.anchors
 have hs3:=IW.hashes
 have hs4:=IW.YE
 refine Tr.seq (Tr.Ap (tp rfl (Bn rfl (Va rfl)) ?_))
 refine Tl rfl rfl rfl rfl z40 Ie (fun b1=> ?_)
 refine ao ?_
 refine ao ?_
 refine Tl rfl rfl rfl rfl z40 Ie (fun b2=> ?_)
 refine TO.AK 0 rfl rfl rfl (vl rfl) (Va rfl) rfl CL rfl rfl ?_
 refine ao ?_
 refine Tr.seq (Tr.rx ?_)
 refine ax ?_
 refine xo rfl (fun _=>Iq rfl underlying22 Bt He z3 rfl AB (vl rfl) Ov O3) ?_
 refine ax ?_
 refine xo rfl (fun _=>Iq rfl underlying22 Bt He z3 rfl AB (vl rfl) Ov O3) ?_
 refine ax ?_
 refine xo rfl (fun _=>Iq rfl underlying22 Bt He z3 rfl AB (vl rfl) Ov O3) ?_
 refine xo rfl (fun _=>Ac rfl NX (vl rfl)) (Cx.Dv 0 rfl rfl (A9 rfl rfl (vl rfl) (Vo rfl) NU rfl Ao rfl) (xo rfl (fun _=>Ac rfl kA (vl rfl)) (Cx.Dv 0 rfl rfl (A9 rfl rfl (vl rfl) (Vo rfl) NU rfl Ao rfl) (xo rfl (fun _=>Ac rfl kB (vl rfl)) (Cx.Dv 0 rfl rfl (A9 rfl rfl (vl rfl) (Vo rfl) NU rfl Ao rfl) ?_)))))
 refine Cx.nil ⟨by kernel_rfl,?_⟩
 refine BO.done Wh (Fin.go (wk [3,2,1] rfl ?_))
 refine ao ?_
 refine TO.Dv 0 rfl rfl (A9 rfl rfl (vl rfl) (Vo rfl) j9 rfl Ao rfl) ?_
 refine ao ?_
 refine ac ?_
 refine Tr.block (Tr.Ho 0 [str e.name,int e.least,int e.most,ints e.Az,bool e.own,Ab (.slice none 0 0) (slice 4 ((e.ids.take 0).map G1)),ints e.anchors,ints e.hashes,bool e.Mb] rfl ⟨Lr,Lr,Lr,Lr,Lr,Bl rfl,Lr,Lr,Lr,trivial⟩ (Tr.B6 84 4 (Tr.ET _ (kk [22,21,3,2] rfl) (fun k v=>[(23,int ((k:Nat):Int))]) (fun k v=>Hp M0 w0 FO ([As 84 4 v,AF true b2 40 [str e.name,int e.least,int e.most,ints e.Az,bool e.own,Ab v (slice 4 ((e.ids.take k).map G1)),ints e.anchors,ints e.hashes,bool e.Mb],AF true b1 40 (([.string (ByteArray.mk #[]),.int .i64 0,.int .i64 0,.slice none 0 0,.bool false,.slice none 0 0,.slice none 0 0,.slice none 0 0,.bool false]:List Value).map is)])) (fun k:Nat=>k≤(e.ids).length) (fun k:Nat=>(e.ids).length-k) 0 (.slice none 0 0) (Nat.zero_le _) kz (fun _ _ h=>h) ?_)))
 rintro k v BV
 refine ac ?_
 refine Tr.seq ?_
 refine Tr.cn rfl ?_ ?_<;>intro h1 q1
 have Ah:k<(e.ids).length:=AH h1
 obtain ⟨x,Ai⟩:=at_ Ah
 have hxs:=IW.ids x (List.mem_of_getElem? Ai)
 refine ac ?_
 refine Tr.seq (Tr.block (Tr.seq (Tr.Ap (tp rfl (AD rfl underlying38 Fc (vl rfl) (vl rfl) AA CF) ?_))))
 refine tp rfl (AQ rfl S1 Fc (vl rfl) rfl rfl) ?_
 refine Tl rfl rfl rfl rfl Xw WN (fun b3=> ?_)
 refine sf 0 5 ⟨rfl,rfl,rfl⟩ rfl rfl rfl rfl ?_
 refine ao ?_
 refine Tr.pad (Tr.rx ?_)
 refine ax ?_
 refine xo rfl (fun _=>Cn (Lw hxs) rfl rfl) (xo rfl (fun _=>AM (xs:=[.tmp 30]) (rows:=[_]) rfl rfl underlying38 Fc Xw rfl AB ⟨⟨Am,(Va rfl)⟩,trivial⟩ AB) ?_)
 refine Cx.ef 1 rfl rfl AB (B1 rfl rfl rfl rfl underlying38 Fc eZ Xw (Kb rfl) (Kf rfl) (Ax BN (Ka rfl))) ?_
 refine xo rfl (fun _=>Ac rfl Qc (vl rfl)) (Cx.Dv 2 rfl rfl (Fz rfl rfl rfl (vl rfl) rfl j9 Ao) ?_)
 refine Cx.nil ⟨by kernel_rfl,?_⟩
 refine BO.Qa 1 2 32 rfl rfl AB rfl (fun v1=> ?_)
 refine BO.done al4 ?_
 refine ac ?_
 refine Tr.drop 0 (wk [23,22,21,3,2] rfl ?_)
 refine ac ?_
 refine Fin.Ho 1 [str e.name,int e.least,int e.most,ints e.Az,bool e.own,Ab v1 (slice 4 ((e.ids.take (k+1)).map G1)),ints e.anchors,ints e.hashes,bool e.Mb] rfl ⟨Lr,Lr,Lr,Lr,Lr,BC (Rm (f:=G1) Ai),Lr,Lr,Lr,trivial⟩ (Fin.DD (k+1) v1 (⟨Ah,by omega⟩) ⟨⟨_,rfl,AG k⟩,kz⟩ (fun _ _ h=>h))
 have BP:k=(e.ids).length:=by have:=AJ h1;omega
 subst BP
 refine ac ?_
 refine ao ?_
 refine TO.AK 2 rfl rfl rfl (vl rfl) (Va rfl) rfl CL rfl rfl ?_
 refine ao ?_
 refine Tr.ret (Fin.CV rfl (AO.cell 2 rfl rfl Cy CL rfl Lr) ?_)
 · exact BT ⟨Lr,Lr,Lr,Lr,Lr,Pr.le_trans (Aq _ _) (Pr.le_of_eq O7),Lr,Lr,Lr,trivial⟩
theorem Vd {e:B_} {c:BX} (IW:e.small) (hcs:c.C2.small):BD prog 315 [agg (Bk e),agg (El c)] (int (Sg e c)):=by
 refine fo func315 rfl ⟨rfl,rfl⟩ fun M0 w0=> ?_
 refine ac ?_
 refine ac ?_
 refine co rfl (Cn (FK IW) rfl rfl) ?_
 refine ac ?_
 refine Tr.cn rfl ?_ ?_<;>intro h1 q1
 refine ac ?_
 refine ac ?_
 · refine int_eq ?_;unfold Sg;repeat (refine (if_pos ?_).symm;simp_all)
 refine ac ?_
 refine ac ?_
 refine co rfl (Cn (gu (c:=c) hcs) rfl rfl) ?_
 refine ac ?_
 refine Tr.cn rfl ?_ ?_<;>intro h2 q2
 refine ac ?_
 refine ac ?_
 · exact YL
 refine ac ?_
 refine UX 2 3 rfl (Tr.UQ [2,3] [] (¬(c.kind=1∧(c.at_<0∨(e.Az.length:Int)<c.at_))∧¬(c.kind=5∧(c.at_<0∨(e.ids.length:Int)<c.at_))∧¬((c.kind=11∨c.kind=12)∧(c.number≠0∧c.number≠1))) ?_ (fun AHi=> ?_))
 refine ac ?_
 refine ac ?_
 refine Tr.cn rfl ?_ ?_<;>intro h4 q4
 refine ac ?_
 refine Ch.cs 27 rfl ?_ ?_<;>intro h5 q5
 refine ac ?_
 refine GM 2 3 34 rfl ?_
 refine ac ?_
 refine ac ?_
 · exact YL
 refine ac ?_
 refine GM 2 3 34 rfl ?_
 refine Tr.cn rfl ?_ ?_<;>intro h6 q6
 refine ac ?_
 refine ac ?_
 · exact YL
 refine Tr.skip (Fin.block (Fin.AL () AA (Yc rfl)))
 refine ac ?_
 refine Tr.cn rfl ?_ ?_<;>intro h7 q7
 refine ac ?_
 refine Ch.cs 40 rfl ?_ ?_<;>intro h8 q8
 refine ac ?_
 refine GM 2 3 47 rfl ?_
 refine ac ?_
 refine ac ?_
 · exact Px
 refine ac ?_
 refine GM 2 3 47 rfl ?_
 refine Tr.cn rfl ?_ ?_<;>intro h9 q9
 refine ac ?_
 refine ac ?_
 · exact Px
 refine Tr.skip (Fin.block (Fin.AL () AA (Yc rfl)))
 refine ac ?_
 refine Tr.cn rfl ?_ ?_<;>intro h10 Q4
 refine ac ?_
 refine Tr.cond rfl (fun _=> ?_) (fun h=>nomatch h10.symm.trans h)
 refine ac ?_
 refine Ch.cs 54 rfl ?_ ?_<;>intro h11 SK
 refine ac ?_
 refine GM 2 3 58 rfl ?_
 refine Tr.cn rfl ?_ ?_<;>intro h12 Vt
 refine ac ?_
 refine ac ?_
 · exact Px
 refine Tr.skip (Fin.block (Fin.AL () AA (Yc rfl)))
 refine ac ?_
 refine GM 2 3 58 rfl (Tr.cond rfl (fun h=>nomatch h) (fun _=> ?_))
 refine Tr.skip (Fin.block (Fin.AL () AA (Yc rfl)))
 refine ac ?_
 refine Tr.cn rfl ?_ ?_<;>intro JR Yv
 refine ac ?_
 refine Ch.cs 54 rfl ?_ ?_<;>intro Jm lP
 refine ac ?_
 refine GM 2 3 58 rfl ?_
 refine Tr.cn rfl ?_ ?_<;>intro WJ q15
 refine ac ?_
 refine ac ?_
 · exact Px
 refine Tr.skip (Fin.block (Fin.AL () AA (Yc rfl)))
 refine ac ?_
 refine GM 2 3 58 rfl (Tr.cond rfl (fun h=>nomatch h) (fun _=> ?_))
 refine Tr.skip (Fin.block (Fin.AL () AA (Yc rfl)))
 refine Tr.skip (Fin.block (Fin.AL () AA (Yc rfl)))
 refine UX 2 3 rfl (Tr.UQ [2,3] [] (¬((GJ e c.kind).2.2=true∧decide (0≤idx (fun y=>c.number==y) (GJ e c.kind).1)=(GJ e c.kind).2.1)) ?_ (fun AHj=> ?_))
 refine ac ?_
 refine co rfl (CK (XW) rfl rfl rfl) ?_
 refine ac ?_
 refine ac ?_
 refine Ch.cs 68 rfl ?_ ?_<;>intro Og q17
 refine ac ?_
 refine cy Og rfl (CK (I5) rfl rfl rfl) ?_
 refine ac ?_
 refine GM 2 3 76 rfl ?_
 refine Tr.cn rfl ?_ ?_<;>intro R5 q18
 refine ac ?_
 refine ac ?_
 · exact jB
 refine Tr.skip (Fin.AL () CG (Yc rfl))
 refine ac ?_
 refine GM 2 3 76 rfl (Tr.cond rfl (fun h=>nomatch h) (fun _=> ?_))
 refine Tr.skip (Fin.AL () CG (Yc rfl))
 refine UX 2 3 rfl (Tr.UQ [2,3] [] (¬((HU e c.kind).2=true∧(HU e c.kind).1=c.number)) ?_ (fun hval=> ?_))
 refine ac ?_
 refine co rfl (CK (Zq) rfl rfl rfl) ?_
 refine ac ?_
 refine ac ?_
 refine Ch.cs 85 rfl ?_ ?_<;>intro R7 q20
 refine ac ?_
 refine GM 2 3 90 rfl ?_
 refine Tr.cn rfl ?_ ?_<;>intro bk q21
 refine ac ?_
 refine ac ?_
 · exact jB
 refine Tr.skip (Fin.AL () CG (Yc rfl))
 refine ac ?_
 refine GM 2 3 90 rfl (Tr.cond rfl (fun h=>nomatch h) (fun _=> ?_))
 refine Tr.skip (Fin.AL () CG (Yc rfl))
 refine UX 2 3 rfl (Tr.UQ [2,3] [] (¬(c.kind=5∧0<Fj c.C2.CS e.ids)) ?_ (fun AHk=> ?_))
 refine ac ?_
 refine Tr.cn rfl ?_ ?_<;>intro h23 q23
 refine ac ?_
 refine co rfl (CK (Nz IW.YE) rfl rfl rfl) ?_
 refine ac ?_
 refine GM 2 3 10 rfl ?_
 refine ac ?_
 refine Tr.cn rfl ?_ ?_<;>intro NG q24
 refine ac ?_
 refine ac ?_
 · exact Px
 refine Tr.skip (Fin.AL () AA (Yc rfl))
 refine Tr.skip (Fin.AL () AA (Yc rfl))
 refine ac ?_
 refine Tr.cn rfl ?_ ?_<;>intro h25 q25
 refine ac ?_
 refine co rfl (CK (Nz IW.YE) rfl rfl rfl) ?_
 refine ac ?_
 refine L2 12 rfl ?_
 refine ac ?_
 refine Tr.cn rfl ?_ ?_<;>intro h26 q26
 refine ac ?_
 refine ac ?_
 · exact Px
 refine ac ?_
 refine ac ?_
 refine Tr.cn rfl ?_ ?_<;>intro h27 q27
 refine ac ?_
 refine ac ?_
 · exact Px
 refine ac ?_
 refine ac ?_
 refine ac ?_
 · exact jG
 refine ac ?_
 refine ac ?_
 refine ac ?_
 · exact jG
def Tn (e:Dc) (c:BX):Dc×Int:=if (LD e.Bs c).2=0 then (⟨(LD e.Bs c).1,e.BS,e.items⟩,0) else (F4,(LD e.Bs c).2)
def Ve (x:IE) (l:List BX) (i:Nat):Bool:=(l[i]?).any fun c=>decide (c.AX=x.client∨c.AX=x.server)
def N1 (x:IE) (l:List BX) (k:Nat):List Int:=((List.range k).filter (Ve x l)).map fun i:Nat=>(i:Int)
theorem XY {x:IE} {l:List BX} {k:Nat} (h:Ve x l k=true):N1 x l (k+1)=N1 x l k++[(k:Int)]:=by unfold N1;rw [List.range_succ,List.filter_append,List.map_append];simp [h]
theorem uW {x:IE} {l:List BX} {k:Nat} (h:Ve x l k=false):N1 x l (k+1)=N1 x l k:=by unfold N1;rw [List.range_succ,List.filter_append,List.map_append];simp [h]
theorem XZ (x:IE) (l:List BX) (k:Nat):(N1 x l k).length≤k:=by unfold N1;rw [List.length_map];exact Nat.le_trans (List.length_filter_le _ _) Oy
def Jf (e:Dc) (l:List BX) (k:Int):List Int×Int:=
 if FM e=false then ([],31) else if 24<l.length then ([],3) else if k<0∨((e.BS.length:Nat):Int)≤k then ([],4)
 else (N1 (e.BS[k.toNat]?.getD Ga) l l.length,0)
theorem AGN {e e2:B_} {c b:BX} (h:c.kind=1) (hs:B9 e c= .ok (e2,b)):(0≤c.at_∧c.at_≤(e.Az.length:Nat))∧e2={ e with Az:=e.Az.take c.at_.toNat++[c.number]++e.Az.drop c.at_.toNat }∧b=⟨c.AX,2,c.number,0,Bv⟩:=by
 rw [PO h] at hs
 (repeat' (split at hs))<;>first|(cases hs;done)|(injection hs with hs;injection hs with h1 h2;exact ⟨by omega,h1.symm,h2.symm⟩)
theorem AGO {e e2:B_} {c b:BX} (h:c.kind=2) (hs:B9 e c= .ok (e2,b)):(0≤Me e c)∧e2={ e with Az:=e.Az.eraseIdx (Me e c).toNat }∧b=⟨c.AX,1,c.number,Me e c,Bv⟩:=by
 rw [PR h] at hs
 (repeat' (split at hs))<;>first|(cases hs;done)|(injection hs with hs;injection hs with h1 h2;exact ⟨by omega,h1.symm,h2.symm⟩)
theorem AGP {e e2:B_} {c b:BX} (h:c.kind=3) (hs:B9 e c= .ok (e2,b)):e2={ e with most:=c.number }∧b=⟨c.AX,c.kind,e.most,0,Bv⟩:=by
 rw [PT h] at hs
 (repeat' (split at hs))<;>first|(cases hs;done)|(injection hs with hs;injection hs with h1 h2;exact ⟨h1.symm,h2.symm⟩)
theorem AGQ {e e2:B_} {c b:BX} (h:c.kind=4) (hs:B9 e c= .ok (e2,b)):e2={ e with least:=c.number }∧b=⟨c.AX,c.kind,e.least,0,Bv⟩:=by
 rw [PU h] at hs
 (repeat' (split at hs))<;>first|(cases hs;done)|(injection hs with hs;injection hs with h1 h2;exact ⟨h1.symm,h2.symm⟩)
theorem AGR {e e2:B_} {c b:BX} (h:c.kind=5) (hs:B9 e c= .ok (e2,b)):(0≤c.at_∧c.at_≤(e.ids.length:Nat))∧e2={ e with ids:=e.ids.take c.at_.toNat++[c.C2]++e.ids.drop c.at_.toNat }∧b=⟨c.AX,6,c.C2.CS,0,Bv⟩:=by
 rw [PV h] at hs
 (repeat' (split at hs))<;>first|(cases hs;done)|(injection hs with hs;injection hs with h1 h2;exact ⟨by omega,h1.symm,h2.symm⟩)
theorem AGS {e e2:B_} {c b:BX} (h:c.kind=6) (hs:B9 e c= .ok (e2,b)):∃x,e.ids[(Bo c.number e.ids).toNat]? =some x∧0≤Bo c.number e.ids∧e2={ e with ids:=e.ids.eraseIdx (Bo c.number e.ids).toNat }∧b=⟨c.AX,5,0,Bo c.number e.ids,x⟩:=by
 rw [PW h] at hs
 (repeat' (split at hs))<;>first|(cases hs;done)|(injection hs with hs;injection hs with h1 h2;exact ⟨_,by assumption,by omega,h1.symm,h2.symm⟩)
theorem AGT {e e2:B_} {c b:BX} (h:c.kind=7) (hs:B9 e c= .ok (e2,b)):Fi e.anchors c.number=false∧e2={ e with anchors:=Yu e.anchors c.number }∧b=⟨c.AX,8,c.number,0,Bv⟩:=by
 rw [PX h] at hs
 (repeat' (split at hs))<;>first|(cases hs;done)|(injection hs with hs;injection hs with h1 h2;exact ⟨by simp_all,h1.symm,h2.symm⟩)
theorem AGU {e e2:B_} {c b:BX} (h:c.kind=8) (hs:B9 e c= .ok (e2,b)):Fi e.anchors c.number=true∧e2={ e with anchors:=e.anchors.eraseIdx (Ew e.anchors c.number) }∧b=⟨c.AX,7,c.number,0,Bv⟩:=by
 rw [PY h] at hs
 (repeat' (split at hs))<;>first|(cases hs;done)|(injection hs with hs;injection hs with h1 h2;exact ⟨by simp_all,h1.symm,h2.symm⟩)
theorem AGV {e e2:B_} {c b:BX} (h:c.kind=9) (hs:B9 e c= .ok (e2,b)):Fi e.hashes c.number=false∧e2={ e with hashes:=Yu e.hashes c.number }∧b=⟨c.AX,10,c.number,0,Bv⟩:=by
 rw [PZ h] at hs
 (repeat' (split at hs))<;>first|(cases hs;done)|(injection hs with hs;injection hs with h1 h2;exact ⟨by simp_all,h1.symm,h2.symm⟩)
theorem AC_ {e e2:B_} {c b:BX} (h:c.kind=10) (hs:B9 e c= .ok (e2,b)):Fi e.hashes c.number=true∧e2={ e with hashes:=e.hashes.eraseIdx (Ew e.hashes c.number) }∧b=⟨c.AX,9,c.number,0,Bv⟩:=by
 rw [Mf h] at hs
 (repeat' (split at hs))<;>first|(cases hs;done)|(injection hs with hs;injection hs with h1 h2;exact ⟨by simp_all,h1.symm,h2.symm⟩)
theorem ADA {e e2:B_} {c b:BX} (h:c.kind=11) (hs:B9 e c= .ok (e2,b)):e2={ e with Mb:=(c.number==1) }∧b=⟨c.AX,c.kind,K1 e.Mb,0,Bv⟩:=by
 rw [Mg h] at hs
 (repeat' (split at hs))<;>first|(cases hs;done)|(injection hs with hs;injection hs with h1 h2;exact ⟨h1.symm,h2.symm⟩)
theorem ADB {e e2:B_} {c b:BX} (h:c.kind=12) (hs:B9 e c= .ok (e2,b)):e2={ e with own:=(c.number==1) }∧b=⟨c.AX,c.kind,K1 e.own,0,Bv⟩:=by
 rw [Mh h] at hs
 (repeat' (split at hs))<;>first|(cases hs;done)|(injection hs with hs;injection hs with h1 h2;exact ⟨h1.symm,h2.symm⟩)
theorem uX {e:B_} {c:BX} (h:0≤Me e c):(Me e c).toNat<e.Az.length:=by obtain ⟨_,_,_,h3⟩:=PL (p:=fun y=>c.number==y) (l:=e.Az) h;exact h3
theorem gv {e e2:B_} {c b:BX} (IW:e.small) (hcs:c.C2.small) (hce:GO e=true) (hc:JM c) (hs:B9 e c= .ok (e2,b)):BD prog 316 [agg (Bk e),agg (El c)] (agg (Bk e2)):=by
 refine fo func316 rfl ⟨rfl,rfl⟩ fun M0 w0=> ?_
 have hk:=hc.1
 have ok:=DG.1 hce
 have hs1:=IW.Az
 have Uw:=IW.anchors
 have hs3:=IW.hashes
 have hs4:=IW.YE
 refine Tr.seq (Tr.Ap (tp rfl (Bn rfl (Va rfl)) (tp rfl (Bn rfl (Va rfl)) ?_)))
 refine Tl rfl rfl rfl rfl z40 Ie (fun b1=> ?_)
 refine ap ?_
 refine ap ?_
 refine tp rfl (Cn (Tm IW) rfl rfl) ?_
 refine Tl rfl rfl rfl rfl z40 Ie (fun b2=> ?_)
 refine ap ?_
 refine ac ?_
 refine an ?_ ?_<;>intro h1 q1
 obtain ⟨hr,rfl,rfl⟩:=AGN q1 hs
 refine ap ?_
 refine tp rfl (AV rfl (N0 (l:=e.Az) (i:=c.at_.toNat) AA hs1) ⟨ke rfl,⟨_,rfl,int_eq AA⟩,kz⟩) ?_
 refine ap ?_
 refine wk [5,4] rfl ?_
 refine ap ?_
 refine Tr.drop 0 (Tr.ret (Fin.CV rfl (AO.cell 0 rfl rfl Cy CL rfl Lr) ?_))
 · exact Lr
 refine ac ?_
 refine wk [24,13,5,4,3,2] rfl ?_
 refine Tr.cn rfl ?_ ?_<;>intro h2 q2
 obtain ⟨hr,rfl,rfl⟩:=AGO q2 hs
 refine Tr.rx ?_
 refine ay ?_
 refine xo rfl (fun _=>CK (I5) rfl rfl rfl) ?_
 refine xo rfl (fun _=>AV rfl (I6 (l:=e.Az) (i:=(Me e c).toNat) (uX hr) hs1) ⟨ke rfl,⟨_,rfl,int_eq (show Me e c=_ by omega)⟩,trivial⟩) ?_
 refine ay ?_
 refine Cx.nil ⟨by kernel_rfl,?_⟩
 refine BO.done Wh ?_
 refine ac ?_
 refine wk [5,4] rfl ?_
 refine ap ?_
 refine Tr.drop 0 (Tr.ret (Fin.CV rfl (AO.cell 0 rfl rfl Cy CL rfl Lr) ?_))
 · exact Lr
 refine an ?_ ?_<;>intro h3 q3
 obtain ⟨rfl,rfl⟩:=AGP q3 hs
 refine ap ?_
 refine ap ?_
 refine Tr.drop 0 (Tr.ret (Fin.CV rfl (AO.cell 0 rfl rfl Cy CL rfl Lr) ?_))
 · exact Lr
 refine an ?_ ?_<;>intro h4 q4
 obtain ⟨rfl,rfl⟩:=AGQ q4 hs
 refine ap ?_
 refine ap ?_
 refine Tr.drop 0 (wk [4] rfl (Tr.ret (Fin.CV rfl (AO.cell 0 rfl rfl Cy CL rfl Lr) ?_)))
 · exact Lr
 refine an ?_ ?_<;>intro h5 q5
 obtain ⟨hr,rfl,rfl⟩:=AGR q5 hs
 refine ap ?_
 refine tp rfl (DM rfl underlying38 Fc (vl rfl) (vl rfl) AA B4) ?_
 refine TO.pad ?_
 refine TO.DQ 0 rfl rfl AB (D3 rfl rfl AB rfl underlying38 Fc eZ Xw rfl AB ⟨_,rfl,AP _⟩ (vl rfl) IF IG (Bq BN ⟨_,rfl,C8 1⟩)) (fun v1=> ?_)
 refine ap ?_
 refine wk [6,5,4,3] rfl ?_
 refine ap ?_
 refine tp rfl (Cn (Lw hcs) rfl rfl) (tp rfl (AM (xs:=[.tmp 56]) (rows:=[_]) rfl rfl underlying38 Fc Xw rfl AB ⟨⟨Am,(Va rfl)⟩,trivial⟩ AB) ?_)
 refine TO.DQ 0 rfl rfl AB (B1 rfl rfl rfl rfl underlying38 Fc eZ Xw (Kb rfl) (Kf rfl) (Ax BN (Ka rfl))) (fun v2=> ?_)
 refine ap ?_
 refine ap ?_
 refine tp rfl (DC rfl underlying38 Fc (vl rfl) (vl rfl) AA B4) ?_
 refine TO.DQ 0 rfl rfl AB (B1 rfl rfl rfl rfl underlying38 Fc eZ Xw (Kb rfl) (vl rfl) (Ax BN (Ka rfl))) (fun v3=> ?_)
 refine ap ?_
 refine wk [5,4] rfl ?_
 refine ap ?_
 refine Tr.drop 1 (Tr.ret (Fin.CV rfl (AO.cell 1 rfl rfl Cy CL rfl Lr) ?_))
 · exact BT ⟨Lr,Lr,Lr,Lr,Lr,Pr.le_trans (Aq _ _) (Pr.le_of_eq (by show _=slice 4 ((e.ids.take c.at_.toNat++[c.C2]++e.ids.drop c.at_.toNat).map G1);simp [List.map_take,List.map_drop])),Lr,Lr,Lr,trivial⟩
 refine ac ?_
 refine wk [67,13,5,4,3,2] rfl ?_
 refine Tr.cn rfl ?_ ?_<;>intro h6 q6
 obtain ⟨x_,hx_,hr,rfl,rfl⟩:=AGS q6 hs
 have hlt:=BI hx_
 refine ac ?_
 refine co rfl (CK (Nz hs4) rfl rfl rfl) ?_
 refine ac ?_
 refine wk [8,5,4] rfl ?_
 refine ap ?_
 refine tp rfl (DM rfl underlying38 Fc (vl rfl) (vl rfl) AA B4) ?_
 refine TO.pad ?_
 refine TO.DQ 0 rfl rfl AB (D3 rfl rfl AB rfl underlying38 Fc eZ Xw rfl AB ⟨_,rfl,AP _⟩ (vl rfl) IF IG (Bq BN ⟨_,rfl,C8 1⟩)) (fun v4=> ?_)
 refine ap ?_
 refine ap ?_
 refine tp rfl (DC rfl underlying38 Fc (vl rfl) (vl rfl) AA B4) ?_
 refine TO.DQ 0 rfl rfl AB (B1 rfl rfl rfl rfl underlying38 Fc eZ Xw (Kb rfl) (vl rfl) (Ax BN (Ka rfl))) (fun v5=> ?_)
 refine ap ?_
 refine wk [5,4] rfl ?_
 refine ap ?_
 refine Tr.drop 1 (Tr.ret (Fin.CV rfl (AO.cell 1 rfl rfl Cy CL rfl Lr) ?_))
 · exact BT ⟨Lr,Lr,Lr,Lr,Lr,Pr.le_trans (Aq _ _) (Pr.le_of_eq (by show _=slice 4 ((e.ids.eraseIdx (Bo c.number e.ids).toNat).map G1);rw [List.eraseIdx_eq_take_drop_succ,show (Bo c.number e.ids+1).toNat=(Bo c.number e.ids).toNat+1 by omega];simp [List.map_take,List.map_drop])),Lr,Lr,Lr,trivial⟩
 refine an ?_ ?_<;>intro h7 q7
 obtain ⟨hr,rfl,rfl⟩:=AGT q7 hs
 refine ap ?_
 refine tp rfl (CK (OY Uw) rfl rfl rfl) ?_
 refine ap ?_
 refine wk [5,4] rfl ?_
 refine ap ?_
 refine Tr.drop 0 (Tr.ret (Fin.CV rfl (AO.cell 0 rfl rfl Cy CL rfl Lr) ?_))
 · exact Lr
 refine an ?_ ?_<;>intro h8 q8
 obtain ⟨hr,rfl,rfl⟩:=AGU q8 hs
 refine Tr.rx ?_
 refine ay ?_
 refine xo rfl (fun _=>CK (I5) rfl rfl rfl) ?_
 refine xo rfl (fun _=>AV rfl (I6 (l:=e.anchors) (i:=Ew e.anchors c.number) (U2 hr) Uw) ⟨ke rfl,⟨_,rfl,int_eq (by rw [Vc (PN ok.anc),if_pos hr])⟩,trivial⟩) ?_
 refine ay ?_
 refine Cx.nil ⟨by kernel_rfl,?_⟩
 refine BO.done Wh ?_
 refine ac ?_
 refine wk [5,4] rfl ?_
 refine ap ?_
 refine Tr.drop 0 (Tr.ret (Fin.CV rfl (AO.cell 0 rfl rfl Cy CL rfl Lr) ?_))
 · exact Lr
 refine an ?_ ?_<;>intro h9 q9
 obtain ⟨hr,rfl,rfl⟩:=AGV q9 hs
 refine ap ?_
 refine tp rfl (CK (OY hs3) rfl rfl rfl) ?_
 refine ap ?_
 refine wk [5,4] rfl ?_
 refine ap ?_
 refine Tr.drop 0 (Tr.ret (Fin.CV rfl (AO.cell 0 rfl rfl Cy CL rfl Lr) ?_))
 · exact Lr
 refine ac ?_
 refine wk [116,13,5,4,3,2] rfl ?_
 refine Tr.cn rfl ?_ ?_<;>intro h10 Q4
 obtain ⟨hr,rfl,rfl⟩:=AC_ Q4 hs
 refine Tr.rx ?_
 refine ay ?_
 refine xo rfl (fun _=>CK (I5) rfl rfl rfl) ?_
 refine xo rfl (fun _=>AV rfl (I6 (l:=e.hashes) (i:=Ew e.hashes c.number) (U2 hr) hs3) ⟨ke rfl,⟨_,rfl,int_eq (by rw [Vc (PN ok.hash),if_pos hr])⟩,trivial⟩) ?_
 refine ay ?_
 refine Cx.nil ⟨by kernel_rfl,?_⟩
 refine BO.done Wh ?_
 refine ac ?_
 refine wk [5,4] rfl ?_
 refine ap ?_
 refine Tr.drop 0 (Tr.ret (Fin.CV rfl (AO.cell 0 rfl rfl Cy CL rfl Lr) ?_))
 · exact Lr
 refine an ?_ ?_<;>intro h11 SK
 obtain ⟨rfl,rfl⟩:=ADA SK hs
 refine ap ?_
 refine ap ?_
 refine Tr.drop 0 (Tr.ret (Fin.CV rfl (AO.cell 0 rfl rfl Cy CL rfl Lr) ?_))
 · exact Lr
 refine an ?_ ?_<;>intro h12 Vt
 obtain ⟨rfl,rfl⟩:=ADB Vt hs
 refine ap ?_
 refine wk [5,4] rfl ?_
 refine ap ?_
 refine Tr.drop 0 (Tr.ret (Fin.CV rfl (AO.cell 0 rfl rfl Cy CL rfl Lr) ?_))
 · exact Lr
 exfalso;omega
theorem Zs {e:B_} {c:BX} {n:Nat} (hz:e.sz n) (hn:n≤900000) (hi:c.C2.fits∧c.C2.small):BD prog 303 [agg (Bk e),agg (El c)] (EA [agg (Bk (EC e c).1),int (EC e c).2.2]):=by
 refine fo func303 rfl ⟨rfl,rfl⟩ fun M0 w0=> ?_
 have IW:=hz.small AA
 have hcs:=hi.2
 refine Tr.seq (Tr.Ap (tp rfl (Bn rfl C1) (tp rfl (Bn rfl C1) ?_)))
 refine Tl rfl rfl rfl rfl z40 Ie (fun b1=> ?_)
 refine ao ?_
 refine ac ?_
 refine co rfl (CK (Vd IW hcs) rfl rfl rfl) ?_
 refine ac ?_
 refine an ?_ ?_<;>intro h1 q1
 have hb:=uV q1
 refine ao ?_
 refine TO.AK 0 rfl rfl rfl vq C1 rfl CL rfl rfl ?_
 refine ao ?_
 refine wk [5,4] rfl (Tr.ret (Fin.AE (Fin.Ba rfl (AO.cell 0 rfl rfl Cy CL rfl Lr) (AO.tmp rfl Lr) ?_)))
 refine A_ ⟨?_,?_,trivial⟩
 · exact aI
 · exact int_eq (by rw [hb])
 obtain ⟨hce,hc,e2,b,hs⟩:=yx (e:=e) (c:=c) (by have:=q1;omega)
 have AGW:=(cN hc hs hz hi).1.small AA
 refine ac ?_
 refine ao ?_
 refine tp rfl (CK (gv IW hcs hce hc hs) rfl rfl rfl) ?_
 refine Tl rfl rfl rfl rfl z40 Ie (fun b2=> ?_)
 refine sf 0 7 ⟨rfl,rfl,rfl⟩ rfl rfl rfl rfl ?_
 refine ao ?_
 refine wk [7,4] rfl ?_
 refine ac ?_
 refine co rfl (Cn (FK AGW) rfl rfl) ?_
 refine an ?_ ?_<;>intro h2 q2
 have hb:=sS hce hc hs (by have:=q2;cases h_:GO e2<;>simp_all)
 refine ao ?_
 refine TO.AK 0 rfl rfl rfl vq C1 rfl CL rfl rfl ?_
 refine ao ?_
 refine Tr.ret (Fin.AE (Fin.Ba rfl (AO.cell 0 rfl rfl Cy CL rfl Lr) (AO.tmp rfl Lr) ?_))
 refine A_ ⟨?_,?_,trivial⟩
 · exact aI
 · exact int_eq (by rw [hb])
 have hb:=lM hce hc hs (by have:=q2;cases h_:GO e2<;>simp_all)
 refine ac ?_
 refine ao ?_
 refine TO.AK 0 rfl rfl rfl vq C1 rfl CL rfl rfl ?_
 refine ao ?_
 refine Tr.ret (Fin.Ba rfl (AO.cell 0 rfl rfl Cy CL rfl Lr) (AO.tmp rfl Lr) ?_)
 refine A_ ⟨?_,?_,trivial⟩
 · rw [hb];exact Lr
 · exact int_eq (by rw [hb])
theorem Rn {e:Dc} {n:Nat} (hz:e.sz n) (hn:n≤1000000):Om prog 286 [agg (CE e)] (fun x=>agg [is x,H8 e.BS,Q7 e.items]) (fun x=>[Bx 40 9 (e.Bs.map Bk) x]):=by
 refine Om.of func286 rfl rfl Ao fun M0 w0 S rs M1 w1=> ?_
 have hl1:=hz.le
 have hl2:=hz.lg
 have hl3:=hz.li
 refine Tr.seq (Tr.Ap (tp rfl (Bn rfl (Va rfl)) ?_))
 refine Tl rfl rfl rfl rfl z31 Hx (fun b1=> ?_)
 refine ao ?_
 refine ao ?_
 refine tp rfl (Iq rfl underlying28 Et vD Yi rfl AB (vl rfl) jO jU) ?_
 refine tp rfl (oD) ?_
 refine Tl rfl rfl rfl rfl z31 Hx (fun b2=> ?_)
 refine TO.AK 0 rfl rfl rfl (vl rfl) (Va rfl) rfl DR rfl rfl ?_
 refine ao ?_
 refine ac ?_
 refine Tr.block (Tr.Ho 0 [Ab (.slice none 0 0) (lens ((e.Bs.take 0).map Bk).length),H8 e.BS,is (.slice none 0 0)] rfl ⟨GK rfl,Lr,Lr,trivial⟩ (Tr.Hf 40 9 (Tr.ET _ (kk [14,13,3,2,1] rfl) (fun k v=>[(15,int ((k:Nat):Int))]) (fun k v=>Hp M0 w0 S (BQ 40 9 ((e.Bs.take k).map Bk) v::AF true b2 31 [Ab v (lens ((e.Bs.take k).map Bk).length),H8 e.BS,is (.slice none 0 0)]::AF true b1 31 (([.slice none 0 0,.slice none 0 0,.slice none 0 0]:List Value).map is)::Ak M1 w1::rs)) (fun k:Nat=>k≤(e.Bs).length) (fun k:Nat=>(e.Bs).length-k) 0 (.slice none 0 0) (Nat.zero_le _) kz (fun _ _ h=>h) ?_)))
 rintro k v BV
 refine ac ?_
 refine Tr.seq ?_
 refine Tr.cn rfl ?_ ?_<;>intro h1 q1
 have Ah:k<(e.Bs).length:=AH h1
 obtain ⟨x,Ai⟩:=at_ Ah
 have hxs:=(hz.Bs x (List.mem_of_getElem? Ai)).small hn
 refine ac ?_
 refine Tr.seq (Tr.block (Tr.seq (Tr.Ap (tp rfl (AD rfl underlying27 CL (vl rfl) (vl rfl) AA CF) ?_))))
 refine tp rfl (AQ rfl Cy CL (vl rfl) rfl rfl) ?_
 refine Tl rfl rfl rfl rfl z40 Ie (fun b3=> ?_)
 refine sf 0 5 ⟨rfl,rfl,rfl⟩ rfl rfl rfl rfl ?_
 refine ao ?_
 refine Tr.pad (Tr.rx ?_)
 refine ax ?_
 refine xo rfl (fun _=>Cn (Tm hxs) rfl rfl) (xo rfl (fun _=>AM (xs:=[.tmp 22]) (rows:=[_]) rfl rfl underlying27 CL z40 rfl AB ⟨⟨Am,(Va rfl)⟩,trivial⟩ AB) ?_)
 refine Cx.ef 1 rfl rfl AB (FI rfl rfl AB rfl underlying27 CL wW z40 rfl AB AB (vl rfl) (Kf rfl) (Bb fun _=>rfl) (Nat.zero_lt_succ _) (by simp only [List.length_map,List.length_take,List.length_cons,List.length_nil];unfold maxLen;omega) (by simp only [List.length_map,List.length_take,List.length_cons,List.length_nil];omega)) ?_
 refine xo rfl (fun _=>Ac rfl Ic (vl rfl)) (Cx.Dv 2 rfl rfl (Fz rfl rfl rfl (vl rfl) rfl wU Ao) ?_)
 refine Cx.nil ⟨by kernel_rfl,?_⟩
 refine BO.Qa 1 2 24 rfl rfl AB rfl (fun v1=> ?_)
 refine BO.done al5 ?_
 refine ac ?_
 refine Tr.drop 0 (wk [15,14,13,3,2,1] rfl ?_)
 refine ac ?_
 refine Fin.Ho 1 [Ab v1 (lens ((e.Bs.take (k+1)).map Bk).length),H8 e.BS,is (.slice none 0 0)] rfl ⟨Cz (by simp only [List.length_map,List.length_append,List.length_take,List.length_cons,List.length_nil];omega),Lr,Lr,trivial⟩ ?_
 rw [vi (f:=Bk) Ai]
 exact Fin.DD (k+1) v1 (⟨Ah,by omega⟩) ⟨⟨_,rfl,AG k⟩,kz⟩ (fun _ _ h=>h)
 have BP:k=(e.Bs).length:=by have:=AJ h1;omega
 subst BP
 rw [List.take_length]
 refine a2 ?_
 refine Tr.block (Tr.Ho 1 [Ab v (lens (e.Bs.map Bk).length),H8 e.BS,Ab (.slice none 0 0) (Q7 (e.items.take 0))] rfl ⟨Lr,Lr,Bl rfl,trivial⟩ (Tr.B6 135 5 (Tr.ET _ (kk [29,28,3,2] rfl) (fun m u=>[(30,int ((m:Nat):Int))]) (fun m u=>Hp M0 w0 S (As 135 5 u::BQ 40 9 (e.Bs.map Bk) v::AF true b2 31 [Ab v (lens (e.Bs.map Bk).length),H8 e.BS,Ab u (Q7 (e.items.take m))]::AF true b1 31 (([.slice none 0 0,.slice none 0 0,.slice none 0 0]:List Value).map is)::Ak M1 w1::rs)) (fun m:Nat=>m≤(e.items).length) (fun m:Nat=>(e.items).length-m) 0 (.slice none 0 0) (Nat.zero_le _) kz (fun _ _ h=>h) ?_)))
 rintro m u LC
 refine ac ?_
 refine Tr.seq ?_
 refine Tr.cn rfl ?_ ?_<;>intro h2 q2
 have D7:m<(e.items).length:=AH h2
 obtain ⟨y,D_⟩:=at_ D7
 have hyl:=(hz.items y (List.mem_of_getElem? D_)).2
 refine ac ?_
 refine Tr.seq (Tr.block (Tr.seq (Tr.Ap (tp rfl (AD rfl underlying29 HM (vl rfl) (vl rfl) AA CF) ?_))))
 refine tp rfl (AQ rfl Ug HM (vl rfl) rfl rfl) ?_
 refine Tl rfl rfl rfl rfl Uh WR (fun b4=> ?_)
 refine TO.AK 0 rfl rfl rfl (vl rfl) (Va rfl) rfl HM rfl rfl ?_
 refine ao ?_
 refine ao ?_
 refine tp rfl (Iq rfl underlying133 Jo vK z198 rfl AB (vl rfl) jO jU) ?_
 refine tp rfl (Ac rfl Ui (vl rfl)) (TO.Dv 0 rfl rfl (A9 rfl rfl (vl rfl) (Vo rfl) vF rfl Ao rfl) ?_)
 refine ao ?_
 refine wk [30,29,28,7,3,2] rfl ?_
 refine ao ?_
 refine TO.DQ 1 rfl rfl AB (B1 rfl rfl rfl rfl underlying29 HM kG Uh (Kb rfl) (Kf rfl) (Ax BN (Ka rfl))) (fun v2=> ?_)
 refine tp rfl (Ac rfl NW (vl rfl)) (TO.Dv 3 rfl rfl (A9 rfl rfl (vl rfl) (Vo rfl) wV rfl Ao rfl) ?_)
 refine ao ?_
 refine Tr.drop 0 ?_
 refine ac ?_
 refine Fin.Ho 2 [Ab v (lens (e.Bs.map Bk).length),H8 e.BS,Ab v2 (Q7 (e.items.take (m+1)))] rfl ⟨Lr,Lr,BC (vi (f:=cE) D_),trivial⟩ (Fin.DD (m+1) v2 (⟨D7,by omega⟩) ⟨⟨_,rfl,AG m⟩,kz⟩ (fun _ _ h=>h))
 have Ip:m=(e.items).length:=by have:=AJ h2;omega
 subst Ip
 refine ac ?_
 refine ao ?_
 refine TO.AK 3 rfl rfl rfl (vl rfl) (Va rfl) rfl DR rfl rfl ?_
 refine ao ?_
 refine Tr.ret (Fin.Q9 1 rfl (Fin.drop 0 (Fin.drop 1 (Fin.Ik (Fin.xS v [_] rfl (AO.cell 0 rfl rfl DT DR rfl Lr) ?_ (List.Perm.refl _))))))
 · exact BT ⟨E0 _ _,Lr,Pr.le_trans (Aq _ _) (Pr.le_of_eq O7),trivial⟩
theorem T6 {e:Dc} {c:BX} (h:c.AX<0∨((e.Bs.length:Nat):Int)≤c.AX):Tn e c=(F4,40):=by unfold Tn;rw [tA h];rfl
theorem yy {e:Dc} {c:BX} {x:B_} (h:¬(c.AX<0∨((e.Bs.length:Nat):Int)≤c.AX)) (hx:e.Bs[c.AX.toNat]? =some x):Tn e c=if (EC x c).2.2=0 then (⟨e.Bs.set c.AX.toNat (EC x c).1,e.BS,e.items⟩,0) else (F4,(EC x c).2.2):=by
 unfold Tn;rw [x5 h hx]
 by_cases h0:(EC x c).2.2=0
 · rw [if_pos h0,if_pos h0];rfl
 · rw [if_neg h0,if_neg h0];exact (if_neg h0).symm
theorem Zt {e:Dc} {c:BX} {n:Nat} (hz:e.sz n) (hi:c.C2.fits∧c.C2.small) (h:(Tn e c).2=0):(Tn e c).1.sz (n+1)∧Tn e c=(⟨(LD e.Bs c).1,e.BS,e.items⟩,0):=by
 have h0:(LD e.Bs c).2=0:=by
  by_cases h0:(LD e.Bs c).2=0
  · exact h0
  · unfold Tn at h;rw [if_neg h0] at h;exact h
 have h1:Tn e c=(⟨(LD e.Bs c).1,e.BS,e.items⟩,0):=by unfold Tn;rw [if_pos h0]
 rw [h1]
 exact ⟨⟨l_ hz.Bs hi,hz.items,by show (LD e.Bs c).1.length≤_;rw [cO];exact hz.le,hz.lg,hz.li⟩,rfl⟩
theorem uY {e:Dc} {c:BX} (h:¬(Tn e c).2=0):¬(LD e.Bs c).2=0∧(Tn e c).2=(LD e.Bs c).2∧(Tn e c).1=F4:=by
 by_cases h0:(LD e.Bs c).2=0
 · exfalso;unfold Tn at h;rw [if_pos h0] at h;exact h rfl
 · unfold Tn;rw [if_neg h0];exact ⟨h0,rfl,rfl⟩
theorem gw {e:Dc} {c:BX} {n:Nat} (hz:e.sz n) (hn:n≤900000) (hci:c.C2.fits∧c.C2.small):BD prog 287 [agg (CE e),agg (El c)] (EA [agg (CE (Tn e c).1),int (Tn e c).2]):=by
 refine fo func287 rfl ⟨rfl,rfl⟩ fun M0 w0=> ?_
 have AHl:=hz.le
 refine Tr.seq (Tr.Ap (tp rfl (Bn rfl C1) (tp rfl (Bn rfl C1) ?_)))
 refine Tl rfl rfl rfl rfl z31 Hx (fun b1=> ?_)
 refine ao ?_
 refine ag ?_ ?_<;>intro h1 q1
 refine ac ?_
 refine wk [19,4,3,2] rfl (Tr.cond rfl (fun _=> ?_) (fun h=>nomatch h))
 refine Tr.seq (Tr.Ap (tp rfl (Al (rows:=[]) rfl AAj Hx trivial rfl) (TO.AK 0 rfl rfl rfl vq C1 rfl DR rfl rfl ?_)))
 refine ao ?_
 refine Tr.ret (Fin.AE (Fin.Ba rfl (AO.cell 0 rfl rfl DT DR rfl Lr) (AO.tmp rfl Lr) ?_))
 refine A_ ⟨?_,?_,trivial⟩
 · exact aE
 · exact int_eq (by rw [T6 (e:=e) (c:=c) AA])
 refine ac ?_
 refine wk [19,4,3,2] rfl ?_
 refine Tr.cn rfl ?_ ?_<;>intro h2 q2
 refine ao ?_
 refine TO.AK 0 rfl rfl rfl vq C1 rfl DR rfl rfl ?_
 refine ao ?_
 refine Tr.ret (Fin.AE (Fin.Ba rfl (AO.cell 0 rfl rfl DT DR rfl Lr) (AO.tmp rfl Lr) ?_))
 refine A_ ⟨?_,?_,trivial⟩
 · exact aE
 · exact int_eq (by rw [T6 (e:=e) (c:=c) AA])
 obtain ⟨x,hx⟩:=at_ (l:=e.Bs) (k:=c.AX.toNat) AA
 have hA:=yy (e:=e) (c:=c) AA hx
 have hlt:=BI hx
 refine ac ?_
 refine Tr.seq (Tr.pad (Tr.rx ?_))
 refine ax ?_
 refine xo rfl (fun _=>AD rfl underlying27 CL vq vq AA (Bc (f:=Bk) hx)) ?_
 refine ax ?_
 refine xo rfl (fun _=>CK (Zs (hz.Bs x (List.mem_of_getElem? hx)) AA hci) rfl rfl rfl) ?_
 refine ax ?_
 refine Cx.ef 0 rfl rfl AB (CW rfl rfl AB rfl z40 Ie) (Cx.Dv 0 rfl rfl (DF rfl rfl rfl rfl C1 CL rfl rfl) (xm rfl ?_))
 refine Cx.nil ⟨by kernel_rfl,?_⟩
 refine BO.open_ 0 6 rfl rfl (fun v1=> ?_)
 refine BO.done Wh (Fin.M_ 6 0 _ rfl rfl (fun _=>rfl) (fun b2=> ?_))
 refine Fin.go (wk [7,6,4,3,2] rfl ?_)
 refine an ?_ ?_<;>intro h3 q3
 rw [if_neg (by have:=q3;omega)] at hA
 refine ao ?_
 refine TO.AK 1 rfl rfl rfl vq C1 rfl DR rfl rfl ?_
 refine ao ?_
 refine Tr.drop 0 (Tr.ret (Fin.AE (Fin.Ba rfl (AO.cell 0 rfl rfl DT DR rfl Lr) (AO.tmp rfl Lr) ?_)))
 refine A_ ⟨?_,?_,trivial⟩
 · exact QB
 · exact F8
 rw [if_pos (by have:=q3;omega)] at hA
 refine ac ?_
 refine ao ?_
 refine TO.kg rfl rfl AB rfl (Rn hz AA) kz (fun v2=> ?_)
 refine Tl rfl rfl rfl rfl z31 Hx (fun b3=> ?_)
 refine TO.AK 0 rfl rfl rfl vq C1 rfl DR rfl rfl ?_
 refine ao ?_
 refine ao ?_
 refine tp rfl (Cw 1 rfl (Qz rfl underlying27 CL vq vq AA EE)) ?_
 refine TO.Dv 1 rfl rfl (LX rfl rfl vq C1 CL rfl (Bb fun _=>rfl) UG AB (show _=(e.Bs.set c.AX.toNat (EC x c).1).map Bk by rw [List.map_set];rfl)) ?_
 refine ao ?_
 refine Tr.drop 2 (wk [8,4] rfl (Tr.seq (Tr.MY 0 1 0 rfl rfl AB rfl Lr (Bb fun _=>rfl) ?_)))
 refine ao ?_
 refine TO.AK 2 rfl rfl rfl vq C1 rfl DR rfl rfl ?_
 refine ao ?_
 refine Tr.drop 1 (Tr.ret (Fin.Ba rfl (AO.cell 1 rfl rfl DT DR rfl Lr) (AO.tmp rfl Lr) ?_))
 refine A_ ⟨?_,?_,trivial⟩
 · rw [hA];exact Lr
 · exact F8
theorem Ro {e:Dc} {l:List BX} {s:List Int} {n:Nat} (hz:e.sz n) (hn:n≤800000) (hc:∀c∈l,c.C2.fits∧c.C2.small):BD prog 255 [agg (CE e),slice 8 (l.map El),ints s] (EA [agg (CE (VD e l s).1),int (VD e l s).2]):=by
 refine fo func255 rfl ⟨rfl,rfl⟩ fun M0 w0=>(Tr.C6 1 rfl fun G2=>(Tr.C6 2 rfl fun lq=>(Tr.seq (Tr.Ap (tp rfl (Bn rfl C1) ?_)))))
 refine Tl rfl rfl rfl rfl z31 Hx (fun b1=> ?_)
 refine ap ?_
 refine ac ?_
 refine co rfl (Cn (Dr (hz.fits AA)) rfl rfl) ?_
 refine an ?_ ?_<;>intro h1 q1
 have hA:VD e l s=(F4,31):=if_pos (by have:=q1;cases h_:FM e<;>simp_all)
 refine ap ?_
 refine Tr.ret (Fin.AE (Fin.Ba rfl (AO.cell 0 rfl rfl DT DR rfl Lr) (AO.tmp rfl Lr) ?_))
 refine A_ ⟨?_,?_,trivial⟩
 · exact QB
 · exact F8
 have hok:FM e=true:=by have:=q1;cases h_:FM e<;>simp_all
 refine ac ?_
 refine an ?_ ?_<;>intro h2 q2
 have hA:VD e l s=(F4,3):=by unfold VD;rw [if_neg KP,if_pos (by have:=q2;omega)]
 refine ap ?_
 refine Tr.ret (Fin.AE (Fin.Ba rfl (AO.cell 0 rfl rfl DT DR rfl Lr) (AO.tmp rfl Lr) ?_))
 refine A_ ⟨?_,?_,trivial⟩
 · exact QB
 · exact F8
 have AGX:l.length≤24:=by have:=q2;omega
 refine a2 ?_
 refine co rfl (CK (Q8 (l:=s) (n:=((l.length:Nat):Int))) rfl rfl rfl) ?_
 refine ac ?_
 refine wk [25,6,3,2,1] rfl ?_
 refine Tr.cn rfl ?_ ?_<;>intro h3 q3
 have hA:VD e l s=(F4,46):=by unfold VD;rw [if_neg KP,if_neg AA,if_pos KS]
 refine ap ?_
 refine Tr.ret (Fin.AE (Fin.Ba rfl (AO.cell 0 rfl rfl DT DR rfl Lr) (AO.tmp rfl Lr) ?_))
 refine A_ ⟨?_,?_,trivial⟩
 · exact QB
 · exact F8
 have hsb:De l.length s=true:=by simpa using h3
 have hsn:=cQ hsb
 have hel:=hz.le
 refine ac ?_
 refine ap ?_
 refine TO.kg rfl rfl AB rfl (Rn hz AA) kz (fun v1=> ?_)
 refine Tl rfl rfl rfl rfl z31 Hx (fun b2=> ?_)
 refine ap ?_
 refine Tr.seq (Tr.seq (Tr.MY 0 1 0 rfl rfl AB rfl Lr (Bb fun _=>rfl) ?_))
 refine ac ?_
 refine Tr.drop 1 (Tr.block (Tr.Cr _ (kk [30,29,8,6,1] rfl) (fun (m:Nat) (Bs:List B_)=>[(31,int ((m:Nat):Int))]) (fun (m:Nat) (Bs:List B_)=>Hp M0 w0 FO ([AF true b2 31 (CE ⟨Bs,e.BS,e.items⟩),AF true b1 31 (([.slice none 0 0,.slice none 0 0,.slice none 0 0]:List Value).map is)])) (fun (m:Nat) (Bs:List B_)=>m≤s.length∧(⟨Bs,e.BS,e.items⟩:Dc).sz (n+m)∧Nj l (s.drop m) Bs=Nj l s e.Bs) (fun (m:Nat) (Bs:List B_)=>s.length-m) (0) (e.Bs)  (⟨Nat.zero_le _,hz,rfl⟩) kz (fun _ _ h=>h) ?_))
 rintro m Bs  ⟨hm1,hse,hm4⟩
 refine ac ?_
 refine Tr.seq ?_
 refine Tr.cn rfl ?_ ?_<;>intro h4 q4
 have hmm:m<s.length:=by have:=C3.DZ h4;omega
 obtain ⟨i,D_⟩:=at_ hmm
 have him:=Pc hsb D_
 obtain ⟨c,i7⟩:=at_ (l:=l) (k:=i.toNat) AA
 have hci:=hc c (List.mem_of_getElem? i7)
 have hst:=fc (Bs:=Bs) D_ i7
 rw [hm4] at hst
 refine ac ?_
 refine Tr.seq (Tr.block (Tr.seq (Tr.Aj (co rfl (AD rfl underlying51 Bt vq vq AA (Aa D_)) ?_))))
 refine ac ?_
 refine Tr.seq (Tr.pad (Tr.rx ?_))
 refine ax ?_
 refine xo rfl (fun _=>AD rfl underlying32 Dh vq vq AA (Bc (f:=El) i7)) (xo rfl (fun _=>AQ rfl HK Dh vq rfl rfl) ?_)
 refine xo rfl (fun _=>CK (gw (e:=⟨Bs,e.BS,e.items⟩) (c:=c) hse AA hci) rfl rfl rfl) ?_
 refine ax ?_
 refine Cx.ef 0 rfl rfl AB (CW rfl rfl AB rfl z31 Hx) (Cx.Dv 0 rfl rfl (DF rfl rfl rfl rfl C1 DR rfl rfl) (xm rfl ?_))
 refine Cx.nil ⟨by kernel_rfl,?_⟩
 refine BO.open_ 0 11 rfl rfl (fun v2=> ?_)
 refine BO.done al3 (Fin.M_ 11 0 _ rfl rfl (fun _=>rfl) (fun b3=> ?_))
 refine Fin.go (wk [31,30,29,12,11,8,6,1] rfl ?_)
 refine an ?_ ?_<;>intro h5 q5
 obtain ⟨h0_,h1_,h2_⟩:=uY (e:=⟨Bs,e.BS,e.items⟩) (c:=c) (by have:=q5;omega)
 have h0_:¬(LD Bs c).2=0:=h0_
 rw [if_neg h0_] at hst
 have hA:VD e l s=(F4,(Tn ⟨Bs,e.BS,e.items⟩ c).2):=by unfold VD;rw [if_neg KP,if_neg AA,if_neg (by simp [hsb]),hst,h1_];exact if_neg h0_
 refine ap ?_
 refine Tr.drop 0 (Tr.ret (Fin.AE (Fin.AR (Fin.AE (Fin.AE (Fin.AR (Fin.AE (Fin.Ba rfl (AO.cell 1 rfl rfl DT DR rfl Lr) (AO.tmp rfl Lr) ?_))))))))
 refine A_ ⟨?_,?_,trivial⟩
 · exact QB
 · exact F8
 have hs0:(Tn ⟨Bs,e.BS,e.items⟩ c).2=0:=by have:=q5;omega
 have hap:(LD Bs c).2=0:=by by_cases h0:(LD Bs c).2=0;exact h0;(exfalso;unfold Tn at hs0;rw [if_neg (show ¬(LD (⟨Bs,e.BS,e.items⟩:Dc).Bs c).2=0 from h0)] at hs0;exact h0 hs0)
 refine ac ?_
 refine ap ?_
 refine Tr.drop 0 ?_
 refine ac ?_
 refine Fin.eqC 0 (CE ⟨(LD Bs c).1,e.BS,e.items⟩) rfl (by rw [(Zt hse hci hs0).2];rfl) ?_
 exact Fin.Co (m+1) ((LD Bs c).1)  (⟨⟨by omega,by have h_:=(Zt hse hci hs0).1;rw [(Zt hse hci hs0).2] at h_;rw [show n+(m+1)=n+m+1 by omega];exact h_,by rw [hst,if_pos hap]⟩,by omega⟩) ⟨⟨_,rfl,AG m⟩,kz⟩ (fun _ _ h=>h)
 obtain rfl:m=s.length:=by have:=C3.DZ h4;omega
 rw [List.drop_length] at hm4
 have hA:VD e l s=(⟨Bs,e.BS,e.items⟩,0):=by unfold VD;rw [if_neg KP,if_neg AA,if_neg (by simp [hsb]),←hm4];exact if_pos rfl
 refine ac ?_
 refine ap ?_
 refine Tr.ret (Fin.Ba rfl (AO.cell 1 rfl rfl DT DR rfl Lr) (AO.tmp rfl Lr) ?_)
 refine A_ ⟨?_,?_,trivial⟩
 · rw [hA];exact Lr
 · exact F8
theorem SS {e:Dc} {l:List BX} {i:Int} {n:Nat} (hz:e.sz n) (hn:n≤800000)  :BD prog 278 [agg (CE e),slice 8 (l.map El),int i] (EA [ints (Jf e l i).1,int (Jf e l i).2]):=by
 refine fo func278 rfl ⟨rfl,rfl⟩ fun M0 w0=>(Tr.C6 1 rfl fun G2=> ?_)
 refine a2 ?_
 refine co rfl (Cn (Dr (hz.fits AA)) rfl rfl) ?_
 refine an ?_ ?_<;>intro h1 q1
 have hA:Jf e l i=([],31):=if_pos (by have:=q1;cases h_:FM e<;>simp_all)
 refine ac ?_
 refine Tr.ret (Fin.AE (Fin.Dp rfl (Br.Dz _ _) rfl ?_ rfl ?_))
 · rw [hA];exact AP 1
 · exact F8
 have hok:FM e=true:=by have:=q1;cases h_:FM e<;>simp_all
 refine ac ?_
 refine an ?_ ?_<;>intro h2 q2
 have hA:Jf e l i=([],3):=by unfold Jf;rw [if_neg KP,if_pos (by have:=q2;omega)]
 refine ac ?_
 refine Tr.ret (Fin.AE (Fin.Dp rfl (Br.Dz _ _) rfl ?_ rfl ?_))
 · rw [hA];exact AP 1
 · exact F8
 have AGX:l.length≤24:=by have:=q2;omega
 refine ac ?_
 refine ag ?_ ?_<;>intro h3 q3
 refine ac ?_
 refine wk [25,3,2,1] rfl ?_
 refine ac ?_
 refine Tr.ret (Fin.AE (Fin.Dp rfl (Br.Dz _ _) rfl ?_ rfl ?_))
 · exact jQ
 · exact jP
 refine ac ?_
 refine wk [25,3,2,1] rfl ?_
 refine Tr.cn rfl ?_ ?_<;>intro h4 q4
 refine ac ?_
 refine Tr.ret (Fin.AE (Fin.Dp rfl (Br.Dz _ _) rfl ?_ rfl ?_))
 · exact jQ
 · exact jP
 obtain ⟨g,hg⟩:=at_ (l:=e.BS) (k:=i.toNat) AA
 have hA:Jf e l i=(N1 g l l.length,0):=by unfold Jf;rw [if_neg KP,if_neg AA,if_neg AA,getD_at hg]
 refine a3 ?_
 refine Tr.block (Tr.B6 3 1 (Tr.ET _ (kk [27,26,3,2] rfl) (fun k v=>[(28,int ((k:Nat):Int)),(8,Ab v (ints (N1 g l k)))]) (fun k v=>Hp M0 w0 FO ([As 3 1 v])) (fun k:Nat=>k≤(l).length) (fun k:Nat=>(l).length-k) 0 (.slice none 0 0) (Nat.zero_le _) ⟨kq,⟨_,rfl,Bl rfl⟩,trivial⟩ (fun _ _ h=>h) ?_))
 rintro k v BV
 refine ac ?_
 refine Tr.seq ?_
 refine Tr.cn rfl ?_ ?_<;>intro h5 q5
 have Ah:k<(l).length:=AH h5
 obtain ⟨c,Ai⟩:=at_ Ah
 have hrl:=XZ g l k
 refine ac ?_
 refine ao ?_
 refine tp rfl (AD rfl underlying32 Dh vq vq AA (Aa Ai)) (tp rfl (AQ rfl HK Dh vq rfl rfl) ?_)
 refine Tl rfl rfl rfl rfl PG Kz (fun b1=> ?_)
 refine tm rfl ?_
 refine sf 0 10 ⟨rfl,rfl,rfl⟩ rfl rfl rfl rfl ?_
 refine ao ?_
 refine wk [28,27,26,10,9,8,3,2] rfl ?_
 refine ac ?_
 refine co rfl (AD rfl underlying28 Et vq vq AA (Bc (f:=xl) hg)) ?_
 refine ag ?_ ?_<;>intro h6 q6
 have hP:Ve g l k=true:=by unfold Ve;rw [Ai];simp;omega
 refine ac ?_
 refine wk [52,28,27,26,9,8,3,2] rfl (Tr.cond rfl (fun _=> ?_) (fun h=>nomatch h))
 refine Tr.Ap (tm rfl (tm rfl (tp rfl (AM (xs:=[.tmp 54]) (rows:=[[_]]) rfl rfl underlying51 Bt z3 rfl AB ⟨⟨Am,OJ⟩,trivial⟩ AB) ?_)))
 refine TO.DQ 0 rfl rfl AB (B1 rfl rfl rfl rfl underlying51 Bt He z3 HA GG (Ax BN Ja)) (fun v1=> ?_)
 refine ao ?_
 refine ac ?_
 exact Fin.DD (k+1) v1 (⟨Ah,by omega⟩) ⟨⟨_,rfl,AG k⟩,⟨_,rfl,BC (by rw [XY hP,List.map_append];rfl)⟩,kz⟩ (fun _ _ h=>h)
 refine ac ?_
 refine cy h6 rfl (AD rfl underlying28 Et vq vq AA (Bc (f:=xl) hg)) ?_
 refine ac ?_
 refine wk [52,28,27,26,9,8,3,2] rfl ?_
 refine Tr.cn rfl ?_ ?_<;>intro h7 q7
 have hP:Ve g l k=true:=by unfold Ve;rw [Ai];simp;omega
 refine ao ?_
 refine TO.DQ 0 rfl rfl AB (B1 rfl rfl rfl rfl underlying51 Bt He z3 HA GG (Ax BN Ja)) (fun v2=> ?_)
 refine ao ?_
 refine ac ?_
 exact Fin.DD (k+1) v2 (⟨Ah,by omega⟩) ⟨⟨_,rfl,AG k⟩,⟨_,rfl,BC (by rw [XY hP,List.map_append];rfl)⟩,kz⟩ (fun _ _ h=>h)
 have hP:Ve g l k=false:=by unfold Ve;rw [Ai];simp;omega
 refine a2 ?_
 exact Fin.DD (k+1) v (⟨Ah,by omega⟩) ⟨⟨_,rfl,AG k⟩,⟨_,rfl,Pr.le_of_eq (by rw [uW hP])⟩,kz⟩ (fun _ _ h=>h)
 have BP:k=(l).length:=by have:=AJ h5;omega
 subst BP
 refine a2 ?_
 refine Tr.ret (Fin.Dp rfl (Br.Dz _ _) rfl ?_ rfl ?_)
 · rw [hA];exact Aq _ _
 · exact F8
open Classical in
section
variable {e:Dc} {c:BR} {l:List BX} {r:List BK} {d:List Int}
end
structure Hj (n:Nat) (r:List BK):Prop where
 up:∀q∈r,(0≤q.fst∧q.fst<q.thn)∧q.thn<n
 srt:Dy r=true
theorem Hj.nil (n:Nat):Hj n []:=⟨(fun q h=>by cases h),rfl⟩
theorem N2 (r:List BK) (q:BK):RO r [q]=F5 (r.foldl F5 []) q:=rfl
theorem Hj.put {n:Nat} {r:List BK} (h:Hj n r) {x y:Int} (h0:0≤x) (h1:x<y) (h2:y<n):Hj n (RO r [⟨x,y⟩]):=by
 refine ⟨fun q hq=> ?_,?_⟩
 ·
  rw [N2,W9,SM] at hq
  rcases hq with rfl|hq|hq
  · exact ⟨⟨h0,h1⟩,h2⟩
  · cases hq
  · exact h.up q hq
 · rw [N2];exact OR (Np r rfl)
theorem Zu (r:List BK) (q:BK):(RO r [q]).length≤r.length+1:=by
 rw [N2]
 have h1:=RM (r.foldl F5 []) q
 have h2:=GI r []
 simp at h2;omega
theorem Hj.valid {n:Nat} {r:List BK} (h:Hj n r) (hn:n≤24):BH n r=0:=mo hn h.up h.srt
theorem uZ {b:Nat} {s:DS} {n:Nat} (hn:n≤24):BZ prog 52 [ptr b 0,int ((n:Nat):Int)] (Cp.ex fun r:List BK=>fact (Hj n r∧r.length≤2*n) (reqs r)) (DU b s) (fun _=>Ib 104 b):=by
 refine BZ.of func52 rfl rfl Ao fun M0 w0 S rs M1 w1=> ?_
 have bK:=s.DB (n:=2*(n:Int)+1) AA
 refine Tr.seq (Tr.Aj (cm rfl (Ch.nil (Fin.go (Tr.seq (Tr.Aj (cm rfl (Ch.nil (Fin.go (Tr.seq (Tr.seq (Tr.Ap (tm rfl ?_)))))))))))))
 refine tm rfl ?_
 refine tp rfl (jg rfl (vl rfl) (vl rfl) ?hin) ?_;case hin=>unfold Oe;omega
 refine tp rfl (FE rfl (vl rfl) (vl rfl) ?hin) ?_;case hin=>unfold Oe;omega
 refine TO.HJ 0 rfl rfl AB (An rfl rfl AB rfl (CY AA AA) ⟨ke rfl,ke rfl,trivial⟩) (tm rfl (TO.nil (Fin.go (Tr.block ?_))))
 refine Tr.MT [(0,_),(1,_)] ⟨ke rfl,ke rfl,trivial⟩ (fun (r:List BK) (k:Int) (s2:DS)=>[(6,int k),(5,reqs r)]) (fun (r:List BK) (k:Int) (s2:DS)=>Hp M0 w0 S (DU b s2::Ak M1 w1::rs)) (fun (r:List BK) (k:Int) (s2:DS)=>0≤k∧Hj n r∧(r.length:Int)+k≤2*n) (fun (r:List BK) (k:Int) (s2:DS)=>k.toNat) ([]) (s.val (2*(n:Int)+1)) (_)  (⟨by omega,Hj.nil n,by simp;omega⟩) ⟨ke rfl,⟨_,rfl,AP 2⟩,trivial⟩ (fun _ _ h=>h) ?_
 rintro r k s2  ⟨hk0,hN,hrl⟩
 refine Tr.seq (Tr.seq (Tr.Aj (cm rfl (co rfl (ki rfl rfl rfl rfl) (cm rfl ?_)))))
 refine Ch.cs 16 rfl ?_ ?_<;>intro h1 q1
 have hkp:k>0:=by simpa using h1
 refine ML h1 rfl (cy h1 rfl (ki rfl rfl rfl rfl) (co rfl (JD rfl rfl h1 rfl) (Ch.nil (Fin.go ?_))))
 refine Tr.cn rfl ?_ ?_<;>intro h2 q2
 have hn1:((n:Nat):Int)>1:=by simpa using h2
 have bw:=s2.DB (n:=(n:Int)) AA
 have V7:=s2.Cb.DB (n:=(n:Int)) AA
 refine Tr.skip (Fin.go (Tr.seq (Tr.block (Tr.seq (Tr.Ap (tm rfl (tm rfl (TO.HJ 0 rfl rfl AB (An rfl rfl AB rfl (CY AA AA) ⟨ke rfl,ke rfl,trivial⟩) (tm rfl (tm rfl (TO.HJ 0 rfl rfl AB (An rfl rfl AB rfl (CY AA AA) ⟨ke rfl,ke rfl,trivial⟩) (tm rfl (tm rfl ?_)))))))))))))
 refine TO.nil (Fin.go (wk6 0 1 5 6 7 8 rfl (Tr.seq (Tr.Aj (cm rfl (cm rfl (co rfl (ki rfl rfl rfl rfl) (Ch.nil (Fin.go ?_)))))))))
 refine Tr.cn rfl ?_ ?_<;>intro h3 q3
 refine Tr.Aj (cm rfl (cm rfl (cm rfl (co rfl (Al (rows:=[(0,[_]),(1,[_])]) rfl AAo Oi ⟨⟨rfl,(Vo rfl)⟩,⟨⟨rfl,(Vo rfl)⟩,trivial⟩⟩ rfl) (co rfl (AM (xs:=[.tmp 34]) (rows:=[_]) rfl rfl underlying33 Cf Qd rfl AB ⟨⟨Am,(Va rfl)⟩,trivial⟩ AB) ?_)))))
 refine co rfl (AV rfl (ZJ (a:=r) (b:=[⟨s2.val n,s2.Cb.val n⟩]) AA AU) ⟨ke rfl,(Kf rfl),trivial⟩) ?_
 refine cm rfl (Ch.nil (Fin.block (Fin.go (UY 0 1 5 6 rfl (Tr.Aj (cm rfl (csu rfl rfl rfl rfl AA (cm rfl (Ch.nil ?_)))))))))
 exact Fin.E9 (RO r [⟨s2.val n,s2.Cb.val n⟩]) (k-1) (_)  (⟨⟨by omega,hN.put AA KS AA,by have:=Zu r ⟨s2.val n,s2.Cb.val n⟩;omega⟩,by omega⟩) ⟨ke rfl,ke rfl,ke rfl,ke rfl,trivial⟩ (fun _ _ h=>h)
 refine Tr.skip (Fin.block (Fin.go (Tr.Aj (cm rfl (csu rfl rfl rfl rfl AA (cm rfl (Ch.nil (Fin.E9 (r) (k-1) (_)  (⟨⟨by omega,hN,by omega⟩,by omega⟩) ⟨ke rfl,ke rfl,ke rfl,ke rfl,trivial⟩ (fun _ _ h=>h)))))))))
 have:=h2
 refine Tr.exit (Fin.AW (Fin.AW (Fin.Au (Fin.go (Tr.seq (Tr.Aj (cm rfl (cm rfl (Ch.nil (Fin.go (Tr.ret (Fin.Gw 0 _ rfl rfl (Fin.GN [] rfl (AO.tmp rfl (Lr)) ?_ (fun _ _ _ _=>rfl))))))))))))))
 · exact Aw r (A7 ⟨hN,by omega⟩ (Lr))
 refine cnt h1 rfl (cnt h1 rfl (co rfl (MM rfl rfl h1 rfl) (Ch.nil (Fin.go (Tr.cond rfl (fun h=>nomatch h) (fun _=> ?_))))))
 refine Tr.exit (Fin.AW (Fin.AW (Fin.Au (Fin.go (Tr.seq (Tr.Aj (cm rfl (cm rfl (Ch.nil (Fin.go (Tr.ret (Fin.Gw 0 _ rfl rfl (Fin.GN [] rfl (AO.tmp rfl (Lr)) ?_ (fun _ _ _ _=>rfl))))))))))))))
 · exact Aw r (A7 ⟨hN,by omega⟩ (Lr))
def Sj (e:B_) (c:BX):Int:=
 if c.kind=7∨c.kind=9 then 0 else if c.kind=5 then 1 else if c.kind=1∨c.kind=12 then 2
 else if c.kind=3 then (if c.number>e.most then 2 else 3) else if c.kind=4 then (if c.number<e.least then 2 else 3) else if c.kind=11 then (if c.number=1 then 2 else 3) else 3
def Rp (a b:Int) (x:IE):Bool:=(decide (x.client=a)&&decide (x.server=b))||(decide (x.client=b)&&decide (x.server=a))
def OZ (l:List IE) (a b:Int):Bool:=decide (a=b)||l.any (Rp a b)
theorem oy {l:List IE} {a b:Int} {k:Nat} {x:IE} (hx:l[k]? =some x) (h:Rp a b x=true):OZ l a b=true:=by unfold OZ;rw [List.any_eq_true.2 ⟨x,List.mem_of_getElem? hx,h⟩,Bool.or_true]
theorem uc {l:List IE} {a b:Int} (h0:a≠b) (h:∀j y,j<l.length→l[j]? =some y→Rp a b y=false):OZ l a b=false:=by
 unfold OZ
 rw [Bool.or_eq_false_iff,decide_eq_false_iff_not,List.any_eq_false]
 refine ⟨h0,fun y hy=> ?_⟩
 obtain ⟨j,hj⟩:=List.mem_iff_getElem?.1 hy
 rw [h j y (BI hj) hj];decide
def Xa (l:List BX) (i:Nat):BX:=l[i]?.getD HO
def Zv (e:Dc) (c:BX):Int:=Sj (e.Bs[c.AX.toNat]?.getD FB) c
def oz (e:Dc) (l:List BX) (i k:Nat):Bool:=OZ e.BS (Xa l i).AX (Xa l k).AX&&decide (Zv e (Xa l i)<Zv e (Xa l k))
def Oq (e:Dc) (l:List BX) (i n:Nat):List BK:=((List.range n).filter (oz e l i)).map fun k:Nat=>⟨(i:Int),(k:Int)⟩
def Xb (e:Dc) (l:List BX) (m:Nat):List BK:=(List.range m).flatMap fun i=>Oq e l i l.length
def ud (e:Dc) (l:List BX):List BK:=Xb e l l.length
theorem Xc (e:Dc) (l:List BX) (i n:Nat):(Oq e l i n).length≤n:=by unfold Oq;rw [List.length_map];exact Nat.le_trans (List.length_filter_le _ _) Oy
theorem To (e:Dc) (l:List BX) (m:Nat):Xb e l (m+1)=Xb e l m++Oq e l m l.length:=by unfold Xb;rw [List.range_succ,List.flatMap_append];simp
theorem Rr (e:Dc) (l:List BX):∀m,(Xb e l m).length≤m*l.length
 |0=>by simp [Xb]
 |m+1=>by have h1:=Rr e l m;have h2:=Xc e l m l.length;rw [To,List.length_append,Nat.succ_mul];omega
theorem o9 {e:Dc} {l:List BX} {i k:Nat} (h:oz e l i k=true):Oq e l i (k+1)=Oq e l i k++[⟨(i:Int),(k:Int)⟩]:=by unfold Oq;rw [List.range_succ,List.filter_append,List.map_append];simp [h]
theorem dY {e:Dc} {l:List BX} {i k:Nat} (h:oz e l i k=false):Oq e l i (k+1)=Oq e l i k:=by unfold Oq;rw [List.range_succ,List.filter_append,List.map_append];simp [h]
theorem Tp {e:B_} {c:BX}  :BD prog 96 [agg (Bk e),agg (El c)] (int (Sj e c)):=by
 refine fo func96 rfl ⟨rfl,rfl⟩ fun M0 w0=> ?_
 refine a2 ?_
 refine an ?_ ?_<;>intro h1 q1
 refine ac ?_
 refine Tr.cond rfl (fun _=> ?_) (fun h=>nomatch h1.symm.trans h)
 refine a2 ?_
 · exact Ox
 refine an ?_ ?_<;>intro h2 q2
 refine a2 ?_
 · exact Ox
 refine an ?_ ?_<;>intro h3 q3
 refine a2 ?_
 · exact Ox
 refine an ?_ ?_<;>intro h4 q4
 refine ac ?_
 refine Tr.cond rfl (fun _=> ?_) (fun h=>nomatch h4.symm.trans h)
 refine ac ?_
 refine wk [4] rfl ?_
 refine ac ?_
 · exact Ox
 · repeat' first|(refine int_eq ?_;unfold Sj;(repeat' split)<;>omega)|refine ac ?_|(refine Tr.cn rfl ?_ ?_<;>intro h q)
theorem Xd {e:Dc} {a b:Int}  :BD prog 95 [agg (CE e),int a,int b] (bool (OZ e.BS a b)):=by
 refine fo func95 rfl ⟨rfl,rfl⟩ fun M0 w0=>(Tr.HB 0 1 rfl rfl fun Kj=> ?_)
 refine ac ?_
 refine an ?_ ?_<;>intro h1 q1
 refine a2 ?_
 · refine bool_eq ?_;symm;unfold OZ;rw [decide_eq_true Bg,Bool.true_or]
 refine a2 ?_
 refine Tr.block (Tr.BA _ (kk [14,13,2,1] rfl) (fun k:Nat=>[(15,int ((k:Nat):Int))]) (fun k:Nat=>k≤(e.BS).length∧(∀j y,j<k→e.BS[j]? =some y→Rp a b y=false)) (fun k:Nat=>(e.BS).length-k) 0 (⟨Nat.zero_le _,fun j y hj=>absurd hj AA⟩) kz ?_)
 rintro k ⟨BV,AY⟩
 refine ac ?_
 refine Tr.seq ?_
 refine Tr.cn rfl ?_ ?_<;>intro h2 q2
 have Ah:k<(e.BS).length:=AH h2
 obtain ⟨x,Ai⟩:=at_ Ah
 refine ac ?_
 refine Tr.seq (Tr.block (Tr.seq (Tr.Ap (tp rfl (AD rfl underlying28 Et vq vq AA (Aa Ai)) (tp rfl (AQ rfl Qf Et vq rfl rfl) ?_)))))
 refine Tl rfl rfl rfl rfl Yi WQ (fun b1=> ?_)
 refine sf 0 8 ⟨rfl,rfl,rfl⟩ rfl rfl rfl rfl ?_
 refine ao ?_
 · repeat' first|(refine bool_eq ?_;symm;exact oy Ai (by unfold Rp;simp_all))|(exact Fin.AL (k+1) ⟨⟨Ah,DP (p:=Rp a b) Ai (by unfold Rp;simp_all) AY⟩,by omega⟩ ⟨⟨_,rfl,AG k⟩,kz⟩)|refine ac ?_|(refine Tr.cn rfl ?_ ?_<;>intro h q)|(refine Ch.cg rfl rfl rfl ?_ ?_<;>intro h q)
 have BP:k=(e.BS).length:=by have:=AJ h2;omega
 subst BP
 refine a3 ?_
 · refine bool_eq ?_;symm;exact uc Bg AY
theorem Xe {e:Dc} {l:List BX} (hf:e.fits) (he:FM e=true) (NG:l.length≤24) (hr:∀c∈l,0≤c.AX∧c.AX<(e.Bs.length:Nat)):BD prog 51 [agg (CE e),Dm l] (EA [reqs (ud e l),int 0]):=by
 refine fo func51 rfl ⟨rfl,rfl⟩ fun M0 w0=>(Tr.HB 0 0 rfl rfl fun HR=> ?_)
 refine a2 ?_
 refine co rfl (Cn (Dr hf) rfl rfl) ?_
 refine an ?_ ?_<;>intro h1 q1
 exact absurd h1 (by rw [if_pos he];decide)
 refine ac ?_
 refine an ?_ ?_<;>intro h2 q2
 exfalso;have:=q2;omega
 refine a2 ?_
 refine Tr.block (Tr.BA _ (kk [20,19,2,1] rfl) (fun m:Nat=>[(21,int ((m:Nat):Int))]) (fun m:Nat=>m≤(l).length) (fun m:Nat=>(l).length-m) 0 (Nat.zero_le _) kz ?_)
 rintro m LC
 refine ac ?_
 refine Tr.seq ?_
 refine Tr.cn rfl ?_ ?_<;>intro h3 q3
 have D7:m<(l).length:=AH h3
 obtain ⟨x,D_⟩:=at_ D7
 have hrm:=hr x (List.mem_of_getElem? D_)
 refine ac ?_
 refine Tr.seq (Tr.block (Tr.seq (Tr.Ap (tp rfl (AD rfl underlying32 Dh vq vq AA (Aa D_)) (tp rfl (AQ rfl HK Dh vq rfl rfl) ?_)))))
 refine Tl rfl rfl rfl rfl PG Kz (fun b1=> ?_)
 refine sf 0 7 ⟨rfl,rfl,rfl⟩ rfl rfl rfl rfl ?_
 refine ao ?_
 · repeat' first|(exfalso;have:=hr x (List.mem_of_getElem? D_);omega)|exact Fin.AL (m+1) ⟨D7,by omega⟩ ⟨⟨_,rfl,AG m⟩,kz⟩|refine ac ?_|(refine Tr.cn rfl ?_ ?_<;>intro h q)|(refine Ch.cg rfl rfl rfl ?_ ?_<;>intro h q)
 have Ip:m=(l).length:=by have:=AJ h3;omega
 refine a3 ?_
 refine Tr.block (Tr.B6 61 2 (Tr.ET _ (kk [38,37,2,1] rfl) (fun i v=>[(39,int ((i:Nat):Int)),(8,Ab v (reqs (Xb e l i)))]) (fun i v=>Hp M0 w0 FO ([As 61 2 v])) (fun i:Nat=>i≤(l).length) (fun i:Nat=>(l).length-i) 0 (.slice none 0 0) (Nat.zero_le _) ⟨kq,⟨_,rfl,Bl rfl⟩,trivial⟩ (fun _ _ h=>h) ?_))
 rintro i v Ws
 refine ac ?_
 refine Tr.seq ?_
 refine Tr.cn rfl ?_ ?_<;>intro h6 q6
 have JW:i<(l).length:=AH h6
 obtain ⟨x,Kv⟩:=at_ JW
 have hri:=hr x (List.mem_of_getElem? Kv)
 obtain ⟨ex,hex⟩:=at_ (l:=e.Bs) (k:=x.AX.toNat) AA
 have hln:=Rr e l i
 have hl2:i*l.length≤24*24:=Nat.mul_le_mul AA NG
 refine ac ?_
 refine ao ?_
 refine tp rfl (AD rfl underlying32 Dh vq vq AA (Aa Kv)) (tp rfl (AQ rfl HK Dh vq rfl rfl) ?_)
 refine Tl rfl rfl rfl rfl PG Kz (fun b2=> ?_)
 refine tm rfl ?_
 refine sf 0 10 ⟨rfl,rfl,rfl⟩ rfl rfl rfl rfl ?_
 refine ao ?_
 refine wk [39,38,37,10,9,8,2,1] rfl ?_
 refine ac ?_
 refine Tr.block (Tr.ET _ (kk [45,44,39,38,37,10,9,2,1] rfl) (fun k v=>[(46,int ((k:Nat):Int)),(8,Ab v (reqs (Xb e l i++Oq e l i k)))]) (fun k v=>Hp M0 w0 FO ([As 61 2 v])) (fun k:Nat=>k≤(l).length) (fun k:Nat=>(l).length-k) 0 v (Nat.zero_le _) ⟨kq,⟨_,rfl,BC (by simp [Oq])⟩,trivial⟩ (fun _ _ h=>h) ?_)
 rintro k v BV
 refine ac ?_
 refine Tr.seq ?_
 refine Tr.cn rfl ?_ ?_<;>intro h7 q7
 have Ah:k<(l).length:=AH h7
 obtain ⟨y,Ai⟩:=at_ Ah
 have hrk:=hr y (List.mem_of_getElem? Ai)
 obtain ⟨ey,hey⟩:=at_ (l:=e.Bs) (k:=y.AX.toNat) AA
 have Xx:=Xc e l i k
 have hB:oz e l i k=(OZ e.BS x.AX y.AX&&decide (Sj ex x<Sj ey y)):=by unfold oz Zv Xa;rw [Kv,Ai,Option.getD_some,Option.getD_some,hex,hey];rfl
 refine ac ?_
 refine ao ?_
 refine tp rfl (AD rfl underlying32 Dh vq vq AA (Aa Ai)) (tp rfl (AQ rfl HK Dh vq rfl rfl) ?_)
 refine Tl rfl rfl rfl rfl PG Kz (fun b3=> ?_)
 refine tm rfl ?_
 refine sf 0 12 ⟨rfl,rfl,rfl⟩ rfl rfl rfl rfl ?_
 refine ao ?_
 refine wk [46,45,44,39,38,37,12,11,10,9,8,2,1] rfl ?_
 refine ac ?_
 refine co rfl (K0 (Xd (e:=e) (a:=x.AX) (b:=y.AX)) rfl rfl rfl rfl) ?_
 refine cm rfl ?_
 refine Ch.cs 57 rfl ?_ ?_<;>intro h8 q8
 refine ac ?_
 refine cy h8 rfl (AD rfl underlying27 CL vq vq AA (Bc hex)) ?_
 refine ac ?_
 refine cy h8 rfl (CK (Tp (e:=ex) (c:=x)) rfl rfl rfl) ?_
 refine ac ?_
 refine cy h8 rfl (AD rfl underlying27 CL vq vq AA (Bc hey)) ?_
 refine ac ?_
 refine cy h8 rfl (CK (Tp (e:=ey) (c:=y)) rfl rfl rfl) ?_
 refine ac ?_
 refine wk [75,46,45,44,39,38,37,11,10,9,8,2,1] rfl ?_
 refine Tr.cn rfl ?_ ?_<;>intro h9 q9
 refine ao ?_
 refine TO.DQ 0 rfl rfl AB (B1 rfl rfl rfl rfl underlying33 Cf SF Qd HA GG (Ax BN Ja)) (fun v1=> ?_)
 refine ao ?_
 refine wk [46,45,44,39,38,37,10,9,8,2,1] rfl ?_
 refine ac ?_
 exact Fin.DD (k+1) v1 (⟨Ah,by omega⟩) ⟨⟨_,rfl,AG k⟩,⟨_,rfl,BC (by rw [o9 (by rw [hB,h8,h9];rfl),←List.append_assoc];simp;rfl)⟩,kz⟩ (fun _ _ h=>h)
 refine a2 ?_
 exact Fin.DD (k+1) v (⟨Ah,by omega⟩) ⟨⟨_,rfl,AG k⟩,⟨_,rfl,BC (by rw [dY (by rw [hB,h8,h9];rfl)])⟩,kz⟩ (fun _ _ h=>h)
 refine ac ?_
 refine wk [75,46,45,44,39,38,37,11,10,9,8,2,1] rfl ?_
 refine a2 ?_
 exact Fin.DD (k+1) v (⟨Ah,by omega⟩) ⟨⟨_,rfl,AG k⟩,⟨_,rfl,BC (by rw [dY (by rw [hB,h8];rfl)])⟩,kz⟩ (fun _ _ h=>h)
 have BP:k=(l).length:=by have:=AJ h7;omega
 subst BP
 refine a2 ?_
 exact Fin.DD (i+1) v (⟨JW,by omega⟩) ⟨⟨_,rfl,AG i⟩,⟨_,rfl,BC (by rw [To])⟩,kz⟩ (fun _ _ h=>h)
 have Oo:i=(l).length:=by have:=AJ h6;omega
 subst Oo
 refine a2 ?_
 refine Tr.ret (Fin.Dp rfl (Br.Dz _ _) rfl ?_ rfl ?_)
 · exact IP
 · exact Lr
def wF (n:Nat):BR:=⟨[⟨0,300,[0]⟩],List.replicate n 0,[24]⟩
theorem yz {n:Nat} (hn:n≤1000):BD prog 67 [int ((n:Nat):Int)] (Ll (wF n)):=by
 refine fo func67 rfl ⟨rfl,rfl⟩ fun M0 w0=>(Tr.seq (Tr.Ap ?_))
 refine Tl rfl rfl rfl rfl z77 AAq (fun b1=> ?_)
 refine ap ?_
 refine ap ?_
 refine tp rfl (Al (rows:=[(0,_),(1,[_])]) rfl AA5 Qh ⟨⟨rfl,C1⟩,⟨⟨rfl,⟨_,rfl,Pr.le_trans (B0 _ _) (Af _)⟩⟩,trivial⟩⟩ rfl) ?_
 refine ap ?_
 refine tp rfl (Mo (m:=n) rfl underlying22 Bt He z3 rfl AB AB vq vq Fu AA) ?_
 refine tp rfl (oI) ?_
 refine tp rfl (Al (rows:=[(0,[_]),(1,[_]),(2,[_])]) rfl AEv AAq ⟨⟨rfl,⟨_,rfl,Pr.le_trans (B0 _ _) (Af _)⟩⟩,⟨⟨rfl,⟨_,rfl,Pr.le_trans (Pr.le_trans (B0 _ _) (Pr.le_of_eq (show _=slice 1 ((List.replicate n (0:Int)).map fun n=>[int n]) by rw [List.map_replicate];rfl))) (Af _)⟩⟩,⟨⟨rfl,⟨_,rfl,Pr.le_trans (B0 _ _) (Af _)⟩⟩,trivial⟩⟩⟩ rfl) ?_
 refine ap ?_
 refine Tr.ret (Fin.CV rfl (AO.cell 0 rfl rfl OB WM rfl Lr) ?_)
 · exact Lr
theorem Zw {l:List BX} {r:List BK} {d:List Int} (IW:∀x∈l,x.C2.small) (hl:l.length≤1000000) (hr:r.length≤1000000) (hd:d.length≤1000000):Om prog 33 [agg [Dm l,reqs r,ints d]] (fun x=>agg [Dm l,reqs r,is x]) (fun x=>[Bx 3 1 (d.map fun n=>[int n]) x]):=by
 refine Om.of func33 rfl rfl Ao fun M0 w0 S rs M1 w1=>(Tr.HB 0 0 rfl rfl fun HR=>(Tr.seq (Tr.Ap (tp rfl (Bn rfl (Va rfl)) ?_))))
 refine Tl rfl rfl rfl rfl z35 E3 (fun b1=> ?_)
 refine ao ?_
 refine Tr.seq (Tr.pad (Tr.pad (Tr.pad (Tr.rx ?_))))
 refine ax ?_
 refine xo rfl (fun _=>Iq rfl underlying33 Cf SF Qd rfl AB (vl rfl) NK EE) ?_
 refine ax ?_
 refine Cx.ef 0 rfl rfl AB (ZO rfl rfl AB rfl underlying22 Bt He z3 rfl AB AB ⟨_,rfl,C8 1⟩ (vl rfl) NK EE) ?_
 refine Cx.ef 1 rfl rfl AB (dI (d:=12) (s:=11) (p:=fun v=>agg [is (.slice none 0 0),reqs r,Ab v (lens (d.map fun n=>[int n]).length)]) (q:=agg [is (.slice none 0 0),reqs r,lens (d.map fun n=>[int n]).length]) rfl AB (fun _=>BT ⟨Lr,Lr,Aq _ _,trivial⟩) rfl rfl AB (fun v=>ZX rfl rfl AB (fun _=>Al (rows:=[(1,[_]),(2,[_])]) rfl LS E3 ⟨⟨rfl,VL.le (vl rfl) (Af _)⟩,⟨⟨rfl,VL.le (vl rfl) (Af _)⟩,trivial⟩⟩ rfl))) (Cx.ef 2 rfl rfl AB (CW rfl rfl AB rfl z35 E3) (Cx.Dv 2 rfl rfl (Tc rfl rfl rfl AB rfl rfl (Ad _) CI rfl rfl) ?_))
 refine Cx.nil ⟨by kernel_rfl,?_⟩
 refine BO.pin 11 rfl (fun v11=> ?_)
 refine BO.pin 12 rfl (fun v12=> ?_)
 refine BO.pin 3 rfl (fun v3=> ?_)
 refine BO.uB 0 11 rfl rfl (BO.nV 1 12 11 rfl rfl rfl (BO.nV 2 3 12 rfl rfl rfl (BO.done al5 (Fin.shape 3 (fun b=> .pointer (some ⟨b,0,none⟩)) rfl (fun b9 e9=> ?_)))))
 subst e9
 refine Fin.XK 1 2 rfl rfl (Fin.drop 1 (Fin.go (wk [3,2,1] rfl ?_)))
 refine ac ?_
 refine Tr.block (Tr.Ho 1 [Ab (.slice none 0 0) (Dm (l.take 0)),reqs r,Ab v11 (lens (d.map fun n=>[int n]).length)] rfl ⟨Bl rfl,Lr,Lr,trivial⟩ (Tr.B6 86 8 (Tr.ET _ (kk [15,14,3,2] rfl) (fun k u=>[(16,int ((k:Nat):Int))]) (fun k u=>Hp M0 w0 S (As 86 8 u::Bx 3 1 (d.map fun n=>[int n]) v11::AF true b9 35 [Ab u (Dm (l.take k)),reqs r,Ab v11 (lens (d.map fun n=>[int n]).length)]::AF true b1 35 (([.slice none 0 0,.slice none 0 0,.slice none 0 0]:List Value).map is)::Ak M1 w1::rs)) (fun k:Nat=>k≤(l).length) (fun k:Nat=>(l).length-k) 0 (.slice none 0 0) (Nat.zero_le _) kz (fun _ _ h=>h) ?_)))
 rintro k u BV
 refine ac ?_
 refine Tr.seq ?_
 refine Tr.cn rfl ?_ ?_<;>intro h1 q1
 have Ah:k<(l).length:=AH h1
 obtain ⟨x,Ai⟩:=at_ Ah
 refine ac ?_
 refine Tr.seq (Tr.block (Tr.seq (Tr.Ap (tp rfl (AD rfl underlying32 Dh (vl rfl) (vl rfl) AA (Aa Ai)) (tp rfl (AQ rfl HK Dh (vl rfl) rfl rfl) ?_)))))
 refine Tl rfl rfl rfl rfl PG Kz (fun b10=> ?_)
 refine sf 0 5 ⟨rfl,rfl,rfl⟩ rfl rfl rfl rfl ?_
 refine ao ?_
 refine Tr.pad (Tr.rx ?_)
 refine ax ?_
 refine xo rfl (fun _=>Cn (Zr (c:=x) (IW x (List.mem_of_getElem? Ai))) rfl rfl) ?_
 refine xo rfl (fun _=>AM (xs:=[.tmp 23]) (rows:=[_]) rfl rfl underlying32 Dh PG rfl AB ⟨⟨Am,(Va rfl)⟩,trivial⟩ AB) ?_
 refine Cx.ef 1 rfl rfl AB (B1 rfl rfl rfl rfl underlying32 Dh Yg PG (Kb rfl) (Kf rfl) (Ax BN (Ka rfl))) ?_
 refine xo rfl (fun _=>Ac rfl Yd (vl rfl)) (Cx.Dv 3 rfl rfl (Fz rfl rfl rfl (vl rfl) rfl AAk Ao) ?_)
 refine Cx.nil ⟨by kernel_rfl,?_⟩
 refine BO.Qa 1 3 25 rfl rfl AB rfl (fun v1=> ?_)
 refine BO.done al6 ?_
 refine ac ?_
 refine Tr.drop 0 (wk [16,15,14,3,2] rfl ?_)
 refine ac ?_
 refine Fin.Ho 2 [Ab v1 (Dm (l.take (k+1))),reqs r,Ab v11 (lens (d.map fun n=>[int n]).length)] rfl ⟨BC au,Lr,Lr,trivial⟩ ?_
 exact Fin.DD (k+1) v1 (⟨Ah,by omega⟩) ⟨⟨_,rfl,AG k⟩,kz⟩ (fun _ _ h=>h)
 have BP:k=(l).length:=by have:=AJ h1;omega
 subst BP
 rw [List.take_length]
 refine ac ?_
 refine ao ?_
 refine TO.AK 3 rfl rfl rfl (vl rfl) (Va rfl) rfl CI rfl rfl ?_
 refine ao ?_
 refine Tr.ret (Fin.drop 0 (Fin.drop 1 (Fin.Ik (Fin.xS v11 [_] rfl (AO.cell 0 rfl rfl Cs CI rfl Lr) ?_ (List.Perm.refl _)))))
 · exact BT ⟨Aq _ _,Lr,E0 _ _,trivial⟩
theorem gy {n:Int} {l:List BK} {s:List Int} (hl:l.length≤1000000):BD prog 279 [int n,reqs l,ints s] (Cp.ex fun z:List BK×Int=>fact (z.1.length≤1000) (EA [reqs z.1,int z.2])):=by
 refine fo func279 rfl ⟨rfl,rfl⟩ fun M0 w0=> ?_
 refine a2 ?_
 refine co rfl (CK (I4 hl) rfl rfl rfl) ?_
 refine ac ?_
 refine an ?_ ?_<;>intro h1 q1
 refine ac ?_
 refine Tr.ret (Fin.AE (Fin.Ba rfl (AO.tmp rfl Lr) (AO.tmp rfl Lr) ?_))
 · exact P_
 have hv:BH n l=0:=by simpa using h1
 obtain ⟨N,rfl⟩:∃N:Nat,n=(N:Int):=⟨n.toNat,by have:=(Cu hv).1;omega⟩
 have NG:=(Cu hv).1
 have gb:∀r∈l,(0≤r.fst∧r.fst<(N:Nat))∧0≤r.thn∧r.thn<(N:Nat):=fun r hr=>by
  have h_:=(Cu hv).2.1 r hr
  unfold FC at h_;rw [decide_eq_false_iff_not] at h_;omega
 refine a2 ?_
 refine co rfl (CK (Q8 (l:=s) (n:=((N:Nat):Int))) rfl rfl rfl) ?_
 refine an ?_ ?_<;>intro h2 q2
 refine ac ?_
 refine wk [7,6] rfl (Tr.ret (Fin.AE (Fin.Ba rfl (AO.tmp rfl Lr) (AO.tmp rfl Lr) ?_)))
 · exact P_
 have hsb:De ((N:Nat):Int) s=true:=by simpa using h2
 have hsn:=cQ hsb
 refine a2 ?_
 refine co rfl (CK (Ti (n:=N) (l:=l) AA hl gb) rfl rfl rfl) ?_
 refine ac ?_
 refine wk [9,2] rfl ?_
 refine a2 ?_
 refine Tr.block (Tr.B6 61 2 (Tr.C9 _ (kk [29,28,9,2] rfl) (fun (o:List BK) (i:Nat) u=>[(30,int ((i:Nat):Int)),(10,Ab u (reqs o))]) (fun (o:List BK) (i:Nat) u=>Hp M0 w0 FO ([As 61 2 u])) (fun (o:List BK) (i:Nat)=>i≤s.length∧o.length≤24*i) (fun (o:List BK) (i:Nat)=>s.length-i) ([]) (0) (.slice none 0 0) (⟨Nat.zero_le _,by simp⟩) ⟨kq,⟨_,rfl,Bl rfl⟩,trivial⟩ (fun _ _ h=>h) ?_))
 rintro o i u ⟨hi0,i6⟩
 refine ac ?_
 refine Tr.seq ?_
 refine Tr.cn rfl ?_ ?_<;>intro h3 q3
 have hi:i<s.length:=AH h3
 obtain ⟨x,hx⟩:=at_ hi
 have hxn:=Pc hsb hx
 refine a2 ?_
 refine co rfl (AD rfl underlying51 Bt vq vq AA (Aa hx)) ?_
 refine a2 ?_
 refine wk [37,36,35,30,29,28,12,11,10,9,2] rfl (Tr.block (Tr.C9 _ (kk [36,35,30,29,28,12,11,9,2] rfl) (fun (p:List BK) (k:Nat) u2=>[(37,int ((k:Nat):Int)),(10,Ab u2 (reqs p))]) (fun (p:List BK) (k:Nat) u2=>Hp M0 w0 FO ([As 61 2 u2])) (fun (p:List BK) (k:Nat)=>k≤s.length∧p.length≤24*i+k) (fun (p:List BK) (k:Nat)=>s.length-k) (o) (0) u (⟨Nat.zero_le _,by omega⟩) ⟨kq,⟨_,rfl,BC rfl⟩,trivial⟩ (fun _ _ h=>h) ?_))
 rintro p k u2 ⟨hk0,hpl⟩
 refine ac ?_
 refine Tr.seq ?_
 refine Tr.cn rfl ?_ ?_<;>intro h4 q4
 have hk:k<s.length:=AH h4
 obtain ⟨y,hy⟩:=at_ hk
 have hyn:=Pc hsb hy
 refine a2 ?_
 refine co rfl (AD rfl underlying51 Bt vq vq AA (Aa hy)) ?_
 refine ac ?_
 refine wk [37,36,35,30,29,28,14,13,12,11,10,9,2] rfl ?_
 refine ac ?_
 refine co rfl (AD rfl underlying158 OC vq vq AA (Bc (Kt _ (a:=x.toNat) AA))) ?_
 refine ac ?_
 refine co rfl (AD rfl underlying160 Vs vq vq AA (Bc (Ku _ (b:=y.toNat) AA))) ?_
 refine ac ?_
 refine wk [48,37,36,35,30,29,28,13,12,11,10,9,2] rfl ?_
 refine Tr.cn rfl ?_ ?_<;>intro h5 q5
 refine ap ?_
 refine TO.DQ 0 rfl rfl AB (B1 rfl rfl rfl rfl underlying33 Cf SF Qd HA GG (Ax BN Ja)) (fun v1=> ?_)
 refine ap ?_
 refine wk [37,36,35,30,29,28,12,11,10,9,2] rfl ?_
 refine ac ?_
 exact Fin.Bi (p++[⟨((i:Nat):Int),((k:Nat):Int)⟩]) (k+1) v1 (⟨⟨by omega,by simp;omega⟩,by omega⟩) ⟨⟨_,rfl,AG k⟩,⟨_,rfl,BC DI⟩,kz⟩ (fun _ _ h=>h)
 refine a2 ?_
 exact Fin.Bi (p) (k+1) u2 (⟨⟨by omega,by omega⟩,by omega⟩) ⟨⟨_,rfl,AG k⟩,⟨_,rfl,BC rfl⟩,kz⟩ (fun _ _ h=>h)
 have eH:=AJ h4
 refine a2 ?_
 exact Fin.Bi (p) (i+1) u2 (⟨⟨by omega,by omega⟩,by omega⟩) ⟨⟨_,rfl,AG i⟩,⟨_,rfl,BC rfl⟩,kz⟩ (fun _ _ h=>h)
 have hie:=AJ h3
 refine a2 ?_
 refine Tr.ret (Fin.Ba rfl (AO.tmp rfl Lr) (AO.tmp rfl Lr) ?_)
 · exact YN
theorem Rs {c:BR} {l:List BX} (ho:c.own=0):BD prog 65 [Ll c,Dm l] (EA [ints (Rc c l),int (EY c l)]):=by
 refine fo func65 rfl ⟨rfl,rfl⟩ fun M0 w0=>(Tr.C6 1 rfl fun G2=>(Tr.HB 0 1 rfl rfl fun Kj=> ?_))
 refine a2 ?_
 refine co rfl (CK (J4 (c:=c) (m:=((c.Is.length:Nat):Int))) rfl rfl rfl) ?_
 refine ac ?_
 refine an ?_ ?_<;>intro h1 q1
 exact absurd ho (by unfold BR.own;simpa using h1)
 refine a2 ?_
 refine wk [20,2,1] rfl ?_
 refine Tr.cn rfl ?_ ?_<;>intro h2 q2
 refine ac ?_
 refine Tr.ret (Fin.AE (Fin.Dp rfl (Br.Dz _ _) rfl ?_ rfl ?_))
 · rw [Vw (dP AA) AB];exact AP 1
 · refine int_eq ?_;exact (dP AA).symm
 refine a3 ?_
 refine Tr.block (Tr.B6 3 1 (Tr.ET _ (kk [22,21,2] rfl) (fun k v=>[(23,int ((k:Nat):Int)),(7,Ab v (ints ((l.take k).map (Rb c))))]) (fun k v=>Hp M0 w0 FO ([As 3 1 v])) (fun k:Nat=>k≤(l).length∧(∀j y,j<k→l[j]? =some y→Od c y=false)) (fun k:Nat=>(l).length-k) 0 (.slice none 0 0) (⟨Nat.zero_le _,fun j y hj=>absurd hj AA⟩) ⟨kq,⟨_,rfl,Bl rfl⟩,trivial⟩ (fun _ _ h=>h) ?_))
 rintro k v ⟨BV,AY⟩
 refine ac ?_
 refine Tr.seq ?_
 refine Tr.cn rfl ?_ ?_<;>intro h3 q3
 have Ah:k<(l).length:=AH h3
 obtain ⟨x,Ai⟩:=at_ Ah
 refine ac ?_
 refine Tr.seq (Tr.block (Tr.seq (Tr.Ap (tp rfl (AD rfl underlying32 Dh vq vq AA (Aa Ai)) (tp rfl (AQ rfl HK Dh vq rfl rfl) ?_)))))
 refine Tl rfl rfl rfl rfl PG Kz (fun b1=> ?_)
 refine sf 0 9 ⟨rfl,rfl,rfl⟩ rfl rfl rfl rfl ?_
 refine ao ?_
 refine ag ?_ ?_<;>intro h4 q4
 refine ac ?_
 refine wk [37,23,22,21,9,7,2] rfl ?_
 refine ac ?_
 refine Tr.ret (Fin.AE (Fin.AR (Fin.AE (Fin.AE (Fin.AR (Fin.AE (Fin.Dp rfl (Br.Dz _ _) rfl ?_ rfl ?_)))))))
 · exact aH
 · exact aT
 refine ac ?_
 refine wk [37,23,22,21,9,7,2] rfl ?_
 refine Tr.cn rfl ?_ ?_<;>intro h5 q5
 refine ac ?_
 refine Tr.ret (Fin.AE (Fin.AR (Fin.AE (Fin.AE (Fin.AR (Fin.AE (Fin.Dp rfl (Br.Dz _ _) rfl ?_ rfl ?_)))))))
 · exact aH
 · exact aT
 have htm:=wB (c:=c) (x:=x) AA
 refine ac ?_
 refine ao ?_
 refine tp rfl (AD rfl underlying22 Bt vq vq AA (Bc htm)) ?_
 refine ao ?_
 refine TO.DQ 0 rfl rfl AB (B1 rfl rfl rfl rfl underlying22 Bt He z3 HA GG (Ax BN Ja)) (fun v1=> ?_)
 refine ao ?_
 refine wk [23,22,21,7,2] rfl ?_
 refine ac ?_
 exact Fin.DD (k+1) v1 (⟨⟨Ah,DP (p:=Od c) Ai qQ AY⟩,by omega⟩) ⟨⟨_,rfl,AG k⟩,⟨_,rfl,BC (n8 Ai)⟩,kz⟩ (fun _ _ h=>h)
 have BP:k=(l).length:=by have:=AJ h3;omega
 subst BP
 refine a2 ?_
 refine Tr.ret (Fin.Dp rfl (Br.Dz _ _) rfl ?_ rfl ?_)
 · rw [XL (dQ AA AY)];exact Pr.le_trans (Aq _ _) (Pr.le_of_eq O7)
 · refine int_eq ?_;exact (dQ AA AY).symm
structure Rt (m:Nat) (l:List BX) (r:List BK) (d:List Int):Prop where
 l24:l.length≤24
 dl:d.length=l.length
 v:BH (l.length:Nat) r=0
 dd:∀j y c,j<l.length→d[j]? =some y→l[j]? =some c→(0≤y∧y≤40000)∧0≤c.AX∧c.AX<(m:Int)
abbrev JK (l:List BX) (r:List BK) (d:List Int):Pr:=agg [Dm l,reqs r,ints d]
theorem o_ {e:Dc} {l:List BX} {r:List BK} {d:List Int} (hrl:r.length≤1000000):BD prog 250 [agg (CE e),JK l r d] (Cp.ex fun z:Bool=>fact (z=true→Rt e.Bs.length l r d) (bool z)):=by
 refine fo func250 rfl ⟨rfl,rfl⟩ fun M0 w0=>(Tr.HB 1 0 rfl rfl fun AEW=>(Tr.HB 1 2 rfl rfl fun AEX=>(Tr.HB 0 0 rfl rfl fun HR=> ?_)))
 refine a2 ?_
 refine ag ?_ ?_<;>intro h1 q1
 refine ac ?_
 refine wk [26,3,2] rfl ?_
 refine a2 ?_
 · exact UC
 refine ag ?_ ?_<;>intro h2 q2
 refine ac ?_
 refine wk [26,3,2] rfl ?_
 refine a2 ?_
 · exact UC
 refine ac ?_
 refine cy h2 rfl (CK (I4 (n:=((l.length:Nat):Int)) (l:=r) hrl) rfl rfl rfl) ?_
 refine ac ?_
 refine wk [26,3,2] rfl ?_
 refine Tr.cn rfl ?_ ?_<;>intro h3 q3
 refine a2 ?_
 · exact UC
 have NG:l.length≤24:=by omega
 have gh:d.length=l.length:=by omega
 have hv:BH ((l.length:Nat):Int) r=0:=by omega
 refine a2 ?_
 refine Tr.block (Tr.BA _ (kk [29,28,3,2] rfl) (fun k:Nat=>[(30,int ((k:Nat):Int))]) (fun k:Nat=>k≤(l).length∧(∀j y c,j<k→d[j]? =some y→l[j]? =some c→(0≤y∧y≤40000)∧0≤c.AX∧c.AX<((e.Bs.length:Nat):Int))) (fun k:Nat=>(l).length-k) 0 (⟨Nat.zero_le _,fun j y c hj=>absurd hj AA⟩) kz ?_)
 rintro k ⟨BV,AY⟩
 refine ac ?_
 refine Tr.seq ?_
 refine Tr.cn rfl ?_ ?_<;>intro h4 q4
 have Ah:k<(l).length:=AH h4
 obtain ⟨x,Ai⟩:=at_ Ah
 obtain ⟨y,hy⟩:=at_ (l:=d) (k:=k) AA
 refine ac ?_
 refine ao ?_
 refine tp rfl (AD rfl underlying32 Dh vq vq AA (Aa Ai)) (tp rfl (AQ rfl HK Dh vq rfl rfl) ?_)
 refine Tl rfl rfl rfl rfl PG Kz (fun b1=> ?_)
 refine tm rfl ?_
 refine sf 0 7 ⟨rfl,rfl,rfl⟩ rfl rfl rfl rfl ?_
 refine ao ?_
 · repeat' first|exact Aw false (A7 (fun h_=>by cases h_) Lr)|(exact Fin.AL (k+1) ⟨⟨Ah,fun j z c hj hz i7=>by rcases Nat.lt_or_eq_of_le (Nat.le_of_lt_succ hj) with h_|h_;exact AY j z c h_ hz i7;(subst h_;rw [hy] at hz;cases hz;rw [Ai] at i7;cases i7;omega)⟩,by omega⟩ ⟨⟨_,rfl,AG k⟩,kz⟩)|refine cy h rfl (AD rfl underlying22 Bt vq vq AA (Aa hy)) ?_|refine ac ?_|(refine Tr.cn rfl ?_ ?_<;>intro h q)|(refine Ch.cg rfl rfl rfl ?_ ?_<;>intro h q)
 have BP:k=(l).length:=by have:=AJ h4;omega
 subst BP
 refine a3 ?_
 · exact Aw true (A7 (fun _=>⟨NG,gh,hv,AY⟩) Lr)
theorem pE {n:Nat} (hn:n≤1000):BD prog 127 [int ((n:Nat):Int)] (Cp.ex fun z:List Int=>fact (z.length≤n) (ints z)):=by
 refine fo func127 rfl ⟨rfl,rfl⟩ fun M0 w0=> ?_
 refine a3 ?_
 refine Tr.block (Tr.B6 3 1 (Tr.C9 _ (kk [5] rfl) (fun (o:List Int) (k:Nat) u=>[(6,int ((k:Nat):Int)),(3,Ab u (ints o))]) (fun (o:List Int) (k:Nat) u=>Hp M0 w0 FO ([As 3 1 u])) (fun (o:List Int) (k:Nat)=>k≤n∧o.length=k) (fun (o:List Int) (k:Nat)=>n-k) ([]) (0) (.slice none 0 0) (⟨Nat.zero_le _,rfl⟩) ⟨kq,⟨_,rfl,Bl rfl⟩,trivial⟩ (fun _ _ h=>h) ?_))
 rintro o k u ⟨hk0,i6⟩
 refine ac ?_
 refine Tr.seq ?_
 refine Tr.cn rfl ?_ ?_<;>intro h1 q1
 have hk:k<n:=AH h1
 refine a2 ?_
 refine ap ?_
 refine TO.DQ 0 rfl rfl AB (B1 rfl rfl rfl rfl underlying51 Bt He z3 HA GG (Ax BN Ja)) (fun v1=> ?_)
 refine ap ?_
 refine ac ?_
 exact Fin.Bi (o++[((k:Nat):Int)]) (k+1) v1 (⟨⟨by omega,by simp;omega⟩,by omega⟩) ⟨⟨_,rfl,AG k⟩,⟨_,rfl,BC DI⟩,kz⟩ (fun _ _ h=>h)
 have eH:=AJ h1
 refine a3 ?_
 · exact Oz
theorem Lx {e:Dc} {l:List BX} {r:List BK} {d s:List Int} {n:Nat} (hz:e.sz n) (hn:n≤800000) (hc:∀c∈l,c.C2.fits∧c.C2.small):BD prog 253 [agg (CE e),JK l r d,ints s] (EA [agg (CE (VD e l s).1),bool (decide ((VD e l s).2=0))]):=by
 refine fo func253 rfl ⟨rfl,rfl⟩ fun M0 w0=>(Tr.seq (Tr.Ap (tp rfl (Bn rfl C1) (tp rfl (Bn rfl C1) ?_))))
 refine Tl rfl rfl rfl rfl z31 Hx (fun b1=> ?_)
 refine ao ?_
 refine ao ?_
 refine tp rfl (K0 (Ro hz hn hc) rfl rfl rfl rfl) ?_
 refine ao ?_
 refine Tl rfl rfl rfl rfl z31 Hx (fun b2=> ?_)
 refine sf 0 8 ⟨rfl,rfl,rfl⟩ rfl rfl rfl rfl ?_
 refine ao ?_
 refine wk [9,8,6] rfl ?_
 refine ao ?_
 refine TO.AK 0 rfl rfl rfl vq C1 rfl DR rfl rfl ?_
 refine ao ?_
 refine Tr.ret (Fin.Ba rfl (AO.cell 0 rfl rfl DT DR rfl Lr) (AO.tmp rfl Lr) ?_)
 · exact Lr
theorem SU {e:Dc} {c:BR} {l:List BX} {r:List BK} {fr:Int} (hf:e.fits) (IW:∀x∈l,x.C2.small) (hrl:r.length≤1000000):BD prog 54 [agg (CE e),Ll c,Dm l,reqs r,int fr] (EA [agg (n_ e c l r fr),int (KE e c l r fr)]):=by
 refine fo func54 rfl ⟨rfl,rfl⟩ fun M0 w0=>(Tr.C6 3 rfl fun AHB=>(Tr.HB 0 0 rfl rfl fun HR=>(Tr.seq (Tr.Ap (tp rfl (Bn rfl C1) (tp rfl (Bn rfl C1) ?_))))))
 refine Tl rfl rfl rfl rfl z35 E3 (fun b1=> ?_)
 refine ao ?_
 refine ac ?_
 refine co rfl (Cn (Dr hf) rfl rfl) ?_
 refine an ?_ ?_<;>intro h1 q1
 have Uq:FM e=false:=by cases h_:FM e with|false=>rfl|true=>exact absurd h1 L_
 have Xy:KD e c l=31:=by unfold KD;rw [if_pos Uq]
 have hb:KD e c l≠0:=by rw [Xy];decide
 refine ao ?_
 refine TO.AK 0 rfl rfl rfl vq C1 rfl CI rfl rfl ?_
 refine ao ?_
 refine Tr.ret (Fin.AE (Fin.Ba rfl (AO.cell 0 rfl rfl Cs CI rfl Lr) (AO.tmp rfl Lr) ?_))
 refine A_ ⟨?_,?_,trivial⟩
 · exact Re (Tf hb) hb
 · refine int_eq ?_;rw [Tf hb,Xy]
 have Uq:¬FM e=false:=by intro h_;rw [h_] at h1;exact absurd h1 AB
 refine a2 ?_
 refine co rfl (CK (J4 (c:=c) (m:=((e.Bs.length:Nat):Int))) rfl rfl rfl) ?_
 refine ac ?_
 refine wk [12,10,6,4,3,2] rfl ?_
 refine an ?_ ?_<;>intro h2 q2
 have hck:c.check ((e.Bs.length:Nat):Int)≠0:=by simpa using h2
 have Xy:KD e c l=c.check ((e.Bs.length:Nat):Int):=by unfold KD;rw [if_neg Uq,if_pos hck]
 have hb:KD e c l≠0:=by rw [Xy];exact hck
 refine ao ?_
 refine TO.AK 0 rfl rfl rfl vq C1 rfl CI rfl rfl ?_
 refine ao ?_
 refine Tr.ret (Fin.AE (Fin.Ba rfl (AO.cell 0 rfl rfl Cs CI rfl Lr) (AO.tmp rfl Lr) ?_))
 refine A_ ⟨?_,?_,trivial⟩
 · exact Re (Tf hb) hb
 · refine int_eq ?_;rw [Tf hb,Xy]
 have hck:c.check ((e.Bs.length:Nat):Int)=0:=by simpa using h2
 have Xy:KD e c l=EY c l:=by unfold KD;rw [if_neg Uq,if_neg (not_not_intro hck)]
 obtain ⟨how,htl,hth⟩:=Te hck
 refine a2 ?_
 refine co rfl (CK (Rs (c:=c) (l:=l) how) rfl rfl rfl) ?_
 refine ac ?_
 refine wk [14,13,10,6,4,3,2] rfl ?_
 refine an ?_ ?_<;>intro h3 q3
 have hte:EY c l≠0:=by simpa using h3
 have hb:KD e c l≠0:=by rw [Xy];exact hte
 refine ao ?_
 refine TO.AK 0 rfl rfl rfl vq C1 rfl CI rfl rfl ?_
 refine ao ?_
 refine Tr.ret (Fin.AE (Fin.Ba rfl (AO.cell 0 rfl rfl Cs CI rfl Lr) (AO.tmp rfl Lr) ?_))
 refine A_ ⟨?_,?_,trivial⟩
 · exact Re (Tf hb) hb
 · refine int_eq ?_;rw [Tf hb,Xy]
 have hte:EY c l=0:=by simpa using h3
 have hb:KD e c l=0:=by rw [Xy];exact hte
 have NG:=(Rd hte).1
 have RG:=uL hte hth
 obtain ⟨T,hT⟩:∃T,l.map (Rb c)=T:=⟨_,rfl⟩
 have hTl:T.length=l.length:=by rw [←hT,List.length_map]
 rw [hT] at RG
 refine Tr.re 13 rfl (Pr.le_of_eq (by rw [XL hte,hT])) ?_
 refine a2 ?_
 refine co rfl (CK (Zp (n:=((l.length:Nat):Int)) (l:=r) hrl) rfl rfl rfl) ?_
 refine ac ?_
 refine wk [15,14,13,10,6,4,3,2] rfl ?_
 refine an ?_ ?_<;>intro h4 q4
 have hv:BH (l.length:Nat) r≠0:=by simpa using h4
 refine ao ?_
 refine TO.AK 0 rfl rfl rfl vq C1 rfl CI rfl rfl ?_
 refine ao ?_
 refine Tr.ret (Fin.AE (Fin.Ba rfl (AO.cell 0 rfl rfl Cs CI rfl Lr) (AO.tmp rfl Lr) ?_))
 refine A_ ⟨?_,?_,trivial⟩
 · exact Re (wD hb hv) hv
 · refine int_eq ?_;exact (wD hb hv).symm
 have hv:BH (l.length:Nat) r=0:=by simpa using h4
 obtain ⟨row,hrow⟩:∃row,(DO l.length r l.length).1=row:=⟨_,rfl⟩
 obtain ⟨gb,AGY⟩:=Iw hv l.length AU
 rw [Int.toNat_natCast,hrow] at gb AGY
 have hrq:∀q∈r,(0≤q.fst∧q.fst<l.length)∧0≤q.thn∧q.fst≠q.thn:=fun q hq=>by
  have h_:=(Cu hv).2.1 q hq
  unfold FC at h_;rw [decide_eq_false_iff_not] at h_;omega
 refine Tr.re 15 rfl (Pr.le_of_eq (by rw [if_pos hv,Int.toNat_natCast,hrow])) ?_
 refine ac ?_
 refine ao ?_
 refine tp rfl (Mo (m:=l.length) rfl underlying22 Bt He z3 rfl AB AB vq vq Fu AA) ?_
 refine tp rfl (Al (rows:=[(0,[_]),(1,[_]),(2,[_])]) rfl LS E3 ⟨⟨rfl,OJ⟩,⟨⟨rfl,OJ⟩,⟨⟨rfl,⟨_,rfl,Pr.le_trans (Pr.le_trans (B0 _ _) (Pr.le_of_eq (show _=slice 1 ((List.replicate l.length (0:Int)).map fun n=>[int n]) by rw [List.map_replicate];rfl))) (Af _)⟩⟩,trivial⟩⟩⟩ rfl) ?_
 refine TO.kg rfl rfl AB rfl (Zw (d:=List.replicate l.length 0) IW AA hrl O4) kz (fun v1=> ?_)
 refine Tl rfl rfl rfl rfl z35 E3 (fun b2=> ?_)
 refine TO.AK 0 rfl rfl rfl vq C1 rfl CI rfl rfl ?_
 refine ao ?_
 refine wk [16,15,13,10,6,4,3] rfl ?_
 refine a2 ?_
 refine Tr.block (Tr.B6 3 1 (Tr.B6 3 1 (Tr.jy _ (kk [69,68,16,13,10,6,4,3] rfl) (fun (dy:List Int) (b:List Int) (y:List Int) (k:Nat) u u2=>[(70,int ((k:Nat):Int)),(17,Ab u (ints b)),(18,Ab u2 (ints y))]) (fun (dy:List Int) (b:List Int) (y:List Int) (k:Nat) u u2=>Hp M0 w0 FO ([As 3 1 u2,As 3 1 u,AF true b2 35 [Dm l,reqs r,is v1],Bx 3 1 (dy.map fun n=>[int n]) v1,AF true b1 35 (([.slice none 0 0,.slice none 0 0,.slice none 0 0]:List Value).map is)])) (fun (dy:List Int) (b:List Int) (y:List Int) (k:Nat)=>k≤row.length∧Nq c r T fr l.length (row.take k)=some (dy,b,y)) (fun (dy:List Int) (b:List Int) (y:List Int) (k:Nat)=>row.length-k) (List.replicate l.length 0) ([]) ([]) (0) (.slice none 0 0) (.slice none 0 0) (⟨Nat.zero_le _,rfl⟩) ⟨kq,⟨_,rfl,Bl rfl⟩,⟨_,rfl,Bl rfl⟩,trivial⟩ (fun _ _ h=>h) ?_)))
 rintro dy b y k u u2 ⟨hk0,hsc⟩
 have hS:=SN.run (k:=k) gb (fun q hq=>by have:=hrq q hq;omega) NG how (fun i h1 h2=>RG _ (List.mem_of_getElem? (Es (l:=T) (i:=i.toNat) AA))) hk0 hsc
 have gh:=hS.len
 have WU:b.length=k:=by rw [hS.hb,List.length_map,List.length_take];omega
 have hyl:y.length=k:=by rw [hS.hd,List.length_map,List.length_take];omega
 refine ac ?_
 refine Tr.seq ?_
 refine Tr.cn rfl ?_ ?_<;>intro h5 q5
 have hk:k<row.length:=AH h5
 obtain ⟨i,hi⟩:=at_ hk
 have mu:=gb.RL i (List.mem_of_getElem? hi)
 have hti:T[i.toNat]? =some (Xz T i):=Es AA
 refine ac ?_
 refine Tr.seq (Tr.block (Tr.seq (Tr.Aj (co rfl (AD rfl underlying51 Bt vq vq AA (Aa hi)) ?_))))
 refine ac ?_
 refine wk [70,69,68,20,18,17,16,13,10,6,4,3] rfl ?_
 refine ac ?_
 refine wk [70,69,68,21,20,18,17,16,13,10,6,4,3] rfl ?_
 refine ac ?_
 refine wk [77,76,75,70,69,68,21,20,18,17,16,13,10,6,4,3] rfl (Tr.block (Tr.BA _ (kk [76,75,70,69,68,20,18,17,16,13,10,6,4,3] rfl) (fun m:Nat=>[(77,int ((m:Nat):Int)),(21,int (Fq (r.take m) dy i fr))]) (fun m:Nat=>m≤(r).length) (fun m:Nat=>(r).length-m) 0 (Nat.zero_le _) ⟨kq,kz⟩ ?_))
 rintro m LC
 refine ac ?_
 refine wk [78,77,76,75,70,69,68,21,20,18,17,16,13,10,6,4,3] rfl (Tr.seq ?_)
 refine Tr.cn rfl ?_ ?_<;>intro h6 q6
 have D7:m<(r).length:=AH h6
 obtain ⟨q,D_⟩:=at_ D7
 refine ac ?_
 refine wk [77,76,75,70,69,68,21,20,18,17,16,13,10,6,4,3] rfl (Tr.seq (Tr.block (Tr.seq (Tr.Ap (tp rfl (AD rfl underlying33 Cf vq vq AA (Aa D_)) (tp rfl (AQ rfl FH Cf vq rfl rfl) ?_))))))
 refine Tl rfl rfl rfl rfl Qd Oi (fun b3=> ?_)
 refine sf 0 23 ⟨rfl,rfl,rfl⟩ rfl rfl rfl rfl ?_
 refine ao ?_
 refine wk [77,76,75,70,69,68,23,21,20,18,17,16,13,10,6,4,3] rfl ?_
 refine ac ?_
 refine wk [84,77,76,75,70,69,68,23,21,20,18,17,16,13,10,6,4,3] rfl ?_
 refine Tr.cn rfl ?_ ?_<;>intro h7 q7
 have hqr:=hrq q (List.mem_of_getElem? D_)
 have hz:=Es (l:=dy) (i:=q.fst.toNat) (by have:=hS.len;omega)
 have hzb:=hS.bnd _ (List.mem_of_getElem? hz)
 refine ac ?_
 refine co rfl (Cw 3 rfl (Qz rfl underlying22 Bt vq vq AA EE)) ?_
 refine co rfl (Cw 3 rfl (ZN rfl Cj vq (Bb fun _=>rfl) (by rw [List.getElem?_map,hz];rfl) rfl)) ?_
 refine Kx rfl rfl rfl rfl AA (co rfl (NP rfl vq vq) ?_)
 refine ac ?_
 refine wk [77,76,75,70,69,68,21,20,18,17,16,13,10,6,4,3] rfl ?_
 refine ac ?_
 exact Fin.AL (m+1) ⟨D7,by omega⟩ ⟨⟨_,rfl,AG m⟩,⟨_,rfl,int_eq (by rw [Rf D_,if_pos (by simpa using h7)])⟩,kz⟩
 refine ac ?_
 refine wk [77,76,75,70,69,68,21,20,18,17,16,13,10,6,4,3] rfl ?_
 refine ac ?_
 exact Fin.AL (m+1) ⟨D7,by omega⟩ ⟨⟨_,rfl,AG m⟩,⟨_,rfl,int_eq (by rw [Rf D_,if_neg (by simpa using h7)])⟩,kz⟩
 have Ip:m=(r).length:=by have:=AJ h6;omega
 subst Ip
 rw [List.take_length]
 refine ac ?_
 refine wk [70,69,68,21,20,18,17,16,13,10,6,4,3] rfl ?_
 refine ac ?_
 refine co rfl (AD rfl underlying22 Bt vq vq AA (Bc hti)) ?_
 refine ac ?_
 refine co rfl (AV rfl (W4 (c:=c) (Ag:=b) (days:=y) (n:=Xz T i) (from_:=Fq r dy i fr)) ⟨kq,HA,HA,kz⟩) ?_
 refine ac ?_
 refine wk [70,69,68,25,24,20,18,17,16,13,10,6,4,3] rfl ?_
 refine ac ?_
 refine wk [109,70,69,68,24,20,18,17,16,13,10,6,4,3] rfl ?_
 refine Tr.cn rfl ?_ ?_<;>intro h8 q8
 have hno:c.early b y (Xz T i) (Fq r dy i fr)=none:=by simpa using h8
 refine ao ?_
 refine TO.AK 4 rfl rfl rfl vq C1 rfl CI rfl rfl ?_
 refine ao ?_
 refine wk [11,10] rfl (Tr.ret (Fin.AE (Fin.AR (Fin.AE (Fin.AE (Fin.AR (Fin.AE (Fin.Ba rfl (AO.cell 4 rfl rfl Cs CI rfl Lr) (AO.tmp rfl Lr) ?_))))))))
 refine A_ ⟨?_,?_,trivial⟩
 · exact Re (oG hb hv ak) AB
 · refine int_eq ?_;exact (oG hb hv ak).symm
 obtain ⟨x,hx⟩:∃x,c.early b y (Xz T i) (Fq r dy i fr)=some x:=Option.isSome_iff_exists.1 (by simpa using h8)
 have Zx:=Es (l:=dy) (i:=i.toNat) (by have:=hS.len;omega)
 refine Tr.re 24 rfl (int_eq (by rw [hx])) ?_
 refine ac ?_
 refine wk [70,69,68,24,20,18,17,16,13,10,6,4,3] rfl ?_
 refine ao ?_
 refine tp rfl (Cw 3 rfl (Qz rfl underlying22 Bt vq vq AA EE)) ?_
 refine TO.Dv 3 rfl rfl (LX rfl rfl vq OJ Bt rfl (Bb fun _=>rfl) (by rw [List.getElem?_map,Zx];rfl) AB (show _=(dy.set i.toNat x).map _ by rw [List.map_set];rfl)) ?_
 refine ao ?_
 refine wk [70,69,68,24,20,18,17,16,13,10,6,4,3] rfl ?_
 refine ao ?_
 refine tp rfl (AD rfl underlying22 Bt vq vq AA (Bc hti)) ?_
 refine ao ?_
 refine TO.DQ 1 rfl rfl AB (B1 rfl rfl rfl rfl underlying22 Bt He z3 HA GG (Ax BN Ja)) (fun v2=> ?_)
 refine ao ?_
 refine TO.DQ 0 rfl rfl AB (B1 rfl rfl rfl rfl underlying22 Bt He z3 HA GG (Ax BN Ja)) (fun v3=> ?_)
 refine ao ?_
 refine wk [70,69,68,18,17,16,13,10,6,4,3] rfl ?_
 refine ac ?_
 exact Fin.qd (dy.set i.toNat x) (b++[Xz T i]) (y++[x]) (k+1) v2 v3 (⟨⟨hk,tV hi hsc hx⟩,by omega⟩) ⟨⟨_,rfl,AG k⟩,⟨_,rfl,BC DI⟩,⟨_,rfl,BC DI⟩,kz⟩ (fun _ _ h=>h)
 have hkr:k=row.length:=by have:=AJ h5;omega
 rw [hkr,List.take_length] at hsc
 have hsr:Vz c l r fr=some (dy,b,y):=by unfold Vz;rw [hT,hrow];exact hsc
 refine ac ?_
 refine Tr.seq (Tr.MY 2 3 2 rfl rfl AB rfl Lr (Bb fun _=>rfl) ?_)
 refine ao ?_
 refine TO.AK 4 rfl rfl rfl vq C1 rfl CI rfl rfl ?_
 refine ao ?_
 refine wk [11,10] rfl (Tr.ret (Fin.Ba rfl (AO.cell 4 rfl rfl Cs CI rfl Lr) (AO.tmp rfl Lr) ?_))
 refine A_ ⟨?_,?_,trivial⟩
 · exact uM (wE hb hv hsr) hsr
 · refine int_eq ?_;exact (wE hb hv hsr).symm
theorem pF {l:List BX} {n:Nat} (hc:∀c∈l,c.C2.fits∧c.C2.small):∀(s:List Int) (Bs:List B_),(∀x∈Bs,x.sz n)→(∀x∈(Nj l s Bs).1,x.sz (n+s.length))∧(Nj l s Bs).1.length=Bs.length
 |[],Bs,h=>⟨h,rfl⟩
 |i::s,Bs,h=>by
  rw [Nj]
  split
  · exact ⟨fun x hx=>(h x hx).le AA,rfl⟩
  next c i7=>
  by_cases ha:(LD Bs c).2=0
  ·
   rw [if_pos ha]
   have:=pF (n:=n+1) hc s (LD Bs c).1 (l_ h (hc c (List.mem_of_getElem? i7)))
   rw [cO] at this
   exact ⟨fun x hx=>by rw [List.length_cons,show n+(s.length+1)=n+1+s.length by omega];exact this.1 x hx,this.2⟩
  · rw [if_neg ha];exact ⟨fun x hx=>(h x hx).le AA,rfl⟩
theorem dZ {e:Dc} {l:List BX} {s:List Int} {n:Nat} (hz:e.sz n) (hc:∀c∈l,c.C2.fits∧c.C2.small):(VD e l s).1.sz (n+s.length):=by
 have h0:F4.sz (n+s.length):=⟨(fun x hx=>by cases hx),(fun x hx=>by cases hx),Nat.zero_le _,Nat.zero_le _,Nat.zero_le _⟩
 obtain ⟨h1,h2⟩:=pF hc s e.Bs hz.Bs
 unfold VD
 repeat' split
 · exact h0
 · exact h0
 · exact h0
 · exact ⟨h1,hz.items,by show (Nj l s e.Bs).1.length≤_;rw [h2];exact hz.le,hz.lg,hz.li⟩
 · exact h0
theorem OO.sz {e:Dc} (h:OO e):e.sz 5:=by
 have h3:=h.n3;have g3:=h.g3;have i2:=h.i2
 refine ⟨fun x hx=> ?_,fun x hx=>⟨by have:=(h.it x hx).name;unfold maxLen;omega,by have:=(h.it x hx).links;omega⟩,by omega,by omega,by omega⟩
 obtain ⟨i,hi⟩:=List.getElem?_of_mem hx
 exact s7 (h.snd i x hi)
theorem Xf {e:Dc} {l:List BX} {i:Int}:(∀x∈(Jf e l i).1,0≤x∧x<(l.length:Nat))∧(Jf e l i).1.length≤24:=by
 unfold Jf
 split
 · exact UD
 split
 · exact UD
 split
 · exact UD
 ·
  rename_i NG _
  refine ⟨fun x hx=> ?_,by have:=XZ (e.BS[i.toNat]?.getD Ga) l l.length;show (N1 _ _ _).length≤24;omega⟩
  unfold N1 at hx
  obtain ⟨j,hj,rfl⟩:=List.mem_map.1 hx
  have:=List.mem_range.1 (List.mem_filter.1 hj).1
  omega
theorem Zy {n:Int} {o:List (List Int)} {x:List Int} (h:(∀s∈o,∀y∈s,0≤y∧y<n)∧∀s∈o,s.length≤4096) (hx:∀y∈x,0≤y∧y<n) (hl:x.length≤4096):(∀s∈o++[x],∀y∈s,0≤y∧y<n)∧∀s∈o++[x],s.length≤4096:=by
 refine ⟨fun s hs=> ?_,fun s hs=> ?_⟩<;>rcases List.mem_append.1 hs with hs|hs
 · exact h.1 s hs
 · rw [List.mem_singleton] at hs;subst hs;exact hx
 · exact h.2 s hs
 · rw [List.mem_singleton] at hs;subst hs;exact hl
theorem gz {n:Int} {o:List Int} {x:Int} (h:∀y∈o,0≤y∧y<n) (hx:0≤x∧x<n):∀y∈o++[x],0≤y∧y<n:=fun y hy=>by
 rcases List.mem_append.1 hy with hy|hy
 · exact h y hy
 · rw [List.mem_singleton] at hy;subst hy;exact hx
theorem g_ {e:Dc} {l:List BX} {r:List BK} {d:List Int} {n:Nat} {i:Int} (hz:e.sz n) (hn:n≤800000) (hrl:r.length≤1000000):BD prog 251 [agg (CE e),JK l r d,int i] (Cp.ex fun z:List (List Int)×Int=>fact (LK ((l.length:Nat):Int) z.1) (EA [sets z.1,int z.2])):=by
 refine fo func251 rfl ⟨rfl,rfl⟩ fun M0 w0=> ?_
 refine a2 ?_
 refine co rfl (K0 (SS hz hn) rfl rfl rfl rfl) ?_
 refine ac ?_
 refine wk [8,4] rfl (Tr.seq ?_)
 obtain ⟨rel,y5⟩:∃rel,(Jf e l i).1=rel:=⟨_,rfl⟩
 have gb:∀x∈rel,0≤x∧x<(l.length:Nat):=y5 ▸ Xf.1
 have AHm:rel.length≤24:=y5 ▸ Xf.2
 refine Tr.re 8 rfl (Pr.le_of_eq (by rw [y5])) ?_
 refine ap ?_
 refine tp rfl (K0 (gy (n:=((l.length:Nat):Int)) (l:=r) (s:=rel) hrl) rfl rfl rfl rfl) ?_
 refine TO.ex 35 rfl (fun z1=>TO.fact 35 rfl fun Eg=> ?_)
 refine ap ?_
 refine wk [10,8] rfl ?_
 refine ap ?_
 refine tp rfl (CK (gp (n:=((rel.length:Nat):Int)) (l:=z1.1) AA) rfl rfl rfl) ?_
 refine TO.ex 42 rfl (fun z2=>TO.fact 42 rfl fun IL=> ?_)
 refine ap ?_
 refine ac ?_
 refine wk [46,13,12,8] rfl ?_
 refine Tr.cn rfl ?_ ?_<;>intro h1 q1
 refine ac ?_
 refine Tr.ret (Fin.AE (Fin.Ba rfl (AO.tmp rfl Lr) (AO.tmp rfl Lr) ?_))
 · exact YI
 have hl4:=IL.len
 refine a3 ?_
 refine Tr.block (Tr.B6 51 1 (Tr.C9 _ (kk [49,48,8] rfl) (fun (o:List (List Int)) (k:Nat) u=>[(50,int ((k:Nat):Int)),(14,Ab u (sets o))]) (fun (o:List (List Int)) (k:Nat) u=>Hp M0 w0 FO ([As 51 1 u])) (fun (o:List (List Int)) (k:Nat)=>(k≤z2.1.length∧o.length=k)∧(∀s∈o,∀y∈s,0≤y∧y<((l.length:Nat):Int))∧∀s∈o,s.length≤4096) (fun (o:List (List Int)) (k:Nat)=>z2.1.length-k) ([]) (0) (.slice none 0 0) (⟨⟨Nat.zero_le _,rfl⟩,fun s h=>FR,fun s h=>FR⟩) ⟨kq,⟨_,rfl,Bl rfl⟩,trivial⟩ (fun _ _ h=>h) ?_))
 rintro o k u ⟨⟨hk0,i6⟩,ow⟩
 refine ac ?_
 refine Tr.seq ?_
 refine Tr.cn rfl ?_ ?_<;>intro h2 q2
 have hk:k<z2.1.length:=AH h2
 obtain ⟨s,hs⟩:=at_ hk
 have hsr:=IL.RL s (List.mem_of_getElem? hs)
 have hsw:=IL.wid s (List.mem_of_getElem? hs)
 refine ac ?_
 refine Tr.seq (Tr.block (Tr.seq (Tr.Aj (co rfl (AD rfl underlying99 Gf vq vq AA (Aa hs)) ?_))))
 refine a3 ?_
 refine Tr.block (Tr.B6 3 1 (Tr.C9 _ (kk [55,54,50,49,48,14,8] rfl) (fun (x:List Int) (m:Nat) u2=>[(56,int ((m:Nat):Int)),(17,Ab u2 (ints x))]) (fun (x:List Int) (m:Nat) u2=>Hp M0 w0 FO ([As 3 1 u2,As 51 1 u])) (fun (x:List Int) (m:Nat)=>(m≤s.length∧x.length=m)∧∀y∈x,0≤y∧y<((l.length:Nat):Int)) (fun (x:List Int) (m:Nat)=>s.length-m) ([]) (0) (.slice none 0 0) (⟨⟨Nat.zero_le _,rfl⟩,fun s h=>FR⟩) ⟨kq,⟨_,rfl,Bl rfl⟩,trivial⟩ (fun _ _ h=>h) ?_))
 rintro x m u2 ⟨⟨hm0,hxl⟩,hxr⟩
 refine ac ?_
 refine Tr.seq ?_
 refine Tr.cn rfl ?_ ?_<;>intro h3 q3
 have hm:m<s.length:=AH h3
 obtain ⟨i2,hi2⟩:=at_ hm
 have hir:=hsr i2 (List.mem_of_getElem? hi2)
 obtain ⟨y,hy⟩:=at_ (l:=rel) (k:=i2.toNat) AA
 have hyr:=gb y (List.mem_of_getElem? hy)
 refine ac ?_
 refine Tr.seq (Tr.block (Tr.seq (Tr.Aj (co rfl (AD rfl underlying51 Bt vq vq AA (Aa hi2)) ?_))))
 refine ac ?_
 refine ap ?_
 refine tp rfl (AD rfl underlying51 Bt vq vq AA (Bc hy)) ?_
 refine ap ?_
 refine TO.DQ 0 rfl rfl AB (B1 rfl rfl rfl rfl underlying51 Bt He z3 HA GG (Ax BN Ja)) (fun v1=> ?_)
 refine ap ?_
 refine wk [56,55,54,50,49,48,17,14,8] rfl ?_
 refine ac ?_
 exact Fin.Bi (x++[y]) (m+1) v1 (⟨⟨⟨by omega,by simp;omega⟩,gz hxr hyr⟩,by omega⟩) ⟨⟨_,rfl,AG m⟩,⟨_,rfl,BC DI⟩,kz⟩ (fun _ _ h=>h)
 have hme:=AJ h3
 refine ac ?_
 refine ap ?_
 refine tp rfl (AM (xs:=[.tmp 69]) (rows:=[[_]]) rfl rfl underlying99 Gf z51 rfl AB ⟨⟨Am,⟨_,rfl,Pr.le_trans (Aq _ _) (Af _)⟩⟩,trivial⟩ AB) ?_
 refine TO.DQ 1 rfl rfl AB (B1 rfl rfl rfl rfl underlying99 Gf WL z51 HA GG (Ax BN Ja)) (fun v2=> ?_)
 refine ap ?_
 refine wk [50,49,48,14,8] rfl ?_
 refine ac ?_
 refine Fin.drop 0 ?_
 exact Fin.Bi (o++[x]) (k+1) v2 (⟨⟨⟨by omega,by simp;omega⟩,Zy ow hxr AA⟩,by omega⟩) ⟨⟨_,rfl,AG k⟩,⟨_,rfl,BC DI⟩,kz⟩ (fun _ _ h=>h)
 have eH:=AJ h2
 refine a2 ?_
 refine Tr.ret (Fin.Ba rfl (AO.tmp rfl Lr) (AO.tmp rfl Lr) ?_)
 · exact Aw (_,_) (A7 ⟨ow.1,(by show o.length≤4096;omega),ow.2⟩ (A_ ⟨Aq _ _,Lr,trivial⟩))
theorem Xg {e:Dc} {l:List BX} {r:List BK} {d:List Int} (hf:e.fits) (hrl:r.length≤1000000):BD prog 214 [agg (CE e),JK l r d] (Cp.ex fun z:Int=>fact (z=0→FM e=true∧Rt e.Bs.length l r d) (int z)):=by
 refine fo func214 rfl ⟨rfl,rfl⟩ fun M0 w0=> ?_
 refine a2 ?_
 refine co rfl (Cn (Dr hf) rfl rfl) ?_
 refine an ?_ ?_<;>intro h1 q1
 refine a2 ?_
 · exact T4
 have Uq:FM e=true:=by cases h_:FM e with|true=>rfl|false=>exact absurd h1 L_
 refine ac ?_
 refine ap ?_
 refine tp rfl (CK (o_ hrl) rfl rfl rfl) ?_
 refine TO.ex 10 rfl (fun z1=>TO.fact 10 rfl fun Eg=> ?_)
 refine ap ?_
 · repeat' first|exact Aw _ (A7 (fun h_=>absurd h_ AB) Lr)|exact Aw 0 (A7 (fun _=>⟨Uq,Eg CG⟩) Lr)|refine ac ?_|(refine Tr.cn rfl ?_ ?_<;>intro h q)
def pG (d s:List Int) (fr:Int):Int:=s.foldl (fun a i=>max a (d.getD i.toNat 0)) fr
theorem hO {d s:List Int} {fr i:Int} {k:Nat} (h:s[k]? =some i):pG d (s.take (k+1)) fr=max (pG d (s.take k) fr) (d.getD i.toNat 0):=by unfold pG;rw [List.take_add_one,h,List.foldl_append];rfl
theorem Ly {l:List BX} {r:List BK} {d s:List Int} {fr:Int} (hs:∀i∈s,0≤i∧i<(d.length:Nat)):BD prog 216 [JK l r d,ints s,int fr] (int (pG d s fr)):=by
 refine fo func216 rfl ⟨rfl,rfl⟩ fun M0 w0=>(Tr.C6 1 rfl fun G2=> ?_)
 refine a3 ?_
 refine Tr.block (Tr.BA _ (kk [12,11,3] rfl) (fun k:Nat=>[(13,int ((k:Nat):Int)),(7,int (pG d (s.take k) fr))]) (fun k:Nat=>k≤(s).length) (fun k:Nat=>(s).length-k) 0 (Nat.zero_le _) ⟨kq,kz⟩ ?_)
 rintro k BV
 refine ac ?_
 refine Tr.seq ?_
 refine Tr.cn rfl ?_ ?_<;>intro h1 q1
 have Ah:k<(s).length:=AH h1
 obtain ⟨i,Ai⟩:=at_ Ah
 have hir:=hs i (List.mem_of_getElem? Ai)
 have Zx:=Es (l:=d) (i:=i.toNat) AA
 refine ac ?_
 refine Tr.seq (Tr.block (Tr.seq (Tr.Aj (co rfl (AD rfl underlying51 Bt vq vq AA (Aa Ai)) ?_))))
 refine a2 ?_
 refine co rfl (AD rfl underlying22 Bt vq vq AA (Bc Zx)) (co rfl (GU rfl Cj rfl) (co rfl (NP rfl vq vq) ?_))
 refine ac ?_
 refine wk [13,12,11,7,3] rfl ?_
 refine ac ?_
 exact Fin.AL (k+1) ⟨Ah,by omega⟩ ⟨⟨_,rfl,AG k⟩,⟨_,rfl,int_eq (by rw [hO Ai])⟩,kz⟩
 have BP:k=(s).length:=by have:=AJ h1;omega
 subst BP
 rw [List.take_length]
 refine a3 ?_
 · exact Lr
structure AGZ (n:Int) (L:List (List (List Int))):Prop where
 RL:∀t∈L,LK n t
 len:L.length≤1000000
abbrev wG (L:List (List (List Int))):Pr:=slice 1 (L.map fun t=>[sets t])
theorem iA {n:Int} {L:List (List (List Int))} {t:List (List Int)} (h:∀t∈L,LK n t) (ht:LK n t):∀u∈L++[t],LK n u:=fun u hu=>by
 rcases List.mem_append.1 hu with hu|hu
 · exact h u hu
 · rw [List.mem_singleton] at hu;subst hu;exact ht
theorem Xh {e:Dc} {l:List BX} {r:List BK} {d:List Int} {n:Nat} (hz:e.sz n) (hn:n≤800000) (hrl:r.length≤1000000):BD prog 215 [agg (CE e),JK l r d] (Cp.ex fun z:List (List (List Int))×Int=>fact (AGZ ((l.length:Nat):Int) z.1) (EA [wG z.1,int z.2])):=by
 refine fo func215 rfl ⟨rfl,rfl⟩ fun M0 w0=> ?_
 have hlg:=hz.lg
 iterate 4 refine ac ?_
 refine Tr.block (Tr.B6 99 1 (Tr.Fb _ (kk [13,3,2] rfl) (fun (o:List (List (List Int))) (m:Int) (k:Nat) u=>[(14,int ((k:Nat):Int)),(7,int m),(6,Ab u (wG o))]) (fun (o:List (List (List Int))) (m:Int) (k:Nat) u=>Hp M0 w0 FO ([As 99 1 u])) (fun (o:List (List (List Int))) (m:Int) (k:Nat)=>(k≤e.BS.length∧o.length=k)∧(0≤m∧m≤4096)∧∀t∈o,LK ((l.length:Nat):Int) t) (fun (o:List (List (List Int))) (m:Int) (k:Nat)=>e.BS.length-k) ([]) (0) (0) (.slice none 0 0) (⟨⟨Nat.zero_le _,rfl⟩,⟨by omega,by omega⟩,fun s h=>FR⟩) ⟨kq,kq,⟨_,rfl,Bl rfl⟩,trivial⟩ (fun _ _ h=>h) ?_))
 rintro o m k u ⟨⟨hk0,i6⟩,hm,ow⟩
 refine ac ?_
 refine Tr.seq ?_
 refine Tr.cn rfl ?_ ?_<;>intro h1 q1
 have hk:k<e.BS.length:=AH h1
 refine a2 ?_
 refine ap ?_
 refine tp rfl (K0 (g_ hz hn hrl) rfl rfl rfl rfl) ?_
 refine TO.ex 21 rfl (fun z1=>TO.fact 21 rfl fun Eg=> ?_)
 have hzl:=Eg.len
 refine ap ?_
 refine wk [14,13,10,9,7,6,3,2] rfl ?_
 refine ac ?_
 refine ag ?_ ?_<;>intro h2 q2
 refine ac ?_
 refine wk [33,14,13,9,7,6,3,2] rfl ?_
 refine ac ?_
 refine Tr.ret (Fin.AE (Fin.AR (Fin.AE (Fin.AE (Fin.AR (Fin.AE (Fin.Ba rfl (AO.tmp rfl Lr) (AO.tmp rfl Lr) ?_)))))))
 · exact jJ
 refine ac ?_
 refine wk [33,14,13,9,7,6,3,2] rfl ?_
 refine Tr.cn rfl ?_ ?_<;>intro h3 q3
 refine ac ?_
 refine Tr.ret (Fin.AE (Fin.AR (Fin.AE (Fin.AE (Fin.AR (Fin.AE (Fin.Ba rfl (AO.tmp rfl Lr) (AO.tmp rfl Lr) ?_)))))))
 · exact jJ
 refine ac ?_
 refine ap ?_
 refine TO.DQ 0 rfl rfl AB (B1 rfl rfl rfl rfl underlying274 ql AEw z99 HA GG (Ax BN Ja)) (fun v1=> ?_)
 refine ap ?_
 refine ac ?_
 exact Fin.EI (o++[z1.1]) (m+((z1.1.length:Nat):Int)) (k+1) v1 (⟨⟨⟨by omega,by simp;omega⟩,⟨by omega,by omega⟩,iA ow Eg⟩,by omega⟩) ⟨⟨_,rfl,AG k⟩,kq,⟨_,rfl,BC DI⟩,kz⟩ (fun _ _ h=>h)
 have eH:=AJ h1
 refine a2 ?_
 refine Tr.ret (Fin.Ba rfl (AO.tmp rfl Lr) (AO.tmp rfl Lr) ?_)
 · exact Aw (_,_) (A7 ⟨ow,(by show o.length≤1000000;omega)⟩ (A_ ⟨Aq _ _,Lr,trivial⟩))
abbrev y7:Pr:=agg [anyI,anyI]
theorem ue {φ:Prop}:Pr.le (Cp.ex fun z:Int×Int×Int=>fact φ (EA [agg [int z.1,int z.2.1],int z.2.2])) (EA [y7,anyI]):=fun M w v ⟨z,_,h⟩=>A_ (ps:=[agg [int z.1,int z.2.1],int z.2.2]) (qs:=[y7,anyI]) ⟨BT (ps:=[int z.1,int z.2.1]) (qs:=[anyI,anyI]) ⟨Aw _ (Pr.le_refl _),Aw _ (Pr.le_refl _),trivial⟩,Aw _ (Pr.le_refl _),trivial⟩ M w v h
abbrev wH:Pr:=Cp.ex fun z:List Int=>fact (z.length≤1000000) (ints z)
theorem y8:Pr.le (Cp.ex fun z:List Int×Int=>fact (z.1.length≤1000) (EA [ints z.1,int z.2])) (EA [wH,anyI]):=fun M w v ⟨z,hz,h⟩=>A_ (ps:=[ints z.1,int z.2]) (qs:=[wH,anyI]) ⟨Aw z.1 (A7 AA (Pr.le_refl _)),Aw _ (Pr.le_refl _),trivial⟩ M w v h
theorem Zz {e:Dc} {l:List BX} {r:List BK} {d:List Int} {n:Nat} {s:List Int} {i fr Nf:Int} (hz:e.sz n) (hn:n≤800000) (hc:∀c∈l,c.C2.fits∧c.C2.small) (hs:∀i∈s,0≤i∧i<(d.length:Nat)) (iz:s.length≤4096)  :BD prog 249 [agg (CE e),JK l r d,int i,ints s,int fr,int Nf] (EA [y7,EJ]):=by
 refine fo func249 rfl ⟨rfl,rfl⟩ fun M0 w0=> ?_
 have hxf:=(dZ (l:=l) (s:=s) hz hc).fits AA
 refine Tr.seq (Tr.Ap (tp rfl (Bn rfl C1) (tp rfl (Bn rfl C1) ?_)))
 refine Tl rfl rfl rfl rfl JS Fe (fun b1=> ?_)
 refine ao ?_
 refine ao ?_
 refine tp rfl (K0 (Lx hz hn hc) rfl rfl rfl rfl) ?_
 refine ao ?_
 refine Tl rfl rfl rfl rfl z31 Hx (fun b2=> ?_)
 refine sf 0 14 ⟨rfl,rfl,rfl⟩ rfl rfl rfl rfl ?_
 refine ao ?_
 refine wk [15,14,12,7,5,4,3,2] rfl ?_
 refine an ?_ ?_<;>intro h1 q1
 refine ao ?_
 refine TO.AK 0 rfl rfl rfl vq C1 rfl CB rfl rfl ?_
 refine ao ?_
 refine Tr.ret (Fin.AE (Fin.Ba rfl (AO.cell 0 rfl rfl Ct CB rfl Lr) (AO.tmp rfl Lr) ?_))
 refine A_ ⟨?_,?_,trivial⟩
 · exact BT ⟨Aw _ Lr,Aw _ Lr,trivial⟩
 · exact BJ
 refine ac ?_
 refine Tr.seq (Tr.pad (Tr.rx ?_))
 refine ax ?_
 refine xo rfl (fun _=>K0 (Ly hs) rfl rfl rfl rfl) (xm rfl (xo rfl (fun _=>Ae.le (iU (OV hxf) rfl rfl rfl rfl rfl) ue) ?_))
 refine ax ?_
 refine Cx.ef 0 rfl rfl AB (CW rfl rfl AB rfl JS Fe) (Cx.Dv 0 rfl rfl (DF rfl rfl rfl rfl C1 CB rfl rfl) (xm rfl ?_))
 refine Cx.nil ⟨by kernel_rfl,?_⟩
 refine BO.open_ 0 16 rfl rfl (fun v1=> ?_)
 refine BO.done Wh (Fin.M_ 16 0 _ rfl rfl (fun _=>rfl) (fun b3=> ?_))
 refine Fin.go (wk [17,16,12] rfl ?_)
 refine ao ?_
 refine tp rfl (oQ rfl (VL.le vq Zi) (VL.le vq (DA _ _))) (TO.AK 1 rfl rfl rfl vq C1 rfl CB rfl rfl ?_)
 refine ao ?_
 refine Tr.drop 0 (Tr.ret (Fin.Ba rfl (AO.cell 0 rfl rfl Ct CB rfl Lr) (AO.tmp rfl Lr) ?_))
 refine A_ ⟨?_,?_,trivial⟩
 · exact Lr
 · exact Lr
abbrev pH (c:Int×List Int):List Pr:=[int c.1,ints c.2,anyI,anyI]
abbrev pI:Pr:=agg [Cp.ex fun L:List (Int×List Int)=>slice 4 (L.map pH)]
abbrev ADC:Pr:=agg [anyI,Cp.ex fun s:List Int=>ints s,anyI,anyI]
theorem Dx:Pr.le (agg [is (.slice none 0 0)]) pI:=BT ⟨Aw [] (AP 4),trivial⟩
theorem L5:Pr.le (agg [is (.int .i64 0),is (.slice none 0 0),is (.int .i64 0),is (.int .i64 0)]) ADC:=BT ⟨Aw _ (Pr.le_refl _),Aw [] (AP 1),Aw _ (Pr.le_refl _),Aw _ (Pr.le_refl _),trivial⟩
theorem iB {e:Dc} {l:List BX} {r:List BK} {d:List Int} {n:Nat} {fr Nf:Int} (hz:e.sz n) (hn:n≤800000) (hc:∀c∈l,c.C2.fits∧c.C2.small) (hrl:r.length≤1000000):BD prog 213 [agg (CE e),JK l r d,int fr,int Nf] (Cp.ex fun z:Int=>fact (z=0→FM e=true∧Rt e.Bs.length l r d) (EA [pI,ADC,EJ,int z])):=by
 refine fo func213 rfl ⟨rfl,rfl⟩ fun M0 w0=> ?_
 have hf:=hz.fits AA
 refine Tr.seq (Tr.Ap (tp rfl (Bn rfl C1) (tp rfl (Bn rfl C1) ?_)))
 refine Tl rfl rfl rfl rfl z107 EZ (fun b1=> ?_)
 refine Tl rfl rfl rfl rfl rW Qj (fun b2=> ?_)
 refine ao ?_
 refine ao ?_
 refine tp rfl (CK (Xg hf hrl) rfl rfl rfl) ?_
 refine TO.ex 24 rfl (fun z1=>TO.fact 24 rfl fun Eg=> ?_)
 refine ao ?_
 refine wk [12,9,8,5,4,3,2] rfl ?_
 refine an ?_ ?_<;>intro h1 q1
 refine ao ?_
 refine TO.AK 1 rfl rfl rfl vq C1 rfl Bm rfl rfl (TO.AK 0 rfl rfl rfl vq C1 rfl Fp rfl rfl ?_)
 refine ao ?_
 refine wk [11,10,9,8] rfl (Tr.ret (Fin.AE (Fin.OU rfl (AO.cell 1 rfl rfl CM Bm rfl Lr) (AO.cell 0 rfl rfl Jq Fp rfl Lr) (AO.tmp rfl Lr) (AO.tmp rfl Lr) ?_)))
 · exact Aw z1 (A7 (fun h_=>absurd h_ AA) (A_ ⟨Dx,L5,Aw _ Lr,Lr,trivial⟩))
 have hz0:z1=0:=by have:=q1;omega
 obtain ⟨Uq,hfp⟩:=Eg hz0
 have gh:=hfp.dl
 refine ac ?_
 refine ag ?_ ?_<;>intro h2 q2
 refine ac ?_
 refine wk [43,9,8,5,4,3,2] rfl (Tr.cond rfl (fun _=> ?_) (fun h=>nomatch h))
 refine Tr.seq (Tr.Ap (tp rfl (Al (rows:=[]) rfl JF EZ trivial rfl) (tp rfl (Al (rows:=[]) rfl bY Qj trivial rfl) (TO.AK 1 rfl rfl rfl vq C1 rfl Bm rfl rfl (TO.AK 0 rfl rfl rfl vq C1 rfl Fp rfl rfl ?_)))))
 refine ao ?_
 refine Tr.ret (Fin.AE (Fin.OU rfl (AO.cell 1 rfl rfl CM Bm rfl Lr) (AO.cell 0 rfl rfl Jq Fp rfl Lr) (AO.tmp rfl Lr) (AO.tmp rfl Lr) ?_))
 · exact Tz
 refine ag ?_ ?_<;>intro h3 q3
 refine ac ?_
 refine wk [43,9,8,5,4,3,2] rfl (Tr.cond rfl (fun _=> ?_) (fun h=>nomatch h))
 refine Tr.seq (Tr.Ap (tp rfl (Al (rows:=[]) rfl JF EZ trivial rfl) (tp rfl (Al (rows:=[]) rfl bY Qj trivial rfl) (TO.AK 1 rfl rfl rfl vq C1 rfl Bm rfl rfl (TO.AK 0 rfl rfl rfl vq C1 rfl Fp rfl rfl ?_)))))
 refine ao ?_
 refine Tr.ret (Fin.AE (Fin.OU rfl (AO.cell 1 rfl rfl CM Bm rfl Lr) (AO.cell 0 rfl rfl Jq Fp rfl Lr) (AO.tmp rfl Lr) (AO.tmp rfl Lr) ?_))
 · exact Tz
 refine ag ?_ ?_<;>intro h4 q4
 refine ac ?_
 refine wk [43,9,8,5,4,3,2] rfl (Tr.cond rfl (fun _=> ?_) (fun h=>nomatch h))
 refine Tr.seq (Tr.Ap (tp rfl (Al (rows:=[]) rfl JF EZ trivial rfl) (tp rfl (Al (rows:=[]) rfl bY Qj trivial rfl) (TO.AK 1 rfl rfl rfl vq C1 rfl Bm rfl rfl (TO.AK 0 rfl rfl rfl vq C1 rfl Fp rfl rfl ?_)))))
 refine ao ?_
 refine Tr.ret (Fin.AE (Fin.OU rfl (AO.cell 1 rfl rfl CM Bm rfl Lr) (AO.cell 0 rfl rfl Jq Fp rfl Lr) (AO.tmp rfl Lr) (AO.tmp rfl Lr) ?_))
 · exact Tz
 refine ac ?_
 refine wk [43,9,8,5,4,3,2] rfl ?_
 refine Tr.cn rfl ?_ ?_<;>intro h5 q5
 refine ao ?_
 refine TO.AK 1 rfl rfl rfl vq C1 rfl Bm rfl rfl (TO.AK 0 rfl rfl rfl vq C1 rfl Fp rfl rfl ?_)
 refine ao ?_
 refine Tr.ret (Fin.AE (Fin.OU rfl (AO.cell 1 rfl rfl CM Bm rfl Lr) (AO.cell 0 rfl rfl Jq Fp rfl Lr) (AO.tmp rfl Lr) (AO.tmp rfl Lr) ?_))
 · exact Tz
 refine ac ?_
 refine ao ?_
 refine tp rfl (CK (Xh hz hn hrl) rfl rfl rfl) ?_
 refine TO.ex 49 rfl (fun z2=>TO.fact 49 rfl fun IL=> ?_)
 refine ao ?_
 refine wk [14,13,9,8,5,4,3,2] rfl ?_
 refine an ?_ ?_<;>intro h6 q6
 refine ao ?_
 refine TO.AK 1 rfl rfl rfl vq C1 rfl Bm rfl rfl (TO.AK 0 rfl rfl rfl vq C1 rfl Fp rfl rfl ?_)
 refine ao ?_
 refine wk [11,10,9,8] rfl (Tr.ret (Fin.AE (Fin.OU rfl (AO.cell 1 rfl rfl CM Bm rfl Lr) (AO.cell 0 rfl rfl Jq Fp rfl Lr) (AO.tmp rfl Lr) (AO.tmp rfl Lr) ?_)))
 · exact Aw _ (A7 (fun _=>⟨Uq,hfp⟩) (A_ ⟨Dx,L5,Aw _ Lr,Lr,trivial⟩))
 refine ac ?_
 refine Tr.seq (Tr.Ap ?_)
 refine Tl rfl rfl rfl rfl z107 EZ (fun b3=> ?_)
 refine ao ?_
 refine ac ?_
 refine wk [59,58,57,15,9,8,5,4,3,2] rfl (Tr.block (Tr.Ho 0 [Ab (.slice none 0 0) (slice 4 (([]:List (Int×List Int)).map pH))] rfl ⟨Bl rfl,trivial⟩ (Tr.B6 270 4 (Tr.C9 _ (kk [58,57,15,9,8,5,4,3,2] rfl) (fun (q:List (Int×List Int)) (k:Nat) v=>[(59,int ((k:Nat):Int))]) (fun (q:List (Int×List Int)) (k:Nat) v=>Hp M0 w0 FO ([As 270 4 v,AF true b3 107 [Ab v (slice 4 (q.map pH))],AF true b2 270 (([.int .i64 0,.slice none 0 0,.int .i64 0,.int .i64 0]:List Value).map is),AF true b1 107 (([.slice none 0 0]:List Value).map is)])) (fun (q:List (Int×List Int)) (k:Nat)=>k≤z2.1.length∧q.length≤4096*k) (fun (q:List (Int×List Int)) (k:Nat)=>z2.1.length-k) ([]) (0) (.slice none 0 0) (⟨Nat.zero_le _,by simp⟩) kz (fun _ _ h=>h) ?_))))
 rintro q k v ⟨hk0,hql⟩
 refine ac ?_
 refine Tr.seq ?_
 refine Tr.cn rfl ?_ ?_<;>intro h7 q7
 have hk:k<z2.1.length:=AH h7
 obtain ⟨t,ht⟩:=at_ hk
 have hts:=IL.RL t (List.mem_of_getElem? ht)
 have htl:=hts.len
 have hzl:=IL.len
 refine a2 ?_
 refine co rfl (AD rfl underlying274 ql vq vq AA (Aa ht)) ?_
 refine ac ?_
 refine wk [59,58,57,17,16,15,9,8,5,4,3,2] rfl ?_
 refine ac ?_
 refine wk [66,65,64,59,58,57,16,15,9,8,5,4,3,2] rfl (Tr.block (Tr.C9 _ (kk [65,64,59,58,57,16,15,9,8,5,4,3,2] rfl) (fun (q2:List (Int×List Int)) (m:Nat) u=>[(66,int ((m:Nat):Int))]) (fun (q2:List (Int×List Int)) (m:Nat) u=>Hp M0 w0 FO ([As 270 4 u,AF true b3 107 [Ab u (slice 4 (q2.map pH))],AF true b2 270 (([.int .i64 0,.slice none 0 0,.int .i64 0,.int .i64 0]:List Value).map is),AF true b1 107 (([.slice none 0 0]:List Value).map is)])) (fun (q2:List (Int×List Int)) (m:Nat)=>m≤t.length∧q2.length≤4096*k+m) (fun (q2:List (Int×List Int)) (m:Nat)=>t.length-m) (q) (0) v (⟨Nat.zero_le _,by omega⟩) kz (fun _ _ h=>h) ?_))
 rintro q2 m u ⟨hm0,AHn⟩
 refine ac ?_
 refine wk [67,66,65,64,59,58,57,16,15,9,8,5,4,3,2] rfl (Tr.seq ?_)
 refine Tr.cn rfl ?_ ?_<;>intro h8 q8
 have hm:m<t.length:=AH h8
 obtain ⟨x,hx⟩:=at_ hm
 have hsd:∀i∈x,0≤i∧i<(d.length:Nat):=fun i hi=>by have:=hts.RL x (List.mem_of_getElem? hx) i hi;omega
 have hsw:=hts.wid x (List.mem_of_getElem? hx)
 refine ac ?_
 refine wk [66,65,64,59,58,57,16,15,9,8,5,4,3,2] rfl (Tr.seq (Tr.block (Tr.seq (Tr.Aj (co rfl (AD rfl underlying99 Gf vq vq AA (Aa hx)) ?_)))))
 refine ac ?_
 refine wk [66,65,64,59,58,57,19,16,15,9,8,5,4,3,2] rfl ?_
 refine ac ?_
 refine co rfl (K0 (Ly hsd) rfl rfl rfl rfl) ?_
 refine ac ?_
 refine wk [75,66,65,64,59,58,57,19,16,15,9,8,5,4,3,2] rfl ?_
 refine Tr.cn rfl ?_ ?_<;>intro h9 q9
 refine ac ?_
 refine wk [66,65,64,59,58,57,16,15,9,8,5,4,3,2] rfl ?_
 refine ac ?_
 exact Fin.Bi (q2) (m+1) u (⟨⟨by omega,by omega⟩,by omega⟩) ⟨⟨_,rfl,AG m⟩,kz⟩ (fun _ _ h=>h)
 refine ac ?_
 refine wk [66,65,64,59,58,57,19,16,15,9,8,5,4,3,2] rfl ?_
 refine ao ?_
 refine tp rfl (AV rfl (Zz hz hn hc hsd hsw) ⟨kq,kz⟩) ?_
 refine ao ?_
 refine Tl rfl rfl rfl rfl JS Fe (fun b4=> ?_)
 refine sf 0 20 ⟨rfl,rfl,rfl⟩ rfl rfl rfl rfl ?_
 refine ao ?_
 refine wk [66,65,64,59,58,57,21,20,19,16,15,9,8,5,4,3,2] rfl (Tr.seq (Tr.seq (Tr.ex 21 rfl fun x21=> ?_)))
 refine ac ?_
 refine wk [87,66,65,64,59,58,57,20,19,16,15,9,8,5,4,3,2] rfl ?_
 refine Tr.cn rfl ?_ ?_<;>intro h10 Q4
 refine ao ?_
 refine TO.AK 3 rfl rfl rfl vq C1 rfl Bm rfl rfl (TO.AK 2 rfl rfl rfl vq C1 rfl Fp rfl rfl ?_)
 refine ao ?_
 refine wk [11,10,9,8] rfl (Tr.ret (Fin.AE (Fin.AR (Fin.AE (Fin.AE (Fin.AR (Fin.AR (Fin.AE (Fin.AE (Fin.AR (Fin.AE (Fin.OU rfl (AO.cell 3 rfl rfl CM Bm rfl Lr) (AO.cell 2 rfl rfl Jq Fp rfl Lr) (AO.tmp rfl Lr) (AO.tmp rfl Lr) ?_))))))))))))
 · exact Aw 0 (A7 (fun _=>⟨Uq,hfp⟩) (A_ ⟨Dx,BT ⟨Aw _ Lr,Aw _ Lr,Aw _ Lr,Aw _ Lr,trivial⟩,Aw _ Lr,Lr,trivial⟩))
 refine ac ?_
 refine wk [66,65,64,59,58,57,20,19,16,15,9,8,5,4,3,2] rfl ?_
 refine ao ?_
 refine TO.DQ 0 rfl rfl AB (B1 rfl rfl rfl rfl underlying105 Fp ABE rW HA GG (Ax BN Ja)) (fun v1=> ?_)
 refine tp rfl (Ac rfl bV vq) (TO.AK 1 rfl rfl rfl vq OJ rfl AAx rfl rfl ?_)
 refine ao ?_
 refine wk [66,65,64,59,58,57,16,15,9,8,5,4,3,2] rfl ?_
 refine ac ?_
 refine Fin.Ho 1 [Ab v1 (slice 4 ((q2++[(((k:Nat):Int),x)]).map pH))] rfl ⟨BC DI,trivial⟩ ?_
 exact Fin.Bi (q2++[(((k:Nat):Int),x)]) (m+1) v1 (⟨⟨by omega,by simp;omega⟩,by omega⟩) ⟨⟨_,rfl,AG m⟩,kz⟩ (fun _ _ h=>h)
 have hme:=AJ h8
 refine ac ?_
 refine wk [59,58,57,15,9,8,5,4,3,2] rfl ?_
 refine ac ?_
 exact Fin.Bi (q2) (k+1) u (⟨⟨by omega,by omega⟩,by omega⟩) ⟨⟨_,rfl,AG k⟩,kz⟩ (fun _ _ h=>h)
 have eH:=AJ h7
 refine ac ?_
 refine ao ?_
 refine TO.AK 3 rfl rfl rfl vq C1 rfl Bm rfl rfl (TO.AK 2 rfl rfl rfl vq C1 rfl Fp rfl rfl ?_)
 refine ao ?_
 refine wk [11,10,9,8] rfl (Tr.ret (Fin.OU rfl (AO.cell 3 rfl rfl CM Bm rfl Lr) (AO.cell 2 rfl rfl Jq Fp rfl Lr) (AO.tmp rfl Lr) (AO.tmp rfl Lr) ?_))
 · exact Aw 0 (A7 (fun _=>⟨Uq,hfp⟩) (A_ ⟨BT ⟨Aw _ (Aq _ _),trivial⟩,L5,Aw _ Lr,Lr,trivial⟩))
theorem iC {e:Dc} {l:List BX} {r:List BK} {d:List Int} {n:Nat} {fr Nf:Int} (hz:e.sz n) (hn:n≤800000) (hc:∀c∈l,c.C2.fits∧c.C2.small) (hrl:r.length≤1000000):BD prog 176 [agg (CE e),JK l r d,int fr,int Nf] (Cp.ex fun z:Int=>fact (z=0→FM e=true∧Rt e.Bs.length l r d) (EA [pI,int z])):=by
 refine fo func176 rfl ⟨rfl,rfl⟩ fun M0 w0=>(Tr.seq (Tr.Ap (tp rfl (Bn rfl C1) (tp rfl (Bn rfl C1) ?_))))
 refine Tl rfl rfl rfl rfl z107 EZ (fun b1=> ?_)
 refine ao ?_
 refine ao ?_
 refine tp rfl (iU (iB hz hn hc hrl) rfl rfl rfl rfl rfl) ?_
 refine TO.ex 19 rfl (fun z1=>TO.fact 19 rfl fun Eg=> ?_)
 refine ao ?_
 refine Tl rfl rfl rfl rfl z107 EZ (fun b2=> ?_)
 refine Tl rfl rfl rfl rfl rW Qj (fun b3=> ?_)
 refine sf 1 10 ⟨rfl,rfl,rfl⟩ rfl rfl rfl rfl ?_
 refine sf 0 11 ⟨rfl,rfl,rfl⟩ rfl rfl rfl rfl ?_
 refine ao ?_
 refine wk [13,12,10,8] rfl ?_
 refine an ?_ ?_<;>intro h1 q1
 refine ao ?_
 refine TO.AK 0 rfl rfl rfl vq C1 rfl Bm rfl rfl ?_
 refine ao ?_
 refine Tr.ret (Fin.AE (Fin.Ba rfl (AO.cell 0 rfl rfl CM Bm rfl Lr) (AO.tmp rfl Lr) ?_))
 · exact Aw z1 (A7 (fun h_=>absurd h_ AA) (A_ ⟨Dx,Lr,trivial⟩))
 have hz0:z1=0:=by have:=q1;omega
 refine ac ?_
 refine Tr.seq (Tr.seq (Tr.ex 12 rfl fun x12=> ?_))
 refine an ?_ ?_<;>intro h2 q2
 refine ao ?_
 refine TO.AK 0 rfl rfl rfl vq C1 rfl Bm rfl rfl ?_
 refine ao ?_
 refine Tr.ret (Fin.AE (Fin.Ba rfl (AO.cell 0 rfl rfl CM Bm rfl Lr) (AO.tmp rfl Lr) ?_))
 · exact Aw 42 (A7 (fun h_=>absurd h_ AB) (A_ ⟨Dx,Lr,trivial⟩))
 refine ac ?_
 refine ao ?_
 refine TO.AK 0 rfl rfl rfl vq C1 rfl Bm rfl rfl ?_
 refine ao ?_
 refine Tr.ret (Fin.Ba rfl (AO.cell 0 rfl rfl CM Bm rfl Lr) (AO.tmp rfl Lr) ?_)
 · exact Aw 0 (A7 (fun _=>Eg hz0) (A_ ⟨Lr,Lr,trivial⟩))
theorem Vf {e:Dc} {l:List BX} {r:List BK} {d:List Int} {n:Nat} {s:List Int} {g i:Int} (hz:e.sz n) (hn:n≤800000) (hc:∀c∈l,c.C2.fits∧c.C2.small) (iz:s.length≤4096) (hi:0≤i∧i<(d.length:Nat)):BD prog 218 [agg (CE e),JK l r d,int g,ints s,int i,Mw,Rk,VY] (EJ):=by
 refine fo func218 rfl ⟨rfl,rfl⟩ fun M0 w0=> ?_
 have hxf:=(dZ (l:=l) (s:=s) hz hc).fits AA
 have hwl:=Nl s i true
 have hyf:=(dZ (l:=l) (s:=Ed s i true) hz hc).fits AA
 have Zx:=Es (l:=d) (i:=i.toNat) AA
 refine ac ?_
 refine ao ?_
 refine tp rfl (K0 (Lx hz hn hc) rfl rfl rfl rfl) ?_
 refine ao ?_
 refine Tl rfl rfl rfl rfl z31 Hx (fun b1=> ?_)
 refine sf 0 17 ⟨rfl,rfl,rfl⟩ rfl rfl rfl rfl ?_
 refine ao ?_
 refine wk [18,17,15,13,9,8,6,4,3,2] rfl (Tr.seq (Tr.pad (Tr.rx ?_)))
 refine ax ?_
 refine xo rfl (fun _=>K0 (Gk AA) rfl rfl rfl rfl) (xo rfl (fun _=>K0 (Lx hz hn hc) rfl rfl rfl rfl) ?_)
 refine ax ?_
 refine Cx.ef 0 rfl rfl AB (CW rfl rfl AB rfl z31 Hx) (Cx.Dv 0 rfl rfl (DF rfl rfl rfl rfl C1 DR rfl rfl) (xm rfl ?_))
 refine Cx.nil ⟨by kernel_rfl,?_⟩
 refine BO.open_ 0 19 rfl rfl (fun v1=> ?_)
 refine BO.done al1 (Fin.M_ 19 0 _ rfl rfl (fun _=>rfl) (fun b2=> ?_))
 refine Fin.go (wk [20,19,18,17,15,13,9,6,4,2] rfl ?_)
 refine ag ?_ ?_<;>intro h1 q1
 refine ac ?_
 refine wk [46,19,17,15,13,9,6,4,2] rfl ?_
 refine ac ?_
 refine Tr.drop 0 ?_
 refine ac ?_
 · exact BJ
 refine ac ?_
 refine wk [46,19,17,15,13,9,6,4,2] rfl ?_
 refine Tr.cn rfl ?_ ?_<;>intro h2 q2
 refine ac ?_
 refine Tr.drop 0 ?_
 refine ac ?_
 · exact BJ
 refine a2 ?_
 refine co rfl (AD rfl underlying22 Bt vq vq AA (Bc Zx)) (co rfl (GU rfl Cj rfl) (co rfl (Ae.le (AV rfl (gZ hxf hyf) ⟨kq,kz⟩) y8) ?_))
 refine ac ?_
 refine Tr.drop 0 (wk [21,2] rfl (Tr.seq (Tr.seq (Tr.ex 21 rfl fun bad=>(Tr.fact 21 rfl fun AHo=> ?_)))))
 refine ac ?_
 refine Tr.block (Tr.BA _ (kk [62,61,2] rfl) (fun k:Nat=>[(63,int ((k:Nat):Int))]) (fun k:Nat=>k≤(bad).length) (fun k:Nat=>(bad).length-k) 0 (Nat.zero_le _) kz ?_)
 rintro k BV
 refine ac ?_
 refine Tr.seq ?_
 refine Tr.cn rfl ?_ ?_<;>intro h3 q3
 have Ah:k<(bad).length:=AH h3
 obtain ⟨x,Ai⟩:=at_ Ah
 refine ac ?_
 refine Tr.seq (Tr.block (Tr.seq (Tr.Aj (co rfl (AD rfl underlying22 Bt vq vq AA (Aa Ai)) ?_))))
 · exact LL
 have BP:k=(bad).length:=by have:=AJ h3;omega
 subst BP
 refine a3 ?_
 · exact BJ
theorem Z0 {l:List (List Int)} {s:List Int}  :BD prog 217 [sets l,ints s] (EJ):=by
 refine fo func217 rfl ⟨rfl,rfl⟩ fun M0 w0=>(Tr.C6 0 rfl fun Eu=> ?_)
 refine a2 ?_
 refine Tr.block (Tr.BA _ (kk [8,7,1] rfl) (fun k:Nat=>[(9,int ((k:Nat):Int))]) (fun k:Nat=>k≤(l).length) (fun k:Nat=>(l).length-k) 0 (Nat.zero_le _) kz ?_)
 rintro k BV
 refine ac ?_
 refine Tr.seq ?_
 refine Tr.cn rfl ?_ ?_<;>intro h1 q1
 have Ah:k<(l).length:=AH h1
 obtain ⟨x,Ai⟩:=at_ Ah
 refine ac ?_
 refine Tr.seq (Tr.block (Tr.seq (Tr.Aj (co rfl (AD rfl underlying99 Gf vq vq AA (Aa Ai)) ?_))))
 refine a2 ?_
 refine co rfl (CK (Vb) rfl rfl rfl) ?_
 refine ac ?_
 refine Tr.ex 15 rfl fun AHp=> ?_
 · exact LL
 have BP:k=(l).length:=by have:=AJ h1;omega
 refine a3 ?_
 · exact BJ
theorem Z1 {e:Dc} {l:List BX} {r:List BK} {d:List Int} {n:Nat} (hz:e.sz n) (hn:n≤800000) (hc:∀c∈l,c.C2.fits∧c.C2.small) (hrl:r.length≤1000000):BD prog 177 [agg (CE e),JK l r d,Mw,Rk,VY] (Cp.ex fun z:List Int×Int=>fact (z.1.length≤1000) (EA [ints z.1,int z.2])):=by
 refine fo func177 rfl ⟨rfl,rfl⟩ fun M0 w0=> ?_
 have hf:=hz.fits AA
 refine ac ?_
 refine ap ?_
 refine tp rfl (CK (Xg hf hrl) rfl rfl rfl) ?_
 refine TO.ex 25 rfl (fun z1=>TO.fact 25 rfl fun Eg=> ?_)
 refine ap ?_
 refine ac ?_
 refine wk7 3 5 6 7 9 12 27 rfl ?_
 refine Tr.cn rfl ?_ ?_<;>intro h1 q1
 refine ac ?_
 refine Tr.ret (Fin.AE (Fin.Ba rfl (AO.tmp rfl (Lr)) (AO.tmp rfl (Lr)) ?_))
 · exact P9
 have hz0:z1=0:=by have:=q1;omega
 obtain ⟨Uq,hfp⟩:=Eg hz0
 have gh:=hfp.dl
 have NG:=hfp.l24
 refine a2 ?_
 refine co rfl (K0 (KF) rfl rfl rfl rfl) ?_
 refine ac ?_
 refine Tr.seq (Tr.ex 13 rfl fun x13=> ?_)
 refine an ?_ ?_<;>intro h2 q2
 refine ac ?_
 refine UX 10 11 rfl (Tr.ret (Fin.AE (Fin.Ba rfl (AO.tmp rfl (Lr)) (AO.tmp rfl (Lr)) ?_)))
 · exact P9
 refine ac ?_
 refine ap ?_
 refine tp rfl (CK (Xh hz hn hrl) rfl rfl rfl) ?_
 refine TO.ex 38 rfl (fun z2=>TO.fact 38 rfl fun IL=> ?_)
 refine ap ?_
 refine wk7 3 5 6 7 9 14 15 rfl ?_
 refine an ?_ ?_<;>intro h3 q3
 refine ac ?_
 refine Tr.ret (Fin.AE (Fin.Ba rfl (AO.tmp rfl (Lr)) (AO.tmp rfl (Lr)) ?_))
 · exact P9
 refine a3 ?_
 refine wk9 3 5 6 7 9 14 16 46 47 rfl (Tr.block (Tr.B6 3 1 (Tr.C9 [(3,_),(5,_),(6,_),(7,_),(9,_),(14,_),(46,_)] ⟨ke rfl,ke rfl,ke rfl,ke rfl,ke rfl,ke rfl,ke rfl,trivial⟩ (fun (o:List Int) (k:Nat) u=>[(47,int ((k:Nat):Int)),(16,Ab u (ints o))]) (fun (o:List Int) (k:Nat) u=>Hp M0 w0 FO ([As 3 1 u])) (fun (o:List Int) (k:Nat)=>k≤l.length∧o.length≤k) (fun (o:List Int) (k:Nat)=>l.length-k) ([]) (0) (.slice none 0 0) (⟨Nat.zero_le _,by simp⟩) ⟨ke rfl,⟨_,rfl,Bl rfl⟩,trivial⟩ (fun _ _ h=>h) ?_)))
 rintro o k u ⟨hk0,i6⟩
 refine ac ?_
 refine Tr.seq ?_
 refine Tr.cn rfl ?_ ?_<;>intro h4 q4
 have hk:k<l.length:=AH h4
 obtain ⟨dk,Zx⟩:=at_ (l:=d) (k:=k) AA
 iterate 4 refine ac ?_
 refine jr 3 5 6 7 9 14 16 17 18 46 47 50 51 52 rfl (Tr.block (Tr.BA [(3,_),(5,_),(6,_),(7,_),(9,_),(14,_),(16,_),(17,_),(46,_),(47,_),(50,_),(51,_)] (AEq rfl) (fun j:Nat=>[(52,int ((j:Nat):Int)),(18,EJ)]) (fun j:Nat=>j≤(z2.1).length) (fun j:Nat=>(z2.1).length-j) 0 (Nat.zero_le _) ⟨ke rfl,⟨_,rfl,Aw _ (Lr)⟩,trivial⟩ ?_))
 rintro j ADD
 refine ac ?_
 refine AEn 3 5 6 7 9 14 16 17 18 46 47 50 51 52 53 rfl (Tr.seq ?_)
 refine Tr.cn rfl ?_ ?_<;>intro h5 q5
 have ADE:j<(z2.1).length:=AH h5
 obtain ⟨t,ADF⟩:=at_ ADE
 have hts:=IL.RL t (List.mem_of_getElem? ADF)
 have ht:=ADF
 have htl:=hts.len
 have hzl:=IL.len
 refine ac ?_
 refine jr 3 5 6 7 9 14 16 17 18 46 47 50 51 52 rfl ?_
 refine ac ?_
 refine co rfl (AD rfl underlying274 ql (vl rfl) (vl rfl) AA (Aa ht)) ?_
 refine ac ?_
 refine AEo 3 5 6 7 9 14 16 17 18 19 20 46 47 50 51 52 rfl ?_
 refine ac ?_
 refine jt 3 5 6 7 9 14 16 17 18 19 20 46 47 50 51 52 57 58 59 rfl (Tr.block (Tr.BA [(3,_),(5,_),(6,_),(7,_),(9,_),(14,_),(16,_),(17,_),(19,_),(20,_),(46,_),(47,_),(50,_),(51,_),(52,_),(57,_),(58,_)] (AEr rfl) (fun m:Nat=>[(59,int ((m:Nat):Int)),(18,EJ)]) (fun m:Nat=>m≤(t).length) (fun m:Nat=>(t).length-m) 0 (Nat.zero_le _) ⟨ke rfl,ke rfl,trivial⟩ ?_))
 rintro m LC
 refine ac ?_
 refine AAg 3 5 6 7 9 14 16 17 18 19 20 46 47 50 51 52 57 58 59 60 rfl (Tr.seq ?_)
 refine Tr.cn rfl ?_ ?_<;>intro h6 q6
 have D7:m<(t).length:=AH h6
 obtain ⟨x,D_⟩:=at_ D7
 have hx:=D_
 have hsd:∀i∈x,0≤i∧i<(d.length:Nat):=fun i hi=>by have:=hts.RL x (List.mem_of_getElem? hx) i hi;omega
 have hsw:=hts.wid x (List.mem_of_getElem? hx)
 refine ac ?_
 refine jt 3 5 6 7 9 14 16 17 18 19 20 46 47 50 51 52 57 58 59 rfl (Tr.seq (Tr.block (Tr.seq (Tr.Aj (co rfl (AD rfl underlying99 Gf (vl rfl) (vl rfl) AA (Aa hx)) ?_)))))
 refine ac ?_
 refine AAg 3 5 6 7 9 14 16 17 18 19 20 22 46 47 50 51 52 57 58 59 rfl (Tr.seq (Tr.ex 18 rfl fun x18=> ?_))
 refine ag ?_ ?_<;>intro h7 q7
 refine ac ?_
 refine cy h7 rfl (CK (J8) rfl rfl rfl) ?_
 refine ag ?_ ?_<;>intro h8 q8
 refine ac ?_
 refine cy h8 rfl (K0 (Ly hsd) rfl rfl rfl rfl) ?_
 refine ac ?_
 refine cy h8 rfl (AD rfl underlying22 Bt (vl rfl) (vl rfl) AA (Aa Zx)) ?_
 refine ag ?_ ?_<;>intro h9 q9
 refine ac ?_
 refine cy h9 rfl (K0 (Gk AA) rfl rfl rfl rfl) (cy h9 rfl (CK (Z0) rfl rfl rfl) ?_)
 refine ac ?_
 refine qb 3 5 6 7 9 14 16 17 18 19 20 22 46 47 50 51 52 57 58 59 88 rfl (Tr.ex 88 rfl fun AHq=> ?_)
 · repeat' first|exact Fin.AL (m+1) ⟨D7,by omega⟩ ⟨⟨_,rfl,AG m⟩,ke rfl,ke rfl,ke rfl,ke rfl,ke rfl,ke rfl,ke rfl,ke rfl,ke rfl,ke rfl,ke rfl,ke rfl,ke rfl,ke rfl,ke rfl,ke rfl,ke rfl,ke rfl,trivial⟩|exact Fin.AL (m+1) ⟨D7,by omega⟩ ⟨⟨_,rfl,AG m⟩,⟨_,rfl,Aw _ (Lr)⟩,ke rfl,ke rfl,ke rfl,ke rfl,ke rfl,ke rfl,ke rfl,ke rfl,ke rfl,ke rfl,ke rfl,ke rfl,ke rfl,ke rfl,ke rfl,ke rfl,ke rfl,trivial⟩|refine co rfl (AV rfl (Vf hz hn hc hsw AA) ⟨ke rfl,ke rfl,ke rfl,ke rfl,ke rfl,ke rfl,ke rfl,ke rfl,trivial⟩) ?_|refine ac ?_|(refine Tr.cn rfl ?_ ?_<;>intro h q)
 refine ac ?_
 refine qb 3 5 6 7 9 14 16 17 18 19 20 22 46 47 50 51 52 57 58 59 88 rfl ?_
 refine ac ?_
 refine jt 3 5 6 7 9 14 16 17 18 19 20 46 47 50 51 52 57 58 59 rfl ?_
 refine ac ?_
 exact Fin.AL (m+1) ⟨D7,by omega⟩ ⟨⟨_,rfl,AG m⟩,⟨_,rfl,Aw _ (Lr)⟩,ke rfl,ke rfl,ke rfl,ke rfl,ke rfl,ke rfl,ke rfl,ke rfl,ke rfl,ke rfl,ke rfl,ke rfl,ke rfl,ke rfl,ke rfl,ke rfl,ke rfl,trivial⟩
 refine ac ?_
 refine qb 3 5 6 7 9 14 16 17 18 19 20 22 46 47 50 51 52 57 58 59 88 rfl ?_
 refine ac ?_
 refine jt 3 5 6 7 9 14 16 17 18 19 20 46 47 50 51 52 57 58 59 rfl ?_
 refine ac ?_
 exact Fin.AL (m+1) ⟨D7,by omega⟩ ⟨⟨_,rfl,AG m⟩,⟨_,rfl,Aw _ (Lr)⟩,ke rfl,ke rfl,ke rfl,ke rfl,ke rfl,ke rfl,ke rfl,ke rfl,ke rfl,ke rfl,ke rfl,ke rfl,ke rfl,ke rfl,ke rfl,ke rfl,ke rfl,trivial⟩
 refine ac ?_
 refine qb 3 5 6 7 9 14 16 17 18 19 20 22 46 47 50 51 52 57 58 59 88 rfl ?_
 refine ac ?_
 refine jt 3 5 6 7 9 14 16 17 18 19 20 46 47 50 51 52 57 58 59 rfl ?_
 refine ac ?_
 exact Fin.AL (m+1) ⟨D7,by omega⟩ ⟨⟨_,rfl,AG m⟩,⟨_,rfl,Aw _ (Lr)⟩,ke rfl,ke rfl,ke rfl,ke rfl,ke rfl,ke rfl,ke rfl,ke rfl,ke rfl,ke rfl,ke rfl,ke rfl,ke rfl,ke rfl,ke rfl,ke rfl,ke rfl,trivial⟩
 have Ip:m=(t).length:=by have:=AJ h6;omega
 subst Ip
 refine ac ?_
 refine jr 3 5 6 7 9 14 16 17 18 46 47 50 51 52 rfl ?_
 refine ac ?_
 exact Fin.AL (j+1) ⟨ADE,by omega⟩ ⟨⟨_,rfl,AG j⟩,ke rfl,ke rfl,ke rfl,ke rfl,ke rfl,ke rfl,ke rfl,ke rfl,ke rfl,ke rfl,ke rfl,ke rfl,ke rfl,trivial⟩
 have yf:j=(z2.1).length:=by have:=AJ h5;omega
 subst yf
 refine ac ?_
 refine JP 3 5 6 7 9 14 16 17 18 46 47 rfl ?_
 refine ac ?_
 refine Tr.ex 100 rfl fun AHC=> ?_
 refine Tr.cn rfl ?_ ?_<;>intro h11 SK
 refine ap ?_
 refine TO.DQ 0 rfl rfl AB (B1 rfl rfl rfl rfl underlying22 Bt He z3 (Kb rfl) (Kf rfl) (Ax BN (Ka rfl))) (fun v1=> ?_)
 refine ap ?_
 refine wk9 3 5 6 7 9 14 16 46 47 rfl ?_
 refine ac ?_
 exact Fin.Bi (o++[((k:Nat):Int)]) (k+1) v1 (⟨⟨by omega,by simp;omega⟩,by omega⟩) ⟨⟨_,rfl,AG k⟩,⟨_,rfl,BC DI⟩,ke rfl,ke rfl,ke rfl,ke rfl,ke rfl,ke rfl,ke rfl,trivial⟩ (fun _ _ h=>h)
 refine a2 ?_
 exact Fin.Bi (o) (k+1) u (⟨⟨by omega,by omega⟩,by omega⟩) ⟨⟨_,rfl,AG k⟩,⟨_,rfl,BC rfl⟩,ke rfl,ke rfl,ke rfl,ke rfl,ke rfl,ke rfl,ke rfl,trivial⟩ (fun _ _ h=>h)
 have eH:=AJ h4
 refine a2 ?_
 refine Tr.ret (Fin.Ba rfl (AO.tmp rfl (Lr)) (AO.tmp rfl (Lr)) ?_)
 · exact YN
end Go.Proofs.YtmocaapoeefgkaaGreatDoor
