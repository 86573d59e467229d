/-
  Part 7 of the texts that prove this claim, merged.
-/
import Derived.Test.YtkobgkelhcigdaaGreatDoorPnIP6
set_option linter.all false
set_option maxRecDepth 40000
set_option maxHeartbeats 16000000
namespace Go.Proofs.YtkobgkelhcigdaaGreatDoor
open Go Go.RowKit Cp Go.Proofs.Tryz
def Gb (n:Nat) (m:Nat→Nat→Bool):List (List Bool):=(List.range n).map fun a=>(List.range n).map (m a)
theorem Hj (n:Nat) (m:Nat→Nat→Bool):(Gb n m).length=n:=by unfold Gb;simp
theorem Jx {n:Nat} (m:Nat→Nat→Bool) {a:Nat} (h:a<n):(Gb n m)[a]? =some ((List.range n).map (m a)):=by
 unfold Gb;rw [List.getElem?_map,List.getElem?_range h];rfl
theorem Jy {n:Nat} (m:Nat→Bool) {b:Nat} (h:b<n):((List.range n).map m)[b]? =some (m b):=by
 rw [List.getElem?_map,List.getElem?_range h];rfl
theorem RL {n:Nat} {m m':Nat→Nat→Bool} (h:dX n m m'):Gb n m=Gb n m':=by
 unfold Gb
 refine List.map_congr_left fun a ha=>List.map_congr_left fun b hb=>h a b (List.mem_range.1 ha) (List.mem_range.1 hb)
theorem fU {n:Nat} {m:Nat→Nat→Bool} {i j:Nat} (hi:i<n) (hj:j<n):(Gb n m).set i (((List.range n).map (m i)).set j true)=Gb n (SZ m i j):=by
 apply List.ext_getElem?
 intro a
 rw [List.getElem?_set]
 by_cases h:i=a
 ·
  subst h
  rw [if_pos rfl,if_pos (by rw [Hj];exact hi),Jx _ hi]
  congr 1
  apply List.ext_getElem?
  intro b
  rw [List.getElem?_set]
  by_cases h2:j=b
  ·
   subst h2
   rw [if_pos rfl,if_pos (by simpa using hj),Jy _ hj]
   unfold SZ;rw [if_pos ⟨rfl,rfl⟩]
  ·
   rw [if_neg h2]
   rcases Nat.lt_or_ge b n with hb|hb
   · rw [Jy _ hb,Jy _ hb];unfold SZ;rw [if_neg (fun h3=>h2 h3.2.symm)]
   · rw [List.getElem?_eq_none (by simpa using hb),List.getElem?_eq_none (by simpa using hb)]
 ·
  rw [if_neg h]
  rcases Nat.lt_or_ge a n with ha|ha
  ·
   rw [Jx _ ha,Jx _ ha]
   congr 1
   refine List.map_congr_left fun b _=> ?_
   unfold SZ;rw [if_neg (fun h3=>h h3.1.symm)]
  · rw [List.getElem?_eq_none (by rw [Hj];exact ha),List.getElem?_eq_none (by rw [Hj];exact ha)]
theorem WG {l:List BG} {q:Nat} {r:BG} (h:l[q]? =some r) (h0:0≤r.fst) (h1:0≤r.thn):F1 (l.take (q+1))=SZ (F1 (l.take q)) r.fst.toNat r.thn.toNat:=by
 funext a b
 have e:l.take (q+1)=l.take q++[r]:=by rw [List.take_add_one,h];rfl
 unfold F1 SZ
 rw [e,List.any_append]
 by_cases hc:a=r.fst.toNat∧b=r.thn.toNat
 ·
  have h2:([r].any fun r=>decide (r.fst=(a:Int))&&decide (r.thn=(b:Int)))=true:=by simp;omega
  rw [if_pos hc,h2,Bool.or_true]
 ·
  have h2:([r].any fun r=>decide (r.fst=(a:Int))&&decide (r.thn=(b:Int)))=false:=by simp;omega
  rw [if_neg hc,h2,Bool.or_false]
theorem ZR (n:Nat) (l:List BG):Gb n (F1 (l.take 0))=List.replicate n (List.replicate n false):=by
 unfold Gb F1
 rw [List.eq_replicate_iff]
 refine ⟨by simp,fun b hb=> ?_⟩
 obtain ⟨a,_,rfl⟩:=List.mem_map.1 hb
 rw [List.eq_replicate_iff]
 refine ⟨by simp,fun c hc=> ?_⟩
 obtain ⟨d,_,rfl⟩:=List.mem_map.1 hc
 simp
abbrev slv (n:Nat) (x:Nat×List Bool):Value:=Im n x.1
abbrev AA0 (n:Nat) (m:Nat→Nat→Bool):Pr:=slice 1 ((Gb n m).map fun row=>[slice 1 (row.map fun b=>[bool b])])
theorem Md {n:Nat} {m:Nat→Nat→Bool} {X:List (Nat×List Bool)} {a:Nat} {x:Nat×List Bool} (hX:X.map (·.2)=Gb n m) (hx:X[a]? =some x) (ha:a<n):x.2=(List.range n).map (m a):=by
 have h:=congrArg (fun l=>l[a]?) hX
 simp only [List.getElem?_map,hx,Option.map_some] at h
 rw [Jx m ha] at h
 simpa using h
theorem Xx {n:Nat} {m:Nat→Nat→Bool} {X:List (Nat×List Bool)} {i j:Nat} {x:Nat×List Bool} (hX:X.map (·.2)=Gb n m) (hx:X[i]? =some x) (hi:i<n) (hj:j<n):(X.set i (x.1,x.2.set j true)).map (·.2)=Gb n (SZ m i j):=by
 rw [List.map_set,hX,Md hX hx hi];exact fU hi hj
theorem Xy {e:TypeId} {X:List (Nat×List Bool)} {k:Nat} {x:Nat×List Bool} (h:X[k]? =some x):(Gh (Ga e) X)[k]? =some (AB true x.1 e (x.2.map fun b=>bool b)):=Xo (f:=fun x:Nat×List Bool=>AB true x.1 e (x.2.map fun b=>bool b)) h
theorem fV {n:Nat} {m:Nat→Nat→Bool} {X:List (Nat×List Bool)} {a c:Nat} {x:Nat×List Bool} (hX:X.map (·.2)=Gb n m) (hx:X[a]? =some x) {v:Bool} (ha:a<n) (hc:c<n) (hv:m a c=v):(x.2.map fun b=>bool b)[0+c*1]? =some (bool v):=by
 subst hv
 rw [Md hX hx ha,Nat.zero_add,Nat.mul_one,List.getElem?_map,Jy _ hc];rfl
theorem fW {n:Nat} {m:Nat→Nat→Bool} {X:List (Nat×List Bool)} (hX:X.map (·.2)=Gb n m):∀x∈X,x.2.length=n:=fun x hx=>by
 obtain ⟨i,hi⟩:=List.mem_iff_getElem?.1 hx
 have hl:i<n:=by
  have h:=congrArg List.length hX
  rw [List.length_map,Hj] at h
  rcases Nat.lt_or_ge i X.length with h'|h'
  · omega
  · rw [List.getElem?_eq_none h'] at hi;cases hi
 rw [Md hX hi hl,List.length_map,List.length_range]
theorem fX {n:Nat} {m:Nat→Nat→Bool} {X:List (Nat×List Bool)} (hX:X.map (·.2)=Gb n m):(X.map fun x=>[slice 1 (x.2.map fun b=>[bool b])])=(Gb n m).map fun row=>[slice 1 (row.map fun b=>[bool b])]:=by rw [←hX,List.map_map];rfl
theorem Xz {l:List Bool} {j:Nat} (h:j<l.length):List.take (0+j*1) (l.map fun b=>bool b)++[is (Value.bool true)]++List.drop (0+j*1+1) (l.map fun b=>bool b)=(l.set j true).map fun b=>bool b:=by
 rw [List.map_set,List.set_eq_take_append_cons_drop,if_pos (by simpa using h)];simp
theorem Pj {X:List (Nat×List Bool)} {bs:List Nat} {i:Nat} {x:Nat×List Bool} (h:X.map (·.1)=bs) (hx:X[i]? =some x):bs[i]? =some x.1:=by rw [←h,List.getElem?_map,hx];rfl
theorem X0 {X:List (Nat×List Bool)} {bs:List Nat} {i:Nat} {x:Nat×List Bool} {r:List Bool} (h:X.map (·.1)=bs) (hx:X[i]? =some x):(X.set i (x.1,r)).map (·.1)=bs:=by
 have hb:=Pj h hx
 rw [List.map_set,h]
 apply List.ext_getElem?
 intro k
 rw [List.getElem?_set]
 split
 · rename_i e;subst e;rw [if_pos (by rcases Nat.lt_or_ge i bs.length with h'|h';exact h';rw [List.getElem?_eq_none h'] at hb;cases hb),hb]
 · rfl
theorem RM {n:Nat} {l:List BG} (hn:n≤24) (hl:l.length≤1000000) (hr:∀r∈l,(0≤r.fst∧r.fst<(n:Nat))∧0≤r.thn∧r.thn<(n:Nat)):BA prog 67 [int ((n:Nat):Int),reqs l] (AA0 n (Cn l n)):=by
 refine fo func67 rfl ⟨rfl,rfl⟩ fun M0 w0=> ?_
 refine a3 ?_
 refine Tr.block (Tr.B0 146 1 (Tr.Cm [(0,_),(1,_),(11,_)] ⟨ke rfl,ke rfl,ke rfl,trivial⟩ (fun (X:List (Nat×List Bool)) (k:Nat) u=>[(12,int ((k:Nat):Int)),(5,Ag u (slice 1 (X.map fun x=>[is (slv n x)])))]) (fun (X:List (Nat×List Bool)) (k:Nat) u=>Hp M0 w0 FR (Aq 146 1 u::Gh (Ga 4) X)) (fun (X:List (Nat×List Bool)) (k:Nat)=>(k≤n∧X.length=k)∧X.map (·.2)=List.replicate k (List.replicate n false)) (fun (X:List (Nat×List Bool)) (k:Nat)=>n-k) ([]) (0) (.slice none 0 0) (⟨⟨Nat.zero_le _,rfl⟩,rfl⟩) ⟨ke rfl,⟨_,rfl,Bf rfl⟩,trivial⟩ (fun _ _ h=>h) ?_))
 rintro X k u ⟨⟨hkn,hXl⟩,hX⟩
 refine ac ?_
 refine Tr.seq ?_
 refine Tr.cn rfl ?_ ?_<;>intro h1 q1
 have hk:k<n:=AG h1
 refine ac ?_
 refine ao ?_
 refine TO.Rn rfl rfl (by decide) rfl underlying146 S1 by4 z4 rfl (vl rfl) (vl rfl) (by unfold maxLen;omega) (by omega) (fun b1=> ?_)
 refine tp rfl (AM (xs:=[.tmp 16]) (rows:=[[is (Im n b1)]]) rfl rfl underlying162 Mu z146 rfl (by decide) ⟨⟨(by exact rfl),VL.le (vl rfl) (Ae _)⟩,trivial⟩ (by decide)) ?_
 refine TO.Dh 1 rfl rfl (by decide) (Bt rfl rfl rfl rfl underlying162 Mu uA z146 (Kb rfl) (Kf rfl) (Au (by exact List.Mem.head _) (Ka rfl))) (fun v1=> ?_)
 refine ao ?_
 refine ac ?_
 refine Fin.gP 0 ((List.replicate n false).map fun b=>bool b) rfl e_ (Fin.fold (res:=Ga 4) [_] (b1,List.replicate n false) rfl ?_)
 exact Fin.BT (X++[(b1,List.replicate n false)]) (k+1) v1 (⟨⟨⟨by omega,by simp;omega⟩,by rw [List.map_append,hX,List.replicate_succ'];rfl⟩,by omega⟩) ⟨⟨_,rfl,AE k⟩,⟨_,rfl,A7 (by rw [List.map_append];rfl)⟩,ke rfl,ke rfl,ke rfl,trivial⟩ (fun _ _ h=>h)
 have hk:=AH h1
 refine a2 ?_
 refine Tr.block ?_
 obtain ⟨bs,Z5⟩:∃bs,X.map (·.1)=bs:=⟨_,rfl⟩
 refine Tr.re 5 rfl (Pr.le_trans (Ak _ _) (Pr.le_of_eq (show _=slice 1 (bs.map fun b=>[is (Im n b)]) by rw [←Z5,List.map_map];rfl))) ?_
 refine Tr.drop 0 (Tr.Cy [(0,_),(5,_),(20,_),(21,_)] ⟨ke rfl,ke rfl,ke rfl,ke rfl,trivial⟩ (fun (X1:List (Nat×List Bool)) (q:Nat)=>[(22,int ((q:Nat):Int))]) (fun (X1:List (Nat×List Bool)) (q:Nat)=>Hp M0 w0 FR (Gh (Ga 4) X1)) (fun (X1:List (Nat×List Bool)) (q:Nat)=>q≤l.length∧(X1.map (·.1)=bs∧X1.map (·.2)=Gb n (F1 (l.take q)))) (fun (X1:List (Nat×List Bool)) (q:Nat)=>l.length-q) (X) (0)  (⟨Nat.zero_le _,Z5,by rw [hX,ZR,show k=n by omega]⟩) ⟨ke rfl,trivial⟩ (fun _ _ h=>h) ?_)
 rintro X1 q  ⟨hq0,P3,hX1⟩
 refine ac ?_
 refine Tr.seq ?_
 refine Tr.cn rfl ?_ ?_<;>intro h2 q2
 have hq:q<l.length:=AG h2
 obtain ⟨r,lE⟩:=at_ hq
 have ZS:=hr r (List.mem_of_getElem? lE)
 have ACD:X1.length=n:=by have:=congrArg List.length hX1;rw [List.length_map,Hj] at this;exact this
 obtain ⟨x,hx⟩:=at_ (l:=X1) (k:=r.fst.toNat) (by omega)
 have hxl:x.2.length=n:=by rw [Md hX1 hx (by omega),List.length_map,List.length_range]
 refine ac ?_
 refine Tr.seq (Tr.block (Tr.seq (Tr.An (tp rfl (AA rfl underlying33 Bl (vl rfl) (vl rfl) (by omega) (AP lE)) (tp rfl (AQ rfl Dt Bl (vl rfl) rfl rfl) ?_)))))
 refine Tl rfl rfl rfl rfl z117 Iz (fun b2=> ?_)
 refine sf 0 7 ⟨rfl,rfl,rfl⟩ rfl rfl rfl rfl ?_
 refine ao ?_
 refine Tr.focus [] hx rfl (Tr.rx ?_)
 refine ay ?_
 refine xo rfl (fun _=>AA rfl underlying162 Mu (vl rfl) (vl rfl) (by omega) (BS (Pj P3 hx))) ?_
 refine ay ?_
 refine xo rfl (fun _=>BI rfl underlying146 S1 (vl rfl) (vl rfl) (by omega) (by omega)) ?_
 refine Cx.Dz 0 rfl rfl (A0 rfl rfl (vl rfl) (Vo rfl) S1 rfl (by rw [List.length_map];omega) rfl) ?_
 refine Cx.nil ⟨by kernel_rfl,?_⟩
 refine BH.done al1 ?_
 refine ac ?_
 refine KP 0 5 20 21 22 rfl ?_
 refine ac ?_
 refine Fin.gP 0 ((x.2.set r.thn.toNat true).map fun b=>bool b) rfl (Xz (by omega)) (Fin.R6 (res:=Ga 4) [] (x.1,x.2.set r.thn.toNat true) (show r.fst.toNat<X1.length by omega) rfl ?_)
 exact Fin.C5 (X1.set r.fst.toNat (x.1,x.2.set r.thn.toNat true)) (q+1)  (⟨⟨by omega,X0 P3 hx,by rw [WG lE ZS.1.1 ZS.2.1];exact Xx hX1 hx (by omega) (by omega)⟩,by omega⟩) ⟨⟨_,rfl,AE q⟩,ke rfl,ke rfl,ke rfl,ke rfl,trivial⟩ (fun _ _ h=>h)
 have hq:=AH h2
 refine a2 ?_
 refine Tr.block ?_
 refine Tr.Cy [(0,_),(5,_),(35,_)] ⟨ke rfl,ke rfl,ke rfl,trivial⟩ (fun (X2:List (Nat×List Bool)) (k2:Nat)=>[(36,int ((k2:Nat):Int))]) (fun (X2:List (Nat×List Bool)) (k2:Nat)=>Hp M0 w0 FR (Gh (Ga 4) X2)) (fun (X2:List (Nat×List Bool)) (k2:Nat)=>k2≤n∧(X2.map (·.1)=bs∧X2.map (·.2)=Gb n (Cn l k2))) (fun (X2:List (Nat×List Bool)) (k2:Nat)=>n-k2) (X1) (0)  (⟨Nat.zero_le _,P3,by rw [hX1,List.take_of_length_le hq];rfl⟩) ⟨ke rfl,trivial⟩ (fun _ _ h=>h) ?_
 rintro X2 k2  ⟨hk2,Sx,hX2⟩
 refine ac ?_
 refine Tr.seq ?_
 refine Tr.cn rfl ?_ ?_<;>intro h3 q3
 have ACE:k2<n:=AG h3
 refine a3 ?_
 refine Tr.block ?_
 refine Tr.Cy [(0,_),(5,_),(8,_),(35,_),(36,_),(39,_)] ⟨ke rfl,ke rfl,ke rfl,ke rfl,ke rfl,ke rfl,trivial⟩ (fun (X3:List (Nat×List Bool)) (i:Nat)=>[(40,int ((i:Nat):Int))]) (fun (X3:List (Nat×List Bool)) (i:Nat)=>Hp M0 w0 FR (Gh (Ga 4) X3)) (fun (X3:List (Nat×List Bool)) (i:Nat)=>i≤n∧(X3.map (·.1)=bs∧X3.map (·.2)=Gb n (IF k2 (Cn l k2) i 0))) (fun (X3:List (Nat×List Bool)) (i:Nat)=>n-i) (X2) (0)  (⟨Nat.zero_le _,Sx,by rw [wT];exact hX2⟩) ⟨ke rfl,trivial⟩ (fun _ _ h=>h) ?_
 rintro X3 i  ⟨hi0,hb3,hX3⟩
 refine ac ?_
 refine Tr.seq ?_
 refine Tr.cn rfl ?_ ?_<;>intro h4 q4
 have FQ:i<n:=AG h4
 refine a3 ?_
 refine Tr.block (Tr.Cy [(0,_),(5,_),(8,_),(9,_),(35,_),(36,_),(39,_),(40,_),(43,_)] ⟨ke rfl,ke rfl,ke rfl,ke rfl,ke rfl,ke rfl,ke rfl,ke rfl,ke rfl,trivial⟩ (fun (X4:List (Nat×List Bool)) (j:Nat)=>[(44,int ((j:Nat):Int))]) (fun (X4:List (Nat×List Bool)) (j:Nat)=>Hp M0 w0 FR (Gh (Ga 4) X4)) (fun (X4:List (Nat×List Bool)) (j:Nat)=>j≤n∧(X4.map (·.1)=bs∧X4.map (·.2)=Gb n (IF k2 (Cn l k2) i j))) (fun (X4:List (Nat×List Bool)) (j:Nat)=>n-j) (X3) (0)  (⟨Nat.zero_le _,hb3,hX3⟩) ⟨ke rfl,trivial⟩ (fun _ _ h=>h) ?_)
 rintro X4 j  ⟨hj0,hb4,lF⟩
 refine ac ?_
 refine Tr.seq ?_
 refine Tr.cn rfl ?_ ?_<;>intro h5 q5
 have hjl:j<n:=AG h5
 have ACF:X4.length=n:=by have:=congrArg List.length lF;rw [List.length_map,Hj] at this;exact this
 obtain ⟨xi,nM⟩:=at_ (l:=X4) (k:=i) (by omega)
 obtain ⟨xk,hxk⟩:=at_ (l:=X4) (k:=k2) (by omega)
 have ACG:xi.2.length=n:=by rw [Md lF nM (by omega),List.length_map,List.length_range]
 have ACH:xk.2.length=n:=by rw [Md lF hxk (by omega),List.length_map,List.length_range]
 refine a3 ?_
 refine co rfl (AA rfl underlying162 Mu (vl rfl) (vl rfl) (by omega) (AP (Pj hb4 nM))) ?_
 refine ac ?_
 refine co rfl (BI rfl underlying146 S1 (vl rfl) (vl rfl) (by omega) (by omega)) ?_
 refine co rfl (DK i (Xy nM) (A_ rfl YR (vl rfl) (fV (c:=k2) lF nM (by omega) (by omega) (kA k2 (Cn l k2) i j i)))) ?_
 refine cm rfl ?_
 refine Ch.cs 54 rfl ?_ ?_<;>intro h6 q6
 refine ac ?_
 refine cy h6 rfl (AA rfl underlying162 Mu (vl rfl) (vl rfl) (by omega) (AP (Pj hb4 hxk))) ?_
 refine ac ?_
 refine cy h6 rfl (BI rfl underlying146 S1 (vl rfl) (vl rfl) (by omega) (by omega)) ?_
 refine cy h6 rfl (DK k2 (Xy hxk) (A_ rfl YR (vl rfl) (fV (c:=j) lF hxk (by omega) (by omega) (kB k2 (Cn l k2) i j j)))) ?_
 refine ac ?_
 refine ON 0 5 8 9 10 35 36 39 40 43 44 62 rfl ?_
 refine Tr.cn rfl ?_ ?_<;>intro h7 q7
 refine Tr.focus [] nM rfl ?_
 refine ao ?_
 refine tp rfl (AA rfl underlying162 Mu (vl rfl) (vl rfl) (by omega) (AP (Pj hb4 nM))) ?_
 refine ao ?_
 refine tp rfl (BI rfl underlying146 S1 (vl rfl) (vl rfl) (by omega) (by omega)) ?_
 refine TO.Dz 0 rfl rfl (A0 rfl rfl (vl rfl) (Vo rfl) S1 rfl (by rw [List.length_map];omega) rfl) ?_
 refine ao ?_
 refine HQ 0 5 8 9 35 36 39 40 43 44 rfl ?_
 refine ac ?_
 refine Fin.gP 0 ((xi.2.set j true).map fun b=>bool b) rfl (Xz (by omega)) (Fin.R6 (res:=Ga 4) [] (xi.1,xi.2.set j true) (show i<X4.length by omega) rfl ?_)
 exact Fin.C5 (X4.set i (xi.1,xi.2.set j true)) (j+1)  (⟨⟨by omega,X0 hb4 nM,(by rw [←kC (by assumption) (by assumption)];exact Xx lF nM (by omega) (by omega))⟩,by omega⟩) ⟨⟨_,rfl,AE j⟩,ke rfl,ke rfl,ke rfl,ke rfl,ke rfl,ke rfl,ke rfl,ke rfl,ke rfl,trivial⟩ (fun _ _ h=>h)
 refine a2 ?_
 exact Fin.C5 (X4) (j+1)  (⟨⟨by omega,hb4,(by rw [←dW (by simp_all)];exact lF)⟩,by omega⟩) ⟨⟨_,rfl,AE j⟩,ke rfl,ke rfl,ke rfl,ke rfl,ke rfl,ke rfl,ke rfl,ke rfl,ke rfl,trivial⟩ (fun _ _ h=>h)
 refine ac ?_
 refine ON 0 5 8 9 10 35 36 39 40 43 44 62 rfl ?_
 refine a2 ?_
 exact Fin.C5 (X4) (j+1)  (⟨⟨by omega,hb4,(by rw [←dW (by simp_all)];exact lF)⟩,by omega⟩) ⟨⟨_,rfl,AE j⟩,ke rfl,ke rfl,ke rfl,ke rfl,ke rfl,ke rfl,ke rfl,ke rfl,ke rfl,trivial⟩ (fun _ _ h=>h)
 have hje:=AH h5
 refine a2 ?_
 exact Fin.C5 (X4) (i+1)  (⟨⟨by omega,hb4,by rw [lF,show j=n by omega];exact RL dY⟩,by omega⟩) ⟨⟨_,rfl,AE i⟩,ke rfl,ke rfl,ke rfl,ke rfl,ke rfl,ke rfl,trivial⟩ (fun _ _ h=>h)
 have hie:=AH h4
 refine a2 ?_
 exact Fin.C5 (X3) (k2+1)  (⟨⟨by omega,hb3,by rw [hX3,show i=n by omega];exact RL kD⟩,by omega⟩) ⟨⟨_,rfl,AE k2⟩,ke rfl,ke rfl,ke rfl,trivial⟩ (fun _ _ h=>h)
 have ACI:=AH h3
 refine ac ?_
 refine Tr.seq ?_
 have AA1:k2=n:=by omega
 refine Tr.ku (m:=n) (X:=X2) [] 5 rfl (by unfold maxLen;omega) (fW hX2) rfl (Pr.le_of_eq (by rw [←Sx,List.map_map];rfl)) ?_
 refine Tr.drop 0 ?_
 refine a2 ?_
 · subst AA1;exact Pr.le_of_eq (congrArg (slice 1) (fX hX2))
theorem WH {n:Int} {l:List BG} (hl:l.length≤1000000):BA prog 47 [int n,reqs l] (int (BC n l)):=by
 refine fo func47 rfl ⟨rfl,rfl⟩ fun M0 w0=>(Tr.Cv 1 rfl fun GV=> ?_)
 refine ac ?_
 refine ag ?_ ?_<;>intro h1 q1
 refine a3 ?_
 · exact int_eq (Jv (by omega)).symm
 refine an ?_ ?_<;>intro h2 q2
 refine a2 ?_
 · exact int_eq (Jv (by omega)).symm
 obtain ⟨N,rfl⟩:∃N:Nat,n=(N:Int):=⟨n.toNat,by omega⟩
 refine a2 ?_
 refine Tr.block (Tr.A9 [(0,_),(1,_),(16,_),(17,_)] (YO rfl) (fun k:Nat=>[(18,int ((k:Nat):Int))]) (fun k:Nat=>k≤(l).length∧(∀j y,j<k→l[j]? =some y→Dy N y=false)) (fun k:Nat=>(l).length-k) 0 (⟨Nat.zero_le _,fun j y hj=>absurd hj (by omega)⟩) ⟨ke rfl,trivial⟩ ?_)
 rintro k ⟨BP,AW⟩
 refine ac ?_
 refine Tr.seq ?_
 refine Tr.cn rfl ?_ ?_<;>intro h3 q3
 have Ai:k<(l).length:=AG h3
 obtain ⟨r,Af⟩:=at_ Ai
 refine ac ?_
 refine Tr.seq (Tr.block (Tr.seq (Tr.An (tp rfl (AA rfl underlying33 Bl (vl rfl) (vl rfl) (by omega) (AP Af)) (tp rfl (AQ rfl Dt Bl (vl rfl) rfl rfl) ?_)))))
 refine Tl rfl rfl rfl rfl z117 Iz (fun b1=> ?_)
 refine sf 0 6 ⟨rfl,rfl,rfl⟩ rfl rfl rfl rfl ?_
 refine ao ?_
 · repeat' first|(exact int_eq (ET (by omega) Af (by unfold Dy;rw [decide_eq_true_eq];omega)).symm)|(exact Fin.AL (k+1) ⟨⟨Ai,Du (p:=Dy N) Af (by unfold Dy;rw [decide_eq_false_iff_not];omega) AW⟩,by omega⟩ ⟨⟨_,rfl,AE k⟩,ke rfl,ke rfl,ke rfl,ke rfl,trivial⟩)|refine ac ?_|(refine Tr.cn rfl ?_ ?_<;>intro h q)|(refine Ch.cg rfl rfl rfl ?_ ?_<;>intro h q)
 have BJ:k=(l).length:=by have:=AH h3;omega
 subst BJ
 have Z5:=Xn AW
 have ZS:∀r∈l,(0≤r.fst∧r.fst<(N:Nat))∧0≤r.thn∧r.thn<(N:Nat):=fun r hr=>by
  have h_:=Z5 r hr
  unfold Dy at h_;rw [decide_eq_false_iff_not] at h_;omega
 refine a2 ?_
 refine Tr.block (Tr.LH [(0,_),(1,_)] ⟨ke rfl,ke rfl,trivial⟩ (fun (i:Nat)=>[(7,int ((i:Nat):Int))]) (fun (i:Nat)=>Hp M0 w0 FR ([])) (fun (i:Nat)=>(1≤i∧(i≤l.length∨i=1))∧∀(j:Nat) a b,j+1<i→l[j]? =some a→l[j+1]? =some b→Ed a b=true) (fun (i:Nat)=>l.length-i) (1)  (⟨⟨by omega,.inr rfl⟩,fun j a b hj=>absurd hj (by omega)⟩) ⟨ke rfl,trivial⟩ (fun _ _ h=>h) ?_)
 rintro i  ⟨⟨hi1,hi2⟩,pP⟩
 refine an ?_ ?_<;>intro h9 q9
 have FQ:i<l.length:=AG h9
 obtain ⟨x,hx⟩:=at_ FQ
 obtain ⟨y,hy⟩:=at_ (l:=l) (k:=i-1) (by omega)
 · repeat' first|exact int_eq (Sg (by omega) Z5 (by omega) hy hx (by simp_all)).symm|(exact Fin.LI (i+1)  (⟨⟨⟨by omega,.inl (by omega)⟩,JR hx (fun z _ hz=>by rw [hy] at hz;cases hz;simp_all) pP⟩,by omega⟩) ⟨⟨_,rfl,AE i⟩,ke rfl,ke rfl,trivial⟩ (fun _ _ h=>h))|(refine co rfl (AA rfl underlying33 Bl (vl rfl) (vl rfl) (by omega) (by rw [show ((i:Nat):Int)-1=((i-1:Nat):Int) by omega];exact AP hy)) ?_)|refine co rfl (AA rfl underlying33 Bl (vl rfl) (vl rfl) (by omega) (AP hx)) (co rfl (AQ rfl Dt Bl (vl rfl) rfl rfl) (co rfl (CF (Q_) rfl rfl rfl) ?_))|refine ac ?_|(refine Tr.cn rfl ?_ ?_<;>intro h q)
 have hie:=AH h9
 have nN:DY l=true:=PV fun j a b hj=>pP j a b (by omega)
 refine a2 ?_
 refine co rfl (CF (RM (n:=N) (l:=l) (by omega) hl ZS) rfl rfl rfl) ?_
 refine a2 ?_
 refine Tr.block (Tr.LH [(8,_),(70,_)] ⟨ke rfl,ke rfl,trivial⟩ (fun (m:Nat)=>[(71,int ((m:Nat):Int))]) (fun (m:Nat)=>Hp M0 w0 FR ([])) (fun (m:Nat)=>m≤N∧∀i,i<m→Cn l N i i=false) (fun (m:Nat)=>N-m) (0)  (⟨Nat.zero_le _,fun i hi=>absurd hi (by omega)⟩) ⟨ke rfl,trivial⟩ (fun _ _ h=>h) ?_)
 rintro m  ⟨hm0,hwn⟩
 refine ac ?_
 refine Tr.seq ?_
 refine Tr.cn rfl ?_ ?_<;>intro h11 QG
 have hm:m<N:=AG h11
 · repeat' first|exact int_eq (PU (by omega) Z5 nN hm (by assumption)).symm|(exact Fin.LI (m+1)  (⟨⟨by omega,fun i hi=>by rcases Nat.lt_or_eq_of_le (Nat.le_of_lt_succ hi) with h_|h_;exact hwn i h_;(subst h_;assumption)⟩,by omega⟩) ⟨⟨_,rfl,AE m⟩,ke rfl,ke rfl,trivial⟩ (fun _ _ h=>h))|refine co rfl (AA rfl underlying162 Mu (vl rfl) (vl rfl) (by omega) (AP (Jx _ hm))) ?_|refine co rfl (AA rfl underlying146 S1 (vl rfl) (vl rfl) (by omega) (AP (Jy _ hm))) ?_|refine ac ?_|(refine Tr.cn rfl ?_ ?_<;>intro h q)
 have hme:=AH h11
 refine a3 ?_
 · exact int_eq (Sh (by omega) Z5 nN fun i hi=>hwn i (by omega)).symm
theorem Gc {n:Int} {l:List BG} (hl:l.length≤1000000):BA prog 23 [int n,reqs l] (int (BC n l)):=by
 refine fo func23 rfl ⟨rfl,rfl⟩ fun M0 w0=> ?_
 refine a2 ?_
 refine co rfl (CF (WH hl) rfl rfl rfl) ?_
 refine a2 ?_
 · exact Lr
theorem Me {a b:List Int} (hab:a.length≤b.length):BA prog 150 [ints a,ints b] (Dw):=by
 refine fo func150 rfl ⟨rfl,rfl⟩ fun M0 w0=>(Tr.Cv 0 rfl fun Ew=>(Tr.Cv 1 rfl fun GV=> ?_))
 refine a2 ?_
 refine Tr.block (Tr.A9 [(0,_),(1,_),(7,_)] (L_ rfl) (fun k:Nat=>[(8,int ((k:Nat):Int))]) (fun k:Nat=>k≤(a).length) (fun k:Nat=>(a).length-k) 0 (Nat.zero_le _) ⟨ke rfl,trivial⟩ ?_)
 rintro k BP
 refine ac ?_
 refine Tr.seq ?_
 refine Tr.cn rfl ?_ ?_<;>intro h1 q1
 have Ai:k<(a).length:=AG h1
 obtain ⟨x,Af⟩:=at_ Ai
 obtain ⟨y,hy⟩:=at_ (l:=b) (k:=k) (by omega)
 · repeat' first|exact AJ _ (Lr)|exact Fin.AL (k+1) ⟨Ai,by omega⟩ ⟨⟨_,rfl,AE k⟩,ke rfl,ke rfl,ke rfl,trivial⟩|refine co rfl (AA rfl underlying38 B4 (vl rfl) (vl rfl) (by omega) (AP Af)) ?_|refine co rfl (AA rfl underlying38 B4 (vl rfl) (vl rfl) (by omega) (AP hy)) ?_|refine ac ?_|(refine Tr.cn rfl ?_ ?_<;>intro h q)
 have BJ:k=(a).length:=by have:=AH h1;omega
 refine a3 ?_
 · exact AJ _ (Lr)
theorem RN {a b:List Int}  :BA prog 137 [ints a,ints b] (Dw):=by
 refine fo func137 rfl ⟨rfl,rfl⟩ fun M0 w0=>(Tr.Cv 0 rfl fun Ew=>(Tr.Cv 1 rfl fun GV=> ?_))
 refine ac ?_
 refine ap ?_
 refine TO.cases 10 rfl (fun h1=> ?_) (fun h1=> ?_)
 have q1:=D_.Eo h1
 refine TO.L2 rfl rfl rfl h1 rfl (by decide) (BM rfl (vl rfl)) (TO.L2 rfl rfl rfl h1 rfl (by decide) (BM rfl (vl rfl)) (TO.L2 rfl rfl rfl h1 rfl (by decide) (CF (Me (by omega)) rfl rfl rfl) (TO.ex 13 rfl fun z13=>(TO.L2 rfl rfl rfl h1 rfl (by decide) (G8 rfl (vl rfl)) ?_))))
 refine ap ?_
 refine TO.cases 16 rfl (fun h2=> ?_) (fun h2=> ?_)
 have q2:=D_.Eo h2
 refine TO.L2 rfl rfl rfl h2 rfl (by decide) (BM rfl (vl rfl)) (TO.L2 rfl rfl rfl h2 rfl (by decide) (BM rfl (vl rfl)) (TO.L2 rfl rfl rfl h2 rfl (by decide) (CF (Me (by omega)) rfl rfl rfl) (TO.ex 19 rfl fun z19=>(TO.L2 rfl rfl rfl h2 rfl (by decide) (G8 rfl (vl rfl)) ?_))))
 refine ap ?_
 refine FX 4 rfl ?_
 refine ac ?_
 · exact AJ _ (Lr)
 have q2:=D_.Eo h2
 iterate 4 refine TO.R8 rfl rfl rfl (BN h2) rfl (by decide) ?_
 refine ap ?_
 refine FX 4 rfl ?_
 refine ac ?_
 · exact AJ _ (Lr)
 have q1:=D_.Eo h1
 iterate 4 refine TO.R8 rfl rfl rfl (BN h1) rfl (by decide) ?_
 refine ap ?_
 iterate 4 refine TO.R8 rfl rfl rfl (BN rfl) rfl (by decide) ?_
 refine ap ?_
 refine FX 4 rfl ?_
 refine ac ?_
 · exact AJ _ (Lr)
theorem So {a b:List Int}  :BA prog 109 [ints a,ints b] (Dw):=by
 refine fo func109 rfl ⟨rfl,rfl⟩ fun M0 w0=> ?_
 refine a2 ?_
 refine co rfl (CF (RN) rfl rfl rfl) ?_
 refine a2 ?_
 · exact Lr
abbrev sets (l:List (List Int)):Pr:=slice 1 (l.map fun s=>[ints s])
structure lG (l:List (List Int)) (s:List Int) (z:List (List Int)):Prop where
 mem:∀x∈z,x∈l∨x=s
 le:z.length≤l.length+1
 ge:l.length≤z.length
theorem X5 {l:List (List Int)} {s:List Int} {k:Nat} (hk:k≤l.length):lG l s (l.take k++[s]++l.drop k):=by
 refine ⟨fun x hx=> ?_,by simp;omega,by simp;omega⟩
 simp only [List.mem_append,List.mem_singleton] at hx
 rcases hx with (hx|hx)|hx
 · exact .inl (List.mem_of_mem_take hx)
 · exact .inr hx
 · exact .inl (List.mem_of_mem_drop hx)
theorem lH {lo hi:Nat} (h:lo+hi≤1000000):IntKind.i64.wrap (((lo:Int)+(hi:Int)).tdiv 2)=(((lo+hi)/2:Nat):Int):=by
 rw [Int.tdiv_eq_ediv_of_nonneg (by omega),F8 (by unfold Kz;omega)];omega
theorem lI {l:List (List Int)} {s:List Int}:lG l s l:=⟨fun x hx=> .inl hx,by omega,by omega⟩
theorem fY {l:List (List Int)} {s:List Int} (hl:l.length≤100000) (hs:∀x∈l,x.length=s.length):BA prog 149 [sets l,ints s] (Cp.ex fun z:List (List Int)=>fact (lG l s z) (sets z)):=by
 refine fo func149 rfl ⟨rfl,rfl⟩ fun M0 w0=>(Tr.Cv 0 rfl fun Ew=> ?_)
 have hml:(l.map fun s=>[ints s]).length=l.length:=List.length_map _
 refine a2 ?_
 refine Tr.seq (Tr.block (Tr.Cy [(0,_),(1,_)] ⟨ke rfl,ke rfl,trivial⟩ (fun (lo:Nat) (hi:Nat)=>[(5,int ((lo:Nat):Int)),(6,int ((hi:Nat):Int))]) (fun (lo:Nat) (hi:Nat)=>Hp M0 w0 FR ([])) (fun (lo:Nat) (hi:Nat)=>lo≤hi∧hi≤l.length) (fun (lo:Nat) (hi:Nat)=>hi-lo) (0) (l.length)  (⟨Nat.zero_le _,Nat.le_refl _⟩) ⟨ke rfl,ke rfl,trivial⟩ (fun _ _ h=>h) ?_))
 rintro lo hi  ⟨hlh,hhl⟩
 refine an ?_ ?_<;>intro h1 q1
 have hlt:lo<hi:=AG h1
 obtain ⟨x,hx⟩:=at_ (l:=l) (k:=(lo+hi)/2) (by omega)
 have hxs:=hs x (List.mem_of_getElem? hx)
 refine a2 ?_
 refine co rfl (OC rfl (vl rfl) (vl rfl) (by omega)) ?_
 refine ac ?_
 refine Tr.seq (Tr.re 7 rfl (int_eq (lH (by omega))) ?_)
 refine ac ?_
 refine co rfl (AA rfl underlying197 F9 (vl rfl) (vl rfl) (by omega) (AP hx)) ?_
 refine ac ?_
 refine co rfl (CF (Me (by omega)) rfl rfl rfl) ?_
 refine ac ?_
 refine K0 0 1 5 6 7 23 rfl (Tr.ex 23 rfl fun ACJ=> ?_)
 refine Tr.cn rfl ?_ ?_<;>intro h2 q2
 refine ac ?_
 exact Fin.C5 (((lo+hi)/2+1)) (hi)  (⟨⟨by omega,by omega⟩,by omega⟩) ⟨ke rfl,ke rfl,ke rfl,ke rfl,trivial⟩ (fun _ _ h=>h)
 refine ac ?_
 exact Fin.C5 (lo) (((lo+hi)/2))  (⟨⟨by omega,by omega⟩,by omega⟩) ⟨ke rfl,ke rfl,ke rfl,ke rfl,trivial⟩ (fun _ _ h=>h)
 have hge:=AH h1
 refine ac ?_
 refine ap ?_
 refine TO.cases 31 rfl (fun h3=> ?_) (fun h3=> ?_)
 have q3:=D_.Eo h3
 obtain ⟨x2,hx2⟩:=at_ (l:=l) (k:=lo) (by omega)
 refine TO.L2 rfl rfl rfl h3 rfl (by decide) (BM rfl (vl rfl)) (TO.L2 rfl rfl rfl h3 rfl (by decide) (BM rfl (vl rfl)) (TO.L2 rfl rfl rfl h3 rfl (by decide) (AA rfl underlying197 F9 (vl rfl) (vl rfl) (by omega) (AP hx2)) (TO.L2 rfl rfl rfl h3 rfl (by decide) (Gg rfl Ws rfl) (TO.L2 rfl rfl rfl h3 rfl (by decide) (BM rfl (vl rfl)) (TO.L2 rfl rfl rfl h3 rfl (by decide) (CF (RN) rfl rfl rfl) (TO.ex 37 rfl fun z37=> ?_))))))
 refine ap ?_
 refine Ef 0 1 5 38 rfl ?_
 refine Tr.cn rfl ?_ ?_<;>intro h4 q4
 refine a2 ?_
 · exact AJ _ (AU lI (Lr))
 refine ac ?_
 refine ap ?_
 refine tp rfl (DU rfl underlying197 F9 (vl rfl) (vl rfl) (by omega) (by omega)) (TO.pad ?_)
 refine TO.Dh 0 rfl rfl (by decide) (D7 rfl rfl (by decide) rfl underlying197 F9 TL z38 rfl (by decide) ⟨_,rfl,AF _⟩ (vl rfl) (by simp only [List.length_map,List.length_append,List.length_cons,List.length_nil,List.length_take,List.length_drop];unfold maxLen;omega) (by simp only [List.length_map,List.length_append,List.length_cons,List.length_nil,List.length_take,List.length_drop];omega) (Bh (by exact List.Mem.head _) ⟨_,rfl,EN 1⟩)) (fun v1=> ?_)
 refine ap ?_
 refine ap ?_
 refine TO.Dh 0 rfl rfl (by decide) (Bt rfl rfl rfl rfl underlying197 F9 TL z38 (Kb rfl) (Kf rfl) (Au (by exact List.Mem.head _) (Ka rfl))) (fun v2=> ?_)
 refine ap ?_
 refine Cd 0 5 8 rfl ?_
 refine ap ?_
 refine tp rfl (DM rfl underlying197 F9 (vl rfl) (vl rfl) (by omega) (by omega)) ?_
 refine TO.Dh 0 rfl rfl (by decide) (Bt rfl rfl rfl rfl underlying197 F9 TL z38 (Kb rfl) (vl rfl) (Au (by exact List.Mem.head _) (Ka rfl))) (fun v3=> ?_)
 refine ap ?_
 refine ac ?_
 · refine AJ _ (AU (X5 (k:=lo) (by omega)) (Pr.le_trans (Ak _ _) (Pr.le_of_eq ?_)));show _=slice 1 ((l.take lo++[s]++l.drop lo).map fun s=>[ints s]);simp [List.map_take,List.map_drop]
 have q3:=D_.Eo h3
 iterate 6 refine TO.R8 rfl rfl rfl (BN h3) rfl (by decide) ?_
 refine ap ?_
 refine Ef 0 1 5 38 rfl ?_
 refine ac ?_
 refine ap ?_
 refine tp rfl (DU rfl underlying197 F9 (vl rfl) (vl rfl) (by omega) (by omega)) (TO.pad ?_)
 refine TO.Dh 0 rfl rfl (by decide) (D7 rfl rfl (by decide) rfl underlying197 F9 TL z38 rfl (by decide) ⟨_,rfl,AF _⟩ (vl rfl) (by simp only [List.length_map,List.length_append,List.length_cons,List.length_nil,List.length_take,List.length_drop];unfold maxLen;omega) (by simp only [List.length_map,List.length_append,List.length_cons,List.length_nil,List.length_take,List.length_drop];omega) (Bh (by exact List.Mem.head _) ⟨_,rfl,EN 1⟩)) (fun v4=> ?_)
 refine ap ?_
 refine ap ?_
 refine TO.Dh 0 rfl rfl (by decide) (Bt rfl rfl rfl rfl underlying197 F9 TL z38 (Kb rfl) (Kf rfl) (Au (by exact List.Mem.head _) (Ka rfl))) (fun v5=> ?_)
 refine ap ?_
 refine Cd 0 5 8 rfl ?_
 refine ap ?_
 refine tp rfl (DM rfl underlying197 F9 (vl rfl) (vl rfl) (by omega) (by omega)) ?_
 refine TO.Dh 0 rfl rfl (by decide) (Bt rfl rfl rfl rfl underlying197 F9 TL z38 (Kb rfl) (vl rfl) (Au (by exact List.Mem.head _) (Ka rfl))) (fun v6=> ?_)
 refine ap ?_
 refine ac ?_
 · refine AJ _ (AU (X5 (k:=lo) (by omega)) (Pr.le_trans (Ak _ _) (Pr.le_of_eq ?_)));show _=slice 1 ((l.take lo++[s]++l.drop lo).map fun s=>[ints s]);simp [List.map_take,List.map_drop]
theorem WI {o:List Int} (ho:o.length≤1000):BA prog 41 [ints o] (Cp.ex fun z:List BG=>fact (z.length≤o.length) (reqs z)):=by
 refine fo func41 rfl ⟨rfl,rfl⟩ fun M0 w0=>(Tr.Cv 0 rfl fun Ew=> ?_)
 refine a3 ?_
 refine Tr.block (Tr.Cy [(0,_)] ⟨ke rfl,trivial⟩ (fun (z:List BG) (i:Nat)=>[(3,reqs z),(4,int ((i:Nat):Int))]) (fun (z:List BG) (i:Nat)=>Hp M0 w0 FR ([])) (fun (z:List BG) (i:Nat)=>(1≤i∧(i≤o.length∨i=1))∧z.length+1≤i) (fun (z:List BG) (i:Nat)=>o.length-i) ([]) (1)  (⟨⟨by omega,.inr rfl⟩,by simp⟩) ⟨⟨_,rfl,AF 2⟩,ke rfl,trivial⟩ (fun _ _ h=>h) ?_)
 rintro z i  ⟨⟨hi1,hi2⟩,hzl⟩
 refine an ?_ ?_<;>intro h1 q1
 have FQ:i<o.length:=AG h1
 obtain ⟨x,hx⟩:=at_ FQ
 obtain ⟨y,hy⟩:=at_ (l:=o) (k:=i-1) (by omega)
 refine a2 ?_
 refine co rfl (AA rfl underlying22 B4 (vl rfl) (vl rfl) (by omega) (by rw [show ((i:Nat):Int)-1=((i-1:Nat):Int) by omega];exact AP hy)) ?_
 refine ac ?_
 refine co rfl (AA rfl underlying22 B4 (vl rfl) (vl rfl) (by omega) (AP hx)) ?_
 refine ac ?_
 refine co rfl (CF (PC (l:=z) (r:=⟨y,x⟩) (by omega)) rfl rfl rfl) ?_
 refine ac ?_
 refine Cd 0 3 4 rfl ?_
 refine ac ?_
 exact Fin.C5 ((Fg z ⟨y,x⟩)) (i+1)  (⟨⟨⟨by omega,.inl (by omega)⟩,by have:=PB z ⟨y,x⟩;omega⟩,by omega⟩) ⟨ke rfl,⟨_,rfl,AE i⟩,ke rfl,trivial⟩ (fun _ _ h=>h)
 have hie:=AH h1
 refine a3 ?_
 · exact AJ _ (AU (by omega) (Lr))
theorem RO (n:Nat) (l:List BG):∀k,(C4 n l k).2.length≤k
 |0=>Nat.le_refl _
 |k+1=>by
  have h:=RO n l k
  rw [C4]
  split
  · omega
  ·
   rename_i x _
   have h2:=MT (C4 n l k).2 x true
   show (D5 (C4 n l k).2 x true).length≤k+1
   omega
theorem WJ {n:Int} {l:List BG} (hl:l.length≤1000000):BA prog 81 [int n,reqs l] (EK [ints (if BC n l=0 then (C4 n.toNat l n.toNat).1 else []),int (BC n l)]):=by
 refine fo func81 rfl ⟨rfl,rfl⟩ fun M0 w0=> ?_
 refine a2 ?_
 refine co rfl (CF (Gc hl) rfl rfl rfl) ?_
 refine ac ?_
 refine an ?_ ?_<;>intro h1 q1
 have hv:BC n l≠0:=by simpa using h1
 refine ac ?_
 refine Tr.ret (Fin.AD (Fin.DG rfl (Bc.DZ _ _) rfl ?_ rfl ?_))
 · rw [if_neg hv];exact AF 1
 · exact Lr
 have hv:BC n l=0:=by simpa using h1
 obtain ⟨N,rfl⟩:∃N:Nat,n=(N:Int):=⟨n.toNat,by have:=(C3 hv).1;omega⟩
 have Jk:=(C3 hv).1
 refine a2 ?_
 refine Tr.seq (Tr.block (Tr.B0 3 1 (Tr.TH [(0,_),(1,_)] ⟨ke rfl,ke rfl,trivial⟩ (fun (k:Nat) u=>[(7,ints (C4 N l k).2),(8,Ag u (ints (C4 N l k).1))]) (fun (k:Nat) u=>Hp M0 w0 FR ([Aq 3 1 u])) (fun (k:Nat)=>k≤N) (fun (k:Nat)=>N-k) (0) (.slice none 0 0) (Nat.zero_le _) ⟨⟨_,rfl,AF 1⟩,⟨_,rfl,Bf rfl⟩,trivial⟩ (fun _ _ h=>h) ?_)))
 rintro k u hkN
 have hrow:=II hv k (by simpa using hkN)
 rw [Int.toNat_natCast] at hrow
 obtain ⟨ZS,hrl⟩:=hrow
 have gU:(C4 N l k).2.length≤100000:=Nat.le_trans (RO N l k) (by omega)
 refine ac ?_
 refine co rfl (Bo rfl underlying38 (Kb rfl)) ?_
 refine an ?_ ?_<;>intro h2 q2
 have hk:k<N:=by have:=D_.Eo h2;omega
 obtain ⟨x,hx0,hst⟩:=T_ hv (k:=k) (by simpa using hk)
 rw [Int.toNat_natCast] at hx0 hst
 have wu:=AP (f:=fun n:Int=>[int n]) hx0
 refine a2 ?_
 refine co rfl (Zv (NC (n:=N) (l:=l) (by omega) (by omega)) rfl rfl rfl rfl rfl) ?_
 refine ac ?_
 refine Tr.pad (Tr.rx ?_)
 refine ay ?_
 refine xo rfl (fun _=>AA rfl underlying38 B4 (vl rfl) (vl rfl) (by omega) wu) (xo rfl (fun _=>Gg rfl Cz rfl) (xo rfl (fun _=>AM (xs:=[.tmp 27]) (rows:=[[_]]) rfl rfl underlying38 B4 z3 rfl (by decide) ⟨⟨(by exact rfl),(Vo rfl)⟩,trivial⟩ (by decide)) ?_))
 refine Cx.ef 1 rfl rfl (by decide) (Bt rfl rfl rfl rfl underlying38 B4 Jf z3 (Kb rfl) (Kf rfl) (Au (by exact List.Mem.head _) (Ka rfl))) ?_
 refine ay ?_
 refine xo rfl (fun _=>AA rfl underlying38 B4 (vl rfl) (vl rfl) (by omega) wu) (xo rfl (fun _=>Gg rfl Cz rfl) (xo rfl (fun _=>J2 (Fh (by omega)) rfl rfl rfl rfl) (Cx.ef 1 rfl rfl (by decide) (Rh rfl rfl (by decide) rfl (vl rfl)) (xm rfl ?_))))
 refine Cx.nil ⟨by kernel_rfl,?_⟩
 refine BH.open_ 1 8 rfl rfl (fun v1=> ?_)
 refine BH.done YY (Fin.block (Fin.drop 0 ?_))
 exact Fin.Wo (k+1) v1 (⟨by omega,by omega⟩) ⟨⟨_,rfl,Pr.le_of_eq (by rw [hst])⟩,⟨_,rfl,A7 (by rw [hst];simp)⟩,ke rfl,ke rfl,trivial⟩ (fun _ _ h=>h)
 have VO:k=N:=by have:=D_.Eo h2;omega
 refine a2 ?_
 refine Tr.ret (Fin.DG rfl (Bc.DZ _ _) rfl ?_ rfl ?_)
 · rw [if_pos hv,Int.toNat_natCast,←VO];exact Ak _ _
 · refine int_eq ?_;exact hv.symm
structure KI (n k:Nat) (L:List (List Int)):Prop where
 O_:∀s∈L,∀x∈s,0≤x∧x<(n:Int)
 len:∀s∈L,s.length=k
theorem UQ {n:Nat} {l:List BG} {s:List Int} {x:Int} (h:x∈ED n l s true):(0≤x∧x<(n:Int))∧x∉s:=by
 unfold ED at h
 obtain ⟨i,hi,rfl⟩:=List.mem_map.1 h
 obtain ⟨h1,h2⟩:=List.mem_filter.1 hi
 have h3:=List.mem_range.1 h1
 refine ⟨by omega,fun hc=> ?_⟩
 unfold Kq at h2
 rw [Bool.and_eq_true] at h2
 have:=D4.2 hc
 rw [this] at h2
 exact absurd h2.1 (by decide)
theorem KI.put {n k:Nat} {l:List BG} {L z:List (List Int)} {s:List Int} {x:Int} (h:KI n (k+1) L) (hs:s.length=k∧∀y∈s,0≤y∧y<(n:Int)) (hx:x∈ED n l s true) (hp:lG L (D5 s x true) z):KI n (k+1) z:=by
 have hb:=UQ hx
 refine ⟨fun t ht=> ?_,fun t ht=> ?_⟩
 ·
  rcases hp.mem t ht with h1|rfl
  · exact h.O_ t h1
  ·
   intro y hy
   rcases DF.1 hy with rfl|hy
   · exact hb.1
   · exact hs.2 y hy
 ·
  rcases hp.mem t ht with h1|rfl
  · exact h.len t h1
  · rw [IG hb.2,hs.1]
theorem ZT {n k:Nat}:KI n k []:=⟨fun _ h=>(by cases h),fun _ h=>(by cases h)⟩
theorem ZU {n:Nat}:KI n 0 [[]]:=⟨fun s h x hx=>(by simp at h;subst h;cases hx),fun s h=>(by simp at h;subst h;rfl)⟩
structure KJ (n:Int) (L:List (List Int)):Prop where
 O_:∀s∈L,∀x∈s,0≤x∧x<n
 len:L.length≤4096
 wid:∀s∈L,s.length≤4096
theorem ZV {n d:Nat} {lv ou nx:List (List Int)} (h1:KI n (d+1) nx) (h2:KJ (n:Int) ou) (h3:lv=[]∨d+1≤ou.length) (hl:ou.length+nx.length≤4096) (hy:lv≠[]):((KI n (d+1) nx∧KJ (n:Int) (ou++nx))∧(nx=[]∨d+1+1≤(ou++nx).length)∧nx.length≤4096)∧(if nx=[] then 0 else 4097-(ou++nx).length)<(if lv=[] then 0 else 4097-ou.length):=by
 have h4:(ou++nx).length=ou.length+nx.length:=List.length_append
 have h5:=h2.len
 rw [if_neg hy]
 refine ⟨⟨⟨h1,⟨fun s hs=> ?_,by omega,fun s hs=> ?_⟩⟩,?_,by omega⟩,?_⟩
 ·
  rcases List.mem_append.1 hs with hs|hs
  · exact h2.O_ s hs
  · exact h1.O_ s hs
 ·
  rcases List.mem_append.1 hs with hs|hs
  · exact h2.wid s hs
  · rw [h1.len s hs];rcases h3 with h3|h3;exact absurd h3 hy;omega
 ·
  cases nx with
  |nil=>exact .inl rfl
  |cons a m=>right;rcases h3 with h3|h3;exact absurd h3 hy;rw [h4,List.length_cons];omega
 ·
  cases nx with
  |nil=>rw [if_pos rfl];omega
  |cons a m=>rw [if_neg (fun h=>by cases h),h4,List.length_cons];rcases h3 with h3|h3;exact absurd h3 hy;omega
theorem ZW {n:Int} {l:List BG} (hl:l.length≤1000000):BA prog 136 [int n,reqs l] (Cp.ex fun z:List (List Int)×Int=>fact (KJ n z.1) (EK [sets z.1,int z.2])):=by
 refine fo func136 rfl ⟨rfl,rfl⟩ fun M0 w0=> ?_
 refine a2 ?_
 refine co rfl (CF (Gc hl) rfl rfl rfl) ?_
 refine ac ?_
 refine an ?_ ?_<;>intro h1 q1
 refine ac ?_
 refine Tr.ret (Fin.AD (Fin.BK rfl (AO.tmp rfl (Lr)) (AO.tmp rfl (Lr)) ?_))
 · exact AJ ([],_) (AU ⟨fun s h=>(by cases h),(by decide:([]:List (List Int)).length≤4096),fun s h=>(by cases h)⟩ (Am ⟨AF 1,Lr,trivial⟩))
 have hv:BC n l=0:=by simpa using h1
 obtain ⟨N,rfl⟩:∃N:Nat,n=(N:Int):=⟨n.toNat,by have:=(C3 hv).1;omega⟩
 have Jk:=(C3 hv).1
 refine ac ?_
 refine Tr.seq (Tr.Ah (co rfl (AM (xs:=[.const (.slice none 0 0)]) (rows:=[[ints []]]) rfl rfl underlying197 F9 z38 rfl (by decide) ⟨⟨(by exact rfl),VL.le (vl rfl) (Pr.le_trans (AF 1) (Ae _))⟩,trivial⟩ (by decide)) ?_))
 refine ac ?_
 refine Tr.seq (Tr.Ah (co rfl (AM (xs:=[.const (.slice none 0 0)]) (rows:=[[ints []]]) rfl rfl underlying197 F9 z38 rfl (by decide) ⟨⟨(by exact rfl),VL.le (vl rfl) (Pr.le_trans (AF 1) (Ae _))⟩,trivial⟩ (by decide)) ?_))
 refine ac ?_
 refine Tr.seq (Tr.block (Tr.wo (e:=38) (rows:=[[ints []]]) 8 rfl (Lr) (fun v8=> ?_)))
 refine Tr.E9 [(0,_),(1,_)] ⟨ke rfl,ke rfl,trivial⟩ (fun (lv:List (List Int)) (ou:List (List Int)) (d:Nat) u=>[(7,sets lv),(8,Ag u (sets ou))]) (fun (lv:List (List Int)) (ou:List (List Int)) (d:Nat) u=>Hp M0 w0 FR ([Aq 38 1 u])) (fun (lv:List (List Int)) (ou:List (List Int)) (d:Nat)=>(KI N d lv∧KJ N ou)∧(lv=[]∨d+1≤ou.length)∧lv.length≤4096) (fun (lv:List (List Int)) (ou:List (List Int)) (d:Nat)=>(if lv=[] then 0 else 4097-ou.length)) ([[]]) ([[]]) (0) v8 (⟨⟨ZU,⟨fun s h x hx=>(by simp at h;subst h;cases hx),by decide,fun s h=>(by simp at h;subst h;decide)⟩⟩,.inr (by decide),by decide⟩) ⟨⟨_,rfl,Bq 1 _⟩,⟨_,rfl,A7 rfl⟩,trivial⟩ (fun _ _ h=>h) ?_
 rintro lv ou d u ⟨⟨hlv,fZ⟩,hd,hl4⟩
 refine an ?_ ?_<;>intro h2 q2
 have hy:lv≠[]:=by have h_:=D_.Eo h2;intro h0;subst h0;simp at h_
 have hd4:d+1≤4096:=by have:=fZ.len;rcases hd with hd|hd;exact absurd hd hy;omega
 refine a3 ?_
 refine Tr.block ?_
 refine Tr.Cy [(0,_),(1,_),(8,_),(25,_),(26,_)] ⟨ke rfl,ke rfl,ke rfl,ke rfl,ke rfl,trivial⟩ (fun (nx:List (List Int)) (m:Nat)=>[(9,sets nx),(27,int ((m:Nat):Int))]) (fun (nx:List (List Int)) (m:Nat)=>Hp M0 w0 FR ([Aq 38 1 u])) (fun (nx:List (List Int)) (m:Nat)=>(m≤lv.length∧KI N (d+1) nx)∧ou.length+nx.length≤4096) (fun (nx:List (List Int)) (m:Nat)=>lv.length-m) ([]) (0)  (⟨⟨Nat.zero_le _,ZT⟩,by have:=fZ.len;simpa using this⟩) ⟨⟨_,rfl,AF 1⟩,ke rfl,trivial⟩ (fun _ _ h=>h) ?_
 rintro nx m  ⟨⟨hm0,hnx⟩,VA⟩
 refine ac ?_
 refine Tr.seq ?_
 refine Tr.cn rfl ?_ ?_<;>intro h3 q3
 have hml:m<lv.length:=AG h3
 obtain ⟨s,hs⟩:=at_ hml
 have gT:=hlv.len s (List.mem_of_getElem? hs)
 refine ac ?_
 refine Tr.seq (Tr.block (Tr.seq (Tr.Ah (co rfl (AA rfl underlying197 F9 (vl rfl) (vl rfl) (by omega) (AP hs)) ?_))))
 refine a2 ?_
 refine co rfl (Zv (NC (n:=N) (l:=l) (by omega) (by omega)) rfl rfl rfl rfl rfl) ?_
 refine ac ?_
 refine Es 0 1 8 9 11 25 26 27 34 35 36 rfl (Tr.block (Tr.Cy [(0,_),(1,_),(8,_),(11,_),(25,_),(26,_),(27,_),(34,_),(35,_)] ⟨ke rfl,ke rfl,ke rfl,ke rfl,ke rfl,ke rfl,ke rfl,ke rfl,ke rfl,trivial⟩ (fun (ny:List (List Int)) (q:Nat)=>[(9,sets ny),(36,int ((q:Nat):Int))]) (fun (ny:List (List Int)) (q:Nat)=>Hp M0 w0 FR ([Aq 38 1 u])) (fun (ny:List (List Int)) (q:Nat)=>(q≤(ED N l s true).length∧KI N (d+1) ny)∧ou.length+ny.length≤4096) (fun (ny:List (List Int)) (q:Nat)=>(ED N l s true).length-q) (nx) (0)  (⟨⟨Nat.zero_le _,hnx⟩,VA⟩) ⟨ke rfl,ke rfl,trivial⟩ (fun _ _ h=>h) ?_))
 rintro ny q  ⟨⟨hq0,hny⟩,AA2⟩
 refine ac ?_
 refine Tr.seq ?_
 refine Tr.cn rfl ?_ ?_<;>intro h4 q4
 have hql:q<(ED N l s true).length:=AG h4
 have Ru:=PF (n:=N) (l:=l) (s:=s) (add:=true)
 obtain ⟨x,Tw⟩:=at_ hql
 refine ac ?_
 refine Tr.seq (Tr.block (Tr.seq (Tr.Ah (co rfl (AA rfl underlying38 B4 (vl rfl) (vl rfl) (by omega) (AP Tw)) ?_))))
 refine ac ?_
 refine ON 0 1 8 9 11 13 25 26 27 34 35 36 rfl ?_
 refine ap ?_
 refine tp rfl (J2 (Fh (by omega)) rfl rfl rfl rfl) ?_
 refine tp rfl (CF (fY (by omega) (fun t ht=>by rw [hny.len t ht,IG (UQ (List.mem_of_getElem? Tw)).2];omega)) rfl rfl rfl) ?_
 refine TO.ex 44 rfl (fun z1=>TO.fact 44 rfl fun FE=> ?_)
 have hzl:=FE.le
 refine ap ?_
 refine Es 0 1 8 9 11 25 26 27 34 35 36 rfl ?_
 refine ac ?_
 refine co rfl (Bo rfl underlying197 (Kb rfl)) ?_
 refine ac ?_
 refine ON 0 1 8 9 11 25 26 27 34 35 36 50 rfl ?_
 refine Tr.cn rfl ?_ ?_<;>intro h5 q5
 refine ac ?_
 refine Cc 4 5 rfl (Tr.ret (Fin.AX (Fin.AD (Fin.AD (Fin.AX (Fin.AX (Fin.AD (Fin.AD (Fin.AX (Fin.AD (Fin.AX (Fin.AD (Fin.AX (Fin.AD ?_))))))))))))))
 refine Fin.BK rfl (AO.tmp rfl (Lr)) (AO.tmp rfl (Lr)) ?_
 · exact AJ ([],_) (AU ⟨fun s h=>(by cases h),(by decide:([]:List (List Int)).length≤4096),fun s h=>(by cases h)⟩ (Am ⟨AF 1,Lr,trivial⟩))
 refine a2 ?_
 exact Fin.C5 (z1) (q+1)  (⟨⟨⟨by omega,hny.put ⟨gT,hlv.O_ s (List.mem_of_getElem? hs)⟩ (List.mem_of_getElem? Tw) FE⟩,by omega⟩,by omega⟩) ⟨ke rfl,⟨_,rfl,AE q⟩,ke rfl,ke rfl,ke rfl,ke rfl,ke rfl,ke rfl,ke rfl,ke rfl,ke rfl,trivial⟩ (fun _ _ h=>h)
 have hqe:=AH h4
 refine a2 ?_
 exact Fin.C5 (ny) (m+1)  (⟨⟨⟨by omega,hny⟩,AA2⟩,by omega⟩) ⟨ke rfl,⟨_,rfl,AE m⟩,ke rfl,ke rfl,ke rfl,ke rfl,ke rfl,trivial⟩ (fun _ _ h=>h)
 have hme:=AH h3
 refine ac ?_
 refine ap ?_
 refine TO.Dh 0 rfl rfl (by decide) (Bt rfl rfl rfl rfl underlying197 F9 TL z38 (Kb rfl) (vl rfl) (Au (by exact List.Mem.head _) (Ka rfl))) (fun v1=> ?_)
 refine ap ?_
 exact Fin.Dr (nx) (ou++nx) (d+1) v1 (ZV hnx fZ hd VA hy) ⟨ke rfl,⟨_,rfl,A7 (by simp)⟩,ke rfl,ke rfl,trivial⟩ (fun _ _ h=>h)
 have hy:=h2
 refine a2 ?_
 refine Tr.ret (Fin.BK rfl (AO.tmp rfl (Lr)) (AO.tmp rfl (Lr)) ?_)
 · exact AJ (_,_) (AU fZ (Am ⟨Ak _ _,Lr,trivial⟩))
theorem fc {β:Type} {p:β→Bool} {l:List β} {k:Nat} {x:β} (h:l[k]? =some x):idx p (l.take (k+1))=if idx p (l.take k)<0 then (if p x=true then (k:Int) else -1) else idx p (l.take k):=by
 have hk:=BD h
 rw [List.take_add_one,h]
 have hl:(l.take k).length=k:=by rw [List.length_take];omega
 show idx p (l.take k++[x])=_
 generalize l.take k=a at hl ⊢
 unfold idx
 rw [List.findIdx?_append]
 cases ha:a.findIdx? p with
 |some i=>simp;intro h3;omega
 |none=>cases hp:p x<;>simp [hp,hl]
theorem ZX {β:Type} {p:β→Bool} {l:List β} {k:Nat} {x:β} (h:l[k]? =some x):(((l.take (k+1)).countP p:Nat):Int)=((l.take k).countP p:Nat)+(if p x=true then 1 else 0):=by
 rw [List.take_add_one,h]
 show (((l.take k++[x]).countP p:Nat):Int)=_
 rw [List.countP_append,List.countP_singleton];split<;>simp_all
theorem Lw {β:Type} {p:β→Bool} {l:List β}:idx p l<0↔l.countP p=0:=by
 unfold idx
 cases h:l.findIdx? p with
 |none=>
  rw [List.findIdx?_eq_none_iff] at h
  simp only [show ((none:Option Nat).map fun n=>(n:Int)).getD (-1)= -1 from rfl]
  constructor
  · intro _;rw [List.countP_eq_zero];intro a ha;rw [h a ha];decide
  · intro _;decide
 |some i=>
  rw [List.findIdx?_eq_some_iff_getElem] at h
  obtain ⟨h1,h2,_⟩:=h
  constructor
  · intro h3;exfalso;revert h3;simp
  · intro h3;rw [List.countP_eq_zero] at h3;exact absurd h2 (h3 _ (List.getElem_mem h1))
theorem lJ {β:Type} {p:β→Bool} {l:List β} {k n:Nat} (h:l.length≤n):(l.take k).countP p≤n:=Nat.le_trans List.countP_le_length (Nat.le_trans (by rw [List.length_take];omega) h)
theorem bsX {l:List Int} {n x:Int} {k:Nat} (h:∀(j:Nat) y,j<k→l[j]? =some y→y<n) (hx:l[k]? =some x) (hlt:x<n):∀(j:Nat) y,j<k+1→l[j]? =some y→y<n:=by
 intro j y hj hy
 rcases Nat.lt_or_eq_of_le (Nat.le_of_lt_succ hj) with h1|h1
 · exact h j y h1 hy
 · subst h1;rw [hx] at hy;cases hy;exact hlt
def Gd (id:Int) (x:It):Bool:=x.CG==id
def FH (id:Int) (l:List It):Int:=((l.countP (Gd id):Nat):Int)
theorem Fl (id:Int) (l:List It):BW id l=idx (Gd id) l:=rfl
theorem ZY {id:Int} {l:List It} {k:Nat} {x:It} (h:l[k]? =some x):FH id (l.take (k+1))=FH id (l.take k)+(if x.CG=id then 1 else 0):=by
 unfold FH;rw [ZX h];unfold Gd;simp only [beq_iff_eq]
theorem UR {id:Int} {l:List It} {k:Nat} {x:It} (h:l[k]? =some x):BW id (l.take (k+1))=if FH id (l.take k)=0 then (if x.CG=id then (k:Int) else -1) else BW id (l.take k):=by
 rw [Fl,Fl,fc h]
 have:=Lw (p:=Gd id) (l:=l.take k)
 unfold FH
 by_cases h2:idx (Gd id) (l.take k)<0
 ·
  have h4:(((l.take k).countP (Gd id):Nat):Int)=0:=by rw [this.1 h2];rfl
  rw [if_pos h2,if_pos h4];unfold Gd;simp only [beq_iff_eq]
 · rw [if_neg h2,if_neg (fun h3=>h2 (this.2 (by omega)))]
theorem US {id:Int} {l:List It} (h:FH id l=0):BW id l= -1:=by
 have h2:=(Lw (p:=Gd id) (l:=l)).2 (by unfold FH at h;omega)
 rw [Fl];unfold idx at h2 ⊢
 cases h3:l.findIdx? (Gd id) with
 |none=>rfl
 |some i=>rw [h3] at h2;simp at h2;omega
def FI (e:Bs) (k:Int):Int×Bool:=if k=3 then (e.most,true) else if k=4 then (e.least,true) else if k=11 then (J3 e.LV,true) else if k=12 then (J3 e.own,true) else (0,false)
def DW (e:Bs) (k:Int):List Int×Bool×Bool:=
 if k=1∨k=2 then (e.Ap,decide (k=1),true) else if k=7∨k=8 then (e.anchors,decide (k=7),true) else if k=9∨k=10 then (e.hashes,decide (k=9),true) else ([],false,false)
theorem GJ (x:It):decide (x=Bi)=W4 x:=by
 rw [Bool.eq_iff_iff,decide_eq_true_eq];unfold W4 Bi
 cases x;simp only [It.mk.injEq,Bool.and_eq_true,decide_eq_true_eq,beq_iff_eq,and_assoc]
 constructor
 · rintro ⟨h1,h2,h3,h4⟩;exact ⟨h1,h2,h3,by simp [h4]⟩
 · rintro ⟨h1,h2,h3,h4⟩;exact ⟨h1,h2,h3,List.eq_nil_of_length_eq_zero (by omega)⟩
theorem IQ {l:List Int} {n:Int}  :BA prog 171 [ints l,int n] (int (idx (fun y=>n==y) l)):=by
 refine fo func171 rfl ⟨rfl,rfl⟩ fun M0 w0=>(Tr.Cv 0 rfl fun Ew=> ?_)
 refine a2 ?_
 refine Tr.block (Tr.A9 [(1,_),(7,_),(8,_)] (L_ rfl) (fun k:Nat=>[(9,int ((k:Nat):Int))]) (fun k:Nat=>k≤(l).length∧(∀j y,j<k→l[j]? =some y→(n==y)=false)) (fun k:Nat=>(l).length-k) 0 (⟨Nat.zero_le _,fun j y hj=>absurd hj (by omega)⟩) ⟨ke rfl,trivial⟩ ?_)
 rintro k ⟨BP,AW⟩
 refine ac ?_
 refine Tr.seq ?_
 refine Tr.cn rfl ?_ ?_<;>intro h1 q1
 have Ai:k<(l).length:=AG h1
 obtain ⟨x,Af⟩:=at_ Ai
 · repeat' first|(exact int_eq (D8 (p:=fun y=>n==y) Af (by simp;omega) AW))|(exact Fin.AL (k+1) ⟨⟨Ai,Du (p:=fun y=>n==y) Af (by simp;omega) AW⟩,by omega⟩ ⟨⟨_,rfl,AE k⟩,ke rfl,ke rfl,ke rfl,trivial⟩)|refine co rfl (AA rfl underlying22 B4 (vl rfl) (vl rfl) (by omega) (by exact AP (by assumption))) ?_|refine ac ?_|(refine Tr.cn rfl ?_ ?_<;>intro h q)
 have BJ:k=(l).length:=by have:=AH h1;omega
 subst BJ
 refine a3 ?_
 · exact int_eq (GR (p:=fun y=>n==y) AW)
theorem Mf {e:Bs} {id:Int} (hl:e.ids.length≤1000000):BA prog 173 [agg (BV e),int id] (EK [int (FH id e.ids),int (BW id e.ids)]):=by
 refine fo func173 rfl ⟨rfl,rfl⟩ fun M0 w0=> ?_
 refine a3 ?_
 refine Tr.block (Tr.A9 [(1,_),(11,_),(12,_)] (L_ rfl) (fun k:Nat=>[(13,int ((k:Nat):Int)),(6,int (FH id (e.ids.take k))),(7,int (BW id (e.ids.take k)))]) (fun k:Nat=>k≤(e.ids).length) (fun k:Nat=>(e.ids).length-k) 0 (Nat.zero_le _) ⟨ke rfl,⟨_,rfl,int_eq rfl⟩,⟨_,rfl,int_eq rfl⟩,trivial⟩ ?_)
 rintro k BP
 refine ac ?_
 refine Tr.seq ?_
 refine Tr.cn rfl ?_ ?_<;>intro h1 q1
 have Ai:k<(e.ids).length:=AG h1
 obtain ⟨x,Af⟩:=at_ Ai
 have hc:=ZY (id:=id) Af
 have hi:=UR (id:=id) Af
 have Zu:0≤FH id (e.ids.take k)∧FH id (e.ids.take k)≤1000000:=⟨by unfold FH;omega,by have:=lJ (p:=Gd id) (k:=k) hl;unfold FH;omega⟩
 have h0:=US (id:=id) (l:=e.ids.take k)
 refine ac ?_
 refine ao ?_
 refine tp rfl (AA rfl underlying77 FZ (vl rfl) (vl rfl) (by omega) (by exact AP (by assumption))) ?_
 refine tp rfl (AQ rfl TQ FZ (vl rfl) rfl rfl) ?_
 refine Tl rfl rfl rfl rfl U4 U3 (fun b1=> ?_)
 refine tm rfl ?_
 refine sf 0 9 ⟨rfl,rfl,rfl⟩ rfl rfl rfl rfl ?_
 refine ao ?_
 · repeat' first|exact Fin.AL (k+1) ⟨Ai,by omega⟩ ⟨⟨_,rfl,AE k⟩,⟨_,rfl,int_eq (by simp_all)⟩,⟨_,rfl,int_eq (by simp_all)⟩,ke rfl,ke rfl,ke rfl,trivial⟩|refine ac ?_|(refine Tr.cn rfl ?_ ?_<;>intro h q)
 have BJ:k=(e.ids).length:=by have:=AH h1;omega
 subst BJ
 rw [List.take_length]
 refine a2 ?_
 refine Tr.ret (Fin.DG rfl (Bc.DZ _ _) rfl ?_ rfl ?_)
 · exact Lr
 · exact Lr
theorem UT {b:Bool}  :BA prog 184 [bool b] (int (J3 b)):=by
 refine fo func184 rfl ⟨rfl,rfl⟩ fun M0 w0=> ?_
 · repeat' first|exact int_eq (by simp_all [J3])|refine ac ?_|(refine Tr.cn rfl ?_ ?_<;>intro h q)
theorem WK {e:Bs} {k:Int}  :BA prog 172 [agg (BV e),int k] (EK [int (FI e k).1,bool (FI e k).2]):=by
 refine fo func172 rfl ⟨rfl,rfl⟩ fun M0 w0=> ?_
 refine a2 ?_
 refine an ?_ ?_<;>intro h1 q1
 refine ac ?_
 refine Tr.ret (Fin.AX (Fin.AD (Fin.DG rfl (Bc.DZ _ _) rfl ?_ rfl ?_)))
 · exact int_eq (by simp_all [FI])
 · exact bool_eq (by simp_all [FI])
 refine an ?_ ?_<;>intro h2 q2
 refine ac ?_
 refine Tr.ret (Fin.AX (Fin.AD (Fin.DG rfl (Bc.DZ _ _) rfl ?_ rfl ?_)))
 · exact int_eq (by simp_all [FI])
 · exact bool_eq (by simp_all [FI])
 refine an ?_ ?_<;>intro h3 q3
 refine ac ?_
 refine co rfl (Cq (UT) rfl rfl) ?_
 refine ac ?_
 refine Cc 4 5 rfl (Tr.ret (Fin.AX (Fin.AD (Fin.DG rfl (Bc.DZ _ _) rfl ?_ rfl ?_))))
 · exact int_eq (by simp_all [FI])
 · exact bool_eq (by simp_all [FI])
 refine an ?_ ?_<;>intro h4 q4
 refine ac ?_
 refine co rfl (Cq (UT) rfl rfl) ?_
 refine ac ?_
 refine Cc 4 5 rfl (Tr.ret (Fin.AX (Fin.AD (Fin.DG rfl (Bc.DZ _ _) rfl ?_ rfl ?_))))
 · exact int_eq (by simp_all [FI])
 · exact bool_eq (by simp_all [FI])
 refine a2 ?_
 refine Cc 4 5 rfl (Tr.ret (Fin.DG rfl (Bc.DZ _ _) rfl ?_ rfl ?_))
 · exact int_eq (by simp_all [FI])
 · exact bool_eq (by simp_all [FI])
theorem ZZ {c:BQ} (hcs:c.Cw.small):BA prog 169 [agg (Et c)] (bool (decide (Gk c))):=by
 refine fo func169 rfl ⟨rfl,rfl⟩ fun M0 w0=> ?_
 refine ac ?_
 refine ac ?_
 refine co rfl (AR rfl (VV (a:=c.Cw) (b:=Bi) hcs) ⟨ke rfl,⟨_,rfl,Aw ⟨Lr,Lr,Lr,AF 15,trivial⟩⟩,trivial⟩) ?_
 refine ac ?_
 refine ac ?_
 refine ac ?_
 refine Tr.cn rfl ?_ ?_<;>intro h1 q1
 refine ac ?_
 refine ac ?_
 · refine bool_eq ?_;(try simp only [GJ] at*);rw [Bool.eq_iff_iff,decide_eq_true_eq];unfold Gk Oo;simp_all
 refine ac ?_
 refine Tr.cn rfl ?_ ?_<;>intro h2 q2
 refine ac ?_
 refine FX 2 rfl ?_
 refine ac ?_
 · refine bool_eq ?_;(try simp only [GJ] at*);rw [Bool.eq_iff_iff,decide_eq_true_eq];unfold Gk Oo;simp_all
 refine ac ?_
 refine ac ?_
 refine Ch.cs 21 rfl ?_ ?_<;>intro h3 q3
 refine ac ?_
 refine Ch.cs 26 rfl ?_ ?_<;>intro h4 q4
 refine ac ?_
 refine Ch.cs 29 rfl ?_ ?_<;>intro h5 q5
 refine ac ?_
 refine FX 2 rfl ?_
 refine ac ?_
 · refine bool_eq ?_;(try simp only [GJ] at*);rw [Bool.eq_iff_iff,decide_eq_true_eq];unfold Gk Oo;simp_all
 refine ac ?_
 refine FX 2 rfl ?_
 refine ac ?_
 · refine bool_eq ?_;(try simp only [GJ] at*);rw [Bool.eq_iff_iff,decide_eq_true_eq];unfold Gk Oo;simp_all
 refine ac ?_
 refine FX 2 rfl ?_
 refine ac ?_
 · refine bool_eq ?_;(try simp only [GJ] at*);rw [Bool.eq_iff_iff,decide_eq_true_eq];unfold Gk Oo;simp_all;omega
 refine ac ?_
 refine FX 2 rfl ?_
 refine ac ?_
 · refine bool_eq ?_;(try simp only [GJ] at*);rw [Bool.eq_iff_iff,decide_eq_true_eq];unfold Gk Oo;simp_all;omega
theorem UU {e:Bs} {k:Int}  :BA prog 170 [agg (BV e),int k] (EK [ints (DW e k).1,bool (DW e k).2.1,bool (DW e k).2.2]):=by
 refine fo func170 rfl ⟨rfl,rfl⟩ fun M0 w0=> ?_
 refine a2 ?_
 refine an ?_ ?_<;>intro h1 q1
 refine ac ?_
 refine Tr.cond rfl (fun _=> ?_) (fun h=>nomatch h1.symm.trans h)
 refine ac ?_
 refine Cd 4 5 6 rfl (Tr.ret (Fin.AX (Fin.AD (Fin.Hr rfl (Bc.DZ _ _) rfl ?_ rfl ?_ rfl ?_))))
 · exact Pr.le_of_eq (by simp_all [DW])
 · exact bool_eq (by simp_all [DW])
 · exact bool_eq (by simp_all [DW])
 refine an ?_ ?_<;>intro h2 q2
 refine ac ?_
 refine Cd 4 5 6 rfl (Tr.ret (Fin.AX (Fin.AD (Fin.Hr rfl (Bc.DZ _ _) rfl ?_ rfl ?_ rfl ?_))))
 · exact Pr.le_of_eq (by simp_all [DW])
 · exact bool_eq (by simp_all [DW])
 · exact bool_eq (by simp_all [DW])
 refine an ?_ ?_<;>intro h3 q3
 refine ac ?_
 refine Tr.cond rfl (fun _=> ?_) (fun h=>nomatch h3.symm.trans h)
 refine ac ?_
 refine Cd 4 5 6 rfl (Tr.ret (Fin.AX (Fin.AD (Fin.Hr rfl (Bc.DZ _ _) rfl ?_ rfl ?_ rfl ?_))))
 · exact Pr.le_of_eq (by simp_all [DW])
 · exact bool_eq (by simp_all [DW])
 · exact bool_eq (by simp_all [DW])
 refine an ?_ ?_<;>intro h4 q4
 refine ac ?_
 refine Cd 4 5 6 rfl (Tr.ret (Fin.AX (Fin.AD (Fin.Hr rfl (Bc.DZ _ _) rfl ?_ rfl ?_ rfl ?_))))
 · exact Pr.le_of_eq (by simp_all [DW])
 · exact bool_eq (by simp_all [DW])
 · exact bool_eq (by simp_all [DW])
 refine ac ?_
 refine Ef 1 2 7 22 rfl ?_
 refine Tr.cn rfl ?_ ?_<;>intro h5 q5
 refine ac ?_
 refine Tr.cond rfl (fun _=> ?_) (fun h=>nomatch h5.symm.trans h)
 refine ac ?_
 refine Tr.ret (Fin.AX (Fin.AD (Fin.Hr rfl (Bc.DZ _ _) rfl ?_ rfl ?_ rfl ?_)))
 · exact Pr.le_of_eq (by simp_all [DW])
 · exact bool_eq (by simp_all [DW])
 · exact bool_eq (by simp_all [DW])
 refine an ?_ ?_<;>intro h6 q6
 refine ac ?_
 refine Tr.ret (Fin.AX (Fin.AD (Fin.Hr rfl (Bc.DZ _ _) rfl ?_ rfl ?_ rfl ?_)))
 · exact Pr.le_of_eq (by simp_all [DW])
 · exact bool_eq (by simp_all [DW])
 · exact bool_eq (by simp_all [DW])
 refine a2 ?_
 refine Tr.ret (Fin.Hr rfl (Bc.DZ _ _) rfl ?_ rfl ?_ rfl ?_)
 · exact Pr.le_trans (AF 1) (Pr.le_of_eq (by rw [show (DW e k).1=[] by simp_all [DW]];rfl))
 · exact bool_eq (by simp_all [DW])
 · exact bool_eq (by simp_all [DW])
theorem Mg {l:List Int} {i:Nat} {n:Int} (hi:i≤l.length) (hl:l.length≤1000000):BA prog 174 [ints l,int ((i:Nat):Int),int n] (ints (l.take i++[n]++l.drop i)):=by
 refine fo func174 rfl ⟨rfl,rfl⟩ fun M0 w0=> ?_
 have hml:(l.map fun n:Int=>[int n]).length=l.length:=List.length_map _
 refine ac ?_
 refine ap ?_
 refine tp rfl (DU rfl underlying22 B4 (vl rfl) (vl rfl) (by omega) (by omega)) (TO.pad ?_)
 refine TO.Dh 0 rfl rfl (by decide) (D7 rfl rfl (by decide) rfl underlying22 B4 Jf z3 rfl (by decide) ⟨_,rfl,AF _⟩ (vl rfl) (by simp only [List.length_map,List.length_append,List.length_cons,List.length_nil,List.length_take,List.length_drop];unfold maxLen;omega) (by simp only [List.length_map,List.length_append,List.length_cons,List.length_nil,List.length_take,List.length_drop];omega) (Bh (by exact List.Mem.head _) ⟨_,rfl,EN 1⟩)) (fun v1=> ?_)
 refine ap ?_
 refine ap ?_
 refine TO.Dh 0 rfl rfl (by decide) (Bt rfl rfl rfl rfl underlying22 B4 Jf z3 (Kb rfl) (Kf rfl) (Au (by exact List.Mem.head _) (Ka rfl))) (fun v2=> ?_)
 refine ap ?_
 refine ap ?_
 refine tp rfl (DM rfl underlying22 B4 (vl rfl) (vl rfl) (by omega) (by omega)) ?_
 refine TO.Dh 0 rfl rfl (by decide) (Bt rfl rfl rfl rfl underlying22 B4 Jf z3 (Kb rfl) (vl rfl) (Au (by exact List.Mem.head _) (Ka rfl))) (fun v3=> ?_)
 refine ap ?_
 refine FX 6 rfl ?_
 refine ac ?_
 · exact Pr.le_trans (Ak _ _) (Pr.le_of_eq (by show _=slice 1 ((l.take i++[n]++l.drop i).map fun n=>[int n]);simp [List.map_take,List.map_drop]))
theorem IU {l:List Int} {i:Nat} (hi:i<l.length) (hl:l.length≤1000000):BA prog 175 [ints l,int ((i:Nat):Int)] (ints (l.eraseIdx i)):=by
 refine fo func175 rfl ⟨rfl,rfl⟩ fun M0 w0=> ?_
 have hml:(l.map fun n:Int=>[int n]).length=l.length:=List.length_map _
 refine ac ?_
 refine ap ?_
 refine tp rfl (DU rfl underlying22 B4 (vl rfl) (vl rfl) (by omega) (by omega)) (TO.pad ?_)
 refine TO.Dh 0 rfl rfl (by decide) (D7 rfl rfl (by decide) rfl underlying22 B4 Jf z3 rfl (by decide) ⟨_,rfl,AF _⟩ (vl rfl) (by simp only [List.length_map,List.length_append,List.length_cons,List.length_nil,List.length_take,List.length_drop];unfold maxLen;omega) (by simp only [List.length_map,List.length_append,List.length_cons,List.length_nil,List.length_take,List.length_drop];omega) (Bh (by exact List.Mem.head _) ⟨_,rfl,EN 1⟩)) (fun v1=> ?_)
 refine ap ?_
 refine ap ?_
 refine tp rfl (DM rfl underlying22 B4 (vl rfl) (vl rfl) (by omega) (by omega)) ?_
 refine TO.Dh 0 rfl rfl (by decide) (Bt rfl rfl rfl rfl underlying22 B4 Jf z3 (Kb rfl) (vl rfl) (Au (by exact List.Mem.head _) (Ka rfl))) (fun v2=> ?_)
 refine ap ?_
 refine ac ?_
 · exact Pr.le_trans (Ak _ _) (Pr.le_of_eq (by rw [List.eraseIdx_eq_take_drop_succ];show _=slice 1 ((l.take i++l.drop (i+1)).map fun n=>[int n]);simp [List.map_take,List.map_drop,show (((i:Nat):Int)+1).toNat=i+1 by omega]))
theorem NJ {l:List Int} {n:Int} (hl:l.length≤1000000):BA prog 176 [ints l,int n] (ints (VK l n)):=by
 refine fo func176 rfl ⟨rfl,rfl⟩ fun M0 w0=>(Tr.Cv 0 rfl fun Ew=> ?_)
 refine a2 ?_
 refine Tr.seq (Tr.block (Tr.A9 [(0,_),(1,_)] (Qj rfl) (fun k:Nat=>[(5,int ((k:Nat):Int))]) (fun k:Nat=>k≤l.length∧(∀j y,j<k→l[j]? =some y→y<n)) (fun k:Nat=>l.length-k) 0 (⟨Nat.zero_le _,fun j y hj=>absurd hj (by omega)⟩) ⟨ke rfl,trivial⟩ ?_))
 rintro k ⟨BP,hinv⟩
 refine ag ?_ ?_<;>intro h1 q1
 obtain ⟨x,hx⟩:=at_ (l:=l) (k:=k) (by omega)
 refine ac ?_
 refine cy h1 rfl (AA rfl underlying22 B4 (vl rfl) (vl rfl) (by omega) (AP hx)) ?_
 refine ac ?_
 refine Ef 0 1 5 17 rfl ?_
 refine Tr.cn rfl ?_ ?_<;>intro h2 q2
 have hq:=h2
 refine a2 ?_
 exact Fin.AL (k+1) ⟨⟨by omega,bsX hinv hx (by simpa using hq)⟩,by omega⟩ ⟨⟨_,rfl,AE k⟩,ke rfl,ke rfl,trivial⟩
 have hp:Eg l n=k:=SC BP hinv (fun y hy=>by have h_:=h2;rw [hx] at hy;cases hy;simpa using h_)
 refine a2 ?_
 refine co rfl (AR rfl (Mg (l:=l) (i:=Eg l n) (W7 _ _) hl) ⟨ke rfl,⟨_,rfl,int_eq (by omega)⟩,ke rfl,trivial⟩) ?_
 refine a2 ?_
 · exact Lr
 have hp:Eg l n=k:=SC BP hinv (fun y hy=>by have:=BD hy;have:=q1;omega)
 refine ac ?_
 refine Ef 0 1 5 17 rfl ?_
 refine a2 ?_
 refine co rfl (AR rfl (Mg (l:=l) (i:=Eg l n) (W7 _ _) hl) ⟨ke rfl,⟨_,rfl,int_eq (by omega)⟩,ke rfl,trivial⟩) ?_
 refine a2 ?_
 · exact Lr
def K2 (e:Bs) (c:BQ):Int:=
 if Fz e=false then 19 else if ¬Gk c then 40
 else if c.kind=1∧(c.at_<0∨(e.Ap.length:Int)<c.at_) then 2
 else if c.kind=5∧(c.at_<0∨(e.ids.length:Int)<c.at_) then 2
 else if (c.kind=11∨c.kind=12)∧(c.number≠0∧c.number≠1) then 2
 else if (DW e c.kind).2.2=true∧decide (0≤idx (fun y=>c.number==y) (DW e c.kind).1)=(DW e c.kind).2.1 then 41
 else if (FI e c.kind).2=true∧(FI e c.kind).1=c.number then 41
 else if c.kind=5∧0<FH c.Cw.CG e.ids then 41
 else if c.kind=6∧FH c.number e.ids=0 then 41
 else if c.kind=6∧1<FH c.number e.ids then 5 else 0
theorem Sq {l:List Int} (hs:jV l) {n:Int}:idx (fun y=>n==y) l=if FG l n=true then ((Eg l n:Nat):Int) else -1:=by
 by_cases h:FG l n=true
 ·
  rw [if_pos h]
  obtain ⟨y,hy⟩:=at_ (SE h)
  have hyn:y=n:=by have h2:=W9 rfl hy;rw [h] at h2;simpa using h2.symm
  exact (D8 (p:=fun y=>n==y) hy (by simp [hyn]) (fun j z hj hz=>by have:=SD hj hz;simp;omega)).symm
 ·
  rw [if_neg h]
  refine (GR (p:=fun y=>n==y) (fun j z hj hz=> ?_)).symm
  simp only [beq_eq_false_iff_ne,ne_eq]
  intro hn;subst hn
  rcases Nat.lt_trichotomy j (Eg l n) with h1|h1|h1
  · have:=SD h1 hz;omega
  · subst h1;exact h (by rw [W9 rfl hz];simp)
  ·
   obtain ⟨y,hy⟩:=at_ (l:=l) (k:=Eg l n) (by have:=BD hz;omega)
   have h2:=W8 hy
   have h3:=jW hs h1 hy hz
   omega
theorem lK {l:List It} {n:Int} {x:It} (h0:¬BW n l<0) (hx:l[(BW n l).toNat]? =some x):(1<FH n l)↔((l.drop (BW n l+1).toNat).any fun x=>x.CG==n)=true:=by
 obtain ⟨y,hy,hp,hlt⟩:=Nf (p:=Gd n) (l:=l) (by rw [←Fl];omega)
 rw [←Fl] at hy hlt
 have hsplit:l=l.take (BW n l).toNat++y::l.drop ((BW n l).toNat+1):=by
  rw [List.getElem?_eq_getElem hlt] at hy;cases hy
  rw [List.getElem_cons_drop];exact (List.take_append_drop _ _).symm
 have h1:(l.take (BW n l).toNat).countP (Gd n)=0:=by
  refine Lw.1 (Int.not_le.1 fun h2=> ?_)
  obtain ⟨z,hz,hzp,hzl⟩:=Nf h2
  have e1:BW n l=idx (Gd n) (l.take (BW n l).toNat):=by
   obtain ⟨i,hi⟩:∃i:Nat,idx (Gd n) (l.take (BW n l).toNat)=(i:Int):=⟨_,(Int.toNat_of_nonneg h2).symm⟩
   have h3:((l.take (BW n l).toNat).findIdx? (Gd n))=some i:=by
    unfold idx at hi;cases h4:(l.take (BW n l).toNat).findIdx? (Gd n) with
    |none=>rw [h4] at hi;simp at hi
    |some k=>rw [h4] at hi;rw [show k=i by simp at hi;omega]
   have h5:l.findIdx? (Gd n)=some i:=by
    rw [←List.take_append_drop (BW n l).toNat l,List.findIdx?_append,h3];rfl
   have e2:idx (Gd n) l=(i:Int):=by unfold idx;rw [h5]
   exact e2.trans hi.symm
  rw [←e1] at hzl;rw [List.length_take] at hzl;omega
 have h2:l.countP (Gd n)=1+(l.drop ((BW n l).toNat+1)).countP (Gd n):=by
  conv=>lhs;rw [hsplit]
  rw [List.countP_append,h1,List.countP_cons,hp];simp;omega
 unfold FH;rw [h2,show (BW n l+1).toNat=(BW n l).toNat+1 by omega]
 show _↔(List.any _ (Gd n))=true
 rw [List.any_eq_true,←List.countP_pos_iff];omega
theorem lM {l:List Int} {n:Int}:decide (0≤idx (fun y=>n==y) l)=l.any fun y=>n==y:=Wx _ _
theorem N7 {l:List Int} (hs:jV l) {n:Int}:decide (0≤idx (fun y=>n==y) l)=FG l n:=by
 rw [Sq hs];cases FG l n<;>simp
theorem UW {e:Bs} {c:BQ} (hce:Fz e=true) (hc:Gk c):K2 e c=match Br e c with| .error f=>f| .ok _=>0:=by
 have ok:=CA.1 hce
 have ha:=Nh ok.anc;have hh:=Nh ok.hash
 have hk:=hc.1
 unfold K2
 rw [if_neg (by rw [hce];decide),if_neg (not_not_intro hc)]
 have h0:c.kind=1∨c.kind=2∨c.kind=3∨c.kind=4∨c.kind=5∨c.kind=6∨c.kind=7∨c.kind=8∨c.kind=9∨c.kind=10∨c.kind=11∨c.kind=12:=by omega
 rcases h0 with h|h|h|h|h|h|h|h|h|h|h|h
 ·
  rw [Ni h];unfold DW FI;simp only [h]
  by_cases h1:c.at_<0∨(e.Ap.length:Int)<c.at_
  ·
   have h2:¬(0≤c.at_∧c.at_≤(e.Ap.length:Int)):=by omega
   simp [h1,h2]
  ·
   have h2:0≤c.at_∧c.at_≤(e.Ap.length:Int):=by omega
   have h3:=lM (l:=e.Ap) (n:=c.number)
   have h4:(0≤idx (fun y=>c.number==y) e.Ap)↔(e.Ap.any fun y=>c.number==y)=true:=by rw [←h3,decide_eq_true_eq]
   by_cases h5:(e.Ap.any fun y=>c.number==y)=true
   · have h6:=h4.2 h5;simp only [h5];simp [h1,h2,h6]
   ·
    have h6:¬0≤idx (fun y=>c.number==y) e.Ap:=fun h=>h5 (h4.1 h)
    simp only [h5];simp [h1,h2,h6]
 ·
  rw [Nj h];unfold DW FI LX;simp only [h]
  by_cases h1:idx (fun y=>c.number==y) e.Ap<0
  · simp [h1]
  · simp [h1]
 · rw [Nk h];unfold DW FI;simp only [h];by_cases h1:e.most=c.number<;>simp [h1]
 · rw [Nl h];unfold DW FI;simp only [h];by_cases h1:e.least=c.number<;>simp [h1]
 ·
  rw [Nn h];unfold DW FI;simp only [h]
  have j8:=Lw (p:=Gd c.Cw.CG) (l:=e.ids)
  rw [←Fl] at j8
  by_cases h1:c.at_<0∨(e.ids.length:Int)<c.at_
  ·
   have h2:¬(0≤c.at_∧c.at_≤(e.ids.length:Int)):=by omega
   simp [h1,h2]
  ·
   have h3:0≤c.at_∧c.at_≤(e.ids.length:Int):=by omega
   by_cases h2:0≤BW c.Cw.CG e.ids
   ·
    have:0<FH c.Cw.CG e.ids:=by unfold FH;omega
    simp [h1,h2,h3,this]
   ·
    have:¬0<FH c.Cw.CG e.ids:=by unfold FH;omega
    simp [h1,h2,h3,this]
 ·
  rw [Np h];unfold DW FI;simp only [h]
  have j8:=Lw (p:=Gd c.number) (l:=e.ids)
  rw [←Fl] at j8
  by_cases h2:BW c.number e.ids<0
  ·
   have:FH c.number e.ids=0:=by unfold FH;omega
   cases e.ids[(BW c.number e.ids).toNat]? <;>simp [h2,this]
  ·
   have h3:¬FH c.number e.ids=0:=by unfold FH;omega
   obtain ⟨x,hx,_,_⟩:=Nf (p:=fun x:It=>x.CG==c.number) (l:=e.ids) (by unfold BW at h2;omega)
   have hx:e.ids[(BW c.number e.ids).toNat]? =some x:=hx
   have hd:=lK h2 hx
   rw [hx];simp only [if_neg h2]
   by_cases h4:((e.ids.drop (BW c.number e.ids+1).toNat).any fun x=>x.CG==c.number)=true
   · have:=hd.2 h4;simp only [h4];simp [h3,this]
   ·
    have:¬1<FH c.number e.ids:=fun h5=>h4 (hd.1 h5)
    simp only [h4];simp [h3,this]
 ·
  rw [Nq h];unfold DW FI;simp only [h]
  have h1:(0≤idx (fun y=>c.number==y) e.anchors)↔FG e.anchors c.number=true:=by rw [←N7 ha,decide_eq_true_eq]
  by_cases h2:FG e.anchors c.number=true
  · have h3:=h1.2 h2;simp [h2,h3]
  ·
   have h3:¬0≤idx (fun y=>c.number==y) e.anchors:=fun h=>h2 (h1.1 h)
   simp [h2,h3]
 ·
  rw [Nr h];unfold DW FI;simp only [h]
  have h1:(0≤idx (fun y=>c.number==y) e.anchors)↔FG e.anchors c.number=true:=by rw [←N7 ha,decide_eq_true_eq]
  by_cases h2:FG e.anchors c.number=true
  · have h3:=h1.2 h2;simp [h2,h3]
  ·
   have h3:¬0≤idx (fun y=>c.number==y) e.anchors:=fun h=>h2 (h1.1 h)
   simp [h2,h3]
 ·
  rw [Ns h];unfold DW FI;simp only [h]
  have h1:(0≤idx (fun y=>c.number==y) e.hashes)↔FG e.hashes c.number=true:=by rw [←N7 hh,decide_eq_true_eq]
  by_cases h2:FG e.hashes c.number=true
  · have h3:=h1.2 h2;simp [h2,h3]
  ·
   have h3:¬0≤idx (fun y=>c.number==y) e.hashes:=fun h=>h2 (h1.1 h)
   simp [h2,h3]
 ·
  rw [LY h];unfold DW FI;simp only [h]
  have h1:(0≤idx (fun y=>c.number==y) e.hashes)↔FG e.hashes c.number=true:=by rw [←N7 hh,decide_eq_true_eq]
  by_cases h2:FG e.hashes c.number=true
  · have h3:=h1.2 h2;simp [h2,h3]
  ·
   have h3:¬0≤idx (fun y=>c.number==y) e.hashes:=fun h=>h2 (h1.1 h)
   simp [h2,h3]
 ·
  rw [LZ h];unfold DW FI;simp only [h]
  by_cases h1:0≤c.number∧c.number≤1
  ·
   have:¬(c.number≠0∧c.number≠1):=by omega
   by_cases h2:J3 e.LV=c.number<;>simp [this,h1,h2]
  ·
   have:c.number≠0∧c.number≠1:=by omega
   simp [this,h1]
 ·
  rw [La h];unfold DW FI;simp only [h]
  by_cases h1:0≤c.number∧c.number≤1
  ·
   have:¬(c.number≠0∧c.number≠1):=by omega
   by_cases h2:J3 e.own=c.number<;>simp [this,h1,h2]
  ·
   have:c.number≠0∧c.number≠1:=by omega
   simp [this,h1]
theorem lN {e:Bs} {c:BQ} (h:K2 e c≠0):Dl e c=(Dv,G3,K2 e c):=by
 by_cases hce:Fz e=false
 ·
  have:K2 e c=19:=by unfold K2;rw [if_pos hce]
  rw [this];unfold Dl;rw [if_pos hce]
 ·
  by_cases hc:Gk c
  ·
   have hce:Fz e=true:=by simpa using hce
   have hs:=UW hce hc
   cases h2:Br e c with
   |error f=>rw [h2] at hs;rw [Ye hce hc h2,show K2 e c=f from hs]
   |ok r=>rw [h2] at hs;exact absurd hs h
  ·
   have:K2 e c=40:=by unfold K2;rw [if_neg hce,if_pos hc]
   rw [this];unfold Dl;rw [if_neg hce,if_pos hc]
theorem rJ {e:Bs} {c:BQ} (h:K2 e c=0):Fz e=true∧Gk c∧∃e2 b,Br e c= .ok (e2,b):=by
 by_cases hce:Fz e=false
 ·
  have:K2 e c=19:=by unfold K2;rw [if_pos hce]
  rw [this] at h;cases h
 ·
  by_cases hc:Gk c
  ·
   have hce:Fz e=true:=by simpa using hce
   have hs:=UW hce hc
   cases h2:Br e c with
   |error f=>
    rw [h2] at hs;rw [h] at hs
    have h3:(0:Int)=f:=hs
    have:=Tu hc h2;omega
   |ok r=>exact ⟨hce,hc,r.1,r.2,rfl⟩
  ·
   have:K2 e c=40:=by unfold K2;rw [if_neg hce,if_pos hc]
   rw [this] at h;cases h
theorem Pk {β γ:Type} {f:β→γ} {l:List β} {k:Nat} {x:β} (h:l[k]? =some x):(l.take k).map f++[f x]=(l.take (k+1)).map f:=by rw [List.take_add_one,h,List.map_append];rfl
theorem Kv {x:It} (hx:x.small):BA prog 131 [agg (HX x)] (agg (HX x)):=by
 refine fo func131 rfl ⟨rfl,rfl⟩ fun M0 w0=> ?_
 have hch:=hx.chain
 refine Tr.seq (Tr.An (tp rfl (Bb rfl (Va rfl)) ?_))
 refine Tl rfl rfl rfl rfl U4 U3 (fun b1=> ?_)
 refine ap ?_
 refine ap ?_
 refine Tl rfl rfl rfl rfl U4 U3 (fun b2=> ?_)
 refine ap ?_
 refine ac ?_
 refine KP 2 3 12 13 14 rfl (Tr.block (Tr.Hl 0 [int x.Bw,int x.bits,int x.CG,Ag (.slice none 0 0) (slice 15 ((x.chain.take 0).map FN))] rfl ⟨Lr,Lr,Lr,Bf rfl,trivial⟩ (Tr.B0 126 15 (Tr.E8 [(2,_),(3,_),(12,_),(13,_)] ⟨ke rfl,ke rfl,ke rfl,ke rfl,trivial⟩ (fun k v=>[(14,int ((k:Nat):Int))]) (fun k v=>Hp M0 w0 FR ([Aq 126 15 v,AB true b2 84 [int x.Bw,int x.bits,int x.CG,Ag v (slice 15 ((x.chain.take k).map FN))],AB true b1 84 (([.int .i64 0,.int .i64 0,.int .i64 0,.slice none 0 0]:List Value).map is)])) (fun k:Nat=>k≤(x.chain).length) (fun k:Nat=>(x.chain).length-k) 0 (.slice none 0 0) (Nat.zero_le _) ⟨ke rfl,trivial⟩ (fun _ _ h=>h) ?_))))
 rintro k v BP
 refine ac ?_
 refine Tr.seq ?_
 refine Tr.cn rfl ?_ ?_<;>intro h1 q1
 have Ai:k<(x.chain).length:=AG h1
 obtain ⟨c,Af⟩:=at_ Ai
 have hcn:=hx.names c (List.mem_of_getElem? Af)
 refine ac ?_
 refine Tr.seq (Tr.block (Tr.seq (Tr.An (tp rfl (AA rfl underlying82 EH (vl rfl) (vl rfl) (by omega) (by exact AP (by assumption))) ?_))))
 refine tp rfl (AQ rfl HD EH (vl rfl) rfl rfl) ?_
 refine Tl rfl rfl rfl rfl U7 OV (fun b3=> ?_)
 refine ap ?_
 refine ap ?_
 refine tp rfl (IB rfl underlying75 NO by9 z9 rfl (by decide) (vl rfl) (by simp only [List.length_map];unfold maxLen;omega) (by simp only [List.length_map];omega)) ?_
 refine ap ?_
 refine K0 2 3 5 12 13 14 rfl ?_
 refine ap ?_
 refine TO.Dh 1 rfl rfl (by decide) (Bt rfl rfl rfl rfl underlying82 EH tv U7 (Kb rfl) (Kf rfl) (Au (by exact List.Mem.head _) (Ka rfl))) (fun v1=> ?_)
 refine ap ?_
 refine Tr.drop 0 ?_
 refine ac ?_
 refine Fin.Hl 1 [int x.Bw,int x.bits,int x.CG,Ag v1 (slice 15 ((x.chain.take (k+1)).map FN))] rfl ⟨Lr,Lr,Lr,A7 (Pk (f:=FN) Af),trivial⟩ (Fin.Da (k+1) v1 (⟨Ai,by omega⟩) ⟨⟨_,rfl,AE k⟩,ke rfl,ke rfl,ke rfl,ke rfl,trivial⟩ (fun _ _ h=>h))
 have BJ:k=(x.chain).length:=by have:=AH h1;omega
 subst BJ
 refine ac ?_
 refine ap ?_
 refine Tr.ret (Fin.CS rfl (AO.cell 2 rfl rfl TQ FZ rfl (Lr)) ?_)
 · exact Aw ⟨Lr,Lr,Lr,Pr.le_trans (Ak _ _) (Pr.le_of_eq (by rw [List.take_length])),trivial⟩
theorem WL {c:BQ} (hx:c.Cw.small):BA prog 102 [agg (Et c)] (agg (Et c)):=by
 refine fo func102 rfl ⟨rfl,rfl⟩ fun M0 w0=>(Tr.seq (Tr.An ?_))
 refine TO.aH rfl rfl (by decide) rfl (Va rfl) (fun b1=> ?_)
 refine Tl rfl rfl rfl rfl QB LL (fun b2=> ?_)
 refine ap ?_
 refine ap ?_
 refine tp rfl (Cq (Kv (x:=c.Cw) hx) rfl rfl) ?_
 refine ap ?_
 refine ap ?_
 refine Tr.drop 1 (Tr.ret (Fin.CS rfl (AO.cell 0 rfl rfl Ib Di rfl (Lr)) ?_))
 · exact Lr
theorem RP {e:Bs} (K8:e.small):BA prog 154 [agg (BV e)] (agg (BV e)):=by
 refine fo func154 rfl ⟨rfl,rfl⟩ fun M0 w0=> ?_
 have hs1:=K8.Ap
 have R9:=K8.anchors
 have hs3:=K8.hashes
 have hs4:=K8.Qx
 refine Tr.seq (Tr.An (tp rfl (Bb rfl (Va rfl)) ?_))
 refine Tl rfl rfl rfl rfl QA Hx (fun b1=> ?_)
 refine ao ?_
 refine ao ?_
 refine Tl rfl rfl rfl rfl QA Hx (fun b2=> ?_)
 refine TO.AK 0 rfl rfl rfl (vl rfl) (Va rfl) rfl B_ rfl rfl ?_
 refine ao ?_
 refine Tr.seq (Tr.rx ?_)
 refine ax ?_
 refine xo rfl (fun _=>IB rfl underlying22 B4 Jf z3 rfl (by decide) (vl rfl) (by simp only [List.length_map];unfold maxLen;omega) (by simp only [List.length_map];omega)) ?_
 refine ax ?_
 refine xo rfl (fun _=>IB rfl underlying22 B4 Jf z3 rfl (by decide) (vl rfl) (by simp only [List.length_map];unfold maxLen;omega) (by simp only [List.length_map];omega)) ?_
 refine ax ?_
 refine xo rfl (fun _=>IB rfl underlying22 B4 Jf z3 rfl (by decide) (vl rfl) (by simp only [List.length_map];unfold maxLen;omega) (by simp only [List.length_map];omega)) ?_
 refine xo rfl (fun _=>Ac rfl MG (vl rfl)) (Cx.Dz 0 rfl rfl (A0 rfl rfl (vl rfl) (Vo rfl) MC rfl (by exact Nb rfl) rfl) (xo rfl (fun _=>Ac rfl aj (vl rfl)) (Cx.Dz 0 rfl rfl (A0 rfl rfl (vl rfl) (Vo rfl) MC rfl (by exact Nb rfl) rfl) (xo rfl (fun _=>Ac rfl ak (vl rfl)) (Cx.Dz 0 rfl rfl (A0 rfl rfl (vl rfl) (Vo rfl) MC rfl (by exact Nb rfl) rfl) ?_)))))
 refine Cx.nil ⟨by kernel_rfl,?_⟩
 refine BH.done YY (Fin.go (Cd 1 2 3 rfl ?_))
 refine ao ?_
 refine TO.Dz 0 rfl rfl (A0 rfl rfl (vl rfl) (Vo rfl) af rfl (by exact Nb rfl) rfl) ?_
 refine ao ?_
 refine ac ?_
 refine Tr.block (Tr.Hl 0 [str e.name,int e.least,int e.most,ints e.Ap,bool e.own,Ag (.slice none 0 0) (slice 4 ((e.ids.take 0).map HX)),ints e.anchors,ints e.hashes,bool e.LV] rfl ⟨Lr,Lr,Lr,Lr,Lr,Bf rfl,Lr,Lr,Lr,trivial⟩ (Tr.B0 84 4 (Tr.E8 [(2,_),(3,_),(21,_),(22,_)] ⟨ke rfl,ke rfl,ke rfl,ke rfl,trivial⟩ (fun k v=>[(23,int ((k:Nat):Int))]) (fun k v=>Hp M0 w0 FR ([Aq 84 4 v,AB true b2 79 [str e.name,int e.least,int e.most,ints e.Ap,bool e.own,Ag v (slice 4 ((e.ids.take k).map HX)),ints e.anchors,ints e.hashes,bool e.LV],AB true b1 79 (([.string (ByteArray.mk #[]),.int .i64 0,.int .i64 0,.slice none 0 0,.bool false,.slice none 0 0,.slice none 0 0,.slice none 0 0,.bool false]:List Value).map is)])) (fun k:Nat=>k≤(e.ids).length) (fun k:Nat=>(e.ids).length-k) 0 (.slice none 0 0) (Nat.zero_le _) ⟨ke rfl,trivial⟩ (fun _ _ h=>h) ?_)))
 rintro k v BP
 refine ac ?_
 refine Tr.seq ?_
 refine Tr.cn rfl ?_ ?_<;>intro h1 q1
 have Ai:k<(e.ids).length:=AG h1
 obtain ⟨x,Af⟩:=at_ Ai
 have hxs:=K8.ids x (List.mem_of_getElem? Af)
 refine ac ?_
 refine Tr.seq (Tr.block (Tr.seq (Tr.An (tp rfl (AA rfl underlying77 FZ (vl rfl) (vl rfl) (by omega) (by exact AP (by assumption))) ?_))))
 refine tp rfl (AQ rfl TQ FZ (vl rfl) rfl rfl) ?_
 refine Tl rfl rfl rfl rfl U4 U3 (fun b3=> ?_)
 refine sf 0 5 ⟨rfl,rfl,rfl⟩ rfl rfl rfl rfl ?_
 refine ao ?_
 refine Tr.pad (Tr.rx ?_)
 refine ax ?_
 refine xo rfl (fun _=>Cq (Kv hxs) rfl rfl) (xo rfl (fun _=>AM (xs:=[.tmp 30]) (rows:=[_]) rfl rfl underlying77 FZ U4 rfl (by decide) ⟨⟨(by exact rfl),(Va rfl)⟩,trivial⟩ (by decide)) ?_)
 refine Cx.ef 1 rfl rfl (by decide) (Bt rfl rfl rfl rfl underlying77 FZ YT U4 (Kb rfl) (Kf rfl) (Au (by exact List.Mem.head _) (Ka rfl))) ?_
 refine xo rfl (fun _=>Ac rfl OS (vl rfl)) (Cx.Dz 2 rfl rfl (GH rfl rfl rfl (vl rfl) rfl af (by exact Nb rfl)) ?_)
 refine Cx.nil ⟨by kernel_rfl,?_⟩
 refine BH.Ql 1 2 32 rfl rfl (by decide) rfl (fun v1=> ?_)
 refine BH.done al4 ?_
 refine ac ?_
 refine Tr.drop 0 (KP 2 3 21 22 23 rfl ?_)
 refine ac ?_
 refine Fin.Hl 1 [str e.name,int e.least,int e.most,ints e.Ap,bool e.own,Ag v1 (slice 4 ((e.ids.take (k+1)).map HX)),ints e.anchors,ints e.hashes,bool e.LV] rfl ⟨Lr,Lr,Lr,Lr,Lr,A7 (Pk (f:=HX) Af),Lr,Lr,Lr,trivial⟩ (Fin.Da (k+1) v1 (⟨Ai,by omega⟩) ⟨⟨_,rfl,AE k⟩,ke rfl,ke rfl,ke rfl,ke rfl,trivial⟩ (fun _ _ h=>h))
 have BJ:k=(e.ids).length:=by have:=AH h1;omega
 subst BJ
 refine ac ?_
 refine ao ?_
 refine TO.AK 2 rfl rfl rfl (vl rfl) (Va rfl) rfl B_ rfl rfl ?_
 refine ao ?_
 refine Tr.ret (Fin.CS rfl (AO.cell 2 rfl rfl Cg B_ rfl (Lr)) ?_)
 · exact Aw ⟨Lr,Lr,Lr,Lr,Lr,Pr.le_trans (Ak _ _) (Pr.le_of_eq (by rw [List.take_length])),Lr,Lr,Lr,trivial⟩
theorem Sr {e:Bs} {c:BQ} (K8:e.small) (hcs:c.Cw.small):BA prog 161 [agg (BV e),agg (Et c)] (int (K2 e c)):=by
 refine fo func161 rfl ⟨rfl,rfl⟩ fun M0 w0=> ?_
 refine ac ?_
 refine ac ?_
 refine co rfl (Cq (Ez K8) rfl rfl) ?_
 refine ac ?_
 refine Tr.cn rfl ?_ ?_<;>intro h1 q1
 refine ac ?_
 refine ac ?_
 · refine int_eq ?_;unfold K2;repeat (refine (if_pos ?_).symm;simp_all)
 refine ac ?_
 refine ac ?_
 refine co rfl (Cq (ZZ (c:=c) hcs) rfl rfl) ?_
 refine ac ?_
 refine Tr.cn rfl ?_ ?_<;>intro h2 q2
 refine ac ?_
 refine ac ?_
 · refine int_eq ?_;unfold K2;repeat (first|(refine (if_pos ?_).symm;omega)|(refine Eq.trans ?_ (if_neg ?_).symm;rotate_left;focus (simp_all;done)))
 refine ac ?_
 refine Cc 2 3 rfl (Tr.S7 [2,3] [] (¬(c.kind=1∧(c.at_<0∨(e.Ap.length:Int)<c.at_))∧¬(c.kind=5∧(c.at_<0∨(e.ids.length:Int)<c.at_))∧¬((c.kind=11∨c.kind=12)∧(c.number≠0∧c.number≠1))) ?_ (fun ACK=> ?_))
 refine ac ?_
 refine ac ?_
 refine Tr.cn rfl ?_ ?_<;>intro h4 q4
 refine ac ?_
 refine Ch.cs 27 rfl ?_ ?_<;>intro h5 q5
 refine ac ?_
 refine Cd 2 3 34 rfl ?_
 refine ac ?_
 refine ac ?_
 · refine int_eq ?_;unfold K2;repeat (first|(refine (if_pos ?_).symm;omega)|(refine Eq.trans ?_ (if_neg ?_).symm;rotate_left;focus (simp_all;done)))
 refine ac ?_
 refine Cd 2 3 34 rfl ?_
 refine Tr.cn rfl ?_ ?_<;>intro h6 q6
 refine ac ?_
 refine ac ?_
 · refine int_eq ?_;unfold K2;repeat (first|(refine (if_pos ?_).symm;omega)|(refine Eq.trans ?_ (if_neg ?_).symm;rotate_left;focus (simp_all;done)))
 refine Tr.skip (Fin.block (Fin.AL () (by omega) (Qj rfl)))
 refine ac ?_
 refine Tr.cn rfl ?_ ?_<;>intro h7 q7
 refine ac ?_
 refine Ch.cs 40 rfl ?_ ?_<;>intro h8 q8
 refine ac ?_
 refine Cd 2 3 47 rfl ?_
 refine ac ?_
 refine ac ?_
 · refine int_eq ?_;unfold K2;repeat (first|(refine Eq.trans ?_ (if_neg ?_).symm;rotate_left;focus (omega))|(refine (if_pos ?_).symm;omega)|(refine Eq.trans ?_ (if_neg ?_).symm;rotate_left;focus (simp_all;done)))
 refine ac ?_
 refine Cd 2 3 47 rfl ?_
 refine Tr.cn rfl ?_ ?_<;>intro h9 q9
 refine ac ?_
 refine ac ?_
 · refine int_eq ?_;unfold K2;repeat (first|(refine Eq.trans ?_ (if_neg ?_).symm;rotate_left;focus (omega))|(refine (if_pos ?_).symm;omega)|(refine Eq.trans ?_ (if_neg ?_).symm;rotate_left;focus (simp_all;done)))
 refine Tr.skip (Fin.block (Fin.AL () (by omega) (Qj rfl)))
 refine ac ?_
 refine Tr.cn rfl ?_ ?_<;>intro h10 QH
 refine ac ?_
 refine Tr.cond rfl (fun _=> ?_) (fun h=>nomatch h10.symm.trans h)
 refine ac ?_
 refine Ch.cs 54 rfl ?_ ?_<;>intro h11 QG
 refine ac ?_
 refine Cd 2 3 58 rfl ?_
 refine Tr.cn rfl ?_ ?_<;>intro h12 Ul
 refine ac ?_
 refine ac ?_
 · refine int_eq ?_;unfold K2;repeat (first|(refine Eq.trans ?_ (if_neg ?_).symm;rotate_left;focus (omega))|(refine (if_pos ?_).symm;omega)|(refine Eq.trans ?_ (if_neg ?_).symm;rotate_left;focus (simp_all;done)))
 refine Tr.skip (Fin.block (Fin.AL () (by omega) (Qj rfl)))
 refine ac ?_
 refine Cd 2 3 58 rfl (Tr.cond rfl (fun h=>nomatch h) (fun _=> ?_))
 refine Tr.skip (Fin.block (Fin.AL () (by omega) (Qj rfl)))
 refine ac ?_
 refine Tr.cn rfl ?_ ?_<;>intro Ms Yh
 refine ac ?_
 refine Ch.cs 54 rfl ?_ ?_<;>intro Lz jc
 refine ac ?_
 refine Cd 2 3 58 rfl ?_
 refine Tr.cn rfl ?_ ?_<;>intro TJ q15
 refine ac ?_
 refine ac ?_
 · refine int_eq ?_;unfold K2;repeat (first|(refine Eq.trans ?_ (if_neg ?_).symm;rotate_left;focus (omega))|(refine (if_pos ?_).symm;omega)|(refine Eq.trans ?_ (if_neg ?_).symm;rotate_left;focus (simp_all;done)))
 refine Tr.skip (Fin.block (Fin.AL () (by omega) (Qj rfl)))
 refine ac ?_
 refine Cd 2 3 58 rfl (Tr.cond rfl (fun h=>nomatch h) (fun _=> ?_))
 refine Tr.skip (Fin.block (Fin.AL () (by omega) (Qj rfl)))
 refine Tr.skip (Fin.block (Fin.AL () (by omega) (Qj rfl)))
 refine Cc 2 3 rfl (Tr.S7 [2,3] [] (¬((DW e c.kind).2.2=true∧decide (0≤idx (fun y=>c.number==y) (DW e c.kind).1)=(DW e c.kind).2.1)) ?_ (fun ACL=> ?_))
 refine ac ?_
 refine co rfl (CF (UU) rfl rfl rfl) ?_
 refine ac ?_
 refine ac ?_
 refine Ch.cs 68 rfl ?_ ?_<;>intro NN jS
 refine ac ?_
 refine cy NN rfl (CF (IQ) rfl rfl rfl) ?_
 refine ac ?_
 refine Cd 2 3 76 rfl ?_
 refine Tr.cn rfl ?_ ?_<;>intro P4 q18
 refine ac ?_
 refine ac ?_
 · refine int_eq ?_;unfold K2;repeat (first|(refine Eq.trans ?_ (if_neg ?_).symm;rotate_left;focus (omega))|(refine Eq.trans ?_ (if_neg ?_).symm;rotate_left;focus (simp_all;done))|(refine (if_pos ?_).symm;simp_all;done))
 refine Tr.skip (Fin.AL () (by simp_all) (Qj rfl))
 refine ac ?_
 refine Cd 2 3 76 rfl (Tr.cond rfl (fun h=>nomatch h) (fun _=> ?_))
 refine Tr.skip (Fin.AL () (by simp_all) (Qj rfl))
 refine Cc 2 3 rfl (Tr.S7 [2,3] [] (¬((FI e c.kind).2=true∧(FI e c.kind).1=c.number)) ?_ (fun hval=> ?_))
 refine ac ?_
 refine co rfl (CF (WK) rfl rfl rfl) ?_
 refine ac ?_
 refine ac ?_
 refine Ch.cs 85 rfl ?_ ?_<;>intro P5 q20
 refine ac ?_
 refine Cd 2 3 90 rfl ?_
 refine Tr.cn rfl ?_ ?_<;>intro W6 q21
 refine ac ?_
 refine ac ?_
 · refine int_eq ?_;unfold K2;repeat (first|(refine Eq.trans ?_ (if_neg ?_).symm;rotate_left;focus (omega))|(refine Eq.trans ?_ (if_neg ?_).symm;rotate_left;focus (simp_all;done))|(refine (if_pos ?_).symm;simp_all;done))
 refine Tr.skip (Fin.AL () (by simp_all) (Qj rfl))
 refine ac ?_
 refine Cd 2 3 90 rfl (Tr.cond rfl (fun h=>nomatch h) (fun _=> ?_))
 refine Tr.skip (Fin.AL () (by simp_all) (Qj rfl))
 refine Cc 2 3 rfl (Tr.S7 [2,3] [] (¬(c.kind=5∧0<FH c.Cw.CG e.ids)) ?_ (fun ACN=> ?_))
 refine ac ?_
 refine Tr.cn rfl ?_ ?_<;>intro h23 q23
 refine ac ?_
 refine co rfl (CF (Mf K8.Qx) rfl rfl rfl) ?_
 refine ac ?_
 refine Cd 2 3 10 rfl ?_
 refine ac ?_
 refine Tr.cn rfl ?_ ?_<;>intro Jk q24
 refine ac ?_
 refine ac ?_
 · refine int_eq ?_;unfold K2;repeat (first|(refine Eq.trans ?_ (if_neg ?_).symm;rotate_left;focus (omega))|(refine (if_pos ?_).symm;omega)|(refine Eq.trans ?_ (if_neg ?_).symm;rotate_left;focus (simp_all;done)))
 refine Tr.skip (Fin.AL () (by omega) (Qj rfl))
 refine Tr.skip (Fin.AL () (by omega) (Qj rfl))
 refine ac ?_
 refine Tr.cn rfl ?_ ?_<;>intro h25 q25
 refine ac ?_
 refine co rfl (CF (Mf K8.Qx) rfl rfl rfl) ?_
 refine ac ?_
 refine FX 12 rfl ?_
 refine ac ?_
 refine Tr.cn rfl ?_ ?_<;>intro h26 q26
 refine ac ?_
 refine ac ?_
 · refine int_eq ?_;unfold K2;repeat (first|(refine Eq.trans ?_ (if_neg ?_).symm;rotate_left;focus (omega))|(refine (if_pos ?_).symm;omega)|(refine Eq.trans ?_ (if_neg ?_).symm;rotate_left;focus (simp_all;done)))
 refine ac ?_
 refine ac ?_
 refine Tr.cn rfl ?_ ?_<;>intro h27 q27
 refine ac ?_
 refine ac ?_
 · refine int_eq ?_;unfold K2;repeat (first|(refine Eq.trans ?_ (if_neg ?_).symm;rotate_left;focus (omega))|(refine (if_pos ?_).symm;omega)|(refine Eq.trans ?_ (if_neg ?_).symm;rotate_left;focus (simp_all;done)))
 refine ac ?_
 refine ac ?_
 refine ac ?_
 · refine int_eq ?_;unfold K2;repeat (first|rfl|(refine Eq.trans ?_ (if_neg ?_).symm;rotate_left;focus (omega))|(refine Eq.trans ?_ (if_neg ?_).symm;rotate_left;focus (simp_all;done)))
 refine ac ?_
 refine ac ?_
 refine ac ?_
 · refine int_eq ?_;unfold K2;repeat (first|rfl|(refine Eq.trans ?_ (if_neg ?_).symm;rotate_left;focus (omega))|(refine Eq.trans ?_ (if_neg ?_).symm;rotate_left;focus (simp_all;done)))
def RQ (e:DD) (c:BQ):DD×Int:=if (KD e.Be c).2=0 then (⟨(KD e.Be c).1,e.BE,e.items⟩,0) else (Ff,(KD e.Be c).2)
def Ss (x:Ho) (l:List BQ) (i:Nat):Bool:=(l[i]?).any fun c=>decide (c.AV=x.client∨c.AV=x.server)
def Mh (x:Ho) (l:List BQ) (k:Nat):List Int:=((List.range k).filter (Ss x l)).map fun i:Nat=>(i:Int)
theorem UX {x:Ho} {l:List BQ} {k:Nat} (h:Ss x l k=true):Mh x l (k+1)=Mh x l k++[(k:Int)]:=by unfold Mh;rw [List.range_succ,List.filter_append,List.map_append];simp [h]
theorem lO {x:Ho} {l:List BQ} {k:Nat} (h:Ss x l k=false):Mh x l (k+1)=Mh x l k:=by unfold Mh;rw [List.range_succ,List.filter_append,List.map_append];simp [h]
theorem UY (x:Ho) (l:List BQ) (k:Nat):(Mh x l k).length≤k:=by unfold Mh;rw [List.length_map];exact Nat.le_trans (List.length_filter_le _ _) (by rw [List.length_range];exact Nat.le_refl _)
def IV (e:DD) (l:List BQ) (k:Int):List Int×Int:=
 if E3 e=false then ([],31) else if 24<l.length then ([],3) else if k<0∨((e.BE.length:Nat):Int)≤k then ([],4)
 else (Mh (e.BE[k.toNat]?.getD F7) l l.length,0)
theorem AA3 {e e2:Bs} {c b:BQ} (h:c.kind=1) (hs:Br e c= .ok (e2,b)):(0≤c.at_∧c.at_≤(e.Ap.length:Nat))∧e2={ e with Ap:=e.Ap.take c.at_.toNat++[c.number]++e.Ap.drop c.at_.toNat }∧b=⟨c.AV,2,c.number,0,Bi⟩:=by
 rw [Ni h] at hs
 (repeat' (split at hs))<;>first|(cases hs;done)|(injection hs with hs;injection hs with h1 h2;exact ⟨by omega,h1.symm,h2.symm⟩)
theorem AA4 {e e2:Bs} {c b:BQ} (h:c.kind=2) (hs:Br e c= .ok (e2,b)):(0≤LX e c)∧e2={ e with Ap:=e.Ap.eraseIdx (LX e c).toNat }∧b=⟨c.AV,1,c.number,LX e c,Bi⟩:=by
 rw [Nj h] at hs
 (repeat' (split at hs))<;>first|(cases hs;done)|(injection hs with hs;injection hs with h1 h2;exact ⟨by omega,h1.symm,h2.symm⟩)
theorem AA5 {e e2:Bs} {c b:BQ} (h:c.kind=3) (hs:Br e c= .ok (e2,b)):e2={ e with most:=c.number }∧b=⟨c.AV,c.kind,e.most,0,Bi⟩:=by
 rw [Nk h] at hs
 (repeat' (split at hs))<;>first|(cases hs;done)|(injection hs with hs;injection hs with h1 h2;exact ⟨h1.symm,h2.symm⟩)
theorem AA6 {e e2:Bs} {c b:BQ} (h:c.kind=4) (hs:Br e c= .ok (e2,b)):e2={ e with least:=c.number }∧b=⟨c.AV,c.kind,e.least,0,Bi⟩:=by
 rw [Nl h] at hs
 (repeat' (split at hs))<;>first|(cases hs;done)|(injection hs with hs;injection hs with h1 h2;exact ⟨h1.symm,h2.symm⟩)
theorem AA7 {e e2:Bs} {c b:BQ} (h:c.kind=5) (hs:Br e c= .ok (e2,b)):(0≤c.at_∧c.at_≤(e.ids.length:Nat))∧e2={ e with ids:=e.ids.take c.at_.toNat++[c.Cw]++e.ids.drop c.at_.toNat }∧b=⟨c.AV,6,c.Cw.CG,0,Bi⟩:=by
 rw [Nn h] at hs
 (repeat' (split at hs))<;>first|(cases hs;done)|(injection hs with hs;injection hs with h1 h2;exact ⟨by omega,h1.symm,h2.symm⟩)
theorem AA8 {e e2:Bs} {c b:BQ} (h:c.kind=6) (hs:Br e c= .ok (e2,b)):∃x,e.ids[(BW c.number e.ids).toNat]? =some x∧0≤BW c.number e.ids∧e2={ e with ids:=e.ids.eraseIdx (BW c.number e.ids).toNat }∧b=⟨c.AV,5,0,BW c.number e.ids,x⟩:=by
 rw [Np h] at hs
 (repeat' (split at hs))<;>first|(cases hs;done)|(injection hs with hs;injection hs with h1 h2;exact ⟨_,by assumption,by omega,h1.symm,h2.symm⟩)
theorem AA9 {e e2:Bs} {c b:BQ} (h:c.kind=7) (hs:Br e c= .ok (e2,b)):FG e.anchors c.number=false∧e2={ e with anchors:=VK e.anchors c.number }∧b=⟨c.AV,8,c.number,0,Bi⟩:=by
 rw [Nq h] at hs
 (repeat' (split at hs))<;>first|(cases hs;done)|(injection hs with hs;injection hs with h1 h2;exact ⟨by simp_all,h1.symm,h2.symm⟩)
theorem AA_ {e e2:Bs} {c b:BQ} (h:c.kind=8) (hs:Br e c= .ok (e2,b)):FG e.anchors c.number=true∧e2={ e with anchors:=e.anchors.eraseIdx (Eg e.anchors c.number) }∧b=⟨c.AV,7,c.number,0,Bi⟩:=by
 rw [Nr h] at hs
 (repeat' (split at hs))<;>first|(cases hs;done)|(injection hs with hs;injection hs with h1 h2;exact ⟨by simp_all,h1.symm,h2.symm⟩)
theorem ABA {e e2:Bs} {c b:BQ} (h:c.kind=9) (hs:Br e c= .ok (e2,b)):FG e.hashes c.number=false∧e2={ e with hashes:=VK e.hashes c.number }∧b=⟨c.AV,10,c.number,0,Bi⟩:=by
 rw [Ns h] at hs
 (repeat' (split at hs))<;>first|(cases hs;done)|(injection hs with hs;injection hs with h1 h2;exact ⟨by simp_all,h1.symm,h2.symm⟩)
theorem wv {e e2:Bs} {c b:BQ} (h:c.kind=10) (hs:Br e c= .ok (e2,b)):FG e.hashes c.number=true∧e2={ e with hashes:=e.hashes.eraseIdx (Eg e.hashes c.number) }∧b=⟨c.AV,9,c.number,0,Bi⟩:=by
 rw [LY h] at hs
 (repeat' (split at hs))<;>first|(cases hs;done)|(injection hs with hs;injection hs with h1 h2;exact ⟨by simp_all,h1.symm,h2.symm⟩)
theorem wz {e e2:Bs} {c b:BQ} (h:c.kind=11) (hs:Br e c= .ok (e2,b)):e2={ e with LV:=(c.number==1) }∧b=⟨c.AV,c.kind,J3 e.LV,0,Bi⟩:=by
 rw [LZ h] at hs
 (repeat' (split at hs))<;>first|(cases hs;done)|(injection hs with hs;injection hs with h1 h2;exact ⟨h1.symm,h2.symm⟩)
theorem w4 {e e2:Bs} {c b:BQ} (h:c.kind=12) (hs:Br e c= .ok (e2,b)):e2={ e with own:=(c.number==1) }∧b=⟨c.AV,c.kind,J3 e.own,0,Bi⟩:=by
 rw [La h] at hs
 (repeat' (split at hs))<;>first|(cases hs;done)|(injection hs with hs;injection hs with h1 h2;exact ⟨h1.symm,h2.symm⟩)
theorem lP {e:Bs} {c:BQ} (h:0≤LX e c):(LX e c).toNat<e.Ap.length:=by obtain ⟨_,_,_,h3⟩:=Nf (p:=fun y=>c.number==y) (l:=e.Ap) h;exact h3
theorem Za {e e2:Bs} {c b:BQ} (K8:e.small) (hcs:c.Cw.small) (hce:Fz e=true) (hc:Gk c) (hs:Br e c= .ok (e2,b)):BA prog 162 [agg (BV e),agg (Et c)] (agg (BV e2)):=by
 refine fo func162 rfl ⟨rfl,rfl⟩ fun M0 w0=> ?_
 have hk:=hc.1
 have ok:=CA.1 hce
 have hs1:=K8.Ap
 have R9:=K8.anchors
 have hs3:=K8.hashes
 have hs4:=K8.Qx
 refine Tr.seq (Tr.An (tp rfl (Bb rfl (Va rfl)) (tp rfl (Bb rfl (Va rfl)) ?_)))
 refine Tl rfl rfl rfl rfl QA Hx (fun b1=> ?_)
 refine ap ?_
 refine ap ?_
 refine tp rfl (Cq (RP K8) rfl rfl) ?_
 refine Tl rfl rfl rfl rfl QA Hx (fun b2=> ?_)
 refine ap ?_
 refine ac ?_
 refine an ?_ ?_<;>intro h1 q1
 obtain ⟨hr,rfl,rfl⟩:=AA3 q1 hs
 refine ap ?_
 refine tp rfl (AR rfl (Mg (l:=e.Ap) (i:=c.at_.toNat) (by omega) hs1) ⟨ke rfl,⟨_,rfl,int_eq (by omega)⟩,ke rfl,trivial⟩) ?_
 refine ap ?_
 refine Cc 4 5 rfl ?_
 refine ap ?_
 refine Tr.drop 0 (Tr.ret (Fin.CS rfl (AO.cell 0 rfl rfl Cg B_ rfl (Lr)) ?_))
 · exact Lr
 refine ac ?_
 refine K0 2 3 4 5 13 24 rfl ?_
 refine Tr.cn rfl ?_ ?_<;>intro h2 q2
 obtain ⟨hr,rfl,rfl⟩:=AA4 q2 hs
 refine Tr.rx ?_
 refine ay ?_
 refine xo rfl (fun _=>CF (IQ) rfl rfl rfl) ?_
 refine xo rfl (fun _=>AR rfl (IU (l:=e.Ap) (i:=(LX e c).toNat) (lP hr) hs1) ⟨ke rfl,⟨_,rfl,int_eq (show LX e c=_ by omega)⟩,trivial⟩) ?_
 refine ay ?_
 refine Cx.nil ⟨by kernel_rfl,?_⟩
 refine BH.done YY ?_
 refine ac ?_
 refine Cc 4 5 rfl ?_
 refine ap ?_
 refine Tr.drop 0 (Tr.ret (Fin.CS rfl (AO.cell 0 rfl rfl Cg B_ rfl (Lr)) ?_))
 · exact Lr
 refine an ?_ ?_<;>intro h3 q3
 obtain ⟨rfl,rfl⟩:=AA5 q3 hs
 refine ap ?_
 refine ap ?_
 refine Tr.drop 0 (Tr.ret (Fin.CS rfl (AO.cell 0 rfl rfl Cg B_ rfl (Lr)) ?_))
 · exact Lr
 refine an ?_ ?_<;>intro h4 q4
 obtain ⟨rfl,rfl⟩:=AA6 q4 hs
 refine ap ?_
 refine ap ?_
 refine Tr.drop 0 (FX 4 rfl (Tr.ret (Fin.CS rfl (AO.cell 0 rfl rfl Cg B_ rfl (Lr)) ?_)))
 · exact Lr
 refine an ?_ ?_<;>intro h5 q5
 obtain ⟨hr,rfl,rfl⟩:=AA7 q5 hs
 refine ap ?_
 refine tp rfl (DU rfl underlying77 FZ (vl rfl) (vl rfl) (by omega) (by simp;omega)) ?_
 refine TO.pad ?_
 refine TO.Dh 0 rfl rfl (by decide) (D7 rfl rfl (by decide) rfl underlying77 FZ YT U4 rfl (by decide) ⟨_,rfl,AF _⟩ (vl rfl) (by simp only [List.length_map,List.length_append,List.length_cons,List.length_nil,List.length_take,List.length_drop];unfold maxLen;omega) (by simp only [List.length_map,List.length_append,List.length_cons,List.length_nil,List.length_take,List.length_drop];omega) (Bh (by exact List.Mem.head _) ⟨_,rfl,EN 1⟩)) (fun v1=> ?_)
 refine ap ?_
 refine Ef 3 4 5 6 rfl ?_
 refine ap ?_
 refine tp rfl (Cq (Kv hcs) rfl rfl) (tp rfl (AM (xs:=[.tmp 56]) (rows:=[_]) rfl rfl underlying77 FZ U4 rfl (by decide) ⟨⟨(by exact rfl),(Va rfl)⟩,trivial⟩ (by decide)) ?_)
 refine TO.Dh 0 rfl rfl (by decide) (Bt rfl rfl rfl rfl underlying77 FZ YT U4 (Kb rfl) (Kf rfl) (Au (by exact List.Mem.head _) (Ka rfl))) (fun v2=> ?_)
 refine ap ?_
 refine ap ?_
 refine tp rfl (DM rfl underlying77 FZ (vl rfl) (vl rfl) (by omega) (by simp;omega)) ?_
 refine TO.Dh 0 rfl rfl (by decide) (Bt rfl rfl rfl rfl underlying77 FZ YT U4 (Kb rfl) (vl rfl) (Au (by exact List.Mem.head _) (Ka rfl))) (fun v3=> ?_)
 refine ap ?_
 refine Cc 4 5 rfl ?_
 refine ap ?_
 refine Tr.drop 1 (Tr.ret (Fin.CS rfl (AO.cell 1 rfl rfl Cg B_ rfl (Lr)) ?_))
 · exact Aw ⟨Lr,Lr,Lr,Lr,Lr,Pr.le_trans (Ak _ _) (Pr.le_of_eq (by show _=slice 4 ((e.ids.take c.at_.toNat++[c.Cw]++e.ids.drop c.at_.toNat).map HX);simp [List.map_take,List.map_drop])),Lr,Lr,Lr,trivial⟩
 refine ac ?_
 refine K0 2 3 4 5 13 67 rfl ?_
 refine Tr.cn rfl ?_ ?_<;>intro h6 q6
 obtain ⟨x_,hx_,hr,rfl,rfl⟩:=AA8 q6 hs
 have hlt:=BD hx_
 refine ac ?_
 refine co rfl (CF (Mf hs4) rfl rfl rfl) ?_
 refine ac ?_
 refine Cd 4 5 8 rfl ?_
 refine ap ?_
 refine tp rfl (DU rfl underlying77 FZ (vl rfl) (vl rfl) (by omega) (by simp;omega)) ?_
 refine TO.pad ?_
 refine TO.Dh 0 rfl rfl (by decide) (D7 rfl rfl (by decide) rfl underlying77 FZ YT U4 rfl (by decide) ⟨_,rfl,AF _⟩ (vl rfl) (by simp only [List.length_map,List.length_append,List.length_cons,List.length_nil,List.length_take,List.length_drop];unfold maxLen;omega) (by simp only [List.length_map,List.length_append,List.length_cons,List.length_nil,List.length_take,List.length_drop];omega) (Bh (by exact List.Mem.head _) ⟨_,rfl,EN 1⟩)) (fun v4=> ?_)
 refine ap ?_
 refine ap ?_
 refine tp rfl (DM rfl underlying77 FZ (vl rfl) (vl rfl) (by omega) (by simp;omega)) ?_
 refine TO.Dh 0 rfl rfl (by decide) (Bt rfl rfl rfl rfl underlying77 FZ YT U4 (Kb rfl) (vl rfl) (Au (by exact List.Mem.head _) (Ka rfl))) (fun v5=> ?_)
 refine ap ?_
 refine Cc 4 5 rfl ?_
 refine ap ?_
 refine Tr.drop 1 (Tr.ret (Fin.CS rfl (AO.cell 1 rfl rfl Cg B_ rfl (Lr)) ?_))
 · exact Aw ⟨Lr,Lr,Lr,Lr,Lr,Pr.le_trans (Ak _ _) (Pr.le_of_eq (by show _=slice 4 ((e.ids.eraseIdx (BW c.number e.ids).toNat).map HX);rw [List.eraseIdx_eq_take_drop_succ,show (BW c.number e.ids+1).toNat=(BW c.number e.ids).toNat+1 by omega];simp [List.map_take,List.map_drop])),Lr,Lr,Lr,trivial⟩
 refine an ?_ ?_<;>intro h7 q7
 obtain ⟨hr,rfl,rfl⟩:=AA9 q7 hs
 refine ap ?_
 refine tp rfl (CF (NJ R9) rfl rfl rfl) ?_
 refine ap ?_
 refine Cc 4 5 rfl ?_
 refine ap ?_
 refine Tr.drop 0 (Tr.ret (Fin.CS rfl (AO.cell 0 rfl rfl Cg B_ rfl (Lr)) ?_))
 · exact Lr
 refine an ?_ ?_<;>intro h8 q8
 obtain ⟨hr,rfl,rfl⟩:=AA_ q8 hs
 refine Tr.rx ?_
 refine ay ?_
 refine xo rfl (fun _=>CF (IQ) rfl rfl rfl) ?_
 refine xo rfl (fun _=>AR rfl (IU (l:=e.anchors) (i:=Eg e.anchors c.number) (SE hr) R9) ⟨ke rfl,⟨_,rfl,int_eq (by rw [Sq (Nh ok.anc),if_pos hr])⟩,trivial⟩) ?_
 refine ay ?_
 refine Cx.nil ⟨by kernel_rfl,?_⟩
 refine BH.done YY ?_
 refine ac ?_
 refine Cc 4 5 rfl ?_
 refine ap ?_
 refine Tr.drop 0 (Tr.ret (Fin.CS rfl (AO.cell 0 rfl rfl Cg B_ rfl (Lr)) ?_))
 · exact Lr
 refine an ?_ ?_<;>intro h9 q9
 obtain ⟨hr,rfl,rfl⟩:=ABA q9 hs
 refine ap ?_
 refine tp rfl (CF (NJ hs3) rfl rfl rfl) ?_
 refine ap ?_
 refine Cc 4 5 rfl ?_
 refine ap ?_
 refine Tr.drop 0 (Tr.ret (Fin.CS rfl (AO.cell 0 rfl rfl Cg B_ rfl (Lr)) ?_))
 · exact Lr
 refine ac ?_
 refine K0 2 3 4 5 13 116 rfl ?_
 refine Tr.cn rfl ?_ ?_<;>intro h10 QH
 obtain ⟨hr,rfl,rfl⟩:=wv QH hs
 refine Tr.rx ?_
 refine ay ?_
 refine xo rfl (fun _=>CF (IQ) rfl rfl rfl) ?_
 refine xo rfl (fun _=>AR rfl (IU (l:=e.hashes) (i:=Eg e.hashes c.number) (SE hr) hs3) ⟨ke rfl,⟨_,rfl,int_eq (by rw [Sq (Nh ok.hash),if_pos hr])⟩,trivial⟩) ?_
 refine ay ?_
 refine Cx.nil ⟨by kernel_rfl,?_⟩
 refine BH.done YY ?_
 refine ac ?_
 refine Cc 4 5 rfl ?_
 refine ap ?_
 refine Tr.drop 0 (Tr.ret (Fin.CS rfl (AO.cell 0 rfl rfl Cg B_ rfl (Lr)) ?_))
 · exact Lr
 refine an ?_ ?_<;>intro h11 QG
 obtain ⟨rfl,rfl⟩:=wz QG hs
 refine ap ?_
 refine ap ?_
 refine Tr.drop 0 (Tr.ret (Fin.CS rfl (AO.cell 0 rfl rfl Cg B_ rfl (Lr)) ?_))
 · exact Lr
 refine an ?_ ?_<;>intro h12 Ul
 obtain ⟨rfl,rfl⟩:=w4 Ul hs
 refine ap ?_
 refine Cc 4 5 rfl ?_
 refine ap ?_
 refine Tr.drop 0 (Tr.ret (Fin.CS rfl (AO.cell 0 rfl rfl Cg B_ rfl (Lr)) ?_))
 · exact Lr
 exfalso;omega
theorem WM {e:Bs} {c:BQ} {n:Nat} (hz:e.sz n) (hn:n≤900000) (hi:c.Cw.fits∧c.Cw.small):BA prog 155 [agg (BV e),agg (Et c)] (EK [agg (BV (Dl e c).1),int (Dl e c).2.2]):=by
 refine fo func155 rfl ⟨rfl,rfl⟩ fun M0 w0=> ?_
 have K8:=hz.small (by omega)
 have hcs:=hi.2
 refine Tr.seq (Tr.An (tp rfl (Bb rfl (Va rfl)) (tp rfl (Bb rfl (Va rfl)) ?_)))
 refine Tl rfl rfl rfl rfl QA Hx (fun b1=> ?_)
 refine ao ?_
 refine ac ?_
 refine co rfl (CF (Sr K8 hcs) rfl rfl rfl) ?_
 refine ac ?_
 refine an ?_ ?_<;>intro h1 q1
 have hb:=lN q1
 refine ao ?_
 refine TO.AK 0 rfl rfl rfl (vl rfl) (Va rfl) rfl B_ rfl rfl ?_
 refine ao ?_
 refine Cc 4 5 rfl (Tr.ret (Fin.AD (Fin.BK rfl (AO.cell 0 rfl rfl Cg B_ rfl (Lr)) (AO.tmp rfl (Lr)) ?_)))
 refine Am ⟨?_,?_,trivial⟩
 · rw [hb];exact Aw ⟨Lr,Lr,Lr,AF 1,Lr,AF 4,AF 1,AF 1,Lr,trivial⟩
 · exact int_eq (by rw [hb])
 obtain ⟨hce,hc,e2,b,hs⟩:=rJ (e:=e) (c:=c) (by have:=q1;omega)
 have ABB:=(XQ hc hs hz hi).1.small (by omega)
 refine ac ?_
 refine ao ?_
 refine tp rfl (CF (Za K8 hcs hce hc hs) rfl rfl rfl) ?_
 refine Tl rfl rfl rfl rfl QA Hx (fun b2=> ?_)
 refine sf 0 7 ⟨rfl,rfl,rfl⟩ rfl rfl rfl rfl ?_
 refine ao ?_
 refine Cc 4 7 rfl ?_
 refine ac ?_
 refine co rfl (Cq (Ez ABB) rfl rfl) ?_
 refine an ?_ ?_<;>intro h2 q2
 have hb:=jX hce hc hs (by have:=q2;cases h_:Fz e2<;>simp_all)
 refine ao ?_
 refine TO.AK 0 rfl rfl rfl (vl rfl) (Va rfl) rfl B_ rfl rfl ?_
 refine ao ?_
 refine Tr.ret (Fin.AD (Fin.BK rfl (AO.cell 0 rfl rfl Cg B_ rfl (Lr)) (AO.tmp rfl (Lr)) ?_))
 refine Am ⟨?_,?_,trivial⟩
 · rw [hb];exact Aw ⟨Lr,Lr,Lr,AF 1,Lr,AF 4,AF 1,AF 1,Lr,trivial⟩
 · exact int_eq (by rw [hb])
 have hb:=cB hce hc hs (by have:=q2;cases h_:Fz e2<;>simp_all)
 refine ac ?_
 refine ao ?_
 refine TO.AK 0 rfl rfl rfl (vl rfl) (Va rfl) rfl B_ rfl rfl ?_
 refine ao ?_
 refine Tr.ret (Fin.BK rfl (AO.cell 0 rfl rfl Cg B_ rfl (Lr)) (AO.tmp rfl (Lr)) ?_)
 refine Am ⟨?_,?_,trivial⟩
 · rw [hb];exact Lr
 · exact int_eq (by rw [hb])
theorem Pm {e:DD} {n:Nat} (hz:e.sz n) (hn:n≤1000000):VF prog 142 [agg (B1 e)] (fun x=>agg [is x,HZ e.BE,Ow e.items]) (fun x=>[CV 79 9 (e.Be.map BV) x]):=by
 refine VF.of func142 rfl rfl (by exact Nb rfl) fun M0 w0 S rs M1 w1=> ?_
 have hl1:=hz.le
 have mR:=hz.lg
 have hl3:=hz.li
 refine Tr.seq (Tr.An (tp rfl (Bb rfl (Va rfl)) ?_))
 refine Tl rfl rfl rfl rfl z31 HR (fun b1=> ?_)
 refine ao ?_
 refine ao ?_
 refine tp rfl (IB rfl underlying28 Gj tY oZ rfl (by decide) (vl rfl) (by simp only [List.length_map,List.length_append,List.length_cons,List.length_nil,List.length_take];unfold maxLen;omega) (by simp only [List.length_map,List.length_append,List.length_cons,List.length_nil,List.length_take];omega)) ?_
 refine tp rfl (oD) ?_
 refine Tl rfl rfl rfl rfl z31 HR (fun b2=> ?_)
 refine TO.AK 0 rfl rfl rfl (vl rfl) (Va rfl) rfl C7 rfl rfl ?_
 refine ao ?_
 refine ac ?_
 refine Tr.block (Tr.Hl 0 [Ag (.slice none 0 0) (lens ((e.Be.take 0).map BV).length),HZ e.BE,is (.slice none 0 0)] rfl ⟨HU rfl,Lr,Lr,trivial⟩ (Tr.KS 79 9 (Tr.E8 [(1,_),(2,_),(3,_),(13,_),(14,_)] ⟨ke rfl,ke rfl,ke rfl,ke rfl,ke rfl,trivial⟩ (fun k v=>[(15,int ((k:Nat):Int))]) (fun k v=>Hp M0 w0 S (BX 79 9 ((e.Be.take k).map BV) v::AB true b2 31 [Ag v (lens ((e.Be.take k).map BV).length),HZ e.BE,is (.slice none 0 0)]::AB true b1 31 (([.slice none 0 0,.slice none 0 0,.slice none 0 0]:List Value).map is)::Aj M1 w1::rs)) (fun k:Nat=>k≤(e.Be).length) (fun k:Nat=>(e.Be).length-k) 0 (.slice none 0 0) (Nat.zero_le _) ⟨ke rfl,trivial⟩ (fun _ _ h=>h) ?_)))
 rintro k v BP
 refine ac ?_
 refine Tr.seq ?_
 refine Tr.cn rfl ?_ ?_<;>intro h1 q1
 have Ai:k<(e.Be).length:=AG h1
 obtain ⟨x,Af⟩:=at_ Ai
 have hxs:=(hz.Be x (List.mem_of_getElem? Af)).small hn
 refine ac ?_
 refine Tr.seq (Tr.block (Tr.seq (Tr.An (tp rfl (AA rfl underlying27 B_ (vl rfl) (vl rfl) (by omega) (by exact AP (by assumption))) ?_))))
 refine tp rfl (AQ rfl Cg B_ (vl rfl) rfl rfl) ?_
 refine Tl rfl rfl rfl rfl QA Hx (fun b3=> ?_)
 refine sf 0 5 ⟨rfl,rfl,rfl⟩ rfl rfl rfl rfl ?_
 refine ao ?_
 refine Tr.pad (Tr.rx ?_)
 refine ax ?_
 refine xo rfl (fun _=>Cq (RP hxs) rfl rfl) (xo rfl (fun _=>AM (xs:=[.tmp 22]) (rows:=[_]) rfl rfl underlying27 B_ QA rfl (by decide) ⟨⟨(by exact rfl),(Va rfl)⟩,trivial⟩ (by decide)) ?_)
 refine Cx.ef 1 rfl rfl (by decide) (Fb rfl rfl (by decide) rfl underlying27 B_ n_ QA rfl (by decide) (by decide) (vl rfl) (Kf rfl) (Bg fun _=>rfl) (Nat.zero_lt_succ _) (by simp only [List.length_map,List.length_take,List.length_cons,List.length_nil];unfold maxLen;omega) (by simp only [List.length_map,List.length_take,List.length_cons,List.length_nil];omega)) ?_
 refine xo rfl (fun _=>Ac rfl Hw (vl rfl)) (Cx.Dz 2 rfl rfl (GH rfl rfl rfl (vl rfl) rfl nr (by exact Nb rfl)) ?_)
 refine Cx.nil ⟨by kernel_rfl,?_⟩
 refine BH.Ql 1 2 24 rfl rfl (by decide) rfl (fun v1=> ?_)
 refine BH.done al5 ?_
 refine ac ?_
 refine Tr.drop 0 (K0 1 2 3 13 14 15 rfl ?_)
 refine ac ?_
 refine Fin.Hl 1 [Ag v1 (lens ((e.Be.take (k+1)).map BV).length),HZ e.BE,is (.slice none 0 0)] rfl ⟨Cr (by simp only [List.length_map,List.length_append,List.length_take,List.length_cons,List.length_nil];omega),Lr,Lr,trivial⟩ ?_
 rw [mw (f:=BV) Af]
 exact Fin.Da (k+1) v1 (⟨Ai,by omega⟩) ⟨⟨_,rfl,AE k⟩,ke rfl,ke rfl,ke rfl,ke rfl,ke rfl,trivial⟩ (fun _ _ h=>h)
 have BJ:k=(e.Be).length:=by have:=AH h1;omega
 subst BJ
 rw [List.take_length]
 refine a2 ?_
 refine Tr.block (Tr.Hl 1 [Ag v (lens (e.Be.map BV).length),HZ e.BE,Ag (.slice none 0 0) (Ow (e.items.take 0))] rfl ⟨Lr,Lr,Bf rfl,trivial⟩ (Tr.B0 91 5 (Tr.E8 [(2,_),(3,_),(28,_),(29,_)] ⟨ke rfl,ke rfl,ke rfl,ke rfl,trivial⟩ (fun m u=>[(30,int ((m:Nat):Int))]) (fun m u=>Hp M0 w0 S (Aq 91 5 u::BX 79 9 (e.Be.map BV) v::AB true b2 31 [Ag v (lens (e.Be.map BV).length),HZ e.BE,Ag u (Ow (e.items.take m))]::AB true b1 31 (([.slice none 0 0,.slice none 0 0,.slice none 0 0]:List Value).map is)::Aj M1 w1::rs)) (fun m:Nat=>m≤(e.items).length) (fun m:Nat=>(e.items).length-m) 0 (.slice none 0 0) (Nat.zero_le _) ⟨ke rfl,trivial⟩ (fun _ _ h=>h) ?_)))
 rintro m u Lc
 refine ac ?_
 refine Tr.seq ?_
 refine Tr.cn rfl ?_ ?_<;>intro h2 q2
 have EB:m<(e.items).length:=AG h2
 obtain ⟨y,EJ⟩:=at_ EB
 have hyl:=(hz.items y (List.mem_of_getElem? EJ)).2
 refine ac ?_
 refine Tr.seq (Tr.block (Tr.seq (Tr.An (tp rfl (AA rfl underlying29 LK (vl rfl) (vl rfl) (by omega) (by exact AP (by assumption))) ?_))))
 refine tp rfl (AQ rfl Wt LK (vl rfl) rfl rfl) ?_
 refine Tl rfl rfl rfl rfl z91 au (fun b4=> ?_)
 refine TO.AK 0 rfl rfl rfl (vl rfl) (Va rfl) rfl LK rfl rfl ?_
 refine ao ?_
 refine ao ?_
 refine tp rfl (IB rfl underlying89 I2 mL z131 rfl (by decide) (vl rfl) (by simp only [List.length_map,List.length_append,List.length_cons,List.length_nil,List.length_take];unfold maxLen;omega) (by simp only [List.length_map,List.length_append,List.length_cons,List.length_nil,List.length_take];omega)) ?_
 refine tp rfl (Ac rfl U5 (vl rfl)) (TO.Dz 0 rfl rfl (A0 rfl rfl (vl rfl) (Vo rfl) td rfl (by exact Nb rfl) rfl) ?_)
 refine ao ?_
 refine K0 2 3 7 28 29 30 rfl ?_
 refine ao ?_
 refine TO.Dh 1 rfl rfl (by decide) (Bt rfl rfl rfl rfl underlying29 LK oh z91 (Kb rfl) (Kf rfl) (Au (by exact List.Mem.head _) (Ka rfl))) (fun v2=> ?_)
 refine tp rfl (Ac rfl ME (vl rfl)) (TO.Dz 3 rfl rfl (A0 rfl rfl (vl rfl) (Vo rfl) nu rfl (by exact Nb rfl) rfl) ?_)
 refine ao ?_
 refine Tr.drop 0 ?_
 refine ac ?_
 refine Fin.Hl 2 [Ag v (lens (e.Be.map BV).length),HZ e.BE,Ag v2 (Ow (e.items.take (m+1)))] rfl ⟨Lr,Lr,A7 (mw (f:=XJ) EJ),trivial⟩ (Fin.Da (m+1) v2 (⟨EB,by omega⟩) ⟨⟨_,rfl,AE m⟩,ke rfl,ke rfl,ke rfl,ke rfl,trivial⟩ (fun _ _ h=>h))
 have JF:m=(e.items).length:=by have:=AH h2;omega
 subst JF
 refine ac ?_
 refine ao ?_
 refine TO.AK 3 rfl rfl rfl (vl rfl) (Va rfl) rfl C7 rfl rfl ?_
 refine ao ?_
 refine Tr.ret (Fin.Ox 1 rfl (Fin.drop 0 (Fin.drop 1 (Fin.Ol (Fin.uX v [_] rfl (AO.cell 0 rfl rfl C8 C7 rfl (Lr)) ?_ (List.Perm.refl _))))))
 · exact Aw ⟨Fw _ _,Lr,Pr.le_trans (Ak _ _) (Pr.le_of_eq (by rw [List.take_length])),trivial⟩
theorem N8 {e:DD} {c:BQ} (h:c.AV<0∨((e.Be.length:Nat):Int)≤c.AV):RQ e c=(Ff,40):=by unfold RQ;rw [ju h];rfl
theorem rK {e:DD} {c:BQ} {x:Bs} (h:¬(c.AV<0∨((e.Be.length:Nat):Int)≤c.AV)) (hx:e.Be[c.AV.toNat]? =some x):RQ e c=if (Dl x c).2.2=0 then (⟨e.Be.set c.AV.toNat (Dl x c).1,e.BE,e.items⟩,0) else (Ff,(Dl x c).2.2):=by
 unfold RQ;rw [qK h hx]
 by_cases h0:(Dl x c).2.2=0
 · rw [if_pos h0,if_pos h0];rfl
 · rw [if_neg h0,if_neg h0];exact (if_neg h0).symm
theorem WN {e:DD} {c:BQ} {n:Nat} (hz:e.sz n) (hi:c.Cw.fits∧c.Cw.small) (h:(RQ e c).2=0):(RQ e c).1.sz (n+1)∧RQ e c=(⟨(KD e.Be c).1,e.BE,e.items⟩,0):=by
 have h0:(KD e.Be c).2=0:=by
  by_cases h0:(KD e.Be c).2=0
  · exact h0
  · unfold RQ at h;rw [if_neg h0] at h;exact h
 have h1:RQ e c=(⟨(KD e.Be c).1,e.BE,e.items⟩,0):=by unfold RQ;rw [if_pos h0]
 rw [h1]
 exact ⟨⟨ck hz.Be hi,hz.items,by show (KD e.Be c).1.length≤_;rw [XR];exact hz.le,hz.lg,hz.li⟩,rfl⟩
theorem lQ {e:DD} {c:BQ} (h:¬(RQ e c).2=0):¬(KD e.Be c).2=0∧(RQ e c).2=(KD e.Be c).2∧(RQ e c).1=Ff:=by
 by_cases h0:(KD e.Be c).2=0
 · exfalso;unfold RQ at h;rw [if_pos h0] at h;exact h rfl
 · unfold RQ;rw [if_neg h0];exact ⟨h0,rfl,rfl⟩
theorem Zb {e:DD} {c:BQ} {n:Nat} (hz:e.sz n) (hn:n≤900000) (hci:c.Cw.fits∧c.Cw.small):BA prog 143 [agg (B1 e),agg (Et c)] (EK [agg (B1 (RQ e c).1),int (RQ e c).2]):=by
 refine fo func143 rfl ⟨rfl,rfl⟩ fun M0 w0=> ?_
 have ACO:=hz.le
 refine Tr.seq (Tr.An (tp rfl (Bb rfl (Va rfl)) (tp rfl (Bb rfl (Va rfl)) ?_)))
 refine Tl rfl rfl rfl rfl z31 HR (fun b1=> ?_)
 refine ao ?_
 refine ag ?_ ?_<;>intro h1 q1
 refine ac ?_
 refine Ef 2 3 4 19 rfl (Tr.cond rfl (fun _=> ?_) (fun h=>nomatch h))
 refine Tr.seq (Tr.An (tp rfl (Al (rows:=[]) rfl tP HR trivial rfl) (TO.AK 0 rfl rfl rfl (vl rfl) (Va rfl) rfl C7 rfl rfl ?_)))
 refine ao ?_
 refine Tr.ret (Fin.AD (Fin.BK rfl (AO.cell 0 rfl rfl C8 C7 rfl (Lr)) (AO.tmp rfl (Lr)) ?_))
 refine Am ⟨?_,?_,trivial⟩
 · rw [N8 (e:=e) (c:=c) (by omega)];exact Aw ⟨AF 9,AF 2,AF 5,trivial⟩
 · exact int_eq (by rw [N8 (e:=e) (c:=c) (by omega)])
 refine ac ?_
 refine Ef 2 3 4 19 rfl ?_
 refine Tr.cn rfl ?_ ?_<;>intro h2 q2
 refine ao ?_
 refine TO.AK 0 rfl rfl rfl (vl rfl) (Va rfl) rfl C7 rfl rfl ?_
 refine ao ?_
 refine Tr.ret (Fin.AD (Fin.BK rfl (AO.cell 0 rfl rfl C8 C7 rfl (Lr)) (AO.tmp rfl (Lr)) ?_))
 refine Am ⟨?_,?_,trivial⟩
 · rw [N8 (e:=e) (c:=c) (by omega)];exact Aw ⟨AF 9,AF 2,AF 5,trivial⟩
 · exact int_eq (by rw [N8 (e:=e) (c:=c) (by omega)])
 obtain ⟨x,hx⟩:=at_ (l:=e.Be) (k:=c.AV.toNat) (by omega)
 have hA:=rK (e:=e) (c:=c) (by omega) hx
 have hlt:=BD hx
 refine ac ?_
 refine Tr.seq (Tr.pad (Tr.rx ?_))
 refine ax ?_
 refine xo rfl (fun _=>AA rfl underlying27 B_ (vl rfl) (vl rfl) (by omega) (BS (f:=BV) hx)) ?_
 refine ax ?_
 refine xo rfl (fun _=>CF (WM (hz.Be x (List.mem_of_getElem? hx)) (by omega) hci) rfl rfl rfl) ?_
 refine ax ?_
 refine Cx.ef 0 rfl rfl (by decide) (Ca rfl rfl (by decide) rfl QA Hx) (Cx.Dz 0 rfl rfl (DC rfl rfl rfl rfl (Va rfl) B_ rfl rfl) (xm rfl ?_))
 refine Cx.nil ⟨by kernel_rfl,?_⟩
 refine BH.open_ 0 6 rfl rfl (fun v1=> ?_)
 refine BH.done YY (Fin.MB 6 0 _ rfl rfl (fun _=>rfl) (fun b2=> ?_))
 refine Fin.go (KP 2 3 4 6 7 rfl ?_)
 refine an ?_ ?_<;>intro h3 q3
 rw [if_neg (by have:=q3;omega)] at hA
 refine ao ?_
 refine TO.AK 1 rfl rfl rfl (vl rfl) (Va rfl) rfl C7 rfl rfl ?_
 refine ao ?_
 refine Tr.drop 0 (Tr.ret (Fin.AD (Fin.BK rfl (AO.cell 0 rfl rfl C8 C7 rfl (Lr)) (AO.tmp rfl (Lr)) ?_)))
 refine Am ⟨?_,?_,trivial⟩
 · rw [hA];exact Aw ⟨AF 9,AF 2,AF 5,trivial⟩
 · exact int_eq (by rw [hA])
 rw [if_pos (by have:=q3;omega)] at hA
 refine ac ?_
 refine ao ?_
 refine TO.bQ rfl rfl (by decide) rfl (Pm hz (by omega)) ⟨ke rfl,trivial⟩ (fun v2=> ?_)
 refine Tl rfl rfl rfl rfl z31 HR (fun b3=> ?_)
 refine TO.AK 0 rfl rfl rfl (vl rfl) (Va rfl) rfl C7 rfl rfl ?_
 refine ao ?_
 refine ao ?_
 refine tp rfl (DK 1 rfl (VE rfl underlying27 B_ (vl rfl) (vl rfl) (by omega) (by rw [List.length_map];omega))) ?_
 refine TO.Dz 1 rfl rfl (Oj rfl rfl (vl rfl) (Va rfl) B_ rfl (Bg fun _=>rfl) (by rw [List.getElem?_map,hx];rfl) (by decide) (show _=(e.Be.set c.AV.toNat (Dl x c).1).map BV by rw [List.map_set];rfl)) ?_
 refine ao ?_
 refine Tr.drop 2 (Cc 4 8 rfl (Tr.seq (Tr.Mx 0 1 0 rfl rfl (by decide) rfl (Lr) (Bg fun _=>rfl) ?_)))
 refine ao ?_
 refine TO.AK 2 rfl rfl rfl (vl rfl) (Va rfl) rfl C7 rfl rfl ?_
 refine ao ?_
 refine Tr.drop 1 (Tr.ret (Fin.BK rfl (AO.cell 1 rfl rfl C8 C7 rfl (Lr)) (AO.tmp rfl (Lr)) ?_))
 refine Am ⟨?_,?_,trivial⟩
 · rw [hA];exact Lr
 · exact int_eq (by rw [hA])
theorem Pn {e:DD} {l:List BQ} {s:List Int} {n:Nat} (hz:e.sz n) (hn:n≤800000) (hc:∀c∈l,c.Cw.fits∧c.Cw.small):BA prog 112 [agg (B1 e),slice 8 (l.map Et),ints s] (EK [agg (B1 (SS e l s).1),int (SS e l s).2]):=by
 refine fo func112 rfl ⟨rfl,rfl⟩ fun M0 w0=>(Tr.Cv 1 rfl fun GV=>(Tr.Cv 2 rfl fun cW=>(Tr.seq (Tr.An (tp rfl (Bb rfl (Va rfl)) ?_)))))
 refine Tl rfl rfl rfl rfl z31 HR (fun b1=> ?_)
 refine ap ?_
 refine ac ?_
 refine co rfl (Cq (DV (hz.fits (by omega))) rfl rfl) ?_
 refine an ?_ ?_<;>intro h1 q1
 have hA:SS e l s=(Ff,31):=if_pos (by have:=q1;cases h_:E3 e<;>simp_all)
 refine ap ?_
 refine Tr.ret (Fin.AD (Fin.BK rfl (AO.cell 0 rfl rfl C8 C7 rfl (Lr)) (AO.tmp rfl (Lr)) ?_))
 refine Am ⟨?_,?_,trivial⟩
 · rw [hA];exact Aw ⟨AF 9,AF 2,AF 5,trivial⟩
 · exact int_eq (by rw [hA])
 have hok:E3 e=true:=by have:=q1;cases h_:E3 e<;>simp_all
 refine ac ?_
 refine an ?_ ?_<;>intro h2 q2
 have hA:SS e l s=(Ff,3):=by unfold SS;rw [if_neg (by simp [hok]),if_pos (by have:=q2;omega)]
 refine ap ?_
 refine Tr.ret (Fin.AD (Fin.BK rfl (AO.cell 0 rfl rfl C8 C7 rfl (Lr)) (AO.tmp rfl (Lr)) ?_))
 refine Am ⟨?_,?_,trivial⟩
 · rw [hA];exact Aw ⟨AF 9,AF 2,AF 5,trivial⟩
 · exact int_eq (by rw [hA])
 have ABC:l.length≤24:=by have:=q2;omega
 refine a2 ?_
 refine co rfl (CF (Kh (l:=s) (n:=((l.length:Nat):Int))) rfl rfl rfl) ?_
 refine ac ?_
 refine KP 1 2 3 6 25 rfl ?_
 refine Tr.cn rfl ?_ ?_<;>intro h3 q3
 have hA:SS e l s=(Ff,46):=by unfold SS;rw [if_neg (by simp [hok]),if_neg (by omega),if_pos (by simpa using h3)]
 refine ap ?_
 refine Tr.ret (Fin.AD (Fin.BK rfl (AO.cell 0 rfl rfl C8 C7 rfl (Lr)) (AO.tmp rfl (Lr)) ?_))
 refine Am ⟨?_,?_,trivial⟩
 · rw [hA];exact Aw ⟨AF 9,AF 2,AF 5,trivial⟩
 · exact int_eq (by rw [hA])
 have hsb:Dj l.length s=true:=by simpa using h3
 have hsn:=XS hsb
 have hel:=hz.le
 refine ac ?_
 refine ap ?_
 refine TO.bQ rfl rfl (by decide) rfl (Pm hz (by omega)) ⟨ke rfl,trivial⟩ (fun v1=> ?_)
 refine Tl rfl rfl rfl rfl z31 HR (fun b2=> ?_)
 refine ap ?_
 refine Tr.seq (Tr.seq (Tr.Mx 0 1 0 rfl rfl (by decide) rfl (Lr) (Bg fun _=>rfl) ?_))
 refine ac ?_
 refine Tr.drop 1 (Tr.block (Tr.Cy [(1,_),(6,_),(8,_),(29,_),(30,_)] ⟨ke rfl,ke rfl,ke rfl,ke rfl,ke rfl,trivial⟩ (fun (m:Nat) (Be:List Bs)=>[(31,int ((m:Nat):Int))]) (fun (m:Nat) (Be:List Bs)=>Hp M0 w0 FR ([AB true b2 31 (B1 ⟨Be,e.BE,e.items⟩),AB true b1 31 (([.slice none 0 0,.slice none 0 0,.slice none 0 0]:List Value).map is)])) (fun (m:Nat) (Be:List Bs)=>m≤s.length∧(⟨Be,e.BE,e.items⟩:DD).sz (n+m)∧MQ l (s.drop m) Be=MQ l s e.Be) (fun (m:Nat) (Be:List Bs)=>s.length-m) (0) (e.Be)  (⟨Nat.zero_le _,hz,rfl⟩) ⟨ke rfl,trivial⟩ (fun _ _ h=>h) ?_))
 rintro m Be  ⟨hm1,mz,hm4⟩
 refine ac ?_
 refine Tr.seq ?_
 refine Tr.cn rfl ?_ ?_<;>intro h4 q4
 have hmm:m<s.length:=by have:=D_.Eo h4;omega
 obtain ⟨i,EJ⟩:=at_ hmm
 have nW:=Nw hsb EJ
 obtain ⟨c,Z6⟩:=at_ (l:=l) (k:=i.toNat) (by omega)
 have hci:=hc c (List.mem_of_getElem? Z6)
 have hst:=Yv (Be:=Be) EJ Z6
 rw [hm4] at hst
 refine ac ?_
 refine Tr.seq (Tr.block (Tr.seq (Tr.Ah (co rfl (AA rfl underlying38 B4 (vl rfl) (vl rfl) (by omega) (AP EJ)) ?_))))
 refine ac ?_
 refine Tr.seq (Tr.pad (Tr.rx ?_))
 refine ax ?_
 refine xo rfl (fun _=>AA rfl underlying32 Di (vl rfl) (vl rfl) (by omega) (BS (f:=Et) Z6)) (xo rfl (fun _=>AQ rfl Ib Di (vl rfl) rfl rfl) ?_)
 refine xo rfl (fun _=>CF (Zb (e:=⟨Be,e.BE,e.items⟩) (c:=c) mz (by omega) hci) rfl rfl rfl) ?_
 refine ax ?_
 refine Cx.ef 0 rfl rfl (by decide) (Ca rfl rfl (by decide) rfl z31 HR) (Cx.Dz 0 rfl rfl (DC rfl rfl rfl rfl (Va rfl) C7 rfl rfl) (xm rfl ?_))
 refine Cx.nil ⟨by kernel_rfl,?_⟩
 refine BH.open_ 0 11 rfl rfl (fun v2=> ?_)
 refine BH.done al3 (Fin.MB 11 0 _ rfl rfl (fun _=>rfl) (fun b3=> ?_))
 refine Fin.go (J0 1 6 8 11 12 29 30 31 rfl ?_)
 refine an ?_ ?_<;>intro h5 q5
 obtain ⟨h0_,h1_,h2_⟩:=lQ (e:=⟨Be,e.BE,e.items⟩) (c:=c) (by have:=q5;omega)
 have h0_:¬(KD Be c).2=0:=h0_
 rw [if_neg h0_] at hst
 have hA:SS e l s=(Ff,(RQ ⟨Be,e.BE,e.items⟩ c).2):=by unfold SS;rw [if_neg (by simp [hok]),if_neg (by omega),if_neg (by simp [hsb]),hst,h1_];exact if_neg h0_
 refine ap ?_
 refine Tr.drop 0 (Tr.ret (Fin.AD (Fin.AX (Fin.AD (Fin.AD (Fin.AX (Fin.AD (Fin.BK rfl (AO.cell 1 rfl rfl C8 C7 rfl (Lr)) (AO.tmp rfl (Lr)) ?_))))))))
 refine Am ⟨?_,?_,trivial⟩
 · rw [hA];exact Aw ⟨AF 9,AF 2,AF 5,trivial⟩
 · exact int_eq (by rw [hA])
 have hs0:(RQ ⟨Be,e.BE,e.items⟩ c).2=0:=by have:=q5;omega
 have hap:(KD Be c).2=0:=by by_cases h0:(KD Be c).2=0;exact h0;(exfalso;unfold RQ at hs0;rw [if_neg (show ¬(KD (⟨Be,e.BE,e.items⟩:DD).Be c).2=0 from h0)] at hs0;exact h0 hs0)
 refine ac ?_
 refine ap ?_
 refine Tr.drop 0 ?_
 refine ac ?_
 refine Fin.gP 0 (B1 ⟨(KD Be c).1,e.BE,e.items⟩) rfl (by rw [(WN mz hci hs0).2];rfl) ?_
 exact Fin.C5 (m+1) ((KD Be c).1)  (⟨⟨by omega,by have h_:=(WN mz hci hs0).1;rw [(WN mz hci hs0).2] at h_;rw [show n+(m+1)=n+m+1 by omega];exact h_,by rw [hst,if_pos hap]⟩,by omega⟩) ⟨⟨_,rfl,AE m⟩,ke rfl,ke rfl,ke rfl,ke rfl,ke rfl,trivial⟩ (fun _ _ h=>h)
 obtain rfl:m=s.length:=by have:=D_.Eo h4;omega
 rw [List.drop_length] at hm4
 have hA:SS e l s=(⟨Be,e.BE,e.items⟩,0):=by unfold SS;rw [if_neg (by simp [hok]),if_neg (by omega),if_neg (by simp [hsb]),←hm4];exact if_pos rfl
 refine ac ?_
 refine ap ?_
 refine Tr.ret (Fin.BK rfl (AO.cell 1 rfl rfl C8 C7 rfl (Lr)) (AO.tmp rfl (Lr)) ?_)
 refine Am ⟨?_,?_,trivial⟩
 · rw [hA];exact Lr
 · exact int_eq (by rw [hA])
theorem QU {e:DD} {l:List BQ} {i:Int} {n:Nat} (hz:e.sz n) (hn:n≤800000)  :BA prog 134 [agg (B1 e),slice 8 (l.map Et),int i] (EK [ints (IV e l i).1,int (IV e l i).2]):=by
 refine fo func134 rfl ⟨rfl,rfl⟩ fun M0 w0=>(Tr.Cv 1 rfl fun GV=> ?_)
 refine a2 ?_
 refine co rfl (Cq (DV (hz.fits (by omega))) rfl rfl) ?_
 refine an ?_ ?_<;>intro h1 q1
 have hA:IV e l i=([],31):=if_pos (by have:=q1;cases h_:E3 e<;>simp_all)
 refine ac ?_
 refine Tr.ret (Fin.AD (Fin.DG rfl (Bc.DZ _ _) rfl ?_ rfl ?_))
 · rw [hA];exact AF 1
 · exact int_eq (by rw [hA])
 have hok:E3 e=true:=by have:=q1;cases h_:E3 e<;>simp_all
 refine ac ?_
 refine an ?_ ?_<;>intro h2 q2
 have hA:IV e l i=([],3):=by unfold IV;rw [if_neg (by simp [hok]),if_pos (by have:=q2;omega)]
 refine ac ?_
 refine Tr.ret (Fin.AD (Fin.DG rfl (Bc.DZ _ _) rfl ?_ rfl ?_))
 · rw [hA];exact AF 1
 · exact int_eq (by rw [hA])
 have ABC:l.length≤24:=by have:=q2;omega
 refine ac ?_
 refine ag ?_ ?_<;>intro h3 q3
 refine ac ?_
 refine Ef 1 2 3 25 rfl ?_
 refine ac ?_
 refine Tr.ret (Fin.AD (Fin.DG rfl (Bc.DZ _ _) rfl ?_ rfl ?_))
 · rw [(show IV e l i=([],4) by unfold IV;rw [if_neg (by simp [hok]),if_neg (by omega),if_pos (by omega)])];exact AF 1
 · exact int_eq (by rw [(show IV e l i=([],4) by unfold IV;rw [if_neg (by simp [hok]),if_neg (by omega),if_pos (by omega)])])
 refine ac ?_
 refine Ef 1 2 3 25 rfl ?_
 refine Tr.cn rfl ?_ ?_<;>intro h4 q4
 refine ac ?_
 refine Tr.ret (Fin.AD (Fin.DG rfl (Bc.DZ _ _) rfl ?_ rfl ?_))
 · rw [(show IV e l i=([],4) by unfold IV;rw [if_neg (by simp [hok]),if_neg (by omega),if_pos (by omega)])];exact AF 1
 · exact int_eq (by rw [(show IV e l i=([],4) by unfold IV;rw [if_neg (by simp [hok]),if_neg (by omega),if_pos (by omega)])])
 obtain ⟨g,hg⟩:=at_ (l:=e.BE) (k:=i.toNat) (by omega)
 have hA:IV e l i=(Mh g l l.length,0):=by unfold IV;rw [if_neg (by simp [hok]),if_neg (by omega),if_neg (by omega),getD_at hg]
 refine a3 ?_
 refine Tr.block (Tr.B0 3 1 (Tr.E8 [(2,_),(3,_),(26,_),(27,_)] ⟨ke rfl,ke rfl,ke rfl,ke rfl,trivial⟩ (fun k v=>[(28,int ((k:Nat):Int)),(8,Ag v (ints (Mh g l k)))]) (fun k v=>Hp M0 w0 FR ([Aq 3 1 v])) (fun k:Nat=>k≤(l).length) (fun k:Nat=>(l).length-k) 0 (.slice none 0 0) (Nat.zero_le _) ⟨ke rfl,⟨_,rfl,Bf rfl⟩,trivial⟩ (fun _ _ h=>h) ?_))
 rintro k v BP
 refine ac ?_
 refine Tr.seq ?_
 refine Tr.cn rfl ?_ ?_<;>intro h5 q5
 have Ai:k<(l).length:=AG h5
 obtain ⟨c,Af⟩:=at_ Ai
 have hrl:=UY g l k
 refine ac ?_
 refine ao ?_
 refine tp rfl (AA rfl underlying32 Di (vl rfl) (vl rfl) (by omega) (AP Af)) (tp rfl (AQ rfl Ib Di (vl rfl) rfl rfl) ?_)
 refine Tl rfl rfl rfl rfl QB LL (fun b1=> ?_)
 refine tm rfl ?_
 refine sf 0 10 ⟨rfl,rfl,rfl⟩ rfl rfl rfl rfl ?_
 refine ao ?_
 refine J0 2 3 8 9 10 26 27 28 rfl ?_
 refine ac ?_
 refine co rfl (AA rfl underlying28 Gj (vl rfl) (vl rfl) (by omega) (BS (f:=qA) hg)) ?_
 refine ag ?_ ?_<;>intro h6 q6
 have hP:Ss g l k=true:=by unfold Ss;rw [Af];simp;omega
 refine ac ?_
 refine J0 2 3 8 9 26 27 28 52 rfl (Tr.cond rfl (fun _=> ?_) (fun h=>nomatch h))
 refine Tr.An (tm rfl (tm rfl (tp rfl (AM (xs:=[.tmp 54]) (rows:=[[_]]) rfl rfl underlying38 B4 z3 rfl (by decide) ⟨⟨(by exact rfl),(Vo rfl)⟩,trivial⟩ (by decide)) ?_)))
 refine TO.Dh 0 rfl rfl (by decide) (Bt rfl rfl rfl rfl underlying38 B4 Jf z3 (Kb rfl) (Kf rfl) (Au (by exact List.Mem.head _) (Ka rfl))) (fun v1=> ?_)
 refine ao ?_
 refine ac ?_
 exact Fin.Da (k+1) v1 (⟨Ai,by omega⟩) ⟨⟨_,rfl,AE k⟩,⟨_,rfl,A7 (by rw [UX hP,List.map_append];rfl)⟩,ke rfl,ke rfl,ke rfl,ke rfl,trivial⟩ (fun _ _ h=>h)
 refine ac ?_
 refine cy h6 rfl (AA rfl underlying28 Gj (vl rfl) (vl rfl) (by omega) (BS (f:=qA) hg)) ?_
 refine ac ?_
 refine J0 2 3 8 9 26 27 28 52 rfl ?_
 refine Tr.cn rfl ?_ ?_<;>intro h7 q7
 have hP:Ss g l k=true:=by unfold Ss;rw [Af];simp;omega
 refine ao ?_
 refine TO.Dh 0 rfl rfl (by decide) (Bt rfl rfl rfl rfl underlying38 B4 Jf z3 (Kb rfl) (Kf rfl) (Au (by exact List.Mem.head _) (Ka rfl))) (fun v2=> ?_)
 refine ao ?_
 refine ac ?_
 exact Fin.Da (k+1) v2 (⟨Ai,by omega⟩) ⟨⟨_,rfl,AE k⟩,⟨_,rfl,A7 (by rw [UX hP,List.map_append];rfl)⟩,ke rfl,ke rfl,ke rfl,ke rfl,trivial⟩ (fun _ _ h=>h)
 have hP:Ss g l k=false:=by unfold Ss;rw [Af];simp;omega
 refine a2 ?_
 exact Fin.Da (k+1) v (⟨Ai,by omega⟩) ⟨⟨_,rfl,AE k⟩,⟨_,rfl,Pr.le_of_eq (by rw [lO hP])⟩,ke rfl,ke rfl,ke rfl,ke rfl,trivial⟩ (fun _ _ h=>h)
 have BJ:k=(l).length:=by have:=AH h5;omega
 subst BJ
 refine a2 ?_
 refine Tr.ret (Fin.DG rfl (Bc.DZ _ _) rfl ?_ rfl ?_)
 · rw [hA];exact Ak _ _
 · exact int_eq (by rw [hA])
open Classical in
section
variable {e:DD} {c:BB} {l:List BQ} {r:List BG} {d:List Int}
end
structure HI (n:Nat) (r:List BG):Prop where
 up:∀q∈r,(0≤q.fst∧q.fst<q.thn)∧q.thn<n
 srt:DY r=true
theorem HI.nil (n:Nat):HI n []:=⟨(fun q h=>by cases h),rfl⟩
theorem Mi (r:List BG) (q:BG):PD r [q]=Fg (r.foldl Fg []) q:=rfl
theorem HI.put {n:Nat} {r:List BG} (h:HI n r) {x y:Int} (h0:0≤x) (h1:x<y) (h2:y<n):HI n (PD r [⟨x,y⟩]):=by
 refine ⟨fun q hq=> ?_,?_⟩
 ·
  rw [Mi,T9,QK] at hq
  rcases hq with rfl|hq|hq
  · exact ⟨⟨h0,h1⟩,h2⟩
  · cases hq
  · exact h.up q hq
 · rw [Mi];exact NA (MV r rfl)
theorem WO (r:List BG) (q:BG):(PD r [q]).length≤r.length+1:=by
 rw [Mi]
 have h1:=PB (r.foldl Fg []) q
 have h2:=Fu r []
 simp at h2;omega
theorem HI.valid {n:Nat} {r:List BG} (h:HI n r) (hn:n≤24):BC n r=0:=dj hn h.up h.srt
theorem lR {b:Nat} {s:DS} {n:Nat} (hn:n≤24):CX prog 17 [ptr b 0,int ((n:Nat):Int)] (Cp.ex fun r:List BG=>fact (HI n r∧r.length≤2*n) (reqs r)) (C1 b s) (fun _=>Hv 48 b):=by
 refine CX.of func17 rfl rfl (by exact Nb rfl) fun M0 w0 S rs M1 w1=> ?_
 have Zt:=s.Ci (n:=2*(n:Int)+1) (by omega)
 refine Tr.seq (Tr.Ah (cm rfl (Ch.nil (Fin.go (Tr.seq (Tr.Ah (cm rfl (Ch.nil (Fin.go (Tr.seq (Tr.seq (Tr.An (tm rfl ?_)))))))))))))
 refine tm rfl ?_
 refine tp rfl (aB rfl (vl rfl) (vl rfl) ?hin) ?_;case hin=>unfold Kz;omega
 refine tp rfl (Er rfl (vl rfl) (vl rfl) ?hin) ?_;case hin=>unfold Kz;omega
 refine TO.Jc 0 rfl rfl (by decide) (As rfl rfl (by decide) rfl (CE (by omega) (by omega)) ⟨ke rfl,ke rfl,trivial⟩) (tm rfl (TO.nil (Fin.go (Tr.block ?_))))
 refine Tr.Iy [(0,_),(1,_)] ⟨ke rfl,ke rfl,trivial⟩ (fun (r:List BG) (k:Int) (s2:DS)=>[(6,int k),(5,reqs r)]) (fun (r:List BG) (k:Int) (s2:DS)=>Hp M0 w0 S (C1 b s2::Aj M1 w1::rs)) (fun (r:List BG) (k:Int) (s2:DS)=>0≤k∧HI n r∧(r.length:Int)+k≤2*n) (fun (r:List BG) (k:Int) (s2:DS)=>k.toNat) ([]) (s.val (2*(n:Int)+1)) (_)  (⟨by omega,HI.nil n,by simp;omega⟩) ⟨ke rfl,⟨_,rfl,AF 2⟩,trivial⟩ (fun _ _ h=>h) ?_
 rintro r k s2  ⟨hk0,hN,hrl⟩
 refine Tr.seq (Tr.seq (Tr.Ah (cm rfl (co rfl (ki rfl rfl rfl rfl) (cm rfl ?_)))))
 refine Ch.cs 16 rfl ?_ ?_<;>intro h1 q1
 have hkp:k>0:=by simpa using h1
 refine Jd h1 rfl (cy h1 rfl (ki rfl rfl rfl rfl) (co rfl (Na rfl rfl h1 rfl) (Ch.nil (Fin.go ?_))))
 refine Tr.cn rfl ?_ ?_<;>intro h2 q2
 have hn1:((n:Nat):Int)>1:=by simpa using h2
 have XC:=s2.Ci (n:=(n:Int)) (by omega)
 have Wm:=s2.CM.Ci (n:=(n:Int)) (by omega)
 refine Tr.skip (Fin.go (Tr.seq (Tr.block (Tr.seq (Tr.An (tm rfl (tm rfl (TO.Jc 0 rfl rfl (by decide) (As rfl rfl (by decide) rfl (CE (by omega) (by omega)) ⟨ke rfl,ke rfl,trivial⟩) (tm rfl (tm rfl (TO.Jc 0 rfl rfl (by decide) (As rfl rfl (by decide) rfl (CE (by omega) (by omega)) ⟨ke rfl,ke rfl,trivial⟩) (tm rfl (tm rfl ?_)))))))))))))
 refine TO.nil (Fin.go (K0 0 1 5 6 7 8 rfl (Tr.seq (Tr.Ah (cm rfl (cm rfl (co rfl (ki rfl rfl rfl rfl) (Ch.nil (Fin.go ?_)))))))))
 refine Tr.cn rfl ?_ ?_<;>intro h3 q3
 refine Tr.Ah (cm rfl (cm rfl (cm rfl (co rfl (Al (rows:=[(0,[_]),(1,[_])]) rfl mI Iz ⟨⟨rfl,(Vo rfl)⟩,⟨⟨rfl,(Vo rfl)⟩,trivial⟩⟩ rfl) (co rfl (AM (xs:=[.tmp 34]) (rows:=[_]) rfl rfl underlying33 Bl z117 rfl (by decide) ⟨⟨(by exact rfl),(Va rfl)⟩,trivial⟩ (by decide)) ?_)))))
 refine co rfl (AR rfl (Vp (a:=r) (b:=[⟨s2.val n,s2.CM.val n⟩]) (by omega) (by simp)) ⟨ke rfl,(Kf rfl),trivial⟩) ?_
 refine cm rfl (Ch.nil (Fin.block (Fin.go (Ef 0 1 5 6 rfl (Tr.Ah (cm rfl (csu rfl rfl rfl rfl (by omega) (cm rfl (Ch.nil ?_)))))))))
 exact Fin.EV (PD r [⟨s2.val n,s2.CM.val n⟩]) (k-1) (_)  (⟨⟨by omega,hN.put (by omega) (by simpa using h3) (by omega),by have:=WO r ⟨s2.val n,s2.CM.val n⟩;omega⟩,by omega⟩) ⟨ke rfl,ke rfl,ke rfl,ke rfl,trivial⟩ (fun _ _ h=>h)
 refine Tr.skip (Fin.block (Fin.go (Tr.Ah (cm rfl (csu rfl rfl rfl rfl (by omega) (cm rfl (Ch.nil (Fin.EV (r) (k-1) (_)  (⟨⟨by omega,hN,by omega⟩,by omega⟩) ⟨ke rfl,ke rfl,ke rfl,ke rfl,trivial⟩ (fun _ _ h=>h)))))))))
 have:=h2
 refine Tr.exit (Fin.Ad (Fin.Ad (Fin.Ax (Fin.go (Tr.seq (Tr.Ah (cm rfl (cm rfl (Ch.nil (Fin.go (Tr.ret (Fin.GO 0 _ rfl rfl (Fin.Fy [] rfl (AO.tmp rfl (Lr)) ?_ (fun _ _ _ _=>rfl))))))))))))))
 · exact AJ r (AU ⟨hN,by omega⟩ (Lr))
 refine cnt h1 rfl (cnt h1 rfl (co rfl (Mq rfl rfl h1 rfl) (Ch.nil (Fin.go (Tr.cond rfl (fun h=>nomatch h) (fun _=> ?_))))))
 refine Tr.exit (Fin.Ad (Fin.Ad (Fin.Ax (Fin.go (Tr.seq (Tr.Ah (cm rfl (cm rfl (Ch.nil (Fin.go (Tr.ret (Fin.GO 0 _ rfl rfl (Fin.Fy [] rfl (AO.tmp rfl (Lr)) ?_ (fun _ _ _ _=>rfl))))))))))))))
 · exact AJ r (AU ⟨hN,by omega⟩ (Lr))
def Lx (e:Bs) (c:BQ):Int:=
 if c.kind=7∨c.kind=9 then 0 else if c.kind=5 then 1 else if c.kind=1∨c.kind=12 then 2
 else if c.kind=3 then (if c.number>e.most then 2 else 3) else if c.kind=4 then (if c.number<e.least then 2 else 3) else if c.kind=11 then (if c.number=1 then 2 else 3) else 3
def Po (a b:Int) (x:Ho):Bool:=(decide (x.client=a)&&decide (x.server=b))||(decide (x.client=b)&&decide (x.server=a))
def NK (l:List Ho) (a b:Int):Bool:=decide (a=b)||l.any (Po a b)
theorem ff {l:List Ho} {a b:Int} {k:Nat} {x:Ho} (hx:l[k]? =some x) (h:Po a b x=true):NK l a b=true:=by unfold NK;rw [List.any_eq_true.2 ⟨x,List.mem_of_getElem? hx,h⟩,Bool.or_true]
theorem lS {l:List Ho} {a b:Int} (h0:a≠b) (h:∀j y,j<l.length→l[j]? =some y→Po a b y=false):NK l a b=false:=by
 unfold NK
 rw [Bool.or_eq_false_iff,decide_eq_false_iff_not,List.any_eq_false]
 refine ⟨h0,fun y hy=> ?_⟩
 obtain ⟨j,hj⟩:=List.mem_iff_getElem?.1 hy
 rw [h j y (BD hj) hj];decide
def UZ (l:List BQ) (i:Nat):BQ:=l[i]?.getD G3
def WQ (e:DD) (c:BQ):Int:=Lx (e.Be[c.AV.toNat]?.getD Dv) c
def fk (e:DD) (l:List BQ) (i k:Nat):Bool:=NK e.BE (UZ l i).AV (UZ l k).AV&&decide (WQ e (UZ l i)<WQ e (UZ l k))
def NY (e:DD) (l:List BQ) (i n:Nat):List BG:=((List.range n).filter (fk e l i)).map fun k:Nat=>⟨(i:Int),(k:Int)⟩
def Ua (e:DD) (l:List BQ) (m:Nat):List BG:=(List.range m).flatMap fun i=>NY e l i l.length
def lT (e:DD) (l:List BQ):List BG:=Ua e l l.length
theorem Ub (e:DD) (l:List BQ) (i n:Nat):(NY e l i n).length≤n:=by unfold NY;rw [List.length_map];exact Nat.le_trans (List.length_filter_le _ _) (by rw [List.length_range];exact Nat.le_refl _)
theorem RR (e:DD) (l:List BQ) (m:Nat):Ua e l (m+1)=Ua e l m++NY e l m l.length:=by unfold Ua;rw [List.range_succ,List.flatMap_append];simp
theorem Pp (e:DD) (l:List BQ):∀m,(Ua e l m).length≤m*l.length
 |0=>by simp [Ua]
 |m+1=>by have h1:=Pp e l m;have h2:=Ub e l m l.length;rw [RR,List.length_append,Nat.succ_mul];omega
theorem fm {e:DD} {l:List BQ} {i k:Nat} (h:fk e l i k=true):NY e l i (k+1)=NY e l i k++[⟨(i:Int),(k:Int)⟩]:=by unfold NY;rw [List.range_succ,List.filter_append,List.map_append];simp [h]
theorem X6 {e:DD} {l:List BQ} {i k:Nat} (h:fk e l i k=false):NY e l i (k+1)=NY e l i k:=by unfold NY;rw [List.range_succ,List.filter_append,List.map_append];simp [h]
theorem RS {e:Bs} {c:BQ}  :BA prog 55 [agg (BV e),agg (Et c)] (int (Lx e c)):=by
 refine fo func55 rfl ⟨rfl,rfl⟩ fun M0 w0=> ?_
 refine a2 ?_
 refine an ?_ ?_<;>intro h1 q1
 refine ac ?_
 refine Tr.cond rfl (fun _=> ?_) (fun h=>nomatch h1.symm.trans h)
 refine a2 ?_
 · refine int_eq ?_;unfold Lx;(repeat' split)<;>omega
 refine an ?_ ?_<;>intro h2 q2
 refine a2 ?_
 · refine int_eq ?_;unfold Lx;(repeat' split)<;>omega
 refine an ?_ ?_<;>intro h3 q3
 refine a2 ?_
 · refine int_eq ?_;unfold Lx;(repeat' split)<;>omega
 refine an ?_ ?_<;>intro h4 q4
 refine ac ?_
 refine Tr.cond rfl (fun _=> ?_) (fun h=>nomatch h4.symm.trans h)
 refine ac ?_
 refine FX 4 rfl ?_
 refine ac ?_
 · refine int_eq ?_;unfold Lx;(repeat' split)<;>omega
 · repeat' first|(refine int_eq ?_;unfold Lx;(repeat' split)<;>omega)|refine ac ?_|(refine Tr.cn rfl ?_ ?_<;>intro h q)
theorem Uc {e:DD} {a b:Int}  :BA prog 54 [agg (B1 e),int a,int b] (bool (NK e.BE a b)):=by
 refine fo func54 rfl ⟨rfl,rfl⟩ fun M0 w0=>(Tr.G_ 0 1 rfl rfl fun Jp=> ?_)
 refine ac ?_
 refine an ?_ ?_<;>intro h1 q1
 refine a2 ?_
 · refine bool_eq ?_;symm;unfold NK;rw [decide_eq_true (by assumption),Bool.true_or]
 refine a2 ?_
 refine Tr.block (Tr.A9 [(1,_),(2,_),(13,_),(14,_)] (YO rfl) (fun k:Nat=>[(15,int ((k:Nat):Int))]) (fun k:Nat=>k≤(e.BE).length∧(∀j y,j<k→e.BE[j]? =some y→Po a b y=false)) (fun k:Nat=>(e.BE).length-k) 0 (⟨Nat.zero_le _,fun j y hj=>absurd hj (by omega)⟩) ⟨ke rfl,trivial⟩ ?_)
 rintro k ⟨BP,AW⟩
 refine ac ?_
 refine Tr.seq ?_
 refine Tr.cn rfl ?_ ?_<;>intro h2 q2
 have Ai:k<(e.BE).length:=AG h2
 obtain ⟨x,Af⟩:=at_ Ai
 refine ac ?_
 refine Tr.seq (Tr.block (Tr.seq (Tr.An (tp rfl (AA rfl underlying28 Gj (vl rfl) (vl rfl) (by omega) (AP Af)) (tp rfl (AQ rfl TR Gj (vl rfl) rfl rfl) ?_)))))
 refine Tl rfl rfl rfl rfl oZ aq (fun b1=> ?_)
 refine sf 0 8 ⟨rfl,rfl,rfl⟩ rfl rfl rfl rfl ?_
 refine ao ?_
 · repeat' first|(refine bool_eq ?_;symm;exact ff Af (by unfold Po;simp_all))|(exact Fin.AL (k+1) ⟨⟨Ai,Du (p:=Po a b) Af (by unfold Po;simp_all) AW⟩,by omega⟩ ⟨⟨_,rfl,AE k⟩,ke rfl,ke rfl,ke rfl,ke rfl,trivial⟩)|refine ac ?_|(refine Tr.cn rfl ?_ ?_<;>intro h q)|(refine Ch.cg rfl rfl rfl ?_ ?_<;>intro h q)
 have BJ:k=(e.BE).length:=by have:=AH h2;omega
 subst BJ
 refine a3 ?_
 · refine bool_eq ?_;symm;exact lS (by assumption) AW
theorem Ud {e:DD} {l:List BQ} (hf:e.fits) (he:E3 e=true) (Jk:l.length≤24) (hr:∀c∈l,0≤c.AV∧c.AV<(e.Be.length:Nat)):BA prog 38 [agg (B1 e),Eu l] (EK [reqs (lT e l),int 0]):=by
 refine fo func38 rfl ⟨rfl,rfl⟩ fun M0 w0=>(Tr.G_ 0 0 rfl rfl fun Jo=> ?_)
 refine a2 ?_
 refine co rfl (Cq (DV hf) rfl rfl) ?_
 refine an ?_ ?_<;>intro h1 q1
 exact absurd h1 (by rw [if_pos he];decide)
 refine ac ?_
 refine an ?_ ?_<;>intro h2 q2
 exfalso;have:=q2;omega
 refine a2 ?_
 refine Tr.block (Tr.A9 [(1,_),(2,_),(19,_),(20,_)] (YO rfl) (fun m:Nat=>[(21,int ((m:Nat):Int))]) (fun m:Nat=>m≤(l).length) (fun m:Nat=>(l).length-m) 0 (Nat.zero_le _) ⟨ke rfl,trivial⟩ ?_)
 rintro m Lc
 refine ac ?_
 refine Tr.seq ?_
 refine Tr.cn rfl ?_ ?_<;>intro h3 q3
 have EB:m<(l).length:=AG h3
 obtain ⟨x,EJ⟩:=at_ EB
 have hrm:=hr x (List.mem_of_getElem? EJ)
 refine ac ?_
 refine Tr.seq (Tr.block (Tr.seq (Tr.An (tp rfl (AA rfl underlying32 Di (vl rfl) (vl rfl) (by omega) (AP EJ)) (tp rfl (AQ rfl Ib Di (vl rfl) rfl rfl) ?_)))))
 refine Tl rfl rfl rfl rfl QB LL (fun b1=> ?_)
 refine sf 0 7 ⟨rfl,rfl,rfl⟩ rfl rfl rfl rfl ?_
 refine ao ?_
 · repeat' first|(exfalso;have:=hr x (List.mem_of_getElem? EJ);omega)|exact Fin.AL (m+1) ⟨EB,by omega⟩ ⟨⟨_,rfl,AE m⟩,ke rfl,ke rfl,ke rfl,ke rfl,trivial⟩|refine ac ?_|(refine Tr.cn rfl ?_ ?_<;>intro h q)|(refine Ch.cg rfl rfl rfl ?_ ?_<;>intro h q)
 have JF:m=(l).length:=by have:=AH h3;omega
 refine a3 ?_
 refine Tr.block (Tr.B0 117 2 (Tr.E8 [(1,_),(2,_),(37,_),(38,_)] ⟨ke rfl,ke rfl,ke rfl,ke rfl,trivial⟩ (fun i v=>[(39,int ((i:Nat):Int)),(8,Ag v (reqs (Ua e l i)))]) (fun i v=>Hp M0 w0 FR ([Aq 117 2 v])) (fun i:Nat=>i≤(l).length) (fun i:Nat=>(l).length-i) 0 (.slice none 0 0) (Nat.zero_le _) ⟨ke rfl,⟨_,rfl,Bf rfl⟩,trivial⟩ (fun _ _ h=>h) ?_))
 rintro i v Tv
 refine ac ?_
 refine Tr.seq ?_
 refine Tr.cn rfl ?_ ?_<;>intro h6 q6
 have Ip:i<(l).length:=AG h6
 obtain ⟨x,JE⟩:=at_ Ip
 have hri:=hr x (List.mem_of_getElem? JE)
 obtain ⟨ex,hex⟩:=at_ (l:=e.Be) (k:=x.AV.toNat) (by omega)
 have hln:=Pp e l i
 have mR:i*l.length≤24*24:=Nat.mul_le_mul (by omega) Jk
 refine ac ?_
 refine ao ?_
 refine tp rfl (AA rfl underlying32 Di (vl rfl) (vl rfl) (by omega) (AP JE)) (tp rfl (AQ rfl Ib Di (vl rfl) rfl rfl) ?_)
 refine Tl rfl rfl rfl rfl QB LL (fun b2=> ?_)
 refine tm rfl ?_
 refine sf 0 10 ⟨rfl,rfl,rfl⟩ rfl rfl rfl rfl ?_
 refine ao ?_
 refine J0 1 2 8 9 10 37 38 39 rfl ?_
 refine ac ?_
 refine Tr.block (Tr.E8 [(1,_),(2,_),(9,_),(10,_),(37,_),(38,_),(39,_),(44,_),(45,_)] ⟨ke rfl,ke rfl,ke rfl,ke rfl,ke rfl,ke rfl,ke rfl,ke rfl,ke rfl,trivial⟩ (fun k v=>[(46,int ((k:Nat):Int)),(8,Ag v (reqs (Ua e l i++NY e l i k)))]) (fun k v=>Hp M0 w0 FR ([Aq 117 2 v])) (fun k:Nat=>k≤(l).length) (fun k:Nat=>(l).length-k) 0 v (Nat.zero_le _) ⟨ke rfl,⟨_,rfl,A7 (by simp [NY])⟩,trivial⟩ (fun _ _ h=>h) ?_)
 rintro k v BP
 refine ac ?_
 refine Tr.seq ?_
 refine Tr.cn rfl ?_ ?_<;>intro h7 q7
 have Ai:k<(l).length:=AG h7
 obtain ⟨y,Af⟩:=at_ Ai
 have hrk:=hr y (List.mem_of_getElem? Af)
 obtain ⟨ey,hey⟩:=at_ (l:=e.Be) (k:=y.AV.toNat) (by omega)
 have Yk:=Ub e l i k
 have hB:fk e l i k=(NK e.BE x.AV y.AV&&decide (Lx ex x<Lx ey y)):=by unfold fk WQ UZ;rw [JE,Af,Option.getD_some,Option.getD_some,hex,hey];rfl
 refine ac ?_
 refine ao ?_
 refine tp rfl (AA rfl underlying32 Di (vl rfl) (vl rfl) (by omega) (AP Af)) (tp rfl (AQ rfl Ib Di (vl rfl) rfl rfl) ?_)
 refine Tl rfl rfl rfl rfl QB LL (fun b3=> ?_)
 refine tm rfl ?_
 refine sf 0 12 ⟨rfl,rfl,rfl⟩ rfl rfl rfl rfl ?_
 refine ao ?_
 refine LC 1 2 8 9 10 11 12 37 38 39 44 45 46 rfl ?_
 refine ac ?_
 refine co rfl (J2 (Uc (e:=e) (a:=x.AV) (b:=y.AV)) rfl rfl rfl rfl) ?_
 refine cm rfl ?_
 refine Ch.cs 57 rfl ?_ ?_<;>intro h8 q8
 refine ac ?_
 refine cy h8 rfl (AA rfl underlying27 B_ (vl rfl) (vl rfl) (by omega) (BS hex)) ?_
 refine ac ?_
 refine cy h8 rfl (CF (RS (e:=ex) (c:=x)) rfl rfl rfl) ?_
 refine ac ?_
 refine cy h8 rfl (AA rfl underlying27 B_ (vl rfl) (vl rfl) (by omega) (BS hey)) ?_
 refine ac ?_
 refine cy h8 rfl (CF (RS (e:=ey) (c:=y)) rfl rfl rfl) ?_
 refine ac ?_
 refine LC 1 2 8 9 10 11 37 38 39 44 45 46 75 rfl ?_
 refine Tr.cn rfl ?_ ?_<;>intro h9 q9
 refine ao ?_
 refine TO.Dh 0 rfl rfl (by decide) (Bt rfl rfl rfl rfl underlying33 Bl LM z117 (Kb rfl) (Kf rfl) (Au (by exact List.Mem.head _) (Ka rfl))) (fun v1=> ?_)
 refine ao ?_
 refine Es 1 2 8 9 10 37 38 39 44 45 46 rfl ?_
 refine ac ?_
 exact Fin.Da (k+1) v1 (⟨Ai,by omega⟩) ⟨⟨_,rfl,AE k⟩,⟨_,rfl,A7 (by rw [fm (by rw [hB,h8,h9];rfl),←List.append_assoc];simp;rfl)⟩,ke rfl,ke rfl,ke rfl,ke rfl,ke rfl,ke rfl,ke rfl,ke rfl,ke rfl,trivial⟩ (fun _ _ h=>h)
 refine a2 ?_
 exact Fin.Da (k+1) v (⟨Ai,by omega⟩) ⟨⟨_,rfl,AE k⟩,⟨_,rfl,A7 (by rw [X6 (by rw [hB,h8,h9];rfl)])⟩,ke rfl,ke rfl,ke rfl,ke rfl,ke rfl,ke rfl,ke rfl,ke rfl,ke rfl,trivial⟩ (fun _ _ h=>h)
 refine ac ?_
 refine LC 1 2 8 9 10 11 37 38 39 44 45 46 75 rfl ?_
 refine a2 ?_
 exact Fin.Da (k+1) v (⟨Ai,by omega⟩) ⟨⟨_,rfl,AE k⟩,⟨_,rfl,A7 (by rw [X6 (by rw [hB,h8];rfl)])⟩,ke rfl,ke rfl,ke rfl,ke rfl,ke rfl,ke rfl,ke rfl,ke rfl,ke rfl,trivial⟩ (fun _ _ h=>h)
 have BJ:k=(l).length:=by have:=AH h7;omega
 subst BJ
 refine a2 ?_
 exact Fin.Da (i+1) v (⟨Ip,by omega⟩) ⟨⟨_,rfl,AE i⟩,⟨_,rfl,A7 (by rw [RR])⟩,ke rfl,ke rfl,ke rfl,ke rfl,trivial⟩ (fun _ _ h=>h)
 have NU:i=(l).length:=by have:=AH h6;omega
 subst NU
 refine a2 ?_
 refine Tr.ret (Fin.DG rfl (Bc.DZ _ _) rfl ?_ rfl ?_)
 · exact Ak _ _
 · exact Lr
def nO (n:Nat):BB:=⟨[⟨0,300,[0]⟩],List.replicate n 0,[24]⟩
theorem rL {n:Nat} (hn:n≤1000):BA prog 16 [int ((n:Nat):Int)] (Kk (nO n)):=by
 refine fo func16 rfl ⟨rfl,rfl⟩ fun M0 w0=>(Tr.seq (Tr.An ?_))
 refine Tl rfl rfl rfl rfl z58 tU (fun b1=> ?_)
 refine ap ?_
 refine ap ?_
 refine tp rfl (Al (rows:=[(0,_),(1,[_])]) rfl tq OU ⟨⟨rfl,(Va rfl)⟩,⟨⟨rfl,⟨_,rfl,Pr.le_trans (Bq _ _) (Ae _)⟩⟩,trivial⟩⟩ rfl) ?_
 refine ap ?_
 refine tp rfl (PJ (m:=n) rfl underlying22 B4 Jf z3 rfl (by decide) (by decide) (vl rfl) (vl rfl) (by unfold maxLen;omega) (by omega)) ?_
 refine tp rfl (oI) ?_
 refine tp rfl (Al (rows:=[(0,[_]),(1,[_]),(2,[_])]) rfl zC tU ⟨⟨rfl,⟨_,rfl,Pr.le_trans (Bq _ _) (Ae _)⟩⟩,⟨⟨rfl,⟨_,rfl,Pr.le_trans (Pr.le_trans (Bq _ _) (Pr.le_of_eq (show _=slice 1 ((List.replicate n (0:Int)).map fun n=>[int n]) by rw [List.map_replicate];rfl))) (Ae _)⟩⟩,⟨⟨rfl,⟨_,rfl,Pr.le_trans (Bq _ _) (Ae _)⟩⟩,trivial⟩⟩⟩ rfl) ?_
 refine ap ?_
 refine Tr.ret (Fin.CS rfl (AO.cell 0 rfl rfl Mt TN rfl (Lr)) ?_)
 · exact Lr
theorem WR {l:List BQ} {r:List BG} {d:List Int} (K8:∀x∈l,x.Cw.small) (hl:l.length≤1000000) (hr:r.length≤1000000) (hd:d.length≤1000000):VF prog 82 [agg [Eu l,reqs r,ints d]] (fun x=>agg [Eu l,reqs r,is x]) (fun x=>[CV 3 1 (d.map fun n=>[int n]) x]):=by
 refine VF.of func82 rfl rfl (by exact Nb rfl) fun M0 w0 S rs M1 w1=>(Tr.G_ 0 0 rfl rfl fun Jo=>(Tr.seq (Tr.An (tp rfl (Bb rfl (Va rfl)) ?_))))
 refine Tl rfl rfl rfl rfl z35 FF (fun b1=> ?_)
 refine ao ?_
 refine Tr.seq (Tr.pad (Tr.pad (Tr.pad (Tr.rx ?_))))
 refine ax ?_
 refine xo rfl (fun _=>IB rfl underlying33 Bl LM z117 rfl (by decide) (vl rfl) (by rw [List.length_map];unfold maxLen;omega) (by rw [List.length_map];omega)) ?_
 refine ax ?_
 refine Cx.ef 0 rfl rfl (by decide) (Vu rfl rfl (by decide) rfl underlying22 B4 Jf z3 rfl (by decide) (by decide) ⟨_,rfl,EN 1⟩ (vl rfl) (by rw [List.length_map];unfold maxLen;omega) (by rw [List.length_map];omega)) ?_
 refine Cx.ef 1 rfl rfl (by decide) (kj (d:=12) (s:=11) (p:=fun v=>agg [is (.slice none 0 0),reqs r,Ag v (lens (d.map fun n=>[int n]).length)]) (q:=agg [is (.slice none 0 0),reqs r,lens (d.map fun n=>[int n]).length]) rfl (by decide) (fun _=>Aw ⟨Lr,Lr,Ak _ _,trivial⟩) rfl rfl (by decide) (fun v=>eX rfl rfl (by decide) (fun _=>Al (rows:=[(1,[_]),(2,[_])]) rfl MF FF ⟨⟨rfl,VL.le (vl rfl) (Ae _)⟩,⟨⟨rfl,VL.le (vl rfl) (Ae _)⟩,trivial⟩⟩ rfl))) (Cx.ef 2 rfl rfl (by decide) (Ca rfl rfl (by decide) rfl z35 FF) (Cx.Dz 2 rfl rfl (ZD rfl rfl rfl (by decide) rfl rfl (AZ _) B5 rfl rfl) ?_))
 refine Cx.nil ⟨by kernel_rfl,?_⟩
 refine BH.pin 11 rfl (fun v11=> ?_)
 refine BH.pin 12 rfl (fun v12=> ?_)
 refine BH.pin 3 rfl (fun v3=> ?_)
 refine BH.qn 0 11 rfl rfl (BH.qo 1 12 11 rfl rfl rfl (BH.qo 2 3 12 rfl rfl rfl (BH.done al5 (Fin.shape 3 (fun b=> .pointer (some ⟨b,0,none⟩)) rfl (fun b9 e9=> ?_)))))
 subst e9
 refine Fin.e8 1 2 rfl rfl (Fin.drop 1 (Fin.go (Cd 1 2 3 rfl ?_)))
 refine ac ?_
 refine Tr.block (Tr.Hl 1 [Ag (.slice none 0 0) (Eu (l.take 0)),reqs r,Ag v11 (lens (d.map fun n=>[int n]).length)] rfl ⟨Bf rfl,Lr,Lr,trivial⟩ (Tr.B0 96 8 (Tr.E8 [(2,_),(3,_),(14,_),(15,_)] ⟨ke rfl,ke rfl,ke rfl,ke rfl,trivial⟩ (fun k u=>[(16,int ((k:Nat):Int))]) (fun k u=>Hp M0 w0 S (Aq 96 8 u::CV 3 1 (d.map fun n=>[int n]) v11::AB true b9 35 [Ag u (Eu (l.take k)),reqs r,Ag v11 (lens (d.map fun n=>[int n]).length)]::AB true b1 35 (([.slice none 0 0,.slice none 0 0,.slice none 0 0]:List Value).map is)::Aj M1 w1::rs)) (fun k:Nat=>k≤(l).length) (fun k:Nat=>(l).length-k) 0 (.slice none 0 0) (Nat.zero_le _) ⟨ke rfl,trivial⟩ (fun _ _ h=>h) ?_)))
 rintro k u BP
 refine ac ?_
 refine Tr.seq ?_
 refine Tr.cn rfl ?_ ?_<;>intro h1 q1
 have Ai:k<(l).length:=AG h1
 obtain ⟨x,Af⟩:=at_ Ai
 refine ac ?_
 refine Tr.seq (Tr.block (Tr.seq (Tr.An (tp rfl (AA rfl underlying32 Di (vl rfl) (vl rfl) (by omega) (AP Af)) (tp rfl (AQ rfl Ib Di (vl rfl) rfl rfl) ?_)))))
 refine Tl rfl rfl rfl rfl QB LL (fun b10=> ?_)
 refine sf 0 5 ⟨rfl,rfl,rfl⟩ rfl rfl rfl rfl ?_
 refine ao ?_
 refine Tr.pad (Tr.rx ?_)
 refine ax ?_
 refine xo rfl (fun _=>Cq (WL (c:=x) (K8 x (List.mem_of_getElem? Af))) rfl rfl) ?_
 refine xo rfl (fun _=>AM (xs:=[.tmp 23]) (rows:=[_]) rfl rfl underlying32 Di QB rfl (by decide) ⟨⟨(by exact rfl),(Va rfl)⟩,trivial⟩ (by decide)) ?_
 refine Cx.ef 1 rfl rfl (by decide) (Bt rfl rfl rfl rfl underlying32 Di U6 QB (Kb rfl) (Kf rfl) (Au (by exact List.Mem.head _) (Ka rfl))) ?_
 refine xo rfl (fun _=>Ac rfl Uz (vl rfl)) (Cx.Dz 3 rfl rfl (GH rfl rfl rfl (vl rfl) rfl y9 (by exact Nb rfl)) ?_)
 refine Cx.nil ⟨by kernel_rfl,?_⟩
 refine BH.Ql 1 3 25 rfl rfl (by decide) rfl (fun v1=> ?_)
 refine BH.done al6 ?_
 refine ac ?_
 refine Tr.drop 0 (KP 2 3 14 15 16 rfl ?_)
 refine ac ?_
 refine Fin.Hl 2 [Ag v1 (Eu (l.take (k+1))),reqs r,Ag v11 (lens (d.map fun n=>[int n]).length)] rfl ⟨A7 (by rw [List.take_add_one,Af,List.map_append];rfl),Lr,Lr,trivial⟩ ?_
 exact Fin.Da (k+1) v1 (⟨Ai,by omega⟩) ⟨⟨_,rfl,AE k⟩,ke rfl,ke rfl,ke rfl,ke rfl,trivial⟩ (fun _ _ h=>h)
 have BJ:k=(l).length:=by have:=AH h1;omega
 subst BJ
 rw [List.take_length]
 refine ac ?_
 refine ao ?_
 refine TO.AK 3 rfl rfl rfl (vl rfl) (Va rfl) rfl B5 rfl rfl ?_
 refine ao ?_
 refine Tr.ret (Fin.drop 0 (Fin.drop 1 (Fin.Ol (Fin.uX v11 [_] rfl (AO.cell 0 rfl rfl CY B5 rfl (Lr)) ?_ (List.Perm.refl _)))))
 · exact Aw ⟨Ak _ _,Lr,Fw _ _,trivial⟩
theorem Zc {n:Int} {l:List BG} {s:List Int} (hl:l.length≤1000000):BA prog 135 [int n,reqs l,ints s] (Cp.ex fun z:List BG×Int=>fact (z.1.length≤1000) (EK [reqs z.1,int z.2])):=by
 refine fo func135 rfl ⟨rfl,rfl⟩ fun M0 w0=> ?_
 refine a2 ?_
 refine co rfl (CF (Gc hl) rfl rfl rfl) ?_
 refine ac ?_
 refine an ?_ ?_<;>intro h1 q1
 refine ac ?_
 refine Tr.ret (Fin.AD (Fin.BK rfl (AO.tmp rfl (Lr)) (AO.tmp rfl (Lr)) ?_))
 · exact AJ ([],_) (AU (Nat.zero_le _) (Am ⟨AF 2,Lr,trivial⟩))
 have hv:BC n l=0:=by simpa using h1
 obtain ⟨N,rfl⟩:∃N:Nat,n=(N:Int):=⟨n.toNat,by have:=(C3 hv).1;omega⟩
 have Jk:=(C3 hv).1
 have ZS:∀r∈l,(0≤r.fst∧r.fst<(N:Nat))∧0≤r.thn∧r.thn<(N:Nat):=fun r hr=>by
  have h_:=(C3 hv).2.1 r hr
  unfold Dy at h_;rw [decide_eq_false_iff_not] at h_;omega
 refine a2 ?_
 refine co rfl (CF (Kh (l:=s) (n:=((N:Nat):Int))) rfl rfl rfl) ?_
 refine an ?_ ?_<;>intro h2 q2
 refine ac ?_
 refine Cc 6 7 rfl (Tr.ret (Fin.AD (Fin.BK rfl (AO.tmp rfl (Lr)) (AO.tmp rfl (Lr)) ?_)))
 · exact AJ ([],_) (AU (Nat.zero_le _) (Am ⟨AF 2,Lr,trivial⟩))
 have hsb:Dj ((N:Nat):Int) s=true:=by simpa using h2
 have hsn:=XS hsb
 refine a2 ?_
 refine co rfl (CF (RM (n:=N) (l:=l) (by omega) hl ZS) rfl rfl rfl) ?_
 refine ac ?_
 refine Cc 2 9 rfl ?_
 refine a2 ?_
 refine Tr.block (Tr.B0 117 2 (Tr.Cm [(2,_),(9,_),(28,_),(29,_)] ⟨ke rfl,ke rfl,ke rfl,ke rfl,trivial⟩ (fun (o:List BG) (i:Nat) u=>[(30,int ((i:Nat):Int)),(10,Ag u (reqs o))]) (fun (o:List BG) (i:Nat) u=>Hp M0 w0 FR ([Aq 117 2 u])) (fun (o:List BG) (i:Nat)=>i≤s.length∧o.length≤24*i) (fun (o:List BG) (i:Nat)=>s.length-i) ([]) (0) (.slice none 0 0) (⟨Nat.zero_le _,by simp⟩) ⟨ke rfl,⟨_,rfl,Bf rfl⟩,trivial⟩ (fun _ _ h=>h) ?_))
 rintro o i u ⟨hi0,lD⟩
 refine ac ?_
 refine Tr.seq ?_
 refine Tr.cn rfl ?_ ?_<;>intro h3 q3
 have hi:i<s.length:=AG h3
 obtain ⟨x,hx⟩:=at_ hi
 have hxn:=Nw hsb hx
 refine a2 ?_
 refine co rfl (AA rfl underlying38 B4 (vl rfl) (vl rfl) (by omega) (AP hx)) ?_
 refine a2 ?_
 refine Es 2 9 10 11 12 28 29 30 35 36 37 rfl (Tr.block (Tr.Cm [(2,_),(9,_),(11,_),(12,_),(28,_),(29,_),(30,_),(35,_),(36,_)] ⟨ke rfl,ke rfl,ke rfl,ke rfl,ke rfl,ke rfl,ke rfl,ke rfl,ke rfl,trivial⟩ (fun (p:List BG) (k:Nat) u2=>[(37,int ((k:Nat):Int)),(10,Ag u2 (reqs p))]) (fun (p:List BG) (k:Nat) u2=>Hp M0 w0 FR ([Aq 117 2 u2])) (fun (p:List BG) (k:Nat)=>k≤s.length∧p.length≤24*i+k) (fun (p:List BG) (k:Nat)=>s.length-k) (o) (0) u (⟨Nat.zero_le _,by omega⟩) ⟨ke rfl,⟨_,rfl,A7 rfl⟩,trivial⟩ (fun _ _ h=>h) ?_))
 rintro p k u2 ⟨hk0,hpl⟩
 refine ac ?_
 refine Tr.seq ?_
 refine Tr.cn rfl ?_ ?_<;>intro h4 q4
 have hk:k<s.length:=AG h4
 obtain ⟨y,hy⟩:=at_ hk
 have hyn:=Nw hsb hy
 refine a2 ?_
 refine co rfl (AA rfl underlying38 B4 (vl rfl) (vl rfl) (by omega) (AP hy)) ?_
 refine ac ?_
 refine LC 2 9 10 11 12 13 14 28 29 30 35 36 37 rfl ?_
 refine ac ?_
 refine co rfl (AA rfl underlying162 Mu (vl rfl) (vl rfl) (by omega) (BS (Jx _ (a:=x.toNat) (by omega)))) ?_
 refine ac ?_
 refine co rfl (AA rfl underlying146 S1 (vl rfl) (vl rfl) (by omega) (BS (Jy _ (b:=y.toNat) (by omega)))) ?_
 refine ac ?_
 refine LC 2 9 10 11 12 13 28 29 30 35 36 37 48 rfl ?_
 refine Tr.cn rfl ?_ ?_<;>intro h5 q5
 refine ap ?_
 refine TO.Dh 0 rfl rfl (by decide) (Bt rfl rfl rfl rfl underlying33 Bl LM z117 (Kb rfl) (Kf rfl) (Au (by exact List.Mem.head _) (Ka rfl))) (fun v1=> ?_)
 refine ap ?_
 refine Es 2 9 10 11 12 28 29 30 35 36 37 rfl ?_
 refine ac ?_
 exact Fin.BT (p++[⟨((i:Nat):Int),((k:Nat):Int)⟩]) (k+1) v1 (⟨⟨by omega,by simp;omega⟩,by omega⟩) ⟨⟨_,rfl,AE k⟩,⟨_,rfl,A7 (by rw [List.map_append];rfl)⟩,ke rfl,ke rfl,ke rfl,ke rfl,ke rfl,ke rfl,ke rfl,ke rfl,ke rfl,trivial⟩ (fun _ _ h=>h)
 refine a2 ?_
 exact Fin.BT (p) (k+1) u2 (⟨⟨by omega,by omega⟩,by omega⟩) ⟨⟨_,rfl,AE k⟩,⟨_,rfl,A7 rfl⟩,ke rfl,ke rfl,ke rfl,ke rfl,ke rfl,ke rfl,ke rfl,ke rfl,ke rfl,trivial⟩ (fun _ _ h=>h)
 have VO:=AH h4
 refine a2 ?_
 exact Fin.BT (p) (i+1) u2 (⟨⟨by omega,by omega⟩,by omega⟩) ⟨⟨_,rfl,AE i⟩,⟨_,rfl,A7 rfl⟩,ke rfl,ke rfl,ke rfl,ke rfl,trivial⟩ (fun _ _ h=>h)
 have hie:=AH h3
 refine a2 ?_
 refine Tr.ret (Fin.BK rfl (AO.tmp rfl (Lr)) (AO.tmp rfl (Lr)) ?_)
 · exact AJ (_,_) (AU (show o.length≤1000 by omega) (Am ⟨Ak _ _,Lr,trivial⟩))
theorem Pq {c:BB} {l:List BQ} (ho:c.own=0):BA prog 35 [Kk c,Eu l] (EK [ints (PX c l),int (EF c l)]):=by
 refine fo func35 rfl ⟨rfl,rfl⟩ fun M0 w0=>(Tr.Cv 1 rfl fun GV=>(Tr.G_ 0 1 rfl rfl fun Jp=> ?_))
 refine a2 ?_
 refine co rfl (CF (JI (c:=c) (m:=((c.ID.length:Nat):Int))) rfl rfl rfl) ?_
 refine ac ?_
 refine an ?_ ?_<;>intro h1 q1
 exact absurd ho (by unfold BB.own;simpa using h1)
 refine a2 ?_
 refine Cd 1 2 20 rfl ?_
 refine Tr.cn rfl ?_ ?_<;>intro h2 q2
 refine ac ?_
 refine Tr.ret (Fin.AD (Fin.DG rfl (Bc.DZ _ _) rfl ?_ rfl ?_))
 · rw [PY (Xt (by omega)) (by decide)];exact AF 1
 · refine int_eq ?_;exact (Xt (by omega)).symm
 refine a3 ?_
 refine Tr.block (Tr.B0 3 1 (Tr.E8 [(2,_),(21,_),(22,_)] ⟨ke rfl,ke rfl,ke rfl,trivial⟩ (fun k v=>[(23,int ((k:Nat):Int)),(7,Ag v (ints ((l.take k).map (PW c))))]) (fun k v=>Hp M0 w0 FR ([Aq 3 1 v])) (fun k:Nat=>k≤(l).length∧(∀j y,j<k→l[j]? =some y→Ls c y=false)) (fun k:Nat=>(l).length-k) 0 (.slice none 0 0) (⟨Nat.zero_le _,fun j y hj=>absurd hj (by omega)⟩) ⟨ke rfl,⟨_,rfl,Bf rfl⟩,trivial⟩ (fun _ _ h=>h) ?_))
 rintro k v ⟨BP,AW⟩
 refine ac ?_
 refine Tr.seq ?_
 refine Tr.cn rfl ?_ ?_<;>intro h3 q3
 have Ai:k<(l).length:=AG h3
 obtain ⟨x,Af⟩:=at_ Ai
 refine ac ?_
 refine Tr.seq (Tr.block (Tr.seq (Tr.An (tp rfl (AA rfl underlying32 Di (vl rfl) (vl rfl) (by omega) (AP Af)) (tp rfl (AQ rfl Ib Di (vl rfl) rfl rfl) ?_)))))
 refine Tl rfl rfl rfl rfl QB LL (fun b1=> ?_)
 refine sf 0 9 ⟨rfl,rfl,rfl⟩ rfl rfl rfl rfl ?_
 refine ao ?_
 refine ag ?_ ?_<;>intro h4 q4
 refine ac ?_
 refine Je 2 7 9 21 22 23 37 rfl ?_
 refine ac ?_
 refine Tr.ret (Fin.AD (Fin.AX (Fin.AD (Fin.AD (Fin.AX (Fin.AD (Fin.DG rfl (Bc.DZ _ _) rfl ?_ rfl ?_)))))))
 · rw [PY (Lt (by omega) Af (by unfold Ls;simp;omega)) (by decide)];exact AF 1
 · refine int_eq ?_;exact (Lt (by omega) Af (by unfold Ls;simp;omega)).symm
 refine ac ?_
 refine Je 2 7 9 21 22 23 37 rfl ?_
 refine Tr.cn rfl ?_ ?_<;>intro h5 q5
 refine ac ?_
 refine Tr.ret (Fin.AD (Fin.AX (Fin.AD (Fin.AD (Fin.AX (Fin.AD (Fin.DG rfl (Bc.DZ _ _) rfl ?_ rfl ?_)))))))
 · rw [PY (Lt (by omega) Af (by unfold Ls;simp;omega)) (by decide)];exact AF 1
 · refine int_eq ?_;exact (Lt (by omega) Af (by unfold Ls;simp;omega)).symm
 have htm:=nJ (c:=c) (x:=x) (by omega)
 refine ac ?_
 refine ao ?_
 refine tp rfl (AA rfl underlying22 B4 (vl rfl) (vl rfl) (by omega) (BS htm)) ?_
 refine ao ?_
 refine TO.Dh 0 rfl rfl (by decide) (Bt rfl rfl rfl rfl underlying22 B4 Jf z3 (Kb rfl) (Kf rfl) (Au (by exact List.Mem.head _) (Ka rfl))) (fun v1=> ?_)
 refine ao ?_
 refine KP 2 7 21 22 23 rfl ?_
 refine ac ?_
 exact Fin.Da (k+1) v1 (⟨⟨Ai,Du (p:=Ls c) Af (by unfold Ls;simp;omega) AW⟩,by omega⟩) ⟨⟨_,rfl,AE k⟩,⟨_,rfl,A7 (fG Af)⟩,ke rfl,ke rfl,ke rfl,trivial⟩ (fun _ _ h=>h)
 have BJ:k=(l).length:=by have:=AH h3;omega
 subst BJ
 refine a2 ?_
 refine Tr.ret (Fin.DG rfl (Bc.DZ _ _) rfl ?_ rfl ?_)
 · rw [UI (Xu (by omega) AW)];exact Pr.le_trans (Ak _ _) (Pr.le_of_eq (by rw [List.take_length]))
 · refine int_eq ?_;exact (Xu (by omega) AW).symm
structure WS (m:Nat) (l:List BQ) (r:List BG) (d:List Int):Prop where
 l24:l.length≤24
 dl:d.length=l.length
 v:BC (l.length:Nat) r=0
 dd:∀j y c,j<l.length→d[j]? =some y→l[j]? =some c→(0≤y∧y≤40000)∧0≤c.AV∧c.AV<(m:Int)
abbrev Ik (l:List BQ) (r:List BG) (d:List Int):Pr:=agg [Eu l,reqs r,ints d]
theorem fq {e:DD} {l:List BQ} {r:List BG} {d:List Int} (hrl:r.length≤1000000):BA prog 107 [agg (B1 e),Ik l r d] (Cp.ex fun z:Bool=>fact (z=true→WS e.Be.length l r d) (bool z)):=by
 refine fo func107 rfl ⟨rfl,rfl⟩ fun M0 w0=>(Tr.G_ 1 0 rfl rfl fun ya=>(Tr.G_ 1 2 rfl rfl fun yc=>(Tr.G_ 0 0 rfl rfl fun Jo=> ?_)))
 refine a2 ?_
 refine ag ?_ ?_<;>intro h1 q1
 refine ac ?_
 refine Cd 2 3 26 rfl ?_
 refine a2 ?_
 · exact AJ false (AU (fun h_=>by cases h_) (Lr))
 refine ag ?_ ?_<;>intro h2 q2
 refine ac ?_
 refine Cd 2 3 26 rfl ?_
 refine a2 ?_
 · exact AJ false (AU (fun h_=>by cases h_) (Lr))
 refine ac ?_
 refine cy h2 rfl (CF (Gc (n:=((l.length:Nat):Int)) (l:=r) hrl) rfl rfl rfl) ?_
 refine ac ?_
 refine Cd 2 3 26 rfl ?_
 refine Tr.cn rfl ?_ ?_<;>intro h3 q3
 refine a2 ?_
 · exact AJ false (AU (fun h_=>by cases h_) (Lr))
 have Jk:l.length≤24:=by omega
 have gU:d.length=l.length:=by omega
 have hv:BC ((l.length:Nat):Int) r=0:=by omega
 refine a2 ?_
 refine Tr.block (Tr.A9 [(2,_),(3,_),(28,_),(29,_)] (YO rfl) (fun k:Nat=>[(30,int ((k:Nat):Int))]) (fun k:Nat=>k≤(l).length∧(∀j y c,j<k→d[j]? =some y→l[j]? =some c→(0≤y∧y≤40000)∧0≤c.AV∧c.AV<((e.Be.length:Nat):Int))) (fun k:Nat=>(l).length-k) 0 (⟨Nat.zero_le _,fun j y c hj=>absurd hj (by omega)⟩) ⟨ke rfl,trivial⟩ ?_)
 rintro k ⟨BP,AW⟩
 refine ac ?_
 refine Tr.seq ?_
 refine Tr.cn rfl ?_ ?_<;>intro h4 q4
 have Ai:k<(l).length:=AG h4
 obtain ⟨x,Af⟩:=at_ Ai
 obtain ⟨y,hy⟩:=at_ (l:=d) (k:=k) (by omega)
 refine ac ?_
 refine ao ?_
 refine tp rfl (AA rfl underlying32 Di (vl rfl) (vl rfl) (by omega) (AP Af)) (tp rfl (AQ rfl Ib Di (vl rfl) rfl rfl) ?_)
 refine Tl rfl rfl rfl rfl QB LL (fun b1=> ?_)
 refine tm rfl ?_
 refine sf 0 7 ⟨rfl,rfl,rfl⟩ rfl rfl rfl rfl ?_
 refine ao ?_
 · repeat' first|exact AJ false (AU (fun h_=>by cases h_) (Lr))|(exact Fin.AL (k+1) ⟨⟨Ai,fun j z c hj hz Z6=>by rcases Nat.lt_or_eq_of_le (Nat.le_of_lt_succ hj) with h_|h_;exact AW j z c h_ hz Z6;(subst h_;rw [hy] at hz;cases hz;rw [Af] at Z6;cases Z6;omega)⟩,by omega⟩ ⟨⟨_,rfl,AE k⟩,ke rfl,ke rfl,ke rfl,ke rfl,trivial⟩)|refine cy h rfl (AA rfl underlying22 B4 (vl rfl) (vl rfl) (by omega) (AP hy)) ?_|refine ac ?_|(refine Tr.cn rfl ?_ ?_<;>intro h q)|(refine Ch.cg rfl rfl rfl ?_ ?_<;>intro h q)
 have BJ:k=(l).length:=by have:=AH h4;omega
 subst BJ
 refine a3 ?_
 · exact AJ true (AU (fun _=>⟨Jk,gU,hv,AW⟩) (Lr))
theorem fu {n:Nat} (hn:n≤1000):BA prog 42 [int ((n:Nat):Int)] (Cp.ex fun z:List Int=>fact (z.length≤n) (ints z)):=by
 refine fo func42 rfl ⟨rfl,rfl⟩ fun M0 w0=> ?_
 refine a3 ?_
 refine Tr.block (Tr.B0 3 1 (Tr.Cm [(5,_)] ⟨ke rfl,trivial⟩ (fun (o:List Int) (k:Nat) u=>[(6,int ((k:Nat):Int)),(3,Ag u (ints o))]) (fun (o:List Int) (k:Nat) u=>Hp M0 w0 FR ([Aq 3 1 u])) (fun (o:List Int) (k:Nat)=>k≤n∧o.length=k) (fun (o:List Int) (k:Nat)=>n-k) ([]) (0) (.slice none 0 0) (⟨Nat.zero_le _,rfl⟩) ⟨ke rfl,⟨_,rfl,Bf rfl⟩,trivial⟩ (fun _ _ h=>h) ?_))
 rintro o k u ⟨hk0,lD⟩
 refine ac ?_
 refine Tr.seq ?_
 refine Tr.cn rfl ?_ ?_<;>intro h1 q1
 have hk:k<n:=AG h1
 refine a2 ?_
 refine ap ?_
 refine TO.Dh 0 rfl rfl (by decide) (Bt rfl rfl rfl rfl underlying38 B4 Jf z3 (Kb rfl) (Kf rfl) (Au (by exact List.Mem.head _) (Ka rfl))) (fun v1=> ?_)
 refine ap ?_
 refine ac ?_
 exact Fin.BT (o++[((k:Nat):Int)]) (k+1) v1 (⟨⟨by omega,by simp;omega⟩,by omega⟩) ⟨⟨_,rfl,AE k⟩,⟨_,rfl,A7 (by rw [List.map_append];rfl)⟩,ke rfl,trivial⟩ (fun _ _ h=>h)
 have VO:=AH h1
 refine a3 ?_
 · exact AJ _ (AU (by omega) (Ak _ _))
theorem Kw {e:DD} {l:List BQ} {r:List BG} {d s:List Int} {n:Nat} (hz:e.sz n) (hn:n≤800000) (hc:∀c∈l,c.Cw.fits∧c.Cw.small):BA prog 110 [agg (B1 e),Ik l r d,ints s] (EK [agg (B1 (SS e l s).1),bool (decide ((SS e l s).2=0))]):=by
 refine fo func110 rfl ⟨rfl,rfl⟩ fun M0 w0=>(Tr.seq (Tr.An (tp rfl (Bb rfl (Va rfl)) (tp rfl (Bb rfl (Va rfl)) ?_))))
 refine Tl rfl rfl rfl rfl z31 HR (fun b1=> ?_)
 refine ao ?_
 refine ao ?_
 refine tp rfl (J2 (Pn hz hn hc) rfl rfl rfl rfl) ?_
 refine ao ?_
 refine Tl rfl rfl rfl rfl z31 HR (fun b2=> ?_)
 refine sf 0 8 ⟨rfl,rfl,rfl⟩ rfl rfl rfl rfl ?_
 refine ao ?_
 refine Cd 6 8 9 rfl ?_
 refine ao ?_
 refine TO.AK 0 rfl rfl rfl (vl rfl) (Va rfl) rfl C7 rfl rfl ?_
 refine ao ?_
 refine Tr.ret (Fin.BK rfl (AO.cell 0 rfl rfl C8 C7 rfl (Lr)) (AO.tmp rfl (Lr)) ?_)
 · exact Lr
theorem QV {e:DD} {c:BB} {l:List BQ} {r:List BG} {fr:Int} (hf:e.fits) (K8:∀x∈l,x.Cw.small) (hrl:r.length≤1000000):BA prog 56 [agg (B1 e),Kk c,Eu l,reqs r,int fr] (EK [agg (fH e c l r fr),int (JU e c l r fr)]):=by
 refine fo func56 rfl ⟨rfl,rfl⟩ fun M0 w0=>(Tr.Cv 3 rfl fun ABn=>(Tr.G_ 0 0 rfl rfl fun Jo=>(Tr.seq (Tr.An (tp rfl (Bb rfl (Va rfl)) (tp rfl (Bb rfl (Va rfl)) ?_))))))
 refine Tl rfl rfl rfl rfl z35 FF (fun b1=> ?_)
 refine ao ?_
 refine ac ?_
 refine co rfl (Cq (DV hf) rfl rfl) ?_
 refine an ?_ ?_<;>intro h1 q1
 have R3:E3 e=false:=by cases h_:E3 e with|false=>rfl|true=>exact absurd h1 (by rw [h_];decide)
 have Um:JT e c l=31:=by unfold JT;rw [if_pos R3]
 have hb:JT e c l≠0:=by rw [Um];decide
 refine ao ?_
 refine TO.AK 0 rfl rfl rfl (vl rfl) (Va rfl) rfl B5 rfl rfl ?_
 refine ao ?_
 refine Tr.ret (Fin.AD (Fin.BK rfl (AO.cell 0 rfl rfl CY B5 rfl (Lr)) (AO.tmp rfl (Lr)) ?_))
 refine Am ⟨?_,?_,trivial⟩
 · exact Pa (RJ hb) hb
 · refine int_eq ?_;rw [RJ hb,Um]
 have R3:¬E3 e=false:=by intro h_;rw [h_] at h1;exact absurd h1 (by decide)
 refine a2 ?_
 refine co rfl (CF (JI (c:=c) (m:=((e.Be.length:Nat):Int))) rfl rfl rfl) ?_
 refine ac ?_
 refine K0 2 3 4 6 10 12 rfl ?_
 refine an ?_ ?_<;>intro h2 q2
 have hck:c.check ((e.Be.length:Nat):Int)≠0:=by simpa using h2
 have Um:JT e c l=c.check ((e.Be.length:Nat):Int):=by unfold JT;rw [if_neg R3,if_pos hck]
 have hb:JT e c l≠0:=by rw [Um];exact hck
 refine ao ?_
 refine TO.AK 0 rfl rfl rfl (vl rfl) (Va rfl) rfl B5 rfl rfl ?_
 refine ao ?_
 refine Tr.ret (Fin.AD (Fin.BK rfl (AO.cell 0 rfl rfl CY B5 rfl (Lr)) (AO.tmp rfl (Lr)) ?_))
 refine Am ⟨?_,?_,trivial⟩
 · exact Pa (RJ hb) hb
 · refine int_eq ?_;rw [RJ hb,Um]
 have hck:c.check ((e.Be.length:Nat):Int)=0:=by simpa using h2
 have Um:JT e c l=EF c l:=by unfold JT;rw [if_neg R3,if_neg (not_not_intro hck)]
 obtain ⟨how,htl,hth⟩:=RI hck
 refine a2 ?_
 refine co rfl (CF (Pq (c:=c) (l:=l) how) rfl rfl rfl) ?_
 refine ac ?_
 refine Je 2 3 4 6 10 13 14 rfl ?_
 refine an ?_ ?_<;>intro h3 q3
 have hte:EF c l≠0:=by simpa using h3
 have hb:JT e c l≠0:=by rw [Um];exact hte
 refine ao ?_
 refine TO.AK 0 rfl rfl rfl (vl rfl) (Va rfl) rfl B5 rfl rfl ?_
 refine ao ?_
 refine Tr.ret (Fin.AD (Fin.BK rfl (AO.cell 0 rfl rfl CY B5 rfl (Lr)) (AO.tmp rfl (Lr)) ?_))
 refine Am ⟨?_,?_,trivial⟩
 · exact Pa (RJ hb) hb
 · refine int_eq ?_;rw [RJ hb,Um]
 have hte:EF c l=0:=by simpa using h3
 have hb:JT e c l=0:=by rw [Um];exact hte
 have Jk:=(PZ hte).1
 have O5:=k_ hte hth
 obtain ⟨T,hT⟩:∃T,l.map (PW c)=T:=⟨_,rfl⟩
 have hTl:T.length=l.length:=by rw [←hT,List.length_map]
 rw [hT] at O5
 refine Tr.re 13 rfl (Pr.le_of_eq (by rw [UI hte,hT])) ?_
 refine a2 ?_
 refine co rfl (CF (WJ (n:=((l.length:Nat):Int)) (l:=r) hrl) rfl rfl rfl) ?_
 refine ac ?_
 refine J0 2 3 4 6 10 13 14 15 rfl ?_
 refine an ?_ ?_<;>intro h4 q4
 have hv:BC (l.length:Nat) r≠0:=by simpa using h4
 refine ao ?_
 refine TO.AK 0 rfl rfl rfl (vl rfl) (Va rfl) rfl B5 rfl rfl ?_
 refine ao ?_
 refine Tr.ret (Fin.AD (Fin.BK rfl (AO.cell 0 rfl rfl CY B5 rfl (Lr)) (AO.tmp rfl (Lr)) ?_))
 refine Am ⟨?_,?_,trivial⟩
 · exact Pa (nK hb hv) hv
 · refine int_eq ?_;exact (nK hb hv).symm
 have hv:BC (l.length:Nat) r=0:=by simpa using h4
 obtain ⟨row,hrow⟩:∃row,(C4 l.length r l.length).1=row:=⟨_,rfl⟩
 obtain ⟨ZS,ABD⟩:=II hv l.length (by simp)
 rw [Int.toNat_natCast,hrow] at ZS ABD
 have lE:∀q∈r,(0≤q.fst∧q.fst<l.length)∧0≤q.thn∧q.fst≠q.thn:=fun q hq=>by
  have h_:=(C3 hv).2.1 q hq
  unfold Dy at h_;rw [decide_eq_false_iff_not] at h_;omega
 refine Tr.re 15 rfl (Pr.le_of_eq (by rw [if_pos hv,Int.toNat_natCast,hrow])) ?_
 refine ac ?_
 refine ao ?_
 refine tp rfl (PJ (m:=l.length) rfl underlying22 B4 Jf z3 rfl (by decide) (by decide) (vl rfl) (vl rfl) (by unfold maxLen;omega) (by omega)) ?_
 refine tp rfl (Al (rows:=[(0,[_]),(1,[_]),(2,[_])]) rfl MF FF ⟨⟨rfl,(Vo rfl)⟩,⟨⟨rfl,(Vo rfl)⟩,⟨⟨rfl,⟨_,rfl,Pr.le_trans (Pr.le_trans (Bq _ _) (Pr.le_of_eq (show _=slice 1 ((List.replicate l.length (0:Int)).map fun n=>[int n]) by rw [List.map_replicate];rfl))) (Ae _)⟩⟩,trivial⟩⟩⟩ rfl) ?_
 refine TO.bQ rfl rfl (by decide) rfl (WR (d:=List.replicate l.length 0) K8 (by omega) hrl (by rw [List.length_replicate];omega)) ⟨ke rfl,trivial⟩ (fun v1=> ?_)
 refine Tl rfl rfl rfl rfl z35 FF (fun b2=> ?_)
 refine TO.AK 0 rfl rfl rfl (vl rfl) (Va rfl) rfl B5 rfl rfl ?_
 refine ao ?_
 refine Je 3 4 6 10 13 15 16 rfl ?_
 refine a2 ?_
 refine Tr.block (Tr.B0 3 1 (Tr.B0 3 1 (Tr.aQ [(3,_),(4,_),(6,_),(10,_),(13,_),(16,_),(68,_),(69,_)] ⟨ke rfl,ke rfl,ke rfl,ke rfl,ke rfl,ke rfl,ke rfl,ke rfl,trivial⟩ (fun (dy:List Int) (b:List Int) (y:List Int) (k:Nat) u u2=>[(70,int ((k:Nat):Int)),(17,Ag u (ints b)),(18,Ag u2 (ints y))]) (fun (dy:List Int) (b:List Int) (y:List Int) (k:Nat) u u2=>Hp M0 w0 FR ([Aq 3 1 u2,Aq 3 1 u,AB true b2 35 [Eu l,reqs r,is v1],CV 3 1 (dy.map fun n=>[int n]) v1,AB true b1 35 (([.slice none 0 0,.slice none 0 0,.slice none 0 0]:List Value).map is)])) (fun (dy:List Int) (b:List Int) (y:List Int) (k:Nat)=>k≤row.length∧MW c r T fr l.length (row.take k)=some (dy,b,y)) (fun (dy:List Int) (b:List Int) (y:List Int) (k:Nat)=>row.length-k) (List.replicate l.length 0) ([]) ([]) (0) (.slice none 0 0) (.slice none 0 0) (⟨Nat.zero_le _,rfl⟩) ⟨ke rfl,⟨_,rfl,Bf rfl⟩,⟨_,rfl,Bf rfl⟩,trivial⟩ (fun _ _ h=>h) ?_)))
 rintro dy b y k u u2 ⟨hk0,hsc⟩
 have hS:=QL.run (k:=k) ZS (fun q hq=>by have:=lE q hq;omega) Jk how (fun i h1 h2=>O5 _ (List.mem_of_getElem? (GG (l:=T) (i:=i.toNat) (by omega)))) hk0 hsc
 have gU:=hS.len
 have Ru:b.length=k:=by rw [hS.hb,List.length_map,List.length_take];omega
 have hyl:y.length=k:=by rw [hS.hd,List.length_map,List.length_take];omega
 refine ac ?_
 refine Tr.seq ?_
 refine Tr.cn rfl ?_ ?_<;>intro h5 q5
 have hk:k<row.length:=AG h5
 obtain ⟨i,hi⟩:=at_ hk
 have dx:=ZS.O_ i (List.mem_of_getElem? hi)
 have hti:T[i.toNat]? =some (Un T i):=GG (by omega)
 refine ac ?_
 refine Tr.seq (Tr.block (Tr.seq (Tr.Ah (co rfl (AA rfl underlying38 B4 (vl rfl) (vl rfl) (by omega) (AP hi)) ?_))))
 refine ac ?_
 refine ON 3 4 6 10 13 16 17 18 20 68 69 70 rfl ?_
 refine ac ?_
 refine LC 3 4 6 10 13 16 17 18 20 21 68 69 70 rfl ?_
 refine ac ?_
 refine Uy 3 4 6 10 13 16 17 18 20 21 68 69 70 75 76 77 rfl (Tr.block (Tr.A9 [(3,_),(4,_),(6,_),(10,_),(13,_),(16,_),(17,_),(18,_),(20,_),(68,_),(69,_),(70,_),(75,_),(76,_)] (yy rfl) (fun m:Nat=>[(77,int ((m:Nat):Int)),(21,int (FO (r.take m) dy i fr))]) (fun m:Nat=>m≤(r).length) (fun m:Nat=>(r).length-m) 0 (Nat.zero_le _) ⟨ke rfl,ke rfl,trivial⟩ ?_))
 rintro m Lc
 refine ac ?_
 refine gy 3 4 6 10 13 16 17 18 20 21 68 69 70 75 76 77 78 rfl (Tr.seq ?_)
 refine Tr.cn rfl ?_ ?_<;>intro h6 q6
 have EB:m<(r).length:=AG h6
 obtain ⟨q,EJ⟩:=at_ EB
 refine ac ?_
 refine Uy 3 4 6 10 13 16 17 18 20 21 68 69 70 75 76 77 rfl (Tr.seq (Tr.block (Tr.seq (Tr.An (tp rfl (AA rfl underlying33 Bl (vl rfl) (vl rfl) (by omega) (AP EJ)) (tp rfl (AQ rfl Dt Bl (vl rfl) rfl rfl) ?_))))))
 refine Tl rfl rfl rfl rfl z117 Iz (fun b3=> ?_)
 refine sf 0 23 ⟨rfl,rfl,rfl⟩ rfl rfl rfl rfl ?_
 refine ao ?_
 refine gy 3 4 6 10 13 16 17 18 20 21 23 68 69 70 75 76 77 rfl ?_
 refine ac ?_
 refine yu 3 4 6 10 13 16 17 18 20 21 23 68 69 70 75 76 77 84 rfl ?_
 refine Tr.cn rfl ?_ ?_<;>intro h7 q7
 have hqr:=lE q (List.mem_of_getElem? EJ)
 have hz:=GG (l:=dy) (i:=q.fst.toNat) (by have:=hS.len;omega)
 have hzb:=hS.bnd _ (List.mem_of_getElem? hz)
 refine ac ?_
 refine co rfl (DK 3 rfl (VE rfl underlying22 B4 (vl rfl) (vl rfl) (by omega) (by rw [List.length_map];omega))) ?_
 refine co rfl (DK 3 rfl (Vt rfl Cz (vl rfl) (Bg fun _=>rfl) (by rw [List.getElem?_map,hz];rfl) rfl)) ?_
 refine J8 rfl rfl rfl rfl (by omega) (co rfl (KM rfl (vl rfl) (vl rfl)) ?_)
 refine ac ?_
 refine Uy 3 4 6 10 13 16 17 18 20 21 68 69 70 75 76 77 rfl ?_
 refine ac ?_
 exact Fin.AL (m+1) ⟨EB,by omega⟩ ⟨⟨_,rfl,AE m⟩,⟨_,rfl,int_eq (by rw [Pb EJ,if_pos (by simpa using h7)])⟩,ke rfl,ke rfl,ke rfl,ke rfl,ke rfl,ke rfl,ke rfl,ke rfl,ke rfl,ke rfl,ke rfl,ke rfl,ke rfl,ke rfl,trivial⟩
 refine ac ?_
 refine Uy 3 4 6 10 13 16 17 18 20 21 68 69 70 75 76 77 rfl ?_
 refine ac ?_
 exact Fin.AL (m+1) ⟨EB,by omega⟩ ⟨⟨_,rfl,AE m⟩,⟨_,rfl,int_eq (by rw [Pb EJ,if_neg (by simpa using h7)])⟩,ke rfl,ke rfl,ke rfl,ke rfl,ke rfl,ke rfl,ke rfl,ke rfl,ke rfl,ke rfl,ke rfl,ke rfl,ke rfl,ke rfl,trivial⟩
 have JF:m=(r).length:=by have:=AH h6;omega
 subst JF
 rw [List.take_length]
 refine ac ?_
 refine LC 3 4 6 10 13 16 17 18 20 21 68 69 70 rfl ?_
 refine ac ?_
 refine co rfl (AA rfl underlying22 B4 (vl rfl) (vl rfl) (by omega) (BS hti)) ?_
 refine ac ?_
 refine co rfl (AR rfl (T5 (c:=c) (Ab:=b) (days:=y) (n:=Un T i) (from_:=FO r dy i fr)) ⟨ke rfl,(Kb rfl),(Kb rfl),ke rfl,ke rfl,trivial⟩) ?_
 refine ac ?_
 refine NM 3 4 6 10 13 16 17 18 20 24 25 68 69 70 rfl ?_
 refine ac ?_
 refine NM 3 4 6 10 13 16 17 18 20 24 68 69 70 109 rfl ?_
 refine Tr.cn rfl ?_ ?_<;>intro h8 q8
 have hno:c.early b y (Un T i) (FO r dy i fr)=none:=by simpa using h8
 refine ao ?_
 refine TO.AK 4 rfl rfl rfl (vl rfl) (Va rfl) rfl B5 rfl rfl ?_
 refine ao ?_
 refine Cc 10 11 rfl (Tr.ret (Fin.AD (Fin.AX (Fin.AD (Fin.AD (Fin.AX (Fin.AD (Fin.BK rfl (AO.cell 4 rfl rfl CY B5 rfl (Lr)) (AO.tmp rfl (Lr)) ?_))))))))
 refine Am ⟨?_,?_,trivial⟩
 · exact Pa (fI hb hv (by unfold Sl;rw [hT,hrow];exact RD hi hsc hno)) (by decide)
 · refine int_eq ?_;exact (fI hb hv (by unfold Sl;rw [hT,hrow];exact RD hi hsc hno)).symm
 obtain ⟨x,hx⟩:∃x,c.early b y (Un T i) (FO r dy i fr)=some x:=Option.isSome_iff_exists.1 (by simpa using h8)
 have WT:=GG (l:=dy) (i:=i.toNat) (by have:=hS.len;omega)
 refine Tr.re 24 rfl (int_eq (by rw [hx])) ?_
 refine ac ?_
 refine LC 3 4 6 10 13 16 17 18 20 24 68 69 70 rfl ?_
 refine ao ?_
 refine tp rfl (DK 3 rfl (VE rfl underlying22 B4 (vl rfl) (vl rfl) (by omega) (by rw [List.length_map];omega))) ?_
 refine TO.Dz 3 rfl rfl (Oj rfl rfl (vl rfl) (Vo rfl) B4 rfl (Bg fun _=>rfl) (by rw [List.getElem?_map,WT];rfl) (by decide) (show _=(dy.set i.toNat x).map _ by rw [List.map_set];rfl)) ?_
 refine ao ?_
 refine LC 3 4 6 10 13 16 17 18 20 24 68 69 70 rfl ?_
 refine ao ?_
 refine tp rfl (AA rfl underlying22 B4 (vl rfl) (vl rfl) (by omega) (BS hti)) ?_
 refine ao ?_
 refine TO.Dh 1 rfl rfl (by decide) (Bt rfl rfl rfl rfl underlying22 B4 Jf z3 (Kb rfl) (Kf rfl) (Au (by exact List.Mem.head _) (Ka rfl))) (fun v2=> ?_)
 refine ao ?_
 refine TO.Dh 0 rfl rfl (by decide) (Bt rfl rfl rfl rfl underlying22 B4 Jf z3 (Kb rfl) (Kf rfl) (Au (by exact List.Mem.head _) (Ka rfl))) (fun v3=> ?_)
 refine ao ?_
 refine Es 3 4 6 10 13 16 17 18 68 69 70 rfl ?_
 refine ac ?_
 exact Fin.iB (dy.set i.toNat x) (b++[Un T i]) (y++[x]) (k+1) v2 v3 (⟨⟨hk,kE hi hsc hx⟩,by omega⟩) ⟨⟨_,rfl,AE k⟩,⟨_,rfl,A7 (by rw [List.map_append];rfl)⟩,⟨_,rfl,A7 (by rw [List.map_append];rfl)⟩,ke rfl,ke rfl,ke rfl,ke rfl,ke rfl,ke rfl,ke rfl,ke rfl,trivial⟩ (fun _ _ h=>h)
 have hkr:k=row.length:=by have:=AH h5;omega
 rw [hkr,List.take_length] at hsc
 have nN:Sl c l r fr=some (dy,b,y):=by unfold Sl;rw [hT,hrow];exact hsc
 refine ac ?_
 refine Tr.seq (Tr.Mx 2 3 2 rfl rfl (by decide) rfl (Lr) (Bg fun _=>rfl) ?_)
 refine ao ?_
 refine TO.AK 4 rfl rfl rfl (vl rfl) (Va rfl) rfl B5 rfl rfl ?_
 refine ao ?_
 refine Cc 10 11 rfl (Tr.ret (Fin.BK rfl (AO.cell 4 rfl rfl CY B5 rfl (Lr)) (AO.tmp rfl (Lr)) ?_))
 refine Am ⟨?_,?_,trivial⟩
 · exact lA (nL hb hv nN) nN
 · refine int_eq ?_;exact (nL hb hv nN).symm
theorem fy {l:List BQ} {n:Nat} (hc:∀c∈l,c.Cw.fits∧c.Cw.small):∀(s:List Int) (Be:List Bs),(∀x∈Be,x.sz n)→(∀x∈(MQ l s Be).1,x.sz (n+s.length))∧(MQ l s Be).1.length=Be.length
 |[],Be,h=>⟨h,rfl⟩
 |i::s,Be,h=>by
  rw [MQ]
  split
  · exact ⟨fun x hx=>(h x hx).le (by omega),rfl⟩
  next c Z6=>
  by_cases ha:(KD Be c).2=0
  ·
   rw [if_pos ha]
   have:=fy (n:=n+1) hc s (KD Be c).1 (ck h (hc c (List.mem_of_getElem? Z6)))
   rw [XR] at this
   exact ⟨fun x hx=>by rw [List.length_cons,show n+(s.length+1)=n+1+s.length by omega];exact this.1 x hx,this.2⟩
  · rw [if_neg ha];exact ⟨fun x hx=>(h x hx).le (by omega),rfl⟩
theorem X7 {e:DD} {l:List BQ} {s:List Int} {n:Nat} (hz:e.sz n) (hc:∀c∈l,c.Cw.fits∧c.Cw.small):(SS e l s).1.sz (n+s.length):=by
 have h0:Ff.sz (n+s.length):=⟨(fun x hx=>by cases hx),(fun x hx=>by cases hx),Nat.zero_le _,Nat.zero_le _,Nat.zero_le _⟩
 obtain ⟨h1,h2⟩:=fy hc s e.Be hz.Be
 unfold SS
 repeat' split
 · exact h0
 · exact h0
 · exact h0
 · exact ⟨h1,hz.items,by show (MQ l s e.Be).1.length≤_;rw [h2];exact hz.le,hz.lg,hz.li⟩
 · exact h0
theorem M8.sz {e:DD} (h:M8 e):e.sz 5:=by
 have h3:=h.n3;have g3:=h.g3;have i2:=h.i2
 refine ⟨fun x hx=> ?_,fun x hx=>⟨by have:=(h.it x hx).name;unfold maxLen;omega,by have:=(h.it x hx).links;omega⟩,by omega,by omega,by omega⟩
 obtain ⟨i,hi⟩:=List.getElem?_of_mem hx
 exact jq (h.snd i x hi)
theorem Ue {e:DD} {l:List BQ} {i:Int}:(∀x∈(IV e l i).1,0≤x∧x<(l.length:Nat))∧(IV e l i).1.length≤24:=by
 unfold IV
 split
 · exact ⟨(fun x hx=>by cases hx),by decide⟩
 split
 · exact ⟨(fun x hx=>by cases hx),by decide⟩
 split
 · exact ⟨(fun x hx=>by cases hx),by decide⟩
 ·
  rename_i Jk _
  refine ⟨fun x hx=> ?_,by have:=UY (e.BE[i.toNat]?.getD F7) l l.length;show (Mh _ _ _).length≤24;omega⟩
  unfold Mh at hx
  obtain ⟨j,hj,rfl⟩:=List.mem_map.1 hx
  have:=List.mem_range.1 (List.mem_filter.1 hj).1
  omega
theorem WU {n:Int} {o:List (List Int)} {x:List Int} (h:(∀s∈o,∀y∈s,0≤y∧y<n)∧∀s∈o,s.length≤4096) (hx:∀y∈x,0≤y∧y<n) (hl:x.length≤4096):(∀s∈o++[x],∀y∈s,0≤y∧y<n)∧∀s∈o++[x],s.length≤4096:=by
 refine ⟨fun s hs=> ?_,fun s hs=> ?_⟩<;>rcases List.mem_append.1 hs with hs|hs
 · exact h.1 s hs
 · rw [List.mem_singleton] at hs;subst hs;exact hx
 · exact h.2 s hs
 · rw [List.mem_singleton] at hs;subst hs;exact hl
theorem Zd {n:Int} {o:List Int} {x:Int} (h:∀y∈o,0≤y∧y<n) (hx:0≤x∧x<n):∀y∈o++[x],0≤y∧y<n:=fun y hy=>by
 rcases List.mem_append.1 hy with hy|hy
 · exact h y hy
 · rw [List.mem_singleton] at hy;subst hy;exact hx
theorem Ze {e:DD} {l:List BQ} {r:List BG} {d:List Int} {n:Nat} {i:Int} (hz:e.sz n) (hn:n≤800000) (hrl:r.length≤1000000):BA prog 108 [agg (B1 e),Ik l r d,int i] (Cp.ex fun z:List (List Int)×Int=>fact (KJ ((l.length:Nat):Int) z.1) (EK [sets z.1,int z.2])):=by
 refine fo func108 rfl ⟨rfl,rfl⟩ fun M0 w0=> ?_
 refine a2 ?_
 refine co rfl (J2 (QU hz hn) rfl rfl rfl rfl) ?_
 refine ac ?_
 refine Cc 4 8 rfl (Tr.seq ?_)
 obtain ⟨rel,rM⟩:∃rel,(IV e l i).1=rel:=⟨_,rfl⟩
 have ZS:∀x∈rel,0≤x∧x<(l.length:Nat):=rM ▸ Ue.1
 have ACP:rel.length≤24:=rM ▸ Ue.2
 refine Tr.re 8 rfl (Pr.le_of_eq (by rw [rM])) ?_
 refine ap ?_
 refine tp rfl (J2 (Zc (n:=((l.length:Nat):Int)) (l:=r) (s:=rel) hrl) rfl rfl rfl rfl) ?_
 refine TO.ex 35 rfl (fun z1=>TO.fact 35 rfl fun FE=> ?_)
 refine ap ?_
 refine Cc 8 10 rfl ?_
 refine ap ?_
 refine tp rfl (CF (ZW (n:=((rel.length:Nat):Int)) (l:=z1.1) (by omega)) rfl rfl rfl) ?_
 refine TO.ex 42 rfl (fun z2=>TO.fact 42 rfl fun Gf=> ?_)
 refine ap ?_
 refine ac ?_
 refine Ef 8 12 13 46 rfl ?_
 refine Tr.cn rfl ?_ ?_<;>intro h1 q1
 refine ac ?_
 refine Tr.ret (Fin.AD (Fin.BK rfl (AO.tmp rfl (Lr)) (AO.tmp rfl (Lr)) ?_))
 · exact AJ ([],_) (AU ⟨fun s h=>(by cases h),(by decide:([]:List (List Int)).length≤4096),fun s h=>(by cases h)⟩ (Am ⟨AF 1,Lr,trivial⟩))
 have hl4:=Gf.len
 refine a3 ?_
 refine Tr.block (Tr.B0 38 1 (Tr.Cm [(8,_),(48,_),(49,_)] ⟨ke rfl,ke rfl,ke rfl,trivial⟩ (fun (o:List (List Int)) (k:Nat) u=>[(50,int ((k:Nat):Int)),(14,Ag u (sets o))]) (fun (o:List (List Int)) (k:Nat) u=>Hp M0 w0 FR ([Aq 38 1 u])) (fun (o:List (List Int)) (k:Nat)=>(k≤z2.1.length∧o.length=k)∧(∀s∈o,∀y∈s,0≤y∧y<((l.length:Nat):Int))∧∀s∈o,s.length≤4096) (fun (o:List (List Int)) (k:Nat)=>z2.1.length-k) ([]) (0) (.slice none 0 0) (⟨⟨Nat.zero_le _,rfl⟩,fun s h=>(by cases h),fun s h=>(by cases h)⟩) ⟨ke rfl,⟨_,rfl,Bf rfl⟩,trivial⟩ (fun _ _ h=>h) ?_))
 rintro o k u ⟨⟨hk0,lD⟩,fZ⟩
 refine ac ?_
 refine Tr.seq ?_
 refine Tr.cn rfl ?_ ?_<;>intro h2 q2
 have hk:k<z2.1.length:=AG h2
 obtain ⟨s,hs⟩:=at_ hk
 have nN:=Gf.O_ s (List.mem_of_getElem? hs)
 have hsw:=Gf.wid s (List.mem_of_getElem? hs)
 refine ac ?_
 refine Tr.seq (Tr.block (Tr.seq (Tr.Ah (co rfl (AA rfl underlying197 F9 (vl rfl) (vl rfl) (by omega) (AP hs)) ?_))))
 refine a3 ?_
 refine Tr.block (Tr.B0 3 1 (Tr.Cm [(8,_),(14,_),(48,_),(49,_),(50,_),(54,_),(55,_)] ⟨ke rfl,ke rfl,ke rfl,ke rfl,ke rfl,ke rfl,ke rfl,trivial⟩ (fun (x:List Int) (m:Nat) u2=>[(56,int ((m:Nat):Int)),(17,Ag u2 (ints x))]) (fun (x:List Int) (m:Nat) u2=>Hp M0 w0 FR ([Aq 3 1 u2,Aq 38 1 u])) (fun (x:List Int) (m:Nat)=>(m≤s.length∧x.length=m)∧∀y∈x,0≤y∧y<((l.length:Nat):Int)) (fun (x:List Int) (m:Nat)=>s.length-m) ([]) (0) (.slice none 0 0) (⟨⟨Nat.zero_le _,rfl⟩,fun s h=>(by cases h)⟩) ⟨ke rfl,⟨_,rfl,Bf rfl⟩,trivial⟩ (fun _ _ h=>h) ?_))
 rintro x m u2 ⟨⟨hm0,hxl⟩,hxr⟩
 refine ac ?_
 refine Tr.seq ?_
 refine Tr.cn rfl ?_ ?_<;>intro h3 q3
 have hm:m<s.length:=AG h3
 obtain ⟨i2,hi2⟩:=at_ hm
 have hir:=nN i2 (List.mem_of_getElem? hi2)
 obtain ⟨y,hy⟩:=at_ (l:=rel) (k:=i2.toNat) (by omega)
 have hyr:=ZS y (List.mem_of_getElem? hy)
 refine ac ?_
 refine Tr.seq (Tr.block (Tr.seq (Tr.Ah (co rfl (AA rfl underlying38 B4 (vl rfl) (vl rfl) (by omega) (AP hi2)) ?_))))
 refine ac ?_
 refine ap ?_
 refine tp rfl (AA rfl underlying38 B4 (vl rfl) (vl rfl) (by omega) (BS hy)) ?_
 refine ap ?_
 refine TO.Dh 0 rfl rfl (by decide) (Bt rfl rfl rfl rfl underlying38 B4 Jf z3 (Kb rfl) (Kf rfl) (Au (by exact List.Mem.head _) (Ka rfl))) (fun v1=> ?_)
 refine ap ?_
 refine P9 8 14 17 48 49 50 54 55 56 rfl ?_
 refine ac ?_
 exact Fin.BT (x++[y]) (m+1) v1 (⟨⟨⟨by omega,by simp;omega⟩,Zd hxr hyr⟩,by omega⟩) ⟨⟨_,rfl,AE m⟩,⟨_,rfl,A7 (by rw [List.map_append];rfl)⟩,ke rfl,ke rfl,ke rfl,ke rfl,ke rfl,ke rfl,ke rfl,trivial⟩ (fun _ _ h=>h)
 have hme:=AH h3
 refine ac ?_
 refine ap ?_
 refine tp rfl (AM (xs:=[.tmp 69]) (rows:=[[_]]) rfl rfl underlying197 F9 z38 rfl (by decide) ⟨⟨(by exact rfl),⟨_,rfl,Pr.le_trans (Ak _ _) (Ae _)⟩⟩,trivial⟩ (by decide)) ?_
 refine TO.Dh 1 rfl rfl (by decide) (Bt rfl rfl rfl rfl underlying197 F9 TL z38 (Kb rfl) (Kf rfl) (Au (by exact List.Mem.head _) (Ka rfl))) (fun v2=> ?_)
 refine ap ?_
 refine KP 8 14 48 49 50 rfl ?_
 refine ac ?_
 refine Fin.drop 0 ?_
 exact Fin.BT (o++[x]) (k+1) v2 (⟨⟨⟨by omega,by simp;omega⟩,WU fZ hxr (by omega)⟩,by omega⟩) ⟨⟨_,rfl,AE k⟩,⟨_,rfl,A7 (by rw [List.map_append];rfl)⟩,ke rfl,ke rfl,ke rfl,trivial⟩ (fun _ _ h=>h)
 have VO:=AH h2
 refine a2 ?_
 refine Tr.ret (Fin.BK rfl (AO.tmp rfl (Lr)) (AO.tmp rfl (Lr)) ?_)
 · exact AJ (_,_) (AU ⟨fZ.1,(by show o.length≤4096;omega),fZ.2⟩ (Am ⟨Ak _ _,Lr,trivial⟩))
theorem Uf {e:DD} {l:List BQ} {r:List BG} {d:List Int} (hf:e.fits) (hrl:r.length≤1000000):BA prog 85 [agg (B1 e),Ik l r d] (Cp.ex fun z:Int=>fact (z=0→E3 e=true∧WS e.Be.length l r d) (int z)):=by
 refine fo func85 rfl ⟨rfl,rfl⟩ fun M0 w0=> ?_
 refine a2 ?_
 refine co rfl (Cq (DV hf) rfl rfl) ?_
 refine an ?_ ?_<;>intro h1 q1
 refine a2 ?_
 · exact AJ _ (AU (fun h_=>absurd h_ (by decide)) (Lr))
 have R3:E3 e=true:=by cases h_:E3 e with|true=>rfl|false=>exact absurd h1 (by rw [h_];decide)
 refine ac ?_
 refine ap ?_
 refine tp rfl (CF (fq hrl) rfl rfl rfl) ?_
 refine TO.ex 10 rfl (fun z1=>TO.fact 10 rfl fun FE=> ?_)
 refine ap ?_
 · repeat' first|exact AJ _ (AU (fun h_=>absurd h_ (by decide)) (Lr))|exact AJ 0 (AU (fun _=>⟨R3,FE (by simp_all)⟩) (Lr))|refine ac ?_|(refine Tr.cn rfl ?_ ?_<;>intro h q)
def f_ (d s:List Int) (fr:Int):Int:=s.foldl (fun a i=>max a (d.getD i.toNat 0)) fr
theorem Zf {d s:List Int} {fr i:Int} {k:Nat} (h:s[k]? =some i):f_ d (s.take (k+1)) fr=max (f_ d (s.take k) fr) (d.getD i.toNat 0):=by unfold f_;rw [List.take_add_one,h,List.foldl_append];rfl
theorem Kx {l:List BQ} {r:List BG} {d s:List Int} {fr:Int} (hs:∀i∈s,0≤i∧i<(d.length:Nat)):BA prog 87 [Ik l r d,ints s,int fr] (int (f_ d s fr)):=by
 refine fo func87 rfl ⟨rfl,rfl⟩ fun M0 w0=>(Tr.Cv 1 rfl fun GV=> ?_)
 refine a3 ?_
 refine Tr.block (Tr.A9 [(3,_),(11,_),(12,_)] (L_ rfl) (fun k:Nat=>[(13,int ((k:Nat):Int)),(7,int (f_ d (s.take k) fr))]) (fun k:Nat=>k≤(s).length) (fun k:Nat=>(s).length-k) 0 (Nat.zero_le _) ⟨ke rfl,ke rfl,trivial⟩ ?_)
 rintro k BP
 refine ac ?_
 refine Tr.seq ?_
 refine Tr.cn rfl ?_ ?_<;>intro h1 q1
 have Ai:k<(s).length:=AG h1
 obtain ⟨i,Af⟩:=at_ Ai
 have hir:=hs i (List.mem_of_getElem? Af)
 have WT:=GG (l:=d) (i:=i.toNat) (by omega)
 refine ac ?_
 refine Tr.seq (Tr.block (Tr.seq (Tr.Ah (co rfl (AA rfl underlying38 B4 (vl rfl) (vl rfl) (by omega) (AP Af)) ?_))))
 refine a2 ?_
 refine co rfl (AA rfl underlying22 B4 (vl rfl) (vl rfl) (by omega) (BS WT)) (co rfl (Gg rfl Cz rfl) (co rfl (KM rfl (vl rfl) (vl rfl)) ?_))
 refine ac ?_
 refine KP 3 7 11 12 13 rfl ?_
 refine ac ?_
 exact Fin.AL (k+1) ⟨Ai,by omega⟩ ⟨⟨_,rfl,AE k⟩,⟨_,rfl,int_eq (by rw [Zf Af])⟩,ke rfl,ke rfl,ke rfl,trivial⟩
 have BJ:k=(s).length:=by have:=AH h1;omega
 subst BJ
 rw [List.take_length]
 refine a3 ?_
 · exact Lr
structure ABE (n:Int) (L:List (List (List Int))):Prop where
 O_:∀t∈L,KJ n t
 len:L.length≤1000000
abbrev nP (L:List (List (List Int))):Pr:=slice 1 (L.map fun t=>[sets t])
theorem Zg {n:Int} {L:List (List (List Int))} {t:List (List Int)} (h:∀t∈L,KJ n t) (ht:KJ n t):∀u∈L++[t],KJ n u:=fun u hu=>by
 rcases List.mem_append.1 hu with hu|hu
 · exact h u hu
 · rw [List.mem_singleton] at hu;subst hu;exact ht
theorem Ug {e:DD} {l:List BQ} {r:List BG} {d:List Int} {n:Nat} (hz:e.sz n) (hn:n≤800000) (hrl:r.length≤1000000):BA prog 86 [agg (B1 e),Ik l r d] (Cp.ex fun z:List (List (List Int))×Int=>fact (ABE ((l.length:Nat):Int) z.1) (EK [nP z.1,int z.2])):=by
 refine fo func86 rfl ⟨rfl,rfl⟩ fun M0 w0=> ?_
 have hlg:=hz.lg
 iterate 4 refine ac ?_
 refine Tr.block (Tr.B0 197 1 (Tr.E9 [(2,_),(3,_),(13,_)] ⟨ke rfl,ke rfl,ke rfl,trivial⟩ (fun (o:List (List (List Int))) (m:Int) (k:Nat) u=>[(14,int ((k:Nat):Int)),(7,int m),(6,Ag u (nP o))]) (fun (o:List (List (List Int))) (m:Int) (k:Nat) u=>Hp M0 w0 FR ([Aq 197 1 u])) (fun (o:List (List (List Int))) (m:Int) (k:Nat)=>(k≤e.BE.length∧o.length=k)∧(0≤m∧m≤4096)∧∀t∈o,KJ ((l.length:Nat):Int) t) (fun (o:List (List (List Int))) (m:Int) (k:Nat)=>e.BE.length-k) ([]) (0) (0) (.slice none 0 0) (⟨⟨Nat.zero_le _,rfl⟩,⟨by omega,by omega⟩,fun s h=>(by cases h)⟩) ⟨ke rfl,ke rfl,⟨_,rfl,Bf rfl⟩,trivial⟩ (fun _ _ h=>h) ?_))
 rintro o m k u ⟨⟨hk0,lD⟩,hm,fZ⟩
 refine ac ?_
 refine Tr.seq ?_
 refine Tr.cn rfl ?_ ?_<;>intro h1 q1
 have hk:k<e.BE.length:=AG h1
 refine a2 ?_
 refine ap ?_
 refine tp rfl (J2 (Ze hz hn hrl) rfl rfl rfl rfl) ?_
 refine TO.ex 21 rfl (fun z1=>TO.fact 21 rfl fun FE=> ?_)
 have hzl:=FE.len
 refine ap ?_
 refine J0 2 3 6 7 9 10 13 14 rfl ?_
 refine ac ?_
 refine ag ?_ ?_<;>intro h2 q2
 refine ac ?_
 refine J0 2 3 6 7 9 13 14 33 rfl ?_
 refine ac ?_
 refine Tr.ret (Fin.AD (Fin.AX (Fin.AD (Fin.AD (Fin.AX (Fin.AD (Fin.BK rfl (AO.tmp rfl (Lr)) (AO.tmp rfl (Lr)) ?_)))))))
 · exact AJ ([],_) (AU ⟨fun s h=>(by cases h),(by decide:([]:List (List (List Int))).length≤1000000)⟩ (Am ⟨AF 1,Lr,trivial⟩))
 refine ac ?_
 refine J0 2 3 6 7 9 13 14 33 rfl ?_
 refine Tr.cn rfl ?_ ?_<;>intro h3 q3
 refine ac ?_
 refine Tr.ret (Fin.AD (Fin.AX (Fin.AD (Fin.AD (Fin.AX (Fin.AD (Fin.BK rfl (AO.tmp rfl (Lr)) (AO.tmp rfl (Lr)) ?_)))))))
 · exact AJ ([],_) (AU ⟨fun s h=>(by cases h),(by decide:([]:List (List (List Int))).length≤1000000)⟩ (Am ⟨AF 1,Lr,trivial⟩))
 refine ac ?_
 refine ap ?_
 refine TO.Dh 0 rfl rfl (by decide) (Bt rfl rfl rfl rfl underlying194 Ww uG uI (Kb rfl) (Kf rfl) (Au (by exact List.Mem.head _) (Ka rfl))) (fun v1=> ?_)
 refine ap ?_
 refine ac ?_
 exact Fin.Dr (o++[z1.1]) (m+((z1.1.length:Nat):Int)) (k+1) v1 (⟨⟨⟨by omega,by simp;omega⟩,⟨by omega,by omega⟩,Zg fZ FE⟩,by omega⟩) ⟨⟨_,rfl,AE k⟩,ke rfl,⟨_,rfl,A7 (by rw [List.map_append];rfl)⟩,ke rfl,ke rfl,ke rfl,trivial⟩ (fun _ _ h=>h)
 have VO:=AH h1
 refine a2 ?_
 refine Tr.ret (Fin.BK rfl (AO.tmp rfl (Lr)) (AO.tmp rfl (Lr)) ?_)
 · exact AJ (_,_) (AU ⟨fZ,(by show o.length≤1000000;omega)⟩ (Am ⟨Ak _ _,Lr,trivial⟩))
abbrev rN:Pr:=agg [anyI,anyI]
theorem lU {φ:Prop}:Pr.le (Cp.ex fun z:Int×Int×Int=>fact φ (EK [agg [int z.1,int z.2.1],int z.2.2])) (EK [rN,anyI]):=fun M w v ⟨z,_,h⟩=>Am (ps:=[agg [int z.1,int z.2.1],int z.2.2]) (qs:=[rN,anyI]) ⟨Aw (ps:=[int z.1,int z.2.1]) (qs:=[anyI,anyI]) ⟨AJ _ (Pr.le_refl _),AJ _ (Pr.le_refl _),trivial⟩,AJ _ (Pr.le_refl _),trivial⟩ M w v h
abbrev nQ:Pr:=Cp.ex fun z:List Int=>fact (z.length≤1000000) (ints z)
theorem rO:Pr.le (Cp.ex fun z:List Int×Int=>fact (z.1.length≤1000) (EK [ints z.1,int z.2])) (EK [nQ,anyI]):=fun M w v ⟨z,hz,h⟩=>Am (ps:=[ints z.1,int z.2]) (qs:=[nQ,anyI]) ⟨AJ z.1 (AU (by omega) (Pr.le_refl _)),AJ _ (Pr.le_refl _),trivial⟩ M w v h
theorem WV {e:DD} {l:List BQ} {r:List BG} {d:List Int} {n:Nat} {s:List Int} {i fr ML:Int} (hz:e.sz n) (hn:n≤800000) (hc:∀c∈l,c.Cw.fits∧c.Cw.small) (hs:∀i∈s,0≤i∧i<(d.length:Nat)) (gT:s.length≤4096)  :BA prog 106 [agg (B1 e),Ik l r d,int i,ints s,int fr,int ML] (EK [rN,Dw]):=by
 refine fo func106 rfl ⟨rfl,rfl⟩ fun M0 w0=> ?_
 have hxf:=(X7 (l:=l) (s:=s) hz hc).fits (by omega)
 refine Tr.seq (Tr.An (tp rfl (Bb rfl (Va rfl)) (tp rfl (Bb rfl (Va rfl)) ?_)))
 refine Tl rfl rfl rfl rfl Io E_ (fun b1=> ?_)
 refine ao ?_
 refine ao ?_
 refine tp rfl (J2 (Kw hz hn hc) rfl rfl rfl rfl) ?_
 refine ao ?_
 refine Tl rfl rfl rfl rfl z31 HR (fun b2=> ?_)
 refine sf 0 14 ⟨rfl,rfl,rfl⟩ rfl rfl rfl rfl ?_
 refine ao ?_
 refine J0 2 3 4 5 7 12 14 15 rfl ?_
 refine an ?_ ?_<;>intro h1 q1
 refine ao ?_
 refine TO.AK 0 rfl rfl rfl (vl rfl) (Va rfl) rfl Bu rfl rfl ?_
 refine ao ?_
 refine Tr.ret (Fin.AD (Fin.BK rfl (AO.cell 0 rfl rfl Cf Bu rfl (Lr)) (AO.tmp rfl (Lr)) ?_))
 refine Am ⟨?_,?_,trivial⟩
 · exact Aw ⟨AJ _ (Lr),AJ _ (Lr),trivial⟩
 · exact AJ _ (Lr)
 refine ac ?_
 refine Tr.seq (Tr.pad (Tr.rx ?_))
 refine ax ?_
 refine xo rfl (fun _=>J2 (Kx hs) rfl rfl rfl rfl) (xm rfl (xo rfl (fun _=>Aa.le (Zv (NG hxf) rfl rfl rfl rfl rfl) lU) ?_))
 refine ax ?_
 refine Cx.ef 0 rfl rfl (by decide) (Ca rfl rfl (by decide) rfl Io E_) (Cx.Dz 0 rfl rfl (DC rfl rfl rfl rfl (Va rfl) Bu rfl rfl) (xm rfl ?_))
 refine Cx.nil ⟨by kernel_rfl,?_⟩
 refine BH.open_ 0 16 rfl rfl (fun v1=> ?_)
 refine BH.done YY (Fin.MB 16 0 _ rfl rfl (fun _=>rfl) (fun b3=> ?_))
 refine Fin.go (Cd 12 16 17 rfl ?_)
 refine ao ?_
 refine tp rfl (fM rfl (VL.le (vl rfl) WB) (VL.le (vl rfl) (B6 _ _))) (TO.AK 1 rfl rfl rfl (vl rfl) (Va rfl) rfl Bu rfl rfl ?_)
 refine ao ?_
 refine Tr.drop 0 (Tr.ret (Fin.BK rfl (AO.cell 0 rfl rfl Cf Bu rfl (Lr)) (AO.tmp rfl (Lr)) ?_))
 refine Am ⟨?_,?_,trivial⟩
 · exact Lr
 · exact Lr
abbrev gA (c:Int×List Int):List Pr:=[int c.1,ints c.2,anyI,anyI]
abbrev gB:Pr:=agg [Cp.ex fun L:List (Int×List Int)=>slice 4 (L.map gA)]
abbrev w5:Pr:=agg [anyI,Cp.ex fun s:List Int=>ints s,anyI,anyI]
theorem Ct:Pr.le (agg [is (.slice none 0 0)]) gB:=Aw ⟨AJ [] (AF 4),trivial⟩
theorem Ge:Pr.le (agg [is (.int .i64 0),is (.slice none 0 0),is (.int .i64 0),is (.int .i64 0)]) w5:=Aw ⟨AJ _ (Pr.le_refl _),AJ [] (AF 1),AJ _ (Pr.le_refl _),AJ _ (Pr.le_refl _),trivial⟩
theorem Zh {e:DD} {l:List BQ} {r:List BG} {d:List Int} {n:Nat} {fr ML:Int} (hz:e.sz n) (hn:n≤800000) (hc:∀c∈l,c.Cw.fits∧c.Cw.small) (hrl:r.length≤1000000):BA prog 84 [agg (B1 e),Ik l r d,int fr,int ML] (Cp.ex fun z:Int=>fact (z=0→E3 e=true∧WS e.Be.length l r d) (EK [gB,w5,Dw,int z])):=by
 refine fo func84 rfl ⟨rfl,rfl⟩ fun M0 w0=> ?_
 have hf:=hz.fits (by omega)
 refine Tr.seq (Tr.An (tp rfl (Bb rfl (Va rfl)) (tp rfl (Bb rfl (Va rfl)) ?_)))
 refine Tl rfl rfl rfl rfl z53 F_ (fun b1=> ?_)
 refine Tl rfl rfl rfl rfl iz OX (fun b2=> ?_)
 refine ao ?_
 refine ao ?_
 refine tp rfl (CF (Uf hf hrl) rfl rfl rfl) ?_
 refine TO.ex 24 rfl (fun z1=>TO.fact 24 rfl fun FE=> ?_)
 refine ao ?_
 refine Je 2 3 4 5 8 9 12 rfl ?_
 refine an ?_ ?_<;>intro h1 q1
 refine ao ?_
 refine TO.AK 1 rfl rfl rfl (vl rfl) (Va rfl) rfl CJ rfl rfl (TO.AK 0 rfl rfl rfl (vl rfl) (Va rfl) rfl FM rfl rfl ?_)
 refine ao ?_
 refine Ef 8 9 10 11 rfl (Tr.ret (Fin.AD (Fin.NF rfl (AO.cell 1 rfl rfl Cu CJ rfl (Lr)) (AO.cell 0 rfl rfl I4 FM rfl (Lr)) (AO.tmp rfl (Lr)) (AO.tmp rfl (Lr)) ?_)))
 · exact AJ z1 (AU (fun h_=>absurd h_ (by omega)) (Am ⟨Ct,Ge,AJ _ (Lr),Lr,trivial⟩))
 have hz0:z1=0:=by have:=q1;omega
 obtain ⟨R3,lV⟩:=FE hz0
 have gU:=lV.dl
 refine ac ?_
 refine ag ?_ ?_<;>intro h2 q2
 refine ac ?_
 refine Je 2 3 4 5 8 9 43 rfl (Tr.cond rfl (fun _=> ?_) (fun h=>nomatch h))
 refine Tr.seq (Tr.An (tp rfl (Al (rows:=[]) rfl NQ F_ trivial rfl) (tp rfl (Al (rows:=[]) rfl Wv OX trivial rfl) (TO.AK 1 rfl rfl rfl (vl rfl) (Va rfl) rfl CJ rfl rfl (TO.AK 0 rfl rfl rfl (vl rfl) (Va rfl) rfl FM rfl rfl ?_)))))
 refine ao ?_
 refine Tr.ret (Fin.AD (Fin.NF rfl (AO.cell 1 rfl rfl Cu CJ rfl (Lr)) (AO.cell 0 rfl rfl I4 FM rfl (Lr)) (AO.tmp rfl (Lr)) (AO.tmp rfl (Lr)) ?_))
 · exact AJ 2 (AU (fun h_=>absurd h_ (by decide)) (Am ⟨Ct,Ge,AJ _ (Lr),Lr,trivial⟩))
 refine ag ?_ ?_<;>intro h3 q3
 refine ac ?_
 refine Je 2 3 4 5 8 9 43 rfl (Tr.cond rfl (fun _=> ?_) (fun h=>nomatch h))
 refine Tr.seq (Tr.An (tp rfl (Al (rows:=[]) rfl NQ F_ trivial rfl) (tp rfl (Al (rows:=[]) rfl Wv OX trivial rfl) (TO.AK 1 rfl rfl rfl (vl rfl) (Va rfl) rfl CJ rfl rfl (TO.AK 0 rfl rfl rfl (vl rfl) (Va rfl) rfl FM rfl rfl ?_)))))
 refine ao ?_
 refine Tr.ret (Fin.AD (Fin.NF rfl (AO.cell 1 rfl rfl Cu CJ rfl (Lr)) (AO.cell 0 rfl rfl I4 FM rfl (Lr)) (AO.tmp rfl (Lr)) (AO.tmp rfl (Lr)) ?_))
 · exact AJ 2 (AU (fun h_=>absurd h_ (by decide)) (Am ⟨Ct,Ge,AJ _ (Lr),Lr,trivial⟩))
 refine ag ?_ ?_<;>intro h4 q4
 refine ac ?_
 refine Je 2 3 4 5 8 9 43 rfl (Tr.cond rfl (fun _=> ?_) (fun h=>nomatch h))
 refine Tr.seq (Tr.An (tp rfl (Al (rows:=[]) rfl NQ F_ trivial rfl) (tp rfl (Al (rows:=[]) rfl Wv OX trivial rfl) (TO.AK 1 rfl rfl rfl (vl rfl) (Va rfl) rfl CJ rfl rfl (TO.AK 0 rfl rfl rfl (vl rfl) (Va rfl) rfl FM rfl rfl ?_)))))
 refine ao ?_
 refine Tr.ret (Fin.AD (Fin.NF rfl (AO.cell 1 rfl rfl Cu CJ rfl (Lr)) (AO.cell 0 rfl rfl I4 FM rfl (Lr)) (AO.tmp rfl (Lr)) (AO.tmp rfl (Lr)) ?_))
 · exact AJ 2 (AU (fun h_=>absurd h_ (by decide)) (Am ⟨Ct,Ge,AJ _ (Lr),Lr,trivial⟩))
 refine ac ?_
 refine Je 2 3 4 5 8 9 43 rfl ?_
 refine Tr.cn rfl ?_ ?_<;>intro h5 q5
 refine ao ?_
 refine TO.AK 1 rfl rfl rfl (vl rfl) (Va rfl) rfl CJ rfl rfl (TO.AK 0 rfl rfl rfl (vl rfl) (Va rfl) rfl FM rfl rfl ?_)
 refine ao ?_
 refine Tr.ret (Fin.AD (Fin.NF rfl (AO.cell 1 rfl rfl Cu CJ rfl (Lr)) (AO.cell 0 rfl rfl I4 FM rfl (Lr)) (AO.tmp rfl (Lr)) (AO.tmp rfl (Lr)) ?_))
 · exact AJ 2 (AU (fun h_=>absurd h_ (by decide)) (Am ⟨Ct,Ge,AJ _ (Lr),Lr,trivial⟩))
 refine ac ?_
 refine ao ?_
 refine tp rfl (CF (Ug hz hn hrl) rfl rfl rfl) ?_
 refine TO.ex 49 rfl (fun z2=>TO.fact 49 rfl fun Gf=> ?_)
 refine ao ?_
 refine J0 2 3 4 5 8 9 13 14 rfl ?_
 refine an ?_ ?_<;>intro h6 q6
 refine ao ?_
 refine TO.AK 1 rfl rfl rfl (vl rfl) (Va rfl) rfl CJ rfl rfl (TO.AK 0 rfl rfl rfl (vl rfl) (Va rfl) rfl FM rfl rfl ?_)
 refine ao ?_
 refine Ef 8 9 10 11 rfl (Tr.ret (Fin.AD (Fin.NF rfl (AO.cell 1 rfl rfl Cu CJ rfl (Lr)) (AO.cell 0 rfl rfl I4 FM rfl (Lr)) (AO.tmp rfl (Lr)) (AO.tmp rfl (Lr)) ?_)))
 · exact AJ _ (AU (fun _=>⟨R3,lV⟩) (Am ⟨Ct,Ge,AJ _ (Lr),Lr,trivial⟩))
 refine ac ?_
 refine Tr.seq (Tr.An ?_)
 refine Tl rfl rfl rfl rfl z53 F_ (fun b3=> ?_)
 refine ao ?_
 refine ac ?_
 refine HQ 2 3 4 5 8 9 15 57 58 59 rfl (Tr.block (Tr.Hl 0 [Ag (.slice none 0 0) (slice 4 (([]:List (Int×List Int)).map gA))] rfl ⟨Bf rfl,trivial⟩ (Tr.B0 190 4 (Tr.Cm [(2,_),(3,_),(4,_),(5,_),(8,_),(9,_),(15,_),(57,_),(58,_)] ⟨ke rfl,ke rfl,ke rfl,ke rfl,ke rfl,ke rfl,ke rfl,ke rfl,ke rfl,trivial⟩ (fun (q:List (Int×List Int)) (k:Nat) v=>[(59,int ((k:Nat):Int))]) (fun (q:List (Int×List Int)) (k:Nat) v=>Hp M0 w0 FR ([Aq 190 4 v,AB true b3 53 [Ag v (slice 4 (q.map gA))],AB true b2 190 (([.int .i64 0,.slice none 0 0,.int .i64 0,.int .i64 0]:List Value).map is),AB true b1 53 (([.slice none 0 0]:List Value).map is)])) (fun (q:List (Int×List Int)) (k:Nat)=>k≤z2.1.length∧q.length≤4096*k) (fun (q:List (Int×List Int)) (k:Nat)=>z2.1.length-k) ([]) (0) (.slice none 0 0) (⟨Nat.zero_le _,by simp⟩) ⟨ke rfl,trivial⟩ (fun _ _ h=>h) ?_))))
 rintro q k v ⟨hk0,hql⟩
 refine ac ?_
 refine Tr.seq ?_
 refine Tr.cn rfl ?_ ?_<;>intro h7 q7
 have hk:k<z2.1.length:=AG h7
 obtain ⟨t,ht⟩:=at_ hk
 have hts:=Gf.O_ t (List.mem_of_getElem? ht)
 have htl:=hts.len
 have hzl:=Gf.len
 refine a2 ?_
 refine co rfl (AA rfl underlying194 Ww (vl rfl) (vl rfl) (by omega) (AP ht)) ?_
 refine ac ?_
 refine ON 2 3 4 5 8 9 15 16 17 57 58 59 rfl ?_
 refine ac ?_
 refine NM 2 3 4 5 8 9 15 16 57 58 59 64 65 66 rfl (Tr.block (Tr.Cm [(2,_),(3,_),(4,_),(5,_),(8,_),(9,_),(15,_),(16,_),(57,_),(58,_),(59,_),(64,_),(65,_)] ⟨ke rfl,ke rfl,ke rfl,ke rfl,ke rfl,ke rfl,ke rfl,ke rfl,ke rfl,ke rfl,ke rfl,ke rfl,ke rfl,trivial⟩ (fun (q2:List (Int×List Int)) (m:Nat) u=>[(66,int ((m:Nat):Int))]) (fun (q2:List (Int×List Int)) (m:Nat) u=>Hp M0 w0 FR ([Aq 190 4 u,AB true b3 53 [Ag u (slice 4 (q2.map gA))],AB true b2 190 (([.int .i64 0,.slice none 0 0,.int .i64 0,.int .i64 0]:List Value).map is),AB true b1 53 (([.slice none 0 0]:List Value).map is)])) (fun (q2:List (Int×List Int)) (m:Nat)=>m≤t.length∧q2.length≤4096*k+m) (fun (q2:List (Int×List Int)) (m:Nat)=>t.length-m) (q) (0) v (⟨Nat.zero_le _,by omega⟩) ⟨ke rfl,trivial⟩ (fun _ _ h=>h) ?_))
 rintro q2 m u ⟨hm0,ACQ⟩
 refine ac ?_
 refine gw 2 3 4 5 8 9 15 16 57 58 59 64 65 66 67 rfl (Tr.seq ?_)
 refine Tr.cn rfl ?_ ?_<;>intro h8 q8
 have hm:m<t.length:=AG h8
 obtain ⟨x,hx⟩:=at_ hm
 have hsd:∀i∈x,0≤i∧i<(d.length:Nat):=fun i hi=>by have:=hts.O_ x (List.mem_of_getElem? hx) i hi;omega
 have hsw:=hts.wid x (List.mem_of_getElem? hx)
 refine ac ?_
 refine NM 2 3 4 5 8 9 15 16 57 58 59 64 65 66 rfl (Tr.seq (Tr.block (Tr.seq (Tr.Ah (co rfl (AA rfl underlying197 F9 (vl rfl) (vl rfl) (by omega) (AP hx)) ?_)))))
 refine ac ?_
 refine gw 2 3 4 5 8 9 15 16 19 57 58 59 64 65 66 rfl ?_
 refine ac ?_
 refine co rfl (J2 (Kx hsd) rfl rfl rfl rfl) ?_
 refine ac ?_
 refine Uy 2 3 4 5 8 9 15 16 19 57 58 59 64 65 66 75 rfl ?_
 refine Tr.cn rfl ?_ ?_<;>intro h9 q9
 refine ac ?_
 refine NM 2 3 4 5 8 9 15 16 57 58 59 64 65 66 rfl ?_
 refine ac ?_
 exact Fin.BT (q2) (m+1) u (⟨⟨by omega,by omega⟩,by omega⟩) ⟨⟨_,rfl,AE m⟩,ke rfl,ke rfl,ke rfl,ke rfl,ke rfl,ke rfl,ke rfl,ke rfl,ke rfl,ke rfl,ke rfl,ke rfl,ke rfl,trivial⟩ (fun _ _ h=>h)
 refine ac ?_
 refine gw 2 3 4 5 8 9 15 16 19 57 58 59 64 65 66 rfl ?_
 refine ao ?_
 refine tp rfl (AR rfl (WV hz hn hc hsd hsw) ⟨ke rfl,ke rfl,ke rfl,ke rfl,ke rfl,ke rfl,trivial⟩) ?_
 refine ao ?_
 refine Tl rfl rfl rfl rfl Io E_ (fun b4=> ?_)
 refine sf 0 20 ⟨rfl,rfl,rfl⟩ rfl rfl rfl rfl ?_
 refine ao ?_
 refine gy 2 3 4 5 8 9 15 16 19 20 21 57 58 59 64 65 66 rfl (Tr.seq (Tr.seq (Tr.ex 21 rfl fun x21=> ?_)))
 refine ac ?_
 refine gy 2 3 4 5 8 9 15 16 19 20 57 58 59 64 65 66 87 rfl ?_
 refine Tr.cn rfl ?_ ?_<;>intro h10 QH
 refine ao ?_
 refine TO.AK 3 rfl rfl rfl (vl rfl) (Va rfl) rfl CJ rfl rfl (TO.AK 2 rfl rfl rfl (vl rfl) (Va rfl) rfl FM rfl rfl ?_)
 refine ao ?_
 refine Ef 8 9 10 11 rfl (Tr.ret (Fin.AD (Fin.AX (Fin.AD (Fin.AD (Fin.AX (Fin.AX (Fin.AD (Fin.AD (Fin.AX (Fin.AD (Fin.NF rfl (AO.cell 3 rfl rfl Cu CJ rfl (Lr)) (AO.cell 2 rfl rfl I4 FM rfl (Lr)) (AO.tmp rfl (Lr)) (AO.tmp rfl (Lr)) ?_))))))))))))
 · exact AJ 0 (AU (fun _=>⟨R3,lV⟩) (Am ⟨Ct,Aw ⟨AJ _ (Lr),AJ _ (Lr),AJ _ (Lr),AJ _ (Lr),trivial⟩,AJ _ (Lr),Lr,trivial⟩))
 refine ac ?_
 refine Uy 2 3 4 5 8 9 15 16 19 20 57 58 59 64 65 66 rfl ?_
 refine ao ?_
 refine TO.Dh 0 rfl rfl (by decide) (Bt rfl rfl rfl rfl underlying51 FM uF iz (Kb rfl) (Kf rfl) (Au (by exact List.Mem.head _) (Ka rfl))) (fun v1=> ?_)
 refine tp rfl (Ac rfl aX (vl rfl)) (TO.AK 1 rfl rfl rfl (vl rfl) (Vo rfl) rfl zB rfl rfl ?_)
 refine ao ?_
 refine NM 2 3 4 5 8 9 15 16 57 58 59 64 65 66 rfl ?_
 refine ac ?_
 refine Fin.Hl 1 [Ag v1 (slice 4 ((q2++[(((k:Nat):Int),x)]).map gA))] rfl ⟨A7 (by rw [List.map_append];rfl),trivial⟩ ?_
 exact Fin.BT (q2++[(((k:Nat):Int),x)]) (m+1) v1 (⟨⟨by omega,by simp;omega⟩,by omega⟩) ⟨⟨_,rfl,AE m⟩,ke rfl,ke rfl,ke rfl,ke rfl,ke rfl,ke rfl,ke rfl,ke rfl,ke rfl,ke rfl,ke rfl,ke rfl,ke rfl,trivial⟩ (fun _ _ h=>h)
 have hme:=AH h8
 refine ac ?_
 refine HQ 2 3 4 5 8 9 15 57 58 59 rfl ?_
 refine ac ?_
 exact Fin.BT (q2) (k+1) u (⟨⟨by omega,by omega⟩,by omega⟩) ⟨⟨_,rfl,AE k⟩,ke rfl,ke rfl,ke rfl,ke rfl,ke rfl,ke rfl,ke rfl,ke rfl,ke rfl,trivial⟩ (fun _ _ h=>h)
 have VO:=AH h7
 refine ac ?_
 refine ao ?_
 refine TO.AK 3 rfl rfl rfl (vl rfl) (Va rfl) rfl CJ rfl rfl (TO.AK 2 rfl rfl rfl (vl rfl) (Va rfl) rfl FM rfl rfl ?_)
 refine ao ?_
 refine Ef 8 9 10 11 rfl (Tr.ret (Fin.NF rfl (AO.cell 3 rfl rfl Cu CJ rfl (Lr)) (AO.cell 2 rfl rfl I4 FM rfl (Lr)) (AO.tmp rfl (Lr)) (AO.tmp rfl (Lr)) ?_))
 · exact AJ 0 (AU (fun _=>⟨R3,lV⟩) (Am ⟨Aw ⟨AJ _ (Ak _ _),trivial⟩,Ge,AJ _ (Lr),Lr,trivial⟩))
theorem Zi {e:DD} {l:List BQ} {r:List BG} {d:List Int} {n:Nat} {fr ML:Int} (hz:e.sz n) (hn:n≤800000) (hc:∀c∈l,c.Cw.fits∧c.Cw.small) (hrl:r.length≤1000000):BA prog 57 [agg (B1 e),Ik l r d,int fr,int ML] (Cp.ex fun z:Int=>fact (z=0→E3 e=true∧WS e.Be.length l r d) (EK [gB,int z])):=by
 refine fo func57 rfl ⟨rfl,rfl⟩ fun M0 w0=>(Tr.seq (Tr.An (tp rfl (Bb rfl (Va rfl)) (tp rfl (Bb rfl (Va rfl)) ?_))))
 refine Tl rfl rfl rfl rfl z53 F_ (fun b1=> ?_)
 refine ao ?_
 refine ao ?_
 refine tp rfl (Zv (Zh hz hn hc hrl) rfl rfl rfl rfl rfl) ?_
 refine TO.ex 19 rfl (fun z1=>TO.fact 19 rfl fun FE=> ?_)
 refine ao ?_
 refine Tl rfl rfl rfl rfl z53 F_ (fun b2=> ?_)
 refine Tl rfl rfl rfl rfl iz OX (fun b3=> ?_)
 refine sf 1 10 ⟨rfl,rfl,rfl⟩ rfl rfl rfl rfl ?_
 refine sf 0 11 ⟨rfl,rfl,rfl⟩ rfl rfl rfl rfl ?_
 refine ao ?_
 refine Ef 8 10 12 13 rfl ?_
 refine an ?_ ?_<;>intro h1 q1
 refine ao ?_
 refine TO.AK 0 rfl rfl rfl (vl rfl) (Va rfl) rfl CJ rfl rfl ?_
 refine ao ?_
 refine Tr.ret (Fin.AD (Fin.BK rfl (AO.cell 0 rfl rfl Cu CJ rfl (Lr)) (AO.tmp rfl (Lr)) ?_))
 · exact AJ z1 (AU (fun h_=>absurd h_ (by omega)) (Am ⟨Ct,Lr,trivial⟩))
 have hz0:z1=0:=by have:=q1;omega
 refine ac ?_
 refine Tr.seq (Tr.seq (Tr.ex 12 rfl fun x12=> ?_))
 refine an ?_ ?_<;>intro h2 q2
 refine ao ?_
 refine TO.AK 0 rfl rfl rfl (vl rfl) (Va rfl) rfl CJ rfl rfl ?_
 refine ao ?_
 refine Tr.ret (Fin.AD (Fin.BK rfl (AO.cell 0 rfl rfl Cu CJ rfl (Lr)) (AO.tmp rfl (Lr)) ?_))
 · exact AJ 42 (AU (fun h_=>absurd h_ (by decide)) (Am ⟨Ct,Lr,trivial⟩))
 refine ac ?_
 refine ao ?_
 refine TO.AK 0 rfl rfl rfl (vl rfl) (Va rfl) rfl CJ rfl rfl ?_
 refine ao ?_
 refine Tr.ret (Fin.BK rfl (AO.cell 0 rfl rfl Cu CJ rfl (Lr)) (AO.tmp rfl (Lr)) ?_)
 · exact AJ 0 (AU (fun _=>FE hz0) (Am ⟨Lr,Lr,trivial⟩))
theorem Sv {e:DD} {l:List BQ} {r:List BG} {d:List Int} {n:Nat} {s:List Int} {g i:Int} (hz:e.sz n) (hn:n≤800000) (hc:∀c∈l,c.Cw.fits∧c.Cw.small) (gT:s.length≤4096) (hi:0≤i∧i<(d.length:Nat)):BA prog 89 [agg (B1 e),Ik l r d,int g,ints s,int i,Lv,Ph,Sm] (Dw):=by
 refine fo func89 rfl ⟨rfl,rfl⟩ fun M0 w0=> ?_
 have hxf:=(X7 (l:=l) (s:=s) hz hc).fits (by omega)
 have hwl:=MT s i true
 have hyf:=(X7 (l:=l) (s:=D5 s i true) hz hc).fits (by omega)
 have WT:=GG (l:=d) (i:=i.toNat) (by omega)
 refine ac ?_
 refine ao ?_
 refine tp rfl (J2 (Kw hz hn hc) rfl rfl rfl rfl) ?_
 refine ao ?_
 refine Tl rfl rfl rfl rfl z31 HR (fun b1=> ?_)
 refine sf 0 17 ⟨rfl,rfl,rfl⟩ rfl rfl rfl rfl ?_
 refine ao ?_
 refine HQ 2 3 4 6 8 9 13 15 17 18 rfl (Tr.seq (Tr.pad (Tr.rx ?_)))
 refine ax ?_
 refine xo rfl (fun _=>J2 (Fh (by omega)) rfl rfl rfl rfl) (xo rfl (fun _=>J2 (Kw hz hn hc) rfl rfl rfl rfl) ?_)
 refine ax ?_
 refine Cx.ef 0 rfl rfl (by decide) (Ca rfl rfl (by decide) rfl z31 HR) (Cx.Dz 0 rfl rfl (DC rfl rfl rfl rfl (Va rfl) C7 rfl rfl) (xm rfl ?_))
 refine Cx.nil ⟨by kernel_rfl,?_⟩
 refine BH.open_ 0 19 rfl rfl (fun v1=> ?_)
 refine BH.done al1 (Fin.MB 19 0 _ rfl rfl (fun _=>rfl) (fun b2=> ?_))
 refine Fin.go (HQ 2 4 6 9 13 15 17 18 19 20 rfl ?_)
 refine ag ?_ ?_<;>intro h1 q1
 refine ac ?_
 refine P9 2 4 6 9 13 15 17 19 46 rfl ?_
 refine ac ?_
 refine Tr.drop 0 ?_
 refine ac ?_
 · exact AJ _ (Lr)
 refine ac ?_
 refine P9 2 4 6 9 13 15 17 19 46 rfl ?_
 refine Tr.cn rfl ?_ ?_<;>intro h2 q2
 refine ac ?_
 refine Tr.drop 0 ?_
 refine ac ?_
 · exact AJ _ (Lr)
 refine a2 ?_
 refine co rfl (AA rfl underlying22 B4 (vl rfl) (vl rfl) (by omega) (BS WT)) (co rfl (Gg rfl Cz rfl) (co rfl (Aa.le (AR rfl (ZQ hxf hyf) ⟨ke rfl,ke rfl,ke rfl,ke rfl,ke rfl,ke rfl,trivial⟩) rO) ?_))
 refine ac ?_
 refine Tr.drop 0 (Cc 2 21 rfl (Tr.seq (Tr.seq (Tr.ex 21 rfl fun bad=>(Tr.fact 21 rfl fun ACR=> ?_)))))
 refine ac ?_
 refine Tr.block (Tr.A9 [(2,_),(61,_),(62,_)] (L_ rfl) (fun k:Nat=>[(63,int ((k:Nat):Int))]) (fun k:Nat=>k≤(bad).length) (fun k:Nat=>(bad).length-k) 0 (Nat.zero_le _) ⟨ke rfl,trivial⟩ ?_)
 rintro k BP
 refine ac ?_
 refine Tr.seq ?_
 refine Tr.cn rfl ?_ ?_<;>intro h3 q3
 have Ai:k<(bad).length:=AG h3
 obtain ⟨x,Af⟩:=at_ Ai
 refine ac ?_
 refine Tr.seq (Tr.block (Tr.seq (Tr.Ah (co rfl (AA rfl underlying22 B4 (vl rfl) (vl rfl) (by omega) (AP Af)) ?_))))
 · repeat' first|exact AJ _ (Lr)|exact Fin.AL (k+1) ⟨Ai,by omega⟩ ⟨⟨_,rfl,AE k⟩,ke rfl,ke rfl,ke rfl,trivial⟩|refine ac ?_|(refine Tr.cn rfl ?_ ?_<;>intro h q)
 have BJ:k=(bad).length:=by have:=AH h3;omega
 subst BJ
 refine a3 ?_
 · exact AJ _ (Lr)
theorem WW {l:List (List Int)} {s:List Int}  :BA prog 88 [sets l,ints s] (Dw):=by
 refine fo func88 rfl ⟨rfl,rfl⟩ fun M0 w0=>(Tr.Cv 0 rfl fun Ew=> ?_)
 refine a2 ?_
 refine Tr.block (Tr.A9 [(1,_),(7,_),(8,_)] (L_ rfl) (fun k:Nat=>[(9,int ((k:Nat):Int))]) (fun k:Nat=>k≤(l).length) (fun k:Nat=>(l).length-k) 0 (Nat.zero_le _) ⟨ke rfl,trivial⟩ ?_)
 rintro k BP
 refine ac ?_
 refine Tr.seq ?_
 refine Tr.cn rfl ?_ ?_<;>intro h1 q1
 have Ai:k<(l).length:=AG h1
 obtain ⟨x,Af⟩:=at_ Ai
 refine ac ?_
 refine Tr.seq (Tr.block (Tr.seq (Tr.Ah (co rfl (AA rfl underlying197 F9 (vl rfl) (vl rfl) (by omega) (AP Af)) ?_))))
 refine a2 ?_
 refine co rfl (CF (So) rfl rfl rfl) ?_
 refine ac ?_
 refine Tr.ex 15 rfl fun ACS=> ?_
 · repeat' first|exact AJ _ (Lr)|exact Fin.AL (k+1) ⟨Ai,by omega⟩ ⟨⟨_,rfl,AE k⟩,ke rfl,ke rfl,ke rfl,trivial⟩|refine ac ?_|(refine Tr.cn rfl ?_ ?_<;>intro h q)
 have BJ:k=(l).length:=by have:=AH h1;omega
 refine a3 ?_
 · exact AJ _ (Lr)
theorem WX {e:DD} {l:List BQ} {r:List BG} {d:List Int} {n:Nat} (hz:e.sz n) (hn:n≤800000) (hc:∀c∈l,c.Cw.fits∧c.Cw.small) (hrl:r.length≤1000000):BA prog 58 [agg (B1 e),Ik l r d,Lv,Ph,Sm] (Cp.ex fun z:List Int×Int=>fact (z.1.length≤1000) (EK [ints z.1,int z.2])):=by
 refine fo func58 rfl ⟨rfl,rfl⟩ fun M0 w0=> ?_
 have hf:=hz.fits (by omega)
 refine ac ?_
 refine ap ?_
 refine tp rfl (CF (Uf hf hrl) rfl rfl rfl) ?_
 refine TO.ex 25 rfl (fun z1=>TO.fact 25 rfl fun FE=> ?_)
 refine ap ?_
 refine ac ?_
 refine Je 3 5 6 7 9 12 27 rfl ?_
 refine Tr.cn rfl ?_ ?_<;>intro h1 q1
 refine ac ?_
 refine Tr.ret (Fin.AD (Fin.BK rfl (AO.tmp rfl (Lr)) (AO.tmp rfl (Lr)) ?_))
 · exact AJ ([],_) (AU (Nat.zero_le _) (Am ⟨AF 1,Lr,trivial⟩))
 have hz0:z1=0:=by have:=q1;omega
 obtain ⟨R3,lV⟩:=FE hz0
 have gU:=lV.dl
 have Jk:=lV.l24
 refine a2 ?_
 refine co rfl (J2 (JV) rfl rfl rfl rfl) ?_
 refine ac ?_
 refine Tr.seq (Tr.ex 13 rfl fun x13=> ?_)
 refine an ?_ ?_<;>intro h2 q2
 refine ac ?_
 refine Cc 10 11 rfl (Tr.ret (Fin.AD (Fin.BK rfl (AO.tmp rfl (Lr)) (AO.tmp rfl (Lr)) ?_)))
 · exact AJ ([],_) (AU (Nat.zero_le _) (Am ⟨AF 1,Lr,trivial⟩))
 refine ac ?_
 refine ap ?_
 refine tp rfl (CF (Ug hz hn hrl) rfl rfl rfl) ?_
 refine TO.ex 38 rfl (fun z2=>TO.fact 38 rfl fun Gf=> ?_)
 refine ap ?_
 refine Je 3 5 6 7 9 14 15 rfl ?_
 refine an ?_ ?_<;>intro h3 q3
 refine ac ?_
 refine Tr.ret (Fin.AD (Fin.BK rfl (AO.tmp rfl (Lr)) (AO.tmp rfl (Lr)) ?_))
 · exact AJ ([],_) (AU (Nat.zero_le _) (Am ⟨AF 1,Lr,trivial⟩))
 refine a3 ?_
 refine P9 3 5 6 7 9 14 16 46 47 rfl (Tr.block (Tr.B0 3 1 (Tr.Cm [(3,_),(5,_),(6,_),(7,_),(9,_),(14,_),(46,_)] ⟨ke rfl,ke rfl,ke rfl,ke rfl,ke rfl,ke rfl,ke rfl,trivial⟩ (fun (o:List Int) (k:Nat) u=>[(47,int ((k:Nat):Int)),(16,Ag u (ints o))]) (fun (o:List Int) (k:Nat) u=>Hp M0 w0 FR ([Aq 3 1 u])) (fun (o:List Int) (k:Nat)=>k≤l.length∧o.length≤k) (fun (o:List Int) (k:Nat)=>l.length-k) ([]) (0) (.slice none 0 0) (⟨Nat.zero_le _,by simp⟩) ⟨ke rfl,⟨_,rfl,Bf rfl⟩,trivial⟩ (fun _ _ h=>h) ?_)))
 rintro o k u ⟨hk0,lD⟩
 refine ac ?_
 refine Tr.seq ?_
 refine Tr.cn rfl ?_ ?_<;>intro h4 q4
 have hk:k<l.length:=AG h4
 obtain ⟨dk,WT⟩:=at_ (l:=d) (k:=k) (by omega)
 iterate 4 refine ac ?_
 refine NM 3 5 6 7 9 14 16 17 18 46 47 50 51 52 rfl (Tr.block (Tr.A9 [(3,_),(5,_),(6,_),(7,_),(9,_),(14,_),(16,_),(17,_),(46,_),(47,_),(50,_),(51,_)] (yx rfl) (fun j:Nat=>[(52,int ((j:Nat):Int)),(18,Dw)]) (fun j:Nat=>j≤(z2.1).length) (fun j:Nat=>(z2.1).length-j) 0 (Nat.zero_le _) ⟨ke rfl,⟨_,rfl,AJ _ (Lr)⟩,trivial⟩ ?_))
 rintro j ABo
 refine ac ?_
 refine gw 3 5 6 7 9 14 16 17 18 46 47 50 51 52 53 rfl (Tr.seq ?_)
 refine Tr.cn rfl ?_ ?_<;>intro h5 q5
 have w7:j<(z2.1).length:=AG h5
 obtain ⟨t,w8⟩:=at_ w7
 have hts:=Gf.O_ t (List.mem_of_getElem? w8)
 have ht:=w8
 have htl:=hts.len
 have hzl:=Gf.len
 refine ac ?_
 refine NM 3 5 6 7 9 14 16 17 18 46 47 50 51 52 rfl ?_
 refine ac ?_
 refine co rfl (AA rfl underlying194 Ww (vl rfl) (vl rfl) (by omega) (AP ht)) ?_
 refine ac ?_
 refine Uy 3 5 6 7 9 14 16 17 18 19 20 46 47 50 51 52 rfl ?_
 refine ac ?_
 refine aM 3 5 6 7 9 14 16 17 18 19 20 46 47 50 51 52 57 58 59 rfl (Tr.block (Tr.A9 [(3,_),(5,_),(6,_),(7,_),(9,_),(14,_),(16,_),(17,_),(19,_),(20,_),(46,_),(47,_),(50,_),(51,_),(52,_),(57,_),(58,_)] (yz rfl) (fun m:Nat=>[(59,int ((m:Nat):Int)),(18,Dw)]) (fun m:Nat=>m≤(t).length) (fun m:Nat=>(t).length-m) 0 (Nat.zero_le _) ⟨ke rfl,ke rfl,trivial⟩ ?_))
 rintro m Lc
 refine ac ?_
 refine tM 3 5 6 7 9 14 16 17 18 19 20 46 47 50 51 52 57 58 59 60 rfl (Tr.seq ?_)
 refine Tr.cn rfl ?_ ?_<;>intro h6 q6
 have EB:m<(t).length:=AG h6
 obtain ⟨x,EJ⟩:=at_ EB
 have hx:=EJ
 have hsd:∀i∈x,0≤i∧i<(d.length:Nat):=fun i hi=>by have:=hts.O_ x (List.mem_of_getElem? hx) i hi;omega
 have hsw:=hts.wid x (List.mem_of_getElem? hx)
 refine ac ?_
 refine aM 3 5 6 7 9 14 16 17 18 19 20 46 47 50 51 52 57 58 59 rfl (Tr.seq (Tr.block (Tr.seq (Tr.Ah (co rfl (AA rfl underlying197 F9 (vl rfl) (vl rfl) (by omega) (AP hx)) ?_)))))
 refine ac ?_
 refine tM 3 5 6 7 9 14 16 17 18 19 20 22 46 47 50 51 52 57 58 59 rfl (Tr.seq (Tr.ex 18 rfl fun x18=> ?_))
 refine ag ?_ ?_<;>intro h7 q7
 refine ac ?_
 refine cy h7 rfl (CF (JM) rfl rfl rfl) ?_
 refine ag ?_ ?_<;>intro h8 q8
 refine ac ?_
 refine cy h8 rfl (J2 (Kx hsd) rfl rfl rfl rfl) ?_
 refine ac ?_
 refine cy h8 rfl (AA rfl underlying22 B4 (vl rfl) (vl rfl) (by omega) (AP WT)) ?_
 refine ag ?_ ?_<;>intro h9 q9
 refine ac ?_
 refine cy h9 rfl (J2 (Fh (by omega)) rfl rfl rfl rfl) (cy h9 rfl (CF (WW) rfl rfl rfl) ?_)
 refine ac ?_
 refine gz 3 5 6 7 9 14 16 17 18 19 20 22 46 47 50 51 52 57 58 59 88 rfl (Tr.ex 88 rfl fun ACT=> ?_)
 · repeat' first|exact Fin.AL (m+1) ⟨EB,by omega⟩ ⟨⟨_,rfl,AE m⟩,ke rfl,ke rfl,ke rfl,ke rfl,ke rfl,ke rfl,ke rfl,ke rfl,ke rfl,ke rfl,ke rfl,ke rfl,ke rfl,ke rfl,ke rfl,ke rfl,ke rfl,ke rfl,trivial⟩|exact Fin.AL (m+1) ⟨EB,by omega⟩ ⟨⟨_,rfl,AE m⟩,⟨_,rfl,AJ _ (Lr)⟩,ke rfl,ke rfl,ke rfl,ke rfl,ke rfl,ke rfl,ke rfl,ke rfl,ke rfl,ke rfl,ke rfl,ke rfl,ke rfl,ke rfl,ke rfl,ke rfl,ke rfl,trivial⟩|refine co rfl (AR rfl (Sv hz hn hc hsw (by omega)) ⟨ke rfl,ke rfl,ke rfl,ke rfl,ke rfl,ke rfl,ke rfl,ke rfl,trivial⟩) ?_|refine ac ?_|(refine Tr.cn rfl ?_ ?_<;>intro h q)
 refine ac ?_
 refine gz 3 5 6 7 9 14 16 17 18 19 20 22 46 47 50 51 52 57 58 59 88 rfl ?_
 refine ac ?_
 refine aM 3 5 6 7 9 14 16 17 18 19 20 46 47 50 51 52 57 58 59 rfl ?_
 refine ac ?_
 exact Fin.AL (m+1) ⟨EB,by omega⟩ ⟨⟨_,rfl,AE m⟩,⟨_,rfl,AJ _ (Lr)⟩,ke rfl,ke rfl,ke rfl,ke rfl,ke rfl,ke rfl,ke rfl,ke rfl,ke rfl,ke rfl,ke rfl,ke rfl,ke rfl,ke rfl,ke rfl,ke rfl,ke rfl,trivial⟩
 refine ac ?_
 refine gz 3 5 6 7 9 14 16 17 18 19 20 22 46 47 50 51 52 57 58 59 88 rfl ?_
 refine ac ?_
 refine aM 3 5 6 7 9 14 16 17 18 19 20 46 47 50 51 52 57 58 59 rfl ?_
 refine ac ?_
 exact Fin.AL (m+1) ⟨EB,by omega⟩ ⟨⟨_,rfl,AE m⟩,⟨_,rfl,AJ _ (Lr)⟩,ke rfl,ke rfl,ke rfl,ke rfl,ke rfl,ke rfl,ke rfl,ke rfl,ke rfl,ke rfl,ke rfl,ke rfl,ke rfl,ke rfl,ke rfl,ke rfl,ke rfl,trivial⟩
 refine ac ?_
 refine gz 3 5 6 7 9 14 16 17 18 19 20 22 46 47 50 51 52 57 58 59 88 rfl ?_
 refine ac ?_
 refine aM 3 5 6 7 9 14 16 17 18 19 20 46 47 50 51 52 57 58 59 rfl ?_
 refine ac ?_
 exact Fin.AL (m+1) ⟨EB,by omega⟩ ⟨⟨_,rfl,AE m⟩,⟨_,rfl,AJ _ (Lr)⟩,ke rfl,ke rfl,ke rfl,ke rfl,ke rfl,ke rfl,ke rfl,ke rfl,ke rfl,ke rfl,ke rfl,ke rfl,ke rfl,ke rfl,ke rfl,ke rfl,ke rfl,trivial⟩
 have JF:m=(t).length:=by have:=AH h6;omega
 subst JF
 refine ac ?_
 refine NM 3 5 6 7 9 14 16 17 18 46 47 50 51 52 rfl ?_
 refine ac ?_
 exact Fin.AL (j+1) ⟨w7,by omega⟩ ⟨⟨_,rfl,AE j⟩,ke rfl,ke rfl,ke rfl,ke rfl,ke rfl,ke rfl,ke rfl,ke rfl,ke rfl,ke rfl,ke rfl,ke rfl,ke rfl,trivial⟩
 have qz:j=(z2.1).length:=by have:=AH h5;omega
 subst qz
 refine ac ?_
 refine Es 3 5 6 7 9 14 16 17 18 46 47 rfl ?_
 refine ac ?_
 refine Tr.ex 100 rfl fun ABp=> ?_
 refine Tr.cn rfl ?_ ?_<;>intro h11 QG
 refine ap ?_
 refine TO.Dh 0 rfl rfl (by decide) (Bt rfl rfl rfl rfl underlying22 B4 Jf z3 (Kb rfl) (Kf rfl) (Au (by exact List.Mem.head _) (Ka rfl))) (fun v1=> ?_)
 refine ap ?_
 refine P9 3 5 6 7 9 14 16 46 47 rfl ?_
 refine ac ?_
 exact Fin.BT (o++[((k:Nat):Int)]) (k+1) v1 (⟨⟨by omega,by simp;omega⟩,by omega⟩) ⟨⟨_,rfl,AE k⟩,⟨_,rfl,A7 (by rw [List.map_append];rfl)⟩,ke rfl,ke rfl,ke rfl,ke rfl,ke rfl,ke rfl,ke rfl,trivial⟩ (fun _ _ h=>h)
 refine a2 ?_
 exact Fin.BT (o) (k+1) u (⟨⟨by omega,by omega⟩,by omega⟩) ⟨⟨_,rfl,AE k⟩,⟨_,rfl,A7 rfl⟩,ke rfl,ke rfl,ke rfl,ke rfl,ke rfl,ke rfl,ke rfl,trivial⟩ (fun _ _ h=>h)
 have VO:=AH h4
 refine a2 ?_
 refine Tr.ret (Fin.BK rfl (AO.tmp rfl (Lr)) (AO.tmp rfl (Lr)) ?_)
 · exact AJ (_,_) (AU (show o.length≤1000 by omega) (Am ⟨Ak _ _,Lr,trivial⟩))
end Go.Proofs.YtkobgkelhcigdaaGreatDoor
