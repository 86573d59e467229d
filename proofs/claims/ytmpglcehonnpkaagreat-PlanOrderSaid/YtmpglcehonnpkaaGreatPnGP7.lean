/-
  PlanOrder: the law of this name returns true, whatever the input.
-/
import Derived.Test.YtmpglcehonnpkaaGreatRows
import Derived.Test.YtmpglcehonnpkaaGreatPnGP6
set_option linter.all false
set_option maxRecDepth 40000
set_option maxHeartbeats 16000000
namespace Go.Proofs.YtmpglcehonnpkaaGreat
open Go Go.RowKit Cp Go.Proofs.Tryz
theorem XR {n:Int} {l:List BS} {s:List Int} (hl:l.length≤1000000):Az prog 123 [int n,reqs l,ints s] (Cp.ex fun z:List BS×Int=>fact (z.1.length≤1000) (EI [reqs z.1,int z.2])):=by
 refine fo func123 rfl ⟨rfl,rfl⟩ fun M0 w0=> ?_
 refine a2 ?_
 refine co rfl (CS (Hh hl) rfl rfl rfl) ?_
 refine ac ?_
 refine an ?_ ?_<;>intro h1 q1
 refine ac ?_
 refine Tr.ret (Fin.AB (Fin.BD rfl (AP.tmp rfl (Lr)) (AP.tmp rfl (Lr)) ?_))
 · exact AG ([],_) (AU (Nat.zero_le _) (Am ⟨AF 2,Lr,trivial⟩))
 have hv:Bf n l=0:=by simpa using h1
 obtain ⟨N,rfl⟩:∃N:Nat,n=(N:Int):=⟨n.toNat,by have:=(EE hv).1;omega⟩
 have PW:=(EE hv).1
 have XG:∀r∈l,(0≤r.fst∧r.fst<(N:Nat))∧0≤r.thn∧r.thn<(N:Nat):=fun r hr=>by
  have h_:=(EE hv).2.1 r hr
  unfold FV at h_;rw [decide_eq_false_iff_not] at h_;omega
 refine a2 ?_
 refine co rfl (CS (Nr (l:=s) (n:=((N:Nat):Int))) rfl rfl rfl) ?_
 refine an ?_ ?_<;>intro h2 q2
 refine ac ?_
 refine CY 6 7 rfl (Tr.ret (Fin.AB (Fin.BD rfl (AP.tmp rfl (Lr)) (AP.tmp rfl (Lr)) ?_)))
 · exact AG ([],_) (AU (Nat.zero_le _) (Am ⟨AF 2,Lr,trivial⟩))
 have hsb:FP ((N:Nat):Int) s=true:=by simpa using h2
 have hsn:=V4 hsb
 refine a2 ?_
 refine co rfl (CS (Px (n:=N) (l:=l) (by omega) hl XG) rfl rfl rfl) ?_
 refine ac ?_
 refine CY 2 9 rfl ?_
 refine a2 ?_
 refine Tr.block (Tr.Bs 109 2 (Tr.Cc [(2,_),(9,_),(28,_),(29,_)] ⟨ke rfl,ke rfl,ke rfl,ke rfl,trivial⟩ (fun (o:List BS) (i:Nat) u=>[(30,int ((i:Nat):Int)),(10,Ag u (reqs o))]) (fun (o:List BS) (i:Nat) u=>Hp M0 w0 Eo ([Ap 109 2 u])) (fun (o:List BS) (i:Nat)=>i≤s.length∧o.length≤24*i) (fun (o:List BS) (i:Nat)=>s.length-i) ([]) (0) (.slice none 0 0) (⟨Nat.zero_le _,by simp⟩) ⟨ke rfl,⟨_,rfl,BX rfl⟩,trivial⟩ (fun _ _ h=>h) ?_))
 rintro o i u ⟨hi0,bu⟩
 refine ac ?_
 refine Tr.seq ?_
 refine Tr.cn rfl ?_ ?_<;>intro h3 q3
 have hi:i<s.length:=AH h3
 obtain ⟨x,hx⟩:=at_ hi
 have nZ:=RC hsb hx
 refine a2 ?_
 refine co rfl (AA rfl underlying101 Bh (vl rfl) (vl rfl) (by omega) (AO hx)) ?_
 refine a2 ?_
 refine EO 2 9 10 11 12 28 29 30 35 36 37 rfl (Tr.block (Tr.Cc [(2,_),(9,_),(11,_),(12,_),(28,_),(29,_),(30,_),(35,_),(36,_)] ⟨ke rfl,ke rfl,ke rfl,ke rfl,ke rfl,ke rfl,ke rfl,ke rfl,ke rfl,trivial⟩ (fun (p:List BS) (k:Nat) u2=>[(37,int ((k:Nat):Int)),(10,Ag u2 (reqs p))]) (fun (p:List BS) (k:Nat) u2=>Hp M0 w0 Eo ([Ap 109 2 u2])) (fun (p:List BS) (k:Nat)=>k≤s.length∧p.length≤24*i+k) (fun (p:List BS) (k:Nat)=>s.length-k) (o) (0) u (⟨Nat.zero_le _,by omega⟩) ⟨ke rfl,⟨_,rfl,Au rfl⟩,trivial⟩ (fun _ _ h=>h) ?_))
 rintro p k u2 ⟨hk0,hpl⟩
 refine ac ?_
 refine Tr.seq ?_
 refine Tr.cn rfl ?_ ?_<;>intro h4 q4
 have hk:k<s.length:=AH h4
 obtain ⟨y,hy⟩:=at_ hk
 have hyn:=RC hsb hy
 refine a2 ?_
 refine co rfl (AA rfl underlying101 Bh (vl rfl) (vl rfl) (by omega) (AO hy)) ?_
 refine ac ?_
 refine J_ 2 9 10 11 12 13 14 28 29 30 35 36 37 rfl ?_
 refine ac ?_
 refine co rfl (AA rfl underlying243 Lu (vl rfl) (vl rfl) (by omega) (BB (I7 _ (a:=x.toNat) (by omega)))) ?_
 refine ac ?_
 refine co rfl (AA rfl underlying134 S3 (vl rfl) (vl rfl) (by omega) (BB (I8 _ (b:=y.toNat) (by omega)))) ?_
 refine ac ?_
 refine J_ 2 9 10 11 12 13 28 29 30 35 36 37 48 rfl ?_
 refine Tr.cn rfl ?_ ?_<;>intro h5 q5
 refine ap ?_
 refine TO.DP 0 rfl rfl (by decide) (Bl rfl rfl rfl rfl underlying31 Bt KI z109 (Kb rfl) (Kf rfl) (Aq (by exact List.Mem.head _) (Ka rfl))) (fun v1=> ?_)
 refine ap ?_
 refine EO 2 9 10 11 12 28 29 30 35 36 37 rfl ?_
 refine ac ?_
 exact Fin.BM (p++[⟨((i:Nat):Int),((k:Nat):Int)⟩]) (k+1) v1 (⟨⟨by omega,by simp;omega⟩,by omega⟩) ⟨⟨_,rfl,AD k⟩,⟨_,rfl,Au (by rw [List.map_append];rfl)⟩,ke rfl,ke rfl,ke rfl,ke rfl,ke rfl,ke rfl,ke rfl,ke rfl,ke rfl,trivial⟩ (fun _ _ h=>h)
 refine a2 ?_
 exact Fin.BM (p) (k+1) u2 (⟨⟨by omega,by omega⟩,by omega⟩) ⟨⟨_,rfl,AD k⟩,⟨_,rfl,Au rfl⟩,ke rfl,ke rfl,ke rfl,ke rfl,ke rfl,ke rfl,ke rfl,ke rfl,ke rfl,trivial⟩ (fun _ _ h=>h)
 have VR:=AJ h4
 refine a2 ?_
 exact Fin.BM (p) (i+1) u2 (⟨⟨by omega,by omega⟩,by omega⟩) ⟨⟨_,rfl,AD i⟩,⟨_,rfl,Au rfl⟩,ke rfl,ke rfl,ke rfl,ke rfl,trivial⟩ (fun _ _ h=>h)
 have hie:=AJ h3
 refine a2 ?_
 refine Tr.ret (Fin.BD rfl (AP.tmp rfl (Lr)) (AP.tmp rfl (Lr)) ?_)
 · exact AG (_,_) (AU (show o.length≤1000 by omega) (Am ⟨Ah _ _,Lr,trivial⟩))
theorem OS {c:A9} {l:List BK} (ho:c.own=0):Az prog 29 [Jj c,ER l] (EI [ints (OB c l),int (Dj c l)]):=by
 refine fo func29 rfl ⟨rfl,rfl⟩ fun M0 w0=>(Tr.C8 1 rfl fun Hz=>(Tr.Gg 0 1 rfl rfl fun I5=> ?_))
 refine a2 ?_
 refine co rfl (CS (Ib (c:=c) (m:=((c.HY.length:Nat):Int))) rfl rfl rfl) ?_
 refine ac ?_
 refine an ?_ ?_<;>intro h1 q1
 exact absurd ho (by unfold A9.own;simpa using h1)
 refine a2 ?_
 refine CR 1 2 20 rfl ?_
 refine Tr.cn rfl ?_ ?_<;>intro h2 q2
 refine ac ?_
 refine Tr.ret (Fin.AB (Fin.DN rfl (BE.CZ _ _) rfl ?_ rfl ?_))
 · rw [OC (Vq (by omega)) (by decide)];exact AF 1
 · refine int_eq ?_;exact (Vq (by omega)).symm
 refine a3 ?_
 refine Tr.block (Tr.Bs 3 1 (Tr.EN [(2,_),(21,_),(22,_)] ⟨ke rfl,ke rfl,ke rfl,trivial⟩ (fun k v=>[(23,int ((k:Nat):Int)),(7,Ag v (ints ((l.take k).map (OA c))))]) (fun k v=>Hp M0 w0 Eo ([Ap 3 1 v])) (fun k:Nat=>k≤(l).length∧(∀j y,j<k→l[j]? =some y→Kl c y=false)) (fun k:Nat=>(l).length-k) 0 (.slice none 0 0) (⟨Nat.zero_le _,fun j y hj=>absurd hj (by omega)⟩) ⟨ke rfl,⟨_,rfl,BX rfl⟩,trivial⟩ (fun _ _ h=>h) ?_))
 rintro k v ⟨BN,Ab⟩
 refine ac ?_
 refine Tr.seq ?_
 refine Tr.cn rfl ?_ ?_<;>intro h3 q3
 have Af:k<(l).length:=AH h3
 obtain ⟨x,Ad⟩:=at_ Af
 refine ac ?_
 refine Tr.seq (Tr.block (Tr.seq (Tr.An (tp rfl (AA rfl underlying30 DO (vl rfl) (vl rfl) (by omega) (AO Ad)) (tp rfl (AR rfl Hv DO (vl rfl) rfl rfl) ?_)))))
 refine Tl rfl rfl rfl rfl z87 KH (fun b1=> ?_)
 refine sf 0 9 ⟨rfl,rfl,rfl⟩ rfl rfl rfl rfl ?_
 refine ao ?_
 refine ag ?_ ?_<;>intro h4 q4
 refine ac ?_
 refine I_ 2 7 9 21 22 23 37 rfl ?_
 refine ac ?_
 refine Tr.ret (Fin.AB (Fin.AX (Fin.AB (Fin.AB (Fin.AX (Fin.AB (Fin.DN rfl (BE.CZ _ _) rfl ?_ rfl ?_)))))))
 · rw [OC (Km (by omega) Ad (by unfold Kl;simp;omega)) (by decide)];exact AF 1
 · refine int_eq ?_;exact (Km (by omega) Ad (by unfold Kl;simp;omega)).symm
 refine ac ?_
 refine I_ 2 7 9 21 22 23 37 rfl ?_
 refine Tr.cn rfl ?_ ?_<;>intro h5 q5
 refine ac ?_
 refine Tr.ret (Fin.AB (Fin.AX (Fin.AB (Fin.AB (Fin.AX (Fin.AB (Fin.DN rfl (BE.CZ _ _) rfl ?_ rfl ?_)))))))
 · rw [OC (Km (by omega) Ad (by unfold Kl;simp;omega)) (by decide)];exact AF 1
 · refine int_eq ?_;exact (Km (by omega) Ad (by unfold Kl;simp;omega)).symm
 have htm:=iw (c:=c) (x:=x) (by omega)
 refine ac ?_
 refine ao ?_
 refine tp rfl (AA rfl underlying22 Bh (vl rfl) (vl rfl) (by omega) (BB htm)) ?_
 refine ao ?_
 refine TO.DP 0 rfl rfl (by decide) (Bl rfl rfl rfl rfl underlying22 Bh Iu z3 (Kb rfl) (Kf rfl) (Aq (by exact List.Mem.head _) (Ka rfl))) (fun v1=> ?_)
 refine ao ?_
 refine JV 2 7 21 22 23 rfl ?_
 refine ac ?_
 exact Fin.DC (k+1) v1 (⟨⟨Af,EM (p:=Kl c) Ad (by unfold Kl;simp;omega) Ab⟩,by omega⟩) ⟨⟨_,rfl,AD k⟩,⟨_,rfl,Au (aM Ad)⟩,ke rfl,ke rfl,ke rfl,trivial⟩ (fun _ _ h=>h)
 have BI:k=(l).length:=by have:=AJ h3;omega
 subst BI
 refine a2 ?_
 refine Tr.ret (Fin.DN rfl (BE.CZ _ _) rfl ?_ rfl ?_)
 · rw [SS (Vr (by omega) Ab)];exact Pr.le_trans (Ah _ _) (Pr.le_of_eq (by rw [List.take_length]))
 · refine int_eq ?_;exact (Vr (by omega) Ab).symm
structure Ud (m:Nat) (l:List BK) (r:List BS) (d:List Int):Prop where
 l24:l.length≤24
 dl:d.length=l.length
 v:Bf (l.length:Nat) r=0
 dd:∀j y c,j<l.length→d[j]? =some y→l[j]? =some c→(0≤y∧y≤40000)∧0≤c.AV∧c.AV<(m:Int)
abbrev H6 (l:List BK) (r:List BS) (d:List Int):Pr:=agg [ER l,reqs r,ints d]
theorem bH {e:C0} {l:List BK} {r:List BS} {d:List Int} (hrl:r.length≤1000000):Az prog 96 [agg (Bw e),H6 l r d] (Cp.ex fun z:Bool=>fact (z=true→Ud e.BW.length l r d) (bool z)):=by
 refine fo func96 rfl ⟨rfl,rfl⟩ fun M0 w0=>(Tr.Gg 1 0 rfl rfl fun uk=>(Tr.Gg 1 2 rfl rfl fun um=>(Tr.Gg 0 0 rfl rfl fun I4=> ?_)))
 refine a2 ?_
 refine ag ?_ ?_<;>intro h1 q1
 refine ac ?_
 refine CR 2 3 26 rfl ?_
 refine a2 ?_
 · exact AG false (AU (fun h_=>by cases h_) (Lr))
 refine ag ?_ ?_<;>intro h2 q2
 refine ac ?_
 refine CR 2 3 26 rfl ?_
 refine a2 ?_
 · exact AG false (AU (fun h_=>by cases h_) (Lr))
 refine ac ?_
 refine cy h2 rfl (CS (Hh (n:=((l.length:Nat):Int)) (l:=r) hrl) rfl rfl rfl) ?_
 refine ac ?_
 refine CR 2 3 26 rfl ?_
 refine Tr.cn rfl ?_ ?_<;>intro h3 q3
 refine a2 ?_
 · exact AG false (AU (fun h_=>by cases h_) (Lr))
 have PW:l.length≤24:=by omega
 have jA:d.length=l.length:=by omega
 have hv:Bf ((l.length:Nat):Int) r=0:=by omega
 refine a2 ?_
 refine Tr.block (Tr.A7 [(2,_),(3,_),(28,_),(29,_)] (TN rfl) (fun k:Nat=>[(30,int ((k:Nat):Int))]) (fun k:Nat=>k≤(l).length∧(∀j y c,j<k→d[j]? =some y→l[j]? =some c→(0≤y∧y≤40000)∧0≤c.AV∧c.AV<((e.BW.length:Nat):Int))) (fun k:Nat=>(l).length-k) 0 (⟨Nat.zero_le _,fun j y c hj=>absurd hj (by omega)⟩) ⟨ke rfl,trivial⟩ ?_)
 rintro k ⟨BN,Ab⟩
 refine ac ?_
 refine Tr.seq ?_
 refine Tr.cn rfl ?_ ?_<;>intro h4 q4
 have Af:k<(l).length:=AH h4
 obtain ⟨x,Ad⟩:=at_ Af
 obtain ⟨y,hy⟩:=at_ (l:=d) (k:=k) (by omega)
 refine ac ?_
 refine ao ?_
 refine tp rfl (AA rfl underlying30 DO (vl rfl) (vl rfl) (by omega) (AO Ad)) (tp rfl (AR rfl Hv DO (vl rfl) rfl rfl) ?_)
 refine Tl rfl rfl rfl rfl z87 KH (fun b1=> ?_)
 refine tm rfl ?_
 refine sf 0 7 ⟨rfl,rfl,rfl⟩ rfl rfl rfl rfl ?_
 refine ao ?_
 · repeat' first|exact AG false (AU (fun h_=>by cases h_) (Lr))|(exact Fin.AM (k+1) ⟨⟨Af,fun j z c hj hz Xw=>by rcases Nat.lt_or_eq_of_le (Nat.le_of_lt_succ hj) with h_|h_;exact Ab j z c h_ hz Xw;(subst h_;rw [hy] at hz;cases hz;rw [Ad] at Xw;cases Xw;omega)⟩,by omega⟩ ⟨⟨_,rfl,AD k⟩,ke rfl,ke rfl,ke rfl,ke rfl,trivial⟩)|refine cy h rfl (AA rfl underlying22 Bh (vl rfl) (vl rfl) (by omega) (AO hy)) ?_|refine ac ?_|(refine Tr.cn rfl ?_ ?_<;>intro h q)|(refine Ch.cg rfl rfl rfl ?_ ?_<;>intro h q)
 have BI:k=(l).length:=by have:=AJ h4;omega
 subst BI
 refine a3 ?_
 · exact AG true (AU (fun _=>⟨PW,jA,hv,Ab⟩) (Lr))
theorem bI {n:Nat} (hn:n≤1000):Az prog 36 [int ((n:Nat):Int)] (Cp.ex fun z:List Int=>fact (z.length≤n) (ints z)):=by
 refine fo func36 rfl ⟨rfl,rfl⟩ fun M0 w0=> ?_
 refine a3 ?_
 refine Tr.block (Tr.Bs 3 1 (Tr.Cc [(5,_)] ⟨ke rfl,trivial⟩ (fun (o:List Int) (k:Nat) u=>[(6,int ((k:Nat):Int)),(3,Ag u (ints o))]) (fun (o:List Int) (k:Nat) u=>Hp M0 w0 Eo ([Ap 3 1 u])) (fun (o:List Int) (k:Nat)=>k≤n∧o.length=k) (fun (o:List Int) (k:Nat)=>n-k) ([]) (0) (.slice none 0 0) (⟨Nat.zero_le _,rfl⟩) ⟨ke rfl,⟨_,rfl,BX rfl⟩,trivial⟩ (fun _ _ h=>h) ?_))
 rintro o k u ⟨hk0,bu⟩
 refine ac ?_
 refine Tr.seq ?_
 refine Tr.cn rfl ?_ ?_<;>intro h1 q1
 have hk:k<n:=AH h1
 refine a2 ?_
 refine ap ?_
 refine TO.DP 0 rfl rfl (by decide) (Bl rfl rfl rfl rfl underlying101 Bh Iu z3 (Kb rfl) (Kf rfl) (Aq (by exact List.Mem.head _) (Ka rfl))) (fun v1=> ?_)
 refine ap ?_
 refine ac ?_
 exact Fin.BM (o++[((k:Nat):Int)]) (k+1) v1 (⟨⟨by omega,by simp;omega⟩,by omega⟩) ⟨⟨_,rfl,AD k⟩,⟨_,rfl,Au (by rw [List.map_append];rfl)⟩,ke rfl,trivial⟩ (fun _ _ h=>h)
 have VR:=AJ h1
 refine a3 ?_
 · exact AG _ (AU (by omega) (Ah _ _))
theorem Jt {e:C0} {l:List BK} {r:List BS} {d s:List Int} {n:Nat} (hz:e.sz n) (hn:n≤800000) (hc:∀c∈l,c.Ck.fits∧c.Ck.small):Az prog 99 [agg (Bw e),H6 l r d,ints s] (EI [agg (Bw (RB e l s).1),bool (decide ((RB e l s).2=0))]):=by
 refine fo func99 rfl ⟨rfl,rfl⟩ fun M0 w0=>(Tr.seq (Tr.An (tp rfl (BZ rfl (Va rfl)) (tp rfl (BZ rfl (Va rfl)) ?_))))
 refine Tl rfl rfl rfl rfl z29 G1 (fun b1=> ?_)
 refine ao ?_
 refine ao ?_
 refine tp rfl (JH (OP hz hn hc) rfl rfl rfl rfl) ?_
 refine ao ?_
 refine Tl rfl rfl rfl rfl z29 G1 (fun b2=> ?_)
 refine sf 0 8 ⟨rfl,rfl,rfl⟩ rfl rfl rfl rfl ?_
 refine ao ?_
 refine CR 6 8 9 rfl ?_
 refine ao ?_
 refine TO.AK 0 rfl rfl rfl (vl rfl) (Va rfl) rfl Ct rfl rfl ?_
 refine ao ?_
 refine Tr.ret (Fin.BD rfl (AP.cell 0 rfl rfl Cu Ct rfl (Lr)) (AP.tmp rfl (Lr)) ?_)
 · exact Lr
theorem Ow {e:C0} {c:A9} {l:List BK} {r:List BS} {fr:Int} (hf:e.fits) (J5:∀x∈l,x.Ck.small) (hrl:r.length≤1000000):Az prog 48 [agg (Bw e),Jj c,ER l,reqs r,int fr] (EI [agg (aR e c l r fr),int (Ik e c l r fr)]):=by
 refine fo func48 rfl ⟨rfl,rfl⟩ fun M0 w0=>(Tr.C8 3 rfl fun yW=>(Tr.Gg 0 0 rfl rfl fun I4=>(Tr.seq (Tr.An (tp rfl (BZ rfl (Va rfl)) (tp rfl (BZ rfl (Va rfl)) ?_))))))
 refine Tl rfl rfl rfl rfl z33 Ej (fun b1=> ?_)
 refine ao ?_
 refine ac ?_
 refine co rfl (Ce (DA hf) rfl rfl) ?_
 refine an ?_ ?_<;>intro h1 q1
 have Qa:EY e=false:=by cases h_:EY e with|false=>rfl|true=>exact absurd h1 (by rw [h_];decide)
 have S7:Ih e c l=31:=by unfold Ih;rw [if_pos Qa]
 have hb:Ih e c l≠0:=by rw [S7];decide
 refine ao ?_
 refine TO.AK 0 rfl rfl rfl (vl rfl) (Va rfl) rfl B2 rfl rfl ?_
 refine ao ?_
 refine Tr.ret (Fin.AB (Fin.BD rfl (AP.cell 0 rfl rfl CV B2 rfl (Lr)) (AP.tmp rfl (Lr)) ?_))
 refine Am ⟨?_,?_,trivial⟩
 · exact OG (Pu hb) hb
 · refine int_eq ?_;rw [Pu hb,S7]
 have Qa:¬EY e=false:=by intro h_;rw [h_] at h1;exact absurd h1 (by decide)
 refine a2 ?_
 refine co rfl (CS (Ib (c:=c) (m:=((e.BW.length:Nat):Int))) rfl rfl rfl) ?_
 refine ac ?_
 refine Jw 2 3 4 6 10 12 rfl ?_
 refine an ?_ ?_<;>intro h2 q2
 have mC:c.check ((e.BW.length:Nat):Int)≠0:=by simpa using h2
 have S7:Ih e c l=c.check ((e.BW.length:Nat):Int):=by unfold Ih;rw [if_neg Qa,if_pos mC]
 have hb:Ih e c l≠0:=by rw [S7];exact mC
 refine ao ?_
 refine TO.AK 0 rfl rfl rfl (vl rfl) (Va rfl) rfl B2 rfl rfl ?_
 refine ao ?_
 refine Tr.ret (Fin.AB (Fin.BD rfl (AP.cell 0 rfl rfl CV B2 rfl (Lr)) (AP.tmp rfl (Lr)) ?_))
 refine Am ⟨?_,?_,trivial⟩
 · exact OG (Pu hb) hb
 · refine int_eq ?_;rw [Pu hb,S7]
 have mC:c.check ((e.BW.length:Nat):Int)=0:=by simpa using h2
 have S7:Ih e c l=Dj c l:=by unfold Ih;rw [if_neg Qa,if_neg (not_not_intro mC)]
 obtain ⟨how,htl,hth⟩:=Pt mC
 refine a2 ?_
 refine co rfl (CS (OS (c:=c) (l:=l) how) rfl rfl rfl) ?_
 refine ac ?_
 refine I_ 2 3 4 6 10 13 14 rfl ?_
 refine an ?_ ?_<;>intro h3 q3
 have hte:Dj c l≠0:=by simpa using h3
 have hb:Ih e c l≠0:=by rw [S7];exact hte
 refine ao ?_
 refine TO.AK 0 rfl rfl rfl (vl rfl) (Va rfl) rfl B2 rfl rfl ?_
 refine ao ?_
 refine Tr.ret (Fin.AB (Fin.BD rfl (AP.cell 0 rfl rfl CV B2 rfl (Lr)) (AP.tmp rfl (Lr)) ?_))
 refine Am ⟨?_,?_,trivial⟩
 · exact OG (Pu hb) hb
 · refine int_eq ?_;rw [Pu hb,S7]
 have hte:Dj c l=0:=by simpa using h3
 have hb:Ih e c l=0:=by rw [S7];exact hte
 have PW:=(OE hte).1
 have Ny:=fY hte hth
 obtain ⟨T,hT⟩:∃T,l.map (OA c)=T:=⟨_,rfl⟩
 have hTl:T.length=l.length:=by rw [←hT,List.length_map]
 rw [hT] at Ny
 refine Tr.re 13 rfl (Pr.le_of_eq (by rw [SS hte,hT])) ?_
 refine a2 ?_
 refine co rfl (CS (UU (n:=((l.length:Nat):Int)) (l:=r) hrl) rfl rfl rfl) ?_
 refine ac ?_
 refine Jx 2 3 4 6 10 13 14 15 rfl ?_
 refine an ?_ ?_<;>intro h4 q4
 have hv:Bf (l.length:Nat) r≠0:=by simpa using h4
 refine ao ?_
 refine TO.AK 0 rfl rfl rfl (vl rfl) (Va rfl) rfl B2 rfl rfl ?_
 refine ao ?_
 refine Tr.ret (Fin.AB (Fin.BD rfl (AP.cell 0 rfl rfl CV B2 rfl (Lr)) (AP.tmp rfl (Lr)) ?_))
 refine Am ⟨?_,?_,trivial⟩
 · exact OG (i6 hb hv) hv
 · refine int_eq ?_;exact (i6 hb hv).symm
 have hv:Bf (l.length:Nat) r=0:=by simpa using h4
 obtain ⟨row,hrow⟩:∃row,(Cq l.length r l.length).1=row:=⟨_,rfl⟩
 obtain ⟨XG,xw⟩:=Hf hv l.length (by simp)
 rw [Int.toNat_natCast,hrow] at XG xw
 have fq:∀q∈r,(0≤q.fst∧q.fst<l.length)∧0≤q.thn∧q.fst≠q.thn:=fun q hq=>by
  have h_:=(EE hv).2.1 q hq
  unfold FV at h_;rw [decide_eq_false_iff_not] at h_;omega
 refine Tr.re 15 rfl (Pr.le_of_eq (by rw [if_pos hv,Int.toNat_natCast,hrow])) ?_
 refine ac ?_
 refine ao ?_
 refine tp rfl (N9 (m:=l.length) rfl underlying22 Bh Iu z3 rfl (by decide) (by decide) (vl rfl) (vl rfl) (by unfold maxLen;omega) (by omega)) ?_
 refine tp rfl (Ai (rows:=[(0,[_]),(1,[_]),(2,[_])]) rfl K_ Ej ⟨⟨rfl,(Vo rfl)⟩,⟨⟨rfl,(Vo rfl)⟩,⟨⟨rfl,⟨_,rfl,Pr.le_trans (Pr.le_trans (Bp _ _) (Pr.le_of_eq (show _=slice 1 ((List.replicate l.length (0:Int)).map fun n=>[int n]) by rw [List.map_replicate];rfl))) (Aj _)⟩⟩,trivial⟩⟩⟩ rfl) ?_
 refine TO.Yy rfl rfl (by decide) rfl (Uc (d:=List.replicate l.length 0) J5 (by omega) hrl (by rw [List.length_replicate];omega)) ⟨ke rfl,trivial⟩ (fun v1=> ?_)
 refine Tl rfl rfl rfl rfl z33 Ej (fun b2=> ?_)
 refine TO.AK 0 rfl rfl rfl (vl rfl) (Va rfl) rfl B2 rfl rfl ?_
 refine ao ?_
 refine I_ 3 4 6 10 13 15 16 rfl ?_
 refine a2 ?_
 refine Tr.block (Tr.Bs 3 1 (Tr.Bs 3 1 (Tr.YL [(3,_),(4,_),(6,_),(10,_),(13,_),(16,_),(68,_),(69,_)] ⟨ke rfl,ke rfl,ke rfl,ke rfl,ke rfl,ke rfl,ke rfl,ke rfl,trivial⟩ (fun (dy:List Int) (b:List Int) (y:List Int) (k:Nat) u u2=>[(70,int ((k:Nat):Int)),(17,Ag u (ints b)),(18,Ag u2 (ints y))]) (fun (dy:List Int) (b:List Int) (y:List Int) (k:Nat) u u2=>Hp M0 w0 Eo ([Ap 3 1 u2,Ap 3 1 u,AE true b2 33 [ER l,reqs r,is v1],CN 3 1 (dy.map fun n=>[int n]) v1,AE true b1 33 (([.slice none 0 0,.slice none 0 0,.slice none 0 0]:List Value).map is)])) (fun (dy:List Int) (b:List Int) (y:List Int) (k:Nat)=>k≤row.length∧LR c r T fr l.length (row.take k)=some (dy,b,y)) (fun (dy:List Int) (b:List Int) (y:List Int) (k:Nat)=>row.length-k) (List.replicate l.length 0) ([]) ([]) (0) (.slice none 0 0) (.slice none 0 0) (⟨Nat.zero_le _,rfl⟩) ⟨ke rfl,⟨_,rfl,BX rfl⟩,⟨_,rfl,BX rfl⟩,trivial⟩ (fun _ _ h=>h) ?_)))
 rintro dy b y k u u2 ⟨hk0,hsc⟩
 have hS:=Om.run (k:=k) XG (fun q hq=>by have:=fq q hq;omega) PW how (fun i h1 h2=>Ny _ (List.mem_of_getElem? (FE (l:=T) (i:=i.toNat) (by omega)))) hk0 hsc
 have jA:=hS.len
 have S4:b.length=k:=by rw [hS.hb,List.length_map,List.length_take];omega
 have hyl:y.length=k:=by rw [hS.hd,List.length_map,List.length_take];omega
 refine ac ?_
 refine Tr.seq ?_
 refine Tr.cn rfl ?_ ?_<;>intro h5 q5
 have hk:k<row.length:=AH h5
 obtain ⟨i,hi⟩:=at_ hk
 have aB:=XG.Q3 i (List.mem_of_getElem? hi)
 have hti:T[i.toNat]? =some (S8 T i):=FE (by omega)
 refine ac ?_
 refine Tr.seq (Tr.block (Tr.seq (Tr.AW (co rfl (AA rfl underlying101 Bh (vl rfl) (vl rfl) (by omega) (AO hi)) ?_))))
 refine ac ?_
 refine ND 3 4 6 10 13 16 17 18 20 68 69 70 rfl ?_
 refine ac ?_
 refine J_ 3 4 6 10 13 16 17 18 20 21 68 69 70 rfl ?_
 refine ac ?_
 refine TL 3 4 6 10 13 16 17 18 20 21 68 69 70 75 76 77 rfl (Tr.block (Tr.A7 [(3,_),(4,_),(6,_),(10,_),(13,_),(16,_),(17,_),(18,_),(20,_),(68,_),(69,_),(70,_),(75,_),(76,_)] (vA rfl) (fun m:Nat=>[(77,int ((m:Nat):Int)),(21,int (Eu (r.take m) dy i fr))]) (fun m:Nat=>m≤(r).length) (fun m:Nat=>(r).length-m) 0 (Nat.zero_le _) ⟨ke rfl,ke rfl,trivial⟩ ?_))
 rintro m Kc
 refine ac ?_
 refine cT 3 4 6 10 13 16 17 18 20 21 68 69 70 75 76 77 78 rfl (Tr.seq ?_)
 refine Tr.cn rfl ?_ ?_<;>intro h6 q6
 have Dg:m<(r).length:=AH h6
 obtain ⟨q,Dq⟩:=at_ Dg
 refine ac ?_
 refine TL 3 4 6 10 13 16 17 18 20 21 68 69 70 75 76 77 rfl (Tr.seq (Tr.block (Tr.seq (Tr.An (tp rfl (AA rfl underlying31 Bt (vl rfl) (vl rfl) (by omega) (AO Dq)) (tp rfl (AR rfl D8 Bt (vl rfl) rfl rfl) ?_))))))
 refine Tl rfl rfl rfl rfl z109 JF (fun b3=> ?_)
 refine sf 0 23 ⟨rfl,rfl,rfl⟩ rfl rfl rfl rfl ?_
 refine ao ?_
 refine cT 3 4 6 10 13 16 17 18 20 21 23 68 69 70 75 76 77 rfl ?_
 refine ac ?_
 refine u7 3 4 6 10 13 16 17 18 20 21 23 68 69 70 75 76 77 84 rfl ?_
 refine Tr.cn rfl ?_ ?_<;>intro h7 q7
 have hqr:=fq q (List.mem_of_getElem? Dq)
 have hz:=FE (l:=dy) (i:=q.fst.toNat) (by have:=hS.len;omega)
 have hzb:=hS.bnd _ (List.mem_of_getElem? hz)
 refine ac ?_
 refine co rfl (Dr 3 rfl (Tf rfl underlying22 Bh (vl rfl) (vl rfl) (by omega) (by rw [List.length_map];omega))) ?_
 refine co rfl (Dr 3 rfl (UI rfl Bo (vl rfl) (Bu fun _=>rfl) (by rw [List.getElem?_map,hz];rfl) rfl)) ?_
 refine GV rfl rfl rfl rfl (by omega) (co rfl (JT rfl (vl rfl) (vl rfl)) ?_)
 refine ac ?_
 refine TL 3 4 6 10 13 16 17 18 20 21 68 69 70 75 76 77 rfl ?_
 refine ac ?_
 exact Fin.AM (m+1) ⟨Dg,by omega⟩ ⟨⟨_,rfl,AD m⟩,⟨_,rfl,int_eq (by rw [OH Dq,if_pos (by simpa using h7)])⟩,ke rfl,ke rfl,ke rfl,ke rfl,ke rfl,ke rfl,ke rfl,ke rfl,ke rfl,ke rfl,ke rfl,ke rfl,ke rfl,ke rfl,trivial⟩
 refine ac ?_
 refine TL 3 4 6 10 13 16 17 18 20 21 68 69 70 75 76 77 rfl ?_
 refine ac ?_
 exact Fin.AM (m+1) ⟨Dg,by omega⟩ ⟨⟨_,rfl,AD m⟩,⟨_,rfl,int_eq (by rw [OH Dq,if_neg (by simpa using h7)])⟩,ke rfl,ke rfl,ke rfl,ke rfl,ke rfl,ke rfl,ke rfl,ke rfl,ke rfl,ke rfl,ke rfl,ke rfl,ke rfl,ke rfl,trivial⟩
 have IY:m=(r).length:=by have:=AJ h6;omega
 subst IY
 rw [List.take_length]
 refine ac ?_
 refine J_ 3 4 6 10 13 16 17 18 20 21 68 69 70 rfl ?_
 refine ac ?_
 refine co rfl (AA rfl underlying22 Bh (vl rfl) (vl rfl) (by omega) (BB hti)) ?_
 refine ac ?_
 refine co rfl (AQ rfl (SJ (c:=c) (AZ:=b) (days:=y) (n:=S8 T i) (from_:=Eu r dy i fr)) ⟨ke rfl,(Kb rfl),(Kb rfl),ke rfl,ke rfl,trivial⟩) ?_
 refine ac ?_
 refine MF 3 4 6 10 13 16 17 18 20 24 25 68 69 70 rfl ?_
 refine ac ?_
 refine MF 3 4 6 10 13 16 17 18 20 24 68 69 70 109 rfl ?_
 refine Tr.cn rfl ?_ ?_<;>intro h8 q8
 have hno:c.early b y (S8 T i) (Eu r dy i fr)=none:=by simpa using h8
 refine ao ?_
 refine TO.AK 4 rfl rfl rfl (vl rfl) (Va rfl) rfl B2 rfl rfl ?_
 refine ao ?_
 refine CY 10 11 rfl (Tr.ret (Fin.AB (Fin.AX (Fin.AB (Fin.AB (Fin.AX (Fin.AB (Fin.BD rfl (AP.cell 4 rfl rfl CV B2 rfl (Lr)) (AP.tmp rfl (Lr)) ?_))))))))
 refine Am ⟨?_,?_,trivial⟩
 · exact OG (aS hb hv (by unfold Q6;rw [hT,hrow];exact Pp hi hsc hno)) (by decide)
 · refine int_eq ?_;exact (aS hb hv (by unfold Q6;rw [hT,hrow];exact Pp hi hsc hno)).symm
 obtain ⟨x,hx⟩:∃x,c.early b y (S8 T i) (Eu r dy i fr)=some x:=Option.isSome_iff_exists.1 (by simpa using h8)
 have bw:=FE (l:=dy) (i:=i.toNat) (by have:=hS.len;omega)
 refine Tr.re 24 rfl (int_eq (by rw [hx])) ?_
 refine ac ?_
 refine J_ 3 4 6 10 13 16 17 18 20 24 68 69 70 rfl ?_
 refine ao ?_
 refine tp rfl (Dr 3 rfl (Tf rfl underlying22 Bh (vl rfl) (vl rfl) (by omega) (by rw [List.length_map];omega))) ?_
 refine TO.Dp 3 rfl rfl (Nd rfl rfl (vl rfl) (Vo rfl) Bh rfl (Bu fun _=>rfl) (by rw [List.getElem?_map,bw];rfl) (by decide) (show _=(dy.set i.toNat x).map _ by rw [List.map_set];rfl)) ?_
 refine ao ?_
 refine J_ 3 4 6 10 13 16 17 18 20 24 68 69 70 rfl ?_
 refine ao ?_
 refine tp rfl (AA rfl underlying22 Bh (vl rfl) (vl rfl) (by omega) (BB hti)) ?_
 refine ao ?_
 refine TO.DP 1 rfl rfl (by decide) (Bl rfl rfl rfl rfl underlying22 Bh Iu z3 (Kb rfl) (Kf rfl) (Aq (by exact List.Mem.head _) (Ka rfl))) (fun v2=> ?_)
 refine ao ?_
 refine TO.DP 0 rfl rfl (by decide) (Bl rfl rfl rfl rfl underlying22 Bh Iu z3 (Kb rfl) (Kf rfl) (Aq (by exact List.Mem.head _) (Ka rfl))) (fun v3=> ?_)
 refine ao ?_
 refine EO 3 4 6 10 13 16 17 18 68 69 70 rfl ?_
 refine ac ?_
 exact Fin.cY (dy.set i.toNat x) (b++[S8 T i]) (y++[x]) (k+1) v2 v3 (⟨⟨hk,fI hi hsc hx⟩,by omega⟩) ⟨⟨_,rfl,AD k⟩,⟨_,rfl,Au (by rw [List.map_append];rfl)⟩,⟨_,rfl,Au (by rw [List.map_append];rfl)⟩,ke rfl,ke rfl,ke rfl,ke rfl,ke rfl,ke rfl,ke rfl,ke rfl,trivial⟩ (fun _ _ h=>h)
 have hkr:k=row.length:=by have:=AJ h5;omega
 rw [hkr,List.take_length] at hsc
 have i_:Q6 c l r fr=some (dy,b,y):=by unfold Q6;rw [hT,hrow];exact hsc
 refine ac ?_
 refine Tr.seq (Tr.Lv 2 3 2 rfl rfl (by decide) rfl (Lr) (Bu fun _=>rfl) ?_)
 refine ao ?_
 refine TO.AK 4 rfl rfl rfl (vl rfl) (Va rfl) rfl B2 rfl rfl ?_
 refine ao ?_
 refine CY 10 11 rfl (Tr.ret (Fin.BD rfl (AP.cell 4 rfl rfl CV B2 rfl (Lr)) (AP.tmp rfl (Lr)) ?_))
 refine Am ⟨?_,?_,trivial⟩
 · exact fZ (i7 hb hv i_) i_
 · refine int_eq ?_;exact (i7 hb hv i_).symm
theorem bJ {l:List BK} {n:Nat} (hc:∀c∈l,c.Ck.fits∧c.Ck.small):∀(s:List Int) (BW:List Bk),(∀x∈BW,x.sz n)→(∀x∈(La l s BW).1,x.sz (n+s.length))∧(La l s BW).1.length=BW.length
 |[],BW,h=>⟨h,rfl⟩
 |i::s,BW,h=>by
  rw [La]
  split
  · exact ⟨fun x hx=>(h x hx).le (by omega),rfl⟩
  next c Xw=>
  by_cases ha:(JP BW c).2=0
  ·
   rw [if_pos ha]
   have:=bJ (n:=n+1) hc s (JP BW c).1 (bC h (hc c (List.mem_of_getElem? Xw)))
   rw [V3] at this
   exact ⟨fun x hx=>by rw [List.length_cons,show n+(s.length+1)=n+1+s.length by omega];exact this.1 x hx,this.2⟩
  · rw [if_neg ha];exact ⟨fun x hx=>(h x hx).le (by omega),rfl⟩
theorem V6 {e:C0} {l:List BK} {s:List Int} {n:Nat} (hz:e.sz n) (hc:∀c∈l,c.Ck.fits∧c.Ck.small):(RB e l s).1.sz (n+s.length):=by
 have h0:E6.sz (n+s.length):=⟨(fun x hx=>by cases hx),(fun x hx=>by cases hx),Nat.zero_le _,Nat.zero_le _,Nat.zero_le _⟩
 obtain ⟨h1,h2⟩:=bJ hc s e.BW hz.BW
 unfold RB
 repeat' split
 · exact h0
 · exact h0
 · exact h0
 · exact ⟨h1,hz.items,by show (La l s e.BW).1.length≤_;rw [h2];exact hz.le,hz.lg,hz.li⟩
 · exact h0
theorem L2.sz {e:C0} (h:L2 e):e.sz 5:=by
 have h3:=h.n3;have g3:=h.g3;have i2:=h.i2
 refine ⟨fun x hx=> ?_,fun x hx=>⟨by have:=(h.it x hx).name;unfold maxLen;omega,by have:=(h.it x hx).links;omega⟩,by omega,by omega,by omega⟩
 obtain ⟨i,hi⟩:=List.getElem?_of_mem hx
 exact gF (h.snd i x hi)
end Go.Proofs.YtmpglcehonnpkaaGreat
namespace Cp
open Go Go.RowKit Go.Great
theorem jD {i m:Nat} (h:i≤m) (hm:m≤40):1≤2 ^ i∧2 ^ i≤2 ^ m∧2 ^ m≤1099511627776:=
 ⟨Nat.one_le_two_pow,Nat.pow_le_pow_right (by omega) h,Nat.le_trans (Nat.pow_le_pow_right (n:=2) (by omega) hm) (by decide)⟩
section
variable {P:Program} {I:CT} {o:Oper} {E:Env}
theorem V7 {t u:TypeId} {x y:Operand} {i:Int} (ho:o.op= .binOp .shl t x y u) (hx:VL E x (int 1)) (hy:VL E y (int i)) (h0:0≤i) (h40:i≤40):Ac P I o E (int ((2 ^ i.toNat:Nat):Int)):=
 Ac.same fun M w a he _=>by
  have h1:a.eval x= .int .i64 1:=hx.ev he (by simp [ho,Op.operands])
  have h2:a.eval y= .int .i64 i:=hy.ev he (by simp [ho,Op.operands])
  have hn:¬i<0:=by omega
  have hmin:min i.toNat 64=i.toNat:=by omega
  have e:((2 ^ i.toNat:Nat):Int)=(2:Int) ^ i.toNat:=Int.natCast_pow 2 i.toNat
  obtain ⟨R5,hp2,hp3⟩:=jD (i:=i.toNat) (m:=i.toNat) (Nat.le_refl _) (by omega)
  have hw:IntKind.i64.wrap (2 ^ i.toNat)=2 ^ i.toNat:=by rw [←e];exact GR (by unfold K1;omega)
  refine ⟨.int .i64 (IntKind.i64.wrap (1*2 ^ (min i.toNat IntKind.i64.bits))),?_,?_⟩
  ·
   simp only [execOp,ho,h1,h2]
   simp [eqGuard,binOp,Op.shift,hn]
   try rw [show min i.toNat IntKind.i64.bits=i.toNat from hmin]
  ·
   show Value.int _ _=Value.int _ _
   rw [show min i.toNat IntKind.i64.bits=i.toNat from hmin,Int.one_mul,hw,e]
theorem mD {t u:TypeId} {x y:Operand} {a b m:Nat} (ho:o.op= .binOp .or t x y u) (hx:VL E x (int (a:Int))) (hy:VL E y (int (b:Int))) (ha:a<2 ^ m) (hb:b<2 ^ m) (hm:m≤40):Ac P I o E (int ((a|||b:Nat):Int)):=
 Ac.same fun M w c he _=>by
  have h1:c.eval x= .int .i64 a:=hx.ev he (by simp [ho,Op.operands])
  have h2:c.eval y= .int .i64 b:=hy.ev he (by simp [ho,Op.operands])
  obtain ⟨_,_,hp3⟩:=jD (i:=m) (m:=m) (Nat.le_refl _) hm
  have hab:a|||b<2 ^ m:=Nat.or_lt_two_pow ha hb
  have ea:(BitVec.ofInt 64 (a:Int)).toNat=a:=by rw [BitVec.toNat_ofInt];omega
  have eb:(BitVec.ofInt 64 (b:Int)).toNat=b:=by rw [BitVec.toNat_ofInt];omega
  have er:(BitVec.ofInt 64 (a:Int)|||BitVec.ofInt 64 (b:Int)).toNat=a|||b:=by rw [BitVec.toNat_or,ea,eb]
  refine ⟨_,by simp [execOp,ho,h1,h2,eqGuard,binOp,Op.intBits];rfl,?_⟩
  show Value.int _ _=Value.int _ _
  congr 1
  show IntKind.i64.wrap (((BitVec.ofInt 64 (a:Int)|||BitVec.ofInt 64 (b:Int)).toNat:Nat):Int)=_
  rw [er]
  exact GR (by unfold K1;omega)
end
section
variable {P:Program} {fz:Nat} {E:Env} {M0:Av} {w0:World} {rs:List As} {g:Func}
theorem results4 {r r' r'' r3:ResultVar} {a:Act} {w:World} {v v' v'' v3:Value} (hr:g.results= #[r,r',r'',r3]) (h:(GY r a).run P w= .ok v w) (h':(GY r' a).run P w= .ok v' w) (h'':(GY r'' a).run P w= .ok v'' w) (h3:(GY r3 a).run P w= .ok v3 w):(results g a.tmps).run P w= .ok (.tuple #[v,v',v'',v3]) w:=by
 rw [Fw,hr];simp [Sem.run_bind,h,h',h'',h3]
theorem Fin.MC {r r' r'' r3:ResultVar} {p q q' X6 q3:Pr} (hr:g.results= #[r,r',r'',r3]) (h:AP P E rs r q) (h':AP P E rs r' q') (h'':AP P E rs r'' X6) (h3:AP P E rs r3 q3) (hl:Pr.le (EI [q,q',X6,q3]) p):Fin ⟨fz,[]⟩ E (Hp M0 w0 Eo rs) (bodyPost P g (Ob M0 w0 p)) .ret:=by
 rintro a w ⟨M,_,hd,he,hi⟩
 obtain ⟨v,hv,hp⟩:=h M w a he (fun q hq=>(hi.hold q hq).1)
 obtain ⟨v',jX,hp'⟩:=h' M w a he (fun q hq=>(hi.hold q hq).1)
 obtain ⟨v'',YM,YN⟩:=h'' M w a he (fun q hq=>(hi.hold q hq).1)
 obtain ⟨v3,hv3,hp3⟩:=h3 M w a he (fun q hq=>(hi.hold q hq).1)
 obtain ⟨h1,h2⟩:=BE.CZ M0 w0 M w hi
 exact ⟨hd,_,results4 hr hv jX YM hv3,_,rfl,p.st _ _ _ _ _ (Ext.less h1) (hl _ _ _ ⟨[_,_,_,_],rfl,hp,hp',YN,hp3,trivial⟩),h2⟩
end
def Ue {β:Type} (b:Nat) (e:TypeId) (f:β→List Pr) (φ:β→Prop):As where
 blk:=some b
 new:=true
 h M w:=∃x:β,φ x∧(AE true b e (f x)).h M w
 st M w M' w' he hk h:=let ⟨x,h1,h2⟩:=h;⟨x,h1,(AE true b e (f x)).st M w M' w' he hk h2⟩
def RE {β:Type} (T:TypeId) (f:β→List Pr) (φ:β→Prop) (v:Value):As:=match v with| .pointer (some a)=>Ue a.block T f φ|_=>CD
section
variable {P:Program} {L:Lg P} {n:Fm} {E:Env} {M0:Av} {w0:World} {S:Nat→Prop} {rs:List As} {o:Oper} {β:Type} {f:β→List Pr} {φ:β→Prop}
theorem Fin.V8 {Q:Exit→Act→World→Prop} {x:Exit} {b:Nat} {e:TypeId} (j:Nat) (hj:rs[j]? =some (Ue b e f φ)) (k:∀z,φ z→Fin n E (Hp M0 w0 S (rs.set j (AE true b e (f z)))) Q x):Fin n E (Hp M0 w0 S rs) Q x:=by
 intro a w h
 obtain ⟨M,h1,h2,h3,h4⟩:=h
 have h4:A8 M0 w0 S rs M w:=h4
 obtain ⟨z,hp,h8⟩:=(h4.hold _ (List.mem_of_getElem? hj)).1
 exact k z hp a w ⟨M,h1,h2,h3,h4.Cm hj rfl rfl h8⟩
theorem FN.wk {a:Act} {M:Av} {w:World} {p:Pr} {j:Nat} {R1 R2:SR} {rs:List As} {r:Result Next} (hjl:j<rs.length) (hd:o.dst=none) (hb:(R2.at_ a).blk=(R1.at_ a).blk) (hn:(R2.at_ a).new=(R1.at_ a).new) (hh:∀M w,(R1.at_ a).h M w→(R2.at_ a).h M w) (h:FN P M0 w0 S o a M w p j R1 rs r):FN P M0 w0 S o a M w p j R2 rs r:=by
 have key:∀v M' w',A8 M0 w0 S (rs.set j (R1.at_ (a.put o.dst v))) M' w'→A8 M0 w0 S (rs.set j (R2.at_ (a.put o.dst v))) M' w':=by
  intro v M' w' hI
  rw [hd] at hI ⊢
  have hI:A8 M0 w0 S (rs.set j (R1.at_ a)) M' w':=hI
  have h1:(rs.set j (R1.at_ a))[j]? =some (R1.at_ a):=by rw [List.getElem?_set_self hjl]
  have:=hI.Cm (r':=R2.at_ a) h1 hb hn (hh _ _ (hI.hold _ (List.mem_of_getElem? h1)).1)
  rw [List.set_set] at this
  exact this
 cases r with
 |halt x w'=>exact h
 |ok x w'=>
  cases x
  case value v=>obtain ⟨M',g1,g2,g3⟩:=h;exact ⟨M',g1,g2,key _ _ _ g3⟩
  case skip=>obtain ⟨M',g1,g2,g3⟩:=h;exact ⟨M',g1,g2,key _ _ _ g3⟩
  case enter f args=>
   refine Calls.mono h ?_
   rintro e w'' ⟨v,M',g0,g1,g2,g3⟩
   exact ⟨v,M',g0,g1,g2,key _ _ _ g3⟩
  all_goals exact h
theorem I9 {t:TypeId} {s y:Tmp} {j m:Nat} {T:TypeId} {ps:List Pr} (hg:o.guard=none) (hd:o.dst=none) (ho:o.op= .store t (.tmp s) (.tmp y)) (hsy:s≠y) (hx:E.lookup s=some (Cp.ex fun b=>ptr b 0)) (hy:E.lookup y=some (Cp.ex fun z:β=>fact (φ z) (agg (f z))))
  (hz:Ax P t=some m) (hm:∀z,(f z).length=m) (hl:ps.length=m):Dn P M0 w0 S n j ⟨s,Fy T ps⟩ ⟨s,RE T f φ⟩ o E any:=by
 have hlk:y∈looks o:=Pq (op:= .store t (.tmp s) (.tmp y)) (by simp [Op.operands]) ho
 refine Dn.K5 y hg hy hlk fun z=>Dn.opf y hg (by simp [List.lookup];rfl) hlk fun hφ=> ?_
 have hx':List.lookup s ((y,agg (f z))::(y,fact (φ z) (agg (f z)))::E)=some (Cp.ex fun b=>ptr b 0):=by
  have:(s==y)=false:=by simpa using hsy
  simp only [List.lookup,this];exact hx
 have h:=DH (P:=P) (M0:=M0) (w0:=w0) (S:=S) (n:=n) (j:=j) (T:=T) (ps:=ps) (qs:=f z) (E:=(y,agg (f z))::(y,fact (φ z) (agg (f z)))::E) hg hd ho hx' ⟨agg (f z),by simp [Cs,List.lookup],Aa _⟩ hz (hm z) hl
 refine ⟨hg,fun M w a rs hsz he hI hj=> ?_⟩
 have hjl:j<rs.length:=by rcases Nat.lt_or_ge j rs.length with h'|h';exact h';rw [List.getElem?_eq_none h'] at hj;cases hj
 have hv:∃b,a.tmps.getD s undef= .pointer (some ⟨b,0,none⟩):=by
  have hxv:VL ((y,agg (f z))::(y,fact (φ z) (agg (f z)))::E) (.tmp s) (Cp.ex fun b=>ptr b 0):=⟨_,hx',Pr.le_refl _⟩
  exact hxv.ev he (show (Operand.tmp s)∈o.op.operands.toList by simp [ho,Op.operands])
 obtain ⟨b,hv⟩:=hv
 have e1:SR.at_ a ⟨s,Fy T (f z)⟩=AE true b T (f z):=by show Fy T (f z) (a.tmps.getD s undef)=_;rw [hv];rfl
 have e2:SR.at_ a ⟨s,RE T f φ⟩=Ue b T f φ:=by show RE T f φ (a.tmps.getD s undef)=_;rw [hv];rfl
 refine FN.wk hjl hd ?_ ?_ ?_ (h.2 M w a rs hsz he hI hj)
 · rw [e1,e2];rfl
 · rw [e1,e2];rfl
 · rw [e1,e2];exact fun M w h=>⟨z,hφ,h⟩
end
theorem Az.bK {P:Program} {f:FuncId} {α:Type} {φ:α→Prop} {p:α→Pr} {res:Pr} (pre:List Pr) {post:List Pr} (q:α) (hq:φ q) (h:∀z,φ z→Az P f (pre++p z::post) res):Az P f (pre++(Cp.ex fun z=>fact (φ z) (p z))::post) res:=by
 refine ⟨(h q hq).1,fun M w vs hb hv=> ?_⟩
 have key:∀(pre:List Pr) (vs:List Value),HL M w (pre++(Cp.ex fun z=>fact (φ z) (p z))::post) vs→∃z,φ z∧HL M w (pre++p z::post) vs:=by
  intro pre
  induction pre with
  |nil=>
   intro vs hv
   match vs,hv with
   |u::us,⟨⟨z,hz,h1⟩,h2⟩=>exact ⟨z,hz,h1,h2⟩
  |cons a pre ih=>
   intro vs hv
   match vs,hv with
   |u::us,⟨h1,h2⟩=>
    obtain ⟨z,hz,h3⟩:=ih us h2
    exact ⟨z,hz,h1,h3⟩
 obtain ⟨z,hz,h2⟩:=key pre vs hv
 exact (h z hz).2 M w vs hb h2
end Cp
namespace Go.Proofs.YtmpglcehonnpkaaGreat
open Go Go.RowKit Cp Go.Proofs.Tryz
theorem Sr {e:C0} {l:List BK} {i:Int}:(∀x∈(Ho e l i).1,0≤x∧x<(l.length:Nat))∧(Ho e l i).1.length≤24:=by
 unfold Ho
 split
 · exact ⟨(fun x hx=>by cases hx),by decide⟩
 split
 · exact ⟨(fun x hx=>by cases hx),by decide⟩
 split
 · exact ⟨(fun x hx=>by cases hx),by decide⟩
 ·
  rename_i PW _
  refine ⟨fun x hx=> ?_,by have:=Sk (e.A_[i.toNat]?.getD FW) l l.length;show (Lb _ _ _).length≤24;omega⟩
  unfold Lb at hx
  obtain ⟨j,hj,rfl⟩:=List.mem_map.1 hx
  have:=List.mem_range.1 (List.mem_filter.1 hj).1
  omega
theorem Uf {n:Int} {o:List (List Int)} {x:List Int} (h:(∀s∈o,∀y∈s,0≤y∧y<n)∧∀s∈o,s.length≤4096) (hx:∀y∈x,0≤y∧y<n) (hl:x.length≤4096):(∀s∈o++[x],∀y∈s,0≤y∧y<n)∧∀s∈o++[x],s.length≤4096:=by
 refine ⟨fun s hs=> ?_,fun s hs=> ?_⟩<;>rcases List.mem_append.1 hs with hs|hs
 · exact h.1 s hs
 · rw [List.mem_singleton] at hs;subst hs;exact hx
 · exact h.2 s hs
 · rw [List.mem_singleton] at hs;subst hs;exact hl
theorem XS {n:Int} {o:List Int} {x:Int} (h:∀y∈o,0≤y∧y<n) (hx:0≤x∧x<n):∀y∈o++[x],0≤y∧y<n:=fun y hy=>by
 rcases List.mem_append.1 hy with hy|hy
 · exact h y hy
 · rw [List.mem_singleton] at hy;subst hy;exact hx
theorem XT {e:C0} {l:List BK} {r:List BS} {d:List Int} {n:Nat} {i:Int} (hz:e.sz n) (hn:n≤800000) (hrl:r.length≤1000000):Az prog 97 [agg (Bw e),H6 l r d,int i] (Cp.ex fun z:List (List Int)×Int=>fact (JO ((l.length:Nat):Int) z.1) (EI [sets z.1,int z.2])):=by
 refine fo func97 rfl ⟨rfl,rfl⟩ fun M0 w0=> ?_
 refine a2 ?_
 refine co rfl (JH (Ov hz hn) rfl rfl rfl rfl) ?_
 refine ac ?_
 refine CY 4 8 rfl (Tr.seq ?_)
 obtain ⟨rel,mE⟩:∃rel,(Ho e l i).1=rel:=⟨_,rfl⟩
 have XG:∀x∈rel,0≤x∧x<(l.length:Nat):=mE ▸ Sr.1
 have zM:rel.length≤24:=mE ▸ Sr.2
 refine Tr.re 8 rfl (Pr.le_of_eq (by rw [mE])) ?_
 refine ap ?_
 refine tp rfl (JH (XR (n:=((l.length:Nat):Int)) (l:=r) (s:=rel) hrl) rfl rfl rfl rfl) ?_
 refine TO.ex 35 rfl (fun z1=>TO.fact 35 rfl fun FM=> ?_)
 refine ap ?_
 refine CY 8 10 rfl ?_
 refine ap ?_
 refine tp rfl (CS (XK (n:=((rel.length:Nat):Int)) (l:=z1.1) (by omega)) rfl rfl rfl) ?_
 refine TO.ex 42 rfl (fun z2=>TO.fact 42 rfl fun HC=> ?_)
 refine ap ?_
 refine ac ?_
 refine D7 8 12 13 46 rfl ?_
 refine Tr.cn rfl ?_ ?_<;>intro h1 q1
 refine ac ?_
 refine Tr.ret (Fin.AB (Fin.BD rfl (AP.tmp rfl (Lr)) (AP.tmp rfl (Lr)) ?_))
 · exact AG ([],_) (AU ⟨fun s h=>(by cases h),(by decide:([]:List (List Int)).length≤4096),fun s h=>(by cases h)⟩ (Am ⟨AF 1,Lr,trivial⟩))
 have hl4:=HC.len
 refine a3 ?_
 refine Tr.block (Tr.Bs 101 1 (Tr.Cc [(8,_),(48,_),(49,_)] ⟨ke rfl,ke rfl,ke rfl,trivial⟩ (fun (o:List (List Int)) (k:Nat) u=>[(50,int ((k:Nat):Int)),(14,Ag u (sets o))]) (fun (o:List (List Int)) (k:Nat) u=>Hp M0 w0 Eo ([Ap 101 1 u])) (fun (o:List (List Int)) (k:Nat)=>(k≤z2.1.length∧o.length=k)∧(∀s∈o,∀y∈s,0≤y∧y<((l.length:Nat):Int))∧∀s∈o,s.length≤4096) (fun (o:List (List Int)) (k:Nat)=>z2.1.length-k) ([]) (0) (.slice none 0 0) (⟨⟨Nat.zero_le _,rfl⟩,fun s h=>(by cases h),fun s h=>(by cases h)⟩) ⟨ke rfl,⟨_,rfl,BX rfl⟩,trivial⟩ (fun _ _ h=>h) ?_))
 rintro o k u ⟨⟨hk0,bu⟩,bA⟩
 refine ac ?_
 refine Tr.seq ?_
 refine Tr.cn rfl ?_ ?_<;>intro h2 q2
 have hk:k<z2.1.length:=AH h2
 obtain ⟨s,hs⟩:=at_ hk
 have i_:=HC.Q3 s (List.mem_of_getElem? hs)
 have hsw:=HC.wid s (List.mem_of_getElem? hs)
 refine ac ?_
 refine Tr.seq (Tr.block (Tr.seq (Tr.AW (co rfl (AA rfl underlying174 Dk (vl rfl) (vl rfl) (by omega) (AO hs)) ?_))))
 refine a3 ?_
 refine Tr.block (Tr.Bs 3 1 (Tr.Cc [(8,_),(14,_),(48,_),(49,_),(50,_),(54,_),(55,_)] ⟨ke rfl,ke rfl,ke rfl,ke rfl,ke rfl,ke rfl,ke rfl,trivial⟩ (fun (x:List Int) (m:Nat) u2=>[(56,int ((m:Nat):Int)),(17,Ag u2 (ints x))]) (fun (x:List Int) (m:Nat) u2=>Hp M0 w0 Eo ([Ap 3 1 u2,Ap 101 1 u])) (fun (x:List Int) (m:Nat)=>(m≤s.length∧x.length=m)∧∀y∈x,0≤y∧y<((l.length:Nat):Int)) (fun (x:List Int) (m:Nat)=>s.length-m) ([]) (0) (.slice none 0 0) (⟨⟨Nat.zero_le _,rfl⟩,fun s h=>(by cases h)⟩) ⟨ke rfl,⟨_,rfl,BX rfl⟩,trivial⟩ (fun _ _ h=>h) ?_))
 rintro x m u2 ⟨⟨hm0,hxl⟩,bk⟩
 refine ac ?_
 refine Tr.seq ?_
 refine Tr.cn rfl ?_ ?_<;>intro h3 q3
 have hm:m<s.length:=AH h3
 obtain ⟨i2,hi2⟩:=at_ hm
 have hir:=i_ i2 (List.mem_of_getElem? hi2)
 obtain ⟨y,hy⟩:=at_ (l:=rel) (k:=i2.toNat) (by omega)
 have mF:=XG y (List.mem_of_getElem? hy)
 refine ac ?_
 refine Tr.seq (Tr.block (Tr.seq (Tr.AW (co rfl (AA rfl underlying101 Bh (vl rfl) (vl rfl) (by omega) (AO hi2)) ?_))))
 refine ac ?_
 refine ap ?_
 refine tp rfl (AA rfl underlying101 Bh (vl rfl) (vl rfl) (by omega) (BB hy)) ?_
 refine ap ?_
 refine TO.DP 0 rfl rfl (by decide) (Bl rfl rfl rfl rfl underlying101 Bh Iu z3 (Kb rfl) (Kf rfl) (Aq (by exact List.Mem.head _) (Ka rfl))) (fun v1=> ?_)
 refine ap ?_
 refine Oe 8 14 17 48 49 50 54 55 56 rfl ?_
 refine ac ?_
 exact Fin.BM (x++[y]) (m+1) v1 (⟨⟨⟨by omega,by simp;omega⟩,XS bk mF⟩,by omega⟩) ⟨⟨_,rfl,AD m⟩,⟨_,rfl,Au (by rw [List.map_append];rfl)⟩,ke rfl,ke rfl,ke rfl,ke rfl,ke rfl,ke rfl,ke rfl,trivial⟩ (fun _ _ h=>h)
 have hme:=AJ h3
 refine ac ?_
 refine ap ?_
 refine tp rfl (AL (xs:=[.tmp 69]) (rows:=[[_]]) rfl rfl underlying174 Dk LB rfl (by decide) ⟨⟨(by exact rfl),⟨_,rfl,Pr.le_trans (Ah _ _) (Aj _)⟩⟩,trivial⟩ (by decide)) ?_
 refine TO.DP 1 rfl rfl (by decide) (Bl rfl rfl rfl rfl underlying174 Dk Lt LB (Kb rfl) (Kf rfl) (Aq (by exact List.Mem.head _) (Ka rfl))) (fun v2=> ?_)
 refine ap ?_
 refine JV 8 14 48 49 50 rfl ?_
 refine ac ?_
 refine Fin.drop 0 ?_
 exact Fin.BM (o++[x]) (k+1) v2 (⟨⟨⟨by omega,by simp;omega⟩,Uf bA bk (by omega)⟩,by omega⟩) ⟨⟨_,rfl,AD k⟩,⟨_,rfl,Au (by rw [List.map_append];rfl)⟩,ke rfl,ke rfl,ke rfl,trivial⟩ (fun _ _ h=>h)
 have VR:=AJ h2
 refine a2 ?_
 refine Tr.ret (Fin.BD rfl (AP.tmp rfl (Lr)) (AP.tmp rfl (Lr)) ?_)
 · exact AG (_,_) (AU ⟨bA.1,(by show o.length≤4096;omega),bA.2⟩ (Am ⟨Ah _ _,Lr,trivial⟩))
theorem Ss {e:C0} {l:List BK} {r:List BS} {d:List Int} (hf:e.fits) (hrl:r.length≤1000000):Az prog 72 [agg (Bw e),H6 l r d] (Cp.ex fun z:Int=>fact (z=0→EY e=true∧Ud e.BW.length l r d) (int z)):=by
 refine fo func72 rfl ⟨rfl,rfl⟩ fun M0 w0=> ?_
 refine a2 ?_
 refine co rfl (Ce (DA hf) rfl rfl) ?_
 refine an ?_ ?_<;>intro h1 q1
 refine a2 ?_
 · exact AG _ (AU (fun h_=>absurd h_ (by decide)) (Lr))
 have Qa:EY e=true:=by cases h_:EY e with|true=>rfl|false=>exact absurd h1 (by rw [h_];decide)
 refine ac ?_
 refine ap ?_
 refine tp rfl (CS (bH hrl) rfl rfl rfl) ?_
 refine TO.ex 10 rfl (fun z1=>TO.fact 10 rfl fun FM=> ?_)
 refine ap ?_
 · repeat' first|exact AG _ (AU (fun h_=>absurd h_ (by decide)) (Lr))|exact AG 0 (AU (fun _=>⟨Qa,FM (by simp_all)⟩) (Lr))|refine ac ?_|(refine Tr.cn rfl ?_ ?_<;>intro h q)
def bL (d s:List Int) (fr:Int):Int:=s.foldl (fun a i=>max a (d.getD i.toNat 0)) fr
theorem XU {d s:List Int} {fr i:Int} {k:Nat} (h:s[k]? =some i):bL d (s.take (k+1)) fr=max (bL d (s.take k) fr) (d.getD i.toNat 0):=by unfold bL;rw [List.take_add_one,h,List.foldl_append];rfl
theorem Ju {l:List BK} {r:List BS} {d s:List Int} {fr:Int} (hs:∀i∈s,0≤i∧i<(d.length:Nat)):Az prog 75 [H6 l r d,ints s,int fr] (int (bL d s fr)):=by
 refine fo func75 rfl ⟨rfl,rfl⟩ fun M0 w0=>(Tr.C8 1 rfl fun Hz=> ?_)
 refine a3 ?_
 refine Tr.block (Tr.A7 [(3,_),(11,_),(12,_)] (MW rfl) (fun k:Nat=>[(13,int ((k:Nat):Int)),(7,int (bL d (s.take k) fr))]) (fun k:Nat=>k≤(s).length) (fun k:Nat=>(s).length-k) 0 (Nat.zero_le _) ⟨ke rfl,ke rfl,trivial⟩ ?_)
 rintro k BN
 refine ac ?_
 refine Tr.seq ?_
 refine Tr.cn rfl ?_ ?_<;>intro h1 q1
 have Af:k<(s).length:=AH h1
 obtain ⟨i,Ad⟩:=at_ Af
 have hir:=hs i (List.mem_of_getElem? Ad)
 have bw:=FE (l:=d) (i:=i.toNat) (by omega)
 refine ac ?_
 refine Tr.seq (Tr.block (Tr.seq (Tr.AW (co rfl (AA rfl underlying101 Bh (vl rfl) (vl rfl) (by omega) (AO Ad)) ?_))))
 refine a2 ?_
 refine co rfl (AA rfl underlying22 Bh (vl rfl) (vl rfl) (by omega) (BB bw)) (co rfl (DQ rfl Bo rfl) (co rfl (JT rfl (vl rfl) (vl rfl)) ?_))
 refine ac ?_
 refine JV 3 7 11 12 13 rfl ?_
 refine ac ?_
 exact Fin.AM (k+1) ⟨Af,by omega⟩ ⟨⟨_,rfl,AD k⟩,⟨_,rfl,int_eq (by rw [XU Ad])⟩,ke rfl,ke rfl,ke rfl,trivial⟩
 have BI:k=(s).length:=by have:=AJ h1;omega
 subst BI
 rw [List.take_length]
 refine a3 ?_
 · exact Lr
structure xx (n:Int) (L:List (List (List Int))):Prop where
 Q3:∀t∈L,JO n t
 len:L.length≤1000000
abbrev jE (L:List (List (List Int))):Pr:=slice 1 (L.map fun t=>[sets t])
theorem XV {n:Int} {L:List (List (List Int))} {t:List (List Int)} (h:∀t∈L,JO n t) (ht:JO n t):∀u∈L++[t],JO n u:=fun u hu=>by
 rcases List.mem_append.1 hu with hu|hu
 · exact h u hu
 · rw [List.mem_singleton] at hu;subst hu;exact ht
theorem Sv {e:C0} {l:List BK} {r:List BS} {d:List Int} {n:Nat} (hz:e.sz n) (hn:n≤800000) (hrl:r.length≤1000000):Az prog 73 [agg (Bw e),H6 l r d] (Cp.ex fun z:List (List (List Int))×Int=>fact (xx ((l.length:Nat):Int) z.1) (EI [jE z.1,int z.2])):=by
 refine fo func73 rfl ⟨rfl,rfl⟩ fun M0 w0=> ?_
 have hlg:=hz.lg
 iterate 4 refine ac ?_
 refine Tr.block (Tr.Bs 174 1 (Tr.Ec [(2,_),(3,_),(13,_)] ⟨ke rfl,ke rfl,ke rfl,trivial⟩ (fun (o:List (List (List Int))) (m:Int) (k:Nat) u=>[(14,int ((k:Nat):Int)),(7,int m),(6,Ag u (jE o))]) (fun (o:List (List (List Int))) (m:Int) (k:Nat) u=>Hp M0 w0 Eo ([Ap 174 1 u])) (fun (o:List (List (List Int))) (m:Int) (k:Nat)=>(k≤e.A_.length∧o.length=k)∧(0≤m∧m≤4096)∧∀t∈o,JO ((l.length:Nat):Int) t) (fun (o:List (List (List Int))) (m:Int) (k:Nat)=>e.A_.length-k) ([]) (0) (0) (.slice none 0 0) (⟨⟨Nat.zero_le _,rfl⟩,⟨by omega,by omega⟩,fun s h=>(by cases h)⟩) ⟨ke rfl,ke rfl,⟨_,rfl,BX rfl⟩,trivial⟩ (fun _ _ h=>h) ?_))
 rintro o m k u ⟨⟨hk0,bu⟩,hm,bA⟩
 refine ac ?_
 refine Tr.seq ?_
 refine Tr.cn rfl ?_ ?_<;>intro h1 q1
 have hk:k<e.A_.length:=AH h1
 refine a2 ?_
 refine ap ?_
 refine tp rfl (JH (XT hz hn hrl) rfl rfl rfl rfl) ?_
 refine TO.ex 21 rfl (fun z1=>TO.fact 21 rfl fun FM=> ?_)
 have hzl:=FM.len
 refine ap ?_
 refine Jx 2 3 6 7 9 10 13 14 rfl ?_
 refine ac ?_
 refine ag ?_ ?_<;>intro h2 q2
 refine ac ?_
 refine Jx 2 3 6 7 9 13 14 33 rfl ?_
 refine ac ?_
 refine Tr.ret (Fin.AB (Fin.AX (Fin.AB (Fin.AB (Fin.AX (Fin.AB (Fin.BD rfl (AP.tmp rfl (Lr)) (AP.tmp rfl (Lr)) ?_)))))))
 · exact AG ([],_) (AU ⟨fun s h=>(by cases h),(by decide:([]:List (List (List Int))).length≤1000000)⟩ (Am ⟨AF 1,Lr,trivial⟩))
 refine ac ?_
 refine Jx 2 3 6 7 9 13 14 33 rfl ?_
 refine Tr.cn rfl ?_ ?_<;>intro h3 q3
 refine ac ?_
 refine Tr.ret (Fin.AB (Fin.AX (Fin.AB (Fin.AB (Fin.AX (Fin.AB (Fin.BD rfl (AP.tmp rfl (Lr)) (AP.tmp rfl (Lr)) ?_)))))))
 · exact AG ([],_) (AU ⟨fun s h=>(by cases h),(by decide:([]:List (List (List Int))).length≤1000000)⟩ (Am ⟨AF 1,Lr,trivial⟩))
 refine ac ?_
 refine ap ?_
 refine TO.DP 0 rfl rfl (by decide) (Bl rfl rfl rfl rfl underlying171 U8 pV pX (Kb rfl) (Kf rfl) (Aq (by exact List.Mem.head _) (Ka rfl))) (fun v1=> ?_)
 refine ap ?_
 refine ac ?_
 exact Fin.DU (o++[z1.1]) (m+((z1.1.length:Nat):Int)) (k+1) v1 (⟨⟨⟨by omega,by simp;omega⟩,⟨by omega,by omega⟩,XV bA FM⟩,by omega⟩) ⟨⟨_,rfl,AD k⟩,ke rfl,⟨_,rfl,Au (by rw [List.map_append];rfl)⟩,ke rfl,ke rfl,ke rfl,trivial⟩ (fun _ _ h=>h)
 have VR:=AJ h1
 refine a2 ?_
 refine Tr.ret (Fin.BD rfl (AP.tmp rfl (Lr)) (AP.tmp rfl (Lr)) ?_)
 · exact AG (_,_) (AU ⟨bA,(by show o.length≤1000000;omega)⟩ (Am ⟨Ah _ _,Lr,trivial⟩))
abbrev mG:Pr:=agg [anyI,anyI]
theorem gP {φ:Prop}:Pr.le (Cp.ex fun z:Int×Int×Int=>fact φ (EI [agg [int z.1,int z.2.1],int z.2.2])) (EI [mG,anyI]):=fun M w v ⟨z,_,h⟩=>Am (ps:=[agg [int z.1,int z.2.1],int z.2.2]) (qs:=[mG,anyI]) ⟨Ar (ps:=[int z.1,int z.2.1]) (qs:=[anyI,anyI]) ⟨AG _ (Pr.le_refl _),AG _ (Pr.le_refl _),trivial⟩,AG _ (Pr.le_refl _),trivial⟩ M w v h
abbrev jF:Pr:=Cp.ex fun z:List Int=>fact (z.length≤1000000) (ints z)
theorem mH:Pr.le (Cp.ex fun z:List Int×Int=>fact (z.1.length≤1000) (EI [ints z.1,int z.2])) (EI [jF,anyI]):=fun M w v ⟨z,hz,h⟩=>Am (ps:=[ints z.1,int z.2]) (qs:=[jF,anyI]) ⟨AG z.1 (AU (by omega) (Pr.le_refl _)),AG _ (Pr.le_refl _),trivial⟩ M w v h
theorem Ug {e:C0} {l:List BK} {r:List BS} {d:List Int} {n:Nat} {s:List Int} {i fr LG:Int} (hz:e.sz n) (hn:n≤800000) (hc:∀c∈l,c.Ck.fits∧c.Ck.small) (hs:∀i∈s,0≤i∧i<(d.length:Nat)) (fM:s.length≤4096)  :Az prog 95 [agg (Bw e),H6 l r d,int i,ints s,int fr,int LG] (EI [mG,DW]):=by
 refine fo func95 rfl ⟨rfl,rfl⟩ fun M0 w0=> ?_
 have k_:=(V6 (l:=l) (s:=s) hz hc).fits (by omega)
 refine Tr.seq (Tr.An (tp rfl (BZ rfl (Va rfl)) (tp rfl (BZ rfl (Va rfl)) ?_)))
 refine Tl rfl rfl rfl rfl H8 Ed (fun b1=> ?_)
 refine ao ?_
 refine ao ?_
 refine tp rfl (JH (Jt hz hn hc) rfl rfl rfl rfl) ?_
 refine ao ?_
 refine Tl rfl rfl rfl rfl z29 G1 (fun b2=> ?_)
 refine sf 0 14 ⟨rfl,rfl,rfl⟩ rfl rfl rfl rfl ?_
 refine ao ?_
 refine Jx 2 3 4 5 7 12 14 15 rfl ?_
 refine an ?_ ?_<;>intro h1 q1
 refine ao ?_
 refine TO.AK 0 rfl rfl rfl (vl rfl) (Va rfl) rfl Bm rfl rfl ?_
 refine ao ?_
 refine Tr.ret (Fin.AB (Fin.BD rfl (AP.cell 0 rfl rfl CU Bm rfl (Lr)) (AP.tmp rfl (Lr)) ?_))
 refine Am ⟨?_,?_,trivial⟩
 · exact Ar ⟨AG _ (Lr),AG _ (Lr),trivial⟩
 · exact AG _ (Lr)
 refine ac ?_
 refine Tr.seq (Tr.pad (Tr.rx ?_))
 refine ax ?_
 refine xo rfl (fun _=>JH (Ju hs) rfl rfl rfl rfl) (xm rfl (xo rfl (fun _=>Ac.le (Yz (L8 k_) rfl rfl rfl rfl rfl) gP) ?_))
 refine ax ?_
 refine Cx.ef 0 rfl rfl (by decide) (CX rfl rfl (by decide) rfl H8 Ed) (Cx.Dp 0 rfl rfl (DH rfl rfl rfl rfl (Va rfl) Bm rfl rfl) (xm rfl ?_))
 refine Cx.nil ⟨by kernel_rfl,?_⟩
 refine BQ.open_ 0 16 rfl rfl (fun v1=> ?_)
 refine BQ.done VE (Fin.K5 16 0 _ rfl rfl (fun _=>rfl) (fun b3=> ?_))
 refine Fin.go (CR 12 16 17 rfl ?_)
 refine ao ?_
 refine tp rfl (aW rfl (VL.le (vl rfl) UN) (VL.le (vl rfl) (Bx _ _))) (TO.AK 1 rfl rfl rfl (vl rfl) (Va rfl) rfl Bm rfl rfl ?_)
 refine ao ?_
 refine Tr.drop 0 (Tr.ret (Fin.BD rfl (AP.cell 0 rfl rfl CU Bm rfl (Lr)) (AP.tmp rfl (Lr)) ?_))
 refine Am ⟨?_,?_,trivial⟩
 · exact Lr
 · exact Lr
abbrev bM (c:Int×List Int):List Pr:=[int c.1,ints c.2,anyI,anyI]
abbrev bN:Pr:=agg [Cp.ex fun L:List (Int×List Int)=>slice 4 (L.map bM)]
abbrev sn:Pr:=agg [anyI,Cp.ex fun s:List Int=>ints s,anyI,anyI]
theorem Ci:Pr.le (agg [is (.slice none 0 0)]) bN:=Ar ⟨AG [] (AF 4),trivial⟩
theorem F9:Pr.le (agg [is (.int .i64 0),is (.slice none 0 0),is (.int .i64 0),is (.int .i64 0)]) sn:=Ar ⟨AG _ (Pr.le_refl _),AG [] (AF 1),AG _ (Pr.le_refl _),AG _ (Pr.le_refl _),trivial⟩
theorem XW {e:C0} {l:List BK} {r:List BS} {d:List Int} {n:Nat} {fr LG:Int} (hz:e.sz n) (hn:n≤800000) (hc:∀c∈l,c.Ck.fits∧c.Ck.small) (hrl:r.length≤1000000):Az prog 71 [agg (Bw e),H6 l r d,int fr,int LG] (Cp.ex fun z:Int=>fact (z=0→EY e=true∧Ud e.BW.length l r d) (EI [bN,sn,DW,int z])):=by
 refine fo func71 rfl ⟨rfl,rfl⟩ fun M0 w0=> ?_
 have hf:=hz.fits (by omega)
 refine Tr.seq (Tr.An (tp rfl (BZ rfl (Va rfl)) (tp rfl (BZ rfl (Va rfl)) ?_)))
 refine Tl rfl rfl rfl rfl Xj Fa (fun b1=> ?_)
 refine Tl rfl rfl rfl rfl z167 NP (fun b2=> ?_)
 refine ao ?_
 refine ao ?_
 refine tp rfl (CS (Ss hf hrl) rfl rfl rfl) ?_
 refine TO.ex 24 rfl (fun z1=>TO.fact 24 rfl fun FM=> ?_)
 refine ao ?_
 refine I_ 2 3 4 5 8 9 12 rfl ?_
 refine an ?_ ?_<;>intro h1 q1
 refine ao ?_
 refine TO.AK 1 rfl rfl rfl (vl rfl) (Va rfl) rfl CA rfl rfl (TO.AK 0 rfl rfl rfl (vl rfl) (Va rfl) rfl Er rfl rfl ?_)
 refine ao ?_
 refine D7 8 9 10 11 rfl (Tr.ret (Fin.AB (Fin.MC rfl (AP.cell 1 rfl rfl Cj CA rfl (Lr)) (AP.cell 0 rfl rfl IG Er rfl (Lr)) (AP.tmp rfl (Lr)) (AP.tmp rfl (Lr)) ?_)))
 · exact AG z1 (AU (fun h_=>absurd h_ (by omega)) (Am ⟨Ci,F9,AG _ (Lr),Lr,trivial⟩))
 have hz0:z1=0:=by have:=q1;omega
 obtain ⟨Qa,gQ⟩:=FM hz0
 have jA:=gQ.dl
 refine ac ?_
 refine ag ?_ ?_<;>intro h2 q2
 refine ac ?_
 refine I_ 2 3 4 5 8 9 43 rfl (Tr.cond rfl (fun _=> ?_) (fun h=>nomatch h))
 refine Tr.seq (Tr.An (tp rfl (Ai (rows:=[]) rfl MK Fa trivial rfl) (tp rfl (Ai (rows:=[]) rfl U7 NP trivial rfl) (TO.AK 1 rfl rfl rfl (vl rfl) (Va rfl) rfl CA rfl rfl (TO.AK 0 rfl rfl rfl (vl rfl) (Va rfl) rfl Er rfl rfl ?_)))))
 refine ao ?_
 refine Tr.ret (Fin.AB (Fin.MC rfl (AP.cell 1 rfl rfl Cj CA rfl (Lr)) (AP.cell 0 rfl rfl IG Er rfl (Lr)) (AP.tmp rfl (Lr)) (AP.tmp rfl (Lr)) ?_))
 · exact AG 2 (AU (fun h_=>absurd h_ (by decide)) (Am ⟨Ci,F9,AG _ (Lr),Lr,trivial⟩))
 refine ag ?_ ?_<;>intro h3 q3
 refine ac ?_
 refine I_ 2 3 4 5 8 9 43 rfl (Tr.cond rfl (fun _=> ?_) (fun h=>nomatch h))
 refine Tr.seq (Tr.An (tp rfl (Ai (rows:=[]) rfl MK Fa trivial rfl) (tp rfl (Ai (rows:=[]) rfl U7 NP trivial rfl) (TO.AK 1 rfl rfl rfl (vl rfl) (Va rfl) rfl CA rfl rfl (TO.AK 0 rfl rfl rfl (vl rfl) (Va rfl) rfl Er rfl rfl ?_)))))
 refine ao ?_
 refine Tr.ret (Fin.AB (Fin.MC rfl (AP.cell 1 rfl rfl Cj CA rfl (Lr)) (AP.cell 0 rfl rfl IG Er rfl (Lr)) (AP.tmp rfl (Lr)) (AP.tmp rfl (Lr)) ?_))
 · exact AG 2 (AU (fun h_=>absurd h_ (by decide)) (Am ⟨Ci,F9,AG _ (Lr),Lr,trivial⟩))
 refine ag ?_ ?_<;>intro h4 q4
 refine ac ?_
 refine I_ 2 3 4 5 8 9 43 rfl (Tr.cond rfl (fun _=> ?_) (fun h=>nomatch h))
 refine Tr.seq (Tr.An (tp rfl (Ai (rows:=[]) rfl MK Fa trivial rfl) (tp rfl (Ai (rows:=[]) rfl U7 NP trivial rfl) (TO.AK 1 rfl rfl rfl (vl rfl) (Va rfl) rfl CA rfl rfl (TO.AK 0 rfl rfl rfl (vl rfl) (Va rfl) rfl Er rfl rfl ?_)))))
 refine ao ?_
 refine Tr.ret (Fin.AB (Fin.MC rfl (AP.cell 1 rfl rfl Cj CA rfl (Lr)) (AP.cell 0 rfl rfl IG Er rfl (Lr)) (AP.tmp rfl (Lr)) (AP.tmp rfl (Lr)) ?_))
 · exact AG 2 (AU (fun h_=>absurd h_ (by decide)) (Am ⟨Ci,F9,AG _ (Lr),Lr,trivial⟩))
 refine ac ?_
 refine I_ 2 3 4 5 8 9 43 rfl ?_
 refine Tr.cn rfl ?_ ?_<;>intro h5 q5
 refine ao ?_
 refine TO.AK 1 rfl rfl rfl (vl rfl) (Va rfl) rfl CA rfl rfl (TO.AK 0 rfl rfl rfl (vl rfl) (Va rfl) rfl Er rfl rfl ?_)
 refine ao ?_
 refine Tr.ret (Fin.AB (Fin.MC rfl (AP.cell 1 rfl rfl Cj CA rfl (Lr)) (AP.cell 0 rfl rfl IG Er rfl (Lr)) (AP.tmp rfl (Lr)) (AP.tmp rfl (Lr)) ?_))
 · exact AG 2 (AU (fun h_=>absurd h_ (by decide)) (Am ⟨Ci,F9,AG _ (Lr),Lr,trivial⟩))
 refine ac ?_
 refine ao ?_
 refine tp rfl (CS (Sv hz hn hrl) rfl rfl rfl) ?_
 refine TO.ex 49 rfl (fun z2=>TO.fact 49 rfl fun HC=> ?_)
 refine ao ?_
 refine Jx 2 3 4 5 8 9 13 14 rfl ?_
 refine an ?_ ?_<;>intro h6 q6
 refine ao ?_
 refine TO.AK 1 rfl rfl rfl (vl rfl) (Va rfl) rfl CA rfl rfl (TO.AK 0 rfl rfl rfl (vl rfl) (Va rfl) rfl Er rfl rfl ?_)
 refine ao ?_
 refine D7 8 9 10 11 rfl (Tr.ret (Fin.AB (Fin.MC rfl (AP.cell 1 rfl rfl Cj CA rfl (Lr)) (AP.cell 0 rfl rfl IG Er rfl (Lr)) (AP.tmp rfl (Lr)) (AP.tmp rfl (Lr)) ?_)))
 · exact AG _ (AU (fun _=>⟨Qa,gQ⟩) (Am ⟨Ci,F9,AG _ (Lr),Lr,trivial⟩))
 refine ac ?_
 refine Tr.seq (Tr.An ?_)
 refine Tl rfl rfl rfl rfl Xj Fa (fun b3=> ?_)
 refine ao ?_
 refine ac ?_
 refine G0 2 3 4 5 8 9 15 57 58 59 rfl (Tr.block (Tr.IC 0 [Ag (.slice none 0 0) (slice 4 (([]:List (Int×List Int)).map bM))] rfl ⟨BX rfl,trivial⟩ (Tr.Bs 167 4 (Tr.Cc [(2,_),(3,_),(4,_),(5,_),(8,_),(9,_),(15,_),(57,_),(58,_)] ⟨ke rfl,ke rfl,ke rfl,ke rfl,ke rfl,ke rfl,ke rfl,ke rfl,ke rfl,trivial⟩ (fun (q:List (Int×List Int)) (k:Nat) v=>[(59,int ((k:Nat):Int))]) (fun (q:List (Int×List Int)) (k:Nat) v=>Hp M0 w0 Eo ([Ap 167 4 v,AE true b3 44 [Ag v (slice 4 (q.map bM))],AE true b2 167 (([.int .i64 0,.slice none 0 0,.int .i64 0,.int .i64 0]:List Value).map is),AE true b1 44 (([.slice none 0 0]:List Value).map is)])) (fun (q:List (Int×List Int)) (k:Nat)=>k≤z2.1.length∧q.length≤4096*k) (fun (q:List (Int×List Int)) (k:Nat)=>z2.1.length-k) ([]) (0) (.slice none 0 0) (⟨Nat.zero_le _,by simp⟩) ⟨ke rfl,trivial⟩ (fun _ _ h=>h) ?_))))
 rintro q k v ⟨hk0,hql⟩
 refine ac ?_
 refine Tr.seq ?_
 refine Tr.cn rfl ?_ ?_<;>intro h7 q7
 have hk:k<z2.1.length:=AH h7
 obtain ⟨t,ht⟩:=at_ hk
 have hts:=HC.Q3 t (List.mem_of_getElem? ht)
 have htl:=hts.len
 have hzl:=HC.len
 refine a2 ?_
 refine co rfl (AA rfl underlying171 U8 (vl rfl) (vl rfl) (by omega) (AO ht)) ?_
 refine ac ?_
 refine ND 2 3 4 5 8 9 15 16 17 57 58 59 rfl ?_
 refine ac ?_
 refine MF 2 3 4 5 8 9 15 16 57 58 59 64 65 66 rfl (Tr.block (Tr.Cc [(2,_),(3,_),(4,_),(5,_),(8,_),(9,_),(15,_),(16,_),(57,_),(58,_),(59,_),(64,_),(65,_)] ⟨ke rfl,ke rfl,ke rfl,ke rfl,ke rfl,ke rfl,ke rfl,ke rfl,ke rfl,ke rfl,ke rfl,ke rfl,ke rfl,trivial⟩ (fun (q2:List (Int×List Int)) (m:Nat) u=>[(66,int ((m:Nat):Int))]) (fun (q2:List (Int×List Int)) (m:Nat) u=>Hp M0 w0 Eo ([Ap 167 4 u,AE true b3 44 [Ag u (slice 4 (q2.map bM))],AE true b2 167 (([.int .i64 0,.slice none 0 0,.int .i64 0,.int .i64 0]:List Value).map is),AE true b1 44 (([.slice none 0 0]:List Value).map is)])) (fun (q2:List (Int×List Int)) (m:Nat)=>m≤t.length∧q2.length≤4096*k+m) (fun (q2:List (Int×List Int)) (m:Nat)=>t.length-m) (q) (0) v (⟨Nat.zero_le _,by omega⟩) ⟨ke rfl,trivial⟩ (fun _ _ h=>h) ?_))
 rintro q2 m u ⟨hm0,zN⟩
 refine ac ?_
 refine cR 2 3 4 5 8 9 15 16 57 58 59 64 65 66 67 rfl (Tr.seq ?_)
 refine Tr.cn rfl ?_ ?_<;>intro h8 q8
 have hm:m<t.length:=AH h8
 obtain ⟨x,hx⟩:=at_ hm
 have hsd:∀i∈x,0≤i∧i<(d.length:Nat):=fun i hi=>by have:=hts.Q3 x (List.mem_of_getElem? hx) i hi;omega
 have hsw:=hts.wid x (List.mem_of_getElem? hx)
 refine ac ?_
 refine MF 2 3 4 5 8 9 15 16 57 58 59 64 65 66 rfl (Tr.seq (Tr.block (Tr.seq (Tr.AW (co rfl (AA rfl underlying174 Dk (vl rfl) (vl rfl) (by omega) (AO hx)) ?_)))))
 refine ac ?_
 refine cR 2 3 4 5 8 9 15 16 19 57 58 59 64 65 66 rfl ?_
 refine ac ?_
 refine co rfl (JH (Ju hsd) rfl rfl rfl rfl) ?_
 refine ac ?_
 refine TL 2 3 4 5 8 9 15 16 19 57 58 59 64 65 66 75 rfl ?_
 refine Tr.cn rfl ?_ ?_<;>intro h9 q9
 refine ac ?_
 refine MF 2 3 4 5 8 9 15 16 57 58 59 64 65 66 rfl ?_
 refine ac ?_
 exact Fin.BM (q2) (m+1) u (⟨⟨by omega,by omega⟩,by omega⟩) ⟨⟨_,rfl,AD m⟩,ke rfl,ke rfl,ke rfl,ke rfl,ke rfl,ke rfl,ke rfl,ke rfl,ke rfl,ke rfl,ke rfl,ke rfl,ke rfl,trivial⟩ (fun _ _ h=>h)
 refine ac ?_
 refine cR 2 3 4 5 8 9 15 16 19 57 58 59 64 65 66 rfl ?_
 refine ao ?_
 refine tp rfl (AQ rfl (Ug hz hn hc hsd hsw) ⟨ke rfl,ke rfl,ke rfl,ke rfl,ke rfl,ke rfl,trivial⟩) ?_
 refine ao ?_
 refine Tl rfl rfl rfl rfl H8 Ed (fun b4=> ?_)
 refine sf 0 20 ⟨rfl,rfl,rfl⟩ rfl rfl rfl rfl ?_
 refine ao ?_
 refine cT 2 3 4 5 8 9 15 16 19 20 21 57 58 59 64 65 66 rfl (Tr.seq (Tr.seq (Tr.ex 21 rfl fun x21=> ?_)))
 refine ac ?_
 refine cT 2 3 4 5 8 9 15 16 19 20 57 58 59 64 65 66 87 rfl ?_
 refine Tr.cn rfl ?_ ?_<;>intro h10 Oa
 refine ao ?_
 refine TO.AK 3 rfl rfl rfl (vl rfl) (Va rfl) rfl CA rfl rfl (TO.AK 2 rfl rfl rfl (vl rfl) (Va rfl) rfl Er rfl rfl ?_)
 refine ao ?_
 refine D7 8 9 10 11 rfl (Tr.ret (Fin.AB (Fin.AX (Fin.AB (Fin.AB (Fin.AX (Fin.AX (Fin.AB (Fin.AB (Fin.AX (Fin.AB (Fin.MC rfl (AP.cell 3 rfl rfl Cj CA rfl (Lr)) (AP.cell 2 rfl rfl IG Er rfl (Lr)) (AP.tmp rfl (Lr)) (AP.tmp rfl (Lr)) ?_))))))))))))
 · exact AG 0 (AU (fun _=>⟨Qa,gQ⟩) (Am ⟨Ci,Ar ⟨AG _ (Lr),AG _ (Lr),AG _ (Lr),AG _ (Lr),trivial⟩,AG _ (Lr),Lr,trivial⟩))
 refine ac ?_
 refine TL 2 3 4 5 8 9 15 16 19 20 57 58 59 64 65 66 rfl ?_
 refine ao ?_
 refine TO.DP 0 rfl rfl (by decide) (Bl rfl rfl rfl rfl underlying42 Er pU z167 (Kb rfl) (Kf rfl) (Aq (by exact List.Mem.head _) (Ka rfl))) (fun v1=> ?_)
 refine tp rfl (Ae rfl YS (vl rfl)) (TO.AK 1 rfl rfl rfl (vl rfl) (Vo rfl) rfl vG rfl rfl ?_)
 refine ao ?_
 refine MF 2 3 4 5 8 9 15 16 57 58 59 64 65 66 rfl ?_
 refine ac ?_
 refine Fin.IC 1 [Ag v1 (slice 4 ((q2++[(((k:Nat):Int),x)]).map bM))] rfl ⟨Au (by rw [List.map_append];rfl),trivial⟩ ?_
 exact Fin.BM (q2++[(((k:Nat):Int),x)]) (m+1) v1 (⟨⟨by omega,by simp;omega⟩,by omega⟩) ⟨⟨_,rfl,AD m⟩,ke rfl,ke rfl,ke rfl,ke rfl,ke rfl,ke rfl,ke rfl,ke rfl,ke rfl,ke rfl,ke rfl,ke rfl,ke rfl,trivial⟩ (fun _ _ h=>h)
 have hme:=AJ h8
 refine ac ?_
 refine G0 2 3 4 5 8 9 15 57 58 59 rfl ?_
 refine ac ?_
 exact Fin.BM (q2) (k+1) u (⟨⟨by omega,by omega⟩,by omega⟩) ⟨⟨_,rfl,AD k⟩,ke rfl,ke rfl,ke rfl,ke rfl,ke rfl,ke rfl,ke rfl,ke rfl,ke rfl,trivial⟩ (fun _ _ h=>h)
 have VR:=AJ h7
 refine ac ?_
 refine ao ?_
 refine TO.AK 3 rfl rfl rfl (vl rfl) (Va rfl) rfl CA rfl rfl (TO.AK 2 rfl rfl rfl (vl rfl) (Va rfl) rfl Er rfl rfl ?_)
 refine ao ?_
 refine D7 8 9 10 11 rfl (Tr.ret (Fin.MC rfl (AP.cell 3 rfl rfl Cj CA rfl (Lr)) (AP.cell 2 rfl rfl IG Er rfl (Lr)) (AP.tmp rfl (Lr)) (AP.tmp rfl (Lr)) ?_))
 · exact AG 0 (AU (fun _=>⟨Qa,gQ⟩) (Am ⟨Ar ⟨AG _ (Ah _ _),trivial⟩,F9,AG _ (Lr),Lr,trivial⟩))
theorem XX {e:C0} {l:List BK} {r:List BS} {d:List Int} {n:Nat} {fr LG:Int} (hz:e.sz n) (hn:n≤800000) (hc:∀c∈l,c.Ck.fits∧c.Ck.small) (hrl:r.length≤1000000):Az prog 49 [agg (Bw e),H6 l r d,int fr,int LG] (Cp.ex fun z:Int=>fact (z=0→EY e=true∧Ud e.BW.length l r d) (EI [bN,int z])):=by
 refine fo func49 rfl ⟨rfl,rfl⟩ fun M0 w0=>(Tr.seq (Tr.An (tp rfl (BZ rfl (Va rfl)) (tp rfl (BZ rfl (Va rfl)) ?_))))
 refine Tl rfl rfl rfl rfl Xj Fa (fun b1=> ?_)
 refine ao ?_
 refine ao ?_
 refine tp rfl (Yz (XW hz hn hc hrl) rfl rfl rfl rfl rfl) ?_
 refine TO.ex 19 rfl (fun z1=>TO.fact 19 rfl fun FM=> ?_)
 refine ao ?_
 refine Tl rfl rfl rfl rfl Xj Fa (fun b2=> ?_)
 refine Tl rfl rfl rfl rfl z167 NP (fun b3=> ?_)
 refine sf 1 10 ⟨rfl,rfl,rfl⟩ rfl rfl rfl rfl ?_
 refine sf 0 11 ⟨rfl,rfl,rfl⟩ rfl rfl rfl rfl ?_
 refine ao ?_
 refine D7 8 10 12 13 rfl ?_
 refine an ?_ ?_<;>intro h1 q1
 refine ao ?_
 refine TO.AK 0 rfl rfl rfl (vl rfl) (Va rfl) rfl CA rfl rfl ?_
 refine ao ?_
 refine Tr.ret (Fin.AB (Fin.BD rfl (AP.cell 0 rfl rfl Cj CA rfl (Lr)) (AP.tmp rfl (Lr)) ?_))
 · exact AG z1 (AU (fun h_=>absurd h_ (by omega)) (Am ⟨Ci,Lr,trivial⟩))
 have hz0:z1=0:=by have:=q1;omega
 refine ac ?_
 refine Tr.seq (Tr.seq (Tr.ex 12 rfl fun x12=> ?_))
 refine an ?_ ?_<;>intro h2 q2
 refine ao ?_
 refine TO.AK 0 rfl rfl rfl (vl rfl) (Va rfl) rfl CA rfl rfl ?_
 refine ao ?_
 refine Tr.ret (Fin.AB (Fin.BD rfl (AP.cell 0 rfl rfl Cj CA rfl (Lr)) (AP.tmp rfl (Lr)) ?_))
 · exact AG 42 (AU (fun h_=>absurd h_ (by decide)) (Am ⟨Ci,Lr,trivial⟩))
 refine ac ?_
 refine ao ?_
 refine TO.AK 0 rfl rfl rfl (vl rfl) (Va rfl) rfl CA rfl rfl ?_
 refine ao ?_
 refine Tr.ret (Fin.BD rfl (AP.cell 0 rfl rfl Cj CA rfl (Lr)) (AP.tmp rfl (Lr)) ?_)
 · exact AG 0 (AU (fun _=>FM hz0) (Am ⟨Lr,Lr,trivial⟩))
theorem RF {e:C0} {l:List BK} {r:List BS} {d:List Int} {n:Nat} {s:List Int} {g i:Int} (hz:e.sz n) (hn:n≤800000) (hc:∀c∈l,c.Ck.fits∧c.Ck.small) (fM:s.length≤4096) (hi:0≤i∧i<(d.length:Nat)):Az prog 78 [agg (Bw e),H6 l r d,int g,ints s,int i,Ko,OL,Q7] (DW):=by
 refine fo func78 rfl ⟨rfl,rfl⟩ fun M0 w0=> ?_
 have k_:=(V6 (l:=l) (s:=s) hz hc).fits (by omega)
 have hwl:=LO s i true
 have hyf:=(V6 (l:=l) (s:=Eg s i true) hz hc).fits (by omega)
 have bw:=FE (l:=d) (i:=i.toNat) (by omega)
 refine ac ?_
 refine ao ?_
 refine tp rfl (JH (Jt hz hn hc) rfl rfl rfl rfl) ?_
 refine ao ?_
 refine Tl rfl rfl rfl rfl z29 G1 (fun b1=> ?_)
 refine sf 0 17 ⟨rfl,rfl,rfl⟩ rfl rfl rfl rfl ?_
 refine ao ?_
 refine G0 2 3 4 6 8 9 13 15 17 18 rfl (Tr.seq (Tr.pad (Tr.rx ?_)))
 refine ax ?_
 refine xo rfl (fun _=>JH (Fj (by omega)) rfl rfl rfl rfl) (xo rfl (fun _=>JH (Jt hz hn hc) rfl rfl rfl rfl) ?_)
 refine ax ?_
 refine Cx.ef 0 rfl rfl (by decide) (CX rfl rfl (by decide) rfl z29 G1) (Cx.Dp 0 rfl rfl (DH rfl rfl rfl rfl (Va rfl) Ct rfl rfl) (xm rfl ?_))
 refine Cx.nil ⟨by kernel_rfl,?_⟩
 refine BQ.open_ 0 19 rfl rfl (fun v1=> ?_)
 refine BQ.done al1 (Fin.K5 19 0 _ rfl rfl (fun _=>rfl) (fun b2=> ?_))
 refine Fin.go (G0 2 4 6 9 13 15 17 18 19 20 rfl ?_)
 refine ag ?_ ?_<;>intro h1 q1
 refine ac ?_
 refine Oe 2 4 6 9 13 15 17 19 46 rfl ?_
 refine ac ?_
 refine Tr.drop 0 ?_
 refine ac ?_
 · exact AG _ (Lr)
 refine ac ?_
 refine Oe 2 4 6 9 13 15 17 19 46 rfl ?_
 refine Tr.cn rfl ?_ ?_<;>intro h2 q2
 refine ac ?_
 refine Tr.drop 0 ?_
 refine ac ?_
 · exact AG _ (Lr)
 refine a2 ?_
 refine co rfl (AA rfl underlying22 Bh (vl rfl) (vl rfl) (by omega) (BB bw)) (co rfl (DQ rfl Bo rfl) (co rfl (Ac.le (AQ rfl (XE k_ hyf) ⟨ke rfl,ke rfl,ke rfl,ke rfl,ke rfl,ke rfl,trivial⟩) mH) ?_))
 refine ac ?_
 refine Tr.drop 0 (CY 2 21 rfl (Tr.seq (Tr.seq (Tr.ex 21 rfl fun bad=>(Tr.fact 21 rfl fun zO=> ?_)))))
 refine ac ?_
 refine Tr.block (Tr.A7 [(2,_),(61,_),(62,_)] (MW rfl) (fun k:Nat=>[(63,int ((k:Nat):Int))]) (fun k:Nat=>k≤(bad).length) (fun k:Nat=>(bad).length-k) 0 (Nat.zero_le _) ⟨ke rfl,trivial⟩ ?_)
 rintro k BN
 refine ac ?_
 refine Tr.seq ?_
 refine Tr.cn rfl ?_ ?_<;>intro h3 q3
 have Af:k<(bad).length:=AH h3
 obtain ⟨x,Ad⟩:=at_ Af
 refine ac ?_
 refine Tr.seq (Tr.block (Tr.seq (Tr.AW (co rfl (AA rfl underlying22 Bh (vl rfl) (vl rfl) (by omega) (AO Ad)) ?_))))
 · repeat' first|exact AG _ (Lr)|exact Fin.AM (k+1) ⟨Af,by omega⟩ ⟨⟨_,rfl,AD k⟩,ke rfl,ke rfl,ke rfl,trivial⟩|refine ac ?_|(refine Tr.cn rfl ?_ ?_<;>intro h q)
 have BI:k=(bad).length:=by have:=AJ h3;omega
 subst BI
 refine a3 ?_
 · exact AG _ (Lr)
theorem Uh {l:List (List Int)} {s:List Int}  :Az prog 76 [sets l,ints s] (DW):=by
 refine fo func76 rfl ⟨rfl,rfl⟩ fun M0 w0=>(Tr.C8 0 rfl fun Et=> ?_)
 refine a2 ?_
 refine Tr.block (Tr.A7 [(1,_),(7,_),(8,_)] (MW rfl) (fun k:Nat=>[(9,int ((k:Nat):Int))]) (fun k:Nat=>k≤(l).length) (fun k:Nat=>(l).length-k) 0 (Nat.zero_le _) ⟨ke rfl,trivial⟩ ?_)
 rintro k BN
 refine ac ?_
 refine Tr.seq ?_
 refine Tr.cn rfl ?_ ?_<;>intro h1 q1
 have Af:k<(l).length:=AH h1
 obtain ⟨x,Ad⟩:=at_ Af
 refine ac ?_
 refine Tr.seq (Tr.block (Tr.seq (Tr.AW (co rfl (AA rfl underlying174 Dk (vl rfl) (vl rfl) (by omega) (AO Ad)) ?_))))
 refine a2 ?_
 refine co rfl (CS (Q9) rfl rfl rfl) ?_
 refine ac ?_
 refine Tr.ex 15 rfl fun zP=> ?_
 · repeat' first|exact AG _ (Lr)|exact Fin.AM (k+1) ⟨Af,by omega⟩ ⟨⟨_,rfl,AD k⟩,ke rfl,ke rfl,ke rfl,trivial⟩|refine ac ?_|(refine Tr.cn rfl ?_ ?_<;>intro h q)
 have BI:k=(l).length:=by have:=AJ h1;omega
 refine a3 ?_
 · exact AG _ (Lr)
theorem Ui {e:C0} {l:List BK} {r:List BS} {d:List Int} {n:Nat} (hz:e.sz n) (hn:n≤800000) (hc:∀c∈l,c.Ck.fits∧c.Ck.small) (hrl:r.length≤1000000):Az prog 50 [agg (Bw e),H6 l r d,Ko,OL,Q7] (Cp.ex fun z:List Int×Int=>fact (z.1.length≤1000) (EI [ints z.1,int z.2])):=by
 refine fo func50 rfl ⟨rfl,rfl⟩ fun M0 w0=> ?_
 have hf:=hz.fits (by omega)
 refine ac ?_
 refine ap ?_
 refine tp rfl (CS (Ss hf hrl) rfl rfl rfl) ?_
 refine TO.ex 25 rfl (fun z1=>TO.fact 25 rfl fun FM=> ?_)
 refine ap ?_
 refine ac ?_
 refine I_ 3 5 6 7 9 12 27 rfl ?_
 refine Tr.cn rfl ?_ ?_<;>intro h1 q1
 refine ac ?_
 refine Tr.ret (Fin.AB (Fin.BD rfl (AP.tmp rfl (Lr)) (AP.tmp rfl (Lr)) ?_))
 · exact AG ([],_) (AU (Nat.zero_le _) (Am ⟨AF 1,Lr,trivial⟩))
 have hz0:z1=0:=by have:=q1;omega
 obtain ⟨Qa,gQ⟩:=FM hz0
 have jA:=gQ.dl
 have PW:=gQ.l24
 refine a2 ?_
 refine co rfl (JH (Il) rfl rfl rfl rfl) ?_
 refine ac ?_
 refine Tr.seq (Tr.ex 13 rfl fun x13=> ?_)
 refine an ?_ ?_<;>intro h2 q2
 refine ac ?_
 refine CY 10 11 rfl (Tr.ret (Fin.AB (Fin.BD rfl (AP.tmp rfl (Lr)) (AP.tmp rfl (Lr)) ?_)))
 · exact AG ([],_) (AU (Nat.zero_le _) (Am ⟨AF 1,Lr,trivial⟩))
 refine ac ?_
 refine ap ?_
 refine tp rfl (CS (Sv hz hn hrl) rfl rfl rfl) ?_
 refine TO.ex 38 rfl (fun z2=>TO.fact 38 rfl fun HC=> ?_)
 refine ap ?_
 refine I_ 3 5 6 7 9 14 15 rfl ?_
 refine an ?_ ?_<;>intro h3 q3
 refine ac ?_
 refine Tr.ret (Fin.AB (Fin.BD rfl (AP.tmp rfl (Lr)) (AP.tmp rfl (Lr)) ?_))
 · exact AG ([],_) (AU (Nat.zero_le _) (Am ⟨AF 1,Lr,trivial⟩))
 refine a3 ?_
 refine Oe 3 5 6 7 9 14 16 46 47 rfl (Tr.block (Tr.Bs 3 1 (Tr.Cc [(3,_),(5,_),(6,_),(7,_),(9,_),(14,_),(46,_)] ⟨ke rfl,ke rfl,ke rfl,ke rfl,ke rfl,ke rfl,ke rfl,trivial⟩ (fun (o:List Int) (k:Nat) u=>[(47,int ((k:Nat):Int)),(16,Ag u (ints o))]) (fun (o:List Int) (k:Nat) u=>Hp M0 w0 Eo ([Ap 3 1 u])) (fun (o:List Int) (k:Nat)=>k≤l.length∧o.length≤k) (fun (o:List Int) (k:Nat)=>l.length-k) ([]) (0) (.slice none 0 0) (⟨Nat.zero_le _,by simp⟩) ⟨ke rfl,⟨_,rfl,BX rfl⟩,trivial⟩ (fun _ _ h=>h) ?_)))
 rintro o k u ⟨hk0,bu⟩
 refine ac ?_
 refine Tr.seq ?_
 refine Tr.cn rfl ?_ ?_<;>intro h4 q4
 have hk:k<l.length:=AH h4
 obtain ⟨dk,bw⟩:=at_ (l:=d) (k:=k) (by omega)
 iterate 4 refine ac ?_
 refine MF 3 5 6 7 9 14 16 17 18 46 47 50 51 52 rfl (Tr.block (Tr.A7 [(3,_),(5,_),(6,_),(7,_),(9,_),(14,_),(16,_),(17,_),(46,_),(47,_),(50,_),(51,_)] (u_ rfl) (fun j:Nat=>[(52,int ((j:Nat):Int)),(18,DW)]) (fun j:Nat=>j≤(z2.1).length) (fun j:Nat=>(z2.1).length-j) 0 (Nat.zero_le _) ⟨ke rfl,⟨_,rfl,AG _ (Lr)⟩,trivial⟩ ?_))
 rintro j yX
 refine ac ?_
 refine cR 3 5 6 7 9 14 16 17 18 46 47 50 51 52 53 rfl (Tr.seq ?_)
 refine Tr.cn rfl ?_ ?_<;>intro h5 q5
 have sr:j<(z2.1).length:=AH h5
 obtain ⟨t,sy⟩:=at_ sr
 have hts:=HC.Q3 t (List.mem_of_getElem? sy)
 have ht:=sy
 have htl:=hts.len
 have hzl:=HC.len
 refine ac ?_
 refine MF 3 5 6 7 9 14 16 17 18 46 47 50 51 52 rfl ?_
 refine ac ?_
 refine co rfl (AA rfl underlying171 U8 (vl rfl) (vl rfl) (by omega) (AO ht)) ?_
 refine ac ?_
 refine TL 3 5 6 7 9 14 16 17 18 19 20 46 47 50 51 52 rfl ?_
 refine ac ?_
 refine YH 3 5 6 7 9 14 16 17 18 19 20 46 47 50 51 52 57 58 59 rfl (Tr.block (Tr.A7 [(3,_),(5,_),(6,_),(7,_),(9,_),(14,_),(16,_),(17,_),(19,_),(20,_),(46,_),(47,_),(50,_),(51,_),(52,_),(57,_),(58,_)] (vB rfl) (fun m:Nat=>[(59,int ((m:Nat):Int)),(18,DW)]) (fun m:Nat=>m≤(t).length) (fun m:Nat=>(t).length-m) 0 (Nat.zero_le _) ⟨ke rfl,ke rfl,trivial⟩ ?_))
 rintro m Kc
 refine ac ?_
 refine og 3 5 6 7 9 14 16 17 18 19 20 46 47 50 51 52 57 58 59 60 rfl (Tr.seq ?_)
 refine Tr.cn rfl ?_ ?_<;>intro h6 q6
 have Dg:m<(t).length:=AH h6
 obtain ⟨x,Dq⟩:=at_ Dg
 have hx:=Dq
 have hsd:∀i∈x,0≤i∧i<(d.length:Nat):=fun i hi=>by have:=hts.Q3 x (List.mem_of_getElem? hx) i hi;omega
 have hsw:=hts.wid x (List.mem_of_getElem? hx)
 refine ac ?_
 refine YH 3 5 6 7 9 14 16 17 18 19 20 46 47 50 51 52 57 58 59 rfl (Tr.seq (Tr.block (Tr.seq (Tr.AW (co rfl (AA rfl underlying174 Dk (vl rfl) (vl rfl) (by omega) (AO hx)) ?_)))))
 refine ac ?_
 refine og 3 5 6 7 9 14 16 17 18 19 20 22 46 47 50 51 52 57 58 59 rfl (Tr.seq (Tr.ex 18 rfl fun x18=> ?_))
 refine ag ?_ ?_<;>intro h7 q7
 refine ac ?_
 refine cy h7 rfl (CS (Ig) rfl rfl rfl) ?_
 refine ag ?_ ?_<;>intro h8 q8
 refine ac ?_
 refine cy h8 rfl (JH (Ju hsd) rfl rfl rfl rfl) ?_
 refine ac ?_
 refine cy h8 rfl (AA rfl underlying22 Bh (vl rfl) (vl rfl) (by omega) (AO bw)) ?_
 refine ag ?_ ?_<;>intro h9 q9
 refine ac ?_
 refine cy h9 rfl (JH (Fj (by omega)) rfl rfl rfl rfl) (cy h9 rfl (CS (Uh) rfl rfl rfl) ?_)
 refine ac ?_
 refine cU 3 5 6 7 9 14 16 17 18 19 20 22 46 47 50 51 52 57 58 59 88 rfl (Tr.ex 88 rfl fun zQ=> ?_)
 · repeat' first|exact Fin.AM (m+1) ⟨Dg,by omega⟩ ⟨⟨_,rfl,AD m⟩,ke rfl,ke rfl,ke rfl,ke rfl,ke rfl,ke rfl,ke rfl,ke rfl,ke rfl,ke rfl,ke rfl,ke rfl,ke rfl,ke rfl,ke rfl,ke rfl,ke rfl,ke rfl,trivial⟩|exact Fin.AM (m+1) ⟨Dg,by omega⟩ ⟨⟨_,rfl,AD m⟩,⟨_,rfl,AG _ (Lr)⟩,ke rfl,ke rfl,ke rfl,ke rfl,ke rfl,ke rfl,ke rfl,ke rfl,ke rfl,ke rfl,ke rfl,ke rfl,ke rfl,ke rfl,ke rfl,ke rfl,ke rfl,trivial⟩|refine co rfl (AQ rfl (RF hz hn hc hsw (by omega)) ⟨ke rfl,ke rfl,ke rfl,ke rfl,ke rfl,ke rfl,ke rfl,ke rfl,trivial⟩) ?_|refine ac ?_|(refine Tr.cn rfl ?_ ?_<;>intro h q)
 refine ac ?_
 refine cU 3 5 6 7 9 14 16 17 18 19 20 22 46 47 50 51 52 57 58 59 88 rfl ?_
 refine ac ?_
 refine YH 3 5 6 7 9 14 16 17 18 19 20 46 47 50 51 52 57 58 59 rfl ?_
 refine ac ?_
 exact Fin.AM (m+1) ⟨Dg,by omega⟩ ⟨⟨_,rfl,AD m⟩,⟨_,rfl,AG _ (Lr)⟩,ke rfl,ke rfl,ke rfl,ke rfl,ke rfl,ke rfl,ke rfl,ke rfl,ke rfl,ke rfl,ke rfl,ke rfl,ke rfl,ke rfl,ke rfl,ke rfl,ke rfl,trivial⟩
 refine ac ?_
 refine cU 3 5 6 7 9 14 16 17 18 19 20 22 46 47 50 51 52 57 58 59 88 rfl ?_
 refine ac ?_
 refine YH 3 5 6 7 9 14 16 17 18 19 20 46 47 50 51 52 57 58 59 rfl ?_
 refine ac ?_
 exact Fin.AM (m+1) ⟨Dg,by omega⟩ ⟨⟨_,rfl,AD m⟩,⟨_,rfl,AG _ (Lr)⟩,ke rfl,ke rfl,ke rfl,ke rfl,ke rfl,ke rfl,ke rfl,ke rfl,ke rfl,ke rfl,ke rfl,ke rfl,ke rfl,ke rfl,ke rfl,ke rfl,ke rfl,trivial⟩
 refine ac ?_
 refine cU 3 5 6 7 9 14 16 17 18 19 20 22 46 47 50 51 52 57 58 59 88 rfl ?_
 refine ac ?_
 refine YH 3 5 6 7 9 14 16 17 18 19 20 46 47 50 51 52 57 58 59 rfl ?_
 refine ac ?_
 exact Fin.AM (m+1) ⟨Dg,by omega⟩ ⟨⟨_,rfl,AD m⟩,⟨_,rfl,AG _ (Lr)⟩,ke rfl,ke rfl,ke rfl,ke rfl,ke rfl,ke rfl,ke rfl,ke rfl,ke rfl,ke rfl,ke rfl,ke rfl,ke rfl,ke rfl,ke rfl,ke rfl,ke rfl,trivial⟩
 have IY:m=(t).length:=by have:=AJ h6;omega
 subst IY
 refine ac ?_
 refine MF 3 5 6 7 9 14 16 17 18 46 47 50 51 52 rfl ?_
 refine ac ?_
 exact Fin.AM (j+1) ⟨sr,by omega⟩ ⟨⟨_,rfl,AD j⟩,ke rfl,ke rfl,ke rfl,ke rfl,ke rfl,ke rfl,ke rfl,ke rfl,ke rfl,ke rfl,ke rfl,ke rfl,ke rfl,trivial⟩
 have xy:j=(z2.1).length:=by have:=AJ h5;omega
 subst xy
 refine ac ?_
 refine EO 3 5 6 7 9 14 16 17 18 46 47 rfl ?_
 refine ac ?_
 refine Tr.ex 100 rfl fun yY=> ?_
 refine Tr.cn rfl ?_ ?_<;>intro h11 PR
 refine ap ?_
 refine TO.DP 0 rfl rfl (by decide) (Bl rfl rfl rfl rfl underlying22 Bh Iu z3 (Kb rfl) (Kf rfl) (Aq (by exact List.Mem.head _) (Ka rfl))) (fun v1=> ?_)
 refine ap ?_
 refine Oe 3 5 6 7 9 14 16 46 47 rfl ?_
 refine ac ?_
 exact Fin.BM (o++[((k:Nat):Int)]) (k+1) v1 (⟨⟨by omega,by simp;omega⟩,by omega⟩) ⟨⟨_,rfl,AD k⟩,⟨_,rfl,Au (by rw [List.map_append];rfl)⟩,ke rfl,ke rfl,ke rfl,ke rfl,ke rfl,ke rfl,ke rfl,trivial⟩ (fun _ _ h=>h)
 refine a2 ?_
 exact Fin.BM (o) (k+1) u (⟨⟨by omega,by omega⟩,by omega⟩) ⟨⟨_,rfl,AD k⟩,⟨_,rfl,Au rfl⟩,ke rfl,ke rfl,ke rfl,ke rfl,ke rfl,ke rfl,ke rfl,trivial⟩ (fun _ _ h=>h)
 have VR:=AJ h4
 refine a2 ?_
 refine Tr.ret (Fin.BD rfl (AP.tmp rfl (Lr)) (AP.tmp rfl (Lr)) ?_)
 · exact AG (_,_) (AU (show o.length≤1000 by omega) (Am ⟨Ah _ _,Lr,trivial⟩))
theorem XY {e:C0} {l:List BK} {n:Nat} {s:List Int} {fr LG:Int} (hz:e.sz n) (hn:n≤800000) (hc:∀c∈l,c.Ck.fits∧c.Ck.small) (fM:s.length≤4096):Az prog 80 [agg (Bw e),ER l,ints s,int fr,int LG] (DW):=by
 refine fo func80 rfl ⟨rfl,rfl⟩ fun M0 w0=> ?_
 have hxz:=V6 (l:=l) (s:=s) hz hc
 have k_:=hxz.fits (by omega)
 have hxg:=hxz.lg
 refine ac ?_
 refine ao ?_
 refine tp rfl (JH (OP hz hn hc) rfl rfl rfl rfl) ?_
 refine ao ?_
 refine Tl rfl rfl rfl rfl z29 G1 (fun b1=> ?_)
 refine sf 0 11 ⟨rfl,rfl,rfl⟩ rfl rfl rfl rfl ?_
 refine ao ?_
 refine ac ?_
 refine D7 3 4 11 24 rfl ?_
 refine Tr.cn rfl ?_ ?_<;>intro h1 q1
 refine a2 ?_
 · exact AG _ (Lr)
 refine a2 ?_
 refine Tr.block (Tr.A7 [(3,_),(4,_),(11,_),(27,_)] (TN rfl) (fun k:Nat=>[(28,int ((k:Nat):Int))]) (fun k:Nat=>k≤((RB e l s).1.A_).length) (fun k:Nat=>((RB e l s).1.A_).length-k) 0 (Nat.zero_le _) ⟨ke rfl,trivial⟩ ?_)
 rintro k BN
 refine ac ?_
 refine Tr.seq ?_
 refine Tr.cn rfl ?_ ?_<;>intro h2 q2
 have Af:k<((RB e l s).1.A_).length:=AH h2
 obtain ⟨x,Ad⟩:=at_ Af
 refine a2 ?_
 refine ao ?_
 refine tp rfl (Yz (L8 k_) rfl rfl rfl rfl rfl) ?_
 refine TO.ex 36 rfl (fun z1=>TO.fact 36 rfl fun FM=> ?_)
 refine ao ?_
 refine Tl rfl rfl rfl rfl H8 Ed (fun b2=> ?_)
 refine sf 0 14 ⟨rfl,rfl,rfl⟩ rfl rfl rfl rfl ?_
 refine ao ?_
 · repeat' first|exact AG _ (Lr)|exact Fin.AM (k+1) ⟨Af,by omega⟩ ⟨⟨_,rfl,AD k⟩,ke rfl,ke rfl,ke rfl,ke rfl,trivial⟩|refine ac ?_|(refine Tr.cn rfl ?_ ?_<;>intro h q)
 have BI:k=((RB e l s).1.A_).length:=by have:=AJ h2;omega
 refine a3 ?_
 · exact AG _ (Lr)
theorem P6 {a b:Int}  :Az prog 31 [int a,int b] (DW):=by
 refine fo func31 rfl ⟨rfl,rfl⟩ fun M0 w0=> ?_
 · repeat' first|exact AG _ (Lr)|refine ac ?_|(refine Ch.cg rfl rfl rfl ?_ ?_<;>intro h q)
theorem Ip {s:List Int} {m:Nat} (hs:∀i∈s,0≤i∧i<(m:Int)) (hm:m≤40):Az prog 79 [ints s] (Cp.ex fun z:Nat=>fact (z<2 ^ m) (int ((z:Nat):Int))):=by
 refine fo func79 rfl ⟨rfl,rfl⟩ fun M0 w0=>(Tr.C8 0 rfl fun Et=> ?_)
 refine a3 ?_
 refine Tr.block (Tr.DG [(6,_),(7,_)] ⟨ke rfl,ke rfl,trivial⟩ (fun (z:Nat) (k:Nat)=>[(8,int ((k:Nat):Int)),(3,int ((z:Nat):Int))]) (fun (z:Nat) (k:Nat)=>Hp M0 w0 Eo ([])) (fun (z:Nat) (k:Nat)=>k≤s.length∧z<2 ^ m) (fun (z:Nat) (k:Nat)=>s.length-k) (0) (0)  (⟨Nat.zero_le _,Nat.two_pow_pos m⟩) ⟨ke rfl,ke rfl,trivial⟩ (fun _ _ h=>h) ?_)
 rintro z k  ⟨hk0,hz⟩
 refine ac ?_
 refine Tr.seq ?_
 refine Tr.cn rfl ?_ ?_<;>intro h1 q1
 have hk:k<s.length:=AH h1
 obtain ⟨i,hx⟩:=at_ hk
 have hir:=hs i (List.mem_of_getElem? hx)
 refine ac ?_
 refine Tr.seq (Tr.block (Tr.seq (Tr.AW (co rfl (AA rfl underlying101 Bh (vl rfl) (vl rfl) (by omega) (AO hx)) ?_))))
 refine a2 ?_
 refine co rfl (V7 rfl (vl rfl) (vl rfl) (by omega) (by omega)) ?_
 refine co rfl (mD (m:=m) rfl (vl rfl) (vl rfl) hz (Nat.pow_lt_pow_right (by omega) (by omega)) hm) ?_
 refine a2 ?_
 exact Fin.DD ((z|||2 ^ i.toNat)) (k+1)  (⟨⟨by omega,Nat.or_lt_two_pow hz (Nat.pow_lt_pow_right (by omega) (by omega))⟩,by omega⟩) ⟨⟨_,rfl,AD k⟩,ke rfl,ke rfl,ke rfl,trivial⟩ (fun _ _ h=>h)
 have VR:=AJ h1
 refine a3 ?_
 · exact AG _ (AU hz (Lr))
abbrev Sw:Pr:=Cp.ex fun z:List Int=>fact (z.length≤1000) (ints z)
theorem XZ {s:List Int} {k n:Int} (h:∀i∈s,0≤i∧i<n) (hk:0≤k∧k<n):∀i∈Eg s k true,0≤i∧i<n:=fun i hi=>by
 rcases Fi.1 hi with rfl|hi
 · exact hk
 · exact h i hi
theorem Xa {n:Nat}:(List.replicate n (Value.bool false)).map is=((List.replicate n false).map fun x:Bool=>[Cp.bool x]).flatten++[]:=by
 rw [List.map_replicate,List.map_replicate,List.append_nil]
 induction n with
 |zero=>rfl
 |succ n ih=>rw [List.replicate_succ,List.replicate_succ,List.flatten_cons,←ih];rfl
theorem P7 {e:C0} {l:List BK} {n:Nat} {so done:List Int} {fr LG:Int} {b N m:Nat} (hz:e.sz n) (hn:n≤800000) (hc:∀c∈l,c.Ck.fits∧c.Ck.small) (hN:2 ^ l.length=N) (hl:l.length≤10) (hm:so.length+m=l.length) (hdr:∀i∈done,0≤i∧i<((l.length:Nat):Int)) (jA:done.length≤so.length) (ih:∀m':Nat,m=m'+1→∀so done:List Int,so.length+m'=l.length→(∀i∈done,0≤i∧i<((l.length:Nat):Int))→done.length≤so.length→C2 prog 51 [agg (Bw e),ER l,ints so,ints done,int fr,int LG,is (RK N b)] (EI [Sw,DW]) (Df b 4 (fun x:Bool=>[Cp.bool x]) (fun L:List Bool=>L.length=N) []) (fun _=>Df b 4 (fun x:Bool=>[Cp.bool x]) (fun L:List Bool=>L.length=N) [])):C2 prog 51 [agg (Bw e),ER l,ints so,ints done,int fr,int LG,is (RK N b)] (EI [Sw,DW]) (Df b 4 (fun x:Bool=>[Cp.bool x]) (fun L:List Bool=>L.length=N) []) (fun _=>Df b 4 (fun x:Bool=>[Cp.bool x]) (fun L:List Bool=>L.length=N) []):=by
 refine C2.of func51 rfl rfl (by exact Nb rfl) fun M0 w0 S rs M1 w1=> ?_
 refine ac ?_
 refine Tr.seq (Tr.seq (Tr.II 0 rfl fun dd1 s7=> ?_))
 refine ap ?_
 refine tp rfl (Ce (Ip (m:=l.length) hdr (by omega)) rfl rfl) ?_
 refine TO.ex 22 rfl (fun z1=>TO.fact 22 rfl fun FM=> ?_)
 have hzN:z1<N:=hN ▸ FM
 refine tp rfl (BV rfl underlying134 S3 (vl rfl) (vl rfl) (by omega) (by omega)) (TO.rd 0 rfl rfl rfl (by decide) (B4 rfl YQ (vl rfl) (Nc (g:=(fun x:Bool=>Cp.bool x)) (by omega))) ?_)
 refine ap ?_
 refine Tr.cn rfl ?_ ?_<;>intro h1 q1
 refine Tr.seq (Tr.FR (fun L:List Bool=>L.length=N) 0 rfl s7 ?_)
 refine ac ?_
 refine Tr.ret (Fin.AB (Fin.RZ rfl rfl ?_ rfl ?_))
 · exact AG [] (AU (by simp) (AF 1))
 · exact AG _ (Lr)
 refine ac ?_
 refine Tr.seq (Tr.seq (Tr.FR (fun L:List Bool=>L.length=N) 0 rfl s7 ?_))
 refine ac ?_
 refine co rfl (kc5 (XY hz hn hc (by omega)) rfl rfl rfl rfl rfl rfl) ?_
 refine ac ?_
 refine Jx 1 2 3 4 5 6 7 30 rfl (Tr.ex 30 rfl fun zR=> ?_)
 refine Tr.cn rfl ?_ ?_<;>intro h2 q2
 refine ac ?_
 refine Jx 1 2 3 4 5 6 7 35 rfl ?_
 refine Tr.cn rfl ?_ ?_<;>intro h3 q3
 refine ac ?_
 refine Tr.ret (Fin.AB (Fin.AB (Fin.RZ rfl rfl ?_ rfl ?_)))
 · exact AG so (AU (by omega) (Lr))
 · exact AG _ (Lr)
 refine a2 ?_
 refine Tr.block (Tr.KD [(1,_),(2,_),(3,_),(4,_),(5,_),(6,_),(7,_),(38,_)] ⟨ke rfl,ke rfl,ke rfl,ke rfl,ke rfl,ke rfl,ke rfl,ke rfl,trivial⟩ (fun (k:Nat)=>[(39,int ((k:Nat):Int))]) (fun (k:Nat)=>Hp M0 w0 S (Df b 4 (fun x:Bool=>[Cp.bool x]) (fun L:List Bool=>L.length=N) []::At M1 w1::rs)) (fun (k:Nat)=>k≤l.length) (fun (k:Nat)=>l.length-k) (0)  (Nat.zero_le _) ⟨ke rfl,trivial⟩ (fun _ _ h=>h) ?_)
 rintro k  hk0
 refine ac ?_
 refine Tr.seq ?_
 refine Tr.cn rfl ?_ ?_<;>intro h4 q4
 have hk:k<l.length:=AH h4
 refine a3 ?_
 refine co rfl (CS (Ig) rfl rfl rfl) ?_
 refine ac ?_
 refine EO 1 2 3 4 5 6 7 16 38 39 44 rfl ?_
 refine Tr.cn rfl ?_ ?_<;>intro h5 q5
 refine a2 ?_
 exact Fin.KE (k+1)  (⟨by omega,by omega⟩) ⟨⟨_,rfl,AD k⟩,ke rfl,ke rfl,ke rfl,ke rfl,ke rfl,ke rfl,ke rfl,ke rfl,trivial⟩ (fun _ _ h=>h)
 refine ac ?_
 refine ap ?_
 refine TO.pad ?_
 refine TO.DP 0 rfl rfl (by decide) (Db rfl rfl (by decide) rfl underlying22 Bh Iu z3 rfl (by decide) ⟨_,rfl,AF _⟩ (vl rfl) (by simp only [List.length_append,List.length_map,List.length_cons,List.length_nil];unfold maxLen;omega) (by simp only [List.length_append,List.length_map,List.length_cons,List.length_nil];omega) (Ba (by exact List.Mem.head _) ⟨_,rfl,Dt 1⟩)) (fun v1=> ?_)
 refine ap ?_
 refine EO 1 2 3 4 5 6 7 16 17 38 39 rfl ?_
 refine ap ?_
 refine TO.DP 0 rfl rfl (by decide) (Bl rfl rfl rfl rfl underlying22 Bh Iu z3 (Kb rfl) (Kf rfl) (Aq (by exact List.Mem.head _) (Ka rfl))) (fun v2=> ?_)
 refine ap ?_
 refine EO 1 2 3 4 5 6 7 16 17 38 39 rfl (Tr.seq (Tr.rx ?_))
 refine ay ?_
 refine xo rfl (fun _=>JH (Fj (by omega)) rfl rfl rfl rfl) ?_
 refine ay ?_
 refine Cx.ef 1 rfl rfl (by decide) (Aw rfl rfl (by decide) rfl (ih (m-1) (by omega) (so++[((k:Nat):Int)]) (Eg done ((k:Nat):Int) true) (by simp;omega) (XZ hdr (by omega)) (by have:=LO done ((k:Nat):Int) true;simp;omega)) ⟨ke rfl,ke rfl,⟨_,rfl,Pr.le_trans (Ah _ _) (Pr.le_of_eq (by show _=slice 1 ((so++[((k:Nat):Int)]).map fun n=>[int n]);rw [List.nil_append,List.map_append];rfl))⟩,ke rfl,ke rfl,ke rfl,ke rfl,trivial⟩) ?_
 refine ay ?_
 refine Cx.nil ⟨by kernel_rfl,?_⟩
 refine BQ.done al3 (Fin.go (Tr.drop 0 (EO 1 2 3 4 5 6 7 18 19 38 39 rfl ?_)))
 refine ac ?_
 refine Tr.ex 64 rfl fun zS=> ?_
 refine Tr.cn rfl ?_ ?_<;>intro h6 q6
 refine ac ?_
 refine CY 14 15 rfl (Tr.ret (Fin.AX (Fin.AB (Fin.AB (Fin.AX (Fin.AB (Fin.RZ rfl rfl ?_ rfl ?_)))))))
 · exact Lr
 · exact AG _ (Lr)
 refine a2 ?_
 exact Fin.KE (k+1)  (⟨by omega,by omega⟩) ⟨⟨_,rfl,AD k⟩,ke rfl,ke rfl,ke rfl,ke rfl,ke rfl,ke rfl,ke rfl,ke rfl,trivial⟩ (fun _ _ h=>h)
 have VR:=AJ h4
 refine ac ?_
 refine Tr.seq (Tr.II 0 rfl fun dd2 xz=> ?_)
 refine ap ?_
 refine tp rfl (Ce (Ip (m:=l.length) hdr (by omega)) rfl rfl) ?_
 refine TO.ex 69 rfl (fun z2=>TO.fact 69 rfl fun HC=> ?_)
 have hzN:z2<N:=hN ▸ HC
 refine tp rfl (BV rfl underlying134 S3 (vl rfl) (vl rfl) (by omega) (by omega)) ?_
 refine TO.Dp 0 rfl rfl (Ay rfl rfl (vl rfl) (Vo rfl) S3 rfl (by rw [Fh (sz:=1) (fun _=>rfl)];omega) (E3 (f:=fun x:Bool=>[Cp.bool x]) (x:=true) (fun _=>rfl) (by omega))) ?_
 refine ap ?_
 refine Tr.weak [] trivial (Tr.seq ?_)
 refine Tr.FR (fun L:List Bool=>L.length=N) 0 rfl (by rw [List.length_set];exact xz) ?_
 refine ac ?_
 refine Tr.ret (Fin.RZ rfl rfl ?_ rfl ?_)
 · exact AG [] (AU (by simp) (AF 1))
 · exact AG _ (Lr)
 refine ac ?_
 refine Tr.seq (Tr.II 0 rfl fun dd3 x5=> ?_)
 refine ap ?_
 refine tp rfl (Ce (Ip (m:=l.length) hdr (by omega)) rfl rfl) ?_
 refine TO.ex 69 rfl (fun z3=>TO.fact 69 rfl fun hz3=> ?_)
 have hzN:z3<N:=hN ▸ hz3
 refine tp rfl (BV rfl underlying134 S3 (vl rfl) (vl rfl) (by omega) (by omega)) ?_
 refine TO.Dp 0 rfl rfl (Ay rfl rfl (vl rfl) (Vo rfl) S3 rfl (by rw [Fh (sz:=1) (fun _=>rfl)];omega) (E3 (f:=fun x:Bool=>[Cp.bool x]) (x:=true) (fun _=>rfl) (by omega))) ?_
 refine ap ?_
 refine Tr.weak [] trivial (Tr.seq ?_)
 refine Tr.FR (fun L:List Bool=>L.length=N) 0 rfl (by rw [List.length_set];exact x5) ?_
 refine ac ?_
 refine Tr.ret (Fin.RZ rfl rfl ?_ rfl ?_)
 · exact AG [] (AU (by simp) (AF 1))
 · exact AG _ (Lr)
theorem Sx {e:C0} {l:List BK} {n:Nat} {fr LG:Int} {b N:Nat} (hz:e.sz n) (hn:n≤800000) (hc:∀c∈l,c.Ck.fits∧c.Ck.small) (hN:2 ^ l.length=N) (hl:l.length≤10):∀(m:Nat) {so done:List Int},so.length+m=l.length→(∀i∈done,0≤i∧i<((l.length:Nat):Int))→done.length≤so.length→C2 Tryz.prog 51 [agg (Bw e),ER l,ints so,ints done,int fr,int LG,is (RK N b)] (EI [Sw,DW]) (Df b 4 (fun x:Bool=>[Cp.bool x]) (fun L:List Bool=>L.length=N) []) (fun _=>Df b 4 (fun x:Bool=>[Cp.bool x]) (fun L:List Bool=>L.length=N) [])
 |0,so,done,h1,h2,h3=>P7 hz hn hc hN hl h1 h2 h3 (fun m' h=>absurd h (by omega))
 |m+1,so,done,h1,h2,h3=>P7 hz hn hc hN hl h1 h2 h3 (fun m' h so' done' g1 g2 g3=>by
  obtain rfl:m'=m:=by omega
  exact Sx hz hn hc hN hl m' g1 g2 g3)
theorem Ox {e:C0} {l:List BK} {n:Nat} {fr LG:Int} (hz:e.sz n) (hn:n≤800000) (hc:∀c∈l,c.Ck.fits∧c.Ck.small)  :Az prog 34 [agg (Bw e),ER l,int fr,int LG] (EI [Sw,anyI]):=by
 refine fo func34 rfl ⟨rfl,rfl⟩ fun M0 w0=>(Tr.C8 1 rfl fun Hz=> ?_)
 have hf:=hz.fits (by omega)
 refine a2 ?_
 refine co rfl (Ce (DA hf) rfl rfl) ?_
 refine an ?_ ?_<;>intro h1 q1
 refine ac ?_
 refine Tr.ret (Fin.AB (Fin.DN rfl (BE.CZ _ _) rfl ?_ rfl ?_))
 · exact AG [] (AU (by simp) (AF 1))
 · exact AG _ (Lr)
 refine ac ?_
 refine an ?_ ?_<;>intro h2 q2
 refine ac ?_
 refine Tr.ret (Fin.AB (Fin.DN rfl (BE.CZ _ _) rfl ?_ rfl ?_))
 · exact AG [] (AU (by simp) (AF 1))
 · exact AG _ (Lr)
 have s8:l.length≤10:=by have:=q2;omega
 obtain ⟨N,hN⟩:∃N,2 ^ l.length=N:=⟨_,rfl⟩
 have hN2:N≤1024:=by have:=Nat.pow_le_pow_right (n:=2) (by omega) s8;omega
 refine a2 ?_
 refine co rfl (CS (P6) rfl rfl rfl) (co rfl (Hg rfl (vl rfl)) ?_)
 refine ac ?_
 refine Tr.ex 22 rfl fun zT=> ?_
 refine Tr.cn rfl ?_ ?_<;>intro h3 q3
 refine ac ?_
 refine CY 8 9 rfl (Tr.ret (Fin.AB (Fin.DN rfl (BE.CZ _ _) rfl ?_ rfl ?_)))
 · exact AG [] (AU (by simp) (AF 1))
 · exact AG _ (Lr)
 refine ac ?_
 refine D7 1 2 3 4 rfl ?_
 refine ap ?_
 refine tp rfl (Ac.le (V7 rfl (vl rfl) (vl rfl) (by omega) (by omega)) (int_eq (b:=((N:Nat):Int)) (by rw [Int.toNat_natCast,hN]))) ?_
 refine TO.QN rfl rfl (by decide) rfl underlying134 S3 by4 z4 rfl (vl rfl) (vl rfl) (by unfold maxLen;omega) (by omega) (fun b1=> ?_)
 refine ap ?_
 refine Tr.seq (Tr.iN 0 (((List.replicate N false).map fun x:Bool=>[Cp.bool x]).flatten++[]) rfl Xa (Tr.FR (fun L:List Bool=>L.length=N) 0 rfl List.length_replicate ?_))
 refine ap ?_
 refine TO.Jv 0 rfl rfl (by decide) (Aw rfl rfl (by decide) rfl (Sx (so:=[]) (done:=[]) hz hn hc hN s8 l.length (by simp) (fun i hi=>by cases hi) (Nat.le_refl _)) ⟨ke rfl,ke rfl,⟨_,rfl,AF 1⟩,⟨_,rfl,AF 1⟩,ke rfl,ke rfl,ke rfl,trivial⟩) ?_
 refine ap ?_
 refine CY 11 12 rfl (Tr.seq (Tr.seq (Tr.ex 12 rfl fun x12=> ?_)))
 refine an ?_ ?_<;>intro h4 q4
 refine ac ?_
 refine Tr.ret (Fin.AB (Fin.DN rfl (BE.CZ _ _) rfl ?_ rfl ?_))
 · exact AG [] (AU (by simp) (AF 1))
 · exact AG _ (Lr)
 refine a2 ?_
 refine Tr.ret (Fin.DN rfl (BE.CZ _ _) rfl ?_ rfl ?_)
 · exact Lr
 · exact AG _ (Lr)
structure OT (m:Nat) (l:List BK) (r:List BS) (d:List Int):Prop where
 fit:Ud m l r d
 l7:l.length≤7
 ok:∀c∈l,c.Ck.fits∧c.Ck.small
 rl:r.length≤1000
abbrev V9 (m:Nat):Pr:=Cp.ex fun z:List BK×List BS×List Int=>fact (OT m z.1 z.2.1 z.2.2) (H6 z.1 z.2.1 z.2.2)
theorem Xb {m:Nat}:OT m [] [] []:=⟨⟨by decide,rfl,by decide,fun j y c h=>absurd h (by simp)⟩,by decide,(fun c h=>by cases h),by decide⟩
theorem EF {m:Nat}:Pr.le (agg [is (.slice none 0 0),is (.slice none 0 0),is (.slice none 0 0)]) (V9 m):=AG ([],[],[]) (AU Xb (Ar ⟨AF 8,AF 2,AF 1,trivial⟩))
theorem gR {e:C0} {c:A9} {l:List BK} {r:List BS} {fr:Int}:(∀x∈Kn e c l r fr,x∈l)∧(Kn e c l r fr).length≤l.length∧(MQ e c l r fr).length≤r.length:=by
 unfold Kn MQ
 by_cases h:Ik e c l r fr=0
 · rw [if_pos h,if_pos h];exact ⟨fun x h=>h,Nat.le_refl _,Nat.le_refl _⟩
 · rw [if_neg h,if_neg h];exact ⟨(fun x h=>by cases h),Nat.zero_le _,Nat.zero_le _⟩
abbrev s_:Pr:=Cp.ex fun z:List BS=>fact (z.length≤1000) (reqs z)
theorem Gd {e:C0} {c:A9} {l:List BK} {r:List BS} {n:Nat} {fr LG:Int} (hz:e.sz n) (hn:n≤800000) (hc:∀x∈l,x.Ck.fits∧x.Ck.small) (h7:l.length≤7) (hrl:r.length≤1000):Az prog 33 [agg (Bw e),Jj c,ER l,reqs r,Ko,OL,Q7,int fr,int LG] (EI [V9 e.BW.length,bN,DW]):=by
 refine fo func33 rfl ⟨rfl,rfl⟩ fun M0 w0=> ?_
 have hf:=hz.fits (by omega)
 obtain ⟨hs1,Rv,k7⟩:=gR (e:=e) (c:=c) (l:=l) (r:=r) (fr:=fr)
 have hcs:∀x∈Kn e c l r fr,x.Ck.fits∧x.Ck.small:=fun x hx=>hc x (hs1 x hx)
 refine Tr.seq (Tr.An ?_)
 iterate 4 refine tp rfl (BZ rfl (Va rfl)) ?_
 refine Tl rfl rfl rfl rfl z33 Ej (fun b1=> ?_)
 refine Tl rfl rfl rfl rfl Xj Fa (fun b2=> ?_)
 refine ao ?_
 refine ao ?_
 refine tp rfl (kc5 (Ow (e:=e) (c:=c) (l:=l) (r:=r) (fr:=fr) hf (fun x hx=>(hc x hx).2) (by omega)) rfl rfl rfl rfl rfl rfl) ?_
 refine ao ?_
 refine Tl rfl rfl rfl rfl z33 Ej (fun b3=> ?_)
 refine sf 0 21 ⟨rfl,rfl,rfl⟩ rfl rfl rfl rfl ?_
 refine ao ?_
 refine G0 5 7 8 9 13 15 18 19 21 22 rfl ?_
 refine an ?_ ?_<;>intro h1 q1
 refine ao ?_
 refine TO.AK 1 rfl rfl rfl (vl rfl) (Va rfl) rfl B2 rfl rfl (TO.AK 0 rfl rfl rfl (vl rfl) (Va rfl) rfl CA rfl rfl ?_)
 refine ao ?_
 refine CR 18 19 20 rfl (Tr.ret (Fin.AB (Fin.ES rfl (AP.cell 1 rfl rfl CV B2 rfl (Lr)) (AP.cell 0 rfl rfl Cj CA rfl (Lr)) (AP.tmp rfl (Lr)) ?_)))
 refine Am ⟨?_,?_,?_,trivial⟩
 · exact EF
 · exact Ci
 · exact AG _ (Lr)
 refine ac ?_
 refine ao ?_
 refine tp rfl (Yz (XX (l:=(Kn e c l r fr)) (r:=(MQ e c l r fr)) (d:=(On e c l r fr)) hz hn hcs (by omega)) rfl rfl rfl rfl rfl) ?_
 refine TO.ex 43 rfl (fun z1=>TO.fact 43 rfl fun FM=> ?_)
 refine ao ?_
 refine Tl rfl rfl rfl rfl Xj Fa (fun b4=> ?_)
 refine sf 0 23 ⟨rfl,rfl,rfl⟩ rfl rfl rfl rfl ?_
 refine ao ?_
 refine Oe 5 9 13 15 18 19 21 22 23 rfl ?_
 refine an ?_ ?_<;>intro h2 q2
 refine ao ?_
 refine TO.AK 1 rfl rfl rfl (vl rfl) (Va rfl) rfl B2 rfl rfl (TO.AK 0 rfl rfl rfl (vl rfl) (Va rfl) rfl CA rfl rfl ?_)
 refine ao ?_
 refine CR 18 19 20 rfl (Tr.ret (Fin.AB (Fin.ES rfl (AP.cell 1 rfl rfl CV B2 rfl (Lr)) (AP.cell 0 rfl rfl Cj CA rfl (Lr)) (AP.tmp rfl (Lr)) ?_)))
 refine Am ⟨?_,?_,?_,trivial⟩
 · exact EF
 · exact Ci
 · exact AG _ (Lr)
 have hz0:z1=0:=by have:=q2;omega
 obtain ⟨_,gQ⟩:=FM hz0
 have hpq:OT e.BW.length (Kn e c l r fr) (MQ e c l r fr) (On e c l r fr):=⟨gQ,by omega,hcs,by omega⟩
 refine ac ?_
 refine ao ?_
 refine tp rfl (kc5 (Ui (l:=(Kn e c l r fr)) (r:=(MQ e c l r fr)) (d:=(On e c l r fr)) hz hn hcs (by omega)) rfl rfl rfl rfl rfl rfl) ?_
 refine TO.ex 56 rfl (fun z2=>TO.fact 56 rfl fun HC=> ?_)
 refine ao ?_
 refine Jw 18 19 21 22 23 24 rfl (Tr.seq ?_)
 by_cases HC:z2.2=0
 refine Tr.rx ?_
 refine ay ?_
 refine Cx.yes rfl rfl rfl (by simp [HC]) rfl (by decide) (fun _=>EJ rfl (vl rfl)) (Cx.yes rfl rfl rfl (by simp [HC]) rfl (by decide) (fun _=>BF rfl underlying22 (vl rfl)) (Cx.yes rfl rfl rfl (by simp [HC]) rfl (by decide) (fun _=>ki rfl rfl rfl rfl) (xo rfl (fun _=>Ir rfl (vl rfl) (by simp [HC]) (vl rfl)) ?_)))
 refine ay ?_
 refine Cx.nil ⟨by kernel_rfl,?_⟩
 refine BQ.done VE (Fin.go (CR 18 19 20 rfl (Tr.ret (Fin.ES rfl (AP.cell 1 rfl rfl CV B2 rfl (Lr)) (AP.cell 0 rfl rfl Cj CA rfl (Lr)) (AP.tmp rfl (Lr)) ?_))))
 refine Am ⟨?_,?_,?_,trivial⟩
 · exact AG (Kn e c l r fr,MQ e c l r fr,On e c l r fr) (AU hpq (Lr))
 · exact Lr
 · exact AG _ (Lr)
 refine Tr.rx ?_
 refine ay ?_
 refine Cx.no rfl rfl rfl (BG (by simp [HC])) rfl (by decide) (Cx.no rfl rfl rfl (BG (by simp [HC])) rfl (by decide) (Cx.no rfl rfl rfl (BG (by simp [HC])) rfl (by decide) (xo rfl (fun _=>Is rfl (vl rfl) (by simp [HC]) (vl rfl)) ?_)))
 refine ay ?_
 refine Cx.nil ⟨by kernel_rfl,?_⟩
 refine BQ.done VE (Fin.go (CR 18 19 20 rfl (Tr.ret (Fin.ES rfl (AP.cell 1 rfl rfl CV B2 rfl (Lr)) (AP.cell 0 rfl rfl Cj CA rfl (Lr)) (AP.tmp rfl (Lr)) ?_))))
 refine Am ⟨?_,?_,?_,trivial⟩
 · exact AG (Kn e c l r fr,MQ e c l r fr,On e c l r fr) (AU hpq (Lr))
 · exact Lr
 · exact AG _ (Lr)
theorem Iq {o:List Int} (ho:o.length≤1000):Az Tryz.prog 35 [ints o] s_:=(UT ho).le (fun _ _ _ h=>h) (fun M w v ⟨z,hz,h⟩=>⟨z,Nat.le_trans hz ho,h⟩)
theorem P8 {n:Nat} (hn:n≤1000):Az Tryz.prog 36 [int ((n:Nat):Int)] Sw:=(bI hn).le (fun _ _ _ h=>h) (fun M w v ⟨z,hz,h⟩=>⟨z,Nat.le_trans hz hn,h⟩)
theorem bO {c:A9} {l:List BK} (h:Dj c l=0):∀x∈l,0≤x.AV∧x.AV<(c.HY.length:Nat):=fun x hx=>by
 have hb:=(OE h).2 x hx
 unfold Kl at hb
 rw [Bool.or_eq_false_iff,decide_eq_false_iff_not,decide_eq_false_iff_not] at hb
 omega
theorem bP {e:C0} {l:List BK} (h:l.length≤24):(gO e l).length≤1000:=by
 have h1:=OR e l l.length
 have h2:=Nat.mul_le_mul h h
 unfold gO;omega
theorem Xc {e:C0} {c:A9} {l:List BK} {n:Nat} {fr LG:Int} (hz:e.sz n) (hn:n≤800000) (hc:∀x∈l,x.Ck.fits∧x.Ck.small) (h7:l.length≤7):Az prog 12 [agg (Bw e),Jj c,ER l,Ko,OL,Q7,int fr,int LG] (EI [V9 e.BW.length,bN,anyI]):=by
 refine Az.of func12 rfl rfl (by exact Nb rfl) fun M0 w0=> ?_
 have hf:=hz.fits (by omega)
 refine Tr.seq (Tr.An ?_)
 iterate 4 refine tp rfl (BZ rfl (Va rfl)) ?_
 refine Tl rfl rfl rfl rfl z33 Ej (fun b1=> ?_)
 refine Tl rfl rfl rfl rfl Xj Fa (fun b2=> ?_)
 refine tm rfl (TO.nil (Fin.go (Tr.seq (Tr.seq (Tr.AW (co rfl (AR rfl Cu Ct (vl rfl) rfl rfl) (co rfl (AQ rfl (DA hf) ⟨ke rfl,trivial⟩) (co rfl (ki rfl rfl rfl rfl) (Ch.nil (Fin.go ?_))))))))))
 refine Tr.cn rfl ?_ ?_<;>intro h1 q1
 refine Tr.seq (Tr.An (tp rfl (Ai (rows:=[]) rfl K_ Ej trivial rfl) (tp rfl (Ai (rows:=[]) rfl MK Fa trivial rfl) (TO.AK 1 rfl rfl rfl (vl rfl) (Va rfl) rfl B2 rfl rfl (TO.AK 0 rfl rfl rfl (vl rfl) (Va rfl) rfl CA rfl rfl (tm rfl (TO.nil (Fin.go (CR 16 17 18 rfl (Tr.ret (Fin.AB (Fin.ES rfl (AP.cell 1 rfl rfl CV B2 rfl (Lr)) (AP.cell 0 rfl rfl Cj CA rfl (Lr)) (AP.tmp rfl (Lr)) ?_))))))))))))
 refine Am ⟨?_,?_,?_,trivial⟩
 · exact EF
 · exact Ci
 · exact AG _ (Lr)
 have Qa:EY e=true:=by cases h_:EY e with|true=>rfl|false=>exact absurd h1 (by rw [h_];decide)
 refine Tr.skip (Fin.go (Tr.seq (Tr.seq (Tr.AW (co rfl (AR rfl Ls Ri (vl rfl) rfl rfl) (co rfl (Kt rfl HQ rfl rfl) (co rfl (DQ rfl PD rfl) (co rfl (BF rfl underlying25 (vl rfl)) ?_))))))))
 refine co rfl (AQ rfl (Ib (c:=c) (m:=((e.BW.length:Nat):Int))) ⟨ke rfl,ke rfl,trivial⟩) ?_
 refine cm rfl (Ch.nil (Fin.go (EO 2 4 6 7 8 9 11 13 16 17 19 rfl (Tr.seq (Tr.AW (cm rfl (co rfl (ki rfl rfl rfl rfl) (Ch.nil (Fin.go ?_)))))))))
 refine Tr.cn rfl ?_ ?_<;>intro h2 q2
 refine Tr.seq (Tr.An (tp rfl (Ai (rows:=[]) rfl K_ Ej trivial rfl) (tp rfl (Ai (rows:=[]) rfl MK Fa trivial rfl) (tm rfl (TO.AK 1 rfl rfl rfl (vl rfl) (Va rfl) rfl B2 rfl rfl (TO.AK 0 rfl rfl rfl (vl rfl) (Va rfl) rfl CA rfl rfl (tm rfl (TO.nil (Fin.go (CR 16 17 18 rfl (Tr.ret (Fin.AB (Fin.ES rfl (AP.cell 1 rfl rfl CV B2 rfl (Lr)) (AP.cell 0 rfl rfl Cj CA rfl (Lr)) (AP.tmp rfl (Lr)) ?_)))))))))))))
 refine Am ⟨?_,?_,?_,trivial⟩
 · exact EF
 · exact Ci
 · exact AG _ (Lr)
 have mC:c.check ((e.BW.length:Nat):Int)=0:=by simpa using h2
 obtain ⟨how,htl,hth⟩:=Pt mC
 refine Tr.skip (Fin.go (Tr.seq (Tr.seq (Tr.AW (co rfl (AR rfl Ls Ri (vl rfl) rfl rfl) (cm rfl ?_))))))
 refine co rfl (AQ rfl (OS (c:=c) (l:=l) how) ⟨ke rfl,ke rfl,trivial⟩) ?_
 refine cm rfl (co rfl (BA rfl (vl rfl) rfl) (co rfl (BA rfl (vl rfl) rfl) (cm rfl (cm rfl (Ch.nil (Fin.go (EO 2 4 6 7 8 9 11 13 16 17 21 rfl (Tr.seq (Tr.AW (cm rfl (co rfl (ki rfl rfl rfl rfl) (Ch.nil (Fin.go ?_)))))))))))))
 refine Tr.cn rfl ?_ ?_<;>intro h3 q3
 refine Tr.seq (Tr.An (tp rfl (Ai (rows:=[]) rfl K_ Ej trivial rfl) (tp rfl (Ai (rows:=[]) rfl MK Fa trivial rfl) (tm rfl (TO.AK 1 rfl rfl rfl (vl rfl) (Va rfl) rfl B2 rfl rfl (TO.AK 0 rfl rfl rfl (vl rfl) (Va rfl) rfl CA rfl rfl (tm rfl (TO.nil (Fin.go (CR 16 17 18 rfl (Tr.ret (Fin.AB (Fin.ES rfl (AP.cell 1 rfl rfl CV B2 rfl (Lr)) (AP.cell 0 rfl rfl Cj CA rfl (Lr)) (AP.tmp rfl (Lr)) ?_)))))))))))))
 refine Am ⟨?_,?_,?_,trivial⟩
 · exact EF
 · exact Ci
 · exact AG _ (Lr)
 have hep:=bO (c:=c) (l:=l) (by simpa using h3)
 refine Tr.skip (Fin.go (Tr.seq (Tr.seq (Tr.AW (co rfl (AR rfl PF WQ (vl rfl) rfl rfl) (cm rfl (co rfl (AQ rfl (Il) ⟨ke rfl,ke rfl,ke rfl,trivial⟩) (cm rfl (Ch.nil (Fin.go (EO 2 4 6 7 8 9 11 13 16 17 22 rfl (Tr.seq (Tr.ex 22 rfl fun x22=>(Tr.AW ?_))))))))))))))
 refine cm rfl (co rfl (ki rfl rfl rfl rfl) (Ch.nil (Fin.go ?_)))
 refine Tr.cn rfl ?_ ?_<;>intro h4 q4
 refine Tr.seq (Tr.An (tp rfl (Ai (rows:=[]) rfl K_ Ej trivial rfl) (tp rfl (Ai (rows:=[]) rfl MK Fa trivial rfl) (tm rfl (TO.AK 1 rfl rfl rfl (vl rfl) (Va rfl) rfl B2 rfl rfl (TO.AK 0 rfl rfl rfl (vl rfl) (Va rfl) rfl CA rfl rfl (tm rfl (TO.nil (Fin.go (CR 16 17 18 rfl (Tr.ret (Fin.AB (Fin.ES rfl (AP.cell 1 rfl rfl CV B2 rfl (Lr)) (AP.cell 0 rfl rfl Cj CA rfl (Lr)) (AP.tmp rfl (Lr)) ?_)))))))))))))
 refine Am ⟨?_,?_,?_,trivial⟩
 · exact EF
 · exact Ci
 · exact AG _ (Lr)
 refine Tr.skip (Fin.go (Tr.seq (Tr.seq (Tr.AW (cm rfl (cm rfl (co rfl (AQ rfl (P6) ⟨ke rfl,ke rfl,trivial⟩) (co rfl (Hg rfl (vl rfl)) (Ch.nil (Fin.go (EO 2 4 6 7 8 9 11 13 16 17 73 rfl (Tr.ex 73 rfl fun zU=> ?_))))))))))))
 refine Tr.cn rfl ?_ ?_<;>intro h5 q5
 refine Tr.seq (Tr.An (tp rfl (Ai (rows:=[]) rfl K_ Ej trivial rfl) (tp rfl (Ai (rows:=[]) rfl MK Fa trivial rfl) (TO.AK 1 rfl rfl rfl (vl rfl) (Va rfl) rfl B2 rfl rfl (TO.AK 0 rfl rfl rfl (vl rfl) (Va rfl) rfl CA rfl rfl (tm rfl (TO.nil (Fin.go (CR 16 17 18 rfl (Tr.ret (Fin.AB (Fin.ES rfl (AP.cell 1 rfl rfl CV B2 rfl (Lr)) (AP.cell 0 rfl rfl Cj CA rfl (Lr)) (AP.tmp rfl (Lr)) ?_))))))))))))
 refine Am ⟨?_,?_,?_,trivial⟩
 · exact EF
 · exact Ci
 · exact AG _ (Lr)
 refine Tr.skip (Fin.go (Tr.seq (Tr.AW (co rfl (AR rfl Cu Ct (vl rfl) rfl rfl) (cm rfl ?_)))))
 refine co rfl (AQ rfl (Sq hf Qa (by omega) (fun x hx=>by have:=hep x hx;omega)) ⟨ke rfl,ke rfl,trivial⟩) ?_
 refine cm rfl (co rfl (BA rfl (vl rfl) rfl) (co rfl (BA rfl (vl rfl) rfl) (cm rfl (cm rfl (Ch.nil (Fin.go (EO 2 4 6 7 8 9 11 13 16 17 23 rfl (Tr.seq (Tr.seq (Tr.An (tp rfl (AR rfl Cu Ct (vl rfl) rfl rfl) (tp rfl (AR rfl Ls Ri (vl rfl) rfl rfl) (tm rfl ?_)))))))))))))
 refine tm rfl (tp rfl (AR rfl PF WQ (vl rfl) rfl rfl) (tm rfl (tp rfl (AR rfl Rj YV (vl rfl) rfl rfl) (tm rfl (tm rfl ?_)))))
 refine tp rfl (AQ rfl (Gd (e:=e) (c:=c) (l:=l) (r:=gO e l) hz hn hc (by omega) (bP (by omega))) ⟨ke rfl,ke rfl,ke rfl,ke rfl,ke rfl,ke rfl,ke rfl,ke rfl,ke rfl,trivial⟩) ?_
 refine tm rfl (tp rfl (BA rfl (vl rfl) rfl) ?_)
 refine TO.ex 93 rfl (fun p1=>TO.fact 93 rfl fun R5=> ?_)
 refine tp rfl (BA rfl (vl rfl) rfl) (tp rfl (BA rfl (vl rfl) rfl) ?_)
 refine Tl rfl rfl rfl rfl z33 Ej (fun b3=> ?_)
 refine Tl rfl rfl rfl rfl Xj Fa (fun b4=> ?_)
 refine TO.AK 1 rfl rfl rfl (vl rfl) (Va rfl) rfl B2 rfl rfl (TO.freeze 1 25 rfl rfl (TO.AK 0 rfl rfl rfl (vl rfl) (Va rfl) rfl CA rfl rfl (TO.freeze 0 26 rfl rfl (tm rfl (TO.nil (Fin.go (J_ 2 4 6 7 8 9 11 13 16 17 25 26 27 rfl (Tr.seq (Tr.AW (cm rfl (Ch.nil (Fin.go (J_ 2 4 6 7 8 9 11 13 16 17 25 26 96 rfl (Tr.ex 96 rfl fun zV=> ?_))))))))))))))
 refine Tr.cn rfl ?_ ?_<;>intro h6 q6
 refine Tr.seq (Tr.IB mixed [none,none,some (0,1,true,0),some (0,0,true,0),none] (by kernel_rfl) (xo rfl (fun _=>AR rfl CV B2 (vl rfl) rfl rfl) (xo rfl (fun _=>AR rfl Cj CA (vl rfl) rfl rfl) (Cx.Dp 1 rfl rfl (Ay rfl rfl (vl rfl) (Va rfl) B2 rfl (by exact Nb rfl) rfl) (Cx.Dp 0 rfl rfl (Ay rfl rfl (vl rfl) (Va rfl) CA rfl (by exact Nb rfl) rfl) (xm rfl ?_))))))
 refine Cx.nil ⟨rfl,?_⟩
 refine BQ.done (BC.cons (BC.cons (BC.map _))) (Fin.go (CR 16 17 18 rfl (Tr.ret (Fin.AB (Fin.ES rfl (AP.cell 1 rfl rfl CV B2 rfl (Lr)) (AP.cell 0 rfl rfl Cj CA rfl (Lr)) (AP.tmp rfl (Lr)) ?_)))))
 refine Am ⟨?_,?_,?_,trivial⟩
 · exact AG _ (AU (by assumption) (Lr))
 · exact Lr
 · exact AG _ (Lr)
 refine Tr.skip (Fin.go (G0 2 4 6 7 8 9 11 13 16 17 rfl (Tr.seq (Tr.seq (Tr.AW (cm rfl (co rfl (BF rfl underlying30 (vl rfl)) (co rfl (ki rfl rfl rfl rfl) (Ch.nil (Fin.go ?_))))))))))
 refine Tr.cn rfl ?_ ?_<;>intro h7 q7
 refine Tr.seq (Tr.An (tp rfl (Ai (rows:=[]) rfl K_ Ej trivial rfl) (tp rfl (Ai (rows:=[]) rfl MK Fa trivial rfl) (TO.AK 1 rfl rfl rfl (vl rfl) (Va rfl) rfl B2 rfl rfl (TO.AK 0 rfl rfl rfl (vl rfl) (Va rfl) rfl CA rfl rfl (tm rfl (TO.nil (Fin.go (CR 16 17 18 rfl (Tr.ret (Fin.AB (Fin.ES rfl (AP.cell 1 rfl rfl CV B2 rfl (Lr)) (AP.cell 0 rfl rfl Cj CA rfl (Lr)) (AP.tmp rfl (Lr)) ?_))))))))))))
 refine Am ⟨?_,?_,?_,trivial⟩
 · exact EF
 · exact Ci
 · exact AG _ (Lr)
 refine Tr.skip (Fin.go (Tr.seq (Tr.seq (Tr.AW (co rfl (AR rfl Cu Ct (vl rfl) rfl rfl) (cm rfl (cm rfl (cm rfl (co rfl (AQ rfl (Ox hz hn hc) ⟨ke rfl,ke rfl,ke rfl,ke rfl,trivial⟩) (cm rfl (co rfl (BA rfl (vl rfl) rfl) (co rfl (BA rfl (vl rfl) rfl) (cm rfl ?_)))))))))))))
 refine cm rfl (Ch.nil (Fin.go (ND 2 4 6 7 8 9 11 13 16 17 28 29 rfl (Tr.seq (Tr.ex 29 rfl fun x29=>(Tr.AW (cm rfl (co rfl (ki rfl rfl rfl rfl) (Ch.nil (Fin.go (ND 2 4 6 7 8 9 11 13 16 17 28 113 rfl ?_)))))))))))
 refine Tr.cn rfl ?_ ?_<;>intro h8 q8
 refine Tr.seq (Tr.ex 28 rfl fun sq=>(Tr.fact 28 rfl fun hsq=>(Tr.pad (Tr.pad (Tr.IB mixed [none,none,none,none,none,none,none,none,none,none,none,none,none,none,none,some (0,0,true,30),some (0,1,true,31),some (30,0,true,30),some (31,1,true,31),none] (by kernel_rfl) (xo rfl (fun _=>AR rfl Cu Ct (vl rfl) rfl rfl) (xo rfl (fun _=>AR rfl Ls Ri (vl rfl) rfl rfl) (xm rfl (xm rfl (xo rfl (fun _=>AQ rfl (Iq hsq) ⟨ke rfl,trivial⟩) (xo rfl (fun _=>AR rfl PF WQ (vl rfl) rfl rfl) (xm rfl (xo rfl (fun _=>AR rfl Rj YV (vl rfl) rfl rfl) ?_)))))))))))))
 refine xm rfl (xm rfl ?_)
 refine xo rfl (fun _=>AQ rfl (Az.bK [agg (Bw e),Jj c,ER l] ([]:List BS) (by simp) fun z gS=>Gd (e:=e) (c:=c) (l:=l) (r:=z) hz hn hc (by omega) gS) ⟨ke rfl,ke rfl,ke rfl,ke rfl,ke rfl,ke rfl,ke rfl,ke rfl,ke rfl,trivial⟩) ?_
 refine xm rfl (xo rfl (fun _=>BA rfl (vl rfl) rfl) (xo rfl (fun _=>BA rfl (vl rfl) rfl) (xo rfl (fun _=>BA rfl (vl rfl) rfl) (Cx.ef 0 rfl rfl (by decide) (CX rfl rfl (by decide) rfl z33 Ej) (Cx.ef 1 rfl rfl (by decide) (CX rfl rfl (by decide) rfl Xj Fa) (Cx.Dp 0 rfl rfl (I9 (f:=fun z:List BK×List BS×List Int=>[ER z.1,reqs z.2.1,ints z.2.2]) (φ:=fun z:List BK×List BS×List Int=>OT e.BW.length z.1 z.2.1 z.2.2) rfl rfl rfl (by decide) rfl rfl B2 (fun _=>rfl) rfl) (Cx.Dp 1 rfl rfl (DH rfl rfl rfl rfl (Va rfl) CA rfl rfl) (xm rfl ?_))))))))
 refine Cx.nil ⟨rfl,?_⟩
 refine BQ.open_ 0 30 rfl rfl (fun v1=> ?_)
 refine BQ.open_ 1 31 rfl rfl (fun v2=> ?_)
 refine BQ.done (BC.cons (BC.cons (BC.cons (BC.cons (BC.map _))))) (Fin.K5 30 0 _ rfl rfl (fun _=>rfl) (fun b5=> ?_))
 refine Fin.V8 0 rfl (fun pe1 tA=> ?_)
 refine Fin.K5 31 1 _ rfl rfl (fun _=>rfl) (fun b6=> ?_)
 refine Fin.go (J_ 2 4 6 7 8 9 11 13 16 17 30 31 32 rfl (Tr.seq (Tr.AW (cm rfl (Ch.nil (Fin.go (J_ 2 4 6 7 8 9 11 13 16 17 30 31 129 rfl (Tr.ex 129 rfl fun yZ=> ?_))))))))
 refine Tr.cn rfl ?_ ?_<;>intro h9 q9
 refine Tr.seq (Tr.IB mixed [some (0,0,false,0),some (0,1,false,0),some (0,3,true,0),some (0,2,true,0),none] (by kernel_rfl) (H9 0 rfl rfl (B_ rfl CV B2 (vl rfl) rfl rfl) (H9 1 rfl rfl (B_ rfl Cj CA (vl rfl) rfl rfl) (Cx.Dp 3 rfl rfl (Ay rfl rfl (vl rfl) (Va rfl) B2 rfl (by exact Nb rfl) rfl) (Cx.Dp 2 rfl rfl (Ay rfl rfl (vl rfl) (Va rfl) CA rfl (by exact Nb rfl) rfl) (xm rfl ?_))))))
 refine Cx.nil ⟨rfl,?_⟩
 refine BQ.done (BC.cons (BC.cons (BC.cons (BC.cons (BC.map _))))) (Fin.go (Tr.drop 0 (Tr.drop 0 (CR 16 17 18 rfl (Tr.ret (Fin.AB (Fin.ES rfl (AP.cell 1 rfl rfl CV B2 rfl (Lr)) (AP.cell 0 rfl rfl Cj CA rfl (Lr)) (AP.tmp rfl (Lr)) ?_)))))))
 refine Am ⟨?_,?_,?_,trivial⟩
 · exact AG _ (AU (by assumption) (Lr))
 · exact Lr
 · exact AG _ (Lr)
 refine Tr.skip (Fin.go (Tr.drop 0 (Tr.drop 0 (G0 2 4 6 7 8 9 11 13 16 17 rfl (Tr.seq (Tr.seq (Tr.pad (Tr.pad (Tr.IB mixed [none,none,none,none,none,none,none,none,none,none,none,none,none,none,none,none,none,some (0,0,true,33),some (0,1,true,34),some (33,0,true,33),some (34,1,true,34),none] (by kernel_rfl) (xo rfl (fun _=>AR rfl Cu Ct (vl rfl) rfl rfl) (xo rfl (fun _=>AR rfl Ls Ri (vl rfl) rfl rfl) (xm rfl (xm rfl ?_)))))))))))))
 refine xo rfl (fun _=>BF rfl underlying30 (vl rfl)) ?_
 refine xo rfl (fun _=>AQ rfl (P8 (n:=l.length) (by omega)) ⟨ke rfl,trivial⟩) ?_
 refine xo rfl (fun _=>AQ rfl (Az.bK [] [] (Nat.zero_le _) fun z gS=>Iq gS) ⟨ke rfl,trivial⟩) (xo rfl (fun _=>AR rfl PF WQ (vl rfl) rfl rfl) (xm rfl (xo rfl (fun _=>AR rfl Rj YV (vl rfl) rfl rfl) (xm rfl (xm rfl ?_)))))
 refine xo rfl (fun _=>AQ rfl (Az.bK [agg (Bw e),Jj c,ER l] ([]:List BS) (by simp) fun z gS=>Gd (e:=e) (c:=c) (l:=l) (r:=z) hz hn hc (by omega) gS) ⟨ke rfl,ke rfl,ke rfl,ke rfl,ke rfl,ke rfl,ke rfl,ke rfl,ke rfl,trivial⟩) ?_
 refine xm rfl (xo rfl (fun _=>BA rfl (vl rfl) rfl) (xo rfl (fun _=>BA rfl (vl rfl) rfl) (xo rfl (fun _=>BA rfl (vl rfl) rfl) (Cx.ef 0 rfl rfl (by decide) (CX rfl rfl (by decide) rfl z33 Ej) (Cx.ef 1 rfl rfl (by decide) (CX rfl rfl (by decide) rfl Xj Fa) (Cx.Dp 0 rfl rfl (I9 (f:=fun z:List BK×List BS×List Int=>[ER z.1,reqs z.2.1,ints z.2.2]) (φ:=fun z:List BK×List BS×List Int=>OT e.BW.length z.1 z.2.1 z.2.2) rfl rfl rfl (by decide) rfl rfl B2 (fun _=>rfl) rfl) (Cx.Dp 1 rfl rfl (DH rfl rfl rfl rfl (Va rfl) CA rfl rfl) (xm rfl ?_))))))))
 refine Cx.nil ⟨rfl,?_⟩
 refine BQ.open_ 0 33 rfl rfl (fun v3=> ?_)
 refine BQ.open_ 1 34 rfl rfl (fun v4=> ?_)
 refine BQ.done (BC.cons (BC.cons (BC.cons (BC.cons (BC.map _))))) (Fin.K5 33 0 _ rfl rfl (fun _=>rfl) (fun b7=> ?_))
 refine Fin.V8 0 rfl (fun pe2 zW=> ?_)
 refine Fin.K5 34 1 _ rfl rfl (fun _=>rfl) (fun b8=> ?_)
 refine Fin.go (JV 16 17 33 34 35 rfl (Tr.seq (Tr.AW (cm rfl (Ch.nil (Fin.go (Tr.ex 149 rfl fun tB=> ?_)))))))
 refine Tr.cn rfl ?_ ?_<;>intro h10 Oa
 refine Tr.seq (Tr.IB mixed [some (0,0,false,0),some (0,1,false,0),some (0,3,true,0),some (0,2,true,0),none] (by kernel_rfl) (H9 0 rfl rfl (B_ rfl CV B2 (vl rfl) rfl rfl) (H9 1 rfl rfl (B_ rfl Cj CA (vl rfl) rfl rfl) (Cx.Dp 3 rfl rfl (Ay rfl rfl (vl rfl) (Va rfl) B2 rfl (by exact Nb rfl) rfl) (Cx.Dp 2 rfl rfl (Ay rfl rfl (vl rfl) (Va rfl) CA rfl (by exact Nb rfl) rfl) (xm rfl ?_))))))
 refine Cx.nil ⟨rfl,?_⟩
 refine BQ.done (BC.cons (BC.cons (BC.cons (BC.cons (BC.map _))))) (Fin.go (Tr.drop 0 (Tr.drop 0 (Tr.ret (Fin.AB (Fin.ES rfl (AP.cell 1 rfl rfl CV B2 rfl (Lr)) (AP.cell 0 rfl rfl Cj CA rfl (Lr)) (AP.tmp rfl (Lr)) ?_))))))
 refine Am ⟨?_,?_,?_,trivial⟩
 · exact AG _ (AU (by assumption) (Lr))
 · exact Lr
 · exact AG _ (Lr)
 refine Tr.skip (Fin.go (Tr.drop 0 (Tr.drop 0 (Tr.seq (Tr.An (tp rfl (Ai (rows:=[]) rfl K_ Ej trivial rfl) (tp rfl (Ai (rows:=[]) rfl MK Fa trivial rfl) (TO.AK 1 rfl rfl rfl (vl rfl) (Va rfl) rfl B2 rfl rfl (TO.AK 0 rfl rfl rfl (vl rfl) (Va rfl) rfl CA rfl rfl (tm rfl (TO.nil (Fin.go (Tr.ret (Fin.ES rfl (AP.cell 1 rfl rfl CV B2 rfl (Lr)) (AP.cell 0 rfl rfl Cj CA rfl (Lr)) (AP.tmp rfl (Lr)) ?_))))))))))))))
 refine Am ⟨?_,?_,?_,trivial⟩
 · exact EF
 · exact Ci
 · exact AG _ (Lr)
 refine Tr.skip (Fin.go (Tr.seq (Tr.seq (Tr.pad (Tr.pad (Tr.IB mixed [none,none,none,none,none,none,none,none,none,none,none,none,none,none,none,none,none,some (0,0,true,33),some (0,1,true,34),some (33,0,true,33),some (34,1,true,34),none] (by kernel_rfl) (xo rfl (fun _=>AR rfl Cu Ct (vl rfl) rfl rfl) (xo rfl (fun _=>AR rfl Ls Ri (vl rfl) rfl rfl) (xm rfl (xm rfl (xo rfl (fun _=>BF rfl underlying30 (vl rfl)) ?_)))))))))))
 refine xo rfl (fun _=>AQ rfl (P8 (n:=l.length) (by omega)) ⟨ke rfl,trivial⟩) ?_
 refine xo rfl (fun _=>AQ rfl (Az.bK [] [] (Nat.zero_le _) fun z gS=>Iq gS) ⟨ke rfl,trivial⟩) (xo rfl (fun _=>AR rfl PF WQ (vl rfl) rfl rfl) (xm rfl (xo rfl (fun _=>AR rfl Rj YV (vl rfl) rfl rfl) (xm rfl (xm rfl ?_)))))
 refine xo rfl (fun _=>AQ rfl (Az.bK [agg (Bw e),Jj c,ER l] ([]:List BS) (by simp) fun z gS=>Gd (e:=e) (c:=c) (l:=l) (r:=z) hz hn hc (by omega) gS) ⟨ke rfl,ke rfl,ke rfl,ke rfl,ke rfl,ke rfl,ke rfl,ke rfl,ke rfl,trivial⟩) ?_
 refine xm rfl (xo rfl (fun _=>BA rfl (vl rfl) rfl) (xo rfl (fun _=>BA rfl (vl rfl) rfl) (xo rfl (fun _=>BA rfl (vl rfl) rfl) (Cx.ef 0 rfl rfl (by decide) (CX rfl rfl (by decide) rfl z33 Ej) (Cx.ef 1 rfl rfl (by decide) (CX rfl rfl (by decide) rfl Xj Fa) (Cx.Dp 0 rfl rfl (I9 (f:=fun z:List BK×List BS×List Int=>[ER z.1,reqs z.2.1,ints z.2.2]) (φ:=fun z:List BK×List BS×List Int=>OT e.BW.length z.1 z.2.1 z.2.2) rfl rfl rfl (by decide) rfl rfl B2 (fun _=>rfl) rfl) (Cx.Dp 1 rfl rfl (DH rfl rfl rfl rfl (Va rfl) CA rfl rfl) (xm rfl ?_))))))))
 refine Cx.nil ⟨rfl,?_⟩
 refine BQ.open_ 0 33 rfl rfl (fun v5=> ?_)
 refine BQ.open_ 1 34 rfl rfl (fun v6=> ?_)
 refine BQ.done (BC.cons (BC.cons (BC.cons (BC.cons (BC.map _))))) (Fin.K5 33 0 _ rfl rfl (fun _=>rfl) (fun b9=> ?_))
 refine Fin.V8 0 rfl (fun pe3 zX=> ?_)
 refine Fin.K5 34 1 _ rfl rfl (fun _=>rfl) (fun b10=> ?_)
 refine Fin.go (JV 16 17 33 34 35 rfl (Tr.seq (Tr.AW (cm rfl (Ch.nil (Fin.go (Tr.ex 149 rfl fun tB=> ?_)))))))
 refine Tr.cn rfl ?_ ?_<;>intro h11 PR
 refine Tr.seq (Tr.IB mixed [some (0,0,false,0),some (0,1,false,0),some (0,3,true,0),some (0,2,true,0),none] (by kernel_rfl) (H9 0 rfl rfl (B_ rfl CV B2 (vl rfl) rfl rfl) (H9 1 rfl rfl (B_ rfl Cj CA (vl rfl) rfl rfl) (Cx.Dp 3 rfl rfl (Ay rfl rfl (vl rfl) (Va rfl) B2 rfl (by exact Nb rfl) rfl) (Cx.Dp 2 rfl rfl (Ay rfl rfl (vl rfl) (Va rfl) CA rfl (by exact Nb rfl) rfl) (xm rfl ?_))))))
 refine Cx.nil ⟨rfl,?_⟩
 refine BQ.done (BC.cons (BC.cons (BC.cons (BC.cons (BC.map _))))) (Fin.go (Tr.drop 0 (Tr.drop 0 (Tr.ret (Fin.AB (Fin.ES rfl (AP.cell 1 rfl rfl CV B2 rfl (Lr)) (AP.cell 0 rfl rfl Cj CA rfl (Lr)) (AP.tmp rfl (Lr)) ?_))))))
 refine Am ⟨?_,?_,?_,trivial⟩
 · exact AG _ (AU (by assumption) (Lr))
 · exact Lr
 · exact AG _ (Lr)
 refine Tr.skip (Fin.go (Tr.drop 0 (Tr.drop 0 (Tr.seq (Tr.An (tp rfl (Ai (rows:=[]) rfl K_ Ej trivial rfl) (tp rfl (Ai (rows:=[]) rfl MK Fa trivial rfl) (TO.AK 1 rfl rfl rfl (vl rfl) (Va rfl) rfl B2 rfl rfl (TO.AK 0 rfl rfl rfl (vl rfl) (Va rfl) rfl CA rfl rfl (tm rfl (TO.nil (Fin.go (Tr.ret (Fin.ES rfl (AP.cell 1 rfl rfl CV B2 rfl (Lr)) (AP.cell 0 rfl rfl Cj CA rfl (Lr)) (AP.tmp rfl (Lr)) ?_))))))))))))))
 refine Am ⟨?_,?_,?_,trivial⟩
 · exact EF
 · exact Ci
 · exact AG _ (Lr)
theorem mI (s:DS):s.of [1,0,3]=1∨s.of [1,0,3]=0∨s.of [1,0,3]=3:=by have:=s.NJ (l:=[1,0,3]) (by simp);simp at this;exact this
theorem V_ (s:DS) {k:Nat} (hk:k≤7):0≤((k:Nat):Int)*s.of [1,0,3]∧((k:Nat):Int)*s.of [1,0,3]≤21:=by rcases mI s with h|h|h<;>rw [h]<;>omega
theorem bQ {o:List Int} {x:Int} (h:∀y∈o,0≤y∧y≤40000) (hx:0≤x∧x≤40000):∀y∈o++[x],0≤y∧y≤40000:=fun y hy=>by
 rcases List.mem_append.1 hy with hy|hy
 · exact h y hy
 · rw [List.mem_singleton] at hy;subst hy;exact hx
theorem mJ {b:Nat} {s:DS}  :C2 prog 6 [ptr b 0] (Cp.ex fun e:C0=>fact (L2 e) (EI [agg (Bw e),V9 e.BW.length,DW])) (Cv b s) (fun _=>HP 61 b):=by
 refine C2.of func6 rfl rfl (by exact Nb rfl) fun M0 w0 S rs M1 w1=> ?_
 refine Tr.seq (Tr.An ?_)
 refine Tl rfl rfl rfl rfl z29 G1 (fun b1=> ?_)
 refine Tl rfl rfl rfl rfl z33 Ej (fun b2=> ?_)
 refine tm rfl (TO.nil (Fin.go (Tr.seq (Tr.An (tm rfl (TO.Jv 2 rfl rfl (by decide) (Aw rfl rfl (by decide) rfl (Ze) ⟨ke rfl,trivial⟩) ?_))))))
 refine TO.ex 13 rfl (fun z1=>TO.fact 13 rfl fun FM=> ?_)
 refine Tl rfl rfl rfl rfl z29 G1 (fun b3=> ?_)
 refine TO.AK 0 rfl rfl rfl (vl rfl) (Va rfl) rfl Ct rfl rfl (TO.freeze 0 5 rfl rfl (TO.nil (Fin.O_ 2 rfl (fun s1=> ?_))))
 refine Fin.go (Tr.seq (Tr.An (tm rfl (tp rfl (AR rfl Cu Ct (vl rfl) rfl rfl) ?_))))
 refine TO.Jv 2 rfl rfl (by decide) (Aw rfl rfl (by decide) rfl (ew (e:=z1) FM.snd ⟨by have:=FM.n2;omega,FM.n3⟩) ⟨ke rfl,ke rfl,trivial⟩) ?_
 refine TO.ex 16 rfl (fun z2=>TO.fact 16 rfl fun HC=> ?_)
 refine tm rfl (TO.nil (Fin.O_ 2 rfl (fun s2=> ?_)))
 refine Fin.go (JV 0 2 3 5 6 rfl (Tr.seq ?_))
 have Xw:∀x∈z2,x.Ck.fits∧x.Ck.small:=fun x hx=>⟨(HC.any x hx).fits,(HC.any x hx).small⟩
 have h7:=HC.len
 refine Tr.pad (Tr.pad (Tr.IB mixed [none,none,none,none,none,none,none,none,none,none,none,none,none,some (0,0,true,7),some (0,1,true,8),some (7,0,true,7),some (8,1,true,8),none] (by kernel_rfl) (xo rfl (fun _=>AR rfl Cu Ct (vl rfl) rfl rfl) (xo rfl (fun _=>Kt rfl HQ rfl rfl) (xo rfl (fun _=>DQ rfl PD rfl) (xo rfl (fun _=>BF rfl underlying25 (vl rfl)) ?_))))))
 refine xo rfl (fun _=>AQ rfl (mB (n:=z1.BW.length) (by have:=FM.n3;omega)) ⟨ke rfl,trivial⟩) ?_
 refine xm rfl (xo rfl (fun _=>Ai (rows:=[]) rfl vI vJ trivial rfl) (xo rfl (fun _=>Ai (rows:=[]) rfl vK vL trivial rfl) ?_))
 refine xo rfl (fun _=>AQ rfl (Xc (e:=z1) (c:=jC z1.BW.length) (l:=z2) FM.sz (by omega) Xw HC.len) ⟨ke rfl,ke rfl,ke rfl,⟨_,rfl,Ar ⟨AF 6,AF 2,trivial⟩⟩,⟨_,rfl,AF _⟩,⟨_,rfl,Ar ⟨AF 1,Lr,trivial⟩⟩,ke rfl,ke rfl,trivial⟩) ?_
 refine xm rfl (xo rfl (fun _=>BA rfl (vl rfl) rfl) (xo rfl (fun _=>BA rfl (vl rfl) rfl) (xo rfl (fun _=>BA rfl (vl rfl) rfl) (Cx.ef 0 rfl rfl (by decide) (CX rfl rfl (by decide) rfl z33 Ej) (Cx.ef 1 rfl rfl (by decide) (CX rfl rfl (by decide) rfl Xj Fa) (Cx.Dp 0 rfl rfl (I9 (f:=fun z:List BK×List BS×List Int=>[ER z.1,reqs z.2.1,ints z.2.2]) (φ:=fun z:List BK×List BS×List Int=>OT z1.BW.length z.1 z.2.1 z.2.2) rfl rfl rfl (by decide) rfl rfl B2 (fun _=>rfl) rfl) (Cx.Dp 1 rfl rfl (DH rfl rfl rfl rfl (Va rfl) CA rfl rfl) (xm rfl ?_))))))))
 refine Cx.nil ⟨rfl,?_⟩
 refine BQ.open_ 0 7 rfl rfl (fun v1=> ?_)
 refine BQ.open_ 1 8 rfl rfl (fun v2=> ?_)
 refine BQ.done (BC.cons (BC.cons (BC.cons (BC.cons (BC.cons (BC.cons (BC.map _))))))) (Fin.K5 7 0 _ rfl rfl (fun _=>rfl) (fun b4=> ?_))
 refine Fin.V8 0 rfl (fun pe1 tA=> ?_)
 refine Fin.K5 8 1 _ rfl rfl (fun _=>rfl) (fun b5=> ?_)
 refine Fin.go (Tr.drop 1 (I_ 0 2 3 5 6 7 9 rfl (Tr.seq (Tr.seq (Tr.ex 9 rfl fun x9=>(Tr.AW (cm rfl (co rfl (ki rfl rfl rfl rfl) (Ch.nil (Fin.go ?_))))))))))
 refine Tr.cn rfl ?_ ?_<;>intro h1 q1
 refine Tr.seq (Tr.IB mixed [none,some (0,0,false,0),some (0,2,true,0),some (0,1,true,0),none] (by kernel_rfl) (xo rfl (fun _=>AR rfl Cu Ct (vl rfl) rfl rfl) (H9 0 rfl rfl (B_ rfl CV B2 (vl rfl) rfl rfl) (Cx.Dp 2 rfl rfl (Ay rfl rfl (vl rfl) (Va rfl) Ct rfl (by exact Nb rfl) rfl) (Cx.Dp 1 rfl rfl (Ay rfl rfl (vl rfl) (Va rfl) B2 rfl (by exact Nb rfl) rfl) (xm rfl ?_))))))
 refine Cx.nil ⟨rfl,?_⟩
 refine BQ.done (BC.cons (BC.cons (BC.cons (BC.cons (BC.cons (BC.map _)))))) (Fin.go (Tr.drop 0 (Tr.ret (Fin.AB (Fin.Fv 2 _ rfl rfl (Fin.gw [_,_] rfl (AP.cell 1 rfl rfl Cu Ct rfl (Lr)) (AP.cell 0 rfl rfl CV B2 rfl (Lr)) (AP.tmp rfl (Lr)) ?_))))))
 · exact AG z1 (AU FM (Am ⟨Lr,AG pe1 (AU tA (Lr)),AG _ (Lr),trivial⟩))
 refine Tr.skip (Fin.go (Tr.drop 0 (Tr.seq (Tr.An (tm rfl (tm rfl (tm rfl (tp rfl (BF rfl underlying30 (vl rfl)) ?_))))))))
 refine TO.Jv 2 rfl rfl (by decide) (Aw rfl rfl (by decide) rfl (gM (n:=z2.length) (by have:=HC.len;omega)) ⟨ke rfl,ke rfl,trivial⟩) ?_
 refine TO.ex 38 rfl (fun z3=>TO.fact 38 rfl fun hz3=> ?_)
 revert z3
 intro rq fq
 refine tp rfl (Ai (rows:=[(0,[_]),(1,[_])]) rfl K_ Ej ⟨⟨rfl,(Vo rfl)⟩,⟨⟨rfl,(Vo rfl)⟩,trivial⟩⟩ rfl) ?_
 refine Tl rfl rfl rfl rfl z33 Ej (fun b6=> ?_)
 refine TO.AK 0 rfl rfl rfl (vl rfl) (Va rfl) rfl B2 rfl rfl (TO.nil (Fin.O_ 3 rfl (fun s3=> ?_)))
 refine Fin.go (Jw 0 2 3 5 6 10 rfl (Tr.seq (Tr.seq (Tr.AW (cm rfl (co rfl (BF rfl underlying30 (vl rfl)) (cm rfl (Ch.nil (Fin.go (Tr.block (Tr.IC 0 [ER z2,reqs rq,Ag (.slice none 0 0) (ints [])] rfl ⟨Lr,Lr,BX rfl,trivial⟩ (Tr.Bs 3 1 (Tr.Ec [(0,_),(2,_),(3,_),(5,_),(10,_),(41,_)] ⟨ke rfl,ke rfl,ke rfl,ke rfl,ke rfl,ke rfl,trivial⟩ (fun (k:Nat) (dd:List Int) (s2:DS) v=>[(42,int ((k:Nat):Int))]) (fun (k:Nat) (dd:List Int) (s2:DS) v=>Hp M0 w0 S (Ap 3 1 v::AE true b6 33 [ER z2,reqs rq,Ag v (ints dd)]::AE true b2 33 (([.slice none 0 0,.slice none 0 0,.slice none 0 0]:List Value).map is)::AE true b1 29 (([.slice none 0 0,.slice none 0 0,.slice none 0 0]:List Value).map is)::Cv b s2::At M1 w1::rs)) (fun (k:Nat) (dd:List Int) (s2:DS)=>(k≤z2.length∧dd.length=k)∧∀x∈dd,0≤x∧x≤40000) (fun (k:Nat) (dd:List Int) (s2:DS)=>z2.length-k) (0) ([]) (_) (.slice none 0 0) (⟨⟨Nat.zero_le _,rfl⟩,fun x h=>(by cases h)⟩) ⟨ke rfl,trivial⟩ (fun _ _ h=>h) ?_)))))))))))))
 rintro k dd s2 v ⟨⟨hk0,jA⟩,hdb⟩
 refine Tr.seq (Tr.AW (co rfl (ki rfl rfl rfl rfl) (Ch.nil (Fin.go (Tr.seq ?_)))))
 refine Tr.cn rfl ?_ ?_<;>intro h2 q2
 have hk:k<z2.length:=AH h2
 refine Tr.skip (Fin.go (Tr.seq (Tr.block (Tr.seq (Tr.AW (cm rfl (cm rfl (Ch.nil (Fin.go (Tr.pad (Tr.IB mixed [none,some (0,2,false,0),none,none,none,some (0,5,true,0),none,none,some (0,1,true,53),none,some (0,2,true,53)] (by kernel_rfl) (xo rfl (fun _=>Ae rfl IE (vl rfl)) (H9 2 rfl rfl (B4 rfl ID (vl rfl) rfl) ?_)))))))))))))
 refine xm rfl (xm rfl (xo rfl (fun _=>AL (xs:=[.const (.int .i64 (1)),.const (.int .i64 (0)),.const (.int .i64 (3))]) (rows:=[[_],[_],[_]]) rfl rfl underlying22 Bh z3 rfl (by decide) ⟨⟨(by exact rfl),(Vo rfl)⟩,⟨⟨(by exact rfl),(Vo rfl)⟩,⟨⟨(by exact rfl),(Vo rfl)⟩,trivial⟩⟩⟩ (by decide)) ?_))
 refine Cx.ef 5 rfl rfl (by decide) (Aw rfl rfl (by decide) rfl (Rw (l:=[1,0,3]) (by simp) (by simp)) ⟨ke rfl,(Kf rfl),trivial⟩) ?_
 refine xo rfl (fun _=>X7 rfl (vl rfl) (vl rfl) (by have:=V_ s2 (k:=k) (by omega);unfold K1;omega)) ?_
 refine xo rfl (fun _=>AL (xs:=[.tmp 51]) (rows:=[[_]]) rfl rfl underlying22 Bh z3 rfl (by decide) ⟨⟨(by exact rfl),(Vo rfl)⟩,trivial⟩ (by decide)) ?_
 refine Cx.ef 1 rfl rfl (by decide) (Bl rfl rfl rfl rfl underlying22 Bh Iu z3 (Kb rfl) (Kf rfl) (Aq (by exact List.Mem.head _) (Ka rfl))) ?_
 refine xo rfl (fun _=>Ae rfl IE (vl rfl)) (Cx.Dp 2 rfl rfl (Fg rfl rfl rfl (vl rfl) rfl K7 (by exact Nb rfl)) ?_)
 refine Cx.nil ⟨rfl,?_⟩
 refine BQ.PB 1 2 53 rfl rfl (by decide) rfl (fun v3=> ?_)
 refine BQ.done (BC.cons (BC.cons (BC.cons (BC.cons (BC.cons (BC.cons (BC.cons (BC.map _)))))))) (Fin.block (Fin.go (Tr.drop 0 (I_ 0 2 3 5 10 41 42 rfl (Tr.AW (GV rfl rfl rfl rfl (by omega) (cm rfl (Ch.nil ?_))))))))
 refine Fin.IC 1 [ER z2,reqs rq,Ag v3 (ints (dd++[(((k:Nat):Int)*s2.of [1,0,3])]))] rfl ⟨Lr,Lr,Au (by rw [List.map_append];rfl),trivial⟩ ?_
 exact Fin.DU (k+1) (dd++[(((k:Nat):Int)*s2.of [1,0,3])]) (_) v3 (⟨⟨⟨by omega,by simp;omega⟩,bQ hdb (by have:=V_ s2 (k:=k) (by omega);omega)⟩,by omega⟩) ⟨⟨_,rfl,AD k⟩,ke rfl,ke rfl,ke rfl,ke rfl,ke rfl,ke rfl,trivial⟩ (fun _ _ h=>h)
 have VR:=AJ h2
 refine Tr.exit (Fin.AS (Fin.AS (Fin.Ak (Fin.go (Tr.seq (Tr.IB mixed [none,some (0,1,false,0),some (0,3,true,0),some (0,2,true,0),none] (by kernel_rfl) (xo rfl (fun _=>AR rfl Cu Ct (vl rfl) rfl rfl) (H9 1 rfl rfl (B_ rfl CV B2 (vl rfl) rfl rfl) (Cx.Dp 3 rfl rfl (Ay rfl rfl (vl rfl) (Va rfl) Ct rfl (by exact Nb rfl) rfl) (Cx.Dp 2 rfl rfl (Ay rfl rfl (vl rfl) (Va rfl) B2 rfl (by exact Nb rfl) rfl) (xm rfl ?_)))))))))))
 refine Cx.nil ⟨rfl,?_⟩
 refine BQ.done (BC.cons (BC.cons (BC.cons (BC.cons (BC.cons (BC.cons (BC.map _))))))) (Fin.go (Tr.ret (Fin.Fv 4 _ rfl rfl (Fin.gw [_,_,_,_] rfl (AP.cell 3 rfl rfl Cu Ct rfl (Lr)) (AP.cell 2 rfl rfl CV B2 rfl (Lr)) (AP.tmp rfl (Lr)) ?_))))
 · exact AG z1 (AU FM (Am ⟨Lr,AG (z2,rq,dd) (AU ⟨⟨by show z2.length≤24;omega,by show dd.length=z2.length;omega,fq.1.valid (by show z2.length≤24;omega),fun j y c hj hy hcj=>⟨hdb y (List.mem_of_getElem? hy),(HC.any c (List.mem_of_getElem? hcj)).lo,(HC.any c (List.mem_of_getElem? hcj)).hi⟩⟩,h7,Xw,by have:=fq.2;show rq.length≤1000;omega⟩ (Ar ⟨Lr,Lr,Ah _ _,trivial⟩)),AG _ (Lr),trivial⟩))
section
variable {β:Type} {c:β×β→Int}
def Gr (c:β×β→Int):Nat→List β→List β
 |0,st=>st
 |j+1,st=>match st[j+1]?,st[j]? with
  |some x,some y=>if c (x,y)<0 then Gr c j ((st.set (j+1) y).set j x) else st
  |_,_=>st
def OU (c:β×β→Int) (x:β):List β→List β→List β
 |[],dn=>x::dn
 |y::rp,dn=>if c (x,y)<0 then OU c x rp (y::dn) else (y::rp).reverse++x::dn
def bR (c:β×β→Int) (l:List β):Nat→List β
 |0=>l
 |i+1=>Gr c i (bR c l i)
theorem Sy {j:Nat} {st:List β} {x y:β} (hx:st[j+1]? =some x) (hy:st[j]? =some y) (h:c (x,y)<0):Gr c (j+1) st=Gr c j ((st.set (j+1) y).set j x):=by rw [Gr,hx,hy];simp [h]
theorem WA {j:Nat} {st:List β} {x y:β} (hx:st[j+1]? =some x) (hy:st[j]? =some y) (h:¬c (x,y)<0):Gr c (j+1) st=st:=by rw [Gr,hx,hy];simp [h]
theorem Sz:∀(j:Nat) (st:List β),(Gr c j st).length=st.length
 |0,_=>rfl
 |j+1,st=>by
  rw [Gr]
  split
  ·
   split
   · rw [Sz];simp
   · rfl
  · rfl
theorem bS (x:β):∀(rp dn:List β),Gr c rp.length (rp.reverse++x::dn)=OU c x rp dn
 |[],dn=>rfl
 |y::rp,dn=>by
  have hx:((y::rp).reverse++x::dn)[rp.length+1]? =some x:=by
   rw [List.getElem?_append_right (by simp)];simp
  have hy:((y::rp).reverse++x::dn)[rp.length]? =some y:=by
   rw [List.reverse_cons,List.append_assoc,List.getElem?_append_right (by simp)];simp
  have hs:(((y::rp).reverse++x::dn).set (rp.length+1) y).set rp.length x=rp.reverse++x::(y::dn):=by
   rw [List.reverse_cons,List.append_assoc,List.set_append_right _ _ (by simp)]
   simp
  unfold OU
  show Gr c (rp.length+1) _=_
  by_cases h:c (x,y)<0
  · rw [Sy hx hy h,hs,bS x rp (y::dn),if_pos h]
  · rw [WA hx hy h,if_neg h]
theorem WB {R:β→β→Prop} (ht:∀a b d,R a b→R b d→R a d) {x:β}:∀(rp dn:List β),(rp.reverse++dn).Pairwise R→(∀z∈dn,R x z)→(∀y∈rp,(c (x,y)<0→R x y)∧(¬c (x,y)<0→R y x))→
  (OU c x rp dn).Pairwise R∧(OU c x rp dn).Perm (x::(rp.reverse++dn))
 |[],dn,h,hd,_=>by
  unfold OU
  exact ⟨List.pairwise_cons.2 ⟨hd,by simpa using h⟩,by simp⟩
 |y::rp,dn,h,hd,hc=>by
  obtain ⟨h1,h2⟩:=hc y (by simp)
  unfold OU
  by_cases hlt:c (x,y)<0
  ·
   rw [if_pos hlt]
   obtain ⟨g1, g2⟩ := WB ht (x := x) rp (y :: dn) (by simpa using h) (fun z hz => by
    rcases List.mem_cons.1 hz with rfl|hz
    · exact h1 hlt
    · exact hd z hz) (fun z hz=>hc z (List.mem_cons_of_mem _ hz))
   exact ⟨g1,by simpa using g2⟩
  ·
   rw [if_neg hlt]
   have hyx:=h2 hlt
   rw [List.pairwise_append] at h ⊢
   obtain ⟨p1,p2,p3⟩:=h
   refine ⟨⟨p1,List.pairwise_cons.2 ⟨hd,p2⟩,fun a ha b hb=> ?_⟩,?_⟩
   ·
    have hax:R a x:=by
     simp only [List.reverse_cons,List.mem_append,List.mem_reverse,List.mem_singleton] at ha
     rcases ha with ha|rfl
     ·
      refine ht _ _ _ ?_ hyx
      rw [List.reverse_cons,List.pairwise_append] at p1
      exact p1.2.2 a (List.mem_reverse.2 ha) y (by simp)
     · exact hyx
    rcases List.mem_cons.1 hb with rfl|hb
    · exact hax
    · exact ht _ _ _ hax (hd b hb)
   · exact List.perm_middle
theorem bT {R:β→β→Prop} (ht:∀a b d,R a b→R b d→R a d) {l:List β} (hc:∀(i j:Nat) x y,j<i→l[i]? =some x→l[j]? =some y→(c (x,y)<0→R x y)∧(¬c (x,y)<0→R y x)):
  ∀(i:Nat),i≤l.length→∃st,bR c l i=st++l.drop i∧st.Pairwise R∧st.Perm (l.take i)
 |0,_=>⟨[],by simp [bR],List.Pairwise.nil,by simp⟩
 |i+1,hi=>by
  obtain ⟨st,h1,h2,h3⟩:=bT ht hc i (by omega)
  obtain ⟨x,hx⟩:=at_ (l:=l) (k:=i) (by omega)
  have hl:st.length=i:=by rw [h3.length_eq,List.length_take];omega
  have hd:l.drop i=x::l.drop (i+1):=by
   rw [List.drop_eq_getElem_cons (show i<l.length by omega)]
   rw [List.getElem?_eq_getElem (show i<l.length by omega)] at hx;cases hx;rfl
  have hk:=bS (c:=c) x st.reverse (l.drop (i+1))
  rw [List.length_reverse,List.reverse_reverse,hl] at hk
  have key:∀(rp dn rest:List β),OU c x rp (dn++rest)=OU c x rp dn++rest:=by
   intro rp
   induction rp with
   |nil=>intro dn rest;rfl
   |cons y rp ih=>
    intro dn rest
    unfold OU
    split
    · exact ih (y::dn) rest
    · simp
  have hk2:=key st.reverse [] (l.drop (i+1))
  rw [List.nil_append] at hk2
  obtain ⟨g1, g2⟩ := WB ht (c := c) (x := x) st.reverse [] (by simpa using h2) (fun z hz => by cases hz) (fun y hy => by
   have lU:y∈l.take i:=h3.mem_iff.1 (List.mem_reverse.1 hy)
   obtain ⟨j,hj⟩:=List.getElem?_of_mem lU
   rw [List.getElem?_take] at hj
   split at hj
   next hji=>exact hc i j x y hji hx hj
   next=>cases hj)
  refine ⟨OU c x st.reverse [],?_,g1,?_⟩
  · rw [bR,h1,hd,hk,hk2]
  ·
   refine g2.trans ?_
   rw [List.reverse_reverse,List.append_nil,List.take_add_one,hx]
   exact ((List.perm_append_comm (l₁:=[x]) (l₂:=st)).trans (h3.append_right [x]))
end
theorem AU {φ:Prop} {p q:Pr} (h:φ) (hl:Pr.le p q):Pr.le p (fact φ q):=fun _ _ _ hp=>⟨h,hl _ _ _ hp⟩
theorem Hq {β:Type} {g:β→Pr} {l:List β} {qs:List Pr} {i:Int} {x:β} (h:l[i.toNat]? =some x):((l.map fun x=>[g x]).flatten++qs)[0+i.toNat*1]? =some (g x):=by
 have hl:i.toNat<l.length:=by rcases Nat.lt_or_ge i.toNat l.length with h'|h';exact h';rw [List.getElem?_eq_none h'] at h;cases h
 rw [List.getElem?_eq_getElem hl] at h
 cases h
 exact Nc hl
section
variable {c:Int×Int→Int}
theorem RG (l:List Int):∀i,(bR c l i).length=l.length
 |0=>rfl
 |i+1=>by rw [bR,Sz,RG l i]
theorem bU {st:List Int} {j:Nat} {x y:Int} (h0:0<j) (hx:st[j]? =some x) (hy:st[j-1]? =some y) (h:c (x,y)<0):Gr c (j-1) ((st.set ((j:Nat):Int).toNat y).set (((j:Nat):Int)-1).toNat x)=Gr c j st:=by
 obtain ⟨m,rfl⟩:∃m,j=m+1:=⟨j-1,by omega⟩
 rw [show (((m+1:Nat):Nat):Int).toNat=m+1 by omega,show ((((m+1:Nat):Nat):Int)-1).toNat=m by omega,show m+1-1=m by omega]
 exact (Sy hx hy h).symm
theorem bV {st:List Int} {j:Nat} (h:j=0):Gr c j st=st:=by subst h;rfl
theorem bW {st:List Int} {j:Nat} {x y:Int} (h0:0<j) (hx:st[j]? =some x) (hy:st[j-1]? =some y) (h:¬c (x,y)<0):Gr c j st=st:=by
 obtain ⟨m,rfl⟩:∃m,j=m+1:=⟨j-1,by omega⟩
 exact WA hx hy h
theorem bX {st:List Int} {a b:Nat} {x y n:Int} (h:∀z∈st,0≤z∧z<n) (hx:0≤x∧x<n) (hy:0≤y∧y<n):∀z∈(st.set a y).set b x,0≤z∧z<n:=fun z hz=>by
 rcases List.mem_or_eq_of_mem_set hz with hz|rfl
 ·
  rcases List.mem_or_eq_of_mem_set hz with hz|rfl
  · exact h z hz
  · exact hy
 · exact hx
end
def Xd (c:Int×Int→Int) (l st:List Int):Prop:=st=bR c l l.length
theorem Xd.len {c:Int×Int→Int} {l st:List Int} (h:Xd c l st):st.length=l.length:=by unfold Xd at h;rw [h,RG]
abbrev nr (N:Nat):={p:Int×Int//(0≤p.1∧p.1<(N:Int))∧0≤p.2∧p.2<(N:Int)}
theorem mK {l:List Int} {c:Int×Int→Int} {b0 cap N len:Nat} {sp:List Value} (iM:l.length=len) (VS:len≤19) (hR0:∀x∈l,0≤x∧x<(N:Int)):C2 prog 53 [is (.slice (some ⟨b0,0,none⟩) len cap),int 0,int ((len:Nat):Int),jH prog (fun p:nr N=>[int p.1.1,int p.1.2]) (fun p=>int (c p.1))] (KO) (AE true b0 3 ((l.map (fun x:Int=>[int x])).flatten++sp.map is)) (fun _=>Df b0 3 (fun x:Int=>[int x]) (Xd c l) (sp.map is)):=by
 refine C2.of func53 rfl rfl (by exact Nb rfl) fun M0 w0 S rs M1 w1=> ?_
 refine ac ?_
 refine Tr.block (Tr.DG [(0,_),(1,_),(2,_),(3,_)] ⟨ke rfl,ke rfl,ke rfl,ke rfl,trivial⟩ (fun (i:Nat) (st:List Int)=>[(8,int ((i:Nat):Int))]) (fun (i:Nat) (st:List Int)=>Hp M0 w0 S (AE true b0 3 ((st.map (fun x:Int=>[int x])).flatten++sp.map is)::At M1 w1::rs)) (fun (i:Nat) (st:List Int)=>(1≤i∧(i≤len∨i=1))∧st=bR c l i∧∀x∈st,0≤x∧x<(N:Int)) (fun (i:Nat) (st:List Int)=>len-i) (1) (l)  (⟨⟨by omega,.inr rfl⟩,rfl,hR0⟩) ⟨⟨_,rfl,int_eq (by omega)⟩,trivial⟩ (fun _ _ h=>h) ?_)
 rintro i st  ⟨⟨hi1,hi2⟩,hst,hR⟩
 have fM:st.length=len:=by rw [hst,RG,iM]
 refine an ?_ ?_<;>intro h1 q1
 have hib:i<len:=AH h1
 refine a2 ?_
 refine Tr.block (Tr.DG [(0,_),(1,_),(2,_),(3,_),(8,_)] ⟨ke rfl,ke rfl,ke rfl,ke rfl,ke rfl,trivial⟩ (fun (j:Nat) (RN:List Int)=>[(9,int ((j:Nat):Int))]) (fun (j:Nat) (RN:List Int)=>Hp M0 w0 S (AE true b0 3 ((RN.map (fun x:Int=>[int x])).flatten++sp.map is)::At M1 w1::rs)) (fun (j:Nat) (RN:List Int)=>(j≤i∧RN.length=len)∧Gr c j RN=Gr c i st∧∀x∈RN,0≤x∧x<(N:Int)) (fun (j:Nat) (RN:List Int)=>j) (i) (st)  (⟨⟨Nat.le_refl _,fM⟩,rfl,hR⟩) ⟨ke rfl,trivial⟩ (fun _ _ h=>h) ?_)
 rintro j RN  ⟨⟨kJ,x6⟩,mL,hR2⟩
 refine ag ?_ ?_<;>intro h2 q2
 obtain ⟨x,hx⟩:=at_ (l:=RN) (k:=j) (by omega)
 obtain ⟨y,hy⟩:=at_ (l:=RN) (k:=j-1) (by omega)
 have bk:=hR2 x (List.mem_of_getElem? hx)
 have mF:=hR2 y (List.mem_of_getElem? hy)
 refine ac ?_
 refine cy h2 rfl (BV rfl underlying22 Bh (vl rfl) (vl rfl) (by omega) (by omega)) ?_
 refine cy h2 rfl (Dr 0 rfl (B4 rfl Bo (vl rfl) (Hq (g:=fun x:Int=>int x) (x:=x) (by rw [Int.toNat_natCast];exact hx)))) ?_
 refine ac ?_
 refine cy h2 rfl (BV rfl underlying22 Bh (vl rfl) (vl rfl) (by omega) (by omega)) ?_
 refine cy h2 rfl (Dr 0 rfl (B4 rfl Bo (vl rfl) (Hq (g:=fun x:Int=>int x) (x:=y) (by rw [show (((j:Nat):Int)-1).toNat=j-1 by omega];exact hy)))) ?_
 refine cy h2 rfl (X8 (⟨(x,y),⟨bk,mF⟩⟩:nr N) rfl (vl rfl) ⟨ke rfl,ke rfl,trivial⟩) ?_
 refine ac ?_
 refine I_ 0 1 2 3 8 9 34 rfl ?_
 refine Tr.cn rfl ?_ ?_<;>intro h3 q3
 have:=h3
 refine ac ?_
 refine Tr.seq (Tr.block (Tr.rx ?_))
 refine ay ?_
 refine xo rfl (fun _=>BV rfl underlying22 Bh (vl rfl) (vl rfl) (by omega) (by omega)) ?_
 refine H9 0 rfl rfl (B4 rfl Bo (vl rfl) (Hq (g:=fun x:Int=>int x) (x:=y) (by rw [show (((j:Nat):Int)-1).toNat=j-1 by omega];exact hy))) ?_
 refine ay ?_
 refine xo rfl (fun _=>BV rfl underlying22 Bh (vl rfl) (vl rfl) (by omega) (by omega)) ?_
 refine H9 0 rfl rfl (B4 rfl Bo (vl rfl) (Hq (g:=fun x:Int=>int x) (x:=x) (by rw [Int.toNat_natCast];exact hx))) ?_
 refine xo rfl (fun _=>BV rfl underlying22 Bh (vl rfl) (vl rfl) (by omega) (by omega)) ?_
 refine Cx.Dp 0 rfl rfl (Ay rfl rfl (vl rfl) (Vo rfl) Bh rfl (by rw [Fh (sz:=1) (fun _=>rfl)];omega) (E3 (f:=(fun x:Int=>[int x])) (fun _=>rfl) (by omega))) ?_
 refine xo rfl (fun _=>BV rfl underlying22 Bh (vl rfl) (vl rfl) (by omega) (by omega)) ?_
 refine Cx.Dp 0 rfl rfl (Ay rfl rfl (vl rfl) (Vo rfl) Bh rfl (by rw [Fh (sz:=1) (fun _=>rfl)];simp only [List.length_set];omega) (E3 (f:=(fun x:Int=>[int x])) (fun _=>rfl) (by simp only [List.length_set];omega))) ?_
 refine Cx.nil ⟨by kernel_rfl,?_⟩
 refine BQ.done VE ?_
 refine ac ?_
 refine Jw 0 1 2 3 8 9 rfl ?_
 refine ac ?_
 exact Fin.DD (j-1) (_)  (⟨⟨⟨by omega,by simp only [List.length_set];exact x6⟩,by rw [←mL];exact bU (by omega) hx hy (by assumption),bX hR2 bk mF⟩,by omega⟩) ⟨⟨_,rfl,int_eq (by omega)⟩,ke rfl,ke rfl,ke rfl,ke rfl,ke rfl,trivial⟩ (fun _ _ h=>h)
 have:=h3
 refine a2 ?_
 have mM:Gr c j RN=RN:=bW (by omega) hx hy (Int.not_lt.2 (by assumption))
 exact Fin.DD (i+1) (RN)  (⟨⟨⟨by omega,.inl (by omega)⟩,by show RN=Gr c i (bR c l i);rw [←hst,←mL,mM],hR2⟩,by omega⟩) ⟨⟨_,rfl,AD i⟩,ke rfl,ke rfl,ke rfl,ke rfl,trivial⟩ (fun _ _ h=>h)
 refine ac ?_
 refine I_ 0 1 2 3 8 9 34 rfl ?_
 refine a2 ?_
 have mM:Gr c j RN=RN:=bV (by omega)
 exact Fin.DD (i+1) (RN)  (⟨⟨⟨by omega,.inl (by omega)⟩,by show RN=Gr c i (bR c l i);rw [←hst,←mL,mM],hR2⟩,by omega⟩) ⟨⟨_,rfl,AD i⟩,ke rfl,ke rfl,ke rfl,ke rfl,trivial⟩ (fun _ _ h=>h)
 have hie:=AJ h1
 refine Tr.exit (Fin.AS (Fin.AS (Fin.Ak ?_)))
 refine Fin.FR (Xd c l) 0 rfl (by unfold Xd;rcases Nat.eq_zero_or_pos len with mA|mA;(obtain rfl:=List.eq_nil_of_length_eq_zero (iM.trans mA);rw [hst,show i=1 by omega];rfl);(rw [hst,iM,show i=len by omega])) ?_
 exact Fin.Yj rfl
theorem mN {l:List Int} {c:Int×Int→Int} {b0 cap N len:Nat} {sp:List Value} (iM:l.length=len) (VS:len≤19) (hR0:∀x∈l,0≤x∧x<(N:Int)):C2 prog 38 [is (.slice (some ⟨b0,0,none⟩) len cap),int ((len:Nat):Int),jH prog (fun p:nr N=>[int p.1.1,int p.1.2]) (fun p=>int (c p.1))] (KO) (AE true b0 3 ((l.map (fun x:Int=>[int x])).flatten++sp.map is)) (fun _=>Df b0 3 (fun x:Int=>[int x]) (Xd c l) (sp.map is)):=by
 refine C2.of func38 rfl rfl (by exact Nb rfl) fun M0 w0 S rs M1 w1=> ?_
 refine a2 ?_
 refine Tr.seq (Tr.block (Tr.A7 [(0,_),(1,_),(2,_),(6,_)] (TN rfl) (fun (u:Unit)=>[(7,int 0),(8,int 20)]) (fun (u:Unit)=>True) (fun (u:Unit)=>0) () (trivial) ⟨ke rfl,ke rfl,trivial⟩ ?_))
 rintro u _
 refine an ?_ ?_<;>intro h1 q1
 exfalso;have OZ:=D_.Ey h1;omega
 have RM:=h1
 refine ac ?_
 refine ap ?_
 refine TO.Jv 0 rfl rfl (by decide) (Aw rfl rfl (by decide) rfl (mK (by omega) (by omega) (by assumption)) ⟨ke rfl,ke rfl,ke rfl,ke rfl,trivial⟩) (TO.II 0 rfl fun t1 R5=> ?_)
 have tC:=R5.len
 refine ap ?_
 refine D7 0 1 2 6 rfl (Tr.block (Tr.A7 [(0,_),(1,_),(2,_)] (MW rfl) (fun (u:Unit)=>[(6,int 20)]) (fun (u:Unit)=>True) (fun (u:Unit)=>0) () (trivial) ⟨ke rfl,trivial⟩ ?_))
 rintro u _
 refine an ?_ ?_<;>intro h2 q2
 exfalso;have OZ:=D_.Ey h2;omega
 have RM:=h2
 refine Tr.exit (Fin.AS (Fin.AS (Fin.Ak (Fin.FR (Xd c l) 0 rfl (R5) (Fin.Yj rfl)))))
theorem tD {l:List Int} {c:Int×Int→Int} {b0 cap N len:Nat} {sp:List Value} (iM:l.length=len) (VS:len≤19) (hR0:∀x∈l,0≤x∧x<(N:Int)):C2 prog 16 [is (.slice (some ⟨b0,0,none⟩) len cap),jH prog (fun p:nr N=>[int p.1.1,int p.1.2]) (fun p=>int (c p.1))] (KO) (AE true b0 3 ((l.map (fun x:Int=>[int x])).flatten++sp.map is)) (fun _=>Df b0 3 (fun x:Int=>[int x]) (Xd c l) (sp.map is)):=by
 refine C2.of func16 rfl rfl (by exact Nb rfl) fun M0 w0 S rs M1 w1=> ?_
 refine ap ?_
 refine tp rfl (KP rfl underlying22 (vl rfl)) (tm rfl (TO.Jv 0 rfl rfl (by decide) (Aw rfl rfl (by decide) rfl (mN (by omega) (by omega) (by assumption)) ⟨ke rfl,ke rfl,ke rfl,trivial⟩) (TO.II 0 rfl fun t1 R5=> ?_)))
 have tC:=R5.len
 refine TO.nil (Fin.FR (Xd c l) 0 rfl (R5) (Fin.Yj rfl))
theorem gT {rows:List (List Pr)} {b:Int} (hb:b≤1):Az prog 53 [slice 1 rows,int 0,int b,any] (KO):=by
 refine fo func53 rfl ⟨rfl,rfl⟩ fun M0 w0=> ?_
 refine ac ?_
 refine Tr.block (Tr.A7 [(0,_),(1,_),(2,_),(3,_)] (TN rfl) (fun i:Int=>[(8,int i)]) (fun i:Int=>i=1) (fun i:Int=>0) 1 (rfl) ⟨ke rfl,trivial⟩ ?_)
 rintro i hi
 refine an ?_ ?_<;>intro h1 q1
 exfalso;have OZ:=D_.Ey h1;omega
 have RM:=h1
 refine Tr.exit (Fin.AS (Fin.AS (Fin.Ak (Fin.kF rfl))))
theorem gU {rows:List (List Pr)} {b:Int} (h0:0≤b) (hb:b≤1):Az prog 38 [slice 1 rows,int b,any] (KO):=by
 refine fo func38 rfl ⟨rfl,rfl⟩ fun M0 w0=> ?_
 refine a2 ?_
 refine Tr.seq (Tr.block (Tr.A7 [(0,_),(1,_),(2,_),(6,_)] (TN rfl) (fun (u:Unit)=>[(7,int 0),(8,int 20)]) (fun (u:Unit)=>True) (fun (u:Unit)=>0) () (trivial) ⟨ke rfl,ke rfl,trivial⟩ ?_))
 rintro u _
 refine an ?_ ?_<;>intro h1 q1
 exfalso;have OZ:=D_.Ey h1;omega
 have RM:=h1
 refine a2 ?_
 refine co rfl (AQ rfl (gT (by omega)) ⟨ke rfl,ke rfl,ke rfl,⟨_,rfl,Xx _⟩,trivial⟩) ?_
 refine ac ?_
 refine D7 0 1 2 6 rfl (Tr.block (Tr.A7 [(0,_),(1,_),(2,_)] (MW rfl) (fun (u:Unit)=>[(6,int 20)]) (fun (u:Unit)=>True) (fun (u:Unit)=>0) () (trivial) ⟨ke rfl,trivial⟩ ?_))
 rintro u _
 refine an ?_ ?_<;>intro h2 q2
 exfalso;have OZ:=D_.Ey h2;omega
 have RM:=h2
 refine Tr.exit (Fin.AS (Fin.AS (Fin.Ak (Fin.kF rfl))))
theorem mO {rows:List (List Pr)} (hs:rows.length≤1):Az prog 16 [slice 1 rows,any] (KO):=by
 refine fo func16 rfl ⟨rfl,rfl⟩ fun M0 w0=> ?_
 refine ac ?_
 refine co rfl (Br rfl underlying22 (vl rfl)) (cm rfl (co rfl (AQ rfl (gU (rows:=rows) (b:=(rows.length:Int)) (by omega) (by omega)) ⟨ke rfl,ke rfl,⟨_,rfl,Xx _⟩,trivial⟩) (Ch.nil (Fin.kF rfl))))
theorem tE {l:List Int} {c:Int×Int→Int} {v:Value} {N:Nat} (hs:l.length≤19) (hR:∀x∈l,0≤x∧x<(N:Int)):C2 Tryz.prog 16 [is v,jH Tryz.prog (fun p:nr N=>[int p.1.1,int p.1.2]) (fun p=>int (c p.1))] KO (Bb 3 1 (l.map (fun x:Int=>[int x])) v) (fun _=>NY 3 1 (fun x:Int=>[int x]) (Xd c l) v):=by
 refine C2.dw (fun h=>⟨?_,?_⟩) (fun b cap sp=>tD rfl hs hR) (fun st h=>h.len) ⟨_,Tryz.func16,rfl,rfl⟩
 ·
  refine Az.le (mO (rows:=[]) (by decide)) ?_ (Pr.le_refl _)
  rintro M w vs hv
  match vs,hv with
  |[a,b],⟨h1,h2,h3⟩=>exact ⟨AF _ M w a h1,trivial,h3⟩
 · subst h;rfl
def Uj (d:List Int) (p:Int×Int):Int:=ZE (d.getD p.1.toNat 0) (d.getD p.2.toNat 0)
def GO (n:Nat):List Int:=(List.range n).map fun i:Nat=>(i:Int)
theorem EG (n:Nat):(GO n).length=n:=by unfold GO;rw [List.length_map,List.length_range]
theorem Xe (n:Nat):GO (n+1)=GO n++[(n:Int)]:=by unfold GO;rw [List.range_succ,List.map_append];rfl
theorem WC {n i:Nat} (h:i<n):(GO n)[i]? =some (i:Int):=by unfold GO;rw [List.getElem?_map,List.getElem?_range h];rfl
theorem S0 {n:Nat}:∀x∈GO n,0≤x∧x<(n:Int):=fun x hx=>by
 unfold GO at hx
 obtain ⟨i,hi,rfl⟩:=List.mem_map.1 hx
 have:=List.mem_range.1 hi
 omega
def Gs (d:List Int):List Int:=bR (Uj d) (GO d.length) d.length
theorem gV {d st:List Int} (h:Xd (Uj d) (GO d.length) st):st=Gs d:=by unfold Xd at h;rw [EG] at h;exact h
def Uk (d:List Int) (a b:Int):Prop:=d.getD a.toNat 0<d.getD b.toNat 0∨d.getD a.toNat 0=d.getD b.toNat 0∧a<b
theorem gW {a b:Int}:ZE a b<0↔a<b:=by unfold ZE;split;omega;split<;>omega
theorem Ks (d:List Int):(Gs d).Pairwise (Uk d)∧(Gs d).Perm (GO d.length):=by
 obtain ⟨st, h1, h2, h3⟩ := bT (c := Uj d) (R := Uk d) (l := GO d.length) (fun a b e h1 h2 => by unfold Uk at *; omega) (fun i j x y hij hx hy => by
  have hi:=A0 hx
  have hj:=A0 hy
  rw [EG] at hi hj
  rw [WC hi] at hx
  rw [WC hj] at hy
  cases hx;cases hy
  unfold Uj Uk
  rw [gW]
  simp only
  omega) d.length (by rw [EG];exact Nat.le_refl _)
 have h4:(GO d.length).drop d.length=[]:=List.drop_eq_nil_of_le (by rw [EG];exact Nat.le_refl _)
 have h5:(GO d.length).take d.length=GO d.length:=List.take_of_length_le (by rw [EG];exact Nat.le_refl _)
 rw [h4,List.append_nil] at h1
 rw [h5] at h3
 unfold Gs
 rw [h1]
 exact ⟨h2,h3⟩
theorem Xf {l:List BK} {r:List BS} {d:List Int} (p:nr d.length)  :Az prog 17 [int p.1.1,int p.1.2,ref [ER l,reqs r,ints d]] (int (Uj d p.1)):=by
 refine fo func17 rfl ⟨rfl,rfl⟩ fun M0 w0=> ?_
 obtain ⟨R5,hp2⟩:=p.2
 obtain ⟨x,hx⟩:=at_ (l:=d) (k:=p.1.1.toNat) (by omega)
 obtain ⟨y,hy⟩:=at_ (l:=d) (k:=p.1.2.toNat) (by omega)
 refine a2 ?_
 refine co rfl (AA rfl underlying22 Bh (vl rfl) (vl rfl) (by omega) (BB hx)) ?_
 refine ac ?_
 refine co rfl (AA rfl underlying22 Bh (vl rfl) (vl rfl) (by omega) (BB hy)) (co rfl (DQ rfl Bo rfl) ?_)
 refine co rfl (CS (kS (a:=x) (b:=y)) rfl rfl rfl) ?_
 refine a2 ?_
 · refine int_eq ?_;unfold Uj;rw [List.getD_eq_getElem?_getD,List.getD_eq_getElem?_getD,hx,hy];rfl
theorem Xg:Entry Tryz.prog 17:=⟨_,Tryz.func17,rfl,rfl⟩
theorem bY {l:List BK} {r:List BS} {d:List Int} (hd:d.length≤19):Az prog 8 [agg [ER l,reqs r,ints d]] (ints (Gs d)):=by
 refine fo func8 rfl ⟨rfl,rfl⟩ fun M0 w0=> ?_
 refine a3 ?_
 refine Tr.block (Tr.TY 3 1 (Tr.EN [(1,_),(7,_)] ⟨ke rfl,ke rfl,trivial⟩ (fun k v=>[(8,int ((k:Nat):Int)),(3,Ag v (lens ((GO k).map fun n=>[int n]).length))]) (fun k v=>Hp M0 w0 Eo ([Bb 3 1 ((GO k).map fun n=>[int n]) v])) (fun k:Nat=>k≤(d).length) (fun k:Nat=>(d).length-k) 0 (.slice none 0 0) (Nat.zero_le _) ⟨ke rfl,⟨_,rfl,NZ (by rfl)⟩,trivial⟩ (fun _ _ h=>h) ?_))
 rintro k v BN
 refine ac ?_
 refine Tr.seq ?_
 refine Tr.cn rfl ?_ ?_<;>intro h1 q1
 have Af:k<(d).length:=AH h1
 obtain ⟨x,Ad⟩:=at_ Af
 refine a2 ?_
 refine ap ?_
 refine TO.DP 0 rfl rfl (by decide) (E2 rfl rfl (by decide) rfl underlying22 Bh Iu z3 rfl (by decide) (by decide) (vl rfl) (Kf rfl) (Bu fun _=>rfl) (Nat.zero_lt_succ _) (by simp only [List.length_map,List.length_cons,List.length_nil,EG];unfold maxLen;omega) (by simp only [List.length_map,List.length_cons,List.length_nil,EG];omega)) (fun v1=> ?_)
 refine ap ?_
 refine ac ?_
 rw [show (GO k).map (fun n=>[int n])++[[int ((k:Nat):Int)]]=(GO (k+1)).map (fun n=>[int n]) by rw [Xe,List.map_append];rfl]
 exact Fin.DC (k+1) v1 (⟨Af,by omega⟩) ⟨⟨_,rfl,AD k⟩,⟨_,rfl,Cr (by simp [EG])⟩,ke rfl,ke rfl,trivial⟩ (fun _ _ h=>h)
 have BI:k=(d).length:=by have:=AJ h1;omega
 subst BI
 refine ac ?_
 refine ap ?_
 refine TO.Jv 0 rfl rfl (by decide) (Aw rfl rfl (by decide) rfl (tE (l:=GO d.length) (c:=Uj d) (N:=d.length) (by rw [EG];exact hd) S0) ⟨(Ka rfl),⟨_,rfl,WD Xg (fun p=>Xf p)⟩,trivial⟩) ?_
 refine TO.Yr 0 3 rfl rfl (fun _=>rfl) (fun t1 R5=> ?_)
 have tC:=R5.len
 refine ap ?_
 refine a2 ?_
 · rw [←gV R5];exact Ah _ _
end Go.Proofs.YtmpglcehonnpkaaGreat
namespace Go.Proofs.YtmpglcehonnpkaaGreat
open Go Go.RowKit Cp Go.ChangeShapes Go.WideShapes Go.ChangeAt Go.Proofs.Tryz
theorem x7:ownKnob Tryz.prog.godebug=none:=by kernel_rfl
theorem bZ:laidOutB Tryz.prog=true:=by kernel_rfl
theorem i64_in {n:Int} (h:(Lit.int .i64 n).wf=true):K1 n:=by
 simp only [Lit.wf,Bool.and_eq_true,decide_eq_true_eq] at h
 have h1:IntKind.i64.min= -9223372036854775808:=rfl
 have h2:IntKind.i64.max=9223372036854775807:=rfl
 unfold K1;omega
theorem Ul {P:Program} {t e:TypeId} (ht:P.underlying t=some (.slice e)) (he:P.underlying e=some (.int .i64)) (hc:P.cellsOf e=1):KC P t (fun l:List Int=>l.length≤maxLen∧∀n∈l,K1 n) (fun l=>[ints l]):=
 (Rc ht hc (WO he)).map id (fun _ h=>⟨h.2,fun n hn=>i64_in (h.1 n hn)⟩) (fun _=>rfl)
theorem Um   :Az prog 5 [] (bool true):=by
 refine fo func5 rfl ⟨rfl,rfl⟩ fun M0 w0=> ?_
 · repeat' first|exact bool_eq (by decide)|exact absurd h (by decide)|refine co rfl (AQ rfl (Q5 (l:=[])) ⟨⟨_,rfl,Ar (ps:=[is (.slice none 0 0),is (.slice none 0 0),is (.slice none 0 0)]) ⟨Lr,Lr,AF 1,trivial⟩⟩,trivial⟩) ?_|refine cy h rfl (N9 (m:=2) rfl underlying30 DO TW z87 rfl (by decide) (by decide) ⟨_,rfl,int_eq rfl⟩ ⟨_,rfl,int_eq rfl⟩ (by decide) (by decide)) ?_|refine cy h rfl (oI) ?_|refine cy h rfl (Ai (rows:=[(0,[_]),(2,[_])]) rfl K_ Ej ⟨⟨rfl,(Vo rfl)⟩,⟨⟨rfl,⟨_,rfl,Pr.le_trans (Bp _ _) (Aj _)⟩⟩,trivial⟩⟩ rfl) ?_|refine cy h rfl (Ce (Q5 (l:=[3,1])) rfl rfl) ?_|refine ac ?_|(refine Ch.cg rfl rfl rfl ?_ ?_<;>intro h q)
theorem jG {R:Int→Int→Prop} {L:List Int} (h:L.Pairwise R) {i j:Nat} {a b:Int} (hi:L[i]? =some a) (hj:L[j]? =some b) (hij:i<j):R a b:=by
 have h1:=A0 hi
 have h2:=A0 hj
 rw [List.getElem?_eq_getElem h1] at hi
 rw [List.getElem?_eq_getElem h2] at hj
 cases hi;cases hj
 exact List.pairwise_iff_getElem.1 h i j h1 h2 hij
theorem bf:∀(l:List Int) (a:Int),a≤l.foldl max a∧(∀x∈l,x≤l.foldl max a)∧(l.foldl max a=a∨l.foldl max a∈l)
 |[],a=>⟨Int.le_refl _,(fun x h=>by cases h),.inl rfl⟩
 |b::l,a=>by
  obtain ⟨h1,h2,h3⟩:=bf l (max a b)
  rw [List.foldl_cons]
  refine ⟨by omega,fun x hx=> ?_,?_⟩
  ·
   rcases List.mem_cons.1 hx with rfl|hx
   · omega
   · exact h2 x hx
  ·
   rcases h3 with h3|h3
   ·
    rcases Int.le_total a b with h|h
    · right;rw [h3,show max a b=b by omega];exact List.mem_cons_self ..
    · left;rw [h3];omega
   · right;exact List.mem_cons_of_mem _ h3
theorem Mv {d:List Int}:∀x∈Gs d,0≤x∧x<(d.length:Int):=fun x hx=>S0 x ((Ks d).2.mem_iff.1 hx)
theorem gX (d:List Int):(Gs d).length=d.length:=by rw [(Ks d).2.length_eq,EG]
theorem bg {d:List Int} (hd:∀x∈d,0≤x) {y:Int} (hy:(Gs d)[(Gs d).length-1]? =some y):d.getD y.toNat 0=aN d:=by
 have mF:=Mv y (List.mem_of_getElem? hy)
 have hdy:=FE (l:=d) (i:=y.toNat) (by omega)
 obtain ⟨h1,h2,h3⟩:=bf d (-1)
 have h4:=h2 _ (List.mem_of_getElem? hdy)
 have h5:=hd _ (List.mem_of_getElem? hdy)
 unfold aN
 rcases h3 with h3|h3
 · omega
 ·
  obtain ⟨i,hi⟩:=List.mem_iff_getElem?.1 h3
  have FF:=A0 hi
  have hm:(i:Int)∈Gs d:=(Ks d).2.mem_iff.2 (by unfold GO;exact List.mem_map.2 ⟨i,List.mem_range.2 FF,rfl⟩)
  obtain ⟨j,hj⟩:=List.mem_iff_getElem?.1 hm
  have hjl:=A0 hj
  have bw:d.getD i 0=d.foldl max (-1):=by rw [List.getD_eq_getElem?_getD,hi];rfl
  rcases Nat.lt_or_ge j ((Gs d).length-1) with h6|h6
  ·
   have hR:Uk d (i:Int) y:=jG (Ks d).1 hj hy h6
   unfold Uk at hR
   rw [Int.toNat_natCast,bw] at hR
   omega
  ·
   have:j=(Gs d).length-1:=by omega
   subst this
   rw [hj] at hy;cases hy
   rw [Int.toNat_natCast,bw]
theorem Ud.days {m:Nat} {l:List BK} {r:List BS} {d:List Int} (h:Ud m l r d):∀x∈d,0≤x:=fun x hx=>by
 obtain ⟨j,hj⟩:=List.mem_iff_getElem?.1 hx
 have hjl:=A0 hj
 rw [h.dl] at hjl
 obtain ⟨c,hc⟩:=at_ hjl
 exact (h.dd j x c hjl hj hc).1.1
theorem S1 {t:List Int}  :Az prog 3 [ints t] (bool true):=by
 refine Az.of func3 rfl rfl (by exact Nb rfl) fun M0 w0=> ?_
 refine Tr.seq (Tr.AW (cm rfl (Ch.nil (Fin.go (Tr.seq (Tr.seq (Tr.AW (cm rfl (co rfl (AQ rfl (d_) ⟨ke rfl,trivial⟩) (co rfl (HI rfl (vl rfl)) (Ch.nil (Fin.go ?_))))))))))))
 refine Tr.cn rfl ?_ ?_<;>intro h1 q1
 refine Tr.seq (Tr.AW (co rfl (AQ rfl (Um) trivial) (cm rfl (Ch.nil (Fin.go (Tr.ret (Fin.AB (Fin.DZ rfl (BE.CZ _ _) rfl ?_))))))))
 · exact Lr
 have ht4:t.length≤400:=by simpa using h1
 have ht9:t.length≤1000000000:=by omega
 refine Tr.skip (Fin.go (Tr.seq (Tr.An (tm rfl (TO.pad ?_)))))
 refine TO.DP 0 rfl rfl (by decide) (Uz rfl rfl (by decide) rfl (kR (l:=t) ht9) ⟨ke rfl,trivial⟩) (fun v1=> ?_)
 refine TO.K5 14 0 _ rfl rfl (fun _=>rfl) (fun b1=> ?_)
 refine TO.Jv 0 rfl rfl (by decide) (Aw rfl rfl (by decide) rfl (mJ) ⟨ke rfl,trivial⟩) ?_
 refine TO.ex 15 rfl (fun z1=>TO.fact 15 rfl fun FM=> ?_)
 refine tm rfl (tp rfl (BA rfl (vl rfl) rfl) (tp rfl (BA rfl (vl rfl) rfl) ?_))
 refine TO.ex 17 rfl (fun p1=>TO.fact 17 rfl fun R5=> ?_)
 refine tp rfl (BA rfl (vl rfl) rfl) ?_
 refine Tl rfl rfl rfl rfl z29 G1 (fun b2=> ?_)
 refine Tl rfl rfl rfl rfl z33 Ej (fun b3=> ?_)
 refine TO.AK 1 rfl rfl rfl (vl rfl) (Va rfl) rfl Ct rfl rfl (TO.freeze 1 3 rfl rfl (TO.AK 0 rfl rfl rfl (vl rfl) (Va rfl) rfl B2 rfl rfl (TO.freeze 0 4 rfl rfl (tm rfl (TO.nil (Fin.O_ 0 rfl (fun s1=> ?_)))))))
 refine Fin.go (Eh 4 rfl (Tr.seq ?_))
 have jA:=R5.fit.dl
 have h7:=R5.l7
 obtain ⟨hpw,hpm⟩:=Ks p1.2.2
 have bu:=gX p1.2.2
 refine Tr.AW (co rfl (AR rfl CV B2 (vl rfl) rfl rfl) ?_)
 refine co rfl (AQ rfl (bY (l:=p1.1) (r:=p1.2.1) (d:=p1.2.2) (by omega)) ⟨ke rfl,trivial⟩) ?_
 refine cm rfl (Ch.nil (Fin.go (Tr.seq (Tr.seq (Tr.AW (cm rfl (co rfl (BF rfl underlying22 (vl rfl)) (co rfl (Kt rfl TP rfl rfl) (co rfl (DQ rfl gz rfl) (co rfl (BF rfl underlying30 (vl rfl)) (co rfl (ki rfl rfl rfl rfl) (Ch.nil (Fin.go ?_)))))))))))))
 refine Tr.cn rfl ?_ ?_<;>intro h2 q2
 exfalso;have:=q2;omega
 refine Tr.skip (Fin.go (Tr.seq (Tr.seq (Tr.AW (cm rfl (co rfl (BF rfl underlying22 (vl rfl)) (cm rfl (Ch.nil (Fin.go (Tr.block (Tr.A7 [(4,_),(6,_),(28,_)] (MW rfl) (fun k:Nat=>[(29,int ((k:Nat):Int))]) (fun k:Nat=>k≤((Gs p1.2.2)).length) (fun k:Nat=>((Gs p1.2.2)).length-k) 0 (Nat.zero_le _) ⟨ke rfl,trivial⟩ ?_)))))))))))
 rintro k BN
 refine Tr.seq (Tr.AW (co rfl (ki rfl rfl rfl rfl) (Ch.nil (Fin.go (Tr.seq ?_)))))
 refine Tr.cn rfl ?_ ?_<;>intro h3 q3
 have Af:k<((Gs p1.2.2)).length:=AH h3
 obtain ⟨x,Ad⟩:=at_ Af
 have bk:=Mv x (List.mem_of_getElem? Ad)
 have hdx:=FE (l:=p1.2.2) (i:=x.toNat) (by omega)
 refine Tr.skip (Fin.go (Tr.seq (Tr.block (Tr.seq (Tr.AW (cm rfl (cm rfl (Ch.nil (Fin.go (Tr.seq (Tr.seq (Tr.AW (cm rfl ?_)))))))))))))
 refine cm rfl (co rfl (AA rfl underlying22 Bh (vl rfl) (vl rfl) (by omega) (AO Ad)) (co rfl (DQ rfl Bo rfl) (co rfl (ki rfl rfl rfl rfl) (cm rfl ?_))))
 refine Ch.cs 37 rfl ?_ ?_<;>intro h4 q4
 exfalso;have:=q4;omega
 refine FZ h4 rfl (FZ h4 rfl (cy h4 rfl (AA rfl underlying22 Bh (vl rfl) (vl rfl) (by omega) (AO Ad)) (cy h4 rfl (DQ rfl Bo rfl) (FZ h4 rfl (cy h4 rfl (BF rfl underlying22 (vl rfl)) (cy h4 rfl (ki rfl rfl rfl rfl) (co rfl (HM rfl rfl h4 rfl) (Ch.nil (Fin.go (Jw 4 6 7 28 29 45 rfl ?_))))))))))
 refine Tr.cn rfl ?_ ?_<;>intro h5 q5
 exfalso;have:=q5;omega
 refine Tr.skip (Fin.go (Tr.seq (Tr.QC mixed (by kernel_rfl) (cm rfl (co rfl (ki rfl rfl rfl rfl) (cm rfl ?_))))))
 refine Ch.cs 48 rfl ?_ ?_<;>intro h6 q6
 obtain ⟨y,hy⟩:=at_ (l:=(Gs p1.2.2)) (k:=k-1) (by omega)
 have mF:=Mv y (List.mem_of_getElem? hy)
 have hdy:=FE (l:=p1.2.2) (i:=y.toNat) (by omega)
 have hR:=jG hpw hy Ad (by omega)
 unfold Uk at hR
 refine cy h6 rfl (Kt rfl IE rfl rfl) (cy h6 rfl (DQ rfl ID rfl) (FZ h6 rfl (FZ h6 rfl ?_)))
 refine cy h6 rfl (JS rfl (vl rfl) (vl rfl) ?hin) ?_;case hin=>unfold K1;omega
 refine cy h6 rfl (AA rfl underlying22 Bh (vl rfl) (vl rfl) (by omega) (by rw [show ((k:Nat):Int)-1=((k-1:Nat):Int) by omega];exact AO hy)) ?_
 refine cy h6 rfl (DQ rfl Bo rfl) (cy h6 rfl (AA rfl underlying22 Bh (vl rfl) (vl rfl) (by omega) (BB hdy)) (cy h6 rfl (DQ rfl Bo rfl) (cy h6 rfl (Kt rfl IE rfl rfl) (cy h6 rfl (DQ rfl ID rfl) (FZ h6 rfl (FZ h6 rfl (cy h6 rfl (AA rfl underlying22 Bh (vl rfl) (vl rfl) (by omega) (AO Ad)) (cy h6 rfl (DQ rfl Bo rfl) (cy h6 rfl (AA rfl underlying22 Bh (vl rfl) (vl rfl) (by omega) (BB hdx)) (cy h6 rfl (DQ rfl Bo rfl) (cy h6 rfl (ki rfl rfl rfl rfl) (FZ h6 rfl ?_))))))))))))
 refine Ch.cs 67 rfl ?_ ?_<;>intro h7 q7
 exfalso;have:=q7;omega
 refine cy h7 rfl (Kt rfl IE rfl rfl) (cy h7 rfl (DQ rfl ID rfl) (FZ h7 rfl (FZ h7 rfl ?_)))
 refine cy h7 rfl (JS rfl (vl rfl) (vl rfl) ?hin) ?_;case hin=>unfold K1;omega
 refine cy h7 rfl (AA rfl underlying22 Bh (vl rfl) (vl rfl) (by omega) (by rw [show ((k:Nat):Int)-1=((k-1:Nat):Int) by omega];exact AO hy)) ?_
 refine cy h7 rfl (DQ rfl Bo rfl) (cy h7 rfl (AA rfl underlying22 Bh (vl rfl) (vl rfl) (by omega) (BB hdy)) (cy h7 rfl (DQ rfl Bo rfl) (cy h7 rfl (Kt rfl IE rfl rfl) (cy h7 rfl (DQ rfl ID rfl) (FZ h7 rfl (FZ h7 rfl (cy h7 rfl (AA rfl underlying22 Bh (vl rfl) (vl rfl) (by omega) (AO Ad)) (cy h7 rfl (DQ rfl Bo rfl) (cy h7 rfl (AA rfl underlying22 Bh (vl rfl) (vl rfl) (by omega) (BB hdx)) (cy h7 rfl (DQ rfl Bo rfl) (cy h7 rfl (ki rfl rfl rfl rfl) (FZ h7 rfl ?_))))))))))))
 refine Ch.cs 86 rfl ?_ ?_<;>intro h8 q8
 refine FZ h8 rfl (FZ h8 rfl ?_)
 refine cy h8 rfl (JS rfl (vl rfl) (vl rfl) ?hin) ?_;case hin=>unfold K1;omega
 refine cy h8 rfl (AA rfl underlying22 Bh (vl rfl) (vl rfl) (by omega) (by rw [show ((k:Nat):Int)-1=((k-1:Nat):Int) by omega];exact AO hy)) ?_
 refine cy h8 rfl (DQ rfl Bo rfl) (FZ h8 rfl (FZ h8 rfl (cy h8 rfl (AA rfl underlying22 Bh (vl rfl) (vl rfl) (by omega) (AO Ad)) (cy h8 rfl (DQ rfl Bo rfl) (cy h8 rfl (ki rfl rfl rfl rfl) (cy h7 rfl (HK rfl rfl h8 rfl) (cy h6 rfl (HM rfl rfl h7 rfl) (co rfl (HK rfl rfl h6 rfl) (Ch.nil (Fin.go (JV 4 6 28 29 99 rfl ?_)))))))))))
 refine Tr.cn rfl ?_ ?_<;>intro h9 q9
 exfalso;have hR_:_∨_:=hR;have:=q9;omega
 refine Tr.skip (Fin.block (Fin.go (Tr.AW (GV rfl rfl rfl rfl (by omega) (cm rfl (Ch.nil (Fin.AM (k+1) ⟨Af,by omega⟩ ⟨⟨_,rfl,AD k⟩,ke rfl,ke rfl,ke rfl,trivial⟩)))))))
 iterate 10 refine cnt h8 rfl ?_
 refine cy h7 rfl (HM rfl rfl h8 rfl) (cy h6 rfl (HM rfl rfl h7 rfl) (co rfl (HK rfl rfl h6 rfl) (Ch.nil (Fin.go (JV 4 6 28 29 99 rfl (Tr.cond rfl (fun h=>nomatch h) (fun _=> ?_)))))))
 refine Tr.skip (Fin.block (Fin.go (Tr.AW (GV rfl rfl rfl rfl (by omega) (cm rfl (Ch.nil (Fin.AM (k+1) ⟨Af,by omega⟩ ⟨⟨_,rfl,AD k⟩,ke rfl,ke rfl,ke rfl,trivial⟩)))))))
 iterate 19 refine cnt h6 rfl ?_
 iterate 30 refine cu rfl ?_
 refine cnt h6 rfl (co rfl (HM rfl rfl h6 rfl) (Ch.nil (Fin.go (JV 4 6 28 29 99 rfl (Tr.cond rfl (fun h=>nomatch h) (fun _=> ?_))))))
 refine Tr.skip (Fin.block (Fin.go (Tr.AW (GV rfl rfl rfl rfl (by omega) (cm rfl (Ch.nil (Fin.AM (k+1) ⟨Af,by omega⟩ ⟨⟨_,rfl,AD k⟩,ke rfl,ke rfl,ke rfl,trivial⟩)))))))
 have BI:k=((Gs p1.2.2)).length:=by have:=AJ h3;omega
 refine Tr.exit (Fin.AS (Fin.AS (Fin.Ak (Fin.go (Tr.seq (Tr.QC mixed (by kernel_rfl) (cm rfl (co rfl (BF rfl underlying22 (vl rfl)) (co rfl (ki rfl rfl rfl rfl) (cm rfl ?_))))))))))
 refine Ch.cs 104 rfl ?_ ?_<;>intro h10 Oa
 iterate 13 refine cnf h10 rfl ?_
 refine co rfl (HK rfl rfl h10 rfl) (cm rfl (cy rfl rfl (AQ rfl (Um) trivial) (co rfl (HK rfl rfl rfl rfl) (cm rfl (Ch.nil (Fin.go (Eh 2 rfl (Tr.ret (Fin.DZ rfl (BE.CZ _ _) rfl ?_)))))))))
 · exact Lr
 obtain ⟨y,hy⟩:=at_ (l:=(Gs p1.2.2)) (k:=(Gs p1.2.2).length-1) (by have:=Oa;omega)
 have mF:=Mv y (List.mem_of_getElem? hy)
 have hdy:=FE (l:=p1.2.2) (i:=y.toNat) (by omega)
 have hla:=bg R5.fit.days hy
 refine cy h10 rfl (Kt rfl IE rfl rfl) (cy h10 rfl (DQ rfl ID rfl) (FZ h10 rfl (FZ h10 rfl (cy h10 rfl (BF rfl underlying22 (vl rfl)) ?_))))
 refine cy h10 rfl (JS rfl (vl rfl) (vl rfl) ?hin) ?_;case hin=>unfold K1;omega
 refine cy h10 rfl (AA rfl underlying22 Bh (vl rfl) (vl rfl) (by omega) (by rw [show ((((Gs p1.2.2).length:Nat)):Int)-1=(((Gs p1.2.2).length-1:Nat):Int) by omega];exact AO hy)) ?_
 refine cy h10 rfl (DQ rfl Bo rfl) (cy h10 rfl (AA rfl underlying22 Bh (vl rfl) (vl rfl) (by omega) (BB hdy)) (cy h10 rfl (DQ rfl Bo rfl) (cy h10 rfl (AR rfl CV B2 (vl rfl) rfl rfl) ?_)))
 refine cy h10 rfl (AQ rfl (Q5 (l:=p1.2.2)) ⟨ke rfl,trivial⟩) ?_
 refine cy h10 rfl (ki rfl rfl rfl rfl) (co rfl (HM rfl rfl h10 rfl) (cm rfl ?_))
 refine Ch.cs 119 rfl ?_ ?_<;>intro h11 PR
 refine cy h11 rfl (AQ rfl (Um) trivial) (co rfl (HK rfl rfl h11 rfl) (cm rfl (Ch.nil (Fin.go (Eh 2 rfl (Tr.ret (Fin.DZ rfl (BE.CZ _ _) rfl ?_)))))))
 · exact Lr
 exact absurd hla PR
theorem Ld (os:Os) (started:os.Started) (H:Type) (enc:TypeId×Value→H):
  ReturnsInHanded {} Tryz.checked os 3 .any (Rows.planOrderSpec.pre6 enc Tryz.prog Tryz.f3 Rows.planOrderRow.domain false) (Rows.planOrderSpec.post enc Tryz.prog Tryz.f3 false true false false):=by
 refine returnsInHanded_of_change (C := Tryz.checked) x7 started (by kernel_rfl) Tryz.func3
  (ChangeSpec.witness6 (enc:=enc) (C:=Tryz.checked) false ⟨#[],#[.slice none 0 0],[]⟩ 8 (by kernel_rfl) (by kernel_rfl) (by kernel_rfl) (by kernel_rfl)) ?_
 intro W base args ds gs before tF hW zY _
 have hval:∀(j:Nat) t v,Tryz.f3.params[j]? =some t→args[j]? =some v→Value.okWide Tryz.prog W .any base t v:=tF
 have hW':=hW
 obtain ⟨p,q,hA0,hV,hpq,hfz,hnd⟩:=hW
 have hA:DataW.TrodAll enc Tryz.prog W 0 (fun _=>true) true Tryz.f3.params.toList args.toList ds p:=hA0
 have cJ:=hA
 rw [Tryz.params3] at hA hval
 obtain ⟨v0,d0,rfl,rfl,h0⟩:=trodAll_one hA
 obtain ⟨rfl,rfl⟩:=trodVars_none hV
 obtain ⟨a0,jP,e0⟩:=cV (Ul Tryz.underlying22 Tryz.underlying3 (by kernel_rfl)) h0 (by obtain ⟨_,_,_,rfl⟩:=okWide_slice Tryz.underlying22 (hval 0 22 v0 rfl rfl);rfl)
 refine ((S1).2 oo W [v0] (jU W) ⟨e0,trivial⟩).mono fun e W' ⟨v,he,hv,hb⟩=> ?_
 subst he
 obtain rfl:v= .bool true:=hv
 exact ⟨_,rfl,YI bZ (by kernel_rfl) rfl Tryz.underlying4 rfl cJ (by rw [hpq];simp) hW' rfl hb⟩
theorem Le:(Rows.planOrderRow.inPlace==Tryz.pinned.checked.prog.inPlace 3)=true:=by kernel_rfl
theorem Lf:(Rows.planOrderRow.unfollowed==Tryz.pinned.checked.prog.unfollowed 3)=true:=by kernel_rfl
theorem Lh:(Rows.planOrderRow.recurses==Tryz.pinned.checked.prog.recurses 3)=true:=by kernel_rfl
theorem Li:(Rows.planOrderRow.named==Tryz.pinned.checked.prog.varsNamed 3)=true:=by kernel_rfl
theorem MU:joinedFacts Tryz.pinned.checked.prog 3 Tryz.f3 Rows.planOrderSpec Rows.planOrderRow=true:=by
 unfold joinedFacts
 rw [Le,Lf,Lh,Li]
 kernel_rfl
theorem planOrder_holds:Rows.PlanOrderSaid:=
 OpenClaim.holds_of_wide 3 Tryz.f3 rfl rfl rfl rfl rfl rfl rfl ⟨rfl, rfl, rfl, rfl, rfl⟩ rfl rfl rfl rfl rfl (by kernel_rfl) Tryz.func3 MU
  (of_decide_eq_true (by kernel_rfl)) (by unfold Func.isWrapper;first|(rw [if_pos (by decide+kernel)];kernel_rfl)|(rw [if_neg (by decide+kernel)];exact ⟨rfl,rfl⟩))
  (fun os started H enc _=>Ld os started H enc)
end Go.Proofs.YtmpglcehonnpkaaGreat
