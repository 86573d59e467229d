/-
  RunnerFinishes: whatever the input, the law of this name returns true and its arguments read as before; the table of trailing zeros is tied to the program. No conditions.
-/
import Derived.Test.YtmocaapoeefgkaaGreatDoorTie
import Derived.Test.YtmocaapoeefgkaaGreatDoorCards
import Derived.LaidMore
import Derived.OpenShut
import Derived.Stop.Joined
import Derived.ProofKit
import Derived.Test.YtmocaapoeefgkaaGreatDoorRcFP7
set_option linter.all false
set_option maxRecDepth 40000
set_option maxHeartbeats 16000000
namespace Go.Proofs.YtmocaapoeefgkaaGreatDoor
open Go Go.RowKit Cp Go.Proofs.Tryz
theorem iZ {e:Dl} {l:List Bb} {n:Nat} {s:List Int} {fr N8:Int} (hz:e.sz n) (hn:n≤800000) (hc:∀c∈l,c.C1.fits∧c.C1.small) (Zl:s.length≤4096):BC prog 220 [agg (CK e),DR l,ints s,int fr,int N8] (EH):=by
 refine fo func220 rfl ⟨rfl,rfl⟩ fun M0 w0=> ?_
 have hxz:=eN (l:=l) (s:=s) hz hc
 have hxf:=hxz.fits AA
 have hxg:=hxz.lg
 refine ac ?_
 refine ao ?_
 refine tp rfl (LI (SS hz hn hc) rfl rfl rfl rfl) ?_
 refine ao ?_
 refine Tl rfl rfl rfl rfl z31 IG (fun b1=> ?_)
 refine sf 0 11 ⟨rfl,rfl,rfl⟩ rfl rfl rfl rfl ?_
 refine ao ?_
 refine ac ?_
 refine wk [24,11,4,3] rfl ?_
 refine Tr.cn rfl ?_ ?_<;>intro h1 q1
 refine a2 ?_
 · exact BK
 refine a2 ?_
 refine Tr.block (Tr.BD _ (kk [27,11,4,3] rfl) (fun k:Nat=>[(28,int ((k:Nat):Int))]) (fun k:Nat=>k≤((Vd e l s).1.BU).length) (fun k:Nat=>((Vd e l s).1.BU).length-k) 0 (Nat.zero_le _) kz ?_)
 rintro k BR
 refine ac ?_
 refine Tr.seq ?_
 refine Tr.cn rfl ?_ ?_<;>intro h2 q2
 have Ai:k<((Vd e l s).1.BU).length:=AH h2
 obtain ⟨x,Ah⟩:=at_ Ai
 refine a2 ?_
 refine ao ?_
 refine tp rfl (jL (O7 hxf) rfl rfl rfl rfl rfl) ?_
 refine TO.ex 36 rfl (fun z1=>TO.fact 36 rfl fun Eh=> ?_)
 refine ao ?_
 refine Tl rfl rfl rfl rfl JZ Fi (fun b2=> ?_)
 refine sf 0 14 ⟨rfl,rfl,rfl⟩ rfl rfl rfl rfl ?_
 refine ao ?_
 · exact Lh
 have BM:k=((Vd e l s).1.BU).length:=by have:=AJ h2;omega
 refine a3 ?_
 · exact BK
theorem UF {a b:Int}  :BC prog 123 [int a,int b] (EH):=by
 refine fo func123 rfl ⟨rfl,rfl⟩ fun M0 w0=> ?_
 · repeat' first|exact Ax _ Lr|refine ac ?_|(refine Ch.cg rfl rfl rfl ?_ ?_<;>intro h q)
theorem Ke {s:List Int} {m:Nat} (hs:∀i∈s,0≤i∧i<(m:Int)) (hm:m≤40):BC prog 219 [ints s] (Cp.ex fun z:Nat=>fact (z<2 ^ m) (int ((z:Nat):Int))):=by
 refine fo func219 rfl ⟨rfl,rfl⟩ fun M0 w0=>(Tr.Cf 0 rfl fun D_=> ?_)
 refine a3 ?_
 refine Tr.block (Tr.Co _ (kk [7,6] rfl) (fun (z:Nat) (k:Nat)=>[(8,int ((k:Nat):Int)),(3,int ((z:Nat):Int))]) (fun (z:Nat) (k:Nat)=>Hp M0 w0 FT ([])) (fun (z:Nat) (k:Nat)=>k≤s.length∧z<2 ^ m) (fun (z:Nat) (k:Nat)=>s.length-k) (0) (0)  (⟨Nat.zero_le _,Nat.two_pow_pos m⟩) ⟨kq,kz⟩ (fun _ _ h=>h) ?_)
 rintro z k  ⟨hk0,hz⟩
 refine ac ?_
 refine Tr.seq ?_
 refine Tr.cn rfl ?_ ?_<;>intro h1 q1
 have hk:k<s.length:=AH h1
 obtain ⟨i,hx⟩:=at_ hk
 have hir:=hs i (List.mem_of_getElem? hx)
 refine ac ?_
 refine Tr.seq (Tr.block (Tr.seq (Tr.Aj (co rfl (AD rfl underlying51 Bw vq vq AA (Aa hx)) ?_))))
 refine a2 ?_
 refine co rfl (d_ rfl vq vq AA AA) ?_
 refine co rfl (zF (m:=m) rfl vq vq hz (Nat.pow_lt_pow_right AA AA) hm) ?_
 refine a2 ?_
 exact Fin.Cm ((z|||2 ^ i.toNat)) (k+1)  (⟨⟨by omega,Nat.or_lt_two_pow hz (Nat.pow_lt_pow_right AA AA)⟩,by omega⟩) ⟨⟨_,rfl,AG k⟩,kz⟩ (fun _ _ h=>h)
 have aY:=AJ h1
 refine a3 ?_
 · exact Ax _ (A9 hz Lr)
abbrev X6:Pr:=Cp.ex fun z:List Int=>fact (z.length≤1000) (ints z)
theorem ia {s:List Int} {k n:Int} (h:∀i∈s,0≤i∧i<n) (hk:0≤k∧k<n):∀i∈EJ s k true,0≤i∧i<n:=fun i hi=>by
 rcases DF.1 hi with rfl|hi
 · exact hk
 · exact h i hi
theorem ig {n:Nat}:(List.replicate n (Value.bool false)).map is=((List.replicate n false).map fun x:Bool=>[Cp.bool x]).flatten++[]:=by
 rw [List.map_replicate,List.map_replicate,List.append_nil]
 induction n with
 |zero=>rfl
 |succ n ih=>rw [List.replicate_succ,List.replicate_succ,List.flatten_cons,←ih];rfl
theorem UG {e:Dl} {l:List Bb} {n:Nat} {so done:List Int} {fr N8:Int} {b N m:Nat} (hz:e.sz n) (hn:n≤800000) (hc:∀c∈l,c.C1.fits∧c.C1.small) (hN:2 ^ l.length=N) (hl:l.length≤10) (hm:so.length+m=l.length) (hdr:∀i∈done,0≤i∧i<((l.length:Nat):Int)) (hdl:done.length≤so.length) (ih:∀m':Nat,m=m'+1→∀so done:List Int,so.length+m'=l.length→(∀i∈done,0≤i∧i<((l.length:Nat):Int))→done.length≤so.length→Ba prog 178 [agg (CK e),DR l,ints so,ints done,int fr,int N8,is (JY N b)] (D6 [X6,EH]) (EV b 4 (fun x:Bool=>[Cp.bool x]) (fun L:List Bool=>L.length=N) []) (fun _=>EV b 4 (fun x:Bool=>[Cp.bool x]) (fun L:List Bool=>L.length=N) [])):Ba prog 178 [agg (CK e),DR l,ints so,ints done,int fr,int N8,is (JY N b)] (D6 [X6,EH]) (EV b 4 (fun x:Bool=>[Cp.bool x]) (fun L:List Bool=>L.length=N) []) (fun _=>EV b 4 (fun x:Bool=>[Cp.bool x]) (fun L:List Bool=>L.length=N) []):=by
 refine Ba.of func178 rfl rfl BA fun M0 w0 S rs M1 w1=> ?_
 refine ac ?_
 refine Tr.seq (Tr.seq (Tr.J5 0 rfl fun dd1 ADf=> ?_))
 refine ap ?_
 refine tp rfl (Ct (Ke (m:=l.length) hdr AA) rfl rfl) ?_
 refine TO.ex 22 rfl (fun z1=>TO.fact 22 rfl fun Eh=> ?_)
 have hzN:z1<N:=hN ▸ Eh
 refine tp rfl (BH rfl underlying160 U0 (vl rfl) (vl rfl) AA AA) (TO.rd 0 rfl rfl rfl AB (BB rfl Yz (vl rfl) (RW (g:=(fun x:Bool=>Cp.bool x)) AA)) ?_)
 refine ap ?_
 refine Tr.cn rfl ?_ ?_<;>intro h1 q1
 refine Tr.seq (Tr.Gf (fun L:List Bool=>L.length=N) 0 rfl ADf ?_)
 refine ac ?_
 refine Tr.ret (Fin.AF (Fin.FK rfl rfl ?_ rfl ?_))
 · exact Lj
 · exact BK
 refine ac ?_
 refine Tr.seq (Tr.seq (Tr.Gf (fun L:List Bool=>L.length=N) 0 rfl ADf ?_))
 refine ac ?_
 refine co rfl (kc5 (iZ hz hn hc AA) rfl rfl rfl rfl rfl rfl) ?_
 refine ac ?_
 refine wk [30,7,6,5,4,3,2,1] rfl (Tr.ex 30 rfl fun AII=> ?_)
 refine Tr.cn rfl ?_ ?_<;>intro h2 q2
 refine ac ?_
 refine wk [35,7,6,5,4,3,2,1] rfl ?_
 refine Tr.cn rfl ?_ ?_<;>intro h3 q3
 refine ac ?_
 refine Tr.ret (Fin.AF (Fin.AF (Fin.FK rfl rfl ?_ rfl ?_)))
 · exact Ax so (A9 AA Lr)
 · exact BK
 refine a2 ?_
 refine Tr.block (Tr.Mo _ (kk [38,7,6,5,4,3,2,1] rfl) (fun (k:Nat)=>[(39,int ((k:Nat):Int))]) (fun (k:Nat)=>Hp M0 w0 S (EV b 4 (fun x:Bool=>[Cp.bool x]) (fun L:List Bool=>L.length=N) []::Ak M1 w1::rs)) (fun (k:Nat)=>k≤l.length) (fun (k:Nat)=>l.length-k) (0)  (Nat.zero_le _) kz (fun _ _ h=>h) ?_)
 rintro k  hk0
 refine ac ?_
 refine Tr.seq ?_
 refine Tr.cn rfl ?_ ?_<;>intro h4 q4
 have hk:k<l.length:=AH h4
 refine a3 ?_
 refine co rfl (CL (KP) rfl rfl rfl) ?_
 refine ac ?_
 refine wk [44,39,38,16,7,6,5,4,3,2,1] rfl ?_
 refine Tr.cn rfl ?_ ?_<;>intro h5 q5
 refine a2 ?_
 exact Fin.Mp (k+1)  (⟨by omega,by omega⟩) ⟨⟨_,rfl,AG k⟩,kz⟩ (fun _ _ h=>h)
 refine ac ?_
 refine ap ?_
 refine TO.pad ?_
 refine TO.Dj 0 rfl rfl AB (ER rfl rfl AB rfl underlying22 Bw IY z3 rfl AB ⟨_,rfl,AQ _⟩ (vl rfl) (by simp only [List.length_append,List.length_map,List.length_cons,List.length_nil];unfold maxLen;omega) (by simp only [List.length_append,List.length_map,List.length_cons,List.length_nil];omega) (Bu BO ⟨_,rfl,DL 1⟩)) (fun v1=> ?_)
 refine ap ?_
 refine wk [39,38,17,16,7,6,5,4,3,2,1] rfl ?_
 refine ap ?_
 refine TO.Dj 0 rfl rfl AB (B8 rfl rfl rfl rfl underlying22 Bw IY z3 (Kb rfl) (Kf rfl) (A_ BO (Ka rfl))) (fun v2=> ?_)
 refine ap ?_
 refine wk [39,38,17,16,7,6,5,4,3,2,1] rfl (Tr.seq (Tr.rx ?_))
 refine ay ?_
 refine xo rfl (fun _=>LI (Gt AA) rfl rfl rfl rfl) ?_
 refine ay ?_
 refine Cx.ef 1 rfl rfl AB (An rfl rfl AB rfl (ih (m-1) AA (so++[((k:Nat):Int)]) (EJ done ((k:Nat):Int) true) CE (ia hdr AA) (by have:=OE done ((k:Nat):Int) true;simp;omega)) ⟨ke rfl,ke rfl,⟨_,rfl,Pr.le_trans (As _ _) (Pr.le_of_eq (by show _=slice 1 ((so++[((k:Nat):Int)]).map fun n=>[int n]);rw [List.nil_append,List.map_append];rfl))⟩,kz⟩) ?_
 refine ay ?_
 refine Cx.nil ⟨by kernel_rfl,?_⟩
 refine BJ.done al3 (Fin.go (Tr.drop 0 (wk [39,38,19,18,7,6,5,4,3,2,1] rfl ?_)))
 refine ac ?_
 refine Tr.ex 64 rfl fun AIJ=> ?_
 refine Tr.cn rfl ?_ ?_<;>intro h6 q6
 refine ac ?_
 refine wk [15,14] rfl (Tr.ret (Fin.AU (Fin.AF (Fin.AF (Fin.AU (Fin.AF (Fin.FK rfl rfl ?_ rfl ?_)))))))
 · exact Lr
 · exact BK
 refine a2 ?_
 exact Fin.Mp (k+1)  (⟨by omega,by omega⟩) ⟨⟨_,rfl,AG k⟩,kz⟩ (fun _ _ h=>h)
 have aY:=AJ h4
 refine ac ?_
 refine Tr.seq (Tr.J5 0 rfl fun dd2 AG0=> ?_)
 refine ap ?_
 refine tp rfl (Ct (Ke (m:=l.length) hdr AA) rfl rfl) ?_
 refine TO.ex 69 rfl (fun z2=>TO.fact 69 rfl fun Ig=> ?_)
 have hzN:z2<N:=hN ▸ Ig
 refine tp rfl (BH rfl underlying160 U0 (vl rfl) (vl rfl) AA AA) ?_
 refine TO.DY 0 rfl rfl (Ay rfl rfl (vl rfl) (Vo rfl) U0 rfl Qs (GA (f:=fun x:Bool=>[Cp.bool x]) (x:=true) (fun _=>rfl) AA)) ?_
 refine ap ?_
 refine Tr.weak [] trivial (Tr.seq ?_)
 refine Tr.Gf (fun L:List Bool=>L.length=N) 0 rfl (by rw [List.length_set];exact AG0) ?_
 refine ac ?_
 refine Tr.ret (Fin.FK rfl rfl ?_ rfl ?_)
 · exact Lj
 · exact BK
 refine ac ?_
 refine Tr.seq (Tr.J5 0 rfl fun dd3 AG1=> ?_)
 refine ap ?_
 refine tp rfl (Ct (Ke (m:=l.length) hdr AA) rfl rfl) ?_
 refine TO.ex 69 rfl (fun z3=>TO.fact 69 rfl fun hz3=> ?_)
 have hzN:z3<N:=hN ▸ hz3
 refine tp rfl (BH rfl underlying160 U0 (vl rfl) (vl rfl) AA AA) ?_
 refine TO.DY 0 rfl rfl (Ay rfl rfl (vl rfl) (Vo rfl) U0 rfl Qs (GA (f:=fun x:Bool=>[Cp.bool x]) (x:=true) (fun _=>rfl) AA)) ?_
 refine ap ?_
 refine Tr.weak [] trivial (Tr.seq ?_)
 refine Tr.Gf (fun L:List Bool=>L.length=N) 0 rfl (by rw [List.length_set];exact AG1) ?_
 refine ac ?_
 refine Tr.ret (Fin.FK rfl rfl ?_ rfl ?_)
 · exact Lj
 · exact BK
theorem X7 {e:Dl} {l:List Bb} {n:Nat} {fr N8:Int} {b N:Nat} (hz:e.sz n) (hn:n≤800000) (hc:∀c∈l,c.C1.fits∧c.C1.small) (hN:2 ^ l.length=N) (hl:l.length≤10):∀(m:Nat) {so done:List Int},so.length+m=l.length→(∀i∈done,0≤i∧i<((l.length:Nat):Int))→done.length≤so.length→Ba Tryz.prog 178 [agg (CK e),DR l,ints so,ints done,int fr,int N8,is (JY N b)] (D6 [X6,EH]) (EV b 4 (fun x:Bool=>[Cp.bool x]) (fun L:List Bool=>L.length=N) []) (fun _=>EV b 4 (fun x:Bool=>[Cp.bool x]) (fun L:List Bool=>L.length=N) [])
 |0,so,done,h1,h2,h3=>UG hz hn hc hN hl h1 h2 h3 (fun m' h=>absurd h AA)
 |m+1,so,done,h1,h2,h3=>UG hz hn hc hN hl h1 h2 h3 (fun m' h so' done' g1 g2 g3=>by
  obtain rfl:m'=m:=by omega
  exact X7 hz hn hc hN hl m' g1 g2 g3)
theorem S5 {e:Dl} {l:List Bb} {n:Nat} {fr N8:Int} (hz:e.sz n) (hn:n≤800000) (hc:∀c∈l,c.C1.fits∧c.C1.small)  :BC prog 125 [agg (CK e),DR l,int fr,int N8] (D6 [X6,anyI]):=by
 refine fo func125 rfl ⟨rfl,rfl⟩ fun M0 w0=>(Tr.Cf 1 rfl fun Fl=> ?_)
 have hf:=hz.fits AA
 refine a2 ?_
 refine co rfl (Ct (Dy hf) rfl rfl) ?_
 refine an ?_ ?_<;>intro h1 q1
 refine ac ?_
 refine Tr.ret (Fin.AF (Fin.Dm rfl (Br.D4 _ _) rfl ?_ rfl ?_))
 · exact Lj
 · exact BK
 refine ac ?_
 refine an ?_ ?_<;>intro h2 q2
 refine ac ?_
 refine Tr.ret (Fin.AF (Fin.Dm rfl (Br.D4 _ _) rfl ?_ rfl ?_))
 · exact Lj
 · exact BK
 have ADg:l.length≤10:=by have:=q2;omega
 obtain ⟨N,hN⟩:∃N,2 ^ l.length=N:=⟨_,rfl⟩
 have hN2:N≤1024:=by have:=Nat.pow_le_pow_right (n:=2) AA ADg;omega
 refine a2 ?_
 refine co rfl (CL (UF) rfl rfl rfl) (co rfl (JB rfl vq) ?_)
 refine ac ?_
 refine Tr.ex 22 rfl fun AIK=> ?_
 refine Tr.cn rfl ?_ ?_<;>intro h3 q3
 refine ac ?_
 refine wk [9,8] rfl (Tr.ret (Fin.AF (Fin.Dm rfl (Br.D4 _ _) rfl ?_ rfl ?_)))
 · exact Lj
 · exact BK
 refine ac ?_
 refine wk [4,3,2,1] rfl ?_
 refine ap ?_
 refine tp rfl (Ae.le (d_ rfl vq vq AA AA) (int_eq (b:=((N:Nat):Int)) (by rw [Int.toNat_natCast,hN]))) ?_
 refine TO.Uy rfl rfl AB rfl underlying160 U0 by4 z4 rfl vq vq Fz AA (fun b1=> ?_)
 refine ap ?_
 refine Tr.seq (Tr.eqC 0 (((List.replicate N false).map fun x:Bool=>[Cp.bool x]).flatten++[]) rfl ig (Tr.Gf (fun L:List Bool=>L.length=N) 0 rfl List.length_replicate ?_))
 refine ap ?_
 refine TO.G4 0 rfl rfl AB (An rfl rfl AB rfl (X7 (so:=[]) (done:=[]) hz hn hc hN ADg l.length AV (fun i hi=>by cases hi) (Nat.le_refl _)) ⟨kq,kq,⟨_,rfl,AQ 1⟩,⟨_,rfl,AQ 1⟩,kz⟩) ?_
 refine ap ?_
 refine wk [12,11] rfl (Tr.seq (Tr.seq (Tr.ex 12 rfl fun x12=> ?_)))
 refine an ?_ ?_<;>intro h4 q4
 refine ac ?_
 refine Tr.ret (Fin.AF (Fin.Dm rfl (Br.D4 _ _) rfl ?_ rfl ?_))
 · exact Lj
 · exact BK
 refine a2 ?_
 refine Tr.ret (Fin.Dm rfl (Br.D4 _ _) rfl ?_ rfl ?_)
 · exact Lr
 · exact BK
structure SX (m:Nat) (l:List Bb) (r:List BI) (d:List Int):Prop where
 fit:NU m l r d
 l7:l.length≤7
 ok:∀c∈l,c.C1.fits∧c.C1.small
 rl:r.length≤1000
abbrev eO (m:Nat):Pr:=Cp.ex fun z:List Bb×List BI×List Int=>fact (SX m z.1 z.2.1 z.2.2) (JT z.1 z.2.1 z.2.2)
theorem ij {m:Nat}:SX m [] [] []:=⟨⟨by decide,rfl,by decide,fun j y c h=>absurd h AV⟩,by decide,(fun c h=>by cases h),by decide⟩
theorem FC {m:Nat}:Pr.le (agg [is (.slice none 0 0),is (.slice none 0 0),is (.slice none 0 0)]) (eO m):=Ax ([],[],[]) (A9 ij (BS ⟨AQ 8,AQ 2,AQ 1,trivial⟩))
theorem vI {e:Dl} {c:BT} {l:List Bb} {r:List BI} {fr:Int}:(∀x∈Nu e c l r fr,x∈l)∧(Nu e c l r fr).length≤l.length∧(Qw e c l r fr).length≤r.length:=by
 unfold Nu Qw
 by_cases h:KW e c l r fr=0
 · rw [if_pos h,if_pos h];exact ⟨fun x h=>h,Nat.le_refl _,Nat.le_refl _⟩
 · rw [if_neg h,if_neg h];exact ⟨(fun x h=>by cases h),Nat.zero_le _,Nat.zero_le _⟩
abbrev ADh:Pr:=Cp.ex fun z:List BI=>fact (z.length≤1000) (reqs z)
theorem Hj {e:Dl} {c:BT} {l:List Bb} {r:List BI} {n:Nat} {fr N8:Int} (hz:e.sz n) (hn:n≤800000) (hc:∀x∈l,x.C1.fits∧x.C1.small) (h7:l.length≤7) (hrl:r.length≤1000):BC prog 124 [agg (CK e),L_ c,DR l,reqs r,NS,SN,Vz,int fr,int N8] (D6 [eO e.Bt.length,qI,EH]):=by
 refine fo func124 rfl ⟨rfl,rfl⟩ fun M0 w0=> ?_
 have hf:=hz.fits AA
 obtain ⟨hs1,VI,hs3⟩:=vI (e:=e) (c:=c) (l:=l) (r:=r) (fr:=fr)
 have hcs:∀x∈Nu e c l r fr,x.C1.fits∧x.C1.small:=fun x hx=>hc x (hs1 x hx)
 refine Tr.seq (Tr.Ao ?_)
 iterate 4 refine tp rfl (Bj rfl Cv) ?_
 refine Tl rfl rfl rfl rfl z35 E9 (fun b1=> ?_)
 refine Tl rfl rfl rfl rfl z107 Eb (fun b2=> ?_)
 refine ao ?_
 refine ao ?_
 refine tp rfl (kc5 (S4 (e:=e) (c:=c) (l:=l) (r:=r) (fr:=fr) hf (fun x hx=>(hc x hx).2) AA) rfl rfl rfl rfl rfl rfl) ?_
 refine ao ?_
 refine Tl rfl rfl rfl rfl z35 E9 (fun b3=> ?_)
 refine sf 0 21 ⟨rfl,rfl,rfl⟩ rfl rfl rfl rfl ?_
 refine ao ?_
 refine wk [22,21,19,18,15,13,9,8,7,5] rfl ?_
 refine an ?_ ?_<;>intro h1 q1
 refine ao ?_
 refine TO.AK 1 rfl rfl rfl vq Cv rfl CJ rfl rfl (TO.AK 0 rfl rfl rfl vq Cv rfl Bn rfl rfl ?_)
 refine ao ?_
 refine wk [20,19,18] rfl (Tr.ret (Fin.AF (Fin.FL rfl (AM.cell 1 rfl rfl Cu CJ rfl Lr) (AM.cell 0 rfl rfl CS Bn rfl Lr) (AM.tmp rfl Lr) ?_)))
 refine A7 ⟨?_,?_,?_,trivial⟩
 · exact FC
 · exact D3
 · exact BK
 refine ac ?_
 refine ao ?_
 refine tp rfl (jL (iY (l:=(Nu e c l r fr)) (r:=(Qw e c l r fr)) (d:=(Ua e c l r fr)) hz hn hcs AA) rfl rfl rfl rfl rfl) ?_
 refine TO.ex 43 rfl (fun z1=>TO.fact 43 rfl fun Eh=> ?_)
 refine ao ?_
 refine Tl rfl rfl rfl rfl z107 Eb (fun b4=> ?_)
 refine sf 0 23 ⟨rfl,rfl,rfl⟩ rfl rfl rfl rfl ?_
 refine ao ?_
 refine wk [23,22,21,19,18,15,13,9,5] rfl ?_
 refine an ?_ ?_<;>intro h2 q2
 refine ao ?_
 refine TO.AK 1 rfl rfl rfl vq Cv rfl CJ rfl rfl (TO.AK 0 rfl rfl rfl vq Cv rfl Bn rfl rfl ?_)
 refine ao ?_
 refine wk [20,19,18] rfl (Tr.ret (Fin.AF (Fin.FL rfl (AM.cell 1 rfl rfl Cu CJ rfl Lr) (AM.cell 0 rfl rfl CS Bn rfl Lr) (AM.tmp rfl Lr) ?_)))
 refine A7 ⟨?_,?_,?_,trivial⟩
 · exact FC
 · exact D3
 · exact BK
 have hz0:z1=0:=by have:=q2;omega
 obtain ⟨_,hfp⟩:=Eh hz0
 have hpq:SX e.Bt.length (Nu e c l r fr) (Qw e c l r fr) (Ua e c l r fr):=⟨hfp,by omega,hcs,by omega⟩
 refine ac ?_
 refine ao ?_
 refine tp rfl (kc5 (aP (l:=(Nu e c l r fr)) (r:=(Qw e c l r fr)) (d:=(Ua e c l r fr)) hz hn hcs AA) rfl rfl rfl rfl rfl rfl) ?_
 refine TO.ex 56 rfl (fun z2=>TO.fact 56 rfl fun Ig=> ?_)
 refine ao ?_
 refine wk [24,23,22,21,19,18] rfl (Tr.seq ?_)
 by_cases Ig:z2.2=0
 refine Tr.rx ?_
 refine ay ?_
 refine Cx.yes rfl rfl rfl HP rfl AB (fun _=>BX rfl vq) (Cx.yes rfl rfl rfl HP rfl AB (fun _=>CB rfl underlying22 vq) (Cx.yes rfl rfl rfl HP rfl AB (fun _=>ki rfl rfl rfl rfl) (xo rfl (fun _=>F1 rfl vq HP vq) ?_)))
 refine ay ?_
 refine Cx.nil ⟨by kernel_rfl,?_⟩
 refine BJ.done W7 (Fin.go (wk [20,19,18] rfl (Tr.ret (Fin.FL rfl (AM.cell 1 rfl rfl Cu CJ rfl Lr) (AM.cell 0 rfl rfl CS Bn rfl Lr) (AM.tmp rfl Lr) ?_))))
 refine A7 ⟨?_,?_,?_,trivial⟩
 · exact bL
 · exact Lr
 · exact BK
 refine Tr.rx ?_
 refine ay ?_
 refine Cx.no rfl rfl rfl (Be HP) rfl AB (Cx.no rfl rfl rfl (Be HP) rfl AB (Cx.no rfl rfl rfl (Be HP) rfl AB (xo rfl (fun _=>Ku rfl vq HP vq) ?_)))
 refine ay ?_
 refine Cx.nil ⟨by kernel_rfl,?_⟩
 refine BJ.done W7 (Fin.go (wk [20,19,18] rfl (Tr.ret (Fin.FL rfl (AM.cell 1 rfl rfl Cu CJ rfl Lr) (AM.cell 0 rfl rfl CS Bn rfl Lr) (AM.tmp rfl Lr) ?_))))
 refine A7 ⟨?_,?_,?_,trivial⟩
 · exact bL
 · exact Lr
 · exact BK
theorem Kg {o:List Int} (ho:o.length≤1000):BC Tryz.prog 126 [ints o] ADh:=(aC ho).le (fun _ _ _ h=>h) (fun M w v ⟨z,hz,h⟩=>⟨z,Nat.le_trans hz ho,h⟩)
theorem UH {n:Nat} (hn:n≤1000):BC Tryz.prog 127 [int ((n:Nat):Int)] X6:=(qE hn).le (fun _ _ _ h=>h) (fun M w v ⟨z,hz,h⟩=>⟨z,Nat.le_trans hz hn,h⟩)
theorem qJ {c:BT} {l:List Bb} (h:EY c l=0):∀x∈l,0≤x.AZ∧x.AZ<(c.I3.length:Nat):=fun x hx=>by
 have hb:=(SH h).2 x hx
 unfold PI at hb
 rw [Bool.or_eq_false_iff,decide_eq_false_iff_not,decide_eq_false_iff_not] at hb
 omega
theorem qK {e:Dl} {l:List Bb} (h:l.length≤24):(vG e l).length≤1000:=by
 have h1:=SV e l l.length
 have h2:=Nat.mul_le_mul h h
 unfold vG;omega
theorem iq {e:Dl} {c:BT} {l:List Bb} {n:Nat} {fr N8:Int} (hz:e.sz n) (hn:n≤800000) (hc:∀x∈l,x.C1.fits∧x.C1.small) (h7:l.length≤7):BC prog 66 [agg (CK e),L_ c,DR l,NS,SN,Vz,int fr,int N8] (D6 [eO e.Bt.length,qI,anyI]):=by
 refine BC.of func66 rfl rfl BA fun M0 w0=> ?_
 have hf:=hz.fits AA
 refine Tr.seq (Tr.Ao ?_)
 iterate 4 refine tp rfl (Bj rfl (Va rfl)) ?_
 refine Tl rfl rfl rfl rfl z35 E9 (fun b1=> ?_)
 refine Tl rfl rfl rfl rfl z107 Eb (fun b2=> ?_)
 refine tm rfl (TO.nil (Fin.go (Tr.seq (Tr.seq (Tr.Aj (co rfl (AP rfl Db DZ (vl rfl) rfl rfl) (co rfl (AR rfl (Dy hf) ⟨ke rfl,trivial⟩) (co rfl (ki rfl rfl rfl rfl) (Ch.nil (Fin.go ?_))))))))))
 refine Tr.cn rfl ?_ ?_<;>intro h1 q1
 refine Tr.seq (Tr.Ao (tp rfl (Al (rows:=[]) rfl Lt E9 trivial rfl) (tp rfl (Al (rows:=[]) rfl JM Eb trivial rfl) (TO.AK 1 rfl rfl rfl (vl rfl) (Va rfl) rfl CJ rfl rfl (TO.AK 0 rfl rfl rfl (vl rfl) (Va rfl) rfl Bn rfl rfl (tm rfl (TO.nil (Fin.go (F6 16 17 18 rfl (Tr.ret (Fin.AF (Fin.FL rfl (AM.cell 1 rfl rfl Cu CJ rfl (Lr)) (AM.cell 0 rfl rfl CS Bn rfl (Lr)) (AM.tmp rfl (Lr)) ?_))))))))))))
 refine A7 ⟨?_,?_,?_,trivial⟩
 · exact FC
 · exact D3
 · exact C3
 have VB:FR e=true:=by cases h_:FR e with|true=>rfl|false=>exact absurd h1 MW
 refine Tr.skip (Fin.go (Tr.seq (Tr.seq (Tr.Aj (co rfl (AP rfl Ol Wl (vl rfl) rfl rfl) (co rfl (PK rfl G8 rfl rfl) (co rfl (F5 rfl Oj rfl) (co rfl (CB rfl underlying27 (vl rfl)) ?_))))))))
 refine co rfl (AR rfl (KK (c:=c) (m:=((e.Bt.length:Nat):Int))) ⟨ke rfl,ke rfl,trivial⟩) ?_
 refine cm rfl (Ch.nil (Fin.go (Ip 2 4 6 7 8 9 11 13 16 17 19 rfl (Tr.seq (Tr.Aj (cm rfl (co rfl (ki rfl rfl rfl rfl) (Ch.nil (Fin.go ?_)))))))))
 refine Tr.cn rfl ?_ ?_<;>intro h2 q2
 refine Tr.seq (Tr.Ao (tp rfl (Al (rows:=[]) rfl Lt E9 trivial rfl) (tp rfl (Al (rows:=[]) rfl JM Eb trivial rfl) (tm rfl (TO.AK 1 rfl rfl rfl (vl rfl) (Va rfl) rfl CJ rfl rfl (TO.AK 0 rfl rfl rfl (vl rfl) (Va rfl) rfl Bn rfl rfl (tm rfl (TO.nil (Fin.go (F6 16 17 18 rfl (Tr.ret (Fin.AF (Fin.FL rfl (AM.cell 1 rfl rfl Cu CJ rfl (Lr)) (AM.cell 0 rfl rfl CS Bn rfl (Lr)) (AM.tmp rfl (Lr)) ?_)))))))))))))
 refine A7 ⟨?_,?_,?_,trivial⟩
 · exact FC
 · exact D3
 · exact C3
 have hck:c.check ((e.Bt.length:Nat):Int)=0:=by simpa using h2
 obtain ⟨how,htl,hth⟩:=T5 hck
 refine Tr.skip (Fin.go (Tr.seq (Tr.seq (Tr.Aj (co rfl (AP rfl Ol Wl (vl rfl) rfl rfl) (cm rfl ?_))))))
 refine co rfl (AR rfl (SW (c:=c) (l:=l) how) ⟨ke rfl,ke rfl,trivial⟩) ?_
 refine cm rfl (co rfl (Aq rfl (vl rfl) rfl) (co rfl (Aq rfl (vl rfl) rfl) (cm rfl (cm rfl (Ch.nil (Fin.go (Ip 2 4 6 7 8 9 11 13 16 17 21 rfl (Tr.seq (Tr.Aj (cm rfl (co rfl (ki rfl rfl rfl rfl) (Ch.nil (Fin.go ?_)))))))))))))
 refine Tr.cn rfl ?_ ?_<;>intro h3 q3
 refine Tr.seq (Tr.Ao (tp rfl (Al (rows:=[]) rfl Lt E9 trivial rfl) (tp rfl (Al (rows:=[]) rfl JM Eb trivial rfl) (tm rfl (TO.AK 1 rfl rfl rfl (vl rfl) (Va rfl) rfl CJ rfl rfl (TO.AK 0 rfl rfl rfl (vl rfl) (Va rfl) rfl Bn rfl rfl (tm rfl (TO.nil (Fin.go (F6 16 17 18 rfl (Tr.ret (Fin.AF (Fin.FL rfl (AM.cell 1 rfl rfl Cu CJ rfl (Lr)) (AM.cell 0 rfl rfl CS Bn rfl (Lr)) (AM.tmp rfl (Lr)) ?_)))))))))))))
 refine A7 ⟨?_,?_,?_,trivial⟩
 · exact FC
 · exact D3
 · exact C3
 have hep:=qJ (c:=c) (l:=l) Ks
 refine Tr.skip (Fin.go (Tr.seq (Tr.seq (Tr.Aj (co rfl (AP rfl N5 TT (vl rfl) rfl rfl) (cm rfl (co rfl (AR rfl (KY) ⟨ke rfl,ke rfl,ke rfl,trivial⟩) (cm rfl (Ch.nil (Fin.go (Ip 2 4 6 7 8 9 11 13 16 17 22 rfl (Tr.seq (Tr.ex 22 rfl fun x22=>(Tr.Aj ?_))))))))))))))
 refine cm rfl (co rfl (ki rfl rfl rfl rfl) (Ch.nil (Fin.go ?_)))
 refine Tr.cn rfl ?_ ?_<;>intro h4 q4
 refine Tr.seq (Tr.Ao (tp rfl (Al (rows:=[]) rfl Lt E9 trivial rfl) (tp rfl (Al (rows:=[]) rfl JM Eb trivial rfl) (tm rfl (TO.AK 1 rfl rfl rfl (vl rfl) (Va rfl) rfl CJ rfl rfl (TO.AK 0 rfl rfl rfl (vl rfl) (Va rfl) rfl Bn rfl rfl (tm rfl (TO.nil (Fin.go (F6 16 17 18 rfl (Tr.ret (Fin.AF (Fin.FL rfl (AM.cell 1 rfl rfl Cu CJ rfl (Lr)) (AM.cell 0 rfl rfl CS Bn rfl (Lr)) (AM.tmp rfl (Lr)) ?_)))))))))))))
 refine A7 ⟨?_,?_,?_,trivial⟩
 · exact FC
 · exact D3
 · exact C3
 refine Tr.skip (Fin.go (Tr.seq (Tr.seq (Tr.Aj (cm rfl (cm rfl (co rfl (AR rfl (UF) ⟨ke rfl,ke rfl,trivial⟩) (co rfl (JB rfl (vl rfl)) (Ch.nil (Fin.go (Ip 2 4 6 7 8 9 11 13 16 17 73 rfl (Tr.ex 73 rfl fun AIL=> ?_))))))))))))
 refine Tr.cn rfl ?_ ?_<;>intro h5 q5
 refine Tr.seq (Tr.Ao (tp rfl (Al (rows:=[]) rfl Lt E9 trivial rfl) (tp rfl (Al (rows:=[]) rfl JM Eb trivial rfl) (TO.AK 1 rfl rfl rfl (vl rfl) (Va rfl) rfl CJ rfl rfl (TO.AK 0 rfl rfl rfl (vl rfl) (Va rfl) rfl Bn rfl rfl (tm rfl (TO.nil (Fin.go (F6 16 17 18 rfl (Tr.ret (Fin.AF (Fin.FL rfl (AM.cell 1 rfl rfl Cu CJ rfl (Lr)) (AM.cell 0 rfl rfl CS Bn rfl (Lr)) (AM.tmp rfl (Lr)) ?_))))))))))))
 refine A7 ⟨?_,?_,?_,trivial⟩
 · exact FC
 · exact D3
 · exact C3
 refine Tr.skip (Fin.go (Tr.seq (Tr.Aj (co rfl (AP rfl Db DZ (vl rfl) rfl rfl) (cm rfl ?_)))))
 refine co rfl (AR rfl (Xy hf VB AA (fun x hx=>by have:=hep x hx;omega)) ⟨ke rfl,ke rfl,trivial⟩) ?_
 refine cm rfl (co rfl (Aq rfl (vl rfl) rfl) (co rfl (Aq rfl (vl rfl) rfl) (cm rfl (cm rfl (Ch.nil (Fin.go (Ip 2 4 6 7 8 9 11 13 16 17 23 rfl (Tr.seq (Tr.seq (Tr.Ao (tp rfl (AP rfl Db DZ (vl rfl) rfl rfl) (tp rfl (AP rfl Ol Wl (vl rfl) rfl rfl) (tm rfl ?_)))))))))))))
 refine tm rfl (tp rfl (AP rfl N5 TT (vl rfl) rfl rfl) (tm rfl (tp rfl (AP rfl RF Wm (vl rfl) rfl rfl) (tm rfl (tm rfl ?_)))))
 refine tp rfl (AR rfl (Hj (e:=e) (c:=c) (l:=l) (r:=vG e l) hz hn hc AA (qK AA)) ⟨ke rfl,ke rfl,ke rfl,ke rfl,ke rfl,ke rfl,ke rfl,ke rfl,ke rfl,trivial⟩) ?_
 refine tm rfl (tp rfl (Aq rfl (vl rfl) rfl) ?_)
 refine TO.ex 93 rfl (fun p1=>TO.fact 93 rfl fun PR=> ?_)
 refine tp rfl (Aq rfl (vl rfl) rfl) (tp rfl (Aq rfl (vl rfl) rfl) ?_)
 refine Tl rfl rfl rfl rfl z35 E9 (fun b3=> ?_)
 refine Tl rfl rfl rfl rfl z107 Eb (fun b4=> ?_)
 refine TO.AK 1 rfl rfl rfl (vl rfl) (Va rfl) rfl CJ rfl rfl (TO.freeze 1 25 rfl rfl (TO.AK 0 rfl rfl rfl (vl rfl) (Va rfl) rfl Bn rfl rfl (TO.freeze 0 26 rfl rfl (tm rfl (TO.nil (Fin.go (rH 2 4 6 7 8 9 11 13 16 17 25 26 27 rfl (Tr.seq (Tr.Aj (cm rfl (Ch.nil (Fin.go (rH 2 4 6 7 8 9 11 13 16 17 25 26 96 rfl (Tr.ex 96 rfl fun AIM=> ?_))))))))))))))
 refine Tr.cn rfl ?_ ?_<;>intro h6 q6
 refine Tr.seq (Tr.GV mixed [none,none,some (0,1,true,0),some (0,0,true,0),none] BV (xo rfl (fun _=>AP rfl Cu CJ (vl rfl) rfl rfl) (xo rfl (fun _=>AP rfl CS Bn (vl rfl) rfl rfl) (Cx.DY 1 rfl rfl (Ay rfl rfl (vl rfl) (Va rfl) CJ rfl BA rfl) (Cx.DY 0 rfl rfl (Ay rfl rfl (vl rfl) (Va rfl) Bn rfl BA rfl) (xm rfl ?_))))))
 refine Cx.nil ⟨rfl,?_⟩
 refine BJ.done (Aw.cons (Aw.cons (Aw.map _))) (Fin.go (F6 16 17 18 rfl (Tr.ret (Fin.AF (Fin.FL rfl (AM.cell 1 rfl rfl Cu CJ rfl (Lr)) (AM.cell 0 rfl rfl CS Bn rfl (Lr)) (AM.tmp rfl (Lr)) ?_)))))
 refine A7 ⟨?_,?_,?_,trivial⟩
 · exact Pk
 · exact Lr
 · exact C3
 refine Tr.skip (Fin.go (Wa 2 4 6 7 8 9 11 13 16 17 rfl (Tr.seq (Tr.seq (Tr.Aj (cm rfl (co rfl (CB rfl underlying32 (vl rfl)) (co rfl (ki rfl rfl rfl rfl) (Ch.nil (Fin.go ?_))))))))))
 refine Tr.cn rfl ?_ ?_<;>intro h7 q7
 refine Tr.seq (Tr.Ao (tp rfl (Al (rows:=[]) rfl Lt E9 trivial rfl) (tp rfl (Al (rows:=[]) rfl JM Eb trivial rfl) (TO.AK 1 rfl rfl rfl (vl rfl) (Va rfl) rfl CJ rfl rfl (TO.AK 0 rfl rfl rfl (vl rfl) (Va rfl) rfl Bn rfl rfl (tm rfl (TO.nil (Fin.go (F6 16 17 18 rfl (Tr.ret (Fin.AF (Fin.FL rfl (AM.cell 1 rfl rfl Cu CJ rfl (Lr)) (AM.cell 0 rfl rfl CS Bn rfl (Lr)) (AM.tmp rfl (Lr)) ?_))))))))))))
 refine A7 ⟨?_,?_,?_,trivial⟩
 · exact FC
 · exact D3
 · exact C3
 refine Tr.skip (Fin.go (Tr.seq (Tr.seq (Tr.Aj (co rfl (AP rfl Db DZ (vl rfl) rfl rfl) (cm rfl (cm rfl (cm rfl (co rfl (AR rfl (S5 hz hn hc) ⟨ke rfl,ke rfl,ke rfl,ke rfl,trivial⟩) (cm rfl (co rfl (Aq rfl (vl rfl) rfl) (co rfl (Aq rfl (vl rfl) rfl) (cm rfl ?_)))))))))))))
 refine cm rfl (Ch.nil (Fin.go (AA4 2 4 6 7 8 9 11 13 16 17 28 29 rfl (Tr.seq (Tr.ex 29 rfl fun x29=>(Tr.Aj (cm rfl (co rfl (ki rfl rfl rfl rfl) (Ch.nil (Fin.go (AA4 2 4 6 7 8 9 11 13 16 17 28 113 rfl ?_)))))))))))
 refine Tr.cn rfl ?_ ?_<;>intro h8 q8
 refine Tr.seq (Tr.ex 28 rfl fun sq=>(Tr.fact 28 rfl fun hsq=>(Tr.pad (Tr.pad (Tr.GV mixed [none,none,none,none,none,none,none,none,none,none,none,none,none,none,none,some (0,0,true,30),some (0,1,true,31),some (30,0,true,30),some (31,1,true,31),none] BV (xo rfl (fun _=>AP rfl Db DZ (vl rfl) rfl rfl) (xo rfl (fun _=>AP rfl Ol Wl (vl rfl) rfl rfl) (xm rfl (xm rfl (xo rfl (fun _=>AR rfl (Kg hsq) ⟨ke rfl,trivial⟩) (xo rfl (fun _=>AP rfl N5 TT (vl rfl) rfl rfl) (xm rfl (xo rfl (fun _=>AP rfl RF Wm (vl rfl) rfl rfl) ?_)))))))))))))
 refine xm rfl (xm rfl ?_)
 refine xo rfl (fun _=>AR rfl (BC.o9 [agg (CK e),L_ c,DR l] ([]:List BI) AV fun z hz_=>Hj (e:=e) (c:=c) (l:=l) (r:=z) hz hn hc AA hz_) ⟨ke rfl,ke rfl,ke rfl,ke rfl,ke rfl,ke rfl,ke rfl,ke rfl,ke rfl,trivial⟩) ?_
 refine xm rfl (xo rfl (fun _=>Aq rfl (vl rfl) rfl) (xo rfl (fun _=>Aq rfl (vl rfl) rfl) (xo rfl (fun _=>Aq rfl (vl rfl) rfl) (Cx.ef 0 rfl rfl AB (CN rfl rfl AB rfl z35 E9) (Cx.ef 1 rfl rfl AB (CN rfl rfl AB rfl z107 Eb) (Cx.DY 0 rfl rfl (K_ (f:=fun z:List Bb×List BI×List Int=>[DR z.1,reqs z.2.1,ints z.2.2]) (φ:=fun z:List Bb×List BI×List Int=>SX e.Bt.length z.1 z.2.1 z.2.2) rfl rfl rfl AB rfl rfl CJ (fun _=>rfl) rfl) (Cx.DY 1 rfl rfl (Cs rfl rfl rfl rfl (Va rfl) Bn rfl rfl) (xm rfl ?_))))))))
 refine Cx.nil ⟨rfl,?_⟩
 refine BJ.open_ 0 30 rfl rfl (fun v1=> ?_)
 refine BJ.open_ 1 31 rfl rfl (fun v2=> ?_)
 refine BJ.done (Aw.cons (Aw.cons (Aw.cons (Aw.cons (Aw.map _))))) (Fin.MN 30 0 _ rfl rfl (fun _=>rfl) (fun b5=> ?_))
 refine Fin.eA 0 rfl (fun pe1 ADi=> ?_)
 refine Fin.MN 31 1 _ rfl rfl (fun _=>rfl) (fun b6=> ?_)
 refine Fin.go (rH 2 4 6 7 8 9 11 13 16 17 30 31 32 rfl (Tr.seq (Tr.Aj (cm rfl (Ch.nil (Fin.go (rH 2 4 6 7 8 9 11 13 16 17 30 31 129 rfl (Tr.ex 129 rfl fun AHe=> ?_))))))))
 refine Tr.cn rfl ?_ ?_<;>intro h9 q9
 refine Tr.seq (Tr.GV mixed [some (0,0,false,0),some (0,1,false,0),some (0,3,true,0),some (0,2,true,0),none] BV (IF 0 rfl rfl (B4 rfl Cu CJ (vl rfl) rfl rfl) (IF 1 rfl rfl (B4 rfl CS Bn (vl rfl) rfl rfl) (Cx.DY 3 rfl rfl (Ay rfl rfl (vl rfl) (Va rfl) CJ rfl BA rfl) (Cx.DY 2 rfl rfl (Ay rfl rfl (vl rfl) (Va rfl) Bn rfl BA rfl) (xm rfl ?_))))))
 refine Cx.nil ⟨rfl,?_⟩
 refine BJ.done (Aw.cons (Aw.cons (Aw.cons (Aw.cons (Aw.map _))))) (Fin.go (Tr.drop 0 (Tr.drop 0 (F6 16 17 18 rfl (Tr.ret (Fin.AF (Fin.FL rfl (AM.cell 1 rfl rfl Cu CJ rfl (Lr)) (AM.cell 0 rfl rfl CS Bn rfl (Lr)) (AM.tmp rfl (Lr)) ?_)))))))
 refine A7 ⟨?_,?_,?_,trivial⟩
 · exact Pk
 · exact Lr
 · exact C3
 refine Tr.skip (Fin.go (Tr.drop 0 (Tr.drop 0 (Wa 2 4 6 7 8 9 11 13 16 17 rfl (Tr.seq (Tr.seq (Tr.pad (Tr.pad (Tr.GV mixed [none,none,none,none,none,none,none,none,none,none,none,none,none,none,none,none,none,some (0,0,true,33),some (0,1,true,34),some (33,0,true,33),some (34,1,true,34),none] BV (xo rfl (fun _=>AP rfl Db DZ (vl rfl) rfl rfl) (xo rfl (fun _=>AP rfl Ol Wl (vl rfl) rfl rfl) (xm rfl (xm rfl ?_)))))))))))))
 refine xo rfl (fun _=>CB rfl underlying32 (vl rfl)) ?_
 refine xo rfl (fun _=>AR rfl (UH (n:=l.length) AA) ⟨ke rfl,trivial⟩) ?_
 refine xo rfl (fun _=>AR rfl (BC.o9 [] [] (Nat.zero_le _) fun z hz_=>Kg hz_) ⟨ke rfl,trivial⟩) (xo rfl (fun _=>AP rfl N5 TT (vl rfl) rfl rfl) (xm rfl (xo rfl (fun _=>AP rfl RF Wm (vl rfl) rfl rfl) (xm rfl (xm rfl ?_)))))
 refine xo rfl (fun _=>AR rfl (BC.o9 [agg (CK e),L_ c,DR l] ([]:List BI) AV fun z hz_=>Hj (e:=e) (c:=c) (l:=l) (r:=z) hz hn hc AA hz_) ⟨ke rfl,ke rfl,ke rfl,ke rfl,ke rfl,ke rfl,ke rfl,ke rfl,ke rfl,trivial⟩) ?_
 refine xm rfl (xo rfl (fun _=>Aq rfl (vl rfl) rfl) (xo rfl (fun _=>Aq rfl (vl rfl) rfl) (xo rfl (fun _=>Aq rfl (vl rfl) rfl) (Cx.ef 0 rfl rfl AB (CN rfl rfl AB rfl z35 E9) (Cx.ef 1 rfl rfl AB (CN rfl rfl AB rfl z107 Eb) (Cx.DY 0 rfl rfl (K_ (f:=fun z:List Bb×List BI×List Int=>[DR z.1,reqs z.2.1,ints z.2.2]) (φ:=fun z:List Bb×List BI×List Int=>SX e.Bt.length z.1 z.2.1 z.2.2) rfl rfl rfl AB rfl rfl CJ (fun _=>rfl) rfl) (Cx.DY 1 rfl rfl (Cs rfl rfl rfl rfl (Va rfl) Bn rfl rfl) (xm rfl ?_))))))))
 refine Cx.nil ⟨rfl,?_⟩
 refine BJ.open_ 0 33 rfl rfl (fun v3=> ?_)
 refine BJ.open_ 1 34 rfl rfl (fun v4=> ?_)
 refine BJ.done (Aw.cons (Aw.cons (Aw.cons (Aw.cons (Aw.map _))))) (Fin.MN 33 0 _ rfl rfl (fun _=>rfl) (fun b7=> ?_))
 refine Fin.eA 0 rfl (fun pe2 AIN=> ?_)
 refine Fin.MN 34 1 _ rfl rfl (fun _=>rfl) (fun b8=> ?_)
 refine Fin.go (wk5 16 17 33 34 35 rfl (Tr.seq (Tr.Aj (cm rfl (Ch.nil (Fin.go (Tr.ex 149 rfl fun ADj=> ?_)))))))
 refine Tr.cn rfl ?_ ?_<;>intro h10 Re
 refine Tr.seq (Tr.GV mixed [some (0,0,false,0),some (0,1,false,0),some (0,3,true,0),some (0,2,true,0),none] BV (IF 0 rfl rfl (B4 rfl Cu CJ (vl rfl) rfl rfl) (IF 1 rfl rfl (B4 rfl CS Bn (vl rfl) rfl rfl) (Cx.DY 3 rfl rfl (Ay rfl rfl (vl rfl) (Va rfl) CJ rfl BA rfl) (Cx.DY 2 rfl rfl (Ay rfl rfl (vl rfl) (Va rfl) Bn rfl BA rfl) (xm rfl ?_))))))
 refine Cx.nil ⟨rfl,?_⟩
 refine BJ.done (Aw.cons (Aw.cons (Aw.cons (Aw.cons (Aw.map _))))) (Fin.go (Tr.drop 0 (Tr.drop 0 (Tr.ret (Fin.AF (Fin.FL rfl (AM.cell 1 rfl rfl Cu CJ rfl (Lr)) (AM.cell 0 rfl rfl CS Bn rfl (Lr)) (AM.tmp rfl (Lr)) ?_))))))
 refine A7 ⟨?_,?_,?_,trivial⟩
 · exact Pk
 · exact Lr
 · exact C3
 refine Tr.skip (Fin.go (Tr.drop 0 (Tr.drop 0 (Tr.seq (Tr.Ao (tp rfl (Al (rows:=[]) rfl Lt E9 trivial rfl) (tp rfl (Al (rows:=[]) rfl JM Eb trivial rfl) (TO.AK 1 rfl rfl rfl (vl rfl) (Va rfl) rfl CJ rfl rfl (TO.AK 0 rfl rfl rfl (vl rfl) (Va rfl) rfl Bn rfl rfl (tm rfl (TO.nil (Fin.go (Tr.ret (Fin.FL rfl (AM.cell 1 rfl rfl Cu CJ rfl (Lr)) (AM.cell 0 rfl rfl CS Bn rfl (Lr)) (AM.tmp rfl (Lr)) ?_))))))))))))))
 refine A7 ⟨?_,?_,?_,trivial⟩
 · exact FC
 · exact D3
 · exact C3
 refine Tr.skip (Fin.go (Tr.seq (Tr.seq (Tr.pad (Tr.pad (Tr.GV mixed [none,none,none,none,none,none,none,none,none,none,none,none,none,none,none,none,none,some (0,0,true,33),some (0,1,true,34),some (33,0,true,33),some (34,1,true,34),none] BV (xo rfl (fun _=>AP rfl Db DZ (vl rfl) rfl rfl) (xo rfl (fun _=>AP rfl Ol Wl (vl rfl) rfl rfl) (xm rfl (xm rfl (xo rfl (fun _=>CB rfl underlying32 (vl rfl)) ?_)))))))))))
 refine xo rfl (fun _=>AR rfl (UH (n:=l.length) AA) ⟨ke rfl,trivial⟩) ?_
 refine xo rfl (fun _=>AR rfl (BC.o9 [] [] (Nat.zero_le _) fun z hz_=>Kg hz_) ⟨ke rfl,trivial⟩) (xo rfl (fun _=>AP rfl N5 TT (vl rfl) rfl rfl) (xm rfl (xo rfl (fun _=>AP rfl RF Wm (vl rfl) rfl rfl) (xm rfl (xm rfl ?_)))))
 refine xo rfl (fun _=>AR rfl (BC.o9 [agg (CK e),L_ c,DR l] ([]:List BI) AV fun z hz_=>Hj (e:=e) (c:=c) (l:=l) (r:=z) hz hn hc AA hz_) ⟨ke rfl,ke rfl,ke rfl,ke rfl,ke rfl,ke rfl,ke rfl,ke rfl,ke rfl,trivial⟩) ?_
 refine xm rfl (xo rfl (fun _=>Aq rfl (vl rfl) rfl) (xo rfl (fun _=>Aq rfl (vl rfl) rfl) (xo rfl (fun _=>Aq rfl (vl rfl) rfl) (Cx.ef 0 rfl rfl AB (CN rfl rfl AB rfl z35 E9) (Cx.ef 1 rfl rfl AB (CN rfl rfl AB rfl z107 Eb) (Cx.DY 0 rfl rfl (K_ (f:=fun z:List Bb×List BI×List Int=>[DR z.1,reqs z.2.1,ints z.2.2]) (φ:=fun z:List Bb×List BI×List Int=>SX e.Bt.length z.1 z.2.1 z.2.2) rfl rfl rfl AB rfl rfl CJ (fun _=>rfl) rfl) (Cx.DY 1 rfl rfl (Cs rfl rfl rfl rfl (Va rfl) Bn rfl rfl) (xm rfl ?_))))))))
 refine Cx.nil ⟨rfl,?_⟩
 refine BJ.open_ 0 33 rfl rfl (fun v5=> ?_)
 refine BJ.open_ 1 34 rfl rfl (fun v6=> ?_)
 refine BJ.done (Aw.cons (Aw.cons (Aw.cons (Aw.cons (Aw.map _))))) (Fin.MN 33 0 _ rfl rfl (fun _=>rfl) (fun b9=> ?_))
 refine Fin.eA 0 rfl (fun pe3 AIO=> ?_)
 refine Fin.MN 34 1 _ rfl rfl (fun _=>rfl) (fun b10=> ?_)
 refine Fin.go (wk5 16 17 33 34 35 rfl (Tr.seq (Tr.Aj (cm rfl (Ch.nil (Fin.go (Tr.ex 149 rfl fun ADj=> ?_)))))))
 refine Tr.cn rfl ?_ ?_<;>intro h11 Sw
 refine Tr.seq (Tr.GV mixed [some (0,0,false,0),some (0,1,false,0),some (0,3,true,0),some (0,2,true,0),none] BV (IF 0 rfl rfl (B4 rfl Cu CJ (vl rfl) rfl rfl) (IF 1 rfl rfl (B4 rfl CS Bn (vl rfl) rfl rfl) (Cx.DY 3 rfl rfl (Ay rfl rfl (vl rfl) (Va rfl) CJ rfl BA rfl) (Cx.DY 2 rfl rfl (Ay rfl rfl (vl rfl) (Va rfl) Bn rfl BA rfl) (xm rfl ?_))))))
 refine Cx.nil ⟨rfl,?_⟩
 refine BJ.done (Aw.cons (Aw.cons (Aw.cons (Aw.cons (Aw.map _))))) (Fin.go (Tr.drop 0 (Tr.drop 0 (Tr.ret (Fin.AF (Fin.FL rfl (AM.cell 1 rfl rfl Cu CJ rfl (Lr)) (AM.cell 0 rfl rfl CS Bn rfl (Lr)) (AM.tmp rfl (Lr)) ?_))))))
 refine A7 ⟨?_,?_,?_,trivial⟩
 · exact Pk
 · exact Lr
 · exact C3
 refine Tr.skip (Fin.go (Tr.drop 0 (Tr.drop 0 (Tr.seq (Tr.Ao (tp rfl (Al (rows:=[]) rfl Lt E9 trivial rfl) (tp rfl (Al (rows:=[]) rfl JM Eb trivial rfl) (TO.AK 1 rfl rfl rfl (vl rfl) (Va rfl) rfl CJ rfl rfl (TO.AK 0 rfl rfl rfl (vl rfl) (Va rfl) rfl Bn rfl rfl (tm rfl (TO.nil (Fin.go (Tr.ret (Fin.FL rfl (AM.cell 1 rfl rfl Cu CJ rfl (Lr)) (AM.cell 0 rfl rfl CS Bn rfl (Lr)) (AM.tmp rfl (Lr)) ?_))))))))))))))
 refine A7 ⟨?_,?_,?_,trivial⟩
 · exact FC
 · exact D3
 · exact C3
theorem zV (s:DS):s.of [1,0,3]=1∨s.of [1,0,3]=0∨s.of [1,0,3]=3:=by have:=s.RB (l:=[1,0,3]) AV;simp at this;exact this
theorem eP (s:DS) {k:Nat} (hk:k≤7):0≤((k:Nat):Int)*s.of [1,0,3]∧((k:Nat):Int)*s.of [1,0,3]≤21:=by rcases zV s with h|h|h<;>rw [h]<;>omega
theorem qL {o:List Int} {x:Int} (h:∀y∈o,0≤y∧y≤40000) (hx:0≤x∧x≤40000):∀y∈o++[x],0≤y∧y≤40000:=fun y hy=>by
 rcases List.mem_append.1 hy with hy|hy
 · exact h y hy
 · rw [List.mem_singleton] at hy;subst hy;exact hx
theorem zW {b:Nat} {s:DS}  :Ba prog 13 [ptr b 0] (Cp.ex fun e:Dl=>fact (Oy e) (D6 [agg (CK e),eO e.Bt.length,EH])) (Dc b s) (fun _=>Is 104 b):=by
 refine Ba.of func13 rfl rfl BA fun M0 w0 S rs M1 w1=> ?_
 refine Tr.seq (Tr.Ao ?_)
 refine Tl rfl rfl rfl rfl z31 IG (fun b1=> ?_)
 refine Tl rfl rfl rfl rfl z35 E9 (fun b2=> ?_)
 refine tm rfl (TO.nil (Fin.go (Tr.seq (Tr.Ao (tm rfl (TO.G4 2 rfl rfl AB (An rfl rfl AB rfl (mm) ⟨ke rfl,trivial⟩) ?_))))))
 refine TO.ex 13 rfl (fun z1=>TO.fact 13 rfl fun Eh=> ?_)
 refine Tl rfl rfl rfl rfl z31 IG (fun b3=> ?_)
 refine TO.AK 0 rfl rfl rfl (vl rfl) (Va rfl) rfl DZ rfl rfl (TO.freeze 0 5 rfl rfl (TO.nil (Fin.TR 2 rfl (fun s1=> ?_))))
 refine Fin.go (Tr.seq (Tr.Ao (tm rfl (tp rfl (AP rfl Db DZ (vl rfl) rfl rfl) ?_))))
 refine TO.G4 2 rfl rfl AB (An rfl rfl AB rfl (uB (e:=z1) Eh.snd ⟨by have:=Eh.n2;omega,Eh.n3⟩) ⟨ke rfl,ke rfl,trivial⟩) ?_
 refine TO.ex 16 rfl (fun z2=>TO.fact 16 rfl fun Ig=> ?_)
 refine tm rfl (TO.nil (Fin.TR 2 rfl (fun s2=> ?_)))
 refine Fin.go (wk5 0 2 3 5 6 rfl (Tr.seq ?_))
 have jZ:∀x∈z2,x.C1.fits∧x.C1.small:=fun x hx=>⟨(Ig.any x hx).fits,(Ig.any x hx).small⟩
 have h7:=Ig.len
 refine Tr.pad (Tr.pad (Tr.GV mixed [none,none,none,none,none,none,none,none,none,none,none,none,none,some (0,0,true,7),some (0,1,true,8),some (7,0,true,7),some (8,1,true,8),none] BV (xo rfl (fun _=>AP rfl Db DZ (vl rfl) rfl rfl) (xo rfl (fun _=>PK rfl G8 rfl rfl) (xo rfl (fun _=>F5 rfl Oj rfl) (xo rfl (fun _=>CB rfl underlying27 (vl rfl)) ?_))))))
 refine xo rfl (fun _=>AR rfl (zR (n:=z1.Bt.length) (by have:=Eh.n3;omega)) ⟨ke rfl,trivial⟩) ?_
 refine xm rfl (xo rfl (fun _=>Al (rows:=[]) rfl ABL ABM trivial rfl) (xo rfl (fun _=>Al (rows:=[]) rfl ABN ABO trivial rfl) ?_))
 refine xo rfl (fun _=>AR rfl (iq (e:=z1) (c:=wj z1.Bt.length) (l:=z2) Eh.sz AA jZ Ig.len) ⟨ke rfl,ke rfl,ke rfl,⟨_,rfl,BS ⟨AQ 6,AQ 2,trivial⟩⟩,⟨_,rfl,AQ _⟩,⟨_,rfl,BS ⟨AQ 1,Lr,trivial⟩⟩,ke rfl,ke rfl,trivial⟩) ?_
 refine xm rfl (xo rfl (fun _=>Aq rfl (vl rfl) rfl) (xo rfl (fun _=>Aq rfl (vl rfl) rfl) (xo rfl (fun _=>Aq rfl (vl rfl) rfl) (Cx.ef 0 rfl rfl AB (CN rfl rfl AB rfl z35 E9) (Cx.ef 1 rfl rfl AB (CN rfl rfl AB rfl z107 Eb) (Cx.DY 0 rfl rfl (K_ (f:=fun z:List Bb×List BI×List Int=>[DR z.1,reqs z.2.1,ints z.2.2]) (φ:=fun z:List Bb×List BI×List Int=>SX z1.Bt.length z.1 z.2.1 z.2.2) rfl rfl rfl AB rfl rfl CJ (fun _=>rfl) rfl) (Cx.DY 1 rfl rfl (Cs rfl rfl rfl rfl (Va rfl) Bn rfl rfl) (xm rfl ?_))))))))
 refine Cx.nil ⟨rfl,?_⟩
 refine BJ.open_ 0 7 rfl rfl (fun v1=> ?_)
 refine BJ.open_ 1 8 rfl rfl (fun v2=> ?_)
 refine BJ.done (Aw.cons (Aw.cons (Aw.cons (Aw.cons (Aw.cons (Aw.cons (Aw.map _))))))) (Fin.MN 7 0 _ rfl rfl (fun _=>rfl) (fun b4=> ?_))
 refine Fin.eA 0 rfl (fun pe1 ADi=> ?_)
 refine Fin.MN 8 1 _ rfl rfl (fun _=>rfl) (fun b5=> ?_)
 refine Fin.go (Tr.drop 1 (jI 0 2 3 5 6 7 9 rfl (Tr.seq (Tr.seq (Tr.ex 9 rfl fun x9=>(Tr.Aj (cm rfl (co rfl (ki rfl rfl rfl rfl) (Ch.nil (Fin.go ?_))))))))))
 refine Tr.cn rfl ?_ ?_<;>intro h1 q1
 refine Tr.seq (Tr.GV mixed [none,some (0,0,false,0),some (0,2,true,0),some (0,1,true,0),none] BV (xo rfl (fun _=>AP rfl Db DZ (vl rfl) rfl rfl) (IF 0 rfl rfl (B4 rfl Cu CJ (vl rfl) rfl rfl) (Cx.DY 2 rfl rfl (Ay rfl rfl (vl rfl) (Va rfl) DZ rfl BA rfl) (Cx.DY 1 rfl rfl (Ay rfl rfl (vl rfl) (Va rfl) CJ rfl BA rfl) (xm rfl ?_))))))
 refine Cx.nil ⟨rfl,?_⟩
 refine BJ.done (Aw.cons (Aw.cons (Aw.cons (Aw.cons (Aw.cons (Aw.map _)))))) (Fin.go (Tr.drop 0 (Tr.ret (Fin.AF (Fin.G5 2 _ rfl rfl (Fin.vg [_,_] rfl (AM.cell 1 rfl rfl Db DZ rfl (Lr)) (AM.cell 0 rfl rfl Cu CJ rfl (Lr)) (AM.tmp rfl (Lr)) ?_))))))
 · exact Ax z1 (A9 Eh (A7 ⟨Lr,Ax pe1 (A9 ADi (Lr)),Ax _ (Lr),trivial⟩))
 refine Tr.skip (Fin.go (Tr.drop 0 (Tr.seq (Tr.Ao (tm rfl (tm rfl (tm rfl (tp rfl (CB rfl underlying32 (vl rfl)) ?_))))))))
 refine TO.G4 2 rfl rfl AB (An rfl rfl AB rfl (vE (n:=z2.length) (by have:=Ig.len;omega)) ⟨ke rfl,ke rfl,trivial⟩) ?_
 refine TO.ex 38 rfl (fun z3=>TO.fact 38 rfl fun hz3=> ?_)
 revert z3
 intro rq hrq
 refine tp rfl (Al (rows:=[(0,[_]),(1,[_])]) rfl Lt E9 ⟨⟨rfl,(Vo rfl)⟩,⟨⟨rfl,(Vo rfl)⟩,trivial⟩⟩ rfl) ?_
 refine Tl rfl rfl rfl rfl z35 E9 (fun b6=> ?_)
 refine TO.AK 0 rfl rfl rfl (vl rfl) (Va rfl) rfl CJ rfl rfl (TO.nil (Fin.TR 3 rfl (fun s3=> ?_)))
 refine Fin.go (wk6 0 2 3 5 6 10 rfl (Tr.seq (Tr.seq (Tr.Aj (cm rfl (co rfl (CB rfl underlying32 (vl rfl)) (cm rfl (Ch.nil (Fin.go (Tr.block (Tr.H8 0 [DR z2,reqs rq,Ac (.slice none 0 0) (ints [])] rfl ⟨Lr,Lr,Bq rfl,trivial⟩ (Tr.B_ 3 1 (Tr.Fg [(0,_),(2,_),(3,_),(5,_),(10,_),(41,_)] ⟨ke rfl,ke rfl,ke rfl,ke rfl,ke rfl,ke rfl,trivial⟩ (fun (k:Nat) (dd:List Int) (s2:DS) v=>[(42,int ((k:Nat):Int))]) (fun (k:Nat) (dd:List Int) (s2:DS) v=>Hp M0 w0 S (At 3 1 v::AE true b6 35 [DR z2,reqs rq,Ac v (ints dd)]::AE true b2 35 (([.slice none 0 0,.slice none 0 0,.slice none 0 0]:List Value).map is)::AE true b1 31 (([.slice none 0 0,.slice none 0 0,.slice none 0 0]:List Value).map is)::Dc b s2::Ak M1 w1::rs)) (fun (k:Nat) (dd:List Int) (s2:DS)=>(k≤z2.length∧dd.length=k)∧∀x∈dd,0≤x∧x≤40000) (fun (k:Nat) (dd:List Int) (s2:DS)=>z2.length-k) (0) ([]) (_) (.slice none 0 0) (⟨⟨Nat.zero_le _,rfl⟩,fun x h=>GI⟩) ⟨ke rfl,trivial⟩ (fun _ _ h=>h) ?_)))))))))))))
 rintro k dd s2 v ⟨⟨hk0,hdl⟩,hdb⟩
 refine Tr.seq (Tr.Aj (co rfl (ki rfl rfl rfl rfl) (Ch.nil (Fin.go (Tr.seq ?_)))))
 refine Tr.cn rfl ?_ ?_<;>intro h2 q2
 have hk:k<z2.length:=AH h2
 refine Tr.skip (Fin.go (Tr.seq (Tr.block (Tr.seq (Tr.Aj (cm rfl (cm rfl (Ch.nil (Fin.go (Tr.pad (Tr.GV mixed [none,some (0,2,false,0),none,none,none,some (0,5,true,0),none,none,some (0,1,true,53),none,some (0,2,true,53)] BV (xo rfl (fun _=>AW rfl U1 (vl rfl)) (IF 2 rfl rfl (BB rfl Mt (vl rfl) rfl) ?_)))))))))))))
 refine xm rfl (xm rfl (xo rfl (fun _=>AO (xs:=[.const (.int .i64 (1)),.const (.int .i64 (0)),.const (.int .i64 (3))]) (rows:=[[_],[_],[_]]) rfl rfl underlying22 Bw z3 rfl AB ⟨⟨Am,(Vo rfl)⟩,⟨⟨Am,(Vo rfl)⟩,⟨⟨Am,(Vo rfl)⟩,trivial⟩⟩⟩ AB) ?_))
 refine Cx.ef 5 rfl rfl AB (An rfl rfl AB rfl (W8 (l:=[1,0,3]) AV AV) ⟨ke rfl,(Kf rfl),trivial⟩) ?_
 refine xo rfl (fun _=>kG rfl (vl rfl) (vl rfl) (by have:=eP s2 (k:=k) AA;unfold Oc;omega)) ?_
 refine xo rfl (fun _=>AO (xs:=[.tmp 51]) (rows:=[[_]]) rfl rfl underlying22 Bw z3 rfl AB ⟨⟨Am,(Vo rfl)⟩,trivial⟩ AB) ?_
 refine Cx.ef 1 rfl rfl AB (B8 rfl rfl rfl rfl underlying22 Bw IY z3 (Kb rfl) (Kf rfl) (A_ BO (Ka rfl))) ?_
 refine xo rfl (fun _=>AW rfl U1 (vl rfl)) (Cx.DY 2 rfl rfl (F7 rfl rfl rfl (vl rfl) rfl Ls BA) ?_)
 refine Cx.nil ⟨rfl,?_⟩
 refine BJ.RC 1 2 53 rfl rfl AB rfl (fun v3=> ?_)
 refine BJ.done (Aw.cons (Aw.cons (Aw.cons (Aw.cons (Aw.cons (Aw.cons (Aw.cons (Aw.map _)))))))) (Fin.block (Fin.go (Tr.drop 0 (jI 0 2 3 5 10 41 42 rfl (Tr.Aj (Lq rfl rfl rfl rfl AA (cm rfl (Ch.nil ?_))))))))
 refine Fin.H8 1 [DR z2,reqs rq,Ac v3 (ints (dd++[(((k:Nat):Int)*s2.of [1,0,3])]))] rfl ⟨Lr,Lr,BE DI,trivial⟩ ?_
 exact Fin.EG (k+1) (dd++[(((k:Nat):Int)*s2.of [1,0,3])]) (_) v3 (⟨⟨⟨by omega,by simp;omega⟩,qL hdb (by have:=eP s2 (k:=k) AA;omega)⟩,by omega⟩) ⟨⟨_,rfl,AG k⟩,ke rfl,ke rfl,ke rfl,ke rfl,ke rfl,ke rfl,trivial⟩ (fun _ _ h=>h)
 have aY:=AJ h2
 refine Tr.exit (Fin.AY (Fin.AY (Fin.Au (Fin.go (Tr.seq (Tr.GV mixed [none,some (0,1,false,0),some (0,3,true,0),some (0,2,true,0),none] BV (xo rfl (fun _=>AP rfl Db DZ (vl rfl) rfl rfl) (IF 1 rfl rfl (B4 rfl Cu CJ (vl rfl) rfl rfl) (Cx.DY 3 rfl rfl (Ay rfl rfl (vl rfl) (Va rfl) DZ rfl BA rfl) (Cx.DY 2 rfl rfl (Ay rfl rfl (vl rfl) (Va rfl) CJ rfl BA rfl) (xm rfl ?_)))))))))))
 refine Cx.nil ⟨rfl,?_⟩
 refine BJ.done (Aw.cons (Aw.cons (Aw.cons (Aw.cons (Aw.cons (Aw.cons (Aw.map _))))))) (Fin.go (Tr.ret (Fin.G5 4 _ rfl rfl (Fin.vg [_,_,_,_] rfl (AM.cell 3 rfl rfl Db DZ rfl (Lr)) (AM.cell 2 rfl rfl Cu CJ rfl (Lr)) (AM.tmp rfl (Lr)) ?_))))
 · exact Ax z1 (A9 Eh (A7 ⟨Lr,Ax (z2,rq,dd) (A9 ⟨⟨by show z2.length≤24;omega,by show dd.length=z2.length;omega,hrq.1.valid (by show z2.length≤24;omega),fun j y c hj hy hcj=>⟨hdb y (List.mem_of_getElem? hy),(Ig.any c (List.mem_of_getElem? hcj)).lo,(Ig.any c (List.mem_of_getElem? hcj)).hi⟩⟩,h7,jZ,by have:=hrq.2;show rq.length≤1000;omega⟩ (BS ⟨Lr,Lr,As _ _,trivial⟩)),Ax _ (Lr),trivial⟩))
section
variable {β:Type} {c:β×β→Int}
def H7 (c:β×β→Int):Nat→List β→List β
 |0,st=>st
 |j+1,st=>match st[j+1]?,st[j]? with
  |some x,some y=>if c (x,y)<0 then H7 c j ((st.set (j+1) y).set j x) else st
  |_,_=>st
def SY (c:β×β→Int) (x:β):List β→List β→List β
 |[],dn=>x::dn
 |y::rp,dn=>if c (x,y)<0 then SY c x rp (y::dn) else (y::rp).reverse++x::dn
def isB (c:β×β→Int) (l:List β):Nat→List β
 |0=>l
 |i+1=>H7 c i (isB c l i)
theorem X8 {j:Nat} {st:List β} {x y:β} (hx:st[j+1]? =some x) (hy:st[j]? =some y) (h:c (x,y)<0):H7 c (j+1) st=H7 c j ((st.set (j+1) y).set j x):=by rw [H7,hx,hy];simp [h]
theorem eR {j:Nat} {st:List β} {x y:β} (hx:st[j+1]? =some x) (hy:st[j]? =some y) (h:¬c (x,y)<0):H7 c (j+1) st=st:=by rw [H7,hx,hy];simp [h]
theorem X9:∀(j:Nat) (st:List β),(H7 c j st).length=st.length
 |0,_=>rfl
 |j+1,st=>by
  rw [H7]
  split
  ·
   split
   · rw [X9];simp
   · rfl
  · rfl
theorem qM (x:β):∀(rp dn:List β),H7 c rp.length (rp.reverse++x::dn)=SY c x rp dn
 |[],dn=>rfl
 |y::rp,dn=>by
  have hx:((y::rp).reverse++x::dn)[rp.length+1]? =some x:=by
   rw [List.getElem?_append_right AV];simp
  have hy:((y::rp).reverse++x::dn)[rp.length]? =some y:=by
   rw [List.reverse_cons,List.append_assoc,List.getElem?_append_right AV];simp
  have hs:(((y::rp).reverse++x::dn).set (rp.length+1) y).set rp.length x=rp.reverse++x::(y::dn):=by
   rw [List.reverse_cons,List.append_assoc,List.set_append_right _ _ AV]
   simp
  unfold SY
  show H7 c (rp.length+1) _=_
  by_cases h:c (x,y)<0
  · rw [X8 hx hy h,hs,qM x rp (y::dn),if_pos h]
  · rw [eR hx hy h,if_neg h]
theorem eS {R:β→β→Prop} (ht:∀a b d,R a b→R b d→R a d) {x:β}:∀(rp dn:List β),(rp.reverse++dn).Pairwise R→(∀z∈dn,R x z)→(∀y∈rp,(c (x,y)<0→R x y)∧(¬c (x,y)<0→R y x))→
  (SY c x rp dn).Pairwise R∧(SY c x rp dn).Perm (x::(rp.reverse++dn))
 |[],dn,h,hd,_=>by
  unfold SY
  exact ⟨List.pairwise_cons.2 ⟨hd,by simpa using h⟩,by simp⟩
 |y::rp,dn,h,hd,hc=>by
  obtain ⟨h1,h2⟩:=hc y AV
  unfold SY
  by_cases hlt:c (x,y)<0
  ·
   rw [if_pos hlt]
   obtain ⟨g1,g2⟩:=eS ht (x:=x) rp (y::dn) Du (fun z hz=>by
    rcases List.mem_cons.1 hz with rfl|hz
    · exact h1 hlt
    · exact hd z hz) (fun z hz=>hc z (List.mem_cons_of_mem _ hz))
   exact ⟨g1,by simpa using g2⟩
  ·
   rw [if_neg hlt]
   have hyx:=h2 hlt
   rw [List.pairwise_append] at h ⊢
   obtain ⟨p1,p2,p3⟩:=h
   refine ⟨⟨p1,List.pairwise_cons.2 ⟨hd,p2⟩,fun a ha b hb=> ?_⟩,?_⟩
   ·
    have hax:R a x:=by
     simp only [List.reverse_cons,List.mem_append,List.mem_reverse,List.mem_singleton] at ha
     rcases ha with ha|rfl
     ·
      refine ht _ _ _ ?_ hyx
      rw [List.reverse_cons,List.pairwise_append] at p1
      exact p1.2.2 a (List.mem_reverse.2 ha) y AV
     · exact hyx
    rcases List.mem_cons.1 hb with rfl|hb
    · exact hax
    · exact ht _ _ _ hax (hd b hb)
   · exact List.perm_middle
theorem qN {R:β→β→Prop} (ht:∀a b d,R a b→R b d→R a d) {l:List β} (hc:∀(i j:Nat) x y,j<i→l[i]? =some x→l[j]? =some y→(c (x,y)<0→R x y)∧(¬c (x,y)<0→R y x)):
  ∀(i:Nat),i≤l.length→∃st,isB c l i=st++l.drop i∧st.Pairwise R∧st.Perm (l.take i)
 |0,_=>⟨[],by simp [isB],List.Pairwise.nil,by simp⟩
 |i+1,hi=>by
  obtain ⟨st,h1,h2,h3⟩:=qN ht hc i AA
  obtain ⟨x,hx⟩:=at_ (l:=l) (k:=i) AA
  have hl:st.length=i:=by rw [h3.length_eq,List.length_take];omega
  have hd:l.drop i=x::l.drop (i+1):=by
   rw [List.drop_eq_getElem_cons (show i<l.length by omega)]
   rw [List.getElem?_eq_getElem (show i<l.length by omega)] at hx;cases hx;rfl
  have hk:=qM (c:=c) x st.reverse (l.drop (i+1))
  rw [List.length_reverse,List.reverse_reverse,hl] at hk
  have key:∀(rp dn rest:List β),SY c x rp (dn++rest)=SY c x rp dn++rest:=by
   intro rp
   induction rp with
   |nil=>intro dn rest;rfl
   |cons y rp ih=>
    intro dn rest
    unfold SY
    split
    · exact ih (y::dn) rest
    · simp
  have hk2:=key st.reverse [] (l.drop (i+1))
  rw [List.nil_append] at hk2
  obtain ⟨g1, g2⟩ := eS ht (c := c) (x := x) st.reverse [] MY (fun z hz => by cases hz) (fun y hy => by
   have nq:y∈l.take i:=h3.mem_iff.1 (List.mem_reverse.1 hy)
   obtain ⟨j,hj⟩:=List.getElem?_of_mem nq
   rw [List.getElem?_take] at hj
   split at hj
   next hji=>exact hc i j x y hji hx hj
   next=>cases hj)
  refine ⟨SY c x st.reverse [],?_,g1,?_⟩
  · rw [isB,h1,hd,hk,hk2]
  ·
   refine g2.trans ?_
   rw [List.reverse_reverse,List.append_nil,List.take_add_one,hx]
   exact ((List.perm_append_comm (l₁:=[x]) (l₂:=st)).trans (h3.append_right [x]))
end
structure Fnd where
 src:Int
 host:List UInt8
 machine:Int
 day:Int
 ADk:Int
 kind:Int
 vJ:List UInt8
 CF:Int
 bits:Int
 num:Int
 text:List UInt8
structure Fnd.fits (f:Fnd):Prop where
 host:f.host.length≤maxLen
 vJ:f.vJ.length≤maxLen
 text:f.text.length≤maxLen
def orL:List Int→Int
 |[]=>0
 |a::l=>if a=0 then orL l else a
def ADl (a b:Fnd):List Int:=[Lib.compareBytes a.host b.host,Jb a.machine b.machine,Jb a.day b.day,Lib.compareBytes a.vJ b.vJ,Jb a.kind b.kind,Jb a.CF b.CF,Jb a.bits b.bits,Jb a.num b.num,Lib.compareBytes a.text b.text,Jb a.src b.src,Jb a.ADk b.ADk]
def AG2 (a b:Fnd):Int:=orL (ADl a b)
def kF (l:List Fnd) (f:Fnd):Nat:=(l.reverse.dropWhile fun x=>decide (0<AG2 x f)).length
def InR (own:List Int) (m:Nat):Prop:=∀i∈own,0≤i∧i<(m:Int)
instance (own:List Int) (m:Nat):Decidable (InR own m):=inferInstanceAs (Decidable (∀i∈own,0≤i∧i<(m:Int)))
theorem A9 {φ:Prop} {p q:Pr} (h:φ) (hl:Pr.le p q):Pr.le p (fact φ q):=fun _ _ _ hp=>⟨h,hl _ _ _ hp⟩
theorem JE {β:Type} {g:β→Pr} {l:List β} {qs:List Pr} {i:Int} {x:β} (h:l[i.toNat]? =some x):((l.map fun x=>[g x]).flatten++qs)[0+i.toNat*1]? =some (g x):=by
 have hl:i.toNat<l.length:=by rcases Nat.lt_or_ge i.toNat l.length with h'|h';exact h';rw [List.getElem?_eq_none h'] at h;cases h
 rw [List.getElem?_eq_getElem hl] at h
 cases h
 exact RW hl
section
variable {c:Int×Int→Int}
theorem V6 (l:List Int):∀i,(isB c l i).length=l.length
 |0=>rfl
 |i+1=>by rw [isB,X9,V6 l i]
theorem qO {st:List Int} {j:Nat} {x y:Int} (h0:0<j) (hx:st[j]? =some x) (hy:st[j-1]? =some y) (h:c (x,y)<0):H7 c (j-1) ((st.set ((j:Nat):Int).toNat y).set (((j:Nat):Int)-1).toNat x)=H7 c j st:=by
 obtain ⟨m,rfl⟩:∃m,j=m+1:=⟨j-1,by omega⟩
 rw [show (((m+1:Nat):Nat):Int).toNat=m+1 by omega,show ((((m+1:Nat):Nat):Int)-1).toNat=m by omega,show m+1-1=m by omega]
 exact (X8 hx hy h).symm
theorem qP {st:List Int} {j:Nat} (h:j=0):H7 c j st=st:=by subst h;rfl
theorem qQ {st:List Int} {j:Nat} {x y:Int} (h0:0<j) (hx:st[j]? =some x) (hy:st[j-1]? =some y) (h:¬c (x,y)<0):H7 c j st=st:=by
 obtain ⟨m,rfl⟩:∃m,j=m+1:=⟨j-1,by omega⟩
 exact eR hx hy h
theorem qR {st:List Int} {a b:Nat} {x y n:Int} (h:∀z∈st,0≤z∧z<n) (hx:0≤x∧x<n) (hy:0≤y∧y<n):∀z∈(st.set a y).set b x,0≤z∧z<n:=fun z hz=>by
 rcases List.mem_or_eq_of_mem_set hz with hz|rfl
 ·
  rcases List.mem_or_eq_of_mem_set hz with hz|rfl
  · exact h z hz
  · exact hy
 · exact hx
end
def ir (c:Int×Int→Int) (l st:List Int):Prop:=st=isB c l l.length
theorem ir.len {c:Int×Int→Int} {l st:List Int} (h:ir c l st):st.length=l.length:=by unfold ir at h;rw [h,V6]
abbrev InN (N:Nat):={p:Int×Int//(0≤p.1∧p.1<(N:Int))∧0≤p.2∧p.2<(N:Int)}
theorem zX {l:List Int} {c:Int×Int→Int} {b0 cap N len:Nat} {sp:List Value} (hln:l.length=len) (Sh:len≤19) (hR0:∀x∈l,0≤x∧x<(N:Int)):Ba prog 208 [is (.slice (some ⟨b0,0,none⟩) len cap),int 0,int ((len:Nat):Int),Yn prog (fun p:InN N=>[int p.1.1,int p.1.2]) (fun p=>int (c p.1))] (Mx) (AE true b0 3 ((l.map (fun x:Int=>[int x])).flatten++sp.map is)) (fun _=>EV b0 3 (fun x:Int=>[int x]) (ir c l) (sp.map is)):=by
 refine Ba.of func208 rfl rfl BA fun M0 w0 S rs M1 w1=> ?_
 refine ac ?_
 refine Tr.block (Tr.Co _ (kk [3,2,1,0] rfl) (fun (i:Nat) (st:List Int)=>[(8,int ((i:Nat):Int))]) (fun (i:Nat) (st:List Int)=>Hp M0 w0 S (AE true b0 3 ((st.map (fun x:Int=>[int x])).flatten++sp.map is)::Ak M1 w1::rs)) (fun (i:Nat) (st:List Int)=>(1≤i∧(i≤len∨i=1))∧st=isB c l i∧∀x∈st,0≤x∧x<(N:Int)) (fun (i:Nat) (st:List Int)=>len-i) (1) (l)  (⟨⟨by omega,.inr rfl⟩,rfl,hR0⟩) ⟨⟨_,rfl,int_eq AA⟩,trivial⟩ (fun _ _ h=>h) ?_)
 rintro i st  ⟨⟨hi1,hi2⟩,hst,hR⟩
 have Zl:st.length=len:=by rw [hst,V6,hln]
 refine an ?_ ?_<;>intro h1 q1
 have hib:i<len:=AH h1
 refine a2 ?_
 refine Tr.block (Tr.Co _ (kk [8,3,2,1,0] rfl) (fun (j:Nat) (JU:List Int)=>[(9,int ((j:Nat):Int))]) (fun (j:Nat) (JU:List Int)=>Hp M0 w0 S (AE true b0 3 ((JU.map (fun x:Int=>[int x])).flatten++sp.map is)::Ak M1 w1::rs)) (fun (j:Nat) (JU:List Int)=>(j≤i∧JU.length=len)∧H7 c j JU=H7 c i st∧∀x∈JU,0≤x∧x<(N:Int)) (fun (j:Nat) (JU:List Int)=>j) (i) (st)  (⟨⟨Nat.le_refl _,Zl⟩,rfl,hR⟩) kz (fun _ _ h=>h) ?_)
 rintro j JU  ⟨⟨hj1,qS⟩,zY,iw⟩
 refine ag ?_ ?_<;>intro h2 q2
 obtain ⟨x,hx⟩:=at_ (l:=JU) (k:=j) AA
 obtain ⟨y,hy⟩:=at_ (l:=JU) (k:=j-1) AA
 have hxr:=iw x (List.mem_of_getElem? hx)
 have hyr:=iw y (List.mem_of_getElem? hy)
 refine ac ?_
 refine cy h2 rfl (BH rfl underlying22 Bw (vl rfl) (vl rfl) AA AA) ?_
 refine cy h2 rfl (Ck 0 rfl (BB rfl Cq (vl rfl) (JE (g:=fun x:Int=>int x) (x:=x) Ue))) ?_
 refine ac ?_
 refine cy h2 rfl (BH rfl underlying22 Bw (vl rfl) (vl rfl) AA AA) ?_
 refine cy h2 rfl (Ck 0 rfl (BB rfl Cq (vl rfl) (JE (g:=fun x:Int=>int x) (x:=y) bR))) ?_
 refine cy h2 rfl (Jr (⟨(x,y),⟨hxr,hyr⟩⟩:InN N) rfl (vl rfl) ⟨ke rfl,kz⟩) ?_
 refine ac ?_
 refine wk [34,9,8,3,2,1,0] rfl ?_
 refine Tr.cn rfl ?_ ?_<;>intro h3 q3
 have:=h3
 refine ac ?_
 refine Tr.seq (Tr.block (Tr.rx ?_))
 refine ay ?_
 refine xo rfl (fun _=>BH rfl underlying22 Bw (vl rfl) (vl rfl) AA AA) ?_
 refine IF 0 rfl rfl (BB rfl Cq (vl rfl) (JE (g:=fun x:Int=>int x) (x:=y) bR)) ?_
 refine ay ?_
 refine xo rfl (fun _=>BH rfl underlying22 Bw (vl rfl) (vl rfl) AA AA) ?_
 refine IF 0 rfl rfl (BB rfl Cq (vl rfl) (JE (g:=fun x:Int=>int x) (x:=x) Ue)) ?_
 refine xo rfl (fun _=>BH rfl underlying22 Bw (vl rfl) (vl rfl) AA AA) ?_
 refine Cx.DY 0 rfl rfl (Ay rfl rfl (vl rfl) (Vo rfl) Bw rfl Qs (GA (f:=(fun x:Int=>[int x])) (fun _=>rfl) AA)) ?_
 refine xo rfl (fun _=>BH rfl underlying22 Bw (vl rfl) (vl rfl) AA AA) ?_
 refine Cx.DY 0 rfl rfl (Ay rfl rfl (vl rfl) (Vo rfl) Bw rfl (by rw [Kj (sz:=1) (fun _=>rfl)];simp only [List.length_set];omega) (GA (f:=(fun x:Int=>[int x])) (fun _=>rfl) (by simp only [List.length_set];omega))) ?_
 refine Cx.nil ⟨by kernel_rfl,?_⟩
 refine BJ.done W7 ?_
 refine ac ?_
 refine wk [9,8,3,2,1,0] rfl ?_
 refine ac ?_
 exact Fin.Cm (j-1) (_)  (⟨⟨⟨by omega,by simp only [List.length_set];exact qS⟩,by rw [←zY];exact qO AA hx hy Bh,qR iw hxr hyr⟩,by omega⟩) ⟨⟨_,rfl,int_eq AA⟩,kz⟩ (fun _ _ h=>h)
 have:=h3
 refine a2 ?_
 have aQ:H7 c j JU=JU:=qQ AA hx hy (Int.not_lt.2 Bh)
 exact Fin.Cm (i+1) (JU)  (⟨⟨⟨by omega,.inl AA⟩,by show JU=H7 c i (isB c l i);rw [←hst,←zY,aQ],iw⟩,by omega⟩) ⟨⟨_,rfl,AG i⟩,kz⟩ (fun _ _ h=>h)
 refine ac ?_
 refine wk [34,9,8,3,2,1,0] rfl ?_
 refine a2 ?_
 have aQ:H7 c j JU=JU:=qP AA
 exact Fin.Cm (i+1) (JU)  (⟨⟨⟨by omega,.inl AA⟩,by show JU=H7 c i (isB c l i);rw [←hst,←zY,aQ],iw⟩,by omega⟩) ⟨⟨_,rfl,AG i⟩,kz⟩ (fun _ _ h=>h)
 have hie:=AJ h1
 refine Tr.exit (Fin.AY (Fin.AY (Fin.Au ?_)))
 refine Fin.Gf (ir c l) 0 rfl (by unfold ir;rcases Nat.eq_zero_or_pos len with h0_|h0_;(obtain rfl:=List.eq_nil_of_length_eq_zero (hln.trans h0_);rw [hst,show i=1 by omega];rfl);(rw [hst,hln,show i=len by omega])) ?_
 exact Fin.lD rfl
theorem zZ {l:List Int} {c:Int×Int→Int} {b0 cap N len:Nat} {sp:List Value} (hln:l.length=len) (Sh:len≤19) (hR0:∀x∈l,0≤x∧x<(N:Int)):Ba prog 165 [is (.slice (some ⟨b0,0,none⟩) len cap),int ((len:Nat):Int),Yn prog (fun p:InN N=>[int p.1.1,int p.1.2]) (fun p=>int (c p.1))] (Mx) (AE true b0 3 ((l.map (fun x:Int=>[int x])).flatten++sp.map is)) (fun _=>EV b0 3 (fun x:Int=>[int x]) (ir c l) (sp.map is)):=by
 refine Ba.of func165 rfl rfl BA fun M0 w0 S rs M1 w1=> ?_
 refine a2 ?_
 refine Tr.seq (Tr.block (Tr.BD _ (kk [6,2,1,0] rfl) (fun (u:Unit)=>[(7,int 0),(8,int 20)]) (fun (u:Unit)=>True) (fun (u:Unit)=>0) () (trivial) ⟨kq,kz⟩ ?_))
 rintro u _
 refine an ?_ ?_<;>intro h1 q1
 exfalso;have Se:=DU.D7 h1;omega
 have YJ:=h1
 refine ac ?_
 refine ap ?_
 refine TO.G4 0 rfl rfl AB (An rfl rfl AB rfl (zX AA AA Bh) ⟨kq,kz⟩) (TO.J5 0 rfl fun t1 PR=> ?_)
 have ADm:=PR.len
 refine ap ?_
 refine wk [6,2,1,0] rfl (Tr.block (Tr.BD _ (kk [2,1,0] rfl) (fun (u:Unit)=>[(6,int 20)]) (fun (u:Unit)=>True) (fun (u:Unit)=>0) () (trivial) kz ?_))
 rintro u _
 refine an ?_ ?_<;>intro h2 q2
 exfalso;have Se:=DU.D7 h2;omega
 have YJ:=h2
 refine Tr.exit (Fin.AY (Fin.AY (Fin.Au (Fin.Gf (ir c l) 0 rfl (PR) (Fin.lD rfl)))))
theorem ADn {l:List Int} {c:Int×Int→Int} {b0 cap N len:Nat} {sp:List Value} (hln:l.length=len) (Sh:len≤19) (hR0:∀x∈l,0≤x∧x<(N:Int)):Ba prog 113 [is (.slice (some ⟨b0,0,none⟩) len cap),Yn prog (fun p:InN N=>[int p.1.1,int p.1.2]) (fun p=>int (c p.1))] (Mx) (AE true b0 3 ((l.map (fun x:Int=>[int x])).flatten++sp.map is)) (fun _=>EV b0 3 (fun x:Int=>[int x]) (ir c l) (sp.map is)):=by
 refine Ba.of func113 rfl rfl BA fun M0 w0 S rs M1 w1=> ?_
 refine ap ?_
 refine tp rfl (Kw rfl underlying22 vq) (tm rfl (TO.G4 0 rfl rfl AB (An rfl rfl AB rfl (zZ AA AA Bh) ⟨kq,kz⟩) (TO.J5 0 rfl fun t1 PR=> ?_)))
 have ADm:=PR.len
 refine TO.nil (Fin.Gf (ir c l) 0 rfl (PR) (Fin.lD rfl))
theorem vK {rows:List (List Pr)} {b:Int} (hb:b≤1):BC prog 208 [slice 1 rows,int 0,int b,any] (Mx):=by
 refine fo func208 rfl ⟨rfl,rfl⟩ fun M0 w0=> ?_
 refine ac ?_
 refine Tr.block (Tr.BD _ (kk [3,2,1,0] rfl) (fun i:Int=>[(8,int i)]) (fun i:Int=>i=1) (fun i:Int=>0) 1 (rfl) kz ?_)
 rintro i hi
 refine an ?_ ?_<;>intro h1 q1
 exfalso;have Se:=DU.D7 h1;omega
 have YJ:=h1
 refine Tr.exit (Fin.AY (Fin.AY (Fin.Au (Fin.xl rfl))))
theorem vL {rows:List (List Pr)} {b:Int} (h0:0≤b) (hb:b≤1):BC prog 165 [slice 1 rows,int b,any] (Mx):=by
 refine fo func165 rfl ⟨rfl,rfl⟩ fun M0 w0=> ?_
 refine a2 ?_
 refine Tr.seq (Tr.block (Tr.BD _ (kk [6,2,1,0] rfl) (fun (u:Unit)=>[(7,int 0),(8,int 20)]) (fun (u:Unit)=>True) (fun (u:Unit)=>0) () (trivial) ⟨kq,kz⟩ ?_))
 rintro u _
 refine an ?_ ?_<;>intro h1 q1
 exfalso;have Se:=DU.D7 h1;omega
 have YJ:=h1
 refine a2 ?_
 refine co rfl (AR rfl (vK AA) ⟨kq,kq,kq,⟨_,rfl,j9 _⟩,trivial⟩) ?_
 refine ac ?_
 refine wk [6,2,1,0] rfl (Tr.block (Tr.BD _ (kk [2,1,0] rfl) (fun (u:Unit)=>[(6,int 20)]) (fun (u:Unit)=>True) (fun (u:Unit)=>0) () (trivial) kz ?_))
 rintro u _
 refine an ?_ ?_<;>intro h2 q2
 exfalso;have Se:=DU.D7 h2;omega
 have YJ:=h2
 refine Tr.exit (Fin.AY (Fin.AY (Fin.Au (Fin.xl rfl))))
theorem za {rows:List (List Pr)} (hs:rows.length≤1):BC prog 113 [slice 1 rows,any] (Mx):=by
 refine fo func113 rfl ⟨rfl,rfl⟩ fun M0 w0=> ?_
 refine ac ?_
 refine co rfl (Cc rfl underlying22 vq) (cm rfl (co rfl (AR rfl (vL (rows:=rows) (b:=(rows.length:Int)) AA AA) ⟨kq,kq,⟨_,rfl,j9 _⟩,trivial⟩) (Ch.nil (Fin.xl rfl))))
theorem ADo {l:List Int} {c:Int×Int→Int} {v:Value} {N:Nat} (hs:l.length≤19) (hR:∀x∈l,0≤x∧x<(N:Int)):Ba Tryz.prog 113 [is v,Yn Tryz.prog (fun p:InN N=>[int p.1.1,int p.1.2]) (fun p=>int (c p.1))] Mx (BQ 3 1 (l.map (fun x:Int=>[int x])) v) (fun _=>RU 3 1 (fun x:Int=>[int x]) (ir c l) v):=by
 refine Ba.s7 (fun h=>⟨?_,?_⟩) (fun b cap sp=>ADn rfl hs hR) (fun st h=>h.len) ⟨_,Tryz.func113,rfl,rfl⟩
 ·
  refine BC.le (za (rows:=[]) AB) ?_ (Pr.le_refl _)
  rintro M w vs hv
  match vs,hv with
  |[a,b],⟨h1,h2,h3⟩=>exact ⟨AQ _ M w a h1,trivial,h3⟩
 · subst h;rfl
def aR (d:List Int) (p:Int×Int):Int:=Jb (d.getD p.1.toNat 0) (d.getD p.2.toNat 0)
def HM (n:Nat):List Int:=(List.range n).map fun i:Nat=>(i:Int)
theorem GS (n:Nat):(HM n).length=n:=by unfold HM;rw [List.length_map,List.length_range]
theorem iy (n:Nat):HM (n+1)=HM n++[(n:Int)]:=by unfold HM;rw [List.range_succ,List.map_append];rfl
theorem eT {n i:Nat} (h:i<n):(HM n)[i]? =some (i:Int):=by unfold HM;rw [List.getElem?_map,List.getElem?_range h];rfl
theorem qT {n:Nat}:∀x∈HM n,0≤x∧x<(n:Int):=fun x hx=>by
 unfold HM at hx
 obtain ⟨i,hi,rfl⟩:=List.mem_map.1 hx
 have:=List.mem_range.1 hi
 omega
def Jf (d:List Int):List Int:=isB (aR d) (HM d.length) d.length
theorem vM {d st:List Int} (h:ir (aR d) (HM d.length) st):st=Jf d:=by unfold ir at h;rw [GS] at h;exact h
def vN (d:List Int) (a b:Int):Prop:=d.getD a.toNat 0<d.getD b.toNat 0∨d.getD a.toNat 0=d.getD b.toNat 0∧a<b
theorem vO {a b:Int}:Jb a b<0↔a<b:=by unfold Jb;split;omega;split<;>omega
theorem eU (d:List Int):(Jf d).Pairwise (vN d)∧(Jf d).Perm (HM d.length):=by
 obtain ⟨st, h1, h2, h3⟩ := qN (c := aR d) (R := vN d) (l := HM d.length) (fun a b e h1 h2 => by unfold vN at *; omega) (fun i j x y hij hx hy => by
  have hi:=BN hx
  have hj:=BN hy
  rw [GS] at hi hj
  rw [eT hi] at hx
  rw [eT hj] at hy
  cases hx;cases hy
  unfold aR vN
  rw [vO]
  simp only
  omega) d.length Ud
 have h4:(HM d.length).drop d.length=[]:=List.drop_eq_nil_of_le Ud
 have h5:(HM d.length).take d.length=HM d.length:=List.take_of_length_le Ud
 rw [h4,List.append_nil] at h1
 rw [h5] at h3
 unfold Jf
 rw [h1]
 exact ⟨h2,h3⟩
theorem iz {l:List Bb} {r:List BI} {d:List Int} (p:InN d.length)  :BC prog 114 [int p.1.1,int p.1.2,ref [DR l,reqs r,ints d]] (int (aR d p.1)):=by
 refine fo func114 rfl ⟨rfl,rfl⟩ fun M0 w0=> ?_
 obtain ⟨PR,hp2⟩:=p.2
 obtain ⟨x,hx⟩:=at_ (l:=d) (k:=p.1.1.toNat) AA
 obtain ⟨y,hy⟩:=at_ (l:=d) (k:=p.1.2.toNat) AA
 refine a2 ?_
 refine co rfl (AD rfl underlying22 Bw vq vq AA (Bf hx)) ?_
 refine ac ?_
 refine co rfl (AD rfl underlying22 Bw vq vq AA (Bf hy)) (co rfl (F5 rfl Cq rfl) ?_)
 refine co rfl (CL (ZF (a:=x) (b:=y)) rfl rfl rfl) ?_
 refine a2 ?_
 · refine int_eq ?_;unfold aR;rw [List.getD_eq_getElem?_getD,List.getD_eq_getElem?_getD,hx,hy];rfl
theorem i6:Entry Tryz.prog 114:=⟨_,Tryz.func114,rfl,rfl⟩
theorem qU {l:List Bb} {r:List BI} {d:List Int} (hd:d.length≤19):BC prog 60 [agg [DR l,reqs r,ints d]] (ints (Jf d)):=by
 refine fo func60 rfl ⟨rfl,rfl⟩ fun M0 w0=> ?_
 refine a3 ?_
 refine Tr.block (Tr.Ht 3 1 (Tr.Ep _ (kk [7,1] rfl) (fun k v=>[(8,int ((k:Nat):Int)),(3,Ac v (lens ((HM k).map fun n=>[int n]).length))]) (fun k v=>Hp M0 w0 FT ([BQ 3 1 ((HM k).map fun n=>[int n]) v])) (fun k:Nat=>k≤(d).length) (fun k:Nat=>(d).length-k) 0 (.slice none 0 0) (Nat.zero_le _) ⟨ke rfl,⟨_,rfl,GR (by rfl)⟩,trivial⟩ (fun _ _ h=>h) ?_))
 rintro k v BR
 refine ac ?_
 refine Tr.seq ?_
 refine Tr.cn rfl ?_ ?_<;>intro h1 q1
 have Ai:k<(d).length:=AH h1
 obtain ⟨x,Ah⟩:=at_ Ai
 refine a2 ?_
 refine ap ?_
 refine TO.Dj 0 rfl rfl AB (FM rfl rfl AB rfl underlying22 Bw IY z3 rfl AB AB (vl rfl) (Kf rfl) (BP fun _=>rfl) (Nat.zero_lt_succ _) (by simp only [List.length_map,List.length_cons,List.length_nil,GS];unfold maxLen;omega) (by simp only [List.length_map,List.length_cons,List.length_nil,GS];omega)) (fun v1=> ?_)
 refine ap ?_
 refine ac ?_
 rw [show (HM k).map (fun n=>[int n])++[[int ((k:Nat):Int)]]=(HM (k+1)).map (fun n=>[int n]) by rw [iy,List.map_append];rfl]
 exact Fin.DM (k+1) v1 (⟨Ai,by omega⟩) ⟨⟨_,rfl,AG k⟩,⟨_,rfl,C2 (by simp [GS])⟩,kz⟩ (fun _ _ h=>h)
 have BM:k=(d).length:=by have:=AJ h1;omega
 subst BM
 refine ac ?_
 refine ap ?_
 refine TO.G4 0 rfl rfl AB (An rfl rfl AB rfl (ADo (l:=HM d.length) (c:=aR d) (N:=d.length) (by rw [GS];exact hd) qT) ⟨(Ka rfl),⟨_,rfl,FJ i6 (fun p=>iz p)⟩,trivial⟩) ?_
 refine TO.lM 0 3 rfl rfl (fun _=>rfl) (fun t1 PR=> ?_)
 have ADm:=PR.len
 refine ap ?_
 refine a2 ?_
 · rw [←vM PR];exact As _ _
end Go.Proofs.YtmocaapoeefgkaaGreatDoor
namespace Cp
open Go Go.RowKit Go.Great
section
variable {P:Program} {n:Fm} {E:Env} {M0:Av} {w0:World} {S:Nat→Prop} {o:Oper}
theorem zb {j s:Nat} {R:SR} {p1:Pr} {R':Value→Ap} (hd:o.dst=none) (h1:E.lookup s=some p1) (hls:s∈looks o) (hg:o.guard=none) (h:∀v,DC P M0 w0 S n j R (SR.c (R' v)) o ((s,Ac v p1)::E) any):DC P M0 w0 S n j R ⟨s,R'⟩ o E any:=by
 refine ⟨hg,fun M w a rs hsz he hI hj=> ?_⟩
 refine Dv.conv (Pr.le_refl _) (fun v=> ?_) ((h (a.tmps.getD s undef)).2 M w a rs hsz (GF he s (he s p1 hls h1)) hI hj)
 rw [hd];rfl
theorem ze {j s t:Nat} {f:Value→Ap} {p1:Pr} {R':Value→Value→Ap} (hd:o.dst=none) (h1:E.lookup t=some p1) (hlt:t∈looks o) (hg:o.guard=none) (h:∀u v,DC P M0 w0 S n j (SR.c (f u)) (SR.c (R' u v)) o ((t,Ac v p1)::E) any):DC P M0 w0 S n j ⟨s,f⟩ ⟨.two t s,Tz R'⟩ o E any:=by
 refine ⟨hg,fun M w a rs hsz he hI hj=> ?_⟩
 refine Dv.conv (Pr.le_refl _) (fun v=> ?_) ((h (a.tmps.getD s undef) (a.tmps.getD t undef)).2 M w a rs hsz (GF he t (he t p1 hlt h1)) hI hj)
 rw [NO,hd];rfl
theorem qV {f:FuncId} {xs:Array Operand} {ts:Array TypeId} {ps:List Pr} {res:Pr} {j:Nat} {R:Ap} (hb:R.blk=none) (ho:o.op= .call { callee:= .value (.func f),args:=xs,argTypes:=ts }) (hf:Ba P f ps res R (fun _=>R)) (hv:Gz E xs.toList ps):Jy P M0 w0 S j (SR.c R) o E res:=by
 intro M w a rs he hI hj
 have h1:=Gz.FZ (o:=o) he (xs:=xs.toList) (fun x hx=>by simp [ho,Op.operands,Call.operands];exact .inr FX) hv
 have hrun:(execOp a.eval o).run P w= .ok (.enter f (xs.toList.map a.eval).toArray) w:=by
  simp [execOp,ho,resolve,Deferred.ofValue,Act.eval,invoke,DB hf.1,GU xs]
 rw [hrun]
 have hj':rs[j]? =some R:=hj
 refine ⟨Below.refl _ _,(hf.2 M w FT [] M w _ ((Az.begin hI.bd).Ib (r:=R) hb (hI.hold _ (List.mem_of_getElem? hj')).1) h1).mono ?_⟩
 rintro e w' ⟨v,M',rfl,h2,h3,h4⟩
 exact ⟨v,rfl,res.st _ _ _ _ _ (Ext.less h4.m) h2,h4.below⟩
def AG3 (u:Value):Value:=match u with| .tuple t=>t.getD 0 undef|_=>undef
def wq (T R:Ap):Ap:=⟨R.blk,R.new,fun M w=>(T.blk=none∧T.h M w)∧R.h M w,fun M w M' w' he hk h=>⟨⟨h.1.1,T.st M w M' w' he (fun b hb=>by rw [h.1.1] at hb;cases hb) h.1.2⟩,R.st M w M' w' he hk h.2⟩⟩
theorem Fj.both {f:FuncId} {args:List Pr} {T:Ap} (hT:T.blk=none) {p k:Pr} {R:Value→Ap} (h:Fj (α:=Value) P f args [T] (fun _=>True) (fun x=>D6 [Ac x p,k]) (fun x=>[T,R x])):Ba P f args (D6 [p,k]) T (fun u=>wq T (R (AG3 u))):=by
 refine ⟨h.1,fun M0 w0 S rs M w vs hI hv=>(h.2 M0 w0 S rs M w vs hI hv).mono ?_⟩
 rintro e' w' ⟨u,M',x,rfl,_,h1,h2,h3⟩
 have h3:Az M0 w0 S (T::R x::rs) M' w':=h3
 obtain ⟨cs,rfl,g2⟩:=h1
 match cs,g2 with
 |[a,b],⟨⟨e1,g3⟩,g4,_⟩=>
  have e1:a=x:=e1
  subst e1
  have hh:=(h3.hold T (List.mem_cons_self ..)).1
  have h4:=(Az.perm (List.Perm.swap _ _ _) h3).CU (i:=0) (r':=wq T (R a)) rfl rfl rfl ⟨⟨hT,hh⟩,(h3.hold (R a) (List.mem_cons_of_mem _ (List.mem_cons_self ..))).1⟩
  exact ⟨_,M',rfl,⟨[a,b],rfl,g3,g4,trivial⟩,h2,(Az.perm (List.Perm.swap _ _ _) h4).JK⟩
end
section
variable {P:Program} {n:Fm} {E:Env} {M0:Av} {w0:World} {S:Nat→Prop} {rs:List Ap}
theorem Fin.zf {Q:Exit→Act→World→Prop} {x:Exit} {b cap sz:Nat} {e:TypeId} {rows:List (List Pr)} {sp:List Value} (j:Nat) (hj:rs[j]? =some (AE true b e (rows.flatten++sp.map is))) (hc:rows.length≤cap) (hm:cap≤maxLen) (hq:sp.length=(cap-rows.length)*sz)
  (k:Fin n E (Hp M0 w0 S (rs.set j (BQ e sz rows (.slice (some ⟨b,0,none⟩) rows.length cap)))) Q x):Fin n E (Hp M0 w0 S rs) Q x:=
 Fin.conv (fun a w hs=>by
  obtain ⟨M,h1,h2,h3,h4⟩:=hs
  have h4:Az M0 w0 S rs M w:=h4
  exact ⟨M,h1,h2,h3,h4.CU hj rfl rfl (.inr ⟨b,cap,sp,rfl,hc,hm,hq,(h4.hold _ (List.mem_of_getElem? hj)).1⟩)⟩) k
end
section
variable {P:Program} {g:Func} {fz:Nat} {E:Env} {M0 M1:Av} {w0 w1:World} {S:Nat→Prop} {rs:List Ap}
theorem Fin.ADp {α:Type} {C:α→Prop} {rv:ResultVar} {q:Pr} {res:α→Pr} {post:α→List Ap} {rs':List Ap} (x:α) (dr:List Ap) (hr:g.results= #[rv]) (h:AM P E rs' rv q) (hc:C x) (hl:Pr.le q (res x)) (hp:rs'.Perm (dr++(post x++Ak M1 w1::rs))):
  Fin ⟨fz,[]⟩ E (Hp M0 w0 S rs') (bodyPost P g (Ot M0 w0 S rs M1 w1 C res post)) .ret:=by
 rintro a w ⟨M,_,hd,he,hi⟩
 have hi:Az M0 w0 S rs' M w:=hi
 obtain ⟨u,hu,hp'⟩:=h M w a he (fun q hq=>(hi.hold q hq).1)
 obtain ⟨h1,h2⟩:=Hu (Az.lO (Az.perm hp hi))
 exact ⟨hd,u,results1 hr hu,_,M,x,rfl,hc,hl _ _ _ hp',h1,h2⟩
end
end Cp
namespace Go.Proofs.YtmocaapoeefgkaaGreatDoor
open Go Go.RowKit Cp Go.Proofs.Tryz
theorem vP {β:Type} {p:β→Bool} {l:List β} (h:¬idx p l= -1):0≤idx p l∧(idx p l).toNat<l.length∧Ww p l l (idx p l).toNat ((idx p l).toNat+1):=by
 unfold idx at h ⊢
 cases hf:l.findIdx? p with
 |none=>rw [hf] at h;exact absurd rfl h
 |some i=>
  rw [List.findIdx?_eq_some_iff_getElem] at hf
  obtain ⟨h1,h2,h3⟩:=hf
  refine ⟨by simp,by simpa using h1,rfl,by simp,by simp only [Int.toNat_natCast];omega,?_,rfl⟩
  simp only [Int.toNat_natCast]
  rw [List.take_add_one,List.getElem?_eq_getElem h1,List.filter_append]
  have:(l.take i).filter (fun x=> !p x)=l.take i:=by
   rw [List.filter_eq_self];intro x hx
   obtain ⟨j,hj,rfl⟩:=List.mem_iff_getElem.1 hx
   rw [List.length_take] at hj
   have:=h3 j AA
   simpa using this
  rw [this];simp [h2]
theorem vQ {β:Type} {p:β→Bool} {l:List β} (h:idx p l= -1):l.filter (fun x=> !p x)=l:=by
 unfold idx at h
 cases hf:l.findIdx? p with
 |none=>rw [List.findIdx?_eq_none_iff] at hf;rw [List.filter_eq_self];intro x hx;simpa using hf x hx
 |some i=>rw [hf] at h;exact absurd h AV
abbrev PC (n:Nat):={i:Int//0≤i∧i<(n:Int)}
abbrev JF {n:Nat} (i:PC n):List Pr:=[int i.1]
abbrev vR {n:Nat} (l:List (PC n)):Pr:=slice 1 (l.map JF)
theorem toZ {n:Nat}:∀{L:List Int},(∀x∈L,0≤x∧x<(n:Int))→∃l:List (PC n),l.map (·.1)=L
 |[],_=>⟨[],rfl⟩
 |x::L,h=>by
  obtain ⟨l,hl⟩:=toZ (L:=L) (fun y hy=>h y (List.mem_cons_of_mem _ hy))
  exact ⟨⟨x,h x (List.mem_cons_self ..)⟩::l,by rw [List.map_cons,hl]⟩
theorem qW {n:Nat} (l:List (PC n)):(l.map (·.1)).map (fun n=>[int n])=l.map JF:=by rw [List.map_map];rfl
theorem ADq {n:Nat} (l:List (PC n)) (q:Int→Bool):(l.filter fun x=>q x.1).map (·.1)=(l.map (·.1)).filter q:=by
 induction l with
 |nil=>rfl
 |cons a l ih=>rw [List.map_cons,List.filter_cons,List.filter_cons];split<;>simp [ih]
theorem JG {n:Nat} {l:List (PC n)} {p:PC n→Bool}  :BC prog 167 [vR l,Yn prog (fun x:PC n=>[int x.1]) (fun x=>bool (p x))] (int (idx p l)):=by
 refine fo func167 rfl ⟨rfl,rfl⟩ fun M0 w0=>(Tr.Cf 0 rfl fun D_=> ?_)
 refine a2 ?_
 refine Tr.block (Tr.BD _ (kk [7,1,0] rfl) (fun k:Nat=>[(8,int ((k:Nat):Int))]) (fun k:Nat=>k≤(l).length∧(∀j y,j<k→l[j]? =some y→p y=false)) (fun k:Nat=>(l).length-k) 0 (⟨Nat.zero_le _,fun j y hj=>absurd hj AA⟩) kz ?_)
 rintro k ⟨BR,AX⟩
 refine ac ?_
 refine Tr.seq ?_
 refine Tr.cn rfl ?_ ?_<;>intro h1 q1
 have Ai:k<(l).length:=AH h1
 obtain ⟨x,Ah⟩:=at_ Ai
 · repeat' first|exact int_eq (EO Ah Bh AX)|exact Fin.AL (k+1) ⟨⟨Ai,DV Ah Bh AX⟩,by omega⟩ ⟨⟨_,rfl,AG k⟩,kz⟩|refine co rfl (AD rfl underlying51 Bw vq vq AA CM) ?_|refine co rfl (F5 rfl Cq rfl) (co rfl (Jr x rfl vq kz) ?_)|refine ac ?_|(refine Tr.cn rfl ?_ ?_<;>intro h q)
 have BM:k=(l).length:=by have:=AJ h1;omega
 subst BM
 refine a3 ?_
 · exact int_eq (FA AX)
theorem i7 {n:Nat} {l:List (PC n)} {p:PC n→Bool} {b cap:Nat} {sp:List Value} (hc:(l.map JF).length≤cap) (hm:cap≤maxLen) (hq:sp.length=(cap-(l.map JF).length)*1):Ba prog 118 [is (.slice (some ⟨b,0,none⟩) (l.map JF).length cap),Yn prog (fun x:PC n=>[int x.1]) (fun x=>bool (p x))] (is (.slice (some ⟨b,0,none⟩) ((l.filter fun x=> !p x).map JF).length cap)) (AE true b 3 ((l.map JF).flatten++sp.map is)) (fun _=>AE true b 3 (((l.filter fun x=> !p x).map JF).flatten++((List.replicate (l.length-(l.filter fun x=> !p x).length) [int 0]).flatten++sp.map is))):=by
 refine Ba.of func118 rfl rfl BA fun M0 w0 S rs M1 w1=> ?_
 have hlm:(l.map JF).length=l.length:=List.length_map ..
 have hmx:cap≤9223372036854775807:=by unfold maxLen at hm;omega
 refine ac ?_
 refine ap ?_
 refine TO.G4 0 rfl rfl AB (sj (l.map JF) rfl rfl AB rfl (JG (l:=l) (p:=p)) (BP fun _=>rfl) hc hm (by rw [List.length_map];exact hq) ⟨.inr ⟨(vl rfl),As _ _⟩,.inl (ke rfl),trivial⟩) ?_
 refine ap ?_
 refine an ?_ ?_<;>intro h1 q1
 have hno:=vQ (p:=p) (l:=l) Ie
 refine ac ?_
 refine Tr.ret (Fin.AF ?_)
 refine Fin.Eo rfl rfl ?_ (fun _ _ _ _=>by rw [hno,Nat.sub_self];rfl)
 · rw [hno];exact Lr
 obtain ⟨hi0,Fp,aL⟩:=vP (p:=p) (l:=l) Ie
 refine a2 ?_
 refine Tr.block (Tr.Jz _ (kk [1,0] rfl) (fun (st:List (PC n)) (i:Nat) (j:Nat)=>[(5,int ((i:Nat):Int)),(6,int ((j:Nat):Int))]) (fun (st:List (PC n)) (i:Nat) (j:Nat)=>Hp M0 w0 S (AE true b 3 ((st.map JF).flatten++sp.map is)::Ak M1 w1::rs)) (fun (st:List (PC n)) (i:Nat) (j:Nat)=>Ww p l st i j) (fun (st:List (PC n)) (i:Nat) (j:Nat)=>l.length-j) (l) ((idx p l).toNat) ((idx p l).toNat+1)  (aL) ⟨⟨_,rfl,int_eq AA⟩,⟨_,rfl,int_eq AA⟩,trivial⟩ (fun _ _ h=>h) ?_)
 rintro st i j  aL
 obtain ⟨Zl,hij,hjl,htk,hdr⟩:=id aL
 refine ac ?_
 refine co rfl (Kw rfl underlying51 (vl rfl)) ?_
 refine an ?_ ?_<;>intro h2 q2
 have AG4:j<l.length:=by have:=AH h2;omega
 obtain ⟨x,hlx⟩:=at_ (l:=l) (k:=j) AG4
 have hx:st[j]? =some x:=(xu aL).trans hlx
 refine a2 ?_
 refine co rfl (BH rfl underlying51 Bw (vl rfl) (vl rfl) AA AA) ?_
 refine co rfl (Ck 0 rfl (BB rfl Cq (vl rfl) (Wx (f:=JF) (fun _=>rfl) Ue rfl))) ?_
 refine a2 ?_
 refine co rfl (Jr x rfl (vl rfl) kz) ?_
 refine ac ?_
 refine wk [29,7,6,5,1,0] rfl ?_
 refine Tr.cn rfl ?_ ?_<;>intro h3 q3
 refine ap ?_
 refine tp rfl (BH rfl underlying51 Bw (vl rfl) (vl rfl) AA AA) ?_
 refine TO.DY 0 rfl rfl (Ay rfl rfl (vl rfl) (Vo rfl) Bw rfl Qs (Y_ (f:=JF) (x:=x) (fun _=>rfl) AA)) ?_
 refine ap ?_
 refine a2 ?_
 exact Fin.EZ (st.set i x) (i+1) (j+1)  (⟨lG aL hlx Bv,by omega⟩) ⟨⟨_,rfl,AG i⟩,⟨_,rfl,AG j⟩,kz⟩ (fun _ _ h=>h)
 refine a2 ?_
 exact Fin.EZ (st) (i) (j+1)  (⟨lH aL hlx Bv,by omega⟩) ⟨ke rfl,⟨_,rfl,AG j⟩,kz⟩ (fun _ _ h=>h)
 have hje:j=l.length:=by have:=AJ h2;omega
 subst hje
 obtain ⟨he1,he2,he3,he4⟩:=sr aL
 refine ac ?_
 refine ap ?_
 refine tp rfl (Sr rfl underlying51 Bw (vl rfl) (vl rfl) AA AA AA) ?_
 refine TO.DY 0 rfl rfl (lE rfl rfl underlying51 Bw z3 rfl AB AB (vl rfl) AA Qs (VC (f:=JF) (fun _=>rfl) rfl AA AA)) ?_
 refine ap ?_
 refine ac ?_
 refine co rfl (Oq rfl underlying51 Bw (vl rfl) (vl rfl) AA AA AA AA) ?_
 refine ac ?_
 refine wk [4] rfl (Tr.ret ?_)
 refine Fin.Eo rfl rfl ?_ (fun _ _ _ _=>by rw [←he2,←he1,←he3,List.append_assoc];rfl)
 · refine Pr.le_of_eq ?_;rw [List.length_map,←he2,Int.toNat_natCast]
theorem aS {n:Nat} {p:PC n→Bool}  :BC prog 118 [is (.slice none 0 0),Yn prog (fun x:PC n=>[int x.1]) (fun x=>bool (p x))] (is (.slice none 0 0)):=by
 refine fo func118 rfl ⟨rfl,rfl⟩ fun M0 w0=> ?_
 · repeat' first|exact Lr|(exfalso;simp [idx] at h)|refine co rfl (AR rfl (JG (l:=[]) (p:=p)) ⟨⟨_,rfl,AQ 1⟩,kz⟩) ?_|refine ac ?_|(refine Tr.cn rfl ?_ ?_<;>intro h q)
theorem eV {l:List Bb} {r:List BI} {d:List Int} {day:Int} (x:PC d.length)  :BC prog 119 [int x.1,ref [DR l,reqs r,ints d],ref [int day]] (bool (decide (d.getD x.1.toNat 0>day))):=by
 refine fo func119 rfl ⟨rfl,rfl⟩ fun M0 w0=> ?_
 have hxp:=x.2
 have hdx:=Ec (l:=d) (i:=x.1.toNat) AA
 refine a2 ?_
 refine co rfl (AD rfl underlying22 Bw vq vq AA (Bf hdx)) ?_
 refine a2 ?_
 · exact Lr
theorem eW:Entry Tryz.prog 119:=⟨_,Tryz.func119,rfl,rfl⟩
def aT (r:List BI) (d s:List Int):Int:=if KU (d.length:Nat) r s=0 then 0 else 46
def Ed (r:List BI) (d s:List Int) (day:Int):List Int:=(JA (d.length:Nat) r s).filter fun i=> !decide (d.getD i.toNat 0>day)
theorem V7 {n:Nat} {r:List BI} {s:List Int}:∀x∈JA (n:Int) r s,0≤x∧x<(n:Int):=fun x hx=>by
 unfold JA at hx
 split at hx
 ·
  unfold Eg at hx
  obtain ⟨i,hi,rfl⟩:=List.mem_map.1 hx
  have:=List.mem_range.1 (List.mem_filter.1 hi).1
  omega
 · cases hx
theorem qX {r:List BI} {d s:List Int} (h:KU (d.length:Nat) r s=0):aT r d s=0:=by unfold aT;rw [if_pos h]
theorem zg {r:List BI} {d s:List Int} {day:Int} (h:KU (d.length:Nat) r s≠0):aT r d s=46∧Ed r d s day=[]:=by
 unfold aT Ed;rw [if_neg h,Vw rfl h];exact ⟨rfl,rfl⟩
theorem qY (k:Nat) (sp:List Value):(List.replicate k [int 0]).flatten++sp.map is=((List.replicate k (Value.int .i64 0))++sp).map is:=by rw [List.flatten_replicate_singleton,List.map_append,List.map_replicate]
theorem vS {l:List Bb} {r:List BI} {d s:List Int} {day:Int}  :Fj (α:=Value) prog 63 [agg [DR l,reqs r,ints d],ints s,int day] [Da] (fun _=>True) (fun v=>D6 [Ac v (lens ((Ed r d s day).map (fun n=>[int n])).length),int (aT r d s)]) (fun v=>[Da,BQ 3 1 ((Ed r d s day).map (fun n=>[int n])) v]):=by
 refine Fj.of func63 rfl rfl BA fun M0 w0 S rs M1 w1=> ?_
 obtain ⟨lz,hlz⟩:=toZ (V7 (n:=d.length) (r:=r) (s:=s))
 have hfz:((lz.filter fun x=> !decide (d.getD x.1.toNat 0>day)).map JF)=(Ed r d s day).map (fun n=>[int n]):=by rw [←qW];unfold Ed;rw [←hlz];exact congrArg (List.map fun n=>[int n]) (ADq lz (fun i=> !decide (d.getD i.toNat 0>day)))
 refine ac ?_
 refine ap ?_
 refine TO.RY _ rfl rfl AB rfl (gu (n:=((d.length:Nat):Int)) (l:=r) (s:=s)) ⟨kq,kz⟩ ((DT (j:=0) rfl).trans (List.Perm.cons _ (List.Perm.refl _))) (fun x1 _=> ?_)
 refine ap ?_
 refine wk [9,8,5,3] rfl ?_
 refine an ?_ ?_<;>intro h1 q1
 obtain ⟨hd1,hd2⟩:=zg (r:=r) (d:=d) (s:=s) (day:=day) Ie
 refine ac ?_
 refine Tr.ret (Fin.AF (Fin.Ht 3 1 (Fin.J7 ?_)))
 refine Fin.Hh 1 (BQ 3 1 ((Ed r d s day).map (fun n=>[int n])) (.slice none 0 0)) rfl (by rw [hd2];rfl) ?_
 refine Fin.drop 2 (Fin.Ou ((.slice none 0 0)) rfl (AM.tmp rfl Lr) (AM.tmp rfl Lr) trivial ?_ (List.Perm.refl _))
 · exact A7 ⟨GR (by rw [hd2];rfl),int_eq hd1.symm,trivial⟩
 have ha0:KU ((d.length:Nat):Int) r s=0:=by simpa using h1
 refine ac ?_
 refine Tr.seq (Tr.pF 1 rfl (fun AE4 AG5=> ?_) ?_)
 subst AG5
 refine Tr.re 8 rfl (EK _ _:Pr.le _ (is (.slice none 0 0))) ?_
 refine ac ?_
 refine co rfl (AR rfl (aS (p:=(fun x:PC d.length=>decide (d.getD x.1.toNat 0>day)))) ⟨kq,⟨_,rfl,FJ eW (fun x=>eV x)⟩,trivial⟩) ?_
 refine ac ?_
 refine Tr.ret (Fin.Ht 3 1 (Fin.J7 ?_))
 refine Fin.Hh 1 (BQ 3 1 ((Ed r d s day).map (fun n=>[int n])) (.slice none 0 0)) rfl bA ?_
 refine Fin.drop 2 (Fin.Ou ((.slice none 0 0)) rfl (AM.tmp rfl Lr) (AM.tmp rfl Lr) trivial ?_ (List.Perm.refl _))
 · exact A7 ⟨GR bA,int_eq (qX ha0).symm,trivial⟩
 refine Tr.RM 1 rfl fun b1 ADr sp1 YL hg1 hm1 hs1=> ?_
 subst YL
 rw [←hlz,qW] at hg1 hs1 ⊢
 refine ap ?_
 refine TO.G4 1 rfl rfl AB (An rfl rfl AB rfl (i7 (l:=lz) (p:=(fun x:PC d.length=>decide (d.getD x.1.toNat 0>day))) (sp:=sp1) hg1 hm1 hs1) ⟨Kx,⟨_,rfl,FJ eW (fun x=>eV x)⟩,trivial⟩) ?_
 refine ap ?_
 refine Tr.ret ?_
 have AIP:(lz.filter fun x=> !decide (d.getD x.1.toNat 0>day)).length≤lz.length:=List.length_filter_le _ _
 have AG6:=hg1
 rw [List.length_map] at AG6
 refine Fin.zf (sz:=1) (rows:=(lz.filter fun x=> !decide (d.getD x.1.toNat 0>day)).map JF) (sp:=List.replicate (lz.length-(lz.filter fun x=> !decide (d.getD x.1.toNat 0>day)).length) (.int .i64 0)++sp1) 1 (by rw [←qY];rfl) Df hm1 (by rw [List.length_append,List.length_replicate,hs1,List.length_map,List.length_map];omega) ?_
 refine Fin.Hh 1 (BQ 3 1 ((Ed r d s day).map (fun n=>[int n])) (.slice (some ⟨b1,0,none⟩) ((lz.filter fun x=> !decide (d.getD x.1.toNat 0>day)).map JF).length ADr)) rfl (by rw [hfz]) (Fin.Ou ((.slice (some ⟨b1,0,none⟩) ((lz.filter fun x=> !decide (d.getD x.1.toNat 0>day)).map JF).length ADr)) rfl (AM.tmp rfl Lr) (AM.tmp rfl Lr) trivial ?_ (List.Perm.refl _))
 · exact A7 ⟨fun _ _ _ h=>⟨h,_,_,(show _=_ from h).trans (by rw [hfz])⟩,int_eq (qX ha0).symm,trivial⟩
theorem zh {l:List Bb} {r:List BI} {d s:List Int} {day:Int}:Ba Tryz.prog 63 [agg [DR l,reqs r,ints d],ints s,int day] (D6 [ints (Ed r d s day),int (aT r d s)]) Da (fun _=>Da):=Fj.ZA (BP fun _=>rfl) vS
theorem V8 {n:Int} {l:List BI} {s:List Int} (hl:l.length≤1000000) (hv:BG n l=0) (hs:DW n s=true):BC prog 31 [int n,reqs l,ints s] (D6 [bool (CY l s),int 0]):=by
 refine fo func31 rfl ⟨rfl,rfl⟩ fun M0 w0=> ?_
 refine a2 ?_
 refine co rfl (CL (HG hl) rfl rfl rfl) ?_
 refine ac ?_
 refine an ?_ ?_<;>intro h1 q1
 exact absurd hv Ie
 refine a2 ?_
 refine co rfl (CL (L7 (l:=s) (n:=n)) rfl rfl rfl) ?_
 refine an ?_ ?_<;>intro h2 q2
 exact absurd h2 Px
 refine a2 ?_
 refine co rfl (CL (O2) rfl rfl rfl) ?_
 refine ac ?_
 refine wk [7,6] rfl (Tr.ret (Fin.Dm rfl (Br.D4 _ _) rfl ?_ rfl ?_))
 · exact Lr
 · exact Lr
-- AG7 to an ascending set (behind Rq.lean)
theorem SZ {x:Int}:∀(s q:List Int),x∉s→s.foldl (Dz x true) (q,true)=(q++s,true)
 |[],q,_=>by simp
 |y::s,q,h=>by
  have hy:y≠x:=fun e=>h (by rw [e];exact List.mem_cons_self ..)
  rw [List.foldl_cons,show Dz x true (q,true) y=(q++[y],true) by unfold Dz;rw [if_neg hy];simp]
  rw [SZ s (q++[y]) (fun hh=>h (List.mem_cons_of_mem _ hh))];simp
theorem eX {x:Int}:∀(s acc:List Int),(acc++s).Pairwise (· < ·)→x∉s→(∀y∈acc,y<x)→(if (s.foldl (Dz x true) (acc,false)).2=false then (s.foldl (Dz x true) (acc,false)).1++[x] else (s.foldl (Dz x true) (acc,false)).1).Pairwise (· < ·)
 |[],acc,h,_,ha=>by
  simp only [List.foldl_nil,if_true]
  rw [List.append_nil] at h
  rw [List.pairwise_append]
  exact ⟨h,List.pairwise_singleton _ _,fun a h1 b h2=>by rw [List.mem_singleton] at h2;subst h2;exact ha a h1⟩
 |y::s,acc,h,hx,ha=>by
  have hy:y≠x:=fun e=>hx (by rw [e];exact List.mem_cons_self ..)
  have hxs:x∉s:=fun hh=>hx (List.mem_cons_of_mem _ hh)
  rw [List.foldl_cons]
  rcases Int.lt_or_le x y with hxy|hxy
  ·
   rw [show Dz x true (acc,false) y=(acc++[x]++[y],true) by unfold Dz;rw [if_neg hy,if_pos ⟨rfl,rfl,hxy⟩],SZ s _ hxs]
   rw [if_neg AV]
   simp only [List.append_assoc,List.singleton_append]
   rw [List.pairwise_append] at h ⊢
   obtain ⟨h1,h2,h3⟩:=h
   rw [List.pairwise_cons] at h2
   refine ⟨h1,List.pairwise_cons.2 ⟨fun b hb=> ?_,List.pairwise_cons.2 h2⟩,fun a h4 b h5=> ?_⟩
   ·
    rcases List.mem_cons.1 hb with rfl|hb
    · exact hxy
    · exact Int.lt_trans hxy (h2.1 b hb)
   ·
    rcases List.mem_cons.1 h5 with rfl|h5
    · exact ha a h4
    · exact h3 a h4 b h5
  ·
   have hlt:y<x:=by omega
   rw [show Dz x true (acc,false) y=(acc++[y],false) by unfold Dz;rw [if_neg hy,if_neg (fun hh=>by have:=hh.2.2;omega)]]
   refine eX s (acc++[y]) (by rw [List.append_assoc];exact h) hxs fun b hb=> ?_
   rcases List.mem_append.1 hb with hb|hb
   · exact ha b hb
   · rw [List.mem_singleton] at hb;subst hb;exact hlt
theorem X_ {s:List Int} {x:Int} (h:s.Pairwise (· < ·)) (hx:x∉s):(EJ s x true).Pairwise (· < ·):=by
 have h1:=eX s [] h hx (fun y hy=>by cases hy)
 unfold EJ wall
 simpa using h1
theorem QY {n:Nat} {l:List BI} {s:List Int} {x:Int} (h:x∈Eg n l s true):(0≤x∧x<(n:Int))∧x∉s∧CY l (EJ s x true)=true:=by
 unfold Eg at h
 obtain ⟨i,hi,rfl⟩:=List.mem_map.1 h
 obtain ⟨h1,h2⟩:=List.mem_filter.1 hi
 have h3:=List.mem_range.1 h1
 unfold ME at h2
 rw [Bool.and_eq_true] at h2
 refine ⟨by omega,fun hc=> ?_,h2.2⟩
 rw [EM.2 hc] at h2
 exact absurd h2.1 AB
theorem vT {n:Nat} {l:List BI} {s:List Int} (h:∀i:Nat,i<n→(i:Int)∈s):Eg n l s true=[]:=by
 unfold Eg
 rw [List.map_eq_nil_iff,List.filter_eq_nil_iff]
 intro i hi
 unfold ME
 rw [EM.2 (h i (List.mem_range.1 hi))]
 simp
theorem qZ {n:Nat} {s:List Int} (h:s.length<n):∃i:Nat,i<n∧(i:Int)∉s:=by
 refine Classical.byContradiction fun hc=> ?_
 have h2:∀x∈(List.range n).map fun i:Nat=>(i:Int),x∈s:=fun x hx=>by
  obtain ⟨i,hi,rfl⟩:=List.mem_map.1 hx
  exact Classical.byContradiction fun hn=>hc ⟨i,List.mem_range.1 hi,hn⟩
 have h3:=K5 (L:=(List.range n).map fun i:Nat=>(i:Int)) (M:=s) (List.Pairwise.map _ (fun a b hab e=>hab AA) (List.nodup_range (n:=n))) h2
 rw [List.length_map,List.length_range] at h3
 omega
theorem qa {n:Nat} {s:List Int} (hp:s.Pairwise (· < ·)) (hr:∀x∈s,0≤x∧x<(n:Int)) (h:s.length=n):∀i:Nat,i<n→(i:Int)∈s:=fun i hi=>by
 refine Classical.byContradiction fun hn=> ?_
 have hnd:s.Nodup:=hp.imp (fun hab e=>by omega)
 have h3:=K5 (L:=(i:Int)::s) (M:=(List.range n).map fun i:Nat=>(i:Int)) (List.nodup_cons.2 ⟨hn,hnd⟩) (fun x hx=>by
  rcases List.mem_cons.1 hx with rfl|hx
  · exact List.mem_map.2 ⟨i,List.mem_range.2 hi,rfl⟩
  ·
   have:=hr x hx
   exact List.mem_map.2 ⟨x.toNat,List.mem_range.2 AA,by omega⟩)
 rw [List.length_map,List.length_range,List.length_cons] at h3
 omega
theorem aU:∀(l:List Int) (a:Int),a≤l.foldl max a∧(∀x∈l,x≤l.foldl max a)
 |[],a=>⟨Int.le_refl _,(fun x h=>by cases h)⟩
 |b::l,a=>by
  obtain ⟨h1,h2⟩:=aU l (max a b)
  rw [List.foldl_cons]
  refine ⟨by omega,fun x hx=> ?_⟩
  rcases List.mem_cons.1 hx with rfl|hx
  · omega
  · exact h2 x hx
theorem NU.days {m:Nat} {l:List Bb} {r:List BI} {d:List Int} (h:NU m l r d):∀x∈d,0≤x:=fun x hx=>by
 obtain ⟨j,hj⟩:=List.mem_iff_getElem?.1 hx
 have hjl:=BN hj
 rw [h.dl] at hjl
 obtain ⟨c,hc⟩:=at_ hjl
 exact (h.dd j x c hjl hj hc).1.1
theorem zi {n:Nat} {s:List Int} (hp:s.Pairwise (· < ·)) (hr:∀x∈s,0≤x∧x<(n:Int)):DW (n:Int) s=true:=by
 unfold DW
 rw [B7]
 intro j hj
 have h1:=hr _ (List.getElem_mem hj)
 unfold setAt
 rw [List.getElem?_eq_getElem hj]
 simp only [Option.getD_some,Bool.and_eq_true,Bool.or_eq_true,decide_eq_true_eq]
 refine ⟨h1,?_⟩
 rcases Nat.eq_zero_or_pos j with h0|h0
 · exact .inl h0
 ·
  right
  rw [List.getElem?_eq_getElem (show j-1<s.length by omega)]
  exact List.pairwise_iff_getElem.1 hp (j-1) j AA hj AA
structure Gj (n:Nat) (r:List BI) (s:List Int):Prop where
 asc:s.Pairwise (· < ·)
 PX:∀x∈s,0≤x∧x<(n:Int)
 cl:CY r s=true
theorem Gj.nil (n:Nat) (r:List BI):Gj n r []:=⟨List.Pairwise.nil,(fun x h=>by cases h),Cz.2 fun q _ h=>by cases h⟩
theorem Gj.set {n:Nat} {r:List BI} {s:List Int} (h:Gj n r s):DW (n:Int) s=true:=zi h.asc h.PX
theorem Gj.next {n:Nat} {r:List BI} {s:List Int} {x:Int} (h:Gj n r s) (hx:x∈Eg n r s true):Gj n r (EJ s x true)∧(EJ s x true).length=s.length+1:=by
 obtain ⟨h1,h2,h3⟩:=QY hx
 refine ⟨⟨X_ h.asc h2,fun y hy=> ?_,h3⟩,Gq h2⟩
 rcases DF.1 hy with rfl|hy
 · exact h1
 · exact h.PX y hy
theorem Gj.due {r:List BI} {d s:List Int} (hv:BG (d.length:Nat) r=0) (h:Gj d.length r s):aT r d s=0∧JA (d.length:Nat) r s=Eg d.length r s true:=by
 have h0:=wZ hv h.set h.cl
 exact ⟨qX h0,by unfold JA;rw [if_pos h0];rfl⟩
theorem Gj.all {r:List BI} {d s:List Int} (hv:BG (d.length:Nat) r=0) (h:Gj d.length r s):Ed r d s (O6 d)=Eg d.length r s true:=by
 unfold Ed
 rw [(h.due hv).2,List.filter_eq_self]
 intro x hx
 have hr:=(QY hx).1
 have hdx:=Ec (l:=d) (i:=x.toNat) AA
 have:=(aU d (-1)).2 _ (List.mem_of_getElem? hdx)
 rw [Bool.not_eq_true',decide_eq_false_iff_not]
 unfold O6
 omega
theorem Gj.none {r:List BI} {d s:List Int} (h:Gj d.length r s) (hl:s.length=d.length):Eg d.length r s true=[]:=vT (qa h.asc h.PX hl)
theorem Gj.some {r:List BI} {d s:List Int} (hv:BG (d.length:Nat) r=0) (h:Gj d.length r s) (hl:s.length<d.length):Eg d.length r s true≠[]:=by
 obtain ⟨i,hi,hn⟩:=qZ hl
 exact Zh (n:=((d.length:Nat):Int)) hv h.cl (by simpa using hi) hn
abbrev HN (l:List Bb) (r:List BI) (d:List Int) (day:Int) (st tr:List Int) (sp:Bool):List Pr:=[DR l,reqs r,ints d,int day,ints st,ints tr,Cp.bool sp]
def OW (m x:Int):Bool:=decide (x<0∨x>m)
abbrev Hu (m:Int) (l:List Int):Bool:=l.any (OW m)
def Bi (st:List Int):List Int:=((List.range st.length).filter fun i:Nat=>decide (st.getD i 0=1)).map fun i:Nat=>(i:Int)
def Kh (st:List Int) (k:Nat):List Int:=((List.range k).filter fun i:Nat=>decide (st.getD i 0=1)).map fun i:Nat=>(i:Int)
theorem YA {st:List Int} {k:Nat} {x:Int} (hx:st[k]? =some x):Kh st (k+1)=if x=1 then Kh st k++[(k:Int)] else Kh st k:=by
 have h:st.getD k 0=x:=by rw [List.getD_eq_getElem?_getD,hx];rfl
 unfold Kh
 rw [List.range_succ,List.filter_append,List.map_append]
 simp only [List.filter_cons,List.filter_nil,h]
 split<;>simp_all
theorem Sa (st:List Int) (k:Nat):(Kh st k).length≤k:=by unfold Kh;rw [List.length_map];exact Nat.le_trans (List.length_filter_le _ _) Pf
theorem i9 (st:List Int):Bi st=Kh st st.length:=rfl
theorem i_ {st:List Int} (h:∀x∈st,x≠1):Bi st=[]:=by
 unfold Bi
 rw [List.map_eq_nil_iff,List.filter_eq_nil_iff]
 intro i hi
 have hi:=List.mem_range.1 hi
 have:=h _ (List.getElem_mem hi)
 rw [List.getD_eq_getElem?_getD,List.getElem?_eq_getElem hi]
 simpa using this
theorem PD (n:Nat):Bi (List.replicate n 0)=[]:=i_ fun x hx=>by rw [List.eq_of_mem_replicate hx];decide
def S6 (n:Nat) (r:List BI) (d:List Int) (day:Int) (st tr:List Int):Bool:=decide (((n≤24∧d.length=n)∧st.length=n∧tr.length=n)∧((Hu 40000 d=false∧OW 40000 day=false)∧Hu 3 st=false∧Hu 4 tr=false)∧Vx (n:Int) r (Bi st)=0∧Vy (n:Int) r (Bi st)=true)
theorem MQ {n:Nat} {r:List BI} {d:List Int} {day:Int} {st tr:List Int}:S6 n r d day st tr=true↔((n≤24∧d.length=n)∧st.length=n∧tr.length=n)∧((Hu 40000 d=false∧OW 40000 day=false)∧Hu 3 st=false∧Hu 4 tr=false)∧Vx (n:Int) r (Bi st)=0∧Vy (n:Int) r (Bi st)=true:=by unfold S6;rw [decide_eq_true_eq]
theorem YB {l:List Bb} {r:List BI} {d:List Int} (G2:∀x∈l,x.C1.small) (hl:l.length≤1000000) (hr:r.length≤1000000) (hd:d.length≤1000000):BC Tryz.prog 100 [agg [DR l,reqs r,ints d]] (agg [DR l,reqs r,ints d]):=PT.frz (BP fun _=>rfl) (pK G2 hl hr hd)
theorem YC {l:List Int} (hl:l.length≤1000000000):BC prog 131 [ints l] (ints l):=by
 refine fo func131 rfl ⟨rfl,rfl⟩ fun M0 w0=> ?_
 refine a2 ?_
 refine co rfl (Ff rfl underlying22 vq) ?_
 refine ac ?_
 refine Tr.ex 4 rfl (fun z1=>Tr.fact 4 rfl fun Eh=> ?_)
 refine Tr.cn rfl ?_ ?_<;>intro h1 q1
 refine a2 ?_
 · (have hl0:l=[]:=(by simpa using Eh h1));subst hl0;exact AQ 1
 refine ac ?_
 refine ap ?_
 refine TO.pad ?_
 refine TO.Dj 0 rfl rfl AB (B8 rfl rfl rfl rfl underlying22 Bw IY z3 GX vq (Bu BO vq)) (fun v1=> ?_)
 refine ap ?_
 refine ac ?_
 · exact Pr.le_trans (As _ _) (Pr.le_of_eq AV)
theorem YD {l:List Bb} {r:List BI} {d:List Int} {day:Int} {st tr:List Int} {sp:Bool} (G2:∀x∈l,x.C1.small) (hl:l.length≤1000000) (hr:r.length≤1000000) (hd:d.length≤1000000) (hst:st.length≤1000000) (htr:tr.length≤1000000):BC prog 73 [agg (HN l r d day st tr sp)] (agg (HN l r d day st tr sp)):=by
 refine fo func73 rfl ⟨rfl,rfl⟩ fun M0 w0=>(Tr.seq (Tr.Ao ?_))
 refine TO.Uv rfl rfl AB rfl Cv (fun b1=> ?_)
 refine Tl rfl rfl rfl rfl z42 J0 (fun b2=> ?_)
 refine ap ?_
 refine Tr.seq (Tr.rx ?_)
 refine ay ?_
 refine xo rfl (fun _=>Ct (YB G2 hl hr hd) rfl rfl) ?_
 refine ay ?_
 refine xo rfl (fun _=>Ct (YC (l:=st) AA) rfl rfl) ?_
 refine ay ?_
 refine xo rfl (fun _=>Ct (YC (l:=tr) AA) rfl rfl) ?_
 refine ay ?_
 refine Cx.nil ⟨by kernel_rfl,?_⟩
 refine BJ.done W7 (Fin.go (wk [2,1] rfl ?_))
 refine ap ?_
 refine Tr.drop 1 (Tr.ret (Fin.CX rfl (AM.cell 0 rfl rfl Ea ET rfl Lr) ?_))
 · exact Lr
theorem YE {m x:Int}  :BC prog 135 [int x,ref [int m]] (bool (OW m x)):=by
 refine fo func135 rfl ⟨rfl,rfl⟩ fun M0 w0=> ?_
 refine ac ?_
 refine ac ?_
 refine Ch.cs 6 rfl ?_ ?_<;>intro h1 q1
 refine ac ?_
 refine ac ?_
 · refine bool_eq ?_;unfold OW;simp_all
 refine ac ?_
 refine ac ?_
 · refine bool_eq ?_;unfold OW;simp_all;omega
theorem YF:Entry Tryz.prog 135:=⟨_,Tryz.func135,rfl,rfl⟩
theorem JH {m:Int} {l:List Int}  :BC prog 77 [int m,ints l] (bool (!Hu m l)):=by
 refine fo func77 rfl ⟨rfl,rfl⟩ fun M0 w0=> ?_
 refine a2 ?_
 refine co rfl (AR rfl (JP (l:=l) (p:=OW m)) ⟨kq,⟨_,rfl,FJ YF (fun x=>YE (m:=m) (x:=x))⟩,trivial⟩) ?_
 refine a2 ?_
 · exact Lr
theorem NV {l:List Bb} {r:List BI} {d:List Int} {day:Int} {st tr:List Int} {sp:Bool} (hst:st.length≤1000000):BC prog 24 [agg (HN l r d day st tr sp)] (ints (Bi st)):=by
 refine fo func24 rfl ⟨rfl,rfl⟩ fun M0 w0=> ?_
 refine a3 ?_
 refine Tr.block (Tr.B_ 3 1 (Tr.Ep _ (kk [8,7] rfl) (fun k v=>[(9,int ((k:Nat):Int)),(3,Ac v (ints (Kh st k)))]) (fun k v=>Hp M0 w0 FT ([At 3 1 v])) (fun k:Nat=>k≤(st).length) (fun k:Nat=>(st).length-k) 0 (.slice none 0 0) (Nat.zero_le _) ⟨kq,⟨_,rfl,Bq rfl⟩,trivial⟩ (fun _ _ h=>h) ?_))
 rintro k v BR
 refine ac ?_
 refine Tr.seq ?_
 refine Tr.cn rfl ?_ ?_<;>intro h1 q1
 have Ai:k<(st).length:=AH h1
 obtain ⟨x,Ah⟩:=at_ Ai
 have hsk:=YA Ah
 have AIQ:=Sa st k
 refine a2 ?_
 refine co rfl (AD rfl underlying22 Bw vq vq AA (Aa Ah)) ?_
 refine ac ?_
 refine an ?_ ?_<;>intro h2 q2
 refine ap ?_
 refine TO.Dj 0 rfl rfl AB (B8 rfl rfl rfl rfl underlying51 Bw IY z3 IZ GX (A_ BO Kx)) (fun v1=> ?_)
 refine ap ?_
 refine wk [9,8,7,3] rfl ?_
 refine ac ?_
 exact Fin.DM (k+1) v1 (⟨Ai,by omega⟩) ⟨⟨_,rfl,AG k⟩,⟨_,rfl,BE (by rw [hsk,if_pos Bv,List.map_append];rfl)⟩,kz⟩ (fun _ _ h=>h)
 refine a2 ?_
 exact Fin.DM (k+1) v (⟨Ai,by omega⟩) ⟨⟨_,rfl,AG k⟩,⟨_,rfl,BE (by rw [hsk,if_neg Bv])⟩,kz⟩ (fun _ _ h=>h)
 have BM:k=(st).length:=by have:=AJ h1;omega
 subst BM
 refine a3 ?_
 · exact Ij
theorem OX {l:List Bb} {r:List BI} {d:List Int} {day:Int} {st tr:List Int} {sp:Bool} (hst:st.length≤1000000):Ba prog 25 [agg (HN l r d day st tr sp)] (int (if S6 l.length r d day st tr=true then 0 else 49)) (Da) (fun _=>Da):=by
 refine Ba.of func25 rfl rfl BA fun M0 w0 S rs M1 w1=> ?_
 refine a2 ?_
 refine ag ?_ ?_<;>intro h1 q1
 refine ac ?_
 refine wk [10,3,1] rfl ?_
 refine ac ?_
 refine Tr.ret (Fin.AU (Fin.AF (Fin.Eo rfl rfl ?_ (fun _ _ _ _=>rfl))))
 · exact Qi
 refine ag ?_ ?_<;>intro h2 q2
 refine ac ?_
 refine wk [10,3,1] rfl ?_
 refine ac ?_
 refine Tr.ret (Fin.AU (Fin.AF (Fin.Eo rfl rfl ?_ (fun _ _ _ _=>rfl))))
 · exact Qi
 refine ag ?_ ?_<;>intro h3 q3
 refine ac ?_
 refine wk [10,3,1] rfl ?_
 refine ac ?_
 refine Tr.ret (Fin.AU (Fin.AF (Fin.Eo rfl rfl ?_ (fun _ _ _ _=>rfl))))
 · exact Qi
 refine ac ?_
 refine wk [10,3,1] rfl ?_
 refine Tr.cn rfl ?_ ?_<;>intro h4 q4
 refine ac ?_
 refine Tr.ret (Fin.AU (Fin.AF (Fin.Eo rfl rfl ?_ (fun _ _ _ _=>rfl))))
 · exact Qi
 refine ac ?_
 refine co rfl (CL (JH (m:=40000) (l:=d)) rfl rfl rfl) ?_
 refine ag ?_ ?_<;>intro h5 q5
 refine ac ?_
 refine wk [35,3,1] rfl ?_
 refine ac ?_
 refine Tr.ret (Fin.AU (Fin.AF (Fin.Eo rfl rfl ?_ (fun _ _ _ _=>rfl))))
 · exact Qh
 refine ac ?_
 refine cy h5 rfl (AR rfl (JH (m:=40000) (l:=[day])) ⟨kq,GX,trivial⟩) ?_
 refine ag ?_ ?_<;>intro h6 q6
 refine ac ?_
 refine wk [35,3,1] rfl ?_
 refine ac ?_
 refine Tr.ret (Fin.AU (Fin.AF (Fin.Eo rfl rfl ?_ (fun _ _ _ _=>rfl))))
 · exact Qh
 refine ac ?_
 refine cy h6 rfl (CL (JH (m:=3) (l:=st)) rfl rfl rfl) ?_
 refine ag ?_ ?_<;>intro h7 q7
 refine ac ?_
 refine wk [35,3,1] rfl ?_
 refine ac ?_
 refine Tr.ret (Fin.AU (Fin.AF (Fin.Eo rfl rfl ?_ (fun _ _ _ _=>rfl))))
 · exact Qh
 refine ac ?_
 refine cy h7 rfl (CL (JH (m:=4) (l:=tr)) rfl rfl rfl) ?_
 refine ac ?_
 refine wk [35,3,1] rfl ?_
 refine Tr.cn rfl ?_ ?_<;>intro h8 q8
 refine ac ?_
 refine Tr.ret (Fin.AU (Fin.AF (Fin.Eo rfl rfl ?_ (fun _ _ _ _=>rfl))))
 · exact Qh
 refine ac ?_
 refine Tr.seq (Tr.seq (Tr.rx ?_))
 refine ay ?_
 refine xo rfl (fun _=>Ct (NV hst) rfl rfl) ?_
 refine Cx.ef 0 rfl rfl AB (An rfl rfl AB rfl (Z6 (n:=((l.length:Nat):Int)) (l:=r) (s:=Bi st)) ⟨kq,kz⟩) ?_
 refine ay ?_
 refine Cx.nil ⟨by kernel_rfl,?_⟩
 refine BJ.done W7 (Fin.go (wk [5,4] rfl ?_))
 refine ag ?_ ?_<;>intro h9 q9
 refine a2 ?_
 refine Tr.ret (Fin.AF (Fin.Eo rfl rfl ?_ (fun _ _ _ _=>rfl)))
 · exact Qi
 refine an ?_ ?_<;>intro h10 Re
 refine ac ?_
 refine Tr.ret (Fin.AF (Fin.Eo rfl rfl ?_ (fun _ _ _ _=>rfl)))
 · exact Qh
 refine a2 ?_
 refine Tr.ret (Fin.Eo rfl rfl ?_ (fun _ _ _ _=>rfl))
 · exact int_eq (if_pos (MQ.2 (by refine ⟨⟨⟨?_,?_⟩,?_,?_⟩,⟨⟨?_,?_⟩,?_,?_⟩,?_,?_⟩<;>first|omega|(simp_all;done)))).symm
def newE (l:List Bb) (r:List BI) (d:List Int) (day:Int):Int:=if 0≤day∧day≤40000 then (if S6 l.length r d day (List.replicate l.length 0) (List.replicate l.length 0)=true then 0 else 49) else 2
def newP (l:List Bb) (r:List BI) (d:List Int) (day:Int):List Pr:=if newE l r d day=0 then HN l r d day (List.replicate l.length 0) (List.replicate l.length 0) false else HN [] [] [] 0 [] [] false
theorem bD:Pr.le (agg [is (.slice none 0 0),is (.slice none 0 0),is (.slice none 0 0),int 0,is (.slice none 0 0),is (.slice none 0 0),Cp.bool false]) (agg (HN [] [] [] 0 [] [] false)):=BS ⟨AQ 8,AQ 2,AQ 1,Pr.le_refl _,AQ 1,AQ 1,Pr.le_refl _,trivial⟩
theorem j8 {l:List Bb} {r:List BI} {d:List Int} {day e:Int} (h:newE l r d day=e) (he:e≠0):newP l r d day=HN [] [] [] 0 [] [] false:=if_neg Kr
theorem bC {l:List Bb} {r:List BI} {d:List Int} {day:Int} (h:¬(0≤day∧day≤40000)):newE l r d day=2:=if_neg h
theorem zj {l:List Bb} {r:List BI} {d:List Int} {day:Int} (h:0≤day∧day≤40000) (hk:¬S6 l.length r d day (List.replicate l.length 0) (List.replicate l.length 0)=true):newE l r d day=49:=by unfold newE;rw [if_pos h,if_neg hk]
theorem qb {l:List Bb} {r:List BI} {d:List Int} {day:Int} (h:0≤day∧day≤40000) (hk:S6 l.length r d day (List.replicate l.length 0) (List.replicate l.length 0)=true):newE l r d day=0∧newP l r d day=HN l r d day (List.replicate l.length 0) (List.replicate l.length 0) false:=by
 have h0:newE l r d day=0:=by unfold newE;rw [if_pos h,if_pos hk]
 exact ⟨h0,if_pos h0⟩
theorem eY {n:Nat} {m:Int} (h:0≤m):Hu m (List.replicate n 0)=false:=by
 unfold Hu
 rw [List.any_eq_false]
 intro x hx
 rw [List.eq_of_mem_replicate hx]
 unfold OW
 simpa using h
theorem NU.in_ {m:Nat} {l:List Bb} {r:List BI} {d:List Int} (h:NU m l r d):Hu 40000 d=false:=by
 unfold Hu
 rw [List.any_eq_false]
 intro x hx
 obtain ⟨j,hj⟩:=List.mem_iff_getElem?.1 hx
 have hjl:=BN hj
 rw [h.dl] at hjl
 obtain ⟨c,hc⟩:=at_ hjl
 have:=(h.dd j x c hjl hj hc).1
 unfold OW
 rw [decide_eq_true_eq];omega
theorem set_nil (n:Int):DW n []=true:=rfl
theorem NU.new {m:Nat} {l:List Bb} {r:List BI} {d:List Int} {day:Int} (h:NU m l r d) (hd:0≤day∧day≤40000):newE l r d day=0∧newP l r d day=HN l r d day (List.replicate l.length 0) (List.replicate l.length 0) false:=by
 refine qb hd ?_
 obtain ⟨h1,h2⟩:=pI (n:=((l.length:Nat):Int)) (s:=[]) h.v (set_nil _)
 unfold S6
 rw [PD,decide_eq_true_eq,h1,h2]
 exact ⟨⟨⟨h.l24,h.dl⟩,List.length_replicate,List.length_replicate⟩,⟨⟨h.in_,by unfold OW;rw [decide_eq_false_iff_not];omega⟩,eY AB,eY AB⟩,rfl,Cz.2 fun q _ hq=>by cases hq⟩
theorem eZ:newE [] [] [] 3=0∧newP [] [] [] 3=HN [] [] [] 3 [] [] false:=qb AB AB
theorem V9 {l:List Bb} {r:List BI} {d:List Int} {day:Int} (G2:∀x∈l,x.C1.small) (hl:l.length≤1000000) (hr:r.length≤1000000) (hd:d.length≤1000000):Ba prog 26 [agg [DR l,reqs r,ints d],int day] (D6 [agg (newP l r d day),int (newE l r d day)]) (Da) (fun _=>Da):=by
 refine Ba.of func26 rfl rfl BA fun M0 w0 S rs M1 w1=> ?_
 refine Tr.seq (Tr.Ao (tp rfl (Bj rfl Cv) ?_))
 refine Tl rfl rfl rfl rfl z42 J0 (fun b1=> ?_)
 refine ap ?_
 refine ag ?_ ?_<;>intro h1 q1
 refine ac ?_
 refine Tr.cond rfl (fun _=> ?_) (fun h=>nomatch h)
 refine Tr.seq (Tr.Ao (tp rfl (Al (rows:=[]) rfl rP J0 trivial rfl) (TO.AK 0 rfl rfl rfl vq Cv rfl ET rfl rfl (tm rfl (TO.nil (Fin.go (Tr.ret (Fin.AF (Fin.Wg [_] rfl (AM.cell 0 rfl rfl Ea ET rfl Lr) (AM.tmp rfl Lr) ?_)))))))))
 refine A7 ⟨?_,?_,trivial⟩
 · exact bB
 · exact int_eq (bC (l:=l) (r:=r) (d:=d) (day:=day) AA).symm
 refine an ?_ ?_<;>intro h2 q2
 refine ap ?_
 refine Tr.ret (Fin.AF (Fin.Wg [_] rfl (AM.cell 0 rfl rfl Ea ET rfl Lr) (AM.tmp rfl Lr) ?_))
 refine A7 ⟨?_,?_,trivial⟩
 · exact bB
 · exact int_eq (bC (l:=l) (r:=r) (d:=d) (day:=day) AA).symm
 have hdy:0≤day∧day≤40000:=by simp_all
 refine a2 ?_
 refine wk [6,4,2,1] rfl (Tr.seq (Tr.pad (Tr.rx ?_)))
 refine ax ?_
 refine xo rfl (fun _=>NK (m:=l.length) rfl underlying22 Bw IY z3 rfl AB AB vq vq Fz AA) ?_
 refine xm rfl ?_
 refine xo rfl (fun _=>NK (m:=l.length) rfl underlying22 Bw IY z3 rfl AB AB vq vq Fz AA) ?_
 refine xo rfl (fun _=>Al (rows:=[(0,_),(1,[_]),(2,[_]),(3,[_])]) rfl rP J0 ⟨⟨rfl,Cv⟩,⟨⟨rfl,Ni⟩,⟨⟨rfl,⟨_,rfl,Pr.le_trans (Pr.le_trans (B5 _ _) (Pr.le_of_eq (show _=slice 1 ((List.replicate l.length (0:Int)).map fun n=>[int n]) by rw [List.map_replicate];rfl))) (Af _)⟩⟩,⟨⟨rfl,⟨_,rfl,Pr.le_trans (Pr.le_trans (B5 _ _) (Pr.le_of_eq (show _=slice 1 ((List.replicate l.length (0:Int)).map fun n=>[int n]) by rw [List.map_replicate];rfl))) (Af _)⟩⟩,trivial⟩⟩⟩⟩ rfl) ?_
 refine xo rfl (fun _=>Ct (YD (l:=l) (r:=r) (d:=d) (day:=day) (st:=(List.replicate l.length (0:Int))) (tr:=(List.replicate l.length (0:Int))) (sp:=false) G2 hl hr hd Pn Pn) rfl rfl) ?_
 refine Cx.ef 0 rfl rfl AB (CN rfl rfl AB rfl z42 J0) (Cx.DY 0 rfl rfl (Cs rfl rfl rfl rfl Cv ET rfl rfl) ?_)
 refine Cx.nil ⟨by kernel_rfl,?_⟩
 refine BJ.open_ 0 7 rfl rfl (fun v1=> ?_)
 refine BJ.done al4 (Fin.MN 7 0 _ rfl rfl (fun _=>rfl) (fun b2=> ?_))
 refine Fin.go (wk [7,4] rfl ?_)
 refine ap ?_
 refine TO.G4 2 rfl rfl AB (An rfl rfl AB rfl (OX (l:=l) (r:=r) (d:=d) (day:=day) (st:=(List.replicate l.length (0:Int))) (tr:=(List.replicate l.length (0:Int))) (sp:=false) Pn) kz) ?_
 refine ap ?_
 refine an ?_ ?_<;>intro h3 q3
 have h49:newE l r d day=49:=zj hdy Ks
 refine ap ?_
 refine Tr.drop 0 (Tr.ret (Fin.AF (Fin.Wg [_] rfl (AM.cell 0 rfl rfl Ea ET rfl Lr) (AM.tmp rfl Lr) ?_)))
 refine A7 ⟨?_,?_,trivial⟩
 · rw [j8 h49 AB];exact bD
 · refine int_eq ?_;rw [h49];simp_all
 have h0:=qb (l:=l) (r:=r) (d:=d) hdy Ks
 refine ac ?_
 refine ap ?_
 refine Tr.drop 0 (Tr.ret (Fin.Wg [_] rfl (AM.cell 0 rfl rfl Ea ET rfl Lr) (AM.tmp rfl Lr) ?_))
 refine A7 ⟨?_,?_,trivial⟩
 · rw [h0.2];exact Lr
 · exact int_eq h0.1.symm
theorem YG {l:List Bb} {r:List BI} {d:List Int} {day:Int} {st tr:List Int} {sp:Bool} {Jg:Int} (G2:∀x∈l,x.C1.small) (hl:l.length≤1000000) (hr:r.length≤1000000) (hd:d.length≤1000000) (hst:st.length≤1000000) (htr:tr.length≤1000000):BC prog 29 [agg (HN l r d day st tr sp),int Jg] (D6 [agg (HN l r d (if Jg<day∨Jg>40000 then day else Jg) st tr sp),int (if Jg<day∨Jg>40000 then 2 else 0)]):=by
 refine fo func29 rfl ⟨rfl,rfl⟩ fun M0 w0=>(Tr.seq (Tr.Ao (tp rfl (Bj rfl Cv) ?_)))
 refine Tl rfl rfl rfl rfl z42 J0 (fun b1=> ?_)
 refine ap ?_
 refine ap ?_
 refine tp rfl (Ct (YD G2 hl hr hd hst htr) rfl rfl) ?_
 refine Tl rfl rfl rfl rfl z42 J0 (fun b2=> ?_)
 refine ap ?_
 refine ag ?_ ?_<;>intro h1 q1
 refine ac ?_
 refine wk [16,6,4,1] rfl (Tr.cond rfl (fun _=> ?_) (fun h=>nomatch h))
 refine Tr.seq (Tr.Ao (TO.rd 0 rfl rfl rfl AB (B4 rfl Ea ET vq rfl rfl) (TO.AK 1 rfl rfl rfl vq Cv rfl ET rfl rfl (tm rfl (TO.nil (Fin.go (Tr.drop 0 (Tr.ret (Fin.AF (Fin.BZ rfl (AM.cell 0 rfl rfl Ea ET rfl Lr) (AM.tmp rfl Lr) ?_))))))))))
 refine A7 ⟨?_,?_,trivial⟩
 · rw [if_pos (show Jg<day∨Jg>40000 by omega)];exact Lr
 · exact int_eq (if_pos (show Jg<day∨Jg>40000 by omega)).symm
 refine ac ?_
 refine wk [16,6,4,1] rfl ?_
 refine Tr.cn rfl ?_ ?_<;>intro h2 q2
 refine ap ?_
 refine Tr.drop 0 (Tr.ret (Fin.AF (Fin.BZ rfl (AM.cell 0 rfl rfl Ea ET rfl Lr) (AM.tmp rfl Lr) ?_)))
 refine A7 ⟨?_,?_,trivial⟩
 · rw [if_pos (show Jg<day∨Jg>40000 by omega)];exact Lr
 · exact int_eq (if_pos (show Jg<day∨Jg>40000 by omega)).symm
 refine ac ?_
 refine ap ?_
 refine ap ?_
 refine Tr.drop 0 (Tr.ret (Fin.BZ rfl (AM.cell 0 rfl rfl Ea ET rfl Lr) (AM.tmp rfl Lr) ?_))
 refine A7 ⟨?_,?_,trivial⟩
 · rw [if_neg (show ¬(Jg<day∨Jg>40000) by omega)];exact Lr
 · exact int_eq (if_neg (show ¬(Jg<day∨Jg>40000) by omega)).symm
theorem qc {x:Int}  :BC prog 85 [int x] (bool (decide (x≠1))):=by
 refine fo func85 rfl ⟨rfl,rfl⟩ fun M0 w0=> ?_
 refine a3 ?_
 · refine bool_eq ?_;by_cases h_:x=1<;>simp [h_]
theorem qd:Entry Tryz.prog 85:=⟨_,Tryz.func85,rfl,rfl⟩
theorem NW {l:List Bb} {r:List BI} {d:List Int} {day:Int} {st tr:List Int} {sp:Bool}  :BC prog 32 [agg (HN l r d day st tr sp)] (bool (!(st.any fun x=>decide (x≠1)))):=by
 refine fo func32 rfl ⟨rfl,rfl⟩ fun M0 w0=> ?_
 refine a2 ?_
 refine co rfl (AR rfl (JP (l:=st) (p:=fun x=>decide (x≠1))) ⟨kq,⟨_,rfl,FJ qd (fun x=>qc (x:=x))⟩,trivial⟩) ?_
 refine a2 ?_
 · exact Lr
theorem qg   :Ba prog 11 [] (bool true) (Da) (fun _=>Da):=by
 refine Ba.of func11 rfl rfl BA fun M0 w0 S rs M1 w1=> ?_
 refine Tr.seq (Tr.Aj (cm rfl (Ch.nil (Fin.go (Tr.seq (Tr.Ao (tp rfl (Al (rows:=[]) rfl Lt E9 trivial rfl) ?_)))))))
 refine TO.G4 0 rfl rfl AB (An rfl rfl AB rfl (V9 (l:=[]) (r:=[]) (d:=[]) (day:=3) (fun x h=>by cases h) AB AB AB) ⟨⟨_,rfl,BS (ps:=[is (.slice none 0 0),is (.slice none 0 0),is (.slice none 0 0)]) ⟨AQ 8,AQ 2,AQ 1,trivial⟩⟩,ke rfl,trivial⟩) ?_
 refine tm rfl (tp rfl (Aq rfl (vl rfl) rfl) (TO.re 8 _ rfl (Pr.le_of_eq (congrArg agg eZ.2)) (tp rfl (Aq rfl (vl rfl) rfl) (TO.re 9 _ rfl (int_eq eZ.1) ?_))))
 refine Tl rfl rfl rfl rfl z42 J0 (fun b1=> ?_)
 refine TO.AK 0 rfl rfl rfl (vl rfl) (Va rfl) rfl ET rfl rfl (TO.freeze 0 1 rfl rfl (tm rfl (TO.nil (Fin.go (Tr.seq (Tr.Ao (tp rfl (Al (rows:=[]) rfl Lt E9 trivial rfl) ?_)))))))
 refine TO.G4 0 rfl rfl AB (An rfl rfl AB rfl (V9 (l:=[]) (r:=[]) (d:=[]) (day:= -1) (fun x h=>by cases h) AB AB AB) ⟨⟨_,rfl,BS (ps:=[is (.slice none 0 0),is (.slice none 0 0),is (.slice none 0 0)]) ⟨AQ 8,AQ 2,AQ 1,trivial⟩⟩,ke rfl,trivial⟩) ?_
 refine tm rfl (tp rfl (Aq rfl (vl rfl) rfl) (tp rfl (Aq rfl (vl rfl) rfl) (TO.re 14 _ rfl (int_eq (bC AB)) ?_)))
 refine Tl rfl rfl rfl rfl z42 J0 (fun b2=> ?_)
 refine TO.AK 0 rfl rfl rfl (vl rfl) (Va rfl) rfl ET rfl rfl (TO.freeze 0 3 rfl rfl (tm rfl (TO.nil (Fin.go (F6 1 2 4 rfl (Tr.seq (Tr.Ao (tm rfl (tp rfl (ki rfl rfl rfl rfl) (tm rfl ?_))))))))))
 refine TO.cases 17 rfl (fun h1=> ?_) (fun h1=> ?_)
 have q1:=DU.D7 h1
 refine TO.Hv rfl rfl rfl h1 rfl AB (BX rfl (vl rfl)) (TO.Hv rfl rfl rfl h1 rfl AB (ki rfl rfl rfl rfl) (tp rfl (Q9 rfl rfl h1 rfl) (tm rfl ?_)))
 refine TO.cases 21 rfl (fun h2=> ?_) (fun h2=> ?_)
 have q2:=DU.D7 h2
 refine TO.Hv rfl rfl rfl h2 rfl AB (PK rfl k6 rfl rfl) (TO.Hv rfl rfl rfl h2 rfl AB (F5 rfl Cq rfl) (TO.Hv rfl rfl rfl h2 rfl AB (ki rfl rfl rfl rfl) (tp rfl (Q9 rfl rfl h2 rfl) (tm rfl ?_))))
 refine TO.cases 26 rfl (fun h3=> ?_) (fun h3=> ?_)
 have q3:=DU.D7 h3
 refine TO.Hv rfl rfl rfl h3 rfl AB (AP rfl Ea ET (vl rfl) rfl rfl) ?_
 refine TO.Hv rfl rfl rfl h3 rfl AB (AR rfl (NW (l:=[]) (r:=[]) (d:=[]) (day:=3) (st:=[]) (tr:=[]) (sp:=false)) ⟨ke rfl,trivial⟩) ?_
 refine tp rfl (Q9 rfl rfl h3 rfl) (tm rfl ?_)
 refine TO.cases 30 rfl (fun h4=> ?_) (fun h4=> ?_)
 have q4:=DU.D7 h4
 refine TO.Hv rfl rfl rfl h4 rfl AB (Al (rows:=[(1,[_])]) rfl rP J0 ⟨⟨rfl,(Vo rfl)⟩,trivial⟩ rfl) ?_
 refine TO.lU 0 rfl rfl rfl h4 rfl rfl AB (An rfl rfl AB rfl (OX (l:=[]) (r:=[]) (d:=[]) (day:= -1) (st:=[]) (tr:=[]) (sp:=false) AB) ⟨⟨_,rfl,BS (ps:=[is (.slice none 0 0),is (.slice none 0 0),is (.slice none 0 0),int (-1),is (.slice none 0 0),is (.slice none 0 0),Cp.bool false]) ⟨AQ 8,AQ 2,AQ 1,Lr,AQ 1,AQ 1,Lr,trivial⟩⟩,trivial⟩) ?_
 refine TO.Hv rfl rfl rfl h4 rfl AB (ki rfl rfl rfl rfl) (tp rfl (Q9 rfl rfl h4 rfl) (tm rfl (TO.nil (Fin.go (N0 0 rfl (Tr.ret (Fin.Eo rfl rfl ?_ (fun _ _ _ _=>rfl))))))))
 · exact bool_eq AB
 have q4:=DU.D7 h4
 exact absurd h4 AB
 have q3:=DU.D7 h3
 exact absurd h3 AB
 have q2:=DU.D7 h2
 exact absurd h2 AB
 have q1:=DU.D7 h1
 exact absurd h1 AB
theorem aV {n:Nat} {l:List (PC n)} {p:PC n→Bool} (hno:∀x∈l,p x=false):BC prog 118 [vR l,Yn prog (fun x:PC n=>[int x.1]) (fun x=>bool (p x))] (vR l):=by
 refine fo func118 rfl ⟨rfl,rfl⟩ fun M0 w0=> ?_
 refine ac ?_
 refine ac ?_
 refine co rfl (CL (JG (l:=l) (p:=p)) rfl rfl rfl) ?_
 refine ac ?_
 refine ac ?_
 refine Tr.cn rfl ?_ ?_<;>intro h1 q1
 refine ac ?_
 refine ac ?_
 · exact Lr
 exfalso;have h_:=FA (p:=p) (l:=l) (fun j y _ hy=>hno y (List.mem_of_getElem? hy));rw [←h_] at h1;simp at h1
theorem qh {l:List Int} {v:Int}  :BC prog 134 [ints l,int v] (int (idx (fun x=>v==x) l)):=by
 refine fo func134 rfl ⟨rfl,rfl⟩ fun M0 w0=>(Tr.Cf 0 rfl fun D_=> ?_)
 refine a2 ?_
 refine Tr.block (Tr.BD _ (kk [7,1,0] rfl) (fun k:Nat=>[(8,int ((k:Nat):Int))]) (fun k:Nat=>k≤(l).length∧(∀j y,j<k→l[j]? =some y→(v==y)=false)) (fun k:Nat=>(l).length-k) 0 (⟨Nat.zero_le _,fun j y hj=>absurd hj AA⟩) kz ?_)
 rintro k ⟨BR,AX⟩
 refine ac ?_
 refine Tr.seq ?_
 refine Tr.cn rfl ?_ ?_<;>intro h1 q1
 have Ai:k<(l).length:=AH h1
 obtain ⟨x,Ah⟩:=at_ Ai
 · repeat' first|exact int_eq (EO (p:=fun x=>v==x) Ah Bh AX)|exact Fin.AL (k+1) ⟨⟨Ai,DV (p:=fun x=>v==x) Ah Bh AX⟩,by omega⟩ ⟨⟨_,rfl,AG k⟩,kz⟩|refine co rfl (AD rfl underlying51 Bw vq vq AA CM) ?_|refine ac ?_|(refine Tr.cn rfl ?_ ?_<;>intro h q)
 have BM:k=(l).length:=by have:=AJ h1;omega
 subst BM
 refine a3 ?_
 · exact int_eq (FA AX)
def S7 (o l:List Int):Int:=(o.find? fun i=>l.contains i).getD 0
def OY (o l:List Int):Bool:=(o.find? fun i=>l.contains i).isSome
theorem ec {o l:List Int} {k:Nat} {x:Int} (hx:o[k]? =some x) (hb:∀j y,j<k→o[j]? =some y→l.contains y=false) (h:l.contains x=true):S7 o l=x∧OY o l=true:=by
 have hf:o.find? (fun i=>l.contains i)=some x:=by
  rw [List.find?_eq_some_iff_getElem]
  obtain ⟨hk,he⟩:=List.getElem?_eq_some_iff.1 hx
  refine ⟨h,k,hk,he,fun j hj=> ?_⟩
  have:=hb j _ hj (List.getElem?_eq_getElem AA)
  simpa using this
 unfold S7 OY
 rw [hf];exact ⟨rfl,rfl⟩
theorem aW {o l:List Int} (hb:∀j y,j<o.length→o[j]? =some y→l.contains y=false):S7 o l=0∧OY o l=false:=by
 have hf:o.find? (fun i=>l.contains i)=none:=by
  rw [List.find?_eq_none]
  intro y hy
  obtain ⟨j,hj,rfl⟩:=List.mem_iff_getElem.1 hy
  rw [hb j _ hj (List.getElem?_eq_getElem hj)];decide
 unfold S7 OY
 rw [hf];exact ⟨rfl,rfl⟩
theorem V_ (l:List Int) (v:Int):(l.any fun x=>v==x)=l.contains v:=by rw [List.contains_eq_any_beq]
theorem qi (d:List Int):(Jf d).length=d.length:=by rw [(eU d).2.length_eq,GS]
theorem ej {n:Nat} {l:List (PC n)} {L:List Int} (h:l.map (·.1)=L):vR l=ints L:=by
 show slice 1 (l.map JF)=slice 1 (L.map fun n=>[int n])
 rw [←h,qW]
theorem PF {l:List Int} {v:Int}  :BC prog 75 [ints l,int v] (bool (l.contains v)):=by
 refine fo func75 rfl ⟨rfl,rfl⟩ fun M0 w0=> ?_
 refine a2 ?_
 refine co rfl (CL (qh) rfl rfl rfl) ?_
 refine a2 ?_
 · refine bool_eq ?_;rw [←V_];exact P7 _ l
theorem qj {l:List Bb} {r:List BI} {d:List Int} {day:Int} {st tr:List Int} {sp:Bool} (x:PC tr.length)  :BC prog 139 [int x.1,ref (HN l r d day st tr sp)] (bool (decide (tr.getD x.1.toNat 0≥4))):=by
 refine fo func139 rfl ⟨rfl,rfl⟩ fun M0 w0=> ?_
 have hxp:=x.2
 have htx:=Ec (l:=tr) (i:=x.1.toNat) AA
 refine a2 ?_
 refine co rfl (AD rfl underlying22 Bw vq vq AA (Bf htx)) ?_
 refine a2 ?_
 · exact Lr
theorem ql:Entry Tryz.prog 139:=⟨_,Tryz.func139,rfl,rfl⟩
theorem YH {l:List Bb} {r:List BI} {d:List Int} {day:Int} {st tr:List Int} {sp:Bool} (hst:st.length≤1000000) (htd:tr.length=d.length) (ht4:∀x∈tr,x<4):Ba prog 79 [agg (HN l r d day st tr sp)] (ints (Ed r d (Bi st) day)) (Da) (fun _=>Da):=by
 refine Ba.of func79 rfl rfl BA fun M0 w0 S rs M1 w1=> ?_
 obtain ⟨lz,hlz⟩:=toZ (n:=tr.length) (L:=Ed r d (Bi st) day) (fun x hx=>by have:=V7 x (List.mem_filter.1 hx).1;omega)
 refine ac ?_
 refine Tr.seq (Tr.rx ?_)
 refine ay ?_
 refine xo rfl (fun _=>Ct (NV hst) rfl rfl) ?_
 refine ay ?_
 refine Cx.ef 0 rfl rfl AB (An rfl rfl AB rfl (zh (l:=l) (r:=r) (d:=d) (s:=Bi st) (day:=day)) ⟨kq,kz⟩) ?_
 refine ay ?_
 refine Cx.nil ⟨by kernel_rfl,?_⟩
 refine BJ.done W7 (Fin.go (wk [3,1] rfl ?_))
 refine ac ?_
 refine co rfl (AR rfl (aV (l:=lz) (p:=(fun x:PC tr.length=>decide (tr.getD x.1.toNat 0≥4))) (fun x _=>by have hxp:=x.2;have h_:=ht4 _ (List.mem_of_getElem? (Ec (l:=tr) (i:=x.1.toNat) AA));rw [decide_eq_false_iff_not];omega)) ⟨⟨_,rfl,Pr.le_of_eq (ej hlz).symm⟩,⟨_,rfl,FJ ql (fun x=>qj x)⟩,trivial⟩) ?_
 refine ac ?_
 refine Tr.ret (Fin.Eo rfl rfl ?_ (fun _ _ _ _=>rfl))
 · exact Pr.le_of_eq (ej hlz)
theorem UI {l:List Bb} {r:List BI} {d:List Int} {day:Int} {st tr:List Int} (hst:st.length≤1000000) (htd:tr.length=d.length) (ht4:∀x∈tr,x<4) (hd:d.length≤19):Ba prog 27 [agg (HN l r d day st tr false)] (D6 [int (S7 (Jf d) (Ed r d (Bi st) day)),bool (OY (Jf d) (Ed r d (Bi st) day))]) (Da) (fun _=>Da):=by
 refine Ba.of func27 rfl rfl BA fun M0 w0 S rs M1 w1=> ?_
 have hol:=qi d
 refine ac ?_
 refine an ?_ ?_<;>intro h1 q1
 exact absurd h1 AB
 refine ac ?_
 refine ap ?_
 refine TO.G4 0 rfl rfl AB (An rfl rfl AB rfl (YH hst htd ht4) kz) ?_
 refine ap ?_
 refine ac ?_
 refine co rfl (Ct (qU hd) rfl rfl) ?_
 refine ac ?_
 refine Tr.block (Tr.BD _ (kk [14,13,4] rfl) (fun k:Nat=>[(15,int ((k:Nat):Int))]) (fun k:Nat=>k≤((Jf d)).length∧(∀j y,j<k→(Jf d)[j]? =some y→(Ed r d (Bi st) day).contains y=false)) (fun k:Nat=>((Jf d)).length-k) 0 (⟨Nat.zero_le _,fun j y hj=>absurd hj AA⟩) kz ?_)
 rintro k ⟨BR,AX⟩
 refine ac ?_
 refine Tr.seq ?_
 refine Tr.cn rfl ?_ ?_<;>intro h2 q2
 have Ai:k<((Jf d)).length:=AH h2
 obtain ⟨x,Ah⟩:=at_ Ai
 refine ac ?_
 refine Tr.seq (Tr.block (Tr.seq (Tr.Aj (co rfl (AD rfl underlying22 Bw vq vq AA (Aa Ah)) ?_))))
 refine a2 ?_
 refine co rfl (CL (PF) rfl rfl rfl) ?_
 refine an ?_ ?_<;>intro h3 q3
 refine ac ?_
 refine wk [3,2] rfl (Tr.ret (Fin.AU (Fin.AF (Fin.AF (Fin.AU (Fin.AF (Fin.FK rfl rfl ?_ rfl ?_)))))))
 · refine int_eq ?_;exact (ec Ah AX Bv).1.symm
 · refine bool_eq ?_;exact (ec Ah AX Bv).2.symm
 refine a2 ?_
 exact Fin.AL (k+1) ⟨⟨Ai,DV (p:=fun y=>(Ed r d (Bi st) day).contains y) Ah Bv AX⟩,by omega⟩ ⟨⟨_,rfl,AG k⟩,kz⟩
 have BM:k=((Jf d)).length:=by have:=AJ h2;omega
 subst BM
 refine a2 ?_
 refine Tr.ret (Fin.FK rfl rfl ?_ rfl ?_)
 · refine int_eq ?_;exact (aW AX).1.symm
 · refine bool_eq ?_;exact (aW AX).2.symm
theorem IX {st:List Int} {x:Int}:x∈Bi st↔∃i:Nat,st[i]? =some 1∧x=(i:Int):=by
 unfold Bi
 rw [List.mem_map]
 constructor
 ·
  rintro ⟨i,hi,rfl⟩
  obtain ⟨h1,h2⟩:=List.mem_filter.1 hi
  have h1:=List.mem_range.1 h1
  rw [List.getD_eq_getElem?_getD,List.getElem?_eq_getElem h1,decide_eq_true_eq] at h2
  exact ⟨i,by rw [List.getElem?_eq_getElem h1];exact congrArg some h2,rfl⟩
 ·
  rintro ⟨i,hi,rfl⟩
  obtain ⟨h1,_⟩:=List.getElem?_eq_some_iff.1 hi
  exact ⟨i,List.mem_filter.2 ⟨List.mem_range.2 h1,by rw [List.getD_eq_getElem?_getD,hi];rfl⟩,rfl⟩
theorem OZ (st:List Int):(Bi st).Pairwise (· < ·):=by
 unfold Bi
 rw [List.pairwise_map]
 exact (List.pairwise_lt_range.filter _).imp fun h=>by omega
theorem jA {st:List Int}:∀x∈Bi st,0≤x∧x<(st.length:Int):=fun x hx=>by
 obtain ⟨i,hi,rfl⟩:=IX.1 hx
 obtain ⟨h1,_⟩:=List.getElem?_eq_some_iff.1 hi
 omega
theorem qm:∀{a b:List Int},a.Pairwise (· < ·)→b.Pairwise (· < ·)→(∀x,x∈a↔x∈b)→a=b
 |[],[],_,_,_=>rfl
 |[],y::b,_,_,h=>by have:=(h y).2 (List.mem_cons_self ..);cases this
 |x::a,[],_,_,h=>by have:=(h x).1 (List.mem_cons_self ..);cases this
 |x::a,y::b,ha,hb,h=>by
  obtain ⟨ha1,ha2⟩:=List.pairwise_cons.1 ha
  obtain ⟨PJ,TE⟩:=List.pairwise_cons.1 hb
  have hxy:x=y:=by
   rcases List.mem_cons.1 ((h x).1 (List.mem_cons_self ..)) with h1|h1
   · exact h1
   ·
    rcases List.mem_cons.1 ((h y).2 (List.mem_cons_self ..)) with h2|h2
    · exact h2.symm
    · have:=PJ x h1;have:=ha1 y h2;omega
  subst hxy
  rw [qm ha2 TE fun z=> ?_]
  constructor
  ·
   intro hz
   rcases List.mem_cons.1 ((h z).1 (List.mem_cons_of_mem _ hz)) with h1|h1
   · have:=ha1 z hz;omega
   · exact h1
  ·
   intro hz
   rcases List.mem_cons.1 ((h z).2 (List.mem_cons_of_mem _ hz)) with h1|h1
   · have:=PJ z hz;omega
   · exact h1
theorem jB {st:List Int} {i:Nat} (hi:i<st.length) (hn:(i:Int)∉Bi st):Bi (st.set i 1)=EJ (Bi st) (i:Int) true:=by
 refine qm (OZ _) (X_ (OZ _) hn) fun x=> ?_
 rw [DF,IX,IX]
 constructor
 ·
  rintro ⟨j,hj,rfl⟩
  by_cases hji:j=i
  · subst hji;exact .inl rfl
  · rw [List.getElem?_set_ne AA] at hj;exact .inr ⟨j,hj,rfl⟩
 ·
  rintro (rfl|⟨j,hj,rfl⟩)
  · exact ⟨i,List.getElem?_set_self hi,rfl⟩
  ·
   refine ⟨j,?_,rfl⟩
   by_cases hji:i=j
   · subst hji;exact List.getElem?_set_self hi
   · rw [List.getElem?_set_ne hji];exact hj
structure HO (r:List BI) (d st:List Int):Prop where
 sl:st.length=d.length
 cl:CY r (Bi st)=true
 s01:∀x∈st,x=0∨x=1
theorem HO.zero (r:List BI) (d:List Int):HO r d (List.replicate d.length 0):=
 ⟨List.length_replicate,by rw [PD];exact Cz.2 (fun q _ h=>by cases h),(fun x hx=> .inl (List.eq_of_mem_replicate hx))⟩
theorem HO.done {r:List BI} {d st:List Int} (h:HO r d st):Gj d.length r (Bi st):=⟨OZ _,by rw [←h.sl];exact jA,h.cl⟩
theorem QZ {r:List BI} {d s:List Int} {day x:Int} (h:x∈Ed r d s day):(0≤x∧x<(d.length:Int))∧d.getD x.toNat 0≤day∧x∈JA (d.length:Nat) r s:=by
 unfold Ed at h
 obtain ⟨h1,h2⟩:=List.mem_filter.1 h
 refine ⟨V7 x h1,?_,h1⟩
 rw [Bool.not_eq_true',decide_eq_false_iff_not] at h2
 omega
theorem HO.at0 {r:List BI} {d st:List Int} {x:Int} (h:HO r d st) (hx:0≤x∧x<(d.length:Int)) (hn:x∉Bi st):st.getD x.toNat 0=0:=by
 have hl:x.toNat<st.length:=by rw [h.sl];omega
 rw [List.getD_eq_getElem?_getD,List.getElem?_eq_getElem hl]
 show st[x.toNat]=0
 rcases h.s01 _ (List.getElem_mem hl) with h1|h1
 · exact h1
 · exact absurd (IX.2 ⟨x.toNat,by rw [List.getElem?_eq_getElem hl,h1],by omega⟩) hn
theorem HO.next {r:List BI} {d st:List Int} {day x:Int} (hv:BG (d.length:Nat) r=0) (h:HO r d st) (hx:x∈Ed r d (Bi st) day):
  HO r d (st.set x.toNat 1)∧st.set x.toNat (st.getD x.toNat 0+1)=st.set x.toNat 1∧(Bi (st.set x.toNat 1)).length=(Bi st).length+1:=by
 obtain ⟨h1,_,h2⟩:=QZ hx
 rw [(h.done.due hv).2] at h2
 obtain ⟨_,h3,h4⟩:=QY h2
 have he:((x.toNat:Nat):Int)=x:=by omega
 have hs:Bi (st.set x.toNat 1)=EJ (Bi st) x true:=by
  have:=jB (st:=st) (i:=x.toNat) (by rw [h.sl];omega) (by rw [he];exact h3)
  rw [he] at this;exact this
 refine ⟨⟨by rw [List.length_set];exact h.sl,by rw [hs];exact h4,fun y hy=> ?_⟩,by rw [h.at0 h1 h3];rfl,by rw [hs];exact Gq h3⟩
 rcases List.mem_or_eq_of_mem_set hy with hy|rfl
 · exact h.s01 y hy
 · exact .inr rfl
theorem HO.full {r:List BI} {d st:List Int} {day:Int} (hv:BG (d.length:Nat) r=0) (h:HO r d st) (hd:∀x∈d,x≤day) (hn:Ed r d (Bi st) day=[]):(Bi st).length=d.length∧∀x∈st,x=1:=by
 have hal:∀i:Nat,i<d.length→(i:Int)∈Bi st:=fun i hi=>by
  refine Classical.byContradiction fun hc=> ?_
  refine Zh (n:=((d.length:Nat):Int)) hv h.cl (by simpa using hi) hc ?_
  rw [show ((d.length:Nat):Int).toNat=d.length by simp]
  unfold Ed at hn
  rw [(h.done.due hv).2,List.filter_eq_nil_iff] at hn
  refine List.eq_nil_iff_forall_not_mem.2 fun x hx=> ?_
  have hr:=(QY hx).1
  have hdx:=Ec (l:=d) (i:=x.toNat) AA
  have:=hd _ (List.mem_of_getElem? hdx)
  have:=hn x hx
  rw [Bool.not_eq_true',decide_eq_false_iff_not] at this
  omega
 have hst:∀x∈st,x=1:=fun x hx=>by
  obtain ⟨i,hi⟩:=List.mem_iff_getElem?.1 hx
  obtain ⟨h1,_⟩:=List.getElem?_eq_some_iff.1 hi
  obtain ⟨j,hj,he⟩:=IX.1 (hal i (by rw [←h.sl];exact h1))
  have:i=j:=by omega
  subst this
  rw [hi] at hj;exact Option.some.inj hj
 refine ⟨?_,hst⟩
 unfold Bi
 rw [List.length_map,List.filter_eq_self.2,List.length_range,h.sl]
 intro i hi
 have hi:=List.mem_range.1 hi
 rw [List.getD_eq_getElem?_getD,List.getElem?_eq_getElem hi,decide_eq_true_eq]
 exact hst _ (List.getElem_mem hi)
theorem HO.none {r:List BI} {d st:List Int} {day:Int} (hv:BG (d.length:Nat) r=0) (h:HO r d st) (hl:(Bi st).length=d.length):Ed r d (Bi st) day=[]:=by
 unfold Ed
 rw [(h.done.due hv).2,h.done.none hl];rfl
theorem HO.S6 {m:Nat} {l:List Bb} {r:List BI} {d st:List Int} {day:Int} (hf:NU m l r d) (h:HO r d st) (hd:0≤day∧day≤40000):S6 l.length r d day st st=true:=by
 have hs:DW ((l.length:Nat):Int) (Bi st)=true:=by rw [←hf.dl];exact h.done.set
 obtain ⟨h1,h2⟩:=pI (n:=((l.length:Nat):Int)) hf.v hs
 have hm:∀m:Int,1≤m→Hu m st=false:=fun m hm=>by
  unfold Hu
  rw [List.any_eq_false]
  intro x hx
  have:=h.s01 x hx
  unfold OW
  rw [decide_eq_true_eq];omega
 have Zl:=h.sl.trans hf.dl
 exact MQ.2 ⟨⟨⟨hf.l24,hf.dl⟩,Zl,Zl⟩,⟨⟨hf.in_,by unfold OW;rw [decide_eq_false_iff_not];omega⟩,hm 3 AB,hm 4 AB⟩,h1,by rw [h2];exact h.cl⟩
theorem HO.lt4 {r:List BI} {d st:List Int} (h:HO r d st):∀x∈st,x<4:=fun x hx=>by have:=h.s01 x hx;omega
theorem HO.PX {r:List BI} {d st:List Int} (h:HO r d st):∀x∈st,0≤x∧x<4:=fun x hx=>by have:=h.s01 x hx;omega
theorem jC (st:List Int):(Bi st).length≤st.length:=by rw [i9];exact Sa _ _
theorem qn {d:List Int} {x:Int} (h:0≤x∧x<(d.length:Int)):x∈Jf d:=(eU d).2.mem_iff.2 (by unfold HM;exact List.mem_map.2 ⟨x.toNat,List.mem_range.2 AA,by omega⟩)
theorem vU {o l:List Int} (h:OY o l=true):S7 o l∈o∧S7 o l∈l:=by
 unfold OY at h
 unfold S7
 cases hf:o.find? fun i=>l.contains i with
 |none=>rw [hf] at h;cases h
 |some y=>
  have h2:l.contains y=true:=by have:=List.find?_some hf;exact this
  exact ⟨List.mem_of_find?_eq_some hf,List.contains_iff_mem.1 h2⟩
theorem qo {o l:List Int} {x:Int} (ho:x∈o) (hl:x∈l):OY o l=true:=by
 unfold OY
 rw [List.find?_isSome]
 exact ⟨x,ho,List.contains_iff_mem.2 hl⟩
theorem qp {o:List Int}:S7 o []=0∧OY o []=false:=aW fun _ _ _ _=>rfl
theorem qq {r:List BI} {d s:List Int} {day:Int} (h:OY (Jf d) (Ed r d s day)=false):Ed r d s day=[]:=by
 rw [List.eq_nil_iff_forall_not_mem]
 intro x hx
 rw [qo (qn (QZ hx).1) hx] at h
 cases h
theorem jD {l:List Bb} {r:List BI} {d:List Int} {day:Int} {st tr:List Int} {sp:Bool} (G2:∀x∈l,x.C1.small) (hl:l.length≤1000000) (hr:r.length≤1000000) (hd:d.length≤1000000) (hst:st.length≤1000000) (htr:tr.length≤1000000):Fj (α:=Value×Value) prog 73 [agg (HN l r d day st tr sp)] [] (fun _=>True) (fun x=>agg [DR l,reqs r,ints d,int day,is x.1,is x.2,Cp.bool sp]) (fun x=>[Bs 3 1 (st.map fun n=>[int n]) x.1,Bs 3 1 (tr.map fun n=>[int n]) x.2]):=by
 refine Fj.of func73 rfl rfl BA fun M0 w0 S rs M1 w1=>(Tr.seq (Tr.Ao ?_))
 refine TO.Uv rfl rfl AB rfl (Va rfl) (fun b1=> ?_)
 refine Tl rfl rfl rfl rfl z42 J0 (fun b2=> ?_)
 refine TO.nil (Fin.go (Tr.seq (Tr.pad (Tr.pad (Tr.GV mixed [none,some (0,3,false,0),none,none,some (0,3,false,0),some (0,0,true,8),none,some (0,3,false,0),some (0,1,true,11),none,some (0,3,true,0),none,some (0,3,true,8),none,some (8,3,true,.two 11 8)] BV (xo rfl (fun _=>AW rfl Y2 (vl rfl)) (IF 3 rfl rfl (B4 rfl Cu CJ (vl rfl) rfl rfl) (xo rfl (fun _=>AR rfl (YB G2 hl hr hd) ⟨ke rfl,trivial⟩) (xo rfl (fun _=>AW rfl Y3 (vl rfl)) (IF 3 rfl rfl (BB rfl Mt (vl rfl) rfl) ?_))))))))))
 refine Cx.ef 0 rfl rfl AB (Gm rfl rfl AB rfl (N9 (l:=st) hst) ⟨ke rfl,trivial⟩) ?_
 refine xo rfl (fun _=>AW rfl Y4 (vl rfl)) (IF 3 rfl rfl (BB rfl Mt (vl rfl) rfl) ?_)
 refine Cx.ef 1 rfl rfl AB (Gm rfl rfl AB rfl (N9 (l:=tr) htr) ⟨ke rfl,trivial⟩) ?_
 refine xo rfl (fun _=>AW rfl Y2 (vl rfl)) (Cx.DY 3 rfl rfl (Ay rfl rfl (vl rfl) (Va rfl) CJ rfl BA rfl) (xo rfl (fun _=>AW rfl Y3 (vl rfl)) ?_))
 refine Cx.DY 3 rfl rfl (zb (s:=8) (R':=fun v=>AE true b1 42 [DR l,reqs r,ints d,int day,Ac v (lens st.length),ints tr,Cp.bool sp]) rfl rfl AB rfl (fun v=>Ay rfl rfl (vl rfl) (Vo rfl) Ls rfl BA rfl)) ?_
 refine xo rfl (fun _=>AW rfl Y4 (vl rfl)) (Cx.DY 3 rfl rfl (ze (s:=8) (t:=11) (f:=fun v=>AE true b1 42 [DR l,reqs r,ints d,int day,Ac v (lens st.length),ints tr,Cp.bool sp]) (R':=fun u v=>AE true b1 42 [DR l,reqs r,ints d,int day,Ac u (lens st.length),Ac v (lens tr.length),Cp.bool sp]) rfl rfl AB rfl (fun u v=>Ay rfl rfl (vl rfl) (Vo rfl) Ls rfl BA rfl)) ?_)
 refine Cx.nil ⟨rfl,?_⟩
 refine BJ.jY 8 rfl (fun v8=> ?_)
 refine BJ.jY 11 rfl (fun v11=> ?_)
 refine BJ.gh 0 8 rfl rfl (BJ.gh 1 11 rfl rfl (BJ.gj 3 11 8 rfl rfl rfl (BJ.done (Aw.cons (Aw.cons (Aw.cons (Aw.cons (Aw.cons (Aw.map _)))))) (Fin.go (TN 1 2 rfl (Tr.seq (Tr.Ao (TO.rd 3 rfl rfl rfl AB (B4 rfl Ea ET (vl rfl) rfl rfl) (TO.AK 2 rfl rfl rfl (vl rfl) (Va rfl) rfl ET rfl rfl (TO.nil (Fin.go (Tr.ret (Fin.drop 3 (Fin.ADp ((v8,v11)) [_] rfl (AM.cell 2 rfl rfl Ea ET rfl (Lr)) trivial ?_ ((DT (j:=2) rfl).trans (List.Perm.cons _ ((DT (j:=0) rfl).trans (List.Perm.cons _ ((DT (j:=0) rfl).trans (List.Perm.cons _ (List.Perm.refl _)))))))))))))))))))))
 · exact BS ⟨Lr,Lr,Lr,Lr,EK _ _,EK _ _,Lr,trivial⟩
theorem YI {l:List Bb} {r:List BI} {d:List Int} {day:Int} {st tr:List Int} {step:Int} {x y:CA} (G2:∀x∈l,x.C1.small) (hl:l.length≤1000000) (hr:r.length≤1000000) (hd:d.length≤1000000) (hst:st.length≤1000000) (htr:tr.length≤1000000) (htd:tr.length=d.length) (hsd:st.length=d.length) (ht4:∀x∈tr,0≤x∧x<4) (hin:step∈Ed r d (Bi st) day):Ba prog 30 [agg (HN l r d day st tr false),int step,agg (Bg x),agg (Bg y),agg (Bg y)] (D6 [agg (HN l r d day (st.set step.toNat 1) (tr.set step.toNat (tr.getD step.toNat 0+1)) false),int 0]) (Da) (fun _=>Da):=by
 refine Ba.of func30 rfl rfl BA fun M0 w0 S rs M1 w1=> ?_
 obtain ⟨hsr,_,_⟩:=QZ hin
 have hsi:st[step.toNat]? =some (st.getD step.toNat 0):=Ec AA
 have hti:tr[step.toNat]? =some (tr.getD step.toNat 0):=Ec AA
 have htb:=ht4 _ (List.mem_of_getElem? hti)
 refine Tr.seq (Tr.Ao ?_)
 iterate 4 refine tp rfl (Bj rfl Cv) ?_
 refine Tl rfl rfl rfl rfl z42 J0 (fun b1=> ?_)
 refine ao ?_
 refine ao ?_
 refine TO.RY _ rfl rfl AB rfl (jD (sp:=false) G2 hl hr hd hst htr) kz (List.Perm.refl _) (fun x1 _=> ?_)
 refine Tl rfl rfl rfl rfl z42 J0 (fun b2=> ?_)
 refine TO.AK 0 rfl rfl rfl vq Cv rfl ET rfl rfl ?_
 refine ao ?_
 refine ac ?_
 refine wk [15,12,10,9,8,7,5,1] rfl ?_
 refine Tr.cn rfl ?_ ?_<;>intro h1 q1
 exact absurd h1 AB
 refine ao ?_
 refine TO.G4 4 rfl rfl AB (An rfl rfl AB rfl (YH hst htd (fun x hx=>(ht4 x hx).2)) kz) (tm rfl (tp rfl (CL (PF) rfl rfl rfl) ?_))
 refine ao ?_
 refine wk [19,12,10,9,8,7,1] rfl ?_
 refine Tr.cn rfl ?_ ?_<;>intro h2 q2
 exact absurd h2 (by rw [List.contains_iff_mem.2 hin];decide)
 refine a2 ?_
 refine co rfl (CL (tg) rfl rfl rfl) ?_
 refine an ?_ ?_<;>intro h3 q3
 refine ao ?_
 refine tp rfl (Ck 1 rfl (J6 rfl underlying22 Bw vq vq AA Df)) ?_
 refine TO.DY 1 rfl rfl (G9 rfl rfl vq Ni Bw rfl (BP fun _=>rfl) (by rw [List.getElem?_map,hsi];rfl) AB (show _=(st.set step.toNat 1).map _ by rw [List.map_set];rfl)) ?_
 refine ao ?_
 refine wk [12,10,1] rfl ?_
 refine ao ?_
 refine tp rfl (Ck 2 rfl (J6 rfl underlying22 Bw vq vq AA Df)) ?_
 refine tp rfl (Ck 2 rfl (R6 rfl Cq vq (BP fun _=>rfl) (by rw [List.getElem?_map,hti];rfl) rfl)) ?_
 refine tp rfl (E0 rfl vq vq ?hin) ?_;case hin=>unfold Oc;omega
 refine tp rfl (Ck 2 rfl (J6 rfl underlying22 Bw vq vq AA Df)) ?_
 refine TO.DY 2 rfl rfl (G9 rfl rfl vq Ni Bw rfl (BP fun _=>rfl) (by rw [List.getElem?_map,hti];rfl) AB (show _=(tr.set step.toNat (tr.getD step.toNat 0+1)).map _ by rw [List.map_set];rfl)) ?_
 refine ao ?_
 refine Tr.seq (Tr.JO 0 1 4 rfl rfl AB rfl Lr (BP fun _=>rfl) (Tr.JO 0 2 5 rfl rfl AB rfl Lr (BP fun _=>rfl) ?_))
 refine ao ?_
 refine TO.AK 3 rfl rfl rfl vq Cv rfl ET rfl rfl ?_
 refine ao ?_
 refine Tr.drop 1 (Tr.drop 1 (Tr.ret (Fin.Wg [_,_] rfl (AM.cell 1 rfl rfl Ea ET rfl Lr) (AM.tmp rfl Lr) ?_)))
 refine A7 ⟨?_,?_,trivial⟩
 · exact Lr
 · exact Lr
 exact absurd h3 AV
theorem jE {p q:Pr} [One p] [One q] {l:List Int}  :BC prog 15 [agg [p,q,ints l]] (int (O6 l)):=by
 refine fo func15 rfl ⟨rfl,rfl⟩ fun M0 w0=>(Tr.HK 0 2 rfl rfl fun Vh=> ?_)
 refine a3 ?_
 refine Tr.block (Tr.BD _ (kk [8,7] rfl) (fun k:Nat=>[(9,int ((k:Nat):Int)),(3,int ((l.take k).foldl max (-1)))]) (fun k:Nat=>k≤(l).length) (fun k:Nat=>(l).length-k) 0 (Nat.zero_le _) ⟨kq,kz⟩ ?_)
 rintro k BR
 refine ac ?_
 refine Tr.seq ?_
 refine Tr.cn rfl ?_ ?_<;>intro h1 q1
 have Ai:k<(l).length:=AH h1
 obtain ⟨x,Ah⟩:=at_ Ai
 refine ac ?_
 refine Tr.seq (Tr.block (Tr.seq (Tr.Aj (co rfl (AD rfl underlying22 Bw vq vq AA (Aa Ah)) ?_))))
 refine a2 ?_
 refine co rfl (Jv rfl vq vq) ?_
 refine a2 ?_
 exact Fin.AL (k+1) ⟨Ai,by omega⟩ ⟨⟨_,rfl,AG k⟩,⟨_,rfl,int_eq (by rw [List.take_add_one,Ah,List.foldl_append];rfl)⟩,kz⟩
 have BM:k=(l).length:=by have:=AJ h1;omega
 subst BM
 rw [List.take_length]
 refine a3 ?_
 · exact Lr
theorem max_le:∀{l:List Int} {a m:Int},a≤m→(∀x∈l,x≤m)→l.foldl max a≤m
 |[],_,_,h,_=>h
 |b::l,a,m,h,hl=>by
  rw [List.foldl_cons]
  have:=hl b (List.mem_cons_self ..)
  exact max_le AA fun x hx=>hl x (List.mem_cons_of_mem _ hx)
theorem NU.last {m:Nat} {l:List Bb} {r:List BI} {d:List Int} (h:NU m l r d):O6 d≤40000:=max_le AB fun x hx=>by
 have h1:=List.any_eq_false.1 h.in_ x hx
 unfold OW at h1
 rw [decide_eq_true_eq] at h1;omega
theorem vV {d:List Int} {x:Int} (h:x∈d):x≤O6 d:=(aU d (-1)).2 x h
theorem Oa {t:List Int}  :Ba prog 5 [ints t] (bool true) (Da) (fun _=>Da):=by
 refine Ba.of func5 rfl rfl BA fun M0 w0 S rs M1 w1=> ?_
 refine Tr.Cf 0 rfl fun D_=>(Tr.seq (Tr.Aj (cm rfl (Ch.nil (Fin.go (Tr.seq (Tr.seq (Tr.Aj (cm rfl (co rfl (AR rfl (tC) ⟨ke rfl,trivial⟩) (co rfl (F2 rfl (vl rfl)) (Ch.nil (Fin.go ?_)))))))))))))
 refine Tr.cn rfl ?_ ?_<;>intro h1 q1
 refine Tr.seq (Tr.Ao (TO.G4 0 rfl rfl AB (An rfl rfl AB rfl (qg) trivial) (tm rfl (TO.nil (Fin.go (Tr.ret (Fin.AF (Fin.Eo rfl rfl ?_ (fun _ _ _ _=>rfl)))))))))
 · exact Lr
 have ht4:t.length≤400:=by simpa using h1
 have ht9:t.length≤1000000000:=by omega
 refine Tr.skip (Fin.go (Tr.seq (Tr.Ao (tm rfl (TO.pad ?_)))))
 refine TO.Dj 0 rfl rfl AB (Gm rfl rfl AB rfl (x8 (l:=t) ht9) ⟨ke rfl,trivial⟩) (fun v1=> ?_)
 refine TO.MN 27 0 _ rfl rfl (fun _=>rfl) (fun b1=> ?_)
 refine tm rfl (TO.nil (Fin.go (Tr.seq (Tr.Ao (tm rfl (TO.G4 0 rfl rfl AB (An rfl rfl AB rfl (zW) ⟨ke rfl,trivial⟩) ?_))))))
 refine TO.ex 30 rfl (fun z1=>TO.fact 30 rfl fun Eh=> ?_)
 refine tm rfl (tp rfl (Aq rfl (vl rfl) rfl) (tp rfl (Aq rfl (vl rfl) rfl) ?_))
 refine TO.ex 32 rfl (fun p1=>TO.fact 32 rfl fun PR=> ?_)
 refine tp rfl (Aq rfl (vl rfl) rfl) ?_
 refine Tl rfl rfl rfl rfl z31 IG (fun b2=> ?_)
 refine Tl rfl rfl rfl rfl z35 E9 (fun b3=> ?_)
 refine TO.AK 1 rfl rfl rfl (vl rfl) (Va rfl) rfl DZ rfl rfl (TO.freeze 1 4 rfl rfl (TO.AK 0 rfl rfl rfl (vl rfl) (Va rfl) rfl CJ rfl rfl (TO.freeze 0 5 rfl rfl (tm rfl (TO.nil (Fin.TR 0 rfl (fun s1=> ?_)))))))
 refine Fin.go (TN 4 5 rfl (Tr.seq (Tr.drop 0 ?_)))
 have hdl:=PR.fit.dl
 have h7:=PR.l7
 have hrl:=PR.rl
 have G2:∀x∈p1.1,x.C1.small:=fun x hx=>(PR.ok x hx).2
 have hL1:p1.1.length≤1000000:=by omega
 have hL2:p1.2.1.length≤1000000:=by omega
 have hL3:p1.2.2.length≤1000000:=by omega
 have hv:BG ((p1.2.2.length:Nat):Int) p1.2.1=0:=by rw [hdl];exact PR.fit.v
 obtain ⟨hn1,hn2⟩:=PR.fit.new (day:=0) AB
 have hn:=Eh.n2
 obtain ⟨x0,hx0⟩:=at_ (l:=z1.Bt) (k:=0) AA
 have hla:=PR.fit.last
 refine Tr.pad (Tr.pad (Tr.GV mixed [none,none,none,none,none,none,none,none,some (0,0,true,7),some (0,1,true,8),some (7,0,true,7),some (8,1,true,8)] BV (xo rfl (fun _=>PK rfl G8 rfl rfl) (xo rfl (fun _=>F5 rfl Oj rfl) ?_))))
 refine xo rfl (fun _=>AD rfl underlying27 CC (vl rfl) (vl rfl) AA (Aa (k:=0) hx0)) ?_
 refine xo rfl (fun _=>AP rfl Cg CC (vl rfl) rfl rfl) (xo rfl (fun _=>PK rfl G8 rfl rfl) (xo rfl (fun _=>F5 rfl Oj rfl) ?_))
 refine xo rfl (fun _=>AD rfl underlying27 CC (vl rfl) (vl rfl) AA (Aa (k:=0) hx0)) ?_
 refine xo rfl (fun _=>AP rfl Cg CC (vl rfl) rfl rfl) (Cx.ef 0 rfl rfl AB (CN rfl rfl AB rfl z40 Hs) (Cx.ef 1 rfl rfl AB (CN rfl rfl AB rfl z40 Hs) (Cx.DY 0 rfl rfl (Cs rfl rfl rfl rfl (Va rfl) CC rfl rfl) (Cx.DY 1 rfl rfl (Cs rfl rfl rfl rfl (Va rfl) CC rfl rfl) ?_))))
 refine Cx.nil ⟨rfl,?_⟩
 refine BJ.open_ 0 7 rfl rfl (fun v2=> ?_)
 refine BJ.open_ 1 8 rfl rfl (fun v3=> ?_)
 refine BJ.done (Aw.cons (Aw.cons (Aw.cons (Aw.cons (Aw.map _))))) (Fin.MN 7 0 _ rfl rfl (fun _=>rfl) (fun b4=> ?_))
 refine Fin.MN 8 1 _ rfl rfl (fun _=>rfl) (fun b5=> ?_)
 refine Fin.go (F6 5 7 8 rfl (Tr.seq (Tr.Ao (tp rfl (AW rfl Y1 (vl rfl)) (TO.rd 0 rfl rfl rfl AB (BB rfl Yz (vl rfl) rfl) (tp rfl (F2 rfl (vl rfl)) (tp rfl (AW rfl Y1 (vl rfl)) (TO.DY 1 rfl rfl (Ay rfl rfl (vl rfl) (Vo rfl) U0 rfl BA rfl) (TO.nil (Fin.go (Tr.seq (Tr.freeze 0 7 rfl rfl (Tr.freeze 0 8 rfl rfl (Tr.Ao ?_))))))))))))))
 refine tp rfl (AP rfl Cu CJ (vl rfl) rfl rfl) (TO.G4 0 rfl rfl AB (An rfl rfl AB rfl (V9 G2 hL1 hL2 hL3) ⟨ke rfl,ke rfl,trivial⟩) (tm rfl (tp rfl (Aq rfl (vl rfl) rfl) (TO.re 49 _ rfl (Pr.le_of_eq (congrArg agg hn2)) (tp rfl (Aq rfl (vl rfl) rfl) (TO.re 50 _ rfl (int_eq hn1) ?_))))))
 refine Tl rfl rfl rfl rfl z42 J0 (fun b6=> ?_)
 refine TO.AK 0 rfl rfl rfl (vl rfl) (Va rfl) rfl ET rfl rfl (tm rfl (TO.nil (Fin.go (wk5 5 7 8 9 10 rfl (Tr.seq (Tr.seq (Tr.Aj (cm rfl (co rfl (ki rfl rfl rfl rfl) (Ch.nil (Fin.go ?_)))))))))))
 refine Tr.cn rfl ?_ ?_<;>intro h2 q2
 exact absurd h2 AB
 refine Tr.skip (Fin.go (Tr.seq (Tr.seq (Tr.Aj (cm rfl (Ch.nil (Fin.go (Tr.block ?_))))))))
 refine Tr.Jz [(5,_),(7,_),(8,_),(9,_)] ⟨ke rfl,ke rfl,ke rfl,ke rfl,trivial⟩ (fun (D:Nat) (dy:Int) (st:List Int)=>[(11,int ((D:Nat):Int))]) (fun (D:Nat) (dy:Int) (st:List Int)=>Hp M0 w0 S (AE true b6 42 (HN p1.1 p1.2.1 p1.2.2 dy st st false)::Da::Ak M1 w1::rs)) (fun (D:Nat) (dy:Int) (st:List Int)=>(((D:Nat):Int)≤max 0 (O6 p1.2.2)+1∧0≤dy∧dy≤((D:Nat):Int))∧HO p1.2.1 p1.2.2 st∧(0<D→Ed p1.2.1 p1.2.2 (Bi st) (((D:Nat):Int)-1)=[])) (fun (D:Nat) (dy:Int) (st:List Int)=>(max 0 (O6 p1.2.2)+1-((D:Nat):Int)).toNat) (0) (0) ((List.replicate p1.1.length (0:Int)))  (⟨⟨by omega,by omega,by omega⟩,by rw [←hdl];exact HO.zero _ _,fun h=>absurd h AA⟩) ⟨ke rfl,trivial⟩ (fun _ _ h=>h) ?_
 rintro D dy st  ⟨⟨hD0,AIR,AIS⟩,hR,hpr⟩
 have AG8:=hR.sl
 have vW:st.length≤1000000:=by omega
 refine Tr.seq (Tr.seq (Tr.Aj (cm rfl (co rfl (AP rfl Cu CJ (vl rfl) rfl rfl) ?_))))
 refine co rfl (AR rfl (jE (l:=p1.2.2)) ⟨ke rfl,trivial⟩) ?_
 refine co rfl (Jv rfl (vl rfl) (vl rfl)) (co rfl (ki rfl rfl rfl rfl) (Ch.nil (Fin.go ?_)))
 refine Tr.cn rfl ?_ ?_<;>intro h3 q3
 have hDM:((D:Nat):Int)≤max 0 (O6 p1.2.2):=of_decide_eq_true h3
 have ADs:¬(((D:Nat):Int)<dy∨((D:Nat):Int)>40000):=by omega
 refine Tr.skip (Fin.go (Tr.seq (Tr.block (Tr.seq (Tr.Ao (TO.rd 0 rfl rfl rfl AB (B4 rfl Ea ET (vl rfl) rfl rfl) (tm rfl (tp rfl (AR rfl (YG G2 hL1 hL2 hL3 vW vW) ⟨ke rfl,ke rfl,trivial⟩) (tm rfl (tp rfl (Aq rfl (vl rfl) rfl) (TO.re 64 _ rfl (Pr.le_of_eq (by rw [if_neg ADs])) (tp rfl (Aq rfl (vl rfl) rfl) (TO.re 65 _ rfl (int_eq (if_neg ADs)) ?_)))))))))))))
 refine Tl rfl rfl rfl rfl z42 J0 (fun b7=> ?_)
 refine TO.AK 0 rfl rfl rfl (vl rfl) (Va rfl) rfl ET rfl rfl (TO.freeze 0 12 rfl rfl (tm rfl (TO.nil (Fin.go (jI 5 7 8 9 11 12 13 rfl (Tr.seq (Tr.seq (Tr.Aj (cm rfl (co rfl (ki rfl rfl rfl rfl) (Ch.nil (Fin.go ?_))))))))))))
 refine Tr.cn rfl ?_ ?_<;>intro h4 q4
 exact absurd h4 AB
 refine Tr.skip (Fin.go (Tr.seq (Tr.Ao (tp rfl (AP rfl Ea ET (vl rfl) rfl rfl) (TO.AK 0 rfl rfl rfl (vl rfl) (Va rfl) rfl ET rfl rfl (TO.nil (Fin.go (Tr.seq (Tr.Aj (co rfl (PK rfl Lu rfl rfl) (co rfl (F5 rfl Wj rfl) (co rfl (CB rfl underlying32 (vl rfl)) (cm rfl ?_)))))))))))))
 refine Ch.nil (Fin.go (jI 5 7 8 9 11 71 72 rfl (Tr.block (Tr.Co [(5,_),(7,_),(8,_),(9,_),(11,_),(71,_)] ⟨ke rfl,ke rfl,ke rfl,ke rfl,ke rfl,ke rfl,trivial⟩ (fun (k:Nat) (JU:List Int)=>[(72,int ((k:Nat):Int))]) (fun (k:Nat) (JU:List Int)=>Hp M0 w0 S (AE true b6 42 (HN p1.1 p1.2.1 p1.2.2 ((D:Nat):Int) JU JU false)::Da::Ak M1 w1::rs)) (fun (k:Nat) (JU:List Int)=>k≤p1.1.length∧HO p1.2.1 p1.2.2 JU∧k≤(Bi JU).length) (fun (k:Nat) (JU:List Int)=>p1.1.length-k) (0) (st)  (⟨Nat.zero_le _,hR,Nat.zero_le _⟩) ⟨ke rfl,trivial⟩ (fun _ _ h=>h) ?_))))
 rintro k JU  ⟨hk0,iw,WV⟩
 have qS:=iw.sl
 have vX:JU.length≤1000000:=by omega
 have hsk:=jC JU
 refine Tr.seq (Tr.Aj (co rfl (ki rfl rfl rfl rfl) (Ch.nil (Fin.go (Tr.seq ?_)))))
 refine Tr.cn rfl ?_ ?_<;>intro h5 q5
 have hk:k<p1.1.length:=AH h5
 refine Tr.skip (Fin.go (Tr.seq (Tr.block (Tr.seq (Tr.Ao (TO.rd 0 rfl rfl rfl AB (B4 rfl Ea ET (vl rfl) rfl rfl) (TO.G4 1 rfl rfl AB (An rfl rfl AB rfl (UI vX qS iw.lt4 AA) ⟨ke rfl,trivial⟩) (tm rfl (tp rfl (Aq rfl (vl rfl) rfl) (tp rfl (Aq rfl (vl rfl) rfl) (tm rfl (tm rfl (TO.nil (Fin.go ?_))))))))))))))
 refine jJ 5 7 8 9 11 14 15 71 72 rfl (Tr.seq (Tr.seq (Tr.Aj (cm rfl (co rfl (F2 rfl (vl rfl)) (Ch.nil (Fin.go ?_)))))))
 refine Tr.cn rfl ?_ ?_<;>intro h6 q6
 have hdn:Ed p1.2.1 p1.2.2 (Bi JU) ((D:Nat):Int)=[]:=qq (by simpa using h6)
 refine Tr.exit (Fin.AY (Fin.Md rfl (Fin.AY (Fin.AY (Fin.Au (Fin.block (Fin.go (Tr.Aj (cm rfl (Lq rfl rfl rfl rfl AA (cm rfl (Ch.nil ?_))))))))))))
 exact Fin.EZ (D+1) (((D:Nat):Int)) (JU)  (⟨⟨⟨by omega,by omega,by omega⟩,iw,fun _=>by rw [show (((D+1:Nat):Nat):Int)-1=((D:Nat):Int) by omega];exact hdn⟩,by omega⟩) ⟨⟨_,rfl,AG D⟩,ke rfl,ke rfl,ke rfl,ke rfl,trivial⟩ (fun _ _ h=>h)
 have hnb:OY (Jf p1.2.2) (Ed p1.2.1 p1.2.2 (Bi JU) ((D:Nat):Int))=true:=by simpa using h6
 obtain ⟨hno,Ta⟩:=vU hnb
 obtain ⟨x,hx⟩:∃x,S7 (Jf p1.2.2) (Ed p1.2.1 p1.2.2 (Bi JU) ((D:Nat):Int))=x:=⟨_,rfl⟩
 rw [hx] at Ta
 obtain ⟨hxr,hxd,_⟩:=QZ Ta
 have hdx:=Ec (l:=p1.2.2) (i:=x.toNat) AA
 have hnx:=iw.next hv Ta
 have ADt:(JU.set x.toNat 1).length≤1000000:=by rw [List.length_set];exact vX
 have hok:=hnx.1.S6 (day:=((D:Nat):Int)) PR.fit AA
 refine Tr.re 14 rfl (int_eq hx) (Tr.skip (Fin.go (Tr.seq (Tr.seq (Tr.Aj (cm rfl (co rfl (ki rfl rfl rfl rfl) (cm rfl ?_))))))))
 refine Ch.cs 83 rfl ?_ ?_<;>intro h7 q7
 exfalso;have:=q7;omega
 refine MM h7 rfl (cy h7 rfl (PK rfl Lu rfl rfl) (cy h7 rfl (F5 rfl Wj rfl) (cy h7 rfl (CB rfl underlying32 (vl rfl)) (cy h7 rfl (ki rfl rfl rfl rfl) (co rfl (Mk rfl rfl h7 rfl) (cm rfl ?_))))))
 refine Ch.cs 90 rfl ?_ ?_<;>intro h8 q8
 exfalso;have:=q8;omega
 refine cy h8 rfl (PK rfl U1 rfl rfl) (cy h8 rfl (F5 rfl Mt rfl) (MM h8 rfl (cy h8 rfl (AD rfl underlying22 Bw (vl rfl) (vl rfl) AA (Bf hdx)) (cy h8 rfl (F5 rfl Cq rfl) (MM h8 rfl (cy h8 rfl (ki rfl rfl rfl rfl) (co rfl (Mk rfl rfl h8 rfl) (Ch.nil (Fin.go (jJ 5 7 8 9 11 14 71 72 98 rfl ?_))))))))))
 refine Tr.cn rfl ?_ ?_<;>intro h9 q9
 exfalso;have:=q9;omega
 refine Tr.skip (Fin.go (Tr.seq (Tr.Ao (TO.rd 0 rfl rfl rfl AB (B4 rfl Ea ET (vl rfl) rfl rfl) (tm rfl (tp rfl (AP rfl Cg CC (vl rfl) rfl rfl) (tp rfl (AP rfl Cg CC (vl rfl) rfl rfl) (tp rfl (AP rfl Cg CC (vl rfl) rfl rfl) ?_))))))))
 refine TO.G4 1 rfl rfl AB (An rfl rfl AB rfl (YI (x:=x0) (y:=({x0 with LJ:= !x0.LJ}:CA)) G2 hL1 hL2 hL3 vX vX qS qS iw.PX Ta) ⟨ke rfl,ke rfl,ke rfl,ke rfl,ke rfl,trivial⟩) ?_
 refine tm rfl (tp rfl (Aq rfl (vl rfl) rfl) (TO.re 106 _ rfl (Pr.le_of_eq (by rw [hnx.2.1])) (tp rfl (Aq rfl (vl rfl) rfl) ?_)))
 refine Tl rfl rfl rfl rfl z42 J0 (fun b8=> ?_)
 refine TO.AK 0 rfl rfl rfl (vl rfl) (Va rfl) rfl ET rfl rfl (TO.freeze 0 16 rfl rfl (tm rfl (TO.nil (Fin.go (jJ 5 7 8 9 11 16 17 71 72 rfl (Tr.seq (Tr.kD mixed BV (co rfl (PK rfl Lu rfl rfl) (co rfl (F5 rfl Wj rfl) (co rfl (CB rfl underlying32 (vl rfl)) (co rfl (PK rfl kj rfl rfl) (co rfl (F5 rfl vh rfl) (co rfl (AP rfl Ea ET (vl rfl) rfl rfl) ?_)))))))))))))
 refine co rfl (AR rfl (NV ADt) ⟨ke rfl,trivial⟩) ?_
 refine co rfl (AR rfl (V8 (n:=((p1.1.length:Nat):Int)) (l:=p1.2.1) (s:=Bi (JU.set x.toNat 1)) AA PR.fit.v (by rw [←hdl];exact hnx.1.done.set)) ⟨ke rfl,ke rfl,ke rfl,trivial⟩) ?_
 refine cm rfl (co rfl (Aq rfl (vl rfl) rfl) (co rfl (Aq rfl (vl rfl) rfl) (cm rfl (cm rfl (Ch.nil (Fin.go (Ip 5 7 8 9 11 16 17 18 19 71 72 rfl (Tr.seq (Tr.seq (Tr.Ao (tm rfl (tp rfl (ki rfl rfl rfl rfl) (tm rfl ?_)))))))))))))
 refine TO.cases 121 rfl (fun h10=> ?_) (fun h10=> ?_)
 have Re:=DU.D7 h10
 exact absurd h10 AB
 have Re:=DU.D7 h10
 refine TO.Hv rfl rfl rfl h10 rfl AB (BX rfl (vl rfl)) (TO.Hv rfl rfl rfl h10 rfl AB (ki rfl rfl rfl rfl) (tp rfl (Mk rfl rfl h10 rfl) (tm rfl ?_)))
 refine TO.cases 125 rfl (fun h11=> ?_) (fun h11=> ?_)
 have Sw:=DU.D7 h11
 exact absurd h11 AB
 have Sw:=DU.D7 h11
 refine TO.Hv rfl rfl rfl h11 rfl AB (BX rfl (vl rfl)) (TO.Hv rfl rfl rfl h11 rfl AB (F2 rfl (vl rfl)) (tp rfl (Mk rfl rfl h11 rfl) (tm rfl ?_)))
 refine TO.cases 129 rfl (fun h12=> ?_) (fun h12=> ?_)
 have WE:=DU.D7 h12
 exact absurd h12 (by rw [hnx.1.cl];decide)
 have WE:=DU.D7 h12
 refine TO.Hv rfl rfl rfl h12 rfl AB (AP rfl Ea ET (vl rfl) rfl rfl) (TO.lU 1 rfl rfl rfl h12 rfl rfl AB (An rfl rfl AB rfl (OX ADt) ⟨ke rfl,trivial⟩) (TO.Hv rfl rfl rfl h12 rfl AB (ki rfl rfl rfl rfl) (tp rfl (Mk rfl rfl h12 rfl) (TO.nil (Fin.go (jJ 5 7 8 9 11 16 71 72 133 rfl ?_))))))
 refine Tr.cn rfl ?_ ?_<;>intro Nf cZ
 exact absurd Nf (by rw [if_pos hok];decide)
 refine Tr.skip (Fin.go (Tr.Ao (tp rfl (AP rfl Ea ET (vl rfl) rfl rfl) (TO.AK 0 rfl rfl rfl (vl rfl) (Va rfl) rfl ET rfl rfl (TO.nil (Fin.block (Fin.go (Tr.Aj (Lq rfl rfl rfl rfl AA (cm rfl (Ch.nil ?_)))))))))))
 exact Fin.Cm (k+1) (JU.set x.toNat 1)  (⟨⟨by omega,hnx.1,by rw [hnx.2.2];omega⟩,by omega⟩) ⟨⟨_,rfl,AG k⟩,ke rfl,ke rfl,ke rfl,ke rfl,ke rfl,ke rfl,trivial⟩ (fun _ _ h=>h)
 have aY:=AJ h5
 have hdn:Ed p1.2.1 p1.2.2 (Bi JU) ((D:Nat):Int)=[]:=iw.none hv AA
 refine Tr.exit (Fin.AY (Fin.AY (Fin.Au (Fin.block (Fin.go (Tr.Aj (cm rfl (Lq rfl rfl rfl rfl AA (cm rfl (Ch.nil ?_))))))))))
 exact Fin.EZ (D+1) (((D:Nat):Int)) (JU)  (⟨⟨⟨by omega,by omega,by omega⟩,iw,fun _=>by rw [show (((D+1:Nat):Nat):Int)-1=((D:Nat):Int) by omega];exact hdn⟩,by omega⟩) ⟨⟨_,rfl,AG D⟩,ke rfl,ke rfl,ke rfl,ke rfl,trivial⟩ (fun _ _ h=>h)
 have hDM:=of_decide_eq_false h3
 obtain ⟨hfl,hfa⟩:=hR.full hv (fun x hx=>by have:=vV hx;omega) (hpr AA)
 have hnb:OY (Jf p1.2.2) (Ed p1.2.1 p1.2.2 (Bi st) dy)=false:=by rw [hR.none hv hfl];exact qp.2
 have aQ:(st.any fun x=>decide (x≠1))=false:=List.any_eq_false.2 fun x hx=>by rw [hfa x hx];decide
 refine Tr.exit (Fin.AY (Fin.AY (Fin.Au (Fin.go (Tr.seq (Tr.freeze 0 9 rfl rfl (Tr.Ao (tp rfl (AP rfl Ea ET (vl rfl) rfl rfl) (TO.G4 0 rfl rfl AB (An rfl rfl AB rfl (UI vW AG8 hR.lt4 AA) ⟨ke rfl,trivial⟩) (tm rfl (tp rfl (Aq rfl (vl rfl) rfl) (tp rfl (Aq rfl (vl rfl) rfl) (tm rfl ?_)))))))))))))
 refine tm rfl (TO.nil (Fin.go (F6 5 9 21 rfl (Tr.seq (Tr.re 21 rfl (bool_eq hnb) (Tr.GV mixed [none,none,none,none,none,none,none,none,none,none,none,none,none,none,none,none,some (0,0,false,0),none,none] BV (xo rfl (fun _=>AP rfl Ea ET (vl rfl) rfl rfl) (xo rfl (fun _=>AR rfl (NW) ⟨ke rfl,trivial⟩) (xm rfl ?_)))))))))
 refine Cx.yes rfl rfl rfl (by rw [aQ];rfl) rfl AB (fun _=>BX rfl (vl rfl)) ?_
 refine Cx.yes rfl rfl rfl (by rw [aQ];rfl) rfl AB (fun _=>F2 rfl (vl rfl)) ?_
 refine xo rfl (fun _=>F1 rfl (vl rfl) (by rw [aQ];rfl) (vl rfl)) ?_
 refine xm rfl (Cx.yes rfl rfl rfl (by rfl) rfl AB (fun _=>AP rfl Ea ET (vl rfl) rfl rfl) (Cx.yes rfl rfl rfl (by rfl) rfl AB (fun _=>AR rfl (NV vW) ⟨ke rfl,trivial⟩) (Cx.yes rfl rfl rfl (by rfl) rfl AB (fun _=>CB rfl underlying51 (vl rfl)) (Cx.yes rfl rfl rfl (by rfl) rfl AB (fun _=>PK rfl Lu rfl rfl) (Cx.yes rfl rfl rfl (by rfl) rfl AB (fun _=>F5 rfl Wj rfl) (Cx.yes rfl rfl rfl (by rfl) rfl AB (fun _=>CB rfl underlying32 (vl rfl)) (Cx.yes rfl rfl rfl (by rfl) rfl AB (fun _=>ki rfl rfl rfl rfl) (xo rfl (fun _=>F1 rfl (vl rfl) (by rfl) (vl rfl)) (xm rfl ?_)))))))))
 refine Cx.AA0 0 rfl rfl rfl rfl (by rw [beq_iff_eq];omega) rfl AB (qV rfl rfl (qg) trivial) ?_
 refine xo rfl (fun _=>F1 rfl (vl rfl) (by rw [beq_iff_eq];omega) (vl rfl)) ?_
 refine xm rfl ?_
 refine Cx.nil ⟨rfl,?_⟩
 refine BJ.done (Aw.cons (Aw.cons (Aw.map _))) (Fin.go (N0 2 rfl (Tr.ret (Fin.Eo rfl rfl ?_ (fun _ _ _ _=>rfl)))))
 · exact Lr
end Go.Proofs.YtmocaapoeefgkaaGreatDoor
namespace Go.Proofs.YtmocaapoeefgkaaGreatDoor
open Go Go.RowKit Cp Go.ChangeShapes Go.WideShapes Go.ChangeAt Go.Proofs.Tryz
theorem AG9 : Tryz.prog.globalNamed "math/bits.deBruijn32tab" = some 0 := by kernel_rfl
theorem AG_:(Tryz.prog.globals[0]?).map (·.type)=some 255:=by kernel_rfl
theorem qt (os : Os) (args : Array Value) : laidMetH Tryz.prog [("math/bits.deBruijn32tab", Rows.laid_math_bits_deBruijn32tab)] ((World.doorLaid Tryz.prog 14 os).forCall (fun _ _ => 0) ⟨#[], args, []⟩).memory :=
 laidMetH_of_parts3 (fuel:=33) (laidMet_of_run' 33 BV BV) BV BV
theorem zk {W : World} (h : laidMetH Tryz.prog [("math/bits.deBruijn32tab", Rows.laid_math_bits_deBruijn32tab)] W) : Da.h noM W := by
 rw [MakeChecks.laidMetH_plain _ _ _ BV] at h
 obtain ⟨ps,⟨g0,t0,cs0,f0,p0,q0,hg0,ht0,bw,hd0,_⟩,_⟩:=h
 obtain rfl:=Option.some.inj (AG9.symm.trans hg0)
 obtain rfl:=Option.some.inj (AG_.symm.trans ht0)
 obtain ⟨xs,m,rfl,hx,hlen,hn,hel⟩:=DataW.trod_array Tryz.underlying255 hd0
 have c1:Tryz.prog.cellsOf 5=1:=by kernel_rfl
 have hx1:Rows.laid_math_bits_deBruijn32tab=DataW.agg (xs.map (·.1)):=(Prod.mk.inj hx).1
 have hx2:xs.map (·.1)=Xa.map fun n:Nat=>DataW.lit (.int .u8 (n:Int)):=by
  have h3:(Rows.laid_math_bits_deBruijn32tab:DataW Unit)=DataW.agg (Xa.map fun n:Nat=>DataW.lit (.int .u8 (n:Int))):=rfl
  exact (DataW.agg.inj (hx1.symm.trans h3))
 intro j n hj
 refine ⟨?_,fun h=>h⟩
 have AHA:j<32:=by
  rcases Nat.lt_or_ge j 32 with h|h
  · exact h
  · rw [List.getElem?_eq_none h] at hj;cases hj
 have h4:=hel j AHA
 rw [c1,Nat.mul_one] at h4
 obtain ⟨y,hy⟩:=at_ (l:=xs) (k:=j) AA
 rw [hy] at h4
 obtain ⟨k,e1,e2,_⟩:=DataW.trod_int Tryz.underlying5 h4
 have h5:(xs.map (·.1))[j]? =some (DataW.lit (.int .u8 (n:Int))):=by rw [hx2,List.getElem?_map,hj];rfl
 rw [List.getElem?_map,hy] at h5
 have hk:k=(n:Int):=by
  have h6:y.1=DataW.lit (.int .u8 (n:Int)):=Option.some.inj h5
  rw [e2] at h6
  simpa using h6
 have h7:=World.var?_cell hg0 bw j
 have h8:cs0.toList[j]? =some (.int .u8 k):=by
  have h9:=congrArg (fun l:List Value=>l[0]?) e1
  simpa using h9
 rw [hk] at h8
 have h10:cs0[j]? =some (.int .u8 (n:Int)):=by rw [←Array.getElem?_toList];exact h8
 rw [h10] at h7
 exact h7
theorem Jh (os:Os) (started:os.Started) (H:Type) (enc:TypeId×Value→H):
  ReturnsInHanded {} Tryz.checked os 5 .any (fun w args => (Rows.runnerFinishesSpec.pre enc Tryz.prog Tryz.f5 [] false w args ∧ laidMetH Tryz.prog [("math/bits.deBruijn32tab", Rows.laid_math_bits_deBruijn32tab)] w) ∧ sizedMet enc Tryz.prog Tryz.f5 (OpenSpec.ofChange Rows.runnerFinishesSpec) false w args) (Rows.runnerFinishesSpec.post enc Tryz.prog Tryz.f5 false true false false) := by
 refine returnsInHanded_of_change_and (C := Tryz.checked) (X := fun w _ => laidMetH Tryz.prog [("math/bits.deBruijn32tab", Rows.laid_math_bits_deBruijn32tab)] w) (fun _ _ _ hh h => h.of_heap hh) AGJ started BV Tryz.func5
  (ChangeSpec.witness_shaped (enc := enc) (C := Tryz.checked) (os := os) (X := fun w _ => laidMetH Tryz.prog [("math/bits.deBruijn32tab", Rows.laid_math_bits_deBruijn32tab)] w) false (World.doorLaid Tryz.prog 14 os) #[.slice none 0 0] 8 rfl (World.shaped_of_RefB BV BV) BV BV BV (qt os _)) ?_
 intro W base args ds gs before ADu hW AIT _ hL _
 have hval:∀(j:Nat) t v,Tryz.f5.params[j]? =some t→args[j]? =some v→Value.okWide Tryz.prog W .any base t v:=ADu
 have hW':=hW
 obtain ⟨p,q,hA0,hV,hpq,hfz,hnd⟩:=hW
 have hA:DataW.TrodAll enc Tryz.prog W 0 (fun _=>true) true Tryz.f5.params.toList args.toList ds p:=hA0
 have hA':=hA
 rw [Tryz.params5] at hA hval
 obtain ⟨v0,d0,rfl,rfl,h0⟩:=trodAll_one hA'
 obtain ⟨rfl,rfl⟩:=trodVars_none hV
 obtain ⟨a0,_,e0⟩:=rJ (ZE Tryz.underlying22 Tryz.underlying3 BV) h0 (by obtain ⟨_,_,_,rfl⟩:=okWide_slice Tryz.underlying22 (hval 0 22 v0 rfl rfl);rfl)
 refine (Ba.uk (Oa) rfl W [v0] (zk hL) ⟨e0,trivial⟩).mono fun e W' ⟨v,he,hv,hb⟩=> ?_
 subst he
 obtain rfl:v= .bool true:=hv
 exact ⟨_,rfl,kR l9 BV rfl Tryz.underlying4 rfl hA' (by rw [hpq];simp) hW' rfl hb⟩
theorem Ji:(Rows.runnerFinishesRow.inPlace==Tryz.pinned.checked.prog.inPlace 5)=true:=by kernel_rfl
theorem Jj:(Rows.runnerFinishesRow.unfollowed==Tryz.pinned.checked.prog.unfollowed 5)=true:=by kernel_rfl
theorem Jk:(Rows.runnerFinishesRow.recurses==Tryz.pinned.checked.prog.recurses 5)=true:=by kernel_rfl
theorem Jl:(Rows.runnerFinishesRow.named==Tryz.pinned.checked.prog.varsNamed 5)=true:=by kernel_rfl
theorem Ki:joinedFacts Tryz.pinned.checked.prog 5 Tryz.f5 Rows.runnerFinishesSpec Rows.runnerFinishesRow=true:=by
 unfold joinedFacts
 rw [Ji,Jj,Jk,Jl]
 kernel_rfl
theorem runnerFinishes_holds:Rows.RunnerFinishesSaid:=
 OpenClaim.holds_of_wide 5 Tryz.f5 rfl rfl rfl rfl rfl rfl rfl ⟨rfl, rfl, rfl, rfl, rfl⟩ rfl rfl rfl rfl rfl BV Tryz.func5 Ki
  (of_decide_eq_true BV) (by unfold Func.isWrapper;first|(rw [if_pos (by decide+kernel)];kernel_rfl)|(rw [if_neg (by decide+kernel)];exact ⟨rfl,rfl⟩))
  (fun os started H enc _=>Jh os started H enc)
theorem NX:Rows.runnerFinishesRow.wfByText (OpenSpec.ofChange Rows.runnerFinishesSpec)=true:=by kernel_rfl
theorem NY:Tryz.pinned.checked.prog.mainIs=some (Rows.runnerFinishesCard.stood.harness.1,Rows.runnerFinishesCard.stood.harness.2.toList):=by kernel_rfl
theorem NZ : Tryz.prog.funcNamed "cipherplan/cipherplanlaw37.RunnerFinishes" = some 5 := by kernel_rfl
theorem Na:false=Tryz.pinned.checked.prog.looks []:=by kernel_rfl
theorem Nc:false=Rows.runnerFinishesRow.goesBy Tryz.pinned.checked.prog:=by kernel_rfl
theorem Nd:([22].all fun u=> !Tryz.prog.wantsStandIn u)=true:=by kernel_rfl
theorem runnerFinishes_card_holds:Rows.RunnerFinishesCardSaid:=
 Claim7.holds_tied_plain_at .later [] [.data] true Rows.runnerFinishesCard.stood.harness false runnerFinishes_holds (fun _ h => by cases h) NX (fun _ h => by cases h) runnerFinishes_row_tie rfl ⟨rfl, rfl⟩ NY rfl
  (fun f fn hf hfn=>by
   obtain rfl:f=5:=Option.some.inj (NZ.symm.trans hf)|>.symm
   obtain rfl:fn=Tryz.f5:=(Option.some.inj (Tryz.func5.symm.trans hfn)).symm
   exact ⟨Na,fun j t ht=>by
    rw [Tryz.params5] at ht
    have hm:t∈[22]:=by simpa using Array.mem_of_getElem? ht
    exact (show Tryz.prog.wantsStandIn t=false by simpa using List.all_eq_true.1 Nd t hm)⟩)
  Nc
end Go.Proofs.YtmocaapoeefgkaaGreatDoor
