/-
  Part 8 of the texts that prove this claim, merged.
-/
import Derived.Test.YtmocaapoeefgkaaGreatDoorRcAP7
set_option linter.all false
set_option maxRecDepth 40000
set_option maxHeartbeats 16000000
namespace Go.Proofs.YtmocaapoeefgkaaGreatDoor
open Go Go.RowKit Cp Go.Proofs.Tryz
variable {fr:Int} {rows:List (List Pr)} {l:List Bm} {d s:List Int} {qs:List Pr} {r:List BM} {b i j k m n:Nat} {p q:Pr} {v:Value}
theorem lD {e:D5} {OZ:Int} (hz:e.sz n) (hn:n≤800000) (hc:∀c∈l,c.Cb.fits∧c.Cb.small) (YQ:s.length≤4096):A0 prog 220 [agg (CV e),CF l,ints s,int fr,int OZ] (Eb):=by
 refine fo func220 rfl ⟨rfl,rfl⟩ fun M0 w0=> ?_
 have hxz:=hO (l:=l) (s:=s) hz hc
 have hxf:=hxz.fits AA
 have hxg:=hxz.lg
 refine ac ?_
 refine ao ?_
 refine tp rfl (Jd (S_ hz hn hc) rfl rfl rfl rfl) ?_
 refine ao ?_
 refine Tl rfl rfl rfl rfl z31 Iw (fun b1=> ?_)
 refine sf 0 11 ⟨rfl,rfl,rfl⟩ rfl rfl rfl rfl ?_
 refine ao ?_
 refine ac ?_
 refine wk [24,11,4,3] rfl ?_
 refine Tr.cn rfl ?_ ?_<;>intro h1 q1
 refine a2 ?_
 · exact Ar
 refine a2 ?_
 refine Tr.block (Tr.Ax _ (kk [27,11,4,3] rfl) (fun k:Nat=>[(28,int ((k:Nat):Int))]) (fun k:Nat=>k≤((WV e l s).1.BX).length) (fun k:Nat=>((WV e l s).1.BX).length-k) 0 (Nat.zero_le _) kz ?_)
 rintro k BJ
 refine ac ?_
 refine Tr.seq ?_
 refine Tr.cn rfl ?_ ?_<;>intro h2 q2
 have AZ:k<((WV e l s).1.BX).length:=AH h2
 obtain ⟨x,AX⟩:=at_ AZ
 refine a2 ?_
 refine ao ?_
 refine tp rfl (ZO (Pc hxf) rfl rfl rfl rfl rfl) ?_
 refine TO.ex 36 rfl (fun z1=>TO.fact 36 rfl fun Ex=> ?_)
 refine ao ?_
 refine Tl rfl rfl rfl rfl KF F6 (fun b2=> ?_)
 refine sf 0 14 ⟨rfl,rfl,rfl⟩ rfl rfl rfl rfl ?_
 refine ao ?_
 · exact ME
 have A8:k=((WV e l s).1.BX).length:=by have:=AJ h2;omega
 refine a3 ?_
 · exact Ar
theorem Uw {a b:Int}  :A0 prog 123 [int a,int b] (Eb):=by
 refine fo func123 rfl ⟨rfl,rfl⟩ fun M0 w0=> ?_
 · repeat' first|exact Az _ Lr|refine ac ?_|(refine Ch.cg rfl rfl rfl ?_ ?_<;>intro h q)
theorem K9 (hs:∀i∈s,0≤i∧i<(m:Int)) (hm:m≤40):A0 prog 219 [ints s] (Cp.ex fun z:Nat=>fact (z<2 ^ m) (int ((z:Nat):Int))):=by
 refine fo func219 rfl ⟨rfl,rfl⟩ fun M0 w0=>(Tr.CG 0 rfl fun DN=> ?_)
 refine a3 ?_
 refine Tr.block (Tr.DI _ (kk [7,6] rfl) (fun (z:Nat) (k:Nat)=>[(8,int ((k:Nat):Int)),(3,int ((z:Nat):Int))]) (fun (z:Nat) (k:Nat)=>Hp M0 w0 FO ([])) (fun (z:Nat) (k:Nat)=>k≤s.length∧z<2 ^ m) (fun (z:Nat) (k:Nat)=>s.length-k) (0) (0)  (⟨Nat.zero_le _,Nat.two_pow_pos m⟩) ⟨kq,kz⟩ (fun _ _ h=>h) ?_)
 rintro z k  ⟨hk0,hz⟩
 refine ac ?_
 refine Tr.seq ?_
 refine Tr.cn rfl ?_ ?_<;>intro h1 q1
 have hk:k<s.length:=AH h1
 obtain ⟨i,hx⟩:=at_ hk
 have hir:=hs i (List.mem_of_getElem? hx)
 refine ac ?_
 refine Tr.seq (Tr.block (Tr.seq (Tr.Bt (co rfl (AD rfl underlying51 Bi vq vq AA (AR hx)) ?_))))
 refine a2 ?_
 refine co rfl (ga rfl vq vq AA AA) ?_
 refine co rfl (ABO (m:=m) rfl vq vq hz (Nat.pow_lt_pow_right AA AA) hm) ?_
 refine a2 ?_
 exact Fin.Cu ((z|||2 ^ i.toNat)) (k+1)  (⟨⟨by omega,Nat.or_lt_two_pow hz (Nat.pow_lt_pow_right AA AA)⟩,by omega⟩) ⟨⟨_,rfl,AG k⟩,kz⟩ (fun _ _ h=>h)
 have cz:=AJ h1
 refine a3 ?_
 · exact Az _ (BC hz Lr)
abbrev Yw:Pr:=Cp.ex fun z:List Int=>fact (z.length≤1000) (ints z)
theorem lE {k n:Int} (h:∀i∈s,0≤i∧i<n) (hk:0≤k∧k<n):∀i∈EG s k true,0≤i∧i<n:=fun i hi=>by
 rcases Dj.1 hi with rfl|hi
 · exact hk
 · exact h i hi
theorem lF:(List.replicate n (Value.bool false)).map is=((List.replicate n false).map fun x:Bool=>[Cp.bool x]).flatten++[]:=by simp_all
theorem Ux {e:D5} {so done:List Int} {OZ:Int} {N:Nat} (hz:e.sz n) (hn:n≤800000) (hc:∀c∈l,c.Cb.fits∧c.Cb.small) (hN:2 ^ l.length=N) (hl:l.length≤10) (hm:so.length+m=l.length) (hdr:∀i∈done,0≤i∧i<((l.length:Nat):Int)) (KJ:done.length≤so.length) (ih:∀m':Nat,m=m'+1→∀so done:List Int,so.length+m'=l.length→(∀i∈done,0≤i∧i<((l.length:Nat):Int))→done.length≤so.length→BP prog 178 [agg (CV e),CF l,ints so,ints done,int fr,int OZ,is (KE N b)] (C_ [Yw,Eb]) (Er b 4 (fun x:Bool=>[Cp.bool x]) (fun L:List Bool=>L.length=N) []) (fun _=>Er b 4 (fun x:Bool=>[Cp.bool x]) (fun L:List Bool=>L.length=N) [])):BP prog 178 [agg (CV e),CF l,ints so,ints done,int fr,int OZ,is (KE N b)] (C_ [Yw,Eb]) (Er b 4 (fun x:Bool=>[Cp.bool x]) (fun L:List Bool=>L.length=N) []) (fun _=>Er b 4 (fun x:Bool=>[Cp.bool x]) (fun L:List Bool=>L.length=N) []):=by
 refine BP.of func178 rfl rfl Am fun M0 w0 S rs M1 w1=> ?_
 refine ac ?_
 refine Tr.seq (Tr.seq (Tr.Ki 0 rfl fun dd1 AFr=> ?_))
 refine ap ?_
 refine tp rfl (CM (K9 (m:=l.length) hdr AA) rfl rfl) ?_
 refine TO.ex 22 rfl (fun z1=>TO.fact 22 rfl fun Ex=> ?_)
 have hzN:z1<N:=hN ▸ Ex
 refine tp rfl (BI rfl underlying160 UF vq vq AA AA) (TO.rd 0 rfl rfl rfl AB (BT rfl jA vq (R3 (g:=(fun x:Bool=>Cp.bool x)) AA)) ?_)
 refine ap ?_
 refine Tr.cn rfl ?_ ?_<;>intro h1 q1
 refine Tr.seq (Tr.G2 (fun L:List Bool=>L.length=N) 0 rfl AFr ?_)
 refine ac ?_
 refine Tr.ret (Fin.AE (Fin.FG rfl rfl ?_ rfl ?_))
 · exact MH
 · exact Ar
 refine ac ?_
 refine Tr.seq (Tr.seq (Tr.G2 (fun L:List Bool=>L.length=N) 0 rfl AFr ?_))
 refine ac ?_
 refine co rfl (kc5 (lD hz hn hc AA) rfl rfl rfl rfl rfl rfl) ?_
 refine ac ?_
 refine wk [30,7,6,5,4,3,2,1] rfl (Tr.ex 30 rfl fun AKb=> ?_)
 refine Tr.cn rfl ?_ ?_<;>intro h2 q2
 refine ac ?_
 refine wk [35,7,6,5,4,3,2,1] rfl ?_
 refine Tr.cn rfl ?_ ?_<;>intro h3 q3
 refine ac ?_
 refine Tr.ret (Fin.AE (Fin.AE (Fin.FG rfl rfl ?_ rfl ?_)))
 · exact Az so (BC AA Lr)
 · exact Ar
 refine a2 ?_
 refine Tr.block (Tr.KZ _ (kk [38,7,6,5,4,3,2,1] rfl) (fun (k:Nat)=>[(39,int ((k:Nat):Int))]) (fun (k:Nat)=>Hp M0 w0 S (Er b 4 (fun x:Bool=>[Cp.bool x]) (fun L:List Bool=>L.length=N) []::Ai M1 w1::rs)) (fun (k:Nat)=>k≤l.length) (fun (k:Nat)=>l.length-k) (0)  (Nat.zero_le _) kz (fun _ _ h=>h) ?_)
 rintro k  hk0
 refine ac ?_
 refine Tr.seq ?_
 refine Tr.cn rfl ?_ ?_<;>intro h4 q4
 have hk:k<l.length:=AH h4
 refine a3 ?_
 refine co rfl (Bq (Ho) rfl rfl rfl) ?_
 refine ac ?_
 refine wk [44,39,38,16,7,6,5,4,3,2,1] rfl ?_
 refine Tr.cn rfl ?_ ?_<;>intro h5 q5
 refine a2 ?_
 exact Fin.LQ (k+1)  (⟨by omega,by omega⟩) ⟨⟨_,rfl,AG k⟩,kz⟩ (fun _ _ h=>h)
 refine ac ?_
 refine ap ?_
 refine TO.pad ?_
 refine TO.Df 0 rfl rfl AB (EM rfl rfl AB rfl underlying22 Bi G_ z3 rfl AB ⟨_,rfl,AP _⟩ vq (by simp only [List.length_append,List.length_map,List.length_cons,List.length_nil];unfold maxLen;omega) (by simp only [List.length_append,List.length_map,List.length_cons,List.length_nil];omega) (Bs BK ⟨_,rfl,Ck 1⟩)) (fun v1=> ?_)
 refine ap ?_
 refine wk [39,38,17,16,7,6,5,4,3,2,1] rfl ?_
 refine ap ?_
 refine TO.Df 0 rfl rfl AB (B9 rfl rfl rfl rfl underlying22 Bi G_ z3 Ea Db (Ay BK FC)) (fun v2=> ?_)
 refine ap ?_
 refine wk [39,38,17,16,7,6,5,4,3,2,1] rfl (Tr.seq (Tr.rx ?_))
 refine ay ?_
 refine xo rfl (fun _=>Jd (HO AA) rfl rfl rfl rfl) ?_
 refine ay ?_
 refine Cx.ef 1 rfl rfl AB (Ae rfl rfl AB rfl (ih (m-1) AA (so++[((k:Nat):Int)]) (EG done ((k:Nat):Int) true) CL (lE hdr AA) (by have:=Oh done ((k:Nat):Int) true;simp;omega)) ⟨kq,kq,⟨_,rfl,Pr.le_trans (Ao _ _) (Pr.le_of_eq (by show _=slice 1 ((so++[((k:Nat):Int)]).map fun n=>[int n]);rw [List.nil_append,List.map_append];rfl))⟩,kz⟩) ?_
 refine ay ?_
 refine Cx.nil ⟨by kernel_rfl,?_⟩
 refine Aw.done al3 (Fin.go (Tr.drop 0 (wk [39,38,19,18,7,6,5,4,3,2,1] rfl ?_)))
 refine ac ?_
 refine Tr.ex 64 rfl fun AKc=> ?_
 refine Tr.cn rfl ?_ ?_<;>intro h6 q6
 refine ac ?_
 refine wk [15,14] rfl (Tr.ret (Fin.AU (Fin.AE (Fin.AE (Fin.AU (Fin.AE (Fin.FG rfl rfl ?_ rfl ?_)))))))
 · exact Lr
 · exact Ar
 refine a2 ?_
 exact Fin.LQ (k+1)  (⟨by omega,by omega⟩) ⟨⟨_,rfl,AG k⟩,kz⟩ (fun _ _ h=>h)
 have cz:=AJ h4
 refine ac ?_
 refine Tr.seq (Tr.Ki 0 rfl fun dd2 AJF=> ?_)
 refine ap ?_
 refine tp rfl (CM (K9 (m:=l.length) hdr AA) rfl rfl) ?_
 refine TO.ex 69 rfl (fun z2=>TO.fact 69 rfl fun JN=> ?_)
 have hzN:z2<N:=hN ▸ JN
 refine tp rfl (BI rfl underlying160 UF vq vq AA AA) ?_
 refine TO.DP 0 rfl rfl (BF rfl rfl (vl rfl) (Vo rfl) UF rfl My (GQ (f:=fun x:Bool=>[Cp.bool x]) (x:=true) (fun _=>rfl) AA)) ?_
 refine ap ?_
 refine Tr.weak [] trivial (Tr.seq ?_)
 refine Tr.G2 (fun L:List Bool=>L.length=N) 0 rfl (by rw [List.length_set];exact AJF) ?_
 refine ac ?_
 refine Tr.ret (Fin.FG rfl rfl ?_ rfl ?_)
 · exact MH
 · exact Ar
 refine ac ?_
 refine Tr.seq (Tr.Ki 0 rfl fun dd3 AJG=> ?_)
 refine ap ?_
 refine tp rfl (CM (K9 (m:=l.length) hdr AA) rfl rfl) ?_
 refine TO.ex 69 rfl (fun z3=>TO.fact 69 rfl fun hz3=> ?_)
 have hzN:z3<N:=hN ▸ hz3
 refine tp rfl (BI rfl underlying160 UF vq vq AA AA) ?_
 refine TO.DP 0 rfl rfl (BF rfl rfl (vl rfl) (Vo rfl) UF rfl My (GQ (f:=fun x:Bool=>[Cp.bool x]) (x:=true) (fun _=>rfl) AA)) ?_
 refine ap ?_
 refine Tr.weak [] trivial (Tr.seq ?_)
 refine Tr.G2 (fun L:List Bool=>L.length=N) 0 rfl (by rw [List.length_set];exact AJG) ?_
 refine ac ?_
 refine Tr.ret (Fin.FG rfl rfl ?_ rfl ?_)
 · exact MH
 · exact Ar
theorem Yx {e:D5} {l:List Bm} {n:Nat} {fr OZ:Int} {b N:Nat} (hz:e.sz n) (hn:n≤800000) (hc:∀c∈l,c.Cb.fits∧c.Cb.small) (hN:2 ^ l.length=N) (hl:l.length≤10):∀(m:Nat) {so done:List Int},so.length+m=l.length→(∀i∈done,0≤i∧i<((l.length:Nat):Int))→done.length≤so.length→BP Tryz.prog 178 [agg (CV e),CF l,ints so,ints done,int fr,int OZ,is (KE N b)] (C_ [Yw,Eb]) (Er b 4 (fun x:Bool=>[Cp.bool x]) (fun L:List Bool=>L.length=N) []) (fun _=>Er b 4 (fun x:Bool=>[Cp.bool x]) (fun L:List Bool=>L.length=N) [])
 |0,so,done,h1,h2,h3=>Ux hz hn hc hN hl h1 h2 h3 (fun m' h=>absurd h AA)
 |m+1,so,done,h1,h2,h3=>Ux hz hn hc hN hl h1 h2 h3 (fun m' h so' done' g1 g2 g3=>by
  obtain rfl:m'=m:=by omega
  exact Yx hz hn hc hN hl m' g1 g2 g3)
theorem Tw {e:D5} {OZ:Int} (hz:e.sz n) (hn:n≤800000) (hc:∀c∈l,c.Cb.fits∧c.Cb.small):A0 prog 125 [agg (CV e),CF l,int fr,int OZ] (C_ [Yw,anyI]):=by
 refine fo func125 rfl ⟨rfl,rfl⟩ fun M0 w0=>(Tr.CG 1 rfl fun ER=> ?_)
 have hf:=hz.fits AA
 refine a2 ?_
 refine co rfl (CM (EE hf) rfl rfl) ?_
 refine an ?_ ?_<;>intro h1 q1
 refine ac ?_
 refine Tr.ret (Fin.AE (Fin.C6 rfl (Bv.EU _ _) rfl ?_ rfl ?_))
 · exact MH
 · exact Ar
 refine ac ?_
 refine an ?_ ?_<;>intro h2 q2
 refine ac ?_
 refine Tr.ret (Fin.AE (Fin.C6 rfl (Bv.EU _ _) rfl ?_ rfl ?_))
 · exact MH
 · exact Ar
 have AFs:l.length≤10:=by have:=q2;omega
 obtain ⟨N,hN⟩:∃N,2 ^ l.length=N:=⟨_,rfl⟩
 have hN2:N≤1024:=by have:=Nat.pow_le_pow_right (n:=2) AA AFs;omega
 refine a2 ?_
 refine co rfl (Bq (Uw) rfl rfl rfl) (co rfl (Jt rfl vq) ?_)
 refine ac ?_
 refine Tr.ex 22 rfl fun AKd=> ?_
 refine Tr.cn rfl ?_ ?_<;>intro h3 q3
 refine ac ?_
 refine wk [9,8] rfl (Tr.ret (Fin.AE (Fin.C6 rfl (Bv.EU _ _) rfl ?_ rfl ?_)))
 · exact MH
 · exact Ar
 refine ac ?_
 refine wk [4,3,2,1] rfl ?_
 refine ap ?_
 refine tp rfl (Ac.le (ga rfl vq vq AA AA) (int_eq (b:=((N:Nat):Int)) (by rw [Int.toNat_natCast,hN]))) ?_
 refine TO.Vq rfl rfl AB rfl underlying160 UF by4 z4 rfl vq vq FV AA (fun b1=> ?_)
 refine ap ?_
 refine Tr.seq (Tr.eqC 0 (((List.replicate N false).map fun x:Bool=>[Cp.bool x]).flatten++[]) rfl lF (Tr.G2 (fun L:List Bool=>L.length=N) 0 rfl List.length_replicate ?_))
 refine ap ?_
 refine TO.F0 0 rfl rfl AB (Ae rfl rfl AB rfl (Yx (so:=[]) (done:=[]) hz hn hc hN AFs l.length AO (fun i hi=>by cases hi) (Nat.le_refl _)) ⟨kq,kq,⟨_,rfl,AP 1⟩,⟨_,rfl,AP 1⟩,kz⟩) ?_
 refine ap ?_
 refine wk [12,11] rfl (Tr.seq (Tr.seq (Tr.ex 12 rfl fun x12=> ?_)))
 refine an ?_ ?_<;>intro h4 q4
 refine ac ?_
 refine Tr.ret (Fin.AE (Fin.C6 rfl (Bv.EU _ _) rfl ?_ rfl ?_))
 · exact MH
 · exact Ar
 refine a2 ?_
 refine Tr.ret (Fin.C6 rfl (Bv.EU _ _) rfl ?_ rfl ?_)
 · exact Lr
 · exact Ar
structure TD (m:Nat) (l:List Bm) (r:List BM) (d:List Int):Prop where
 fit:Nz m l r d
 l7:l.length≤7
 ok:∀c∈l,c.Cb.fits∧c.Cb.small
 rl:r.length≤1000
abbrev iA (m:Nat):Pr:=Cp.ex fun z:List Bm×List BM×List Int=>fact (TD m z.1 z.2.1 z.2.2) (J_ z.1 z.2.1 z.2.2)
theorem lG:TD m [] [] []:=⟨⟨by decide,rfl,by decide,fun j y c h=>absurd h AO⟩,by decide,(fun c h=>by cases h),by decide⟩
theorem FK:Pr.le (agg [is (.slice none 0 0),is (.slice none 0 0),is (.slice none 0 0)]) (iA m):=Az ([],[],[]) (BC lG (BR ⟨AP 8,AP 2,AP 1,trivial⟩))
theorem x7 {e:D5} {c:BV}:(∀x∈OE e c l r fr,x∈l)∧(OE e c l r fr).length≤l.length∧(RN e c l r fr).length≤r.length:=by grind [OE,RN]
abbrev AFt:Pr:=Cp.ex fun z:List BM=>fact (z.length≤1000) (reqs z)
theorem IQ {e:D5} {c:BV} {OZ:Int} (hz:e.sz n) (hn:n≤800000) (hc:∀x∈l,x.Cb.fits∧x.Cb.small) (h7:l.length≤7) (hrl:r.length≤1000):A0 prog 124 [agg (CV e),Me c,CF l,reqs r,Ny,S7,Wp,int fr,int OZ] (C_ [iA e.Bu.length,tE,Eb]):=by
 refine fo func124 rfl ⟨rfl,rfl⟩ fun M0 w0=> ?_
 have hf:=hz.fits AA
 obtain ⟨hs1,V9,hs3⟩:=x7 (e:=e) (c:=c) (l:=l) (r:=r) (fr:=fr)
 have hcs:∀x∈OE e c l r fr,x.Cb.fits∧x.Cb.small:=fun x hx=>hc x (hs1 x hx)
 refine Tr.seq (Tr.BE ?_)
 iterate 4 refine tp rfl (BU rfl Be) ?_
 refine Tl rfl rfl rfl rfl z35 Gq (fun b1=> ?_)
 refine Tl rfl rfl rfl rfl z107 HA (fun b2=> ?_)
 refine ao ?_
 refine ao ?_
 refine tp rfl (kc5 (Tv (e:=e) (c:=c) (l:=l) (r:=r) (fr:=fr) hf (fun x hx=>(hc x hx).2) AA) rfl rfl rfl rfl rfl rfl) ?_
 refine ao ?_
 refine Tl rfl rfl rfl rfl z35 Gq (fun b3=> ?_)
 refine sf 0 21 ⟨rfl,rfl,rfl⟩ rfl rfl rfl rfl ?_
 refine ao ?_
 refine wk [22,21,19,18,15,13,9,8,7,5] rfl ?_
 refine an ?_ ?_<;>intro h1 q1
 refine ao ?_
 refine TO.AK 1 rfl rfl rfl vq Be rfl CU rfl rfl (TO.AK 0 rfl rfl rfl vq Be rfl B0 rfl rfl ?_)
 refine ao ?_
 refine wk [20,19,18] rfl (Tr.ret (Fin.AE (Fin.Fb rfl (AL.cell 1 rfl rfl Da CU rfl Lr) (AL.cell 0 rfl rfl C2 B0 rfl Lr) (AL.tmp rfl Lr) ?_)))
 refine Al ⟨?_,?_,?_,trivial⟩
 · exact FK
 · exact EH
 · exact Ar
 refine ac ?_
 refine ao ?_
 refine tp rfl (ZO (lC (l:=(OE e c l r fr)) (r:=(RN e c l r fr)) (d:=(VR e c l r fr)) hz hn hcs AA) rfl rfl rfl rfl rfl) ?_
 refine TO.ex 43 rfl (fun z1=>TO.fact 43 rfl fun Ex=> ?_)
 refine ao ?_
 refine Tl rfl rfl rfl rfl z107 HA (fun b4=> ?_)
 refine sf 0 23 ⟨rfl,rfl,rfl⟩ rfl rfl rfl rfl ?_
 refine ao ?_
 refine wk [23,22,21,19,18,15,13,9,5] rfl ?_
 refine an ?_ ?_<;>intro h2 q2
 refine ao ?_
 refine TO.AK 1 rfl rfl rfl vq Be rfl CU rfl rfl (TO.AK 0 rfl rfl rfl vq Be rfl B0 rfl rfl ?_)
 refine ao ?_
 refine wk [20,19,18] rfl (Tr.ret (Fin.AE (Fin.Fb rfl (AL.cell 1 rfl rfl Da CU rfl Lr) (AL.cell 0 rfl rfl C2 B0 rfl Lr) (AL.tmp rfl Lr) ?_)))
 refine Al ⟨?_,?_,?_,trivial⟩
 · exact FK
 · exact EH
 · exact Ar
 have hz0:z1=0:=by have:=q2;omega
 obtain ⟨_,hfp⟩:=Ex hz0
 have hpq:TD e.Bu.length (OE e c l r fr) (RN e c l r fr) (VR e c l r fr):=⟨hfp,by omega,hcs,by omega⟩
 refine ac ?_
 refine ao ?_
 refine tp rfl (kc5 (cE (l:=(OE e c l r fr)) (r:=(RN e c l r fr)) (d:=(VR e c l r fr)) hz hn hcs AA) rfl rfl rfl rfl rfl rfl) ?_
 refine TO.ex 56 rfl (fun z2=>TO.fact 56 rfl fun JN=> ?_)
 refine ao ?_
 refine wk [24,23,22,21,19,18] rfl (Tr.seq ?_)
 by_cases JN:z2.2=0
 refine Tr.rx ?_
 refine ay ?_
 refine Cx.yes rfl rfl rfl H9 rfl AB (fun _=>Cs rfl vq) (Cx.yes rfl rfl rfl H9 rfl AB (fun _=>FP rfl underlying22 vq) (Cx.yes rfl rfl rfl H9 rfl AB (fun _=>ki rfl rfl rfl rfl) (xo rfl (fun _=>LP rfl vq H9 vq) ?_)))
 refine ay ?_
 refine Cx.nil ⟨by kernel_rfl,?_⟩
 refine Aw.done UL (Fin.go (wk [20,19,18] rfl (Tr.ret (Fin.Fb rfl (AL.cell 1 rfl rfl Da CU rfl Lr) (AL.cell 0 rfl rfl C2 B0 rfl Lr) (AL.tmp rfl Lr) ?_))))
 refine Al ⟨?_,?_,?_,trivial⟩
 · exact dj
 · exact Lr
 · exact Ar
 refine Tr.rx ?_
 refine ay ?_
 refine Cx.no rfl rfl rfl (Bc H9) rfl AB (Cx.no rfl rfl rfl (Bc H9) rfl AB (Cx.no rfl rfl rfl (Bc H9) rfl AB (xo rfl (fun _=>E7 rfl vq H9 vq) ?_)))
 refine ay ?_
 refine Cx.nil ⟨by kernel_rfl,?_⟩
 refine Aw.done UL (Fin.go (wk [20,19,18] rfl (Tr.ret (Fin.Fb rfl (AL.cell 1 rfl rfl Da CU rfl Lr) (AL.cell 0 rfl rfl C2 B0 rfl Lr) (AL.tmp rfl Lr) ?_))))
 refine Al ⟨?_,?_,?_,trivial⟩
 · exact dj
 · exact Lr
 · exact Ar
theorem K_ {o:List Int} (ho:o.length≤1000):A0 Tryz.prog 126 [ints o] AFt:=(bt ho).le (fun _ _ _ h=>h) (fun M w v ⟨z,hz,h⟩=>⟨z,Nat.le_trans hz ho,h⟩)
theorem Uy (hn:n≤1000):A0 Tryz.prog 127 [int ((n:Nat):Int)] Yw:=(tA hn).le (fun _ _ _ h=>h) (fun M w v ⟨z,hz,h⟩=>⟨z,Nat.le_trans hz hn,h⟩)
theorem tF {c:BV} (h:Eu c l=0):∀x∈l,0≤x.Aa∧x.Aa<(c.Jj.length:Nat):=fun x hx=>by
 have hb:=(Sw h).2 x hx
 unfold RL at hb
 rw [Bool.or_eq_false_iff,decide_eq_false_iff_not,decide_eq_false_iff_not] at hb
 omega
theorem tH {e:D5} (h:l.length≤24):(xh e l).length≤1000:=by
 have h1:=S2 e l l.length
 have h2:=Nat.mul_le_mul h h
 unfold xh;omega
theorem lH {e:D5} {c:BV} {OZ:Int} (hz:e.sz n) (hn:n≤800000) (hc:∀x∈l,x.Cb.fits∧x.Cb.small) (h7:l.length≤7):A0 prog 66 [agg (CV e),Me c,CF l,Ny,S7,Wp,int fr,int OZ] (C_ [iA e.Bu.length,tE,anyI]):=by
 refine fo func66 rfl ⟨rfl,rfl⟩ fun M0 w0=> ?_
 have hf:=hz.fits AA
 refine Tr.seq (Tr.BE ?_)
 iterate 4 refine tp rfl (BU rfl Be) ?_
 refine Tl rfl rfl rfl rfl z35 Gq (fun b1=> ?_)
 refine Tl rfl rfl rfl rfl z107 HA (fun b2=> ?_)
 refine ao ?_
 refine ac ?_
 refine co rfl (CM (EE hf) rfl rfl) ?_
 refine ac ?_
 refine Tr.cn rfl ?_ ?_<;>intro h1 q1
 refine ao ?_
 refine TO.AK 1 rfl rfl rfl vq Be rfl CU rfl rfl (TO.AK 0 rfl rfl rfl vq Be rfl B0 rfl rfl ?_)
 refine ao ?_
 refine wk [18,17,16] rfl (Tr.ret (Fin.AE (Fin.Fb rfl (AL.cell 1 rfl rfl Da CU rfl Lr) (AL.cell 0 rfl rfl C2 B0 rfl Lr) (AL.tmp rfl Lr) ?_)))
 refine Al ⟨?_,?_,?_,trivial⟩
 · exact FK
 · exact EH
 · exact Ar
 have V3:Fl e=true:=by cases h_:Fl e with|true=>rfl|false=>exact absurd h1 NB
 refine ac ?_
 refine ac ?_
 refine co rfl (Bq (Kw (c:=c) (m:=((e.Bu.length:Nat):Int))) rfl rfl rfl) ?_
 refine ac ?_
 refine wk [19,17,16,13,11,9,8,7,6,4,2] rfl ?_
 refine ac ?_
 refine Tr.cn rfl ?_ ?_<;>intro h2 q2
 refine ao ?_
 refine TO.AK 1 rfl rfl rfl vq Be rfl CU rfl rfl (TO.AK 0 rfl rfl rfl vq Be rfl B0 rfl rfl ?_)
 refine ao ?_
 refine wk [18,17,16] rfl (Tr.ret (Fin.AE (Fin.Fb rfl (AL.cell 1 rfl rfl Da CU rfl Lr) (AL.cell 0 rfl rfl C2 B0 rfl Lr) (AL.tmp rfl Lr) ?_)))
 refine Al ⟨?_,?_,?_,trivial⟩
 · exact FK
 · exact EH
 · exact Ar
 have hck:c.check ((e.Bu.length:Nat):Int)=0:=by simpa using h2
 obtain ⟨how,htl,hth⟩:=Um hck
 refine ac ?_
 refine ac ?_
 refine co rfl (Bq (TC (c:=c) (l:=l) how) rfl rfl rfl) ?_
 refine ac ?_
 refine wk [21,17,16,13,11,9,8,7,6,4,2] rfl ?_
 refine ac ?_
 refine Tr.cn rfl ?_ ?_<;>intro h3 q3
 refine ao ?_
 refine TO.AK 1 rfl rfl rfl vq Be rfl CU rfl rfl (TO.AK 0 rfl rfl rfl vq Be rfl B0 rfl rfl ?_)
 refine ao ?_
 refine wk [18,17,16] rfl (Tr.ret (Fin.AE (Fin.Fb rfl (AL.cell 1 rfl rfl Da CU rfl Lr) (AL.cell 0 rfl rfl C2 B0 rfl Lr) (AL.tmp rfl Lr) ?_)))
 refine Al ⟨?_,?_,?_,trivial⟩
 · exact FK
 · exact EH
 · exact Ar
 have hep:=tF (c:=c) (l:=l) H8
 refine ac ?_
 refine ac ?_
 refine co rfl (Jd (K6) rfl rfl rfl rfl) ?_
 refine ac ?_
 refine wk [22,17,16,13,11,9,8,7,6,4,2] rfl (Tr.seq (Tr.ex 22 rfl fun x22=> ?_))
 refine ac ?_
 refine Tr.cn rfl ?_ ?_<;>intro h4 q4
 refine ao ?_
 refine TO.AK 1 rfl rfl rfl vq Be rfl CU rfl rfl (TO.AK 0 rfl rfl rfl vq Be rfl B0 rfl rfl ?_)
 refine ao ?_
 refine wk [18,17,16] rfl (Tr.ret (Fin.AE (Fin.Fb rfl (AL.cell 1 rfl rfl Da CU rfl Lr) (AL.cell 0 rfl rfl C2 B0 rfl Lr) (AL.tmp rfl Lr) ?_)))
 refine Al ⟨?_,?_,?_,trivial⟩
 · exact FK
 · exact EH
 · exact Ar
 refine ac ?_
 refine ac ?_
 refine co rfl (Bq (Uw) rfl rfl rfl) (co rfl (Jt rfl vq) ?_)
 refine ac ?_
 refine wk [73,17,16,13,11,9,8,7,6,4,2] rfl (Tr.ex 73 rfl fun AKe=> ?_)
 refine Tr.cn rfl ?_ ?_<;>intro h5 q5
 refine ao ?_
 refine TO.AK 1 rfl rfl rfl vq Be rfl CU rfl rfl (TO.AK 0 rfl rfl rfl vq Be rfl B0 rfl rfl ?_)
 refine ao ?_
 refine wk [18,17,16] rfl (Tr.ret (Fin.AE (Fin.Fb rfl (AL.cell 1 rfl rfl Da CU rfl Lr) (AL.cell 0 rfl rfl C2 B0 rfl Lr) (AL.tmp rfl Lr) ?_)))
 refine Al ⟨?_,?_,?_,trivial⟩
 · exact FK
 · exact EH
 · exact Ar
 refine ac ?_
 refine ac ?_
 refine co rfl (Bq (Yk hf V3 AA (fun x hx=>by have:=hep x hx;omega)) rfl rfl rfl) ?_
 refine ac ?_
 refine wk [23,17,16,13,11,9,8,7,6,4,2] rfl ?_
 refine ao ?_
 refine tp rfl (Ah rfl (IQ (e:=e) (c:=c) (l:=l) (r:=xh e l) hz hn hc AA (tH AA)) ⟨kq,kz⟩) ?_
 refine tm rfl (tp rfl (EA rfl vq rfl) ?_)
 refine TO.ex 93 rfl (fun p1=>TO.fact 93 rfl fun Te=> ?_)
 refine tp rfl (EA rfl (vl rfl) rfl) (tp rfl (EA rfl (vl rfl) rfl) ?_)
 refine Tl rfl rfl rfl rfl z35 Gq (fun b3=> ?_)
 refine Tl rfl rfl rfl rfl z107 HA (fun b4=> ?_)
 refine sf 1 25 ⟨rfl,rfl,rfl⟩ rfl rfl rfl rfl ?_
 refine sf 0 26 ⟨rfl,rfl,rfl⟩ rfl rfl rfl rfl ?_
 refine ao ?_
 refine wk [27,26,25,17,16,13,11,9,8,7,6,4,2] rfl ?_
 refine ac ?_
 refine wk [96,26,25,17,16,13,11,9,8,7,6,4,2] rfl (Tr.ex 96 rfl fun AKf=> ?_)
 refine Tr.cn rfl ?_ ?_<;>intro h6 q6
 refine Tr.seq (Tr.rx ?_)
 refine ax ?_
 refine Cx.DP 1 rfl rfl (BF rfl rfl vq Be CU rfl Am rfl) (Cx.DP 0 rfl rfl (BF rfl rfl vq Be B0 rfl Am rfl) (xm rfl ?_))
 refine Cx.nil ⟨by kernel_rfl,?_⟩
 refine Aw.done UL (Fin.go (wk [18,17,16] rfl (Tr.ret (Fin.AE (Fin.Fb rfl (AL.cell 1 rfl rfl Da CU rfl Lr) (AL.cell 0 rfl rfl C2 B0 rfl Lr) (AL.tmp rfl Lr) ?_)))))
 refine Al ⟨?_,?_,?_,trivial⟩
 · exact P_
 · exact Lr
 · exact Ar
 refine ac ?_
 refine wk [17,16,13,11,9,8,7,6,4,2] rfl ?_
 refine ac ?_
 refine Tr.cn rfl ?_ ?_<;>intro h7 q7
 refine ao ?_
 refine TO.AK 1 rfl rfl rfl vq Be rfl CU rfl rfl (TO.AK 0 rfl rfl rfl vq Be rfl B0 rfl rfl ?_)
 refine ao ?_
 refine wk [18,17,16] rfl (Tr.ret (Fin.AE (Fin.Fb rfl (AL.cell 1 rfl rfl Da CU rfl Lr) (AL.cell 0 rfl rfl C2 B0 rfl Lr) (AL.tmp rfl Lr) ?_)))
 refine Al ⟨?_,?_,?_,trivial⟩
 · exact FK
 · exact EH
 · exact Ar
 refine ac ?_
 refine ac ?_
 refine co rfl (ZO (Tw hz hn hc) rfl rfl rfl rfl rfl) ?_
 refine ac ?_
 refine wk [29,28,17,16,13,11,9,8,7,6,4,2] rfl (Tr.seq (Tr.ex 29 rfl fun x29=> ?_))
 refine ac ?_
 refine wk [113,28,17,16,13,11,9,8,7,6,4,2] rfl ?_
 refine Tr.cn rfl ?_ ?_<;>intro h8 q8
 refine Tr.seq (Tr.ex 28 rfl fun sq=>(Tr.fact 28 rfl fun hsq=>(Tr.pad (Tr.pad (Tr.rx ?_)))))
 refine ax ?_
 refine xo rfl (fun _=>CM (K_ hsq) rfl rfl) ?_
 refine ax ?_
 refine xo rfl (fun _=>Ah rfl (A0.ry [agg (CV e),Me c,CF l] ([]:List BM) AO fun z hz_=>IQ (e:=e) (c:=c) (l:=l) (r:=z) hz hn hc AA hz_) ⟨kq,kz⟩) ?_
 refine ax ?_
 refine Cx.ef 0 rfl rfl AB (Bx rfl rfl AB rfl z35 Gq) (Cx.ef 1 rfl rfl AB (Bx rfl rfl AB rfl z107 HA) (Cx.DP 0 rfl rfl (Lj (f:=fun z:List Bm×List BM×List Int=>[CF z.1,reqs z.2.1,ints z.2.2]) (φ:=fun z:List Bm×List BM×List Int=>TD e.Bu.length z.1 z.2.1 z.2.2) rfl rfl rfl AB rfl rfl CU (fun _=>rfl) rfl) (Cx.DP 1 rfl rfl (CZ rfl rfl rfl rfl Be B0 rfl rfl) (xm rfl ?_))))
 refine Cx.nil ⟨by kernel_rfl,?_⟩
 refine Aw.open_ 0 30 rfl rfl (fun v1=> ?_)
 refine Aw.open_ 1 31 rfl rfl (fun v2=> ?_)
 refine Aw.done al4 (Fin.LR 30 0 _ rfl rfl (fun _=>rfl) (fun b5=> ?_))
 refine Fin.gb 0 rfl (fun pe1 AFu=> ?_)
 refine Fin.LR 31 1 _ rfl rfl (fun _=>rfl) (fun b6=> ?_)
 refine Fin.go (wk [32,31,30,17,16,13,11,9,8,7,6,4,2] rfl ?_)
 refine ac ?_
 refine wk [129,31,30,17,16,13,11,9,8,7,6,4,2] rfl (Tr.ex 129 rfl fun AJx=> ?_)
 refine Tr.cn rfl ?_ ?_<;>intro h9 q9
 refine Tr.seq (Tr.rx ?_)
 refine ax ?_
 refine Cx.DP 3 rfl rfl (BF rfl rfl vq Be CU rfl Am rfl) (Cx.DP 2 rfl rfl (BF rfl rfl vq Be B0 rfl Am rfl) (xm rfl ?_))
 refine Cx.nil ⟨by kernel_rfl,?_⟩
 refine Aw.done al4 (Fin.go (Tr.drop 0 (Tr.drop 0 (wk [18,17,16] rfl (Tr.ret (Fin.AE (Fin.Fb rfl (AL.cell 1 rfl rfl Da CU rfl Lr) (AL.cell 0 rfl rfl C2 B0 rfl Lr) (AL.tmp rfl Lr) ?_)))))))
 refine Al ⟨?_,?_,?_,trivial⟩
 · exact P_
 · exact Lr
 · exact Ar
 refine ac ?_
 refine Tr.drop 0 (Tr.drop 0 (wk [17,16,13,11,9,8,7,6,4,2] rfl (Tr.seq (Tr.seq (Tr.pad (Tr.pad (Tr.rx ?_)))))))
 refine ax ?_
 refine xo rfl (fun _=>CM (Uy (n:=l.length) AA) rfl rfl) ?_
 refine xo rfl (fun _=>CM (A0.ry [] [] (Nat.zero_le _) fun z hz_=>K_ hz_) rfl rfl) ?_
 refine ax ?_
 refine xo rfl (fun _=>Ah rfl (A0.ry [agg (CV e),Me c,CF l] ([]:List BM) AO fun z hz_=>IQ (e:=e) (c:=c) (l:=l) (r:=z) hz hn hc AA hz_) ⟨kq,kz⟩) ?_
 refine ax ?_
 refine Cx.ef 0 rfl rfl AB (Bx rfl rfl AB rfl z35 Gq) (Cx.ef 1 rfl rfl AB (Bx rfl rfl AB rfl z107 HA) (Cx.DP 0 rfl rfl (Lj (f:=fun z:List Bm×List BM×List Int=>[CF z.1,reqs z.2.1,ints z.2.2]) (φ:=fun z:List Bm×List BM×List Int=>TD e.Bu.length z.1 z.2.1 z.2.2) rfl rfl rfl AB rfl rfl CU (fun _=>rfl) rfl) (Cx.DP 1 rfl rfl (CZ rfl rfl rfl rfl Be B0 rfl rfl) (xm rfl ?_))))
 refine Cx.nil ⟨by kernel_rfl,?_⟩
 refine Aw.open_ 0 33 rfl rfl (fun v3=> ?_)
 refine Aw.open_ 1 34 rfl rfl (fun v4=> ?_)
 refine Aw.done al4 (Fin.LR 33 0 _ rfl rfl (fun _=>rfl) (fun b7=> ?_))
 refine Fin.gb 0 rfl (fun pe2 AKg=> ?_)
 refine Fin.LR 34 1 _ rfl rfl (fun _=>rfl) (fun b8=> ?_)
 refine Fin.go (wk [35,34,33,17,16] rfl ?_)
 refine ac ?_
 refine Tr.ex 149 rfl fun AFv=> ?_
 refine Tr.cn rfl ?_ ?_<;>intro h10 R9
 refine Tr.seq (Tr.rx ?_)
 refine ax ?_
 refine Cx.DP 3 rfl rfl (BF rfl rfl vq Be CU rfl Am rfl) (Cx.DP 2 rfl rfl (BF rfl rfl vq Be B0 rfl Am rfl) (xm rfl ?_))
 refine Cx.nil ⟨by kernel_rfl,?_⟩
 refine Aw.done al4 (Fin.go (Tr.drop 0 (Tr.drop 0 (Tr.ret (Fin.AE (Fin.Fb rfl (AL.cell 1 rfl rfl Da CU rfl Lr) (AL.cell 0 rfl rfl C2 B0 rfl Lr) (AL.tmp rfl Lr) ?_))))))
 refine Al ⟨?_,?_,?_,trivial⟩
 · exact P_
 · exact Lr
 · exact Ar
 refine ac ?_
 refine Tr.drop 0 (Tr.drop 0 ?_)
 refine ao ?_
 refine TO.AK 1 rfl rfl rfl vq Be rfl CU rfl rfl (TO.AK 0 rfl rfl rfl vq Be rfl B0 rfl rfl ?_)
 refine ao ?_
 refine Tr.ret (Fin.Fb rfl (AL.cell 1 rfl rfl Da CU rfl Lr) (AL.cell 0 rfl rfl C2 B0 rfl Lr) (AL.tmp rfl Lr) ?_)
 refine Al ⟨?_,?_,?_,trivial⟩
 · exact FK
 · exact EH
 · exact Ar
 refine ac ?_
 refine Tr.seq (Tr.seq (Tr.pad (Tr.pad (Tr.rx ?_))))
 refine ax ?_
 refine xo rfl (fun _=>CM (Uy (n:=l.length) AA) rfl rfl) ?_
 refine xo rfl (fun _=>CM (A0.ry [] [] (Nat.zero_le _) fun z hz_=>K_ hz_) rfl rfl) ?_
 refine ax ?_
 refine xo rfl (fun _=>Ah rfl (A0.ry [agg (CV e),Me c,CF l] ([]:List BM) AO fun z hz_=>IQ (e:=e) (c:=c) (l:=l) (r:=z) hz hn hc AA hz_) ⟨kq,kz⟩) ?_
 refine ax ?_
 refine Cx.ef 0 rfl rfl AB (Bx rfl rfl AB rfl z35 Gq) (Cx.ef 1 rfl rfl AB (Bx rfl rfl AB rfl z107 HA) (Cx.DP 0 rfl rfl (Lj (f:=fun z:List Bm×List BM×List Int=>[CF z.1,reqs z.2.1,ints z.2.2]) (φ:=fun z:List Bm×List BM×List Int=>TD e.Bu.length z.1 z.2.1 z.2.2) rfl rfl rfl AB rfl rfl CU (fun _=>rfl) rfl) (Cx.DP 1 rfl rfl (CZ rfl rfl rfl rfl Be B0 rfl rfl) (xm rfl ?_))))
 refine Cx.nil ⟨by kernel_rfl,?_⟩
 refine Aw.open_ 0 33 rfl rfl (fun v5=> ?_)
 refine Aw.open_ 1 34 rfl rfl (fun v6=> ?_)
 refine Aw.done al4 (Fin.LR 33 0 _ rfl rfl (fun _=>rfl) (fun b9=> ?_))
 refine Fin.gb 0 rfl (fun pe3 AKh=> ?_)
 refine Fin.LR 34 1 _ rfl rfl (fun _=>rfl) (fun b10=> ?_)
 refine Fin.go (wk [35,34,33,17,16] rfl ?_)
 refine ac ?_
 refine Tr.ex 149 rfl fun AFv=> ?_
 refine Tr.cn rfl ?_ ?_<;>intro h11 Ti
 refine Tr.seq (Tr.rx ?_)
 refine ax ?_
 refine Cx.DP 3 rfl rfl (BF rfl rfl vq Be CU rfl Am rfl) (Cx.DP 2 rfl rfl (BF rfl rfl vq Be B0 rfl Am rfl) (xm rfl ?_))
 refine Cx.nil ⟨by kernel_rfl,?_⟩
 refine Aw.done al4 (Fin.go (Tr.drop 0 (Tr.drop 0 (Tr.ret (Fin.AE (Fin.Fb rfl (AL.cell 1 rfl rfl Da CU rfl Lr) (AL.cell 0 rfl rfl C2 B0 rfl Lr) (AL.tmp rfl Lr) ?_))))))
 refine Al ⟨?_,?_,?_,trivial⟩
 · exact P_
 · exact Lr
 · exact Ar
 refine ac ?_
 refine Tr.drop 0 (Tr.drop 0 ?_)
 refine ao ?_
 refine TO.AK 1 rfl rfl rfl vq Be rfl CU rfl rfl (TO.AK 0 rfl rfl rfl vq Be rfl B0 rfl rfl ?_)
 refine ao ?_
 refine Tr.ret (Fin.Fb rfl (AL.cell 1 rfl rfl Da CU rfl Lr) (AL.cell 0 rfl rfl C2 B0 rfl Lr) (AL.tmp rfl Lr) ?_)
 refine Al ⟨?_,?_,?_,trivial⟩
 · exact FK
 · exact EH
 · exact Ar
theorem ABf (s:DS):s.of [1,0,3]=1∨s.of [1,0,3]=0∨s.of [1,0,3]=3:=by have:=s.OP (l:=[1,0,3]) AO;simp at this;exact this
theorem iB (s:DS) (hk:k≤7):0≤((k:Nat):Int)*s.of [1,0,3]∧((k:Nat):Int)*s.of [1,0,3]≤21:=by rcases ABf s with h|h|h<;>rw [h]<;>omega
theorem tI {o:List Int} {x:Int} (h:∀y∈o,0≤y∧y≤40000) (hx:0≤x∧x≤40000):∀y∈o++[x],0≤y∧y≤40000:=by grind
theorem ABg {s:DS}:BP prog 13 [ptr b 0] (Cp.ex fun e:D5=>fact (PT e) (C_ [agg (CV e),iA e.Bu.length,Eb])) (DT b s) (fun _=>JY 104 b):=by
 refine BP.of func13 rfl rfl Am fun M0 w0 S rs M1 w1=> ?_
 refine Tr.seq (Tr.BE ?_)
 refine Tl rfl rfl rfl rfl z31 Iw (fun b1=> ?_)
 refine Tl rfl rfl rfl rfl z35 Gq (fun b2=> ?_)
 refine ao ?_
 refine ao ?_
 refine TO.F0 2 rfl rfl AB (Ae rfl rfl AB rfl (qN) kz) ?_
 refine TO.ex 13 rfl (fun z1=>TO.fact 13 rfl fun Ex=> ?_)
 refine Tl rfl rfl rfl rfl z31 Iw (fun b3=> ?_)
 refine sf 0 5 ⟨rfl,rfl,rfl⟩ rfl rfl rfl rfl ?_
 refine TO.nil (Fin.UD 2 rfl (fun s1=> ?_))
 refine Fin.go ?_
 refine ao ?_
 refine TO.F0 2 rfl rfl AB (Ae rfl rfl AB rfl (wW (e:=z1) Ex.snd ⟨by have:=Ex.n2;omega,Ex.n3⟩) ⟨kq,kz⟩) ?_
 refine TO.ex 16 rfl (fun z2=>TO.fact 16 rfl fun JN=> ?_)
 refine tm rfl (TO.nil (Fin.UD 2 rfl (fun s2=> ?_)))
 refine Fin.go (wk5 0 2 3 5 6 rfl (Tr.seq ?_))
 have mN:∀x∈z2,x.Cb.fits∧x.Cb.small:=fun x hx=>⟨(JN.any x hx).fits,(JN.any x hx).small⟩
 have h7:=JN.len
 refine Tr.pad (Tr.pad (Tr.rx ?_))
 refine ax ?_
 refine xo rfl (fun _=>CM (ABV (n:=z1.Bu.length) (by have:=Ex.n3;omega)) rfl rfl) ?_
 refine ax ?_
 refine xo rfl (fun _=>Ah rfl (lH (e:=z1) (c:=zN z1.Bu.length) (l:=z2) Ex.sz AA mN JN.len) ⟨kq,kq,kq,⟨_,rfl,BR ⟨AP 6,AP 2,trivial⟩⟩,⟨_,rfl,AP _⟩,⟨_,rfl,BR ⟨AP 1,Lr,trivial⟩⟩,kz⟩) ?_
 refine ax ?_
 refine Cx.ef 0 rfl rfl AB (Bx rfl rfl AB rfl z35 Gq) (Cx.ef 1 rfl rfl AB (Bx rfl rfl AB rfl z107 HA) (Cx.DP 0 rfl rfl (Lj (f:=fun z:List Bm×List BM×List Int=>[CF z.1,reqs z.2.1,ints z.2.2]) (φ:=fun z:List Bm×List BM×List Int=>TD z1.Bu.length z.1 z.2.1 z.2.2) rfl rfl rfl AB rfl rfl CU (fun _=>rfl) rfl) (Cx.DP 1 rfl rfl (CZ rfl rfl rfl rfl Be B0 rfl rfl) (xm rfl ?_))))
 refine Cx.nil ⟨by kernel_rfl,?_⟩
 refine Aw.open_ 0 7 rfl rfl (fun v1=> ?_)
 refine Aw.open_ 1 8 rfl rfl (fun v2=> ?_)
 refine Aw.done fI (Fin.LR 7 0 _ rfl rfl (fun _=>rfl) (fun b4=> ?_))
 refine Fin.gb 0 rfl (fun pe1 AFu=> ?_)
 refine Fin.LR 8 1 _ rfl rfl (fun _=>rfl) (fun b5=> ?_)
 refine Fin.go (Tr.drop 1 (wk [9,7,6,5,3,2,0] rfl (Tr.seq (Tr.seq (Tr.ex 9 rfl fun x9=> ?_)))))
 refine ac ?_
 refine Tr.cn rfl ?_ ?_<;>intro h1 q1
 refine Tr.seq (Tr.rx ?_)
 refine ax ?_
 refine Cx.DP 2 rfl rfl (BF rfl rfl vq Be F5 rfl Am rfl) (Cx.DP 1 rfl rfl (BF rfl rfl vq Be CU rfl Am rfl) (xm rfl ?_))
 refine Cx.nil ⟨by kernel_rfl,?_⟩
 refine Aw.done al5 (Fin.go (Tr.drop 0 (Tr.ret (Fin.AE (Fin.HX 2 _ rfl rfl (Fin.yV [_,_] rfl (AL.cell 1 rfl rfl Gp F5 rfl Lr) (AL.cell 0 rfl rfl Da CU rfl Lr) (AL.tmp rfl Lr) ?_))))))
 · exact Az z1 (BC Ex (Al ⟨Lr,Az pe1 (BC AFu Lr),Az _ Lr,trivial⟩))
 refine ac ?_
 refine Tr.drop 0 ?_
 refine ao ?_
 refine TO.F0 2 rfl rfl AB (Ae rfl rfl AB rfl (xX (n:=z2.length) (by have:=JN.len;omega)) ⟨kq,kz⟩) ?_
 refine TO.ex 38 rfl (fun z3=>TO.fact 38 rfl fun hz3=> ?_)
 revert z3
 intro rq hrq
 refine tp rfl (oD) ?_
 refine Tl rfl rfl rfl rfl z35 Gq (fun b6=> ?_)
 refine TO.AK 0 rfl rfl rfl vq Be rfl CU rfl rfl (TO.nil (Fin.UD 3 rfl (fun s3=> ?_)))
 refine Fin.go (wk [10,6,5,3,2,0] rfl ?_)
 refine ac ?_
 refine Tr.block (Tr.G9 0 [CF z2,reqs rq,AV (.slice none 0 0) (ints [])] rfl ⟨Lr,Lr,Bg rfl,trivial⟩ (Tr.B5 3 1 (Tr.F4 _ (kk [41,10,5,3,2,0] rfl) (fun (k:Nat) (dd:List Int) (s2:DS) v=>[(42,int ((k:Nat):Int))]) (fun (k:Nat) (dd:List Int) (s2:DS) v=>Hp M0 w0 S (As 3 1 v::AF true b6 35 [CF z2,reqs rq,AV v (ints dd)]::AF true b2 35 (([.slice none 0 0,.slice none 0 0,.slice none 0 0]:List Value).map is)::AF true b1 31 (([.slice none 0 0,.slice none 0 0,.slice none 0 0]:List Value).map is)::DT b s2::Ai M1 w1::rs)) (fun (k:Nat) (dd:List Int) (s2:DS)=>(k≤z2.length∧dd.length=k)∧∀x∈dd,0≤x∧x≤40000) (fun (k:Nat) (dd:List Int) (s2:DS)=>z2.length-k) (0) ([]) (_) (.slice none 0 0) (⟨⟨Nat.zero_le _,rfl⟩,fun x h=>Fv⟩) kz (fun _ _ h=>h) ?_)))
 rintro k dd s2 v ⟨⟨hk0,KJ⟩,hdb⟩
 refine ac ?_
 refine Tr.seq ?_
 refine Tr.cn rfl ?_ ?_<;>intro h2 q2
 have hk:k<z2.length:=AH h2
 refine ac ?_
 refine ac ?_
 refine Tr.pad (Tr.rx ?_)
 refine ax ?_
 refine xo rfl (fun _=>oI) ?_
 refine Cx.ef 5 rfl rfl AB (Ae rfl rfl AB rfl (R6 (l:=[1,0,3]) AO AO) ⟨kq,Db,trivial⟩) ?_
 refine xo rfl (fun _=>nD rfl vq vq (by have:=iB s2 (k:=k) AA;unfold RO;omega)) ?_
 refine xo rfl (fun _=>Af (xs:=[.tmp 51]) (rows:=[[_]]) rfl rfl underlying22 Bi z3 rfl AB ⟨⟨An,F7⟩,trivial⟩ AB) ?_
 refine Cx.ef 1 rfl rfl AB (B9 rfl rfl rfl rfl underlying22 Bi G_ z3 Ea Db (Ay BK FC)) ?_
 refine xo rfl (fun _=>Aq rfl Z4 vq) (Cx.DP 2 rfl rfl (Fc rfl rfl rfl vq rfl NO Am) ?_)
 refine Cx.nil ⟨by kernel_rfl,?_⟩
 refine Aw.PF 1 2 53 rfl rfl AB rfl (fun v3=> ?_)
 refine Aw.done al7 ?_
 refine ac ?_
 refine Tr.drop 0 (wk [42,41,10,5,3,2,0] rfl ?_)
 refine ac ?_
 refine Fin.G9 1 [CF z2,reqs rq,AV v3 (ints (dd++[(((k:Nat):Int)*s2.of [1,0,3])]))] rfl ⟨Lr,Lr,BB Dm,trivial⟩ ?_
 exact Fin.EZ (k+1) (dd++[(((k:Nat):Int)*s2.of [1,0,3])]) (_) v3 (⟨⟨⟨by omega,by simp;omega⟩,tI hdb (by have:=iB s2 (k:=k) AA;omega)⟩,by omega⟩) ⟨⟨_,rfl,AG k⟩,kz⟩ (fun _ _ h=>h)
 have cz:=AJ h2
 refine ac ?_
 refine Tr.seq (Tr.rx ?_)
 refine ax ?_
 refine Cx.DP 3 rfl rfl (BF rfl rfl vq Be F5 rfl Am rfl) (Cx.DP 2 rfl rfl (BF rfl rfl vq Be CU rfl Am rfl) (xm rfl ?_))
 refine Cx.nil ⟨by kernel_rfl,?_⟩
 refine Aw.done fI (Fin.go (Tr.ret (Fin.HX 4 _ rfl rfl (Fin.yV [_,_,_,_] rfl (AL.cell 3 rfl rfl Gp F5 rfl Lr) (AL.cell 2 rfl rfl Da CU rfl Lr) (AL.tmp rfl Lr) ?_))))
 · exact Az z1 (BC Ex (Al ⟨Lr,Az (z2,rq,dd) (BC ⟨⟨by show z2.length≤24;omega,by show dd.length=z2.length;omega,hrq.1.valid (by show z2.length≤24;omega),fun j y c hj hy hcj=>⟨hdb y (List.mem_of_getElem? hy),(JN.any c (List.mem_of_getElem? hcj)).lo,(JN.any c (List.mem_of_getElem? hcj)).hi⟩⟩,h7,mN,by have:=hrq.2;show rq.length≤1000;omega⟩ (BR ⟨Lr,Lr,Ao _ _,trivial⟩)),Az _ Lr,trivial⟩))
section
variable {β:Type} {c:β×β→Int}
def Ij (c:β×β→Int):Nat→List β→List β
 |0,st=>st
 |j+1,st=>match st[j+1]?,st[j]? with
  |some x,some y=>if c (x,y)<0 then Ij c j ((st.set (j+1) y).set j x) else st
  |_,_=>st
def TE (c:β×β→Int) (x:β):List β→List β→List β
 |[],dn=>x::dn
 |y::rp,dn=>if c (x,y)<0 then TE c x rp (y::dn) else (y::rp).reverse++x::dn
def isB (c:β×β→Int) (l:List β):Nat→List β
 |0=>l
 |i+1=>Ij c i (isB c l i)
theorem Yy {st:List β} {x y:β} (hx:st[j+1]? =some x) (hy:st[j]? =some y) (h:c (x,y)<0):Ij c (j+1) st=Ij c j ((st.set (j+1) y).set j x):=by rw [Ij,hx,hy];simp [h]
theorem iC {st:List β} {x y:β} (hx:st[j+1]? =some x) (hy:st[j]? =some y) (h:¬c (x,y)<0):Ij c (j+1) st=st:=by rw [Ij,hx,hy];simp [h]
theorem Yz:∀(j:Nat) (st:List β),(Ij c j st).length=st.length
 |0,_=>rfl
 |j+1,st=>by
  rw [Ij]
  split
  ·
   split
   · rw [Yz];simp
   · rfl
  · rfl
theorem tJ (x:β):∀(rp dn:List β),Ij c rp.length (rp.reverse++x::dn)=TE c x rp dn
 |[],dn=>rfl
 |y::rp,dn=>by
  have hx:((y::rp).reverse++x::dn)[rp.length+1]? =some x:=by
   rw [List.getElem?_append_right AO];simp
  have hy:((y::rp).reverse++x::dn)[rp.length]? =some y:=by
   rw [List.reverse_cons,List.append_assoc,List.getElem?_append_right AO];simp
  have hs:(((y::rp).reverse++x::dn).set (rp.length+1) y).set rp.length x=rp.reverse++x::(y::dn):=by
   rw [List.reverse_cons,List.append_assoc,List.set_append_right _ _ AO]
   simp
  unfold TE
  show Ij c (rp.length+1) _=_
  by_cases h:c (x,y)<0
  · rw [Yy hx hy h,hs,tJ x rp (y::dn),if_pos h]
  · rw [iC hx hy h,if_neg h]
theorem iD {R:β→β→Prop} (ht:∀a b d,R a b→R b d→R a d) {x:β}:∀(rp dn:List β),(rp.reverse++dn).Pairwise R→(∀z∈dn,R x z)→(∀y∈rp,(c (x,y)<0→R x y)∧(¬c (x,y)<0→R y x))→
  (TE c x rp dn).Pairwise R∧(TE c x rp dn).Perm (x::(rp.reverse++dn))
 |[],dn,h,hd,_=>by
  unfold TE
  exact ⟨List.pairwise_cons.2 ⟨hd,by simpa using h⟩,by simp⟩
 |y::rp,dn,h,hd,hc=>by
  obtain ⟨h1,h2⟩:=hc y AO
  unfold TE
  by_cases hlt:c (x,y)<0
  ·
   rw [if_pos hlt]
   obtain ⟨g1,g2⟩:=iD ht (x:=x) rp (y::dn) EJ (fun z hz=>by
    rcases List.mem_cons.1 hz with rfl|hz
    · exact h1 hlt
    · exact hd z hz) (fun z hz=>hc z (List.mem_cons_of_mem _ hz))
   exact ⟨g1,by simpa using g2⟩
  ·
   rw [if_neg hlt]
   have hyx:=h2 hlt
   rw [List.pairwise_append] at h ⊢
   obtain ⟨p1,p2,p3⟩:=h
   refine ⟨⟨p1,List.pairwise_cons.2 ⟨hd,p2⟩,fun a ha b hb=> ?_⟩,?_⟩
   ·
    have hax:R a x:=by
     simp only [List.reverse_cons,List.mem_append,List.mem_reverse,List.mem_singleton] at ha
     rcases ha with ha|rfl
     ·
      refine ht _ _ _ ?_ hyx
      rw [List.reverse_cons,List.pairwise_append] at p1
      exact p1.2.2 a (List.mem_reverse.2 ha) y AO
     · exact hyx
    rcases List.mem_cons.1 hb with rfl|hb
    · exact hax
    · exact ht _ _ _ hax (hd b hb)
   · exact List.perm_middle
theorem tL {R:β→β→Prop} (ht:∀a b d,R a b→R b d→R a d) {l:List β} (hc:∀(i j:Nat) x y,j<i→l[i]? =some x→l[j]? =some y→(c (x,y)<0→R x y)∧(¬c (x,y)<0→R y x)):
  ∀(i:Nat),i≤l.length→∃st,isB c l i=st++l.drop i∧st.Pairwise R∧st.Perm (l.take i)
 |0,_=>⟨[],by simp [isB],List.Pairwise.nil,by simp⟩
 |i+1,hi=>by
  obtain ⟨st,h1,h2,h3⟩:=tL ht hc i AA
  obtain ⟨x,hx⟩:=at_ (l:=l) (k:=i) AA
  have hl:st.length=i:=by rw [h3.length_eq,List.length_take];omega
  have hd:l.drop i=x::l.drop (i+1):=by
   rw [List.drop_eq_getElem_cons (show i<l.length by omega)]
   rw [List.getElem?_eq_getElem (show i<l.length by omega)] at hx;cases hx;rfl
  have hk:=tJ (c:=c) x st.reverse (l.drop (i+1))
  rw [List.length_reverse,List.reverse_reverse,hl] at hk
  have key:∀(rp dn rest:List β),TE c x rp (dn++rest)=TE c x rp dn++rest:=by
   intro rp
   induction rp with
   |nil=>intro dn rest;rfl
   |cons y rp ih=>
    intro dn rest
    unfold TE
    split
    · exact ih (y::dn) rest
    · simp
  have hk2:=key st.reverse [] (l.drop (i+1))
  rw [List.nil_append] at hk2
  obtain ⟨g1, g2⟩ := iD ht (c := c) (x := x) st.reverse [] LN (fun z hz => by cases hz) (fun y hy => by
   have hy2:y∈l.take i:=h3.mem_iff.1 (List.mem_reverse.1 hy)
   obtain ⟨j,hj⟩:=List.getElem?_of_mem hy2
   rw [List.getElem?_take] at hj
   split at hj
   next hji=>exact hc i j x y hji hx hj
   next=>cases hj)
  refine ⟨TE c x st.reverse [],?_,g1,?_⟩
  · rw [isB,h1,hd,hk,hk2]
  ·
   refine g2.trans ?_
   rw [List.reverse_reverse,List.append_nil,List.take_add_one,hx]
   exact ((List.perm_append_comm (l₁:=[x]) (l₂:=st)).trans (h3.append_right [x]))
end
structure Fnd where
 src:Int
 host:List UInt8
 machine:Int
 day:Int
 AFw:Int
 kind:Int
 x8:List UInt8
 CN:Int
 bits:Int
 num:Int
 text:List UInt8
structure Fnd.fits (f:Fnd):Prop where
 host:f.host.length≤maxLen
 x8:f.x8.length≤maxLen
 text:f.text.length≤maxLen
def orL:List Int→Int
 |[]=>0
 |a::l=>if a=0 then orL l else a
def AFx (a b:Fnd):List Int:=[Lib.compareBytes a.host b.host,KH a.machine b.machine,KH a.day b.day,Lib.compareBytes a.x8 b.x8,KH a.kind b.kind,KH a.CN b.CN,KH a.bits b.bits,KH a.num b.num,Lib.compareBytes a.text b.text,KH a.src b.src,KH a.AFw b.AFw]
def AJH (a b:Fnd):Int:=orL (AFx a b)
def kF (l:List Fnd) (f:Fnd):Nat:=(l.reverse.dropWhile fun x=>decide (0<AJH x f)).length
def InR (own:List Int) (m:Nat):Prop:=∀i∈own,0≤i∧i<(m:Int)
instance (own:List Int) (m:Nat):Decidable (InR own m):=inferInstanceAs (Decidable (∀i∈own,0≤i∧i<(m:Int)))
theorem BC {φ:Prop} (h:φ) (hl:Pr.le p q):Pr.le p (fact φ q):=fun _ _ _ hp=>⟨h,hl _ _ _ hp⟩
theorem Ju {β:Type} {g:β→Pr} {l:List β} {i:Int} {x:β} (h:l[i.toNat]? =some x):((l.map fun x=>[g x]).flatten++qs)[0+i.toNat*1]? =some (g x):=by
 have hl:i.toNat<l.length:=by rcases Nat.lt_or_ge i.toNat l.length with h'|h';exact h';rw [List.getElem?_eq_none h'] at h;cases h
 rw [List.getElem?_eq_getElem hl] at h
 cases h
 exact R3 hl
section
variable {c:Int×Int→Int}
theorem Wv (l:List Int):∀i,(isB c l i).length=l.length
 |0=>rfl
 |i+1=>by rw [isB,Yz,Wv l i]
theorem tM {st:List Int} {x y:Int} (h0:0<j) (hx:st[j]? =some x) (hy:st[j-1]? =some y) (h:c (x,y)<0):Ij c (j-1) ((st.set ((j:Nat):Int).toNat y).set (((j:Nat):Int)-1).toNat x)=Ij c j st:=by
 obtain ⟨m,rfl⟩:∃m,j=m+1:=⟨j-1,by omega⟩
 rw [show (((m+1:Nat):Nat):Int).toNat=m+1 by omega,show ((((m+1:Nat):Nat):Int)-1).toNat=m by omega,show m+1-1=m by omega]
 exact (Yy hx hy h).symm
theorem tN {st:List Int} (h:j=0):Ij c j st=st:=by subst h;rfl
theorem tO {st:List Int} {x y:Int} (h0:0<j) (hx:st[j]? =some x) (hy:st[j-1]? =some y) (h:¬c (x,y)<0):Ij c j st=st:=by
 obtain ⟨m,rfl⟩:∃m,j=m+1:=⟨j-1,by omega⟩
 exact iC hx hy h
theorem tP {st:List Int} {a:Nat} {x y n:Int} (h:∀z∈st,0≤z∧z<n) (hx:0≤x∧x<n) (hy:0≤y∧y<n):∀z∈(st.set a y).set b x,0≤z∧z<n:=fun z hz=>by
 rcases List.mem_or_eq_of_mem_set hz with hz|rfl
 ·
  rcases List.mem_or_eq_of_mem_set hz with hz|rfl
  · exact h z hz
  · exact hy
 · exact hx
end
def lI (c:Int×Int→Int) (l st:List Int):Prop:=st=isB c l l.length
theorem lI.len {c:Int×Int→Int} {l st:List Int} (h:lI c l st):st.length=l.length:=by unfold lI at h;rw [h,Wv]
abbrev InN (N:Nat):={p:Int×Int//(0≤p.1∧p.1<(N:Int))∧0≤p.2∧p.2<(N:Int)}
theorem ABh {l:List Int} {c:Int×Int→Int} {b0 cap N len:Nat} {sp:List Value} (hln:l.length=len) (Mu:len≤19) (hR0:∀x∈l,0≤x∧x<(N:Int)):BP prog 208 [is (.slice (some ⟨b0,0,none⟩) len cap),int 0,int ((len:Nat):Int),Zu prog (fun p:InN N=>[int p.1.1,int p.1.2]) (fun p=>int (c p.1))] (NT) (AF true b0 3 ((l.map (fun x:Int=>[int x])).flatten++sp.map is)) (fun _=>Er b0 3 (fun x:Int=>[int x]) (lI c l) (sp.map is)):=by
 refine BP.of func208 rfl rfl Am fun M0 w0 S rs M1 w1=> ?_
 refine ac ?_
 refine Tr.block (Tr.DI _ (kk [3,2,1,0] rfl) (fun (i:Nat) (st:List Int)=>[(8,int ((i:Nat):Int))]) (fun (i:Nat) (st:List Int)=>Hp M0 w0 S (AF true b0 3 ((st.map (fun x:Int=>[int x])).flatten++sp.map is)::Ai M1 w1::rs)) (fun (i:Nat) (st:List Int)=>(1≤i∧(i≤len∨i=1))∧st=isB c l i∧∀x∈st,0≤x∧x<(N:Int)) (fun (i:Nat) (st:List Int)=>len-i) (1) (l)  (⟨⟨by omega,.inr rfl⟩,rfl,hR0⟩) ⟨⟨_,rfl,int_eq AA⟩,trivial⟩ (fun _ _ h=>h) ?_)
 rintro i st  ⟨⟨hi1,hi2⟩,hst,hR⟩
 have YQ:st.length=len:=by rw [hst,Wv,hln]
 refine an ?_ ?_<;>intro h1 q1
 have hib:i<len:=AH h1
 refine a2 ?_
 refine Tr.block (Tr.DI _ (kk [8,3,2,1,0] rfl) (fun (j:Nat) (Qv:List Int)=>[(9,int ((j:Nat):Int))]) (fun (j:Nat) (Qv:List Int)=>Hp M0 w0 S (AF true b0 3 ((Qv.map (fun x:Int=>[int x])).flatten++sp.map is)::Ai M1 w1::rs)) (fun (j:Nat) (Qv:List Int)=>(j≤i∧Qv.length=len)∧Ij c j Qv=Ij c i st∧∀x∈Qv,0≤x∧x<(N:Int)) (fun (j:Nat) (Qv:List Int)=>j) (i) (st)  (⟨⟨Nat.le_refl _,YQ⟩,rfl,hR⟩) kz (fun _ _ h=>h) ?_)
 rintro j Qv  ⟨⟨hj1,AJI⟩,ABi,hR2⟩
 refine ag ?_ ?_<;>intro h2 q2
 obtain ⟨x,hx⟩:=at_ (l:=Qv) (k:=j) AA
 obtain ⟨y,hy⟩:=at_ (l:=Qv) (k:=j-1) AA
 have hxr:=hR2 x (List.mem_of_getElem? hx)
 have hyr:=hR2 y (List.mem_of_getElem? hy)
 refine ac ?_
 refine cy h2 rfl (BI rfl underlying22 Bi (vl rfl) (vl rfl) AA AA) ?_
 refine cy h2 rfl (CC 0 rfl (BT rfl DL (vl rfl) (Ju (g:=fun x:Int=>int x) (x:=x) VV))) ?_
 refine ac ?_
 refine cy h2 rfl (BI rfl underlying22 Bi (vl rfl) (vl rfl) AA AA) ?_
 refine cy h2 rfl (CC 0 rfl (BT rfl DL (vl rfl) (Ju (g:=fun x:Int=>int x) (x:=y) eC))) ?_
 refine cy h2 rfl (KO (⟨(x,y),⟨hxr,hyr⟩⟩:InN N) rfl (vl rfl) ⟨ke rfl,kz⟩) ?_
 refine ac ?_
 refine wk [34,9,8,3,2,1,0] rfl ?_
 refine Tr.cn rfl ?_ ?_<;>intro h3 q3
 have:=h3
 refine ac ?_
 refine Tr.seq (Tr.block (Tr.rx ?_))
 refine ay ?_
 refine xo rfl (fun _=>BI rfl underlying22 Bi (vl rfl) (vl rfl) AA AA) ?_
 refine JU 0 rfl rfl (BT rfl DL (vl rfl) (Ju (g:=fun x:Int=>int x) (x:=y) eC)) ?_
 refine ay ?_
 refine xo rfl (fun _=>BI rfl underlying22 Bi (vl rfl) (vl rfl) AA AA) ?_
 refine JU 0 rfl rfl (BT rfl DL (vl rfl) (Ju (g:=fun x:Int=>int x) (x:=x) VV)) ?_
 refine xo rfl (fun _=>BI rfl underlying22 Bi (vl rfl) (vl rfl) AA AA) ?_
 refine Cx.DP 0 rfl rfl (BF rfl rfl (vl rfl) (Vo rfl) Bi rfl My (GQ (f:=(fun x:Int=>[int x])) (fun _=>rfl) AA)) ?_
 refine xo rfl (fun _=>BI rfl underlying22 Bi (vl rfl) (vl rfl) AA AA) ?_
 refine Cx.DP 0 rfl rfl (BF rfl rfl (vl rfl) (Vo rfl) Bi rfl (by rw [LH (sz:=1) (fun _=>rfl)];simp only [List.length_set];omega) (GQ (f:=(fun x:Int=>[int x])) (fun _=>rfl) (by simp only [List.length_set];omega))) ?_
 refine Cx.nil ⟨by kernel_rfl,?_⟩
 refine Aw.done UL ?_
 refine ac ?_
 refine wk [9,8,3,2,1,0] rfl ?_
 refine ac ?_
 exact Fin.Cu (j-1) (_)  (⟨⟨⟨by omega,by simp only [List.length_set];exact AJI⟩,by rw [←ABi];exact tM AA hx hy Bh,tP hR2 hxr hyr⟩,by omega⟩) ⟨⟨_,rfl,int_eq AA⟩,kz⟩ (fun _ _ h=>h)
 have:=h3
 refine a2 ?_
 have ABj:Ij c j Qv=Qv:=tO AA hx hy (Int.not_lt.2 Bh)
 exact Fin.Cu (i+1) (Qv)  (⟨⟨⟨by omega,.inl AA⟩,by show Qv=Ij c i (isB c l i);rw [←hst,←ABi,ABj],hR2⟩,by omega⟩) ⟨⟨_,rfl,AG i⟩,kz⟩ (fun _ _ h=>h)
 refine ac ?_
 refine wk [34,9,8,3,2,1,0] rfl ?_
 refine a2 ?_
 have ABj:Ij c j Qv=Qv:=tN AA
 exact Fin.Cu (i+1) (Qv)  (⟨⟨⟨by omega,.inl AA⟩,by show Qv=Ij c i (isB c l i);rw [←hst,←ABi,ABj],hR2⟩,by omega⟩) ⟨⟨_,rfl,AG i⟩,kz⟩ (fun _ _ h=>h)
 have hie:=AJ h1
 refine Tr.exit (Fin.BA (Fin.BA (Fin.Bn ?_)))
 refine Fin.G2 (lI c l) 0 rfl (by unfold lI;rcases Nat.eq_zero_or_pos len with h0_|h0_;(obtain rfl:=List.eq_nil_of_length_eq_zero (hln.trans h0_);rw [hst,show i=1 by omega];rfl);(rw [hst,hln,show i=len by omega])) ?_
 exact Fin.oH rfl
theorem ABk {l:List Int} {c:Int×Int→Int} {b0 cap N len:Nat} {sp:List Value} (hln:l.length=len) (Mu:len≤19) (hR0:∀x∈l,0≤x∧x<(N:Int)):BP prog 165 [is (.slice (some ⟨b0,0,none⟩) len cap),int ((len:Nat):Int),Zu prog (fun p:InN N=>[int p.1.1,int p.1.2]) (fun p=>int (c p.1))] (NT) (AF true b0 3 ((l.map (fun x:Int=>[int x])).flatten++sp.map is)) (fun _=>Er b0 3 (fun x:Int=>[int x]) (lI c l) (sp.map is)):=by
 refine BP.of func165 rfl rfl Am fun M0 w0 S rs M1 w1=> ?_
 refine a2 ?_
 refine Tr.seq (Tr.block (Tr.Ax _ (kk [6,2,1,0] rfl) (fun (u:Unit)=>[(7,int 0),(8,int 20)]) (fun (u:Unit)=>True) (fun (u:Unit)=>0) () (trivial) ⟨kq,kz⟩ ?_))
 rintro u _
 refine an ?_ ?_<;>intro h1 q1
 exfalso;have TQ:=EW.E9 h1;omega
 have ZJ:=h1
 refine ac ?_
 refine ap ?_
 refine TO.F0 0 rfl rfl AB (Ae rfl rfl AB rfl (ABh AA AA Bh) ⟨kq,kz⟩) (TO.Ki 0 rfl fun t1 Te=> ?_)
 have AFy:=Te.len
 refine ap ?_
 refine wk [6,2,1,0] rfl (Tr.block (Tr.Ax _ (kk [2,1,0] rfl) (fun (u:Unit)=>[(6,int 20)]) (fun (u:Unit)=>True) (fun (u:Unit)=>0) () (trivial) kz ?_))
 rintro u _
 refine an ?_ ?_<;>intro h2 q2
 exfalso;have TQ:=EW.E9 h2;omega
 have ZJ:=h2
 refine Tr.exit (Fin.BA (Fin.BA (Fin.Bn (Fin.G2 (lI c l) 0 rfl (Te) (Fin.oH rfl)))))
theorem AFz {l:List Int} {c:Int×Int→Int} {b0 cap N len:Nat} {sp:List Value} (hln:l.length=len) (Mu:len≤19) (hR0:∀x∈l,0≤x∧x<(N:Int)):BP prog 113 [is (.slice (some ⟨b0,0,none⟩) len cap),Zu prog (fun p:InN N=>[int p.1.1,int p.1.2]) (fun p=>int (c p.1))] (NT) (AF true b0 3 ((l.map (fun x:Int=>[int x])).flatten++sp.map is)) (fun _=>Er b0 3 (fun x:Int=>[int x]) (lI c l) (sp.map is)):=by
 refine BP.of func113 rfl rfl Am fun M0 w0 S rs M1 w1=> ?_
 refine ap ?_
 refine tp rfl (LV rfl underlying22 vq) (tm rfl (TO.F0 0 rfl rfl AB (Ae rfl rfl AB rfl (ABk AA AA Bh) ⟨kq,kz⟩) (TO.Ki 0 rfl fun t1 Te=> ?_)))
 have AFy:=Te.len
 refine TO.nil (Fin.G2 (lI c l) 0 rfl (Te) (Fin.oH rfl))
theorem yA {b:Int} (hb:b≤1):A0 prog 208 [slice 1 rows,int 0,int b,any] (NT):=by
 refine fo func208 rfl ⟨rfl,rfl⟩ fun M0 w0=> ?_
 refine ac ?_
 refine Tr.block (Tr.Ax _ (kk [3,2,1,0] rfl) (fun i:Int=>[(8,int i)]) (fun i:Int=>i=1) (fun i:Int=>0) 1 (rfl) kz ?_)
 rintro i hi
 refine an ?_ ?_<;>intro h1 q1
 exfalso;have TQ:=EW.E9 h1;omega
 have ZJ:=h1
 refine Tr.exit (Fin.BA (Fin.BA (Fin.Bn (Fin.AAQ rfl))))
theorem yB {b:Int} (h0:0≤b) (hb:b≤1):A0 prog 165 [slice 1 rows,int b,any] (NT):=by
 refine fo func165 rfl ⟨rfl,rfl⟩ fun M0 w0=> ?_
 refine a2 ?_
 refine Tr.seq (Tr.block (Tr.Ax _ (kk [6,2,1,0] rfl) (fun (u:Unit)=>[(7,int 0),(8,int 20)]) (fun (u:Unit)=>True) (fun (u:Unit)=>0) () (trivial) ⟨kq,kz⟩ ?_))
 rintro u _
 refine an ?_ ?_<;>intro h1 q1
 exfalso;have TQ:=EW.E9 h1;omega
 have ZJ:=h1
 refine a2 ?_
 refine co rfl (Ah rfl (yA AA) ⟨kq,kq,kq,⟨_,rfl,m9 _⟩,trivial⟩) ?_
 refine ac ?_
 refine wk [6,2,1,0] rfl (Tr.block (Tr.Ax _ (kk [2,1,0] rfl) (fun (u:Unit)=>[(6,int 20)]) (fun (u:Unit)=>True) (fun (u:Unit)=>0) () (trivial) kz ?_))
 rintro u _
 refine an ?_ ?_<;>intro h2 q2
 exfalso;have TQ:=EW.E9 h2;omega
 have ZJ:=h2
 refine Tr.exit (Fin.BA (Fin.BA (Fin.Bn (Fin.AAQ rfl))))
theorem ABl (hs:rows.length≤1):A0 prog 113 [slice 1 rows,any] (NT):=by
 refine fo func113 rfl ⟨rfl,rfl⟩ fun M0 w0=> ?_
 refine ac ?_
 refine co rfl (Cq rfl underlying22 vq) (cm rfl (co rfl (Ah rfl (yB (rows:=rows) (b:=(rows.length:Int)) AA AA) ⟨kq,kq,⟨_,rfl,m9 _⟩,trivial⟩) (Ch.nil (Fin.AAQ rfl))))
theorem AF0 {l:List Int} {c:Int×Int→Int} {N:Nat} (hs:l.length≤19) (hR:∀x∈l,0≤x∧x<(N:Int)):BP Tryz.prog 113 [is v,Zu Tryz.prog (fun p:InN N=>[int p.1.1,int p.1.2]) (fun p=>int (c p.1))] NT (BG 3 1 (l.map (fun x:Int=>[int x])) v) (fun _=>Ry 3 1 (fun x:Int=>[int x]) (lI c l) v):=by
 refine BP.ve (fun h=>⟨?_,?_⟩) (fun b cap sp=>AFz rfl hs hR) (fun st h=>h.len) ⟨_,Tryz.func113,rfl,rfl⟩
 ·
  refine A0.le (ABl (rows:=[]) AB) ?_ (Pr.le_refl _)
  rintro M w vs hv
  match vs,hv with
  |[a,b],⟨h1,h2,h3⟩=>exact ⟨AP _ M w a h1,trivial,h3⟩
 · subst h;rfl
def cF (d:List Int) (p:Int×Int):Int:=KH (d.getD p.1.toNat 0) (d.getD p.2.toNat 0)
def Hy (n:Nat):List Int:=(List.range n).map fun i:Nat=>(i:Int)
theorem Gl (n:Nat):(Hy n).length=n:=by unfold Hy;rw [List.length_map,List.length_range]
theorem lJ (n:Nat):Hy (n+1)=Hy n++[(n:Int)]:=by unfold Hy;rw [List.range_succ,List.map_append];rfl
theorem iE (h:i<n):(Hy n)[i]? =some (i:Int):=by unfold Hy;rw [List.getElem?_map,List.getElem?_range h];rfl
theorem Y0:∀x∈Hy n,0≤x∧x<(n:Int):=fun x hx=>by
 unfold Hy at hx
 obtain ⟨i,hi,rfl⟩:=List.mem_map.1 hx
 have:=List.mem_range.1 hi
 omega
def HM (d:List Int):List Int:=isB (cF d) (Hy d.length) d.length
theorem yC {st:List Int} (h:lI (cF d) (Hy d.length) st):st=HM d:=by unfold lI at h;rw [Gl] at h;exact h
def Ww (d:List Int) (a b:Int):Prop:=d.getD a.toNat 0<d.getD b.toNat 0∨d.getD a.toNat 0=d.getD b.toNat 0∧a<b
theorem yD {a b:Int}:KH a b<0↔a<b:=by unfold KH;split;omega;split<;>omega
theorem iF (d:List Int):(HM d).Pairwise (Ww d)∧(HM d).Perm (Hy d.length):=by
 obtain ⟨st, h1, h2, h3⟩ := tL (c := cF d) (R := Ww d) (l := Hy d.length) (fun a b e h1 h2 => by unfold Ww at *; omega) (fun i j x y hij hx hy => by
  have hi:=BH hx
  have hj:=BH hy
  rw [Gl] at hi hj
  rw [iE hi] at hx
  rw [iE hj] at hy
  cases hx;cases hy
  unfold cF Ww
  rw [yD]
  simp only
  omega) d.length VU
 have h4:(Hy d.length).drop d.length=[]:=List.drop_eq_nil_of_le VU
 have h5:(Hy d.length).take d.length=Hy d.length:=List.take_of_length_le VU
 rw [h4,List.append_nil] at h1
 rw [h5] at h3
 unfold HM
 rw [h1]
 exact ⟨h2,h3⟩
theorem lK (p:InN d.length):A0 prog 114 [int p.1.1,int p.1.2,ref [CF l,reqs r,ints d]] (int (cF d p.1)):=by
 refine fo func114 rfl ⟨rfl,rfl⟩ fun M0 w0=> ?_
 obtain ⟨Te,hp2⟩:=p.2
 obtain ⟨x,hx⟩:=at_ (l:=d) (k:=p.1.1.toNat) AA
 obtain ⟨y,hy⟩:=at_ (l:=d) (k:=p.1.2.toNat) AA
 refine a2 ?_
 refine co rfl (AD rfl underlying22 Bi vq vq AA (Bb hx)) ?_
 refine ac ?_
 refine co rfl (AD rfl underlying22 Bi vq vq AA (Bb hy)) (co rfl (Iv rfl DL rfl) ?_)
 refine co rfl (Bq (aF (a:=x) (b:=y)) rfl rfl rfl) ?_
 refine a2 ?_
 · refine int_eq ?_;unfold cF;rw [List.getD_eq_getElem?_getD,List.getD_eq_getElem?_getD,hx,hy];rfl
theorem lM:Entry Tryz.prog 114:=⟨_,Tryz.func114,rfl,rfl⟩
theorem tQ (hd:d.length≤19):A0 prog 60 [agg [CF l,reqs r,ints d]] (ints (HM d)):=by
 refine fo func60 rfl ⟨rfl,rfl⟩ fun M0 w0=> ?_
 refine a3 ?_
 refine Tr.block (Tr.GP 3 1 (Tr.EC _ (kk [7,1] rfl) (fun k v=>[(8,int ((k:Nat):Int)),(3,AV v (lens ((Hy k).map fun n=>[int n]).length))]) (fun k v=>Hp M0 w0 FO ([BG 3 1 ((Hy k).map fun n=>[int n]) v])) (fun k:Nat=>k≤(d).length) (fun k:Nat=>(d).length-k) 0 (.slice none 0 0) (Nat.zero_le _) ⟨ke rfl,⟨_,rfl,Gk (by rfl)⟩,trivial⟩ (fun _ _ h=>h) ?_))
 rintro k v BJ
 refine ac ?_
 refine Tr.seq ?_
 refine Tr.cn rfl ?_ ?_<;>intro h1 q1
 have AZ:k<(d).length:=AH h1
 obtain ⟨x,AX⟩:=at_ AZ
 refine a2 ?_
 refine ap ?_
 refine TO.Df 0 rfl rfl AB (Fg rfl rfl AB rfl underlying22 Bi G_ z3 rfl AB AB (vl rfl) (Kf rfl) (AW fun _=>rfl) (Nat.zero_lt_succ _) (by simp only [List.length_map,List.length_cons,List.length_nil,Gl];unfold maxLen;omega) (by simp only [List.length_map,List.length_cons,List.length_nil,Gl];omega)) (fun v1=> ?_)
 refine ap ?_
 refine ac ?_
 rw [show (Hy k).map (fun n=>[int n])++[[int ((k:Nat):Int)]]=(Hy (k+1)).map (fun n=>[int n]) by rw [lJ,List.map_append];rfl]
 exact Fin.C8 (k+1) v1 (⟨AZ,by omega⟩) ⟨⟨_,rfl,AG k⟩,⟨_,rfl,DE (by simp [Gl])⟩,kz⟩ (fun _ _ h=>h)
 have A8:k=(d).length:=by have:=AJ h1;omega
 subst A8
 refine ac ?_
 refine ap ?_
 refine TO.F0 0 rfl rfl AB (Ae rfl rfl AB rfl (AF0 (l:=Hy d.length) (c:=cF d) (N:=d.length) (by rw [Gl];exact hd) Y0) ⟨(Ka rfl),⟨_,rfl,EK lM (fun p=>lK p)⟩,trivial⟩) ?_
 refine TO.oY 0 3 rfl rfl (fun _=>rfl) (fun t1 Te=> ?_)
 have AFy:=Te.len
 refine ap ?_
 refine a2 ?_
 · rw [←yC Te];exact Ao _ _
end Go.Proofs.YtmocaapoeefgkaaGreatDoor
namespace Cp
open Go Go.RowKit Go.Great
variable {xs:Array Operand} {ts:Array TypeId} {f:FuncId} {rows:List (List Pr)} {args ps:List Pr} {rs':List At} {j:Nat} {x:Operand} {p q:Pr} {R:At} {e:TypeId}
section
variable {P:Program} {n:Fm} {E:Env} {M0:Av} {w0:World} {S:Nat→Prop} {o:Oper}
theorem tR {s:Nat} {R:SR} {p1:Pr} {R':Value→At} (hd:o.dst=none) (h1:E.lookup s=some p1) (hls:s∈looks o) (hg:o.guard=none) (h:∀v,DH P M0 w0 S n j R (SR.c (R' v)) o ((s,AV v p1)::E) any):DH P M0 w0 S n j R ⟨s,R'⟩ o E any:=by
 refine ⟨hg,fun M w a rs hsz he hI hj=> ?_⟩
 refine EB.conv (Pr.le_refl _) (fun v=> ?_) ((h (a.tmps.getD s undef)).2 M w a rs hsz (FX he s (he s p1 hls h1)) hI hj)
 rw [hd];rfl
theorem ABm {s t:Nat} {f:Value→At} {p1:Pr} {R':Value→Value→At} (hd:o.dst=none) (h1:E.lookup t=some p1) (hlt:t∈looks o) (hg:o.guard=none) (h:∀u v,DH P M0 w0 S n j (SR.c (f u)) (SR.c (R' u v)) o ((t,AV v p1)::E) any):DH P M0 w0 S n j ⟨s,f⟩ ⟨.two t s,Ug R'⟩ o E any:=by
 refine ⟨hg,fun M w a rs hsz he hI hj=> ?_⟩
 refine EB.conv (Pr.le_refl _) (fun v=> ?_) ((h (a.tmps.getD s undef) (a.tmps.getD t undef)).2 M w a rs hsz (FX he t (he t p1 hlt h1)) hI hj)
 rw [Nt,hd];rfl
theorem Y1 {res:Pr} (hb:R.blk=none) (ho:o.op= .call { callee:= .value (.func f),args:=xs,argTypes:=ts }) (hf:BP P f ps res R (fun _=>R)) (hv:Gy E xs.toList ps):KW P M0 w0 S j (SR.c R) o E res:=by
 intro M w a rs he hI hj
 have h1:=Gy.FN (o:=o) he (xs:=xs.toList) (fun x hx=>by simp [ho,Op.operands,Call.operands];exact .inr FL) hv
 have hrun:(execOp a.eval o).run P w= .ok (.enter f (xs.toList.map a.eval).toArray) w:=by
  simp [execOp,ho,resolve,Deferred.ofValue,Act.eval,invoke,DD hf.1,Fz xs]
 rw [hrun]
 have hj':rs[j]? =some R:=hj
 refine ⟨Below.refl _ _,(hf.2 M w FO [] M w _ ((A7.begin hI.bd).Im (r:=R) hb (hI.hold _ (List.mem_of_getElem? hj')).1) h1).mono ?_⟩
 rintro e w' ⟨v,M',rfl,h2,h3,h4⟩
 exact ⟨v,rfl,res.st _ _ _ _ _ (Ext.less h4.m) h2,h4.below⟩
def lN (u:Value):Value:=match u with| .tuple t=>t.getD 0 undef|_=>undef
theorem ABn {I:C1} {u:Value} (ho:o.op= .extract x 0) (hx:VL E x (AV u (C_ (p::ps)))):Ac P I o E (AV (lN u) p):=
 Ac.same fun M w a he _=>by
  obtain ⟨h0,cs,h1,h2⟩:=hx.ev he Au
  match cs,h2 with
  |c::cs,⟨h3,_⟩=>
   have e1:u= .tuple (c::cs).toArray:=h0.symm.trans h1
   exact ⟨c,by simp [execOp,ho,h1,Instr.extract],by rw [e1];rfl,h3⟩
theorem Wx {d s:Nat} {f g:Value→At} {p0:Pr} (φ:Value→Value) (hg:o.guard=none) (hd:o.dst=some d) (hn:d<n) (h1:E.lookup s=some p0) (hls:s∈looks o) (hfg:∀u,f u=g (φ u)) (h:∀u I,Ac P I o ((s,AV u p0)::E) (AV (φ u) p)):DH P M0 w0 S n j ⟨s,f⟩ ⟨d,g⟩ o E p:=by
 refine ⟨hg,fun M w a rs hsz he hI hj=> ?_⟩
 have hj':rs[j]? =some (f (a.tmps.getD s undef)):=hj
 have hat:∀v,SR.at_ (a.put o.dst v) ⟨d,g⟩=g v:=fun v=>by show g ((a.put o.dst v).tmps.getD d undef)=_;rw [hd,Bz Gx]
 have To:=h (a.tmps.getD s undef) (Hp M0 w0 S rs) M w a (FX he s (he s p0 hls h1)) hI
 revert To
 generalize (execOp a.eval o).run P w=r
 intro To
 have key:∀v w',(AV (φ (a.tmps.getD s undef)) p).h M w' v→Below w.heap.size w w'→∃M',p.h M' w' v∧Ext M w M' w'∧A7 M0 w0 S (rs.set j (SR.at_ (a.put o.dst v) ⟨d,g⟩)) M' w':=fun v w' hv hb=>by
  refine ⟨M,hv.2,Ext.below hb,?_⟩
  have e1:rs.set j (g v)=rs:=by
   rw [show v=φ (a.tmps.getD s undef) from hv.1,←hfg]
   apply List.ext_getElem?
   intro m
   rw [List.getElem?_set]
   by_cases him:j=m
   ·
    subst him
    have hl:=BH hj'
    rw [if_pos rfl,if_pos hl,hj']
   · rw [if_neg him]
  rw [hat,e1]
  exact (Hp M0 w0 S rs).st _ _ _ hb hI
 cases r with
 |halt x w'=>exact To
 |ok x w'=>
  cases x
  case value v=>exact key v w' To.1 To.2
  case skip=>exact key undef w' To.1 To.2
  case enter f args=>
   obtain ⟨hb,hc⟩:=To
   refine Calls.mono hc ?_
   rintro e w'' ⟨v,g0,g1,g2⟩
   obtain ⟨M',k1,k2,k3⟩:=key v w'' g1 (KT hb g2)
   exact ⟨v,M',g0,k1,k2,k3⟩
  all_goals exact To
def N0 (T R:At):At:=⟨R.blk,R.new,fun M w=>(T.blk=none∧T.h M w)∧R.h M w,fun M w M' w' he hk h=>⟨⟨h.1.1,T.st M w M' w' he (fun b hb=>by rw [h.1.1] at hb;cases hb) h.1.2⟩,R.st M w M' w' he hk h.2⟩⟩
theorem Ef.both {T:At} (hT:T.blk=none) {k:Pr} {R:Value→At} (h:Ef (α:=Value) P f args [T] (fun _=>True) (fun x=>C_ [AV x p,k]) (fun x=>[T,R x])):BP P f args (C_ [p,k]) T (fun u=>N0 T (R (lN u))):=by
 refine ⟨h.1,fun M0 w0 S rs M w vs hI hv=>(h.2 M0 w0 S rs M w vs hI hv).mono ?_⟩
 rintro e' w' ⟨u,M',x,rfl,_,h1,h2,h3⟩
 have h3:A7 M0 w0 S (T::R x::rs) M' w':=h3
 obtain ⟨cs,rfl,g2⟩:=h1
 match cs,g2 with
 |[a,b],⟨⟨e1,g3⟩,g4,_⟩=>
  have e1:a=x:=e1
  subst e1
  have hh:=(h3.hold T (List.mem_cons_self ..)).1
  have h4:=(A7.perm (List.Perm.swap _ _ _) h3).Ce (i:=0) (r':=N0 T (R a)) rfl rfl rfl ⟨⟨hT,hh⟩,(h3.hold (R a) (List.mem_cons_of_mem _ (List.mem_cons_self ..))).1⟩
  exact ⟨_,M',rfl,⟨[a,b],rfl,g3,g4,trivial⟩,h2,(A7.perm (List.Perm.swap _ _ _) h4).J0⟩
end
section
variable {P:Program} {n:Fm} {E:Env} {M0:Av} {w0:World} {S:Nat→Prop} {rs:List At}
theorem Fin.ABo {Q:Exit→Act→World→Prop} {x:Exit} {T:At} (j:Nat) (hj:rs[j]? =some (N0 T R)) (k:Fin n E (Hp M0 w0 S (T::rs.set j R)) Q x):Fin n E (Hp M0 w0 S rs) Q x:=
 Fin.conv (fun a w hs=>by
  obtain ⟨M,h1,h2,h3,h4⟩:=hs
  have h4:A7 M0 w0 S rs M w:=h4
  obtain ⟨⟨g1,g2⟩,g3⟩:=(h4.hold _ (List.mem_of_getElem? hj)).1
  exact ⟨M,h1,h2,h3,(h4.Ce (r':=R) hj rfl rfl g3).Im g1 g2⟩) k
theorem Fin.ABp {Q:Exit→Act→World→Prop} {x:Exit} {b cap sz:Nat} {sp:List Value} (j:Nat) (hj:rs[j]? =some (AF true b e (rows.flatten++sp.map is))) (hc:rows.length≤cap) (hm:cap≤maxLen) (hq:sp.length=(cap-rows.length)*sz) (k:Fin n E (Hp M0 w0 S (rs.set j (BG e sz rows (.slice (some ⟨b,0,none⟩) rows.length cap)))) Q x):Fin n E (Hp M0 w0 S rs) Q x:=
 Fin.conv (fun a w hs=>by
  obtain ⟨M,h1,h2,h3,h4⟩:=hs
  have h4:A7 M0 w0 S rs M w:=h4
  exact ⟨M,h1,h2,h3,h4.Ce hj rfl rfl (.inr ⟨b,cap,sp,rfl,hc,hm,hq,(h4.hold _ (List.mem_of_getElem? hj)).1⟩)⟩) k
end
section
variable {P:Program} {g:Func} {fz:Nat} {E:Env} {M0 M1:Av} {w0 w1:World} {S:Nat→Prop} {rs:List At}
theorem Fin.tS {α:Type} {C:α→Prop} {rv:ResultVar} {res:α→Pr} {post:α→List At} (x:α) (dr:List At) (hr:g.results= #[rv]) (h:AL P E rs' rv q) (hc:C x) (hl:Pr.le q (res x)) (hp:rs'.Perm (dr++(post x++Ai M1 w1::rs))):
  Fin ⟨fz,[]⟩ E (Hp M0 w0 S rs') (bodyPost P g (PM M0 w0 S rs M1 w1 C res post)) .ret:=by
 rintro a w ⟨M,_,hd,he,hi⟩
 have hi:A7 M0 w0 S rs' M w:=hi
 obtain ⟨u,hu,hp'⟩:=h M w a he (fun q hq=>(hi.hold q hq).1)
 obtain ⟨h1,h2⟩:=GR (A7.oa (A7.perm hp hi))
 exact ⟨hd,u,results1 hr hu,_,M,x,rfl,hc,hl _ _ _ hp',h1,h2⟩
end
end Cp
namespace Go.Proofs.YtmocaapoeefgkaaGreatDoor
open Go Go.RowKit Cp Go.Proofs.Tryz
variable {sp:Bool} {day:Int} {l:List Bm} {d s tr:List Int} {r:List BM} {i j k m n:Nat}
theorem yE {β:Type} {p:β→Bool} {l:List β} (h:¬idx p l= -1):0≤idx p l∧(idx p l).toNat<l.length∧Xo p l l (idx p l).toNat ((idx p l).toNat+1):=by
 unfold idx at h ⊢
 cases hf:l.findIdx? p with
 |none=>rw [hf] at h;exact absurd rfl h
 |some i=>
  rw [List.findIdx?_eq_some_iff_getElem] at hf
  obtain ⟨h1,h2,h3⟩:=hf
  refine ⟨by simp,by simpa using h1,rfl,by simp,by simp only [Int.toNat_natCast];omega,?_,rfl⟩
  simp only [Int.toNat_natCast]
  rw [List.take_add_one,List.getElem?_eq_getElem h1,List.filter_append]
  have:(l.take i).filter (fun x=> !p x)=l.take i:=by
   rw [List.filter_eq_self];intro x hx
   obtain ⟨j,hj,rfl⟩:=List.mem_iff_getElem.1 hx
   rw [List.length_take] at hj
   have:=h3 j AA
   simpa using this
  rw [this];simp [h2]
theorem yF {β:Type} {p:β→Bool} {l:List β} (h:idx p l= -1):l.filter (fun x=> !p x)=l:=by
 unfold idx at h
 cases hf:l.findIdx? p with
 |none=>rw [List.findIdx?_eq_none_iff] at hf;rw [List.filter_eq_self];intro x hx;simpa using hf x hx
 |some i=>rw [hf] at h;exact absurd h AO
abbrev Qw (n:Nat):={i:Int//0≤i∧i<(n:Int)}
abbrev JH {n:Nat} (i:Qw n):List Pr:=[int i.1]
abbrev AF1 {n:Nat} (l:List (Qw n)):Pr:=slice 1 (l.map JH)
theorem toZ {n:Nat}:∀{L:List Int},(∀x∈L,0≤x∧x<(n:Int))→∃l:List (Qw n),l.map (·.1)=L
 |[],_=>⟨[],rfl⟩
 |x::L,h=>by
  obtain ⟨l,hl⟩:=toZ (L:=L) (fun y hy=>h y (List.mem_cons_of_mem _ hy))
  exact ⟨⟨x,h x (List.mem_cons_self ..)⟩::l,by rw [List.map_cons,hl]⟩
theorem iG (l:List (Qw n)):(l.map (·.1)).map (fun n=>[int n])=l.map JH:=by rw [List.map_map];rfl
theorem zQ (l:List (Qw n)) (q:Int→Bool):(l.filter fun x=>q x.1).map (·.1)=(l.map (·.1)).filter q:=by
 induction l with
 |nil=>rfl
 |cons a l ih=>rw [List.map_cons,List.filter_cons,List.filter_cons];split<;>simp [ih]
theorem N1 {l:List (Qw n)} {p:Qw n→Bool}:A0 prog 167 [AF1 l,Zu prog (fun x:Qw n=>[int x.1]) (fun x=>bool (p x))] (int (idx p l)):=by
 refine fo func167 rfl ⟨rfl,rfl⟩ fun M0 w0=>(Tr.CG 0 rfl fun DN=> ?_)
 refine a2 ?_
 refine Tr.block (Tr.Ax _ (kk [7,1,0] rfl) (fun k:Nat=>[(8,int ((k:Nat):Int))]) (fun k:Nat=>k≤(l).length∧(∀j y,j<k→l[j]? =some y→p y=false)) (fun k:Nat=>(l).length-k) 0 (⟨Nat.zero_le _,fun j y hj=>absurd hj AA⟩) kz ?_)
 rintro k ⟨BJ,AQ⟩
 refine ac ?_
 refine Tr.seq ?_
 refine Tr.cn rfl ?_ ?_<;>intro h1 q1
 have AZ:k<(l).length:=AH h1
 obtain ⟨x,AX⟩:=at_ AZ
 · repeat' first|exact int_eq (El AX Bh AQ)|exact Fin.AM (k+1) ⟨⟨AZ,DR AX Bh AQ⟩,by omega⟩ ⟨⟨_,rfl,AG k⟩,kz⟩|refine co rfl (AD rfl underlying51 Bi vq vq AA CX) ?_|refine co rfl (Iv rfl DL rfl) (co rfl (KO x rfl vq kz) ?_)|refine ac ?_|(refine Tr.cn rfl ?_ ?_<;>intro h q)
 have A8:k=(l).length:=by have:=AJ h1;omega
 subst A8
 refine a3 ?_
 · exact int_eq (F8 AQ)
theorem Uz {l:List (Qw n)} {p:Qw n→Bool} {b cap:Nat} {sp:List Value} (hc:(l.map JH).length≤cap) (hm:cap≤maxLen) (hq:sp.length=(cap-(l.map JH).length)*1):BP prog 118 [is (.slice (some ⟨b,0,none⟩) (l.map JH).length cap),Zu prog (fun x:Qw n=>[int x.1]) (fun x=>bool (p x))] (is (.slice (some ⟨b,0,none⟩) ((l.filter fun x=> !p x).map JH).length cap)) (AF true b 3 ((l.map JH).flatten++sp.map is)) (fun _=>AF true b 3 (((l.filter fun x=> !p x).map JH).flatten++((List.replicate (l.length-(l.filter fun x=> !p x).length) [int 0]).flatten++sp.map is))):=by
 refine BP.of func118 rfl rfl Am fun M0 w0 S rs M1 w1=> ?_
 have hlm:(l.map JH).length=l.length:=List.length_map ..
 have hmx:cap≤9223372036854775807:=by unfold maxLen at hm;omega
 refine ac ?_
 refine ap ?_
 refine TO.F0 0 rfl rfl AB (vV (l.map JH) rfl rfl AB rfl (N1 (l:=l) (p:=p)) (AW fun _=>rfl) hc hm (by rw [List.length_map];exact hq) ⟨.inr ⟨(vl rfl),Ao _ _⟩,.inl (ke rfl),trivial⟩) ?_
 refine ap ?_
 refine an ?_ ?_<;>intro h1 q1
 have hno:=yF (p:=p) (l:=l) Gb
 refine ac ?_
 refine Tr.ret (Fin.AE ?_)
 refine Fin.EV rfl rfl ?_ (fun _ _ _ _=>by rw [hno,Nat.sub_self];rfl)
 · rw [hno];exact Lr
 obtain ⟨hi0,Gm,b_⟩:=yE (p:=p) (l:=l) Gb
 refine a2 ?_
 refine Tr.block (Tr.Kc _ (kk [1,0] rfl) (fun (st:List (Qw n)) (i:Nat) (j:Nat)=>[(5,int ((i:Nat):Int)),(6,int ((j:Nat):Int))]) (fun (st:List (Qw n)) (i:Nat) (j:Nat)=>Hp M0 w0 S (AF true b 3 ((st.map JH).flatten++sp.map is)::Ai M1 w1::rs)) (fun (st:List (Qw n)) (i:Nat) (j:Nat)=>Xo p l st i j) (fun (st:List (Qw n)) (i:Nat) (j:Nat)=>l.length-j) (l) ((idx p l).toNat) ((idx p l).toNat+1)  (b_) ⟨⟨_,rfl,int_eq AA⟩,⟨_,rfl,int_eq AA⟩,trivial⟩ (fun _ _ h=>h) ?_)
 rintro st i j  b_
 obtain ⟨YQ,hij,hjl,htk,hdr⟩:=id b_
 refine ac ?_
 refine co rfl (LV rfl underlying51 (vl rfl)) ?_
 refine an ?_ ?_<;>intro h2 q2
 have AJJ:j<l.length:=by have:=AH h2;omega
 obtain ⟨x,hlx⟩:=at_ (l:=l) (k:=j) AJJ
 have hx:st[j]? =some x:=(AAT b_).trans hlx
 refine a2 ?_
 refine co rfl (BI rfl underlying51 Bi (vl rfl) (vl rfl) AA AA) ?_
 refine co rfl (CC 0 rfl (BT rfl DL (vl rfl) (Xp (f:=JH) (fun _=>rfl) VV rfl))) ?_
 refine a2 ?_
 refine co rfl (KO x rfl (vl rfl) kz) ?_
 refine ac ?_
 refine wk [29,7,6,5,1,0] rfl ?_
 refine Tr.cn rfl ?_ ?_<;>intro h3 q3
 refine ap ?_
 refine tp rfl (BI rfl underlying51 Bi (vl rfl) (vl rfl) AA AA) ?_
 refine TO.DP 0 rfl rfl (BF rfl rfl (vl rfl) (Vo rfl) Bi rfl My (Z7 (f:=JH) (x:=x) (fun _=>rfl) AA)) ?_
 refine ap ?_
 refine a2 ?_
 exact Fin.C4 (st.set i x) (i+1) (j+1)  (⟨oQ b_ hlx Bp,by omega⟩) ⟨⟨_,rfl,AG i⟩,⟨_,rfl,AG j⟩,kz⟩ (fun _ _ h=>h)
 refine a2 ?_
 exact Fin.C4 (st) (i) (j+1)  (⟨oV b_ hlx Bp,by omega⟩) ⟨ke rfl,⟨_,rfl,AG j⟩,kz⟩ (fun _ _ h=>h)
 have hje:j=l.length:=by have:=AJ h2;omega
 subst hje
 obtain ⟨he1,he2,he3,he4⟩:=vY b_
 refine ac ?_
 refine ap ?_
 refine tp rfl (Td rfl underlying51 Bi (vl rfl) (vl rfl) AA AA AA) ?_
 refine TO.DP 0 rfl rfl (oJ rfl rfl underlying51 Bi z3 rfl AB AB (vl rfl) AA My (V4 (f:=JH) (fun _=>rfl) rfl AA AA)) ?_
 refine ap ?_
 refine ac ?_
 refine co rfl (PL rfl underlying51 Bi (vl rfl) (vl rfl) AA AA AA AA) ?_
 refine ac ?_
 refine wk [4] rfl (Tr.ret ?_)
 refine Fin.EV rfl rfl ?_ (fun _ _ _ _=>by rw [←he2,←he1,←he3,List.append_assoc];rfl)
 · refine Pr.le_of_eq ?_;rw [List.length_map,←he2,Int.toNat_natCast]
theorem TG {p:Qw n→Bool}:A0 prog 118 [is (.slice none 0 0),Zu prog (fun x:Qw n=>[int x.1]) (fun x=>bool (p x))] (is (.slice none 0 0)):=by
 refine fo func118 rfl ⟨rfl,rfl⟩ fun M0 w0=> ?_
 · repeat' first|exact Lr|(exfalso;simp [idx] at h)|refine co rfl (Ah rfl (N1 (l:=[]) (p:=p)) ⟨⟨_,rfl,AP 1⟩,kz⟩) ?_|refine ac ?_|(refine Tr.cn rfl ?_ ?_<;>intro h q)
theorem iH (x:Qw d.length):A0 prog 119 [int x.1,ref [CF l,reqs r,ints d],ref [int day]] (bool (decide (d.getD x.1.toNat 0>day))):=by
 refine fo func119 rfl ⟨rfl,rfl⟩ fun M0 w0=> ?_
 have hxp:=x.2
 have hdx:=Cv (l:=d) (i:=x.1.toNat) AA
 refine a2 ?_
 refine co rfl (AD rfl underlying22 Bi vq vq AA (Bb hdx)) ?_
 refine a2 ?_
 · exact Lr
theorem iI:Entry Tryz.prog 119:=⟨_,Tryz.func119,rfl,rfl⟩
def cH (r:List BM) (d s:List Int):Int:=if Ej (d.length:Nat) r s=0 then 0 else 46
def FA (r:List BM) (d s:List Int) (day:Int):List Int:=(Fo (d.length:Nat) r s).filter fun i=> !decide (d.getD i.toNat 0>day)
theorem Qx:∀x∈Fo (n:Int) r s,0≤x∧x<(n:Int):=fun x hx=>by
 unfold Fo at hx
 split at hx
 ·
  unfold D3 at hx
  obtain ⟨i,hi,rfl⟩:=List.mem_map.1 hx
  have:=List.mem_range.1 (List.mem_filter.1 hi).1
  omega
 · cases hx
theorem iJ (h:Ej (d.length:Nat) r s=0):cH r d s=0:=by unfold cH;rw [if_pos h]
theorem tT (h:Ej (d.length:Nat) r s≠0):cH r d s=46∧FA r d s day=[]:=by
 unfold cH FA;rw [if_neg h,Wk rfl h];exact ⟨rfl,rfl⟩
theorem tU (k:Nat) (sp:List Value):(List.replicate k [int 0]).flatten++sp.map is=((List.replicate k (Value.int .i64 0))++sp).map is:=by rw [List.flatten_replicate_singleton,List.map_append,List.map_replicate]
theorem ABq {cap:Nat} (h1:n≤cap) (h2:m≤n):(n-m)*1+(cap-n)*1=(cap-m)*1:=by omega
theorem yG:Ef (α:=Value) prog 63 [agg [CF l,reqs r,ints d],ints s,int day] [CE] (fun _=>True) (fun v=>C_ [AV v (lens ((FA r d s day).map (fun n=>[int n])).length),int (cH r d s)]) (fun v=>[CE,BG 3 1 ((FA r d s day).map (fun n=>[int n])) v]):=by
 refine Ef.of func63 rfl rfl Am fun M0 w0 S rs M1 w1=> ?_
 obtain ⟨lz,hlz⟩:=toZ (Qx (n:=d.length) (r:=r) (s:=s))
 have hfz:((lz.filter fun x=> !decide (d.getD x.1.toNat 0>day)).map JH)=(FA r d s day).map (fun n=>[int n]):=by rw [←iG];unfold FA;rw [←hlz];exact congrArg (List.map fun n=>[int n]) (zQ lz (fun i=> !decide (d.getD i.toNat 0>day)))
 refine ac ?_
 refine ap ?_
 refine TO.Gs _ rfl rfl AB rfl (kE (n:=((d.length:Nat):Int)) (l:=r) (s:=s)) ⟨kq,kz⟩ ((CH (j:=0) rfl).trans (List.Perm.cons _ (List.Perm.refl _))) (fun x1 _=> ?_)
 refine ap ?_
 refine wk [9,8,5,3] rfl ?_
 refine an ?_ ?_<;>intro h1 q1
 obtain ⟨hd1,hd2⟩:=tT (r:=r) (d:=d) (s:=s) (day:=day) Gb
 refine ac ?_
 refine Tr.ret (Fin.AE (Fin.GP 3 1 (Fin.G3 ?_)))
 refine Fin.GA 1 (BG 3 1 ((FA r d s day).map (fun n=>[int n])) (.slice none 0 0)) rfl (by rw [hd2];rfl) ?_
 refine Fin.drop 2 (Fin.I0 ((.slice none 0 0)) rfl (AL.tmp rfl Lr) (AL.tmp rfl Lr) trivial ?_ (List.Perm.refl _))
 · exact Al ⟨Gk (by rw [hd2];rfl),int_eq hd1.symm,trivial⟩
 have ha0:Ej ((d.length:Nat):Int) r s=0:=by simpa using h1
 refine ac ?_
 refine Tr.seq (Tr.YY 1 rfl (fun zU ABr=> ?_) ?_)
 subst ABr
 refine Tr.re 8 rfl (Ct _ _:Pr.le _ (is (.slice none 0 0))) ?_
 refine ac ?_
 refine co rfl (Ah rfl (TG (p:=(fun x:Qw d.length=>decide (d.getD x.1.toNat 0>day)))) ⟨kq,⟨_,rfl,EK iI (fun x=>iH x)⟩,trivial⟩) ?_
 refine ac ?_
 refine Tr.ret (Fin.GP 3 1 (Fin.G3 ?_))
 refine Fin.GA 1 (BG 3 1 ((FA r d s day).map (fun n=>[int n])) (.slice none 0 0)) rfl dR ?_
 refine Fin.drop 2 (Fin.I0 ((.slice none 0 0)) rfl (AL.tmp rfl Lr) (AL.tmp rfl Lr) trivial ?_ (List.Perm.refl _))
 · exact Al ⟨Gk dR,int_eq (iJ ha0).symm,trivial⟩
 refine Tr.PJ 1 rfl fun b1 ABs sp1 XH hg1 hm1 hs1=> ?_
 subst XH
 rw [←hlz,iG] at hg1 hs1 ⊢
 refine ap ?_
 refine TO.F0 1 rfl rfl AB (Ae rfl rfl AB rfl (Uz (l:=lz) (p:=(fun x:Qw d.length=>decide (d.getD x.1.toNat 0>day))) (sp:=sp1) hg1 hm1 hs1) ⟨FC,⟨_,rfl,EK iI (fun x=>iH x)⟩,trivial⟩) ?_
 refine ap ?_
 refine Tr.ret ?_
 have AKi:(lz.filter fun x=> !decide (d.getD x.1.toNat 0>day)).length≤lz.length:=List.length_filter_le _ _
 have AJK:=hg1
 rw [List.length_map] at AJK
 refine Fin.ABp (sz:=1) (rows:=(lz.filter fun x=> !decide (d.getD x.1.toNat 0>day)).map JH) (sp:=List.replicate (lz.length-(lz.filter fun x=> !decide (d.getD x.1.toNat 0>day)).length) (.int .i64 0)++sp1) 1 (by rw [←tU];rfl) B8 hm1 (by rw [List.length_append,List.length_replicate,hs1,List.length_map,List.length_map];omega) ?_
 refine Fin.GA 1 (BG 3 1 ((FA r d s day).map (fun n=>[int n])) (.slice (some ⟨b1,0,none⟩) ((lz.filter fun x=> !decide (d.getD x.1.toNat 0>day)).map JH).length ABs)) rfl (by rw [hfz]) (Fin.I0 ((.slice (some ⟨b1,0,none⟩) ((lz.filter fun x=> !decide (d.getD x.1.toNat 0>day)).map JH).length ABs)) rfl (AL.tmp rfl Lr) (AL.tmp rfl Lr) trivial ?_ (List.Perm.refl _))
 · exact Al ⟨fun _ _ _ h=>⟨h,_,_,(show _=_ from h).trans (by rw [hfz])⟩,int_eq (iJ ha0).symm,trivial⟩
-- AJL to an ascending set (behind Rq.lean)
theorem TH {x:Int}:∀(s q:List Int),x∉s→s.foldl (Du x true) (q,true)=(q++s,true)
 |[],q,_=>by simp
 |y::s,q,h=>by
  have hy:y≠x:=fun e=>h (by rw [e];exact List.mem_cons_self ..)
  rw [List.foldl_cons,show Du x true (q,true) y=(q++[y],true) by unfold Du;rw [if_neg hy];simp]
  rw [TH s (q++[y]) (fun hh=>h (List.mem_cons_of_mem _ hh))];simp
theorem iK {x:Int}:∀(s acc:List Int),(acc++s).Pairwise (· < ·)→x∉s→(∀y∈acc,y<x)→(if (s.foldl (Du x true) (acc,false)).2=false then (s.foldl (Du x true) (acc,false)).1++[x] else (s.foldl (Du x true) (acc,false)).1).Pairwise (· < ·)
 |[],acc,h,_,ha=>by
  simp only [List.foldl_nil,if_true]
  rw [List.append_nil] at h
  rw [List.pairwise_append]
  exact ⟨h,List.pairwise_singleton _ _,fun a h1 b h2=>by rw [List.mem_singleton] at h2;subst h2;exact ha a h1⟩
 |y::s,acc,h,hx,ha=>by
  have hy:y≠x:=fun e=>hx (by rw [e];exact List.mem_cons_self ..)
  have hxs:x∉s:=fun hh=>hx (List.mem_cons_of_mem _ hh)
  rw [List.foldl_cons]
  rcases Int.lt_or_le x y with hxy|hxy
  ·
   rw [show Du x true (acc,false) y=(acc++[x]++[y],true) by unfold Du;rw [if_neg hy,if_pos ⟨rfl,rfl,hxy⟩],TH s _ hxs]
   rw [if_neg AO]
   simp only [List.append_assoc,List.singleton_append]
   rw [List.pairwise_append] at h ⊢
   obtain ⟨h1,h2,h3⟩:=h
   rw [List.pairwise_cons] at h2
   refine ⟨h1,List.pairwise_cons.2 ⟨fun b hb=> ?_,List.pairwise_cons.2 h2⟩,fun a h4 b h5=> ?_⟩
   ·
    rcases List.mem_cons.1 hb with rfl|hb
    · exact hxy
    · exact Int.lt_trans hxy (h2.1 b hb)
   ·
    rcases List.mem_cons.1 h5 with rfl|h5
    · exact ha a h4
    · exact h3 a h4 b h5
  ·
   have hlt:y<x:=by omega
   rw [show Du x true (acc,false) y=(acc++[y],false) by unfold Du;rw [if_neg hy,if_neg (fun hh=>by have:=hh.2.2;omega)]]
   refine iK s (acc++[y]) (by rw [List.append_assoc];exact h) hxs fun b hb=> ?_
   rcases List.mem_append.1 hb with hb|hb
   · exact ha b hb
   · rw [List.mem_singleton] at hb;subst hb;exact hlt
theorem Y2 {x:Int} (h:s.Pairwise (· < ·)) (hx:x∉s):(EG s x true).Pairwise (· < ·):=by grind [iK,EG,wall]
theorem Qy {l:List BM} {x:Int} (h:x∈D3 n l s true):(0≤x∧x<(n:Int))∧x∉s∧CK l (EG s x true)=true:=by
 unfold D3 at h
 obtain ⟨i,hi,rfl⟩:=List.mem_map.1 h
 obtain ⟨h1,h2⟩:=List.mem_filter.1 hi
 have h3:=List.mem_range.1 h1
 unfold Jm at h2
 rw [Bool.and_eq_true] at h2
 refine ⟨by omega,fun hc=> ?_,h2.2⟩
 rw [Dr.2 hc] at h2
 exact absurd h2.1 AB
theorem yH {l:List BM} (h:∀i:Nat,i<n→(i:Int)∈s):D3 n l s true=[]:=by
 unfold D3
 rw [List.map_eq_nil_iff,List.filter_eq_nil_iff]
 intro i hi
 unfold Jm
 rw [Dr.2 (h i (List.mem_range.1 hi))]
 simp
theorem tV (h:s.length<n):∃i:Nat,i<n∧(i:Int)∉s:=by
 refine Classical.byContradiction fun hc=> ?_
 have h2:∀x∈(List.range n).map fun i:Nat=>(i:Int),x∈s:=fun x hx=>by
  obtain ⟨i,hi,rfl⟩:=List.mem_map.1 hx
  exact Classical.byContradiction fun hn=>hc ⟨i,List.mem_range.1 hi,hn⟩
 have h3:=Ld (L:=(List.range n).map fun i:Nat=>(i:Int)) (M:=s) (List.Pairwise.map _ (fun a b hab e=>hab AA) (List.nodup_range (n:=n))) h2
 rw [List.length_map,List.length_range] at h3
 omega
theorem tW (hp:s.Pairwise (· < ·)) (hr:∀x∈s,0≤x∧x<(n:Int)) (h:s.length=n):∀i:Nat,i<n→(i:Int)∈s:=fun i hi=>by
 refine Classical.byContradiction fun hn=> ?_
 have hnd:s.Nodup:=hp.imp (fun hab e=>by omega)
 have h3:=Ld (L:=(i:Int)::s) (M:=(List.range n).map fun i:Nat=>(i:Int)) (List.nodup_cons.2 ⟨hn,hnd⟩) (fun x hx=>by
  rcases List.mem_cons.1 hx with rfl|hx
  · exact List.mem_map.2 ⟨i,List.mem_range.2 hi,rfl⟩
  ·
   have:=hr x hx
   exact List.mem_map.2 ⟨x.toNat,List.mem_range.2 AA,by omega⟩)
 rw [List.length_map,List.length_range,List.length_cons] at h3
 omega
theorem tX:∀(l:List Int) (a:Int),a≤l.foldl max a∧(∀x∈l,x≤l.foldl max a)
 |[],a=>⟨Int.le_refl _,(fun x h=>by cases h)⟩
 |b::l,a=>by
  obtain ⟨h1,h2⟩:=tX l (max a b)
  rw [List.foldl_cons]
  refine ⟨by omega,fun x hx=> ?_⟩
  rcases List.mem_cons.1 hx with rfl|hx
  · omega
  · exact h2 x hx
theorem Nz.days (h:Nz m l r d):∀x∈d,0≤x:=fun x hx=>by
 obtain ⟨j,hj⟩:=List.mem_iff_getElem?.1 hx
 have hjl:=BH hj
 rw [h.dl] at hjl
 obtain ⟨c,hc⟩:=at_ hjl
 exact (h.dd j x c hjl hj hc).1.1
theorem ABt (hp:s.Pairwise (· < ·)) (hr:∀x∈s,0≤x∧x<(n:Int)):Di (n:Int) s=true:=by
 unfold Di
 rw [CD]
 intro j hj
 have h1:=hr _ (List.getElem_mem hj)
 unfold setAt
 rw [List.getElem?_eq_getElem hj]
 simp only [Option.getD_some,Bool.and_eq_true,Bool.or_eq_true,decide_eq_true_eq]
 refine ⟨h1,?_⟩
 rcases Nat.eq_zero_or_pos j with h0|h0
 · exact .inl h0
 ·
  right
  rw [List.getElem?_eq_getElem (show j-1<s.length by omega)]
  exact List.pairwise_iff_getElem.1 hp (j-1) j AA hj AA
structure HB (n:Nat) (r:List BM) (s:List Int):Prop where
 asc:s.Pairwise (· < ·)
 Ql:∀x∈s,0≤x∧x<(n:Int)
 cl:CK r s=true
theorem HB.nil (n:Nat) (r:List BM):HB n r []:=⟨List.Pairwise.nil,(fun x h=>by cases h),Cl.2 fun q _ h=>by cases h⟩
theorem HB.set (h:HB n r s):Di (n:Int) s=true:=ABt h.asc h.Ql
theorem HB.next {x:Int} (h:HB n r s) (hx:x∈D3 n r s true):HB n r (EG s x true)∧(EG s x true).length=s.length+1:=by
 obtain ⟨h1,h2,h3⟩:=Qy hx
 refine ⟨⟨Y2 h.asc h2,fun y hy=> ?_,h3⟩,HJ h2⟩
 rcases Dj.1 hy with rfl|hy
 · exact h1
 · exact h.Ql y hy
theorem HB.due (hv:BD (d.length:Nat) r=0) (h:HB d.length r s):cH r d s=0∧Fo (d.length:Nat) r s=D3 d.length r s true:=by
 have h0:=gl hv h.set h.cl
 exact ⟨iJ h0,by unfold Fo;rw [if_pos h0];rfl⟩
theorem HB.all (hv:BD (d.length:Nat) r=0) (h:HB d.length r s):FA r d s (sE d)=D3 d.length r s true:=by
 unfold FA
 rw [(h.due hv).2,List.filter_eq_self]
 intro x hx
 have hr:=(Qy hx).1
 have hdx:=Cv (l:=d) (i:=x.toNat) AA
 have:=(tX d (-1)).2 _ (List.mem_of_getElem? hdx)
 rw [Bool.not_eq_true',decide_eq_false_iff_not]
 unfold sE
 omega
theorem HB.none (h:HB d.length r s) (hl:s.length=d.length):D3 d.length r s true=[]:=yH (tW h.asc h.Ql hl)
theorem HB.some (hv:BD (d.length:Nat) r=0) (h:HB d.length r s) (hl:s.length<d.length):D3 d.length r s true≠[]:=by
 obtain ⟨i,hi,hn⟩:=tV hl
 exact az (n:=((d.length:Nat):Int)) hv h.cl (by simpa using hi) hn
abbrev C3 (l:List Bm) (r:List BM) (d:List Int) (day:Int) (st tr:List Int) (sp:Bool):List Pr:=[CF l,reqs r,ints d,int day,ints st,ints tr,Cp.bool sp]
def KB (m x:Int):Bool:=decide (x<0∨x>m)
abbrev GR (m:Int) (l:List Int):Bool:=l.any (KB m)
def BS (st:List Int):List Int:=((List.range st.length).filter fun i:Nat=>decide (st.getD i 0=1)).map fun i:Nat=>(i:Int)
def Jv (st:List Int) (k:Nat):List Int:=((List.range k).filter fun i:Nat=>decide (st.getD i 0=1)).map fun i:Nat=>(i:Int)
theorem Ph {st:List Int} {x:Int} (hx:st[k]? =some x):Jv st (k+1)=if x=1 then Jv st k++[(k:Int)] else Jv st k:=by
 have h:st.getD k 0=x:=by rw [List.getD_eq_getElem?_getD,hx];rfl
 unfold Jv
 rw [List.range_succ,List.filter_append,List.map_append]
 simp only [List.filter_cons,List.filter_nil,h]
 split<;>simp_all
theorem Ms (st:List Int) (k:Nat):(Jv st k).length≤k:=by grind [Jv]
theorem lO (st:List Int):BS st=Jv st st.length:=rfl
theorem lP {st:List Int} (h:∀x∈st,x≠1):BS st=[]:=by simp_all [BS]
theorem Pj (n:Nat):BS (List.replicate n 0)=[]:=lP fun x hx=>by rw [List.eq_of_mem_replicate hx];decide
def Tx (n:Nat) (r:List BM) (d:List Int) (day:Int) (st tr:List Int):Bool:=decide (((n≤24∧d.length=n)∧st.length=n∧tr.length=n)∧((GR 40000 d=false∧KB 40000 day=false)∧GR 3 st=false∧GR 4 tr=false)∧Lw (n:Int) r (BS st)=0∧Sr (n:Int) r (BS st)=true)
theorem Fp {st:List Int}:Tx n r d day st tr=true↔((n≤24∧d.length=n)∧st.length=n∧tr.length=n)∧((GR 40000 d=false∧KB 40000 day=false)∧GR 3 st=false∧GR 4 tr=false)∧Lw (n:Int) r (BS st)=0∧Sr (n:Int) r (BS st)=true:=by unfold Tx;rw [decide_eq_true_eq]
theorem Y3 (DF:∀x∈l,x.Cb.small) (hl:l.length≤1000000) (hr:r.length≤1000000) (hd:d.length≤1000000):A0 Tryz.prog 100 [agg [CF l,reqs r,ints d]] (agg [CF l,reqs r,ints d]):=OY.frz (AW fun _=>rfl) (sF DF hl hr hd)
theorem Y4 {l:List Int} (hl:l.length≤1000000000):A0 prog 131 [ints l] (ints l):=by
 refine fo func131 rfl ⟨rfl,rfl⟩ fun M0 w0=> ?_
 refine a2 ?_
 refine co rfl (F3 rfl underlying22 vq) ?_
 refine ac ?_
 refine Tr.ex 4 rfl (fun z1=>Tr.fact 4 rfl fun Ex=> ?_)
 refine Tr.cn rfl ?_ ?_<;>intro h1 q1
 refine a2 ?_
 · (have hl0:l=[]:=(by simpa using Ex h1));subst hl0;exact AP 1
 refine ac ?_
 refine ap ?_
 refine TO.pad ?_
 refine TO.Df 0 rfl rfl AB (B9 rfl rfl rfl rfl underlying22 Bi G_ z3 Db vq (Bs BK vq)) (fun v1=> ?_)
 refine ap ?_
 refine ac ?_
 · exact Pr.le_trans (Ao _ _) (Pr.le_of_eq AO)
theorem LA {st:List Int} (DF:∀x∈l,x.Cb.small) (hl:l.length≤1000000) (hr:r.length≤1000000) (hd:d.length≤1000000) (hst:st.length≤1000000) (htr:tr.length≤1000000):A0 prog 73 [agg (C3 l r d day st tr sp)] (agg (C3 l r d day st tr sp)):=by
 refine fo func73 rfl ⟨rfl,rfl⟩ fun M0 w0=>(Tr.seq (Tr.BE ?_))
 refine TO.Vk rfl rfl AB rfl Be (fun b1=> ?_)
 refine Tl rfl rfl rfl rfl z42 D7 (fun b2=> ?_)
 refine ap ?_
 refine Tr.seq (Tr.rx ?_)
 refine ay ?_
 refine xo rfl (fun _=>CM (Y3 DF hl hr hd) rfl rfl) ?_
 refine ay ?_
 refine xo rfl (fun _=>CM (Y4 (l:=st) AA) rfl rfl) ?_
 refine ay ?_
 refine xo rfl (fun _=>CM (Y4 (l:=tr) AA) rfl rfl) ?_
 refine ay ?_
 refine Cx.nil ⟨by kernel_rfl,?_⟩
 refine Aw.done UL (Fin.go (wk [2,1] rfl ?_))
 refine ap ?_
 refine Tr.drop 1 (Tr.ret (Fin.Cf rfl (AL.cell 0 rfl rfl CW B7 rfl Lr) ?_))
 · exact Lr
theorem Y5 {m x:Int}  :A0 prog 135 [int x,ref [int m]] (bool (KB m x)):=by
 refine fo func135 rfl ⟨rfl,rfl⟩ fun M0 w0=> ?_
 refine ac ?_
 refine ac ?_
 refine Ch.cs 6 rfl ?_ ?_<;>intro h1 q1
 refine ac ?_
 refine ac ?_
 · refine bool_eq ?_;unfold KB;simp_all
 refine ac ?_
 refine ac ?_
 · refine bool_eq ?_;unfold KB;simp_all;omega
theorem Y6:Entry Tryz.prog 135:=⟨_,Tryz.func135,rfl,rfl⟩
theorem Jw {m:Int} {l:List Int}  :A0 prog 77 [int m,ints l] (bool (!GR m l)):=by
 refine fo func77 rfl ⟨rfl,rfl⟩ fun M0 w0=> ?_
 refine a2 ?_
 refine co rfl (Ah rfl (J6 (l:=l) (p:=KB m)) ⟨kq,⟨_,rfl,EK Y6 (fun x=>Y5 (m:=m) (x:=x))⟩,trivial⟩) ?_
 refine a2 ?_
 · exact Lr
theorem LB {st:List Int} (hst:st.length≤1000000):A0 prog 24 [agg (C3 l r d day st tr sp)] (ints (BS st)):=by
 refine fo func24 rfl ⟨rfl,rfl⟩ fun M0 w0=> ?_
 refine a3 ?_
 refine Tr.block (Tr.B5 3 1 (Tr.EC _ (kk [8,7] rfl) (fun k v=>[(9,int ((k:Nat):Int)),(3,AV v (ints (Jv st k)))]) (fun k v=>Hp M0 w0 FO ([As 3 1 v])) (fun k:Nat=>k≤(st).length) (fun k:Nat=>(st).length-k) 0 (.slice none 0 0) (Nat.zero_le _) ⟨kq,⟨_,rfl,Bg rfl⟩,trivial⟩ (fun _ _ h=>h) ?_))
 rintro k v BJ
 refine ac ?_
 refine Tr.seq ?_
 refine Tr.cn rfl ?_ ?_<;>intro h1 q1
 have AZ:k<(st).length:=AH h1
 obtain ⟨x,AX⟩:=at_ AZ
 have hsk:=Ph AX
 have AJM:=Ms st k
 refine a2 ?_
 refine co rfl (AD rfl underlying22 Bi vq vq AA (AR AX)) ?_
 refine ac ?_
 refine an ?_ ?_<;>intro h2 q2
 refine ap ?_
 refine TO.Df 0 rfl rfl AB (B9 rfl rfl rfl rfl underlying51 Bi G_ z3 Ea Db (Ay BK FC)) (fun v1=> ?_)
 refine ap ?_
 refine wk [9,8,7,3] rfl ?_
 refine ac ?_
 exact Fin.C8 (k+1) v1 (⟨AZ,by omega⟩) ⟨⟨_,rfl,AG k⟩,⟨_,rfl,BB eH⟩,kz⟩ (fun _ _ h=>h)
 refine a2 ?_
 exact Fin.C8 (k+1) v (⟨AZ,by omega⟩) ⟨⟨_,rfl,AG k⟩,⟨_,rfl,BB (by rw [hsk,if_neg Bp])⟩,kz⟩ (fun _ _ h=>h)
 have A8:k=(st).length:=by have:=AJ h1;omega
 subst A8
 refine a3 ?_
 · exact HE
theorem Ln {st:List Int} (hst:st.length≤1000000):BP prog 25 [agg (C3 l r d day st tr sp)] (int (if Tx l.length r d day st tr=true then 0 else 49)) (CE) (fun _=>CE):=by
 refine BP.of func25 rfl rfl Am fun M0 w0 S rs M1 w1=> ?_
 refine a2 ?_
 refine ag ?_ ?_<;>intro h1 q1
 refine ac ?_
 refine wk [10,3,1] rfl ?_
 refine ac ?_
 refine Tr.ret (Fin.AU (Fin.AE (Fin.EV rfl rfl ?_ (fun _ _ _ _=>rfl))))
 · exact RA
 refine ag ?_ ?_<;>intro h2 q2
 refine ac ?_
 refine wk [10,3,1] rfl ?_
 refine ac ?_
 refine Tr.ret (Fin.AU (Fin.AE (Fin.EV rfl rfl ?_ (fun _ _ _ _=>rfl))))
 · exact RA
 refine ag ?_ ?_<;>intro h3 q3
 refine ac ?_
 refine wk [10,3,1] rfl ?_
 refine ac ?_
 refine Tr.ret (Fin.AU (Fin.AE (Fin.EV rfl rfl ?_ (fun _ _ _ _=>rfl))))
 · exact RA
 refine ac ?_
 refine wk [10,3,1] rfl ?_
 refine Tr.cn rfl ?_ ?_<;>intro h4 q4
 refine ac ?_
 refine Tr.ret (Fin.AU (Fin.AE (Fin.EV rfl rfl ?_ (fun _ _ _ _=>rfl))))
 · exact RA
 refine ac ?_
 refine co rfl (Bq (Jw (m:=40000) (l:=d)) rfl rfl rfl) ?_
 refine ag ?_ ?_<;>intro h5 q5
 refine ac ?_
 refine wk [35,3,1] rfl ?_
 refine ac ?_
 refine Tr.ret (Fin.AU (Fin.AE (Fin.EV rfl rfl ?_ (fun _ _ _ _=>rfl))))
 · exact Q_
 refine ac ?_
 refine cy h5 rfl (Ah rfl (Jw (m:=40000) (l:=[day])) ⟨kq,Db,trivial⟩) ?_
 refine ag ?_ ?_<;>intro h6 q6
 refine ac ?_
 refine wk [35,3,1] rfl ?_
 refine ac ?_
 refine Tr.ret (Fin.AU (Fin.AE (Fin.EV rfl rfl ?_ (fun _ _ _ _=>rfl))))
 · exact Q_
 refine ac ?_
 refine cy h6 rfl (Bq (Jw (m:=3) (l:=st)) rfl rfl rfl) ?_
 refine ag ?_ ?_<;>intro h7 q7
 refine ac ?_
 refine wk [35,3,1] rfl ?_
 refine ac ?_
 refine Tr.ret (Fin.AU (Fin.AE (Fin.EV rfl rfl ?_ (fun _ _ _ _=>rfl))))
 · exact Q_
 refine ac ?_
 refine cy h7 rfl (Bq (Jw (m:=4) (l:=tr)) rfl rfl rfl) ?_
 refine ac ?_
 refine wk [35,3,1] rfl ?_
 refine Tr.cn rfl ?_ ?_<;>intro h8 q8
 refine ac ?_
 refine Tr.ret (Fin.AU (Fin.AE (Fin.EV rfl rfl ?_ (fun _ _ _ _=>rfl))))
 · exact Q_
 refine ac ?_
 refine Tr.seq (Tr.seq (Tr.rx ?_))
 refine ay ?_
 refine xo rfl (fun _=>CM (LB hst) rfl rfl) ?_
 refine Cx.ef 0 rfl rfl AB (Ae rfl rfl AB rfl (bY (n:=((l.length:Nat):Int)) (l:=r) (s:=BS st)) ⟨kq,kz⟩) ?_
 refine ay ?_
 refine Cx.nil ⟨by kernel_rfl,?_⟩
 refine Aw.done UL (Fin.go (wk [5,4] rfl ?_))
 refine ag ?_ ?_<;>intro h9 q9
 refine a2 ?_
 refine Tr.ret (Fin.AE (Fin.EV rfl rfl ?_ (fun _ _ _ _=>rfl)))
 · exact RA
 refine an ?_ ?_<;>intro h10 R9
 refine ac ?_
 refine Tr.ret (Fin.AE (Fin.EV rfl rfl ?_ (fun _ _ _ _=>rfl)))
 · exact Q_
 refine a2 ?_
 refine Tr.ret (Fin.EV rfl rfl ?_ (fun _ _ _ _=>rfl))
 · exact int_eq (if_pos (Fp.2 (by refine ⟨⟨⟨?_,?_⟩,?_,?_⟩,⟨⟨?_,?_⟩,?_,?_⟩,?_,?_⟩<;>first|omega|(simp_all;done)))).symm
theorem cI {a b:Gt}  :A0 prog 164 [agg (C0 a),agg (C0 b)] (bool (decide (a=b))):=by
 refine fo func164 rfl ⟨rfl,rfl⟩ fun M0 w0=> ?_
 refine ac ?_
 refine ac ?_
 refine Ch.cs 10 rfl ?_ ?_<;>intro h1 q1
 refine ac ?_
 refine Ch.cs 17 rfl ?_ ?_<;>intro h2 q2
 refine ac ?_
 refine Ch.cs 24 rfl ?_ ?_<;>intro h3 q3
 refine ac ?_
 refine cy h3 rfl (II rfl (vl rfl) (vl rfl)) ?_
 refine ac ?_
 refine Ch.cs 31 rfl ?_ ?_<;>intro h4 q4
 refine ac ?_
 refine Ch.cs 38 rfl ?_ ?_<;>intro h5 q5
 refine ac ?_
 refine cy h5 rfl (II rfl (vl rfl) (vl rfl)) ?_
 refine ac ?_
 refine Ch.cs 45 rfl ?_ ?_<;>intro h6 q6
 refine ac ?_
 refine Ch.cs 52 rfl ?_ ?_<;>intro h7 q7
 refine ac ?_
 refine Ch.cs 59 rfl ?_ ?_<;>intro h8 q8
 refine ac ?_
 refine Ch.cs 66 rfl ?_ ?_<;>intro h9 q9
 refine ac ?_
 refine Ch.cs 73 rfl ?_ ?_<;>intro h10 R9
 refine ac ?_
 refine cy h10 rfl (Bq (qI) rfl rfl rfl) ?_
 refine ac ?_
 refine Ch.cs 80 rfl ?_ ?_<;>intro h11 Ti
 refine ac ?_
 refine cy h11 rfl (R8 rfl (vl rfl) (vl rfl)) ?_
 refine ac ?_
 refine wk [4] rfl ?_
 refine ac ?_
 · exact Gw
 refine ac ?_
 refine wk [4] rfl ?_
 refine ac ?_
 · exact Gw
 refine ac ?_
 refine wk [4] rfl ?_
 refine ac ?_
 · exact Gw
 refine ac ?_
 refine wk [4] rfl ?_
 refine ac ?_
 · exact Gw
 refine ac ?_
 refine wk [4] rfl ?_
 refine ac ?_
 · exact Gw
 refine ac ?_
 refine wk [4] rfl ?_
 refine ac ?_
 · exact Gw
 refine ac ?_
 refine wk [4] rfl ?_
 refine ac ?_
 · exact Gw
 refine ac ?_
 refine wk [4] rfl ?_
 refine ac ?_
 · exact Gw
 refine ac ?_
 refine wk [4] rfl ?_
 refine ac ?_
 · exact Gw
 refine ac ?_
 refine wk [4] rfl ?_
 refine ac ?_
 · exact Gw
 refine ac ?_
 refine wk [4] rfl ?_
 refine ac ?_
 · exact Gw
 refine ac ?_
 refine wk [4] rfl ?_
 refine ac ?_
 · exact Gw
theorem cJ:Entry Tryz.prog 164:=⟨_,Tryz.func164,rfl,rfl⟩
theorem tY {a b:Bm}  :A0 prog 111 [agg (DO a),agg (DO b)] (bool (decide (a=b))):=by
 refine fo func111 rfl ⟨rfl,rfl⟩ fun M0 w0=> ?_
 refine ac ?_
 refine Tr.seq (Tr.pad (Tr.pad (Tr.rx ?_)))
 refine ax ?_
 refine Cx.ef 0 rfl rfl AB (Bx rfl rfl AB rfl Vv OV) (Cx.ef 1 rfl rfl AB (Bx rfl rfl AB rfl Vv OV) (Cx.DP 0 rfl rfl (CZ rfl rfl rfl rfl (Va rfl) Ep rfl rfl) (Cx.DP 1 rfl rfl (CZ rfl rfl rfl rfl (Va rfl) Ep rfl rfl) ?_)))
 refine Cx.nil ⟨by kernel_rfl,?_⟩
 refine Aw.open_ 0 5 rfl rfl (fun v1=> ?_)
 refine Aw.open_ 1 6 rfl rfl (fun v2=> ?_)
 refine Aw.done UL (Fin.LR 5 0 _ rfl rfl (fun _=>rfl) (fun b1=> ?_))
 refine Fin.LR 6 1 _ rfl rfl (fun _=>rfl) (fun b2=> ?_)
 refine Fin.go ?_
 refine ac ?_
 refine Ch.cs 16 rfl ?_ ?_<;>intro h1 q1
 refine ac ?_
 refine Ch.cs 23 rfl ?_ ?_<;>intro h2 q2
 refine ac ?_
 refine Ch.cs 30 rfl ?_ ?_<;>intro h3 q3
 refine ac ?_
 refine Ch.cs 37 rfl ?_ ?_<;>intro h4 q4
 refine ac ?_
 refine cy h4 rfl (II rfl (vl rfl) (vl rfl)) ?_
 refine ac ?_
 refine Ch.cs 44 rfl ?_ ?_<;>intro h5 q5
 refine ac ?_
 refine Ch.cs 51 rfl ?_ ?_<;>intro h6 q6
 refine ac ?_
 refine cy h6 rfl (Ah rfl (qJ) ⟨ke rfl,ke rfl,⟨_,rfl,EK (dom:=fun p:Gt×Gt=>[agg (C0 p.1),agg (C0 p.2)]) (res:=fun p=>bool (decide (p.1=p.2))) cJ (fun p=>cI (a:=p.1) (b:=p.2))⟩,trivial⟩) ?_
 refine ac ?_
 refine Tr.drop 0 (Tr.drop 0 (wk [4] rfl ?_))
 refine ac ?_
 · exact MF
 refine ac ?_
 refine Tr.drop 0 (Tr.drop 0 (wk [4] rfl ?_))
 refine ac ?_
 · exact MF
 refine ac ?_
 refine Tr.drop 0 (Tr.drop 0 (wk [4] rfl ?_))
 refine ac ?_
 · exact MF
 refine ac ?_
 refine Tr.drop 0 (Tr.drop 0 (wk [4] rfl ?_))
 refine ac ?_
 · exact MF
 refine ac ?_
 refine Tr.drop 0 (Tr.drop 0 (wk [4] rfl ?_))
 refine ac ?_
 · exact MF
 refine ac ?_
 refine Tr.drop 0 (Tr.drop 0 (wk [4] rfl ?_))
 refine ac ?_
 · exact MF
 refine ac ?_
 refine Tr.drop 0 (Tr.drop 0 (wk [4] rfl ?_))
 refine ac ?_
 · exact MF
theorem tZ:Entry Tryz.prog 111:=⟨_,Tryz.func111,rfl,rfl⟩
def newE (l:List Bm) (r:List BM) (d:List Int) (day:Int):Int:=if 0≤day∧day≤40000 then (if Tx l.length r d day (List.replicate l.length 0) (List.replicate l.length 0)=true then 0 else 49) else 2
def newP (l:List Bm) (r:List BM) (d:List Int) (day:Int):List Pr:=if newE l r d day=0 then C3 l r d day (List.replicate l.length 0) (List.replicate l.length 0) false else C3 [] [] [] 0 [] [] false
theorem VA:Pr.le (agg [is (.slice none 0 0),is (.slice none 0 0),is (.slice none 0 0),int 0,is (.slice none 0 0),is (.slice none 0 0),Cp.bool false]) (agg (C3 [] [] [] 0 [] [] false)):=BR ⟨AP 8,AP 2,AP 1,Pr.le_refl _,AP 1,AP 1,Pr.le_refl _,trivial⟩
theorem Zn {e:Int} (h:newE l r d day=e) (he:e≠0):newP l r d day=C3 [] [] [] 0 [] [] false:=if_neg H7
theorem mZ (h:¬(0≤day∧day≤40000)):newE l r d day=2:=if_neg h
theorem td (h:0≤day∧day≤40000) (hk:¬Tx l.length r d day (List.replicate l.length 0) (List.replicate l.length 0)=true):newE l r d day=49:=by unfold newE;rw [if_pos h,if_neg hk]
theorem iL (h:0≤day∧day≤40000) (hk:Tx l.length r d day (List.replicate l.length 0) (List.replicate l.length 0)=true):newE l r d day=0∧newP l r d day=C3 l r d day (List.replicate l.length 0) (List.replicate l.length 0) false:=by
 have h0:newE l r d day=0:=by unfold newE;rw [if_pos h,if_pos hk]
 exact ⟨h0,if_pos h0⟩
theorem iM {m:Int} (h:0≤m):GR m (List.replicate n 0)=false:=by simp_all [GR,KB]
theorem Nz.in_ (h:Nz m l r d):GR 40000 d=false:=by
 unfold GR
 rw [List.any_eq_false]
 intro x hx
 obtain ⟨j,hj⟩:=List.mem_iff_getElem?.1 hx
 have hjl:=BH hj
 rw [h.dl] at hjl
 obtain ⟨c,hc⟩:=at_ hjl
 have:=(h.dd j x c hjl hj hc).1
 unfold KB
 rw [decide_eq_true_eq];omega
theorem set_nil (n:Int):Di n []=true:=rfl
theorem Nz.new (h:Nz m l r d) (hd:0≤day∧day≤40000):newE l r d day=0∧newP l r d day=C3 l r d day (List.replicate l.length 0) (List.replicate l.length 0) false:=by
 refine iL hd ?_
 obtain ⟨h1,h2⟩:=YZ (n:=((l.length:Nat):Int)) (s:=[]) h.v (set_nil _)
 unfold Tx
 rw [Pj,decide_eq_true_eq,h1,h2]
 exact ⟨⟨⟨h.l24,h.dl⟩,List.length_replicate,List.length_replicate⟩,⟨⟨h.in_,by unfold KB;rw [decide_eq_false_iff_not];omega⟩,iM AB,iM AB⟩,rfl,Cl.2 fun q _ hq=>by cases hq⟩
theorem iN:newE [] [] [] 3=0∧newP [] [] [] 3=C3 [] [] [] 3 [] [] false:=iL AB AB
theorem Wy (DF:∀x∈l,x.Cb.small) (hl:l.length≤1000000) (hr:r.length≤1000000) (hd:d.length≤1000000):BP prog 26 [agg [CF l,reqs r,ints d],int day] (C_ [agg (newP l r d day),int (newE l r d day)]) (CE) (fun _=>CE):=by
 refine BP.of func26 rfl rfl Am fun M0 w0 S rs M1 w1=> ?_
 refine Tr.seq (Tr.BE (tp rfl (BU rfl Be) ?_))
 refine Tl rfl rfl rfl rfl z42 D7 (fun b1=> ?_)
 refine ap ?_
 refine ag ?_ ?_<;>intro h1 q1
 refine ac ?_
 refine Tr.cond rfl (fun _=> ?_) (fun h=>nomatch h)
 refine Tr.seq (Tr.BE (tp rfl (BO (rows:=[]) rfl jB D7 trivial rfl) (TO.AK 0 rfl rfl rfl vq Be rfl B7 rfl rfl (tm rfl (TO.nil (Fin.go (Tr.ret (Fin.AE (Fin.J2 [_] rfl (AL.cell 0 rfl rfl CW B7 rfl Lr) (AL.tmp rfl Lr) ?_)))))))))
 refine Al ⟨?_,?_,trivial⟩
 · exact U_
 · exact VD
 refine an ?_ ?_<;>intro h2 q2
 refine ap ?_
 refine Tr.ret (Fin.AE (Fin.J2 [_] rfl (AL.cell 0 rfl rfl CW B7 rfl Lr) (AL.tmp rfl Lr) ?_))
 refine Al ⟨?_,?_,trivial⟩
 · exact U_
 · exact VD
 have hdy:0≤day∧day≤40000:=by simp_all
 refine a2 ?_
 refine wk [6,4,2,1] rfl (Tr.seq (Tr.pad (Tr.rx ?_)))
 refine ax ?_
 refine xo rfl (fun _=>JA (m:=l.length) rfl underlying22 Bi G_ z3 rfl AB AB vq vq FV AA) ?_
 refine xm rfl ?_
 refine xo rfl (fun _=>JA (m:=l.length) rfl underlying22 Bi G_ z3 rfl AB AB vq vq FV AA) ?_
 refine xo rfl (fun _=>BO (rows:=[(0,_),(1,[_]),(2,[_]),(3,[_])]) rfl jB D7 ⟨⟨rfl,Be⟩,⟨⟨rfl,F7⟩,⟨⟨rfl,⟨_,rfl,Pr.le_trans (Pr.le_trans (B4 _ _) (Pr.le_of_eq (show _=slice 1 ((List.replicate l.length (0:Int)).map fun n=>[int n]) by rw [List.map_replicate];rfl))) (Ag _)⟩⟩,⟨⟨rfl,⟨_,rfl,Pr.le_trans (Pr.le_trans (B4 _ _) (Pr.le_of_eq (show _=slice 1 ((List.replicate l.length (0:Int)).map fun n=>[int n]) by rw [List.map_replicate];rfl))) (Ag _)⟩⟩,trivial⟩⟩⟩⟩ rfl) ?_
 refine xo rfl (fun _=>CM (LA (l:=l) (r:=r) (d:=d) (day:=day) (st:=(List.replicate l.length (0:Int))) (tr:=(List.replicate l.length (0:Int))) (sp:=false) DF hl hr hd M4 M4) rfl rfl) ?_
 refine Cx.ef 0 rfl rfl AB (Bx rfl rfl AB rfl z42 D7) (Cx.DP 0 rfl rfl (CZ rfl rfl rfl rfl Be B7 rfl rfl) ?_)
 refine Cx.nil ⟨by kernel_rfl,?_⟩
 refine Aw.open_ 0 7 rfl rfl (fun v1=> ?_)
 refine Aw.done al4 (Fin.LR 7 0 _ rfl rfl (fun _=>rfl) (fun b2=> ?_))
 refine Fin.go (wk [7,4] rfl ?_)
 refine ap ?_
 refine TO.F0 2 rfl rfl AB (Ae rfl rfl AB rfl (Ln (l:=l) (r:=r) (d:=d) (day:=day) (st:=(List.replicate l.length (0:Int))) (tr:=(List.replicate l.length (0:Int))) (sp:=false) M4) kz) ?_
 refine ap ?_
 refine an ?_ ?_<;>intro h3 q3
 have h49:newE l r d day=49:=td hdy H8
 refine ap ?_
 refine Tr.drop 0 (Tr.ret (Fin.AE (Fin.J2 [_] rfl (AL.cell 0 rfl rfl CW B7 rfl Lr) (AL.tmp rfl Lr) ?_)))
 refine Al ⟨?_,?_,trivial⟩
 · rw [Zn h49 AB];exact VA
 · refine int_eq ?_;rw [h49];simp_all
 have h0:=iL (l:=l) (r:=r) (d:=d) hdy H8
 refine ac ?_
 refine ap ?_
 refine Tr.drop 0 (Tr.ret (Fin.J2 [_] rfl (AL.cell 0 rfl rfl CW B7 rfl Lr) (AL.tmp rfl Lr) ?_))
 refine Al ⟨?_,?_,trivial⟩
 · rw [h0.2];exact Lr
 · exact int_eq h0.1.symm
theorem tg {st:List Int} {s2:Bool} (DF:∀x∈l,x.Cb.small) (hl:l.length≤1000000) (hr:r.length≤1000000) (hd:d.length≤1000000) (hst:st.length≤1000000) (htr:tr.length≤1000000):A0 prog 42 [agg (C3 l r d day st tr sp),Cp.bool s2] (agg (C3 l r d day st tr s2)):=by
 refine fo func42 rfl ⟨rfl,rfl⟩ fun M0 w0=>(Tr.seq (Tr.BE (tp rfl (BU rfl Be) ?_)))
 refine Tl rfl rfl rfl rfl z42 D7 (fun b1=> ?_)
 refine ap ?_
 refine ap ?_
 refine tp rfl (CM (LA DF hl hr hd hst htr) rfl rfl) ?_
 refine Tl rfl rfl rfl rfl z42 D7 (fun b2=> ?_)
 refine ap ?_
 refine ap ?_
 refine ap ?_
 refine Tr.drop 0 (Tr.ret (Fin.Cf rfl (AL.cell 0 rfl rfl CW B7 rfl Lr) ?_))
 · exact Lr
theorem Y7 {st:List Int} {FY:Int} (DF:∀x∈l,x.Cb.small) (hl:l.length≤1000000) (hr:r.length≤1000000) (hd:d.length≤1000000) (hst:st.length≤1000000) (htr:tr.length≤1000000):A0 prog 29 [agg (C3 l r d day st tr sp),int FY] (C_ [agg (C3 l r d (if FY<day∨FY>40000 then day else FY) st tr sp),int (if FY<day∨FY>40000 then 2 else 0)]):=by
 refine fo func29 rfl ⟨rfl,rfl⟩ fun M0 w0=>(Tr.seq (Tr.BE (tp rfl (BU rfl Be) ?_)))
 refine Tl rfl rfl rfl rfl z42 D7 (fun b1=> ?_)
 refine ap ?_
 refine ap ?_
 refine tp rfl (CM (LA DF hl hr hd hst htr) rfl rfl) ?_
 refine Tl rfl rfl rfl rfl z42 D7 (fun b2=> ?_)
 refine ap ?_
 refine ag ?_ ?_<;>intro h1 q1
 refine ac ?_
 refine wk [16,6,4,1] rfl (Tr.cond rfl (fun _=> ?_) (fun h=>nomatch h))
 refine Tr.seq (Tr.BE (TO.rd 0 rfl rfl rfl AB (EL rfl CW B7 vq rfl rfl) (TO.AK 1 rfl rfl rfl vq Be rfl B7 rfl rfl (tm rfl (TO.nil (Fin.go (Tr.drop 0 (Tr.ret (Fin.AE (Fin.BL rfl (AL.cell 0 rfl rfl CW B7 rfl Lr) (AL.tmp rfl Lr) ?_))))))))))
 refine Al ⟨?_,?_,trivial⟩
 · rw [if_pos (show FY<day∨FY>40000 by omega)];exact Lr
 · exact int_eq (if_pos (show FY<day∨FY>40000 by omega)).symm
 refine ac ?_
 refine wk [16,6,4,1] rfl ?_
 refine Tr.cn rfl ?_ ?_<;>intro h2 q2
 refine ap ?_
 refine Tr.drop 0 (Tr.ret (Fin.AE (Fin.BL rfl (AL.cell 0 rfl rfl CW B7 rfl Lr) (AL.tmp rfl Lr) ?_)))
 refine Al ⟨?_,?_,trivial⟩
 · rw [if_pos (show FY<day∨FY>40000 by omega)];exact Lr
 · exact int_eq (if_pos (show FY<day∨FY>40000 by omega)).symm
 refine ac ?_
 refine ap ?_
 refine ap ?_
 refine Tr.drop 0 (Tr.ret (Fin.BL rfl (AL.cell 0 rfl rfl CW B7 rfl Lr) (AL.tmp rfl Lr) ?_))
 refine Al ⟨?_,?_,trivial⟩
 · rw [if_neg (show ¬(FY<day∨FY>40000) by omega)];exact Lr
 · exact int_eq (if_neg (show ¬(FY<day∨FY>40000) by omega)).symm
theorem th {x:Int}  :A0 prog 85 [int x] (bool (decide (x≠1))):=by
 refine fo func85 rfl ⟨rfl,rfl⟩ fun M0 w0=> ?_
 refine a3 ?_
 · refine bool_eq ?_;by_cases h_:x=1<;>simp [h_]
theorem tj:Entry Tryz.prog 85:=⟨_,Tryz.func85,rfl,rfl⟩
theorem N2 {st:List Int}:A0 prog 32 [agg (C3 l r d day st tr sp)] (bool (!(st.any fun x=>decide (x≠1)))):=by
 refine fo func32 rfl ⟨rfl,rfl⟩ fun M0 w0=> ?_
 refine a2 ?_
 refine co rfl (Ah rfl (J6 (l:=st) (p:=fun x=>decide (x≠1))) ⟨kq,⟨_,rfl,EK tj (fun x=>th (x:=x))⟩,trivial⟩) ?_
 refine a2 ?_
 · exact Lr
theorem ABu {a b:List (BM)}  :A0 prog 112 [reqs a,reqs b] (bool (decide (a=b))):=by
 refine fo func112 rfl ⟨rfl,rfl⟩ fun M0 w0=>(Tr.CG 0 rfl fun DN=>(Tr.CG 1 rfl fun ER=> ?_))
 refine ac ?_
 refine an ?_ ?_<;>intro h1 q1
 have hne:¬a.length=b.length:=by simp_all;omega
 refine a2 ?_
 · exact HT
 have Mu:a.length=b.length:=by simp_all;omega
 refine a2 ?_
 refine Tr.block (Tr.Ax _ (kk [12,1,0] rfl) (fun k:Nat=>[(13,int ((k:Nat):Int))]) (fun k:Nat=>k≤(a).length∧(a.take k=b.take k)) (fun k:Nat=>(a).length-k) 0 (⟨Nat.zero_le _,rfl⟩) kz ?_)
 rintro k ⟨BJ,AQ⟩
 refine ac ?_
 refine Tr.seq ?_
 refine Tr.cn rfl ?_ ?_<;>intro h2 q2
 have AZ:k<(a).length:=AH h2
 obtain ⟨x,AX⟩:=at_ AZ
 obtain ⟨y,hy⟩:=at_ (l:=b) (k:=k) AA
 · repeat' first|(refine bool_eq ?_;symm;rw [decide_eq_false_iff_not];refine T2 AX hy ?_;rintro rfl;simp_all)|(exact Fin.AM (k+1) ⟨⟨AZ,Mv AX hy AQ (by cases x;cases y;simp_all)⟩,by omega⟩ ⟨⟨_,rfl,AG k⟩,kz⟩)|refine co rfl (AD rfl underlying33 DQ vq vq AA (AR AX)) ?_|refine co rfl (AD rfl underlying33 DQ vq vq AA (AR hy)) (co rfl (Ad rfl Iy DQ vq rfl rfl) (co rfl (gJ rfl vq vq) ?_))|refine ac ?_|(refine Tr.cn rfl ?_ ?_<;>intro h q)
 have A8:k=(a).length:=by have:=AJ h2;omega
 subst A8
 refine a3 ?_
 · exact HU
theorem yI {a b:List Bm}  :A0 prog 110 [CF a,CF b,Zu prog (fun p:Bm×Bm=>[agg (DO p.1),agg (DO p.2)]) (fun p=>bool (decide (p.1=p.2)))] (bool (decide (a=b))):=by
 refine fo func110 rfl ⟨rfl,rfl⟩ fun M0 w0=>(Tr.CG 0 rfl fun DN=>(Tr.CG 1 rfl fun ER=> ?_))
 refine ac ?_
 refine an ?_ ?_<;>intro h1 q1
 have hne:¬a.length=b.length:=by simp_all;omega
 refine a2 ?_
 · exact HT
 have Mu:a.length=b.length:=by simp_all;omega
 refine a2 ?_
 refine Tr.block (Tr.Ax _ (kk [16,15,2,1] rfl) (fun k:Nat=>[(17,int ((k:Nat):Int))]) (fun k:Nat=>k≤(a).length∧(a.take k=b.take k)) (fun k:Nat=>(a).length-k) 0 (⟨Nat.zero_le _,rfl⟩) kz ?_)
 rintro k ⟨BJ,AQ⟩
 refine ac ?_
 refine Tr.seq ?_
 refine Tr.cn rfl ?_ ?_<;>intro h2 q2
 have AZ:k<(a).length:=AH h2
 obtain ⟨x,AX⟩:=at_ AZ
 obtain ⟨y,hy⟩:=at_ (l:=b) (k:=k) AA
 refine ac ?_
 refine ao ?_
 refine tp rfl (AD rfl underlying32 DB (vl rfl) (vl rfl) AA (AR AX)) (tp rfl (Ad rfl GG DB (vl rfl) rfl rfl) ?_)
 refine Tl rfl rfl rfl rfl NP JZ (fun b1=> ?_)
 refine tm rfl ?_
 refine sf 0 8 ⟨rfl,rfl,rfl⟩ rfl rfl rfl rfl ?_
 refine ao ?_
 refine ao ?_
 refine tp rfl (AD rfl underlying32 DB (vl rfl) (vl rfl) AA (AR hy)) (tp rfl (Ad rfl GG DB (vl rfl) rfl rfl) ?_)
 refine Tl rfl rfl rfl rfl NP JZ (fun b2=> ?_)
 refine sf 0 9 ⟨rfl,rfl,rfl⟩ rfl rfl rfl rfl ?_
 refine ao ?_
 · exact Zg
 have A8:k=(a).length:=by have:=AJ h2;omega
 subst A8
 refine a3 ?_
 · exact HU
theorem yJ {l2:List Bm} {r2:List BM} {d2:List Int}:A0 prog 58 [agg [CF l,reqs r,ints d],agg [CF l2,reqs r2,ints d2]] (bool (decide (l=l2∧r=r2∧d=d2))):=by
 refine fo func58 rfl ⟨rfl,rfl⟩ fun M0 w0=> ?_
 refine a2 ?_
 refine co rfl (Ah rfl (yI (a:=l) (b:=l2)) ⟨kq,kq,⟨_,rfl,EK (dom:=fun p:Bm×Bm=>[agg (DO p.1),agg (DO p.2)]) (res:=fun p=>bool (decide (p.1=p.2))) tZ (fun p=>tY (a:=p.1) (b:=p.2))⟩,trivial⟩) ?_
 refine cm rfl ?_
 · repeat' first|(refine bool_eq ?_;simp_all)|refine cy h rfl (Bq (ABu) rfl rfl rfl) ?_|refine cy h rfl (Bq (WS) rfl rfl rfl) ?_|refine ac ?_|(refine Ch.cg rfl rfl rfl ?_ ?_<;>intro h q)
theorem tq {l2:List Bm} {r2:List BM} {d2:List Int} {FY:Int} {st Qv tr2:List Int} {sp2:Bool}:A0 prog 44 [agg (C3 l r d day st tr sp),agg (C3 l2 r2 d2 FY Qv tr2 sp2)] (bool (decide ((l=l2∧r=r2∧d=d2)∧day=FY∧sp=sp2∧st=Qv∧tr=tr2))):=by
 refine fo func44 rfl ⟨rfl,rfl⟩ fun M0 w0=> ?_
 · repeat' first|(refine bool_eq ?_;simp_all [Bool.beq_eq_decide_eq])|refine co rfl (Bq (yJ) rfl rfl rfl) (cm rfl ?_)|refine cy h rfl (Bq (WS) rfl rfl rfl) ?_|refine ac ?_|(refine Ch.cg rfl rfl rfl ?_ ?_<;>intro h q)
theorem cL   :BP prog 11 [] (bool true) (CE) (fun _=>CE):=by
 refine BP.of func11 rfl rfl Am fun M0 w0 S rs M1 w1=> ?_
 refine ac ?_
 refine ao ?_
 refine TO.F0 0 rfl rfl AB (Ae rfl rfl AB rfl (Wy (l:=[]) (r:=[]) (d:=[]) (day:=3) (fun x h=>by cases h) AB AB AB) ⟨⟨_,rfl,BR (ps:=[is (.slice none 0 0),is (.slice none 0 0),is (.slice none 0 0)]) ⟨AP 8,AP 2,AP 1,trivial⟩⟩,kz⟩) ?_
 refine tm rfl (tp rfl (EA rfl vq rfl) (TO.re 8 _ rfl (Pr.le_of_eq (congrArg agg iN.2)) (tp rfl (EA rfl vq rfl) (TO.re 9 _ rfl (int_eq iN.1) ?_))))
 refine Tl rfl rfl rfl rfl z42 D7 (fun b1=> ?_)
 refine sf 0 1 ⟨rfl,rfl,rfl⟩ rfl rfl rfl rfl ?_
 refine ao ?_
 refine ao ?_
 refine TO.F0 0 rfl rfl AB (Ae rfl rfl AB rfl (Wy (l:=[]) (r:=[]) (d:=[]) (day:= -1) (fun x h=>by cases h) AB AB AB) ⟨⟨_,rfl,BR (ps:=[is (.slice none 0 0),is (.slice none 0 0),is (.slice none 0 0)]) ⟨AP 8,AP 2,AP 1,trivial⟩⟩,kz⟩) ?_
 refine ao ?_
 refine TO.re 14 _ rfl (int_eq (mZ AB)) ?_
 refine Tl rfl rfl rfl rfl z42 D7 (fun b2=> ?_)
 refine sf 0 3 ⟨rfl,rfl,rfl⟩ rfl rfl rfl rfl ?_
 refine ao ?_
 refine wk [4,2,1] rfl ?_
 refine ao ?_
 refine TO.cases 17 rfl (fun h1=> ?_) (fun h1=> ?_)
 have q1:=EW.E9 h1
 refine TO.IG rfl rfl rfl h1 rfl AB (Cs rfl vq) (TO.IG rfl rfl rfl h1 rfl AB Vl ?_)
 refine ao ?_
 refine TO.cases 21 rfl (fun h2=> ?_) (fun h2=> ?_)
 have q2:=EW.E9 h2
 refine TO.IG rfl rfl rfl h2 rfl AB (i7 rfl nk rfl rfl) (TO.IG rfl rfl rfl h2 rfl AB (Iv rfl DL rfl) (TO.IG rfl rfl rfl h2 rfl AB Vl ?_))
 refine ao ?_
 refine TO.cases 26 rfl (fun h3=> ?_) (fun h3=> ?_)
 have q3:=EW.E9 h3
 refine TO.IG rfl rfl rfl h3 rfl AB (Ad rfl CW B7 vq rfl rfl) ?_
 refine TO.IG rfl rfl rfl h3 rfl AB (CM (N2 (l:=[]) (r:=[]) (d:=[]) (day:=3) (st:=[]) (tr:=[]) (sp:=false)) rfl rfl) ?_
 refine ao ?_
 refine TO.cases 30 rfl (fun h4=> ?_) (fun h4=> ?_)
 have q4:=EW.E9 h4
 refine TO.IG rfl rfl rfl h4 rfl AB (oD) ?_
 refine TO.ot 0 rfl rfl rfl h4 rfl rfl AB (Ae rfl rfl AB rfl (Ln (l:=[]) (r:=[]) (d:=[]) (day:= -1) (st:=[]) (tr:=[]) (sp:=false) AB) ⟨⟨_,rfl,BR (ps:=[is (.slice none 0 0),is (.slice none 0 0),is (.slice none 0 0),int (-1),is (.slice none 0 0),is (.slice none 0 0),Cp.bool false]) ⟨AP 8,AP 2,AP 1,Lr,AP 1,AP 1,Lr,trivial⟩⟩,trivial⟩) ?_
 refine TO.IG rfl rfl rfl h4 rfl AB Vl ?_
 refine ao ?_
 refine wk [0] rfl (Tr.ret (Fin.EV rfl rfl ?_ (fun _ _ _ _=>rfl)))
 · exact bool_eq AB
 have q4:=EW.E9 h4
 exact absurd h4 AB
 have q3:=EW.E9 h3
 exact absurd h3 AB
 have q2:=EW.E9 h2
 exact absurd h2 AB
 have q1:=EW.E9 h1
 exact absurd h1 AB
theorem lQ {st:List Int} {step:Int} (DF:∀x∈l,x.Cb.small) (hl:l.length≤1000000) (hr:r.length≤1000000) (hd:d.length≤1000000) (hst:st.length≤1000000) (htr:tr.length≤1000000):BP prog 21 [agg (C3 l r d day st tr true),int step] (C_ [agg (C3 l r d day st tr true),int 54]) (CE) (fun _=>CE):=by
 refine BP.of func21 rfl rfl Am fun M0 w0 S rs M1 w1=> ?_
 refine Tr.seq (Tr.BE (tp rfl (BU rfl Be) ?_))
 refine Tl rfl rfl rfl rfl z42 D7 (fun b1=> ?_)
 refine ap ?_
 refine ap ?_
 refine tp rfl (CM (LA DF hl hr hd hst htr) rfl rfl) ?_
 refine Tl rfl rfl rfl rfl z42 D7 (fun b2=> ?_)
 refine ap ?_
 refine Tr.seq (Tr.rx ?_)
 refine ay ?_
 refine xo rfl (fun _=>CM (LB hst) rfl rfl) (Cx.ef 2 rfl rfl AB (Ae rfl rfl AB rfl (L8) ⟨kq,kz⟩) ?_)
 refine ay ?_
 refine Cx.nil ⟨by kernel_rfl,?_⟩
 refine Aw.done al4 (Fin.go (wk [7,6,4,2,1] rfl ?_))
 refine an ?_ ?_<;>intro h1 q1
 refine ap ?_
 refine Tr.drop 0 (Tr.ret (Fin.AU (Fin.AE (Fin.J2 [_] rfl (AL.cell 0 rfl rfl CW B7 rfl Lr) (AL.tmp rfl Lr) ?_))))
 refine Al ⟨?_,?_,trivial⟩
 · exact Lr
 · exact Lr
 exact absurd h1 AB
theorem tu {l:List Int} {v:Int}  :A0 prog 134 [ints l,int v] (int (idx (fun x=>v==x) l)):=by
 refine fo func134 rfl ⟨rfl,rfl⟩ fun M0 w0=>(Tr.CG 0 rfl fun DN=> ?_)
 refine a2 ?_
 refine Tr.block (Tr.Ax _ (kk [7,1,0] rfl) (fun k:Nat=>[(8,int ((k:Nat):Int))]) (fun k:Nat=>k≤(l).length∧(∀j y,j<k→l[j]? =some y→(v==y)=false)) (fun k:Nat=>(l).length-k) 0 (⟨Nat.zero_le _,fun j y hj=>absurd hj AA⟩) kz ?_)
 rintro k ⟨BJ,AQ⟩
 refine ac ?_
 refine Tr.seq ?_
 refine Tr.cn rfl ?_ ?_<;>intro h1 q1
 have AZ:k<(l).length:=AH h1
 obtain ⟨x,AX⟩:=at_ AZ
 · repeat' first|exact int_eq (El (p:=fun x=>v==x) AX Bh AQ)|exact Fin.AM (k+1) ⟨⟨AZ,DR (p:=fun x=>v==x) AX Bh AQ⟩,by omega⟩ ⟨⟨_,rfl,AG k⟩,kz⟩|refine co rfl (AD rfl underlying51 Bi vq vq AA CX) ?_|refine ac ?_|(refine Tr.cn rfl ?_ ?_<;>intro h q)
 have A8:k=(l).length:=by have:=AJ h1;omega
 subst A8
 refine a3 ?_
 · exact int_eq (F8 AQ)
def cM (o l:List Int):Int:=(o.find? fun i=>l.contains i).getD 0
def cN (o l:List Int):Bool:=(o.find? fun i=>l.contains i).isSome
theorem VT {o l:List Int} {x:Int} (hx:o[k]? =some x) (hb:∀j y,j<k→o[j]? =some y→l.contains y=false) (h:l.contains x=true):cM o l=x∧cN o l=true:=by
 have hf:o.find? (fun i=>l.contains i)=some x:=by
  rw [List.find?_eq_some_iff_getElem]
  obtain ⟨hk,he⟩:=List.getElem?_eq_some_iff.1 hx
  refine ⟨h,k,hk,he,fun j hj=> ?_⟩
  have:=hb j _ hj (List.getElem?_eq_getElem AA)
  simpa using this
 unfold cM cN
 rw [hf];exact ⟨rfl,rfl⟩
theorem Wz {o l:List Int} (hb:∀j y,j<o.length→o[j]? =some y→l.contains y=false):cM o l=0∧cN o l=false:=by
 have hf:o.find? (fun i=>l.contains i)=none:=by
  rw [List.find?_eq_none]
  intro y hy
  obtain ⟨j,hj,rfl⟩:=List.mem_iff_getElem.1 hy
  rw [hb j _ hj (List.getElem?_eq_getElem hj)];decide
 unfold cM cN
 rw [hf];exact ⟨rfl,rfl⟩
theorem N3 (l:List Int) (v:Int):(l.any fun x=>v==x)=l.contains v:=by rw [List.contains_eq_any_beq]
theorem Y8 (d:List Int):(HM d).length=d.length:=by rw [(iF d).2.length_eq,Gl]
theorem yK {l:List (Qw n)} {L:List Int} (h:l.map (·.1)=L):AF1 l=ints L:=by
 show slice 1 (l.map JH)=slice 1 (L.map fun n=>[int n])
 rw [←h,iG]
theorem LC {l:List Int} {v:Int}  :A0 prog 75 [ints l,int v] (bool (l.contains v)):=by
 refine fo func75 rfl ⟨rfl,rfl⟩ fun M0 w0=> ?_
 refine a2 ?_
 refine co rfl (Bq (tu) rfl rfl rfl) ?_
 refine a2 ?_
 · refine bool_eq ?_;rw [←N3];exact QS _ l
theorem Y9 {st:List Int} (x:Qw tr.length):A0 prog 139 [int x.1,ref (C3 l r d day st tr sp)] (bool (decide (tr.getD x.1.toNat 0≥4))):=by
 refine fo func139 rfl ⟨rfl,rfl⟩ fun M0 w0=> ?_
 have hxp:=x.2
 have htx:=Cv (l:=tr) (i:=x.1.toNat) AA
 refine a2 ?_
 refine co rfl (AD rfl underlying22 Bi vq vq AA (Bb htx)) ?_
 refine a2 ?_
 · exact Lr
theorem Y_:Entry Tryz.prog 139:=⟨_,Tryz.func139,rfl,rfl⟩
theorem zR {R:Int→Int→Prop} (hn:∀a b,R a b→R b a→False):∀{a b:List Int},a.Pairwise R→b.Pairwise R→(∀x,x∈a↔x∈b)→a=b
 |[],[],_,_,_=>rfl
 |[],y::b,_,_,h=>by have:=(h y).2 (List.mem_cons_self ..);cases this
 |x::a,[],_,_,h=>by have:=(h x).1 (List.mem_cons_self ..);cases this
 |x::a,y::b,ha,hb,h=>by
  obtain ⟨ha1,ha2⟩:=List.pairwise_cons.1 ha
  obtain ⟨N6,TW⟩:=List.pairwise_cons.1 hb
  have hxy:x=y:=by
   rcases List.mem_cons.1 ((h x).1 (List.mem_cons_self ..)) with h1|h1
   · exact h1
   ·
    rcases List.mem_cons.1 ((h y).2 (List.mem_cons_self ..)) with h2|h2
    · exact h2.symm
    · exact (hn _ _ (N6 x h1) (ha1 y h2)).elim
  subst hxy
  rw [zR hn ha2 TW fun z=>⟨fun hz=> ?_,fun hz=> ?_⟩]
  ·
   rcases List.mem_cons.1 ((h z).1 (List.mem_cons_of_mem _ hz)) with rfl|h1
   · exact (hn _ _ (ha1 z hz) (ha1 z hz)).elim
   · exact h1
  ·
   rcases List.mem_cons.1 ((h z).2 (List.mem_cons_of_mem _ hz)) with rfl|h1
   · exact (hn _ _ (N6 z hz) (N6 z hz)).elim
   · exact h1
theorem zS {p:Int→Bool}:∀{o:List Int} {j:Nat},j≤o.length→(∀m y,m<j→o[m]? =some y→p y=true)→(∀y,o[j]? =some y→p y=false)→o.takeWhile p=o.take j∧o.dropWhile p=o.drop j
  | [], j, h, _, _ => by obtain rfl : j = 0 := by simpa using h
                         exact ⟨rfl,rfl⟩
  |a::o,0,_,_,h3=>by have:=h3 a rfl;simp [this]
  |a::o,j+1,h1,h2,h3=>by
    have h4:=h2 0 a AA rfl
    obtain ⟨h5,h6⟩:=zS (o:=o) (j:=j) Gb (fun m y hm hy=>h2 (m+1) y AA hy) (fun y hy=>h3 y hy)
    simp [h4,h5,h6]
theorem yL {a b o:List Int} (h:a++b=o):o.take a.length=a∧o.drop a.length=b:=by subst h;simp
def Pw (d:List Int) (i y:Int):Bool:=decide (d.getD y.toNat 0≤d.getD i.toNat 0)
def Ty (d o:List Int) (i:Int):Nat:=(o.takeWhile (Pw d i)).length
def tv (d o:List Int) (i:Int):List Int:=o.take (Ty d o i)++[i]++o.drop (Ty d o i)
def Ly (d:List Int):Nat→List Int
 |0=>[]
 |k+1=>tv d (Ly d k) (k:Int)
theorem iO {o:List Int} {i:Int} (h:j≤o.length) (h1:∀m y,m<j→o[m]? =some y→Pw d i y=true) (h2:∀y,o[j]? =some y→Pw d i y=false):Ty d o i=j:=by
 unfold Ty
 rw [(zS h h1 h2).1,List.length_take];omega
theorem W0 (d:List Int):∀k:Nat,(Ly d k).Pairwise (Ww d)∧(∀x,x∈Ly d k↔0≤x∧x<(k:Int))∧(Ly d k).length=k
 |0=>⟨List.Pairwise.nil,fun x=>⟨fun h=>Fv,fun h=>by omega⟩,rfl⟩
 |k+1=>by
  obtain ⟨h1,h2,h3⟩:=W0 d k
  generalize ho:Ly d k=o at h1 h2 h3
  obtain ⟨e1,e2⟩:=yL (List.takeWhile_append_dropWhile (p:=Pw d k) (l:=o))
  have e3:Ly d (k+1)=o.takeWhile (Pw d k)++[(k:Int)]++o.dropWhile (Pw d k):=by
   show tv d (Ly d k) k=_
   unfold tv Ty
   rw [ho,e1,e2]
  have ht:∀y∈o.takeWhile (Pw d k),Pw d k y=true:=by
   clear h1 h2 h3 ho e1 e2 e3
   induction o with
   |nil=>intro y h;cases h
   |cons a o ih=>
    intro y hy
    rw [List.takeWhile_cons] at hy
    split at hy
    ·
     rcases List.mem_cons.1 hy with rfl|hy
     · exact Bh
     · exact ih y hy
    · cases hy
  have hd:∀y∈o.dropWhile (Pw d k),Pw d k y=false:=by
   clear h2 h3 ho e1 e2 e3 ht
   induction o with
   |nil=>intro y h;cases h
   |cons a o ih=>
    obtain ⟨g1,g2⟩:=List.pairwise_cons.1 h1
    intro y hy
    rw [List.dropWhile_cons] at hy
    split at hy
    · exact ih g2 y hy
    ·
     rename_i hq
     rcases List.mem_cons.1 hy with rfl|hy
     · simpa using hq
     ·
      have g3:=g1 y hy
      unfold Ww at g3
      unfold Pw at hq ⊢
      rw [decide_eq_true_eq] at hq
      rw [decide_eq_false_iff_not];omega
  have hm:∀y,y∈o↔y∈o.takeWhile (Pw d k)∨y∈o.dropWhile (Pw d k):=fun y=>by
   rw [←List.mem_append,List.takeWhile_append_dropWhile]
  have hp:=h1
  rw [←List.takeWhile_append_dropWhile (p:=Pw d k) (l:=o),List.pairwise_append] at hp
  obtain ⟨p1,p2,p3⟩:=hp
  have hl:=congrArg List.length (List.takeWhile_append_dropWhile (p:=Pw d k) (l:=o))
  rw [List.length_append] at hl
  rw [e3]
  refine ⟨?_,fun x=> ?_,by simp only [List.length_append,List.length_cons,List.length_nil];omega⟩
  ·
   rw [List.pairwise_append,List.pairwise_append]
   refine ⟨⟨p1,List.pairwise_singleton _ _,fun a ha b hb=> ?_⟩,p2,fun a ha b hb=> ?_⟩
   ·
    rw [List.mem_singleton] at hb;subst hb
    have:=ht a ha
    have:=(h2 a).1 ((hm a).2 (.inl ha))
    unfold Pw at*
    unfold Ww
    rw [decide_eq_true_eq] at*
    omega
   ·
    rcases List.mem_append.1 ha with ha|ha
    · exact p3 a ha b hb
    ·
     rw [List.mem_singleton] at ha;subst ha
     have:=hd b hb
     unfold Pw at this
     unfold Ww
     rw [decide_eq_false_iff_not] at this
     omega
  ·
   have:=h2 x
   rw [List.mem_append,List.mem_append,List.mem_singleton]
   rw [hm] at this
   constructor
   ·
    rintro ((h|h)|h)
    · have:=this.1 (.inl h);omega
    · omega
    · have:=this.1 (.inr h);omega
   ·
    intro h
    by_cases hx:x=(k:Int)
    · exact .inl (.inr hx)
    ·
     rcases this.2 AA with h|h
     · exact .inl (.inl h)
     · exact .inr h
theorem yM (d:List Int):Ly d d.length=HM d:=by
 obtain ⟨h1,h2,_⟩:=W0 d d.length
 obtain ⟨h3,h4⟩:=iF d
 refine zR (fun a b g1 g2=>by unfold Ww at*;omega) h1 h3 fun x=> ?_
 rw [h2,h4.mem_iff]
 exact ⟨fun h=>by unfold Hy;exact List.mem_map.2 ⟨x.toNat,List.mem_range.2 AA,by omega⟩,fun h=>Y0 x h⟩
theorem yN (d o:List Int) (i:Int):Ty d o i≤o.length:=by
 have h:=congrArg List.length (List.takeWhile_append_dropWhile (p:=Pw d i) (l:=o))
 rw [List.length_append] at h
 unfold Ty;omega
theorem tw {o:List Int} {i:Int} {x:Int} (hx:o[j]? =some x) (h:Pw d i x=true) (hi:∀m y,m<j→o[m]? =some y→Pw d i y=true):∀m y,m<j+1→o[m]? =some y→Pw d i y=true:=by grind
theorem cO (KJ:d.length=l.length) (hl:l.length≤1000000):A0 prog 28 [agg [CF l,reqs r,ints d]] (ints (HM d)):=by
 refine fo func28 rfl ⟨rfl,rfl⟩ fun M0 w0=>(Tr.FW 0 0 rfl rfl fun Gh=> ?_)
 refine a3 ?_
 refine Tr.block (Tr.B5 3 1 (Tr.EC _ (kk [9,1] rfl) (fun k v=>[(10,int ((k:Nat):Int)),(3,AV v (ints (Ly d k)))]) (fun k v=>Hp M0 w0 FO ([As 3 1 v])) (fun k:Nat=>k≤(l).length) (fun k:Nat=>(l).length-k) 0 (.slice none 0 0) (Nat.zero_le _) ⟨kq,⟨_,rfl,Bg rfl⟩,trivial⟩ (fun _ _ h=>h) ?_))
 rintro k v BJ
 refine ac ?_
 refine Tr.seq ?_
 refine Tr.cn rfl ?_ ?_<;>intro h1 q1
 have AZ:k<(l).length:=AH h1
 obtain ⟨x,AX⟩:=at_ AZ
 have hkd:k<d.length:=by omega
 have hok:=W0 d k
 have mM:=hok.2.2
 have hdk:=Cv hkd
 have hpl:=yN d (Ly d k) ((k:Nat):Int)
 refine a3 ?_
 refine wk [10,9,5,4,3,1] rfl (Tr.Pm [1,3,4,9,10] [(5,int ((Ty d (Ly d k) ((k:Nat):Int):Nat):Int))] (True) ?_ (fun h2=> ?_))
 refine Tr.block (Tr.Ax _ (kk [10,9,4,3,1] rfl) (fun j:Nat=>[(5,int ((j:Nat):Int))]) (fun j:Nat=>j≤k∧(∀m y,m<j→(Ly d k)[m]? =some y→Pw d ((k:Nat):Int) y=true)) (fun j:Nat=>k-j) 0 (⟨Nat.zero_le _,fun m y hj=>absurd hj AA⟩) kz ?_)
 rintro j ⟨AFo,hinv⟩
 refine ac ?_
 refine co rfl (FP rfl underlying22 Ea) ?_
 refine ag ?_ ?_<;>intro h3 q3
 obtain ⟨y,hy⟩:=at_ (l:=Ly d k) (k:=j) (by have:=q3;omega)
 have hyr:=(hok.2.1 y).1 (List.mem_of_getElem? hy)
 have hdy:=Cv (l:=d) (i:=y.toNat) AA
 refine ac ?_
 refine cy h3 rfl (AD rfl underlying22 Bi Ea vq AA (AR hy)) (cy h3 rfl (Iv rfl DL rfl) (cy h3 rfl (AD rfl underlying22 Bi vq vq AA (Bb hdy)) ?_))
 refine ac ?_
 refine cy h3 rfl (AD rfl underlying22 Bi vq vq AA (AR hdk)) ?_
 refine ac ?_
 refine wk [32,10,9,5,4,3,1] rfl ?_
 refine Tr.cn rfl ?_ ?_<;>intro h4 q4
 have hq:Pw d ((k:Nat):Int) y=true:=by unfold Pw;simpa using h4
 refine a2 ?_
 exact Fin.AM (j+1) ⟨⟨by omega,tw hy hq hinv⟩,by omega⟩ ⟨⟨_,rfl,AG j⟩,kz⟩
 have hp:Ty d (Ly d k) ((k:Nat):Int)=j:=iO AA hinv (fun z hz=>by rw [hy] at hz;cases hz;unfold Pw;simpa using h4)
 refine Tr.exit (Fin.BA (Fin.BA (Fin.Bn (Fin.AM () trivial ⟨⟨_,rfl,int_eq (by rw [hp])⟩,kz⟩))))
 have hp:Ty d (Ly d k) ((k:Nat):Int)=j:=iO AA hinv (fun y hy=>by have:=BH hy;have:=q3;omega)
 refine ac ?_
 refine wk [32,10,9,5,4,3,1] rfl (Tr.cond rfl (fun h=>nomatch h) (fun _=> ?_))
 refine Tr.exit (Fin.BA (Fin.BA (Fin.Bn (Fin.AM () trivial ⟨⟨_,rfl,int_eq (by rw [hp])⟩,kz⟩))))
 refine ap ?_
 refine tp rfl (Dp rfl underlying22 Bi Ea vq AA CL) ?_
 refine TO.pad ?_
 refine TO.Df 0 rfl rfl AB (EM rfl rfl AB rfl underlying22 Bi G_ z3 rfl AB ⟨_,rfl,AP _⟩ vq JJ JK (Bs BK ⟨_,rfl,Ck 1⟩)) (fun v1=> ?_)
 refine ap ?_
 refine ap ?_
 refine TO.Df 0 rfl rfl AB (B9 rfl rfl rfl rfl underlying22 Bi G_ z3 Ea Db (Ay BK FC)) (fun v2=> ?_)
 refine ap ?_
 refine wk [10,9,6,5,3,1] rfl ?_
 refine ap ?_
 refine tp rfl (De rfl underlying22 Bi Ea vq AA CL) ?_
 refine TO.Df 0 rfl rfl AB (B9 rfl rfl rfl rfl underlying22 Bi G_ z3 Ea vq (Ay BK FC)) (fun v3=> ?_)
 refine ap ?_
 refine ac ?_
 refine Fin.G3 (Fin.drop 0 ?_)
 exact Fin.C8 (k+1) v3 (⟨AZ,by omega⟩) ⟨⟨_,rfl,AG k⟩,⟨_,rfl,BB (by show _=(tv d (Ly d k) ((k:Nat):Int)).map fun n=>[int n];unfold tv;simp [List.map_take,List.map_drop])⟩,kz⟩ (fun _ _ h=>h)
 have A8:k=(l).length:=by have:=AJ h1;omega
 subst A8
 refine a3 ?_
 · refine Pr.le_trans (Ao _ _) (Pr.le_of_eq ?_);rw [←KJ,yM]
def GC (r:List BM) (d st tr:List Int) (day:Int):List Int:=(FA r d (BS st) day).filter fun i=> !decide (tr.getD i.toNat 0≥4)
theorem Lp {st:List Int} {x:Int}:x∈BS st↔∃i:Nat,st[i]? =some 1∧x=(i:Int):=by grind [BS]
theorem U0 (st:List Int):(BS st).Pairwise (· < ·):=by
 unfold BS
 rw [List.pairwise_map]
 exact (List.pairwise_lt_range.filter _).imp fun h=>by omega
theorem lR {st:List Int}:∀x∈BS st,0≤x∧x<(st.length:Int):=fun x hx=>by
 obtain ⟨i,hi,rfl⟩:=Lp.1 hx
 obtain ⟨h1,_⟩:=List.getElem?_eq_some_iff.1 hi
 omega
theorem t_:∀{a b:List Int},a.Pairwise (· < ·)→b.Pairwise (· < ·)→(∀x,x∈a↔x∈b)→a=b
 |[],[],_,_,_=>rfl
 |[],y::b,_,_,h=>by have:=(h y).2 (List.mem_cons_self ..);cases this
 |x::a,[],_,_,h=>by have:=(h x).1 (List.mem_cons_self ..);cases this
 |x::a,y::b,ha,hb,h=>by
  obtain ⟨ha1,ha2⟩:=List.pairwise_cons.1 ha
  obtain ⟨N6,TW⟩:=List.pairwise_cons.1 hb
  have hxy:x=y:=by
   rcases List.mem_cons.1 ((h x).1 (List.mem_cons_self ..)) with h1|h1
   · exact h1
   ·
    rcases List.mem_cons.1 ((h y).2 (List.mem_cons_self ..)) with h2|h2
    · exact h2.symm
    · have:=N6 x h1;have:=ha1 y h2;omega
  subst hxy
  rw [t_ ha2 TW fun z=> ?_]
  constructor
  ·
   intro hz
   rcases List.mem_cons.1 ((h z).1 (List.mem_cons_of_mem _ hz)) with h1|h1
   · have:=ha1 z hz;omega
   · exact h1
  ·
   intro hz
   rcases List.mem_cons.1 ((h z).2 (List.mem_cons_of_mem _ hz)) with h1|h1
   · have:=N6 z hz;omega
   · exact h1
theorem lS {st:List Int} (hi:i<st.length) (hn:(i:Int)∉BS st):BS (st.set i 1)=EG (BS st) (i:Int) true:=by grind [t_,U0,Y2,Dj,Lp]
structure LD (r:List BM) (d st:List Int):Prop where
 sl:st.length=d.length
 cl:CK r (BS st)=true
 s01:∀x∈st,x=0∨x=1
theorem LD.zero (r:List BM) (d:List Int):LD r d (List.replicate d.length 0):=
 ⟨List.length_replicate,by rw [Pj];exact Cl.2 (fun q _ h=>by cases h),(fun x hx=> .inl (List.eq_of_mem_replicate hx))⟩
theorem LD.done {st:List Int} (h:LD r d st):HB d.length r (BS st):=⟨U0 _,by rw [←h.sl];exact lR,h.cl⟩
theorem Qz {x:Int} (h:x∈FA r d s day):(0≤x∧x<(d.length:Int))∧d.getD x.toNat 0≤day∧x∈Fo (d.length:Nat) r s:=by
 unfold FA at h
 obtain ⟨h1,h2⟩:=List.mem_filter.1 h
 refine ⟨Qx x h1,?_,h1⟩
 rw [Bool.not_eq_true',decide_eq_false_iff_not] at h2
 omega
theorem LD.at0 {st:List Int} {x:Int} (h:LD r d st) (hx:0≤x∧x<(d.length:Int)) (hn:x∉BS st):st.getD x.toNat 0=0:=by
 have hl:x.toNat<st.length:=by rw [h.sl];omega
 rw [List.getD_eq_getElem?_getD,List.getElem?_eq_getElem hl]
 show st[x.toNat]=0
 rcases h.s01 _ (List.getElem_mem hl) with h1|h1
 · exact h1
 · exact absurd (Lp.2 ⟨x.toNat,by rw [List.getElem?_eq_getElem hl,h1],by omega⟩) hn
theorem LD.next {st:List Int} {x:Int} (hv:BD (d.length:Nat) r=0) (h:LD r d st) (hx:x∈FA r d (BS st) day):
  LD r d (st.set x.toNat 1)∧st.set x.toNat (st.getD x.toNat 0+1)=st.set x.toNat 1∧(BS (st.set x.toNat 1)).length=(BS st).length+1:=by
 obtain ⟨h1,_,h2⟩:=Qz hx
 rw [(h.done.due hv).2] at h2
 obtain ⟨_,h3,h4⟩:=Qy h2
 have he:((x.toNat:Nat):Int)=x:=by omega
 have hs:BS (st.set x.toNat 1)=EG (BS st) x true:=by
  have:=lS (st:=st) (i:=x.toNat) (by rw [h.sl];omega) (by rw [he];exact h3)
  rw [he] at this;exact this
 refine ⟨⟨by rw [List.length_set];exact h.sl,by rw [hs];exact h4,fun y hy=> ?_⟩,by rw [h.at0 h1 h3];rfl,by rw [hs];exact HJ h3⟩
 rcases List.mem_or_eq_of_mem_set hy with hy|rfl
 · exact h.s01 y hy
 · exact .inr rfl
theorem LD.full {st:List Int} (hv:BD (d.length:Nat) r=0) (h:LD r d st) (hd:∀x∈d,x≤day) (hn:FA r d (BS st) day=[]):(BS st).length=d.length∧∀x∈st,x=1:=by
 have hal:∀i:Nat,i<d.length→(i:Int)∈BS st:=fun i hi=>by
  refine Classical.byContradiction fun hc=> ?_
  refine az (n:=((d.length:Nat):Int)) hv h.cl (by simpa using hi) hc ?_
  rw [show ((d.length:Nat):Int).toNat=d.length by simp]
  unfold FA at hn
  rw [(h.done.due hv).2,List.filter_eq_nil_iff] at hn
  refine List.eq_nil_iff_forall_not_mem.2 fun x hx=> ?_
  have hr:=(Qy hx).1
  have hdx:=Cv (l:=d) (i:=x.toNat) AA
  have:=hd _ (List.mem_of_getElem? hdx)
  have:=hn x hx
  rw [Bool.not_eq_true',decide_eq_false_iff_not] at this
  omega
 have hst:∀x∈st,x=1:=fun x hx=>by
  obtain ⟨i,hi⟩:=List.mem_iff_getElem?.1 hx
  obtain ⟨h1,_⟩:=List.getElem?_eq_some_iff.1 hi
  obtain ⟨j,hj,he⟩:=Lp.1 (hal i (by rw [←h.sl];exact h1))
  have:i=j:=by omega
  subst this
  rw [hi] at hj;exact Option.some.inj hj
 refine ⟨?_,hst⟩
 unfold BS
 rw [List.length_map,List.filter_eq_self.2,List.length_range,h.sl]
 intro i hi
 have hi:=List.mem_range.1 hi
 rw [List.getD_eq_getElem?_getD,List.getElem?_eq_getElem hi,decide_eq_true_eq]
 exact hst _ (List.getElem_mem hi)
theorem LD.none {st:List Int} (hv:BD (d.length:Nat) r=0) (h:LD r d st) (hl:(BS st).length=d.length):FA r d (BS st) day=[]:=by
 unfold FA
 rw [(h.done.due hv).2,h.done.none hl];rfl
theorem LD.Tx {st:List Int} (hf:Nz m l r d) (h:LD r d st) (hd:0≤day∧day≤40000):Tx l.length r d day st st=true:=by
 have hs:Di ((l.length:Nat):Int) (BS st)=true:=by rw [←hf.dl];exact h.done.set
 obtain ⟨h1,h2⟩:=YZ (n:=((l.length:Nat):Int)) hf.v hs
 have hm:∀m:Int,1≤m→GR m st=false:=fun m hm=>by
  unfold GR
  rw [List.any_eq_false]
  intro x hx
  have:=h.s01 x hx
  unfold KB
  rw [decide_eq_true_eq];omega
 have YQ:=h.sl.trans hf.dl
 exact Fp.2 ⟨⟨⟨hf.l24,hf.dl⟩,YQ,YQ⟩,⟨⟨hf.in_,by unfold KB;rw [decide_eq_false_iff_not];omega⟩,hm 3 AB,hm 4 AB⟩,h1,by rw [h2];exact h.cl⟩
theorem LD.Ql {st:List Int} (h:LD r d st):∀x∈st,0≤x∧x<4:=fun x hx=>by have:=h.s01 x hx;omega
theorem U1 (st:List Int):(BS st).length≤st.length:=by rw [lO];exact Ms _ _
theorem U2 {st:List Int} (DF:∀x∈l,x.Cb.small) (hl:l.length≤1000000) (hr:r.length≤1000000) (hd:d.length≤1000000) (hst:st.length≤1000000) (htr:tr.length≤1000000):Ef (α:=Value×Value) prog 73 [agg (C3 l r d day st tr sp)] [] (fun _=>True) (fun x=>agg [CF l,reqs r,ints d,int day,is x.1,is x.2,Cp.bool sp]) (fun x=>[Ba 3 1 (st.map fun n=>[int n]) x.1,Ba 3 1 (tr.map fun n=>[int n]) x.2]):=by
 refine Ef.of func73 rfl rfl Am fun M0 w0 S rs M1 w1=>(Tr.seq (Tr.BE ?_))
 refine TO.Vk rfl rfl AB rfl Be (fun b1=> ?_)
 refine Tl rfl rfl rfl rfl z42 D7 (fun b2=> ?_)
 refine ap ?_
 refine Tr.seq (Tr.pad (Tr.pad (Tr.rx ?_)))
 refine ay ?_
 refine xo rfl (fun _=>CM (Y3 DF hl hr hd) rfl rfl) ?_
 refine ay ?_
 refine Cx.ef 0 rfl rfl AB (F2 rfl rfl AB rfl (Oa (l:=st) hst) kz) ?_
 refine ay ?_
 refine Cx.ef 1 rfl rfl AB (F2 rfl rfl AB rfl (Oa (l:=tr) htr) kz) ?_
 refine xo rfl (fun _=>Aq rfl Z6 vq) (Cx.DP 3 rfl rfl (BF rfl rfl vq Be CU rfl Am rfl) (xo rfl (fun _=>Aq rfl nq vq) ?_))
 refine Cx.DP 3 rfl rfl (tR (s:=8) (R':=fun v=>AF true b1 42 [CF l,reqs r,ints d,int day,AV v (lens st.length),ints tr,Cp.bool sp]) rfl rfl AB rfl (fun v=>BF rfl rfl (vl rfl) (Vo rfl) NO rfl Am rfl)) ?_
 refine xo rfl (fun _=>Aq rfl nr (vl rfl)) (Cx.DP 3 rfl rfl (ABm (s:=8) (t:=11) (f:=fun v=>AF true b1 42 [CF l,reqs r,ints d,int day,AV v (lens st.length),ints tr,Cp.bool sp]) (R':=fun u v=>AF true b1 42 [CF l,reqs r,ints d,int day,AV u (lens st.length),AV v (lens tr.length),Cp.bool sp]) rfl rfl AB rfl (fun u v=>BF rfl rfl (vl rfl) (Vo rfl) NO rfl Am rfl)) ?_)
 refine Cx.nil ⟨by kernel_rfl,?_⟩
 refine Aw.Uh 8 rfl (fun v8=> ?_)
 refine Aw.Uh 11 rfl (fun v11=> ?_)
 refine Aw.Pt 0 8 rfl rfl (Aw.Pt 1 11 rfl rfl (Aw.bM 3 11 8 rfl rfl rfl (Aw.done al5 (Fin.go (wk [2,1] rfl ?_)))))
 refine ap ?_
 refine Tr.ret (Fin.drop 3 (Fin.tS ((v8,v11)) [_] rfl (AL.cell 2 rfl rfl CW B7 rfl Lr) trivial ?_ ((CH (j:=2) rfl).trans (List.Perm.cons _ ((CH (j:=0) rfl).trans (List.Perm.cons _ ((CH (j:=0) rfl).trans (List.Perm.cons _ (List.Perm.refl _)))))))))
 · exact BR ⟨Lr,Lr,Lr,Lr,Ct _ _,Ct _ _,Lr,trivial⟩
theorem max_le:∀{l:List Int} {a m:Int},a≤m→(∀x∈l,x≤m)→l.foldl max a≤m
 |[],_,_,h,_=>h
 |b::l,a,m,h,hl=>by
  rw [List.foldl_cons]
  have:=hl b (List.mem_cons_self ..)
  exact max_le AA fun x hx=>hl x (List.mem_cons_of_mem _ hx)
theorem Nz.last (h:Nz m l r d):sE d≤40000:=max_le AB fun x hx=>by
 have h1:=List.any_eq_false.1 h.in_ x hx
 unfold KB at h1
 rw [decide_eq_true_eq] at h1;omega
theorem Q0 {st:List Int} {x:Int}:x∈GC r d st tr day↔x∈FA r d (BS st) day∧tr.getD x.toNat 0<4:=by
 unfold GC
 rw [List.mem_filter,Bool.not_eq_true',decide_eq_false_iff_not]
 refine and_congr_right fun _=>by omega
theorem iP {st:List Int} (hst:st.length≤1000000) (htd:tr.length=d.length):BP prog 79 [agg (C3 l r d day st tr sp)] (ints (GC r d st tr day)) (CE) (fun _=>CE):=by
 refine BP.of func79 rfl rfl Am fun M0 w0 S rs M1 w1=> ?_
 obtain ⟨lz,hlz⟩:=toZ (n:=tr.length) (L:=FA r d (BS st) day) (fun x hx=>by have:=Qx x (List.mem_filter.1 hx).1;omega)
 have hfz:(lz.filter fun x=> !decide (tr.getD x.1.toNat 0≥4)).map (·.1)=GC r d st tr day:=by unfold GC;rw [←hlz];exact zQ lz (fun i=> !decide (tr.getD i.toNat 0≥4))
 refine ac ?_
 refine Tr.seq (Tr.rx ?_)
 refine ay ?_
 refine xo rfl (fun _=>CM (LB hst) rfl rfl) ?_
 refine ay ?_
 refine Cx.ef 0 rfl rfl AB (F2 rfl rfl AB rfl (Ef.both rfl (yG (l:=l) (r:=r) (d:=d) (s:=BS st) (day:=day))) ⟨kq,kz⟩) ?_
 refine Cx.ef 0 rfl rfl AB (Wx (s:=12) (f:=(fun u=>N0 CE (BG 3 1 ((FA r d (BS st) day).map (fun n=>[int n])) (lN u)))) (g:=(fun u=>N0 CE (BG 3 1 ((FA r d (BS st) day).map (fun n=>[int n])) (lN u)))) id rfl rfl AB rfl AB (fun _=>rfl) (fun u I=>Cs rfl vq)) (Cx.ef 0 rfl rfl AB (Wx (s:=5) (f:=(fun u=>N0 CE (BG 3 1 ((FA r d (BS st) day).map (fun n=>[int n])) (lN u)))) (g:=(fun v=>N0 CE (BG 3 1 ((FA r d (BS st) day).map (fun n=>[int n])) v))) lN rfl rfl AB rfl AB (fun _=>rfl) (fun u I=>ABn rfl vq)) (xo rfl (fun _=>EA rfl vq rfl) (Cx.ef 0 rfl rfl AB (Wx (s:=13) (f:=(fun v=>N0 CE (BG 3 1 ((FA r d (BS st) day).map (fun n=>[int n])) v))) (g:=(fun v=>N0 CE (BG 3 1 ((FA r d (BS st) day).map (fun n=>[int n])) v))) id rfl rfl AB rfl AB (fun _=>rfl) (fun u I=>Fa rfl vq)) (xm rfl ?_))))
 refine Cx.nil ⟨by kernel_rfl,?_⟩
 refine Aw.Uh 3 rfl (fun x1=> ?_)
 refine Aw.Pt 0 3 rfl rfl (Aw.done UL (Fin.ABo 0 rfl (Fin.go (wk [3,1] rfl (Tr.seq (Tr.YY 1 rfl (fun zU ABr=> ?_) ?_))))))
 subst ABr
 refine Tr.re 3 rfl (Ct _ _:Pr.le _ (is (.slice none 0 0))) ?_
 refine ac ?_
 refine co rfl (Ah rfl (TG (p:=(fun x:Qw tr.length=>decide (tr.getD x.1.toNat 0≥4)))) ⟨kq,⟨_,rfl,EK Y_ (fun x=>Y9 x)⟩,trivial⟩) ?_
 refine ac ?_
 refine Tr.ret (Fin.drop 1 (Fin.EV rfl rfl ?_ (fun _ _ _ _=>rfl)))
 · rw [show GC r d st tr day=[] by unfold GC;rw [List.map_eq_nil_iff.1 zU];rfl];exact AP 1
 refine Tr.PJ 1 rfl fun b1 ABs sp1 XH hg1 hm1 hs1=> ?_
 subst XH
 rw [←hlz,iG] at hg1 hs1 ⊢
 refine ap ?_
 refine TO.F0 1 rfl rfl AB (Ae rfl rfl AB rfl (Uz (l:=lz) (p:=(fun x:Qw tr.length=>decide (tr.getD x.1.toNat 0≥4))) (sp:=sp1) hg1 hm1 hs1) ⟨FC,⟨_,rfl,EK Y_ (fun x=>Y9 x)⟩,trivial⟩) ?_
 refine ap ?_
 refine Tr.ret ?_
 refine Fin.Z8 (sz:=1) ((lz.filter fun x=> !decide (tr.getD x.1.toNat 0≥4)).map JH) 1 2 rfl rfl Lr (AW fun _=>rfl) (by rw [List.length_map] at hg1 ⊢;exact Nat.le_trans (List.length_filter_le _ _) hg1) hm1 (by simp only [List.length_append,List.length_map,hs1];rw [C5 (sz:=1) (fun r hr=>by rw [List.eq_of_mem_replicate hr];rfl)];simp only [List.length_map,List.length_replicate];exact ABq (by rw [List.length_map] at hg1;exact hg1) (List.length_filter_le _ _)) ?_
 refine Fin.drop 1 (Fin.EV rfl rfl ?_ (fun _ _ _ _=>rfl))
 · exact Pr.le_trans (Ao _ _) (Pr.le_of_eq (yK hfz))
theorem lT {st:List Int} (hst:st.length≤1000000) (htd:tr.length=d.length) (hd:d.length≤19):BP prog 27 [agg (C3 l r d day st tr false)] (C_ [int (cM (HM d) (GC r d st tr day)),bool (cN (HM d) (GC r d st tr day))]) (CE) (fun _=>CE):=by
 refine BP.of func27 rfl rfl Am fun M0 w0 S rs M1 w1=> ?_
 have mM:=Y8 d
 refine ac ?_
 refine an ?_ ?_<;>intro h1 q1
 exact absurd h1 AB
 refine ac ?_
 refine ap ?_
 refine TO.F0 0 rfl rfl AB (Ae rfl rfl AB rfl (iP hst htd) kz) ?_
 refine ap ?_
 refine ac ?_
 refine co rfl (CM (tQ hd) rfl rfl) ?_
 refine ac ?_
 refine Tr.block (Tr.Ax _ (kk [14,13,4] rfl) (fun k:Nat=>[(15,int ((k:Nat):Int))]) (fun k:Nat=>k≤((HM d)).length∧(∀j y,j<k→(HM d)[j]? =some y→(GC r d st tr day).contains y=false)) (fun k:Nat=>((HM d)).length-k) 0 (⟨Nat.zero_le _,fun j y hj=>absurd hj AA⟩) kz ?_)
 rintro k ⟨BJ,AQ⟩
 refine ac ?_
 refine Tr.seq ?_
 refine Tr.cn rfl ?_ ?_<;>intro h2 q2
 have AZ:k<((HM d)).length:=AH h2
 obtain ⟨x,AX⟩:=at_ AZ
 refine ac ?_
 refine Tr.seq (Tr.block (Tr.seq (Tr.Bt (co rfl (AD rfl underlying22 Bi vq vq AA (AR AX)) ?_))))
 refine a2 ?_
 refine co rfl (Bq (LC) rfl rfl rfl) ?_
 refine an ?_ ?_<;>intro h3 q3
 refine ac ?_
 refine wk [3,2] rfl (Tr.ret (Fin.AU (Fin.AE (Fin.AE (Fin.AU (Fin.AE (Fin.FG rfl rfl ?_ rfl ?_)))))))
 · refine int_eq ?_;exact (VT AX AQ Bp).1.symm
 · exact eE
 refine a2 ?_
 exact Fin.AM (k+1) ⟨⟨AZ,DR (p:=fun y=>(GC r d st tr day).contains y) AX Bp AQ⟩,by omega⟩ ⟨⟨_,rfl,AG k⟩,kz⟩
 have A8:k=((HM d)).length:=by have:=AJ h2;omega
 subst A8
 refine a2 ?_
 refine Tr.ret (Fin.FG rfl rfl ?_ rfl ?_)
 · refine int_eq ?_;exact (Wz AQ).1.symm
 · refine bool_eq ?_;exact (Wz AQ).2.symm
def VI (l:List Bm) (r:List BM) (d:List Int) (day:Int) (st tr:List Int) (i:Int) (x y z:Bw):List Pr:=if (GC r d st tr day).contains i=true then C3 l r d day (if z=y then st.set i.toNat 1 else if z=x then st.set i.toNat 2 else st) (tr.set i.toNat (tr.getD i.toNat 0+1)) (!decide (z=y∨z=x)) else C3 l r d day st tr false
theorem ZA {st:List Int} {step:Int} {x y z:Bw} (DF:∀x∈l,x.Cb.small) (hl:l.length≤1000000) (hr:r.length≤1000000) (hd:d.length≤1000000) (hst:st.length≤1000000) (htr:tr.length≤1000000) (htd:tr.length=d.length) (hsd:st.length=d.length) (ht4:∀x∈tr,0≤x∧x≤4):BP prog 30 [agg (C3 l r d day st tr false),int step,agg (BQ x),agg (BQ y),agg (BQ z)] (C_ [agg (VI l r d day st tr step x y z),int (if (GC r d st tr day).contains step=true then 0 else 44)]) (CE) (fun _=>CE):=by
 refine BP.of func30 rfl rfl Am fun M0 w0 S rs M1 w1=> ?_
 refine Tr.seq (Tr.BE ?_)
 iterate 4 refine tp rfl (BU rfl Be) ?_
 refine Tl rfl rfl rfl rfl z42 D7 (fun b1=> ?_)
 refine ao ?_
 refine ao ?_
 refine TO.Gs _ rfl rfl AB rfl (U2 (sp:=false) DF hl hr hd hst htr) kz (List.Perm.refl _) (fun x1 _=> ?_)
 refine Tl rfl rfl rfl rfl z42 D7 (fun b2=> ?_)
 refine TO.AK 0 rfl rfl rfl vq Be rfl B7 rfl rfl ?_
 refine ao ?_
 refine ac ?_
 refine wk [15,12,10,9,8,7,5,1] rfl ?_
 refine Tr.cn rfl ?_ ?_<;>intro h1 q1
 exact absurd h1 AB
 refine ao ?_
 refine TO.F0 4 rfl rfl AB (Ae rfl rfl AB rfl (iP hst htd) kz) (tm rfl (tp rfl (Bq (LC) rfl rfl rfl) ?_))
 refine ao ?_
 refine wk [19,12,10,9,8,7,1] rfl ?_
 refine Tr.cn rfl ?_ ?_<;>intro h2 q2
 have hno:(GC r d st tr day).contains step=false:=by simpa using h2
 refine Tr.seq (Tr.CA 0 1 4 rfl rfl AB rfl Lr (AW fun _=>rfl) (Tr.CA 0 2 5 rfl rfl AB rfl Lr (AW fun _=>rfl) ?_))
 refine ao ?_
 refine TO.AK 3 rfl rfl rfl vq Be rfl B7 rfl rfl ?_
 refine ao ?_
 refine Tr.drop 1 (Tr.drop 1 (Tr.ret (Fin.AU (Fin.AE (Fin.J2 [_,_] rfl (AL.cell 1 rfl rfl CW B7 rfl Lr) (AL.tmp rfl Lr) ?_)))))
 refine Al ⟨?_,?_,trivial⟩
 · unfold VI;rw [if_neg QF];exact Lr
 · exact int_eq (if_neg QF).symm
 have hin:(GC r d st tr day).contains step=true:=by simpa using h2
 obtain ⟨kg,_,_⟩:=Qz (Q0.1 (List.contains_iff_mem.1 hin)).1
 have hsi:st[step.toNat]? =some (st.getD step.toNat 0):=Cv AA
 have mY:tr[step.toNat]? =some (tr.getD step.toNat 0):=Cv AA
 have htb:=ht4 _ (List.mem_of_getElem? mY)
 refine a2 ?_
 refine co rfl (Bq (fZ) rfl rfl rfl) ?_
 refine an ?_ ?_<;>intro h3 q3
 have hzy:z=y:=by simpa using h3
 refine ao ?_
 refine tp rfl (CC 1 rfl (Dy rfl underlying22 Bi vq vq AA B8)) ?_
 refine TO.DP 1 rfl rfl (Ca rfl rfl vq F7 Bi rfl (AW fun _=>rfl) LI AB (show _=(st.set step.toNat 1).map _ by rw [List.map_set];rfl)) ?_
 refine ao ?_
 refine wk [12,10,1] rfl ?_
 refine ao ?_
 refine tp rfl (CC 2 rfl (Dy rfl underlying22 Bi vq vq AA B8)) ?_
 refine tp rfl (CC 2 rfl (Hq rfl DL vq (AW fun _=>rfl) IV rfl)) ?_
 refine tp rfl (Gz rfl vq vq ?hin) ?_;case hin=>unfold RO;omega
 refine tp rfl (CC 2 rfl (Dy rfl underlying22 Bi vq vq AA B8)) ?_
 refine TO.DP 2 rfl rfl (Ca rfl rfl vq F7 Bi rfl (AW fun _=>rfl) IV AB (show _=(tr.set step.toNat (tr.getD step.toNat 0+1)).map _ by rw [List.map_set];rfl)) ?_
 refine ao ?_
 refine Tr.seq (Tr.CA 0 1 4 rfl rfl AB rfl Lr (AW fun _=>rfl) (Tr.CA 0 2 5 rfl rfl AB rfl Lr (AW fun _=>rfl) ?_))
 refine ao ?_
 refine TO.AK 3 rfl rfl rfl vq Be rfl B7 rfl rfl ?_
 refine ao ?_
 refine Tr.drop 1 (Tr.drop 1 (Tr.ret (Fin.J2 [_,_] rfl (AL.cell 1 rfl rfl CW B7 rfl Lr) (AL.tmp rfl Lr) ?_)))
 refine Al ⟨?_,?_,trivial⟩
 · exact dx
 · exact Hz
 have hzy:¬z=y:=by simpa using h3
 refine ac ?_
 refine co rfl (Bq (fZ) rfl rfl rfl) ?_
 refine ac ?_
 refine wk [35,12,10,1] rfl ?_
 refine Tr.cn rfl ?_ ?_<;>intro h4 q4
 have hzx:z=x:=by simpa using h4
 refine ao ?_
 refine tp rfl (CC 1 rfl (Dy rfl underlying22 Bi vq vq AA B8)) ?_
 refine TO.DP 1 rfl rfl (Ca rfl rfl vq F7 Bi rfl (AW fun _=>rfl) LI AB (show _=(st.set step.toNat 2).map _ by rw [List.map_set];rfl)) ?_
 refine ao ?_
 refine ao ?_
 refine tp rfl (CC 2 rfl (Dy rfl underlying22 Bi vq vq AA B8)) ?_
 refine tp rfl (CC 2 rfl (Hq rfl DL vq (AW fun _=>rfl) IV rfl)) ?_
 refine tp rfl (Gz rfl vq vq ?hin) ?_;case hin=>unfold RO;omega
 refine tp rfl (CC 2 rfl (Dy rfl underlying22 Bi vq vq AA B8)) ?_
 refine TO.DP 2 rfl rfl (Ca rfl rfl vq F7 Bi rfl (AW fun _=>rfl) IV AB (show _=(tr.set step.toNat (tr.getD step.toNat 0+1)).map _ by rw [List.map_set];rfl)) ?_
 refine ao ?_
 refine wk [12,10] rfl (Tr.seq (Tr.CA 0 1 4 rfl rfl AB rfl Lr (AW fun _=>rfl) (Tr.CA 0 2 5 rfl rfl AB rfl Lr (AW fun _=>rfl) ?_)))
 refine ao ?_
 refine TO.AK 3 rfl rfl rfl vq Be rfl B7 rfl rfl ?_
 refine ao ?_
 refine Tr.drop 1 (Tr.drop 1 (Tr.ret (Fin.J2 [_,_] rfl (AL.cell 1 rfl rfl CW B7 rfl Lr) (AL.tmp rfl Lr) ?_)))
 refine Al ⟨?_,?_,trivial⟩
 · exact dS
 · exact Hz
 have hzx:¬z=x:=by simpa using h4
 refine ao ?_
 refine TO.DP 0 rfl rfl (BF rfl rfl vq F7 UF rfl Am rfl) ?_
 refine ao ?_
 refine ao ?_
 refine tp rfl (CC 2 rfl (Dy rfl underlying22 Bi vq vq AA B8)) ?_
 refine tp rfl (CC 2 rfl (Hq rfl DL vq (AW fun _=>rfl) IV rfl)) ?_
 refine tp rfl (Gz rfl vq vq ?hin) ?_;case hin=>unfold RO;omega
 refine tp rfl (CC 2 rfl (Dy rfl underlying22 Bi vq vq AA B8)) ?_
 refine TO.DP 2 rfl rfl (Ca rfl rfl vq F7 Bi rfl (AW fun _=>rfl) IV AB (show _=(tr.set step.toNat (tr.getD step.toNat 0+1)).map _ by rw [List.map_set];rfl)) ?_
 refine ao ?_
 refine Tr.seq (Tr.CA 0 1 4 rfl rfl AB rfl Lr (AW fun _=>rfl) (Tr.CA 0 2 5 rfl rfl AB rfl Lr (AW fun _=>rfl) ?_))
 refine ao ?_
 refine TO.AK 3 rfl rfl rfl vq Be rfl B7 rfl rfl ?_
 refine ao ?_
 refine Tr.drop 1 (Tr.drop 1 (wk [11,10] rfl (Tr.ret (Fin.J2 [_,_] rfl (AL.cell 1 rfl rfl CW B7 rfl Lr) (AL.tmp rfl Lr) ?_))))
 refine Al ⟨?_,?_,trivial⟩
 · exact dO
 · exact Hz
end Go.Proofs.YtmocaapoeefgkaaGreatDoor
namespace Cp
open Go Go.RowKit Go.Great
section
variable {P:Program} {n:Fm} {E:Env} {M0:Av} {w0:World} {S:Nat→Prop} {o:Oper}
theorem ABv {t:TypeId} {x:Operand} {y:Tmp} {b j m:Nat} {T:TypeId} {new:Bool} {ps qs:List Pr} {p:Pr} (hg:o.guard=none) (hd:o.dst=none) (ho:o.op= .store t x (.tmp y)) (hx:E.lookup y=some p) (hxs:∀v,VL ((y,AV v p)::E) x (ptr b 0)) (hp:Pr.le p (DA qs)) (hz:A9 P t=some m) (hm:qs.length=m) (hl:ps.length=m):
  DH P M0 w0 S n j (SR.c (AF new b T ps)) ⟨y,fun u=>AF new b T (u.cells.toList.map is)⟩ o E any:=by
 refine tR hd hx (JD (op:= .store t x (.tmp y)) M_ ho) hg fun v=> ?_
 refine ⟨hg,fun M w a rs hsz he hI hj=> ?_⟩
 have hyl:y∈looks o:=JD (op:= .store t x (.tmp y)) M_ ho
 have hv:(AV v p).h M w (a.tmps.getD y undef):=he y _ hyl List.lookup_cons_self
 obtain ⟨rfl,QJ⟩:=hv
 have hc:=hp _ _ _ QJ
 have hle:Pr.le (AV (a.tmps.getD y undef) (DA qs)) (DA ((a.tmps.getD y undef).cells.toList.map is)):=fun M w v h=>by
  obtain ⟨rfl,h2⟩:=h
  obtain ⟨g1,g2⟩:=h2
  exact ⟨KV _ _ _,g2⟩
 have AJN:Pr.le (AV (a.tmps.getD y undef) p) (DA ((a.tmps.getD y undef).cells.toList.map is)):=fun M w v h=>hle M w v ⟨h.1,hp _ _ _ h.2⟩
 exact (BF (P:=P) (M0:=M0) (w0:=w0) (S:=S) (n:=n) (j:=j) hg ho (hxs _) ⟨_,List.lookup_cons_self,AJN⟩ hz (by have:=hc.1.length;rw [List.length_map];omega) AA (by rw [List.take_zero,List.nil_append,List.drop_eq_nil_of_le AA,List.append_nil])).2 M w a rs hsz he hI hj
end
end Cp
namespace Go.Proofs.YtmocaapoeefgkaaGreatDoor
open Go Go.RowKit Cp Go.Proofs.Tryz
variable {sp:Bool} {day:Int} {l:List Bm} {d s tr:List Int} {r:List BM} {k n:Nat}
theorem N4 {n:Int} {l:List BM} (hl:l.length≤1000000):A0 prog 31 [int n,reqs l,ints s] (C_ [bool (Sr n l s),int (Lw n l s)]):=by
 refine fo func31 rfl ⟨rfl,rfl⟩ fun M0 w0=> ?_
 refine a2 ?_
 refine co rfl (Bq (Hu hl) rfl rfl rfl) ?_
 refine ac ?_
 refine an ?_ ?_<;>intro h1 q1
 have hv:=zI (s:=s) (n:=n) (l:=l) Gb
 refine ac ?_
 refine Tr.ret (Fin.AE (Fin.C6 rfl (Bv.EU _ _) rfl ?_ rfl ?_))
 · refine bool_eq ?_;exact hv.2.symm
 · refine int_eq ?_;exact hv.1.symm
 have hv:BD n l=0:=by simpa using h1
 refine a2 ?_
 refine co rfl (Bq (MX (l:=s) (n:=n)) rfl rfl rfl) ?_
 refine an ?_ ?_<;>intro h2 q2
 have QJ:=zJ (n:=n) (s:=s) hv LN
 refine ac ?_
 refine wk [7,6] rfl (Tr.ret (Fin.AE (Fin.C6 rfl (Bv.EU _ _) rfl ?_ rfl ?_)))
 · refine bool_eq ?_;exact QJ.2.symm
 · refine int_eq ?_;exact QJ.1.symm
 have hv3:=YZ (n:=n) (s:=s) hv LN
 refine a2 ?_
 refine co rfl (Bq (PX) rfl rfl rfl) ?_
 refine ac ?_
 refine wk [7,6] rfl (Tr.ret (Fin.C6 rfl (Bv.EU _ _) rfl ?_ rfl ?_))
 · refine bool_eq ?_;exact hv3.2.symm
 · refine int_eq ?_;exact hv3.1.symm
def iQ (n:Int) (l:List BM) (s:List Int) (add:Bool):List Int:=if Ej n l s=0 then D3 n.toNat l s add else []
theorem yO {n:Int} {l:List BM} (h:Lw n l s≠0):Ej n l s=Lw n l s:=by grind [Lw,Ej]
theorem ABw {n:Int} {l:List BM} (h:Lw n l s=0):BD n l=0∧Di n s=true∧Sr n l s=CK l s:=by grind [Lw,BD,Di,YZ]
theorem iR {n:Int} {l:List BM} {add:Bool} {e:Int} (h:Ej n l s=e) (he:e≠0):iQ n l s add=[]:=by unfold iQ;rw [if_neg H7]
theorem U3 {n:Int} {l:List BM} {add:Bool} (hl:l.length≤1000000) (hs:s.length≤100000):A0 prog 72 [int n,reqs l,ints s,bool add] (C_ [ints (iQ n l s add),int (Ej n l s)]):=by
 refine fo func72 rfl ⟨rfl,rfl⟩ fun M0 w0=> ?_
 refine a2 ?_
 refine co rfl (Jd (N4 hl) rfl rfl rfl rfl) ?_
 refine ac ?_
 refine an ?_ ?_<;>intro h1 q1
 have he:Lw n l s≠0:=by simpa using h1
 have ha:=yO he
 refine ac ?_
 refine wk [9,8] rfl (Tr.ret (Fin.AE (Fin.C6 rfl (Bv.EU _ _) rfl ?_ rfl ?_)))
 · rw [iR ha he];exact AP 1
 · exact int_eq ha.symm
 obtain ⟨hv,hsb,hcx⟩:=ABw (n:=n) (l:=l) (s:=s) Gb
 obtain ⟨h0,_⟩:=Cm hv
 obtain ⟨N,rfl⟩:∃N:Nat,n=(N:Int):=⟨n.toNat,by omega⟩
 refine a2 ?_
 refine wk [23,3,2,1,0] rfl ?_
 refine Tr.cn rfl ?_ ?_<;>intro h2 q2
 have AF2:Ej (N:Int) l s=46:=Sq hv (fun h_=>by rw [hcx,h_.2] at h2;cases h2)
 refine ac ?_
 refine Tr.ret (Fin.AE (Fin.C6 rfl (Bv.EU _ _) rfl ?_ rfl ?_))
 · rw [iR AF2 AB];exact AP 1
 · exact int_eq AF2.symm
 have ha0:Ej (N:Int) l s=0:=gl hv hsb (by rw [←hcx];simpa using h2)
 refine a2 ?_
 refine co rfl (ZO (K0 (n:=N) AA AA) rfl rfl rfl rfl rfl) ?_
 refine ac ?_
 refine Tr.ret (Fin.C6 rfl (Bv.EU _ _) rfl ?_ rfl ?_)
 · unfold iQ;rw [if_pos ha0];exact Lr
 · exact int_eq ha0.symm
theorem cQ {n:Int} {l:List BM} (hl:l.length≤1000000) (hs:s.length≤100000):A0 prog 76 [int n,reqs l,ints s] (C_ [ints (Fo n l s),int (Ej n l s)]):=by
 refine fo func76 rfl ⟨rfl,rfl⟩ fun M0 w0=> ?_
 refine a2 ?_
 refine co rfl (ZO (U3 (add:=true) hl hs) rfl rfl rfl rfl rfl) ?_
 refine ac ?_
 refine Tr.ret (Fin.C6 rfl (Bv.EU _ _) rfl ?_ rfl ?_)
 · exact Lr
 · exact Lr
theorem TI {n:Int} {l:List BM} (hl:l.length≤1000000) (hs:s.length≤100000):A0 prog 19 [int n,reqs l,ints s] (C_ [ints (GW n l s),int (Ej n l s)]):=by
 refine fo func19 rfl ⟨rfl,rfl⟩ fun M0 w0=> ?_
 refine a2 ?_
 refine co rfl (ZO (U3 (add:=false) hl hs) rfl rfl rfl rfl rfl) ?_
 refine ac ?_
 refine Tr.ret (Fin.C6 rfl (Bv.EU _ _) rfl ?_ rfl ?_)
 · exact Lr
 · exact Lr
theorem uA {p:Int→Bool} (L:List Int) (k:Nat):((L.take k).filter p).length≤k:=by grind
theorem lU {p:Int→Bool} {L:List Int} {x:Int} (h:L[k]? =some x):(L.take (k+1)).filter p=if p x=true then (L.take k).filter p++[x] else (L.take k).filter p:=by
 rw [List.take_add_one,h,List.filter_append]
 cases hp:p x<;>simp [hp]
theorem lV (n:Nat) (l:List BM) (s:List Int) (b:Bool):(D3 n l s b).length≤n:=by grind [D3]
theorem uB {l:List BM}:(Fo (n:Int) l s).length≤n:=by grind [Fo,lV]
theorem uC (KJ:d.length=l.length) (hl:l.length≤1000000) (hr:r.length≤1000000) (hs:s.length≤100000):A0 prog 23 [agg [CF l,reqs r,ints d],ints s,int day] (C_ [ints (FA r d s day),int (cH r d s)]):=by
 refine fo func23 rfl ⟨rfl,rfl⟩ fun M0 w0=> ?_
 have hal:=uB (n:=d.length) (l:=r) (s:=s)
 refine a2 ?_
 refine co rfl (Jd (cQ (n:=((l.length:Nat):Int)) hr hs) rfl rfl rfl rfl) ?_
 refine ac ?_
 refine wk [9,8,3,2] rfl (Tr.seq (Tr.seq (Tr.re 8 rfl (Pr.le_of_eq (show ints (Fo ((l.length:Nat):Int) r s)=ints (Fo ((d.length:Nat):Int) r s) by rw [KJ])) (Tr.re 9 rfl (int_eq (show Ej ((l.length:Nat):Int) r s=Ej ((d.length:Nat):Int) r s by rw [KJ])) ?_))))
 refine an ?_ ?_<;>intro h1 q1
 obtain ⟨hd1,hd2⟩:=tT (r:=r) (d:=d) (s:=s) (day:=day) Gb
 refine ac ?_
 refine Tr.ret (Fin.AE (Fin.C6 rfl (Bv.EU _ _) rfl ?_ rfl ?_))
 · rw [hd2];exact AP 1
 · exact int_eq hd1.symm
 have ha0:Ej ((d.length:Nat):Int) r s=0:=by simpa using h1
 refine a3 ?_
 refine Tr.block (Tr.B5 3 1 (Tr.EC _ (kk [26,25,3,2] rfl) (fun k v=>[(27,int ((k:Nat):Int)),(10,AV v (ints (((Fo ((d.length:Nat):Int) r s).take k).filter (fun i=> !decide (d.getD i.toNat 0>day)))))]) (fun k v=>Hp M0 w0 FO ([As 3 1 v])) (fun k:Nat=>k≤((Fo ((d.length:Nat):Int) r s)).length) (fun k:Nat=>((Fo ((d.length:Nat):Int) r s)).length-k) 0 (.slice none 0 0) (Nat.zero_le _) ⟨kq,⟨_,rfl,Bg rfl⟩,trivial⟩ (fun _ _ h=>h) ?_))
 rintro k v BJ
 refine ac ?_
 refine Tr.seq ?_
 refine Tr.cn rfl ?_ ?_<;>intro h2 q2
 have AZ:k<((Fo ((d.length:Nat):Int) r s)).length:=AH h2
 obtain ⟨x,AX⟩:=at_ AZ
 have hxr:=Qx x (List.mem_of_getElem? AX)
 have hdx:=Cv (l:=d) (i:=x.toNat) AA
 have hfs:=lU (p:=(fun i=> !decide (d.getD i.toNat 0>day))) AX
 have hfl:=uA (p:=(fun i=> !decide (d.getD i.toNat 0>day))) (Fo ((d.length:Nat):Int) r s) k
 refine ac ?_
 refine Tr.seq (Tr.block (Tr.seq (Tr.Bt (co rfl (AD rfl underlying51 Bi vq vq AA (AR AX)) ?_))))
 refine a2 ?_
 refine co rfl (AD rfl underlying22 Bi vq vq AA (Bb hdx)) ?_
 refine ac ?_
 refine wk [37,27,26,25,12,10,3,2] rfl ?_
 refine Tr.cn rfl ?_ ?_<;>intro h3 q3
 refine ap ?_
 refine TO.Df 0 rfl rfl AB (B9 rfl rfl rfl rfl underlying51 Bi G_ z3 Ea Db (Ay BK FC)) (fun v1=> ?_)
 refine ap ?_
 refine ac ?_
 exact Fin.C8 (k+1) v1 (⟨AZ,by omega⟩) ⟨⟨_,rfl,AG k⟩,⟨_,rfl,BB (by rw [hfs,if_pos (by have:=h3;simp_all),List.map_append];rfl)⟩,kz⟩ (fun _ _ h=>h)
 refine a2 ?_
 exact Fin.C8 (k+1) v (⟨AZ,by omega⟩) ⟨⟨_,rfl,AG k⟩,⟨_,rfl,BB (by rw [hfs,if_neg (by have:=h3;simp_all)])⟩,kz⟩ (fun _ _ h=>h)
 have A8:k=((Fo ((d.length:Nat):Int) r s)).length:=by have:=AJ h2;omega
 subst A8
 rw [List.take_length]
 refine a2 ?_
 refine Tr.ret (Fin.C6 rfl (Bv.EU _ _) rfl ?_ rfl ?_)
 · exact HE
 · exact int_eq (iJ ha0).symm
theorem TJ (DF:∀x∈l,x.Cb.small) (hl:l.length≤1000000) (hr:r.length≤1000000) (hd:d.length≤1000000):A0 Tryz.prog 33 [agg [CF l,reqs r,ints d]] (agg [CF l,reqs r,ints d]):=OY.frz (AW fun _=>rfl) (S3 DF hl hr hd)
theorem iS {st:List Int} {i:Int}:(G6 (FA r d (BS st) day) i&&decide (tr.getD i.toNat 0<4))=(GC r d st tr day).contains i:=by grind [Dr,Q0]
theorem GY {st:List Int} (DF:∀x∈l,x.Cb.small) (hl:l.length≤1000000) (hr:r.length≤1000000) (hd:d.length≤1000000) (hst:st.length≤1000000) (htr:tr.length≤1000000):Ef (α:=Value×Value) prog 70 [agg (C3 l r d day st tr sp)] [] (fun _=>True) (fun x=>agg [CF l,reqs r,ints d,int day,is x.1,is x.2,Cp.bool sp]) (fun x=>[Ba 3 1 (st.map fun n=>[int n]) x.1,Ba 3 1 (tr.map fun n=>[int n]) x.2]):=by
 refine Ef.of func70 rfl rfl Am fun M0 w0 S rs M1 w1=>(Tr.seq (Tr.BE (tp rfl (BU rfl Be) ?_)))
 refine Tl rfl rfl rfl rfl z42 D7 (fun b1=> ?_)
 refine ap ?_
 refine Tr.seq (Tr.pad (Tr.pad (Tr.pad (Tr.rx ?_))))
 refine ay ?_
 refine xo rfl (fun _=>CM (TJ DF hl hr hd) rfl rfl) ?_
 refine ay ?_
 refine Cx.ef 0 rfl rfl AB (Hr rfl rfl AB rfl underlying22 Bi G_ z3 rfl AB AB ⟨_,rfl,Ck 1⟩ vq IU B8) ?_
 refine ay ?_
 refine Cx.ef 1 rfl rfl AB (Hr rfl rfl AB rfl underlying22 Bi G_ z3 rfl AB AB ⟨_,rfl,Ck 1⟩ vq IU B8) ?_
 refine ay ?_
 refine Cx.ef 2 rfl rfl AB (bK (d:=16) (s:=10) (t:=13) (p:=fun u v=>agg [CF l,reqs r,ints d,int day,AV u (lens (st.map fun n=>[int n]).length),AV v (lens (tr.map fun n=>[int n]).length),Cp.bool sp]) (q:=agg [CF l,reqs r,ints d,int day,lens (st.map fun n=>[int n]).length,lens (tr.map fun n=>[int n]).length,Cp.bool sp]) rfl AB AB (fun _ _=>BR ⟨Lr,Lr,Lr,Lr,Ao _ _,Ao _ _,Lr,trivial⟩) rfl rfl rfl AB AB (fun u v=>Sk rfl rfl AB (fun _=>BO (rows:=[(0,_),(1,[_]),(2,[_]),(3,[_]),(4,[_])]) rfl jB D7 ⟨⟨rfl,VL.le vq (AY _)⟩,⟨⟨rfl,VL.le vq (Ag _)⟩,⟨⟨rfl,VL.le vq (Ag _)⟩,⟨⟨rfl,VL.le vq (Ag _)⟩,⟨⟨rfl,VL.le vq (Ag _)⟩,trivial⟩⟩⟩⟩⟩ rfl))) (Cx.DP 3 rfl rfl (ABv rfl rfl rfl rfl (fun v=>vl rfl) (AY _) B7 rfl rfl) ?_)
 refine Cx.nil ⟨by kernel_rfl,?_⟩
 refine Aw.Uh 10 rfl (fun v10=> ?_)
 refine Aw.Uh 13 rfl (fun v13=> ?_)
 refine Aw.Uh 16 rfl (fun v16=> ?_)
 refine Aw.Pt 0 10 rfl rfl (Aw.Pt 1 13 rfl rfl (Aw.ABE 2 16 10 13 rfl rfl rfl rfl (Aw.Pt 3 16 rfl rfl (Aw.done al5 (Fin.Nv 2 3 rfl rfl (Fin.drop 2 (Fin.go (wk [2] rfl (Tr.ret (Fin.tS ((v10,v13)) [_] rfl (AL.cell 2 rfl rfl CW B7 rfl Lr) trivial ?_ ((CH (j:=2) rfl).trans (List.Perm.cons _ ((CH (j:=0) rfl).trans (List.Perm.cons _ ((CH (j:=0) rfl).trans (List.Perm.cons _ (List.Perm.refl _)))))))))))))))))
 · exact BR ⟨Lr,Lr,Lr,Lr,Ct _ _,Ct _ _,Lr,trivial⟩
theorem Lq {st:List Int} (hst:st.length≤1000000):A0 prog 20 [agg (C3 l r d day st tr sp)] (ints (BS st)):=by
 refine fo func20 rfl ⟨rfl,rfl⟩ fun M0 w0=> ?_
 refine a3 ?_
 refine Tr.block (Tr.B5 3 1 (Tr.EC _ (kk [8,7] rfl) (fun k v=>[(9,int ((k:Nat):Int)),(3,AV v (ints (Jv st k)))]) (fun k v=>Hp M0 w0 FO ([As 3 1 v])) (fun k:Nat=>k≤(st).length) (fun k:Nat=>(st).length-k) 0 (.slice none 0 0) (Nat.zero_le _) ⟨kq,⟨_,rfl,Bg rfl⟩,trivial⟩ (fun _ _ h=>h) ?_))
 rintro k v BJ
 refine ac ?_
 refine Tr.seq ?_
 refine Tr.cn rfl ?_ ?_<;>intro h1 q1
 have AZ:k<(st).length:=AH h1
 obtain ⟨x,AX⟩:=at_ AZ
 have hsk:=Ph AX
 have AJM:=Ms st k
 refine a2 ?_
 refine co rfl (AD rfl underlying22 Bi vq vq AA (AR AX)) ?_
 refine ac ?_
 refine an ?_ ?_<;>intro h2 q2
 refine ap ?_
 refine TO.Df 0 rfl rfl AB (B9 rfl rfl rfl rfl underlying51 Bi G_ z3 Ea Db (Ay BK FC)) (fun v1=> ?_)
 refine ap ?_
 refine wk [9,8,7,3] rfl ?_
 refine ac ?_
 exact Fin.C8 (k+1) v1 (⟨AZ,by omega⟩) ⟨⟨_,rfl,AG k⟩,⟨_,rfl,BB eH⟩,kz⟩ (fun _ _ h=>h)
 refine a2 ?_
 exact Fin.C8 (k+1) v (⟨AZ,by omega⟩) ⟨⟨_,rfl,AG k⟩,⟨_,rfl,BB (by rw [hsk,if_neg Bp])⟩,kz⟩ (fun _ _ h=>h)
 have A8:k=(st).length:=by have:=AJ h1;omega
 subst A8
 refine a3 ?_
 · exact HE
theorem ZB {st:List Int} {step:Int} (KJ:d.length=l.length) (hl:l.length≤1000000) (hr:r.length≤1000000) (hst:st.length≤100000) (htd:tr.length=d.length):A0 prog 69 [agg (C3 l r d day st tr sp),int step] (bool ((GC r d st tr day).contains step)):=by
 refine fo func69 rfl ⟨rfl,rfl⟩ fun M0 w0=> ?_
 have YQ:=U1 st
 refine a2 ?_
 refine co rfl (CM (Lq AA) rfl rfl) ?_
 refine ac ?_
 refine co rfl (Jd (uC KJ hl hr (s:=BS st) AA) rfl rfl rfl rfl) ?_
 refine ac ?_
 refine wk [5,2,1] rfl ?_
 refine ac ?_
 refine co rfl (Bq (Ho) rfl rfl rfl) (cm rfl ?_)
 refine Ch.cs 20 rfl ?_ ?_<;>intro h1 q1
 have hh:G6 (FA r d (BS st) day) step=true:=h1
 obtain ⟨kg,_,_⟩:=Qz (Dr.1 hh)
 have mY:tr[step.toNat]? =some (tr.getD step.toNat 0):=Cv AA
 refine ac ?_
 refine cy h1 rfl (AD rfl underlying22 Bi vq vq AA (Bb mY)) ?_
 refine ac ?_
 refine wk [4] rfl ?_
 refine ac ?_
 · refine bool_eq ?_;rw [←iS,hh];rfl
 have hh:G6 (FA r d (BS st) day) step=false:=h1
 refine ac ?_
 refine wk [4] rfl ?_
 refine ac ?_
 · refine bool_eq ?_;rw [←iS,hh];rfl
theorem lW {st:List Int} (KJ:d.length=l.length) (hl:l.length≤1000000) (hr:r.length≤1000000) (hst:st.length≤100000) (htd:tr.length=d.length):A0 prog 17 [agg (C3 l r d day st tr false)] (C_ [int (cM (HM d) (GC r d st tr day)),bool (cN (HM d) (GC r d st tr day))]):=by
 refine fo func17 rfl ⟨rfl,rfl⟩ fun M0 w0=> ?_
 have mM:=Y8 d
 refine ac ?_
 refine an ?_ ?_<;>intro h1 q1
 exact absurd h1 AB
 refine a2 ?_
 refine co rfl (CM (cO KJ hl) rfl rfl) ?_
 refine ac ?_
 refine Tr.block (Tr.Ax _ (kk [11,10,1] rfl) (fun k:Nat=>[(12,int ((k:Nat):Int))]) (fun k:Nat=>k≤((HM d)).length∧(∀j y,j<k→(HM d)[j]? =some y→(GC r d st tr day).contains y=false)) (fun k:Nat=>((HM d)).length-k) 0 (⟨Nat.zero_le _,fun j y hj=>absurd hj AA⟩) kz ?_)
 rintro k ⟨BJ,AQ⟩
 refine ac ?_
 refine Tr.seq ?_
 refine Tr.cn rfl ?_ ?_<;>intro h2 q2
 have AZ:k<((HM d)).length:=AH h2
 obtain ⟨x,AX⟩:=at_ AZ
 refine ac ?_
 refine Tr.seq (Tr.block (Tr.seq (Tr.Bt (co rfl (AD rfl underlying22 Bi vq vq AA (AR AX)) ?_))))
 refine a2 ?_
 refine co rfl (Bq (ZB KJ hl hr hst htd) rfl rfl rfl) ?_
 refine an ?_ ?_<;>intro h3 q3
 refine ac ?_
 refine wk [3,2] rfl (Tr.ret (Fin.AU (Fin.AE (Fin.AE (Fin.AU (Fin.AE (Fin.C6 rfl (Bv.EU _ _) rfl ?_ rfl ?_)))))))
 · refine int_eq ?_;exact (VT AX AQ Bp).1.symm
 · exact eE
 refine a2 ?_
 exact Fin.AM (k+1) ⟨⟨AZ,DR (p:=fun y=>(GC r d st tr day).contains y) AX Bp AQ⟩,by omega⟩ ⟨⟨_,rfl,AG k⟩,kz⟩
 have A8:k=((HM d)).length:=by have:=AJ h2;omega
 subst A8
 refine a2 ?_
 refine Tr.ret (Fin.C6 rfl (Bv.EU _ _) rfl ?_ rfl ?_)
 · refine int_eq ?_;exact (Wz AQ).1.symm
 · refine bool_eq ?_;exact (Wz AQ).2.symm
theorem ZC {st:List Int} {step:Int} {x y z:Bw} (DF:∀x∈l,x.Cb.small) (KJ:d.length=l.length) (hl:l.length≤1000000) (hr:r.length≤1000000) (hst:st.length≤100000) (htd:tr.length=d.length) (hsd:st.length=d.length) (ht4:∀x∈tr,0≤x∧x≤4):A0 prog 18 [agg (C3 l r d day st tr false),int step,agg (BQ x),agg (BQ y),agg (BQ z)] (C_ [agg (VI l r d day st tr step x y z),int (if (GC r d st tr day).contains step=true then 0 else 44)]):=by
 refine fo func18 rfl ⟨rfl,rfl⟩ fun M0 w0=>(Tr.seq (Tr.BE ?_))
 iterate 4 refine tp rfl (BU rfl Be) ?_
 refine Tl rfl rfl rfl rfl z42 D7 (fun b1=> ?_)
 refine ao ?_
 refine ao ?_
 refine TO.Gs _ rfl rfl AB rfl (GY (sp:=false) DF hl hr AA AA AA) ⟨ke rfl,trivial⟩ (List.Perm.refl _) (fun x1 _=> ?_)
 refine Tl rfl rfl rfl rfl z42 D7 (fun b2=> ?_)
 refine TO.AK 0 rfl rfl rfl vq Be rfl B7 rfl rfl ?_
 refine ao ?_
 refine an ?_ ?_<;>intro h1 q1
 exact absurd h1 AB
 refine a2 ?_
 refine co rfl (Bq (ZB KJ hl hr hst htd) rfl rfl rfl) ?_
 refine ac ?_
 refine wk [21,12,10,9,8,7,1] rfl ?_
 refine Tr.cn rfl ?_ ?_<;>intro h2 q2
 have hno:(GC r d st tr day).contains step=false:=by simpa using h2
 refine Tr.seq (Tr.CA 0 1 4 rfl rfl AB rfl Lr (AW fun _=>rfl) (Tr.CA 0 2 5 rfl rfl AB rfl Lr (AW fun _=>rfl) ?_))
 refine ao ?_
 refine TO.AK 3 rfl rfl rfl vq Be rfl B7 rfl rfl ?_
 refine ao ?_
 refine Tr.drop 1 (Tr.drop 1 (Tr.ret (Fin.AE (Fin.BL rfl (AL.cell 1 rfl rfl CW B7 rfl Lr) (AL.tmp rfl Lr) ?_))))
 refine Al ⟨?_,?_,trivial⟩
 · unfold VI;rw [if_neg QF];exact Lr
 · exact int_eq (if_neg QF).symm
 have hin:(GC r d st tr day).contains step=true:=by simpa using h2
 obtain ⟨kg,_,_⟩:=Qz (Q0.1 (List.contains_iff_mem.1 hin)).1
 have hsi:st[step.toNat]? =some (st.getD step.toNat 0):=Cv AA
 have mY:tr[step.toNat]? =some (tr.getD step.toNat 0):=Cv AA
 have htb:=ht4 _ (List.mem_of_getElem? mY)
 refine ac ?_
 refine ao ?_
 refine tp rfl (CC 2 rfl (Dy rfl underlying22 Bi vq vq AA B8)) ?_
 refine tp rfl (CC 2 rfl (Hq rfl DL vq (AW fun _=>rfl) IV rfl)) ?_
 refine tp rfl (Gz rfl vq vq ?hin) ?_;case hin=>unfold RO;omega
 refine tp rfl (CC 2 rfl (Dy rfl underlying22 Bi vq vq AA B8)) ?_
 refine TO.DP 2 rfl rfl (Ca rfl rfl vq F7 Bi rfl (AW fun _=>rfl) IV AB (show _=(tr.set step.toNat (tr.getD step.toNat 0+1)).map _ by rw [List.map_set];rfl)) ?_
 refine ao ?_
 refine wk [12,10,9,8,7,1] rfl ?_
 refine ac ?_
 refine co rfl (Bq (Xz) rfl rfl rfl) ?_
 refine an ?_ ?_<;>intro h3 q3
 have hzy:z=y:=by simpa using h3
 refine ao ?_
 refine tp rfl (CC 1 rfl (Dy rfl underlying22 Bi vq vq AA B8)) ?_
 refine TO.DP 1 rfl rfl (Ca rfl rfl vq F7 Bi rfl (AW fun _=>rfl) LI AB (show _=(st.set step.toNat 1).map _ by rw [List.map_set];rfl)) ?_
 refine ao ?_
 refine wk [12,10] rfl (Tr.seq (Tr.CA 0 1 4 rfl rfl AB rfl Lr (AW fun _=>rfl) (Tr.CA 0 2 5 rfl rfl AB rfl Lr (AW fun _=>rfl) ?_)))
 refine ao ?_
 refine TO.AK 3 rfl rfl rfl vq Be rfl B7 rfl rfl ?_
 refine ao ?_
 refine Tr.drop 1 (Tr.drop 1 (Tr.ret (Fin.BL rfl (AL.cell 1 rfl rfl CW B7 rfl Lr) (AL.tmp rfl Lr) ?_)))
 refine Al ⟨?_,?_,trivial⟩
 · exact dx
 · exact Hz
 have hzy:¬z=y:=by simpa using h3
 refine ac ?_
 refine co rfl (Bq (Xz) rfl rfl rfl) ?_
 refine ac ?_
 refine wk [39,12,10,1] rfl ?_
 refine Tr.cn rfl ?_ ?_<;>intro h4 q4
 have hzx:z=x:=by simpa using h4
 refine ao ?_
 refine tp rfl (CC 1 rfl (Dy rfl underlying22 Bi vq vq AA B8)) ?_
 refine TO.DP 1 rfl rfl (Ca rfl rfl vq F7 Bi rfl (AW fun _=>rfl) LI AB (show _=(st.set step.toNat 2).map _ by rw [List.map_set];rfl)) ?_
 refine ao ?_
 refine Tr.seq (Tr.CA 0 1 4 rfl rfl AB rfl Lr (AW fun _=>rfl) (Tr.CA 0 2 5 rfl rfl AB rfl Lr (AW fun _=>rfl) ?_))
 refine ao ?_
 refine TO.AK 3 rfl rfl rfl vq Be rfl B7 rfl rfl ?_
 refine ao ?_
 refine Tr.drop 1 (Tr.drop 1 (Tr.ret (Fin.BL rfl (AL.cell 1 rfl rfl CW B7 rfl Lr) (AL.tmp rfl Lr) ?_)))
 refine Al ⟨?_,?_,trivial⟩
 · exact dS
 · exact Hz
 have hzx:¬z=x:=by simpa using h4
 refine ao ?_
 refine TO.DP 0 rfl rfl (BF rfl rfl vq F7 UF rfl Am rfl) ?_
 refine ao ?_
 refine Tr.seq (Tr.CA 0 1 4 rfl rfl AB rfl Lr (AW fun _=>rfl) (Tr.CA 0 2 5 rfl rfl AB rfl Lr (AW fun _=>rfl) ?_))
 refine ao ?_
 refine TO.AK 3 rfl rfl rfl vq Be rfl B7 rfl rfl ?_
 refine ao ?_
 refine Tr.drop 1 (Tr.drop 1 (Tr.ret (Fin.BL rfl (AL.cell 1 rfl rfl CW B7 rfl Lr) (AL.tmp rfl Lr) ?_)))
 refine Al ⟨?_,?_,trivial⟩
 · exact dO
 · exact Hz
theorem TK {m:Int} {l:List Int} {x:Int} (h:l[k]? =some x) (hi:GR m (l.take k)=false) (hx:¬(x<0∨x>m)):GR m (l.take (k+1))=false:=by
 unfold GR at*
 rw [List.take_add_one,h,List.any_append,hi]
 simp [KB,hx]
theorem Mt {st:List Int} (hst:st.length≤1000000) (hr:r.length≤1000000):A0 prog 36 [agg (C3 l r d day st tr sp)] (int (if Tx l.length r d day st tr=true then 0 else 49)):=by
 refine fo func36 rfl ⟨rfl,rfl⟩ fun M0 w0=> ?_
 refine a2 ?_
 refine ag ?_ ?_<;>intro h1 q1
 refine ac ?_
 refine wk [44,3,1] rfl ?_
 refine a2 ?_
 · exact N_
 refine ag ?_ ?_<;>intro h2 q2
 refine ac ?_
 refine wk [44,3,1] rfl ?_
 refine a2 ?_
 · exact N_
 refine ag ?_ ?_<;>intro h3 q3
 refine ac ?_
 refine wk [44,3,1] rfl ?_
 refine a2 ?_
 · exact N_
 refine ag ?_ ?_<;>intro h4 q4
 refine ac ?_
 refine wk [44,3,1] rfl ?_
 refine a2 ?_
 · exact N_
 refine ag ?_ ?_<;>intro h5 q5
 refine ac ?_
 refine wk [44,3,1] rfl ?_
 refine a2 ?_
 · exact N_
 refine ac ?_
 refine wk [44,3,1] rfl ?_
 refine Tr.cn rfl ?_ ?_<;>intro h6 q6
 refine a2 ?_
 · exact N_
 have AKj:l.length≤24:=by omega
 have hd1:d.length=l.length:=by omega
 have hs1:st.length=l.length:=by omega
 have ht1:tr.length=l.length:=by omega
 refine a2 ?_
 refine Tr.block (Tr.KZ _ (kk [45,3,1] rfl) (fun (k:Nat)=>[(46,int ((k:Nat):Int))]) (fun (k:Nat)=>Hp M0 w0 FO ([])) (fun (k:Nat)=>k≤l.length∧GR 40000 (d.take k)=false∧GR 3 (st.take k)=false∧GR 4 (tr.take k)=false) (fun (k:Nat)=>l.length-k) (0)  (⟨Nat.zero_le _,rfl,rfl,rfl⟩) kz (fun _ _ h=>h) ?_)
 rintro k  ⟨hk0,hi1,hi2,hi3⟩
 refine ac ?_
 refine Tr.seq ?_
 refine Tr.cn rfl ?_ ?_<;>intro h7 q7
 have hk:k<l.length:=AH h7
 obtain ⟨a,hda⟩:=at_ (l:=d) (k:=k) AA
 obtain ⟨b,hdb⟩:=at_ (l:=st) (k:=k) AA
 obtain ⟨c,hdc⟩:=at_ (l:=tr) (k:=k) AA
 · repeat' first|(exact int_eq (if_neg (fun hk=>by obtain ⟨⟨⟨g1,g2⟩,g3,g4⟩,⟨⟨g5,g6⟩,g7,g8⟩,g9,g10⟩:=Fp.1 hk;have e1:=List.any_eq_false.1 g5 a (List.mem_of_getElem? hda);have e2:=List.any_eq_false.1 g7 b (List.mem_of_getElem? hdb);have e3:=List.any_eq_false.1 g8 c (List.mem_of_getElem? hdc);unfold KB at e1 e2 e3;rw [decide_eq_true_eq] at e1 e2 e3;omega)).symm)|exact Fin.LQ (k+1)  (⟨⟨by omega,TK hda hi1 AA,TK hdb hi2 AA,TK hdc hi3 AA⟩,by omega⟩) ⟨⟨_,rfl,AG k⟩,kz⟩ (fun _ _ h=>h)|refine co rfl (AD rfl underlying22 Bi vq vq AA (AR hda)) ?_|refine cy h rfl (AD rfl underlying22 Bi vq vq AA (AR hda)) ?_|refine cy h rfl (AD rfl underlying22 Bi vq vq AA (AR hdb)) ?_|refine cy h rfl (AD rfl underlying22 Bi vq vq AA (AR hdc)) ?_|refine ac ?_|(refine Tr.cn rfl ?_ ?_<;>intro h q)|(refine Ch.cg rfl rfl rfl ?_ ?_<;>intro h q)
 have cz:k=l.length:=by have:=AJ h7;omega
 rw [List.take_of_length_le AA] at hi1 hi2 hi3
 · repeat' first|(exact int_eq (if_neg (fun hk=>by obtain ⟨⟨⟨g1,g2⟩,g3,g4⟩,⟨⟨g5,g6⟩,g7,g8⟩,g9,g10⟩:=Fp.1 hk;unfold KB at g6;rw [decide_eq_false_iff_not] at g6;omega)).symm)|(exact int_eq (if_neg (fun hk=>by obtain ⟨⟨⟨g1,g2⟩,g3,g4⟩,⟨⟨g5,g6⟩,g7,g8⟩,g9,g10⟩:=Fp.1 hk;simp_all)).symm)|(exact int_eq (if_pos (Fp.2 ⟨⟨⟨by omega,by omega⟩,by omega,by omega⟩,⟨⟨hi1,by unfold KB;rw [decide_eq_false_iff_not];omega⟩,hi2,hi3⟩,by simp_all,by simp_all⟩)).symm)|refine co rfl (CM (Lq hst) rfl rfl) ?_|refine co rfl (Jd (N4 (n:=((l.length:Nat):Int)) (l:=r) (s:=BS st) hr) rfl rfl rfl rfl) ?_|refine ac ?_|(refine Tr.cn rfl ?_ ?_<;>intro h q)|(refine Ch.cg rfl rfl rfl ?_ ?_<;>intro h q)
theorem ZD (DF:∀x∈l,x.Cb.small) (hl:l.length≤1000000) (hr:r.length≤1000000) (hd:d.length≤1000000):A0 prog 14 [agg [CF l,reqs r,ints d],int day] (C_ [agg (newP l r d day),int (newE l r d day)]):=by
 refine fo func14 rfl ⟨rfl,rfl⟩ fun M0 w0=>(Tr.seq (Tr.BE (tp rfl (BU rfl Be) ?_)))
 refine Tl rfl rfl rfl rfl z42 D7 (fun b1=> ?_)
 refine ap ?_
 refine ag ?_ ?_<;>intro h1 q1
 refine ac ?_
 refine Tr.cond rfl (fun _=> ?_) (fun h=>nomatch h)
 refine Tr.seq (Tr.BE (tp rfl (BO (rows:=[]) rfl jB D7 trivial rfl) (TO.AK 0 rfl rfl rfl vq Be rfl B7 rfl rfl (tm rfl (TO.nil (Fin.go (Tr.ret (Fin.AE (Fin.BL rfl (AL.cell 0 rfl rfl CW B7 rfl Lr) (AL.tmp rfl Lr) ?_)))))))))
 refine Al ⟨?_,?_,trivial⟩
 · exact U_
 · exact VD
 refine an ?_ ?_<;>intro h2 q2
 refine ap ?_
 refine Tr.ret (Fin.AE (Fin.BL rfl (AL.cell 0 rfl rfl CW B7 rfl Lr) (AL.tmp rfl Lr) ?_))
 refine Al ⟨?_,?_,trivial⟩
 · exact U_
 · exact VD
 have hdy:0≤day∧day≤40000:=by omega
 refine ac ?_
 refine Tr.seq (Tr.pad (Tr.rx (xo rfl (fun _=>Ad rfl Da CU vq rfl rfl) (xo rfl (fun _=>CM (TJ DF hl hr hd) rfl rfl) ?_))))
 refine ax ?_
 refine xo rfl (fun _=>JA (m:=l.length) rfl underlying22 Bi G_ z3 rfl AB AB vq vq FV AA) ?_
 refine ax ?_
 refine xo rfl (fun _=>JA (m:=l.length) rfl underlying22 Bi G_ z3 rfl AB AB vq vq FV AA) ?_
 refine xo rfl (fun _=>BO (rows:=[(0,_),(1,[_]),(2,[_]),(3,[_])]) rfl jB D7 ⟨⟨rfl,Be⟩,⟨⟨rfl,F7⟩,⟨⟨rfl,⟨_,rfl,Pr.le_trans (Pr.le_trans (B4 _ _) (Pr.le_of_eq (show _=slice 1 ((List.replicate l.length (0:Int)).map fun n=>[int n]) by rw [List.map_replicate];rfl))) (Ag _)⟩⟩,⟨⟨rfl,⟨_,rfl,Pr.le_trans (Pr.le_trans (B4 _ _) (Pr.le_of_eq (show _=slice 1 ((List.replicate l.length (0:Int)).map fun n=>[int n]) by rw [List.map_replicate];rfl))) (Ag _)⟩⟩,trivial⟩⟩⟩⟩ rfl) ?_
 refine Cx.ef 0 rfl rfl AB (Bx rfl rfl AB rfl z42 D7) (Cx.DP 0 rfl rfl (CZ rfl rfl rfl rfl Be B7 rfl rfl) ?_)
 refine Cx.nil ⟨by kernel_rfl,?_⟩
 refine Aw.open_ 0 6 rfl rfl (fun v1=> ?_)
 refine Aw.done UL (Fin.LR 6 0 _ rfl rfl (fun _=>rfl) (fun b2=> ?_))
 refine Fin.go (wk [6,4] rfl ?_)
 refine ac ?_
 refine co rfl (CM (Mt (l:=l) (r:=r) (d:=d) (day:=day) (st:=List.replicate l.length 0) (tr:=List.replicate l.length 0) (sp:=false) M4 hr) rfl rfl) ?_
 refine an ?_ ?_<;>intro h3 q3
 have h49:newE l r d day=49:=td hdy H8
 refine ap ?_
 refine Tr.drop 0 (Tr.ret (Fin.AE (Fin.BL rfl (AL.cell 0 rfl rfl CW B7 rfl Lr) (AL.tmp rfl Lr) ?_)))
 refine Al ⟨?_,?_,trivial⟩
 · rw [Zn h49 AB];exact VA
 · exact int_eq h49.symm
 have h0:=iL (l:=l) (r:=r) (d:=d) hdy H8
 refine ac ?_
 refine ap ?_
 refine Tr.drop 0 (Tr.ret (Fin.BL rfl (AL.cell 0 rfl rfl CW B7 rfl Lr) (AL.tmp rfl Lr) ?_))
 refine Al ⟨?_,?_,trivial⟩
 · rw [h0.2];exact Lr
 · exact int_eq h0.1.symm
theorem ZE {l:List BM} {x:Int} (h:x∈D3 n l s false):(0≤x∧x<(n:Int))∧x∈s∧CK l (EG s x false)=true:=by grind [D3,Jm,G6]
theorem iT {i:Int} (h:(GW (n:Int) r s).contains i=true):Ej (n:Int) r s=0∧i∈D3 n r s false:=by grind [GW]
def ZF (l:List Bm) (r:List BM) (d:List Int) (day:Int) (st tr:List Int) (i:Int):List Pr:=if (GW ((l.length:Nat):Int) r (BS st)).contains i=true then C3 l r d day (st.set i.toNat 3) (tr.set i.toNat 0) false else C3 l r d day st tr false
theorem lX {st:List Int} {step:Int} (DF:∀x∈l,x.Cb.small) (hl:l.length≤1000000) (hr:r.length≤1000000) (hd:d.length≤1000000) (hst:st.length≤1000000) (htr:tr.length≤1000000) (hsd:st.length=l.length) (htd:tr.length=l.length):BP prog 21 [agg (C3 l r d day st tr false),int step] (C_ [agg (ZF l r d day st tr step),int (if (GW ((l.length:Nat):Int) r (BS st)).contains step=true then 0 else 44)]) (CE) (fun _=>CE):=by
 refine BP.of func21 rfl rfl Am fun M0 w0 S rs M1 w1=> ?_
 refine Tr.seq (Tr.BE (tp rfl (BU rfl Be) ?_))
 refine Tl rfl rfl rfl rfl z42 D7 (fun b1=> ?_)
 refine ao ?_
 refine ao ?_
 refine TO.Gs _ rfl rfl AB rfl (U2 (sp:=false) DF hl hr hd hst htr) kz (List.Perm.refl _) (fun x1 _=> ?_)
 refine Tl rfl rfl rfl rfl z42 D7 (fun b2=> ?_)
 refine TO.AK 0 rfl rfl rfl vq Be rfl B7 rfl rfl ?_
 refine ao ?_
 refine Tr.seq (Tr.rx ?_)
 refine ax ?_
 refine xo rfl (fun _=>CM (LB hst) rfl rfl) ?_
 refine Cx.ef 4 rfl rfl AB (Ae rfl rfl AB rfl (L8 (n:=((l.length:Nat):Int)) (l:=r) (s:=BS st)) ⟨kq,kz⟩) ?_
 refine ax ?_
 refine Cx.nil ⟨by kernel_rfl,?_⟩
 refine Aw.done fI (Fin.go (wk [7,6,4,2,1] rfl ?_))
 refine an ?_ ?_<;>intro h1 q1
 exact absurd h1 AB
 refine ac ?_
 refine co rfl (Bq (LC) rfl rfl rfl) ?_
 refine an ?_ ?_<;>intro h2 q2
 have hno:¬(GW ((l.length:Nat):Int) r (BS st)).contains step=true:=by simpa using h2
 refine Tr.seq (Tr.CA 0 1 4 rfl rfl AB rfl Lr (AW fun _=>rfl) (Tr.CA 0 2 5 rfl rfl AB rfl Lr (AW fun _=>rfl) ?_))
 refine ao ?_
 refine TO.AK 3 rfl rfl rfl vq Be rfl B7 rfl rfl ?_
 refine ao ?_
 refine Tr.drop 1 (Tr.drop 1 (wk [5,4] rfl (Tr.ret (Fin.AU (Fin.AE (Fin.J2 [_,_] rfl (AL.cell 1 rfl rfl CW B7 rfl Lr) (AL.tmp rfl Lr) ?_))))))
 refine Al ⟨?_,?_,trivial⟩
 · unfold ZF;rw [if_neg hno];exact Lr
 · exact int_eq (if_neg hno).symm
 have hin:(GW ((l.length:Nat):Int) r (BS st)).contains step=true:=by simpa using h2
 obtain ⟨kg,_,_⟩:=ZE (iT hin).2
 have hsi:st[step.toNat]? =some (st.getD step.toNat 0):=Cv AA
 have mY:tr[step.toNat]? =some (tr.getD step.toNat 0):=Cv AA
 refine ac ?_
 refine Tr.seq (Tr.rx ?_)
 refine ax ?_
 refine JU 1 rfl rfl (Dy rfl underlying22 Bi vq vq AA B8) ?_
 refine Cx.DP 1 rfl rfl (Ca rfl rfl vq F7 Bi rfl (AW fun _=>rfl) LI AB (show _=(st.set step.toNat 3).map _ by rw [List.map_set];rfl)) ?_
 refine JU 2 rfl rfl (Dy rfl underlying22 Bi vq vq AA B8) ?_
 refine Cx.DP 2 rfl rfl (Ca rfl rfl vq F7 Bi rfl (AW fun _=>rfl) IV AB (show _=(tr.set step.toNat 0).map _ by rw [List.map_set];rfl)) ?_
 refine Cx.nil ⟨by kernel_rfl,?_⟩
 refine Aw.done fI (Fin.go (wk [6,4] rfl (Tr.seq (Tr.CA 0 1 4 rfl rfl AB rfl Lr (AW fun _=>rfl) (Tr.CA 0 2 5 rfl rfl AB rfl Lr (AW fun _=>rfl) ?_)))))
 refine ao ?_
 refine TO.AK 3 rfl rfl rfl vq Be rfl B7 rfl rfl ?_
 refine ao ?_
 refine Tr.drop 1 (Tr.drop 1 (Tr.ret (Fin.J2 [_,_] rfl (AL.cell 1 rfl rfl CW B7 rfl Lr) (AL.tmp rfl Lr) ?_)))
 refine Al ⟨?_,?_,trivial⟩
 · unfold ZF;rw [if_pos hin];exact Lr
 · exact Hz
open Classical in
open Classical in
theorem Ik {a b:List Int}  :A0 prog 37 [ints a,ints b] (bool (decide (a=b))):=by
 refine fo func37 rfl ⟨rfl,rfl⟩ fun M0 w0=>(Tr.CG 0 rfl fun DN=>(Tr.CG 1 rfl fun ER=> ?_))
 refine ac ?_
 refine an ?_ ?_<;>intro h1 q1
 have hne:¬a.length=b.length:=by simp_all;omega
 refine a2 ?_
 · exact HT
 have Mu:a.length=b.length:=by simp_all;omega
 refine a2 ?_
 refine Tr.block (Tr.Ax _ (kk [12,1,0] rfl) (fun k:Nat=>[(13,int ((k:Nat):Int))]) (fun k:Nat=>k≤(a).length∧(a.take k=b.take k)) (fun k:Nat=>(a).length-k) 0 (⟨Nat.zero_le _,rfl⟩) kz ?_)
 rintro k ⟨BJ,AQ⟩
 refine ac ?_
 refine Tr.seq ?_
 refine Tr.cn rfl ?_ ?_<;>intro h2 q2
 have AZ:k<(a).length:=AH h2
 obtain ⟨x,AX⟩:=at_ AZ
 obtain ⟨y,hy⟩:=at_ (l:=b) (k:=k) AA
 · exact Zd
 have A8:k=(a).length:=by have:=AJ h2;omega
 subst A8
 refine a3 ?_
 · exact HU
theorem lY {l l2:List Bm} {r r2:List BM} {d d2:List Int} (DF:∀x∈l,x.Cb.small):A0 prog 55 [agg [CF l,reqs r,ints d],agg [CF l2,reqs r2,ints d2]] (bool (decide (l=l2∧r=r2∧d=d2))):=by
 refine fo func55 rfl ⟨rfl,rfl⟩ fun M0 w0=>(Tr.FW 0 0 rfl rfl fun Gh=>(Tr.FW 1 0 rfl rfl fun g_=> ?_))
 refine ac ?_
 refine ag ?_ ?_<;>intro h1 q1
 refine ac ?_
 refine wk [28,3,2] rfl ?_
 refine a2 ?_
 · exact Zt
 refine ac ?_
 refine cy h1 rfl (Bq (kK) rfl rfl rfl) ?_
 refine ag ?_ ?_<;>intro h2 q2
 refine ac ?_
 refine wk [28,3,2] rfl ?_
 refine a2 ?_
 · exact Zt
 refine ac ?_
 refine cy h2 rfl (Bq (Ik) rfl rfl rfl) ?_
 refine ac ?_
 refine wk [28,3,2] rfl ?_
 refine Tr.cn rfl ?_ ?_<;>intro h3 q3
 refine a2 ?_
 · exact Zt
 have Mu:l.length=l2.length:=by simp_all;omega
 refine a2 ?_
 refine Tr.block (Tr.Ax _ (kk [31,3,2] rfl) (fun k:Nat=>[(32,int ((k:Nat):Int))]) (fun k:Nat=>k≤(l).length∧(l.take k=l2.take k)) (fun k:Nat=>(l).length-k) 0 (⟨Nat.zero_le _,rfl⟩) kz ?_)
 rintro k ⟨BJ,AQ⟩
 refine ac ?_
 refine Tr.seq ?_
 refine Tr.cn rfl ?_ ?_<;>intro h4 q4
 have AZ:k<(l).length:=AH h4
 obtain ⟨x,AX⟩:=at_ AZ
 obtain ⟨y,hy⟩:=at_ (l:=l2) (k:=k) AA
 · repeat' first|(refine bool_eq ?_;symm;rw [decide_eq_false_iff_not];rintro ⟨rfl,-,-⟩;rw [AX] at hy;cases hy;simp_all)|exact Fin.AM (k+1) ⟨⟨AZ,Mv AX hy AQ Bp⟩,by omega⟩ ⟨⟨_,rfl,AG k⟩,kz⟩|refine co rfl (AD rfl underlying32 DB vq vq AA (AR AX)) ?_|refine co rfl (AD rfl underlying32 DB vq vq AA (AR hy)) (co rfl (Ad rfl GG DB vq rfl rfl) ?_)|refine co rfl (Bq (jZ (DF x (List.mem_of_getElem? AX))) rfl rfl rfl) ?_|refine ac ?_|(refine Tr.cn rfl ?_ ?_<;>intro h q)
 have A8:k=(l).length:=by have:=AJ h4;omega
 subst A8
 refine a3 ?_
 · refine bool_eq ?_;symm;rw [decide_eq_true_eq];exact ⟨cw Mu AQ,by simp_all⟩
end Go.Proofs.YtmocaapoeefgkaaGreatDoor
