/-
  RunnerDays: whatever the input, the law of this name returns true and its arguments read as before; the table of trailing zeros is tied to the program. No conditions.
-/
import Derived.Test.YtmocaapoeefgkaaGreatDoorTie
import Derived.Test.YtmocaapoeefgkaaGreatDoorCards
import Derived.LaidMore
import Derived.OpenShut
import Derived.Stop.Joined
import Derived.ProofKit
import Derived.Test.YtmocaapoeefgkaaGreatDoorRcDP7
set_option linter.all false
set_option maxRecDepth 40000
set_option maxHeartbeats 16000000
namespace Go.Proofs.YtmocaapoeefgkaaGreatDoor
open Go Go.RowKit Cp Go.Proofs.Tryz
theorem iD {e:Dc} {l:List BX} {n:Nat} {s:List Int} {fr Nf:Int} (hz:e.sz n) (hn:n≤800000) (hc:∀c∈l,c.C2.fits∧c.C2.small) (iz:s.length≤4096):BD prog 220 [agg (CE e),Dm l,ints s,int fr,int Nf] (EJ):=by
 refine fo func220 rfl ⟨rfl,rfl⟩ fun M0 w0=> ?_
 have hxz:=dZ (l:=l) (s:=s) hz hc
 have hxf:=hxz.fits AA
 have hxg:=hxz.lg
 refine ac ?_
 refine ao ?_
 refine tp rfl (K0 (Ro hz hn hc) rfl rfl rfl rfl) ?_
 refine ao ?_
 refine Tl rfl rfl rfl rfl z31 Hx (fun b1=> ?_)
 refine sf 0 11 ⟨rfl,rfl,rfl⟩ rfl rfl rfl rfl ?_
 refine ao ?_
 refine ac ?_
 refine wk [24,11,4,3] rfl ?_
 refine Tr.cn rfl ?_ ?_<;>intro h1 q1
 refine a2 ?_
 · exact BJ
 refine a2 ?_
 refine Tr.block (Tr.BA _ (kk [27,11,4,3] rfl) (fun k:Nat=>[(28,int ((k:Nat):Int))]) (fun k:Nat=>k≤((VD e l s).1.BS).length) (fun k:Nat=>((VD e l s).1.BS).length-k) 0 (Nat.zero_le _) kz ?_)
 rintro k BV
 refine ac ?_
 refine Tr.seq ?_
 refine Tr.cn rfl ?_ ?_<;>intro h2 q2
 have Ah:k<((VD e l s).1.BS).length:=AH h2
 obtain ⟨x,Ai⟩:=at_ Ah
 refine a2 ?_
 refine ao ?_
 refine tp rfl (iU (OV hxf) rfl rfl rfl rfl rfl) ?_
 refine TO.ex 36 rfl (fun z1=>TO.fact 36 rfl fun Eg=> ?_)
 refine ao ?_
 refine Tl rfl rfl rfl rfl JS Fe (fun b2=> ?_)
 refine sf 0 14 ⟨rfl,rfl,rfl⟩ rfl rfl rfl rfl ?_
 refine ao ?_
 · exact LL
 have BP:k=((VD e l s).1.BS).length:=by have:=AJ h2;omega
 refine a3 ?_
 · exact BJ
theorem Tq {a b:Int}  :BD prog 123 [int a,int b] (EJ):=by
 refine fo func123 rfl ⟨rfl,rfl⟩ fun M0 w0=> ?_
 · repeat' first|exact Aw _ Lr|refine ac ?_|(refine Ch.cg rfl rfl rfl ?_ ?_<;>intro h q)
theorem KI {s:List Int} {m:Nat} (hs:∀i∈s,0≤i∧i<(m:Int)) (hm:m≤40):BD prog 219 [ints s] (Cp.ex fun z:Nat=>fact (z<2 ^ m) (int ((z:Nat):Int))):=by
 refine fo func219 rfl ⟨rfl,rfl⟩ fun M0 w0=>(Tr.C6 0 rfl fun Eu=> ?_)
 refine a3 ?_
 refine Tr.block (Tr.Cr _ (kk [7,6] rfl) (fun (z:Nat) (k:Nat)=>[(8,int ((k:Nat):Int)),(3,int ((z:Nat):Int))]) (fun (z:Nat) (k:Nat)=>Hp M0 w0 FO ([])) (fun (z:Nat) (k:Nat)=>k≤s.length∧z<2 ^ m) (fun (z:Nat) (k:Nat)=>s.length-k) (0) (0)  (⟨Nat.zero_le _,Nat.two_pow_pos m⟩) ⟨kq,kz⟩ (fun _ _ h=>h) ?_)
 rintro z k  ⟨hk0,hz⟩
 refine ac ?_
 refine Tr.seq ?_
 refine Tr.cn rfl ?_ ?_<;>intro h1 q1
 have hk:k<s.length:=AH h1
 obtain ⟨i,hx⟩:=at_ hk
 have hir:=hs i (List.mem_of_getElem? hx)
 refine ac ?_
 refine Tr.seq (Tr.block (Tr.seq (Tr.Aj (co rfl (AD rfl underlying51 Bt vq vq AA (Aa hx)) ?_))))
 refine a2 ?_
 refine co rfl (dK rfl vq vq AA AA) ?_
 refine co rfl (yg (m:=m) rfl vq vq hz (Nat.pow_lt_pow_right AA AA) hm) ?_
 refine a2 ?_
 exact Fin.Co ((z|||2 ^ i.toNat)) (k+1)  (⟨⟨by omega,Nat.or_lt_two_pow hz (Nat.pow_lt_pow_right AA AA)⟩,by omega⟩) ⟨⟨_,rfl,AG k⟩,kz⟩ (fun _ _ h=>h)
 have eH:=AJ h1
 refine a3 ?_
 · exact Aw _ (A7 hz Lr)
abbrev Xi:Pr:=Cp.ex fun z:List Int=>fact (z.length≤1000) (ints z)
theorem iE {s:List Int} {k n:Int} (h:∀i∈s,0≤i∧i<n) (hk:0≤k∧k<n):∀i∈Ed s k true,0≤i∧i<n:=fun i hi=>by
 rcases Cm.1 hi with rfl|hi
 · exact hk
 · exact h i hi
theorem iF {n:Nat}:(List.replicate n (Value.bool false)).map is=((List.replicate n false).map fun x:Bool=>[Cp.bool x]).flatten++[]:=by
 rw [List.map_replicate,List.map_replicate,List.append_nil]
 induction n with
 |zero=>rfl
 |succ n ih=>rw [List.replicate_succ,List.replicate_succ,List.flatten_cons,←ih];rfl
theorem Ts {e:Dc} {l:List BX} {n:Nat} {so done:List Int} {fr Nf:Int} {b N m:Nat} (hz:e.sz n) (hn:n≤800000) (hc:∀c∈l,c.C2.fits∧c.C2.small) (hN:2 ^ l.length=N) (hl:l.length≤10) (hm:so.length+m=l.length) (hdr:∀i∈done,0≤i∧i<((l.length:Nat):Int)) (gh:done.length≤so.length) (ih:∀m':Nat,m=m'+1→∀so done:List Int,so.length+m'=l.length→(∀i∈done,0≤i∧i<((l.length:Nat):Int))→done.length≤so.length→BZ prog 178 [agg (CE e),Dm l,ints so,ints done,int fr,int Nf,is (JQ N b)] (EA [Xi,EJ]) (EV b 4 (fun x:Bool=>[Cp.bool x]) (fun L:List Bool=>L.length=N) []) (fun _=>EV b 4 (fun x:Bool=>[Cp.bool x]) (fun L:List Bool=>L.length=N) [])):BZ prog 178 [agg (CE e),Dm l,ints so,ints done,int fr,int Nf,is (JQ N b)] (EA [Xi,EJ]) (EV b 4 (fun x:Bool=>[Cp.bool x]) (fun L:List Bool=>L.length=N) []) (fun _=>EV b 4 (fun x:Bool=>[Cp.bool x]) (fun L:List Bool=>L.length=N) []):=by
 refine BZ.of func178 rfl rfl Ao fun M0 w0 S rs M1 w1=> ?_
 refine ac ?_
 refine Tr.seq (Tr.seq (Tr.Jr 0 rfl fun dd1 ADG=> ?_))
 refine ap ?_
 refine tp rfl (Cn (KI (m:=l.length) hdr AA) rfl rfl) ?_
 refine TO.ex 22 rfl (fun z1=>TO.fact 22 rfl fun Eg=> ?_)
 have hzN:z1<N:=hN ▸ Eg
 refine tp rfl (BG rfl underlying160 Vs (vl rfl) (vl rfl) AA AA) (TO.rd 0 rfl rfl rfl AB (BE rfl eY (vl rfl) (Qv (g:=(fun x:Bool=>Cp.bool x)) AA)) ?_)
 refine ap ?_
 refine Tr.cn rfl ?_ ?_<;>intro h1 q1
 refine Tr.seq (Tr.GX (fun L:List Bool=>L.length=N) 0 rfl ADG ?_)
 refine ac ?_
 refine Tr.ret (Fin.AE (Fin.FF rfl rfl ?_ rfl ?_))
 · exact LN
 · exact BJ
 refine ac ?_
 refine Tr.seq (Tr.seq (Tr.GX (fun L:List Bool=>L.length=N) 0 rfl ADG ?_))
 refine ac ?_
 refine co rfl (kc5 (iD hz hn hc AA) rfl rfl rfl rfl rfl rfl) ?_
 refine ac ?_
 refine wk [30,7,6,5,4,3,2,1] rfl (Tr.ex 30 rfl fun AHr=> ?_)
 refine Tr.cn rfl ?_ ?_<;>intro h2 q2
 refine ac ?_
 refine wk [35,7,6,5,4,3,2,1] rfl ?_
 refine Tr.cn rfl ?_ ?_<;>intro h3 q3
 refine ac ?_
 refine Tr.ret (Fin.AE (Fin.AE (Fin.FF rfl rfl ?_ rfl ?_)))
 · exact Aw so (A7 AA Lr)
 · exact BJ
 refine a2 ?_
 refine Tr.block (Tr.MQ _ (kk [38,7,6,5,4,3,2,1] rfl) (fun (k:Nat)=>[(39,int ((k:Nat):Int))]) (fun (k:Nat)=>Hp M0 w0 S (EV b 4 (fun x:Bool=>[Cp.bool x]) (fun L:List Bool=>L.length=N) []::Ak M1 w1::rs)) (fun (k:Nat)=>k≤l.length) (fun (k:Nat)=>l.length-k) (0)  (Nat.zero_le _) kz (fun _ _ h=>h) ?_)
 rintro k  hk0
 refine ac ?_
 refine Tr.seq ?_
 refine Tr.cn rfl ?_ ?_<;>intro h4 q4
 have hk:k<l.length:=AH h4
 refine a3 ?_
 refine co rfl (CK (J8) rfl rfl rfl) ?_
 refine ac ?_
 refine wk [44,39,38,16,7,6,5,4,3,2,1] rfl ?_
 refine Tr.cn rfl ?_ ?_<;>intro h5 q5
 refine a2 ?_
 exact Fin.MR (k+1)  (⟨by omega,by omega⟩) ⟨⟨_,rfl,AG k⟩,kz⟩ (fun _ _ h=>h)
 refine ac ?_
 refine ap ?_
 refine TO.pad ?_
 refine TO.DQ 0 rfl rfl AB (D3 rfl rfl AB rfl underlying22 Bt He z3 rfl AB ⟨_,rfl,AP _⟩ (vl rfl) (by simp only [List.length_append,List.length_map,List.length_cons,List.length_nil];unfold maxLen;omega) (by simp only [List.length_append,List.length_map,List.length_cons,List.length_nil];omega) (Bq BN ⟨_,rfl,C8 1⟩)) (fun v1=> ?_)
 refine ap ?_
 refine wk [39,38,17,16,7,6,5,4,3,2,1] rfl ?_
 refine ap ?_
 refine TO.DQ 0 rfl rfl AB (B1 rfl rfl rfl rfl underlying22 Bt He z3 (Kb rfl) (Kf rfl) (Ax BN (Ka rfl))) (fun v2=> ?_)
 refine ap ?_
 refine wk [39,38,17,16,7,6,5,4,3,2,1] rfl (Tr.seq (Tr.rx ?_))
 refine ay ?_
 refine xo rfl (fun _=>K0 (Gk AA) rfl rfl rfl rfl) ?_
 refine ay ?_
 refine Cx.ef 1 rfl rfl AB (An rfl rfl AB rfl (ih (m-1) AA (so++[((k:Nat):Int)]) (Ed done ((k:Nat):Int) true) B4 (iE hdr AA) (by have:=Nl done ((k:Nat):Int) true;simp;omega)) ⟨ke rfl,ke rfl,⟨_,rfl,Pr.le_trans (Aq _ _) (Pr.le_of_eq (by show _=slice 1 ((so++[((k:Nat):Int)]).map fun n=>[int n]);rw [List.nil_append,List.map_append];rfl))⟩,kz⟩) ?_
 refine ay ?_
 refine Cx.nil ⟨by kernel_rfl,?_⟩
 refine BO.done al3 (Fin.go (Tr.drop 0 (wk [39,38,19,18,7,6,5,4,3,2,1] rfl ?_)))
 refine ac ?_
 refine Tr.ex 64 rfl fun AHs=> ?_
 refine Tr.cn rfl ?_ ?_<;>intro h6 q6
 refine ac ?_
 refine wk [15,14] rfl (Tr.ret (Fin.AR (Fin.AE (Fin.AE (Fin.AR (Fin.AE (Fin.FF rfl rfl ?_ rfl ?_)))))))
 · exact Lr
 · exact BJ
 refine a2 ?_
 exact Fin.MR (k+1)  (⟨by omega,by omega⟩) ⟨⟨_,rfl,AG k⟩,kz⟩ (fun _ _ h=>h)
 have eH:=AJ h4
 refine ac ?_
 refine Tr.seq (Tr.Jr 0 rfl fun dd2 AGa=> ?_)
 refine ap ?_
 refine tp rfl (Cn (KI (m:=l.length) hdr AA) rfl rfl) ?_
 refine TO.ex 69 rfl (fun z2=>TO.fact 69 rfl fun IL=> ?_)
 have hzN:z2<N:=hN ▸ IL
 refine tp rfl (BG rfl underlying160 Vs (vl rfl) (vl rfl) AA AA) ?_
 refine TO.Dv 0 rfl rfl (A9 rfl rfl (vl rfl) (Vo rfl) Vs rfl QC (F2 (f:=fun x:Bool=>[Cp.bool x]) (x:=true) (fun _=>rfl) AA)) ?_
 refine ap ?_
 refine Tr.weak [] trivial (Tr.seq ?_)
 refine Tr.GX (fun L:List Bool=>L.length=N) 0 rfl (by rw [List.length_set];exact AGa) ?_
 refine ac ?_
 refine Tr.ret (Fin.FF rfl rfl ?_ rfl ?_)
 · exact LN
 · exact BJ
 refine ac ?_
 refine Tr.seq (Tr.Jr 0 rfl fun dd3 AGb=> ?_)
 refine ap ?_
 refine tp rfl (Cn (KI (m:=l.length) hdr AA) rfl rfl) ?_
 refine TO.ex 69 rfl (fun z3=>TO.fact 69 rfl fun hz3=> ?_)
 have hzN:z3<N:=hN ▸ hz3
 refine tp rfl (BG rfl underlying160 Vs (vl rfl) (vl rfl) AA AA) ?_
 refine TO.Dv 0 rfl rfl (A9 rfl rfl (vl rfl) (Vo rfl) Vs rfl QC (F2 (f:=fun x:Bool=>[Cp.bool x]) (x:=true) (fun _=>rfl) AA)) ?_
 refine ap ?_
 refine Tr.weak [] trivial (Tr.seq ?_)
 refine Tr.GX (fun L:List Bool=>L.length=N) 0 rfl (by rw [List.length_set];exact AGb) ?_
 refine ac ?_
 refine Tr.ret (Fin.FF rfl rfl ?_ rfl ?_)
 · exact LN
 · exact BJ
theorem Xj {e:Dc} {l:List BX} {n:Nat} {fr Nf:Int} {b N:Nat} (hz:e.sz n) (hn:n≤800000) (hc:∀c∈l,c.C2.fits∧c.C2.small) (hN:2 ^ l.length=N) (hl:l.length≤10):∀(m:Nat) {so done:List Int},so.length+m=l.length→(∀i∈done,0≤i∧i<((l.length:Nat):Int))→done.length≤so.length→BZ Tryz.prog 178 [agg (CE e),Dm l,ints so,ints done,int fr,int Nf,is (JQ N b)] (EA [Xi,EJ]) (EV b 4 (fun x:Bool=>[Cp.bool x]) (fun L:List Bool=>L.length=N) []) (fun _=>EV b 4 (fun x:Bool=>[Cp.bool x]) (fun L:List Bool=>L.length=N) [])
 |0,so,done,h1,h2,h3=>Ts hz hn hc hN hl h1 h2 h3 (fun m' h=>absurd h AA)
 |m+1,so,done,h1,h2,h3=>Ts hz hn hc hN hl h1 h2 h3 (fun m' h so' done' g1 g2 g3=>by
  obtain rfl:m'=m:=by omega
  exact Xj hz hn hc hN hl m' g1 g2 g3)
theorem SV {e:Dc} {l:List BX} {n:Nat} {fr Nf:Int} (hz:e.sz n) (hn:n≤800000) (hc:∀c∈l,c.C2.fits∧c.C2.small)  :BD prog 125 [agg (CE e),Dm l,int fr,int Nf] (EA [Xi,anyI]):=by
 refine fo func125 rfl ⟨rfl,rfl⟩ fun M0 w0=>(Tr.C6 1 rfl fun G2=> ?_)
 have hf:=hz.fits AA
 refine a2 ?_
 refine co rfl (Cn (Dr hf) rfl rfl) ?_
 refine an ?_ ?_<;>intro h1 q1
 refine ac ?_
 refine Tr.ret (Fin.AE (Fin.Dp rfl (Br.Dz _ _) rfl ?_ rfl ?_))
 · exact LN
 · exact BJ
 refine ac ?_
 refine an ?_ ?_<;>intro h2 q2
 refine ac ?_
 refine Tr.ret (Fin.AE (Fin.Dp rfl (Br.Dz _ _) rfl ?_ rfl ?_))
 · exact LN
 · exact BJ
 have ADH:l.length≤10:=by have:=q2;omega
 obtain ⟨N,hN⟩:∃N,2 ^ l.length=N:=⟨_,rfl⟩
 have hN2:N≤1024:=by have:=Nat.pow_le_pow_right (n:=2) AA ADH;omega
 refine a2 ?_
 refine co rfl (CK (Tq) rfl rfl rfl) (co rfl (I3 rfl vq) ?_)
 refine ac ?_
 refine Tr.ex 22 rfl fun AHt=> ?_
 refine Tr.cn rfl ?_ ?_<;>intro h3 q3
 refine ac ?_
 refine wk [9,8] rfl (Tr.ret (Fin.AE (Fin.Dp rfl (Br.Dz _ _) rfl ?_ rfl ?_)))
 · exact LN
 · exact BJ
 refine ac ?_
 refine wk [4,3,2,1] rfl ?_
 refine ap ?_
 refine tp rfl (Ae.le (dK rfl vq vq AA AA) (int_eq (b:=((N:Nat):Int)) (by rw [Int.toNat_natCast,hN]))) ?_
 refine TO.Ub rfl rfl AB rfl underlying160 Vs by4 z4 rfl vq vq Fu AA (fun b1=> ?_)
 refine ap ?_
 refine Tr.seq (Tr.eqC 0 (((List.replicate N false).map fun x:Bool=>[Cp.bool x]).flatten++[]) rfl iF (Tr.GX (fun L:List Bool=>L.length=N) 0 rfl List.length_replicate ?_))
 refine ap ?_
 refine TO.HJ 0 rfl rfl AB (An rfl rfl AB rfl (Xj (so:=[]) (done:=[]) hz hn hc hN ADH l.length AU (fun i hi=>by cases hi) (Nat.le_refl _)) ⟨kq,kq,⟨_,rfl,AP 1⟩,⟨_,rfl,AP 1⟩,kz⟩) ?_
 refine ap ?_
 refine wk [12,11] rfl (Tr.seq (Tr.seq (Tr.ex 12 rfl fun x12=> ?_)))
 refine an ?_ ?_<;>intro h4 q4
 refine ac ?_
 refine Tr.ret (Fin.AE (Fin.Dp rfl (Br.Dz _ _) rfl ?_ rfl ?_))
 · exact LN
 · exact BJ
 refine a2 ?_
 refine Tr.ret (Fin.Dp rfl (Br.Dz _ _) rfl ?_ rfl ?_)
 · exact Lr
 · exact BJ
structure Ru (m:Nat) (l:List BX) (r:List BK) (d:List Int):Prop where
 fit:Rt m l r d
 l7:l.length≤7
 ok:∀c∈l,c.C2.fits∧c.C2.small
 rl:r.length≤1000
abbrev dc (m:Nat):Pr:=Cp.ex fun z:List BX×List BK×List Int=>fact (Ru m z.1 z.2.1 z.2.2) (JK z.1 z.2.1 z.2.2)
theorem iG {m:Nat}:Ru m [] [] []:=⟨⟨by decide,rfl,by decide,fun j y c h=>absurd h AU⟩,by decide,(fun c h=>by cases h),by decide⟩
theorem E6 {m:Nat}:Pr.le (agg [is (.slice none 0 0),is (.slice none 0 0),is (.slice none 0 0)]) (dc m):=Aw ([],[],[]) (A7 iG (BT ⟨AP 8,AP 2,AP 1,trivial⟩))
theorem uf {e:Dc} {c:BR} {l:List BX} {r:List BK} {fr:Int}:(∀x∈NL e c l r fr,x∈l)∧(NL e c l r fr).length≤l.length∧(QG e c l r fr).length≤r.length:=by
 unfold NL QG
 by_cases h:KE e c l r fr=0
 · rw [if_pos h,if_pos h];exact ⟨fun x h=>h,Nat.le_refl _,Nat.le_refl _⟩
 · rw [if_neg h,if_neg h];exact ⟨(fun x h=>by cases h),Nat.zero_le _,Nat.zero_le _⟩
abbrev ADI:Pr:=Cp.ex fun z:List BK=>fact (z.length≤1000) (reqs z)
theorem HT {e:Dc} {c:BR} {l:List BX} {r:List BK} {n:Nat} {fr Nf:Int} (hz:e.sz n) (hn:n≤800000) (hc:∀x∈l,x.C2.fits∧x.C2.small) (h7:l.length≤7) (hrl:r.length≤1000):BD prog 124 [agg (CE e),Ll c,Dm l,reqs r,Mw,Rk,VY,int fr,int Nf] (EA [dc e.Bs.length,pI,EJ]):=by
 refine fo func124 rfl ⟨rfl,rfl⟩ fun M0 w0=> ?_
 have hf:=hz.fits AA
 obtain ⟨hs1,Uw,hs3⟩:=uf (e:=e) (c:=c) (l:=l) (r:=r) (fr:=fr)
 have hcs:∀x∈NL e c l r fr,x.C2.fits∧x.C2.small:=fun x hx=>hc x (hs1 x hx)
 refine Tr.seq (Tr.Ap ?_)
 iterate 4 refine tp rfl (Bn rfl C1) ?_
 refine Tl rfl rfl rfl rfl z35 E3 (fun b1=> ?_)
 refine Tl rfl rfl rfl rfl z107 EZ (fun b2=> ?_)
 refine ao ?_
 refine ao ?_
 refine tp rfl (kc5 (SU (e:=e) (c:=c) (l:=l) (r:=r) (fr:=fr) hf (fun x hx=>(hc x hx).2) AA) rfl rfl rfl rfl rfl rfl) ?_
 refine ao ?_
 refine Tl rfl rfl rfl rfl z35 E3 (fun b3=> ?_)
 refine sf 0 21 ⟨rfl,rfl,rfl⟩ rfl rfl rfl rfl ?_
 refine ao ?_
 refine wk [22,21,19,18,15,13,9,8,7,5] rfl ?_
 refine an ?_ ?_<;>intro h1 q1
 refine ao ?_
 refine TO.AK 1 rfl rfl rfl vq C1 rfl CI rfl rfl (TO.AK 0 rfl rfl rfl vq C1 rfl Bm rfl rfl ?_)
 refine ao ?_
 refine wk [20,19,18] rfl (Tr.ret (Fin.AE (Fin.FG rfl (AO.cell 1 rfl rfl Cs CI rfl Lr) (AO.cell 0 rfl rfl CM Bm rfl Lr) (AO.tmp rfl Lr) ?_)))
 refine A_ ⟨?_,?_,?_,trivial⟩
 · exact E6
 · exact Dx
 · exact BJ
 refine ac ?_
 refine ao ?_
 refine tp rfl (iU (iC (l:=(NL e c l r fr)) (r:=(QG e c l r fr)) (d:=(UB e c l r fr)) hz hn hcs AA) rfl rfl rfl rfl rfl) ?_
 refine TO.ex 43 rfl (fun z1=>TO.fact 43 rfl fun Eg=> ?_)
 refine ao ?_
 refine Tl rfl rfl rfl rfl z107 EZ (fun b4=> ?_)
 refine sf 0 23 ⟨rfl,rfl,rfl⟩ rfl rfl rfl rfl ?_
 refine ao ?_
 refine wk [23,22,21,19,18,15,13,9,5] rfl ?_
 refine an ?_ ?_<;>intro h2 q2
 refine ao ?_
 refine TO.AK 1 rfl rfl rfl vq C1 rfl CI rfl rfl (TO.AK 0 rfl rfl rfl vq C1 rfl Bm rfl rfl ?_)
 refine ao ?_
 refine wk [20,19,18] rfl (Tr.ret (Fin.AE (Fin.FG rfl (AO.cell 1 rfl rfl Cs CI rfl Lr) (AO.cell 0 rfl rfl CM Bm rfl Lr) (AO.tmp rfl Lr) ?_)))
 refine A_ ⟨?_,?_,?_,trivial⟩
 · exact E6
 · exact Dx
 · exact BJ
 have hz0:z1=0:=by have:=q2;omega
 obtain ⟨_,hfp⟩:=Eg hz0
 have hpq:Ru e.Bs.length (NL e c l r fr) (QG e c l r fr) (UB e c l r fr):=⟨hfp,by omega,hcs,by omega⟩
 refine ac ?_
 refine ao ?_
 refine tp rfl (kc5 (Z1 (l:=(NL e c l r fr)) (r:=(QG e c l r fr)) (d:=(UB e c l r fr)) hz hn hcs AA) rfl rfl rfl rfl rfl rfl) ?_
 refine TO.ex 56 rfl (fun z2=>TO.fact 56 rfl fun IL=> ?_)
 refine ao ?_
 refine wk [24,23,22,21,19,18] rfl (Tr.seq ?_)
 by_cases IL:z2.2=0
 refine Tr.rx ?_
 refine ay ?_
 refine Cx.yes rfl rfl rfl HD rfl AB (fun _=>BM rfl vq) (Cx.yes rfl rfl rfl HD rfl AB (fun _=>CH rfl underlying22 vq) (Cx.yes rfl rfl rfl HD rfl AB (fun _=>ki rfl rfl rfl rfl) (xo rfl (fun _=>KU rfl vq HD vq) ?_)))
 refine ay ?_
 refine Cx.nil ⟨by kernel_rfl,?_⟩
 refine BO.done Wh (Fin.go (wk [20,19,18] rfl (Tr.ret (Fin.FG rfl (AO.cell 1 rfl rfl Cs CI rfl Lr) (AO.cell 0 rfl rfl CM Bm rfl Lr) (AO.tmp rfl Lr) ?_))))
 refine A_ ⟨?_,?_,?_,trivial⟩
 · exact aV
 · exact Lr
 · exact BJ
 refine Tr.rx ?_
 refine ay ?_
 refine Cx.no rfl rfl rfl (Bf HD) rfl AB (Cx.no rfl rfl rfl (Bf HD) rfl AB (Cx.no rfl rfl rfl (Bf HD) rfl AB (xo rfl (fun _=>KV rfl vq HD vq) ?_)))
 refine ay ?_
 refine Cx.nil ⟨by kernel_rfl,?_⟩
 refine BO.done Wh (Fin.go (wk [20,19,18] rfl (Tr.ret (Fin.FG rfl (AO.cell 1 rfl rfl Cs CI rfl Lr) (AO.cell 0 rfl rfl CM Bm rfl Lr) (AO.tmp rfl Lr) ?_))))
 refine A_ ⟨?_,?_,?_,trivial⟩
 · exact aV
 · exact Lr
 · exact BJ
theorem KJ {o:List Int} (ho:o.length≤1000):BD Tryz.prog 126 [ints o] ADI:=(Zo ho).le (fun _ _ _ h=>h) (fun M w v ⟨z,hz,h⟩=>⟨z,Nat.le_trans hz ho,h⟩)
theorem Tt {n:Nat} (hn:n≤1000):BD Tryz.prog 127 [int ((n:Nat):Int)] Xi:=(pE hn).le (fun _ _ _ h=>h) (fun M w v ⟨z,hz,h⟩=>⟨z,Nat.le_trans hz hn,h⟩)
theorem pJ {c:BR} {l:List BX} (h:EY c l=0):∀x∈l,0≤x.AX∧x.AX<(c.Is.length:Nat):=fun x hx=>by
 have hb:=(Rd h).2 x hx
 unfold Od at hb
 rw [Bool.or_eq_false_iff,decide_eq_false_iff_not,decide_eq_false_iff_not] at hb
 omega
theorem pK {e:Dc} {l:List BX} (h:l.length≤24):(ud e l).length≤1000:=by
 have h1:=Rr e l l.length
 have h2:=Nat.mul_le_mul h h
 unfold ud;omega
theorem iH {e:Dc} {c:BR} {l:List BX} {n:Nat} {fr Nf:Int} (hz:e.sz n) (hn:n≤800000) (hc:∀x∈l,x.C2.fits∧x.C2.small) (h7:l.length≤7):BD prog 66 [agg (CE e),Ll c,Dm l,Mw,Rk,VY,int fr,int Nf] (EA [dc e.Bs.length,pI,anyI]):=by
 refine BD.of func66 rfl rfl Ao fun M0 w0=> ?_
 have hf:=hz.fits AA
 refine Tr.seq (Tr.Ap ?_)
 iterate 4 refine tp rfl (Bn rfl (Va rfl)) ?_
 refine Tl rfl rfl rfl rfl z35 E3 (fun b1=> ?_)
 refine Tl rfl rfl rfl rfl z107 EZ (fun b2=> ?_)
 refine tm rfl (TO.nil (Fin.go (Tr.seq (Tr.seq (Tr.Aj (co rfl (AQ rfl DT DR (vl rfl) rfl rfl) (co rfl (AV rfl (Dr hf) ⟨ke rfl,trivial⟩) (co rfl (ki rfl rfl rfl rfl) (Ch.nil (Fin.go ?_))))))))))
 refine Tr.cn rfl ?_ ?_<;>intro h1 q1
 refine Tr.seq (Tr.Ap (tp rfl (Al (rows:=[]) rfl LS E3 trivial rfl) (tp rfl (Al (rows:=[]) rfl JF EZ trivial rfl) (TO.AK 1 rfl rfl rfl (vl rfl) (Va rfl) rfl CI rfl rfl (TO.AK 0 rfl rfl rfl (vl rfl) (Va rfl) rfl Bm rfl rfl (tm rfl (TO.nil (Fin.go (GM 16 17 18 rfl (Tr.ret (Fin.AE (Fin.FG rfl (AO.cell 1 rfl rfl Cs CI rfl (Lr)) (AO.cell 0 rfl rfl CM Bm rfl (Lr)) (AO.tmp rfl (Lr)) ?_))))))))))))
 refine A_ ⟨?_,?_,?_,trivial⟩
 · exact E6
 · exact Dx
 · exact C0
 have Uq:FM e=true:=by cases h_:FM e with|true=>rfl|false=>exact absurd h1 L_
 refine Tr.skip (Fin.go (Tr.seq (Tr.seq (Tr.Aj (co rfl (AQ rfl OB WM (vl rfl) rfl rfl) (co rfl (Ss rfl Ic rfl rfl) (co rfl (GU rfl S0 rfl) (co rfl (CH rfl underlying27 (vl rfl)) ?_))))))))
 refine co rfl (AV rfl (J4 (c:=c) (m:=((e.Bs.length:Nat):Int))) ⟨ke rfl,ke rfl,trivial⟩) ?_
 refine cm rfl (Ch.nil (Fin.go (JP 2 4 6 7 8 9 11 13 16 17 19 rfl (Tr.seq (Tr.Aj (cm rfl (co rfl (ki rfl rfl rfl rfl) (Ch.nil (Fin.go ?_)))))))))
 refine Tr.cn rfl ?_ ?_<;>intro h2 q2
 refine Tr.seq (Tr.Ap (tp rfl (Al (rows:=[]) rfl LS E3 trivial rfl) (tp rfl (Al (rows:=[]) rfl JF EZ trivial rfl) (tm rfl (TO.AK 1 rfl rfl rfl (vl rfl) (Va rfl) rfl CI rfl rfl (TO.AK 0 rfl rfl rfl (vl rfl) (Va rfl) rfl Bm rfl rfl (tm rfl (TO.nil (Fin.go (GM 16 17 18 rfl (Tr.ret (Fin.AE (Fin.FG rfl (AO.cell 1 rfl rfl Cs CI rfl (Lr)) (AO.cell 0 rfl rfl CM Bm rfl (Lr)) (AO.tmp rfl (Lr)) ?_)))))))))))))
 refine A_ ⟨?_,?_,?_,trivial⟩
 · exact E6
 · exact Dx
 · exact C0
 have hck:c.check ((e.Bs.length:Nat):Int)=0:=by simpa using h2
 obtain ⟨how,htl,hth⟩:=Te hck
 refine Tr.skip (Fin.go (Tr.seq (Tr.seq (Tr.Aj (co rfl (AQ rfl OB WM (vl rfl) rfl rfl) (cm rfl ?_))))))
 refine co rfl (AV rfl (Rs (c:=c) (l:=l) how) ⟨ke rfl,ke rfl,trivial⟩) ?_
 refine cm rfl (co rfl (BB rfl (vl rfl) rfl) (co rfl (BB rfl (vl rfl) rfl) (cm rfl (cm rfl (Ch.nil (Fin.go (JP 2 4 6 7 8 9 11 13 16 17 21 rfl (Tr.seq (Tr.Aj (cm rfl (co rfl (ki rfl rfl rfl rfl) (Ch.nil (Fin.go ?_)))))))))))))
 refine Tr.cn rfl ?_ ?_<;>intro h3 q3
 refine Tr.seq (Tr.Ap (tp rfl (Al (rows:=[]) rfl LS E3 trivial rfl) (tp rfl (Al (rows:=[]) rfl JF EZ trivial rfl) (tm rfl (TO.AK 1 rfl rfl rfl (vl rfl) (Va rfl) rfl CI rfl rfl (TO.AK 0 rfl rfl rfl (vl rfl) (Va rfl) rfl Bm rfl rfl (tm rfl (TO.nil (Fin.go (GM 16 17 18 rfl (Tr.ret (Fin.AE (Fin.FG rfl (AO.cell 1 rfl rfl Cs CI rfl (Lr)) (AO.cell 0 rfl rfl CM Bm rfl (Lr)) (AO.tmp rfl (Lr)) ?_)))))))))))))
 refine A_ ⟨?_,?_,?_,trivial⟩
 · exact E6
 · exact Dx
 · exact C0
 have hep:=pJ (c:=c) (l:=l) KS
 refine Tr.skip (Fin.go (Tr.seq (Tr.seq (Tr.Aj (co rfl (AQ rfl NZ S2 (vl rfl) rfl rfl) (cm rfl (co rfl (AV rfl (KF) ⟨ke rfl,ke rfl,ke rfl,trivial⟩) (cm rfl (Ch.nil (Fin.go (JP 2 4 6 7 8 9 11 13 16 17 22 rfl (Tr.seq (Tr.ex 22 rfl fun x22=>(Tr.Aj ?_))))))))))))))
 refine cm rfl (co rfl (ki rfl rfl rfl rfl) (Ch.nil (Fin.go ?_)))
 refine Tr.cn rfl ?_ ?_<;>intro h4 q4
 refine Tr.seq (Tr.Ap (tp rfl (Al (rows:=[]) rfl LS E3 trivial rfl) (tp rfl (Al (rows:=[]) rfl JF EZ trivial rfl) (tm rfl (TO.AK 1 rfl rfl rfl (vl rfl) (Va rfl) rfl CI rfl rfl (TO.AK 0 rfl rfl rfl (vl rfl) (Va rfl) rfl Bm rfl rfl (tm rfl (TO.nil (Fin.go (GM 16 17 18 rfl (Tr.ret (Fin.AE (Fin.FG rfl (AO.cell 1 rfl rfl Cs CI rfl (Lr)) (AO.cell 0 rfl rfl CM Bm rfl (Lr)) (AO.tmp rfl (Lr)) ?_)))))))))))))
 refine A_ ⟨?_,?_,?_,trivial⟩
 · exact E6
 · exact Dx
 · exact C0
 refine Tr.skip (Fin.go (Tr.seq (Tr.seq (Tr.Aj (cm rfl (cm rfl (co rfl (AV rfl (Tq) ⟨ke rfl,ke rfl,trivial⟩) (co rfl (I3 rfl (vl rfl)) (Ch.nil (Fin.go (JP 2 4 6 7 8 9 11 13 16 17 73 rfl (Tr.ex 73 rfl fun AHu=> ?_))))))))))))
 refine Tr.cn rfl ?_ ?_<;>intro h5 q5
 refine Tr.seq (Tr.Ap (tp rfl (Al (rows:=[]) rfl LS E3 trivial rfl) (tp rfl (Al (rows:=[]) rfl JF EZ trivial rfl) (TO.AK 1 rfl rfl rfl (vl rfl) (Va rfl) rfl CI rfl rfl (TO.AK 0 rfl rfl rfl (vl rfl) (Va rfl) rfl Bm rfl rfl (tm rfl (TO.nil (Fin.go (GM 16 17 18 rfl (Tr.ret (Fin.AE (Fin.FG rfl (AO.cell 1 rfl rfl Cs CI rfl (Lr)) (AO.cell 0 rfl rfl CM Bm rfl (Lr)) (AO.tmp rfl (Lr)) ?_))))))))))))
 refine A_ ⟨?_,?_,?_,trivial⟩
 · exact E6
 · exact Dx
 · exact C0
 refine Tr.skip (Fin.go (Tr.seq (Tr.Aj (co rfl (AQ rfl DT DR (vl rfl) rfl rfl) (cm rfl ?_)))))
 refine co rfl (AV rfl (Xe hf Uq AA (fun x hx=>by have:=hep x hx;omega)) ⟨ke rfl,ke rfl,trivial⟩) ?_
 refine cm rfl (co rfl (BB rfl (vl rfl) rfl) (co rfl (BB rfl (vl rfl) rfl) (cm rfl (cm rfl (Ch.nil (Fin.go (JP 2 4 6 7 8 9 11 13 16 17 23 rfl (Tr.seq (Tr.seq (Tr.Ap (tp rfl (AQ rfl DT DR (vl rfl) rfl rfl) (tp rfl (AQ rfl OB WM (vl rfl) rfl rfl) (tm rfl ?_)))))))))))))
 refine tm rfl (tp rfl (AQ rfl NZ S2 (vl rfl) rfl rfl) (tm rfl (tp rfl (AQ rfl Qe WO (vl rfl) rfl rfl) (tm rfl (tm rfl ?_)))))
 refine tp rfl (AV rfl (HT (e:=e) (c:=c) (l:=l) (r:=ud e l) hz hn hc AA (pK AA)) ⟨ke rfl,ke rfl,ke rfl,ke rfl,ke rfl,ke rfl,ke rfl,ke rfl,ke rfl,trivial⟩) ?_
 refine tm rfl (tp rfl (BB rfl (vl rfl) rfl) ?_)
 refine TO.ex 93 rfl (fun p1=>TO.fact 93 rfl fun R6=> ?_)
 refine tp rfl (BB rfl (vl rfl) rfl) (tp rfl (BB rfl (vl rfl) rfl) ?_)
 refine Tl rfl rfl rfl rfl z35 E3 (fun b3=> ?_)
 refine Tl rfl rfl rfl rfl z107 EZ (fun b4=> ?_)
 refine TO.AK 1 rfl rfl rfl (vl rfl) (Va rfl) rfl CI rfl rfl (TO.freeze 1 25 rfl rfl (TO.AK 0 rfl rfl rfl (vl rfl) (Va rfl) rfl Bm rfl rfl (TO.freeze 0 26 rfl rfl (tm rfl (TO.nil (Fin.go (WC 2 4 6 7 8 9 11 13 16 17 25 26 27 rfl (Tr.seq (Tr.Aj (cm rfl (Ch.nil (Fin.go (WC 2 4 6 7 8 9 11 13 16 17 25 26 96 rfl (Tr.ex 96 rfl fun AHv=> ?_))))))))))))))
 refine Tr.cn rfl ?_ ?_<;>intro h6 q6
 refine Tr.seq (Tr.Gu mixed [none,none,some (0,1,true,0),some (0,0,true,0),none] Be (xo rfl (fun _=>AQ rfl Cs CI (vl rfl) rfl rfl) (xo rfl (fun _=>AQ rfl CM Bm (vl rfl) rfl rfl) (Cx.Dv 1 rfl rfl (A9 rfl rfl (vl rfl) (Va rfl) CI rfl Ao rfl) (Cx.Dv 0 rfl rfl (A9 rfl rfl (vl rfl) (Va rfl) Bm rfl Ao rfl) (xm rfl ?_))))))
 refine Cx.nil ⟨rfl,?_⟩
 refine BO.done (A8.cons (A8.cons (A8.map _))) (Fin.go (GM 16 17 18 rfl (Tr.ret (Fin.AE (Fin.FG rfl (AO.cell 1 rfl rfl Cs CI rfl (Lr)) (AO.cell 0 rfl rfl CM Bm rfl (Lr)) (AO.tmp rfl (Lr)) ?_)))))
 refine A_ ⟨?_,?_,?_,trivial⟩
 · exact O2
 · exact Lr
 · exact C0
 refine Tr.skip (Fin.go (Of 2 4 6 7 8 9 11 13 16 17 rfl (Tr.seq (Tr.seq (Tr.Aj (cm rfl (co rfl (CH rfl underlying32 (vl rfl)) (co rfl (ki rfl rfl rfl rfl) (Ch.nil (Fin.go ?_))))))))))
 refine Tr.cn rfl ?_ ?_<;>intro h7 q7
 refine Tr.seq (Tr.Ap (tp rfl (Al (rows:=[]) rfl LS E3 trivial rfl) (tp rfl (Al (rows:=[]) rfl JF EZ trivial rfl) (TO.AK 1 rfl rfl rfl (vl rfl) (Va rfl) rfl CI rfl rfl (TO.AK 0 rfl rfl rfl (vl rfl) (Va rfl) rfl Bm rfl rfl (tm rfl (TO.nil (Fin.go (GM 16 17 18 rfl (Tr.ret (Fin.AE (Fin.FG rfl (AO.cell 1 rfl rfl Cs CI rfl (Lr)) (AO.cell 0 rfl rfl CM Bm rfl (Lr)) (AO.tmp rfl (Lr)) ?_))))))))))))
 refine A_ ⟨?_,?_,?_,trivial⟩
 · exact E6
 · exact Dx
 · exact C0
 refine Tr.skip (Fin.go (Tr.seq (Tr.seq (Tr.Aj (co rfl (AQ rfl DT DR (vl rfl) rfl rfl) (cm rfl (cm rfl (cm rfl (co rfl (AV rfl (SV hz hn hc) ⟨ke rfl,ke rfl,ke rfl,ke rfl,trivial⟩) (cm rfl (co rfl (BB rfl (vl rfl) rfl) (co rfl (BB rfl (vl rfl) rfl) (cm rfl ?_)))))))))))))
 refine cm rfl (Ch.nil (Fin.go (AAf 2 4 6 7 8 9 11 13 16 17 28 29 rfl (Tr.seq (Tr.ex 29 rfl fun x29=>(Tr.Aj (cm rfl (co rfl (ki rfl rfl rfl rfl) (Ch.nil (Fin.go (AAf 2 4 6 7 8 9 11 13 16 17 28 113 rfl ?_)))))))))))
 refine Tr.cn rfl ?_ ?_<;>intro h8 q8
 refine Tr.seq (Tr.ex 28 rfl fun sq=>(Tr.fact 28 rfl fun hsq=>(Tr.pad (Tr.pad (Tr.Gu mixed [none,none,none,none,none,none,none,none,none,none,none,none,none,none,none,some (0,0,true,30),some (0,1,true,31),some (30,0,true,30),some (31,1,true,31),none] Be (xo rfl (fun _=>AQ rfl DT DR (vl rfl) rfl rfl) (xo rfl (fun _=>AQ rfl OB WM (vl rfl) rfl rfl) (xm rfl (xm rfl (xo rfl (fun _=>AV rfl (KJ hsq) ⟨ke rfl,trivial⟩) (xo rfl (fun _=>AQ rfl NZ S2 (vl rfl) rfl rfl) (xm rfl (xo rfl (fun _=>AQ rfl Qe WO (vl rfl) rfl rfl) ?_)))))))))))))
 refine xm rfl (xm rfl ?_)
 refine xo rfl (fun _=>AV rfl (BD.nr [agg (CE e),Ll c,Dm l] ([]:List BK) AU fun z hz_=>HT (e:=e) (c:=c) (l:=l) (r:=z) hz hn hc AA hz_) ⟨ke rfl,ke rfl,ke rfl,ke rfl,ke rfl,ke rfl,ke rfl,ke rfl,ke rfl,trivial⟩) ?_
 refine xm rfl (xo rfl (fun _=>BB rfl (vl rfl) rfl) (xo rfl (fun _=>BB rfl (vl rfl) rfl) (xo rfl (fun _=>BB rfl (vl rfl) rfl) (Cx.ef 0 rfl rfl AB (CW rfl rfl AB rfl z35 E3) (Cx.ef 1 rfl rfl AB (CW rfl rfl AB rfl z107 EZ) (Cx.Dv 0 rfl rfl (Kr (f:=fun z:List BX×List BK×List Int=>[Dm z.1,reqs z.2.1,ints z.2.2]) (φ:=fun z:List BX×List BK×List Int=>Ru e.Bs.length z.1 z.2.1 z.2.2) rfl rfl rfl AB rfl rfl CI (fun _=>rfl) rfl) (Cx.Dv 1 rfl rfl (DF rfl rfl rfl rfl (Va rfl) Bm rfl rfl) (xm rfl ?_))))))))
 refine Cx.nil ⟨rfl,?_⟩
 refine BO.open_ 0 30 rfl rfl (fun v1=> ?_)
 refine BO.open_ 1 31 rfl rfl (fun v2=> ?_)
 refine BO.done (A8.cons (A8.cons (A8.cons (A8.cons (A8.map _))))) (Fin.M_ 30 0 _ rfl rfl (fun _=>rfl) (fun b5=> ?_))
 refine Fin.dL 0 rfl (fun pe1 ADJ=> ?_)
 refine Fin.M_ 31 1 _ rfl rfl (fun _=>rfl) (fun b6=> ?_)
 refine Fin.go (WC 2 4 6 7 8 9 11 13 16 17 30 31 32 rfl (Tr.seq (Tr.Aj (cm rfl (Ch.nil (Fin.go (WC 2 4 6 7 8 9 11 13 16 17 30 31 129 rfl (Tr.ex 129 rfl fun AHD=> ?_))))))))
 refine Tr.cn rfl ?_ ?_<;>intro h9 q9
 refine Tr.seq (Tr.Gu mixed [some (0,0,false,0),some (0,1,false,0),some (0,3,true,0),some (0,2,true,0),none] Be (JC 0 rfl rfl (CU rfl Cs CI (vl rfl) rfl rfl) (JC 1 rfl rfl (CU rfl CM Bm (vl rfl) rfl rfl) (Cx.Dv 3 rfl rfl (A9 rfl rfl (vl rfl) (Va rfl) CI rfl Ao rfl) (Cx.Dv 2 rfl rfl (A9 rfl rfl (vl rfl) (Va rfl) Bm rfl Ao rfl) (xm rfl ?_))))))
 refine Cx.nil ⟨rfl,?_⟩
 refine BO.done (A8.cons (A8.cons (A8.cons (A8.cons (A8.map _))))) (Fin.go (Tr.drop 0 (Tr.drop 0 (GM 16 17 18 rfl (Tr.ret (Fin.AE (Fin.FG rfl (AO.cell 1 rfl rfl Cs CI rfl (Lr)) (AO.cell 0 rfl rfl CM Bm rfl (Lr)) (AO.tmp rfl (Lr)) ?_)))))))
 refine A_ ⟨?_,?_,?_,trivial⟩
 · exact O2
 · exact Lr
 · exact C0
 refine Tr.skip (Fin.go (Tr.drop 0 (Tr.drop 0 (Of 2 4 6 7 8 9 11 13 16 17 rfl (Tr.seq (Tr.seq (Tr.pad (Tr.pad (Tr.Gu mixed [none,none,none,none,none,none,none,none,none,none,none,none,none,none,none,none,none,some (0,0,true,33),some (0,1,true,34),some (33,0,true,33),some (34,1,true,34),none] Be (xo rfl (fun _=>AQ rfl DT DR (vl rfl) rfl rfl) (xo rfl (fun _=>AQ rfl OB WM (vl rfl) rfl rfl) (xm rfl (xm rfl ?_)))))))))))))
 refine xo rfl (fun _=>CH rfl underlying32 (vl rfl)) ?_
 refine xo rfl (fun _=>AV rfl (Tt (n:=l.length) AA) ⟨ke rfl,trivial⟩) ?_
 refine xo rfl (fun _=>AV rfl (BD.nr [] [] (Nat.zero_le _) fun z hz_=>KJ hz_) ⟨ke rfl,trivial⟩) (xo rfl (fun _=>AQ rfl NZ S2 (vl rfl) rfl rfl) (xm rfl (xo rfl (fun _=>AQ rfl Qe WO (vl rfl) rfl rfl) (xm rfl (xm rfl ?_)))))
 refine xo rfl (fun _=>AV rfl (BD.nr [agg (CE e),Ll c,Dm l] ([]:List BK) AU fun z hz_=>HT (e:=e) (c:=c) (l:=l) (r:=z) hz hn hc AA hz_) ⟨ke rfl,ke rfl,ke rfl,ke rfl,ke rfl,ke rfl,ke rfl,ke rfl,ke rfl,trivial⟩) ?_
 refine xm rfl (xo rfl (fun _=>BB rfl (vl rfl) rfl) (xo rfl (fun _=>BB rfl (vl rfl) rfl) (xo rfl (fun _=>BB rfl (vl rfl) rfl) (Cx.ef 0 rfl rfl AB (CW rfl rfl AB rfl z35 E3) (Cx.ef 1 rfl rfl AB (CW rfl rfl AB rfl z107 EZ) (Cx.Dv 0 rfl rfl (Kr (f:=fun z:List BX×List BK×List Int=>[Dm z.1,reqs z.2.1,ints z.2.2]) (φ:=fun z:List BX×List BK×List Int=>Ru e.Bs.length z.1 z.2.1 z.2.2) rfl rfl rfl AB rfl rfl CI (fun _=>rfl) rfl) (Cx.Dv 1 rfl rfl (DF rfl rfl rfl rfl (Va rfl) Bm rfl rfl) (xm rfl ?_))))))))
 refine Cx.nil ⟨rfl,?_⟩
 refine BO.open_ 0 33 rfl rfl (fun v3=> ?_)
 refine BO.open_ 1 34 rfl rfl (fun v4=> ?_)
 refine BO.done (A8.cons (A8.cons (A8.cons (A8.cons (A8.map _))))) (Fin.M_ 33 0 _ rfl rfl (fun _=>rfl) (fun b7=> ?_))
 refine Fin.dL 0 rfl (fun pe2 AHw=> ?_)
 refine Fin.M_ 34 1 _ rfl rfl (fun _=>rfl) (fun b8=> ?_)
 refine Fin.go (wk5 16 17 33 34 35 rfl (Tr.seq (Tr.Aj (cm rfl (Ch.nil (Fin.go (Tr.ex 149 rfl fun ADK=> ?_)))))))
 refine Tr.cn rfl ?_ ?_<;>intro h10 Q4
 refine Tr.seq (Tr.Gu mixed [some (0,0,false,0),some (0,1,false,0),some (0,3,true,0),some (0,2,true,0),none] Be (JC 0 rfl rfl (CU rfl Cs CI (vl rfl) rfl rfl) (JC 1 rfl rfl (CU rfl CM Bm (vl rfl) rfl rfl) (Cx.Dv 3 rfl rfl (A9 rfl rfl (vl rfl) (Va rfl) CI rfl Ao rfl) (Cx.Dv 2 rfl rfl (A9 rfl rfl (vl rfl) (Va rfl) Bm rfl Ao rfl) (xm rfl ?_))))))
 refine Cx.nil ⟨rfl,?_⟩
 refine BO.done (A8.cons (A8.cons (A8.cons (A8.cons (A8.map _))))) (Fin.go (Tr.drop 0 (Tr.drop 0 (Tr.ret (Fin.AE (Fin.FG rfl (AO.cell 1 rfl rfl Cs CI rfl (Lr)) (AO.cell 0 rfl rfl CM Bm rfl (Lr)) (AO.tmp rfl (Lr)) ?_))))))
 refine A_ ⟨?_,?_,?_,trivial⟩
 · exact O2
 · exact Lr
 · exact C0
 refine Tr.skip (Fin.go (Tr.drop 0 (Tr.drop 0 (Tr.seq (Tr.Ap (tp rfl (Al (rows:=[]) rfl LS E3 trivial rfl) (tp rfl (Al (rows:=[]) rfl JF EZ trivial rfl) (TO.AK 1 rfl rfl rfl (vl rfl) (Va rfl) rfl CI rfl rfl (TO.AK 0 rfl rfl rfl (vl rfl) (Va rfl) rfl Bm rfl rfl (tm rfl (TO.nil (Fin.go (Tr.ret (Fin.FG rfl (AO.cell 1 rfl rfl Cs CI rfl (Lr)) (AO.cell 0 rfl rfl CM Bm rfl (Lr)) (AO.tmp rfl (Lr)) ?_))))))))))))))
 refine A_ ⟨?_,?_,?_,trivial⟩
 · exact E6
 · exact Dx
 · exact C0
 refine Tr.skip (Fin.go (Tr.seq (Tr.seq (Tr.pad (Tr.pad (Tr.Gu mixed [none,none,none,none,none,none,none,none,none,none,none,none,none,none,none,none,none,some (0,0,true,33),some (0,1,true,34),some (33,0,true,33),some (34,1,true,34),none] Be (xo rfl (fun _=>AQ rfl DT DR (vl rfl) rfl rfl) (xo rfl (fun _=>AQ rfl OB WM (vl rfl) rfl rfl) (xm rfl (xm rfl (xo rfl (fun _=>CH rfl underlying32 (vl rfl)) ?_)))))))))))
 refine xo rfl (fun _=>AV rfl (Tt (n:=l.length) AA) ⟨ke rfl,trivial⟩) ?_
 refine xo rfl (fun _=>AV rfl (BD.nr [] [] (Nat.zero_le _) fun z hz_=>KJ hz_) ⟨ke rfl,trivial⟩) (xo rfl (fun _=>AQ rfl NZ S2 (vl rfl) rfl rfl) (xm rfl (xo rfl (fun _=>AQ rfl Qe WO (vl rfl) rfl rfl) (xm rfl (xm rfl ?_)))))
 refine xo rfl (fun _=>AV rfl (BD.nr [agg (CE e),Ll c,Dm l] ([]:List BK) AU fun z hz_=>HT (e:=e) (c:=c) (l:=l) (r:=z) hz hn hc AA hz_) ⟨ke rfl,ke rfl,ke rfl,ke rfl,ke rfl,ke rfl,ke rfl,ke rfl,ke rfl,trivial⟩) ?_
 refine xm rfl (xo rfl (fun _=>BB rfl (vl rfl) rfl) (xo rfl (fun _=>BB rfl (vl rfl) rfl) (xo rfl (fun _=>BB rfl (vl rfl) rfl) (Cx.ef 0 rfl rfl AB (CW rfl rfl AB rfl z35 E3) (Cx.ef 1 rfl rfl AB (CW rfl rfl AB rfl z107 EZ) (Cx.Dv 0 rfl rfl (Kr (f:=fun z:List BX×List BK×List Int=>[Dm z.1,reqs z.2.1,ints z.2.2]) (φ:=fun z:List BX×List BK×List Int=>Ru e.Bs.length z.1 z.2.1 z.2.2) rfl rfl rfl AB rfl rfl CI (fun _=>rfl) rfl) (Cx.Dv 1 rfl rfl (DF rfl rfl rfl rfl (Va rfl) Bm rfl rfl) (xm rfl ?_))))))))
 refine Cx.nil ⟨rfl,?_⟩
 refine BO.open_ 0 33 rfl rfl (fun v5=> ?_)
 refine BO.open_ 1 34 rfl rfl (fun v6=> ?_)
 refine BO.done (A8.cons (A8.cons (A8.cons (A8.cons (A8.map _))))) (Fin.M_ 33 0 _ rfl rfl (fun _=>rfl) (fun b9=> ?_))
 refine Fin.dL 0 rfl (fun pe3 AHx=> ?_)
 refine Fin.M_ 34 1 _ rfl rfl (fun _=>rfl) (fun b10=> ?_)
 refine Fin.go (wk5 16 17 33 34 35 rfl (Tr.seq (Tr.Aj (cm rfl (Ch.nil (Fin.go (Tr.ex 149 rfl fun ADK=> ?_)))))))
 refine Tr.cn rfl ?_ ?_<;>intro h11 SK
 refine Tr.seq (Tr.Gu mixed [some (0,0,false,0),some (0,1,false,0),some (0,3,true,0),some (0,2,true,0),none] Be (JC 0 rfl rfl (CU rfl Cs CI (vl rfl) rfl rfl) (JC 1 rfl rfl (CU rfl CM Bm (vl rfl) rfl rfl) (Cx.Dv 3 rfl rfl (A9 rfl rfl (vl rfl) (Va rfl) CI rfl Ao rfl) (Cx.Dv 2 rfl rfl (A9 rfl rfl (vl rfl) (Va rfl) Bm rfl Ao rfl) (xm rfl ?_))))))
 refine Cx.nil ⟨rfl,?_⟩
 refine BO.done (A8.cons (A8.cons (A8.cons (A8.cons (A8.map _))))) (Fin.go (Tr.drop 0 (Tr.drop 0 (Tr.ret (Fin.AE (Fin.FG rfl (AO.cell 1 rfl rfl Cs CI rfl (Lr)) (AO.cell 0 rfl rfl CM Bm rfl (Lr)) (AO.tmp rfl (Lr)) ?_))))))
 refine A_ ⟨?_,?_,?_,trivial⟩
 · exact O2
 · exact Lr
 · exact C0
 refine Tr.skip (Fin.go (Tr.drop 0 (Tr.drop 0 (Tr.seq (Tr.Ap (tp rfl (Al (rows:=[]) rfl LS E3 trivial rfl) (tp rfl (Al (rows:=[]) rfl JF EZ trivial rfl) (TO.AK 1 rfl rfl rfl (vl rfl) (Va rfl) rfl CI rfl rfl (TO.AK 0 rfl rfl rfl (vl rfl) (Va rfl) rfl Bm rfl rfl (tm rfl (TO.nil (Fin.go (Tr.ret (Fin.FG rfl (AO.cell 1 rfl rfl Cs CI rfl (Lr)) (AO.cell 0 rfl rfl CM Bm rfl (Lr)) (AO.tmp rfl (Lr)) ?_))))))))))))))
 refine A_ ⟨?_,?_,?_,trivial⟩
 · exact E6
 · exact Dx
 · exact C0
theorem y9 (s:DS):s.of [1,0,3]=1∨s.of [1,0,3]=0∨s.of [1,0,3]=3:=by have:=s.QZ (l:=[1,0,3]) AU;simp at this;exact this
theorem dh (s:DS) {k:Nat} (hk:k≤7):0≤((k:Nat):Int)*s.of [1,0,3]∧((k:Nat):Int)*s.of [1,0,3]≤21:=by rcases y9 s with h|h|h<;>rw [h]<;>omega
theorem pL {o:List Int} {x:Int} (h:∀y∈o,0≤y∧y≤40000) (hx:0≤x∧x≤40000):∀y∈o++[x],0≤y∧y≤40000:=fun y hy=>by
 rcases List.mem_append.1 hy with hy|hy
 · exact h y hy
 · rw [List.mem_singleton] at hy;subst hy;exact hx
theorem y_ {b:Nat} {s:DS}  :BZ prog 13 [ptr b 0] (Cp.ex fun e:Dc=>fact (OO e) (EA [agg (CE e),dc e.Bs.length,EJ])) (DU b s) (fun _=>Ib 104 b):=by
 refine BZ.of func13 rfl rfl Ao fun M0 w0 S rs M1 w1=> ?_
 refine Tr.seq (Tr.Ap ?_)
 refine Tl rfl rfl rfl rfl z31 Hx (fun b1=> ?_)
 refine Tl rfl rfl rfl rfl z35 E3 (fun b2=> ?_)
 refine tm rfl (TO.nil (Fin.go (Tr.seq (Tr.Ap (tm rfl (TO.HJ 2 rfl rfl AB (An rfl rfl AB rfl (l9) ⟨ke rfl,trivial⟩) ?_))))))
 refine TO.ex 13 rfl (fun z1=>TO.fact 13 rfl fun Eg=> ?_)
 refine Tl rfl rfl rfl rfl z31 Hx (fun b3=> ?_)
 refine TO.AK 0 rfl rfl rfl (vl rfl) (Va rfl) rfl DR rfl rfl (TO.freeze 0 5 rfl rfl (TO.nil (Fin.Sy 2 rfl (fun s1=> ?_))))
 refine Fin.go (Tr.seq (Tr.Ap (tm rfl (tp rfl (AQ rfl DT DR (vl rfl) rfl rfl) ?_))))
 refine TO.HJ 2 rfl rfl AB (An rfl rfl AB rfl (tF (e:=z1) Eg.snd ⟨by have:=Eg.n2;omega,Eg.n3⟩) ⟨ke rfl,ke rfl,trivial⟩) ?_
 refine TO.ex 16 rfl (fun z2=>TO.fact 16 rfl fun IL=> ?_)
 refine tm rfl (TO.nil (Fin.Sy 2 rfl (fun s2=> ?_)))
 refine Fin.go (wk5 0 2 3 5 6 rfl (Tr.seq ?_))
 have i7:∀x∈z2,x.C2.fits∧x.C2.small:=fun x hx=>⟨(IL.any x hx).fits,(IL.any x hx).small⟩
 have h7:=IL.len
 refine Tr.pad (Tr.pad (Tr.Gu mixed [none,none,none,none,none,none,none,none,none,none,none,none,none,some (0,0,true,7),some (0,1,true,8),some (7,0,true,7),some (8,1,true,8),none] Be (xo rfl (fun _=>AQ rfl DT DR (vl rfl) rfl rfl) (xo rfl (fun _=>Ss rfl Ic rfl rfl) (xo rfl (fun _=>GU rfl S0 rfl) (xo rfl (fun _=>CH rfl underlying27 (vl rfl)) ?_))))))
 refine xo rfl (fun _=>AV rfl (yz (n:=z1.Bs.length) (by have:=Eg.n3;omega)) ⟨ke rfl,trivial⟩) ?_
 refine xm rfl (xo rfl (fun _=>Al (rows:=[]) rfl AAy AAz trivial rfl) (xo rfl (fun _=>Al (rows:=[]) rfl AA0 AA1 trivial rfl) ?_))
 refine xo rfl (fun _=>AV rfl (iH (e:=z1) (c:=wF z1.Bs.length) (l:=z2) Eg.sz AA i7 IL.len) ⟨ke rfl,ke rfl,ke rfl,⟨_,rfl,BT ⟨AP 6,AP 2,trivial⟩⟩,⟨_,rfl,AP _⟩,⟨_,rfl,BT ⟨AP 1,Lr,trivial⟩⟩,ke rfl,ke rfl,trivial⟩) ?_
 refine xm rfl (xo rfl (fun _=>BB rfl (vl rfl) rfl) (xo rfl (fun _=>BB rfl (vl rfl) rfl) (xo rfl (fun _=>BB rfl (vl rfl) rfl) (Cx.ef 0 rfl rfl AB (CW rfl rfl AB rfl z35 E3) (Cx.ef 1 rfl rfl AB (CW rfl rfl AB rfl z107 EZ) (Cx.Dv 0 rfl rfl (Kr (f:=fun z:List BX×List BK×List Int=>[Dm z.1,reqs z.2.1,ints z.2.2]) (φ:=fun z:List BX×List BK×List Int=>Ru z1.Bs.length z.1 z.2.1 z.2.2) rfl rfl rfl AB rfl rfl CI (fun _=>rfl) rfl) (Cx.Dv 1 rfl rfl (DF rfl rfl rfl rfl (Va rfl) Bm rfl rfl) (xm rfl ?_))))))))
 refine Cx.nil ⟨rfl,?_⟩
 refine BO.open_ 0 7 rfl rfl (fun v1=> ?_)
 refine BO.open_ 1 8 rfl rfl (fun v2=> ?_)
 refine BO.done (A8.cons (A8.cons (A8.cons (A8.cons (A8.cons (A8.cons (A8.map _))))))) (Fin.M_ 7 0 _ rfl rfl (fun _=>rfl) (fun b4=> ?_))
 refine Fin.dL 0 rfl (fun pe1 ADJ=> ?_)
 refine Fin.M_ 8 1 _ rfl rfl (fun _=>rfl) (fun b5=> ?_)
 refine Fin.go (Tr.drop 1 (wk7 0 2 3 5 6 7 9 rfl (Tr.seq (Tr.seq (Tr.ex 9 rfl fun x9=>(Tr.Aj (cm rfl (co rfl (ki rfl rfl rfl rfl) (Ch.nil (Fin.go ?_))))))))))
 refine Tr.cn rfl ?_ ?_<;>intro h1 q1
 refine Tr.seq (Tr.Gu mixed [none,some (0,0,false,0),some (0,2,true,0),some (0,1,true,0),none] Be (xo rfl (fun _=>AQ rfl DT DR (vl rfl) rfl rfl) (JC 0 rfl rfl (CU rfl Cs CI (vl rfl) rfl rfl) (Cx.Dv 2 rfl rfl (A9 rfl rfl (vl rfl) (Va rfl) DR rfl Ao rfl) (Cx.Dv 1 rfl rfl (A9 rfl rfl (vl rfl) (Va rfl) CI rfl Ao rfl) (xm rfl ?_))))))
 refine Cx.nil ⟨rfl,?_⟩
 refine BO.done (A8.cons (A8.cons (A8.cons (A8.cons (A8.cons (A8.map _)))))) (Fin.go (Tr.drop 0 (Tr.ret (Fin.AE (Fin.Gw 2 _ rfl rfl (Fin.u_ [_,_] rfl (AO.cell 1 rfl rfl DT DR rfl (Lr)) (AO.cell 0 rfl rfl Cs CI rfl (Lr)) (AO.tmp rfl (Lr)) ?_))))))
 · exact Aw z1 (A7 Eg (A_ ⟨Lr,Aw pe1 (A7 ADJ (Lr)),Aw _ (Lr),trivial⟩))
 refine Tr.skip (Fin.go (Tr.drop 0 (Tr.seq (Tr.Ap (tm rfl (tm rfl (tm rfl (tp rfl (CH rfl underlying32 (vl rfl)) ?_))))))))
 refine TO.HJ 2 rfl rfl AB (An rfl rfl AB rfl (uZ (n:=z2.length) (by have:=IL.len;omega)) ⟨ke rfl,ke rfl,trivial⟩) ?_
 refine TO.ex 38 rfl (fun z3=>TO.fact 38 rfl fun hz3=> ?_)
 revert z3
 intro rq hrq
 refine tp rfl (Al (rows:=[(0,[_]),(1,[_])]) rfl LS E3 ⟨⟨rfl,(Vo rfl)⟩,⟨⟨rfl,(Vo rfl)⟩,trivial⟩⟩ rfl) ?_
 refine Tl rfl rfl rfl rfl z35 E3 (fun b6=> ?_)
 refine TO.AK 0 rfl rfl rfl (vl rfl) (Va rfl) rfl CI rfl rfl (TO.nil (Fin.Sy 3 rfl (fun s3=> ?_)))
 refine Fin.go (wk6 0 2 3 5 6 10 rfl (Tr.seq (Tr.seq (Tr.Aj (cm rfl (co rfl (CH rfl underlying32 (vl rfl)) (cm rfl (Ch.nil (Fin.go (Tr.block (Tr.Ho 0 [Dm z2,reqs rq,Ab (.slice none 0 0) (ints [])] rfl ⟨Lr,Lr,Bl rfl,trivial⟩ (Tr.B6 3 1 (Tr.Fb [(0,_),(2,_),(3,_),(5,_),(10,_),(41,_)] ⟨ke rfl,ke rfl,ke rfl,ke rfl,ke rfl,ke rfl,trivial⟩ (fun (k:Nat) (dd:List Int) (s2:DS) v=>[(42,int ((k:Nat):Int))]) (fun (k:Nat) (dd:List Int) (s2:DS) v=>Hp M0 w0 S (As 3 1 v::AF true b6 35 [Dm z2,reqs rq,Ab v (ints dd)]::AF true b2 35 (([.slice none 0 0,.slice none 0 0,.slice none 0 0]:List Value).map is)::AF true b1 31 (([.slice none 0 0,.slice none 0 0,.slice none 0 0]:List Value).map is)::DU b s2::Ak M1 w1::rs)) (fun (k:Nat) (dd:List Int) (s2:DS)=>(k≤z2.length∧dd.length=k)∧∀x∈dd,0≤x∧x≤40000) (fun (k:Nat) (dd:List Int) (s2:DS)=>z2.length-k) (0) ([]) (_) (.slice none 0 0) (⟨⟨Nat.zero_le _,rfl⟩,fun x h=>FR⟩) ⟨ke rfl,trivial⟩ (fun _ _ h=>h) ?_)))))))))))))
 rintro k dd s2 v ⟨⟨hk0,gh⟩,hdb⟩
 refine Tr.seq (Tr.Aj (co rfl (ki rfl rfl rfl rfl) (Ch.nil (Fin.go (Tr.seq ?_)))))
 refine Tr.cn rfl ?_ ?_<;>intro h2 q2
 have hk:k<z2.length:=AH h2
 refine Tr.skip (Fin.go (Tr.seq (Tr.block (Tr.seq (Tr.Aj (cm rfl (cm rfl (Ch.nil (Fin.go (Tr.pad (Tr.Gu mixed [none,some (0,2,false,0),none,none,none,some (0,5,true,0),none,none,some (0,1,true,53),none,some (0,2,true,53)] Be (xo rfl (fun _=>Ac rfl Ud (vl rfl)) (JC 2 rfl rfl (BE rfl Qb (vl rfl) rfl) ?_)))))))))))))
 refine xm rfl (xm rfl (xo rfl (fun _=>AM (xs:=[.const (.int .i64 (1)),.const (.int .i64 (0)),.const (.int .i64 (3))]) (rows:=[[_],[_],[_]]) rfl rfl underlying22 Bt z3 rfl AB ⟨⟨Am,(Vo rfl)⟩,⟨⟨Am,(Vo rfl)⟩,⟨⟨Am,(Vo rfl)⟩,trivial⟩⟩⟩ AB) ?_))
 refine Cx.ef 5 rfl rfl AB (An rfl rfl AB rfl (Wi (l:=[1,0,3]) AU AU) ⟨ke rfl,(Kf rfl),trivial⟩) ?_
 refine xo rfl (fun _=>jg rfl (vl rfl) (vl rfl) (by have:=dh s2 (k:=k) AA;unfold Oe;omega)) ?_
 refine xo rfl (fun _=>AM (xs:=[.tmp 51]) (rows:=[[_]]) rfl rfl underlying22 Bt z3 rfl AB ⟨⟨Am,(Vo rfl)⟩,trivial⟩ AB) ?_
 refine Cx.ef 1 rfl rfl AB (B1 rfl rfl rfl rfl underlying22 Bt He z3 (Kb rfl) (Kf rfl) (Ax BN (Ka rfl))) ?_
 refine xo rfl (fun _=>Ac rfl Ud (vl rfl)) (Cx.Dv 2 rfl rfl (Fz rfl rfl rfl (vl rfl) rfl NU Ao) ?_)
 refine Cx.nil ⟨rfl,?_⟩
 refine BO.Qa 1 2 53 rfl rfl AB rfl (fun v3=> ?_)
 refine BO.done (A8.cons (A8.cons (A8.cons (A8.cons (A8.cons (A8.cons (A8.cons (A8.map _)))))))) (Fin.block (Fin.go (Tr.drop 0 (wk7 0 2 3 5 10 41 42 rfl (Tr.Aj (Kx rfl rfl rfl rfl AA (cm rfl (Ch.nil ?_))))))))
 refine Fin.Ho 1 [Dm z2,reqs rq,Ab v3 (ints (dd++[(((k:Nat):Int)*s2.of [1,0,3])]))] rfl ⟨Lr,Lr,BC DI,trivial⟩ ?_
 exact Fin.EI (k+1) (dd++[(((k:Nat):Int)*s2.of [1,0,3])]) (_) v3 (⟨⟨⟨by omega,by simp;omega⟩,pL hdb (by have:=dh s2 (k:=k) AA;omega)⟩,by omega⟩) ⟨⟨_,rfl,AG k⟩,ke rfl,ke rfl,ke rfl,ke rfl,ke rfl,ke rfl,trivial⟩ (fun _ _ h=>h)
 have eH:=AJ h2
 refine Tr.exit (Fin.AW (Fin.AW (Fin.Au (Fin.go (Tr.seq (Tr.Gu mixed [none,some (0,1,false,0),some (0,3,true,0),some (0,2,true,0),none] Be (xo rfl (fun _=>AQ rfl DT DR (vl rfl) rfl rfl) (JC 1 rfl rfl (CU rfl Cs CI (vl rfl) rfl rfl) (Cx.Dv 3 rfl rfl (A9 rfl rfl (vl rfl) (Va rfl) DR rfl Ao rfl) (Cx.Dv 2 rfl rfl (A9 rfl rfl (vl rfl) (Va rfl) CI rfl Ao rfl) (xm rfl ?_)))))))))))
 refine Cx.nil ⟨rfl,?_⟩
 refine BO.done (A8.cons (A8.cons (A8.cons (A8.cons (A8.cons (A8.cons (A8.map _))))))) (Fin.go (Tr.ret (Fin.Gw 4 _ rfl rfl (Fin.u_ [_,_,_,_] rfl (AO.cell 3 rfl rfl DT DR rfl (Lr)) (AO.cell 2 rfl rfl Cs CI rfl (Lr)) (AO.tmp rfl (Lr)) ?_))))
 · exact Aw z1 (A7 Eg (A_ ⟨Lr,Aw (z2,rq,dd) (A7 ⟨⟨by show z2.length≤24;omega,by show dd.length=z2.length;omega,hrq.1.valid (by show z2.length≤24;omega),fun j y c hj hy hcj=>⟨hdb y (List.mem_of_getElem? hy),(IL.any c (List.mem_of_getElem? hcj)).lo,(IL.any c (List.mem_of_getElem? hcj)).hi⟩⟩,h7,i7,by have:=hrq.2;show rq.length≤1000;omega⟩ (BT ⟨Lr,Lr,Aq _ _,trivial⟩)),Aw _ (Lr),trivial⟩))
section
variable {β:Type} {c:β×β→Int}
def Hl (c:β×β→Int):Nat→List β→List β
 |0,st=>st
 |j+1,st=>match st[j+1]?,st[j]? with
  |some x,some y=>if c (x,y)<0 then Hl c j ((st.set (j+1) y).set j x) else st
  |_,_=>st
def Rv (c:β×β→Int) (x:β):List β→List β→List β
 |[],dn=>x::dn
 |y::rp,dn=>if c (x,y)<0 then Rv c x rp (y::dn) else (y::rp).reverse++x::dn
def pM (c:β×β→Int) (l:List β):Nat→List β
 |0=>l
 |i+1=>Hl c i (pM c l i)
theorem Xk {j:Nat} {st:List β} {x y:β} (hx:st[j+1]? =some x) (hy:st[j]? =some y) (h:c (x,y)<0):Hl c (j+1) st=Hl c j ((st.set (j+1) y).set j x):=by rw [Hl,hx,hy];simp [h]
theorem dj {j:Nat} {st:List β} {x y:β} (hx:st[j+1]? =some x) (hy:st[j]? =some y) (h:¬c (x,y)<0):Hl c (j+1) st=st:=by rw [Hl,hx,hy];simp [h]
theorem Xl:∀(j:Nat) (st:List β),(Hl c j st).length=st.length
 |0,_=>rfl
 |j+1,st=>by
  rw [Hl]
  split
  ·
   split
   · rw [Xl];simp
   · rfl
  · rfl
theorem pN (x:β):∀(rp dn:List β),Hl c rp.length (rp.reverse++x::dn)=Rv c x rp dn
 |[],dn=>rfl
 |y::rp,dn=>by
  have hx:((y::rp).reverse++x::dn)[rp.length+1]? =some x:=by
   rw [List.getElem?_append_right AU];simp
  have hy:((y::rp).reverse++x::dn)[rp.length]? =some y:=by
   rw [List.reverse_cons,List.append_assoc,List.getElem?_append_right AU];simp
  have hs:(((y::rp).reverse++x::dn).set (rp.length+1) y).set rp.length x=rp.reverse++x::(y::dn):=by
   rw [List.reverse_cons,List.append_assoc,List.set_append_right _ _ AU]
   simp
  unfold Rv
  show Hl c (rp.length+1) _=_
  by_cases h:c (x,y)<0
  · rw [Xk hx hy h,hs,pN x rp (y::dn),if_pos h]
  · rw [dj hx hy h,if_neg h]
theorem dm {R:β→β→Prop} (ht:∀a b d,R a b→R b d→R a d) {x:β}:∀(rp dn:List β),(rp.reverse++dn).Pairwise R→(∀z∈dn,R x z)→(∀y∈rp,(c (x,y)<0→R x y)∧(¬c (x,y)<0→R y x))→
  (Rv c x rp dn).Pairwise R∧(Rv c x rp dn).Perm (x::(rp.reverse++dn))
 |[],dn,h,hd,_=>by
  unfold Rv
  exact ⟨List.pairwise_cons.2 ⟨hd,by simpa using h⟩,by simp⟩
 |y::rp,dn,h,hd,hc=>by
  obtain ⟨h1,h2⟩:=hc y AU
  unfold Rv
  by_cases hlt:c (x,y)<0
  ·
   rw [if_pos hlt]
   obtain ⟨g1,g2⟩:=dm ht (x:=x) rp (y::dn) Dn (fun z hz=>by
    rcases List.mem_cons.1 hz with rfl|hz
    · exact h1 hlt
    · exact hd z hz) (fun z hz=>hc z (List.mem_cons_of_mem _ hz))
   exact ⟨g1,by simpa using g2⟩
  ·
   rw [if_neg hlt]
   have hyx:=h2 hlt
   rw [List.pairwise_append] at h ⊢
   obtain ⟨p1,p2,p3⟩:=h
   refine ⟨⟨p1,List.pairwise_cons.2 ⟨hd,p2⟩,fun a ha b hb=> ?_⟩,?_⟩
   ·
    have hax:R a x:=by
     simp only [List.reverse_cons,List.mem_append,List.mem_reverse,List.mem_singleton] at ha
     rcases ha with ha|rfl
     ·
      refine ht _ _ _ ?_ hyx
      rw [List.reverse_cons,List.pairwise_append] at p1
      exact p1.2.2 a (List.mem_reverse.2 ha) y AU
     · exact hyx
    rcases List.mem_cons.1 hb with rfl|hb
    · exact hax
    · exact ht _ _ _ hax (hd b hb)
   · exact List.perm_middle
theorem pO {R:β→β→Prop} (ht:∀a b d,R a b→R b d→R a d) {l:List β} (hc:∀(i j:Nat) x y,j<i→l[i]? =some x→l[j]? =some y→(c (x,y)<0→R x y)∧(¬c (x,y)<0→R y x)):
  ∀(i:Nat),i≤l.length→∃st,pM c l i=st++l.drop i∧st.Pairwise R∧st.Perm (l.take i)
 |0,_=>⟨[],by simp [pM],List.Pairwise.nil,by simp⟩
 |i+1,hi=>by
  obtain ⟨st,h1,h2,h3⟩:=pO ht hc i AA
  obtain ⟨x,hx⟩:=at_ (l:=l) (k:=i) AA
  have hl:st.length=i:=by rw [h3.length_eq,List.length_take];omega
  have hd:l.drop i=x::l.drop (i+1):=by
   rw [List.drop_eq_getElem_cons (show i<l.length by omega)]
   rw [List.getElem?_eq_getElem (show i<l.length by omega)] at hx;cases hx;rfl
  have hk:=pN (c:=c) x st.reverse (l.drop (i+1))
  rw [List.length_reverse,List.reverse_reverse,hl] at hk
  have key:∀(rp dn rest:List β),Rv c x rp (dn++rest)=Rv c x rp dn++rest:=by
   intro rp
   induction rp with
   |nil=>intro dn rest;rfl
   |cons y rp ih=>
    intro dn rest
    unfold Rv
    split
    · exact ih (y::dn) rest
    · simp
  have hk2:=key st.reverse [] (l.drop (i+1))
  rw [List.nil_append] at hk2
  obtain ⟨g1, g2⟩ := dm ht (c := c) (x := x) st.reverse [] MB (fun z hz => by cases hz) (fun y hy => by
   have m_:y∈l.take i:=h3.mem_iff.1 (List.mem_reverse.1 hy)
   obtain ⟨j,hj⟩:=List.getElem?_of_mem m_
   rw [List.getElem?_take] at hj
   split at hj
   next hji=>exact hc i j x y hji hx hj
   next=>cases hj)
  refine ⟨Rv c x st.reverse [],?_,g1,?_⟩
  · rw [pM,h1,hd,hk,hk2]
  ·
   refine g2.trans ?_
   rw [List.reverse_reverse,List.append_nil,List.take_add_one,hx]
   exact ((List.perm_append_comm (l₁:=[x]) (l₂:=st)).trans (h3.append_right [x]))
end
structure Fnd where
 src:Int
 host:List UInt8
 machine:Int
 day:Int
 ADL:Int
 kind:Int
 ug:List UInt8
 CA:Int
 bits:Int
 num:Int
 text:List UInt8
structure Fnd.fits (f:Fnd):Prop where
 host:f.host.length≤maxLen
 ug:f.ug.length≤maxLen
 text:f.text.length≤maxLen
def orL:List Int→Int
 |[]=>0
 |a::l=>if a=0 then orL l else a
def ADM (a b:Fnd):List Int:=[Lib.compareBytes a.host b.host,JU a.machine b.machine,JU a.day b.day,Lib.compareBytes a.ug b.ug,JU a.kind b.kind,JU a.CA b.CA,JU a.bits b.bits,JU a.num b.num,Lib.compareBytes a.text b.text,JU a.src b.src,JU a.ADL b.ADL]
def AGc (a b:Fnd):Int:=orL (ADM a b)
def kF (l:List Fnd) (f:Fnd):Nat:=(l.reverse.dropWhile fun x=>decide (0<AGc x f)).length
def InR (own:List Int) (m:Nat):Prop:=∀i∈own,0≤i∧i<(m:Int)
instance (own:List Int) (m:Nat):Decidable (InR own m):=inferInstanceAs (Decidable (∀i∈own,0≤i∧i<(m:Int)))
theorem A7 {φ:Prop} {p q:Pr} (h:φ) (hl:Pr.le p q):Pr.le p (fact φ q):=fun _ _ _ hp=>⟨h,hl _ _ _ hp⟩
theorem I7 {β:Type} {g:β→Pr} {l:List β} {qs:List Pr} {i:Int} {x:β} (h:l[i.toNat]? =some x):((l.map fun x=>[g x]).flatten++qs)[0+i.toNat*1]? =some (g x):=by
 have hl:i.toNat<l.length:=by rcases Nat.lt_or_ge i.toNat l.length with h'|h';exact h';rw [List.getElem?_eq_none h'] at h;cases h
 rw [List.getElem?_eq_getElem hl] at h
 cases h
 exact Qv hl
section
variable {c:Int×Int→Int}
theorem Vg (l:List Int):∀i,(pM c l i).length=l.length
 |0=>rfl
 |i+1=>by rw [pM,Xl,Vg l i]
theorem pP {st:List Int} {j:Nat} {x y:Int} (h0:0<j) (hx:st[j]? =some x) (hy:st[j-1]? =some y) (h:c (x,y)<0):Hl c (j-1) ((st.set ((j:Nat):Int).toNat y).set (((j:Nat):Int)-1).toNat x)=Hl c j st:=by
 obtain ⟨m,rfl⟩:∃m,j=m+1:=⟨j-1,by omega⟩
 rw [show (((m+1:Nat):Nat):Int).toNat=m+1 by omega,show ((((m+1:Nat):Nat):Int)-1).toNat=m by omega,show m+1-1=m by omega]
 exact (Xk hx hy h).symm
theorem pQ {st:List Int} {j:Nat} (h:j=0):Hl c j st=st:=by subst h;rfl
theorem pR {st:List Int} {j:Nat} {x y:Int} (h0:0<j) (hx:st[j]? =some x) (hy:st[j-1]? =some y) (h:¬c (x,y)<0):Hl c j st=st:=by
 obtain ⟨m,rfl⟩:∃m,j=m+1:=⟨j-1,by omega⟩
 exact dj hx hy h
theorem pS {st:List Int} {a b:Nat} {x y n:Int} (h:∀z∈st,0≤z∧z<n) (hx:0≤x∧x<n) (hy:0≤y∧y<n):∀z∈(st.set a y).set b x,0≤z∧z<n:=fun z hz=>by
 rcases List.mem_or_eq_of_mem_set hz with hz|rfl
 ·
  rcases List.mem_or_eq_of_mem_set hz with hz|rfl
  · exact h z hz
  · exact hy
 · exact hx
end
def iI (c:Int×Int→Int) (l st:List Int):Prop:=st=pM c l l.length
theorem iI.len {c:Int×Int→Int} {l st:List Int} (h:iI c l st):st.length=l.length:=by unfold iI at h;rw [h,Vg]
abbrev InN (N:Nat):={p:Int×Int//(0≤p.1∧p.1<(N:Int))∧0≤p.2∧p.2<(N:Int)}
theorem zA {l:List Int} {c:Int×Int→Int} {b0 cap N len:Nat} {sp:List Value} (hln:l.length=len) (Xx:len≤19) (hR0:∀x∈l,0≤x∧x<(N:Int)):BZ prog 208 [is (.slice (some ⟨b0,0,none⟩) len cap),int 0,int ((len:Nat):Int),eK prog (fun p:InN N=>[int p.1.1,int p.1.2]) (fun p=>int (c p.1))] (MW) (AF true b0 3 ((l.map (fun x:Int=>[int x])).flatten++sp.map is)) (fun _=>EV b0 3 (fun x:Int=>[int x]) (iI c l) (sp.map is)):=by
 refine BZ.of func208 rfl rfl Ao fun M0 w0 S rs M1 w1=> ?_
 refine ac ?_
 refine Tr.block (Tr.Cr _ (kk [3,2,1,0] rfl) (fun (i:Nat) (st:List Int)=>[(8,int ((i:Nat):Int))]) (fun (i:Nat) (st:List Int)=>Hp M0 w0 S (AF true b0 3 ((st.map (fun x:Int=>[int x])).flatten++sp.map is)::Ak M1 w1::rs)) (fun (i:Nat) (st:List Int)=>(1≤i∧(i≤len∨i=1))∧st=pM c l i∧∀x∈st,0≤x∧x<(N:Int)) (fun (i:Nat) (st:List Int)=>len-i) (1) (l)  (⟨⟨by omega,.inr rfl⟩,rfl,hR0⟩) ⟨⟨_,rfl,int_eq AA⟩,trivial⟩ (fun _ _ h=>h) ?_)
 rintro i st  ⟨⟨hi1,hi2⟩,hst,hR⟩
 have iz:st.length=len:=by rw [hst,Vg,hln]
 refine an ?_ ?_<;>intro h1 q1
 have hib:i<len:=AH h1
 refine a2 ?_
 refine Tr.block (Tr.Cr _ (kk [8,3,2,1,0] rfl) (fun (j:Nat) (Vu:List Int)=>[(9,int ((j:Nat):Int))]) (fun (j:Nat) (Vu:List Int)=>Hp M0 w0 S (AF true b0 3 ((Vu.map (fun x:Int=>[int x])).flatten++sp.map is)::Ak M1 w1::rs)) (fun (j:Nat) (Vu:List Int)=>(j≤i∧Vu.length=len)∧Hl c j Vu=Hl c i st∧∀x∈Vu,0≤x∧x<(N:Int)) (fun (j:Nat) (Vu:List Int)=>j) (i) (st)  (⟨⟨Nat.le_refl _,iz⟩,rfl,hR⟩) kz (fun _ _ h=>h) ?_)
 rintro j Vu  ⟨⟨hj1,AGd⟩,zB,hR2⟩
 refine ag ?_ ?_<;>intro h2 q2
 obtain ⟨x,hx⟩:=at_ (l:=Vu) (k:=j) AA
 obtain ⟨y,hy⟩:=at_ (l:=Vu) (k:=j-1) AA
 have hxr:=hR2 x (List.mem_of_getElem? hx)
 have hyr:=hR2 y (List.mem_of_getElem? hy)
 refine ac ?_
 refine cy h2 rfl (BG rfl underlying22 Bt (vl rfl) (vl rfl) AA AA) ?_
 refine cy h2 rfl (Cw 0 rfl (BE rfl Cj (vl rfl) (I7 (g:=fun x:Int=>int x) (x:=x) UF))) ?_
 refine ac ?_
 refine cy h2 rfl (BG rfl underlying22 Bt (vl rfl) (vl rfl) AA AA) ?_
 refine cy h2 rfl (Cw 0 rfl (BE rfl Cj (vl rfl) (I7 (g:=fun x:Int=>int x) (x:=y) af))) ?_
 refine cy h2 rfl (ME (⟨(x,y),⟨hxr,hyr⟩⟩:InN N) rfl (vl rfl) ⟨ke rfl,kz⟩) ?_
 refine ac ?_
 refine wk [34,9,8,3,2,1,0] rfl ?_
 refine Tr.cn rfl ?_ ?_<;>intro h3 q3
 have:=h3
 refine ac ?_
 refine Tr.seq (Tr.block (Tr.rx ?_))
 refine ay ?_
 refine xo rfl (fun _=>BG rfl underlying22 Bt (vl rfl) (vl rfl) AA AA) ?_
 refine JC 0 rfl rfl (BE rfl Cj (vl rfl) (I7 (g:=fun x:Int=>int x) (x:=y) af)) ?_
 refine ay ?_
 refine xo rfl (fun _=>BG rfl underlying22 Bt (vl rfl) (vl rfl) AA AA) ?_
 refine JC 0 rfl rfl (BE rfl Cj (vl rfl) (I7 (g:=fun x:Int=>int x) (x:=x) UF)) ?_
 refine xo rfl (fun _=>BG rfl underlying22 Bt (vl rfl) (vl rfl) AA AA) ?_
 refine Cx.Dv 0 rfl rfl (A9 rfl rfl (vl rfl) (Vo rfl) Bt rfl QC (F2 (f:=(fun x:Int=>[int x])) (fun _=>rfl) AA)) ?_
 refine xo rfl (fun _=>BG rfl underlying22 Bt (vl rfl) (vl rfl) AA AA) ?_
 refine Cx.Dv 0 rfl rfl (A9 rfl rfl (vl rfl) (Vo rfl) Bt rfl (by rw [KK (sz:=1) (fun _=>rfl)];simp only [List.length_set];omega) (F2 (f:=(fun x:Int=>[int x])) (fun _=>rfl) (by simp only [List.length_set];omega))) ?_
 refine Cx.nil ⟨by kernel_rfl,?_⟩
 refine BO.done Wh ?_
 refine ac ?_
 refine wk [9,8,3,2,1,0] rfl ?_
 refine ac ?_
 exact Fin.Co (j-1) (_)  (⟨⟨⟨by omega,by simp only [List.length_set];exact AGd⟩,by rw [←zB];exact pP AA hx hy Bg,pS hR2 hxr hyr⟩,by omega⟩) ⟨⟨_,rfl,int_eq AA⟩,kz⟩ (fun _ _ h=>h)
 have:=h3
 refine a2 ?_
 have zC:Hl c j Vu=Vu:=pR AA hx hy (Int.not_lt.2 Bg)
 exact Fin.Co (i+1) (Vu)  (⟨⟨⟨by omega,.inl AA⟩,by show Vu=Hl c i (pM c l i);rw [←hst,←zB,zC],hR2⟩,by omega⟩) ⟨⟨_,rfl,AG i⟩,kz⟩ (fun _ _ h=>h)
 refine ac ?_
 refine wk [34,9,8,3,2,1,0] rfl ?_
 refine a2 ?_
 have zC:Hl c j Vu=Vu:=pQ AA
 exact Fin.Co (i+1) (Vu)  (⟨⟨⟨by omega,.inl AA⟩,by show Vu=Hl c i (pM c l i);rw [←hst,←zB,zC],hR2⟩,by omega⟩) ⟨⟨_,rfl,AG i⟩,kz⟩ (fun _ _ h=>h)
 have hie:=AJ h1
 refine Tr.exit (Fin.AW (Fin.AW (Fin.Au ?_)))
 refine Fin.GX (iI c l) 0 rfl (by unfold iI;rcases Nat.eq_zero_or_pos len with h0_|h0_;(obtain rfl:=List.eq_nil_of_length_eq_zero (hln.trans h0_);rw [hst,show i=1 by omega];rfl);(rw [hst,hln,show i=len by omega])) ?_
 exact Fin.kL rfl
theorem zD {l:List Int} {c:Int×Int→Int} {b0 cap N len:Nat} {sp:List Value} (hln:l.length=len) (Xx:len≤19) (hR0:∀x∈l,0≤x∧x<(N:Int)):BZ prog 165 [is (.slice (some ⟨b0,0,none⟩) len cap),int ((len:Nat):Int),eK prog (fun p:InN N=>[int p.1.1,int p.1.2]) (fun p=>int (c p.1))] (MW) (AF true b0 3 ((l.map (fun x:Int=>[int x])).flatten++sp.map is)) (fun _=>EV b0 3 (fun x:Int=>[int x]) (iI c l) (sp.map is)):=by
 refine BZ.of func165 rfl rfl Ao fun M0 w0 S rs M1 w1=> ?_
 refine a2 ?_
 refine Tr.seq (Tr.block (Tr.BA _ (kk [6,2,1,0] rfl) (fun (u:Unit)=>[(7,int 0),(8,int 20)]) (fun (u:Unit)=>True) (fun (u:Unit)=>0) () (trivial) ⟨kq,kz⟩ ?_))
 rintro u _
 refine an ?_ ?_<;>intro h1 q1
 exfalso;have R8:=C3.DZ h1;omega
 have Xt:=h1
 refine ac ?_
 refine ap ?_
 refine TO.HJ 0 rfl rfl AB (An rfl rfl AB rfl (zA AA AA Bg) ⟨kq,kz⟩) (TO.Jr 0 rfl fun t1 R6=> ?_)
 have ADN:=R6.len
 refine ap ?_
 refine wk [6,2,1,0] rfl (Tr.block (Tr.BA _ (kk [2,1,0] rfl) (fun (u:Unit)=>[(6,int 20)]) (fun (u:Unit)=>True) (fun (u:Unit)=>0) () (trivial) kz ?_))
 rintro u _
 refine an ?_ ?_<;>intro h2 q2
 exfalso;have R8:=C3.DZ h2;omega
 have Xt:=h2
 refine Tr.exit (Fin.AW (Fin.AW (Fin.Au (Fin.GX (iI c l) 0 rfl (R6) (Fin.kL rfl)))))
theorem ADO {l:List Int} {c:Int×Int→Int} {b0 cap N len:Nat} {sp:List Value} (hln:l.length=len) (Xx:len≤19) (hR0:∀x∈l,0≤x∧x<(N:Int)):BZ prog 113 [is (.slice (some ⟨b0,0,none⟩) len cap),eK prog (fun p:InN N=>[int p.1.1,int p.1.2]) (fun p=>int (c p.1))] (MW) (AF true b0 3 ((l.map (fun x:Int=>[int x])).flatten++sp.map is)) (fun _=>EV b0 3 (fun x:Int=>[int x]) (iI c l) (sp.map is)):=by
 refine BZ.of func113 rfl rfl Ao fun M0 w0 S rs M1 w1=> ?_
 refine ap ?_
 refine tp rfl (KY rfl underlying22 vq) (tm rfl (TO.HJ 0 rfl rfl AB (An rfl rfl AB rfl (zD AA AA Bg) ⟨kq,kz⟩) (TO.Jr 0 rfl fun t1 R6=> ?_)))
 have ADN:=R6.len
 refine TO.nil (Fin.GX (iI c l) 0 rfl (R6) (Fin.kL rfl))
theorem uh {rows:List (List Pr)} {b:Int} (hb:b≤1):BD prog 208 [slice 1 rows,int 0,int b,any] (MW):=by
 refine fo func208 rfl ⟨rfl,rfl⟩ fun M0 w0=> ?_
 refine ac ?_
 refine Tr.block (Tr.BA _ (kk [3,2,1,0] rfl) (fun i:Int=>[(8,int i)]) (fun i:Int=>i=1) (fun i:Int=>0) 1 (rfl) kz ?_)
 rintro i hi
 refine an ?_ ?_<;>intro h1 q1
 exfalso;have R8:=C3.DZ h1;omega
 have Xt:=h1
 refine Tr.exit (Fin.AW (Fin.AW (Fin.Au (Fin.xL rfl))))
theorem uj {rows:List (List Pr)} {b:Int} (h0:0≤b) (hb:b≤1):BD prog 165 [slice 1 rows,int b,any] (MW):=by
 refine fo func165 rfl ⟨rfl,rfl⟩ fun M0 w0=> ?_
 refine a2 ?_
 refine Tr.seq (Tr.block (Tr.BA _ (kk [6,2,1,0] rfl) (fun (u:Unit)=>[(7,int 0),(8,int 20)]) (fun (u:Unit)=>True) (fun (u:Unit)=>0) () (trivial) ⟨kq,kz⟩ ?_))
 rintro u _
 refine an ?_ ?_<;>intro h1 q1
 exfalso;have R8:=C3.DZ h1;omega
 have Xt:=h1
 refine a2 ?_
 refine co rfl (AV rfl (uh AA) ⟨kq,kq,kq,⟨_,rfl,jY _⟩,trivial⟩) ?_
 refine ac ?_
 refine wk [6,2,1,0] rfl (Tr.block (Tr.BA _ (kk [2,1,0] rfl) (fun (u:Unit)=>[(6,int 20)]) (fun (u:Unit)=>True) (fun (u:Unit)=>0) () (trivial) kz ?_))
 rintro u _
 refine an ?_ ?_<;>intro h2 q2
 exfalso;have R8:=C3.DZ h2;omega
 have Xt:=h2
 refine Tr.exit (Fin.AW (Fin.AW (Fin.Au (Fin.xL rfl))))
theorem zE {rows:List (List Pr)} (hs:rows.length≤1):BD prog 113 [slice 1 rows,any] (MW):=by
 refine fo func113 rfl ⟨rfl,rfl⟩ fun M0 w0=> ?_
 refine ac ?_
 refine co rfl (Ca rfl underlying22 vq) (cm rfl (co rfl (AV rfl (uj (rows:=rows) (b:=(rows.length:Int)) AA AA) ⟨kq,kq,⟨_,rfl,jY _⟩,trivial⟩) (Ch.nil (Fin.xL rfl))))
theorem ADP {l:List Int} {c:Int×Int→Int} {v:Value} {N:Nat} (hs:l.length≤19) (hR:∀x∈l,0≤x∧x<(N:Int)):BZ Tryz.prog 113 [is v,eK Tryz.prog (fun p:InN N=>[int p.1.1,int p.1.2]) (fun p=>int (c p.1))] MW (BQ 3 1 (l.map (fun x:Int=>[int x])) v) (fun _=>Qt 3 1 (fun x:Int=>[int x]) (iI c l) v):=by
 refine BZ.r_ (fun h=>⟨?_,?_⟩) (fun b cap sp=>ADO rfl hs hR) (fun st h=>h.len) ⟨_,Tryz.func113,rfl,rfl⟩
 ·
  refine BD.le (zE (rows:=[]) AB) ?_ (Pr.le_refl _)
  rintro M w vs hv
  match vs,hv with
  |[a,b],⟨h1,h2,h3⟩=>exact ⟨AP _ M w a h1,trivial,h3⟩
 · subst h;rfl
def Z2 (d:List Int) (p:Int×Int):Int:=JU (d.getD p.1.toNat 0) (d.getD p.2.toNat 0)
def HC (n:Nat):List Int:=(List.range n).map fun i:Nat=>(i:Int)
theorem GL (n:Nat):(HC n).length=n:=by unfold HC;rw [List.length_map,List.length_range]
theorem iJ (n:Nat):HC (n+1)=HC n++[(n:Int)]:=by unfold HC;rw [List.range_succ,List.map_append];rfl
theorem dw {n i:Nat} (h:i<n):(HC n)[i]? =some (i:Int):=by unfold HC;rw [List.getElem?_map,List.getElem?_range h];rfl
theorem Rw {n:Nat}:∀x∈HC n,0≤x∧x<(n:Int):=fun x hx=>by
 unfold HC at hx
 obtain ⟨i,hi,rfl⟩:=List.mem_map.1 hx
 have:=List.mem_range.1 hi
 omega
def FN (d:List Int):List Int:=pM (Z2 d) (HC d.length) d.length
theorem uk {d st:List Int} (h:iI (Z2 d) (HC d.length) st):st=FN d:=by unfold iI at h;rw [GL] at h;exact h
def Vh (d:List Int) (a b:Int):Prop:=d.getD a.toNat 0<d.getD b.toNat 0∨d.getD a.toNat 0=d.getD b.toNat 0∧a<b
theorem um {a b:Int}:JU a b<0↔a<b:=by unfold JU;split;omega;split<;>omega
theorem Vi (d:List Int):(FN d).Pairwise (Vh d)∧(FN d).Perm (HC d.length):=by
 obtain ⟨st, h1, h2, h3⟩ := pO (c := Z2 d) (R := Vh d) (l := HC d.length) (fun a b e h1 h2 => by unfold Vh at *; omega) (fun i j x y hij hx hy => by
  have hi:=BI hx
  have hj:=BI hy
  rw [GL] at hi hj
  rw [dw hi] at hx
  rw [dw hj] at hy
  cases hx;cases hy
  unfold Z2 Vh
  rw [um]
  simp only
  omega) d.length UE
 have h4:(HC d.length).drop d.length=[]:=List.drop_eq_nil_of_le UE
 have h5:(HC d.length).take d.length=HC d.length:=List.take_of_length_le UE
 rw [h4,List.append_nil] at h1
 rw [h5] at h3
 unfold FN
 rw [h1]
 exact ⟨h2,h3⟩
theorem iK {l:List BX} {r:List BK} {d:List Int} (p:InN d.length)  :BD prog 114 [int p.1.1,int p.1.2,ref [Dm l,reqs r,ints d]] (int (Z2 d p.1)):=by
 refine fo func114 rfl ⟨rfl,rfl⟩ fun M0 w0=> ?_
 obtain ⟨R6,hp2⟩:=p.2
 obtain ⟨x,hx⟩:=at_ (l:=d) (k:=p.1.1.toNat) AA
 obtain ⟨y,hy⟩:=at_ (l:=d) (k:=p.1.2.toNat) AA
 refine a2 ?_
 refine co rfl (AD rfl underlying22 Bt vq vq AA (Bc hx)) ?_
 refine ac ?_
 refine co rfl (AD rfl underlying22 Bt vq vq AA (Bc hy)) (co rfl (GU rfl Cj rfl) ?_)
 refine co rfl (CK (Yq (a:=x) (b:=y)) rfl rfl rfl) ?_
 refine a2 ?_
 · refine int_eq ?_;unfold Z2;rw [List.getD_eq_getElem?_getD,List.getD_eq_getElem?_getD,hx,hy];rfl
theorem iL:Entry Tryz.prog 114:=⟨_,Tryz.func114,rfl,rfl⟩
theorem pT {l:List BX} {r:List BK} {d:List Int} (hd:d.length≤19):BD prog 60 [agg [Dm l,reqs r,ints d]] (ints (FN d)):=by
 refine fo func60 rfl ⟨rfl,rfl⟩ fun M0 w0=> ?_
 refine a3 ?_
 refine Tr.block (Tr.Hf 3 1 (Tr.ET _ (kk [7,1] rfl) (fun k v=>[(8,int ((k:Nat):Int)),(3,Ab v (lens ((HC k).map fun n=>[int n]).length))]) (fun k v=>Hp M0 w0 FO ([BQ 3 1 ((HC k).map fun n=>[int n]) v])) (fun k:Nat=>k≤(d).length) (fun k:Nat=>(d).length-k) 0 (.slice none 0 0) (Nat.zero_le _) ⟨ke rfl,⟨_,rfl,GK (by rfl)⟩,trivial⟩ (fun _ _ h=>h) ?_))
 rintro k v BV
 refine ac ?_
 refine Tr.seq ?_
 refine Tr.cn rfl ?_ ?_<;>intro h1 q1
 have Ah:k<(d).length:=AH h1
 obtain ⟨x,Ai⟩:=at_ Ah
 refine a2 ?_
 refine ap ?_
 refine TO.DQ 0 rfl rfl AB (FI rfl rfl AB rfl underlying22 Bt He z3 rfl AB AB (vl rfl) (Kf rfl) (Bb fun _=>rfl) (Nat.zero_lt_succ _) (by simp only [List.length_map,List.length_cons,List.length_nil,GL];unfold maxLen;omega) (by simp only [List.length_map,List.length_cons,List.length_nil,GL];omega)) (fun v1=> ?_)
 refine ap ?_
 refine ac ?_
 rw [show (HC k).map (fun n=>[int n])++[[int ((k:Nat):Int)]]=(HC (k+1)).map (fun n=>[int n]) by rw [iJ,List.map_append];rfl]
 exact Fin.DD (k+1) v1 (⟨Ah,by omega⟩) ⟨⟨_,rfl,AG k⟩,⟨_,rfl,Cz (by simp [GL])⟩,kz⟩ (fun _ _ h=>h)
 have BP:k=(d).length:=by have:=AJ h1;omega
 subst BP
 refine ac ?_
 refine ap ?_
 refine TO.HJ 0 rfl rfl AB (An rfl rfl AB rfl (ADP (l:=HC d.length) (c:=Z2 d) (N:=d.length) (by rw [GL];exact hd) Rw) ⟨(Ka rfl),⟨_,rfl,Gj iL (fun p=>iK p)⟩,trivial⟩) ?_
 refine TO.kU 0 3 rfl rfl (fun _=>rfl) (fun t1 R6=> ?_)
 have ADN:=R6.len
 refine ap ?_
 refine a2 ?_
 · rw [←uk R6];exact Aq _ _
end Go.Proofs.YtmocaapoeefgkaaGreatDoor
namespace Cp
open Go Go.RowKit Go.Great
section
variable {P:Program} {n:Fm} {E:Env} {M0:Av} {w0:World} {S:Nat→Prop} {o:Oper}
def AGe (u:Value):Value:=match u with| .tuple t=>t.getD 0 undef|_=>undef
def wI (T R:At):At:=⟨R.blk,R.new,fun M w=>(T.blk=none∧T.h M w)∧R.h M w,fun M w M' w' he hk h=>⟨⟨h.1.1,T.st M w M' w' he (fun b hb=>by rw [h.1.1] at hb;cases hb) h.1.2⟩,R.st M w M' w' he hk h.2⟩⟩
theorem F3.both {f:FuncId} {args:List Pr} {T:At} (hT:T.blk=none) {p k:Pr} {R:Value→At} (h:F3 (α:=Value) P f args [T] (fun _=>True) (fun x=>EA [Ab x p,k]) (fun x=>[T,R x])):BZ P f args (EA [p,k]) T (fun u=>wI T (R (AGe u))):=by
 refine ⟨h.1,fun M0 w0 S rs M w vs hI hv=>(h.2 M0 w0 S rs M w vs hI hv).mono ?_⟩
 rintro e' w' ⟨u,M',x,rfl,_,h1,h2,h3⟩
 have h3:Ay M0 w0 S (T::R x::rs) M' w':=h3
 obtain ⟨cs,rfl,g2⟩:=h1
 match cs,g2 with
 |[a,b],⟨⟨e1,g3⟩,g4,_⟩=>
  have e1:a=x:=e1
  subst e1
  have hh:=(h3.hold T (List.mem_cons_self ..)).1
  have h4:=(Ay.perm (List.Perm.swap _ _ _) h3).CR (i:=0) (r':=wI T (R a)) rfl rfl rfl ⟨⟨hT,hh⟩,(h3.hold (R a) (List.mem_cons_of_mem _ (List.mem_cons_self ..))).1⟩
  exact ⟨_,M',rfl,⟨[a,b],rfl,g3,g4,trivial⟩,h2,(Ay.perm (List.Perm.swap _ _ _) h4).Jj⟩
end
section
variable {P:Program} {n:Fm} {E:Env} {M0:Av} {w0:World} {S:Nat→Prop} {rs:List At}
theorem Fin.zF {Q:Exit→Act→World→Prop} {x:Exit} {b cap sz:Nat} {e:TypeId} {rows:List (List Pr)} {sp:List Value} (j:Nat) (hj:rs[j]? =some (AF true b e (rows.flatten++sp.map is))) (hc:rows.length≤cap) (hm:cap≤maxLen) (hq:sp.length=(cap-rows.length)*sz)
  (k:Fin n E (Hp M0 w0 S (rs.set j (BQ e sz rows (.slice (some ⟨b,0,none⟩) rows.length cap)))) Q x):Fin n E (Hp M0 w0 S rs) Q x:=
 Fin.conv (fun a w hs=>by
  obtain ⟨M,h1,h2,h3,h4⟩:=hs
  have h4:Ay M0 w0 S rs M w:=h4
  exact ⟨M,h1,h2,h3,h4.CR hj rfl rfl (.inr ⟨b,cap,sp,rfl,hc,hm,hq,(h4.hold _ (List.mem_of_getElem? hj)).1⟩)⟩) k
end
section
variable {P:Program} {g:Func} {fz:Nat} {E:Env} {M0 M1:Av} {w0 w1:World} {S:Nat→Prop} {rs:List At}
end
end Cp
namespace Go.Proofs.YtmocaapoeefgkaaGreatDoor
open Go Go.RowKit Cp Go.Proofs.Tryz
theorem uo {β:Type} {p:β→Bool} {l:List β} (h:¬idx p l= -1):0≤idx p l∧(idx p l).toNat<l.length∧WZ p l l (idx p l).toNat ((idx p l).toNat+1):=by
 unfold idx at h ⊢
 cases hf:l.findIdx? p with
 |none=>rw [hf] at h;exact absurd rfl h
 |some i=>
  rw [List.findIdx?_eq_some_iff_getElem] at hf
  obtain ⟨h1,h2,h3⟩:=hf
  refine ⟨by simp,by simpa using h1,rfl,by simp,by simp only [Int.toNat_natCast];omega,?_,rfl⟩
  simp only [Int.toNat_natCast]
  rw [List.take_add_one,List.getElem?_eq_getElem h1,List.filter_append]
  have:(l.take i).filter (fun x=> !p x)=l.take i:=by
   rw [List.filter_eq_self];intro x hx
   obtain ⟨j,hj,rfl⟩:=List.mem_iff_getElem.1 hx
   rw [List.length_take] at hj
   have:=h3 j AA
   simpa using this
  rw [this];simp [h2]
theorem uq {β:Type} {p:β→Bool} {l:List β} (h:idx p l= -1):l.filter (fun x=> !p x)=l:=by
 unfold idx at h
 cases hf:l.findIdx? p with
 |none=>rw [List.findIdx?_eq_none_iff] at hf;rw [List.filter_eq_self];intro x hx;simpa using hf x hx
 |some i=>rw [hf] at h;exact absurd h AU
abbrev Oa (n:Nat):={i:Int//0≤i∧i<(n:Int)}
abbrev I8 {n:Nat} (i:Oa n):List Pr:=[int i.1]
abbrev ur {n:Nat} (l:List (Oa n)):Pr:=slice 1 (l.map I8)
theorem toZ {n:Nat}:∀{L:List Int},(∀x∈L,0≤x∧x<(n:Int))→∃l:List (Oa n),l.map (·.1)=L
 |[],_=>⟨[],rfl⟩
 |x::L,h=>by
  obtain ⟨l,hl⟩:=toZ (L:=L) (fun y hy=>h y (List.mem_cons_of_mem _ hy))
  exact ⟨⟨x,h x (List.mem_cons_self ..)⟩::l,by rw [List.map_cons,hl]⟩
theorem pU {n:Nat} (l:List (Oa n)):(l.map (·.1)).map (fun n=>[int n])=l.map I8:=by rw [List.map_map];rfl
theorem ADQ {n:Nat} (l:List (Oa n)) (q:Int→Bool):(l.filter fun x=>q x.1).map (·.1)=(l.map (·.1)).filter q:=by
 induction l with
 |nil=>rfl
 |cons a l ih=>rw [List.map_cons,List.filter_cons,List.filter_cons];split<;>simp [ih]
theorem I9 {n:Nat} {l:List (Oa n)} {p:Oa n→Bool}  :BD prog 167 [ur l,eK prog (fun x:Oa n=>[int x.1]) (fun x=>bool (p x))] (int (idx p l)):=by
 refine fo func167 rfl ⟨rfl,rfl⟩ fun M0 w0=>(Tr.C6 0 rfl fun Eu=> ?_)
 refine a2 ?_
 refine Tr.block (Tr.BA _ (kk [7,1,0] rfl) (fun k:Nat=>[(8,int ((k:Nat):Int))]) (fun k:Nat=>k≤(l).length∧(∀j y,j<k→l[j]? =some y→p y=false)) (fun k:Nat=>(l).length-k) 0 (⟨Nat.zero_le _,fun j y hj=>absurd hj AA⟩) kz ?_)
 rintro k ⟨BV,AY⟩
 refine ac ?_
 refine Tr.seq ?_
 refine Tr.cn rfl ?_ ?_<;>intro h1 q1
 have Ah:k<(l).length:=AH h1
 obtain ⟨x,Ai⟩:=at_ Ah
 · repeat' first|exact int_eq (EP Ai Bg AY)|exact Fin.AL (k+1) ⟨⟨Ah,DP Ai Bg AY⟩,by omega⟩ ⟨⟨_,rfl,AG k⟩,kz⟩|refine co rfl (AD rfl underlying51 Bt vq vq AA CF) ?_|refine co rfl (GU rfl Cj rfl) (co rfl (ME x rfl vq kz) ?_)|refine ac ?_|(refine Tr.cn rfl ?_ ?_<;>intro h q)
 have BP:k=(l).length:=by have:=AJ h1;omega
 subst BP
 refine a3 ?_
 · exact int_eq (E5 AY)
theorem iM {n:Nat} {l:List (Oa n)} {p:Oa n→Bool} {b cap:Nat} {sp:List Value} (hc:(l.map I8).length≤cap) (hm:cap≤maxLen) (hq:sp.length=(cap-(l.map I8).length)*1):BZ prog 118 [is (.slice (some ⟨b,0,none⟩) (l.map I8).length cap),eK prog (fun x:Oa n=>[int x.1]) (fun x=>bool (p x))] (is (.slice (some ⟨b,0,none⟩) ((l.filter fun x=> !p x).map I8).length cap)) (AF true b 3 ((l.map I8).flatten++sp.map is)) (fun _=>AF true b 3 (((l.filter fun x=> !p x).map I8).flatten++((List.replicate (l.length-(l.filter fun x=> !p x).length) [int 0]).flatten++sp.map is))):=by
 refine BZ.of func118 rfl rfl Ao fun M0 w0 S rs M1 w1=> ?_
 have hlm:(l.map I8).length=l.length:=List.length_map ..
 have hmx:cap≤9223372036854775807:=by unfold maxLen at hm;omega
 refine ac ?_
 refine ap ?_
 refine TO.HJ 0 rfl rfl AB (rz (l.map I8) rfl rfl AB rfl (I9 (l:=l) (p:=p)) (Bb fun _=>rfl) hc hm (by rw [List.length_map];exact hq) ⟨.inr ⟨(vl rfl),Aq _ _⟩,.inl (ke rfl),trivial⟩) ?_
 refine ap ?_
 refine an ?_ ?_<;>intro h1 q1
 have hno:=uq (p:=p) (l:=l) IK
 refine ac ?_
 refine Tr.ret (Fin.AE ?_)
 refine Fin.EB rfl rfl ?_ (fun _ _ _ _=>by rw [hno,Nat.sub_self];rfl)
 · rw [hno];exact Lr
 obtain ⟨hi0,Fg,Zx⟩:=uo (p:=p) (l:=l) IK
 refine a2 ?_
 refine Tr.block (Tr.MT _ (kk [1,0] rfl) (fun (st:List (Oa n)) (i:Nat) (j:Nat)=>[(5,int ((i:Nat):Int)),(6,int ((j:Nat):Int))]) (fun (st:List (Oa n)) (i:Nat) (j:Nat)=>Hp M0 w0 S (AF true b 3 ((st.map I8).flatten++sp.map is)::Ak M1 w1::rs)) (fun (st:List (Oa n)) (i:Nat) (j:Nat)=>WZ p l st i j) (fun (st:List (Oa n)) (i:Nat) (j:Nat)=>l.length-j) (l) ((idx p l).toNat) ((idx p l).toNat+1)  (Zx) ⟨⟨_,rfl,int_eq AA⟩,⟨_,rfl,int_eq AA⟩,trivial⟩ (fun _ _ h=>h) ?_)
 rintro st i j  Zx
 obtain ⟨iz,hij,hjl,htk,hdr⟩:=id Zx
 refine ac ?_
 refine co rfl (KY rfl underlying51 (vl rfl)) ?_
 refine an ?_ ?_<;>intro h2 q2
 have AGf:j<l.length:=by have:=AH h2;omega
 obtain ⟨x,hlx⟩:=at_ (l:=l) (k:=j) AGf
 have hx:st[j]? =some x:=(xO Zx).trans hlx
 refine a2 ?_
 refine co rfl (BG rfl underlying51 Bt (vl rfl) (vl rfl) AA AA) ?_
 refine co rfl (Cw 0 rfl (BE rfl Cj (vl rfl) (Wa (f:=I8) (fun _=>rfl) UF rfl))) ?_
 refine a2 ?_
 refine co rfl (ME x rfl (vl rfl) kz) ?_
 refine ac ?_
 refine wk [29,7,6,5,1,0] rfl ?_
 refine Tr.cn rfl ?_ ?_<;>intro h3 q3
 refine ap ?_
 refine tp rfl (BG rfl underlying51 Bt (vl rfl) (vl rfl) AA AA) ?_
 refine TO.Dv 0 rfl rfl (A9 rfl rfl (vl rfl) (Vo rfl) Bt rfl QC (Yj (f:=I8) (x:=x) (fun _=>rfl) AA)) ?_
 refine ap ?_
 refine a2 ?_
 exact Fin.E9 (st.set i x) (i+1) (j+1)  (⟨kO Zx hlx CG,by omega⟩) ⟨⟨_,rfl,AG i⟩,⟨_,rfl,AG j⟩,kz⟩ (fun _ _ h=>h)
 refine a2 ?_
 exact Fin.E9 (st) (i) (j+1)  (⟨kP Zx hlx CG,by omega⟩) ⟨ke rfl,⟨_,rfl,AG j⟩,kz⟩ (fun _ _ h=>h)
 have hje:j=l.length:=by have:=AJ h2;omega
 subst hje
 obtain ⟨he1,he2,he3,he4⟩:=r8 Zx
 refine ac ?_
 refine ap ?_
 refine tp rfl (SH rfl underlying51 Bt (vl rfl) (vl rfl) AA AA AA) ?_
 refine TO.Dv 0 rfl rfl (kM rfl rfl underlying51 Bt z3 rfl AB AB (vl rfl) AA QC (Ur (f:=I8) (fun _=>rfl) rfl AA AA)) ?_
 refine ap ?_
 refine ac ?_
 refine co rfl (OG rfl underlying51 Bt (vl rfl) (vl rfl) AA AA AA AA) ?_
 refine ac ?_
 refine wk [4] rfl (Tr.ret ?_)
 refine Fin.EB rfl rfl ?_ (fun _ _ _ _=>by rw [←he2,←he1,←he3,List.append_assoc];rfl)
 · refine Pr.le_of_eq ?_;rw [List.length_map,←he2,Int.toNat_natCast]
theorem Z3 {n:Nat} {p:Oa n→Bool}  :BD prog 118 [is (.slice none 0 0),eK prog (fun x:Oa n=>[int x.1]) (fun x=>bool (p x))] (is (.slice none 0 0)):=by
 refine fo func118 rfl ⟨rfl,rfl⟩ fun M0 w0=> ?_
 · repeat' first|exact Lr|(exfalso;simp [idx] at h)|refine co rfl (AV rfl (I9 (l:=[]) (p:=p)) ⟨⟨_,rfl,AP 1⟩,kz⟩) ?_|refine ac ?_|(refine Tr.cn rfl ?_ ?_<;>intro h q)
theorem dx {l:List BX} {r:List BK} {d:List Int} {day:Int} (x:Oa d.length)  :BD prog 119 [int x.1,ref [Dm l,reqs r,ints d],ref [int day]] (bool (decide (d.getD x.1.toNat 0>day))):=by
 refine fo func119 rfl ⟨rfl,rfl⟩ fun M0 w0=> ?_
 have hxp:=x.2
 have hdx:=Es (l:=d) (i:=x.1.toNat) AA
 refine a2 ?_
 refine co rfl (AD rfl underlying22 Bt vq vq AA (Bc hdx)) ?_
 refine a2 ?_
 · exact Lr
theorem dz:Entry Tryz.prog 119:=⟨_,Tryz.func119,rfl,rfl⟩
def Z4 (r:List BK) (d s:List Int):Int:=if KC (d.length:Nat) r s=0 then 0 else 46
def Fv (r:List BK) (d s:List Int) (day:Int):List Int:=(JZ (d.length:Nat) r s).filter fun i=> !decide (d.getD i.toNat 0>day)
theorem d_ {n:Nat} {r:List BK} {s:List Int}:∀x∈JZ (n:Int) r s,0≤x∧x<(n:Int):=fun x hx=>by
 unfold JZ at hx
 split at hx
 ·
  unfold EX at hx
  obtain ⟨i,hi,rfl⟩:=List.mem_map.1 hx
  have:=List.mem_range.1 (List.mem_filter.1 hi).1
  omega
 · cases hx
theorem pV {r:List BK} {d s:List Int} (h:KC (d.length:Nat) r s=0):Z4 r d s=0:=by unfold Z4;rw [if_pos h]
theorem zG {r:List BK} {d s:List Int} {day:Int} (h:KC (d.length:Nat) r s≠0):Z4 r d s=46∧Fv r d s day=[]:=by
 unfold Z4 Fv;rw [if_neg h,VV rfl h];exact ⟨rfl,rfl⟩
theorem pW (k:Nat) (sp:List Value):(List.replicate k [int 0]).flatten++sp.map is=((List.replicate k (Value.int .i64 0))++sp).map is:=by rw [List.flatten_replicate_singleton,List.map_append,List.map_replicate]
theorem uu {l:List BX} {r:List BK} {d s:List Int} {day:Int}  :F3 (α:=Value) prog 63 [agg [Dm l,reqs r,ints d],ints s,int day] [Dw] (fun _=>True) (fun v=>EA [Ab v (lens ((Fv r d s day).map (fun n=>[int n])).length),int (Z4 r d s)]) (fun v=>[Dw,BQ 3 1 ((Fv r d s day).map (fun n=>[int n])) v]):=by
 refine F3.of func63 rfl rfl Ao fun M0 w0 S rs M1 w1=> ?_
 obtain ⟨lz,hlz⟩:=toZ (d_ (n:=d.length) (r:=r) (s:=s))
 have hfz:((lz.filter fun x=> !decide (d.getD x.1.toNat 0>day)).map I8)=(Fv r d s day).map (fun n=>[int n]):=by rw [←pU];unfold Fv;rw [←hlz];exact congrArg (List.map fun n=>[int n]) (ADQ lz (fun i=> !decide (d.getD i.toNat 0>day)))
 refine ac ?_
 refine ap ?_
 refine TO.S7 _ rfl rfl AB rfl (gM (n:=((d.length:Nat):Int)) (l:=r) (s:=s)) ⟨kq,kz⟩ ((EG (j:=0) rfl).trans (List.Perm.cons _ (List.Perm.refl _))) (fun x1 _=> ?_)
 refine ap ?_
 refine wk [9,8,5,3] rfl ?_
 refine an ?_ ?_<;>intro h1 q1
 obtain ⟨hd1,hd2⟩:=zG (r:=r) (d:=d) (s:=s) (day:=day) IK
 refine ac ?_
 refine Tr.ret (Fin.AE (Fin.Hf 3 1 (Fin.Ik ?_)))
 refine Fin.HS 1 (BQ 3 1 ((Fv r d s day).map (fun n=>[int n])) (.slice none 0 0)) rfl (by rw [hd2];rfl) ?_
 refine Fin.drop 2 (Fin.OH ((.slice none 0 0)) rfl (AO.tmp rfl Lr) (AO.tmp rfl Lr) trivial ?_ (List.Perm.refl _))
 · exact A_ ⟨GK (by rw [hd2];rfl),int_eq hd1.symm,trivial⟩
 have ha0:KC ((d.length:Nat):Int) r s=0:=by simpa using h1
 refine ac ?_
 refine Tr.seq (Tr.nw 1 rfl (fun AEc AGg=> ?_) ?_)
 subst AGg
 refine Tr.re 8 rfl (E0 _ _:Pr.le _ (is (.slice none 0 0))) ?_
 refine ac ?_
 refine co rfl (AV rfl (Z3 (p:=(fun x:Oa d.length=>decide (d.getD x.1.toNat 0>day)))) ⟨kq,⟨_,rfl,Gj dz (fun x=>dx x)⟩,trivial⟩) ?_
 refine ac ?_
 refine Tr.ret (Fin.Hf 3 1 (Fin.Ik ?_))
 refine Fin.HS 1 (BQ 3 1 ((Fv r d s day).map (fun n=>[int n])) (.slice none 0 0)) rfl aK ?_
 refine Fin.drop 2 (Fin.OH ((.slice none 0 0)) rfl (AO.tmp rfl Lr) (AO.tmp rfl Lr) trivial ?_ (List.Perm.refl _))
 · exact A_ ⟨GK aK,int_eq (pV ha0).symm,trivial⟩
 refine Tr.Qk 1 rfl fun b1 ADR sp1 bw hg1 hm1 hs1=> ?_
 subst bw
 rw [←hlz,pU] at hg1 hs1 ⊢
 refine ap ?_
 refine TO.HJ 1 rfl rfl AB (An rfl rfl AB rfl (iM (l:=lz) (p:=(fun x:Oa d.length=>decide (d.getD x.1.toNat 0>day))) (sp:=sp1) hg1 hm1 hs1) ⟨Ja,⟨_,rfl,Gj dz (fun x=>dx x)⟩,trivial⟩) ?_
 refine ap ?_
 refine Tr.ret ?_
 have AHy:(lz.filter fun x=> !decide (d.getD x.1.toNat 0>day)).length≤lz.length:=List.length_filter_le _ _
 have AGh:=hg1
 rw [List.length_map] at AGh
 refine Fin.zF (sz:=1) (rows:=(lz.filter fun x=> !decide (d.getD x.1.toNat 0>day)).map I8) (sp:=List.replicate (lz.length-(lz.filter fun x=> !decide (d.getD x.1.toNat 0>day)).length) (.int .i64 0)++sp1) 1 (by rw [←pW];rfl) EE hm1 (by rw [List.length_append,List.length_replicate,hs1,List.length_map,List.length_map];omega) ?_
 refine Fin.HS 1 (BQ 3 1 ((Fv r d s day).map (fun n=>[int n])) (.slice (some ⟨b1,0,none⟩) ((lz.filter fun x=> !decide (d.getD x.1.toNat 0>day)).map I8).length ADR)) rfl (by rw [hfz]) (Fin.OH ((.slice (some ⟨b1,0,none⟩) ((lz.filter fun x=> !decide (d.getD x.1.toNat 0>day)).map I8).length ADR)) rfl (AO.tmp rfl Lr) (AO.tmp rfl Lr) trivial ?_ (List.Perm.refl _))
 · exact A_ ⟨fun _ _ _ h=>⟨h,_,_,(show _=_ from h).trans (by rw [hfz])⟩,int_eq (pV ha0).symm,trivial⟩
theorem zH {l:List BX} {r:List BK} {d s:List Int} {day:Int}:BZ Tryz.prog 63 [agg [Dm l,reqs r,ints d],ints s,int day] (EA [ints (Fv r d s day),int (Z4 r d s)]) Dw (fun _=>Dw):=F3.Yl (Bb fun _=>rfl) uu
-- AGi to an ascending set (behind Rq.lean)
theorem Ry {x:Int}:∀(s q:List Int),x∉s→s.foldl (Du x true) (q,true)=(q++s,true)
 |[],q,_=>by simp
 |y::s,q,h=>by
  have hy:y≠x:=fun e=>h (by rw [e];exact List.mem_cons_self ..)
  rw [List.foldl_cons,show Du x true (q,true) y=(q++[y],true) by unfold Du;rw [if_neg hy];simp]
  rw [Ry s (q++[y]) (fun hh=>h (List.mem_cons_of_mem _ hh))];simp
theorem eA {x:Int}:∀(s acc:List Int),(acc++s).Pairwise (· < ·)→x∉s→(∀y∈acc,y<x)→(if (s.foldl (Du x true) (acc,false)).2=false then (s.foldl (Du x true) (acc,false)).1++[x] else (s.foldl (Du x true) (acc,false)).1).Pairwise (· < ·)
 |[],acc,h,_,ha=>by
  simp only [List.foldl_nil,if_true]
  rw [List.append_nil] at h
  rw [List.pairwise_append]
  exact ⟨h,List.pairwise_singleton _ _,fun a h1 b h2=>by rw [List.mem_singleton] at h2;subst h2;exact ha a h1⟩
 |y::s,acc,h,hx,ha=>by
  have hy:y≠x:=fun e=>hx (by rw [e];exact List.mem_cons_self ..)
  have hxs:x∉s:=fun hh=>hx (List.mem_cons_of_mem _ hh)
  rw [List.foldl_cons]
  rcases Int.lt_or_le x y with hxy|hxy
  ·
   rw [show Du x true (acc,false) y=(acc++[x]++[y],true) by unfold Du;rw [if_neg hy,if_pos ⟨rfl,rfl,hxy⟩],Ry s _ hxs]
   rw [if_neg AU]
   simp only [List.append_assoc,List.singleton_append]
   rw [List.pairwise_append] at h ⊢
   obtain ⟨h1,h2,h3⟩:=h
   rw [List.pairwise_cons] at h2
   refine ⟨h1,List.pairwise_cons.2 ⟨fun b hb=> ?_,List.pairwise_cons.2 h2⟩,fun a h4 b h5=> ?_⟩
   ·
    rcases List.mem_cons.1 hb with rfl|hb
    · exact hxy
    · exact Int.lt_trans hxy (h2.1 b hb)
   ·
    rcases List.mem_cons.1 h5 with rfl|h5
    · exact ha a h4
    · exact h3 a h4 b h5
  ·
   have hlt:y<x:=by omega
   rw [show Du x true (acc,false) y=(acc++[y],false) by unfold Du;rw [if_neg hy,if_neg (fun hh=>by have:=hh.2.2;omega)]]
   refine eA s (acc++[y]) (by rw [List.append_assoc];exact h) hxs fun b hb=> ?_
   rcases List.mem_append.1 hb with hb|hb
   · exact ha b hb
   · rw [List.mem_singleton] at hb;subst hb;exact hlt
theorem pX {s:List Int} {x:Int} (h:s.Pairwise (· < ·)) (hx:x∉s):(Ed s x true).Pairwise (· < ·):=by
 have h1:=eA s [] h hx (fun y hy=>by cases hy)
 unfold Ed wall
 simpa using h1
theorem Vj {n:Nat} {l:List BK} {s:List Int} {x:Int} (h:x∈EX n l s true):(0≤x∧x<(n:Int))∧x∉s∧Ck l (Ed s x true)=true:=by
 unfold EX at h
 obtain ⟨i,hi,rfl⟩:=List.mem_map.1 h
 obtain ⟨h1,h2⟩:=List.mem_filter.1 hi
 have h3:=List.mem_range.1 h1
 unfold K3 at h2
 rw [Bool.and_eq_true] at h2
 refine ⟨by omega,fun hc=> ?_,h2.2⟩
 rw [EN.2 hc] at h2
 exact absurd h2.1 AB
theorem uv {n:Nat} {l:List BK} {s:List Int} (h:∀i:Nat,i<n→(i:Int)∈s):EX n l s true=[]:=by
 unfold EX
 rw [List.map_eq_nil_iff,List.filter_eq_nil_iff]
 intro i hi
 unfold K3
 rw [EN.2 (h i (List.mem_range.1 hi))]
 simp
theorem pY {n:Nat} {s:List Int} (h:s.length<n):∃i:Nat,i<n∧(i:Int)∉s:=by
 refine Classical.byContradiction fun hc=> ?_
 have h2:∀x∈(List.range n).map fun i:Nat=>(i:Int),x∈s:=fun x hx=>by
  obtain ⟨i,hi,rfl⟩:=List.mem_map.1 hx
  exact Classical.byContradiction fun hn=>hc ⟨i,List.mem_range.1 hi,hn⟩
 have h3:=Kl (L:=(List.range n).map fun i:Nat=>(i:Int)) (M:=s) (List.Pairwise.map _ (fun a b hab e=>hab AA) (List.nodup_range (n:=n))) h2
 rw [List.length_map,List.length_range] at h3
 omega
theorem pZ {n:Nat} {s:List Int} (hp:s.Pairwise (· < ·)) (hr:∀x∈s,0≤x∧x<(n:Int)) (h:s.length=n):∀i:Nat,i<n→(i:Int)∈s:=fun i hi=>by
 refine Classical.byContradiction fun hn=> ?_
 have hnd:s.Nodup:=hp.imp (fun hab e=>by omega)
 have h3:=Kl (L:=(i:Int)::s) (M:=(List.range n).map fun i:Nat=>(i:Int)) (List.nodup_cons.2 ⟨hn,hnd⟩) (fun x hx=>by
  rcases List.mem_cons.1 hx with rfl|hx
  · exact List.mem_map.2 ⟨i,List.mem_range.2 hi,rfl⟩
  ·
   have:=hr x hx
   exact List.mem_map.2 ⟨x.toNat,List.mem_range.2 AA,by omega⟩)
 rw [List.length_map,List.length_range,List.length_cons] at h3
 omega
theorem pg:∀(l:List Int) (a:Int),a≤l.foldl max a∧(∀x∈l,x≤l.foldl max a)
 |[],a=>⟨Int.le_refl _,(fun x h=>by cases h)⟩
 |b::l,a=>by
  obtain ⟨h1,h2⟩:=pg l (max a b)
  rw [List.foldl_cons]
  refine ⟨by omega,fun x hx=> ?_⟩
  rcases List.mem_cons.1 hx with rfl|hx
  · omega
  · exact h2 x hx
theorem Rt.days {m:Nat} {l:List BX} {r:List BK} {d:List Int} (h:Rt m l r d):∀x∈d,0≤x:=fun x hx=>by
 obtain ⟨j,hj⟩:=List.mem_iff_getElem?.1 hx
 have hjl:=BI hj
 rw [h.dl] at hjl
 obtain ⟨c,hc⟩:=at_ hjl
 exact (h.dd j x c hjl hj hc).1.1
theorem zI {n:Nat} {s:List Int} (hp:s.Pairwise (· < ·)) (hr:∀x∈s,0≤x∧x<(n:Int)):De (n:Int) s=true:=by
 unfold De
 rw [B7]
 intro j hj
 have h1:=hr _ (List.getElem_mem hj)
 unfold setAt
 rw [List.getElem?_eq_getElem hj]
 simp only [Option.getD_some,Bool.and_eq_true,Bool.or_eq_true,decide_eq_true_eq]
 refine ⟨h1,?_⟩
 rcases Nat.eq_zero_or_pos j with h0|h0
 · exact .inl h0
 ·
  right
  rw [List.getElem?_eq_getElem (show j-1<s.length by omega)]
  exact List.pairwise_iff_getElem.1 hp (j-1) j AA hj AA
structure Gb (n:Nat) (r:List BK) (s:List Int):Prop where
 asc:s.Pairwise (· < ·)
 RL:∀x∈s,0≤x∧x<(n:Int)
 cl:Ck r s=true
theorem Gb.nil (n:Nat) (r:List BK):Gb n r []:=⟨List.Pairwise.nil,(fun x h=>by cases h),Ci.2 fun q _ h=>by cases h⟩
theorem Gb.set {n:Nat} {r:List BK} {s:List Int} (h:Gb n r s):De (n:Int) s=true:=zI h.asc h.RL
theorem Gb.next {n:Nat} {r:List BK} {s:List Int} {x:Int} (h:Gb n r s) (hx:x∈EX n r s true):Gb n r (Ed s x true)∧(Ed s x true).length=s.length+1:=by
 obtain ⟨h1,h2,h3⟩:=Vj hx
 refine ⟨⟨pX h.asc h2,fun y hy=> ?_,h3⟩,Iv h2⟩
 rcases Cm.1 hy with rfl|hy
 · exact h1
 · exact h.RL y hy
theorem Gb.due {r:List BK} {d s:List Int} (hv:BH (d.length:Nat) r=0) (h:Gb d.length r s):Z4 r d s=0∧JZ (d.length:Nat) r s=EX d.length r s true:=by
 have h0:=v_ hv h.set h.cl
 exact ⟨pV h0,by unfold JZ;rw [if_pos h0];rfl⟩
theorem Gb.all {r:List BK} {d s:List Int} (hv:BH (d.length:Nat) r=0) (h:Gb d.length r s):Fv r d s (wC d)=EX d.length r s true:=by
 unfold Fv
 rw [(h.due hv).2,List.filter_eq_self]
 intro x hx
 have hr:=(Vj hx).1
 have hdx:=Es (l:=d) (i:=x.toNat) AA
 have:=(pg d (-1)).2 _ (List.mem_of_getElem? hdx)
 rw [Bool.not_eq_true',decide_eq_false_iff_not]
 unfold wC
 omega
theorem Gb.none {r:List BK} {d s:List Int} (h:Gb d.length r s) (hl:s.length=d.length):EX d.length r s true=[]:=uv (pZ h.asc h.RL hl)
theorem Gb.some {r:List BK} {d s:List Int} (hv:BH (d.length:Nat) r=0) (h:Gb d.length r s) (hl:s.length<d.length):EX d.length r s true≠[]:=by
 obtain ⟨i,hi,hn⟩:=pY hl
 exact mj (n:=((d.length:Nat):Int)) hv h.cl (by simpa using hi) hn
abbrev Lz (l:List BX) (r:List BK) (d:List Int) (day:Int) (st tr:List Int) (sp:Bool):List Pr:=[Dm l,reqs r,ints d,int day,ints st,ints tr,Cp.bool sp]
def SW (m x:Int):Bool:=decide (x<0∨x>m)
abbrev JT (m:Int) (l:List Int):Bool:=l.any (SW m)
def Dt (st:List Int):List Int:=((List.range st.length).filter fun i:Nat=>decide (st.getD i 0=1)).map fun i:Nat=>(i:Int)
def L1 (st:List Int) (k:Nat):List Int:=((List.range k).filter fun i:Nat=>decide (st.getD i 0=1)).map fun i:Nat=>(i:Int)
theorem Xm {st:List Int} {k:Nat} {x:Int} (hx:st[k]? =some x):L1 st (k+1)=if x=1 then L1 st k++[(k:Int)] else L1 st k:=by
 have h:st.getD k 0=x:=by rw [List.getD_eq_getElem?_getD,hx];rfl
 unfold L1
 rw [List.range_succ,List.filter_append,List.map_append]
 simp only [List.filter_cons,List.filter_nil,h]
 split<;>simp_all
theorem Z5 (st:List Int) (k:Nat):(L1 st k).length≤k:=by unfold L1;rw [List.length_map];exact Nat.le_trans (List.length_filter_le _ _) Oy
theorem iN {st:List Int} (h:∀x∈st,x≠1):Dt st=[]:=by
 unfold Dt
 rw [List.map_eq_nil_iff,List.filter_eq_nil_iff]
 intro i hi
 have hi:=List.mem_range.1 hi
 have:=h _ (List.getElem_mem hi)
 rw [List.getD_eq_getElem?_getD,List.getElem?_eq_getElem hi]
 simpa using this
theorem Ob (n:Nat):Dt (List.replicate n 0)=[]:=iN fun x hx=>by rw [List.eq_of_mem_replicate hx];decide
def Z6 (n:Nat) (r:List BK) (d:List Int) (day:Int) (st tr:List Int):Bool:=decide (((n≤24∧d.length=n)∧st.length=n∧tr.length=n)∧((JT 40000 d=false∧SW 40000 day=false)∧JT 3 st=false∧JT 4 tr=false)∧VW (n:Int) r (Dt st)=0∧VX (n:Int) r (Dt st)=true)
theorem P0 {n:Nat} {r:List BK} {d:List Int} {day:Int} {st tr:List Int}:Z6 n r d day st tr=true↔((n≤24∧d.length=n)∧st.length=n∧tr.length=n)∧((JT 40000 d=false∧SW 40000 day=false)∧JT 3 st=false∧JT 4 tr=false)∧VW (n:Int) r (Dt st)=0∧VX (n:Int) r (Dt st)=true:=by unfold Z6;rw [decide_eq_true_eq]
theorem pq {l:List BX} {r:List BK} {d:List Int} (IW:∀x∈l,x.C2.small) (hl:l.length≤1000000) (hr:r.length≤1000000) (hd:d.length≤1000000):BD Tryz.prog 100 [agg [Dm l,reqs r,ints d]] (agg [Dm l,reqs r,ints d]):=Om.frz (Bb fun _=>rfl) (n9 IW hl hr hd)
theorem Xn {l:List Int} (hl:l.length≤1000000000):BD prog 131 [ints l] (ints l):=by
 refine fo func131 rfl ⟨rfl,rfl⟩ fun M0 w0=> ?_
 refine a2 ?_
 refine co rfl (Fa rfl underlying22 vq) ?_
 refine ac ?_
 refine Tr.ex 4 rfl (fun z1=>Tr.fact 4 rfl fun Eg=> ?_)
 refine Tr.cn rfl ?_ ?_<;>intro h1 q1
 refine a2 ?_
 · (have hl0:l=[]:=(by simpa using Eg h1));subst hl0;exact AP 1
 refine ac ?_
 refine ap ?_
 refine TO.pad ?_
 refine TO.DQ 0 rfl rfl AB (B1 rfl rfl rfl rfl underlying22 Bt He z3 GG vq (Bq BN vq)) (fun v1=> ?_)
 refine ap ?_
 refine ac ?_
 · exact Pr.le_trans (Aq _ _) (Pr.le_of_eq AU)
theorem pz {l:List BX} {r:List BK} {d:List Int} {day:Int} {st tr:List Int} {sp:Bool} (IW:∀x∈l,x.C2.small) (hl:l.length≤1000000) (hr:r.length≤1000000) (hd:d.length≤1000000) (hst:st.length≤1000000) (htr:tr.length≤1000000):BD prog 73 [agg (Lz l r d day st tr sp)] (agg (Lz l r d day st tr sp)):=by
 refine fo func73 rfl ⟨rfl,rfl⟩ fun M0 w0=>(Tr.seq (Tr.Ap ?_))
 refine TO.V9 rfl rfl AB rfl C1 (fun b1=> ?_)
 refine Tl rfl rfl rfl rfl z42 SE (fun b2=> ?_)
 refine ap ?_
 refine Tr.seq (Tr.rx ?_)
 refine ay ?_
 refine xo rfl (fun _=>Cn (pq IW hl hr hd) rfl rfl) ?_
 refine ay ?_
 refine xo rfl (fun _=>Cn (Xn (l:=st) AA) rfl rfl) ?_
 refine ay ?_
 refine xo rfl (fun _=>Cn (Xn (l:=tr) AA) rfl rfl) ?_
 refine ay ?_
 refine Cx.nil ⟨by kernel_rfl,?_⟩
 refine BO.done Wh (Fin.go (wk [2,1] rfl ?_))
 refine ap ?_
 refine Tr.drop 1 (Tr.ret (Fin.CV rfl (AO.cell 0 rfl rfl OA NY rfl Lr) ?_))
 · exact Lr
theorem Xo {m x:Int}  :BD prog 135 [int x,ref [int m]] (bool (SW m x)):=by
 refine fo func135 rfl ⟨rfl,rfl⟩ fun M0 w0=> ?_
 refine ac ?_
 refine ac ?_
 refine Ch.cs 6 rfl ?_ ?_<;>intro h1 q1
 refine ac ?_
 refine ac ?_
 · refine bool_eq ?_;unfold SW;simp_all
 refine ac ?_
 refine ac ?_
 · refine bool_eq ?_;unfold SW;simp_all;omega
theorem Xp:Entry Tryz.prog 135:=⟨_,Tryz.func135,rfl,rfl⟩
theorem I_ {m:Int} {l:List Int}  :BD prog 77 [int m,ints l] (bool (!JT m l)):=by
 refine fo func77 rfl ⟨rfl,rfl⟩ fun M0 w0=> ?_
 refine a2 ?_
 refine co rfl (AV rfl (JH (l:=l) (p:=SW m)) ⟨kq,⟨_,rfl,Gj Xp (fun x=>Xo (m:=m) (x:=x))⟩,trivial⟩) ?_
 refine a2 ?_
 · exact Lr
theorem Xq {l:List BX} {r:List BK} {d:List Int} {day:Int} {st tr:List Int} {sp:Bool} (hst:st.length≤1000000):BD prog 24 [agg (Lz l r d day st tr sp)] (ints (Dt st)):=by
 refine fo func24 rfl ⟨rfl,rfl⟩ fun M0 w0=> ?_
 refine a3 ?_
 refine Tr.block (Tr.B6 3 1 (Tr.ET _ (kk [8,7] rfl) (fun k v=>[(9,int ((k:Nat):Int)),(3,Ab v (ints (L1 st k)))]) (fun k v=>Hp M0 w0 FO ([As 3 1 v])) (fun k:Nat=>k≤(st).length) (fun k:Nat=>(st).length-k) 0 (.slice none 0 0) (Nat.zero_le _) ⟨kq,⟨_,rfl,Bl rfl⟩,trivial⟩ (fun _ _ h=>h) ?_))
 rintro k v BV
 refine ac ?_
 refine Tr.seq ?_
 refine Tr.cn rfl ?_ ?_<;>intro h1 q1
 have Ah:k<(st).length:=AH h1
 obtain ⟨x,Ai⟩:=at_ Ah
 have hsk:=Xm Ai
 have AHz:=Z5 st k
 refine a2 ?_
 refine co rfl (AD rfl underlying22 Bt vq vq AA (Aa Ai)) ?_
 refine ac ?_
 refine an ?_ ?_<;>intro h2 q2
 refine ap ?_
 refine TO.DQ 0 rfl rfl AB (B1 rfl rfl rfl rfl underlying51 Bt He z3 HA GG (Ax BN Ja)) (fun v1=> ?_)
 refine ap ?_
 refine wk [9,8,7,3] rfl ?_
 refine ac ?_
 exact Fin.DD (k+1) v1 (⟨Ah,by omega⟩) ⟨⟨_,rfl,AG k⟩,⟨_,rfl,BC (by rw [hsk,if_pos CG,List.map_append];rfl)⟩,kz⟩ (fun _ _ h=>h)
 refine a2 ?_
 exact Fin.DD (k+1) v (⟨Ah,by omega⟩) ⟨⟨_,rfl,AG k⟩,⟨_,rfl,BC (by rw [hsk,if_neg CG])⟩,kz⟩ (fun _ _ h=>h)
 have BP:k=(st).length:=by have:=AJ h1;omega
 subst BP
 refine a3 ?_
 · exact IP
theorem Tu {l:List BX} {r:List BK} {d:List Int} {day:Int} {st tr:List Int} {sp:Bool} (hst:st.length≤1000000):BZ prog 25 [agg (Lz l r d day st tr sp)] (int (if Z6 l.length r d day st tr=true then 0 else 49)) (Dw) (fun _=>Dw):=by
 refine BZ.of func25 rfl rfl Ao fun M0 w0 S rs M1 w1=> ?_
 refine a2 ?_
 refine ag ?_ ?_<;>intro h1 q1
 refine ac ?_
 refine wk [10,3,1] rfl ?_
 refine ac ?_
 refine Tr.ret (Fin.AR (Fin.AE (Fin.EB rfl rfl ?_ (fun _ _ _ _=>rfl))))
 · exact P3
 refine ag ?_ ?_<;>intro h2 q2
 refine ac ?_
 refine wk [10,3,1] rfl ?_
 refine ac ?_
 refine Tr.ret (Fin.AR (Fin.AE (Fin.EB rfl rfl ?_ (fun _ _ _ _=>rfl))))
 · exact P3
 refine ag ?_ ?_<;>intro h3 q3
 refine ac ?_
 refine wk [10,3,1] rfl ?_
 refine ac ?_
 refine Tr.ret (Fin.AR (Fin.AE (Fin.EB rfl rfl ?_ (fun _ _ _ _=>rfl))))
 · exact P3
 refine ac ?_
 refine wk [10,3,1] rfl ?_
 refine Tr.cn rfl ?_ ?_<;>intro h4 q4
 refine ac ?_
 refine Tr.ret (Fin.AR (Fin.AE (Fin.EB rfl rfl ?_ (fun _ _ _ _=>rfl))))
 · exact P3
 refine ac ?_
 refine co rfl (CK (I_ (m:=40000) (l:=d)) rfl rfl rfl) ?_
 refine ag ?_ ?_<;>intro h5 q5
 refine ac ?_
 refine wk [35,3,1] rfl ?_
 refine ac ?_
 refine Tr.ret (Fin.AR (Fin.AE (Fin.EB rfl rfl ?_ (fun _ _ _ _=>rfl))))
 · exact Pz
 refine ac ?_
 refine cy h5 rfl (AV rfl (I_ (m:=40000) (l:=[day])) ⟨kq,GG,trivial⟩) ?_
 refine ag ?_ ?_<;>intro h6 q6
 refine ac ?_
 refine wk [35,3,1] rfl ?_
 refine ac ?_
 refine Tr.ret (Fin.AR (Fin.AE (Fin.EB rfl rfl ?_ (fun _ _ _ _=>rfl))))
 · exact Pz
 refine ac ?_
 refine cy h6 rfl (CK (I_ (m:=3) (l:=st)) rfl rfl rfl) ?_
 refine ag ?_ ?_<;>intro h7 q7
 refine ac ?_
 refine wk [35,3,1] rfl ?_
 refine ac ?_
 refine Tr.ret (Fin.AR (Fin.AE (Fin.EB rfl rfl ?_ (fun _ _ _ _=>rfl))))
 · exact Pz
 refine ac ?_
 refine cy h7 rfl (CK (I_ (m:=4) (l:=tr)) rfl rfl rfl) ?_
 refine ac ?_
 refine wk [35,3,1] rfl ?_
 refine Tr.cn rfl ?_ ?_<;>intro h8 q8
 refine ac ?_
 refine Tr.ret (Fin.AR (Fin.AE (Fin.EB rfl rfl ?_ (fun _ _ _ _=>rfl))))
 · exact Pz
 refine ac ?_
 refine Tr.seq (Tr.seq (Tr.rx ?_))
 refine ay ?_
 refine xo rfl (fun _=>Cn (Xq hst) rfl rfl) ?_
 refine Cx.ef 0 rfl rfl AB (An rfl rfl AB rfl (Zh (n:=((l.length:Nat):Int)) (l:=r) (s:=Dt st)) ⟨kq,kz⟩) ?_
 refine ay ?_
 refine Cx.nil ⟨by kernel_rfl,?_⟩
 refine BO.done Wh (Fin.go (wk [5,4] rfl ?_))
 refine ag ?_ ?_<;>intro h9 q9
 refine a2 ?_
 refine Tr.ret (Fin.AE (Fin.EB rfl rfl ?_ (fun _ _ _ _=>rfl)))
 · exact P3
 refine an ?_ ?_<;>intro h10 Q4
 refine ac ?_
 refine Tr.ret (Fin.AE (Fin.EB rfl rfl ?_ (fun _ _ _ _=>rfl)))
 · exact Pz
 refine a2 ?_
 refine Tr.ret (Fin.EB rfl rfl ?_ (fun _ _ _ _=>rfl))
 · exact int_eq (if_pos (P0.2 (by refine ⟨⟨⟨?_,?_⟩,?_,?_⟩,⟨⟨?_,?_⟩,?_,?_⟩,?_,?_⟩<;>first|omega|(simp_all;done)))).symm
def newE (l:List BX) (r:List BK) (d:List Int) (day:Int):Int:=if 0≤day∧day≤40000 then (if Z6 l.length r d day (List.replicate l.length 0) (List.replicate l.length 0)=true then 0 else 49) else 2
def newP (l:List BX) (r:List BK) (d:List Int) (day:Int):List Pr:=if newE l r d day=0 then Lz l r d day (List.replicate l.length 0) (List.replicate l.length 0) false else Lz [] [] [] 0 [] [] false
theorem aN:Pr.le (agg [is (.slice none 0 0),is (.slice none 0 0),is (.slice none 0 0),int 0,is (.slice none 0 0),is (.slice none 0 0),Cp.bool false]) (agg (Lz [] [] [] 0 [] [] false)):=BT ⟨AP 8,AP 2,AP 1,Pr.le_refl _,AP 1,AP 1,Pr.le_refl _,trivial⟩
theorem jX {l:List BX} {r:List BK} {d:List Int} {day e:Int} (h:newE l r d day=e) (he:e≠0):newP l r d day=Lz [] [] [] 0 [] [] false:=if_neg KR
theorem aM {l:List BX} {r:List BK} {d:List Int} {day:Int} (h:¬(0≤day∧day≤40000)):newE l r d day=2:=if_neg h
theorem zJ {l:List BX} {r:List BK} {d:List Int} {day:Int} (h:0≤day∧day≤40000) (hk:¬Z6 l.length r d day (List.replicate l.length 0) (List.replicate l.length 0)=true):newE l r d day=49:=by unfold newE;rw [if_pos h,if_neg hk]
theorem p_ {l:List BX} {r:List BK} {d:List Int} {day:Int} (h:0≤day∧day≤40000) (hk:Z6 l.length r d day (List.replicate l.length 0) (List.replicate l.length 0)=true):newE l r d day=0∧newP l r d day=Lz l r d day (List.replicate l.length 0) (List.replicate l.length 0) false:=by
 have h0:newE l r d day=0:=by unfold newE;rw [if_pos h,if_pos hk]
 exact ⟨h0,if_pos h0⟩
theorem eB {n:Nat} {m:Int} (h:0≤m):JT m (List.replicate n 0)=false:=by
 unfold JT
 rw [List.any_eq_false]
 intro x hx
 rw [List.eq_of_mem_replicate hx]
 unfold SW
 simpa using h
theorem Rt.in_ {m:Nat} {l:List BX} {r:List BK} {d:List Int} (h:Rt m l r d):JT 40000 d=false:=by
 unfold JT
 rw [List.any_eq_false]
 intro x hx
 obtain ⟨j,hj⟩:=List.mem_iff_getElem?.1 hx
 have hjl:=BI hj
 rw [h.dl] at hjl
 obtain ⟨c,hc⟩:=at_ hjl
 have:=(h.dd j x c hjl hj hc).1
 unfold SW
 rw [decide_eq_true_eq];omega
theorem set_nil (n:Int):De n []=true:=rfl
theorem Rt.new {m:Nat} {l:List BX} {r:List BK} {d:List Int} {day:Int} (h:Rt m l r d) (hd:0≤day∧day≤40000):newE l r d day=0∧newP l r d day=Lz l r d day (List.replicate l.length 0) (List.replicate l.length 0) false:=by
 refine p_ hd ?_
 obtain ⟨h1,h2⟩:=wA (n:=((l.length:Nat):Int)) (s:=[]) h.v (set_nil _)
 unfold Z6
 rw [Ob,decide_eq_true_eq,h1,h2]
 exact ⟨⟨⟨h.l24,h.dl⟩,List.length_replicate,List.length_replicate⟩,⟨⟨h.in_,by unfold SW;rw [decide_eq_false_iff_not];omega⟩,eB AB,eB AB⟩,rfl,Ci.2 fun q _ hq=>by cases hq⟩
theorem eC:newE [] [] [] 3=0∧newP [] [] [] 3=Lz [] [] [] 3 [] [] false:=p_ AB AB
theorem Vk {l:List BX} {r:List BK} {d:List Int} {day:Int} (IW:∀x∈l,x.C2.small) (hl:l.length≤1000000) (hr:r.length≤1000000) (hd:d.length≤1000000):BZ prog 26 [agg [Dm l,reqs r,ints d],int day] (EA [agg (newP l r d day),int (newE l r d day)]) (Dw) (fun _=>Dw):=by
 refine BZ.of func26 rfl rfl Ao fun M0 w0 S rs M1 w1=> ?_
 refine Tr.seq (Tr.Ap (tp rfl (Bn rfl C1) ?_))
 refine Tl rfl rfl rfl rfl z42 SE (fun b1=> ?_)
 refine ap ?_
 refine ag ?_ ?_<;>intro h1 q1
 refine ac ?_
 refine Tr.cond rfl (fun _=> ?_) (fun h=>nomatch h)
 refine Tr.seq (Tr.Ap (tp rfl (Al (rows:=[]) rfl qj SE trivial rfl) (TO.AK 0 rfl rfl rfl vq C1 rfl NY rfl rfl (tm rfl (TO.nil (Fin.go (Tr.ret (Fin.AE (Fin.bQ [_] rfl (AO.cell 0 rfl rfl OA NY rfl Lr) (AO.tmp rfl Lr) ?_)))))))))
 refine A_ ⟨?_,?_,trivial⟩
 · exact aL
 · exact int_eq (aM (l:=l) (r:=r) (d:=d) (day:=day) AA).symm
 refine an ?_ ?_<;>intro h2 q2
 refine ap ?_
 refine Tr.ret (Fin.AE (Fin.bQ [_] rfl (AO.cell 0 rfl rfl OA NY rfl Lr) (AO.tmp rfl Lr) ?_))
 refine A_ ⟨?_,?_,trivial⟩
 · exact aL
 · exact int_eq (aM (l:=l) (r:=r) (d:=d) (day:=day) AA).symm
 have hdy:0≤day∧day≤40000:=by simp_all
 refine a2 ?_
 refine wk [6,4,2,1] rfl (Tr.seq (Tr.pad (Tr.rx ?_)))
 refine ax ?_
 refine xo rfl (fun _=>Mo (m:=l.length) rfl underlying22 Bt He z3 rfl AB AB vq vq Fu AA) ?_
 refine xm rfl ?_
 refine xo rfl (fun _=>Mo (m:=l.length) rfl underlying22 Bt He z3 rfl AB AB vq vq Fu AA) ?_
 refine xo rfl (fun _=>Al (rows:=[(0,_),(1,[_]),(2,[_]),(3,[_])]) rfl qj SE ⟨⟨rfl,C1⟩,⟨⟨rfl,OJ⟩,⟨⟨rfl,⟨_,rfl,Pr.le_trans (Pr.le_trans (B0 _ _) (Pr.le_of_eq (show _=slice 1 ((List.replicate l.length (0:Int)).map fun n=>[int n]) by rw [List.map_replicate];rfl))) (Af _)⟩⟩,⟨⟨rfl,⟨_,rfl,Pr.le_trans (Pr.le_trans (B0 _ _) (Pr.le_of_eq (show _=slice 1 ((List.replicate l.length (0:Int)).map fun n=>[int n]) by rw [List.map_replicate];rfl))) (Af _)⟩⟩,trivial⟩⟩⟩⟩ rfl) ?_
 refine xo rfl (fun _=>Cn (pz (l:=l) (r:=r) (d:=d) (day:=day) (st:=(List.replicate l.length (0:Int))) (tr:=(List.replicate l.length (0:Int))) (sp:=false) IW hl hr hd O4 O4) rfl rfl) ?_
 refine Cx.ef 0 rfl rfl AB (CW rfl rfl AB rfl z42 SE) (Cx.Dv 0 rfl rfl (DF rfl rfl rfl rfl C1 NY rfl rfl) ?_)
 refine Cx.nil ⟨by kernel_rfl,?_⟩
 refine BO.open_ 0 7 rfl rfl (fun v1=> ?_)
 refine BO.done al4 (Fin.M_ 7 0 _ rfl rfl (fun _=>rfl) (fun b2=> ?_))
 refine Fin.go (wk [7,4] rfl ?_)
 refine ap ?_
 refine TO.HJ 2 rfl rfl AB (An rfl rfl AB rfl (Tu (l:=l) (r:=r) (d:=d) (day:=day) (st:=(List.replicate l.length (0:Int))) (tr:=(List.replicate l.length (0:Int))) (sp:=false) O4) kz) ?_
 refine ap ?_
 refine an ?_ ?_<;>intro h3 q3
 have h49:newE l r d day=49:=zJ hdy KS
 refine ap ?_
 refine Tr.drop 0 (Tr.ret (Fin.AE (Fin.bQ [_] rfl (AO.cell 0 rfl rfl OA NY rfl Lr) (AO.tmp rfl Lr) ?_)))
 refine A_ ⟨?_,?_,trivial⟩
 · rw [jX h49 AB];exact aN
 · refine int_eq ?_;rw [h49];simp_all
 have h0:=p_ (l:=l) (r:=r) (d:=d) hdy KS
 refine ac ?_
 refine ap ?_
 refine Tr.drop 0 (Tr.ret (Fin.bQ [_] rfl (AO.cell 0 rfl rfl OA NY rfl Lr) (AO.tmp rfl Lr) ?_))
 refine A_ ⟨?_,?_,trivial⟩
 · rw [h0.2];exact Lr
 · exact int_eq h0.1.symm
theorem qA {x:Int}  :BD prog 85 [int x] (bool (decide (x≠1))):=by
 refine fo func85 rfl ⟨rfl,rfl⟩ fun M0 w0=> ?_
 refine a3 ?_
 · refine bool_eq ?_;by_cases h_:x=1<;>simp [h_]
theorem qB:Entry Tryz.prog 85:=⟨_,Tryz.func85,rfl,rfl⟩
theorem Vl {l:List BX} {r:List BK} {d:List Int} {day:Int} {st tr:List Int} {sp:Bool}  :BD prog 32 [agg (Lz l r d day st tr sp)] (bool (!(st.any fun x=>decide (x≠1)))):=by
 refine fo func32 rfl ⟨rfl,rfl⟩ fun M0 w0=> ?_
 refine a2 ?_
 refine co rfl (AV rfl (JH (l:=st) (p:=fun x=>decide (x≠1))) ⟨kq,⟨_,rfl,Gj qB (fun x=>qA (x:=x))⟩,trivial⟩) ?_
 refine a2 ?_
 · exact Lr
theorem Rz   :BZ prog 11 [] (bool true) (Dw) (fun _=>Dw):=by
 refine BZ.of func11 rfl rfl Ao fun M0 w0 S rs M1 w1=> ?_
 refine Tr.seq (Tr.Aj (cm rfl (Ch.nil (Fin.go (Tr.seq (Tr.Ap (tp rfl (Al (rows:=[]) rfl LS E3 trivial rfl) ?_)))))))
 refine TO.HJ 0 rfl rfl AB (An rfl rfl AB rfl (Vk (l:=[]) (r:=[]) (d:=[]) (day:=3) (fun x h=>by cases h) AB AB AB) ⟨⟨_,rfl,BT (ps:=[is (.slice none 0 0),is (.slice none 0 0),is (.slice none 0 0)]) ⟨AP 8,AP 2,AP 1,trivial⟩⟩,ke rfl,trivial⟩) ?_
 refine tm rfl (tp rfl (BB rfl (vl rfl) rfl) (TO.re 8 _ rfl (Pr.le_of_eq (congrArg agg eC.2)) (tp rfl (BB rfl (vl rfl) rfl) (TO.re 9 _ rfl (int_eq eC.1) ?_))))
 refine Tl rfl rfl rfl rfl z42 SE (fun b1=> ?_)
 refine TO.AK 0 rfl rfl rfl (vl rfl) (Va rfl) rfl NY rfl rfl (TO.freeze 0 1 rfl rfl (tm rfl (TO.nil (Fin.go (Tr.seq (Tr.Ap (tp rfl (Al (rows:=[]) rfl LS E3 trivial rfl) ?_)))))))
 refine TO.HJ 0 rfl rfl AB (An rfl rfl AB rfl (Vk (l:=[]) (r:=[]) (d:=[]) (day:= -1) (fun x h=>by cases h) AB AB AB) ⟨⟨_,rfl,BT (ps:=[is (.slice none 0 0),is (.slice none 0 0),is (.slice none 0 0)]) ⟨AP 8,AP 2,AP 1,trivial⟩⟩,ke rfl,trivial⟩) ?_
 refine tm rfl (tp rfl (BB rfl (vl rfl) rfl) (tp rfl (BB rfl (vl rfl) rfl) (TO.re 14 _ rfl (int_eq (aM AB)) ?_)))
 refine Tl rfl rfl rfl rfl z42 SE (fun b2=> ?_)
 refine TO.AK 0 rfl rfl rfl (vl rfl) (Va rfl) rfl NY rfl rfl (TO.freeze 0 3 rfl rfl (tm rfl (TO.nil (Fin.go (GM 1 2 4 rfl (Tr.seq (Tr.Ap (tm rfl (tp rfl (ki rfl rfl rfl rfl) (tm rfl ?_))))))))))
 refine TO.cases 17 rfl (fun h1=> ?_) (fun h1=> ?_)
 have q1:=C3.DZ h1
 refine TO.Fh rfl rfl rfl h1 rfl AB (BM rfl (vl rfl)) (TO.Fh rfl rfl rfl h1 rfl AB (ki rfl rfl rfl rfl) (tp rfl (JD rfl rfl h1 rfl) (tm rfl ?_)))
 refine TO.cases 21 rfl (fun h2=> ?_) (fun h2=> ?_)
 have q2:=C3.DZ h2
 refine TO.Fh rfl rfl rfl h2 rfl AB (Ss rfl kC rfl rfl) (TO.Fh rfl rfl rfl h2 rfl AB (GU rfl Cj rfl) (TO.Fh rfl rfl rfl h2 rfl AB (ki rfl rfl rfl rfl) (tp rfl (JD rfl rfl h2 rfl) (tm rfl ?_))))
 refine TO.cases 26 rfl (fun h3=> ?_) (fun h3=> ?_)
 have q3:=C3.DZ h3
 refine TO.Fh rfl rfl rfl h3 rfl AB (AQ rfl OA NY (vl rfl) rfl rfl) ?_
 refine TO.Fh rfl rfl rfl h3 rfl AB (AV rfl (Vl (l:=[]) (r:=[]) (d:=[]) (day:=3) (st:=[]) (tr:=[]) (sp:=false)) ⟨ke rfl,trivial⟩) ?_
 refine tp rfl (JD rfl rfl h3 rfl) (tm rfl ?_)
 refine TO.cases 30 rfl (fun h4=> ?_) (fun h4=> ?_)
 have q4:=C3.DZ h4
 refine TO.Fh rfl rfl rfl h4 rfl AB (Al (rows:=[(1,[_])]) rfl qj SE ⟨⟨rfl,(Vo rfl)⟩,trivial⟩ rfl) ?_
 refine TO.Wf 0 rfl rfl rfl h4 rfl rfl AB (An rfl rfl AB rfl (Tu (l:=[]) (r:=[]) (d:=[]) (day:= -1) (st:=[]) (tr:=[]) (sp:=false) AB) ⟨⟨_,rfl,BT (ps:=[is (.slice none 0 0),is (.slice none 0 0),is (.slice none 0 0),int (-1),is (.slice none 0 0),is (.slice none 0 0),Cp.bool false]) ⟨AP 8,AP 2,AP 1,Lr,AP 1,AP 1,Lr,trivial⟩⟩,trivial⟩) ?_
 refine TO.Fh rfl rfl rfl h4 rfl AB (ki rfl rfl rfl rfl) (tp rfl (JD rfl rfl h4 rfl) (tm rfl (TO.nil (Fin.go (L2 0 rfl (Tr.ret (Fin.EB rfl rfl ?_ (fun _ _ _ _=>rfl))))))))
 · exact bool_eq AB
 have q4:=C3.DZ h4
 exact absurd h4 AB
 have q3:=C3.DZ h3
 exact absurd h3 AB
 have q2:=C3.DZ h2
 exact absurd h2 AB
 have q1:=C3.DZ h1
 exact absurd h1 AB
theorem Z7 {n:Nat} {l:List (Oa n)} {p:Oa n→Bool} (hno:∀x∈l,p x=false):BD prog 118 [ur l,eK prog (fun x:Oa n=>[int x.1]) (fun x=>bool (p x))] (ur l):=by
 refine fo func118 rfl ⟨rfl,rfl⟩ fun M0 w0=> ?_
 refine ac ?_
 refine ac ?_
 refine co rfl (CK (I9 (l:=l) (p:=p)) rfl rfl rfl) ?_
 refine ac ?_
 refine ac ?_
 refine Tr.cn rfl ?_ ?_<;>intro h1 q1
 refine ac ?_
 refine ac ?_
 · exact Lr
 exfalso;have h_:=E5 (p:=p) (l:=l) (fun j y _ hy=>hno y (List.mem_of_getElem? hy));rw [←h_] at h1;simp at h1
theorem qC {l:List Int} {v:Int}  :BD prog 134 [ints l,int v] (int (idx (fun x=>v==x) l)):=by
 refine fo func134 rfl ⟨rfl,rfl⟩ fun M0 w0=>(Tr.C6 0 rfl fun Eu=> ?_)
 refine a2 ?_
 refine Tr.block (Tr.BA _ (kk [7,1,0] rfl) (fun k:Nat=>[(8,int ((k:Nat):Int))]) (fun k:Nat=>k≤(l).length∧(∀j y,j<k→l[j]? =some y→(v==y)=false)) (fun k:Nat=>(l).length-k) 0 (⟨Nat.zero_le _,fun j y hj=>absurd hj AA⟩) kz ?_)
 rintro k ⟨BV,AY⟩
 refine ac ?_
 refine Tr.seq ?_
 refine Tr.cn rfl ?_ ?_<;>intro h1 q1
 have Ah:k<(l).length:=AH h1
 obtain ⟨x,Ai⟩:=at_ Ah
 · repeat' first|exact int_eq (EP (p:=fun x=>v==x) Ai Bg AY)|exact Fin.AL (k+1) ⟨⟨Ah,DP (p:=fun x=>v==x) Ai Bg AY⟩,by omega⟩ ⟨⟨_,rfl,AG k⟩,kz⟩|refine co rfl (AD rfl underlying51 Bt vq vq AA CF) ?_|refine ac ?_|(refine Tr.cn rfl ?_ ?_<;>intro h q)
 have BP:k=(l).length:=by have:=AJ h1;omega
 subst BP
 refine a3 ?_
 · exact int_eq (E5 AY)
def SX (o l:List Int):Int:=(o.find? fun i=>l.contains i).getD 0
def Ot (o l:List Int):Bool:=(o.find? fun i=>l.contains i).isSome
theorem eD {o l:List Int} {k:Nat} {x:Int} (hx:o[k]? =some x) (hb:∀j y,j<k→o[j]? =some y→l.contains y=false) (h:l.contains x=true):SX o l=x∧Ot o l=true:=by
 have hf:o.find? (fun i=>l.contains i)=some x:=by
  rw [List.find?_eq_some_iff_getElem]
  obtain ⟨hk,he⟩:=List.getElem?_eq_some_iff.1 hx
  refine ⟨h,k,hk,he,fun j hj=> ?_⟩
  have:=hb j _ hj (List.getElem?_eq_getElem AA)
  simpa using this
 unfold SX Ot
 rw [hf];exact ⟨rfl,rfl⟩
theorem qD {o l:List Int} (hb:∀j y,j<o.length→o[j]? =some y→l.contains y=false):SX o l=0∧Ot o l=false:=by
 have hf:o.find? (fun i=>l.contains i)=none:=by
  rw [List.find?_eq_none]
  intro y hy
  obtain ⟨j,hj,rfl⟩:=List.mem_iff_getElem.1 hy
  rw [hb j _ hj (List.getElem?_eq_getElem hj)];decide
 unfold SX Ot
 rw [hf];exact ⟨rfl,rfl⟩
def Z8 (r:List BK) (i:Int):Bool:=r.all fun x=>decide (x.thn≠i)
def Z9 (d:List Int) (r:List BK) (n i:Int):Bool:=decide (d.getD i.toNat 0≤n)&&Z8 r i
theorem qE {r:List BK} {d:List Int} {n i:Int} (hv:BH (d.length:Nat) r=0) (hi:0≤i∧i<(d.length:Int)):(Fv r d [] n).contains i=Z9 d r n i:=by
 have hb:=(Cu hv).2.1
 rw [Bool.eq_iff_iff,List.contains_iff_mem]
 unfold Fv Z9 Z8
 rw [((Gb.nil d.length r).due hv).2,List.mem_filter,Bool.and_eq_true,decide_eq_true_eq,List.all_eq_true]
 have h1:(!decide (d.getD i.toNat 0>n))=true↔d.getD i.toNat 0≤n:=by rw [Bool.not_eq_true',decide_eq_false_iff_not];omega
 rw [h1,and_comm]
 refine and_congr_right fun _=> ?_
 constructor
 ·
  intro hm x hx
  have h3:=(Vj hm).2.2
  rw [decide_eq_true_eq]
  intro he
  have h4:=Ci.1 h3 x hx (Cm.2 (.inl he))
  rcases Cm.1 h4 with h5|h5
  ·
   have h6:=hb x hx
   unfold FC at h6
   simp_all
  · cases h5
 ·
  intro h
  unfold EX
  refine List.mem_map.2 ⟨i.toNat,List.mem_filter.2 ⟨List.mem_range.2 AA,?_⟩,by omega⟩
  unfold K3
  rw [Bool.and_eq_true]
  have he:((i.toNat:Nat):Int)=i:=by omega
  rw [he]
  refine ⟨rfl,Ci.2 fun x hx hm=> ?_⟩
  have:=h x hx
  rw [decide_eq_true_eq] at this
  rcases Cm.1 hm with h5|h5
  · exact absurd h5 this
  · cases h5
def SY (o:List Int) (P:Int→Bool) (k:Nat):Int:=((o.take k).find? P).getD (-1)
theorem iO {o:List Int} {P:Int→Bool} {k:Nat} {x:Int} (hx:o[k]? =some x) (hp:∀x∈o,0≤x):SY o P (k+1)=if P x=true∧SY o P k<0 then x else SY o P k:=by
 unfold SY
 rw [List.take_add_one,hx,List.find?_append]
 cases hf:(o.take k).find? P with
 |some y=>
  have:=hp y (List.mem_of_mem_take (List.mem_of_find?_eq_some hf))
  simp only [Option.some_or,Option.getD_some]
  rw [if_neg AA]
 |none=>
  simp only [Option.none_or,Option.getD_none,Option.toList_some,List.find?_cons,List.find?_nil]
  cases hP:P x<;>simp
theorem uw {o l:List Int} {P:Int→Bool} (hp:∀x∈o,0≤x) (h:∀x∈o,l.contains x=P x):Ot o l=decide (SY o P o.length≥0)∧(Ot o l=true→SX o l=SY o P o.length)∧(Ot o l=false→SX o l=0):=by
 have hc:o.find? (fun i=>l.contains i)=o.find? P:=by
  clear hp
  induction o with
  |nil=>rfl
  |cons a o ih=>rw [List.find?_cons,List.find?_cons,h a (List.mem_cons_self ..),ih fun x hx=>h x (List.mem_cons_of_mem _ hx)]
 unfold Ot SX SY
 rw [hc,List.take_length]
 cases hf:o.find? P with
 |none=>simp
 |some y=>
  have:=hp y (List.mem_of_find?_eq_some hf)
  simp [this]
theorem Vm (l:List Int) (v:Int):(l.any fun x=>v==x)=l.contains v:=by rw [List.contains_eq_any_beq]
theorem My {d:List Int}:∀x∈FN d,0≤x∧x<(d.length:Int):=fun x hx=>Rw x ((Vi d).2.mem_iff.1 hx)
theorem Xr (d:List Int):(FN d).length=d.length:=by rw [(Vi d).2.length_eq,GL]
theorem eE {n:Nat} {l:List (Oa n)} {L:List Int} (h:l.map (·.1)=L):ur l=ints L:=by
 show slice 1 (l.map I8)=slice 1 (L.map fun n=>[int n])
 rw [←h,pU]
theorem Xs {l:List Int} {v:Int}  :BD prog 75 [ints l,int v] (bool (l.contains v)):=by
 refine fo func75 rfl ⟨rfl,rfl⟩ fun M0 w0=> ?_
 refine a2 ?_
 refine co rfl (CK (qC) rfl rfl rfl) ?_
 refine a2 ?_
 · refine bool_eq ?_;rw [←Vm];exact PJ _ l
theorem qF {l:List BX} {r:List BK} {d:List Int} {day:Int} {st tr:List Int} {sp:Bool} (x:Oa tr.length)  :BD prog 139 [int x.1,ref (Lz l r d day st tr sp)] (bool (decide (tr.getD x.1.toNat 0≥4))):=by
 refine fo func139 rfl ⟨rfl,rfl⟩ fun M0 w0=> ?_
 have hxp:=x.2
 have htx:=Es (l:=tr) (i:=x.1.toNat) AA
 refine a2 ?_
 refine co rfl (AD rfl underlying22 Bt vq vq AA (Bc htx)) ?_
 refine a2 ?_
 · exact Lr
theorem qG:Entry Tryz.prog 139:=⟨_,Tryz.func139,rfl,rfl⟩
theorem qH {l:List BX} {r:List BK} {d:List Int} {day:Int} {st tr:List Int} {sp:Bool} (hst:st.length≤1000000) (htd:tr.length=d.length) (ht4:∀x∈tr,x<4):BZ prog 79 [agg (Lz l r d day st tr sp)] (ints (Fv r d (Dt st) day)) (Dw) (fun _=>Dw):=by
 refine BZ.of func79 rfl rfl Ao fun M0 w0 S rs M1 w1=> ?_
 obtain ⟨lz,hlz⟩:=toZ (n:=tr.length) (L:=Fv r d (Dt st) day) (fun x hx=>by have:=d_ x (List.mem_filter.1 hx).1;omega)
 refine ac ?_
 refine Tr.seq (Tr.rx ?_)
 refine ay ?_
 refine xo rfl (fun _=>Cn (Xq hst) rfl rfl) ?_
 refine ay ?_
 refine Cx.ef 0 rfl rfl AB (An rfl rfl AB rfl (zH (l:=l) (r:=r) (d:=d) (s:=Dt st) (day:=day)) ⟨kq,kz⟩) ?_
 refine ay ?_
 refine Cx.nil ⟨by kernel_rfl,?_⟩
 refine BO.done Wh (Fin.go (wk [3,1] rfl ?_))
 refine ac ?_
 refine co rfl (AV rfl (Z7 (l:=lz) (p:=(fun x:Oa tr.length=>decide (tr.getD x.1.toNat 0≥4))) (fun x _=>by have hxp:=x.2;have h_:=ht4 _ (List.mem_of_getElem? (Es (l:=tr) (i:=x.1.toNat) AA));rw [decide_eq_false_iff_not];omega)) ⟨⟨_,rfl,Pr.le_of_eq (eE hlz).symm⟩,⟨_,rfl,Gj qG (fun x=>qF x)⟩,trivial⟩) ?_
 refine ac ?_
 refine Tr.ret (Fin.EB rfl rfl ?_ (fun _ _ _ _=>rfl))
 · exact Pr.le_of_eq (eE hlz)
theorem iP {l:List BX} {r:List BK} {d:List Int} {day:Int} {st tr:List Int} (hst:st.length≤1000000) (htd:tr.length=d.length) (ht4:∀x∈tr,x<4) (hd:d.length≤19):BZ prog 27 [agg (Lz l r d day st tr false)] (EA [int (SX (FN d) (Fv r d (Dt st) day)),bool (Ot (FN d) (Fv r d (Dt st) day))]) (Dw) (fun _=>Dw):=by
 refine BZ.of func27 rfl rfl Ao fun M0 w0 S rs M1 w1=> ?_
 have i6:=Xr d
 refine ac ?_
 refine an ?_ ?_<;>intro h1 q1
 exact absurd h1 AB
 refine ac ?_
 refine ap ?_
 refine TO.HJ 0 rfl rfl AB (An rfl rfl AB rfl (qH hst htd ht4) kz) ?_
 refine ap ?_
 refine ac ?_
 refine co rfl (Cn (pT hd) rfl rfl) ?_
 refine ac ?_
 refine Tr.block (Tr.BA _ (kk [14,13,4] rfl) (fun k:Nat=>[(15,int ((k:Nat):Int))]) (fun k:Nat=>k≤((FN d)).length∧(∀j y,j<k→(FN d)[j]? =some y→(Fv r d (Dt st) day).contains y=false)) (fun k:Nat=>((FN d)).length-k) 0 (⟨Nat.zero_le _,fun j y hj=>absurd hj AA⟩) kz ?_)
 rintro k ⟨BV,AY⟩
 refine ac ?_
 refine Tr.seq ?_
 refine Tr.cn rfl ?_ ?_<;>intro h2 q2
 have Ah:k<((FN d)).length:=AH h2
 obtain ⟨x,Ai⟩:=at_ Ah
 refine ac ?_
 refine Tr.seq (Tr.block (Tr.seq (Tr.Aj (co rfl (AD rfl underlying22 Bt vq vq AA (Aa Ai)) ?_))))
 refine a2 ?_
 refine co rfl (CK (Xs) rfl rfl rfl) ?_
 refine an ?_ ?_<;>intro h3 q3
 refine ac ?_
 refine wk [3,2] rfl (Tr.ret (Fin.AR (Fin.AE (Fin.AE (Fin.AR (Fin.AE (Fin.FF rfl rfl ?_ rfl ?_)))))))
 · refine int_eq ?_;exact (eD Ai AY CG).1.symm
 · refine bool_eq ?_;exact (eD Ai AY CG).2.symm
 refine a2 ?_
 exact Fin.AL (k+1) ⟨⟨Ah,DP (p:=fun y=>(Fv r d (Dt st) day).contains y) Ai CG AY⟩,by omega⟩ ⟨⟨_,rfl,AG k⟩,kz⟩
 have BP:k=((FN d)).length:=by have:=AJ h2;omega
 subst BP
 refine a2 ?_
 refine Tr.ret (Fin.FF rfl rfl ?_ rfl ?_)
 · refine int_eq ?_;exact (qD AY).1.symm
 · refine bool_eq ?_;exact (qD AY).2.symm
theorem wJ {R:Int→Int→Prop} (hn:∀a b,R a b→R b a→False):∀{a b:List Int},a.Pairwise R→b.Pairwise R→(∀x,x∈a↔x∈b)→a=b
 |[],[],_,_,_=>rfl
 |[],y::b,_,_,h=>by have:=(h y).2 (List.mem_cons_self ..);cases this
 |x::a,[],_,_,h=>by have:=(h x).1 (List.mem_cons_self ..);cases this
 |x::a,y::b,ha,hb,h=>by
  obtain ⟨ha1,ha2⟩:=List.pairwise_cons.1 ha
  obtain ⟨M9,R3⟩:=List.pairwise_cons.1 hb
  have hxy:x=y:=by
   rcases List.mem_cons.1 ((h x).1 (List.mem_cons_self ..)) with h1|h1
   · exact h1
   ·
    rcases List.mem_cons.1 ((h y).2 (List.mem_cons_self ..)) with h2|h2
    · exact h2.symm
    · exact (hn _ _ (M9 x h1) (ha1 y h2)).elim
  subst hxy
  rw [wJ hn ha2 R3 fun z=>⟨fun hz=> ?_,fun hz=> ?_⟩]
  ·
   rcases List.mem_cons.1 ((h z).1 (List.mem_cons_of_mem _ hz)) with rfl|h1
   · exact (hn _ _ (ha1 z hz) (ha1 z hz)).elim
   · exact h1
  ·
   rcases List.mem_cons.1 ((h z).2 (List.mem_cons_of_mem _ hz)) with rfl|h1
   · exact (hn _ _ (M9 z hz) (M9 z hz)).elim
   · exact h1
theorem wK {p:Int→Bool}:∀{o:List Int} {j:Nat},j≤o.length→(∀m y,m<j→o[m]? =some y→p y=true)→(∀y,o[j]? =some y→p y=false)→o.takeWhile p=o.take j∧o.dropWhile p=o.drop j
  | [], j, h, _, _ => by obtain rfl : j = 0 := by simpa using h
                         exact ⟨rfl,rfl⟩
  |a::o,0,_,_,h3=>by have:=h3 a rfl;simp [this]
  |a::o,j+1,h1,h2,h3=>by
    have h4:=h2 0 a AA rfl
    obtain ⟨h5,h6⟩:=wK (o:=o) (j:=j) IK (fun m y hm hy=>h2 (m+1) y AA hy) (fun y hy=>h3 y hy)
    simp [h4,h5,h6]
theorem ux {a b o:List Int} (h:a++b=o):o.take a.length=a∧o.drop a.length=b:=by subst h;simp
def Ou (d:List Int) (i y:Int):Bool:=decide (d.getD y.toNat 0≤d.getD i.toNat 0)
def SZ (d o:List Int) (i:Int):Nat:=(o.takeWhile (Ou d i)).length
def qI (d o:List Int) (i:Int):List Int:=o.take (SZ d o i)++[i]++o.drop (SZ d o i)
def K6 (d:List Int):Nat→List Int
 |0=>[]
 |k+1=>qI d (K6 d k) (k:Int)
theorem eF {d o:List Int} {i:Int} {j:Nat} (h:j≤o.length) (h1:∀m y,m<j→o[m]? =some y→Ou d i y=true) (h2:∀y,o[j]? =some y→Ou d i y=false):SZ d o i=j:=by
 unfold SZ
 rw [(wK h h1 h2).1,List.length_take];omega
theorem Vn (d:List Int):∀k:Nat,(K6 d k).Pairwise (Vh d)∧(∀x,x∈K6 d k↔0≤x∧x<(k:Int))∧(K6 d k).length=k
 |0=>⟨List.Pairwise.nil,fun x=>⟨fun h=>FR,fun h=>by omega⟩,rfl⟩
 |k+1=>by
  obtain ⟨h1,h2,h3⟩:=Vn d k
  generalize ho:K6 d k=o at h1 h2 h3
  obtain ⟨e1,e2⟩:=ux (List.takeWhile_append_dropWhile (p:=Ou d k) (l:=o))
  have e3:K6 d (k+1)=o.takeWhile (Ou d k)++[(k:Int)]++o.dropWhile (Ou d k):=by
   show qI d (K6 d k) k=_
   unfold qI SZ
   rw [ho,e1,e2]
  have ht:∀y∈o.takeWhile (Ou d k),Ou d k y=true:=by
   clear h1 h2 h3 ho e1 e2 e3
   induction o with
   |nil=>intro y h;cases h
   |cons a o ih=>
    intro y hy
    rw [List.takeWhile_cons] at hy
    split at hy
    ·
     rcases List.mem_cons.1 hy with rfl|hy
     · exact Bg
     · exact ih y hy
    · cases hy
  have hd:∀y∈o.dropWhile (Ou d k),Ou d k y=false:=by
   clear h2 h3 ho e1 e2 e3 ht
   induction o with
   |nil=>intro y h;cases h
   |cons a o ih=>
    obtain ⟨g1,g2⟩:=List.pairwise_cons.1 h1
    intro y hy
    rw [List.dropWhile_cons] at hy
    split at hy
    · exact ih g2 y hy
    ·
     rename_i hq
     rcases List.mem_cons.1 hy with rfl|hy
     · simpa using hq
     ·
      have g3:=g1 y hy
      unfold Vh at g3
      unfold Ou at hq ⊢
      rw [decide_eq_true_eq] at hq
      rw [decide_eq_false_iff_not];omega
  have hm:∀y,y∈o↔y∈o.takeWhile (Ou d k)∨y∈o.dropWhile (Ou d k):=fun y=>by
   rw [←List.mem_append,List.takeWhile_append_dropWhile]
  have hp:=h1
  rw [←List.takeWhile_append_dropWhile (p:=Ou d k) (l:=o),List.pairwise_append] at hp
  obtain ⟨p1,p2,p3⟩:=hp
  have hl:=congrArg List.length (List.takeWhile_append_dropWhile (p:=Ou d k) (l:=o))
  rw [List.length_append] at hl
  rw [e3]
  refine ⟨?_,fun x=> ?_,by simp only [List.length_append,List.length_cons,List.length_nil];omega⟩
  ·
   rw [List.pairwise_append,List.pairwise_append]
   refine ⟨⟨p1,List.pairwise_singleton _ _,fun a ha b hb=> ?_⟩,p2,fun a ha b hb=> ?_⟩
   ·
    rw [List.mem_singleton] at hb;subst hb
    have:=ht a ha
    have:=(h2 a).1 ((hm a).2 (.inl ha))
    unfold Ou at*
    unfold Vh
    rw [decide_eq_true_eq] at*
    omega
   ·
    rcases List.mem_append.1 ha with ha|ha
    · exact p3 a ha b hb
    ·
     rw [List.mem_singleton] at ha;subst ha
     have:=hd b hb
     unfold Ou at this
     unfold Vh
     rw [decide_eq_false_iff_not] at this
     omega
  ·
   have:=h2 x
   rw [List.mem_append,List.mem_append,List.mem_singleton]
   rw [hm] at this
   constructor
   ·
    rintro ((h|h)|h)
    · have:=this.1 (.inl h);omega
    · omega
    · have:=this.1 (.inr h);omega
   ·
    intro h
    by_cases hx:x=(k:Int)
    · exact .inl (.inr hx)
    ·
     rcases this.2 AA with h|h
     · exact .inl (.inl h)
     · exact .inr h
theorem uy (d:List Int):K6 d d.length=FN d:=by
 obtain ⟨h1,h2,_⟩:=Vn d d.length
 obtain ⟨h3,h4⟩:=Vi d
 refine wJ (fun a b g1 g2=>by unfold Vh at*;omega) h1 h3 fun x=> ?_
 rw [h2,h4.mem_iff]
 exact ⟨fun h=>by unfold HC;exact List.mem_map.2 ⟨x.toNat,List.mem_range.2 AA,by omega⟩,fun h=>Rw x h⟩
theorem uz (d o:List Int) (i:Int):SZ d o i≤o.length:=by
 have h:=congrArg List.length (List.takeWhile_append_dropWhile (p:=Ou d i) (l:=o))
 rw [List.length_append] at h
 unfold SZ;omega
theorem qJ {d o:List Int} {i:Int} {j:Nat} {x:Int} (hx:o[j]? =some x) (h:Ou d i x=true) (hi:∀m y,m<j→o[m]? =some y→Ou d i y=true):∀m y,m<j+1→o[m]? =some y→Ou d i y=true:=fun m y hm hy=>by
 rcases Nat.lt_or_ge m j with h1|h1
 · exact hi m y h1 hy
 ·
  obtain rfl:m=j:=by omega
  rw [hx] at hy;cases hy;exact h
theorem Z_ {l:List BX} {r:List BK} {d:List Int} (gh:d.length=l.length) (hl:l.length≤1000000):BD prog 28 [agg [Dm l,reqs r,ints d]] (ints (FN d)):=by
 refine fo func28 rfl ⟨rfl,rfl⟩ fun M0 w0=>(Tr.HB 0 0 rfl rfl fun HR=> ?_)
 refine a3 ?_
 refine Tr.block (Tr.B6 3 1 (Tr.ET _ (kk [9,1] rfl) (fun k v=>[(10,int ((k:Nat):Int)),(3,Ab v (ints (K6 d k)))]) (fun k v=>Hp M0 w0 FO ([As 3 1 v])) (fun k:Nat=>k≤(l).length) (fun k:Nat=>(l).length-k) 0 (.slice none 0 0) (Nat.zero_le _) ⟨kq,⟨_,rfl,Bl rfl⟩,trivial⟩ (fun _ _ h=>h) ?_))
 rintro k v BV
 refine ac ?_
 refine Tr.seq ?_
 refine Tr.cn rfl ?_ ?_<;>intro h1 q1
 have Ah:k<(l).length:=AH h1
 obtain ⟨x,Ai⟩:=at_ Ah
 have hkd:k<d.length:=by omega
 have hok:=Vn d k
 have i6:=hok.2.2
 have hdk:=Es hkd
 have hpl:=uz d (K6 d k) ((k:Nat):Int)
 refine a3 ?_
 refine wk [10,9,5,4,3,1] rfl (Tr.UQ [1,3,4,9,10] [(5,int ((SZ d (K6 d k) ((k:Nat):Int):Nat):Int))] (True) ?_ (fun h2=> ?_))
 refine Tr.block (Tr.BA _ (kk [10,9,4,3,1] rfl) (fun j:Nat=>[(5,int ((j:Nat):Int))]) (fun j:Nat=>j≤k∧(∀m y,m<j→(K6 d k)[m]? =some y→Ou d ((k:Nat):Int) y=true)) (fun j:Nat=>k-j) 0 (⟨Nat.zero_le _,fun m y hj=>absurd hj AA⟩) kz ?_)
 rintro j ⟨ADD,hinv⟩
 refine ac ?_
 refine co rfl (CH rfl underlying22 HA) ?_
 refine ag ?_ ?_<;>intro h3 q3
 obtain ⟨y,hy⟩:=at_ (l:=K6 d k) (k:=j) (by have:=q3;omega)
 have hyr:=(hok.2.1 y).1 (List.mem_of_getElem? hy)
 have hdy:=Es (l:=d) (i:=y.toNat) AA
 refine ac ?_
 refine cy h3 rfl (AD rfl underlying22 Bt HA vq AA (Aa hy)) (cy h3 rfl (GU rfl Cj rfl) (cy h3 rfl (AD rfl underlying22 Bt vq vq AA (Bc hdy)) ?_))
 refine ac ?_
 refine cy h3 rfl (AD rfl underlying22 Bt vq vq AA (Aa hdk)) ?_
 refine ac ?_
 refine wk [32,10,9,5,4,3,1] rfl ?_
 refine Tr.cn rfl ?_ ?_<;>intro h4 q4
 have hq:Ou d ((k:Nat):Int) y=true:=by unfold Ou;simpa using h4
 refine a2 ?_
 exact Fin.AL (j+1) ⟨⟨by omega,qJ hy hq hinv⟩,by omega⟩ ⟨⟨_,rfl,AG j⟩,kz⟩
 have hp:SZ d (K6 d k) ((k:Nat):Int)=j:=eF AA hinv (fun z hz=>by rw [hy] at hz;cases hz;unfold Ou;simpa using h4)
 refine Tr.exit (Fin.AW (Fin.AW (Fin.Au (Fin.AL () trivial ⟨⟨_,rfl,int_eq (by rw [hp])⟩,kz⟩))))
 have hp:SZ d (K6 d k) ((k:Nat):Int)=j:=eF AA hinv (fun y hy=>by have:=BI hy;have:=q3;omega)
 refine ac ?_
 refine wk [32,10,9,5,4,3,1] rfl (Tr.cond rfl (fun h=>nomatch h) (fun _=> ?_))
 refine Tr.exit (Fin.AW (Fin.AW (Fin.Au (Fin.AL () trivial ⟨⟨_,rfl,int_eq (by rw [hp])⟩,kz⟩))))
 refine ap ?_
 refine tp rfl (DM rfl underlying22 Bt HA vq AA B4) ?_
 refine TO.pad ?_
 refine TO.DQ 0 rfl rfl AB (D3 rfl rfl AB rfl underlying22 Bt He z3 rfl AB ⟨_,rfl,AP _⟩ vq IF IG (Bq BN ⟨_,rfl,C8 1⟩)) (fun v1=> ?_)
 refine ap ?_
 refine ap ?_
 refine TO.DQ 0 rfl rfl AB (B1 rfl rfl rfl rfl underlying22 Bt He z3 HA GG (Ax BN Ja)) (fun v2=> ?_)
 refine ap ?_
 refine wk [10,9,6,5,3,1] rfl ?_
 refine ap ?_
 refine tp rfl (DC rfl underlying22 Bt HA vq AA B4) ?_
 refine TO.DQ 0 rfl rfl AB (B1 rfl rfl rfl rfl underlying22 Bt He z3 HA vq (Ax BN Ja)) (fun v3=> ?_)
 refine ap ?_
 refine ac ?_
 refine Fin.Ik (Fin.drop 0 ?_)
 exact Fin.DD (k+1) v3 (⟨Ah,by omega⟩) ⟨⟨_,rfl,AG k⟩,⟨_,rfl,BC (by show _=(qI d (K6 d k) ((k:Nat):Int)).map fun n=>[int n];unfold qI;simp [List.map_take,List.map_drop])⟩,kz⟩ (fun _ _ h=>h)
 have BP:k=(l).length:=by have:=AJ h1;omega
 subst BP
 refine a3 ?_
 · refine Pr.le_trans (Aq _ _) (Pr.le_of_eq ?_);rw [←gh,uy]
theorem Tv {r:List BK} {m:Nat} {x:BK} {i:Int} (h:r[m]? =some x):Z8 (r.take (m+1)) i=(Z8 (r.take m) i&&decide (x.thn≠i)):=by
 unfold Z8;rw [List.take_add_one,h,List.all_append];simp
theorem qK {r:List BK} {d:List Int} {n:Int} {k:Nat} (hv:BH (d.length:Nat) r=0):Ot (FN d) (Fv r d (Dt (List.replicate k 0)) n)=decide (SY (FN d) (Z9 d r n) (FN d).length≥0)∧(Ot (FN d) (Fv r d (Dt (List.replicate k 0)) n)=true→SX (FN d) (Fv r d (Dt (List.replicate k 0)) n)=SY (FN d) (Z9 d r n) (FN d).length)∧(Ot (FN d) (Fv r d (Dt (List.replicate k 0)) n)=false→SX (FN d) (Fv r d (Dt (List.replicate k 0)) n)=0):=by
 rw [Ob]
 exact uw (fun x hx=>(My x hx).1) fun x hx=>qE hv (My x hx)
theorem Vp {t:List Int} {f:Int} (hf:0≤f∧f<256):BZ prog 4 [ints t,is (.int .u8 f)] (bool true) (Dw) (fun _=>Dw):=by
 refine BZ.of func4 rfl rfl Ao fun M0 w0 S rs M1 w1=> ?_
 have hft:0≤f.tmod 12∧f.tmod 12<12:=by rw [Int.tmod_eq_emod_of_nonneg hf.1];omega
 refine Tr.seq (Tr.Aj (cm rfl (Ch.nil (Fin.go (Tr.seq (Tr.seq (Tr.Aj (cm rfl (co rfl (AV rfl (sE) ⟨ke rfl,trivial⟩) (co rfl (HW rfl (vl rfl)) (Ch.nil (Fin.go ?_))))))))))))
 refine Tr.cn rfl ?_ ?_<;>intro h1 q1
 refine Tr.seq (Tr.Ap (TO.HJ 0 rfl rfl AB (An rfl rfl AB rfl (Rz) trivial) (tm rfl (TO.nil (Fin.go (Tr.ret (Fin.AE (Fin.EB rfl rfl ?_ (fun _ _ _ _=>rfl)))))))))
 · exact Lr
 have ht4:t.length≤400:=by simpa using h1
 have ht9:t.length≤1000000000:=by omega
 refine Tr.skip (Fin.go (Tr.seq (Tr.Ap (tm rfl (TO.pad ?_)))))
 refine TO.DQ 0 rfl rfl AB (IY rfl rfl AB rfl (xW (l:=t) ht9) ⟨ke rfl,trivial⟩) (fun v1=> ?_)
 refine TO.M_ 25 0 _ rfl rfl (fun _=>rfl) (fun b1=> ?_)
 refine tm rfl (TO.nil (Fin.go (Tr.seq (Tr.Ap (tm rfl (TO.HJ 0 rfl rfl AB (An rfl rfl AB rfl (y_) ⟨ke rfl,trivial⟩) ?_))))))
 refine TO.ex 28 rfl (fun z1=>TO.fact 28 rfl fun Eg=> ?_)
 refine tm rfl (tp rfl (BB rfl (vl rfl) rfl) (tp rfl (BB rfl (vl rfl) rfl) ?_))
 refine TO.ex 30 rfl (fun p1=>TO.fact 30 rfl fun R6=> ?_)
 refine tp rfl (BB rfl (vl rfl) rfl) ?_
 refine Tl rfl rfl rfl rfl z31 Hx (fun b2=> ?_)
 refine Tl rfl rfl rfl rfl z35 E3 (fun b3=> ?_)
 refine TO.AK 1 rfl rfl rfl (vl rfl) (Va rfl) rfl DR rfl rfl (TO.freeze 1 6 rfl rfl (TO.AK 0 rfl rfl rfl (vl rfl) (Va rfl) rfl CI rfl rfl (TO.freeze 0 7 rfl rfl (tm rfl (TO.nil (Fin.Sy 0 rfl (fun s1=> ?_)))))))
 refine Fin.go (UX 1 7 rfl (Tr.seq (Tr.Aj (cm rfl (co rfl (QL rfl (vl rfl) (vl rfl) AA) ?_)))))
 refine co rfl (V_ rfl underlying5 underlying3 (vl rfl) IJ) ?_
 refine cm rfl (Ch.nil (Fin.go (Tr.seq ?_)))
 have gh:=R6.fit.dl
 have h7:=R6.l7
 have hrl:=R6.rl
 have IW:∀x∈p1.1,x.C2.small:=fun x hx=>(R6.ok x hx).2
 have h1:p1.1.length≤1000000:=by omega
 have h2:p1.2.1.length≤1000000:=by omega
 have h3:p1.2.2.length≤1000000:=by omega
 have hzl:(List.replicate p1.1.length (0:Int)).length≤1000000:=by rw [List.length_replicate];omega
 obtain ⟨hn1,hn2⟩:=R6.fit.new (day:=f.tmod 12) AA
 have i6:=Xr p1.2.2
 have hv:BH ((p1.2.2.length:Nat):Int) p1.2.1=0:=by rw [gh];exact R6.fit.v
 obtain ⟨M9,R3,hb3⟩:=qK (n:=f.tmod 12) (k:=p1.1.length) hv
 refine Tr.Ap (tp rfl (AQ rfl Cs CI (vl rfl) rfl rfl) (tm rfl (TO.HJ 1 rfl rfl AB (An rfl rfl AB rfl (Vk IW h1 h2 h3) ⟨ke rfl,ke rfl,trivial⟩) (tm rfl (tp rfl (BB rfl (vl rfl) rfl) (TO.re 39 _ rfl (Pr.le_of_eq (congrArg agg hn2)) (tp rfl (BB rfl (vl rfl) rfl) (TO.re 40 _ rfl (int_eq hn1) ?_))))))))
 refine Tl rfl rfl rfl rfl z42 SE (fun b4=> ?_)
 refine TO.AK 0 rfl rfl rfl (vl rfl) (Va rfl) rfl NY rfl rfl (TO.freeze 0 10 rfl rfl (tm rfl (TO.nil (Fin.go (UY 7 9 10 11 rfl (Tr.seq (Tr.Ap (tp rfl (AQ rfl OA NY (vl rfl) rfl rfl) ?_))))))))
 refine TO.HJ 1 rfl rfl AB (An rfl rfl AB rfl (iP hzl (by rw [List.length_replicate,gh]) (fun x hx=>by rw [List.eq_of_mem_replicate hx];decide) AA) ⟨ke rfl,trivial⟩) ?_
 refine tm rfl (tp rfl (BB rfl (vl rfl) rfl) (tp rfl (BB rfl (vl rfl) rfl) (tm rfl (tm rfl (TO.nil (Fin.go (Tr.seq (Tr.seq (Tr.Aj (cm rfl (co rfl (ki rfl rfl rfl rfl) (Ch.nil (Fin.go ?_)))))))))))))
 refine Tr.cn rfl ?_ ?_<;>intro h2 q2
 exact absurd h2 AB
 refine Tr.skip (Fin.go (Tr.seq (Tr.Aj (cm rfl (Ch.nil (Fin.go (wk5 7 9 12 13 14 rfl (Tr.seq (Tr.seq (Tr.Aj (co rfl (AQ rfl Cs CI (vl rfl) rfl rfl) (co rfl (AV rfl (Z_ gh h1) ⟨ke rfl,trivial⟩) (co rfl (CH rfl underlying22 (vl rfl)) ?_)))))))))))))
 refine cm rfl (Ch.nil (Fin.go (Tr.block (Tr.BA [(7,_),(9,_),(12,_),(13,_),(49,_),(50,_)] (kk6 rfl) (fun k:Nat=>[(51,int ((k:Nat):Int)),(14,int (SY (FN p1.2.2) (Z9 p1.2.2 p1.2.1 (f.tmod 12)) k))]) (fun k:Nat=>k≤((FN p1.2.2)).length) (fun k:Nat=>((FN p1.2.2)).length-k) 0 (Nat.zero_le _) ⟨ke rfl,⟨_,rfl,int_eq rfl⟩,trivial⟩ ?_))))
 rintro k BV
 refine Tr.seq (Tr.Aj (co rfl (ki rfl rfl rfl rfl) (Ch.nil (Fin.go (Tr.seq ?_)))))
 refine Tr.cn rfl ?_ ?_<;>intro h3 q3
 have Ah:k<((FN p1.2.2)).length:=AH h3
 obtain ⟨x,Ai⟩:=at_ Ah
 have hxr:=My x (List.mem_of_getElem? Ai)
 have hdx:=Es (l:=p1.2.2) (i:=x.toNat) AA
 have hbk:=iO (P:=Z9 p1.2.2 p1.2.1 (f.tmod 12)) Ai (fun x hx=>(My x hx).1)
 refine Tr.skip (Fin.go (Tr.seq (Tr.block (Tr.seq (Tr.Aj (co rfl (AD rfl underlying22 Bt (vl rfl) (vl rfl) AA (Aa Ai)) (co rfl (GU rfl Cj rfl) (cm rfl (Ch.nil (Fin.go (Tr.seq (Tr.Aj (co rfl (Ss rfl Ud rfl rfl) ?_)))))))))))))
 refine co rfl (GU rfl Qb rfl) (cm rfl (co rfl (AD rfl underlying22 Bt (vl rfl) (vl rfl) AA (Bc hdx)) (co rfl (GU rfl Cj rfl) (cm rfl (co rfl (ki rfl rfl rfl rfl) (cm rfl (Ch.nil (Fin.go (Of 7 9 12 13 14 16 17 49 50 51 rfl (Tr.seq (Tr.seq (Tr.Aj (co rfl (Ss rfl j8 rfl rfl) ?_)))))))))))))
 refine co rfl (GU rfl vA rfl) (co rfl (CH rfl underlying33 (vl rfl)) (cm rfl (Ch.nil (Fin.go (WC 7 9 12 13 14 16 17 49 50 51 63 64 65 rfl (Tr.block (Tr.BA [(7,_),(9,_),(12,_),(13,_),(14,_),(16,_),(49,_),(50,_),(51,_),(63,_),(64,_)] (AEp rfl) (fun m:Nat=>[(65,int ((m:Nat):Int)),(17,bool (decide (p1.2.2.getD x.toNat 0≤f.tmod 12)&&Z8 (p1.2.1.take m) x))]) (fun m:Nat=>m≤(p1.2.1).length) (fun m:Nat=>(p1.2.1).length-m) 0 (Nat.zero_le _) ⟨ke rfl,⟨_,rfl,bool_eq (by simp [Z8])⟩,trivial⟩ ?_)))))))
 rintro m LC
 refine Tr.seq (Tr.Aj (co rfl (ki rfl rfl rfl rfl) (Ch.nil (Fin.go (jr 7 9 12 13 14 16 17 49 50 51 63 64 65 66 rfl (Tr.seq ?_))))))
 refine Tr.cn rfl ?_ ?_<;>intro h4 q4
 have D7:m<(p1.2.1).length:=AH h4
 obtain ⟨y,D_⟩:=at_ D7
 refine Tr.skip (Fin.go (WC 7 9 12 13 14 16 17 49 50 51 63 64 65 rfl (Tr.seq (Tr.block (Tr.seq (Tr.Ap (tp rfl (AD rfl underlying33 Cf (vl rfl) (vl rfl) AA (Aa D_)) (tp rfl (AQ rfl FH Cf (vl rfl) rfl rfl) ?_))))))))
 refine Tl rfl rfl rfl rfl Qd Oi (fun b5=> ?_)
 refine TO.AK 0 rfl rfl rfl (vl rfl) (Va rfl) rfl Cf rfl rfl (TO.freeze 0 19 rfl rfl (TO.nil (Fin.go (jr 7 9 12 13 14 16 17 19 49 50 51 63 64 65 rfl (Tr.Aj (cm rfl (cm rfl ?_)))))))
 refine Ch.cs 70 rfl ?_ ?_<;>intro h5 q5
 refine cy h5 rfl (Ss rfl Ue rfl rfl) (cy h5 rfl (GU rfl Cj rfl) (ML h5 rfl (cy h5 rfl (ki rfl rfl rfl rfl) (co rfl (JD rfl rfl h5 rfl) (cm rfl (Ch.nil (Fin.block (Fin.go (WC 7 9 12 13 14 16 17 49 50 51 63 64 65 rfl (Tr.Aj (Kx rfl rfl rfl rfl AA (cm rfl (Ch.nil ?_)))))))))))))
 exact Fin.AL (m+1) ⟨D7,by omega⟩ ⟨⟨_,rfl,AG m⟩,⟨_,rfl,bool_eq (by rw [Tv D_,←Bool.and_assoc,h5];by_cases h_:y.thn=x<;>simp [h_])⟩,ke rfl,ke rfl,ke rfl,ke rfl,ke rfl,ke rfl,ke rfl,ke rfl,ke rfl,ke rfl,ke rfl,trivial⟩
 iterate 4 refine cnt h5 rfl ?_
 refine co rfl (MM rfl rfl h5 rfl) (cm rfl (Ch.nil (Fin.block (Fin.go (WC 7 9 12 13 14 16 17 49 50 51 63 64 65 rfl (Tr.Aj (Kx rfl rfl rfl rfl AA (cm rfl (Ch.nil ?_)))))))))
 exact Fin.AL (m+1) ⟨D7,by omega⟩ ⟨⟨_,rfl,AG m⟩,⟨_,rfl,bool_eq (by rw [Tv D_,←Bool.and_assoc,h5];rfl)⟩,ke rfl,ke rfl,ke rfl,ke rfl,ke rfl,ke rfl,ke rfl,ke rfl,ke rfl,ke rfl,ke rfl,trivial⟩
 have Ip:m=(p1.2.1).length:=by have:=AJ h4;omega
 subst Ip
 rw [List.take_length]
 refine Tr.exit (Fin.AW (Fin.AW (Fin.Au (Fin.go (Of 7 9 12 13 14 16 17 49 50 51 rfl (Tr.seq (Tr.Aj (cm rfl (cm rfl ?_)))))))))
 refine Ch.cs 78 rfl ?_ ?_<;>intro h6 q6
 refine ML h6 rfl (cy h6 rfl (ki rfl rfl rfl rfl) (co rfl (JD rfl rfl h6 rfl) (Ch.nil (Fin.go (Of 7 9 12 13 14 16 49 50 51 81 rfl ?_)))))
 refine Tr.cn rfl ?_ ?_<;>intro h7 q7
 refine Tr.Aj (cm rfl (cm rfl (Ch.nil (Fin.block (Fin.go (Tr.Aj (Kx rfl rfl rfl rfl AA (cm rfl (Ch.nil (Fin.AL (k+1) ⟨Ah,by omega⟩ ⟨⟨_,rfl,AG k⟩,⟨_,rfl,int_eq (by rw [hbk,if_pos ⟨h6,of_decide_eq_true h7⟩])⟩,ke rfl,ke rfl,ke rfl,ke rfl,ke rfl,ke rfl,trivial⟩))))))))))
 refine Tr.skip (Fin.block (Fin.go (Tr.Aj (Kx rfl rfl rfl rfl AA (cm rfl (Ch.nil (Fin.AL (k+1) ⟨Ah,by omega⟩ ⟨⟨_,rfl,AG k⟩,⟨_,rfl,int_eq (by rw [hbk,if_neg (fun h_=>absurd h_.2 (of_decide_eq_false h7))])⟩,ke rfl,ke rfl,ke rfl,ke rfl,ke rfl,ke rfl,trivial⟩)))))))
 refine cnt h6 rfl (cnt h6 rfl (co rfl (MM rfl rfl h6 rfl) (Ch.nil (Fin.go (Of 7 9 12 13 14 16 49 50 51 81 rfl (Tr.cond rfl (fun h=>nomatch h) (fun _=> ?_)))))))
 refine Tr.skip (Fin.block (Fin.go (Tr.Aj (Kx rfl rfl rfl rfl AA (cm rfl (Ch.nil ?_))))))
 exact Fin.AL (k+1) ⟨Ah,by omega⟩ ⟨⟨_,rfl,AG k⟩,⟨_,rfl,int_eq (by rw [hbk,if_neg (fun h_=>absurd (show _=true from h_.1) (by unfold Z9;rw [h6];decide))])⟩,ke rfl,ke rfl,ke rfl,ke rfl,ke rfl,ke rfl,trivial⟩
 have BP:k=((FN p1.2.2)).length:=by have:=AJ h3;omega
 subst BP
 refine Tr.exit (Fin.AW (Fin.AW (Fin.Au (Fin.go (Tr.seq (Tr.Ap (tm rfl (tm rfl (tp rfl (ki rfl rfl rfl rfl) (tp rfl (jo rfl underlying4 (vl rfl) (vl rfl)) (tm rfl ?_)))))))))))
 refine TO.cases 88 rfl (fun h8=> ?_) (fun h8=> ?_)
 have q8:=C3.DZ h8
 refine TO.Fh rfl rfl rfl h8 rfl AB (BM rfl (vl rfl)) (TO.Fh rfl rfl rfl h8 rfl AB (HW rfl (vl rfl)) (TO.Fh rfl rfl rfl h8 rfl AB (BM rfl (vl rfl)) ?_))
 refine TO.cases 91 rfl (fun h9=> ?_) (fun h9=> ?_)
 have q9:=C3.DZ h9
 refine TO.OI rfl rfl rfl (FY h9) rfl AB (TO.OI rfl rfl rfl (FY h9) rfl AB (TO.OI rfl rfl rfl (FY h9) rfl AB (TO.Fh rfl rfl rfl h8 rfl AB (JD rfl rfl h9 rfl) (tp rfl (JD rfl rfl h8 rfl) (tm rfl (TO.Fh rfl rfl rfl rfl rfl AB (BM rfl (vl rfl)) (TO.Fh rfl rfl rfl rfl rfl AB (BM rfl (vl rfl)) ?_)))))))
 refine TO.cases 99 rfl (fun h10=> ?_) (fun h10=> ?_)
 have Q4:=C3.DZ h10
 refine TO.OI rfl rfl rfl (FY h10) rfl AB (TO.OI rfl rfl rfl (FY h10) rfl AB (TO.Fh rfl rfl rfl rfl rfl AB (JD rfl rfl h10 rfl) (tp rfl (JD rfl rfl rfl rfl) (tm rfl (TO.Wf 1 rfl rfl rfl rfl rfl rfl AB (An rfl rfl AB rfl (Rz) trivial) (tp rfl (JD rfl rfl rfl rfl) (tm rfl (TO.nil (Fin.go (L2 4 rfl (Tr.ret (Fin.drop 0 (Fin.EB rfl rfl ?_ (fun _ _ _ _=>rfl))))))))))))))
 · exact Lr
 have Q4:=C3.DZ h10
 refine TO.Fh rfl rfl rfl h10 rfl AB (BM rfl (vl rfl)) (TO.Fh rfl rfl rfl h10 rfl AB (ki rfl rfl rfl rfl) (TO.Fh rfl rfl rfl rfl rfl AB (MM rfl rfl h10 rfl) (tp rfl (JD rfl rfl rfl rfl) (tm rfl ?_))))
 refine TO.cases 104 rfl (fun h11=> ?_) (fun h11=> ?_)
 have SK:=C3.DZ h11
 refine TO.Wf 1 rfl rfl rfl h11 rfl rfl AB (An rfl rfl AB rfl (Rz) trivial) (tp rfl (JD rfl rfl h11 rfl) (tm rfl (TO.nil (Fin.go (L2 4 rfl (Tr.ret (Fin.drop 0 (Fin.EB rfl rfl ?_ (fun _ _ _ _=>rfl)))))))))
 · exact Lr
 have SK:=C3.DZ h11
 exact absurd (hb3 (by simpa using h10)) (of_decide_eq_false h11)
 have q9:=C3.DZ h9
 refine TO.Fh rfl rfl rfl h9 rfl AB (BM rfl (vl rfl)) (TO.Fh rfl rfl rfl h9 rfl AB (BM rfl (vl rfl)) (TO.Fh rfl rfl rfl h9 rfl AB (ki rfl rfl rfl rfl) (TO.Fh rfl rfl rfl h8 rfl AB (MM rfl rfl h9 rfl) (tp rfl (JD rfl rfl h8 rfl) (tm rfl ?_)))))
 refine TO.cases 97 rfl (fun h12=> ?_) (fun h12=> ?_)
 have Vt:=C3.DZ h12
 refine TO.Fh rfl rfl rfl h12 rfl AB (BM rfl (vl rfl)) (TO.Fh rfl rfl rfl h12 rfl AB (BM rfl (vl rfl)) ?_)
 refine TO.cases 99 rfl (fun JR=> ?_) (fun JR=> ?_)
 have Yv:=C3.DZ JR
 refine TO.OI rfl rfl rfl (FY JR) rfl AB (TO.OI rfl rfl rfl (FY JR) rfl AB (TO.Fh rfl rfl rfl h12 rfl AB (JD rfl rfl JR rfl) (tp rfl (JD rfl rfl h12 rfl) (tm rfl (TO.Wf 1 rfl rfl rfl rfl rfl rfl AB (An rfl rfl AB rfl (Rz) trivial) (tp rfl (JD rfl rfl rfl rfl) (tm rfl (TO.nil (Fin.go (L2 4 rfl (Tr.ret (Fin.drop 0 (Fin.EB rfl rfl ?_ (fun _ _ _ _=>rfl))))))))))))))
 · exact Lr
 have Yv:=C3.DZ JR
 refine TO.Fh rfl rfl rfl JR rfl AB (BM rfl (vl rfl)) (TO.Fh rfl rfl rfl JR rfl AB (ki rfl rfl rfl rfl) (TO.Fh rfl rfl rfl h12 rfl AB (MM rfl rfl JR rfl) (tp rfl (JD rfl rfl h12 rfl) (tm rfl ?_))))
 refine TO.cases 104 rfl (fun Jm=> ?_) (fun Jm=> ?_)
 have lP:=C3.DZ Jm
 refine TO.Wf 1 rfl rfl rfl Jm rfl rfl AB (An rfl rfl AB rfl (Rz) trivial) (tp rfl (JD rfl rfl Jm rfl) (tm rfl (TO.nil (Fin.go (L2 4 rfl (Tr.ret (Fin.drop 0 (Fin.EB rfl rfl ?_ (fun _ _ _ _=>rfl)))))))))
 · exact Lr
 have lP:=C3.DZ Jm
 exact absurd (hb3 (by simpa using JR)) (of_decide_eq_false Jm)
 have Vt:=C3.DZ h12
 exact absurd (R3 (by simpa using h9)) (of_decide_eq_false h12)
 have q8:=C3.DZ h8
 exact absurd h8 (by rw [M9];simp)
end Go.Proofs.YtmocaapoeefgkaaGreatDoor
namespace Go.Proofs.YtmocaapoeefgkaaGreatDoor
open Go Go.RowKit Cp Go.ChangeShapes Go.WideShapes Go.ChangeAt Go.Proofs.Tryz
theorem AGj : Tryz.prog.globalNamed "math/bits.deBruijn32tab" = some 0 := by kernel_rfl
theorem AGk:(Tryz.prog.globals[0]?).map (·.type)=some 255:=by kernel_rfl
theorem qL (os : Os) (args : Array Value) : laidMetH Tryz.prog [("math/bits.deBruijn32tab", Rows.laid_math_bits_deBruijn32tab)] ((World.doorLaid Tryz.prog 14 os).forCall (fun _ _ => 0) ⟨#[], args, []⟩).memory :=
 laidMetH_of_parts3 (fuel:=33) (laidMet_of_run' 33 Be Be) Be Be
theorem zK {W : World} (h : laidMetH Tryz.prog [("math/bits.deBruijn32tab", Rows.laid_math_bits_deBruijn32tab)] W) : Dw.h noM W := by
 rw [MakeChecks.laidMetH_plain _ _ _ Be] at h
 obtain ⟨ps,⟨g0,t0,cs0,f0,p0,q0,hg0,ht0,bK,hd0,_⟩,_⟩:=h
 obtain rfl:=Option.some.inj (AGj.symm.trans hg0)
 obtain rfl:=Option.some.inj (AGk.symm.trans ht0)
 obtain ⟨xs,m,rfl,hx,hlen,hn,hel⟩:=DataW.trod_array Tryz.underlying255 hd0
 have c1:Tryz.prog.cellsOf 5=1:=by kernel_rfl
 have hx1:Rows.laid_math_bits_deBruijn32tab=DataW.agg (xs.map (·.1)):=(Prod.mk.inj hx).1
 have hx2:xs.map (·.1)=XF.map fun n:Nat=>DataW.lit (.int .u8 (n:Int)):=by
  have h3:(Rows.laid_math_bits_deBruijn32tab:DataW Unit)=DataW.agg (XF.map fun n:Nat=>DataW.lit (.int .u8 (n:Int))):=rfl
  exact (DataW.agg.inj (hx1.symm.trans h3))
 intro j n hj
 refine ⟨?_,fun h=>h⟩
 have AGl:j<32:=by
  rcases Nat.lt_or_ge j 32 with h|h
  · exact h
  · rw [List.getElem?_eq_none h] at hj;cases hj
 have h4:=hel j AGl
 rw [c1,Nat.mul_one] at h4
 obtain ⟨y,hy⟩:=at_ (l:=xs) (k:=j) AA
 rw [hy] at h4
 obtain ⟨k,e1,e2,_⟩:=DataW.trod_int Tryz.underlying5 h4
 have h5:(xs.map (·.1))[j]? =some (DataW.lit (.int .u8 (n:Int))):=by rw [hx2,List.getElem?_map,hj];rfl
 rw [List.getElem?_map,hy] at h5
 have hk:k=(n:Int):=by
  have h6:y.1=DataW.lit (.int .u8 (n:Int)):=Option.some.inj h5
  rw [e2] at h6
  simpa using h6
 have h7:=World.var?_cell hg0 bK j
 have h8:cs0.toList[j]? =some (.int .u8 k):=by
  have h9:=congrArg (fun l:List Value=>l[0]?) e1
  simpa using h9
 rw [hk] at h8
 have h10:cs0[j]? =some (.int .u8 (n:Int)):=by rw [←Array.getElem?_toList];exact h8
 rw [h10] at h7
 exact h7
theorem Mz (os:Os) (started:os.Started) (H:Type) (enc:TypeId×Value→H):
  ReturnsInHanded {} Tryz.checked os 4 .any (fun w args => (Rows.runnerDaysSpec.pre enc Tryz.prog Tryz.f4 [] false w args ∧ laidMetH Tryz.prog [("math/bits.deBruijn32tab", Rows.laid_math_bits_deBruijn32tab)] w) ∧ sizedMet enc Tryz.prog Tryz.f4 (OpenSpec.ofChange Rows.runnerDaysSpec) false w args) (Rows.runnerDaysSpec.post enc Tryz.prog Tryz.f4 false true false false) := by
 refine returnsInHanded_of_change_and (C := Tryz.checked) (X := fun w _ => laidMetH Tryz.prog [("math/bits.deBruijn32tab", Rows.laid_math_bits_deBruijn32tab)] w) (fun _ _ _ hh h => h.of_heap hh) AFt started Be Tryz.func4
  (ChangeSpec.witness_shaped (enc := enc) (C := Tryz.checked) (os := os) (X := fun w _ => laidMetH Tryz.prog [("math/bits.deBruijn32tab", Rows.laid_math_bits_deBruijn32tab)] w) false (World.doorLaid Tryz.prog 14 os) #[.slice none 0 0, .int .u8 0] 8 rfl (World.shaped_of_RefB Be Be) Be Be Be (qL os _)) ?_
 intro W base args ds gs before ADS hW AH0 _ hL _
 have hval:∀(j:Nat) t v,Tryz.f4.params[j]? =some t→args[j]? =some v→Value.okWide Tryz.prog W .any base t v:=ADS
 have hW':=hW
 obtain ⟨p,q,hA0,hV,hpq,hfz,hnd⟩:=hW
 have hA:DataW.TrodAll enc Tryz.prog W 0 (fun _=>true) true Tryz.f4.params.toList args.toList ds p:=hA0
 have hA':=hA
 rw [Tryz.params4] at hA hval
 obtain ⟨v0,v1,d0,d1,p0,p1,rfl,rfl,hp,h0,h1⟩:=trodAll_two hA'
 obtain ⟨rfl,rfl⟩:=trodVars_none hV
 obtain ⟨a0,_,e0⟩:=bO (Yp Tryz.underlying22 Tryz.underlying3 Be) h0 (by obtain ⟨_,_,_,rfl⟩:=okWide_slice Tryz.underlying22 (hval 0 22 v0 rfl rfl);rfl)
 obtain ⟨a1,hf,e1⟩:=bO (Sx Tryz.underlying5) h1 (by obtain ⟨_,rfl⟩:=okWide_int Tryz.underlying5 (hval 1 5 v1 rfl rfl);rfl)
 refine (BZ.uF (Vp (u8_in hf)) rfl W [v0,v1] (zK hL) ⟨e0,e1,trivial⟩).mono fun e W' ⟨v,he,hv,hb⟩=> ?_
 subst he
 obtain rfl:v= .bool true:=hv
 exact ⟨_,rfl,jv lC Be rfl Tryz.underlying4 rfl hA' (by rw [hpq];simp) hW' rfl hb⟩
theorem M4:(Rows.runnerDaysRow.inPlace==Tryz.pinned.checked.prog.inPlace 4)=true:=by kernel_rfl
theorem M6:(Rows.runnerDaysRow.unfollowed==Tryz.pinned.checked.prog.unfollowed 4)=true:=by kernel_rfl
theorem M7:(Rows.runnerDaysRow.recurses==Tryz.pinned.checked.prog.recurses 4)=true:=by kernel_rfl
theorem M8:(Rows.runnerDaysRow.named==Tryz.pinned.checked.prog.varsNamed 4)=true:=by kernel_rfl
theorem N3:joinedFacts Tryz.pinned.checked.prog 4 Tryz.f4 Rows.runnerDaysSpec Rows.runnerDaysRow=true:=by
 unfold joinedFacts
 rw [M4,M6,M7,M8]
 kernel_rfl
theorem runnerDays_holds:Rows.RunnerDaysSaid:=
 OpenClaim.holds_of_wide 4 Tryz.f4 rfl rfl rfl rfl rfl rfl rfl ⟨rfl, rfl, rfl, rfl, rfl⟩ rfl rfl rfl rfl rfl Be Tryz.func4 N3
  (of_decide_eq_true Be) (by unfold Func.isWrapper;first|(rw [if_pos (by decide+kernel)];kernel_rfl)|(rw [if_neg (by decide+kernel)];exact ⟨rfl,rfl⟩))
  (fun os started H enc _=>Mz os started H enc)
theorem Sa:Rows.runnerDaysRow.wfByText (OpenSpec.ofChange Rows.runnerDaysSpec)=true:=by kernel_rfl
theorem Sb:Tryz.pinned.checked.prog.mainIs=some (Rows.runnerDaysCard.stood.harness.1,Rows.runnerDaysCard.stood.harness.2.toList):=by kernel_rfl
theorem Sc : Tryz.prog.funcNamed "cipherplan/cipherplanlaw37.RunnerDays" = some 4 := by kernel_rfl
theorem Sd:false=Tryz.pinned.checked.prog.looks []:=by kernel_rfl
theorem Se:false=Rows.runnerDaysRow.goesBy Tryz.pinned.checked.prog:=by kernel_rfl
theorem Sf:([22,5].all fun u=> !Tryz.prog.wantsStandIn u)=true:=by kernel_rfl
theorem runnerDays_card_holds:Rows.RunnerDaysCardSaid:=
 Claim7.holds_tied_plain_at .later [] [.data] true Rows.runnerDaysCard.stood.harness false runnerDays_holds (fun _ h => by cases h) Sa (fun _ h => by cases h) runnerDays_row_tie rfl ⟨rfl, rfl⟩ Sb rfl
  (fun f fn hf hfn=>by
   obtain rfl:f=4:=Option.some.inj (Sc.symm.trans hf)|>.symm
   obtain rfl:fn=Tryz.f4:=(Option.some.inj (Tryz.func4.symm.trans hfn)).symm
   exact ⟨Sd,fun j t ht=>by
    rw [Tryz.params4] at ht
    have hm:t∈[22,5]:=by simpa using Array.mem_of_getElem? ht
    exact (show Tryz.prog.wantsStandIn t=false by simpa using List.all_eq_true.1 Sf t hm)⟩)
  Se
end Go.Proofs.YtmocaapoeefgkaaGreatDoor
