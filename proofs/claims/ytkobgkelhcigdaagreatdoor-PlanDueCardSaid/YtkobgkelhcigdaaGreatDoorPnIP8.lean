/-
  PlanDue: whatever the input, the law of this name returns true and its arguments read as before; the table of trailing zeros is tied to the program. No conditions.
-/
import Derived.Test.YtkobgkelhcigdaaGreatDoorTie
import Derived.Test.YtkobgkelhcigdaaGreatDoorCards
import Derived.LaidMore
import Derived.OpenShut
import Derived.Stop.Joined
import Derived.ProofKit
import Derived.Test.YtkobgkelhcigdaaGreatDoorPnIP7
set_option linter.all false
set_option maxRecDepth 40000
set_option maxHeartbeats 16000000
namespace Go.Proofs.YtkobgkelhcigdaaGreatDoor
open Go Go.RowKit Cp Go.Proofs.Tryz
theorem Zj {e:DD} {l:List BQ} {n:Nat} {s:List Int} {fr ML:Int} (hz:e.sz n) (hn:n≤800000) (hc:∀c∈l,c.Cw.fits∧c.Cw.small) (gT:s.length≤4096):BA prog 91 [agg (B1 e),Eu l,ints s,int fr,int ML] (Dw):=by
 refine fo func91 rfl ⟨rfl,rfl⟩ fun M0 w0=> ?_
 have hxz:=X7 (l:=l) (s:=s) hz hc
 have hxf:=hxz.fits (by omega)
 have hxg:=hxz.lg
 refine ac ?_
 refine ao ?_
 refine tp rfl (J2 (Pn hz hn hc) rfl rfl rfl rfl) ?_
 refine ao ?_
 refine Tl rfl rfl rfl rfl z31 HR (fun b1=> ?_)
 refine sf 0 11 ⟨rfl,rfl,rfl⟩ rfl rfl rfl rfl ?_
 refine ao ?_
 refine ac ?_
 refine Ef 3 4 11 24 rfl ?_
 refine Tr.cn rfl ?_ ?_<;>intro h1 q1
 refine a2 ?_
 · exact AJ _ (Lr)
 refine a2 ?_
 refine Tr.block (Tr.A9 [(3,_),(4,_),(11,_),(27,_)] (YO rfl) (fun k:Nat=>[(28,int ((k:Nat):Int))]) (fun k:Nat=>k≤((SS e l s).1.BE).length) (fun k:Nat=>((SS e l s).1.BE).length-k) 0 (Nat.zero_le _) ⟨ke rfl,trivial⟩ ?_)
 rintro k BP
 refine ac ?_
 refine Tr.seq ?_
 refine Tr.cn rfl ?_ ?_<;>intro h2 q2
 have Ai:k<((SS e l s).1.BE).length:=AG h2
 obtain ⟨x,Af⟩:=at_ Ai
 refine a2 ?_
 refine ao ?_
 refine tp rfl (Zv (NG hxf) rfl rfl rfl rfl rfl) ?_
 refine TO.ex 36 rfl (fun z1=>TO.fact 36 rfl fun FE=> ?_)
 refine ao ?_
 refine Tl rfl rfl rfl rfl Io E_ (fun b2=> ?_)
 refine sf 0 14 ⟨rfl,rfl,rfl⟩ rfl rfl rfl rfl ?_
 refine ao ?_
 · repeat' first|exact AJ _ (Lr)|exact Fin.AL (k+1) ⟨Ai,by omega⟩ ⟨⟨_,rfl,AE k⟩,ke rfl,ke rfl,ke rfl,ke rfl,trivial⟩|refine ac ?_|(refine Tr.cn rfl ?_ ?_<;>intro h q)
 have BJ:k=((SS e l s).1.BE).length:=by have:=AH h2;omega
 refine a3 ?_
 · exact AJ _ (Lr)
theorem RT {a b:Int}  :BA prog 37 [int a,int b] (Dw):=by
 refine fo func37 rfl ⟨rfl,rfl⟩ fun M0 w0=> ?_
 · repeat' first|exact AJ _ (Lr)|refine ac ?_|(refine Ch.cg rfl rfl rfl ?_ ?_<;>intro h q)
theorem JY {s:List Int} {m:Nat} (hs:∀i∈s,0≤i∧i<(m:Int)) (hm:m≤40):BA prog 90 [ints s] (Cp.ex fun z:Nat=>fact (z<2 ^ m) (int ((z:Nat):Int))):=by
 refine fo func90 rfl ⟨rfl,rfl⟩ fun M0 w0=>(Tr.Cv 0 rfl fun Ew=> ?_)
 refine a3 ?_
 refine Tr.block (Tr.Cy [(6,_),(7,_)] ⟨ke rfl,ke rfl,trivial⟩ (fun (z:Nat) (k:Nat)=>[(8,int ((k:Nat):Int)),(3,int ((z:Nat):Int))]) (fun (z:Nat) (k:Nat)=>Hp M0 w0 FR ([])) (fun (z:Nat) (k:Nat)=>k≤s.length∧z<2 ^ m) (fun (z:Nat) (k:Nat)=>s.length-k) (0) (0)  (⟨Nat.zero_le _,Nat.two_pow_pos m⟩) ⟨ke rfl,ke rfl,trivial⟩ (fun _ _ h=>h) ?_)
 rintro z k  ⟨hk0,hz⟩
 refine ac ?_
 refine Tr.seq ?_
 refine Tr.cn rfl ?_ ?_<;>intro h1 q1
 have hk:k<s.length:=AG h1
 obtain ⟨i,hx⟩:=at_ hk
 have hir:=hs i (List.mem_of_getElem? hx)
 refine ac ?_
 refine Tr.seq (Tr.block (Tr.seq (Tr.Ah (co rfl (AA rfl underlying38 B4 (vl rfl) (vl rfl) (by omega) (AP hx)) ?_))))
 refine a2 ?_
 refine co rfl (Xp rfl (vl rfl) (vl rfl) (by omega) (by omega)) ?_
 refine co rfl (q_ (m:=m) rfl (vl rfl) (vl rfl) hz (Nat.pow_lt_pow_right (by omega) (by omega)) hm) ?_
 refine a2 ?_
 exact Fin.C5 ((z|||2 ^ i.toNat)) (k+1)  (⟨⟨by omega,Nat.or_lt_two_pow hz (Nat.pow_lt_pow_right (by omega) (by omega))⟩,by omega⟩) ⟨⟨_,rfl,AE k⟩,ke rfl,ke rfl,ke rfl,trivial⟩ (fun _ _ h=>h)
 have VO:=AH h1
 refine a3 ?_
 · exact AJ _ (AU hz (Lr))
abbrev Uh:Pr:=Cp.ex fun z:List Int=>fact (z.length≤1000) (ints z)
theorem Zk {s:List Int} {k n:Int} (h:∀i∈s,0≤i∧i<n) (hk:0≤k∧k<n):∀i∈D5 s k true,0≤i∧i<n:=fun i hi=>by
 rcases DF.1 hi with rfl|hi
 · exact hk
 · exact h i hi
theorem Zl {n:Nat}:(List.replicate n (Value.bool false)).map is=((List.replicate n false).map fun x:Bool=>[Cp.bool x]).flatten++[]:=by
 rw [List.map_replicate,List.map_replicate,List.append_nil]
 induction n with
 |zero=>rfl
 |succ n ih=>rw [List.replicate_succ,List.replicate_succ,List.flatten_cons,←ih];rfl
theorem RU {e:DD} {l:List BQ} {n:Nat} {so done:List Int} {fr ML:Int} {b N m:Nat} (hz:e.sz n) (hn:n≤800000) (hc:∀c∈l,c.Cw.fits∧c.Cw.small) (hN:2 ^ l.length=N) (hl:l.length≤10) (hm:so.length+m=l.length) (hdr:∀i∈done,0≤i∧i<((l.length:Nat):Int)) (gU:done.length≤so.length) (ih:∀m':Nat,m=m'+1→∀so done:List Int,so.length+m'=l.length→(∀i∈done,0≤i∧i<((l.length:Nat):Int))→done.length≤so.length→CX prog 59 [agg (B1 e),Eu l,ints so,ints done,int fr,int ML,is (Im N b)] (EK [Uh,Dw]) (FA b 4 (fun x:Bool=>[Cp.bool x]) (fun L:List Bool=>L.length=N) []) (fun _=>FA b 4 (fun x:Bool=>[Cp.bool x]) (fun L:List Bool=>L.length=N) [])):CX prog 59 [agg (B1 e),Eu l,ints so,ints done,int fr,int ML,is (Im N b)] (EK [Uh,Dw]) (FA b 4 (fun x:Bool=>[Cp.bool x]) (fun L:List Bool=>L.length=N) []) (fun _=>FA b 4 (fun x:Bool=>[Cp.bool x]) (fun L:List Bool=>L.length=N) []):=by
 refine CX.of func59 rfl rfl (by exact Nb rfl) fun M0 w0 S rs M1 w1=> ?_
 refine ac ?_
 refine Tr.seq (Tr.seq (Tr.LQ 0 rfl fun dd1 w9=> ?_))
 refine ap ?_
 refine tp rfl (Cq (JY (m:=l.length) hdr (by omega)) rfl rfl) ?_
 refine TO.ex 22 rfl (fun z1=>TO.fact 22 rfl fun FE=> ?_)
 have hzN:z1<N:=hN ▸ FE
 refine tp rfl (BI rfl underlying146 S1 (vl rfl) (vl rfl) (by omega) (by omega)) (TO.rd 0 rfl rfl rfl (by decide) (A_ rfl YR (vl rfl) (VC (g:=(fun x:Bool=>Cp.bool x)) (by omega))) ?_)
 refine ap ?_
 refine Tr.cn rfl ?_ ?_<;>intro h1 q1
 refine Tr.seq (Tr.H8 (fun L:List Bool=>L.length=N) 0 rfl w9 ?_)
 refine ac ?_
 refine Tr.ret (Fin.AD (Fin.FJ rfl rfl ?_ rfl ?_))
 · exact AJ [] (AU (by simp) (AF 1))
 · exact AJ _ (Lr)
 refine ac ?_
 refine Tr.seq (Tr.seq (Tr.H8 (fun L:List Bool=>L.length=N) 0 rfl w9 ?_))
 refine ac ?_
 refine co rfl (kc5 (Zj hz hn hc (by omega)) rfl rfl rfl rfl rfl rfl) ?_
 refine ac ?_
 refine J0 1 2 3 4 5 6 7 30 rfl (Tr.ex 30 rfl fun ACU=> ?_)
 refine Tr.cn rfl ?_ ?_<;>intro h2 q2
 refine ac ?_
 refine J0 1 2 3 4 5 6 7 35 rfl ?_
 refine Tr.cn rfl ?_ ?_<;>intro h3 q3
 refine ac ?_
 refine Tr.ret (Fin.AD (Fin.AD (Fin.FJ rfl rfl ?_ rfl ?_)))
 · exact AJ so (AU (by omega) (Lr))
 · exact AJ _ (Lr)
 refine a2 ?_
 refine Tr.block (Tr.LH [(1,_),(2,_),(3,_),(4,_),(5,_),(6,_),(7,_),(38,_)] ⟨ke rfl,ke rfl,ke rfl,ke rfl,ke rfl,ke rfl,ke rfl,ke rfl,trivial⟩ (fun (k:Nat)=>[(39,int ((k:Nat):Int))]) (fun (k:Nat)=>Hp M0 w0 S (FA b 4 (fun x:Bool=>[Cp.bool x]) (fun L:List Bool=>L.length=N) []::Aj M1 w1::rs)) (fun (k:Nat)=>k≤l.length) (fun (k:Nat)=>l.length-k) (0)  (Nat.zero_le _) ⟨ke rfl,trivial⟩ (fun _ _ h=>h) ?_)
 rintro k  hk0
 refine ac ?_
 refine Tr.seq ?_
 refine Tr.cn rfl ?_ ?_<;>intro h4 q4
 have hk:k<l.length:=AG h4
 refine a3 ?_
 refine co rfl (CF (JM) rfl rfl rfl) ?_
 refine ac ?_
 refine Es 1 2 3 4 5 6 7 16 38 39 44 rfl ?_
 refine Tr.cn rfl ?_ ?_<;>intro h5 q5
 refine a2 ?_
 exact Fin.LI (k+1)  (⟨by omega,by omega⟩) ⟨⟨_,rfl,AE k⟩,ke rfl,ke rfl,ke rfl,ke rfl,ke rfl,ke rfl,ke rfl,ke rfl,trivial⟩ (fun _ _ h=>h)
 refine ac ?_
 refine ap ?_
 refine TO.pad ?_
 refine TO.Dh 0 rfl rfl (by decide) (D7 rfl rfl (by decide) rfl underlying22 B4 Jf z3 rfl (by decide) ⟨_,rfl,AF _⟩ (vl rfl) (by simp only [List.length_append,List.length_map,List.length_cons,List.length_nil];unfold maxLen;omega) (by simp only [List.length_append,List.length_map,List.length_cons,List.length_nil];omega) (Bh (by exact List.Mem.head _) ⟨_,rfl,EN 1⟩)) (fun v1=> ?_)
 refine ap ?_
 refine Es 1 2 3 4 5 6 7 16 17 38 39 rfl ?_
 refine ap ?_
 refine TO.Dh 0 rfl rfl (by decide) (Bt rfl rfl rfl rfl underlying22 B4 Jf z3 (Kb rfl) (Kf rfl) (Au (by exact List.Mem.head _) (Ka rfl))) (fun v2=> ?_)
 refine ap ?_
 refine Es 1 2 3 4 5 6 7 16 17 38 39 rfl (Tr.seq (Tr.rx ?_))
 refine ay ?_
 refine xo rfl (fun _=>J2 (Fh (by omega)) rfl rfl rfl rfl) ?_
 refine ay ?_
 refine Cx.ef 1 rfl rfl (by decide) (As rfl rfl (by decide) rfl (ih (m-1) (by omega) (so++[((k:Nat):Int)]) (D5 done ((k:Nat):Int) true) (by simp;omega) (Zk hdr (by omega)) (by have:=MT done ((k:Nat):Int) true;simp;omega)) ⟨ke rfl,ke rfl,⟨_,rfl,Pr.le_trans (Ak _ _) (Pr.le_of_eq (by show _=slice 1 ((so++[((k:Nat):Int)]).map fun n=>[int n]);rw [List.nil_append,List.map_append];rfl))⟩,ke rfl,ke rfl,ke rfl,ke rfl,trivial⟩) ?_
 refine ay ?_
 refine Cx.nil ⟨by kernel_rfl,?_⟩
 refine BH.done al3 (Fin.go (Tr.drop 0 (Es 1 2 3 4 5 6 7 18 19 38 39 rfl ?_)))
 refine ac ?_
 refine Tr.ex 64 rfl fun ACV=> ?_
 refine Tr.cn rfl ?_ ?_<;>intro h6 q6
 refine ac ?_
 refine Cc 14 15 rfl (Tr.ret (Fin.AX (Fin.AD (Fin.AD (Fin.AX (Fin.AD (Fin.FJ rfl rfl ?_ rfl ?_)))))))
 · exact Lr
 · exact AJ _ (Lr)
 refine a2 ?_
 exact Fin.LI (k+1)  (⟨by omega,by omega⟩) ⟨⟨_,rfl,AE k⟩,ke rfl,ke rfl,ke rfl,ke rfl,ke rfl,ke rfl,ke rfl,ke rfl,trivial⟩ (fun _ _ h=>h)
 have VO:=AH h4
 refine ac ?_
 refine Tr.seq (Tr.LQ 0 rfl fun dd2 ABF=> ?_)
 refine ap ?_
 refine tp rfl (Cq (JY (m:=l.length) hdr (by omega)) rfl rfl) ?_
 refine TO.ex 69 rfl (fun z2=>TO.fact 69 rfl fun Gf=> ?_)
 have hzN:z2<N:=hN ▸ Gf
 refine tp rfl (BI rfl underlying146 S1 (vl rfl) (vl rfl) (by omega) (by omega)) ?_
 refine TO.Dz 0 rfl rfl (A0 rfl rfl (vl rfl) (Vo rfl) S1 rfl (by rw [GI (sz:=1) (fun _=>rfl)];omega) (H7 (f:=fun x:Bool=>[Cp.bool x]) (x:=true) (fun _=>rfl) (by omega))) ?_
 refine ap ?_
 refine Tr.weak [] trivial (Tr.seq ?_)
 refine Tr.H8 (fun L:List Bool=>L.length=N) 0 rfl (by rw [List.length_set];exact ABF) ?_
 refine ac ?_
 refine Tr.ret (Fin.FJ rfl rfl ?_ rfl ?_)
 · exact AJ [] (AU (by simp) (AF 1))
 · exact AJ _ (Lr)
 refine ac ?_
 refine Tr.seq (Tr.LQ 0 rfl fun dd3 ABG=> ?_)
 refine ap ?_
 refine tp rfl (Cq (JY (m:=l.length) hdr (by omega)) rfl rfl) ?_
 refine TO.ex 69 rfl (fun z3=>TO.fact 69 rfl fun hz3=> ?_)
 have hzN:z3<N:=hN ▸ hz3
 refine tp rfl (BI rfl underlying146 S1 (vl rfl) (vl rfl) (by omega) (by omega)) ?_
 refine TO.Dz 0 rfl rfl (A0 rfl rfl (vl rfl) (Vo rfl) S1 rfl (by rw [GI (sz:=1) (fun _=>rfl)];omega) (H7 (f:=fun x:Bool=>[Cp.bool x]) (x:=true) (fun _=>rfl) (by omega))) ?_
 refine ap ?_
 refine Tr.weak [] trivial (Tr.seq ?_)
 refine Tr.H8 (fun L:List Bool=>L.length=N) 0 rfl (by rw [List.length_set];exact ABG) ?_
 refine ac ?_
 refine Tr.ret (Fin.FJ rfl rfl ?_ rfl ?_)
 · exact AJ [] (AU (by simp) (AF 1))
 · exact AJ _ (Lr)
theorem Ui {e:DD} {l:List BQ} {n:Nat} {fr ML:Int} {b N:Nat} (hz:e.sz n) (hn:n≤800000) (hc:∀c∈l,c.Cw.fits∧c.Cw.small) (hN:2 ^ l.length=N) (hl:l.length≤10):∀(m:Nat) {so done:List Int},so.length+m=l.length→(∀i∈done,0≤i∧i<((l.length:Nat):Int))→done.length≤so.length→CX Tryz.prog 59 [agg (B1 e),Eu l,ints so,ints done,int fr,int ML,is (Im N b)] (EK [Uh,Dw]) (FA b 4 (fun x:Bool=>[Cp.bool x]) (fun L:List Bool=>L.length=N) []) (fun _=>FA b 4 (fun x:Bool=>[Cp.bool x]) (fun L:List Bool=>L.length=N) [])
 |0,so,done,h1,h2,h3=>RU hz hn hc hN hl h1 h2 h3 (fun m' h=>absurd h (by omega))
 |m+1,so,done,h1,h2,h3=>RU hz hn hc hN hl h1 h2 h3 (fun m' h so' done' g1 g2 g3=>by
  obtain rfl:m'=m:=by omega
  exact Ui hz hn hc hN hl m' g1 g2 g3)
theorem QW {e:DD} {l:List BQ} {n:Nat} {fr ML:Int} (hz:e.sz n) (hn:n≤800000) (hc:∀c∈l,c.Cw.fits∧c.Cw.small)  :BA prog 40 [agg (B1 e),Eu l,int fr,int ML] (EK [Uh,anyI]):=by
 refine fo func40 rfl ⟨rfl,rfl⟩ fun M0 w0=>(Tr.Cv 1 rfl fun GV=> ?_)
 have hf:=hz.fits (by omega)
 refine a2 ?_
 refine co rfl (Cq (DV hf) rfl rfl) ?_
 refine an ?_ ?_<;>intro h1 q1
 refine ac ?_
 refine Tr.ret (Fin.AD (Fin.DG rfl (Bc.DZ _ _) rfl ?_ rfl ?_))
 · exact AJ [] (AU (by simp) (AF 1))
 · exact AJ _ (Lr)
 refine ac ?_
 refine an ?_ ?_<;>intro h2 q2
 refine ac ?_
 refine Tr.ret (Fin.AD (Fin.DG rfl (Bc.DZ _ _) rfl ?_ rfl ?_))
 · exact AJ [] (AU (by simp) (AF 1))
 · exact AJ _ (Lr)
 have w_:l.length≤10:=by have:=q2;omega
 obtain ⟨N,hN⟩:∃N,2 ^ l.length=N:=⟨_,rfl⟩
 have hN2:N≤1024:=by have:=Nat.pow_le_pow_right (n:=2) (by omega) w_;omega
 refine a2 ?_
 refine co rfl (CF (RT) rfl rfl rfl) (co rfl (IP rfl (vl rfl)) ?_)
 refine ac ?_
 refine Tr.ex 22 rfl fun ACW=> ?_
 refine Tr.cn rfl ?_ ?_<;>intro h3 q3
 refine ac ?_
 refine Cc 8 9 rfl (Tr.ret (Fin.AD (Fin.DG rfl (Bc.DZ _ _) rfl ?_ rfl ?_)))
 · exact AJ [] (AU (by simp) (AF 1))
 · exact AJ _ (Lr)
 refine ac ?_
 refine Ef 1 2 3 4 rfl ?_
 refine ap ?_
 refine tp rfl (Aa.le (Xp rfl (vl rfl) (vl rfl) (by omega) (by omega)) (int_eq (b:=((N:Nat):Int)) (by rw [Int.toNat_natCast,hN]))) ?_
 refine TO.Rn rfl rfl (by decide) rfl underlying146 S1 by4 z4 rfl (vl rfl) (vl rfl) (by unfold maxLen;omega) (by omega) (fun b1=> ?_)
 refine ap ?_
 refine Tr.seq (Tr.gP 0 (((List.replicate N false).map fun x:Bool=>[Cp.bool x]).flatten++[]) rfl Zl (Tr.H8 (fun L:List Bool=>L.length=N) 0 rfl List.length_replicate ?_))
 refine ap ?_
 refine TO.Jc 0 rfl rfl (by decide) (As rfl rfl (by decide) rfl (Ui (so:=[]) (done:=[]) hz hn hc hN w_ l.length (by simp) (fun i hi=>by cases hi) (Nat.le_refl _)) ⟨ke rfl,ke rfl,⟨_,rfl,AF 1⟩,⟨_,rfl,AF 1⟩,ke rfl,ke rfl,ke rfl,trivial⟩) ?_
 refine ap ?_
 refine Cc 11 12 rfl (Tr.seq (Tr.seq (Tr.ex 12 rfl fun x12=> ?_)))
 refine an ?_ ?_<;>intro h4 q4
 refine ac ?_
 refine Tr.ret (Fin.AD (Fin.DG rfl (Bc.DZ _ _) rfl ?_ rfl ?_))
 · exact AJ [] (AU (by simp) (AF 1))
 · exact AJ _ (Lr)
 refine a2 ?_
 refine Tr.ret (Fin.DG rfl (Bc.DZ _ _) rfl ?_ rfl ?_)
 · exact Lr
 · exact AJ _ (Lr)
structure Pt (m:Nat) (l:List BQ) (r:List BG) (d:List Int):Prop where
 fit:WS m l r d
 l7:l.length≤7
 ok:∀c∈l,c.Cw.fits∧c.Cw.small
 rl:r.length≤1000
abbrev X8 (m:Nat):Pr:=Cp.ex fun z:List BQ×List BG×List Int=>fact (Pt m z.1 z.2.1 z.2.2) (Ik z.1 z.2.1 z.2.2)
theorem Zm {m:Nat}:Pt m [] [] []:=⟨⟨by decide,rfl,by decide,fun j y c h=>absurd h (by simp)⟩,by decide,(fun c h=>by cases h),by decide⟩
theorem En {m:Nat}:Pr.le (agg [is (.slice none 0 0),is (.slice none 0 0),is (.slice none 0 0)]) (X8 m):=AJ ([],[],[]) (AU Zm (Aw ⟨AF 8,AF 2,AF 1,trivial⟩))
theorem lW {e:DD} {c:BB} {l:List BQ} {r:List BG} {fr:Int}:(∀x∈Lu e c l r fr,x∈l)∧(Lu e c l r fr).length≤l.length∧(NV e c l r fr).length≤r.length:=by
 unfold Lu NV
 by_cases h:JU e c l r fr=0
 · rw [if_pos h,if_pos h];exact ⟨fun x h=>h,Nat.le_refl _,Nat.le_refl _⟩
 · rw [if_neg h,if_neg h];exact ⟨(fun x h=>by cases h),Nat.zero_le _,Nat.zero_le _⟩
abbrev xA:Pr:=Cp.ex fun z:List BG=>fact (z.length≤1000) (reqs z)
theorem G6 {e:DD} {c:BB} {l:List BQ} {r:List BG} {n:Nat} {fr ML:Int} (hz:e.sz n) (hn:n≤800000) (hc:∀x∈l,x.Cw.fits∧x.Cw.small) (h7:l.length≤7) (hrl:r.length≤1000):BA prog 39 [agg (B1 e),Kk c,Eu l,reqs r,Lv,Ph,Sm,int fr,int ML] (EK [X8 e.Be.length,gB,Dw]):=by
 refine fo func39 rfl ⟨rfl,rfl⟩ fun M0 w0=> ?_
 have hf:=hz.fits (by omega)
 obtain ⟨hs1,R9,hs3⟩:=lW (e:=e) (c:=c) (l:=l) (r:=r) (fr:=fr)
 have hcs:∀x∈Lu e c l r fr,x.Cw.fits∧x.Cw.small:=fun x hx=>hc x (hs1 x hx)
 refine Tr.seq (Tr.An ?_)
 iterate 4 refine tp rfl (Bb rfl (Va rfl)) ?_
 refine Tl rfl rfl rfl rfl z35 FF (fun b1=> ?_)
 refine Tl rfl rfl rfl rfl z53 F_ (fun b2=> ?_)
 refine ao ?_
 refine ao ?_
 refine tp rfl (kc5 (QV (e:=e) (c:=c) (l:=l) (r:=r) (fr:=fr) hf (fun x hx=>(hc x hx).2) (by omega)) rfl rfl rfl rfl rfl rfl) ?_
 refine ao ?_
 refine Tl rfl rfl rfl rfl z35 FF (fun b3=> ?_)
 refine sf 0 21 ⟨rfl,rfl,rfl⟩ rfl rfl rfl rfl ?_
 refine ao ?_
 refine HQ 5 7 8 9 13 15 18 19 21 22 rfl ?_
 refine an ?_ ?_<;>intro h1 q1
 refine ao ?_
 refine TO.AK 1 rfl rfl rfl (vl rfl) (Va rfl) rfl B5 rfl rfl (TO.AK 0 rfl rfl rfl (vl rfl) (Va rfl) rfl CJ rfl rfl ?_)
 refine ao ?_
 refine Cd 18 19 20 rfl (Tr.ret (Fin.AD (Fin.Ev rfl (AO.cell 1 rfl rfl CY B5 rfl (Lr)) (AO.cell 0 rfl rfl Cu CJ rfl (Lr)) (AO.tmp rfl (Lr)) ?_)))
 refine Am ⟨?_,?_,?_,trivial⟩
 · exact En
 · exact Ct
 · exact AJ _ (Lr)
 refine ac ?_
 refine ao ?_
 refine tp rfl (Zv (Zi (l:=(Lu e c l r fr)) (r:=(NV e c l r fr)) (d:=(QM e c l r fr)) hz hn hcs (by omega)) rfl rfl rfl rfl rfl) ?_
 refine TO.ex 43 rfl (fun z1=>TO.fact 43 rfl fun FE=> ?_)
 refine ao ?_
 refine Tl rfl rfl rfl rfl z53 F_ (fun b4=> ?_)
 refine sf 0 23 ⟨rfl,rfl,rfl⟩ rfl rfl rfl rfl ?_
 refine ao ?_
 refine P9 5 9 13 15 18 19 21 22 23 rfl ?_
 refine an ?_ ?_<;>intro h2 q2
 refine ao ?_
 refine TO.AK 1 rfl rfl rfl (vl rfl) (Va rfl) rfl B5 rfl rfl (TO.AK 0 rfl rfl rfl (vl rfl) (Va rfl) rfl CJ rfl rfl ?_)
 refine ao ?_
 refine Cd 18 19 20 rfl (Tr.ret (Fin.AD (Fin.Ev rfl (AO.cell 1 rfl rfl CY B5 rfl (Lr)) (AO.cell 0 rfl rfl Cu CJ rfl (Lr)) (AO.tmp rfl (Lr)) ?_)))
 refine Am ⟨?_,?_,?_,trivial⟩
 · exact En
 · exact Ct
 · exact AJ _ (Lr)
 have hz0:z1=0:=by have:=q2;omega
 obtain ⟨_,lV⟩:=FE hz0
 have hpq:Pt e.Be.length (Lu e c l r fr) (NV e c l r fr) (QM e c l r fr):=⟨lV,by omega,hcs,by omega⟩
 refine ac ?_
 refine ao ?_
 refine tp rfl (kc5 (WX (l:=(Lu e c l r fr)) (r:=(NV e c l r fr)) (d:=(QM e c l r fr)) hz hn hcs (by omega)) rfl rfl rfl rfl rfl rfl) ?_
 refine TO.ex 56 rfl (fun z2=>TO.fact 56 rfl fun Gf=> ?_)
 refine ao ?_
 refine K0 18 19 21 22 23 24 rfl (Tr.seq ?_)
 by_cases Gf:z2.2=0
 refine Tr.rx ?_
 refine ay ?_
 refine Cx.yes rfl rfl rfl (by simp [Gf]) rfl (by decide) (fun _=>BM rfl (vl rfl)) (Cx.yes rfl rfl rfl (by simp [Gf]) rfl (by decide) (fun _=>Bo rfl underlying22 (vl rfl)) (Cx.yes rfl rfl rfl (by simp [Gf]) rfl (by decide) (fun _=>ki rfl rfl rfl rfl) (xo rfl (fun _=>Ja rfl (vl rfl) (by simp [Gf]) (vl rfl)) ?_)))
 refine ay ?_
 refine Cx.nil ⟨by kernel_rfl,?_⟩
 refine BH.done YY (Fin.go (Cd 18 19 20 rfl (Tr.ret (Fin.Ev rfl (AO.cell 1 rfl rfl CY B5 rfl (Lr)) (AO.cell 0 rfl rfl Cu CJ rfl (Lr)) (AO.tmp rfl (Lr)) ?_))))
 refine Am ⟨?_,?_,?_,trivial⟩
 · exact AJ (Lu e c l r fr,NV e c l r fr,QM e c l r fr) (AU hpq (Lr))
 · exact Lr
 · exact AJ _ (Lr)
 refine Tr.rx ?_
 refine ay ?_
 refine Cx.no rfl rfl rfl (BN (by simp [Gf])) rfl (by decide) (Cx.no rfl rfl rfl (BN (by simp [Gf])) rfl (by decide) (Cx.no rfl rfl rfl (BN (by simp [Gf])) rfl (by decide) (xo rfl (fun _=>Jb rfl (vl rfl) (by simp [Gf]) (vl rfl)) ?_)))
 refine ay ?_
 refine Cx.nil ⟨by kernel_rfl,?_⟩
 refine BH.done YY (Fin.go (Cd 18 19 20 rfl (Tr.ret (Fin.Ev rfl (AO.cell 1 rfl rfl CY B5 rfl (Lr)) (AO.cell 0 rfl rfl Cu CJ rfl (Lr)) (AO.tmp rfl (Lr)) ?_))))
 refine Am ⟨?_,?_,?_,trivial⟩
 · exact AJ (Lu e c l r fr,NV e c l r fr,QM e c l r fr) (AU hpq (Lr))
 · exact Lr
 · exact AJ _ (Lr)
theorem JZ {o:List Int} (ho:o.length≤1000):BA Tryz.prog 41 [ints o] xA:=(WI ho).le (fun _ _ _ h=>h) (fun M w v ⟨z,hz,h⟩=>⟨z,Nat.le_trans hz ho,h⟩)
theorem RV {n:Nat} (hn:n≤1000):BA Tryz.prog 42 [int ((n:Nat):Int)] Uh:=(fu hn).le (fun _ _ _ h=>h) (fun M w v ⟨z,hz,h⟩=>⟨z,Nat.le_trans hz hn,h⟩)
theorem gC {c:BB} {l:List BQ} (h:EF c l=0):∀x∈l,0≤x.AV∧x.AV<(c.ID.length:Nat):=fun x hx=>by
 have hb:=(PZ h).2 x hx
 unfold Ls at hb
 rw [Bool.or_eq_false_iff,decide_eq_false_iff_not,decide_eq_false_iff_not] at hb
 omega
theorem gD {e:DD} {l:List BQ} (h:l.length≤24):(lT e l).length≤1000:=by
 have h1:=Pp e l l.length
 have h2:=Nat.mul_le_mul h h
 unfold lT;omega
theorem Zn {e:DD} {c:BB} {l:List BQ} {n:Nat} {fr ML:Int} (hz:e.sz n) (hn:n≤800000) (hc:∀x∈l,x.Cw.fits∧x.Cw.small) (h7:l.length≤7):BA prog 15 [agg (B1 e),Kk c,Eu l,Lv,Ph,Sm,int fr,int ML] (EK [X8 e.Be.length,gB,anyI]):=by
 refine BA.of func15 rfl rfl (by exact Nb rfl) fun M0 w0=> ?_
 have hf:=hz.fits (by omega)
 refine Tr.seq (Tr.An ?_)
 iterate 4 refine tp rfl (Bb rfl (Va rfl)) ?_
 refine Tl rfl rfl rfl rfl z35 FF (fun b1=> ?_)
 refine Tl rfl rfl rfl rfl z53 F_ (fun b2=> ?_)
 refine tm rfl (TO.nil (Fin.go (Tr.seq (Tr.seq (Tr.Ah (co rfl (AQ rfl C8 C7 (vl rfl) rfl rfl) (co rfl (AR rfl (DV hf) ⟨ke rfl,trivial⟩) (co rfl (ki rfl rfl rfl rfl) (Ch.nil (Fin.go ?_))))))))))
 refine Tr.cn rfl ?_ ?_<;>intro h1 q1
 refine Tr.seq (Tr.An (tp rfl (Al (rows:=[]) rfl MF FF trivial rfl) (tp rfl (Al (rows:=[]) rfl NQ F_ trivial rfl) (TO.AK 1 rfl rfl rfl (vl rfl) (Va rfl) rfl B5 rfl rfl (TO.AK 0 rfl rfl rfl (vl rfl) (Va rfl) rfl CJ rfl rfl (tm rfl (TO.nil (Fin.go (Cd 16 17 18 rfl (Tr.ret (Fin.AD (Fin.Ev rfl (AO.cell 1 rfl rfl CY B5 rfl (Lr)) (AO.cell 0 rfl rfl Cu CJ rfl (Lr)) (AO.tmp rfl (Lr)) ?_))))))))))))
 refine Am ⟨?_,?_,?_,trivial⟩
 · exact En
 · exact Ct
 · exact AJ _ (Lr)
 have R3:E3 e=true:=by cases h_:E3 e with|true=>rfl|false=>exact absurd h1 (by rw [h_];decide)
 refine Tr.skip (Fin.go (Tr.seq (Tr.seq (Tr.Ah (co rfl (AQ rfl Mt TN (vl rfl) rfl rfl) (co rfl (S0 rfl Hw rfl rfl) (co rfl (Gg rfl Qo rfl) (co rfl (Bo rfl underlying27 (vl rfl)) ?_))))))))
 refine co rfl (AR rfl (JI (c:=c) (m:=((e.Be.length:Nat):Int))) ⟨ke rfl,ke rfl,trivial⟩) ?_
 refine cm rfl (Ch.nil (Fin.go (Es 2 4 6 7 8 9 11 13 16 17 19 rfl (Tr.seq (Tr.Ah (cm rfl (co rfl (ki rfl rfl rfl rfl) (Ch.nil (Fin.go ?_)))))))))
 refine Tr.cn rfl ?_ ?_<;>intro h2 q2
 refine Tr.seq (Tr.An (tp rfl (Al (rows:=[]) rfl MF FF trivial rfl) (tp rfl (Al (rows:=[]) rfl NQ F_ trivial rfl) (tm rfl (TO.AK 1 rfl rfl rfl (vl rfl) (Va rfl) rfl B5 rfl rfl (TO.AK 0 rfl rfl rfl (vl rfl) (Va rfl) rfl CJ rfl rfl (tm rfl (TO.nil (Fin.go (Cd 16 17 18 rfl (Tr.ret (Fin.AD (Fin.Ev rfl (AO.cell 1 rfl rfl CY B5 rfl (Lr)) (AO.cell 0 rfl rfl Cu CJ rfl (Lr)) (AO.tmp rfl (Lr)) ?_)))))))))))))
 refine Am ⟨?_,?_,?_,trivial⟩
 · exact En
 · exact Ct
 · exact AJ _ (Lr)
 have hck:c.check ((e.Be.length:Nat):Int)=0:=by simpa using h2
 obtain ⟨how,htl,hth⟩:=RI hck
 refine Tr.skip (Fin.go (Tr.seq (Tr.seq (Tr.Ah (co rfl (AQ rfl Mt TN (vl rfl) rfl rfl) (cm rfl ?_))))))
 refine co rfl (AR rfl (Pq (c:=c) (l:=l) how) ⟨ke rfl,ke rfl,trivial⟩) ?_
 refine cm rfl (co rfl (Az rfl (vl rfl) rfl) (co rfl (Az rfl (vl rfl) rfl) (cm rfl (cm rfl (Ch.nil (Fin.go (Es 2 4 6 7 8 9 11 13 16 17 21 rfl (Tr.seq (Tr.Ah (cm rfl (co rfl (ki rfl rfl rfl rfl) (Ch.nil (Fin.go ?_)))))))))))))
 refine Tr.cn rfl ?_ ?_<;>intro h3 q3
 refine Tr.seq (Tr.An (tp rfl (Al (rows:=[]) rfl MF FF trivial rfl) (tp rfl (Al (rows:=[]) rfl NQ F_ trivial rfl) (tm rfl (TO.AK 1 rfl rfl rfl (vl rfl) (Va rfl) rfl B5 rfl rfl (TO.AK 0 rfl rfl rfl (vl rfl) (Va rfl) rfl CJ rfl rfl (tm rfl (TO.nil (Fin.go (Cd 16 17 18 rfl (Tr.ret (Fin.AD (Fin.Ev rfl (AO.cell 1 rfl rfl CY B5 rfl (Lr)) (AO.cell 0 rfl rfl Cu CJ rfl (Lr)) (AO.tmp rfl (Lr)) ?_)))))))))))))
 refine Am ⟨?_,?_,?_,trivial⟩
 · exact En
 · exact Ct
 · exact AJ _ (Lr)
 have hep:=gC (c:=c) (l:=l) (by simpa using h3)
 refine Tr.skip (Fin.go (Tr.seq (Tr.seq (Tr.Ah (co rfl (AQ rfl Qp YS (vl rfl) rfl rfl) (cm rfl (co rfl (AR rfl (JV) ⟨ke rfl,ke rfl,ke rfl,trivial⟩) (cm rfl (Ch.nil (Fin.go (Es 2 4 6 7 8 9 11 13 16 17 22 rfl (Tr.seq (Tr.ex 22 rfl fun x22=>(Tr.Ah ?_))))))))))))))
 refine cm rfl (co rfl (ki rfl rfl rfl rfl) (Ch.nil (Fin.go ?_)))
 refine Tr.cn rfl ?_ ?_<;>intro h4 q4
 refine Tr.seq (Tr.An (tp rfl (Al (rows:=[]) rfl MF FF trivial rfl) (tp rfl (Al (rows:=[]) rfl NQ F_ trivial rfl) (tm rfl (TO.AK 1 rfl rfl rfl (vl rfl) (Va rfl) rfl B5 rfl rfl (TO.AK 0 rfl rfl rfl (vl rfl) (Va rfl) rfl CJ rfl rfl (tm rfl (TO.nil (Fin.go (Cd 16 17 18 rfl (Tr.ret (Fin.AD (Fin.Ev rfl (AO.cell 1 rfl rfl CY B5 rfl (Lr)) (AO.cell 0 rfl rfl Cu CJ rfl (Lr)) (AO.tmp rfl (Lr)) ?_)))))))))))))
 refine Am ⟨?_,?_,?_,trivial⟩
 · exact En
 · exact Ct
 · exact AJ _ (Lr)
 refine Tr.skip (Fin.go (Tr.seq (Tr.seq (Tr.Ah (cm rfl (cm rfl (co rfl (AR rfl (RT) ⟨ke rfl,ke rfl,trivial⟩) (co rfl (IP rfl (vl rfl)) (Ch.nil (Fin.go (Es 2 4 6 7 8 9 11 13 16 17 73 rfl (Tr.ex 73 rfl fun ACX=> ?_))))))))))))
 refine Tr.cn rfl ?_ ?_<;>intro h5 q5
 refine Tr.seq (Tr.An (tp rfl (Al (rows:=[]) rfl MF FF trivial rfl) (tp rfl (Al (rows:=[]) rfl NQ F_ trivial rfl) (TO.AK 1 rfl rfl rfl (vl rfl) (Va rfl) rfl B5 rfl rfl (TO.AK 0 rfl rfl rfl (vl rfl) (Va rfl) rfl CJ rfl rfl (tm rfl (TO.nil (Fin.go (Cd 16 17 18 rfl (Tr.ret (Fin.AD (Fin.Ev rfl (AO.cell 1 rfl rfl CY B5 rfl (Lr)) (AO.cell 0 rfl rfl Cu CJ rfl (Lr)) (AO.tmp rfl (Lr)) ?_))))))))))))
 refine Am ⟨?_,?_,?_,trivial⟩
 · exact En
 · exact Ct
 · exact AJ _ (Lr)
 refine Tr.skip (Fin.go (Tr.seq (Tr.Ah (co rfl (AQ rfl C8 C7 (vl rfl) rfl rfl) (cm rfl ?_)))))
 refine co rfl (AR rfl (Ud hf R3 (by omega) (fun x hx=>by have:=hep x hx;omega)) ⟨ke rfl,ke rfl,trivial⟩) ?_
 refine cm rfl (co rfl (Az rfl (vl rfl) rfl) (co rfl (Az rfl (vl rfl) rfl) (cm rfl (cm rfl (Ch.nil (Fin.go (Es 2 4 6 7 8 9 11 13 16 17 23 rfl (Tr.seq (Tr.seq (Tr.An (tp rfl (AQ rfl C8 C7 (vl rfl) rfl rfl) (tp rfl (AQ rfl Mt TN (vl rfl) rfl rfl) (tm rfl ?_)))))))))))))
 refine tm rfl (tp rfl (AQ rfl Qp YS (vl rfl) rfl rfl) (tm rfl (tp rfl (AQ rfl TP aa (vl rfl) rfl rfl) (tm rfl (tm rfl ?_)))))
 refine tp rfl (AR rfl (G6 (e:=e) (c:=c) (l:=l) (r:=lT e l) hz hn hc (by omega) (gD (by omega))) ⟨ke rfl,ke rfl,ke rfl,ke rfl,ke rfl,ke rfl,ke rfl,ke rfl,ke rfl,trivial⟩) ?_
 refine tm rfl (tp rfl (Az rfl (vl rfl) rfl) ?_)
 refine TO.ex 93 rfl (fun p1=>TO.fact 93 rfl fun bL=> ?_)
 refine tp rfl (Az rfl (vl rfl) rfl) (tp rfl (Az rfl (vl rfl) rfl) ?_)
 refine Tl rfl rfl rfl rfl z35 FF (fun b3=> ?_)
 refine Tl rfl rfl rfl rfl z53 F_ (fun b4=> ?_)
 refine TO.AK 1 rfl rfl rfl (vl rfl) (Va rfl) rfl B5 rfl rfl (TO.freeze 1 25 rfl rfl (TO.AK 0 rfl rfl rfl (vl rfl) (Va rfl) rfl CJ rfl rfl (TO.freeze 0 26 rfl rfl (tm rfl (TO.nil (Fin.go (LC 2 4 6 7 8 9 11 13 16 17 25 26 27 rfl (Tr.seq (Tr.Ah (cm rfl (Ch.nil (Fin.go (LC 2 4 6 7 8 9 11 13 16 17 25 26 96 rfl (Tr.ex 96 rfl fun ACY=> ?_))))))))))))))
 refine Tr.cn rfl ?_ ?_<;>intro h6 q6
 refine Tr.seq (Tr.F4 mixed [none,none,some (0,1,true,0),some (0,0,true,0),none] (by kernel_rfl) (xo rfl (fun _=>AQ rfl CY B5 (vl rfl) rfl rfl) (xo rfl (fun _=>AQ rfl Cu CJ (vl rfl) rfl rfl) (Cx.Dz 1 rfl rfl (A0 rfl rfl (vl rfl) (Va rfl) B5 rfl (by exact Nb rfl) rfl) (Cx.Dz 0 rfl rfl (A0 rfl rfl (vl rfl) (Va rfl) CJ rfl (by exact Nb rfl) rfl) (xm rfl ?_))))))
 refine Cx.nil ⟨rfl,?_⟩
 refine BH.done (Ar.cons (Ar.cons (Ar.map _))) (Fin.go (Cd 16 17 18 rfl (Tr.ret (Fin.AD (Fin.Ev rfl (AO.cell 1 rfl rfl CY B5 rfl (Lr)) (AO.cell 0 rfl rfl Cu CJ rfl (Lr)) (AO.tmp rfl (Lr)) ?_)))))
 refine Am ⟨?_,?_,?_,trivial⟩
 · exact AJ _ (AU (by assumption) (Lr))
 · exact Lr
 · exact AJ _ (Lr)
 refine Tr.skip (Fin.go (HQ 2 4 6 7 8 9 11 13 16 17 rfl (Tr.seq (Tr.seq (Tr.Ah (cm rfl (co rfl (Bo rfl underlying32 (vl rfl)) (co rfl (ki rfl rfl rfl rfl) (Ch.nil (Fin.go ?_))))))))))
 refine Tr.cn rfl ?_ ?_<;>intro h7 q7
 refine Tr.seq (Tr.An (tp rfl (Al (rows:=[]) rfl MF FF trivial rfl) (tp rfl (Al (rows:=[]) rfl NQ F_ trivial rfl) (TO.AK 1 rfl rfl rfl (vl rfl) (Va rfl) rfl B5 rfl rfl (TO.AK 0 rfl rfl rfl (vl rfl) (Va rfl) rfl CJ rfl rfl (tm rfl (TO.nil (Fin.go (Cd 16 17 18 rfl (Tr.ret (Fin.AD (Fin.Ev rfl (AO.cell 1 rfl rfl CY B5 rfl (Lr)) (AO.cell 0 rfl rfl Cu CJ rfl (Lr)) (AO.tmp rfl (Lr)) ?_))))))))))))
 refine Am ⟨?_,?_,?_,trivial⟩
 · exact En
 · exact Ct
 · exact AJ _ (Lr)
 refine Tr.skip (Fin.go (Tr.seq (Tr.seq (Tr.Ah (co rfl (AQ rfl C8 C7 (vl rfl) rfl rfl) (cm rfl (cm rfl (cm rfl (co rfl (AR rfl (QW hz hn hc) ⟨ke rfl,ke rfl,ke rfl,ke rfl,trivial⟩) (cm rfl (co rfl (Az rfl (vl rfl) rfl) (co rfl (Az rfl (vl rfl) rfl) (cm rfl ?_)))))))))))))
 refine cm rfl (Ch.nil (Fin.go (ON 2 4 6 7 8 9 11 13 16 17 28 29 rfl (Tr.seq (Tr.ex 29 rfl fun x29=>(Tr.Ah (cm rfl (co rfl (ki rfl rfl rfl rfl) (Ch.nil (Fin.go (ON 2 4 6 7 8 9 11 13 16 17 28 113 rfl ?_)))))))))))
 refine Tr.cn rfl ?_ ?_<;>intro h8 q8
 refine Tr.seq (Tr.ex 28 rfl fun sq=>(Tr.fact 28 rfl fun hsq=>(Tr.pad (Tr.pad (Tr.F4 mixed [none,none,none,none,none,none,none,none,none,none,none,none,none,none,none,some (0,0,true,30),some (0,1,true,31),some (30,0,true,30),some (31,1,true,31),none] (by kernel_rfl) (xo rfl (fun _=>AQ rfl C8 C7 (vl rfl) rfl rfl) (xo rfl (fun _=>AQ rfl Mt TN (vl rfl) rfl rfl) (xm rfl (xm rfl (xo rfl (fun _=>AR rfl (JZ hsq) ⟨ke rfl,trivial⟩) (xo rfl (fun _=>AQ rfl Qp YS (vl rfl) rfl rfl) (xm rfl (xo rfl (fun _=>AQ rfl TP aa (vl rfl) rfl rfl) ?_)))))))))))))
 refine xm rfl (xm rfl ?_)
 refine xo rfl (fun _=>AR rfl (BA.fA [agg (B1 e),Kk c,Eu l] ([]:List BG) (by simp) fun z lX=>G6 (e:=e) (c:=c) (l:=l) (r:=z) hz hn hc (by omega) lX) ⟨ke rfl,ke rfl,ke rfl,ke rfl,ke rfl,ke rfl,ke rfl,ke rfl,ke rfl,trivial⟩) ?_
 refine xm rfl (xo rfl (fun _=>Az rfl (vl rfl) rfl) (xo rfl (fun _=>Az rfl (vl rfl) rfl) (xo rfl (fun _=>Az rfl (vl rfl) rfl) (Cx.ef 0 rfl rfl (by decide) (Ca rfl rfl (by decide) rfl z35 FF) (Cx.ef 1 rfl rfl (by decide) (Ca rfl rfl (by decide) rfl z53 F_) (Cx.Dz 0 rfl rfl (Jw (f:=fun z:List BQ×List BG×List Int=>[Eu z.1,reqs z.2.1,ints z.2.2]) (φ:=fun z:List BQ×List BG×List Int=>Pt e.Be.length z.1 z.2.1 z.2.2) rfl rfl rfl (by decide) rfl rfl B5 (fun _=>rfl) rfl) (Cx.Dz 1 rfl rfl (DC rfl rfl rfl rfl (Va rfl) CJ rfl rfl) (xm rfl ?_))))))))
 refine Cx.nil ⟨rfl,?_⟩
 refine BH.open_ 0 30 rfl rfl (fun v1=> ?_)
 refine BH.open_ 1 31 rfl rfl (fun v2=> ?_)
 refine BH.done (Ar.cons (Ar.cons (Ar.cons (Ar.cons (Ar.map _))))) (Fin.MB 30 0 _ rfl rfl (fun _=>rfl) (fun b5=> ?_))
 refine Fin.Xq 0 rfl (fun pe1 xB=> ?_)
 refine Fin.MB 31 1 _ rfl rfl (fun _=>rfl) (fun b6=> ?_)
 refine Fin.go (LC 2 4 6 7 8 9 11 13 16 17 30 31 32 rfl (Tr.seq (Tr.Ah (cm rfl (Ch.nil (Fin.go (LC 2 4 6 7 8 9 11 13 16 17 30 31 129 rfl (Tr.ex 129 rfl fun ABq=> ?_))))))))
 refine Tr.cn rfl ?_ ?_<;>intro h9 q9
 refine Tr.seq (Tr.F4 mixed [some (0,0,false,0),some (0,1,false,0),some (0,3,true,0),some (0,2,true,0),none] (by kernel_rfl) (Iw 0 rfl rfl (CI rfl CY B5 (vl rfl) rfl rfl) (Iw 1 rfl rfl (CI rfl Cu CJ (vl rfl) rfl rfl) (Cx.Dz 3 rfl rfl (A0 rfl rfl (vl rfl) (Va rfl) B5 rfl (by exact Nb rfl) rfl) (Cx.Dz 2 rfl rfl (A0 rfl rfl (vl rfl) (Va rfl) CJ rfl (by exact Nb rfl) rfl) (xm rfl ?_))))))
 refine Cx.nil ⟨rfl,?_⟩
 refine BH.done (Ar.cons (Ar.cons (Ar.cons (Ar.cons (Ar.map _))))) (Fin.go (Tr.drop 0 (Tr.drop 0 (Cd 16 17 18 rfl (Tr.ret (Fin.AD (Fin.Ev rfl (AO.cell 1 rfl rfl CY B5 rfl (Lr)) (AO.cell 0 rfl rfl Cu CJ rfl (Lr)) (AO.tmp rfl (Lr)) ?_)))))))
 refine Am ⟨?_,?_,?_,trivial⟩
 · exact AJ _ (AU (by assumption) (Lr))
 · exact Lr
 · exact AJ _ (Lr)
 refine Tr.skip (Fin.go (Tr.drop 0 (Tr.drop 0 (HQ 2 4 6 7 8 9 11 13 16 17 rfl (Tr.seq (Tr.seq (Tr.pad (Tr.pad (Tr.F4 mixed [none,none,none,none,none,none,none,none,none,none,none,none,none,none,none,none,none,some (0,0,true,33),some (0,1,true,34),some (33,0,true,33),some (34,1,true,34),none] (by kernel_rfl) (xo rfl (fun _=>AQ rfl C8 C7 (vl rfl) rfl rfl) (xo rfl (fun _=>AQ rfl Mt TN (vl rfl) rfl rfl) (xm rfl (xm rfl ?_)))))))))))))
 refine xo rfl (fun _=>Bo rfl underlying32 (vl rfl)) ?_
 refine xo rfl (fun _=>AR rfl (RV (n:=l.length) (by omega)) ⟨ke rfl,trivial⟩) ?_
 refine xo rfl (fun _=>AR rfl (BA.fA [] [] (Nat.zero_le _) fun z lX=>JZ lX) ⟨ke rfl,trivial⟩) (xo rfl (fun _=>AQ rfl Qp YS (vl rfl) rfl rfl) (xm rfl (xo rfl (fun _=>AQ rfl TP aa (vl rfl) rfl rfl) (xm rfl (xm rfl ?_)))))
 refine xo rfl (fun _=>AR rfl (BA.fA [agg (B1 e),Kk c,Eu l] ([]:List BG) (by simp) fun z lX=>G6 (e:=e) (c:=c) (l:=l) (r:=z) hz hn hc (by omega) lX) ⟨ke rfl,ke rfl,ke rfl,ke rfl,ke rfl,ke rfl,ke rfl,ke rfl,ke rfl,trivial⟩) ?_
 refine xm rfl (xo rfl (fun _=>Az rfl (vl rfl) rfl) (xo rfl (fun _=>Az rfl (vl rfl) rfl) (xo rfl (fun _=>Az rfl (vl rfl) rfl) (Cx.ef 0 rfl rfl (by decide) (Ca rfl rfl (by decide) rfl z35 FF) (Cx.ef 1 rfl rfl (by decide) (Ca rfl rfl (by decide) rfl z53 F_) (Cx.Dz 0 rfl rfl (Jw (f:=fun z:List BQ×List BG×List Int=>[Eu z.1,reqs z.2.1,ints z.2.2]) (φ:=fun z:List BQ×List BG×List Int=>Pt e.Be.length z.1 z.2.1 z.2.2) rfl rfl rfl (by decide) rfl rfl B5 (fun _=>rfl) rfl) (Cx.Dz 1 rfl rfl (DC rfl rfl rfl rfl (Va rfl) CJ rfl rfl) (xm rfl ?_))))))))
 refine Cx.nil ⟨rfl,?_⟩
 refine BH.open_ 0 33 rfl rfl (fun v3=> ?_)
 refine BH.open_ 1 34 rfl rfl (fun v4=> ?_)
 refine BH.done (Ar.cons (Ar.cons (Ar.cons (Ar.cons (Ar.map _))))) (Fin.MB 33 0 _ rfl rfl (fun _=>rfl) (fun b7=> ?_))
 refine Fin.Xq 0 rfl (fun pe2 ACZ=> ?_)
 refine Fin.MB 34 1 _ rfl rfl (fun _=>rfl) (fun b8=> ?_)
 refine Fin.go (KP 16 17 33 34 35 rfl (Tr.seq (Tr.Ah (cm rfl (Ch.nil (Fin.go (Tr.ex 149 rfl fun xC=> ?_)))))))
 refine Tr.cn rfl ?_ ?_<;>intro h10 QH
 refine Tr.seq (Tr.F4 mixed [some (0,0,false,0),some (0,1,false,0),some (0,3,true,0),some (0,2,true,0),none] (by kernel_rfl) (Iw 0 rfl rfl (CI rfl CY B5 (vl rfl) rfl rfl) (Iw 1 rfl rfl (CI rfl Cu CJ (vl rfl) rfl rfl) (Cx.Dz 3 rfl rfl (A0 rfl rfl (vl rfl) (Va rfl) B5 rfl (by exact Nb rfl) rfl) (Cx.Dz 2 rfl rfl (A0 rfl rfl (vl rfl) (Va rfl) CJ rfl (by exact Nb rfl) rfl) (xm rfl ?_))))))
 refine Cx.nil ⟨rfl,?_⟩
 refine BH.done (Ar.cons (Ar.cons (Ar.cons (Ar.cons (Ar.map _))))) (Fin.go (Tr.drop 0 (Tr.drop 0 (Tr.ret (Fin.AD (Fin.Ev rfl (AO.cell 1 rfl rfl CY B5 rfl (Lr)) (AO.cell 0 rfl rfl Cu CJ rfl (Lr)) (AO.tmp rfl (Lr)) ?_))))))
 refine Am ⟨?_,?_,?_,trivial⟩
 · exact AJ _ (AU (by assumption) (Lr))
 · exact Lr
 · exact AJ _ (Lr)
 refine Tr.skip (Fin.go (Tr.drop 0 (Tr.drop 0 (Tr.seq (Tr.An (tp rfl (Al (rows:=[]) rfl MF FF trivial rfl) (tp rfl (Al (rows:=[]) rfl NQ F_ trivial rfl) (TO.AK 1 rfl rfl rfl (vl rfl) (Va rfl) rfl B5 rfl rfl (TO.AK 0 rfl rfl rfl (vl rfl) (Va rfl) rfl CJ rfl rfl (tm rfl (TO.nil (Fin.go (Tr.ret (Fin.Ev rfl (AO.cell 1 rfl rfl CY B5 rfl (Lr)) (AO.cell 0 rfl rfl Cu CJ rfl (Lr)) (AO.tmp rfl (Lr)) ?_))))))))))))))
 refine Am ⟨?_,?_,?_,trivial⟩
 · exact En
 · exact Ct
 · exact AJ _ (Lr)
 refine Tr.skip (Fin.go (Tr.seq (Tr.seq (Tr.pad (Tr.pad (Tr.F4 mixed [none,none,none,none,none,none,none,none,none,none,none,none,none,none,none,none,none,some (0,0,true,33),some (0,1,true,34),some (33,0,true,33),some (34,1,true,34),none] (by kernel_rfl) (xo rfl (fun _=>AQ rfl C8 C7 (vl rfl) rfl rfl) (xo rfl (fun _=>AQ rfl Mt TN (vl rfl) rfl rfl) (xm rfl (xm rfl (xo rfl (fun _=>Bo rfl underlying32 (vl rfl)) ?_)))))))))))
 refine xo rfl (fun _=>AR rfl (RV (n:=l.length) (by omega)) ⟨ke rfl,trivial⟩) ?_
 refine xo rfl (fun _=>AR rfl (BA.fA [] [] (Nat.zero_le _) fun z lX=>JZ lX) ⟨ke rfl,trivial⟩) (xo rfl (fun _=>AQ rfl Qp YS (vl rfl) rfl rfl) (xm rfl (xo rfl (fun _=>AQ rfl TP aa (vl rfl) rfl rfl) (xm rfl (xm rfl ?_)))))
 refine xo rfl (fun _=>AR rfl (BA.fA [agg (B1 e),Kk c,Eu l] ([]:List BG) (by simp) fun z lX=>G6 (e:=e) (c:=c) (l:=l) (r:=z) hz hn hc (by omega) lX) ⟨ke rfl,ke rfl,ke rfl,ke rfl,ke rfl,ke rfl,ke rfl,ke rfl,ke rfl,trivial⟩) ?_
 refine xm rfl (xo rfl (fun _=>Az rfl (vl rfl) rfl) (xo rfl (fun _=>Az rfl (vl rfl) rfl) (xo rfl (fun _=>Az rfl (vl rfl) rfl) (Cx.ef 0 rfl rfl (by decide) (Ca rfl rfl (by decide) rfl z35 FF) (Cx.ef 1 rfl rfl (by decide) (Ca rfl rfl (by decide) rfl z53 F_) (Cx.Dz 0 rfl rfl (Jw (f:=fun z:List BQ×List BG×List Int=>[Eu z.1,reqs z.2.1,ints z.2.2]) (φ:=fun z:List BQ×List BG×List Int=>Pt e.Be.length z.1 z.2.1 z.2.2) rfl rfl rfl (by decide) rfl rfl B5 (fun _=>rfl) rfl) (Cx.Dz 1 rfl rfl (DC rfl rfl rfl rfl (Va rfl) CJ rfl rfl) (xm rfl ?_))))))))
 refine Cx.nil ⟨rfl,?_⟩
 refine BH.open_ 0 33 rfl rfl (fun v5=> ?_)
 refine BH.open_ 1 34 rfl rfl (fun v6=> ?_)
 refine BH.done (Ar.cons (Ar.cons (Ar.cons (Ar.cons (Ar.map _))))) (Fin.MB 33 0 _ rfl rfl (fun _=>rfl) (fun b9=> ?_))
 refine Fin.Xq 0 rfl (fun pe3 ACa=> ?_)
 refine Fin.MB 34 1 _ rfl rfl (fun _=>rfl) (fun b10=> ?_)
 refine Fin.go (KP 16 17 33 34 35 rfl (Tr.seq (Tr.Ah (cm rfl (Ch.nil (Fin.go (Tr.ex 149 rfl fun xC=> ?_)))))))
 refine Tr.cn rfl ?_ ?_<;>intro h11 QG
 refine Tr.seq (Tr.F4 mixed [some (0,0,false,0),some (0,1,false,0),some (0,3,true,0),some (0,2,true,0),none] (by kernel_rfl) (Iw 0 rfl rfl (CI rfl CY B5 (vl rfl) rfl rfl) (Iw 1 rfl rfl (CI rfl Cu CJ (vl rfl) rfl rfl) (Cx.Dz 3 rfl rfl (A0 rfl rfl (vl rfl) (Va rfl) B5 rfl (by exact Nb rfl) rfl) (Cx.Dz 2 rfl rfl (A0 rfl rfl (vl rfl) (Va rfl) CJ rfl (by exact Nb rfl) rfl) (xm rfl ?_))))))
 refine Cx.nil ⟨rfl,?_⟩
 refine BH.done (Ar.cons (Ar.cons (Ar.cons (Ar.cons (Ar.map _))))) (Fin.go (Tr.drop 0 (Tr.drop 0 (Tr.ret (Fin.AD (Fin.Ev rfl (AO.cell 1 rfl rfl CY B5 rfl (Lr)) (AO.cell 0 rfl rfl Cu CJ rfl (Lr)) (AO.tmp rfl (Lr)) ?_))))))
 refine Am ⟨?_,?_,?_,trivial⟩
 · exact AJ _ (AU (by assumption) (Lr))
 · exact Lr
 · exact AJ _ (Lr)
 refine Tr.skip (Fin.go (Tr.drop 0 (Tr.drop 0 (Tr.seq (Tr.An (tp rfl (Al (rows:=[]) rfl MF FF trivial rfl) (tp rfl (Al (rows:=[]) rfl NQ F_ trivial rfl) (TO.AK 1 rfl rfl rfl (vl rfl) (Va rfl) rfl B5 rfl rfl (TO.AK 0 rfl rfl rfl (vl rfl) (Va rfl) rfl CJ rfl rfl (tm rfl (TO.nil (Fin.go (Tr.ret (Fin.Ev rfl (AO.cell 1 rfl rfl CY B5 rfl (Lr)) (AO.cell 0 rfl rfl Cu CJ rfl (Lr)) (AO.tmp rfl (Lr)) ?_))))))))))))))
 refine Am ⟨?_,?_,?_,trivial⟩
 · exact En
 · exact Ct
 · exact AJ _ (Lr)
theorem rP (s:DS):s.of [1,0,3]=1∨s.of [1,0,3]=0∨s.of [1,0,3]=3:=by have:=s.OR (l:=[1,0,3]) (by simp);simp at this;exact this
theorem X9 (s:DS) {k:Nat} (hk:k≤7):0≤((k:Nat):Int)*s.of [1,0,3]∧((k:Nat):Int)*s.of [1,0,3]≤21:=by rcases rP s with h|h|h<;>rw [h]<;>omega
theorem gE {o:List Int} {x:Int} (h:∀y∈o,0≤y∧y≤40000) (hx:0≤x∧x≤40000):∀y∈o++[x],0≤y∧y≤40000:=fun y hy=>by
 rcases List.mem_append.1 hy with hy|hy
 · exact h y hy
 · rw [List.mem_singleton] at hy;subst hy;exact hx
theorem rQ {b:Nat} {s:DS}  :CX prog 7 [ptr b 0] (Cp.ex fun e:DD=>fact (M8 e) (EK [agg (B1 e),X8 e.Be.length,Dw])) (C1 b s) (fun _=>Hv 48 b):=by
 refine CX.of func7 rfl rfl (by exact Nb rfl) fun M0 w0 S rs M1 w1=> ?_
 refine Tr.seq (Tr.An ?_)
 refine Tl rfl rfl rfl rfl z31 HR (fun b1=> ?_)
 refine Tl rfl rfl rfl rfl z35 FF (fun b2=> ?_)
 refine tm rfl (TO.nil (Fin.go (Tr.seq (Tr.An (tm rfl (TO.Jc 2 rfl rfl (by decide) (As rfl rfl (by decide) rfl (cZ) ⟨ke rfl,trivial⟩) ?_))))))
 refine TO.ex 13 rfl (fun z1=>TO.fact 13 rfl fun FE=> ?_)
 refine Tl rfl rfl rfl rfl z31 HR (fun b3=> ?_)
 refine TO.AK 0 rfl rfl rfl (vl rfl) (Va rfl) rfl C7 rfl rfl (TO.freeze 0 5 rfl rfl (TO.nil (Fin.Qk 2 rfl (fun s1=> ?_))))
 refine Fin.go (Tr.seq (Tr.An (tm rfl (tp rfl (AQ rfl C8 C7 (vl rfl) rfl rfl) ?_))))
 refine TO.Jc 2 rfl rfl (by decide) (As rfl rfl (by decide) rfl (jz (e:=z1) FE.snd ⟨by have:=FE.n2;omega,FE.n3⟩) ⟨ke rfl,ke rfl,trivial⟩) ?_
 refine TO.ex 16 rfl (fun z2=>TO.fact 16 rfl fun Gf=> ?_)
 refine tm rfl (TO.nil (Fin.Qk 2 rfl (fun s2=> ?_)))
 refine Fin.go (KP 0 2 3 5 6 rfl (Tr.seq ?_))
 have Z6:∀x∈z2,x.Cw.fits∧x.Cw.small:=fun x hx=>⟨(Gf.any x hx).fits,(Gf.any x hx).small⟩
 have h7:=Gf.len
 refine Tr.pad (Tr.pad (Tr.F4 mixed [none,none,none,none,none,none,none,none,none,none,none,none,none,some (0,0,true,7),some (0,1,true,8),some (7,0,true,7),some (8,1,true,8),none] (by kernel_rfl) (xo rfl (fun _=>AQ rfl C8 C7 (vl rfl) rfl rfl) (xo rfl (fun _=>S0 rfl Hw rfl rfl) (xo rfl (fun _=>Gg rfl Qo rfl) (xo rfl (fun _=>Bo rfl underlying27 (vl rfl)) ?_))))))
 refine xo rfl (fun _=>AR rfl (rL (n:=z1.Be.length) (by have:=FE.n3;omega)) ⟨ke rfl,trivial⟩) ?_
 refine xm rfl (xo rfl (fun _=>Al (rows:=[]) rfl zD zE trivial rfl) (xo rfl (fun _=>Al (rows:=[]) rfl zF zG trivial rfl) ?_))
 refine xo rfl (fun _=>AR rfl (Zn (e:=z1) (c:=nO z1.Be.length) (l:=z2) FE.sz (by omega) Z6 Gf.len) ⟨ke rfl,ke rfl,ke rfl,⟨_,rfl,Aw ⟨AF 6,AF 2,trivial⟩⟩,⟨_,rfl,AF _⟩,⟨_,rfl,Aw ⟨AF 1,Lr,trivial⟩⟩,ke rfl,ke rfl,trivial⟩) ?_
 refine xm rfl (xo rfl (fun _=>Az rfl (vl rfl) rfl) (xo rfl (fun _=>Az rfl (vl rfl) rfl) (xo rfl (fun _=>Az rfl (vl rfl) rfl) (Cx.ef 0 rfl rfl (by decide) (Ca rfl rfl (by decide) rfl z35 FF) (Cx.ef 1 rfl rfl (by decide) (Ca rfl rfl (by decide) rfl z53 F_) (Cx.Dz 0 rfl rfl (Jw (f:=fun z:List BQ×List BG×List Int=>[Eu z.1,reqs z.2.1,ints z.2.2]) (φ:=fun z:List BQ×List BG×List Int=>Pt z1.Be.length z.1 z.2.1 z.2.2) rfl rfl rfl (by decide) rfl rfl B5 (fun _=>rfl) rfl) (Cx.Dz 1 rfl rfl (DC rfl rfl rfl rfl (Va rfl) CJ rfl rfl) (xm rfl ?_))))))))
 refine Cx.nil ⟨rfl,?_⟩
 refine BH.open_ 0 7 rfl rfl (fun v1=> ?_)
 refine BH.open_ 1 8 rfl rfl (fun v2=> ?_)
 refine BH.done (Ar.cons (Ar.cons (Ar.cons (Ar.cons (Ar.cons (Ar.cons (Ar.map _))))))) (Fin.MB 7 0 _ rfl rfl (fun _=>rfl) (fun b4=> ?_))
 refine Fin.Xq 0 rfl (fun pe1 xB=> ?_)
 refine Fin.MB 8 1 _ rfl rfl (fun _=>rfl) (fun b5=> ?_)
 refine Fin.go (Tr.drop 1 (Je 0 2 3 5 6 7 9 rfl (Tr.seq (Tr.seq (Tr.ex 9 rfl fun x9=>(Tr.Ah (cm rfl (co rfl (ki rfl rfl rfl rfl) (Ch.nil (Fin.go ?_))))))))))
 refine Tr.cn rfl ?_ ?_<;>intro h1 q1
 refine Tr.seq (Tr.F4 mixed [none,some (0,0,false,0),some (0,2,true,0),some (0,1,true,0),none] (by kernel_rfl) (xo rfl (fun _=>AQ rfl C8 C7 (vl rfl) rfl rfl) (Iw 0 rfl rfl (CI rfl CY B5 (vl rfl) rfl rfl) (Cx.Dz 2 rfl rfl (A0 rfl rfl (vl rfl) (Va rfl) C7 rfl (by exact Nb rfl) rfl) (Cx.Dz 1 rfl rfl (A0 rfl rfl (vl rfl) (Va rfl) B5 rfl (by exact Nb rfl) rfl) (xm rfl ?_))))))
 refine Cx.nil ⟨rfl,?_⟩
 refine BH.done (Ar.cons (Ar.cons (Ar.cons (Ar.cons (Ar.cons (Ar.map _)))))) (Fin.go (Tr.drop 0 (Tr.ret (Fin.AD (Fin.GO 2 _ rfl rfl (Fin.mD [_,_] rfl (AO.cell 1 rfl rfl C8 C7 rfl (Lr)) (AO.cell 0 rfl rfl CY B5 rfl (Lr)) (AO.tmp rfl (Lr)) ?_))))))
 · exact AJ z1 (AU FE (Am ⟨Lr,AJ pe1 (AU xB (Lr)),AJ _ (Lr),trivial⟩))
 refine Tr.skip (Fin.go (Tr.drop 0 (Tr.seq (Tr.An (tm rfl (tm rfl (tm rfl (tp rfl (Bo rfl underlying32 (vl rfl)) ?_))))))))
 refine TO.Jc 2 rfl rfl (by decide) (As rfl rfl (by decide) rfl (lR (n:=z2.length) (by have:=Gf.len;omega)) ⟨ke rfl,ke rfl,trivial⟩) ?_
 refine TO.ex 38 rfl (fun z3=>TO.fact 38 rfl fun hz3=> ?_)
 revert z3
 intro rq lE
 refine tp rfl (Al (rows:=[(0,[_]),(1,[_])]) rfl MF FF ⟨⟨rfl,(Vo rfl)⟩,⟨⟨rfl,(Vo rfl)⟩,trivial⟩⟩ rfl) ?_
 refine Tl rfl rfl rfl rfl z35 FF (fun b6=> ?_)
 refine TO.AK 0 rfl rfl rfl (vl rfl) (Va rfl) rfl B5 rfl rfl (TO.nil (Fin.Qk 3 rfl (fun s3=> ?_)))
 refine Fin.go (K0 0 2 3 5 6 10 rfl (Tr.seq (Tr.seq (Tr.Ah (cm rfl (co rfl (Bo rfl underlying32 (vl rfl)) (cm rfl (Ch.nil (Fin.go (Tr.block (Tr.Hl 0 [Eu z2,reqs rq,Ag (.slice none 0 0) (ints [])] rfl ⟨Lr,Lr,Bf rfl,trivial⟩ (Tr.B0 3 1 (Tr.E9 [(0,_),(2,_),(3,_),(5,_),(10,_),(41,_)] ⟨ke rfl,ke rfl,ke rfl,ke rfl,ke rfl,ke rfl,trivial⟩ (fun (k:Nat) (dd:List Int) (s2:DS) v=>[(42,int ((k:Nat):Int))]) (fun (k:Nat) (dd:List Int) (s2:DS) v=>Hp M0 w0 S (Aq 3 1 v::AB true b6 35 [Eu z2,reqs rq,Ag v (ints dd)]::AB true b2 35 (([.slice none 0 0,.slice none 0 0,.slice none 0 0]:List Value).map is)::AB true b1 31 (([.slice none 0 0,.slice none 0 0,.slice none 0 0]:List Value).map is)::C1 b s2::Aj M1 w1::rs)) (fun (k:Nat) (dd:List Int) (s2:DS)=>(k≤z2.length∧dd.length=k)∧∀x∈dd,0≤x∧x≤40000) (fun (k:Nat) (dd:List Int) (s2:DS)=>z2.length-k) (0) ([]) (_) (.slice none 0 0) (⟨⟨Nat.zero_le _,rfl⟩,fun x h=>(by cases h)⟩) ⟨ke rfl,trivial⟩ (fun _ _ h=>h) ?_)))))))))))))
 rintro k dd s2 v ⟨⟨hk0,gU⟩,hdb⟩
 refine Tr.seq (Tr.Ah (co rfl (ki rfl rfl rfl rfl) (Ch.nil (Fin.go (Tr.seq ?_)))))
 refine Tr.cn rfl ?_ ?_<;>intro h2 q2
 have hk:k<z2.length:=AG h2
 refine Tr.skip (Fin.go (Tr.seq (Tr.block (Tr.seq (Tr.Ah (cm rfl (cm rfl (Ch.nil (Fin.go (Tr.pad (Tr.F4 mixed [none,some (0,2,false,0),none,none,none,some (0,5,true,0),none,none,some (0,1,true,53),none,some (0,2,true,53)] (by kernel_rfl) (xo rfl (fun _=>Ac rfl U0 (vl rfl)) (Iw 2 rfl rfl (A_ rfl Qn (vl rfl) rfl) ?_)))))))))))))
 refine xm rfl (xm rfl (xo rfl (fun _=>AM (xs:=[.const (.int .i64 (1)),.const (.int .i64 (0)),.const (.int .i64 (3))]) (rows:=[[_],[_],[_]]) rfl rfl underlying22 B4 z3 rfl (by decide) ⟨⟨(by exact rfl),(Vo rfl)⟩,⟨⟨(by exact rfl),(Vo rfl)⟩,⟨⟨(by exact rfl),(Vo rfl)⟩,trivial⟩⟩⟩ (by decide)) ?_))
 refine Cx.ef 5 rfl rfl (by decide) (As rfl rfl (by decide) rfl (Th (l:=[1,0,3]) (by simp) (by simp)) ⟨ke rfl,(Kf rfl),trivial⟩) ?_
 refine xo rfl (fun _=>aB rfl (vl rfl) (vl rfl) (by have:=X9 s2 (k:=k) (by omega);unfold Kz;omega)) ?_
 refine xo rfl (fun _=>AM (xs:=[.tmp 51]) (rows:=[[_]]) rfl rfl underlying22 B4 z3 rfl (by decide) ⟨⟨(by exact rfl),(Vo rfl)⟩,trivial⟩ (by decide)) ?_
 refine Cx.ef 1 rfl rfl (by decide) (Bt rfl rfl rfl rfl underlying22 B4 Jf z3 (Kb rfl) (Kf rfl) (Au (by exact List.Mem.head _) (Ka rfl))) ?_
 refine xo rfl (fun _=>Ac rfl U0 (vl rfl)) (Cx.Dz 2 rfl rfl (GH rfl rfl rfl (vl rfl) rfl MC (by exact Nb rfl)) ?_)
 refine Cx.nil ⟨rfl,?_⟩
 refine BH.Ql 1 2 53 rfl rfl (by decide) rfl (fun v3=> ?_)
 refine BH.done (Ar.cons (Ar.cons (Ar.cons (Ar.cons (Ar.cons (Ar.cons (Ar.cons (Ar.map _)))))))) (Fin.block (Fin.go (Tr.drop 0 (Je 0 2 3 5 10 41 42 rfl (Tr.Ah (J8 rfl rfl rfl rfl (by omega) (cm rfl (Ch.nil ?_))))))))
 refine Fin.Hl 1 [Eu z2,reqs rq,Ag v3 (ints (dd++[(((k:Nat):Int)*s2.of [1,0,3])]))] rfl ⟨Lr,Lr,A7 (by rw [List.map_append];rfl),trivial⟩ ?_
 exact Fin.Dr (k+1) (dd++[(((k:Nat):Int)*s2.of [1,0,3])]) (_) v3 (⟨⟨⟨by omega,by simp;omega⟩,gE hdb (by have:=X9 s2 (k:=k) (by omega);omega)⟩,by omega⟩) ⟨⟨_,rfl,AE k⟩,ke rfl,ke rfl,ke rfl,ke rfl,ke rfl,ke rfl,trivial⟩ (fun _ _ h=>h)
 have VO:=AH h2
 refine Tr.exit (Fin.Ad (Fin.Ad (Fin.Ax (Fin.go (Tr.seq (Tr.F4 mixed [none,some (0,1,false,0),some (0,3,true,0),some (0,2,true,0),none] (by kernel_rfl) (xo rfl (fun _=>AQ rfl C8 C7 (vl rfl) rfl rfl) (Iw 1 rfl rfl (CI rfl CY B5 (vl rfl) rfl rfl) (Cx.Dz 3 rfl rfl (A0 rfl rfl (vl rfl) (Va rfl) C7 rfl (by exact Nb rfl) rfl) (Cx.Dz 2 rfl rfl (A0 rfl rfl (vl rfl) (Va rfl) B5 rfl (by exact Nb rfl) rfl) (xm rfl ?_)))))))))))
 refine Cx.nil ⟨rfl,?_⟩
 refine BH.done (Ar.cons (Ar.cons (Ar.cons (Ar.cons (Ar.cons (Ar.cons (Ar.map _))))))) (Fin.go (Tr.ret (Fin.GO 4 _ rfl rfl (Fin.mD [_,_,_,_] rfl (AO.cell 3 rfl rfl C8 C7 rfl (Lr)) (AO.cell 2 rfl rfl CY B5 rfl (Lr)) (AO.tmp rfl (Lr)) ?_))))
 · exact AJ z1 (AU FE (Am ⟨Lr,AJ (z2,rq,dd) (AU ⟨⟨by show z2.length≤24;omega,by show dd.length=z2.length;omega,lE.1.valid (by show z2.length≤24;omega),fun j y c hj hy hcj=>⟨hdb y (List.mem_of_getElem? hy),(Gf.any c (List.mem_of_getElem? hcj)).lo,(Gf.any c (List.mem_of_getElem? hcj)).hi⟩⟩,h7,Z6,by have:=lE.2;show rq.length≤1000;omega⟩ (Aw ⟨Lr,Lr,Ak _ _,trivial⟩)),AJ _ (Lr),trivial⟩))
theorem lY {β:Type} {p:β→Bool} {l:List β} (h:¬idx p l= -1):0≤idx p l∧(idx p l).toNat<l.length∧TY p l l (idx p l).toNat ((idx p l).toNat+1):=by
 unfold idx at h ⊢
 cases hf:l.findIdx? p with
 |none=>rw [hf] at h;exact absurd rfl h
 |some i=>
  rw [List.findIdx?_eq_some_iff_getElem] at hf
  obtain ⟨h1,h2,h3⟩:=hf
  refine ⟨by simp,by simpa using h1,rfl,by simp,by simp only [Int.toNat_natCast];omega,?_,rfl⟩
  simp only [Int.toNat_natCast]
  rw [List.take_add_one,List.getElem?_eq_getElem h1,List.filter_append]
  have:(l.take i).filter (fun x=> !p x)=l.take i:=by
   rw [List.filter_eq_self];intro x hx
   obtain ⟨j,hj,rfl⟩:=List.mem_iff_getElem.1 hx
   rw [List.length_take] at hj
   have:=h3 j (by omega)
   simpa using this
  rw [this];simp [h2]
theorem lZ {β:Type} {p:β→Bool} {l:List β} (h:idx p l= -1):l.filter (fun x=> !p x)=l:=by
 unfold idx at h
 cases hf:l.findIdx? p with
 |none=>rw [List.findIdx?_eq_none_iff] at hf;rw [List.filter_eq_self];intro x hx;simpa using hf x hx
 |some i=>rw [hf] at h;exact absurd h (by simp)
abbrev RW (n:Nat):={i:Int//0≤i∧i<(n:Int)}
abbrev Ky {n:Nat} (i:RW n):List Pr:=[int i.1]
abbrev ABH {n:Nat} (l:List (RW n)):Pr:=slice 1 (l.map Ky)
theorem toZ {n:Nat}:∀{L:List Int},(∀x∈L,0≤x∧x<(n:Int))→∃l:List (RW n),l.map (·.1)=L
 |[],_=>⟨[],rfl⟩
 |x::L,h=>by
  obtain ⟨l,hl⟩:=toZ (L:=L) (fun y hy=>h y (List.mem_cons_of_mem _ hy))
  exact ⟨⟨x,h x (List.mem_cons_self ..)⟩::l,by rw [List.map_cons,hl]⟩
theorem nR {n:Nat} (l:List (RW n)):(l.map (·.1)).map (fun n=>[int n])=l.map Ky:=by rw [List.map_map];rfl
theorem xD {n:Nat} (l:List (RW n)) (q:Int→Bool):(l.filter fun x=>q x.1).map (·.1)=(l.map (·.1)).filter q:=by
 induction l with
 |nil=>rfl
 |cons a l ih=>rw [List.map_cons,List.filter_cons,List.filter_cons];split<;>simp [ih]
theorem Ly {n:Nat} {l:List (RW n)} {p:RW n→Bool}  :BA prog 46 [ABH l,clo prog (fun x:RW n=>[int x.1]) (fun x=>bool (p x))] (int (idx p l)):=by
 refine fo func46 rfl ⟨rfl,rfl⟩ fun M0 w0=>(Tr.Cv 0 rfl fun Ew=> ?_)
 refine a2 ?_
 refine Tr.block (Tr.A9 [(0,_),(1,_),(7,_)] (L_ rfl) (fun k:Nat=>[(8,int ((k:Nat):Int))]) (fun k:Nat=>k≤(l).length∧(∀j y,j<k→l[j]? =some y→p y=false)) (fun k:Nat=>(l).length-k) 0 (⟨Nat.zero_le _,fun j y hj=>absurd hj (by omega)⟩) ⟨ke rfl,trivial⟩ ?_)
 rintro k ⟨BP,AW⟩
 refine ac ?_
 refine Tr.seq ?_
 refine Tr.cn rfl ?_ ?_<;>intro h1 q1
 have Ai:k<(l).length:=AG h1
 obtain ⟨x,Af⟩:=at_ Ai
 · repeat' first|exact int_eq (D8 Af (by assumption) AW)|exact Fin.AL (k+1) ⟨⟨Ai,Du Af (by assumption) AW⟩,by omega⟩ ⟨⟨_,rfl,AE k⟩,ke rfl,ke rfl,ke rfl,trivial⟩|refine co rfl (AA rfl underlying38 B4 (vl rfl) (vl rfl) (by omega) (by exact AP (by assumption))) ?_|refine co rfl (Gg rfl Cz rfl) (co rfl (S4 x rfl (vl rfl) ⟨ke rfl,trivial⟩) ?_)|refine ac ?_|(refine Tr.cn rfl ?_ ?_<;>intro h q)
 have BJ:k=(l).length:=by have:=AH h1;omega
 subst BJ
 refine a3 ?_
 · exact int_eq (GR AW)
theorem Zo {n:Nat} {l:List (RW n)} {p:RW n→Bool} {b cap:Nat} {sp:List Value} (hc:(l.map Ky).length≤cap) (hm:cap≤maxLen) (hq:sp.length=(cap-(l.map Ky).length)*1):CX prog 20 [is (.slice (some ⟨b,0,none⟩) (l.map Ky).length cap),clo prog (fun x:RW n=>[int x.1]) (fun x=>bool (p x))] (is (.slice (some ⟨b,0,none⟩) ((l.filter fun x=> !p x).map Ky).length cap)) (AB true b 3 ((l.map Ky).flatten++sp.map is)) (fun _=>AB true b 3 (((l.filter fun x=> !p x).map Ky).flatten++((List.replicate (l.length-(l.filter fun x=> !p x).length) [int 0]).flatten++sp.map is))):=by
 refine CX.of func20 rfl rfl (by exact Nb rfl) fun M0 w0 S rs M1 w1=> ?_
 have hlm:(l.map Ky).length=l.length:=List.length_map ..
 have hmx:cap≤9223372036854775807:=by unfold maxLen at hm;omega
 refine ac ?_
 refine ap ?_
 refine TO.Jc 0 rfl rfl (by decide) (jC (l.map Ky) rfl rfl (by decide) rfl (Ly (l:=l) (p:=p)) (Bg fun _=>rfl) hc hm (by rw [List.length_map];exact hq) ⟨.inr ⟨(vl rfl),Ak _ _⟩,.inl (ke rfl),trivial⟩) ?_
 refine ap ?_
 refine an ?_ ?_<;>intro h1 q1
 have hno:=lZ (p:=p) (l:=l) (by simpa using h1)
 refine ac ?_
 refine Tr.ret (Fin.AD ?_)
 refine Fin.Qg rfl rfl ?_ (fun _ _ _ _=>by rw [hno,Nat.sub_self];rfl)
 · rw [hno];exact Lr
 obtain ⟨hi0,FQ,WT⟩:=lY (p:=p) (l:=l) (by simpa using h1)
 refine a2 ?_
 refine Tr.block (Tr.Iy [(0,_),(1,_)] ⟨ke rfl,ke rfl,trivial⟩ (fun (st:List (RW n)) (i:Nat) (j:Nat)=>[(5,int ((i:Nat):Int)),(6,int ((j:Nat):Int))]) (fun (st:List (RW n)) (i:Nat) (j:Nat)=>Hp M0 w0 S (AB true b 3 ((st.map Ky).flatten++sp.map is)::Aj M1 w1::rs)) (fun (st:List (RW n)) (i:Nat) (j:Nat)=>TY p l st i j) (fun (st:List (RW n)) (i:Nat) (j:Nat)=>l.length-j) (l) ((idx p l).toNat) ((idx p l).toNat+1)  (WT) ⟨⟨_,rfl,int_eq (by omega)⟩,⟨_,rfl,int_eq (by omega)⟩,trivial⟩ (fun _ _ h=>h) ?_)
 rintro st i j  WT
 obtain ⟨gT,hij,hjl,nY,hdr⟩:=id WT
 refine ac ?_
 refine co rfl (LP rfl underlying38 (vl rfl)) ?_
 refine an ?_ ?_<;>intro h2 q2
 have ABI:j<l.length:=by have:=AG h2;omega
 obtain ⟨x,hlx⟩:=at_ (l:=l) (k:=j) ABI
 have hx:st[j]? =some x:=(pL WT).trans hlx
 refine a2 ?_
 refine co rfl (BI rfl underlying38 B4 (vl rfl) (vl rfl) (by omega) (by omega)) ?_
 refine co rfl (DK 0 rfl (A_ rfl Cz (vl rfl) (Ta (f:=Ky) (fun _=>rfl) (by rw [Int.toNat_natCast];exact hx) rfl))) ?_
 refine a2 ?_
 refine co rfl (S4 x rfl (vl rfl) ⟨ke rfl,trivial⟩) ?_
 refine ac ?_
 refine K0 0 1 5 6 7 29 rfl ?_
 refine Tr.cn rfl ?_ ?_<;>intro h3 q3
 refine ap ?_
 refine tp rfl (BI rfl underlying38 B4 (vl rfl) (vl rfl) (by omega) (by omega)) ?_
 refine TO.Dz 0 rfl rfl (A0 rfl rfl (vl rfl) (Vo rfl) B4 rfl (by rw [GI (sz:=1) (fun _=>rfl)];omega) (U9 (f:=Ky) (x:=x) (fun _=>rfl) (by omega))) ?_
 refine ap ?_
 refine a2 ?_
 exact Fin.EV (st.set i x) (i+1) (j+1)  (⟨bG WT hlx (by simp_all),by omega⟩) ⟨⟨_,rfl,AE i⟩,⟨_,rfl,AE j⟩,ke rfl,ke rfl,trivial⟩ (fun _ _ h=>h)
 refine a2 ?_
 exact Fin.EV (st) (i) (j+1)  (⟨bH WT hlx (by simp_all),by omega⟩) ⟨ke rfl,⟨_,rfl,AE j⟩,ke rfl,ke rfl,trivial⟩ (fun _ _ h=>h)
 have hje:j=l.length:=by have:=AH h2;omega
 subst hje
 obtain ⟨he1,gV,he3,he4⟩:=jF WT
 refine ac ?_
 refine ap ?_
 refine tp rfl (QD rfl underlying38 B4 (vl rfl) (vl rfl) (by omega) (by omega) (by omega)) ?_
 refine TO.Dz 0 rfl rfl (bE rfl rfl underlying38 B4 z3 rfl (by decide) (by decide) (vl rfl) (by omega) (by rw [GI (sz:=1) (fun _=>rfl)];omega) (R4 (f:=Ky) (fun _=>rfl) rfl (by omega) (by omega))) ?_
 refine ap ?_
 refine ac ?_
 refine co rfl (Mw rfl underlying38 B4 (vl rfl) (vl rfl) (by omega) (by omega) (by omega) (by omega)) ?_
 refine ac ?_
 refine FX 4 rfl (Tr.ret ?_)
 refine Fin.Qg rfl rfl ?_ (fun _ _ _ _=>by rw [←gV,←he1,←he3,List.append_assoc];rfl)
 · refine Pr.le_of_eq ?_;rw [List.length_map,←gV,Int.toNat_natCast]
theorem WY {n:Nat} {p:RW n→Bool}  :BA prog 20 [slice 1 [],clo prog (fun x:RW n=>[int x.1]) (fun x=>bool (p x))] (slice 1 []):=by
 refine fo func20 rfl ⟨rfl,rfl⟩ fun M0 w0=> ?_
 · repeat' first|exact Lr|(exfalso;simp [idx] at h)|refine co rfl (CF (Ly (l:=[]) (p:=p)) rfl rfl rfl) ?_|refine ac ?_|(refine Tr.cn rfl ?_ ?_<;>intro h q)
theorem X_ {l:List BQ} {r:List BG} {d:List Int} {day:Int} (x:RW d.length)  :BA prog 21 [int x.1,ref [Eu l,reqs r,ints d],ref [int day]] (bool (decide (d.getD x.1.toNat 0>day))):=by
 refine fo func21 rfl ⟨rfl,rfl⟩ fun M0 w0=> ?_
 have hxp:=x.2
 have hdx:=GG (l:=d) (i:=x.1.toNat) (by omega)
 refine a2 ?_
 refine co rfl (AA rfl underlying22 B4 (vl rfl) (vl rfl) (by omega) (BS hdx)) ?_
 refine a2 ?_
 · exact Lr
theorem YA:Entry Tryz.prog 21:=⟨_,Tryz.func21,rfl,rfl⟩
def Zp (r:List BG) (d s:List Int):Int:=if JS (d.length:Nat) r s=0 then 0 else 46
def Pu (r:List BG) (d s:List Int) (day:Int):List Int:=(Is (d.length:Nat) r s).filter fun i=> !decide (d.getD i.toNat 0>day)
theorem YB {n:Nat} {r:List BG} {s:List Int}:∀x∈Is (n:Int) r s,0≤x∧x<(n:Int):=fun x hx=>by
 unfold Is at hx
 split at hx
 ·
  unfold ED at hx
  obtain ⟨i,hi,rfl⟩:=List.mem_map.1 hx
  have:=List.mem_range.1 (List.mem_filter.1 hi).1
  omega
 · cases hx
theorem gF {r:List BG} {d s:List Int} (h:JS (d.length:Nat) r s=0):Zp r d s=0:=by unfold Zp;rw [if_pos h]
theorem rR {r:List BG} {d s:List Int} {day:Int} (h:JS (d.length:Nat) r s≠0):Zp r d s=46∧Pu r d s day=[]:=by
 unfold Zp Pu;rw [if_neg h,Sk rfl h];exact ⟨rfl,rfl⟩
theorem rS {cap n m:Nat} (h1:n≤cap) (h2:m≤n):(n-m)*1+(cap-n)*1=(cap-m)*1:=by omega
theorem WZ {l:List BQ} {r:List BG} {d s:List Int} {day:Int}  :CX prog 8 [agg [Eu l,reqs r,ints d],ints s,int day] (EK [ints (Pu r d s day),int (Zp r d s)]) (FC) (fun _=>FC):=by
 refine CX.of func8 rfl rfl (by exact Nb rfl) fun M0 w0 S rs M1 w1=> ?_
 obtain ⟨lz,hlz⟩:=toZ (YB (n:=d.length) (r:=r) (s:=s))
 refine ac ?_
 refine ap ?_
 refine TO.Qu _ rfl rfl (by decide) rfl (ZG (n:=((d.length:Nat):Int)) (l:=r) (s:=s)) ⟨ke rfl,ke rfl,ke rfl,trivial⟩ ((Dp (j:=0) rfl).trans (List.Perm.cons _ (List.Perm.refl _))) (fun x1 _=> ?_)
 refine ap ?_
 refine Ef 3 5 8 9 rfl ?_
 refine an ?_ ?_<;>intro h1 q1
 obtain ⟨hd1,hd2⟩:=rR (r:=r) (d:=d) (s:=s) (day:=day) (by simpa using h1)
 refine ac ?_
 refine Tr.ret (Fin.AD (Fin.drop 1 (Fin.FJ rfl rfl ?_ rfl ?_)))
 · rw [hd2];exact AF 1
 · exact int_eq hd1.symm
 have ha0:JS ((d.length:Nat):Int) r s=0:=by simpa using h1
 refine ac ?_
 refine Tr.seq (Tr.fD 1 rfl (fun ABJ ABK=> ?_) ?_)
 subst ABK
 refine Tr.re 8 rfl (Pr.le_trans (Fw _ _) (AF 1):Pr.le _ (slice 1 [])) ?_
 refine ac ?_
 refine co rfl (AR rfl (WY (p:=(fun x:RW d.length=>decide (d.getD x.1.toNat 0>day)))) ⟨ke rfl,⟨_,rfl,QY YA (fun x=>X_ x)⟩,trivial⟩) ?_
 refine ac ?_
 refine Tr.ret (Fin.drop 1 (Fin.FJ rfl rfl ?_ rfl ?_))
 · rw [show Pu r d s day=[] by unfold Pu;rw [List.map_eq_nil_iff.1 ABJ];rfl];exact Lr
 · exact int_eq (gF ha0).symm
 refine Tr.OY 1 rfl fun b1 ACb sp1 XC hg1 hm1 hs1=> ?_
 subst XC
 rw [←hlz,nR] at hg1 hs1 ⊢
 refine ap ?_
 refine TO.Jc 1 rfl rfl (by decide) (As rfl rfl (by decide) rfl (Zo (l:=lz) (p:=(fun x:RW d.length=>decide (d.getD x.1.toNat 0>day))) (sp:=sp1) hg1 hm1 hs1) ⟨(Ka rfl),⟨_,rfl,QY YA (fun x=>X_ x)⟩,trivial⟩) ?_
 refine ap ?_
 refine Tr.ret ?_
 refine Fin.U_ (sz:=1) ((lz.filter fun x=> !decide (d.getD x.1.toNat 0>day)).map Ky) 1 6 rfl rfl (Lr) (Bg fun _=>rfl) (by rw [List.length_map] at hg1 ⊢;exact Nat.le_trans (List.length_filter_le _ _) hg1) hm1 (by simp only [List.length_append,List.length_map,hs1];rw [CZ (sz:=1) (fun r hr=>by rw [List.eq_of_mem_replicate hr];rfl)];simp only [List.length_map,List.length_replicate];exact rS (by rw [List.length_map] at hg1;exact hg1) (List.length_filter_le _ _)) ?_
 refine Fin.drop 1 (Fin.FJ rfl rfl ?_ rfl ?_)
 · refine Pr.le_trans (Ak _ _) (Pr.le_of_eq ?_);rw [show Pu r d s day=(lz.filter fun x=> !decide (d.getD x.1.toNat 0>day)).map (·.1) by unfold Pu;rw [←hlz];exact (xD lz _).symm,show ints ((lz.filter fun x=> !decide (d.getD x.1.toNat 0>day)).map (·.1))=slice 1 (((lz.filter fun x=> !decide (d.getD x.1.toNat 0>day)).map (·.1)).map fun n=>[int n]) from rfl,nR]
 · exact int_eq (gF ha0).symm
theorem Sw {n:Int} {l:List BG} {s:List Int} (hl:l.length≤1000000) (hv:BC n l=0) (hs:Dj n s=true):BA prog 12 [int n,reqs l,ints s] (EK [bool (CW l s),int 0]):=by
 refine fo func12 rfl ⟨rfl,rfl⟩ fun M0 w0=> ?_
 refine a2 ?_
 refine co rfl (CF (Gc hl) rfl rfl rfl) ?_
 refine ac ?_
 refine an ?_ ?_<;>intro h1 q1
 exact absurd hv (by simpa using h1)
 refine a2 ?_
 refine co rfl (CF (Kh (l:=s) (n:=n)) rfl rfl rfl) ?_
 refine an ?_ ?_<;>intro h2 q2
 exact absurd h2 (by rw [hs];decide)
 refine a2 ?_
 refine co rfl (CF (NB) rfl rfl rfl) ?_
 refine ac ?_
 refine Cc 6 7 rfl (Tr.ret (Fin.DG rfl (Bc.DZ _ _) rfl ?_ rfl ?_))
 · exact Lr
 · exact Lr
theorem gG   :BA prog 5 [] (bool true):=by
 refine fo func5 rfl ⟨rfl,rfl⟩ fun M0 w0=> ?_
 · repeat' first|exact bool_eq (by decide)|exact absurd h (by decide)|refine co rfl (AR rfl (N6 (l:=[])) ⟨⟨_,rfl,Aw (ps:=[is (.slice none 0 0),is (.slice none 0 0),is (.slice none 0 0)]) ⟨Lr,Lr,AF 1,trivial⟩⟩,trivial⟩) ?_|refine cy h rfl (PJ (m:=2) rfl underlying32 Di U6 QB rfl (by decide) (by decide) ⟨_,rfl,int_eq rfl⟩ ⟨_,rfl,int_eq rfl⟩ (by decide) (by decide)) ?_|refine cy h rfl (oI) ?_|refine cy h rfl (Al (rows:=[(0,[_]),(2,[_])]) rfl MF FF ⟨⟨rfl,(Vo rfl)⟩,⟨⟨rfl,⟨_,rfl,Pr.le_trans (Bq _ _) (Ae _)⟩⟩,trivial⟩⟩ rfl) ?_|refine cy h rfl (Cq (N6 (l:=[3,1])) rfl rfl) ?_|refine ac ?_|(refine Ch.cg rfl rfl rfl ?_ ?_<;>intro h q)
theorem Pv {x:Int}:∀(s q:List Int),x∉s→s.foldl (CC x true) (q,true)=(q++s,true)
 |[],q,_=>by simp
 |y::s,q,h=>by
  have hy:y≠x:=fun e=>h (by rw [e];exact List.mem_cons_self ..)
  rw [List.foldl_cons,show CC x true (q,true) y=(q++[y],true) by unfold CC;rw [if_neg hy];simp]
  rw [Pv s (q++[y]) (fun hh=>h (List.mem_cons_of_mem _ hh))];simp
theorem YC {x:Int}:∀(s acc:List Int),(acc++s).Pairwise (· < ·)→x∉s→(∀y∈acc,y<x)→(if (s.foldl (CC x true) (acc,false)).2=false then (s.foldl (CC x true) (acc,false)).1++[x] else (s.foldl (CC x true) (acc,false)).1).Pairwise (· < ·)
 |[],acc,h,_,ha=>by
  simp only [List.foldl_nil,if_true]
  rw [List.append_nil] at h
  rw [List.pairwise_append]
  exact ⟨h,List.pairwise_singleton _ _,fun a h1 b h2=>by rw [List.mem_singleton] at h2;subst h2;exact ha a h1⟩
 |y::s,acc,h,hx,ha=>by
  have hy:y≠x:=fun e=>hx (by rw [e];exact List.mem_cons_self ..)
  have hxs:x∉s:=fun hh=>hx (List.mem_cons_of_mem _ hh)
  rw [List.foldl_cons]
  rcases Int.lt_or_le x y with hxy|hxy
  ·
   rw [show CC x true (acc,false) y=(acc++[x]++[y],true) by unfold CC;rw [if_neg hy,if_pos ⟨rfl,rfl,hxy⟩],Pv s _ hxs]
   rw [if_neg (by simp)]
   simp only [List.append_assoc,List.singleton_append]
   rw [List.pairwise_append] at h ⊢
   obtain ⟨h1,h2,h3⟩:=h
   rw [List.pairwise_cons] at h2
   refine ⟨h1,List.pairwise_cons.2 ⟨fun b hb=> ?_,List.pairwise_cons.2 h2⟩,fun a h4 b h5=> ?_⟩
   ·
    rcases List.mem_cons.1 hb with rfl|hb
    · exact hxy
    · exact Int.lt_trans hxy (h2.1 b hb)
   ·
    rcases List.mem_cons.1 h5 with rfl|h5
    · exact ha a h4
    · exact h3 a h4 b h5
  ·
   have hlt:y<x:=by omega
   rw [show CC x true (acc,false) y=(acc++[y],false) by unfold CC;rw [if_neg hy,if_neg (fun hh=>by have:=hh.2.2;omega)]]
   refine YC s (acc++[y]) (by rw [List.append_assoc];exact h) hxs fun b hb=> ?_
   rcases List.mem_append.1 hb with hb|hb
   · exact ha b hb
   · rw [List.mem_singleton] at hb;subst hb;exact hlt
theorem gH {s:List Int} {x:Int} (h:s.Pairwise (· < ·)) (hx:x∉s):(D5 s x true).Pairwise (· < ·):=by
 have h1:=YC s [] h hx (fun y hy=>by cases hy)
 unfold D5 wall
 simpa using h1
theorem YD {n:Nat} {l:List BG} {s:List Int} {x:Int} (h:x∈ED n l s true):(0≤x∧x<(n:Int))∧x∉s∧CW l (D5 s x true)=true:=by
 unfold ED at h
 obtain ⟨i,hi,rfl⟩:=List.mem_map.1 h
 obtain ⟨h1,h2⟩:=List.mem_filter.1 hi
 have h3:=List.mem_range.1 h1
 unfold Kq at h2
 rw [Bool.and_eq_true] at h2
 refine ⟨by omega,fun hc=> ?_,h2.2⟩
 rw [D4.2 hc] at h2
 exact absurd h2.1 (by decide)
theorem ld {n:Nat} {l:List BG} {s:List Int} (h:∀i:Nat,i<n→(i:Int)∈s):ED n l s true=[]:=by
 unfold ED
 rw [List.map_eq_nil_iff,List.filter_eq_nil_iff]
 intro i hi
 unfold Kq
 rw [D4.2 (h i (List.mem_range.1 hi))]
 simp
theorem gI {n:Nat} {s:List Int} (h:s.length<n):∃i:Nat,i<n∧(i:Int)∉s:=by
 refine Classical.byContradiction fun hc=> ?_
 have h2:∀x∈(List.range n).map fun i:Nat=>(i:Int),x∈s:=fun x hx=>by
  obtain ⟨i,hi,rfl⟩:=List.mem_map.1 hx
  exact Classical.byContradiction fun hn=>hc ⟨i,List.mem_range.1 hi,hn⟩
 have h3:=Jr (L:=(List.range n).map fun i:Nat=>(i:Int)) (M:=s) (List.Pairwise.map _ (fun a b hab e=>hab (by omega)) (List.nodup_range (n:=n))) h2
 rw [List.length_map,List.length_range] at h3
 omega
theorem gJ {n:Nat} {s:List Int} (hp:s.Pairwise (· < ·)) (hr:∀x∈s,0≤x∧x<(n:Int)) (h:s.length=n):∀i:Nat,i<n→(i:Int)∈s:=fun i hi=>by
 refine Classical.byContradiction fun hn=> ?_
 have hnd:s.Nodup:=hp.imp (fun hab e=>by omega)
 have h3:=Jr (L:=(i:Int)::s) (M:=(List.range n).map fun i:Nat=>(i:Int)) (List.nodup_cons.2 ⟨hn,hnd⟩) (fun x hx=>by
  rcases List.mem_cons.1 hx with rfl|hx
  · exact List.mem_map.2 ⟨i,List.mem_range.2 hi,rfl⟩
  ·
   have:=hr x hx
   exact List.mem_map.2 ⟨x.toNat,List.mem_range.2 (by omega),by omega⟩)
 rw [List.length_map,List.length_range,List.length_cons] at h3
 omega
theorem gK:∀(l:List Int) (a:Int),a≤l.foldl max a∧(∀x∈l,x≤l.foldl max a)
 |[],a=>⟨Int.le_refl _,(fun x h=>by cases h)⟩
 |b::l,a=>by
  obtain ⟨h1,h2⟩:=gK l (max a b)
  rw [List.foldl_cons]
  refine ⟨by omega,fun x hx=> ?_⟩
  rcases List.mem_cons.1 hx with rfl|hx
  · omega
  · exact h2 x hx
theorem WS.days {m:Nat} {l:List BQ} {r:List BG} {d:List Int} (h:WS m l r d):∀x∈d,0≤x:=fun x hx=>by
 obtain ⟨j,hj⟩:=List.mem_iff_getElem?.1 hx
 have hjl:=BD hj
 rw [h.dl] at hjl
 obtain ⟨c,hc⟩:=at_ hjl
 exact (h.dd j x c hjl hj hc).1.1
theorem rT {n:Nat} {s:List Int} (hp:s.Pairwise (· < ·)) (hr:∀x∈s,0≤x∧x<(n:Int)):Dj (n:Int) s=true:=by
 unfold Dj
 rw [Bn]
 intro j hj
 have h1:=hr _ (List.getElem_mem hj)
 unfold setAt
 rw [List.getElem?_eq_getElem hj]
 simp only [Option.getD_some,Bool.and_eq_true,Bool.or_eq_true,decide_eq_true_eq]
 refine ⟨h1,?_⟩
 rcases Nat.eq_zero_or_pos j with h0|h0
 · exact .inl h0
 ·
  right
  rw [List.getElem?_eq_getElem (show j-1<s.length by omega)]
  exact List.pairwise_iff_getElem.1 hp (j-1) j (by omega) hj (by omega)
structure FP (n:Nat) (r:List BG) (s:List Int):Prop where
 asc:s.Pairwise (· < ·)
 O_:∀x∈s,0≤x∧x<(n:Int)
 cl:CW r s=true
theorem FP.nil (n:Nat) (r:List BG):FP n r []:=⟨List.Pairwise.nil,(fun x h=>by cases h),DP.2 fun q _ h=>by cases h⟩
theorem FP.set {n:Nat} {r:List BG} {s:List Int} (h:FP n r s):Dj (n:Int) s=true:=rT h.asc h.O_
theorem FP.next {n:Nat} {r:List BG} {s:List Int} {x:Int} (h:FP n r s) (hx:x∈ED n r s true):FP n r (D5 s x true)∧(D5 s x true).length=s.length+1:=by
 obtain ⟨h1,h2,h3⟩:=YD hx
 refine ⟨⟨gH h.asc h2,fun y hy=> ?_,h3⟩,IG h2⟩
 rcases DF.1 hy with rfl|hy
 · exact h1
 · exact h.O_ y hy
theorem FP.due {r:List BG} {d s:List Int} (hv:BC (d.length:Nat) r=0) (h:FP d.length r s):Zp r d s=0∧Is (d.length:Nat) r s=ED d.length r s true:=by
 have h0:=nI hv h.set h.cl
 exact ⟨gF h0,by unfold Is;rw [if_pos h0];rfl⟩
theorem FP.all {r:List BG} {d s:List Int} (hv:BC (d.length:Nat) r=0) (h:FP d.length r s):Pu r d s (UJ d)=ED d.length r s true:=by
 unfold Pu
 rw [(h.due hv).2,List.filter_eq_self]
 intro x hx
 have hr:=(YD hx).1
 have hdx:=GG (l:=d) (i:=x.toNat) (by omega)
 have:=(gK d (-1)).2 _ (List.mem_of_getElem? hdx)
 rw [Bool.not_eq_true',decide_eq_false_iff_not]
 unfold UJ
 omega
theorem Zq {r:List BG} {d:List Int} (hd:∀x∈d,0≤x) (s:List Int):Pu r d s (-1)=[]:=by
 unfold Pu
 rw [List.filter_eq_nil_iff]
 intro x hx
 have hr:=YB x hx
 have hdx:=GG (l:=d) (i:=x.toNat) (by omega)
 have:=hd _ (List.mem_of_getElem? hdx)
 rw [Bool.not_eq_true',decide_eq_false_iff_not]
 omega
theorem FP.none {r:List BG} {d s:List Int} (h:FP d.length r s) (hl:s.length=d.length):ED d.length r s true=[]:=ld (gJ h.asc h.O_ hl)
theorem FP.some {r:List BG} {d s:List Int} (hv:BC (d.length:Nat) r=0) (h:FP d.length r s) (hl:s.length<d.length):ED d.length r s true≠[]:=by
 obtain ⟨i,hi,hn⟩:=gI hl
 exact dc (n:=((d.length:Nat):Int)) hv h.cl (by simpa using hi) hn
theorem Zr {t:List Int}  :CX prog 3 [ints t] (bool true) (FC) (fun _=>FC):=by
 refine CX.of func3 rfl rfl (by exact Nb rfl) fun M0 w0 S rs M1 w1=> ?_
 refine Tr.seq (Tr.Ah (cm rfl (Ch.nil (Fin.go (Tr.seq (Tr.seq (Tr.Ah (cm rfl (co rfl (AR rfl (jK) ⟨ke rfl,trivial⟩) (co rfl (G8 rfl (vl rfl)) (Ch.nil (Fin.go ?_))))))))))))
 refine Tr.cn rfl ?_ ?_<;>intro h1 q1
 refine Tr.seq (Tr.Ah (co rfl (AR rfl (gG) trivial) (cm rfl (Ch.nil (Fin.go (Tr.ret (Fin.AD (Fin.Qg rfl rfl ?_ (fun _ _ _ _=>rfl)))))))))
 · exact Lr
 have ht4:t.length≤400:=by simpa using h1
 have ht9:t.length≤1000000000:=by omega
 refine Tr.skip (Fin.go (Tr.seq (Tr.An (tm rfl (TO.pad ?_)))))
 refine TO.Dh 0 rfl rfl (by decide) (LA rfl rfl (by decide) rfl (pV (l:=t) ht9) ⟨ke rfl,trivial⟩) (fun v1=> ?_)
 refine TO.MB 22 0 _ rfl rfl (fun _=>rfl) (fun b1=> ?_)
 refine tm rfl (TO.nil (Fin.go (Tr.seq (Tr.An (tm rfl (TO.Jc 0 rfl rfl (by decide) (As rfl rfl (by decide) rfl (rQ) ⟨ke rfl,trivial⟩) ?_))))))
 refine TO.ex 25 rfl (fun z1=>TO.fact 25 rfl fun FE=> ?_)
 refine tm rfl (tp rfl (Az rfl (vl rfl) rfl) (tp rfl (Az rfl (vl rfl) rfl) ?_))
 refine TO.ex 27 rfl (fun p1=>TO.fact 27 rfl fun bL=> ?_)
 refine tp rfl (Az rfl (vl rfl) rfl) ?_
 refine Tl rfl rfl rfl rfl z31 HR (fun b2=> ?_)
 refine Tl rfl rfl rfl rfl z35 FF (fun b3=> ?_)
 refine TO.AK 1 rfl rfl rfl (vl rfl) (Va rfl) rfl C7 rfl rfl (TO.freeze 1 4 rfl rfl (TO.AK 0 rfl rfl rfl (vl rfl) (Va rfl) rfl B5 rfl rfl (TO.freeze 0 5 rfl rfl (tm rfl (TO.nil (Fin.Qk 0 rfl (fun s1=> ?_)))))))
 refine Fin.go (Cc 3 5 rfl (Tr.seq ?_))
 have gU:=bL.fit.dl
 have h7:=bL.l7
 have hrl:=bL.rl
 have hv:=bL.fit.v
 have hvd:BC ((p1.2.2.length:Nat):Int) p1.2.1=0:=by rw [gU];exact hv
 have hdd:=bL.fit.days
 refine Tr.Ah (co rfl (S0 rfl Uz rfl rfl) (co rfl (Gg rfl mE rfl) (co rfl (Bo rfl underlying32 (vl rfl)) (cm rfl (Ch.nil (Fin.go (Tr.seq (Tr.Ah (cm rfl (Ch.nil (Fin.go (Tr.seq (Tr.seq (Tr.Ah ?_))))))))))))))
 refine cm rfl (cm rfl (Ch.nil (Fin.go (Tr.block (Tr.Iy [(3,_),(5,_),(7,_),(32,_)] ⟨ke rfl,ke rfl,ke rfl,ke rfl,trivial⟩ (fun (dn:List Int) (k:Nat) (s2:DS)=>[(33,int ((k:Nat):Int)),(8,ints dn)]) (fun (dn:List Int) (k:Nat) (s2:DS)=>Hp M0 w0 S (C1 b1 s2::FC::Aj M1 w1::rs)) (fun (dn:List Int) (k:Nat) (s2:DS)=>(k≤p1.1.length∧dn.length=k)∧FP p1.2.2.length p1.2.1 dn) (fun (dn:List Int) (k:Nat) (s2:DS)=>p1.1.length-k) ([]) (0) (_)  (⟨⟨Nat.zero_le _,rfl⟩,FP.nil _ _⟩) ⟨ke rfl,⟨_,rfl,AF 1⟩,trivial⟩ (fun _ _ h=>h) ?_)))))
 rintro dn k s2  ⟨⟨hk0,hdk⟩,hD⟩
 refine Tr.seq (Tr.Ah (co rfl (ki rfl rfl rfl rfl) (Ch.nil (Fin.go (Tr.seq ?_)))))
 refine Tr.cn rfl ?_ ?_<;>intro h2 q2
 have hk:k<p1.1.length:=AG h2
 have hne:=hD.some hvd (by omega)
 obtain ⟨bs,Z5⟩:∃bs,ED p1.2.2.length p1.2.1 dn true=bs:=⟨_,rfl⟩
 rw [Z5] at hne
 have hbp:=List.length_pos_iff.2 hne
 have Ru:=PF p1.2.2.length p1.2.1 dn true
 rw [Z5] at Ru
 refine Tr.skip (Fin.go (Tr.seq (Tr.block (Tr.seq (Tr.F4 mixed [none,none,none,none,some (0,1,true,0),none,none,none,none,none] (by kernel_rfl) (xo rfl (fun _=>AQ rfl CY B5 (vl rfl) rfl rfl) (xm rfl (xo rfl (fun _=>AQ rfl CY B5 (vl rfl) rfl rfl) ?_))))))))
 refine xo rfl (fun _=>AR rfl (N6 (l:=p1.2.2)) ⟨ke rfl,trivial⟩) ?_
 refine Cx.ef 1 rfl rfl (by decide) (As rfl rfl (by decide) rfl (WZ (l:=p1.1) (r:=p1.2.1) (d:=p1.2.2) (s:=dn) (day:=UJ p1.2.2)) ⟨ke rfl,ke rfl,ke rfl,trivial⟩) ?_
 refine xm rfl (xo rfl (fun _=>Az rfl (vl rfl) rfl) (xo rfl (fun _=>Az rfl (vl rfl) rfl) (xm rfl (xm rfl ?_))))
 refine Cx.nil ⟨rfl,?_⟩
 refine BH.done (Ar.cons (Ar.cons (Ar.cons (Ar.map _)))) (Fin.go (J0 3 5 7 8 9 10 32 33 rfl (Tr.seq (Tr.seq (Tr.re 10 rfl (int_eq (hD.due hvd).1) (Tr.re 9 rfl (Pr.le_of_eq (by rw [hD.all hvd,Z5])) (Tr.Ah (cm rfl (co rfl (ki rfl rfl rfl rfl) (cm rfl ?_))))))))))
 refine Ch.cs 45 rfl ?_ ?_<;>intro h3 q3
 exact absurd h3 (by simp)
 refine Jd h3 rfl (cy h3 rfl (Bo rfl underlying38 (vl rfl)) (cy h3 rfl (ki rfl rfl rfl rfl) (co rfl (Mq rfl rfl h3 rfl) (Ch.nil (Fin.go (J0 3 5 7 8 9 32 33 49 rfl ?_))))))
 refine Tr.cn rfl ?_ ?_<;>intro h4 q4
 exfalso;have:=q4;omega
 refine Tr.skip (Fin.go (Tr.seq ?_))
 have hvi:=s2.Ci (n:=bs.length) (by omega)
 obtain ⟨x,hx⟩:=at_ (l:=bs) (k:=(s2.val ((bs.length:Nat):Int)).toNat) (by omega)
 have hnx:=hD.next (x:=x) (by rw [Z5];exact List.mem_of_getElem? hx)
 refine Tr.An ?_
 iterate 4 refine tm rfl ?_
 refine tp rfl (Bo rfl underlying38 (vl rfl)) (TO.Jc 0 rfl rfl (by decide) (As rfl rfl (by decide) rfl (CE (by omega) (by omega)) ⟨ke rfl,ke rfl,trivial⟩) (tp rfl (AA rfl underlying38 B4 (vl rfl) (vl rfl) (by omega) (BS hx)) (tp rfl (Gg rfl Cz rfl) (tp rfl (AR rfl (Fh (by omega)) ⟨ke rfl,ke rfl,ke rfl,trivial⟩) (tm rfl (TO.nil (Fin.go (K0 3 5 7 8 32 33 rfl (Tr.seq (Tr.Ah (cm rfl (co rfl (S0 rfl aW rfl rfl) (co rfl (Gg rfl mF rfl) ?_)))))))))))))
 refine cm rfl ?_
 refine co rfl (AR rfl (Sw (n:=((p1.1.length:Nat):Int)) (l:=p1.2.1) (by omega) hv (by rw [←gU];exact hnx.1.set)) ⟨ke rfl,ke rfl,ke rfl,trivial⟩) ?_
 refine cm rfl (co rfl (Az rfl (vl rfl) rfl) (co rfl (Az rfl (vl rfl) rfl) (cm rfl (cm rfl (Ch.nil (Fin.go (J0 3 5 7 8 11 12 32 33 rfl (Tr.seq (Tr.Ah (cm rfl (co rfl (G8 rfl (vl rfl)) (cm rfl ?_))))))))))))
 refine Ch.cs 69 rfl ?_ ?_<;>intro h5 q5
 exact absurd h5 (by rw [hnx.1.cl];decide)
 refine Jd h5 rfl (cy h5 rfl (ki rfl rfl rfl rfl) (co rfl (Mq rfl rfl h5 rfl) (Ch.nil (Fin.go (Je 3 5 7 8 32 33 72 rfl ?_)))))
 refine Tr.cn rfl ?_ ?_<;>intro h6 q6
 exact absurd h6 (by simp)
 refine Tr.skip (Fin.block (Fin.go (Tr.Ah (J8 rfl rfl rfl rfl (by omega) (cm rfl (Ch.nil ?_))))))
 exact Fin.EV (D5 dn x true) (k+1) (_)  (⟨⟨⟨by omega,by rw [hnx.2];omega⟩,hnx.1⟩,by omega⟩) ⟨⟨_,rfl,AE k⟩,ke rfl,ke rfl,ke rfl,ke rfl,ke rfl,trivial⟩ (fun _ _ h=>h)
 have VO:=AH h2
 refine Tr.exit (Fin.Ad (Fin.Ad (Fin.Ax (Fin.go (Tr.seq (Tr.F4 mixed [none,none,none,none,some (0,1,true,0),none,none,none,none,none] (by kernel_rfl) (xo rfl (fun _=>AQ rfl CY B5 (vl rfl) rfl rfl) (xm rfl (xo rfl (fun _=>AQ rfl CY B5 (vl rfl) rfl rfl) ?_)))))))))
 refine xo rfl (fun _=>AR rfl (N6 (l:=p1.2.2)) ⟨ke rfl,trivial⟩) ?_
 refine Cx.ef 1 rfl rfl (by decide) (As rfl rfl (by decide) rfl (WZ (l:=p1.1) (r:=p1.2.1) (d:=p1.2.2) (s:=dn) (day:=UJ p1.2.2)) ⟨ke rfl,ke rfl,ke rfl,trivial⟩) ?_
 refine xm rfl (xo rfl (fun _=>Az rfl (vl rfl) rfl) (xo rfl (fun _=>Az rfl (vl rfl) rfl) (xm rfl (xm rfl ?_))))
 refine Cx.nil ⟨rfl,?_⟩
 refine BH.done (Ar.cons (Ar.cons (Ar.cons (Ar.map _)))) (Fin.go (KP 5 7 8 13 14 rfl (Tr.seq (Tr.re 14 rfl (int_eq (hD.due hvd).1) (Tr.re 13 rfl (Pr.le_of_eq (by rw [hD.all hvd,hD.none (by omega)]:_=ints [])) (Tr.An (tp rfl (AQ rfl CY B5 (vl rfl) rfl rfl) ?_)))))))
 refine TO.Jc 1 rfl rfl (by decide) (As rfl rfl (by decide) rfl (WZ (l:=p1.1) (r:=p1.2.1) (d:=p1.2.2) (s:=[]) (day:= -1)) ⟨ke rfl,⟨_,rfl,AF 1⟩,ke rfl,trivial⟩) ?_
 refine tm rfl (tp rfl (Az rfl (vl rfl) rfl) (tp rfl (Az rfl (vl rfl) rfl) (tm rfl (tm rfl (TO.nil (Fin.go (Tr.seq (Tr.re 16 rfl (int_eq ((FP.nil _ _).due hvd).1) (Tr.re 15 rfl (Pr.le_of_eq (by rw [Zq hdd]:_=ints [])) (Tr.Ah (cm rfl (co rfl (ki rfl rfl rfl rfl) (cm rfl ?_)))))))))))))
 refine Ch.cs 89 rfl ?_ ?_<;>intro h7 q7
 refine Jd h7 rfl (cy h7 rfl (ki rfl rfl rfl rfl) (co rfl (Na rfl rfl h7 rfl) (cm rfl ?_)))
 refine Ch.cs 93 rfl ?_ ?_<;>intro h8 q8
 refine Jd h8 rfl (cy h8 rfl (Bo rfl underlying38 (vl rfl)) (cy h8 rfl (ki rfl rfl rfl rfl) (co rfl (Na rfl rfl h8 rfl) (cm rfl ?_))))
 refine Ch.cs 98 rfl ?_ ?_<;>intro h9 q9
 refine Jd h9 rfl (cy h9 rfl (Bo rfl underlying38 (vl rfl)) (cy h9 rfl (ki rfl rfl rfl rfl) (co rfl (Na rfl rfl h9 rfl) (cm rfl ?_))))
 refine Ch.cs 103 rfl ?_ ?_<;>intro h10 QH
 refine Jd h10 rfl (cy h10 rfl (Bo rfl underlying38 (vl rfl)) (Jd h10 rfl (cy h10 rfl (ki rfl rfl rfl rfl) (co rfl (Na rfl rfl h10 rfl) (cm rfl ?_)))))
 refine Ch.cs 109 rfl ?_ ?_<;>intro h11 QG
 refine cy h11 rfl (AR rfl (gG) trivial) (co rfl (Na rfl rfl h11 rfl) (cm rfl (Ch.nil (Fin.go (FX 2 rfl (Tr.ret (Fin.drop 0 (Fin.Qg rfl rfl ?_ (fun _ _ _ _=>rfl)))))))))
 · exact Lr
 exfalso;have:=QG;omega
 exact absurd h10 (by simp)
 exact absurd h9 (by simp)
 exact absurd h8 (by simp)
 exact absurd h7 (by simp)
end Go.Proofs.YtkobgkelhcigdaaGreatDoor
namespace Go.Proofs.YtkobgkelhcigdaaGreatDoor
open Go Go.RowKit Cp Go.ChangeShapes Go.WideShapes Go.ChangeAt Go.Proofs.Tryz
theorem ABL : Tryz.prog.globalNamed "math/bits.deBruijn32tab" = some 0 := by kernel_rfl
theorem ABM:(Tryz.prog.globals[0]?).map (·.type)=some 263:=by kernel_rfl
theorem gL (os : Os) (args : Array Value) : laidMetH Tryz.prog [("math/bits.deBruijn32tab", Rows.laid_math_bits_deBruijn32tab)] ((World.doorLaid Tryz.prog 14 os).forCall (fun _ _ => 0) ⟨#[], args, []⟩).memory :=
 laidMetH_of_parts3 (fuel:=33) (laidMet_of_run' 33 (by kernel_rfl) (by kernel_rfl)) (by kernel_rfl) (by kernel_rfl)
theorem rU {W : World} (h : laidMetH Tryz.prog [("math/bits.deBruijn32tab", Rows.laid_math_bits_deBruijn32tab)] W) : FC.h gO W := by
 rw [MakeChecks.laidMetH_plain _ _ _ (by kernel_rfl)] at h
 obtain ⟨ps,⟨g0,t0,cs0,f0,p0,q0,jl,ht0,Zt,hd0,_⟩,_⟩:=h
 obtain rfl:=Option.some.inj (ABL.symm.trans jl)
 obtain rfl:=Option.some.inj (ABM.symm.trans ht0)
 obtain ⟨xs,m,rfl,hx,hlen,hn,hel⟩:=DataW.trod_array Tryz.underlying263 hd0
 have c1:Tryz.prog.cellsOf 5=1:=by kernel_rfl
 have hx1:Rows.laid_math_bits_deBruijn32tab=DataW.agg (xs.map (·.1)):=(Prod.mk.inj hx).1
 have hx2:xs.map (·.1)=UD.map fun n:Nat=>DataW.lit (.int .u8 (n:Int)):=by
  have h3:(Rows.laid_math_bits_deBruijn32tab:DataW Unit)=DataW.agg (UD.map fun n:Nat=>DataW.lit (.int .u8 (n:Int))):=rfl
  exact (DataW.agg.inj (hx1.symm.trans h3))
 intro j n hj
 refine ⟨?_,fun h=>h⟩
 have ABN:j<32:=by
  rcases Nat.lt_or_ge j 32 with h|h
  · exact h
  · rw [List.getElem?_eq_none h] at hj;cases hj
 have h4:=hel j ABN
 rw [c1,Nat.mul_one] at h4
 obtain ⟨y,hy⟩:=at_ (l:=xs) (k:=j) (by omega)
 rw [hy] at h4
 obtain ⟨k,e1,e2,_⟩:=DataW.trod_int Tryz.underlying5 h4
 have h5:(xs.map (·.1))[j]? =some (DataW.lit (.int .u8 (n:Int))):=by rw [hx2,List.getElem?_map,hj];rfl
 rw [List.getElem?_map,hy] at h5
 have hk:k=(n:Int):=by
  have h6:y.1=DataW.lit (.int .u8 (n:Int)):=Option.some.inj h5
  rw [e2] at h6
  simpa using h6
 have h7:=World.var?_cell jl Zt j
 have h8:cs0.toList[j]? =some (.int .u8 k):=by
  have h9:=congrArg (fun l:List Value=>l[0]?) e1
  simpa using h9
 rw [hk] at h8
 have h10:cs0[j]? =some (.int .u8 (n:Int)):=by rw [←Array.getElem?_toList];exact h8
 rw [h10] at h7
 exact h7
theorem Pw (os:Os) (started:os.Started) (H:Type) (enc:TypeId×Value→H):
  ReturnsInHanded {} Tryz.checked os 3 .any (fun w args => (Rows.planDueSpec.pre enc Tryz.prog Tryz.f3 [] false w args ∧ laidMetH Tryz.prog [("math/bits.deBruijn32tab", Rows.laid_math_bits_deBruijn32tab)] w) ∧ sizedMet enc Tryz.prog Tryz.f3 (OpenSpec.ofChange Rows.planDueSpec) false w args) (Rows.planDueSpec.post enc Tryz.prog Tryz.f3 false true false false) := by
 refine returnsInHanded_of_change_and (C := Tryz.checked) (X := fun w _ => laidMetH Tryz.prog [("math/bits.deBruijn32tab", Rows.laid_math_bits_deBruijn32tab)] w) (fun _ _ _ hh h => h.of_heap hh) zM started (by kernel_rfl) Tryz.func3
  (ChangeSpec.witness_shaped (enc := enc) (C := Tryz.checked) (os := os) (X := fun w _ => laidMetH Tryz.prog [("math/bits.deBruijn32tab", Rows.laid_math_bits_deBruijn32tab)] w) false (World.doorLaid Tryz.prog 14 os) #[.slice none 0 0] 8 rfl (World.shaped_of_RefB (by kernel_rfl) (by kernel_rfl)) (by kernel_rfl) (by kernel_rfl) (by kernel_rfl) (gL os _)) ?_
 intro W base args ds gs before xE hW ACc _ hL _
 have hval:∀(j:Nat) t v,Tryz.f3.params[j]? =some t→args[j]? =some v→Value.okWide Tryz.prog W .any base t v:=xE
 have hW':=hW
 obtain ⟨p,q,hA0,hV,hpq,hfz,hnd⟩:=hW
 have hA:DataW.TrodAll enc Tryz.prog W 0 (fun _=>true) true Tryz.f3.params.toList args.toList ds p:=hA0
 have gN:=hA
 rw [Tryz.params3] at hA hval
 obtain ⟨v0,d0,rfl,rfl,h0⟩:=trodAll_one gN
 obtain ⟨rfl,rfl⟩:=trodVars_none hV
 obtain ⟨a0,_,e0⟩:=g_ (U8 Tryz.underlying22 Tryz.underlying3 (by kernel_rfl)) h0 (by obtain ⟨_,_,_,rfl⟩:=okWide_slice Tryz.underlying22 (hval 0 22 v0 rfl rfl);rfl)
 refine (CX.ko (Zr) rfl W [v0] (rU hL) ⟨e0,trivial⟩).mono fun e W' ⟨v,he,hv,hb⟩=> ?_
 subst he
 obtain rfl:v= .bool true:=hv
 exact ⟨_,rfl,aN bB (by kernel_rfl) rfl Tryz.underlying4 rfl gN (by rw [hpq];simp) hW' rfl hb⟩
theorem Px:(Rows.planDueRow.inPlace==Tryz.pinned.checked.prog.inPlace 3)=true:=by kernel_rfl
theorem Py:(Rows.planDueRow.unfollowed==Tryz.pinned.checked.prog.unfollowed 3)=true:=by kernel_rfl
theorem Pz:(Rows.planDueRow.recurses==Tryz.pinned.checked.prog.recurses 3)=true:=by kernel_rfl
theorem P0:(Rows.planDueRow.named==Tryz.pinned.checked.prog.varsNamed 3)=true:=by kernel_rfl
theorem QX:joinedFacts Tryz.pinned.checked.prog 3 Tryz.f3 Rows.planDueSpec Rows.planDueRow=true:=by
 unfold joinedFacts
 rw [Px,Py,Pz,P0]
 kernel_rfl
theorem planDue_holds:Rows.PlanDueSaid:=
 OpenClaim.holds_of_wide 3 Tryz.f3 rfl rfl rfl rfl rfl rfl rfl ⟨rfl, rfl, rfl, rfl, rfl⟩ rfl rfl rfl rfl rfl (by kernel_rfl) Tryz.func3 QX
  (of_decide_eq_true (by kernel_rfl)) (by unfold Func.isWrapper;first|(rw [if_pos (by decide+kernel)];kernel_rfl)|(rw [if_neg (by decide+kernel)];exact ⟨rfl,rfl⟩))
  (fun os started H enc _=>Pw os started H enc)
theorem planDue_card_holds:Rows.PlanDueCardSaid:=
 Claim7.holds_tied_plain_at .later [] [.data] true Rows.planDueCard.stood.harness false planDue_holds (fun _ h => by cases h) (by kernel_rfl) (fun _ h => by cases h) planDue_row_tie rfl ⟨rfl, rfl⟩ (by kernel_rfl) rfl
  (fun f fn hf hfn=>by
   obtain rfl : f = 3 := Option.some.inj ((show Tryz.prog.funcNamed "cipherplan/cipherplanlaw31.PlanDue" = some 3 by kernel_rfl).symm.trans hf) |>.symm
   obtain rfl:fn=Tryz.f3:=(Option.some.inj (Tryz.func3.symm.trans hfn)).symm
   exact ⟨by kernel_rfl, fun j t ht => by
    rw [Tryz.params3] at ht
    have hm:t∈[22]:=by simpa using Array.mem_of_getElem? ht
    have hall:([22].all fun u=> !Tryz.prog.wantsStandIn u)=true:=by kernel_rfl
    exact (show Tryz.prog.wantsStandIn t=false by simpa using List.all_eq_true.1 hall t hm)⟩)
  (by kernel_rfl)
end Go.Proofs.YtkobgkelhcigdaaGreatDoor
