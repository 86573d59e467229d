/-
  RunnerStops: whatever the input, the law of this name returns true and its arguments read as before; the table of trailing zeros is tied to the program. No conditions.
-/
import Derived.Test.YtmocaapoeefgkaaGreatDoorTie
import Derived.Test.YtmocaapoeefgkaaGreatDoorCards
import Derived.LaidMore
import Derived.OpenShut
import Derived.Stop.Joined
import Derived.ProofKit
import Derived.Test.YtmocaapoeefgkaaGreatDoorRcSP7
set_option linter.all false
set_option maxRecDepth 40000
set_option maxHeartbeats 16000000
namespace Go.Proofs.YtmocaapoeefgkaaGreatDoor
open Go Go.RowKit Cp Go.Proofs.Tryz
theorem XE {e:Da} {l:List BW} {i:Int}:(∀x∈(JW e l i).1,0≤x∧x<(l.length:Nat))∧(JW e l i).1.length≤24:=by
 unfold JW
 split
 · exact Tq
 split
 · exact Tq
 split
 · exact Tq
 ·
  rename_i Mv _
  refine ⟨fun x hx=> ?_,by have:=W9 (e.BQ[i.toNat]?.getD GZ) l l.length;show (Nj _ _ _).length≤24;omega⟩
  unfold Nj at hx
  obtain ⟨j,hj,rfl⟩:=List.mem_map.1 hx
  have:=List.mem_range.1 (List.mem_filter.1 hj).1
  omega
theorem ZW {n:Int} {o:List (List Int)} {x:List Int} (h:(∀s∈o,∀y∈s,0≤y∧y<n)∧∀s∈o,s.length≤4096) (hx:∀y∈x,0≤y∧y<n) (hl:x.length≤4096):(∀s∈o++[x],∀y∈s,0≤y∧y<n)∧∀s∈o++[x],s.length≤4096:=by
 refine ⟨fun s hs=> ?_,fun s hs=> ?_⟩<;>rcases List.mem_append.1 hs with hs|hs
 · exact h.1 s hs
 · rw [List.mem_singleton] at hs;subst hs;exact hx
 · exact h.2 s hs
 · rw [List.mem_singleton] at hs;subst hs;exact hl
theorem ff {n:Int} {o:List Int} {x:Int} (h:∀y∈o,0≤y∧y<n) (hx:0≤x∧x<n):∀y∈o++[x],0≤y∧y<n:=fun y hy=>by
 rcases List.mem_append.1 hy with hy|hy
 · exact h y hy
 · rw [List.mem_singleton] at hy;subst hy;exact hx
theorem fk {e:Da} {l:List BW} {r:List BO} {d:List Int} {n:Nat} {i:Int} (hz:e.sz n) (hn:n≤800000) (hrl:r.length≤1000000):BC prog 251 [agg (CG e),JB l r d,int i] (Cp.ex fun z:List (List Int)×Int=>fact (K7 ((l.length:Nat):Int) z.1) (D7 [sets z.1,int z.2])):=by
 refine fo func251 rfl ⟨rfl,rfl⟩ fun M0 w0=> ?_
 refine a2 ?_
 refine co rfl (Kk (SF hz hn) rfl rfl rfl rfl) ?_
 refine ac ?_
 refine wk [8,4] rfl (Tr.seq ?_)
 obtain ⟨rel,w4⟩:∃rel,(JW e l i).1=rel:=⟨_,rfl⟩
 have fQ:∀x∈rel,0≤x∧x<(l.length:Nat):=w4 ▸ XE.1
 have AFy:rel.length≤24:=w4 ▸ XE.2
 refine Tr.re 8 rfl (Pr.le_of_eq (by rw [w4])) ?_
 refine ap ?_
 refine tp rfl (Kk (fc (n:=((l.length:Nat):Int)) (l:=r) (s:=rel) hrl) rfl rfl rfl rfl) ?_
 refine TO.ex 35 rfl (fun z1=>TO.fact 35 rfl fun EY=> ?_)
 refine ap ?_
 refine wk [10,8] rfl ?_
 refine ap ?_
 refine tp rfl (CK (fU (n:=((rel.length:Nat):Int)) (l:=z1.1) AA) rfl rfl rfl) ?_
 refine TO.ex 42 rfl (fun z2=>TO.fact 42 rfl fun IC=> ?_)
 refine ap ?_
 refine ac ?_
 refine wk [46,13,12,8] rfl ?_
 refine Tr.cn rfl ?_ ?_<;>intro h1 q1
 refine ac ?_
 refine Tr.ret (Fin.AE (Fin.BU rfl (AO.tmp rfl Lr) (AO.tmp rfl Lr) ?_))
 · exact Xm
 have hl4:=IC.len
 refine a3 ?_
 refine Tr.block (Tr.B5 51 1 (Tr.C2 _ (kk [49,48,8] rfl) (fun (o:List (List Int)) (k:Nat) u=>[(50,int ((k:Nat):Int)),(14,Af u (sets o))]) (fun (o:List (List Int)) (k:Nat) u=>Hp M0 w0 Fa ([Au 51 1 u])) (fun (o:List (List Int)) (k:Nat)=>(k≤z2.1.length∧o.length=k)∧(∀s∈o,∀y∈s,0≤y∧y<((l.length:Nat):Int))∧∀s∈o,s.length≤4096) (fun (o:List (List Int)) (k:Nat)=>z2.1.length-k) ([]) (0) (.slice none 0 0) (⟨⟨Nat.zero_le _,rfl⟩,fun s h=>F1,fun s h=>F1⟩) ⟨kq,⟨_,rfl,Bn rfl⟩,trivial⟩ (fun _ _ h=>h) ?_))
 rintro o k u ⟨⟨hk0,hol⟩,mw⟩
 refine ac ?_
 refine Tr.seq ?_
 refine Tr.cn rfl ?_ ?_<;>intro h2 q2
 have hk:k<z2.1.length:=AH h2
 obtain ⟨s,hs⟩:=at_ hk
 have hsr:=IC.Uw s (List.mem_of_getElem? hs)
 have hsw:=IC.wid s (List.mem_of_getElem? hs)
 refine ac ?_
 refine Tr.seq (Tr.block (Tr.seq (Tr.Aj (co rfl (AD rfl underlying99 Ge vq vq AA (AX hs)) ?_))))
 refine a3 ?_
 refine Tr.block (Tr.B5 3 1 (Tr.C2 _ (kk [55,54,50,49,48,14,8] rfl) (fun (x:List Int) (m:Nat) u2=>[(56,int ((m:Nat):Int)),(17,Af u2 (ints x))]) (fun (x:List Int) (m:Nat) u2=>Hp M0 w0 Fa ([Au 3 1 u2,Au 51 1 u])) (fun (x:List Int) (m:Nat)=>(m≤s.length∧x.length=m)∧∀y∈x,0≤y∧y<((l.length:Nat):Int)) (fun (x:List Int) (m:Nat)=>s.length-m) ([]) (0) (.slice none 0 0) (⟨⟨Nat.zero_le _,rfl⟩,fun s h=>F1⟩) ⟨kq,⟨_,rfl,Bn rfl⟩,trivial⟩ (fun _ _ h=>h) ?_))
 rintro x m u2 ⟨⟨hm0,hxl⟩,hxr⟩
 refine ac ?_
 refine Tr.seq ?_
 refine Tr.cn rfl ?_ ?_<;>intro h3 q3
 have hm:m<s.length:=AH h3
 obtain ⟨i2,hi2⟩:=at_ hm
 have hir:=hsr i2 (List.mem_of_getElem? hi2)
 obtain ⟨y,hy⟩:=at_ (l:=rel) (k:=i2.toNat) AA
 have hyr:=fQ y (List.mem_of_getElem? hy)
 refine ac ?_
 refine Tr.seq (Tr.block (Tr.seq (Tr.Aj (co rfl (AD rfl underlying51 CH vq vq AA (AX hi2)) ?_))))
 refine ac ?_
 refine ap ?_
 refine tp rfl (AD rfl underlying51 CH vq vq AA (Bm hy)) ?_
 refine ap ?_
 refine TO.DZ 0 rfl rfl AB (B4 rfl rfl rfl rfl underlying51 CH IQ z3 H_ GH (Az BJ Kl)) (fun v1=> ?_)
 refine ap ?_
 refine wk [56,55,54,50,49,48,17,14,8] rfl ?_
 refine ac ?_
 exact Fin.Bg (x++[y]) (m+1) v1 (⟨⟨⟨by omega,by simp;omega⟩,ff hxr hyr⟩,by omega⟩) ⟨⟨_,rfl,AG m⟩,⟨_,rfl,BA DB⟩,kz⟩ (fun _ _ h=>h)
 have hme:=AJ h3
 refine ac ?_
 refine ap ?_
 refine tp rfl (AM (xs:=[.tmp 69]) (rows:=[[_]]) rfl rfl underlying99 Ge z51 rfl AB ⟨⟨Am,⟨_,rfl,Pr.le_trans (At _ _) (Aa _)⟩⟩,trivial⟩ AB) ?_
 refine TO.DZ 1 rfl rfl AB (B4 rfl rfl rfl rfl underlying99 Ge Vv z51 H_ GH (Az BJ Kl)) (fun v2=> ?_)
 refine ap ?_
 refine wk [50,49,48,14,8] rfl ?_
 refine ac ?_
 refine Fin.drop 0 ?_
 exact Fin.Bg (o++[x]) (k+1) v2 (⟨⟨⟨by omega,by simp;omega⟩,ZW mw hxr AA⟩,by omega⟩) ⟨⟨_,rfl,AG k⟩,⟨_,rfl,BA DB⟩,kz⟩ (fun _ _ h=>h)
 have cv:=AJ h2
 refine a2 ?_
 refine Tr.ret (Fin.BU rfl (AO.tmp rfl Lr) (AO.tmp rfl Lr) ?_)
 · exact Aw (_,_) (A8 ⟨mw.1,(by show o.length≤4096;omega),mw.2⟩ (A0 ⟨At _ _,Lr,trivial⟩))
theorem XF {e:Da} {l:List BW} {r:List BO} {d:List Int} (hf:e.fits) (hrl:r.length≤1000000):BC prog 214 [agg (CG e),JB l r d] (Cp.ex fun z:Int=>fact (z=0→FH e=true∧VF e.Bp.length l r d) (int z)):=by
 refine fo func214 rfl ⟨rfl,rfl⟩ fun M0 w0=> ?_
 refine a2 ?_
 refine co rfl (Ck (Dp hf) rfl rfl) ?_
 refine an ?_ ?_<;>intro h1 q1
 refine a2 ?_
 · exact OU
 have UQ:FH e=true:=by cases h_:FH e with|true=>rfl|false=>exact absurd h1 L2
 refine ac ?_
 refine ap ?_
 refine tp rfl (CK (nA hrl) rfl rfl rfl) ?_
 refine TO.ex 10 rfl (fun z1=>TO.fact 10 rfl fun EY=> ?_)
 refine ap ?_
 · repeat' first|exact Aw _ (A8 (fun h_=>absurd h_ AB) Lr)|exact Aw 0 (A8 (fun _=>⟨UQ,EY CY⟩) Lr)|refine ac ?_|(refine Tr.cn rfl ?_ ?_<;>intro h q)
def nD (d s:List Int) (fr:Int):Int:=s.foldl (fun a i=>max a (d.getD i.toNat 0)) fr
theorem fm {d s:List Int} {fr i:Int} {k:Nat} (h:s[k]? =some i):nD d (s.take (k+1)) fr=max (nD d (s.take k) fr) (d.getD i.toNat 0):=by unfold nD;rw [List.take_add_one,h,List.foldl_append];rfl
theorem Ln {l:List BW} {r:List BO} {d s:List Int} {fr:Int} (hs:∀i∈s,0≤i∧i<(d.length:Nat)):BC prog 216 [JB l r d,ints s,int fr] (int (nD d s fr)):=by
 refine fo func216 rfl ⟨rfl,rfl⟩ fun M0 w0=>(Tr.Cf 1 rfl fun FC=> ?_)
 refine a3 ?_
 refine Tr.block (Tr.BE _ (kk [12,11,3] rfl) (fun k:Nat=>[(13,int ((k:Nat):Int)),(7,int (nD d (s.take k) fr))]) (fun k:Nat=>k≤(s).length) (fun k:Nat=>(s).length-k) 0 (Nat.zero_le _) ⟨kq,kz⟩ ?_)
 rintro k BV
 refine ac ?_
 refine Tr.seq ?_
 refine Tr.cn rfl ?_ ?_<;>intro h1 q1
 have Ai:k<(s).length:=AH h1
 obtain ⟨i,Ah⟩:=at_ Ai
 have hir:=hs i (List.mem_of_getElem? Ah)
 have hdi:=Kc (l:=d) (i:=i.toNat) AA
 refine ac ?_
 refine Tr.seq (Tr.block (Tr.seq (Tr.Aj (co rfl (AD rfl underlying51 CH vq vq AA (AX Ah)) ?_))))
 refine a2 ?_
 refine co rfl (AD rfl underlying22 CH vq vq AA (Bm hdi)) (co rfl (GX rfl DF rfl) (co rfl (M9 rfl vq vq) ?_))
 refine ac ?_
 refine wk [13,12,11,7,3] rfl ?_
 refine ac ?_
 exact Fin.AP (k+1) ⟨Ai,by omega⟩ ⟨⟨_,rfl,AG k⟩,⟨_,rfl,int_eq (by rw [fm Ah])⟩,kz⟩
 have BL:k=(s).length:=by have:=AJ h1;omega
 subst BL
 rw [List.take_length]
 refine a3 ?_
 · exact Lr
structure AEs (n:Int) (L:List (List (List Int))):Prop where
 Uw:∀t∈L,K7 n t
 len:L.length≤1000000
abbrev uF (L:List (List (List Int))):Pr:=slice 1 (L.map fun t=>[sets t])
theorem fq {n:Int} {L:List (List (List Int))} {t:List (List Int)} (h:∀t∈L,K7 n t) (ht:K7 n t):∀u∈L++[t],K7 n u:=fun u hu=>by
 rcases List.mem_append.1 hu with hu|hu
 · exact h u hu
 · rw [List.mem_singleton] at hu;subst hu;exact ht
theorem XG {e:Da} {l:List BW} {r:List BO} {d:List Int} {n:Nat} (hz:e.sz n) (hn:n≤800000) (hrl:r.length≤1000000):BC prog 215 [agg (CG e),JB l r d] (Cp.ex fun z:List (List (List Int))×Int=>fact (AEs ((l.length:Nat):Int) z.1) (D7 [uF z.1,int z.2])):=by
 refine fo func215 rfl ⟨rfl,rfl⟩ fun M0 w0=> ?_
 have hlg:=hz.lg
 iterate 4 refine ac ?_
 refine Tr.block (Tr.B5 99 1 (Tr.FR _ (kk [13,3,2] rfl) (fun (o:List (List (List Int))) (m:Int) (k:Nat) u=>[(14,int ((k:Nat):Int)),(7,int m),(6,Af u (uF o))]) (fun (o:List (List (List Int))) (m:Int) (k:Nat) u=>Hp M0 w0 Fa ([Au 99 1 u])) (fun (o:List (List (List Int))) (m:Int) (k:Nat)=>(k≤e.BQ.length∧o.length=k)∧(0≤m∧m≤4096)∧∀t∈o,K7 ((l.length:Nat):Int) t) (fun (o:List (List (List Int))) (m:Int) (k:Nat)=>e.BQ.length-k) ([]) (0) (0) (.slice none 0 0) (⟨⟨Nat.zero_le _,rfl⟩,⟨by omega,by omega⟩,fun s h=>F1⟩) ⟨kq,kq,⟨_,rfl,Bn rfl⟩,trivial⟩ (fun _ _ h=>h) ?_))
 rintro o m k u ⟨⟨hk0,hol⟩,hm,mw⟩
 refine ac ?_
 refine Tr.seq ?_
 refine Tr.cn rfl ?_ ?_<;>intro h1 q1
 have hk:k<e.BQ.length:=AH h1
 refine a2 ?_
 refine ap ?_
 refine tp rfl (Kk (fk hz hn hrl) rfl rfl rfl rfl) ?_
 refine TO.ex 21 rfl (fun z1=>TO.fact 21 rfl fun EY=> ?_)
 have hzl:=EY.len
 refine ap ?_
 refine wk [14,13,10,9,7,6,3,2] rfl ?_
 refine ac ?_
 refine ag ?_ ?_<;>intro h2 q2
 refine ac ?_
 refine wk [33,14,13,9,7,6,3,2] rfl ?_
 refine ac ?_
 refine Tr.ret (Fin.AE (Fin.AU (Fin.AE (Fin.AE (Fin.AU (Fin.AE (Fin.BU rfl (AO.tmp rfl Lr) (AO.tmp rfl Lr) ?_)))))))
 · exact g_
 refine ac ?_
 refine wk [33,14,13,9,7,6,3,2] rfl ?_
 refine Tr.cn rfl ?_ ?_<;>intro h3 q3
 refine ac ?_
 refine Tr.ret (Fin.AE (Fin.AU (Fin.AE (Fin.AE (Fin.AU (Fin.AE (Fin.BU rfl (AO.tmp rfl Lr) (AO.tmp rfl Lr) ?_)))))))
 · exact g_
 refine ac ?_
 refine ap ?_
 refine TO.DZ 0 rfl rfl AB (B4 rfl rfl rfl rfl underlying274 oq ADE z99 H_ GH (Az BJ Kl)) (fun v1=> ?_)
 refine ap ?_
 refine ac ?_
 exact Fin.EC (o++[z1.1]) (m+((z1.1.length:Nat):Int)) (k+1) v1 (⟨⟨⟨by omega,by simp;omega⟩,⟨by omega,by omega⟩,fq mw EY⟩,by omega⟩) ⟨⟨_,rfl,AG k⟩,kq,⟨_,rfl,BA DB⟩,kz⟩ (fun _ _ h=>h)
 have cv:=AJ h1
 refine a2 ?_
 refine Tr.ret (Fin.BU rfl (AO.tmp rfl Lr) (AO.tmp rfl Lr) ?_)
 · exact Aw (_,_) (A8 ⟨mw,(by show o.length≤1000000;omega)⟩ (A0 ⟨At _ _,Lr,trivial⟩))
abbrev w5:Pr:=agg [anyI,anyI]
theorem sV {φ:Prop}:Pr.le (Cp.ex fun z:Int×Int×Int=>fact φ (D7 [agg [int z.1,int z.2.1],int z.2.2])) (D7 [w5,anyI]):=fun M w v ⟨z,_,h⟩=>A0 (ps:=[agg [int z.1,int z.2.1],int z.2.2]) (qs:=[w5,anyI]) ⟨BR (ps:=[int z.1,int z.2.1]) (qs:=[anyI,anyI]) ⟨Aw _ (Pr.le_refl _),Aw _ (Pr.le_refl _),trivial⟩,Aw _ (Pr.le_refl _),trivial⟩ M w v h
abbrev uG:Pr:=Cp.ex fun z:List Int=>fact (z.length≤1000000) (ints z)
theorem w7:Pr.le (Cp.ex fun z:List Int×Int=>fact (z.1.length≤1000) (D7 [ints z.1,int z.2])) (D7 [uG,anyI]):=fun M w v ⟨z,hz,h⟩=>A0 (ps:=[ints z.1,int z.2]) (qs:=[uG,anyI]) ⟨Aw z.1 (A8 AA (Pr.le_refl _)),Aw _ (Pr.le_refl _),trivial⟩ M w v h
theorem ZX {e:Da} {l:List BW} {r:List BO} {d:List Int} {n:Nat} {s:List Int} {i fr NN:Int} (hz:e.sz n) (hn:n≤800000) (hc:∀c∈l,c.Cr.fits∧c.Cr.small) (hs:∀i∈s,0≤i∧i<(d.length:Nat)) (hsl:s.length≤4096)  :BC prog 249 [agg (CG e),JB l r d,int i,ints s,int fr,int NN] (D7 [w5,EE]):=by
 refine fo func249 rfl ⟨rfl,rfl⟩ fun M0 w0=> ?_
 have hxf:=(cY (l:=l) (s:=s) hz hc).fits AA
 refine Tr.seq (Tr.An (tp rfl (BZ rfl Cm) (tp rfl (BZ rfl Cm) ?_)))
 refine Tl rfl rfl rfl rfl JJ FU (fun b1=> ?_)
 refine ao ?_
 refine ao ?_
 refine tp rfl (Kk (Lm hz hn hc) rfl rfl rfl rfl) ?_
 refine ao ?_
 refine Tl rfl rfl rfl rfl z31 Ht (fun b2=> ?_)
 refine sf 0 14 ⟨rfl,rfl,rfl⟩ rfl rfl rfl rfl ?_
 refine ao ?_
 refine wk [15,14,12,7,5,4,3,2] rfl ?_
 refine an ?_ ?_<;>intro h1 q1
 refine ao ?_
 refine TO.AK 0 rfl rfl rfl vq Cm rfl B_ rfl rfl ?_
 refine ao ?_
 refine Tr.ret (Fin.AE (Fin.BU rfl (AO.cell 0 rfl rfl Cq B_ rfl Lr) (AO.tmp rfl Lr) ?_))
 refine A0 ⟨?_,?_,trivial⟩
 · exact BR ⟨Aw _ Lr,Aw _ Lr,trivial⟩
 · exact BF
 refine ac ?_
 refine Tr.seq (Tr.pad (Tr.rx ?_))
 refine ax ?_
 refine xo rfl (fun _=>Kk (Ln hs) rfl rfl rfl rfl) (xm rfl (xo rfl (fun _=>Ad.le (gL (OB hxf) rfl rfl rfl rfl rfl) sV) ?_))
 refine ax ?_
 refine Cx.ef 0 rfl rfl AB (CB rfl rfl AB rfl JJ FU) (Cx.Dr 0 rfl rfl (Cd rfl rfl rfl rfl Cm B_ rfl rfl) (xm rfl ?_))
 refine Cx.nil ⟨by kernel_rfl,?_⟩
 refine BH.open_ 0 16 rfl rfl (fun v1=> ?_)
 refine BH.done XT (Fin.LI 16 0 _ rfl rfl (fun _=>rfl) (fun b3=> ?_))
 refine Fin.go (wk [17,16,12] rfl ?_)
 refine ao ?_
 refine tp rfl (mV rfl (VL.le vq ZH) (VL.le vq (C4 _ _))) (TO.AK 1 rfl rfl rfl vq Cm rfl B_ rfl rfl ?_)
 refine ao ?_
 refine Tr.drop 0 (Tr.ret (Fin.BU rfl (AO.cell 0 rfl rfl Cq B_ rfl Lr) (AO.tmp rfl Lr) ?_))
 refine A0 ⟨?_,?_,trivial⟩
 · exact Lr
 · exact Lr
abbrev nE (c:Int×List Int):List Pr:=[int c.1,ints c.2,anyI,anyI]
abbrev nF:Pr:=agg [Cp.ex fun L:List (Int×List Int)=>slice 4 (L.map nE)]
abbrev ABd:Pr:=agg [anyI,Cp.ex fun s:List Int=>ints s,anyI,anyI]
theorem Du:Pr.le (agg [is (.slice none 0 0)]) nF:=BR ⟨Aw [] (AQ 4),trivial⟩
theorem Lx:Pr.le (agg [is (.int .i64 0),is (.slice none 0 0),is (.int .i64 0),is (.int .i64 0)]) ABd:=BR ⟨Aw _ (Pr.le_refl _),Aw [] (AQ 1),Aw _ (Pr.le_refl _),Aw _ (Pr.le_refl _),trivial⟩
theorem fu {e:Da} {l:List BW} {r:List BO} {d:List Int} {n:Nat} {fr NN:Int} (hz:e.sz n) (hn:n≤800000) (hc:∀c∈l,c.Cr.fits∧c.Cr.small) (hrl:r.length≤1000000):BC prog 213 [agg (CG e),JB l r d,int fr,int NN] (Cp.ex fun z:Int=>fact (z=0→FH e=true∧VF e.Bp.length l r d) (D7 [nF,ABd,EE,int z])):=by
 refine fo func213 rfl ⟨rfl,rfl⟩ fun M0 w0=> ?_
 have hf:=hz.fits AA
 refine Tr.seq (Tr.An (tp rfl (BZ rfl Cm) (tp rfl (BZ rfl Cm) ?_)))
 refine Tl rfl rfl rfl rfl z107 EW (fun b1=> ?_)
 refine Tl rfl rfl rfl rfl qB QX (fun b2=> ?_)
 refine ao ?_
 refine ao ?_
 refine tp rfl (CK (XF hf hrl) rfl rfl rfl) ?_
 refine TO.ex 24 rfl (fun z1=>TO.fact 24 rfl fun EY=> ?_)
 refine ao ?_
 refine wk [12,9,8,5,4,3,2] rfl ?_
 refine an ?_ ?_<;>intro h1 q1
 refine ao ?_
 refine TO.AK 1 rfl rfl rfl vq Cm rfl Bj rfl rfl (TO.AK 0 rfl rfl rfl vq Cm rfl Fg rfl rfl ?_)
 refine ao ?_
 refine wk [11,10,9,8] rfl (Tr.ret (Fin.AE (Fin.OA rfl (AO.cell 1 rfl rfl CN Bj rfl Lr) (AO.cell 0 rfl rfl Jb Fg rfl Lr) (AO.tmp rfl Lr) (AO.tmp rfl Lr) ?_)))
 · exact Aw z1 (A8 (fun h_=>absurd h_ AA) (A0 ⟨Du,Lx,Aw _ Lr,Lr,trivial⟩))
 have hz0:z1=0:=by have:=q1;omega
 obtain ⟨UQ,hfp⟩:=EY hz0
 have hdl:=hfp.dl
 refine ac ?_
 refine ag ?_ ?_<;>intro h2 q2
 refine ac ?_
 refine wk [43,9,8,5,4,3,2] rfl (Tr.cond rfl (fun _=> ?_) (fun h=>nomatch h))
 refine Tr.seq (Tr.An (tp rfl (Al (rows:=[]) rfl I6 EW trivial rfl) (tp rfl (Al (rows:=[]) rfl af QX trivial rfl) (TO.AK 1 rfl rfl rfl vq Cm rfl Bj rfl rfl (TO.AK 0 rfl rfl rfl vq Cm rfl Fg rfl rfl ?_)))))
 refine ao ?_
 refine Tr.ret (Fin.AE (Fin.OA rfl (AO.cell 1 rfl rfl CN Bj rfl Lr) (AO.cell 0 rfl rfl Jb Fg rfl Lr) (AO.tmp rfl Lr) (AO.tmp rfl Lr) ?_))
 · exact Ta
 refine ag ?_ ?_<;>intro h3 q3
 refine ac ?_
 refine wk [43,9,8,5,4,3,2] rfl (Tr.cond rfl (fun _=> ?_) (fun h=>nomatch h))
 refine Tr.seq (Tr.An (tp rfl (Al (rows:=[]) rfl I6 EW trivial rfl) (tp rfl (Al (rows:=[]) rfl af QX trivial rfl) (TO.AK 1 rfl rfl rfl vq Cm rfl Bj rfl rfl (TO.AK 0 rfl rfl rfl vq Cm rfl Fg rfl rfl ?_)))))
 refine ao ?_
 refine Tr.ret (Fin.AE (Fin.OA rfl (AO.cell 1 rfl rfl CN Bj rfl Lr) (AO.cell 0 rfl rfl Jb Fg rfl Lr) (AO.tmp rfl Lr) (AO.tmp rfl Lr) ?_))
 · exact Ta
 refine ag ?_ ?_<;>intro h4 q4
 refine ac ?_
 refine wk [43,9,8,5,4,3,2] rfl (Tr.cond rfl (fun _=> ?_) (fun h=>nomatch h))
 refine Tr.seq (Tr.An (tp rfl (Al (rows:=[]) rfl I6 EW trivial rfl) (tp rfl (Al (rows:=[]) rfl af QX trivial rfl) (TO.AK 1 rfl rfl rfl vq Cm rfl Bj rfl rfl (TO.AK 0 rfl rfl rfl vq Cm rfl Fg rfl rfl ?_)))))
 refine ao ?_
 refine Tr.ret (Fin.AE (Fin.OA rfl (AO.cell 1 rfl rfl CN Bj rfl Lr) (AO.cell 0 rfl rfl Jb Fg rfl Lr) (AO.tmp rfl Lr) (AO.tmp rfl Lr) ?_))
 · exact Ta
 refine ac ?_
 refine wk [43,9,8,5,4,3,2] rfl ?_
 refine Tr.cn rfl ?_ ?_<;>intro h5 q5
 refine ao ?_
 refine TO.AK 1 rfl rfl rfl vq Cm rfl Bj rfl rfl (TO.AK 0 rfl rfl rfl vq Cm rfl Fg rfl rfl ?_)
 refine ao ?_
 refine Tr.ret (Fin.AE (Fin.OA rfl (AO.cell 1 rfl rfl CN Bj rfl Lr) (AO.cell 0 rfl rfl Jb Fg rfl Lr) (AO.tmp rfl Lr) (AO.tmp rfl Lr) ?_))
 · exact Ta
 refine ac ?_
 refine ao ?_
 refine tp rfl (CK (XG hz hn hrl) rfl rfl rfl) ?_
 refine TO.ex 49 rfl (fun z2=>TO.fact 49 rfl fun IC=> ?_)
 refine ao ?_
 refine wk [14,13,9,8,5,4,3,2] rfl ?_
 refine an ?_ ?_<;>intro h6 q6
 refine ao ?_
 refine TO.AK 1 rfl rfl rfl vq Cm rfl Bj rfl rfl (TO.AK 0 rfl rfl rfl vq Cm rfl Fg rfl rfl ?_)
 refine ao ?_
 refine wk [11,10,9,8] rfl (Tr.ret (Fin.AE (Fin.OA rfl (AO.cell 1 rfl rfl CN Bj rfl Lr) (AO.cell 0 rfl rfl Jb Fg rfl Lr) (AO.tmp rfl Lr) (AO.tmp rfl Lr) ?_)))
 · exact Aw _ (A8 (fun _=>⟨UQ,hfp⟩) (A0 ⟨Du,Lx,Aw _ Lr,Lr,trivial⟩))
 refine ac ?_
 refine Tr.seq (Tr.An ?_)
 refine Tl rfl rfl rfl rfl z107 EW (fun b3=> ?_)
 refine ao ?_
 refine ac ?_
 refine wk [59,58,57,15,9,8,5,4,3,2] rfl (Tr.block (Tr.HC 0 [Af (.slice none 0 0) (slice 4 (([]:List (Int×List Int)).map nE))] rfl ⟨Bn rfl,trivial⟩ (Tr.B5 270 4 (Tr.C2 _ (kk [58,57,15,9,8,5,4,3,2] rfl) (fun (q:List (Int×List Int)) (k:Nat) v=>[(59,int ((k:Nat):Int))]) (fun (q:List (Int×List Int)) (k:Nat) v=>Hp M0 w0 Fa ([Au 270 4 v,AF true b3 107 [Af v (slice 4 (q.map nE))],AF true b2 270 (([.int .i64 0,.slice none 0 0,.int .i64 0,.int .i64 0]:List Value).map is),AF true b1 107 (([.slice none 0 0]:List Value).map is)])) (fun (q:List (Int×List Int)) (k:Nat)=>k≤z2.1.length∧q.length≤4096*k) (fun (q:List (Int×List Int)) (k:Nat)=>z2.1.length-k) ([]) (0) (.slice none 0 0) (⟨Nat.zero_le _,by simp⟩) kz (fun _ _ h=>h) ?_))))
 rintro q k v ⟨hk0,hql⟩
 refine ac ?_
 refine Tr.seq ?_
 refine Tr.cn rfl ?_ ?_<;>intro h7 q7
 have hk:k<z2.1.length:=AH h7
 obtain ⟨t,ht⟩:=at_ hk
 have hts:=IC.Uw t (List.mem_of_getElem? ht)
 have htl:=hts.len
 have hzl:=IC.len
 refine a2 ?_
 refine co rfl (AD rfl underlying274 oq vq vq AA (AX ht)) ?_
 refine ac ?_
 refine wk [59,58,57,17,16,15,9,8,5,4,3,2] rfl ?_
 refine ac ?_
 refine wk [66,65,64,59,58,57,16,15,9,8,5,4,3,2] rfl (Tr.block (Tr.C2 _ (kk [65,64,59,58,57,16,15,9,8,5,4,3,2] rfl) (fun (q2:List (Int×List Int)) (m:Nat) u=>[(66,int ((m:Nat):Int))]) (fun (q2:List (Int×List Int)) (m:Nat) u=>Hp M0 w0 Fa ([Au 270 4 u,AF true b3 107 [Af u (slice 4 (q2.map nE))],AF true b2 270 (([.int .i64 0,.slice none 0 0,.int .i64 0,.int .i64 0]:List Value).map is),AF true b1 107 (([.slice none 0 0]:List Value).map is)])) (fun (q2:List (Int×List Int)) (m:Nat)=>m≤t.length∧q2.length≤4096*k+m) (fun (q2:List (Int×List Int)) (m:Nat)=>t.length-m) (q) (0) v (⟨Nat.zero_le _,by omega⟩) kz (fun _ _ h=>h) ?_))
 rintro q2 m u ⟨hm0,AFz⟩
 refine ac ?_
 refine wk [67,66,65,64,59,58,57,16,15,9,8,5,4,3,2] rfl (Tr.seq ?_)
 refine Tr.cn rfl ?_ ?_<;>intro h8 q8
 have hm:m<t.length:=AH h8
 obtain ⟨x,hx⟩:=at_ hm
 have hsd:∀i∈x,0≤i∧i<(d.length:Nat):=fun i hi=>by have:=hts.Uw x (List.mem_of_getElem? hx) i hi;omega
 have hsw:=hts.wid x (List.mem_of_getElem? hx)
 refine ac ?_
 refine wk [66,65,64,59,58,57,16,15,9,8,5,4,3,2] rfl (Tr.seq (Tr.block (Tr.seq (Tr.Aj (co rfl (AD rfl underlying99 Ge vq vq AA (AX hx)) ?_)))))
 refine ac ?_
 refine wk [66,65,64,59,58,57,19,16,15,9,8,5,4,3,2] rfl ?_
 refine ac ?_
 refine co rfl (Kk (Ln hsd) rfl rfl rfl rfl) ?_
 refine ac ?_
 refine wk [75,66,65,64,59,58,57,19,16,15,9,8,5,4,3,2] rfl ?_
 refine Tr.cn rfl ?_ ?_<;>intro h9 q9
 refine ac ?_
 refine wk [66,65,64,59,58,57,16,15,9,8,5,4,3,2] rfl ?_
 refine ac ?_
 exact Fin.Bg (q2) (m+1) u (⟨⟨by omega,by omega⟩,by omega⟩) ⟨⟨_,rfl,AG m⟩,kz⟩ (fun _ _ h=>h)
 refine ac ?_
 refine wk [66,65,64,59,58,57,19,16,15,9,8,5,4,3,2] rfl ?_
 refine ao ?_
 refine tp rfl (AR rfl (ZX hz hn hc hsd hsw) ⟨kq,kz⟩) ?_
 refine ao ?_
 refine Tl rfl rfl rfl rfl JJ FU (fun b4=> ?_)
 refine sf 0 20 ⟨rfl,rfl,rfl⟩ rfl rfl rfl rfl ?_
 refine ao ?_
 refine wk [66,65,64,59,58,57,21,20,19,16,15,9,8,5,4,3,2] rfl (Tr.seq (Tr.seq (Tr.ex 21 rfl fun x21=> ?_)))
 refine ac ?_
 refine wk [87,66,65,64,59,58,57,20,19,16,15,9,8,5,4,3,2] rfl ?_
 refine Tr.cn rfl ?_ ?_<;>intro h10 PC
 refine ao ?_
 refine TO.AK 3 rfl rfl rfl vq Cm rfl Bj rfl rfl (TO.AK 2 rfl rfl rfl vq Cm rfl Fg rfl rfl ?_)
 refine ao ?_
 refine wk [11,10,9,8] rfl (Tr.ret (Fin.AE (Fin.AU (Fin.AE (Fin.AE (Fin.AU (Fin.AU (Fin.AE (Fin.AE (Fin.AU (Fin.AE (Fin.OA rfl (AO.cell 3 rfl rfl CN Bj rfl Lr) (AO.cell 2 rfl rfl Jb Fg rfl Lr) (AO.tmp rfl Lr) (AO.tmp rfl Lr) ?_))))))))))))
 · exact Aw 0 (A8 (fun _=>⟨UQ,hfp⟩) (A0 ⟨Du,BR ⟨Aw _ Lr,Aw _ Lr,Aw _ Lr,Aw _ Lr,trivial⟩,Aw _ Lr,Lr,trivial⟩))
 refine ac ?_
 refine wk [66,65,64,59,58,57,20,19,16,15,9,8,5,4,3,2] rfl ?_
 refine ao ?_
 refine TO.DZ 0 rfl rfl AB (B4 rfl rfl rfl rfl underlying105 Fg zS qB H_ GH (Az BJ Kl)) (fun v1=> ?_)
 refine tp rfl (Ab rfl aX vq) (TO.AK 1 rfl rfl rfl vq N0 rfl zA rfl rfl ?_)
 refine ao ?_
 refine wk [66,65,64,59,58,57,16,15,9,8,5,4,3,2] rfl ?_
 refine ac ?_
 refine Fin.HC 1 [Af v1 (slice 4 ((q2++[(((k:Nat):Int),x)]).map nE))] rfl ⟨BA DB,trivial⟩ ?_
 exact Fin.Bg (q2++[(((k:Nat):Int),x)]) (m+1) v1 (⟨⟨by omega,by simp;omega⟩,by omega⟩) ⟨⟨_,rfl,AG m⟩,kz⟩ (fun _ _ h=>h)
 have hme:=AJ h8
 refine ac ?_
 refine wk [59,58,57,15,9,8,5,4,3,2] rfl ?_
 refine ac ?_
 exact Fin.Bg (q2) (k+1) u (⟨⟨by omega,by omega⟩,by omega⟩) ⟨⟨_,rfl,AG k⟩,kz⟩ (fun _ _ h=>h)
 have cv:=AJ h7
 refine ac ?_
 refine ao ?_
 refine TO.AK 3 rfl rfl rfl vq Cm rfl Bj rfl rfl (TO.AK 2 rfl rfl rfl vq Cm rfl Fg rfl rfl ?_)
 refine ao ?_
 refine wk [11,10,9,8] rfl (Tr.ret (Fin.OA rfl (AO.cell 3 rfl rfl CN Bj rfl Lr) (AO.cell 2 rfl rfl Jb Fg rfl Lr) (AO.tmp rfl Lr) (AO.tmp rfl Lr) ?_))
 · exact Aw 0 (A8 (fun _=>⟨UQ,hfp⟩) (A0 ⟨BR ⟨Aw _ (At _ _),trivial⟩,Lx,Aw _ Lr,Lr,trivial⟩))
theorem fy {e:Da} {l:List BW} {r:List BO} {d:List Int} {n:Nat} {fr NN:Int} (hz:e.sz n) (hn:n≤800000) (hc:∀c∈l,c.Cr.fits∧c.Cr.small) (hrl:r.length≤1000000):BC prog 176 [agg (CG e),JB l r d,int fr,int NN] (Cp.ex fun z:Int=>fact (z=0→FH e=true∧VF e.Bp.length l r d) (D7 [nF,int z])):=by
 refine fo func176 rfl ⟨rfl,rfl⟩ fun M0 w0=>(Tr.seq (Tr.An (tp rfl (BZ rfl Cm) (tp rfl (BZ rfl Cm) ?_))))
 refine Tl rfl rfl rfl rfl z107 EW (fun b1=> ?_)
 refine ao ?_
 refine ao ?_
 refine tp rfl (gL (fu hz hn hc hrl) rfl rfl rfl rfl rfl) ?_
 refine TO.ex 19 rfl (fun z1=>TO.fact 19 rfl fun EY=> ?_)
 refine ao ?_
 refine Tl rfl rfl rfl rfl z107 EW (fun b2=> ?_)
 refine Tl rfl rfl rfl rfl qB QX (fun b3=> ?_)
 refine sf 1 10 ⟨rfl,rfl,rfl⟩ rfl rfl rfl rfl ?_
 refine sf 0 11 ⟨rfl,rfl,rfl⟩ rfl rfl rfl rfl ?_
 refine ao ?_
 refine wk [13,12,10,8] rfl ?_
 refine an ?_ ?_<;>intro h1 q1
 refine ao ?_
 refine TO.AK 0 rfl rfl rfl vq Cm rfl Bj rfl rfl ?_
 refine ao ?_
 refine Tr.ret (Fin.AE (Fin.BU rfl (AO.cell 0 rfl rfl CN Bj rfl Lr) (AO.tmp rfl Lr) ?_))
 · exact Aw z1 (A8 (fun h_=>absurd h_ AA) (A0 ⟨Du,Lr,trivial⟩))
 have hz0:z1=0:=by have:=q1;omega
 refine ac ?_
 refine Tr.seq (Tr.seq (Tr.ex 12 rfl fun x12=> ?_))
 refine an ?_ ?_<;>intro h2 q2
 refine ao ?_
 refine TO.AK 0 rfl rfl rfl vq Cm rfl Bj rfl rfl ?_
 refine ao ?_
 refine Tr.ret (Fin.AE (Fin.BU rfl (AO.cell 0 rfl rfl CN Bj rfl Lr) (AO.tmp rfl Lr) ?_))
 · exact Aw 42 (A8 (fun h_=>absurd h_ AB) (A0 ⟨Du,Lr,trivial⟩))
 refine ac ?_
 refine ao ?_
 refine TO.AK 0 rfl rfl rfl vq Cm rfl Bj rfl rfl ?_
 refine ao ?_
 refine Tr.ret (Fin.BU rfl (AO.cell 0 rfl rfl CN Bj rfl Lr) (AO.tmp rfl Lr) ?_)
 · exact Aw 0 (A8 (fun _=>EY hz0) (A0 ⟨Lr,Lr,trivial⟩))
theorem VG {e:Da} {l:List BW} {r:List BO} {d:List Int} {n:Nat} {s:List Int} {g i:Int} (hz:e.sz n) (hn:n≤800000) (hc:∀c∈l,c.Cr.fits∧c.Cr.small) (hsl:s.length≤4096) (hi:0≤i∧i<(d.length:Nat)):BC prog 218 [agg (CG e),JB l r d,int g,ints s,int i,Ml,RY,U_] (EE):=by
 refine fo func218 rfl ⟨rfl,rfl⟩ fun M0 w0=> ?_
 have hxf:=(cY (l:=l) (s:=s) hz hc).fits AA
 have hwl:=NT s i true
 have hyf:=(cY (l:=l) (s:=E8 s i true) hz hc).fits AA
 have hdi:=Kc (l:=d) (i:=i.toNat) AA
 refine ac ?_
 refine ao ?_
 refine tp rfl (Kk (Lm hz hn hc) rfl rfl rfl rfl) ?_
 refine ao ?_
 refine Tl rfl rfl rfl rfl z31 Ht (fun b1=> ?_)
 refine sf 0 17 ⟨rfl,rfl,rfl⟩ rfl rfl rfl rfl ?_
 refine ao ?_
 refine wk [18,17,15,13,9,8,6,4,3,2] rfl (Tr.seq (Tr.pad (Tr.rx ?_)))
 refine ax ?_
 refine xo rfl (fun _=>Kk (Gj AA) rfl rfl rfl rfl) (xo rfl (fun _=>Kk (Lm hz hn hc) rfl rfl rfl rfl) ?_)
 refine ax ?_
 refine Cx.ef 0 rfl rfl AB (CB rfl rfl AB rfl z31 Ht) (Cx.Dr 0 rfl rfl (Cd rfl rfl rfl rfl Cm DP rfl rfl) (xm rfl ?_))
 refine Cx.nil ⟨by kernel_rfl,?_⟩
 refine BH.open_ 0 19 rfl rfl (fun v1=> ?_)
 refine BH.done al1 (Fin.LI 19 0 _ rfl rfl (fun _=>rfl) (fun b2=> ?_))
 refine Fin.go (wk [20,19,18,17,15,13,9,6,4,2] rfl ?_)
 refine ag ?_ ?_<;>intro h1 q1
 refine ac ?_
 refine wk [46,19,17,15,13,9,6,4,2] rfl ?_
 refine ac ?_
 refine Tr.drop 0 ?_
 refine ac ?_
 · exact BF
 refine ac ?_
 refine wk [46,19,17,15,13,9,6,4,2] rfl ?_
 refine Tr.cn rfl ?_ ?_<;>intro h2 q2
 refine ac ?_
 refine Tr.drop 0 ?_
 refine ac ?_
 · exact BF
 refine a2 ?_
 refine co rfl (AD rfl underlying22 CH vq vq AA (Bm hdi)) (co rfl (GX rfl DF rfl) (co rfl (Ad.le (AR rfl (fO hxf hyf) ⟨kq,kz⟩) w7) ?_))
 refine ac ?_
 refine Tr.drop 0 (wk [21,2] rfl (Tr.seq (Tr.seq (Tr.ex 21 rfl fun bad=>(Tr.fact 21 rfl fun AF0=> ?_)))))
 refine ac ?_
 refine Tr.block (Tr.BE _ (kk [62,61,2] rfl) (fun k:Nat=>[(63,int ((k:Nat):Int))]) (fun k:Nat=>k≤(bad).length) (fun k:Nat=>(bad).length-k) 0 (Nat.zero_le _) kz ?_)
 rintro k BV
 refine ac ?_
 refine Tr.seq ?_
 refine Tr.cn rfl ?_ ?_<;>intro h3 q3
 have Ai:k<(bad).length:=AH h3
 obtain ⟨x,Ah⟩:=at_ Ai
 refine ac ?_
 refine Tr.seq (Tr.block (Tr.seq (Tr.Aj (co rfl (AD rfl underlying22 CH vq vq AA (AX Ah)) ?_))))
 · exact K8
 have BL:k=(bad).length:=by have:=AJ h3;omega
 subst BL
 refine a3 ?_
 · exact BF
theorem ZY {l:List (List Int)} {s:List Int}  :BC prog 217 [sets l,ints s] (EE):=by
 refine fo func217 rfl ⟨rfl,rfl⟩ fun M0 w0=>(Tr.Cf 0 rfl fun EH=> ?_)
 refine a2 ?_
 refine Tr.block (Tr.BE _ (kk [8,7,1] rfl) (fun k:Nat=>[(9,int ((k:Nat):Int))]) (fun k:Nat=>k≤(l).length) (fun k:Nat=>(l).length-k) 0 (Nat.zero_le _) kz ?_)
 rintro k BV
 refine ac ?_
 refine Tr.seq ?_
 refine Tr.cn rfl ?_ ?_<;>intro h1 q1
 have Ai:k<(l).length:=AH h1
 obtain ⟨x,Ah⟩:=at_ Ai
 refine ac ?_
 refine Tr.seq (Tr.block (Tr.seq (Tr.Aj (co rfl (AD rfl underlying99 Ge vq vq AA (AX Ah)) ?_))))
 refine a2 ?_
 refine co rfl (CK (VB) rfl rfl rfl) ?_
 refine ac ?_
 refine Tr.ex 15 rfl fun AF1=> ?_
 · exact K8
 have BL:k=(l).length:=by have:=AJ h1;omega
 refine a3 ?_
 · exact BF
theorem ZZ {e:Da} {l:List BW} {r:List BO} {d:List Int} {n:Nat} (hz:e.sz n) (hn:n≤800000) (hc:∀c∈l,c.Cr.fits∧c.Cr.small) (hrl:r.length≤1000000):BC prog 177 [agg (CG e),JB l r d,Ml,RY,U_] (Cp.ex fun z:List Int×Int=>fact (z.1.length≤1000) (D7 [ints z.1,int z.2])):=by
 refine fo func177 rfl ⟨rfl,rfl⟩ fun M0 w0=> ?_
 have hf:=hz.fits AA
 refine ac ?_
 refine ap ?_
 refine tp rfl (CK (XF hf hrl) rfl rfl rfl) ?_
 refine TO.ex 25 rfl (fun z1=>TO.fact 25 rfl fun EY=> ?_)
 refine ap ?_
 refine ac ?_
 refine nU 3 5 6 7 9 12 27 rfl ?_
 refine Tr.cn rfl ?_ ?_<;>intro h1 q1
 refine ac ?_
 refine Tr.ret (Fin.AE (Fin.BU rfl (AO.tmp rfl (Lr)) (AO.tmp rfl (Lr)) ?_))
 · exact Pt
 have hz0:z1=0:=by have:=q1;omega
 obtain ⟨UQ,hfp⟩:=EY hz0
 have hdl:=hfp.dl
 have Mv:=hfp.l24
 refine a2 ?_
 refine co rfl (Kk (J0) rfl rfl rfl rfl) ?_
 refine ac ?_
 refine Tr.seq (Tr.ex 13 rfl fun x13=> ?_)
 refine an ?_ ?_<;>intro h2 q2
 refine ac ?_
 refine T_ 10 11 rfl (Tr.ret (Fin.AE (Fin.BU rfl (AO.tmp rfl (Lr)) (AO.tmp rfl (Lr)) ?_)))
 · exact Pt
 refine ac ?_
 refine ap ?_
 refine tp rfl (CK (XG hz hn hrl) rfl rfl rfl) ?_
 refine TO.ex 38 rfl (fun z2=>TO.fact 38 rfl fun IC=> ?_)
 refine ap ?_
 refine nU 3 5 6 7 9 14 15 rfl ?_
 refine an ?_ ?_<;>intro h3 q3
 refine ac ?_
 refine Tr.ret (Fin.AE (Fin.BU rfl (AO.tmp rfl (Lr)) (AO.tmp rfl (Lr)) ?_))
 · exact Pt
 refine a3 ?_
 refine oQ 3 5 6 7 9 14 16 46 47 rfl (Tr.block (Tr.B5 3 1 (Tr.C2 [(3,_),(5,_),(6,_),(7,_),(9,_),(14,_),(46,_)] ⟨ke rfl,ke rfl,ke rfl,ke rfl,ke rfl,ke rfl,ke rfl,trivial⟩ (fun (o:List Int) (k:Nat) u=>[(47,int ((k:Nat):Int)),(16,Af u (ints o))]) (fun (o:List Int) (k:Nat) u=>Hp M0 w0 Fa ([Au 3 1 u])) (fun (o:List Int) (k:Nat)=>k≤l.length∧o.length≤k) (fun (o:List Int) (k:Nat)=>l.length-k) ([]) (0) (.slice none 0 0) (⟨Nat.zero_le _,by simp⟩) ⟨ke rfl,⟨_,rfl,Bn rfl⟩,trivial⟩ (fun _ _ h=>h) ?_)))
 rintro o k u ⟨hk0,hol⟩
 refine ac ?_
 refine Tr.seq ?_
 refine Tr.cn rfl ?_ ?_<;>intro h4 q4
 have hk:k<l.length:=AH h4
 obtain ⟨dk,hdi⟩:=at_ (l:=d) (k:=k) AA
 iterate 4 refine ac ?_
 refine uO 3 5 6 7 9 14 16 17 18 46 47 50 51 52 rfl (Tr.block (Tr.BE [(3,_),(5,_),(6,_),(7,_),(9,_),(14,_),(16,_),(17,_),(46,_),(47,_),(50,_),(51,_)] (AC9 rfl) (fun j:Nat=>[(52,int ((j:Nat):Int)),(18,EE)]) (fun j:Nat=>j≤(z2.1).length) (fun j:Nat=>(z2.1).length-j) 0 (Nat.zero_le _) ⟨ke rfl,⟨_,rfl,Aw _ (Lr)⟩,trivial⟩ ?_))
 rintro j AFN
 refine ac ?_
 refine AC7 3 5 6 7 9 14 16 17 18 46 47 50 51 52 53 rfl (Tr.seq ?_)
 refine Tr.cn rfl ?_ ?_<;>intro h5 q5
 have ABe:j<(z2.1).length:=AH h5
 obtain ⟨t,ABf⟩:=at_ ABe
 have hts:=IC.Uw t (List.mem_of_getElem? ABf)
 have ht:=ABf
 have htl:=hts.len
 have hzl:=IC.len
 refine ac ?_
 refine uO 3 5 6 7 9 14 16 17 18 46 47 50 51 52 rfl ?_
 refine ac ?_
 refine co rfl (AD rfl underlying274 oq (vl rfl) (vl rfl) AA (AX ht)) ?_
 refine ac ?_
 refine AC8 3 5 6 7 9 14 16 17 18 19 20 46 47 50 51 52 rfl ?_
 refine ac ?_
 refine ia 3 5 6 7 9 14 16 17 18 19 20 46 47 50 51 52 57 58 59 rfl (Tr.block (Tr.BE [(3,_),(5,_),(6,_),(7,_),(9,_),(14,_),(16,_),(17,_),(19,_),(20,_),(46,_),(47,_),(50,_),(51,_),(52,_),(57,_),(58,_)] (AC_ rfl) (fun m:Nat=>[(59,int ((m:Nat):Int)),(18,EE)]) (fun m:Nat=>m≤(t).length) (fun m:Nat=>(t).length-m) 0 (Nat.zero_le _) ⟨ke rfl,ke rfl,trivial⟩ ?_))
 rintro m MY
 refine ac ?_
 refine yg 3 5 6 7 9 14 16 17 18 19 20 46 47 50 51 52 57 58 59 60 rfl (Tr.seq ?_)
 refine Tr.cn rfl ?_ ?_<;>intro h6 q6
 have ES:m<(t).length:=AH h6
 obtain ⟨x,EX⟩:=at_ ES
 have hx:=EX
 have hsd:∀i∈x,0≤i∧i<(d.length:Nat):=fun i hi=>by have:=hts.Uw x (List.mem_of_getElem? hx) i hi;omega
 have hsw:=hts.wid x (List.mem_of_getElem? hx)
 refine ac ?_
 refine ia 3 5 6 7 9 14 16 17 18 19 20 46 47 50 51 52 57 58 59 rfl (Tr.seq (Tr.block (Tr.seq (Tr.Aj (co rfl (AD rfl underlying99 Ge (vl rfl) (vl rfl) AA (AX hx)) ?_)))))
 refine ac ?_
 refine yg 3 5 6 7 9 14 16 17 18 19 20 22 46 47 50 51 52 57 58 59 rfl (Tr.seq (Tr.ex 18 rfl fun x18=> ?_))
 refine ag ?_ ?_<;>intro h7 q7
 refine ac ?_
 refine cy h7 rfl (CK (Jt) rfl rfl rfl) ?_
 refine ag ?_ ?_<;>intro h8 q8
 refine ac ?_
 refine cy h8 rfl (Kk (Ln hsd) rfl rfl rfl rfl) ?_
 refine ac ?_
 refine cy h8 rfl (AD rfl underlying22 CH (vl rfl) (vl rfl) AA (AX hdi)) ?_
 refine ag ?_ ?_<;>intro h9 q9
 refine ac ?_
 refine cy h9 rfl (Kk (Gj AA) rfl rfl rfl rfl) (cy h9 rfl (CK (ZY) rfl rfl rfl) ?_)
 refine ac ?_
 refine oW 3 5 6 7 9 14 16 17 18 19 20 22 46 47 50 51 52 57 58 59 88 rfl (Tr.ex 88 rfl fun AF2=> ?_)
 · repeat' first|exact Fin.AP (m+1) ⟨ES,by omega⟩ ⟨⟨_,rfl,AG m⟩,ke rfl,ke rfl,ke rfl,ke rfl,ke rfl,ke rfl,ke rfl,ke rfl,ke rfl,ke rfl,ke rfl,ke rfl,ke rfl,ke rfl,ke rfl,ke rfl,ke rfl,ke rfl,trivial⟩|exact Fin.AP (m+1) ⟨ES,by omega⟩ ⟨⟨_,rfl,AG m⟩,⟨_,rfl,Aw _ (Lr)⟩,ke rfl,ke rfl,ke rfl,ke rfl,ke rfl,ke rfl,ke rfl,ke rfl,ke rfl,ke rfl,ke rfl,ke rfl,ke rfl,ke rfl,ke rfl,ke rfl,ke rfl,trivial⟩|refine co rfl (AR rfl (VG hz hn hc hsw AA) ⟨ke rfl,ke rfl,ke rfl,ke rfl,ke rfl,ke rfl,ke rfl,ke rfl,trivial⟩) ?_|refine ac ?_|(refine Tr.cn rfl ?_ ?_<;>intro h q)
 refine ac ?_
 refine oW 3 5 6 7 9 14 16 17 18 19 20 22 46 47 50 51 52 57 58 59 88 rfl ?_
 refine ac ?_
 refine ia 3 5 6 7 9 14 16 17 18 19 20 46 47 50 51 52 57 58 59 rfl ?_
 refine ac ?_
 exact Fin.AP (m+1) ⟨ES,by omega⟩ ⟨⟨_,rfl,AG m⟩,⟨_,rfl,Aw _ (Lr)⟩,ke rfl,ke rfl,ke rfl,ke rfl,ke rfl,ke rfl,ke rfl,ke rfl,ke rfl,ke rfl,ke rfl,ke rfl,ke rfl,ke rfl,ke rfl,ke rfl,ke rfl,trivial⟩
 refine ac ?_
 refine oW 3 5 6 7 9 14 16 17 18 19 20 22 46 47 50 51 52 57 58 59 88 rfl ?_
 refine ac ?_
 refine ia 3 5 6 7 9 14 16 17 18 19 20 46 47 50 51 52 57 58 59 rfl ?_
 refine ac ?_
 exact Fin.AP (m+1) ⟨ES,by omega⟩ ⟨⟨_,rfl,AG m⟩,⟨_,rfl,Aw _ (Lr)⟩,ke rfl,ke rfl,ke rfl,ke rfl,ke rfl,ke rfl,ke rfl,ke rfl,ke rfl,ke rfl,ke rfl,ke rfl,ke rfl,ke rfl,ke rfl,ke rfl,ke rfl,trivial⟩
 refine ac ?_
 refine oW 3 5 6 7 9 14 16 17 18 19 20 22 46 47 50 51 52 57 58 59 88 rfl ?_
 refine ac ?_
 refine ia 3 5 6 7 9 14 16 17 18 19 20 46 47 50 51 52 57 58 59 rfl ?_
 refine ac ?_
 exact Fin.AP (m+1) ⟨ES,by omega⟩ ⟨⟨_,rfl,AG m⟩,⟨_,rfl,Aw _ (Lr)⟩,ke rfl,ke rfl,ke rfl,ke rfl,ke rfl,ke rfl,ke rfl,ke rfl,ke rfl,ke rfl,ke rfl,ke rfl,ke rfl,ke rfl,ke rfl,ke rfl,ke rfl,trivial⟩
 have Jm:m=(t).length:=by have:=AJ h6;omega
 subst Jm
 refine ac ?_
 refine uO 3 5 6 7 9 14 16 17 18 46 47 50 51 52 rfl ?_
 refine ac ?_
 exact Fin.AP (j+1) ⟨ABe,by omega⟩ ⟨⟨_,rfl,AG j⟩,ke rfl,ke rfl,ke rfl,ke rfl,ke rfl,ke rfl,ke rfl,ke rfl,ke rfl,ke rfl,ke rfl,ke rfl,ke rfl,trivial⟩
 have wW:j=(z2.1).length:=by have:=AJ h5;omega
 subst wW
 refine ac ?_
 refine JG 3 5 6 7 9 14 16 17 18 46 47 rfl ?_
 refine ac ?_
 refine Tr.ex 100 rfl fun AFO=> ?_
 refine Tr.cn rfl ?_ ?_<;>intro h11 Rt
 refine ap ?_
 refine TO.DZ 0 rfl rfl AB (B4 rfl rfl rfl rfl underlying22 CH IQ z3 (Kb rfl) (Kf rfl) (Az BJ (Ka rfl))) (fun v1=> ?_)
 refine ap ?_
 refine oQ 3 5 6 7 9 14 16 46 47 rfl ?_
 refine ac ?_
 exact Fin.Bg (o++[((k:Nat):Int)]) (k+1) v1 (⟨⟨by omega,by simp;omega⟩,by omega⟩) ⟨⟨_,rfl,AG k⟩,⟨_,rfl,BA DB⟩,ke rfl,ke rfl,ke rfl,ke rfl,ke rfl,ke rfl,ke rfl,trivial⟩ (fun _ _ h=>h)
 refine a2 ?_
 exact Fin.Bg (o) (k+1) u (⟨⟨by omega,by omega⟩,by omega⟩) ⟨⟨_,rfl,AG k⟩,⟨_,rfl,BA rfl⟩,ke rfl,ke rfl,ke rfl,ke rfl,ke rfl,ke rfl,ke rfl,trivial⟩ (fun _ _ h=>h)
 have cv:=AJ h4
 refine a2 ?_
 refine Tr.ret (Fin.BU rfl (AO.tmp rfl (Lr)) (AO.tmp rfl (Lr)) ?_)
 · exact Xr
theorem f_ {e:Da} {l:List BW} {n:Nat} {s:List Int} {fr NN:Int} (hz:e.sz n) (hn:n≤800000) (hc:∀c∈l,c.Cr.fits∧c.Cr.small) (hsl:s.length≤4096):BC prog 220 [agg (CG e),Dt l,ints s,int fr,int NN] (EE):=by
 refine fo func220 rfl ⟨rfl,rfl⟩ fun M0 w0=> ?_
 have hxz:=cY (l:=l) (s:=s) hz hc
 have hxf:=hxz.fits AA
 have hxg:=hxz.lg
 refine ac ?_
 refine ao ?_
 refine tp rfl (Kk (Rc hz hn hc) rfl rfl rfl rfl) ?_
 refine ao ?_
 refine Tl rfl rfl rfl rfl z31 Ht (fun b1=> ?_)
 refine sf 0 11 ⟨rfl,rfl,rfl⟩ rfl rfl rfl rfl ?_
 refine ao ?_
 refine ac ?_
 refine wk [24,11,4,3] rfl ?_
 refine Tr.cn rfl ?_ ?_<;>intro h1 q1
 refine a2 ?_
 · exact BF
 refine a2 ?_
 refine Tr.block (Tr.BE _ (kk [27,11,4,3] rfl) (fun k:Nat=>[(28,int ((k:Nat):Int))]) (fun k:Nat=>k≤((Uq e l s).1.BQ).length) (fun k:Nat=>((Uq e l s).1.BQ).length-k) 0 (Nat.zero_le _) kz ?_)
 rintro k BV
 refine ac ?_
 refine Tr.seq ?_
 refine Tr.cn rfl ?_ ?_<;>intro h2 q2
 have Ai:k<((Uq e l s).1.BQ).length:=AH h2
 obtain ⟨x,Ah⟩:=at_ Ai
 refine a2 ?_
 refine ao ?_
 refine tp rfl (gL (OB hxf) rfl rfl rfl rfl rfl) ?_
 refine TO.ex 36 rfl (fun z1=>TO.fact 36 rfl fun EY=> ?_)
 refine ao ?_
 refine Tl rfl rfl rfl rfl JJ FU (fun b2=> ?_)
 refine sf 0 14 ⟨rfl,rfl,rfl⟩ rfl rfl rfl rfl ?_
 refine ao ?_
 · exact K8
 have BL:k=((Uq e l s).1.BQ).length:=by have:=AJ h2;omega
 refine a3 ?_
 · exact BF
theorem TQ {a b:Int}  :BC prog 123 [int a,int b] (EE):=by
 refine fo func123 rfl ⟨rfl,rfl⟩ fun M0 w0=> ?_
 · repeat' first|exact Aw _ Lr|refine ac ?_|(refine Ch.cg rfl rfl rfl ?_ ?_<;>intro h q)
theorem J3 {s:List Int} {m:Nat} (hs:∀i∈s,0≤i∧i<(m:Int)) (hm:m≤40):BC prog 219 [ints s] (Cp.ex fun z:Nat=>fact (z<2 ^ m) (int ((z:Nat):Int))):=by
 refine fo func219 rfl ⟨rfl,rfl⟩ fun M0 w0=>(Tr.Cf 0 rfl fun EH=> ?_)
 refine a3 ?_
 refine Tr.block (Tr.DE _ (kk [7,6] rfl) (fun (z:Nat) (k:Nat)=>[(8,int ((k:Nat):Int)),(3,int ((z:Nat):Int))]) (fun (z:Nat) (k:Nat)=>Hp M0 w0 Fa ([])) (fun (z:Nat) (k:Nat)=>k≤s.length∧z<2 ^ m) (fun (z:Nat) (k:Nat)=>s.length-k) (0) (0)  (⟨Nat.zero_le _,Nat.two_pow_pos m⟩) ⟨kq,kz⟩ (fun _ _ h=>h) ?_)
 rintro z k  ⟨hk0,hz⟩
 refine ac ?_
 refine Tr.seq ?_
 refine Tr.cn rfl ?_ ?_<;>intro h1 q1
 have hk:k<s.length:=AH h1
 obtain ⟨i,hx⟩:=at_ hk
 have hir:=hs i (List.mem_of_getElem? hx)
 refine ac ?_
 refine Tr.seq (Tr.block (Tr.seq (Tr.Aj (co rfl (AD rfl underlying51 CH vq vq AA (AX hx)) ?_))))
 refine a2 ?_
 refine co rfl (cI rfl vq vq AA AA) ?_
 refine co rfl (wX (m:=m) rfl vq vq hz (Nat.pow_lt_pow_right AA AA) hm) ?_
 refine a2 ?_
 exact Fin.DO ((z|||2 ^ i.toNat)) (k+1)  (⟨⟨by omega,Nat.or_lt_two_pow hz (Nat.pow_lt_pow_right AA AA)⟩,by omega⟩) ⟨⟨_,rfl,AG k⟩,kz⟩ (fun _ _ h=>h)
 have cv:=AJ h1
 refine a3 ?_
 · exact Aw _ (A8 hz Lr)
abbrev XH:Pr:=Cp.ex fun z:List Int=>fact (z.length≤1000) (ints z)
theorem gA {s:List Int} {k n:Int} (h:∀i∈s,0≤i∧i<n) (hk:0≤k∧k<n):∀i∈E8 s k true,0≤i∧i<n:=fun i hi=>by
 rcases Gi.1 hi with rfl|hi
 · exact hk
 · exact h i hi
theorem gB {n:Nat}:(List.replicate n (Value.bool false)).map is=((List.replicate n false).map fun x:Bool=>[Cp.bool x]).flatten++[]:=by
 rw [List.map_replicate,List.map_replicate,List.append_nil]
 induction n with
 |zero=>rfl
 |succ n ih=>rw [List.replicate_succ,List.replicate_succ,List.flatten_cons,←ih];rfl
theorem TR {e:Da} {l:List BW} {n:Nat} {so done:List Int} {fr NN:Int} {b N m:Nat} (hz:e.sz n) (hn:n≤800000) (hc:∀c∈l,c.Cr.fits∧c.Cr.small) (hN:2 ^ l.length=N) (hl:l.length≤10) (hm:so.length+m=l.length) (hdr:∀i∈done,0≤i∧i<((l.length:Nat):Int)) (hdl:done.length≤so.length) (ih:∀m':Nat,m=m'+1→∀so done:List Int,so.length+m'=l.length→(∀i∈done,0≤i∧i<((l.length:Nat):Int))→done.length≤so.length→Be prog 178 [agg (CG e),Dt l,ints so,ints done,int fr,int NN,is (JH N b)] (D7 [XH,EE]) (FW b 4 (fun x:Bool=>[Cp.bool x]) (fun L:List Bool=>L.length=N) []) (fun _=>FW b 4 (fun x:Bool=>[Cp.bool x]) (fun L:List Bool=>L.length=N) [])):Be prog 178 [agg (CG e),Dt l,ints so,ints done,int fr,int NN,is (JH N b)] (D7 [XH,EE]) (FW b 4 (fun x:Bool=>[Cp.bool x]) (fun L:List Bool=>L.length=N) []) (fun _=>FW b 4 (fun x:Bool=>[Cp.bool x]) (fun L:List Bool=>L.length=N) []):=by
 refine Be.of func178 rfl rfl Ao fun M0 w0 S rs M1 w1=> ?_
 refine ac ?_
 refine Tr.seq (Tr.seq (Tr.ML 0 rfl fun dd1 ABg=> ?_))
 refine ap ?_
 refine tp rfl (Ck (J3 (m:=l.length) hdr AA) rfl rfl) ?_
 refine TO.ex 22 rfl (fun z1=>TO.fact 22 rfl fun EY=> ?_)
 have hzN:z1<N:=hN ▸ EY
 refine tp rfl (Bb rfl underlying160 VO (vl rfl) (vl rfl) AA AA) (TO.rd 0 rfl rfl rfl AB (BI rfl Vu (vl rfl) (YO (g:=(fun x:Bool=>Cp.bool x)) AA)) ?_)
 refine ap ?_
 refine Tr.cn rfl ?_ ?_<;>intro h1 q1
 refine Tr.seq (Tr.Ic (fun L:List Bool=>L.length=N) 0 rfl ABg ?_)
 refine ac ?_
 refine Tr.ret (Fin.AE (Fin.Fe rfl rfl ?_ rfl ?_))
 · exact LA
 · exact BF
 refine ac ?_
 refine Tr.seq (Tr.seq (Tr.Ic (fun L:List Bool=>L.length=N) 0 rfl ABg ?_))
 refine ac ?_
 refine co rfl (kc5 (f_ hz hn hc AA) rfl rfl rfl rfl rfl rfl) ?_
 refine ac ?_
 refine wk [30,7,6,5,4,3,2,1] rfl (Tr.ex 30 rfl fun AF3=> ?_)
 refine Tr.cn rfl ?_ ?_<;>intro h2 q2
 refine ac ?_
 refine wk [35,7,6,5,4,3,2,1] rfl ?_
 refine Tr.cn rfl ?_ ?_<;>intro h3 q3
 refine ac ?_
 refine Tr.ret (Fin.AE (Fin.AE (Fin.Fe rfl rfl ?_ rfl ?_)))
 · exact Aw so (A8 AA Lr)
 · exact BF
 refine a2 ?_
 refine Tr.block (Tr.MC _ (kk [38,7,6,5,4,3,2,1] rfl) (fun (k:Nat)=>[(39,int ((k:Nat):Int))]) (fun (k:Nat)=>Hp M0 w0 S (FW b 4 (fun x:Bool=>[Cp.bool x]) (fun L:List Bool=>L.length=N) []::Ak M1 w1::rs)) (fun (k:Nat)=>k≤l.length) (fun (k:Nat)=>l.length-k) (0)  (Nat.zero_le _) kz (fun _ _ h=>h) ?_)
 rintro k  hk0
 refine ac ?_
 refine Tr.seq ?_
 refine Tr.cn rfl ?_ ?_<;>intro h4 q4
 have hk:k<l.length:=AH h4
 refine a3 ?_
 refine co rfl (CK (Jt) rfl rfl rfl) ?_
 refine ac ?_
 refine wk [44,39,38,16,7,6,5,4,3,2,1] rfl ?_
 refine Tr.cn rfl ?_ ?_<;>intro h5 q5
 refine a2 ?_
 exact Fin.MD (k+1)  (⟨by omega,by omega⟩) ⟨⟨_,rfl,AG k⟩,kz⟩ (fun _ _ h=>h)
 refine ac ?_
 refine ap ?_
 refine TO.pad ?_
 refine TO.DZ 0 rfl rfl AB (EL rfl rfl AB rfl underlying22 CH IQ z3 rfl AB ⟨_,rfl,AQ _⟩ (vl rfl) (by simp only [List.length_append,List.length_map,List.length_cons,List.length_nil];unfold maxLen;omega) (by simp only [List.length_append,List.length_map,List.length_cons,List.length_nil];omega) (Br BJ ⟨_,rfl,DD 1⟩)) (fun v1=> ?_)
 refine ap ?_
 refine wk [39,38,17,16,7,6,5,4,3,2,1] rfl ?_
 refine ap ?_
 refine TO.DZ 0 rfl rfl AB (B4 rfl rfl rfl rfl underlying22 CH IQ z3 (Kb rfl) (Kf rfl) (Az BJ (Ka rfl))) (fun v2=> ?_)
 refine ap ?_
 refine wk [39,38,17,16,7,6,5,4,3,2,1] rfl (Tr.seq (Tr.rx ?_))
 refine ay ?_
 refine xo rfl (fun _=>Kk (Gj AA) rfl rfl rfl rfl) ?_
 refine ay ?_
 refine Cx.ef 1 rfl rfl AB (Aq rfl rfl AB rfl (ih (m-1) AA (so++[((k:Nat):Int)]) (E8 done ((k:Nat):Int) true) B9 (gA hdr AA) (by have:=NT done ((k:Nat):Int) true;simp;omega)) ⟨ke rfl,ke rfl,⟨_,rfl,Pr.le_trans (At _ _) (Pr.le_of_eq (by show _=slice 1 ((so++[((k:Nat):Int)]).map fun n=>[int n]);rw [List.nil_append,List.map_append];rfl))⟩,kz⟩) ?_
 refine ay ?_
 refine Cx.nil ⟨by kernel_rfl,?_⟩
 refine BH.done al3 (Fin.go (Tr.drop 0 (wk [39,38,19,18,7,6,5,4,3,2,1] rfl ?_)))
 refine ac ?_
 refine Tr.ex 64 rfl fun AF4=> ?_
 refine Tr.cn rfl ?_ ?_<;>intro h6 q6
 refine ac ?_
 refine wk [15,14] rfl (Tr.ret (Fin.AU (Fin.AE (Fin.AE (Fin.AU (Fin.AE (Fin.Fe rfl rfl ?_ rfl ?_)))))))
 · exact Lr
 · exact BF
 refine a2 ?_
 exact Fin.MD (k+1)  (⟨by omega,by omega⟩) ⟨⟨_,rfl,AG k⟩,kz⟩ (fun _ _ h=>h)
 have cv:=AJ h4
 refine ac ?_
 refine Tr.seq (Tr.ML 0 rfl fun dd2 AEt=> ?_)
 refine ap ?_
 refine tp rfl (Ck (J3 (m:=l.length) hdr AA) rfl rfl) ?_
 refine TO.ex 69 rfl (fun z2=>TO.fact 69 rfl fun IC=> ?_)
 have hzN:z2<N:=hN ▸ IC
 refine tp rfl (Bb rfl underlying160 VO (vl rfl) (vl rfl) AA AA) ?_
 refine TO.Dr 0 rfl rfl (A_ rfl rfl (vl rfl) (Vo rfl) VO rfl (by rw [KJ (sz:=1) (fun _=>rfl)];omega) (Ib (f:=fun x:Bool=>[Cp.bool x]) (x:=true) (fun _=>rfl) AA)) ?_
 refine ap ?_
 refine Tr.weak [] trivial (Tr.seq ?_)
 refine Tr.Ic (fun L:List Bool=>L.length=N) 0 rfl (by rw [List.length_set];exact AEt) ?_
 refine ac ?_
 refine Tr.ret (Fin.Fe rfl rfl ?_ rfl ?_)
 · exact LA
 · exact BF
 refine ac ?_
 refine Tr.seq (Tr.ML 0 rfl fun dd3 AEu=> ?_)
 refine ap ?_
 refine tp rfl (Ck (J3 (m:=l.length) hdr AA) rfl rfl) ?_
 refine TO.ex 69 rfl (fun z3=>TO.fact 69 rfl fun hz3=> ?_)
 have hzN:z3<N:=hN ▸ hz3
 refine tp rfl (Bb rfl underlying160 VO (vl rfl) (vl rfl) AA AA) ?_
 refine TO.Dr 0 rfl rfl (A_ rfl rfl (vl rfl) (Vo rfl) VO rfl (by rw [KJ (sz:=1) (fun _=>rfl)];omega) (Ib (f:=fun x:Bool=>[Cp.bool x]) (x:=true) (fun _=>rfl) AA)) ?_
 refine ap ?_
 refine Tr.weak [] trivial (Tr.seq ?_)
 refine Tr.Ic (fun L:List Bool=>L.length=N) 0 rfl (by rw [List.length_set];exact AEu) ?_
 refine ac ?_
 refine Tr.ret (Fin.Fe rfl rfl ?_ rfl ?_)
 · exact LA
 · exact BF
theorem XI {e:Da} {l:List BW} {n:Nat} {fr NN:Int} {b N:Nat} (hz:e.sz n) (hn:n≤800000) (hc:∀c∈l,c.Cr.fits∧c.Cr.small) (hN:2 ^ l.length=N) (hl:l.length≤10):∀(m:Nat) {so done:List Int},so.length+m=l.length→(∀i∈done,0≤i∧i<((l.length:Nat):Int))→done.length≤so.length→Be Tryz.prog 178 [agg (CG e),Dt l,ints so,ints done,int fr,int NN,is (JH N b)] (D7 [XH,EE]) (FW b 4 (fun x:Bool=>[Cp.bool x]) (fun L:List Bool=>L.length=N) []) (fun _=>FW b 4 (fun x:Bool=>[Cp.bool x]) (fun L:List Bool=>L.length=N) [])
 |0,so,done,h1,h2,h3=>TR hz hn hc hN hl h1 h2 h3 (fun m' h=>absurd h AA)
 |m+1,so,done,h1,h2,h3=>TR hz hn hc hN hl h1 h2 h3 (fun m' h so' done' g1 g2 g3=>by
  obtain rfl:m'=m:=by omega
  exact XI hz hn hc hN hl m' g1 g2 g3)
theorem SH {e:Da} {l:List BW} {n:Nat} {fr NN:Int} (hz:e.sz n) (hn:n≤800000) (hc:∀c∈l,c.Cr.fits∧c.Cr.small)  :BC prog 125 [agg (CG e),Dt l,int fr,int NN] (D7 [XH,anyI]):=by
 refine fo func125 rfl ⟨rfl,rfl⟩ fun M0 w0=>(Tr.Cf 1 rfl fun FC=> ?_)
 have hf:=hz.fits AA
 refine a2 ?_
 refine co rfl (Ck (Dp hf) rfl rfl) ?_
 refine an ?_ ?_<;>intro h1 q1
 refine ac ?_
 refine Tr.ret (Fin.AE (Fin.Dc rfl (Bo.Dy _ _) rfl ?_ rfl ?_))
 · exact LA
 · exact BF
 refine ac ?_
 refine an ?_ ?_<;>intro h2 q2
 refine ac ?_
 refine Tr.ret (Fin.AE (Fin.Dc rfl (Bo.Dy _ _) rfl ?_ rfl ?_))
 · exact LA
 · exact BF
 have ABh:l.length≤10:=by have:=q2;omega
 obtain ⟨N,hN⟩:∃N,2 ^ l.length=N:=⟨_,rfl⟩
 have hN2:N≤1024:=by have:=Nat.pow_le_pow_right (n:=2) AA ABh;omega
 refine a2 ?_
 refine co rfl (CK (TQ) rfl rfl rfl) (co rfl (Iw rfl vq) ?_)
 refine ac ?_
 refine Tr.ex 22 rfl fun AF5=> ?_
 refine Tr.cn rfl ?_ ?_<;>intro h3 q3
 refine ac ?_
 refine wk [9,8] rfl (Tr.ret (Fin.AE (Fin.Dc rfl (Bo.Dy _ _) rfl ?_ rfl ?_)))
 · exact LA
 · exact BF
 refine ac ?_
 refine wk [4,3,2,1] rfl ?_
 refine ap ?_
 refine tp rfl (Ad.le (cI rfl vq vq AA AA) (int_eq (b:=((N:Nat):Int)) (by rw [Int.toNat_natCast,hN]))) ?_
 refine TO.UE rfl rfl AB rfl underlying160 VO by4 z4 rfl vq vq Fj AA (fun b1=> ?_)
 refine ap ?_
 refine Tr.seq (Tr.nW 0 (((List.replicate N false).map fun x:Bool=>[Cp.bool x]).flatten++[]) rfl gB (Tr.Ic (fun L:List Bool=>L.length=N) 0 rfl List.length_replicate ?_))
 refine ap ?_
 refine TO.IK 0 rfl rfl AB (Aq rfl rfl AB rfl (XI (so:=[]) (done:=[]) hz hn hc hN ABh l.length AV (fun i hi=>by cases hi) (Nat.le_refl _)) ⟨kq,kq,⟨_,rfl,AQ 1⟩,⟨_,rfl,AQ 1⟩,kz⟩) ?_
 refine ap ?_
 refine wk [12,11] rfl (Tr.seq (Tr.seq (Tr.ex 12 rfl fun x12=> ?_)))
 refine an ?_ ?_<;>intro h4 q4
 refine ac ?_
 refine Tr.ret (Fin.AE (Fin.Dc rfl (Bo.Dy _ _) rfl ?_ rfl ?_))
 · exact LA
 · exact BF
 refine a2 ?_
 refine Tr.ret (Fin.Dc rfl (Bo.Dy _ _) rfl ?_ rfl ?_)
 · exact Lr
 · exact BF
structure Rh (m:Nat) (l:List BW) (r:List BO) (d:List Int):Prop where
 fit:VF m l r d
 l7:l.length≤7
 ok:∀c∈l,c.Cr.fits∧c.Cr.small
 rl:r.length≤1000
abbrev cZ (m:Nat):Pr:=Cp.ex fun z:List BW×List BO×List Int=>fact (Rh m z.1 z.2.1 z.2.2) (JB z.1 z.2.1 z.2.2)
theorem gC {m:Nat}:Rh m [] [] []:=⟨⟨by decide,rfl,by decide,fun j y c h=>absurd h AV⟩,by decide,(fun c h=>by cases h),by decide⟩
theorem Ex {m:Nat}:Pr.le (agg [is (.slice none 0 0),is (.slice none 0 0),is (.slice none 0 0)]) (cZ m):=Aw ([],[],[]) (A8 gC (BR ⟨AQ 8,AQ 2,AQ 1,trivial⟩))
theorem sW {e:Da} {c:BP} {l:List BW} {r:List BO} {fr:Int}:(∀x∈M4 e c l r fr,x∈l)∧(M4 e c l r fr).length≤l.length∧(P4 e c l r fr).length≤r.length:=by
 unfold M4 P4
 by_cases h:Jz e c l r fr=0
 · rw [if_pos h,if_pos h];exact ⟨fun x h=>h,Nat.le_refl _,Nat.le_refl _⟩
 · rw [if_neg h,if_neg h];exact ⟨(fun x h=>by cases h),Nat.zero_le _,Nat.zero_le _⟩
abbrev ABi:Pr:=Cp.ex fun z:List BO=>fact (z.length≤1000) (reqs z)
theorem HQ {e:Da} {c:BP} {l:List BW} {r:List BO} {n:Nat} {fr NN:Int} (hz:e.sz n) (hn:n≤800000) (hc:∀x∈l,x.Cr.fits∧x.Cr.small) (h7:l.length≤7) (hrl:r.length≤1000):BC prog 124 [agg (CG e),La c,Dt l,reqs r,Ml,RY,U_,int fr,int NN] (D7 [cZ e.Bp.length,nF,EE]):=by
 refine fo func124 rfl ⟨rfl,rfl⟩ fun M0 w0=> ?_
 have hf:=hz.fits AA
 obtain ⟨hs1,UY,hs3⟩:=sW (e:=e) (c:=c) (l:=l) (r:=r) (fr:=fr)
 have hcs:∀x∈M4 e c l r fr,x.Cr.fits∧x.Cr.small:=fun x hx=>hc x (hs1 x hx)
 refine Tr.seq (Tr.An ?_)
 iterate 4 refine tp rfl (BZ rfl Cm) ?_
 refine Tl rfl rfl rfl rfl z35 Eu (fun b1=> ?_)
 refine Tl rfl rfl rfl rfl z107 EW (fun b2=> ?_)
 refine ao ?_
 refine ao ?_
 refine tp rfl (kc5 (SG (e:=e) (c:=c) (l:=l) (r:=r) (fr:=fr) hf (fun x hx=>(hc x hx).2) AA) rfl rfl rfl rfl rfl rfl) ?_
 refine ao ?_
 refine Tl rfl rfl rfl rfl z35 Eu (fun b3=> ?_)
 refine sf 0 21 ⟨rfl,rfl,rfl⟩ rfl rfl rfl rfl ?_
 refine ao ?_
 refine wk [22,21,19,18,15,13,9,8,7,5] rfl ?_
 refine an ?_ ?_<;>intro h1 q1
 refine ao ?_
 refine TO.AK 1 rfl rfl rfl vq Cm rfl CI rfl rfl (TO.AK 0 rfl rfl rfl vq Cm rfl Bj rfl rfl ?_)
 refine ao ?_
 refine wk [20,19,18] rfl (Tr.ret (Fin.AE (Fin.FA rfl (AO.cell 1 rfl rfl Ct CI rfl Lr) (AO.cell 0 rfl rfl CN Bj rfl Lr) (AO.tmp rfl Lr) ?_)))
 refine A0 ⟨?_,?_,?_,trivial⟩
 · exact Ex
 · exact Du
 · exact BF
 refine ac ?_
 refine ao ?_
 refine tp rfl (gL (fy (l:=(M4 e c l r fr)) (r:=(P4 e c l r fr)) (d:=(To e c l r fr)) hz hn hcs AA) rfl rfl rfl rfl rfl) ?_
 refine TO.ex 43 rfl (fun z1=>TO.fact 43 rfl fun EY=> ?_)
 refine ao ?_
 refine Tl rfl rfl rfl rfl z107 EW (fun b4=> ?_)
 refine sf 0 23 ⟨rfl,rfl,rfl⟩ rfl rfl rfl rfl ?_
 refine ao ?_
 refine wk [23,22,21,19,18,15,13,9,5] rfl ?_
 refine an ?_ ?_<;>intro h2 q2
 refine ao ?_
 refine TO.AK 1 rfl rfl rfl vq Cm rfl CI rfl rfl (TO.AK 0 rfl rfl rfl vq Cm rfl Bj rfl rfl ?_)
 refine ao ?_
 refine wk [20,19,18] rfl (Tr.ret (Fin.AE (Fin.FA rfl (AO.cell 1 rfl rfl Ct CI rfl Lr) (AO.cell 0 rfl rfl CN Bj rfl Lr) (AO.tmp rfl Lr) ?_)))
 refine A0 ⟨?_,?_,?_,trivial⟩
 · exact Ex
 · exact Du
 · exact BF
 have hz0:z1=0:=by have:=q2;omega
 obtain ⟨_,hfp⟩:=EY hz0
 have hpq:Rh e.Bp.length (M4 e c l r fr) (P4 e c l r fr) (To e c l r fr):=⟨hfp,by omega,hcs,by omega⟩
 refine ac ?_
 refine ao ?_
 refine tp rfl (kc5 (ZZ (l:=(M4 e c l r fr)) (r:=(P4 e c l r fr)) (d:=(To e c l r fr)) hz hn hcs AA) rfl rfl rfl rfl rfl rfl) ?_
 refine TO.ex 56 rfl (fun z2=>TO.fact 56 rfl fun IC=> ?_)
 refine ao ?_
 refine wk [24,23,22,21,19,18] rfl (Tr.seq ?_)
 by_cases IC:z2.2=0
 refine Tr.rx ?_
 refine ay ?_
 refine Cx.yes rfl rfl rfl HD rfl AB (fun _=>BK rfl vq) (Cx.yes rfl rfl rfl HD rfl AB (fun _=>CW rfl underlying22 vq) (Cx.yes rfl rfl rfl HD rfl AB (fun _=>ki rfl rfl rfl rfl) (xo rfl (fun _=>KF rfl vq HD vq) ?_)))
 refine ay ?_
 refine Cx.nil ⟨by kernel_rfl,?_⟩
 refine BH.done XT (Fin.go (wk [20,19,18] rfl (Tr.ret (Fin.FA rfl (AO.cell 1 rfl rfl Ct CI rfl Lr) (AO.cell 0 rfl rfl CN Bj rfl Lr) (AO.tmp rfl Lr) ?_))))
 refine A0 ⟨?_,?_,?_,trivial⟩
 · exact Z2
 · exact Lr
 · exact BF
 refine Tr.rx ?_
 refine ay ?_
 refine Cx.no rfl rfl rfl (Ba HD) rfl AB (Cx.no rfl rfl rfl (Ba HD) rfl AB (Cx.no rfl rfl rfl (Ba HD) rfl AB (xo rfl (fun _=>KG rfl vq HD vq) ?_)))
 refine ay ?_
 refine Cx.nil ⟨by kernel_rfl,?_⟩
 refine BH.done XT (Fin.go (wk [20,19,18] rfl (Tr.ret (Fin.FA rfl (AO.cell 1 rfl rfl Ct CI rfl Lr) (AO.cell 0 rfl rfl CN Bj rfl Lr) (AO.tmp rfl Lr) ?_))))
 refine A0 ⟨?_,?_,?_,trivial⟩
 · exact Z2
 · exact Lr
 · exact BF
theorem J4 {o:List Int} (ho:o.length≤1000):BC Tryz.prog 126 [ints o] ABi:=(ZN ho).le (fun _ _ _ h=>h) (fun M w v ⟨z,hz,h⟩=>⟨z,Nat.le_trans hz ho,h⟩)
theorem TS {n:Nat} (hn:n≤1000):BC Tryz.prog 127 [int ((n:Nat):Int)] XH:=(nB hn).le (fun _ _ _ h=>h) (fun M w v ⟨z,hz,h⟩=>⟨z,Nat.le_trans hz hn,h⟩)
theorem nG {c:BP} {l:List BW} (h:EV c l=0):∀x∈l,0≤x.AW∧x.AW<(c.Il.length:Nat):=fun x hx=>by
 have hb:=(RR h).2 x hx
 unfold OJ at hb
 rw [Bool.or_eq_false_iff,decide_eq_false_iff_not,decide_eq_false_iff_not] at hb
 omega
theorem nH {e:Da} {l:List BW} (h:l.length≤24):(sU e l).length≤1000:=by
 have h1:=Re e l l.length
 have h2:=Nat.mul_le_mul h h
 unfold sU;omega
theorem gD {e:Da} {c:BP} {l:List BW} {n:Nat} {fr NN:Int} (hz:e.sz n) (hn:n≤800000) (hc:∀x∈l,x.Cr.fits∧x.Cr.small) (h7:l.length≤7):BC prog 66 [agg (CG e),La c,Dt l,Ml,RY,U_,int fr,int NN] (D7 [cZ e.Bp.length,nF,anyI]):=by
 refine BC.of func66 rfl rfl Ao fun M0 w0=> ?_
 have hf:=hz.fits AA
 refine Tr.seq (Tr.An ?_)
 iterate 4 refine tp rfl (BZ rfl (Va rfl)) ?_
 refine Tl rfl rfl rfl rfl z35 Eu (fun b1=> ?_)
 refine Tl rfl rfl rfl rfl z107 EW (fun b2=> ?_)
 refine tm rfl (TO.nil (Fin.go (Tr.seq (Tr.seq (Tr.Aj (co rfl (AL rfl DR DP (vl rfl) rfl rfl) (co rfl (AR rfl (Dp hf) ⟨ke rfl,trivial⟩) (co rfl (ki rfl rfl rfl rfl) (Ch.nil (Fin.go ?_))))))))))
 refine Tr.cn rfl ?_ ?_<;>intro h1 q1
 refine Tr.seq (Tr.An (tp rfl (Al (rows:=[]) rfl LJ Eu trivial rfl) (tp rfl (Al (rows:=[]) rfl I6 EW trivial rfl) (TO.AK 1 rfl rfl rfl (vl rfl) (Va rfl) rfl CI rfl rfl (TO.AK 0 rfl rfl rfl (vl rfl) (Va rfl) rfl Bj rfl rfl (tm rfl (TO.nil (Fin.go (GF 16 17 18 rfl (Tr.ret (Fin.AE (Fin.FA rfl (AO.cell 1 rfl rfl Ct CI rfl (Lr)) (AO.cell 0 rfl rfl CN Bj rfl (Lr)) (AO.tmp rfl (Lr)) ?_))))))))))))
 refine A0 ⟨?_,?_,?_,trivial⟩
 · exact Ex
 · exact Du
 · exact Cv
 have UQ:FH e=true:=by cases h_:FH e with|true=>rfl|false=>exact absurd h1 L2
 refine Tr.skip (Fin.go (Tr.seq (Tr.seq (Tr.Aj (co rfl (AL rfl Nw Vw (vl rfl) rfl rfl) (co rfl (QG rfl GS rfl rfl) (co rfl (GX rfl MG rfl) (co rfl (CW rfl underlying27 (vl rfl)) ?_))))))))
 refine co rfl (AR rfl (Jp (c:=c) (m:=((e.Bp.length:Nat):Int))) ⟨ke rfl,ke rfl,trivial⟩) ?_
 refine cm rfl (Ch.nil (Fin.go (JG 2 4 6 7 8 9 11 13 16 17 19 rfl (Tr.seq (Tr.Aj (cm rfl (co rfl (ki rfl rfl rfl rfl) (Ch.nil (Fin.go ?_)))))))))
 refine Tr.cn rfl ?_ ?_<;>intro h2 q2
 refine Tr.seq (Tr.An (tp rfl (Al (rows:=[]) rfl LJ Eu trivial rfl) (tp rfl (Al (rows:=[]) rfl I6 EW trivial rfl) (tm rfl (TO.AK 1 rfl rfl rfl (vl rfl) (Va rfl) rfl CI rfl rfl (TO.AK 0 rfl rfl rfl (vl rfl) (Va rfl) rfl Bj rfl rfl (tm rfl (TO.nil (Fin.go (GF 16 17 18 rfl (Tr.ret (Fin.AE (Fin.FA rfl (AO.cell 1 rfl rfl Ct CI rfl (Lr)) (AO.cell 0 rfl rfl CN Bj rfl (Lr)) (AO.tmp rfl (Lr)) ?_)))))))))))))
 refine A0 ⟨?_,?_,?_,trivial⟩
 · exact Ex
 · exact Du
 · exact Cv
 have hck:c.check ((e.Bp.length:Nat):Int)=0:=by simpa using h2
 obtain ⟨how,htl,hth⟩:=TC hck
 refine Tr.skip (Fin.go (Tr.seq (Tr.seq (Tr.Aj (co rfl (AL rfl Nw Vw (vl rfl) rfl rfl) (cm rfl ?_))))))
 refine co rfl (AR rfl (Rf (c:=c) (l:=l) how) ⟨ke rfl,ke rfl,trivial⟩) ?_
 refine cm rfl (co rfl (Ap rfl (vl rfl) rfl) (co rfl (Ap rfl (vl rfl) rfl) (cm rfl (cm rfl (Ch.nil (Fin.go (JG 2 4 6 7 8 9 11 13 16 17 21 rfl (Tr.seq (Tr.Aj (cm rfl (co rfl (ki rfl rfl rfl rfl) (Ch.nil (Fin.go ?_)))))))))))))
 refine Tr.cn rfl ?_ ?_<;>intro h3 q3
 refine Tr.seq (Tr.An (tp rfl (Al (rows:=[]) rfl LJ Eu trivial rfl) (tp rfl (Al (rows:=[]) rfl I6 EW trivial rfl) (tm rfl (TO.AK 1 rfl rfl rfl (vl rfl) (Va rfl) rfl CI rfl rfl (TO.AK 0 rfl rfl rfl (vl rfl) (Va rfl) rfl Bj rfl rfl (tm rfl (TO.nil (Fin.go (GF 16 17 18 rfl (Tr.ret (Fin.AE (Fin.FA rfl (AO.cell 1 rfl rfl Ct CI rfl (Lr)) (AO.cell 0 rfl rfl CN Bj rfl (Lr)) (AO.tmp rfl (Lr)) ?_)))))))))))))
 refine A0 ⟨?_,?_,?_,trivial⟩
 · exact Ex
 · exact Du
 · exact Cv
 have hep:=nG (c:=c) (l:=l) KC
 refine Tr.skip (Fin.go (Tr.seq (Tr.seq (Tr.Aj (co rfl (AL rfl NJ Se (vl rfl) rfl rfl) (cm rfl (co rfl (AR rfl (J0) ⟨ke rfl,ke rfl,ke rfl,trivial⟩) (cm rfl (Ch.nil (Fin.go (JG 2 4 6 7 8 9 11 13 16 17 22 rfl (Tr.seq (Tr.ex 22 rfl fun x22=>(Tr.Aj ?_))))))))))))))
 refine cm rfl (co rfl (ki rfl rfl rfl rfl) (Ch.nil (Fin.go ?_)))
 refine Tr.cn rfl ?_ ?_<;>intro h4 q4
 refine Tr.seq (Tr.An (tp rfl (Al (rows:=[]) rfl LJ Eu trivial rfl) (tp rfl (Al (rows:=[]) rfl I6 EW trivial rfl) (tm rfl (TO.AK 1 rfl rfl rfl (vl rfl) (Va rfl) rfl CI rfl rfl (TO.AK 0 rfl rfl rfl (vl rfl) (Va rfl) rfl Bj rfl rfl (tm rfl (TO.nil (Fin.go (GF 16 17 18 rfl (Tr.ret (Fin.AE (Fin.FA rfl (AO.cell 1 rfl rfl Ct CI rfl (Lr)) (AO.cell 0 rfl rfl CN Bj rfl (Lr)) (AO.tmp rfl (Lr)) ?_)))))))))))))
 refine A0 ⟨?_,?_,?_,trivial⟩
 · exact Ex
 · exact Du
 · exact Cv
 refine Tr.skip (Fin.go (Tr.seq (Tr.seq (Tr.Aj (cm rfl (cm rfl (co rfl (AR rfl (TQ) ⟨ke rfl,ke rfl,trivial⟩) (co rfl (Iw rfl (vl rfl)) (Ch.nil (Fin.go (JG 2 4 6 7 8 9 11 13 16 17 73 rfl (Tr.ex 73 rfl fun AF6=> ?_))))))))))))
 refine Tr.cn rfl ?_ ?_<;>intro h5 q5
 refine Tr.seq (Tr.An (tp rfl (Al (rows:=[]) rfl LJ Eu trivial rfl) (tp rfl (Al (rows:=[]) rfl I6 EW trivial rfl) (TO.AK 1 rfl rfl rfl (vl rfl) (Va rfl) rfl CI rfl rfl (TO.AK 0 rfl rfl rfl (vl rfl) (Va rfl) rfl Bj rfl rfl (tm rfl (TO.nil (Fin.go (GF 16 17 18 rfl (Tr.ret (Fin.AE (Fin.FA rfl (AO.cell 1 rfl rfl Ct CI rfl (Lr)) (AO.cell 0 rfl rfl CN Bj rfl (Lr)) (AO.tmp rfl (Lr)) ?_))))))))))))
 refine A0 ⟨?_,?_,?_,trivial⟩
 · exact Ex
 · exact Du
 · exact Cv
 refine Tr.skip (Fin.go (Tr.seq (Tr.Aj (co rfl (AL rfl DR DP (vl rfl) rfl rfl) (cm rfl ?_)))))
 refine co rfl (AR rfl (XD hf UQ AA (fun x hx=>by have:=hep x hx;omega)) ⟨ke rfl,ke rfl,trivial⟩) ?_
 refine cm rfl (co rfl (Ap rfl (vl rfl) rfl) (co rfl (Ap rfl (vl rfl) rfl) (cm rfl (cm rfl (Ch.nil (Fin.go (JG 2 4 6 7 8 9 11 13 16 17 23 rfl (Tr.seq (Tr.seq (Tr.An (tp rfl (AL rfl DR DP (vl rfl) rfl rfl) (tp rfl (AL rfl Nw Vw (vl rfl) rfl rfl) (tm rfl ?_)))))))))))))
 refine tm rfl (tp rfl (AL rfl NJ Se (vl rfl) rfl rfl) (tm rfl (tp rfl (AL rfl QO Vx (vl rfl) rfl rfl) (tm rfl (tm rfl ?_)))))
 refine tp rfl (AR rfl (HQ (e:=e) (c:=c) (l:=l) (r:=sU e l) hz hn hc AA (nH AA)) ⟨ke rfl,ke rfl,ke rfl,ke rfl,ke rfl,ke rfl,ke rfl,ke rfl,ke rfl,trivial⟩) ?_
 refine tm rfl (tp rfl (Ap rfl (vl rfl) rfl) ?_)
 refine TO.ex 93 rfl (fun p1=>TO.fact 93 rfl fun jR=> ?_)
 refine tp rfl (Ap rfl (vl rfl) rfl) (tp rfl (Ap rfl (vl rfl) rfl) ?_)
 refine Tl rfl rfl rfl rfl z35 Eu (fun b3=> ?_)
 refine Tl rfl rfl rfl rfl z107 EW (fun b4=> ?_)
 refine TO.AK 1 rfl rfl rfl (vl rfl) (Va rfl) rfl CI rfl rfl (TO.freeze 1 25 rfl rfl (TO.AK 0 rfl rfl rfl (vl rfl) (Va rfl) rfl Bj rfl rfl (TO.freeze 0 26 rfl rfl (tm rfl (TO.nil (Fin.go (oV 2 4 6 7 8 9 11 13 16 17 25 26 27 rfl (Tr.seq (Tr.Aj (cm rfl (Ch.nil (Fin.go (oV 2 4 6 7 8 9 11 13 16 17 25 26 96 rfl (Tr.ex 96 rfl fun AF7=> ?_))))))))))))))
 refine Tr.cn rfl ?_ ?_<;>intro h6 q6
 refine Tr.seq (Tr.GQ mixed [none,none,some (0,1,true,0),some (0,0,true,0),none] BS (xo rfl (fun _=>AL rfl Ct CI (vl rfl) rfl rfl) (xo rfl (fun _=>AL rfl CN Bj (vl rfl) rfl rfl) (Cx.Dr 1 rfl rfl (A_ rfl rfl (vl rfl) (Va rfl) CI rfl Ao rfl) (Cx.Dr 0 rfl rfl (A_ rfl rfl (vl rfl) (Va rfl) Bj rfl Ao rfl) (xm rfl ?_))))))
 refine Cx.nil ⟨rfl,?_⟩
 refine BH.done (Ax.cons (Ax.cons (Ax.map _))) (Fin.go (GF 16 17 18 rfl (Tr.ret (Fin.AE (Fin.FA rfl (AO.cell 1 rfl rfl Ct CI rfl (Lr)) (AO.cell 0 rfl rfl CN Bj rfl (Lr)) (AO.tmp rfl (Lr)) ?_)))))
 refine A0 ⟨?_,?_,?_,trivial⟩
 · exact Oc
 · exact Lr
 · exact Cv
 refine Tr.skip (Fin.go (UB 2 4 6 7 8 9 11 13 16 17 rfl (Tr.seq (Tr.seq (Tr.Aj (cm rfl (co rfl (CW rfl underlying32 (vl rfl)) (co rfl (ki rfl rfl rfl rfl) (Ch.nil (Fin.go ?_))))))))))
 refine Tr.cn rfl ?_ ?_<;>intro h7 q7
 refine Tr.seq (Tr.An (tp rfl (Al (rows:=[]) rfl LJ Eu trivial rfl) (tp rfl (Al (rows:=[]) rfl I6 EW trivial rfl) (TO.AK 1 rfl rfl rfl (vl rfl) (Va rfl) rfl CI rfl rfl (TO.AK 0 rfl rfl rfl (vl rfl) (Va rfl) rfl Bj rfl rfl (tm rfl (TO.nil (Fin.go (GF 16 17 18 rfl (Tr.ret (Fin.AE (Fin.FA rfl (AO.cell 1 rfl rfl Ct CI rfl (Lr)) (AO.cell 0 rfl rfl CN Bj rfl (Lr)) (AO.tmp rfl (Lr)) ?_))))))))))))
 refine A0 ⟨?_,?_,?_,trivial⟩
 · exact Ex
 · exact Du
 · exact Cv
 refine Tr.skip (Fin.go (Tr.seq (Tr.seq (Tr.Aj (co rfl (AL rfl DR DP (vl rfl) rfl rfl) (cm rfl (cm rfl (cm rfl (co rfl (AR rfl (SH hz hn hc) ⟨ke rfl,ke rfl,ke rfl,ke rfl,trivial⟩) (cm rfl (co rfl (Ap rfl (vl rfl) rfl) (co rfl (Ap rfl (vl rfl) rfl) (cm rfl ?_)))))))))))))
 refine cm rfl (Ch.nil (Fin.go (yf 2 4 6 7 8 9 11 13 16 17 28 29 rfl (Tr.seq (Tr.ex 29 rfl fun x29=>(Tr.Aj (cm rfl (co rfl (ki rfl rfl rfl rfl) (Ch.nil (Fin.go (yf 2 4 6 7 8 9 11 13 16 17 28 113 rfl ?_)))))))))))
 refine Tr.cn rfl ?_ ?_<;>intro h8 q8
 refine Tr.seq (Tr.ex 28 rfl fun sq=>(Tr.fact 28 rfl fun hsq=>(Tr.pad (Tr.pad (Tr.GQ mixed [none,none,none,none,none,none,none,none,none,none,none,none,none,none,none,some (0,0,true,30),some (0,1,true,31),some (30,0,true,30),some (31,1,true,31),none] BS (xo rfl (fun _=>AL rfl DR DP (vl rfl) rfl rfl) (xo rfl (fun _=>AL rfl Nw Vw (vl rfl) rfl rfl) (xm rfl (xm rfl (xo rfl (fun _=>AR rfl (J4 hsq) ⟨ke rfl,trivial⟩) (xo rfl (fun _=>AL rfl NJ Se (vl rfl) rfl rfl) (xm rfl (xo rfl (fun _=>AL rfl QO Vx (vl rfl) rfl rfl) ?_)))))))))))))
 refine xm rfl (xm rfl ?_)
 refine xo rfl (fun _=>AR rfl (BC.mG [agg (CG e),La c,Dt l] ([]:List BO) AV fun z hz_=>HQ (e:=e) (c:=c) (l:=l) (r:=z) hz hn hc AA hz_) ⟨ke rfl,ke rfl,ke rfl,ke rfl,ke rfl,ke rfl,ke rfl,ke rfl,ke rfl,trivial⟩) ?_
 refine xm rfl (xo rfl (fun _=>Ap rfl (vl rfl) rfl) (xo rfl (fun _=>Ap rfl (vl rfl) rfl) (xo rfl (fun _=>Ap rfl (vl rfl) rfl) (Cx.ef 0 rfl rfl AB (CB rfl rfl AB rfl z35 Eu) (Cx.ef 1 rfl rfl AB (CB rfl rfl AB rfl z107 EW) (Cx.Dr 0 rfl rfl (KY (f:=fun z:List BW×List BO×List Int=>[Dt z.1,reqs z.2.1,ints z.2.2]) (φ:=fun z:List BW×List BO×List Int=>Rh e.Bp.length z.1 z.2.1 z.2.2) rfl rfl rfl AB rfl rfl CI (fun _=>rfl) rfl) (Cx.Dr 1 rfl rfl (Cd rfl rfl rfl rfl (Va rfl) Bj rfl rfl) (xm rfl ?_))))))))
 refine Cx.nil ⟨rfl,?_⟩
 refine BH.open_ 0 30 rfl rfl (fun v1=> ?_)
 refine BH.open_ 1 31 rfl rfl (fun v2=> ?_)
 refine BH.done (Ax.cons (Ax.cons (Ax.cons (Ax.cons (Ax.map _))))) (Fin.LI 30 0 _ rfl rfl (fun _=>rfl) (fun b5=> ?_))
 refine Fin.cJ 0 rfl (fun pe1 ABj=> ?_)
 refine Fin.LI 31 1 _ rfl rfl (fun _=>rfl) (fun b6=> ?_)
 refine Fin.go (oV 2 4 6 7 8 9 11 13 16 17 30 31 32 rfl (Tr.seq (Tr.Aj (cm rfl (Ch.nil (Fin.go (oV 2 4 6 7 8 9 11 13 16 17 30 31 129 rfl (Tr.ex 129 rfl fun AFP=> ?_))))))))
 refine Tr.cn rfl ?_ ?_<;>intro h9 q9
 refine Tr.seq (Tr.GQ mixed [some (0,0,false,0),some (0,1,false,0),some (0,3,true,0),some (0,2,true,0),none] BS (JP 0 rfl rfl (CM rfl Ct CI (vl rfl) rfl rfl) (JP 1 rfl rfl (CM rfl CN Bj (vl rfl) rfl rfl) (Cx.Dr 3 rfl rfl (A_ rfl rfl (vl rfl) (Va rfl) CI rfl Ao rfl) (Cx.Dr 2 rfl rfl (A_ rfl rfl (vl rfl) (Va rfl) Bj rfl Ao rfl) (xm rfl ?_))))))
 refine Cx.nil ⟨rfl,?_⟩
 refine BH.done (Ax.cons (Ax.cons (Ax.cons (Ax.cons (Ax.map _))))) (Fin.go (Tr.drop 0 (Tr.drop 0 (GF 16 17 18 rfl (Tr.ret (Fin.AE (Fin.FA rfl (AO.cell 1 rfl rfl Ct CI rfl (Lr)) (AO.cell 0 rfl rfl CN Bj rfl (Lr)) (AO.tmp rfl (Lr)) ?_)))))))
 refine A0 ⟨?_,?_,?_,trivial⟩
 · exact Oc
 · exact Lr
 · exact Cv
 refine Tr.skip (Fin.go (Tr.drop 0 (Tr.drop 0 (UB 2 4 6 7 8 9 11 13 16 17 rfl (Tr.seq (Tr.seq (Tr.pad (Tr.pad (Tr.GQ mixed [none,none,none,none,none,none,none,none,none,none,none,none,none,none,none,none,none,some (0,0,true,33),some (0,1,true,34),some (33,0,true,33),some (34,1,true,34),none] BS (xo rfl (fun _=>AL rfl DR DP (vl rfl) rfl rfl) (xo rfl (fun _=>AL rfl Nw Vw (vl rfl) rfl rfl) (xm rfl (xm rfl ?_)))))))))))))
 refine xo rfl (fun _=>CW rfl underlying32 (vl rfl)) ?_
 refine xo rfl (fun _=>AR rfl (TS (n:=l.length) AA) ⟨ke rfl,trivial⟩) ?_
 refine xo rfl (fun _=>AR rfl (BC.mG [] [] (Nat.zero_le _) fun z hz_=>J4 hz_) ⟨ke rfl,trivial⟩) (xo rfl (fun _=>AL rfl NJ Se (vl rfl) rfl rfl) (xm rfl (xo rfl (fun _=>AL rfl QO Vx (vl rfl) rfl rfl) (xm rfl (xm rfl ?_)))))
 refine xo rfl (fun _=>AR rfl (BC.mG [agg (CG e),La c,Dt l] ([]:List BO) AV fun z hz_=>HQ (e:=e) (c:=c) (l:=l) (r:=z) hz hn hc AA hz_) ⟨ke rfl,ke rfl,ke rfl,ke rfl,ke rfl,ke rfl,ke rfl,ke rfl,ke rfl,trivial⟩) ?_
 refine xm rfl (xo rfl (fun _=>Ap rfl (vl rfl) rfl) (xo rfl (fun _=>Ap rfl (vl rfl) rfl) (xo rfl (fun _=>Ap rfl (vl rfl) rfl) (Cx.ef 0 rfl rfl AB (CB rfl rfl AB rfl z35 Eu) (Cx.ef 1 rfl rfl AB (CB rfl rfl AB rfl z107 EW) (Cx.Dr 0 rfl rfl (KY (f:=fun z:List BW×List BO×List Int=>[Dt z.1,reqs z.2.1,ints z.2.2]) (φ:=fun z:List BW×List BO×List Int=>Rh e.Bp.length z.1 z.2.1 z.2.2) rfl rfl rfl AB rfl rfl CI (fun _=>rfl) rfl) (Cx.Dr 1 rfl rfl (Cd rfl rfl rfl rfl (Va rfl) Bj rfl rfl) (xm rfl ?_))))))))
 refine Cx.nil ⟨rfl,?_⟩
 refine BH.open_ 0 33 rfl rfl (fun v3=> ?_)
 refine BH.open_ 1 34 rfl rfl (fun v4=> ?_)
 refine BH.done (Ax.cons (Ax.cons (Ax.cons (Ax.cons (Ax.map _))))) (Fin.LI 33 0 _ rfl rfl (fun _=>rfl) (fun b7=> ?_))
 refine Fin.cJ 0 rfl (fun pe2 AF8=> ?_)
 refine Fin.LI 34 1 _ rfl rfl (fun _=>rfl) (fun b8=> ?_)
 refine Fin.go (wk5 16 17 33 34 35 rfl (Tr.seq (Tr.Aj (cm rfl (Ch.nil (Fin.go (Tr.ex 149 rfl fun ABk=> ?_)))))))
 refine Tr.cn rfl ?_ ?_<;>intro h10 PC
 refine Tr.seq (Tr.GQ mixed [some (0,0,false,0),some (0,1,false,0),some (0,3,true,0),some (0,2,true,0),none] BS (JP 0 rfl rfl (CM rfl Ct CI (vl rfl) rfl rfl) (JP 1 rfl rfl (CM rfl CN Bj (vl rfl) rfl rfl) (Cx.Dr 3 rfl rfl (A_ rfl rfl (vl rfl) (Va rfl) CI rfl Ao rfl) (Cx.Dr 2 rfl rfl (A_ rfl rfl (vl rfl) (Va rfl) Bj rfl Ao rfl) (xm rfl ?_))))))
 refine Cx.nil ⟨rfl,?_⟩
 refine BH.done (Ax.cons (Ax.cons (Ax.cons (Ax.cons (Ax.map _))))) (Fin.go (Tr.drop 0 (Tr.drop 0 (Tr.ret (Fin.AE (Fin.FA rfl (AO.cell 1 rfl rfl Ct CI rfl (Lr)) (AO.cell 0 rfl rfl CN Bj rfl (Lr)) (AO.tmp rfl (Lr)) ?_))))))
 refine A0 ⟨?_,?_,?_,trivial⟩
 · exact Oc
 · exact Lr
 · exact Cv
 refine Tr.skip (Fin.go (Tr.drop 0 (Tr.drop 0 (Tr.seq (Tr.An (tp rfl (Al (rows:=[]) rfl LJ Eu trivial rfl) (tp rfl (Al (rows:=[]) rfl I6 EW trivial rfl) (TO.AK 1 rfl rfl rfl (vl rfl) (Va rfl) rfl CI rfl rfl (TO.AK 0 rfl rfl rfl (vl rfl) (Va rfl) rfl Bj rfl rfl (tm rfl (TO.nil (Fin.go (Tr.ret (Fin.FA rfl (AO.cell 1 rfl rfl Ct CI rfl (Lr)) (AO.cell 0 rfl rfl CN Bj rfl (Lr)) (AO.tmp rfl (Lr)) ?_))))))))))))))
 refine A0 ⟨?_,?_,?_,trivial⟩
 · exact Ex
 · exact Du
 · exact Cv
 refine Tr.skip (Fin.go (Tr.seq (Tr.seq (Tr.pad (Tr.pad (Tr.GQ mixed [none,none,none,none,none,none,none,none,none,none,none,none,none,none,none,none,none,some (0,0,true,33),some (0,1,true,34),some (33,0,true,33),some (34,1,true,34),none] BS (xo rfl (fun _=>AL rfl DR DP (vl rfl) rfl rfl) (xo rfl (fun _=>AL rfl Nw Vw (vl rfl) rfl rfl) (xm rfl (xm rfl (xo rfl (fun _=>CW rfl underlying32 (vl rfl)) ?_)))))))))))
 refine xo rfl (fun _=>AR rfl (TS (n:=l.length) AA) ⟨ke rfl,trivial⟩) ?_
 refine xo rfl (fun _=>AR rfl (BC.mG [] [] (Nat.zero_le _) fun z hz_=>J4 hz_) ⟨ke rfl,trivial⟩) (xo rfl (fun _=>AL rfl NJ Se (vl rfl) rfl rfl) (xm rfl (xo rfl (fun _=>AL rfl QO Vx (vl rfl) rfl rfl) (xm rfl (xm rfl ?_)))))
 refine xo rfl (fun _=>AR rfl (BC.mG [agg (CG e),La c,Dt l] ([]:List BO) AV fun z hz_=>HQ (e:=e) (c:=c) (l:=l) (r:=z) hz hn hc AA hz_) ⟨ke rfl,ke rfl,ke rfl,ke rfl,ke rfl,ke rfl,ke rfl,ke rfl,ke rfl,trivial⟩) ?_
 refine xm rfl (xo rfl (fun _=>Ap rfl (vl rfl) rfl) (xo rfl (fun _=>Ap rfl (vl rfl) rfl) (xo rfl (fun _=>Ap rfl (vl rfl) rfl) (Cx.ef 0 rfl rfl AB (CB rfl rfl AB rfl z35 Eu) (Cx.ef 1 rfl rfl AB (CB rfl rfl AB rfl z107 EW) (Cx.Dr 0 rfl rfl (KY (f:=fun z:List BW×List BO×List Int=>[Dt z.1,reqs z.2.1,ints z.2.2]) (φ:=fun z:List BW×List BO×List Int=>Rh e.Bp.length z.1 z.2.1 z.2.2) rfl rfl rfl AB rfl rfl CI (fun _=>rfl) rfl) (Cx.Dr 1 rfl rfl (Cd rfl rfl rfl rfl (Va rfl) Bj rfl rfl) (xm rfl ?_))))))))
 refine Cx.nil ⟨rfl,?_⟩
 refine BH.open_ 0 33 rfl rfl (fun v5=> ?_)
 refine BH.open_ 1 34 rfl rfl (fun v6=> ?_)
 refine BH.done (Ax.cons (Ax.cons (Ax.cons (Ax.cons (Ax.map _))))) (Fin.LI 33 0 _ rfl rfl (fun _=>rfl) (fun b9=> ?_))
 refine Fin.cJ 0 rfl (fun pe3 AF9=> ?_)
 refine Fin.LI 34 1 _ rfl rfl (fun _=>rfl) (fun b10=> ?_)
 refine Fin.go (wk5 16 17 33 34 35 rfl (Tr.seq (Tr.Aj (cm rfl (Ch.nil (Fin.go (Tr.ex 149 rfl fun ABk=> ?_)))))))
 refine Tr.cn rfl ?_ ?_<;>intro h11 Rt
 refine Tr.seq (Tr.GQ mixed [some (0,0,false,0),some (0,1,false,0),some (0,3,true,0),some (0,2,true,0),none] BS (JP 0 rfl rfl (CM rfl Ct CI (vl rfl) rfl rfl) (JP 1 rfl rfl (CM rfl CN Bj (vl rfl) rfl rfl) (Cx.Dr 3 rfl rfl (A_ rfl rfl (vl rfl) (Va rfl) CI rfl Ao rfl) (Cx.Dr 2 rfl rfl (A_ rfl rfl (vl rfl) (Va rfl) Bj rfl Ao rfl) (xm rfl ?_))))))
 refine Cx.nil ⟨rfl,?_⟩
 refine BH.done (Ax.cons (Ax.cons (Ax.cons (Ax.cons (Ax.map _))))) (Fin.go (Tr.drop 0 (Tr.drop 0 (Tr.ret (Fin.AE (Fin.FA rfl (AO.cell 1 rfl rfl Ct CI rfl (Lr)) (AO.cell 0 rfl rfl CN Bj rfl (Lr)) (AO.tmp rfl (Lr)) ?_))))))
 refine A0 ⟨?_,?_,?_,trivial⟩
 · exact Oc
 · exact Lr
 · exact Cv
 refine Tr.skip (Fin.go (Tr.drop 0 (Tr.drop 0 (Tr.seq (Tr.An (tp rfl (Al (rows:=[]) rfl LJ Eu trivial rfl) (tp rfl (Al (rows:=[]) rfl I6 EW trivial rfl) (TO.AK 1 rfl rfl rfl (vl rfl) (Va rfl) rfl CI rfl rfl (TO.AK 0 rfl rfl rfl (vl rfl) (Va rfl) rfl Bj rfl rfl (tm rfl (TO.nil (Fin.go (Tr.ret (Fin.FA rfl (AO.cell 1 rfl rfl Ct CI rfl (Lr)) (AO.cell 0 rfl rfl CN Bj rfl (Lr)) (AO.tmp rfl (Lr)) ?_))))))))))))))
 refine A0 ⟨?_,?_,?_,trivial⟩
 · exact Ex
 · exact Du
 · exact Cv
theorem w8 (s:DS):s.of [1,0,3]=1∨s.of [1,0,3]=0∨s.of [1,0,3]=3:=by have:=s.QK (l:=[1,0,3]) AV;simp at this;exact this
theorem cj (s:DS) {k:Nat} (hk:k≤7):0≤((k:Nat):Int)*s.of [1,0,3]∧((k:Nat):Int)*s.of [1,0,3]≤21:=by rcases w8 s with h|h|h<;>rw [h]<;>omega
theorem nI {o:List Int} {x:Int} (h:∀y∈o,0≤y∧y≤40000) (hx:0≤x∧x≤40000):∀y∈o++[x],0≤y∧y≤40000:=fun y hy=>by
 rcases List.mem_append.1 hy with hy|hy
 · exact h y hy
 · rw [List.mem_singleton] at hy;subst hy;exact hx
theorem w9 {b:Nat} {s:DS}  :Be prog 13 [ptr b 0] (Cp.ex fun e:Da=>fact (N4 e) (D7 [agg (CG e),cZ e.Bp.length,EE])) (DT b s) (fun _=>IP 104 b):=by
 refine Be.of func13 rfl rfl Ao fun M0 w0 S rs M1 w1=> ?_
 refine Tr.seq (Tr.An ?_)
 refine Tl rfl rfl rfl rfl z31 Ht (fun b1=> ?_)
 refine Tl rfl rfl rfl rfl z35 Eu (fun b2=> ?_)
 refine tm rfl (TO.nil (Fin.go (Tr.seq (Tr.An (tm rfl (TO.IK 2 rfl rfl AB (Aq rfl rfl AB rfl (kP) ⟨ke rfl,trivial⟩) ?_))))))
 refine TO.ex 13 rfl (fun z1=>TO.fact 13 rfl fun EY=> ?_)
 refine Tl rfl rfl rfl rfl z31 Ht (fun b3=> ?_)
 refine TO.AK 0 rfl rfl rfl (vl rfl) (Va rfl) rfl DP rfl rfl (TO.freeze 0 5 rfl rfl (TO.nil (Fin.Sa 2 rfl (fun s1=> ?_))))
 refine Fin.go (Tr.seq (Tr.An (tm rfl (tp rfl (AL rfl DR DP (vl rfl) rfl rfl) ?_))))
 refine TO.IK 2 rfl rfl AB (Aq rfl rfl AB rfl (qy (e:=z1) EY.snd ⟨by have:=EY.n2;omega,EY.n3⟩) ⟨ke rfl,ke rfl,trivial⟩) ?_
 refine TO.ex 16 rfl (fun z2=>TO.fact 16 rfl fun IC=> ?_)
 refine tm rfl (TO.nil (Fin.Sa 2 rfl (fun s2=> ?_)))
 refine Fin.go (wk5 0 2 3 5 6 rfl (Tr.seq ?_))
 have gZ:∀x∈z2,x.Cr.fits∧x.Cr.small:=fun x hx=>⟨(IC.any x hx).fits,(IC.any x hx).small⟩
 have h7:=IC.len
 refine Tr.pad (Tr.pad (Tr.GQ mixed [none,none,none,none,none,none,none,none,none,none,none,none,none,some (0,0,true,7),some (0,1,true,8),some (7,0,true,7),some (8,1,true,8),none] BS (xo rfl (fun _=>AL rfl DR DP (vl rfl) rfl rfl) (xo rfl (fun _=>QG rfl GS rfl rfl) (xo rfl (fun _=>GX rfl MG rfl) (xo rfl (fun _=>CW rfl underlying27 (vl rfl)) ?_))))))
 refine xo rfl (fun _=>AR rfl (wz (n:=z1.Bp.length) (by have:=EY.n3;omega)) ⟨ke rfl,trivial⟩) ?_
 refine xm rfl (xo rfl (fun _=>Al (rows:=[]) rfl zB zC trivial rfl) (xo rfl (fun _=>Al (rows:=[]) rfl zD zE trivial rfl) ?_))
 refine xo rfl (fun _=>AR rfl (gD (e:=z1) (c:=uE z1.Bp.length) (l:=z2) EY.sz AA gZ IC.len) ⟨ke rfl,ke rfl,ke rfl,⟨_,rfl,BR ⟨AQ 6,AQ 2,trivial⟩⟩,⟨_,rfl,AQ _⟩,⟨_,rfl,BR ⟨AQ 1,Lr,trivial⟩⟩,ke rfl,ke rfl,trivial⟩) ?_
 refine xm rfl (xo rfl (fun _=>Ap rfl (vl rfl) rfl) (xo rfl (fun _=>Ap rfl (vl rfl) rfl) (xo rfl (fun _=>Ap rfl (vl rfl) rfl) (Cx.ef 0 rfl rfl AB (CB rfl rfl AB rfl z35 Eu) (Cx.ef 1 rfl rfl AB (CB rfl rfl AB rfl z107 EW) (Cx.Dr 0 rfl rfl (KY (f:=fun z:List BW×List BO×List Int=>[Dt z.1,reqs z.2.1,ints z.2.2]) (φ:=fun z:List BW×List BO×List Int=>Rh z1.Bp.length z.1 z.2.1 z.2.2) rfl rfl rfl AB rfl rfl CI (fun _=>rfl) rfl) (Cx.Dr 1 rfl rfl (Cd rfl rfl rfl rfl (Va rfl) Bj rfl rfl) (xm rfl ?_))))))))
 refine Cx.nil ⟨rfl,?_⟩
 refine BH.open_ 0 7 rfl rfl (fun v1=> ?_)
 refine BH.open_ 1 8 rfl rfl (fun v2=> ?_)
 refine BH.done (Ax.cons (Ax.cons (Ax.cons (Ax.cons (Ax.cons (Ax.cons (Ax.map _))))))) (Fin.LI 7 0 _ rfl rfl (fun _=>rfl) (fun b4=> ?_))
 refine Fin.cJ 0 rfl (fun pe1 ABj=> ?_)
 refine Fin.LI 8 1 _ rfl rfl (fun _=>rfl) (fun b5=> ?_)
 refine Fin.go (Tr.drop 1 (nU 0 2 3 5 6 7 9 rfl (Tr.seq (Tr.seq (Tr.ex 9 rfl fun x9=>(Tr.Aj (cm rfl (co rfl (ki rfl rfl rfl rfl) (Ch.nil (Fin.go ?_))))))))))
 refine Tr.cn rfl ?_ ?_<;>intro h1 q1
 refine Tr.seq (Tr.GQ mixed [none,some (0,0,false,0),some (0,2,true,0),some (0,1,true,0),none] BS (xo rfl (fun _=>AL rfl DR DP (vl rfl) rfl rfl) (JP 0 rfl rfl (CM rfl Ct CI (vl rfl) rfl rfl) (Cx.Dr 2 rfl rfl (A_ rfl rfl (vl rfl) (Va rfl) DP rfl Ao rfl) (Cx.Dr 1 rfl rfl (A_ rfl rfl (vl rfl) (Va rfl) CI rfl Ao rfl) (xm rfl ?_))))))
 refine Cx.nil ⟨rfl,?_⟩
 refine BH.done (Ax.cons (Ax.cons (Ax.cons (Ax.cons (Ax.cons (Ax.map _)))))) (Fin.go (Tr.drop 0 (Tr.ret (Fin.AE (Fin.Gv 2 _ rfl rfl (Fin.sr [_,_] rfl (AO.cell 1 rfl rfl DR DP rfl (Lr)) (AO.cell 0 rfl rfl Ct CI rfl (Lr)) (AO.tmp rfl (Lr)) ?_))))))
 · exact Aw z1 (A8 EY (A0 ⟨Lr,Aw pe1 (A8 ABj (Lr)),Aw _ (Lr),trivial⟩))
 refine Tr.skip (Fin.go (Tr.drop 0 (Tr.seq (Tr.An (tm rfl (tm rfl (tm rfl (tp rfl (CW rfl underlying32 (vl rfl)) ?_))))))))
 refine TO.IK 2 rfl rfl AB (Aq rfl rfl AB rfl (sQ (n:=z2.length) (by have:=IC.len;omega)) ⟨ke rfl,ke rfl,trivial⟩) ?_
 refine TO.ex 38 rfl (fun z3=>TO.fact 38 rfl fun hz3=> ?_)
 revert z3
 intro rq hrq
 refine tp rfl (Al (rows:=[(0,[_]),(1,[_])]) rfl LJ Eu ⟨⟨rfl,(Vo rfl)⟩,⟨⟨rfl,(Vo rfl)⟩,trivial⟩⟩ rfl) ?_
 refine Tl rfl rfl rfl rfl z35 Eu (fun b6=> ?_)
 refine TO.AK 0 rfl rfl rfl (vl rfl) (Va rfl) rfl CI rfl rfl (TO.nil (Fin.Sa 3 rfl (fun s3=> ?_)))
 refine Fin.go (wk6 0 2 3 5 6 10 rfl (Tr.seq (Tr.seq (Tr.Aj (cm rfl (co rfl (CW rfl underlying32 (vl rfl)) (cm rfl (Ch.nil (Fin.go (Tr.block (Tr.HC 0 [Dt z2,reqs rq,Af (.slice none 0 0) (ints [])] rfl ⟨Lr,Lr,Bn rfl,trivial⟩ (Tr.B5 3 1 (Tr.FR [(0,_),(2,_),(3,_),(5,_),(10,_),(41,_)] ⟨ke rfl,ke rfl,ke rfl,ke rfl,ke rfl,ke rfl,trivial⟩ (fun (k:Nat) (dd:List Int) (s2:DS) v=>[(42,int ((k:Nat):Int))]) (fun (k:Nat) (dd:List Int) (s2:DS) v=>Hp M0 w0 S (Au 3 1 v::AF true b6 35 [Dt z2,reqs rq,Af v (ints dd)]::AF true b2 35 (([.slice none 0 0,.slice none 0 0,.slice none 0 0]:List Value).map is)::AF true b1 31 (([.slice none 0 0,.slice none 0 0,.slice none 0 0]:List Value).map is)::DT b s2::Ak M1 w1::rs)) (fun (k:Nat) (dd:List Int) (s2:DS)=>(k≤z2.length∧dd.length=k)∧∀x∈dd,0≤x∧x≤40000) (fun (k:Nat) (dd:List Int) (s2:DS)=>z2.length-k) (0) ([]) (_) (.slice none 0 0) (⟨⟨Nat.zero_le _,rfl⟩,fun x h=>F1⟩) ⟨ke rfl,trivial⟩ (fun _ _ h=>h) ?_)))))))))))))
 rintro k dd s2 v ⟨⟨hk0,hdl⟩,hdb⟩
 refine Tr.seq (Tr.Aj (co rfl (ki rfl rfl rfl rfl) (Ch.nil (Fin.go (Tr.seq ?_)))))
 refine Tr.cn rfl ?_ ?_<;>intro h2 q2
 have hk:k<z2.length:=AH h2
 refine Tr.skip (Fin.go (Tr.seq (Tr.block (Tr.seq (Tr.Aj (cm rfl (cm rfl (Ch.nil (Fin.go (Tr.pad (Tr.GQ mixed [none,some (0,2,false,0),none,none,none,some (0,5,true,0),none,none,some (0,1,true,53),none,some (0,2,true,53)] BS (xo rfl (fun _=>Ab rfl YC (vl rfl)) (JP 2 rfl rfl (BI rfl Sc (vl rfl) rfl) ?_)))))))))))))
 refine xm rfl (xm rfl (xo rfl (fun _=>AM (xs:=[.const (.int .i64 (1)),.const (.int .i64 (0)),.const (.int .i64 (3))]) (rows:=[[_],[_],[_]]) rfl rfl underlying22 CH z3 rfl AB ⟨⟨Am,(Vo rfl)⟩,⟨⟨Am,(Vo rfl)⟩,⟨⟨Am,(Vo rfl)⟩,trivial⟩⟩⟩ AB) ?_))
 refine Cx.ef 5 rfl rfl AB (Aq rfl rfl AB rfl (WE (l:=[1,0,3]) AV AV) ⟨ke rfl,(Kf rfl),trivial⟩) ?_
 refine xo rfl (fun _=>iQ rfl (vl rfl) (vl rfl) (by have:=cj s2 (k:=k) AA;unfold OK;omega)) ?_
 refine xo rfl (fun _=>AM (xs:=[.tmp 51]) (rows:=[[_]]) rfl rfl underlying22 CH z3 rfl AB ⟨⟨Am,(Vo rfl)⟩,trivial⟩ AB) ?_
 refine Cx.ef 1 rfl rfl AB (B4 rfl rfl rfl rfl underlying22 CH IQ z3 (Kb rfl) (Kf rfl) (Az BJ (Ka rfl))) ?_
 refine xo rfl (fun _=>Ab rfl YC (vl rfl)) (Cx.Dr 2 rfl rfl (Ft rfl rfl rfl (vl rfl) rfl NF Ao) ?_)
 refine Cx.nil ⟨rfl,?_⟩
 refine BH.QL 1 2 53 rfl rfl AB rfl (fun v3=> ?_)
 refine BH.done (Ax.cons (Ax.cons (Ax.cons (Ax.cons (Ax.cons (Ax.cons (Ax.cons (Ax.map _)))))))) (Fin.block (Fin.go (Tr.drop 0 (nU 0 2 3 5 10 41 42 rfl (Tr.Aj (LH rfl rfl rfl rfl AA (cm rfl (Ch.nil ?_))))))))
 refine Fin.HC 1 [Dt z2,reqs rq,Af v3 (ints (dd++[(((k:Nat):Int)*s2.of [1,0,3])]))] rfl ⟨Lr,Lr,BA DB,trivial⟩ ?_
 exact Fin.EC (k+1) (dd++[(((k:Nat):Int)*s2.of [1,0,3])]) (_) v3 (⟨⟨⟨by omega,by simp;omega⟩,nI hdb (by have:=cj s2 (k:=k) AA;omega)⟩,by omega⟩) ⟨⟨_,rfl,AG k⟩,ke rfl,ke rfl,ke rfl,ke rfl,ke rfl,ke rfl,trivial⟩ (fun _ _ h=>h)
 have cv:=AJ h2
 refine Tr.exit (Fin.Ag (Fin.Ag (Fin.BD (Fin.go (Tr.seq (Tr.GQ mixed [none,some (0,1,false,0),some (0,3,true,0),some (0,2,true,0),none] BS (xo rfl (fun _=>AL rfl DR DP (vl rfl) rfl rfl) (JP 1 rfl rfl (CM rfl Ct CI (vl rfl) rfl rfl) (Cx.Dr 3 rfl rfl (A_ rfl rfl (vl rfl) (Va rfl) DP rfl Ao rfl) (Cx.Dr 2 rfl rfl (A_ rfl rfl (vl rfl) (Va rfl) CI rfl Ao rfl) (xm rfl ?_)))))))))))
 refine Cx.nil ⟨rfl,?_⟩
 refine BH.done (Ax.cons (Ax.cons (Ax.cons (Ax.cons (Ax.cons (Ax.cons (Ax.map _))))))) (Fin.go (Tr.ret (Fin.Gv 4 _ rfl rfl (Fin.sr [_,_,_,_] rfl (AO.cell 3 rfl rfl DR DP rfl (Lr)) (AO.cell 2 rfl rfl Ct CI rfl (Lr)) (AO.tmp rfl (Lr)) ?_))))
 · exact Aw z1 (A8 EY (A0 ⟨Lr,Aw (z2,rq,dd) (A8 ⟨⟨by show z2.length≤24;omega,by show dd.length=z2.length;omega,hrq.1.valid (by show z2.length≤24;omega),fun j y c hj hy hcj=>⟨hdb y (List.mem_of_getElem? hy),(IC.any c (List.mem_of_getElem? hcj)).lo,(IC.any c (List.mem_of_getElem? hcj)).hi⟩⟩,h7,gZ,by have:=hrq.2;show rq.length≤1000;omega⟩ (BR ⟨Lr,Lr,At _ _,trivial⟩)),Aw _ (Lr),trivial⟩))
abbrev G_ (l:List BW) (r:List BO) (d:List Int) (day:Int) (st tr:List Int) (sp:Bool):List Pr:=[Dt l,reqs r,ints d,int day,ints st,ints tr,Cp.bool sp]
def SI (m x:Int):Bool:=decide (x<0∨x>m)
abbrev JK (m:Int) (l:List Int):Bool:=l.any (SI m)
def I2 (st:List Int):List Int:=((List.range st.length).filter fun i:Nat=>decide (st.getD i 0=1)).map fun i:Nat=>(i:Int)
def Lp (st:List Int) (k:Nat):List Int:=((List.range k).filter fun i:Nat=>decide (st.getD i 0=1)).map fun i:Nat=>(i:Int)
theorem XJ {st:List Int} {k:Nat} {x:Int} (hx:st[k]? =some x):Lp st (k+1)=if x=1 then Lp st k++[(k:Int)] else Lp st k:=by
 have h:st.getD k 0=x:=by rw [List.getD_eq_getElem?_getD,hx];rfl
 unfold Lp
 rw [List.range_succ,List.filter_append,List.map_append]
 simp only [List.filter_cons,List.filter_nil,h]
 split<;>simp_all
theorem Za (st:List Int) (k:Nat):(Lp st k).length≤k:=by unfold Lp;rw [List.length_map];exact Nat.le_trans (List.length_filter_le _ _) OY
theorem gE {st:List Int} (h:∀x∈st,x≠1):I2 st=[]:=by
 unfold I2
 rw [List.map_eq_nil_iff,List.filter_eq_nil_iff]
 intro i hi
 have hi:=List.mem_range.1 hi
 have:=h _ (List.getElem_mem hi)
 rw [List.getD_eq_getElem?_getD,List.getElem?_eq_getElem hi]
 simpa using this
theorem XK (n:Nat):I2 (List.replicate n 0)=[]:=gE fun x hx=>by rw [List.eq_of_mem_replicate hx];decide
def Zb (n:Nat) (r:List BO) (d:List Int) (day:Int) (st tr:List Int):Bool:=decide (((n≤24∧d.length=n)∧st.length=n∧tr.length=n)∧((JK 40000 d=false∧SI 40000 day=false)∧JK 3 st=false∧JK 4 tr=false)∧U8 (n:Int) r (I2 st)=0∧U9 (n:Int) r (I2 st)=true)
theorem Pj {n:Nat} {r:List BO} {d:List Int} {day:Int} {st tr:List Int}:Zb n r d day st tr=true↔((n≤24∧d.length=n)∧st.length=n∧tr.length=n)∧((JK 40000 d=false∧SI 40000 day=false)∧JK 3 st=false∧JK 4 tr=false)∧U8 (n:Int) r (I2 st)=0∧U9 (n:Int) r (I2 st)=true:=by unfold Zb;rw [decide_eq_true_eq]
theorem nJ {l:List BW} {r:List BO} {d:List Int} (F6:∀x∈l,x.Cr.small) (hl:l.length≤1000000) (hr:r.length≤1000000) (hd:d.length≤1000000):BC Tryz.prog 100 [agg [Dt l,reqs r,ints d]] (agg [Dt l,reqs r,ints d]):=OP.frz (Bl fun _=>rfl) (mP F6 hl hr hd)
theorem XL {l:List Int} (hl:l.length≤1000000000):BC prog 131 [ints l] (ints l):=by
 refine fo func131 rfl ⟨rfl,rfl⟩ fun M0 w0=> ?_
 refine a2 ?_
 refine co rfl (FQ rfl underlying22 vq) ?_
 refine ac ?_
 refine Tr.ex 4 rfl (fun z1=>Tr.fact 4 rfl fun EY=> ?_)
 refine Tr.cn rfl ?_ ?_<;>intro h1 q1
 refine a2 ?_
 · (have hl0:l=[]:=(by simpa using EY h1));subst hl0;exact AQ 1
 refine ac ?_
 refine ap ?_
 refine TO.pad ?_
 refine TO.DZ 0 rfl rfl AB (B4 rfl rfl rfl rfl underlying22 CH IQ z3 GH vq (Br BJ vq)) (fun v1=> ?_)
 refine ap ?_
 refine ac ?_
 · exact Pr.le_trans (At _ _) (Pr.le_of_eq AV)
theorem J5 {l:List BW} {r:List BO} {d:List Int} {day:Int} {st tr:List Int} {sp:Bool} (F6:∀x∈l,x.Cr.small) (hl:l.length≤1000000) (hr:r.length≤1000000) (hd:d.length≤1000000) (hst:st.length≤1000000) (htr:tr.length≤1000000):BC prog 73 [agg (G_ l r d day st tr sp)] (agg (G_ l r d day st tr sp)):=by
 refine fo func73 rfl ⟨rfl,rfl⟩ fun M0 w0=>(Tr.seq (Tr.An ?_))
 refine TO.Vi rfl rfl AB rfl Cm (fun b1=> ?_)
 refine Tl rfl rfl rfl rfl z42 Gd (fun b2=> ?_)
 refine ap ?_
 refine Tr.seq (Tr.rx ?_)
 refine ay ?_
 refine xo rfl (fun _=>Ck (nJ F6 hl hr hd) rfl rfl) ?_
 refine ay ?_
 refine xo rfl (fun _=>Ck (XL (l:=st) AA) rfl rfl) ?_
 refine ay ?_
 refine xo rfl (fun _=>Ck (XL (l:=tr) AA) rfl rfl) ?_
 refine ay ?_
 refine Cx.nil ⟨by kernel_rfl,?_⟩
 refine BH.done XT (Fin.go (wk [2,1] rfl ?_))
 refine ap ?_
 refine Tr.drop 1 (Tr.ret (Fin.CR rfl (AO.cell 0 rfl rfl EG EO rfl Lr) ?_))
 · exact Lr
theorem XM {m x:Int}  :BC prog 135 [int x,ref [int m]] (bool (SI m x)):=by
 refine fo func135 rfl ⟨rfl,rfl⟩ fun M0 w0=> ?_
 refine ac ?_
 refine ac ?_
 refine Ch.cs 6 rfl ?_ ?_<;>intro h1 q1
 refine ac ?_
 refine ac ?_
 · refine bool_eq ?_;unfold SI;simp_all
 refine ac ?_
 refine ac ?_
 · refine bool_eq ?_;unfold SI;simp_all;omega
theorem XN:Entry Tryz.prog 135:=⟨_,Tryz.func135,rfl,rfl⟩
theorem I3 {m:Int} {l:List Int}  :BC prog 77 [int m,ints l] (bool (!JK m l)):=by
 refine fo func77 rfl ⟨rfl,rfl⟩ fun M0 w0=> ?_
 refine a2 ?_
 refine co rfl (AR rfl (I8 (l:=l) (p:=SI m)) ⟨kq,⟨_,rfl,KE XN (fun x=>XM (m:=m) (x:=x))⟩,trivial⟩) ?_
 refine a2 ?_
 · exact Lr
theorem XO {l:List BW} {r:List BO} {d:List Int} {day:Int} {st tr:List Int} {sp:Bool} (hst:st.length≤1000000):BC prog 24 [agg (G_ l r d day st tr sp)] (ints (I2 st)):=by
 refine fo func24 rfl ⟨rfl,rfl⟩ fun M0 w0=> ?_
 refine a3 ?_
 refine Tr.block (Tr.B5 3 1 (Tr.El _ (kk [8,7] rfl) (fun k v=>[(9,int ((k:Nat):Int)),(3,Af v (ints (Lp st k)))]) (fun k v=>Hp M0 w0 Fa ([Au 3 1 v])) (fun k:Nat=>k≤(st).length) (fun k:Nat=>(st).length-k) 0 (.slice none 0 0) (Nat.zero_le _) ⟨kq,⟨_,rfl,Bn rfl⟩,trivial⟩ (fun _ _ h=>h) ?_))
 rintro k v BV
 refine ac ?_
 refine Tr.seq ?_
 refine Tr.cn rfl ?_ ?_<;>intro h1 q1
 have Ai:k<(st).length:=AH h1
 obtain ⟨x,Ah⟩:=at_ Ai
 have hsk:=XJ Ah
 have AF_:=Za st k
 refine a2 ?_
 refine co rfl (AD rfl underlying22 CH vq vq AA (AX Ah)) ?_
 refine ac ?_
 refine an ?_ ?_<;>intro h2 q2
 refine ap ?_
 refine TO.DZ 0 rfl rfl AB (B4 rfl rfl rfl rfl underlying51 CH IQ z3 H_ GH (Az BJ Kl)) (fun v1=> ?_)
 refine ap ?_
 refine wk [9,8,7,3] rfl ?_
 refine ac ?_
 exact Fin.DQ (k+1) v1 (⟨Ai,by omega⟩) ⟨⟨_,rfl,AG k⟩,⟨_,rfl,BA (by rw [hsk,if_pos CY,List.map_append];rfl)⟩,kz⟩ (fun _ _ h=>h)
 refine a2 ?_
 exact Fin.DQ (k+1) v (⟨Ai,by omega⟩) ⟨⟨_,rfl,AG k⟩,⟨_,rfl,BA (by rw [hsk,if_neg CY])⟩,kz⟩ (fun _ _ h=>h)
 have BL:k=(st).length:=by have:=AJ h1;omega
 subst BL
 refine a3 ?_
 · exact IE
theorem TT {l:List BW} {r:List BO} {d:List Int} {day:Int} {st tr:List Int} {sp:Bool} (hst:st.length≤1000000):Be prog 25 [agg (G_ l r d day st tr sp)] (int (if Zb l.length r d day st tr=true then 0 else 49)) (D6) (fun _=>D6):=by
 refine Be.of func25 rfl rfl Ao fun M0 w0 S rs M1 w1=> ?_
 refine a2 ?_
 refine ag ?_ ?_<;>intro h1 q1
 refine ac ?_
 refine wk [10,3,1] rfl ?_
 refine ac ?_
 refine Tr.ret (Fin.AU (Fin.AE (Fin.Es rfl rfl ?_ (fun _ _ _ _=>rfl))))
 · exact Pk
 refine ag ?_ ?_<;>intro h2 q2
 refine ac ?_
 refine wk [10,3,1] rfl ?_
 refine ac ?_
 refine Tr.ret (Fin.AU (Fin.AE (Fin.Es rfl rfl ?_ (fun _ _ _ _=>rfl))))
 · exact Pk
 refine ag ?_ ?_<;>intro h3 q3
 refine ac ?_
 refine wk [10,3,1] rfl ?_
 refine ac ?_
 refine Tr.ret (Fin.AU (Fin.AE (Fin.Es rfl rfl ?_ (fun _ _ _ _=>rfl))))
 · exact Pk
 refine ac ?_
 refine wk [10,3,1] rfl ?_
 refine Tr.cn rfl ?_ ?_<;>intro h4 q4
 refine ac ?_
 refine Tr.ret (Fin.AU (Fin.AE (Fin.Es rfl rfl ?_ (fun _ _ _ _=>rfl))))
 · exact Pk
 refine ac ?_
 refine co rfl (CK (I3 (m:=40000) (l:=d)) rfl rfl rfl) ?_
 refine ag ?_ ?_<;>intro h5 q5
 refine ac ?_
 refine wk [35,3,1] rfl ?_
 refine ac ?_
 refine Tr.ret (Fin.AU (Fin.AE (Fin.Es rfl rfl ?_ (fun _ _ _ _=>rfl))))
 · exact Ph
 refine ac ?_
 refine cy h5 rfl (AR rfl (I3 (m:=40000) (l:=[day])) ⟨kq,GH,trivial⟩) ?_
 refine ag ?_ ?_<;>intro h6 q6
 refine ac ?_
 refine wk [35,3,1] rfl ?_
 refine ac ?_
 refine Tr.ret (Fin.AU (Fin.AE (Fin.Es rfl rfl ?_ (fun _ _ _ _=>rfl))))
 · exact Ph
 refine ac ?_
 refine cy h6 rfl (CK (I3 (m:=3) (l:=st)) rfl rfl rfl) ?_
 refine ag ?_ ?_<;>intro h7 q7
 refine ac ?_
 refine wk [35,3,1] rfl ?_
 refine ac ?_
 refine Tr.ret (Fin.AU (Fin.AE (Fin.Es rfl rfl ?_ (fun _ _ _ _=>rfl))))
 · exact Ph
 refine ac ?_
 refine cy h7 rfl (CK (I3 (m:=4) (l:=tr)) rfl rfl rfl) ?_
 refine ac ?_
 refine wk [35,3,1] rfl ?_
 refine Tr.cn rfl ?_ ?_<;>intro h8 q8
 refine ac ?_
 refine Tr.ret (Fin.AU (Fin.AE (Fin.Es rfl rfl ?_ (fun _ _ _ _=>rfl))))
 · exact Ph
 refine ac ?_
 refine Tr.seq (Tr.seq (Tr.rx ?_))
 refine ay ?_
 refine xo rfl (fun _=>Ck (XO hst) rfl rfl) ?_
 refine Cx.ef 0 rfl rfl AB (Aq rfl rfl AB rfl (ZG (n:=((l.length:Nat):Int)) (l:=r) (s:=I2 st)) ⟨kq,kz⟩) ?_
 refine ay ?_
 refine Cx.nil ⟨by kernel_rfl,?_⟩
 refine BH.done XT (Fin.go (wk [5,4] rfl ?_))
 refine ag ?_ ?_<;>intro h9 q9
 refine a2 ?_
 refine Tr.ret (Fin.AE (Fin.Es rfl rfl ?_ (fun _ _ _ _=>rfl)))
 · exact Pk
 refine an ?_ ?_<;>intro h10 PC
 refine ac ?_
 refine Tr.ret (Fin.AE (Fin.Es rfl rfl ?_ (fun _ _ _ _=>rfl)))
 · exact Ph
 refine a2 ?_
 refine Tr.ret (Fin.Es rfl rfl ?_ (fun _ _ _ _=>rfl))
 · exact int_eq (if_pos (Pj.2 (by refine ⟨⟨⟨?_,?_⟩,?_,?_⟩,⟨⟨?_,?_⟩,?_,?_⟩,?_,?_⟩<;>first|omega|(simp_all;done)))).symm
theorem Zc {a b:HB}  :BC prog 164 [agg (DH a),agg (DH b)] (bool (decide (a=b))):=by
 refine fo func164 rfl ⟨rfl,rfl⟩ fun M0 w0=> ?_
 refine ac ?_
 refine ac ?_
 refine Ch.cs 10 rfl ?_ ?_<;>intro h1 q1
 refine ac ?_
 refine Ch.cs 17 rfl ?_ ?_<;>intro h2 q2
 refine ac ?_
 refine Ch.cs 24 rfl ?_ ?_<;>intro h3 q3
 refine ac ?_
 refine cy h3 rfl (Oy rfl (vl rfl) (vl rfl)) ?_
 refine ac ?_
 refine Ch.cs 31 rfl ?_ ?_<;>intro h4 q4
 refine ac ?_
 refine Ch.cs 38 rfl ?_ ?_<;>intro h5 q5
 refine ac ?_
 refine cy h5 rfl (Oy rfl (vl rfl) (vl rfl)) ?_
 refine ac ?_
 refine Ch.cs 45 rfl ?_ ?_<;>intro h6 q6
 refine ac ?_
 refine Ch.cs 52 rfl ?_ ?_<;>intro h7 q7
 refine ac ?_
 refine Ch.cs 59 rfl ?_ ?_<;>intro h8 q8
 refine ac ?_
 refine Ch.cs 66 rfl ?_ ?_<;>intro h9 q9
 refine ac ?_
 refine Ch.cs 73 rfl ?_ ?_<;>intro h10 PC
 refine ac ?_
 refine cy h10 rfl (CK (vY) rfl rfl rfl) ?_
 refine ac ?_
 refine Ch.cs 80 rfl ?_ ?_<;>intro h11 Rt
 refine ac ?_
 refine cy h11 rfl (kE rfl (vl rfl) (vl rfl)) ?_
 refine ac ?_
 refine wk [4] rfl ?_
 refine ac ?_
 · exact GO
 refine ac ?_
 refine wk [4] rfl ?_
 refine ac ?_
 · exact GO
 refine ac ?_
 refine wk [4] rfl ?_
 refine ac ?_
 · exact GO
 refine ac ?_
 refine wk [4] rfl ?_
 refine ac ?_
 · exact GO
 refine ac ?_
 refine wk [4] rfl ?_
 refine ac ?_
 · exact GO
 refine ac ?_
 refine wk [4] rfl ?_
 refine ac ?_
 · exact GO
 refine ac ?_
 refine wk [4] rfl ?_
 refine ac ?_
 · exact GO
 refine ac ?_
 refine wk [4] rfl ?_
 refine ac ?_
 · exact GO
 refine ac ?_
 refine wk [4] rfl ?_
 refine ac ?_
 · exact GO
 refine ac ?_
 refine wk [4] rfl ?_
 refine ac ?_
 · exact GO
 refine ac ?_
 refine wk [4] rfl ?_
 refine ac ?_
 · exact GO
 refine ac ?_
 refine wk [4] rfl ?_
 refine ac ?_
 · exact GO
theorem Zd:Entry Tryz.prog 164:=⟨_,Tryz.func164,rfl,rfl⟩
theorem nK {a b:BW}  :BC prog 111 [agg (DK a),agg (DK b)] (bool (decide (a=b))):=by
 refine fo func111 rfl ⟨rfl,rfl⟩ fun M0 w0=> ?_
 refine ac ?_
 refine Tr.seq (Tr.pad (Tr.pad (Tr.rx ?_)))
 refine ax ?_
 refine Cx.ef 0 rfl rfl AB (CB rfl rfl AB rfl VP R4) (Cx.ef 1 rfl rfl AB (CB rfl rfl AB rfl VP R4) (Cx.Dr 0 rfl rfl (Cd rfl rfl rfl rfl (Va rfl) E6 rfl rfl) (Cx.Dr 1 rfl rfl (Cd rfl rfl rfl rfl (Va rfl) E6 rfl rfl) ?_)))
 refine Cx.nil ⟨by kernel_rfl,?_⟩
 refine BH.open_ 0 5 rfl rfl (fun v1=> ?_)
 refine BH.open_ 1 6 rfl rfl (fun v2=> ?_)
 refine BH.done XT (Fin.LI 5 0 _ rfl rfl (fun _=>rfl) (fun b1=> ?_))
 refine Fin.LI 6 1 _ rfl rfl (fun _=>rfl) (fun b2=> ?_)
 refine Fin.go ?_
 refine ac ?_
 refine Ch.cs 16 rfl ?_ ?_<;>intro h1 q1
 refine ac ?_
 refine Ch.cs 23 rfl ?_ ?_<;>intro h2 q2
 refine ac ?_
 refine Ch.cs 30 rfl ?_ ?_<;>intro h3 q3
 refine ac ?_
 refine Ch.cs 37 rfl ?_ ?_<;>intro h4 q4
 refine ac ?_
 refine cy h4 rfl (Oy rfl (vl rfl) (vl rfl)) ?_
 refine ac ?_
 refine Ch.cs 44 rfl ?_ ?_<;>intro h5 q5
 refine ac ?_
 refine Ch.cs 51 rfl ?_ ?_<;>intro h6 q6
 refine ac ?_
 refine cy h6 rfl (AR rfl (vZ) ⟨ke rfl,ke rfl,⟨_,rfl,KE (dom:=fun p:HB×HB=>[agg (DH p.1),agg (DH p.2)]) (res:=fun p=>bool (decide (p.1=p.2))) Zd (fun p=>Zc (a:=p.1) (b:=p.2))⟩,trivial⟩) ?_
 refine ac ?_
 refine Tr.drop 0 (Tr.drop 0 (wk [4] rfl ?_))
 refine ac ?_
 · exact K9
 refine ac ?_
 refine Tr.drop 0 (Tr.drop 0 (wk [4] rfl ?_))
 refine ac ?_
 · exact K9
 refine ac ?_
 refine Tr.drop 0 (Tr.drop 0 (wk [4] rfl ?_))
 refine ac ?_
 · exact K9
 refine ac ?_
 refine Tr.drop 0 (Tr.drop 0 (wk [4] rfl ?_))
 refine ac ?_
 · exact K9
 refine ac ?_
 refine Tr.drop 0 (Tr.drop 0 (wk [4] rfl ?_))
 refine ac ?_
 · exact K9
 refine ac ?_
 refine Tr.drop 0 (Tr.drop 0 (wk [4] rfl ?_))
 refine ac ?_
 · exact K9
 refine ac ?_
 refine Tr.drop 0 (Tr.drop 0 (wk [4] rfl ?_))
 refine ac ?_
 · exact K9
theorem nL:Entry Tryz.prog 111:=⟨_,Tryz.func111,rfl,rfl⟩
def newE (l:List BW) (r:List BO) (d:List Int) (day:Int):Int:=if 0≤day∧day≤40000 then (if Zb l.length r d day (List.replicate l.length 0) (List.replicate l.length 0)=true then 0 else 49) else 2
def newP (l:List BW) (r:List BO) (d:List Int) (day:Int):List Pr:=if newE l r d day=0 then G_ l r d day (List.replicate l.length 0) (List.replicate l.length 0) false else G_ [] [] [] 0 [] [] false
theorem Zu:Pr.le (agg [is (.slice none 0 0),is (.slice none 0 0),is (.slice none 0 0),int 0,is (.slice none 0 0),is (.slice none 0 0),Cp.bool false]) (agg (G_ [] [] [] 0 [] [] false)):=BR ⟨AQ 8,AQ 2,AQ 1,Pr.le_refl _,AQ 1,AQ 1,Pr.le_refl _,trivial⟩
theorem iJ {l:List BW} {r:List BO} {d:List Int} {day e:Int} (h:newE l r d day=e) (he:e≠0):newP l r d day=G_ [] [] [] 0 [] [] false:=if_neg KB
theorem Zt {l:List BW} {r:List BO} {d:List Int} {day:Int} (h:¬(0≤day∧day≤40000)):newE l r d day=2:=if_neg h
theorem w_ {l:List BW} {r:List BO} {d:List Int} {day:Int} (h:0≤day∧day≤40000) (hk:¬Zb l.length r d day (List.replicate l.length 0) (List.replicate l.length 0)=true):newE l r d day=49:=by unfold newE;rw [if_pos h,if_neg hk]
theorem nM {l:List BW} {r:List BO} {d:List Int} {day:Int} (h:0≤day∧day≤40000) (hk:Zb l.length r d day (List.replicate l.length 0) (List.replicate l.length 0)=true):newE l r d day=0∧newP l r d day=G_ l r d day (List.replicate l.length 0) (List.replicate l.length 0) false:=by
 have h0:newE l r d day=0:=by unfold newE;rw [if_pos h,if_pos hk]
 exact ⟨h0,if_pos h0⟩
theorem ck {n:Nat} {m:Int} (h:0≤m):JK m (List.replicate n 0)=false:=by
 unfold JK
 rw [List.any_eq_false]
 intro x hx
 rw [List.eq_of_mem_replicate hx]
 unfold SI
 simpa using h
theorem VF.in_ {m:Nat} {l:List BW} {r:List BO} {d:List Int} (h:VF m l r d):JK 40000 d=false:=by
 unfold JK
 rw [List.any_eq_false]
 intro x hx
 obtain ⟨j,hj⟩:=List.mem_iff_getElem?.1 hx
 have hjl:=BN hj
 rw [h.dl] at hjl
 obtain ⟨c,hc⟩:=at_ hjl
 have:=(h.dd j x c hjl hj hc).1
 unfold SI
 rw [decide_eq_true_eq];omega
theorem set_nil (n:Int):Dx n []=true:=rfl
theorem VF.new {m:Nat} {l:List BW} {r:List BO} {d:List Int} {day:Int} (h:VF m l r d) (hd:0≤day∧day≤40000):newE l r d day=0∧newP l r d day=G_ l r d day (List.replicate l.length 0) (List.replicate l.length 0) false:=by
 refine nM hd ?_
 obtain ⟨h1,h2⟩:=uA (n:=((l.length:Nat):Int)) (s:=[]) h.v (set_nil _)
 unfold Zb
 rw [XK,decide_eq_true_eq,h1,h2]
 exact ⟨⟨⟨h.l24,h.dl⟩,List.length_replicate,List.length_replicate⟩,⟨⟨h.in_,by unfold SI;rw [decide_eq_false_iff_not];omega⟩,ck AB,ck AB⟩,rfl,Dj.2 fun q _ hq=>by cases hq⟩
theorem cq:newE [] [] [] 3=0∧newP [] [] [] 3=G_ [] [] [] 3 [] [] false:=nM AB AB
theorem VH {l:List BW} {r:List BO} {d:List Int} {day:Int} (F6:∀x∈l,x.Cr.small) (hl:l.length≤1000000) (hr:r.length≤1000000) (hd:d.length≤1000000):Be prog 26 [agg [Dt l,reqs r,ints d],int day] (D7 [agg (newP l r d day),int (newE l r d day)]) (D6) (fun _=>D6):=by
 refine Be.of func26 rfl rfl Ao fun M0 w0 S rs M1 w1=> ?_
 refine Tr.seq (Tr.An (tp rfl (BZ rfl Cm) ?_))
 refine Tl rfl rfl rfl rfl z42 Gd (fun b1=> ?_)
 refine ap ?_
 refine ag ?_ ?_<;>intro h1 q1
 refine ac ?_
 refine Tr.cond rfl (fun _=> ?_) (fun h=>nomatch h)
 refine Tr.seq (Tr.An (tp rfl (Al (rows:=[]) rfl oo Gd trivial rfl) (TO.AK 0 rfl rfl rfl vq Cm rfl EO rfl rfl (tm rfl (TO.nil (Fin.go (Tr.ret (Fin.AE (Fin.Vr [_] rfl (AO.cell 0 rfl rfl EG EO rfl Lr) (AO.tmp rfl Lr) ?_)))))))))
 refine A0 ⟨?_,?_,trivial⟩
 · exact Zs
 · exact int_eq (Zt (l:=l) (r:=r) (d:=d) (day:=day) AA).symm
 refine an ?_ ?_<;>intro h2 q2
 refine ap ?_
 refine Tr.ret (Fin.AE (Fin.Vr [_] rfl (AO.cell 0 rfl rfl EG EO rfl Lr) (AO.tmp rfl Lr) ?_))
 refine A0 ⟨?_,?_,trivial⟩
 · exact Zs
 · exact int_eq (Zt (l:=l) (r:=r) (d:=d) (day:=day) AA).symm
 have hdy:0≤day∧day≤40000:=by simp_all
 refine a2 ?_
 refine wk [6,4,2,1] rfl (Tr.seq (Tr.pad (Tr.rx ?_)))
 refine ax ?_
 refine xo rfl (fun _=>Mf (m:=l.length) rfl underlying22 CH IQ z3 rfl AB AB vq vq Fj AA) ?_
 refine xm rfl ?_
 refine xo rfl (fun _=>Mf (m:=l.length) rfl underlying22 CH IQ z3 rfl AB AB vq vq Fj AA) ?_
 refine xo rfl (fun _=>Al (rows:=[(0,_),(1,[_]),(2,[_]),(3,[_])]) rfl oo Gd ⟨⟨rfl,Cm⟩,⟨⟨rfl,N0⟩,⟨⟨rfl,⟨_,rfl,Pr.le_trans (Pr.le_trans (B0 _ _) (Pr.le_of_eq (show _=slice 1 ((List.replicate l.length (0:Int)).map fun n=>[int n]) by rw [List.map_replicate];rfl))) (Aa _)⟩⟩,⟨⟨rfl,⟨_,rfl,Pr.le_trans (Pr.le_trans (B0 _ _) (Pr.le_of_eq (show _=slice 1 ((List.replicate l.length (0:Int)).map fun n=>[int n]) by rw [List.map_replicate];rfl))) (Aa _)⟩⟩,trivial⟩⟩⟩⟩ rfl) ?_
 refine xo rfl (fun _=>Ck (J5 (l:=l) (r:=r) (d:=d) (day:=day) (st:=(List.replicate l.length (0:Int))) (tr:=(List.replicate l.length (0:Int))) (sp:=false) F6 hl hr hd Oe Oe) rfl rfl) ?_
 refine Cx.ef 0 rfl rfl AB (CB rfl rfl AB rfl z42 Gd) (Cx.Dr 0 rfl rfl (Cd rfl rfl rfl rfl Cm EO rfl rfl) ?_)
 refine Cx.nil ⟨by kernel_rfl,?_⟩
 refine BH.open_ 0 7 rfl rfl (fun v1=> ?_)
 refine BH.done al4 (Fin.LI 7 0 _ rfl rfl (fun _=>rfl) (fun b2=> ?_))
 refine Fin.go (wk [7,4] rfl ?_)
 refine ap ?_
 refine TO.IK 2 rfl rfl AB (Aq rfl rfl AB rfl (TT (l:=l) (r:=r) (d:=d) (day:=day) (st:=(List.replicate l.length (0:Int))) (tr:=(List.replicate l.length (0:Int))) (sp:=false) Oe) kz) ?_
 refine ap ?_
 refine an ?_ ?_<;>intro h3 q3
 have h49:newE l r d day=49:=w_ hdy KC
 refine ap ?_
 refine Tr.drop 0 (Tr.ret (Fin.AE (Fin.Vr [_] rfl (AO.cell 0 rfl rfl EG EO rfl Lr) (AO.tmp rfl Lr) ?_)))
 refine A0 ⟨?_,?_,trivial⟩
 · rw [iJ h49 AB];exact Zu
 · refine int_eq ?_;rw [h49];simp_all
 have h0:=nM (l:=l) (r:=r) (d:=d) hdy KC
 refine ac ?_
 refine ap ?_
 refine Tr.drop 0 (Tr.ret (Fin.Vr [_] rfl (AO.cell 0 rfl rfl EG EO rfl Lr) (AO.tmp rfl Lr) ?_))
 refine A0 ⟨?_,?_,trivial⟩
 · rw [h0.2];exact Lr
 · exact int_eq h0.1.symm
theorem Ri {l:List BW} {r:List BO} {d:List Int} {day:Int} {st tr:List Int} {sp:Bool} {s2:Bool} (F6:∀x∈l,x.Cr.small) (hl:l.length≤1000000) (hr:r.length≤1000000) (hd:d.length≤1000000) (hst:st.length≤1000000) (htr:tr.length≤1000000):BC prog 42 [agg (G_ l r d day st tr sp),Cp.bool s2] (agg (G_ l r d day st tr s2)):=by
 refine fo func42 rfl ⟨rfl,rfl⟩ fun M0 w0=>(Tr.seq (Tr.An (tp rfl (BZ rfl Cm) ?_)))
 refine Tl rfl rfl rfl rfl z42 Gd (fun b1=> ?_)
 refine ap ?_
 refine ap ?_
 refine tp rfl (Ck (J5 F6 hl hr hd hst htr) rfl rfl) ?_
 refine Tl rfl rfl rfl rfl z42 Gd (fun b2=> ?_)
 refine ap ?_
 refine ap ?_
 refine ap ?_
 refine Tr.drop 0 (Tr.ret (Fin.CR rfl (AO.cell 0 rfl rfl EG EO rfl Lr) ?_))
 · exact Lr
theorem OH {l:List BW} {r:List BO} {d:List Int} {day:Int} {st tr:List Int} {sp:Bool} {Hf:Int} (F6:∀x∈l,x.Cr.small) (hl:l.length≤1000000) (hr:r.length≤1000000) (hd:d.length≤1000000) (hst:st.length≤1000000) (htr:tr.length≤1000000):BC prog 29 [agg (G_ l r d day st tr sp),int Hf] (D7 [agg (G_ l r d (if Hf<day∨Hf>40000 then day else Hf) st tr sp),int (if Hf<day∨Hf>40000 then 2 else 0)]):=by
 refine fo func29 rfl ⟨rfl,rfl⟩ fun M0 w0=>(Tr.seq (Tr.An (tp rfl (BZ rfl Cm) ?_)))
 refine Tl rfl rfl rfl rfl z42 Gd (fun b1=> ?_)
 refine ap ?_
 refine ap ?_
 refine tp rfl (Ck (J5 F6 hl hr hd hst htr) rfl rfl) ?_
 refine Tl rfl rfl rfl rfl z42 Gd (fun b2=> ?_)
 refine ap ?_
 refine ag ?_ ?_<;>intro h1 q1
 refine ac ?_
 refine wk [16,6,4,1] rfl (Tr.cond rfl (fun _=> ?_) (fun h=>nomatch h))
 refine Tr.seq (Tr.An (TO.rd 0 rfl rfl rfl AB (CM rfl EG EO vq rfl rfl) (TO.AK 1 rfl rfl rfl vq Cm rfl EO rfl rfl (tm rfl (TO.nil (Fin.go (Tr.drop 0 (Tr.ret (Fin.AE (Fin.BU rfl (AO.cell 0 rfl rfl EG EO rfl Lr) (AO.tmp rfl Lr) ?_))))))))))
 refine A0 ⟨?_,?_,trivial⟩
 · rw [if_pos (show Hf<day∨Hf>40000 by omega)];exact Lr
 · exact int_eq (if_pos (show Hf<day∨Hf>40000 by omega)).symm
 refine ac ?_
 refine wk [16,6,4,1] rfl ?_
 refine Tr.cn rfl ?_ ?_<;>intro h2 q2
 refine ap ?_
 refine Tr.drop 0 (Tr.ret (Fin.AE (Fin.BU rfl (AO.cell 0 rfl rfl EG EO rfl Lr) (AO.tmp rfl Lr) ?_)))
 refine A0 ⟨?_,?_,trivial⟩
 · rw [if_pos (show Hf<day∨Hf>40000 by omega)];exact Lr
 · exact int_eq (if_pos (show Hf<day∨Hf>40000 by omega)).symm
 refine ac ?_
 refine ap ?_
 refine ap ?_
 refine Tr.drop 0 (Tr.ret (Fin.BU rfl (AO.cell 0 rfl rfl EG EO rfl Lr) (AO.tmp rfl Lr) ?_))
 refine A0 ⟨?_,?_,trivial⟩
 · rw [if_neg (show ¬(Hf<day∨Hf>40000) by omega)];exact Lr
 · exact int_eq (if_neg (show ¬(Hf<day∨Hf>40000) by omega)).symm
theorem nN {x:Int}  :BC prog 85 [int x] (bool (decide (x≠1))):=by
 refine fo func85 rfl ⟨rfl,rfl⟩ fun M0 w0=> ?_
 refine a3 ?_
 · refine bool_eq ?_;by_cases h_:x=1<;>simp [h_]
theorem nO:Entry Tryz.prog 85:=⟨_,Tryz.func85,rfl,rfl⟩
theorem VI {l:List BW} {r:List BO} {d:List Int} {day:Int} {st tr:List Int} {sp:Bool}  :BC prog 32 [agg (G_ l r d day st tr sp)] (bool (!(st.any fun x=>decide (x≠1)))):=by
 refine fo func32 rfl ⟨rfl,rfl⟩ fun M0 w0=> ?_
 refine a2 ?_
 refine co rfl (AR rfl (I8 (l:=st) (p:=fun x=>decide (x≠1))) ⟨kq,⟨_,rfl,KE nO (fun x=>nN (x:=x))⟩,trivial⟩) ?_
 refine a2 ?_
 · exact Lr
theorem xA {a b:List (BO)}  :BC prog 112 [reqs a,reqs b] (bool (decide (a=b))):=by
 refine fo func112 rfl ⟨rfl,rfl⟩ fun M0 w0=>(Tr.Cf 0 rfl fun EH=>(Tr.Cf 1 rfl fun FC=> ?_))
 refine ac ?_
 refine an ?_ ?_<;>intro h1 q1
 have hne:¬a.length=b.length:=by simp_all;omega
 refine a2 ?_
 · exact Pv
 have Td:a.length=b.length:=by simp_all;omega
 refine a2 ?_
 refine Tr.block (Tr.BE _ (kk [12,1,0] rfl) (fun k:Nat=>[(13,int ((k:Nat):Int))]) (fun k:Nat=>k≤(a).length∧(a.take k=b.take k)) (fun k:Nat=>(a).length-k) 0 (⟨Nat.zero_le _,rfl⟩) kz ?_)
 rintro k ⟨BV,AZ⟩
 refine ac ?_
 refine Tr.seq ?_
 refine Tr.cn rfl ?_ ?_<;>intro h2 q2
 have Ai:k<(a).length:=AH h2
 obtain ⟨x,Ah⟩:=at_ Ai
 obtain ⟨y,hy⟩:=at_ (l:=b) (k:=k) AA
 · repeat' first|(refine bool_eq ?_;symm;rw [decide_eq_false_iff_not];refine Zf Ah hy ?_;rintro rfl;simp_all)|(exact Fin.AP (k+1) ⟨⟨Ai,SM Ah hy AZ (by cases x;cases y;simp_all)⟩,by omega⟩ ⟨⟨_,rfl,AG k⟩,kz⟩)|refine co rfl (AD rfl underlying33 Cg vq vq AA (AX Ah)) ?_|refine co rfl (AD rfl underlying33 Cg vq vq AA (AX hy)) (co rfl (AL rfl FB Cg vq rfl rfl) (co rfl (rL rfl vq vq) ?_))|refine ac ?_|(refine Tr.cn rfl ?_ ?_<;>intro h q)
 have BL:k=(a).length:=by have:=AJ h2;omega
 subst BL
 refine a3 ?_
 · exact Py
theorem sX {a b:List BW}  :BC prog 110 [Dt a,Dt b,clo prog (fun p:BW×BW=>[agg (DK p.1),agg (DK p.2)]) (fun p=>bool (decide (p.1=p.2)))] (bool (decide (a=b))):=by
 refine fo func110 rfl ⟨rfl,rfl⟩ fun M0 w0=>(Tr.Cf 0 rfl fun EH=>(Tr.Cf 1 rfl fun FC=> ?_))
 refine ac ?_
 refine an ?_ ?_<;>intro h1 q1
 have hne:¬a.length=b.length:=by simp_all;omega
 refine a2 ?_
 · exact Pv
 have Td:a.length=b.length:=by simp_all;omega
 refine a2 ?_
 refine Tr.block (Tr.BE _ (kk [16,15,2,1] rfl) (fun k:Nat=>[(17,int ((k:Nat):Int))]) (fun k:Nat=>k≤(a).length∧(a.take k=b.take k)) (fun k:Nat=>(a).length-k) 0 (⟨Nat.zero_le _,rfl⟩) kz ?_)
 rintro k ⟨BV,AZ⟩
 refine ac ?_
 refine Tr.seq ?_
 refine Tr.cn rfl ?_ ?_<;>intro h2 q2
 have Ai:k<(a).length:=AH h2
 obtain ⟨x,Ah⟩:=at_ Ai
 obtain ⟨y,hy⟩:=at_ (l:=b) (k:=k) AA
 refine ac ?_
 refine ao ?_
 refine tp rfl (AD rfl underlying32 C9 (vl rfl) (vl rfl) AA (AX Ah)) (tp rfl (AL rfl GY C9 (vl rfl) rfl rfl) ?_)
 refine Tl rfl rfl rfl rfl Nx JI (fun b1=> ?_)
 refine tm rfl ?_
 refine sf 0 8 ⟨rfl,rfl,rfl⟩ rfl rfl rfl rfl ?_
 refine ao ?_
 refine ao ?_
 refine tp rfl (AD rfl underlying32 C9 (vl rfl) (vl rfl) AA (AX hy)) (tp rfl (AL rfl GY C9 (vl rfl) rfl rfl) ?_)
 refine Tl rfl rfl rfl rfl Nx JI (fun b2=> ?_)
 refine sf 0 9 ⟨rfl,rfl,rfl⟩ rfl rfl rfl rfl ?_
 refine ao ?_
 · exact gb
 have BL:k=(a).length:=by have:=AJ h2;omega
 subst BL
 refine a3 ?_
 · exact Py
theorem sY {l l2:List BW} {r r2:List BO} {d d2:List Int}  :BC prog 58 [agg [Dt l,reqs r,ints d],agg [Dt l2,reqs r2,ints d2]] (bool (decide (l=l2∧r=r2∧d=d2))):=by
 refine fo func58 rfl ⟨rfl,rfl⟩ fun M0 w0=> ?_
 refine a2 ?_
 refine co rfl (AR rfl (sX (a:=l) (b:=l2)) ⟨kq,kq,⟨_,rfl,KE (dom:=fun p:BW×BW=>[agg (DK p.1),agg (DK p.2)]) (res:=fun p=>bool (decide (p.1=p.2))) nL (fun p=>nK (a:=p.1) (b:=p.2))⟩,trivial⟩) ?_
 refine cm rfl ?_
 · repeat' first|(refine bool_eq ?_;simp_all)|refine cy h rfl (CK (xA) rfl rfl rfl) ?_|refine cy h rfl (CK (kL) rfl rfl rfl) ?_|refine ac ?_|(refine Ch.cg rfl rfl rfl ?_ ?_<;>intro h q)
theorem XP {l l2:List BW} {r r2:List BO} {d d2:List Int} {day Hf:Int} {st tr st2 tr2:List Int} {sp sp2:Bool}  :BC prog 44 [agg (G_ l r d day st tr sp),agg (G_ l2 r2 d2 Hf st2 tr2 sp2)] (bool (decide ((l=l2∧r=r2∧d=d2)∧day=Hf∧sp=sp2∧st=st2∧tr=tr2))):=by
 refine fo func44 rfl ⟨rfl,rfl⟩ fun M0 w0=> ?_
 · repeat' first|(refine bool_eq ?_;simp_all [Bool.beq_eq_decide_eq])|refine co rfl (CK (sY) rfl rfl rfl) (cm rfl ?_)|refine cy h rfl (CK (kL) rfl rfl rfl) ?_|refine ac ?_|(refine Ch.cg rfl rfl rfl ?_ ?_<;>intro h q)
theorem nP   :Be prog 11 [] (bool true) (D6) (fun _=>D6):=by
 refine Be.of func11 rfl rfl Ao fun M0 w0 S rs M1 w1=> ?_
 refine Tr.seq (Tr.Aj (cm rfl (Ch.nil (Fin.go (Tr.seq (Tr.An (tp rfl (Al (rows:=[]) rfl LJ Eu trivial rfl) ?_)))))))
 refine TO.IK 0 rfl rfl AB (Aq rfl rfl AB rfl (VH (l:=[]) (r:=[]) (d:=[]) (day:=3) (fun x h=>by cases h) AB AB AB) ⟨⟨_,rfl,BR (ps:=[is (.slice none 0 0),is (.slice none 0 0),is (.slice none 0 0)]) ⟨AQ 8,AQ 2,AQ 1,trivial⟩⟩,ke rfl,trivial⟩) ?_
 refine tm rfl (tp rfl (Ap rfl (vl rfl) rfl) (TO.re 8 _ rfl (Pr.le_of_eq (congrArg agg cq.2)) (tp rfl (Ap rfl (vl rfl) rfl) (TO.re 9 _ rfl (int_eq cq.1) ?_))))
 refine Tl rfl rfl rfl rfl z42 Gd (fun b1=> ?_)
 refine TO.AK 0 rfl rfl rfl (vl rfl) (Va rfl) rfl EO rfl rfl (TO.freeze 0 1 rfl rfl (tm rfl (TO.nil (Fin.go (Tr.seq (Tr.An (tp rfl (Al (rows:=[]) rfl LJ Eu trivial rfl) ?_)))))))
 refine TO.IK 0 rfl rfl AB (Aq rfl rfl AB rfl (VH (l:=[]) (r:=[]) (d:=[]) (day:= -1) (fun x h=>by cases h) AB AB AB) ⟨⟨_,rfl,BR (ps:=[is (.slice none 0 0),is (.slice none 0 0),is (.slice none 0 0)]) ⟨AQ 8,AQ 2,AQ 1,trivial⟩⟩,ke rfl,trivial⟩) ?_
 refine tm rfl (tp rfl (Ap rfl (vl rfl) rfl) (tp rfl (Ap rfl (vl rfl) rfl) (TO.re 14 _ rfl (int_eq (Zt AB)) ?_)))
 refine Tl rfl rfl rfl rfl z42 Gd (fun b2=> ?_)
 refine TO.AK 0 rfl rfl rfl (vl rfl) (Va rfl) rfl EO rfl rfl (TO.freeze 0 3 rfl rfl (tm rfl (TO.nil (Fin.go (GF 1 2 4 rfl (Tr.seq (Tr.An (tm rfl (tp rfl (ki rfl rfl rfl rfl) (tm rfl ?_))))))))))
 refine TO.cases 17 rfl (fun h1=> ?_) (fun h1=> ?_)
 have q1:=Co.C_ h1
 refine TO.FG rfl rfl rfl h1 rfl AB (BK rfl (vl rfl)) (TO.FG rfl rfl rfl h1 rfl AB (ki rfl rfl rfl rfl) (tp rfl (KH rfl rfl h1 rfl) (tm rfl ?_)))
 refine TO.cases 21 rfl (fun h2=> ?_) (fun h2=> ?_)
 have q2:=Co.C_ h2
 refine TO.FG rfl rfl rfl h2 rfl AB (QG rfl YE rfl rfl) (TO.FG rfl rfl rfl h2 rfl AB (GX rfl DF rfl) (TO.FG rfl rfl rfl h2 rfl AB (ki rfl rfl rfl rfl) (tp rfl (KH rfl rfl h2 rfl) (tm rfl ?_))))
 refine TO.cases 26 rfl (fun h3=> ?_) (fun h3=> ?_)
 have q3:=Co.C_ h3
 refine TO.FG rfl rfl rfl h3 rfl AB (AL rfl EG EO (vl rfl) rfl rfl) ?_
 refine TO.FG rfl rfl rfl h3 rfl AB (AR rfl (VI (l:=[]) (r:=[]) (d:=[]) (day:=3) (st:=[]) (tr:=[]) (sp:=false)) ⟨ke rfl,trivial⟩) ?_
 refine tp rfl (KH rfl rfl h3 rfl) (tm rfl ?_)
 refine TO.cases 30 rfl (fun h4=> ?_) (fun h4=> ?_)
 have q4:=Co.C_ h4
 refine TO.FG rfl rfl rfl h4 rfl AB (Al (rows:=[(1,[_])]) rfl oo Gd ⟨⟨rfl,(Vo rfl)⟩,trivial⟩ rfl) ?_
 refine TO.jX 0 rfl rfl rfl h4 rfl rfl AB (Aq rfl rfl AB rfl (TT (l:=[]) (r:=[]) (d:=[]) (day:= -1) (st:=[]) (tr:=[]) (sp:=false) AB) ⟨⟨_,rfl,BR (ps:=[is (.slice none 0 0),is (.slice none 0 0),is (.slice none 0 0),int (-1),is (.slice none 0 0),is (.slice none 0 0),Cp.bool false]) ⟨AQ 8,AQ 2,AQ 1,Lr,AQ 1,AQ 1,Lr,trivial⟩⟩,trivial⟩) ?_
 refine TO.FG rfl rfl rfl h4 rfl AB (ki rfl rfl rfl rfl) (tp rfl (KH rfl rfl h4 rfl) (tm rfl (TO.nil (Fin.go (NC 0 rfl (Tr.ret (Fin.Es rfl rfl ?_ (fun _ _ _ _=>rfl))))))))
 · exact bool_eq AB
 have q4:=Co.C_ h4
 exact absurd h4 AB
 have q3:=Co.C_ h3
 exact absurd h3 AB
 have q2:=Co.C_ h2
 exact absurd h2 AB
 have q1:=Co.C_ h1
 exact absurd h1 AB
theorem gF {l:List BW} {r:List BO} {d:List Int} {day:Int} {st tr:List Int}  :BC prog 27 [agg (G_ l r d day st tr true)] (D7 [int 0,bool false]):=by
 refine fo func27 rfl ⟨rfl,rfl⟩ fun M0 w0=> ?_
 refine ac ?_
 refine an ?_ ?_<;>intro h1 q1
 refine ac ?_
 refine Tr.ret (Fin.AE (Fin.Dc rfl (Bo.Dy _ _) rfl ?_ rfl ?_))
 · exact Lr
 · exact Lr
 exact absurd h1 AB
theorem XQ {l:List BW} {r:List BO} {d:List Int} {day:Int} {st tr:List Int} {step:Int} {x y z:B7} (F6:∀x∈l,x.Cr.small) (hl:l.length≤1000000) (hr:r.length≤1000000) (hd:d.length≤1000000) (hst:st.length≤1000000) (htr:tr.length≤1000000):BC prog 30 [agg (G_ l r d day st tr true),int step,agg (Bc x),agg (Bc y),agg (Bc z)] (D7 [agg (G_ l r d day st tr true),int 54]):=by
 refine fo func30 rfl ⟨rfl,rfl⟩ fun M0 w0=>(Tr.seq (Tr.An ?_))
 iterate 4 refine tp rfl (BZ rfl Cm) ?_
 refine Tl rfl rfl rfl rfl z42 Gd (fun b1=> ?_)
 refine ap ?_
 refine ap ?_
 refine tp rfl (Ck (J5 F6 hl hr hd hst htr) rfl rfl) ?_
 refine Tl rfl rfl rfl rfl z42 Gd (fun b2=> ?_)
 refine ap ?_
 refine ac ?_
 · repeat' first|exact Lr|exact absurd h AB|refine Tr.drop 0 (Tr.ret (Fin.AU (Fin.AE (Fin.BU rfl (AO.cell 0 rfl rfl EG EO rfl Lr) (AO.tmp rfl Lr) ?_))))|refine A0 ⟨?_,?_,trivial⟩|refine ap ?_|(refine Tr.cn rfl ?_ ?_<;>intro h q)
theorem gG {l:List BW} {r:List BO} {d:List Int} {day:Int} {st tr:List Int} {step:Int} (F6:∀x∈l,x.Cr.small) (hl:l.length≤1000000) (hr:r.length≤1000000) (hd:d.length≤1000000) (hst:st.length≤1000000) (htr:tr.length≤1000000):Be prog 21 [agg (G_ l r d day st tr true),int step] (D7 [agg (G_ l r d day st tr true),int 54]) (D6) (fun _=>D6):=by
 refine Be.of func21 rfl rfl Ao fun M0 w0 S rs M1 w1=> ?_
 refine Tr.seq (Tr.An (tp rfl (BZ rfl Cm) ?_))
 refine Tl rfl rfl rfl rfl z42 Gd (fun b1=> ?_)
 refine ap ?_
 refine ap ?_
 refine tp rfl (Ck (J5 F6 hl hr hd hst htr) rfl rfl) ?_
 refine Tl rfl rfl rfl rfl z42 Gd (fun b2=> ?_)
 refine ap ?_
 refine Tr.seq (Tr.rx ?_)
 refine ay ?_
 refine xo rfl (fun _=>Ck (XO hst) rfl rfl) (Cx.ef 2 rfl rfl AB (Aq rfl rfl AB rfl (SB) ⟨kq,kz⟩) ?_)
 refine ay ?_
 refine Cx.nil ⟨by kernel_rfl,?_⟩
 refine BH.done al4 (Fin.go (wk [7,6,4,2,1] rfl ?_))
 refine an ?_ ?_<;>intro h1 q1
 refine ap ?_
 refine Tr.drop 0 (Tr.ret (Fin.AU (Fin.AE (Fin.Vr [_] rfl (AO.cell 0 rfl rfl EG EO rfl Lr) (AO.tmp rfl Lr) ?_))))
 refine A0 ⟨?_,?_,trivial⟩
 · exact Lr
 · exact Lr
 exact absurd h1 AB
theorem SJ {t:List Int}  :Be prog 8 [ints t] (bool true) (D6) (fun _=>D6):=by
 refine Be.of func8 rfl rfl Ao fun M0 w0 S rs M1 w1=> ?_
 refine Tr.seq (Tr.Aj (cm rfl (Ch.nil (Fin.go (Tr.seq (Tr.seq (Tr.Aj (cm rfl (co rfl (AR rfl (qO) ⟨ke rfl,trivial⟩) (co rfl (Gs rfl (vl rfl)) (Ch.nil (Fin.go ?_))))))))))))
 refine Tr.cn rfl ?_ ?_<;>intro h1 q1
 refine Tr.seq (Tr.An (TO.IK 0 rfl rfl AB (Aq rfl rfl AB rfl (nP) trivial) (tm rfl (TO.nil (Fin.go (Tr.ret (Fin.AE (Fin.Es rfl rfl ?_ (fun _ _ _ _=>rfl)))))))))
 · exact Lr
 have ht4:t.length≤400:=by simpa using h1
 have ht9:t.length≤1000000000:=by omega
 refine Tr.skip (Fin.go (Tr.seq (Tr.An (tm rfl (TO.pad ?_)))))
 refine TO.DZ 0 rfl rfl AB (HJ rfl rfl AB rfl (vL (l:=t) ht9) ⟨ke rfl,trivial⟩) (fun v1=> ?_)
 refine TO.LI 26 0 _ rfl rfl (fun _=>rfl) (fun b1=> ?_)
 refine tm rfl (TO.nil (Fin.go (Tr.seq (Tr.An (tm rfl (TO.IK 0 rfl rfl AB (Aq rfl rfl AB rfl (w9) ⟨ke rfl,trivial⟩) ?_))))))
 refine TO.ex 29 rfl (fun z1=>TO.fact 29 rfl fun EY=> ?_)
 refine tm rfl (tp rfl (Ap rfl (vl rfl) rfl) (tp rfl (Ap rfl (vl rfl) rfl) ?_))
 refine TO.ex 31 rfl (fun p1=>TO.fact 31 rfl fun jR=> ?_)
 refine tp rfl (Ap rfl (vl rfl) rfl) ?_
 refine Tl rfl rfl rfl rfl z31 Ht (fun b2=> ?_)
 refine Tl rfl rfl rfl rfl z35 Eu (fun b3=> ?_)
 refine TO.AK 1 rfl rfl rfl (vl rfl) (Va rfl) rfl DP rfl rfl (TO.freeze 1 4 rfl rfl (TO.AK 0 rfl rfl rfl (vl rfl) (Va rfl) rfl CI rfl rfl (TO.freeze 0 5 rfl rfl (tm rfl (TO.nil (Fin.Sa 0 rfl (fun s1=> ?_)))))))
 refine Fin.go (T_ 4 5 rfl (Tr.seq ?_))
 have hdl:=jR.fit.dl
 have h7:=jR.l7
 have hrl:=jR.rl
 have F6:∀x∈p1.1,x.Cr.small:=fun x hx=>(jR.ok x hx).2
 have h1:p1.1.length≤1000000:=by omega
 have h2:p1.2.1.length≤1000000:=by omega
 have h3:p1.2.2.length≤1000000:=by omega
 have hzl:(List.replicate p1.1.length (0:Int)).length≤1000000:=by rw [List.length_replicate];omega
 obtain ⟨hn1,hn2⟩:=jR.fit.new (day:=2) AB
 have hn:=EY.n2
 obtain ⟨x0,hx0⟩:=at_ (l:=z1.Bp) (k:=0) AA
 obtain ⟨x1,hx1⟩:=at_ (l:=z1.Bp) (k:=1) AA
 refine Tr.An (tp rfl (AL rfl Ct CI (vl rfl) rfl rfl) (TO.IK 1 rfl rfl AB (Aq rfl rfl AB rfl (VH F6 h1 h2 h3) ⟨ke rfl,ke rfl,trivial⟩) (tm rfl (tp rfl (Ap rfl (vl rfl) rfl) (TO.re 36 _ rfl (Pr.le_of_eq (congrArg agg hn2)) (tp rfl (Ap rfl (vl rfl) rfl) (TO.re 37 _ rfl (int_eq hn1) ?_)))))))
 refine Tl rfl rfl rfl rfl z42 Gd (fun b4=> ?_)
 refine TO.AK 0 rfl rfl rfl (vl rfl) (Va rfl) rfl EO rfl rfl (TO.freeze 0 7 rfl rfl (tm rfl (TO.nil (Fin.go (Tr.seq (Tr.An (tp rfl (AL rfl EG EO (vl rfl) rfl rfl) (tp rfl (AR rfl (Ri F6 h1 h2 h3 hzl hzl) ⟨ke rfl,ke rfl,trivial⟩) ?_))))))))
 refine Tl rfl rfl rfl rfl z42 Gd (fun b5=> ?_)
 refine TO.AK 0 rfl rfl rfl (vl rfl) (Va rfl) rfl EO rfl rfl (TO.freeze 0 9 rfl rfl (TO.nil (Fin.go (UA 4 7 8 9 rfl (Tr.seq (Tr.Aj (co rfl (AL rfl EG EO (vl rfl) rfl rfl) (co rfl (AR rfl (gF) ⟨ke rfl,trivial⟩) (cm rfl (co rfl (Ap rfl (vl rfl) rfl) (co rfl (Ap rfl (vl rfl) rfl) (cm rfl (cm rfl ?_)))))))))))))
 refine Ch.nil (Fin.go (Tr.seq (Tr.pad (Tr.GQ mixed [none,none,none,none,none,none,none,none,none,none,none,none,none,none,none,none,none,some (0,0,true,12),some (12,0,true,12),none] BS (xo rfl (fun _=>AL rfl EG EO (vl rfl) rfl rfl) (xo rfl (fun _=>QG rfl GS rfl rfl) (xo rfl (fun _=>GX rfl MG rfl) ?_)))))))
 refine xo rfl (fun _=>AD rfl underlying27 CF (vl rfl) (vl rfl) AA (AX (k:=0) hx0)) ?_
 refine xo rfl (fun _=>AL rfl Cj CF (vl rfl) rfl rfl) (xo rfl (fun _=>QG rfl GS rfl rfl) (xo rfl (fun _=>GX rfl MG rfl) ?_))
 refine xo rfl (fun _=>AD rfl underlying27 CF (vl rfl) (vl rfl) AA (AX (k:=1) hx1)) ?_
 refine xo rfl (fun _=>AL rfl Cj CF (vl rfl) rfl rfl) (xo rfl (fun _=>QG rfl GS rfl rfl) (xo rfl (fun _=>GX rfl MG rfl) ?_))
 refine xo rfl (fun _=>AD rfl underlying27 CF (vl rfl) (vl rfl) AA (AX (k:=1) hx1)) ?_
 refine xo rfl (fun _=>AL rfl Cj CF (vl rfl) rfl rfl) (xo rfl (fun _=>AR rfl (XQ F6 h1 h2 h3 hzl hzl) ⟨ke rfl,ke rfl,ke rfl,ke rfl,ke rfl,trivial⟩) (xm rfl (xo rfl (fun _=>Ap rfl (vl rfl) rfl) (xo rfl (fun _=>Ap rfl (vl rfl) rfl) (Cx.ef 0 rfl rfl AB (CB rfl rfl AB rfl z42 Gd) (Cx.Dr 0 rfl rfl (Cd rfl rfl rfl rfl (Va rfl) EO rfl rfl) (xm rfl ?_)))))))
 refine Cx.nil ⟨rfl,?_⟩
 refine BH.open_ 0 12 rfl rfl (fun v2=> ?_)
 refine BH.done (Ax.cons (Ax.cons (Ax.cons (Ax.cons (Ax.map _))))) (Fin.LI 12 0 _ rfl rfl (fun _=>rfl) (fun b6=> ?_))
 refine Fin.go (Tr.drop 0 (wk5 7 8 9 11 13 rfl (Tr.seq (Tr.An (tp rfl (AL rfl EG EO (vl rfl) rfl rfl) (TO.IK 1 rfl rfl AB (Aq rfl rfl AB rfl (gG F6 h1 h2 h3 hzl hzl) ⟨ke rfl,ke rfl,trivial⟩) (tm rfl (tp rfl (Ap rfl (vl rfl) rfl) (tp rfl (Ap rfl (vl rfl) rfl) ?_)))))))))
 refine Tl rfl rfl rfl rfl z42 Gd (fun b7=> ?_)
 refine TO.AK 0 rfl rfl rfl (vl rfl) (Va rfl) rfl EO rfl rfl (TO.freeze 0 14 rfl rfl (tm rfl (TO.nil (Fin.go (wk6 7 8 9 11 13 15 rfl (Tr.seq (Tr.An (tp rfl (AL rfl EG EO (vl rfl) rfl rfl) (tp rfl (AR rfl (OH F6 h1 h2 h3 hzl hzl) ⟨ke rfl,ke rfl,trivial⟩) (tm rfl (tp rfl (Ap rfl (vl rfl) rfl) (tp rfl (Ap rfl (vl rfl) rfl) ?_))))))))))))
 refine Tl rfl rfl rfl rfl z42 Gd (fun b8=> ?_)
 refine TO.AK 0 rfl rfl rfl (vl rfl) (Va rfl) rfl EO rfl rfl (TO.freeze 0 16 rfl rfl (tm rfl (TO.nil (Fin.go (wk8 7 8 9 11 13 15 16 17 rfl (Tr.seq (Tr.An (tp rfl (AL rfl EG EO (vl rfl) rfl rfl) (tp rfl (AR rfl (OH F6 h1 h2 h3 hzl hzl) ⟨ke rfl,ke rfl,trivial⟩) (tm rfl (tp rfl (Ap rfl (vl rfl) rfl) (tp rfl (Ap rfl (vl rfl) rfl) ?_))))))))))))
 refine Tl rfl rfl rfl rfl z42 Gd (fun b9=> ?_)
 refine TO.AK 0 rfl rfl rfl (vl rfl) (Va rfl) rfl EO rfl rfl (TO.freeze 0 18 rfl rfl (tm rfl (TO.nil (Fin.go (oQ 7 8 9 11 13 15 16 17 19 rfl (Tr.seq (Tr.An (tp rfl (AL rfl EG EO (vl rfl) rfl rfl) (tp rfl (AR rfl (Ri F6 h1 h2 h3 hzl hzl) ⟨ke rfl,ke rfl,trivial⟩) (tp rfl (AR rfl (Ri F6 h1 h2 h3 hzl hzl) ⟨ke rfl,ke rfl,trivial⟩) ?_))))))))))
 refine Tl rfl rfl rfl rfl z42 Gd (fun b10=> ?_)
 refine TO.AK 0 rfl rfl rfl (vl rfl) (Va rfl) rfl EO rfl rfl (TO.freeze 0 20 rfl rfl (TO.nil (Fin.go (UB 7 8 9 11 13 15 16 17 19 20 rfl (Tr.seq (Tr.An (tm rfl (tp rfl (ki rfl rfl rfl rfl) (tm rfl ?_)))))))))
 refine TO.cases 82 rfl (fun h2=> ?_) (fun h2=> ?_)
 have q2:=Co.C_ h2
 refine TO.FG rfl rfl rfl h2 rfl AB (QG rfl YF rfl rfl) (TO.FG rfl rfl rfl h2 rfl AB (GX rfl Vu rfl) (tp rfl (KH rfl rfl h2 rfl) (tm rfl ?_)))
 refine TO.cases 86 rfl (fun h3=> ?_) (fun h3=> ?_)
 have q3:=Co.C_ h3
 refine TO.FG rfl rfl rfl h3 rfl AB (BK rfl (vl rfl)) (TO.FG rfl rfl rfl h3 rfl AB (Gs rfl (vl rfl)) (tp rfl (KH rfl rfl h3 rfl) (tm rfl ?_)))
 refine TO.cases 90 rfl (fun h4=> ?_) (fun h4=> ?_)
 have q4:=Co.C_ h4
 refine TO.FG rfl rfl rfl h4 rfl AB (BK rfl (vl rfl)) (TO.FG rfl rfl rfl h4 rfl AB (ki rfl rfl rfl rfl) (tp rfl (KH rfl rfl h4 rfl) (tm rfl ?_)))
 refine TO.cases 94 rfl (fun h5=> ?_) (fun h5=> ?_)
 have q5:=Co.C_ h5
 refine TO.FG rfl rfl rfl h5 rfl AB (BK rfl (vl rfl)) (TO.FG rfl rfl rfl h5 rfl AB (ki rfl rfl rfl rfl) (tp rfl (KH rfl rfl h5 rfl) (tm rfl ?_)))
 refine TO.cases 98 rfl (fun h6=> ?_) (fun h6=> ?_)
 have q6:=Co.C_ h6
 refine TO.FG rfl rfl rfl h6 rfl AB (BK rfl (vl rfl)) (TO.FG rfl rfl rfl h6 rfl AB (ki rfl rfl rfl rfl) (tp rfl (KH rfl rfl h6 rfl) (tm rfl ?_)))
 refine TO.cases 102 rfl (fun h7=> ?_) (fun h7=> ?_)
 have q7:=Co.C_ h7
 refine TO.FG rfl rfl rfl h7 rfl AB (QG rfl YE rfl rfl) (TO.FG rfl rfl rfl h7 rfl AB (GX rfl DF rfl) (TO.FG rfl rfl rfl h7 rfl AB (ki rfl rfl rfl rfl) (tp rfl (KH rfl rfl h7 rfl) (tm rfl ?_))))
 refine TO.cases 107 rfl (fun h8=> ?_) (fun h8=> ?_)
 have q8:=Co.C_ h8
 refine TO.FG rfl rfl rfl h8 rfl AB (QG rfl YF rfl rfl) (TO.FG rfl rfl rfl h8 rfl AB (GX rfl Vu rfl) (tp rfl (KH rfl rfl h8 rfl) (tm rfl ?_)))
 refine TO.cases 111 rfl (fun h9=> ?_) (fun h9=> ?_)
 have q9:=Co.C_ h9
 refine TO.FG rfl rfl rfl h9 rfl AB (BK rfl (vl rfl)) (TO.FG rfl rfl rfl h9 rfl AB (ki rfl rfl rfl rfl) (tp rfl (KH rfl rfl h9 rfl) (tm rfl ?_)))
 refine TO.cases 115 rfl (fun h10=> ?_) (fun h10=> ?_)
 have PC:=Co.C_ h10
 refine TO.FG rfl rfl rfl h10 rfl AB (AL rfl EG EO (vl rfl) rfl rfl) (TO.FG rfl rfl rfl h10 rfl AB (AL rfl EG EO (vl rfl) rfl rfl) (TO.FG rfl rfl rfl h10 rfl AB (AR rfl (XP) ⟨ke rfl,ke rfl,trivial⟩) (tp rfl (KH rfl rfl h10 rfl) (tm rfl ?_))))
 refine TO.cases 120 rfl (fun h11=> ?_) (fun h11=> ?_)
 have Rt:=Co.C_ h11
 refine TO.FG rfl rfl rfl h11 rfl AB (AL rfl EG EO (vl rfl) rfl rfl) (TO.FG rfl rfl rfl h11 rfl AB (AL rfl EG EO (vl rfl) rfl rfl) (TO.FG rfl rfl rfl h11 rfl AB (AR rfl (XP) ⟨ke rfl,ke rfl,trivial⟩) (TO.FG rfl rfl rfl h11 rfl AB (Gs rfl (vl rfl)) (tp rfl (KH rfl rfl h11 rfl) (tm rfl ?_)))))
 refine TO.cases 126 rfl (fun h12=> ?_) (fun h12=> ?_)
 have VQ:=Co.C_ h12
 refine TO.jX 1 rfl rfl rfl h12 rfl rfl AB (Aq rfl rfl AB rfl (nP) trivial) (tp rfl (KH rfl rfl h12 rfl) (tm rfl (TO.nil (Fin.go (NC 2 rfl (Tr.ret (Fin.drop 0 (Fin.Es rfl rfl ?_ (fun _ _ _ _=>rfl)))))))))
 · exact Lr
 have VQ:=Co.C_ h12
 exact absurd h12 AV
 have Rt:=Co.C_ h11
 exact absurd h11 AV
 have PC:=Co.C_ h10
 exact absurd h10 AB
 have q9:=Co.C_ h9
 exact absurd h9 AB
 have q8:=Co.C_ h8
 exact absurd h8 AB
 have q7:=Co.C_ h7
 exact absurd h7 AB
 have q6:=Co.C_ h6
 exact absurd h6 AB
 have q5:=Co.C_ h5
 exact absurd h5 AB
 have q4:=Co.C_ h4
 exact absurd h4 AB
 have q3:=Co.C_ h3
 exact absurd h3 AB
 have q2:=Co.C_ h2
 exact absurd h2 AB
end Go.Proofs.YtmocaapoeefgkaaGreatDoor
namespace Go.Proofs.YtmocaapoeefgkaaGreatDoor
open Go Go.RowKit Cp Go.ChangeShapes Go.WideShapes Go.ChangeAt Go.Proofs.Tryz
theorem AEv : Tryz.prog.globalNamed "math/bits.deBruijn32tab" = some 0 := by kernel_rfl
theorem AEw:(Tryz.prog.globals[0]?).map (·.type)=some 255:=by kernel_rfl
theorem nQ (os : Os) (args : Array Value) : laidMetH Tryz.prog [("math/bits.deBruijn32tab", Rows.laid_math_bits_deBruijn32tab)] ((World.doorLaid Tryz.prog 14 os).forCall (fun _ _ => 0) ⟨#[], args, []⟩).memory :=
 laidMetH_of_parts3 (fuel:=33) (laidMet_of_run' 33 BS BS) BS BS
theorem xB {W : World} (h : laidMetH Tryz.prog [("math/bits.deBruijn32tab", Rows.laid_math_bits_deBruijn32tab)] W) : D6.h nV W := by
 rw [MakeChecks.laidMetH_plain _ _ _ BS] at h
 obtain ⟨ps,⟨g0,t0,cs0,f0,p0,q0,hg0,ht0,aO,hd0,_⟩,_⟩:=h
 obtain rfl:=Option.some.inj (AEv.symm.trans hg0)
 obtain rfl:=Option.some.inj (AEw.symm.trans ht0)
 obtain ⟨xs,m,rfl,hx,hlen,hn,hel⟩:=DataW.trod_array Tryz.underlying255 hd0
 have c1:Tryz.prog.cellsOf 5=1:=by kernel_rfl
 have hx1:Rows.laid_math_bits_deBruijn32tab=DataW.agg (xs.map (·.1)):=(Prod.mk.inj hx).1
 have hx2:xs.map (·.1)=Wj.map fun n:Nat=>DataW.lit (.int .u8 (n:Int)):=by
  have h3:(Rows.laid_math_bits_deBruijn32tab:DataW Unit)=DataW.agg (Wj.map fun n:Nat=>DataW.lit (.int .u8 (n:Int))):=rfl
  exact (DataW.agg.inj (hx1.symm.trans h3))
 intro j n hj
 refine ⟨?_,fun h=>h⟩
 have AEx:j<32:=by
  rcases Nat.lt_or_ge j 32 with h|h
  · exact h
  · rw [List.getElem?_eq_none h] at hj;cases hj
 have h4:=hel j AEx
 rw [c1,Nat.mul_one] at h4
 obtain ⟨y,hy⟩:=at_ (l:=xs) (k:=j) AA
 rw [hy] at h4
 obtain ⟨k,e1,e2,_⟩:=DataW.trod_int Tryz.underlying5 h4
 have h5:(xs.map (·.1))[j]? =some (DataW.lit (.int .u8 (n:Int))):=by rw [hx2,List.getElem?_map,hj];rfl
 rw [List.getElem?_map,hy] at h5
 have hk:k=(n:Int):=by
  have h6:y.1=DataW.lit (.int .u8 (n:Int)):=Option.some.inj h5
  rw [e2] at h6
  simpa using h6
 have h7:=World.var?_cell hg0 aO j
 have h8:cs0.toList[j]? =some (.int .u8 k):=by
  have h9:=congrArg (fun l:List Value=>l[0]?) e1
  simpa using h9
 rw [hk] at h8
 have h10:cs0[j]? =some (.int .u8 (n:Int)):=by rw [←Array.getElem?_toList];exact h8
 rw [h10] at h7
 exact h7
theorem Lq (os:Os) (started:os.Started) (H:Type) (enc:TypeId×Value→H):
  ReturnsInHanded {} Tryz.checked os 8 .any (fun w args => (Rows.runnerStopsSpec.pre enc Tryz.prog Tryz.f8 [] false w args ∧ laidMetH Tryz.prog [("math/bits.deBruijn32tab", Rows.laid_math_bits_deBruijn32tab)] w) ∧ sizedMet enc Tryz.prog Tryz.f8 (OpenSpec.ofChange Rows.runnerStopsSpec) false w args) (Rows.runnerStopsSpec.post enc Tryz.prog Tryz.f8 false true false false) := by
 refine returnsInHanded_of_change_and (C := Tryz.checked) (X := fun w _ => laidMetH Tryz.prog [("math/bits.deBruijn32tab", Rows.laid_math_bits_deBruijn32tab)] w) (fun _ _ _ hh h => h.of_heap hh) AEB started BS Tryz.func8
  (ChangeSpec.witness_shaped (enc := enc) (C := Tryz.checked) (os := os) (X := fun w _ => laidMetH Tryz.prog [("math/bits.deBruijn32tab", Rows.laid_math_bits_deBruijn32tab)] w) false (World.doorLaid Tryz.prog 14 os) #[.slice none 0 0] 8 rfl (World.shaped_of_RefB BS BS) BS BS BS (nQ os _)) ?_
 intro W base args ds gs before ABl hW AGA _ hL _
 have hval:∀(j:Nat) t v,Tryz.f8.params[j]? =some t→args[j]? =some v→Value.okWide Tryz.prog W .any base t v:=ABl
 have hW':=hW
 obtain ⟨p,q,hA0,hV,hpq,hfz,hnd⟩:=hW
 have hA:DataW.TrodAll enc Tryz.prog W 0 (fun _=>true) true Tryz.f8.params.toList args.toList ds p:=hA0
 have nT:=hA
 rw [Tryz.params8] at hA hval
 obtain ⟨v0,d0,rfl,rfl,h0⟩:=trodAll_one nT
 obtain ⟨rfl,rfl⟩:=trodVars_none hV
 obtain ⟨a0,_,e0⟩:=oX (YQ Tryz.underlying22 Tryz.underlying3 BS) h0 (by obtain ⟨_,_,_,rfl⟩:=okWide_slice Tryz.underlying22 (hval 0 22 v0 rfl rfl);rfl)
 refine (Be.ry (SJ) rfl W [v0] (xB hL) ⟨e0,trivial⟩).mono fun e W' ⟨v,he,hv,hb⟩=> ?_
 subst he
 obtain rfl:v= .bool true:=hv
 exact ⟨_,rfl,ij jm BS rfl Tryz.underlying4 rfl nT (by rw [hpq];simp) hW' rfl hb⟩
theorem Ls:(Rows.runnerStopsRow.inPlace==Tryz.pinned.checked.prog.inPlace 8)=true:=by kernel_rfl
theorem Lt:(Rows.runnerStopsRow.unfollowed==Tryz.pinned.checked.prog.unfollowed 8)=true:=by kernel_rfl
theorem Lu:(Rows.runnerStopsRow.recurses==Tryz.pinned.checked.prog.recurses 8)=true:=by kernel_rfl
theorem Lv:(Rows.runnerStopsRow.named==Tryz.pinned.checked.prog.varsNamed 8)=true:=by kernel_rfl
theorem Mn:joinedFacts Tryz.pinned.checked.prog 8 Tryz.f8 Rows.runnerStopsSpec Rows.runnerStopsRow=true:=by
 unfold joinedFacts
 rw [Ls,Lt,Lu,Lv]
 kernel_rfl
theorem runnerStops_holds:Rows.RunnerStopsSaid:=
 OpenClaim.holds_of_wide 8 Tryz.f8 rfl rfl rfl rfl rfl rfl rfl ⟨rfl, rfl, rfl, rfl, rfl⟩ rfl rfl rfl rfl rfl BS Tryz.func8 Mn
  (of_decide_eq_true BS) (by unfold Func.isWrapper;first|(rw [if_pos (by decide+kernel)];kernel_rfl)|(rw [if_neg (by decide+kernel)];exact ⟨rfl,rfl⟩))
  (fun os started H enc _=>Lq os started H enc)
theorem Rj:Rows.runnerStopsRow.wfByText (OpenSpec.ofChange Rows.runnerStopsSpec)=true:=by kernel_rfl
theorem Rk:Tryz.pinned.checked.prog.mainIs=some (Rows.runnerStopsCard.stood.harness.1,Rows.runnerStopsCard.stood.harness.2.toList):=by kernel_rfl
theorem Rl : Tryz.prog.funcNamed "cipherplan/cipherplanlaw37.RunnerStops" = some 8 := by kernel_rfl
theorem Rm:false=Tryz.pinned.checked.prog.looks []:=by kernel_rfl
theorem Rn:false=Rows.runnerStopsRow.goesBy Tryz.pinned.checked.prog:=by kernel_rfl
theorem Ro:([22].all fun u=> !Tryz.prog.wantsStandIn u)=true:=by kernel_rfl
theorem runnerStops_card_holds:Rows.RunnerStopsCardSaid:=
 Claim7.holds_tied_plain_at .later [] [.data] true Rows.runnerStopsCard.stood.harness false runnerStops_holds (fun _ h => by cases h) Rj (fun _ h => by cases h) runnerStops_row_tie rfl ⟨rfl, rfl⟩ Rk rfl
  (fun f fn hf hfn=>by
   obtain rfl:f=8:=Option.some.inj (Rl.symm.trans hf)|>.symm
   obtain rfl:fn=Tryz.f8:=(Option.some.inj (Tryz.func8.symm.trans hfn)).symm
   exact ⟨Rm,fun j t ht=>by
    rw [Tryz.params8] at ht
    have hm:t∈[22]:=by simpa using Array.mem_of_getElem? ht
    exact (show Tryz.prog.wantsStandIn t=false by simpa using List.all_eq_true.1 Ro t hm)⟩)
  Rn
end Go.Proofs.YtmocaapoeefgkaaGreatDoor
