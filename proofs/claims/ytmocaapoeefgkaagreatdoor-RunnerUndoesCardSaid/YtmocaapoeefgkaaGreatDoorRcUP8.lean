/-
  Part 8 of the texts that prove this claim, merged.
-/
import Derived.Test.YtmocaapoeefgkaaGreatDoorRcUP7
set_option linter.all false
set_option maxRecDepth 40000
set_option maxHeartbeats 16000000
namespace Go.Proofs.YtmocaapoeefgkaaGreatDoor
open Go Go.RowKit Cp Go.Proofs.Tryz
theorem YC {e:Dp} {l:List BX} {i:Int}:(∀x∈(Jx e l i).1,0≤x∧x<(l.length:Nat))∧(Jx e l i).1.length≤24:=by
 unfold Jx
 split
 · exact Up
 split
 · exact Up
 split
 · exact Up
 ·
  rename_i Nc _
  refine ⟨fun x hx=> ?_,by have:=X7 (e.BW[i.toNat]?.getD Gq) l l.length;show (OL _ _ _).length≤24;omega⟩
  unfold OL at hx
  obtain ⟨j,hj,rfl⟩:=List.mem_map.1 hx
  have:=List.mem_range.1 (List.mem_filter.1 hj).1
  omega
theorem aZ {n:Int} {o:List (List Int)} {x:List Int} (h:(∀s∈o,∀y∈s,0≤y∧y<n)∧∀s∈o,s.length≤4096) (hx:∀y∈x,0≤y∧y<n) (hl:x.length≤4096):(∀s∈o++[x],∀y∈s,0≤y∧y<n)∧∀s∈o++[x],s.length≤4096:=by
 refine ⟨fun s hs=> ?_,fun s hs=> ?_⟩<;>rcases List.mem_append.1 hs with hs|hs
 · exact h.1 s hs
 · rw [List.mem_singleton] at hs;subst hs;exact hx
 · exact h.2 s hs
 · rw [List.mem_singleton] at hs;subst hs;exact hl
theorem i_ {n:Int} {o:List Int} {x:Int} (h:∀y∈o,0≤y∧y<n) (hx:0≤x∧x<n):∀y∈o++[x],0≤y∧y<n:=fun y hy=>by
 rcases List.mem_append.1 hy with hy|hy
 · exact h y hy
 · rw [List.mem_singleton] at hy;subst hy;exact hx
theorem jA {e:Dp} {l:List BX} {r:List BC} {d:List Int} {n:Nat} {i:Int} (hz:e.sz n) (hn:n≤800000) (hrl:r.length≤1000000):BG prog 251 [agg (CM e),Jf l r d,int i] (Cp.ex fun z:List (List Int)×Int=>fact (Lj ((l.length:Nat):Int) z.1) (Dz [sets z.1,int z.2])):=by
 refine fo func251 rfl ⟨rfl,rfl⟩ fun M0 w0=> ?_
 refine a2 ?_
 refine co rfl (Jn (S7 hz hn) rfl rfl rfl rfl) ?_
 refine ac ?_
 refine wk [8,4] rfl (Tr.seq ?_)
 obtain ⟨rel,zG⟩:∃rel,(Jx e l i).1=rel:=⟨_,rfl⟩
 have ia:∀x∈rel,0≤x∧x<(l.length:Nat):=zG ▸ YC.1
 have AHh:rel.length≤24:=zG ▸ YC.2
 refine Tr.re 8 rfl (Pr.le_of_eq (by rw [zG])) ?_
 refine ap ?_
 refine tp rfl (Jn (i9 (n:=((l.length:Nat):Int)) (l:=r) (s:=rel) hrl) rfl rfl rfl rfl) ?_
 refine TO.ex 35 rfl (fun z1=>TO.fact 35 rfl fun Ef=> ?_)
 refine ap ?_
 refine wk [10,8] rfl ?_
 refine ap ?_
 refine tp rfl (CL (ir (n:=((rel.length:Nat):Int)) (l:=z1.1) AA) rfl rfl rfl) ?_
 refine TO.ex 42 rfl (fun z2=>TO.fact 42 rfl fun Iv=> ?_)
 refine ap ?_
 refine ac ?_
 refine wk [46,13,12,8] rfl ?_
 refine Tr.cn rfl ?_ ?_<;>intro h1 q1
 refine ac ?_
 refine Tr.ret (Fin.AE (Fin.BT rfl (AM.tmp rfl Lr) (AM.tmp rfl Lr) ?_))
 · exact Yo
 have hl4:=Iv.len
 refine a3 ?_
 refine Tr.block (Tr.B5 51 1 (Tr.DE _ (kk [49,48,8] rfl) (fun (o:List (List Int)) (k:Nat) u=>[(50,int ((k:Nat):Int)),(14,Ad u (sets o))]) (fun (o:List (List Int)) (k:Nat) u=>Hp M0 w0 FO ([Aw 51 1 u])) (fun (o:List (List Int)) (k:Nat)=>(k≤z2.1.length∧o.length=k)∧(∀s∈o,∀y∈s,0≤y∧y<((l.length:Nat):Int))∧∀s∈o,s.length≤4096) (fun (o:List (List Int)) (k:Nat)=>z2.1.length-k) ([]) (0) (.slice none 0 0) (⟨⟨Nat.zero_le _,rfl⟩,fun s h=>FW,fun s h=>FW⟩) ⟨kq,⟨_,rfl,Bi rfl⟩,trivial⟩ (fun _ _ h=>h) ?_))
 rintro o k u ⟨⟨hk0,hol⟩,hou⟩
 refine ac ?_
 refine Tr.seq ?_
 refine Tr.cn rfl ?_ ?_<;>intro h2 q2
 have hk:k<z2.1.length:=AH h2
 obtain ⟨s,hs⟩:=at_ hk
 have hsr:=Iv.QD s (List.mem_of_getElem? hs)
 have hsw:=Iv.wid s (List.mem_of_getElem? hs)
 refine ac ?_
 refine Tr.seq (Tr.block (Tr.seq (Tr.Aj (co rfl (AD rfl underlying99 Gw vq vq AA (AX hs)) ?_))))
 refine a3 ?_
 refine Tr.block (Tr.B5 3 1 (Tr.DE _ (kk [55,54,50,49,48,14,8] rfl) (fun (x:List Int) (m:Nat) u2=>[(56,int ((m:Nat):Int)),(17,Ad u2 (ints x))]) (fun (x:List Int) (m:Nat) u2=>Hp M0 w0 FO ([Aw 3 1 u2,Aw 51 1 u])) (fun (x:List Int) (m:Nat)=>(m≤s.length∧x.length=m)∧∀y∈x,0≤y∧y<((l.length:Nat):Int)) (fun (x:List Int) (m:Nat)=>s.length-m) ([]) (0) (.slice none 0 0) (⟨⟨Nat.zero_le _,rfl⟩,fun s h=>FW⟩) ⟨kq,⟨_,rfl,Bi rfl⟩,trivial⟩ (fun _ _ h=>h) ?_))
 rintro x m u2 ⟨⟨hm0,hxl⟩,hxr⟩
 refine ac ?_
 refine Tr.seq ?_
 refine Tr.cn rfl ?_ ?_<;>intro h3 q3
 have hm:m<s.length:=AH h3
 obtain ⟨i2,hi2⟩:=at_ hm
 have hir:=hsr i2 (List.mem_of_getElem? hi2)
 obtain ⟨y,hy⟩:=at_ (l:=rel) (k:=i2.toNat) AA
 have hyr:=ia y (List.mem_of_getElem? hy)
 refine ac ?_
 refine Tr.seq (Tr.block (Tr.seq (Tr.Aj (co rfl (AD rfl underlying51 Bt vq vq AA (AX hi2)) ?_))))
 refine ac ?_
 refine ap ?_
 refine tp rfl (AD rfl underlying51 Bt vq vq AA (Bh hy)) ?_
 refine ap ?_
 refine TO.DT 0 rfl rfl AB (B7 rfl rfl rfl rfl underlying51 Bt G2 z3 G3 F4 (Ay BL Jo)) (fun v1=> ?_)
 refine ap ?_
 refine wk [56,55,54,50,49,48,17,14,8] rfl ?_
 refine ac ?_
 exact Fin.Bl (x++[y]) (m+1) v1 (⟨⟨⟨by omega,by simp;omega⟩,i_ hxr hyr⟩,by omega⟩) ⟨⟨_,rfl,AG m⟩,⟨_,rfl,BA DR⟩,kz⟩ (fun _ _ h=>h)
 have hme:=AJ h3
 refine ac ?_
 refine ap ?_
 refine tp rfl (AO (xs:=[.tmp 69]) (rows:=[[_]]) rfl rfl underlying99 Gw z51 rfl AB ⟨⟨Am,⟨_,rfl,Pr.le_trans (Ar _ _) (AY _)⟩⟩,trivial⟩ AB) ?_
 refine TO.DT 1 rfl rfl AB (B7 rfl rfl rfl rfl underlying99 Gw Wr z51 G3 F4 (Ay BL Jo)) (fun v2=> ?_)
 refine ap ?_
 refine wk [50,49,48,14,8] rfl ?_
 refine ac ?_
 refine Fin.drop 0 ?_
 exact Fin.Bl (o++[x]) (k+1) v2 (⟨⟨⟨by omega,by simp;omega⟩,aZ hou hxr AA⟩,by omega⟩) ⟨⟨_,rfl,AG k⟩,⟨_,rfl,BA DR⟩,kz⟩ (fun _ _ h=>h)
 have bB:=AJ h2
 refine a2 ?_
 refine Tr.ret (Fin.BT rfl (AM.tmp rfl Lr) (AM.tmp rfl Lr) ?_)
 · exact Ax (_,_) (A_ ⟨hou.1,(by show o.length≤4096;omega),hou.2⟩ (Az ⟨Ar _ _,Lr,trivial⟩))
theorem YD {e:Dp} {l:List BX} {r:List BC} {d:List Int} (hf:e.fits) (hrl:r.length≤1000000):BG prog 214 [agg (CM e),Jf l r d] (Cp.ex fun z:Int=>fact (z=0→FQ e=true∧MQ e.Bv.length l r d) (int z)):=by
 refine fo func214 rfl ⟨rfl,rfl⟩ fun M0 w0=> ?_
 refine a2 ?_
 refine co rfl (Cq (D6 hf) rfl rfl) ?_
 refine an ?_ ?_<;>intro h1 q1
 refine a2 ?_
 · exact PK
 have VT:FQ e=true:=by cases h_:FQ e with|true=>rfl|false=>exact absurd h1 Md
 refine ac ?_
 refine ap ?_
 refine tp rfl (CL (qC hrl) rfl rfl rfl) ?_
 refine TO.ex 10 rfl (fun z1=>TO.fact 10 rfl fun Ef=> ?_)
 refine ap ?_
 · repeat' first|exact Ax _ (A_ (fun h_=>absurd h_ AB) Lr)|exact Ax 0 (A_ (fun _=>⟨VT,Ef CN⟩) Lr)|refine ac ?_|(refine Tr.cn rfl ?_ ?_<;>intro h q)
def qF (d s:List Int) (fr:Int):Int:=s.foldl (fun a i=>max a (d.getD i.toNat 0)) fr
theorem jB {d s:List Int} {fr i:Int} {k:Nat} (h:s[k]? =some i):qF d (s.take (k+1)) fr=max (qF d (s.take k) fr) (d.getD i.toNat 0):=by unfold qF;rw [List.take_add_one,h,List.foldl_append];rfl
theorem MS {l:List BX} {r:List BC} {d s:List Int} {fr:Int} (hs:∀i∈s,0≤i∧i<(d.length:Nat)):BG prog 216 [Jf l r d,ints s,int fr] (int (qF d s fr)):=by
 refine fo func216 rfl ⟨rfl,rfl⟩ fun M0 w0=>(Tr.Cm 1 rfl fun Fo=> ?_)
 refine a3 ?_
 refine Tr.block (Tr.BH _ (kk [12,11,3] rfl) (fun k:Nat=>[(13,int ((k:Nat):Int)),(7,int (qF d (s.take k) fr))]) (fun k:Nat=>k≤(s).length) (fun k:Nat=>(s).length-k) 0 (Nat.zero_le _) ⟨kq,kz⟩ ?_)
 rintro k BU
 refine ac ?_
 refine Tr.seq ?_
 refine Tr.cn rfl ?_ ?_<;>intro h1 q1
 have Af:k<(s).length:=AH h1
 obtain ⟨i,Ah⟩:=at_ Af
 have hir:=hs i (List.mem_of_getElem? Ah)
 have hdi:=Dy (l:=d) (i:=i.toNat) AA
 refine ac ?_
 refine Tr.seq (Tr.block (Tr.seq (Tr.Aj (co rfl (AD rfl underlying51 Bt vq vq AA (AX Ah)) ?_))))
 refine a2 ?_
 refine co rfl (AD rfl underlying22 Bt vq vq AA (Bh hdi)) (co rfl (Fw rfl C8 rfl) (co rfl (Jz rfl vq vq) ?_))
 refine ac ?_
 refine wk [13,12,11,7,3] rfl ?_
 refine ac ?_
 exact Fin.AL (k+1) ⟨Af,by omega⟩ ⟨⟨_,rfl,AG k⟩,⟨_,rfl,int_eq (by rw [jB Ah])⟩,kz⟩
 have BK:k=(s).length:=by have:=AJ h1;omega
 subst BK
 rw [List.take_length]
 refine a3 ?_
 · exact Lr
structure AGX (n:Int) (L:List (List (List Int))):Prop where
 QD:∀t∈L,Lj n t
 len:L.length≤1000000
abbrev wS (L:List (List (List Int))):Pr:=slice 1 (L.map fun t=>[sets t])
theorem jC {n:Int} {L:List (List (List Int))} {t:List (List Int)} (h:∀t∈L,Lj n t) (ht:Lj n t):∀u∈L++[t],Lj n u:=fun u hu=>by
 rcases List.mem_append.1 hu with hu|hu
 · exact h u hu
 · rw [List.mem_singleton] at hu;subst hu;exact ht
theorem YE {e:Dp} {l:List BX} {r:List BC} {d:List Int} {n:Nat} (hz:e.sz n) (hn:n≤800000) (hrl:r.length≤1000000):BG prog 215 [agg (CM e),Jf l r d] (Cp.ex fun z:List (List (List Int))×Int=>fact (AGX ((l.length:Nat):Int) z.1) (Dz [wS z.1,int z.2])):=by
 refine fo func215 rfl ⟨rfl,rfl⟩ fun M0 w0=> ?_
 have hlg:=hz.lg
 iterate 4 refine ac ?_
 refine Tr.block (Tr.B5 99 1 (Tr.Fc _ (kk [13,3,2] rfl) (fun (o:List (List (List Int))) (m:Int) (k:Nat) u=>[(14,int ((k:Nat):Int)),(7,int m),(6,Ad u (wS o))]) (fun (o:List (List (List Int))) (m:Int) (k:Nat) u=>Hp M0 w0 FO ([Aw 99 1 u])) (fun (o:List (List (List Int))) (m:Int) (k:Nat)=>(k≤e.BW.length∧o.length=k)∧(0≤m∧m≤4096)∧∀t∈o,Lj ((l.length:Nat):Int) t) (fun (o:List (List (List Int))) (m:Int) (k:Nat)=>e.BW.length-k) ([]) (0) (0) (.slice none 0 0) (⟨⟨Nat.zero_le _,rfl⟩,⟨by omega,by omega⟩,fun s h=>FW⟩) ⟨kq,kq,⟨_,rfl,Bi rfl⟩,trivial⟩ (fun _ _ h=>h) ?_))
 rintro o m k u ⟨⟨hk0,hol⟩,hm,hou⟩
 refine ac ?_
 refine Tr.seq ?_
 refine Tr.cn rfl ?_ ?_<;>intro h1 q1
 have hk:k<e.BW.length:=AH h1
 refine a2 ?_
 refine ap ?_
 refine tp rfl (Jn (jA hz hn hrl) rfl rfl rfl rfl) ?_
 refine TO.ex 21 rfl (fun z1=>TO.fact 21 rfl fun Ef=> ?_)
 have hzl:=Ef.len
 refine ap ?_
 refine wk [14,13,10,9,7,6,3,2] rfl ?_
 refine ac ?_
 refine ag ?_ ?_<;>intro h2 q2
 refine ac ?_
 refine wk [33,14,13,9,7,6,3,2] rfl ?_
 refine ac ?_
 refine Tr.ret (Fin.AE (Fin.AU (Fin.AE (Fin.AE (Fin.AU (Fin.AE (Fin.BT rfl (AM.tmp rfl Lr) (AM.tmp rfl Lr) ?_)))))))
 · exact j6
 refine ac ?_
 refine wk [33,14,13,9,7,6,3,2] rfl ?_
 refine Tr.cn rfl ?_ ?_<;>intro h3 q3
 refine ac ?_
 refine Tr.ret (Fin.AE (Fin.AU (Fin.AE (Fin.AE (Fin.AU (Fin.AE (Fin.BT rfl (AM.tmp rfl Lr) (AM.tmp rfl Lr) ?_)))))))
 · exact j6
 refine ac ?_
 refine ap ?_
 refine TO.DT 0 rfl rfl AB (B7 rfl rfl rfl rfl underlying274 rN AEw z99 G3 F4 (Ay BL Jo)) (fun v1=> ?_)
 refine ap ?_
 refine ac ?_
 exact Fin.EP (o++[z1.1]) (m+((z1.1.length:Nat):Int)) (k+1) v1 (⟨⟨⟨by omega,by simp;omega⟩,⟨by omega,by omega⟩,jC hou Ef⟩,by omega⟩) ⟨⟨_,rfl,AG k⟩,kq,⟨_,rfl,BA DR⟩,kz⟩ (fun _ _ h=>h)
 have bB:=AJ h1
 refine a2 ?_
 refine Tr.ret (Fin.BT rfl (AM.tmp rfl Lr) (AM.tmp rfl Lr) ?_)
 · exact Ax (_,_) (A_ ⟨hou,(by show o.length≤1000000;omega)⟩ (Az ⟨Ar _ _,Lr,trivial⟩))
abbrev zH:Pr:=agg [anyI,anyI]
theorem u9 {φ:Prop}:Pr.le (Cp.ex fun z:Int×Int×Int=>fact φ (Dz [agg [int z.1,int z.2.1],int z.2.2])) (Dz [zH,anyI]):=fun M w v ⟨z,_,h⟩=>Az (ps:=[agg [int z.1,int z.2.1],int z.2.2]) (qs:=[zH,anyI]) ⟨BR (ps:=[int z.1,int z.2.1]) (qs:=[anyI,anyI]) ⟨Ax _ (Pr.le_refl _),Ax _ (Pr.le_refl _),trivial⟩,Ax _ (Pr.le_refl _),trivial⟩ M w v h
abbrev wT:Pr:=Cp.ex fun z:List Int=>fact (z.length≤1000000) (ints z)
theorem zI:Pr.le (Cp.ex fun z:List Int×Int=>fact (z.1.length≤1000) (Dz [ints z.1,int z.2])) (Dz [wT,anyI]):=fun M w v ⟨z,hz,h⟩=>Az (ps:=[ints z.1,int z.2]) (qs:=[wT,anyI]) ⟨Ax z.1 (A_ AA (Pr.le_refl _)),Ax _ (Pr.le_refl _),trivial⟩ M w v h
theorem aa {e:Dp} {l:List BX} {r:List BC} {d:List Int} {n:Nat} {s:List Int} {i fr Nz:Int} (hz:e.sz n) (hn:n≤800000) (hc:∀c∈l,c.Cy.fits∧c.Cy.small) (hs:∀i∈s,0≤i∧i<(d.length:Nat)) (Z1:s.length≤4096)  :BG prog 249 [agg (CM e),Jf l r d,int i,ints s,int fr,int Nz] (Dz [zH,ER]):=by
 refine fo func249 rfl ⟨rfl,rfl⟩ fun M0 w0=> ?_
 have hxf:=(e7 (l:=l) (s:=s) hz hc).fits AA
 refine Tr.seq (Tr.An (tp rfl (Bb rfl Cs) (tp rfl (Bb rfl Cs) ?_)))
 refine Tl rfl rfl rfl rfl Jm Fg (fun b1=> ?_)
 refine ao ?_
 refine ao ?_
 refine tp rfl (Jn (MR hz hn hc) rfl rfl rfl rfl) ?_
 refine ao ?_
 refine Tl rfl rfl rfl rfl z31 IW (fun b2=> ?_)
 refine sf 0 14 ⟨rfl,rfl,rfl⟩ rfl rfl rfl rfl ?_
 refine ao ?_
 refine wk [15,14,12,7,5,4,3,2] rfl ?_
 refine an ?_ ?_<;>intro h1 q1
 refine ao ?_
 refine TO.AK 0 rfl rfl rfl vq Cs rfl CI rfl rfl ?_
 refine ao ?_
 refine Tr.ret (Fin.AE (Fin.BT rfl (AM.cell 0 rfl rfl C2 CI rfl Lr) (AM.tmp rfl Lr) ?_))
 refine Az ⟨?_,?_,trivial⟩
 · exact BR ⟨Ax _ Lr,Ax _ Lr,trivial⟩
 · exact BN
 refine ac ?_
 refine Tr.seq (Tr.pad (Tr.rx ?_))
 refine ax ?_
 refine xo rfl (fun _=>Jn (MS hs) rfl rfl rfl rfl) (xm rfl (xo rfl (fun _=>Ag.le (ZS (Ov hxf) rfl rfl rfl rfl rfl) u9) ?_))
 refine ax ?_
 refine Cx.ef 0 rfl rfl AB (CC rfl rfl AB rfl Jm Fg) (Cx.DP 0 rfl rfl (CZ rfl rfl rfl rfl Cs CI rfl rfl) (xm rfl ?_))
 refine Cx.nil ⟨by kernel_rfl,?_⟩
 refine BE.open_ 0 16 rfl rfl (fun v1=> ?_)
 refine BE.done YV (Fin.LX 16 0 _ rfl rfl (fun _=>rfl) (fun b3=> ?_))
 refine Fin.go (wk [17,16,12] rfl ?_)
 refine ao ?_
 refine tp rfl (pP rfl (VL.le vq aL) (VL.le vq (DG _ _))) (TO.AK 1 rfl rfl rfl vq Cs rfl CI rfl rfl ?_)
 refine ao ?_
 refine Tr.drop 0 (Tr.ret (Fin.BT rfl (AM.cell 0 rfl rfl C2 CI rfl Lr) (AM.tmp rfl Lr) ?_))
 refine Az ⟨?_,?_,trivial⟩
 · exact Lr
 · exact Lr
abbrev qG (c:Int×List Int):List Pr:=[int c.1,ints c.2,anyI,anyI]
abbrev qH:Pr:=agg [Cp.ex fun L:List (Int×List Int)=>slice 4 (L.map qG)]
abbrev ADG:Pr:=agg [anyI,Cp.ex fun s:List Int=>ints s,anyI,anyI]
theorem D8:Pr.le (agg [is (.slice none 0 0)]) qH:=BR ⟨Ax [] (AQ 4),trivial⟩
theorem MX:Pr.le (agg [is (.int .i64 0),is (.slice none 0 0),is (.int .i64 0),is (.int .i64 0)]) ADG:=BR ⟨Ax _ (Pr.le_refl _),Ax [] (AQ 1),Ax _ (Pr.le_refl _),Ax _ (Pr.le_refl _),trivial⟩
theorem jD {e:Dp} {l:List BX} {r:List BC} {d:List Int} {n:Nat} {fr Nz:Int} (hz:e.sz n) (hn:n≤800000) (hc:∀c∈l,c.Cy.fits∧c.Cy.small) (hrl:r.length≤1000000):BG prog 213 [agg (CM e),Jf l r d,int fr,int Nz] (Cp.ex fun z:Int=>fact (z=0→FQ e=true∧MQ e.Bv.length l r d) (Dz [qH,ADG,ER,int z])):=by
 refine fo func213 rfl ⟨rfl,rfl⟩ fun M0 w0=> ?_
 have hf:=hz.fits AA
 refine Tr.seq (Tr.An (tp rfl (Bb rfl Cs) (tp rfl (Bb rfl Cs) ?_)))
 refine Tl rfl rfl rfl rfl z107 Ed (fun b1=> ?_)
 refine Tl rfl rfl rfl rfl sN RD (fun b2=> ?_)
 refine ao ?_
 refine ao ?_
 refine tp rfl (CL (YD hf hrl) rfl rfl rfl) ?_
 refine TO.ex 24 rfl (fun z1=>TO.fact 24 rfl fun Ef=> ?_)
 refine ao ?_
 refine wk [12,9,8,5,4,3,2] rfl ?_
 refine an ?_ ?_<;>intro h1 q1
 refine ao ?_
 refine TO.AK 1 rfl rfl rfl vq Cs rfl Bo rfl rfl (TO.AK 0 rfl rfl rfl vq Cs rfl F3 rfl rfl ?_)
 refine ao ?_
 refine wk [11,10,9,8] rfl (Tr.ret (Fin.AE (Fin.Ou rfl (AM.cell 1 rfl rfl CS Bo rfl Lr) (AM.cell 0 rfl rfl J8 F3 rfl Lr) (AM.tmp rfl Lr) (AM.tmp rfl Lr) ?_)))
 · exact Ax z1 (A_ (fun h_=>absurd h_ AA) (Az ⟨D8,MX,Ax _ Lr,Lr,trivial⟩))
 have hz0:z1=0:=by have:=q1;omega
 obtain ⟨VT,hfp⟩:=Ef hz0
 have OI:=hfp.dl
 refine ac ?_
 refine ag ?_ ?_<;>intro h2 q2
 refine ac ?_
 refine wk [43,9,8,5,4,3,2] rfl (Tr.cond rfl (fun _=> ?_) (fun h=>nomatch h))
 refine Tr.seq (Tr.An (tp rfl (Ak (rows:=[]) rfl JY Ed trivial rfl) (tp rfl (Ak (rows:=[]) rfl cj RD trivial rfl) (TO.AK 1 rfl rfl rfl vq Cs rfl Bo rfl rfl (TO.AK 0 rfl rfl rfl vq Cs rfl F3 rfl rfl ?_)))))
 refine ao ?_
 refine Tr.ret (Fin.AE (Fin.Ou rfl (AM.cell 1 rfl rfl CS Bo rfl Lr) (AM.cell 0 rfl rfl J8 F3 rfl Lr) (AM.tmp rfl Lr) (AM.tmp rfl Lr) ?_))
 · exact UX
 refine ag ?_ ?_<;>intro h3 q3
 refine ac ?_
 refine wk [43,9,8,5,4,3,2] rfl (Tr.cond rfl (fun _=> ?_) (fun h=>nomatch h))
 refine Tr.seq (Tr.An (tp rfl (Ak (rows:=[]) rfl JY Ed trivial rfl) (tp rfl (Ak (rows:=[]) rfl cj RD trivial rfl) (TO.AK 1 rfl rfl rfl vq Cs rfl Bo rfl rfl (TO.AK 0 rfl rfl rfl vq Cs rfl F3 rfl rfl ?_)))))
 refine ao ?_
 refine Tr.ret (Fin.AE (Fin.Ou rfl (AM.cell 1 rfl rfl CS Bo rfl Lr) (AM.cell 0 rfl rfl J8 F3 rfl Lr) (AM.tmp rfl Lr) (AM.tmp rfl Lr) ?_))
 · exact UX
 refine ag ?_ ?_<;>intro h4 q4
 refine ac ?_
 refine wk [43,9,8,5,4,3,2] rfl (Tr.cond rfl (fun _=> ?_) (fun h=>nomatch h))
 refine Tr.seq (Tr.An (tp rfl (Ak (rows:=[]) rfl JY Ed trivial rfl) (tp rfl (Ak (rows:=[]) rfl cj RD trivial rfl) (TO.AK 1 rfl rfl rfl vq Cs rfl Bo rfl rfl (TO.AK 0 rfl rfl rfl vq Cs rfl F3 rfl rfl ?_)))))
 refine ao ?_
 refine Tr.ret (Fin.AE (Fin.Ou rfl (AM.cell 1 rfl rfl CS Bo rfl Lr) (AM.cell 0 rfl rfl J8 F3 rfl Lr) (AM.tmp rfl Lr) (AM.tmp rfl Lr) ?_))
 · exact UX
 refine ac ?_
 refine wk [43,9,8,5,4,3,2] rfl ?_
 refine Tr.cn rfl ?_ ?_<;>intro h5 q5
 refine ao ?_
 refine TO.AK 1 rfl rfl rfl vq Cs rfl Bo rfl rfl (TO.AK 0 rfl rfl rfl vq Cs rfl F3 rfl rfl ?_)
 refine ao ?_
 refine Tr.ret (Fin.AE (Fin.Ou rfl (AM.cell 1 rfl rfl CS Bo rfl Lr) (AM.cell 0 rfl rfl J8 F3 rfl Lr) (AM.tmp rfl Lr) (AM.tmp rfl Lr) ?_))
 · exact UX
 refine ac ?_
 refine ao ?_
 refine tp rfl (CL (YE hz hn hrl) rfl rfl rfl) ?_
 refine TO.ex 49 rfl (fun z2=>TO.fact 49 rfl fun Iv=> ?_)
 refine ao ?_
 refine wk [14,13,9,8,5,4,3,2] rfl ?_
 refine an ?_ ?_<;>intro h6 q6
 refine ao ?_
 refine TO.AK 1 rfl rfl rfl vq Cs rfl Bo rfl rfl (TO.AK 0 rfl rfl rfl vq Cs rfl F3 rfl rfl ?_)
 refine ao ?_
 refine wk [11,10,9,8] rfl (Tr.ret (Fin.AE (Fin.Ou rfl (AM.cell 1 rfl rfl CS Bo rfl Lr) (AM.cell 0 rfl rfl J8 F3 rfl Lr) (AM.tmp rfl Lr) (AM.tmp rfl Lr) ?_)))
 · exact Ax _ (A_ (fun _=>⟨VT,hfp⟩) (Az ⟨D8,MX,Ax _ Lr,Lr,trivial⟩))
 refine ac ?_
 refine Tr.seq (Tr.An ?_)
 refine Tl rfl rfl rfl rfl z107 Ed (fun b3=> ?_)
 refine ao ?_
 refine ac ?_
 refine wk [59,58,57,15,9,8,5,4,3,2] rfl (Tr.block (Tr.HY 0 [Ad (.slice none 0 0) (slice 4 (([]:List (Int×List Int)).map qG))] rfl ⟨Bi rfl,trivial⟩ (Tr.B5 270 4 (Tr.DE _ (kk [58,57,15,9,8,5,4,3,2] rfl) (fun (q:List (Int×List Int)) (k:Nat) v=>[(59,int ((k:Nat):Int))]) (fun (q:List (Int×List Int)) (k:Nat) v=>Hp M0 w0 FO ([Aw 270 4 v,AF true b3 107 [Ad v (slice 4 (q.map qG))],AF true b2 270 (([.int .i64 0,.slice none 0 0,.int .i64 0,.int .i64 0]:List Value).map is),AF true b1 107 (([.slice none 0 0]:List Value).map is)])) (fun (q:List (Int×List Int)) (k:Nat)=>k≤z2.1.length∧q.length≤4096*k) (fun (q:List (Int×List Int)) (k:Nat)=>z2.1.length-k) ([]) (0) (.slice none 0 0) (⟨Nat.zero_le _,by simp⟩) kz (fun _ _ h=>h) ?_))))
 rintro q k v ⟨hk0,hql⟩
 refine ac ?_
 refine Tr.seq ?_
 refine Tr.cn rfl ?_ ?_<;>intro h7 q7
 have hk:k<z2.1.length:=AH h7
 obtain ⟨t,ht⟩:=at_ hk
 have hts:=Iv.QD t (List.mem_of_getElem? ht)
 have htl:=hts.len
 have hzl:=Iv.len
 refine a2 ?_
 refine co rfl (AD rfl underlying274 rN vq vq AA (AX ht)) ?_
 refine ac ?_
 refine wk [59,58,57,17,16,15,9,8,5,4,3,2] rfl ?_
 refine ac ?_
 refine wk [66,65,64,59,58,57,16,15,9,8,5,4,3,2] rfl (Tr.block (Tr.DE _ (kk [65,64,59,58,57,16,15,9,8,5,4,3,2] rfl) (fun (q2:List (Int×List Int)) (m:Nat) u=>[(66,int ((m:Nat):Int))]) (fun (q2:List (Int×List Int)) (m:Nat) u=>Hp M0 w0 FO ([Aw 270 4 u,AF true b3 107 [Ad u (slice 4 (q2.map qG))],AF true b2 270 (([.int .i64 0,.slice none 0 0,.int .i64 0,.int .i64 0]:List Value).map is),AF true b1 107 (([.slice none 0 0]:List Value).map is)])) (fun (q2:List (Int×List Int)) (m:Nat)=>m≤t.length∧q2.length≤4096*k+m) (fun (q2:List (Int×List Int)) (m:Nat)=>t.length-m) (q) (0) v (⟨Nat.zero_le _,by omega⟩) kz (fun _ _ h=>h) ?_))
 rintro q2 m u ⟨hm0,AHi⟩
 refine ac ?_
 refine wk [67,66,65,64,59,58,57,16,15,9,8,5,4,3,2] rfl (Tr.seq ?_)
 refine Tr.cn rfl ?_ ?_<;>intro h8 q8
 have hm:m<t.length:=AH h8
 obtain ⟨x,hx⟩:=at_ hm
 have hsd:∀i∈x,0≤i∧i<(d.length:Nat):=fun i hi=>by have:=hts.QD x (List.mem_of_getElem? hx) i hi;omega
 have hsw:=hts.wid x (List.mem_of_getElem? hx)
 refine ac ?_
 refine wk [66,65,64,59,58,57,16,15,9,8,5,4,3,2] rfl (Tr.seq (Tr.block (Tr.seq (Tr.Aj (co rfl (AD rfl underlying99 Gw vq vq AA (AX hx)) ?_)))))
 refine ac ?_
 refine wk [66,65,64,59,58,57,19,16,15,9,8,5,4,3,2] rfl ?_
 refine ac ?_
 refine co rfl (Jn (MS hsd) rfl rfl rfl rfl) ?_
 refine ac ?_
 refine wk [75,66,65,64,59,58,57,19,16,15,9,8,5,4,3,2] rfl ?_
 refine Tr.cn rfl ?_ ?_<;>intro h9 q9
 refine ac ?_
 refine wk [66,65,64,59,58,57,16,15,9,8,5,4,3,2] rfl ?_
 refine ac ?_
 exact Fin.Bl (q2) (m+1) u (⟨⟨by omega,by omega⟩,by omega⟩) ⟨⟨_,rfl,AG m⟩,kz⟩ (fun _ _ h=>h)
 refine ac ?_
 refine wk [66,65,64,59,58,57,19,16,15,9,8,5,4,3,2] rfl ?_
 refine ao ?_
 refine tp rfl (AR rfl (aa hz hn hc hsd hsw) ⟨kq,kz⟩) ?_
 refine ao ?_
 refine Tl rfl rfl rfl rfl Jm Fg (fun b4=> ?_)
 refine sf 0 20 ⟨rfl,rfl,rfl⟩ rfl rfl rfl rfl ?_
 refine ao ?_
 refine wk [66,65,64,59,58,57,21,20,19,16,15,9,8,5,4,3,2] rfl (Tr.seq (Tr.seq (Tr.ex 21 rfl fun x21=> ?_)))
 refine ac ?_
 refine wk [87,66,65,64,59,58,57,20,19,16,15,9,8,5,4,3,2] rfl ?_
 refine Tr.cn rfl ?_ ?_<;>intro h10 P7
 refine ao ?_
 refine TO.AK 3 rfl rfl rfl vq Cs rfl Bo rfl rfl (TO.AK 2 rfl rfl rfl vq Cs rfl F3 rfl rfl ?_)
 refine ao ?_
 refine wk [11,10,9,8] rfl (Tr.ret (Fin.AE (Fin.AU (Fin.AE (Fin.AE (Fin.AU (Fin.AU (Fin.AE (Fin.AE (Fin.AU (Fin.AE (Fin.Ou rfl (AM.cell 3 rfl rfl CS Bo rfl Lr) (AM.cell 2 rfl rfl J8 F3 rfl Lr) (AM.tmp rfl Lr) (AM.tmp rfl Lr) ?_))))))))))))
 · exact Ax 0 (A_ (fun _=>⟨VT,hfp⟩) (Az ⟨D8,BR ⟨Ax _ Lr,Ax _ Lr,Ax _ Lr,Ax _ Lr,trivial⟩,Ax _ Lr,Lr,trivial⟩))
 refine ac ?_
 refine wk [66,65,64,59,58,57,20,19,16,15,9,8,5,4,3,2] rfl ?_
 refine ao ?_
 refine TO.DT 0 rfl rfl AB (B7 rfl rfl rfl rfl underlying105 F3 ABJ sN G3 F4 (Ay BL Jo)) (fun v1=> ?_)
 refine tp rfl (AW rfl cW vq) (TO.AK 1 rfl rfl rfl vq My rfl AA2 rfl rfl ?_)
 refine ao ?_
 refine wk [66,65,64,59,58,57,16,15,9,8,5,4,3,2] rfl ?_
 refine ac ?_
 refine Fin.HY 1 [Ad v1 (slice 4 ((q2++[(((k:Nat):Int),x)]).map qG))] rfl ⟨BA DR,trivial⟩ ?_
 exact Fin.Bl (q2++[(((k:Nat):Int),x)]) (m+1) v1 (⟨⟨by omega,by simp;omega⟩,by omega⟩) ⟨⟨_,rfl,AG m⟩,kz⟩ (fun _ _ h=>h)
 have hme:=AJ h8
 refine ac ?_
 refine wk [59,58,57,15,9,8,5,4,3,2] rfl ?_
 refine ac ?_
 exact Fin.Bl (q2) (k+1) u (⟨⟨by omega,by omega⟩,by omega⟩) ⟨⟨_,rfl,AG k⟩,kz⟩ (fun _ _ h=>h)
 have bB:=AJ h7
 refine ac ?_
 refine ao ?_
 refine TO.AK 3 rfl rfl rfl vq Cs rfl Bo rfl rfl (TO.AK 2 rfl rfl rfl vq Cs rfl F3 rfl rfl ?_)
 refine ao ?_
 refine wk [11,10,9,8] rfl (Tr.ret (Fin.Ou rfl (AM.cell 3 rfl rfl CS Bo rfl Lr) (AM.cell 2 rfl rfl J8 F3 rfl Lr) (AM.tmp rfl Lr) (AM.tmp rfl Lr) ?_))
 · exact Ax 0 (A_ (fun _=>⟨VT,hfp⟩) (Az ⟨BR ⟨Ax _ (Ar _ _),trivial⟩,MX,Ax _ Lr,Lr,trivial⟩))
theorem jE {e:Dp} {l:List BX} {r:List BC} {d:List Int} {n:Nat} {fr Nz:Int} (hz:e.sz n) (hn:n≤800000) (hc:∀c∈l,c.Cy.fits∧c.Cy.small) (hrl:r.length≤1000000):BG prog 176 [agg (CM e),Jf l r d,int fr,int Nz] (Cp.ex fun z:Int=>fact (z=0→FQ e=true∧MQ e.Bv.length l r d) (Dz [qH,int z])):=by
 refine fo func176 rfl ⟨rfl,rfl⟩ fun M0 w0=>(Tr.seq (Tr.An (tp rfl (Bb rfl Cs) (tp rfl (Bb rfl Cs) ?_))))
 refine Tl rfl rfl rfl rfl z107 Ed (fun b1=> ?_)
 refine ao ?_
 refine ao ?_
 refine tp rfl (ZS (jD hz hn hc hrl) rfl rfl rfl rfl rfl) ?_
 refine TO.ex 19 rfl (fun z1=>TO.fact 19 rfl fun Ef=> ?_)
 refine ao ?_
 refine Tl rfl rfl rfl rfl z107 Ed (fun b2=> ?_)
 refine Tl rfl rfl rfl rfl sN RD (fun b3=> ?_)
 refine sf 1 10 ⟨rfl,rfl,rfl⟩ rfl rfl rfl rfl ?_
 refine sf 0 11 ⟨rfl,rfl,rfl⟩ rfl rfl rfl rfl ?_
 refine ao ?_
 refine wk [13,12,10,8] rfl ?_
 refine an ?_ ?_<;>intro h1 q1
 refine ao ?_
 refine TO.AK 0 rfl rfl rfl vq Cs rfl Bo rfl rfl ?_
 refine ao ?_
 refine Tr.ret (Fin.AE (Fin.BT rfl (AM.cell 0 rfl rfl CS Bo rfl Lr) (AM.tmp rfl Lr) ?_))
 · exact Ax z1 (A_ (fun h_=>absurd h_ AA) (Az ⟨D8,Lr,trivial⟩))
 have hz0:z1=0:=by have:=q1;omega
 refine ac ?_
 refine Tr.seq (Tr.seq (Tr.ex 12 rfl fun x12=> ?_))
 refine an ?_ ?_<;>intro h2 q2
 refine ao ?_
 refine TO.AK 0 rfl rfl rfl vq Cs rfl Bo rfl rfl ?_
 refine ao ?_
 refine Tr.ret (Fin.AE (Fin.BT rfl (AM.cell 0 rfl rfl CS Bo rfl Lr) (AM.tmp rfl Lr) ?_))
 · exact Ax 42 (A_ (fun h_=>absurd h_ AB) (Az ⟨D8,Lr,trivial⟩))
 refine ac ?_
 refine ao ?_
 refine TO.AK 0 rfl rfl rfl vq Cs rfl Bo rfl rfl ?_
 refine ao ?_
 refine Tr.ret (Fin.BT rfl (AM.cell 0 rfl rfl CS Bo rfl Lr) (AM.tmp rfl Lr) ?_)
 · exact Ax 0 (A_ (fun _=>Ef hz0) (Az ⟨Lr,Lr,trivial⟩))
theorem WJ {e:Dp} {l:List BX} {r:List BC} {d:List Int} {n:Nat} {s:List Int} {g i:Int} (hz:e.sz n) (hn:n≤800000) (hc:∀c∈l,c.Cy.fits∧c.Cy.small) (Z1:s.length≤4096) (hi:0≤i∧i<(d.length:Nat)):BG prog 218 [agg (CM e),Jf l r d,int g,ints s,int i,NN,SL,WC] (ER):=by
 refine fo func218 rfl ⟨rfl,rfl⟩ fun M0 w0=> ?_
 have hxf:=(e7 (l:=l) (s:=s) hz hc).fits AA
 have hwl:=N7 s i true
 have hyf:=(e7 (l:=l) (s:=Dq s i true) hz hc).fits AA
 have hdi:=Dy (l:=d) (i:=i.toNat) AA
 refine ac ?_
 refine ao ?_
 refine tp rfl (Jn (MR hz hn hc) rfl rfl rfl rfl) ?_
 refine ao ?_
 refine Tl rfl rfl rfl rfl z31 IW (fun b1=> ?_)
 refine sf 0 17 ⟨rfl,rfl,rfl⟩ rfl rfl rfl rfl ?_
 refine ao ?_
 refine wk [18,17,15,13,9,8,6,4,3,2] rfl (Tr.seq (Tr.pad (Tr.rx ?_)))
 refine ax ?_
 refine xo rfl (fun _=>Jn (G4 AA) rfl rfl rfl rfl) (xo rfl (fun _=>Jn (MR hz hn hc) rfl rfl rfl rfl) ?_)
 refine ax ?_
 refine Cx.ef 0 rfl rfl AB (CC rfl rfl AB rfl z31 IW) (Cx.DP 0 rfl rfl (CZ rfl rfl rfl rfl Cs De rfl rfl) (xm rfl ?_))
 refine Cx.nil ⟨by kernel_rfl,?_⟩
 refine BE.open_ 0 19 rfl rfl (fun v1=> ?_)
 refine BE.done al1 (Fin.LX 19 0 _ rfl rfl (fun _=>rfl) (fun b2=> ?_))
 refine Fin.go (wk [20,19,18,17,15,13,9,6,4,2] rfl ?_)
 refine ag ?_ ?_<;>intro h1 q1
 refine ac ?_
 refine wk [46,19,17,15,13,9,6,4,2] rfl ?_
 refine ac ?_
 refine Tr.drop 0 ?_
 refine ac ?_
 · exact BN
 refine ac ?_
 refine wk [46,19,17,15,13,9,6,4,2] rfl ?_
 refine Tr.cn rfl ?_ ?_<;>intro h2 q2
 refine ac ?_
 refine Tr.drop 0 ?_
 refine ac ?_
 · exact BN
 refine a2 ?_
 refine co rfl (AD rfl underlying22 Bt vq vq AA (Bh hdi)) (co rfl (Fw rfl C8 rfl) (co rfl (Ag.le (AR rfl (iY hxf hyf) ⟨kq,kz⟩) zI) ?_))
 refine ac ?_
 refine Tr.drop 0 (wk [21,2] rfl (Tr.seq (Tr.seq (Tr.ex 21 rfl fun bad=>(Tr.fact 21 rfl fun AHj=> ?_)))))
 refine ac ?_
 refine Tr.block (Tr.BH _ (kk [62,61,2] rfl) (fun k:Nat=>[(63,int ((k:Nat):Int))]) (fun k:Nat=>k≤(bad).length) (fun k:Nat=>(bad).length-k) 0 (Nat.zero_le _) kz ?_)
 rintro k BU
 refine ac ?_
 refine Tr.seq ?_
 refine Tr.cn rfl ?_ ?_<;>intro h3 q3
 have Af:k<(bad).length:=AH h3
 obtain ⟨x,Ah⟩:=at_ Af
 refine ac ?_
 refine Tr.seq (Tr.block (Tr.seq (Tr.Aj (co rfl (AD rfl underlying22 Bt vq vq AA (AX Ah)) ?_))))
 · exact Lm
 have BK:k=(bad).length:=by have:=AJ h3;omega
 subst BK
 refine a3 ?_
 · exact BN
theorem af {l:List (List Int)} {s:List Int}  :BG prog 217 [sets l,ints s] (ER):=by
 refine fo func217 rfl ⟨rfl,rfl⟩ fun M0 w0=>(Tr.Cm 0 rfl fun EJ=> ?_)
 refine a2 ?_
 refine Tr.block (Tr.BH _ (kk [8,7,1] rfl) (fun k:Nat=>[(9,int ((k:Nat):Int))]) (fun k:Nat=>k≤(l).length) (fun k:Nat=>(l).length-k) 0 (Nat.zero_le _) kz ?_)
 rintro k BU
 refine ac ?_
 refine Tr.seq ?_
 refine Tr.cn rfl ?_ ?_<;>intro h1 q1
 have Af:k<(l).length:=AH h1
 obtain ⟨x,Ah⟩:=at_ Af
 refine ac ?_
 refine Tr.seq (Tr.block (Tr.seq (Tr.Aj (co rfl (AD rfl underlying99 Gw vq vq AA (AX Ah)) ?_))))
 refine a2 ?_
 refine co rfl (CL (WE) rfl rfl rfl) ?_
 refine ac ?_
 refine Tr.ex 15 rfl fun AHk=> ?_
 · exact Lm
 have BK:k=(l).length:=by have:=AJ h1;omega
 refine a3 ?_
 · exact BN
theorem ah {e:Dp} {l:List BX} {r:List BC} {d:List Int} {n:Nat} (hz:e.sz n) (hn:n≤800000) (hc:∀c∈l,c.Cy.fits∧c.Cy.small) (hrl:r.length≤1000000):BG prog 177 [agg (CM e),Jf l r d,NN,SL,WC] (Cp.ex fun z:List Int×Int=>fact (z.1.length≤1000) (Dz [ints z.1,int z.2])):=by
 refine fo func177 rfl ⟨rfl,rfl⟩ fun M0 w0=> ?_
 have hf:=hz.fits AA
 refine ac ?_
 refine ap ?_
 refine tp rfl (CL (YD hf hrl) rfl rfl rfl) ?_
 refine TO.ex 25 rfl (fun z1=>TO.fact 25 rfl fun Ef=> ?_)
 refine ap ?_
 refine ac ?_
 refine kY 3 5 6 7 9 12 27 rfl ?_
 refine Tr.cn rfl ?_ ?_<;>intro h1 q1
 refine ac ?_
 refine Tr.ret (Fin.AE (Fin.BT rfl (AM.tmp rfl (Lr)) (AM.tmp rfl (Lr)) ?_))
 · exact Qe
 have hz0:z1=0:=by have:=q1;omega
 obtain ⟨VT,hfp⟩:=Ef hz0
 have OI:=hfp.dl
 have Nc:=hfp.l24
 refine a2 ?_
 refine co rfl (Jn (KY) rfl rfl rfl rfl) ?_
 refine ac ?_
 refine Tr.seq (Tr.ex 13 rfl fun x13=> ?_)
 refine an ?_ ?_<;>intro h2 q2
 refine ac ?_
 refine TR 10 11 rfl (Tr.ret (Fin.AE (Fin.BT rfl (AM.tmp rfl (Lr)) (AM.tmp rfl (Lr)) ?_)))
 · exact Qe
 refine ac ?_
 refine ap ?_
 refine tp rfl (CL (YE hz hn hrl) rfl rfl rfl) ?_
 refine TO.ex 38 rfl (fun z2=>TO.fact 38 rfl fun Iv=> ?_)
 refine ap ?_
 refine kY 3 5 6 7 9 14 15 rfl ?_
 refine an ?_ ?_<;>intro h3 q3
 refine ac ?_
 refine Tr.ret (Fin.AE (Fin.BT rfl (AM.tmp rfl (Lr)) (AM.tmp rfl (Lr)) ?_))
 · exact Qe
 refine a3 ?_
 refine kZ 3 5 6 7 9 14 16 46 47 rfl (Tr.block (Tr.B5 3 1 (Tr.DE [(3,_),(5,_),(6,_),(7,_),(9,_),(14,_),(46,_)] ⟨ke rfl,ke rfl,ke rfl,ke rfl,ke rfl,ke rfl,ke rfl,trivial⟩ (fun (o:List Int) (k:Nat) u=>[(47,int ((k:Nat):Int)),(16,Ad u (ints o))]) (fun (o:List Int) (k:Nat) u=>Hp M0 w0 FO ([Aw 3 1 u])) (fun (o:List Int) (k:Nat)=>k≤l.length∧o.length≤k) (fun (o:List Int) (k:Nat)=>l.length-k) ([]) (0) (.slice none 0 0) (⟨Nat.zero_le _,by simp⟩) ⟨ke rfl,⟨_,rfl,Bi rfl⟩,trivial⟩ (fun _ _ h=>h) ?_)))
 rintro o k u ⟨hk0,hol⟩
 refine ac ?_
 refine Tr.seq ?_
 refine Tr.cn rfl ?_ ?_<;>intro h4 q4
 have hk:k<l.length:=AH h4
 obtain ⟨dk,hdi⟩:=at_ (l:=d) (k:=k) AA
 iterate 4 refine ac ?_
 refine wq 3 5 6 7 9 14 16 17 18 46 47 50 51 52 rfl (Tr.block (Tr.BH [(3,_),(5,_),(6,_),(7,_),(9,_),(14,_),(16,_),(17,_),(46,_),(47,_),(50,_),(51,_)] (AEq rfl) (fun j:Nat=>[(52,int ((j:Nat):Int)),(18,ER)]) (fun j:Nat=>j≤(z2.1).length) (fun j:Nat=>(z2.1).length-j) 0 (Nat.zero_le _) ⟨ke rfl,⟨_,rfl,Ax _ (Lr)⟩,trivial⟩ ?_))
 rintro j ADH
 refine ac ?_
 refine AEo 3 5 6 7 9 14 16 17 18 46 47 50 51 52 53 rfl (Tr.seq ?_)
 refine Tr.cn rfl ?_ ?_<;>intro h5 q5
 have ADI:j<(z2.1).length:=AH h5
 obtain ⟨t,ADJ⟩:=at_ ADI
 have hts:=Iv.QD t (List.mem_of_getElem? ADJ)
 have ht:=ADJ
 have htl:=hts.len
 have hzl:=Iv.len
 refine ac ?_
 refine wq 3 5 6 7 9 14 16 17 18 46 47 50 51 52 rfl ?_
 refine ac ?_
 refine co rfl (AD rfl underlying274 rN (vl rfl) (vl rfl) AA (AX ht)) ?_
 refine ac ?_
 refine AEp 3 5 6 7 9 14 16 17 18 19 20 46 47 50 51 52 rfl ?_
 refine ac ?_
 refine kf 3 5 6 7 9 14 16 17 18 19 20 46 47 50 51 52 57 58 59 rfl (Tr.block (Tr.BH [(3,_),(5,_),(6,_),(7,_),(9,_),(14,_),(16,_),(17,_),(19,_),(20,_),(46,_),(47,_),(50,_),(51,_),(52,_),(57,_),(58,_)] (AEr rfl) (fun m:Nat=>[(59,int ((m:Nat):Int)),(18,ER)]) (fun m:Nat=>m≤(t).length) (fun m:Nat=>(t).length-m) 0 (Nat.zero_le _) ⟨ke rfl,ke rfl,trivial⟩ ?_))
 rintro m NC
 refine ac ?_
 refine AAm 3 5 6 7 9 14 16 17 18 19 20 46 47 50 51 52 57 58 59 60 rfl (Tr.seq ?_)
 refine Tr.cn rfl ?_ ?_<;>intro h6 q6
 have EZ:m<(t).length:=AH h6
 obtain ⟨x,Ee⟩:=at_ EZ
 have hx:=Ee
 have hsd:∀i∈x,0≤i∧i<(d.length:Nat):=fun i hi=>by have:=hts.QD x (List.mem_of_getElem? hx) i hi;omega
 have hsw:=hts.wid x (List.mem_of_getElem? hx)
 refine ac ?_
 refine kf 3 5 6 7 9 14 16 17 18 19 20 46 47 50 51 52 57 58 59 rfl (Tr.seq (Tr.block (Tr.seq (Tr.Aj (co rfl (AD rfl underlying99 Gw (vl rfl) (vl rfl) AA (AX hx)) ?_)))))
 refine ac ?_
 refine AAm 3 5 6 7 9 14 16 17 18 19 20 22 46 47 50 51 52 57 58 59 rfl (Tr.seq (Tr.ex 18 rfl fun x18=> ?_))
 refine ag ?_ ?_<;>intro h7 q7
 refine ac ?_
 refine cy h7 rfl (CL (Fq) rfl rfl rfl) ?_
 refine ag ?_ ?_<;>intro h8 q8
 refine ac ?_
 refine cy h8 rfl (Jn (MS hsd) rfl rfl rfl rfl) ?_
 refine ac ?_
 refine cy h8 rfl (AD rfl underlying22 Bt (vl rfl) (vl rfl) AA (AX hdi)) ?_
 refine ag ?_ ?_<;>intro h9 q9
 refine ac ?_
 refine cy h9 rfl (Jn (G4 AA) rfl rfl rfl rfl) (cy h9 rfl (CL (af) rfl rfl rfl) ?_)
 refine ac ?_
 refine rG 3 5 6 7 9 14 16 17 18 19 20 22 46 47 50 51 52 57 58 59 88 rfl (Tr.ex 88 rfl fun AHl=> ?_)
 · repeat' first|exact Fin.AL (m+1) ⟨EZ,by omega⟩ ⟨⟨_,rfl,AG m⟩,ke rfl,ke rfl,ke rfl,ke rfl,ke rfl,ke rfl,ke rfl,ke rfl,ke rfl,ke rfl,ke rfl,ke rfl,ke rfl,ke rfl,ke rfl,ke rfl,ke rfl,ke rfl,trivial⟩|exact Fin.AL (m+1) ⟨EZ,by omega⟩ ⟨⟨_,rfl,AG m⟩,⟨_,rfl,Ax _ (Lr)⟩,ke rfl,ke rfl,ke rfl,ke rfl,ke rfl,ke rfl,ke rfl,ke rfl,ke rfl,ke rfl,ke rfl,ke rfl,ke rfl,ke rfl,ke rfl,ke rfl,ke rfl,trivial⟩|refine co rfl (AR rfl (WJ hz hn hc hsw AA) ⟨ke rfl,ke rfl,ke rfl,ke rfl,ke rfl,ke rfl,ke rfl,ke rfl,trivial⟩) ?_|refine ac ?_|(refine Tr.cn rfl ?_ ?_<;>intro h q)
 refine ac ?_
 refine rG 3 5 6 7 9 14 16 17 18 19 20 22 46 47 50 51 52 57 58 59 88 rfl ?_
 refine ac ?_
 refine kf 3 5 6 7 9 14 16 17 18 19 20 46 47 50 51 52 57 58 59 rfl ?_
 refine ac ?_
 exact Fin.AL (m+1) ⟨EZ,by omega⟩ ⟨⟨_,rfl,AG m⟩,⟨_,rfl,Ax _ (Lr)⟩,ke rfl,ke rfl,ke rfl,ke rfl,ke rfl,ke rfl,ke rfl,ke rfl,ke rfl,ke rfl,ke rfl,ke rfl,ke rfl,ke rfl,ke rfl,ke rfl,ke rfl,trivial⟩
 refine ac ?_
 refine rG 3 5 6 7 9 14 16 17 18 19 20 22 46 47 50 51 52 57 58 59 88 rfl ?_
 refine ac ?_
 refine kf 3 5 6 7 9 14 16 17 18 19 20 46 47 50 51 52 57 58 59 rfl ?_
 refine ac ?_
 exact Fin.AL (m+1) ⟨EZ,by omega⟩ ⟨⟨_,rfl,AG m⟩,⟨_,rfl,Ax _ (Lr)⟩,ke rfl,ke rfl,ke rfl,ke rfl,ke rfl,ke rfl,ke rfl,ke rfl,ke rfl,ke rfl,ke rfl,ke rfl,ke rfl,ke rfl,ke rfl,ke rfl,ke rfl,trivial⟩
 refine ac ?_
 refine rG 3 5 6 7 9 14 16 17 18 19 20 22 46 47 50 51 52 57 58 59 88 rfl ?_
 refine ac ?_
 refine kf 3 5 6 7 9 14 16 17 18 19 20 46 47 50 51 52 57 58 59 rfl ?_
 refine ac ?_
 exact Fin.AL (m+1) ⟨EZ,by omega⟩ ⟨⟨_,rfl,AG m⟩,⟨_,rfl,Ax _ (Lr)⟩,ke rfl,ke rfl,ke rfl,ke rfl,ke rfl,ke rfl,ke rfl,ke rfl,ke rfl,ke rfl,ke rfl,ke rfl,ke rfl,ke rfl,ke rfl,ke rfl,ke rfl,trivial⟩
 have KI:m=(t).length:=by have:=AJ h6;omega
 subst KI
 refine ac ?_
 refine wq 3 5 6 7 9 14 16 17 18 46 47 50 51 52 rfl ?_
 refine ac ?_
 exact Fin.AL (j+1) ⟨ADI,by omega⟩ ⟨⟨_,rfl,AG j⟩,ke rfl,ke rfl,ke rfl,ke rfl,ke rfl,ke rfl,ke rfl,ke rfl,ke rfl,ke rfl,ke rfl,ke rfl,ke rfl,trivial⟩
 have yw:j=(z2.1).length:=by have:=AJ h5;omega
 subst yw
 refine ac ?_
 refine Jk 3 5 6 7 9 14 16 17 18 46 47 rfl ?_
 refine ac ?_
 refine Tr.ex 100 rfl fun AG8=> ?_
 refine Tr.cn rfl ?_ ?_<;>intro h11 Sx
 refine ap ?_
 refine TO.DT 0 rfl rfl AB (B7 rfl rfl rfl rfl underlying22 Bt G2 z3 (Kb rfl) (Kf rfl) (Ay BL (Ka rfl))) (fun v1=> ?_)
 refine ap ?_
 refine kZ 3 5 6 7 9 14 16 46 47 rfl ?_
 refine ac ?_
 exact Fin.Bl (o++[((k:Nat):Int)]) (k+1) v1 (⟨⟨by omega,by simp;omega⟩,by omega⟩) ⟨⟨_,rfl,AG k⟩,⟨_,rfl,BA DR⟩,ke rfl,ke rfl,ke rfl,ke rfl,ke rfl,ke rfl,ke rfl,trivial⟩ (fun _ _ h=>h)
 refine a2 ?_
 exact Fin.Bl (o) (k+1) u (⟨⟨by omega,by omega⟩,by omega⟩) ⟨⟨_,rfl,AG k⟩,⟨_,rfl,BA rfl⟩,ke rfl,ke rfl,ke rfl,ke rfl,ke rfl,ke rfl,ke rfl,trivial⟩ (fun _ _ h=>h)
 have bB:=AJ h4
 refine a2 ?_
 refine Tr.ret (Fin.BT rfl (AM.tmp rfl (Lr)) (AM.tmp rfl (Lr)) ?_)
 · exact Yu
theorem jF {e:Dp} {l:List BX} {n:Nat} {s:List Int} {fr Nz:Int} (hz:e.sz n) (hn:n≤800000) (hc:∀c∈l,c.Cy.fits∧c.Cy.small) (Z1:s.length≤4096):BG prog 220 [agg (CM e),C9 l,ints s,int fr,int Nz] (ER):=by
 refine fo func220 rfl ⟨rfl,rfl⟩ fun M0 w0=> ?_
 have hxz:=e7 (l:=l) (s:=s) hz hc
 have hxf:=hxz.fits AA
 have hxg:=hxz.lg
 refine ac ?_
 refine ao ?_
 refine tp rfl (Jn (SP hz hn hc) rfl rfl rfl rfl) ?_
 refine ao ?_
 refine Tl rfl rfl rfl rfl z31 IW (fun b1=> ?_)
 refine sf 0 11 ⟨rfl,rfl,rfl⟩ rfl rfl rfl rfl ?_
 refine ao ?_
 refine ac ?_
 refine wk [24,11,4,3] rfl ?_
 refine Tr.cn rfl ?_ ?_<;>intro h1 q1
 refine a2 ?_
 · exact BN
 refine a2 ?_
 refine Tr.block (Tr.BH _ (kk [27,11,4,3] rfl) (fun k:Nat=>[(28,int ((k:Nat):Int))]) (fun k:Nat=>k≤((Vt e l s).1.BW).length) (fun k:Nat=>((Vt e l s).1.BW).length-k) 0 (Nat.zero_le _) kz ?_)
 rintro k BU
 refine ac ?_
 refine Tr.seq ?_
 refine Tr.cn rfl ?_ ?_<;>intro h2 q2
 have Af:k<((Vt e l s).1.BW).length:=AH h2
 obtain ⟨x,Ah⟩:=at_ Af
 refine a2 ?_
 refine ao ?_
 refine tp rfl (ZS (Ov hxf) rfl rfl rfl rfl rfl) ?_
 refine TO.ex 36 rfl (fun z1=>TO.fact 36 rfl fun Ef=> ?_)
 refine ao ?_
 refine Tl rfl rfl rfl rfl Jm Fg (fun b2=> ?_)
 refine sf 0 14 ⟨rfl,rfl,rfl⟩ rfl rfl rfl rfl ?_
 refine ao ?_
 · exact Lm
 have BK:k=((Vt e l s).1.BW).length:=by have:=AJ h2;omega
 refine a3 ?_
 · exact BN
theorem UN {a b:Int}  :BG prog 123 [int a,int b] (ER):=by
 refine fo func123 rfl ⟨rfl,rfl⟩ fun M0 w0=> ?_
 · repeat' first|exact Ax _ Lr|refine ac ?_|(refine Ch.cg rfl rfl rfl ?_ ?_<;>intro h q)
theorem Ke {s:List Int} {m:Nat} (hs:∀i∈s,0≤i∧i<(m:Int)) (hm:m≤40):BG prog 219 [ints s] (Cp.ex fun z:Nat=>fact (z<2 ^ m) (int ((z:Nat):Int))):=by
 refine fo func219 rfl ⟨rfl,rfl⟩ fun M0 w0=>(Tr.Cm 0 rfl fun EJ=> ?_)
 refine a3 ?_
 refine Tr.block (Tr.DD _ (kk [7,6] rfl) (fun (z:Nat) (k:Nat)=>[(8,int ((k:Nat):Int)),(3,int ((z:Nat):Int))]) (fun (z:Nat) (k:Nat)=>Hp M0 w0 FO ([])) (fun (z:Nat) (k:Nat)=>k≤s.length∧z<2 ^ m) (fun (z:Nat) (k:Nat)=>s.length-k) (0) (0)  (⟨Nat.zero_le _,Nat.two_pow_pos m⟩) ⟨kq,kz⟩ (fun _ _ h=>h) ?_)
 rintro z k  ⟨hk0,hz⟩
 refine ac ?_
 refine Tr.seq ?_
 refine Tr.cn rfl ?_ ?_<;>intro h1 q1
 have hk:k<s.length:=AH h1
 obtain ⟨i,hx⟩:=at_ hk
 have hir:=hs i (List.mem_of_getElem? hx)
 refine ac ?_
 refine Tr.seq (Tr.block (Tr.seq (Tr.Aj (co rfl (AD rfl underlying51 Bt vq vq AA (AX hx)) ?_))))
 refine a2 ?_
 refine co rfl (eS rfl vq vq AA AA) ?_
 refine co rfl (yx (m:=m) rfl vq vq hz (Nat.pow_lt_pow_right AA AA) hm) ?_
 refine a2 ?_
 exact Fin.DK ((z|||2 ^ i.toNat)) (k+1)  (⟨⟨by omega,Nat.or_lt_two_pow hz (Nat.pow_lt_pow_right AA AA)⟩,by omega⟩) ⟨⟨_,rfl,AG k⟩,kz⟩ (fun _ _ h=>h)
 have bB:=AJ h1
 refine a3 ?_
 · exact Ax _ (A_ hz Lr)
abbrev YF:Pr:=Cp.ex fun z:List Int=>fact (z.length≤1000) (ints z)
theorem jG {s:List Int} {k n:Int} (h:∀i∈s,0≤i∧i<n) (hk:0≤k∧k<n):∀i∈Dq s k true,0≤i∧i<n:=fun i hi=>by
 rcases Ev.1 hi with rfl|hi
 · exact hk
 · exact h i hi
theorem jH {n:Nat}:(List.replicate n (Value.bool false)).map is=((List.replicate n false).map fun x:Bool=>[Cp.bool x]).flatten++[]:=by
 rw [List.map_replicate,List.map_replicate,List.append_nil]
 induction n with
 |zero=>rfl
 |succ n ih=>rw [List.replicate_succ,List.replicate_succ,List.flatten_cons,←ih];rfl
theorem UO {e:Dp} {l:List BX} {n:Nat} {so done:List Int} {fr Nz:Int} {b N m:Nat} (hz:e.sz n) (hn:n≤800000) (hc:∀c∈l,c.Cy.fits∧c.Cy.small) (hN:2 ^ l.length=N) (hl:l.length≤10) (hm:so.length+m=l.length) (hdr:∀i∈done,0≤i∧i<((l.length:Nat):Int)) (OI:done.length≤so.length) (ih:∀m':Nat,m=m'+1→∀so done:List Int,so.length+m'=l.length→(∀i∈done,0≤i∧i<((l.length:Nat):Int))→done.length≤so.length→Bj prog 178 [agg (CM e),C9 l,ints so,ints done,int fr,int Nz,is (Jl N b)] (Dz [YF,ER]) (Fi b 4 (fun x:Bool=>[Cp.bool x]) (fun L:List Bool=>L.length=N) []) (fun _=>Fi b 4 (fun x:Bool=>[Cp.bool x]) (fun L:List Bool=>L.length=N) [])):Bj prog 178 [agg (CM e),C9 l,ints so,ints done,int fr,int Nz,is (Jl N b)] (Dz [YF,ER]) (Fi b 4 (fun x:Bool=>[Cp.bool x]) (fun L:List Bool=>L.length=N) []) (fun _=>Fi b 4 (fun x:Bool=>[Cp.bool x]) (fun L:List Bool=>L.length=N) []):=by
 refine Bj.of func178 rfl rfl Ao fun M0 w0 S rs M1 w1=> ?_
 refine ac ?_
 refine Tr.seq (Tr.seq (Tr.Mv 0 rfl fun dd1 ADK=> ?_))
 refine ap ?_
 refine tp rfl (Cq (Ke (m:=l.length) hdr AA) rfl rfl) ?_
 refine TO.ex 22 rfl (fun z1=>TO.fact 22 rfl fun Ef=> ?_)
 have hzN:z1<N:=hN ▸ Ef
 refine tp rfl (Be rfl underlying160 Ta (vl rfl) (vl rfl) AA AA) (TO.rd 0 rfl rfl rfl AB (BI rfl ZA (vl rfl) (ZP (g:=(fun x:Bool=>Cp.bool x)) AA)) ?_)
 refine ap ?_
 refine Tr.cn rfl ?_ ?_<;>intro h1 q1
 refine Tr.seq (Tr.JC (fun L:List Bool=>L.length=N) 0 rfl ADK ?_)
 refine ac ?_
 refine Tr.ret (Fin.AE (Fin.F1 rfl rfl ?_ rfl ?_))
 · exact Lp
 · exact BN
 refine ac ?_
 refine Tr.seq (Tr.seq (Tr.JC (fun L:List Bool=>L.length=N) 0 rfl ADK ?_))
 refine ac ?_
 refine co rfl (kc5 (jF hz hn hc AA) rfl rfl rfl rfl rfl rfl) ?_
 refine ac ?_
 refine wk [30,7,6,5,4,3,2,1] rfl (Tr.ex 30 rfl fun AHm=> ?_)
 refine Tr.cn rfl ?_ ?_<;>intro h2 q2
 refine ac ?_
 refine wk [35,7,6,5,4,3,2,1] rfl ?_
 refine Tr.cn rfl ?_ ?_<;>intro h3 q3
 refine ac ?_
 refine Tr.ret (Fin.AE (Fin.AE (Fin.F1 rfl rfl ?_ rfl ?_)))
 · exact Ax so (A_ AA Lr)
 · exact BN
 refine a2 ?_
 refine Tr.block (Tr.J4 _ (kk [38,7,6,5,4,3,2,1] rfl) (fun (k:Nat)=>[(39,int ((k:Nat):Int))]) (fun (k:Nat)=>Hp M0 w0 S (Fi b 4 (fun x:Bool=>[Cp.bool x]) (fun L:List Bool=>L.length=N) []::Al M1 w1::rs)) (fun (k:Nat)=>k≤l.length) (fun (k:Nat)=>l.length-k) (0)  (Nat.zero_le _) kz (fun _ _ h=>h) ?_)
 rintro k  hk0
 refine ac ?_
 refine Tr.seq ?_
 refine Tr.cn rfl ?_ ?_<;>intro h4 q4
 have hk:k<l.length:=AH h4
 refine a3 ?_
 refine co rfl (CL (Fq) rfl rfl rfl) ?_
 refine ac ?_
 refine wk [44,39,38,16,7,6,5,4,3,2,1] rfl ?_
 refine Tr.cn rfl ?_ ?_<;>intro h5 q5
 refine a2 ?_
 exact Fin.Kr (k+1)  (⟨by omega,by omega⟩) ⟨⟨_,rfl,AG k⟩,kz⟩ (fun _ _ h=>h)
 refine ac ?_
 refine ap ?_
 refine TO.pad ?_
 refine TO.DT 0 rfl rfl AB (EB rfl rfl AB rfl underlying22 Bt G2 z3 rfl AB ⟨_,rfl,AQ _⟩ (vl rfl) (by simp only [List.length_append,List.length_map,List.length_cons,List.length_nil];unfold maxLen;omega) (by simp only [List.length_append,List.length_map,List.length_cons,List.length_nil];omega) (Br BL ⟨_,rfl,Cr 1⟩)) (fun v1=> ?_)
 refine ap ?_
 refine wk [39,38,17,16,7,6,5,4,3,2,1] rfl ?_
 refine ap ?_
 refine TO.DT 0 rfl rfl AB (B7 rfl rfl rfl rfl underlying22 Bt G2 z3 (Kb rfl) (Kf rfl) (Ay BL (Ka rfl))) (fun v2=> ?_)
 refine ap ?_
 refine wk [39,38,17,16,7,6,5,4,3,2,1] rfl (Tr.seq (Tr.rx ?_))
 refine ay ?_
 refine xo rfl (fun _=>Jn (G4 AA) rfl rfl rfl rfl) ?_
 refine ay ?_
 refine Cx.ef 1 rfl rfl AB (Aq rfl rfl AB rfl (ih (m-1) AA (so++[((k:Nat):Int)]) (Dq done ((k:Nat):Int) true) B8 (jG hdr AA) (by have:=N7 done ((k:Nat):Int) true;simp;omega)) ⟨ke rfl,ke rfl,⟨_,rfl,Pr.le_trans (Ar _ _) (Pr.le_of_eq (by show _=slice 1 ((so++[((k:Nat):Int)]).map fun n=>[int n]);rw [List.nil_append,List.map_append];rfl))⟩,kz⟩) ?_
 refine ay ?_
 refine Cx.nil ⟨by kernel_rfl,?_⟩
 refine BE.done al3 (Fin.go (Tr.drop 0 (wk [39,38,19,18,7,6,5,4,3,2,1] rfl ?_)))
 refine ac ?_
 refine Tr.ex 64 rfl fun AHn=> ?_
 refine Tr.cn rfl ?_ ?_<;>intro h6 q6
 refine ac ?_
 refine wk [15,14] rfl (Tr.ret (Fin.AU (Fin.AE (Fin.AE (Fin.AU (Fin.AE (Fin.F1 rfl rfl ?_ rfl ?_)))))))
 · exact Lr
 · exact BN
 refine a2 ?_
 exact Fin.Kr (k+1)  (⟨by omega,by omega⟩) ⟨⟨_,rfl,AG k⟩,kz⟩ (fun _ _ h=>h)
 have bB:=AJ h4
 refine ac ?_
 refine Tr.seq (Tr.Mv 0 rfl fun dd2 AGY=> ?_)
 refine ap ?_
 refine tp rfl (Cq (Ke (m:=l.length) hdr AA) rfl rfl) ?_
 refine TO.ex 69 rfl (fun z2=>TO.fact 69 rfl fun Iv=> ?_)
 have hzN:z2<N:=hN ▸ Iv
 refine tp rfl (Be rfl underlying160 Ta (vl rfl) (vl rfl) AA AA) ?_
 refine TO.DP 0 rfl rfl (A0 rfl rfl (vl rfl) (Vo rfl) Ta rfl (by rw [Kt (sz:=1) (fun _=>rfl)];omega) (JB (f:=fun x:Bool=>[Cp.bool x]) (x:=true) (fun _=>rfl) AA)) ?_
 refine ap ?_
 refine Tr.weak [] trivial (Tr.seq ?_)
 refine Tr.JC (fun L:List Bool=>L.length=N) 0 rfl (by rw [List.length_set];exact AGY) ?_
 refine ac ?_
 refine Tr.ret (Fin.F1 rfl rfl ?_ rfl ?_)
 · exact Lp
 · exact BN
 refine ac ?_
 refine Tr.seq (Tr.Mv 0 rfl fun dd3 AGZ=> ?_)
 refine ap ?_
 refine tp rfl (Cq (Ke (m:=l.length) hdr AA) rfl rfl) ?_
 refine TO.ex 69 rfl (fun z3=>TO.fact 69 rfl fun hz3=> ?_)
 have hzN:z3<N:=hN ▸ hz3
 refine tp rfl (Be rfl underlying160 Ta (vl rfl) (vl rfl) AA AA) ?_
 refine TO.DP 0 rfl rfl (A0 rfl rfl (vl rfl) (Vo rfl) Ta rfl (by rw [Kt (sz:=1) (fun _=>rfl)];omega) (JB (f:=fun x:Bool=>[Cp.bool x]) (x:=true) (fun _=>rfl) AA)) ?_
 refine ap ?_
 refine Tr.weak [] trivial (Tr.seq ?_)
 refine Tr.JC (fun L:List Bool=>L.length=N) 0 rfl (by rw [List.length_set];exact AGZ) ?_
 refine ac ?_
 refine Tr.ret (Fin.F1 rfl rfl ?_ rfl ?_)
 · exact Lp
 · exact BN
theorem YG {e:Dp} {l:List BX} {n:Nat} {fr Nz:Int} {b N:Nat} (hz:e.sz n) (hn:n≤800000) (hc:∀c∈l,c.Cy.fits∧c.Cy.small) (hN:2 ^ l.length=N) (hl:l.length≤10):∀(m:Nat) {so done:List Int},so.length+m=l.length→(∀i∈done,0≤i∧i<((l.length:Nat):Int))→done.length≤so.length→Bj Tryz.prog 178 [agg (CM e),C9 l,ints so,ints done,int fr,int Nz,is (Jl N b)] (Dz [YF,ER]) (Fi b 4 (fun x:Bool=>[Cp.bool x]) (fun L:List Bool=>L.length=N) []) (fun _=>Fi b 4 (fun x:Bool=>[Cp.bool x]) (fun L:List Bool=>L.length=N) [])
 |0,so,done,h1,h2,h3=>UO hz hn hc hN hl h1 h2 h3 (fun m' h=>absurd h AA)
 |m+1,so,done,h1,h2,h3=>UO hz hn hc hN hl h1 h2 h3 (fun m' h so' done' g1 g2 g3=>by
  obtain rfl:m'=m:=by omega
  exact YG hz hn hc hN hl m' g1 g2 g3)
theorem S9 {e:Dp} {l:List BX} {n:Nat} {fr Nz:Int} (hz:e.sz n) (hn:n≤800000) (hc:∀c∈l,c.Cy.fits∧c.Cy.small)  :BG prog 125 [agg (CM e),C9 l,int fr,int Nz] (Dz [YF,anyI]):=by
 refine fo func125 rfl ⟨rfl,rfl⟩ fun M0 w0=>(Tr.Cm 1 rfl fun Fo=> ?_)
 have hf:=hz.fits AA
 refine a2 ?_
 refine co rfl (Cq (D6 hf) rfl rfl) ?_
 refine an ?_ ?_<;>intro h1 q1
 refine ac ?_
 refine Tr.ret (Fin.AE (Fin.Ct rfl (Bg.Dc _ _) rfl ?_ rfl ?_))
 · exact Lp
 · exact BN
 refine ac ?_
 refine an ?_ ?_<;>intro h2 q2
 refine ac ?_
 refine Tr.ret (Fin.AE (Fin.Ct rfl (Bg.Dc _ _) rfl ?_ rfl ?_))
 · exact Lp
 · exact BN
 have ADL:l.length≤10:=by have:=q2;omega
 obtain ⟨N,hN⟩:∃N,2 ^ l.length=N:=⟨_,rfl⟩
 have hN2:N≤1024:=by have:=Nat.pow_le_pow_right (n:=2) AA ADL;omega
 refine a2 ?_
 refine co rfl (CL (UN) rfl rfl rfl) (co rfl (JR rfl vq) ?_)
 refine ac ?_
 refine Tr.ex 22 rfl fun AHo=> ?_
 refine Tr.cn rfl ?_ ?_<;>intro h3 q3
 refine ac ?_
 refine wk [9,8] rfl (Tr.ret (Fin.AE (Fin.Ct rfl (Bg.Dc _ _) rfl ?_ rfl ?_)))
 · exact Lp
 · exact BN
 refine ac ?_
 refine wk [4,3,2,1] rfl ?_
 refine ap ?_
 refine tp rfl (Ag.le (eS rfl vq vq AA AA) (int_eq (b:=((N:Nat):Int)) (by rw [Int.toNat_natCast,hN]))) ?_
 refine TO.VE rfl rfl AB rfl underlying160 Ta by4 z4 rfl vq vq FI AA (fun b1=> ?_)
 refine ap ?_
 refine Tr.seq (Tr.eqC 0 (((List.replicate N false).map fun x:Bool=>[Cp.bool x]).flatten++[]) rfl jH (Tr.JC (fun L:List Bool=>L.length=N) 0 rfl List.length_replicate ?_))
 refine ap ?_
 refine TO.IP 0 rfl rfl AB (Aq rfl rfl AB rfl (YG (so:=[]) (done:=[]) hz hn hc hN ADL l.length AV (fun i hi=>by cases hi) (Nat.le_refl _)) ⟨kq,kq,⟨_,rfl,AQ 1⟩,⟨_,rfl,AQ 1⟩,kz⟩) ?_
 refine ap ?_
 refine wk [12,11] rfl (Tr.seq (Tr.seq (Tr.ex 12 rfl fun x12=> ?_)))
 refine an ?_ ?_<;>intro h4 q4
 refine ac ?_
 refine Tr.ret (Fin.AE (Fin.Ct rfl (Bg.Dc _ _) rfl ?_ rfl ?_))
 · exact Lp
 · exact BN
 refine a2 ?_
 refine Tr.ret (Fin.Ct rfl (Bg.Dc _ _) rfl ?_ rfl ?_)
 · exact Lr
 · exact BN
structure SW (m:Nat) (l:List BX) (r:List BC) (d:List Int):Prop where
 fit:MQ m l r d
 l7:l.length≤7
 ok:∀c∈l,c.Cy.fits∧c.Cy.small
 rl:r.length≤1000
abbrev e_ (m:Nat):Pr:=Cp.ex fun z:List BX×List BC×List Int=>fact (SW m z.1 z.2.1 z.2.2) (Jf z.1 z.2.1 z.2.2)
theorem jI {m:Nat}:SW m [] [] []:=⟨⟨by decide,rfl,by decide,fun j y c h=>absurd h AV⟩,by decide,(fun c h=>by cases h),by decide⟩
theorem FB {m:Nat}:Pr.le (agg [is (.slice none 0 0),is (.slice none 0 0),is (.slice none 0 0)]) (e_ m):=Ax ([],[],[]) (A_ jI (BR ⟨AQ 8,AQ 2,AQ 1,trivial⟩))
theorem u_ {e:Dp} {c:BV} {l:List BX} {r:List BC} {fr:Int}:(∀x∈Nh e c l r fr,x∈l)∧(Nh e c l r fr).length≤l.length∧(Qm e c l r fr).length≤r.length:=by
 unfold Nh Qm
 by_cases h:KW e c l r fr=0
 · rw [if_pos h,if_pos h];exact ⟨fun x h=>h,Nat.le_refl _,Nat.le_refl _⟩
 · rw [if_neg h,if_neg h];exact ⟨(fun x h=>by cases h),Nat.zero_le _,Nat.zero_le _⟩
abbrev ADM:Pr:=Cp.ex fun z:List BC=>fact (z.length≤1000) (reqs z)
theorem Hx {e:Dp} {c:BV} {l:List BX} {r:List BC} {n:Nat} {fr Nz:Int} (hz:e.sz n) (hn:n≤800000) (hc:∀x∈l,x.Cy.fits∧x.Cy.small) (h7:l.length≤7) (hrl:r.length≤1000):BG prog 124 [agg (CM e),MF c,C9 l,reqs r,NN,SL,WC,int fr,int Nz] (Dz [e_ e.Bv.length,qH,ER]):=by
 refine fo func124 rfl ⟨rfl,rfl⟩ fun M0 w0=> ?_
 have hf:=hz.fits AA
 obtain ⟨hs1,VZ,hs3⟩:=u_ (e:=e) (c:=c) (l:=l) (r:=r) (fr:=fr)
 have hcs:∀x∈Nh e c l r fr,x.Cy.fits∧x.Cy.small:=fun x hx=>hc x (hs1 x hx)
 refine Tr.seq (Tr.An ?_)
 iterate 4 refine tp rfl (Bb rfl Cs) ?_
 refine Tl rfl rfl rfl rfl z35 E9 (fun b1=> ?_)
 refine Tl rfl rfl rfl rfl z107 Ed (fun b2=> ?_)
 refine ao ?_
 refine ao ?_
 refine tp rfl (kc5 (S8 (e:=e) (c:=c) (l:=l) (r:=r) (fr:=fr) hf (fun x hx=>(hc x hx).2) AA) rfl rfl rfl rfl rfl rfl) ?_
 refine ao ?_
 refine Tl rfl rfl rfl rfl z35 E9 (fun b3=> ?_)
 refine sf 0 21 ⟨rfl,rfl,rfl⟩ rfl rfl rfl rfl ?_
 refine ao ?_
 refine wk [22,21,19,18,15,13,9,8,7,5] rfl ?_
 refine an ?_ ?_<;>intro h1 q1
 refine ao ?_
 refine TO.AK 1 rfl rfl rfl vq Cs rfl CG rfl rfl (TO.AK 0 rfl rfl rfl vq Cs rfl Bo rfl rfl ?_)
 refine ao ?_
 refine wk [20,19,18] rfl (Tr.ret (Fin.AE (Fin.FK rfl (AM.cell 1 rfl rfl Cn CG rfl Lr) (AM.cell 0 rfl rfl CS Bo rfl Lr) (AM.tmp rfl Lr) ?_)))
 refine Az ⟨?_,?_,?_,trivial⟩
 · exact FB
 · exact D8
 · exact BN
 refine ac ?_
 refine ao ?_
 refine tp rfl (ZS (jE (l:=(Nh e c l r fr)) (r:=(Qm e c l r fr)) (d:=(Un e c l r fr)) hz hn hcs AA) rfl rfl rfl rfl rfl) ?_
 refine TO.ex 43 rfl (fun z1=>TO.fact 43 rfl fun Ef=> ?_)
 refine ao ?_
 refine Tl rfl rfl rfl rfl z107 Ed (fun b4=> ?_)
 refine sf 0 23 ⟨rfl,rfl,rfl⟩ rfl rfl rfl rfl ?_
 refine ao ?_
 refine wk [23,22,21,19,18,15,13,9,5] rfl ?_
 refine an ?_ ?_<;>intro h2 q2
 refine ao ?_
 refine TO.AK 1 rfl rfl rfl vq Cs rfl CG rfl rfl (TO.AK 0 rfl rfl rfl vq Cs rfl Bo rfl rfl ?_)
 refine ao ?_
 refine wk [20,19,18] rfl (Tr.ret (Fin.AE (Fin.FK rfl (AM.cell 1 rfl rfl Cn CG rfl Lr) (AM.cell 0 rfl rfl CS Bo rfl Lr) (AM.tmp rfl Lr) ?_)))
 refine Az ⟨?_,?_,?_,trivial⟩
 · exact FB
 · exact D8
 · exact BN
 have hz0:z1=0:=by have:=q2;omega
 obtain ⟨_,hfp⟩:=Ef hz0
 have hpq:SW e.Bv.length (Nh e c l r fr) (Qm e c l r fr) (Un e c l r fr):=⟨hfp,by omega,hcs,by omega⟩
 refine ac ?_
 refine ao ?_
 refine tp rfl (kc5 (ah (l:=(Nh e c l r fr)) (r:=(Qm e c l r fr)) (d:=(Un e c l r fr)) hz hn hcs AA) rfl rfl rfl rfl rfl rfl) ?_
 refine TO.ex 56 rfl (fun z2=>TO.fact 56 rfl fun Iv=> ?_)
 refine ao ?_
 refine wk [24,23,22,21,19,18] rfl (Tr.seq ?_)
 by_cases Iv:z2.2=0
 refine Tr.rx ?_
 refine ay ?_
 refine Cx.yes rfl rfl rfl Hg rfl AB (fun _=>BQ rfl vq) (Cx.yes rfl rfl rfl Hg rfl AB (fun _=>CB rfl underlying22 vq) (Cx.yes rfl rfl rfl Hg rfl AB (fun _=>ki rfl rfl rfl rfl) (xo rfl (fun _=>Ko rfl vq Hg vq) ?_)))
 refine ay ?_
 refine Cx.nil ⟨by kernel_rfl,?_⟩
 refine BE.done YV (Fin.go (wk [20,19,18] rfl (Tr.ret (Fin.FK rfl (AM.cell 1 rfl rfl Cn CG rfl Lr) (AM.cell 0 rfl rfl CS Bo rfl Lr) (AM.tmp rfl Lr) ?_))))
 refine Az ⟨?_,?_,?_,trivial⟩
 · exact bW
 · exact Lr
 · exact BN
 refine Tr.rx ?_
 refine ay ?_
 refine Cx.no rfl rfl rfl (Bc Hg) rfl AB (Cx.no rfl rfl rfl (Bc Hg) rfl AB (Cx.no rfl rfl rfl (Bc Hg) rfl AB (xo rfl (fun _=>Kq rfl vq Hg vq) ?_)))
 refine ay ?_
 refine Cx.nil ⟨by kernel_rfl,?_⟩
 refine BE.done YV (Fin.go (wk [20,19,18] rfl (Tr.ret (Fin.FK rfl (AM.cell 1 rfl rfl Cn CG rfl Lr) (AM.cell 0 rfl rfl CS Bo rfl Lr) (AM.tmp rfl Lr) ?_))))
 refine Az ⟨?_,?_,?_,trivial⟩
 · exact bW
 · exact Lr
 · exact BN
theorem Kg {o:List Int} (ho:o.length≤1000):BG Tryz.prog 126 [ints o] ADM:=(aR ho).le (fun _ _ _ h=>h) (fun M w v ⟨z,hz,h⟩=>⟨z,Nat.le_trans hz ho,h⟩)
theorem UP {n:Nat} (hn:n≤1000):BG Tryz.prog 127 [int ((n:Nat):Int)] YF:=(qD hn).le (fun _ _ _ h=>h) (fun M w v ⟨z,hz,h⟩=>⟨z,Nat.le_trans hz hn,h⟩)
theorem qI {c:BV} {l:List BX} (h:Ec c l=0):∀x∈l,0≤x.Aa∧x.Aa<(c.JI.length:Nat):=fun x hx=>by
 have hb:=(SF h).2 x hx
 unfold O3 at hb
 rw [Bool.or_eq_false_iff,decide_eq_false_iff_not,decide_eq_false_iff_not] at hb
 omega
theorem qJ {e:Dp} {l:List BX} (h:l.length≤24):(u7 e l).length≤1000:=by
 have h1:=SS e l l.length
 have h2:=Nat.mul_le_mul h h
 unfold u7;omega
theorem jJ {e:Dp} {c:BV} {l:List BX} {n:Nat} {fr Nz:Int} (hz:e.sz n) (hn:n≤800000) (hc:∀x∈l,x.Cy.fits∧x.Cy.small) (h7:l.length≤7):BG prog 66 [agg (CM e),MF c,C9 l,NN,SL,WC,int fr,int Nz] (Dz [e_ e.Bv.length,qH,anyI]):=by
 refine BG.of func66 rfl rfl Ao fun M0 w0=> ?_
 have hf:=hz.fits AA
 refine Tr.seq (Tr.An ?_)
 iterate 4 refine tp rfl (Bb rfl (Va rfl)) ?_
 refine Tl rfl rfl rfl rfl z35 E9 (fun b1=> ?_)
 refine Tl rfl rfl rfl rfl z107 Ed (fun b2=> ?_)
 refine tm rfl (TO.nil (Fin.go (Tr.seq (Tr.seq (Tr.Aj (co rfl (AP rfl Dg De (vl rfl) rfl rfl) (co rfl (AR rfl (D6 hf) ⟨ke rfl,trivial⟩) (co rfl (ki rfl rfl rfl rfl) (Ch.nil (Fin.go ?_))))))))))
 refine Tr.cn rfl ?_ ?_<;>intro h1 q1
 refine Tr.seq (Tr.An (tp rfl (Ak (rows:=[]) rfl Lx E9 trivial rfl) (tp rfl (Ak (rows:=[]) rfl JY Ed trivial rfl) (TO.AK 1 rfl rfl rfl (vl rfl) (Va rfl) rfl CG rfl rfl (TO.AK 0 rfl rfl rfl (vl rfl) (Va rfl) rfl Bo rfl rfl (tm rfl (TO.nil (Fin.go (GU 16 17 18 rfl (Tr.ret (Fin.AE (Fin.FK rfl (AM.cell 1 rfl rfl Cn CG rfl (Lr)) (AM.cell 0 rfl rfl CS Bo rfl (Lr)) (AM.tmp rfl (Lr)) ?_))))))))))))
 refine Az ⟨?_,?_,?_,trivial⟩
 · exact FB
 · exact D8
 · exact C6
 have VT:FQ e=true:=by cases h_:FQ e with|true=>rfl|false=>exact absurd h1 Md
 refine Tr.skip (Fin.go (Tr.seq (Tr.seq (Tr.Aj (co rfl (AP rfl Ob Ws (vl rfl) rfl rfl) (co rfl (NT rfl HI rfl rfl) (co rfl (Fw rfl Oa rfl) (co rfl (CB rfl underlying27 (vl rfl)) ?_))))))))
 refine co rfl (AR rfl (KL (c:=c) (m:=((e.Bv.length:Nat):Int))) ⟨ke rfl,ke rfl,trivial⟩) ?_
 refine cm rfl (Ch.nil (Fin.go (Jk 2 4 6 7 8 9 11 13 16 17 19 rfl (Tr.seq (Tr.Aj (cm rfl (co rfl (ki rfl rfl rfl rfl) (Ch.nil (Fin.go ?_)))))))))
 refine Tr.cn rfl ?_ ?_<;>intro h2 q2
 refine Tr.seq (Tr.An (tp rfl (Ak (rows:=[]) rfl Lx E9 trivial rfl) (tp rfl (Ak (rows:=[]) rfl JY Ed trivial rfl) (tm rfl (TO.AK 1 rfl rfl rfl (vl rfl) (Va rfl) rfl CG rfl rfl (TO.AK 0 rfl rfl rfl (vl rfl) (Va rfl) rfl Bo rfl rfl (tm rfl (TO.nil (Fin.go (GU 16 17 18 rfl (Tr.ret (Fin.AE (Fin.FK rfl (AM.cell 1 rfl rfl Cn CG rfl (Lr)) (AM.cell 0 rfl rfl CS Bo rfl (Lr)) (AM.tmp rfl (Lr)) ?_)))))))))))))
 refine Az ⟨?_,?_,?_,trivial⟩
 · exact FB
 · exact D8
 · exact C6
 have hck:c.check ((e.Bv.length:Nat):Int)=0:=by simpa using h2
 obtain ⟨how,htl,hth⟩:=UC hck
 refine Tr.skip (Fin.go (Tr.seq (Tr.seq (Tr.Aj (co rfl (AP rfl Ob Ws (vl rfl) rfl rfl) (cm rfl ?_))))))
 refine co rfl (AR rfl (SV (c:=c) (l:=l) how) ⟨ke rfl,ke rfl,trivial⟩) ?_
 refine cm rfl (co rfl (Ap rfl (vl rfl) rfl) (co rfl (Ap rfl (vl rfl) rfl) (cm rfl (cm rfl (Ch.nil (Fin.go (Jk 2 4 6 7 8 9 11 13 16 17 21 rfl (Tr.seq (Tr.Aj (cm rfl (co rfl (ki rfl rfl rfl rfl) (Ch.nil (Fin.go ?_)))))))))))))
 refine Tr.cn rfl ?_ ?_<;>intro h3 q3
 refine Tr.seq (Tr.An (tp rfl (Ak (rows:=[]) rfl Lx E9 trivial rfl) (tp rfl (Ak (rows:=[]) rfl JY Ed trivial rfl) (tm rfl (TO.AK 1 rfl rfl rfl (vl rfl) (Va rfl) rfl CG rfl rfl (TO.AK 0 rfl rfl rfl (vl rfl) (Va rfl) rfl Bo rfl rfl (tm rfl (TO.nil (Fin.go (GU 16 17 18 rfl (Tr.ret (Fin.AE (Fin.FK rfl (AM.cell 1 rfl rfl Cn CG rfl (Lr)) (AM.cell 0 rfl rfl CS Bo rfl (Lr)) (AM.tmp rfl (Lr)) ?_)))))))))))))
 refine Az ⟨?_,?_,?_,trivial⟩
 · exact FB
 · exact D8
 · exact C6
 have hep:=qI (c:=c) (l:=l) Hf
 refine Tr.skip (Fin.go (Tr.seq (Tr.seq (Tr.Aj (co rfl (AP rfl Nv Td (vl rfl) rfl rfl) (cm rfl (co rfl (AR rfl (KY) ⟨ke rfl,ke rfl,ke rfl,trivial⟩) (cm rfl (Ch.nil (Fin.go (Jk 2 4 6 7 8 9 11 13 16 17 22 rfl (Tr.seq (Tr.ex 22 rfl fun x22=>(Tr.Aj ?_))))))))))))))
 refine cm rfl (co rfl (ki rfl rfl rfl rfl) (Ch.nil (Fin.go ?_)))
 refine Tr.cn rfl ?_ ?_<;>intro h4 q4
 refine Tr.seq (Tr.An (tp rfl (Ak (rows:=[]) rfl Lx E9 trivial rfl) (tp rfl (Ak (rows:=[]) rfl JY Ed trivial rfl) (tm rfl (TO.AK 1 rfl rfl rfl (vl rfl) (Va rfl) rfl CG rfl rfl (TO.AK 0 rfl rfl rfl (vl rfl) (Va rfl) rfl Bo rfl rfl (tm rfl (TO.nil (Fin.go (GU 16 17 18 rfl (Tr.ret (Fin.AE (Fin.FK rfl (AM.cell 1 rfl rfl Cn CG rfl (Lr)) (AM.cell 0 rfl rfl CS Bo rfl (Lr)) (AM.tmp rfl (Lr)) ?_)))))))))))))
 refine Az ⟨?_,?_,?_,trivial⟩
 · exact FB
 · exact D8
 · exact C6
 refine Tr.skip (Fin.go (Tr.seq (Tr.seq (Tr.Aj (cm rfl (cm rfl (co rfl (AR rfl (UN) ⟨ke rfl,ke rfl,trivial⟩) (co rfl (JR rfl (vl rfl)) (Ch.nil (Fin.go (Jk 2 4 6 7 8 9 11 13 16 17 73 rfl (Tr.ex 73 rfl fun AHp=> ?_))))))))))))
 refine Tr.cn rfl ?_ ?_<;>intro h5 q5
 refine Tr.seq (Tr.An (tp rfl (Ak (rows:=[]) rfl Lx E9 trivial rfl) (tp rfl (Ak (rows:=[]) rfl JY Ed trivial rfl) (TO.AK 1 rfl rfl rfl (vl rfl) (Va rfl) rfl CG rfl rfl (TO.AK 0 rfl rfl rfl (vl rfl) (Va rfl) rfl Bo rfl rfl (tm rfl (TO.nil (Fin.go (GU 16 17 18 rfl (Tr.ret (Fin.AE (Fin.FK rfl (AM.cell 1 rfl rfl Cn CG rfl (Lr)) (AM.cell 0 rfl rfl CS Bo rfl (Lr)) (AM.tmp rfl (Lr)) ?_))))))))))))
 refine Az ⟨?_,?_,?_,trivial⟩
 · exact FB
 · exact D8
 · exact C6
 refine Tr.skip (Fin.go (Tr.seq (Tr.Aj (co rfl (AP rfl Dg De (vl rfl) rfl rfl) (cm rfl ?_)))))
 refine co rfl (AR rfl (YB hf VT AA (fun x hx=>by have:=hep x hx;omega)) ⟨ke rfl,ke rfl,trivial⟩) ?_
 refine cm rfl (co rfl (Ap rfl (vl rfl) rfl) (co rfl (Ap rfl (vl rfl) rfl) (cm rfl (cm rfl (Ch.nil (Fin.go (Jk 2 4 6 7 8 9 11 13 16 17 23 rfl (Tr.seq (Tr.seq (Tr.An (tp rfl (AP rfl Dg De (vl rfl) rfl rfl) (tp rfl (AP rfl Ob Ws (vl rfl) rfl rfl) (tm rfl ?_)))))))))))))
 refine tm rfl (tp rfl (AP rfl Nv Td (vl rfl) rfl rfl) (tm rfl (tp rfl (AP rfl Q9 Wu (vl rfl) rfl rfl) (tm rfl (tm rfl ?_)))))
 refine tp rfl (AR rfl (Hx (e:=e) (c:=c) (l:=l) (r:=u7 e l) hz hn hc AA (qJ AA)) ⟨ke rfl,ke rfl,ke rfl,ke rfl,ke rfl,ke rfl,ke rfl,ke rfl,ke rfl,trivial⟩) ?_
 refine tm rfl (tp rfl (Ap rfl (vl rfl) rfl) ?_)
 refine TO.ex 93 rfl (fun p1=>TO.fact 93 rfl fun ZQ=> ?_)
 refine tp rfl (Ap rfl (vl rfl) rfl) (tp rfl (Ap rfl (vl rfl) rfl) ?_)
 refine Tl rfl rfl rfl rfl z35 E9 (fun b3=> ?_)
 refine Tl rfl rfl rfl rfl z107 Ed (fun b4=> ?_)
 refine TO.AK 1 rfl rfl rfl (vl rfl) (Va rfl) rfl CG rfl rfl (TO.freeze 1 25 rfl rfl (TO.AK 0 rfl rfl rfl (vl rfl) (Va rfl) rfl Bo rfl rfl (TO.freeze 0 26 rfl rfl (tm rfl (TO.nil (Fin.go (rF 2 4 6 7 8 9 11 13 16 17 25 26 27 rfl (Tr.seq (Tr.Aj (cm rfl (Ch.nil (Fin.go (rF 2 4 6 7 8 9 11 13 16 17 25 26 96 rfl (Tr.ex 96 rfl fun AHq=> ?_))))))))))))))
 refine Tr.cn rfl ?_ ?_<;>intro h6 q6
 refine Tr.seq (Tr.GA mixed [none,none,some (0,1,true,0),some (0,0,true,0),none] BS (xo rfl (fun _=>AP rfl Cn CG (vl rfl) rfl rfl) (xo rfl (fun _=>AP rfl CS Bo (vl rfl) rfl rfl) (Cx.DP 1 rfl rfl (A0 rfl rfl (vl rfl) (Va rfl) CG rfl Ao rfl) (Cx.DP 0 rfl rfl (A0 rfl rfl (vl rfl) (Va rfl) Bo rfl Ao rfl) (xm rfl ?_))))))
 refine Cx.nil ⟨rfl,?_⟩
 refine BE.done (As.cons (As.cons (As.map _))) (Fin.go (GU 16 17 18 rfl (Tr.ret (Fin.AE (Fin.FK rfl (AM.cell 1 rfl rfl Cn CG rfl (Lr)) (AM.cell 0 rfl rfl CS Bo rfl (Lr)) (AM.tmp rfl (Lr)) ?_)))))
 refine Az ⟨?_,?_,?_,trivial⟩
 · exact PU
 · exact Lr
 · exact C6
 refine Tr.skip (Fin.go (Wj 2 4 6 7 8 9 11 13 16 17 rfl (Tr.seq (Tr.seq (Tr.Aj (cm rfl (co rfl (CB rfl underlying32 (vl rfl)) (co rfl (ki rfl rfl rfl rfl) (Ch.nil (Fin.go ?_))))))))))
 refine Tr.cn rfl ?_ ?_<;>intro h7 q7
 refine Tr.seq (Tr.An (tp rfl (Ak (rows:=[]) rfl Lx E9 trivial rfl) (tp rfl (Ak (rows:=[]) rfl JY Ed trivial rfl) (TO.AK 1 rfl rfl rfl (vl rfl) (Va rfl) rfl CG rfl rfl (TO.AK 0 rfl rfl rfl (vl rfl) (Va rfl) rfl Bo rfl rfl (tm rfl (TO.nil (Fin.go (GU 16 17 18 rfl (Tr.ret (Fin.AE (Fin.FK rfl (AM.cell 1 rfl rfl Cn CG rfl (Lr)) (AM.cell 0 rfl rfl CS Bo rfl (Lr)) (AM.tmp rfl (Lr)) ?_))))))))))))
 refine Az ⟨?_,?_,?_,trivial⟩
 · exact FB
 · exact D8
 · exact C6
 refine Tr.skip (Fin.go (Tr.seq (Tr.seq (Tr.Aj (co rfl (AP rfl Dg De (vl rfl) rfl rfl) (cm rfl (cm rfl (cm rfl (co rfl (AR rfl (S9 hz hn hc) ⟨ke rfl,ke rfl,ke rfl,ke rfl,trivial⟩) (cm rfl (co rfl (Ap rfl (vl rfl) rfl) (co rfl (Ap rfl (vl rfl) rfl) (cm rfl ?_)))))))))))))
 refine cm rfl (Ch.nil (Fin.go (AAl 2 4 6 7 8 9 11 13 16 17 28 29 rfl (Tr.seq (Tr.ex 29 rfl fun x29=>(Tr.Aj (cm rfl (co rfl (ki rfl rfl rfl rfl) (Ch.nil (Fin.go (AAl 2 4 6 7 8 9 11 13 16 17 28 113 rfl ?_)))))))))))
 refine Tr.cn rfl ?_ ?_<;>intro h8 q8
 refine Tr.seq (Tr.ex 28 rfl fun sq=>(Tr.fact 28 rfl fun hsq=>(Tr.pad (Tr.pad (Tr.GA mixed [none,none,none,none,none,none,none,none,none,none,none,none,none,none,none,some (0,0,true,30),some (0,1,true,31),some (30,0,true,30),some (31,1,true,31),none] BS (xo rfl (fun _=>AP rfl Dg De (vl rfl) rfl rfl) (xo rfl (fun _=>AP rfl Ob Ws (vl rfl) rfl rfl) (xm rfl (xm rfl (xo rfl (fun _=>AR rfl (Kg hsq) ⟨ke rfl,trivial⟩) (xo rfl (fun _=>AP rfl Nv Td (vl rfl) rfl rfl) (xm rfl (xo rfl (fun _=>AP rfl Q9 Wu (vl rfl) rfl rfl) ?_)))))))))))))
 refine xm rfl (xm rfl ?_)
 refine xo rfl (fun _=>AR rfl (BG.oz [agg (CM e),MF c,C9 l] ([]:List BC) AV fun z hz_=>Hx (e:=e) (c:=c) (l:=l) (r:=z) hz hn hc AA hz_) ⟨ke rfl,ke rfl,ke rfl,ke rfl,ke rfl,ke rfl,ke rfl,ke rfl,ke rfl,trivial⟩) ?_
 refine xm rfl (xo rfl (fun _=>Ap rfl (vl rfl) rfl) (xo rfl (fun _=>Ap rfl (vl rfl) rfl) (xo rfl (fun _=>Ap rfl (vl rfl) rfl) (Cx.ef 0 rfl rfl AB (CC rfl rfl AB rfl z35 E9) (Cx.ef 1 rfl rfl AB (CC rfl rfl AB rfl z107 Ed) (Cx.DP 0 rfl rfl (K6 (f:=fun z:List BX×List BC×List Int=>[C9 z.1,reqs z.2.1,ints z.2.2]) (φ:=fun z:List BX×List BC×List Int=>SW e.Bv.length z.1 z.2.1 z.2.2) rfl rfl rfl AB rfl rfl CG (fun _=>rfl) rfl) (Cx.DP 1 rfl rfl (CZ rfl rfl rfl rfl (Va rfl) Bo rfl rfl) (xm rfl ?_))))))))
 refine Cx.nil ⟨rfl,?_⟩
 refine BE.open_ 0 30 rfl rfl (fun v1=> ?_)
 refine BE.open_ 1 31 rfl rfl (fun v2=> ?_)
 refine BE.done (As.cons (As.cons (As.cons (As.cons (As.map _))))) (Fin.LX 30 0 _ rfl rfl (fun _=>rfl) (fun b5=> ?_))
 refine Fin.eT 0 rfl (fun pe1 ADN=> ?_)
 refine Fin.LX 31 1 _ rfl rfl (fun _=>rfl) (fun b6=> ?_)
 refine Fin.go (rF 2 4 6 7 8 9 11 13 16 17 30 31 32 rfl (Tr.seq (Tr.Aj (cm rfl (Ch.nil (Fin.go (rF 2 4 6 7 8 9 11 13 16 17 30 31 129 rfl (Tr.ex 129 rfl fun AG9=> ?_))))))))
 refine Tr.cn rfl ?_ ?_<;>intro h9 q9
 refine Tr.seq (Tr.GA mixed [some (0,0,false,0),some (0,1,false,0),some (0,3,true,0),some (0,2,true,0),none] BS (IV 0 rfl rfl (B0 rfl Cn CG (vl rfl) rfl rfl) (IV 1 rfl rfl (B0 rfl CS Bo (vl rfl) rfl rfl) (Cx.DP 3 rfl rfl (A0 rfl rfl (vl rfl) (Va rfl) CG rfl Ao rfl) (Cx.DP 2 rfl rfl (A0 rfl rfl (vl rfl) (Va rfl) Bo rfl Ao rfl) (xm rfl ?_))))))
 refine Cx.nil ⟨rfl,?_⟩
 refine BE.done (As.cons (As.cons (As.cons (As.cons (As.map _))))) (Fin.go (Tr.drop 0 (Tr.drop 0 (GU 16 17 18 rfl (Tr.ret (Fin.AE (Fin.FK rfl (AM.cell 1 rfl rfl Cn CG rfl (Lr)) (AM.cell 0 rfl rfl CS Bo rfl (Lr)) (AM.tmp rfl (Lr)) ?_)))))))
 refine Az ⟨?_,?_,?_,trivial⟩
 · exact PU
 · exact Lr
 · exact C6
 refine Tr.skip (Fin.go (Tr.drop 0 (Tr.drop 0 (Wj 2 4 6 7 8 9 11 13 16 17 rfl (Tr.seq (Tr.seq (Tr.pad (Tr.pad (Tr.GA mixed [none,none,none,none,none,none,none,none,none,none,none,none,none,none,none,none,none,some (0,0,true,33),some (0,1,true,34),some (33,0,true,33),some (34,1,true,34),none] BS (xo rfl (fun _=>AP rfl Dg De (vl rfl) rfl rfl) (xo rfl (fun _=>AP rfl Ob Ws (vl rfl) rfl rfl) (xm rfl (xm rfl ?_)))))))))))))
 refine xo rfl (fun _=>CB rfl underlying32 (vl rfl)) ?_
 refine xo rfl (fun _=>AR rfl (UP (n:=l.length) AA) ⟨ke rfl,trivial⟩) ?_
 refine xo rfl (fun _=>AR rfl (BG.oz [] [] (Nat.zero_le _) fun z hz_=>Kg hz_) ⟨ke rfl,trivial⟩) (xo rfl (fun _=>AP rfl Nv Td (vl rfl) rfl rfl) (xm rfl (xo rfl (fun _=>AP rfl Q9 Wu (vl rfl) rfl rfl) (xm rfl (xm rfl ?_)))))
 refine xo rfl (fun _=>AR rfl (BG.oz [agg (CM e),MF c,C9 l] ([]:List BC) AV fun z hz_=>Hx (e:=e) (c:=c) (l:=l) (r:=z) hz hn hc AA hz_) ⟨ke rfl,ke rfl,ke rfl,ke rfl,ke rfl,ke rfl,ke rfl,ke rfl,ke rfl,trivial⟩) ?_
 refine xm rfl (xo rfl (fun _=>Ap rfl (vl rfl) rfl) (xo rfl (fun _=>Ap rfl (vl rfl) rfl) (xo rfl (fun _=>Ap rfl (vl rfl) rfl) (Cx.ef 0 rfl rfl AB (CC rfl rfl AB rfl z35 E9) (Cx.ef 1 rfl rfl AB (CC rfl rfl AB rfl z107 Ed) (Cx.DP 0 rfl rfl (K6 (f:=fun z:List BX×List BC×List Int=>[C9 z.1,reqs z.2.1,ints z.2.2]) (φ:=fun z:List BX×List BC×List Int=>SW e.Bv.length z.1 z.2.1 z.2.2) rfl rfl rfl AB rfl rfl CG (fun _=>rfl) rfl) (Cx.DP 1 rfl rfl (CZ rfl rfl rfl rfl (Va rfl) Bo rfl rfl) (xm rfl ?_))))))))
 refine Cx.nil ⟨rfl,?_⟩
 refine BE.open_ 0 33 rfl rfl (fun v3=> ?_)
 refine BE.open_ 1 34 rfl rfl (fun v4=> ?_)
 refine BE.done (As.cons (As.cons (As.cons (As.cons (As.map _))))) (Fin.LX 33 0 _ rfl rfl (fun _=>rfl) (fun b7=> ?_))
 refine Fin.eT 0 rfl (fun pe2 AHr=> ?_)
 refine Fin.LX 34 1 _ rfl rfl (fun _=>rfl) (fun b8=> ?_)
 refine Fin.go (wk5 16 17 33 34 35 rfl (Tr.seq (Tr.Aj (cm rfl (Ch.nil (Fin.go (Tr.ex 149 rfl fun ADO=> ?_)))))))
 refine Tr.cn rfl ?_ ?_<;>intro h10 P7
 refine Tr.seq (Tr.GA mixed [some (0,0,false,0),some (0,1,false,0),some (0,3,true,0),some (0,2,true,0),none] BS (IV 0 rfl rfl (B0 rfl Cn CG (vl rfl) rfl rfl) (IV 1 rfl rfl (B0 rfl CS Bo (vl rfl) rfl rfl) (Cx.DP 3 rfl rfl (A0 rfl rfl (vl rfl) (Va rfl) CG rfl Ao rfl) (Cx.DP 2 rfl rfl (A0 rfl rfl (vl rfl) (Va rfl) Bo rfl Ao rfl) (xm rfl ?_))))))
 refine Cx.nil ⟨rfl,?_⟩
 refine BE.done (As.cons (As.cons (As.cons (As.cons (As.map _))))) (Fin.go (Tr.drop 0 (Tr.drop 0 (Tr.ret (Fin.AE (Fin.FK rfl (AM.cell 1 rfl rfl Cn CG rfl (Lr)) (AM.cell 0 rfl rfl CS Bo rfl (Lr)) (AM.tmp rfl (Lr)) ?_))))))
 refine Az ⟨?_,?_,?_,trivial⟩
 · exact PU
 · exact Lr
 · exact C6
 refine Tr.skip (Fin.go (Tr.drop 0 (Tr.drop 0 (Tr.seq (Tr.An (tp rfl (Ak (rows:=[]) rfl Lx E9 trivial rfl) (tp rfl (Ak (rows:=[]) rfl JY Ed trivial rfl) (TO.AK 1 rfl rfl rfl (vl rfl) (Va rfl) rfl CG rfl rfl (TO.AK 0 rfl rfl rfl (vl rfl) (Va rfl) rfl Bo rfl rfl (tm rfl (TO.nil (Fin.go (Tr.ret (Fin.FK rfl (AM.cell 1 rfl rfl Cn CG rfl (Lr)) (AM.cell 0 rfl rfl CS Bo rfl (Lr)) (AM.tmp rfl (Lr)) ?_))))))))))))))
 refine Az ⟨?_,?_,?_,trivial⟩
 · exact FB
 · exact D8
 · exact C6
 refine Tr.skip (Fin.go (Tr.seq (Tr.seq (Tr.pad (Tr.pad (Tr.GA mixed [none,none,none,none,none,none,none,none,none,none,none,none,none,none,none,none,none,some (0,0,true,33),some (0,1,true,34),some (33,0,true,33),some (34,1,true,34),none] BS (xo rfl (fun _=>AP rfl Dg De (vl rfl) rfl rfl) (xo rfl (fun _=>AP rfl Ob Ws (vl rfl) rfl rfl) (xm rfl (xm rfl (xo rfl (fun _=>CB rfl underlying32 (vl rfl)) ?_)))))))))))
 refine xo rfl (fun _=>AR rfl (UP (n:=l.length) AA) ⟨ke rfl,trivial⟩) ?_
 refine xo rfl (fun _=>AR rfl (BG.oz [] [] (Nat.zero_le _) fun z hz_=>Kg hz_) ⟨ke rfl,trivial⟩) (xo rfl (fun _=>AP rfl Nv Td (vl rfl) rfl rfl) (xm rfl (xo rfl (fun _=>AP rfl Q9 Wu (vl rfl) rfl rfl) (xm rfl (xm rfl ?_)))))
 refine xo rfl (fun _=>AR rfl (BG.oz [agg (CM e),MF c,C9 l] ([]:List BC) AV fun z hz_=>Hx (e:=e) (c:=c) (l:=l) (r:=z) hz hn hc AA hz_) ⟨ke rfl,ke rfl,ke rfl,ke rfl,ke rfl,ke rfl,ke rfl,ke rfl,ke rfl,trivial⟩) ?_
 refine xm rfl (xo rfl (fun _=>Ap rfl (vl rfl) rfl) (xo rfl (fun _=>Ap rfl (vl rfl) rfl) (xo rfl (fun _=>Ap rfl (vl rfl) rfl) (Cx.ef 0 rfl rfl AB (CC rfl rfl AB rfl z35 E9) (Cx.ef 1 rfl rfl AB (CC rfl rfl AB rfl z107 Ed) (Cx.DP 0 rfl rfl (K6 (f:=fun z:List BX×List BC×List Int=>[C9 z.1,reqs z.2.1,ints z.2.2]) (φ:=fun z:List BX×List BC×List Int=>SW e.Bv.length z.1 z.2.1 z.2.2) rfl rfl rfl AB rfl rfl CG (fun _=>rfl) rfl) (Cx.DP 1 rfl rfl (CZ rfl rfl rfl rfl (Va rfl) Bo rfl rfl) (xm rfl ?_))))))))
 refine Cx.nil ⟨rfl,?_⟩
 refine BE.open_ 0 33 rfl rfl (fun v5=> ?_)
 refine BE.open_ 1 34 rfl rfl (fun v6=> ?_)
 refine BE.done (As.cons (As.cons (As.cons (As.cons (As.map _))))) (Fin.LX 33 0 _ rfl rfl (fun _=>rfl) (fun b9=> ?_))
 refine Fin.eT 0 rfl (fun pe3 AHs=> ?_)
 refine Fin.LX 34 1 _ rfl rfl (fun _=>rfl) (fun b10=> ?_)
 refine Fin.go (wk5 16 17 33 34 35 rfl (Tr.seq (Tr.Aj (cm rfl (Ch.nil (Fin.go (Tr.ex 149 rfl fun ADO=> ?_)))))))
 refine Tr.cn rfl ?_ ?_<;>intro h11 Sx
 refine Tr.seq (Tr.GA mixed [some (0,0,false,0),some (0,1,false,0),some (0,3,true,0),some (0,2,true,0),none] BS (IV 0 rfl rfl (B0 rfl Cn CG (vl rfl) rfl rfl) (IV 1 rfl rfl (B0 rfl CS Bo (vl rfl) rfl rfl) (Cx.DP 3 rfl rfl (A0 rfl rfl (vl rfl) (Va rfl) CG rfl Ao rfl) (Cx.DP 2 rfl rfl (A0 rfl rfl (vl rfl) (Va rfl) Bo rfl Ao rfl) (xm rfl ?_))))))
 refine Cx.nil ⟨rfl,?_⟩
 refine BE.done (As.cons (As.cons (As.cons (As.cons (As.map _))))) (Fin.go (Tr.drop 0 (Tr.drop 0 (Tr.ret (Fin.AE (Fin.FK rfl (AM.cell 1 rfl rfl Cn CG rfl (Lr)) (AM.cell 0 rfl rfl CS Bo rfl (Lr)) (AM.tmp rfl (Lr)) ?_))))))
 refine Az ⟨?_,?_,?_,trivial⟩
 · exact PU
 · exact Lr
 · exact C6
 refine Tr.skip (Fin.go (Tr.drop 0 (Tr.drop 0 (Tr.seq (Tr.An (tp rfl (Ak (rows:=[]) rfl Lx E9 trivial rfl) (tp rfl (Ak (rows:=[]) rfl JY Ed trivial rfl) (TO.AK 1 rfl rfl rfl (vl rfl) (Va rfl) rfl CG rfl rfl (TO.AK 0 rfl rfl rfl (vl rfl) (Va rfl) rfl Bo rfl rfl (tm rfl (TO.nil (Fin.go (Tr.ret (Fin.FK rfl (AM.cell 1 rfl rfl Cn CG rfl (Lr)) (AM.cell 0 rfl rfl CS Bo rfl (Lr)) (AM.tmp rfl (Lr)) ?_))))))))))))))
 refine Az ⟨?_,?_,?_,trivial⟩
 · exact FB
 · exact D8
 · exact C6
theorem zJ (s:DS):s.of [1,0,3]=1∨s.of [1,0,3]=0∨s.of [1,0,3]=3:=by have:=s.Q4 (l:=[1,0,3]) AV;simp at this;exact this
theorem fA (s:DS) {k:Nat} (hk:k≤7):0≤((k:Nat):Int)*s.of [1,0,3]∧((k:Nat):Int)*s.of [1,0,3]≤21:=by rcases zJ s with h|h|h<;>rw [h]<;>omega
theorem qK {o:List Int} {x:Int} (h:∀y∈o,0≤y∧y≤40000) (hx:0≤x∧x≤40000):∀y∈o++[x],0≤y∧y≤40000:=fun y hy=>by
 rcases List.mem_append.1 hy with hy|hy
 · exact h y hy
 · rw [List.mem_singleton] at hy;subst hy;exact hx
theorem zK {b:Nat} {s:DS}  :Bj prog 13 [ptr b 0] (Cp.ex fun e:Dp=>fact (Oj e) (Dz [agg (CM e),e_ e.Bv.length,ER])) (Dh b s) (fun _=>I5 104 b):=by
 refine Bj.of func13 rfl rfl Ao fun M0 w0 S rs M1 w1=> ?_
 refine Tr.seq (Tr.An ?_)
 refine Tl rfl rfl rfl rfl z31 IW (fun b1=> ?_)
 refine Tl rfl rfl rfl rfl z35 E9 (fun b2=> ?_)
 refine tm rfl (TO.nil (Fin.go (Tr.seq (Tr.An (tm rfl (TO.IP 2 rfl rfl AB (Aq rfl rfl AB rfl (mz) ⟨ke rfl,trivial⟩) ?_))))))
 refine TO.ex 13 rfl (fun z1=>TO.fact 13 rfl fun Ef=> ?_)
 refine Tl rfl rfl rfl rfl z31 IW (fun b3=> ?_)
 refine TO.AK 0 rfl rfl rfl (vl rfl) (Va rfl) rfl De rfl rfl (TO.freeze 0 5 rfl rfl (TO.nil (Fin.TW 2 rfl (fun s1=> ?_))))
 refine Fin.go (Tr.seq (Tr.An (tm rfl (tp rfl (AP rfl Dg De (vl rfl) rfl rfl) ?_))))
 refine TO.IP 2 rfl rfl AB (Aq rfl rfl AB rfl (tg (e:=z1) Ef.snd ⟨by have:=Ef.n2;omega,Ef.n3⟩) ⟨ke rfl,ke rfl,trivial⟩) ?_
 refine TO.ex 16 rfl (fun z2=>TO.fact 16 rfl fun Iv=> ?_)
 refine tm rfl (TO.nil (Fin.TW 2 rfl (fun s2=> ?_)))
 refine Fin.go (wk5 0 2 3 5 6 rfl (Tr.seq ?_))
 have jm:∀x∈z2,x.Cy.fits∧x.Cy.small:=fun x hx=>⟨(Iv.any x hx).fits,(Iv.any x hx).small⟩
 have h7:=Iv.len
 refine Tr.pad (Tr.pad (Tr.GA mixed [none,none,none,none,none,none,none,none,none,none,none,none,none,some (0,0,true,7),some (0,1,true,8),some (7,0,true,7),some (8,1,true,8),none] BS (xo rfl (fun _=>AP rfl Dg De (vl rfl) rfl rfl) (xo rfl (fun _=>NT rfl HI rfl rfl) (xo rfl (fun _=>Fw rfl Oa rfl) (xo rfl (fun _=>CB rfl underlying27 (vl rfl)) ?_))))))
 refine xo rfl (fun _=>AR rfl (zF (n:=z1.Bv.length) (by have:=Ef.n3;omega)) ⟨ke rfl,trivial⟩) ?_
 refine xm rfl (xo rfl (fun _=>Ak (rows:=[]) rfl AA3 AA4 trivial rfl) (xo rfl (fun _=>Ak (rows:=[]) rfl AA5 AA6 trivial rfl) ?_))
 refine xo rfl (fun _=>AR rfl (jJ (e:=z1) (c:=wR z1.Bv.length) (l:=z2) Ef.sz AA jm Iv.len) ⟨ke rfl,ke rfl,ke rfl,⟨_,rfl,BR ⟨AQ 6,AQ 2,trivial⟩⟩,⟨_,rfl,AQ _⟩,⟨_,rfl,BR ⟨AQ 1,Lr,trivial⟩⟩,ke rfl,ke rfl,trivial⟩) ?_
 refine xm rfl (xo rfl (fun _=>Ap rfl (vl rfl) rfl) (xo rfl (fun _=>Ap rfl (vl rfl) rfl) (xo rfl (fun _=>Ap rfl (vl rfl) rfl) (Cx.ef 0 rfl rfl AB (CC rfl rfl AB rfl z35 E9) (Cx.ef 1 rfl rfl AB (CC rfl rfl AB rfl z107 Ed) (Cx.DP 0 rfl rfl (K6 (f:=fun z:List BX×List BC×List Int=>[C9 z.1,reqs z.2.1,ints z.2.2]) (φ:=fun z:List BX×List BC×List Int=>SW z1.Bv.length z.1 z.2.1 z.2.2) rfl rfl rfl AB rfl rfl CG (fun _=>rfl) rfl) (Cx.DP 1 rfl rfl (CZ rfl rfl rfl rfl (Va rfl) Bo rfl rfl) (xm rfl ?_))))))))
 refine Cx.nil ⟨rfl,?_⟩
 refine BE.open_ 0 7 rfl rfl (fun v1=> ?_)
 refine BE.open_ 1 8 rfl rfl (fun v2=> ?_)
 refine BE.done (As.cons (As.cons (As.cons (As.cons (As.cons (As.cons (As.map _))))))) (Fin.LX 7 0 _ rfl rfl (fun _=>rfl) (fun b4=> ?_))
 refine Fin.eT 0 rfl (fun pe1 ADN=> ?_)
 refine Fin.LX 8 1 _ rfl rfl (fun _=>rfl) (fun b5=> ?_)
 refine Fin.go (Tr.drop 1 (kY 0 2 3 5 6 7 9 rfl (Tr.seq (Tr.seq (Tr.ex 9 rfl fun x9=>(Tr.Aj (cm rfl (co rfl (ki rfl rfl rfl rfl) (Ch.nil (Fin.go ?_))))))))))
 refine Tr.cn rfl ?_ ?_<;>intro h1 q1
 refine Tr.seq (Tr.GA mixed [none,some (0,0,false,0),some (0,2,true,0),some (0,1,true,0),none] BS (xo rfl (fun _=>AP rfl Dg De (vl rfl) rfl rfl) (IV 0 rfl rfl (B0 rfl Cn CG (vl rfl) rfl rfl) (Cx.DP 2 rfl rfl (A0 rfl rfl (vl rfl) (Va rfl) De rfl Ao rfl) (Cx.DP 1 rfl rfl (A0 rfl rfl (vl rfl) (Va rfl) CG rfl Ao rfl) (xm rfl ?_))))))
 refine Cx.nil ⟨rfl,?_⟩
 refine BE.done (As.cons (As.cons (As.cons (As.cons (As.cons (As.map _)))))) (Fin.go (Tr.drop 0 (Tr.ret (Fin.AE (Fin.HF 2 _ rfl rfl (Fin.vP [_,_] rfl (AM.cell 1 rfl rfl Dg De rfl (Lr)) (AM.cell 0 rfl rfl Cn CG rfl (Lr)) (AM.tmp rfl (Lr)) ?_))))))
 · exact Ax z1 (A_ Ef (Az ⟨Lr,Ax pe1 (A_ ADN (Lr)),Ax _ (Lr),trivial⟩))
 refine Tr.skip (Fin.go (Tr.drop 0 (Tr.seq (Tr.An (tm rfl (tm rfl (tm rfl (tp rfl (CB rfl underlying32 (vl rfl)) ?_))))))))
 refine TO.IP 2 rfl rfl AB (Aq rfl rfl AB rfl (u5 (n:=z2.length) (by have:=Iv.len;omega)) ⟨ke rfl,ke rfl,trivial⟩) ?_
 refine TO.ex 38 rfl (fun z3=>TO.fact 38 rfl fun hz3=> ?_)
 revert z3
 intro rq hrq
 refine tp rfl (Ak (rows:=[(0,[_]),(1,[_])]) rfl Lx E9 ⟨⟨rfl,(Vo rfl)⟩,⟨⟨rfl,(Vo rfl)⟩,trivial⟩⟩ rfl) ?_
 refine Tl rfl rfl rfl rfl z35 E9 (fun b6=> ?_)
 refine TO.AK 0 rfl rfl rfl (vl rfl) (Va rfl) rfl CG rfl rfl (TO.nil (Fin.TW 3 rfl (fun s3=> ?_)))
 refine Fin.go (wk6 0 2 3 5 6 10 rfl (Tr.seq (Tr.seq (Tr.Aj (cm rfl (co rfl (CB rfl underlying32 (vl rfl)) (cm rfl (Ch.nil (Fin.go (Tr.block (Tr.HY 0 [C9 z2,reqs rq,Ad (.slice none 0 0) (ints [])] rfl ⟨Lr,Lr,Bi rfl,trivial⟩ (Tr.B5 3 1 (Tr.Fc [(0,_),(2,_),(3,_),(5,_),(10,_),(41,_)] ⟨ke rfl,ke rfl,ke rfl,ke rfl,ke rfl,ke rfl,trivial⟩ (fun (k:Nat) (dd:List Int) (s2:DS) v=>[(42,int ((k:Nat):Int))]) (fun (k:Nat) (dd:List Int) (s2:DS) v=>Hp M0 w0 S (Aw 3 1 v::AF true b6 35 [C9 z2,reqs rq,Ad v (ints dd)]::AF true b2 35 (([.slice none 0 0,.slice none 0 0,.slice none 0 0]:List Value).map is)::AF true b1 31 (([.slice none 0 0,.slice none 0 0,.slice none 0 0]:List Value).map is)::Dh b s2::Al M1 w1::rs)) (fun (k:Nat) (dd:List Int) (s2:DS)=>(k≤z2.length∧dd.length=k)∧∀x∈dd,0≤x∧x≤40000) (fun (k:Nat) (dd:List Int) (s2:DS)=>z2.length-k) (0) ([]) (_) (.slice none 0 0) (⟨⟨Nat.zero_le _,rfl⟩,fun x h=>FW⟩) ⟨ke rfl,trivial⟩ (fun _ _ h=>h) ?_)))))))))))))
 rintro k dd s2 v ⟨⟨hk0,OI⟩,hdb⟩
 refine Tr.seq (Tr.Aj (co rfl (ki rfl rfl rfl rfl) (Ch.nil (Fin.go (Tr.seq ?_)))))
 refine Tr.cn rfl ?_ ?_<;>intro h2 q2
 have hk:k<z2.length:=AH h2
 refine Tr.skip (Fin.go (Tr.seq (Tr.block (Tr.seq (Tr.Aj (cm rfl (cm rfl (Ch.nil (Fin.go (Tr.pad (Tr.GA mixed [none,some (0,2,false,0),none,none,none,some (0,5,true,0),none,none,some (0,1,true,53),none,some (0,2,true,53)] BS (xo rfl (fun _=>AW rfl ZB (vl rfl)) (IV 2 rfl rfl (BI rfl J6 (vl rfl) rfl) ?_)))))))))))))
 refine xm rfl (xm rfl (xo rfl (fun _=>AO (xs:=[.const (.int .i64 (1)),.const (.int .i64 (0)),.const (.int .i64 (3))]) (rows:=[[_],[_],[_]]) rfl rfl underlying22 Bt z3 rfl AB ⟨⟨Am,(Vo rfl)⟩,⟨⟨Am,(Vo rfl)⟩,⟨⟨Am,(Vo rfl)⟩,trivial⟩⟩⟩ AB) ?_))
 refine Cx.ef 5 rfl rfl AB (Aq rfl rfl AB rfl (XE (l:=[1,0,3]) AV AV) ⟨ke rfl,(Kf rfl),trivial⟩) ?_
 refine xo rfl (fun _=>kM rfl (vl rfl) (vl rfl) (by have:=fA s2 (k:=k) AA;unfold Ni;omega)) ?_
 refine xo rfl (fun _=>AO (xs:=[.tmp 51]) (rows:=[[_]]) rfl rfl underlying22 Bt z3 rfl AB ⟨⟨Am,(Vo rfl)⟩,trivial⟩ AB) ?_
 refine Cx.ef 1 rfl rfl AB (B7 rfl rfl rfl rfl underlying22 Bt G2 z3 (Kb rfl) (Kf rfl) (Ay BL (Ka rfl))) ?_
 refine xo rfl (fun _=>AW rfl ZB (vl rfl)) (Cx.DP 2 rfl rfl (GD rfl rfl rfl (vl rfl) rfl Lw Ao) ?_)
 refine Cx.nil ⟨rfl,?_⟩
 refine BE.Q5 1 2 53 rfl rfl AB rfl (fun v3=> ?_)
 refine BE.done (As.cons (As.cons (As.cons (As.cons (As.cons (As.cons (As.cons (As.map _)))))))) (Fin.block (Fin.go (Tr.drop 0 (kY 0 2 3 5 10 41 42 rfl (Tr.Aj (MV rfl rfl rfl rfl AA (cm rfl (Ch.nil ?_))))))))
 refine Fin.HY 1 [C9 z2,reqs rq,Ad v3 (ints (dd++[(((k:Nat):Int)*s2.of [1,0,3])]))] rfl ⟨Lr,Lr,BA DR,trivial⟩ ?_
 exact Fin.EP (k+1) (dd++[(((k:Nat):Int)*s2.of [1,0,3])]) (_) v3 (⟨⟨⟨by omega,by simp;omega⟩,qK hdb (by have:=fA s2 (k:=k) AA;omega)⟩,by omega⟩) ⟨⟨_,rfl,AG k⟩,ke rfl,ke rfl,ke rfl,ke rfl,ke rfl,ke rfl,trivial⟩ (fun _ _ h=>h)
 have bB:=AJ h2
 refine Tr.exit (Fin.Ac (Fin.Ac (Fin.A7 (Fin.go (Tr.seq (Tr.GA mixed [none,some (0,1,false,0),some (0,3,true,0),some (0,2,true,0),none] BS (xo rfl (fun _=>AP rfl Dg De (vl rfl) rfl rfl) (IV 1 rfl rfl (B0 rfl Cn CG (vl rfl) rfl rfl) (Cx.DP 3 rfl rfl (A0 rfl rfl (vl rfl) (Va rfl) De rfl Ao rfl) (Cx.DP 2 rfl rfl (A0 rfl rfl (vl rfl) (Va rfl) CG rfl Ao rfl) (xm rfl ?_)))))))))))
 refine Cx.nil ⟨rfl,?_⟩
 refine BE.done (As.cons (As.cons (As.cons (As.cons (As.cons (As.cons (As.map _))))))) (Fin.go (Tr.ret (Fin.HF 4 _ rfl rfl (Fin.vP [_,_,_,_] rfl (AM.cell 3 rfl rfl Dg De rfl (Lr)) (AM.cell 2 rfl rfl Cn CG rfl (Lr)) (AM.tmp rfl (Lr)) ?_))))
 · exact Ax z1 (A_ Ef (Az ⟨Lr,Ax (z2,rq,dd) (A_ ⟨⟨by show z2.length≤24;omega,by show dd.length=z2.length;omega,hrq.1.valid (by show z2.length≤24;omega),fun j y c hj hy hcj=>⟨hdb y (List.mem_of_getElem? hy),(Iv.any c (List.mem_of_getElem? hcj)).lo,(Iv.any c (List.mem_of_getElem? hcj)).hi⟩⟩,h7,jm,by have:=hrq.2;show rq.length≤1000;omega⟩ (BR ⟨Lr,Lr,Ar _ _,trivial⟩)),Ax _ (Lr),trivial⟩))
section
variable {β:Type} {c:β×β→Int}
def SX (c:β×β→Int):Nat→List β→List β
 |0,st=>st
 |j+1,st=>match st[j+1]?,st[j]? with
  |some x,some y=>if c (x,y)<0 then SX c j ((st.set (j+1) y).set j x) else st
  |_,_=>st
def SY (c:β×β→Int) (x:β):List β→List β→List β
 |[],dn=>x::dn
 |y::rp,dn=>if c (x,y)<0 then SY c x rp (y::dn) else (y::rp).reverse++x::dn
def isB (c:β×β→Int) (l:List β):Nat→List β
 |0=>l
 |i+1=>SX c i (isB c l i)
theorem qL {j:Nat} {st:List β} {x y:β} (hx:st[j+1]? =some x) (hy:st[j]? =some y) (h:c (x,y)<0):SX c (j+1) st=SX c j ((st.set (j+1) y).set j x):=by rw [SX,hx,hy];simp [h]
theorem vA {j:Nat} {st:List β} {x y:β} (hx:st[j+1]? =some x) (hy:st[j]? =some y) (h:¬c (x,y)<0):SX c (j+1) st=st:=by rw [SX,hx,hy];simp [h]
theorem YH:∀(j:Nat) (st:List β),(SX c j st).length=st.length
 |0,_=>rfl
 |j+1,st=>by
  rw [SX]
  split
  ·
   split
   · rw [YH];simp
   · rfl
  · rfl
theorem qM (x:β):∀(rp dn:List β),SX c rp.length (rp.reverse++x::dn)=SY c x rp dn
 |[],dn=>rfl
 |y::rp,dn=>by
  have hx:((y::rp).reverse++x::dn)[rp.length+1]? =some x:=by
   rw [List.getElem?_append_right AV];simp
  have hy:((y::rp).reverse++x::dn)[rp.length]? =some y:=by
   rw [List.reverse_cons,List.append_assoc,List.getElem?_append_right AV];simp
  have hs:(((y::rp).reverse++x::dn).set (rp.length+1) y).set rp.length x=rp.reverse++x::(y::dn):=by
   rw [List.reverse_cons,List.append_assoc,List.set_append_right _ _ AV]
   simp
  unfold SY
  show SX c (rp.length+1) _=_
  by_cases h:c (x,y)<0
  · rw [qL hx hy h,hs,qM x rp (y::dn),if_pos h]
  · rw [vA hx hy h,if_neg h]
theorem fB {R:β→β→Prop} (ht:∀a b d,R a b→R b d→R a d) {x:β}:∀(rp dn:List β),(rp.reverse++dn).Pairwise R→(∀z∈dn,R x z)→(∀y∈rp,(c (x,y)<0→R x y)∧(¬c (x,y)<0→R y x))→
  (SY c x rp dn).Pairwise R∧(SY c x rp dn).Perm (x::(rp.reverse++dn))
 |[],dn,h,hd,_=>by
  unfold SY
  exact ⟨List.pairwise_cons.2 ⟨hd,by simpa using h⟩,by simp⟩
 |y::rp,dn,h,hd,hc=>by
  obtain ⟨h1,h2⟩:=hc y AV
  unfold SY
  by_cases hlt:c (x,y)<0
  ·
   rw [if_pos hlt]
   obtain ⟨g1,g2⟩:=fB ht (x:=x) rp (y::dn) D3 (fun z hz=>by
    rcases List.mem_cons.1 hz with rfl|hz
    · exact h1 hlt
    · exact hd z hz) (fun z hz=>hc z (List.mem_cons_of_mem _ hz))
   exact ⟨g1,by simpa using g2⟩
  ·
   rw [if_neg hlt]
   have hyx:=h2 hlt
   rw [List.pairwise_append] at h ⊢
   obtain ⟨p1,p2,p3⟩:=h
   refine ⟨⟨p1,List.pairwise_cons.2 ⟨hd,p2⟩,fun a ha b hb=> ?_⟩,?_⟩
   ·
    have hax:R a x:=by
     simp only [List.reverse_cons,List.mem_append,List.mem_reverse,List.mem_singleton] at ha
     rcases ha with ha|rfl
     ·
      refine ht _ _ _ ?_ hyx
      rw [List.reverse_cons,List.pairwise_append] at p1
      exact p1.2.2 a (List.mem_reverse.2 ha) y AV
     · exact hyx
    rcases List.mem_cons.1 hb with rfl|hb
    · exact hax
    · exact ht _ _ _ hax (hd b hb)
   · exact List.perm_middle
theorem qN {R:β→β→Prop} (ht:∀a b d,R a b→R b d→R a d) {l:List β} (hc:∀(i j:Nat) x y,j<i→l[i]? =some x→l[j]? =some y→(c (x,y)<0→R x y)∧(¬c (x,y)<0→R y x)):
  ∀(i:Nat),i≤l.length→∃st,isB c l i=st++l.drop i∧st.Pairwise R∧st.Perm (l.take i)
 |0,_=>⟨[],by simp [isB],List.Pairwise.nil,by simp⟩
 |i+1,hi=>by
  obtain ⟨st,h1,h2,h3⟩:=qN ht hc i AA
  obtain ⟨x,hx⟩:=at_ (l:=l) (k:=i) AA
  have hl:st.length=i:=by rw [h3.length_eq,List.length_take];omega
  have hd:l.drop i=x::l.drop (i+1):=by
   rw [List.drop_eq_getElem_cons (show i<l.length by omega)]
   rw [List.getElem?_eq_getElem (show i<l.length by omega)] at hx;cases hx;rfl
  have hk:=qM (c:=c) x st.reverse (l.drop (i+1))
  rw [List.length_reverse,List.reverse_reverse,hl] at hk
  have key:∀(rp dn rest:List β),SY c x rp (dn++rest)=SY c x rp dn++rest:=by
   intro rp
   induction rp with
   |nil=>intro dn rest;rfl
   |cons y rp ih=>
    intro dn rest
    unfold SY
    split
    · exact ih (y::dn) rest
    · simp
  have hk2:=key st.reverse [] (l.drop (i+1))
  rw [List.nil_append] at hk2
  obtain ⟨g1, g2⟩ := fB ht (c := c) (x := x) st.reverse [] Iu (fun z hz => by cases hz) (fun y hy => by
   have n5:y∈l.take i:=h3.mem_iff.1 (List.mem_reverse.1 hy)
   obtain ⟨j,hj⟩:=List.getElem?_of_mem n5
   rw [List.getElem?_take] at hj
   split at hj
   next hji=>exact hc i j x y hji hx hj
   next=>cases hj)
  refine ⟨SY c x st.reverse [],?_,g1,?_⟩
  · rw [isB,h1,hd,hk,hk2]
  ·
   refine g2.trans ?_
   rw [List.reverse_reverse,List.append_nil,List.take_add_one,hx]
   exact ((List.perm_append_comm (l₁:=[x]) (l₂:=st)).trans (h3.append_right [x]))
end
structure Fnd where
 src:Int
 host:List UInt8
 machine:Int
 day:Int
 ADP:Int
 kind:Int
 vB:List UInt8
 CH:Int
 bits:Int
 num:Int
 text:List UInt8
structure Fnd.fits (f:Fnd):Prop where
 host:f.host.length≤maxLen
 vB:f.vB.length≤maxLen
 text:f.text.length≤maxLen
def orL:List Int→Int
 |[]=>0
 |a::l=>if a=0 then orL l else a
def ADQ (a b:Fnd):List Int:=[Lib.compareBytes a.host b.host,Jp a.machine b.machine,Jp a.day b.day,Lib.compareBytes a.vB b.vB,Jp a.kind b.kind,Jp a.CH b.CH,Jp a.bits b.bits,Jp a.num b.num,Lib.compareBytes a.text b.text,Jp a.src b.src,Jp a.ADP b.ADP]
def AGa (a b:Fnd):Int:=orL (ADQ a b)
def kF (l:List Fnd) (f:Fnd):Nat:=(l.reverse.dropWhile fun x=>decide (0<AGa x f)).length
def InR (own:List Int) (m:Nat):Prop:=∀i∈own,0≤i∧i<(m:Int)
instance (own:List Int) (m:Nat):Decidable (InR own m):=inferInstanceAs (Decidable (∀i∈own,0≤i∧i<(m:Int)))
theorem A_ {φ:Prop} {p q:Pr} (h:φ) (hl:Pr.le p q):Pr.le p (fact φ q):=fun _ _ _ hp=>⟨h,hl _ _ _ hp⟩
section
variable {c:Int×Int→Int}
theorem fC (l:List Int):∀i,(isB c l i).length=l.length
 |0=>rfl
 |i+1=>by rw [isB,YH,fC l i]
end
def StL (c:Int×Int→Int) (l st:List Int):Prop:=st=isB c l l.length
theorem StL.len {c:Int×Int→Int} {l st:List Int} (h:StL c l st):st.length=l.length:=by unfold StL at h;rw [h,fC]
def zL (d:List Int) (p:Int×Int):Int:=Jp (d.getD p.1.toNat 0) (d.getD p.2.toNat 0)
def ON (n:Nat):List Int:=(List.range n).map fun i:Nat=>(i:Int)
theorem Qn (n:Nat):(ON n).length=n:=by unfold ON;rw [List.length_map,List.length_range]
theorem fD {n i:Nat} (h:i<n):(ON n)[i]? =some (i:Int):=by unfold ON;rw [List.getElem?_map,List.getElem?_range h];rfl
theorem qO {n:Nat}:∀x∈ON n,0≤x∧x<(n:Int):=fun x hx=>by
 unfold ON at hx
 obtain ⟨i,hi,rfl⟩:=List.mem_map.1 hx
 have:=List.mem_range.1 hi
 omega
def NP (d:List Int):List Int:=isB (zL d) (ON d.length) d.length
def WK (d:List Int) (a b:Int):Prop:=d.getD a.toNat 0<d.getD b.toNat 0∨d.getD a.toNat 0=d.getD b.toNat 0∧a<b
theorem vC {a b:Int}:Jp a b<0↔a<b:=by unfold Jp;split;omega;split<;>omega
theorem fE (d:List Int):(NP d).Pairwise (WK d)∧(NP d).Perm (ON d.length):=by
 obtain ⟨st, h1, h2, h3⟩ := qN (c := zL d) (R := WK d) (l := ON d.length) (fun a b e h1 h2 => by unfold WK at *; omega) (fun i j x y hij hx hy => by
  have hi:=BM hx
  have hj:=BM hy
  rw [Qn] at hi hj
  rw [fD hi] at hx
  rw [fD hj] at hy
  cases hx;cases hy
  unfold zL WK
  rw [vC]
  simp only
  omega) d.length Uq
 have h4:(ON d.length).drop d.length=[]:=List.drop_eq_nil_of_le Uq
 have h5:(ON d.length).take d.length=ON d.length:=List.take_of_length_le Uq
 rw [h4,List.append_nil] at h1
 rw [h5] at h3
 unfold NP
 rw [h1]
 exact ⟨h2,h3⟩
end Go.Proofs.YtmocaapoeefgkaaGreatDoor
namespace Cp
open Go Go.RowKit Go.Great
section
variable {P:Program} {n:Fm} {E:Env} {M0:Av} {w0:World} {S:Nat→Prop} {o:Oper}
theorem qP {j s:Nat} {R:SR} {p1:Pr} {R':Value→At} (hd:o.dst=none) (h1:E.lookup s=some p1) (hls:s∈looks o) (hg:o.guard=none) (h:∀v,DI P M0 w0 S n j R (SR.c (R' v)) o ((s,Ad v p1)::E) any):DI P M0 w0 S n j R ⟨s,R'⟩ o E any:=by
 refine ⟨hg,fun M w a rs hsz he hI hj=> ?_⟩
 refine D4.conv (Pr.le_refl _) (fun v=> ?_) ((h (a.tmps.getD s undef)).2 M w a rs hsz (GK he s (he s p1 hls h1)) hI hj)
 rw [hd];rfl
theorem zM {j s t:Nat} {f:Value→At} {p1:Pr} {R':Value→Value→At} (hd:o.dst=none) (h1:E.lookup t=some p1) (hlt:t∈looks o) (hg:o.guard=none) (h:∀u v,DI P M0 w0 S n j (SR.c (f u)) (SR.c (R' u v)) o ((t,Ad v p1)::E) any):DI P M0 w0 S n j ⟨s,f⟩ ⟨.two t s,T5 R'⟩ o E any:=by
 refine ⟨hg,fun M w a rs hsz he hI hj=> ?_⟩
 refine D4.conv (Pr.le_refl _) (fun v=> ?_) ((h (a.tmps.getD s undef) (a.tmps.getD t undef)).2 M w a rs hsz (GK he t (he t p1 hlt h1)) hI hj)
 rw [NL,hd];rfl
def AGb (u:Value):Value:=match u with| .tuple t=>t.getD 0 undef|_=>undef
def wU (T R:At):At:=⟨R.blk,R.new,fun M w=>(T.blk=none∧T.h M w)∧R.h M w,fun M w M' w' he hk h=>⟨⟨h.1.1,T.st M w M' w' he (fun b hb=>by rw [h.1.1] at hb;cases hb) h.1.2⟩,R.st M w M' w' he hk h.2⟩⟩
theorem Fj.both {f:FuncId} {args:List Pr} {T:At} (hT:T.blk=none) {p k:Pr} {R:Value→At} (h:Fj (α:=Value) P f args [T] (fun _=>True) (fun x=>Dz [Ad x p,k]) (fun x=>[T,R x])):Bj P f args (Dz [p,k]) T (fun u=>wU T (R (AGb u))):=by
 refine ⟨h.1,fun M0 w0 S rs M w vs hI hv=>(h.2 M0 w0 S rs M w vs hI hv).mono ?_⟩
 rintro e' w' ⟨u,M',x,rfl,_,h1,h2,h3⟩
 have h3:A9 M0 w0 S (T::R x::rs) M' w':=h3
 obtain ⟨cs,rfl,g2⟩:=h1
 match cs,g2 with
 |[a,b],⟨⟨e1,g3⟩,g4,_⟩=>
  have e1:a=x:=e1
  subst e1
  have hh:=(h3.hold T (List.mem_cons_self ..)).1
  have h4:=(A9.perm (List.Perm.swap _ _ _) h3).C4 (i:=0) (r':=wU T (R a)) rfl rfl rfl ⟨⟨hT,hh⟩,(h3.hold (R a) (List.mem_cons_of_mem _ (List.mem_cons_self ..))).1⟩
  exact ⟨_,M',rfl,⟨[a,b],rfl,g3,g4,trivial⟩,h2,(A9.perm (List.Perm.swap _ _ _) h4).J3⟩
end
section
variable {P:Program} {n:Fm} {E:Env} {M0:Av} {w0:World} {S:Nat→Prop} {rs:List At}
end
section
variable {P:Program} {g:Func} {fz:Nat} {E:Env} {M0 M1:Av} {w0 w1:World} {S:Nat→Prop} {rs:List At}
theorem Fin.wV {α:Type} {C:α→Prop} {rv:ResultVar} {q:Pr} {res:α→Pr} {post:α→List At} {rs':List At} (x:α) (dr:List At) (hr:g.results= #[rv]) (h:AM P E rs' rv q) (hc:C x) (hl:Pr.le q (res x)) (hp:rs'.Perm (dr++(post x++Al M1 w1::rs))):
  Fin ⟨fz,[]⟩ E (Hp M0 w0 S rs') (bodyPost P g (Of M0 w0 S rs M1 w1 C res post)) .ret:=by
 rintro a w ⟨M,_,hd,he,hi⟩
 have hi:A9 M0 w0 S rs' M w:=hi
 obtain ⟨u,hu,hp'⟩:=h M w a he (fun q hq=>(hi.hold q hq).1)
 obtain ⟨h1,h2⟩:=Fl (A9.lT (A9.perm hp hi))
 exact ⟨hd,u,results1 hr hu,_,M,x,rfl,hc,hl _ _ _ hp',h1,h2⟩
end
end Cp
namespace Go.Proofs.YtmocaapoeefgkaaGreatDoor
open Go Go.RowKit Cp Go.Proofs.Tryz
def aj (r:List BC) (d s:List Int):Int:=if E2 (d.length:Nat) r s=0 then 0 else 46
def ID (r:List BC) (d s:List Int) (day:Int):List Int:=(JP (d.length:Nat) r s).filter fun i=> !decide (d.getD i.toNat 0>day)
theorem fF {n:Nat} {r:List BC} {s:List Int}:∀x∈JP (n:Int) r s,0≤x∧x<(n:Int):=fun x hx=>by
 unfold JP at hx
 split at hx
 ·
  unfold Dm at hx
  obtain ⟨i,hi,rfl⟩:=List.mem_map.1 hx
  have:=List.mem_range.1 (List.mem_filter.1 hi).1
  omega
 · cases hx
theorem wW {r:List BC} {d s:List Int} (h:E2 (d.length:Nat) r s=0):aj r d s=0:=by unfold aj;rw [if_pos h]
theorem zN {r:List BC} {d s:List Int} {day:Int} (h:E2 (d.length:Nat) r s≠0):aj r d s=46∧ID r d s day=[]:=by
 unfold aj ID;rw [if_neg h,y5 rfl h];exact ⟨rfl,rfl⟩
-- AGc to an ascending set (behind Rq.lean)
theorem SZ {x:Int}:∀(s q:List Int),x∉s→s.foldl (Df x true) (q,true)=(q++s,true)
 |[],q,_=>by simp
 |y::s,q,h=>by
  have hy:y≠x:=fun e=>h (by rw [e];exact List.mem_cons_self ..)
  rw [List.foldl_cons,show Df x true (q,true) y=(q++[y],true) by unfold Df;rw [if_neg hy];simp]
  rw [SZ s (q++[y]) (fun hh=>h (List.mem_cons_of_mem _ hh))];simp
theorem fG {x:Int}:∀(s acc:List Int),(acc++s).Pairwise (· < ·)→x∉s→(∀y∈acc,y<x)→(if (s.foldl (Df x true) (acc,false)).2=false then (s.foldl (Df x true) (acc,false)).1++[x] else (s.foldl (Df x true) (acc,false)).1).Pairwise (· < ·)
 |[],acc,h,_,ha=>by
  simp only [List.foldl_nil,if_true]
  rw [List.append_nil] at h
  rw [List.pairwise_append]
  exact ⟨h,List.pairwise_singleton _ _,fun a h1 b h2=>by rw [List.mem_singleton] at h2;subst h2;exact ha a h1⟩
 |y::s,acc,h,hx,ha=>by
  have hy:y≠x:=fun e=>hx (by rw [e];exact List.mem_cons_self ..)
  have hxs:x∉s:=fun hh=>hx (List.mem_cons_of_mem _ hh)
  rw [List.foldl_cons]
  rcases Int.lt_or_le x y with hxy|hxy
  ·
   rw [show Df x true (acc,false) y=(acc++[x]++[y],true) by unfold Df;rw [if_neg hy,if_pos ⟨rfl,rfl,hxy⟩],SZ s _ hxs]
   rw [if_neg AV]
   simp only [List.append_assoc,List.singleton_append]
   rw [List.pairwise_append] at h ⊢
   obtain ⟨h1,h2,h3⟩:=h
   rw [List.pairwise_cons] at h2
   refine ⟨h1,List.pairwise_cons.2 ⟨fun b hb=> ?_,List.pairwise_cons.2 h2⟩,fun a h4 b h5=> ?_⟩
   ·
    rcases List.mem_cons.1 hb with rfl|hb
    · exact hxy
    · exact Int.lt_trans hxy (h2.1 b hb)
   ·
    rcases List.mem_cons.1 h5 with rfl|h5
    · exact ha a h4
    · exact h3 a h4 b h5
  ·
   have hlt:y<x:=by omega
   rw [show Df x true (acc,false) y=(acc++[y],false) by unfold Df;rw [if_neg hy,if_neg (fun hh=>by have:=hh.2.2;omega)]]
   refine fG s (acc++[y]) (by rw [List.append_assoc];exact h) hxs fun b hb=> ?_
   rcases List.mem_append.1 hb with hb|hb
   · exact ha b hb
   · rw [List.mem_singleton] at hb;subst hb;exact hlt
theorem YI {s:List Int} {x:Int} (h:s.Pairwise (· < ·)) (hx:x∉s):(Dq s x true).Pairwise (· < ·):=by
 have h1:=fG s [] h hx (fun y hy=>by cases hy)
 unfold Dq wall
 simpa using h1
theorem QL {n:Nat} {l:List BC} {s:List Int} {x:Int} (h:x∈Dm n l s true):(0≤x∧x<(n:Int))∧x∉s∧CD l (Dq s x true)=true:=by
 unfold Dm at h
 obtain ⟨i,hi,rfl⟩:=List.mem_map.1 h
 obtain ⟨h1,h2⟩:=List.mem_filter.1 hi
 have h3:=List.mem_range.1 h1
 unfold LH at h2
 rw [Bool.and_eq_true] at h2
 refine ⟨by omega,fun hc=> ?_,h2.2⟩
 rw [C3.2 hc] at h2
 exact absurd h2.1 AB
theorem vD {n:Nat} {l:List BC} {s:List Int} (h:∀i:Nat,i<n→(i:Int)∈s):Dm n l s true=[]:=by
 unfold Dm
 rw [List.map_eq_nil_iff,List.filter_eq_nil_iff]
 intro i hi
 unfold LH
 rw [C3.2 (h i (List.mem_range.1 hi))]
 simp
theorem qQ {n:Nat} {s:List Int} (h:s.length<n):∃i:Nat,i<n∧(i:Int)∉s:=by
 refine Classical.byContradiction fun hc=> ?_
 have h2:∀x∈(List.range n).map fun i:Nat=>(i:Int),x∈s:=fun x hx=>by
  obtain ⟨i,hi,rfl⟩:=List.mem_map.1 hx
  exact Classical.byContradiction fun hn=>hc ⟨i,List.mem_range.1 hi,hn⟩
 have h3:=K2 (L:=(List.range n).map fun i:Nat=>(i:Int)) (M:=s) (List.Pairwise.map _ (fun a b hab e=>hab AA) (List.nodup_range (n:=n))) h2
 rw [List.length_map,List.length_range] at h3
 omega
theorem qR {n:Nat} {s:List Int} (hp:s.Pairwise (· < ·)) (hr:∀x∈s,0≤x∧x<(n:Int)) (h:s.length=n):∀i:Nat,i<n→(i:Int)∈s:=fun i hi=>by
 refine Classical.byContradiction fun hn=> ?_
 have hnd:s.Nodup:=hp.imp (fun hab e=>by omega)
 have h3:=K2 (L:=(i:Int)::s) (M:=(List.range n).map fun i:Nat=>(i:Int)) (List.nodup_cons.2 ⟨hn,hnd⟩) (fun x hx=>by
  rcases List.mem_cons.1 hx with rfl|hx
  · exact List.mem_map.2 ⟨i,List.mem_range.2 hi,rfl⟩
  ·
   have:=hr x hx
   exact List.mem_map.2 ⟨x.toNat,List.mem_range.2 AA,by omega⟩)
 rw [List.length_map,List.length_range,List.length_cons] at h3
 omega
theorem ak:∀(l:List Int) (a:Int),a≤l.foldl max a∧(∀x∈l,x≤l.foldl max a)
 |[],a=>⟨Int.le_refl _,(fun x h=>by cases h)⟩
 |b::l,a=>by
  obtain ⟨h1,h2⟩:=ak l (max a b)
  rw [List.foldl_cons]
  refine ⟨by omega,fun x hx=> ?_⟩
  rcases List.mem_cons.1 hx with rfl|hx
  · omega
  · exact h2 x hx
theorem MQ.days {m:Nat} {l:List BX} {r:List BC} {d:List Int} (h:MQ m l r d):∀x∈d,0≤x:=fun x hx=>by
 obtain ⟨j,hj⟩:=List.mem_iff_getElem?.1 hx
 have hjl:=BM hj
 rw [h.dl] at hjl
 obtain ⟨c,hc⟩:=at_ hjl
 exact (h.dd j x c hjl hj hc).1.1
theorem zO {n:Nat} {s:List Int} (hp:s.Pairwise (· < ·)) (hr:∀x∈s,0≤x∧x<(n:Int)):DH (n:Int) s=true:=by
 unfold DH
 rw [B_]
 intro j hj
 have h1:=hr _ (List.getElem_mem hj)
 unfold setAt
 rw [List.getElem?_eq_getElem hj]
 simp only [Option.getD_some,Bool.and_eq_true,Bool.or_eq_true,decide_eq_true_eq]
 refine ⟨h1,?_⟩
 rcases Nat.eq_zero_or_pos j with h0|h0
 · exact .inl h0
 ·
  right
  rw [List.getElem?_eq_getElem (show j-1<s.length by omega)]
  exact List.pairwise_iff_getElem.1 hp (j-1) j AA hj AA
structure Fv (n:Nat) (r:List BC) (s:List Int):Prop where
 asc:s.Pairwise (· < ·)
 QD:∀x∈s,0≤x∧x<(n:Int)
 cl:CD r s=true
theorem Fv.nil (n:Nat) (r:List BC):Fv n r []:=⟨List.Pairwise.nil,(fun x h=>by cases h),Ca.2 fun q _ h=>by cases h⟩
theorem Fv.set {n:Nat} {r:List BC} {s:List Int} (h:Fv n r s):DH (n:Int) s=true:=zO h.asc h.QD
theorem Fv.next {n:Nat} {r:List BC} {s:List Int} {x:Int} (h:Fv n r s) (hx:x∈Dm n r s true):Fv n r (Dq s x true)∧(Dq s x true).length=s.length+1:=by
 obtain ⟨h1,h2,h3⟩:=QL hx
 refine ⟨⟨YI h.asc h2,fun y hy=> ?_,h3⟩,Gy h2⟩
 rcases Ev.1 hy with rfl|hy
 · exact h1
 · exact h.QD y hy
theorem Fv.due {r:List BC} {d s:List Int} (hv:BF (d.length:Nat) r=0) (h:Fv d.length r s):aj r d s=0∧JP (d.length:Nat) r s=Dm d.length r s true:=by
 have h0:=eW hv h.set h.cl
 exact ⟨wW h0,by unfold JP;rw [if_pos h0];rfl⟩
theorem Fv.all {r:List BC} {d s:List Int} (hv:BF (d.length:Nat) r=0) (h:Fv d.length r s):ID r d s (FN d)=Dm d.length r s true:=by
 unfold ID
 rw [(h.due hv).2,List.filter_eq_self]
 intro x hx
 have hr:=(QL hx).1
 have hdx:=Dy (l:=d) (i:=x.toNat) AA
 have:=(ak d (-1)).2 _ (List.mem_of_getElem? hdx)
 rw [Bool.not_eq_true',decide_eq_false_iff_not]
 unfold FN
 omega
theorem Fv.none {r:List BC} {d s:List Int} (h:Fv d.length r s) (hl:s.length=d.length):Dm d.length r s true=[]:=vD (qR h.asc h.QD hl)
theorem Fv.some {r:List BC} {d s:List Int} (hv:BF (d.length:Nat) r=0) (h:Fv d.length r s) (hl:s.length<d.length):Dm d.length r s true≠[]:=by
 obtain ⟨i,hi,hn⟩:=qQ hl
 exact Zx (n:=((d.length:Nat):Int)) hv h.cl (by simpa using hi) hn
abbrev FR (l:List BX) (r:List BC) (d:List Int) (day:Int) (st tr:List Int) (sp:Bool):List Pr:=[C9 l,reqs r,ints d,int day,ints st,ints tr,Cp.bool sp]
def IF (m x:Int):Bool:=decide (x<0∨x>m)
abbrev Fl (m:Int) (l:List Int):Bool:=l.any (IF m)
def BP (st:List Int):List Int:=((List.range st.length).filter fun i:Nat=>decide (st.getD i 0=1)).map fun i:Nat=>(i:Int)
def JU (st:List Int) (k:Nat):List Int:=((List.range k).filter fun i:Nat=>decide (st.getD i 0=1)).map fun i:Nat=>(i:Int)
theorem O0 {st:List Int} {k:Nat} {x:Int} (hx:st[k]? =some x):JU st (k+1)=if x=1 then JU st k++[(k:Int)] else JU st k:=by
 have h:st.getD k 0=x:=by rw [List.getD_eq_getElem?_getD,hx];rfl
 unfold JU
 rw [List.range_succ,List.filter_append,List.map_append]
 simp only [List.filter_cons,List.filter_nil,h]
 split<;>simp_all
theorem MT (st:List Int) (k:Nat):(JU st k).length≤k:=by unfold JU;rw [List.length_map];exact Nat.le_trans (List.length_filter_le _ _) Qi
theorem jK (st:List Int):BP st=JU st st.length:=rfl
theorem jL {st:List Int} (h:∀x∈st,x≠1):BP st=[]:=by
 unfold BP
 rw [List.map_eq_nil_iff,List.filter_eq_nil_iff]
 intro i hi
 have hi:=List.mem_range.1 hi
 have:=h _ (List.getElem_mem hi)
 rw [List.getD_eq_getElem?_getD,List.getElem?_eq_getElem hi]
 simpa using this
theorem O1 (n:Nat):BP (List.replicate n 0)=[]:=jL fun x hx=>by rw [List.eq_of_mem_replicate hx];decide
def O_ (n:Nat) (r:List BC) (d:List Int) (day:Int) (st tr:List Int):Bool:=decide (((n≤24∧d.length=n)∧st.length=n∧tr.length=n)∧((Fl 40000 d=false∧IF 40000 day=false)∧Fl 3 st=false∧Fl 4 tr=false)∧LJ (n:Int) r (BP st)=0∧SC (n:Int) r (BP st)=true)
theorem E3 {n:Nat} {r:List BC} {d:List Int} {day:Int} {st tr:List Int}:O_ n r d day st tr=true↔((n≤24∧d.length=n)∧st.length=n∧tr.length=n)∧((Fl 40000 d=false∧IF 40000 day=false)∧Fl 3 st=false∧Fl 4 tr=false)∧LJ (n:Int) r (BP st)=0∧SC (n:Int) r (BP st)=true:=by unfold O_;rw [decide_eq_true_eq]
theorem YJ {l:List BX} {r:List BC} {d:List Int} (F0:∀x∈l,x.Cy.small) (hl:l.length≤1000000) (hr:r.length≤1000000) (hd:d.length≤1000000):BG Tryz.prog 100 [agg [C9 l,reqs r,ints d]] (agg [C9 l,reqs r,ints d]):=Nx.frz (BD fun _=>rfl) (pJ F0 hl hr hd)
theorem YK {l:List Int} (hl:l.length≤1000000000):BG prog 131 [ints l] (ints l):=by
 refine fo func131 rfl ⟨rfl,rfl⟩ fun M0 w0=> ?_
 refine a2 ?_
 refine co rfl (Fb rfl underlying22 vq) ?_
 refine ac ?_
 refine Tr.ex 4 rfl (fun z1=>Tr.fact 4 rfl fun Ef=> ?_)
 refine Tr.cn rfl ?_ ?_<;>intro h1 q1
 refine a2 ?_
 · (have hl0:l=[]:=(by simpa using Ef h1));subst hl0;exact AQ 1
 refine ac ?_
 refine ap ?_
 refine TO.pad ?_
 refine TO.DT 0 rfl rfl AB (B7 rfl rfl rfl rfl underlying22 Bt G2 z3 F4 vq (Br BL vq)) (fun v1=> ?_)
 refine ap ?_
 refine ac ?_
 · exact Pr.le_trans (Ar _ _) (Pr.le_of_eq AV)
theorem qS {l:List BX} {r:List BC} {d:List Int} {day:Int} {st tr:List Int} {sp:Bool} (F0:∀x∈l,x.Cy.small) (hl:l.length≤1000000) (hr:r.length≤1000000) (hd:d.length≤1000000) (hst:st.length≤1000000) (htr:tr.length≤1000000):BG prog 73 [agg (FR l r d day st tr sp)] (agg (FR l r d day st tr sp)):=by
 refine fo func73 rfl ⟨rfl,rfl⟩ fun M0 w0=>(Tr.seq (Tr.An ?_))
 refine TO.VB rfl rfl AB rfl Cs (fun b1=> ?_)
 refine Tl rfl rfl rfl rfl z42 HJ (fun b2=> ?_)
 refine ap ?_
 refine Tr.seq (Tr.rx ?_)
 refine ay ?_
 refine xo rfl (fun _=>Cq (YJ F0 hl hr hd) rfl rfl) ?_
 refine ay ?_
 refine xo rfl (fun _=>Cq (YK (l:=st) AA) rfl rfl) ?_
 refine ay ?_
 refine xo rfl (fun _=>Cq (YK (l:=tr) AA) rfl rfl) ?_
 refine ay ?_
 refine Cx.nil ⟨by kernel_rfl,?_⟩
 refine BE.done YV (Fin.go (wk [2,1] rfl ?_))
 refine ap ?_
 refine Tr.drop 1 (Tr.ret (Fin.CY rfl (AM.cell 0 rfl rfl EC DV rfl Lr) ?_))
 · exact Lr
theorem YL {m x:Int}  :BG prog 135 [int x,ref [int m]] (bool (IF m x)):=by
 refine fo func135 rfl ⟨rfl,rfl⟩ fun M0 w0=> ?_
 refine ac ?_
 refine ac ?_
 refine Ch.cs 6 rfl ?_ ?_<;>intro h1 q1
 refine ac ?_
 refine ac ?_
 · refine bool_eq ?_;unfold IF;simp_all
 refine ac ?_
 refine ac ?_
 · refine bool_eq ?_;unfold IF;simp_all;omega
theorem YM:Entry Tryz.prog 135:=⟨_,Tryz.func135,rfl,rfl⟩
theorem JV {m:Int} {l:List Int}  :BG prog 77 [int m,ints l] (bool (!Fl m l)):=by
 refine fo func77 rfl ⟨rfl,rfl⟩ fun M0 w0=> ?_
 refine a2 ?_
 refine co rfl (AR rfl (Ja (l:=l) (p:=IF m)) ⟨kq,⟨_,rfl,TH YM (fun x=>YL (m:=m) (x:=x))⟩,trivial⟩) ?_
 refine a2 ?_
 · exact Lr
theorem Sa {l:List BX} {r:List BC} {d:List Int} {day:Int} {st tr:List Int} {sp:Bool} (hst:st.length≤1000000):BG prog 24 [agg (FR l r d day st tr sp)] (ints (BP st)):=by
 refine fo func24 rfl ⟨rfl,rfl⟩ fun M0 w0=> ?_
 refine a3 ?_
 refine Tr.block (Tr.B5 3 1 (Tr.EO _ (kk [8,7] rfl) (fun k v=>[(9,int ((k:Nat):Int)),(3,Ad v (ints (JU st k)))]) (fun k v=>Hp M0 w0 FO ([Aw 3 1 v])) (fun k:Nat=>k≤(st).length) (fun k:Nat=>(st).length-k) 0 (.slice none 0 0) (Nat.zero_le _) ⟨kq,⟨_,rfl,Bi rfl⟩,trivial⟩ (fun _ _ h=>h) ?_))
 rintro k v BU
 refine ac ?_
 refine Tr.seq ?_
 refine Tr.cn rfl ?_ ?_<;>intro h1 q1
 have Af:k<(st).length:=AH h1
 obtain ⟨x,Ah⟩:=at_ Af
 have hsk:=O0 Ah
 have AGd:=MT st k
 refine a2 ?_
 refine co rfl (AD rfl underlying22 Bt vq vq AA (AX Ah)) ?_
 refine ac ?_
 refine an ?_ ?_<;>intro h2 q2
 refine ap ?_
 refine TO.DT 0 rfl rfl AB (B7 rfl rfl rfl rfl underlying51 Bt G2 z3 G3 F4 (Ay BL Jo)) (fun v1=> ?_)
 refine ap ?_
 refine wk [9,8,7,3] rfl ?_
 refine ac ?_
 exact Fin.C1 (k+1) v1 (⟨Af,by omega⟩) ⟨⟨_,rfl,AG k⟩,⟨_,rfl,BA bp⟩,kz⟩ (fun _ _ h=>h)
 refine a2 ?_
 exact Fin.C1 (k+1) v (⟨Af,by omega⟩) ⟨⟨_,rfl,AG k⟩,⟨_,rfl,BA (by rw [hsk,if_neg CN])⟩,kz⟩ (fun _ _ h=>h)
 have BK:k=(st).length:=by have:=AJ h1;omega
 subst BK
 refine a3 ?_
 · exact Gt
theorem OO {l:List BX} {r:List BC} {d:List Int} {day:Int} {st tr:List Int} {sp:Bool} (hst:st.length≤1000000):Bj prog 25 [agg (FR l r d day st tr sp)] (int (if O_ l.length r d day st tr=true then 0 else 49)) (EI) (fun _=>EI):=by
 refine Bj.of func25 rfl rfl Ao fun M0 w0 S rs M1 w1=> ?_
 refine a2 ?_
 refine ag ?_ ?_<;>intro h1 q1
 refine ac ?_
 refine wk [10,3,1] rfl ?_
 refine ac ?_
 refine Tr.ret (Fin.AU (Fin.AE (Fin.E7 rfl rfl ?_ (fun _ _ _ _=>rfl))))
 · exact QY
 refine ag ?_ ?_<;>intro h2 q2
 refine ac ?_
 refine wk [10,3,1] rfl ?_
 refine ac ?_
 refine Tr.ret (Fin.AU (Fin.AE (Fin.E7 rfl rfl ?_ (fun _ _ _ _=>rfl))))
 · exact QY
 refine ag ?_ ?_<;>intro h3 q3
 refine ac ?_
 refine wk [10,3,1] rfl ?_
 refine ac ?_
 refine Tr.ret (Fin.AU (Fin.AE (Fin.E7 rfl rfl ?_ (fun _ _ _ _=>rfl))))
 · exact QY
 refine ac ?_
 refine wk [10,3,1] rfl ?_
 refine Tr.cn rfl ?_ ?_<;>intro h4 q4
 refine ac ?_
 refine Tr.ret (Fin.AU (Fin.AE (Fin.E7 rfl rfl ?_ (fun _ _ _ _=>rfl))))
 · exact QY
 refine ac ?_
 refine co rfl (CL (JV (m:=40000) (l:=d)) rfl rfl rfl) ?_
 refine ag ?_ ?_<;>intro h5 q5
 refine ac ?_
 refine wk [35,3,1] rfl ?_
 refine ac ?_
 refine Tr.ret (Fin.AU (Fin.AE (Fin.E7 rfl rfl ?_ (fun _ _ _ _=>rfl))))
 · exact QX
 refine ac ?_
 refine cy h5 rfl (AR rfl (JV (m:=40000) (l:=[day])) ⟨kq,F4,trivial⟩) ?_
 refine ag ?_ ?_<;>intro h6 q6
 refine ac ?_
 refine wk [35,3,1] rfl ?_
 refine ac ?_
 refine Tr.ret (Fin.AU (Fin.AE (Fin.E7 rfl rfl ?_ (fun _ _ _ _=>rfl))))
 · exact QX
 refine ac ?_
 refine cy h6 rfl (CL (JV (m:=3) (l:=st)) rfl rfl rfl) ?_
 refine ag ?_ ?_<;>intro h7 q7
 refine ac ?_
 refine wk [35,3,1] rfl ?_
 refine ac ?_
 refine Tr.ret (Fin.AU (Fin.AE (Fin.E7 rfl rfl ?_ (fun _ _ _ _=>rfl))))
 · exact QX
 refine ac ?_
 refine cy h7 rfl (CL (JV (m:=4) (l:=tr)) rfl rfl rfl) ?_
 refine ac ?_
 refine wk [35,3,1] rfl ?_
 refine Tr.cn rfl ?_ ?_<;>intro h8 q8
 refine ac ?_
 refine Tr.ret (Fin.AU (Fin.AE (Fin.E7 rfl rfl ?_ (fun _ _ _ _=>rfl))))
 · exact QX
 refine ac ?_
 refine Tr.seq (Tr.seq (Tr.rx ?_))
 refine ay ?_
 refine xo rfl (fun _=>Cq (Sa hst) rfl rfl) ?_
 refine Cx.ef 0 rfl rfl AB (Aq rfl rfl AB rfl (aK (n:=((l.length:Nat):Int)) (l:=r) (s:=BP st)) ⟨kq,kz⟩) ?_
 refine ay ?_
 refine Cx.nil ⟨by kernel_rfl,?_⟩
 refine BE.done YV (Fin.go (wk [5,4] rfl ?_))
 refine ag ?_ ?_<;>intro h9 q9
 refine a2 ?_
 refine Tr.ret (Fin.AE (Fin.E7 rfl rfl ?_ (fun _ _ _ _=>rfl)))
 · exact QY
 refine an ?_ ?_<;>intro h10 P7
 refine ac ?_
 refine Tr.ret (Fin.AE (Fin.E7 rfl rfl ?_ (fun _ _ _ _=>rfl)))
 · exact QX
 refine a2 ?_
 refine Tr.ret (Fin.E7 rfl rfl ?_ (fun _ _ _ _=>rfl))
 · exact int_eq (if_pos (E3.2 (by refine ⟨⟨⟨?_,?_⟩,?_,?_⟩,⟨⟨?_,?_⟩,?_,?_⟩,?_,?_⟩<;>first|omega|(simp_all;done)))).symm
def newE (l:List BX) (r:List BC) (d:List Int) (day:Int):Int:=if 0≤day∧day≤40000 then (if O_ l.length r d day (List.replicate l.length 0) (List.replicate l.length 0)=true then 0 else 49) else 2
def newP (l:List BX) (r:List BC) (d:List Int) (day:Int):List Pr:=if newE l r d day=0 then FR l r d day (List.replicate l.length 0) (List.replicate l.length 0) false else FR [] [] [] 0 [] [] false
theorem UZ:Pr.le (agg [is (.slice none 0 0),is (.slice none 0 0),is (.slice none 0 0),int 0,is (.slice none 0 0),is (.slice none 0 0),Cp.bool false]) (agg (FR [] [] [] 0 [] [] false)):=BR ⟨AQ 8,AQ 2,AQ 1,Pr.le_refl _,AQ 1,AQ 1,Pr.le_refl _,trivial⟩
theorem Ys {l:List BX} {r:List BC} {d:List Int} {day e:Int} (h:newE l r d day=e) (he:e≠0):newP l r d day=FR [] [] [] 0 [] [] false:=if_neg He
theorem j0 {l:List BX} {r:List BC} {d:List Int} {day:Int} (h:¬(0≤day∧day≤40000)):newE l r d day=2:=if_neg h
theorem qT {l:List BX} {r:List BC} {d:List Int} {day:Int} (h:0≤day∧day≤40000) (hk:¬O_ l.length r d day (List.replicate l.length 0) (List.replicate l.length 0)=true):newE l r d day=49:=by unfold newE;rw [if_pos h,if_neg hk]
theorem fH {l:List BX} {r:List BC} {d:List Int} {day:Int} (h:0≤day∧day≤40000) (hk:O_ l.length r d day (List.replicate l.length 0) (List.replicate l.length 0)=true):newE l r d day=0∧newP l r d day=FR l r d day (List.replicate l.length 0) (List.replicate l.length 0) false:=by
 have h0:newE l r d day=0:=by unfold newE;rw [if_pos h,if_pos hk]
 exact ⟨h0,if_pos h0⟩
theorem fI {n:Nat} {m:Int} (h:0≤m):Fl m (List.replicate n 0)=false:=by
 unfold Fl
 rw [List.any_eq_false]
 intro x hx
 rw [List.eq_of_mem_replicate hx]
 unfold IF
 simpa using h
theorem MQ.in_ {m:Nat} {l:List BX} {r:List BC} {d:List Int} (h:MQ m l r d):Fl 40000 d=false:=by
 unfold Fl
 rw [List.any_eq_false]
 intro x hx
 obtain ⟨j,hj⟩:=List.mem_iff_getElem?.1 hx
 have hjl:=BM hj
 rw [h.dl] at hjl
 obtain ⟨c,hc⟩:=at_ hjl
 have:=(h.dd j x c hjl hj hc).1
 unfold IF
 rw [decide_eq_true_eq];omega
theorem set_nil (n:Int):DH n []=true:=rfl
theorem MQ.new {m:Nat} {l:List BX} {r:List BC} {d:List Int} {day:Int} (h:MQ m l r d) (hd:0≤day∧day≤40000):newE l r d day=0∧newP l r d day=FR l r d day (List.replicate l.length 0) (List.replicate l.length 0) false:=by
 refine fH hd ?_
 obtain ⟨h1,h2⟩:=UB (n:=((l.length:Nat):Int)) (s:=[]) h.v (set_nil _)
 unfold O_
 rw [O1,decide_eq_true_eq,h1,h2]
 exact ⟨⟨⟨h.l24,h.dl⟩,List.length_replicate,List.length_replicate⟩,⟨⟨h.in_,by unfold IF;rw [decide_eq_false_iff_not];omega⟩,fI AB,fI AB⟩,rfl,Ca.2 fun q _ hq=>by cases hq⟩
theorem fJ:newE [] [] [] 3=0∧newP [] [] [] 3=FR [] [] [] 3 [] [] false:=fH AB AB
theorem fK {l:List BX} {r:List BC} {d:List Int} {day:Int} (F0:∀x∈l,x.Cy.small) (hl:l.length≤1000000) (hr:r.length≤1000000) (hd:d.length≤1000000):Bj prog 26 [agg [C9 l,reqs r,ints d],int day] (Dz [agg (newP l r d day),int (newE l r d day)]) (EI) (fun _=>EI):=by
 refine Bj.of func26 rfl rfl Ao fun M0 w0 S rs M1 w1=> ?_
 refine Tr.seq (Tr.An (tp rfl (Bb rfl Cs) ?_))
 refine Tl rfl rfl rfl rfl z42 HJ (fun b1=> ?_)
 refine ap ?_
 refine ag ?_ ?_<;>intro h1 q1
 refine ac ?_
 refine Tr.cond rfl (fun _=> ?_) (fun h=>nomatch h)
 refine Tr.seq (Tr.An (tp rfl (Ak (rows:=[]) rfl ZE HJ trivial rfl) (TO.AK 0 rfl rfl rfl vq Cs rfl DV rfl rfl (tm rfl (TO.nil (Fin.go (Tr.ret (Fin.AE (Fin.TX [_] rfl (AM.cell 0 rfl rfl EC DV rfl Lr) (AM.tmp rfl Lr) ?_)))))))))
 refine Az ⟨?_,?_,trivial⟩
 · exact UY
 · exact Uc
 refine an ?_ ?_<;>intro h2 q2
 refine ap ?_
 refine Tr.ret (Fin.AE (Fin.TX [_] rfl (AM.cell 0 rfl rfl EC DV rfl Lr) (AM.tmp rfl Lr) ?_))
 refine Az ⟨?_,?_,trivial⟩
 · exact UY
 · exact Uc
 have hdy:0≤day∧day≤40000:=by simp_all
 refine a2 ?_
 refine wk [6,4,2,1] rfl (Tr.seq (Tr.pad (Tr.rx ?_)))
 refine ax ?_
 refine xo rfl (fun _=>Ij (m:=l.length) rfl underlying22 Bt G2 z3 rfl AB AB vq vq FI AA) ?_
 refine xm rfl ?_
 refine xo rfl (fun _=>Ij (m:=l.length) rfl underlying22 Bt G2 z3 rfl AB AB vq vq FI AA) ?_
 refine xo rfl (fun _=>Ak (rows:=[(0,_),(1,[_]),(2,[_]),(3,[_])]) rfl ZE HJ ⟨⟨rfl,Cs⟩,⟨⟨rfl,My⟩,⟨⟨rfl,⟨_,rfl,Pr.le_trans (Pr.le_trans (Bx _ _) (Pr.le_of_eq (show _=slice 1 ((List.replicate l.length (0:Int)).map fun n=>[int n]) by rw [List.map_replicate];rfl))) (AY _)⟩⟩,⟨⟨rfl,⟨_,rfl,Pr.le_trans (Pr.le_trans (Bx _ _) (Pr.le_of_eq (show _=slice 1 ((List.replicate l.length (0:Int)).map fun n=>[int n]) by rw [List.map_replicate];rfl))) (AY _)⟩⟩,trivial⟩⟩⟩⟩ rfl) ?_
 refine xo rfl (fun _=>Cq (qS (l:=l) (r:=r) (d:=d) (day:=day) (st:=(List.replicate l.length (0:Int))) (tr:=(List.replicate l.length (0:Int))) (sp:=false) F0 hl hr hd MY MY) rfl rfl) ?_
 refine Cx.ef 0 rfl rfl AB (CC rfl rfl AB rfl z42 HJ) (Cx.DP 0 rfl rfl (CZ rfl rfl rfl rfl Cs DV rfl rfl) ?_)
 refine Cx.nil ⟨by kernel_rfl,?_⟩
 refine BE.open_ 0 7 rfl rfl (fun v1=> ?_)
 refine BE.done al4 (Fin.LX 7 0 _ rfl rfl (fun _=>rfl) (fun b2=> ?_))
 refine Fin.go (wk [7,4] rfl ?_)
 refine ap ?_
 refine TO.IP 2 rfl rfl AB (Aq rfl rfl AB rfl (OO (l:=l) (r:=r) (d:=d) (day:=day) (st:=(List.replicate l.length (0:Int))) (tr:=(List.replicate l.length (0:Int))) (sp:=false) MY) kz) ?_
 refine ap ?_
 refine an ?_ ?_<;>intro h3 q3
 have h49:newE l r d day=49:=qT hdy Hf
 refine ap ?_
 refine Tr.drop 0 (Tr.ret (Fin.AE (Fin.TX [_] rfl (AM.cell 0 rfl rfl EC DV rfl Lr) (AM.tmp rfl Lr) ?_)))
 refine Az ⟨?_,?_,trivial⟩
 · rw [Ys h49 AB];exact UZ
 · refine int_eq ?_;rw [h49];simp_all
 have h0:=fH (l:=l) (r:=r) (d:=d) hdy Hf
 refine ac ?_
 refine ap ?_
 refine Tr.drop 0 (Tr.ret (Fin.TX [_] rfl (AM.cell 0 rfl rfl EC DV rfl Lr) (AM.tmp rfl Lr) ?_))
 refine Az ⟨?_,?_,trivial⟩
 · rw [h0.2];exact Lr
 · exact int_eq h0.1.symm
theorem qU {x:Int}  :BG prog 85 [int x] (bool (decide (x≠1))):=by
 refine fo func85 rfl ⟨rfl,rfl⟩ fun M0 w0=> ?_
 refine a3 ?_
 · refine bool_eq ?_;by_cases h_:x=1<;>simp [h_]
theorem qV:Entry Tryz.prog 85:=⟨_,Tryz.func85,rfl,rfl⟩
theorem WL {l:List BX} {r:List BC} {d:List Int} {day:Int} {st tr:List Int} {sp:Bool}  :BG prog 32 [agg (FR l r d day st tr sp)] (bool (!(st.any fun x=>decide (x≠1)))):=by
 refine fo func32 rfl ⟨rfl,rfl⟩ fun M0 w0=> ?_
 refine a2 ?_
 refine co rfl (AR rfl (Ja (l:=st) (p:=fun x=>decide (x≠1))) ⟨kq,⟨_,rfl,TH qV (fun x=>qU (x:=x))⟩,trivial⟩) ?_
 refine a2 ?_
 · exact Lr
theorem qW   :Bj prog 11 [] (bool true) (EI) (fun _=>EI):=by
 refine Bj.of func11 rfl rfl Ao fun M0 w0 S rs M1 w1=> ?_
 refine Tr.seq (Tr.Aj (cm rfl (Ch.nil (Fin.go (Tr.seq (Tr.An (tp rfl (Ak (rows:=[]) rfl Lx E9 trivial rfl) ?_)))))))
 refine TO.IP 0 rfl rfl AB (Aq rfl rfl AB rfl (fK (l:=[]) (r:=[]) (d:=[]) (day:=3) (fun x h=>by cases h) AB AB AB) ⟨⟨_,rfl,BR (ps:=[is (.slice none 0 0),is (.slice none 0 0),is (.slice none 0 0)]) ⟨AQ 8,AQ 2,AQ 1,trivial⟩⟩,ke rfl,trivial⟩) ?_
 refine tm rfl (tp rfl (Ap rfl (vl rfl) rfl) (TO.re 8 _ rfl (Pr.le_of_eq (congrArg agg fJ.2)) (tp rfl (Ap rfl (vl rfl) rfl) (TO.re 9 _ rfl (int_eq fJ.1) ?_))))
 refine Tl rfl rfl rfl rfl z42 HJ (fun b1=> ?_)
 refine TO.AK 0 rfl rfl rfl (vl rfl) (Va rfl) rfl DV rfl rfl (TO.freeze 0 1 rfl rfl (tm rfl (TO.nil (Fin.go (Tr.seq (Tr.An (tp rfl (Ak (rows:=[]) rfl Lx E9 trivial rfl) ?_)))))))
 refine TO.IP 0 rfl rfl AB (Aq rfl rfl AB rfl (fK (l:=[]) (r:=[]) (d:=[]) (day:= -1) (fun x h=>by cases h) AB AB AB) ⟨⟨_,rfl,BR (ps:=[is (.slice none 0 0),is (.slice none 0 0),is (.slice none 0 0)]) ⟨AQ 8,AQ 2,AQ 1,trivial⟩⟩,ke rfl,trivial⟩) ?_
 refine tm rfl (tp rfl (Ap rfl (vl rfl) rfl) (tp rfl (Ap rfl (vl rfl) rfl) (TO.re 14 _ rfl (int_eq (j0 AB)) ?_)))
 refine Tl rfl rfl rfl rfl z42 HJ (fun b2=> ?_)
 refine TO.AK 0 rfl rfl rfl (vl rfl) (Va rfl) rfl DV rfl rfl (TO.freeze 0 3 rfl rfl (tm rfl (TO.nil (Fin.go (GU 1 2 4 rfl (Tr.seq (Tr.An (tm rfl (tp rfl (ki rfl rfl rfl rfl) (tm rfl ?_))))))))))
 refine TO.cases 17 rfl (fun h1=> ?_) (fun h1=> ?_)
 have q1:=DU.D9 h1
 refine TO.Fx rfl rfl rfl h1 rfl AB (BQ rfl (vl rfl)) (TO.Fx rfl rfl rfl h1 rfl AB (ki rfl rfl rfl rfl) (tp rfl (Pk rfl rfl h1 rfl) (tm rfl ?_)))
 refine TO.cases 21 rfl (fun h2=> ?_) (fun h2=> ?_)
 have q2:=DU.D9 h2
 refine TO.Fx rfl rfl rfl h2 rfl AB (NT rfl ZG rfl rfl) (TO.Fx rfl rfl rfl h2 rfl AB (Fw rfl C8 rfl) (TO.Fx rfl rfl rfl h2 rfl AB (ki rfl rfl rfl rfl) (tp rfl (Pk rfl rfl h2 rfl) (tm rfl ?_))))
 refine TO.cases 26 rfl (fun h3=> ?_) (fun h3=> ?_)
 have q3:=DU.D9 h3
 refine TO.Fx rfl rfl rfl h3 rfl AB (AP rfl EC DV (vl rfl) rfl rfl) ?_
 refine TO.Fx rfl rfl rfl h3 rfl AB (AR rfl (WL (l:=[]) (r:=[]) (d:=[]) (day:=3) (st:=[]) (tr:=[]) (sp:=false)) ⟨ke rfl,trivial⟩) ?_
 refine tp rfl (Pk rfl rfl h3 rfl) (tm rfl ?_)
 refine TO.cases 30 rfl (fun h4=> ?_) (fun h4=> ?_)
 have q4:=DU.D9 h4
 refine TO.Fx rfl rfl rfl h4 rfl AB (Ak (rows:=[(1,[_])]) rfl ZE HJ ⟨⟨rfl,(Vo rfl)⟩,trivial⟩ rfl) ?_
 refine TO.lZ 0 rfl rfl rfl h4 rfl rfl AB (Aq rfl rfl AB rfl (OO (l:=[]) (r:=[]) (d:=[]) (day:= -1) (st:=[]) (tr:=[]) (sp:=false) AB) ⟨⟨_,rfl,BR (ps:=[is (.slice none 0 0),is (.slice none 0 0),is (.slice none 0 0),int (-1),is (.slice none 0 0),is (.slice none 0 0),Cp.bool false]) ⟨AQ 8,AQ 2,AQ 1,Lr,AQ 1,AQ 1,Lr,trivial⟩⟩,trivial⟩) ?_
 refine TO.Fx rfl rfl rfl h4 rfl AB (ki rfl rfl rfl rfl) (tp rfl (Pk rfl rfl h4 rfl) (tm rfl (TO.nil (Fin.go (OZ 0 rfl (Tr.ret (Fin.E7 rfl rfl ?_ (fun _ _ _ _=>rfl))))))))
 · exact bool_eq AB
 have q4:=DU.D9 h4
 exact absurd h4 AB
 have q3:=DU.D9 h3
 exact absurd h3 AB
 have q2:=DU.D9 h2
 exact absurd h2 AB
 have q1:=DU.D9 h1
 exact absurd h1 AB
theorem qX {l:List Int} {v:Int}  :BG prog 134 [ints l,int v] (int (idx (fun x=>v==x) l)):=by
 refine fo func134 rfl ⟨rfl,rfl⟩ fun M0 w0=>(Tr.Cm 0 rfl fun EJ=> ?_)
 refine a2 ?_
 refine Tr.block (Tr.BH _ (kk [7,1,0] rfl) (fun k:Nat=>[(8,int ((k:Nat):Int))]) (fun k:Nat=>k≤(l).length∧(∀j y,j<k→l[j]? =some y→(v==y)=false)) (fun k:Nat=>(l).length-k) 0 (⟨Nat.zero_le _,fun j y hj=>absurd hj AA⟩) kz ?_)
 rintro k ⟨BU,AZ⟩
 refine ac ?_
 refine Tr.seq ?_
 refine Tr.cn rfl ?_ ?_<;>intro h1 q1
 have Af:k<(l).length:=AH h1
 obtain ⟨x,Ah⟩:=at_ Af
 · repeat' first|exact int_eq (Es (p:=fun x=>v==x) Ah Bq AZ)|exact Fin.AL (k+1) ⟨⟨Af,Dv (p:=fun x=>v==x) Ah Bq AZ⟩,by omega⟩ ⟨⟨_,rfl,AG k⟩,kz⟩|refine co rfl (AD rfl underlying51 Bt vq vq AA CO) ?_|refine ac ?_|(refine Tr.cn rfl ?_ ?_<;>intro h q)
 have BK:k=(l).length:=by have:=AJ h1;omega
 subst BK
 refine a3 ?_
 · exact int_eq (Gc AZ)
def jM (o l:List Int):Int:=(o.find? fun i=>l.contains i).getD 0
def qY (o l:List Int):Bool:=(o.find? fun i=>l.contains i).isSome
theorem fL {o l:List Int} {k:Nat} {x:Int} (hx:o[k]? =some x) (hb:∀j y,j<k→o[j]? =some y→l.contains y=false) (h:l.contains x=true):jM o l=x∧qY o l=true:=by
 have hf:o.find? (fun i=>l.contains i)=some x:=by
  rw [List.find?_eq_some_iff_getElem]
  obtain ⟨hk,he⟩:=List.getElem?_eq_some_iff.1 hx
  refine ⟨h,k,hk,he,fun j hj=> ?_⟩
  have:=hb j _ hj (List.getElem?_eq_getElem AA)
  simpa using this
 unfold jM qY
 rw [hf];exact ⟨rfl,rfl⟩
theorem qZ {o l:List Int} (hb:∀j y,j<o.length→o[j]? =some y→l.contains y=false):jM o l=0∧qY o l=false:=by
 have hf:o.find? (fun i=>l.contains i)=none:=by
  rw [List.find?_eq_none]
  intro y hy
  obtain ⟨j,hj,rfl⟩:=List.mem_iff_getElem.1 hy
  rw [hb j _ hj (List.getElem?_eq_getElem hj)];decide
 unfold jM qY
 rw [hf];exact ⟨rfl,rfl⟩
theorem NQ (l:List Int) (v:Int):(l.any fun x=>v==x)=l.contains v:=by rw [List.contains_eq_any_beq]
theorem qa (d:List Int):(NP d).length=d.length:=by rw [(fE d).2.length_eq,Qn]
theorem YN {l:List Int} {v:Int}  :BG prog 75 [ints l,int v] (bool (l.contains v)):=by
 refine fo func75 rfl ⟨rfl,rfl⟩ fun M0 w0=> ?_
 refine a2 ?_
 refine co rfl (CL (qX) rfl rfl rfl) ?_
 refine a2 ?_
 · refine bool_eq ?_;rw [←NQ];exact Pq _ l
def Kh (r:List BC) (d st tr:List Int) (day:Int):List Int:=(ID r d (BP st) day).filter fun i=> !decide (tr.getD i.toNat 0≥4)
theorem GN {st:List Int} {x:Int}:x∈BP st↔∃i:Nat,st[i]? =some 1∧x=(i:Int):=by
 unfold BP
 rw [List.mem_map]
 constructor
 ·
  rintro ⟨i,hi,rfl⟩
  obtain ⟨h1,h2⟩:=List.mem_filter.1 hi
  have h1:=List.mem_range.1 h1
  rw [List.getD_eq_getElem?_getD,List.getElem?_eq_getElem h1,decide_eq_true_eq] at h2
  exact ⟨i,by rw [List.getElem?_eq_getElem h1];exact congrArg some h2,rfl⟩
 ·
  rintro ⟨i,hi,rfl⟩
  obtain ⟨h1,_⟩:=List.getElem?_eq_some_iff.1 hi
  exact ⟨i,List.mem_filter.2 ⟨List.mem_range.2 h1,by rw [List.getD_eq_getElem?_getD,hi];rfl⟩,rfl⟩
theorem K_ (st:List Int):(BP st).Pairwise (· < ·):=by
 unfold BP
 rw [List.pairwise_map]
 exact (List.pairwise_lt_range.filter _).imp fun h=>by omega
theorem UQ {st:List Int}:∀x∈BP st,0≤x∧x<(st.length:Int):=fun x hx=>by
 obtain ⟨i,hi,rfl⟩:=GN.1 hx
 obtain ⟨h1,_⟩:=List.getElem?_eq_some_iff.1 hi
 omega
theorem qb:∀{a b:List Int},a.Pairwise (· < ·)→b.Pairwise (· < ·)→(∀x,x∈a↔x∈b)→a=b
 |[],[],_,_,_=>rfl
 |[],y::b,_,_,h=>by have:=(h y).2 (List.mem_cons_self ..);cases this
 |x::a,[],_,_,h=>by have:=(h x).1 (List.mem_cons_self ..);cases this
 |x::a,y::b,ha,hb,h=>by
  obtain ⟨ha1,ha2⟩:=List.pairwise_cons.1 ha
  obtain ⟨Mj,Sf⟩:=List.pairwise_cons.1 hb
  have hxy:x=y:=by
   rcases List.mem_cons.1 ((h x).1 (List.mem_cons_self ..)) with h1|h1
   · exact h1
   ·
    rcases List.mem_cons.1 ((h y).2 (List.mem_cons_self ..)) with h2|h2
    · exact h2.symm
    · have:=Mj x h1;have:=ha1 y h2;omega
  subst hxy
  rw [qb ha2 Sf fun z=> ?_]
  constructor
  ·
   intro hz
   rcases List.mem_cons.1 ((h z).1 (List.mem_cons_of_mem _ hz)) with h1|h1
   · have:=ha1 z hz;omega
   · exact h1
  ·
   intro hz
   rcases List.mem_cons.1 ((h z).2 (List.mem_cons_of_mem _ hz)) with h1|h1
   · have:=Mj z hz;omega
   · exact h1
theorem jN {st:List Int} {i:Nat} (hi:i<st.length) (hn:(i:Int)∉BP st):BP (st.set i 1)=Dq (BP st) (i:Int) true:=by
 refine qb (K_ _) (YI (K_ _) hn) fun x=> ?_
 rw [Ev,GN,GN]
 constructor
 ·
  rintro ⟨j,hj,rfl⟩
  by_cases hji:j=i
  · subst hji;exact .inl rfl
  · rw [List.getElem?_set_ne AA] at hj;exact .inr ⟨j,hj,rfl⟩
 ·
  rintro (rfl|⟨j,hj,rfl⟩)
  · exact ⟨i,List.getElem?_set_self hi,rfl⟩
  ·
   refine ⟨j,?_,rfl⟩
   by_cases hji:i=j
   · subst hji;exact List.getElem?_set_self hi
   · rw [List.getElem?_set_ne hji];exact hj
structure G0 (r:List BC) (d st:List Int):Prop where
 sl:st.length=d.length
 cl:CD r (BP st)=true
 s01:∀x∈st,x=0∨x=1
theorem G0.zero (r:List BC) (d:List Int):G0 r d (List.replicate d.length 0):=
 ⟨List.length_replicate,by rw [O1];exact Ca.2 (fun q _ h=>by cases h),(fun x hx=> .inl (List.eq_of_mem_replicate hx))⟩
theorem G0.done {r:List BC} {d st:List Int} (h:G0 r d st):Fv d.length r (BP st):=⟨K_ _,by rw [←h.sl];exact UQ,h.cl⟩
theorem G0.tri {r:List BC} {d st:List Int} (h:G0 r d st) (day:Int):Kh r d st st day=ID r d (BP st) day:=by
 unfold Kh
 rw [List.filter_eq_self]
 intro x _
 have:st.getD x.toNat 0<4:=by
  rw [List.getD_eq_getElem?_getD]
  cases hx:st[x.toNat]? with
  |none=>decide
  |some y=>
   have:=h.s01 y (List.mem_of_getElem? hx)
   show y<4
   omega
 rw [Bool.not_eq_true',decide_eq_false_iff_not];omega
theorem WM {r:List BC} {d s:List Int} {day x:Int} (h:x∈ID r d s day):(0≤x∧x<(d.length:Int))∧d.getD x.toNat 0≤day∧x∈JP (d.length:Nat) r s:=by
 unfold ID at h
 obtain ⟨h1,h2⟩:=List.mem_filter.1 h
 refine ⟨fF x h1,?_,h1⟩
 rw [Bool.not_eq_true',decide_eq_false_iff_not] at h2
 omega
theorem G0.at0 {r:List BC} {d st:List Int} {x:Int} (h:G0 r d st) (hx:0≤x∧x<(d.length:Int)) (hn:x∉BP st):st.getD x.toNat 0=0:=by
 have hl:x.toNat<st.length:=by rw [h.sl];omega
 rw [List.getD_eq_getElem?_getD,List.getElem?_eq_getElem hl]
 show st[x.toNat]=0
 rcases h.s01 _ (List.getElem_mem hl) with h1|h1
 · exact h1
 · exact absurd (GN.2 ⟨x.toNat,by rw [List.getElem?_eq_getElem hl,h1],by omega⟩) hn
theorem G0.next {r:List BC} {d st:List Int} {day x:Int} (hv:BF (d.length:Nat) r=0) (h:G0 r d st) (hx:x∈ID r d (BP st) day):
  G0 r d (st.set x.toNat 1)∧st.set x.toNat (st.getD x.toNat 0+1)=st.set x.toNat 1∧(BP (st.set x.toNat 1)).length=(BP st).length+1:=by
 obtain ⟨h1,_,h2⟩:=WM hx
 rw [(h.done.due hv).2] at h2
 obtain ⟨_,h3,h4⟩:=QL h2
 have he:((x.toNat:Nat):Int)=x:=by omega
 have hs:BP (st.set x.toNat 1)=Dq (BP st) x true:=by
  have:=jN (st:=st) (i:=x.toNat) (by rw [h.sl];omega) (by rw [he];exact h3)
  rw [he] at this;exact this
 refine ⟨⟨by rw [List.length_set];exact h.sl,by rw [hs];exact h4,fun y hy=> ?_⟩,by rw [h.at0 h1 h3];rfl,by rw [hs];exact Gy h3⟩
 rcases List.mem_or_eq_of_mem_set hy with hy|rfl
 · exact h.s01 y hy
 · exact .inr rfl
theorem G0.full {r:List BC} {d st:List Int} {day:Int} (hv:BF (d.length:Nat) r=0) (h:G0 r d st) (hd:∀x∈d,x≤day) (hn:ID r d (BP st) day=[]):(BP st).length=d.length∧∀x∈st,x=1:=by
 have hal:∀i:Nat,i<d.length→(i:Int)∈BP st:=fun i hi=>by
  refine Classical.byContradiction fun hc=> ?_
  refine Zx (n:=((d.length:Nat):Int)) hv h.cl (by simpa using hi) hc ?_
  rw [show ((d.length:Nat):Int).toNat=d.length by simp]
  unfold ID at hn
  rw [(h.done.due hv).2,List.filter_eq_nil_iff] at hn
  refine List.eq_nil_iff_forall_not_mem.2 fun x hx=> ?_
  have hr:=(QL hx).1
  have hdx:=Dy (l:=d) (i:=x.toNat) AA
  have:=hd _ (List.mem_of_getElem? hdx)
  have:=hn x hx
  rw [Bool.not_eq_true',decide_eq_false_iff_not] at this
  omega
 have hst:∀x∈st,x=1:=fun x hx=>by
  obtain ⟨i,hi⟩:=List.mem_iff_getElem?.1 hx
  obtain ⟨h1,_⟩:=List.getElem?_eq_some_iff.1 hi
  obtain ⟨j,hj,he⟩:=GN.1 (hal i (by rw [←h.sl];exact h1))
  have:i=j:=by omega
  subst this
  rw [hi] at hj;exact Option.some.inj hj
 refine ⟨?_,hst⟩
 unfold BP
 rw [List.length_map,List.filter_eq_self.2,List.length_range,h.sl]
 intro i hi
 have hi:=List.mem_range.1 hi
 rw [List.getD_eq_getElem?_getD,List.getElem?_eq_getElem hi,decide_eq_true_eq]
 exact hst _ (List.getElem_mem hi)
theorem G0.none {r:List BC} {d st:List Int} {day:Int} (hv:BF (d.length:Nat) r=0) (h:G0 r d st) (hl:(BP st).length=d.length):ID r d (BP st) day=[]:=by
 unfold ID
 rw [(h.done.due hv).2,h.done.none hl];rfl
theorem G0.O_ {m:Nat} {l:List BX} {r:List BC} {d st:List Int} {day:Int} (hf:MQ m l r d) (h:G0 r d st) (hd:0≤day∧day≤40000):O_ l.length r d day st st=true:=by
 have hs:DH ((l.length:Nat):Int) (BP st)=true:=by rw [←hf.dl];exact h.done.set
 obtain ⟨h1,h2⟩:=UB (n:=((l.length:Nat):Int)) hf.v hs
 have hm:∀m:Int,1≤m→Fl m st=false:=fun m hm=>by
  unfold Fl
  rw [List.any_eq_false]
  intro x hx
  have:=h.s01 x hx
  unfold IF
  rw [decide_eq_true_eq];omega
 have Z1:=h.sl.trans hf.dl
 exact E3.2 ⟨⟨⟨hf.l24,hf.dl⟩,Z1,Z1⟩,⟨⟨hf.in_,by unfold IF;rw [decide_eq_false_iff_not];omega⟩,hm 3 AB,hm 4 AB⟩,h1,by rw [h2];exact h.cl⟩
theorem G0.QD {r:List BC} {d st:List Int} (h:G0 r d st):∀x∈st,0≤x∧x<4:=fun x hx=>by have:=h.s01 x hx;omega
theorem OP (st:List Int):(BP st).length≤st.length:=by rw [jK];exact MT _ _
theorem jO {l:List BX} {r:List BC} {d:List Int} {day:Int} {st tr:List Int} {sp:Bool} (F0:∀x∈l,x.Cy.small) (hl:l.length≤1000000) (hr:r.length≤1000000) (hd:d.length≤1000000) (hst:st.length≤1000000) (htr:tr.length≤1000000):Fj (α:=Value×Value) prog 73 [agg (FR l r d day st tr sp)] [] (fun _=>True) (fun x=>agg [C9 l,reqs r,ints d,int day,is x.1,is x.2,Cp.bool sp]) (fun x=>[Bs 3 1 (st.map fun n=>[int n]) x.1,Bs 3 1 (tr.map fun n=>[int n]) x.2]):=by
 refine Fj.of func73 rfl rfl Ao fun M0 w0 S rs M1 w1=>(Tr.seq (Tr.An ?_))
 refine TO.VB rfl rfl AB rfl (Va rfl) (fun b1=> ?_)
 refine Tl rfl rfl rfl rfl z42 HJ (fun b2=> ?_)
 refine TO.nil (Fin.go (Tr.seq (Tr.pad (Tr.pad (Tr.GA mixed [none,some (0,3,false,0),none,none,some (0,3,false,0),some (0,0,true,8),none,some (0,3,false,0),some (0,1,true,11),none,some (0,3,true,0),none,some (0,3,true,8),none,some (8,3,true,.two 11 8)] BS (xo rfl (fun _=>AW rfl ZF (vl rfl)) (IV 3 rfl rfl (B0 rfl Cn CG (vl rfl) rfl rfl) (xo rfl (fun _=>AR rfl (YJ F0 hl hr hd) ⟨ke rfl,trivial⟩) (xo rfl (fun _=>AW rfl Q7 (vl rfl)) (IV 3 rfl rfl (BI rfl J6 (vl rfl) rfl) ?_))))))))))
 refine Cx.ef 0 rfl rfl AB (GS rfl rfl AB rfl (N0 (l:=st) hst) ⟨ke rfl,trivial⟩) ?_
 refine xo rfl (fun _=>AW rfl VG (vl rfl)) (IV 3 rfl rfl (BI rfl J6 (vl rfl) rfl) ?_)
 refine Cx.ef 1 rfl rfl AB (GS rfl rfl AB rfl (N0 (l:=tr) htr) ⟨ke rfl,trivial⟩) ?_
 refine xo rfl (fun _=>AW rfl ZF (vl rfl)) (Cx.DP 3 rfl rfl (A0 rfl rfl (vl rfl) (Va rfl) CG rfl Ao rfl) (xo rfl (fun _=>AW rfl Q7 (vl rfl)) ?_))
 refine Cx.DP 3 rfl rfl (qP (s:=8) (R':=fun v=>AF true b1 42 [C9 l,reqs r,ints d,int day,Ad v (lens st.length),ints tr,Cp.bool sp]) rfl rfl AB rfl (fun v=>A0 rfl rfl (vl rfl) (Vo rfl) Lw rfl Ao rfl)) ?_
 refine xo rfl (fun _=>AW rfl VG (vl rfl)) (Cx.DP 3 rfl rfl (zM (s:=8) (t:=11) (f:=fun v=>AF true b1 42 [C9 l,reqs r,ints d,int day,Ad v (lens st.length),ints tr,Cp.bool sp]) (R':=fun u v=>AF true b1 42 [C9 l,reqs r,ints d,int day,Ad u (lens st.length),Ad v (lens tr.length),Cp.bool sp]) rfl rfl AB rfl (fun u v=>A0 rfl rfl (vl rfl) (Vo rfl) Lw rfl Ao rfl)) ?_)
 refine Cx.nil ⟨rfl,?_⟩
 refine BE.Z9 8 rfl (fun v8=> ?_)
 refine BE.Z9 11 rfl (fun v11=> ?_)
 refine BE.V2 0 8 rfl rfl (BE.V2 1 11 rfl rfl (BE.iH 3 11 8 rfl rfl rfl (BE.done (As.cons (As.cons (As.cons (As.cons (As.cons (As.map _)))))) (Fin.go (TR 1 2 rfl (Tr.seq (Tr.An (TO.rd 3 rfl rfl rfl AB (B0 rfl EC DV (vl rfl) rfl rfl) (TO.AK 2 rfl rfl rfl (vl rfl) (Va rfl) rfl DV rfl rfl (TO.nil (Fin.go (Tr.ret (Fin.drop 3 (Fin.wV ((v8,v11)) [_] rfl (AM.cell 2 rfl rfl EC DV rfl (Lr)) trivial ?_ ((Cf (j:=2) rfl).trans (List.Perm.cons _ ((Cf (j:=0) rfl).trans (List.Perm.cons _ ((Cf (j:=0) rfl).trans (List.Perm.cons _ (List.Perm.refl _)))))))))))))))))))))
 · exact BR ⟨Lr,Lr,Lr,Lr,EA _ _,EA _ _,Lr,trivial⟩
theorem jP {p q:Pr} [One p] [One q] {l:List Int}  :BG prog 15 [agg [p,q,ints l]] (int (FN l)):=by
 refine fo func15 rfl ⟨rfl,rfl⟩ fun M0 w0=>(Tr.HD 0 2 rfl rfl fun Vx=> ?_)
 refine a3 ?_
 refine Tr.block (Tr.BH _ (kk [8,7] rfl) (fun k:Nat=>[(9,int ((k:Nat):Int)),(3,int ((l.take k).foldl max (-1)))]) (fun k:Nat=>k≤(l).length) (fun k:Nat=>(l).length-k) 0 (Nat.zero_le _) ⟨kq,kz⟩ ?_)
 rintro k BU
 refine ac ?_
 refine Tr.seq ?_
 refine Tr.cn rfl ?_ ?_<;>intro h1 q1
 have Af:k<(l).length:=AH h1
 obtain ⟨x,Ah⟩:=at_ Af
 refine ac ?_
 refine Tr.seq (Tr.block (Tr.seq (Tr.Aj (co rfl (AD rfl underlying22 Bt vq vq AA (AX Ah)) ?_))))
 refine a2 ?_
 refine co rfl (Jz rfl vq vq) ?_
 refine a2 ?_
 exact Fin.AL (k+1) ⟨Af,by omega⟩ ⟨⟨_,rfl,AG k⟩,⟨_,rfl,int_eq (by rw [List.take_add_one,Ah,List.foldl_append];rfl)⟩,kz⟩
 have BK:k=(l).length:=by have:=AJ h1;omega
 subst BK
 rw [List.take_length]
 refine a3 ?_
 · exact Lr
theorem max_le:∀{l:List Int} {a m:Int},a≤m→(∀x∈l,x≤m)→l.foldl max a≤m
 |[],_,_,h,_=>h
 |b::l,a,m,h,hl=>by
  rw [List.foldl_cons]
  have:=hl b (List.mem_cons_self ..)
  exact max_le AA fun x hx=>hl x (List.mem_cons_of_mem _ hx)
theorem MQ.last {m:Nat} {l:List BX} {r:List BC} {d:List Int} (h:MQ m l r d):FN d≤40000:=max_le AB fun x hx=>by
 have h1:=List.any_eq_false.1 h.in_ x hx
 unfold IF at h1
 rw [decide_eq_true_eq] at h1;omega
theorem vE {d:List Int} {x:Int} (h:x∈d):x≤FN d:=(ak d (-1)).2 x h
theorem fM {r:List BC} {d st tr:List Int} {day x:Int}:x∈Kh r d st tr day↔x∈ID r d (BP st) day∧tr.getD x.toNat 0<4:=by
 unfold Kh
 rw [List.mem_filter,Bool.not_eq_true',decide_eq_false_iff_not]
 refine and_congr_right fun _=>by omega
def aq (l:List BX) (r:List BC) (d:List Int) (day:Int) (st tr:List Int) (i:Int) (x y z:CA):List Pr:=if (Kh r d st tr day).contains i=true then FR l r d day (if z=y then st.set i.toNat 1 else if z=x then st.set i.toNat 2 else st) (tr.set i.toNat (tr.getD i.toNat 0+1)) (!decide (z=y∨z=x)) else FR l r d day st tr false
theorem wX {R:Int→Int→Prop} (hn:∀a b,R a b→R b a→False):∀{a b:List Int},a.Pairwise R→b.Pairwise R→(∀x,x∈a↔x∈b)→a=b
 |[],[],_,_,_=>rfl
 |[],y::b,_,_,h=>by have:=(h y).2 (List.mem_cons_self ..);cases this
 |x::a,[],_,_,h=>by have:=(h x).1 (List.mem_cons_self ..);cases this
 |x::a,y::b,ha,hb,h=>by
  obtain ⟨ha1,ha2⟩:=List.pairwise_cons.1 ha
  obtain ⟨Mj,Sf⟩:=List.pairwise_cons.1 hb
  have hxy:x=y:=by
   rcases List.mem_cons.1 ((h x).1 (List.mem_cons_self ..)) with h1|h1
   · exact h1
   ·
    rcases List.mem_cons.1 ((h y).2 (List.mem_cons_self ..)) with h2|h2
    · exact h2.symm
    · exact (hn _ _ (Mj x h1) (ha1 y h2)).elim
  subst hxy
  rw [wX hn ha2 Sf fun z=>⟨fun hz=> ?_,fun hz=> ?_⟩]
  ·
   rcases List.mem_cons.1 ((h z).1 (List.mem_cons_of_mem _ hz)) with rfl|h1
   · exact (hn _ _ (ha1 z hz) (ha1 z hz)).elim
   · exact h1
  ·
   rcases List.mem_cons.1 ((h z).2 (List.mem_cons_of_mem _ hz)) with rfl|h1
   · exact (hn _ _ (Mj z hz) (Mj z hz)).elim
   · exact h1
theorem wY {p:Int→Bool}:∀{o:List Int} {j:Nat},j≤o.length→(∀m y,m<j→o[m]? =some y→p y=true)→(∀y,o[j]? =some y→p y=false)→o.takeWhile p=o.take j∧o.dropWhile p=o.drop j
  | [], j, h, _, _ => by obtain rfl : j = 0 := by simpa using h
                         exact ⟨rfl,rfl⟩
  |a::o,0,_,_,h3=>by have:=h3 a rfl;simp [this]
  |a::o,j+1,h1,h2,h3=>by
    have h4:=h2 0 a AA rfl
    obtain ⟨h5,h6⟩:=wY (o:=o) (j:=j) It (fun m y hm hy=>h2 (m+1) y AA hy) (fun y hy=>h3 y hy)
    simp [h4,h5,h6]
theorem vF {a b o:List Int} (h:a++b=o):o.take a.length=a∧o.drop a.length=b:=by subst h;simp
def PB (d:List Int) (i y:Int):Bool:=decide (d.getD y.toNat 0≤d.getD i.toNat 0)
def S_ (d o:List Int) (i:Int):Nat:=(o.takeWhile (PB d i)).length
def qc (d o:List Int) (i:Int):List Int:=o.take (S_ d o i)++[i]++o.drop (S_ d o i)
def LK (d:List Int):Nat→List Int
 |0=>[]
 |k+1=>qc d (LK d k) (k:Int)
theorem fN {d o:List Int} {i:Int} {j:Nat} (h:j≤o.length) (h1:∀m y,m<j→o[m]? =some y→PB d i y=true) (h2:∀y,o[j]? =some y→PB d i y=false):S_ d o i=j:=by
 unfold S_
 rw [(wY h h1 h2).1,List.length_take];omega
theorem WN (d:List Int):∀k:Nat,(LK d k).Pairwise (WK d)∧(∀x,x∈LK d k↔0≤x∧x<(k:Int))∧(LK d k).length=k
 |0=>⟨List.Pairwise.nil,fun x=>⟨fun h=>FW,fun h=>by omega⟩,rfl⟩
 |k+1=>by
  obtain ⟨h1,h2,h3⟩:=WN d k
  generalize ho:LK d k=o at h1 h2 h3
  obtain ⟨e1,e2⟩:=vF (List.takeWhile_append_dropWhile (p:=PB d k) (l:=o))
  have e3:LK d (k+1)=o.takeWhile (PB d k)++[(k:Int)]++o.dropWhile (PB d k):=by
   show qc d (LK d k) k=_
   unfold qc S_
   rw [ho,e1,e2]
  have ht:∀y∈o.takeWhile (PB d k),PB d k y=true:=by
   clear h1 h2 h3 ho e1 e2 e3
   induction o with
   |nil=>intro y h;cases h
   |cons a o ih=>
    intro y hy
    rw [List.takeWhile_cons] at hy
    split at hy
    ·
     rcases List.mem_cons.1 hy with rfl|hy
     · exact Bq
     · exact ih y hy
    · cases hy
  have hd:∀y∈o.dropWhile (PB d k),PB d k y=false:=by
   clear h2 h3 ho e1 e2 e3 ht
   induction o with
   |nil=>intro y h;cases h
   |cons a o ih=>
    obtain ⟨g1,g2⟩:=List.pairwise_cons.1 h1
    intro y hy
    rw [List.dropWhile_cons] at hy
    split at hy
    · exact ih g2 y hy
    ·
     rename_i hq
     rcases List.mem_cons.1 hy with rfl|hy
     · simpa using hq
     ·
      have g3:=g1 y hy
      unfold WK at g3
      unfold PB at hq ⊢
      rw [decide_eq_true_eq] at hq
      rw [decide_eq_false_iff_not];omega
  have hm:∀y,y∈o↔y∈o.takeWhile (PB d k)∨y∈o.dropWhile (PB d k):=fun y=>by
   rw [←List.mem_append,List.takeWhile_append_dropWhile]
  have hp:=h1
  rw [←List.takeWhile_append_dropWhile (p:=PB d k) (l:=o),List.pairwise_append] at hp
  obtain ⟨p1,p2,p3⟩:=hp
  have hl:=congrArg List.length (List.takeWhile_append_dropWhile (p:=PB d k) (l:=o))
  rw [List.length_append] at hl
  rw [e3]
  refine ⟨?_,fun x=> ?_,by simp only [List.length_append,List.length_cons,List.length_nil];omega⟩
  ·
   rw [List.pairwise_append,List.pairwise_append]
   refine ⟨⟨p1,List.pairwise_singleton _ _,fun a ha b hb=> ?_⟩,p2,fun a ha b hb=> ?_⟩
   ·
    rw [List.mem_singleton] at hb;subst hb
    have:=ht a ha
    have:=(h2 a).1 ((hm a).2 (.inl ha))
    unfold PB at*
    unfold WK
    rw [decide_eq_true_eq] at*
    omega
   ·
    rcases List.mem_append.1 ha with ha|ha
    · exact p3 a ha b hb
    ·
     rw [List.mem_singleton] at ha;subst ha
     have:=hd b hb
     unfold PB at this
     unfold WK
     rw [decide_eq_false_iff_not] at this
     omega
  ·
   have:=h2 x
   rw [List.mem_append,List.mem_append,List.mem_singleton]
   rw [hm] at this
   constructor
   ·
    rintro ((h|h)|h)
    · have:=this.1 (.inl h);omega
    · omega
    · have:=this.1 (.inr h);omega
   ·
    intro h
    by_cases hx:x=(k:Int)
    · exact .inl (.inr hx)
    ·
     rcases this.2 AA with h|h
     · exact .inl (.inl h)
     · exact .inr h
theorem vG (d:List Int):LK d d.length=NP d:=by
 obtain ⟨h1,h2,_⟩:=WN d d.length
 obtain ⟨h3,h4⟩:=fE d
 refine wX (fun a b g1 g2=>by unfold WK at*;omega) h1 h3 fun x=> ?_
 rw [h2,h4.mem_iff]
 exact ⟨fun h=>by unfold ON;exact List.mem_map.2 ⟨x.toNat,List.mem_range.2 AA,by omega⟩,fun h=>qO x h⟩
theorem vH (d o:List Int) (i:Int):S_ d o i≤o.length:=by
 have h:=congrArg List.length (List.takeWhile_append_dropWhile (p:=PB d i) (l:=o))
 rw [List.length_append] at h
 unfold S_;omega
theorem qd {d o:List Int} {i:Int} {j:Nat} {x:Int} (hx:o[j]? =some x) (h:PB d i x=true) (hi:∀m y,m<j→o[m]? =some y→PB d i y=true):∀m y,m<j+1→o[m]? =some y→PB d i y=true:=fun m y hm hy=>by
 rcases Nat.lt_or_ge m j with h1|h1
 · exact hi m y h1 hy
 ·
  obtain rfl:m=j:=by omega
  rw [hx] at hy;cases hy;exact h
theorem au {l:List BX} {r:List BC} {d:List Int} (OI:d.length=l.length) (hl:l.length≤1000000):BG prog 28 [agg [C9 l,reqs r,ints d]] (ints (NP d)):=by
 refine fo func28 rfl ⟨rfl,rfl⟩ fun M0 w0=>(Tr.HD 0 0 rfl rfl fun Hw=> ?_)
 refine a3 ?_
 refine Tr.block (Tr.B5 3 1 (Tr.EO _ (kk [9,1] rfl) (fun k v=>[(10,int ((k:Nat):Int)),(3,Ad v (ints (LK d k)))]) (fun k v=>Hp M0 w0 FO ([Aw 3 1 v])) (fun k:Nat=>k≤(l).length) (fun k:Nat=>(l).length-k) 0 (.slice none 0 0) (Nat.zero_le _) ⟨kq,⟨_,rfl,Bi rfl⟩,trivial⟩ (fun _ _ h=>h) ?_))
 rintro k v BU
 refine ac ?_
 refine Tr.seq ?_
 refine Tr.cn rfl ?_ ?_<;>intro h1 q1
 have Af:k<(l).length:=AH h1
 obtain ⟨x,Ah⟩:=at_ Af
 have hkd:k<d.length:=by omega
 have hok:=WN d k
 have hol:=hok.2.2
 have hdk:=Dy hkd
 have hpl:=vH d (LK d k) ((k:Nat):Int)
 refine a3 ?_
 refine wk [10,9,5,4,3,1] rfl (Tr.U5 [1,3,4,9,10] [(5,int ((S_ d (LK d k) ((k:Nat):Int):Nat):Int))] (True) ?_ (fun h2=> ?_))
 refine Tr.block (Tr.BH _ (kk [10,9,4,3,1] rfl) (fun j:Nat=>[(5,int ((j:Nat):Int))]) (fun j:Nat=>j≤k∧(∀m y,m<j→(LK d k)[m]? =some y→PB d ((k:Nat):Int) y=true)) (fun j:Nat=>k-j) 0 (⟨Nat.zero_le _,fun m y hj=>absurd hj AA⟩) kz ?_)
 rintro j ⟨ADH,hinv⟩
 refine ac ?_
 refine co rfl (CB rfl underlying22 G3) ?_
 refine ag ?_ ?_<;>intro h3 q3
 obtain ⟨y,hy⟩:=at_ (l:=LK d k) (k:=j) (by have:=q3;omega)
 have hyr:=(hok.2.1 y).1 (List.mem_of_getElem? hy)
 have hdy:=Dy (l:=d) (i:=y.toNat) AA
 refine ac ?_
 refine cy h3 rfl (AD rfl underlying22 Bt G3 vq AA (AX hy)) (cy h3 rfl (Fw rfl C8 rfl) (cy h3 rfl (AD rfl underlying22 Bt vq vq AA (Bh hdy)) ?_))
 refine ac ?_
 refine cy h3 rfl (AD rfl underlying22 Bt vq vq AA (AX hdk)) ?_
 refine ac ?_
 refine wk [32,10,9,5,4,3,1] rfl ?_
 refine Tr.cn rfl ?_ ?_<;>intro h4 q4
 have hq:PB d ((k:Nat):Int) y=true:=by unfold PB;simpa using h4
 refine a2 ?_
 exact Fin.AL (j+1) ⟨⟨by omega,qd hy hq hinv⟩,by omega⟩ ⟨⟨_,rfl,AG j⟩,kz⟩
 have hp:S_ d (LK d k) ((k:Nat):Int)=j:=fN AA hinv (fun z hz=>by rw [hy] at hz;cases hz;unfold PB;simpa using h4)
 refine Tr.exit (Fin.Ac (Fin.Ac (Fin.A7 (Fin.AL () trivial ⟨⟨_,rfl,int_eq (by rw [hp])⟩,kz⟩))))
 have hp:S_ d (LK d k) ((k:Nat):Int)=j:=fN AA hinv (fun y hy=>by have:=BM hy;have:=q3;omega)
 refine ac ?_
 refine wk [32,10,9,5,4,3,1] rfl (Tr.cond rfl (fun h=>nomatch h) (fun _=> ?_))
 refine Tr.exit (Fin.Ac (Fin.Ac (Fin.A7 (Fin.AL () trivial ⟨⟨_,rfl,int_eq (by rw [hp])⟩,kz⟩))))
 refine ap ?_
 refine tp rfl (DY rfl underlying22 Bt G3 vq AA B8) ?_
 refine TO.pad ?_
 refine TO.DT 0 rfl rfl AB (EB rfl rfl AB rfl underlying22 Bt G2 z3 rfl AB ⟨_,rfl,AQ _⟩ vq Ip Iq (Br BL ⟨_,rfl,Cr 1⟩)) (fun v1=> ?_)
 refine ap ?_
 refine ap ?_
 refine TO.DT 0 rfl rfl AB (B7 rfl rfl rfl rfl underlying22 Bt G2 z3 G3 F4 (Ay BL Jo)) (fun v2=> ?_)
 refine ap ?_
 refine wk [10,9,6,5,3,1] rfl ?_
 refine ap ?_
 refine tp rfl (DL rfl underlying22 Bt G3 vq AA B8) ?_
 refine TO.DT 0 rfl rfl AB (B7 rfl rfl rfl rfl underlying22 Bt G2 z3 G3 vq (Ay BL Jo)) (fun v3=> ?_)
 refine ap ?_
 refine ac ?_
 refine Fin.L3 (Fin.drop 0 ?_)
 exact Fin.C1 (k+1) v3 (⟨Af,by omega⟩) ⟨⟨_,rfl,AG k⟩,⟨_,rfl,BA (by show _=(qc d (LK d k) ((k:Nat):Int)).map fun n=>[int n];unfold qc;simp [List.map_take,List.map_drop])⟩,kz⟩ (fun _ _ h=>h)
 have BK:k=(l).length:=by have:=AJ h1;omega
 subst BK
 refine a3 ?_
 · refine Pr.le_trans (Ar _ _) (Pr.le_of_eq ?_);rw [←OI,vG]
end Go.Proofs.YtmocaapoeefgkaaGreatDoor
namespace Cp
open Go Go.RowKit Go.Great
section
variable {P:Program} {n:Fm} {E:Env} {M0:Av} {w0:World} {S:Nat→Prop} {o:Oper}
theorem zP {t:TypeId} {x:Operand} {y:Tmp} {b j m:Nat} {T:TypeId} {new:Bool} {ps qs:List Pr} {p:Pr} (hg:o.guard=none) (hd:o.dst=none) (ho:o.op= .store t x (.tmp y)) (hx:E.lookup y=some p) (hxs:∀v,VL ((y,Ad v p)::E) x (ptr b 0)) (hp:Pr.le p (Cv qs)) (hz:BB P t=some m) (hm:qs.length=m) (hl:ps.length=m):
  DI P M0 w0 S n j (SR.c (AF new b T ps)) ⟨y,fun u=>AF new b T (u.cells.toList.map is)⟩ o E any:=by
 refine qP hd hx (Ik (op:= .store t x (.tmp y)) Mc ho) hg fun v=> ?_
 refine ⟨hg,fun M w a rs hsz he hI hj=> ?_⟩
 have hyl:y∈looks o:=Ik (op:= .store t x (.tmp y)) Mc ho
 have hv:(Ad v p).h M w (a.tmps.getD y undef):=he y _ hyl List.lookup_cons_self
 obtain ⟨rfl,Sg⟩:=hv
 have hc:=hp _ _ _ Sg
 have hle:Pr.le (Ad (a.tmps.getD y undef) (Cv qs)) (Cv ((a.tmps.getD y undef).cells.toList.map is)):=fun M w v h=>by
  obtain ⟨rfl,h2⟩:=h
  obtain ⟨g1,g2⟩:=h2
  exact ⟨J1 _ _ _,g2⟩
 have AGe:Pr.le (Ad (a.tmps.getD y undef) p) (Cv ((a.tmps.getD y undef).cells.toList.map is)):=fun M w v h=>hle M w v ⟨h.1,hp _ _ _ h.2⟩
 exact (A0 (P:=P) (M0:=M0) (w0:=w0) (S:=S) (n:=n) (j:=j) hg ho (hxs _) ⟨_,List.lookup_cons_self,AGe⟩ hz (by have:=hc.1.length;rw [List.length_map];omega) AA (by rw [List.take_zero,List.nil_append,List.drop_eq_nil_of_le AA,List.append_nil])).2 M w a rs hsz he hI hj
end
end Cp
namespace Go.Proofs.YtmocaapoeefgkaaGreatDoor
open Go Go.RowKit Cp Go.Proofs.Tryz
theorem NR {n:Int} {l:List BC} {s:List Int} (hl:l.length≤1000000):BG prog 31 [int n,reqs l,ints s] (Dz [bool (SC n l s),int (LJ n l s)]):=by
 refine fo func31 rfl ⟨rfl,rfl⟩ fun M0 w0=> ?_
 refine a2 ?_
 refine co rfl (CL (HV hl) rfl rfl rfl) ?_
 refine ac ?_
 refine an ?_ ?_<;>intro h1 q1
 have hv:=wM (s:=s) (n:=n) (l:=l) It
 refine ac ?_
 refine Tr.ret (Fin.AE (Fin.Ct rfl (Bg.Dc _ _) rfl ?_ rfl ?_))
 · refine bool_eq ?_;exact hv.2.symm
 · refine int_eq ?_;exact hv.1.symm
 have hv:BF n l=0:=by simpa using h1
 refine a2 ?_
 refine co rfl (CL (MC (l:=s) (n:=n)) rfl rfl rfl) ?_
 refine an ?_ ?_<;>intro h2 q2
 have Sg:=wN (n:=n) (s:=s) hv Iu
 refine ac ?_
 refine wk [7,6] rfl (Tr.ret (Fin.AE (Fin.Ct rfl (Bg.Dc _ _) rfl ?_ rfl ?_)))
 · refine bool_eq ?_;exact Sg.2.symm
 · refine int_eq ?_;exact Sg.1.symm
 have hv3:=UB (n:=n) (s:=s) hv Iu
 refine a2 ?_
 refine co rfl (CL (Oo) rfl rfl rfl) ?_
 refine ac ?_
 refine wk [7,6] rfl (Tr.ret (Fin.Ct rfl (Bg.Dc _ _) rfl ?_ rfl ?_))
 · refine bool_eq ?_;exact hv3.2.symm
 · refine int_eq ?_;exact hv3.1.symm
def fO (n:Int) (l:List BC) (s:List Int) (add:Bool):List Int:=if E2 n l s=0 then Dm n.toNat l s add else []
theorem vI {n:Int} {l:List BC} {s:List Int} (h:LJ n l s≠0):E2 n l s=LJ n l s:=by
 unfold LJ at h ⊢
 unfold E2
 by_cases hv:BF n l≠0
 · rw [if_pos hv,if_pos hv]
 ·
  rw [if_neg hv] at h ⊢
  rw [if_neg hv]
  by_cases hs:DH n s=true
  · rw [if_pos hs] at h;exact absurd rfl h
  · rw [if_neg hs,if_neg (fun h=>hs h.1)]
theorem zQ {n:Int} {l:List BC} {s:List Int} (h:LJ n l s=0):BF n l=0∧DH n s=true∧SC n l s=CD l s:=by
 unfold LJ at h
 by_cases hv:BF n l=0
 ·
  rw [if_neg (not_not_intro hv)] at h
  by_cases hs:DH n s=true
  · exact ⟨hv,hs,(UB hv hs).2⟩
  · rw [if_neg hs] at h;cases h
 · rw [if_pos hv] at h;exact absurd h hv
theorem fP {n:Int} {l:List BC} {s:List Int} {add:Bool} {e:Int} (h:E2 n l s=e) (he:e≠0):fO n l s add=[]:=by unfold fO;rw [if_neg He]
theorem UR {n:Int} {l:List BC} {s:List Int} {add:Bool} (hl:l.length≤1000000) (hs:s.length≤100000):BG prog 72 [int n,reqs l,ints s,bool add] (Dz [ints (fO n l s add),int (E2 n l s)]):=by
 refine fo func72 rfl ⟨rfl,rfl⟩ fun M0 w0=> ?_
 refine a2 ?_
 refine co rfl (Jn (NR hl) rfl rfl rfl rfl) ?_
 refine ac ?_
 refine an ?_ ?_<;>intro h1 q1
 have he:LJ n l s≠0:=by simpa using h1
 have ha:=vI he
 refine ac ?_
 refine wk [9,8] rfl (Tr.ret (Fin.AE (Fin.Ct rfl (Bg.Dc _ _) rfl ?_ rfl ?_)))
 · rw [fP ha he];exact AQ 1
 · exact int_eq ha.symm
 obtain ⟨hv,hsb,hcx⟩:=zQ (n:=n) (l:=l) (s:=s) It
 obtain ⟨h0,_⟩:=DF hv
 obtain ⟨N,rfl⟩:∃N:Nat,n=(N:Int):=⟨n.toNat,by omega⟩
 refine a2 ?_
 refine wk [23,3,2,1,0] rfl ?_
 refine Tr.cn rfl ?_ ?_<;>intro h2 q2
 have ADR:E2 (N:Int) l s=46:=aI hv (fun h_=>by rw [hcx,h_.2] at h2;cases h2)
 refine ac ?_
 refine Tr.ret (Fin.AE (Fin.Ct rfl (Bg.Dc _ _) rfl ?_ rfl ?_))
 · rw [fP ADR AB];exact AQ 1
 · exact int_eq ADR.symm
 have ha0:E2 (N:Int) l s=0:=eW hv hsb (by rw [←hcx];simpa using h2)
 refine a2 ?_
 refine co rfl (ZS (KQ (n:=N) AA AA) rfl rfl rfl rfl rfl) ?_
 refine ac ?_
 refine Tr.ret (Fin.Ct rfl (Bg.Dc _ _) rfl ?_ rfl ?_)
 · unfold fO;rw [if_pos ha0];exact Lr
 · exact int_eq ha0.symm
theorem av {n:Int} {l:List BC} {s:List Int} (hl:l.length≤1000000) (hs:s.length≤100000):BG prog 76 [int n,reqs l,ints s] (Dz [ints (JP n l s),int (E2 n l s)]):=by
 refine fo func76 rfl ⟨rfl,rfl⟩ fun M0 w0=> ?_
 refine a2 ?_
 refine co rfl (ZS (UR (add:=true) hl hs) rfl rfl rfl rfl rfl) ?_
 refine ac ?_
 refine Tr.ret (Fin.Ct rfl (Bg.Dc _ _) rfl ?_ rfl ?_)
 · exact Lr
 · exact Lr
theorem Sb {n:Int} {l:List BC} {s:List Int} (hl:l.length≤1000000) (hs:s.length≤100000):BG prog 19 [int n,reqs l,ints s] (Dz [ints (HZ n l s),int (E2 n l s)]):=by
 refine fo func19 rfl ⟨rfl,rfl⟩ fun M0 w0=> ?_
 refine a2 ?_
 refine co rfl (ZS (UR (add:=false) hl hs) rfl rfl rfl rfl rfl) ?_
 refine ac ?_
 refine Tr.ret (Fin.Ct rfl (Bg.Dc _ _) rfl ?_ rfl ?_)
 · exact Lr
 · exact Lr
theorem qg {p:Int→Bool} (L:List Int) (k:Nat):((L.take k).filter p).length≤k:=Nat.le_trans (List.length_filter_le _ _) Ir
theorem jQ {p:Int→Bool} {L:List Int} {k:Nat} {x:Int} (h:L[k]? =some x):(L.take (k+1)).filter p=if p x=true then (L.take k).filter p++[x] else (L.take k).filter p:=by
 rw [List.take_add_one,h,List.filter_append]
 cases hp:p x<;>simp [hp]
theorem jR (n:Nat) (l:List BC) (s:List Int) (b:Bool):(Dm n l s b).length≤n:=by unfold Dm;rw [List.length_map];exact Nat.le_trans (List.length_filter_le _ _) Qi
theorem qh {n:Nat} {l:List BC} {s:List Int}:(JP (n:Int) l s).length≤n:=by
 unfold JP
 split
 · exact jR _ _ _ _
 · exact Nat.zero_le _
theorem YO {l:List BX} {r:List BC} {d s:List Int} {day:Int} (OI:d.length=l.length) (hl:l.length≤1000000) (hr:r.length≤1000000) (hs:s.length≤100000):BG prog 23 [agg [C9 l,reqs r,ints d],ints s,int day] (Dz [ints (ID r d s day),int (aj r d s)]):=by
 refine fo func23 rfl ⟨rfl,rfl⟩ fun M0 w0=> ?_
 have hal:=qh (n:=d.length) (l:=r) (s:=s)
 refine a2 ?_
 refine co rfl (Jn (av (n:=((l.length:Nat):Int)) hr hs) rfl rfl rfl rfl) ?_
 refine ac ?_
 refine wk [9,8,3,2] rfl (Tr.seq (Tr.seq (Tr.re 8 rfl (Pr.le_of_eq (show ints (JP ((l.length:Nat):Int) r s)=ints (JP ((d.length:Nat):Int) r s) by rw [OI])) (Tr.re 9 rfl (int_eq (show E2 ((l.length:Nat):Int) r s=E2 ((d.length:Nat):Int) r s by rw [OI])) ?_))))
 refine an ?_ ?_<;>intro h1 q1
 obtain ⟨hd1,hd2⟩:=zN (r:=r) (d:=d) (s:=s) (day:=day) It
 refine ac ?_
 refine Tr.ret (Fin.AE (Fin.Ct rfl (Bg.Dc _ _) rfl ?_ rfl ?_))
 · rw [hd2];exact AQ 1
 · exact int_eq hd1.symm
 have ha0:E2 ((d.length:Nat):Int) r s=0:=by simpa using h1
 refine a3 ?_
 refine Tr.block (Tr.B5 3 1 (Tr.EO _ (kk [26,25,3,2] rfl) (fun k v=>[(27,int ((k:Nat):Int)),(10,Ad v (ints (((JP ((d.length:Nat):Int) r s).take k).filter (fun i=> !decide (d.getD i.toNat 0>day)))))]) (fun k v=>Hp M0 w0 FO ([Aw 3 1 v])) (fun k:Nat=>k≤((JP ((d.length:Nat):Int) r s)).length) (fun k:Nat=>((JP ((d.length:Nat):Int) r s)).length-k) 0 (.slice none 0 0) (Nat.zero_le _) ⟨kq,⟨_,rfl,Bi rfl⟩,trivial⟩ (fun _ _ h=>h) ?_))
 rintro k v BU
 refine ac ?_
 refine Tr.seq ?_
 refine Tr.cn rfl ?_ ?_<;>intro h2 q2
 have Af:k<((JP ((d.length:Nat):Int) r s)).length:=AH h2
 obtain ⟨x,Ah⟩:=at_ Af
 have hxr:=fF x (List.mem_of_getElem? Ah)
 have hdx:=Dy (l:=d) (i:=x.toNat) AA
 have hfs:=jQ (p:=(fun i=> !decide (d.getD i.toNat 0>day))) Ah
 have hfl:=qg (p:=(fun i=> !decide (d.getD i.toNat 0>day))) (JP ((d.length:Nat):Int) r s) k
 refine ac ?_
 refine Tr.seq (Tr.block (Tr.seq (Tr.Aj (co rfl (AD rfl underlying51 Bt vq vq AA (AX Ah)) ?_))))
 refine a2 ?_
 refine co rfl (AD rfl underlying22 Bt vq vq AA (Bh hdx)) ?_
 refine ac ?_
 refine wk [37,27,26,25,12,10,3,2] rfl ?_
 refine Tr.cn rfl ?_ ?_<;>intro h3 q3
 refine ap ?_
 refine TO.DT 0 rfl rfl AB (B7 rfl rfl rfl rfl underlying51 Bt G2 z3 G3 F4 (Ay BL Jo)) (fun v1=> ?_)
 refine ap ?_
 refine ac ?_
 exact Fin.C1 (k+1) v1 (⟨Af,by omega⟩) ⟨⟨_,rfl,AG k⟩,⟨_,rfl,BA (by rw [hfs,if_pos (by have:=h3;simp_all),List.map_append];rfl)⟩,kz⟩ (fun _ _ h=>h)
 refine a2 ?_
 exact Fin.C1 (k+1) v (⟨Af,by omega⟩) ⟨⟨_,rfl,AG k⟩,⟨_,rfl,BA (by rw [hfs,if_neg (by have:=h3;simp_all)])⟩,kz⟩ (fun _ _ h=>h)
 have BK:k=((JP ((d.length:Nat):Int) r s)).length:=by have:=AJ h2;omega
 subst BK
 rw [List.take_length]
 refine a2 ?_
 refine Tr.ret (Fin.Ct rfl (Bg.Dc _ _) rfl ?_ rfl ?_)
 · exact Gt
 · exact int_eq (wW ha0).symm
theorem Sc {l:List BX} {r:List BC} {d:List Int} (F0:∀x∈l,x.Cy.small) (hl:l.length≤1000000) (hr:r.length≤1000000) (hd:d.length≤1000000):BG Tryz.prog 33 [agg [C9 l,reqs r,ints d]] (agg [C9 l,reqs r,ints d]):=Nx.frz (BD fun _=>rfl) (SU F0 hl hr hd)
theorem fQ {r:List BC} {d st tr:List Int} {day i:Int}:(Gn (ID r d (BP st) day) i&&decide (tr.getD i.toNat 0<4))=(Kh r d st tr day).contains i:=by
 rw [Bool.eq_iff_iff,Bool.and_eq_true,decide_eq_true_eq,C3,List.contains_iff_mem,fM]
theorem az {l:List BX} {r:List BC} {d:List Int} {day:Int} {st tr:List Int} {sp:Bool} (F0:∀x∈l,x.Cy.small) (hl:l.length≤1000000) (hr:r.length≤1000000) (hd:d.length≤1000000) (hst:st.length≤1000000) (htr:tr.length≤1000000):Fj (α:=Value×Value) prog 70 [agg (FR l r d day st tr sp)] [] (fun _=>True) (fun x=>agg [C9 l,reqs r,ints d,int day,is x.1,is x.2,Cp.bool sp]) (fun x=>[Bs 3 1 (st.map fun n=>[int n]) x.1,Bs 3 1 (tr.map fun n=>[int n]) x.2]):=by
 refine Fj.of func70 rfl rfl Ao fun M0 w0 S rs M1 w1=>(Tr.seq (Tr.An (tp rfl (Bb rfl Cs) ?_)))
 refine Tl rfl rfl rfl rfl z42 HJ (fun b1=> ?_)
 refine ap ?_
 refine Tr.seq (Tr.pad (Tr.pad (Tr.pad (Tr.rx ?_))))
 refine ay ?_
 refine xo rfl (fun _=>Cq (Sc F0 hl hr hd) rfl rfl) ?_
 refine ay ?_
 refine Cx.ef 0 rfl rfl AB (MM rfl rfl AB rfl underlying22 Bt G2 z3 rfl AB AB ⟨_,rfl,Cr 1⟩ vq Jw Cz) ?_
 refine ay ?_
 refine Cx.ef 1 rfl rfl AB (MM rfl rfl AB rfl underlying22 Bt G2 z3 rfl AB AB ⟨_,rfl,Cr 1⟩ vq Jw Cz) ?_
 refine ay ?_
 refine Cx.ef 2 rfl rfl AB (oo (d:=16) (s:=10) (t:=13) (p:=fun u v=>agg [C9 l,reqs r,ints d,int day,Ad u (lens (st.map fun n=>[int n]).length),Ad v (lens (tr.map fun n=>[int n]).length),Cp.bool sp]) (q:=agg [C9 l,reqs r,ints d,int day,lens (st.map fun n=>[int n]).length,lens (tr.map fun n=>[int n]).length,Cp.bool sp]) rfl AB AB (fun _ _=>BR ⟨Lr,Lr,Lr,Lr,Ar _ _,Ar _ _,Lr,trivial⟩) rfl rfl rfl AB AB (fun u v=>V1 rfl rfl AB (fun _=>Ak (rows:=[(0,_),(1,[_]),(2,[_]),(3,[_]),(4,[_])]) rfl ZE HJ ⟨⟨rfl,VL.le vq (Ae _)⟩,⟨⟨rfl,VL.le vq (AY _)⟩,⟨⟨rfl,VL.le vq (AY _)⟩,⟨⟨rfl,VL.le vq (AY _)⟩,⟨⟨rfl,VL.le vq (AY _)⟩,trivial⟩⟩⟩⟩⟩ rfl))) (Cx.DP 3 rfl rfl (zP rfl rfl rfl rfl (fun v=>vl rfl) (Ae _) DV rfl rfl) ?_)
 refine Cx.nil ⟨by kernel_rfl,?_⟩
 refine BE.Z9 10 rfl (fun v10=> ?_)
 refine BE.Z9 13 rfl (fun v13=> ?_)
 refine BE.Z9 16 rfl (fun v16=> ?_)
 refine BE.V2 0 10 rfl rfl (BE.V2 1 13 rfl rfl (BE.AC5 2 16 10 13 rfl rfl rfl rfl (BE.V2 3 16 rfl rfl (BE.done al5 (Fin.SB 2 3 rfl rfl (Fin.drop 2 (Fin.go (wk [2] rfl (Tr.ret (Fin.wV ((v10,v13)) [_] rfl (AM.cell 2 rfl rfl EC DV rfl Lr) trivial ?_ ((Cf (j:=2) rfl).trans (List.Perm.cons _ ((Cf (j:=0) rfl).trans (List.Perm.cons _ ((Cf (j:=0) rfl).trans (List.Perm.cons _ (List.Perm.refl _)))))))))))))))))
 · exact BR ⟨Lr,Lr,Lr,Lr,EA _ _,EA _ _,Lr,trivial⟩
theorem OQ {l:List BX} {r:List BC} {d:List Int} {day:Int} {st tr:List Int} {sp:Bool} (hst:st.length≤1000000):BG prog 20 [agg (FR l r d day st tr sp)] (ints (BP st)):=by
 refine fo func20 rfl ⟨rfl,rfl⟩ fun M0 w0=> ?_
 refine a3 ?_
 refine Tr.block (Tr.B5 3 1 (Tr.EO _ (kk [8,7] rfl) (fun k v=>[(9,int ((k:Nat):Int)),(3,Ad v (ints (JU st k)))]) (fun k v=>Hp M0 w0 FO ([Aw 3 1 v])) (fun k:Nat=>k≤(st).length) (fun k:Nat=>(st).length-k) 0 (.slice none 0 0) (Nat.zero_le _) ⟨kq,⟨_,rfl,Bi rfl⟩,trivial⟩ (fun _ _ h=>h) ?_))
 rintro k v BU
 refine ac ?_
 refine Tr.seq ?_
 refine Tr.cn rfl ?_ ?_<;>intro h1 q1
 have Af:k<(st).length:=AH h1
 obtain ⟨x,Ah⟩:=at_ Af
 have hsk:=O0 Ah
 have AGd:=MT st k
 refine a2 ?_
 refine co rfl (AD rfl underlying22 Bt vq vq AA (AX Ah)) ?_
 refine ac ?_
 refine an ?_ ?_<;>intro h2 q2
 refine ap ?_
 refine TO.DT 0 rfl rfl AB (B7 rfl rfl rfl rfl underlying51 Bt G2 z3 G3 F4 (Ay BL Jo)) (fun v1=> ?_)
 refine ap ?_
 refine wk [9,8,7,3] rfl ?_
 refine ac ?_
 exact Fin.C1 (k+1) v1 (⟨Af,by omega⟩) ⟨⟨_,rfl,AG k⟩,⟨_,rfl,BA bp⟩,kz⟩ (fun _ _ h=>h)
 refine a2 ?_
 exact Fin.C1 (k+1) v (⟨Af,by omega⟩) ⟨⟨_,rfl,AG k⟩,⟨_,rfl,BA (by rw [hsk,if_neg CN])⟩,kz⟩ (fun _ _ h=>h)
 have BK:k=(st).length:=by have:=AJ h1;omega
 subst BK
 refine a3 ?_
 · exact Gt
theorem YP {l:List BX} {r:List BC} {d:List Int} {day:Int} {st tr:List Int} {sp:Bool} {step:Int} (OI:d.length=l.length) (hl:l.length≤1000000) (hr:r.length≤1000000) (hst:st.length≤100000) (htd:tr.length=d.length):BG prog 69 [agg (FR l r d day st tr sp),int step] (bool ((Kh r d st tr day).contains step)):=by
 refine fo func69 rfl ⟨rfl,rfl⟩ fun M0 w0=> ?_
 have Z1:=OP st
 refine a2 ?_
 refine co rfl (Cq (OQ AA) rfl rfl) ?_
 refine ac ?_
 refine co rfl (Jn (YO OI hl hr (s:=BP st) AA) rfl rfl rfl rfl) ?_
 refine ac ?_
 refine wk [5,2,1] rfl ?_
 refine ac ?_
 refine co rfl (CL (Fq) rfl rfl rfl) (cm rfl ?_)
 refine Ch.cs 20 rfl ?_ ?_<;>intro h1 q1
 have hh:Gn (ID r d (BP st) day) step=true:=h1
 obtain ⟨hsr,_,_⟩:=WM (C3.1 hh)
 have hti:tr[step.toNat]? =some (tr.getD step.toNat 0):=Dy AA
 refine ac ?_
 refine cy h1 rfl (AD rfl underlying22 Bt vq vq AA (Bh hti)) ?_
 refine ac ?_
 refine wk [4] rfl ?_
 refine ac ?_
 · refine bool_eq ?_;rw [←fQ,hh];rfl
 have hh:Gn (ID r d (BP st) day) step=false:=h1
 refine ac ?_
 refine wk [4] rfl ?_
 refine ac ?_
 · refine bool_eq ?_;rw [←fQ,hh];rfl
theorem jS {l:List BX} {r:List BC} {d:List Int} {day:Int} {st tr:List Int} (OI:d.length=l.length) (hl:l.length≤1000000) (hr:r.length≤1000000) (hst:st.length≤100000) (htd:tr.length=d.length):BG prog 17 [agg (FR l r d day st tr false)] (Dz [int (jM (NP d) (Kh r d st tr day)),bool (qY (NP d) (Kh r d st tr day))]):=by
 refine fo func17 rfl ⟨rfl,rfl⟩ fun M0 w0=> ?_
 have hol:=qa d
 refine ac ?_
 refine an ?_ ?_<;>intro h1 q1
 exact absurd h1 AB
 refine a2 ?_
 refine co rfl (Cq (au OI hl) rfl rfl) ?_
 refine ac ?_
 refine Tr.block (Tr.BH _ (kk [11,10,1] rfl) (fun k:Nat=>[(12,int ((k:Nat):Int))]) (fun k:Nat=>k≤((NP d)).length∧(∀j y,j<k→(NP d)[j]? =some y→(Kh r d st tr day).contains y=false)) (fun k:Nat=>((NP d)).length-k) 0 (⟨Nat.zero_le _,fun j y hj=>absurd hj AA⟩) kz ?_)
 rintro k ⟨BU,AZ⟩
 refine ac ?_
 refine Tr.seq ?_
 refine Tr.cn rfl ?_ ?_<;>intro h2 q2
 have Af:k<((NP d)).length:=AH h2
 obtain ⟨x,Ah⟩:=at_ Af
 refine ac ?_
 refine Tr.seq (Tr.block (Tr.seq (Tr.Aj (co rfl (AD rfl underlying22 Bt vq vq AA (AX Ah)) ?_))))
 refine a2 ?_
 refine co rfl (CL (YP OI hl hr hst htd) rfl rfl rfl) ?_
 refine an ?_ ?_<;>intro h3 q3
 refine ac ?_
 refine wk [3,2] rfl (Tr.ret (Fin.AU (Fin.AE (Fin.AE (Fin.AU (Fin.AE (Fin.Ct rfl (Bg.Dc _ _) rfl ?_ rfl ?_)))))))
 · refine int_eq ?_;exact (fL Ah AZ CN).1.symm
 · refine bool_eq ?_;exact (fL Ah AZ CN).2.symm
 refine a2 ?_
 exact Fin.AL (k+1) ⟨⟨Af,Dv (p:=fun y=>(Kh r d st tr day).contains y) Ah CN AZ⟩,by omega⟩ ⟨⟨_,rfl,AG k⟩,kz⟩
 have BK:k=((NP d)).length:=by have:=AJ h2;omega
 subst BK
 refine a2 ?_
 refine Tr.ret (Fin.Ct rfl (Bg.Dc _ _) rfl ?_ rfl ?_)
 · refine int_eq ?_;exact (qZ AZ).1.symm
 · refine bool_eq ?_;exact (qZ AZ).2.symm
theorem YQ {l:List BX} {r:List BC} {d:List Int} {day:Int} {st tr:List Int} {step:Int} {x y z:CA} (F0:∀x∈l,x.Cy.small) (OI:d.length=l.length) (hl:l.length≤1000000) (hr:r.length≤1000000) (hst:st.length≤100000) (htd:tr.length=d.length) (hsd:st.length=d.length) (ht4:∀x∈tr,0≤x∧x≤4):BG prog 18 [agg (FR l r d day st tr false),int step,agg (Bf x),agg (Bf y),agg (Bf z)] (Dz [agg (aq l r d day st tr step x y z),int (if (Kh r d st tr day).contains step=true then 0 else 44)]):=by
 refine fo func18 rfl ⟨rfl,rfl⟩ fun M0 w0=>(Tr.seq (Tr.An ?_))
 iterate 4 refine tp rfl (Bb rfl (Va rfl)) ?_
 refine Tl rfl rfl rfl rfl z42 HJ (fun b1=> ?_)
 refine ao ?_
 refine ao ?_
 refine TO.RN _ rfl rfl AB rfl (az (sp:=false) F0 hl hr AA AA AA) ⟨ke rfl,trivial⟩ (List.Perm.refl _) (fun x1 _=> ?_)
 refine Tl rfl rfl rfl rfl z42 HJ (fun b2=> ?_)
 refine TO.AK 0 rfl rfl rfl (vl rfl) (Va rfl) rfl DV rfl rfl ?_
 refine ao ?_
 refine an ?_ ?_<;>intro h1 q1
 exact absurd h1 AB
 refine a2 ?_
 refine co rfl (CL (YP OI hl hr hst htd) rfl rfl rfl) ?_
 refine ac ?_
 refine kY 1 7 8 9 10 12 21 rfl ?_
 refine Tr.cn rfl ?_ ?_<;>intro h2 q2
 have hno:(Kh r d st tr day).contains step=false:=by simpa using h2
 refine Tr.seq (Tr.FA 0 1 4 rfl rfl AB rfl (Lr) (BD fun _=>rfl) (Tr.FA 0 2 5 rfl rfl AB rfl (Lr) (BD fun _=>rfl) ?_))
 refine ao ?_
 refine TO.AK 3 rfl rfl rfl (vl rfl) (Va rfl) rfl DV rfl rfl ?_
 refine ao ?_
 refine Tr.drop 1 (Tr.drop 1 (Tr.ret (Fin.AE (Fin.BT rfl (AM.cell 1 rfl rfl EC DV rfl (Lr)) (AM.tmp rfl (Lr)) ?_))))
 refine Az ⟨?_,?_,trivial⟩
 · unfold aq;rw [if_neg (by rw [hno];decide)];exact Lr
 · exact int_eq (if_neg (by rw [hno];decide)).symm
 have hin:(Kh r d st tr day).contains step=true:=by simpa using h2
 obtain ⟨hsr,_,_⟩:=WM (fM.1 (List.contains_iff_mem.1 hin)).1
 have hsi:st[step.toNat]? =some (st.getD step.toNat 0):=Dy AA
 have hti:tr[step.toNat]? =some (tr.getD step.toNat 0):=Dy AA
 have htb:=ht4 _ (List.mem_of_getElem? hti)
 refine ac ?_
 refine ao ?_
 refine tp rfl (Cg 2 rfl (HK rfl underlying22 Bt (vl rfl) (vl rfl) AA Cz)) ?_
 refine tp rfl (Cg 2 rfl (Rt rfl C8 (vl rfl) (BD fun _=>rfl) Us rfl)) ?_
 refine tp rfl (Ek rfl (vl rfl) (vl rfl) ?hin) ?_;case hin=>unfold Ni;omega
 refine tp rfl (Cg 2 rfl (HK rfl underlying22 Bt (vl rfl) (vl rfl) AA Cz)) ?_
 refine TO.DP 2 rfl rfl (Em rfl rfl (vl rfl) (Vo rfl) Bt rfl (BD fun _=>rfl) Us AB (show _=(tr.set step.toNat (tr.getD step.toNat 0+1)).map _ by rw [List.map_set];rfl)) ?_
 refine ao ?_
 refine wk6 1 7 8 9 10 12 rfl ?_
 refine ac ?_
 refine co rfl (CL (XQ) rfl rfl rfl) ?_
 refine an ?_ ?_<;>intro h3 q3
 have hzy:z=y:=by simpa using h3
 refine ao ?_
 refine tp rfl (Cg 1 rfl (HK rfl underlying22 Bt (vl rfl) (vl rfl) AA Cz)) ?_
 refine TO.DP 1 rfl rfl (Em rfl rfl (vl rfl) (Vo rfl) Bt rfl (BD fun _=>rfl) Ur AB (show _=(st.set step.toNat 1).map _ by rw [List.map_set];rfl)) ?_
 refine ao ?_
 refine TR 10 12 rfl (Tr.seq (Tr.FA 0 1 4 rfl rfl AB rfl (Lr) (BD fun _=>rfl) (Tr.FA 0 2 5 rfl rfl AB rfl (Lr) (BD fun _=>rfl) ?_)))
 refine ao ?_
 refine TO.AK 3 rfl rfl rfl (vl rfl) (Va rfl) rfl DV rfl rfl ?_
 refine ao ?_
 refine Tr.drop 1 (Tr.drop 1 (Tr.ret (Fin.BT rfl (AM.cell 1 rfl rfl EC DV rfl (Lr)) (AM.tmp rfl (Lr)) ?_)))
 refine Az ⟨?_,?_,trivial⟩
 · unfold aq;rw [if_pos hin,if_pos hzy,decide_eq_true (Or.inl hzy)];exact Lr
 · exact Pb
 have hzy:¬z=y:=by simpa using h3
 refine ac ?_
 refine co rfl (CL (XQ) rfl rfl rfl) ?_
 refine ac ?_
 refine So 1 10 12 39 rfl ?_
 refine Tr.cn rfl ?_ ?_<;>intro h4 q4
 have hzx:z=x:=by simpa using h4
 refine ao ?_
 refine tp rfl (Cg 1 rfl (HK rfl underlying22 Bt (vl rfl) (vl rfl) AA Cz)) ?_
 refine TO.DP 1 rfl rfl (Em rfl rfl (vl rfl) (Vo rfl) Bt rfl (BD fun _=>rfl) Ur AB (show _=(st.set step.toNat 2).map _ by rw [List.map_set];rfl)) ?_
 refine ao ?_
 refine Tr.seq (Tr.FA 0 1 4 rfl rfl AB rfl (Lr) (BD fun _=>rfl) (Tr.FA 0 2 5 rfl rfl AB rfl (Lr) (BD fun _=>rfl) ?_))
 refine ao ?_
 refine TO.AK 3 rfl rfl rfl (vl rfl) (Va rfl) rfl DV rfl rfl ?_
 refine ao ?_
 refine Tr.drop 1 (Tr.drop 1 (Tr.ret (Fin.BT rfl (AM.cell 1 rfl rfl EC DV rfl (Lr)) (AM.tmp rfl (Lr)) ?_)))
 refine Az ⟨?_,?_,trivial⟩
 · unfold aq;rw [if_pos hin,if_neg hzy,if_pos hzx,decide_eq_true (Or.inr hzx)];exact Lr
 · exact Pb
 have hzx:¬z=x:=by simpa using h4
 refine ao ?_
 refine TO.DP 0 rfl rfl (A0 rfl rfl (vl rfl) (Vo rfl) Ta rfl Ao rfl) ?_
 refine ao ?_
 refine Tr.seq (Tr.FA 0 1 4 rfl rfl AB rfl (Lr) (BD fun _=>rfl) (Tr.FA 0 2 5 rfl rfl AB rfl (Lr) (BD fun _=>rfl) ?_))
 refine ao ?_
 refine TO.AK 3 rfl rfl rfl (vl rfl) (Va rfl) rfl DV rfl rfl ?_
 refine ao ?_
 refine Tr.drop 1 (Tr.drop 1 (Tr.ret (Fin.BT rfl (AM.cell 1 rfl rfl EC DV rfl (Lr)) (AM.tmp rfl (Lr)) ?_)))
 refine Az ⟨?_,?_,trivial⟩
 · unfold aq;rw [if_pos hin,if_neg hzy,if_neg hzx,decide_eq_false (fun h=>h.elim hzy hzx)];exact Lr
 · exact Pb
theorem Sd {m:Int} {l:List Int} {k:Nat} {x:Int} (h:l[k]? =some x) (hi:Fl m (l.take k)=false) (hx:¬(x<0∨x>m)):Fl m (l.take (k+1))=false:=by
 unfold Fl at*
 rw [List.take_add_one,h,List.any_append,hi]
 simp [IF,hx]
theorem a_ {l:List BX} {r:List BC} {d:List Int} {day:Int} {st tr:List Int} {sp:Bool} (hst:st.length≤1000000) (hr:r.length≤1000000):BG prog 36 [agg (FR l r d day st tr sp)] (int (if O_ l.length r d day st tr=true then 0 else 49)):=by
 refine fo func36 rfl ⟨rfl,rfl⟩ fun M0 w0=> ?_
 refine a2 ?_
 refine ag ?_ ?_<;>intro h1 q1
 refine ac ?_
 refine wk [44,3,1] rfl ?_
 refine a2 ?_
 · exact NY
 refine ag ?_ ?_<;>intro h2 q2
 refine ac ?_
 refine wk [44,3,1] rfl ?_
 refine a2 ?_
 · exact NY
 refine ag ?_ ?_<;>intro h3 q3
 refine ac ?_
 refine wk [44,3,1] rfl ?_
 refine a2 ?_
 · exact NY
 refine ag ?_ ?_<;>intro h4 q4
 refine ac ?_
 refine wk [44,3,1] rfl ?_
 refine a2 ?_
 · exact NY
 refine ag ?_ ?_<;>intro h5 q5
 refine ac ?_
 refine wk [44,3,1] rfl ?_
 refine a2 ?_
 · exact NY
 refine ac ?_
 refine wk [44,3,1] rfl ?_
 refine Tr.cn rfl ?_ ?_<;>intro h6 q6
 refine a2 ?_
 · exact NY
 have AHt:l.length≤24:=by omega
 have hd1:d.length=l.length:=by omega
 have hs1:st.length=l.length:=by omega
 have ht1:tr.length=l.length:=by omega
 refine a2 ?_
 refine Tr.block (Tr.J4 _ (kk [45,3,1] rfl) (fun (k:Nat)=>[(46,int ((k:Nat):Int))]) (fun (k:Nat)=>Hp M0 w0 FO ([])) (fun (k:Nat)=>k≤l.length∧Fl 40000 (d.take k)=false∧Fl 3 (st.take k)=false∧Fl 4 (tr.take k)=false) (fun (k:Nat)=>l.length-k) (0)  (⟨Nat.zero_le _,rfl,rfl,rfl⟩) kz (fun _ _ h=>h) ?_)
 rintro k  ⟨hk0,hi1,hi2,hi3⟩
 refine ac ?_
 refine Tr.seq ?_
 refine Tr.cn rfl ?_ ?_<;>intro h7 q7
 have hk:k<l.length:=AH h7
 obtain ⟨a,hda⟩:=at_ (l:=d) (k:=k) AA
 obtain ⟨b,hdb⟩:=at_ (l:=st) (k:=k) AA
 obtain ⟨c,hdc⟩:=at_ (l:=tr) (k:=k) AA
 · repeat' first|(exact int_eq (if_neg (fun hk=>by obtain ⟨⟨⟨g1,g2⟩,g3,g4⟩,⟨⟨g5,g6⟩,g7,g8⟩,g9,g10⟩:=E3.1 hk;have e1:=List.any_eq_false.1 g5 a (List.mem_of_getElem? hda);have e2:=List.any_eq_false.1 g7 b (List.mem_of_getElem? hdb);have e3:=List.any_eq_false.1 g8 c (List.mem_of_getElem? hdc);unfold IF at e1 e2 e3;rw [decide_eq_true_eq] at e1 e2 e3;omega)).symm)|exact Fin.Kr (k+1)  (⟨⟨by omega,Sd hda hi1 AA,Sd hdb hi2 AA,Sd hdc hi3 AA⟩,by omega⟩) ⟨⟨_,rfl,AG k⟩,kz⟩ (fun _ _ h=>h)|refine co rfl (AD rfl underlying22 Bt vq vq AA (AX hda)) ?_|refine cy h rfl (AD rfl underlying22 Bt vq vq AA (AX hda)) ?_|refine cy h rfl (AD rfl underlying22 Bt vq vq AA (AX hdb)) ?_|refine cy h rfl (AD rfl underlying22 Bt vq vq AA (AX hdc)) ?_|refine ac ?_|(refine Tr.cn rfl ?_ ?_<;>intro h q)|(refine Ch.cg rfl rfl rfl ?_ ?_<;>intro h q)
 have bB:k=l.length:=by have:=AJ h7;omega
 rw [List.take_of_length_le AA] at hi1 hi2 hi3
 · repeat' first|(exact int_eq (if_neg (fun hk=>by obtain ⟨⟨⟨g1,g2⟩,g3,g4⟩,⟨⟨g5,g6⟩,g7,g8⟩,g9,g10⟩:=E3.1 hk;unfold IF at g6;rw [decide_eq_false_iff_not] at g6;omega)).symm)|(exact int_eq (if_neg (fun hk=>by obtain ⟨⟨⟨g1,g2⟩,g3,g4⟩,⟨⟨g5,g6⟩,g7,g8⟩,g9,g10⟩:=E3.1 hk;simp_all)).symm)|(exact int_eq (if_pos (E3.2 ⟨⟨⟨by omega,by omega⟩,by omega,by omega⟩,⟨⟨hi1,by unfold IF;rw [decide_eq_false_iff_not];omega⟩,hi2,hi3⟩,by simp_all,by simp_all⟩)).symm)|refine co rfl (Cq (OQ hst) rfl rfl) ?_|refine co rfl (Jn (NR (n:=((l.length:Nat):Int)) (l:=r) (s:=BP st) hr) rfl rfl rfl rfl) ?_|refine ac ?_|(refine Tr.cn rfl ?_ ?_<;>intro h q)|(refine Ch.cg rfl rfl rfl ?_ ?_<;>intro h q)
theorem qi {l:List BX} {r:List BC} {d:List Int} {day:Int} (F0:∀x∈l,x.Cy.small) (hl:l.length≤1000000) (hr:r.length≤1000000) (hd:d.length≤1000000):BG prog 14 [agg [C9 l,reqs r,ints d],int day] (Dz [agg (newP l r d day),int (newE l r d day)]):=by
 refine fo func14 rfl ⟨rfl,rfl⟩ fun M0 w0=>(Tr.seq (Tr.An (tp rfl (Bb rfl Cs) ?_)))
 refine Tl rfl rfl rfl rfl z42 HJ (fun b1=> ?_)
 refine ap ?_
 refine ag ?_ ?_<;>intro h1 q1
 refine ac ?_
 refine Tr.cond rfl (fun _=> ?_) (fun h=>nomatch h)
 refine Tr.seq (Tr.An (tp rfl (Ak (rows:=[]) rfl ZE HJ trivial rfl) (TO.AK 0 rfl rfl rfl vq Cs rfl DV rfl rfl (tm rfl (TO.nil (Fin.go (Tr.ret (Fin.AE (Fin.BT rfl (AM.cell 0 rfl rfl EC DV rfl Lr) (AM.tmp rfl Lr) ?_)))))))))
 refine Az ⟨?_,?_,trivial⟩
 · exact UY
 · exact Uc
 refine an ?_ ?_<;>intro h2 q2
 refine ap ?_
 refine Tr.ret (Fin.AE (Fin.BT rfl (AM.cell 0 rfl rfl EC DV rfl Lr) (AM.tmp rfl Lr) ?_))
 refine Az ⟨?_,?_,trivial⟩
 · exact UY
 · exact Uc
 have hdy:0≤day∧day≤40000:=by omega
 refine ac ?_
 refine Tr.seq (Tr.pad (Tr.rx (xo rfl (fun _=>AP rfl Cn CG vq rfl rfl) (xo rfl (fun _=>Cq (Sc F0 hl hr hd) rfl rfl) ?_))))
 refine ax ?_
 refine xo rfl (fun _=>Ij (m:=l.length) rfl underlying22 Bt G2 z3 rfl AB AB vq vq FI AA) ?_
 refine ax ?_
 refine xo rfl (fun _=>Ij (m:=l.length) rfl underlying22 Bt G2 z3 rfl AB AB vq vq FI AA) ?_
 refine xo rfl (fun _=>Ak (rows:=[(0,_),(1,[_]),(2,[_]),(3,[_])]) rfl ZE HJ ⟨⟨rfl,Cs⟩,⟨⟨rfl,My⟩,⟨⟨rfl,⟨_,rfl,Pr.le_trans (Pr.le_trans (Bx _ _) (Pr.le_of_eq (show _=slice 1 ((List.replicate l.length (0:Int)).map fun n=>[int n]) by rw [List.map_replicate];rfl))) (AY _)⟩⟩,⟨⟨rfl,⟨_,rfl,Pr.le_trans (Pr.le_trans (Bx _ _) (Pr.le_of_eq (show _=slice 1 ((List.replicate l.length (0:Int)).map fun n=>[int n]) by rw [List.map_replicate];rfl))) (AY _)⟩⟩,trivial⟩⟩⟩⟩ rfl) ?_
 refine Cx.ef 0 rfl rfl AB (CC rfl rfl AB rfl z42 HJ) (Cx.DP 0 rfl rfl (CZ rfl rfl rfl rfl Cs DV rfl rfl) ?_)
 refine Cx.nil ⟨by kernel_rfl,?_⟩
 refine BE.open_ 0 6 rfl rfl (fun v1=> ?_)
 refine BE.done YV (Fin.LX 6 0 _ rfl rfl (fun _=>rfl) (fun b2=> ?_))
 refine Fin.go (wk [6,4] rfl ?_)
 refine ac ?_
 refine co rfl (Cq (a_ (l:=l) (r:=r) (d:=d) (day:=day) (st:=List.replicate l.length 0) (tr:=List.replicate l.length 0) (sp:=false) MY hr) rfl rfl) ?_
 refine an ?_ ?_<;>intro h3 q3
 have h49:newE l r d day=49:=qT hdy Hf
 refine ap ?_
 refine Tr.drop 0 (Tr.ret (Fin.AE (Fin.BT rfl (AM.cell 0 rfl rfl EC DV rfl Lr) (AM.tmp rfl Lr) ?_)))
 refine Az ⟨?_,?_,trivial⟩
 · rw [Ys h49 AB];exact UZ
 · exact int_eq h49.symm
 have h0:=fH (l:=l) (r:=r) (d:=d) hdy Hf
 refine ac ?_
 refine ap ?_
 refine Tr.drop 0 (Tr.ret (Fin.BT rfl (AM.cell 0 rfl rfl EC DV rfl Lr) (AM.tmp rfl Lr) ?_))
 refine Az ⟨?_,?_,trivial⟩
 · rw [h0.2];exact Lr
 · exact int_eq h0.1.symm
theorem Ll {l:List BC} {a b:List Int} (h:∀x,x∈a↔x∈b):CD l a=CD l b:=by
 rw [Bool.eq_iff_iff,Ca,Ca]
 exact ⟨fun k q hq hm=>(h _).1 (k q hq ((h _).2 hm)),fun k q hq hm=>(h _).2 (k q hq ((h _).1 hm))⟩
theorem YR {n:Nat} {l:List BC} {s:List Int} {x:Int} (h:x∈Dm n l s false):(0≤x∧x<(n:Int))∧x∈s∧CD l (Dq s x false)=true:=by
 unfold Dm at h
 obtain ⟨i,hi,rfl⟩:=List.mem_map.1 h
 obtain ⟨h1,h2⟩:=List.mem_filter.1 hi
 have h3:=List.mem_range.1 h1
 unfold LH at h2
 rw [Bool.and_eq_true] at h2
 refine ⟨by omega,?_,h2.2⟩
 refine C3.1 ?_
 have:=h2.1
 cases hb:Gn s (i:Int) with
 |true=>rfl
 |false=>rw [hb] at this;cases this
theorem YS {st:List Int} {i:Nat} {a:Int} (ha:a≠1) (hi:i<st.length) (x:Int):x∈BP (st.set i a)↔x∈Dq (BP st) (i:Int) false:=by
 rw [GI,GN,GN]
 constructor
 ·
  rintro ⟨j,hj,rfl⟩
  by_cases hji:i=j
  · subst hji;rw [List.getElem?_set_self hi] at hj;exact absurd (Option.some.inj hj) ha
  · rw [List.getElem?_set_ne hji] at hj;exact ⟨by omega,j,hj,rfl⟩
 ·
  rintro ⟨h1,j,hj,rfl⟩
  exact ⟨j,by rw [List.getElem?_set_ne AA];exact hj,rfl⟩
theorem qj {r:List BC} {d st:List Int} {day:Int} {i:Nat} {a:Int} (hv:BF (d.length:Nat) r=0) (hs:st.length=d.length) (hc:CD r (BP st)=true) (hd:∀x∈d,x≤day) (ha:a≠1) (hm:(i:Int)∈Dm d.length r (BP st) false):
  Fv d.length r (BP (st.set i a))∧(i:Int)∈ID r d (BP (st.set i a)) day:=by
 obtain ⟨h1,h2,h3⟩:=YR hm
 have F8:i<st.length:=by omega
 have hmm:=YS (st:=st) (i:=i) ha F8
 have cM:CD r (BP (st.set i a))=true:=by rw [Ll hmm];exact h3
 have hD:Fv d.length r (BP (st.set i a)):=⟨K_ _,fun x hx=>by have:=UQ x hx;rw [List.length_set,hs] at this;exact this,cM⟩
 refine ⟨hD,?_⟩
 unfold ID
 rw [(hD.due hv).2,List.mem_filter]
 have hdx:=Dy (l:=d) (i:=i) AA
 have:=hd _ (List.mem_of_getElem? hdx)
 refine ⟨?_,by rw [Bool.not_eq_true',decide_eq_false_iff_not,show (i:Int).toNat=i by simp];omega⟩
 unfold Dm
 refine List.mem_map.2 ⟨i,List.mem_filter.2 ⟨List.mem_range.2 AA,?_⟩,rfl⟩
 unfold LH
 rw [Bool.and_eq_true]
 constructor
 ·
  cases hb:Gn (BP (st.set i a)) (i:Int) with
  |false=>rfl
  |true=>exact absurd rfl (GI.1 ((hmm _).1 (C3.1 hb))).1
 ·
  rw [Ll (b:=BP st) fun x=> ?_]
  · exact hc
  ·
   rw [Ev,hmm,GI]
   constructor
   ·
    rintro (rfl|⟨_,h⟩)
    · exact h2
    · exact h
   ·
    intro h
    by_cases hx:x=(i:Int)
    · exact .inl hx
    · exact .inr ⟨hx,h⟩
theorem fR {n:Nat} {r:List BC} {s:List Int} {i:Int} (h:(HZ (n:Int) r s).contains i=true):E2 (n:Int) r s=0∧i∈Dm n r s false:=by
 have h1:=List.contains_iff_mem.1 h
 unfold HZ at h1
 split at h1
 · rename_i h0;exact ⟨h0,h1⟩
 · cases h1
def ql (l:List BX) (r:List BC) (d:List Int) (day:Int) (st tr:List Int) (i:Int):List Pr:=if (HZ ((l.length:Nat):Int) r (BP st)).contains i=true then FR l r d day (st.set i.toNat 3) (tr.set i.toNat 0) false else FR l r d day st tr false
theorem US {l:List BX} {r:List BC} {d:List Int} {day:Int} {st tr:List Int} {step:Int} (F0:∀x∈l,x.Cy.small) (hl:l.length≤1000000) (hr:r.length≤1000000) (hd:d.length≤1000000) (hst:st.length≤1000000) (htr:tr.length≤1000000) (hsd:st.length=l.length) (htd:tr.length=l.length):Bj prog 21 [agg (FR l r d day st tr false),int step] (Dz [agg (ql l r d day st tr step),int (if (HZ ((l.length:Nat):Int) r (BP st)).contains step=true then 0 else 44)]) (EI) (fun _=>EI):=by
 refine Bj.of func21 rfl rfl Ao fun M0 w0 S rs M1 w1=> ?_
 refine Tr.seq (Tr.An (tp rfl (Bb rfl Cs) ?_))
 refine Tl rfl rfl rfl rfl z42 HJ (fun b1=> ?_)
 refine ao ?_
 refine ao ?_
 refine TO.RN _ rfl rfl AB rfl (jO (sp:=false) F0 hl hr hd hst htr) kz (List.Perm.refl _) (fun x1 _=> ?_)
 refine Tl rfl rfl rfl rfl z42 HJ (fun b2=> ?_)
 refine TO.AK 0 rfl rfl rfl vq Cs rfl DV rfl rfl ?_
 refine ao ?_
 refine Tr.seq (Tr.rx ?_)
 refine ax ?_
 refine xo rfl (fun _=>Cq (Sa hst) rfl rfl) ?_
 refine Cx.ef 4 rfl rfl AB (Aq rfl rfl AB rfl (S3 (n:=((l.length:Nat):Int)) (l:=r) (s:=BP st)) ⟨kq,kz⟩) ?_
 refine ax ?_
 refine Cx.nil ⟨by kernel_rfl,?_⟩
 refine BE.done al6 (Fin.go (wk [7,6,4,2,1] rfl ?_))
 refine an ?_ ?_<;>intro h1 q1
 exact absurd h1 AB
 refine ac ?_
 refine co rfl (CL (YN) rfl rfl rfl) ?_
 refine an ?_ ?_<;>intro h2 q2
 have hno:¬(HZ ((l.length:Nat):Int) r (BP st)).contains step=true:=by simpa using h2
 refine Tr.seq (Tr.FA 0 1 4 rfl rfl AB rfl Lr (BD fun _=>rfl) (Tr.FA 0 2 5 rfl rfl AB rfl Lr (BD fun _=>rfl) ?_))
 refine ao ?_
 refine TO.AK 3 rfl rfl rfl vq Cs rfl DV rfl rfl ?_
 refine ao ?_
 refine Tr.drop 1 (Tr.drop 1 (wk [5,4] rfl (Tr.ret (Fin.AU (Fin.AE (Fin.TX [_,_] rfl (AM.cell 1 rfl rfl EC DV rfl Lr) (AM.tmp rfl Lr) ?_))))))
 refine Az ⟨?_,?_,trivial⟩
 · unfold ql;rw [if_neg hno];exact Lr
 · exact int_eq (if_neg hno).symm
 have hin:(HZ ((l.length:Nat):Int) r (BP st)).contains step=true:=by simpa using h2
 obtain ⟨hsr,_,_⟩:=YR (fR hin).2
 have hsi:st[step.toNat]? =some (st.getD step.toNat 0):=Dy AA
 have hti:tr[step.toNat]? =some (tr.getD step.toNat 0):=Dy AA
 refine ac ?_
 refine Tr.seq (Tr.rx ?_)
 refine ax ?_
 refine IV 1 rfl rfl (HK rfl underlying22 Bt vq vq AA Cz) ?_
 refine Cx.DP 1 rfl rfl (Em rfl rfl vq My Bt rfl (BD fun _=>rfl) Ur AB (show _=(st.set step.toNat 3).map _ by rw [List.map_set];rfl)) ?_
 refine IV 2 rfl rfl (HK rfl underlying22 Bt vq vq AA Cz) ?_
 refine Cx.DP 2 rfl rfl (Em rfl rfl vq My Bt rfl (BD fun _=>rfl) Us AB (show _=(tr.set step.toNat 0).map _ by rw [List.map_set];rfl)) ?_
 refine Cx.nil ⟨by kernel_rfl,?_⟩
 refine BE.done al6 (Fin.go (wk [6,4] rfl (Tr.seq (Tr.FA 0 1 4 rfl rfl AB rfl Lr (BD fun _=>rfl) (Tr.FA 0 2 5 rfl rfl AB rfl Lr (BD fun _=>rfl) ?_)))))
 refine ao ?_
 refine TO.AK 3 rfl rfl rfl vq Cs rfl DV rfl rfl ?_
 refine ao ?_
 refine Tr.drop 1 (Tr.drop 1 (Tr.ret (Fin.TX [_,_] rfl (AM.cell 1 rfl rfl EC DV rfl Lr) (AM.tmp rfl Lr) ?_)))
 refine Az ⟨?_,?_,trivial⟩
 · unfold ql;rw [if_pos hin];exact Lr
 · exact Pb
end Go.Proofs.YtmocaapoeefgkaaGreatDoor
