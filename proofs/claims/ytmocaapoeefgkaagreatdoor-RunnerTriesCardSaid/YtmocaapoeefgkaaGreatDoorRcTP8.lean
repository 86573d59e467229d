/-
  Part 8 of the texts that prove this claim, merged.
-/
import Derived.Test.YtmocaapoeefgkaaGreatDoorRcTP7
set_option linter.all false
set_option maxRecDepth 40000
set_option maxHeartbeats 16000000
namespace Go.Proofs.YtmocaapoeefgkaaGreatDoor
open Go Go.RowKit Cp Go.Proofs.Tryz
theorem YS {e:Dn} {l:List Ba} {i:Int}:(∀x∈(J9 e l i).1,0≤x∧x<(l.length:Nat))∧(J9 e l i).1.length≤24:=by
 unfold J9
 split
 · exact Uy
 split
 · exact Uy
 split
 · exact Uy
 ·
  rename_i Ns _
  refine ⟨fun x hx=> ?_,by have:=YM (e.BX[i.toNat]?.getD G2) l l.length;show (Og _ _ _).length≤24;omega⟩
  unfold Og at hx
  obtain ⟨j,hj,rfl⟩:=List.mem_map.1 hx
  have:=List.mem_range.1 (List.mem_filter.1 hj).1
  omega
theorem bD {n:Int} {o:List (List Int)} {x:List Int} (h:(∀s∈o,∀y∈s,0≤y∧y<n)∧∀s∈o,s.length≤4096) (hx:∀y∈x,0≤y∧y<n) (hl:x.length≤4096):(∀s∈o++[x],∀y∈s,0≤y∧y<n)∧∀s∈o++[x],s.length≤4096:=by
 refine ⟨fun s hs=> ?_,fun s hs=> ?_⟩<;>rcases List.mem_append.1 hs with hs|hs
 · exact h.1 s hs
 · rw [List.mem_singleton] at hs;subst hs;exact hx
 · exact h.2 s hs
 · rw [List.mem_singleton] at hs;subst hs;exact hl
theorem jP {n:Int} {o:List Int} {x:Int} (h:∀y∈o,0≤y∧y<n) (hx:0≤x∧x<n):∀y∈o++[x],0≤y∧y<n:=fun y hy=>by
 rcases List.mem_append.1 hy with hy|hy
 · exact h y hy
 · rw [List.mem_singleton] at hy;subst hy;exact hx
theorem jQ {e:Dn} {l:List Ba} {r:List BH} {d:List Int} {n:Nat} {i:Int} (hz:e.sz n) (hn:n≤800000) (hrl:r.length≤1000000):BF prog 251 [agg (CM e),Jn l r d,int i] (Cp.ex fun z:List (List Int)×Int=>fact (Lw ((l.length:Nat):Int) z.1) (Dy [sets z.1,int z.2])):=by
 refine fo func251 rfl ⟨rfl,rfl⟩ fun M0 w0=> ?_
 refine a2 ?_
 refine co rfl (LV (TK hz hn) rfl rfl rfl rfl) ?_
 refine ac ?_
 refine wk [8,4] rfl (Tr.seq ?_)
 obtain ⟨rel,zn⟩:∃rel,(J9 e l i).1=rel:=⟨_,rfl⟩
 have jE:∀x∈rel,0≤x∧x<(l.length:Nat):=zn ▸ YS.1
 have AIe:rel.length≤24:=zn ▸ YS.2
 refine Tr.re 8 rfl (Pr.le_of_eq (by rw [zn])) ?_
 refine ap ?_
 refine tp rfl (LV (jO (n:=((l.length:Nat):Int)) (l:=r) (s:=rel) hrl) rfl rfl rfl rfl) ?_
 refine TO.ex 35 rfl (fun z1=>TO.fact 35 rfl fun Eh=> ?_)
 refine ap ?_
 refine wk [10,8] rfl ?_
 refine ap ?_
 refine tp rfl (CS (jI (n:=((rel.length:Nat):Int)) (l:=z1.1) AA) rfl rfl rfl) ?_
 refine TO.ex 42 rfl (fun z2=>TO.fact 42 rfl fun I6=> ?_)
 refine ap ?_
 refine ac ?_
 refine wk [46,13,12,8] rfl ?_
 refine Tr.cn rfl ?_ ?_<;>intro h1 q1
 refine ac ?_
 refine Tr.ret (Fin.AE (Fin.Bc rfl (AL.tmp rfl Lr) (AL.tmp rfl Lr) ?_))
 · exact Y2
 have hl4:=I6.len
 refine a3 ?_
 refine Tr.block (Tr.CC 51 1 (Tr.DE _ (kk [49,48,8] rfl) (fun (o:List (List Int)) (k:Nat) u=>[(50,int ((k:Nat):Int)),(14,Aa u (sets o))]) (fun (o:List (List Int)) (k:Nat) u=>Hp M0 w0 Fo ([Au 51 1 u])) (fun (o:List (List Int)) (k:Nat)=>(k≤z2.1.length∧o.length=k)∧(∀s∈o,∀y∈s,0≤y∧y<((l.length:Nat):Int))∧∀s∈o,s.length≤4096) (fun (o:List (List Int)) (k:Nat)=>z2.1.length-k) ([]) (0) (.slice none 0 0) (⟨⟨Nat.zero_le _,rfl⟩,fun s h=>GX,fun s h=>GX⟩) ⟨kq,⟨_,rfl,Bp rfl⟩,trivial⟩ (fun _ _ h=>h) ?_))
 rintro o k u ⟨⟨hk0,hol⟩,hou⟩
 refine ac ?_
 refine Tr.seq ?_
 refine Tr.cn rfl ?_ ?_<;>intro h2 q2
 have hk:k<z2.1.length:=AH h2
 obtain ⟨s,hs⟩:=at_ hk
 have hsr:=I6.QN s (List.mem_of_getElem? hs)
 have hsw:=I6.wid s (List.mem_of_getElem? hs)
 refine ac ?_
 refine Tr.seq (Tr.block (Tr.seq (Tr.Al (co rfl (AD rfl underlying99 G6 vq vq AA (AZ hs)) ?_))))
 refine a3 ?_
 refine Tr.block (Tr.CC 3 1 (Tr.DE _ (kk [55,54,50,49,48,14,8] rfl) (fun (x:List Int) (m:Nat) u2=>[(56,int ((m:Nat):Int)),(17,Aa u2 (ints x))]) (fun (x:List Int) (m:Nat) u2=>Hp M0 w0 Fo ([Au 3 1 u2,Au 51 1 u])) (fun (x:List Int) (m:Nat)=>(m≤s.length∧x.length=m)∧∀y∈x,0≤y∧y<((l.length:Nat):Int)) (fun (x:List Int) (m:Nat)=>s.length-m) ([]) (0) (.slice none 0 0) (⟨⟨Nat.zero_le _,rfl⟩,fun s h=>GX⟩) ⟨kq,⟨_,rfl,Bp rfl⟩,trivial⟩ (fun _ _ h=>h) ?_))
 rintro x m u2 ⟨⟨hm0,hxl⟩,hxr⟩
 refine ac ?_
 refine Tr.seq ?_
 refine Tr.cn rfl ?_ ?_<;>intro h3 q3
 have hm:m<s.length:=AH h3
 obtain ⟨i2,hi2⟩:=at_ hm
 have hir:=hsr i2 (List.mem_of_getElem? hi2)
 obtain ⟨y,hy⟩:=at_ (l:=rel) (k:=i2.toNat) AA
 have hyr:=jE y (List.mem_of_getElem? hy)
 refine ac ?_
 refine Tr.seq (Tr.block (Tr.seq (Tr.Al (co rfl (AD rfl underlying51 Bs vq vq AA (AZ hi2)) ?_))))
 refine ac ?_
 refine ap ?_
 refine tp rfl (AD rfl underlying51 Bs vq vq AA (Bf hy)) ?_
 refine ap ?_
 refine TO.Dl 0 rfl rfl AB (CB rfl rfl rfl rfl underlying51 Bs Iw z3 Iy Gn (BC BR KJ)) (fun v1=> ?_)
 refine ap ?_
 refine wk [56,55,54,50,49,48,17,14,8] rfl ?_
 refine ac ?_
 exact Fin.Bk (x++[y]) (m+1) v1 (⟨⟨⟨by omega,by simp;omega⟩,jP hxr hyr⟩,by omega⟩) ⟨⟨_,rfl,AG m⟩,⟨_,rfl,BJ DQ⟩,kz⟩ (fun _ _ h=>h)
 have hme:=AJ h3
 refine ac ?_
 refine ap ?_
 refine tp rfl (AP (xs:=[.tmp 69]) (rows:=[[_]]) rfl rfl underlying99 G6 z51 rfl AB ⟨⟨Ao,⟨_,rfl,Pr.le_trans (As _ _) (Ad _)⟩⟩,trivial⟩ AB) ?_
 refine TO.Dl 1 rfl rfl AB (CB rfl rfl rfl rfl underlying99 G6 XB z51 Iy Gn (BC BR KJ)) (fun v2=> ?_)
 refine ap ?_
 refine wk [50,49,48,14,8] rfl ?_
 refine ac ?_
 refine Fin.drop 0 ?_
 exact Fin.Bk (o++[x]) (k+1) v2 (⟨⟨⟨by omega,by simp;omega⟩,bD hou hxr AA⟩,by omega⟩) ⟨⟨_,rfl,AG k⟩,⟨_,rfl,BJ DQ⟩,kz⟩ (fun _ _ h=>h)
 have fm:=AJ h2
 refine a2 ?_
 refine Tr.ret (Fin.Bc rfl (AL.tmp rfl Lr) (AL.tmp rfl Lr) ?_)
 · exact Ax (_,_) (BB ⟨hou.1,(by show o.length≤4096;omega),hou.2⟩ (Ay ⟨As _ _,Lr,trivial⟩))
theorem YT {e:Dn} {l:List Ba} {r:List BH} {d:List Int} (hf:e.fits) (hrl:r.length≤1000000):BF prog 214 [agg (CM e),Jn l r d] (Cp.ex fun z:Int=>fact (z=0→Fc e=true∧Nn e.Bu.length l r d) (int z)):=by
 refine fo func214 rfl ⟨rfl,rfl⟩ fun M0 w0=> ?_
 refine a2 ?_
 refine co rfl (Cz (D7 hf) rfl rfl) ?_
 refine an ?_ ?_<;>intro h1 q1
 refine a2 ?_
 · exact PY
 have VY:Fc e=true:=by cases h_:Fc e with|true=>rfl|false=>exact absurd h1 Mo
 refine ac ?_
 refine ap ?_
 refine tp rfl (CS (qi hrl) rfl rfl rfl) ?_
 refine TO.ex 10 rfl (fun z1=>TO.fact 10 rfl fun Eh=> ?_)
 refine ap ?_
 · repeat' first|exact Ax _ (BB (fun h_=>absurd h_ AB) Lr)|exact Ax 0 (BB (fun _=>⟨VY,Eh Br⟩) Lr)|refine ac ?_|(refine Tr.cn rfl ?_ ?_<;>intro h q)
def qm (d s:List Int) (fr:Int):Int:=s.foldl (fun a i=>max a (d.getD i.toNat 0)) fr
theorem jR {d s:List Int} {fr i:Int} {k:Nat} (h:s[k]? =some i):qm d (s.take (k+1)) fr=max (qm d (s.take k) fr) (d.getD i.toNat 0):=by unfold qm;rw [List.take_add_one,h,List.foldl_append];rfl
theorem MY {l:List Ba} {r:List BH} {d s:List Int} {fr:Int} (hs:∀i∈s,0≤i∧i<(d.length:Nat)):BF prog 216 [Jn l r d,ints s,int fr] (int (qm d s fr)):=by
 refine fo func216 rfl ⟨rfl,rfl⟩ fun M0 w0=>(Tr.Cl 1 rfl fun F0=> ?_)
 refine a3 ?_
 refine Tr.block (Tr.BE _ (kk [12,11,3] rfl) (fun k:Nat=>[(13,int ((k:Nat):Int)),(7,int (qm d (s.take k) fr))]) (fun k:Nat=>k≤(s).length) (fun k:Nat=>(s).length-k) 0 (Nat.zero_le _) ⟨kq,kz⟩ ?_)
 rintro k BT
 refine ac ?_
 refine Tr.seq ?_
 refine Tr.cn rfl ?_ ?_<;>intro h1 q1
 have Ai:k<(s).length:=AH h1
 obtain ⟨i,Ah⟩:=at_ Ai
 have hir:=hs i (List.mem_of_getElem? Ah)
 have bC:=FL (l:=d) (i:=i.toNat) AA
 refine ac ?_
 refine Tr.seq (Tr.block (Tr.seq (Tr.Al (co rfl (AD rfl underlying51 Bs vq vq AA (AZ Ah)) ?_))))
 refine a2 ?_
 refine co rfl (AD rfl underlying22 Bs vq vq AA (Bf bC)) (co rfl (F5 rfl Cs rfl) (co rfl (L4 rfl vq vq) ?_))
 refine ac ?_
 refine wk [13,12,11,7,3] rfl ?_
 refine ac ?_
 exact Fin.AO (k+1) ⟨Ai,by omega⟩ ⟨⟨_,rfl,AG k⟩,⟨_,rfl,int_eq (by rw [jR Ah])⟩,kz⟩
 have BP:k=(s).length:=by have:=AJ h1;omega
 subst BP
 rw [List.take_length]
 refine a3 ?_
 · exact Lr
structure AHR (n:Int) (L:List (List (List Int))):Prop where
 QN:∀t∈L,Lw n t
 len:L.length≤1000000
abbrev xF (L:List (List (List Int))):Pr:=slice 1 (L.map fun t=>[sets t])
theorem jS {n:Int} {L:List (List (List Int))} {t:List (List Int)} (h:∀t∈L,Lw n t) (ht:Lw n t):∀u∈L++[t],Lw n u:=fun u hu=>by
 rcases List.mem_append.1 hu with hu|hu
 · exact h u hu
 · rw [List.mem_singleton] at hu;subst hu;exact ht
theorem YU {e:Dn} {l:List Ba} {r:List BH} {d:List Int} {n:Nat} (hz:e.sz n) (hn:n≤800000) (hrl:r.length≤1000000):BF prog 215 [agg (CM e),Jn l r d] (Cp.ex fun z:List (List (List Int))×Int=>fact (AHR ((l.length:Nat):Int) z.1) (Dy [xF z.1,int z.2])):=by
 refine fo func215 rfl ⟨rfl,rfl⟩ fun M0 w0=> ?_
 have hlg:=hz.lg
 iterate 4 refine ac ?_
 refine Tr.block (Tr.CC 99 1 (Tr.Fw _ (kk [13,3,2] rfl) (fun (o:List (List (List Int))) (m:Int) (k:Nat) u=>[(14,int ((k:Nat):Int)),(7,int m),(6,Aa u (xF o))]) (fun (o:List (List (List Int))) (m:Int) (k:Nat) u=>Hp M0 w0 Fo ([Au 99 1 u])) (fun (o:List (List (List Int))) (m:Int) (k:Nat)=>(k≤e.BX.length∧o.length=k)∧(0≤m∧m≤4096)∧∀t∈o,Lw ((l.length:Nat):Int) t) (fun (o:List (List (List Int))) (m:Int) (k:Nat)=>e.BX.length-k) ([]) (0) (0) (.slice none 0 0) (⟨⟨Nat.zero_le _,rfl⟩,⟨by omega,by omega⟩,fun s h=>GX⟩) ⟨kq,kq,⟨_,rfl,Bp rfl⟩,trivial⟩ (fun _ _ h=>h) ?_))
 rintro o m k u ⟨⟨hk0,hol⟩,hm,hou⟩
 refine ac ?_
 refine Tr.seq ?_
 refine Tr.cn rfl ?_ ?_<;>intro h1 q1
 have hk:k<e.BX.length:=AH h1
 refine a2 ?_
 refine ap ?_
 refine tp rfl (LV (jQ hz hn hrl) rfl rfl rfl rfl) ?_
 refine TO.ex 21 rfl (fun z1=>TO.fact 21 rfl fun Eh=> ?_)
 have hzl:=Eh.len
 refine ap ?_
 refine wk [14,13,10,9,7,6,3,2] rfl ?_
 refine ac ?_
 refine ag ?_ ?_<;>intro h2 q2
 refine ac ?_
 refine wk [33,14,13,9,7,6,3,2] rfl ?_
 refine ac ?_
 refine Tr.ret (Fin.AE (Fin.AR (Fin.AE (Fin.AE (Fin.AR (Fin.AE (Fin.Bc rfl (AL.tmp rfl Lr) (AL.tmp rfl Lr) ?_)))))))
 · exact kO
 refine ac ?_
 refine wk [33,14,13,9,7,6,3,2] rfl ?_
 refine Tr.cn rfl ?_ ?_<;>intro h3 q3
 refine ac ?_
 refine Tr.ret (Fin.AE (Fin.AR (Fin.AE (Fin.AE (Fin.AR (Fin.AE (Fin.Bc rfl (AL.tmp rfl Lr) (AL.tmp rfl Lr) ?_)))))))
 · exact kO
 refine ac ?_
 refine ap ?_
 refine TO.Dl 0 rfl rfl AB (CB rfl rfl rfl rfl underlying274 sF AFq z99 Iy Gn (BC BR KJ)) (fun v1=> ?_)
 refine ap ?_
 refine ac ?_
 exact Fin.ER (o++[z1.1]) (m+((z1.1.length:Nat):Int)) (k+1) v1 (⟨⟨⟨by omega,by simp;omega⟩,⟨by omega,by omega⟩,jS hou Eh⟩,by omega⟩) ⟨⟨_,rfl,AG k⟩,kq,⟨_,rfl,BJ DQ⟩,kz⟩ (fun _ _ h=>h)
 have fm:=AJ h1
 refine a2 ?_
 refine Tr.ret (Fin.Bc rfl (AL.tmp rfl Lr) (AL.tmp rfl Lr) ?_)
 · exact Ax (_,_) (BB ⟨hou,(by show o.length≤1000000;omega)⟩ (Ay ⟨As _ _,Lr,trivial⟩))
abbrev zo:Pr:=agg [anyI,anyI]
theorem vk {φ:Prop}:Pr.le (Cp.ex fun z:Int×Int×Int=>fact φ (Dy [agg [int z.1,int z.2.1],int z.2.2])) (Dy [zo,anyI]):=fun M w v ⟨z,_,h⟩=>Ay (ps:=[agg [int z.1,int z.2.1],int z.2.2]) (qs:=[zo,anyI]) ⟨BU (ps:=[int z.1,int z.2.1]) (qs:=[anyI,anyI]) ⟨Ax _ (Pr.le_refl _),Ax _ (Pr.le_refl _),trivial⟩,Ax _ (Pr.le_refl _),trivial⟩ M w v h
abbrev xH:Pr:=Cp.ex fun z:List Int=>fact (z.length≤1000000) (ints z)
theorem zq:Pr.le (Cp.ex fun z:List Int×Int=>fact (z.1.length≤1000) (Dy [ints z.1,int z.2])) (Dy [xH,anyI]):=fun M w v ⟨z,hz,h⟩=>Ay (ps:=[ints z.1,int z.2]) (qs:=[xH,anyI]) ⟨Ax z.1 (BB AA (Pr.le_refl _)),Ax _ (Pr.le_refl _),trivial⟩ M w v h
theorem bE {e:Dn} {l:List Ba} {r:List BH} {d:List Int} {n:Nat} {s:List Int} {i fr OK:Int} (hz:e.sz n) (hn:n≤800000) (hc:∀c∈l,c.C6.fits∧c.C6.small) (hs:∀i∈s,0≤i∧i<(d.length:Nat)) (Z_:s.length≤4096)  :BF prog 249 [agg (CM e),Jn l r d,int i,ints s,int fr,int OK] (Dy [zo,ES]):=by
 refine fo func249 rfl ⟨rfl,rfl⟩ fun M0 w0=> ?_
 have hxf:=(fL (l:=l) (s:=s) hz hc).fits AA
 refine Tr.seq (Tr.Ap (tp rfl (Bh rfl C3) (tp rfl (Bh rfl C3) ?_)))
 refine Tl rfl rfl rfl rfl Jt Fy (fun b1=> ?_)
 refine ao ?_
 refine ao ?_
 refine tp rfl (LV (MX hz hn hc) rfl rfl rfl rfl) ?_
 refine ao ?_
 refine Tl rfl rfl rfl rfl z31 Ia (fun b2=> ?_)
 refine sf 0 14 ⟨rfl,rfl,rfl⟩ rfl rfl rfl rfl ?_
 refine ao ?_
 refine wk [15,14,12,7,5,4,3,2] rfl ?_
 refine an ?_ ?_<;>intro h1 q1
 refine ao ?_
 refine TO.AK 0 rfl rfl rfl vq C3 rfl CH rfl rfl ?_
 refine ao ?_
 refine Tr.ret (Fin.AE (Fin.Bc rfl (AL.cell 0 rfl rfl C7 CH rfl Lr) (AL.tmp rfl Lr) ?_))
 refine Ay ⟨?_,?_,trivial⟩
 · exact BU ⟨Ax _ Lr,Ax _ Lr,trivial⟩
 · exact BN
 refine ac ?_
 refine Tr.seq (Tr.pad (Tr.rx ?_))
 refine ax ?_
 refine xo rfl (fun _=>LV (MY hs) rfl rfl rfl rfl) (xm rfl (xo rfl (fun _=>Ae.le (ju (PB hxf) rfl rfl rfl rfl rfl) vk) ?_))
 refine ax ?_
 refine Cx.ef 0 rfl rfl AB (CA rfl rfl AB rfl Jt Fy) (Cx.DG 0 rfl rfl (Cc rfl rfl rfl rfl C3 CH rfl rfl) (xm rfl ?_))
 refine Cx.nil ⟨by kernel_rfl,?_⟩
 refine BI.open_ 0 16 rfl rfl (fun v1=> ?_)
 refine BI.done XU (Fin.Le 16 0 _ rfl rfl (fun _=>rfl) (fun b3=> ?_))
 refine Fin.go (wk [17,16,12] rfl ?_)
 refine ao ?_
 refine tp rfl (qP rfl (VL.le vq aX) (VL.le vq (DI _ _))) (TO.AK 1 rfl rfl rfl vq C3 rfl CH rfl rfl ?_)
 refine ao ?_
 refine Tr.drop 0 (Tr.ret (Fin.Bc rfl (AL.cell 0 rfl rfl C7 CH rfl Lr) (AL.tmp rfl Lr) ?_))
 refine Ay ⟨?_,?_,trivial⟩
 · exact Lr
 · exact Lr
abbrev qn (c:Int×List Int):List Pr:=[int c.1,ints c.2,anyI,anyI]
abbrev qo:Pr:=agg [Cp.ex fun L:List (Int×List Int)=>slice 4 (L.map qn)]
abbrev AD3:Pr:=agg [anyI,Cp.ex fun s:List Int=>ints s,anyI,anyI]
theorem D9:Pr.le (agg [is (.slice none 0 0)]) qo:=BU ⟨Ax [] (AQ 4),trivial⟩
theorem Mh:Pr.le (agg [is (.int .i64 0),is (.slice none 0 0),is (.int .i64 0),is (.int .i64 0)]) AD3:=BU ⟨Ax _ (Pr.le_refl _),Ax [] (AQ 1),Ax _ (Pr.le_refl _),Ax _ (Pr.le_refl _),trivial⟩
theorem jT {e:Dn} {l:List Ba} {r:List BH} {d:List Int} {n:Nat} {fr OK:Int} (hz:e.sz n) (hn:n≤800000) (hc:∀c∈l,c.C6.fits∧c.C6.small) (hrl:r.length≤1000000):BF prog 213 [agg (CM e),Jn l r d,int fr,int OK] (Cp.ex fun z:Int=>fact (z=0→Fc e=true∧Nn e.Bu.length l r d) (Dy [qo,AD3,ES,int z])):=by
 refine fo func213 rfl ⟨rfl,rfl⟩ fun M0 w0=> ?_
 have hf:=hz.fits AA
 refine Tr.seq (Tr.Ap (tp rfl (Bh rfl C3) (tp rfl (Bh rfl C3) ?_)))
 refine Tl rfl rfl rfl rfl z107 Ek (fun b1=> ?_)
 refine Tl rfl rfl rfl rfl tJ RO (fun b2=> ?_)
 refine ao ?_
 refine ao ?_
 refine tp rfl (CS (YT hf hrl) rfl rfl rfl) ?_
 refine TO.ex 24 rfl (fun z1=>TO.fact 24 rfl fun Eh=> ?_)
 refine ao ?_
 refine wk [12,9,8,5,4,3,2] rfl ?_
 refine an ?_ ?_<;>intro h1 q1
 refine ao ?_
 refine TO.AK 1 rfl rfl rfl vq C3 rfl Bm rfl rfl (TO.AK 0 rfl rfl rfl vq C3 rfl F_ rfl rfl ?_)
 refine ao ?_
 refine wk [11,10,9,8] rfl (Tr.ret (Fin.AE (Fin.O_ rfl (AL.cell 1 rfl rfl CW Bm rfl Lr) (AL.cell 0 rfl rfl KH F_ rfl Lr) (AL.tmp rfl Lr) (AL.tmp rfl Lr) ?_)))
 · exact Ax z1 (BB (fun h_=>absurd h_ AA) (Ay ⟨D9,Mh,Ax _ Lr,Lr,trivial⟩))
 have hz0:z1=0:=by have:=q1;omega
 obtain ⟨VY,hfp⟩:=Eh hz0
 have hdl:=hfp.dl
 refine ac ?_
 refine ag ?_ ?_<;>intro h2 q2
 refine ac ?_
 refine wk [43,9,8,5,4,3,2] rfl (Tr.cond rfl (fun _=> ?_) (fun h=>nomatch h))
 refine Tr.seq (Tr.Ap (tp rfl (An (rows:=[]) rfl Ji Ek trivial rfl) (tp rfl (An (rows:=[]) rfl dL RO trivial rfl) (TO.AK 1 rfl rfl rfl vq C3 rfl Bm rfl rfl (TO.AK 0 rfl rfl rfl vq C3 rfl F_ rfl rfl ?_)))))
 refine ao ?_
 refine Tr.ret (Fin.AE (Fin.O_ rfl (AL.cell 1 rfl rfl CW Bm rfl Lr) (AL.cell 0 rfl rfl KH F_ rfl Lr) (AL.tmp rfl Lr) (AL.tmp rfl Lr) ?_))
 · exact Ui
 refine ag ?_ ?_<;>intro h3 q3
 refine ac ?_
 refine wk [43,9,8,5,4,3,2] rfl (Tr.cond rfl (fun _=> ?_) (fun h=>nomatch h))
 refine Tr.seq (Tr.Ap (tp rfl (An (rows:=[]) rfl Ji Ek trivial rfl) (tp rfl (An (rows:=[]) rfl dL RO trivial rfl) (TO.AK 1 rfl rfl rfl vq C3 rfl Bm rfl rfl (TO.AK 0 rfl rfl rfl vq C3 rfl F_ rfl rfl ?_)))))
 refine ao ?_
 refine Tr.ret (Fin.AE (Fin.O_ rfl (AL.cell 1 rfl rfl CW Bm rfl Lr) (AL.cell 0 rfl rfl KH F_ rfl Lr) (AL.tmp rfl Lr) (AL.tmp rfl Lr) ?_))
 · exact Ui
 refine ag ?_ ?_<;>intro h4 q4
 refine ac ?_
 refine wk [43,9,8,5,4,3,2] rfl (Tr.cond rfl (fun _=> ?_) (fun h=>nomatch h))
 refine Tr.seq (Tr.Ap (tp rfl (An (rows:=[]) rfl Ji Ek trivial rfl) (tp rfl (An (rows:=[]) rfl dL RO trivial rfl) (TO.AK 1 rfl rfl rfl vq C3 rfl Bm rfl rfl (TO.AK 0 rfl rfl rfl vq C3 rfl F_ rfl rfl ?_)))))
 refine ao ?_
 refine Tr.ret (Fin.AE (Fin.O_ rfl (AL.cell 1 rfl rfl CW Bm rfl Lr) (AL.cell 0 rfl rfl KH F_ rfl Lr) (AL.tmp rfl Lr) (AL.tmp rfl Lr) ?_))
 · exact Ui
 refine ac ?_
 refine wk [43,9,8,5,4,3,2] rfl ?_
 refine Tr.cn rfl ?_ ?_<;>intro h5 q5
 refine ao ?_
 refine TO.AK 1 rfl rfl rfl vq C3 rfl Bm rfl rfl (TO.AK 0 rfl rfl rfl vq C3 rfl F_ rfl rfl ?_)
 refine ao ?_
 refine Tr.ret (Fin.AE (Fin.O_ rfl (AL.cell 1 rfl rfl CW Bm rfl Lr) (AL.cell 0 rfl rfl KH F_ rfl Lr) (AL.tmp rfl Lr) (AL.tmp rfl Lr) ?_))
 · exact Ui
 refine ac ?_
 refine ao ?_
 refine tp rfl (CS (YU hz hn hrl) rfl rfl rfl) ?_
 refine TO.ex 49 rfl (fun z2=>TO.fact 49 rfl fun I6=> ?_)
 refine ao ?_
 refine wk [14,13,9,8,5,4,3,2] rfl ?_
 refine an ?_ ?_<;>intro h6 q6
 refine ao ?_
 refine TO.AK 1 rfl rfl rfl vq C3 rfl Bm rfl rfl (TO.AK 0 rfl rfl rfl vq C3 rfl F_ rfl rfl ?_)
 refine ao ?_
 refine wk [11,10,9,8] rfl (Tr.ret (Fin.AE (Fin.O_ rfl (AL.cell 1 rfl rfl CW Bm rfl Lr) (AL.cell 0 rfl rfl KH F_ rfl Lr) (AL.tmp rfl Lr) (AL.tmp rfl Lr) ?_)))
 · exact Ax _ (BB (fun _=>⟨VY,hfp⟩) (Ay ⟨D9,Mh,Ax _ Lr,Lr,trivial⟩))
 refine ac ?_
 refine Tr.seq (Tr.Ap ?_)
 refine Tl rfl rfl rfl rfl z107 Ek (fun b3=> ?_)
 refine ao ?_
 refine ac ?_
 refine wk [59,58,57,15,9,8,5,4,3,2] rfl (Tr.block (Tr.HZ 0 [Aa (.slice none 0 0) (slice 4 (([]:List (Int×List Int)).map qn))] rfl ⟨Bp rfl,trivial⟩ (Tr.CC 270 4 (Tr.DE _ (kk [58,57,15,9,8,5,4,3,2] rfl) (fun (q:List (Int×List Int)) (k:Nat) v=>[(59,int ((k:Nat):Int))]) (fun (q:List (Int×List Int)) (k:Nat) v=>Hp M0 w0 Fo ([Au 270 4 v,AF true b3 107 [Aa v (slice 4 (q.map qn))],AF true b2 270 (([.int .i64 0,.slice none 0 0,.int .i64 0,.int .i64 0]:List Value).map is),AF true b1 107 (([.slice none 0 0]:List Value).map is)])) (fun (q:List (Int×List Int)) (k:Nat)=>k≤z2.1.length∧q.length≤4096*k) (fun (q:List (Int×List Int)) (k:Nat)=>z2.1.length-k) ([]) (0) (.slice none 0 0) (⟨Nat.zero_le _,by simp⟩) kz (fun _ _ h=>h) ?_))))
 rintro q k v ⟨hk0,hql⟩
 refine ac ?_
 refine Tr.seq ?_
 refine Tr.cn rfl ?_ ?_<;>intro h7 q7
 have hk:k<z2.1.length:=AH h7
 obtain ⟨t,ht⟩:=at_ hk
 have hts:=I6.QN t (List.mem_of_getElem? ht)
 have htl:=hts.len
 have hzl:=I6.len
 refine a2 ?_
 refine co rfl (AD rfl underlying274 sF vq vq AA (AZ ht)) ?_
 refine ac ?_
 refine wk [59,58,57,17,16,15,9,8,5,4,3,2] rfl ?_
 refine ac ?_
 refine wk [66,65,64,59,58,57,16,15,9,8,5,4,3,2] rfl (Tr.block (Tr.DE _ (kk [65,64,59,58,57,16,15,9,8,5,4,3,2] rfl) (fun (q2:List (Int×List Int)) (m:Nat) u=>[(66,int ((m:Nat):Int))]) (fun (q2:List (Int×List Int)) (m:Nat) u=>Hp M0 w0 Fo ([Au 270 4 u,AF true b3 107 [Aa u (slice 4 (q2.map qn))],AF true b2 270 (([.int .i64 0,.slice none 0 0,.int .i64 0,.int .i64 0]:List Value).map is),AF true b1 107 (([.slice none 0 0]:List Value).map is)])) (fun (q2:List (Int×List Int)) (m:Nat)=>m≤t.length∧q2.length≤4096*k+m) (fun (q2:List (Int×List Int)) (m:Nat)=>t.length-m) (q) (0) v (⟨Nat.zero_le _,by omega⟩) kz (fun _ _ h=>h) ?_))
 rintro q2 m u ⟨hm0,AIf⟩
 refine ac ?_
 refine wk [67,66,65,64,59,58,57,16,15,9,8,5,4,3,2] rfl (Tr.seq ?_)
 refine Tr.cn rfl ?_ ?_<;>intro h8 q8
 have hm:m<t.length:=AH h8
 obtain ⟨x,hx⟩:=at_ hm
 have hsd:∀i∈x,0≤i∧i<(d.length:Nat):=fun i hi=>by have:=hts.QN x (List.mem_of_getElem? hx) i hi;omega
 have hsw:=hts.wid x (List.mem_of_getElem? hx)
 refine ac ?_
 refine wk [66,65,64,59,58,57,16,15,9,8,5,4,3,2] rfl (Tr.seq (Tr.block (Tr.seq (Tr.Al (co rfl (AD rfl underlying99 G6 vq vq AA (AZ hx)) ?_)))))
 refine ac ?_
 refine wk [66,65,64,59,58,57,19,16,15,9,8,5,4,3,2] rfl ?_
 refine ac ?_
 refine co rfl (LV (MY hsd) rfl rfl rfl rfl) ?_
 refine ac ?_
 refine wk [75,66,65,64,59,58,57,19,16,15,9,8,5,4,3,2] rfl ?_
 refine Tr.cn rfl ?_ ?_<;>intro h9 q9
 refine ac ?_
 refine wk [66,65,64,59,58,57,16,15,9,8,5,4,3,2] rfl ?_
 refine ac ?_
 exact Fin.Bk (q2) (m+1) u (⟨⟨by omega,by omega⟩,by omega⟩) ⟨⟨_,rfl,AG m⟩,kz⟩ (fun _ _ h=>h)
 refine ac ?_
 refine wk [66,65,64,59,58,57,19,16,15,9,8,5,4,3,2] rfl ?_
 refine ao ?_
 refine tp rfl (AV rfl (bE hz hn hc hsd hsw) ⟨kq,kz⟩) ?_
 refine ao ?_
 refine Tl rfl rfl rfl rfl Jt Fy (fun b4=> ?_)
 refine sf 0 20 ⟨rfl,rfl,rfl⟩ rfl rfl rfl rfl ?_
 refine ao ?_
 refine wk [66,65,64,59,58,57,21,20,19,16,15,9,8,5,4,3,2] rfl (Tr.seq (Tr.seq (Tr.ex 21 rfl fun x21=> ?_)))
 refine ac ?_
 refine wk [87,66,65,64,59,58,57,20,19,16,15,9,8,5,4,3,2] rfl ?_
 refine Tr.cn rfl ?_ ?_<;>intro h10 Sx
 refine ao ?_
 refine TO.AK 3 rfl rfl rfl vq C3 rfl Bm rfl rfl (TO.AK 2 rfl rfl rfl vq C3 rfl F_ rfl rfl ?_)
 refine ao ?_
 refine wk [11,10,9,8] rfl (Tr.ret (Fin.AE (Fin.AR (Fin.AE (Fin.AE (Fin.AR (Fin.AR (Fin.AE (Fin.AE (Fin.AR (Fin.AE (Fin.O_ rfl (AL.cell 3 rfl rfl CW Bm rfl Lr) (AL.cell 2 rfl rfl KH F_ rfl Lr) (AL.tmp rfl Lr) (AL.tmp rfl Lr) ?_))))))))))))
 · exact Ax 0 (BB (fun _=>⟨VY,hfp⟩) (Ay ⟨D9,BU ⟨Ax _ Lr,Ax _ Lr,Ax _ Lr,Ax _ Lr,trivial⟩,Ax _ Lr,Lr,trivial⟩))
 refine ac ?_
 refine wk [66,65,64,59,58,57,20,19,16,15,9,8,5,4,3,2] rfl ?_
 refine ao ?_
 refine TO.Dl 0 rfl rfl AB (CB rfl rfl rfl rfl underlying105 F_ AB3 tJ Iy Gn (BC BR KJ)) (fun v1=> ?_)
 refine tp rfl (AW rfl dH vq) (TO.AK 1 rfl rfl rfl vq Lj rfl ABl rfl rfl ?_)
 refine ao ?_
 refine wk [66,65,64,59,58,57,16,15,9,8,5,4,3,2] rfl ?_
 refine ac ?_
 refine Fin.HZ 1 [Aa v1 (slice 4 ((q2++[(((k:Nat):Int),x)]).map qn))] rfl ⟨BJ DQ,trivial⟩ ?_
 exact Fin.Bk (q2++[(((k:Nat):Int),x)]) (m+1) v1 (⟨⟨by omega,by simp;omega⟩,by omega⟩) ⟨⟨_,rfl,AG m⟩,kz⟩ (fun _ _ h=>h)
 have hme:=AJ h8
 refine ac ?_
 refine wk [59,58,57,15,9,8,5,4,3,2] rfl ?_
 refine ac ?_
 exact Fin.Bk (q2) (k+1) u (⟨⟨by omega,by omega⟩,by omega⟩) ⟨⟨_,rfl,AG k⟩,kz⟩ (fun _ _ h=>h)
 have fm:=AJ h7
 refine ac ?_
 refine ao ?_
 refine TO.AK 3 rfl rfl rfl vq C3 rfl Bm rfl rfl (TO.AK 2 rfl rfl rfl vq C3 rfl F_ rfl rfl ?_)
 refine ao ?_
 refine wk [11,10,9,8] rfl (Tr.ret (Fin.O_ rfl (AL.cell 3 rfl rfl CW Bm rfl Lr) (AL.cell 2 rfl rfl KH F_ rfl Lr) (AL.tmp rfl Lr) (AL.tmp rfl Lr) ?_))
 · exact Ax 0 (BB (fun _=>⟨VY,hfp⟩) (Ay ⟨BU ⟨Ax _ (As _ _),trivial⟩,Mh,Ax _ Lr,Lr,trivial⟩))
theorem jU {e:Dn} {l:List Ba} {r:List BH} {d:List Int} {n:Nat} {fr OK:Int} (hz:e.sz n) (hn:n≤800000) (hc:∀c∈l,c.C6.fits∧c.C6.small) (hrl:r.length≤1000000):BF prog 176 [agg (CM e),Jn l r d,int fr,int OK] (Cp.ex fun z:Int=>fact (z=0→Fc e=true∧Nn e.Bu.length l r d) (Dy [qo,int z])):=by
 refine fo func176 rfl ⟨rfl,rfl⟩ fun M0 w0=>(Tr.seq (Tr.Ap (tp rfl (Bh rfl C3) (tp rfl (Bh rfl C3) ?_))))
 refine Tl rfl rfl rfl rfl z107 Ek (fun b1=> ?_)
 refine ao ?_
 refine ao ?_
 refine tp rfl (ju (jT hz hn hc hrl) rfl rfl rfl rfl rfl) ?_
 refine TO.ex 19 rfl (fun z1=>TO.fact 19 rfl fun Eh=> ?_)
 refine ao ?_
 refine Tl rfl rfl rfl rfl z107 Ek (fun b2=> ?_)
 refine Tl rfl rfl rfl rfl tJ RO (fun b3=> ?_)
 refine sf 1 10 ⟨rfl,rfl,rfl⟩ rfl rfl rfl rfl ?_
 refine sf 0 11 ⟨rfl,rfl,rfl⟩ rfl rfl rfl rfl ?_
 refine ao ?_
 refine wk [13,12,10,8] rfl ?_
 refine an ?_ ?_<;>intro h1 q1
 refine ao ?_
 refine TO.AK 0 rfl rfl rfl vq C3 rfl Bm rfl rfl ?_
 refine ao ?_
 refine Tr.ret (Fin.AE (Fin.Bc rfl (AL.cell 0 rfl rfl CW Bm rfl Lr) (AL.tmp rfl Lr) ?_))
 · exact Ax z1 (BB (fun h_=>absurd h_ AA) (Ay ⟨D9,Lr,trivial⟩))
 have hz0:z1=0:=by have:=q1;omega
 refine ac ?_
 refine Tr.seq (Tr.seq (Tr.ex 12 rfl fun x12=> ?_))
 refine an ?_ ?_<;>intro h2 q2
 refine ao ?_
 refine TO.AK 0 rfl rfl rfl vq C3 rfl Bm rfl rfl ?_
 refine ao ?_
 refine Tr.ret (Fin.AE (Fin.Bc rfl (AL.cell 0 rfl rfl CW Bm rfl Lr) (AL.tmp rfl Lr) ?_))
 · exact Ax 42 (BB (fun h_=>absurd h_ AB) (Ay ⟨D9,Lr,trivial⟩))
 refine ac ?_
 refine ao ?_
 refine TO.AK 0 rfl rfl rfl vq C3 rfl Bm rfl rfl ?_
 refine ao ?_
 refine Tr.ret (Fin.Bc rfl (AL.cell 0 rfl rfl CW Bm rfl Lr) (AL.tmp rfl Lr) ?_)
 · exact Ax 0 (BB (fun _=>Eh hz0) (Ay ⟨Lr,Lr,trivial⟩))
theorem WS {e:Dn} {l:List Ba} {r:List BH} {d:List Int} {n:Nat} {s:List Int} {g i:Int} (hz:e.sz n) (hn:n≤800000) (hc:∀c∈l,c.C6.fits∧c.C6.small) (Z_:s.length≤4096) (hi:0≤i∧i<(d.length:Nat)):BF prog 218 [agg (CM e),Jn l r d,int g,ints s,int i,Nk,SW,WL] (ES):=by
 refine fo func218 rfl ⟨rfl,rfl⟩ fun M0 w0=> ?_
 have hxf:=(fL (l:=l) (s:=s) hz hc).fits AA
 have hwl:=OR s i true
 have hyf:=(fL (l:=l) (s:=EA s i true) hz hc).fits AA
 have bC:=FL (l:=d) (i:=i.toNat) AA
 refine ac ?_
 refine ao ?_
 refine tp rfl (LV (MX hz hn hc) rfl rfl rfl rfl) ?_
 refine ao ?_
 refine Tl rfl rfl rfl rfl z31 Ia (fun b1=> ?_)
 refine sf 0 17 ⟨rfl,rfl,rfl⟩ rfl rfl rfl rfl ?_
 refine ao ?_
 refine wk [18,17,15,13,9,8,6,4,3,2] rfl (Tr.seq (Tr.pad (Tr.rx ?_)))
 refine ax ?_
 refine xo rfl (fun _=>LV (HA AA) rfl rfl rfl rfl) (xo rfl (fun _=>LV (MX hz hn hc) rfl rfl rfl rfl) ?_)
 refine ax ?_
 refine Cx.ef 0 rfl rfl AB (CA rfl rfl AB rfl z31 Ia) (Cx.DG 0 rfl rfl (Cc rfl rfl rfl rfl C3 De rfl rfl) (xm rfl ?_))
 refine Cx.nil ⟨by kernel_rfl,?_⟩
 refine BI.open_ 0 19 rfl rfl (fun v1=> ?_)
 refine BI.done al1 (Fin.Le 19 0 _ rfl rfl (fun _=>rfl) (fun b2=> ?_))
 refine Fin.go (wk [20,19,18,17,15,13,9,6,4,2] rfl ?_)
 refine ag ?_ ?_<;>intro h1 q1
 refine ac ?_
 refine wk [46,19,17,15,13,9,6,4,2] rfl ?_
 refine ac ?_
 refine Tr.drop 0 ?_
 refine ac ?_
 · exact BN
 refine ac ?_
 refine wk [46,19,17,15,13,9,6,4,2] rfl ?_
 refine Tr.cn rfl ?_ ?_<;>intro h2 q2
 refine ac ?_
 refine Tr.drop 0 ?_
 refine ac ?_
 · exact BN
 refine a2 ?_
 refine co rfl (AD rfl underlying22 Bs vq vq AA (Bf bC)) (co rfl (F5 rfl Cs rfl) (co rfl (Ae.le (AV rfl (jC hxf hyf) ⟨kq,kz⟩) zq) ?_))
 refine ac ?_
 refine Tr.drop 0 (wk [21,2] rfl (Tr.seq (Tr.seq (Tr.ex 21 rfl fun bad=>(Tr.fact 21 rfl fun AIg=> ?_)))))
 refine ac ?_
 refine Tr.block (Tr.BE _ (kk [62,61,2] rfl) (fun k:Nat=>[(63,int ((k:Nat):Int))]) (fun k:Nat=>k≤(bad).length) (fun k:Nat=>(bad).length-k) 0 (Nat.zero_le _) kz ?_)
 rintro k BT
 refine ac ?_
 refine Tr.seq ?_
 refine Tr.cn rfl ?_ ?_<;>intro h3 q3
 have Ai:k<(bad).length:=AH h3
 obtain ⟨x,Ah⟩:=at_ Ai
 refine ac ?_
 refine Tr.seq (Tr.block (Tr.seq (Tr.Al (co rfl (AD rfl underlying22 Bs vq vq AA (AZ Ah)) ?_))))
 · exact Ly
 have BP:k=(bad).length:=by have:=AJ h3;omega
 subst BP
 refine a3 ?_
 · exact BN
theorem bF {l:List (List Int)} {s:List Int}  :BF prog 217 [sets l,ints s] (ES):=by
 refine fo func217 rfl ⟨rfl,rfl⟩ fun M0 w0=>(Tr.Cl 0 rfl fun EH=> ?_)
 refine a2 ?_
 refine Tr.block (Tr.BE _ (kk [8,7,1] rfl) (fun k:Nat=>[(9,int ((k:Nat):Int))]) (fun k:Nat=>k≤(l).length) (fun k:Nat=>(l).length-k) 0 (Nat.zero_le _) kz ?_)
 rintro k BT
 refine ac ?_
 refine Tr.seq ?_
 refine Tr.cn rfl ?_ ?_<;>intro h1 q1
 have Ai:k<(l).length:=AH h1
 obtain ⟨x,Ah⟩:=at_ Ai
 refine ac ?_
 refine Tr.seq (Tr.block (Tr.seq (Tr.Al (co rfl (AD rfl underlying99 G6 vq vq AA (AZ Ah)) ?_))))
 refine a2 ?_
 refine co rfl (CS (WN) rfl rfl rfl) ?_
 refine ac ?_
 refine Tr.ex 15 rfl fun AIh=> ?_
 · exact Ly
 have BP:k=(l).length:=by have:=AJ h1;omega
 refine a3 ?_
 · exact BN
theorem bG {e:Dn} {l:List Ba} {r:List BH} {d:List Int} {n:Nat} (hz:e.sz n) (hn:n≤800000) (hc:∀c∈l,c.C6.fits∧c.C6.small) (hrl:r.length≤1000000):BF prog 177 [agg (CM e),Jn l r d,Nk,SW,WL] (Cp.ex fun z:List Int×Int=>fact (z.1.length≤1000) (Dy [ints z.1,int z.2])):=by
 refine fo func177 rfl ⟨rfl,rfl⟩ fun M0 w0=> ?_
 have hf:=hz.fits AA
 refine ac ?_
 refine ap ?_
 refine tp rfl (CS (YT hf hrl) rfl rfl rfl) ?_
 refine TO.ex 25 rfl (fun z1=>TO.fact 25 rfl fun Eh=> ?_)
 refine ap ?_
 refine ac ?_
 refine jr 3 5 6 7 9 12 27 rfl ?_
 refine Tr.cn rfl ?_ ?_<;>intro h1 q1
 refine ac ?_
 refine Tr.ret (Fin.AE (Fin.Bc rfl (AL.tmp rfl (Lr)) (AL.tmp rfl (Lr)) ?_))
 · exact Qr
 have hz0:z1=0:=by have:=q1;omega
 obtain ⟨VY,hfp⟩:=Eh hz0
 have hdl:=hfp.dl
 have Ns:=hfp.l24
 refine a2 ?_
 refine co rfl (LV (Ko) rfl rfl rfl rfl) ?_
 refine ac ?_
 refine Tr.seq (Tr.ex 13 rfl fun x13=> ?_)
 refine an ?_ ?_<;>intro h2 q2
 refine ac ?_
 refine Ti 10 11 rfl (Tr.ret (Fin.AE (Fin.Bc rfl (AL.tmp rfl (Lr)) (AL.tmp rfl (Lr)) ?_)))
 · exact Qr
 refine ac ?_
 refine ap ?_
 refine tp rfl (CS (YU hz hn hrl) rfl rfl rfl) ?_
 refine TO.ex 38 rfl (fun z2=>TO.fact 38 rfl fun I6=> ?_)
 refine ap ?_
 refine jr 3 5 6 7 9 14 15 rfl ?_
 refine an ?_ ?_<;>intro h3 q3
 refine ac ?_
 refine Tr.ret (Fin.AE (Fin.Bc rfl (AL.tmp rfl (Lr)) (AL.tmp rfl (Lr)) ?_))
 · exact Qr
 refine a3 ?_
 refine wk9 3 5 6 7 9 14 16 46 47 rfl (Tr.block (Tr.CC 3 1 (Tr.DE [(3,_),(5,_),(6,_),(7,_),(9,_),(14,_),(46,_)] ⟨ke rfl,ke rfl,ke rfl,ke rfl,ke rfl,ke rfl,ke rfl,trivial⟩ (fun (o:List Int) (k:Nat) u=>[(47,int ((k:Nat):Int)),(16,Aa u (ints o))]) (fun (o:List Int) (k:Nat) u=>Hp M0 w0 Fo ([Au 3 1 u])) (fun (o:List Int) (k:Nat)=>k≤l.length∧o.length≤k) (fun (o:List Int) (k:Nat)=>l.length-k) ([]) (0) (.slice none 0 0) (⟨Nat.zero_le _,by simp⟩) ⟨ke rfl,⟨_,rfl,Bp rfl⟩,trivial⟩ (fun _ _ h=>h) ?_)))
 rintro o k u ⟨hk0,hol⟩
 refine ac ?_
 refine Tr.seq ?_
 refine Tr.cn rfl ?_ ?_<;>intro h4 q4
 have hk:k<l.length:=AH h4
 obtain ⟨dk,bC⟩:=at_ (l:=d) (k:=k) AA
 iterate 4 refine ac ?_
 refine xS 3 5 6 7 9 14 16 17 18 46 47 50 51 52 rfl (Tr.block (Tr.BE [(3,_),(5,_),(6,_),(7,_),(9,_),(14,_),(16,_),(17,_),(46,_),(47,_),(50,_),(51,_)] (AFk rfl) (fun j:Nat=>[(52,int ((j:Nat):Int)),(18,ES)]) (fun j:Nat=>j≤(z2.1).length) (fun j:Nat=>(z2.1).length-j) 0 (Nat.zero_le _) ⟨ke rfl,⟨_,rfl,Ax _ (Lr)⟩,trivial⟩ ?_))
 rintro j AH3
 refine ac ?_
 refine AFi 3 5 6 7 9 14 16 17 18 46 47 50 51 52 53 rfl (Tr.seq ?_)
 refine Tr.cn rfl ?_ ?_<;>intro h5 q5
 have AD4:j<(z2.1).length:=AH h5
 obtain ⟨t,AD5⟩:=at_ AD4
 have hts:=I6.QN t (List.mem_of_getElem? AD5)
 have ht:=AD5
 have htl:=hts.len
 have hzl:=I6.len
 refine ac ?_
 refine xS 3 5 6 7 9 14 16 17 18 46 47 50 51 52 rfl ?_
 refine ac ?_
 refine co rfl (AD rfl underlying274 sF (vl rfl) (vl rfl) AA (AZ ht)) ?_
 refine ac ?_
 refine AFj 3 5 6 7 9 14 16 17 18 19 20 46 47 50 51 52 rfl ?_
 refine ac ?_
 refine lH 3 5 6 7 9 14 16 17 18 19 20 46 47 50 51 52 57 58 59 rfl (Tr.block (Tr.BE [(3,_),(5,_),(6,_),(7,_),(9,_),(14,_),(16,_),(17,_),(19,_),(20,_),(46,_),(47,_),(50,_),(51,_),(52,_),(57,_),(58,_)] (AFl rfl) (fun m:Nat=>[(59,int ((m:Nat):Int)),(18,ES)]) (fun m:Nat=>m≤(t).length) (fun m:Nat=>(t).length-m) 0 (Nat.zero_le _) ⟨ke rfl,ke rfl,trivial⟩ ?_))
 rintro m NW
 refine ac ?_
 refine ABU 3 5 6 7 9 14 16 17 18 19 20 46 47 50 51 52 57 58 59 60 rfl (Tr.seq ?_)
 refine Tr.cn rfl ?_ ?_<;>intro h6 q6
 have Ee:m<(t).length:=AH h6
 obtain ⟨x,Em⟩:=at_ Ee
 have hx:=Em
 have hsd:∀i∈x,0≤i∧i<(d.length:Nat):=fun i hi=>by have:=hts.QN x (List.mem_of_getElem? hx) i hi;omega
 have hsw:=hts.wid x (List.mem_of_getElem? hx)
 refine ac ?_
 refine lH 3 5 6 7 9 14 16 17 18 19 20 46 47 50 51 52 57 58 59 rfl (Tr.seq (Tr.block (Tr.seq (Tr.Al (co rfl (AD rfl underlying99 G6 (vl rfl) (vl rfl) AA (AZ hx)) ?_)))))
 refine ac ?_
 refine ABU 3 5 6 7 9 14 16 17 18 19 20 22 46 47 50 51 52 57 58 59 rfl (Tr.seq (Tr.ex 18 rfl fun x18=> ?_))
 refine ag ?_ ?_<;>intro h7 q7
 refine ac ?_
 refine cy h7 rfl (CS (Kh) rfl rfl rfl) ?_
 refine ag ?_ ?_<;>intro h8 q8
 refine ac ?_
 refine cy h8 rfl (LV (MY hsd) rfl rfl rfl rfl) ?_
 refine ac ?_
 refine cy h8 rfl (AD rfl underlying22 Bs (vl rfl) (vl rfl) AA (AZ bC)) ?_
 refine ag ?_ ?_<;>intro h9 q9
 refine ac ?_
 refine cy h9 rfl (LV (HA AA) rfl rfl rfl rfl) (cy h9 rfl (CS (bF) rfl rfl rfl) ?_)
 refine ac ?_
 refine r8 3 5 6 7 9 14 16 17 18 19 20 22 46 47 50 51 52 57 58 59 88 rfl (Tr.ex 88 rfl fun AIi=> ?_)
 · repeat' first|exact Fin.AO (m+1) ⟨Ee,by omega⟩ ⟨⟨_,rfl,AG m⟩,ke rfl,ke rfl,ke rfl,ke rfl,ke rfl,ke rfl,ke rfl,ke rfl,ke rfl,ke rfl,ke rfl,ke rfl,ke rfl,ke rfl,ke rfl,ke rfl,ke rfl,ke rfl,trivial⟩|exact Fin.AO (m+1) ⟨Ee,by omega⟩ ⟨⟨_,rfl,AG m⟩,⟨_,rfl,Ax _ (Lr)⟩,ke rfl,ke rfl,ke rfl,ke rfl,ke rfl,ke rfl,ke rfl,ke rfl,ke rfl,ke rfl,ke rfl,ke rfl,ke rfl,ke rfl,ke rfl,ke rfl,ke rfl,trivial⟩|refine co rfl (AV rfl (WS hz hn hc hsw AA) ⟨ke rfl,ke rfl,ke rfl,ke rfl,ke rfl,ke rfl,ke rfl,ke rfl,trivial⟩) ?_|refine ac ?_|(refine Tr.cn rfl ?_ ?_<;>intro h q)
 refine ac ?_
 refine r8 3 5 6 7 9 14 16 17 18 19 20 22 46 47 50 51 52 57 58 59 88 rfl ?_
 refine ac ?_
 refine lH 3 5 6 7 9 14 16 17 18 19 20 46 47 50 51 52 57 58 59 rfl ?_
 refine ac ?_
 exact Fin.AO (m+1) ⟨Ee,by omega⟩ ⟨⟨_,rfl,AG m⟩,⟨_,rfl,Ax _ (Lr)⟩,ke rfl,ke rfl,ke rfl,ke rfl,ke rfl,ke rfl,ke rfl,ke rfl,ke rfl,ke rfl,ke rfl,ke rfl,ke rfl,ke rfl,ke rfl,ke rfl,ke rfl,trivial⟩
 refine ac ?_
 refine r8 3 5 6 7 9 14 16 17 18 19 20 22 46 47 50 51 52 57 58 59 88 rfl ?_
 refine ac ?_
 refine lH 3 5 6 7 9 14 16 17 18 19 20 46 47 50 51 52 57 58 59 rfl ?_
 refine ac ?_
 exact Fin.AO (m+1) ⟨Ee,by omega⟩ ⟨⟨_,rfl,AG m⟩,⟨_,rfl,Ax _ (Lr)⟩,ke rfl,ke rfl,ke rfl,ke rfl,ke rfl,ke rfl,ke rfl,ke rfl,ke rfl,ke rfl,ke rfl,ke rfl,ke rfl,ke rfl,ke rfl,ke rfl,ke rfl,trivial⟩
 refine ac ?_
 refine r8 3 5 6 7 9 14 16 17 18 19 20 22 46 47 50 51 52 57 58 59 88 rfl ?_
 refine ac ?_
 refine lH 3 5 6 7 9 14 16 17 18 19 20 46 47 50 51 52 57 58 59 rfl ?_
 refine ac ?_
 exact Fin.AO (m+1) ⟨Ee,by omega⟩ ⟨⟨_,rfl,AG m⟩,⟨_,rfl,Ax _ (Lr)⟩,ke rfl,ke rfl,ke rfl,ke rfl,ke rfl,ke rfl,ke rfl,ke rfl,ke rfl,ke rfl,ke rfl,ke rfl,ke rfl,ke rfl,ke rfl,ke rfl,ke rfl,trivial⟩
 have KV:m=(t).length:=by have:=AJ h6;omega
 subst KV
 refine ac ?_
 refine xS 3 5 6 7 9 14 16 17 18 46 47 50 51 52 rfl ?_
 refine ac ?_
 exact Fin.AO (j+1) ⟨AD4,by omega⟩ ⟨⟨_,rfl,AG j⟩,ke rfl,ke rfl,ke rfl,ke rfl,ke rfl,ke rfl,ke rfl,ke rfl,ke rfl,ke rfl,ke rfl,ke rfl,ke rfl,trivial⟩
 have zW:j=(z2.1).length:=by have:=AJ h5;omega
 subst zW
 refine ac ?_
 refine Jr 3 5 6 7 9 14 16 17 18 46 47 rfl ?_
 refine ac ?_
 refine Tr.ex 100 rfl fun AH4=> ?_
 refine Tr.cn rfl ?_ ?_<;>intro h11 Ty
 refine ap ?_
 refine TO.Dl 0 rfl rfl AB (CB rfl rfl rfl rfl underlying22 Bs Iw z3 (Kb rfl) (Kf rfl) (BC BR (Ka rfl))) (fun v1=> ?_)
 refine ap ?_
 refine wk9 3 5 6 7 9 14 16 46 47 rfl ?_
 refine ac ?_
 exact Fin.Bk (o++[((k:Nat):Int)]) (k+1) v1 (⟨⟨by omega,by simp;omega⟩,by omega⟩) ⟨⟨_,rfl,AG k⟩,⟨_,rfl,BJ DQ⟩,ke rfl,ke rfl,ke rfl,ke rfl,ke rfl,ke rfl,ke rfl,trivial⟩ (fun _ _ h=>h)
 refine a2 ?_
 exact Fin.Bk (o) (k+1) u (⟨⟨by omega,by omega⟩,by omega⟩) ⟨⟨_,rfl,AG k⟩,⟨_,rfl,BJ rfl⟩,ke rfl,ke rfl,ke rfl,ke rfl,ke rfl,ke rfl,ke rfl,trivial⟩ (fun _ _ h=>h)
 have fm:=AJ h4
 refine a2 ?_
 refine Tr.ret (Fin.Bc rfl (AL.tmp rfl (Lr)) (AL.tmp rfl (Lr)) ?_)
 · exact Y7
theorem jV {e:Dn} {l:List Ba} {n:Nat} {s:List Int} {fr OK:Int} (hz:e.sz n) (hn:n≤800000) (hc:∀c∈l,c.C6.fits∧c.C6.small) (Z_:s.length≤4096):BF prog 220 [agg (CM e),Da l,ints s,int fr,int OK] (ES):=by
 refine fo func220 rfl ⟨rfl,rfl⟩ fun M0 w0=> ?_
 have hxz:=fL (l:=l) (s:=s) hz hc
 have hxf:=hxz.fits AA
 have hxg:=hxz.lg
 refine ac ?_
 refine ao ?_
 refine tp rfl (LV (Sa hz hn hc) rfl rfl rfl rfl) ?_
 refine ao ?_
 refine Tl rfl rfl rfl rfl z31 Ia (fun b1=> ?_)
 refine sf 0 11 ⟨rfl,rfl,rfl⟩ rfl rfl rfl rfl ?_
 refine ao ?_
 refine ac ?_
 refine wk [24,11,4,3] rfl ?_
 refine Tr.cn rfl ?_ ?_<;>intro h1 q1
 refine a2 ?_
 · exact BN
 refine a2 ?_
 refine Tr.block (Tr.BE _ (kk [27,11,4,3] rfl) (fun k:Nat=>[(28,int ((k:Nat):Int))]) (fun k:Nat=>k≤((Vy e l s).1.BX).length) (fun k:Nat=>((Vy e l s).1.BX).length-k) 0 (Nat.zero_le _) kz ?_)
 rintro k BT
 refine ac ?_
 refine Tr.seq ?_
 refine Tr.cn rfl ?_ ?_<;>intro h2 q2
 have Ai:k<((Vy e l s).1.BX).length:=AH h2
 obtain ⟨x,Ah⟩:=at_ Ai
 refine a2 ?_
 refine ao ?_
 refine tp rfl (ju (PB hxf) rfl rfl rfl rfl rfl) ?_
 refine TO.ex 36 rfl (fun z1=>TO.fact 36 rfl fun Eh=> ?_)
 refine ao ?_
 refine Tl rfl rfl rfl rfl Jt Fy (fun b2=> ?_)
 refine sf 0 14 ⟨rfl,rfl,rfl⟩ rfl rfl rfl rfl ?_
 refine ao ?_
 · exact Ly
 have BP:k=((Vy e l s).1.BX).length:=by have:=AJ h2;omega
 refine a3 ?_
 · exact BN
theorem UY {a b:Int}  :BF prog 123 [int a,int b] (ES):=by
 refine fo func123 rfl ⟨rfl,rfl⟩ fun M0 w0=> ?_
 · repeat' first|exact Ax _ Lr|refine ac ?_|(refine Ch.cg rfl rfl rfl ?_ ?_<;>intro h q)
theorem Ks {s:List Int} {m:Nat} (hs:∀i∈s,0≤i∧i<(m:Int)) (hm:m≤40):BF prog 219 [ints s] (Cp.ex fun z:Nat=>fact (z<2 ^ m) (int ((z:Nat):Int))):=by
 refine fo func219 rfl ⟨rfl,rfl⟩ fun M0 w0=>(Tr.Cl 0 rfl fun EH=> ?_)
 refine a3 ?_
 refine Tr.block (Tr.Cy _ (kk [7,6] rfl) (fun (z:Nat) (k:Nat)=>[(8,int ((k:Nat):Int)),(3,int ((z:Nat):Int))]) (fun (z:Nat) (k:Nat)=>Hp M0 w0 Fo ([])) (fun (z:Nat) (k:Nat)=>k≤s.length∧z<2 ^ m) (fun (z:Nat) (k:Nat)=>s.length-k) (0) (0)  (⟨Nat.zero_le _,Nat.two_pow_pos m⟩) ⟨kq,kz⟩ (fun _ _ h=>h) ?_)
 rintro z k  ⟨hk0,hz⟩
 refine ac ?_
 refine Tr.seq ?_
 refine Tr.cn rfl ?_ ?_<;>intro h1 q1
 have hk:k<s.length:=AH h1
 obtain ⟨i,hx⟩:=at_ hk
 have hir:=hs i (List.mem_of_getElem? hx)
 refine ac ?_
 refine Tr.seq (Tr.block (Tr.seq (Tr.Al (co rfl (AD rfl underlying51 Bs vq vq AA (AZ hx)) ?_))))
 refine a2 ?_
 refine co rfl (e7 rfl vq vq AA AA) ?_
 refine co rfl (zX (m:=m) rfl vq vq hz (Nat.pow_lt_pow_right AA AA) hm) ?_
 refine a2 ?_
 exact Fin.Cu ((z|||2 ^ i.toNat)) (k+1)  (⟨⟨by omega,Nat.or_lt_two_pow hz (Nat.pow_lt_pow_right AA AA)⟩,by omega⟩) ⟨⟨_,rfl,AG k⟩,kz⟩ (fun _ _ h=>h)
 have fm:=AJ h1
 refine a3 ?_
 · exact Ax _ (BB hz Lr)
abbrev YV:Pr:=Cp.ex fun z:List Int=>fact (z.length≤1000) (ints z)
theorem jW {s:List Int} {k n:Int} (h:∀i∈s,0≤i∧i<n) (hk:0≤k∧k<n):∀i∈EA s k true,0≤i∧i<n:=fun i hi=>by
 rcases DO.1 hi with rfl|hi
 · exact hk
 · exact h i hi
theorem jX {n:Nat}:(List.replicate n (Value.bool false)).map is=((List.replicate n false).map fun x:Bool=>[Cp.bool x]).flatten++[]:=by
 rw [List.map_replicate,List.map_replicate,List.append_nil]
 induction n with
 |zero=>rfl
 |succ n ih=>rw [List.replicate_succ,List.replicate_succ,List.flatten_cons,←ih];rfl
theorem UZ {e:Dn} {l:List Ba} {n:Nat} {so done:List Int} {fr OK:Int} {b N m:Nat} (hz:e.sz n) (hn:n≤800000) (hc:∀c∈l,c.C6.fits∧c.C6.small) (hN:2 ^ l.length=N) (hl:l.length≤10) (hm:so.length+m=l.length) (hdr:∀i∈done,0≤i∧i<((l.length:Nat):Int)) (hdl:done.length≤so.length) (ih:∀m':Nat,m=m'+1→∀so done:List Int,so.length+m'=l.length→(∀i∈done,0≤i∧i<((l.length:Nat):Int))→done.length≤so.length→BS prog 178 [agg (CM e),Da l,ints so,ints done,int fr,int OK,is (Js N b)] (Dy [YV,ES]) (Ed b 4 (fun x:Bool=>[Cp.bool x]) (fun L:List Bool=>L.length=N) []) (fun _=>Ed b 4 (fun x:Bool=>[Cp.bool x]) (fun L:List Bool=>L.length=N) [])):BS prog 178 [agg (CM e),Da l,ints so,ints done,int fr,int OK,is (Js N b)] (Dy [YV,ES]) (Ed b 4 (fun x:Bool=>[Cp.bool x]) (fun L:List Bool=>L.length=N) []) (fun _=>Ed b 4 (fun x:Bool=>[Cp.bool x]) (fun L:List Bool=>L.length=N) []):=by
 refine BS.of func178 rfl rfl Az fun M0 w0 S rs M1 w1=> ?_
 refine ac ?_
 refine Tr.seq (Tr.seq (Tr.KI 0 rfl fun dd1 AD6=> ?_))
 refine ap ?_
 refine tp rfl (Cz (Ks (m:=l.length) hdr AA) rfl rfl) ?_
 refine TO.ex 22 rfl (fun z1=>TO.fact 22 rfl fun Eh=> ?_)
 have hzN:z1<N:=hN ▸ Eh
 refine tp rfl (BL rfl underlying160 Tp (vl rfl) (vl rfl) AA AA) (TO.rd 0 rfl rfl rfl AB (A_ rfl XA (vl rfl) (RZ (g:=(fun x:Bool=>Cp.bool x)) AA)) ?_)
 refine ap ?_
 refine Tr.cn rfl ?_ ?_<;>intro h1 q1
 refine Tr.seq (Tr.Gx (fun L:List Bool=>L.length=N) 0 rfl AD6 ?_)
 refine ac ?_
 refine Tr.ret (Fin.AE (Fin.FC rfl rfl ?_ rfl ?_))
 · exact L1
 · exact BN
 refine ac ?_
 refine Tr.seq (Tr.seq (Tr.Gx (fun L:List Bool=>L.length=N) 0 rfl AD6 ?_))
 refine ac ?_
 refine co rfl (kc5 (jV hz hn hc AA) rfl rfl rfl rfl rfl rfl) ?_
 refine ac ?_
 refine wk [30,7,6,5,4,3,2,1] rfl (Tr.ex 30 rfl fun AIj=> ?_)
 refine Tr.cn rfl ?_ ?_<;>intro h2 q2
 refine ac ?_
 refine wk [35,7,6,5,4,3,2,1] rfl ?_
 refine Tr.cn rfl ?_ ?_<;>intro h3 q3
 refine ac ?_
 refine Tr.ret (Fin.AE (Fin.AE (Fin.FC rfl rfl ?_ rfl ?_)))
 · exact Ax so (BB AA Lr)
 · exact BN
 refine a2 ?_
 refine Tr.block (Tr.M8 _ (kk [38,7,6,5,4,3,2,1] rfl) (fun (k:Nat)=>[(39,int ((k:Nat):Int))]) (fun (k:Nat)=>Hp M0 w0 S (Ed b 4 (fun x:Bool=>[Cp.bool x]) (fun L:List Bool=>L.length=N) []::Ak M1 w1::rs)) (fun (k:Nat)=>k≤l.length) (fun (k:Nat)=>l.length-k) (0)  (Nat.zero_le _) kz (fun _ _ h=>h) ?_)
 rintro k  hk0
 refine ac ?_
 refine Tr.seq ?_
 refine Tr.cn rfl ?_ ?_<;>intro h4 q4
 have hk:k<l.length:=AH h4
 refine a3 ?_
 refine co rfl (CS (Kh) rfl rfl rfl) ?_
 refine ac ?_
 refine wk [44,39,38,16,7,6,5,4,3,2,1] rfl ?_
 refine Tr.cn rfl ?_ ?_<;>intro h5 q5
 refine a2 ?_
 exact Fin.M9 (k+1)  (⟨by omega,by omega⟩) ⟨⟨_,rfl,AG k⟩,kz⟩ (fun _ _ h=>h)
 refine ac ?_
 refine ap ?_
 refine TO.pad ?_
 refine TO.Dl 0 rfl rfl AB (EZ rfl rfl AB rfl underlying22 Bs Iw z3 rfl AB ⟨_,rfl,AQ _⟩ (vl rfl) (by simp only [List.length_append,List.length_map,List.length_cons,List.length_nil];unfold maxLen;omega) (by simp only [List.length_append,List.length_map,List.length_cons,List.length_nil];omega) (Bv BR ⟨_,rfl,DT 1⟩)) (fun v1=> ?_)
 refine ap ?_
 refine wk [39,38,17,16,7,6,5,4,3,2,1] rfl ?_
 refine ap ?_
 refine TO.Dl 0 rfl rfl AB (CB rfl rfl rfl rfl underlying22 Bs Iw z3 (Kb rfl) (Kf rfl) (BC BR (Ka rfl))) (fun v2=> ?_)
 refine ap ?_
 refine wk [39,38,17,16,7,6,5,4,3,2,1] rfl (Tr.seq (Tr.rx ?_))
 refine ay ?_
 refine xo rfl (fun _=>LV (HA AA) rfl rfl rfl rfl) ?_
 refine ay ?_
 refine Cx.ef 1 rfl rfl AB (Aj rfl rfl AB rfl (ih (m-1) AA (so++[((k:Nat):Int)]) (EA done ((k:Nat):Int) true) CF (jW hdr AA) (by have:=OR done ((k:Nat):Int) true;simp;omega)) ⟨ke rfl,ke rfl,⟨_,rfl,Pr.le_trans (As _ _) (Pr.le_of_eq (by show _=slice 1 ((so++[((k:Nat):Int)]).map fun n=>[int n]);rw [List.nil_append,List.map_append];rfl))⟩,kz⟩) ?_
 refine ay ?_
 refine Cx.nil ⟨by kernel_rfl,?_⟩
 refine BI.done al3 (Fin.go (Tr.drop 0 (wk [39,38,19,18,7,6,5,4,3,2,1] rfl ?_)))
 refine ac ?_
 refine Tr.ex 64 rfl fun AIk=> ?_
 refine Tr.cn rfl ?_ ?_<;>intro h6 q6
 refine ac ?_
 refine wk [15,14] rfl (Tr.ret (Fin.AR (Fin.AE (Fin.AE (Fin.AR (Fin.AE (Fin.FC rfl rfl ?_ rfl ?_)))))))
 · exact Lr
 · exact BN
 refine a2 ?_
 exact Fin.M9 (k+1)  (⟨by omega,by omega⟩) ⟨⟨_,rfl,AG k⟩,kz⟩ (fun _ _ h=>h)
 have fm:=AJ h4
 refine ac ?_
 refine Tr.seq (Tr.KI 0 rfl fun dd2 AHS=> ?_)
 refine ap ?_
 refine tp rfl (Cz (Ks (m:=l.length) hdr AA) rfl rfl) ?_
 refine TO.ex 69 rfl (fun z2=>TO.fact 69 rfl fun I6=> ?_)
 have hzN:z2<N:=hN ▸ I6
 refine tp rfl (BL rfl underlying160 Tp (vl rfl) (vl rfl) AA AA) ?_
 refine TO.DG 0 rfl rfl (Aw rfl rfl (vl rfl) (Vo rfl) Tp rfl Qv (GP (f:=fun x:Bool=>[Cp.bool x]) (x:=true) (fun _=>rfl) AA)) ?_
 refine ap ?_
 refine Tr.weak [] trivial (Tr.seq ?_)
 refine Tr.Gx (fun L:List Bool=>L.length=N) 0 rfl (by rw [List.length_set];exact AHS) ?_
 refine ac ?_
 refine Tr.ret (Fin.FC rfl rfl ?_ rfl ?_)
 · exact L1
 · exact BN
 refine ac ?_
 refine Tr.seq (Tr.KI 0 rfl fun dd3 AHT=> ?_)
 refine ap ?_
 refine tp rfl (Cz (Ks (m:=l.length) hdr AA) rfl rfl) ?_
 refine TO.ex 69 rfl (fun z3=>TO.fact 69 rfl fun hz3=> ?_)
 have hzN:z3<N:=hN ▸ hz3
 refine tp rfl (BL rfl underlying160 Tp (vl rfl) (vl rfl) AA AA) ?_
 refine TO.DG 0 rfl rfl (Aw rfl rfl (vl rfl) (Vo rfl) Tp rfl Qv (GP (f:=fun x:Bool=>[Cp.bool x]) (x:=true) (fun _=>rfl) AA)) ?_
 refine ap ?_
 refine Tr.weak [] trivial (Tr.seq ?_)
 refine Tr.Gx (fun L:List Bool=>L.length=N) 0 rfl (by rw [List.length_set];exact AHT) ?_
 refine ac ?_
 refine Tr.ret (Fin.FC rfl rfl ?_ rfl ?_)
 · exact L1
 · exact BN
theorem YW {e:Dn} {l:List Ba} {n:Nat} {fr OK:Int} {b N:Nat} (hz:e.sz n) (hn:n≤800000) (hc:∀c∈l,c.C6.fits∧c.C6.small) (hN:2 ^ l.length=N) (hl:l.length≤10):∀(m:Nat) {so done:List Int},so.length+m=l.length→(∀i∈done,0≤i∧i<((l.length:Nat):Int))→done.length≤so.length→BS Tryz.prog 178 [agg (CM e),Da l,ints so,ints done,int fr,int OK,is (Js N b)] (Dy [YV,ES]) (Ed b 4 (fun x:Bool=>[Cp.bool x]) (fun L:List Bool=>L.length=N) []) (fun _=>Ed b 4 (fun x:Bool=>[Cp.bool x]) (fun L:List Bool=>L.length=N) [])
 |0,so,done,h1,h2,h3=>UZ hz hn hc hN hl h1 h2 h3 (fun m' h=>absurd h AA)
 |m+1,so,done,h1,h2,h3=>UZ hz hn hc hN hl h1 h2 h3 (fun m' h so' done' g1 g2 g3=>by
  obtain rfl:m'=m:=by omega
  exact YW hz hn hc hN hl m' g1 g2 g3)
theorem TN {e:Dn} {l:List Ba} {n:Nat} {fr OK:Int} (hz:e.sz n) (hn:n≤800000) (hc:∀c∈l,c.C6.fits∧c.C6.small)  :BF prog 125 [agg (CM e),Da l,int fr,int OK] (Dy [YV,anyI]):=by
 refine fo func125 rfl ⟨rfl,rfl⟩ fun M0 w0=>(Tr.Cl 1 rfl fun F0=> ?_)
 have hf:=hz.fits AA
 refine a2 ?_
 refine co rfl (Cz (D7 hf) rfl rfl) ?_
 refine an ?_ ?_<;>intro h1 q1
 refine ac ?_
 refine Tr.ret (Fin.AE (Fin.D3 rfl (Bt.EB _ _) rfl ?_ rfl ?_))
 · exact L1
 · exact BN
 refine ac ?_
 refine an ?_ ?_<;>intro h2 q2
 refine ac ?_
 refine Tr.ret (Fin.AE (Fin.D3 rfl (Bt.EB _ _) rfl ?_ rfl ?_))
 · exact L1
 · exact BN
 have AD7:l.length≤10:=by have:=q2;omega
 obtain ⟨N,hN⟩:∃N,2 ^ l.length=N:=⟨_,rfl⟩
 have hN2:N≤1024:=by have:=Nat.pow_le_pow_right (n:=2) AA AD7;omega
 refine a2 ?_
 refine co rfl (CS (UY) rfl rfl rfl) (co rfl (JZ rfl vq) ?_)
 refine ac ?_
 refine Tr.ex 22 rfl fun AIl=> ?_
 refine Tr.cn rfl ?_ ?_<;>intro h3 q3
 refine ac ?_
 refine wk [9,8] rfl (Tr.ret (Fin.AE (Fin.D3 rfl (Bt.EB _ _) rfl ?_ rfl ?_)))
 · exact L1
 · exact BN
 refine ac ?_
 refine wk [4,3,2,1] rfl ?_
 refine ap ?_
 refine tp rfl (Ae.le (e7 rfl vq vq AA AA) (int_eq (b:=((N:Nat):Int)) (by rw [Int.toNat_natCast,hN]))) ?_
 refine TO.VK rfl rfl AB rfl underlying160 Tp by4 z4 rfl vq vq GF AA (fun b1=> ?_)
 refine ap ?_
 refine Tr.seq (Tr.eqC 0 (((List.replicate N false).map fun x:Bool=>[Cp.bool x]).flatten++[]) rfl jX (Tr.Gx (fun L:List Bool=>L.length=N) 0 rfl List.length_replicate ?_))
 refine ap ?_
 refine TO.GK 0 rfl rfl AB (Aj rfl rfl AB rfl (YW (so:=[]) (done:=[]) hz hn hc hN AD7 l.length AU (fun i hi=>by cases hi) (Nat.le_refl _)) ⟨kq,kq,⟨_,rfl,AQ 1⟩,⟨_,rfl,AQ 1⟩,kz⟩) ?_
 refine ap ?_
 refine wk [12,11] rfl (Tr.seq (Tr.seq (Tr.ex 12 rfl fun x12=> ?_)))
 refine an ?_ ?_<;>intro h4 q4
 refine ac ?_
 refine Tr.ret (Fin.AE (Fin.D3 rfl (Bt.EB _ _) rfl ?_ rfl ?_))
 · exact L1
 · exact BN
 refine a2 ?_
 refine Tr.ret (Fin.D3 rfl (Bt.EB _ _) rfl ?_ rfl ?_)
 · exact Lr
 · exact BN
structure Se (m:Nat) (l:List Ba) (r:List BH) (d:List Int):Prop where
 fit:Nn m l r d
 l7:l.length≤7
 ok:∀c∈l,c.C6.fits∧c.C6.small
 rl:r.length≤1000
abbrev fM (m:Nat):Pr:=Cp.ex fun z:List Ba×List BH×List Int=>fact (Se m z.1 z.2.1 z.2.2) (Jn z.1 z.2.1 z.2.2)
theorem jY {m:Nat}:Se m [] [] []:=⟨⟨by decide,rfl,by decide,fun j y c h=>absurd h AU⟩,by decide,(fun c h=>by cases h),by decide⟩
theorem FH {m:Nat}:Pr.le (agg [is (.slice none 0 0),is (.slice none 0 0),is (.slice none 0 0)]) (fM m):=Ax ([],[],[]) (BB jY (BU ⟨AQ 8,AQ 2,AQ 1,trivial⟩))
theorem vm {e:Dn} {c:BW} {l:List Ba} {r:List BH} {fr:Int}:(∀x∈N4 e c l r fr,x∈l)∧(N4 e c l r fr).length≤l.length∧(Qy e c l r fr).length≤r.length:=by
 unfold N4 Qy
 by_cases h:Kn e c l r fr=0
 · rw [if_pos h,if_pos h];exact ⟨fun x h=>h,Nat.le_refl _,Nat.le_refl _⟩
 · rw [if_neg h,if_neg h];exact ⟨(fun x h=>by cases h),Nat.zero_le _,Nat.zero_le _⟩
abbrev AD8:Pr:=Cp.ex fun z:List BH=>fact (z.length≤1000) (reqs z)
theorem H9 {e:Dn} {c:BW} {l:List Ba} {r:List BH} {n:Nat} {fr OK:Int} (hz:e.sz n) (hn:n≤800000) (hc:∀x∈l,x.C6.fits∧x.C6.small) (h7:l.length≤7) (hrl:r.length≤1000):BF prog 124 [agg (CM e),MM c,Da l,reqs r,Nk,SW,WL,int fr,int OK] (Dy [fM e.Bu.length,qo,ES]):=by
 refine fo func124 rfl ⟨rfl,rfl⟩ fun M0 w0=> ?_
 have hf:=hz.fits AA
 obtain ⟨hs1,S8,hs3⟩:=vm (e:=e) (c:=c) (l:=l) (r:=r) (fr:=fr)
 have hcs:∀x∈N4 e c l r fr,x.C6.fits∧x.C6.small:=fun x hx=>hc x (hs1 x hx)
 refine Tr.seq (Tr.Ap ?_)
 iterate 4 refine tp rfl (Bh rfl C3) ?_
 refine Tl rfl rfl rfl rfl z35 FE (fun b1=> ?_)
 refine Tl rfl rfl rfl rfl z107 Ek (fun b2=> ?_)
 refine ao ?_
 refine ao ?_
 refine tp rfl (kc5 (TL (e:=e) (c:=c) (l:=l) (r:=r) (fr:=fr) hf (fun x hx=>(hc x hx).2) AA) rfl rfl rfl rfl rfl rfl) ?_
 refine ao ?_
 refine Tl rfl rfl rfl rfl z35 FE (fun b3=> ?_)
 refine sf 0 21 ⟨rfl,rfl,rfl⟩ rfl rfl rfl rfl ?_
 refine ao ?_
 refine wk [22,21,19,18,15,13,9,8,7,5] rfl ?_
 refine an ?_ ?_<;>intro h1 q1
 refine ao ?_
 refine TO.AK 1 rfl rfl rfl vq C3 rfl CL rfl rfl (TO.AK 0 rfl rfl rfl vq C3 rfl Bm rfl rfl ?_)
 refine ao ?_
 refine wk [20,19,18] rfl (Tr.ret (Fin.AE (Fin.FU rfl (AL.cell 1 rfl rfl C4 CL rfl Lr) (AL.cell 0 rfl rfl CW Bm rfl Lr) (AL.tmp rfl Lr) ?_)))
 refine Ay ⟨?_,?_,?_,trivial⟩
 · exact FH
 · exact D9
 · exact BN
 refine ac ?_
 refine ao ?_
 refine tp rfl (ju (jU (l:=(N4 e c l r fr)) (r:=(Qy e c l r fr)) (d:=(Uw e c l r fr)) hz hn hcs AA) rfl rfl rfl rfl rfl) ?_
 refine TO.ex 43 rfl (fun z1=>TO.fact 43 rfl fun Eh=> ?_)
 refine ao ?_
 refine Tl rfl rfl rfl rfl z107 Ek (fun b4=> ?_)
 refine sf 0 23 ⟨rfl,rfl,rfl⟩ rfl rfl rfl rfl ?_
 refine ao ?_
 refine wk [23,22,21,19,18,15,13,9,5] rfl ?_
 refine an ?_ ?_<;>intro h2 q2
 refine ao ?_
 refine TO.AK 1 rfl rfl rfl vq C3 rfl CL rfl rfl (TO.AK 0 rfl rfl rfl vq C3 rfl Bm rfl rfl ?_)
 refine ao ?_
 refine wk [20,19,18] rfl (Tr.ret (Fin.AE (Fin.FU rfl (AL.cell 1 rfl rfl C4 CL rfl Lr) (AL.cell 0 rfl rfl CW Bm rfl Lr) (AL.tmp rfl Lr) ?_)))
 refine Ay ⟨?_,?_,?_,trivial⟩
 · exact FH
 · exact D9
 · exact BN
 have hz0:z1=0:=by have:=q2;omega
 obtain ⟨_,hfp⟩:=Eh hz0
 have hpq:Se e.Bu.length (N4 e c l r fr) (Qy e c l r fr) (Uw e c l r fr):=⟨hfp,by omega,hcs,by omega⟩
 refine ac ?_
 refine ao ?_
 refine tp rfl (kc5 (bG (l:=(N4 e c l r fr)) (r:=(Qy e c l r fr)) (d:=(Uw e c l r fr)) hz hn hcs AA) rfl rfl rfl rfl rfl rfl) ?_
 refine TO.ex 56 rfl (fun z2=>TO.fact 56 rfl fun I6=> ?_)
 refine ao ?_
 refine wk [24,23,22,21,19,18] rfl (Tr.seq ?_)
 by_cases I6:z2.2=0
 refine Tr.rx ?_
 refine ay ?_
 refine Cx.yes rfl rfl rfl Ho rfl AB (fun _=>BQ rfl vq) (Cx.yes rfl rfl rfl Ho rfl AB (fun _=>CJ rfl underlying22 vq) (Cx.yes rfl rfl rfl Ho rfl AB (fun _=>ki rfl rfl rfl rfl) (xo rfl (fun _=>K7 rfl vq Ho vq) ?_)))
 refine ay ?_
 refine Cx.nil ⟨by kernel_rfl,?_⟩
 refine BI.done XU (Fin.go (wk [20,19,18] rfl (Tr.ret (Fin.FU rfl (AL.cell 1 rfl rfl C4 CL rfl Lr) (AL.cell 0 rfl rfl CW Bm rfl Lr) (AL.tmp rfl Lr) ?_))))
 refine Ay ⟨?_,?_,?_,trivial⟩
 · exact b_
 · exact Lr
 · exact BN
 refine Tr.rx ?_
 refine ay ?_
 refine Cx.no rfl rfl rfl (Bg Ho) rfl AB (Cx.no rfl rfl rfl (Bg Ho) rfl AB (Cx.no rfl rfl rfl (Bg Ho) rfl AB (xo rfl (fun _=>K8 rfl vq Ho vq) ?_)))
 refine ay ?_
 refine Cx.nil ⟨by kernel_rfl,?_⟩
 refine BI.done XU (Fin.go (wk [20,19,18] rfl (Tr.ret (Fin.FU rfl (AL.cell 1 rfl rfl C4 CL rfl Lr) (AL.cell 0 rfl rfl CW Bm rfl Lr) (AL.tmp rfl Lr) ?_))))
 refine Ay ⟨?_,?_,?_,trivial⟩
 · exact b_
 · exact Lr
 · exact BN
theorem Kt {o:List Int} (ho:o.length≤1000):BF Tryz.prog 126 [ints o] AD8:=(aj ho).le (fun _ _ _ h=>h) (fun M w v ⟨z,hz,h⟩=>⟨z,Nat.le_trans hz ho,h⟩)
theorem Ua {n:Nat} (hn:n≤1000):BF Tryz.prog 127 [int ((n:Nat):Int)] YV:=(qj hn).le (fun _ _ _ h=>h) (fun M w v ⟨z,hz,h⟩=>⟨z,Nat.le_trans hz hn,h⟩)
theorem qp {c:BW} {l:List Ba} (h:Eg c l=0):∀x∈l,0≤x.AY∧x.AY<(c.JP.length:Nat):=fun x hx=>by
 have hb:=(SO h).2 x hx
 unfold PK at hb
 rw [Bool.or_eq_false_iff,decide_eq_false_iff_not,decide_eq_false_iff_not] at hb
 omega
theorem qq {e:Dn} {l:List Ba} (h:l.length≤24):(vi e l).length≤1000:=by
 have h1:=Sc e l l.length
 have h2:=Nat.mul_le_mul h h
 unfold vi;omega
theorem jZ {e:Dn} {c:BW} {l:List Ba} {n:Nat} {fr OK:Int} (hz:e.sz n) (hn:n≤800000) (hc:∀x∈l,x.C6.fits∧x.C6.small) (h7:l.length≤7):BF prog 66 [agg (CM e),MM c,Da l,Nk,SW,WL,int fr,int OK] (Dy [fM e.Bu.length,qo,anyI]):=by
 refine BF.of func66 rfl rfl Az fun M0 w0=> ?_
 have hf:=hz.fits AA
 refine Tr.seq (Tr.Ap ?_)
 iterate 4 refine tp rfl (Bh rfl (Va rfl)) ?_
 refine Tl rfl rfl rfl rfl z35 FE (fun b1=> ?_)
 refine Tl rfl rfl rfl rfl z107 Ek (fun b2=> ?_)
 refine tm rfl (TO.nil (Fin.go (Tr.seq (Tr.seq (Tr.Al (co rfl (AM rfl Dg De (vl rfl) rfl rfl) (co rfl (AV rfl (D7 hf) ⟨ke rfl,trivial⟩) (co rfl (ki rfl rfl rfl rfl) (Ch.nil (Fin.go ?_))))))))))
 refine Tr.cn rfl ?_ ?_<;>intro h1 q1
 refine Tr.seq (Tr.Ap (tp rfl (An (rows:=[]) rfl L8 FE trivial rfl) (tp rfl (An (rows:=[]) rfl Ji Ek trivial rfl) (TO.AK 1 rfl rfl rfl (vl rfl) (Va rfl) rfl CL rfl rfl (TO.AK 0 rfl rfl rfl (vl rfl) (Va rfl) rfl Bm rfl rfl (tm rfl (TO.nil (Fin.go (Gk 16 17 18 rfl (Tr.ret (Fin.AE (Fin.FU rfl (AL.cell 1 rfl rfl C4 CL rfl (Lr)) (AL.cell 0 rfl rfl CW Bm rfl (Lr)) (AL.tmp rfl (Lr)) ?_))))))))))))
 refine Ay ⟨?_,?_,?_,trivial⟩
 · exact FH
 · exact D9
 · exact C9
 have VY:Fc e=true:=by cases h_:Fc e with|true=>rfl|false=>exact absurd h1 Mo
 refine Tr.skip (Fin.go (Tr.seq (Tr.seq (Tr.Al (co rfl (AM rfl Ou XC (vl rfl) rfl rfl) (co rfl (N_ rfl Gv rfl rfl) (co rfl (F5 rfl ND rfl) (co rfl (CJ rfl underlying27 (vl rfl)) ?_))))))))
 refine co rfl (AV rfl (KZ (c:=c) (m:=((e.Bu.length:Nat):Int))) ⟨ke rfl,ke rfl,trivial⟩) ?_
 refine cm rfl (Ch.nil (Fin.go (Jr 2 4 6 7 8 9 11 13 16 17 19 rfl (Tr.seq (Tr.Al (cm rfl (co rfl (ki rfl rfl rfl rfl) (Ch.nil (Fin.go ?_)))))))))
 refine Tr.cn rfl ?_ ?_<;>intro h2 q2
 refine Tr.seq (Tr.Ap (tp rfl (An (rows:=[]) rfl L8 FE trivial rfl) (tp rfl (An (rows:=[]) rfl Ji Ek trivial rfl) (tm rfl (TO.AK 1 rfl rfl rfl (vl rfl) (Va rfl) rfl CL rfl rfl (TO.AK 0 rfl rfl rfl (vl rfl) (Va rfl) rfl Bm rfl rfl (tm rfl (TO.nil (Fin.go (Gk 16 17 18 rfl (Tr.ret (Fin.AE (Fin.FU rfl (AL.cell 1 rfl rfl C4 CL rfl (Lr)) (AL.cell 0 rfl rfl CW Bm rfl (Lr)) (AL.tmp rfl (Lr)) ?_)))))))))))))
 refine Ay ⟨?_,?_,?_,trivial⟩
 · exact FH
 · exact D9
 · exact C9
 have hck:c.check ((e.Bu.length:Nat):Int)=0:=by simpa using h2
 obtain ⟨how,htl,hth⟩:=UM hck
 refine Tr.skip (Fin.go (Tr.seq (Tr.seq (Tr.Al (co rfl (AM rfl Ou XC (vl rfl) rfl rfl) (cm rfl ?_))))))
 refine co rfl (AV rfl (Sd (c:=c) (l:=l) how) ⟨ke rfl,ke rfl,trivial⟩) ?_
 refine cm rfl (co rfl (Am rfl (vl rfl) rfl) (co rfl (Am rfl (vl rfl) rfl) (cm rfl (cm rfl (Ch.nil (Fin.go (Jr 2 4 6 7 8 9 11 13 16 17 21 rfl (Tr.seq (Tr.Al (cm rfl (co rfl (ki rfl rfl rfl rfl) (Ch.nil (Fin.go ?_)))))))))))))
 refine Tr.cn rfl ?_ ?_<;>intro h3 q3
 refine Tr.seq (Tr.Ap (tp rfl (An (rows:=[]) rfl L8 FE trivial rfl) (tp rfl (An (rows:=[]) rfl Ji Ek trivial rfl) (tm rfl (TO.AK 1 rfl rfl rfl (vl rfl) (Va rfl) rfl CL rfl rfl (TO.AK 0 rfl rfl rfl (vl rfl) (Va rfl) rfl Bm rfl rfl (tm rfl (TO.nil (Fin.go (Gk 16 17 18 rfl (Tr.ret (Fin.AE (Fin.FU rfl (AL.cell 1 rfl rfl C4 CL rfl (Lr)) (AL.cell 0 rfl rfl CW Bm rfl (Lr)) (AL.tmp rfl (Lr)) ?_)))))))))))))
 refine Ay ⟨?_,?_,?_,trivial⟩
 · exact FH
 · exact D9
 · exact C9
 have hep:=qp (c:=c) (l:=l) K5
 refine Tr.skip (Fin.go (Tr.seq (Tr.seq (Tr.Al (co rfl (AM rfl OH Tq (vl rfl) rfl rfl) (cm rfl (co rfl (AV rfl (Ko) ⟨ke rfl,ke rfl,ke rfl,trivial⟩) (cm rfl (Ch.nil (Fin.go (Jr 2 4 6 7 8 9 11 13 16 17 22 rfl (Tr.seq (Tr.ex 22 rfl fun x22=>(Tr.Al ?_))))))))))))))
 refine cm rfl (co rfl (ki rfl rfl rfl rfl) (Ch.nil (Fin.go ?_)))
 refine Tr.cn rfl ?_ ?_<;>intro h4 q4
 refine Tr.seq (Tr.Ap (tp rfl (An (rows:=[]) rfl L8 FE trivial rfl) (tp rfl (An (rows:=[]) rfl Ji Ek trivial rfl) (tm rfl (TO.AK 1 rfl rfl rfl (vl rfl) (Va rfl) rfl CL rfl rfl (TO.AK 0 rfl rfl rfl (vl rfl) (Va rfl) rfl Bm rfl rfl (tm rfl (TO.nil (Fin.go (Gk 16 17 18 rfl (Tr.ret (Fin.AE (Fin.FU rfl (AL.cell 1 rfl rfl C4 CL rfl (Lr)) (AL.cell 0 rfl rfl CW Bm rfl (Lr)) (AL.tmp rfl (Lr)) ?_)))))))))))))
 refine Ay ⟨?_,?_,?_,trivial⟩
 · exact FH
 · exact D9
 · exact C9
 refine Tr.skip (Fin.go (Tr.seq (Tr.seq (Tr.Al (cm rfl (cm rfl (co rfl (AV rfl (UY) ⟨ke rfl,ke rfl,trivial⟩) (co rfl (JZ rfl (vl rfl)) (Ch.nil (Fin.go (Jr 2 4 6 7 8 9 11 13 16 17 73 rfl (Tr.ex 73 rfl fun AIm=> ?_))))))))))))
 refine Tr.cn rfl ?_ ?_<;>intro h5 q5
 refine Tr.seq (Tr.Ap (tp rfl (An (rows:=[]) rfl L8 FE trivial rfl) (tp rfl (An (rows:=[]) rfl Ji Ek trivial rfl) (TO.AK 1 rfl rfl rfl (vl rfl) (Va rfl) rfl CL rfl rfl (TO.AK 0 rfl rfl rfl (vl rfl) (Va rfl) rfl Bm rfl rfl (tm rfl (TO.nil (Fin.go (Gk 16 17 18 rfl (Tr.ret (Fin.AE (Fin.FU rfl (AL.cell 1 rfl rfl C4 CL rfl (Lr)) (AL.cell 0 rfl rfl CW Bm rfl (Lr)) (AL.tmp rfl (Lr)) ?_))))))))))))
 refine Ay ⟨?_,?_,?_,trivial⟩
 · exact FH
 · exact D9
 · exact C9
 refine Tr.skip (Fin.go (Tr.seq (Tr.Al (co rfl (AM rfl Dg De (vl rfl) rfl rfl) (cm rfl ?_)))))
 refine co rfl (AV rfl (YR hf VY AA (fun x hx=>by have:=hep x hx;omega)) ⟨ke rfl,ke rfl,trivial⟩) ?_
 refine cm rfl (co rfl (Am rfl (vl rfl) rfl) (co rfl (Am rfl (vl rfl) rfl) (cm rfl (cm rfl (Ch.nil (Fin.go (Jr 2 4 6 7 8 9 11 13 16 17 23 rfl (Tr.seq (Tr.seq (Tr.Ap (tp rfl (AM rfl Dg De (vl rfl) rfl rfl) (tp rfl (AM rfl Ou XC (vl rfl) rfl rfl) (tm rfl ?_)))))))))))))
 refine tm rfl (tp rfl (AM rfl OH Tq (vl rfl) rfl rfl) (tm rfl (tp rfl (AM rfl RI XD (vl rfl) rfl rfl) (tm rfl (tm rfl ?_)))))
 refine tp rfl (AV rfl (H9 (e:=e) (c:=c) (l:=l) (r:=vi e l) hz hn hc AA (qq AA)) ⟨ke rfl,ke rfl,ke rfl,ke rfl,ke rfl,ke rfl,ke rfl,ke rfl,ke rfl,trivial⟩) ?_
 refine tm rfl (tp rfl (Am rfl (vl rfl) rfl) ?_)
 refine TO.ex 93 rfl (fun p1=>TO.fact 93 rfl fun P0=> ?_)
 refine tp rfl (Am rfl (vl rfl) rfl) (tp rfl (Am rfl (vl rfl) rfl) ?_)
 refine Tl rfl rfl rfl rfl z35 FE (fun b3=> ?_)
 refine Tl rfl rfl rfl rfl z107 Ek (fun b4=> ?_)
 refine TO.AK 1 rfl rfl rfl (vl rfl) (Va rfl) rfl CL rfl rfl (TO.freeze 1 25 rfl rfl (TO.AK 0 rfl rfl rfl (vl rfl) (Va rfl) rfl Bm rfl rfl (TO.freeze 0 26 rfl rfl (tm rfl (TO.nil (Fin.go (r7 2 4 6 7 8 9 11 13 16 17 25 26 27 rfl (Tr.seq (Tr.Al (cm rfl (Ch.nil (Fin.go (r7 2 4 6 7 8 9 11 13 16 17 25 26 96 rfl (Tr.ex 96 rfl fun AIn=> ?_))))))))))))))
 refine Tr.cn rfl ?_ ?_<;>intro h6 q6
 refine Tr.seq (Tr.GI mixed [none,none,some (0,1,true,0),some (0,0,true,0),none] BV (xo rfl (fun _=>AM rfl C4 CL (vl rfl) rfl rfl) (xo rfl (fun _=>AM rfl CW Bm (vl rfl) rfl rfl) (Cx.DG 1 rfl rfl (Aw rfl rfl (vl rfl) (Va rfl) CL rfl Az rfl) (Cx.DG 0 rfl rfl (Aw rfl rfl (vl rfl) (Va rfl) Bm rfl Az rfl) (xm rfl ?_))))))
 refine Cx.nil ⟨rfl,?_⟩
 refine BI.done (At.cons (At.cons (At.map _))) (Fin.go (Gk 16 17 18 rfl (Tr.ret (Fin.AE (Fin.FU rfl (AL.cell 1 rfl rfl C4 CL rfl (Lr)) (AL.cell 0 rfl rfl CW Bm rfl (Lr)) (AL.tmp rfl (Lr)) ?_)))))
 refine Ay ⟨?_,?_,?_,trivial⟩
 · exact Pj
 · exact Lr
 · exact C9
 refine Tr.skip (Fin.go (VH 2 4 6 7 8 9 11 13 16 17 rfl (Tr.seq (Tr.seq (Tr.Al (cm rfl (co rfl (CJ rfl underlying32 (vl rfl)) (co rfl (ki rfl rfl rfl rfl) (Ch.nil (Fin.go ?_))))))))))
 refine Tr.cn rfl ?_ ?_<;>intro h7 q7
 refine Tr.seq (Tr.Ap (tp rfl (An (rows:=[]) rfl L8 FE trivial rfl) (tp rfl (An (rows:=[]) rfl Ji Ek trivial rfl) (TO.AK 1 rfl rfl rfl (vl rfl) (Va rfl) rfl CL rfl rfl (TO.AK 0 rfl rfl rfl (vl rfl) (Va rfl) rfl Bm rfl rfl (tm rfl (TO.nil (Fin.go (Gk 16 17 18 rfl (Tr.ret (Fin.AE (Fin.FU rfl (AL.cell 1 rfl rfl C4 CL rfl (Lr)) (AL.cell 0 rfl rfl CW Bm rfl (Lr)) (AL.tmp rfl (Lr)) ?_))))))))))))
 refine Ay ⟨?_,?_,?_,trivial⟩
 · exact FH
 · exact D9
 · exact C9
 refine Tr.skip (Fin.go (Tr.seq (Tr.seq (Tr.Al (co rfl (AM rfl Dg De (vl rfl) rfl rfl) (cm rfl (cm rfl (cm rfl (co rfl (AV rfl (TN hz hn hc) ⟨ke rfl,ke rfl,ke rfl,ke rfl,trivial⟩) (cm rfl (co rfl (Am rfl (vl rfl) rfl) (co rfl (Am rfl (vl rfl) rfl) (cm rfl ?_)))))))))))))
 refine cm rfl (Ch.nil (Fin.go (ABT 2 4 6 7 8 9 11 13 16 17 28 29 rfl (Tr.seq (Tr.ex 29 rfl fun x29=>(Tr.Al (cm rfl (co rfl (ki rfl rfl rfl rfl) (Ch.nil (Fin.go (ABT 2 4 6 7 8 9 11 13 16 17 28 113 rfl ?_)))))))))))
 refine Tr.cn rfl ?_ ?_<;>intro h8 q8
 refine Tr.seq (Tr.ex 28 rfl fun sq=>(Tr.fact 28 rfl fun hsq=>(Tr.pad (Tr.pad (Tr.GI mixed [none,none,none,none,none,none,none,none,none,none,none,none,none,none,none,some (0,0,true,30),some (0,1,true,31),some (30,0,true,30),some (31,1,true,31),none] BV (xo rfl (fun _=>AM rfl Dg De (vl rfl) rfl rfl) (xo rfl (fun _=>AM rfl Ou XC (vl rfl) rfl rfl) (xm rfl (xm rfl (xo rfl (fun _=>AV rfl (Kt hsq) ⟨ke rfl,trivial⟩) (xo rfl (fun _=>AM rfl OH Tq (vl rfl) rfl rfl) (xm rfl (xo rfl (fun _=>AM rfl RI XD (vl rfl) rfl rfl) ?_)))))))))))))
 refine xm rfl (xm rfl ?_)
 refine xo rfl (fun _=>AV rfl (BF.pz [agg (CM e),MM c,Da l] ([]:List BH) AU fun z hz_=>H9 (e:=e) (c:=c) (l:=l) (r:=z) hz hn hc AA hz_) ⟨ke rfl,ke rfl,ke rfl,ke rfl,ke rfl,ke rfl,ke rfl,ke rfl,ke rfl,trivial⟩) ?_
 refine xm rfl (xo rfl (fun _=>Am rfl (vl rfl) rfl) (xo rfl (fun _=>Am rfl (vl rfl) rfl) (xo rfl (fun _=>Am rfl (vl rfl) rfl) (Cx.ef 0 rfl rfl AB (CA rfl rfl AB rfl z35 FE) (Cx.ef 1 rfl rfl AB (CA rfl rfl AB rfl z107 Ek) (Cx.DG 0 rfl rfl (LN (f:=fun z:List Ba×List BH×List Int=>[Da z.1,reqs z.2.1,ints z.2.2]) (φ:=fun z:List Ba×List BH×List Int=>Se e.Bu.length z.1 z.2.1 z.2.2) rfl rfl rfl AB rfl rfl CL (fun _=>rfl) rfl) (Cx.DG 1 rfl rfl (Cc rfl rfl rfl rfl (Va rfl) Bm rfl rfl) (xm rfl ?_))))))))
 refine Cx.nil ⟨rfl,?_⟩
 refine BI.open_ 0 30 rfl rfl (fun v1=> ?_)
 refine BI.open_ 1 31 rfl rfl (fun v2=> ?_)
 refine BI.done (At.cons (At.cons (At.cons (At.cons (At.map _))))) (Fin.Le 30 0 _ rfl rfl (fun _=>rfl) (fun b5=> ?_))
 refine Fin.e_ 0 rfl (fun pe1 AD9=> ?_)
 refine Fin.Le 31 1 _ rfl rfl (fun _=>rfl) (fun b6=> ?_)
 refine Fin.go (r7 2 4 6 7 8 9 11 13 16 17 30 31 32 rfl (Tr.seq (Tr.Al (cm rfl (Ch.nil (Fin.go (r7 2 4 6 7 8 9 11 13 16 17 30 31 129 rfl (Tr.ex 129 rfl fun AH5=> ?_))))))))
 refine Tr.cn rfl ?_ ?_<;>intro h9 q9
 refine Tr.seq (Tr.GI mixed [some (0,0,false,0),some (0,1,false,0),some (0,3,true,0),some (0,2,true,0),none] BV (IZ 0 rfl rfl (B4 rfl C4 CL (vl rfl) rfl rfl) (IZ 1 rfl rfl (B4 rfl CW Bm (vl rfl) rfl rfl) (Cx.DG 3 rfl rfl (Aw rfl rfl (vl rfl) (Va rfl) CL rfl Az rfl) (Cx.DG 2 rfl rfl (Aw rfl rfl (vl rfl) (Va rfl) Bm rfl Az rfl) (xm rfl ?_))))))
 refine Cx.nil ⟨rfl,?_⟩
 refine BI.done (At.cons (At.cons (At.cons (At.cons (At.map _))))) (Fin.go (Tr.drop 0 (Tr.drop 0 (Gk 16 17 18 rfl (Tr.ret (Fin.AE (Fin.FU rfl (AL.cell 1 rfl rfl C4 CL rfl (Lr)) (AL.cell 0 rfl rfl CW Bm rfl (Lr)) (AL.tmp rfl (Lr)) ?_)))))))
 refine Ay ⟨?_,?_,?_,trivial⟩
 · exact Pj
 · exact Lr
 · exact C9
 refine Tr.skip (Fin.go (Tr.drop 0 (Tr.drop 0 (VH 2 4 6 7 8 9 11 13 16 17 rfl (Tr.seq (Tr.seq (Tr.pad (Tr.pad (Tr.GI mixed [none,none,none,none,none,none,none,none,none,none,none,none,none,none,none,none,none,some (0,0,true,33),some (0,1,true,34),some (33,0,true,33),some (34,1,true,34),none] BV (xo rfl (fun _=>AM rfl Dg De (vl rfl) rfl rfl) (xo rfl (fun _=>AM rfl Ou XC (vl rfl) rfl rfl) (xm rfl (xm rfl ?_)))))))))))))
 refine xo rfl (fun _=>CJ rfl underlying32 (vl rfl)) ?_
 refine xo rfl (fun _=>AV rfl (Ua (n:=l.length) AA) ⟨ke rfl,trivial⟩) ?_
 refine xo rfl (fun _=>AV rfl (BF.pz [] [] (Nat.zero_le _) fun z hz_=>Kt hz_) ⟨ke rfl,trivial⟩) (xo rfl (fun _=>AM rfl OH Tq (vl rfl) rfl rfl) (xm rfl (xo rfl (fun _=>AM rfl RI XD (vl rfl) rfl rfl) (xm rfl (xm rfl ?_)))))
 refine xo rfl (fun _=>AV rfl (BF.pz [agg (CM e),MM c,Da l] ([]:List BH) AU fun z hz_=>H9 (e:=e) (c:=c) (l:=l) (r:=z) hz hn hc AA hz_) ⟨ke rfl,ke rfl,ke rfl,ke rfl,ke rfl,ke rfl,ke rfl,ke rfl,ke rfl,trivial⟩) ?_
 refine xm rfl (xo rfl (fun _=>Am rfl (vl rfl) rfl) (xo rfl (fun _=>Am rfl (vl rfl) rfl) (xo rfl (fun _=>Am rfl (vl rfl) rfl) (Cx.ef 0 rfl rfl AB (CA rfl rfl AB rfl z35 FE) (Cx.ef 1 rfl rfl AB (CA rfl rfl AB rfl z107 Ek) (Cx.DG 0 rfl rfl (LN (f:=fun z:List Ba×List BH×List Int=>[Da z.1,reqs z.2.1,ints z.2.2]) (φ:=fun z:List Ba×List BH×List Int=>Se e.Bu.length z.1 z.2.1 z.2.2) rfl rfl rfl AB rfl rfl CL (fun _=>rfl) rfl) (Cx.DG 1 rfl rfl (Cc rfl rfl rfl rfl (Va rfl) Bm rfl rfl) (xm rfl ?_))))))))
 refine Cx.nil ⟨rfl,?_⟩
 refine BI.open_ 0 33 rfl rfl (fun v3=> ?_)
 refine BI.open_ 1 34 rfl rfl (fun v4=> ?_)
 refine BI.done (At.cons (At.cons (At.cons (At.cons (At.map _))))) (Fin.Le 33 0 _ rfl rfl (fun _=>rfl) (fun b7=> ?_))
 refine Fin.e_ 0 rfl (fun pe2 AIo=> ?_)
 refine Fin.Le 34 1 _ rfl rfl (fun _=>rfl) (fun b8=> ?_)
 refine Fin.go (wk5 16 17 33 34 35 rfl (Tr.seq (Tr.Al (cm rfl (Ch.nil (Fin.go (Tr.ex 149 rfl fun AD_=> ?_)))))))
 refine Tr.cn rfl ?_ ?_<;>intro h10 Sx
 refine Tr.seq (Tr.GI mixed [some (0,0,false,0),some (0,1,false,0),some (0,3,true,0),some (0,2,true,0),none] BV (IZ 0 rfl rfl (B4 rfl C4 CL (vl rfl) rfl rfl) (IZ 1 rfl rfl (B4 rfl CW Bm (vl rfl) rfl rfl) (Cx.DG 3 rfl rfl (Aw rfl rfl (vl rfl) (Va rfl) CL rfl Az rfl) (Cx.DG 2 rfl rfl (Aw rfl rfl (vl rfl) (Va rfl) Bm rfl Az rfl) (xm rfl ?_))))))
 refine Cx.nil ⟨rfl,?_⟩
 refine BI.done (At.cons (At.cons (At.cons (At.cons (At.map _))))) (Fin.go (Tr.drop 0 (Tr.drop 0 (Tr.ret (Fin.AE (Fin.FU rfl (AL.cell 1 rfl rfl C4 CL rfl (Lr)) (AL.cell 0 rfl rfl CW Bm rfl (Lr)) (AL.tmp rfl (Lr)) ?_))))))
 refine Ay ⟨?_,?_,?_,trivial⟩
 · exact Pj
 · exact Lr
 · exact C9
 refine Tr.skip (Fin.go (Tr.drop 0 (Tr.drop 0 (Tr.seq (Tr.Ap (tp rfl (An (rows:=[]) rfl L8 FE trivial rfl) (tp rfl (An (rows:=[]) rfl Ji Ek trivial rfl) (TO.AK 1 rfl rfl rfl (vl rfl) (Va rfl) rfl CL rfl rfl (TO.AK 0 rfl rfl rfl (vl rfl) (Va rfl) rfl Bm rfl rfl (tm rfl (TO.nil (Fin.go (Tr.ret (Fin.FU rfl (AL.cell 1 rfl rfl C4 CL rfl (Lr)) (AL.cell 0 rfl rfl CW Bm rfl (Lr)) (AL.tmp rfl (Lr)) ?_))))))))))))))
 refine Ay ⟨?_,?_,?_,trivial⟩
 · exact FH
 · exact D9
 · exact C9
 refine Tr.skip (Fin.go (Tr.seq (Tr.seq (Tr.pad (Tr.pad (Tr.GI mixed [none,none,none,none,none,none,none,none,none,none,none,none,none,none,none,none,none,some (0,0,true,33),some (0,1,true,34),some (33,0,true,33),some (34,1,true,34),none] BV (xo rfl (fun _=>AM rfl Dg De (vl rfl) rfl rfl) (xo rfl (fun _=>AM rfl Ou XC (vl rfl) rfl rfl) (xm rfl (xm rfl (xo rfl (fun _=>CJ rfl underlying32 (vl rfl)) ?_)))))))))))
 refine xo rfl (fun _=>AV rfl (Ua (n:=l.length) AA) ⟨ke rfl,trivial⟩) ?_
 refine xo rfl (fun _=>AV rfl (BF.pz [] [] (Nat.zero_le _) fun z hz_=>Kt hz_) ⟨ke rfl,trivial⟩) (xo rfl (fun _=>AM rfl OH Tq (vl rfl) rfl rfl) (xm rfl (xo rfl (fun _=>AM rfl RI XD (vl rfl) rfl rfl) (xm rfl (xm rfl ?_)))))
 refine xo rfl (fun _=>AV rfl (BF.pz [agg (CM e),MM c,Da l] ([]:List BH) AU fun z hz_=>H9 (e:=e) (c:=c) (l:=l) (r:=z) hz hn hc AA hz_) ⟨ke rfl,ke rfl,ke rfl,ke rfl,ke rfl,ke rfl,ke rfl,ke rfl,ke rfl,trivial⟩) ?_
 refine xm rfl (xo rfl (fun _=>Am rfl (vl rfl) rfl) (xo rfl (fun _=>Am rfl (vl rfl) rfl) (xo rfl (fun _=>Am rfl (vl rfl) rfl) (Cx.ef 0 rfl rfl AB (CA rfl rfl AB rfl z35 FE) (Cx.ef 1 rfl rfl AB (CA rfl rfl AB rfl z107 Ek) (Cx.DG 0 rfl rfl (LN (f:=fun z:List Ba×List BH×List Int=>[Da z.1,reqs z.2.1,ints z.2.2]) (φ:=fun z:List Ba×List BH×List Int=>Se e.Bu.length z.1 z.2.1 z.2.2) rfl rfl rfl AB rfl rfl CL (fun _=>rfl) rfl) (Cx.DG 1 rfl rfl (Cc rfl rfl rfl rfl (Va rfl) Bm rfl rfl) (xm rfl ?_))))))))
 refine Cx.nil ⟨rfl,?_⟩
 refine BI.open_ 0 33 rfl rfl (fun v5=> ?_)
 refine BI.open_ 1 34 rfl rfl (fun v6=> ?_)
 refine BI.done (At.cons (At.cons (At.cons (At.cons (At.map _))))) (Fin.Le 33 0 _ rfl rfl (fun _=>rfl) (fun b9=> ?_))
 refine Fin.e_ 0 rfl (fun pe3 AIp=> ?_)
 refine Fin.Le 34 1 _ rfl rfl (fun _=>rfl) (fun b10=> ?_)
 refine Fin.go (wk5 16 17 33 34 35 rfl (Tr.seq (Tr.Al (cm rfl (Ch.nil (Fin.go (Tr.ex 149 rfl fun AD_=> ?_)))))))
 refine Tr.cn rfl ?_ ?_<;>intro h11 Ty
 refine Tr.seq (Tr.GI mixed [some (0,0,false,0),some (0,1,false,0),some (0,3,true,0),some (0,2,true,0),none] BV (IZ 0 rfl rfl (B4 rfl C4 CL (vl rfl) rfl rfl) (IZ 1 rfl rfl (B4 rfl CW Bm (vl rfl) rfl rfl) (Cx.DG 3 rfl rfl (Aw rfl rfl (vl rfl) (Va rfl) CL rfl Az rfl) (Cx.DG 2 rfl rfl (Aw rfl rfl (vl rfl) (Va rfl) Bm rfl Az rfl) (xm rfl ?_))))))
 refine Cx.nil ⟨rfl,?_⟩
 refine BI.done (At.cons (At.cons (At.cons (At.cons (At.map _))))) (Fin.go (Tr.drop 0 (Tr.drop 0 (Tr.ret (Fin.AE (Fin.FU rfl (AL.cell 1 rfl rfl C4 CL rfl (Lr)) (AL.cell 0 rfl rfl CW Bm rfl (Lr)) (AL.tmp rfl (Lr)) ?_))))))
 refine Ay ⟨?_,?_,?_,trivial⟩
 · exact Pj
 · exact Lr
 · exact C9
 refine Tr.skip (Fin.go (Tr.drop 0 (Tr.drop 0 (Tr.seq (Tr.Ap (tp rfl (An (rows:=[]) rfl L8 FE trivial rfl) (tp rfl (An (rows:=[]) rfl Ji Ek trivial rfl) (TO.AK 1 rfl rfl rfl (vl rfl) (Va rfl) rfl CL rfl rfl (TO.AK 0 rfl rfl rfl (vl rfl) (Va rfl) rfl Bm rfl rfl (tm rfl (TO.nil (Fin.go (Tr.ret (Fin.FU rfl (AL.cell 1 rfl rfl C4 CL rfl (Lr)) (AL.cell 0 rfl rfl CW Bm rfl (Lr)) (AL.tmp rfl (Lr)) ?_))))))))))))))
 refine Ay ⟨?_,?_,?_,trivial⟩
 · exact FH
 · exact D9
 · exact C9
theorem zu (s:DS):s.of [1,0,3]=1∨s.of [1,0,3]=0∨s.of [1,0,3]=3:=by have:=s.RD (l:=[1,0,3]) AU;simp at this;exact this
theorem fN (s:DS) {k:Nat} (hk:k≤7):0≤((k:Nat):Int)*s.of [1,0,3]∧((k:Nat):Int)*s.of [1,0,3]≤21:=by rcases zu s with h|h|h<;>rw [h]<;>omega
theorem qt {o:List Int} {x:Int} (h:∀y∈o,0≤y∧y≤40000) (hx:0≤x∧x≤40000):∀y∈o++[x],0≤y∧y≤40000:=fun y hy=>by
 rcases List.mem_append.1 hy with hy|hy
 · exact h y hy
 · rw [List.mem_singleton] at hy;subst hy;exact hx
theorem zv {b:Nat} {s:DS}  :BS prog 13 [ptr b 0] (Cp.ex fun e:Dn=>fact (O4 e) (Dy [agg (CM e),fM e.Bu.length,ES])) (Dh b s) (fun _=>JE 104 b):=by
 refine BS.of func13 rfl rfl Az fun M0 w0 S rs M1 w1=> ?_
 refine Tr.seq (Tr.Ap ?_)
 refine Tl rfl rfl rfl rfl z31 Ia (fun b1=> ?_)
 refine Tl rfl rfl rfl rfl z35 FE (fun b2=> ?_)
 refine tm rfl (TO.nil (Fin.go (Tr.seq (Tr.Ap (tm rfl (TO.GK 2 rfl rfl AB (Aj rfl rfl AB rfl (nW) ⟨ke rfl,trivial⟩) ?_))))))
 refine TO.ex 13 rfl (fun z1=>TO.fact 13 rfl fun Eh=> ?_)
 refine Tl rfl rfl rfl rfl z31 Ia (fun b3=> ?_)
 refine TO.AK 0 rfl rfl rfl (vl rfl) (Va rfl) rfl De rfl rfl (TO.freeze 0 5 rfl rfl (TO.nil (Fin.Tn 2 rfl (fun s1=> ?_))))
 refine Fin.go (Tr.seq (Tr.Ap (tm rfl (tp rfl (AM rfl Dg De (vl rfl) rfl rfl) ?_))))
 refine TO.GK 2 rfl rfl AB (Aj rfl rfl AB rfl (uX (e:=z1) Eh.snd ⟨by have:=Eh.n2;omega,Eh.n3⟩) ⟨ke rfl,ke rfl,trivial⟩) ?_
 refine TO.ex 16 rfl (fun z2=>TO.fact 16 rfl fun I6=> ?_)
 refine tm rfl (TO.nil (Fin.Tn 2 rfl (fun s2=> ?_)))
 refine Fin.go (wk5 0 2 3 5 6 rfl (Tr.seq ?_))
 have j_:∀x∈z2,x.C6.fits∧x.C6.small:=fun x hx=>⟨(I6.any x hx).fits,(I6.any x hx).small⟩
 have h7:=I6.len
 refine Tr.pad (Tr.pad (Tr.GI mixed [none,none,none,none,none,none,none,none,none,none,none,none,none,some (0,0,true,7),some (0,1,true,8),some (7,0,true,7),some (8,1,true,8),none] BV (xo rfl (fun _=>AM rfl Dg De (vl rfl) rfl rfl) (xo rfl (fun _=>N_ rfl Gv rfl rfl) (xo rfl (fun _=>F5 rfl ND rfl) (xo rfl (fun _=>CJ rfl underlying27 (vl rfl)) ?_))))))
 refine xo rfl (fun _=>AV rfl (zm (n:=z1.Bu.length) (by have:=Eh.n3;omega)) ⟨ke rfl,trivial⟩) ?_
 refine xm rfl (xo rfl (fun _=>An (rows:=[]) rfl ABm ABn trivial rfl) (xo rfl (fun _=>An (rows:=[]) rfl ABo ABp trivial rfl) ?_))
 refine xo rfl (fun _=>AV rfl (jZ (e:=z1) (c:=xE z1.Bu.length) (l:=z2) Eh.sz AA j_ I6.len) ⟨ke rfl,ke rfl,ke rfl,⟨_,rfl,BU ⟨AQ 6,AQ 2,trivial⟩⟩,⟨_,rfl,AQ _⟩,⟨_,rfl,BU ⟨AQ 1,Lr,trivial⟩⟩,ke rfl,ke rfl,trivial⟩) ?_
 refine xm rfl (xo rfl (fun _=>Am rfl (vl rfl) rfl) (xo rfl (fun _=>Am rfl (vl rfl) rfl) (xo rfl (fun _=>Am rfl (vl rfl) rfl) (Cx.ef 0 rfl rfl AB (CA rfl rfl AB rfl z35 FE) (Cx.ef 1 rfl rfl AB (CA rfl rfl AB rfl z107 Ek) (Cx.DG 0 rfl rfl (LN (f:=fun z:List Ba×List BH×List Int=>[Da z.1,reqs z.2.1,ints z.2.2]) (φ:=fun z:List Ba×List BH×List Int=>Se z1.Bu.length z.1 z.2.1 z.2.2) rfl rfl rfl AB rfl rfl CL (fun _=>rfl) rfl) (Cx.DG 1 rfl rfl (Cc rfl rfl rfl rfl (Va rfl) Bm rfl rfl) (xm rfl ?_))))))))
 refine Cx.nil ⟨rfl,?_⟩
 refine BI.open_ 0 7 rfl rfl (fun v1=> ?_)
 refine BI.open_ 1 8 rfl rfl (fun v2=> ?_)
 refine BI.done (At.cons (At.cons (At.cons (At.cons (At.cons (At.cons (At.map _))))))) (Fin.Le 7 0 _ rfl rfl (fun _=>rfl) (fun b4=> ?_))
 refine Fin.e_ 0 rfl (fun pe1 AD9=> ?_)
 refine Fin.Le 8 1 _ rfl rfl (fun _=>rfl) (fun b5=> ?_)
 refine Fin.go (Tr.drop 1 (jr 0 2 3 5 6 7 9 rfl (Tr.seq (Tr.seq (Tr.ex 9 rfl fun x9=>(Tr.Al (cm rfl (co rfl (ki rfl rfl rfl rfl) (Ch.nil (Fin.go ?_))))))))))
 refine Tr.cn rfl ?_ ?_<;>intro h1 q1
 refine Tr.seq (Tr.GI mixed [none,some (0,0,false,0),some (0,2,true,0),some (0,1,true,0),none] BV (xo rfl (fun _=>AM rfl Dg De (vl rfl) rfl rfl) (IZ 0 rfl rfl (B4 rfl C4 CL (vl rfl) rfl rfl) (Cx.DG 2 rfl rfl (Aw rfl rfl (vl rfl) (Va rfl) De rfl Az rfl) (Cx.DG 1 rfl rfl (Aw rfl rfl (vl rfl) (Va rfl) CL rfl Az rfl) (xm rfl ?_))))))
 refine Cx.nil ⟨rfl,?_⟩
 refine BI.done (At.cons (At.cons (At.cons (At.cons (At.cons (At.map _)))))) (Fin.go (Tr.drop 0 (Tr.ret (Fin.AE (Fin.HK 2 _ rfl rfl (Fin.wI [_,_] rfl (AL.cell 1 rfl rfl Dg De rfl (Lr)) (AL.cell 0 rfl rfl C4 CL rfl (Lr)) (AL.tmp rfl (Lr)) ?_))))))
 · exact Ax z1 (BB Eh (Ay ⟨Lr,Ax pe1 (BB AD9 (Lr)),Ax _ (Lr),trivial⟩))
 refine Tr.skip (Fin.go (Tr.drop 0 (Tr.seq (Tr.Ap (tm rfl (tm rfl (tm rfl (tp rfl (CJ rfl underlying32 (vl rfl)) ?_))))))))
 refine TO.GK 2 rfl rfl AB (Aj rfl rfl AB rfl (vg (n:=z2.length) (by have:=I6.len;omega)) ⟨ke rfl,ke rfl,trivial⟩) ?_
 refine TO.ex 38 rfl (fun z3=>TO.fact 38 rfl fun hz3=> ?_)
 revert z3
 intro rq hrq
 refine tp rfl (An (rows:=[(0,[_]),(1,[_])]) rfl L8 FE ⟨⟨rfl,(Vo rfl)⟩,⟨⟨rfl,(Vo rfl)⟩,trivial⟩⟩ rfl) ?_
 refine Tl rfl rfl rfl rfl z35 FE (fun b6=> ?_)
 refine TO.AK 0 rfl rfl rfl (vl rfl) (Va rfl) rfl CL rfl rfl (TO.nil (Fin.Tn 3 rfl (fun s3=> ?_)))
 refine Fin.go (wk6 0 2 3 5 6 10 rfl (Tr.seq (Tr.seq (Tr.Al (cm rfl (co rfl (CJ rfl underlying32 (vl rfl)) (cm rfl (Ch.nil (Fin.go (Tr.block (Tr.HZ 0 [Da z2,reqs rq,Aa (.slice none 0 0) (ints [])] rfl ⟨Lr,Lr,Bp rfl,trivial⟩ (Tr.CC 3 1 (Tr.Fw [(0,_),(2,_),(3,_),(5,_),(10,_),(41,_)] ⟨ke rfl,ke rfl,ke rfl,ke rfl,ke rfl,ke rfl,trivial⟩ (fun (k:Nat) (dd:List Int) (s2:DS) v=>[(42,int ((k:Nat):Int))]) (fun (k:Nat) (dd:List Int) (s2:DS) v=>Hp M0 w0 S (Au 3 1 v::AF true b6 35 [Da z2,reqs rq,Aa v (ints dd)]::AF true b2 35 (([.slice none 0 0,.slice none 0 0,.slice none 0 0]:List Value).map is)::AF true b1 31 (([.slice none 0 0,.slice none 0 0,.slice none 0 0]:List Value).map is)::Dh b s2::Ak M1 w1::rs)) (fun (k:Nat) (dd:List Int) (s2:DS)=>(k≤z2.length∧dd.length=k)∧∀x∈dd,0≤x∧x≤40000) (fun (k:Nat) (dd:List Int) (s2:DS)=>z2.length-k) (0) ([]) (_) (.slice none 0 0) (⟨⟨Nat.zero_le _,rfl⟩,fun x h=>GX⟩) ⟨ke rfl,trivial⟩ (fun _ _ h=>h) ?_)))))))))))))
 rintro k dd s2 v ⟨⟨hk0,hdl⟩,hdb⟩
 refine Tr.seq (Tr.Al (co rfl (ki rfl rfl rfl rfl) (Ch.nil (Fin.go (Tr.seq ?_)))))
 refine Tr.cn rfl ?_ ?_<;>intro h2 q2
 have hk:k<z2.length:=AH h2
 refine Tr.skip (Fin.go (Tr.seq (Tr.block (Tr.seq (Tr.Al (cm rfl (cm rfl (Ch.nil (Fin.go (Tr.pad (Tr.GI mixed [none,some (0,2,false,0),none,none,none,some (0,5,true,0),none,none,some (0,1,true,53),none,some (0,2,true,53)] BV (xo rfl (fun _=>AW rfl ZM (vl rfl)) (IZ 2 rfl rfl (A_ rfl KF (vl rfl) rfl) ?_)))))))))))))
 refine xm rfl (xm rfl (xo rfl (fun _=>AP (xs:=[.const (.int .i64 (1)),.const (.int .i64 (0)),.const (.int .i64 (3))]) (rows:=[[_],[_],[_]]) rfl rfl underlying22 Bs z3 rfl AB ⟨⟨Ao,(Vo rfl)⟩,⟨⟨Ao,(Vo rfl)⟩,⟨⟨Ao,(Vo rfl)⟩,trivial⟩⟩⟩ AB) ?_))
 refine Cx.ef 5 rfl rfl AB (Aj rfl rfl AB rfl (XV (l:=[1,0,3]) AU AU) ⟨ke rfl,(Kf rfl),trivial⟩) ?_
 refine xo rfl (fun _=>k9 rfl (vl rfl) (vl rfl) (by have:=fN s2 (k:=k) AA;unfold Mn;omega)) ?_
 refine xo rfl (fun _=>AP (xs:=[.tmp 51]) (rows:=[[_]]) rfl rfl underlying22 Bs z3 rfl AB ⟨⟨Ao,(Vo rfl)⟩,trivial⟩ AB) ?_
 refine Cx.ef 1 rfl rfl AB (CB rfl rfl rfl rfl underlying22 Bs Iw z3 (Kb rfl) (Kf rfl) (BC BR (Ka rfl))) ?_
 refine xo rfl (fun _=>AW rfl ZM (vl rfl)) (Cx.DG 2 rfl rfl (GL rfl rfl rfl (vl rfl) rfl L7 Az) ?_)
 refine Cx.nil ⟨rfl,?_⟩
 refine BI.RE 1 2 53 rfl rfl AB rfl (fun v3=> ?_)
 refine BI.done (At.cons (At.cons (At.cons (At.cons (At.cons (At.cons (At.cons (At.map _)))))))) (Fin.block (Fin.go (Tr.drop 0 (jr 0 2 3 5 10 41 42 rfl (Tr.Al (Mz rfl rfl rfl rfl AA (cm rfl (Ch.nil ?_))))))))
 refine Fin.HZ 1 [Da z2,reqs rq,Aa v3 (ints (dd++[(((k:Nat):Int)*s2.of [1,0,3])]))] rfl ⟨Lr,Lr,BJ DQ,trivial⟩ ?_
 exact Fin.ER (k+1) (dd++[(((k:Nat):Int)*s2.of [1,0,3])]) (_) v3 (⟨⟨⟨by omega,by simp;omega⟩,qt hdb (by have:=fN s2 (k:=k) AA;omega)⟩,by omega⟩) ⟨⟨_,rfl,AG k⟩,ke rfl,ke rfl,ke rfl,ke rfl,ke rfl,ke rfl,trivial⟩ (fun _ _ h=>h)
 have fm:=AJ h2
 refine Tr.exit (Fin.Ac (Fin.Ac (Fin.A0 (Fin.go (Tr.seq (Tr.GI mixed [none,some (0,1,false,0),some (0,3,true,0),some (0,2,true,0),none] BV (xo rfl (fun _=>AM rfl Dg De (vl rfl) rfl rfl) (IZ 1 rfl rfl (B4 rfl C4 CL (vl rfl) rfl rfl) (Cx.DG 3 rfl rfl (Aw rfl rfl (vl rfl) (Va rfl) De rfl Az rfl) (Cx.DG 2 rfl rfl (Aw rfl rfl (vl rfl) (Va rfl) CL rfl Az rfl) (xm rfl ?_)))))))))))
 refine Cx.nil ⟨rfl,?_⟩
 refine BI.done (At.cons (At.cons (At.cons (At.cons (At.cons (At.cons (At.map _))))))) (Fin.go (Tr.ret (Fin.HK 4 _ rfl rfl (Fin.wI [_,_,_,_] rfl (AL.cell 3 rfl rfl Dg De rfl (Lr)) (AL.cell 2 rfl rfl C4 CL rfl (Lr)) (AL.tmp rfl (Lr)) ?_))))
 · exact Ax z1 (BB Eh (Ay ⟨Lr,Ax (z2,rq,dd) (BB ⟨⟨by show z2.length≤24;omega,by show dd.length=z2.length;omega,hrq.1.valid (by show z2.length≤24;omega),fun j y c hj hy hcj=>⟨hdb y (List.mem_of_getElem? hy),(I6.any c (List.mem_of_getElem? hcj)).lo,(I6.any c (List.mem_of_getElem? hcj)).hi⟩⟩,h7,j_,by have:=hrq.2;show rq.length≤1000;omega⟩ (BU ⟨Lr,Lr,As _ _,trivial⟩)),Ax _ (Lr),trivial⟩))
section
variable {β:Type} {c:β×β→Int}
def IL (c:β×β→Int):Nat→List β→List β
 |0,st=>st
 |j+1,st=>match st[j+1]?,st[j]? with
  |some x,some y=>if c (x,y)<0 then IL c j ((st.set (j+1) y).set j x) else st
  |_,_=>st
def Sf (c:β×β→Int) (x:β):List β→List β→List β
 |[],dn=>x::dn
 |y::rp,dn=>if c (x,y)<0 then Sf c x rp (y::dn) else (y::rp).reverse++x::dn
def isB (c:β×β→Int) (l:List β):Nat→List β
 |0=>l
 |i+1=>IL c i (isB c l i)
theorem YX {j:Nat} {st:List β} {x y:β} (hx:st[j+1]? =some x) (hy:st[j]? =some y) (h:c (x,y)<0):IL c (j+1) st=IL c j ((st.set (j+1) y).set j x):=by rw [IL,hx,hy];simp [h]
theorem fO {j:Nat} {st:List β} {x y:β} (hx:st[j+1]? =some x) (hy:st[j]? =some y) (h:¬c (x,y)<0):IL c (j+1) st=st:=by rw [IL,hx,hy];simp [h]
theorem YY:∀(j:Nat) (st:List β),(IL c j st).length=st.length
 |0,_=>rfl
 |j+1,st=>by
  rw [IL]
  split
  ·
   split
   · rw [YY];simp
   · rfl
  · rfl
theorem qu (x:β):∀(rp dn:List β),IL c rp.length (rp.reverse++x::dn)=Sf c x rp dn
 |[],dn=>rfl
 |y::rp,dn=>by
  have hx:((y::rp).reverse++x::dn)[rp.length+1]? =some x:=by
   rw [List.getElem?_append_right AU];simp
  have hy:((y::rp).reverse++x::dn)[rp.length]? =some y:=by
   rw [List.reverse_cons,List.append_assoc,List.getElem?_append_right AU];simp
  have hs:(((y::rp).reverse++x::dn).set (rp.length+1) y).set rp.length x=rp.reverse++x::(y::dn):=by
   rw [List.reverse_cons,List.append_assoc,List.set_append_right _ _ AU]
   simp
  unfold Sf
  show IL c (rp.length+1) _=_
  by_cases h:c (x,y)<0
  · rw [YX hx hy h,hs,qu x rp (y::dn),if_pos h]
  · rw [fO hx hy h,if_neg h]
theorem fP {R:β→β→Prop} (ht:∀a b d,R a b→R b d→R a d) {x:β}:∀(rp dn:List β),(rp.reverse++dn).Pairwise R→(∀z∈dn,R x z)→(∀y∈rp,(c (x,y)<0→R x y)∧(¬c (x,y)<0→R y x))→
  (Sf c x rp dn).Pairwise R∧(Sf c x rp dn).Perm (x::(rp.reverse++dn))
 |[],dn,h,hd,_=>by
  unfold Sf
  exact ⟨List.pairwise_cons.2 ⟨hd,by simpa using h⟩,by simp⟩
 |y::rp,dn,h,hd,hc=>by
  obtain ⟨h1,h2⟩:=hc y AU
  unfold Sf
  by_cases hlt:c (x,y)<0
  ·
   rw [if_pos hlt]
   obtain ⟨g1,g2⟩:=fP ht (x:=x) rp (y::dn) Dz (fun z hz=>by
    rcases List.mem_cons.1 hz with rfl|hz
    · exact h1 hlt
    · exact hd z hz) (fun z hz=>hc z (List.mem_cons_of_mem _ hz))
   exact ⟨g1,by simpa using g2⟩
  ·
   rw [if_neg hlt]
   have hyx:=h2 hlt
   rw [List.pairwise_append] at h ⊢
   obtain ⟨p1,p2,p3⟩:=h
   refine ⟨⟨p1,List.pairwise_cons.2 ⟨hd,p2⟩,fun a ha b hb=> ?_⟩,?_⟩
   ·
    have hax:R a x:=by
     simp only [List.reverse_cons,List.mem_append,List.mem_reverse,List.mem_singleton] at ha
     rcases ha with ha|rfl
     ·
      refine ht _ _ _ ?_ hyx
      rw [List.reverse_cons,List.pairwise_append] at p1
      exact p1.2.2 a (List.mem_reverse.2 ha) y AU
     · exact hyx
    rcases List.mem_cons.1 hb with rfl|hb
    · exact hax
    · exact ht _ _ _ hax (hd b hb)
   · exact List.perm_middle
theorem qv {R:β→β→Prop} (ht:∀a b d,R a b→R b d→R a d) {l:List β} (hc:∀(i j:Nat) x y,j<i→l[i]? =some x→l[j]? =some y→(c (x,y)<0→R x y)∧(¬c (x,y)<0→R y x)):
  ∀(i:Nat),i≤l.length→∃st,isB c l i=st++l.drop i∧st.Pairwise R∧st.Perm (l.take i)
 |0,_=>⟨[],by simp [isB],List.Pairwise.nil,by simp⟩
 |i+1,hi=>by
  obtain ⟨st,h1,h2,h3⟩:=qv ht hc i AA
  obtain ⟨x,hx⟩:=at_ (l:=l) (k:=i) AA
  have hl:st.length=i:=by rw [h3.length_eq,List.length_take];omega
  have hd:l.drop i=x::l.drop (i+1):=by
   rw [List.drop_eq_getElem_cons (show i<l.length by omega)]
   rw [List.getElem?_eq_getElem (show i<l.length by omega)] at hx;cases hx;rfl
  have hk:=qu (c:=c) x st.reverse (l.drop (i+1))
  rw [List.length_reverse,List.reverse_reverse,hl] at hk
  have key:∀(rp dn rest:List β),Sf c x rp (dn++rest)=Sf c x rp dn++rest:=by
   intro rp
   induction rp with
   |nil=>intro dn rest;rfl
   |cons y rp ih=>
    intro dn rest
    unfold Sf
    split
    · exact ih (y::dn) rest
    · simp
  have hk2:=key st.reverse [] (l.drop (i+1))
  rw [List.nil_append] at hk2
  obtain ⟨g1, g2⟩ := fP ht (c := c) (x := x) st.reverse [] Mq (fun z hz => by cases hz) (fun y hy => by
   have o9:y∈l.take i:=h3.mem_iff.1 (List.mem_reverse.1 hy)
   obtain ⟨j,hj⟩:=List.getElem?_of_mem o9
   rw [List.getElem?_take] at hj
   split at hj
   next hji=>exact hc i j x y hji hx hj
   next=>cases hj)
  refine ⟨Sf c x st.reverse [],?_,g1,?_⟩
  · rw [isB,h1,hd,hk,hk2]
  ·
   refine g2.trans ?_
   rw [List.reverse_reverse,List.append_nil,List.take_add_one,hx]
   exact ((List.perm_append_comm (l₁:=[x]) (l₂:=st)).trans (h3.append_right [x]))
end
structure Fnd where
 src:Int
 host:List UInt8
 machine:Int
 day:Int
 AEA:Int
 kind:Int
 vn:List UInt8
 CG:Int
 bits:Int
 num:Int
 text:List UInt8
structure Fnd.fits (f:Fnd):Prop where
 host:f.host.length≤maxLen
 vn:f.vn.length≤maxLen
 text:f.text.length≤maxLen
def orL:List Int→Int
 |[]=>0
 |a::l=>if a=0 then orL l else a
def AEB (a b:Fnd):List Int:=[Lib.compareBytes a.host b.host,Ju a.machine b.machine,Ju a.day b.day,Lib.compareBytes a.vn b.vn,Ju a.kind b.kind,Ju a.CG b.CG,Ju a.bits b.bits,Ju a.num b.num,Lib.compareBytes a.text b.text,Ju a.src b.src,Ju a.AEA b.AEA]
def AHU (a b:Fnd):Int:=orL (AEB a b)
def kF (l:List Fnd) (f:Fnd):Nat:=(l.reverse.dropWhile fun x=>decide (0<AHU x f)).length
def InR (own:List Int) (m:Nat):Prop:=∀i∈own,0≤i∧i<(m:Int)
instance (own:List Int) (m:Nat):Decidable (InR own m):=inferInstanceAs (Decidable (∀i∈own,0≤i∧i<(m:Int)))
theorem BB {φ:Prop} {p q:Pr} (h:φ) (hl:Pr.le p q):Pr.le p (fact φ q):=fun _ _ _ hp=>⟨h,hl _ _ _ hp⟩
theorem Jd {β:Type} {g:β→Pr} {l:List β} {qs:List Pr} {i:Int} {x:β} (h:l[i.toNat]? =some x):((l.map fun x=>[g x]).flatten++qs)[0+i.toNat*1]? =some (g x):=by
 have hl:i.toNat<l.length:=by rcases Nat.lt_or_ge i.toNat l.length with h'|h';exact h';rw [List.getElem?_eq_none h'] at h;cases h
 rw [List.getElem?_eq_getElem hl] at h
 cases h
 exact RZ hl
section
variable {c:Int×Int→Int}
theorem WT (l:List Int):∀i,(isB c l i).length=l.length
 |0=>rfl
 |i+1=>by rw [isB,YY,WT l i]
theorem qw {st:List Int} {j:Nat} {x y:Int} (h0:0<j) (hx:st[j]? =some x) (hy:st[j-1]? =some y) (h:c (x,y)<0):IL c (j-1) ((st.set ((j:Nat):Int).toNat y).set (((j:Nat):Int)-1).toNat x)=IL c j st:=by
 obtain ⟨m,rfl⟩:∃m,j=m+1:=⟨j-1,by omega⟩
 rw [show (((m+1:Nat):Nat):Int).toNat=m+1 by omega,show ((((m+1:Nat):Nat):Int)-1).toNat=m by omega,show m+1-1=m by omega]
 exact (YX hx hy h).symm
theorem qx {st:List Int} {j:Nat} (h:j=0):IL c j st=st:=by subst h;rfl
theorem qy {st:List Int} {j:Nat} {x y:Int} (h0:0<j) (hx:st[j]? =some x) (hy:st[j-1]? =some y) (h:¬c (x,y)<0):IL c j st=st:=by
 obtain ⟨m,rfl⟩:∃m,j=m+1:=⟨j-1,by omega⟩
 exact fO hx hy h
theorem qz {st:List Int} {a b:Nat} {x y n:Int} (h:∀z∈st,0≤z∧z<n) (hx:0≤x∧x<n) (hy:0≤y∧y<n):∀z∈(st.set a y).set b x,0≤z∧z<n:=fun z hz=>by
 rcases List.mem_or_eq_of_mem_set hz with hz|rfl
 ·
  rcases List.mem_or_eq_of_mem_set hz with hz|rfl
  · exact h z hz
  · exact hy
 · exact hx
end
def jc (c:Int×Int→Int) (l st:List Int):Prop:=st=isB c l l.length
theorem jc.len {c:Int×Int→Int} {l st:List Int} (h:jc c l st):st.length=l.length:=by unfold jc at h;rw [h,WT]
abbrev InN (N:Nat):={p:Int×Int//(0≤p.1∧p.1<(N:Int))∧0≤p.2∧p.2<(N:Int)}
theorem zw {l:List Int} {c:Int×Int→Int} {b0 cap N len:Nat} {sp:List Value} (hln:l.length=len) (Sz:len≤19) (hR0:∀x∈l,0≤x∧x<(N:Int)):BS prog 208 [is (.slice (some ⟨b0,0,none⟩) len cap),int 0,int ((len:Nat):Int),cQ prog (fun p:InN N=>[int p.1.1,int p.1.2]) (fun p=>int (c p.1))] (NI) (AF true b0 3 ((l.map (fun x:Int=>[int x])).flatten++sp.map is)) (fun _=>Ed b0 3 (fun x:Int=>[int x]) (jc c l) (sp.map is)):=by
 refine BS.of func208 rfl rfl Az fun M0 w0 S rs M1 w1=> ?_
 refine ac ?_
 refine Tr.block (Tr.Cy _ (kk [3,2,1,0] rfl) (fun (i:Nat) (st:List Int)=>[(8,int ((i:Nat):Int))]) (fun (i:Nat) (st:List Int)=>Hp M0 w0 S (AF true b0 3 ((st.map (fun x:Int=>[int x])).flatten++sp.map is)::Ak M1 w1::rs)) (fun (i:Nat) (st:List Int)=>(1≤i∧(i≤len∨i=1))∧st=isB c l i∧∀x∈st,0≤x∧x<(N:Int)) (fun (i:Nat) (st:List Int)=>len-i) (1) (l)  (⟨⟨by omega,.inr rfl⟩,rfl,hR0⟩) ⟨⟨_,rfl,int_eq AA⟩,trivial⟩ (fun _ _ h=>h) ?_)
 rintro i st  ⟨⟨hi1,hi2⟩,hst,hR⟩
 have Z_:st.length=len:=by rw [hst,WT,hln]
 refine an ?_ ?_<;>intro h1 q1
 have hib:i<len:=AH h1
 refine a2 ?_
 refine Tr.block (Tr.Cy _ (kk [8,3,2,1,0] rfl) (fun (j:Nat) (Wi:List Int)=>[(9,int ((j:Nat):Int))]) (fun (j:Nat) (Wi:List Int)=>Hp M0 w0 S (AF true b0 3 ((Wi.map (fun x:Int=>[int x])).flatten++sp.map is)::Ak M1 w1::rs)) (fun (j:Nat) (Wi:List Int)=>(j≤i∧Wi.length=len)∧IL c j Wi=IL c i st∧∀x∈Wi,0≤x∧x<(N:Int)) (fun (j:Nat) (Wi:List Int)=>j) (i) (st)  (⟨⟨Nat.le_refl _,Z_⟩,rfl,hR⟩) kz (fun _ _ h=>h) ?_)
 rintro j Wi  ⟨⟨hj1,AHV⟩,zx,hR2⟩
 refine ag ?_ ?_<;>intro h2 q2
 obtain ⟨x,hx⟩:=at_ (l:=Wi) (k:=j) AA
 obtain ⟨y,hy⟩:=at_ (l:=Wi) (k:=j-1) AA
 have hxr:=hR2 x (List.mem_of_getElem? hx)
 have hyr:=hR2 y (List.mem_of_getElem? hy)
 refine ac ?_
 refine cy h2 rfl (BL rfl underlying22 Bs (vl rfl) (vl rfl) AA AA) ?_
 refine cy h2 rfl (CN 0 rfl (A_ rfl Cs (vl rfl) (Jd (g:=fun x:Int=>int x) (x:=x) U0))) ?_
 refine ac ?_
 refine cy h2 rfl (BL rfl underlying22 Bs (vl rfl) (vl rfl) AA AA) ?_
 refine cy h2 rfl (CN 0 rfl (A_ rfl Cs (vl rfl) (Jd (g:=fun x:Int=>int x) (x:=y) cH))) ?_
 refine cy h2 rfl (J7 (⟨(x,y),⟨hxr,hyr⟩⟩:InN N) rfl (vl rfl) ⟨ke rfl,kz⟩) ?_
 refine ac ?_
 refine wk [34,9,8,3,2,1,0] rfl ?_
 refine Tr.cn rfl ?_ ?_<;>intro h3 q3
 have:=h3
 refine ac ?_
 refine Tr.seq (Tr.block (Tr.rx ?_))
 refine ay ?_
 refine xo rfl (fun _=>BL rfl underlying22 Bs (vl rfl) (vl rfl) AA AA) ?_
 refine IZ 0 rfl rfl (A_ rfl Cs (vl rfl) (Jd (g:=fun x:Int=>int x) (x:=y) cH)) ?_
 refine ay ?_
 refine xo rfl (fun _=>BL rfl underlying22 Bs (vl rfl) (vl rfl) AA AA) ?_
 refine IZ 0 rfl rfl (A_ rfl Cs (vl rfl) (Jd (g:=fun x:Int=>int x) (x:=x) U0)) ?_
 refine xo rfl (fun _=>BL rfl underlying22 Bs (vl rfl) (vl rfl) AA AA) ?_
 refine Cx.DG 0 rfl rfl (Aw rfl rfl (vl rfl) (Vo rfl) Bs rfl Qv (GP (f:=(fun x:Int=>[int x])) (fun _=>rfl) AA)) ?_
 refine xo rfl (fun _=>BL rfl underlying22 Bs (vl rfl) (vl rfl) AA AA) ?_
 refine Cx.DG 0 rfl rfl (Aw rfl rfl (vl rfl) (Vo rfl) Bs rfl (by rw [Kw (sz:=1) (fun _=>rfl)];simp only [List.length_set];omega) (GP (f:=(fun x:Int=>[int x])) (fun _=>rfl) (by simp only [List.length_set];omega))) ?_
 refine Cx.nil ⟨by kernel_rfl,?_⟩
 refine BI.done XU ?_
 refine ac ?_
 refine wk [9,8,3,2,1,0] rfl ?_
 refine ac ?_
 exact Fin.Cu (j-1) (_)  (⟨⟨⟨by omega,by simp only [List.length_set];exact AHV⟩,by rw [←zx];exact qw AA hx hy Bi,qz hR2 hxr hyr⟩,by omega⟩) ⟨⟨_,rfl,int_eq AA⟩,kz⟩ (fun _ _ h=>h)
 have:=h3
 refine a2 ?_
 have zy:IL c j Wi=Wi:=qy AA hx hy (Int.not_lt.2 Bi)
 exact Fin.Cu (i+1) (Wi)  (⟨⟨⟨by omega,.inl AA⟩,by show Wi=IL c i (isB c l i);rw [←hst,←zx,zy],hR2⟩,by omega⟩) ⟨⟨_,rfl,AG i⟩,kz⟩ (fun _ _ h=>h)
 refine ac ?_
 refine wk [34,9,8,3,2,1,0] rfl ?_
 refine a2 ?_
 have zy:IL c j Wi=Wi:=qx AA
 exact Fin.Cu (i+1) (Wi)  (⟨⟨⟨by omega,.inl AA⟩,by show Wi=IL c i (isB c l i);rw [←hst,←zx,zy],hR2⟩,by omega⟩) ⟨⟨_,rfl,AG i⟩,kz⟩ (fun _ _ h=>h)
 have hie:=AJ h1
 refine Tr.exit (Fin.Ac (Fin.Ac (Fin.A0 ?_)))
 refine Fin.Gx (jc c l) 0 rfl (by unfold jc;rcases Nat.eq_zero_or_pos len with h0_|h0_;(obtain rfl:=List.eq_nil_of_length_eq_zero (hln.trans h0_);rw [hst,show i=1 by omega];rfl);(rw [hst,hln,show i=len by omega])) ?_
 exact Fin.l9 rfl
theorem zz {l:List Int} {c:Int×Int→Int} {b0 cap N len:Nat} {sp:List Value} (hln:l.length=len) (Sz:len≤19) (hR0:∀x∈l,0≤x∧x<(N:Int)):BS prog 165 [is (.slice (some ⟨b0,0,none⟩) len cap),int ((len:Nat):Int),cQ prog (fun p:InN N=>[int p.1.1,int p.1.2]) (fun p=>int (c p.1))] (NI) (AF true b0 3 ((l.map (fun x:Int=>[int x])).flatten++sp.map is)) (fun _=>Ed b0 3 (fun x:Int=>[int x]) (jc c l) (sp.map is)):=by
 refine BS.of func165 rfl rfl Az fun M0 w0 S rs M1 w1=> ?_
 refine a2 ?_
 refine Tr.seq (Tr.block (Tr.BE _ (kk [6,2,1,0] rfl) (fun (u:Unit)=>[(7,int 0),(8,int 20)]) (fun (u:Unit)=>True) (fun (u:Unit)=>0) () (trivial) ⟨kq,kz⟩ ?_))
 rintro u _
 refine an ?_ ?_<;>intro h1 q1
 exfalso;have Sw:=DH.Dp h1;omega
 have Yh:=h1
 refine ac ?_
 refine ap ?_
 refine TO.GK 0 rfl rfl AB (Aj rfl rfl AB rfl (zw AA AA Bi) ⟨kq,kz⟩) (TO.KI 0 rfl fun t1 P0=> ?_)
 have AEC:=P0.len
 refine ap ?_
 refine wk [6,2,1,0] rfl (Tr.block (Tr.BE _ (kk [2,1,0] rfl) (fun (u:Unit)=>[(6,int 20)]) (fun (u:Unit)=>True) (fun (u:Unit)=>0) () (trivial) kz ?_))
 rintro u _
 refine an ?_ ?_<;>intro h2 q2
 exfalso;have Sw:=DH.Dp h2;omega
 have Yh:=h2
 refine Tr.exit (Fin.Ac (Fin.Ac (Fin.A0 (Fin.Gx (jc c l) 0 rfl (P0) (Fin.l9 rfl)))))
theorem AED {l:List Int} {c:Int×Int→Int} {b0 cap N len:Nat} {sp:List Value} (hln:l.length=len) (Sz:len≤19) (hR0:∀x∈l,0≤x∧x<(N:Int)):BS prog 113 [is (.slice (some ⟨b0,0,none⟩) len cap),cQ prog (fun p:InN N=>[int p.1.1,int p.1.2]) (fun p=>int (c p.1))] (NI) (AF true b0 3 ((l.map (fun x:Int=>[int x])).flatten++sp.map is)) (fun _=>Ed b0 3 (fun x:Int=>[int x]) (jc c l) (sp.map is)):=by
 refine BS.of func113 rfl rfl Az fun M0 w0 S rs M1 w1=> ?_
 refine ap ?_
 refine tp rfl (K_ rfl underlying22 vq) (tm rfl (TO.GK 0 rfl rfl AB (Aj rfl rfl AB rfl (zz AA AA Bi) ⟨kq,kz⟩) (TO.KI 0 rfl fun t1 P0=> ?_)))
 have AEC:=P0.len
 refine TO.nil (Fin.Gx (jc c l) 0 rfl (P0) (Fin.l9 rfl))
theorem vo {rows:List (List Pr)} {b:Int} (hb:b≤1):BF prog 208 [slice 1 rows,int 0,int b,any] (NI):=by
 refine fo func208 rfl ⟨rfl,rfl⟩ fun M0 w0=> ?_
 refine ac ?_
 refine Tr.block (Tr.BE _ (kk [3,2,1,0] rfl) (fun i:Int=>[(8,int i)]) (fun i:Int=>i=1) (fun i:Int=>0) 1 (rfl) kz ?_)
 rintro i hi
 refine an ?_ ?_<;>intro h1 q1
 exfalso;have Sw:=DH.Dp h1;omega
 have Yh:=h1
 refine Tr.exit (Fin.Ac (Fin.Ac (Fin.A0 (Fin.yH rfl))))
theorem vp {rows:List (List Pr)} {b:Int} (h0:0≤b) (hb:b≤1):BF prog 165 [slice 1 rows,int b,any] (NI):=by
 refine fo func165 rfl ⟨rfl,rfl⟩ fun M0 w0=> ?_
 refine a2 ?_
 refine Tr.seq (Tr.block (Tr.BE _ (kk [6,2,1,0] rfl) (fun (u:Unit)=>[(7,int 0),(8,int 20)]) (fun (u:Unit)=>True) (fun (u:Unit)=>0) () (trivial) ⟨kq,kz⟩ ?_))
 rintro u _
 refine an ?_ ?_<;>intro h1 q1
 exfalso;have Sw:=DH.Dp h1;omega
 have Yh:=h1
 refine a2 ?_
 refine co rfl (AV rfl (vo AA) ⟨kq,kq,kq,⟨_,rfl,ko _⟩,trivial⟩) ?_
 refine ac ?_
 refine wk [6,2,1,0] rfl (Tr.block (Tr.BE _ (kk [2,1,0] rfl) (fun (u:Unit)=>[(6,int 20)]) (fun (u:Unit)=>True) (fun (u:Unit)=>0) () (trivial) kz ?_))
 rintro u _
 refine an ?_ ?_<;>intro h2 q2
 exfalso;have Sw:=DH.Dp h2;omega
 have Yh:=h2
 refine Tr.exit (Fin.Ac (Fin.Ac (Fin.A0 (Fin.yH rfl))))
theorem z7 {rows:List (List Pr)} (hs:rows.length≤1):BF prog 113 [slice 1 rows,any] (NI):=by
 refine fo func113 rfl ⟨rfl,rfl⟩ fun M0 w0=> ?_
 refine ac ?_
 refine co rfl (Ci rfl underlying22 vq) (cm rfl (co rfl (AV rfl (vp (rows:=rows) (b:=(rows.length:Int)) AA AA) ⟨kq,kq,⟨_,rfl,ko _⟩,trivial⟩) (Ch.nil (Fin.yH rfl))))
theorem AEE {l:List Int} {c:Int×Int→Int} {v:Value} {N:Nat} (hs:l.length≤19) (hR:∀x∈l,0≤x∧x<(N:Int)):BS Tryz.prog 113 [is v,cQ Tryz.prog (fun p:InN N=>[int p.1.1,int p.1.2]) (fun p=>int (c p.1))] NI (BG 3 1 (l.map (fun x:Int=>[int x])) v) (fun _=>RW 3 1 (fun x:Int=>[int x]) (jc c l) v):=by
 refine BS.tW (fun h=>⟨?_,?_⟩) (fun b cap sp=>AED rfl hs hR) (fun st h=>h.len) ⟨_,Tryz.func113,rfl,rfl⟩
 ·
  refine BF.le (z7 (rows:=[]) AB) ?_ (Pr.le_refl _)
  rintro M w vs hv
  match vs,hv with
  |[a,b],⟨h1,h2,h3⟩=>exact ⟨AQ _ M w a h1,trivial,h3⟩
 · subst h;rfl
def bH (d:List Int) (p:Int×Int):Int:=Ju (d.getD p.1.toNat 0) (d.getD p.2.toNat 0)
def Hl (n:Nat):List Int:=(List.range n).map fun i:Nat=>(i:Int)
theorem Gi (n:Nat):(Hl n).length=n:=by unfold Hl;rw [List.length_map,List.length_range]
theorem jd (n:Nat):Hl (n+1)=Hl n++[(n:Int)]:=by unfold Hl;rw [List.range_succ,List.map_append];rfl
theorem fQ {n i:Nat} (h:i<n):(Hl n)[i]? =some (i:Int):=by unfold Hl;rw [List.getElem?_map,List.getElem?_range h];rfl
theorem q_ {n:Nat}:∀x∈Hl n,0≤x∧x<(n:Int):=fun x hx=>by
 unfold Hl at hx
 obtain ⟨i,hi,rfl⟩:=List.mem_map.1 hx
 have:=List.mem_range.1 hi
 omega
def Jy (d:List Int):List Int:=isB (bH d) (Hl d.length) d.length
theorem vu {d st:List Int} (h:jc (bH d) (Hl d.length) st):st=Jy d:=by unfold jc at h;rw [Gi] at h;exact h
def vv (d:List Int) (a b:Int):Prop:=d.getD a.toNat 0<d.getD b.toNat 0∨d.getD a.toNat 0=d.getD b.toNat 0∧a<b
theorem vw {a b:Int}:Ju a b<0↔a<b:=by unfold Ju;split;omega;split<;>omega
theorem fR (d:List Int):(Jy d).Pairwise (vv d)∧(Jy d).Perm (Hl d.length):=by
 obtain ⟨st, h1, h2, h3⟩ := qv (c := bH d) (R := vv d) (l := Hl d.length) (fun a b e h1 h2 => by unfold vv at *; omega) (fun i j x y hij hx hy => by
  have hi:=BM hx
  have hj:=BM hy
  rw [Gi] at hi hj
  rw [fQ hi] at hx
  rw [fQ hj] at hy
  cases hx;cases hy
  unfold bH vv
  rw [vw]
  simp only
  omega) d.length Uz
 have h4:(Hl d.length).drop d.length=[]:=List.drop_eq_nil_of_le Uz
 have h5:(Hl d.length).take d.length=Hl d.length:=List.take_of_length_le Uz
 rw [h4,List.append_nil] at h1
 rw [h5] at h3
 unfold Jy
 rw [h1]
 exact ⟨h2,h3⟩
theorem je {l:List Ba} {r:List BH} {d:List Int} (p:InN d.length)  :BF prog 114 [int p.1.1,int p.1.2,ref [Da l,reqs r,ints d]] (int (bH d p.1)):=by
 refine fo func114 rfl ⟨rfl,rfl⟩ fun M0 w0=> ?_
 obtain ⟨P0,hp2⟩:=p.2
 obtain ⟨x,hx⟩:=at_ (l:=d) (k:=p.1.1.toNat) AA
 obtain ⟨y,hy⟩:=at_ (l:=d) (k:=p.1.2.toNat) AA
 refine a2 ?_
 refine co rfl (AD rfl underlying22 Bs vq vq AA (Bf hx)) ?_
 refine ac ?_
 refine co rfl (AD rfl underlying22 Bs vq vq AA (Bf hy)) (co rfl (F5 rfl Cs rfl) ?_)
 refine co rfl (CS (Ze (a:=x) (b:=y)) rfl rfl rfl) ?_
 refine a2 ?_
 · refine int_eq ?_;unfold bH;rw [List.getD_eq_getElem?_getD,List.getD_eq_getElem?_getD,hx,hy];rfl
theorem jf:Entry Tryz.prog 114:=⟨_,Tryz.func114,rfl,rfl⟩
theorem rA {l:List Ba} {r:List BH} {d:List Int} (hd:d.length≤19):BF prog 60 [agg [Da l,reqs r,ints d]] (ints (Jy d)):=by
 refine fo func60 rfl ⟨rfl,rfl⟩ fun M0 w0=> ?_
 refine a3 ?_
 refine Tr.block (Tr.GO 3 1 (Tr.Es _ (kk [7,1] rfl) (fun k v=>[(8,int ((k:Nat):Int)),(3,Aa v (lens ((Hl k).map fun n=>[int n]).length))]) (fun k v=>Hp M0 w0 Fo ([BG 3 1 ((Hl k).map fun n=>[int n]) v])) (fun k:Nat=>k≤(d).length) (fun k:Nat=>(d).length-k) 0 (.slice none 0 0) (Nat.zero_le _) ⟨ke rfl,⟨_,rfl,Gh (by rfl)⟩,trivial⟩ (fun _ _ h=>h) ?_))
 rintro k v BT
 refine ac ?_
 refine Tr.seq ?_
 refine Tr.cn rfl ?_ ?_<;>intro h1 q1
 have Ai:k<(d).length:=AH h1
 obtain ⟨x,Ah⟩:=at_ Ai
 refine a2 ?_
 refine ap ?_
 refine TO.Dl 0 rfl rfl AB (FW rfl rfl AB rfl underlying22 Bs Iw z3 rfl AB AB (vl rfl) (Kf rfl) (A7 fun _=>rfl) (Nat.zero_lt_succ _) (by simp only [List.length_map,List.length_cons,List.length_nil,Gi];unfold maxLen;omega) (by simp only [List.length_map,List.length_cons,List.length_nil,Gi];omega)) (fun v1=> ?_)
 refine ap ?_
 refine ac ?_
 rw [show (Hl k).map (fun n=>[int n])++[[int ((k:Nat):Int)]]=(Hl (k+1)).map (fun n=>[int n]) by rw [jd,List.map_append];rfl]
 exact Fin.DU (k+1) v1 (⟨Ai,by omega⟩) ⟨⟨_,rfl,AG k⟩,⟨_,rfl,C5 (by simp [Gi])⟩,kz⟩ (fun _ _ h=>h)
 have BP:k=(d).length:=by have:=AJ h1;omega
 subst BP
 refine ac ?_
 refine ap ?_
 refine TO.GK 0 rfl rfl AB (Aj rfl rfl AB rfl (AEE (l:=Hl d.length) (c:=bH d) (N:=d.length) (by rw [Gi];exact hd) q_) ⟨(Ka rfl),⟨_,rfl,E0 jf (fun p=>je p)⟩,trivial⟩) ?_
 refine TO.mG 0 3 rfl rfl (fun _=>rfl) (fun t1 P0=> ?_)
 have AEC:=P0.len
 refine ap ?_
 refine a2 ?_
 · rw [←vu P0];exact As _ _
end Go.Proofs.YtmocaapoeefgkaaGreatDoor
namespace Cp
open Go Go.RowKit Go.Great
section
variable {P:Program} {n:Fm} {E:Env} {M0:Av} {w0:World} {S:Nat→Prop} {o:Oper}
theorem z8 {j s:Nat} {R:SR} {p1:Pr} {R':Value→Aq} (hd:o.dst=none) (h1:E.lookup s=some p1) (hls:s∈looks o) (hg:o.guard=none) (h:∀v,C_ P M0 w0 S n j R (SR.c (R' v)) o ((s,Aa v p1)::E) any):C_ P M0 w0 S n j R ⟨s,R'⟩ o E any:=by
 refine ⟨hg,fun M w a rs hsz he hI hj=> ?_⟩
 refine D4.conv (Pr.le_refl _) (fun v=> ?_) ((h (a.tmps.getD s undef)).2 M w a rs hsz (FQ he s (he s p1 hls h1)) hI hj)
 rw [hd];rfl
theorem z_ {j s t:Nat} {f:Value→Aq} {p1:Pr} {R':Value→Value→Aq} (hd:o.dst=none) (h1:E.lookup t=some p1) (hlt:t∈looks o) (hg:o.guard=none) (h:∀u v,C_ P M0 w0 S n j (SR.c (f u)) (SR.c (R' u v)) o ((t,Aa v p1)::E) any):C_ P M0 w0 S n j ⟨s,f⟩ ⟨.two t s,UG R'⟩ o E any:=by
 refine ⟨hg,fun M w a rs hsz he hI hj=> ?_⟩
 refine D4.conv (Pr.le_refl _) (fun v=> ?_) ((h (a.tmps.getD s undef) (a.tmps.getD t undef)).2 M w a rs hsz (FQ he t (he t p1 hlt h1)) hI hj)
 rw [Ng,hd];rfl
def jg (u:Value):Value:=match u with| .tuple t=>t.getD 0 undef|_=>undef
theorem AAA {I:Ck} {x:Operand} {u:Value} {p:Pr} {ps:List Pr} (ho:o.op= .extract x 0) (hx:VL E x (Aa u (Dy (p::ps)))):Ae P I o E (Aa (jg u) p):=
 Ae.same fun M w a he _=>by
  obtain ⟨h0,cs,h1,h2⟩:=hx.ev he Ar
  match cs,h2 with
  |c::cs,⟨h3,_⟩=>
   have e1:u= .tuple (c::cs).toArray:=h0.symm.trans h1
   exact ⟨c,by simp [execOp,ho,h1,Instr.extract],by rw [e1];rfl,h3⟩
theorem WU {j d s:Nat} {f g:Value→Aq} {p p0:Pr} (φ:Value→Value) (hg:o.guard=none) (hd:o.dst=some d) (hn:d<n) (h1:E.lookup s=some p0) (hls:s∈looks o) (hfg:∀u,f u=g (φ u)) (h:∀u I,Ae P I o ((s,Aa u p0)::E) (Aa (φ u) p)):C_ P M0 w0 S n j ⟨s,f⟩ ⟨d,g⟩ o E p:=by
 refine ⟨hg,fun M w a rs hsz he hI hj=> ?_⟩
 have hj':rs[j]? =some (f (a.tmps.getD s undef)):=hj
 have hat:∀v,SR.at_ (a.put o.dst v) ⟨d,g⟩=g v:=fun v=>by show g ((a.put o.dst v).tmps.getD d undef)=_;rw [hd,B0 Gs]
 have V6:=h (a.tmps.getD s undef) (Hp M0 w0 S rs) M w a (FQ he s (he s p0 hls h1)) hI
 revert V6
 generalize (execOp a.eval o).run P w=r
 intro V6
 have key:∀v w',(Aa (φ (a.tmps.getD s undef)) p).h M w' v→Below w.heap.size w w'→∃M',p.h M' w' v∧Ext M w M' w'∧A8 M0 w0 S (rs.set j (SR.at_ (a.put o.dst v) ⟨d,g⟩)) M' w':=fun v w' hv hb=>by
  refine ⟨M,hv.2,Ext.below hb,?_⟩
  have e1:rs.set j (g v)=rs:=by
   rw [show v=φ (a.tmps.getD s undef) from hv.1,←hfg]
   apply List.ext_getElem?
   intro m
   rw [List.getElem?_set]
   by_cases him:j=m
   ·
    subst him
    have hl:=BM hj'
    rw [if_pos rfl,if_pos hl,hj']
   · rw [if_neg him]
  rw [hat,e1]
  exact (Hp M0 w0 S rs).st _ _ _ hb hI
 cases r with
 |halt x w'=>exact V6
 |ok x w'=>
  cases x
  case value v=>exact key v w' V6.1 V6.2
  case skip=>exact key undef w' V6.1 V6.2
  case enter f args=>
   obtain ⟨hb,hc⟩:=V6
   refine Calls.mono hc ?_
   rintro e w'' ⟨v,g0,g1,g2⟩
   obtain ⟨M',k1,k2,k3⟩:=key v w'' g1 (J_ hb g2)
   exact ⟨v,M',g0,k1,k2,k3⟩
  all_goals exact V6
def Np (T R:Aq):Aq:=⟨R.blk,R.new,fun M w=>(T.blk=none∧T.h M w)∧R.h M w,fun M w M' w' he hk h=>⟨⟨h.1.1,T.st M w M' w' he (fun b hb=>by rw [h.1.1] at hb;cases hb) h.1.2⟩,R.st M w M' w' he hk h.2⟩⟩
theorem E4.both {f:FuncId} {args:List Pr} {T:Aq} (hT:T.blk=none) {p k:Pr} {R:Value→Aq} (h:E4 (α:=Value) P f args [T] (fun _=>True) (fun x=>Dy [Aa x p,k]) (fun x=>[T,R x])):BS P f args (Dy [p,k]) T (fun u=>Np T (R (jg u))):=by
 refine ⟨h.1,fun M0 w0 S rs M w vs hI hv=>(h.2 M0 w0 S rs M w vs hI hv).mono ?_⟩
 rintro e' w' ⟨u,M',x,rfl,_,h1,h2,h3⟩
 have h3:A8 M0 w0 S (T::R x::rs) M' w':=h3
 obtain ⟨cs,rfl,g2⟩:=h1
 match cs,g2 with
 |[a,b],⟨⟨e1,g3⟩,g4,_⟩=>
  have e1:a=x:=e1
  subst e1
  have hh:=(h3.hold T (List.mem_cons_self ..)).1
  have h4:=(A8.perm (List.Perm.swap _ _ _) h3).CV (i:=0) (r':=Np T (R a)) rfl rfl rfl ⟨⟨hT,hh⟩,(h3.hold (R a) (List.mem_cons_of_mem _ (List.mem_cons_self ..))).1⟩
  exact ⟨_,M',rfl,⟨[a,b],rfl,g3,g4,trivial⟩,h2,(A8.perm (List.Perm.swap _ _ _) h4).KD⟩
end
section
variable {P:Program} {n:Fm} {E:Env} {M0:Av} {w0:World} {S:Nat→Prop} {rs:List Aq}
theorem Fin.AAB {Q:Exit→Act→World→Prop} {x:Exit} {T R:Aq} (j:Nat) (hj:rs[j]? =some (Np T R)) (k:Fin n E (Hp M0 w0 S (T::rs.set j R)) Q x):Fin n E (Hp M0 w0 S rs) Q x:=
 Fin.conv (fun a w hs=>by
  obtain ⟨M,h1,h2,h3,h4⟩:=hs
  have h4:A8 M0 w0 S rs M w:=h4
  obtain ⟨⟨g1,g2⟩,g3⟩:=(h4.hold _ (List.mem_of_getElem? hj)).1
  exact ⟨M,h1,h2,h3,(h4.CV (r':=R) hj rfl rfl g3).I0 g1 g2⟩) k
theorem Fin.AAC {Q:Exit→Act→World→Prop} {x:Exit} {b cap sz:Nat} {e:TypeId} {rows:List (List Pr)} {sp:List Value} (j:Nat) (hj:rs[j]? =some (AF true b e (rows.flatten++sp.map is))) (hc:rows.length≤cap) (hm:cap≤maxLen) (hq:sp.length=(cap-rows.length)*sz)
  (k:Fin n E (Hp M0 w0 S (rs.set j (BG e sz rows (.slice (some ⟨b,0,none⟩) rows.length cap)))) Q x):Fin n E (Hp M0 w0 S rs) Q x:=
 Fin.conv (fun a w hs=>by
  obtain ⟨M,h1,h2,h3,h4⟩:=hs
  have h4:A8 M0 w0 S rs M w:=h4
  exact ⟨M,h1,h2,h3,h4.CV hj rfl rfl (.inr ⟨b,cap,sp,rfl,hc,hm,hq,(h4.hold _ (List.mem_of_getElem? hj)).1⟩)⟩) k
end
section
variable {P:Program} {g:Func} {fz:Nat} {E:Env} {M0 M1:Av} {w0 w1:World} {S:Nat→Prop} {rs:List Aq}
theorem Fin.AEF {α:Type} {C:α→Prop} {rv:ResultVar} {q:Pr} {res:α→Pr} {post:α→List Aq} {rs':List Aq} (x:α) (dr:List Aq) (hr:g.results= #[rv]) (h:AL P E rs' rv q) (hc:C x) (hl:Pr.le q (res x)) (hp:rs'.Perm (dr++(post x++Ak M1 w1::rs))):
  Fin ⟨fz,[]⟩ E (Hp M0 w0 S rs') (bodyPost P g (O0 M0 w0 S rs M1 w1 C res post)) .ret:=by
 rintro a w ⟨M,_,hd,he,hi⟩
 have hi:A8 M0 w0 S rs' M w:=hi
 obtain ⟨u,hu,hp'⟩:=h M w a he (fun q hq=>(hi.hold q hq).1)
 obtain ⟨h1,h2⟩:=ID (A8.mI (A8.perm hp hi))
 exact ⟨hd,u,results1 hr hu,_,M,x,rfl,hc,hl _ _ _ hp',h1,h2⟩
end
end Cp
namespace Go.Proofs.YtmocaapoeefgkaaGreatDoor
open Go Go.RowKit Cp Go.Proofs.Tryz
theorem v_ {β:Type} {p:β→Bool} {l:List β} (h:¬idx p l= -1):0≤idx p l∧(idx p l).toNat<l.length∧XN p l l (idx p l).toNat ((idx p l).toNat+1):=by
 unfold idx at h ⊢
 cases hf:l.findIdx? p with
 |none=>rw [hf] at h;exact absurd rfl h
 |some i=>
  rw [List.findIdx?_eq_some_iff_getElem] at hf
  obtain ⟨h1,h2,h3⟩:=hf
  refine ⟨by simp,by simpa using h1,rfl,by simp,by simp only [Int.toNat_natCast];omega,?_,rfl⟩
  simp only [Int.toNat_natCast]
  rw [List.take_add_one,List.getElem?_eq_getElem h1,List.filter_append]
  have:(l.take i).filter (fun x=> !p x)=l.take i:=by
   rw [List.filter_eq_self];intro x hx
   obtain ⟨j,hj,rfl⟩:=List.mem_iff_getElem.1 hx
   rw [List.length_take] at hj
   have:=h3 j AA
   simpa using this
  rw [this];simp [h2]
theorem wA {β:Type} {p:β→Bool} {l:List β} (h:idx p l= -1):l.filter (fun x=> !p x)=l:=by
 unfold idx at h
 cases hf:l.findIdx? p with
 |none=>rw [List.findIdx?_eq_none_iff] at hf;rw [List.filter_eq_self];intro x hx;simpa using hf x hx
 |some i=>rw [hf] at h;exact absurd h AU
abbrev Qa (n:Nat):={i:Int//0≤i∧i<(n:Int)}
abbrev It {n:Nat} (i:Qa n):List Pr:=[int i.1]
abbrev AEG {n:Nat} (l:List (Qa n)):Pr:=slice 1 (l.map It)
theorem toZ {n:Nat}:∀{L:List Int},(∀x∈L,0≤x∧x<(n:Int))→∃l:List (Qa n),l.map (·.1)=L
 |[],_=>⟨[],rfl⟩
 |x::L,h=>by
  obtain ⟨l,hl⟩:=toZ (L:=L) (fun y hy=>h y (List.mem_cons_of_mem _ hy))
  exact ⟨⟨x,h x (List.mem_cons_self ..)⟩::l,by rw [List.map_cons,hl]⟩
theorem fS {n:Nat} (l:List (Qa n)):(l.map (·.1)).map (fun n=>[int n])=l.map It:=by rw [List.map_map];rfl
theorem xI {n:Nat} (l:List (Qa n)) (q:Int→Bool):(l.filter fun x=>q x.1).map (·.1)=(l.map (·.1)).filter q:=by
 induction l with
 |nil=>rfl
 |cons a l ih=>rw [List.map_cons,List.filter_cons,List.filter_cons];split<;>simp [ih]
theorem Nq {n:Nat} {l:List (Qa n)} {p:Qa n→Bool}  :BF prog 167 [AEG l,cQ prog (fun x:Qa n=>[int x.1]) (fun x=>bool (p x))] (int (idx p l)):=by
 refine fo func167 rfl ⟨rfl,rfl⟩ fun M0 w0=>(Tr.Cl 0 rfl fun EH=> ?_)
 refine a2 ?_
 refine Tr.block (Tr.BE _ (kk [7,1,0] rfl) (fun k:Nat=>[(8,int ((k:Nat):Int))]) (fun k:Nat=>k≤(l).length∧(∀j y,j<k→l[j]? =some y→p y=false)) (fun k:Nat=>(l).length-k) 0 (⟨Nat.zero_le _,fun j y hj=>absurd hj AA⟩) kz ?_)
 rintro k ⟨BT,AX⟩
 refine ac ?_
 refine Tr.seq ?_
 refine Tr.cn rfl ?_ ?_<;>intro h1 q1
 have Ai:k<(l).length:=AH h1
 obtain ⟨x,Ah⟩:=at_ Ai
 · repeat' first|exact int_eq (EX Ah Bi AX)|exact Fin.AO (k+1) ⟨⟨Ai,Db Ah Bi AX⟩,by omega⟩ ⟨⟨_,rfl,AG k⟩,kz⟩|refine co rfl (AD rfl underlying51 Bs vq vq AA CO) ?_|refine co rfl (F5 rfl Cs rfl) (co rfl (J7 x rfl vq kz) ?_)|refine ac ?_|(refine Tr.cn rfl ?_ ?_<;>intro h q)
 have BP:k=(l).length:=by have:=AJ h1;omega
 subst BP
 refine a3 ?_
 · exact int_eq (Fz AX)
theorem Ub {n:Nat} {l:List (Qa n)} {p:Qa n→Bool} {b cap:Nat} {sp:List Value} (hc:(l.map It).length≤cap) (hm:cap≤maxLen) (hq:sp.length=(cap-(l.map It).length)*1):BS prog 118 [is (.slice (some ⟨b,0,none⟩) (l.map It).length cap),cQ prog (fun x:Qa n=>[int x.1]) (fun x=>bool (p x))] (is (.slice (some ⟨b,0,none⟩) ((l.filter fun x=> !p x).map It).length cap)) (AF true b 3 ((l.map It).flatten++sp.map is)) (fun _=>AF true b 3 (((l.filter fun x=> !p x).map It).flatten++((List.replicate (l.length-(l.filter fun x=> !p x).length) [int 0]).flatten++sp.map is))):=by
 refine BS.of func118 rfl rfl Az fun M0 w0 S rs M1 w1=> ?_
 have hlm:(l.map It).length=l.length:=List.length_map ..
 have hmx:cap≤9223372036854775807:=by unfold maxLen at hm;omega
 refine ac ?_
 refine ap ?_
 refine TO.GK 0 rfl rfl AB (tR (l.map It) rfl rfl AB rfl (Nq (l:=l) (p:=p)) (A7 fun _=>rfl) hc hm (by rw [List.length_map];exact hq) ⟨.inr ⟨(vl rfl),As _ _⟩,.inl (ke rfl),trivial⟩) ?_
 refine ap ?_
 refine an ?_ ?_<;>intro h1 q1
 have hno:=wA (p:=p) (l:=l) I5
 refine ac ?_
 refine Tr.ret (Fin.AE ?_)
 refine Fin.ED rfl rfl ?_ (fun _ _ _ _=>by rw [hno,Nat.sub_self];rfl)
 · rw [hno];exact Lr
 obtain ⟨hi0,F6,bC⟩:=v_ (p:=p) (l:=l) I5
 refine a2 ?_
 refine Tr.block (Tr.NA _ (kk [1,0] rfl) (fun (st:List (Qa n)) (i:Nat) (j:Nat)=>[(5,int ((i:Nat):Int)),(6,int ((j:Nat):Int))]) (fun (st:List (Qa n)) (i:Nat) (j:Nat)=>Hp M0 w0 S (AF true b 3 ((st.map It).flatten++sp.map is)::Ak M1 w1::rs)) (fun (st:List (Qa n)) (i:Nat) (j:Nat)=>XN p l st i j) (fun (st:List (Qa n)) (i:Nat) (j:Nat)=>l.length-j) (l) ((idx p l).toNat) ((idx p l).toNat+1)  (bC) ⟨⟨_,rfl,int_eq AA⟩,⟨_,rfl,int_eq AA⟩,trivial⟩ (fun _ _ h=>h) ?_)
 rintro st i j  bC
 obtain ⟨Z_,hij,hjl,htk,hdr⟩:=id bC
 refine ac ?_
 refine co rfl (K_ rfl underlying51 (vl rfl)) ?_
 refine an ?_ ?_<;>intro h2 q2
 have AHW:j<l.length:=by have:=AH h2;omega
 obtain ⟨x,hlx⟩:=at_ (l:=l) (k:=j) AHW
 have hx:st[j]? =some x:=(yK bC).trans hlx
 refine a2 ?_
 refine co rfl (BL rfl underlying51 Bs (vl rfl) (vl rfl) AA AA) ?_
 refine co rfl (CN 0 rfl (A_ rfl Cs (vl rfl) (XO (f:=It) (fun _=>rfl) U0 rfl))) ?_
 refine a2 ?_
 refine co rfl (J7 x rfl (vl rfl) kz) ?_
 refine ac ?_
 refine wk [29,7,6,5,1,0] rfl ?_
 refine Tr.cn rfl ?_ ?_<;>intro h3 q3
 refine ap ?_
 refine tp rfl (BL rfl underlying51 Bs (vl rfl) (vl rfl) AA AA) ?_
 refine TO.DG 0 rfl rfl (Aw rfl rfl (vl rfl) (Vo rfl) Bs rfl Qv (ZV (f:=It) (x:=x) (fun _=>rfl) AA)) ?_
 refine ap ?_
 refine a2 ?_
 exact Fin.FK (st.set i x) (i+1) (j+1)  (⟨mB bC hlx Br,by omega⟩) ⟨⟨_,rfl,AG i⟩,⟨_,rfl,AG j⟩,kz⟩ (fun _ _ h=>h)
 refine a2 ?_
 exact Fin.FK (st) (i) (j+1)  (⟨mC bC hlx Br,by omega⟩) ⟨ke rfl,⟨_,rfl,AG j⟩,kz⟩ (fun _ _ h=>h)
 have hje:j=l.length:=by have:=AJ h2;omega
 subst hje
 obtain ⟨he1,he2,he3,he4⟩:=tU bC
 refine ac ?_
 refine ap ?_
 refine tp rfl (S7 rfl underlying51 Bs (vl rfl) (vl rfl) AA AA AA) ?_
 refine TO.DG 0 rfl rfl (l_ rfl rfl underlying51 Bs z3 rfl AB AB (vl rfl) AA Qv (VZ (f:=It) (fun _=>rfl) rfl AA AA)) ?_
 refine ap ?_
 refine ac ?_
 refine co rfl (Oz rfl underlying51 Bs (vl rfl) (vl rfl) AA AA AA AA) ?_
 refine ac ?_
 refine wk [4] rfl (Tr.ret ?_)
 refine Fin.ED rfl rfl ?_ (fun _ _ _ _=>by rw [←he2,←he1,←he3,List.append_assoc];rfl)
 · refine Pr.le_of_eq ?_;rw [List.length_map,←he2,Int.toNat_natCast]
theorem Sg {n:Nat} {p:Qa n→Bool}  :BF prog 118 [is (.slice none 0 0),cQ prog (fun x:Qa n=>[int x.1]) (fun x=>bool (p x))] (is (.slice none 0 0)):=by
 refine fo func118 rfl ⟨rfl,rfl⟩ fun M0 w0=> ?_
 · repeat' first|exact Lr|(exfalso;simp [idx] at h)|refine co rfl (AV rfl (Nq (l:=[]) (p:=p)) ⟨⟨_,rfl,AQ 1⟩,kz⟩) ?_|refine ac ?_|(refine Tr.cn rfl ?_ ?_<;>intro h q)
theorem fT {l:List Ba} {r:List BH} {d:List Int} {day:Int} (x:Qa d.length)  :BF prog 119 [int x.1,ref [Da l,reqs r,ints d],ref [int day]] (bool (decide (d.getD x.1.toNat 0>day))):=by
 refine fo func119 rfl ⟨rfl,rfl⟩ fun M0 w0=> ?_
 have hxp:=x.2
 have hdx:=FL (l:=d) (i:=x.1.toNat) AA
 refine a2 ?_
 refine co rfl (AD rfl underlying22 Bs vq vq AA (Bf hdx)) ?_
 refine a2 ?_
 · exact Lr
theorem fU:Entry Tryz.prog 119:=⟨_,Tryz.func119,rfl,rfl⟩
def jh (r:List BH) (d s:List Int):Int:=if Gz (d.length:Nat) r s=0 then 0 else 46
def E6 (r:List BH) (d s:List Int) (day:Int):List Int:=(JY (d.length:Nat) r s).filter fun i=> !decide (d.getD i.toNat 0>day)
theorem WV {n:Nat} {r:List BH} {s:List Int}:∀x∈JY (n:Int) r s,0≤x∧x<(n:Int):=fun x hx=>by
 unfold JY at hx
 split at hx
 ·
  unfold EU at hx
  obtain ⟨i,hi,rfl⟩:=List.mem_map.1 hx
  have:=List.mem_range.1 (List.mem_filter.1 hi).1
  omega
 · cases hx
theorem rB {r:List BH} {d s:List Int} (h:Gz (d.length:Nat) r s=0):jh r d s=0:=by unfold jh;rw [if_pos h]
theorem AAD {r:List BH} {d s:List Int} {day:Int} (h:Gz (d.length:Nat) r s≠0):jh r d s=46∧E6 r d s day=[]:=by
 unfold jh E6;rw [if_neg h,WG rfl h];exact ⟨rfl,rfl⟩
theorem rC (k:Nat) (sp:List Value):(List.replicate k [int 0]).flatten++sp.map is=((List.replicate k (Value.int .i64 0))++sp).map is:=by rw [List.flatten_replicate_singleton,List.map_append,List.map_replicate]
theorem AAE {cap n m:Nat} (h1:n≤cap) (h2:m≤n):(n-m)*1+(cap-n)*1=(cap-m)*1:=by omega
theorem wB {l:List Ba} {r:List BH} {d s:List Int} {day:Int}  :E4 (α:=Value) prog 63 [agg [Da l,reqs r,ints d],ints s,int day] [CY] (fun _=>True) (fun v=>Dy [Aa v (lens ((E6 r d s day).map (fun n=>[int n])).length),int (jh r d s)]) (fun v=>[CY,BG 3 1 ((E6 r d s day).map (fun n=>[int n])) v]):=by
 refine E4.of func63 rfl rfl Az fun M0 w0 S rs M1 w1=> ?_
 obtain ⟨lz,hlz⟩:=toZ (WV (n:=d.length) (r:=r) (s:=s))
 have hfz:((lz.filter fun x=> !decide (d.getD x.1.toNat 0>day)).map It)=(E6 r d s day).map (fun n=>[int n]):=by rw [←fS];unfold E6;rw [←hlz];exact congrArg (List.map fun n=>[int n]) (xI lz (fun i=> !decide (d.getD i.toNat 0>day)))
 refine ac ?_
 refine ap ?_
 refine TO.NK _ rfl rfl AB rfl (ig (n:=((d.length:Nat):Int)) (l:=r) (s:=s)) ⟨kq,kz⟩ ((Cm (j:=0) rfl).trans (List.Perm.cons _ (List.Perm.refl _))) (fun x1 _=> ?_)
 refine ap ?_
 refine wk [9,8,5,3] rfl ?_
 refine an ?_ ?_<;>intro h1 q1
 obtain ⟨hd1,hd2⟩:=AAD (r:=r) (d:=d) (s:=s) (day:=day) I5
 refine ac ?_
 refine Tr.ret (Fin.AE (Fin.GO 3 1 (Fin.HO ?_)))
 refine Fin.F4 1 (BG 3 1 ((E6 r d s day).map (fun n=>[int n])) (.slice none 0 0)) rfl (by rw [hd2];rfl) ?_
 refine Fin.drop 2 (Fin.Ie ((.slice none 0 0)) rfl (AL.tmp rfl Lr) (AL.tmp rfl Lr) trivial ?_ (List.Perm.refl _))
 · exact Ay ⟨Gh (by rw [hd2];rfl),int_eq hd1.symm,trivial⟩
 have ha0:Gz ((d.length:Nat):Int) r s=0:=by simpa using h1
 refine ac ?_
 refine Tr.seq (Tr.X8 1 rfl (fun xL AAF=> ?_) ?_)
 subst AAF
 refine Tr.re 8 rfl (EC _ _:Pr.le _ (is (.slice none 0 0))) ?_
 refine ac ?_
 refine co rfl (AV rfl (Sg (p:=(fun x:Qa d.length=>decide (d.getD x.1.toNat 0>day)))) ⟨kq,⟨_,rfl,E0 fU (fun x=>fT x)⟩,trivial⟩) ?_
 refine ac ?_
 refine Tr.ret (Fin.GO 3 1 (Fin.HO ?_))
 refine Fin.F4 1 (BG 3 1 ((E6 r d s day).map (fun n=>[int n])) (.slice none 0 0)) rfl bf ?_
 refine Fin.drop 2 (Fin.Ie ((.slice none 0 0)) rfl (AL.tmp rfl Lr) (AL.tmp rfl Lr) trivial ?_ (List.Perm.refl _))
 · exact Ay ⟨Gh bf,int_eq (rB ha0).symm,trivial⟩
 refine Tr.Ox 1 rfl fun b1 AAG sp1 Yk hg1 hm1 hs1=> ?_
 subst Yk
 rw [←hlz,fS] at hg1 hs1 ⊢
 refine ap ?_
 refine TO.GK 1 rfl rfl AB (Aj rfl rfl AB rfl (Ub (l:=lz) (p:=(fun x:Qa d.length=>decide (d.getD x.1.toNat 0>day))) (sp:=sp1) hg1 hm1 hs1) ⟨KJ,⟨_,rfl,E0 fU (fun x=>fT x)⟩,trivial⟩) ?_
 refine ap ?_
 refine Tr.ret ?_
 have AIq:(lz.filter fun x=> !decide (d.getD x.1.toNat 0>day)).length≤lz.length:=List.length_filter_le _ _
 have AHX:=hg1
 rw [List.length_map] at AHX
 refine Fin.AAC (sz:=1) (rows:=(lz.filter fun x=> !decide (d.getD x.1.toNat 0>day)).map It) (sp:=List.replicate (lz.length-(lz.filter fun x=> !decide (d.getD x.1.toNat 0>day)).length) (.int .i64 0)++sp1) 1 (by rw [←rC];rfl) C1 hm1 (by rw [List.length_append,List.length_replicate,hs1,List.length_map,List.length_map];omega) ?_
 refine Fin.F4 1 (BG 3 1 ((E6 r d s day).map (fun n=>[int n])) (.slice (some ⟨b1,0,none⟩) ((lz.filter fun x=> !decide (d.getD x.1.toNat 0>day)).map It).length AAG)) rfl (by rw [hfz]) (Fin.Ie ((.slice (some ⟨b1,0,none⟩) ((lz.filter fun x=> !decide (d.getD x.1.toNat 0>day)).map It).length AAG)) rfl (AL.tmp rfl Lr) (AL.tmp rfl Lr) trivial ?_ (List.Perm.refl _))
 · exact Ay ⟨fun _ _ _ h=>⟨h,_,_,(show _=_ from h).trans (by rw [hfz])⟩,int_eq (rB ha0).symm,trivial⟩
-- AHY to an ascending set (behind Rq.lean)
theorem Sh {x:Int}:∀(s q:List Int),x∉s→s.foldl (Df x true) (q,true)=(q++s,true)
 |[],q,_=>by simp
 |y::s,q,h=>by
  have hy:y≠x:=fun e=>h (by rw [e];exact List.mem_cons_self ..)
  rw [List.foldl_cons,show Df x true (q,true) y=(q++[y],true) by unfold Df;rw [if_neg hy];simp]
  rw [Sh s (q++[y]) (fun hh=>h (List.mem_cons_of_mem _ hh))];simp
theorem fV {x:Int}:∀(s acc:List Int),(acc++s).Pairwise (· < ·)→x∉s→(∀y∈acc,y<x)→(if (s.foldl (Df x true) (acc,false)).2=false then (s.foldl (Df x true) (acc,false)).1++[x] else (s.foldl (Df x true) (acc,false)).1).Pairwise (· < ·)
 |[],acc,h,_,ha=>by
  simp only [List.foldl_nil,if_true]
  rw [List.append_nil] at h
  rw [List.pairwise_append]
  exact ⟨h,List.pairwise_singleton _ _,fun a h1 b h2=>by rw [List.mem_singleton] at h2;subst h2;exact ha a h1⟩
 |y::s,acc,h,hx,ha=>by
  have hy:y≠x:=fun e=>hx (by rw [e];exact List.mem_cons_self ..)
  have hxs:x∉s:=fun hh=>hx (List.mem_cons_of_mem _ hh)
  rw [List.foldl_cons]
  rcases Int.lt_or_le x y with hxy|hxy
  ·
   rw [show Df x true (acc,false) y=(acc++[x]++[y],true) by unfold Df;rw [if_neg hy,if_pos ⟨rfl,rfl,hxy⟩],Sh s _ hxs]
   rw [if_neg AU]
   simp only [List.append_assoc,List.singleton_append]
   rw [List.pairwise_append] at h ⊢
   obtain ⟨h1,h2,h3⟩:=h
   rw [List.pairwise_cons] at h2
   refine ⟨h1,List.pairwise_cons.2 ⟨fun b hb=> ?_,List.pairwise_cons.2 h2⟩,fun a h4 b h5=> ?_⟩
   ·
    rcases List.mem_cons.1 hb with rfl|hb
    · exact hxy
    · exact Int.lt_trans hxy (h2.1 b hb)
   ·
    rcases List.mem_cons.1 h5 with rfl|h5
    · exact ha a h4
    · exact h3 a h4 b h5
  ·
   have hlt:y<x:=by omega
   rw [show Df x true (acc,false) y=(acc++[y],false) by unfold Df;rw [if_neg hy,if_neg (fun hh=>by have:=hh.2.2;omega)]]
   refine fV s (acc++[y]) (by rw [List.append_assoc];exact h) hxs fun b hb=> ?_
   rcases List.mem_append.1 hb with hb|hb
   · exact ha b hb
   · rw [List.mem_singleton] at hb;subst hb;exact hlt
theorem YZ {s:List Int} {x:Int} (h:s.Pairwise (· < ·)) (hx:x∉s):(EA s x true).Pairwise (· < ·):=by
 have h1:=fV s [] h hx (fun y hy=>by cases hy)
 unfold EA wall
 simpa using h1
theorem Qb {n:Nat} {l:List BH} {s:List Int} {x:Int} (h:x∈EU n l s true):(0≤x∧x<(n:Int))∧x∉s∧CR l (EA s x true)=true:=by
 unfold EU at h
 obtain ⟨i,hi,rfl⟩:=List.mem_map.1 h
 obtain ⟨h1,h2⟩:=List.mem_filter.1 hi
 have h3:=List.mem_range.1 h1
 unfold Jw at h2
 rw [Bool.and_eq_true] at h2
 refine ⟨by omega,fun hc=> ?_,h2.2⟩
 rw [Dv.2 hc] at h2
 exact absurd h2.1 AB
theorem wC {n:Nat} {l:List BH} {s:List Int} (h:∀i:Nat,i<n→(i:Int)∈s):EU n l s true=[]:=by
 unfold EU
 rw [List.map_eq_nil_iff,List.filter_eq_nil_iff]
 intro i hi
 unfold Jw
 rw [Dv.2 (h i (List.mem_range.1 hi))]
 simp
theorem rD {n:Nat} {s:List Int} (h:s.length<n):∃i:Nat,i<n∧(i:Int)∉s:=by
 refine Classical.byContradiction fun hc=> ?_
 have h2:∀x∈(List.range n).map fun i:Nat=>(i:Int),x∈s:=fun x hx=>by
  obtain ⟨i,hi,rfl⟩:=List.mem_map.1 hx
  exact Classical.byContradiction fun hn=>hc ⟨i,List.mem_range.1 hi,hn⟩
 have h3:=LI (L:=(List.range n).map fun i:Nat=>(i:Int)) (M:=s) (List.Pairwise.map _ (fun a b hab e=>hab AA) (List.nodup_range (n:=n))) h2
 rw [List.length_map,List.length_range] at h3
 omega
theorem rE {n:Nat} {s:List Int} (hp:s.Pairwise (· < ·)) (hr:∀x∈s,0≤x∧x<(n:Int)) (h:s.length=n):∀i:Nat,i<n→(i:Int)∈s:=fun i hi=>by
 refine Classical.byContradiction fun hn=> ?_
 have hnd:s.Nodup:=hp.imp (fun hab e=>by omega)
 have h3:=LI (L:=(i:Int)::s) (M:=(List.range n).map fun i:Nat=>(i:Int)) (List.nodup_cons.2 ⟨hn,hnd⟩) (fun x hx=>by
  rcases List.mem_cons.1 hx with rfl|hx
  · exact List.mem_map.2 ⟨i,List.mem_range.2 hi,rfl⟩
  ·
   have:=hr x hx
   exact List.mem_map.2 ⟨x.toNat,List.mem_range.2 AA,by omega⟩)
 rw [List.length_map,List.length_range,List.length_cons] at h3
 omega
theorem bI:∀(l:List Int) (a:Int),a≤l.foldl max a∧(∀x∈l,x≤l.foldl max a)
 |[],a=>⟨Int.le_refl _,(fun x h=>by cases h)⟩
 |b::l,a=>by
  obtain ⟨h1,h2⟩:=bI l (max a b)
  rw [List.foldl_cons]
  refine ⟨by omega,fun x hx=> ?_⟩
  rcases List.mem_cons.1 hx with rfl|hx
  · omega
  · exact h2 x hx
theorem Nn.days {m:Nat} {l:List Ba} {r:List BH} {d:List Int} (h:Nn m l r d):∀x∈d,0≤x:=fun x hx=>by
 obtain ⟨j,hj⟩:=List.mem_iff_getElem?.1 hx
 have hjl:=BM hj
 rw [h.dl] at hjl
 obtain ⟨c,hc⟩:=at_ hjl
 exact (h.dd j x c hjl hj hc).1.1
theorem AAH {n:Nat} {s:List Int} (hp:s.Pairwise (· < ·)) (hr:∀x∈s,0≤x∧x<(n:Int)):Dc (n:Int) s=true:=by
 unfold Dc
 rw [B_]
 intro j hj
 have h1:=hr _ (List.getElem_mem hj)
 unfold setAt
 rw [List.getElem?_eq_getElem hj]
 simp only [Option.getD_some,Bool.and_eq_true,Bool.or_eq_true,decide_eq_true_eq]
 refine ⟨h1,?_⟩
 rcases Nat.eq_zero_or_pos j with h0|h0
 · exact .inl h0
 ·
  right
  rw [List.getElem?_eq_getElem (show j-1<s.length by omega)]
  exact List.pairwise_iff_getElem.1 hp (j-1) j AA hj AA
structure G3 (n:Nat) (r:List BH) (s:List Int):Prop where
 asc:s.Pairwise (· < ·)
 QN:∀x∈s,0≤x∧x<(n:Int)
 cl:CR r s=true
theorem G3.nil (n:Nat) (r:List BH):G3 n r []:=⟨List.Pairwise.nil,(fun x h=>by cases h),Cd.2 fun q _ h=>by cases h⟩
theorem G3.set {n:Nat} {r:List BH} {s:List Int} (h:G3 n r s):Dc (n:Int) s=true:=AAH h.asc h.QN
theorem G3.next {n:Nat} {r:List BH} {s:List Int} {x:Int} (h:G3 n r s) (hx:x∈EU n r s true):G3 n r (EA s x true)∧(EA s x true).length=s.length+1:=by
 obtain ⟨h1,h2,h3⟩:=Qb hx
 refine ⟨⟨YZ h.asc h2,fun y hy=> ?_,h3⟩,G8 h2⟩
 rcases DO.1 hy with rfl|hy
 · exact h1
 · exact h.QN y hy
theorem G3.due {r:List BH} {d s:List Int} (hv:BD (d.length:Nat) r=0) (h:G3 d.length r s):jh r d s=0∧JY (d.length:Nat) r s=EU d.length r s true:=by
 have h0:=qC hv h.set h.cl
 exact ⟨rB h0,by unfold JY;rw [if_pos h0];rfl⟩
theorem G3.all {r:List BH} {d s:List Int} (hv:BD (d.length:Nat) r=0) (h:G3 d.length r s):E6 r d s (Ez d)=EU d.length r s true:=by
 unfold E6
 rw [(h.due hv).2,List.filter_eq_self]
 intro x hx
 have hr:=(Qb hx).1
 have hdx:=FL (l:=d) (i:=x.toNat) AA
 have:=(bI d (-1)).2 _ (List.mem_of_getElem? hdx)
 rw [Bool.not_eq_true',decide_eq_false_iff_not]
 unfold Ez
 omega
theorem G3.none {r:List BH} {d s:List Int} (h:G3 d.length r s) (hl:s.length=d.length):EU d.length r s true=[]:=wC (rE h.asc h.QN hl)
theorem G3.some {r:List BH} {d s:List Int} (hv:BD (d.length:Nat) r=0) (h:G3 d.length r s) (hl:s.length<d.length):EU d.length r s true≠[]:=by
 obtain ⟨i,hi,hn⟩:=rD hl
 exact Z6 (n:=((d.length:Nat):Int)) hv h.cl (by simpa using hi) hn
abbrev FR (l:List Ba) (r:List BH) (d:List Int) (day:Int) (st tr:List Int) (sp:Bool):List Pr:=[Da l,reqs r,ints d,int day,ints st,ints tr,Cp.bool sp]
def Oi (m x:Int):Bool:=decide (x<0∨x>m)
abbrev ID (m:Int) (l:List Int):Bool:=l.any (Oi m)
def Bo (st:List Int):List Int:=((List.range st.length).filter fun i:Nat=>decide (st.getD i 0=1)).map fun i:Nat=>(i:Int)
def MZ (st:List Int) (k:Nat):List Int:=((List.range k).filter fun i:Nat=>decide (st.getD i 0=1)).map fun i:Nat=>(i:Int)
theorem Ya {st:List Int} {k:Nat} {x:Int} (hx:st[k]? =some x):MZ st (k+1)=if x=1 then MZ st k++[(k:Int)] else MZ st k:=by
 have h:st.getD k 0=x:=by rw [List.getD_eq_getElem?_getD,hx];rfl
 unfold MZ
 rw [List.range_succ,List.filter_append,List.map_append]
 simp only [List.filter_cons,List.filter_nil,h]
 split<;>simp_all
theorem bJ (st:List Int) (k:Nat):(MZ st k).length≤k:=by unfold MZ;rw [List.length_map];exact Nat.le_trans (List.length_filter_le _ _) Pc
theorem Uc {st:List Int} (h:∀x∈st,x≠1):Bo st=[]:=by
 unfold Bo
 rw [List.map_eq_nil_iff,List.filter_eq_nil_iff]
 intro i hi
 have hi:=List.mem_range.1 hi
 have:=h _ (List.getElem_mem hi)
 rw [List.getD_eq_getElem?_getD,List.getElem?_eq_getElem hi]
 simpa using this
theorem Ku (n:Nat):Bo (List.replicate n 0)=[]:=Uc fun x hx=>by rw [List.eq_of_mem_replicate hx];decide
def WW (n:Nat) (r:List BH) (d:List Int) (day:Int) (st tr:List Int):Bool:=decide (((n≤24∧d.length=n)∧st.length=n∧tr.length=n)∧((ID 40000 d=false∧Oi 40000 day=false)∧ID 3 st=false∧ID 4 tr=false)∧WJ (n:Int) r (Bo st)=0∧WK (n:Int) r (Bo st)=true)
theorem Mg {n:Nat} {r:List BH} {d:List Int} {day:Int} {st tr:List Int}:WW n r d day st tr=true↔((n≤24∧d.length=n)∧st.length=n∧tr.length=n)∧((ID 40000 d=false∧Oi 40000 day=false)∧ID 3 st=false∧ID 4 tr=false)∧WJ (n:Int) r (Bo st)=0∧WK (n:Int) r (Bo st)=true:=by unfold WW;rw [decide_eq_true_eq]
theorem Yb {l:List Ba} {r:List BH} {d:List Int} (Gb:∀x∈l,x.C6.small) (hl:l.length≤1000000) (hr:r.length≤1000000) (hd:d.length≤1000000):BF Tryz.prog 100 [agg [Da l,reqs r,ints d]] (agg [Da l,reqs r,ints d]):=PR.frz (A7 fun _=>rfl) (qJ Gb hl hr hd)
theorem Yc {l:List Int} (hl:l.length≤1000000000):BF prog 131 [ints l] (ints l):=by
 refine fo func131 rfl ⟨rfl,rfl⟩ fun M0 w0=> ?_
 refine a2 ?_
 refine co rfl (Fv rfl underlying22 vq) ?_
 refine ac ?_
 refine Tr.ex 4 rfl (fun z1=>Tr.fact 4 rfl fun Eh=> ?_)
 refine Tr.cn rfl ?_ ?_<;>intro h1 q1
 refine a2 ?_
 · (have hl0:l=[]:=(by simpa using Eh h1));subst hl0;exact AQ 1
 refine ac ?_
 refine ap ?_
 refine TO.pad ?_
 refine TO.Dl 0 rfl rfl AB (CB rfl rfl rfl rfl underlying22 Bs Iw z3 Gn vq (Bv BR vq)) (fun v1=> ?_)
 refine ap ?_
 refine ac ?_
 · exact Pr.le_trans (As _ _) (Pr.le_of_eq AU)
theorem Si {l:List Ba} {r:List BH} {d:List Int} {day:Int} {st tr:List Int} {sp:Bool} (Gb:∀x∈l,x.C6.small) (hl:l.length≤1000000) (hr:r.length≤1000000) (hd:d.length≤1000000) (hst:st.length≤1000000) (htr:tr.length≤1000000):BF prog 73 [agg (FR l r d day st tr sp)] (agg (FR l r d day st tr sp)):=by
 refine fo func73 rfl ⟨rfl,rfl⟩ fun M0 w0=>(Tr.seq (Tr.Ap ?_))
 refine TO.VG rfl rfl AB rfl C3 (fun b1=> ?_)
 refine Tl rfl rfl rfl rfl z42 Hj (fun b2=> ?_)
 refine ap ?_
 refine Tr.seq (Tr.rx ?_)
 refine ay ?_
 refine xo rfl (fun _=>Cz (Yb Gb hl hr hd) rfl rfl) ?_
 refine ay ?_
 refine xo rfl (fun _=>Cz (Yc (l:=st) AA) rfl rfl) ?_
 refine ay ?_
 refine xo rfl (fun _=>Cz (Yc (l:=tr) AA) rfl rfl) ?_
 refine ay ?_
 refine Cx.nil ⟨by kernel_rfl,?_⟩
 refine BI.done XU (Fin.go (wk [2,1] rfl ?_))
 refine ap ?_
 refine Tr.drop 1 (Tr.ret (Fin.Cb rfl (AL.cell 0 rfl rfl Ej EE rfl Lr) ?_))
 · exact Lr
theorem Yd {m x:Int}  :BF prog 135 [int x,ref [int m]] (bool (Oi m x)):=by
 refine fo func135 rfl ⟨rfl,rfl⟩ fun M0 w0=> ?_
 refine ac ?_
 refine ac ?_
 refine Ch.cs 6 rfl ?_ ?_<;>intro h1 q1
 refine ac ?_
 refine ac ?_
 · refine bool_eq ?_;unfold Oi;simp_all
 refine ac ?_
 refine ac ?_
 · refine bool_eq ?_;unfold Oi;simp_all;omega
theorem Ye:Entry Tryz.prog 135:=⟨_,Tryz.func135,rfl,rfl⟩
theorem Je {m:Int} {l:List Int}  :BF prog 77 [int m,ints l] (bool (!ID m l)):=by
 refine fo func77 rfl ⟨rfl,rfl⟩ fun M0 w0=> ?_
 refine a2 ?_
 refine co rfl (AV rfl (Jk (l:=l) (p:=Oi m)) ⟨kq,⟨_,rfl,E0 Ye (fun x=>Yd (m:=m) (x:=x))⟩,trivial⟩) ?_
 refine a2 ?_
 · exact Lr
theorem Sj {l:List Ba} {r:List BH} {d:List Int} {day:Int} {st tr:List Int} {sp:Bool} (hst:st.length≤1000000):BF prog 24 [agg (FR l r d day st tr sp)] (ints (Bo st)):=by
 refine fo func24 rfl ⟨rfl,rfl⟩ fun M0 w0=> ?_
 refine a3 ?_
 refine Tr.block (Tr.CC 3 1 (Tr.Es _ (kk [8,7] rfl) (fun k v=>[(9,int ((k:Nat):Int)),(3,Aa v (ints (MZ st k)))]) (fun k v=>Hp M0 w0 Fo ([Au 3 1 v])) (fun k:Nat=>k≤(st).length) (fun k:Nat=>(st).length-k) 0 (.slice none 0 0) (Nat.zero_le _) ⟨kq,⟨_,rfl,Bp rfl⟩,trivial⟩ (fun _ _ h=>h) ?_))
 rintro k v BT
 refine ac ?_
 refine Tr.seq ?_
 refine Tr.cn rfl ?_ ?_<;>intro h1 q1
 have Ai:k<(st).length:=AH h1
 obtain ⟨x,Ah⟩:=at_ Ai
 have hsk:=Ya Ah
 have AIr:=bJ st k
 refine a2 ?_
 refine co rfl (AD rfl underlying22 Bs vq vq AA (AZ Ah)) ?_
 refine ac ?_
 refine an ?_ ?_<;>intro h2 q2
 refine ap ?_
 refine TO.Dl 0 rfl rfl AB (CB rfl rfl rfl rfl underlying51 Bs Iw z3 Iy Gn (BC BR KJ)) (fun v1=> ?_)
 refine ap ?_
 refine wk [9,8,7,3] rfl ?_
 refine ac ?_
 exact Fin.DU (k+1) v1 (⟨Ai,by omega⟩) ⟨⟨_,rfl,AG k⟩,⟨_,rfl,BJ (by rw [hsk,if_pos Br,List.map_append];rfl)⟩,kz⟩ (fun _ _ h=>h)
 refine a2 ?_
 exact Fin.DU (k+1) v (⟨Ai,by omega⟩) ⟨⟨_,rfl,AG k⟩,⟨_,rfl,BJ (by rw [hsk,if_neg Br])⟩,kz⟩ (fun _ _ h=>h)
 have BP:k=(st).length:=by have:=AJ h1;omega
 subst BP
 refine a3 ?_
 · exact I8
theorem Ud {l:List Ba} {r:List BH} {d:List Int} {day:Int} {st tr:List Int} {sp:Bool} (hst:st.length≤1000000):BS prog 25 [agg (FR l r d day st tr sp)] (int (if WW l.length r d day st tr=true then 0 else 49)) (CY) (fun _=>CY):=by
 refine BS.of func25 rfl rfl Az fun M0 w0 S rs M1 w1=> ?_
 refine a2 ?_
 refine ag ?_ ?_<;>intro h1 q1
 refine ac ?_
 refine wk [10,3,1] rfl ?_
 refine ac ?_
 refine Tr.ret (Fin.AR (Fin.AE (Fin.ED rfl rfl ?_ (fun _ _ _ _=>rfl))))
 · exact Ql
 refine ag ?_ ?_<;>intro h2 q2
 refine ac ?_
 refine wk [10,3,1] rfl ?_
 refine ac ?_
 refine Tr.ret (Fin.AR (Fin.AE (Fin.ED rfl rfl ?_ (fun _ _ _ _=>rfl))))
 · exact Ql
 refine ag ?_ ?_<;>intro h3 q3
 refine ac ?_
 refine wk [10,3,1] rfl ?_
 refine ac ?_
 refine Tr.ret (Fin.AR (Fin.AE (Fin.ED rfl rfl ?_ (fun _ _ _ _=>rfl))))
 · exact Ql
 refine ac ?_
 refine wk [10,3,1] rfl ?_
 refine Tr.cn rfl ?_ ?_<;>intro h4 q4
 refine ac ?_
 refine Tr.ret (Fin.AR (Fin.AE (Fin.ED rfl rfl ?_ (fun _ _ _ _=>rfl))))
 · exact Ql
 refine ac ?_
 refine co rfl (CS (Je (m:=40000) (l:=d)) rfl rfl rfl) ?_
 refine ag ?_ ?_<;>intro h5 q5
 refine ac ?_
 refine wk [35,3,1] rfl ?_
 refine ac ?_
 refine Tr.ret (Fin.AR (Fin.AE (Fin.ED rfl rfl ?_ (fun _ _ _ _=>rfl))))
 · exact Qk
 refine ac ?_
 refine cy h5 rfl (AV rfl (Je (m:=40000) (l:=[day])) ⟨kq,Gn,trivial⟩) ?_
 refine ag ?_ ?_<;>intro h6 q6
 refine ac ?_
 refine wk [35,3,1] rfl ?_
 refine ac ?_
 refine Tr.ret (Fin.AR (Fin.AE (Fin.ED rfl rfl ?_ (fun _ _ _ _=>rfl))))
 · exact Qk
 refine ac ?_
 refine cy h6 rfl (CS (Je (m:=3) (l:=st)) rfl rfl rfl) ?_
 refine ag ?_ ?_<;>intro h7 q7
 refine ac ?_
 refine wk [35,3,1] rfl ?_
 refine ac ?_
 refine Tr.ret (Fin.AR (Fin.AE (Fin.ED rfl rfl ?_ (fun _ _ _ _=>rfl))))
 · exact Qk
 refine ac ?_
 refine cy h7 rfl (CS (Je (m:=4) (l:=tr)) rfl rfl rfl) ?_
 refine ac ?_
 refine wk [35,3,1] rfl ?_
 refine Tr.cn rfl ?_ ?_<;>intro h8 q8
 refine ac ?_
 refine Tr.ret (Fin.AR (Fin.AE (Fin.ED rfl rfl ?_ (fun _ _ _ _=>rfl))))
 · exact Qk
 refine ac ?_
 refine Tr.seq (Tr.seq (Tr.rx ?_))
 refine ay ?_
 refine xo rfl (fun _=>Cz (Sj hst) rfl rfl) ?_
 refine Cx.ef 0 rfl rfl AB (Aj rfl rfl AB rfl (aW (n:=((l.length:Nat):Int)) (l:=r) (s:=Bo st)) ⟨kq,kz⟩) ?_
 refine ay ?_
 refine Cx.nil ⟨by kernel_rfl,?_⟩
 refine BI.done XU (Fin.go (wk [5,4] rfl ?_))
 refine ag ?_ ?_<;>intro h9 q9
 refine a2 ?_
 refine Tr.ret (Fin.AE (Fin.ED rfl rfl ?_ (fun _ _ _ _=>rfl)))
 · exact Ql
 refine an ?_ ?_<;>intro h10 Sx
 refine ac ?_
 refine Tr.ret (Fin.AE (Fin.ED rfl rfl ?_ (fun _ _ _ _=>rfl)))
 · exact Qk
 refine a2 ?_
 refine Tr.ret (Fin.ED rfl rfl ?_ (fun _ _ _ _=>rfl))
 · exact int_eq (if_pos (Mg.2 (by refine ⟨⟨⟨?_,?_⟩,?_,?_⟩,⟨⟨?_,?_⟩,?_,?_⟩,?_,?_⟩<;>first|omega|(simp_all;done)))).symm
def newE (l:List Ba) (r:List BH) (d:List Int) (day:Int):Int:=if 0≤day∧day≤40000 then (if WW l.length r d day (List.replicate l.length 0) (List.replicate l.length 0)=true then 0 else 49) else 2
def newP (l:List Ba) (r:List BH) (d:List Int) (day:Int):List Pr:=if newE l r d day=0 then FR l r d day (List.replicate l.length 0) (List.replicate l.length 0) false else FR [] [] [] 0 [] [] false
theorem bk:Pr.le (agg [is (.slice none 0 0),is (.slice none 0 0),is (.slice none 0 0),int 0,is (.slice none 0 0),is (.slice none 0 0),Cp.bool false]) (agg (FR [] [] [] 0 [] [] false)):=BU ⟨AQ 8,AQ 2,AQ 1,Pr.le_refl _,AQ 1,AQ 1,Pr.le_refl _,trivial⟩
theorem kg {l:List Ba} {r:List BH} {d:List Int} {day e:Int} (h:newE l r d day=e) (he:e≠0):newP l r d day=FR [] [] [] 0 [] [] false:=if_neg I4
theorem bh {l:List Ba} {r:List BH} {d:List Int} {day:Int} (h:¬(0≤day∧day≤40000)):newE l r d day=2:=if_neg h
theorem AAI {l:List Ba} {r:List BH} {d:List Int} {day:Int} (h:0≤day∧day≤40000) (hk:¬WW l.length r d day (List.replicate l.length 0) (List.replicate l.length 0)=true):newE l r d day=49:=by unfold newE;rw [if_pos h,if_neg hk]
theorem rF {l:List Ba} {r:List BH} {d:List Int} {day:Int} (h:0≤day∧day≤40000) (hk:WW l.length r d day (List.replicate l.length 0) (List.replicate l.length 0)=true):newE l r d day=0∧newP l r d day=FR l r d day (List.replicate l.length 0) (List.replicate l.length 0) false:=by
 have h0:newE l r d day=0:=by unfold newE;rw [if_pos h,if_pos hk]
 exact ⟨h0,if_pos h0⟩
theorem fW {n:Nat} {m:Int} (h:0≤m):ID m (List.replicate n 0)=false:=by
 unfold ID
 rw [List.any_eq_false]
 intro x hx
 rw [List.eq_of_mem_replicate hx]
 unfold Oi
 simpa using h
theorem Nn.in_ {m:Nat} {l:List Ba} {r:List BH} {d:List Int} (h:Nn m l r d):ID 40000 d=false:=by
 unfold ID
 rw [List.any_eq_false]
 intro x hx
 obtain ⟨j,hj⟩:=List.mem_iff_getElem?.1 hx
 have hjl:=BM hj
 rw [h.dl] at hjl
 obtain ⟨c,hc⟩:=at_ hjl
 have:=(h.dd j x c hjl hj hc).1
 unfold Oi
 rw [decide_eq_true_eq];omega
theorem set_nil (n:Int):Dc n []=true:=rfl
theorem Nn.new {m:Nat} {l:List Ba} {r:List BH} {d:List Int} {day:Int} (h:Nn m l r d) (hd:0≤day∧day≤40000):newE l r d day=0∧newP l r d day=FR l r d day (List.replicate l.length 0) (List.replicate l.length 0) false:=by
 refine rF hd ?_
 obtain ⟨h1,h2⟩:=qH (n:=((l.length:Nat):Int)) (s:=[]) h.v (set_nil _)
 unfold WW
 rw [Ku,decide_eq_true_eq,h1,h2]
 exact ⟨⟨⟨h.l24,h.dl⟩,List.length_replicate,List.length_replicate⟩,⟨⟨h.in_,by unfold Oi;rw [decide_eq_false_iff_not];omega⟩,fW AB,fW AB⟩,rfl,Cd.2 fun q _ hq=>by cases hq⟩
theorem fX:newE [] [] [] 3=0∧newP [] [] [] 3=FR [] [] [] 3 [] [] false:=rF AB AB
theorem WX {l:List Ba} {r:List BH} {d:List Int} {day:Int} (Gb:∀x∈l,x.C6.small) (hl:l.length≤1000000) (hr:r.length≤1000000) (hd:d.length≤1000000):BS prog 26 [agg [Da l,reqs r,ints d],int day] (Dy [agg (newP l r d day),int (newE l r d day)]) (CY) (fun _=>CY):=by
 refine BS.of func26 rfl rfl Az fun M0 w0 S rs M1 w1=> ?_
 refine Tr.seq (Tr.Ap (tp rfl (Bh rfl C3) ?_))
 refine Tl rfl rfl rfl rfl z42 Hj (fun b1=> ?_)
 refine ap ?_
 refine ag ?_ ?_<;>intro h1 q1
 refine ac ?_
 refine Tr.cond rfl (fun _=> ?_) (fun h=>nomatch h)
 refine Tr.seq (Tr.Ap (tp rfl (An (rows:=[]) rfl sE Hj trivial rfl) (TO.AK 0 rfl rfl rfl vq C3 rfl EE rfl rfl (tm rfl (TO.nil (Fin.go (Tr.ret (Fin.AE (Fin.Lf [_] rfl (AL.cell 0 rfl rfl Ej EE rfl Lr) (AL.tmp rfl Lr) ?_)))))))))
 refine Ay ⟨?_,?_,trivial⟩
 · exact bg
 · exact int_eq (bh (l:=l) (r:=r) (d:=d) (day:=day) AA).symm
 refine an ?_ ?_<;>intro h2 q2
 refine ap ?_
 refine Tr.ret (Fin.AE (Fin.Lf [_] rfl (AL.cell 0 rfl rfl Ej EE rfl Lr) (AL.tmp rfl Lr) ?_))
 refine Ay ⟨?_,?_,trivial⟩
 · exact bg
 · exact int_eq (bh (l:=l) (r:=r) (d:=d) (day:=day) AA).symm
 have hdy:0≤day∧day≤40000:=by simp_all
 refine a2 ?_
 refine wk [6,4,2,1] rfl (Tr.seq (Tr.pad (Tr.rx ?_)))
 refine ax ?_
 refine xo rfl (fun _=>Nd (m:=l.length) rfl underlying22 Bs Iw z3 rfl AB AB vq vq GF AA) ?_
 refine xm rfl ?_
 refine xo rfl (fun _=>Nd (m:=l.length) rfl underlying22 Bs Iw z3 rfl AB AB vq vq GF AA) ?_
 refine xo rfl (fun _=>An (rows:=[(0,_),(1,[_]),(2,[_]),(3,[_])]) rfl sE Hj ⟨⟨rfl,C3⟩,⟨⟨rfl,Lj⟩,⟨⟨rfl,⟨_,rfl,Pr.le_trans (Pr.le_trans (B8 _ _) (Pr.le_of_eq (show _=slice 1 ((List.replicate l.length (0:Int)).map fun n=>[int n]) by rw [List.map_replicate];rfl))) (Ad _)⟩⟩,⟨⟨rfl,⟨_,rfl,Pr.le_trans (Pr.le_trans (B8 _ _) (Pr.le_of_eq (show _=slice 1 ((List.replicate l.length (0:Int)).map fun n=>[int n]) by rw [List.map_replicate];rfl))) (Ad _)⟩⟩,trivial⟩⟩⟩⟩ rfl) ?_
 refine xo rfl (fun _=>Cz (Si (l:=l) (r:=r) (d:=d) (day:=day) (st:=(List.replicate l.length (0:Int))) (tr:=(List.replicate l.length (0:Int))) (sp:=false) Gb hl hr hd Pm Pm) rfl rfl) ?_
 refine Cx.ef 0 rfl rfl AB (CA rfl rfl AB rfl z42 Hj) (Cx.DG 0 rfl rfl (Cc rfl rfl rfl rfl C3 EE rfl rfl) ?_)
 refine Cx.nil ⟨by kernel_rfl,?_⟩
 refine BI.open_ 0 7 rfl rfl (fun v1=> ?_)
 refine BI.done al4 (Fin.Le 7 0 _ rfl rfl (fun _=>rfl) (fun b2=> ?_))
 refine Fin.go (wk [7,4] rfl ?_)
 refine ap ?_
 refine TO.GK 2 rfl rfl AB (Aj rfl rfl AB rfl (Ud (l:=l) (r:=r) (d:=d) (day:=day) (st:=(List.replicate l.length (0:Int))) (tr:=(List.replicate l.length (0:Int))) (sp:=false) Pm) kz) ?_
 refine ap ?_
 refine an ?_ ?_<;>intro h3 q3
 have h49:newE l r d day=49:=AAI hdy K5
 refine ap ?_
 refine Tr.drop 0 (Tr.ret (Fin.AE (Fin.Lf [_] rfl (AL.cell 0 rfl rfl Ej EE rfl Lr) (AL.tmp rfl Lr) ?_)))
 refine Ay ⟨?_,?_,trivial⟩
 · rw [kg h49 AB];exact bk
 · refine int_eq ?_;rw [h49];simp_all
 have h0:=rF (l:=l) (r:=r) (d:=d) hdy K5
 refine ac ?_
 refine ap ?_
 refine Tr.drop 0 (Tr.ret (Fin.Lf [_] rfl (AL.cell 0 rfl rfl Ej EE rfl Lr) (AL.tmp rfl Lr) ?_))
 refine Ay ⟨?_,?_,trivial⟩
 · rw [h0.2];exact Lr
 · exact int_eq h0.1.symm
theorem rG {x:Int}  :BF prog 85 [int x] (bool (decide (x≠1))):=by
 refine fo func85 rfl ⟨rfl,rfl⟩ fun M0 w0=> ?_
 refine a3 ?_
 · refine bool_eq ?_;by_cases h_:x=1<;>simp [h_]
theorem rH:Entry Tryz.prog 85:=⟨_,Tryz.func85,rfl,rfl⟩
theorem WY {l:List Ba} {r:List BH} {d:List Int} {day:Int} {st tr:List Int} {sp:Bool}  :BF prog 32 [agg (FR l r d day st tr sp)] (bool (!(st.any fun x=>decide (x≠1)))):=by
 refine fo func32 rfl ⟨rfl,rfl⟩ fun M0 w0=> ?_
 refine a2 ?_
 refine co rfl (AV rfl (Jk (l:=st) (p:=fun x=>decide (x≠1))) ⟨kq,⟨_,rfl,E0 rH (fun x=>rG (x:=x))⟩,trivial⟩) ?_
 refine a2 ?_
 · exact Lr
theorem WZ   :BS prog 11 [] (bool true) (CY) (fun _=>CY):=by
 refine BS.of func11 rfl rfl Az fun M0 w0 S rs M1 w1=> ?_
 refine Tr.seq (Tr.Al (cm rfl (Ch.nil (Fin.go (Tr.seq (Tr.Ap (tp rfl (An (rows:=[]) rfl L8 FE trivial rfl) ?_)))))))
 refine TO.GK 0 rfl rfl AB (Aj rfl rfl AB rfl (WX (l:=[]) (r:=[]) (d:=[]) (day:=3) (fun x h=>by cases h) AB AB AB) ⟨⟨_,rfl,BU (ps:=[is (.slice none 0 0),is (.slice none 0 0),is (.slice none 0 0)]) ⟨AQ 8,AQ 2,AQ 1,trivial⟩⟩,ke rfl,trivial⟩) ?_
 refine tm rfl (tp rfl (Am rfl (vl rfl) rfl) (TO.re 8 _ rfl (Pr.le_of_eq (congrArg agg fX.2)) (tp rfl (Am rfl (vl rfl) rfl) (TO.re 9 _ rfl (int_eq fX.1) ?_))))
 refine Tl rfl rfl rfl rfl z42 Hj (fun b1=> ?_)
 refine TO.AK 0 rfl rfl rfl (vl rfl) (Va rfl) rfl EE rfl rfl (TO.freeze 0 1 rfl rfl (tm rfl (TO.nil (Fin.go (Tr.seq (Tr.Ap (tp rfl (An (rows:=[]) rfl L8 FE trivial rfl) ?_)))))))
 refine TO.GK 0 rfl rfl AB (Aj rfl rfl AB rfl (WX (l:=[]) (r:=[]) (d:=[]) (day:= -1) (fun x h=>by cases h) AB AB AB) ⟨⟨_,rfl,BU (ps:=[is (.slice none 0 0),is (.slice none 0 0),is (.slice none 0 0)]) ⟨AQ 8,AQ 2,AQ 1,trivial⟩⟩,ke rfl,trivial⟩) ?_
 refine tm rfl (tp rfl (Am rfl (vl rfl) rfl) (tp rfl (Am rfl (vl rfl) rfl) (TO.re 14 _ rfl (int_eq (bh AB)) ?_)))
 refine Tl rfl rfl rfl rfl z42 Hj (fun b2=> ?_)
 refine TO.AK 0 rfl rfl rfl (vl rfl) (Va rfl) rfl EE rfl rfl (TO.freeze 0 3 rfl rfl (tm rfl (TO.nil (Fin.go (Gk 1 2 4 rfl (Tr.seq (Tr.Ap (tm rfl (tp rfl (ki rfl rfl rfl rfl) (tm rfl ?_))))))))))
 refine TO.cases 17 rfl (fun h1=> ?_) (fun h1=> ?_)
 have q1:=DH.Dp h1
 refine TO.HP rfl rfl rfl h1 rfl AB (BQ rfl (vl rfl)) (TO.HP rfl rfl rfl h1 rfl AB (ki rfl rfl rfl rfl) (tp rfl (Nt rfl rfl h1 rfl) (tm rfl ?_)))
 refine TO.cases 21 rfl (fun h2=> ?_) (fun h2=> ?_)
 have q2:=DH.Dp h2
 refine TO.HP rfl rfl rfl h2 rfl AB (N_ rfl lY rfl rfl) (TO.HP rfl rfl rfl h2 rfl AB (F5 rfl Cs rfl) (TO.HP rfl rfl rfl h2 rfl AB (ki rfl rfl rfl rfl) (tp rfl (Nt rfl rfl h2 rfl) (tm rfl ?_))))
 refine TO.cases 26 rfl (fun h3=> ?_) (fun h3=> ?_)
 have q3:=DH.Dp h3
 refine TO.HP rfl rfl rfl h3 rfl AB (AM rfl Ej EE (vl rfl) rfl rfl) ?_
 refine TO.HP rfl rfl rfl h3 rfl AB (AV rfl (WY (l:=[]) (r:=[]) (d:=[]) (day:=3) (st:=[]) (tr:=[]) (sp:=false)) ⟨ke rfl,trivial⟩) ?_
 refine tp rfl (Nt rfl rfl h3 rfl) (tm rfl ?_)
 refine TO.cases 30 rfl (fun h4=> ?_) (fun h4=> ?_)
 have q4:=DH.Dp h4
 refine TO.HP rfl rfl rfl h4 rfl AB (An (rows:=[(1,[_])]) rfl sE Hj ⟨⟨rfl,(Vo rfl)⟩,trivial⟩ rfl) ?_
 refine TO.Zc 0 rfl rfl rfl h4 rfl rfl AB (Aj rfl rfl AB rfl (Ud (l:=[]) (r:=[]) (d:=[]) (day:= -1) (st:=[]) (tr:=[]) (sp:=false) AB) ⟨⟨_,rfl,BU (ps:=[is (.slice none 0 0),is (.slice none 0 0),is (.slice none 0 0),int (-1),is (.slice none 0 0),is (.slice none 0 0),Cp.bool false]) ⟨AQ 8,AQ 2,AQ 1,Lr,AQ 1,AQ 1,Lr,trivial⟩⟩,trivial⟩) ?_
 refine TO.HP rfl rfl rfl h4 rfl AB (ki rfl rfl rfl rfl) (tp rfl (Nt rfl rfl h4 rfl) (tm rfl (TO.nil (Fin.go (Nu 0 rfl (Tr.ret (Fin.ED rfl rfl ?_ (fun _ _ _ _=>rfl))))))))
 · exact bool_eq AB
 have q4:=DH.Dp h4
 exact absurd h4 AB
 have q3:=DH.Dp h3
 exact absurd h3 AB
 have q2:=DH.Dp h2
 exact absurd h2 AB
 have q1:=DH.Dp h1
 exact absurd h1 AB
theorem ji {l:List Ba} {r:List BH} {d:List Int} {day:Int} {st tr:List Int} {step:Int} (Gb:∀x∈l,x.C6.small) (hl:l.length≤1000000) (hr:r.length≤1000000) (hd:d.length≤1000000) (hst:st.length≤1000000) (htr:tr.length≤1000000):BS prog 21 [agg (FR l r d day st tr true),int step] (Dy [agg (FR l r d day st tr true),int 54]) (CY) (fun _=>CY):=by
 refine BS.of func21 rfl rfl Az fun M0 w0 S rs M1 w1=> ?_
 refine Tr.seq (Tr.Ap (tp rfl (Bh rfl C3) ?_))
 refine Tl rfl rfl rfl rfl z42 Hj (fun b1=> ?_)
 refine ap ?_
 refine ap ?_
 refine tp rfl (Cz (Si Gb hl hr hd hst htr) rfl rfl) ?_
 refine Tl rfl rfl rfl rfl z42 Hj (fun b2=> ?_)
 refine ap ?_
 refine Tr.seq (Tr.rx ?_)
 refine ay ?_
 refine xo rfl (fun _=>Cz (Sj hst) rfl rfl) (Cx.ef 2 rfl rfl AB (Aj rfl rfl AB rfl (TG) ⟨kq,kz⟩) ?_)
 refine ay ?_
 refine Cx.nil ⟨by kernel_rfl,?_⟩
 refine BI.done al4 (Fin.go (wk [7,6,4,2,1] rfl ?_))
 refine an ?_ ?_<;>intro h1 q1
 refine ap ?_
 refine Tr.drop 0 (Tr.ret (Fin.AR (Fin.AE (Fin.Lf [_] rfl (AL.cell 0 rfl rfl Ej EE rfl Lr) (AL.tmp rfl Lr) ?_))))
 refine Ay ⟨?_,?_,trivial⟩
 · exact Lr
 · exact Lr
 exact absurd h1 AB
theorem rI {l:List Int} {v:Int}  :BF prog 134 [ints l,int v] (int (idx (fun x=>v==x) l)):=by
 refine fo func134 rfl ⟨rfl,rfl⟩ fun M0 w0=>(Tr.Cl 0 rfl fun EH=> ?_)
 refine a2 ?_
 refine Tr.block (Tr.BE _ (kk [7,1,0] rfl) (fun k:Nat=>[(8,int ((k:Nat):Int))]) (fun k:Nat=>k≤(l).length∧(∀j y,j<k→l[j]? =some y→(v==y)=false)) (fun k:Nat=>(l).length-k) 0 (⟨Nat.zero_le _,fun j y hj=>absurd hj AA⟩) kz ?_)
 rintro k ⟨BT,AX⟩
 refine ac ?_
 refine Tr.seq ?_
 refine Tr.cn rfl ?_ ?_<;>intro h1 q1
 have Ai:k<(l).length:=AH h1
 obtain ⟨x,Ah⟩:=at_ Ai
 · repeat' first|exact int_eq (EX (p:=fun x=>v==x) Ah Bi AX)|exact Fin.AO (k+1) ⟨⟨Ai,Db (p:=fun x=>v==x) Ah Bi AX⟩,by omega⟩ ⟨⟨_,rfl,AG k⟩,kz⟩|refine co rfl (AD rfl underlying51 Bs vq vq AA CO) ?_|refine ac ?_|(refine Tr.cn rfl ?_ ?_<;>intro h q)
 have BP:k=(l).length:=by have:=AJ h1;omega
 subst BP
 refine a3 ?_
 · exact int_eq (Fz AX)
def TP (o l:List Int):Int:=(o.find? fun i=>l.contains i).getD 0
def Sk (o l:List Int):Bool:=(o.find? fun i=>l.contains i).isSome
theorem fY {o l:List Int} {k:Nat} {x:Int} (hx:o[k]? =some x) (hb:∀j y,j<k→o[j]? =some y→l.contains y=false) (h:l.contains x=true):TP o l=x∧Sk o l=true:=by
 have hf:o.find? (fun i=>l.contains i)=some x:=by
  rw [List.find?_eq_some_iff_getElem]
  obtain ⟨hk,he⟩:=List.getElem?_eq_some_iff.1 hx
  refine ⟨h,k,hk,he,fun j hj=> ?_⟩
  have:=hb j _ hj (List.getElem?_eq_getElem AA)
  simpa using this
 unfold TP Sk
 rw [hf];exact ⟨rfl,rfl⟩
theorem rJ {o l:List Int} (hb:∀j y,j<o.length→o[j]? =some y→l.contains y=false):TP o l=0∧Sk o l=false:=by
 have hf:o.find? (fun i=>l.contains i)=none:=by
  rw [List.find?_eq_none]
  intro y hy
  obtain ⟨j,hj,rfl⟩:=List.mem_iff_getElem.1 hy
  rw [hb j _ hj (List.getElem?_eq_getElem hj)];decide
 unfold TP Sk
 rw [hf];exact ⟨rfl,rfl⟩
theorem Wa (l:List Int) (v:Int):(l.any fun x=>v==x)=l.contains v:=by rw [List.contains_eq_any_beq]
theorem rK (d:List Int):(Jy d).length=d.length:=by rw [(fR d).2.length_eq,Gi]
theorem wD {n:Nat} {l:List (Qa n)} {L:List Int} (h:l.map (·.1)=L):AEG l=ints L:=by
 show slice 1 (l.map It)=slice 1 (L.map fun n=>[int n])
 rw [←h,fS]
theorem PI {l:List Int} {v:Int}  :BF prog 75 [ints l,int v] (bool (l.contains v)):=by
 refine fo func75 rfl ⟨rfl,rfl⟩ fun M0 w0=> ?_
 refine a2 ?_
 refine co rfl (CS (rI) rfl rfl rfl) ?_
 refine a2 ?_
 · refine bool_eq ?_;rw [←Wa];exact P3 _ l
theorem Yf {l:List Ba} {r:List BH} {d:List Int} {day:Int} {st tr:List Int} {sp:Bool} (x:Qa tr.length)  :BF prog 139 [int x.1,ref (FR l r d day st tr sp)] (bool (decide (tr.getD x.1.toNat 0≥4))):=by
 refine fo func139 rfl ⟨rfl,rfl⟩ fun M0 w0=> ?_
 have hxp:=x.2
 have htx:=FL (l:=tr) (i:=x.1.toNat) AA
 refine a2 ?_
 refine co rfl (AD rfl underlying22 Bs vq vq AA (Bf htx)) ?_
 refine a2 ?_
 · exact Lr
theorem Yg:Entry Tryz.prog 139:=⟨_,Tryz.func139,rfl,rfl⟩
def G0 (r:List BH) (d st tr:List Int) (day:Int):List Int:=(E6 r d (Bo st) day).filter fun i=> !decide (tr.getD i.toNat 0≥4)
theorem Iu {st:List Int} {x:Int}:x∈Bo st↔∃i:Nat,st[i]? =some 1∧x=(i:Int):=by
 unfold Bo
 rw [List.mem_map]
 constructor
 ·
  rintro ⟨i,hi,rfl⟩
  obtain ⟨h1,h2⟩:=List.mem_filter.1 hi
  have h1:=List.mem_range.1 h1
  rw [List.getD_eq_getElem?_getD,List.getElem?_eq_getElem h1,decide_eq_true_eq] at h2
  exact ⟨i,by rw [List.getElem?_eq_getElem h1];exact congrArg some h2,rfl⟩
 ·
  rintro ⟨i,hi,rfl⟩
  obtain ⟨h1,_⟩:=List.getElem?_eq_some_iff.1 hi
  exact ⟨i,List.mem_filter.2 ⟨List.mem_range.2 h1,by rw [List.getD_eq_getElem?_getD,hi];rfl⟩,rfl⟩
theorem Oj (st:List Int):(Bo st).Pairwise (· < ·):=by
 unfold Bo
 rw [List.pairwise_map]
 exact (List.pairwise_lt_range.filter _).imp fun h=>by omega
theorem jj {st:List Int}:∀x∈Bo st,0≤x∧x<(st.length:Int):=fun x hx=>by
 obtain ⟨i,hi,rfl⟩:=Iu.1 hx
 obtain ⟨h1,_⟩:=List.getElem?_eq_some_iff.1 hi
 omega
theorem rL:∀{a b:List Int},a.Pairwise (· < ·)→b.Pairwise (· < ·)→(∀x,x∈a↔x∈b)→a=b
 |[],[],_,_,_=>rfl
 |[],y::b,_,_,h=>by have:=(h y).2 (List.mem_cons_self ..);cases this
 |x::a,[],_,_,h=>by have:=(h x).1 (List.mem_cons_self ..);cases this
 |x::a,y::b,ha,hb,h=>by
  obtain ⟨ha1,ha2⟩:=List.pairwise_cons.1 ha
  obtain ⟨PL,Ta⟩:=List.pairwise_cons.1 hb
  have hxy:x=y:=by
   rcases List.mem_cons.1 ((h x).1 (List.mem_cons_self ..)) with h1|h1
   · exact h1
   ·
    rcases List.mem_cons.1 ((h y).2 (List.mem_cons_self ..)) with h2|h2
    · exact h2.symm
    · have:=PL x h1;have:=ha1 y h2;omega
  subst hxy
  rw [rL ha2 Ta fun z=> ?_]
  constructor
  ·
   intro hz
   rcases List.mem_cons.1 ((h z).1 (List.mem_cons_of_mem _ hz)) with h1|h1
   · have:=ha1 z hz;omega
   · exact h1
  ·
   intro hz
   rcases List.mem_cons.1 ((h z).2 (List.mem_cons_of_mem _ hz)) with h1|h1
   · have:=PL z hz;omega
   · exact h1
theorem jk {st:List Int} {i:Nat} (hi:i<st.length) (hn:(i:Int)∉Bo st):Bo (st.set i 1)=EA (Bo st) (i:Int) true:=by
 refine rL (Oj _) (YZ (Oj _) hn) fun x=> ?_
 rw [DO,Iu,Iu]
 constructor
 ·
  rintro ⟨j,hj,rfl⟩
  by_cases hji:j=i
  · subst hji;exact .inl rfl
  · rw [List.getElem?_set_ne AA] at hj;exact .inr ⟨j,hj,rfl⟩
 ·
  rintro (rfl|⟨j,hj,rfl⟩)
  · exact ⟨i,List.getElem?_set_self hi,rfl⟩
  ·
   refine ⟨j,?_,rfl⟩
   by_cases hji:i=j
   · subst hji;exact List.getElem?_set_self hi
   · rw [List.getElem?_set_ne hji];exact hj
structure Iv (r:List BH) (d st:List Int):Prop where
 sl:st.length=d.length
 cl:CR r (Bo st)=true
 s01:∀x∈st,x=0∨x=1
theorem Iv.zero (r:List BH) (d:List Int):Iv r d (List.replicate d.length 0):=
 ⟨List.length_replicate,by rw [Ku];exact Cd.2 (fun q _ h=>by cases h),(fun x hx=> .inl (List.eq_of_mem_replicate hx))⟩
theorem Iv.done {r:List BH} {d st:List Int} (h:Iv r d st):G3 d.length r (Bo st):=⟨Oj _,by rw [←h.sl];exact jj,h.cl⟩
theorem Iv.tri {r:List BH} {d st:List Int} (h:Iv r d st) (day:Int):G0 r d st st day=E6 r d (Bo st) day:=by
 unfold G0
 rw [List.filter_eq_self]
 intro x _
 have:st.getD x.toNat 0<4:=by
  rw [List.getD_eq_getElem?_getD]
  cases hx:st[x.toNat]? with
  |none=>decide
  |some y=>
   have:=h.s01 y (List.mem_of_getElem? hx)
   show y<4
   omega
 rw [Bool.not_eq_true',decide_eq_false_iff_not];omega
theorem Qc {r:List BH} {d s:List Int} {day x:Int} (h:x∈E6 r d s day):(0≤x∧x<(d.length:Int))∧d.getD x.toNat 0≤day∧x∈JY (d.length:Nat) r s:=by
 unfold E6 at h
 obtain ⟨h1,h2⟩:=List.mem_filter.1 h
 refine ⟨WV x h1,?_,h1⟩
 rw [Bool.not_eq_true',decide_eq_false_iff_not] at h2
 omega
theorem Iv.at0 {r:List BH} {d st:List Int} {x:Int} (h:Iv r d st) (hx:0≤x∧x<(d.length:Int)) (hn:x∉Bo st):st.getD x.toNat 0=0:=by
 have hl:x.toNat<st.length:=by rw [h.sl];omega
 rw [List.getD_eq_getElem?_getD,List.getElem?_eq_getElem hl]
 show st[x.toNat]=0
 rcases h.s01 _ (List.getElem_mem hl) with h1|h1
 · exact h1
 · exact absurd (Iu.2 ⟨x.toNat,by rw [List.getElem?_eq_getElem hl,h1],by omega⟩) hn
theorem Iv.next {r:List BH} {d st:List Int} {day x:Int} (hv:BD (d.length:Nat) r=0) (h:Iv r d st) (hx:x∈E6 r d (Bo st) day):
  Iv r d (st.set x.toNat 1)∧st.set x.toNat (st.getD x.toNat 0+1)=st.set x.toNat 1∧(Bo (st.set x.toNat 1)).length=(Bo st).length+1:=by
 obtain ⟨h1,_,h2⟩:=Qc hx
 rw [(h.done.due hv).2] at h2
 obtain ⟨_,h3,h4⟩:=Qb h2
 have he:((x.toNat:Nat):Int)=x:=by omega
 have hs:Bo (st.set x.toNat 1)=EA (Bo st) x true:=by
  have:=jk (st:=st) (i:=x.toNat) (by rw [h.sl];omega) (by rw [he];exact h3)
  rw [he] at this;exact this
 refine ⟨⟨by rw [List.length_set];exact h.sl,by rw [hs];exact h4,fun y hy=> ?_⟩,by rw [h.at0 h1 h3];rfl,by rw [hs];exact G8 h3⟩
 rcases List.mem_or_eq_of_mem_set hy with hy|rfl
 · exact h.s01 y hy
 · exact .inr rfl
theorem Iv.full {r:List BH} {d st:List Int} {day:Int} (hv:BD (d.length:Nat) r=0) (h:Iv r d st) (hd:∀x∈d,x≤day) (hn:E6 r d (Bo st) day=[]):(Bo st).length=d.length∧∀x∈st,x=1:=by
 have hal:∀i:Nat,i<d.length→(i:Int)∈Bo st:=fun i hi=>by
  refine Classical.byContradiction fun hc=> ?_
  refine Z6 (n:=((d.length:Nat):Int)) hv h.cl (by simpa using hi) hc ?_
  rw [show ((d.length:Nat):Int).toNat=d.length by simp]
  unfold E6 at hn
  rw [(h.done.due hv).2,List.filter_eq_nil_iff] at hn
  refine List.eq_nil_iff_forall_not_mem.2 fun x hx=> ?_
  have hr:=(Qb hx).1
  have hdx:=FL (l:=d) (i:=x.toNat) AA
  have:=hd _ (List.mem_of_getElem? hdx)
  have:=hn x hx
  rw [Bool.not_eq_true',decide_eq_false_iff_not] at this
  omega
 have hst:∀x∈st,x=1:=fun x hx=>by
  obtain ⟨i,hi⟩:=List.mem_iff_getElem?.1 hx
  obtain ⟨h1,_⟩:=List.getElem?_eq_some_iff.1 hi
  obtain ⟨j,hj,he⟩:=Iu.1 (hal i (by rw [←h.sl];exact h1))
  have:i=j:=by omega
  subst this
  rw [hi] at hj;exact Option.some.inj hj
 refine ⟨?_,hst⟩
 unfold Bo
 rw [List.length_map,List.filter_eq_self.2,List.length_range,h.sl]
 intro i hi
 have hi:=List.mem_range.1 hi
 rw [List.getD_eq_getElem?_getD,List.getElem?_eq_getElem hi,decide_eq_true_eq]
 exact hst _ (List.getElem_mem hi)
theorem Iv.none {r:List BH} {d st:List Int} {day:Int} (hv:BD (d.length:Nat) r=0) (h:Iv r d st) (hl:(Bo st).length=d.length):E6 r d (Bo st) day=[]:=by
 unfold E6
 rw [(h.done.due hv).2,h.done.none hl];rfl
theorem Iv.WW {m:Nat} {l:List Ba} {r:List BH} {d st:List Int} {day:Int} (hf:Nn m l r d) (h:Iv r d st) (hd:0≤day∧day≤40000):WW l.length r d day st st=true:=by
 have hs:Dc ((l.length:Nat):Int) (Bo st)=true:=by rw [←hf.dl];exact h.done.set
 obtain ⟨h1,h2⟩:=qH (n:=((l.length:Nat):Int)) hf.v hs
 have hm:∀m:Int,1≤m→ID m st=false:=fun m hm=>by
  unfold ID
  rw [List.any_eq_false]
  intro x hx
  have:=h.s01 x hx
  unfold Oi
  rw [decide_eq_true_eq];omega
 have Z_:=h.sl.trans hf.dl
 exact Mg.2 ⟨⟨⟨hf.l24,hf.dl⟩,Z_,Z_⟩,⟨⟨hf.in_,by unfold Oi;rw [decide_eq_false_iff_not];omega⟩,hm 3 AB,hm 4 AB⟩,h1,by rw [h2];exact h.cl⟩
theorem Iv.QN {r:List BH} {d st:List Int} (h:Iv r d st):∀x∈st,0≤x∧x<4:=fun x hx=>by have:=h.s01 x hx;omega
theorem rM {d:List Int} {x:Int} (h:0≤x∧x<(d.length:Int)):x∈Jy d:=(fR d).2.mem_iff.2 (by unfold Hl;exact List.mem_map.2 ⟨x.toNat,List.mem_range.2 AA,by omega⟩)
theorem fZ {o l:List Int} (h:Sk o l=true):TP o l∈o∧TP o l∈l:=by
 unfold Sk at h
 unfold TP
 cases hf:o.find? fun i=>l.contains i with
 |none=>rw [hf] at h;cases h
 |some y=>
  have h2:l.contains y=true:=by have:=List.find?_some hf;exact this
  exact ⟨List.mem_of_find?_eq_some hf,List.contains_iff_mem.1 h2⟩
theorem rN {o l:List Int} {x:Int} (ho:x∈o) (hl:x∈l):Sk o l=true:=by
 unfold Sk
 rw [List.find?_isSome]
 exact ⟨x,ho,List.contains_iff_mem.2 hl⟩
theorem jl {l:List Ba} {r:List BH} {d:List Int} {day:Int} {st tr:List Int} {sp:Bool} (Gb:∀x∈l,x.C6.small) (hl:l.length≤1000000) (hr:r.length≤1000000) (hd:d.length≤1000000) (hst:st.length≤1000000) (htr:tr.length≤1000000):E4 (α:=Value×Value) prog 73 [agg (FR l r d day st tr sp)] [] (fun _=>True) (fun x=>agg [Da l,reqs r,ints d,int day,is x.1,is x.2,Cp.bool sp]) (fun x=>[Bz 3 1 (st.map fun n=>[int n]) x.1,Bz 3 1 (tr.map fun n=>[int n]) x.2]):=by
 refine E4.of func73 rfl rfl Az fun M0 w0 S rs M1 w1=>(Tr.seq (Tr.Ap ?_))
 refine TO.VG rfl rfl AB rfl (Va rfl) (fun b1=> ?_)
 refine Tl rfl rfl rfl rfl z42 Hj (fun b2=> ?_)
 refine TO.nil (Fin.go (Tr.seq (Tr.pad (Tr.pad (Tr.GI mixed [none,some (0,3,false,0),none,none,some (0,3,false,0),some (0,0,true,8),none,some (0,3,false,0),some (0,1,true,11),none,some (0,3,true,0),none,some (0,3,true,8),none,some (8,3,true,.two 11 8)] BV (xo rfl (fun _=>AW rfl ZP (vl rfl)) (IZ 3 rfl rfl (B4 rfl C4 CL (vl rfl) rfl rfl) (xo rfl (fun _=>AV rfl (Yb Gb hl hr hd) ⟨ke rfl,trivial⟩) (xo rfl (fun _=>AW rfl RG (vl rfl)) (IZ 3 rfl rfl (A_ rfl KF (vl rfl) rfl) ?_))))))))))
 refine Cx.ef 0 rfl rfl AB (Fu rfl rfl AB rfl (OL (l:=st) hst) ⟨ke rfl,trivial⟩) ?_
 refine xo rfl (fun _=>AW rfl VN (vl rfl)) (IZ 3 rfl rfl (A_ rfl KF (vl rfl) rfl) ?_)
 refine Cx.ef 1 rfl rfl AB (Fu rfl rfl AB rfl (OL (l:=tr) htr) ⟨ke rfl,trivial⟩) ?_
 refine xo rfl (fun _=>AW rfl ZP (vl rfl)) (Cx.DG 3 rfl rfl (Aw rfl rfl (vl rfl) (Va rfl) CL rfl Az rfl) (xo rfl (fun _=>AW rfl RG (vl rfl)) ?_))
 refine Cx.DG 3 rfl rfl (z8 (s:=8) (R':=fun v=>AF true b1 42 [Da l,reqs r,ints d,int day,Aa v (lens st.length),ints tr,Cp.bool sp]) rfl rfl AB rfl (fun v=>Aw rfl rfl (vl rfl) (Vo rfl) L7 rfl Az rfl)) ?_
 refine xo rfl (fun _=>AW rfl VN (vl rfl)) (Cx.DG 3 rfl rfl (z_ (s:=8) (t:=11) (f:=fun v=>AF true b1 42 [Da l,reqs r,ints d,int day,Aa v (lens st.length),ints tr,Cp.bool sp]) (R':=fun u v=>AF true b1 42 [Da l,reqs r,ints d,int day,Aa u (lens st.length),Aa v (lens tr.length),Cp.bool sp]) rfl rfl AB rfl (fun u v=>Aw rfl rfl (vl rfl) (Vo rfl) L7 rfl Az rfl)) ?_)
 refine Cx.nil ⟨rfl,?_⟩
 refine BI.iU 8 rfl (fun v8=> ?_)
 refine BI.iU 11 rfl (fun v11=> ?_)
 refine BI.aK 0 8 rfl rfl (BI.aK 1 11 rfl rfl (BI.iV 3 11 8 rfl rfl rfl (BI.done (At.cons (At.cons (At.cons (At.cons (At.cons (At.map _)))))) (Fin.go (Ti 1 2 rfl (Tr.seq (Tr.Ap (TO.rd 3 rfl rfl rfl AB (B4 rfl Ej EE (vl rfl) rfl rfl) (TO.AK 2 rfl rfl rfl (vl rfl) (Va rfl) rfl EE rfl rfl (TO.nil (Fin.go (Tr.ret (Fin.drop 3 (Fin.AEF ((v8,v11)) [_] rfl (AL.cell 2 rfl rfl Ej EE rfl (Lr)) trivial ?_ ((Cm (j:=2) rfl).trans (List.Perm.cons _ ((Cm (j:=0) rfl).trans (List.Perm.cons _ ((Cm (j:=0) rfl).trans (List.Perm.cons _ (List.Perm.refl _)))))))))))))))))))))
 · exact BU ⟨Lr,Lr,Lr,Lr,EC _ _,EC _ _,Lr,trivial⟩
theorem jm {p q:Pr} [One p] [One q] {l:List Int}  :BF prog 15 [agg [p,q,ints l]] (int (Ez l)):=by
 refine fo func15 rfl ⟨rfl,rfl⟩ fun M0 w0=>(Tr.Hg 0 2 rfl rfl fun V2=> ?_)
 refine a3 ?_
 refine Tr.block (Tr.BE _ (kk [8,7] rfl) (fun k:Nat=>[(9,int ((k:Nat):Int)),(3,int ((l.take k).foldl max (-1)))]) (fun k:Nat=>k≤(l).length) (fun k:Nat=>(l).length-k) 0 (Nat.zero_le _) ⟨kq,kz⟩ ?_)
 rintro k BT
 refine ac ?_
 refine Tr.seq ?_
 refine Tr.cn rfl ?_ ?_<;>intro h1 q1
 have Ai:k<(l).length:=AH h1
 obtain ⟨x,Ah⟩:=at_ Ai
 refine ac ?_
 refine Tr.seq (Tr.block (Tr.seq (Tr.Al (co rfl (AD rfl underlying22 Bs vq vq AA (AZ Ah)) ?_))))
 refine a2 ?_
 refine co rfl (L4 rfl vq vq) ?_
 refine a2 ?_
 exact Fin.AO (k+1) ⟨Ai,by omega⟩ ⟨⟨_,rfl,AG k⟩,⟨_,rfl,int_eq (by rw [List.take_add_one,Ah,List.foldl_append];rfl)⟩,kz⟩
 have BP:k=(l).length:=by have:=AJ h1;omega
 subst BP
 rw [List.take_length]
 refine a3 ?_
 · exact Lr
theorem max_le:∀{l:List Int} {a m:Int},a≤m→(∀x∈l,x≤m)→l.foldl max a≤m
 |[],_,_,h,_=>h
 |b::l,a,m,h,hl=>by
  rw [List.foldl_cons]
  have:=hl b (List.mem_cons_self ..)
  exact max_le AA fun x hx=>hl x (List.mem_cons_of_mem _ hx)
theorem Nn.last {m:Nat} {l:List Ba} {r:List BH} {d:List Int} (h:Nn m l r d):Ez d≤40000:=max_le AB fun x hx=>by
 have h1:=List.any_eq_false.1 h.in_ x hx
 unfold Oi at h1
 rw [decide_eq_true_eq] at h1;omega
theorem fc {d:List Int} {x:Int} (h:x∈d):x≤Ez d:=(bI d (-1)).2 x h
theorem Wb {r:List BH} {d st tr:List Int} {day x:Int}:x∈G0 r d st tr day↔x∈E6 r d (Bo st) day∧tr.getD x.toNat 0<4:=by
 unfold G0
 rw [List.mem_filter,Bool.not_eq_true',decide_eq_false_iff_not]
 refine and_congr_right fun _=>by omega
theorem bK {r:List BH} {d o:List Int} {day:Int} (hv:BD (d.length:Nat) r=0) (hd:∀x∈d,x≤day) (ho:∀i:Nat,i<d.length→(i:Int)∈o) (hn:0<d.length):Sk o (G0 r d (List.replicate d.length 0) (List.replicate d.length 0) day)=true:=by
 have hP:=Iv.zero r d
 rw [hP.tri day]
 cases hb:E6 r d (Bo (List.replicate d.length 0)) day with
 |nil=>
  have:=(hP.full hv hd hb).2 0 (by rw [List.mem_replicate];exact ⟨by omega,rfl⟩)
  cases this
 |cons x L=>
  have hx:x∈E6 r d (Bo (List.replicate d.length 0)) day:=by rw [hb];exact List.mem_cons_self ..
  have hr:=(Qc hx).1
  refine rN (x:=x) ?_ (List.mem_cons_self ..)
  have:=ho x.toNat AA
  rwa [Int.toNat_of_nonneg hr.1] at this
theorem rO {r:List BH} {d:List Int} {day x:Int} {n:Nat} {a t:Int} (ha:a≠1) (hn:x.toNat<n) (hx:x∈E6 r d [] day):(x∈G0 r d ((List.replicate n 0).set x.toNat a) ((List.replicate n 0).set x.toNat t) day↔t<4):=by
 have hs:Bo ((List.replicate n (0:Int)).set x.toNat a)=[]:=Uc fun y hy=>by
  rcases List.mem_or_eq_of_mem_set hy with hy|rfl
  · rw [List.eq_of_mem_replicate hy];decide
  · exact ha
 have ht:((List.replicate n (0:Int)).set x.toNat t).getD x.toNat 0=t:=by rw [List.getD_eq_getElem?_getD,List.getElem?_set_self (by rw [List.length_replicate];exact hn)];rfl
 rw [Wb,hs,ht]
 exact ⟨fun h=>h.2,fun h=>⟨hx,h⟩⟩
theorem ff {l:List Ba} {r:List BH} {d:List Int} {day:Int} {st tr:List Int} {sp:Bool} (hst:st.length≤1000000) (htd:tr.length=d.length):BS prog 79 [agg (FR l r d day st tr sp)] (ints (G0 r d st tr day)) (CY) (fun _=>CY):=by
 refine BS.of func79 rfl rfl Az fun M0 w0 S rs M1 w1=> ?_
 obtain ⟨lz,hlz⟩:=toZ (n:=tr.length) (L:=E6 r d (Bo st) day) (fun x hx=>by have:=WV x (List.mem_filter.1 hx).1;omega)
 have hfz:(lz.filter fun x=> !decide (tr.getD x.1.toNat 0≥4)).map (·.1)=G0 r d st tr day:=by unfold G0;rw [←hlz];exact xI lz (fun i=> !decide (tr.getD i.toNat 0≥4))
 refine ac ?_
 refine Tr.seq (Tr.rx ?_)
 refine ay ?_
 refine xo rfl (fun _=>Cz (Sj hst) rfl rfl) ?_
 refine ay ?_
 refine Cx.ef 0 rfl rfl AB (Fu rfl rfl AB rfl (E4.both rfl (wB (l:=l) (r:=r) (d:=d) (s:=Bo st) (day:=day))) ⟨kq,kz⟩) ?_
 refine Cx.ef 0 rfl rfl AB (WU (s:=12) (f:=(fun u=>Np CY (BG 3 1 ((E6 r d (Bo st) day).map (fun n=>[int n])) (jg u)))) (g:=(fun u=>Np CY (BG 3 1 ((E6 r d (Bo st) day).map (fun n=>[int n])) (jg u)))) id rfl rfl AB rfl AB (fun _=>rfl) (fun u I=>BQ rfl vq)) (Cx.ef 0 rfl rfl AB (WU (s:=5) (f:=(fun u=>Np CY (BG 3 1 ((E6 r d (Bo st) day).map (fun n=>[int n])) (jg u)))) (g:=(fun v=>Np CY (BG 3 1 ((E6 r d (Bo st) day).map (fun n=>[int n])) v))) jg rfl rfl AB rfl AB (fun _=>rfl) (fun u I=>AAA rfl vq)) (xo rfl (fun _=>Am rfl vq rfl) (Cx.ef 0 rfl rfl AB (WU (s:=13) (f:=(fun v=>Np CY (BG 3 1 ((E6 r d (Bo st) day).map (fun n=>[int n])) v))) (g:=(fun v=>Np CY (BG 3 1 ((E6 r d (Bo st) day).map (fun n=>[int n])) v))) id rfl rfl AB rfl AB (fun _=>rfl) (fun u I=>Cq rfl vq)) (xm rfl ?_))))
 refine Cx.nil ⟨by kernel_rfl,?_⟩
 refine BI.iU 3 rfl (fun x1=> ?_)
 refine BI.aK 0 3 rfl rfl (BI.done XU (Fin.AAB 0 rfl (Fin.go (wk [3,1] rfl (Tr.seq (Tr.X8 1 rfl (fun xL AAF=> ?_) ?_))))))
 subst AAF
 refine Tr.re 3 rfl (EC _ _:Pr.le _ (is (.slice none 0 0))) ?_
 refine ac ?_
 refine co rfl (AV rfl (Sg (p:=(fun x:Qa tr.length=>decide (tr.getD x.1.toNat 0≥4)))) ⟨kq,⟨_,rfl,E0 Yg (fun x=>Yf x)⟩,trivial⟩) ?_
 refine ac ?_
 refine Tr.ret (Fin.drop 1 (Fin.ED rfl rfl ?_ (fun _ _ _ _=>rfl)))
 · rw [show G0 r d st tr day=[] by unfold G0;rw [List.map_eq_nil_iff.1 xL];rfl];exact AQ 1
 refine Tr.Ox 1 rfl fun b1 AAG sp1 Yk hg1 hm1 hs1=> ?_
 subst Yk
 rw [←hlz,fS] at hg1 hs1 ⊢
 refine ap ?_
 refine TO.GK 1 rfl rfl AB (Aj rfl rfl AB rfl (Ub (l:=lz) (p:=(fun x:Qa tr.length=>decide (tr.getD x.1.toNat 0≥4))) (sp:=sp1) hg1 hm1 hs1) ⟨KJ,⟨_,rfl,E0 Yg (fun x=>Yf x)⟩,trivial⟩) ?_
 refine ap ?_
 refine Tr.ret ?_
 refine Fin.ZW (sz:=1) ((lz.filter fun x=> !decide (tr.getD x.1.toNat 0≥4)).map It) 1 2 rfl rfl Lr (A7 fun _=>rfl) (by rw [List.length_map] at hg1 ⊢;exact Nat.le_trans (List.length_filter_le _ _) hg1) hm1 (by simp only [List.length_append,List.length_map,hs1];rw [Cv (sz:=1) (fun r hr=>by rw [List.eq_of_mem_replicate hr];rfl)];simp only [List.length_map,List.length_replicate];exact AAE (by rw [List.length_map] at hg1;exact hg1) (List.length_filter_le _ _)) ?_
 refine Fin.drop 1 (Fin.ED rfl rfl ?_ (fun _ _ _ _=>rfl))
 · exact Pr.le_trans (As _ _) (Pr.le_of_eq (wD hfz))
theorem Ue {l:List Ba} {r:List BH} {d:List Int} {day:Int} {st tr:List Int} (hst:st.length≤1000000) (htd:tr.length=d.length) (hd:d.length≤19):BS prog 27 [agg (FR l r d day st tr false)] (Dy [int (TP (Jy d) (G0 r d st tr day)),bool (Sk (Jy d) (G0 r d st tr day))]) (CY) (fun _=>CY):=by
 refine BS.of func27 rfl rfl Az fun M0 w0 S rs M1 w1=> ?_
 have hol:=rK d
 refine ac ?_
 refine an ?_ ?_<;>intro h1 q1
 exact absurd h1 AB
 refine ac ?_
 refine ap ?_
 refine TO.GK 0 rfl rfl AB (Aj rfl rfl AB rfl (ff hst htd) kz) ?_
 refine ap ?_
 refine ac ?_
 refine co rfl (Cz (rA hd) rfl rfl) ?_
 refine ac ?_
 refine Tr.block (Tr.BE _ (kk [14,13,4] rfl) (fun k:Nat=>[(15,int ((k:Nat):Int))]) (fun k:Nat=>k≤((Jy d)).length∧(∀j y,j<k→(Jy d)[j]? =some y→(G0 r d st tr day).contains y=false)) (fun k:Nat=>((Jy d)).length-k) 0 (⟨Nat.zero_le _,fun j y hj=>absurd hj AA⟩) kz ?_)
 rintro k ⟨BT,AX⟩
 refine ac ?_
 refine Tr.seq ?_
 refine Tr.cn rfl ?_ ?_<;>intro h2 q2
 have Ai:k<((Jy d)).length:=AH h2
 obtain ⟨x,Ah⟩:=at_ Ai
 refine ac ?_
 refine Tr.seq (Tr.block (Tr.seq (Tr.Al (co rfl (AD rfl underlying22 Bs vq vq AA (AZ Ah)) ?_))))
 refine a2 ?_
 refine co rfl (CS (PI) rfl rfl rfl) ?_
 refine an ?_ ?_<;>intro h3 q3
 refine ac ?_
 refine wk [3,2] rfl (Tr.ret (Fin.AR (Fin.AE (Fin.AE (Fin.AR (Fin.AE (Fin.FC rfl rfl ?_ rfl ?_)))))))
 · refine int_eq ?_;exact (fY Ah AX Br).1.symm
 · refine bool_eq ?_;exact (fY Ah AX Br).2.symm
 refine a2 ?_
 exact Fin.AO (k+1) ⟨⟨Ai,Db (p:=fun y=>(G0 r d st tr day).contains y) Ah Br AX⟩,by omega⟩ ⟨⟨_,rfl,AG k⟩,kz⟩
 have BP:k=((Jy d)).length:=by have:=AJ h2;omega
 subst BP
 refine a2 ?_
 refine Tr.ret (Fin.FC rfl rfl ?_ rfl ?_)
 · refine int_eq ?_;exact (rJ AX).1.symm
 · refine bool_eq ?_;exact (rJ AX).2.symm
def TQ (l:List Ba) (r:List BH) (d:List Int) (day:Int) (st tr:List Int) (i:Int) (x y z:B7):List Pr:=if (G0 r d st tr day).contains i=true then FR l r d day (if z=y then st.set i.toNat 1 else if z=x then st.set i.toNat 2 else st) (tr.set i.toNat (tr.getD i.toNat 0+1)) (!decide (z=y∨z=x)) else FR l r d day st tr false
theorem Kv {l:List Ba} {r:List BH} {d:List Int} {day:Int} {st tr:List Int} {step:Int} {x y z:B7} (Gb:∀x∈l,x.C6.small) (hl:l.length≤1000000) (hr:r.length≤1000000) (hd:d.length≤1000000) (hst:st.length≤1000000) (htr:tr.length≤1000000) (htd:tr.length=d.length) (hsd:st.length=d.length) (ht4:∀x∈tr,0≤x∧x≤4):BS prog 30 [agg (FR l r d day st tr false),int step,agg (Be x),agg (Be y),agg (Be z)] (Dy [agg (TQ l r d day st tr step x y z),int (if (G0 r d st tr day).contains step=true then 0 else 44)]) (CY) (fun _=>CY):=by
 refine BS.of func30 rfl rfl Az fun M0 w0 S rs M1 w1=> ?_
 refine Tr.seq (Tr.Ap ?_)
 iterate 4 refine tp rfl (Bh rfl C3) ?_
 refine Tl rfl rfl rfl rfl z42 Hj (fun b1=> ?_)
 refine ao ?_
 refine ao ?_
 refine TO.NK _ rfl rfl AB rfl (jl (sp:=false) Gb hl hr hd hst htr) kz (List.Perm.refl _) (fun x1 _=> ?_)
 refine Tl rfl rfl rfl rfl z42 Hj (fun b2=> ?_)
 refine TO.AK 0 rfl rfl rfl vq C3 rfl EE rfl rfl ?_
 refine ao ?_
 refine ac ?_
 refine wk [15,12,10,9,8,7,5,1] rfl ?_
 refine Tr.cn rfl ?_ ?_<;>intro h1 q1
 exact absurd h1 AB
 refine ao ?_
 refine TO.GK 4 rfl rfl AB (Aj rfl rfl AB rfl (ff hst htd) kz) (tm rfl (tp rfl (CS (PI) rfl rfl rfl) ?_))
 refine ao ?_
 refine wk [19,12,10,9,8,7,1] rfl ?_
 refine Tr.cn rfl ?_ ?_<;>intro h2 q2
 have hno:(G0 r d st tr day).contains step=false:=by simpa using h2
 refine Tr.seq (Tr.Gm 0 1 4 rfl rfl AB rfl Lr (A7 fun _=>rfl) (Tr.Gm 0 2 5 rfl rfl AB rfl Lr (A7 fun _=>rfl) ?_))
 refine ao ?_
 refine TO.AK 3 rfl rfl rfl vq C3 rfl EE rfl rfl ?_
 refine ao ?_
 refine Tr.drop 1 (Tr.drop 1 (Tr.ret (Fin.AR (Fin.AE (Fin.Lf [_,_] rfl (AL.cell 1 rfl rfl Ej EE rfl Lr) (AL.tmp rfl Lr) ?_)))))
 refine Ay ⟨?_,?_,trivial⟩
 · unfold TQ;rw [if_neg (by rw [hno];decide)];exact Lr
 · exact int_eq (if_neg (by rw [hno];decide)).symm
 have hin:(G0 r d st tr day).contains step=true:=by simpa using h2
 obtain ⟨hsr,_,_⟩:=Qc (Wb.1 (List.contains_iff_mem.1 hin)).1
 have hsi:st[step.toNat]? =some (st.getD step.toNat 0):=FL AA
 have hti:tr[step.toNat]? =some (tr.getD step.toNat 0):=FL AA
 have htb:=ht4 _ (List.mem_of_getElem? hti)
 refine a2 ?_
 refine co rfl (CS (d_) rfl rfl rfl) ?_
 refine an ?_ ?_<;>intro h3 q3
 have hzy:z=y:=by simpa using h3
 refine ao ?_
 refine tp rfl (CN 1 rfl (GQ rfl underlying22 Bs vq vq AA C1)) ?_
 refine TO.DG 1 rfl rfl (Eu rfl rfl vq Lj Bs rfl (A7 fun _=>rfl) (by rw [List.getElem?_map,hsi];rfl) AB (show _=(st.set step.toNat 1).map _ by rw [List.map_set];rfl)) ?_
 refine ao ?_
 refine wk [12,10,1] rfl ?_
 refine ao ?_
 refine tp rfl (CN 2 rfl (GQ rfl underlying22 Bs vq vq AA C1)) ?_
 refine tp rfl (CN 2 rfl (JV rfl Cs vq (A7 fun _=>rfl) Kx rfl)) ?_
 refine tp rfl (EO rfl vq vq ?hin) ?_;case hin=>unfold Mn;omega
 refine tp rfl (CN 2 rfl (GQ rfl underlying22 Bs vq vq AA C1)) ?_
 refine TO.DG 2 rfl rfl (Eu rfl rfl vq Lj Bs rfl (A7 fun _=>rfl) Kx AB (show _=(tr.set step.toNat (tr.getD step.toNat 0+1)).map _ by rw [List.map_set];rfl)) ?_
 refine ao ?_
 refine Tr.seq (Tr.Gm 0 1 4 rfl rfl AB rfl Lr (A7 fun _=>rfl) (Tr.Gm 0 2 5 rfl rfl AB rfl Lr (A7 fun _=>rfl) ?_))
 refine ao ?_
 refine TO.AK 3 rfl rfl rfl vq C3 rfl EE rfl rfl ?_
 refine ao ?_
 refine Tr.drop 1 (Tr.drop 1 (Tr.ret (Fin.Lf [_,_] rfl (AL.cell 1 rfl rfl Ej EE rfl Lr) (AL.tmp rfl Lr) ?_)))
 refine Ay ⟨?_,?_,trivial⟩
 · unfold TQ;rw [if_pos hin,if_pos hzy,decide_eq_true (Or.inl hzy)];exact Lr
 · exact int_eq (if_pos hin).symm
 have hzy:¬z=y:=by simpa using h3
 refine ac ?_
 refine co rfl (CS (d_) rfl rfl rfl) ?_
 refine ac ?_
 refine wk [35,12,10,1] rfl ?_
 refine Tr.cn rfl ?_ ?_<;>intro h4 q4
 have hzx:z=x:=by simpa using h4
 refine ao ?_
 refine tp rfl (CN 1 rfl (GQ rfl underlying22 Bs vq vq AA C1)) ?_
 refine TO.DG 1 rfl rfl (Eu rfl rfl vq Lj Bs rfl (A7 fun _=>rfl) (by rw [List.getElem?_map,hsi];rfl) AB (show _=(st.set step.toNat 2).map _ by rw [List.map_set];rfl)) ?_
 refine ao ?_
 refine ao ?_
 refine tp rfl (CN 2 rfl (GQ rfl underlying22 Bs vq vq AA C1)) ?_
 refine tp rfl (CN 2 rfl (JV rfl Cs vq (A7 fun _=>rfl) Kx rfl)) ?_
 refine tp rfl (EO rfl vq vq ?hin) ?_;case hin=>unfold Mn;omega
 refine tp rfl (CN 2 rfl (GQ rfl underlying22 Bs vq vq AA C1)) ?_
 refine TO.DG 2 rfl rfl (Eu rfl rfl vq Lj Bs rfl (A7 fun _=>rfl) Kx AB (show _=(tr.set step.toNat (tr.getD step.toNat 0+1)).map _ by rw [List.map_set];rfl)) ?_
 refine ao ?_
 refine wk [12,10] rfl (Tr.seq (Tr.Gm 0 1 4 rfl rfl AB rfl Lr (A7 fun _=>rfl) (Tr.Gm 0 2 5 rfl rfl AB rfl Lr (A7 fun _=>rfl) ?_)))
 refine ao ?_
 refine TO.AK 3 rfl rfl rfl vq C3 rfl EE rfl rfl ?_
 refine ao ?_
 refine Tr.drop 1 (Tr.drop 1 (Tr.ret (Fin.Lf [_,_] rfl (AL.cell 1 rfl rfl Ej EE rfl Lr) (AL.tmp rfl Lr) ?_)))
 refine Ay ⟨?_,?_,trivial⟩
 · unfold TQ;rw [if_pos hin,if_neg hzy,if_pos hzx,decide_eq_true (Or.inr hzx)];exact Lr
 · exact int_eq (if_pos hin).symm
 have hzx:¬z=x:=by simpa using h4
 refine ao ?_
 refine TO.DG 0 rfl rfl (Aw rfl rfl vq Lj Tp rfl Az rfl) ?_
 refine ao ?_
 refine ao ?_
 refine tp rfl (CN 2 rfl (GQ rfl underlying22 Bs vq vq AA C1)) ?_
 refine tp rfl (CN 2 rfl (JV rfl Cs vq (A7 fun _=>rfl) Kx rfl)) ?_
 refine tp rfl (EO rfl vq vq ?hin) ?_;case hin=>unfold Mn;omega
 refine tp rfl (CN 2 rfl (GQ rfl underlying22 Bs vq vq AA C1)) ?_
 refine TO.DG 2 rfl rfl (Eu rfl rfl vq Lj Bs rfl (A7 fun _=>rfl) Kx AB (show _=(tr.set step.toNat (tr.getD step.toNat 0+1)).map _ by rw [List.map_set];rfl)) ?_
 refine ao ?_
 refine Tr.seq (Tr.Gm 0 1 4 rfl rfl AB rfl Lr (A7 fun _=>rfl) (Tr.Gm 0 2 5 rfl rfl AB rfl Lr (A7 fun _=>rfl) ?_))
 refine ao ?_
 refine TO.AK 3 rfl rfl rfl vq C3 rfl EE rfl rfl ?_
 refine ao ?_
 refine Tr.drop 1 (Tr.drop 1 (wk [11,10] rfl (Tr.ret (Fin.Lf [_,_] rfl (AL.cell 1 rfl rfl Ej EE rfl Lr) (AL.tmp rfl Lr) ?_))))
 refine Ay ⟨?_,?_,trivial⟩
 · unfold TQ;rw [if_pos hin,if_neg hzy,if_neg hzx,decide_eq_false (fun h=>h.elim hzy hzx)];exact Lr
 · exact int_eq (if_pos hin).symm
end Go.Proofs.YtmocaapoeefgkaaGreatDoor
