/-
  Part 8 of the texts that prove this claim, merged.
-/
import Derived.Test.YteomgekmipcdpaaGreatDoorRbCP7
set_option linter.all false
set_option maxRecDepth 40000
set_option maxHeartbeats 16000000
namespace Go.Proofs.YteomgekmipcdpaaGreatDoor
open Go Go.RowKit Cp Go.Proofs.Tryz
variable {fr:Int} {rows:List (List Pr)} {s:List Int} {r:List B0} {sp:List Value} {b cap j k m n:Nat}
theorem YQ {e:Dg} {l:List Bl} {i:Int}:(∀x∈(J1 e l i).1,0≤x∧x<(l.length:Nat))∧(J1 e l i).1.length≤24:=by grind [J1,PY]
theorem bH {n:Int} {o:List (List Int)} {x:List Int} (h:(∀s∈o,∀y∈s,0≤y∧y<n)∧∀s∈o,s.length≤4096) (hx:∀y∈x,0≤y∧y<n) (hl:x.length≤4096):(∀s∈o++[x],∀y∈s,0≤y∧y<n)∧∀s∈o++[x],s.length≤4096:=by grind
theorem jO {n:Int} {o:List Int} {x:Int} (h:∀y∈o,0≤y∧y<n) (hx:0≤x∧x<n):∀y∈o++[x],0≤y∧y<n:=by grind
theorem jP {e:Dg} {l:List Bl} {d:List Int} {i:Int} (hz:e.sz n) (hn:n≤800000) (hrl:r.length≤1000000):A_ prog 216 [agg (CJ e),Jj l r d,int i] (Cp.ex fun z:List (List Int)×Int=>fact (Lv ((l.length:Nat):Int) z.1) (DW [sets z.1,int z.2])):=by
 refine fo func216 rfl ⟨rfl,rfl⟩ fun M0 w0=> ?_
 refine a2 ?_
 refine co rfl (Iy (TW hz hn) rfl rfl rfl rfl) ?_
 refine ac ?_
 refine wk [8,4] rfl (Tr.seq ?_)
 obtain ⟨rel,ABv⟩:∃rel,(J1 e l i).1=rel:=⟨_,rfl⟩
 have jD:∀x∈rel,0≤x∧x<(l.length:Nat):=ABv ▸ YQ.1
 have ALz:rel.length≤24:=ABv ▸ YQ.2
 refine Tr.re 8 rfl (Pr.le_of_eq (by rw [ABv])) ?_
 refine ap ?_
 refine tp rfl (Iy (jN (n:=((l.length:Nat):Int)) (l:=r) (s:=rel) hrl) rfl rfl rfl rfl) ?_
 refine TO.ex 35 rfl (fun z1=>TO.fact 35 rfl fun E2=> ?_)
 refine ap ?_
 refine wk [10,8] rfl ?_
 refine ap ?_
 refine tp rfl (Bu (jH (n:=((rel.length:Nat):Int)) (l:=z1.1) AA) rfl rfl rfl) ?_
 refine TO.ex 42 rfl (fun z2=>TO.fact 42 rfl fun HW=> ?_)
 refine ap ?_
 refine ac ?_
 refine wk [46,13,12,8] rfl ?_
 refine Tr.cn rfl ?_ ?_<;>intro h1 q1
 refine ac ?_
 refine Tr.ret (Fin.AF (Fin.BW rfl (AQ.tmp rfl Lr) (AQ.tmp rfl Lr) ?_))
 · exact Y_
 have hl4:=HW.len
 refine a3 ?_
 refine Tr.block (Tr.B5 38 1 (Tr.Cy _ (kk [49,48,8] rfl) (fun (o:List (List Int)) (k:Nat) u=>[(50,int ((k:Nat):Int)),(14,Ag u (sets o))]) (fun (o:List (List Int)) (k:Nat) u=>Hp M0 w0 FG ([Ax 38 1 u])) (fun (o:List (List Int)) (k:Nat)=>(k≤z2.1.length∧o.length=k)∧(∀s∈o,∀y∈s,0≤y∧y<((l.length:Nat):Int))∧∀s∈o,s.length≤4096) (fun (o:List (List Int)) (k:Nat)=>z2.1.length-k) ([]) (0) (.slice none 0 0) (⟨⟨Nat.zero_le _,rfl⟩,fun s h=>GP,fun s h=>GP⟩) ⟨kq,⟨_,rfl,Bf rfl⟩,trivial⟩ (fun _ _ h=>h) ?_))
 rintro o k u ⟨⟨hk0,hol⟩,hou⟩
 refine ac ?_
 refine Tr.seq ?_
 refine Tr.cn rfl ?_ ?_<;>intro h2 q2
 have hk:k<z2.1.length:=AJ h2
 obtain ⟨s,hs⟩:=at_ hk
 have hsr:=HW.WA s (List.mem_of_getElem? hs)
 have hsw:=HW.wid s (List.mem_of_getElem? hs)
 refine ac ?_
 refine Tr.seq (Tr.block (Tr.seq (Tr.Bq (co rfl (AB rfl underlying257 HH vq vq AA (Ad hs)) ?_))))
 refine a3 ?_
 refine Tr.block (Tr.B5 3 1 (Tr.Cy _ (kk [55,54,50,49,48,14,8] rfl) (fun (x:List Int) (m:Nat) u2=>[(56,int ((m:Nat):Int)),(17,Ag u2 (ints x))]) (fun (x:List Int) (m:Nat) u2=>Hp M0 w0 FG ([Ax 3 1 u2,Ax 38 1 u])) (fun (x:List Int) (m:Nat)=>(m≤s.length∧x.length=m)∧∀y∈x,0≤y∧y<((l.length:Nat):Int)) (fun (x:List Int) (m:Nat)=>s.length-m) ([]) (0) (.slice none 0 0) (⟨⟨Nat.zero_le _,rfl⟩,fun s h=>GP⟩) ⟨kq,⟨_,rfl,Bf rfl⟩,trivial⟩ (fun _ _ h=>h) ?_))
 rintro x m u2 ⟨⟨hm0,hxl⟩,hxr⟩
 refine ac ?_
 refine Tr.seq ?_
 refine Tr.cn rfl ?_ ?_<;>intro h3 q3
 have hm:m<s.length:=AJ h3
 obtain ⟨i2,hi2⟩:=at_ hm
 have hir:=hsr i2 (List.mem_of_getElem? hi2)
 obtain ⟨y,hy⟩:=at_ (l:=rel) (k:=i2.toNat) AA
 have hyr:=jD y (List.mem_of_getElem? hy)
 refine ac ?_
 refine Tr.seq (Tr.block (Tr.seq (Tr.Bq (co rfl (AB rfl underlying38 BJ vq vq AA (Ad hi2)) ?_))))
 refine ac ?_
 refine ap ?_
 refine tp rfl (AB rfl underlying38 BJ vq vq AA (Be hy)) ?_
 refine ap ?_
 refine TO.C1 0 rfl rfl AD (B7 rfl rfl rfl rfl underlying38 BJ IE z3 Fo Ea (A7 BD Gi)) (fun v1=> ?_)
 refine ap ?_
 refine wk [56,55,54,50,49,48,17,14,8] rfl ?_
 refine ac ?_
 exact Fin.Bg (x++[y]) (m+1) v1 (⟨⟨⟨by omega,by simp;omega⟩,jO hxr hyr⟩,by omega⟩) ⟨⟨_,rfl,AG m⟩,⟨_,rfl,A9 DC⟩,kz⟩ (fun _ _ h=>h)
 have hme:=AK h3
 refine ac ?_
 refine ap ?_
 refine tp rfl (Aa (xs:=[.tmp 69]) (rows:=[[_]]) rfl rfl underlying257 HH z38 rfl AD ⟨⟨Ao,⟨_,rfl,Pr.le_trans (At _ _) (AO _)⟩⟩,trivial⟩ AD) ?_
 refine TO.C1 1 rfl rfl AD (B7 rfl rfl rfl rfl underlying257 HH W_ z38 Fo Ea (A7 BD Gi)) (fun v2=> ?_)
 refine ap ?_
 refine wk [50,49,48,14,8] rfl ?_
 refine ac ?_
 refine Fin.drop 0 ?_
 exact Fin.Bg (o++[x]) (k+1) v2 (⟨⟨⟨by omega,by simp;omega⟩,bH hou hxr AA⟩,by omega⟩) ⟨⟨_,rfl,AG k⟩,⟨_,rfl,A9 DC⟩,kz⟩ (fun _ _ h=>h)
 have Te:=AK h2
 refine a2 ?_
 refine Tr.ret (Fin.BW rfl (AQ.tmp rfl Lr) (AQ.tmp rfl Lr) ?_)
 · exact As (_,_) (Ar ⟨hou.1,(by show o.length≤4096;omega),hou.2⟩ (BK ⟨At _ _,Lr,trivial⟩))
theorem YR {e:Dg} {l:List Bl} {d:List Int} (hf:e.fits) (hrl:r.length≤1000000):A_ prog 152 [agg (CJ e),Jj l r d] (Cp.ex fun z:Int=>fact (z=0→FU e=true∧rD e.Bw.length l r d) (int z)):=by
 refine fo func152 rfl ⟨rfl,rfl⟩ fun M0 w0=> ?_
 refine a2 ?_
 refine co rfl (CE (Dv hf) rfl rfl) ?_
 refine an ?_ ?_<;>intro h1 q1
 refine a2 ?_
 · exact Pj
 have Vb:FU e=true:=by cases h_:FU e with|true=>rfl|false=>exact absurd h1 Mt
 refine ac ?_
 refine ap ?_
 refine tp rfl (Bu (rE hrl) rfl rfl rfl) ?_
 refine TO.ex 10 rfl (fun z1=>TO.fact 10 rfl fun E2=> ?_)
 refine ap ?_
 · repeat' first|exact As _ (Ar (fun h_=>absurd h_ AD) Lr)|exact As 0 (Ar (fun _=>⟨Vb,E2 B9⟩) Lr)|refine ac ?_|(refine Tr.cn rfl ?_ ?_<;>intro h q)
def rH (d s:List Int) (fr:Int):Int:=s.foldl (fun a i=>max a (d.getD i.toNat 0)) fr
theorem jQ {d:List Int} {i:Int} (h:s[k]? =some i):rH d (s.take (k+1)) fr=max (rH d (s.take k) fr) (d.getD i.toNat 0):=by unfold rH;rw [List.take_add_one,h,List.foldl_append];rfl
theorem MZ {l:List Bl} {d:List Int} (hs:∀i∈s,0≤i∧i<(d.length:Nat)):A_ prog 154 [Jj l r d,ints s,int fr] (int (rH d s fr)):=by
 refine fo func154 rfl ⟨rfl,rfl⟩ fun M0 w0=>(Tr.CN 1 rfl fun Fq=> ?_)
 refine a3 ?_
 refine Tr.block (Tr.A0 _ (kk [12,11,3] rfl) (fun k:Nat=>[(13,int ((k:Nat):Int)),(7,int (rH d (s.take k) fr))]) (fun k:Nat=>k≤(s).length) (fun k:Nat=>(s).length-k) 0 (Nat.zero_le _) ⟨kq,kz⟩ ?_)
 rintro k BN
 refine ac ?_
 refine Tr.seq ?_
 refine Tr.cn rfl ?_ ?_<;>intro h1 q1
 have Ae:k<(s).length:=AJ h1
 obtain ⟨i,Af⟩:=at_ Ae
 have hir:=hs i (List.mem_of_getElem? Af)
 have hdi:=LJ (l:=d) (i:=i.toNat) AA
 refine ac ?_
 refine Tr.seq (Tr.block (Tr.seq (Tr.Bq (co rfl (AB rfl underlying38 BJ vq vq AA (Ad Af)) ?_))))
 refine a2 ?_
 refine co rfl (AB rfl underlying22 BJ vq vq AA (Be hdi)) (co rfl (JA rfl BT rfl) (co rfl (N9 rfl vq vq) ?_))
 refine ac ?_
 refine wk [13,12,11,7,3] rfl ?_
 refine ac ?_
 exact Fin.AL (k+1) ⟨Ae,by omega⟩ ⟨⟨_,rfl,AG k⟩,⟨_,rfl,int_eq (by rw [jQ Af])⟩,kz⟩
 have BC:k=(s).length:=by have:=AK h1;omega
 subst BC
 rw [List.take_length]
 refine a3 ?_
 · exact Lr
structure AKY (n:Int) (L:List (List (List Int))):Prop where
 WA:∀t∈L,Lv n t
 len:L.length≤1000000
abbrev zN (L:List (List (List Int))):Pr:=slice 1 (L.map fun t=>[sets t])
theorem jR {n:Int} {L:List (List (List Int))} {t:List (List Int)} (h:∀t∈L,Lv n t) (ht:Lv n t):∀u∈L++[t],Lv n u:=by grind
theorem YS {e:Dg} {l:List Bl} {d:List Int} (hz:e.sz n) (hn:n≤800000) (hrl:r.length≤1000000):A_ prog 153 [agg (CJ e),Jj l r d] (Cp.ex fun z:List (List (List Int))×Int=>fact (AKY ((l.length:Nat):Int) z.1) (DW [zN z.1,int z.2])):=by
 refine fo func153 rfl ⟨rfl,rfl⟩ fun M0 w0=> ?_
 have hlg:=hz.lg
 iterate 4 refine ac ?_
 refine Tr.block (Tr.B5 257 1 (Tr.E6 _ (kk [13,3,2] rfl) (fun (o:List (List (List Int))) (m:Int) (k:Nat) u=>[(14,int ((k:Nat):Int)),(7,int m),(6,Ag u (zN o))]) (fun (o:List (List (List Int))) (m:Int) (k:Nat) u=>Hp M0 w0 FG ([Ax 257 1 u])) (fun (o:List (List (List Int))) (m:Int) (k:Nat)=>(k≤e.BV.length∧o.length=k)∧(0≤m∧m≤4096)∧∀t∈o,Lv ((l.length:Nat):Int) t) (fun (o:List (List (List Int))) (m:Int) (k:Nat)=>e.BV.length-k) ([]) (0) (0) (.slice none 0 0) (⟨⟨Nat.zero_le _,rfl⟩,⟨by omega,by omega⟩,fun s h=>GP⟩) ⟨kq,kq,⟨_,rfl,Bf rfl⟩,trivial⟩ (fun _ _ h=>h) ?_))
 rintro o m k u ⟨⟨hk0,hol⟩,hm,hou⟩
 refine ac ?_
 refine Tr.seq ?_
 refine Tr.cn rfl ?_ ?_<;>intro h1 q1
 have hk:k<e.BV.length:=AJ h1
 refine a2 ?_
 refine ap ?_
 refine tp rfl (Iy (jP hz hn hrl) rfl rfl rfl rfl) ?_
 refine TO.ex 21 rfl (fun z1=>TO.fact 21 rfl fun E2=> ?_)
 have hzl:=E2.len
 refine ap ?_
 refine wk [14,13,10,9,7,6,3,2] rfl ?_
 refine ac ?_
 refine ag ?_ ?_<;>intro h2 q2
 refine ac ?_
 refine wk [33,14,13,9,7,6,3,2] rfl ?_
 refine ac ?_
 refine Tr.ret (Fin.AF (Fin.AP (Fin.AF (Fin.AF (Fin.AP (Fin.AF (Fin.BW rfl (AQ.tmp rfl Lr) (AQ.tmp rfl Lr) ?_)))))))
 · exact ko
 refine ac ?_
 refine wk [33,14,13,9,7,6,3,2] rfl ?_
 refine Tr.cn rfl ?_ ?_<;>intro h3 q3
 refine ac ?_
 refine Tr.ret (Fin.AF (Fin.AP (Fin.AF (Fin.AF (Fin.AP (Fin.AF (Fin.BW rfl (AQ.tmp rfl Lr) (AQ.tmp rfl Lr) ?_)))))))
 · exact ko
 refine ac ?_
 refine ap ?_
 refine TO.C1 0 rfl rfl AD (B7 rfl rfl rfl rfl underlying254 dZ AEI AEK Fo Ea (A7 BD Gi)) (fun v1=> ?_)
 refine ap ?_
 refine ac ?_
 exact Fin.Di (o++[z1.1]) (m+((z1.1.length:Nat):Int)) (k+1) v1 (⟨⟨⟨by omega,by simp;omega⟩,⟨by omega,by omega⟩,jR hou E2⟩,by omega⟩) ⟨⟨_,rfl,AG k⟩,kq,⟨_,rfl,A9 DC⟩,kz⟩ (fun _ _ h=>h)
 have Te:=AK h1
 refine a2 ?_
 refine Tr.ret (Fin.BW rfl (AQ.tmp rfl Lr) (AQ.tmp rfl Lr) ?_)
 · exact As (_,_) (Ar ⟨hou,(by show o.length≤1000000;omega)⟩ (BK ⟨At _ _,Lr,trivial⟩))
abbrev ABw:Pr:=agg [anyI,anyI]
theorem xU {φ:Prop}:Pr.le (Cp.ex fun z:Int×Int×Int=>fact φ (DW [agg [int z.1,int z.2.1],int z.2.2])) (DW [ABw,anyI]):=fun M w v ⟨z,_,h⟩=>BK (ps:=[agg [int z.1,int z.2.1],int z.2.2]) (qs:=[ABw,anyI]) ⟨BP (ps:=[int z.1,int z.2.1]) (qs:=[anyI,anyI]) ⟨As _ (Pr.le_refl _),As _ (Pr.le_refl _),trivial⟩,As _ (Pr.le_refl _),trivial⟩ M w v h
abbrev zO:Pr:=Cp.ex fun z:List Int=>fact (z.length≤1000000) (ints z)
theorem ABx:Pr.le (Cp.ex fun z:List Int×Int=>fact (z.1.length≤1000) (DW [ints z.1,int z.2])) (DW [zO,anyI]):=fun M w v ⟨z,hz,h⟩=>BK (ps:=[ints z.1,int z.2]) (qs:=[zO,anyI]) ⟨As z.1 (Ar AA (Pr.le_refl _)),As _ (Pr.le_refl _),trivial⟩ M w v h
theorem bI {e:Dg} {l:List Bl} {d:List Int} {i OK:Int} (hz:e.sz n) (hn:n≤800000) (hc:∀c∈l,c.DM.fits∧c.DM.small) (hs:∀i∈s,0≤i∧i<(d.length:Nat)) (KV:s.length≤4096):A_ prog 214 [agg (CJ e),Jj l r d,int i,ints s,int fr,int OK] (DW [ABw,EN]):=by
 refine fo func214 rfl ⟨rfl,rfl⟩ fun M0 w0=> ?_
 have hxf:=(fc (l:=l) (s:=s) hz hc).fits AA
 refine Tr.seq (Tr.BI (tp rfl (Bv rfl Cu) (tp rfl (Bv rfl Cu) ?_)))
 refine Tl rfl rfl rfl rfl Js Fl (fun b1=> ?_)
 refine ao ?_
 refine ao ?_
 refine tp rfl (Iy (MY hz hn hc) rfl rfl rfl rfl) ?_
 refine ao ?_
 refine Tl rfl rfl rfl rfl z31 Ic (fun b2=> ?_)
 refine sf 0 14 ⟨rfl,rfl,rfl⟩ rfl rfl rfl rfl ?_
 refine ao ?_
 refine wk [15,14,12,7,5,4,3,2] rfl ?_
 refine an ?_ ?_<;>intro h1 q1
 refine ao ?_
 refine TO.AV 0 rfl rfl rfl vq Cu rfl CG rfl rfl ?_
 refine ao ?_
 refine Tr.ret (Fin.AF (Fin.BW rfl (AQ.cell 0 rfl rfl Cz CG rfl Lr) (AQ.tmp rfl Lr) ?_))
 refine BK ⟨?_,?_,trivial⟩
 · exact BP ⟨As _ Lr,As _ Lr,trivial⟩
 · exact Aw
 refine ac ?_
 refine Tr.seq (Tr.pad (Tr.rx ?_))
 refine ax ?_
 refine xo rfl (fun _=>Iy (MZ hs) rfl rfl rfl rfl) (xm rfl (xo rfl (fun _=>Ab.le (eA (PG hxf) rfl rfl rfl rfl rfl) xU) ?_))
 refine ax ?_
 refine Cx.ef 0 rfl rfl AD (Ca rfl rfl AD rfl Js Fl) (Cx.C0 0 rfl rfl (C2 rfl rfl rfl rfl Cu CG rfl rfl) (xm rfl ?_))
 refine Cx.nil ⟨by kernel_rfl,?_⟩
 refine BE.open_ 0 16 rfl rfl (fun v1=> ?_)
 refine BE.done Mk (Fin.Mh 16 0 _ rfl rfl (fun _=>rfl) (fun b3=> ?_))
 refine Fin.go (wk [17,16,12] rfl ?_)
 refine ao ?_
 refine tp rfl (qj rfl (VL.le vq ah) (VL.le vq (Cf _ _))) (TO.AV 1 rfl rfl rfl vq Cu rfl CG rfl rfl ?_)
 refine ao ?_
 refine Tr.drop 0 (Tr.ret (Fin.BW rfl (AQ.cell 0 rfl rfl Cz CG rfl Lr) (AQ.tmp rfl Lr) ?_))
 refine BK ⟨?_,?_,trivial⟩
 · exact Lr
 · exact Lr
abbrev rI (c:Int×List Int):List Pr:=[int c.1,ints c.2,anyI,anyI]
abbrev rJ:Pr:=agg [Cp.ex fun L:List (Int×List Int)=>slice 4 (L.map rI)]
abbrev AGV:Pr:=agg [anyI,Cp.ex fun s:List Int=>ints s,anyI,anyI]
theorem Dz:Pr.le (agg [is (.slice none 0 0)]) rJ:=BP ⟨As [] (AM 4),trivial⟩
theorem Mn:Pr.le (agg [is (.int .i64 0),is (.slice none 0 0),is (.int .i64 0),is (.int .i64 0)]) AGV:=BP ⟨As _ (Pr.le_refl _),As [] (AM 1),As _ (Pr.le_refl _),As _ (Pr.le_refl _),trivial⟩
theorem jS {e:Dg} {l:List Bl} {d:List Int} {OK:Int} (hz:e.sz n) (hn:n≤800000) (hc:∀c∈l,c.DM.fits∧c.DM.small) (hrl:r.length≤1000000):A_ prog 151 [agg (CJ e),Jj l r d,int fr,int OK] (Cp.ex fun z:Int=>fact (z=0→FU e=true∧rD e.Bw.length l r d) (DW [rJ,AGV,EN,int z])):=by
 refine fo func151 rfl ⟨rfl,rfl⟩ fun M0 w0=> ?_
 have hf:=hz.fits AA
 refine Tr.seq (Tr.BI (tp rfl (Bv rfl Cu) (tp rfl (Bv rfl Cu) ?_)))
 refine Tl rfl rfl rfl rfl j4 LR (fun b1=> ?_)
 refine Tl rfl rfl rfl rfl uq RY (fun b2=> ?_)
 refine ao ?_
 refine ao ?_
 refine tp rfl (Bu (YR hf hrl) rfl rfl rfl) ?_
 refine TO.ex 24 rfl (fun z1=>TO.fact 24 rfl fun E2=> ?_)
 refine ao ?_
 refine wk [12,9,8,5,4,3,2] rfl ?_
 refine an ?_ ?_<;>intro h1 q1
 refine ao ?_
 refine TO.AV 1 rfl rfl rfl vq Cu rfl Cn rfl rfl (TO.AV 0 rfl rfl rfl vq Cu rfl F3 rfl rfl ?_)
 refine ao ?_
 refine wk [11,10,9,8] rfl (Tr.ret (Fin.AF (Fin.PF rfl (AQ.cell 1 rfl rfl Dw Cn rfl Lr) (AQ.cell 0 rfl rfl KA F3 rfl Lr) (AQ.tmp rfl Lr) (AQ.tmp rfl Lr) ?_)))
 · exact As z1 (Ar (fun h_=>absurd h_ AA) (BK ⟨Dz,Mn,As _ Lr,Lr,trivial⟩))
 have hz0:z1=0:=by have:=q1;omega
 obtain ⟨Vb,hfp⟩:=E2 hz0
 have hdl:=hfp.dl
 refine ac ?_
 refine ag ?_ ?_<;>intro h2 q2
 refine ac ?_
 refine wk [43,9,8,5,4,3,2] rfl (Tr.cond rfl (fun _=> ?_) (fun h=>nomatch h))
 refine Tr.seq (Tr.BI (tp rfl (Au (rows:=[]) rfl tW LR trivial rfl) (tp rfl (Au (rows:=[]) rfl dY RY trivial rfl) (TO.AV 1 rfl rfl rfl vq Cu rfl Cn rfl rfl (TO.AV 0 rfl rfl rfl vq Cu rfl F3 rfl rfl ?_)))))
 refine ao ?_
 refine Tr.ret (Fin.AF (Fin.PF rfl (AQ.cell 1 rfl rfl Dw Cn rfl Lr) (AQ.cell 0 rfl rfl KA F3 rfl Lr) (AQ.tmp rfl Lr) (AQ.tmp rfl Lr) ?_))
 · exact Ur
 refine ag ?_ ?_<;>intro h3 q3
 refine ac ?_
 refine wk [43,9,8,5,4,3,2] rfl (Tr.cond rfl (fun _=> ?_) (fun h=>nomatch h))
 refine Tr.seq (Tr.BI (tp rfl (Au (rows:=[]) rfl tW LR trivial rfl) (tp rfl (Au (rows:=[]) rfl dY RY trivial rfl) (TO.AV 1 rfl rfl rfl vq Cu rfl Cn rfl rfl (TO.AV 0 rfl rfl rfl vq Cu rfl F3 rfl rfl ?_)))))
 refine ao ?_
 refine Tr.ret (Fin.AF (Fin.PF rfl (AQ.cell 1 rfl rfl Dw Cn rfl Lr) (AQ.cell 0 rfl rfl KA F3 rfl Lr) (AQ.tmp rfl Lr) (AQ.tmp rfl Lr) ?_))
 · exact Ur
 refine ag ?_ ?_<;>intro h4 q4
 refine ac ?_
 refine wk [43,9,8,5,4,3,2] rfl (Tr.cond rfl (fun _=> ?_) (fun h=>nomatch h))
 refine Tr.seq (Tr.BI (tp rfl (Au (rows:=[]) rfl tW LR trivial rfl) (tp rfl (Au (rows:=[]) rfl dY RY trivial rfl) (TO.AV 1 rfl rfl rfl vq Cu rfl Cn rfl rfl (TO.AV 0 rfl rfl rfl vq Cu rfl F3 rfl rfl ?_)))))
 refine ao ?_
 refine Tr.ret (Fin.AF (Fin.PF rfl (AQ.cell 1 rfl rfl Dw Cn rfl Lr) (AQ.cell 0 rfl rfl KA F3 rfl Lr) (AQ.tmp rfl Lr) (AQ.tmp rfl Lr) ?_))
 · exact Ur
 refine ac ?_
 refine wk [43,9,8,5,4,3,2] rfl ?_
 refine Tr.cn rfl ?_ ?_<;>intro h5 q5
 refine ao ?_
 refine TO.AV 1 rfl rfl rfl vq Cu rfl Cn rfl rfl (TO.AV 0 rfl rfl rfl vq Cu rfl F3 rfl rfl ?_)
 refine ao ?_
 refine Tr.ret (Fin.AF (Fin.PF rfl (AQ.cell 1 rfl rfl Dw Cn rfl Lr) (AQ.cell 0 rfl rfl KA F3 rfl Lr) (AQ.tmp rfl Lr) (AQ.tmp rfl Lr) ?_))
 · exact Ur
 refine ac ?_
 refine ao ?_
 refine tp rfl (Bu (YS hz hn hrl) rfl rfl rfl) ?_
 refine TO.ex 49 rfl (fun z2=>TO.fact 49 rfl fun HW=> ?_)
 refine ao ?_
 refine wk [14,13,9,8,5,4,3,2] rfl ?_
 refine an ?_ ?_<;>intro h6 q6
 refine ao ?_
 refine TO.AV 1 rfl rfl rfl vq Cu rfl Cn rfl rfl (TO.AV 0 rfl rfl rfl vq Cu rfl F3 rfl rfl ?_)
 refine ao ?_
 refine wk [11,10,9,8] rfl (Tr.ret (Fin.AF (Fin.PF rfl (AQ.cell 1 rfl rfl Dw Cn rfl Lr) (AQ.cell 0 rfl rfl KA F3 rfl Lr) (AQ.tmp rfl Lr) (AQ.tmp rfl Lr) ?_)))
 · exact As _ (Ar (fun _=>⟨Vb,hfp⟩) (BK ⟨Dz,Mn,As _ Lr,Lr,trivial⟩))
 refine ac ?_
 refine Tr.seq (Tr.BI ?_)
 refine Tl rfl rfl rfl rfl j4 LR (fun b3=> ?_)
 refine ao ?_
 refine ac ?_
 refine wk [59,58,57,15,9,8,5,4,3,2] rfl (Tr.block (Tr.Iw 0 [Ag (.slice none 0 0) (slice 4 (([]:List (Int×List Int)).map rI))] rfl ⟨Bf rfl,trivial⟩ (Tr.B5 250 4 (Tr.Cy _ (kk [58,57,15,9,8,5,4,3,2] rfl) (fun (q:List (Int×List Int)) (k:Nat) v=>[(59,int ((k:Nat):Int))]) (fun (q:List (Int×List Int)) (k:Nat) v=>Hp M0 w0 FG ([Ax 250 4 v,AE true b3 65 [Ag v (slice 4 (q.map rI))],AE true b2 250 (([.int .i64 0,.slice none 0 0,.int .i64 0,.int .i64 0]:List Value).map is),AE true b1 65 (([.slice none 0 0]:List Value).map is)])) (fun (q:List (Int×List Int)) (k:Nat)=>k≤z2.1.length∧q.length≤4096*k) (fun (q:List (Int×List Int)) (k:Nat)=>z2.1.length-k) ([]) (0) (.slice none 0 0) (⟨Nat.zero_le _,by simp⟩) kz (fun _ _ h=>h) ?_))))
 rintro q k v ⟨hk0,hql⟩
 refine ac ?_
 refine Tr.seq ?_
 refine Tr.cn rfl ?_ ?_<;>intro h7 q7
 have hk:k<z2.1.length:=AJ h7
 obtain ⟨t,ht⟩:=at_ hk
 have hts:=HW.WA t (List.mem_of_getElem? ht)
 have htl:=hts.len
 have hzl:=HW.len
 refine a2 ?_
 refine co rfl (AB rfl underlying254 dZ vq vq AA (Ad ht)) ?_
 refine ac ?_
 refine wk [59,58,57,17,16,15,9,8,5,4,3,2] rfl ?_
 refine ac ?_
 refine wk [66,65,64,59,58,57,16,15,9,8,5,4,3,2] rfl (Tr.block (Tr.Cy _ (kk [65,64,59,58,57,16,15,9,8,5,4,3,2] rfl) (fun (q2:List (Int×List Int)) (m:Nat) u=>[(66,int ((m:Nat):Int))]) (fun (q2:List (Int×List Int)) (m:Nat) u=>Hp M0 w0 FG ([Ax 250 4 u,AE true b3 65 [Ag u (slice 4 (q2.map rI))],AE true b2 250 (([.int .i64 0,.slice none 0 0,.int .i64 0,.int .i64 0]:List Value).map is),AE true b1 65 (([.slice none 0 0]:List Value).map is)])) (fun (q2:List (Int×List Int)) (m:Nat)=>m≤t.length∧q2.length≤4096*k+m) (fun (q2:List (Int×List Int)) (m:Nat)=>t.length-m) (q) (0) v (⟨Nat.zero_le _,by omega⟩) kz (fun _ _ h=>h) ?_))
 rintro q2 m u ⟨hm0,AL0⟩
 refine ac ?_
 refine wk [67,66,65,64,59,58,57,16,15,9,8,5,4,3,2] rfl (Tr.seq ?_)
 refine Tr.cn rfl ?_ ?_<;>intro h8 q8
 have hm:m<t.length:=AJ h8
 obtain ⟨x,hx⟩:=at_ hm
 have hsd:∀i∈x,0≤i∧i<(d.length:Nat):=fun i hi=>by have:=hts.WA x (List.mem_of_getElem? hx) i hi;omega
 have hsw:=hts.wid x (List.mem_of_getElem? hx)
 refine ac ?_
 refine wk [66,65,64,59,58,57,16,15,9,8,5,4,3,2] rfl (Tr.seq (Tr.block (Tr.seq (Tr.Bq (co rfl (AB rfl underlying257 HH vq vq AA (Ad hx)) ?_)))))
 refine ac ?_
 refine wk [66,65,64,59,58,57,19,16,15,9,8,5,4,3,2] rfl ?_
 refine ac ?_
 refine co rfl (Iy (MZ hsd) rfl rfl rfl rfl) ?_
 refine ac ?_
 refine wk [75,66,65,64,59,58,57,19,16,15,9,8,5,4,3,2] rfl ?_
 refine Tr.cn rfl ?_ ?_<;>intro h9 q9
 refine ac ?_
 refine wk [66,65,64,59,58,57,16,15,9,8,5,4,3,2] rfl ?_
 refine ac ?_
 exact Fin.Bg (q2) (m+1) u (⟨⟨by omega,by omega⟩,by omega⟩) ⟨⟨_,rfl,AG m⟩,kz⟩ (fun _ _ h=>h)
 refine ac ?_
 refine wk [66,65,64,59,58,57,19,16,15,9,8,5,4,3,2] rfl ?_
 refine ao ?_
 refine tp rfl (AY rfl (bI hz hn hc hsd hsw) ⟨kq,kz⟩) ?_
 refine ao ?_
 refine Tl rfl rfl rfl rfl Js Fl (fun b4=> ?_)
 refine sf 0 20 ⟨rfl,rfl,rfl⟩ rfl rfl rfl rfl ?_
 refine ao ?_
 refine wk [66,65,64,59,58,57,21,20,19,16,15,9,8,5,4,3,2] rfl (Tr.seq (Tr.seq (Tr.ex 21 rfl fun x21=> ?_)))
 refine ac ?_
 refine wk [87,66,65,64,59,58,57,20,19,16,15,9,8,5,4,3,2] rfl ?_
 refine Tr.cn rfl ?_ ?_<;>intro h10 O2
 refine ao ?_
 refine TO.AV 3 rfl rfl rfl vq Cu rfl Cn rfl rfl (TO.AV 2 rfl rfl rfl vq Cu rfl F3 rfl rfl ?_)
 refine ao ?_
 refine wk [11,10,9,8] rfl (Tr.ret (Fin.AF (Fin.AP (Fin.AF (Fin.AF (Fin.AP (Fin.AP (Fin.AF (Fin.AF (Fin.AP (Fin.AF (Fin.PF rfl (AQ.cell 3 rfl rfl Dw Cn rfl Lr) (AQ.cell 2 rfl rfl KA F3 rfl Lr) (AQ.tmp rfl Lr) (AQ.tmp rfl Lr) ?_))))))))))))
 · exact As 0 (Ar (fun _=>⟨Vb,hfp⟩) (BK ⟨Dz,BP ⟨As _ Lr,As _ Lr,As _ Lr,As _ Lr,trivial⟩,As _ Lr,Lr,trivial⟩))
 refine ac ?_
 refine wk [66,65,64,59,58,57,20,19,16,15,9,8,5,4,3,2] rfl ?_
 refine ao ?_
 refine TO.C1 0 rfl rfl AD (B7 rfl rfl rfl rfl underlying63 F3 AEH uq Fo Ea (A7 BD Gi)) (fun v1=> ?_)
 refine tp rfl (BU rfl l5 vq) (TO.AV 1 rfl rfl rfl vq Ce rfl AIa rfl rfl ?_)
 refine ao ?_
 refine wk [66,65,64,59,58,57,16,15,9,8,5,4,3,2] rfl ?_
 refine ac ?_
 refine Fin.Iw 1 [Ag v1 (slice 4 ((q2++[(((k:Nat):Int),x)]).map rI))] rfl ⟨A9 DC,trivial⟩ ?_
 exact Fin.Bg (q2++[(((k:Nat):Int),x)]) (m+1) v1 (⟨⟨by omega,by simp;omega⟩,by omega⟩) ⟨⟨_,rfl,AG m⟩,kz⟩ (fun _ _ h=>h)
 have hme:=AK h8
 refine ac ?_
 refine wk [59,58,57,15,9,8,5,4,3,2] rfl ?_
 refine ac ?_
 exact Fin.Bg (q2) (k+1) u (⟨⟨by omega,by omega⟩,by omega⟩) ⟨⟨_,rfl,AG k⟩,kz⟩ (fun _ _ h=>h)
 have Te:=AK h7
 refine ac ?_
 refine ao ?_
 refine TO.AV 3 rfl rfl rfl vq Cu rfl Cn rfl rfl (TO.AV 2 rfl rfl rfl vq Cu rfl F3 rfl rfl ?_)
 refine ao ?_
 refine wk [11,10,9,8] rfl (Tr.ret (Fin.PF rfl (AQ.cell 3 rfl rfl Dw Cn rfl Lr) (AQ.cell 2 rfl rfl KA F3 rfl Lr) (AQ.tmp rfl Lr) (AQ.tmp rfl Lr) ?_))
 · exact As 0 (Ar (fun _=>⟨Vb,hfp⟩) (BK ⟨BP ⟨As _ (At _ _),trivial⟩,Mn,As _ Lr,Lr,trivial⟩))
theorem jT {e:Dg} {l:List Bl} {d:List Int} {OK:Int} (hz:e.sz n) (hn:n≤800000) (hc:∀c∈l,c.DM.fits∧c.DM.small) (hrl:r.length≤1000000):A_ prog 90 [agg (CJ e),Jj l r d,int fr,int OK] (Cp.ex fun z:Int=>fact (z=0→FU e=true∧rD e.Bw.length l r d) (DW [rJ,int z])):=by
 refine fo func90 rfl ⟨rfl,rfl⟩ fun M0 w0=>(Tr.seq (Tr.BI (tp rfl (Bv rfl Cu) (tp rfl (Bv rfl Cu) ?_))))
 refine Tl rfl rfl rfl rfl j4 LR (fun b1=> ?_)
 refine ao ?_
 refine ao ?_
 refine tp rfl (eA (jS hz hn hc hrl) rfl rfl rfl rfl rfl) ?_
 refine TO.ex 19 rfl (fun z1=>TO.fact 19 rfl fun E2=> ?_)
 refine ao ?_
 refine Tl rfl rfl rfl rfl j4 LR (fun b2=> ?_)
 refine Tl rfl rfl rfl rfl uq RY (fun b3=> ?_)
 refine sf 1 10 ⟨rfl,rfl,rfl⟩ rfl rfl rfl rfl ?_
 refine sf 0 11 ⟨rfl,rfl,rfl⟩ rfl rfl rfl rfl ?_
 refine ao ?_
 refine wk [13,12,10,8] rfl ?_
 refine an ?_ ?_<;>intro h1 q1
 refine ao ?_
 refine TO.AV 0 rfl rfl rfl vq Cu rfl Cn rfl rfl ?_
 refine ao ?_
 refine Tr.ret (Fin.AF (Fin.BW rfl (AQ.cell 0 rfl rfl Dw Cn rfl Lr) (AQ.tmp rfl Lr) ?_))
 · exact As z1 (Ar (fun h_=>absurd h_ AA) (BK ⟨Dz,Lr,trivial⟩))
 have hz0:z1=0:=by have:=q1;omega
 refine ac ?_
 refine Tr.seq (Tr.seq (Tr.ex 12 rfl fun x12=> ?_))
 refine an ?_ ?_<;>intro h2 q2
 refine ao ?_
 refine TO.AV 0 rfl rfl rfl vq Cu rfl Cn rfl rfl ?_
 refine ao ?_
 refine Tr.ret (Fin.AF (Fin.BW rfl (AQ.cell 0 rfl rfl Dw Cn rfl Lr) (AQ.tmp rfl Lr) ?_))
 · exact As 42 (Ar (fun h_=>absurd h_ AD) (BK ⟨Dz,Lr,trivial⟩))
 refine ac ?_
 refine ao ?_
 refine TO.AV 0 rfl rfl rfl vq Cu rfl Cn rfl rfl ?_
 refine ao ?_
 refine Tr.ret (Fin.BW rfl (AQ.cell 0 rfl rfl Dw Cn rfl Lr) (AQ.tmp rfl Lr) ?_)
 · exact As 0 (Ar (fun _=>E2 hz0) (BK ⟨Lr,Lr,trivial⟩))
theorem WU {e:Dg} {l:List Bl} {d:List Int} {g i:Int} (hz:e.sz n) (hn:n≤800000) (hc:∀c∈l,c.DM.fits∧c.DM.small) (KV:s.length≤4096) (hi:0≤i∧i<(d.length:Nat)):A_ prog 157 [agg (CJ e),Jj l r d,int g,ints s,int i,Nh,Sl,WL] (EN):=by
 refine fo func157 rfl ⟨rfl,rfl⟩ fun M0 w0=> ?_
 have hxf:=(fc (l:=l) (s:=s) hz hc).fits AA
 have hwl:=OR s i true
 have hyf:=(fc (l:=l) (s:=Fz s i true) hz hc).fits AA
 have hdi:=LJ (l:=d) (i:=i.toNat) AA
 refine ac ?_
 refine ao ?_
 refine tp rfl (Iy (MY hz hn hc) rfl rfl rfl rfl) ?_
 refine ao ?_
 refine Tl rfl rfl rfl rfl z31 Ic (fun b1=> ?_)
 refine sf 0 17 ⟨rfl,rfl,rfl⟩ rfl rfl rfl rfl ?_
 refine ao ?_
 refine wk [18,17,15,13,9,8,6,4,3,2] rfl (Tr.seq (Tr.pad (Tr.rx ?_)))
 refine ax ?_
 refine xo rfl (fun _=>Iy (G6 AA) rfl rfl rfl rfl) (xo rfl (fun _=>Iy (MY hz hn hc) rfl rfl rfl rfl) ?_)
 refine ax ?_
 refine Cx.ef 0 rfl rfl AD (Ca rfl rfl AD rfl z31 Ic) (Cx.C0 0 rfl rfl (C2 rfl rfl rfl rfl Cu Fi rfl rfl) (xm rfl ?_))
 refine Cx.nil ⟨by kernel_rfl,?_⟩
 refine BE.open_ 0 19 rfl rfl (fun v1=> ?_)
 refine BE.done al1 (Fin.Mh 19 0 _ rfl rfl (fun _=>rfl) (fun b2=> ?_))
 refine Fin.go (wk [20,19,18,17,15,13,9,6,4,2] rfl ?_)
 refine ag ?_ ?_<;>intro h1 q1
 refine ac ?_
 refine wk [46,19,17,15,13,9,6,4,2] rfl ?_
 refine ac ?_
 refine Tr.drop 0 ?_
 refine ac ?_
 · exact Aw
 refine ac ?_
 refine wk [46,19,17,15,13,9,6,4,2] rfl ?_
 refine Tr.cn rfl ?_ ?_<;>intro h2 q2
 refine ac ?_
 refine Tr.drop 0 ?_
 refine ac ?_
 · exact Aw
 refine a2 ?_
 refine co rfl (AB rfl underlying22 BJ vq vq AA (Be hdi)) (co rfl (JA rfl BT rfl) (co rfl (Ab.le (AY rfl (jB hxf hyf) ⟨kq,kz⟩) ABx) ?_))
 refine ac ?_
 refine Tr.drop 0 (wk [21,2] rfl (Tr.seq (Tr.seq (Tr.ex 21 rfl fun bad=>(Tr.fact 21 rfl fun ABy=> ?_)))))
 refine ac ?_
 refine Tr.block (Tr.A0 _ (kk [62,61,2] rfl) (fun k:Nat=>[(63,int ((k:Nat):Int))]) (fun k:Nat=>k≤(bad).length) (fun k:Nat=>(bad).length-k) 0 (Nat.zero_le _) kz ?_)
 rintro k BN
 refine ac ?_
 refine Tr.seq ?_
 refine Tr.cn rfl ?_ ?_<;>intro h3 q3
 have Ae:k<(bad).length:=AJ h3
 obtain ⟨x,Af⟩:=at_ Ae
 refine ac ?_
 refine Tr.seq (Tr.block (Tr.seq (Tr.Bq (co rfl (AB rfl underlying22 BJ vq vq AA (Ad Af)) ?_))))
 · exact Lx
 have BC:k=(bad).length:=by have:=AK h3;omega
 subst BC
 refine a3 ?_
 · exact Aw
theorem bJ {l:List (List Int)}:A_ prog 155 [sets l,ints s] (EN):=by
 refine fo func155 rfl ⟨rfl,rfl⟩ fun M0 w0=>(Tr.CN 0 rfl fun C3=> ?_)
 refine a2 ?_
 refine Tr.block (Tr.A0 _ (kk [8,7,1] rfl) (fun k:Nat=>[(9,int ((k:Nat):Int))]) (fun k:Nat=>k≤(l).length) (fun k:Nat=>(l).length-k) 0 (Nat.zero_le _) kz ?_)
 rintro k BN
 refine ac ?_
 refine Tr.seq ?_
 refine Tr.cn rfl ?_ ?_<;>intro h1 q1
 have Ae:k<(l).length:=AJ h1
 obtain ⟨x,Af⟩:=at_ Ae
 refine ac ?_
 refine Tr.seq (Tr.block (Tr.seq (Tr.Bq (co rfl (AB rfl underlying257 HH vq vq AA (Ad Af)) ?_))))
 refine a2 ?_
 refine co rfl (Bu (WN) rfl rfl rfl) ?_
 refine ac ?_
 refine Tr.ex 15 rfl fun AL1=> ?_
 · exact Lx
 have BC:k=(l).length:=by have:=AK h1;omega
 refine a3 ?_
 · exact Aw
theorem bK {e:Dg} {l:List Bl} {d:List Int} (hz:e.sz n) (hn:n≤800000) (hc:∀c∈l,c.DM.fits∧c.DM.small) (hrl:r.length≤1000000):A_ prog 91 [agg (CJ e),Jj l r d,Nh,Sl,WL] (Cp.ex fun z:List Int×Int=>fact (z.1.length≤1000) (DW [ints z.1,int z.2])):=by
 refine fo func91 rfl ⟨rfl,rfl⟩ fun M0 w0=> ?_
 have hf:=hz.fits AA
 refine ac ?_
 refine ap ?_
 refine tp rfl (Bu (YR hf hrl) rfl rfl rfl) ?_
 refine TO.ex 25 rfl (fun z1=>TO.fact 25 rfl fun E2=> ?_)
 refine ap ?_
 refine ac ?_
 refine wk [27,12,9,7,6,5,3] rfl ?_
 refine Tr.cn rfl ?_ ?_<;>intro h1 q1
 refine ac ?_
 refine Tr.ret (Fin.AF (Fin.BW rfl (AQ.tmp rfl Lr) (AQ.tmp rfl Lr) ?_))
 · exact Qy
 have hz0:z1=0:=by have:=q1;omega
 obtain ⟨Vb,hfp⟩:=E2 hz0
 have hdl:=hfp.dl
 have Nw:=hfp.l24
 refine a2 ?_
 refine co rfl (Iy (Ke) rfl rfl rfl rfl) ?_
 refine ac ?_
 refine Tr.seq (Tr.ex 13 rfl fun x13=> ?_)
 refine an ?_ ?_<;>intro h2 q2
 refine ac ?_
 refine wk [11,10] rfl (Tr.ret (Fin.AF (Fin.BW rfl (AQ.tmp rfl Lr) (AQ.tmp rfl Lr) ?_)))
 · exact Qy
 refine ac ?_
 refine ap ?_
 refine tp rfl (Bu (YS hz hn hrl) rfl rfl rfl) ?_
 refine TO.ex 38 rfl (fun z2=>TO.fact 38 rfl fun HW=> ?_)
 refine ap ?_
 refine wk [15,14,9,7,6,5,3] rfl ?_
 refine an ?_ ?_<;>intro h3 q3
 refine ac ?_
 refine Tr.ret (Fin.AF (Fin.BW rfl (AQ.tmp rfl Lr) (AQ.tmp rfl Lr) ?_))
 · exact Qy
 refine a3 ?_
 refine wk [47,46,16,14,9,7,6,5,3] rfl (Tr.block (Tr.B5 3 1 (Tr.Cy _ (kk [46,14,9,7,6,5,3] rfl) (fun (o:List Int) (k:Nat) u=>[(47,int ((k:Nat):Int)),(16,Ag u (ints o))]) (fun (o:List Int) (k:Nat) u=>Hp M0 w0 FG ([Ax 3 1 u])) (fun (o:List Int) (k:Nat)=>k≤l.length∧o.length≤k) (fun (o:List Int) (k:Nat)=>l.length-k) ([]) (0) (.slice none 0 0) (⟨Nat.zero_le _,by simp⟩) ⟨kq,⟨_,rfl,Bf rfl⟩,trivial⟩ (fun _ _ h=>h) ?_)))
 rintro o k u ⟨hk0,hol⟩
 refine ac ?_
 refine Tr.seq ?_
 refine Tr.cn rfl ?_ ?_<;>intro h4 q4
 have hk:k<l.length:=AJ h4
 obtain ⟨dk,hdi⟩:=at_ (l:=d) (k:=k) AA
 iterate 4 refine ac ?_
 refine wk [52,51,50,47,46,18,17,16,14,9,7,6,5,3] rfl (Tr.block (Tr.A0 _ (kk [51,50,47,46,17,16,14,9,7,6,5,3] rfl) (fun j:Nat=>[(52,int ((j:Nat):Int)),(18,EN)]) (fun j:Nat=>j≤(z2.1).length) (fun j:Nat=>(z2.1).length-j) 0 (Nat.zero_le _) ⟨kq,⟨_,rfl,As _ Lr⟩,trivial⟩ ?_))
 rintro j ALE
 refine ac ?_
 refine wk [53,52,51,50,47,46,18,17,16,14,9,7,6,5,3] rfl (Tr.seq ?_)
 refine Tr.cn rfl ?_ ?_<;>intro h5 q5
 have AGW:j<(z2.1).length:=AJ h5
 obtain ⟨t,AGX⟩:=at_ AGW
 have hts:=HW.WA t (List.mem_of_getElem? AGX)
 have ht:=AGX
 have htl:=hts.len
 have hzl:=HW.len
 refine ac ?_
 refine wk [52,51,50,47,46,18,17,16,14,9,7,6,5,3] rfl ?_
 refine ac ?_
 refine co rfl (AB rfl underlying254 dZ vq vq AA (Ad ht)) ?_
 refine ac ?_
 refine wk [52,51,50,47,46,20,19,18,17,16,14,9,7,6,5,3] rfl ?_
 refine ac ?_
 refine wk [59,58,57,52,51,50,47,46,20,19,18,17,16,14,9,7,6,5,3] rfl (Tr.block (Tr.A0 _ (kk [58,57,52,51,50,47,46,20,19,17,16,14,9,7,6,5,3] rfl) (fun m:Nat=>[(59,int ((m:Nat):Int)),(18,EN)]) (fun m:Nat=>m≤(t).length) (fun m:Nat=>(t).length-m) 0 (Nat.zero_le _) ⟨kq,kz⟩ ?_))
 rintro m KM
 refine ac ?_
 refine wk [60,59,58,57,52,51,50,47,46,20,19,18,17,16,14,9,7,6,5,3] rfl (Tr.seq ?_)
 refine Tr.cn rfl ?_ ?_<;>intro h6 q6
 have Du:m<(t).length:=AJ h6
 obtain ⟨x,Dn⟩:=at_ Du
 have hx:=Dn
 have hsd:∀i∈x,0≤i∧i<(d.length:Nat):=fun i hi=>by have:=hts.WA x (List.mem_of_getElem? hx) i hi;omega
 have hsw:=hts.wid x (List.mem_of_getElem? hx)
 refine ac ?_
 refine wk [59,58,57,52,51,50,47,46,20,19,18,17,16,14,9,7,6,5,3] rfl (Tr.seq (Tr.block (Tr.seq (Tr.Bq (co rfl (AB rfl underlying257 HH vq vq AA (Ad hx)) ?_)))))
 refine ac ?_
 refine wk [59,58,57,52,51,50,47,46,22,20,19,18,17,16,14,9,7,6,5,3] rfl (Tr.seq (Tr.ex 18 rfl fun x18=> ?_))
 refine ag ?_ ?_<;>intro h7 q7
 refine ac ?_
 refine cy h7 rfl (Bu (KU) rfl rfl rfl) ?_
 refine ag ?_ ?_<;>intro h8 q8
 refine ac ?_
 refine cy h8 rfl (Iy (MZ hsd) rfl rfl rfl rfl) ?_
 refine ac ?_
 refine cy h8 rfl (AB rfl underlying22 BJ vq vq AA (Ad hdi)) ?_
 refine ag ?_ ?_<;>intro h9 q9
 refine ac ?_
 refine cy h9 rfl (Iy (G6 AA) rfl rfl rfl rfl) (cy h9 rfl (Bu (bJ) rfl rfl rfl) ?_)
 refine ac ?_
 refine wk [88,59,58,57,52,51,50,47,46,22,20,19,18,17,16,14,9,7,6,5,3] rfl (Tr.ex 88 rfl fun AL2=> ?_)
 · repeat' first|exact Fin.AL (m+1) ⟨Du,by omega⟩ ⟨⟨_,rfl,AG m⟩,ke rfl,ke rfl,ke rfl,ke rfl,ke rfl,ke rfl,ke rfl,ke rfl,ke rfl,ke rfl,ke rfl,ke rfl,ke rfl,ke rfl,ke rfl,ke rfl,ke rfl,ke rfl,trivial⟩|exact Fin.AL (m+1) ⟨Du,by omega⟩ ⟨⟨_,rfl,AG m⟩,⟨_,rfl,As _ (Lr)⟩,ke rfl,ke rfl,ke rfl,ke rfl,ke rfl,ke rfl,ke rfl,ke rfl,ke rfl,ke rfl,ke rfl,ke rfl,ke rfl,ke rfl,ke rfl,ke rfl,ke rfl,trivial⟩|refine co rfl (AY rfl (WU hz hn hc hsw AA) ⟨ke rfl,ke rfl,ke rfl,ke rfl,ke rfl,ke rfl,ke rfl,ke rfl,trivial⟩) ?_|refine ac ?_|(refine Tr.cn rfl ?_ ?_<;>intro h q)
 refine ac ?_
 refine wk [88,59,58,57,52,51,50,47,46,22,20,19,18,17,16,14,9,7,6,5,3] rfl ?_
 refine ac ?_
 refine wk [59,58,57,52,51,50,47,46,20,19,18,17,16,14,9,7,6,5,3] rfl ?_
 refine ac ?_
 exact Fin.AL (m+1) ⟨Du,by omega⟩ ⟨⟨_,rfl,AG m⟩,⟨_,rfl,As _ Lr⟩,kz⟩
 refine ac ?_
 refine wk [88,59,58,57,52,51,50,47,46,22,20,19,18,17,16,14,9,7,6,5,3] rfl ?_
 refine ac ?_
 refine wk [59,58,57,52,51,50,47,46,20,19,18,17,16,14,9,7,6,5,3] rfl ?_
 refine ac ?_
 exact Fin.AL (m+1) ⟨Du,by omega⟩ ⟨⟨_,rfl,AG m⟩,⟨_,rfl,As _ Lr⟩,kz⟩
 refine ac ?_
 refine wk [88,59,58,57,52,51,50,47,46,22,20,19,18,17,16,14,9,7,6,5,3] rfl ?_
 refine ac ?_
 refine wk [59,58,57,52,51,50,47,46,20,19,18,17,16,14,9,7,6,5,3] rfl ?_
 refine ac ?_
 exact Fin.AL (m+1) ⟨Du,by omega⟩ ⟨⟨_,rfl,AG m⟩,⟨_,rfl,As _ Lr⟩,kz⟩
 have Il:m=(t).length:=by have:=AK h6;omega
 subst Il
 refine ac ?_
 refine wk [52,51,50,47,46,18,17,16,14,9,7,6,5,3] rfl ?_
 refine ac ?_
 exact Fin.AL (j+1) ⟨AGW,by omega⟩ ⟨⟨_,rfl,AG j⟩,kz⟩
 have qS:j=(z2.1).length:=by have:=AK h5;omega
 subst qS
 refine ac ?_
 refine wk [47,46,18,17,16,14,9,7,6,5,3] rfl ?_
 refine ac ?_
 refine Tr.ex 100 rfl fun ALF=> ?_
 refine Tr.cn rfl ?_ ?_<;>intro h11 Rz
 refine ap ?_
 refine TO.C1 0 rfl rfl AD (B7 rfl rfl rfl rfl underlying22 BJ IE z3 Fo Ea (A7 BD Gi)) (fun v1=> ?_)
 refine ap ?_
 refine wk [47,46,16,14,9,7,6,5,3] rfl ?_
 refine ac ?_
 exact Fin.Bg (o++[((k:Nat):Int)]) (k+1) v1 (⟨⟨by omega,by simp;omega⟩,by omega⟩) ⟨⟨_,rfl,AG k⟩,⟨_,rfl,A9 DC⟩,kz⟩ (fun _ _ h=>h)
 refine a2 ?_
 exact Fin.Bg (o) (k+1) u (⟨⟨by omega,by omega⟩,by omega⟩) ⟨⟨_,rfl,AG k⟩,⟨_,rfl,A9 rfl⟩,kz⟩ (fun _ _ h=>h)
 have Te:=AK h4
 refine a2 ?_
 refine Tr.ret (Fin.BW rfl (AQ.tmp rfl Lr) (AQ.tmp rfl Lr) ?_)
 · exact ZE
theorem jU {e:Dg} {l:List Bl} {OK:Int} (hz:e.sz n) (hn:n≤800000) (hc:∀c∈l,c.DM.fits∧c.DM.small) (KV:s.length≤4096):A_ prog 159 [agg (CJ e),FV l,ints s,int fr,int OK] (EN):=by
 refine fo func159 rfl ⟨rfl,rfl⟩ fun M0 w0=> ?_
 have hxz:=fc (l:=l) (s:=s) hz hc
 have hxf:=hxz.fits AA
 have hxg:=hxz.lg
 refine ac ?_
 refine ao ?_
 refine tp rfl (Iy (Sq hz hn hc) rfl rfl rfl rfl) ?_
 refine ao ?_
 refine Tl rfl rfl rfl rfl z31 Ic (fun b1=> ?_)
 refine sf 0 11 ⟨rfl,rfl,rfl⟩ rfl rfl rfl rfl ?_
 refine ao ?_
 refine ac ?_
 refine wk [24,11,4,3] rfl ?_
 refine Tr.cn rfl ?_ ?_<;>intro h1 q1
 refine a2 ?_
 · exact Aw
 refine a2 ?_
 refine Tr.block (Tr.A0 _ (kk [27,11,4,3] rfl) (fun k:Nat=>[(28,int ((k:Nat):Int))]) (fun k:Nat=>k≤((V4 e l s).1.BV).length) (fun k:Nat=>((V4 e l s).1.BV).length-k) 0 (Nat.zero_le _) kz ?_)
 rintro k BN
 refine ac ?_
 refine Tr.seq ?_
 refine Tr.cn rfl ?_ ?_<;>intro h2 q2
 have Ae:k<((V4 e l s).1.BV).length:=AJ h2
 obtain ⟨x,Af⟩:=at_ Ae
 refine a2 ?_
 refine ao ?_
 refine tp rfl (eA (PG hxf) rfl rfl rfl rfl rfl) ?_
 refine TO.ex 36 rfl (fun z1=>TO.fact 36 rfl fun E2=> ?_)
 refine ao ?_
 refine Tl rfl rfl rfl rfl Js Fl (fun b2=> ?_)
 refine sf 0 14 ⟨rfl,rfl,rfl⟩ rfl rfl rfl rfl ?_
 refine ao ?_
 · exact Lx
 have BC:k=((V4 e l s).1.BV).length:=by have:=AK h2;omega
 refine a3 ?_
 · exact Aw
theorem Ue {a b:Int}  :A_ prog 50 [int a,int b] (EN):=by
 refine fo func50 rfl ⟨rfl,rfl⟩ fun M0 w0=> ?_
 · repeat' first|exact As _ Lr|refine ac ?_|(refine Ch.cg rfl rfl rfl ?_ ?_<;>intro h q)
theorem Ki (hs:∀i∈s,0≤i∧i<(m:Int)) (hm:m≤40):A_ prog 158 [ints s] (Cp.ex fun z:Nat=>fact (z<2 ^ m) (int ((z:Nat):Int))):=by
 refine fo func158 rfl ⟨rfl,rfl⟩ fun M0 w0=>(Tr.CN 0 rfl fun C3=> ?_)
 refine a3 ?_
 refine Tr.block (Tr.CM _ (kk [7,6] rfl) (fun (z:Nat) (k:Nat)=>[(8,int ((k:Nat):Int)),(3,int ((z:Nat):Int))]) (fun (z:Nat) (k:Nat)=>Hp M0 w0 FG ([])) (fun (z:Nat) (k:Nat)=>k≤s.length∧z<2 ^ m) (fun (z:Nat) (k:Nat)=>s.length-k) (0) (0)  (⟨Nat.zero_le _,Nat.two_pow_pos m⟩) ⟨kq,kz⟩ (fun _ _ h=>h) ?_)
 rintro z k  ⟨hk0,hz⟩
 refine ac ?_
 refine Tr.seq ?_
 refine Tr.cn rfl ?_ ?_<;>intro h1 q1
 have hk:k<s.length:=AJ h1
 obtain ⟨i,hx⟩:=at_ hk
 have hir:=hs i (List.mem_of_getElem? hx)
 refine ac ?_
 refine Tr.seq (Tr.block (Tr.seq (Tr.Bq (co rfl (AB rfl underlying38 BJ vq vq AA (Ad hx)) ?_))))
 refine a2 ?_
 refine co rfl (fN rfl vq vq AA AA) ?_
 refine co rfl (ABj (m:=m) rfl vq vq hz (Nat.pow_lt_pow_right AA AA) hm) ?_
 refine a2 ?_
 exact Fin.CC ((z|||2 ^ i.toNat)) (k+1)  (⟨⟨by omega,Nat.or_lt_two_pow hz (Nat.pow_lt_pow_right AA AA)⟩,by omega⟩) ⟨⟨_,rfl,AG k⟩,kz⟩ (fun _ _ h=>h)
 have Te:=AK h1
 refine a3 ?_
 · exact As _ (Ar hz Lr)
abbrev YT:Pr:=Cp.ex fun z:List Int=>fact (z.length≤1000) (ints z)
theorem jV {k n:Int} (h:∀i∈s,0≤i∧i<n) (hk:0≤k∧k<n):∀i∈Fz s k true,0≤i∧i<n:=fun i hi=>by
 rcases G5.1 hi with rfl|hi
 · exact hk
 · exact h i hi
theorem jW:(List.replicate n (Value.bool false)).map is=((List.replicate n false).map fun x:Bool=>[Cp.bool x]).flatten++[]:=by simp_all
theorem Uf {e:Dg} {l:List Bl} {so done:List Int} {OK:Int} {N:Nat} (hz:e.sz n) (hn:n≤800000) (hc:∀c∈l,c.DM.fits∧c.DM.small) (hN:2 ^ l.length=N) (hl:l.length≤10) (hm:so.length+m=l.length) (hdr:∀i∈done,0≤i∧i<((l.length:Nat):Int)) (hdl:done.length≤so.length) (ih:∀m':Nat,m=m'+1→∀so done:List Int,so.length+m'=l.length→(∀i∈done,0≤i∧i<((l.length:Nat):Int))→done.length≤so.length→Ba prog 92 [agg (CJ e),FV l,ints so,ints done,int fr,int OK,is (Jp N b)] (DW [YT,EN]) (C5 b 4 (fun x:Bool=>[Cp.bool x]) (fun L:List Bool=>L.length=N) []) (fun _=>C5 b 4 (fun x:Bool=>[Cp.bool x]) (fun L:List Bool=>L.length=N) [])):Ba prog 92 [agg (CJ e),FV l,ints so,ints done,int fr,int OK,is (Jp N b)] (DW [YT,EN]) (C5 b 4 (fun x:Bool=>[Cp.bool x]) (fun L:List Bool=>L.length=N) []) (fun _=>C5 b 4 (fun x:Bool=>[Cp.bool x]) (fun L:List Bool=>L.length=N) []):=by
 refine Ba.of func92 rfl rfl Am fun M0 w0 S rs M1 w1=> ?_
 refine ac ?_
 refine Tr.seq (Tr.seq (Tr.Eg 0 rfl fun dd1 AGY=> ?_))
 refine ap ?_
 refine tp rfl (CE (Ki (m:=l.length) hdr AA) rfl rfl) ?_
 refine TO.ex 22 rfl (fun z1=>TO.fact 22 rfl fun E2=> ?_)
 have hzN:z1<N:=hN ▸ E2
 refine tp rfl (AH rfl underlying191 W9 vq vq AA AA) (TO.rd 0 rfl rfl rfl AD (AW rfl gQ vq (Aj (g:=(fun x:Bool=>Cp.bool x)) AA)) ?_)
 refine ap ?_
 refine Tr.cn rfl ?_ ?_<;>intro h1 q1
 refine Tr.seq (Tr.C6 (fun L:List Bool=>L.length=N) 0 rfl AGY ?_)
 refine ac ?_
 refine Tr.ret (Fin.AF (Fin.F0 rfl rfl ?_ rfl ?_))
 · exact Lz
 · exact Aw
 refine ac ?_
 refine Tr.seq (Tr.seq (Tr.C6 (fun L:List Bool=>L.length=N) 0 rfl AGY ?_))
 refine ac ?_
 refine co rfl (kc5 (jU hz hn hc AA) rfl rfl rfl rfl rfl rfl) ?_
 refine ac ?_
 refine wk [30,7,6,5,4,3,2,1] rfl (Tr.ex 30 rfl fun AL3=> ?_)
 refine Tr.cn rfl ?_ ?_<;>intro h2 q2
 refine ac ?_
 refine wk [35,7,6,5,4,3,2,1] rfl ?_
 refine Tr.cn rfl ?_ ?_<;>intro h3 q3
 refine ac ?_
 refine Tr.ret (Fin.AF (Fin.AF (Fin.F0 rfl rfl ?_ rfl ?_)))
 · exact As so (Ar AA Lr)
 · exact Aw
 refine a2 ?_
 refine Tr.block (Tr.E5 _ (kk [38,7,6,5,4,3,2,1] rfl) (fun (k:Nat)=>[(39,int ((k:Nat):Int))]) (fun (k:Nat)=>Hp M0 w0 S (C5 b 4 (fun x:Bool=>[Cp.bool x]) (fun L:List Bool=>L.length=N) []::Ac M1 w1::rs)) (fun (k:Nat)=>k≤l.length) (fun (k:Nat)=>l.length-k) (0)  (Nat.zero_le _) kz (fun _ _ h=>h) ?_)
 rintro k  hk0
 refine ac ?_
 refine Tr.seq ?_
 refine Tr.cn rfl ?_ ?_<;>intro h4 q4
 have hk:k<l.length:=AJ h4
 refine a3 ?_
 refine co rfl (Bu (KU) rfl rfl rfl) ?_
 refine ac ?_
 refine wk [44,39,38,16,7,6,5,4,3,2,1] rfl ?_
 refine Tr.cn rfl ?_ ?_<;>intro h5 q5
 refine a2 ?_
 exact Fin.GW (k+1)  (⟨by omega,by omega⟩) ⟨⟨_,rfl,AG k⟩,kz⟩ (fun _ _ h=>h)
 refine ac ?_
 refine ap ?_
 refine TO.pad ?_
 refine TO.C1 0 rfl rfl AD (DK rfl rfl AD rfl underlying22 BJ IE z3 rfl AD ⟨_,rfl,AM _⟩ vq (by simp only [List.length_append,List.length_map,List.length_cons,List.length_nil];unfold maxLen;omega) (by simp only [List.length_append,List.length_map,List.length_cons,List.length_nil];omega) (Bc BD ⟨_,rfl,Dh 1⟩)) (fun v1=> ?_)
 refine ap ?_
 refine wk [39,38,17,16,7,6,5,4,3,2,1] rfl ?_
 refine ap ?_
 refine TO.C1 0 rfl rfl AD (B7 rfl rfl rfl rfl underlying22 BJ IE z3 Fo Ea (A7 BD Gi)) (fun v2=> ?_)
 refine ap ?_
 refine wk [39,38,17,16,7,6,5,4,3,2,1] rfl (Tr.seq (Tr.rx ?_))
 refine ay ?_
 refine xo rfl (fun _=>Iy (G6 AA) rfl rfl rfl rfl) ?_
 refine ay ?_
 refine Cx.ef 1 rfl rfl AD (Ak rfl rfl AD rfl (ih (m-1) AA (so++[((k:Nat):Int)]) (Fz done ((k:Nat):Int) true) Bz (jV hdr AA) (by have:=OR done ((k:Nat):Int) true;simp;omega)) ⟨kq,kq,⟨_,rfl,Pr.le_trans (At _ _) (Pr.le_of_eq (by show _=slice 1 ((so++[((k:Nat):Int)]).map fun n=>[int n]);rw [List.nil_append,List.map_append];rfl))⟩,kz⟩) ?_
 refine ay ?_
 refine Cx.nil ⟨by kernel_rfl,?_⟩
 refine BE.done al3 (Fin.go (Tr.drop 0 (wk [39,38,19,18,7,6,5,4,3,2,1] rfl ?_)))
 refine ac ?_
 refine Tr.ex 64 rfl fun AL4=> ?_
 refine Tr.cn rfl ?_ ?_<;>intro h6 q6
 refine ac ?_
 refine wk [15,14] rfl (Tr.ret (Fin.AP (Fin.AF (Fin.AF (Fin.AP (Fin.AF (Fin.F0 rfl rfl ?_ rfl ?_)))))))
 · exact Lr
 · exact Aw
 refine a2 ?_
 exact Fin.GW (k+1)  (⟨by omega,by omega⟩) ⟨⟨_,rfl,AG k⟩,kz⟩ (fun _ _ h=>h)
 have Te:=AK h4
 refine ac ?_
 refine Tr.seq (Tr.Eg 0 rfl fun dd2 AKZ=> ?_)
 refine ap ?_
 refine tp rfl (CE (Ki (m:=l.length) hdr AA) rfl rfl) ?_
 refine TO.ex 69 rfl (fun z2=>TO.fact 69 rfl fun HW=> ?_)
 have hzN:z2<N:=hN ▸ HW
 refine tp rfl (AH rfl underlying191 W9 vq vq AA AA) ?_
 refine TO.C0 0 rfl rfl (Aq rfl rfl (vl rfl) (Vo rfl) W9 rfl D4 (BL (f:=fun x:Bool=>[Cp.bool x]) (x:=true) (fun _=>rfl) AA)) ?_
 refine ap ?_
 refine Tr.weak [] trivial (Tr.seq ?_)
 refine Tr.C6 (fun L:List Bool=>L.length=N) 0 rfl (by rw [List.length_set];exact AKZ) ?_
 refine ac ?_
 refine Tr.ret (Fin.F0 rfl rfl ?_ rfl ?_)
 · exact Lz
 · exact Aw
 refine ac ?_
 refine Tr.seq (Tr.Eg 0 rfl fun dd3 AKa=> ?_)
 refine ap ?_
 refine tp rfl (CE (Ki (m:=l.length) hdr AA) rfl rfl) ?_
 refine TO.ex 69 rfl (fun z3=>TO.fact 69 rfl fun hz3=> ?_)
 have hzN:z3<N:=hN ▸ hz3
 refine tp rfl (AH rfl underlying191 W9 vq vq AA AA) ?_
 refine TO.C0 0 rfl rfl (Aq rfl rfl (vl rfl) (Vo rfl) W9 rfl D4 (BL (f:=fun x:Bool=>[Cp.bool x]) (x:=true) (fun _=>rfl) AA)) ?_
 refine ap ?_
 refine Tr.weak [] trivial (Tr.seq ?_)
 refine Tr.C6 (fun L:List Bool=>L.length=N) 0 rfl (by rw [List.length_set];exact AKa) ?_
 refine ac ?_
 refine Tr.ret (Fin.F0 rfl rfl ?_ rfl ?_)
 · exact Lz
 · exact Aw
theorem YU {e:Dg} {l:List Bl} {n:Nat} {fr OK:Int} {b N:Nat} (hz:e.sz n) (hn:n≤800000) (hc:∀c∈l,c.DM.fits∧c.DM.small) (hN:2 ^ l.length=N) (hl:l.length≤10):∀(m:Nat) {so done:List Int},so.length+m=l.length→(∀i∈done,0≤i∧i<((l.length:Nat):Int))→done.length≤so.length→Ba Tryz.prog 92 [agg (CJ e),FV l,ints so,ints done,int fr,int OK,is (Jp N b)] (DW [YT,EN]) (C5 b 4 (fun x:Bool=>[Cp.bool x]) (fun L:List Bool=>L.length=N) []) (fun _=>C5 b 4 (fun x:Bool=>[Cp.bool x]) (fun L:List Bool=>L.length=N) [])
 |0,so,done,h1,h2,h3=>Uf hz hn hc hN hl h1 h2 h3 (fun m' h=>absurd h AA)
 |m+1,so,done,h1,h2,h3=>Uf hz hn hc hN hl h1 h2 h3 (fun m' h so' done' g1 g2 g3=>by
  obtain rfl:m'=m:=by omega
  exact YU hz hn hc hN hl m' g1 g2 g3)
theorem TY {e:Dg} {l:List Bl} {OK:Int} (hz:e.sz n) (hn:n≤800000) (hc:∀c∈l,c.DM.fits∧c.DM.small):A_ prog 53 [agg (CJ e),FV l,int fr,int OK] (DW [YT,anyI]):=by
 refine fo func53 rfl ⟨rfl,rfl⟩ fun M0 w0=>(Tr.CN 1 rfl fun Fq=> ?_)
 have hf:=hz.fits AA
 refine a2 ?_
 refine co rfl (CE (Dv hf) rfl rfl) ?_
 refine an ?_ ?_<;>intro h1 q1
 refine ac ?_
 refine Tr.ret (Fin.AF (Fin.Co rfl (Bt.Dx _ _) rfl ?_ rfl ?_))
 · exact Lz
 · exact Aw
 refine ac ?_
 refine an ?_ ?_<;>intro h2 q2
 refine ac ?_
 refine Tr.ret (Fin.AF (Fin.Co rfl (Bt.Dx _ _) rfl ?_ rfl ?_))
 · exact Lz
 · exact Aw
 have AGZ:l.length≤10:=by have:=q2;omega
 obtain ⟨N,hN⟩:∃N,2 ^ l.length=N:=⟨_,rfl⟩
 have hN2:N≤1024:=by have:=Nat.pow_le_pow_right (n:=2) AA AGZ;omega
 refine a2 ?_
 refine co rfl (Bu (Ue) rfl rfl rfl) (co rfl (JV rfl vq) ?_)
 refine ac ?_
 refine Tr.ex 22 rfl fun AL5=> ?_
 refine Tr.cn rfl ?_ ?_<;>intro h3 q3
 refine ac ?_
 refine wk [9,8] rfl (Tr.ret (Fin.AF (Fin.Co rfl (Bt.Dx _ _) rfl ?_ rfl ?_)))
 · exact Lz
 · exact Aw
 refine ac ?_
 refine wk [4,3,2,1] rfl ?_
 refine ap ?_
 refine tp rfl (Ab.le (fN rfl vq vq AA AA) (int_eq (b:=((N:Nat):Int)) (by rw [Int.toNat_natCast,hN]))) ?_
 refine TO.VJ rfl rfl AD rfl underlying191 W9 by4 z4 rfl vq vq Fa AA (fun b1=> ?_)
 refine ap ?_
 refine Tr.seq (Tr.j6 0 (((List.replicate N false).map fun x:Bool=>[Cp.bool x]).flatten++[]) rfl jW (Tr.C6 (fun L:List Bool=>L.length=N) 0 rfl List.length_replicate ?_))
 refine ap ?_
 refine TO.FL 0 rfl rfl AD (Ak rfl rfl AD rfl (YU (so:=[]) (done:=[]) hz hn hc hN AGZ l.length AR (fun i hi=>by cases hi) (Nat.le_refl _)) ⟨kq,kq,⟨_,rfl,AM 1⟩,⟨_,rfl,AM 1⟩,kz⟩) ?_
 refine ap ?_
 refine wk [12,11] rfl (Tr.seq (Tr.seq (Tr.ex 12 rfl fun x12=> ?_)))
 refine an ?_ ?_<;>intro h4 q4
 refine ac ?_
 refine Tr.ret (Fin.AF (Fin.Co rfl (Bt.Dx _ _) rfl ?_ rfl ?_))
 · exact Lz
 · exact Aw
 refine a2 ?_
 refine Tr.ret (Fin.Co rfl (Bt.Dx _ _) rfl ?_ rfl ?_)
 · exact Lr
 · exact Aw
structure Sw (m:Nat) (l:List Bl) (r:List B0) (d:List Int):Prop where
 fit:rD m l r d
 l7:l.length≤7
 ok:∀c∈l,c.DM.fits∧c.DM.small
 rl:r.length≤1000
abbrev ff (m:Nat):Pr:=Cp.ex fun z:List Bl×List B0×List Int=>fact (Sw m z.1 z.2.1 z.2.2) (Jj z.1 z.2.1 z.2.2)
theorem jX:Sw m [] [] []:=⟨⟨by decide,rfl,by decide,fun j y c h=>absurd h AR⟩,by decide,(fun c h=>by cases h),by decide⟩
theorem E8:Pr.le (agg [is (.slice none 0 0),is (.slice none 0 0),is (.slice none 0 0)]) (ff m):=As ([],[],[]) (Ar jX (BP ⟨AM 8,AM 2,AM 1,trivial⟩))
theorem xV {e:Dg} {c:BS} {l:List Bl}:(∀x∈N3 e c l r fr,x∈l)∧(N3 e c l r fr).length≤l.length∧(Q4 e c l r fr).length≤r.length:=by grind [N3,Q4]
abbrev AGa:Pr:=Cp.ex fun z:List B0=>fact (z.length≤1000) (reqs z)
theorem H9 {e:Dg} {c:BS} {l:List Bl} {OK:Int} (hz:e.sz n) (hn:n≤800000) (hc:∀x∈l,x.DM.fits∧x.DM.small) (h7:l.length≤7) (hrl:r.length≤1000):A_ prog 52 [agg (CJ e),MN c,FV l,reqs r,Nh,Sl,WL,int fr,int OK] (DW [ff e.Bw.length,rJ,EN]):=by
 refine fo func52 rfl ⟨rfl,rfl⟩ fun M0 w0=> ?_
 have hf:=hz.fits AA
 obtain ⟨hs1,Vh,hs3⟩:=xV (e:=e) (c:=c) (l:=l) (r:=r) (fr:=fr)
 have hcs:∀x∈N3 e c l r fr,x.DM.fits∧x.DM.small:=fun x hx=>hc x (hs1 x hx)
 refine Tr.seq (Tr.BI ?_)
 iterate 4 refine tp rfl (Bv rfl Cu) ?_
 refine Tl rfl rfl rfl rfl z35 Jq (fun b1=> ?_)
 refine Tl rfl rfl rfl rfl j4 LR (fun b2=> ?_)
 refine ao ?_
 refine ao ?_
 refine tp rfl (kc5 (TX (e:=e) (c:=c) (l:=l) (r:=r) (fr:=fr) hf (fun x hx=>(hc x hx).2) AA) rfl rfl rfl rfl rfl rfl) ?_
 refine ao ?_
 refine Tl rfl rfl rfl rfl z35 Jq (fun b3=> ?_)
 refine sf 0 21 ⟨rfl,rfl,rfl⟩ rfl rfl rfl rfl ?_
 refine ao ?_
 refine wk [22,21,19,18,15,13,9,8,7,5] rfl ?_
 refine an ?_ ?_<;>intro h1 q1
 refine ao ?_
 refine TO.AV 1 rfl rfl rfl vq Cu rfl Cq rfl rfl (TO.AV 0 rfl rfl rfl vq Cu rfl Cn rfl rfl ?_)
 refine ao ?_
 refine wk [20,19,18] rfl (Tr.ret (Fin.AF (Fin.FN rfl (AQ.cell 1 rfl rfl EG Cq rfl Lr) (AQ.cell 0 rfl rfl Dw Cn rfl Lr) (AQ.tmp rfl Lr) ?_)))
 refine BK ⟨?_,?_,?_,trivial⟩
 · exact E8
 · exact Dz
 · exact Aw
 refine ac ?_
 refine ao ?_
 refine tp rfl (eA (jT (l:=(N3 e c l r fr)) (r:=(Q4 e c l r fr)) (d:=(U3 e c l r fr)) hz hn hcs AA) rfl rfl rfl rfl rfl) ?_
 refine TO.ex 43 rfl (fun z1=>TO.fact 43 rfl fun E2=> ?_)
 refine ao ?_
 refine Tl rfl rfl rfl rfl j4 LR (fun b4=> ?_)
 refine sf 0 23 ⟨rfl,rfl,rfl⟩ rfl rfl rfl rfl ?_
 refine ao ?_
 refine wk [23,22,21,19,18,15,13,9,5] rfl ?_
 refine an ?_ ?_<;>intro h2 q2
 refine ao ?_
 refine TO.AV 1 rfl rfl rfl vq Cu rfl Cq rfl rfl (TO.AV 0 rfl rfl rfl vq Cu rfl Cn rfl rfl ?_)
 refine ao ?_
 refine wk [20,19,18] rfl (Tr.ret (Fin.AF (Fin.FN rfl (AQ.cell 1 rfl rfl EG Cq rfl Lr) (AQ.cell 0 rfl rfl Dw Cn rfl Lr) (AQ.tmp rfl Lr) ?_)))
 refine BK ⟨?_,?_,?_,trivial⟩
 · exact E8
 · exact Dz
 · exact Aw
 have hz0:z1=0:=by have:=q2;omega
 obtain ⟨_,hfp⟩:=E2 hz0
 have hpq:Sw e.Bw.length (N3 e c l r fr) (Q4 e c l r fr) (U3 e c l r fr):=⟨hfp,by omega,hcs,by omega⟩
 refine ac ?_
 refine ao ?_
 refine tp rfl (kc5 (bK (l:=(N3 e c l r fr)) (r:=(Q4 e c l r fr)) (d:=(U3 e c l r fr)) hz hn hcs AA) rfl rfl rfl rfl rfl rfl) ?_
 refine TO.ex 56 rfl (fun z2=>TO.fact 56 rfl fun HW=> ?_)
 refine ao ?_
 refine wk [24,23,22,21,19,18] rfl (Tr.seq ?_)
 by_cases HW:z2.2=0
 refine Tr.rx ?_
 refine ay ?_
 refine Cx.yes rfl rfl rfl Hg rfl AD (fun _=>DD rfl vq) (Cx.yes rfl rfl rfl Hg rfl AD (fun _=>E_ rfl underlying22 vq) (Cx.yes rfl rfl rfl Hg rfl AD (fun _=>ki rfl rfl rfl rfl) (xo rfl (fun _=>Kx rfl vq Hg vq) ?_)))
 refine ay ?_
 refine Cx.nil ⟨by kernel_rfl,?_⟩
 refine BE.done Mk (Fin.go (wk [20,19,18] rfl (Tr.ret (Fin.FN rfl (AQ.cell 1 rfl rfl EG Cq rfl Lr) (AQ.cell 0 rfl rfl Dw Cn rfl Lr) (AQ.tmp rfl Lr) ?_))))
 refine BK ⟨?_,?_,?_,trivial⟩
 · exact cN
 · exact Lr
 · exact Aw
 refine Tr.rx ?_
 refine ay ?_
 refine Cx.no rfl rfl rfl (Bb Hg) rfl AD (Cx.no rfl rfl rfl (Bb Hg) rfl AD (Cx.no rfl rfl rfl (Bb Hg) rfl AD (xo rfl (fun _=>Ky rfl vq Hg vq) ?_)))
 refine ay ?_
 refine Cx.nil ⟨by kernel_rfl,?_⟩
 refine BE.done Mk (Fin.go (wk [20,19,18] rfl (Tr.ret (Fin.FN rfl (AQ.cell 1 rfl rfl EG Cq rfl Lr) (AQ.cell 0 rfl rfl Dw Cn rfl Lr) (AQ.tmp rfl Lr) ?_))))
 refine BK ⟨?_,?_,?_,trivial⟩
 · exact cN
 · exact Lr
 · exact Aw
theorem Kj {o:List Int} (ho:o.length≤1000):A_ Tryz.prog 54 [ints o] AGa:=(az ho).le (fun _ _ _ h=>h) (fun M w v ⟨z,hz,h⟩=>⟨z,Nat.le_trans hz ho,h⟩)
theorem Ug (hn:n≤1000):A_ Tryz.prog 55 [int ((n:Nat):Int)] YT:=(rF hn).le (fun _ _ _ h=>h) (fun M w v ⟨z,hz,h⟩=>⟨z,Nat.le_trans hz hn,h⟩)
theorem rK {c:BS} {l:List Bl} (h:Ee c l=0):∀x∈l,0≤x.AZ∧x.AZ<(c.JN.length:Nat):=fun x hx=>by
 have hb:=(Sf h).2 x hx
 unfold Q2 at hb
 rw [Bool.or_eq_false_iff,decide_eq_false_iff_not,decide_eq_false_iff_not] at hb
 omega
theorem rL {e:Dg} {l:List Bl} (h:l.length≤24):(xT e l).length≤1000:=by
 have h1:=Ss e l l.length
 have h2:=Nat.mul_le_mul h h
 unfold xT;omega
theorem jY {e:Dg} {c:BS} {l:List Bl} {OK:Int} (hz:e.sz n) (hn:n≤800000) (hc:∀x∈l,x.DM.fits∧x.DM.small) (h7:l.length≤7):A_ prog 19 [agg (CJ e),MN c,FV l,Nh,Sl,WL,int fr,int OK] (DW [ff e.Bw.length,rJ,anyI]):=by
 refine fo func19 rfl ⟨rfl,rfl⟩ fun M0 w0=> ?_
 have hf:=hz.fits AA
 refine Tr.seq (Tr.BI ?_)
 iterate 4 refine tp rfl (Bv rfl (Va rfl)) ?_
 refine Tl rfl rfl rfl rfl z35 Jq (fun b1=> ?_)
 refine Tl rfl rfl rfl rfl j4 LR (fun b2=> ?_)
 refine ao ?_
 refine ac ?_
 refine co rfl (CE (Dv hf) rfl rfl) ?_
 refine ac ?_
 refine Tr.cn rfl ?_ ?_<;>intro h1 q1
 refine ao ?_
 refine TO.AV 1 rfl rfl rfl (vl rfl) (Va rfl) rfl Cq rfl rfl (TO.AV 0 rfl rfl rfl (vl rfl) (Va rfl) rfl Cn rfl rfl ?_)
 refine ao ?_
 refine wk [18,17,16] rfl (Tr.ret (Fin.AF (Fin.FN rfl (AQ.cell 1 rfl rfl EG Cq rfl Lr) (AQ.cell 0 rfl rfl Dw Cn rfl Lr) (AQ.tmp rfl Lr) ?_)))
 refine BK ⟨?_,?_,?_,trivial⟩
 · exact E8
 · exact Dz
 · exact Aw
 have Vb:FU e=true:=by cases h_:FU e with|true=>rfl|false=>exact absurd h1 Mt
 refine ac ?_
 refine ac ?_
 refine co rfl (Bu (KQ (c:=c) (m:=((e.Bw.length:Nat):Int))) rfl rfl rfl) ?_
 refine ac ?_
 refine wk [19,17,16,13,11,9,8,7,6,4,2] rfl ?_
 refine ac ?_
 refine Tr.cn rfl ?_ ?_<;>intro h2 q2
 refine ao ?_
 refine TO.AV 1 rfl rfl rfl (vl rfl) (Va rfl) rfl Cq rfl rfl (TO.AV 0 rfl rfl rfl (vl rfl) (Va rfl) rfl Cn rfl rfl ?_)
 refine ao ?_
 refine wk [18,17,16] rfl (Tr.ret (Fin.AF (Fin.FN rfl (AQ.cell 1 rfl rfl EG Cq rfl Lr) (AQ.cell 0 rfl rfl Dw Cn rfl Lr) (AQ.tmp rfl Lr) ?_)))
 refine BK ⟨?_,?_,?_,trivial⟩
 · exact E8
 · exact Dz
 · exact Aw
 have hck:c.check ((e.Bw.length:Nat):Int)=0:=by simpa using h2
 obtain ⟨how,htl,hth⟩:=UT hck
 refine ac ?_
 refine ac ?_
 refine co rfl (Bu (Sv (c:=c) (l:=l) how) rfl rfl rfl) ?_
 refine ac ?_
 refine wk [21,17,16,13,11,9,8,7,6,4,2] rfl ?_
 refine ac ?_
 refine Tr.cn rfl ?_ ?_<;>intro h3 q3
 refine ao ?_
 refine TO.AV 1 rfl rfl rfl (vl rfl) (Va rfl) rfl Cq rfl rfl (TO.AV 0 rfl rfl rfl (vl rfl) (Va rfl) rfl Cn rfl rfl ?_)
 refine ao ?_
 refine wk [18,17,16] rfl (Tr.ret (Fin.AF (Fin.FN rfl (AQ.cell 1 rfl rfl EG Cq rfl Lr) (AQ.cell 0 rfl rfl Dw Cn rfl Lr) (AQ.tmp rfl Lr) ?_)))
 refine BK ⟨?_,?_,?_,trivial⟩
 · exact E8
 · exact Dz
 · exact Aw
 have hep:=rK (c:=c) (l:=l) P3
 refine ac ?_
 refine ac ?_
 refine co rfl (Iy (Ke) rfl rfl rfl rfl) ?_
 refine ac ?_
 refine wk [22,17,16,13,11,9,8,7,6,4,2] rfl (Tr.seq (Tr.ex 22 rfl fun x22=> ?_))
 refine ac ?_
 refine Tr.cn rfl ?_ ?_<;>intro h4 q4
 refine ao ?_
 refine TO.AV 1 rfl rfl rfl (vl rfl) (Va rfl) rfl Cq rfl rfl (TO.AV 0 rfl rfl rfl (vl rfl) (Va rfl) rfl Cn rfl rfl ?_)
 refine ao ?_
 refine wk [18,17,16] rfl (Tr.ret (Fin.AF (Fin.FN rfl (AQ.cell 1 rfl rfl EG Cq rfl Lr) (AQ.cell 0 rfl rfl Dw Cn rfl Lr) (AQ.tmp rfl Lr) ?_)))
 refine BK ⟨?_,?_,?_,trivial⟩
 · exact E8
 · exact Dz
 · exact Aw
 refine ac ?_
 refine ac ?_
 refine co rfl (Bu (Ue) rfl rfl rfl) (co rfl (JV rfl (vl rfl)) ?_)
 refine ac ?_
 refine wk [73,17,16,13,11,9,8,7,6,4,2] rfl (Tr.ex 73 rfl fun AL6=> ?_)
 refine Tr.cn rfl ?_ ?_<;>intro h5 q5
 refine ao ?_
 refine TO.AV 1 rfl rfl rfl (vl rfl) (Va rfl) rfl Cq rfl rfl (TO.AV 0 rfl rfl rfl (vl rfl) (Va rfl) rfl Cn rfl rfl ?_)
 refine ao ?_
 refine wk [18,17,16] rfl (Tr.ret (Fin.AF (Fin.FN rfl (AQ.cell 1 rfl rfl EG Cq rfl Lr) (AQ.cell 0 rfl rfl Dw Cn rfl Lr) (AQ.tmp rfl Lr) ?_)))
 refine BK ⟨?_,?_,?_,trivial⟩
 · exact E8
 · exact Dz
 · exact Aw
 refine ac ?_
 refine ac ?_
 refine co rfl (Bu (YP hf Vb AA (fun x hx=>by have:=hep x hx;omega)) rfl rfl rfl) ?_
 refine ac ?_
 refine wk [23,17,16,13,11,9,8,7,6,4,2] rfl ?_
 refine ao ?_
 refine tp rfl (AY rfl (H9 (e:=e) (c:=c) (l:=l) (r:=xT e l) hz hn hc AA (rL AA)) ⟨ke rfl,kz⟩) ?_
 refine tm rfl (tp rfl (FH rfl (vl rfl) rfl) ?_)
 refine TO.ex 93 rfl (fun p1=>TO.fact 93 rfl fun Mj=> ?_)
 refine tp rfl (FH rfl (vl rfl) rfl) (tp rfl (FH rfl (vl rfl) rfl) ?_)
 refine Tl rfl rfl rfl rfl z35 Jq (fun b3=> ?_)
 refine Tl rfl rfl rfl rfl j4 LR (fun b4=> ?_)
 refine sf 1 25 ⟨rfl,rfl,rfl⟩ rfl rfl rfl rfl ?_
 refine sf 0 26 ⟨rfl,rfl,rfl⟩ rfl rfl rfl rfl ?_
 refine ao ?_
 refine wk [27,26,25,17,16,13,11,9,8,7,6,4,2] rfl ?_
 refine ac ?_
 refine wk [96,26,25,17,16,13,11,9,8,7,6,4,2] rfl (Tr.ex 96 rfl fun AL7=> ?_)
 refine Tr.cn rfl ?_ ?_<;>intro h6 q6
 refine Tr.seq (Tr.rx ?_)
 refine ax ?_
 refine Cx.C0 1 rfl rfl (Aq rfl rfl (vl rfl) (Va rfl) Cq rfl Am rfl) (Cx.C0 0 rfl rfl (Aq rfl rfl (vl rfl) (Va rfl) Cn rfl Am rfl) (xm rfl ?_))
 refine Cx.nil ⟨by kernel_rfl,?_⟩
 refine BE.done Mk (Fin.go (wk [18,17,16] rfl (Tr.ret (Fin.AF (Fin.FN rfl (AQ.cell 1 rfl rfl EG Cq rfl Lr) (AQ.cell 0 rfl rfl Dw Cn rfl Lr) (AQ.tmp rfl Lr) ?_)))))
 refine BK ⟨?_,?_,?_,trivial⟩
 · exact Pp
 · exact Lr
 · exact Aw
 refine ac ?_
 refine wk [17,16,13,11,9,8,7,6,4,2] rfl ?_
 refine ac ?_
 refine Tr.cn rfl ?_ ?_<;>intro h7 q7
 refine ao ?_
 refine TO.AV 1 rfl rfl rfl (vl rfl) (Va rfl) rfl Cq rfl rfl (TO.AV 0 rfl rfl rfl (vl rfl) (Va rfl) rfl Cn rfl rfl ?_)
 refine ao ?_
 refine wk [18,17,16] rfl (Tr.ret (Fin.AF (Fin.FN rfl (AQ.cell 1 rfl rfl EG Cq rfl Lr) (AQ.cell 0 rfl rfl Dw Cn rfl Lr) (AQ.tmp rfl Lr) ?_)))
 refine BK ⟨?_,?_,?_,trivial⟩
 · exact E8
 · exact Dz
 · exact Aw
 refine ac ?_
 refine ac ?_
 refine co rfl (eA (TY hz hn hc) rfl rfl rfl rfl rfl) ?_
 refine ac ?_
 refine wk [29,28,17,16,13,11,9,8,7,6,4,2] rfl (Tr.seq (Tr.ex 29 rfl fun x29=> ?_))
 refine ac ?_
 refine wk [113,28,17,16,13,11,9,8,7,6,4,2] rfl ?_
 refine Tr.cn rfl ?_ ?_<;>intro h8 q8
 refine Tr.seq (Tr.ex 28 rfl fun sq=>(Tr.fact 28 rfl fun hsq=>(Tr.pad (Tr.pad (Tr.rx ?_)))))
 refine ax ?_
 refine xo rfl (fun _=>CE (Kj hsq) rfl rfl) ?_
 refine ax ?_
 refine xo rfl (fun _=>AY rfl (A_.qX [agg (CJ e),MN c,FV l] ([]:List B0) AR fun z hz_=>H9 (e:=e) (c:=c) (l:=l) (r:=z) hz hn hc AA hz_) ⟨ke rfl,kz⟩) ?_
 refine ax ?_
 refine Cx.ef 0 rfl rfl AD (Ca rfl rfl AD rfl z35 Jq) (Cx.ef 1 rfl rfl AD (Ca rfl rfl AD rfl j4 LR) (Cx.C0 0 rfl rfl (LI (f:=fun z:List Bl×List B0×List Int=>[FV z.1,reqs z.2.1,ints z.2.2]) (φ:=fun z:List Bl×List B0×List Int=>Sw e.Bw.length z.1 z.2.1 z.2.2) rfl rfl rfl AD rfl rfl Cq (fun _=>rfl) rfl) (Cx.C0 1 rfl rfl (C2 rfl rfl rfl rfl (Va rfl) Cn rfl rfl) (xm rfl ?_))))
 refine Cx.nil ⟨by kernel_rfl,?_⟩
 refine BE.open_ 0 30 rfl rfl (fun v1=> ?_)
 refine BE.open_ 1 31 rfl rfl (fun v2=> ?_)
 refine BE.done al4 (Fin.Mh 30 0 _ rfl rfl (fun _=>rfl) (fun b5=> ?_))
 refine Fin.fO 0 rfl (fun pe1 AGb=> ?_)
 refine Fin.Mh 31 1 _ rfl rfl (fun _=>rfl) (fun b6=> ?_)
 refine Fin.go (wk [32,31,30,17,16,13,11,9,8,7,6,4,2] rfl ?_)
 refine ac ?_
 refine wk [129,31,30,17,16,13,11,9,8,7,6,4,2] rfl (Tr.ex 129 rfl fun ALG=> ?_)
 refine Tr.cn rfl ?_ ?_<;>intro h9 q9
 refine Tr.seq (Tr.rx ?_)
 refine ax ?_
 refine Cx.C0 3 rfl rfl (Aq rfl rfl (vl rfl) (Va rfl) Cq rfl Am rfl) (Cx.C0 2 rfl rfl (Aq rfl rfl (vl rfl) (Va rfl) Cn rfl Am rfl) (xm rfl ?_))
 refine Cx.nil ⟨by kernel_rfl,?_⟩
 refine BE.done al4 (Fin.go (Tr.drop 0 (Tr.drop 0 (wk [18,17,16] rfl (Tr.ret (Fin.AF (Fin.FN rfl (AQ.cell 1 rfl rfl EG Cq rfl Lr) (AQ.cell 0 rfl rfl Dw Cn rfl Lr) (AQ.tmp rfl Lr) ?_)))))))
 refine BK ⟨?_,?_,?_,trivial⟩
 · exact Pp
 · exact Lr
 · exact Aw
 refine ac ?_
 refine Tr.drop 0 (Tr.drop 0 (wk [17,16,13,11,9,8,7,6,4,2] rfl (Tr.seq (Tr.seq (Tr.pad (Tr.pad (Tr.rx ?_)))))))
 refine ax ?_
 refine xo rfl (fun _=>CE (Ug (n:=l.length) AA) rfl rfl) ?_
 refine xo rfl (fun _=>CE (A_.qX [] [] (Nat.zero_le _) fun z hz_=>Kj hz_) rfl rfl) ?_
 refine ax ?_
 refine xo rfl (fun _=>AY rfl (A_.qX [agg (CJ e),MN c,FV l] ([]:List B0) AR fun z hz_=>H9 (e:=e) (c:=c) (l:=l) (r:=z) hz hn hc AA hz_) ⟨ke rfl,kz⟩) ?_
 refine ax ?_
 refine Cx.ef 0 rfl rfl AD (Ca rfl rfl AD rfl z35 Jq) (Cx.ef 1 rfl rfl AD (Ca rfl rfl AD rfl j4 LR) (Cx.C0 0 rfl rfl (LI (f:=fun z:List Bl×List B0×List Int=>[FV z.1,reqs z.2.1,ints z.2.2]) (φ:=fun z:List Bl×List B0×List Int=>Sw e.Bw.length z.1 z.2.1 z.2.2) rfl rfl rfl AD rfl rfl Cq (fun _=>rfl) rfl) (Cx.C0 1 rfl rfl (C2 rfl rfl rfl rfl (Va rfl) Cn rfl rfl) (xm rfl ?_))))
 refine Cx.nil ⟨by kernel_rfl,?_⟩
 refine BE.open_ 0 33 rfl rfl (fun v3=> ?_)
 refine BE.open_ 1 34 rfl rfl (fun v4=> ?_)
 refine BE.done al4 (Fin.Mh 33 0 _ rfl rfl (fun _=>rfl) (fun b7=> ?_))
 refine Fin.fO 0 rfl (fun pe2 AL8=> ?_)
 refine Fin.Mh 34 1 _ rfl rfl (fun _=>rfl) (fun b8=> ?_)
 refine Fin.go (wk [35,34,33,17,16] rfl ?_)
 refine ac ?_
 refine Tr.ex 149 rfl fun AGc=> ?_
 refine Tr.cn rfl ?_ ?_<;>intro h10 O2
 refine Tr.seq (Tr.rx ?_)
 refine ax ?_
 refine Cx.C0 3 rfl rfl (Aq rfl rfl (vl rfl) (Va rfl) Cq rfl Am rfl) (Cx.C0 2 rfl rfl (Aq rfl rfl (vl rfl) (Va rfl) Cn rfl Am rfl) (xm rfl ?_))
 refine Cx.nil ⟨by kernel_rfl,?_⟩
 refine BE.done al4 (Fin.go (Tr.drop 0 (Tr.drop 0 (Tr.ret (Fin.AF (Fin.FN rfl (AQ.cell 1 rfl rfl EG Cq rfl Lr) (AQ.cell 0 rfl rfl Dw Cn rfl Lr) (AQ.tmp rfl Lr) ?_))))))
 refine BK ⟨?_,?_,?_,trivial⟩
 · exact Pp
 · exact Lr
 · exact Aw
 refine ac ?_
 refine Tr.drop 0 (Tr.drop 0 ?_)
 refine ao ?_
 refine TO.AV 1 rfl rfl rfl (vl rfl) (Va rfl) rfl Cq rfl rfl (TO.AV 0 rfl rfl rfl (vl rfl) (Va rfl) rfl Cn rfl rfl ?_)
 refine ao ?_
 refine Tr.ret (Fin.FN rfl (AQ.cell 1 rfl rfl EG Cq rfl Lr) (AQ.cell 0 rfl rfl Dw Cn rfl Lr) (AQ.tmp rfl Lr) ?_)
 refine BK ⟨?_,?_,?_,trivial⟩
 · exact E8
 · exact Dz
 · exact Aw
 refine ac ?_
 refine Tr.seq (Tr.seq (Tr.pad (Tr.pad (Tr.rx ?_))))
 refine ax ?_
 refine xo rfl (fun _=>CE (Ug (n:=l.length) AA) rfl rfl) ?_
 refine xo rfl (fun _=>CE (A_.qX [] [] (Nat.zero_le _) fun z hz_=>Kj hz_) rfl rfl) ?_
 refine ax ?_
 refine xo rfl (fun _=>AY rfl (A_.qX [agg (CJ e),MN c,FV l] ([]:List B0) AR fun z hz_=>H9 (e:=e) (c:=c) (l:=l) (r:=z) hz hn hc AA hz_) ⟨ke rfl,kz⟩) ?_
 refine ax ?_
 refine Cx.ef 0 rfl rfl AD (Ca rfl rfl AD rfl z35 Jq) (Cx.ef 1 rfl rfl AD (Ca rfl rfl AD rfl j4 LR) (Cx.C0 0 rfl rfl (LI (f:=fun z:List Bl×List B0×List Int=>[FV z.1,reqs z.2.1,ints z.2.2]) (φ:=fun z:List Bl×List B0×List Int=>Sw e.Bw.length z.1 z.2.1 z.2.2) rfl rfl rfl AD rfl rfl Cq (fun _=>rfl) rfl) (Cx.C0 1 rfl rfl (C2 rfl rfl rfl rfl (Va rfl) Cn rfl rfl) (xm rfl ?_))))
 refine Cx.nil ⟨by kernel_rfl,?_⟩
 refine BE.open_ 0 33 rfl rfl (fun v5=> ?_)
 refine BE.open_ 1 34 rfl rfl (fun v6=> ?_)
 refine BE.done al4 (Fin.Mh 33 0 _ rfl rfl (fun _=>rfl) (fun b9=> ?_))
 refine Fin.fO 0 rfl (fun pe3 AL9=> ?_)
 refine Fin.Mh 34 1 _ rfl rfl (fun _=>rfl) (fun b10=> ?_)
 refine Fin.go (wk [35,34,33,17,16] rfl ?_)
 refine ac ?_
 refine Tr.ex 149 rfl fun AGc=> ?_
 refine Tr.cn rfl ?_ ?_<;>intro h11 Rz
 refine Tr.seq (Tr.rx ?_)
 refine ax ?_
 refine Cx.C0 3 rfl rfl (Aq rfl rfl (vl rfl) (Va rfl) Cq rfl Am rfl) (Cx.C0 2 rfl rfl (Aq rfl rfl (vl rfl) (Va rfl) Cn rfl Am rfl) (xm rfl ?_))
 refine Cx.nil ⟨by kernel_rfl,?_⟩
 refine BE.done al4 (Fin.go (Tr.drop 0 (Tr.drop 0 (Tr.ret (Fin.AF (Fin.FN rfl (AQ.cell 1 rfl rfl EG Cq rfl Lr) (AQ.cell 0 rfl rfl Dw Cn rfl Lr) (AQ.tmp rfl Lr) ?_))))))
 refine BK ⟨?_,?_,?_,trivial⟩
 · exact Pp
 · exact Lr
 · exact Aw
 refine ac ?_
 refine Tr.drop 0 (Tr.drop 0 ?_)
 refine ao ?_
 refine TO.AV 1 rfl rfl rfl (vl rfl) (Va rfl) rfl Cq rfl rfl (TO.AV 0 rfl rfl rfl (vl rfl) (Va rfl) rfl Cn rfl rfl ?_)
 refine ao ?_
 refine Tr.ret (Fin.FN rfl (AQ.cell 1 rfl rfl EG Cq rfl Lr) (AQ.cell 0 rfl rfl Dw Cn rfl Lr) (AQ.tmp rfl Lr) ?_)
 refine BK ⟨?_,?_,?_,trivial⟩
 · exact E8
 · exact Dz
 · exact Aw
theorem ABz (s:DS):s.of [1,0,3]=1∨s.of [1,0,3]=0∨s.of [1,0,3]=3:=by have:=s.RL (l:=[1,0,3]) AR;simp at this;exact this
theorem fk (s:DS) (hk:k≤7):0≤((k:Nat):Int)*s.of [1,0,3]∧((k:Nat):Int)*s.of [1,0,3]≤21:=by rcases ABz s with h|h|h<;>rw [h]<;>omega
theorem rM {o:List Int} {x:Int} (h:∀y∈o,0≤y∧y≤40000) (hx:0≤x∧x≤40000):∀y∈o++[x],0≤y∧y≤40000:=by grind
theorem AB0 {s:DS}:Ba prog 7 [ptr b 0] (Cp.ex fun e:Dg=>fact (O6 e) (DW [agg (CJ e),ff e.Bw.length,EN])) (DA b s) (fun _=>ID 60 b):=by
 refine Ba.of func7 rfl rfl Am fun M0 w0 S rs M1 w1=> ?_
 refine Tr.seq (Tr.BI ?_)
 refine Tl rfl rfl rfl rfl z31 Ic (fun b1=> ?_)
 refine Tl rfl rfl rfl rfl z35 Jq (fun b2=> ?_)
 refine ao ?_
 refine ao ?_
 refine TO.FL 2 rfl rfl AD (Ak rfl rfl AD rfl (oG) kz) ?_
 refine TO.ex 13 rfl (fun z1=>TO.fact 13 rfl fun E2=> ?_)
 refine Tl rfl rfl rfl rfl z31 Ic (fun b3=> ?_)
 refine sf 0 5 ⟨rfl,rfl,rfl⟩ rfl rfl rfl rfl ?_
 refine TO.nil (Fin.RM 2 rfl (fun s1=> ?_))
 refine Fin.go ?_
 refine ao ?_
 refine TO.FL 2 rfl rfl AD (Ak rfl rfl AD rfl (wD (e:=z1) E2.snd ⟨by have:=E2.n2;omega,E2.n3⟩) ⟨ke rfl,kz⟩) ?_
 refine TO.ex 16 rfl (fun z2=>TO.fact 16 rfl fun HW=> ?_)
 refine tm rfl (TO.nil (Fin.RM 2 rfl (fun s2=> ?_)))
 refine Fin.go (wk5 0 2 3 5 6 rfl (Tr.seq ?_))
 have kM:∀x∈z2,x.DM.fits∧x.DM.small:=fun x hx=>⟨(HW.any x hx).fits,(HW.any x hx).small⟩
 have h7:=HW.len
 refine Tr.pad (Tr.pad (Tr.rx ?_))
 refine ax ?_
 refine xo rfl (fun _=>CE (ABu (n:=z1.Bw.length) (by have:=E2.n3;omega)) rfl rfl) ?_
 refine ax ?_
 refine xo rfl (fun _=>AY rfl (jY (e:=z1) (c:=zM z1.Bw.length) (l:=z2) E2.sz AA kM HW.len) ⟨ke rfl,ke rfl,ke rfl,⟨_,rfl,BP ⟨AM 6,AM 2,trivial⟩⟩,⟨_,rfl,AM _⟩,⟨_,rfl,BP ⟨AM 1,Lr,trivial⟩⟩,kz⟩) ?_
 refine ax ?_
 refine Cx.ef 0 rfl rfl AD (Ca rfl rfl AD rfl z35 Jq) (Cx.ef 1 rfl rfl AD (Ca rfl rfl AD rfl j4 LR) (Cx.C0 0 rfl rfl (LI (f:=fun z:List Bl×List B0×List Int=>[FV z.1,reqs z.2.1,ints z.2.2]) (φ:=fun z:List Bl×List B0×List Int=>Sw z1.Bw.length z.1 z.2.1 z.2.2) rfl rfl rfl AD rfl rfl Cq (fun _=>rfl) rfl) (Cx.C0 1 rfl rfl (C2 rfl rfl rfl rfl (Va rfl) Cn rfl rfl) (xm rfl ?_))))
 refine Cx.nil ⟨by kernel_rfl,?_⟩
 refine BE.open_ 0 7 rfl rfl (fun v1=> ?_)
 refine BE.open_ 1 8 rfl rfl (fun v2=> ?_)
 refine BE.done mo (Fin.Mh 7 0 _ rfl rfl (fun _=>rfl) (fun b4=> ?_))
 refine Fin.fO 0 rfl (fun pe1 AGb=> ?_)
 refine Fin.Mh 8 1 _ rfl rfl (fun _=>rfl) (fun b5=> ?_)
 refine Fin.go (Tr.drop 1 (wk [9,7,6,5,3,2,0] rfl (Tr.seq (Tr.seq (Tr.ex 9 rfl fun x9=> ?_)))))
 refine ac ?_
 refine Tr.cn rfl ?_ ?_<;>intro h1 q1
 refine Tr.seq (Tr.rx ?_)
 refine ax ?_
 refine Cx.C0 2 rfl rfl (Aq rfl rfl (vl rfl) (Va rfl) Fi rfl Am rfl) (Cx.C0 1 rfl rfl (Aq rfl rfl (vl rfl) (Va rfl) Cq rfl Am rfl) (xm rfl ?_))
 refine Cx.nil ⟨by kernel_rfl,?_⟩
 refine BE.done al5 (Fin.go (Tr.drop 0 (Tr.ret (Fin.AF (Fin.Gq 2 _ rfl rfl (Fin.yO [_,_] rfl (AQ.cell 1 rfl rfl Gf Fi rfl Lr) (AQ.cell 0 rfl rfl EG Cq rfl Lr) (AQ.tmp rfl Lr) ?_))))))
 · exact As z1 (Ar E2 (BK ⟨Lr,As pe1 (Ar AGb Lr),As _ Lr,trivial⟩))
 refine ac ?_
 refine Tr.drop 0 ?_
 refine ao ?_
 refine TO.FL 2 rfl rfl AD (Ak rfl rfl AD rfl (xR (n:=z2.length) (by have:=HW.len;omega)) ⟨ke rfl,kz⟩) ?_
 refine TO.ex 38 rfl (fun z3=>TO.fact 38 rfl fun hz3=> ?_)
 revert z3
 intro rq hrq
 refine tp rfl (oD) ?_
 refine Tl rfl rfl rfl rfl z35 Jq (fun b6=> ?_)
 refine TO.AV 0 rfl rfl rfl (vl rfl) (Va rfl) rfl Cq rfl rfl (TO.nil (Fin.RM 3 rfl (fun s3=> ?_)))
 refine Fin.go (wk [10,6,5,3,2,0] rfl ?_)
 refine ac ?_
 refine Tr.block (Tr.Iw 0 [FV z2,reqs rq,Ag (.slice none 0 0) (ints [])] rfl ⟨Lr,Lr,Bf rfl,trivial⟩ (Tr.B5 3 1 (Tr.E6 _ (kk [41,10,5,3,2,0] rfl) (fun (k:Nat) (dd:List Int) (s2:DS) v=>[(42,int ((k:Nat):Int))]) (fun (k:Nat) (dd:List Int) (s2:DS) v=>Hp M0 w0 S (Ax 3 1 v::AE true b6 35 [FV z2,reqs rq,Ag v (ints dd)]::AE true b2 35 (([.slice none 0 0,.slice none 0 0,.slice none 0 0]:List Value).map is)::AE true b1 31 (([.slice none 0 0,.slice none 0 0,.slice none 0 0]:List Value).map is)::DA b s2::Ac M1 w1::rs)) (fun (k:Nat) (dd:List Int) (s2:DS)=>(k≤z2.length∧dd.length=k)∧∀x∈dd,0≤x∧x≤40000) (fun (k:Nat) (dd:List Int) (s2:DS)=>z2.length-k) (0) ([]) (_) (.slice none 0 0) (⟨⟨Nat.zero_le _,rfl⟩,fun x h=>GP⟩) kz (fun _ _ h=>h) ?_)))
 rintro k dd s2 v ⟨⟨hk0,hdl⟩,hdb⟩
 refine ac ?_
 refine Tr.seq ?_
 refine Tr.cn rfl ?_ ?_<;>intro h2 q2
 have hk:k<z2.length:=AJ h2
 refine ac ?_
 refine ac ?_
 refine Tr.pad (Tr.rx ?_)
 refine ax ?_
 refine xo rfl (fun _=>oI) ?_
 refine Cx.ef 5 rfl rfl AD (Ak rfl rfl AD rfl (XR (l:=[1,0,3]) AR AR) ⟨ke rfl,(Kf rfl),trivial⟩) ?_
 refine xo rfl (fun _=>J2 rfl (vl rfl) (vl rfl) (by have:=fk s2 (k:=k) AA;unfold Oj;omega)) ?_
 refine xo rfl (fun _=>Aa (xs:=[.tmp 51]) (rows:=[[_]]) rfl rfl underlying22 BJ z3 rfl AD ⟨⟨Ao,(Vo rfl)⟩,trivial⟩ AD) ?_
 refine Cx.ef 1 rfl rfl AD (B7 rfl rfl rfl rfl underlying22 BJ IE z3 (Kb rfl) (Kf rfl) (A7 BD (Ka rfl))) ?_
 refine xo rfl (fun _=>BU rfl lp (vl rfl)) (Cx.C0 2 rfl rfl (GD rfl rfl rfl (vl rfl) rfl G0 Am) ?_)
 refine Cx.nil ⟨by kernel_rfl,?_⟩
 refine BE.RN 1 2 53 rfl rfl AD rfl (fun v3=> ?_)
 refine BE.done al7 ?_
 refine ac ?_
 refine Tr.drop 0 (wk [42,41,10,5,3,2,0] rfl ?_)
 refine ac ?_
 refine Fin.Iw 1 [FV z2,reqs rq,Ag v3 (ints (dd++[(((k:Nat):Int)*s2.of [1,0,3])]))] rfl ⟨Lr,Lr,A9 DC,trivial⟩ ?_
 exact Fin.Di (k+1) (dd++[(((k:Nat):Int)*s2.of [1,0,3])]) (_) v3 (⟨⟨⟨by omega,by simp;omega⟩,rM hdb (by have:=fk s2 (k:=k) AA;omega)⟩,by omega⟩) ⟨⟨_,rfl,AG k⟩,kz⟩ (fun _ _ h=>h)
 have Te:=AK h2
 refine ac ?_
 refine Tr.seq (Tr.rx ?_)
 refine ax ?_
 refine Cx.C0 3 rfl rfl (Aq rfl rfl (vl rfl) (Va rfl) Fi rfl Am rfl) (Cx.C0 2 rfl rfl (Aq rfl rfl (vl rfl) (Va rfl) Cq rfl Am rfl) (xm rfl ?_))
 refine Cx.nil ⟨by kernel_rfl,?_⟩
 refine BE.done mo (Fin.go (Tr.ret (Fin.Gq 4 _ rfl rfl (Fin.yO [_,_,_,_] rfl (AQ.cell 3 rfl rfl Gf Fi rfl Lr) (AQ.cell 2 rfl rfl EG Cq rfl Lr) (AQ.tmp rfl Lr) ?_))))
 · exact As z1 (Ar E2 (BK ⟨Lr,As (z2,rq,dd) (Ar ⟨⟨by show z2.length≤24;omega,by show dd.length=z2.length;omega,hrq.1.valid (by show z2.length≤24;omega),fun j y c hj hy hcj=>⟨hdb y (List.mem_of_getElem? hy),(HW.any c (List.mem_of_getElem? hcj)).lo,(HW.any c (List.mem_of_getElem? hcj)).hi⟩⟩,h7,kM,by have:=hrq.2;show rq.length≤1000;omega⟩ (BP ⟨Lr,Lr,At _ _,trivial⟩)),As _ Lr,trivial⟩))
structure Gv where
 src:Int
 host:List UInt8
 machine:Int
 day:Int
 rN:Int
 kind:Int
 bL:List UInt8
 B8:Int
 bits:Int
 num:Int
 text:List UInt8
abbrev LW (f:Gv):List Pr:=[int f.src,str f.host,int f.machine,int f.day,int f.rN,int f.kind,str f.bL,int f.B8,int f.bits,int f.num,str f.text]
abbrev GO (l:List Gv):Pr:=slice 11 (l.map LW)
structure Gv.fits (f:Gv):Prop where
 host:f.host.length≤maxLen
 bL:f.bL.length≤maxLen
 text:f.text.length≤maxLen
def Uh (f:Gv):Bool:=decide (f.B8=0∧f.bits=0)&&decide (f.text=[])
def Mm (f:Gv):Bool:=
 if f.kind=1∨f.kind=8 then decide (Bx f.B8 f.bits>0)&&decide (f.num=0)&&decide (f.text=[])
 else if f.kind=2 then Uh f&&decide (0≤f.num)&&decide (f.num≤65535)
 else if f.kind=3 then decide (Bx f.B8 f.bits>0)&&(DG f.B8).kind==2&&decide (0≤f.num)&&decide (f.num≤2147483648)&&decide (f.text=[])
 else if f.kind=4∨f.kind=5 then Uh f&&decide (1≤f.num)&&decide (f.num≤4)
 else if f.kind=6 then Uh f&&decide (0≤f.num)&&decide (f.num≤2147483648)
 else if f.kind=7 then decide (f.B8=0∧f.bits=0)&&decide (f.num=0)&&named f.text
 else false
def Og (f:Gv):Bool:=named f.host&&named f.bL&&decide (0≤f.machine)&&decide (f.machine≤1099511627776)
def cj (f:Gv):Bool:=decide (0≤f.day)&&decide (f.day≤40000)&&decide (1≤f.rN)&&decide (f.rN≤100)
def N4 (f:Gv):Bool:=Og f&&cj f&&decide (1≤f.src)&&decide (f.src≤7)&&Mm f
theorem jZ {f:Gv} (hf:f.fits):A_ prog 74 [agg (LW f)] (bool (Mm f)):=by
 refine fo func74 rfl ⟨rfl,rfl⟩ fun M0 w0=> ?_
 refine ac ?_
 refine wk [1] rfl (Tr.Jn [1] [(3,bool (Uh f))] (True) ?_ (fun h1=> ?_))
 refine ac ?_
 refine co rfl (Vi rfl vq vq) (cm rfl ?_)
 refine Ch.cs 8 rfl ?_ ?_<;>intro h2 q2
 refine ac ?_
 exact Fin.AL () B9 ⟨⟨_,rfl,bool_eq (by simp_all [Uh])⟩,kz⟩
 refine ac ?_
 exact Fin.AL () B9 ⟨⟨_,rfl,bool_eq (by simp_all [Uh])⟩,kz⟩
 refine ac ?_
 refine ac ?_
 refine Tr.cn rfl ?_ ?_<;>intro h3 q3
 refine ac ?_
 refine Tr.cond rfl (fun _=> ?_) (fun h=>nomatch h3.symm.trans h)
 refine ac ?_
 refine co rfl (CE (Vl) rfl rfl) (cm rfl ?_)
 refine Ch.cs 21 rfl ?_ ?_<;>intro h4 q4
 refine ac ?_
 refine Ch.cs 26 rfl ?_ ?_<;>intro h5 q5
 refine ac ?_
 refine wk [2] rfl ?_
 refine ac ?_
 · exact Eb
 refine ac ?_
 refine wk [2] rfl ?_
 refine ac ?_
 · exact Eb
 refine ac ?_
 refine wk [2] rfl ?_
 refine ac ?_
 · exact I0
 refine ac ?_
 refine Tr.cn rfl ?_ ?_<;>intro h6 q6
 refine ac ?_
 refine co rfl (CE (Vl) rfl rfl) (cm rfl ?_)
 refine Ch.cs 21 rfl ?_ ?_<;>intro h7 q7
 refine ac ?_
 refine Ch.cs 26 rfl ?_ ?_<;>intro h8 q8
 refine ac ?_
 refine wk [2] rfl ?_
 refine ac ?_
 · exact Eb
 refine ac ?_
 refine wk [2] rfl ?_
 refine ac ?_
 · exact Eb
 refine ac ?_
 refine wk [2] rfl ?_
 refine ac ?_
 · exact I0
 refine ac ?_
 refine Tr.cn rfl ?_ ?_<;>intro h9 q9
 refine ac ?_
 refine Ch.cs 34 rfl ?_ ?_<;>intro h10 O2
 refine ac ?_
 refine Ch.cs 39 rfl ?_ ?_<;>intro h11 Rz
 refine ac ?_
 refine wk [2] rfl ?_
 refine ac ?_
 · exact Eb
 refine ac ?_
 refine wk [2] rfl ?_
 refine ac ?_
 · exact I0
 refine ac ?_
 refine wk [2] rfl ?_
 refine ac ?_
 · exact Eb
 refine ac ?_
 refine Tr.cn rfl ?_ ?_<;>intro h12 TN
 refine ac ?_
 refine co rfl (CE (Vl) rfl rfl) (cm rfl ?_)
 refine Ch.cs 49 rfl ?_ ?_<;>intro J8 Vs
 refine ac ?_
 refine cy J8 rfl (CE (AAt) rfl rfl) ?_
 refine ac ?_
 refine Ch.cs 56 rfl ?_ ?_<;>intro Mi nU
 refine ac ?_
 refine Ch.cs 61 rfl ?_ ?_<;>intro Wi q15
 refine ac ?_
 refine Ch.cs 66 rfl ?_ ?_<;>intro h16 q16
 refine ac ?_
 refine wk [2] rfl ?_
 refine ac ?_
 · exact Eb
 refine ac ?_
 refine wk [2] rfl ?_
 refine ac ?_
 · exact I0
 refine ac ?_
 refine wk [2] rfl ?_
 refine ac ?_
 · exact I0
 refine ac ?_
 refine wk [2] rfl ?_
 refine ac ?_
 · exact Eb
 refine ac ?_
 refine wk [2] rfl ?_
 refine ac ?_
 · exact I0
 refine ac ?_
 refine wk [71,14,3,1] rfl ?_
 refine Tr.cn rfl ?_ ?_<;>intro OD q17
 refine ac ?_
 refine Tr.cond rfl (fun _=> ?_) (fun h=>nomatch OD.symm.trans h)
 refine ac ?_
 refine Ch.cs 75 rfl ?_ ?_<;>intro RO q18
 refine ac ?_
 refine Ch.cs 80 rfl ?_ ?_<;>intro nQ q19
 refine ac ?_
 refine wk [2] rfl ?_
 refine ac ?_
 · exact Eb
 refine ac ?_
 refine wk [2] rfl ?_
 refine ac ?_
 · exact I0
 refine ac ?_
 refine wk [2] rfl ?_
 refine ac ?_
 · exact Eb
 refine ac ?_
 refine Tr.cn rfl ?_ ?_<;>intro R3 q20
 refine ac ?_
 refine Ch.cs 75 rfl ?_ ?_<;>intro Zo q21
 refine ac ?_
 refine Ch.cs 80 rfl ?_ ?_<;>intro h22 q22
 refine ac ?_
 refine wk [2] rfl ?_
 refine ac ?_
 · exact Eb
 refine ac ?_
 refine wk [2] rfl ?_
 refine ac ?_
 · exact I0
 refine ac ?_
 refine wk [2] rfl ?_
 refine ac ?_
 · exact Eb
 refine ac ?_
 refine Tr.cn rfl ?_ ?_<;>intro h23 q23
 refine ac ?_
 refine Ch.cs 88 rfl ?_ ?_<;>intro Nw q24
 refine ac ?_
 refine Ch.cs 93 rfl ?_ ?_<;>intro h25 q25
 refine ac ?_
 refine wk [2] rfl ?_
 refine ac ?_
 · exact Eb
 refine ac ?_
 refine wk [2] rfl ?_
 refine ac ?_
 · exact I0
 refine ac ?_
 refine wk [2] rfl ?_
 refine ac ?_
 · exact Eb
 refine ac ?_
 refine Tr.cn rfl ?_ ?_<;>intro h26 q26
 refine ac ?_
 refine co rfl (Vi rfl vq vq) (cm rfl ?_)
 refine Ch.cs 104 rfl ?_ ?_<;>intro h27 q27
 refine ac ?_
 refine Ch.cs 109 rfl ?_ ?_<;>intro h28 q28
 refine ac ?_
 refine cy h28 rfl (CE (Vj hf.text) rfl rfl) ?_
 refine ac ?_
 refine wk [2] rfl ?_
 refine ac ?_
 · exact Eb
 refine ac ?_
 refine wk [2] rfl ?_
 refine ac ?_
 · exact Eb
 refine ac ?_
 refine wk [2] rfl ?_
 refine ac ?_
 · exact Eb
 refine ac ?_
 refine ac ?_
 refine ac ?_
 · exact Eb
theorem Kk {f:Gv} (hf:f.fits):A_ prog 36 [agg (LW f)] (int (if N4 f then 0 else 24)):=by
 refine fo func36 rfl ⟨rfl,rfl⟩ fun M0 w0=> ?_
 refine ac ?_
 refine wk1 1 rfl (Tr.Jn [1] [(3,bool (Og f))] (True) ?_ (fun h1=> ?_))
 refine ac ?_
 refine co rfl (CE (Vj hf.host) rfl rfl) (cm rfl ?_)
 refine Ch.cs 8 rfl ?_ ?_<;>intro h2 q2
 refine ac ?_
 refine cy h2 rfl (CE (Vj hf.bL) rfl rfl) ?_
 refine ac ?_
 refine Ch.cs 13 rfl ?_ ?_<;>intro h3 q3
 refine ac ?_
 refine Ch.cs 18 rfl ?_ ?_<;>intro h4 q4
 refine ac ?_
 exact Fin.AL () B9 ⟨⟨_,rfl,bool_eq (by simp_all [Og])⟩,kz⟩
 refine ac ?_
 exact Fin.AL () B9 ⟨⟨_,rfl,bool_eq (by simp_all [Og];omega)⟩,kz⟩
 refine ac ?_
 exact Fin.AL () B9 ⟨⟨_,rfl,bool_eq (by simp_all [Og])⟩,kz⟩
 refine ac ?_
 exact Fin.AL () B9 ⟨⟨_,rfl,bool_eq (by simp_all [Og])⟩,kz⟩
 refine wk2 1 3 rfl (Tr.Jn [1,3] [(4,bool (cj f))] (True) ?_ (fun h5=> ?_))
 refine ac ?_
 refine Ch.cs 26 rfl ?_ ?_<;>intro h6 q6
 refine ac ?_
 refine Ch.cs 31 rfl ?_ ?_<;>intro h7 q7
 refine ac ?_
 refine Ch.cs 36 rfl ?_ ?_<;>intro h8 q8
 refine ac ?_
 exact Fin.AL () B9 ⟨⟨_,rfl,bool_eq (by simp_all [cj])⟩,kz⟩
 refine ac ?_
 exact Fin.AL () B9 ⟨⟨_,rfl,bool_eq U_⟩,kz⟩
 refine ac ?_
 exact Fin.AL () B9 ⟨⟨_,rfl,bool_eq U_⟩,kz⟩
 refine ac ?_
 exact Fin.AL () B9 ⟨⟨_,rfl,bool_eq U_⟩,kz⟩
 refine ac ?_
 refine Ch.cs 43 rfl ?_ ?_<;>intro h9 q9
 refine ac ?_
 refine wk [61] rfl ?_
 refine ac ?_
 refine ac ?_
 · exact Pq
 refine ac ?_
 refine Ch.cs 47 rfl ?_ ?_<;>intro h10 O2
 refine ac ?_
 refine wk [61] rfl ?_
 refine ac ?_
 refine ac ?_
 · exact Pq
 refine ac ?_
 refine Ch.cs 52 rfl ?_ ?_<;>intro h11 Rz
 refine ac ?_
 refine wk [61] rfl ?_
 refine ac ?_
 refine ac ?_
 · refine int_eq ?_;unfold N4;simp_all;omega
 refine ac ?_
 refine Ch.cs 57 rfl ?_ ?_<;>intro h12 TN
 refine ac ?_
 refine wk [61] rfl ?_
 refine ac ?_
 refine ac ?_
 · refine int_eq ?_;unfold N4;simp_all;omega
 refine cy h12 rfl (Al rfl J9 HI (vl rfl) rfl rfl) (cy h12 rfl (CE (jZ BO) rfl rfl) ?_)
 refine ac ?_
 refine wk [61] rfl ?_
 refine Tr.cn rfl ?_ ?_<;>intro J8 Vs
 refine ac ?_
 refine ac ?_
 · exact Pq
 refine ac ?_
 refine ac ?_
 refine ac ?_
 · exact Pq
def orL:List Int→Int
 |[]=>0
 |a::l=>if a=0 then orL l else a
def AGd (a b:Gv):List Int:=[Lib.compareBytes a.host b.host,DB a.machine b.machine,DB a.day b.day,Lib.compareBytes a.bL b.bL,DB a.kind b.kind,DB a.B8 b.B8,DB a.bits b.bits,DB a.num b.num,Lib.compareBytes a.text b.text,DB a.src b.src,DB a.rN b.rN]
def AKb (a b:Gv):Int:=orL (AGd a b)
def kF (l:List Gv) (f:Gv):Nat:=(l.reverse.dropWhile fun x=>decide (0<AKb x f)).length
theorem xW {l:List UInt8} {x:Nat} {y:Int} {hl:x<l.length} (h:(List.range 256).all (fun i=>match l[i]? with|some b=>decide (b.toNat≤8∧(1≤i→2 ^ b.toNat≤2*i))|none=>true)=true) (hx:x<256) (hy:(x:Int)=y):
  0≤IntKind.i64.wrap (IntKind.i64.wrap ((l[x]).toNat:Int))∧IntKind.i64.wrap (IntKind.i64.wrap ((l[x]).toNat:Int))≤8∧(1≤y→((2 ^ (IntKind.i64.wrap (IntKind.i64.wrap ((l[x]).toNat:Int))).toNat:Nat):Int)≤2*y):=by
 subst hy
 have h1:=List.all_eq_true.1 h x (List.mem_range.2 hx)
 rw [List.getElem?_eq_getElem hl] at h1
 have h1:=of_decide_eq_true h1
 have hb:(l[x]).toNat<256:=UInt8.toNat_lt _
 have hw:=IntWalk.i64_in ((l[x]).toNat:Int) ⟨by omega,by omega⟩
 rw [hw,hw,Int.toNat_natCast]
 exact ⟨by omega,by omega,fun hx1=>by have:=h1.2 AA;omega⟩
theorem rO {x:Int} (h0:0≤x) (h1:x<256):A_ prog 171 [is (.int .u64 x)] (ex fun k:Int=>fact (0≤k∧k≤8∧(1≤x→((2 ^ k.toNat:Nat):Int)≤2*x)) (int k)):=by
 refine fo func171 rfl ⟨rfl,rfl⟩ fun M0 w0=> ?_
 have hw:IntKind.u8.wrap x=x:=IntWalk.u8_in x ⟨by omega,by omega⟩
 refine ac ?_
 refine an ?_ ?_<;>intro h1 q1
 exfalso;omega
 refine ac ?_
 refine an ?_ ?_<;>intro h2 q2
 exfalso;omega
 refine ac ?_
 refine an ?_ ?_<;>intro h3 q3
 exfalso;omega
 refine a2 ?_
 refine co rfl (Cr rfl underlying274 underlying5 vq) ?_
 refine co rfl (QA rfl underlying9 vq vq AA (List.getElem?_eq_getElem (by show _<256;omega))) ?_
 refine co rfl (Cr rfl underlying5 underlying3 vq) ?_
 refine ac ?_
 refine wk [2] rfl ?_
 refine ac ?_
 · refine As _ (Ar ?_ Lr);rw [Int.zero_add];refine xW ?_ AA AA;decide+kernel
theorem Nj {x:Int} (h0:0≤x) (h1:x<256):A_ prog 101 [is (.int .u64 x)] (ex fun k:Int=>fact (0≤k∧k≤8∧(1≤x→((2 ^ k.toNat:Nat):Int)≤2*x)) (int k)):=by
 refine fo func101 rfl ⟨rfl,rfl⟩ fun M0 w0=> ?_
 refine a3 ?_
 refine co rfl (CE (rO AA AA) rfl rfl) ?_
 refine a2 ?_
 · exact Lr
theorem AB1 {x:Int} (h0:1≤x) (h1:x<256):A_ prog 222 [int x] (ex fun m:Int=>fact (1≤m∧m≤2*x) (is (.int .u64 m))):=by
 refine fo func222 rfl ⟨rfl,rfl⟩ fun M0 w0=> ?_
 have hw:IntKind.u64.wrap x=x:=IntWalk.u64_in x ⟨by omega,by omega⟩
 refine ac ?_
 refine ap ?_
 refine tp rfl (Cr rfl underlying3 underlying201 vq) (tp rfl (CE (Nj AA AA) rfl rfl) ?_)
 refine TO.ex 5 rfl (fun k=>TO.fact 5 rfl fun hk=> ?_)
 obtain ⟨hk1,hk2,hk3⟩:=hk
 refine tp rfl (vE rfl vq vq AA AA (hk3 AA)) ?_
 refine ap ?_
 refine ac ?_
 · exact fun M w v ⟨r,h,hv⟩=>⟨r,by rw [hw] at h;exact h,hv⟩
theorem xX {xb:Nat}  :Ba prog 223 [is (.pointer (some ⟨xb,0,none⟩))] (Dt .u64) (AE true xb 329 [Dt .u64]) (fun _=>AE true xb 329 [Dt .u64]):=by
 refine Ba.of func223 rfl rfl Am fun M0 w0 S rs M1 w1=> ?_
 refine ac ?_
 refine Tr.seq (Tr.rx ?_)
 refine ay ?_
 refine xo rfl (fun _=>Zb AD rfl vq vq AD) (xo rfl (fun _=>QB AD rfl vq vq) ?_)
 refine ay ?_
 refine Cx.nil ⟨by kernel_rfl,?_⟩
 refine BE.done Mk (Fin.go (Tr.seq (Tr.rx ?_)))
 refine ay ?_
 refine xo rfl (fun _=>Zb AD rfl vq vq AD) (xo rfl (fun _=>QB AD rfl vq vq) ?_)
 refine ay ?_
 refine Cx.nil ⟨by kernel_rfl,?_⟩
 refine BE.done Mk (Fin.go (wk [0] rfl (Tr.seq (Tr.rx ?_))))
 refine ay ?_
 refine xo rfl (fun _=>Zb AD rfl vq vq AD) (xo rfl (fun _=>QB AD rfl vq vq) ?_)
 refine ay ?_
 refine Cx.nil ⟨by kernel_rfl,?_⟩
 refine BE.done Mk (Fin.go ?_)
 refine ac ?_
 refine wk [2] rfl (Tr.ret (Fin.ER rfl rfl ?_ (fun _ _ _ _=>rfl)))
 · exact Lr
structure WV {α:Type} (c:α→α→Int):Prop where
 swap:∀x y,c y x= -c x y
 tr:∀x y z,c x y<0→c y z<0→c x z<0
 eq:∀x y z,c x y=0→c x z=c y z
theorem WV.eqr {α:Type} {c:α→α→Int} (h:WV c) (x y z:α) (e:c y z=0):c x y=c x z:=by
 have h1:=h.eq y z x e
 have h2:=h.swap x y
 have h3:=h.swap x z
 omega
theorem WV.swo {α:Type} {c:α→α→Int} (h:WV c):Go.Sort.SWO (Ct fun p:α×α=>c p.1 p.2) where
 irrefl x:=by have:=h.swap x x;exact decide_eq_false (by show ¬c x x<0;omega)
 trans x y z h1 h2:=decide_eq_true (h.tr x y z (of_decide_eq_true h1) (of_decide_eq_true h2))
 ntrans x y z h1 h2:=by
  have h1:¬c x y<0:=of_decide_eq_false h1
  have h2:¬c y z<0:=of_decide_eq_false h2
  refine decide_eq_false (show ¬c x z<0 from fun h3=> ?_)
  have e1:=h.swap x y
  by_cases hxy:c x y=0
  · have:=h.eq x y z hxy;omega
  · have:=h.tr y x z AA h3;omega
theorem WV.cons {α:Type} {c d:α→α→Int} (h:WV c) (k:WV d):WV (fun x y=>if c x y=0 then d x y else c x y) where
 swap x y:=by
  have h1:=h.swap x y
  have h2:=k.swap x y
  show (if c y x=0 then d y x else c y x)= -(if c x y=0 then d x y else c x y)
  by_cases e:c x y=0
  · rw [if_pos e,if_pos AA];exact h2
  · rw [if_neg e,if_neg AA];exact h1
 tr x y z h1 h2:=by
  show (if c x z=0 then d x z else c x z)<0
  have h1:(if c x y=0 then d x y else c x y)<0:=h1
  have h2:(if c y z=0 then d y z else c y z)<0:=h2
  by_cases e1:c x y=0
  ·
   rw [if_pos e1] at h1
   have e3:=h.eq x y z e1
   by_cases e2:c y z=0
   · rw [if_pos e2] at h2;rw [if_pos AA];exact k.tr x y z h1 h2
   · rw [if_neg e2] at h2;rw [if_neg AA];omega
  ·
   rw [if_neg e1] at h1
   by_cases e2:c y z=0
   ·
    have e3:=h.eqr x y z e2
    rw [if_neg AA];omega
   ·
    rw [if_neg e2] at h2
    have:=h.tr x y z h1 h2
    rw [if_neg AA];exact this
 eq x y z h1:=by
  have h1:(if c x y=0 then d x y else c x y)=0:=h1
  show (if c x z=0 then d x z else c x z)=(if c y z=0 then d y z else c y z)
  by_cases e1:c x y=0
  ·
   rw [if_pos e1] at h1
   rw [h.eq x y z e1,k.eq x y z h1]
  · rw [if_neg e1] at h1;exact absurd h1 e1
theorem WV.nil {α:Type}:WV (fun _ _:α=>0):=⟨fun _ _=>rfl,fun _ _ _ h=>absurd h AD,fun _ _ _ _=>rfl⟩
theorem WV.on {α β:Type} {c:β→β→Int} (f:α→β) (h:WV c):WV (fun x y=>c (f x) (f y)):=⟨fun x y=>h.swap (f x) (f y),fun x y z=>h.tr (f x) (f y) (f z),fun x y z=>h.eq (f x) (f y) (f z)⟩
theorem LM:WV DB:=⟨fun x y=>by unfold DB;by_cases h1:x<y<;>by_cases h2:y<x<;>simp [h1,h2]<;>omega,fun x y z h1 h2=>by unfold DB at*;(repeat (split at h1))<;>(repeat (split at h2))<;>(repeat (split))<;>omega,fun x y z h=>by rw [K5.1 h]⟩
def JY {α:Type} (c:α→α→Int) (l:List α):Prop:=l.Pairwise fun x y=>c x y≤0
theorem YV {α:Type} {c:α→α→Int} (hc:WV c) {l m:List α} (hp:l.Perm m) (h1:JY c l) (h2:JY c m) (h:∀x y,x∈l→y∈l→c x y=0→x=y):l=m:=
 List.Perm.eq_of_pairwise (le:=fun x y=>c x y≤0) (fun a b ha hb h3 h4=>h a b ha (hp.mem_iff.2 hb) (by have:=hc.swap a b;omega)) h1 h2 hp
theorem bM {α:Type} [Inhabited α] {c:α→α→Int} (hc:WV c) {l st:List α} (h:Gh (fun p=>c p.1 p.2) 0 (l.length:Nat) l st):st.Perm l∧JY c st:=by
 refine ⟨D_.whole h.1,?_⟩
 have hl:=h.len
 unfold JY
 rw [List.pairwise_iff_getElem]
 intro i j hi hj hij
 have h1:=h.2 i j AR hij Bz
 have e1:st.toArray[i]! =st[i]:=by simp [hi]
 have e2:st.toArray[j]! =st[j]:=by simp [hj]
 rw [e1,e2] at h1
 have h2:¬c st[j] st[i]<0:=of_decide_eq_false h1
 have:=hc.swap st[i] st[j]
 omega
section
variable {β:Type} [DecidableEq β]
def bN (acc:List β) (x:β):List β:=if acc.getLast? =some x then acc else acc++[x]
def LO (l:List β):List β:=l.foldl bN []
theorem Sx {l:List β} {x:β} (h:l[j]? =some x):LO (l.take (j+1))=bN (LO (l.take j)) x:=by
 unfold LO;rw [List.take_add_one,h,List.foldl_append];rfl
theorem rP (acc:List β) (x:β):(bN acc x).getLast? =some x:=by
 unfold bN;split
 · exact BO
 · simp
theorem YW {l:List β} {y:β} (hj:1≤j) (h:l[j-1]? =some y):(LO (l.take j)).getLast? =some y:=by
 have:=Sx (j:=j-1) h
 rw [show j-1+1=j by omega] at this
 rw [this];exact rP _ _
theorem WW {l:List β} {x y:β} (hj:1≤j) (hx:l[j]? =some x) (hy:l[j-1]? =some y) (hne:¬x=y):LO (l.take (j+1))=LO (l.take j)++[x]:=by
 rw [Sx hx];unfold bN
 rw [if_neg]
 rw [YW hj hy];intro e;injection e with e;exact hne e.symm
theorem Nk {l:List β} {x y:β} (hj:1≤j) (hx:l[j]? =some x) (hy:l[j-1]? =some y) (he:x=y):LO (l.take (j+1))=LO (l.take j):=by
 rw [Sx hx];unfold bN
 rw [if_pos]
 rw [YW hj hy,he]
theorem G8 {l:List β} (h:l.length<2):LO l=l:=by
 match l,h with
 |[],_=>rfl
 |[x],_=>rfl
theorem xY (acc:List β) (x:β):(bN acc x).length≤acc.length+1:=by unfold bN;split<;>simp
theorem fm (l:List β):(LO l).length≤l.length:=by
 have key:∀(l acc:List β),(l.foldl bN acc).length≤acc.length+l.length:=by
  intro l
  induction l with
  |nil=>intro acc;simp
  |cons x l ih=>intro acc;have h1:=ih (bN acc x);have h2:=xY acc x;simp only [List.foldl_cons,List.length_cons];omega
 have:=key l []
 unfold LO;simpa using this
theorem fq {acc:List β} {a x:β}:x∈bN acc a↔x∈acc∨x=a:=by
 unfold bN;split
 ·
  rename_i h
  constructor
  · exact .inl
  ·
   rintro (h1|rfl)
   · exact h1
   · exact List.mem_of_getLast? h
 · simp
theorem xZ {l:List β} {x:β}:x∈LO l↔x∈l:=by
 have key:∀(l acc:List β),x∈l.foldl bN acc↔x∈acc∨x∈l:=by
  intro l
  induction l with
  |nil=>intro acc;simp
  |cons a l ih=>intro acc;rw [List.foldl_cons,ih,fq,List.mem_cons,or_assoc]
 unfold LO;rw [key];simp
abbrev Md (c:β→β→Int) (l:List β):Prop:=l.Pairwise fun x y=>c x y<0
theorem bO {c:β→β→Int} (hc:WV c) (he:∀x y,c x y=0→x=y) {l:List β} (h:JY c l):Md c (LO l):=by
 have key:∀(l acc:List β),Md c acc→(∀a∈acc,∀x∈l,c a x≤0)→JY c l→Md c (l.foldl bN acc):=by
  intro l
  induction l with
  |nil=>intro acc h1 _ _;exact h1
  |cons x l ih=>
   intro acc h1 h2 h3
   obtain ⟨h4,h5⟩:=List.pairwise_cons.1 h3
   rw [List.foldl_cons]
   refine ih _ ?_ (fun a ha y hy=> ?_) h5
   ·
    unfold bN;split
    · exact h1
    ·
     rename_i hl
     unfold Md
     rw [List.pairwise_append]
     refine ⟨h1,by simp,fun a ha b hb=> ?_⟩
     simp at hb;subst hb
     have hle:=h2 a ha b AR
     rcases Int.lt_or_eq_of_le hle with hlt|heq
     · exact hlt
     ·
      have e:=he _ _ heq
      subst e
      exfalso
      obtain ⟨pre,z,hz⟩:∃pre z,acc=pre++[z]:=by
       rcases List.eq_nil_or_concat acc with rfl|⟨pre,z,hz⟩
       · cases ha
       · exact ⟨pre,z,by simpa using hz⟩
      subst hz
      rcases List.mem_append.1 ha with ha|ha
      ·
       have h6:=(List.pairwise_append.1 h1).2.2 a ha z AR
       have h7:=h2 z AR a AR
       have h8:=hc.swap a z
       have h6:c a z<0:=h6
       omega
      · simp at ha;subst ha;simp at hl
   ·
    rcases fq.1 ha with ha|rfl
    · exact h2 a ha y (List.mem_cons_of_mem _ hy)
    · exact h4 y hy
 exact key l [] .nil AR h
theorem PM {c:β→β→Int} (hc:WV c) {l m:List β} (h1:Md c l) (h2:Md c m) (h:∀x,x∈l↔x∈m):l=m:=by
 have hn:∀{k:List β},Md c k→k.Nodup:=fun hk=>hk.imp fun {a b} hab e=>by subst e;have:=hc.swap a a;omega
 have hp:l.Perm m:=(List.perm_ext_iff_of_nodup (hn h1) (hn h2)).2 h
 refine YV hc hp (h1.imp fun h=>Int.le_of_lt h) (h2.imp fun h=>Int.le_of_lt h) fun x y hx hy e=> ?_
 obtain ⟨i,hi,rfl⟩:=List.mem_iff_getElem.1 hx
 obtain ⟨j,hj,rfl⟩:=List.mem_iff_getElem.1 hy
 have hp:=List.pairwise_iff_getElem.1 h1
 rcases Nat.lt_trichotomy i j with hij|hij|hij
 · have:=hp i j hi hj hij;omega
 · subst hij;rfl
 ·
  have:=hp j i hj hi hij
  have h3:=hc.swap l[i] l[j]
  omega
omit [DecidableEq β] in
theorem YX {l:List β} {w:Nat} {u:β} (h:w<l.length):(l.set w u).take (w+1)=l.take w++[u]:=by
 rw [List.take_add_one,List.getElem?_set_self h,List.take_set_of_le (Nat.le_refl _)];rfl
end
deriving instance DecidableEq for Gv
section
variable {α:Type}
def LX (c:α→α→Int) (l:List α) (x:α):List α:=match l with
 |[]=>[x]
 |y::r=>if c y x<0 then y::LX c r x else if c y x=0 then y::r else x::y::r
theorem Sy {c:α→α→Int} (he:∀x y,c x y=0→x=y) {x z:α}:∀{l:List α},z∈LX c l x↔z∈l∨z=x
 |[]=>by simp [LX]
 |y::r=>by
  unfold LX
  split
  · rw [List.mem_cons,Sy he,List.mem_cons,or_assoc]
  ·
   split
   ·
    rename_i h
    constructor
    · exact .inl
    ·
     rintro (h1|rfl)
     · exact h1
     · rw [←he _ _ h];exact List.mem_cons_self ..
   ·
    rw [List.mem_cons]
    constructor
    ·
     rintro (h|h)
     · exact .inr h
     · exact .inl h
    ·
     rintro (h|h)
     · exact .inr h
     · exact .inl h
theorem PN {c:α→α→Int} (hc:WV c) (he:∀x y,c x y=0→x=y) {x:α}:∀{l:List α},l.Pairwise (fun a b=>c a b<0)→(LX c l x).Pairwise (fun a b=>c a b<0)
 |[],_=>by unfold LX;simp
 |y::r,h=>by
  obtain ⟨h1,h2⟩:=List.pairwise_cons.1 h
  unfold LX
  split
  ·
   rename_i hlt
   refine List.pairwise_cons.2 ⟨fun z hz=> ?_,PN hc he h2⟩
   rcases (Sy he).1 hz with hz|rfl
   · exact h1 z hz
   · exact hlt
  ·
   split
   · exact h
   ·
    rename_i hn h0
    have hs:=hc.swap y x
    have hxy:c x y<0:=by omega
    refine List.pairwise_cons.2 ⟨fun z hz=> ?_,h⟩
    rcases List.mem_cons.1 hz with rfl|hz
    · exact hxy
    · exact hc.tr x y z hxy (h1 z hz)
theorem YY (c:α→α→Int) (x:α):∀l:List α,(LX c l x).length≤l.length+1
 |[]=>by simp [LX]
 |y::r=>by
  unfold LX
  have:=YY c x r
  split
  · exact zW
  · split<;>simp
abbrev xd (c:α→α→Int) (l:List α):Prop:=l.Pairwise fun a b=>c a b<0
end
theorem Iu {α:Type} {ss:List (List α)} {x:List α} (h:ss[k]? =some x):(ss.take (k+1)).flatten=(ss.take k).flatten++x:=by
 rw [List.take_add_one,h,List.flatten_append];simp
theorem Fu {α:Type} (ss:List (List α)) (k:Nat):(ss.take k).flatten.length≤ss.flatten.length:=by
 have h:=congrArg (fun l:List (List α)=>l.flatten.length) (List.take_append_drop k ss)
 simp only [List.flatten_append,List.length_append] at h;omega
theorem rQ {l:List (List UInt8)} {b0 len:Nat} (Kr:l.length=len) (II:len≤1000000) (hcap:len≤cap) (hm:cap≤maxLen):Ba prog 81 [is (.slice (some ⟨b0,0,none⟩) len cap)] (is (.slice (some ⟨b0,0,none⟩) (LO l).length cap)) (AE true b0 9 ((l.map (fun t:List UInt8=>[str t])).flatten++sp.map is)) (fun _=>AE true b0 9 (((LO l).map (fun t:List UInt8=>[str t])).flatten++((List.replicate (l.length-(LO l).length) (([.string (ByteArray.mk #[])]:List Value).map is)).flatten++sp.map is))):=by
 refine Ba.of func81 rfl rfl Am fun M0 w0 S rs M1 w1=> ?_
 have hmx:cap≤9223372036854775807:=by unfold maxLen at hm;omega
 refine a2 ?_
 refine co rfl (FB rfl underlying51 vq) ?_
 refine an ?_ ?_<;>intro h1 q1
 refine ac ?_
 refine Tr.ret (Fin.AF ?_)
 refine Fin.ER rfl rfl ?_ (fun _ _ _ _=>by rw [G8 AA,Nat.sub_self];rfl)
 · refine Pr.le_of_eq ?_;rw [G8 AA,Kr]
 refine a2 ?_
 refine Tr.block ?_
 refine Tr.E5 _ (kk [0] rfl) (fun (k:Nat)=>[(3,int ((k:Nat):Int))]) (fun (k:Nat)=>Hp M0 w0 S (AE true b0 9 ((l.map (fun t:List UInt8=>[str t])).flatten++sp.map is)::Ac M1 w1::rs)) (fun (k:Nat)=>(1≤k∧k≤len)∧LO (l.take k)=l.take k) (fun (k:Nat)=>len-k) (1)  (⟨⟨by omega,by omega⟩,G8 I2⟩) kz (fun _ _ h=>h) ?_
 rintro k  ⟨⟨hk1,hk2⟩,lB⟩
 refine ac ?_
 refine co rfl (FB rfl underlying51 vq) ?_
 refine an ?_ ?_<;>intro h2 q2
 have S8:k<len:=by have:=of_decide_eq_true h2;omega
 obtain ⟨x,hx⟩:=at_ (l:=l) (k:=k) AA
 obtain ⟨p,hp⟩:=at_ (l:=l) (k:=k-1) AA
 refine a2 ?_
 refine co rfl (AH rfl underlying51 Hs vq vq AA AA) (co rfl (Bi 0 rfl (AW rfl Ge vq (Df (g:=fun t:List UInt8=>str t) (k:=k) AA hx))) ?_)
 refine ac ?_
 refine co rfl (AH rfl underlying51 Hs vq vq AA AA) (co rfl (Bi 0 rfl (AW rfl Ge vq (Df (g:=fun t:List UInt8=>str t) (k:=k-1) AA hp))) ?_)
 refine ac ?_
 refine wk [25,3,0] rfl ?_
 refine Tr.cn rfl ?_ ?_<;>intro h3 q3
 refine ac ?_
 refine co rfl (GY rfl underlying51 Hs vq vq AA AA AA) ?_
 refine a2 ?_
 refine Tr.block (Tr.Gd _ (kk [4,0] rfl) (fun (st:List (List UInt8)) (w:Nat) (j:Nat)=>[(3,int ((w:Nat):Int)),(5,int ((j:Nat):Int))]) (fun (st:List (List UInt8)) (w:Nat) (j:Nat)=>Hp M0 w0 S (AE true b0 9 ((st.map (fun t:List UInt8=>[str t])).flatten++sp.map is)::Ac M1 w1::rs)) (fun (st:List (List UInt8)) (w:Nat) (j:Nat)=>(st.length=len∧k≤w∧1≤j∧k+j≤len∧w+1≤k+j)∧st.take w=LO (l.take (k+j))∧∀i,k+j≤i+1→st[i]? =l[i]?) (fun (st:List (List UInt8)) (w:Nat) (j:Nat)=>len-(k+j)) (l) (k) (1)  (⟨⟨Kr,Nat.le_refl _,Nat.le_refl _,by omega,by omega⟩,by rw [Nk AA hx hp (Iff.rfl.2 BO),lB],fun _ _=>rfl⟩) ⟨kq,kz⟩ (fun _ _ h=>h) ?_)
 rintro st w j  ⟨⟨KV,hw1,j5,hj2,hw2⟩,dG,hst⟩
 refine ac ?_
 refine co rfl (FB rfl underlying51 vq) ?_
 refine an ?_ ?_<;>intro h4 q4
 have hjl:k+j<len:=by have:=of_decide_eq_true h4;omega
 obtain ⟨u,hu⟩:=at_ (l:=l) (k:=k+j) AA
 obtain ⟨v,hv⟩:=at_ (l:=l) (k:=k+j-1) AA
 have hu2:st[k+j]? =some u:=(hst _ AA).trans hu
 have PO:st[k+j-1]? =some v:=(hst _ AA).trans hv
 refine a2 ?_
 refine co rfl (AH rfl underlying51 Hs vq vq AA AA) (co rfl (Bi 0 rfl (AW rfl Ge vq (Df (g:=fun t:List UInt8=>str t) (k:=k+j) AA hu2))) ?_)
 refine ac ?_
 refine co rfl (AH rfl underlying51 Hs vq vq AA AA) (co rfl (Bi 0 rfl (AW rfl Ge vq (Df (g:=fun t:List UInt8=>str t) (k:=k+j-1) AA PO))) ?_)
 refine ac ?_
 refine wk [44,5,4,3,0] rfl ?_
 refine Tr.cn rfl ?_ ?_<;>intro h5 q5
 refine ap ?_
 refine tp rfl (AH rfl underlying51 Hs vq vq AA AA) (TO.rd 0 rfl rfl rfl AD (AW rfl Ge vq (Df (g:=fun t:List UInt8=>str t) (k:=k+j) AA hu2)) (tp rfl (AH rfl underlying51 Hs vq vq AA AA) ?_))
 refine TO.C0 0 rfl rfl (Aq rfl rfl (vl rfl) (Vo rfl) Hs rfl D4 (Rf (f:=(fun t:List UInt8=>[str t])) (fun _=>rfl) AA)) ?_
 refine ap ?_
 refine ac ?_
 refine wk [5,4,3,0] rfl ?_
 refine ac ?_
 exact Fin.DE (st.set w u) (w+1) (j+1)  (⟨⟨⟨by rw [List.length_set];exact KV,by omega,by omega,by omega,by omega⟩,by rw [YX AA,dG];exact (WW (j:=k+j) AA hu hv (fun e=>absurd (Iff.rfl.1 e) BO)).symm,fun i hi=>by rw [List.getElem?_set_ne AA];exact hst i AA⟩,by omega⟩) ⟨⟨_,rfl,AG w⟩,⟨_,rfl,AG j⟩,kz⟩ (fun _ _ h=>h)
 refine a2 ?_
 exact Fin.DE (st) (w) (j+1)  (⟨⟨⟨KV,by omega,by omega,by omega,by omega⟩,dG.trans (Nk (j:=k+j) AA hu hv (Iff.rfl.2 BO)).symm,fun i hi=>hst i AA⟩,by omega⟩) ⟨kq,⟨_,rfl,AG j⟩,kz⟩ (fun _ _ h=>h)
 have hje:k+j=len:=by have:=of_decide_eq_false h4;omega
 have hE:st.take w=LO l:=by rw [dG,hje,←Kr,List.take_length]
 have hW:(LO l).length=w:=by rw [←hE,List.length_take];omega
 refine ac ?_
 refine ap ?_
 refine tp rfl (GY rfl underlying51 Hs vq vq AA AA AA) ?_
 refine TO.C0 0 rfl rfl (XH rfl rfl underlying51 Hs z9 rfl AD AD vq AA D4 (ND (f:=(fun t:List UInt8=>[str t])) (sz:=1) (l:=st) (i:=w) (fun _=>rfl) rfl AA AA)) ?_
 refine ap ?_
 refine ac ?_
 refine co rfl (FP rfl underlying51 Hs vq vq AA AA AA AA) ?_
 refine ac ?_
 refine wk [2] rfl (Tr.ret (Fin.AP (Fin.AF (Fin.AF (Fin.AP (Fin.AF (Fin.ER rfl rfl ?_ (fun _ _ _ _=>by rw [hW,←hE,Kr,←KV,List.append_assoc]))))))))
 · refine Pr.le_of_eq ?_;rw [hW,Int.toNat_natCast]
 refine a2 ?_
 exact Fin.GW (k+1)  (⟨⟨⟨by omega,by omega⟩,by rw [WW AA hx hp (fun e=>absurd (Iff.rfl.1 e) BO),lB,List.take_add_one,hx];rfl⟩,by omega⟩) ⟨⟨_,rfl,AG k⟩,kz⟩ (fun _ _ h=>h)
 have Te:k=len:=by have:=of_decide_eq_false h2;omega
 refine a2 ?_
 refine Tr.ret ?_
 refine Fin.ER rfl rfl ?_ (fun _ _ _ _=>by rw [show LO l=l by rw [Te,←Kr,List.take_length] at lB;exact lB,Nat.sub_self];rfl)
 · exact b_
theorem rR (h0:0<n) (hn:n≤100000):Ba prog 133 [is (.slice none 0 0),int ((n:Nat):Int)] (lens 0) (Bo) (fun v=>BX 9 1 [] v):=by
 refine Ba.of func133 rfl rfl Am fun M0 w0 S rs M1 w1=> ?_
 refine ac ?_
 refine an ?_ ?_<;>intro h1 q1
 exfalso;omega
 refine a2 ?_
 refine co rfl (GH rfl underlying51 vq) (cm rfl (co rfl (GI rfl underlying51 vq) ?_))
 refine ac ?_
 refine an ?_ ?_<;>intro h2 q2
 refine ap ?_
 refine tp rfl (GH rfl underlying51 vq) (tp rfl (KC rfl underlying51 Hs vq vq) (tm rfl (TO.pad ?_)))
 refine TO.C1 0 rfl rfl AD (L9 rfl rfl AD rfl underlying51 underlying3 Hs by9 z9 rfl AD AD vq vq (m:=n) AA h0 Fa AA) (fun v1=> ?_)
 refine TO.mY 0 22 rfl rfl (fun b1 YZ sp1 hg1 hm1 hs1=> ?_)
 refine tm rfl (tp rfl (GI rfl underlying51 vq) (tp rfl (FP rfl underlying51 Hs vq vq AA AA AA AA) ?_))
 refine ap ?_
 refine wk [0] rfl ?_
 refine ac ?_
 refine Tr.ret ?_
 refine Fin.L_ (sz:=1) (rows:=([]:List (List Pr))) (m:=0) (sp:=sp1) 0 rfl rfl (Nat.zero_le _) hm1 (by rw [hs1];rfl) ?_
 refine Fin.drop 1 ?_
 refine Fin.ER rfl rfl ?_ Ms
 · rintro _ _ _ rfl;exact ⟨_,_,rfl⟩
 exfalso;omega
theorem bP {ss:List (List (List UInt8))} (h0:0<ss.flatten.length) (hn:ss.flatten.length≤100000):Ba prog 79 [slice 1 (ss.map fun a=>[slice 1 (a.map (fun t:List UInt8=>[str t]))])] (lens (ss.flatten.map (fun t:List UInt8=>[str t])).length) (Bo) (fun v=>HJ 9 1 (ss.flatten.map (fun t:List UInt8=>[str t])) v):=by
 refine Ba.of func79 rfl rfl Am fun M0 w0 S rs M1 w1=> ?_
 refine Tr.CN 0 rfl fun C3=> ?_
 refine a3 ?_
 refine Tr.block (Tr.A0 _ (kk [10,9,0] rfl) (fun k:Nat=>[(11,int ((k:Nat):Int)),(3,int (((ss.take k).flatten.length:Nat):Int))]) (fun k:Nat=>k≤(ss).length) (fun k:Nat=>(ss).length-k) 0 (Nat.zero_le _) ⟨kq,⟨_,rfl,int_eq AR⟩,trivial⟩ ?_)
 rintro k BN
 refine ac ?_
 refine Tr.seq ?_
 refine Tr.cn rfl ?_ ?_<;>intro h1 q1
 have Ae:k<(ss).length:=AJ h1
 obtain ⟨x,Af⟩:=at_ Ae
 have hft:=Iu Af
 have hfl:=Fu ss (k+1)
 rw [hft,List.length_append] at hfl
 refine ac ?_
 refine Tr.seq (Tr.block (Tr.seq (Tr.Bq (co rfl (AB rfl underlying165 lu vq vq AA Bk) ?_))))
 · exact kU
 have BC:k=(ss).length:=by have:=AK h1;omega
 subst BC
 rw [List.take_length]
 refine ac ?_
 refine ap ?_
 refine TO.pad ?_
 refine TO.C1 0 rfl rfl AD (FA rfl rfl AD rfl (rR (n:=ss.flatten.length) h0 hn) ⟨kq,kz⟩) (fun v1=> ?_)
 refine ap ?_
 refine ac ?_
 refine Tr.block (Tr.J6 _ (kk [26,25] rfl) (fun (m:Nat) v=>[(27,int ((m:Nat):Int)),(6,Ag v (lens (((ss.take m).flatten.map (fun t:List UInt8=>[str t]))).length))]) (fun (m:Nat) v=>Hp M0 w0 S (BX 9 1 (((ss.take m).flatten.map (fun t:List UInt8=>[str t]))) v::Bo::Ac M1 w1::rs)) (fun (m:Nat)=>m≤ss.length) (fun (m:Nat)=>ss.length-m) (0) v1 (Nat.zero_le _) ⟨kq,⟨_,rfl,Ci (by rfl)⟩,trivial⟩ (fun _ _ h=>h) ?_)
 rintro m v hml
 refine ac ?_
 refine Tr.seq ?_
 refine Tr.cn rfl ?_ ?_<;>intro h3 q3
 have hm2:m<ss.length:=AJ h3
 obtain ⟨x,Dn⟩:=at_ hm2
 have hft:=Iu Dn
 have hfl:=Fu ss (m+1)
 rw [hft,List.length_append] at hfl
 refine ac ?_
 refine Tr.seq (Tr.block (Tr.seq (Tr.Bq (co rfl (AB rfl underlying165 lu vq vq AA Bk) ?_))))
 refine ac ?_
 refine ap ?_
 refine TO.C1 0 rfl rfl AD (Rs rfl rfl AD rfl underlying51 Hs by9 z9 rfl AD AD vq vq (Bh fun _=>rfl) N0 Ko) (fun v2=> ?_)
 refine ap ?_
 refine ac ?_
 exact Fin.K0 (m+1) v2 (⟨by omega,by omega⟩) ⟨⟨_,rfl,AG m⟩,⟨_,rfl,Ci (by rw [hft,List.map_append,List.length_append])⟩,kz⟩ ((by rw [hft,List.map_append];exact fun _ _ h=>h))
 obtain rfl:m=ss.length:=(by have:=AK h3;omega)
 rw [List.take_length]
 refine a2 ?_
 refine Tr.ret ?_
 refine Fin.yt 0 rfl bp ?_
 refine Fin.drop 1 ?_
 refine Fin.ER rfl rfl ?_ Pu
 · exact GS
abbrev EF:List UInt8:=[97,112,112]
abbrev ssA:List (List (List UInt8)):=[[],[EF],[EF]]
theorem jc {a:List UInt8}  :A_ prog 242 [str a] (bool false):=by
 refine fo func242 rfl ⟨rfl,rfl⟩ fun M0 w0=> ?_
 refine a3 ?_
 · refine bool_eq ?_;simp_all
theorem rS   :A_ prog 200 [str EF,str EF] (bool false):=by
 refine fo func200 rfl ⟨rfl,rfl⟩ fun M0 w0=> ?_
 refine a2 ?_
 refine co rfl (CE (jc) rfl rfl) (cm rfl ?_)
 refine Ch.cs 7 rfl ?_ ?_<;>intro h1 q1
 exact absurd h1 AD
 refine ac ?_
 refine cy rfl rfl (AAb rfl vq vq) ?_
 refine ac ?_
 refine wk [4] rfl ?_
 refine ac ?_
 · exact bool_eq AD
theorem xe {b0 len:Nat} (h2:len=2) (hg:len≤cap) (hm:cap≤maxLen):Ba prog 194 [is (.slice (some ⟨b0,0,none⟩) len cap),int 0,int ((len:Nat):Int)] (Ey) (AE true b0 9 (([EF,EF].map (fun t:List UInt8=>[str t])).flatten++sp.map is)) (fun _=>AE true b0 9 (([EF,EF].map (fun t:List UInt8=>[str t])).flatten++sp.map is)):=by
 refine Ba.of func194 rfl rfl Am fun M0 w0 S rs M1 w1=> ?_
 have hmx:cap≤9223372036854775807:=by unfold maxLen at hm;omega
 refine ac ?_
 refine Tr.block (Tr.E5 _ (kk [2,1,0] rfl) (fun (i:Nat)=>[(6,int ((i:Nat):Int))]) (fun (i:Nat)=>Hp M0 w0 S (AE true b0 9 (([EF,EF].map (fun t:List UInt8=>[str t])).flatten++sp.map is)::Ac M1 w1::rs)) (fun (i:Nat)=>1≤i∧i≤2) (fun (i:Nat)=>2-i) (1)  (⟨by omega,by omega⟩) ⟨⟨_,rfl,int_eq AA⟩,trivial⟩ (fun _ _ h=>h) ?_)
 rintro i  ⟨hi1,hi2⟩
 refine an ?_ ?_<;>intro h1 q1
 have hi:i=1:=by have:=of_decide_eq_true h1;omega
 refine a2 ?_
 refine Tr.block (Tr.E5 _ (kk [6,2,1,0] rfl) (fun (j:Nat)=>[(7,int ((j:Nat):Int))]) (fun (j:Nat)=>Hp M0 w0 S (AE true b0 9 (([EF,EF].map (fun t:List UInt8=>[str t])).flatten++sp.map is)::Ac M1 w1::rs)) (fun (j:Nat)=>j=i) (fun (j:Nat)=>0) (i)  (rfl) kz (fun _ _ h=>h) ?_)
 rintro j  hj
 refine ag ?_ ?_<;>intro h2 q2
 refine ac ?_
 refine cy h2 rfl (AH rfl underlying51 Hs vq vq AA AA) (cy h2 rfl (Bi 0 rfl (AW rfl Ge vq (Df (g:=fun t:List UInt8=>str t) (k:=1) AA (x:=EF) rfl))) ?_)
 refine ac ?_
 refine cy h2 rfl (AH rfl underlying51 Hs vq vq AA AA) (cy h2 rfl (Bi 0 rfl (AW rfl Ge vq (Df (g:=fun t:List UInt8=>str t) (k:=0) AA (x:=EF) rfl))) (cy h2 rfl (Bu (rS) rfl rfl rfl) ?_))
 refine ac ?_
 refine wk [30,7,6,2,1,0] rfl ?_
 refine Tr.cn rfl ?_ ?_<;>intro h3 q3
 exact absurd h3 AR
 have:=h3
 refine a2 ?_
 exact Fin.GW (i+1)  (⟨⟨by omega,by omega⟩,by omega⟩) ⟨⟨_,rfl,AG i⟩,kz⟩ (fun _ _ h=>h)
 exfalso;have:=q2;omega
 have:=h1
 refine Tr.exit (Fin.Ai (Fin.Ai (Fin.BB (Fin.NB rfl))))
theorem xg {b0 len:Nat} (h2:len=2) (hg:len≤cap) (hm:cap≤maxLen):Ba prog 134 [is (.slice (some ⟨b0,0,none⟩) len cap),int 0,int ((len:Nat):Int),any] (Ey) (AE true b0 9 (([EF,EF].map (fun t:List UInt8=>[str t])).flatten++sp.map is)) (fun _=>AE true b0 9 (([EF,EF].map (fun t:List UInt8=>[str t])).flatten++sp.map is)):=by
 refine Ba.of func134 rfl rfl Am fun M0 w0 S rs M1 w1=> ?_
 refine a2 ?_
 refine Tr.block (Tr.E5 _ (kk [0] rfl) (fun (u:Nat)=>[(1,int 0),(2,int ((len:Nat):Int))]) (fun (u:Nat)=>Hp M0 w0 S (AE true b0 9 (([EF,EF].map (fun t:List UInt8=>[str t])).flatten++sp.map is)::Ac M1 w1::rs)) (fun (u:Nat)=>True) (fun (u:Nat)=>0) (0)  (trivial) ⟨kq,kz⟩ (fun _ _ h=>h) ?_)
 rintro u  _
 refine ac ?_
 refine an ?_ ?_<;>intro h1 q1
 refine ap ?_
 refine TO.FL 0 rfl rfl AD (Ak rfl rfl AD rfl (xe h2 hg hm) ⟨kq,kz⟩) ?_
 refine ap ?_
 refine Tr.ret (Fin.AF (Fin.AP (Fin.AF (Fin.AP (Fin.L8 rfl)))))
 exfalso;have:=q1;omega
theorem rT {b0 len:Nat} (h2:len=2) (hg:len≤cap) (hm:cap≤maxLen):Ba prog 80 [is (.slice (some ⟨b0,0,none⟩) len cap)] (Ey) (AE true b0 9 (([EF,EF].map (fun t:List UInt8=>[str t])).flatten++sp.map is)) (fun _=>AE true b0 9 (([EF,EF].map (fun t:List UInt8=>[str t])).flatten++sp.map is)):=by
 refine Ba.of func80 rfl rfl Am fun M0 w0 S rs M1 w1=> ?_
 have AKc:IntKind.u64.wrap ((len:Nat):Int)=len:=IntWalk.u64_in _ ⟨by omega,by omega⟩
 refine ac ?_
 refine co rfl (FB rfl underlying51 vq) ?_
 refine ac ?_
 refine ap ?_
 refine tp rfl (Cr rfl underlying3 underlying201 vq) (tp rfl (CE (Nj AA AA) rfl rfl) (TO.FL 0 rfl rfl AD (Ak rfl rfl AD rfl (xg h2 hg hm) ⟨kq,kq,kq,⟨_,rfl,Q5 _⟩,trivial⟩) (TO.nil (Fin.NB rfl))))
theorem bQ   :A_ prog 39 [slice 1 (ssA.map fun a=>[slice 1 (a.map (fun t:List UInt8=>[str t]))])] (slice 1 ([EF].map (fun t:List UInt8=>[str t]))):=by
 refine fo func39 rfl ⟨rfl,rfl⟩ fun M0 w0=> ?_
 refine ac ?_
 refine ap ?_
 refine TO.pad ?_
 refine TO.C1 0 rfl rfl AD (FA rfl rfl AD rfl (bP (ss:=ssA) AD AD) kz) (fun v1=> ?_)
 refine TO.Oy 0 rfl fun b1 YZ sp1 TI hg1 hm1 hs1=> ?_
 subst TI
 refine ap ?_
 refine ap ?_
 refine TO.FL 0 rfl rfl AD (Ak rfl rfl AD rfl (rT (len:=(ssA.flatten.map (fun t:List UInt8=>[str t])).length) (sp:=sp1) rfl hg1 hm1) ⟨Gi,trivial⟩) ?_
 refine ap ?_
 refine ap ?_
 refine TO.FL 0 rfl rfl AD (Ak rfl rfl AD rfl (rQ (l:=[EF,EF]) (len:=(ssA.flatten.map (fun t:List UInt8=>[str t])).length) (sp:=sp1) rfl AD hg1 hm1) ⟨Gi,trivial⟩) ?_
 refine ap ?_
 refine Tr.ret ?_
 refine Fin.Vc (sz:=1) ([EF].map (fun t:List UInt8=>[str t])) 0 2 rfl rfl Lr (Bh fun _=>rfl) (by have h_:=hg1;simp only [List.length_map] at h_ ⊢;exact Nat.le_trans AD h_) hm1 (by have h_:2≤YZ:=hg1;have e_:sp1.length=(YZ-2)*1:=hs1;rw [List.length_append,List.length_map,e_];show 1+(YZ-2)*1=(YZ-1)*1;omega) ?_
 refine Fin.tI rfl (Bt.Dx _ _) rfl ?_
 · exact GS
theorem C4 {a b:Int} {c:Int×Int→Int} (hc:∀x y,c (x,y)=DB x y):A_ prog 167 [int a,int b] (bool (decide (c (a,b)<0))):=by
 refine fo func167 rfl ⟨rfl,rfl⟩ fun M0 w0=> ?_
 · repeat' first|exact absurd h AD|(refine bool_eq ?_;rw [decide_eq_decide,hc];unfold DB;split<;>(try split)<;>omega)|refine co rfl (CE (XS) rfl rfl) (cm rfl ?_)|refine ac ?_|(refine Ch.cg rfl rfl rfl ?_ ?_<;>intro h q)
theorem rU {l:List (Int)} {c:Int×Int→Int} {b0 len:Nat} {a b:Int} (hc:∀x y,c (x,y)=DB x y) (Kr:l.length=len) (II:len≤1000000) (hw:Go.Sort.SWO (Ct c)) (h0:0≤a) (hab:a≤b) (hb:b≤len):Ba prog 161 [is (.slice (some ⟨b0,0,none⟩) len cap),int a,int b] (Ey) (AE true b0 3 ((l.map (fun t:Int=>[int t])).flatten++sp.map is)) (fun _=>C5 b0 3 (fun t:Int=>[int t]) (Gh c a b l) (sp.map is)):=by
 refine Ba.of func161 rfl rfl Am fun M0 w0 S rs M1 w1=> ?_
 refine ac ?_
 refine Tr.block (Tr.CM _ (kk [2,1,0] rfl) (fun (i:Int) (st:List (Int))=>[(6,int i)]) (fun (i:Int) (st:List (Int))=>Hp M0 w0 S (AE true b0 3 ((st.map (fun t:Int=>[int t])).flatten++sp.map is)::Ac M1 w1::rs)) (fun (i:Int) (st:List (Int))=>a<i∧st.length=len∧Go.Sort.insOuter (Ct c) a.toNat b.toNat i.toNat st.toArray=Go.Sort.insertionSort (Ct c) l.toArray a.toNat b.toNat) (fun (i:Int) (st:List (Int))=>(b-i).toNat) (a+1) (l)  (⟨by omega,by omega,Zc h0⟩) kz (fun _ _ h=>h) ?_)
 rintro i st  ⟨hi1,KV,Jg⟩
 refine an ?_ ?_<;>intro h1 q1
 have hib:i<b:=of_decide_eq_true h1
 refine a2 ?_
 refine Tr.block (Tr.CM _ (kk [6,2,1,0] rfl) (fun (j:Int) (Ns:List (Int))=>[(7,int j)]) (fun (j:Int) (Ns:List (Int))=>Hp M0 w0 S (AE true b0 3 ((Ns.map (fun t:Int=>[int t])).flatten++sp.map is)::Ac M1 w1::rs)) (fun (j:Int) (Ns:List (Int))=>(a≤j∧j≤i)∧Ns.length=len∧Go.Sort.insInner (Ct c) a.toNat j.toNat Ns.toArray=Go.Sort.insInner (Ct c) a.toNat i.toNat st.toArray) (fun (j:Int) (Ns:List (Int))=>(j-a).toNat) (i) (st)  (⟨⟨by omega,by omega⟩,KV,rfl⟩) kz (fun _ _ h=>h) ?_)
 rintro j Ns  ⟨⟨j5,hj2⟩,rV,bR⟩
 refine ag ?_ ?_<;>intro h2 q2
 refine ac ?_
 refine cy h2 rfl (AH rfl underlying22 BJ vq vq AA AA) (cy h2 rfl (Bi 0 rfl (AW rfl BT vq (Aj (g:=(fun t:Int=>int t)) AA))) ?_)
 refine ac ?_
 refine cy h2 rfl (AH rfl underlying22 BJ vq vq AA AA) (cy h2 rfl (Bi 0 rfl (AW rfl BT vq (Aj (g:=(fun t:Int=>int t)) AA))) (cy h2 rfl (Bu (C4 hc) rfl rfl rfl) ?_))
 refine ac ?_
 refine wk [30,7,6,2,1,0] rfl ?_
 refine Tr.cn rfl ?_ ?_<;>intro h3 q3
 have:=h3
 refine ac ?_
 refine Tr.seq (Tr.block (Tr.rx ?_))
 refine ay ?_
 refine xo rfl (fun _=>AH rfl underlying22 BJ vq vq AA AA) (GV 0 rfl rfl (AW rfl BT vq (Aj (g:=(fun t:Int=>int t)) AA)) ?_)
 refine ay ?_
 refine xo rfl (fun _=>AH rfl underlying22 BJ vq vq AA AA) (GV 0 rfl rfl (AW rfl BT vq (Aj (g:=(fun t:Int=>int t)) AA)) (xo rfl (fun _=>AH rfl underlying22 BJ vq vq AA AA) ?_))
 refine Cx.C0 0 rfl rfl (Aq rfl rfl (vl rfl) (Vo rfl) BJ rfl D4 (BL (f:=(fun t:Int=>[int t])) (fun _=>rfl) AA)) ?_
 refine xo rfl (fun _=>AH rfl underlying22 BJ vq vq AA AA) ?_
 refine Cx.C0 0 rfl rfl (Aq rfl rfl vq Ce BJ rfl FW (BL (f:=(fun t:Int=>[int t])) (fun _=>rfl) Ez)) ?_
 refine Cx.nil ⟨by kernel_rfl,?_⟩
 refine BE.done Mk ?_
 refine ac ?_
 refine wk [7,6,2,1,0] rfl ?_
 refine ac ?_
 exact Fin.CC (j-1) (_)  (⟨⟨⟨by omega,by omega⟩,by simp only [List.length_set];exact rV,by rw [AAh h0 AA rfl AA AA BO];exact bR⟩,by omega⟩) ⟨kq,kz⟩ (fun _ _ h=>h)
 have:=h3
 refine a2 ?_
 have AB2:Ns.toArray=Go.Sort.insInner (Ct c) a.toNat j.toNat Ns.toArray:=by exact gX h0 AA rfl AA AA (Int.not_lt.2 BO)
 exact Fin.CC (i+1) (Ns)  (⟨⟨by omega,rV,by rw [←Jg,←dx AA hib,←bR];exact congrArg _ AB2⟩,by omega⟩) ⟨kq,kz⟩ (fun _ _ h=>h)
 refine ac ?_
 refine wk [30,7,6,2,1,0] rfl ?_
 refine a2 ?_
 have AB2:Ns.toArray=Go.Sort.insInner (Ct c) a.toNat j.toNat Ns.toArray:=by exact gW h0 AA
 exact Fin.CC (i+1) (Ns)  (⟨⟨by omega,rV,by rw [←Jg,←dx AA hib,←bR];exact congrArg _ AB2⟩,by omega⟩) ⟨kq,kz⟩ (fun _ _ h=>h)
 have hib:¬i<b:=of_decide_eq_false h1
 rw [gY AA hib] at Jg
 refine Tr.exit (Fin.Ai (Fin.Ai (Fin.BB ?_)))
 refine Fin.C6 (Gh c a b l) 0 rfl (by unfold Gh;rw [Jg];exact Go.Sort.insertionSort_holds hw l.toArray a.toNat b.toNat AA (by simp only [List.size_toArray];omega)) ?_
 exact Fin.NB rfl
theorem Ui {l:List (Int)} {c:Int×Int→Int} {b0 len:Nat} {lo hi first:Int} (hc:∀x y,c (x,y)=DB x y) (Kr:l.length=len) (II:len≤1000000) (h0:0≤lo) (hlo:lo≤len) (hf:0≤first) (hb:first+hi≤len):Ba prog 221 [is (.slice (some ⟨b0,0,none⟩) len cap),int lo,int hi,int first] (Ey) (AE true b0 3 ((l.map (fun t:Int=>[int t])).flatten++sp.map is)) (fun _=>C5 b0 3 (fun t:Int=>[int t]) (Ro c hi first lo l) (sp.map is)):=by
 refine Ba.of func221 rfl rfl Am fun M0 w0 S rs M1 w1=> ?_
 refine ac ?_
 refine Tr.block (Tr.CM _ (kk [3,2,0] rfl) (fun (r:Int) (st:List (Int))=>[(8,int r)]) (fun (r:Int) (st:List (Int))=>Hp M0 w0 S (AE true b0 3 ((st.map (fun t:Int=>[int t])).flatten++sp.map is)::Ac M1 w1::rs)) (fun (r:Int) (st:List (Int))=>(0≤r∧r≤1000000)∧st.length=len∧Go.Sort.siftDown (Ct c) hi.toNat first.toNat r.toNat st.toArray=Go.Sort.siftDown (Ct c) hi.toNat first.toNat lo.toNat l.toArray) (fun (r:Int) (st:List (Int))=>(hi-r).toNat) (lo) (l)  (⟨⟨by omega,by omega⟩,by omega,rfl⟩) kz (fun _ _ h=>h) ?_)
 rintro r st  ⟨⟨h0r,hr2⟩,KV,Jg⟩
 refine Tr.block (Tr.seq (Tr.Bq (cm rfl ?_)))
 refine co rfl (J2 rfl (vl rfl) (vl rfl) ?hin) ?_;case hin=>unfold Oj;omega
 refine ac ?_
 refine ac ?_
 refine Tr.cn rfl ?_ ?_<;>intro h1 q1
 refine Tr.exit (Fin.Ai (Fin.My rfl (Fin.Ai (Fin.BB ?_))))
 refine Fin.C6 (Ro c hi first lo l) 0 rfl (⟨by omega,by rw [←Jg];exact mN AA AA⟩) ?_
 exact Fin.NB rfl
 refine ac ?_
 refine ac ?_
 refine Ch.cs 21 rfl ?_ ?_<;>intro h2 q2
 refine ac ?_
 refine cy h2 rfl (AH rfl underlying22 BJ (vl rfl) (vl rfl) AA AA) (cy h2 rfl (Bi 0 rfl (AW rfl BT (vl rfl) (Aj (g:=(fun t:Int=>int t)) AA))) ?_)
 refine ac ?_
 refine cy h2 rfl (AH rfl underlying22 BJ (vl rfl) (vl rfl) AA AA) (cy h2 rfl (Bi 0 rfl (AW rfl BT (vl rfl) (Aj (g:=(fun t:Int=>int t)) AA))) (cy h2 rfl (Bu (C4 hc) rfl rfl rfl) ?_))
 refine ac ?_
 refine wk [36,9,8,3,2,0] rfl ?_
 refine Tr.cn rfl ?_ ?_<;>intro h3 q3
 refine ac ?_
 refine ac ?_
 refine co rfl (AH rfl underlying22 BJ (vl rfl) (vl rfl) AA AA) (co rfl (Bi 0 rfl (AW rfl BT (vl rfl) (Aj (g:=(fun t:Int=>int t)) AA))) ?_)
 refine ac ?_
 refine co rfl (AH rfl underlying22 BJ (vl rfl) (vl rfl) AA AA) (co rfl (Bi 0 rfl (AW rfl BT (vl rfl) (Aj (g:=(fun t:Int=>int t)) AA))) (co rfl (Bu (C4 hc) rfl rfl rfl) ?_))
 refine ac ?_
 refine wk [52,9,8,3,2,0] rfl ?_
 refine Tr.cn rfl ?_ ?_<;>intro h4 q4
 refine Tr.ret (Fin.AF (Fin.AP (Fin.AF (Fin.AP ?_))))
 refine Fin.C6 (Ro c hi first lo l) 0 rfl (⟨by omega,by rw [←Jg];exact Zd h0r hf AA (u:=first+(2*r+1)) (v:=first+(2*r+1)+1) rfl rfl AA AA BO (x:=first+r) (y:=first+(2*r+1+1)) rfl rfl AA AA (Int.not_lt.2 BO)⟩) ?_
 exact Fin.L8 rfl
 refine ac ?_
 refine Tr.seq (Tr.rx ?_)
 refine ay ?_
 refine xo rfl (fun _=>AH rfl underlying22 BJ (vl rfl) (vl rfl) AA AA) (GV 0 rfl rfl (AW rfl BT (vl rfl) (Aj (g:=(fun t:Int=>int t)) AA)) ?_)
 refine ay ?_
 refine xo rfl (fun _=>AH rfl underlying22 BJ (vl rfl) (vl rfl) AA AA) (GV 0 rfl rfl (AW rfl BT (vl rfl) (Aj (g:=(fun t:Int=>int t)) AA)) (xo rfl (fun _=>AH rfl underlying22 BJ (vl rfl) (vl rfl) AA AA) ?_))
 refine Cx.C0 0 rfl rfl (Aq rfl rfl (vl rfl) (Vo rfl) BJ rfl D4 (BL (f:=(fun t:Int=>[int t])) (fun _=>rfl) AA)) ?_
 refine xo rfl (fun _=>AH rfl underlying22 BJ (vl rfl) (vl rfl) AA AA) ?_
 refine Cx.C0 0 rfl rfl (Aq rfl rfl (vl rfl) (Vo rfl) BJ rfl FW (BL (f:=(fun t:Int=>[int t])) (fun _=>rfl) Ez)) ?_
 refine Cx.nil ⟨by kernel_rfl,?_⟩
 refine BE.done Mk (Fin.go (wk [9,3,2,0] rfl ?_))
 refine ac ?_
 exact Fin.CC (2*r+1+1) (_)  (⟨⟨⟨by omega,by omega⟩,by simp only [List.length_set];exact KV,by rw [←Jg];exact mP h0r hf AA (u:=first+(2*r+1)) (v:=first+(2*r+1)+1) rfl rfl AA AA BO AA AA AA AA BO⟩,by omega⟩) ⟨ke rfl,kz⟩ (fun _ _ h=>h)
 refine ac ?_
 refine ac ?_
 refine co rfl (AH rfl underlying22 BJ (vl rfl) (vl rfl) AA AA) (co rfl (Bi 0 rfl (AW rfl BT (vl rfl) (Aj (g:=(fun t:Int=>int t)) AA))) ?_)
 refine ac ?_
 refine co rfl (AH rfl underlying22 BJ (vl rfl) (vl rfl) AA AA) (co rfl (Bi 0 rfl (AW rfl BT (vl rfl) (Aj (g:=(fun t:Int=>int t)) AA))) (co rfl (Bu (C4 hc) rfl rfl rfl) ?_))
 refine ac ?_
 refine wk [52,9,8,3,2,0] rfl ?_
 refine Tr.cn rfl ?_ ?_<;>intro h5 q5
 refine Tr.ret (Fin.AF (Fin.AP (Fin.AF (Fin.AP ?_))))
 refine Fin.C6 (Ro c hi first lo l) 0 rfl (⟨by omega,by rw [←Jg];exact XK h0r hf AA (u:=first+(2*r+1)) (v:=first+(2*r+1)+1) rfl rfl AA AA (Int.not_lt.2 BO) (x:=first+r) (y:=first+(2*r+1)) rfl rfl AA AA (Int.not_lt.2 BO)⟩) ?_
 exact Fin.L8 rfl
 refine ac ?_
 refine Tr.seq (Tr.rx ?_)
 refine ay ?_
 refine xo rfl (fun _=>AH rfl underlying22 BJ (vl rfl) (vl rfl) AA AA) (GV 0 rfl rfl (AW rfl BT (vl rfl) (Aj (g:=(fun t:Int=>int t)) AA)) ?_)
 refine ay ?_
 refine xo rfl (fun _=>AH rfl underlying22 BJ (vl rfl) (vl rfl) AA AA) (GV 0 rfl rfl (AW rfl BT (vl rfl) (Aj (g:=(fun t:Int=>int t)) AA)) (xo rfl (fun _=>AH rfl underlying22 BJ (vl rfl) (vl rfl) AA AA) ?_))
 refine Cx.C0 0 rfl rfl (Aq rfl rfl (vl rfl) (Vo rfl) BJ rfl D4 (BL (f:=(fun t:Int=>[int t])) (fun _=>rfl) AA)) ?_
 refine xo rfl (fun _=>AH rfl underlying22 BJ (vl rfl) (vl rfl) AA AA) ?_
 refine Cx.C0 0 rfl rfl (Aq rfl rfl (vl rfl) (Vo rfl) BJ rfl FW (BL (f:=(fun t:Int=>[int t])) (fun _=>rfl) Ez)) ?_
 refine Cx.nil ⟨by kernel_rfl,?_⟩
 refine BE.done Mk (Fin.go (wk [9,3,2,0] rfl ?_))
 refine ac ?_
 exact Fin.CC (2*r+1) (_)  (⟨⟨⟨by omega,by omega⟩,by simp only [List.length_set];exact KV,by rw [←Jg];exact ga h0r hf AA (u:=first+(2*r+1)) (v:=first+(2*r+1)+1) rfl rfl AA AA (Int.not_lt.2 BO) AA AA AA AA BO⟩,by omega⟩) ⟨ke rfl,kz⟩ (fun _ _ h=>h)
 refine ac ?_
 refine wk [36,9,8,3,2,0] rfl ?_
 refine ac ?_
 refine ac ?_
 refine co rfl (AH rfl underlying22 BJ (vl rfl) (vl rfl) AA AA) (co rfl (Bi 0 rfl (AW rfl BT (vl rfl) (Aj (g:=(fun t:Int=>int t)) AA))) ?_)
 refine ac ?_
 refine co rfl (AH rfl underlying22 BJ (vl rfl) (vl rfl) AA AA) (co rfl (Bi 0 rfl (AW rfl BT (vl rfl) (Aj (g:=(fun t:Int=>int t)) AA))) (co rfl (Bu (C4 hc) rfl rfl rfl) ?_))
 refine ac ?_
 refine wk [52,9,8,3,2,0] rfl ?_
 refine Tr.cn rfl ?_ ?_<;>intro h6 q6
 refine Tr.ret (Fin.AF (Fin.AP (Fin.AF (Fin.AP ?_))))
 refine Fin.C6 (Ro c hi first lo l) 0 rfl (⟨by omega,by rw [←Jg];exact XJ h0r hf AA AA (x:=first+r) (y:=first+(2*r+1)) rfl rfl AA AA (Int.not_lt.2 BO)⟩) ?_
 exact Fin.L8 rfl
 refine ac ?_
 refine Tr.seq (Tr.rx ?_)
 refine ay ?_
 refine xo rfl (fun _=>AH rfl underlying22 BJ (vl rfl) (vl rfl) AA AA) (GV 0 rfl rfl (AW rfl BT (vl rfl) (Aj (g:=(fun t:Int=>int t)) AA)) ?_)
 refine ay ?_
 refine xo rfl (fun _=>AH rfl underlying22 BJ (vl rfl) (vl rfl) AA AA) (GV 0 rfl rfl (AW rfl BT (vl rfl) (Aj (g:=(fun t:Int=>int t)) AA)) (xo rfl (fun _=>AH rfl underlying22 BJ (vl rfl) (vl rfl) AA AA) ?_))
 refine Cx.C0 0 rfl rfl (Aq rfl rfl (vl rfl) (Vo rfl) BJ rfl D4 (BL (f:=(fun t:Int=>[int t])) (fun _=>rfl) AA)) ?_
 refine xo rfl (fun _=>AH rfl underlying22 BJ (vl rfl) (vl rfl) AA AA) ?_
 refine Cx.C0 0 rfl rfl (Aq rfl rfl (vl rfl) (Vo rfl) BJ rfl FW (BL (f:=(fun t:Int=>[int t])) (fun _=>rfl) Ez)) ?_
 refine Cx.nil ⟨by kernel_rfl,?_⟩
 refine BE.done Mk (Fin.go (wk [9,3,2,0] rfl ?_))
 refine ac ?_
 exact Fin.CC (2*r+1) (_)  (⟨⟨⟨by omega,by omega⟩,by simp only [List.length_set];exact KV,by rw [←Jg];exact gZ h0r hf AA AA AA AA AA AA BO⟩,by omega⟩) ⟨ke rfl,kz⟩ (fun _ _ h=>h)
theorem jd {l:List (Int)} {c:Int×Int→Int} {b0 len:Nat} {a b:Int} (hc:∀x y,c (x,y)=DB x y) (Kr:l.length=len) (II:len≤1000000) (hw:Go.Sort.SWO (Ct c)) (h0:0≤a) (hab:a≤b) (hb:b≤len):Ba prog 162 [is (.slice (some ⟨b0,0,none⟩) len cap),int a,int b] (Ey) (AE true b0 3 ((l.map (fun t:Int=>[int t])).flatten++sp.map is)) (fun _=>C5 b0 3 (fun t:Int=>[int t]) (Gh c a b l) (sp.map is)):=by
 refine Ba.of func162 rfl rfl Am fun M0 w0 S rs M1 w1=> ?_
 have hq:IntKind.i64.wrap ((b-a-1).tdiv 2)=(((b.toNat-a.toNat-1)/2:Nat):Int):=gh AA AA AA
 iterate 4 refine ac ?_
 refine co rfl (F7 rfl (vl rfl) (vl rfl) AA) ?_
 refine ac ?_
 refine Tr.block (Tr.CM _ (kk [8,7,6,0] rfl) (fun (i:Int) (st:List (Int))=>[(9,int i)]) (fun (i:Int) (st:List (Int))=>Hp M0 w0 S (AE true b0 3 ((st.map (fun t:Int=>[int t])).flatten++sp.map is)::Ac M1 w1::rs)) (fun (i:Int) (st:List (Int))=>(-1≤i∧i≤b-a)∧st.length=len∧Go.Sort.heapBuild (Ct c) (b-a).toNat a.toNat (i+1).toNat st.toArray=Go.Sort.heapBuild (Ct c) (b-a).toNat a.toNat ((b.toNat-a.toNat-1)/2+1) l.toArray) (fun (i:Int) (st:List (Int))=>(i+1).toNat) ((((b.toNat-a.toNat-1)/2:Nat):Int)) (l)  (⟨⟨by omega,by omega⟩,by omega,by rw [show ((((b.toNat-a.toNat-1)/2:Nat):Int)+1).toNat=(b.toNat-a.toNat-1)/2+1 by omega]⟩) ⟨⟨_,rfl,int_eq hq⟩,trivial⟩ (fun _ _ h=>h) ?_)
 rintro i st  ⟨⟨hi1,hi2⟩,KV,Jg⟩
 refine an ?_ ?_<;>intro h1 q1
 have hib:0≤i:=of_decide_eq_true h1
 refine ac ?_
 refine ap ?_
 refine TO.FL 0 rfl rfl AD (Ak rfl rfl AD rfl (Ui hc AA AA AA AA AA AA) ⟨ke rfl,ke rfl,ke rfl,ke rfl,trivial⟩) (TO.Eg 0 rfl fun t1 Mj=> ?_)
 have je:=Mj.len
 refine ap ?_
 refine ac ?_
 exact Fin.CC (i-1) (t1)  (⟨⟨⟨by omega,by omega⟩,by omega,by rw [Mj.2];exact (mQ hib).trans Jg⟩,by omega⟩) ⟨ke rfl,kz⟩ (fun _ _ h=>h)
 have hib:¬0≤i:=of_decide_eq_false h1
 rw [gb hib] at Jg
 refine a2 ?_
 refine Tr.block (Tr.CM _ (kk [7,6,0] rfl) (fun (i2:Int) (Ns:List (Int))=>[(10,int i2)]) (fun (i2:Int) (Ns:List (Int))=>Hp M0 w0 S (AE true b0 3 ((Ns.map (fun t:Int=>[int t])).flatten++sp.map is)::Ac M1 w1::rs)) (fun (i2:Int) (Ns:List (Int))=>(-1≤i2∧i2<b-a)∧Ns.length=len∧Go.Sort.heapPop (Ct c) a.toNat (i2+1).toNat Ns.toArray=Go.Sort.heapPop (Ct c) a.toNat (b-a).toNat st.toArray) (fun (i2:Int) (Ns:List (Int))=>(i2+1).toNat) (b-a-1) (st)  (⟨⟨by omega,by omega⟩,by omega,by rw [show (b-a-1+1).toNat=(b-a).toNat by omega]⟩) kz (fun _ _ h=>h) ?_)
 rintro i2 Ns  ⟨⟨j5,hj2⟩,rV,bR⟩
 refine an ?_ ?_<;>intro h2 q2
 have AB3:0≤i2:=of_decide_eq_true h2
 refine ac ?_
 refine Tr.seq (Tr.block (Tr.seq (Tr.rx ?_)))
 refine ay ?_
 refine xo rfl (fun _=>AH rfl underlying22 BJ (vl rfl) (vl rfl) AA AA) (GV 0 rfl rfl (AW rfl BT (vl rfl) (Aj (g:=(fun t:Int=>int t)) AA)) ?_)
 refine ay ?_
 refine xo rfl (fun _=>AH rfl underlying22 BJ (vl rfl) (vl rfl) AA AA) (GV 0 rfl rfl (AW rfl BT (vl rfl) (Aj (g:=(fun t:Int=>int t)) AA)) (xo rfl (fun _=>AH rfl underlying22 BJ (vl rfl) (vl rfl) AA AA) ?_))
 refine Cx.C0 0 rfl rfl (Aq rfl rfl (vl rfl) (Vo rfl) BJ rfl D4 (BL (f:=(fun t:Int=>[int t])) (fun _=>rfl) AA)) ?_
 refine xo rfl (fun _=>AH rfl underlying22 BJ (vl rfl) (vl rfl) AA AA) ?_
 refine Cx.C0 0 rfl rfl (Aq rfl rfl (vl rfl) (Vo rfl) BJ rfl FW (BL (f:=(fun t:Int=>[int t])) (fun _=>rfl) Ez)) ?_
 refine Cx.nil ⟨by kernel_rfl,?_⟩
 refine BE.done Mk (Fin.go (wk [10,7,6,0] rfl ?_))
 refine ap ?_
 refine TO.FL 0 rfl rfl AD (Ak rfl rfl AD rfl (Ui hc Ez AA AA AA AA AA) ⟨ke rfl,ke rfl,ke rfl,ke rfl,trivial⟩) ?_
 refine TO.Eg 0 rfl fun t2 dw=> ?_
 have AB4:=dw.len
 refine ap ?_
 refine ac ?_
 exact Fin.CC (i2-1) (t2)  (⟨⟨⟨by omega,by omega⟩,by simp only [List.length_set] at AB4;omega,by rw [dw.2,sw AA AA,show (a+i2).toNat=a.toNat+i2.toNat by omega];exact (AAi AB3).trans bR⟩,by omega⟩) ⟨ke rfl,kz⟩ (fun _ _ h=>h)
 have AB3:¬0≤i2:=of_decide_eq_false h2
 rw [vF AB3] at bR
 refine Tr.exit (Fin.Ai (Fin.Ai (Fin.BB ?_)))
 refine Fin.C6 (Gh c a b l) 0 rfl (by unfold Gh;rw [bR,Jg];exact heap_holds hw l.toArray h0 hab (by simp only [List.size_toArray];omega)) ?_
 exact Fin.NB rfl
theorem rW {l:List (Int)} {c:Int×Int→Int} {b0 len:Nat} {a b:Int} (hc:∀x y,c (x,y)=DB x y) (Kr:l.length=len) (II:len≤1000000) (h0:0≤a) (hab:a<b) (hb:b≤len):Ba prog 165 [is (.slice (some ⟨b0,0,none⟩) len cap),int a,int b] (Ey) (AE true b0 3 ((l.map (fun t:Int=>[int t])).flatten++sp.map is)) (fun _=>C5 b0 3 (fun t:Int=>[int t]) (D_ a b l) (sp.map is)):=by
 refine Ba.of func165 rfl rfl Am fun M0 w0 S rs M1 w1=> ?_
 refine a2 ?_
 refine Tr.block (Tr.Gd _ (kk [0] rfl) (fun (i:Int) (j:Int) (st:List (Int))=>[(6,int i),(7,int j)]) (fun (i:Int) (j:Int) (st:List (Int))=>Hp M0 w0 S (AE true b0 3 ((st.map (fun t:Int=>[int t])).flatten++sp.map is)::Ac M1 w1::rs)) (fun (i:Int) (j:Int) (st:List (Int))=>(a≤i∧j<b∧ -1≤j∧i≤b)∧st.length=len∧D_ a b l st) (fun (i:Int) (j:Int) (st:List (Int))=>(j-i).toNat) (a) (b-1) (l)  (⟨⟨by omega,by omega,by omega,by omega⟩,by omega,D_.refl _ _ _⟩) ⟨kq,kz⟩ (fun _ _ h=>h) ?_)
 rintro i j st  ⟨⟨hi1,hi2,hi3,hi4⟩,KV,Jg⟩
 refine an ?_ ?_<;>intro h1 q1
 have hij:i<j:=of_decide_eq_true h1
 refine ac ?_
 refine Tr.block (Tr.seq (Tr.rx ?_))
 refine ay ?_
 refine xo rfl (fun _=>AH rfl underlying22 BJ vq vq AA AA) (GV 0 rfl rfl (AW rfl BT vq (Aj (g:=(fun t:Int=>int t)) AA)) ?_)
 refine ay ?_
 refine xo rfl (fun _=>AH rfl underlying22 BJ vq vq AA AA) (GV 0 rfl rfl (AW rfl BT vq (Aj (g:=(fun t:Int=>int t)) AA)) (xo rfl (fun _=>AH rfl underlying22 BJ vq vq AA AA) ?_))
 refine Cx.C0 0 rfl rfl (Aq rfl rfl (vl rfl) (Vo rfl) BJ rfl D4 (BL (f:=(fun t:Int=>[int t])) (fun _=>rfl) AA)) ?_
 refine xo rfl (fun _=>AH rfl underlying22 BJ vq vq AA AA) ?_
 refine Cx.C0 0 rfl rfl (Aq rfl rfl vq Ce BJ rfl FW (BL (f:=(fun t:Int=>[int t])) (fun _=>rfl) Ez)) ?_
 refine Cx.nil ⟨by kernel_rfl,?_⟩
 refine BE.done Mk (Fin.go (wk [7,6,0] rfl ?_))
 refine a2 ?_
 exact Fin.DE (i+1) (j-1) (_)  (⟨⟨⟨by omega,by omega,by omega,by omega⟩,by simp only [List.length_set];exact KV,Jg.swap AA AA AA AA AA AA AA⟩,by omega⟩) ⟨kq,kz⟩ (fun _ _ h=>h)
 have:=h1
 refine Tr.exit (Fin.Ai (Fin.Ai (Fin.BB (Fin.C6 (D_ a b l) 0 rfl (Jg) (Fin.NB rfl)))))
theorem rX {l:List (Int)} {c:Int×Int→Int} {b0 len:Nat} {a b pv:Int} (hc:∀x y,c (x,y)=DB x y) (Kr:l.length=len) (II:len≤1000000) (h0:0≤a) (hab:a<b) (hb:b≤len) (Mj:a≤pv) (dw:pv<b):Ba prog 168 [is (.slice (some ⟨b0,0,none⟩) len cap),int a,int b,int pv] (int ((PE c a b pv l).1:Nat)) (AE true b0 3 ((l.map (fun t:Int=>[int t])).flatten++sp.map is)) (fun _=>C5 b0 3 (fun t:Int=>[int t]) (XM c a b pv l) (sp.map is)):=by
 refine Ba.of func168 rfl rfl Am fun M0 w0 S rs M1 w1=> ?_
 have hal:a.toNat<l.length:=by omega
 have LQ:pv.toNat<l.length:=by omega
 refine ac ?_
 refine Tr.seq (Tr.rx ?_)
 refine ay ?_
 refine xo rfl (fun _=>AH rfl underlying22 BJ vq vq AA AA) (GV 0 rfl rfl (AW rfl BT vq (Aj (g:=(fun t:Int=>int t)) AA)) ?_)
 refine ay ?_
 refine xo rfl (fun _=>AH rfl underlying22 BJ vq vq AA AA) (GV 0 rfl rfl (AW rfl BT vq (Aj (g:=(fun t:Int=>int t)) AA)) (xo rfl (fun _=>AH rfl underlying22 BJ vq vq AA AA) ?_))
 refine Cx.C0 0 rfl rfl (Aq rfl rfl (vl rfl) (Vo rfl) BJ rfl D4 (BL (f:=(fun t:Int=>[int t])) (fun _=>rfl) AA)) ?_
 refine xo rfl (fun _=>AH rfl underlying22 BJ vq vq AA AA) ?_
 refine Cx.C0 0 rfl rfl (Aq rfl rfl vq Ce BJ rfl FW (BL (f:=(fun t:Int=>[int t])) (fun _=>rfl) Ez)) ?_
 refine Cx.nil ⟨by kernel_rfl,?_⟩
 refine BE.done Mk (Fin.go (wk [2,1,0] rfl ?_))
 refine ac ?_
 refine Tr.seq (Tr.block ?_)
 refine Tr.Gd _ (kk [1,0] rfl) (fun (i:Int) (j:Int) (st:List (Int))=>[(9,int i),(10,int j)]) (fun (i:Int) (j:Int) (st:List (Int))=>Hp M0 w0 S (AE true b0 3 ((st.map (fun t:Int=>[int t])).flatten++sp.map is)::Ac M1 w1::rs)) (fun (i:Int) (j:Int) (st:List (Int))=>((a<i∧i≤b)∧a≤j∧j<b)∧st.length=len∧PLe c a i j st.toArray=PE c a b pv l) (fun (i:Int) (j:Int) (st:List (Int))=>(j-i+2).toNat) (a+1) (b-1) (((l.set a.toNat (l[pv.toNat]'LQ)).set pv.toNat (l[a.toNat]'hal)))  (⟨⟨⟨by omega,by omega⟩,by omega,by omega⟩,by simp only [List.length_set];exact Kr,mV h0 hab hal LQ⟩) ⟨kq,kz⟩ (fun _ _ h=>h) ?_
 rintro i j st  ⟨⟨⟨hi1,hi2⟩,j5,hj2⟩,KV,Jg⟩
 refine Tr.block (wk [10,9,1,0] rfl (Tr.Jn [0,1,10] [(9,ex fun y:Int=>fact ((i≤y∧y≤b)∧True∧y.toNat=Go.Sort.scanUp (qU c st.toArray a) st.toArray (j).toNat (i).toNat) (int y))] (True) ?_ (fun h1=> ?_)))
 refine Tr.block (Tr.A0 _ (kk [10,1,0] rfl) (fun y:Int=>[(9,int y)]) (fun y:Int=>(i≤y∧y≤b)∧Go.Sort.scanUp (qU c st.toArray a) st.toArray (j).toNat (y).toNat=Go.Sort.scanUp (qU c st.toArray a) st.toArray (j).toNat (i).toNat) (fun y:Int=>(b-y).toNat) i (⟨⟨by omega,by omega⟩,rfl⟩) kz ?_)
 rintro y ⟨⟨zP,zQ⟩,Kl⟩
 refine ag ?_ ?_<;>intro h2 q2
 refine ac ?_
 refine cy h2 rfl (AH rfl underlying22 BJ vq vq AA AA) (cy h2 rfl (Bi 0 rfl (AW rfl BT vq (Aj (g:=(fun t:Int=>int t)) AA))) ?_)
 refine ac ?_
 refine cy h2 rfl (AH rfl underlying22 BJ vq vq AA AA) (cy h2 rfl (Bi 0 rfl (AW rfl BT vq (Aj (g:=(fun t:Int=>int t)) AA))) (cy h2 rfl (Bu (C4 hc) rfl rfl rfl) ?_))
 refine ac ?_
 refine wk [43,10,9,1,0] rfl ?_
 refine Tr.cn rfl ?_ ?_<;>intro h3 q3
 have:=h3
 refine a2 ?_
 exact Fin.AL (y+1) ⟨⟨⟨by omega,by omega⟩,by rw [mR AA AA AA (AIq AA AA (Int.not_lt.2 BO))];exact Kl⟩,by omega⟩ (kk4 rfl)
 have:=h3
 refine Tr.exit (Fin.Ai (Fin.Ai (Fin.BB ?_)))
 exact Fin.AL () trivial ⟨⟨_,rfl,As _ (Ar ⟨⟨by omega,by omega⟩,trivial,by rw [←Kl];exact (Rk AA (AIr AA AA BO)).symm⟩ Lr)⟩,kz⟩
 refine ac ?_
 refine wk [43,10,9,1,0] rfl (Tr.cond rfl (fun h=>nomatch h) (fun _=> ?_))
 refine Tr.exit (Fin.Ai (Fin.Ai (Fin.BB ?_)))
 exact Fin.AL () trivial ⟨⟨_,rfl,As _ (Ar ⟨⟨by omega,by omega⟩,trivial,by rw [←Kl];exact (Rj AA AA).symm⟩ Lr)⟩,kz⟩
 refine Tr.ex 9 rfl (fun i2=>Tr.fact 9 rfl fun AB5=> ?_)
 obtain ⟨AGe,AGf,Sz⟩:=AB5
 refine wk [10,9,1,0] rfl (Tr.Jn [0,1,9] [(10,ex fun y:Int=>fact ((a≤y∧y≤j)∧True∧y.toNat=Go.Sort.scanDown (qD c st.toArray a) st.toArray (i2).toNat (j).toNat) (int y))] (True) ?_ (fun h4=> ?_))
 refine Tr.block (Tr.A0 _ (kk [9,1,0] rfl) (fun y:Int=>[(10,int y)]) (fun y:Int=>(a≤y∧y≤j)∧Go.Sort.scanDown (qD c st.toArray a) st.toArray (i2).toNat (y).toNat=Go.Sort.scanDown (qD c st.toArray a) st.toArray (i2).toNat (j).toNat) (fun y:Int=>(y-a).toNat) j (⟨⟨by omega,by omega⟩,rfl⟩) kz ?_)
 rintro y ⟨⟨zR,zS⟩,Km⟩
 refine ag ?_ ?_<;>intro h5 q5
 refine ac ?_
 refine cy h5 rfl (AH rfl underlying22 BJ vq vq AA AA) (cy h5 rfl (Bi 0 rfl (AW rfl BT vq (Aj (g:=(fun t:Int=>int t)) AA))) ?_)
 refine ac ?_
 refine cy h5 rfl (AH rfl underlying22 BJ vq vq AA AA) (cy h5 rfl (Bi 0 rfl (AW rfl BT vq (Aj (g:=(fun t:Int=>int t)) AA))) (cy h5 rfl (Bu (C4 hc) rfl rfl rfl) ?_))
 refine ac ?_
 refine wk [59,10,9,1,0] rfl ?_
 refine Tr.cn rfl ?_ ?_<;>intro h6 q6
 have:=h6
 refine a2 ?_
 exact Fin.AL (y-1) ⟨⟨⟨by omega,by omega⟩,by rw [mS AA AA AA (AIs AA AA BO)];exact Km⟩,by omega⟩ (kk4 rfl)
 have:=h6
 refine Tr.exit (Fin.Ai (Fin.Ai (Fin.BB ?_)))
 exact Fin.AL () trivial ⟨⟨_,rfl,As _ (Ar ⟨⟨by omega,by omega⟩,trivial,by rw [←Km];exact (Rm AA (AIt AA AA (Int.not_lt.2 BO))).symm⟩ Lr)⟩,kz⟩
 refine ac ?_
 refine wk [59,10,9,1,0] rfl (Tr.cond rfl (fun h=>nomatch h) (fun _=> ?_))
 refine Tr.exit (Fin.Ai (Fin.Ai (Fin.BB ?_)))
 exact Fin.AL () trivial ⟨⟨_,rfl,As _ (Ar ⟨⟨by omega,by omega⟩,trivial,by rw [←Km];exact (Rl AA AA).symm⟩ Lr)⟩,kz⟩
 refine Tr.ex 10 rfl (fun j2=>Tr.fact 10 rfl fun AB6=> ?_)
 obtain ⟨AGg,AGh,S0⟩:=AB6
 refine an ?_ ?_<;>intro h7 q7
 refine a2 ?_
 refine Tr.ret (Fin.C6 (XM c a b pv l) 0 rfl (⟨by omega,by rw [Jg.symm.trans (XL Sz S0 AA AA)]⟩) ?_)
 have hE:=Jg.symm.trans (XL Sz S0 AA AA)
 refine Fin.ER rfl rfl ?_ (fun _ _ _ _=>rfl)
 · exact int_eq (by rw [hE];show i2=((i2.toNat:Nat):Int);omega)
 refine ac ?_
 refine Tr.seq (Tr.rx ?_)
 refine ay ?_
 refine xo rfl (fun _=>AH rfl underlying22 BJ vq vq AA AA) (GV 0 rfl rfl (AW rfl BT vq (Aj (g:=(fun t:Int=>int t)) AA)) ?_)
 refine ay ?_
 refine xo rfl (fun _=>AH rfl underlying22 BJ vq vq AA AA) (GV 0 rfl rfl (AW rfl BT vq (Aj (g:=(fun t:Int=>int t)) AA)) (xo rfl (fun _=>AH rfl underlying22 BJ vq vq AA AA) ?_))
 refine Cx.C0 0 rfl rfl (Aq rfl rfl (vl rfl) (Vo rfl) BJ rfl D4 (BL (f:=(fun t:Int=>[int t])) (fun _=>rfl) AA)) ?_
 refine xo rfl (fun _=>AH rfl underlying22 BJ vq vq AA AA) ?_
 refine Cx.C0 0 rfl rfl (Aq rfl rfl vq Ce BJ rfl FW (BL (f:=(fun t:Int=>[int t])) (fun _=>rfl) Ez)) ?_
 refine Cx.nil ⟨by kernel_rfl,?_⟩
 refine BE.done Mk (Fin.go (wk [10,9,1,0] rfl ?_))
 refine a2 ?_
 exact Fin.DE (i2+1) (j2-1) (_)  (⟨⟨⟨⟨by omega,by omega⟩,by omega,by omega⟩,by simp only [List.length_set];exact KV,(AAj Sz S0 AA AA AA AA).trans Jg⟩,by omega⟩) ⟨kq,kz⟩ (fun _ _ h=>h)
theorem Uj {l:List (Int)} {c:Int×Int→Int} {b0 len:Nat} {a b pv:Int} (hc:∀x y,c (x,y)=DB x y) (Kr:l.length=len) (II:len≤1000000) (h0:0≤a) (hab:a<b) (hb:b≤len) (Mj:a≤pv) (dw:pv<b):Ba prog 169 [is (.slice (some ⟨b0,0,none⟩) len cap),int a,int b,int pv] (ex fun z:Bool=>fact True (DW [int ((PA c a b pv l).1:Nat),bool z])) (AE true b0 3 ((l.map (fun t:Int=>[int t])).flatten++sp.map is)) (fun _=>C5 b0 3 (fun t:Int=>[int t]) (T5 c a b pv l) (sp.map is)):=by
 refine Ba.of func169 rfl rfl Am fun M0 w0 S rs M1 w1=> ?_
 have hal:a.toNat<l.length:=by omega
 have LQ:pv.toNat<l.length:=by omega
 have hS1:((l.set a.toNat (l[pv.toNat]'LQ)).set pv.toNat (l[a.toNat]'hal)).length=len:=by simp only [List.length_set];exact Kr
 refine ac ?_
 refine Tr.seq (Tr.rx ?_)
 refine ay ?_
 refine xo rfl (fun _=>AH rfl underlying22 BJ vq vq AA AA) (GV 0 rfl rfl (AW rfl BT vq (Aj (g:=(fun t:Int=>int t)) AA)) ?_)
 refine ay ?_
 refine xo rfl (fun _=>AH rfl underlying22 BJ vq vq AA AA) (GV 0 rfl rfl (AW rfl BT vq (Aj (g:=(fun t:Int=>int t)) AA)) (xo rfl (fun _=>AH rfl underlying22 BJ vq vq AA AA) ?_))
 refine Cx.C0 0 rfl rfl (Aq rfl rfl (vl rfl) (Vo rfl) BJ rfl D4 (BL (f:=(fun t:Int=>[int t])) (fun _=>rfl) AA)) ?_
 refine xo rfl (fun _=>AH rfl underlying22 BJ vq vq AA AA) ?_
 refine Cx.C0 0 rfl rfl (Aq rfl rfl vq Ce BJ rfl FW (BL (f:=(fun t:Int=>[int t])) (fun _=>rfl) Ez)) ?_
 refine Cx.nil ⟨by kernel_rfl,?_⟩
 refine BE.done Mk (Fin.go (wk [2,1,0] rfl ?_))
 refine ac ?_
 refine wk [11,10,1,0] rfl (Tr.Jn [0,1,11] [(10,ex fun y:Int=>fact (((a+1)≤y∧y≤b)∧True∧y.toNat=Go.Sort.scanUp (pU c ((l.set a.toNat (l[pv.toNat]'LQ)).set pv.toNat (l[a.toNat]'hal)).toArray a) ((l.set a.toNat (l[pv.toNat]'LQ)).set pv.toNat (l[a.toNat]'hal)).toArray ((b-1)).toNat ((a+1)).toNat) (int y))] (True) ?_ (fun h1=> ?_))
 refine Tr.block (Tr.A0 _ (kk [11,1,0] rfl) (fun y:Int=>[(10,int y)]) (fun y:Int=>((a+1)≤y∧y≤b)∧Go.Sort.scanUp (pU c ((l.set a.toNat (l[pv.toNat]'LQ)).set pv.toNat (l[a.toNat]'hal)).toArray a) ((l.set a.toNat (l[pv.toNat]'LQ)).set pv.toNat (l[a.toNat]'hal)).toArray ((b-1)).toNat (y).toNat=Go.Sort.scanUp (pU c ((l.set a.toNat (l[pv.toNat]'LQ)).set pv.toNat (l[a.toNat]'hal)).toArray a) ((l.set a.toNat (l[pv.toNat]'LQ)).set pv.toNat (l[a.toNat]'hal)).toArray ((b-1)).toNat ((a+1)).toNat) (fun y:Int=>(b-y).toNat) (a+1) (⟨⟨by omega,by omega⟩,rfl⟩) kz ?_)
 rintro y ⟨⟨zP,zQ⟩,Kl⟩
 refine ag ?_ ?_<;>intro h2 q2
 refine ac ?_
 refine cy h2 rfl (AH rfl underlying22 BJ vq vq AA AA) (cy h2 rfl (Bi 0 rfl (AW rfl BT vq (Aj (g:=(fun t:Int=>int t)) AA))) ?_)
 refine ac ?_
 refine cy h2 rfl (AH rfl underlying22 BJ vq vq AA AA) (cy h2 rfl (Bi 0 rfl (AW rfl BT vq (Aj (g:=(fun t:Int=>int t)) AA))) (cy h2 rfl (Bu (C4 hc) rfl rfl rfl) ?_))
 refine ac ?_
 refine wk [43,11,10,1,0] rfl ?_
 refine Tr.cn rfl ?_ ?_<;>intro h3 q3
 have:=h3
 refine a2 ?_
 exact Fin.AL (y+1) ⟨⟨⟨by omega,by omega⟩,by rw [mR AA AA AA (AEa AA AA BO)];exact Kl⟩,by omega⟩ (kk4 rfl)
 have:=h3
 refine Tr.exit (Fin.Ai (Fin.Ai (Fin.BB ?_)))
 exact Fin.AL () trivial ⟨⟨_,rfl,As _ (Ar ⟨⟨by omega,by omega⟩,trivial,by rw [←Kl];exact (Rk AA (AEb AA AA (Int.not_lt.2 BO))).symm⟩ Lr)⟩,kz⟩
 refine ac ?_
 refine wk [43,11,10,1,0] rfl (Tr.cond rfl (fun h=>nomatch h) (fun _=> ?_))
 refine Tr.exit (Fin.Ai (Fin.Ai (Fin.BB ?_)))
 exact Fin.AL () trivial ⟨⟨_,rfl,As _ (Ar ⟨⟨by omega,by omega⟩,trivial,by rw [←Kl];exact (Rj AA AA).symm⟩ Lr)⟩,kz⟩
 refine Tr.ex 10 rfl (fun i1=>Tr.fact 10 rfl fun AKd=> ?_)
 obtain ⟨ALH,ALI,rY⟩:=AKd
 refine wk [11,10,1,0] rfl (Tr.Jn [0,1,10] [(11,ex fun y:Int=>fact ((a≤y∧y≤(b-1))∧True∧y.toNat=Go.Sort.scanDown (pD c ((l.set a.toNat (l[pv.toNat]'LQ)).set pv.toNat (l[a.toNat]'hal)).toArray a) ((l.set a.toNat (l[pv.toNat]'LQ)).set pv.toNat (l[a.toNat]'hal)).toArray (i1).toNat ((b-1)).toNat) (int y))] (True) ?_ (fun h4=> ?_))
 refine Tr.block (Tr.A0 _ (kk [10,1,0] rfl) (fun y:Int=>[(11,int y)]) (fun y:Int=>(a≤y∧y≤(b-1))∧Go.Sort.scanDown (pD c ((l.set a.toNat (l[pv.toNat]'LQ)).set pv.toNat (l[a.toNat]'hal)).toArray a) ((l.set a.toNat (l[pv.toNat]'LQ)).set pv.toNat (l[a.toNat]'hal)).toArray (i1).toNat (y).toNat=Go.Sort.scanDown (pD c ((l.set a.toNat (l[pv.toNat]'LQ)).set pv.toNat (l[a.toNat]'hal)).toArray a) ((l.set a.toNat (l[pv.toNat]'LQ)).set pv.toNat (l[a.toNat]'hal)).toArray (i1).toNat ((b-1)).toNat) (fun y:Int=>(y-a).toNat) (b-1) (⟨⟨by omega,by omega⟩,rfl⟩) kz ?_)
 rintro y ⟨⟨zR,zS⟩,Km⟩
 refine ag ?_ ?_<;>intro h5 q5
 refine ac ?_
 refine cy h5 rfl (AH rfl underlying22 BJ vq vq AA AA) (cy h5 rfl (Bi 0 rfl (AW rfl BT vq (Aj (g:=(fun t:Int=>int t)) AA))) ?_)
 refine ac ?_
 refine cy h5 rfl (AH rfl underlying22 BJ vq vq AA AA) (cy h5 rfl (Bi 0 rfl (AW rfl BT vq (Aj (g:=(fun t:Int=>int t)) AA))) (cy h5 rfl (Bu (C4 hc) rfl rfl rfl) ?_))
 refine ac ?_
 refine wk [60,11,10,1,0] rfl ?_
 refine Tr.cn rfl ?_ ?_<;>intro h6 q6
 have:=h6
 refine a2 ?_
 exact Fin.AL (y-1) ⟨⟨⟨by omega,by omega⟩,by rw [mS AA AA AA (AEc AA AA (Int.not_lt.2 BO))];exact Km⟩,by omega⟩ (kk4 rfl)
 have:=h6
 refine Tr.exit (Fin.Ai (Fin.Ai (Fin.BB ?_)))
 exact Fin.AL () trivial ⟨⟨_,rfl,As _ (Ar ⟨⟨by omega,by omega⟩,trivial,by rw [←Km];exact (Rm AA (AEd AA AA BO)).symm⟩ Lr)⟩,kz⟩
 refine ac ?_
 refine wk [60,11,10,1,0] rfl (Tr.cond rfl (fun h=>nomatch h) (fun _=> ?_))
 refine Tr.exit (Fin.Ai (Fin.Ai (Fin.BB ?_)))
 exact Fin.AL () trivial ⟨⟨_,rfl,As _ (Ar ⟨⟨by omega,by omega⟩,trivial,by rw [←Km];exact (Rl AA AA).symm⟩ Lr)⟩,kz⟩
 refine Tr.ex 11 rfl (fun j1=>Tr.fact 11 rfl fun AKe=> ?_)
 obtain ⟨ALJ,ALK,rZ⟩:=AKe
 refine an ?_ ?_<;>intro h7 q7
 refine Tr.seq (Tr.rx ?_)
 refine ay ?_
 refine xo rfl (fun _=>AH rfl underlying22 BJ vq vq AA AA) (GV 0 rfl rfl (AW rfl BT vq (Aj (g:=(fun t:Int=>int t)) AA)) ?_)
 refine ay ?_
 refine xo rfl (fun _=>AH rfl underlying22 BJ vq vq AA AA) (GV 0 rfl rfl (AW rfl BT vq (Aj (g:=(fun t:Int=>int t)) AA)) (xo rfl (fun _=>AH rfl underlying22 BJ vq vq AA AA) ?_))
 refine Cx.C0 0 rfl rfl (Aq rfl rfl (vl rfl) (Vo rfl) BJ rfl D4 (BL (f:=(fun t:Int=>[int t])) (fun _=>rfl) AA)) ?_
 refine xo rfl (fun _=>AH rfl underlying22 BJ vq vq AA AA) ?_
 refine Cx.C0 0 rfl rfl (Aq rfl rfl vq Ce BJ rfl FW (BL (f:=(fun t:Int=>[int t])) (fun _=>rfl) Ez)) ?_
 refine Cx.nil ⟨by kernel_rfl,?_⟩
 refine BE.done Mk (Fin.go (wk [11] rfl ?_))
 refine ac ?_
 refine Tr.ret (Fin.AF (Fin.C6 (T5 c a b pv l) 0 rfl (⟨by simp only [List.length_set],(NG h0 hab hal LQ (K4 rY rZ AA AA) AA AA).2⟩) (Fin.J7 [] rfl (AQ.tmp rfl Lr) (AQ.tmp rfl Lr) ?_)))
 · exact As true (Ar trivial (Pr.le_of_eq (by rw [(NG h0 hab hal LQ (K4 rY rZ AA AA) AA AA).1,Int.toNat_of_nonneg AA])))
 refine ac ?_
 refine Tr.seq (Tr.rx ?_)
 refine ay ?_
 refine xo rfl (fun _=>AH rfl underlying22 BJ vq vq AA AA) (GV 0 rfl rfl (AW rfl BT vq (Aj (g:=(fun t:Int=>int t)) AA)) ?_)
 refine ay ?_
 refine xo rfl (fun _=>AH rfl underlying22 BJ vq vq AA AA) (GV 0 rfl rfl (AW rfl BT vq (Aj (g:=(fun t:Int=>int t)) AA)) (xo rfl (fun _=>AH rfl underlying22 BJ vq vq AA AA) ?_))
 refine Cx.C0 0 rfl rfl (Aq rfl rfl (vl rfl) (Vo rfl) BJ rfl D4 (BL (f:=(fun t:Int=>[int t])) (fun _=>rfl) AA)) ?_
 refine xo rfl (fun _=>AH rfl underlying22 BJ vq vq AA AA) ?_
 refine Cx.C0 0 rfl rfl (Aq rfl rfl vq Ce BJ rfl FW (BL (f:=(fun t:Int=>[int t])) (fun _=>rfl) Ez)) ?_
 refine Cx.nil ⟨by kernel_rfl,?_⟩
 refine BE.done Mk (Fin.go (wk [11,10,1,0] rfl ?_))
 refine a2 ?_
 refine Tr.seq (Tr.block ?_)
 refine Tr.Gd _ (kk [1,0] rfl) (fun (i:Int) (j:Int) (st:List (Int))=>[(10,int i),(11,int j)]) (fun (i:Int) (j:Int) (st:List (Int))=>Hp M0 w0 S (AE true b0 3 ((st.map (fun t:Int=>[int t])).flatten++sp.map is)::Ac M1 w1::rs)) (fun (i:Int) (j:Int) (st:List (Int))=>((a<i∧i≤b)∧a≤j∧j<b)∧st.length=len∧PLp c a i j st.toArray=PLp c a (a+1) (b-1) ((l.set a.toNat (l[pv.toNat]'LQ)).set pv.toNat (l[a.toNat]'hal)).toArray) (fun (i:Int) (j:Int) (st:List (Int))=>(j-i+2).toNat) (i1+1) (j1-1) (_)  (⟨⟨⟨by omega,by omega⟩,by omega,by omega⟩,by simp only [List.length_set];exact Kr,dz rY rZ AA AA AA AA⟩) ⟨kq,kz⟩ (fun _ _ h=>h) ?_
 rintro i j st  ⟨⟨⟨hi1,hi2⟩,j5,hj2⟩,KV,Jg⟩
 refine Tr.block (wk [11,10,1,0] rfl (Tr.Jn [0,1,11] [(10,ex fun y:Int=>fact ((i≤y∧y≤b)∧True∧y.toNat=Go.Sort.scanUp (pU c st.toArray a) st.toArray (j).toNat (i).toNat) (int y))] (True) ?_ (fun h8=> ?_)))
 refine Tr.block (Tr.A0 _ (kk [11,1,0] rfl) (fun y:Int=>[(10,int y)]) (fun y:Int=>(i≤y∧y≤b)∧Go.Sort.scanUp (pU c st.toArray a) st.toArray (j).toNat (y).toNat=Go.Sort.scanUp (pU c st.toArray a) st.toArray (j).toNat (i).toNat) (fun y:Int=>(b-y).toNat) i (⟨⟨by omega,by omega⟩,rfl⟩) kz ?_)
 rintro y ⟨⟨zP,zQ⟩,Kl⟩
 refine ag ?_ ?_<;>intro h9 q9
 refine ac ?_
 refine cy h9 rfl (AH rfl underlying22 BJ vq vq AA AA) (cy h9 rfl (Bi 0 rfl (AW rfl BT vq (Aj (g:=(fun t:Int=>int t)) AA))) ?_)
 refine ac ?_
 refine cy h9 rfl (AH rfl underlying22 BJ vq vq AA AA) (cy h9 rfl (Bi 0 rfl (AW rfl BT vq (Aj (g:=(fun t:Int=>int t)) AA))) (cy h9 rfl (Bu (C4 hc) rfl rfl rfl) ?_))
 refine ac ?_
 refine wk [112,11,10,1,0] rfl ?_
 refine Tr.cn rfl ?_ ?_<;>intro h10 O2
 have:=h10
 refine a2 ?_
 exact Fin.AL (y+1) ⟨⟨⟨by omega,by omega⟩,by rw [mR AA AA AA (AEa AA AA BO)];exact Kl⟩,by omega⟩ (kk4 rfl)
 have:=h10
 refine Tr.exit (Fin.Ai (Fin.Ai (Fin.BB ?_)))
 exact Fin.AL () trivial ⟨⟨_,rfl,As _ (Ar ⟨⟨by omega,by omega⟩,trivial,by rw [←Kl];exact (Rk AA (AEb AA AA (Int.not_lt.2 BO))).symm⟩ Lr)⟩,kz⟩
 refine ac ?_
 refine wk [112,11,10,1,0] rfl (Tr.cond rfl (fun h=>nomatch h) (fun _=> ?_))
 refine Tr.exit (Fin.Ai (Fin.Ai (Fin.BB ?_)))
 exact Fin.AL () trivial ⟨⟨_,rfl,As _ (Ar ⟨⟨by omega,by omega⟩,trivial,by rw [←Kl];exact (Rj AA AA).symm⟩ Lr)⟩,kz⟩
 refine Tr.ex 10 rfl (fun i2=>Tr.fact 10 rfl fun AB5=> ?_)
 obtain ⟨AGe,AGf,Sz⟩:=AB5
 refine wk [11,10,1,0] rfl (Tr.Jn [0,1,10] [(11,ex fun y:Int=>fact ((a≤y∧y≤j)∧True∧y.toNat=Go.Sort.scanDown (pD c st.toArray a) st.toArray (i2).toNat (j).toNat) (int y))] (True) ?_ (fun h11=> ?_))
 refine Tr.block (Tr.A0 _ (kk [10,1,0] rfl) (fun y:Int=>[(11,int y)]) (fun y:Int=>(a≤y∧y≤j)∧Go.Sort.scanDown (pD c st.toArray a) st.toArray (i2).toNat (y).toNat=Go.Sort.scanDown (pD c st.toArray a) st.toArray (i2).toNat (j).toNat) (fun y:Int=>(y-a).toNat) j (⟨⟨by omega,by omega⟩,rfl⟩) kz ?_)
 rintro y ⟨⟨zR,zS⟩,Km⟩
 refine ag ?_ ?_<;>intro h12 TN
 refine ac ?_
 refine cy h12 rfl (AH rfl underlying22 BJ vq vq AA AA) (cy h12 rfl (Bi 0 rfl (AW rfl BT vq (Aj (g:=(fun t:Int=>int t)) AA))) ?_)
 refine ac ?_
 refine cy h12 rfl (AH rfl underlying22 BJ vq vq AA AA) (cy h12 rfl (Bi 0 rfl (AW rfl BT vq (Aj (g:=(fun t:Int=>int t)) AA))) (cy h12 rfl (Bu (C4 hc) rfl rfl rfl) ?_))
 refine ac ?_
 refine wk [129,11,10,1,0] rfl ?_
 refine Tr.cn rfl ?_ ?_<;>intro J8 Vs
 have:=J8
 refine a2 ?_
 exact Fin.AL (y-1) ⟨⟨⟨by omega,by omega⟩,by rw [mS AA AA AA (AEc AA AA (Int.not_lt.2 BO))];exact Km⟩,by omega⟩ (kk4 rfl)
 have:=J8
 refine Tr.exit (Fin.Ai (Fin.Ai (Fin.BB ?_)))
 exact Fin.AL () trivial ⟨⟨_,rfl,As _ (Ar ⟨⟨by omega,by omega⟩,trivial,by rw [←Km];exact (Rm AA (AEd AA AA BO)).symm⟩ Lr)⟩,kz⟩
 refine ac ?_
 refine wk [129,11,10,1,0] rfl (Tr.cond rfl (fun h=>nomatch h) (fun _=> ?_))
 refine Tr.exit (Fin.Ai (Fin.Ai (Fin.BB ?_)))
 exact Fin.AL () trivial ⟨⟨_,rfl,As _ (Ar ⟨⟨by omega,by omega⟩,trivial,by rw [←Km];exact (Rl AA AA).symm⟩ Lr)⟩,kz⟩
 refine Tr.ex 11 rfl (fun j2=>Tr.fact 11 rfl fun AB6=> ?_)
 obtain ⟨AGg,AGh,S0⟩:=AB6
 refine an ?_ ?_<;>intro Mi nU
 refine ac ?_
 refine Tr.seq (Tr.rx ?_)
 refine ay ?_
 refine xo rfl (fun _=>AH rfl underlying22 BJ vq vq AA AA) (GV 0 rfl rfl (AW rfl BT vq (Aj (g:=(fun t:Int=>int t)) AA)) ?_)
 refine ay ?_
 refine xo rfl (fun _=>AH rfl underlying22 BJ vq vq AA AA) (GV 0 rfl rfl (AW rfl BT vq (Aj (g:=(fun t:Int=>int t)) AA)) (xo rfl (fun _=>AH rfl underlying22 BJ vq vq AA AA) ?_))
 refine Cx.C0 0 rfl rfl (Aq rfl rfl (vl rfl) (Vo rfl) BJ rfl D4 (BL (f:=(fun t:Int=>[int t])) (fun _=>rfl) AA)) ?_
 refine xo rfl (fun _=>AH rfl underlying22 BJ vq vq AA AA) ?_
 refine Cx.C0 0 rfl rfl (Aq rfl rfl vq Ce BJ rfl FW (BL (f:=(fun t:Int=>[int t])) (fun _=>rfl) Ez)) ?_
 refine Cx.nil ⟨by kernel_rfl,?_⟩
 refine BE.done Mk (Fin.go (wk [11] rfl ?_))
 refine ac ?_
 refine Tr.ret ?_
 refine Fin.C6 (T5 c a b pv l) 0 rfl (⟨by simp only [List.length_set];omega,(NG h0 hab hal LQ (Jg.symm.trans (K4 Sz S0 AA AA)) AA AA).2⟩) ?_
 refine Fin.J7 [] rfl (AQ.tmp rfl Lr) (AQ.tmp rfl Lr) ?_
 · exact As false (Ar trivial (Pr.le_of_eq (by rw [(NG h0 hab hal LQ (Jg.symm.trans (K4 Sz S0 AA AA)) AA AA).1,Int.toNat_of_nonneg AA])))
 refine ac ?_
 refine Tr.seq (Tr.rx ?_)
 refine ay ?_
 refine xo rfl (fun _=>AH rfl underlying22 BJ vq vq AA AA) (GV 0 rfl rfl (AW rfl BT vq (Aj (g:=(fun t:Int=>int t)) AA)) ?_)
 refine ay ?_
 refine xo rfl (fun _=>AH rfl underlying22 BJ vq vq AA AA) (GV 0 rfl rfl (AW rfl BT vq (Aj (g:=(fun t:Int=>int t)) AA)) (xo rfl (fun _=>AH rfl underlying22 BJ vq vq AA AA) ?_))
 refine Cx.C0 0 rfl rfl (Aq rfl rfl (vl rfl) (Vo rfl) BJ rfl D4 (BL (f:=(fun t:Int=>[int t])) (fun _=>rfl) AA)) ?_
 refine xo rfl (fun _=>AH rfl underlying22 BJ vq vq AA AA) ?_
 refine Cx.C0 0 rfl rfl (Aq rfl rfl vq Ce BJ rfl FW (BL (f:=(fun t:Int=>[int t])) (fun _=>rfl) Ez)) ?_
 refine Cx.nil ⟨by kernel_rfl,?_⟩
 refine BE.done Mk (Fin.go (wk [11,10,1,0] rfl ?_))
 refine a2 ?_
 exact Fin.DE (i2+1) (j2-1) (_)  (⟨⟨⟨⟨by omega,by omega⟩,by omega,by omega⟩,by simp only [List.length_set];exact KV,(dz Sz S0 AA AA AA AA).trans Jg⟩,by omega⟩) ⟨kq,kz⟩ (fun _ _ h=>h)
theorem jf {l:List (Int)} {c:Int×Int→Int} {b0 len:Nat} {a b:Int} (hc:∀x y,c (x,y)=DB x y) (Kr:l.length=len) (II:len≤1000000) (hw:Go.Sort.SWO (Ct c)) (h0:0≤a) (hab:a<b) (hb:b≤len) (hb5:b<50):Ba prog 166 [is (.slice (some ⟨b0,0,none⟩) len cap),int a,int b] (ex fun z:Bool=>fact (z=true→Go.Sort.SortedIn (Ct c) a.toNat b.toNat l.toArray) (bool z)) (AE true b0 3 ((l.map (fun t:Int=>[int t])).flatten++sp.map is)) (fun _=>AE true b0 3 ((l.map (fun t:Int=>[int t])).flatten++sp.map is)):=by
 refine Ba.of func166 rfl rfl Am fun M0 w0 S rs M1 w1=> ?_
 refine a3 ?_
 refine Tr.block (Tr.CM _ (kk [2,1,0] rfl) (fun (i:Int) (j:Int)=>[(7,int i),(8,int j)]) (fun (i:Int) (j:Int)=>Hp M0 w0 S (AE true b0 3 ((l.map (fun t:Int=>[int t])).flatten++sp.map is)::Ac M1 w1::rs)) (fun (i:Int) (j:Int)=>(j=0∧a<i∧i≤b)∧Adj c a i l) (fun (i:Int) (j:Int)=>(5-j).toNat) (a+1) (0)  (⟨⟨rfl,by omega,by omega⟩,Adj.start a l h0⟩) ⟨kq,kz⟩ (fun _ _ h=>h) ?_)
 rintro i j  ⟨⟨hj0,hi1,hi2⟩,AKf⟩
 refine an ?_ ?_<;>intro h1 q1
 skip
 refine ac ?_
 refine Tr.seq (Tr.block (Tr.seq (Tr.block (Tr.A0 _ (kk [8,2,1,0] rfl) (fun i2:Int=>[(7,int i2)]) (fun i2:Int=>(a<i2∧i2≤b)∧Adj c a i2 l) (fun i2:Int=>(b-i2).toNat) i (⟨⟨hi1,hi2⟩,AKf⟩) kz ?_))))
 rintro i2 ⟨⟨hi3,hi4⟩,yJ⟩
 refine ag ?_ ?_<;>intro h2 q2
 refine ac ?_
 refine cy h2 rfl (AH rfl underlying22 BJ vq vq AA AA) (cy h2 rfl (Bi 0 rfl (AW rfl BT vq (Aj (g:=(fun t:Int=>int t)) AA))) ?_)
 refine ac ?_
 refine cy h2 rfl (AH rfl underlying22 BJ vq vq AA AA) (cy h2 rfl (Bi 0 rfl (AW rfl BT vq (Aj (g:=(fun t:Int=>int t)) AA))) (cy h2 rfl (Bu (C4 hc) rfl rfl rfl) ?_))
 refine ac ?_
 refine wk [32,8,7,2,1,0] rfl ?_
 refine Tr.cn rfl ?_ ?_<;>intro h3 q3
 have:=h3
 refine a2 ?_
 exact Fin.AL (i2+1) ⟨⟨⟨by omega,by omega⟩,yJ.go h0 AA rfl AA AA BO⟩,by omega⟩ (kk5 rfl)
 have:=h3
 refine ac ?_
 refine an ?_ ?_<;>intro h4 q4
 refine ac ?_
 refine Tr.ret (Fin.AF (Fin.AP (Fin.AF (Fin.AF (Fin.AP (Fin.AF (Fin.ER rfl rfl ?_ (fun _ _ _ _=>rfl))))))))
 · exact cC
 refine ac ?_
 refine an ?_ ?_<;>intro h5 q5
 refine ac ?_
 refine wk [6] rfl (Tr.ret (Fin.AF (Fin.AP (Fin.AF (Fin.AF (Fin.AP (Fin.AF (Fin.ER rfl rfl ?_ (fun _ _ _ _=>rfl)))))))))
 · exact As false (Ar (fun h=>nomatch h) Lr)
 exfalso;omega
 refine ac ?_
 refine wk [32,8,7,2,1,0] rfl ?_
 refine ac ?_
 refine an ?_ ?_<;>intro h6 q6
 refine ac ?_
 refine Tr.ret (Fin.AF (Fin.AP (Fin.AF (Fin.AF (Fin.AP (Fin.AF (Fin.ER rfl rfl ?_ (fun _ _ _ _=>rfl))))))))
 · exact cC
 refine ac ?_
 refine an ?_ ?_<;>intro h7 q7
 refine ac ?_
 refine wk [6] rfl (Tr.ret (Fin.AF (Fin.AP (Fin.AF (Fin.AF (Fin.AP (Fin.AF (Fin.ER rfl rfl ?_ (fun _ _ _ _=>rfl)))))))))
 · exact As false (Ar (fun h=>nomatch h) Lr)
 exfalso;omega
 have hj5:¬j<5:=of_decide_eq_false h1
 exfalso;omega
theorem Oh {sb:Nat} {l:List (Int)} {c:Int×Int→Int} {b0 len:Nat} {a b:Int} (hc:∀x y,c (x,y)=DB x y) (Kr:l.length=len) (II:len≤1000000) (h0:0≤a) (ha:a<len) (h1:0≤b) (hb:b<len):Za prog 269 [is (.slice (some ⟨b0,0,none⟩) len cap),int a,int b,is (.pointer (some ⟨sb,0,none⟩))] (ex fun z:Int×Int=>fact ((z.1=a∧z.2=b)∨(z.1=b∧z.2=a)) (DW [int z.1,int z.2])) (AE true sb 3 [Dt .i64]) (AE true sb 3 [Dt .i64]) (AE true b0 3 ((l.map (fun t:Int=>[int t])).flatten++sp.map is)):=by
 refine Za.of func269 rfl rfl Am fun M0 w0 S rs M1 w1=> ?_
 refine a2 ?_
 refine co rfl (AH rfl underlying22 BJ vq vq AA AA) (co rfl (Bi 2 rfl (AW rfl BT vq (Aj (g:=(fun t:Int=>int t)) AA))) ?_)
 refine ac ?_
 refine co rfl (AH rfl underlying22 BJ vq vq AA AA) (co rfl (Bi 2 rfl (AW rfl BT vq (Aj (g:=(fun t:Int=>int t)) AA))) (co rfl (Bu (C4 hc) rfl rfl rfl) ?_))
 refine an ?_ ?_<;>intro h1 q1
 refine ap ?_
 refine tp rfl (vD rfl vq (VL.le vq (Cf _ _))) ?_
 refine ap ?_
 refine wk [2,1] rfl ?_
 refine ac ?_
 refine Tr.ret (Fin.AF (Fin.J7 [] rfl (AQ.tmp rfl Lr) (AQ.tmp rfl Lr) ?_))
 · exact As (b,a) (Ar (.inr ⟨rfl,rfl⟩) Lr)
 refine a2 ?_
 refine wk [9,8] rfl (Tr.ret (Fin.J7 [] rfl (AQ.tmp rfl Lr) (AQ.tmp rfl Lr) ?_))
 · exact As (a,b) (Ar (.inl ⟨rfl,rfl⟩) Lr)
theorem rj {sb:Nat} {l:List (Int)} {c:Int×Int→Int} {b0 len:Nat} {a b d:Int} (hc:∀x y,c (x,y)=DB x y) (Kr:l.length=len) (II:len≤1000000) (h0:0≤a) (ha:a<len) (h1:0≤b) (hb:b<len) (h2:0≤d) (hd:d<len):Za prog 225 [is (.slice (some ⟨b0,0,none⟩) len cap),int a,int b,int d,is (.pointer (some ⟨sb,0,none⟩))] (ex fun z:Int=>fact (z=a∨z=b∨z=d) (int z)) (AE true sb 3 [Dt .i64]) (AE true sb 3 [Dt .i64]) (AE true b0 3 ((l.map (fun t:Int=>[int t])).flatten++sp.map is)):=by
 refine Za.of func225 rfl rfl Am fun M0 w0 S rs M1 w1=> ?_
 refine ac ?_
 refine ap ?_
 refine TO.dn 0 2 rfl rfl AD rfl rfl AD rfl (Oh hc AA AA AA AA AA AA) ⟨ke rfl,ke rfl,ke rfl,ke rfl,trivial⟩ ?_
 refine TO.ex 16 rfl (fun z1=>TO.fact 16 rfl fun E2=> ?_)
 refine ap ?_
 refine ap ?_
 refine TO.dn 0 2 rfl rfl AD rfl rfl AD rfl (Oh hc AA AA AA AA AA AA) ⟨ke rfl,ke rfl,ke rfl,ke rfl,trivial⟩ ?_
 refine TO.ex 24 rfl (fun z2=>TO.fact 24 rfl fun HW=> ?_)
 refine ap ?_
 refine wk [4,2,1,0] rfl ?_
 refine ap ?_
 refine TO.dn 0 2 rfl rfl AD rfl rfl AD rfl (Oh hc AA AA AA AA AA AA) ⟨ke rfl,ke rfl,ke rfl,ke rfl,trivial⟩ ?_
 refine TO.ex 32 rfl (fun z3=>TO.fact 32 rfl fun hz3=> ?_)
 refine ap ?_
 refine wk [2] rfl ?_
 refine ac ?_
 refine Tr.ret (Fin.ER rfl rfl ?_ (fun _ _ _ _=>rfl))
 · exact U6
theorem ru {l:List (Int)} {c:Int×Int→Int} {b0 len:Nat} {a b:Int} (hc:∀x y,c (x,y)=DB x y) (Kr:l.length=len) (II:len≤1000000) (h0:0≤a) (hab:a<b) (hb:b≤len) (hb5:b<50):Ba prog 164 [is (.slice (some ⟨b0,0,none⟩) len cap),int a,int b] (ex fun z:Int×Int=>fact (a≤z.1∧z.1<b) (DW [int z.1,int z.2])) (AE true b0 3 ((l.map (fun t:Int=>[int t])).flatten++sp.map is)) (fun _=>AE true b0 3 ((l.map (fun t:Int=>[int t])).flatten++sp.map is)):=by
 refine Ba.of func164 rfl rfl Am fun M0 w0 S rs M1 w1=> ?_
 have hq:=yp (n:=b-a) AA AA
 obtain ⟨hq1,ZJ,hq3⟩:=hq
 refine a2 ?_
 refine Tr.seq (Tr.BI ?_)
 refine Tl rfl rfl rfl rfl z3 zo3 (fun b1=> ?_)
 refine ap ?_
 refine ac ?_
 refine co rfl (F7 rfl vq vq AA) ?_
 refine co rfl (J2 rfl vq vq ?hin) ?_;case hin=>unfold Oj;omega
 refine ac ?_
 refine wk [10,9,8,1,0] rfl ?_
 refine ac ?_
 refine co rfl (F7 rfl vq vq AA) ?_
 refine co rfl (J2 rfl vq vq ?hin) ?_;case hin=>unfold Oj;omega
 refine a2 ?_
 refine co rfl (F7 rfl vq vq AA) ?_
 refine co rfl (J2 rfl vq vq ?hin) ?_;case hin=>unfold Oj;omega
 refine ac ?_
 refine wk [12,11,10,9,8,0] rfl ?_
 refine an ?_ ?_<;>intro h1 q1
 refine an ?_ ?_<;>intro h2 q2
 exfalso;omega
 refine ac ?_
 refine Tr.leC 0 [Dt .i64] rfl ⟨Cf _ _,trivial⟩ ?_
 refine ap ?_
 refine TO.dn 0 1 rfl rfl AD rfl rfl AD rfl (rj hc AA AA AA AA AA AA AA AA) ⟨ke rfl,ke rfl,ke rfl,ke rfl,ke rfl,trivial⟩ ?_
 refine TO.ex 48 rfl (fun z1=>TO.fact 48 rfl fun E2=> ?_)
 refine ap ?_
 refine wk [11,9] rfl ?_
 refine ac ?_
 refine Tr.drop 0 (Tr.block (Tr.seq (Tr.ex 49 rfl fun sw=> ?_)))
 refine an ?_ ?_<;>intro h3 q3
 refine ac ?_
 refine Tr.ret (Fin.AP (Fin.J7 [] rfl (AQ.tmp rfl Lr) (AQ.tmp rfl Lr) ?_))
 · exact N1
 refine an ?_ ?_<;>intro h4 q4
 refine ac ?_
 refine Tr.ret (Fin.AP (Fin.J7 [] rfl (AQ.tmp rfl Lr) (AQ.tmp rfl Lr) ?_))
 · exact N1
 refine ac ?_
 refine Tr.ret (Fin.AP (Fin.J7 [] rfl (AQ.tmp rfl Lr) (AQ.tmp rfl Lr) ?_))
 · exact N1
 refine ac ?_
 refine Tr.seq (Tr.leC 0 [Dt .i64] rfl ⟨Cf _ _,trivial⟩ ?_)
 refine ac ?_
 refine Tr.drop 0 (Tr.block (Tr.seq (Tr.ex 49 rfl fun sw=> ?_)))
 refine an ?_ ?_<;>intro h5 q5
 refine ac ?_
 refine wk [7,6] rfl (Tr.ret (Fin.AP (Fin.J7 [] rfl (AQ.tmp rfl Lr) (AQ.tmp rfl Lr) ?_)))
 · exact N1
 refine an ?_ ?_<;>intro h6 q6
 refine ac ?_
 refine wk [7,6] rfl (Tr.ret (Fin.AP (Fin.J7 [] rfl (AQ.tmp rfl Lr) (AQ.tmp rfl Lr) ?_)))
 · exact N1
 refine ac ?_
 refine wk [7,6] rfl (Tr.ret (Fin.AP (Fin.J7 [] rfl (AQ.tmp rfl Lr) (AQ.tmp rfl Lr) ?_)))
 · exact N1
theorem ry {l:List (Int)} {c:Int×Int→Int} {b0 len:Nat} {a b:Int} (hc:∀x y,c (x,y)=DB x y) (Kr:l.length=len) (II:len≤1000000) (h0:0≤a) (hab:a≤b) (hb:b≤len) (hb5:b<50):Ba prog 163 [is (.slice (some ⟨b0,0,none⟩) len cap),int a,int b] (Ey) (AE true b0 3 ((l.map (fun t:Int=>[int t])).flatten++sp.map is)) (fun _=>C5 b0 3 (fun t:Int=>[int t]) (D_ a b l) (sp.map is)):=by
 refine Ba.of func163 rfl rfl Am fun M0 w0 S rs M1 w1=> ?_
 have hq:=yp (n:=b-a) AA AA
 obtain ⟨hq1,ZJ,hq3⟩:=hq
 refine ac ?_
 refine an ?_ ?_<;>intro h1 q1
 refine ap ?_
 refine tp rfl (Cr rfl underlying3 underlying329 (vl rfl)) ?_
 refine Tl rfl rfl rfl rfl AIm AEQ (fun b1=> ?_)
 refine ap ?_
 refine Tr.seq (Tr.leC 0 [Dt .u64] rfl ⟨Cf _ _,trivial⟩ ?_)
 refine ap ?_
 refine tp rfl (CE (AB1 AA AA) rfl rfl) ?_
 refine TO.ex 19 rfl (fun md=>TO.fact 19 rfl fun hmd=> ?_)
 obtain ⟨AL_,AMA⟩:=hmd
 have hwm:IntKind.u64.wrap (md-1)=md-1:=IntWalk.u64_in _ ⟨by omega,by omega⟩
 refine ap ?_
 refine ac ?_
 refine co rfl (F7 rfl (vl rfl) (vl rfl) AA) ?_
 refine co rfl (J2 rfl (vl rfl) (vl rfl) ?hin) ?_;case hin=>unfold Oj;omega
 refine ac ?_
 refine wk [9,8,7,6,1,0] rfl (Tr.block (Tr.CM _ (kk [8,7,6,1,0] rfl) (fun (i:Int) (st:List (Int))=>[(9,int i)]) (fun (i:Int) (st:List (Int))=>Hp M0 w0 S (AE true b1 329 [Dt .u64]::AE true b0 3 ((st.map (fun t:Int=>[int t])).flatten++sp.map is)::Ac M1 w1::rs)) (fun (i:Int) (st:List (Int))=>(a≤i∧i≤b)∧st.length=len∧D_ a b l st) (fun (i:Int) (st:List (Int))=>(b-i).toNat) (a+IntKind.i64.wrap ((b-a).tdiv 4)*2-1) (l)  (⟨⟨by omega,by omega⟩,by omega,D_.refl _ _ _⟩) kz (fun _ _ h=>h) ?_))
 rintro i st  ⟨⟨hi1,hi2⟩,KV,Jg⟩
 refine ac ?_
 refine co rfl (F7 rfl (vl rfl) (vl rfl) AA) ?_
 refine co rfl (J2 rfl (vl rfl) (vl rfl) ?hin) ?_;case hin=>unfold Oj;omega
 refine ac ?_
 refine wk [33,9,8,7,6,1,0] rfl ?_
 refine Tr.cn rfl ?_ ?_<;>intro h2 q2
 have:=h2
 refine ac ?_
 refine Tr.seq (Tr.block (Tr.seq (Tr.BI (TO.FL 0 rfl rfl AD (Ak rfl rfl AD rfl (xX) kz) ?_))))
 refine ap ?_
 refine tp rfl (mM rfl (vl rfl) (vl rfl) AA AA) ?_
 refine TO.ex 39 rfl (fun z1=>TO.fact 39 rfl fun E2=> ?_)
 refine tp rfl (W0 rfl underlying201 underlying3 (vl rfl) Ku) ?_
 refine ap ?_
 refine Tr.vG _ (kk [9,8,7,6,1,0] rfl) (fun (ot:Int)=>[(10,int ot)]) (fun (ot:Int)=>Hp M0 w0 S (AE true b1 329 [Dt .u64]::AE true b0 3 ((st.map (fun t:Int=>[int t])).flatten++sp.map is)::Ac M1 w1::rs)) (fun (ot:Int)=>0≤ot∧ot<b-a) ?_ ?_
 refine ac ?_
 refine wk [43,10,9,8,7,6,1,0] rfl ?_
 refine Tr.cn rfl ?_ ?_<;>intro h3 q3
 refine ac ?_
 exact Fin.GW (_)  (⟨by omega,by omega⟩) ⟨ke rfl,ke rfl,ke rfl,ke rfl,ke rfl,ke rfl,ke rfl,trivial⟩ (fun _ _ h=>h)
 refine Tr.skip (Fin.GW (_)  (⟨by omega,by omega⟩) ⟨ke rfl,ke rfl,ke rfl,ke rfl,ke rfl,ke rfl,ke rfl,trivial⟩ (fun _ _ h=>h))
 rintro ot  ⟨AMB,AMC⟩
 refine Tr.rx ?_
 refine ay ?_
 refine xo rfl (fun _=>AH rfl underlying22 BJ (vl rfl) (vl rfl) AA AA) (GV 1 rfl rfl (AW rfl BT (vl rfl) (Aj (g:=(fun t:Int=>int t)) AA)) ?_)
 refine ay ?_
 refine xo rfl (fun _=>AH rfl underlying22 BJ (vl rfl) (vl rfl) AA AA) (GV 1 rfl rfl (AW rfl BT (vl rfl) (Aj (g:=(fun t:Int=>int t)) AA)) (xo rfl (fun _=>AH rfl underlying22 BJ (vl rfl) (vl rfl) AA AA) ?_))
 refine Cx.C0 1 rfl rfl (Aq rfl rfl (vl rfl) (Vo rfl) BJ rfl D4 (BL (f:=(fun t:Int=>[int t])) (fun _=>rfl) AA)) ?_
 refine xo rfl (fun _=>AH rfl underlying22 BJ (vl rfl) (vl rfl) AA AA) ?_
 refine Cx.C0 1 rfl rfl (Aq rfl rfl (vl rfl) (Vo rfl) BJ rfl FW (BL (f:=(fun t:Int=>[int t])) (fun _=>rfl) Ez)) ?_
 refine Cx.nil ⟨by kernel_rfl,?_⟩
 refine BE.done al3 ?_
 refine ac ?_
 refine wk [9,8,7,6,1,0] rfl ?_
 refine ac ?_
 exact Fin.CC (i+1) (_)  (⟨⟨⟨by omega,by omega⟩,by simp only [List.length_set];exact KV,Jg.swap AA AA AA AA AA AA AA⟩,by omega⟩) ⟨ke rfl,kz⟩ (fun _ _ h=>h)
 have:=h2
 refine Tr.exit (Fin.Ai (Fin.Ai (Fin.BB (Fin.C6 (D_ a b l) 1 rfl (by exact Jg) ?_))))
 refine Fin.drop 0 (Fin.NB rfl)
 refine Tr.skip (Fin.C6 (D_ a b l) 0 rfl (by exact D_.refl _ _ _) ?_)
 exact Fin.NB rfl
theorem jg {l:List (Int)} {c:Int×Int→Int} {b0 len:Nat} {a b kN:Int} (hc:∀x y,c (x,y)=DB x y) (Kr:l.length=len) (II:len≤1000000) (hw:Go.Sort.SWO (Ct c)) (hc5:len<50) (hB:Go.Sort.Below (Ct c) a.toNat b.toNat l.toArray) (h0:0≤a) (hab:a≤b) (hb:b≤len) (nG:0≤kN) (hl1:kN≤100) (m:Nat) (hm:(b-a).toNat<m) (ih:∀{l:List (Int)} {a b kN:Int} {sp:List Value},l.length=len→Go.Sort.Below (Ct c) a.toNat b.toNat l.toArray→0≤a→a≤b→b≤len→0≤kN→kN≤100→(b-a).toNat+1<m→Ba prog 100 [is (.slice (some ⟨b0,0,none⟩) len cap),int a,int b,int kN] (Ey) (AE true b0 3 ((l.map (fun t:Int=>[int t])).flatten++sp.map is)) (fun _=>C5 b0 3 (fun t:Int=>[int t]) (Gh c a b l) (sp.map is))):Ba prog 100 [is (.slice (some ⟨b0,0,none⟩) len cap),int a,int b,int kN] (Ey) (AE true b0 3 ((l.map (fun t:Int=>[int t])).flatten++sp.map is)) (fun _=>C5 b0 3 (fun t:Int=>[int t]) (Gh c a b l) (sp.map is)):=by
 refine Ba.of func100 rfl rfl Am fun M0 w0 S rs M1 w1=> ?_
 have hls:b.toNat≤l.toArray.size:=by simp only [List.size_toArray];omega
 refine a2 ?_
 refine Tr.block (Tr.lR [(0,_)] ⟨ke rfl,trivial⟩ (fun (a1:Int) (b1:Int) (p:Int×Bool×Bool) (st:List (Int))=>[(1,int a1),(2,int b1),(3,int p.1),(8,bool p.2.1),(9,bool p.2.2)]) (fun (a1:Int) (b1:Int) (p:Int×Bool×Bool) (st:List (Int))=>Hp M0 w0 S (AE true b0 3 ((st.map (fun t:Int=>[int t])).flatten++sp.map is)::Ac M1 w1::rs)) (fun (a1:Int) (b1:Int) (p:Int×Bool×Bool) (st:List (Int))=>((a≤a1∧a1≤b1∧b1≤b)∧0≤p.1∧p.1≤100)∧st.length=len∧PS (Ct c) a.toNat b.toNat a1.toNat b1.toNat l.toArray st.toArray) (fun (a1:Int) (b1:Int) (p:Int×Bool×Bool) (st:List (Int))=>(b1-a1).toNat) (a) (b) ((kN,(true,true))) (l)  (⟨⟨⟨by omega,hab,by omega⟩,nG,hl1⟩,Kr,PS.init AA hB⟩) ⟨ke rfl,ke rfl,ke rfl,ke rfl,ke rfl,trivial⟩ (fun _ _ h=>h) ?_)
 rintro a1 b1 p st  ⟨⟨⟨ha1,ha2,ha3⟩,hpl,AB4⟩,KV,hps⟩
 refine ac ?_
 refine an ?_ ?_<;>intro h1 q1
 refine ap ?_
 refine TO.FL 0 rfl rfl AD (Ak rfl rfl AD rfl (rU hc AA AA hw AA AA AA) ⟨ke rfl,ke rfl,ke rfl,trivial⟩) (TO.Eg 0 rfl fun t1 Mj=> ?_)
 have je:=Mj.len
 have hdone:=(hps.perm hls Mj.1).done Mj.2
 refine ap ?_
 refine Tr.weak [] trivial (Tr.ret (Fin.AF (Fin.AP (Fin.AF (Fin.AP (Fin.C6 (Gh c a b l) 0 rfl (hdone) (Fin.L8 rfl)))))))
 refine a2 ?_
 refine wk8 0 1 2 3 8 9 10 29 rfl ?_
 refine Tr.cn rfl ?_ ?_<;>intro h2 q2
 refine ap ?_
 refine TO.FL 0 rfl rfl AD (Ak rfl rfl AD rfl (jd hc AA AA hw AA AA AA) ⟨ke rfl,ke rfl,ke rfl,trivial⟩) (TO.Eg 0 rfl fun t2 dw=> ?_)
 have AB4:=dw.len
 have hdone:=(hps.perm hls dw.1).done dw.2
 refine ap ?_
 refine Tr.ret (Fin.AF (Fin.AP (Fin.AF (Fin.AP (Fin.C6 (Gh c a b l) 0 rfl (hdone) (Fin.L8 rfl))))))
 refine ac ?_
 refine Tr.vH [(0,_),(1,_),(2,_),(8,_),(9,_),(10,_)] ⟨ke rfl,ke rfl,ke rfl,ke rfl,ke rfl,ke rfl,trivial⟩ (fun (S1:Int) (Ns:List (Int))=>[(3,int S1)]) (fun (S1:Int) (Ns:List (Int))=>Hp M0 w0 S (AE true b0 3 ((Ns.map (fun t:Int=>[int t])).flatten++sp.map is)::Ac M1 w1::rs)) (fun (S1:Int) (Ns:List (Int))=>0≤S1∧S1≤100∧Ns.length=len∧PS (Ct c) a.toNat b.toNat a1.toNat b1.toNat l.toArray Ns.toArray) ?_ ?_
 refine an ?_ ?_<;>intro h3 q3
 refine ap ?_
 refine TO.FL 0 rfl rfl AD (Ak rfl rfl AD rfl (ry hc AA AA AA AA AA AA) ⟨ke rfl,ke rfl,ke rfl,trivial⟩) (TO.Eg 0 rfl fun t3 hp3=> ?_)
 have AMD:=hp3.len
 have hps:=hps.perm hls hp3
 refine ap ?_
 refine wk7 0 1 2 3 8 9 10 rfl ?_
 refine ac ?_
 exact Fin.CC (_) (_)  (⟨by omega,by omega,by omega,hps⟩) ⟨ke rfl,ke rfl,ke rfl,ke rfl,ke rfl,ke rfl,ke rfl,trivial⟩ (fun _ _ h=>h)
 refine Tr.skip (Fin.CC (_) (_)  (⟨by omega,by omega,by omega,hps⟩) ⟨ke rfl,ke rfl,ke rfl,ke rfl,ke rfl,ke rfl,ke rfl,trivial⟩ (fun _ _ h=>h))
 rintro S1 Ns  ⟨rz,r7,rV,hps⟩
 refine ap ?_
 refine TO.FL 0 rfl rfl AD (Ak rfl rfl AD rfl (ru hc AA AA AA AA AA AA) ⟨ke rfl,ke rfl,ke rfl,trivial⟩) ?_
 refine TO.ex 46 rfl (fun z1=>TO.fact 46 rfl fun E2=> ?_)
 obtain ⟨AKg,AKh⟩:=E2
 refine ap ?_
 refine wk9 0 1 2 3 8 9 10 11 12 rfl (Tr.vI [(0,_),(1,_),(2,_),(3,_),(8,_),(9,_),(10,_)] ⟨ke rfl,ke rfl,ke rfl,ke rfl,ke rfl,ke rfl,ke rfl,trivial⟩ (fun (pv:Int) (hint:Int) (st3:List (Int))=>[(11,int pv),(12,int hint)]) (fun (pv:Int) (hint:Int) (st3:List (Int))=>Hp M0 w0 S (AE true b0 3 ((st3.map (fun t:Int=>[int t])).flatten++sp.map is)::Ac M1 w1::rs)) (fun (pv:Int) (hint:Int) (st3:List (Int))=>(a1≤pv∧pv<b1)∧st3.length=len∧PS (Ct c) a.toNat b.toNat a1.toNat b1.toNat l.toArray st3.toArray) ?_ ?_)
 refine an ?_ ?_<;>intro h4 q4
 refine ap ?_
 refine TO.FL 0 rfl rfl AD (Ak rfl rfl AD rfl (rW hc AA AA AA AA AA) ⟨ke rfl,ke rfl,ke rfl,trivial⟩) (TO.Eg 0 rfl fun t5 hp5=> ?_)
 have AME:=hp5.len
 have hps:=hps.perm hls hp5
 refine ap ?_
 refine wk8 0 1 2 3 8 9 10 11 rfl ?_
 refine ac ?_
 refine wk8 0 1 2 3 8 9 10 11 rfl ?_
 refine ac ?_
 exact Fin.DE (_) (_) (_)  (⟨⟨by omega,by omega⟩,by omega,hps⟩) ⟨ke rfl,ke rfl,ke rfl,ke rfl,ke rfl,ke rfl,ke rfl,ke rfl,ke rfl,trivial⟩ (fun _ _ h=>h)
 refine Tr.skip (Fin.DE (_) (_) (_)  (⟨⟨by omega,by omega⟩,by omega,hps⟩) ⟨ke rfl,ke rfl,ke rfl,ke rfl,ke rfl,ke rfl,ke rfl,ke rfl,ke rfl,trivial⟩ (fun _ _ h=>h))
 rintro pv hint st3  ⟨⟨AKg,AKh⟩,AMF,hps⟩
 refine wk9 0 1 2 3 8 9 10 11 12 rfl (Tr.Jn [0,1,2,3,8,9,10,11] [] (True) ?_ (fun h5=> ?_))
 refine ag ?_ ?_<;>intro h6 q6
 refine ag ?_ ?_<;>intro h7 q7
 refine ac ?_
 refine wk9 0 1 2 3 8 9 10 11 68 rfl ?_
 refine Tr.cn rfl ?_ ?_<;>intro h8 q8
 refine ap ?_
 refine TO.FL 0 rfl rfl AD (Ak rfl rfl AD rfl (jf hc AA AA hw AA AA AA AA) ⟨ke rfl,ke rfl,ke rfl,trivial⟩) ?_
 refine TO.ex 72 rfl (fun z2=>TO.fact 72 rfl fun HW=> ?_)
 have Wg:=HW
 refine ap ?_
 refine Tr.cn rfl ?_ ?_<;>intro h9 q9
 have hdone:=hps.done (Wg h9)
 refine Tr.ret (Fin.AF (Fin.AP (Fin.AF (Fin.AP (Fin.C6 (Gh c a b l) 0 rfl (hdone) (Fin.L8 rfl))))))
 refine Tr.skip (Fin.AL () B9 (kk8 rfl))
 refine Tr.skip (Fin.AL () B9 (kk8 rfl))
 refine ac ?_
 refine wk9 0 1 2 3 8 9 10 11 68 rfl (Tr.cond rfl (fun h=>nomatch h) (fun _=> ?_))
 refine Tr.skip (Fin.AL () B9 (kk8 rfl))
 refine ac ?_
 refine wk9 0 1 2 3 8 9 10 11 68 rfl (Tr.cond rfl (fun h=>nomatch h) (fun _=> ?_))
 refine Tr.skip (Fin.AL () B9 (kk8 rfl))
 refine ag ?_ ?_<;>intro h10 O2
 refine ac ?_
 refine cy h10 rfl (AH rfl underlying22 BJ (vl rfl) (vl rfl) AA AA) (cy h10 rfl (Bi 0 rfl (AW rfl BT (vl rfl) (Aj (g:=(fun t:Int=>int t)) AA))) ?_)
 refine ac ?_
 refine cy h10 rfl (AH rfl underlying22 BJ (vl rfl) (vl rfl) AA AA) (cy h10 rfl (Bi 0 rfl (AW rfl BT (vl rfl) (Aj (g:=(fun t:Int=>int t)) AA))) (cy h10 rfl (Bu (C4 hc) rfl rfl rfl) ?_))
 refine ac ?_
 refine wk9 0 1 2 3 8 9 10 11 87 rfl ?_
 refine Tr.cn rfl ?_ ?_<;>intro h11 Rz
 refine ap ?_
 refine TO.FL 0 rfl rfl AD (Ak rfl rfl AD rfl (rX hc AA AA AA AA AA AA AA) ⟨ke rfl,ke rfl,ke rfl,ke rfl,trivial⟩) (TO.Eg 0 rfl fun t7 hp7=> ?_)
 have AMG:=hp7.len
 obtain ⟨hps,hk1,hk2⟩:=hps.eqL hw hls hp7 AA AA rfl AA AA AA AA AA BO
 refine ap ?_
 refine wk6 0 2 3 8 9 13 rfl ?_
 refine ac ?_
 refine Tr.exit (Fin.Ai (Fin.BB (Fin.M_ (_) (_) ((S1,(_,_))) (_)  (⟨⟨⟨⟨by omega,by omega,by omega⟩,rz,r7⟩,by omega,by exact hps⟩,by omega⟩) ⟨ke rfl,ke rfl,ke rfl,ke rfl,ke rfl,ke rfl,trivial⟩ (fun _ _ h=>h))))
 refine ac ?_
 refine ap ?_
 refine TO.FL 0 rfl rfl AD (Ak rfl rfl AD rfl (Uj hc AA AA AA AA AA AA AA) ⟨ke rfl,ke rfl,ke rfl,ke rfl,trivial⟩) ?_
 refine TO.ex 99 rfl (fun z3=>TO.fact 99 rfl fun hz3=> ?_)
 refine TO.Eg 0 rfl fun t8 hp8=> ?_
 have AMH:=hp8.len
 obtain ⟨hPm,jh⟩:=T6 hw hp8 AA AA AA AA
 have hps:=hps.perm hls hPm
 have hk1:=jh.h1
 have hk2:=jh.h2
 generalize (PA c a1 b1 pv st3).1=k at*
 refine ap ?_
 refine wk7 0 1 2 3 10 14 15 rfl ?_
 refine a2 ?_
 refine wk9 0 1 2 3 9 10 14 16 17 rfl ?_
 refine ac ?_
 refine co rfl (F7 rfl (vl rfl) (vl rfl) AA) ?_
 refine a2 ?_
 refine ZW 0 1 2 3 9 14 16 17 18 113 rfl ?_
 refine Tr.cn rfl ?_ ?_<;>intro h12 TN
 refine ac ?_
 refine wk7 0 1 2 3 8 9 14 rfl ?_
 refine ap ?_
 refine TO.FL 0 rfl rfl AD (Ak rfl rfl AD rfl (ih AA (by exact hps.mT (Nat.le_of_lt jh.h2)) AA AA AA AA AA AA) ⟨ke rfl,ke rfl,ke rfl,ke rfl,trivial⟩) ?_
 refine TO.Eg 0 rfl fun t9 hp9=> ?_
 have AMI:=hp9.len
 have hps:=hps.left hw hls jh hp9.1 hp9.2
 refine ap ?_
 refine ac ?_
 exact Fin.M_ (_) (_) ((S1,(_,_))) (_)  (⟨⟨⟨⟨by omega,by omega,by omega⟩,rz,r7⟩,by omega,by exact hps⟩,by omega⟩) ⟨ke rfl,ke rfl,ke rfl,ke rfl,ke rfl,ke rfl,trivial⟩ (fun _ _ h=>h)
 refine ac ?_
 refine wk7 0 1 2 3 8 9 14 rfl ?_
 refine ap ?_
 refine TO.FL 0 rfl rfl AD (Ak rfl rfl AD rfl (ih AA (by exact jh.mU) AA AA AA AA AA AA) ⟨ke rfl,ke rfl,ke rfl,ke rfl,trivial⟩) ?_
 refine TO.Eg 0 rfl fun t10 AB7=> ?_
 have ALL:=AB7.len
 have hps:=hps.right hw hls jh AB7.1 AB7.2
 refine ap ?_
 refine ac ?_
 exact Fin.M_ (_) (_) ((S1,(_,_))) (_)  (⟨⟨⟨⟨by omega,by omega,by omega⟩,rz,r7⟩,by omega,by exact hps⟩,by omega⟩) ⟨ke rfl,ke rfl,ke rfl,ke rfl,ke rfl,ke rfl,trivial⟩ (fun _ _ h=>h)
 refine ac ?_
 refine wk9 0 1 2 3 8 9 10 11 87 rfl ?_
 refine ac ?_
 refine ap ?_
 refine TO.FL 0 rfl rfl AD (Ak rfl rfl AD rfl (Uj hc AA AA AA AA AA AA AA) ⟨ke rfl,ke rfl,ke rfl,ke rfl,trivial⟩) ?_
 refine TO.ex 99 rfl (fun z4=>TO.fact 99 rfl fun hz4=> ?_)
 refine TO.Eg 0 rfl fun t11 AGi=> ?_
 have ALM:=AGi.len
 obtain ⟨hPm,jh⟩:=T6 hw AGi AA AA AA AA
 have hps:=hps.perm hls hPm
 have hk1:=jh.h1
 have hk2:=jh.h2
 generalize (PA c a1 b1 pv st3).1=k at*
 refine ap ?_
 refine wk7 0 1 2 3 10 14 15 rfl ?_
 refine a2 ?_
 refine wk9 0 1 2 3 9 10 14 16 17 rfl ?_
 refine ac ?_
 refine co rfl (F7 rfl (vl rfl) (vl rfl) AA) ?_
 refine a2 ?_
 refine ZW 0 1 2 3 9 14 16 17 18 113 rfl ?_
 refine Tr.cn rfl ?_ ?_<;>intro J8 Vs
 refine ac ?_
 refine wk7 0 1 2 3 8 9 14 rfl ?_
 refine ap ?_
 refine TO.FL 0 rfl rfl AD (Ak rfl rfl AD rfl (ih AA (by exact hps.mT (Nat.le_of_lt jh.h2)) AA AA AA AA AA AA) ⟨ke rfl,ke rfl,ke rfl,ke rfl,trivial⟩) ?_
 refine TO.Eg 0 rfl fun t12 AB8=> ?_
 have ALN:=AB8.len
 have hps:=hps.left hw hls jh AB8.1 AB8.2
 refine ap ?_
 refine ac ?_
 exact Fin.M_ (_) (_) ((S1,(_,_))) (_)  (⟨⟨⟨⟨by omega,by omega,by omega⟩,rz,r7⟩,by omega,by exact hps⟩,by omega⟩) ⟨ke rfl,ke rfl,ke rfl,ke rfl,ke rfl,ke rfl,trivial⟩ (fun _ _ h=>h)
 refine ac ?_
 refine wk7 0 1 2 3 8 9 14 rfl ?_
 refine ap ?_
 refine TO.FL 0 rfl rfl AD (Ak rfl rfl AD rfl (ih AA (by exact jh.mU) AA AA AA AA AA AA) ⟨ke rfl,ke rfl,ke rfl,ke rfl,trivial⟩) ?_
 refine TO.Eg 0 rfl fun t13 AB9=> ?_
 have ALO:=AB9.len
 have hps:=hps.right hw hls jh AB9.1 AB9.2
 refine ap ?_
 refine ac ?_
 exact Fin.M_ (_) (_) ((S1,(_,_))) (_)  (⟨⟨⟨⟨by omega,by omega,by omega⟩,rz,r7⟩,by omega,by exact hps⟩,by omega⟩) ⟨ke rfl,ke rfl,ke rfl,ke rfl,ke rfl,ke rfl,trivial⟩ (fun _ _ h=>h)
theorem Ya:∀(m:Nat) {l:List (Int)} {c:Int×Int→Int} {b0 cap len:Nat} {sp:List Value} {a b kN:Int},(hc:∀x y,c (x,y)=DB x y)→(Kr:l.length=len)→(II:len≤1000000)→(hw:Go.Sort.SWO (Ct c))→(hc5:len<50)→Go.Sort.Below (Ct c) a.toNat b.toNat l.toArray→0≤a→a≤b→b≤len→0≤kN→kN≤100→(b-a).toNat<m→Ba Tryz.prog 100 [is (.slice (some ⟨b0,0,none⟩) len cap),int a,int b,int kN] (Ey) (AE true b0 3 ((l.map (fun t:Int=>[int t])).flatten++sp.map is)) (fun _=>C5 b0 3 (fun t:Int=>[int t]) (Gh c a b l) (sp.map is))
 |0,_,_,_,_,_,_,_,_,_,_,_,_,_,_,_,_,_,_,_,_,h=>absurd h (Nat.not_lt_zero _)
 |m+1,_,_,_,_,_,_,_,_,_,hc,Kr,II,hw,hc5,hB,h0,hab,hb,nG,hl1,hm=>jg hc Kr II hw hc5 hB h0 hab hb nG hl1 (m+1) hm (fun h1 h2 h3 h4 h5 h6 h7 h8=>Ya m hc h1 II hw hc5 h2 h3 h4 h5 h6 h7 AA)
theorem r8 {l:List (Int)} {c:Int×Int→Int} {b0 len:Nat} (hc:∀x y,c (x,y)=DB x y) (Kr:l.length=len) (hw:Go.Sort.SWO (Ct c)) (hc5:len<50):Ba prog 64 [is (.slice (some ⟨b0,0,none⟩) len cap)] (Ey) (AE true b0 3 ((l.map (fun t:Int=>[int t])).flatten++sp.map is)) (fun _=>C5 b0 3 (fun t:Int=>[int t]) (Gh c 0 len l) (sp.map is)):=by
 refine Ba.of func64 rfl rfl Am fun M0 w0 S rs M1 w1=> ?_
 have AKc:IntKind.u64.wrap ((len:Nat):Int)=len:=IntWalk.u64_in _ ⟨by omega,by omega⟩
 refine ac ?_
 refine co rfl (FB rfl underlying22 vq) ?_
 refine ac ?_
 refine ap ?_
 refine tp rfl (Cr rfl underlying3 underlying201 vq) (tp rfl (CE (Nj AA AA) rfl rfl) ?_)
 refine TO.ex 9 rfl (fun k=>TO.fact 9 rfl fun hk=> ?_)
 obtain ⟨hk1,hk2,hk3⟩:=hk
 refine TO.FL 0 rfl rfl AD (Ak rfl rfl AD rfl (Ya (len+1) hc AA AA hw AA (.inl rfl) AA AA AA AA AA AA) ⟨ke rfl,ke rfl,ke rfl,ke rfl,trivial⟩) (TO.Eg 0 rfl fun t1 Mj=> ?_)
 have je:=Mj.len
 refine TO.nil (Fin.C6 (Gh c 0 len l) 0 rfl (Mj) (Fin.NB rfl))
theorem r9 {b:Int} (hb:b≤1):A_ prog 161 [slice 1 rows,int 0,int b] (Ey):=by
 refine fo func161 rfl ⟨rfl,rfl⟩ fun M0 w0=> ?_
 refine ac ?_
 refine Tr.block (Tr.A0 _ (kk [2,1,0] rfl) (fun i:Int=>[(6,int i)]) (fun i:Int=>i=1) (fun i:Int=>0) 1 (rfl) kz ?_)
 rintro i hi
 refine an ?_ ?_<;>intro h1 q1
 have:=h1
 exfalso;omega
 have:=h1
 refine Tr.exit (Fin.Ai (Fin.Ai (Fin.BB (Fin.u_ rfl))))
theorem r_ {b:Int} (h0:0≤b) (hb:b≤1):A_ prog 100 [slice 1 rows,int 0,int b,any] (Ey):=by
 refine fo func100 rfl ⟨rfl,rfl⟩ fun M0 w0=> ?_
 refine a2 ?_
 refine Tr.block (Tr.A0 _ (kk [0] rfl) (fun (u:Unit)=>[(1,int 0),(2,int b)]) (fun (u:Unit)=>True) (fun (u:Unit)=>0) () (trivial) ⟨kq,kz⟩ ?_)
 rintro u _
 refine ac ?_
 refine an ?_ ?_<;>intro h1 q1
 refine ac ?_
 refine co rfl (Iy (r9 AA) rfl rfl rfl rfl) ?_
 refine ac ?_
 refine Tr.ret (Fin.AF (Fin.AP (Fin.AF (Fin.AP (Fin.yj rfl)))))
 exfalso;omega
theorem ji (hs:rows.length≤1):A_ prog 64 [slice 1 rows] (Ey):=by
 refine fo func64 rfl ⟨rfl,rfl⟩ fun M0 w0=> ?_
 have hw:IntKind.u64.wrap ((rows.length:Nat):Int)=rows.length:=IntWalk.u64_in _ ⟨by omega,by omega⟩
 refine ac ?_
 refine co rfl (CB rfl underlying22 vq) ?_
 refine a2 ?_
 refine co rfl (Cr rfl underlying3 underlying201 vq) (co rfl (CE (Nj AA AA) rfl rfl) (co rfl (AY rfl (r_ (rows:=rows) (b:=(rows.length:Int)) AA AA) ⟨kq,kq,kq,⟨_,rfl,Q5 _⟩,trivial⟩) (Ch.nil (Fin.u_ rfl))))
theorem sA {l:List (Int)} {b0 len:Nat} (Kr:l.length=len) (II:len≤1000000) (hcap:len≤cap) (hm:cap≤maxLen):Ba prog 65 [is (.slice (some ⟨b0,0,none⟩) len cap)] (is (.slice (some ⟨b0,0,none⟩) (LO l).length cap)) (AE true b0 3 ((l.map (fun t:Int=>[int t])).flatten++sp.map is)) (fun _=>AE true b0 3 (((LO l).map (fun t:Int=>[int t])).flatten++((List.replicate (l.length-(LO l).length) (([.int .i64 0]:List Value).map is)).flatten++sp.map is))):=by
 refine Ba.of func65 rfl rfl Am fun M0 w0 S rs M1 w1=> ?_
 have hmx:cap≤9223372036854775807:=by unfold maxLen at hm;omega
 refine a2 ?_
 refine co rfl (FB rfl underlying22 vq) ?_
 refine an ?_ ?_<;>intro h1 q1
 refine ac ?_
 refine Tr.ret (Fin.AF ?_)
 refine Fin.ER rfl rfl ?_ (fun _ _ _ _=>by rw [G8 AA,Nat.sub_self];rfl)
 · refine Pr.le_of_eq ?_;rw [G8 AA,Kr]
 refine a2 ?_
 refine Tr.block ?_
 refine Tr.E5 _ (kk [0] rfl) (fun (k:Nat)=>[(3,int ((k:Nat):Int))]) (fun (k:Nat)=>Hp M0 w0 S (AE true b0 3 ((l.map (fun t:Int=>[int t])).flatten++sp.map is)::Ac M1 w1::rs)) (fun (k:Nat)=>(1≤k∧k≤len)∧LO (l.take k)=l.take k) (fun (k:Nat)=>len-k) (1)  (⟨⟨by omega,by omega⟩,G8 I2⟩) kz (fun _ _ h=>h) ?_
 rintro k  ⟨⟨hk1,hk2⟩,lB⟩
 refine ac ?_
 refine co rfl (FB rfl underlying22 vq) ?_
 refine an ?_ ?_<;>intro h2 q2
 have S8:k<len:=by have:=of_decide_eq_true h2;omega
 obtain ⟨x,hx⟩:=at_ (l:=l) (k:=k) AA
 obtain ⟨p,hp⟩:=at_ (l:=l) (k:=k-1) AA
 refine a2 ?_
 refine co rfl (AH rfl underlying22 BJ vq vq AA AA) (co rfl (Bi 0 rfl (AW rfl BT vq (Df (g:=fun t:Int=>int t) (k:=k) AA hx))) ?_)
 refine ac ?_
 refine co rfl (AH rfl underlying22 BJ vq vq AA AA) (co rfl (Bi 0 rfl (AW rfl BT vq (Df (g:=fun t:Int=>int t) (k:=k-1) AA hp))) ?_)
 refine ac ?_
 refine wk [25,3,0] rfl ?_
 refine Tr.cn rfl ?_ ?_<;>intro h3 q3
 refine ac ?_
 refine co rfl (GY rfl underlying22 BJ vq vq AA AA AA) ?_
 refine a2 ?_
 refine Tr.block (Tr.Gd _ (kk [4,0] rfl) (fun (st:List (Int)) (w:Nat) (j:Nat)=>[(3,int ((w:Nat):Int)),(5,int ((j:Nat):Int))]) (fun (st:List (Int)) (w:Nat) (j:Nat)=>Hp M0 w0 S (AE true b0 3 ((st.map (fun t:Int=>[int t])).flatten++sp.map is)::Ac M1 w1::rs)) (fun (st:List (Int)) (w:Nat) (j:Nat)=>(st.length=len∧k≤w∧1≤j∧k+j≤len∧w+1≤k+j)∧st.take w=LO (l.take (k+j))∧∀i,k+j≤i+1→st[i]? =l[i]?) (fun (st:List (Int)) (w:Nat) (j:Nat)=>len-(k+j)) (l) (k) (1)  (⟨⟨Kr,Nat.le_refl _,Nat.le_refl _,by omega,by omega⟩,by rw [Nk AA hx hp (Iff.rfl.2 BO),lB],fun _ _=>rfl⟩) ⟨kq,kz⟩ (fun _ _ h=>h) ?_)
 rintro st w j  ⟨⟨KV,hw1,j5,hj2,hw2⟩,dG,hst⟩
 refine ac ?_
 refine co rfl (FB rfl underlying22 vq) ?_
 refine an ?_ ?_<;>intro h4 q4
 have hjl:k+j<len:=by have:=of_decide_eq_true h4;omega
 obtain ⟨u,hu⟩:=at_ (l:=l) (k:=k+j) AA
 obtain ⟨v,hv⟩:=at_ (l:=l) (k:=k+j-1) AA
 have hu2:st[k+j]? =some u:=(hst _ AA).trans hu
 have PO:st[k+j-1]? =some v:=(hst _ AA).trans hv
 refine a2 ?_
 refine co rfl (AH rfl underlying22 BJ vq vq AA AA) (co rfl (Bi 0 rfl (AW rfl BT vq (Df (g:=fun t:Int=>int t) (k:=k+j) AA hu2))) ?_)
 refine ac ?_
 refine co rfl (AH rfl underlying22 BJ vq vq AA AA) (co rfl (Bi 0 rfl (AW rfl BT vq (Df (g:=fun t:Int=>int t) (k:=k+j-1) AA PO))) ?_)
 refine ac ?_
 refine wk [44,5,4,3,0] rfl ?_
 refine Tr.cn rfl ?_ ?_<;>intro h5 q5
 refine ap ?_
 refine tp rfl (AH rfl underlying22 BJ vq vq AA AA) (TO.rd 0 rfl rfl rfl AD (AW rfl BT vq (Df (g:=fun t:Int=>int t) (k:=k+j) AA hu2)) (tp rfl (AH rfl underlying22 BJ vq vq AA AA) ?_))
 refine TO.C0 0 rfl rfl (Aq rfl rfl (vl rfl) (Vo rfl) BJ rfl D4 (Rf (f:=(fun t:Int=>[int t])) (fun _=>rfl) AA)) ?_
 refine ap ?_
 refine ac ?_
 refine wk [5,4,3,0] rfl ?_
 refine ac ?_
 exact Fin.DE (st.set w u) (w+1) (j+1)  (⟨⟨⟨by rw [List.length_set];exact KV,by omega,by omega,by omega,by omega⟩,by rw [YX AA,dG];exact (WW (j:=k+j) AA hu hv (fun e=>absurd (Iff.rfl.1 e) BO)).symm,fun i hi=>by rw [List.getElem?_set_ne AA];exact hst i AA⟩,by omega⟩) ⟨⟨_,rfl,AG w⟩,⟨_,rfl,AG j⟩,kz⟩ (fun _ _ h=>h)
 refine a2 ?_
 exact Fin.DE (st) (w) (j+1)  (⟨⟨⟨KV,by omega,by omega,by omega,by omega⟩,dG.trans (Nk (j:=k+j) AA hu hv (Iff.rfl.2 BO)).symm,fun i hi=>hst i AA⟩,by omega⟩) ⟨kq,⟨_,rfl,AG j⟩,kz⟩ (fun _ _ h=>h)
 have hje:k+j=len:=by have:=of_decide_eq_false h4;omega
 have hE:st.take w=LO l:=by rw [dG,hje,←Kr,List.take_length]
 have hW:(LO l).length=w:=by rw [←hE,List.length_take];omega
 refine ac ?_
 refine ap ?_
 refine tp rfl (GY rfl underlying22 BJ vq vq AA AA AA) ?_
 refine TO.C0 0 rfl rfl (XH rfl rfl underlying22 BJ z3 rfl AD AD vq AA D4 (ND (f:=(fun t:Int=>[int t])) (sz:=1) (l:=st) (i:=w) (fun _=>rfl) rfl AA AA)) ?_
 refine ap ?_
 refine ac ?_
 refine co rfl (FP rfl underlying22 BJ vq vq AA AA AA AA) ?_
 refine ac ?_
 refine wk [2] rfl (Tr.ret (Fin.AP (Fin.AF (Fin.AF (Fin.AP (Fin.AF (Fin.ER rfl rfl ?_ (fun _ _ _ _=>by rw [hW,←hE,Kr,←KV,List.append_assoc]))))))))
 · refine Pr.le_of_eq ?_;rw [hW,Int.toNat_natCast]
 refine a2 ?_
 exact Fin.GW (k+1)  (⟨⟨⟨by omega,by omega⟩,by rw [WW AA hx hp (fun e=>absurd (Iff.rfl.1 e) BO),lB,List.take_add_one,hx];rfl⟩,by omega⟩) ⟨⟨_,rfl,AG k⟩,kz⟩ (fun _ _ h=>h)
 have Te:k=len:=by have:=of_decide_eq_false h2;omega
 refine a2 ?_
 refine Tr.ret ?_
 refine Fin.ER rfl rfl ?_ (fun _ _ _ _=>by rw [show LO l=l by rw [Te,←Kr,List.take_length] at lB;exact lB,Nat.sub_self];rfl)
 · exact b_
theorem sB (h0:0<n) (hn:n≤100000):Ba prog 99 [is (.slice none 0 0),int ((n:Nat):Int)] (lens 0) (Bo) (fun v=>BX 3 1 [] v):=by
 refine Ba.of func99 rfl rfl Am fun M0 w0 S rs M1 w1=> ?_
 refine ac ?_
 refine an ?_ ?_<;>intro h1 q1
 exfalso;omega
 refine a2 ?_
 refine co rfl (GH rfl underlying22 vq) (cm rfl (co rfl (GI rfl underlying22 vq) ?_))
 refine ac ?_
 refine an ?_ ?_<;>intro h2 q2
 refine ap ?_
 refine tp rfl (GH rfl underlying22 vq) (tp rfl (KC rfl underlying22 BJ vq vq) (tm rfl (TO.pad ?_)))
 refine TO.C1 0 rfl rfl AD (L9 rfl rfl AD rfl underlying22 underlying3 BJ IE z3 rfl AD AD vq vq (m:=n) AA h0 Fa AA) (fun v1=> ?_)
 refine TO.mY 0 22 rfl rfl (fun b1 YZ sp1 hg1 hm1 hs1=> ?_)
 refine tm rfl (tp rfl (GI rfl underlying22 vq) (tp rfl (FP rfl underlying22 BJ vq vq AA AA AA AA) ?_))
 refine ap ?_
 refine wk [0] rfl ?_
 refine ac ?_
 refine Tr.ret ?_
 refine Fin.L_ (sz:=1) (rows:=([]:List (List Pr))) (m:=0) (sp:=sp1) 0 rfl rfl (Nat.zero_le _) hm1 (by rw [hs1];rfl) ?_
 refine Fin.drop 1 ?_
 refine Fin.ER rfl rfl ?_ Ms
 · rintro _ _ _ rfl;exact ⟨_,_,rfl⟩
 exfalso;omega
theorem bS {ss:List (List (Int))} (h0:0<ss.flatten.length) (hn:ss.flatten.length≤100000):Ba prog 63 [slice 1 (ss.map fun a=>[slice 1 (a.map (fun t:Int=>[int t]))])] (lens (ss.flatten.map (fun t:Int=>[int t])).length) (Bo) (fun v=>HJ 3 1 (ss.flatten.map (fun t:Int=>[int t])) v):=by
 refine Ba.of func63 rfl rfl Am fun M0 w0 S rs M1 w1=> ?_
 refine Tr.CN 0 rfl fun C3=> ?_
 refine a3 ?_
 refine Tr.block (Tr.A0 _ (kk [10,9,0] rfl) (fun k:Nat=>[(11,int ((k:Nat):Int)),(3,int (((ss.take k).flatten.length:Nat):Int))]) (fun k:Nat=>k≤(ss).length) (fun k:Nat=>(ss).length-k) 0 (Nat.zero_le _) ⟨kq,⟨_,rfl,int_eq AR⟩,trivial⟩ ?_)
 rintro k BN
 refine ac ?_
 refine Tr.seq ?_
 refine Tr.cn rfl ?_ ?_<;>intro h1 q1
 have Ae:k<(ss).length:=AJ h1
 obtain ⟨x,Af⟩:=at_ Ae
 have hft:=Iu Af
 have hfl:=Fu ss (k+1)
 rw [hft,List.length_append] at hfl
 refine ac ?_
 refine Tr.seq (Tr.block (Tr.seq (Tr.Bq (co rfl (AB rfl underlying98 G0 vq vq AA Bk) ?_))))
 · exact kU
 have BC:k=(ss).length:=by have:=AK h1;omega
 subst BC
 rw [List.take_length]
 refine ac ?_
 refine ap ?_
 refine TO.pad ?_
 refine TO.C1 0 rfl rfl AD (FA rfl rfl AD rfl (sB (n:=ss.flatten.length) h0 hn) ⟨kq,kz⟩) (fun v1=> ?_)
 refine ap ?_
 refine ac ?_
 refine Tr.block (Tr.J6 _ (kk [26,25] rfl) (fun (m:Nat) v=>[(27,int ((m:Nat):Int)),(6,Ag v (lens (((ss.take m).flatten.map (fun t:Int=>[int t]))).length))]) (fun (m:Nat) v=>Hp M0 w0 S (BX 3 1 (((ss.take m).flatten.map (fun t:Int=>[int t]))) v::Bo::Ac M1 w1::rs)) (fun (m:Nat)=>m≤ss.length) (fun (m:Nat)=>ss.length-m) (0) v1 (Nat.zero_le _) ⟨kq,⟨_,rfl,Ci (by rfl)⟩,trivial⟩ (fun _ _ h=>h) ?_)
 rintro m v hml
 refine ac ?_
 refine Tr.seq ?_
 refine Tr.cn rfl ?_ ?_<;>intro h3 q3
 have hm2:m<ss.length:=AJ h3
 obtain ⟨x,Dn⟩:=at_ hm2
 have hft:=Iu Dn
 have hfl:=Fu ss (m+1)
 rw [hft,List.length_append] at hfl
 refine ac ?_
 refine Tr.seq (Tr.block (Tr.seq (Tr.Bq (co rfl (AB rfl underlying98 G0 vq vq AA Bk) ?_))))
 refine ac ?_
 refine ap ?_
 refine TO.C1 0 rfl rfl AD (Rs rfl rfl AD rfl underlying22 BJ IE z3 rfl AD AD vq vq (Bh fun _=>rfl) N0 Ko) (fun v2=> ?_)
 refine ap ?_
 refine ac ?_
 exact Fin.K0 (m+1) v2 (⟨by omega,by omega⟩) ⟨⟨_,rfl,AG m⟩,⟨_,rfl,Ci (by rw [hft,List.map_append,List.length_append])⟩,kz⟩ ((by rw [hft,List.map_append];exact fun _ _ h=>h))
 obtain rfl:m=ss.length:=(by have:=AK h3;omega)
 rw [List.take_length]
 refine a2 ?_
 refine Tr.ret ?_
 refine Fin.yt 0 rfl bp ?_
 refine Fin.drop 1 ?_
 refine Fin.ER rfl rfl ?_ Pu
 · exact GS
def CU (l:List (Int)):List (Int):=l.foldl (fun acc x=>LX DB acc x) []
theorem Me:∀(l acc:List (Int)),xd DB acc→xd DB (l.foldl (fun acc x=>LX DB acc x) acc)∧∀z,z∈l.foldl (fun acc x=>LX DB acc x) acc↔z∈acc∨z∈l
 |[],acc,h=>⟨h,fun z=>by simp⟩
 |x::l,acc,h=>by
  obtain ⟨h1,h2⟩:=Me l (LX DB acc x) (PN LM (fun a b e=>K5.1 e) h)
  refine ⟨h1,fun z=> ?_⟩
  show z∈l.foldl _ _↔_
  rw [h2,Sy (fun a b e=>K5.1 e),List.mem_cons,or_assoc]
theorem LN (l:List (Int)):xd DB (CU l):=(Me l [] List.Pairwise.nil).1
theorem FT (l:List (Int)) (z:Int):z∈CU l↔z∈l:=by rw [CU,(Me l [] List.Pairwise.nil).2];simp
theorem sC {l st:List (Int)} (hp:st.Perm l) (hs:JY DB st):LO st=CU l:=
 PM LM (bO LM (fun a b e=>K5.1 e) hs) (LN l) fun x=>by rw [xZ,FT];exact hp.mem_iff
theorem bT {ss:List (List (Int))} (h0:0<ss.flatten.length) (hn:ss.flatten.length<50):A_ prog 28 [slice 1 (ss.map fun a=>[slice 1 (a.map (fun t:Int=>[int t]))])] (slice 1 ((CU ss.flatten).map (fun t:Int=>[int t]))):=by
 refine fo func28 rfl ⟨rfl,rfl⟩ fun M0 w0=> ?_
 refine ac ?_
 refine ap ?_
 refine TO.pad ?_
 refine TO.C1 0 rfl rfl AD (FA rfl rfl AD rfl (bS h0 AA) kz) (fun v1=> ?_)
 refine TO.Oy 0 rfl fun b1 YZ sp1 TI hg1 hm1 hs1=> ?_
 subst TI
 refine ap ?_
 refine ap ?_
 refine TO.FL 0 rfl rfl AD (Ak rfl rfl AD rfl (r8 (l:=ss.flatten) (c:=fun p=>DB p.1 p.2) (len:=(ss.flatten.map (fun t:Int=>[int t])).length) (sp:=sp1) (fun _ _=>rfl) (List.length_map ..).symm LM.swo (by rw [List.length_map];exact hn)) ⟨Gi,trivial⟩) ?_
 refine TO.Eg 0 rfl fun t1 Mj=> ?_
 have je:=Mj.len
 have hsp:=bM LM (by rw [List.length_map] at Mj;exact Mj)
 have hdn:=sC hsp.1 hsp.2
 refine ap ?_
 refine ap ?_
 refine TO.FL 0 rfl rfl AD (Ak rfl rfl AD rfl (sA (l:=t1) (len:=(ss.flatten.map (fun t:Int=>[int t])).length) (sp:=sp1) (je.trans (List.length_map ..).symm) F8 hg1 hm1) ⟨Gi,trivial⟩) ?_
 refine ap ?_
 refine Tr.ret ?_
 refine Fin.Vc (sz:=1) ((LO t1).map (fun t:Int=>[int t])) 0 2 rfl rfl (Pr.le_of_eq (by rw [List.length_map])) (Bh fun _=>rfl) (by have:=fm t1;simp only [List.length_map] at hg1 ⊢;omega) hm1 (by have hdl:=fm t1;rw [je] at hdl;simp only [List.length_append,List.length_map,hs1,je];rw [Cv (sz:=1) (fun r hr=>by rw [List.eq_of_mem_replicate hr];rfl),List.length_replicate];simp only [List.length_map] at hg1 ⊢;omega) ?_
 refine Fin.tI rfl (Bt.Dx _ _) rfl ?_
 · exact Pr.le_trans (At _ _) (Pr.le_of_eq (by rw [hdn]))
end Go.Proofs.YteomgekmipcdpaaGreatDoor
namespace Cp
open Go Go.RowKit Go.Great
section
variable {P:Program} {L:Lg P} {n:Fm} {E:Env} {I:Cc} {M0:Av} {w0:World} {S:Nat→Prop} {rs:List Ay} {Q:Exit→Act→World→Prop} {c:Code}
theorem Tr.AB_ {α β γ:Type} (K:Env) (hK:CH E K) (ni:α→β→γ→Fm) (Ei:α→β→γ→Env) (Ii:α→β→γ→Cc) (C:α→β→γ→Prop) (μ:α→β→γ→Nat) (x0:α) (y0:β) (z0:γ) (hn:ni x0 y0 z0=n) (h0:C x0 y0 z0) (hs:CH E (Ei x0 y0 z0)) (hI:∀M w,I.h M w→(Ii x0 y0 z0).h M w)
  (k:∀x y z,C x y z→Tr L (ni x y z) (Ei x y z++K) (Ii x y z) c (Exit.then (fun a w=>∃x' y' z',(C x' y' z'∧μ x' y' z'<μ x y z)∧St (ni x' y' z') (Ei x' y' z'++K) (Ii x' y' z') a w) Q)):Tr L n E I (.loop c) Q:=
 Tr.qM (β := β × γ) K hK (fun x p => ni x p.1 p.2) (fun x p => Ei x p.1 p.2) (fun x p => Ii x p.1 p.2) (fun x p => C x p.1 p.2) (fun x p => μ x p.1 p.2) x0 (y0, z0) hn h0 hs hI
  fun x ⟨y,z⟩ hC a w hst=>L.mono (fun e a w hq=>by
   cases e with
   |normal=>obtain ⟨x',y',z',h1,h2⟩:=hq;exact ⟨x',(y',z'),h1,h2⟩
   |_=>exact hq) (k x y z hC a w hst)
theorem Fin.AGj {α β γ:Type} {ni:α→β→γ→Fm} {E1:α→β→γ→Env} {I1:α→β→γ→Cc} {C:α→β→γ→Prop} (i:α) (j:β) (v:γ) (hn:ni i j v=n) (hC:C i j v) (hs:CH E (E1 i j v)) (hI:∀M w,I.h M w→(I1 i j v).h M w):Fin n E I (Exit.then (fun a w=>∃x y z,C x y z∧St (ni x y z) (E1 x y z) (I1 x y z) a w) Q) .normal:=
 fun _ _ hst=>⟨i,j,v,hC,by rw [hn];exact hst.sub hs hI⟩
end
end Cp
