/-
  PlanAll: whatever the input, the law of this name returns true and its arguments read as before; the table of trailing zeros is tied to the program. No conditions.
-/
import Derived.Test.YtmocaapoeefgkaaGreatDoorTie
import Derived.Test.YtmocaapoeefgkaaGreatDoorCards
import Derived.LaidMore
import Derived.OpenShut
import Derived.Stop.Joined
import Derived.ProofKit
import Derived.Carry
import Derived.Test.YtmocaapoeefgkaaGreatDoorPaCP7
set_option linter.all false
set_option maxRecDepth 40000
set_option maxHeartbeats 16000000
namespace Go.Proofs.YtmocaapoeefgkaaGreatDoor
open Go Go.RowKit Cp Go.Proofs.Tryz
theorem It {β:Type} {g:β→Pr} {l:List β} {qs:List Pr} {i:Int} {x:β} (h:l[i.toNat]? =some x):((l.map fun x=>[g x]).flatten++qs)[0+i.toNat*1]? =some (g x):=by
 have hl:i.toNat<l.length:=by rcases Nat.lt_or_ge i.toNat l.length with h'|h';exact h';rw [List.getElem?_eq_none h'] at h;cases h
 rw [List.getElem?_eq_getElem hl] at h
 cases h
 exact W_ hl
section
variable {c:Int×Int→Int}
theorem UH (l:List Int):∀i,(lS c l i).length=l.length
 |0=>rfl
 |i+1=>by rw [lS,V6,UH l i]
theorem lV {st:List Int} {j:Nat} {x y:Int} (h0:0<j) (hx:st[j]? =some x) (hy:st[j-1]? =some y) (h:c (x,y)<0):HX c (j-1) ((st.set ((j:Nat):Int).toNat y).set (((j:Nat):Int)-1).toNat x)=HX c j st:=by
 obtain ⟨m,rfl⟩:∃m,j=m+1:=⟨j-1,by omega⟩
 rw [show (((m+1:Nat):Nat):Int).toNat=m+1 by omega,show ((((m+1:Nat):Nat):Int)-1).toNat=m by omega,show m+1-1=m by omega]
 exact (V5 hx hy h).symm
theorem lW {st:List Int} {j:Nat} (h:j=0):HX c j st=st:=by subst h;rfl
theorem lX {st:List Int} {j:Nat} {x y:Int} (h0:0<j) (hx:st[j]? =some x) (hy:st[j-1]? =some y) (h:¬c (x,y)<0):HX c j st=st:=by
 obtain ⟨m,rfl⟩:∃m,j=m+1:=⟨j-1,by omega⟩
 exact aZ hx hy h
theorem lY {st:List Int} {a b:Nat} {x y n:Int} (h:∀z∈st,0≤z∧z<n) (hx:0≤x∧x<n) (hy:0≤y∧y<n):∀z∈(st.set a y).set b x,0≤z∧z<n:=fun z hz=>by
 rcases List.mem_or_eq_of_mem_set hz with hz|rfl
 ·
  rcases List.mem_or_eq_of_mem_set hz with hz|rfl
  · exact h z hz
  · exact hy
 · exact hx
end
def dV (c:Int×Int→Int) (l st:List Int):Prop:=st=lS c l l.length
theorem dV.len {c:Int×Int→Int} {l st:List Int} (h:dV c l st):st.length=l.length:=by unfold dV at h;rw [h,UH]
abbrev InN (N:Nat):={p:Int×Int//(0≤p.1∧p.1<(N:Int))∧0≤p.2∧p.2<(N:Int)}
theorem vo {l:List Int} {c:Int×Int→Int} {b0 cap N len:Nat} {sp:List Value} (mU:l.length=len) (Q0:len≤19) (hR0:∀x∈l,0≤x∧x<(N:Int)):BR prog 208 [is (.slice (some ⟨b0,0,none⟩) len cap),int 0,int ((len:Nat):Int),OU prog (fun p:InN N=>[int p.1.1,int p.1.2]) (fun p=>int (c p.1))] (L8) (AE true b0 3 ((l.map (fun x:Int=>[int x])).flatten++sp.map is)) (fun _=>Gp b0 3 (fun x:Int=>[int x]) (dV c l) (sp.map is)):=by
 refine BR.of func208 rfl rfl Al fun M0 w0 S rs M1 w1=> ?_
 refine ac ?_
 refine Tr.block (Tr.DU _ (kk [3,2,1,0] rfl) (fun (i:Nat) (st:List Int)=>[(8,int ((i:Nat):Int))]) (fun (i:Nat) (st:List Int)=>Hp M0 w0 S (AE true b0 3 ((st.map (fun x:Int=>[int x])).flatten++sp.map is)::Ak M1 w1::rs)) (fun (i:Nat) (st:List Int)=>(1≤i∧(i≤len∨i=1))∧st=lS c l i∧∀x∈st,0≤x∧x<(N:Int)) (fun (i:Nat) (st:List Int)=>len-i) (1) (l)  (⟨⟨by omega,.inr rfl⟩,rfl,hR0⟩) ⟨⟨_,rfl,int_eq AA⟩,trivial⟩ (fun _ _ h=>h) ?_)
 rintro i st  ⟨⟨hi1,hi2⟩,hst,hR⟩
 have jA:st.length=len:=by rw [hst,UH,mU]
 refine an ?_ ?_<;>intro h1 q1
 have hib:i<len:=AH h1
 refine a2 ?_
 refine Tr.block (Tr.DU _ (kk [8,3,2,1,0] rfl) (fun (j:Nat) (UT:List Int)=>[(9,int ((j:Nat):Int))]) (fun (j:Nat) (UT:List Int)=>Hp M0 w0 S (AE true b0 3 ((UT.map (fun x:Int=>[int x])).flatten++sp.map is)::Ak M1 w1::rs)) (fun (j:Nat) (UT:List Int)=>(j≤i∧UT.length=len)∧HX c j UT=HX c i st∧∀x∈UT,0≤x∧x<(N:Int)) (fun (j:Nat) (UT:List Int)=>j) (i) (st)  (⟨⟨Nat.le_refl _,jA⟩,rfl,hR⟩) kz (fun _ _ h=>h) ?_)
 rintro j UT  ⟨⟨hj1,AD5⟩,vp,hR2⟩
 refine ag ?_ ?_<;>intro h2 q2
 obtain ⟨x,hx⟩:=at_ (l:=UT) (k:=j) AA
 obtain ⟨y,hy⟩:=at_ (l:=UT) (k:=j-1) AA
 have hxr:=hR2 x (List.mem_of_getElem? hx)
 have hyr:=hR2 y (List.mem_of_getElem? hy)
 refine ac ?_
 refine cy h2 rfl (BE rfl underlying22 Bg (vl rfl) (vl rfl) AA AA) ?_
 refine cy h2 rfl (CY 0 rfl (Ay rfl CX (vl rfl) (It (g:=fun x:Int=>int x) (x:=x) Sn))) ?_
 refine ac ?_
 refine cy h2 rfl (BE rfl underlying22 Bg (vl rfl) (vl rfl) AA AA) ?_
 refine cy h2 rfl (CY 0 rfl (Ay rfl CX (vl rfl) (It (g:=fun x:Int=>int x) (x:=y) Y1))) ?_
 refine cy h2 rfl (EO (⟨(x,y),⟨hxr,hyr⟩⟩:InN N) rfl (vl rfl) ⟨ke rfl,kz⟩) ?_
 refine ac ?_
 refine wk [34,9,8,3,2,1,0] rfl ?_
 refine Tr.cn rfl ?_ ?_<;>intro h3 q3
 have:=h3
 refine ac ?_
 refine Tr.seq (Tr.block (Tr.rx ?_))
 refine ay ?_
 refine xo rfl (fun _=>BE rfl underlying22 Bg (vl rfl) (vl rfl) AA AA) ?_
 refine HO 0 rfl rfl (Ay rfl CX (vl rfl) (It (g:=fun x:Int=>int x) (x:=y) Y1)) ?_
 refine ay ?_
 refine xo rfl (fun _=>BE rfl underlying22 Bg (vl rfl) (vl rfl) AA AA) ?_
 refine HO 0 rfl rfl (Ay rfl CX (vl rfl) (It (g:=fun x:Int=>int x) (x:=x) Sn)) ?_
 refine xo rfl (fun _=>BE rfl underlying22 Bg (vl rfl) (vl rfl) AA AA) ?_
 refine Cx.Ee 0 rfl rfl (A9 rfl rfl (vl rfl) (Vo rfl) Bg rfl Sk (IZ (f:=(fun x:Int=>[int x])) (fun _=>rfl) AA)) ?_
 refine xo rfl (fun _=>BE rfl underlying22 Bg (vl rfl) (vl rfl) AA AA) ?_
 refine Cx.Ee 0 rfl rfl (A9 rfl rfl (vl rfl) (Vo rfl) Bg rfl (by rw [J3 (sz:=1) (fun _=>rfl)];simp only [List.length_set];omega) (IZ (f:=(fun x:Int=>[int x])) (fun _=>rfl) (by simp only [List.length_set];omega))) ?_
 refine Cx.nil ⟨by kernel_rfl,?_⟩
 refine BW.done al2 ?_
 refine ac ?_
 refine wk [9,8,3,2,1,0] rfl ?_
 refine ac ?_
 exact Fin.DG (j-1) (_)  (⟨⟨⟨by omega,by simp only [List.length_set];exact AD5⟩,by rw [←vp];exact lV AA hx hy BC,lY hR2 hxr hyr⟩,by omega⟩) ⟨⟨_,rfl,int_eq AA⟩,kz⟩ (fun _ _ h=>h)
 have:=h3
 refine a2 ?_
 have vu:HX c j UT=UT:=lX AA hx hy (Int.not_lt.2 BC)
 exact Fin.DG (i+1) (UT)  (⟨⟨⟨by omega,.inl AA⟩,by show UT=HX c i (lS c l i);rw [←hst,←vp,vu],hR2⟩,by omega⟩) ⟨⟨_,rfl,AF i⟩,kz⟩ (fun _ _ h=>h)
 refine ac ?_
 refine wk [34,9,8,3,2,1,0] rfl ?_
 refine a2 ?_
 have vu:HX c j UT=UT:=lW AA
 exact Fin.DG (i+1) (UT)  (⟨⟨⟨by omega,.inl AA⟩,by show UT=HX c i (lS c l i);rw [←hst,←vp,vu],hR2⟩,by omega⟩) ⟨⟨_,rfl,AF i⟩,kz⟩ (fun _ _ h=>h)
 have hie:=AJ h1
 refine Tr.exit (Fin.AV (Fin.AV (Fin.Ao ?_)))
 refine Fin.K_ (dV c l) 0 rfl (by unfold dV;rcases Nat.eq_zero_or_pos len with h0_|h0_;(obtain rfl:=List.eq_nil_of_length_eq_zero (mU.trans h0_);rw [hst,show i=1 by omega];rfl);(rw [hst,mU,show i=len by omega])) ?_
 exact Fin.gT rfl
theorem vv {l:List Int} {c:Int×Int→Int} {b0 cap N len:Nat} {sp:List Value} (mU:l.length=len) (Q0:len≤19) (hR0:∀x∈l,0≤x∧x<(N:Int)):BR prog 165 [is (.slice (some ⟨b0,0,none⟩) len cap),int ((len:Nat):Int),OU prog (fun p:InN N=>[int p.1.1,int p.1.2]) (fun p=>int (c p.1))] (L8) (AE true b0 3 ((l.map (fun x:Int=>[int x])).flatten++sp.map is)) (fun _=>Gp b0 3 (fun x:Int=>[int x]) (dV c l) (sp.map is)):=by
 refine BR.of func165 rfl rfl Al fun M0 w0 S rs M1 w1=> ?_
 refine a2 ?_
 refine Tr.seq (Tr.block (Tr.Ax _ (kk [6,2,1,0] rfl) (fun (u:Unit)=>[(7,int 0),(8,int 20)]) (fun (u:Unit)=>True) (fun (u:Unit)=>0) () (trivial) ⟨kq,kz⟩ ?_))
 rintro u _
 refine an ?_ ?_<;>intro h1 q1
 exfalso;have eO:=Df.EA h1;omega
 have mO:=h1
 refine ac ?_
 refine ap ?_
 refine TO.EV 0 rfl rfl AB (AU rfl rfl AB rfl (vo AA AA BC) ⟨kq,kz⟩) (TO.Nr 0 rfl fun t1 bU=> ?_)
 have AAz:=bU.len
 refine ap ?_
 refine wk [6,2,1,0] rfl (Tr.block (Tr.Ax _ (kk [2,1,0] rfl) (fun (u:Unit)=>[(6,int 20)]) (fun (u:Unit)=>True) (fun (u:Unit)=>0) () (trivial) kz ?_))
 rintro u _
 refine an ?_ ?_<;>intro h2 q2
 exfalso;have eO:=Df.EA h2;omega
 have mO:=h2
 refine Tr.exit (Fin.AV (Fin.AV (Fin.Ao (Fin.K_ (dV c l) 0 rfl (bU) (Fin.gT rfl)))))
theorem AA0 {l:List Int} {c:Int×Int→Int} {b0 cap N len:Nat} {sp:List Value} (mU:l.length=len) (Q0:len≤19) (hR0:∀x∈l,0≤x∧x<(N:Int)):BR prog 113 [is (.slice (some ⟨b0,0,none⟩) len cap),OU prog (fun p:InN N=>[int p.1.1,int p.1.2]) (fun p=>int (c p.1))] (L8) (AE true b0 3 ((l.map (fun x:Int=>[int x])).flatten++sp.map is)) (fun _=>Gp b0 3 (fun x:Int=>[int x]) (dV c l) (sp.map is)):=by
 refine BR.of func113 rfl rfl Al fun M0 w0 S rs M1 w1=> ?_
 refine ap ?_
 refine tp rfl (IX rfl underlying22 vq) (tm rfl (TO.EV 0 rfl rfl AB (AU rfl rfl AB rfl (vv AA AA BC) ⟨kq,kz⟩) (TO.Nr 0 rfl fun t1 bU=> ?_)))
 have AAz:=bU.len
 refine TO.nil (Fin.K_ (dV c l) 0 rfl (bU) (Fin.gT rfl))
theorem qy {rows:List (List Pr)} {b:Int} (hb:b≤1):BD prog 208 [slice 1 rows,int 0,int b,any] (L8):=by
 refine fo func208 rfl ⟨rfl,rfl⟩ fun M0 w0=> ?_
 refine ac ?_
 refine Tr.block (Tr.Ax _ (kk [3,2,1,0] rfl) (fun i:Int=>[(8,int i)]) (fun i:Int=>i=1) (fun i:Int=>0) 1 (rfl) kz ?_)
 rintro i hi
 refine an ?_ ?_<;>intro h1 q1
 exfalso;have eO:=Df.EA h1;omega
 have mO:=h1
 refine Tr.exit (Fin.AV (Fin.AV (Fin.Ao (Fin.uG rfl))))
theorem qz {rows:List (List Pr)} {b:Int} (h0:0≤b) (hb:b≤1):BD prog 165 [slice 1 rows,int b,any] (L8):=by
 refine fo func165 rfl ⟨rfl,rfl⟩ fun M0 w0=> ?_
 refine a2 ?_
 refine Tr.seq (Tr.block (Tr.Ax _ (kk [6,2,1,0] rfl) (fun (u:Unit)=>[(7,int 0),(8,int 20)]) (fun (u:Unit)=>True) (fun (u:Unit)=>0) () (trivial) ⟨kq,kz⟩ ?_))
 rintro u _
 refine an ?_ ?_<;>intro h1 q1
 exfalso;have eO:=Df.EA h1;omega
 have mO:=h1
 refine a2 ?_
 refine co rfl (AZ rfl (qy AA) ⟨kq,kq,kq,⟨_,rfl,fN _⟩,trivial⟩) ?_
 refine ac ?_
 refine wk [6,2,1,0] rfl (Tr.block (Tr.Ax _ (kk [2,1,0] rfl) (fun (u:Unit)=>[(6,int 20)]) (fun (u:Unit)=>True) (fun (u:Unit)=>0) () (trivial) kz ?_))
 rintro u _
 refine an ?_ ?_<;>intro h2 q2
 exfalso;have eO:=Df.EA h2;omega
 have mO:=h2
 refine Tr.exit (Fin.AV (Fin.AV (Fin.Ao (Fin.uG rfl))))
theorem vw {rows:List (List Pr)} (hs:rows.length≤1):BD prog 113 [slice 1 rows,any] (L8):=by
 refine fo func113 rfl ⟨rfl,rfl⟩ fun M0 w0=> ?_
 refine ac ?_
 refine co rfl (B7 rfl underlying22 vq) (cm rfl (co rfl (AZ rfl (qz (rows:=rows) (b:=(rows.length:Int)) AA AA) ⟨kq,kq,⟨_,rfl,fN _⟩,trivial⟩) (Ch.nil (Fin.uG rfl))))
theorem AA1 {l:List Int} {c:Int×Int→Int} {v:Value} {N:Nat} (hs:l.length≤19) (hR:∀x∈l,0≤x∧x<(N:Int)):BR Tryz.prog 113 [is v,OU Tryz.prog (fun p:InN N=>[int p.1.1,int p.1.2]) (fun p=>int (c p.1))] L8 (BM 3 1 (l.map (fun x:Int=>[int x])) v) (fun _=>P3 3 1 (fun x:Int=>[int x]) (dV c l) v):=by
 refine BR.oh (fun h=>⟨?_,?_⟩) (fun b cap sp=>AA0 rfl hs hR) (fun st h=>h.len) ⟨_,Tryz.func113,rfl,rfl⟩
 ·
  refine BD.le (vw (rows:=[]) AB) ?_ (Pr.le_refl _)
  rintro M w vs hv
  match vs,hv with
  |[a,b],⟨h1,h2,h3⟩=>exact ⟨Ai _ M w a h1,trivial,h3⟩
 · subst h;rfl
def YT (d:List Int) (p:Int×Int):Int:=JB (d.getD p.1.toNat 0) (d.getD p.2.toNat 0)
def G0 (n:Nat):List Int:=(List.range n).map fun i:Nat=>(i:Int)
theorem Gh (n:Nat):(G0 n).length=n:=by unfold G0;rw [List.length_map,List.length_range]
theorem dW (n:Nat):G0 (n+1)=G0 n++[(n:Int)]:=by unfold G0;rw [List.range_succ,List.map_append];rfl
theorem af {n i:Nat} (h:i<n):(G0 n)[i]? =some (i:Int):=by unfold G0;rw [List.getElem?_map,List.getElem?_range h];rfl
theorem V7 {n:Nat}:∀x∈G0 n,0≤x∧x<(n:Int):=fun x hx=>by
 unfold G0 at hx
 obtain ⟨i,hi,rfl⟩:=List.mem_map.1 hx
 have:=List.mem_range.1 hi
 omega
def YU (d:List Int):List Int:=lS (YT d) (G0 d.length) d.length
theorem q_ {d st:List Int} (h:dV (YT d) (G0 d.length) st):st=YU d:=by unfold dV at h;rw [Gh] at h;exact h
def UI (d:List Int) (a b:Int):Prop:=d.getD a.toNat 0<d.getD b.toNat 0∨d.getD a.toNat 0=d.getD b.toNat 0∧a<b
theorem rA {a b:Int}:JB a b<0↔a<b:=by unfold JB;split;omega;split<;>omega
theorem rB (d:List Int):(YU d).Pairwise (UI d)∧(YU d).Perm (G0 d.length):=by
 obtain ⟨st, h1, h2, h3⟩ := lU (c := YT d) (R := UI d) (l := G0 d.length) (fun a b e h1 h2 => by unfold UI at *; omega) (fun i j x y hij hx hy => by
  have hi:=BP hx
  have hj:=BP hy
  rw [Gh] at hi hj
  rw [af hi] at hx
  rw [af hj] at hy
  cases hx;cases hy
  unfold YT UI
  rw [rA]
  simp only
  omega) d.length Sm
 have h4:(G0 d.length).drop d.length=[]:=List.drop_eq_nil_of_le Sm
 have h5:(G0 d.length).take d.length=G0 d.length:=List.take_of_length_le Sm
 rw [h4,List.append_nil] at h1
 rw [h5] at h3
 unfold YU
 rw [h1]
 exact ⟨h2,h3⟩
theorem dX {l:List Bz} {r:List BH} {d:List Int} (p:InN d.length)  :BD prog 114 [int p.1.1,int p.1.2,ref [C_ l,reqs r,ints d]] (int (YT d p.1)):=by
 refine fo func114 rfl ⟨rfl,rfl⟩ fun M0 w0=> ?_
 obtain ⟨bU,hp2⟩:=p.2
 obtain ⟨x,hx⟩:=at_ (l:=d) (k:=p.1.1.toNat) AA
 obtain ⟨y,hy⟩:=at_ (l:=d) (k:=p.1.2.toNat) AA
 refine a2 ?_
 refine co rfl (AD rfl underlying22 Bg vq vq AA (Bt hx)) ?_
 refine ac ?_
 refine co rfl (AD rfl underlying22 Bg vq vq AA (Bt hy)) (co rfl (GI rfl CX rfl) ?_)
 refine co rfl (C4 (XD (a:=x) (b:=y)) rfl rfl rfl) ?_
 refine a2 ?_
 · refine int_eq ?_;unfold YT;rw [List.getD_eq_getElem?_getD,List.getD_eq_getElem?_getD,hx,hy];rfl
theorem dY:Entry Tryz.prog 114:=⟨_,Tryz.func114,rfl,rfl⟩
theorem lZ {l:List Bz} {r:List BH} {d:List Int} (hd:d.length≤19):BD prog 60 [agg [C_ l,reqs r,ints d]] (ints (YU d)):=by
 refine fo func60 rfl ⟨rfl,rfl⟩ fun M0 w0=> ?_
 refine a3 ?_
 refine Tr.block (Tr.IY 3 1 (Tr.Ez _ (kk [7,1] rfl) (fun k v=>[(8,int ((k:Nat):Int)),(3,Ae v (lens ((G0 k).map fun n=>[int n]).length))]) (fun k v=>Hp M0 w0 II ([BM 3 1 ((G0 k).map fun n=>[int n]) v])) (fun k:Nat=>k≤(d).length) (fun k:Nat=>(d).length-k) 0 (.slice none 0 0) (Nat.zero_le _) ⟨ke rfl,⟨_,rfl,Gg (by rfl)⟩,trivial⟩ (fun _ _ h=>h) ?_))
 rintro k v BK
 refine ac ?_
 refine Tr.seq ?_
 refine Tr.cn rfl ?_ ?_<;>intro h1 q1
 have Aa:k<(d).length:=AH h1
 obtain ⟨x,AX⟩:=at_ Aa
 refine a2 ?_
 refine ap ?_
 refine TO.Ef 0 rfl rfl AB (Fg rfl rfl AB rfl underlying22 Bg J_ z3 rfl AB AB (vl rfl) (Kf rfl) (BL fun _=>rfl) (Nat.zero_lt_succ _) (by simp only [List.length_map,List.length_cons,List.length_nil,Gh];unfold maxLen;omega) (by simp only [List.length_map,List.length_cons,List.length_nil,Gh];omega)) (fun v1=> ?_)
 refine ap ?_
 refine ac ?_
 rw [show (G0 k).map (fun n=>[int n])++[[int ((k:Nat):Int)]]=(G0 (k+1)).map (fun n=>[int n]) by rw [dW,List.map_append];rfl]
 exact Fin.Dm (k+1) v1 (⟨Aa,by omega⟩) ⟨⟨_,rfl,AF k⟩,⟨_,rfl,C0 (by simp [Gh])⟩,kz⟩ (fun _ _ h=>h)
 have Az:k=(d).length:=by have:=AJ h1;omega
 subst Az
 refine ac ?_
 refine ap ?_
 refine TO.EV 0 rfl rfl AB (AU rfl rfl AB rfl (AA1 (l:=G0 d.length) (c:=YT d) (N:=d.length) (by rw [Gh];exact hd) V7) ⟨(Ka rfl),⟨_,rfl,B9 dY (fun p=>dX p)⟩,trivial⟩) ?_
 refine TO.gb 0 3 rfl rfl (fun _=>rfl) (fun t1 bU=> ?_)
 have AAz:=bU.len
 refine ap ?_
 refine a2 ?_
 · rw [←q_ bU];exact A_ _ _
theorem rC {β:Type} {p:β→Bool} {l:List β} (h:¬idx p l= -1):0≤idx p l∧(idx p l).toNat<l.length∧Uy p l l (idx p l).toNat ((idx p l).toNat+1):=by
 unfold idx at h ⊢
 cases hf:l.findIdx? p with
 |none=>rw [hf] at h;exact absurd rfl h
 |some i=>
  rw [List.findIdx?_eq_some_iff_getElem] at hf
  obtain ⟨h1,h2,h3⟩:=hf
  refine ⟨by simp,by simpa using h1,rfl,by simp,by simp only [Int.toNat_natCast];omega,?_,rfl⟩
  simp only [Int.toNat_natCast]
  rw [List.take_add_one,List.getElem?_eq_getElem h1,List.filter_append]
  have:(l.take i).filter (fun x=> !p x)=l.take i:=by
   rw [List.filter_eq_self];intro x hx
   obtain ⟨j,hj,rfl⟩:=List.mem_iff_getElem.1 hx
   rw [List.length_take] at hj
   have:=h3 j AA
   simpa using this
  rw [this];simp [h2]
theorem rD {β:Type} {p:β→Bool} {l:List β} (h:idx p l= -1):l.filter (fun x=> !p x)=l:=by
 unfold idx at h
 cases hf:l.findIdx? p with
 |none=>rw [List.findIdx?_eq_none_iff] at hf;rw [List.filter_eq_self];intro x hx;simpa using hf x hx
 |some i=>rw [hf] at h;exact absurd h AO
abbrev SM (n:Nat):={i:Int//0≤i∧i<(n:Int)}
abbrev JE {n:Nat} (i:SM n):List Pr:=[int i.1]
abbrev AD6 {n:Nat} (l:List (SM n)):Pr:=slice 1 (l.map JE)
theorem toZ {n:Nat}:∀{L:List Int},(∀x∈L,0≤x∧x<(n:Int))→∃l:List (SM n),l.map (·.1)=L
 |[],_=>⟨[],rfl⟩
 |x::L,h=>by
  obtain ⟨l,hl⟩:=toZ (L:=L) (fun y hy=>h y (List.mem_cons_of_mem _ hy))
  exact ⟨⟨x,h x (List.mem_cons_self ..)⟩::l,by rw [List.map_cons,hl]⟩
theorem sr {n:Nat} (l:List (SM n)):(l.map (·.1)).map (fun n=>[int n])=l.map JE:=by rw [List.map_map];rfl
theorem AA2 {n:Nat} (l:List (SM n)) (q:Int→Bool):(l.filter fun x=>q x.1).map (·.1)=(l.map (·.1)).filter q:=by
 induction l with
 |nil=>rfl
 |cons a l ih=>rw [List.map_cons,List.filter_cons,List.filter_cons];split<;>simp [ih]
theorem MW {n:Nat} {l:List (SM n)} {p:SM n→Bool}  :BD prog 167 [AD6 l,OU prog (fun x:SM n=>[int x.1]) (fun x=>bool (p x))] (int (idx p l)):=by
 refine fo func167 rfl ⟨rfl,rfl⟩ fun M0 w0=>(Tr.CM 0 rfl fun D4=> ?_)
 refine a2 ?_
 refine Tr.block (Tr.Ax _ (kk [7,1,0] rfl) (fun k:Nat=>[(8,int ((k:Nat):Int))]) (fun k:Nat=>k≤(l).length∧(∀j y,j<k→l[j]? =some y→p y=false)) (fun k:Nat=>(l).length-k) 0 (⟨Nat.zero_le _,fun j y hj=>absurd hj AA⟩) kz ?_)
 rintro k ⟨BK,AL⟩
 refine ac ?_
 refine Tr.seq ?_
 refine Tr.cn rfl ?_ ?_<;>intro h1 q1
 have Aa:k<(l).length:=AH h1
 obtain ⟨x,AX⟩:=at_ Aa
 · repeat' first|exact int_eq (E8 AX BC AL)|exact Fin.AM (k+1) ⟨⟨Aa,CJ AX BC AL⟩,by omega⟩ ⟨⟨_,rfl,AF k⟩,kz⟩|refine co rfl (AD rfl underlying51 Bg vq vq AA Bl) ?_|refine co rfl (GI rfl CX rfl) (co rfl (EO x rfl vq kz) ?_)|refine ac ?_|(refine Tr.cn rfl ?_ ?_<;>intro h q)
 have Az:k=(l).length:=by have:=AJ h1;omega
 subst Az
 refine a3 ?_
 · exact Lm
theorem dZ {n:Nat} {l:List (SM n)} {p:SM n→Bool} {b cap:Nat} {sp:List Value} (hc:(l.map JE).length≤cap) (hm:cap≤maxLen) (hq:sp.length=(cap-(l.map JE).length)*1):BR prog 118 [is (.slice (some ⟨b,0,none⟩) (l.map JE).length cap),OU prog (fun x:SM n=>[int x.1]) (fun x=>bool (p x))] (is (.slice (some ⟨b,0,none⟩) ((l.filter fun x=> !p x).map JE).length cap)) (AE true b 3 ((l.map JE).flatten++sp.map is)) (fun _=>AE true b 3 (((l.filter fun x=> !p x).map JE).flatten++((List.replicate (l.length-(l.filter fun x=> !p x).length) [int 0]).flatten++sp.map is))):=by
 refine BR.of func118 rfl rfl Al fun M0 w0 S rs M1 w1=> ?_
 have hlm:(l.map JE).length=l.length:=List.length_map ..
 have hmx:cap≤9223372036854775807:=by unfold maxLen at hm;omega
 refine ac ?_
 refine ap ?_
 refine TO.EV 0 rfl rfl AB (oV (l.map JE) rfl rfl AB rfl (MW (l:=l) (p:=p)) (BL fun _=>rfl) hc hm (by rw [List.length_map];exact hq) ⟨.inr ⟨(vl rfl),A_ _ _⟩,.inl (ke rfl),trivial⟩) ?_
 refine ap ?_
 refine an ?_ ?_<;>intro h1 q1
 have hno:=rD (p:=p) (l:=l) GS
 refine ac ?_
 refine Tr.ret (Fin.AG ?_)
 refine Fin.E7 rfl rfl ?_ (fun _ _ _ _=>by rw [hno,Nat.sub_self];rfl)
 · rw [hno];exact Lr
 obtain ⟨hi0,FU,lE⟩:=rC (p:=p) (l:=l) GS
 refine a2 ?_
 refine Tr.block (Tr.L3 _ (kk [1,0] rfl) (fun (st:List (SM n)) (i:Nat) (j:Nat)=>[(5,int ((i:Nat):Int)),(6,int ((j:Nat):Int))]) (fun (st:List (SM n)) (i:Nat) (j:Nat)=>Hp M0 w0 S (AE true b 3 ((st.map JE).flatten++sp.map is)::Ak M1 w1::rs)) (fun (st:List (SM n)) (i:Nat) (j:Nat)=>Uy p l st i j) (fun (st:List (SM n)) (i:Nat) (j:Nat)=>l.length-j) (l) ((idx p l).toNat) ((idx p l).toNat+1)  (lE) ⟨⟨_,rfl,int_eq AA⟩,⟨_,rfl,int_eq AA⟩,trivial⟩ (fun _ _ h=>h) ?_)
 rintro st i j  lE
 obtain ⟨jA,hij,hjl,mS,hdr⟩:=id lE
 refine ac ?_
 refine co rfl (IX rfl underlying51 (vl rfl)) ?_
 refine an ?_ ?_<;>intro h2 q2
 have AD7:j<l.length:=by have:=AH h2;omega
 obtain ⟨x,hlx⟩:=at_ (l:=l) (k:=j) AD7
 have hx:st[j]? =some x:=(uJ lE).trans hlx
 refine a2 ?_
 refine co rfl (BE rfl underlying51 Bg (vl rfl) (vl rfl) AA AA) ?_
 refine co rfl (CY 0 rfl (Ay rfl CX (vl rfl) (Uz (f:=JE) (fun _=>rfl) Sn rfl))) ?_
 refine a2 ?_
 refine co rfl (EO x rfl (vl rfl) kz) ?_
 refine ac ?_
 refine wk [29,7,6,5,1,0] rfl ?_
 refine Tr.cn rfl ?_ ?_<;>intro h3 q3
 refine ap ?_
 refine tp rfl (BE rfl underlying51 Bg (vl rfl) (vl rfl) AA AA) ?_
 refine TO.Ee 0 rfl rfl (A9 rfl rfl (vl rfl) (Vo rfl) Bg rfl Sk (W4 (f:=JE) (x:=x) (fun _=>rfl) AA)) ?_
 refine ap ?_
 refine a2 ?_
 exact Fin.DV (st.set i x) (i+1) (j+1)  (⟨gW lE hlx Cc,by omega⟩) ⟨⟨_,rfl,AF i⟩,⟨_,rfl,AF j⟩,kz⟩ (fun _ _ h=>h)
 refine a2 ?_
 exact Fin.DV (st) (i) (j+1)  (⟨gX lE hlx Cc,by omega⟩) ⟨ke rfl,⟨_,rfl,AF j⟩,kz⟩ (fun _ _ h=>h)
 have hje:j=l.length:=by have:=AJ h2;omega
 subst hje
 obtain ⟨he1,bC,he3,he4⟩:=oZ lE
 refine ac ?_
 refine ap ?_
 refine tp rfl (RB rfl underlying51 Bg (vl rfl) (vl rfl) AA AA AA) ?_
 refine TO.Ee 0 rfl rfl (gU rfl rfl underlying51 Bg z3 rfl AB AB (vl rfl) AA Sk (Ta (f:=JE) (fun _=>rfl) rfl AA AA)) ?_
 refine ap ?_
 refine ac ?_
 refine co rfl (Nq rfl underlying51 Bg (vl rfl) (vl rfl) AA AA AA AA) ?_
 refine ac ?_
 refine wk [4] rfl (Tr.ret ?_)
 refine Fin.E7 rfl rfl ?_ (fun _ _ _ _=>by rw [←bC,←he1,←he3,List.append_assoc];rfl)
 · refine Pr.le_of_eq ?_;rw [List.length_map,←bC,Int.toNat_natCast]
theorem YV {n:Nat} {p:SM n→Bool}  :BD prog 118 [is (.slice none 0 0),OU prog (fun x:SM n=>[int x.1]) (fun x=>bool (p x))] (is (.slice none 0 0)):=by
 refine fo func118 rfl ⟨rfl,rfl⟩ fun M0 w0=> ?_
 · repeat' first|exact Lr|(exfalso;simp [idx] at h)|refine co rfl (AZ rfl (MW (l:=[]) (p:=p)) ⟨⟨_,rfl,Ai 1⟩,kz⟩) ?_|refine ac ?_|(refine Tr.cn rfl ?_ ?_<;>intro h q)
theorem ah {l:List Bz} {r:List BH} {d:List Int} {day:Int} (x:SM d.length)  :BD prog 119 [int x.1,ref [C_ l,reqs r,ints d],ref [int day]] (bool (decide (d.getD x.1.toNat 0>day))):=by
 refine fo func119 rfl ⟨rfl,rfl⟩ fun M0 w0=> ?_
 have hxp:=x.2
 have hdx:=DH (l:=d) (i:=x.1.toNat) AA
 refine a2 ?_
 refine co rfl (AD rfl underlying22 Bg vq vq AA (Bt hdx)) ?_
 refine a2 ?_
 · exact Lr
theorem aj:Entry Tryz.prog 119:=⟨_,Tryz.func119,rfl,rfl⟩
def V8 (r:List BH) (d s:List Int):Int:=if FT (d.length:Nat) r s=0 then 0 else 46
def Fx (r:List BH) (d s:List Int) (day:Int):List Int:=(FB (d.length:Nat) r s).filter fun i=> !decide (d.getD i.toNat 0>day)
theorem Ov {n:Nat} {r:List BH} {s:List Int}:∀x∈FB (n:Int) r s,0≤x∧x<(n:Int):=fun x hx=>by
 unfold FB at hx
 split at hx
 ·
  unfold EM at hx
  obtain ⟨i,hi,rfl⟩:=List.mem_map.1 hx
  have:=List.mem_range.1 (List.mem_filter.1 hi).1
  omega
 · cases hx
theorem ak {r:List BH} {d s:List Int} (h:FT (d.length:Nat) r s=0):V8 r d s=0:=by unfold V8;rw [if_pos h]
theorem ld {r:List BH} {d s:List Int} {day:Int} (h:FT (d.length:Nat) r s≠0):V8 r d s=46∧Fx r d s day=[]:=by
 unfold V8 Fx;rw [if_neg h,UD rfl h];exact ⟨rfl,rfl⟩
theorem lf (k:Nat) (sp:List Value):(List.replicate k [int 0]).flatten++sp.map is=((List.replicate k (Value.int .i64 0))++sp).map is:=by rw [List.flatten_replicate_singleton,List.map_append,List.map_replicate]
theorem rE {l:List Bz} {r:List BH} {d s:List Int} {day:Int}  :E2 (α:=Value) prog 63 [agg [C_ l,reqs r,ints d],ints s,int day] [DI] (fun _=>True) (fun v=>F8 [Ae v (lens ((Fx r d s day).map (fun n=>[int n])).length),int (V8 r d s)]) (fun v=>[DI,BM 3 1 ((Fx r d s day).map (fun n=>[int n])) v]):=by
 refine E2.of func63 rfl rfl Al fun M0 w0 S rs M1 w1=> ?_
 obtain ⟨lz,hlz⟩:=toZ (Ov (n:=d.length) (r:=r) (s:=s))
 have hfz:((lz.filter fun x=> !decide (d.getD x.1.toNat 0>day)).map JE)=(Fx r d s day).map (fun n=>[int n]):=by rw [←sr];unfold Fx;rw [←hlz];exact congrArg (List.map fun n=>[int n]) (AA2 lz (fun i=> !decide (d.getD i.toNat 0>day)))
 refine ac ?_
 refine ap ?_
 refine TO.Nt _ rfl rfl AB rfl (dL (n:=((d.length:Nat):Int)) (l:=r) (s:=s)) ⟨kq,kz⟩ ((Cl (j:=0) rfl).trans (List.Perm.cons _ (List.Perm.refl _))) (fun x1 _=> ?_)
 refine ap ?_
 refine wk [9,8,5,3] rfl ?_
 refine an ?_ ?_<;>intro h1 q1
 obtain ⟨hd1,hd2⟩:=ld (r:=r) (d:=d) (s:=s) (day:=day) GS
 refine ac ?_
 refine Tr.ret (Fin.AG (Fin.IY 3 1 (Fin.JY ?_)))
 refine Fin.HH 1 (BM 3 1 ((Fx r d s day).map (fun n=>[int n])) (.slice none 0 0)) rfl (by rw [hd2];rfl) ?_
 refine Fin.drop 2 (Fin.Nu ((.slice none 0 0)) rfl (A7.tmp rfl Lr) (A7.tmp rfl Lr) trivial ?_ (List.Perm.refl _))
 · exact DB ⟨Gg (by rw [hd2];rfl),int_eq hd1.symm,trivial⟩
 have ha0:FT ((d.length:Nat):Int) r s=0:=by simpa using h1
 refine ac ?_
 refine Tr.seq (Tr.jy 1 rfl (fun ACH AD8=> ?_) ?_)
 subst AD8
 refine Tr.re 8 rfl (EU _ _:Pr.le _ (is (.slice none 0 0))) ?_
 refine ac ?_
 refine co rfl (AZ rfl (YV (p:=(fun x:SM d.length=>decide (d.getD x.1.toNat 0>day)))) ⟨kq,⟨_,rfl,B9 aj (fun x=>ah x)⟩,trivial⟩) ?_
 refine ac ?_
 refine Tr.ret (Fin.IY 3 1 (Fin.JY ?_))
 refine Fin.HH 1 (BM 3 1 ((Fx r d s day).map (fun n=>[int n])) (.slice none 0 0)) rfl Yo ?_
 refine Fin.drop 2 (Fin.Nu ((.slice none 0 0)) rfl (A7.tmp rfl Lr) (A7.tmp rfl Lr) trivial ?_ (List.Perm.refl _))
 · exact DB ⟨Gg Yo,int_eq (ak ha0).symm,trivial⟩
 refine Tr.Nn 1 rfl fun b1 AA3 sp1 WD hg1 hm1 hs1=> ?_
 subst WD
 rw [←hlz,sr] at hg1 hs1 ⊢
 refine ap ?_
 refine TO.EV 1 rfl rfl AB (AU rfl rfl AB rfl (dZ (l:=lz) (p:=(fun x:SM d.length=>decide (d.getD x.1.toNat 0>day))) (sp:=sp1) hg1 hm1 hs1) ⟨Oc,⟨_,rfl,B9 aj (fun x=>ah x)⟩,trivial⟩) ?_
 refine ap ?_
 refine Tr.ret ?_
 have AFB:(lz.filter fun x=> !decide (d.getD x.1.toNat 0>day)).length≤lz.length:=List.length_filter_le _ _
 have AD9:=hg1
 rw [List.length_map] at AD9
 refine Fin.vN (sz:=1) (rows:=(lz.filter fun x=> !decide (d.getD x.1.toNat 0>day)).map JE) (sp:=List.replicate (lz.length-(lz.filter fun x=> !decide (d.getD x.1.toNat 0>day)).length) (.int .i64 0)++sp1) 1 (by rw [←lf];rfl) Da hm1 (by rw [List.length_append,List.length_replicate,hs1,List.length_map,List.length_map];omega) ?_
 refine Fin.HH 1 (BM 3 1 ((Fx r d s day).map (fun n=>[int n])) (.slice (some ⟨b1,0,none⟩) ((lz.filter fun x=> !decide (d.getD x.1.toNat 0>day)).map JE).length AA3)) rfl (by rw [hfz]) (Fin.Nu ((.slice (some ⟨b1,0,none⟩) ((lz.filter fun x=> !decide (d.getD x.1.toNat 0>day)).map JE).length AA3)) rfl (A7.tmp rfl Lr) (A7.tmp rfl Lr) trivial ?_ (List.Perm.refl _))
 · exact DB ⟨fun _ _ _ h=>⟨h,_,_,(show _=_ from h).trans (by rw [hfz])⟩,int_eq (ak ha0).symm,trivial⟩
theorem lp {l:List Bz} {r:List BH} {d s:List Int} {day:Int}:BR Tryz.prog 63 [agg [C_ l,reqs r,ints d],ints s,int day] (F8 [ints (Fx r d s day),int (V8 r d s)]) DI (fun _=>DI):=E2.W7 (BL fun _=>rfl) rE
-- AD_ to an ascending set (behind Rq.lean)
theorem Qt {x:Int}:∀(s q:List Int),x∉s→s.foldl (De x true) (q,true)=(q++s,true)
 |[],q,_=>by simp
 |y::s,q,h=>by
  have hy:y≠x:=fun e=>h (by rw [e];exact List.mem_cons_self ..)
  rw [List.foldl_cons,show De x true (q,true) y=(q++[y],true) by unfold De;rw [if_neg hy];simp]
  rw [Qt s (q++[y]) (fun hh=>h (List.mem_cons_of_mem _ hh))];simp
theorem aq {x:Int}:∀(s acc:List Int),(acc++s).Pairwise (· < ·)→x∉s→(∀y∈acc,y<x)→(if (s.foldl (De x true) (acc,false)).2=false then (s.foldl (De x true) (acc,false)).1++[x] else (s.foldl (De x true) (acc,false)).1).Pairwise (· < ·)
 |[],acc,h,_,ha=>by
  simp only [List.foldl_nil,if_true]
  rw [List.append_nil] at h
  rw [List.pairwise_append]
  exact ⟨h,List.pairwise_singleton _ _,fun a h1 b h2=>by rw [List.mem_singleton] at h2;subst h2;exact ha a h1⟩
 |y::s,acc,h,hx,ha=>by
  have hy:y≠x:=fun e=>hx (by rw [e];exact List.mem_cons_self ..)
  have hxs:x∉s:=fun hh=>hx (List.mem_cons_of_mem _ hh)
  rw [List.foldl_cons]
  rcases Int.lt_or_le x y with hxy|hxy
  ·
   rw [show De x true (acc,false) y=(acc++[x]++[y],true) by unfold De;rw [if_neg hy,if_pos ⟨rfl,rfl,hxy⟩],Qt s _ hxs]
   rw [if_neg AO]
   simp only [List.append_assoc,List.singleton_append]
   rw [List.pairwise_append] at h ⊢
   obtain ⟨h1,h2,h3⟩:=h
   rw [List.pairwise_cons] at h2
   refine ⟨h1,List.pairwise_cons.2 ⟨fun b hb=> ?_,List.pairwise_cons.2 h2⟩,fun a h4 b h5=> ?_⟩
   ·
    rcases List.mem_cons.1 hb with rfl|hb
    · exact hxy
    · exact Int.lt_trans hxy (h2.1 b hb)
   ·
    rcases List.mem_cons.1 h5 with rfl|h5
    · exact ha a h4
    · exact h3 a h4 b h5
  ·
   have hlt:y<x:=by omega
   rw [show De x true (acc,false) y=(acc++[y],false) by unfold De;rw [if_neg hy,if_neg (fun hh=>by have:=hh.2.2;omega)]]
   refine aq s (acc++[y]) (by rw [List.append_assoc];exact h) hxs fun b hb=> ?_
   rcases List.mem_append.1 hb with hb|hb
   · exact ha b hb
   · rw [List.mem_singleton] at hb;subst hb;exact hlt
theorem V9 {s:List Int} {x:Int} (h:s.Pairwise (· < ·)) (hx:x∉s):(EF s x true).Pairwise (· < ·):=by
 have h1:=aq s [] h hx (fun y hy=>by cases hy)
 unfold EF wall
 simpa using h1
theorem Ow {n:Nat} {l:List BH} {s:List Int} {x:Int} (h:x∈EM n l s true):(0≤x∧x<(n:Int))∧x∉s∧CH l (EF s x true)=true:=by
 unfold EM at h
 obtain ⟨i,hi,rfl⟩:=List.mem_map.1 h
 obtain ⟨h1,h2⟩:=List.mem_filter.1 hi
 have h3:=List.mem_range.1 h1
 unfold KW at h2
 rw [Bool.and_eq_true] at h2
 refine ⟨by omega,fun hc=> ?_,h2.2⟩
 rw [D6.2 hc] at h2
 exact absurd h2.1 AB
theorem rF {n:Nat} {l:List BH} {s:List Int} (h:∀i:Nat,i<n→(i:Int)∈s):EM n l s true=[]:=by
 unfold EM
 rw [List.map_eq_nil_iff,List.filter_eq_nil_iff]
 intro i hi
 unfold KW
 rw [D6.2 (h i (List.mem_range.1 hi))]
 simp
theorem lq {n:Nat} {s:List Int} (h:s.length<n):∃i:Nat,i<n∧(i:Int)∉s:=by
 refine Classical.byContradiction fun hc=> ?_
 have h2:∀x∈(List.range n).map fun i:Nat=>(i:Int),x∈s:=fun x hx=>by
  obtain ⟨i,hi,rfl⟩:=List.mem_map.1 hx
  exact Classical.byContradiction fun hn=>hc ⟨i,List.mem_range.1 hi,hn⟩
 have h3:=KH (L:=(List.range n).map fun i:Nat=>(i:Int)) (M:=s) (List.Pairwise.map _ (fun a b hab e=>hab AA) (List.nodup_range (n:=n))) h2
 rw [List.length_map,List.length_range] at h3
 omega
theorem lu {n:Nat} {s:List Int} (hp:s.Pairwise (· < ·)) (hr:∀x∈s,0≤x∧x<(n:Int)) (h:s.length=n):∀i:Nat,i<n→(i:Int)∈s:=fun i hi=>by
 refine Classical.byContradiction fun hn=> ?_
 have hnd:s.Nodup:=hp.imp (fun hab e=>by omega)
 have h3:=KH (L:=(i:Int)::s) (M:=(List.range n).map fun i:Nat=>(i:Int)) (List.nodup_cons.2 ⟨hn,hnd⟩) (fun x hx=>by
  rcases List.mem_cons.1 hx with rfl|hx
  · exact List.mem_map.2 ⟨i,List.mem_range.2 hi,rfl⟩
  ·
   have:=hr x hx
   exact List.mem_map.2 ⟨x.toNat,List.mem_range.2 AA,by omega⟩)
 rw [List.length_map,List.length_range,List.length_cons] at h3
 omega
theorem l5:∀(l:List Int) (a:Int),a≤l.foldl max a∧(∀x∈l,x≤l.foldl max a)
 |[],a=>⟨Int.le_refl _,(fun x h=>by cases h)⟩
 |b::l,a=>by
  obtain ⟨h1,h2⟩:=l5 l (max a b)
  rw [List.foldl_cons]
  refine ⟨by omega,fun x hx=> ?_⟩
  rcases List.mem_cons.1 hx with rfl|hx
  · omega
  · exact h2 x hx
theorem UG.days {m:Nat} {l:List Bz} {r:List BH} {d:List Int} (h:UG m l r d):∀x∈d,0≤x:=fun x hx=>by
 obtain ⟨j,hj⟩:=List.mem_iff_getElem?.1 hx
 have hjl:=BP hj
 rw [h.dl] at hjl
 obtain ⟨c,hc⟩:=at_ hjl
 exact (h.dd j x c hjl hj hc).1.1
theorem v8 {n:Nat} {s:List Int} (hp:s.Pairwise (· < ·)) (hr:∀x∈s,0≤x∧x<(n:Int)):DN (n:Int) s=true:=by
 unfold DN
 rw [Br]
 intro j hj
 have h1:=hr _ (List.getElem_mem hj)
 unfold setAt
 rw [List.getElem?_eq_getElem hj]
 simp only [Option.getD_some,Bool.and_eq_true,Bool.or_eq_true,decide_eq_true_eq]
 refine ⟨h1,?_⟩
 rcases Nat.eq_zero_or_pos j with h0|h0
 · exact .inl h0
 ·
  right
  rw [List.getElem?_eq_getElem (show j-1<s.length by omega)]
  exact List.pairwise_iff_getElem.1 hp (j-1) j AA hj AA
structure GQ (n:Nat) (r:List BH) (s:List Int):Prop where
 asc:s.Pairwise (· < ·)
 Xw:∀x∈s,0≤x∧x<(n:Int)
 cl:CH r s=true
theorem GQ.nil (n:Nat) (r:List BH):GQ n r []:=⟨List.Pairwise.nil,(fun x h=>by cases h),Cf.2 fun q _ h=>by cases h⟩
theorem GQ.set {n:Nat} {r:List BH} {s:List Int} (h:GQ n r s):DN (n:Int) s=true:=v8 h.asc h.Xw
theorem GQ.next {n:Nat} {r:List BH} {s:List Int} {x:Int} (h:GQ n r s) (hx:x∈EM n r s true):GQ n r (EF s x true)∧(EF s x true).length=s.length+1:=by
 obtain ⟨h1,h2,h3⟩:=Ow hx
 refine ⟨⟨V9 h.asc h2,fun y hy=> ?_,h3⟩,Iq h2⟩
 rcases C9.1 hy with rfl|hy
 · exact h1
 · exact h.Xw y hy
theorem GQ.due {r:List BH} {d s:List Int} (hv:Am (d.length:Nat) r=0) (h:GQ d.length r s):V8 r d s=0∧FB (d.length:Nat) r s=EM d.length r s true:=by
 have h0:=k_ hv h.set h.cl
 exact ⟨ak h0,by unfold FB;rw [if_pos h0];rfl⟩
theorem GQ.all {r:List BH} {d s:List Int} (hv:Am (d.length:Nat) r=0) (h:GQ d.length r s):Fx r d s (Vr d)=EM d.length r s true:=by
 unfold Fx
 rw [(h.due hv).2,List.filter_eq_self]
 intro x hx
 have hr:=(Ow hx).1
 have hdx:=DH (l:=d) (i:=x.toNat) AA
 have:=(l5 d (-1)).2 _ (List.mem_of_getElem? hdx)
 rw [Bool.not_eq_true',decide_eq_false_iff_not]
 unfold Vr
 omega
theorem GQ.none {r:List BH} {d s:List Int} (h:GQ d.length r s) (hl:s.length=d.length):EM d.length r s true=[]:=rF (lu h.asc h.Xw hl)
theorem GQ.some {r:List BH} {d s:List Int} (hv:Am (d.length:Nat) r=0) (h:GQ d.length r s) (hl:s.length<d.length):EM d.length r s true≠[]:=by
 obtain ⟨i,hi,hn⟩:=lq hl
 exact Xv (n:=((d.length:Nat):Int)) hv h.cl (by simpa using hi) hn
abbrev rG (l:List Bz) (r:List BH) (d:List Int) (day:Int) (st tr:List Int) (sp:Bool):List Pr:=[C_ l,reqs r,ints d,int day,ints st,ints tr,Cp.bool sp]
def UJ (m x:Int):Bool:=decide (x<0∨x>m)
abbrev Ht (m:Int) (l:List Int):Bool:=l.any (UJ m)
def CK (st:List Int):List Int:=((List.range st.length).filter fun i:Nat=>decide (st.getD i 0=1)).map fun i:Nat=>(i:Int)
theorem dc {st:List Int} (h:∀x∈st,x≠1):CK st=[]:=by
 unfold CK
 rw [List.map_eq_nil_iff,List.filter_eq_nil_iff]
 intro i hi
 have hi:=List.mem_range.1 hi
 have:=h _ (List.getElem_mem hi)
 rw [List.getD_eq_getElem?_getD,List.getElem?_eq_getElem hi]
 simpa using this
theorem N8 (n:Nat):CK (List.replicate n 0)=[]:=dc fun x hx=>by rw [List.eq_of_mem_replicate hx];decide
def YW (n:Nat) (r:List BH) (d:List Int) (day:Int) (st tr:List Int):Bool:=decide (((n≤24∧d.length=n)∧st.length=n∧tr.length=n)∧((Ht 40000 d=false∧UJ 40000 day=false)∧Ht 3 st=false∧Ht 4 tr=false)∧LU (n:Int) r (CK st)=0∧RI (n:Int) r (CK st)=true)
theorem l6 {n:Nat} {r:List BH} {d:List Int} {day:Int} {st tr:List Int}:YW n r d day st tr=true↔((n≤24∧d.length=n)∧st.length=n∧tr.length=n)∧((Ht 40000 d=false∧UJ 40000 day=false)∧Ht 3 st=false∧Ht 4 tr=false)∧LU (n:Int) r (CK st)=0∧RI (n:Int) r (CK st)=true:=by unfold YW;rw [decide_eq_true_eq]
theorem YX {a b:HR}  :BD prog 164 [agg (DF a),agg (DF b)] (bool (decide (a=b))):=by
 refine fo func164 rfl ⟨rfl,rfl⟩ fun M0 w0=> ?_
 refine ac ?_
 refine ac ?_
 refine Ch.cs 10 rfl ?_ ?_<;>intro h1 q1
 refine ac ?_
 refine Ch.cs 17 rfl ?_ ?_<;>intro h2 q2
 refine ac ?_
 refine Ch.cs 24 rfl ?_ ?_<;>intro h3 q3
 refine ac ?_
 refine cy h3 rfl (MA rfl (vl rfl) (vl rfl)) ?_
 refine ac ?_
 refine Ch.cs 31 rfl ?_ ?_<;>intro h4 q4
 refine ac ?_
 refine Ch.cs 38 rfl ?_ ?_<;>intro h5 q5
 refine ac ?_
 refine cy h5 rfl (MA rfl (vl rfl) (vl rfl)) ?_
 refine ac ?_
 refine Ch.cs 45 rfl ?_ ?_<;>intro h6 q6
 refine ac ?_
 refine Ch.cs 52 rfl ?_ ?_<;>intro h7 q7
 refine ac ?_
 refine Ch.cs 59 rfl ?_ ?_<;>intro h8 q8
 refine ac ?_
 refine Ch.cs 66 rfl ?_ ?_<;>intro h9 q9
 refine ac ?_
 refine Ch.cs 73 rfl ?_ ?_<;>intro h10 Q2
 refine ac ?_
 refine cy h10 rfl (C4 (uv) rfl rfl rfl) ?_
 refine ac ?_
 refine Ch.cs 80 rfl ?_ ?_<;>intro h11 U7
 refine ac ?_
 refine cy h11 rfl (iV rfl (vl rfl) (vl rfl)) ?_
 refine ac ?_
 refine wk [4] rfl ?_
 refine ac ?_
 · exact F6
 refine ac ?_
 refine wk [4] rfl ?_
 refine ac ?_
 · exact F6
 refine ac ?_
 refine wk [4] rfl ?_
 refine ac ?_
 · exact F6
 refine ac ?_
 refine wk [4] rfl ?_
 refine ac ?_
 · exact F6
 refine ac ?_
 refine wk [4] rfl ?_
 refine ac ?_
 · exact F6
 refine ac ?_
 refine wk [4] rfl ?_
 refine ac ?_
 · exact F6
 refine ac ?_
 refine wk [4] rfl ?_
 refine ac ?_
 · exact F6
 refine ac ?_
 refine wk [4] rfl ?_
 refine ac ?_
 · exact F6
 refine ac ?_
 refine wk [4] rfl ?_
 refine ac ?_
 · exact F6
 refine ac ?_
 refine wk [4] rfl ?_
 refine ac ?_
 · exact F6
 refine ac ?_
 refine wk [4] rfl ?_
 refine ac ?_
 · exact F6
 refine ac ?_
 refine wk [4] rfl ?_
 refine ac ?_
 · exact F6
theorem YY:Entry Tryz.prog 164:=⟨_,Tryz.func164,rfl,rfl⟩
theorem l7 {a b:Bz}  :BD prog 111 [agg (DP a),agg (DP b)] (bool (decide (a=b))):=by
 refine fo func111 rfl ⟨rfl,rfl⟩ fun M0 w0=> ?_
 refine ac ?_
 refine Tr.seq (Tr.pad (Tr.pad (Tr.rx ?_)))
 refine ax ?_
 refine Cx.ef 0 rfl rfl AB (Gb rfl rfl AB rfl nH TK) (Cx.ef 1 rfl rfl AB (Gb rfl rfl AB rfl nH TK) (Cx.Ee 0 rfl rfl (Hs rfl rfl rfl rfl (Va rfl) JS rfl rfl) (Cx.Ee 1 rfl rfl (Hs rfl rfl rfl rfl (Va rfl) JS rfl rfl) ?_)))
 refine Cx.nil ⟨by kernel_rfl,?_⟩
 refine BW.open_ 0 5 rfl rfl (fun v1=> ?_)
 refine BW.open_ 1 6 rfl rfl (fun v2=> ?_)
 refine BW.done al2 (Fin.Wu 5 0 _ rfl rfl (fun _=>rfl) (fun b1=> ?_))
 refine Fin.Wu 6 1 _ rfl rfl (fun _=>rfl) (fun b2=> ?_)
 refine Fin.go ?_
 refine ac ?_
 refine Ch.cs 16 rfl ?_ ?_<;>intro h1 q1
 refine ac ?_
 refine Ch.cs 23 rfl ?_ ?_<;>intro h2 q2
 refine ac ?_
 refine Ch.cs 30 rfl ?_ ?_<;>intro h3 q3
 refine ac ?_
 refine Ch.cs 37 rfl ?_ ?_<;>intro h4 q4
 refine ac ?_
 refine cy h4 rfl (MA rfl (vl rfl) (vl rfl)) ?_
 refine ac ?_
 refine Ch.cs 44 rfl ?_ ?_<;>intro h5 q5
 refine ac ?_
 refine Ch.cs 51 rfl ?_ ?_<;>intro h6 q6
 refine ac ?_
 refine cy h6 rfl (AZ rfl (uw) ⟨ke rfl,ke rfl,⟨_,rfl,B9 (dom:=fun p:HR×HR=>[agg (DF p.1),agg (DF p.2)]) (res:=fun p=>bool (decide (p.1=p.2))) YY (fun p=>YX (a:=p.1) (b:=p.2))⟩,trivial⟩) ?_
 refine ac ?_
 refine Tr.drop 0 (Tr.drop 0 (wk [4] rfl ?_))
 refine ac ?_
 · exact Ku
 refine ac ?_
 refine Tr.drop 0 (Tr.drop 0 (wk [4] rfl ?_))
 refine ac ?_
 · exact Ku
 refine ac ?_
 refine Tr.drop 0 (Tr.drop 0 (wk [4] rfl ?_))
 refine ac ?_
 · exact Ku
 refine ac ?_
 refine Tr.drop 0 (Tr.drop 0 (wk [4] rfl ?_))
 refine ac ?_
 · exact Ku
 refine ac ?_
 refine Tr.drop 0 (Tr.drop 0 (wk [4] rfl ?_))
 refine ac ?_
 · exact Ku
 refine ac ?_
 refine Tr.drop 0 (Tr.drop 0 (wk [4] rfl ?_))
 refine ac ?_
 · exact Ku
 refine ac ?_
 refine Tr.drop 0 (Tr.drop 0 (wk [4] rfl ?_))
 refine ac ?_
 · exact Ku
theorem l9:Entry Tryz.prog 111:=⟨_,Tryz.func111,rfl,rfl⟩
def newE (l:List Bz) (r:List BH) (d:List Int) (day:Int):Int:=if 0≤day∧day≤40000 then (if YW l.length r d day (List.replicate l.length 0) (List.replicate l.length 0)=true then 0 else 49) else 2
def newP (l:List Bz) (r:List BH) (d:List Int) (day:Int):List Pr:=if newE l r d day=0 then rG l r d day (List.replicate l.length 0) (List.replicate l.length 0) false else rG [] [] [] 0 [] [] false
theorem AA4 {l:List Bz} {r:List BH} {d:List Int} {day:Int} (h:0≤day∧day≤40000) (hk:YW l.length r d day (List.replicate l.length 0) (List.replicate l.length 0)=true):newE l r d day=0∧newP l r d day=rG l r d day (List.replicate l.length 0) (List.replicate l.length 0) false:=by
 have h0:newE l r d day=0:=by unfold newE;rw [if_pos h,if_pos hk]
 exact ⟨h0,if_pos h0⟩
theorem au {n:Nat} {m:Int} (h:0≤m):Ht m (List.replicate n 0)=false:=by
 unfold Ht
 rw [List.any_eq_false]
 intro x hx
 rw [List.eq_of_mem_replicate hx]
 unfold UJ
 simpa using h
theorem UG.in_ {m:Nat} {l:List Bz} {r:List BH} {d:List Int} (h:UG m l r d):Ht 40000 d=false:=by
 unfold Ht
 rw [List.any_eq_false]
 intro x hx
 obtain ⟨j,hj⟩:=List.mem_iff_getElem?.1 hx
 have hjl:=BP hj
 rw [h.dl] at hjl
 obtain ⟨c,hc⟩:=at_ hjl
 have:=(h.dd j x c hjl hj hc).1
 unfold UJ
 rw [decide_eq_true_eq];omega
theorem set_nil (n:Int):DN n []=true:=rfl
theorem UG.new {m:Nat} {l:List Bz} {r:List BH} {d:List Int} {day:Int} (h:UG m l r d) (hd:0≤day∧day≤40000):newE l r d day=0∧newP l r d day=rG l r d day (List.replicate l.length 0) (List.replicate l.length 0) false:=by
 refine AA4 hd ?_
 obtain ⟨h1,h2⟩:=aO (n:=((l.length:Nat):Int)) (s:=[]) h.v (set_nil _)
 unfold YW
 rw [N8,decide_eq_true_eq,h1,h2]
 exact ⟨⟨⟨h.l24,h.dl⟩,List.length_replicate,List.length_replicate⟩,⟨⟨h.in_,by unfold UJ;rw [decide_eq_false_iff_not];omega⟩,au AB,au AB⟩,rfl,Cf.2 fun q _ hq=>by cases hq⟩
theorem v_ {a b:List (BH)}  :BD prog 112 [reqs a,reqs b] (bool (decide (a=b))):=by
 refine fo func112 rfl ⟨rfl,rfl⟩ fun M0 w0=>(Tr.CM 0 rfl fun D4=>(Tr.CM 1 rfl fun Fz=> ?_))
 refine ac ?_
 refine an ?_ ?_<;>intro h1 q1
 have hne:¬a.length=b.length:=by simp_all;omega
 refine a2 ?_
 · exact Mg
 have Q0:a.length=b.length:=by simp_all;omega
 refine a2 ?_
 refine Tr.block (Tr.Ax _ (kk [12,1,0] rfl) (fun k:Nat=>[(13,int ((k:Nat):Int))]) (fun k:Nat=>k≤(a).length∧(a.take k=b.take k)) (fun k:Nat=>(a).length-k) 0 (⟨Nat.zero_le _,rfl⟩) kz ?_)
 rintro k ⟨BK,AL⟩
 refine ac ?_
 refine Tr.seq ?_
 refine Tr.cn rfl ?_ ?_<;>intro h2 q2
 have Aa:k<(a).length:=AH h2
 obtain ⟨x,AX⟩:=at_ Aa
 obtain ⟨y,hy⟩:=at_ (l:=b) (k:=k) AA
 · repeat' first|(refine bool_eq ?_;symm;rw [decide_eq_false_iff_not];refine Yj AX hy ?_;rintro rfl;simp_all)|(exact Fin.AM (k+1) ⟨⟨Aa,O4 AX hy AL (by cases x;cases y;simp_all)⟩,by omega⟩ ⟨⟨_,rfl,AF k⟩,kz⟩)|refine co rfl (AD rfl underlying33 B5 vq vq AA (Ac AX)) ?_|refine co rfl (AD rfl underlying33 B5 vq vq AA (Ac hy)) (co rfl (AK rfl EI B5 vq rfl rfl) (co rfl (aE rfl vq vq) ?_))|refine ac ?_|(refine Tr.cn rfl ?_ ?_<;>intro h q)
 have Az:k=(a).length:=by have:=AJ h2;omega
 subst Az
 refine a3 ?_
 · exact Mh
theorem rH {a b:List Bz}  :BD prog 110 [C_ a,C_ b,OU prog (fun p:Bz×Bz=>[agg (DP p.1),agg (DP p.2)]) (fun p=>bool (decide (p.1=p.2)))] (bool (decide (a=b))):=by
 refine fo func110 rfl ⟨rfl,rfl⟩ fun M0 w0=>(Tr.CM 0 rfl fun D4=>(Tr.CM 1 rfl fun Fz=> ?_))
 refine ac ?_
 refine an ?_ ?_<;>intro h1 q1
 have hne:¬a.length=b.length:=by simp_all;omega
 refine a2 ?_
 · exact Mg
 have Q0:a.length=b.length:=by simp_all;omega
 refine a2 ?_
 refine Tr.block (Tr.Ax _ (kk [16,15,2,1] rfl) (fun k:Nat=>[(17,int ((k:Nat):Int))]) (fun k:Nat=>k≤(a).length∧(a.take k=b.take k)) (fun k:Nat=>(a).length-k) 0 (⟨Nat.zero_le _,rfl⟩) kz ?_)
 rintro k ⟨BK,AL⟩
 refine ac ?_
 refine Tr.seq ?_
 refine Tr.cn rfl ?_ ?_<;>intro h2 q2
 have Aa:k<(a).length:=AH h2
 obtain ⟨x,AX⟩:=at_ Aa
 obtain ⟨y,hy⟩:=at_ (l:=b) (k:=k) AA
 refine ac ?_
 refine ao ?_
 refine tp rfl (AD rfl underlying32 Be (vl rfl) (vl rfl) AA (Ac AX)) (tp rfl (AK rfl CT Be (vl rfl) rfl rfl) ?_)
 refine Tl rfl rfl rfl rfl Km Gz (fun b1=> ?_)
 refine tm rfl ?_
 refine sf 0 8 ⟨rfl,rfl,rfl⟩ rfl rfl rfl rfl ?_
 refine ao ?_
 refine ao ?_
 refine tp rfl (AD rfl underlying32 Be (vl rfl) (vl rfl) AA (Ac hy)) (tp rfl (AK rfl CT Be (vl rfl) rfl rfl) ?_)
 refine Tl rfl rfl rfl rfl Km Gz (fun b2=> ?_)
 refine sf 0 9 ⟨rfl,rfl,rfl⟩ rfl rfl rfl rfl ?_
 refine ao ?_
 · exact eW
 have Az:k=(a).length:=by have:=AJ h2;omega
 subst Az
 refine a3 ?_
 · exact Mh
theorem rI {l l2:List Bz} {r r2:List BH} {d d2:List Int}  :BD prog 58 [agg [C_ l,reqs r,ints d],agg [C_ l2,reqs r2,ints d2]] (bool (decide (l=l2∧r=r2∧d=d2))):=by
 refine fo func58 rfl ⟨rfl,rfl⟩ fun M0 w0=> ?_
 refine a2 ?_
 refine co rfl (AZ rfl (rH (a:=l) (b:=l2)) ⟨kq,kq,⟨_,rfl,B9 (dom:=fun p:Bz×Bz=>[agg (DP p.1),agg (DP p.2)]) (res:=fun p=>bool (decide (p.1=p.2))) l9 (fun p=>l7 (a:=p.1) (b:=p.2))⟩,trivial⟩) ?_
 refine cm rfl ?_
 · repeat' first|(refine bool_eq ?_;simp_all)|refine cy h rfl (C4 (v_) rfl rfl rfl) ?_|refine cy h rfl (C4 (uu) rfl rfl rfl) ?_|refine ac ?_|(refine Ch.cg rfl rfl rfl ?_ ?_<;>intro h q)
theorem sv {R:Int→Int→Prop} (hn:∀a b,R a b→R b a→False):∀{a b:List Int},a.Pairwise R→b.Pairwise R→(∀x,x∈a↔x∈b)→a=b
 |[],[],_,_,_=>rfl
 |[],y::b,_,_,h=>by have:=(h y).2 (List.mem_cons_self ..);cases this
 |x::a,[],_,_,h=>by have:=(h x).1 (List.mem_cons_self ..);cases this
 |x::a,y::b,ha,hb,h=>by
  obtain ⟨ha1,ha2⟩:=List.pairwise_cons.1 ha
  obtain ⟨Lu,Q1⟩:=List.pairwise_cons.1 hb
  have hxy:x=y:=by
   rcases List.mem_cons.1 ((h x).1 (List.mem_cons_self ..)) with h1|h1
   · exact h1
   ·
    rcases List.mem_cons.1 ((h y).2 (List.mem_cons_self ..)) with h2|h2
    · exact h2.symm
    · exact (hn _ _ (Lu x h1) (ha1 y h2)).elim
  subst hxy
  rw [sv hn ha2 Q1 fun z=>⟨fun hz=> ?_,fun hz=> ?_⟩]
  ·
   rcases List.mem_cons.1 ((h z).1 (List.mem_cons_of_mem _ hz)) with rfl|h1
   · exact (hn _ _ (ha1 z hz) (ha1 z hz)).elim
   · exact h1
  ·
   rcases List.mem_cons.1 ((h z).2 (List.mem_cons_of_mem _ hz)) with rfl|h1
   · exact (hn _ _ (Lu z hz) (Lu z hz)).elim
   · exact h1
theorem sy {p:Int→Bool}:∀{o:List Int} {j:Nat},j≤o.length→(∀m y,m<j→o[m]? =some y→p y=true)→(∀y,o[j]? =some y→p y=false)→o.takeWhile p=o.take j∧o.dropWhile p=o.drop j
  | [], j, h, _, _ => by obtain rfl : j = 0 := by simpa using h
                         exact ⟨rfl,rfl⟩
  |a::o,0,_,_,h3=>by have:=h3 a rfl;simp [this]
  |a::o,j+1,h1,h2,h3=>by
    have h4:=h2 0 a AA rfl
    obtain ⟨h5,h6⟩:=sy (o:=o) (j:=j) GS (fun m y hm hy=>h2 (m+1) y AA hy) (fun y hy=>h3 y hy)
    simp [h4,h5,h6]
theorem rJ {a b o:List Int} (h:a++b=o):o.take a.length=a∧o.drop a.length=b:=by subst h;simp
def OJ (d:List Int) (i y:Int):Bool:=decide (d.getD y.toNat 0≤d.getD i.toNat 0)
def RM (d o:List Int) (i:Int):Nat:=(o.takeWhile (OJ d i)).length
def l_ (d o:List Int) (i:Int):List Int:=o.take (RM d o i)++[i]++o.drop (RM d o i)
def Kc (d:List Int):Nat→List Int
 |0=>[]
 |k+1=>l_ d (Kc d k) (k:Int)
theorem av {d o:List Int} {i:Int} {j:Nat} (h:j≤o.length) (h1:∀m y,m<j→o[m]? =some y→OJ d i y=true) (h2:∀y,o[j]? =some y→OJ d i y=false):RM d o i=j:=by
 unfold RM
 rw [(sy h h1 h2).1,List.length_take];omega
theorem UK (d:List Int):∀k:Nat,(Kc d k).Pairwise (UI d)∧(∀x,x∈Kc d k↔0≤x∧x<(k:Int))∧(Kc d k).length=k
 |0=>⟨List.Pairwise.nil,fun x=>⟨fun h=>(by cases h),fun h=>by omega⟩,rfl⟩
 |k+1=>by
  obtain ⟨h1,h2,h3⟩:=UK d k
  generalize ho:Kc d k=o at h1 h2 h3
  obtain ⟨e1,e2⟩:=rJ (List.takeWhile_append_dropWhile (p:=OJ d k) (l:=o))
  have e3:Kc d (k+1)=o.takeWhile (OJ d k)++[(k:Int)]++o.dropWhile (OJ d k):=by
   show l_ d (Kc d k) k=_
   unfold l_ RM
   rw [ho,e1,e2]
  have ht:∀y∈o.takeWhile (OJ d k),OJ d k y=true:=by
   clear h1 h2 h3 ho e1 e2 e3
   induction o with
   |nil=>intro y h;cases h
   |cons a o ih=>
    intro y hy
    rw [List.takeWhile_cons] at hy
    split at hy
    ·
     rcases List.mem_cons.1 hy with rfl|hy
     · exact BC
     · exact ih y hy
    · cases hy
  have hd:∀y∈o.dropWhile (OJ d k),OJ d k y=false:=by
   clear h2 h3 ho e1 e2 e3 ht
   induction o with
   |nil=>intro y h;cases h
   |cons a o ih=>
    obtain ⟨g1,g2⟩:=List.pairwise_cons.1 h1
    intro y hy
    rw [List.dropWhile_cons] at hy
    split at hy
    · exact ih g2 y hy
    ·
     rename_i hq
     rcases List.mem_cons.1 hy with rfl|hy
     · simpa using hq
     ·
      have g3:=g1 y hy
      unfold UI at g3
      unfold OJ at hq ⊢
      rw [decide_eq_true_eq] at hq
      rw [decide_eq_false_iff_not];omega
  have hm:∀y,y∈o↔y∈o.takeWhile (OJ d k)∨y∈o.dropWhile (OJ d k):=fun y=>by
   rw [←List.mem_append,List.takeWhile_append_dropWhile]
  have hp:=h1
  rw [←List.takeWhile_append_dropWhile (p:=OJ d k) (l:=o),List.pairwise_append] at hp
  obtain ⟨p1,p2,p3⟩:=hp
  have hl:=congrArg List.length (List.takeWhile_append_dropWhile (p:=OJ d k) (l:=o))
  rw [List.length_append] at hl
  rw [e3]
  refine ⟨?_,fun x=> ?_,by simp only [List.length_append,List.length_cons,List.length_nil];omega⟩
  ·
   rw [List.pairwise_append,List.pairwise_append]
   refine ⟨⟨p1,List.pairwise_singleton _ _,fun a ha b hb=> ?_⟩,p2,fun a ha b hb=> ?_⟩
   ·
    rw [List.mem_singleton] at hb;subst hb
    have:=ht a ha
    have:=(h2 a).1 ((hm a).2 (.inl ha))
    unfold OJ at*
    unfold UI
    rw [decide_eq_true_eq] at*
    omega
   ·
    rcases List.mem_append.1 ha with ha|ha
    · exact p3 a ha b hb
    ·
     rw [List.mem_singleton] at ha;subst ha
     have:=hd b hb
     unfold OJ at this
     unfold UI
     rw [decide_eq_false_iff_not] at this
     omega
  ·
   have:=h2 x
   rw [List.mem_append,List.mem_append,List.mem_singleton]
   rw [hm] at this
   constructor
   ·
    rintro ((h|h)|h)
    · have:=this.1 (.inl h);omega
    · omega
    · have:=this.1 (.inr h);omega
   ·
    intro h
    by_cases hx:x=(k:Int)
    · exact .inl (.inr hx)
    ·
     rcases this.2 AA with h|h
     · exact .inl (.inl h)
     · exact .inr h
theorem rK (d:List Int):Kc d d.length=YU d:=by
 obtain ⟨h1,h2,_⟩:=UK d d.length
 obtain ⟨h3,h4⟩:=rB d
 refine sv (fun a b g1 g2=>by unfold UI at*;omega) h1 h3 fun x=> ?_
 rw [h2,h4.mem_iff]
 exact ⟨fun h=>by unfold G0;exact List.mem_map.2 ⟨x.toNat,List.mem_range.2 AA,by omega⟩,fun h=>V7 x h⟩
theorem rL (d o:List Int) (i:Int):RM d o i≤o.length:=by
 have h:=congrArg List.length (List.takeWhile_append_dropWhile (p:=OJ d i) (l:=o))
 rw [List.length_append] at h
 unfold RM;omega
theorem mA {d o:List Int} {i:Int} {j:Nat} {x:Int} (hx:o[j]? =some x) (h:OJ d i x=true) (hi:∀m y,m<j→o[m]? =some y→OJ d i y=true):∀m y,m<j+1→o[m]? =some y→OJ d i y=true:=fun m y hm hy=>by
 rcases Nat.lt_or_ge m j with h1|h1
 · exact hi m y h1 hy
 ·
  obtain rfl:m=j:=by omega
  rw [hx] at hy;cases hy;exact h
theorem YZ {l:List Bz} {r:List BH} {d:List Int} (UP:d.length=l.length) (hl:l.length≤1000000):BD prog 28 [agg [C_ l,reqs r,ints d]] (ints (YU d)):=by
 refine fo func28 rfl ⟨rfl,rfl⟩ fun M0 w0=>(Tr.D9 0 0 rfl rfl fun EK=> ?_)
 refine a3 ?_
 refine Tr.block (Tr.CB 3 1 (Tr.Ez _ (kk [9,1] rfl) (fun k v=>[(10,int ((k:Nat):Int)),(3,Ae v (ints (Kc d k)))]) (fun k v=>Hp M0 w0 II ([As 3 1 v])) (fun k:Nat=>k≤(l).length) (fun k:Nat=>(l).length-k) 0 (.slice none 0 0) (Nat.zero_le _) ⟨kq,⟨_,rfl,Bu rfl⟩,trivial⟩ (fun _ _ h=>h) ?_))
 rintro k v BK
 refine ac ?_
 refine Tr.seq ?_
 refine Tr.cn rfl ?_ ?_<;>intro h1 q1
 have Aa:k<(l).length:=AH h1
 obtain ⟨x,AX⟩:=at_ Aa
 have hkd:k<d.length:=by omega
 have hok:=UK d k
 have hol:=hok.2.2
 have hdk:=DH hkd
 have hpl:=rL d (Kc d k) ((k:Nat):Int)
 refine a3 ?_
 refine wk [10,9,5,4,3,1] rfl (Tr.Wk [1,3,4,9,10] [(5,int ((RM d (Kc d k) ((k:Nat):Int):Nat):Int))] (True) ?_ (fun h2=> ?_))
 refine Tr.block (Tr.Ax _ (kk [10,9,4,3,1] rfl) (fun j:Nat=>[(5,int ((j:Nat):Int))]) (fun j:Nat=>j≤k∧(∀m y,m<j→(Kc d k)[m]? =some y→OJ d ((k:Nat):Int) y=true)) (fun j:Nat=>k-j) 0 (⟨Nat.zero_le _,fun m y hj=>absurd hj AA⟩) kz ?_)
 rintro j ⟨AA5,hinv⟩
 refine ac ?_
 refine co rfl (Bn rfl underlying22 KR) ?_
 refine ag ?_ ?_<;>intro h3 q3
 obtain ⟨y,hy⟩:=at_ (l:=Kc d k) (k:=j) (by have:=q3;omega)
 have hyr:=(hok.2.1 y).1 (List.mem_of_getElem? hy)
 have hdy:=DH (l:=d) (i:=y.toNat) AA
 refine ac ?_
 refine cy h3 rfl (AD rfl underlying22 Bg KR vq AA (Ac hy)) (cy h3 rfl (GI rfl CX rfl) (cy h3 rfl (AD rfl underlying22 Bg vq vq AA (Bt hdy)) ?_))
 refine ac ?_
 refine cy h3 rfl (AD rfl underlying22 Bg vq vq AA (Ac hdk)) ?_
 refine ac ?_
 refine wk [32,10,9,5,4,3,1] rfl ?_
 refine Tr.cn rfl ?_ ?_<;>intro h4 q4
 have hq:OJ d ((k:Nat):Int) y=true:=by unfold OJ;simpa using h4
 refine a2 ?_
 exact Fin.AM (j+1) ⟨⟨by omega,mA hy hq hinv⟩,by omega⟩ ⟨⟨_,rfl,AF j⟩,kz⟩
 have hp:RM d (Kc d k) ((k:Nat):Int)=j:=av AA hinv (fun z hz=>by rw [hy] at hz;cases hz;unfold OJ;simpa using h4)
 refine Tr.exit (Fin.AV (Fin.AV (Fin.Ao (Fin.AM () trivial ⟨⟨_,rfl,int_eq (by rw [hp])⟩,kz⟩))))
 have hp:RM d (Kc d k) ((k:Nat):Int)=j:=av AA hinv (fun y hy=>by have:=BP hy;have:=q3;omega)
 refine ac ?_
 refine wk [32,10,9,5,4,3,1] rfl (Tr.cond rfl (fun h=>nomatch h) (fun _=> ?_))
 refine Tr.exit (Fin.AV (Fin.AV (Fin.Ao (Fin.AM () trivial ⟨⟨_,rfl,int_eq (by rw [hp])⟩,kz⟩))))
 refine ap ?_
 refine tp rfl (Ff rfl underlying22 Bg KR vq AA B1) ?_
 refine TO.pad ?_
 refine TO.Ef 0 rfl rfl AB (J5 rfl rfl AB rfl underlying22 Bg J_ z3 rfl AB ⟨_,rfl,Ai _⟩ vq WW WX (B_ BI ⟨_,rfl,FI 1⟩)) (fun v1=> ?_)
 refine ap ?_
 refine ap ?_
 refine TO.Ef 0 rfl rfl AB (CN rfl rfl rfl rfl underlying22 Bg J_ z3 KR Gx (BQ BI Oc)) (fun v2=> ?_)
 refine ap ?_
 refine wk [10,9,6,5,3,1] rfl ?_
 refine ap ?_
 refine tp rfl (IV rfl underlying22 Bg KR vq AA B1) ?_
 refine TO.Ef 0 rfl rfl AB (CN rfl rfl rfl rfl underlying22 Bg J_ z3 KR vq (BQ BI Oc)) (fun v3=> ?_)
 refine ap ?_
 refine ac ?_
 refine Fin.JY (Fin.drop 0 ?_)
 exact Fin.Dm (k+1) v3 (⟨Aa,by omega⟩) ⟨⟨_,rfl,AF k⟩,⟨_,rfl,BU (by show _=(l_ d (Kc d k) ((k:Nat):Int)).map fun n=>[int n];unfold l_;simp [List.map_take,List.map_drop])⟩,kz⟩ (fun _ _ h=>h)
 have Az:k=(l).length:=by have:=AJ h1;omega
 subst Az
 refine a3 ?_
 · refine Pr.le_trans (A_ _ _) (Pr.le_of_eq ?_);rw [←UP,rK]
theorem IB {st:List Int} {x:Int}:x∈CK st↔∃i:Nat,st[i]? =some 1∧x=(i:Int):=by
 unfold CK
 rw [List.mem_map]
 constructor
 ·
  rintro ⟨i,hi,rfl⟩
  obtain ⟨h1,h2⟩:=List.mem_filter.1 hi
  have h1:=List.mem_range.1 h1
  rw [List.getD_eq_getElem?_getD,List.getElem?_eq_getElem h1,decide_eq_true_eq] at h2
  exact ⟨i,by rw [List.getElem?_eq_getElem h1];exact congrArg some h2,rfl⟩
 ·
  rintro ⟨i,hi,rfl⟩
  obtain ⟨h1,_⟩:=List.getElem?_eq_some_iff.1 hi
  exact ⟨i,List.mem_filter.2 ⟨List.mem_range.2 h1,by rw [List.getD_eq_getElem?_getD,hi];rfl⟩,rfl⟩
theorem NP (st:List Int):(CK st).Pairwise (· < ·):=by
 unfold CK
 rw [List.pairwise_map]
 exact (List.pairwise_lt_range.filter _).imp fun h=>by omega
theorem dh {st:List Int}:∀x∈CK st,0≤x∧x<(st.length:Int):=fun x hx=>by
 obtain ⟨i,hi,rfl⟩:=IB.1 hx
 obtain ⟨h1,_⟩:=List.getElem?_eq_some_iff.1 hi
 omega
theorem mB:∀{a b:List Int},a.Pairwise (· < ·)→b.Pairwise (· < ·)→(∀x,x∈a↔x∈b)→a=b
 |[],[],_,_,_=>rfl
 |[],y::b,_,_,h=>by have:=(h y).2 (List.mem_cons_self ..);cases this
 |x::a,[],_,_,h=>by have:=(h x).1 (List.mem_cons_self ..);cases this
 |x::a,y::b,ha,hb,h=>by
  obtain ⟨ha1,ha2⟩:=List.pairwise_cons.1 ha
  obtain ⟨Lu,Q1⟩:=List.pairwise_cons.1 hb
  have hxy:x=y:=by
   rcases List.mem_cons.1 ((h x).1 (List.mem_cons_self ..)) with h1|h1
   · exact h1
   ·
    rcases List.mem_cons.1 ((h y).2 (List.mem_cons_self ..)) with h2|h2
    · exact h2.symm
    · have:=Lu x h1;have:=ha1 y h2;omega
  subst hxy
  rw [mB ha2 Q1 fun z=> ?_]
  constructor
  ·
   intro hz
   rcases List.mem_cons.1 ((h z).1 (List.mem_cons_of_mem _ hz)) with h1|h1
   · have:=ha1 z hz;omega
   · exact h1
  ·
   intro hz
   rcases List.mem_cons.1 ((h z).2 (List.mem_cons_of_mem _ hz)) with h1|h1
   · have:=Lu z hz;omega
   · exact h1
theorem dj {st:List Int} {i:Nat} (hi:i<st.length) (hn:(i:Int)∉CK st):CK (st.set i 1)=EF (CK st) (i:Int) true:=by
 refine mB (NP _) (V9 (NP _) hn) fun x=> ?_
 rw [C9,IB,IB]
 constructor
 ·
  rintro ⟨j,hj,rfl⟩
  by_cases hji:j=i
  · subst hji;exact .inl rfl
  · rw [List.getElem?_set_ne AA] at hj;exact .inr ⟨j,hj,rfl⟩
 ·
  rintro (rfl|⟨j,hj,rfl⟩)
  · exact ⟨i,List.getElem?_set_self hi,rfl⟩
  ·
   refine ⟨j,?_,rfl⟩
   by_cases hji:i=j
   · subst hji;exact List.getElem?_set_self hi
   · rw [List.getElem?_set_ne hji];exact hj
structure J0 (r:List BH) (d st:List Int):Prop where
 sl:st.length=d.length
 cl:CH r (CK st)=true
 s01:∀x∈st,x=0∨x=1
theorem J0.zero (r:List BH) (d:List Int):J0 r d (List.replicate d.length 0):=
 ⟨List.length_replicate,by rw [N8];exact Cf.2 (fun q _ h=>by cases h),(fun x hx=> .inl (List.eq_of_mem_replicate hx))⟩
theorem J0.done {r:List BH} {d st:List Int} (h:J0 r d st):GQ d.length r (CK st):=⟨NP _,by rw [←h.sl];exact dh,h.cl⟩
theorem rM {r:List BH} {d s:List Int} {day x:Int} (h:x∈Fx r d s day):(0≤x∧x<(d.length:Int))∧d.getD x.toNat 0≤day∧x∈FB (d.length:Nat) r s:=by
 unfold Fx at h
 obtain ⟨h1,h2⟩:=List.mem_filter.1 h
 refine ⟨Ov x h1,?_,h1⟩
 rw [Bool.not_eq_true',decide_eq_false_iff_not] at h2
 omega
theorem J0.at0 {r:List BH} {d st:List Int} {x:Int} (h:J0 r d st) (hx:0≤x∧x<(d.length:Int)) (hn:x∉CK st):st.getD x.toNat 0=0:=by
 have hl:x.toNat<st.length:=by rw [h.sl];omega
 rw [List.getD_eq_getElem?_getD,List.getElem?_eq_getElem hl]
 show st[x.toNat]=0
 rcases h.s01 _ (List.getElem_mem hl) with h1|h1
 · exact h1
 · exact absurd (IB.2 ⟨x.toNat,by rw [List.getElem?_eq_getElem hl,h1],by omega⟩) hn
theorem J0.next {r:List BH} {d st:List Int} {day x:Int} (hv:Am (d.length:Nat) r=0) (h:J0 r d st) (hx:x∈Fx r d (CK st) day):
  J0 r d (st.set x.toNat 1)∧st.set x.toNat (st.getD x.toNat 0+1)=st.set x.toNat 1∧(CK (st.set x.toNat 1)).length=(CK st).length+1:=by
 obtain ⟨h1,_,h2⟩:=rM hx
 rw [(h.done.due hv).2] at h2
 obtain ⟨_,h3,h4⟩:=Ow h2
 have he:((x.toNat:Nat):Int)=x:=by omega
 have hs:CK (st.set x.toNat 1)=EF (CK st) x true:=by
  have:=dj (st:=st) (i:=x.toNat) (by rw [h.sl];omega) (by rw [he];exact h3)
  rw [he] at this;exact this
 refine ⟨⟨by rw [List.length_set];exact h.sl,by rw [hs];exact h4,fun y hy=> ?_⟩,by rw [h.at0 h1 h3];rfl,by rw [hs];exact Iq h3⟩
 rcases List.mem_or_eq_of_mem_set hy with hy|rfl
 · exact h.s01 y hy
 · exact .inr rfl
theorem J0.full {r:List BH} {d st:List Int} {day:Int} (hv:Am (d.length:Nat) r=0) (h:J0 r d st) (hd:∀x∈d,x≤day) (hn:Fx r d (CK st) day=[]):(CK st).length=d.length∧∀x∈st,x=1:=by
 have hal:∀i:Nat,i<d.length→(i:Int)∈CK st:=fun i hi=>by
  refine Classical.byContradiction fun hc=> ?_
  refine Xv (n:=((d.length:Nat):Int)) hv h.cl (by simpa using hi) hc ?_
  rw [show ((d.length:Nat):Int).toNat=d.length by simp]
  unfold Fx at hn
  rw [(h.done.due hv).2,List.filter_eq_nil_iff] at hn
  refine List.eq_nil_iff_forall_not_mem.2 fun x hx=> ?_
  have hr:=(Ow hx).1
  have hdx:=DH (l:=d) (i:=x.toNat) AA
  have:=hd _ (List.mem_of_getElem? hdx)
  have:=hn x hx
  rw [Bool.not_eq_true',decide_eq_false_iff_not] at this
  omega
 have hst:∀x∈st,x=1:=fun x hx=>by
  obtain ⟨i,hi⟩:=List.mem_iff_getElem?.1 hx
  obtain ⟨h1,_⟩:=List.getElem?_eq_some_iff.1 hi
  obtain ⟨j,hj,he⟩:=IB.1 (hal i (by rw [←h.sl];exact h1))
  have:i=j:=by omega
  subst this
  rw [hi] at hj;exact Option.some.inj hj
 refine ⟨?_,hst⟩
 unfold CK
 rw [List.length_map,List.filter_eq_self.2,List.length_range,h.sl]
 intro i hi
 have hi:=List.mem_range.1 hi
 rw [List.getD_eq_getElem?_getD,List.getElem?_eq_getElem hi,decide_eq_true_eq]
 exact hst _ (List.getElem_mem hi)
theorem J0.none {r:List BH} {d st:List Int} {day:Int} (hv:Am (d.length:Nat) r=0) (h:J0 r d st) (hl:(CK st).length=d.length):Fx r d (CK st) day=[]:=by
 unfold Fx
 rw [(h.done.due hv).2,h.done.none hl];rfl
theorem J0.YW {m:Nat} {l:List Bz} {r:List BH} {d st:List Int} {day:Int} (hf:UG m l r d) (h:J0 r d st) (hd:0≤day∧day≤40000):YW l.length r d day st st=true:=by
 have hs:DN ((l.length:Nat):Int) (CK st)=true:=by rw [←hf.dl];exact h.done.set
 obtain ⟨h1,h2⟩:=aO (n:=((l.length:Nat):Int)) hf.v hs
 have hm:∀m:Int,1≤m→Ht m st=false:=fun m hm=>by
  unfold Ht
  rw [List.any_eq_false]
  intro x hx
  have:=h.s01 x hx
  unfold UJ
  rw [decide_eq_true_eq];omega
 have jA:=h.sl.trans hf.dl
 exact l6.2 ⟨⟨⟨hf.l24,hf.dl⟩,jA,jA⟩,⟨⟨hf.in_,by unfold UJ;rw [decide_eq_false_iff_not];omega⟩,hm 3 AB,hm 4 AB⟩,h1,by rw [h2];exact h.cl⟩
theorem J0.Xw {r:List BH} {d st:List Int} (h:J0 r d st):∀x∈st,0≤x∧x<4:=fun x hx=>by have:=h.s01 x hx;omega
theorem dm {p q:Pr} [One p] [One q] {l:List Int}  :BD prog 15 [agg [p,q,ints l]] (int (Vr l)):=by
 refine fo func15 rfl ⟨rfl,rfl⟩ fun M0 w0=>(Tr.D9 0 2 rfl rfl fun KE=> ?_)
 refine a3 ?_
 refine Tr.block (Tr.Ax _ (kk [8,7] rfl) (fun k:Nat=>[(9,int ((k:Nat):Int)),(3,int ((l.take k).foldl max (-1)))]) (fun k:Nat=>k≤(l).length) (fun k:Nat=>(l).length-k) 0 (Nat.zero_le _) ⟨kq,kz⟩ ?_)
 rintro k BK
 refine ac ?_
 refine Tr.seq ?_
 refine Tr.cn rfl ?_ ?_<;>intro h1 q1
 have Aa:k<(l).length:=AH h1
 obtain ⟨x,AX⟩:=at_ Aa
 refine ac ?_
 refine Tr.seq (Tr.block (Tr.seq (Tr.Ah (co rfl (AD rfl underlying22 Bg vq vq AA (Ac AX)) ?_))))
 refine a2 ?_
 refine co rfl (JM rfl vq vq) ?_
 refine a2 ?_
 exact Fin.AM (k+1) ⟨Aa,by omega⟩ ⟨⟨_,rfl,AF k⟩,⟨_,rfl,int_eq Y6⟩,kz⟩
 have Az:k=(l).length:=by have:=AJ h1;omega
 subst Az
 rw [List.take_length]
 refine a3 ?_
 · exact Lr
theorem max_le:∀{l:List Int} {a m:Int},a≤m→(∀x∈l,x≤m)→l.foldl max a≤m
 |[],_,_,h,_=>h
 |b::l,a,m,h,hl=>by
  rw [List.foldl_cons]
  have:=hl b (List.mem_cons_self ..)
  exact max_le AA fun x hx=>hl x (List.mem_cons_of_mem _ hx)
theorem UG.last {m:Nat} {l:List Bz} {r:List BH} {d:List Int} (h:UG m l r d):Vr d≤40000:=max_le AB fun x hx=>by
 have h1:=List.any_eq_false.1 h.in_ x hx
 unfold UJ at h1
 rw [decide_eq_true_eq] at h1;omega
end Go.Proofs.YtmocaapoeefgkaaGreatDoor
namespace Cp
open Go Go.RowKit Go.Great
section
variable {P:Program} {n:Fm} {E:Env} {M0:Av} {w0:World} {S:Nat→Prop} {o:Oper}
end
end Cp
namespace Go.Proofs.YtmocaapoeefgkaaGreatDoor
open Go Go.RowKit Cp Go.Proofs.Tryz
theorem UL {n:Int} {l:List BH} {s:List Int} (hl:l.length≤1000000):BD prog 31 [int n,reqs l,ints s] (F8 [bool (RI n l s),int (LU n l s)]):=by
 refine fo func31 rfl ⟨rfl,rfl⟩ fun M0 w0=> ?_
 refine a2 ?_
 refine co rfl (C4 (LV hl) rfl rfl rfl) ?_
 refine ac ?_
 refine an ?_ ?_<;>intro h1 q1
 have hv:=AAt (s:=s) (n:=n) (l:=l) GS
 refine ac ?_
 refine Tr.ret (Fin.AG (Fin.DO rfl (Bm.Dw _ _) rfl ?_ rfl ?_))
 · refine bool_eq ?_;exact hv.2.symm
 · refine int_eq ?_;exact hv.1.symm
 have hv:Am n l=0:=by simpa using h1
 refine a2 ?_
 refine co rfl (C4 (XZ (l:=s) (n:=n)) rfl rfl rfl) ?_
 refine an ?_ ?_<;>intro h2 q2
 have RW:=AAu (n:=n) (s:=s) hv G2
 refine ac ?_
 refine wk [7,6] rfl (Tr.ret (Fin.AG (Fin.DO rfl (Bm.Dw _ _) rfl ?_ rfl ?_)))
 · refine bool_eq ?_;exact RW.2.symm
 · refine int_eq ?_;exact RW.1.symm
 have hv3:=aO (n:=n) (s:=s) hv G2
 refine a2 ?_
 refine co rfl (C4 (N4) rfl rfl rfl) ?_
 refine ac ?_
 refine wk [7,6] rfl (Tr.ret (Fin.DO rfl (Bm.Dw _ _) rfl ?_ rfl ?_))
 · refine bool_eq ?_;exact hv3.2.symm
 · refine int_eq ?_;exact hv3.1.symm
def az (n:Int) (l:List BH) (s:List Int) (add:Bool):List Int:=if FT n l s=0 then EM n.toNat l s add else []
theorem rN {n:Int} {l:List BH} {s:List Int} (h:LU n l s≠0):FT n l s=LU n l s:=by
 unfold LU at h ⊢
 unfold FT
 by_cases hv:Am n l≠0
 · rw [if_pos hv,if_pos hv]
 ·
  rw [if_neg hv] at h ⊢
  rw [if_neg hv]
  by_cases hs:DN n s=true
  · rw [if_pos hs] at h;exact absurd rfl h
  · rw [if_neg hs,if_neg (fun h=>hs h.1)]
theorem wA {n:Int} {l:List BH} {s:List Int} (h:LU n l s=0):Am n l=0∧DN n s=true∧RI n l s=CH l s:=by
 unfold LU at h
 by_cases hv:Am n l=0
 ·
  rw [if_neg (not_not_intro hv)] at h
  by_cases hs:DN n s=true
  · exact ⟨hv,hs,(aO hv hs).2⟩
  · rw [if_neg hs] at h;cases h
 · rw [if_pos hv] at h;exact absurd h hv
theorem a_ {n:Int} {l:List BH} {s:List Int} {add:Bool} {e:Int} (h:FT n l s=e) (he:e≠0):az n l s add=[]:=by unfold az;rw [if_neg G1]
theorem dw {n:Int} {l:List BH} {s:List Int} {add:Bool} (hl:l.length≤1000000) (hs:s.length≤100000):BD prog 72 [int n,reqs l,ints s,bool add] (F8 [ints (az n l s add),int (FT n l s)]):=by
 refine fo func72 rfl ⟨rfl,rfl⟩ fun M0 w0=> ?_
 refine a2 ?_
 refine co rfl (XC (UL hl) rfl rfl rfl rfl) ?_
 refine ac ?_
 refine an ?_ ?_<;>intro h1 q1
 have he:LU n l s≠0:=by simpa using h1
 have ha:=rN he
 refine ac ?_
 refine wk [9,8] rfl (Tr.ret (Fin.AG (Fin.DO rfl (Bm.Dw _ _) rfl ?_ rfl ?_)))
 · rw [a_ ha he];exact Ai 1
 · exact int_eq ha.symm
 obtain ⟨hv,hsb,hcx⟩:=wA (n:=n) (l:=l) (s:=s) GS
 obtain ⟨h0,_⟩:=CV hv
 obtain ⟨N,rfl⟩:∃N:Nat,n=(N:Int):=⟨n.toNat,by omega⟩
 refine a2 ?_
 refine wk [23,3,2,1,0] rfl ?_
 refine Tr.cn rfl ?_ ?_<;>intro h2 q2
 have AA6:FT (N:Int) l s=46:=YI hv (fun h_=>by rw [hcx,h_.2] at h2;cases h2)
 refine ac ?_
 refine Tr.ret (Fin.AG (Fin.DO rfl (Bm.Dw _ _) rfl ?_ rfl ?_))
 · rw [a_ AA6 AB];exact Ai 1
 · exact int_eq AA6.symm
 have ha0:FT (N:Int) l s=0:=k_ hv hsb (by rw [←hcx];simpa using h2)
 refine a2 ?_
 refine co rfl (kc4 (N5 (n:=N) AA AA) rfl rfl rfl rfl rfl) ?_
 refine ac ?_
 refine Tr.ret (Fin.DO rfl (Bm.Dw _ _) rfl ?_ rfl ?_)
 · unfold az;rw [if_pos ha0];exact Lr
 · exact int_eq ha0.symm
theorem Ya {n:Int} {l:List BH} {s:List Int} (hl:l.length≤1000000) (hs:s.length≤100000):BD prog 76 [int n,reqs l,ints s] (F8 [ints (FB n l s),int (FT n l s)]):=by
 refine fo func76 rfl ⟨rfl,rfl⟩ fun M0 w0=> ?_
 refine a2 ?_
 refine co rfl (kc4 (dw (add:=true) hl hs) rfl rfl rfl rfl rfl) ?_
 refine ac ?_
 refine Tr.ret (Fin.DO rfl (Bm.Dw _ _) rfl ?_ rfl ?_)
 · exact Lr
 · exact Lr
theorem mC {p:Int→Bool} (L:List Int) (k:Nat):((L.take k).filter p).length≤k:=Nat.le_trans (List.length_filter_le _ _) J1
theorem dx {p:Int→Bool} {L:List Int} {k:Nat} {x:Int} (h:L[k]? =some x):(L.take (k+1)).filter p=if p x=true then (L.take k).filter p++[x] else (L.take k).filter p:=by
 rw [List.take_add_one,h,List.filter_append]
 cases hp:p x<;>simp [hp]
theorem dz (n:Nat) (l:List BH) (s:List Int) (b:Bool):(EM n l s b).length≤n:=by unfold EM;rw [List.length_map];exact Nat.le_trans (List.length_filter_le _ _) Sj
theorem mD {n:Nat} {l:List BH} {s:List Int}:(FB (n:Int) l s).length≤n:=by
 unfold FB
 split
 · exact dz _ _ _ _
 · exact Nat.zero_le _
theorem mE {l:List Bz} {r:List BH} {d s:List Int} {day:Int} (UP:d.length=l.length) (hl:l.length≤1000000) (hr:r.length≤1000000) (hs:s.length≤100000):BD prog 23 [agg [C_ l,reqs r,ints d],ints s,int day] (F8 [ints (Fx r d s day),int (V8 r d s)]):=by
 refine fo func23 rfl ⟨rfl,rfl⟩ fun M0 w0=> ?_
 have hal:=mD (n:=d.length) (l:=r) (s:=s)
 refine a2 ?_
 refine co rfl (XC (Ya (n:=((l.length:Nat):Int)) hr hs) rfl rfl rfl rfl) ?_
 refine ac ?_
 refine wk [9,8,3,2] rfl (Tr.seq (Tr.seq (Tr.re 8 rfl (Pr.le_of_eq (show ints (FB ((l.length:Nat):Int) r s)=ints (FB ((d.length:Nat):Int) r s) by rw [UP])) (Tr.re 9 rfl (int_eq (show FT ((l.length:Nat):Int) r s=FT ((d.length:Nat):Int) r s by rw [UP])) ?_))))
 refine an ?_ ?_<;>intro h1 q1
 obtain ⟨hd1,hd2⟩:=ld (r:=r) (d:=d) (s:=s) (day:=day) GS
 refine ac ?_
 refine Tr.ret (Fin.AG (Fin.DO rfl (Bm.Dw _ _) rfl ?_ rfl ?_))
 · rw [hd2];exact Ai 1
 · exact int_eq hd1.symm
 have ha0:FT ((d.length:Nat):Int) r s=0:=by simpa using h1
 refine a3 ?_
 refine Tr.block (Tr.CB 3 1 (Tr.Ez _ (kk [26,25,3,2] rfl) (fun k v=>[(27,int ((k:Nat):Int)),(10,Ae v (ints (((FB ((d.length:Nat):Int) r s).take k).filter (fun i=> !decide (d.getD i.toNat 0>day)))))]) (fun k v=>Hp M0 w0 II ([As 3 1 v])) (fun k:Nat=>k≤((FB ((d.length:Nat):Int) r s)).length) (fun k:Nat=>((FB ((d.length:Nat):Int) r s)).length-k) 0 (.slice none 0 0) (Nat.zero_le _) ⟨kq,⟨_,rfl,Bu rfl⟩,trivial⟩ (fun _ _ h=>h) ?_))
 rintro k v BK
 refine ac ?_
 refine Tr.seq ?_
 refine Tr.cn rfl ?_ ?_<;>intro h2 q2
 have Aa:k<((FB ((d.length:Nat):Int) r s)).length:=AH h2
 obtain ⟨x,AX⟩:=at_ Aa
 have hxr:=Ov x (List.mem_of_getElem? AX)
 have hdx:=DH (l:=d) (i:=x.toNat) AA
 have hfs:=dx (p:=(fun i=> !decide (d.getD i.toNat 0>day))) AX
 have hfl:=mC (p:=(fun i=> !decide (d.getD i.toNat 0>day))) (FB ((d.length:Nat):Int) r s) k
 refine ac ?_
 refine Tr.seq (Tr.block (Tr.seq (Tr.Ah (co rfl (AD rfl underlying51 Bg vq vq AA (Ac AX)) ?_))))
 refine a2 ?_
 refine co rfl (AD rfl underlying22 Bg vq vq AA (Bt hdx)) ?_
 refine ac ?_
 refine wk [37,27,26,25,12,10,3,2] rfl ?_
 refine Tr.cn rfl ?_ ?_<;>intro h3 q3
 refine ap ?_
 refine TO.Ef 0 rfl rfl AB (CN rfl rfl rfl rfl underlying51 Bg J_ z3 KR Gx (BQ BI Oc)) (fun v1=> ?_)
 refine ap ?_
 refine ac ?_
 exact Fin.Dm (k+1) v1 (⟨Aa,by omega⟩) ⟨⟨_,rfl,AF k⟩,⟨_,rfl,BU (by rw [hfs,if_pos (by have:=h3;simp_all),List.map_append];rfl)⟩,kz⟩ (fun _ _ h=>h)
 refine a2 ?_
 exact Fin.Dm (k+1) v (⟨Aa,by omega⟩) ⟨⟨_,rfl,AF k⟩,⟨_,rfl,BU (by rw [hfs,if_neg (by have:=h3;simp_all)])⟩,kz⟩ (fun _ _ h=>h)
 have Az:k=((FB ((d.length:Nat):Int) r s)).length:=by have:=AJ h2;omega
 subst Az
 rw [List.take_length]
 refine a2 ?_
 refine Tr.ret (Fin.DO rfl (Bm.Dw _ _) rfl ?_ rfl ?_)
 · exact G3
 · exact int_eq (ak ha0).symm
theorem mF:Cr (Ji [97,112,112] 5 2048 7 50 0 0)=true:=by decide+kernel
structure wB (c x:Bz):Prop where
 fits:x.HS.fits
 small:x.HS.small
theorem MX {c x:Bz} (h:x.HS=c.HS) (hi:c.HS.fits∧c.HS.small):wB c x:=⟨h ▸ hi.1,h ▸ hi.2⟩
theorem d_ {p0 p1 p2 p3:Int} {nm:List UInt8} (hn:nm∈E9) {c:Bz} {a b id to key:Int}:(agg [int p0,int p1,int p2,int p3,int a,int b,int id,VE nm a b id to key]).le (Cp.ex fun x:Bz=>fact (wB c x) (agg (DP x))):=by
 intro M w v ⟨cs,h1,h2,h3⟩
 obtain ⟨s,h4⟩:=XQ (ps:=[int p0,int p1,int p2,int p3,int a,int b,int id]) h3
 refine ⟨⟨p0,p1,p2,p3,FX nm a b id to key s⟩,⟨?_,?_⟩,cs,h1,h2,QG (ps:=[int p0,int p1,int p2,int p3,int a,int b,int id]) h4⟩
 ·
  intro d hd;simp at hd;subst hd
  have hn:=(Oh _ hn).2
  exact ⟨by show 4≤maxLen;unfold maxLen;omega,by show nm.length≤maxLen;unfold maxLen;omega,fun n hn2=>by simp at hn2;subst hn2;unfold maxLen;omega⟩
 · exact ⟨by simp,fun d hd=>by simp at hd;subst hd;simp⟩
open Classical in
noncomputable def eA (e:FQ) (l:List Bz):List BH:=if ∀c∈l,0≤c.BJ∧c.BJ<(e.Dy.length:Nat) then vn e l else []
open Classical in
noncomputable def AA7 (e:FQ) (l:List Bz):Int:=if ∀c∈l,0≤c.BJ∧c.BJ<(e.Dy.length:Nat) then 0 else 40
theorem mG (e:FQ) (l:List Bz) (h:l.length≤24):(eA e l).length≤600:=by
 unfold eA
 split
 ·
  have h1:=Qp e l l.length
  have h2:l.length*l.length≤24*24:=Nat.mul_le_mul h h
  unfold vn;omega
 · exact Nat.zero_le _
theorem rO {b:Nat} {s:DS} {c:Bz} (hi:c.HS.fits∧c.HS.small):BR prog 49 [ptr b 0,agg (DP c)] (Cp.ex fun x:Bz=>fact (wB c x) (agg (DP x))) (CG b s) (fun _=>FK 104 b):=by
 refine BR.of func49 rfl rfl Al fun M0 w0 S rs M1 w1=> ?_
 have hv:=s.BV.Bi (n:=15) AA
 refine Tr.seq (Tr.A0 ?_)
 refine TO.S6 rfl rfl AB rfl (Va rfl) (fun b1=> ?_)
 refine Tl rfl rfl rfl rfl Km Gz (fun b2=> ?_)
 refine ap ?_
 refine ap ?_
 refine TO.EV 2 rfl rfl AB (AU rfl rfl AB rfl (A8 AA AA) ⟨ke rfl,ke rfl,trivial⟩) ?_
 refine ap ?_
 refine an ?_ ?_<;>intro h1 q1
 refine ap ?_
 refine TO.EV 2 rfl rfl AB (AU rfl rfl AB rfl (A8 AA AA) ⟨ke rfl,ke rfl,trivial⟩) ?_
 refine ap ?_
 refine ap ?_
 refine Tr.drop 1 (Tr.ret (Fin.B4 1 _ rfl rfl (Fin.Cb [_] rfl (A7.cell 0 rfl rfl CT Be rfl (Lr)) ?_ (fun _ _ _ _=>rfl))))
 · exact DA { c with kind:=s.BV.val 15-1 } (CO (MX rfl hi) (Lr))
 refine an ?_ ?_<;>intro h2 q2
 refine ap ?_
 refine TO.EV 2 rfl rfl AB (AU rfl rfl AB rfl (Kq (l:=[0,-1,17,70000,2]) AO AO) ⟨ke rfl,(Kf rfl),trivial⟩) ?_
 refine ap ?_
 refine ap ?_
 refine Tr.drop 1 (bN 4 rfl (Tr.ret (Fin.B4 1 _ rfl rfl (Fin.Cb [_] rfl (A7.cell 0 rfl rfl CT Be rfl (Lr)) ?_ (fun _ _ _ _=>rfl)))))
 · exact DA { c with number:=s.BV.of [0,-1,17,70000,2] } (CO (MX rfl hi) (Lr))
 refine an ?_ ?_<;>intro h3 q3
 refine ap ?_
 refine TO.EV 2 rfl rfl AB (AU rfl rfl AB rfl (Kq (l:=[-1,1,99]) AO AO) ⟨ke rfl,(Kf rfl),trivial⟩) ?_
 refine ap ?_
 refine Ki 3 4 rfl ?_
 refine ap ?_
 refine Tr.drop 1 (Tr.ret (Fin.B4 1 _ rfl rfl (Fin.Cb [_] rfl (A7.cell 0 rfl rfl CT Be rfl (Lr)) ?_ (fun _ _ _ _=>rfl))))
 · exact DA { c with at_:=s.BV.of [-1,1,99] } (CO (MX rfl hi) (Lr))
 refine an ?_ ?_<;>intro h4 q4
 refine Tr.A0 (tp rfl (kc0 (Zl) rfl) ?_)
 refine tp rfl (kc5 (QD (name:=[97,112,112]) (a:=5) (b:=2048) (id:=7) (to:=50) (key:=1) mF ⟨by show (7:Int)≤1099511627776;omega,by show (7:Int)≤2147483648;omega,by show (0:Int)≤5∧(5:Int)≤40000;omega,by show (0:Int)≤2048∧(2048:Int)≤40000;omega,by show (0:Int)≤3∧(3:Int)≤40000;omega,by show (0:Int)≤0∧(0:Int)≤40000;omega⟩ AA) rfl rfl rfl rfl rfl rfl) ?_
 refine tp rfl (AY rfl gN (vl rfl)) (TO.Ee 1 rfl rfl (A9 rfl rfl (vl rfl) (VL.le (vl rfl) (QF)) JS rfl Al rfl) ?_)
 refine ap ?_
 refine Ki 3 4 rfl ?_
 refine ap ?_
 refine Tr.drop 1 (Tr.ret (Fin.B4 1 _ rfl rfl (Fin.Cb [_] rfl (A7.cell 0 rfl rfl CT Be rfl (Lr)) ?_ (fun _ _ _ _=>rfl))))
 · exact d_ AB
 refine ac ?_
 refine PZ 0 3 4 30 rfl ?_
 refine Tr.cn rfl ?_ ?_<;>intro h5 q5
 refine ap ?_
 refine TO.EV 2 rfl rfl AB (AU rfl rfl AB rfl (Kq (l:=[-1,9,0]) AO AO) ⟨ke rfl,(Kf rfl),trivial⟩) ?_
 refine ap ?_
 refine ap ?_
 refine Tr.drop 1 (Tr.ret (Fin.B4 1 _ rfl rfl (Fin.Cb [_] rfl (A7.cell 0 rfl rfl CT Be rfl (Lr)) ?_ (fun _ _ _ _=>rfl))))
 · exact DA { c with BJ:=s.BV.of [-1,9,0] } (CO (MX rfl hi) (Lr))
 refine ac ?_
 refine ap ?_
 refine Tr.drop 1 (Tr.ret (Fin.B4 1 _ rfl rfl (Fin.Cb [_] rfl (A7.cell 0 rfl rfl CT Be rfl (Lr)) ?_ (fun _ _ _ _=>rfl))))
 · exact DA c (CO (MX rfl hi) (Lr))
theorem Fu {a b:List Int}  :BD prog 37 [ints a,ints b] (bool (decide (a=b))):=by
 refine fo func37 rfl ⟨rfl,rfl⟩ fun M0 w0=>(Tr.CM 0 rfl fun D4=>(Tr.CM 1 rfl fun Fz=> ?_))
 refine ac ?_
 refine an ?_ ?_<;>intro h1 q1
 have hne:¬a.length=b.length:=by simp_all;omega
 refine a2 ?_
 · exact Mg
 have Q0:a.length=b.length:=by simp_all;omega
 refine a2 ?_
 refine Tr.block (Tr.Ax _ (kk [12,1,0] rfl) (fun k:Nat=>[(13,int ((k:Nat):Int))]) (fun k:Nat=>k≤(a).length∧(a.take k=b.take k)) (fun k:Nat=>(a).length-k) 0 (⟨Nat.zero_le _,rfl⟩) kz ?_)
 rintro k ⟨BK,AL⟩
 refine ac ?_
 refine Tr.seq ?_
 refine Tr.cn rfl ?_ ?_<;>intro h2 q2
 have Aa:k<(a).length:=AH h2
 obtain ⟨x,AX⟩:=at_ Aa
 obtain ⟨y,hy⟩:=at_ (l:=b) (k:=k) AA
 · exact eU
 have Az:k=(a).length:=by have:=AJ h2;omega
 subst Az
 refine a3 ?_
 · exact Mh
theorem SN {l l2:List Bz} {r r2:List BH} {d d2:List Int} (WA:∀x∈l,x.HS.small):BD prog 55 [agg [C_ l,reqs r,ints d],agg [C_ l2,reqs r2,ints d2]] (bool (decide (l=l2∧r=r2∧d=d2))):=by
 refine fo func55 rfl ⟨rfl,rfl⟩ fun M0 w0=>(Tr.D9 0 0 rfl rfl fun EK=>(Tr.D9 1 0 rfl rfl fun ACD=> ?_))
 refine ac ?_
 refine ag ?_ ?_<;>intro h1 q1
 refine ac ?_
 refine wk [28,3,2] rfl ?_
 refine a2 ?_
 · exact We
 refine ac ?_
 refine cy h1 rfl (C4 (dR) rfl rfl rfl) ?_
 refine ag ?_ ?_<;>intro h2 q2
 refine ac ?_
 refine wk [28,3,2] rfl ?_
 refine a2 ?_
 · exact We
 refine ac ?_
 refine cy h2 rfl (C4 (Fu) rfl rfl rfl) ?_
 refine ac ?_
 refine wk [28,3,2] rfl ?_
 refine Tr.cn rfl ?_ ?_<;>intro h3 q3
 refine a2 ?_
 · exact We
 have Q0:l.length=l2.length:=by simp_all;omega
 refine a2 ?_
 refine Tr.block (Tr.Ax _ (kk [31,3,2] rfl) (fun k:Nat=>[(32,int ((k:Nat):Int))]) (fun k:Nat=>k≤(l).length∧(l.take k=l2.take k)) (fun k:Nat=>(l).length-k) 0 (⟨Nat.zero_le _,rfl⟩) kz ?_)
 rintro k ⟨BK,AL⟩
 refine ac ?_
 refine Tr.seq ?_
 refine Tr.cn rfl ?_ ?_<;>intro h4 q4
 have Aa:k<(l).length:=AH h4
 obtain ⟨x,AX⟩:=at_ Aa
 obtain ⟨y,hy⟩:=at_ (l:=l2) (k:=k) AA
 · repeat' first|(refine bool_eq ?_;symm;rw [decide_eq_false_iff_not];rintro ⟨rfl,-,-⟩;rw [AX] at hy;cases hy;simp_all)|exact Fin.AM (k+1) ⟨⟨Aa,O4 AX hy AL Cc⟩,by omega⟩ ⟨⟨_,rfl,AF k⟩,kz⟩|refine co rfl (AD rfl underlying32 Be vq vq AA (Ac AX)) ?_|refine co rfl (AD rfl underlying32 Be vq vq AA (Ac hy)) (co rfl (AK rfl CT Be vq rfl rfl) ?_)|refine co rfl (C4 (cA (WA x (List.mem_of_getElem? AX))) rfl rfl rfl) ?_|refine ac ?_|(refine Tr.cn rfl ?_ ?_<;>intro h q)
 have Az:k=(l).length:=by have:=AJ h4;omega
 subst Az
 refine a3 ?_
 · refine bool_eq ?_;symm;rw [decide_eq_true_eq];exact ⟨Yk Q0 AL,by simp_all⟩
theorem Qu {e:FQ} {c:Aq} {l:List Bz} {r:List BH} {d:List Int} (hf:e.fits) (hrl:r.length≤1000000):BD Tryz.prog 57 [agg (Hv e),GA c,agg [C_ l,reqs r,ints d]] (int (NL e c l r d)):=by
 refine BD.of Tryz.func57 rfl rfl (by exact Nat.le_of_ble_eq_true rfl) fun M0 w0=> ?_
 refine Tr.D9 0 0 rfl rfl fun EK=> ?_
 refine Tr.D9 2 0 rfl rfl fun qq=> ?_
 refine Tr.D9 2 1 rfl rfl fun qt=> ?_
 refine Tr.D9 2 2 rfl rfl fun qu=> ?_
 refine Tr.seq ?_
 refine Tr.Ah ?_
 refine Ch.op rfl rfl AB (Cq rfl (VL.le (vl rfl) (AW _))) ?_
 refine Ch.op rfl rfl AB (Cq rfl (VL.le (vl rfl) (AW _))) ?_
 refine Ch.op rfl rfl AB (Cq rfl (VL.le (vl rfl) (AW _))) ?_
 refine Ch.op rfl rfl AB (BX rfl (vl rfl)) ?_
 refine Ch.nil ?_
 refine Fin.go ?_
 refine Tr.seq ?_
 refine Tr.seq ?_
 refine Tr.Ah ?_
 refine Ch.op rfl rfl AB (AK rfl GK IP (vl rfl) rfl rfl) ?_
 refine Ch.op rfl rfl AB (AZ rfl (Ih hf) ⟨⟨_,rfl,Pr.le_refl _⟩,trivial⟩) ?_
 refine Ch.op rfl rfl AB (ok_int rfl (vl rfl) (vl rfl) rfl) ?_
 refine Ch.nil ?_
 refine Fin.go ?_
 refine Tr.cond rfl (fun h1=> ?_) (fun h1=> ?_)
 ·
  have q1:=Df.EA h1
  have bR:HT e=false:=by cases h_:HT e with|false=>rfl|true=>exact absurd h1 (by rw [h_];decide)
  have Jk:Cj e c l=31:=by unfold Cj;rw [if_pos bR]
  have hb:Cj e c l≠0:=by rw [Jk];decide
  refine Tr.seq ?_
  refine Tr.Ah ?_
  refine Ch.op rfl rfl AB (BX rfl (vl rfl)) ?_
  refine Ch.nil ?_
  refine Fin.go ?_
  refine Tr.ret ?_
  refine Fin.AG ?_
  refine Fin.HK rfl (Bm.Dw _ _) rfl ?_
  · refine int_eq ?_;rw [aT hb,Jk]
 ·
  have q1:=Df.EA h1
  have bR:¬HT e=false:=by intro h_;rw [h_] at h1;exact absurd h1 AB
  refine Tr.skip ?_
  refine Fin.go ?_
  refine Tr.seq ?_
  refine Tr.seq ?_
  refine Tr.Ah ?_
  refine Ch.op rfl rfl AB (AK rfl Gn KQ (vl rfl) rfl rfl) ?_
  refine Ch.op rfl rfl AB (BF rfl JQ (vl rfl) rfl) ?_
  refine Ch.op rfl rfl AB (Bf rfl Re (vl rfl)) ?_
  first
   |refine Ch.op rfl rfl AB (Bn rfl Tryz.underlying27 (vl rfl)) ?_
   |refine Ch.op rfl rfl AB (B7 rfl Tryz.underlying27 (vl rfl)) ?_
  refine Ch.op rfl rfl AB (AZ rfl (Js (c:=c) (m:=((e.Dy.length:Nat):Int))) ⟨⟨_,rfl,Pr.le_refl _⟩,⟨_,rfl,Pr.le_refl _⟩,trivial⟩) ?_
  refine Ch.op rfl rfl AB (BX rfl (vl rfl)) ?_
  refine Ch.nil ?_
  refine Fin.go ?_
  refine Tr.seq ?_
  refine Tr.Ah ?_
  refine Ch.op rfl rfl AB (Bw rfl (vl rfl)) ?_
  refine Ch.op rfl rfl AB (ok_int rfl (vl rfl) (vl rfl) rfl) ?_
  refine Ch.nil ?_
  refine Fin.go ?_
  refine Tr.weak [(4,_),(5,_),(7,_),(22,_)] ⟨⟨_,rfl,Pr.le_refl _⟩,⟨_,rfl,Pr.le_refl _⟩,⟨_,rfl,Pr.le_refl _⟩,⟨_,rfl,Pr.le_refl _⟩,trivial⟩ ?_
  refine Tr.cond rfl (fun h2=> ?_) (fun h2=> ?_)
  ·
   have q2:=Df.EA h2
   have YJ:c.check ((e.Dy.length:Nat):Int)≠0:=by simpa using h2
   have Jk:Cj e c l=c.check ((e.Dy.length:Nat):Int):=by unfold Cj;rw [if_neg bR,if_pos YJ]
   have hb:Cj e c l≠0:=by rw [Jk];exact YJ
   refine Tr.seq ?_
   refine Tr.Ah ?_
   refine Ch.op rfl rfl AB (Bw rfl (vl rfl)) ?_
   refine Ch.op rfl rfl AB (BX rfl (vl rfl)) ?_
   refine Ch.nil ?_
   refine Fin.go ?_
   refine Tr.ret ?_
   refine Fin.AG ?_
   refine Fin.HK rfl (Bm.Dw _ _) rfl ?_
   · refine int_eq ?_;rw [aT hb,Jk]
  ·
   have q2:=Df.EA h2
   have YJ:c.check ((e.Dy.length:Nat):Int)=0:=by simpa using h2
   have Jk:Cj e c l=C3 c l:=by unfold Cj;rw [if_neg bR,if_neg (not_not_intro YJ)]
   obtain ⟨how,htl,hth⟩:=KM YJ
   refine Tr.skip ?_
   refine Fin.go ?_
   refine Tr.seq ?_
   refine Tr.Ah ?_
   refine Ch.op rfl rfl AB (AK rfl Gn KQ (vl rfl) rfl rfl) ?_
   refine Ch.op rfl rfl AB (BF rfl IQ (vl rfl) rfl) ?_
   refine Ch.op rfl rfl AB (Bf rfl Pj (vl rfl)) ?_
   refine Ch.op rfl rfl AB (AZ rfl (LW (c:=c) (l:=l) how) ⟨⟨_,rfl,Pr.le_refl _⟩,⟨_,rfl,Pr.le_refl _⟩,trivial⟩) ?_
   refine Ch.op rfl rfl AB (Bw rfl (vl rfl)) ?_
   refine Ch.op rfl rfl AB (Ba rfl (vl rfl) rfl) ?_
   refine Ch.op rfl rfl AB (Ba rfl (vl rfl) rfl) ?_
   refine Ch.op rfl rfl AB (BX rfl (vl rfl)) ?_
   refine Ch.op rfl rfl AB (BX rfl (vl rfl)) ?_
   refine Ch.nil ?_
   refine Fin.go ?_
   refine Tr.seq ?_
   refine Tr.seq ?_
   refine Tr.Ah ?_
   refine Ch.op rfl rfl AB (Bw rfl (vl rfl)) ?_
   refine Ch.op rfl rfl AB (ok_int rfl (vl rfl) (vl rfl) rfl) ?_
   refine Ch.nil ?_
   refine Fin.go ?_
   refine Tr.weak [(4,_),(5,_),(8,_),(9,_),(32,_)] ⟨⟨_,rfl,Pr.le_refl _⟩,⟨_,rfl,Pr.le_refl _⟩,⟨_,rfl,Pr.le_refl _⟩,⟨_,rfl,Pr.le_refl _⟩,⟨_,rfl,Pr.le_refl _⟩,trivial⟩ ?_
   refine Tr.cond rfl (fun h3=> ?_) (fun h3=> ?_)
   ·
    have q3:=Df.EA h3
    have hte:C3 c l≠0:=by simpa using h3
    have hb:Cj e c l≠0:=by rw [Jk];exact hte
    refine Tr.seq ?_
    refine Tr.Ah ?_
    refine Ch.op rfl rfl AB (Bw rfl (vl rfl)) ?_
    refine Ch.op rfl rfl AB (BX rfl (vl rfl)) ?_
    refine Ch.nil ?_
    refine Fin.go ?_
    refine Tr.ret ?_
    refine Fin.AG ?_
    refine Fin.HK rfl (Bm.Dw _ _) rfl ?_
    · refine int_eq ?_;rw [aT hb,Jk]
   ·
    have q3:=Df.EA h3
    have hte:C3 c l=0:=by simpa using h3
    have hb:Cj e c l=0:=by rw [Jk];exact hte
    refine Tr.re 8 rfl (Pr.le_of_eq (by rw [PF hte])) ?_
    refine Tr.skip ?_
    refine Fin.go ?_
    refine Tr.seq ?_
    refine Tr.seq ?_
    refine Tr.Ah ?_
    refine Ch.op rfl rfl AB (BF rfl FL (vl rfl) rfl) ?_
    refine Ch.op rfl rfl AB (Bf rfl FV (vl rfl)) ?_
    first
     |refine Ch.op rfl rfl AB (Bn rfl Tryz.underlying22 (vl rfl)) ?_
     |refine Ch.op rfl rfl AB (B7 rfl Tryz.underlying22 (vl rfl)) ?_
    refine Ch.op rfl rfl AB (BF rfl IQ (vl rfl) rfl) ?_
    refine Ch.op rfl rfl AB (Bf rfl Pj (vl rfl)) ?_
    first
     |refine Ch.op rfl rfl AB (Bn rfl Tryz.underlying32 (vl rfl)) ?_
     |refine Ch.op rfl rfl AB (B7 rfl Tryz.underlying32 (vl rfl)) ?_
    refine Ch.op rfl rfl AB (ok_int rfl (vl rfl) (vl rfl) rfl) ?_
    refine Ch.nil ?_
    refine Fin.go ?_
    refine Tr.cond rfl (fun h4=> ?_) (fun h4=> ?_)
    ·
     have q4:=Df.EA h4
     have UP:d.length≠l.length:=by have:=q4;omega
     refine Tr.seq ?_
     refine Tr.Ah ?_
     refine Ch.op rfl rfl AB (BX rfl (vl rfl)) ?_
     refine Ch.nil ?_
     refine Fin.go ?_
     refine Tr.ret ?_
     refine Fin.AG ?_
     refine Fin.HK rfl (Bm.Dw _ _) rfl ?_
     · refine int_eq ?_;exact (lF hb UP).symm
    ·
     have q4:=Df.EA h4
     have UP:d.length=l.length:=by have:=q4;omega
     refine Tr.skip ?_
     refine Fin.go ?_
     refine Tr.seq ?_
     refine Tr.seq ?_
     refine Tr.Ah ?_
     refine Ch.op rfl rfl AB (BF rfl IQ (vl rfl) rfl) ?_
     refine Ch.op rfl rfl AB (Bf rfl Pj (vl rfl)) ?_
     first
      |refine Ch.op rfl rfl AB (Bn rfl Tryz.underlying32 (vl rfl)) ?_
      |refine Ch.op rfl rfl AB (B7 rfl Tryz.underlying32 (vl rfl)) ?_
     refine Ch.op rfl rfl AB (BF rfl Mz (vl rfl) rfl) ?_
     refine Ch.op rfl rfl AB (Bf rfl Rf (vl rfl)) ?_
     refine Ch.op rfl rfl AB (AZ rfl (LV (n:=((l.length:Nat):Int)) (l:=r) hrl) ⟨⟨_,rfl,Pr.le_refl _⟩,⟨_,rfl,Pr.le_refl _⟩,trivial⟩) ?_
     refine Ch.op rfl rfl AB (BX rfl (vl rfl)) ?_
     refine Ch.nil ?_
     refine Fin.go ?_
     refine Tr.weak [(4,_),(5,_),(8,_),(10,_)] ⟨⟨_,rfl,Pr.le_refl _⟩,⟨_,rfl,Pr.le_refl _⟩,⟨_,rfl,Pr.le_refl _⟩,⟨_,rfl,Pr.le_refl _⟩,trivial⟩ ?_
     refine Tr.seq ?_
     refine Tr.Ah ?_
     refine Ch.op rfl rfl AB (Bw rfl (vl rfl)) ?_
     refine Ch.op rfl rfl AB (ok_int rfl (vl rfl) (vl rfl) rfl) ?_
     refine Ch.nil ?_
     refine Fin.go ?_
     refine Tr.cond rfl (fun h5=> ?_) (fun h5=> ?_)
     ·
      have q5:=Df.EA h5
      have hv:Am (l.length:Nat) r≠0:=by simpa using h5
      refine Tr.seq ?_
      refine Tr.Ah ?_
      refine Ch.op rfl rfl AB (Bw rfl (vl rfl)) ?_
      refine Ch.op rfl rfl AB (BX rfl (vl rfl)) ?_
      refine Ch.nil ?_
      refine Fin.go ?_
      refine Tr.ret ?_
      refine Fin.AG ?_
      refine Fin.HK rfl (Bm.Dw _ _) rfl ?_
      · refine int_eq ?_;exact (sn hb UP hv).symm
     ·
      have q5:=Df.EA h5
      have hv:Am (l.length:Nat) r=0:=by simpa using h5
      refine Tr.skip ?_
      refine Fin.go ?_
      refine Tr.seq ?_
      refine Tr.seq ?_
      refine Tr.Ah ?_
      refine Ch.op rfl rfl AB (BF rfl Mz (vl rfl) rfl) ?_
      refine Ch.op rfl rfl AB (Bf rfl Rf (vl rfl)) ?_
      first
       |refine Ch.op rfl rfl AB (Bn rfl Tryz.underlying33 (vl rfl)) ?_
       |refine Ch.op rfl rfl AB (B7 rfl Tryz.underlying33 (vl rfl)) ?_
      refine Ch.op rfl rfl AB (Bw rfl (vl rfl)) ?_
      refine Ch.nil ?_
      refine Fin.go ?_
      refine Tr.block ?_
      refine Tr.Ax [(4,_),(5,_),(8,_),(51,_),(52,_)] ⟨⟨_,rfl,Pr.le_refl _⟩,⟨_,rfl,Pr.le_refl _⟩,⟨_,rfl,Pr.le_refl _⟩,⟨_,rfl,Pr.le_refl _⟩,⟨_,rfl,Pr.le_refl _⟩,trivial⟩ (fun k:Nat=>[(53,int ((k:Nat):Int))]) (fun k:Nat=>k≤(r).length∧(∀j y,j<k→r[j]? =some y→PD d y=false)) (fun k:Nat=>(r).length-k) 0 (⟨Nat.zero_le _,fun j y hj=>absurd hj AA⟩) ⟨⟨_,rfl,Pr.le_refl _⟩,trivial⟩ ?_
      rintro k ⟨BK,AL⟩
      refine Tr.seq ?_
      refine Tr.Ah ?_
      refine Ch.op rfl rfl AB (ok_int rfl (vl rfl) (vl rfl) rfl) ?_
      refine Ch.nil ?_
      refine Fin.go ?_
      refine Tr.seq ?_
      refine Tr.cond rfl (fun h6=> ?_) (fun h6=> ?_)
      ·
       have q6:=Df.EA h6
       have Aa:k<(r).length:=AH h6
       obtain ⟨q,AX⟩:=at_ Aa
       have hqb:=(CV hv).2.1 q (List.mem_of_getElem? AX)
       unfold Eg at hqb
       rw [decide_eq_false_iff_not] at hqb
       have G8:=DH (l:=d) (i:=q.fst.toNat) AA
       have S2:=DH (l:=d) (i:=q.thn.toNat) AA
       refine Tr.skip ?_
       refine Fin.go ?_
       refine Tr.seq ?_
       refine Tr.block ?_
       refine Tr.seq ?_
       refine Tr.A0 ?_
       refine TO.op rfl rfl AB (AD rfl Tryz.underlying33 B5 (vl rfl) (vl rfl) AA (Ac AX)) ?_
       refine TO.op rfl rfl AB (AK rfl EI B5 (vl rfl) rfl rfl) ?_
       refine TO.alloc rfl rfl AB rfl Ob L5 (fun b1=> ?_)
       refine TO.Aj 0 rfl rfl rfl (vl rfl) (VL.le (vl rfl) (AW _)) rfl B5 rfl rfl ?_
       refine TO.freeze 0 12 rfl rfl ?_
       refine TO.nil ?_
       refine Fin.go ?_
       refine Tr.seq ?_
       refine Tr.Wi mixed BS ?_
       refine Ch.op rfl rfl AB (BF rfl FL (vl rfl) rfl) ?_
       refine Ch.op rfl rfl AB (Bf rfl FV (vl rfl)) ?_
       refine Ch.op rfl rfl AB (BF rfl Pn (vl rfl) rfl) ?_
       refine Ch.op rfl rfl AB (Bf rfl CX (vl rfl)) ?_
       refine Ch.op rfl rfl AB (AD rfl Tryz.underlying22 Bg (vl rfl) (vl rfl) AA (Bt G8)) ?_
       refine Ch.op rfl rfl AB (Bf rfl CX (vl rfl)) ?_
       refine Ch.op rfl rfl AB (BF rfl FL (vl rfl) rfl) ?_
       refine Ch.op rfl rfl AB (Bf rfl FV (vl rfl)) ?_
       refine Ch.op rfl rfl AB (BF rfl Po (vl rfl) rfl) ?_
       refine Ch.op rfl rfl AB (Bf rfl CX (vl rfl)) ?_
       refine Ch.op rfl rfl AB (AD rfl Tryz.underlying22 Bg (vl rfl) (vl rfl) AA (Bt S2)) ?_
       refine Ch.op rfl rfl AB (Bf rfl CX (vl rfl)) ?_
       refine Ch.op rfl rfl AB (ok_int rfl (vl rfl) (vl rfl) rfl) ?_
       refine Ch.nil ?_
       refine Fin.go ?_
       refine Tr.weak [(4,_),(5,_),(8,_),(51,_),(52,_),(53,_),(69,_)] ⟨⟨_,rfl,Pr.le_refl _⟩,⟨_,rfl,Pr.le_refl _⟩,⟨_,rfl,Pr.le_refl _⟩,⟨_,rfl,Pr.le_refl _⟩,⟨_,rfl,Pr.le_refl _⟩,⟨_,rfl,Pr.le_refl _⟩,⟨_,rfl,Pr.le_refl _⟩,trivial⟩ ?_
       refine Tr.cond rfl (fun h7=> ?_) (fun h7=> ?_)
       ·
        have q7:=Df.EA h7
        refine Tr.seq ?_
        refine Tr.Ah ?_
        refine Ch.op rfl rfl AB (BX rfl (vl rfl)) ?_
        refine Ch.nil ?_
        refine Fin.go ?_
        refine Tr.ret ?_
        refine Fin.Ag ?_
        refine Fin.AG ?_
        refine Fin.AG ?_
        refine Fin.Ag ?_
        refine Fin.AG ?_
        refine Fin.HK rfl (Bm.Dw _ _) rfl ?_
        · exact fF
       ·
        have q7:=Df.EA h7
        refine Tr.skip ?_
        refine Fin.block ?_
        refine Fin.go ?_
        refine Tr.Ah ?_
        first
         |(refine Ch.op rfl rfl AB (Ey rfl (vl rfl) (vl rfl) ?hin) ?_;case hin=>unfold N9;omega)
         |refine Ch.op rfl rfl AB (ok_int rfl (vl rfl) (vl rfl) rfl) ?_
        refine Ch.op rfl rfl AB (Bw rfl (vl rfl)) ?_
        refine Ch.nil ?_
        exact Fin.AM (k+1) ⟨⟨Aa,CJ (p:=PD d) AX (by unfold PD;assumption) AL⟩,by omega⟩ ⟨⟨_,rfl,AF k⟩,⟨_,rfl,Pr.le_refl _⟩,⟨_,rfl,Pr.le_refl _⟩,⟨_,rfl,Pr.le_refl _⟩,⟨_,rfl,Pr.le_refl _⟩,⟨_,rfl,Pr.le_refl _⟩,trivial⟩
      ·
       have q6:=Df.EA h6
       have Az:k=(r).length:=by have:=AJ h6;omega
       subst Az
       refine Tr.exit ?_
       refine Fin.AV ?_
       refine Fin.AV ?_
       refine Fin.Ao ?_
       refine Fin.go ?_
       refine Tr.seq ?_
       refine Tr.Ah ?_
       refine Ch.op rfl rfl AB (AK rfl Gn KQ (vl rfl) rfl rfl) ?_
       refine Ch.op rfl rfl AB (Bw rfl (vl rfl)) ?_
       refine Ch.op rfl rfl AB (BF rfl FL (vl rfl) rfl) ?_
       refine Ch.op rfl rfl AB (Bf rfl FV (vl rfl)) ?_
       refine Ch.op rfl rfl AB (AZ rfl (aA (c:=c) (AR:=l.map (HV c)) (days:=d)) ⟨⟨_,rfl,Pr.le_refl _⟩,⟨_,rfl,Pr.le_refl _⟩,⟨_,rfl,Pr.le_refl _⟩,trivial⟩) ?_
       refine Ch.op rfl rfl AB (BX rfl (vl rfl)) ?_
       refine Ch.nil ?_
       refine Fin.go ?_
       refine Tr.ret ?_
       refine Fin.HK rfl (Bm.Dw _ _) rfl ?_
       ·
        refine int_eq ?_;exact (lG hb UP hv (fun q hq=>by
        obtain ⟨j,hj⟩:=List.mem_iff_getElem?.1 hq
        exact AL j q (BP hj) hj)).symm
theorem UM {e:FQ} {l:List Bz} (hf:e.fits) (he:HT e=true) (Ld:l.length≤24) (hr:¬∀c∈l,0≤c.BJ∧c.BJ<(e.Dy.length:Nat)):BD prog 51 [agg (Hv e),C_ l] (F8 [reqs [],int 40]):=by
 refine fo func51 rfl ⟨rfl,rfl⟩ fun M0 w0=>(Tr.D9 0 0 rfl rfl fun EK=> ?_)
 refine a2 ?_
 refine co rfl (C8 (Ih hf) rfl rfl) ?_
 refine an ?_ ?_<;>intro h1 q1
 exact absurd h1 (by rw [if_pos he];decide)
 refine ac ?_
 refine an ?_ ?_<;>intro h2 q2
 exfalso;have:=q2;omega
 refine a2 ?_
 refine Tr.block (Tr.Ax _ (kk [20,19,2,1] rfl) (fun m:Nat=>[(21,int ((m:Nat):Int))]) (fun m:Nat=>m≤(l).length∧(∀j y,j<m→l[j]? =some y→0≤y.BJ∧y.BJ<(e.Dy.length:Nat))) (fun m:Nat=>(l).length-m) 0 (⟨Nat.zero_le _,fun j y hj=>absurd hj AA⟩) kz ?_)
 rintro m ⟨Nx,Em⟩
 refine ac ?_
 refine Tr.seq ?_
 refine Tr.cn rfl ?_ ?_<;>intro h3 q3
 have FA:m<(l).length:=AH h3
 obtain ⟨x,EC⟩:=at_ FA
 refine ac ?_
 refine Tr.seq (Tr.block (Tr.seq (Tr.A0 (tp rfl (AD rfl underlying32 Be vq vq AA (Ac EC)) (tp rfl (AK rfl CT Be vq rfl rfl) ?_)))))
 refine Tl rfl rfl rfl rfl Km Gz (fun b1=> ?_)
 refine sf 0 7 ⟨rfl,rfl,rfl⟩ rfl rfl rfl rfl ?_
 refine ao ?_
 refine ag ?_ ?_<;>intro h4 q4
 refine ac ?_
 refine wk [35,21,20,19,2,1] rfl ?_
 refine ac ?_
 refine Tr.ret (Fin.Ag (Fin.AG (Fin.AG (Fin.Ag (Fin.AG (Fin.DO rfl (Bm.Dw _ _) rfl ?_ rfl ?_))))))
 · exact Ai 2
 · exact Lr
 refine ac ?_
 refine wk [35,21,20,19,2,1] rfl ?_
 refine Tr.cn rfl ?_ ?_<;>intro h5 q5
 refine ac ?_
 refine Tr.ret (Fin.Ag (Fin.AG (Fin.AG (Fin.Ag (Fin.AG (Fin.DO rfl (Bm.Dw _ _) rfl ?_ rfl ?_))))))
 · exact Ai 2
 · exact Lr
 refine a2 ?_
 exact Fin.AM (m+1) ⟨⟨FA,fun j y hj hy=>by rcases Nat.lt_or_eq_of_le (Nat.le_of_lt_succ hj) with h_|h_;exact Em j y h_ hy;(subst h_;rw [EC] at hy;cases hy;omega)⟩,by omega⟩ ⟨⟨_,rfl,AF m⟩,kz⟩
 have LK:m=(l).length:=by have:=AJ h3;omega
 exact absurd (fun c hc=>by obtain ⟨j,hj⟩:=List.mem_iff_getElem?.1 hc;exact Em j c (by have:=BP hj;omega) hj) hr
theorem UN {e:FQ} {l:List Bz} (hf:e.fits) (he:HT e=true) (Ld:l.length≤24):BD Tryz.prog 51 [agg (Hv e),C_ l] (F8 [reqs (eA e l),int (AA7 e l)]):=by
 unfold eA AA7
 by_cases hr:∀c∈l,0≤c.BJ∧c.BJ<(e.Dy.length:Nat)
 · rw [if_pos hr,if_pos hr];exact V4 hf he Ld hr
 · rw [if_neg hr,if_neg hr];exact UM hf he Ld hr
theorem UO   :BD prog 45 [] (bool true):=by
 refine fo func45 rfl ⟨rfl,rfl⟩ fun M0 w0=> ?_
 · repeat' first|exact bool_eq AB|exact absurd h AB|refine co rfl (AZ rfl (UE (l:=[])) ⟨⟨_,rfl,Bv (ps:=[is (.slice none 0 0),is (.slice none 0 0),is (.slice none 0 0)]) ⟨Lr,Lr,Ai 1,trivial⟩⟩,trivial⟩) ?_|refine cy h rfl (QL (m:=2) rfl underlying32 Be TL Km rfl AB AB ⟨_,rfl,int_eq rfl⟩ ⟨_,rfl,int_eq rfl⟩ AB AB) ?_|refine cy h rfl (oI) ?_|refine cy h rfl (Ar (rows:=[(0,[_]),(2,[_])]) rfl Wv I_ ⟨⟨rfl,DK⟩,⟨⟨rfl,⟨_,rfl,Pr.le_trans (BA _ _) (AP _)⟩⟩,trivial⟩⟩ rfl) ?_|refine cy h rfl (C8 (UE (l:=[3,1])) rfl rfl) ?_|refine ac ?_|(refine Ch.cg rfl rfl rfl ?_ ?_<;>intro h q)
theorem mH {n:Nat} {l:List BH} {z:List Int} (hn:n≤24) (hl:l.length≤1000000) (hv:Am (n:Nat) l=0) (hz:∀x∈z,0≤x∧x<(n:Nat)):BD prog 62 [int ((n:Nat):Int),reqs l,ints z] (Cp.ex fun q:List Int=>fact (q.length≤n) (ints q)):=by
 refine fo func62 rfl ⟨rfl,rfl⟩ fun M0 w0=>(Tr.CM 2 rfl fun U_=> ?_)
 have YK:∀r∈l,(0≤r.fst∧r.fst<(n:Nat))∧0≤r.thn∧r.thn<(n:Nat):=fun r hr=>by
  have h_:=(CV hv).2.1 r hr
  unfold Eg at h_;rw [decide_eq_false_iff_not] at h_;omega
 refine a2 ?_
 refine co rfl (C4 (SK hn hl YK) rfl rfl rfl) ?_
 refine a3 ?_
 refine Tr.block (Tr.CB 3 1 (Tr.Hq _ (kk [16,7,2] rfl) (fun (k:Nat) (q:List Int) v=>[(17,int ((k:Nat):Int)),(8,Ae v (ints q))]) (fun (k:Nat) (q:List Int) v=>Hp M0 w0 II ([As 3 1 v])) (fun (k:Nat) (q:List Int)=>k≤n∧q.length≤k) (fun (k:Nat) (q:List Int)=>n-k) (0) ([]) (.slice none 0 0) (⟨Nat.zero_le _,Nat.zero_le _⟩) ⟨kq,⟨_,rfl,Bu rfl⟩,trivial⟩ (fun _ _ h=>h) ?_))
 rintro k q v ⟨hk0,hql⟩
 refine ac ?_
 refine Tr.seq ?_
 refine Tr.cn rfl ?_ ?_<;>intro h1 q1
 have hkn:k<n:=AH h1
 refine a3 ?_
 refine co rfl (C4 (Tu) rfl rfl rfl) ?_
 refine a2 ?_
 refine wk [25,24,23,17,16,10,9,8,7,2] rfl (Tr.block (Tr.Ax _ (kk [24,23,17,16,9,8,7,2] rfl) (fun j:Nat=>[(25,int ((j:Nat):Int)),(10,Tm)]) (fun j:Nat=>j≤(z).length) (fun j:Nat=>(z).length-j) 0 (Nat.zero_le _) ⟨kq,⟨_,rfl,DA _ Lr⟩,trivial⟩ ?_))
 rintro j AA5
 refine ac ?_
 refine Tr.seq ?_
 refine Tr.cn rfl ?_ ?_<;>intro h2 q2
 have AA8:j<(z).length:=AH h2
 obtain ⟨x,mI⟩:=at_ AA8
 have hxz:=hz x (List.mem_of_getElem? mI)
 have hxn:x.toNat<n:=by omega
 refine ac ?_
 refine Tr.seq (Tr.block (Tr.seq (Tr.Ah (co rfl (AD rfl underlying51 Bg vq vq AA (Ac mI)) ?_))))
 refine ac ?_
 refine wk [25,24,23,17,16,12,10,9,8,7,2] rfl (Tr.ex 10 rfl fun zb=> ?_)
 · repeat' first|exact Fin.AM (j+1) ⟨AA8,by omega⟩ ⟨⟨_,rfl,AF j⟩,⟨_,rfl,DA _ Lr⟩,kz⟩|refine cy h rfl (AD rfl underlying158 Nl vq vq AA (Ac (KO _ hkn))) ?_|refine cy h rfl (AD rfl underlying160 gF vq vq AA (Bt (KP _ hxn))) ?_|refine ac ?_|(refine Ch.cg rfl rfl rfl ?_ ?_<;>intro h q)
 have AAq:j=(z).length:=by have:=AJ h2;omega
 refine ac ?_
 refine Tr.seq (Tr.ex 10 rfl fun zc=> ?_)
 refine an ?_ ?_<;>intro h4 q4
 refine ap ?_
 refine TO.Ef 0 rfl rfl AB (CN rfl rfl rfl rfl underlying51 Bg J_ z3 KR Gx (BQ BI Oc)) (fun v1=> ?_)
 refine ap ?_
 refine wk [17,16,8,7,2] rfl ?_
 refine ac ?_
 exact Fin.CI (k+1) (q++[((k:Nat):Int)]) v1 (⟨⟨by omega,by (try rw [List.length_append,List.length_singleton]);omega⟩,by omega⟩) ⟨⟨_,rfl,AF k⟩,⟨_,rfl,BU Ex⟩,kz⟩ (fun _ _ h=>h)
 refine a2 ?_
 exact Fin.CI (k+1) (q) v (⟨⟨by omega,by (try rw [List.length_append,List.length_singleton]);omega⟩,by omega⟩) ⟨⟨_,rfl,AF k⟩,kz⟩ (fun _ _ h=>h)
 have:=h1
 refine a2 ?_
 refine Tr.ret (Fin.Dn rfl (A7.tmp rfl Lr) ?_)
 · exact DA q (CO AA (A_ _ _))
end Go.Proofs.YtmocaapoeefgkaaGreatDoor
namespace Cp
open Go Go.RowKit Go.Great
section
variable {P:Program} {n:Fm} {E:Env} {M0:Av} {w0:World} {S:Nat→Prop} {o:Oper}
theorem Yb {t e:TypeId} {x y:Operand} {sz bytes d:Nat} {zs:List Value} {rows rows':List (List Pr)} {v:Value} {j:Nat} (hg:o.guard=none) (hd:o.dst=some d) (hn:d<n) (ho:o.op= .call { callee:= .builtin .append,args:= #[x,y],argTypes:= #[t,t] })
  (ht:P.underlying t=some (.slice e)) (hz:Au P e=some sz) (hby:Bq P e=some bytes) (Dr:BO P e=some zs) (hzl:zs.length=sz) (hone:zs.all (·.oneCell')=true) (hsz:0<sz)
  (hx:VL E x (is v)) (hy:VL E y (slice sz rows')) (hl:∀r∈rows,r.length=sz) (F7:rows.length+rows'.length≤maxLen) (hfit:(rows.length+rows'.length)*bytes≤140737488355328):Di P M0 w0 S n j (SR.c (Bc e sz rows v)) ⟨d,Bc e sz (rows++rows')⟩ o E (lens (rows.length+rows'.length)):=by
 refine ⟨hg,fun M w a rs Q4 he hI hj=> ?_⟩
 have h1:a.eval x=v:=hx.ev he Cn
 have h2:=hy.ev he Cn
 have hj':rs[j]? =some (Bc e sz rows v):=hj
 obtain ⟨v',w',M',hrun,g1,g2,g3⟩:=Z0 (ty:=o.type) ht hz hby Dr hzl hone hsz hI hj' hl h2 F7 hfit
 have Dl:(execOp a.eval o).run P w= .ok (.value v') w':=by simp [execOp,ho,resolve,invoke,builtin,hrun,h1]
 rw [Dl]
 refine ⟨M',g1,g2,?_⟩
 have:(SR.at_ (a.put o.dst v') ⟨d,Bc e sz (rows++rows')⟩)=Bc e sz (rows++rows') v':=by unfold SR.at_ Slot.val;dsimp only;rw [hd,Bk ID]
 rw [this];exact g3
end
end Cp
namespace Go.Proofs.YtmocaapoeefgkaaGreatDoor
open Go Go.RowKit Cp Go.Proofs.Tryz
theorem rP {c:Aq} (h:c.own=0) (hr:c.room.length=2):(Aq.mk c.BG (c.D5++[0]) c.room).own=0:=by
 unfold Aq.own Aq.check at h ⊢
 by_cases h1:32<c.BG.length∨8<c.room.length
 · rw [if_pos h1] at h;exact absurd h AB
 rw [if_neg h1] at h;refine (if_neg h1).trans ?_
 by_cases h2:c.room.any FP=true
 · rw [if_pos h2] at h;exact absurd h AB
 rw [if_neg h2] at h;refine (if_neg h2).trans ?_
 by_cases h3:c.BG.any GC=true
 · rw [if_pos h3] at h;exact absurd h AB
 rw [if_neg h3] at h;refine (if_neg h3).trans ?_
 by_cases h4:¬(OG c.BG∧∀w∈c.BG,KT w.AR)
 · rw [if_pos h4] at h;exact absurd h AB
 rw [if_neg h4] at h;refine (if_neg h4).trans ?_
 by_cases h5:(c.BG.any (fun w=>w.AR.any fun n=> !c.has n))=true
 · rw [if_pos h5] at h;exact absurd h AB
 rw [if_neg h5] at h;refine (if_neg h5).trans ?_
 by_cases h6:(c.D5.length:Int)≠c.D5.length∨c.D5.any (fun n=> !c.has n)=true
 · rw [if_pos h6] at h;exact absurd h AB
 refine if_neg ?_
 rintro (h7|h7)
 · exact h7 rfl
 ·
  rw [List.any_append] at h7
  rcases Bool.or_eq_true _ _|>.mp h7 with h8|h8
  · exact h6 (.inr h8)
  · simp [Aq.has,hr] at h8
theorem Yc {e:FQ} {c:Aq} {l:List Bz} {r:List BH} {fr:Int} (h:∀x∈l,x.HS.small):∀x∈RK e c l r fr,x.HS.small:=fun x hx=>by
 unfold RK at hx
 split at hx
 · exact h x hx
 · cases hx
theorem mJ {e:FQ} {c:Aq} {l:List Bz} {r:List BH} {fr:Int}:(RK e c l r fr).length≤l.length:=by
 unfold RK
 split
 · exact Nat.le_refl _
 · exact Nat.zero_le _
theorem mK {e:FQ} {c:Aq} {l:List Bz} {r:List BH} {fr:Int}:(Vu e c l r fr).length≤r.length:=by
 unfold Vu
 split
 · exact Nat.le_refl _
 · exact Nat.zero_le _
theorem mL {e:FQ} {c:Aq} {l:List Bz} {r:List BH} {fr:Int}:(Vv e c l r fr).length≤l.length:=by
 unfold Vv
 split
 · next h=>exact Nat.le_of_eq (NM h).1.len
 · exact Nat.zero_le _
theorem wC {e:FQ} {c:Aq} {l:List Bz} {r:List BH} {fr:Int} (h:Gu e c l r fr=0):RJ c l r fr=[]∨fr≤40000:=by
 have hok:=(NM h).1
 cases hD:RJ c l r fr with
 |nil=>exact .inl rfl
 |cons x D=>
  have hx:x∈RJ c l r fr:=by rw [hD];simp
  have h1:=hok.ge x hx
  have h2:=hok.bnd x hx
  exact .inr AA
theorem mM {r:List BH} {d s:List Int} {fr n:Int} (h:d=[]∨fr≤40000) (hf: -9223372036854775808≤fr) (hn:0≤n∧n<20):(Fx r d s (IntKind.i64.wrap (fr+n))).length≤(Fx r d s (IntKind.i64.wrap (fr+20))).length:=by
 rcases h with rfl|h
 ·
  have h0:∀k,Fx r [] s k=[]:=fun k=>by
   refine List.eq_nil_iff_forall_not_mem.2 fun x hx=> ?_
   have:=Ov (n:=0) x (List.mem_filter.1 hx).1
   omega
  rw [h0,h0];exact Nat.le_refl _
 ·
  rw [G7 Lp,G7 Lp]
  unfold Fx
  rw [←List.countP_eq_length_filter,←List.countP_eq_length_filter]
  refine List.countP_mono_left fun x _ hx=> ?_
  rw [Bool.not_eq_true',decide_eq_false_iff_not] at hx ⊢
  omega
theorem eB {t s:List Int} {w:List BH} {day:Int} (AEA:N9 day):BR prog 9 [ints t,reqs w,ints s,int day] (bool true) (DI) (fun _=>DI):=by
 refine BR.of func9 rfl rfl Al fun M0 w0 S rs M1 w1=> ?_
 refine Tr.CM 0 rfl fun D4=>(Tr.CM 1 rfl fun Fz=>(Tr.CM 2 rfl fun U_=>(Tr.seq (Tr.Ah (cm rfl (Ch.nil (Fin.go (Tr.seq (Tr.seq (Tr.Ah (cm rfl (co rfl (AZ rfl (ow) ⟨ke rfl,trivial⟩) (co rfl (F9 rfl (vl rfl)) ?_)))))))))))))
 refine cm rfl ?_
 refine Ch.cs 39 rfl ?_ ?_<;>intro h1 q1
 refine cnf h1 rfl (cnf h1 rfl (cnf h1 rfl (co rfl (PY rfl rfl h1 rfl) (cm rfl (cnd rfl rfl (cnd rfl rfl (cnd rfl rfl (co rfl (PY rfl rfl rfl rfl) (Ch.nil (Fin.go (Na 0 1 2 3 48 rfl (Tr.cond rfl (fun _=> ?_) (fun h=>nomatch h)))))))))))))
 refine Tr.seq (Tr.Ah (co rfl (AZ rfl (UO) trivial) (cm rfl (Ch.nil (Fin.go (Tr.ret (Fin.AG (Fin.E7 rfl rfl ?_ (fun _ _ _ _=>rfl)))))))))
 · exact Lr
 refine HZ h1 rfl (cy h1 rfl (Bn rfl underlying33 (vl rfl)) (cy h1 rfl (ki rfl rfl rfl rfl) (co rfl (LX rfl rfl h1 rfl) (cm rfl ?_))))
 refine Ch.cs 44 rfl ?_ ?_<;>intro h2 q2
 refine cnf h2 rfl (cnf h2 rfl (cnf h2 rfl (co rfl (PY rfl rfl h2 rfl) (Ch.nil (Fin.go (Na 0 1 2 3 48 rfl (Tr.cond rfl (fun _=> ?_) (fun h=>nomatch h))))))))
 refine Tr.seq (Tr.Ah (co rfl (AZ rfl (UO) trivial) (cm rfl (Ch.nil (Fin.go (Tr.ret (Fin.AG (Fin.E7 rfl rfl ?_ (fun _ _ _ _=>rfl)))))))))
 · exact Lr
 refine HZ h2 rfl (cy h2 rfl (Bn rfl underlying22 (vl rfl)) (cy h2 rfl (ki rfl rfl rfl rfl) (co rfl (LX rfl rfl h2 rfl) (Ch.nil (Fin.go (Na 0 1 2 3 48 rfl ?_))))))
 refine Tr.cn rfl ?_ ?_<;>intro h3 q3
 refine Tr.seq (Tr.Ah (co rfl (AZ rfl (UO) trivial) (cm rfl (Ch.nil (Fin.go (Tr.ret (Fin.AG (Fin.E7 rfl rfl ?_ (fun _ _ _ _=>rfl)))))))))
 · exact Lr
 have hq_:=q3
 have ht4:t.length≤400:=by simp_all
 have ht9:t.length≤1000000000:=by omega
 have AFC:w.length≤60:=by omega
 have AFD:s.length≤60:=by omega
 refine Tr.skip (Fin.go (Tr.seq (Tr.A0 (tm rfl (TO.pad ?_)))))
 refine TO.Ef 0 rfl rfl AB (HA rfl rfl AB rfl (uQ (l:=t) ht9) ⟨ke rfl,trivial⟩) (fun v1=> ?_)
 refine TO.Wu 51 0 _ rfl rfl (fun _=>rfl) (fun b1=> ?_)
 refine tm rfl (TO.nil (Fin.go (Tr.seq (Tr.A0 (tm rfl (TO.EV 0 rfl rfl AB (AU rfl rfl AB rfl (jL) ⟨ke rfl,trivial⟩) ?_))))))
 refine TO.ex 53 rfl (fun z1=>TO.fact 53 rfl fun G8=> ?_)
 have hn2:=G8.n2
 have hn3:=G8.n3
 refine Tl rfl rfl rfl rfl z31 tP (fun b2=> ?_)
 refine TO.Aj 0 rfl rfl rfl (vl rfl) (Va rfl) rfl IP rfl rfl (TO.freeze 0 10 rfl rfl (TO.nil (Fin.Nh 0 rfl (fun s1=> ?_))))
 refine Fin.go (Tr.seq (Tr.A0 (tm rfl (tp rfl (ZM rfl JQ rfl rfl) (tp rfl (GI rfl Re rfl) (tp rfl (Bn rfl underlying27 (vl rfl)) ?_))))))
 refine TO.Nt _ rfl rfl AB rfl (VW (n:=z1.Dy.length) AA) ⟨ke rfl,ke rfl,trivial⟩ ((Cl (j:=0) rfl).trans (List.Perm.cons _ (List.Perm.refl _))) (fun x2 _=> ?_)
 refine TO.ex 58 rfl fun c2=>(TO.fact 58 rfl fun hc2=> ?_)
 refine Tl rfl rfl rfl rfl z77 nG (fun b3=> ?_)
 refine TO.Aj 0 rfl rfl rfl (vl rfl) (Va rfl) rfl KQ rfl rfl (TO.nil (Fin.Nh 2 rfl (fun s2=> ?_)))
 refine Fin.go (eE 1 2 3 9 10 11 rfl (Tr.seq ?_))
 have hct:=hc2.D5
 refine Tr.A0 (tm rfl (tp rfl (AK rfl GK IP (vl rfl) rfl rfl) ?_))
 refine TO.Nt _ rfl rfl AB rfl (jQ G8.snd ⟨by omega,by omega⟩) ⟨ke rfl,ke rfl,trivial⟩ ((Cl (j:=2) rfl).trans (List.Perm.cons _ (List.Perm.refl _))) (fun x3 _=> ?_)
 refine TO.ex 61 rfl fun m0=>(TO.fact 61 rfl fun hm0=> ?_)
 have hm7:=hm0.len
 refine tm rfl (TO.nil (Fin.Nh 1 rfl (fun s3=> ?_)))
 refine Fin.go (Tr.KB [(1,_),(2,_),(3,_),(9,_),(10,_),(11,_)] ⟨ke rfl,ke rfl,ke rfl,ke rfl,ke rfl,ke rfl,trivial⟩ (fun (l3:List Bz) (s5:DS) va=>[(12,Ae va (C_ l3))]) (fun (l3:List Bz) (s5:DS) va=>Hp M0 w0 S (As 86 8 va::CG b1 s5::AE true b3 77 [F0 c2.BG,Ae x2 (ints c2.D5),ints c2.room]::As 3 1 x2::DI::Ak M1 w1::rs)) (fun (l3:List Bz) (s5:DS)=>(∀x∈l3,x.HS.small)∧l3.length≤8) ?_ ?_)
 refine Tr.seq (Tr.A0 (tm rfl (TO.EV 1 rfl rfl AB (AU rfl rfl AB rfl (M7 AA AA) ⟨ke rfl,ke rfl,trivial⟩) (TO.nil (Fin.go ?_)))))
 refine Tr.cn rfl ?_ ?_<;>intro h4 q4
 refine Tr.A0 (tm rfl (tm rfl (tm rfl (tp rfl (AK rfl GK IP (vl rfl) rfl rfl) ?_))))
 refine TO.EV 1 rfl rfl AB (AU rfl rfl AB rfl (AAF (es:=z1.Dy) G8.snd ⟨by omega,by omega⟩) ⟨ke rfl,ke rfl,trivial⟩) ?_
 refine TO.ex 68 rfl (fun z2=>TO.fact 68 rfl fun S2=> ?_)
 refine TO.EV 1 rfl rfl AB (AU rfl rfl AB rfl (BR.exd fun s_=>rO ⟨S2.fits,S2.small⟩) ⟨ke rfl,ke rfl,trivial⟩) ?_
 refine TO.ex 69 rfl (fun z3=>TO.fact 69 rfl fun hz3=> ?_)
 refine tp rfl (AQ (xs:=[.tmp 69]) (rows:=[_]) rfl rfl underlying32 Be Km rfl AB ⟨⟨Ab,(Va rfl)⟩,trivial⟩ AB) ?_
 refine TO.Ef 0 rfl rfl AB (CN rfl rfl rfl rfl underlying32 Be TL Km (Kb rfl) (Kf rfl) (BQ BI (Ka rfl))) (fun v4=> ?_)
 refine tm rfl (TO.nil (Fin.Nh 1 rfl (fun s4=> ?_)))
 exact Fin.CI (m0++[z3]) (_) v4 (⟨fun x hx=>by rcases List.mem_append.1 hx with h|h;exact (hm0.any x h).small;(simp at h;subst h;exact hz3.small),by rw [List.length_append,List.length_singleton];omega⟩) ⟨⟨_,rfl,BU AO⟩,ke rfl,ke rfl,ke rfl,ke rfl,ke rfl,ke rfl,trivial⟩ (fun _ _ h=>h)
 refine Tr.skip (Fin.CI (m0) (_) x3 (⟨fun x hx=>(hm0.any x hx).small,by omega⟩) ⟨⟨_,rfl,BU AO⟩,ke rfl,ke rfl,ke rfl,ke rfl,ke rfl,ke rfl,trivial⟩ (fun _ _ h=>h))
 rintro l3 s5 va ⟨hl3,hl8⟩
 refine Tr.KB [(1,_),(2,_),(3,_),(9,_),(10,_),(11,_),(12,_)] ⟨ke rfl,ke rfl,ke rfl,ke rfl,ke rfl,ke rfl,ke rfl,trivial⟩ (fun (tmz:List Int) (s6:DS) vt=>[]) (fun (tmz:List Int) (s6:DS) vt=>Hp M0 w0 S (As 86 8 va::CG b1 s6::AE true b3 77 [F0 c2.BG,Ae vt (ints tmz),ints c2.room]::As 3 1 vt::DI::Ak M1 w1::rs)) (fun (tmz:List Int) (s6:DS)=>tmz=c2.D5∨tmz=c2.D5++[0]) ?_ ?_
 refine Tr.seq (Tr.A0 (tm rfl (TO.EV 1 rfl rfl AB (AU rfl rfl AB rfl (M7 AA AA) ⟨ke rfl,ke rfl,trivial⟩) (TO.nil (Fin.go ?_)))))
 refine Tr.cn rfl ?_ ?_<;>intro h5 q5
 refine Tr.A0 (tp rfl (AY rfl TJ (vl rfl)) (TO.rd 2 rfl rfl rfl AB (Ay rfl FV (vl rfl) rfl) (tp rfl (AQ (xs:=[.const (.int .i64 (0))]) (rows:=[[_]]) rfl rfl underlying22 Bg z3 rfl AB ⟨⟨Ab,(Vo rfl)⟩,trivial⟩ AB) ?_)))
 refine TO.Ef 3 rfl rfl AB (CN rfl rfl rfl rfl underlying22 Bg J_ z3 (Kb rfl) (Kf rfl) (BQ BI (Ka rfl))) (fun v5=> ?_)
 refine tp rfl (AY rfl TJ (vl rfl)) (TO.Ee 2 rfl rfl (A9 rfl rfl (vl rfl) (Vo rfl) Mx rfl Al rfl) (TO.nil ?_))
 refine Fin.HQ 2 [F0 c2.BG,Ae v5 (ints (c2.D5++[0])),ints c2.room] rfl ⟨Lr,BU Ex,Lr,trivial⟩ ?_
 exact Fin.CI (c2.D5++[0]) (_) v5 (.inr rfl) ⟨ke rfl,ke rfl,ke rfl,ke rfl,ke rfl,ke rfl,ke rfl,trivial⟩ (fun _ _ h=>h)
 refine Tr.skip (Fin.CI (c2.D5) (_) x2 (.inl rfl) ⟨ke rfl,ke rfl,ke rfl,ke rfl,ke rfl,ke rfl,ke rfl,trivial⟩ (fun _ _ h=>h))
 rintro tmz s6 vt htm
 refine Tr.seq (Tr.HQ 2 [F0 c2.BG,ints tmz,ints c2.room] rfl ⟨Lr,A_ _ _,Lr,trivial⟩ (Tr.freeze 2 11 rfl rfl ?_))
 obtain ⟨c3,hc3⟩:∃c3:Aq,c3=Aq.mk c2.BG tmz c2.room:=⟨_,rfl⟩
 refine Tr.re 11 rfl (Pr.le_of_eq (show ref [F0 c2.BG,ints tmz,ints c2.room]=ref [F0 c3.BG,ints c3.D5,ints c3.room] by rw [hc3])) ?_
 have how:c3.own=0:=by
  rw [hc3]
  rcases htm with rfl|rfl
  · exact hc2.own
  · exact rP hc2.own hc2.room
 refine Tr.drop 0 (Tr.drop 1 (Tr.re 12 rfl (A_ _ _) (Tr.Ah (co rfl (AK rfl GK IP (vl rfl) rfl rfl) (cm rfl ?_)))))
 refine co rfl (AZ rfl (UN (e:=z1) (l:=l3) G8.fits G8.ok AA) ⟨ke rfl,ke rfl,trivial⟩) ?_
 refine cm rfl (co rfl (Ba rfl (vl rfl) rfl) (co rfl (Ba rfl (vl rfl) rfl) (cm rfl (cm rfl (Ch.nil (Fin.go (mT 1 2 3 9 10 11 12 13 rfl (Tr.seq (Tr.seq (Tr.A0 (tm rfl (tm rfl (tm rfl ?_)))))))))))))
 refine tp rfl (Bn rfl underlying32 (vl rfl)) ?_
 refine TO.EV 0 rfl rfl AB (AU rfl rfl AB rfl (qv (n:=l3.length) AA) ⟨ke rfl,ke rfl,trivial⟩) ?_
 refine TO.ex 89 rfl (fun z4=>TO.fact 89 rfl fun hz4=> ?_)
 refine tm rfl (tp rfl (AQ (xs:=[.tmp 85,.tmp 89,.tmp 90]) (rows:=[[reqs (eA z1 l3)],[reqs z4],[reqs w]]) rfl rfl underlying92 tQ z33 rfl AB ⟨⟨Ab,VL.le (vl rfl) (AP _)⟩,⟨⟨Ab,VL.le (vl rfl) (AP _)⟩,⟨⟨Ab,VL.le (vl rfl) (AP _)⟩,trivial⟩⟩⟩ AB) ?_)
 refine tp rfl (B7 rfl underlying92 (Kf rfl)) (tm rfl (TO.nil (Fin.Nh 0 rfl (fun s5=> ?_))))
 refine Fin.go (wk9 2 3 9 10 11 12 91 92 93 rfl (Tr.block ?_))
 have hdg:=mG z1 l3 AA
 obtain ⟨rs3,wD,AA9⟩:∃l:List (List BH),l=[eA z1 l3,z4,w]∧∀x∈l,x.length≤1000:=⟨_,rfl,by intro x hx;simp at hx;rcases hx with rfl|rfl|rfl;omega;(have:=hz4.2;omega);omega⟩
 refine Tr.re 91 rfl (Pr.le_trans (BA _ _) (Pr.le_of_eq (by rw [wD];rfl)):Pr.le _ (slice 1 (rs3.map fun l=>[reqs l]))) ?_
 have AEh:rs3.length=3:=(by rw [wD];rfl)
 refine Tr.re 92 rfl (int_eq (by rw [wD];rfl):Pr.le _ (int ((rs3.length:Nat):Int))) ?_
 refine Tr.DU [(2,_),(3,_),(9,_),(10,_),(11,_),(12,_),(91,_),(92,_)] ⟨ke rfl,ke rfl,ke rfl,ke rfl,ke rfl,ke rfl,ke rfl,ke rfl,trivial⟩ (fun (k:Nat) (t2:DS)=>[(93,int ((k:Nat):Int))]) (fun (k:Nat) (t2:DS)=>Hp M0 w0 S (CG b1 t2::DI::Ak M1 w1::rs)) (fun (k:Nat) (t2:DS)=>k≤rs3.length) (fun (k:Nat) (t2:DS)=>rs3.length-k) (0) (_)  (Nat.zero_le _) ⟨ke rfl,trivial⟩ (fun _ _ h=>h) ?_
 rintro k t2  hk1
 refine Tr.seq (Tr.Ah (co rfl (ki rfl rfl rfl rfl) (Ch.nil (Fin.go (Tr.seq ?_)))))
 refine Tr.cn rfl ?_ ?_<;>intro h6 q6
 have Aa:k<rs3.length:=by have:=Df.EA h6;omega
 obtain ⟨r,AX⟩:=at_ Aa
 have hrl:=AA9 r (List.mem_of_getElem? AX)
 refine Tr.skip (Fin.go (Tr.seq (Tr.block (Tr.seq (Tr.Ah (co rfl (AD rfl underlying92 tQ (vl rfl) (vl rfl) AA (Ac AX)) (co rfl (GI rfl Rf rfl) (cm rfl (Ch.nil (Fin.go (Tr.seq (Tr.A0 (tm rfl ?_)))))))))))))
 refine tm rfl (TO.EV 0 rfl rfl AB (AU rfl rfl AB rfl (A8 AA AA) ⟨ke rfl,ke rfl,trivial⟩) (tp rfl (AQ (xs:=[.tmp 97,.tmp 99]) (rows:=[[_],[_]]) rfl rfl underlying22 Bg z3 rfl AB ⟨⟨Ab,(Vo rfl)⟩,⟨⟨Ab,(Vo rfl)⟩,trivial⟩⟩ AB) ?_))
 refine tp rfl (B7 rfl underlying22 (Kf rfl)) (tm rfl (TO.nil (Fin.go (nC 2 3 9 10 11 12 16 91 92 93 100 101 102 rfl (Tr.block ?_)))))
 have AFE:=t2.Bi (n:=12) AA
 obtain ⟨fr2,wE,AA_⟩:∃l:List Int,l=[day,t2.val 12]∧∀x∈l,-9223372036854775808≤x:=⟨_,rfl,by intro x hx;simp at hx;rcases hx with rfl|rfl;exact AEA.1;omega⟩
 refine Tr.re 100 rfl (Pr.le_trans (BA _ _) (Pr.le_of_eq (by rw [wE];rfl)):Pr.le _ (ints fr2)) ?_
 have AEi:fr2.length=2:=(by rw [wE];rfl)
 refine Tr.re 101 rfl (int_eq (by rw [wE];rfl):Pr.le _ (int ((fr2.length:Nat):Int))) ?_
 refine Tr.DU [(2,_),(3,_),(9,_),(10,_),(11,_),(12,_),(16,_),(91,_),(92,_),(93,_),(100,_),(101,_)] ⟨ke rfl,ke rfl,ke rfl,ke rfl,ke rfl,ke rfl,ke rfl,ke rfl,ke rfl,ke rfl,ke rfl,ke rfl,trivial⟩ (fun (m:Nat) (t3:DS)=>[(102,int ((m:Nat):Int))]) (fun (m:Nat) (t3:DS)=>Hp M0 w0 S (CG b1 t3::DI::Ak M1 w1::rs)) (fun (m:Nat) (t3:DS)=>m≤fr2.length) (fun (m:Nat) (t3:DS)=>fr2.length-m) (0) (_)  (Nat.zero_le _) ⟨ke rfl,trivial⟩ (fun _ _ h=>h) ?_
 rintro m t3  hm1
 refine Tr.seq (Tr.Ah (co rfl (ki rfl rfl rfl rfl) (Ch.nil (Fin.go (xj 2 3 9 10 11 12 16 91 92 93 100 101 102 103 rfl (Tr.seq ?_))))))
 refine Tr.cn rfl ?_ ?_<;>intro h7 q7
 have AEB:m<fr2.length:=by have:=Df.EA h7;omega
 obtain ⟨fr,EC⟩:=at_ AEB
 have AEC:=AA_ fr (List.mem_of_getElem? EC)
 refine Tr.skip (Fin.go (nC 2 3 9 10 11 12 16 91 92 93 100 101 102 rfl (Tr.seq (Tr.block (Tr.seq (Tr.Ah (co rfl (AD rfl underlying22 Bg (vl rfl) (vl rfl) AA (Ac EC)) (co rfl (GI rfl CX rfl) (cm rfl (Ch.nil (Fin.go (xj 2 3 9 10 11 12 16 18 91 92 93 100 101 102 rfl (Tr.seq (Tr.A0 ?_))))))))))))))
 refine tp rfl (AK rfl GK IP (vl rfl) rfl rfl) (tp rfl (AK rfl Gn KQ (vl rfl) rfl rfl) (tm rfl (tm rfl (tm rfl ?_))))
 refine TO.EV 1 rfl rfl AB (AU rfl rfl AB rfl (Vy (e:=z1) (c:=c3) (l:=l3) (r:=r) (fr:=fr) G8.fits hl3 AA) ⟨ke rfl,ke rfl,ke rfl,ke rfl,ke rfl,trivial⟩) ?_
 refine tm rfl (tp rfl (Ba rfl (vl rfl) rfl) (tp rfl (Ba rfl (vl rfl) rfl) ?_))
 refine Tl rfl rfl rfl rfl z35 I_ (fun b4=> ?_)
 refine TO.Aj 0 rfl rfl rfl (vl rfl) (Va rfl) rfl Ci rfl rfl (TO.freeze 0 19 rfl rfl (tm rfl (TO.nil (Fin.go (fq 2 3 9 10 11 12 16 18 19 20 91 92 93 100 101 102 rfl (Tr.seq (Tr.A0 (tp rfl (AK rfl GK IP (vl rfl) rfl rfl) (tp rfl (AK rfl Gn KQ (vl rfl) rfl rfl) (tm rfl (tm rfl (tm rfl ?_))))))))))))
 refine tp rfl (AZ rfl (RL (e:=z1) (c:=c3) (l:=l3) (r:=r) (fr:=fr) G8.fits hl3 AA) ⟨ke rfl,ke rfl,ke rfl,ke rfl,ke rfl,trivial⟩) ?_
 refine tm rfl (tp rfl (Ba rfl (vl rfl) rfl) (tp rfl (Ba rfl (vl rfl) rfl) ?_))
 refine Tl rfl rfl rfl rfl z35 I_ (fun b5=> ?_)
 refine TO.Aj 0 rfl rfl rfl (vl rfl) (Va rfl) rfl Ci rfl rfl (TO.freeze 0 21 rfl rfl (tm rfl (TO.nil (Fin.go (Ws 2 3 9 10 11 12 16 18 19 20 21 22 91 92 93 100 101 102 rfl (Tr.seq (Tr.seq ?_)))))))
 obtain ⟨L,hL⟩:∃L,RK z1 c3 l3 r fr=L:=⟨_,rfl⟩
 obtain ⟨Q,hQ⟩:∃L,Vu z1 c3 l3 r fr=L:=⟨_,rfl⟩
 obtain ⟨X,hX⟩:∃L,Vv z1 c3 l3 r fr=L:=⟨_,rfl⟩
 obtain ⟨E0,hE⟩:∃L,Gu z1 c3 l3 r fr=L:=⟨_,rfl⟩
 have hLs:∀x∈L,x.HS.small:=hL ▸ Yc hl3
 have hLl:L.length≤8:=by have:=mJ (e:=z1) (c:=c3) (l:=l3) (r:=r) (fr:=fr);rw [hL] at this;omega
 have hQl:Q.length≤1000:=by have:=mK (e:=z1) (c:=c3) (l:=l3) (r:=r) (fr:=fr);rw [hQ] at this;omega
 have hXl:X.length≤8:=by have:=mL (e:=z1) (c:=c3) (l:=l3) (r:=r) (fr:=fr);rw [hX] at this;omega
 refine Tr.re 19 rfl (Pr.le_of_eq (show ref (Vw z1 c3 l3 r fr)=ref [C_ L,reqs Q,ints X] by rw [←hL,←hQ,←hX])) (Tr.re 21 rfl (Pr.le_of_eq (show ref (Vw z1 c3 l3 r fr)=ref [C_ L,reqs Q,ints X] by rw [←hL,←hQ,←hX])) (Tr.re 20 rfl (int_eq hE) (Tr.re 22 rfl (int_eq hE) (Tr.Ah (cm rfl (cm rfl (co rfl (ki rfl rfl rfl rfl) (cm rfl ?_))))))))
 refine Ch.cs 127 rfl ?_ ?_<;>intro h8 q8
 exact absurd h8 AO
 refine cy h8 rfl (AK rfl C5 Ci (vl rfl) rfl rfl) (cy h8 rfl (AK rfl C5 Ci (vl rfl) rfl rfl) (cy h8 rfl (AZ rfl (SN hLs) ⟨ke rfl,ke rfl,trivial⟩) (cy h8 rfl (F9 rfl (vl rfl)) (co rfl (LX rfl rfl h8 rfl) (Ch.nil (Fin.go (tL 2 3 9 10 11 12 16 18 21 22 91 92 93 100 101 102 132 rfl ?_)))))))
 refine Tr.cn rfl ?_ ?_<;>intro h9 q9
 exact absurd h9 AO
 refine Tr.skip (Fin.go (fq 2 3 9 10 11 12 16 18 21 22 91 92 93 100 101 102 rfl (Tr.seq (Tr.A0 (tp rfl (AK rfl C5 Ci (vl rfl) rfl rfl) ?_)))))
 refine TO.gq rfl rfl AB rfl (Qq (l:=L) (r:=Q) (d:=X) hLs AA AA AA) ⟨ke rfl,trivial⟩ (fun v6=> ?_)
 refine Tl rfl rfl rfl rfl z35 I_ (fun b6=> ?_)
 refine TO.Aj 0 rfl rfl rfl (vl rfl) (Va rfl) rfl Ci rfl rfl (TO.nil (Fin.go (tL 2 3 9 10 11 12 16 18 21 22 23 91 92 93 100 101 102 rfl (Tr.og [(2,_),(3,_),(9,_),(10,_),(11,_),(12,_),(16,_),(18,_),(21,_),(22,_),(23,_),(91,_),(92,_),(93,_),(100,_),(101,_),(102,_)] ⟨ke rfl,ke rfl,ke rfl,ke rfl,ke rfl,ke rfl,ke rfl,ke rfl,ke rfl,ke rfl,ke rfl,ke rfl,ke rfl,ke rfl,ke rfl,ke rfl,ke rfl,trivial⟩ (fun (r2:List BH) (d2:List Int) (s9:DS)=>[]) (fun (r2:List BH) (d2:List Int) (s9:DS)=>Hp M0 w0 S (AE true b6 35 [C_ L,reqs r2,ints d2]::Bb::CG b1 s9::DI::Ak M1 w1::rs)) (fun (r2:List BH) (d2:List Int) (s9:DS)=>r2.length≤1000) ?_ ?_))))
 refine Tr.seq (Tr.A0 (tm rfl (TO.EV 2 rfl rfl AB (AU rfl rfl AB rfl (A8 AA AA) ⟨ke rfl,ke rfl,trivial⟩) (TO.nil (Fin.go (Ws 2 3 9 10 11 12 16 18 21 22 23 91 92 93 100 101 102 136 rfl (Tr.block (Tr.seq (Tr.Ah (co rfl (ki rfl rfl rfl rfl) (cm rfl (Ch.nil (Fin.go ?_)))))))))))))
 refine fu 2 3 9 10 11 12 16 18 21 22 23 91 92 93 100 101 102 136 137 rfl ?_
 refine Tr.cn rfl ?_ ?_<;>intro h10 Q2
 refine Tr.A0 (tp rfl (AY rfl FL (vl rfl)) (TO.rd 0 rfl rfl rfl AB (Ay rfl FV (vl rfl) rfl) (tp rfl (AQ (xs:=[.const (.int .i64 (3))]) (rows:=[[_]]) rfl rfl underlying22 Bg z3 rfl AB ⟨⟨Ab,(Vo rfl)⟩,trivial⟩ AB) ?_)))
 refine TO.Ef 1 rfl rfl AB (Yb rfl rfl AB rfl underlying22 Bg J_ z3 rfl AB AB (vl rfl) (Kf rfl) (BL fun _=>rfl) Kv Kw) (fun v7=> ?_)
 refine tp rfl (AY rfl FL (vl rfl)) (TO.Ee 0 rfl rfl (A9 rfl rfl (vl rfl) (Vo rfl) Mx rfl Al rfl) (TO.nil (Fin.block ?_)))
 refine Fin.HC 0 1 2 rfl rfl AB rfl (EU _ _) (fun r hr=>by rcases List.mem_append.1 hr with h|h;exact BL (f:=fun n:Int=>[int n]) (fun _=>rfl) r h;(simp at h;subst h;rfl)) ?_
 refine Fin.HQ 0 [C_ L,reqs Q,ints (X++[3])] rfl ⟨Lr,Lr,Pr.le_of_eq (show slice 1 (X.map (fun n=>[int n])++[[int 3]])=slice 1 ((X++[3]).map fun n=>[int n]) by rw [List.map_append];rfl),trivial⟩ ?_
 exact Fin.DV (Q) ((X++[3])) (_)  AA ⟨ke rfl,ke rfl,ke rfl,ke rfl,ke rfl,ke rfl,ke rfl,ke rfl,ke rfl,ke rfl,ke rfl,ke rfl,ke rfl,ke rfl,ke rfl,ke rfl,ke rfl,trivial⟩ (fun _ _ h=>h)
 refine Tr.seq (Tr.Ah (co rfl (ki rfl rfl rfl rfl) (cm rfl (Ch.nil (Fin.go (fu 2 3 9 10 11 12 16 18 21 22 23 91 92 93 100 101 102 136 144 rfl ?_))))))
 refine Tr.cn rfl ?_ ?_<;>intro h11 U7
 refine Tr.seq (Tr.Ah (co rfl (AY rfl FL (vl rfl)) (co rfl (CY 0 rfl (Ay rfl FV (vl rfl) rfl)) (co rfl (CY 1 rfl (Tf rfl underlying22 (vl rfl))) (co rfl (ki rfl rfl rfl rfl) (Ch.nil (Fin.go (Ws 2 3 9 10 11 12 16 18 21 22 23 91 92 93 100 101 102 149 rfl ?_))))))))
 refine Tr.cn rfl ?_ ?_<;>intro h12 Ze
 have hvX:=t3.BV.Bi (n:=(((X.map fun n=>[int n]).length:Nat):Int)) AA
 have hmX:(X.map fun n=>[int n]).length=X.length:=List.length_map _
 have AED:=hvX
 rw [hmX] at AED
 obtain ⟨x0,hx0⟩:=at_ (l:=X) (k:=(t3.BV.val (((X.map fun n=>[int n]).length:Nat):Int)).toNat) AA
 refine Tr.K3 mixed [none,some (0,0,false,0),none,none,some (0,0,false,0),some (0,1,false,0),some (0,2,true,0),none,some (0,2,true,0),some (0,1,false,0),some (0,1,true,0)] BS (xo rfl (fun _=>AY rfl FL (vl rfl)) (HO 0 rfl rfl (Ay rfl FV (vl rfl) rfl) (xm rfl (xo rfl (fun _=>AY rfl FL (vl rfl)) (HO 0 rfl rfl (Ay rfl FV (vl rfl) rfl) (HO 1 rfl rfl (Tf rfl underlying22 (vl rfl)) (Cx.ef 2 rfl rfl AB (AU rfl rfl AB rfl (A8 AA AA) ⟨ke rfl,ke rfl,trivial⟩) (xm rfl (Cx.ef 2 rfl rfl AB (AU rfl rfl AB rfl (A8 AA AA) ⟨ke rfl,ke rfl,trivial⟩) ?_)))))))))
 refine HO 1 rfl rfl (LA rfl underlying22 Bg (vl rfl) (vl rfl) AA Da) ?_
 refine Cx.Ee 1 rfl rfl (Ia rfl rfl (vl rfl) (Vo rfl) Bg rfl (BL fun _=>rfl) (by rw [List.getElem?_map,hx0];rfl) AB (show _=(X.set (t3.BV.val (((X.map fun n=>[int n]).length:Nat):Int)).toNat (t3.BV.BV.val 40)).map _ by rw [List.map_set];rfl)) ?_
 refine Cx.nil ⟨rfl,?_⟩
 refine BW.done (BT.cons (BT.cons (BT.cons (BT.cons (BT.cons (BT.map _)))))) (Fin.block (Fin.HC 0 1 2 rfl rfl AB rfl (Lr) (BL fun _=>rfl) (Fin.HQ 0 [C_ L,reqs Q,ints (X.set (t3.BV.val (((X.map fun n=>[int n]).length:Nat):Int)).toNat (t3.BV.BV.val 40))] rfl ⟨Lr,Lr,Lr,trivial⟩ (Fin.DV (Q) ((X.set (t3.BV.val (((X.map fun n=>[int n]).length:Nat):Int)).toNat (t3.BV.BV.val 40))) (_)  AA ⟨ke rfl,ke rfl,ke rfl,ke rfl,ke rfl,ke rfl,ke rfl,ke rfl,ke rfl,ke rfl,ke rfl,ke rfl,ke rfl,ke rfl,ke rfl,ke rfl,ke rfl,trivial⟩ (fun _ _ h=>h)))))
 refine Tr.skip (Fin.block (Fin.HC 0 1 2 rfl rfl AB rfl (Lr) (BL fun _=>rfl) (Fin.HQ 0 [C_ L,reqs Q,ints X] rfl ⟨Lr,Lr,Lr,trivial⟩ (Fin.DV (Q) (X) (_)  AA ⟨ke rfl,ke rfl,ke rfl,ke rfl,ke rfl,ke rfl,ke rfl,ke rfl,ke rfl,ke rfl,ke rfl,ke rfl,ke rfl,ke rfl,ke rfl,ke rfl,ke rfl,trivial⟩ (fun _ _ h=>h)))))
 refine Tr.seq (Tr.Ah (co rfl (ki rfl rfl rfl rfl) (cm rfl (Ch.nil (Fin.go (Ws 2 3 9 10 11 12 16 18 21 22 23 91 92 93 100 101 102 160 rfl ?_))))))
 refine Tr.cn rfl ?_ ?_<;>intro L4 XK
 refine Tr.A0 (tm rfl (tp rfl (AY rfl Mz (vl rfl)) (TO.Ee 0 rfl rfl (A9 rfl rfl (vl rfl) (Vo rfl) tQ rfl Al rfl) (TO.nil (Fin.block (Fin.HC 0 1 2 rfl rfl AB rfl (Lr) (BL fun _=>rfl) (Fin.HQ 0 [C_ L,reqs r,ints X] rfl ⟨Lr,Lr,Lr,trivial⟩ (Fin.DV (r) (X) (_)  AA ⟨ke rfl,ke rfl,ke rfl,ke rfl,ke rfl,ke rfl,ke rfl,ke rfl,ke rfl,ke rfl,ke rfl,ke rfl,ke rfl,ke rfl,ke rfl,ke rfl,ke rfl,trivial⟩ (fun _ _ h=>h)))))))))
 refine Tr.skip (Fin.block (Fin.HC 0 1 2 rfl rfl AB rfl (Lr) (BL fun _=>rfl) (Fin.HQ 0 [C_ L,reqs Q,ints X] rfl ⟨Lr,Lr,Lr,trivial⟩ (Fin.DV (Q) (X) (_)  AA ⟨ke rfl,ke rfl,ke rfl,ke rfl,ke rfl,ke rfl,ke rfl,ke rfl,ke rfl,ke rfl,ke rfl,ke rfl,ke rfl,ke rfl,ke rfl,ke rfl,ke rfl,trivial⟩ (fun _ _ h=>h)))))
 rintro r2 d2 s9  AFF
 refine Tr.seq (Tr.seq (Tr.freeze 0 23 rfl rfl (Tr.K3 mixed [none,none,none,some (0,2,true,0),none,none,none,none,none,none,none,none,none,some (0,2,false,0),none,none,none,none,none,none,none,none,none,none,none,none,none,none,none] BS (xo rfl (fun _=>AK rfl GK IP (vl rfl) rfl rfl) (xo rfl (fun _=>AK rfl Gn KQ (vl rfl) rfl rfl) (xo rfl (fun _=>AK rfl C5 Ci (vl rfl) rfl rfl) ?_))))))
 refine Cx.ef 2 rfl rfl AB (AU rfl rfl AB rfl (Vz (e:=z1) (c:=c3) (l:=L) (r:=Q) (d:=X) G8.fits) ⟨ke rfl,ke rfl,ke rfl,trivial⟩) ?_
 refine xo rfl (fun _=>AK rfl GK IP (vl rfl) rfl rfl) (xo rfl (fun _=>AK rfl Gn KQ (vl rfl) rfl rfl) (xo rfl (fun _=>AK rfl C5 Ci (vl rfl) rfl rfl) ?_))
 refine xo rfl (fun _=>AZ rfl (Qu (e:=z1) (c:=c3) (l:=L) (r:=Q) (d:=X) G8.fits AA) ⟨ke rfl,ke rfl,ke rfl,trivial⟩) ?_
 refine xo rfl (fun _=>ki rfl rfl rfl rfl) (xm rfl (Cx.yes rfl rfl rfl AO rfl AB (fun _=>AK rfl GK IP (vl rfl) rfl rfl) (Cx.yes rfl rfl rfl AO rfl AB (fun _=>AK rfl Gn KQ (vl rfl) rfl rfl) (Cx.yes rfl rfl rfl AO rfl AB (fun _=>AK rfl C5 Ci (vl rfl) rfl rfl) ?_))))
 refine Cx.xe 2 rfl rfl rfl rfl AO rfl AB (jz rfl rfl (Vz (e:=z1) (c:=c3) (l:=L) (r:=r2) (d:=d2) G8.fits) ⟨ke rfl,ke rfl,ke rfl,trivial⟩) ?_
 refine Cx.yes rfl rfl rfl AO rfl AB (fun _=>AK rfl GK IP (vl rfl) rfl rfl) (Cx.yes rfl rfl rfl AO rfl AB (fun _=>AK rfl Gn KQ (vl rfl) rfl rfl) (Cx.yes rfl rfl rfl AO rfl AB (fun _=>AK rfl C5 Ci (vl rfl) rfl rfl) ?_))
 refine Cx.yes rfl rfl rfl AO rfl AB (fun _=>AZ rfl (Qu (e:=z1) (c:=c3) (l:=L) (r:=r2) (d:=d2) G8.fits AA) ⟨ke rfl,ke rfl,ke rfl,trivial⟩) ?_
 refine Cx.yes rfl rfl rfl AO rfl AB (fun _=>ki rfl rfl rfl rfl) (xo rfl (fun _=>Hg rfl (vl rfl) AO (vl rfl)) (xm rfl (Cx.yes rfl rfl rfl AO rfl AB (fun _=>AK rfl C5 Ci (vl rfl) rfl rfl) (Cx.yes rfl rfl rfl AO rfl AB (fun _=>AK rfl C5 Ci (vl rfl) rfl rfl) (Cx.yes rfl rfl rfl AO rfl AB (fun _=>AZ rfl (rI) ⟨ke rfl,ke rfl,trivial⟩) (Cx.yes rfl rfl rfl AO rfl AB (fun _=>AK rfl C5 Ci (vl rfl) rfl rfl) (Cx.yes rfl rfl rfl AO rfl AB (fun _=>AK rfl C5 Ci (vl rfl) rfl rfl) (Cx.yes rfl rfl rfl AO rfl AB (fun _=>AZ rfl (SN hLs) ⟨ke rfl,ke rfl,trivial⟩) (Cx.yes rfl rfl rfl AO rfl AB (fun _=>S7 rfl underlying4 (vl rfl) (vl rfl)) (xo rfl (fun _=>Hg rfl (vl rfl) AO (vl rfl)) ?_))))))))))
 refine Cx.nil ⟨rfl,?_⟩
 refine BW.done (BT.cons (BT.cons (BT.cons (BT.cons (BT.map _))))) (Fin.go (Tr.drop 0 (tL 2 3 9 10 11 12 16 18 21 22 91 92 93 100 101 102 192 rfl ?_)))
 refine Tr.cn rfl ?_ ?_<;>intro J9 iZ
 exact absurd J9 AO
 refine Tr.skip (Fin.go (fq 2 3 9 10 11 12 16 18 21 22 91 92 93 100 101 102 rfl (Tr.seq (Tr.seq (Tr.Ah (cm rfl (co rfl (ki rfl rfl rfl rfl) (Ch.nil (Fin.go (fq 2 3 9 10 11 12 16 18 21 91 92 93 100 101 102 194 rfl ?_))))))))))
 refine Tr.cn rfl ?_ ?_<;>intro RA pK
 refine Tr.exit (Fin.AV (Fin.Ao (Fin.go (nC 2 3 9 10 11 12 16 91 92 93 100 101 102 rfl (Tr.Ah (JF rfl rfl rfl rfl AA (cm rfl (Ch.nil (Fin.DG (m+1) (_)  (⟨by omega,by omega⟩) ⟨⟨_,rfl,AF m⟩,ke rfl,ke rfl,ke rfl,ke rfl,ke rfl,ke rfl,ke rfl,ke rfl,ke rfl,ke rfl,ke rfl,ke rfl,trivial⟩ (fun _ _ h=>h))))))))))
 have he:E0=0:=by simpa using RA
 have bC:Gu z1 c3 l3 r fr=0:=hE.trans he
 obtain ⟨h1_,h2_,h3_⟩:=Vx bC
 obtain ⟨hok,-⟩:=NM bC
 have hv:Am (l3.length:Nat) r=0:=(aS bC).2.1
 have hLe:L=l3:=hL.symm.trans h1_
 have AFG:X.length=L.length:=by rw [←hX,h3_,hLe];exact hok.len
 have AEE:X=[]∨fr≤40000:=by rw [←hX,h3_];exact wC bC
 refine Tr.skip (Fin.go (xl 2 3 9 10 11 12 16 18 21 91 92 93 100 101 102 rfl (Tr.seq (Tr.seq (Tr.Wi mixed BS (co rfl (AK rfl C5 Ci (vl rfl) rfl rfl) ?_))))))
 refine co rfl (AZ rfl (UE (l:=X)) ⟨ke rfl,trivial⟩) ?_
 refine co rfl (AK rfl C5 Ci (vl rfl) rfl rfl) ?_
 refine co rfl (AZ rfl (dm (l:=X)) ⟨ke rfl,trivial⟩) ?_
 refine co rfl (ki rfl rfl rfl rfl) (cm rfl ?_)
 refine Ch.cs 200 rfl ?_ ?_<;>intro h16 mY
 exact absurd h16 AO
 refine cy h16 rfl (AK rfl C5 Ci (vl rfl) rfl rfl) (cy h16 rfl (AZ rfl (lZ AA) ⟨ke rfl,trivial⟩) (cy h16 rfl (AK rfl C5 Ci (vl rfl) rfl rfl) (cy h16 rfl (AZ rfl (YZ AA AA) ⟨ke rfl,trivial⟩) (cy h16 rfl (AZ rfl (Fu) ⟨ke rfl,ke rfl,trivial⟩) (cy h16 rfl (F9 rfl (vl rfl)) (co rfl (LX rfl rfl h16 rfl) (Ch.nil (Fin.go (fq 2 3 9 10 11 12 16 18 21 91 92 93 100 101 102 207 rfl ?_)))))))))
 refine Tr.cn rfl ?_ ?_<;>intro Nj mX
 exact absurd Nj AO
 refine Tr.skip (Fin.go (xl 2 3 9 10 11 12 16 18 21 91 92 93 100 101 102 rfl (Tr.seq (Tr.A0 (tm rfl (tm rfl (tm rfl (tp rfl (Bn rfl underlying32 (vl rfl)) ?_))))))))
 refine TO.EV 0 rfl rfl AB (AU rfl rfl AB rfl (Zr (n:=((l3.length:Nat):Int)) AA) ⟨ke rfl,ke rfl,trivial⟩) ?_
 refine TO.ex 212 rfl (fun z5=>TO.fact 212 rfl fun hz5=> ?_)
 refine tm rfl (tp rfl (Bn rfl underlying32 (vl rfl)) (tm rfl (tm rfl (tm rfl (tp rfl (Bn rfl underlying32 (vl rfl)) ?_)))))
 refine TO.EV 0 rfl rfl AB (AU rfl rfl AB rfl (BR.exd fun s_=>Zr (n:=((l3.length:Nat):Int)) AA) ⟨ke rfl,ke rfl,trivial⟩) ?_
 refine TO.ex 219 rfl (fun z6=>TO.fact 219 rfl fun hz6=> ?_)
 refine tp rfl (AZ rfl (mH (n:=l3.length) AA AA hv (MV hz6)) ⟨ke rfl,ke rfl,ke rfl,trivial⟩) ?_
 refine TO.ex 220 rfl fun z7=>TO.fact 220 rfl fun hz7=>(tp rfl (AQ (xs:=[.tmp 208,.tmp 212,.tmp 220]) (rows:=[[ints s],[ints z5],[ints z7]]) rfl rfl underlying99 tU z51 rfl AB ⟨⟨Ab,VL.le (vl rfl) (AP _)⟩,⟨⟨Ab,VL.le (vl rfl) (AP _)⟩,⟨⟨Ab,VL.le (vl rfl) (AP _)⟩,trivial⟩⟩⟩ AB) ?_)
 refine tp rfl (B7 rfl underlying99 (Kf rfl)) (tm rfl (TO.nil (Fin.Nh 0 rfl (fun s6=> ?_))))
 refine Fin.go (Ws 2 3 9 10 11 12 16 18 21 91 92 93 100 101 102 221 222 223 rfl (Tr.block ?_))
 obtain ⟨ss3,wF,ABA⟩:∃l:List (List Int),l=[s,z5,z7]∧∀x∈l,x.length≤1000:=⟨_,rfl,by intro x hx;simp at hx;rcases hx with rfl|rfl|rfl;omega;(have:=pz (n:=l3.length) hz5;omega);omega⟩
 refine Tr.re 221 rfl (Pr.le_trans (BA _ _) (Pr.le_of_eq (by rw [wF];rfl)):Pr.le _ (slice 1 (ss3.map fun l=>[ints l]))) ?_
 have AEj:ss3.length=3:=(by rw [wF];rfl)
 refine Tr.re 222 rfl (int_eq (by rw [wF];rfl):Pr.le _ (int ((ss3.length:Nat):Int))) ?_
 refine Tr.DU [(2,_),(3,_),(9,_),(10,_),(11,_),(12,_),(16,_),(18,_),(21,_),(91,_),(92,_),(93,_),(100,_),(101,_),(102,_),(221,_),(222,_)] ⟨ke rfl,ke rfl,ke rfl,ke rfl,ke rfl,ke rfl,ke rfl,ke rfl,ke rfl,ke rfl,ke rfl,ke rfl,ke rfl,ke rfl,ke rfl,ke rfl,ke rfl,trivial⟩ (fun (j:Nat) (t4:DS)=>[(223,int ((j:Nat):Int))]) (fun (j:Nat) (t4:DS)=>Hp M0 w0 S (CG b1 t4::DI::Ak M1 w1::rs)) (fun (j:Nat) (t4:DS)=>j≤ss3.length) (fun (j:Nat) (t4:DS)=>ss3.length-j) (0) (_)  (Nat.zero_le _) ⟨ke rfl,trivial⟩ (fun _ _ h=>h) ?_
 rintro j t4  hj1
 refine Tr.seq (Tr.Ah (co rfl (ki rfl rfl rfl rfl) (Ch.nil (Fin.go (fu 2 3 9 10 11 12 16 18 21 91 92 93 100 101 102 221 222 223 224 rfl (Tr.seq ?_))))))
 refine Tr.cn rfl ?_ ?_<;>intro Oa q18
 have AEF:j<ss3.length:=by have:=Df.EA Oa;omega
 obtain ⟨y,mI⟩:=at_ AEF
 have hyl:=ABA y (List.mem_of_getElem? mI)
 refine Tr.skip (Fin.go (Ws 2 3 9 10 11 12 16 18 21 91 92 93 100 101 102 221 222 223 rfl (Tr.seq (Tr.block (Tr.seq (Tr.Ah (co rfl (AD rfl underlying99 tU (vl rfl) (vl rfl) AA (Ac mI)) (co rfl (GI rfl gK rfl) (cm rfl (Ch.nil (Fin.go (fu 2 3 9 10 11 12 16 18 21 25 91 92 93 100 101 102 221 222 223 rfl (Tr.seq ?_)))))))))))))
 have AAK:=t4.Bi (n:=20) AA
 refine Tr.K3 mixed [none,none,none,none,some (0,0,true,0),none,some (0,1,true,0),none,none,none,none,none] BS (xo rfl (fun _=>AK rfl C5 Ci (vl rfl) rfl rfl) (xm rfl (xm rfl (xm rfl (Cx.ef 0 rfl rfl AB (AU rfl rfl AB rfl (A8 AA AA) ⟨ke rfl,ke rfl,trivial⟩) (xo rfl (fun _=>ki rfl rfl rfl rfl) ?_))))))
 refine Cx.ef 1 rfl rfl AB (AU rfl rfl AB rfl (lp (r:=Q) (d:=X) (s:=y)) ⟨ke rfl,ke rfl,ke rfl,trivial⟩) ?_
 refine xm rfl (xo rfl (fun _=>Ba rfl (vl rfl) rfl) (xo rfl (fun _=>Ba rfl (vl rfl) rfl) (xm rfl (xm rfl ?_))))
 refine Cx.nil ⟨rfl,?_⟩
 refine BW.done (BT.cons (BT.cons (BT.cons (BT.map _)))) (Fin.go (ACS 2 3 9 10 11 12 16 18 21 25 26 27 91 92 93 100 101 102 221 222 223 rfl (Tr.seq (Tr.Ah (co rfl (AK rfl C5 Ci (vl rfl) rfl rfl) (cm rfl (cm rfl (co rfl (ki rfl rfl rfl rfl) (co rfl (AZ rfl (mE AA AA AA AA) ⟨ke rfl,ke rfl,ke rfl,trivial⟩) (cm rfl (co rfl (Ba rfl (vl rfl) rfl) (co rfl (Ba rfl (vl rfl) rfl) (cm rfl ?_)))))))))))))
 refine cm rfl (Ch.nil (Fin.go (ACT 2 3 9 10 11 12 16 18 21 25 26 27 28 29 91 92 93 100 101 102 221 222 223 rfl (Tr.seq (Tr.A0 (tp rfl (AK rfl C5 Ci (vl rfl) rfl rfl) (tm rfl (tm rfl (tp rfl (ki rfl rfl rfl rfl) ?_)))))))))
 refine TO.EV 1 rfl rfl AB (AU rfl rfl AB rfl (lp (r:=Q) (d:=X) (s:=y)) ⟨ke rfl,ke rfl,ke rfl,trivial⟩) ?_
 refine tm rfl (tp rfl (Ba rfl (vl rfl) rfl) (tp rfl (Ba rfl (vl rfl) rfl) (tm rfl (tm rfl (TO.nil (Fin.go (ACU 2 3 9 10 11 12 16 18 21 26 27 28 29 30 31 91 92 93 100 101 102 221 222 223 rfl (Tr.seq (Tr.Ah (cm rfl (cm rfl (co rfl (ki rfl rfl rfl rfl) (cm rfl ?_)))))))))))))
 refine Ch.cs 256 rfl ?_ ?_<;>intro WE q19
 exact absurd WE AO
 refine HZ WE rfl (HZ WE rfl (cy WE rfl (ki rfl rfl rfl rfl) (co rfl (LX rfl rfl WE rfl) (cm rfl ?_))))
 refine Ch.cs 261 rfl ?_ ?_<;>intro MY q20
 exact absurd MY AO
 refine HZ MY rfl (HZ MY rfl (cy MY rfl (AZ rfl (Fu) ⟨ke rfl,ke rfl,trivial⟩) (cy MY rfl (F9 rfl (vl rfl)) (co rfl (LX rfl rfl MY rfl) (cm rfl ?_)))))
 refine Ch.cs 267 rfl ?_ ?_<;>intro RF q21
 exact absurd RF AO
 refine HZ RF rfl (cy RF rfl (Bn rfl underlying51 (vl rfl)) (HZ RF rfl (cy RF rfl (Bn rfl underlying51 (vl rfl)) (cy RF rfl (ki rfl rfl rfl rfl) (co rfl (LX rfl rfl RF rfl) (Ch.nil (Fin.go (fu 2 3 9 10 11 12 16 18 21 91 92 93 100 101 102 221 222 223 273 rfl ?_))))))))
 refine Tr.cn rfl ?_ ?_<;>intro h22 q22
 exfalso;have:=mM (r:=Q) (s:=y) AEE AEC AAK;simp at h22;omega
 refine Tr.skip (Fin.block (Fin.go (Ws 2 3 9 10 11 12 16 18 21 91 92 93 100 101 102 221 222 223 rfl (Tr.Ah (JF rfl rfl rfl rfl AA (cm rfl (Ch.nil (Fin.DG (j+1) (_)  (⟨by omega,by omega⟩) ⟨⟨_,rfl,AF j⟩,ke rfl,ke rfl,ke rfl,ke rfl,ke rfl,ke rfl,ke rfl,ke rfl,ke rfl,ke rfl,ke rfl,ke rfl,ke rfl,ke rfl,ke rfl,ke rfl,ke rfl,trivial⟩ (fun _ _ h=>h)))))))))
 have:=Oa
 refine Tr.exit (Fin.AV (Fin.AV (Fin.Ao (Fin.block (Fin.go (nC 2 3 9 10 11 12 16 91 92 93 100 101 102 rfl (Tr.Ah (JF rfl rfl rfl rfl AA (cm rfl (Ch.nil (Fin.DG (m+1) (_)  (⟨by omega,by omega⟩) ⟨⟨_,rfl,AF m⟩,ke rfl,ke rfl,ke rfl,ke rfl,ke rfl,ke rfl,ke rfl,ke rfl,ke rfl,ke rfl,ke rfl,ke rfl,trivial⟩ (fun _ _ h=>h))))))))))))
 have:=h7
 refine Tr.exit (Fin.AV (Fin.AV (Fin.Ao (Fin.block (Fin.go (wk9 2 3 9 10 11 12 91 92 93 rfl (Tr.Ah (JF rfl rfl rfl rfl AA (cm rfl (Ch.nil (Fin.DG (k+1) (_)  (⟨by omega,by omega⟩) ⟨⟨_,rfl,AF k⟩,ke rfl,ke rfl,ke rfl,ke rfl,ke rfl,ke rfl,ke rfl,ke rfl,trivial⟩ (fun _ _ h=>h))))))))))))
 have:=h6
 refine Tr.exit (Fin.AV (Fin.AV (Fin.Ao (Fin.go (Tr.seq (Tr.Ah (co rfl (AK rfl Gn KQ (vl rfl) rfl rfl) (cm rfl ?_))))))))
 refine co rfl (AZ rfl (dS (c:=c3) (l:=l3) how) ⟨ke rfl,ke rfl,trivial⟩) ?_
 refine cm rfl (co rfl (Ba rfl (vl rfl) rfl) (co rfl (Ba rfl (vl rfl) rfl) (cm rfl (cm rfl (Ch.nil (Fin.go (PZ 11 12 32 33 rfl (Tr.seq (Tr.Ah (co rfl (AK rfl Gn KQ (vl rfl) rfl rfl) (cm rfl ?_)))))))))))
 refine co rfl (AZ rfl (LW (c:=c3) (l:=l3) how) ⟨ke rfl,ke rfl,trivial⟩) ?_
 refine cm rfl (co rfl (Ba rfl (vl rfl) rfl) (co rfl (Ba rfl (vl rfl) rfl) (cm rfl (cm rfl (Ch.nil (Fin.go (Tr.seq (Tr.Ah (cm rfl (cm rfl (co rfl (ki rfl rfl rfl rfl) (cm rfl ?_))))))))))))
 refine Ch.cs 292 rfl ?_ ?_<;>intro h23 q23
 refine HZ h23 rfl (HZ h23 rfl (cy h23 rfl (AZ rfl (Fu) ⟨ke rfl,ke rfl,trivial⟩) (co rfl (PY rfl rfl h23 rfl) (cm rfl ?_))))
 refine Ch.cs 297 rfl ?_ ?_<;>intro Ld q24
 refine cy Ld rfl (AZ rfl (UO) trivial) (co rfl (PY rfl rfl Ld rfl) (cm rfl (Ch.nil (Fin.go (bN 8 rfl (Tr.ret (Fin.drop 0 (Fin.E7 rfl rfl ?_ (fun _ _ _ _=>rfl)))))))))
 · exact Lr
 exact absurd Ld AO
 exact absurd h23 AO
end Go.Proofs.YtmocaapoeefgkaaGreatDoor
namespace Go.Proofs.YtmocaapoeefgkaaGreatDoor
open Go Go.RowKit Cp Go.ChangeShapes Go.WideShapes Go.ChangeAt Go.Proofs.Tryz
theorem AEG : Tryz.prog.globalNamed "math/bits.deBruijn32tab" = some 0 := by kernel_rfl
theorem AEH:(Tryz.prog.globals[0]?).map (·.type)=some 255:=by kernel_rfl
theorem mN (os : Os) (args : Array Value) : laidMetH Tryz.prog [("math/bits.deBruijn32tab", Rows.laid_math_bits_deBruijn32tab)] ((World.doorLaid Tryz.prog 14 os).forCall (fun _ _ => 0) ⟨#[], args, []⟩).memory :=
 laidMetH_of_parts3 (fuel:=33) (laidMet_of_run' 33 BS BS) BS BS
theorem wG {W : World} (h : laidMetH Tryz.prog [("math/bits.deBruijn32tab", Rows.laid_math_bits_deBruijn32tab)] W) : DI.h gA W := by
 rw [MakeChecks.laidMetH_plain _ _ _ BS] at h
 obtain ⟨ps,⟨g0,t0,cs0,f0,p0,q0,jC,ht0,ZK,hd0,_⟩,_⟩:=h
 obtain rfl:=Option.some.inj (AEG.symm.trans jC)
 obtain rfl:=Option.some.inj (AEH.symm.trans ht0)
 obtain ⟨xs,m,rfl,hx,hlen,hn,hel⟩:=DataW.trod_array Tryz.underlying255 hd0
 have c1:Tryz.prog.cellsOf 5=1:=by kernel_rfl
 have hx1:Rows.laid_math_bits_deBruijn32tab=DataW.agg (xs.map (·.1)):=(Prod.mk.inj hx).1
 have hx2:xs.map (·.1)=Vm.map fun n:Nat=>DataW.lit (.int .u8 (n:Int)):=by
  have h3:(Rows.laid_math_bits_deBruijn32tab:DataW Unit)=DataW.agg (Vm.map fun n:Nat=>DataW.lit (.int .u8 (n:Int))):=rfl
  exact (DataW.agg.inj (hx1.symm.trans h3))
 intro j n hj
 refine ⟨?_,fun h=>h⟩
 have AEI:j<32:=by
  rcases Nat.lt_or_ge j 32 with h|h
  · exact h
  · rw [List.getElem?_eq_none h] at hj;cases hj
 have h4:=hel j AEI
 rw [c1,Nat.mul_one] at h4
 obtain ⟨y,hy⟩:=at_ (l:=xs) (k:=j) AA
 rw [hy] at h4
 obtain ⟨k,e1,e2,_⟩:=DataW.trod_int Tryz.underlying5 h4
 have h5:(xs.map (·.1))[j]? =some (DataW.lit (.int .u8 (n:Int))):=by rw [hx2,List.getElem?_map,hj];rfl
 rw [List.getElem?_map,hy] at h5
 have hk:k=(n:Int):=by
  have h6:y.1=DataW.lit (.int .u8 (n:Int)):=Option.some.inj h5
  rw [e2] at h6
  simpa using h6
 have h7:=World.var?_cell jC ZK j
 have h8:cs0.toList[j]? =some (.int .u8 k):=by
  have h9:=congrArg (fun l:List Value=>l[0]?) e1
  simpa using h9
 rw [hk] at h8
 have h10:cs0[j]? =some (.int .u8 (n:Int)):=by rw [←Array.getElem?_toList];exact h8
 rw [h10] at h7
 exact h7
theorem eC:Iy Tryz.prog 61 (fun _:BH=>True) Ml:=
 (S9 Tryz.underlying61 BS (Ng (c:=1) rfl BS (J7 Tryz.underlying3) (Ng (c:=1) rfl BS (J7 Tryz.underlying3) (Wt _ _)))).map (fun z=>BH.mk z.1 z.2.1) (fun _ _=>trivial) (fun _=>rfl)
theorem Qv (os:Os) (started:os.Started) (H:Type) (enc:TypeId×Value→H):
  ReturnsInHanded {} Tryz.checked os 9 .any (fun w args => (Rows.planAllSpec.pre enc Tryz.prog Tryz.f9 [] false w args ∧ laidMetH Tryz.prog [("math/bits.deBruijn32tab", Rows.laid_math_bits_deBruijn32tab)] w) ∧ sizedMet enc Tryz.prog Tryz.f9 (OpenSpec.ofChange Rows.planAllSpec) false w args) (Rows.planAllSpec.post enc Tryz.prog Tryz.f9 false true false false) := by
 refine returnsInHanded_of_change_and (C := Tryz.checked) (X := fun w _ => laidMetH Tryz.prog [("math/bits.deBruijn32tab", Rows.laid_math_bits_deBruijn32tab)] w) (fun _ _ _ hh h => h.of_heap hh) ADS started BS Tryz.func9
  (ChangeSpec.witness_shaped (enc := enc) (C := Tryz.checked) (os := os) (X := fun w _ => laidMetH Tryz.prog [("math/bits.deBruijn32tab", Rows.laid_math_bits_deBruijn32tab)] w) false (World.doorLaid Tryz.prog 14 os) #[.slice none 0 0, .slice none 0 0, .slice none 0 0, .int .i64 0] 8 rfl (World.shaped_of_RefB BS BS) BS BS BS (mN os _)) ?_
 intro W base args ds gs before ABB hW AFH _ hL _
 have hval:∀(j:Nat) t v,Tryz.f9.params[j]? =some t→args[j]? =some v→Value.okWide Tryz.prog W .any base t v:=ABB
 have hW':=hW
 obtain ⟨p,q,hA0,hV,hpq,hfz,hnd⟩:=hW
 have hA:DataW.TrodAll enc Tryz.prog W 0 (fun _=>true) true Tryz.f9.params.toList args.toList ds p:=hA0
 have mR:=hA
 rw [Tryz.params9] at hA hval
 obtain ⟨v0,v1,v2,v3,d0,d1,d2,d3,p0,p1,p2,p3,rfl,rfl,hp,h0,h1,h2,h3⟩:=trodAll_four mR
 obtain ⟨rfl,rfl⟩:=trodVars_none hV
 obtain ⟨a0,_,e0⟩:=OY (P7 Tryz.underlying22 Tryz.underlying3 BS) h0 (by obtain ⟨_,_,_,rfl⟩:=okWide_slice Tryz.underlying22 (hval 0 22 v0 rfl rfl);rfl)
 obtain ⟨a1,_,e1⟩:=OY (Nf Tryz.underlying33 BS eC) h1 (by obtain ⟨_,_,_,rfl⟩:=okWide_slice Tryz.underlying33 (hval 1 33 v1 rfl rfl);rfl)
 obtain ⟨a2,_,e2⟩:=OY (P7 Tryz.underlying22 Tryz.underlying3 BS) h2 (by obtain ⟨_,_,_,rfl⟩:=okWide_slice Tryz.underlying22 (hval 2 22 v2 rfl rfl);rfl)
 obtain ⟨a3,hf,e3⟩:=OY (J7 Tryz.underlying3) h3 (by obtain ⟨_,rfl⟩:=okWide_int Tryz.underlying3 (hval 3 3 v3 rfl rfl);rfl)
 refine (BR.qN (eB (i64_in hf)) rfl W [v0,v1,v2,v3] (wG hL) ⟨e0,e1,e2,e3,trivial⟩).mono fun e W' ⟨v,he,hv,hb⟩=> ?_
 subst he
 obtain rfl:v= .bool true:=hv
 exact ⟨_,rfl,gB iF BS rfl Tryz.underlying4 rfl mR (by rw [hpq];simp) hW' rfl hb⟩
theorem Qw:(Rows.planAllRow.inPlace==Tryz.pinned.checked.prog.inPlace 9)=true:=by kernel_rfl
theorem Qx:(Rows.planAllRow.unfollowed==Tryz.pinned.checked.prog.unfollowed 9)=true:=by kernel_rfl
theorem Qy:(Rows.planAllRow.recurses==Tryz.pinned.checked.prog.recurses 9)=true:=by kernel_rfl
theorem Qz:(Rows.planAllRow.named==Tryz.pinned.checked.prog.varsNamed 9)=true:=by kernel_rfl
theorem RN:joinedFacts Tryz.pinned.checked.prog 9 Tryz.f9 Rows.planAllSpec Rows.planAllRow=true:=by
 unfold joinedFacts
 rw [Qw,Qx,Qy,Qz]
 kernel_rfl
theorem planAll_holds:Rows.PlanAllSaid:=
 OpenClaim.holds_of_wide 9 Tryz.f9 rfl rfl rfl rfl rfl rfl rfl ⟨rfl, rfl, rfl, rfl, rfl⟩ rfl rfl rfl rfl rfl BS Tryz.func9 RN
  (of_decide_eq_true BS) (by unfold Func.isWrapper;first|(rw [if_pos (by decide+kernel)];kernel_rfl)|(rw [if_neg (by decide+kernel)];exact ⟨rfl,rfl⟩))
  (fun os started H enc _=>Qv os started H enc)
theorem Yd:Rows.planAllRow.wfByText (OpenSpec.ofChange Rows.planAllSpec)=true:=by kernel_rfl
theorem Ye:Tryz.pinned.checked.prog.mainIs=some (Rows.planAllCard.stood.harness.1,Rows.planAllCard.stood.harness.2.toList):=by kernel_rfl
theorem Yf : Tryz.prog.funcNamed "cipherplan/cipherplanlaw31.PlanAll" = some 9 := by kernel_rfl
theorem Yg:false=Tryz.pinned.checked.prog.looks []:=by kernel_rfl
theorem Yh:false=Rows.planAllRow.goesBy Tryz.pinned.checked.prog:=by kernel_rfl
theorem Yi:([22,33,22,3].all fun u=> !Tryz.prog.wantsStandIn u)=true:=by kernel_rfl
theorem planAll_card_holds:Rows.PlanAllCardSaid:=
 Claim7.holds_tied_plain_at .later [] [.data] true Rows.planAllCard.stood.harness false planAll_holds (fun _ h => by cases h) Yd (fun _ h => by cases h) planAll_row_tie rfl ⟨rfl, rfl⟩ Ye rfl
  (fun f fn hf hfn=>by
   obtain rfl:f=9:=Option.some.inj (Yf.symm.trans hf)|>.symm
   obtain rfl:fn=Tryz.f9:=(Option.some.inj (Tryz.func9.symm.trans hfn)).symm
   exact ⟨Yg,fun j t ht=>by
    rw [Tryz.params9] at ht
    have hm:t∈[22,33,22,3]:=by simpa using Array.mem_of_getElem? ht
    exact (show Tryz.prog.wantsStandIn t=false by simpa using List.all_eq_true.1 Yi t hm)⟩)
  Yh
end Go.Proofs.YtmocaapoeefgkaaGreatDoor
