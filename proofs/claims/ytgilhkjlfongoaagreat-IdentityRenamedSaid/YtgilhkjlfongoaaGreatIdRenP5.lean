/-
  Part 5 of the texts that prove this claim, merged.
-/
import Derived.Test.YtgilhkjlfongoaaGreatRows
import Derived.RangeFuncFrom
import Derived.RangeFuncLeaves
import Derived.OrdersIn
import Derived.Test.YtgilhkjlfongoaaGreatIdRenP4
set_option linter.all false
set_option maxRecDepth 40000
set_option maxHeartbeats 16000000
namespace Go.Proofs.YtgilhkjlfongoaaGreat
open Go Go.RowKit Cp Go.Proofs.Tryz
structure Df where
 e:Ir
 vh:Value
 vm:Value
 vf:Value
abbrev DG (x:Df):List Pr:=[int x.e.num,Ap x.vh (lens x.e.BD.length),Ap x.vm (lens x.e.Az.length),Ap x.vf (ints x.e.BL)]
def Nc (x:Df):List Al:=[Ak 9 1 (x.e.BD.map fun t=>[str t]) x.vh,Ak 3 1 (x.e.Az.map fun t=>[int t]) x.vm,BR 3 1 x.vf]
theorem C_ (x:Df):(DG x).length=4:=rfl
def Sv (k:Nat):Df:=⟨⟨(k:Nat),[],[],[]⟩,.slice none 0 0,.slice none 0 0,.slice none 0 0⟩
theorem Sw (k:Nat):∀r∈Nc (Sv k),r.EZ=none∧∀M w,r.h M w:=by
 intro r hr
 unfold Nc Sv at hr
 simp only [List.mem_cons,List.not_mem_nil,or_false] at hr
 rcases hr with rfl|rfl|rfl
 · exact ⟨rfl,fun M w=> .inl ⟨rfl,rfl⟩⟩
 · exact ⟨rfl,fun M w=> .inl ⟨rfl,rfl⟩⟩
 · exact ⟨rfl,fun M w a n c hv=>by cases hv⟩
theorem Sx (k:Nat):Pr.le (full 4 [[int ((k:Nat):Int),is (.slice none 0 0),is (.slice none 0 0),is (.slice none 0 0)]]) (slice 4 [DG (Sv k)]):=
 Pr.le_trans (BI _ _) (Ra ⟨⟨Pr.le_refl _,Gz rfl,Gz rfl,PK rfl,trivial⟩,trivial⟩)
def Sy (x:Df) (M:Av) (w:World):Prop:=(strs x.e.BD).h M w x.vh∧(ints x.e.Az).h M w x.vm
theorem VC (x:Df) (M M':Av) (w:World) (h:Ext M w M' w) (hp:Sy x M w):Sy x M' w:=⟨(strs x.e.BD).st _ _ _ _ _ h hp.1,(ints x.e.Az).st _ _ _ _ _ h hp.2⟩
theorem Sz {M0:Av} {w0:World} {S:Nat→Prop} (x:Df) (rs:List Al) (M:Av) (w:World) (h:Ao M0 w0 S (Nc x++rs) M w):∃M',Ext M w M' w∧Ao M0 w0 S rs M' w∧Sy x M' w:=by
 obtain ⟨M1,h1,h2,h3⟩:=Ao.QW (j:=0) h rfl (BU fun _=>rfl)
 obtain ⟨M2,h4,h5,h6⟩:=Ao.QW (j:=1) h2 rfl (BU fun _=>rfl)
 exact ⟨M2,h1.trans h4,((h5.Gr).Gr).Gr,(slice 1 _).st _ _ _ _ _ h4 h3,h6⟩
abbrev bI (x:Df):List Pr:=Xq x.e
theorem S0 (x:Df) (M:Av) (w:World) (vs:List Value) (hp:Sy x M w) (h:HL M w (DG x) vs):HL M w (bI x) vs:=by
 match vs,h with
 |[a,b,c,d],h=>
  obtain ⟨h1,h2,h3,h4,_⟩:=h
  obtain rfl:b=x.vh:=h2.1
  obtain rfl:c=x.vm:=h3.1
  exact ⟨h1,hp.1,hp.2,h4.2,trivial⟩
def S1 (l:List AO) (AJ:Int):Nat→List (Int×Int)
 |0=>[]
 |k+1=>if Aj l AJ k=k then E9 (S1 l AJ k) ((Aj l AJ k:Nat):Int) ((B8 l (Aj l AJ) k).length:Nat) else S1 l AJ k
theorem P6 {l:List AO} {AJ:Int} {k:Nat} (h:Aj l AJ k=k):S1 l AJ (k+1)=E9 (S1 l AJ k) ((Aj l AJ k:Nat):Int) ((B8 l (Aj l AJ) k).length:Nat):=if_pos h
theorem S2 {l:List AO} {AJ:Int} {k:Nat} (h:¬Aj l AJ k=k):S1 l AJ (k+1)=S1 l AJ k:=if_neg h
theorem Ht (l:List AO) (root:Nat→Nat) (n:Nat):(B8 l root n).length=(Be root n).length:=by unfold B8;rw [List.length_map]
theorem LN (root:Nat→Nat) (n:Nat):(Be root n).length≤n:=by unfold Be;have:=List.length_filter_le (fun r=>decide (root r=r)) (List.range n);rw [List.length_range] at this;exact this
theorem KO {l:List AO} {AJ:Int}:∀(k j r:Nat),(Be (Aj l AJ) k)[j]? =some r→Cp.look (S1 l AJ k) ((r:Nat):Int)=some ((j:Nat):Int)
 |0,j,r,h=>by simp [Be] at h
 |k+1,j,r,h=>by
  rw [F3] at h
  by_cases hr:Aj l AJ k=k
  ·
   rw [if_pos hr] at h
   rw [P6 hr,KL,hr]
   rcases Nat.lt_or_ge j (Be (Aj l AJ) k).length with hj|hj
   ·
    rw [List.getElem?_append_left hj] at h
    have:=(Ho (List.mem_of_getElem? h)).1
    rw [if_neg (by omega)]
    exact KO k j r h
   ·
    rw [List.getElem?_append_right hj] at h
    have hjl:j-(Be (Aj l AJ) k).length=0:=by
     rcases Nat.eq_zero_or_pos (j-(Be (Aj l AJ) k).length) with h0|h0
     · exact h0
     · rw [List.getElem?_eq_none (by simp;omega)] at h;cases h
    rw [hjl] at h
    simp only [List.getElem?_cons_zero,Option.some.injEq] at h
    subst h
    rw [if_pos rfl,Ht,show (Be (Aj l AJ) k).length=j by omega]
  ·
   rw [if_neg hr,List.append_nil] at h
   rw [S2 hr]
   exact KO k j r h
theorem VD {l:List AO} {AJ:Int} {k:Nat} (hk:k<l.length):∃i:Nat,(Be (Aj l AJ) (k+1))[i]? =some (Aj l AJ k)∧Cp.look (S1 l AJ (k+1)) ((Aj l AJ k:Nat):Int)=some ((i:Nat):Int):=by
 have hm:Aj l AJ k∈Be (Aj l AJ) (k+1):=by
  unfold Be
  rw [List.mem_filter,List.mem_range]
  exact ⟨Nat.lt_succ_of_le (D7 l AJ k),by simpa using Oj hk⟩
 obtain ⟨i,hi⟩:=List.mem_iff_getElem?.1 hm
 exact ⟨i,hi,KO _ _ _ hi⟩
theorem Qv (l:List AO) {root:Nat→Nat} (hle:∀i,root i≤i) (n:Nat):(B8 l root n++if root n=n then [(⟨(n:Nat),[],[],[]⟩:Ir)] else [])=(Be root (n+1)).map fun r=>CV l root r n:=by
 rw [F3,List.map_append]
 unfold B8
 congr 1
 split
 · rw [List.map_singleton,Hq hle n (Nat.le_refl _)]
 · rfl
theorem VE {l:List AO} {AJ:Int} {k i:Nat} {X:List Df} (hX:X.map (·.e)=B8 l (Aj l AJ) k++if Aj l AJ k=k then [(⟨(k:Nat),[],[],[]⟩:Ir)] else []) (hi:(Be (Aj l AJ) (k+1))[i]? =some (Aj l AJ k)):∃x,X[i]? =some x∧x.e=CV l (Aj l AJ) (Aj l AJ k) k:=by
 rw [Qv l (D7 l AJ)] at hX
 have h1:(X.map (·.e))[i]? =some (CV l (Aj l AJ) (Aj l AJ k) k):=by rw [hX,List.getElem?_map,hi];rfl
 rw [List.getElem?_map,Option.map_eq_some_iff] at h1
 exact h1
theorem LO {l:List AO} {AJ:Int} {k i:Nat} {f:AO} {X:List Df} {x y:Df} (hf:l[k]? =some f) (hX:X.map (·.e)=B8 l (Aj l AJ) k++if Aj l AJ k=k then [(⟨(k:Nat),[],[],[]⟩:Ir)] else []) (hi:(Be (Aj l AJ) (k+1))[i]? =some (Aj l AJ k)) (hx:x.e=CV l (Aj l AJ) (Aj l AJ k) k) (hy:y.e=F2 x.e f (k:Nat)):(X.set i y).map (·.e)=B8 l (Aj l AJ) (k+1):=by
 rw [Om (D7 l AJ) hf hi,List.map_set,hX,hy,hx]
theorem P7 (l:List AO) (root:Nat→Nat) (r:Nat):∀n,Fg Lib.compareBytes (CV l root r n).BD∧Fg An (CV l root r n).Az
 |0=>⟨List.Pairwise.nil,List.Pairwise.nil⟩
 |n+1=>by
  have ih:=P7 l root r n
  unfold CV
  split
  · exact ih
  ·
   split
   ·
    unfold F2
    refine ⟨EM DM (fun x y h=>(DU x y).1 h) ih.1,?_⟩
    show Fg An (if _ then _ else _)
    split
    · exact ih.2
    · exact EM CX (fun x y h=>Dw.1 h) ih.2
   · exact ih
theorem VF {ps:List Pr} {p:Pr} {off:Nat} (h:off<ps.length):(ps.take off++[p]++ps.drop (off+1)).length=ps.length:=by
 rw [List.length_append,List.length_append,List.length_take,List.length_drop,List.length_singleton];omega
theorem VG {X:List Df} {x:Df} {i off1 off2:Nat} {f:AO} {k:Int} {v u:Value} {qs:List Pr} (hx:X[i]? =some x) (h1:off1=i*4+1) (h2:off2=i*4+3) {ps1:List Pr} (hp:ps1=(((X.map DG).flatten++qs).take off1++[Ap v (lens (Dd x.e.BD f.host).length)]++((X.map DG).flatten++qs).drop (off1+1))):
  ps1.take off2++[Ap u (slice 1 ((x.e.BL.map fun n=>[int n])++[[int k]]))]++ps1.drop (off2+1)=((X.set i ⟨⟨x.e.num,Dd x.e.BD f.host,x.e.Az,x.e.BL++[k]⟩,v,x.vm,u⟩).map DG).flatten++qs:=by
 subst h1 h2
 have CO:=B9 hx
 have e1:=Ge (f:=DG) (qs:=qs) (y:=⟨⟨x.e.num,Dd x.e.BD f.host,x.e.Az,x.e.BL⟩,v,x.vm,x.vf⟩) C_ hx (show 1<4 by decide) (p:=Ap v (lens (Dd x.e.BD f.host).length)) rfl
 rw [e1] at hp
 subst hp
 have e2:=Ge (f:=DG) (qs:=qs) (l:=X.set i ⟨⟨x.e.num,Dd x.e.BD f.host,x.e.Az,x.e.BL⟩,v,x.vm,x.vf⟩) (i:=i) (y:=⟨⟨x.e.num,Dd x.e.BD f.host,x.e.Az,x.e.BL++[k]⟩,v,x.vm,u⟩) C_ (by rw [List.getElem?_set,if_pos rfl,if_pos CO]) (show 3<4 by decide) (p:=Ap u (slice 1 ((x.e.BL.map fun n=>[int n])++[[int k]]))) (by show [_,_,_,Ap u _]=[_,_,_,Ap u (ints (x.e.BL++[k]))];unfold ints;rw [List.map_append];rfl)
 rw [e2,List.set_set]
theorem VH {X:List Df} {x:Df} {i off:Nat} {m:Int} {v:Value} {qs:List Pr} (hx:X[i]? =some x) (h1:off=i*4+2):
  ((X.map DG).flatten++qs).take off++[Ap v (lens (MF x.e.Az m).length)]++((X.map DG).flatten++qs).drop (off+1)=((X.set i ⟨⟨x.e.num,x.e.BD,MF x.e.Az m,x.e.BL⟩,x.vh,v,x.vf⟩).map DG).flatten++qs:=by
 subst h1
 exact Ge (f:=DG) (qs:=qs) (y:=⟨⟨x.e.num,x.e.BD,MF x.e.Az m,x.e.BL⟩,x.vh,v,x.vf⟩) C_ hx (show 2<4 by decide) (p:=Ap v (lens (MF x.e.Az m).length)) rfl
theorem S3 {l:List AO} {AJ:Int} (h:¬FJ l AJ=0):EY l AJ=([],FJ l AJ):=by
 unfold FJ at h ⊢
 by_cases hN:CS l
 ·
  rw [if_pos hN] at h ⊢
  by_cases hg:AJ<0∨4000<AJ
  ·
   rw [if_pos hg] at h ⊢
   exact Prod.ext (by rw [KK hN hg]) (by rw [KK hN hg])
  · rw [if_neg hg] at h;exact absurd rfl h
 ·
  rw [if_neg hN] at h ⊢
  exact Prod.ext (by rw [KJ hN]) (by rw [KJ hN])
theorem Qw {l:List AO} {AJ:Int} (h:FJ l AJ=0):CS l∧¬(AJ<0∨4000<AJ):=by
 unfold FJ at h
 by_cases hN:CS l
 ·
  rw [if_pos hN] at h
  by_cases hg:AJ<0∨4000<AJ
  · rw [if_pos hg] at h;cases h
  · exact ⟨hN,hg⟩
 · rw [if_neg hN] at h;cases h
theorem S4 {l:List AO} {AJ:Int} {k b0:Nat} (hn:l.length≤400) (hk:k<l.length):Am Tryz.prog 48 [is (.pointer (some ⟨b0,0,none⟩)),int ((k:Nat):Int)] (int ((Aj l AJ k:Nat):Int)) (AB true b0 126 (arr (Hs l AJ l.length))) (fun _=>AB true b0 126 (arr (Hs l AJ l.length))):=by
 rw [←Pz hk]
 exact MJ (ML hn l.length (Nat.le_refl _)) (by omega)
theorem EO {l:List AO} {AJ:Int} (hf:∀f∈l,f.fits):Bb prog 12 [BL l,int AJ] (ER [Qs (EY l AJ).1,int (EY l AJ).2]):=by
 refine fo func12 rfl ⟨rfl,rfl⟩ fun M0 w0=>(Tr.HN 0 rfl fun G4=> ?_)
 refine a2 ?_
 refine co rfl (Jx (So (by assumption)) rfl rfl rfl) ?_
 refine ac ?_
 refine an ?_ ?_<;>intro h1 q1
 have hR:=S3 (l:=l) (AJ:=AJ) q1
 refine ac ?_
 refine Tr.ret (Fin.AK (Fin.JM rfl (C1.Ig _ _) rfl ?_ rfl ?_))
 · rw [hR];exact Ag 4
 · rw [hR];exact Lr
 obtain ⟨hN,hg⟩:=Qw (l:=l) (AJ:=AJ) q1
 have hd:=U2 hN
 have hlen:=hN.len
 have hn:l.length≤400:=by omega
 refine ac ?_
 refine ao ?_
 refine TO.pad ?_
 refine TO.QK 0 rfl rfl (by decide) (EH rfl rfl (by decide) rfl (Sr hd hn) ⟨ke rfl,ke rfl,trivial⟩) (fun v1=> ?_)
 refine TO.YP 22 0 _ rfl rfl (fun _=>rfl) (fun b1=> ?_)
 refine ao ?_
 refine ac ?_
 refine Tr.seq (Tr.Cl ?_)
 refine TO.WC Oo rfl rfl (by decide) rfl (fun b2=> ?_)
 refine ao ?_
 refine Ks 0 7 8 9 rfl ?_
 refine ac ?_
 refine Tr.block (Tr.Rr 55 4 (Tr.Rf [(7,_),(9,_),(24,_),(25,_)] ⟨ke rfl,ke rfl,ke rfl,ke rfl,trivial⟩ (fun (k:Nat) (X:List Df) v=>[(26,int ((k:Nat):Int)),(8,Ap v (lens ((X.map DG)).length))]) (fun (k:Nat) (X:List Df) v=>Hp M0 w0 O8 (Ak 55 4 ((X.map DG)) v::GM Oo b2 (S1 l AJ k)::AB true b1 126 (arr (Hs l AJ l.length))::Fe Nc X)) (fun (k:Nat) (X:List Df)=>k≤l.length∧X.map (·.e)=B8 l (Aj l AJ) k) (fun (k:Nat) (X:List Df)=>l.length-k) (0) ([]) (.slice none 0 0) (⟨Nat.zero_le _,rfl⟩) ⟨ke rfl,⟨_,rfl,Gz (by rfl)⟩,trivial⟩ (fun _ _ h=>h) ?_))
 rintro k X v ⟨GO,Yf⟩
 refine ac ?_
 refine Tr.seq ?_
 refine Tr.cn rfl ?_ ?_<;>intro h2 q2
 have A5:k<l.length:=A_ h2
 obtain ⟨f,A2⟩:=at_ A5
 have lQ:X.length≤k:=by have h9:=congrArg List.length Yf;rw [List.length_map,Ht] at h9;have:=LN (Aj l AJ) k;omega
 refine ac ?_
 refine ao ?_
 refine tp rfl (AL rfl underlying31 AH (vl rfl) (vl rfl) (by omega) (by exact BN (by assumption))) ?_
 refine tp rfl (At rfl Ac AH (vl rfl) rfl rfl) ?_
 refine Tl rfl rfl rfl rfl E6 GZ (fun b3=> ?_)
 refine tm rfl ?_
 refine sf 0 11 ⟨rfl,rfl,rfl⟩ rfl rfl rfl rfl ?_
 refine ao ?_
 refine Im 7 8 9 10 11 24 25 26 rfl ?_
 refine ao ?_
 refine TO.Dn 2 rfl rfl (by decide) (Ah rfl rfl (by decide) rfl (S4 hn A5) ⟨ke rfl,ke rfl,trivial⟩) ?_
 refine ao ?_
 refine Tr.UL [(7,_),(9,_),(10,_),(11,_),(12,_),(24,_),(25,_),(26,_)] ⟨ke rfl,ke rfl,ke rfl,ke rfl,ke rfl,ke rfl,ke rfl,ke rfl,trivial⟩ (fun (X:List Df) v=>[(8,Ap v (lens ((X.map DG)).length))]) (fun (X:List Df) v=>Hp M0 w0 O8 (Ak 55 4 ((X.map DG)) v::GM Oo b2 (S1 l AJ (k+1))::AB true b1 126 (arr (Hs l AJ l.length))::Fe Nc X)) (fun (X:List Df)=>X.map (·.e)=B8 l (Aj l AJ) k++if Aj l AJ k=k then [(⟨(k:Nat),[],[],[]⟩:Ir)] else []) ?_ ?_
 refine ac ?_
 refine C6 7 8 9 10 11 12 24 25 26 36 rfl ?_
 refine Tr.cn rfl ?_ ?_<;>intro h3 q3
 have hr:Aj l AJ k=k:=by have:=q3;omega
 refine ao ?_
 refine tp rfl (R5 rfl underlying35 (Kb rfl)) (TO.B4 1 rfl rfl (HT (((Aj l AJ k:Nat):Int)) F4 rfl rfl rfl (vl rfl) (vl rfl) (fun _ _ _ h=>h) (vl rfl)) ?_)
 refine ao ?_
 refine RB 7 8 9 10 11 12 24 25 26 rfl ?_
 refine ao ?_
 refine TO.QK 0 rfl rfl (by decide) (GA rfl rfl (by decide) rfl underlying35 EW dh bq rfl (by decide) (by decide) (vl rfl) ⟨_,rfl,Sx k⟩ (BU fun _=>rfl) (Nat.zero_lt_succ _) (by simp only [List.length_map,List.length_cons,List.length_nil];unfold maxLen;omega) (by simp only [List.length_map,List.length_cons,List.length_nil];omega)) (fun v2=> ?_)
 refine ao ?_
 have WU:(X.map DG).length=(B8 l (Aj l AJ) k).length:=by rw [List.length_map,←Yf,List.length_map]
 refine Fin.L4 (res:=Nc) [_,_,_] (Sv k) rfl (Sw k) ?_
 exact Fin.I4 (X++[Sv k]) v2 ((by rw [if_pos hr,List.map_append,Yf];rfl)) ⟨⟨_,rfl,GD (by simp)⟩,ke rfl,ke rfl,ke rfl,ke rfl,ke rfl,ke rfl,ke rfl,ke rfl,trivial⟩ ((by rw [P6 hr,←WU,List.map_append];exact fun _ _ h=>h))
 have hr:¬Aj l AJ k=k:=by have:=q3;omega
 refine Tr.skip ?_
 have WU:(X.map DG).length=(B8 l (Aj l AJ) k).length:=by rw [List.length_map,←Yf,List.length_map]
 exact Fin.I4 (X) v ((by rw [if_neg hr,Yf,List.append_nil])) ⟨⟨_,rfl,GD (by simp)⟩,ke rfl,ke rfl,ke rfl,ke rfl,ke rfl,ke rfl,ke rfl,ke rfl,trivial⟩ ((by rw [S2 hr];exact fun _ _ h=>h))
 rintro X v hX
 refine Tr.seq ?_
 obtain ⟨i,hir,CO⟩:=VD (AJ:=AJ) A5
 obtain ⟨x,hx,Yg⟩:=VE hX hir
 have bJ:i<X.length:=B9 hx
 have ck:(X.map DG).length=X.length:=List.length_map ..
 have hlk:(Cp.look (S1 l AJ (k+1)) ((Aj l AJ k:Nat):Int)).getD 0=((i:Nat):Int):=by rw [CO];rfl
 refine Tr.ZX (sz:=4) 0 rfl (by intro h0;rw [h0] at ck;simp at ck;omega) fun b4 Qx cq kM iX iY cr=> ?_
 subst kM
 have Vy:((X.map DG).flatten++cq.map is).length=Qx*4:=by rw [List.length_append,Bf (sz:=4) (BU C_),List.length_map,List.length_map,cr,←Nat.add_mul];congr 1;omega
 have X5:=P7 l (Aj l AJ) (Aj l AJ k) k
 have hel:=NU l (Aj l AJ) (Aj l AJ k) k
 rw [←Yg] at X5 hel
 have hmul:i*4+4≤Qx*4:=by have:=Nat.mul_le_mul_right 4 (show i+1≤Qx by omega);omega
 refine ao ?_
 refine TO.rd 1 rfl rfl rfl (by decide) (OJ (((Aj l AJ k:Nat):Int)) F4 rfl (vl rfl) (vl rfl) (fun _ _ _ h=>h)) (tp rfl (AA rfl underlying35 EW (Ka rfl) (vl rfl) (by omega) (by omega)) ?_)
 refine ao ?_
 refine RB 7 8 9 10 11 13 24 25 26 rfl (Tr.seq (Tr.weak [(13,ptr b4 (i*4)),(7,_),(8,_),(9,_),(10,_),(11,_),(24,_),(25,_),(26,_)] ⟨⟨_,rfl,Pr.le_of_eq (by rw [hlk,Int.toNat_natCast,Nat.zero_add])⟩,ke rfl,ke rfl,ke rfl,ke rfl,ke rfl,ke rfl,ke rfl,ke rfl,trivial⟩ (Tr.focus [_,_,_] hx rfl (Tr.pad (Tr.rx ?_)))))
 refine ax ?_
 refine CA 4 rfl rfl (CG rfl ID (vl rfl) ((HU C_ hx (by decide)).trans rfl)) ?_
 refine ax ?_
 refine Cx.ef 1 rfl rfl (by decide) (EH rfl rfl (by decide) rfl (Su (l:=x.e.BD) (x:=f.host) X5.1 (by omega)) ⟨ke rfl,ke rfl,trivial⟩) ?_
 refine ax ?_
 refine CA 4 rfl rfl (CG rfl Fo (vl rfl) ((HU C_ hx (by decide)).trans rfl)) (xm rfl (xo rfl (fun _=>Aw (xs:=[.tmp 64]) (rows:=[[_]]) rfl rfl underlying22 DB z3 rfl (by decide) ⟨⟨(by exact rfl),(Vo rfl)⟩,trivial⟩ (by decide)) ?_))
 refine Cx.ef 3 rfl rfl (by decide) (XH rfl rfl rfl rfl underlying22 DB Y5 z3 (Kb rfl) (Kf rfl) (PI (by exact List.Mem.head _) (Ka rfl))) ?_
 refine ax ?_
 refine Cx.B4 4 rfl rfl (HR rfl rfl rfl (vl rfl) rfl dg (by rw [Vy];omega)) ?_
 refine ax ?_
 refine Cx.B4 4 rfl rfl (Qb rfl rfl rfl (vl rfl) rfl Y6 (fun v=>by rw [VF (by rw [Vy];omega),Vy];omega)) ?_
 refine Cx.nil ⟨by kernel_rfl,?_⟩
 refine BT.Zb 1 3 4 59 66 rfl rfl rfl (by decide) (by decide) (by decide) (by decide) rfl rfl (fun v3 v4=> ?_)
 refine BT.done jg (Fin.go (Tr.drop 0 (Im 7 8 9 11 13 24 25 26 rfl (Tr.seq (Tr.XE 3 (((X.set i ⟨⟨x.e.num,Dd x.e.BD f.host,x.e.Az,x.e.BL++[((k:Nat):Int)]⟩,v3,x.vm,v4⟩).map DG).flatten++cq.map is) rfl (VG hx (by omega) (by omega) rfl) ?_)))))
 have hx1:(X.set i ⟨⟨x.e.num,Dd x.e.BD f.host,x.e.Az,x.e.BL++[((k:Nat):Int)]⟩,v3,x.vm,v4⟩)[i]? =some ⟨⟨x.e.num,Dd x.e.BD f.host,x.e.Az,x.e.BL++[((k:Nat):Int)]⟩,v3,x.vm,v4⟩:=by rw [List.getElem?_set,if_pos rfl,if_pos bJ]
 have gD:(((X.set i ⟨⟨x.e.num,Dd x.e.BD f.host,x.e.Az,x.e.BL++[((k:Nat):Int)]⟩,v3,x.vm,v4⟩).map DG).flatten++cq.map is).length=Qx*4:=by rw [List.length_append,Bf (sz:=4) (BU C_),List.length_map,List.length_set,List.length_map,cr,←Nat.add_mul];congr 1;omega
 refine an ?_ ?_<;>intro h4 q4
 refine Tr.rx ?_
 refine ax ?_
 refine CA 3 rfl rfl (CG rfl Fo (vl rfl) ((HU C_ hx1 (by decide)).trans rfl)) ?_
 refine ax ?_
 refine Cx.ef 1 rfl rfl (by decide) (EH rfl rfl (by decide) rfl (X4 (l:=x.e.Az) (x:=f.machine) X5.2 (by omega)) ⟨ke rfl,ke rfl,trivial⟩) ?_
 refine ax ?_
 refine Cx.B4 3 rfl rfl (HR rfl rfl rfl (vl rfl) rfl Y6 (by rw [gD];omega)) ?_
 refine Cx.nil ⟨by kernel_rfl,?_⟩
 refine BT.V2 1 3 81 rfl rfl (by decide) rfl (fun v5=> ?_)
 refine BT.done jf ?_
 refine ac ?_
 refine D_ 7 8 9 24 25 26 rfl ?_
 refine ac ?_
 refine Fin.XE 3 (((X.set i ⟨⟨x.e.num,Dd x.e.BD f.host,MF x.e.Az f.machine,x.e.BL++[((k:Nat):Int)]⟩,v3,v5,v4⟩).map DG).flatten++cq.map is) rfl ((VH (X:=X.set i ⟨⟨x.e.num,Dd x.e.BD f.host,x.e.Az,x.e.BL++[((k:Nat):Int)]⟩,v3,x.vm,v4⟩) hx1 (by omega)).trans (by rw [List.set_set])) ?_
 refine Fin.I_ (res:=Nc) [_,_,_] (⟨⟨x.e.num,Dd x.e.BD f.host,MF x.e.Az f.machine,x.e.BL++[((k:Nat):Int)]⟩,v3,v5,v4⟩:Df) bJ rfl ?_
 refine Fin.E_ (sz:=4) 0 rfl (m:=(X.map DG).length) (by simp) iX iY cr ?_
 exact Fin.PM (k+1) (X.set i ⟨⟨x.e.num,Dd x.e.BD f.host,MF x.e.Az f.machine,x.e.BL++[((k:Nat):Int)]⟩,v3,v5,v4⟩) (.slice (some ⟨b4,0,none⟩) (X.map DG).length Qx) (⟨⟨by omega,LO A2 hX hir Yg (by unfold F2;rw [if_neg (by assumption)])⟩,by omega⟩) ⟨⟨_,rfl,Ad k⟩,⟨_,rfl,GD (by simp)⟩,ke rfl,ke rfl,ke rfl,ke rfl,trivial⟩ (fun _ _ h=>h)
 refine a2 ?_
 refine Fin.I_ (res:=Nc) [_,_,_] (⟨⟨x.e.num,Dd x.e.BD f.host,x.e.Az,x.e.BL++[((k:Nat):Int)]⟩,v3,x.vm,v4⟩:Df) bJ rfl ?_
 refine Fin.E_ (sz:=4) 0 rfl (m:=(X.map DG).length) (by simp) iX iY cr ?_
 exact Fin.PM (k+1) (X.set i ⟨⟨x.e.num,Dd x.e.BD f.host,x.e.Az,x.e.BL++[((k:Nat):Int)]⟩,v3,x.vm,v4⟩) (.slice (some ⟨b4,0,none⟩) (X.map DG).length Qx) (⟨⟨by omega,LO A2 hX hir Yg (by unfold F2;rw [if_pos (by assumption)])⟩,by omega⟩) ⟨⟨_,rfl,Ad k⟩,⟨_,rfl,GD (by simp)⟩,ke rfl,ke rfl,ke rfl,ke rfl,trivial⟩ (fun _ _ h=>h)
 obtain rfl:k=l.length:=(by have:=BA h2;omega)
 refine ac ?_
 refine Tr.seq (Tr.Jw (Φ:=Sy) (f:=DG) (g:=bI) (d:=8) [_,_] rfl rfl C_ (fun _=>rfl) VC (fun x rs M w=>Sz x rs M w) S0 ?_)
 refine ac ?_
 refine Tr.ret (Fin.JM rfl (C1.Ig _ _) rfl ?_ rfl ?_)
 · rw [FH hN (by omega)];exact Pr.le_trans (Bj _ _) (Pr.le_of_eq (by show slice 4 _=slice 4 ((B8 l (Aj l AJ) l.length).map Xq);rw [←Yf,List.map_map];rfl))
 · rw [FH hN (by omega)];exact Lr
end Go.Proofs.YtgilhkjlfongoaaGreat
namespace Go.Proofs.YtgilhkjlfongoaaGreat
open Go Go.RowKit Cp Go.ChangeShapes Go.WideShapes Go.ChangeAt Go.Proofs.Tryz
theorem gE:ownKnob Tryz.prog.godebug=none:=by kernel_rfl
theorem S5:laidOutB Tryz.prog=true:=by kernel_rfl
theorem u8_in {n:Int} (h:(Lit.int .u8 n).wf=true):0≤n∧n<256:=by
 simp only [Lit.wf,Bool.and_eq_true,decide_eq_true_eq] at h
 have h1:IntKind.u8.min=0:=rfl
 have h2:IntKind.u8.max=255:=rfl
 omega
theorem i64_in {n:Int} (h:(Lit.int .i64 n).wf=true):CR n:=by
 simp only [Lit.wf,Bool.and_eq_true,decide_eq_true_eq] at h
 have h1:IntKind.i64.min= -9223372036854775808:=rfl
 have h2:IntKind.i64.max=9223372036854775807:=rfl
 unfold CR;omega
abbrev bF:AO:=⟨1,[97],1,3,9,4,[115],0,0,1,[]⟩
abbrev bG:AO:=⟨1,[97],0,5,9,4,[115],0,0,1,[]⟩
theorem P8:∀f∈[bF,bG],BB f=true:=by decide+kernel
theorem S6:∀f∈[bG,bF],f.fits:=by
 intro f hf
 simp at hf
 rcases hf with rfl|rfl<;>exact ⟨by simp [maxLen],by simp [maxLen],by simp [maxLen]⟩
theorem S7:[bF,bG].foldl C8 []=[bG,bF]:=by kernel_rfl
theorem P9:CS [bG,bF]:=by have:=Pu P8 (by simp);rwa [S7] at this
theorem VI:Bb Tryz.prog 45 [BL [bF,bG]] (ER [BL [bG,bF],int 0]):=by
 have:=Ql (l:=[bF,bG]) P8 (by simp);rwa [S7] at this
theorem KP (l:List AO) {r1 r2:Nat→Nat} (r:Nat):∀n,(∀i,i<n→r1 i=r2 i)→CV l r1 r n=CV l r2 r n
 |0,_=>rfl
 |n+1,h=>by unfold CV;rw [KP l r n (fun i hi=>h i (by omega)),h n (by omega)]
theorem IX (l:List AO) {r1 r2:Nat→Nat} (n:Nat) (h:∀i,i<n→r1 i=r2 i):B8 l r1 n=B8 l r2 n:=by
 unfold B8
 have e:Be r1 n=Be r2 n:=by
  unfold Be
  refine List.filter_congr fun i hi=> ?_
  rw [h i (List.mem_range.1 hi)]
 rw [e]
 exact List.map_congr_left fun r _=>KP l r n h
theorem Nd (l:List AO) (AJ:Int):G_ l AJ=B8 l (RR l AJ l.length) l.length:=IX l l.length fun i hi=>(Pz hi).symm
theorem VJ:G_ [bG,bF] 2=[⟨0,[[97]],[1],[0,1]⟩]:=by rw [Nd];decide+kernel
theorem VK:G_ [bG,bF] 1=[⟨0,[[97]],[],[0]⟩,⟨1,[[97]],[1],[1]⟩]:=by rw [Nd];decide+kernel
theorem VM:Bb Tryz.prog 12 [BL [bG,bF],int 2] (ER [Qs [⟨0,[[97]],[1],[0,1]⟩],int 0]):=by
 have:=EO (l:=[bG,bF]) (AJ:=2) S6;rwa [FH P9 (by omega),VJ] at this
theorem VN:Bb Tryz.prog 12 [BL [bG,bF],int 1] (ER [Qs [⟨0,[[97]],[],[0]⟩,⟨1,[[97]],[1],[1]⟩],int 0]):=by
 have:=EO (l:=[bG,bF]) (AJ:=1) S6;rwa [FH P9 (by omega),VK] at this
theorem LP   :Bb prog 7 [] (bool true):=by
 refine Bb.of func7 rfl rfl (by exact Nb rfl) fun M0 w0=> ?_
 refine Tr.seq (Tr.BK (cm rfl (Ch.nil (Fin.go (Tr.seq (Tr.Cl (tp rfl (A8 (rows:=[(0,[_]),(1,[_]),(2,[_]),(3,[_]),(4,[_]),(5,[_]),(6,[_]),(8,[_])]) rfl Y7 GZ ⟨⟨rfl,(Vo rfl)⟩,⟨⟨rfl,(Vo rfl)⟩,⟨⟨rfl,(Vo rfl)⟩,⟨⟨rfl,(Vo rfl)⟩,⟨⟨rfl,(Vo rfl)⟩,⟨⟨rfl,(Vo rfl)⟩,⟨⟨rfl,(Vo rfl)⟩,⟨⟨rfl,(Vo rfl)⟩,trivial⟩⟩⟩⟩⟩⟩⟩⟩ rfl) ?_)))))))
 refine Tl rfl rfl rfl rfl E6 GZ (fun b1=> ?_)
 refine TO.CW 0 rfl rfl rfl (vl rfl) (Va rfl) rfl AH rfl rfl (TO.freeze 0 1 rfl rfl (TO.nil (Fin.go (Tr.seq (Tr.Cl (tp rfl (At rfl Ac AH (vl rfl) rfl rfl) ?_))))))
 refine Tl rfl rfl rfl rfl E6 GZ (fun b2=> ?_)
 refine TO.CW 0 rfl rfl rfl (vl rfl) (Va rfl) rfl AH rfl rfl (TO.nil (Fin.go (Tr.seq (Tr.Cl (tp rfl (BW rfl Lq (vl rfl)) (TO.B4 0 rfl rfl (AU rfl rfl (vl rfl) (Vo rfl) DB rfl (by exact Nb rfl) rfl) (tp rfl (BW rfl Ga (vl rfl)) (TO.B4 0 rfl rfl (AU rfl rfl (vl rfl) (Vo rfl) DB rfl (by exact Nb rfl) rfl) (TO.nil (Fin.go (Tr.seq (Tr.BK (co rfl (At rfl Ac AH (vl rfl) rfl rfl) ?_)))))))))))))
 refine co rfl (Ai 0 rfl (AE rfl Ac AH (vl rfl) rfl rfl)) (co rfl (Aw (xs:=[.tmp 14,.tmp 15]) (rows:=[_,_]) rfl rfl underlying31 AH E6 rfl (by decide) ⟨⟨(by exact rfl),(Va rfl)⟩,⟨⟨(by exact rfl),(Va rfl)⟩,trivial⟩⟩ (by decide)) ?_)
 refine co rfl (Aq rfl (VI) ⟨(Kf rfl),trivial⟩) (cm rfl (co rfl (Ay rfl (vl rfl) rfl) (co rfl (Ay rfl (vl rfl) rfl) (cm rfl (cm rfl (Ch.nil (Fin.go (Tr.drop 0 (Cc 3 rfl (Tr.seq (Tr.BK (cm rfl (co rfl (Aq rfl (VM) ⟨ke rfl,ke rfl,trivial⟩) ?_)))))))))))))
 refine cm rfl (co rfl (Ay rfl (vl rfl) rfl) (co rfl (Ay rfl (vl rfl) rfl) (cm rfl (cm rfl (Ch.nil (Fin.go (Tr.seq (Tr.BK (cm rfl (co rfl (Aq rfl (VN) ⟨ke rfl,ke rfl,trivial⟩) (cm rfl (co rfl (Ay rfl (vl rfl) rfl) (co rfl (Ay rfl (vl rfl) rfl) ?_)))))))))))))
 refine cm rfl (cm rfl (Ch.nil (Fin.go (Ks 5 6 7 8 rfl (Tr.seq (Tr.BK (cm rfl (co rfl (ki rfl rfl rfl rfl) (cm rfl ?_)))))))))
 refine Ch.cs 32 rfl ?_ ?_<;>intro h1 q1
 refine CZ h1 rfl (cy h1 rfl (ki rfl rfl rfl rfl) (co rfl (KV rfl rfl h1 rfl) (cm rfl ?_)))
 refine Ch.cs 36 rfl ?_ ?_<;>intro h2 q2
 refine CZ h2 rfl (cy h2 rfl (Bi rfl underlying35 (vl rfl)) (cy h2 rfl (ki rfl rfl rfl rfl) (co rfl (KV rfl rfl h2 rfl) (cm rfl ?_))))
 refine Ch.cs 41 rfl ?_ ?_<;>intro h3 q3
 refine CZ h3 rfl (cy h3 rfl (Bi rfl underlying35 (vl rfl)) (cy h3 rfl (ki rfl rfl rfl rfl) (co rfl (KV rfl rfl h3 rfl) (cm rfl ?_))))
 refine Ch.cs 46 rfl ?_ ?_<;>intro h4 q4
 refine CZ h4 rfl (cy h4 rfl (Aq rfl (bB) ⟨ke rfl,ke rfl,trivial⟩) (cy h4 rfl (ki rfl rfl rfl rfl) (co rfl (KV rfl rfl h4 rfl) (cm rfl (Ch.nil (Fin.go (Cc 0 rfl (Tr.ret (Fin.KY rfl (C1.Ig _ _) rfl ?_)))))))))
 · exact bool_eq (by decide+kernel)
 exfalso;simp at h4
 exfalso;simp at h3
 exfalso;simp at h2
 exfalso;simp at h1
end Go.Proofs.YtgilhkjlfongoaaGreat
namespace Go.Proofs.YtgilhkjlfongoaaGreat
open Go Go.RowKit Cp Go.Proofs.Tryz
section
variable {l:List AO} {AJ:Int} {root:Nat→Nat}
theorem Nf {r:Nat} {v:Int}:∀{n:Nat},n≤l.length→(v∈(CV l root r n).BL↔∃j:Nat,j<n∧root j=r∧v=(j:Nat))
 |0,_=>by simp [CV]
 |n+1,hn=>by
  obtain ⟨f,hf⟩:=at_ (l:=l) (k:=n) (by omega)
  have ih:=Nf (r:=r) (v:=v) (n:=n) (by omega)
  by_cases h:root n=r
  ·
   rw [KH hf h]
   show v∈_++[_]↔_
   rw [List.mem_append,ih,List.mem_singleton]
   constructor
   ·
    rintro (⟨j,h1,h2,h3⟩|h1)
    · exact ⟨j,by omega,h2,h3⟩
    · exact ⟨n,by omega,h,h1⟩
   ·
    rintro ⟨j,h1,h2,h3⟩
    rcases Nat.lt_or_eq_of_le (Nat.le_of_lt_succ h1) with h4|h4
    · exact .inl ⟨j,h4,h2,h3⟩
    · subst h4;exact .inr h3
  ·
   rw [MG h,ih]
   constructor
   · rintro ⟨j,h1,h2,h3⟩;exact ⟨j,by omega,h2,h3⟩
   ·
    rintro ⟨j,h1,h2,h3⟩
    rcases Nat.lt_or_eq_of_le (Nat.le_of_lt_succ h1) with h4|h4
    · exact ⟨j,h4,h2,h3⟩
    · subst h4;exact absurd h2 h
theorem VO {e:Ir} {n':Nat} (h:e∈B8 l root n'):∃r,r<n'∧root r=r∧e=CV l root r n':=by
 unfold B8 at h
 rw [List.mem_map] at h
 obtain ⟨r,h1,h2⟩:=h
 exact ⟨r,(Ho h1).1,(Ho h1).2,h2.symm⟩
end
abbrev X6 (n:Nat):={v:Int//0≤v∧v<n}
theorem VP {n:Nat} {l:List Int} (h:∀v∈l,0≤v∧v<n):∃L:List (X6 n),L.map (·.1)=l:=
 ⟨l.attach.map fun x=>⟨x.1,h x.1 x.2⟩,by rw [List.map_map];exact List.attach_map_subtype_val l⟩
def HA (l:List AO) (p:AO→Bool) (v:Int):Bool:=match l[v.toNat]? with|some f=>p f|none=>false
theorem X7 {l:List AO} {p:AO→Bool} {v:Int} {f:AO} (h:l[v.toNat]? =some f):HA l p v=p f:=by unfold HA;rw [h]
def F5 (l:List AO) (E:List Ir) (p:AO→Bool):List Int:=(E.filter fun e=>e.BL.any fun v=>HA l p v).map (·.num)
theorem LQ {l:List AO} {E:List Ir} {p:AO→Bool} {k:Nat} {x:Ir} (hx:E[k]? =some x):F5 l (E.take (k+1)) p=F5 l (E.take k) p++if (x.BL.any fun v=>HA l p v) then [x.num] else []:=by
 unfold F5
 rw [List.take_add_one,hx,List.filter_append,List.map_append]
 congr 1
 show (List.filter _ [x]).map _=_
 by_cases h:(x.BL.any fun v=>HA l p v)=true<;>simp [h]
abbrev HB (host:List UInt8) (day:Int) (g:AO):Bool:=decide (g.host=host)&&decide (g.day=day)
noncomputable def Hu (l:List AO) (AJ:Int) (host:List UInt8) (day:Int):List Int×Int:=if (EY l AJ).2=0 then (F5 l (EY l AJ).1 (HB host day),0) else ([],(EY l AJ).2)
theorem KQ (l:List AO) (AJ:Int):(CS l∧EY l AJ=(G_ l AJ,0))∨((EY l AJ).1=[]∧¬(EY l AJ).2=0):=by
 by_cases hN:CS l
 ·
  by_cases hg:AJ<0∨4000<AJ
  · right;rw [KK hN hg];exact ⟨rfl,by show ¬(2:Int)=0;omega⟩
  · left;exact ⟨hN,FH hN (by omega)⟩
 · right;rw [KJ hN];exact ⟨rfl,by show ¬(24:Int)=0;omega⟩
theorem VQ (l:List AO) (AJ:Int):∀e∈(EY l AJ).1,∀v∈e.BL,0≤v∧v<(l.length:Nat):=by
 intro e he v hv
 rcases KQ l AJ with ⟨_,h⟩|⟨h,_⟩
 ·
  rw [h] at he
  obtain ⟨r,_,_,rfl⟩:=VO he
  obtain ⟨j,h1,_,h3⟩:=(Nf (Nat.le_refl _)).1 hv
  omega
 · rw [h] at he;simp at he
theorem S8 {l:List AO} {E:List Ir} {p:AO→Bool}:(F5 l E p).length≤E.length:=by
 unfold F5;rw [List.length_map];exact List.length_filter_le _ _
theorem Qy (l:List AO) (AJ:Int):(EY l AJ).1.length≤400:=by
 rcases KQ l AJ with ⟨hN,h⟩|⟨h,_⟩
 ·
  rw [h]
  show (G_ l AJ).length≤400
  unfold G_
  rw [Ht]
  have:=LN (Aj l AJ) l.length
  have:=hN.len
  omega
 · rw [h];simp
theorem MP {n:Nat} {l:List (X6 n)} {p:X6 n→Bool}  :Bb prog 131 [slice 1 (l.map fun x=>[int x.1]),Dh prog (fun x:X6 n=>[int x.1]) (fun x=>bool (p x))] (int (idx p l)):=by
 refine fo func131 rfl ⟨rfl,rfl⟩ fun M0 w0=>(Tr.HN 0 rfl fun G4=> ?_)
 refine a2 ?_
 refine Tr.block (Tr.BX [(0,_),(1,_),(7,_)] (QN rfl) (fun k:Nat=>[(8,int ((k:Nat):Int))]) (fun k:Nat=>k≤(l).length∧(∀j y,j<k→l[j]? =some y→p y=false)) (fun k:Nat=>(l).length-k) 0 (⟨Nat.zero_le _,fun j y hj=>absurd hj (by omega)⟩) ⟨ke rfl,trivial⟩ ?_)
 rintro k ⟨DH,A0⟩
 refine ac ?_
 refine Tr.seq ?_
 refine Tr.cn rfl ?_ ?_<;>intro h1 q1
 have A5:k<(l).length:=A_ h1
 obtain ⟨x,A2⟩:=at_ A5
 · repeat' first|exact int_eq (HW A2 (by assumption) A0)|exact Fin.AF (k+1) ⟨⟨A5,FB A2 (by assumption) A0⟩,by omega⟩ ⟨⟨_,rfl,Ad k⟩,ke rfl,ke rfl,ke rfl,trivial⟩|refine co rfl (AL rfl underlying22 DB (vl rfl) (vl rfl) (by omega) (by exact BN (by assumption))) ?_|refine co rfl (I2 rfl CE rfl) (co rfl (Af x rfl (vl rfl) ⟨ke rfl,trivial⟩) ?_)|refine ac ?_|(refine Tr.cn rfl ?_ ?_<;>intro h q)
 have CK:k=(l).length:=by have:=BA h1;omega
 subst CK
 refine a3 ?_
 · exact int_eq (Jy A0)
theorem Iu {n:Nat} {l:List (X6 n)} {p:X6 n→Bool}  :Bb prog 102 [slice 1 (l.map fun x=>[int x.1]),Dh prog (fun x:X6 n=>[int x.1]) (fun x=>bool (p x))] (bool (l.any p)):=by
 refine fo func102 rfl ⟨rfl,rfl⟩ fun M0 w0=> ?_
 refine a2 ?_
 refine co rfl (Jx (MP) rfl rfl rfl) ?_
 refine a2 ?_
 · exact bool_eq (Ph p l)
theorem VR {l:List AO} {p:AO→Bool} {v:Int} (h0:0≤v) (hv:v<(l.length:Nat)):Bb prog 103 [int v,ref [Dh prog (fun f:AO=>[agg (AR f)]) (fun f=>bool (p f))],ref [BL l]] (bool (HA l p v)):=by
 refine fo func103 rfl ⟨rfl,rfl⟩ fun M0 w0=> ?_
 obtain ⟨f,hf⟩:=at_ (l:=l) (k:=v.toNat) (by omega)
 refine a2 ?_
 refine co rfl (AL rfl underlying31 AH (vl rfl) (vl rfl) (by omega) (CD hf)) (co rfl (At rfl Ac AH (vl rfl) rfl rfl) (co rfl (Af f rfl (vl rfl) ⟨ke rfl,trivial⟩) ?_))
 refine a2 ?_
 · exact bool_eq (X7 hf).symm
theorem VS:Entry Tryz.prog 103:=⟨_,Tryz.func103,rfl,rfl⟩
theorem X8 {l:List AO} {E:List Ir} {p:AO→Bool} (hE:∀e∈E,∀v∈e.BL,0≤v∧v<(l.length:Nat)) (hn:E.length≤400):Bb prog 60 [BL l,Qs E,Dh prog (fun f:AO=>[agg (AR f)]) (fun f=>bool (p f))] (ints (F5 l E p)):=by
 refine fo func60 rfl ⟨rfl,rfl⟩ fun M0 w0=>(Tr.HN 1 rfl fun Z9=> ?_)
 refine a3 ?_
 refine Tr.block (Tr.RX 3 1 (Tr.Wf [(3,_),(5,_),(10,_),(11,_)] ⟨ke rfl,ke rfl,ke rfl,ke rfl,trivial⟩ (fun k v=>[(12,int ((k:Nat):Int)),(7,Ap v (ints (F5 l (E.take k) p)))]) (fun k v=>Hp M0 w0 O8 ([BR 3 1 v])) (fun k:Nat=>k≤(E).length) (fun k:Nat=>(E).length-k) 0 (.slice none 0 0) (Nat.zero_le _) ⟨ke rfl,⟨_,rfl,PK rfl⟩,trivial⟩ (fun _ _ h=>h) ?_))
 rintro k v DH
 refine ac ?_
 refine Tr.seq ?_
 refine Tr.cn rfl ?_ ?_<;>intro h1 q1
 have A5:k<(E).length:=A_ h1
 obtain ⟨x,A2⟩:=at_ A5
 obtain ⟨L,hL⟩:=VP (hE x (List.mem_of_getElem? A2))
 have kN:=S8 (l:=l) (E:=E.take k) (p:=p)
 rw [List.length_take] at kN
 refine ac ?_
 refine Tr.seq (Tr.block (Tr.seq (Tr.Cl (tp rfl (AL rfl underlying35 EW (vl rfl) (vl rfl) (by omega) (by exact BN (by assumption))) ?_))))
 refine tp rfl (At rfl V3 EW (vl rfl) rfl rfl) ?_
 refine Tl rfl rfl rfl rfl bq T3 (fun b1=> ?_)
 refine sf 0 9 ⟨rfl,rfl,rfl⟩ rfl rfl rfl rfl ?_
 refine ao ?_
 refine ac ?_
 refine co rfl (Aq rfl (Iu (l:=L) (p:=fun y=>HA l p y.1)) ⟨⟨_,rfl,Pr.le_of_eq (by rw [←hL];unfold ints;rw [List.map_map];rfl)⟩,⟨_,rfl,BJ VS (fun y=>VR y.2.1 y.2.2)⟩,trivial⟩) ?_
 refine ac ?_
 refine Im 3 5 7 9 10 11 12 19 rfl ?_
 refine Tr.cn rfl ?_ ?_<;>intro h2 q2
 rw [show (L.any fun y=>HA l p y.1)=(x.BL.any fun v=>HA l p v) by rw [←hL,List.any_map];rfl] at h2
 have hst:=LQ (l:=l) (p:=p) A2
 rw [if_pos h2] at hst
 refine ao ?_
 refine TO.QK 0 rfl rfl (by decide) (XH rfl rfl rfl rfl underlying22 DB Y5 z3 (Kb rfl) (Kf rfl) (PI (by exact List.Mem.head _) (Ka rfl))) (fun v1=> ?_)
 refine ao ?_
 refine D_ 3 5 7 10 11 12 rfl ?_
 refine ac ?_
 exact Fin.Vz (k+1) v1 (⟨A5,by omega⟩) ⟨⟨_,rfl,Ad k⟩,⟨_,rfl,RZ (by rw [hst,List.map_append];rfl)⟩,ke rfl,ke rfl,ke rfl,ke rfl,trivial⟩ (fun _ _ h=>h)
 rw [show (L.any fun y=>HA l p y.1)=(x.BL.any fun v=>HA l p v) by rw [←hL,List.any_map];rfl] at h2
 have hst:=LQ (l:=l) (p:=p) A2
 rw [if_neg (by rw [h2];decide),List.append_nil] at hst
 refine a2 ?_
 exact Fin.Vz (k+1) v (⟨A5,by omega⟩) ⟨⟨_,rfl,Ad k⟩,⟨_,rfl,RZ (by rw [hst])⟩,ke rfl,ke rfl,ke rfl,ke rfl,trivial⟩ (fun _ _ h=>h)
 have CK:k=(E).length:=by have:=BA h1;omega
 subst CK
 rw [List.take_length]
 refine a3 ?_
 · exact Bj _ _
theorem S9 {g:AO} {host:List UInt8} {day:Int}  :Bb prog 61 [agg (AR g),ref [str host],ref [int day]] (bool (HB host day g)):=by
 refine fo func61 rfl ⟨rfl,rfl⟩ fun M0 w0=> ?_
 · repeat' first|(refine bool_eq ?_;unfold HB;rw [Bool.eq_iff_iff];simp_all)|refine ac ?_|(refine Ch.cg rfl rfl rfl ?_ ?_<;>intro h q)
theorem S_:Entry Tryz.prog 61:=⟨_,Tryz.func61,rfl,rfl⟩
theorem TC {l:List AO} {AJ day:Int} {host:List UInt8} (hf:∀f∈l,f.fits):Bb prog 17 [BL l,int AJ,str host,int day] (ER [ints (Hu l AJ host day).1,int (Hu l AJ host day).2]):=by
 refine fo func17 rfl ⟨rfl,rfl⟩ fun M0 w0=> ?_
 refine a2 ?_
 refine co rfl (Jx (EO (by assumption)) rfl rfl rfl) ?_
 refine a2 ?_
 refine D_ 0 6 7 10 11 19 rfl ?_
 refine Tr.cn rfl ?_ ?_<;>intro h1 q1
 have gF:¬(EY l AJ).2=0:=q1
 have hR:Hu l AJ host day=([],(EY l AJ).2):=if_neg gF
 refine ac ?_
 refine Tr.ret (Fin.AK (Fin.JM rfl (C1.Ig _ _) rfl ?_ rfl ?_))
 · rw [hR];exact Ag 1
 · rw [hR];exact Lr
 have gF:(EY l AJ).2=0:=q1
 have hin:=VQ l AJ
 have Dc:=Qy l AJ
 have hR:Hu l AJ host day=(F5 l (EY l AJ).1 (HB host day),0):=if_pos gF
 refine a2 ?_
 refine co rfl (Aq rfl (X8 (p:=HB host day) hin Dc) ⟨ke rfl,ke rfl,⟨_,rfl,BJ S_ (fun g=>S9)⟩,trivial⟩) ?_
 refine ac ?_
 refine Tr.ret (Fin.JM rfl (C1.Ig _ _) rfl ?_ rfl ?_)
 · rw [hR];exact Lr
 · rw [hR];exact Lr
structure Ax where
 D8:Int
 day:Int
 BD:List (List UInt8)
deriving DecidableEq
abbrev AM (x:Ax):List Pr:=[int x.D8,int x.day,strs x.BD]
abbrev X9 (l:List Ax):Pr:=slice 3 (l.map AM)
def Cb (a b:Ax):Int:=FE [An a.D8 b.D8,An a.day b.day]
theorem Cw:HY Cb:=by
 have:=(CX.on Ax.D8).cons ((CX.on Ax.day).cons (HY.nil (α:=Ax)))
 exact this
theorem KR (a b:Ax):Cb a b=if An a.D8 b.D8=0 then (if An a.day b.day=0 then 0 else An a.day b.day) else An a.D8 b.D8:=rfl
theorem KS {a b:Ax}:Cb a b=0↔a.D8=b.D8∧a.day=b.day:=by
 rw [KR];unfold An
 (repeat' split)<;>omega
def CN (f:AO) (x:Ax):Bool:=decide (x.D8=f.machine∧x.day=f.day)
abbrev FX (x:Ax) (f:AO):Ax:=⟨x.D8,x.day,Dd x.BD f.host⟩
def Dg (f:AO) (x:Ax):Ax:=if CN f x then FX x f else x
def FK (f:AO) (l:List Ax):Bool:=l.any (CN f)
abbrev HC (f:AO):Ax:=⟨f.machine,f.day,[]⟩
def Qz (l:List Ax) (f:AO):List Ax:=if FK f l then l else DF Cb l (HC f)
def Es (l:List Ax) (f:AO):List Ax:=if FK f l then l else l++[HC f]
def KT (l:List Ax) (f:AO):List Ax:=if f.machine=0 then l else (Qz l f).map (Dg f)
def DN (l:List Ax) (f:AO):List Ax:=if f.machine=0 then l else (Es l f).map (Dg f)
abbrev D9 (x:Ax):Bool:=decide (1<x.BD.length)
def Ot (l:List AO):List Ax:=(l.foldl KT []).filter D9
theorem Ng (f:AO) (x:Ax):(Dg f x).D8=x.D8∧(Dg f x).day=x.day:=by unfold Dg;split<;>exact ⟨rfl,rfl⟩
theorem TD (f:AO) (x y:Ax):Cb (Dg f x) (Dg f y)=Cb x y:=by
 obtain ⟨h1,h2⟩:=Ng f x
 obtain ⟨h3,h4⟩:=Ng f y
 rw [KR,KR,h1,h2,h3,h4]
theorem MQ {f:AO} {l:List Ax} (h:FK f l=false):∀y∈l,¬Cb y (HC f)=0:=by
 intro y hy h0
 unfold FK at h
 rw [List.any_eq_false] at h
 exact h y hy (by unfold CN;rw [decide_eq_true_eq];exact KS.1 h0)
theorem FL {x:Ax}:∀{l:List Ax},(∀y∈l,¬Cb y x=0)→(DF Cb l x).Perm (l++[x])
 |[],_=>List.Perm.refl _
 |y::r,hn=>by
  unfold DF
  have hy:=hn y (List.mem_cons_self ..)
  by_cases hlt:Cb y x<0
  · rw [if_pos hlt];exact List.Perm.cons y (FL fun z hz=>hn z (List.mem_cons_of_mem _ hz))
  ·
   rw [if_neg hlt,if_neg hy]
   exact List.perm_append_comm (l₁:=[x]) (l₂:=y::r)
abbrev DA (l:List Ax):Prop:=l.Pairwise fun a b=>Cb a b<0
theorem HD {x:Ax}:∀{l:List Ax},DA l→(∀y∈l,¬Cb y x=0)→DA (DF Cb l x)
 |[],_,_=>by unfold DF;exact List.pairwise_singleton _ _
 |y::r,h,hn=>by
  unfold DF
  obtain ⟨h1,h2⟩:=List.pairwise_cons.1 h
  have hy:=hn y (List.mem_cons_self ..)
  have hr:∀z∈r,¬Cb z x=0:=fun z hz=>hn z (List.mem_cons_of_mem _ hz)
  by_cases hlt:Cb y x<0
  ·
   rw [if_pos hlt]
   refine List.pairwise_cons.2 ⟨fun z hz=> ?_,HD h2 hr⟩
   have hz:=(FL hr).mem_iff.1 hz
   rw [List.mem_append,List.mem_singleton] at hz
   rcases hz with hz|rfl
   · exact h1 z hz
   · exact hlt
  ·
   rw [if_neg hlt,if_neg hy]
   have hxy:Cb x y<0:=by have:=Cw.swap y x;omega
   refine List.pairwise_cons.2 ⟨fun z hz=> ?_,h⟩
   rcases List.mem_cons.1 hz with rfl|hz
   · exact hxy
   · exact Cw.tr _ _ _ hxy (h1 z hz)
theorem Nh {l:List Ax} {f:AO} (h:DA l):DA (Qz l f):=by
 unfold Qz
 cases hk:FK f l with
 |true=>exact h
 |false=>exact HD h (MQ hk)
theorem Ni {l:List Ax} {f:AO} (h:DA l):DA (l.map (Dg f)):=List.pairwise_map.2 (h.imp fun {a b} hab=>by rw [TD];exact hab)
theorem Nj {l:List Ax} {f:AO} (h:DA l):DA (KT l f):=by
 unfold KT;split
 · exact h
 · exact Ni (Nh h)
theorem FM:∀(l:List AO) (acc:List Ax),DA acc→DA (l.foldl KT acc)
 |[],_,h=>h
 |f::l,acc,h=>FM l _ (Nj h)
theorem TE {l m:List Ax} {f:AO} (h:l.Perm m):(Es l f).Perm (Qz m f):=by
 have e:FK f l=FK f m:=h.any_eq
 unfold Es Qz
 rw [e]
 cases hk:FK f m with
 |true=>exact h
 |false=>exact (h.append_right _).trans (FL (MQ hk)).symm
theorem TG {l m:List Ax} {f:AO} (h:l.Perm m):(DN l f).Perm (KT m f):=by
 unfold DN KT;split
 · exact h
 · exact (TE h).map _
theorem Et:∀(l:List AO) (a b:List Ax),a.Perm b→(l.foldl DN a).Perm (l.foldl KT b)
 |[],_,_,h=>h
 |_::l,_,_,h=>Et l _ _ (TG h)
theorem Ou {l:List Ax} (h:DA l) {x y:Ax} (hx:x∈l) (hy:y∈l) (h0:Cb x y=0):x=y:=by
 obtain ⟨i,hi,rfl⟩:=List.mem_iff_getElem.1 hx
 obtain ⟨j,hj,rfl⟩:=List.mem_iff_getElem.1 hy
 have hp:=List.pairwise_iff_getElem.1 h
 rcases Nat.lt_trichotomy i j with hij|hij|hij
 · have:=hp i j hi hj hij;omega
 · subst hij;rfl
 ·
  have:=hp j i hj hi hij
  have h3:=Cw.swap l[i] l[j]
  omega
theorem Ov {l:List AO} {st:List Ax} (hp:st.Perm ((l.foldl DN []).filter D9)) (hs:EL Cb st):st=Ot l:=by
 have hS:=(FM l [] .nil).filter D9
 have I7:st.Perm (Ot l):=hp.trans ((Et l [] [] (List.Perm.refl _)).filter _)
 exact IM Cw I7 hs (hS.imp fun h=>Int.le_of_lt h) fun x y hx hy e=>Ou hS (I7.mem_iff.1 hx) (I7.mem_iff.1 hy) e
abbrev X_ (l:List Ax):Prop:=l.Pairwise fun a b=>¬Cb a b=0
theorem Q0 (l:List AO):X_ (l.foldl DN []):=by
 have h:=Et l [] [] (List.Perm.refl _)
 refine (h.pairwise_iff (fun {a b} hab h0=>hab (by have:=Cw.swap a b;omega))).2 ?_
 exact (FM l [] .nil).imp fun h0=>by omega
theorem FN {α β:Type} (g:β→α→β) (a:β) {l:List α} {k:Nat} {x:α} (h:l[k]? =some x):(l.take (k+1)).foldl g a=g ((l.take k).foldl g a) x:=by
 rw [List.take_add_one,h,List.foldl_append];rfl
theorem TH (l:List Ax) (f:AO):(DN l f).length≤l.length+1:=by
 unfold DN;split
 · omega
 · rw [List.length_map];unfold Es;split<;>simp
theorem LR:∀(l:List AO) (a:List Ax),(l.foldl DN a).length≤a.length+l.length
 |[],_=>by simp
 |f::l,a=>by
  have h1:=LR l (DN a f)
  have h2:=TH a f
  rw [List.foldl_cons,List.length_cons];omega
def Dt (n:Nat) (l:List Ax):Prop:=∀x∈l,x.BD.length≤n
theorem TI {l:List Ax} {f:AO} {n:Nat} (h:Dt n l):Dt (n+1) (l.map (Dg f)):=by
 intro x hx
 rw [List.mem_map] at hx
 obtain ⟨y,hy,rfl⟩:=hx
 have:=h y hy
 unfold Dg;split
 ·
  have:=G9 Lib.compareBytes f.host y.BD
  show (DF _ _ _).length≤_
  omega
 · omega
theorem VT {l:List Ax} {f:AO} {n:Nat} (h:Dt n l):Dt (n+1) (DN l f):=by
 unfold DN;split
 · exact fun x hx=>Nat.le_succ_of_le (h x hx)
 ·
  refine TI fun x hx=> ?_
  unfold Es at hx;split at hx
  · exact h x hx
  ·
   rcases List.mem_append.1 hx with hx|hx
   · exact h x hx
   · rw [List.mem_singleton] at hx;subst hx;exact Nat.zero_le _
theorem VU {l:List Ax} {f:AO} {n:Nat} (h:Dt n l):Dt (n+1) (KT l f):=by
 unfold KT;split
 · exact fun x hx=>Nat.le_succ_of_le (h x hx)
 ·
  refine TI fun x hx=> ?_
  unfold Qz at hx
  cases hk:FK f l with
  |true=>rw [hk,if_pos rfl] at hx;exact h x hx
  |false=>
   rw [hk,if_neg (by decide)] at hx
   have hx:=(FL (MQ hk)).mem_iff.1 hx
   rcases List.mem_append.1 hx with hx|hx
   · exact h x hx
   · rw [List.mem_singleton] at hx;subst hx;exact Nat.zero_le _
theorem IY {l:List AO}:∀k,Dt k ((l.take k).foldl DN [])∧Dt k ((l.take k).foldl KT [])
 |0=>⟨fun x hx=>by simp at hx,fun x hx=>by simp at hx⟩
 |k+1=>by
  obtain ⟨h1,h2⟩:=IY (l:=l) k
  cases hf:l[k]? with
  |none=>
   rw [List.take_add_one,hf,Option.toList_none,List.append_nil]
   exact ⟨fun x hx=>Nat.le_succ_of_le (h1 x hx),fun x hx=>Nat.le_succ_of_le (h2 x hx)⟩
  |some f=>
   rw [FN DN [] hf,FN KT [] hf]
   exact ⟨VT h1,VU h2⟩
theorem VV {l:List Ax} {f:AO} (h:∀x∈l,Fg Lib.compareBytes x.BD):∀x∈l.map (Dg f),Fg Lib.compareBytes x.BD:=by
 intro x hx
 rw [List.mem_map] at hx
 obtain ⟨y,hy,rfl⟩:=hx
 unfold Dg;split
 · exact EM DM (fun x y h=>(DU x y).1 h) (h y hy)
 · exact h y hy
theorem LS:∀(l:List AO) (a:List Ax),(∀x∈a,Fg Lib.compareBytes x.BD)→∀x∈l.foldl DN a,Fg Lib.compareBytes x.BD
 |[],_,h=>h
 |f::l,a,h=>LS l _ (by
  unfold DN;split
  · exact h
  ·
   refine VV fun x hx=> ?_
   unfold Es at hx;split at hx
   · exact h x hx
   ·
    rcases List.mem_append.1 hx with hx|hx
    · exact h x hx
    · rw [List.mem_singleton] at hx;subst hx;exact List.Pairwise.nil)
open Classical in
noncomputable def Q1 (l:List AO):List Ax×Int:=if CS l then (Ot l,0) else ([],24)
theorem JG {l:List AO} (h:CS l):Q1 l=(Ot l,0):=by unfold Q1;rw [if_pos h]
theorem Nk {l:List AO} (h:¬CS l):Q1 l=([],24):=by unfold Q1;rw [if_neg h]
instance:Inhabited Ax:=⟨⟨0,0,[]⟩⟩
theorem VW {l:List Ax} {c:Ax×Ax→Int} {b0 cap len:Nat} {sp:List Value} {a b:Int} (Dc:l.length=len) (GU:len≤1000000) (hw:Go.Sort.SWO (BM c)) (h0:0≤a) (hab:a≤b) (hb:b≤len):Am prog 150 [is (.slice (some ⟨b0,0,none⟩) len cap),int a,int b,Dh prog (fun x:Ax×Ax=>[agg (AM x.1),agg (AM x.2)]) (fun x=>int (c x))] (Bx) (AB true b0 57 ((l.map AM).flatten++sp.map is)) (fun _=>BV b0 57 AM (Br c a b l) (sp.map is)):=by
 refine Am.of func150 rfl rfl (by exact Nb rfl) fun M0 w0 S rs M1 w1=> ?_
 refine ac ?_
 refine Tr.block (Tr.Bk [(0,_),(1,_),(2,_),(3,_)] ⟨ke rfl,ke rfl,ke rfl,ke rfl,trivial⟩ (fun (i:Int) (st:List Ax)=>[(8,int i)]) (fun (i:Int) (st:List Ax)=>Hp M0 w0 S (AB true b0 57 ((st.map AM).flatten++sp.map is)::Aa M1 w1::rs)) (fun (i:Int) (st:List Ax)=>a<i∧st.length=len∧Go.Sort.insOuter (BM c) a.toNat b.toNat i.toNat st.toArray=Go.Sort.insertionSort (BM c) l.toArray a.toNat b.toNat) (fun (i:Int) (st:List Ax)=>(b-i).toNat) (a+1) (l)  (⟨by omega,by omega,Jl h0⟩) ⟨ke rfl,trivial⟩ (fun _ _ h=>h) ?_)
 rintro i st  ⟨hi1,Fz,Ci⟩
 refine an ?_ ?_<;>intro h1 q1
 have hib:i<b:=of_decide_eq_true h1
 refine a2 ?_
 refine Tr.block (Tr.Bk [(0,_),(1,_),(2,_),(3,_),(8,_)] ⟨ke rfl,ke rfl,ke rfl,ke rfl,ke rfl,trivial⟩ (fun (j:Int) (DE:List Ax)=>[(9,int j)]) (fun (j:Int) (DE:List Ax)=>Hp M0 w0 S (AB true b0 57 ((DE.map AM).flatten++sp.map is)::Aa M1 w1::rs)) (fun (j:Int) (DE:List Ax)=>(a≤j∧j≤i)∧DE.length=len∧Go.Sort.insInner (BM c) a.toNat j.toNat DE.toArray=Go.Sort.insInner (BM c) a.toNat i.toNat st.toArray) (fun (j:Int) (DE:List Ax)=>(j-a).toNat) (i) (st)  (⟨⟨by omega,by omega⟩,Fz,rfl⟩) ⟨ke rfl,trivial⟩ (fun _ _ h=>h) ?_)
 rintro j DE  ⟨⟨RC,hj2⟩,J7,Gi⟩
 refine ag ?_ ?_<;>intro h2 q2
 refine ac ?_
 refine cy h2 rfl (AA rfl underlying39 AZ (vl rfl) (vl rfl) (by omega) (by omega)) (cy h2 rfl (Ai 0 rfl (AE rfl A4 AZ (vl rfl) (AD (f:=AM) (fun _=>rfl) (by omega)) rfl)) ?_)
 refine ac ?_
 refine cy h2 rfl (AA rfl underlying39 AZ (vl rfl) (vl rfl) (by omega) (by omega)) (cy h2 rfl (Ai 0 rfl (AE rfl A4 AZ (vl rfl) (AD (f:=AM) (fun _=>rfl) (by omega)) rfl)) (cy h2 rfl (Af (_,_) rfl (vl rfl) ⟨ke rfl,ke rfl,trivial⟩) ?_))
 refine ac ?_
 refine E5 0 1 2 3 8 9 34 rfl ?_
 refine Tr.cn rfl ?_ ?_<;>intro h3 q3
 have:=h3
 refine ac ?_
 refine Tr.seq (Tr.block (Tr.rx ?_))
 refine ay ?_
 refine xo rfl (fun _=>AA rfl underlying39 AZ (vl rfl) (vl rfl) (by omega) (by omega)) (CA 0 rfl rfl (AE rfl A4 AZ (vl rfl) (AD (f:=AM) (fun _=>rfl) (by omega)) rfl) ?_)
 refine ay ?_
 refine xo rfl (fun _=>AA rfl underlying39 AZ (vl rfl) (vl rfl) (by omega) (by omega)) (CA 0 rfl rfl (AE rfl A4 AZ (vl rfl) (AD (f:=AM) (fun _=>rfl) (by omega)) rfl) (xo rfl (fun _=>AA rfl underlying39 AZ (vl rfl) (vl rfl) (by omega) (by omega)) ?_))
 refine Cx.B4 0 rfl rfl (AU rfl rfl (vl rfl) (Va rfl) AZ rfl (by rw [AV (sz:=3) (fun _=>rfl)];omega) (AP (f:=AM) (fun _=>rfl) (by omega))) ?_
 refine xo rfl (fun _=>AA rfl underlying39 AZ (vl rfl) (vl rfl) (by omega) (by omega)) ?_
 refine Cx.B4 0 rfl rfl (AU rfl rfl (vl rfl) (Va rfl) AZ rfl (by rw [AV (sz:=3) (fun _=>rfl)];simp only [List.length_set];omega) (AP (f:=AM) (fun _=>rfl) (by simp only [List.length_set];omega))) ?_
 refine Cx.nil ⟨by kernel_rfl,?_⟩
 refine BT.done IK ?_
 refine ac ?_
 refine D_ 0 1 2 3 8 9 rfl ?_
 refine ac ?_
 exact Fin.BG (j-1) (_)  (⟨⟨⟨by omega,by omega⟩,by simp only [List.length_set];exact J7,by rw [Rt h0 (by omega) rfl (by omega) (by omega) (by assumption)];exact Gi⟩,by omega⟩) ⟨ke rfl,ke rfl,ke rfl,ke rfl,ke rfl,ke rfl,trivial⟩ (fun _ _ h=>h)
 have:=h3
 refine a2 ?_
 have OV:DE.toArray=Go.Sort.insInner (BM c) a.toNat j.toNat DE.toArray:=by exact Kx h0 (by omega) rfl (by omega) (by omega) (Int.not_lt.2 (by assumption))
 exact Fin.BG (i+1) (DE)  (⟨⟨by omega,J7,by rw [←Ci,←I8 (by omega) hib,←Gi];exact congrArg _ OV⟩,by omega⟩) ⟨ke rfl,ke rfl,ke rfl,ke rfl,ke rfl,trivial⟩ (fun _ _ h=>h)
 refine ac ?_
 refine E5 0 1 2 3 8 9 34 rfl ?_
 refine a2 ?_
 have OV:DE.toArray=Go.Sort.insInner (BM c) a.toNat j.toNat DE.toArray:=by exact Kw h0 (by omega)
 exact Fin.BG (i+1) (DE)  (⟨⟨by omega,J7,by rw [←Ci,←I8 (by omega) hib,←Gi];exact congrArg _ OV⟩,by omega⟩) ⟨ke rfl,ke rfl,ke rfl,ke rfl,ke rfl,trivial⟩ (fun _ _ h=>h)
 have hib:¬i<b:=of_decide_eq_false h1
 rw [Ky (by omega) hib] at Ci
 refine Tr.exit (Fin.AG (Fin.AG (Fin.AX ?_)))
 refine Fin.BF (Br c a b l) 0 rfl (by unfold Br;rw [Ci];exact Go.Sort.insertionSort_holds hw l.toArray a.toNat b.toNat (by omega) (by simp only [List.size_toArray];omega)) ?_
 exact Fin.D0 rfl
theorem Nl {l:List Ax} {c:Ax×Ax→Int} {b0 cap len:Nat} {sp:List Value} {lo hi first:Int} (Dc:l.length=len) (GU:len≤1000000) (h0:0≤lo) (hlo:lo≤len) (hf:0≤first) (hb:first+hi≤len):Am prog 186 [is (.slice (some ⟨b0,0,none⟩) len cap),int lo,int hi,int first,Dh prog (fun x:Ax×Ax=>[agg (AM x.1),agg (AM x.2)]) (fun x=>int (c x))] (Bx) (AB true b0 57 ((l.map AM).flatten++sp.map is)) (fun _=>BV b0 57 AM (FV c hi first lo l) (sp.map is)):=by
 refine Am.of func186 rfl rfl (by exact Nb rfl) fun M0 w0 S rs M1 w1=> ?_
 refine Tr.seq (Tr.BK (cm rfl (cm rfl (Ch.nil (Fin.go (Tr.block (Tr.Bk [(0,_),(2,_),(3,_),(4,_)] ⟨ke rfl,ke rfl,ke rfl,ke rfl,trivial⟩ (fun (r:Int) (st:List Ax)=>[(10,int r)]) (fun (r:Int) (st:List Ax)=>Hp M0 w0 S (AB true b0 57 ((st.map AM).flatten++sp.map is)::Aa M1 w1::rs)) (fun (r:Int) (st:List Ax)=>(0≤r∧r≤1000000)∧st.length=len∧Go.Sort.siftDown (BM c) hi.toNat first.toNat r.toNat st.toArray=Go.Sort.siftDown (BM c) hi.toNat first.toNat lo.toNat l.toArray) (fun (r:Int) (st:List Ax)=>(hi-r).toNat) (lo) (l)  (⟨⟨by omega,by omega⟩,by omega,rfl⟩) ⟨ke rfl,trivial⟩ (fun _ _ h=>h) ?_)))))))
 rintro r st  ⟨⟨Qn,Yz⟩,Fz,Ci⟩
 refine Tr.block (Tr.seq (Tr.BK (cm rfl ?_)))
 refine co rfl (DZ rfl (vl rfl) (vl rfl) ?hin) ?_;case hin=>unfold CR;omega
 refine IC rfl rfl rfl rfl (by omega) (cm rfl (Ch.nil (Fin.go (Tr.seq (Tr.seq (Tr.BK (cm rfl (cm rfl (co rfl (ki rfl rfl rfl rfl) (Ch.nil (Fin.go ?_)))))))))))
 refine Tr.cn rfl ?_ ?_<;>intro h1 q1
 refine Tr.exit (Fin.AG (Fin.Fi rfl (Fin.AG (Fin.AX ?_))))
 refine Fin.BF (FV c hi first lo l) 0 rfl (⟨by omega,by rw [←Ci];exact Mt (by omega) (by omega)⟩) ?_
 exact Fin.D0 rfl
 refine Tr.skip (Fin.go (Tr.seq (Tr.seq (Tr.Ic mixed (by kernel_rfl) (cm rfl (IC rfl rfl rfl rfl (by omega) (cm rfl (co rfl (ki rfl rfl rfl rfl) (cm rfl ?_)))))))))
 refine Ch.cs 23 rfl ?_ ?_<;>intro h2 q2
 iterate 4 refine CZ h2 rfl ?_
 refine cy h2 rfl (BE rfl (vl rfl) (vl rfl) ?hin) ?_;case hin=>unfold CR;omega
 refine cy h2 rfl (AA rfl underlying39 AZ (vl rfl) (vl rfl) (by omega) (by omega)) (cy h2 rfl (Ai 0 rfl (AE rfl A4 AZ (vl rfl) (AD (f:=AM) (fun _=>rfl) (by omega)) rfl)) (CZ h2 rfl (CZ h2 rfl (CZ h2 rfl ?_))))
 refine cy h2 rfl (BE rfl (vl rfl) (vl rfl) ?hin) ?_;case hin=>unfold CR;omega
 refine cy h2 rfl (BE rfl (vl rfl) (vl rfl) ?hin) ?_;case hin=>unfold CR;omega
 refine cy h2 rfl (AA rfl underlying39 AZ (vl rfl) (vl rfl) (by omega) (by omega)) (cy h2 rfl (Ai 0 rfl (AE rfl A4 AZ (vl rfl) (AD (f:=AM) (fun _=>rfl) (by omega)) rfl)) (cy h2 rfl (Af (_,_) rfl (vl rfl) ⟨ke rfl,ke rfl,trivial⟩) (cy h2 rfl (ki rfl rfl rfl rfl) (co rfl (KV rfl rfl h2 rfl) (Ch.nil (Fin.go (E5 0 2 3 4 10 11 40 rfl ?_)))))))
 refine Tr.cn rfl ?_ ?_<;>intro h3 q3
 refine Tr.BK (cm rfl (IC rfl rfl rfl rfl (by omega) (cm rfl (Ch.nil (Fin.go (Tr.seq (Tr.seq (Tr.Ic mixed (by kernel_rfl) ?_))))))))
 iterate 4 refine cm rfl ?_
 refine IC rfl rfl rfl rfl (by omega) (co rfl (AA rfl underlying39 AZ (vl rfl) (vl rfl) (by omega) (by omega)) (co rfl (Ai 0 rfl (AE rfl A4 AZ (vl rfl) (AD (f:=AM) (fun _=>rfl) (by omega)) rfl)) (cm rfl (cm rfl (cm rfl (IC rfl rfl rfl rfl (by omega) (co rfl (AA rfl underlying39 AZ (vl rfl) (vl rfl) (by omega) (by omega)) (co rfl (Ai 0 rfl (AE rfl A4 AZ (vl rfl) (AD (f:=AM) (fun _=>rfl) (by omega)) rfl)) (co rfl (Af (_,_) rfl (vl rfl) ⟨ke rfl,ke rfl,trivial⟩) (co rfl (ki rfl rfl rfl rfl) (co rfl (Ey rfl (vl rfl)) (Ch.nil (Fin.go ?_)))))))))))))
 refine E5 0 2 3 4 10 11 58 rfl ?_
 refine Tr.cn rfl ?_ ?_<;>intro h4 q4
 refine Tr.ret (Fin.AK (Fin.AS (Fin.AK (Fin.AS ?_))))
 refine Fin.BF (FV c hi first lo l) 0 rfl (⟨by omega,by rw [←Ci];exact Jn Qn hf (by omega) (u:=first+(2*r+1)) (v:=first+(2*r+1)+1) rfl rfl (by omega) (by omega) (by assumption) (x:=first+r) (y:=first+(2*r+1+1)) rfl rfl (by omega) (by omega) (Int.not_lt.2 (by assumption))⟩) ?_
 exact Fin.Db rfl
 refine Tr.skip (Fin.go (Tr.seq (Tr.JW mixed [none,none,none,none,none,none,none,none,none,none,none,none,none,some (0,0,false,0),none,none,none,none,none,some (0,0,false,0),none,some (0,0,true,0),none,some (0,0,true,0)] (by kernel_rfl) (xm rfl (xm rfl (xm rfl ?_))))))
 refine xo rfl (fun _=>BE rfl (vl rfl) (vl rfl) ?hin) ?_;case hin=>unfold CR;omega
 refine xm rfl (xm rfl (xm rfl ?_))
 refine xo rfl (fun _=>BE rfl (vl rfl) (vl rfl) ?hin) ?_;case hin=>unfold CR;omega
 refine xm rfl (xm rfl (xm rfl ?_))
 refine xo rfl (fun _=>BE rfl (vl rfl) (vl rfl) ?hin) ?_;case hin=>unfold CR;omega
 refine xo rfl (fun _=>AA rfl underlying39 AZ (vl rfl) (vl rfl) (by omega) (by omega)) (CA 0 rfl rfl (AE rfl A4 AZ (vl rfl) (AD (f:=AM) (fun _=>rfl) (by omega)) rfl) (xm rfl (xm rfl (xm rfl ?_))))
 refine xo rfl (fun _=>BE rfl (vl rfl) (vl rfl) ?hin) ?_;case hin=>unfold CR;omega
 refine xo rfl (fun _=>AA rfl underlying39 AZ (vl rfl) (vl rfl) (by omega) (by omega)) (CA 0 rfl rfl (AE rfl A4 AZ (vl rfl) (AD (f:=AM) (fun _=>rfl) (by omega)) rfl) (xo rfl (fun _=>AA rfl underlying39 AZ (vl rfl) (vl rfl) (by omega) (by omega)) ?_))
 refine Cx.B4 0 rfl rfl (AU rfl rfl (vl rfl) (Va rfl) AZ rfl (by rw [AV (sz:=3) (fun _=>rfl)];omega) (AP (f:=AM) (fun _=>rfl) (by omega))) ?_
 refine xo rfl (fun _=>AA rfl underlying39 AZ (vl rfl) (vl rfl) (by omega) (by omega)) ?_
 refine Cx.B4 0 rfl rfl (AU rfl rfl (vl rfl) (Va rfl) AZ rfl (by rw [AV (sz:=3) (fun _=>rfl)];simp only [List.length_set];omega) (AP (f:=AM) (fun _=>rfl) (by simp only [List.length_set];omega))) ?_
 refine Cx.nil ⟨rfl,?_⟩
 refine BT.done (B_.cons (B_.cons (B_.map _))) (Fin.go (Dv 0 2 3 4 11 rfl (Tr.BK (cm rfl (cm rfl (Ch.nil (Fin.block ?_)))))))
 exact Fin.BG (2*r+1+1) (_)  (⟨⟨⟨by omega,by omega⟩,by simp only [List.length_set];exact Fz,by rw [←Ci];exact Mu Qn hf (by omega) (u:=first+(2*r+1)) (v:=first+(2*r+1)+1) rfl rfl (by omega) (by omega) (by assumption) (by omega) (by omega) (by omega) (by omega) (by assumption)⟩,by omega⟩) ⟨ke rfl,ke rfl,ke rfl,ke rfl,ke rfl,trivial⟩ (fun _ _ h=>h)
 refine Tr.skip (Fin.go (Tr.seq (Tr.seq (Tr.Ic mixed (by kernel_rfl) ?_))))
 iterate 4 refine cm rfl ?_
 refine IC rfl rfl rfl rfl (by omega) (co rfl (AA rfl underlying39 AZ (vl rfl) (vl rfl) (by omega) (by omega)) (co rfl (Ai 0 rfl (AE rfl A4 AZ (vl rfl) (AD (f:=AM) (fun _=>rfl) (by omega)) rfl)) (cm rfl (cm rfl (cm rfl (IC rfl rfl rfl rfl (by omega) (co rfl (AA rfl underlying39 AZ (vl rfl) (vl rfl) (by omega) (by omega)) (co rfl (Ai 0 rfl (AE rfl A4 AZ (vl rfl) (AD (f:=AM) (fun _=>rfl) (by omega)) rfl)) (co rfl (Af (_,_) rfl (vl rfl) ⟨ke rfl,ke rfl,trivial⟩) (co rfl (ki rfl rfl rfl rfl) (co rfl (Ey rfl (vl rfl)) (Ch.nil (Fin.go ?_)))))))))))))
 refine E5 0 2 3 4 10 11 58 rfl ?_
 refine Tr.cn rfl ?_ ?_<;>intro h5 q5
 refine Tr.ret (Fin.AK (Fin.AS (Fin.AK (Fin.AS ?_))))
 refine Fin.BF (FV c hi first lo l) 0 rfl (⟨by omega,by rw [←Ci];exact II Qn hf (by omega) (u:=first+(2*r+1)) (v:=first+(2*r+1)+1) rfl rfl (by omega) (by omega) (Int.not_lt.2 (by assumption)) (x:=first+r) (y:=first+(2*r+1)) rfl rfl (by omega) (by omega) (Int.not_lt.2 (by assumption))⟩) ?_
 exact Fin.Db rfl
 refine Tr.skip (Fin.go (Tr.seq (Tr.JW mixed [none,none,none,none,none,none,none,none,none,none,none,none,none,some (0,0,false,0),none,none,none,none,none,some (0,0,false,0),none,some (0,0,true,0),none,some (0,0,true,0)] (by kernel_rfl) (xm rfl (xm rfl (xm rfl ?_))))))
 refine xo rfl (fun _=>BE rfl (vl rfl) (vl rfl) ?hin) ?_;case hin=>unfold CR;omega
 refine xm rfl (xm rfl (xm rfl ?_))
 refine xo rfl (fun _=>BE rfl (vl rfl) (vl rfl) ?hin) ?_;case hin=>unfold CR;omega
 refine xm rfl (xm rfl (xm rfl ?_))
 refine xo rfl (fun _=>BE rfl (vl rfl) (vl rfl) ?hin) ?_;case hin=>unfold CR;omega
 refine xo rfl (fun _=>AA rfl underlying39 AZ (vl rfl) (vl rfl) (by omega) (by omega)) (CA 0 rfl rfl (AE rfl A4 AZ (vl rfl) (AD (f:=AM) (fun _=>rfl) (by omega)) rfl) (xm rfl (xm rfl (xm rfl ?_))))
 refine xo rfl (fun _=>BE rfl (vl rfl) (vl rfl) ?hin) ?_;case hin=>unfold CR;omega
 refine xo rfl (fun _=>AA rfl underlying39 AZ (vl rfl) (vl rfl) (by omega) (by omega)) (CA 0 rfl rfl (AE rfl A4 AZ (vl rfl) (AD (f:=AM) (fun _=>rfl) (by omega)) rfl) (xo rfl (fun _=>AA rfl underlying39 AZ (vl rfl) (vl rfl) (by omega) (by omega)) ?_))
 refine Cx.B4 0 rfl rfl (AU rfl rfl (vl rfl) (Va rfl) AZ rfl (by rw [AV (sz:=3) (fun _=>rfl)];omega) (AP (f:=AM) (fun _=>rfl) (by omega))) ?_
 refine xo rfl (fun _=>AA rfl underlying39 AZ (vl rfl) (vl rfl) (by omega) (by omega)) ?_
 refine Cx.B4 0 rfl rfl (AU rfl rfl (vl rfl) (Va rfl) AZ rfl (by rw [AV (sz:=3) (fun _=>rfl)];simp only [List.length_set];omega) (AP (f:=AM) (fun _=>rfl) (by simp only [List.length_set];omega))) ?_
 refine Cx.nil ⟨rfl,?_⟩
 refine BT.done (B_.cons (B_.cons (B_.map _))) (Fin.go (Dv 0 2 3 4 11 rfl (Tr.BK (cm rfl (cm rfl (Ch.nil (Fin.block ?_)))))))
 exact Fin.BG (2*r+1) (_)  (⟨⟨⟨by omega,by omega⟩,by simp only [List.length_set];exact Fz,by rw [←Ci];exact K0 Qn hf (by omega) (u:=first+(2*r+1)) (v:=first+(2*r+1)+1) rfl rfl (by omega) (by omega) (Int.not_lt.2 (by assumption)) (by omega) (by omega) (by omega) (by omega) (by assumption)⟩,by omega⟩) ⟨ke rfl,ke rfl,ke rfl,ke rfl,ke rfl,trivial⟩ (fun _ _ h=>h)
 iterate 16 refine cnt h2 rfl ?_
 refine co rfl (Fb rfl rfl h2 rfl) (Ch.nil (Fin.go (E5 0 2 3 4 10 11 40 rfl (Tr.cond rfl (fun h=>nomatch h) (fun _=> ?_)))))
 refine Tr.skip (Fin.go (Tr.seq (Tr.seq (Tr.Ic mixed (by kernel_rfl) ?_))))
 iterate 4 refine cm rfl ?_
 refine IC rfl rfl rfl rfl (by omega) (co rfl (AA rfl underlying39 AZ (vl rfl) (vl rfl) (by omega) (by omega)) (co rfl (Ai 0 rfl (AE rfl A4 AZ (vl rfl) (AD (f:=AM) (fun _=>rfl) (by omega)) rfl)) (cm rfl (cm rfl (cm rfl (IC rfl rfl rfl rfl (by omega) (co rfl (AA rfl underlying39 AZ (vl rfl) (vl rfl) (by omega) (by omega)) (co rfl (Ai 0 rfl (AE rfl A4 AZ (vl rfl) (AD (f:=AM) (fun _=>rfl) (by omega)) rfl)) (co rfl (Af (_,_) rfl (vl rfl) ⟨ke rfl,ke rfl,trivial⟩) (co rfl (ki rfl rfl rfl rfl) (co rfl (Ey rfl (vl rfl)) (Ch.nil (Fin.go ?_)))))))))))))
 refine E5 0 2 3 4 10 11 58 rfl ?_
 refine Tr.cn rfl ?_ ?_<;>intro h6 q6
 refine Tr.ret (Fin.AK (Fin.AS (Fin.AK (Fin.AS ?_))))
 refine Fin.BF (FV c hi first lo l) 0 rfl (⟨by omega,by rw [←Ci];exact IG Qn hf (by omega) (by omega) (x:=first+r) (y:=first+(2*r+1)) rfl rfl (by omega) (by omega) (Int.not_lt.2 (by assumption))⟩) ?_
 exact Fin.Db rfl
 refine Tr.skip (Fin.go (Tr.seq (Tr.JW mixed [none,none,none,none,none,none,none,none,none,none,none,none,none,some (0,0,false,0),none,none,none,none,none,some (0,0,false,0),none,some (0,0,true,0),none,some (0,0,true,0)] (by kernel_rfl) (xm rfl (xm rfl (xm rfl ?_))))))
 refine xo rfl (fun _=>BE rfl (vl rfl) (vl rfl) ?hin) ?_;case hin=>unfold CR;omega
 refine xm rfl (xm rfl (xm rfl ?_))
 refine xo rfl (fun _=>BE rfl (vl rfl) (vl rfl) ?hin) ?_;case hin=>unfold CR;omega
 refine xm rfl (xm rfl (xm rfl ?_))
 refine xo rfl (fun _=>BE rfl (vl rfl) (vl rfl) ?hin) ?_;case hin=>unfold CR;omega
 refine xo rfl (fun _=>AA rfl underlying39 AZ (vl rfl) (vl rfl) (by omega) (by omega)) (CA 0 rfl rfl (AE rfl A4 AZ (vl rfl) (AD (f:=AM) (fun _=>rfl) (by omega)) rfl) (xm rfl (xm rfl (xm rfl ?_))))
 refine xo rfl (fun _=>BE rfl (vl rfl) (vl rfl) ?hin) ?_;case hin=>unfold CR;omega
 refine xo rfl (fun _=>AA rfl underlying39 AZ (vl rfl) (vl rfl) (by omega) (by omega)) (CA 0 rfl rfl (AE rfl A4 AZ (vl rfl) (AD (f:=AM) (fun _=>rfl) (by omega)) rfl) (xo rfl (fun _=>AA rfl underlying39 AZ (vl rfl) (vl rfl) (by omega) (by omega)) ?_))
 refine Cx.B4 0 rfl rfl (AU rfl rfl (vl rfl) (Va rfl) AZ rfl (by rw [AV (sz:=3) (fun _=>rfl)];omega) (AP (f:=AM) (fun _=>rfl) (by omega))) ?_
 refine xo rfl (fun _=>AA rfl underlying39 AZ (vl rfl) (vl rfl) (by omega) (by omega)) ?_
 refine Cx.B4 0 rfl rfl (AU rfl rfl (vl rfl) (Va rfl) AZ rfl (by rw [AV (sz:=3) (fun _=>rfl)];simp only [List.length_set];omega) (AP (f:=AM) (fun _=>rfl) (by simp only [List.length_set];omega))) ?_
 refine Cx.nil ⟨rfl,?_⟩
 refine BT.done (B_.cons (B_.cons (B_.map _))) (Fin.go (Dv 0 2 3 4 11 rfl (Tr.BK (cm rfl (cm rfl (Ch.nil (Fin.block ?_)))))))
 exact Fin.BG (2*r+1) (_)  (⟨⟨⟨by omega,by omega⟩,by simp only [List.length_set];exact Fz,by rw [←Ci];exact Kz Qn hf (by omega) (by omega) (by omega) (by omega) (by omega) (by omega) (by assumption)⟩,by omega⟩) ⟨ke rfl,ke rfl,ke rfl,ke rfl,ke rfl,trivial⟩ (fun _ _ h=>h)
theorem TJ {l:List Ax} {c:Ax×Ax→Int} {b0 cap len:Nat} {sp:List Value} {a b:Int} (Dc:l.length=len) (GU:len≤1000000) (hw:Go.Sort.SWO (BM c)) (h0:0≤a) (hab:a≤b) (hb:b≤len):Am prog 151 [is (.slice (some ⟨b0,0,none⟩) len cap),int a,int b,Dh prog (fun x:Ax×Ax=>[agg (AM x.1),agg (AM x.2)]) (fun x=>int (c x))] (Bx) (AB true b0 57 ((l.map AM).flatten++sp.map is)) (fun _=>BV b0 57 AM (Br c a b l) (sp.map is)):=by
 refine Am.of func151 rfl rfl (by exact Nb rfl) fun M0 w0 S rs M1 w1=> ?_
 have hq:IntKind.i64.wrap ((b-a-1).tdiv 2)=(((b.toNat-a.toNat-1)/2:Nat):Int):=K2 (by omega) (by omega) (by omega)
 iterate 4 refine ac ?_
 refine co rfl (CC rfl (vl rfl) (vl rfl) (by omega)) ?_
 refine ac ?_
 refine Tr.block (Tr.Bk [(0,_),(3,_),(8,_),(9,_),(10,_)] ⟨ke rfl,ke rfl,ke rfl,ke rfl,ke rfl,trivial⟩ (fun (i:Int) (st:List Ax)=>[(11,int i)]) (fun (i:Int) (st:List Ax)=>Hp M0 w0 S (AB true b0 57 ((st.map AM).flatten++sp.map is)::Aa M1 w1::rs)) (fun (i:Int) (st:List Ax)=>(-1≤i∧i≤b-a)∧st.length=len∧Go.Sort.heapBuild (BM c) (b-a).toNat a.toNat (i+1).toNat st.toArray=Go.Sort.heapBuild (BM c) (b-a).toNat a.toNat ((b.toNat-a.toNat-1)/2+1) l.toArray) (fun (i:Int) (st:List Ax)=>(i+1).toNat) ((((b.toNat-a.toNat-1)/2:Nat):Int)) (l)  (⟨⟨by omega,by omega⟩,by omega,by rw [show ((((b.toNat-a.toNat-1)/2:Nat):Int)+1).toNat=(b.toNat-a.toNat-1)/2+1 by omega]⟩) ⟨⟨_,rfl,int_eq hq⟩,trivial⟩ (fun _ _ h=>h) ?_)
 rintro i st  ⟨⟨hi1,hi2⟩,Fz,Ci⟩
 refine an ?_ ?_<;>intro h1 q1
 have hib:0≤i:=of_decide_eq_true h1
 refine ac ?_
 refine ap ?_
 refine TO.Dn 0 rfl rfl (by decide) (Ah rfl rfl (by decide) rfl (Nl (by omega) (by omega) (by omega) (by omega) (by omega) (by omega)) ⟨ke rfl,ke rfl,ke rfl,ke rfl,ke rfl,trivial⟩) (TO.Bl 0 rfl fun t1 Di=> ?_)
 have Kj:=Di.len
 refine ap ?_
 refine D_ 0 3 8 9 10 11 rfl ?_
 refine ac ?_
 exact Fin.BG (i-1) (t1)  (⟨⟨⟨by omega,by omega⟩,by omega,by rw [Di.2];exact (Mv hib).trans Ci⟩,by omega⟩) ⟨ke rfl,ke rfl,ke rfl,ke rfl,ke rfl,ke rfl,trivial⟩ (fun _ _ h=>h)
 have hib:¬0≤i:=of_decide_eq_false h1
 rw [K1 hib] at Ci
 refine a2 ?_
 refine Tr.block (Tr.Bk [(0,_),(3,_),(8,_),(9,_)] ⟨ke rfl,ke rfl,ke rfl,ke rfl,trivial⟩ (fun (i2:Int) (DE:List Ax)=>[(12,int i2)]) (fun (i2:Int) (DE:List Ax)=>Hp M0 w0 S (AB true b0 57 ((DE.map AM).flatten++sp.map is)::Aa M1 w1::rs)) (fun (i2:Int) (DE:List Ax)=>(-1≤i2∧i2<b-a)∧DE.length=len∧Go.Sort.heapPop (BM c) a.toNat (i2+1).toNat DE.toArray=Go.Sort.heapPop (BM c) a.toNat (b-a).toNat st.toArray) (fun (i2:Int) (DE:List Ax)=>(i2+1).toNat) (b-a-1) (st)  (⟨⟨by omega,by omega⟩,by omega,by rw [show (b-a-1+1).toNat=(b-a).toNat by omega]⟩) ⟨ke rfl,trivial⟩ (fun _ _ h=>h) ?_)
 rintro i2 DE  ⟨⟨RC,hj2⟩,J7,Gi⟩
 refine an ?_ ?_<;>intro h2 q2
 have OW:0≤i2:=of_decide_eq_true h2
 refine ac ?_
 refine Tr.seq (Tr.block (Tr.seq (Tr.rx ?_)))
 refine ay ?_
 refine xo rfl (fun _=>AA rfl underlying39 AZ (vl rfl) (vl rfl) (by omega) (by omega)) (CA 0 rfl rfl (AE rfl A4 AZ (vl rfl) (AD (f:=AM) (fun _=>rfl) (by omega)) rfl) ?_)
 refine ay ?_
 refine xo rfl (fun _=>AA rfl underlying39 AZ (vl rfl) (vl rfl) (by omega) (by omega)) (CA 0 rfl rfl (AE rfl A4 AZ (vl rfl) (AD (f:=AM) (fun _=>rfl) (by omega)) rfl) (xo rfl (fun _=>AA rfl underlying39 AZ (vl rfl) (vl rfl) (by omega) (by omega)) ?_))
 refine Cx.B4 0 rfl rfl (AU rfl rfl (vl rfl) (Va rfl) AZ rfl (by rw [AV (sz:=3) (fun _=>rfl)];omega) (AP (f:=AM) (fun _=>rfl) (by omega))) ?_
 refine xo rfl (fun _=>AA rfl underlying39 AZ (vl rfl) (vl rfl) (by omega) (by omega)) ?_
 refine Cx.B4 0 rfl rfl (AU rfl rfl (vl rfl) (Va rfl) AZ rfl (by rw [AV (sz:=3) (fun _=>rfl)];simp only [List.length_set];omega) (AP (f:=AM) (fun _=>rfl) (by simp only [List.length_set];omega))) ?_
 refine Cx.nil ⟨by kernel_rfl,?_⟩
 refine BT.done IK (Fin.go (Dv 0 3 8 9 12 rfl ?_))
 refine ap ?_
 refine TO.Dn 0 rfl rfl (by decide) (Ah rfl rfl (by decide) rfl (Nl (by simp only [List.length_set];omega) (by omega) (by omega) (by omega) (by omega) (by omega)) ⟨ke rfl,ke rfl,ke rfl,ke rfl,ke rfl,trivial⟩) ?_
 refine TO.Bl 0 rfl fun t2 I7=> ?_
 have OX:=I7.len
 refine ap ?_
 refine ac ?_
 exact Fin.BG (i2-1) (t2)  (⟨⟨⟨by omega,by omega⟩,by simp only [List.length_set] at OX;omega,by rw [I7.2,sw (by omega) (by omega),show (a+i2).toNat=a.toNat+i2.toNat by omega];exact (Rv OW).trans Gi⟩,by omega⟩) ⟨ke rfl,ke rfl,ke rfl,ke rfl,ke rfl,trivial⟩ (fun _ _ h=>h)
 have OW:¬0≤i2:=of_decide_eq_false h2
 rw [PW OW] at Gi
 refine Tr.exit (Fin.AG (Fin.AG (Fin.AX ?_)))
 refine Fin.BF (Br c a b l) 0 rfl (by unfold Br;rw [Gi,Ci];exact heap_holds hw l.toArray h0 hab (by simp only [List.size_toArray];omega)) ?_
 exact Fin.D0 rfl
theorem VX {l:List Ax} {c:Ax×Ax→Int} {b0 cap len:Nat} {sp:List Value} {a b:Int} (Dc:l.length=len) (GU:len≤1000000) (h0:0≤a) (hab:a<b) (hb:b≤len):Am prog 154 [is (.slice (some ⟨b0,0,none⟩) len cap),int a,int b,Dh prog (fun x:Ax×Ax=>[agg (AM x.1),agg (AM x.2)]) (fun x=>int (c x))] (Bx) (AB true b0 57 ((l.map AM).flatten++sp.map is)) (fun _=>BV b0 57 AM (Bg a b l) (sp.map is)):=by
 refine Am.of func154 rfl rfl (by exact Nb rfl) fun M0 w0 S rs M1 w1=> ?_
 refine a2 ?_
 refine Tr.block (Tr.Dz [(0,_)] ⟨ke rfl,trivial⟩ (fun (i:Int) (j:Int) (st:List Ax)=>[(8,int i),(9,int j)]) (fun (i:Int) (j:Int) (st:List Ax)=>Hp M0 w0 S (AB true b0 57 ((st.map AM).flatten++sp.map is)::Aa M1 w1::rs)) (fun (i:Int) (j:Int) (st:List Ax)=>(a≤i∧j<b∧ -1≤j∧i≤b)∧st.length=len∧Bg a b l st) (fun (i:Int) (j:Int) (st:List Ax)=>(j-i).toNat) (a) (b-1) (l)  (⟨⟨by omega,by omega,by omega,by omega⟩,by omega,Bg.refl _ _ _⟩) ⟨ke rfl,ke rfl,trivial⟩ (fun _ _ h=>h) ?_)
 rintro i j st  ⟨⟨hi1,hi2,Un,hi4⟩,Fz,Ci⟩
 refine an ?_ ?_<;>intro h1 q1
 have hij:i<j:=of_decide_eq_true h1
 refine ac ?_
 refine Tr.block (Tr.seq (Tr.rx ?_))
 refine ay ?_
 refine xo rfl (fun _=>AA rfl underlying39 AZ (vl rfl) (vl rfl) (by omega) (by omega)) (CA 0 rfl rfl (AE rfl A4 AZ (vl rfl) (AD (f:=AM) (fun _=>rfl) (by omega)) rfl) ?_)
 refine ay ?_
 refine xo rfl (fun _=>AA rfl underlying39 AZ (vl rfl) (vl rfl) (by omega) (by omega)) (CA 0 rfl rfl (AE rfl A4 AZ (vl rfl) (AD (f:=AM) (fun _=>rfl) (by omega)) rfl) (xo rfl (fun _=>AA rfl underlying39 AZ (vl rfl) (vl rfl) (by omega) (by omega)) ?_))
 refine Cx.B4 0 rfl rfl (AU rfl rfl (vl rfl) (Va rfl) AZ rfl (by rw [AV (sz:=3) (fun _=>rfl)];omega) (AP (f:=AM) (fun _=>rfl) (by omega))) ?_
 refine xo rfl (fun _=>AA rfl underlying39 AZ (vl rfl) (vl rfl) (by omega) (by omega)) ?_
 refine Cx.B4 0 rfl rfl (AU rfl rfl (vl rfl) (Va rfl) AZ rfl (by rw [AV (sz:=3) (fun _=>rfl)];simp only [List.length_set];omega) (AP (f:=AM) (fun _=>rfl) (by simp only [List.length_set];omega))) ?_
 refine Cx.nil ⟨by kernel_rfl,?_⟩
 refine BT.done IK (Fin.go (Wh 0 8 9 rfl ?_))
 refine a2 ?_
 exact Fin.Ck (i+1) (j-1) (_)  (⟨⟨⟨by omega,by omega,by omega,by omega⟩,by simp only [List.length_set];exact Fz,Ci.swap (by omega) (by omega) (by omega) (by omega) (by omega) (by omega) (by omega)⟩,by omega⟩) ⟨ke rfl,ke rfl,ke rfl,trivial⟩ (fun _ _ h=>h)
 have:=h1
 refine Tr.exit (Fin.AG (Fin.AG (Fin.AX (Fin.BF (Bg a b l) 0 rfl (Ci) (Fin.D0 rfl)))))
theorem VY {l:List Ax} {c:Ax×Ax→Int} {b0 cap len:Nat} {sp:List Value} {a b pv:Int} (Dc:l.length=len) (GU:len≤1000000) (h0:0≤a) (hab:a<b) (hb:b≤len) (Di:a≤pv) (I7:pv<b):Am prog 156 [is (.slice (some ⟨b0,0,none⟩) len cap),int a,int b,int pv,Dh prog (fun x:Ax×Ax=>[agg (AM x.1),agg (AM x.2)]) (fun x=>int (c x))] (int ((PE c a b pv l).1:Nat)) (AB true b0 57 ((l.map AM).flatten++sp.map is)) (fun _=>BV b0 57 AM (Jp c a b pv l) (sp.map is)):=by
 refine Am.of func156 rfl rfl (by exact Nb rfl) fun M0 w0 S rs M1 w1=> ?_
 have EB:a.toNat<l.length:=by omega
 have DR:pv.toNat<l.length:=by omega
 refine ac ?_
 refine Tr.seq (Tr.rx ?_)
 refine ay ?_
 refine xo rfl (fun _=>AA rfl underlying39 AZ (vl rfl) (vl rfl) (by omega) (by omega)) (CA 0 rfl rfl (AE rfl A4 AZ (vl rfl) (AD (f:=AM) (fun _=>rfl) (by omega)) rfl) ?_)
 refine ay ?_
 refine xo rfl (fun _=>AA rfl underlying39 AZ (vl rfl) (vl rfl) (by omega) (by omega)) (CA 0 rfl rfl (AE rfl A4 AZ (vl rfl) (AD (f:=AM) (fun _=>rfl) (by omega)) rfl) (xo rfl (fun _=>AA rfl underlying39 AZ (vl rfl) (vl rfl) (by omega) (by omega)) ?_))
 refine Cx.B4 0 rfl rfl (AU rfl rfl (vl rfl) (Va rfl) AZ rfl (by rw [AV (sz:=3) (fun _=>rfl)];omega) (AP (f:=AM) (fun _=>rfl) (by omega))) ?_
 refine xo rfl (fun _=>AA rfl underlying39 AZ (vl rfl) (vl rfl) (by omega) (by omega)) ?_
 refine Cx.B4 0 rfl rfl (AU rfl rfl (vl rfl) (Va rfl) AZ rfl (by rw [AV (sz:=3) (fun _=>rfl)];simp only [List.length_set];omega) (AP (f:=AM) (fun _=>rfl) (by simp only [List.length_set];omega))) ?_
 refine Cx.nil ⟨by kernel_rfl,?_⟩
 refine BT.done IK (Fin.go (Ks 0 1 2 4 rfl ?_))
 refine ac ?_
 refine Tr.seq (Tr.block ?_)
 refine Tr.Dz [(0,_),(1,_),(4,_)] ⟨ke rfl,ke rfl,ke rfl,trivial⟩ (fun (i:Int) (j:Int) (st:List Ax)=>[(11,int i),(12,int j)]) (fun (i:Int) (j:Int) (st:List Ax)=>Hp M0 w0 S (AB true b0 57 ((st.map AM).flatten++sp.map is)::Aa M1 w1::rs)) (fun (i:Int) (j:Int) (st:List Ax)=>((a<i∧i≤b)∧a≤j∧j<b)∧st.length=len∧WE c a i j st.toArray=PE c a b pv l) (fun (i:Int) (j:Int) (st:List Ax)=>(j-i+2).toNat) (a+1) (b-1) (((l.set a.toNat (l[pv.toNat]'DR)).set pv.toNat (l[a.toNat]'EB)))  (⟨⟨⟨by omega,by omega⟩,by omega,by omega⟩,by simp only [List.length_set];exact Dc,Mw h0 hab EB DR⟩) ⟨ke rfl,ke rfl,trivial⟩ (fun _ _ h=>h) ?_
 rintro i j st  ⟨⟨⟨hi1,hi2⟩,RC,hj2⟩,Fz,Ci⟩
 refine Tr.block (Dv 0 1 4 11 12 rfl (Tr.FZ [0,1,4,12] [(11,ex fun y:Int=>fact ((i≤y∧y≤b)∧True∧y.toNat=Go.Sort.scanUp (qU c st.toArray a) st.toArray (j).toNat (i).toNat) (int y))] (True) ?_ (fun h1=> ?_)))
 refine Tr.block (Tr.BX [(0,_),(1,_),(4,_),(12,_)] (PL rfl) (fun y:Int=>[(11,int y)]) (fun y:Int=>(i≤y∧y≤b)∧Go.Sort.scanUp (qU c st.toArray a) st.toArray (j).toNat (y).toNat=Go.Sort.scanUp (qU c st.toArray a) st.toArray (j).toNat (i).toNat) (fun y:Int=>(b-y).toNat) i (⟨⟨by omega,by omega⟩,rfl⟩) ⟨ke rfl,trivial⟩ ?_)
 rintro y ⟨⟨NK,NL⟩,CT⟩
 refine ag ?_ ?_<;>intro h2 q2
 refine ac ?_
 refine cy h2 rfl (AA rfl underlying39 AZ (vl rfl) (vl rfl) (by omega) (by omega)) (cy h2 rfl (Ai 0 rfl (AE rfl A4 AZ (vl rfl) (AD (f:=AM) (fun _=>rfl) (by omega)) rfl)) ?_)
 refine ac ?_
 refine cy h2 rfl (AA rfl underlying39 AZ (vl rfl) (vl rfl) (by omega) (by omega)) (cy h2 rfl (Ai 0 rfl (AE rfl A4 AZ (vl rfl) (AD (f:=AM) (fun _=>rfl) (by omega)) rfl)) (cy h2 rfl (Af (_,_) rfl (vl rfl) ⟨ke rfl,ke rfl,trivial⟩) ?_))
 refine ac ?_
 refine D_ 0 1 4 11 12 47 rfl ?_
 refine Tr.cn rfl ?_ ?_<;>intro h3 q3
 have:=h3
 refine a2 ?_
 exact Fin.AF (y+1) ⟨⟨⟨by omega,by omega⟩,by rw [K3 (by omega) (by omega) (by omega) (ZT (by omega) (by omega) (Int.not_lt.2 (by assumption)))];exact CT⟩,by omega⟩ (N9 rfl)
 have:=h3
 refine Tr.exit (Fin.AG (Fin.AG (Fin.AX ?_)))
 exact Fin.AF () trivial ⟨⟨_,rfl,A3 _ (Ae ⟨⟨by omega,by omega⟩,trivial,by rw [←CT];exact (Ek (by omega) (ZU (by omega) (by omega) (by assumption))).symm⟩ (Lr))⟩,ke rfl,ke rfl,ke rfl,ke rfl,trivial⟩
 refine ac ?_
 refine D_ 0 1 4 11 12 47 rfl (Tr.cond rfl (fun h=>nomatch h) (fun _=> ?_))
 refine Tr.exit (Fin.AG (Fin.AG (Fin.AX ?_)))
 exact Fin.AF () trivial ⟨⟨_,rfl,A3 _ (Ae ⟨⟨by omega,by omega⟩,trivial,by rw [←CT];exact (Ej (by omega) (by omega)).symm⟩ (Lr))⟩,ke rfl,ke rfl,ke rfl,ke rfl,trivial⟩
 refine Tr.ex 11 rfl (fun i2=>Tr.fact 11 rfl fun OY=> ?_)
 obtain ⟨Sa,Sb,D4⟩:=OY
 refine Dv 0 1 4 11 12 rfl (Tr.FZ [0,1,4,11] [(12,ex fun y:Int=>fact ((a≤y∧y≤j)∧True∧y.toNat=Go.Sort.scanDown (qD c st.toArray a) st.toArray (i2).toNat (j).toNat) (int y))] (True) ?_ (fun h4=> ?_))
 refine Tr.block (Tr.BX [(0,_),(1,_),(4,_),(11,_)] (PL rfl) (fun y:Int=>[(12,int y)]) (fun y:Int=>(a≤y∧y≤j)∧Go.Sort.scanDown (qD c st.toArray a) st.toArray (i2).toNat (y).toNat=Go.Sort.scanDown (qD c st.toArray a) st.toArray (i2).toNat (j).toNat) (fun y:Int=>(y-a).toNat) j (⟨⟨by omega,by omega⟩,rfl⟩) ⟨ke rfl,trivial⟩ ?_)
 rintro y ⟨⟨NM,NN⟩,CU⟩
 refine ag ?_ ?_<;>intro h5 q5
 refine ac ?_
 refine cy h5 rfl (AA rfl underlying39 AZ (vl rfl) (vl rfl) (by omega) (by omega)) (cy h5 rfl (Ai 0 rfl (AE rfl A4 AZ (vl rfl) (AD (f:=AM) (fun _=>rfl) (by omega)) rfl)) ?_)
 refine ac ?_
 refine cy h5 rfl (AA rfl underlying39 AZ (vl rfl) (vl rfl) (by omega) (by omega)) (cy h5 rfl (Ai 0 rfl (AE rfl A4 AZ (vl rfl) (AD (f:=AM) (fun _=>rfl) (by omega)) rfl)) (cy h5 rfl (Af (_,_) rfl (vl rfl) ⟨ke rfl,ke rfl,trivial⟩) ?_))
 refine ac ?_
 refine D_ 0 1 4 11 12 65 rfl ?_
 refine Tr.cn rfl ?_ ?_<;>intro h6 q6
 have:=h6
 refine a2 ?_
 exact Fin.AF (y-1) ⟨⟨⟨by omega,by omega⟩,by rw [K4 (by omega) (by omega) (by omega) (ZV (by omega) (by omega) (by assumption))];exact CU⟩,by omega⟩ (N9 rfl)
 have:=h6
 refine Tr.exit (Fin.AG (Fin.AG (Fin.AX ?_)))
 exact Fin.AF () trivial ⟨⟨_,rfl,A3 _ (Ae ⟨⟨by omega,by omega⟩,trivial,by rw [←CU];exact (Em (by omega) (ZW (by omega) (by omega) (Int.not_lt.2 (by assumption)))).symm⟩ (Lr))⟩,ke rfl,ke rfl,ke rfl,ke rfl,trivial⟩
 refine ac ?_
 refine D_ 0 1 4 11 12 65 rfl (Tr.cond rfl (fun h=>nomatch h) (fun _=> ?_))
 refine Tr.exit (Fin.AG (Fin.AG (Fin.AX ?_)))
 exact Fin.AF () trivial ⟨⟨_,rfl,A3 _ (Ae ⟨⟨by omega,by omega⟩,trivial,by rw [←CU];exact (El (by omega) (by omega)).symm⟩ (Lr))⟩,ke rfl,ke rfl,ke rfl,ke rfl,trivial⟩
 refine Tr.ex 12 rfl (fun j2=>Tr.fact 12 rfl fun OZ=> ?_)
 obtain ⟨Sc,Sd,D5⟩:=OZ
 refine an ?_ ?_<;>intro h7 q7
 refine a2 ?_
 refine Tr.ret (Fin.BF (Jp c a b pv l) 0 rfl (⟨by omega,by rw [Ci.symm.trans (Gx D4 D5 (by omega) (by omega))]⟩) ?_)
 have hE:=Ci.symm.trans (Gx D4 D5 (by omega) (by omega))
 refine Fin.Bw rfl rfl ?_ (fun _ _ _ _=>rfl)
 · exact int_eq (by rw [hE];show i2=((i2.toNat:Nat):Int);omega)
 refine ac ?_
 refine Tr.seq (Tr.rx ?_)
 refine ay ?_
 refine xo rfl (fun _=>AA rfl underlying39 AZ (vl rfl) (vl rfl) (by omega) (by omega)) (CA 0 rfl rfl (AE rfl A4 AZ (vl rfl) (AD (f:=AM) (fun _=>rfl) (by omega)) rfl) ?_)
 refine ay ?_
 refine xo rfl (fun _=>AA rfl underlying39 AZ (vl rfl) (vl rfl) (by omega) (by omega)) (CA 0 rfl rfl (AE rfl A4 AZ (vl rfl) (AD (f:=AM) (fun _=>rfl) (by omega)) rfl) (xo rfl (fun _=>AA rfl underlying39 AZ (vl rfl) (vl rfl) (by omega) (by omega)) ?_))
 refine Cx.B4 0 rfl rfl (AU rfl rfl (vl rfl) (Va rfl) AZ rfl (by rw [AV (sz:=3) (fun _=>rfl)];omega) (AP (f:=AM) (fun _=>rfl) (by omega))) ?_
 refine xo rfl (fun _=>AA rfl underlying39 AZ (vl rfl) (vl rfl) (by omega) (by omega)) ?_
 refine Cx.B4 0 rfl rfl (AU rfl rfl (vl rfl) (Va rfl) AZ rfl (by rw [AV (sz:=3) (fun _=>rfl)];simp only [List.length_set];omega) (AP (f:=AM) (fun _=>rfl) (by simp only [List.length_set];omega))) ?_
 refine Cx.nil ⟨by kernel_rfl,?_⟩
 refine BT.done IK (Fin.go (Dv 0 1 4 11 12 rfl ?_))
 refine a2 ?_
 exact Fin.Ck (i2+1) (j2-1) (_)  (⟨⟨⟨⟨by omega,by omega⟩,by omega,by omega⟩,by simp only [List.length_set];exact Fz,(Rw D4 D5 (by omega) (by omega) (by omega) (by omega)).trans Ci⟩,by omega⟩) ⟨ke rfl,ke rfl,ke rfl,ke rfl,ke rfl,trivial⟩ (fun _ _ h=>h)
theorem Nn {l:List Ax} {c:Ax×Ax→Int} {b0 cap len:Nat} {sp:List Value} {a b pv:Int} (Dc:l.length=len) (GU:len≤1000000) (h0:0≤a) (hab:a<b) (hb:b≤len) (Di:a≤pv) (I7:pv<b):Am prog 157 [is (.slice (some ⟨b0,0,none⟩) len cap),int a,int b,int pv,Dh prog (fun x:Ax×Ax=>[agg (AM x.1),agg (AM x.2)]) (fun x=>int (c x))] (ex fun z:Bool=>fact True (ER [int ((PA c a b pv l).1:Nat),bool z])) (AB true b0 57 ((l.map AM).flatten++sp.map is)) (fun _=>BV b0 57 AM (Gy c a b pv l) (sp.map is)):=by
 refine Am.of func157 rfl rfl (by exact Nb rfl) fun M0 w0 S rs M1 w1=> ?_
 have EB:a.toNat<l.length:=by omega
 have DR:pv.toNat<l.length:=by omega
 have hS1:((l.set a.toNat (l[pv.toNat]'DR)).set pv.toNat (l[a.toNat]'EB)).length=len:=by simp only [List.length_set];exact Dc
 refine ac ?_
 refine Tr.seq (Tr.rx ?_)
 refine ay ?_
 refine xo rfl (fun _=>AA rfl underlying39 AZ (vl rfl) (vl rfl) (by omega) (by omega)) (CA 0 rfl rfl (AE rfl A4 AZ (vl rfl) (AD (f:=AM) (fun _=>rfl) (by omega)) rfl) ?_)
 refine ay ?_
 refine xo rfl (fun _=>AA rfl underlying39 AZ (vl rfl) (vl rfl) (by omega) (by omega)) (CA 0 rfl rfl (AE rfl A4 AZ (vl rfl) (AD (f:=AM) (fun _=>rfl) (by omega)) rfl) (xo rfl (fun _=>AA rfl underlying39 AZ (vl rfl) (vl rfl) (by omega) (by omega)) ?_))
 refine Cx.B4 0 rfl rfl (AU rfl rfl (vl rfl) (Va rfl) AZ rfl (by rw [AV (sz:=3) (fun _=>rfl)];omega) (AP (f:=AM) (fun _=>rfl) (by omega))) ?_
 refine xo rfl (fun _=>AA rfl underlying39 AZ (vl rfl) (vl rfl) (by omega) (by omega)) ?_
 refine Cx.B4 0 rfl rfl (AU rfl rfl (vl rfl) (Va rfl) AZ rfl (by rw [AV (sz:=3) (fun _=>rfl)];simp only [List.length_set];omega) (AP (f:=AM) (fun _=>rfl) (by simp only [List.length_set];omega))) ?_
 refine Cx.nil ⟨by kernel_rfl,?_⟩
 refine BT.done IK (Fin.go (Ks 0 1 2 4 rfl ?_))
 refine ac ?_
 refine Dv 0 1 4 12 13 rfl (Tr.FZ [0,1,4,13] [(12,ex fun y:Int=>fact (((a+1)≤y∧y≤b)∧True∧y.toNat=Go.Sort.scanUp (pU c ((l.set a.toNat (l[pv.toNat]'DR)).set pv.toNat (l[a.toNat]'EB)).toArray a) ((l.set a.toNat (l[pv.toNat]'DR)).set pv.toNat (l[a.toNat]'EB)).toArray ((b-1)).toNat ((a+1)).toNat) (int y))] (True) ?_ (fun h1=> ?_))
 refine Tr.block (Tr.BX [(0,_),(1,_),(4,_),(13,_)] (PL rfl) (fun y:Int=>[(12,int y)]) (fun y:Int=>((a+1)≤y∧y≤b)∧Go.Sort.scanUp (pU c ((l.set a.toNat (l[pv.toNat]'DR)).set pv.toNat (l[a.toNat]'EB)).toArray a) ((l.set a.toNat (l[pv.toNat]'DR)).set pv.toNat (l[a.toNat]'EB)).toArray ((b-1)).toNat (y).toNat=Go.Sort.scanUp (pU c ((l.set a.toNat (l[pv.toNat]'DR)).set pv.toNat (l[a.toNat]'EB)).toArray a) ((l.set a.toNat (l[pv.toNat]'DR)).set pv.toNat (l[a.toNat]'EB)).toArray ((b-1)).toNat ((a+1)).toNat) (fun y:Int=>(b-y).toNat) (a+1) (⟨⟨by omega,by omega⟩,rfl⟩) ⟨ke rfl,trivial⟩ ?_)
 rintro y ⟨⟨NK,NL⟩,CT⟩
 refine ag ?_ ?_<;>intro h2 q2
 refine ac ?_
 refine cy h2 rfl (AA rfl underlying39 AZ (vl rfl) (vl rfl) (by omega) (by omega)) (cy h2 rfl (Ai 0 rfl (AE rfl A4 AZ (vl rfl) (AD (f:=AM) (fun _=>rfl) (by omega)) rfl)) ?_)
 refine ac ?_
 refine cy h2 rfl (AA rfl underlying39 AZ (vl rfl) (vl rfl) (by omega) (by omega)) (cy h2 rfl (Ai 0 rfl (AE rfl A4 AZ (vl rfl) (AD (f:=AM) (fun _=>rfl) (by omega)) rfl)) (cy h2 rfl (Af (_,_) rfl (vl rfl) ⟨ke rfl,ke rfl,trivial⟩) ?_))
 refine ac ?_
 refine D_ 0 1 4 12 13 47 rfl ?_
 refine Tr.cn rfl ?_ ?_<;>intro h3 q3
 have:=h3
 refine a2 ?_
 exact Fin.AF (y+1) ⟨⟨⟨by omega,by omega⟩,by rw [K3 (by omega) (by omega) (by omega) (UH (by omega) (by omega) (by assumption))];exact CT⟩,by omega⟩ (N9 rfl)
 have:=h3
 refine Tr.exit (Fin.AG (Fin.AG (Fin.AX ?_)))
 exact Fin.AF () trivial ⟨⟨_,rfl,A3 _ (Ae ⟨⟨by omega,by omega⟩,trivial,by rw [←CT];exact (Ek (by omega) (UI (by omega) (by omega) (Int.not_lt.2 (by assumption)))).symm⟩ (Lr))⟩,ke rfl,ke rfl,ke rfl,ke rfl,trivial⟩
 refine ac ?_
 refine D_ 0 1 4 12 13 47 rfl (Tr.cond rfl (fun h=>nomatch h) (fun _=> ?_))
 refine Tr.exit (Fin.AG (Fin.AG (Fin.AX ?_)))
 exact Fin.AF () trivial ⟨⟨_,rfl,A3 _ (Ae ⟨⟨by omega,by omega⟩,trivial,by rw [←CT];exact (Ej (by omega) (by omega)).symm⟩ (Lr))⟩,ke rfl,ke rfl,ke rfl,ke rfl,trivial⟩
 refine Tr.ex 12 rfl (fun i1=>Tr.fact 12 rfl fun Xg=> ?_)
 obtain ⟨aW,aX,J8⟩:=Xg
 refine Dv 0 1 4 12 13 rfl (Tr.FZ [0,1,4,12] [(13,ex fun y:Int=>fact ((a≤y∧y≤(b-1))∧True∧y.toNat=Go.Sort.scanDown (pD c ((l.set a.toNat (l[pv.toNat]'DR)).set pv.toNat (l[a.toNat]'EB)).toArray a) ((l.set a.toNat (l[pv.toNat]'DR)).set pv.toNat (l[a.toNat]'EB)).toArray (i1).toNat ((b-1)).toNat) (int y))] (True) ?_ (fun h4=> ?_))
 refine Tr.block (Tr.BX [(0,_),(1,_),(4,_),(12,_)] (PL rfl) (fun y:Int=>[(13,int y)]) (fun y:Int=>(a≤y∧y≤(b-1))∧Go.Sort.scanDown (pD c ((l.set a.toNat (l[pv.toNat]'DR)).set pv.toNat (l[a.toNat]'EB)).toArray a) ((l.set a.toNat (l[pv.toNat]'DR)).set pv.toNat (l[a.toNat]'EB)).toArray (i1).toNat (y).toNat=Go.Sort.scanDown (pD c ((l.set a.toNat (l[pv.toNat]'DR)).set pv.toNat (l[a.toNat]'EB)).toArray a) ((l.set a.toNat (l[pv.toNat]'DR)).set pv.toNat (l[a.toNat]'EB)).toArray (i1).toNat ((b-1)).toNat) (fun y:Int=>(y-a).toNat) (b-1) (⟨⟨by omega,by omega⟩,rfl⟩) ⟨ke rfl,trivial⟩ ?_)
 rintro y ⟨⟨NM,NN⟩,CU⟩
 refine ag ?_ ?_<;>intro h5 q5
 refine ac ?_
 refine cy h5 rfl (AA rfl underlying39 AZ (vl rfl) (vl rfl) (by omega) (by omega)) (cy h5 rfl (Ai 0 rfl (AE rfl A4 AZ (vl rfl) (AD (f:=AM) (fun _=>rfl) (by omega)) rfl)) ?_)
 refine ac ?_
 refine cy h5 rfl (AA rfl underlying39 AZ (vl rfl) (vl rfl) (by omega) (by omega)) (cy h5 rfl (Ai 0 rfl (AE rfl A4 AZ (vl rfl) (AD (f:=AM) (fun _=>rfl) (by omega)) rfl)) (cy h5 rfl (Af (_,_) rfl (vl rfl) ⟨ke rfl,ke rfl,trivial⟩) ?_))
 refine ac ?_
 refine D_ 0 1 4 12 13 66 rfl ?_
 refine Tr.cn rfl ?_ ?_<;>intro h6 q6
 have:=h6
 refine a2 ?_
 exact Fin.AF (y-1) ⟨⟨⟨by omega,by omega⟩,by rw [K4 (by omega) (by omega) (by omega) (UJ (by omega) (by omega) (Int.not_lt.2 (by assumption)))];exact CU⟩,by omega⟩ (N9 rfl)
 have:=h6
 refine Tr.exit (Fin.AG (Fin.AG (Fin.AX ?_)))
 exact Fin.AF () trivial ⟨⟨_,rfl,A3 _ (Ae ⟨⟨by omega,by omega⟩,trivial,by rw [←CU];exact (Em (by omega) (UK (by omega) (by omega) (by assumption))).symm⟩ (Lr))⟩,ke rfl,ke rfl,ke rfl,ke rfl,trivial⟩
 refine ac ?_
 refine D_ 0 1 4 12 13 66 rfl (Tr.cond rfl (fun h=>nomatch h) (fun _=> ?_))
 refine Tr.exit (Fin.AG (Fin.AG (Fin.AX ?_)))
 exact Fin.AF () trivial ⟨⟨_,rfl,A3 _ (Ae ⟨⟨by omega,by omega⟩,trivial,by rw [←CU];exact (El (by omega) (by omega)).symm⟩ (Lr))⟩,ke rfl,ke rfl,ke rfl,ke rfl,trivial⟩
 refine Tr.ex 13 rfl (fun j1=>Tr.fact 13 rfl fun Xh=> ?_)
 obtain ⟨aY,aZ,J9⟩:=Xh
 refine an ?_ ?_<;>intro h7 q7
 refine Tr.seq (Tr.rx ?_)
 refine ay ?_
 refine xo rfl (fun _=>AA rfl underlying39 AZ (vl rfl) (vl rfl) (by omega) (by omega)) (CA 0 rfl rfl (AE rfl A4 AZ (vl rfl) (AD (f:=AM) (fun _=>rfl) (by omega)) rfl) ?_)
 refine ay ?_
 refine xo rfl (fun _=>AA rfl underlying39 AZ (vl rfl) (vl rfl) (by omega) (by omega)) (CA 0 rfl rfl (AE rfl A4 AZ (vl rfl) (AD (f:=AM) (fun _=>rfl) (by omega)) rfl) (xo rfl (fun _=>AA rfl underlying39 AZ (vl rfl) (vl rfl) (by omega) (by omega)) ?_))
 refine Cx.B4 0 rfl rfl (AU rfl rfl (vl rfl) (Va rfl) AZ rfl (by rw [AV (sz:=3) (fun _=>rfl)];omega) (AP (f:=AM) (fun _=>rfl) (by omega))) ?_
 refine xo rfl (fun _=>AA rfl underlying39 AZ (vl rfl) (vl rfl) (by omega) (by omega)) ?_
 refine Cx.B4 0 rfl rfl (AU rfl rfl (vl rfl) (Va rfl) AZ rfl (by rw [AV (sz:=3) (fun _=>rfl)];simp only [List.length_set];omega) (AP (f:=AM) (fun _=>rfl) (by simp only [List.length_set];omega))) ?_
 refine Cx.nil ⟨by kernel_rfl,?_⟩
 refine BT.done IK (Fin.go (Cc 13 rfl ?_))
 refine ac ?_
 refine Tr.ret (Fin.AK (Fin.BF (Gy c a b pv l) 0 rfl (⟨by simp only [List.length_set],(DV h0 hab EB DR (Ct J8 J9 (by omega) (by omega)) (by omega) (by omega)).2⟩) (Fin.Cs [] rfl (Bc.tmp rfl (Lr)) (Bc.tmp rfl (Lr)) ?_)))
 · exact A3 true (Ae trivial (Pr.le_of_eq (by rw [(DV h0 hab EB DR (Ct J8 J9 (by omega) (by omega)) (by omega) (by omega)).1,Int.toNat_of_nonneg (by omega)])))
 refine ac ?_
 refine Tr.seq (Tr.rx ?_)
 refine ay ?_
 refine xo rfl (fun _=>AA rfl underlying39 AZ (vl rfl) (vl rfl) (by omega) (by omega)) (CA 0 rfl rfl (AE rfl A4 AZ (vl rfl) (AD (f:=AM) (fun _=>rfl) (by omega)) rfl) ?_)
 refine ay ?_
 refine xo rfl (fun _=>AA rfl underlying39 AZ (vl rfl) (vl rfl) (by omega) (by omega)) (CA 0 rfl rfl (AE rfl A4 AZ (vl rfl) (AD (f:=AM) (fun _=>rfl) (by omega)) rfl) (xo rfl (fun _=>AA rfl underlying39 AZ (vl rfl) (vl rfl) (by omega) (by omega)) ?_))
 refine Cx.B4 0 rfl rfl (AU rfl rfl (vl rfl) (Va rfl) AZ rfl (by rw [AV (sz:=3) (fun _=>rfl)];omega) (AP (f:=AM) (fun _=>rfl) (by omega))) ?_
 refine xo rfl (fun _=>AA rfl underlying39 AZ (vl rfl) (vl rfl) (by omega) (by omega)) ?_
 refine Cx.B4 0 rfl rfl (AU rfl rfl (vl rfl) (Va rfl) AZ rfl (by rw [AV (sz:=3) (fun _=>rfl)];simp only [List.length_set];omega) (AP (f:=AM) (fun _=>rfl) (by simp only [List.length_set];omega))) ?_
 refine Cx.nil ⟨by kernel_rfl,?_⟩
 refine BT.done IK (Fin.go (Dv 0 1 4 12 13 rfl ?_))
 refine a2 ?_
 refine Tr.seq (Tr.block ?_)
 refine Tr.Dz [(0,_),(1,_),(4,_)] ⟨ke rfl,ke rfl,ke rfl,trivial⟩ (fun (i:Int) (j:Int) (st:List Ax)=>[(12,int i),(13,int j)]) (fun (i:Int) (j:Int) (st:List Ax)=>Hp M0 w0 S (AB true b0 57 ((st.map AM).flatten++sp.map is)::Aa M1 w1::rs)) (fun (i:Int) (j:Int) (st:List Ax)=>((a<i∧i≤b)∧a≤j∧j<b)∧st.length=len∧Tj c a i j st.toArray=Tj c a (a+1) (b-1) ((l.set a.toNat (l[pv.toNat]'DR)).set pv.toNat (l[a.toNat]'EB)).toArray) (fun (i:Int) (j:Int) (st:List Ax)=>(j-i+2).toNat) (i1+1) (j1-1) (_)  (⟨⟨⟨by omega,by omega⟩,by omega,by omega⟩,by simp only [List.length_set];exact Dc,I9 J8 J9 (by omega) (by omega) (by omega) (by omega)⟩) ⟨ke rfl,ke rfl,trivial⟩ (fun _ _ h=>h) ?_
 rintro i j st  ⟨⟨⟨hi1,hi2⟩,RC,hj2⟩,Fz,Ci⟩
 refine Tr.block (Dv 0 1 4 12 13 rfl (Tr.FZ [0,1,4,13] [(12,ex fun y:Int=>fact ((i≤y∧y≤b)∧True∧y.toNat=Go.Sort.scanUp (pU c st.toArray a) st.toArray (j).toNat (i).toNat) (int y))] (True) ?_ (fun h8=> ?_)))
 refine Tr.block (Tr.BX [(0,_),(1,_),(4,_),(13,_)] (PL rfl) (fun y:Int=>[(12,int y)]) (fun y:Int=>(i≤y∧y≤b)∧Go.Sort.scanUp (pU c st.toArray a) st.toArray (j).toNat (y).toNat=Go.Sort.scanUp (pU c st.toArray a) st.toArray (j).toNat (i).toNat) (fun y:Int=>(b-y).toNat) i (⟨⟨by omega,by omega⟩,rfl⟩) ⟨ke rfl,trivial⟩ ?_)
 rintro y ⟨⟨NK,NL⟩,CT⟩
 refine ag ?_ ?_<;>intro h9 q9
 refine ac ?_
 refine cy h9 rfl (AA rfl underlying39 AZ (vl rfl) (vl rfl) (by omega) (by omega)) (cy h9 rfl (Ai 0 rfl (AE rfl A4 AZ (vl rfl) (AD (f:=AM) (fun _=>rfl) (by omega)) rfl)) ?_)
 refine ac ?_
 refine cy h9 rfl (AA rfl underlying39 AZ (vl rfl) (vl rfl) (by omega) (by omega)) (cy h9 rfl (Ai 0 rfl (AE rfl A4 AZ (vl rfl) (AD (f:=AM) (fun _=>rfl) (by omega)) rfl)) (cy h9 rfl (Af (_,_) rfl (vl rfl) ⟨ke rfl,ke rfl,trivial⟩) ?_))
 refine ac ?_
 refine D_ 0 1 4 12 13 120 rfl ?_
 refine Tr.cn rfl ?_ ?_<;>intro h10 UT
 have:=h10
 refine a2 ?_
 exact Fin.AF (y+1) ⟨⟨⟨by omega,by omega⟩,by rw [K3 (by omega) (by omega) (by omega) (UH (by omega) (by omega) (by assumption))];exact CT⟩,by omega⟩ (N9 rfl)
 have:=h10
 refine Tr.exit (Fin.AG (Fin.AG (Fin.AX ?_)))
 exact Fin.AF () trivial ⟨⟨_,rfl,A3 _ (Ae ⟨⟨by omega,by omega⟩,trivial,by rw [←CT];exact (Ek (by omega) (UI (by omega) (by omega) (Int.not_lt.2 (by assumption)))).symm⟩ (Lr))⟩,ke rfl,ke rfl,ke rfl,ke rfl,trivial⟩
 refine ac ?_
 refine D_ 0 1 4 12 13 120 rfl (Tr.cond rfl (fun h=>nomatch h) (fun _=> ?_))
 refine Tr.exit (Fin.AG (Fin.AG (Fin.AX ?_)))
 exact Fin.AF () trivial ⟨⟨_,rfl,A3 _ (Ae ⟨⟨by omega,by omega⟩,trivial,by rw [←CT];exact (Ej (by omega) (by omega)).symm⟩ (Lr))⟩,ke rfl,ke rfl,ke rfl,ke rfl,trivial⟩
 refine Tr.ex 12 rfl (fun i2=>Tr.fact 12 rfl fun OY=> ?_)
 obtain ⟨Sa,Sb,D4⟩:=OY
 refine Dv 0 1 4 12 13 rfl (Tr.FZ [0,1,4,12] [(13,ex fun y:Int=>fact ((a≤y∧y≤j)∧True∧y.toNat=Go.Sort.scanDown (pD c st.toArray a) st.toArray (i2).toNat (j).toNat) (int y))] (True) ?_ (fun h11=> ?_))
 refine Tr.block (Tr.BX [(0,_),(1,_),(4,_),(12,_)] (PL rfl) (fun y:Int=>[(13,int y)]) (fun y:Int=>(a≤y∧y≤j)∧Go.Sort.scanDown (pD c st.toArray a) st.toArray (i2).toNat (y).toNat=Go.Sort.scanDown (pD c st.toArray a) st.toArray (i2).toNat (j).toNat) (fun y:Int=>(y-a).toNat) j (⟨⟨by omega,by omega⟩,rfl⟩) ⟨ke rfl,trivial⟩ ?_)
 rintro y ⟨⟨NM,NN⟩,CU⟩
 refine ag ?_ ?_<;>intro h12 WN
 refine ac ?_
 refine cy h12 rfl (AA rfl underlying39 AZ (vl rfl) (vl rfl) (by omega) (by omega)) (cy h12 rfl (Ai 0 rfl (AE rfl A4 AZ (vl rfl) (AD (f:=AM) (fun _=>rfl) (by omega)) rfl)) ?_)
 refine ac ?_
 refine cy h12 rfl (AA rfl underlying39 AZ (vl rfl) (vl rfl) (by omega) (by omega)) (cy h12 rfl (Ai 0 rfl (AE rfl A4 AZ (vl rfl) (AD (f:=AM) (fun _=>rfl) (by omega)) rfl)) (cy h12 rfl (Af (_,_) rfl (vl rfl) ⟨ke rfl,ke rfl,trivial⟩) ?_))
 refine ac ?_
 refine D_ 0 1 4 12 13 139 rfl ?_
 refine Tr.cn rfl ?_ ?_<;>intro Pg XS
 have:=Pg
 refine a2 ?_
 exact Fin.AF (y-1) ⟨⟨⟨by omega,by omega⟩,by rw [K4 (by omega) (by omega) (by omega) (UJ (by omega) (by omega) (Int.not_lt.2 (by assumption)))];exact CU⟩,by omega⟩ (N9 rfl)
 have:=Pg
 refine Tr.exit (Fin.AG (Fin.AG (Fin.AX ?_)))
 exact Fin.AF () trivial ⟨⟨_,rfl,A3 _ (Ae ⟨⟨by omega,by omega⟩,trivial,by rw [←CU];exact (Em (by omega) (UK (by omega) (by omega) (by assumption))).symm⟩ (Lr))⟩,ke rfl,ke rfl,ke rfl,ke rfl,trivial⟩
 refine ac ?_
 refine D_ 0 1 4 12 13 139 rfl (Tr.cond rfl (fun h=>nomatch h) (fun _=> ?_))
 refine Tr.exit (Fin.AG (Fin.AG (Fin.AX ?_)))
 exact Fin.AF () trivial ⟨⟨_,rfl,A3 _ (Ae ⟨⟨by omega,by omega⟩,trivial,by rw [←CU];exact (El (by omega) (by omega)).symm⟩ (Lr))⟩,ke rfl,ke rfl,ke rfl,ke rfl,trivial⟩
 refine Tr.ex 13 rfl (fun j2=>Tr.fact 13 rfl fun OZ=> ?_)
 obtain ⟨Sc,Sd,D5⟩:=OZ
 refine an ?_ ?_<;>intro Pn aA
 refine ac ?_
 refine Tr.seq (Tr.rx ?_)
 refine ay ?_
 refine xo rfl (fun _=>AA rfl underlying39 AZ (vl rfl) (vl rfl) (by omega) (by omega)) (CA 0 rfl rfl (AE rfl A4 AZ (vl rfl) (AD (f:=AM) (fun _=>rfl) (by omega)) rfl) ?_)
 refine ay ?_
 refine xo rfl (fun _=>AA rfl underlying39 AZ (vl rfl) (vl rfl) (by omega) (by omega)) (CA 0 rfl rfl (AE rfl A4 AZ (vl rfl) (AD (f:=AM) (fun _=>rfl) (by omega)) rfl) (xo rfl (fun _=>AA rfl underlying39 AZ (vl rfl) (vl rfl) (by omega) (by omega)) ?_))
 refine Cx.B4 0 rfl rfl (AU rfl rfl (vl rfl) (Va rfl) AZ rfl (by rw [AV (sz:=3) (fun _=>rfl)];omega) (AP (f:=AM) (fun _=>rfl) (by omega))) ?_
 refine xo rfl (fun _=>AA rfl underlying39 AZ (vl rfl) (vl rfl) (by omega) (by omega)) ?_
 refine Cx.B4 0 rfl rfl (AU rfl rfl (vl rfl) (Va rfl) AZ rfl (by rw [AV (sz:=3) (fun _=>rfl)];simp only [List.length_set];omega) (AP (f:=AM) (fun _=>rfl) (by simp only [List.length_set];omega))) ?_
 refine Cx.nil ⟨by kernel_rfl,?_⟩
 refine BT.done IK (Fin.go (Cc 13 rfl ?_))
 refine ac ?_
 refine Tr.ret ?_
 refine Fin.BF (Gy c a b pv l) 0 rfl (⟨by simp only [List.length_set];omega,(DV h0 hab EB DR (Ci.symm.trans (Ct D4 D5 (by omega) (by omega))) (by omega) (by omega)).2⟩) ?_
 refine Fin.Cs [] rfl (Bc.tmp rfl (Lr)) (Bc.tmp rfl (Lr)) ?_
 · exact A3 false (Ae trivial (Pr.le_of_eq (by rw [(DV h0 hab EB DR (Ci.symm.trans (Ct D4 D5 (by omega) (by omega))) (by omega) (by omega)).1,Int.toNat_of_nonneg (by omega)])))
 refine ac ?_
 refine Tr.seq (Tr.rx ?_)
 refine ay ?_
 refine xo rfl (fun _=>AA rfl underlying39 AZ (vl rfl) (vl rfl) (by omega) (by omega)) (CA 0 rfl rfl (AE rfl A4 AZ (vl rfl) (AD (f:=AM) (fun _=>rfl) (by omega)) rfl) ?_)
 refine ay ?_
 refine xo rfl (fun _=>AA rfl underlying39 AZ (vl rfl) (vl rfl) (by omega) (by omega)) (CA 0 rfl rfl (AE rfl A4 AZ (vl rfl) (AD (f:=AM) (fun _=>rfl) (by omega)) rfl) (xo rfl (fun _=>AA rfl underlying39 AZ (vl rfl) (vl rfl) (by omega) (by omega)) ?_))
 refine Cx.B4 0 rfl rfl (AU rfl rfl (vl rfl) (Va rfl) AZ rfl (by rw [AV (sz:=3) (fun _=>rfl)];omega) (AP (f:=AM) (fun _=>rfl) (by omega))) ?_
 refine xo rfl (fun _=>AA rfl underlying39 AZ (vl rfl) (vl rfl) (by omega) (by omega)) ?_
 refine Cx.B4 0 rfl rfl (AU rfl rfl (vl rfl) (Va rfl) AZ rfl (by rw [AV (sz:=3) (fun _=>rfl)];simp only [List.length_set];omega) (AP (f:=AM) (fun _=>rfl) (by simp only [List.length_set];omega))) ?_
 refine Cx.nil ⟨by kernel_rfl,?_⟩
 refine BT.done IK (Fin.go (Dv 0 1 4 12 13 rfl ?_))
 refine a2 ?_
 exact Fin.Ck (i2+1) (j2-1) (_)  (⟨⟨⟨⟨by omega,by omega⟩,by omega,by omega⟩,by simp only [List.length_set];exact Fz,(I9 D4 D5 (by omega) (by omega) (by omega) (by omega)).trans Ci⟩,by omega⟩) ⟨ke rfl,ke rfl,ke rfl,ke rfl,ke rfl,trivial⟩ (fun _ _ h=>h)
theorem TK {l:List Ax} {c:Ax×Ax→Int} {b0 cap len:Nat} {sp:List Value} {a b:Int} (Dc:l.length=len) (GU:len≤1000000) (hw:Go.Sort.SWO (BM c)) (h0:0≤a) (hab:a<b) (hb:b≤len) (aa:b<50):Am prog 155 [is (.slice (some ⟨b0,0,none⟩) len cap),int a,int b,Dh prog (fun x:Ax×Ax=>[agg (AM x.1),agg (AM x.2)]) (fun x=>int (c x))] (ex fun z:Bool=>fact (z=true→Go.Sort.SortedIn (BM c) a.toNat b.toNat l.toArray) (bool z)) (AB true b0 57 ((l.map AM).flatten++sp.map is)) (fun _=>AB true b0 57 ((l.map AM).flatten++sp.map is)):=by
 refine Am.of func155 rfl rfl (by exact Nb rfl) fun M0 w0 S rs M1 w1=> ?_
 refine a3 ?_
 refine Tr.block (Tr.Bk [(0,_),(1,_),(2,_),(3,_)] ⟨ke rfl,ke rfl,ke rfl,ke rfl,trivial⟩ (fun (i:Int) (j:Int)=>[(9,int i),(10,int j)]) (fun (i:Int) (j:Int)=>Hp M0 w0 S (AB true b0 57 ((l.map AM).flatten++sp.map is)::Aa M1 w1::rs)) (fun (i:Int) (j:Int)=>(j=0∧a<i∧i≤b)∧QX c a i l) (fun (i:Int) (j:Int)=>(5-j).toNat) (a+1) (0)  (⟨⟨rfl,by omega,by omega⟩,QX.start a l h0⟩) ⟨ke rfl,ke rfl,trivial⟩ (fun _ _ h=>h) ?_)
 rintro i j  ⟨⟨hj0,hi1,hi2⟩,Xi⟩
 refine an ?_ ?_<;>intro h1 q1
 skip
 refine ac ?_
 refine Tr.seq (Tr.block (Tr.seq (Tr.block (Tr.BX [(0,_),(1,_),(2,_),(3,_),(10,_)] (N9 rfl) (fun i2:Int=>[(9,int i2)]) (fun i2:Int=>(a<i2∧i2≤b)∧QX c a i2 l) (fun i2:Int=>(b-i2).toNat) i (⟨⟨hi1,hi2⟩,Xi⟩) ⟨ke rfl,trivial⟩ ?_))))
 rintro i2 ⟨⟨Un,hi4⟩,J_⟩
 refine ag ?_ ?_<;>intro h2 q2
 refine ac ?_
 refine cy h2 rfl (AA rfl underlying39 AZ (vl rfl) (vl rfl) (by omega) (by omega)) (cy h2 rfl (Ai 0 rfl (AE rfl A4 AZ (vl rfl) (AD (f:=AM) (fun _=>rfl) (by omega)) rfl)) ?_)
 refine ac ?_
 refine cy h2 rfl (AA rfl underlying39 AZ (vl rfl) (vl rfl) (by omega) (by omega)) (cy h2 rfl (Ai 0 rfl (AE rfl A4 AZ (vl rfl) (AD (f:=AM) (fun _=>rfl) (by omega)) rfl)) (cy h2 rfl (Af (_,_) rfl (vl rfl) ⟨ke rfl,ke rfl,trivial⟩) ?_))
 refine ac ?_
 refine E5 0 1 2 3 9 10 36 rfl ?_
 refine Tr.cn rfl ?_ ?_<;>intro h3 q3
 have:=h3
 refine a2 ?_
 exact Fin.AF (i2+1) ⟨⟨⟨by omega,by omega⟩,J_.go h0 (by omega) rfl (by omega) (by omega) (by assumption)⟩,by omega⟩ (gj rfl)
 have:=h3
 refine ac ?_
 refine an ?_ ?_<;>intro h4 q4
 refine ac ?_
 refine Tr.ret (Fin.AK (Fin.AS (Fin.AK (Fin.AK (Fin.AS (Fin.AK (Fin.Bw rfl rfl ?_ (fun _ _ _ _=>rfl))))))))
 · exact A3 true (Ae (fun _=>by rw [show b=i2 by omega];exact J_.sorted hw) (Lr))
 refine a2 ?_
 refine E5 0 1 2 3 9 10 45 rfl ?_
 refine Tr.cn rfl ?_ ?_<;>intro h5 q5
 refine ac ?_
 refine Tr.ret (Fin.AK (Fin.AS (Fin.AK (Fin.AK (Fin.AS (Fin.AK (Fin.Bw rfl rfl ?_ (fun _ _ _ _=>rfl))))))))
 · exact A3 false (Ae (fun h=>nomatch h) (Lr))
 exfalso;omega
 refine ac ?_
 refine E5 0 1 2 3 9 10 36 rfl ?_
 refine ac ?_
 refine an ?_ ?_<;>intro h6 q6
 refine ac ?_
 refine Tr.ret (Fin.AK (Fin.AS (Fin.AK (Fin.AK (Fin.AS (Fin.AK (Fin.Bw rfl rfl ?_ (fun _ _ _ _=>rfl))))))))
 · exact A3 true (Ae (fun _=>by rw [show b=i2 by omega];exact J_.sorted hw) (Lr))
 refine a2 ?_
 refine E5 0 1 2 3 9 10 45 rfl ?_
 refine Tr.cn rfl ?_ ?_<;>intro h7 q7
 refine ac ?_
 refine Tr.ret (Fin.AK (Fin.AS (Fin.AK (Fin.AK (Fin.AS (Fin.AK (Fin.Bw rfl rfl ?_ (fun _ _ _ _=>rfl))))))))
 · exact A3 false (Ae (fun h=>nomatch h) (Lr))
 exfalso;omega
 have jy:¬j<5:=of_decide_eq_false h1
 exfalso;omega
theorem KU {sb:Nat} {l:List Ax} {c:Ax×Ax→Int} {b0 cap len:Nat} {sp:List Value} {a b:Int} (Dc:l.length=len) (GU:len≤1000000) (h0:0≤a) (ha:a<len) (h1:0≤b) (hb:b<len):Jk prog 214 [is (.slice (some ⟨b0,0,none⟩) len cap),int a,int b,is (.pointer (some ⟨sb,0,none⟩)),Dh prog (fun x:Ax×Ax=>[agg (AM x.1),agg (AM x.2)]) (fun x=>int (c x))] (ex fun z:Int×Int=>fact ((z.1=a∧z.2=b)∨(z.1=b∧z.2=a)) (ER [int z.1,int z.2])) (AB true sb 3 [Cq .i64]) (AB true sb 3 [Cq .i64]) (AB true b0 57 ((l.map AM).flatten++sp.map is)):=by
 refine Jk.of func214 rfl rfl (by exact Nb rfl) fun M0 w0 S rs M1 w1=> ?_
 refine a2 ?_
 refine co rfl (AA rfl underlying39 AZ (vl rfl) (vl rfl) (by omega) (by omega)) (co rfl (Ai 2 rfl (AE rfl A4 AZ (vl rfl) (AD (f:=AM) (fun _=>rfl) (by omega)) rfl)) ?_)
 refine ac ?_
 refine co rfl (AA rfl underlying39 AZ (vl rfl) (vl rfl) (by omega) (by omega)) (co rfl (Ai 2 rfl (AE rfl A4 AZ (vl rfl) (AD (f:=AM) (fun _=>rfl) (by omega)) rfl)) (co rfl (Af (_,_) rfl (vl rfl) ⟨ke rfl,ke rfl,trivial⟩) ?_))
 refine an ?_ ?_<;>intro h1 q1
 refine ap ?_
 refine tp rfl (PV rfl (vl rfl) (VL.le (vl rfl) (EK _ _))) ?_
 refine ap ?_
 refine Fl 1 2 rfl ?_
 refine ac ?_
 refine Tr.ret (Fin.AK (Fin.Cs [] rfl (Bc.tmp rfl (Lr)) (Bc.tmp rfl (Lr)) ?_))
 · exact A3 (b,a) (Ae (.inr ⟨rfl,rfl⟩) (Lr))
 refine a2 ?_
 refine Fl 10 11 rfl (Tr.ret (Fin.Cs [] rfl (Bc.tmp rfl (Lr)) (Bc.tmp rfl (Lr)) ?_))
 · exact A3 (a,b) (Ae (.inl ⟨rfl,rfl⟩) (Lr))
theorem VZ {sb:Nat} {l:List Ax} {c:Ax×Ax→Int} {b0 cap len:Nat} {sp:List Value} {a b d:Int} (Dc:l.length=len) (GU:len≤1000000) (h0:0≤a) (ha:a<len) (h1:0≤b) (hb:b<len) (h2:0≤d) (hd:d<len):Jk prog 190 [is (.slice (some ⟨b0,0,none⟩) len cap),int a,int b,int d,is (.pointer (some ⟨sb,0,none⟩)),Dh prog (fun x:Ax×Ax=>[agg (AM x.1),agg (AM x.2)]) (fun x=>int (c x))] (ex fun z:Int=>fact (z=a∨z=b∨z=d) (int z)) (AB true sb 3 [Cq .i64]) (AB true sb 3 [Cq .i64]) (AB true b0 57 ((l.map AM).flatten++sp.map is)):=by
 refine Jk.of func190 rfl rfl (by exact Nb rfl) fun M0 w0 S rs M1 w1=> ?_
 refine ac ?_
 refine ap ?_
 refine TO.IF 0 2 rfl rfl (by decide) rfl rfl (by decide) rfl (KU (by omega) (by omega) (by omega) (by omega) (by omega) (by omega)) ⟨ke rfl,ke rfl,ke rfl,ke rfl,ke rfl,trivial⟩ ?_
 refine TO.ex 19 rfl (fun z1=>TO.fact 19 rfl fun MR=> ?_)
 refine ap ?_
 refine ap ?_
 refine TO.IF 0 2 rfl rfl (by decide) rfl rfl (by decide) rfl (KU (by omega) (by omega) (by omega) (by omega) (by omega) (by omega)) ⟨ke rfl,ke rfl,ke rfl,ke rfl,ke rfl,trivial⟩ ?_
 refine TO.ex 28 rfl (fun z2=>TO.fact 28 rfl fun RN=> ?_)
 refine ap ?_
 refine Dv 0 1 2 4 5 rfl ?_
 refine ap ?_
 refine TO.IF 0 2 rfl rfl (by decide) rfl rfl (by decide) rfl (KU (by omega) (by omega) (by omega) (by omega) (by omega) (by omega)) ⟨ke rfl,ke rfl,ke rfl,ke rfl,ke rfl,trivial⟩ ?_
 refine TO.ex 37 rfl (fun z3=>TO.fact 37 rfl fun fU=> ?_)
 refine ap ?_
 refine Cc 2 rfl ?_
 refine ac ?_
 refine Tr.ret (Fin.Bw rfl rfl ?_ (fun _ _ _ _=>rfl))
 · exact A3 _ (Ae (by omega) (Lr))
theorem Vb {l:List Ax} {c:Ax×Ax→Int} {b0 cap len:Nat} {sp:List Value} {a b:Int} (Dc:l.length=len) (GU:len≤1000000) (h0:0≤a) (hab:a<b) (hb:b≤len) (aa:b<50):Am prog 153 [is (.slice (some ⟨b0,0,none⟩) len cap),int a,int b,Dh prog (fun x:Ax×Ax=>[agg (AM x.1),agg (AM x.2)]) (fun x=>int (c x))] (ex fun z:Int×Int=>fact (a≤z.1∧z.1<b) (ER [int z.1,int z.2])) (AB true b0 57 ((l.map AM).flatten++sp.map is)) (fun _=>AB true b0 57 ((l.map AM).flatten++sp.map is)):=by
 refine Am.of func153 rfl rfl (by exact Nb rfl) fun M0 w0 S rs M1 w1=> ?_
 have hq:=PX (n:=b-a) (by omega) (by omega)
 obtain ⟨hq1,QG,ZN⟩:=hq
 refine a2 ?_
 refine Tr.seq (Tr.Cl ?_)
 refine Tl rfl rfl rfl rfl z3 dW (fun b1=> ?_)
 refine ap ?_
 refine ac ?_
 refine co rfl (CC rfl (vl rfl) (vl rfl) (by omega)) ?_
 refine co rfl (DZ rfl (vl rfl) (vl rfl) ?hin) ?_;case hin=>unfold CR;omega
 refine ac ?_
 refine D_ 0 1 3 10 11 12 rfl ?_
 refine ac ?_
 refine co rfl (CC rfl (vl rfl) (vl rfl) (by omega)) ?_
 refine co rfl (DZ rfl (vl rfl) (vl rfl) ?hin) ?_;case hin=>unfold CR;omega
 refine a2 ?_
 refine co rfl (CC rfl (vl rfl) (vl rfl) (by omega)) ?_
 refine co rfl (DZ rfl (vl rfl) (vl rfl) ?hin) ?_;case hin=>unfold CR;omega
 refine ac ?_
 refine E5 0 3 10 11 12 13 14 rfl ?_
 refine an ?_ ?_<;>intro h1 q1
 refine an ?_ ?_<;>intro h2 q2
 exfalso;omega
 refine ac ?_
 refine Tr.WG 0 [Cq .i64] rfl ⟨EK _ _,trivial⟩ ?_
 refine ap ?_
 refine TO.IF 0 1 rfl rfl (by decide) rfl rfl (by decide) rfl (VZ (by omega) (by omega) (by omega) (by omega) (by omega) (by omega) (by omega) (by omega)) ⟨ke rfl,ke rfl,ke rfl,ke rfl,ke rfl,ke rfl,trivial⟩ ?_
 refine TO.ex 54 rfl (fun z1=>TO.fact 54 rfl fun MR=> ?_)
 refine ap ?_
 refine Fl 11 13 rfl ?_
 refine ac ?_
 refine Tr.drop 0 (Tr.block (Tr.seq (Tr.ex 55 rfl fun sw=> ?_)))
 refine an ?_ ?_<;>intro h3 q3
 refine ac ?_
 refine Tr.ret (Fin.AS (Fin.Cs [] rfl (Bc.tmp rfl (Lr)) (Bc.tmp rfl (Lr)) ?_))
 · exact A3 (_,_) (Ae ⟨by omega,by omega⟩ (Lr))
 refine an ?_ ?_<;>intro h4 q4
 refine ac ?_
 refine Tr.ret (Fin.AS (Fin.Cs [] rfl (Bc.tmp rfl (Lr)) (Bc.tmp rfl (Lr)) ?_))
 · exact A3 (_,_) (Ae ⟨by omega,by omega⟩ (Lr))
 refine ac ?_
 refine Tr.ret (Fin.AS (Fin.Cs [] rfl (Bc.tmp rfl (Lr)) (Bc.tmp rfl (Lr)) ?_))
 · exact A3 (_,_) (Ae ⟨by omega,by omega⟩ (Lr))
 refine ac ?_
 refine Tr.seq (Tr.WG 0 [Cq .i64] rfl ⟨EK _ _,trivial⟩ ?_)
 refine ac ?_
 refine Tr.drop 0 (Tr.block (Tr.seq (Tr.ex 55 rfl fun sw=> ?_)))
 refine an ?_ ?_<;>intro h5 q5
 refine ac ?_
 refine Fl 8 9 rfl (Tr.ret (Fin.AS (Fin.Cs [] rfl (Bc.tmp rfl (Lr)) (Bc.tmp rfl (Lr)) ?_)))
 · exact A3 (_,_) (Ae ⟨by omega,by omega⟩ (Lr))
 refine ac ?_
 refine Fl 13 60 rfl ?_
 refine Tr.cn rfl ?_ ?_<;>intro h6 q6
 refine ac ?_
 refine Tr.ret (Fin.AS (Fin.Cs [] rfl (Bc.tmp rfl (Lr)) (Bc.tmp rfl (Lr)) ?_))
 · exact A3 (_,_) (Ae ⟨by omega,by omega⟩ (Lr))
 refine ac ?_
 refine Tr.ret (Fin.AS (Fin.Cs [] rfl (Bc.tmp rfl (Lr)) (Bc.tmp rfl (Lr)) ?_))
 · exact A3 (_,_) (Ae ⟨by omega,by omega⟩ (Lr))
theorem Vc {l:List Ax} {c:Ax×Ax→Int} {b0 cap len:Nat} {sp:List Value} {a b:Int} (Dc:l.length=len) (GU:len≤1000000) (h0:0≤a) (hab:a≤b) (hb:b≤len) (aa:b<50):Am prog 152 [is (.slice (some ⟨b0,0,none⟩) len cap),int a,int b,Dh prog (fun x:Ax×Ax=>[agg (AM x.1),agg (AM x.2)]) (fun x=>int (c x))] (Bx) (AB true b0 57 ((l.map AM).flatten++sp.map is)) (fun _=>BV b0 57 AM (Bg a b l) (sp.map is)):=by
 refine Am.of func152 rfl rfl (by exact Nb rfl) fun M0 w0 S rs M1 w1=> ?_
 have hq:=PX (n:=b-a) (by omega) (by omega)
 obtain ⟨hq1,QG,ZN⟩:=hq
 refine ac ?_
 refine an ?_ ?_<;>intro h1 q1
 refine ap ?_
 refine tp rfl (C5 rfl underlying3 underlying189 (vl rfl)) ?_
 refine Tl rfl rfl rfl rfl ZE V5 (fun b1=> ?_)
 refine ap ?_
 refine Tr.seq (Tr.WG 0 [Cq .u64] rfl ⟨EK _ _,trivial⟩ ?_)
 refine ap ?_
 refine tp rfl (EC (SY (by omega) (by omega)) rfl rfl) ?_
 refine TO.ex 21 rfl (fun md=>TO.fact 21 rfl fun fV=> ?_)
 obtain ⟨fW,fX⟩:=fV
 have jz:IntKind.u64.wrap (md-1)=md-1:=IntWalk.u64_in _ ⟨by omega,by omega⟩
 refine ap ?_
 refine ac ?_
 refine co rfl (CC rfl (vl rfl) (vl rfl) (by omega)) ?_
 refine co rfl (DZ rfl (vl rfl) (vl rfl) ?hin) ?_;case hin=>unfold CR;omega
 refine ac ?_
 refine D_ 0 1 8 9 10 11 rfl (Tr.block (Tr.Bk [(0,_),(1,_),(8,_),(9,_),(10,_)] ⟨ke rfl,ke rfl,ke rfl,ke rfl,ke rfl,trivial⟩ (fun (i:Int) (st:List Ax)=>[(11,int i)]) (fun (i:Int) (st:List Ax)=>Hp M0 w0 S (AB true b1 189 [Cq .u64]::AB true b0 57 ((st.map AM).flatten++sp.map is)::Aa M1 w1::rs)) (fun (i:Int) (st:List Ax)=>(a≤i∧i≤b)∧st.length=len∧Bg a b l st) (fun (i:Int) (st:List Ax)=>(b-i).toNat) (a+IntKind.i64.wrap ((b-a).tdiv 4)*2-1) (l)  (⟨⟨by omega,by omega⟩,by omega,Bg.refl _ _ _⟩) ⟨ke rfl,trivial⟩ (fun _ _ h=>h) ?_))
 rintro i st  ⟨⟨hi1,hi2⟩,Fz,Ci⟩
 refine ac ?_
 refine co rfl (CC rfl (vl rfl) (vl rfl) (by omega)) ?_
 refine co rfl (DZ rfl (vl rfl) (vl rfl) ?hin) ?_;case hin=>unfold CR;omega
 refine ac ?_
 refine E5 0 1 8 9 10 11 35 rfl ?_
 refine Tr.cn rfl ?_ ?_<;>intro h2 q2
 have:=h2
 refine ac ?_
 refine Tr.seq (Tr.block (Tr.seq (Tr.Cl (TO.Dn 0 rfl rfl (by decide) (Ah rfl rfl (by decide) rfl (Pw) ⟨ke rfl,trivial⟩) ?_))))
 refine ap ?_
 refine tp rfl (Ms rfl (vl rfl) (vl rfl) (by omega) (by omega)) ?_
 refine TO.ex 41 rfl (fun z1=>TO.fact 41 rfl fun MR=> ?_)
 refine tp rfl (Bu rfl underlying137 underlying3 (vl rfl) (by unfold CR;omega)) ?_
 refine ap ?_
 refine Tr.PY [(0,_),(1,_),(8,_),(9,_),(10,_),(11,_)] ⟨ke rfl,ke rfl,ke rfl,ke rfl,ke rfl,ke rfl,trivial⟩ (fun (ot:Int)=>[(12,int ot)]) (fun (ot:Int)=>Hp M0 w0 S (AB true b1 189 [Cq .u64]::AB true b0 57 ((st.map AM).flatten++sp.map is)::Aa M1 w1::rs)) (fun (ot:Int)=>0≤ot∧ot<b-a) ?_ ?_
 refine ac ?_
 refine Im 0 1 8 9 10 11 12 45 rfl ?_
 refine Tr.cn rfl ?_ ?_<;>intro h3 q3
 refine ac ?_
 exact Fin.F8 (_)  (⟨by omega,by omega⟩) ⟨ke rfl,ke rfl,ke rfl,ke rfl,ke rfl,ke rfl,ke rfl,trivial⟩ (fun _ _ h=>h)
 refine Tr.skip (Fin.F8 (_)  (⟨by omega,by omega⟩) ⟨ke rfl,ke rfl,ke rfl,ke rfl,ke rfl,ke rfl,ke rfl,trivial⟩ (fun _ _ h=>h))
 rintro ot  ⟨fY,fZ⟩
 refine Tr.rx ?_
 refine ay ?_
 refine xo rfl (fun _=>AA rfl underlying39 AZ (vl rfl) (vl rfl) (by omega) (by omega)) (CA 1 rfl rfl (AE rfl A4 AZ (vl rfl) (AD (f:=AM) (fun _=>rfl) (by omega)) rfl) ?_)
 refine ay ?_
 refine xo rfl (fun _=>AA rfl underlying39 AZ (vl rfl) (vl rfl) (by omega) (by omega)) (CA 1 rfl rfl (AE rfl A4 AZ (vl rfl) (AD (f:=AM) (fun _=>rfl) (by omega)) rfl) (xo rfl (fun _=>AA rfl underlying39 AZ (vl rfl) (vl rfl) (by omega) (by omega)) ?_))
 refine Cx.B4 1 rfl rfl (AU rfl rfl (vl rfl) (Va rfl) AZ rfl (by rw [AV (sz:=3) (fun _=>rfl)];omega) (AP (f:=AM) (fun _=>rfl) (by omega))) ?_
 refine xo rfl (fun _=>AA rfl underlying39 AZ (vl rfl) (vl rfl) (by omega) (by omega)) ?_
 refine Cx.B4 1 rfl rfl (AU rfl rfl (vl rfl) (Va rfl) AZ rfl (by rw [AV (sz:=3) (fun _=>rfl)];simp only [List.length_set];omega) (AP (f:=AM) (fun _=>rfl) (by simp only [List.length_set];omega))) ?_
 refine Cx.nil ⟨by kernel_rfl,?_⟩
 refine BT.done cA ?_
 refine ac ?_
 refine D_ 0 1 8 9 10 11 rfl ?_
 refine ac ?_
 exact Fin.BG (i+1) (_)  (⟨⟨⟨by omega,by omega⟩,by simp only [List.length_set];exact Fz,Ci.swap (by omega) (by omega) (by omega) (by omega) (by omega) (by omega) (by omega)⟩,by omega⟩) ⟨ke rfl,ke rfl,ke rfl,ke rfl,ke rfl,ke rfl,trivial⟩ (fun _ _ h=>h)
 have:=h2
 refine Tr.exit (Fin.AG (Fin.AG (Fin.AX (Fin.BF (Bg a b l) 1 rfl (by exact Ci) ?_))))
 refine Fin.drop 0 (Fin.D0 rfl)
 refine Tr.skip (Fin.BF (Bg a b l) 0 rfl (by exact Bg.refl _ _ _) ?_)
 exact Fin.D0 rfl
theorem TL {l:List Ax} {c:Ax×Ax→Int} {b0 cap len:Nat} {sp:List Value} {a b Iq:Int} (Dc:l.length=len) (GU:len≤1000000) (hw:Go.Sort.SWO (BM c)) (Sg:len<50) (hB:Go.Sort.Below (BM c) a.toNat b.toNat l.toArray) (h0:0≤a) (hab:a≤b) (hb:b≤len) (Oa:0≤Iq) (Xj:Iq≤100) (m:Nat) (hm:(b-a).toNat<m) (ih:∀{l:List Ax} {a b Iq:Int} {sp:List Value},l.length=len→Go.Sort.Below (BM c) a.toNat b.toNat l.toArray→0≤a→a≤b→b≤len→0≤Iq→Iq≤100→(b-a).toNat+1<m→Am prog 99 [is (.slice (some ⟨b0,0,none⟩) len cap),int a,int b,int Iq,Dh prog (fun x:Ax×Ax=>[agg (AM x.1),agg (AM x.2)]) (fun x=>int (c x))] (Bx) (AB true b0 57 ((l.map AM).flatten++sp.map is)) (fun _=>BV b0 57 AM (Br c a b l) (sp.map is)))  :Am prog 99 [is (.slice (some ⟨b0,0,none⟩) len cap),int a,int b,int Iq,Dh prog (fun x:Ax×Ax=>[agg (AM x.1),agg (AM x.2)]) (fun x=>int (c x))] (Bx) (AB true b0 57 ((l.map AM).flatten++sp.map is)) (fun _=>BV b0 57 AM (Br c a b l) (sp.map is)):=by
 refine Am.of func99 rfl rfl (by exact Nb rfl) fun M0 w0 S rs M1 w1=> ?_
 have hls:b.toNat≤l.toArray.size:=by simp only [List.size_toArray];omega
 refine a2 ?_
 refine Tr.block (Tr.Ml [(0,_),(4,_)] ⟨ke rfl,ke rfl,trivial⟩ (fun (a1:Int) (b1:Int) (p:Int×Bool×Bool) (st:List Ax)=>[(1,int a1),(2,int b1),(3,int p.1),(10,bool p.2.1),(11,bool p.2.2)]) (fun (a1:Int) (b1:Int) (p:Int×Bool×Bool) (st:List Ax)=>Hp M0 w0 S (AB true b0 57 ((st.map AM).flatten++sp.map is)::Aa M1 w1::rs)) (fun (a1:Int) (b1:Int) (p:Int×Bool×Bool) (st:List Ax)=>((a≤a1∧a1≤b1∧b1≤b)∧0≤p.1∧p.1≤100)∧st.length=len∧PS (BM c) a.toNat b.toNat a1.toNat b1.toNat l.toArray st.toArray) (fun (a1:Int) (b1:Int) (p:Int×Bool×Bool) (st:List Ax)=>(b1-a1).toNat) (a) (b) ((Iq,(true,true))) (l)  (⟨⟨⟨by omega,hab,by omega⟩,Oa,Xj⟩,Dc,PS.init (by omega) hB⟩) ⟨ke rfl,ke rfl,ke rfl,ke rfl,ke rfl,trivial⟩ (fun _ _ h=>h) ?_)
 rintro a1 b1 p st  ⟨⟨⟨j0,j4,j5⟩,YT,OX⟩,Fz,hps⟩
 refine ac ?_
 refine an ?_ ?_<;>intro h1 q1
 refine ap ?_
 refine TO.Dn 0 rfl rfl (by decide) (Ah rfl rfl (by decide) rfl (VW (by omega) (by omega) hw (by omega) (by omega) (by omega)) ⟨ke rfl,ke rfl,ke rfl,ke rfl,trivial⟩) (TO.Bl 0 rfl fun t1 Di=> ?_)
 have Kj:=Di.len
 have hdone:=(hps.perm hls Di.1).done Di.2
 refine ap ?_
 refine Tr.weak [] trivial (Tr.ret (Fin.AK (Fin.AS (Fin.AK (Fin.AS (Fin.BF (Br c a b l) 0 rfl (hdone) (Fin.Db rfl)))))))
 refine a2 ?_
 refine RB 0 1 2 3 4 10 11 12 32 rfl ?_
 refine Tr.cn rfl ?_ ?_<;>intro h2 q2
 refine ap ?_
 refine TO.Dn 0 rfl rfl (by decide) (Ah rfl rfl (by decide) rfl (TJ (by omega) (by omega) hw (by omega) (by omega) (by omega)) ⟨ke rfl,ke rfl,ke rfl,ke rfl,trivial⟩) (TO.Bl 0 rfl fun t2 I7=> ?_)
 have OX:=I7.len
 have hdone:=(hps.perm hls I7.1).done I7.2
 refine ap ?_
 refine Tr.weak [] trivial (Tr.ret (Fin.AK (Fin.AS (Fin.AK (Fin.AS (Fin.BF (Br c a b l) 0 rfl (hdone) (Fin.Db rfl)))))))
 refine ac ?_
 refine Tr.PZ [(0,_),(1,_),(2,_),(4,_),(10,_),(11,_),(12,_)] ⟨ke rfl,ke rfl,ke rfl,ke rfl,ke rfl,ke rfl,ke rfl,trivial⟩ (fun (D6:Int) (DE:List Ax)=>[(3,int D6)]) (fun (D6:Int) (DE:List Ax)=>Hp M0 w0 S (AB true b0 57 ((DE.map AM).flatten++sp.map is)::Aa M1 w1::rs)) (fun (D6:Int) (DE:List Ax)=>0≤D6∧D6≤100∧DE.length=len∧PS (BM c) a.toNat b.toNat a1.toNat b1.toNat l.toArray DE.toArray) ?_ ?_
 refine an ?_ ?_<;>intro h3 q3
 refine ap ?_
 refine TO.Dn 0 rfl rfl (by decide) (Ah rfl rfl (by decide) rfl (Vc (by omega) (by omega) (by omega) (by omega) (by omega) (by omega)) ⟨ke rfl,ke rfl,ke rfl,ke rfl,trivial⟩) (TO.Bl 0 rfl fun t3 af=> ?_)
 have fc:=af.len
 have hps:=hps.perm hls af
 refine ap ?_
 refine Im 0 1 2 3 4 10 11 12 rfl ?_
 refine ac ?_
 exact Fin.BG (_) (_)  (⟨by omega,by omega,by omega,hps⟩) ⟨ke rfl,ke rfl,ke rfl,ke rfl,ke rfl,ke rfl,ke rfl,ke rfl,trivial⟩ (fun _ _ h=>h)
 refine Tr.skip (Fin.BG (_) (_)  (⟨by omega,by omega,by omega,hps⟩) ⟨ke rfl,ke rfl,ke rfl,ke rfl,ke rfl,ke rfl,ke rfl,ke rfl,trivial⟩ (fun _ _ h=>h))
 rintro D6 DE  ⟨KB,KC,J7,hps⟩
 refine ap ?_
 refine TO.Dn 0 rfl rfl (by decide) (Ah rfl rfl (by decide) rfl (Vb (by omega) (by omega) (by omega) (by omega) (by omega) (by omega)) ⟨ke rfl,ke rfl,ke rfl,ke rfl,trivial⟩) ?_
 refine TO.ex 52 rfl (fun z1=>TO.fact 52 rfl fun MR=> ?_)
 obtain ⟨Xk,Xl⟩:=MR
 refine ap ?_
 refine C6 0 1 2 3 4 10 11 12 13 14 rfl (Tr.Pa [(0,_),(1,_),(2,_),(3,_),(4,_),(10,_),(11,_),(12,_)] ⟨ke rfl,ke rfl,ke rfl,ke rfl,ke rfl,ke rfl,ke rfl,ke rfl,trivial⟩ (fun (pv:Int) (hint:Int) (NP:List Ax)=>[(13,int pv),(14,int hint)]) (fun (pv:Int) (hint:Int) (NP:List Ax)=>Hp M0 w0 S (AB true b0 57 ((NP.map AM).flatten++sp.map is)::Aa M1 w1::rs)) (fun (pv:Int) (hint:Int) (NP:List Ax)=>(a1≤pv∧pv<b1)∧NP.length=len∧PS (BM c) a.toNat b.toNat a1.toNat b1.toNat l.toArray NP.toArray) ?_ ?_)
 refine an ?_ ?_<;>intro h4 q4
 refine ap ?_
 refine TO.Dn 0 rfl rfl (by decide) (Ah rfl rfl (by decide) rfl (VX (by omega) (by omega) (by omega) (by omega) (by omega)) ⟨ke rfl,ke rfl,ke rfl,ke rfl,trivial⟩) (TO.Bl 0 rfl fun t5 ah=> ?_)
 have ff:=ah.len
 have hps:=hps.perm hls ah
 refine ap ?_
 refine RB 0 1 2 3 4 10 11 12 13 rfl ?_
 refine ac ?_
 refine RB 0 1 2 3 4 10 11 12 13 rfl ?_
 refine ac ?_
 exact Fin.Ck (_) (_) (_)  (⟨⟨by omega,by omega⟩,by omega,hps⟩) ⟨ke rfl,ke rfl,ke rfl,ke rfl,ke rfl,ke rfl,ke rfl,ke rfl,ke rfl,ke rfl,trivial⟩ (fun _ _ h=>h)
 refine Tr.skip (Fin.Ck (_) (_) (_)  (⟨⟨by omega,by omega⟩,by omega,hps⟩) ⟨ke rfl,ke rfl,ke rfl,ke rfl,ke rfl,ke rfl,ke rfl,ke rfl,ke rfl,ke rfl,trivial⟩ (fun _ _ h=>h))
 rintro pv hint NP  ⟨⟨Xk,Xl⟩,fk,hps⟩
 refine C6 0 1 2 3 4 10 11 12 13 14 rfl (Tr.FZ [0,1,2,3,4,10,11,12,13] [] (True) ?_ (fun h5=> ?_))
 refine ag ?_ ?_<;>intro h6 q6
 refine ag ?_ ?_<;>intro h7 q7
 refine ac ?_
 refine C6 0 1 2 3 4 10 11 12 13 75 rfl ?_
 refine Tr.cn rfl ?_ ?_<;>intro h8 q8
 refine ap ?_
 refine TO.Dn 0 rfl rfl (by decide) (Ah rfl rfl (by decide) rfl (TK (by omega) (by omega) hw (by omega) (by omega) (by omega) (by omega)) ⟨ke rfl,ke rfl,ke rfl,ke rfl,trivial⟩) ?_
 refine TO.ex 80 rfl (fun z2=>TO.fact 80 rfl fun RN=> ?_)
 have MU:=RN
 refine ap ?_
 refine C6 0 1 2 3 4 10 11 12 13 80 rfl ?_
 refine Tr.cn rfl ?_ ?_<;>intro h9 q9
 have hdone:=hps.done (MU h9)
 refine Tr.ret (Fin.AK (Fin.AS (Fin.AK (Fin.AS (Fin.BF (Br c a b l) 0 rfl (hdone) (Fin.Db rfl))))))
 refine Tr.skip (Fin.AF () (by simp_all) (V1 rfl))
 refine Tr.skip (Fin.AF () (by simp_all) (V1 rfl))
 refine ac ?_
 refine C6 0 1 2 3 4 10 11 12 13 75 rfl (Tr.cond rfl (fun h=>nomatch h) (fun _=> ?_))
 refine Tr.skip (Fin.AF () (by simp_all) (V1 rfl))
 refine ac ?_
 refine C6 0 1 2 3 4 10 11 12 13 75 rfl (Tr.cond rfl (fun h=>nomatch h) (fun _=> ?_))
 refine Tr.skip (Fin.AF () (by simp_all) (V1 rfl))
 refine ag ?_ ?_<;>intro h10 UT
 refine ac ?_
 refine cy h10 rfl (AA rfl underlying39 AZ (vl rfl) (vl rfl) (by omega) (by omega)) (cy h10 rfl (Ai 0 rfl (AE rfl A4 AZ (vl rfl) (AD (f:=AM) (fun _=>rfl) (by omega)) rfl)) ?_)
 refine ac ?_
 refine cy h10 rfl (AA rfl underlying39 AZ (vl rfl) (vl rfl) (by omega) (by omega)) (cy h10 rfl (Ai 0 rfl (AE rfl A4 AZ (vl rfl) (AD (f:=AM) (fun _=>rfl) (by omega)) rfl)) (cy h10 rfl (Af (_,_) rfl (vl rfl) ⟨ke rfl,ke rfl,trivial⟩) ?_))
 refine ac ?_
 refine C6 0 1 2 3 4 10 11 12 13 97 rfl ?_
 refine Tr.cn rfl ?_ ?_<;>intro h11 Z_
 refine ap ?_
 refine TO.Dn 0 rfl rfl (by decide) (Ah rfl rfl (by decide) rfl (VY (by omega) (by omega) (by omega) (by omega) (by omega) (by omega) (by omega)) ⟨ke rfl,ke rfl,ke rfl,ke rfl,ke rfl,trivial⟩) (TO.Bl 0 rfl fun t7 aj=> ?_)
 have fm:=aj.len
 obtain ⟨hps,hk1,hk2⟩:=hps.gv hw hls aj (by omega) (by omega) rfl (by omega) (by omega) (by omega) (by omega) (by omega) (by assumption)
 refine ap ?_
 refine E5 0 2 3 4 10 11 15 rfl ?_
 refine ac ?_
 refine Tr.exit (Fin.AG (Fin.AX (Fin.DP (_) (_) ((D6,(_,_))) (_)  (⟨⟨⟨⟨by omega,by omega,by omega⟩,KB,KC⟩,by omega,by exact hps⟩,by omega⟩) ⟨ke rfl,ke rfl,ke rfl,ke rfl,ke rfl,ke rfl,ke rfl,trivial⟩ (fun _ _ h=>h))))
 refine ac ?_
 refine ap ?_
 refine TO.Dn 0 rfl rfl (by decide) (Ah rfl rfl (by decide) rfl (Nn (by omega) (by omega) (by omega) (by omega) (by omega) (by omega) (by omega)) ⟨ke rfl,ke rfl,ke rfl,ke rfl,ke rfl,trivial⟩) ?_
 refine TO.ex 111 rfl (fun z3=>TO.fact 111 rfl fun fU=> ?_)
 refine TO.Bl 0 rfl fun t8 ak=> ?_
 have fq:=ak.len
 obtain ⟨Xm,Hf⟩:=GC hw ak (by omega) (by omega) (by omega) (by omega)
 have hps:=hps.perm hls Xm
 have hk1:=Hf.h1
 have hk2:=Hf.h2
 generalize (PA c a1 b1 pv NP).1=k at*
 refine ap ?_
 refine Im 0 1 2 3 4 12 16 17 rfl ?_
 refine a2 ?_
 refine C6 0 1 2 3 4 11 12 16 18 19 rfl ?_
 refine ac ?_
 refine co rfl (CC rfl (vl rfl) (vl rfl) (by omega)) ?_
 refine a2 ?_
 refine Rb 0 1 2 3 4 11 16 18 19 20 125 rfl ?_
 refine Tr.cn rfl ?_ ?_<;>intro h12 WN
 refine ac ?_
 refine Im 0 1 2 3 4 10 11 16 rfl ?_
 refine ap ?_
 refine TO.Dn 0 rfl rfl (by decide) (Ah rfl rfl (by decide) rfl (ih (by omega) (by exact hps.L1 (Nat.le_of_lt Hf.h2)) (by omega) (by omega) (by omega) (by omega) (by omega) (by omega)) ⟨ke rfl,ke rfl,ke rfl,ke rfl,ke rfl,trivial⟩) ?_
 refine TO.Bl 0 rfl fun t9 Xn=> ?_
 have fu:=Xn.len
 have hps:=hps.left hw hls Hf Xn.1 Xn.2
 refine ap ?_
 refine E5 0 2 3 4 10 11 16 rfl ?_
 refine ac ?_
 exact Fin.DP (_) (_) ((D6,(_,_))) (_)  (⟨⟨⟨⟨by omega,by omega,by omega⟩,KB,KC⟩,by omega,by exact hps⟩,by omega⟩) ⟨ke rfl,ke rfl,ke rfl,ke rfl,ke rfl,ke rfl,ke rfl,trivial⟩ (fun _ _ h=>h)
 refine ac ?_
 refine Im 0 1 2 3 4 10 11 16 rfl ?_
 refine ap ?_
 refine TO.Dn 0 rfl rfl (by decide) (Ah rfl rfl (by decide) rfl (ih (by omega) (by exact Hf.L2) (by omega) (by omega) (by omega) (by omega) (by omega) (by omega)) ⟨ke rfl,ke rfl,ke rfl,ke rfl,ke rfl,trivial⟩) ?_
 refine TO.Bl 0 rfl fun t10 Ob=> ?_
 have aq:=Ob.len
 have hps:=hps.right hw hls Hf Ob.1 Ob.2
 refine ap ?_
 refine E5 0 1 3 4 10 11 16 rfl ?_
 refine ac ?_
 exact Fin.DP (_) (_) ((D6,(_,_))) (_)  (⟨⟨⟨⟨by omega,by omega,by omega⟩,KB,KC⟩,by omega,by exact hps⟩,by omega⟩) ⟨ke rfl,ke rfl,ke rfl,ke rfl,ke rfl,ke rfl,ke rfl,trivial⟩ (fun _ _ h=>h)
 refine ac ?_
 refine C6 0 1 2 3 4 10 11 12 13 97 rfl ?_
 refine ac ?_
 refine ap ?_
 refine TO.Dn 0 rfl rfl (by decide) (Ah rfl rfl (by decide) rfl (Nn (by omega) (by omega) (by omega) (by omega) (by omega) (by omega) (by omega)) ⟨ke rfl,ke rfl,ke rfl,ke rfl,ke rfl,trivial⟩) ?_
 refine TO.ex 111 rfl (fun z4=>TO.fact 111 rfl fun j6=> ?_)
 refine TO.Bl 0 rfl fun t11 Sh=> ?_
 have au:=Sh.len
 obtain ⟨Xm,Hf⟩:=GC hw Sh (by omega) (by omega) (by omega) (by omega)
 have hps:=hps.perm hls Xm
 have hk1:=Hf.h1
 have hk2:=Hf.h2
 generalize (PA c a1 b1 pv NP).1=k at*
 refine ap ?_
 refine Im 0 1 2 3 4 12 16 17 rfl ?_
 refine a2 ?_
 refine C6 0 1 2 3 4 11 12 16 18 19 rfl ?_
 refine ac ?_
 refine co rfl (CC rfl (vl rfl) (vl rfl) (by omega)) ?_
 refine a2 ?_
 refine Rb 0 1 2 3 4 11 16 18 19 20 125 rfl ?_
 refine Tr.cn rfl ?_ ?_<;>intro Pg XS
 refine ac ?_
 refine Im 0 1 2 3 4 10 11 16 rfl ?_
 refine ap ?_
 refine TO.Dn 0 rfl rfl (by decide) (Ah rfl rfl (by decide) rfl (ih (by omega) (by exact hps.L1 (Nat.le_of_lt Hf.h2)) (by omega) (by omega) (by omega) (by omega) (by omega) (by omega)) ⟨ke rfl,ke rfl,ke rfl,ke rfl,ke rfl,trivial⟩) ?_
 refine TO.Bl 0 rfl fun t12 Oc=> ?_
 have av:=Oc.len
 have hps:=hps.left hw hls Hf Oc.1 Oc.2
 refine ap ?_
 refine E5 0 2 3 4 10 11 16 rfl ?_
 refine ac ?_
 exact Fin.DP (_) (_) ((D6,(_,_))) (_)  (⟨⟨⟨⟨by omega,by omega,by omega⟩,KB,KC⟩,by omega,by exact hps⟩,by omega⟩) ⟨ke rfl,ke rfl,ke rfl,ke rfl,ke rfl,ke rfl,ke rfl,trivial⟩ (fun _ _ h=>h)
 refine ac ?_
 refine Im 0 1 2 3 4 10 11 16 rfl ?_
 refine ap ?_
 refine TO.Dn 0 rfl rfl (by decide) (Ah rfl rfl (by decide) rfl (ih (by omega) (by exact Hf.L2) (by omega) (by omega) (by omega) (by omega) (by omega) (by omega)) ⟨ke rfl,ke rfl,ke rfl,ke rfl,ke rfl,trivial⟩) ?_
 refine TO.Bl 0 rfl fun t13 Od=> ?_
 have az:=Od.len
 have hps:=hps.right hw hls Hf Od.1 Od.2
 refine ap ?_
 refine E5 0 1 3 4 10 11 16 rfl ?_
 refine ac ?_
 exact Fin.DP (_) (_) ((D6,(_,_))) (_)  (⟨⟨⟨⟨by omega,by omega,by omega⟩,KB,KC⟩,by omega,by exact hps⟩,by omega⟩) ⟨ke rfl,ke rfl,ke rfl,ke rfl,ke rfl,ke rfl,ke rfl,trivial⟩ (fun _ _ h=>h)
theorem P_:∀(m:Nat) {l:List Ax} {c:Ax×Ax→Int} {b0 cap len:Nat} {sp:List Value} {a b Iq:Int},(Dc:l.length=len)→(GU:len≤1000000)→(hw:Go.Sort.SWO (BM c))→(Sg:len<50)→Go.Sort.Below (BM c) a.toNat b.toNat l.toArray→0≤a→a≤b→b≤len→0≤Iq→Iq≤100→(b-a).toNat<m→Am Tryz.prog 99 [is (.slice (some ⟨b0,0,none⟩) len cap),int a,int b,int Iq,Dh Tryz.prog (fun x:Ax×Ax=>[agg (AM x.1),agg (AM x.2)]) (fun x=>int (c x))] (Bx) (AB true b0 57 ((l.map AM).flatten++sp.map is)) (fun _=>BV b0 57 AM (Br c a b l) (sp.map is))
 |0,_,_,_,_,_,_,_,_,_,_,_,_,_,_,_,_,_,_,_,h=>absurd h (Nat.not_lt_zero _)
 |m+1,_,_,_,_,_,_,_,_,_,Dc,GU,hw,Sg,hB,h0,hab,hb,Oa,Xj,hm=>TL Dc GU hw Sg hB h0 hab hb Oa Xj (m+1) hm (fun h1 h2 h3 h4 h5 h6 h7 h8=>P_ m h1 GU hw Sg h2 h3 h4 h5 h6 h7 (by omega))
theorem Vd {l:List Ax} {c:Ax×Ax→Int} {b0 cap len:Nat} {sp:List Value}  (Dc:l.length=len) (hw:Go.Sort.SWO (BM c)) (Sg:len<50):Am prog 56 [is (.slice (some ⟨b0,0,none⟩) len cap),Dh prog (fun x:Ax×Ax=>[agg (AM x.1),agg (AM x.2)]) (fun x=>int (c x))] (Bx) (AB true b0 57 ((l.map AM).flatten++sp.map is)) (fun _=>BV b0 57 AM (Br c 0 len l) (sp.map is)):=by
 refine Am.of func56 rfl rfl (by exact Nb rfl) fun M0 w0 S rs M1 w1=> ?_
 have fy:IntKind.u64.wrap ((len:Nat):Int)=len:=IntWalk.u64_in _ ⟨by omega,by omega⟩
 refine ac ?_
 refine co rfl (DQ rfl underlying39 (vl rfl)) ?_
 refine ac ?_
 refine ap ?_
 refine tp rfl (C5 rfl underlying3 underlying137 (vl rfl)) (tp rfl (EC (G7 (by omega) (by omega)) rfl rfl) ?_)
 refine TO.ex 11 rfl (fun k=>TO.fact 11 rfl fun hk=> ?_)
 obtain ⟨hk1,hk2,fT⟩:=hk
 refine tm rfl (TO.Dn 0 rfl rfl (by decide) (Ah rfl rfl (by decide) rfl (P_ (len+1) (by omega) (by omega) hw (by omega) (.inl rfl) (by omega) (by omega) (by omega) (by omega) (by omega) (by omega)) ⟨ke rfl,ke rfl,ke rfl,ke rfl,ke rfl,trivial⟩) (TO.Bl 0 rfl fun t1 Di=> ?_))
 have Kj:=Di.len
 refine TO.nil (Fin.BF (Br c 0 len l) 0 rfl (Di) (Fin.D0 rfl))
theorem Ve {rows:List (List Pr)} {b:Int} (hb:b≤1):Bb prog 150 [slice 3 rows,int 0,int b,any] (Bx):=by
 refine fo func150 rfl ⟨rfl,rfl⟩ fun M0 w0=> ?_
 refine ac ?_
 refine Tr.block (Tr.BX [(0,_),(1,_),(2,_),(3,_)] (PL rfl) (fun i:Int=>[(8,int i)]) (fun i:Int=>i=1) (fun i:Int=>0) 1 (rfl) ⟨ke rfl,trivial⟩ ?_)
 rintro i hi
 refine an ?_ ?_<;>intro h1 q1
 have:=h1
 exfalso;omega
 have:=h1
 refine Tr.exit (Fin.AG (Fin.AG (Fin.AX (Fin.UA rfl))))
theorem Vf {rows:List (List Pr)} {b:Int} (h0:0≤b) (hb:b≤1):Bb prog 99 [slice 3 rows,int 0,int b,any,any] (Bx):=by
 refine fo func99 rfl ⟨rfl,rfl⟩ fun M0 w0=> ?_
 refine a2 ?_
 refine Tr.block (Tr.BX [(0,_),(4,_)] (YO rfl) (fun (u:Unit)=>[(1,int 0),(2,int b)]) (fun (u:Unit)=>True) (fun (u:Unit)=>0) () (trivial) ⟨ke rfl,ke rfl,trivial⟩ ?_)
 rintro u _
 refine ac ?_
 refine an ?_ ?_<;>intro h1 q1
 refine ac ?_
 refine co rfl (hG (Ve (by omega)) rfl rfl rfl rfl rfl) ?_
 refine ac ?_
 refine Tr.weak [] trivial (Tr.ret (Fin.AK (Fin.AS (Fin.AK (Fin.AS (Fin.WB rfl))))))
 exfalso;omega
theorem TN {rows:List (List Pr)} (hs:rows.length≤1):Bb prog 56 [slice 3 rows,any] (Bx):=by
 refine fo func56 rfl ⟨rfl,rfl⟩ fun M0 w0=> ?_
 have hw:IntKind.u64.wrap ((rows.length:Nat):Int)=rows.length:=IntWalk.u64_in _ ⟨by omega,by omega⟩
 refine ac ?_
 refine co rfl (E2 rfl underlying39 (vl rfl)) ?_
 refine a2 ?_
 refine co rfl (C5 rfl underlying3 underlying137 (vl rfl)) (co rfl (EC (G7 (by omega) (by omega)) rfl rfl) (cm rfl (co rfl (Aq rfl (Vf (rows:=rows) (b:=(rows.length:Int)) (by omega) (by omega)) ⟨ke rfl,ke rfl,ke rfl,⟨_,rfl,JH _⟩,⟨_,rfl,JH _⟩,trivial⟩) (Ch.nil (Fin.UA rfl)))))
theorem TP {l:List Ax} {c:Ax×Ax→Int} {v:Value} (hw:Go.Sort.SWO (BM c)) (hs:l.length<50):Am Tryz.prog 56 [is v,Dh Tryz.prog (fun x:Ax×Ax=>[agg (AM x.1),agg (AM x.2)]) (fun x=>int (c x))] Bx (Ak 57 3 (l.map AM) v) (fun _=>Jq 57 3 AM (Br c 0 l.length l) v):=by
 refine Am.UM (fun h=>⟨?_,?_⟩) (fun b cap sp=>Vd rfl hw hs) (fun st h=>h.len) ⟨_,Tryz.func56,rfl,rfl⟩
 ·
  refine Bb.le (TN (rows:=[]) (by decide)) ?_ (Pr.le_refl _)
  rintro M w vs hv
  match vs,hv with
  |[a,b],⟨h1,h2,h3⟩=>exact ⟨Ag _ M w a h1,trivial,h3⟩
 · subst h;exact ⟨Go.Sort.permIn_refl _ _ _,fun i j h1 h2 h3=>by simp at h3⟩
end Go.Proofs.YtgilhkjlfongoaaGreat
namespace Cp
open Go Go.RowKit
theorem AW.YP {P:Program} {E:Env} {I:Bq} {o:Oper} {p:Pr} (s:Nat) {α:Type} {f:α→Pr} (hs:E.lookup s=some (Cp.ex f)) (hm:s∈looks o) (h:∀x,AW P I o ((s,f x)::E) p):AW P I o E p:=by
 intro M w a he hI
 obtain ⟨x,hx⟩:=he s _ hm hs
 refine h x M w a (fun t q ht hq=> ?_) hI
 simp only [List.lookup] at hq
 by_cases hts:t=s
 · subst hts;simp at hq;subst hq;exact hx
 · rw [show (t==s)=false by simpa using hts] at hq;exact he t q ht hq
end Cp
namespace Cp
open Go Go.RowKit Go.Great
section
variable {P:Program} {L:Lg P} {n:Fm} {fz:Nat} {E:Env} {M0:Av} {w0:World} {S:Nat→Prop} {rs:List Al}
end
end Cp
namespace Cp
open Go Go.RowKit
end Cp
namespace Cp
open Go Go.RowKit Go.Great
section
variable {P:Program} {L:Lg P} {n:Fm} {fz:Nat} {E:Env} {M0:Av} {w0:World} {S:Nat→Prop} {rs:List Al} {o:Oper} {g:Func} {M1:Av} {w1:World}
end
section
variable {P:Program} {L:Lg P} {n:Fm} {fz:Nat} {E:Env} {M0:Av} {w0:World} {S:Nat→Prop} {rs:List Al}
end
end Cp
namespace Cp
open Go Go.RowKit
abbrev EP (ρ:Option Nat):Fence:={ Fence.wide with round:=ρ }
section
variable {P:Program} {ρ:Option Nat}
def IZ (o:Oper):Bool:=match o.op with
 | .defer _=>false
 |_=>true
theorem WV {o:Oper} {a:Act} {w:World} {K K':Act→World→Prop} {Q:Exit→Act→World→Prop} (hc:IZ o=true) (hK:∀a w,K a w→K' a w) (h:o.wp P a w K Q):o.wpIn (EP ρ) 0 P a w K' Q:=by
 refine ⟨fun _ _=>trivial,?_⟩
 rw [Oper.semAt_eq _ _ _ (fun c hh=>by unfold IZ at hc;rw [hh] at hc;cases hc)]
 unfold Oper.wp at h
 generalize (execOp a.eval o).run P w=r at h ⊢
 cases r with
 |halt x w'=>cases x<;>first|exact h|exact h.elim
 |ok x w'=>
  cases x<;>first|exact h.elim|skip
  case value v=>exact hK _ _ h
  case skip=>exact hK _ _ h
  case defer d=>exact hK _ _ h
  case enter f args=>exact ⟨fun hh=>(by cases hh),callsIn_wide.2 (h.mono fun e w'' hr=>by cases e<;>first|exact hK _ _ hr|exact hr)⟩
  case row row args=>
   refine ⟨fun hh=>(by cases hh),fun c cs _=> ?_⟩
   obtain ⟨v,w2,h1,h2⟩:=h c cs
   exact ⟨v,w2,hK _ _ h1,stepsIn_wide.2 h2⟩
theorem TQ {ops:Array Oper} {Q:Exit→Act→World→Prop} (hc:∀(i:Nat) o,ops[i]? =some o→IZ o=true):∀(l:List Nat) (a:Act) (w:World),wpS P ops Q l a w→wpOpsIn (EP ρ) 0 P ops Q l a w
 |[],_,_,h=>h
 |i::l,a,w,h=>by
  have ih:=TQ (Q:=Q) hc l
  unfold wpS at h
  unfold wpOpsIn
  cases ho:ops[i]? with
  |none=>rw [ho] at h;exact ih a w h
  |some o=>
   rw [ho] at h
   dsimp only at h ⊢
   split
   next hw=>rw [if_pos hw] at h;exact WV (hc i o ho) ih h
   next hw=>rw [if_neg hw] at h;exact ⟨fun _ _=>trivial,ih _ _ h⟩
theorem YA {ops:Array Oper} {Q:Exit→Act→World→Prop} (hc:∀(i:Nat) o,ops[i]? =some o→IZ o=true) {i:Nat} {K K':Act→World→Prop} {a:Act} {w:World} (hK:∀a w,K a w→K' a w) (h:JI P ops Q i K a w):wpOpIn (EP ρ) 0 P ops Q i K' a w:=by
 unfold JI at h
 unfold wpOpIn
 cases ho:ops[i]? with
 |none=>rw [ho] at h;exact hK _ _ h
 |some o=>
  rw [ho] at h
  dsimp only at h ⊢
  split
  next hw=>rw [if_pos hw] at h;exact WV (hc i o ho) hK h
  next hw=>rw [if_neg hw] at h;exact ⟨fun _ _=>trivial,hK _ _ h⟩
theorem TR {ops:Array Oper} {md:Region.Mode} {Q:Exit→Act→World→Prop} (hc:∀(i:Nat) o,ops[i]? =some o→IZ o=true):∀(fuel:Nat) (listed:Array Bool) (a:Act) (w:World),GV P md ops Q fuel listed a w→wpAnyIn (EP ρ) 0 P md ops Q fuel listed a w
 |0,_,_,_,h=>h
 |fuel+1,_,_,_,h=>⟨h.1,fun i hi=>YA hc (TR hc fuel _) (h.2 i hi)⟩
theorem Vg {l:List Oper} (hc:calm l=true):∀(i:Nat) o,l.toArray[i]? =some o→IZ o=true:=fun i o ho=>by
 have hm:o∈l:=List.mem_of_getElem? (by simpa using ho)
 have:=List.all_eq_true.1 hc o hm
 unfold IZ;revert this;cases o.op<;>simp
theorem Vh {c:Code} {Q:Exit→Act→World→Prop} {α:Type} (μ:α→Nat) (R:α→Act→World→Prop) (round:∀x a w,R x a w→c.wpIn (EP ρ) 0 P (Exit.then (fun a' w'=>∃y,μ y<μ x∧R y a' w') Q) a w) (x:α) (a:Act) (w:World) (hx:R x a w):(Code.loop c).wpIn (EP ρ) 0 P Q a w:=by
 intro b k cs hro hb hr
 have key:∀m x a w,μ x=m→R x a w→∃e a' w',Q e a' w'∧ArrivesIn (Machine.fenced P (EP ρ)) P (lone (b.atR a (.code c:: .inLoop c::k)) cs w) b k cs e a' w':=by
  intro m
  induction m using Nat.strongRecOn with
  |_ m ih=>
   intro x a w hm hx
   obtain ⟨e,a₁,w₁,hq,Ea⟩:=round x a w hx b (.inLoop c::k) cs hro hb hr
   cases e with
   |normal=>
    obtain ⟨y,hlt,hy⟩:=hq
    obtain ⟨e₂,a₂,w₂,RI,Lc⟩:=ih (μ y) (hm ▸ hlt) y a₁ w₁ rfl hy
    exact ⟨e₂,a₂,w₂,RI,.of_steps (StepsIn.trans Ea (.one (fenced_calm hb hr rfl) stepR_inLoop)) Lc⟩
   |exit id=>exact ⟨_,a₁,w₁,hq,.pass (x:= .inLoop c) rfl (fun _ _=> .inl (by simp)) Ea⟩
   |goto l=>exact ⟨_,a₁,w₁,hq,.pass (x:= .inLoop c) rfl (fun _ _=> .inl (by simp)) Ea⟩
   |ret=>exact ⟨_,a₁,w₁,hq,.pass (x:= .inLoop c) rfl (fun _ _=> .inl (by simp)) Ea⟩
   |panic ch=>exact ⟨_,a₁,w₁,hq,.pass (x:= .inLoop c) rfl (fun _ _=> .inl (by simp)) Ea⟩
   |outgrown=>exact ⟨_,a₁,w₁,hq,.pass (x:= .inLoop c) rfl (fun _ _=> .inl (by simp)) Ea⟩
 obtain ⟨e,a',w',hq,Ea⟩:=key _ x a w rfl hx
 exact ⟨e,a',w',hq,.of_steps (.one (fenced_calm hb hr rfl) stepR_loop) Ea⟩
@[reducible] def gG (P:Program) (ρ:Option Nat):Lg P where
 wp c Q a w:=c.wpIn (EP ρ) 0 P Q a w
 mono hq h:=wpIn_mono h hq
 skip h:=wpIn_skip h
 ret h:=wpIn_ret h
 exit h:=wpIn_exit h
 seq h:=wpIn_seq h
 block h:=wpIn_block h
 cond hc ht hf:=wpIn_cond_split hc ht hf
 loop:=Vh
 region {id l Q a w} hc h:=wpIn_region (TQ (fun i o ho=>by
  have hm:o∈l:=List.mem_of_getElem? (by simpa using ho)
  have:=List.all_eq_true.1 hc o hm
  unfold IZ;revert this;cases o.op<;>simp) _ _ _ (by simpa [List.range_eq_range'] using h))
 draw hc hm h:=wpIn_region_any hm (TR (Vg hc) _ _ _ _ h)
end
end Cp
namespace Cp
open Go Go.RowKit Go.Great
section
variable {P:Program} {L:Lg P} {n:Fm} {fz:Nat} {E:Env} {M0:Av} {w0:World} {S:Nat→Prop} {rs:List Al} {o:Oper}
end
end Cp
namespace Cp
open Go Go.RowKit
theorem Bt.YP {M:Av} {w:World} {E:Env} {o:Oper} {a:Act} (s:Nat) {α:Type} {f:α→Pr} (hs:E.lookup s=some (Cp.ex f)) (hm:s∈looks o) (he:Bt M w E o a):∃x,Bt M w ((s,f x)::E) o a:=by
 obtain ⟨x,hx⟩:=he s _ hm hs
 refine ⟨x,fun t q ht hq=> ?_⟩
 simp only [List.lookup] at hq
 by_cases hts:t=s
 · subst hts;simp at hq;subst hq;exact hx
 · rw [show (t==s)=false by simpa using hts] at hq;exact he t q ht hq
section
variable {P:Program} {M0:Av} {w0:World} {S:Nat→Prop} {n:Fm} {j:Nat} {R R':SR} {E:Env} {o:Oper}
theorem DC.YP {p:Pr} (s:Nat) {α:Type} {f:α→Pr} (hg:o.guard=none) (hs:E.lookup s=some (Cp.ex f)) (hm:s∈looks o) (h:∀x,DC P M0 w0 S n j R R' o ((s,f x)::E) p):DC P M0 w0 S n j R R' o E p:=
 ⟨hg,fun M w a rs hsz he hI hj=>by obtain ⟨x,hx⟩:=he.YP s hs hm;exact (h x).2 M w a rs hsz hx hI hj⟩
theorem DC.le {p q:Pr} (h:DC P M0 w0 S n j R R' o E p) (hl:Pr.le p q):DC P M0 w0 S n j R R' o E q:=by
 refine ⟨h.1,fun M w a rs hsz he hI hj=> ?_⟩
 have this:=h.2 M w a rs hsz he hI hj
 generalize (execOp a.eval o).run P w=r at this ⊢
 unfold JT at this
 split at this
 · obtain ⟨M',h1,h2,h3⟩:=this;exact ⟨M',hl _ _ _ h1,h2,h3⟩
 · obtain ⟨M',h1,h2,h3⟩:=this;exact ⟨M',hl _ _ _ h1,h2,h3⟩
 · exact Calls.mono this fun _ _ ⟨v,M',h0,h1,h2,h3⟩=>⟨v,M',h0,hl _ _ _ h1,h2,h3⟩
 · exact this.elim
end
section
variable {P:Program} {L:Lg P} {n:Fm} {E:Env} {M0:Av} {w0:World} {S:Nat→Prop} {rs:List Al}
theorem Fin.K7 {Q:Exit→Act→World→Prop} {x:Exit} (i j k:Nat) {sz b:Nat} {new:Bool} {T e:TypeId} {ps:List Pr} {rows:List (List Pr)} {v:Value} {p:Pr} (hi:rs[i]? =some (AB new b T ps)) (hj:rs[j]? =some (Fu e sz rows v)) (hij:j≠i) (hk:ps[k]? =some p) (hp:Pr.le p (is v)) (hl:∀r∈rows,r.length=sz)
  (kk:Fin n E (Hp M0 w0 S ((rs.set j BP).set i (AB new b T (ps.set k (slice sz rows))))) Q x):Fin n E (Hp M0 w0 S rs) Q x:=Fin.conv (fun _ _ hs=>hs.K7 hi hj hij hk hp hl) kk
end
section
variable {P:Program} {M0:Av} {w0:World} {S:Nat→Prop} {rs:List Al}
def A1 (b:Nat) (x:Obj):Al where
 EZ:=some b
 new:=true
 h M w:=(∀o,M b o)∧w.heap[b]? =some x
 st M w M' w' _ hk h:=by
  obtain ⟨h1,h2⟩:=hk b rfl
  exact ⟨fun o=>h2 o (h.1 o),h1.trans h.2⟩
theorem Ao.TS {M:Av} {w:World} (h:Ao M0 w0 S rs M w) (x:Obj):
  Ao M0 w0 S (A1 w.heap.size x::rs) (fun b o=>M b o∨b=w.heap.size) (w.alloc x)∧Ext M w (fun b o=>M b o∨b=w.heap.size) (w.alloc x):=by
 have hb:Below w.heap.size w (w.alloc x):=(Below.refl _ _).alloc (Nat.le_refl _) _
 have hsz:(w.alloc x).heap.size=w.heap.size+1:=by simp
 have he:Ext M w (fun b o=>M b o∨b=w.heap.size) (w.alloc x):=by
  have h2:=Ext.below (M:=M) hb
  refine ⟨h2.size,fun a v hc hm=>⟨fun hx=> ?_,(h2.keep a v hc hm).2⟩,fun b o ho hp hm=>⟨fun hx=> ?_,(h2.obj b o ho hp hm).2⟩⟩
  ·
   rcases hx with hx|hx
   · exact hm hx
   · have:=Cj hc;omega
  ·
   rcases hx with hx|hx
   · exact hm hx
   · subst hx;simp at ho
 have hI:=(Hp M0 w0 S rs).st _ _ _ hb h
 refine ⟨⟨hI.m0,fun b o hm=> .inl (hI.m b o hm),hI.os,hI.tape,hI.output,hI.size,hI.block,fun b o hm=> ?_,fun r hr=> ?_,?_⟩,he⟩
 ·
  rcases hm with hm|hm
  · exact hI.bd b o hm
  · omega
 ·
  rcases List.mem_cons.1 hr with rfl|hr
  ·
   refine ⟨⟨fun o=> .inr rfl,heap_alloc_new w _⟩,fun b hbk=> ?_⟩
   simp only [A1,Option.some.injEq] at hbk
   subst hbk
   exact ⟨by omega,by simp [A1];exact h.size⟩
  ·
   obtain ⟨h3,h4⟩:=h.hold r hr
   exact ⟨r.st _ _ _ _ he (fun b hbk=>⟨hb.block b (h4 b hbk).1,fun _ x=> .inl x⟩) h3,fun b hbk=>⟨by have:=(h4 b hbk).1;omega,(h4 b hbk).2⟩⟩
 ·
  refine List.pairwise_cons.2 ⟨fun r hr b RA RO=> ?_,hI.nd⟩
  simp only [A1,Option.some.injEq] at RA
  subst RA
  have:=((h.hold r hr).2 _ RO).1
  omega
theorem Ao.putObj {M:Av} {w:World} {j b:Nat} {x:Obj} (y:Obj) (h:Ao M0 w0 S rs M w) (hj:rs[j]? =some (A1 b x)):Ao M0 w0 S (rs.set j (A1 b y)) M (w.putObj b y)∧Ext M w M (w.putObj b y):=by
 obtain ⟨⟨hM,hx⟩,hbk⟩:=h.hold _ (List.mem_of_getElem? hj)
 have hlt:b<w.heap.size:=(hbk b rfl).1
 have hsz:(w.putObj b y).heap.size=w.heap.size:=by simp [World.putObj]
 have he:Ext M w M (w.putObj b y):=by
  refine ⟨by omega,fun a v hc hm=>⟨hm,?_⟩,fun k o ho _ hm=>⟨hm,?_⟩⟩
  ·
   have hne:a.block≠b:=fun e=>hm (e ▸ hM _)
   rw [World.cell?_of_block (w:=w) (World.putObj_heap_other hne)];exact hc
  ·
   have hne:k≠b:=fun e=>hm (e ▸ hM _)
   exact (World.putObj_heap_other hne).trans ho
 refine ⟨h.replace hj he rfl rfl rfl (fun k _ hne=>World.putObj_heap_other (fun e=>hne (by rw [e];rfl))) rfl (fun _ _ hm _=>hm) (fun b' o hm=>by have:=h.bd b' o hm;omega) ⟨hM,World.putObj_heap_same hlt⟩ rfl (fun b' hb'=>⟨?_,.inl hb'⟩),he⟩
 simp only [A1,Option.some.injEq] at hb'
 subst hb';omega
end
def bK (P:Program) (gf:Nat) (lb:Array Value) {α:Type} (enc:α→Value) (xs:List α) (own:List α→List Al):Prop:=
 ∀M0 w0 S (l:Nat) (β:Type) (R Rx:List α→β→List Al),
  (∀pre x d M w,(pre++[x])<+:xs→Ao M0 w0 S (own (pre++[x])++R pre d) M w→YieldAt (EP none) 0 P l #[enc x] w fun e w'=>∃M' d',Ext M w M' w'∧
   ((e= .returned (.bool true)∧Ao M0 w0 S (own (pre++[x])++R (pre++[x]) d') M' w')∨(e= .returned (.bool false)∧Ao M0 w0 S (own (pre++[x])++Rx (pre++[x]) d') M' w')))→
  ∀d M w,Ao M0 w0 S (own []++R [] d) M w→CallsIn (EP none) 0 P gf (#[.func (.yield l) #[] #[]]++lb) w fun e w'=>(∃v,e= .returned v)∧∃M' d',Ext M w M' w'∧
   (Ao M0 w0 S (own xs++R xs d') M' w'∨∃pre,pre<+:xs∧Ao M0 w0 S (own pre++Rx pre d') M' w')
def Vi (M0:Av) (w0:World) (S:Nat→Prop) {β:Type} (rs:β→List Al) (rx:Code→β→List Al):Exit→Act→World→Prop
 | .normal,_,w=>∃d M,Ao M0 w0 S (rs d) M w
 | .ret,_,w=>∃d M,Ao M0 w0 S (rx .ret d) M w
 | .exit id,_,w=>∃d M,Ao M0 w0 S (rx (.exit id) d) M w
 | .goto t,_,w=>∃d M,Ao M0 w0 S (rx (.goto t) d) M w
 | .panic _,_,_=>False
 | .outgrown,_,_=>False
section
variable {P:Program} {M0:Av} {w0:World} {S:Nat→Prop} {rs:List Al}
theorem Tr.range {Q:Exit→Act→World→Prop} {n:Fm} {E:Env} {α β:Type} {p gf:Nat} {g:Operand} {lb:Array Value} {enc:α→Value} {xs:List α} {own:List α→List Al} {assign body:Code} (E':α→Env) (R:List α→β→List Al) (Rx:Code→List α→β→List Al) (d0:β)
  (kO:bK P gf lb enc xs own) (eg:∀args w,(callFunc gf args).run P w= .ok (.enter gf args) w) (hg:VL E g (is (.func (.func gf) #[] lb))) (K5:rs.Perm (own []++R [] d0))
  (hassign:∀l D rec M1 w1 pre x d,(pre++[x])<+:xs→∀a,a.tmps.size=n.sz→Dx M1 w1 E a→∀M w,Ao M0 w0 S (own (pre++[x])++(A1 l rec::A1 D (.deferred (some []))::Aa M1 w1::R pre d)) M w→
   assign.wpIn (EP (some l)) 0 P (Exit.then (St ⟨n.sz,[]⟩ (E' x) (Hp M0 w0 S (own (pre++[x])++(A1 l rec::A1 D (.deferred (some []))::Aa M1 w1::R pre d)))) (fun _ _ _=>False)) { tmps:=a.tmps.setIfInBounds p (enc x),defers:=[] } w)
  (hbody : ∀ l D rec M1 w1 pre x d, (pre ++ [x]) <+: xs → Tr (gG P (some l)) ⟨n.sz, []⟩ (E' x) (Hp M0 w0 S (own (pre ++ [x]) ++ (A1 l rec :: A1 D (.deferred (some [])) :: Aa M1 w1 :: R pre d))) body
   (Vi M0 w0 S (fun d=>own (pre++[x])++(A1 l rec::A1 D (.deferred (some []))::Aa M1 w1::R (pre++[x]) d)) (fun c d=>own (pre++[x])++(A1 l rec::A1 D (.deferred (some []))::Aa M1 w1::Rx c (pre++[x]) d))))
  (hdone:∀l D rec M1 w1 d,Fin ⟨n.sz,{ target:= .collected D,args:= #[] }::n.df⟩ E (Hp M0 w0 S (own xs++(A1 l rec::A1 D (.deferred (some []))::Aa M1 w1::R xs d))) Q .normal)
  (hstop:∀l D rec M1 w1 c pre d,pre<+:xs→Tr (gG P none) ⟨n.sz,{ target:= .collected D,args:= #[] }::n.df⟩ E (Hp M0 w0 S (own pre++(A1 l rec::A1 D (.deferred (some []))::Aa M1 w1::Rx c pre d))) c Q):
  Tr (gG P none) n E (Hp M0 w0 S rs) (.rangeFunc g #[p] assign body) Q:=by
 intro a w ⟨M,hsz,hdf,hE,hI⟩
 have hI:Ao M0 w0 S rs M w:=hI
 refine wpIn_rangeFunc ?_
 intro fn hfn
 obtain ⟨rec,Ow⟩:∃rec:LoopState→Option Code→Loop,rec=fun st pe=>{ state:=st,pending:=pe,fn,tmps:=a.tmps,params:= #[p],assign,body,defers:=w.heap.size }:=⟨_,rfl⟩
 -- what is held ahead of the call
 have kP:=Ao.perm K5 hI
 obtain ⟨Yh,e3⟩:=kP.TS (.deferred (some []))
 obtain ⟨WW,e4⟩:=Yh.TS (.loop (rec .ready none))
 obtain ⟨W1,iZ⟩:∃W1,(w.alloc (.deferred (some []))).alloc (.loop (rec .ready none))=W1:=⟨_,rfl⟩
 have hs1:(w.alloc (.deferred (some []))).heap.size=w.heap.size+1:=by simp
 rw [iZ,hs1] at WW e4
 obtain ⟨M1,kQ⟩:∃M1:Av,M1=(fun b o=>(M b o∨b=w.heap.size)∨b=w.heap.size+1):=⟨_,rfl⟩
 rw [←kQ] at WW e4
 have e1:Ext M w M1 W1:=e3.trans e4
 obtain ⟨l,hl⟩:∃l,l=w.heap.size+1:=⟨_,rfl⟩
 obtain ⟨D,hD⟩:∃D,D=w.heap.size:=⟨_,rfl⟩
 rw [←hl] at WW
 rw [←hD] at WW
 have gH:Dx M1 W1 E a:=fun s q hq=>q.st _ _ _ _ _ e1 (hE s q hq)
 have kR:Ao M0 w0 S (own []++(A1 l (.loop (rec .ready none))::A1 D (.deferred (some []))::Aa M1 W1::R [] d0)) M1 W1:=by
  refine Ao.perm ?_ (Ao.Il WW (r:=Aa M1 W1) rfl (Ext.refl _ _))
  refine List.Perm.trans (l₂:=(A1 l (.loop (rec .ready none))::A1 D (.deferred (some []))::Aa M1 W1::R [] d0)++own []) ?_ List.perm_append_comm
  refine (List.Perm.swap _ _ _).trans (List.Perm.cons _ ((List.Perm.swap _ _ _).trans (List.Perm.cons _ (List.Perm.cons _ List.perm_append_comm))))
 have ix:∀(os:List Al) (r:Al) (tl:List Al),(os++r::tl)[os.length]? =some r:=fun os r tl=>by simp
 have sx:∀(os:List Al) (r r':Al) (tl:List Al),(os++r::tl).set os.length r'=os++r'::tl:=fun os r r' tl=>by simp
 have ia:∀(os:List Al) (r1 r2 r:Al) (tl:List Al),(os++r1::r2::r::tl)[os.length+2]? =some r:=fun os r1 r2 r tl=>by
  rw [List.getElem?_append_right (by omega)];simp
 have ig:∀(os:List Al) (r1 r2 r r':Al) (tl:List Al),(os++r1::r2::r::tl).set (os.length+2) r'=os++r1::r2::r'::tl:=fun os r1 r2 r r' tl=>by
  rw [List.set_append_right _ _ (by omega)];simp
 have gI:=hdone;have gJ:=hstop
 refine ⟨l,[{ target:= .collected D,args:= #[] }],W1,{ target:= .fn (.func gf) lb,args:= #[.func (.yield l) #[] #[]] },W1,gf,#[.func (.yield l) #[] #[]]++lb,W1,?_,?_,fun _ _=>trivial,?_,fun h=>(by cases h),?_⟩
 · rw [hl,hD,←iZ,Ow];exact run_enterLoop_outer _ _ _ _ _
 ·
  have hv:a.eval g= .func (.func gf) #[] lb:=by
   obtain ⟨q,h1,h2⟩:=hg
   exact h2 _ _ _ (B3.eval hE h1)
  simp only [resolve,hv]
  simp [go_sem]
 · simp [invoke,go_sem,eg]
 ·
  refine (kO M0 w0 S l (Code × β) (fun pre cd => A1 l (.loop (rec .ready none)) :: A1 D (.deferred (some [])) :: Aa M1 W1 :: R pre cd.2)
   (fun pre cd=>A1 l (.loop (rec .done (some cd.1)))::A1 D (.deferred (some []))::Aa M1 W1::Rx cd.1 pre cd.2) ?_ (.skip,d0) M1 W1 kR).mono ?_
  ·
   rintro pre x ⟨c0,d⟩ M2 W2 hpre hI
   have bz:W2.heap[l]? =some (.loop (rec .ready none)):=(hI.hold (A1 l (.loop (rec .ready none))) (by simp)).1.2
   have hx2:Ext M1 W1 M2 W2:=(hI.hold (Aa M1 W1) (by simp)).1
   have hy:=run_yield (P:=P) (args:= #[enc x]) bz (by rw [Ow];rfl)
   have H_:Ao M0 w0 S (own (pre++[x])++(A1 l (.loop (rec .ready none))::A1 D (.deferred (some []))::Aa M2 W2::R pre d)) M2 W2:=by
    have:=hI.B0 (r':=Aa M2 W2) (ia _ _ _ _ _) rfl rfl (Ext.refl _ _)
    rwa [ig] at this
   have kS:(Instr.yield l #[enc x]).run P W2= .ok (.round l fn (a.tmps.setIfInBounds p (enc x)) assign body) W2:=by
    rw [hy,Ow];simp
   have ha:=hassign l D _ M2 W2 pre x d hpre a hsz (fun s q hq=>q.st _ _ _ _ _ hx2 (gH s q hq)) M2 W2 H_
   refine ⟨fn,_,assign,body,kS,roundIn_of_wpIn (F:=EP none) trivial (wpIn_mono (F:=(EP none).inRound l) ha ?_)⟩
   intro e a3 W3 hq
   cases e with
   |normal=>
    obtain ⟨M3,kT,kU,kV,Yh⟩:=hq
    have Yh:Ao M0 w0 S (own (pre++[x])++(A1 l (.loop (rec .ready none))::A1 D (.deferred (some []))::Aa M2 W2::R pre d)) M3 W3:=Yh
    have kW:W3.heap[l]? =some (.loop (rec .ready none)):=(Yh.hold (A1 l (.loop (rec .ready none))) (by simp)).1.2
    obtain ⟨WW,e4⟩:=Yh.putObj (.loop { rec .ready none with state:= .busy }) (ix _ _ _)
    rw [sx] at WW
    refine ⟨_,run_beginRound kW (by rw [Ow]),?_⟩
    refine wpIn_mono (F:=(EP none).inRound l) (hbody l D _ M2 W2 pre x d hpre a3 _ ⟨M3,kT,kU,fun s q hq=>q.st _ _ _ _ _ e4 (kV s q hq),WW⟩) ?_
    have fin:∀(jump:Option Code) (tl:List Al) (W5:World) (M5:Av),Ao M0 w0 S (own (pre++[x])++(A1 l (.loop { rec .ready none with state:= .busy })::A1 D (.deferred (some []))::Aa M2 W2::tl)) M5 W5→
      ∃w6,(Instr.endRound l jump).run P W5= .ok (.bool jump.isNone) w6∧Ext M2 W2 M5 w6∧Ao M0 w0 S (own (pre++[x])++(A1 l (.loop (rec (if jump.isNone then .ready else .done) jump))::A1 D (.deferred (some []))::Aa M1 W1::tl)) M5 w6:=by
     intro jump tl W5 M5 h5
     have gK:W5.heap[l]? =some (.loop { rec .ready none with state:= .busy }):=(h5.hold (A1 l (.loop { rec .ready none with state:= .busy })) (by simp)).1.2
     have ij:Ext M2 W2 M5 W5:=(h5.hold (Aa M2 W2) (by simp)).1
     obtain ⟨h6,e6⟩:=h5.putObj (.loop { rec .ready none with state:=if jump.isNone then .ready else .done,pending:=jump }) (ix _ _ _)
     rw [sx] at h6
     have h7:=h6.B0 (r':=Aa M1 W1) (ia _ _ _ _ _) rfl rfl (hx2.trans (ij.trans e6))
     rw [ig] at h7
     refine ⟨_,run_endRound jump gK,ij.trans e6,?_⟩
     rw [Ow] at h7 ⊢
     exact h7
    intro e5 a5 W5 hp
    cases e5 with
    |normal=>
     obtain ⟨d5,M5,h5⟩:=hp
     obtain ⟨w6,g1,g2,g3⟩:=fin none _ _ _ h5
     exact ⟨_,_,g1,M5,(.skip,d5),g2,.inl ⟨rfl,g3⟩⟩
    |ret=>
     obtain ⟨d5,M5,h5⟩:=hp
     obtain ⟨w6,g1,g2,g3⟩:=fin (some .ret) _ _ _ h5
     exact ⟨_,_,g1,M5,(.ret,d5),g2,.inr ⟨rfl,g3⟩⟩
    |exit id=>
     obtain ⟨d5,M5,h5⟩:=hp
     obtain ⟨w6,g1,g2,g3⟩:=fin (some (.exit id)) _ _ _ h5
     exact ⟨_,_,g1,M5,(.exit id,d5),g2,.inr ⟨rfl,g3⟩⟩
    |goto t=>
     obtain ⟨d5,M5,h5⟩:=hp
     obtain ⟨w6,g1,g2,g3⟩:=fin (some (.goto t)) _ _ _ h5
     exact ⟨_,_,g1,M5,(.goto t,d5),g2,.inr ⟨rfl,g3⟩⟩
    |panic ch=>exact hp.elim
    |outgrown=>exact hp.elim
   |exit id=>exact hq.elim
   |goto t=>exact hq.elim
   |ret=>exact hq.elim
   |panic ch=>exact hq.elim
   |outgrown=>exact hq.elim
  ·
   rintro e W2 ⟨⟨v,rfl⟩,M2,⟨c2,d2⟩,hx2,h2⟩
   have hend:∀(os tl:List Al) (st:LoopState) (pe:Option Code),st≠ .busy→Ao M0 w0 S (os++(A1 l (.loop (rec st pe))::A1 D (.deferred (some []))::Aa M1 W1::tl)) M2 W2→
     ∃w6,(Instr.endLoop l).run P W2= .ok pe w6∧Ext M2 W2 M2 w6∧Ao M0 w0 S (os++(A1 l (.loop { rec st pe with state:= .exhausted })::A1 D (.deferred (some []))::Aa M1 W1::tl)) M2 w6:=by
    intro os tl st pe hst h5
    have gK:W2.heap[l]? =some (.loop (rec st pe)):=(h5.hold (A1 l (.loop (rec st pe))) (by simp)).1.2
    obtain ⟨h6,e6⟩:=h5.putObj (.loop { rec st pe with state:= .exhausted }) (ix _ _ _)
    rw [sx] at h6
    have:=run_endLoop (P:=P) gK (by rw [Ow];exact hst)
    refine ⟨_,?_,e6,h6⟩
    rw [this,Ow]
   rcases h2 with h2|⟨pre,hpre,h2⟩
   ·
    obtain ⟨w6,g1,g2,g3⟩:=hend _ _ _ _ (by simp) h2
    exact ⟨none,w6,g1,hdone l D _ M1 W1 d2 _ _ ⟨M2,hsz,by show _::a.defers=_;rw [hdf],fun s q hq=>q.st _ _ _ _ _ g2 (q.st _ _ _ _ _ hx2 (gH s q hq)),g3⟩⟩
   ·
    obtain ⟨w6,g1,g2,g3⟩:=hend _ _ _ _ (by simp) h2
    exact ⟨some c2,w6,g1,hstop l D _ M1 W1 c2 pre d2 hpre _ _ ⟨M2,hsz,by show _::a.defers=_;rw [hdf],fun s q hq=>q.st _ _ _ _ _ g2 (q.st _ _ _ _ _ hx2 (gH s q hq)),g3⟩⟩
end
section
variable {P:Program} {M0:Av} {w0:World} {S:Nat→Prop} {rs:List Al}
end
section
variable {P:Program}
end
end Cp
namespace Cp
open Go Go.RowKit Go.Great
structure LU (P:Program) (T kt et:TypeId) {κ:Type} [DecidableEq κ] (enc:κ→Value) (z0:Value):Prop where
 OC:P.underlying T=some (.map kt et)
 zero:∀w,(zeroValue et).run P w= .ok z0 w
 eq:∀a b w,(Op.equal kt (enc a) (enc b)).run P w= .ok (decide (a=b)) w
 QS:∀e a w,(Instr.checkKey e 10000 kt (enc a)).run P w= .ok () w
 Ro:∃d,P.underlying kt=some d∧((∀a b,Instr.sameNow d (enc a) (enc b)=none)∨∀a b,Instr.sameNow d (enc a) (enc b)=some (decide (a=b)))
 bits:∀a,Instr.sameBits 10000 (enc a) (enc a)=true
section
variable {P:Program} {L:Lg P} {n:Fm} {z0:Value} {fz:Nat} {E:Env} {M0:Av} {w0:World} {S:Nat→Prop} {rs:List Al} {o:Oper} {κ:Type} [DecidableEq κ] {enc:κ→Value}
abbrev CI (enc:κ→Value) (es:List (κ×Value)):List (Value×Value):=es.map fun p=>(enc p.1,p.2)
def Dk (enc:κ→Value) (b:Nat) (es:List (κ×Value)):Al where
 EZ:=some b
 new:=true
 h M w:=(∀o,M b o)∧w.heap[b]? =some (.map (EA (CI enc es)) es.length)
 st M w M' w' he hk h:=by
  obtain ⟨h1,h2⟩:=hk b rfl
  exact ⟨fun o=>h2 o (h.1 o),h1.trans h.2⟩
def LV (es:List (κ×Value)) (k:κ):Option Value:=(es.find? fun p=>decide (k=p.1)).map (·.2)
def Gk (es:List (κ×Value)) (k:κ) (v:Value):List (κ×Value):=match es.findIdx? fun p=>decide (k=p.1) with|some i=>es.set i (k,v)|none=>es++[(k,v)]
theorem HE {T kt et:TypeId} (hT:LU P T kt et enc z0) (k:κ) (w:World):∀(es:List (κ×Value)) (i c:Nat),
  (Instr.findAsking kt (enc k) ((es.zipIdx c).map fun p=>({ key:=enc p.1.1,val:=p.1.2,born:=p.2 }:MapEntry)) i).run P w= .ok ((es.findIdx? fun p=>decide (k=p.1)).bind fun j=>(es[j]?).map fun p=>(i+j,p.2)) w
 |[],i,c=>by simp [Instr.findAsking]
 |p::es,i,c=>by
  rw [List.zipIdx_cons,List.map_cons,Instr.findAsking,Sem.run_bind,hT.eq,Result.andThen_ok]
  by_cases h:k=p.1
  · simp [h,List.findIdx?_cons]
  ·
   rw [if_neg (by simpa using h),HE hT k w es (i+1) (c+1),List.findIdx?_cons]
   simp only [h,decide_false,Bool.false_eq_true,if_false]
   congr 1
   cases hf:es.findIdx? fun p=>decide (k=p.1) with
   |none=>simp
   |some j=>simp [Nat.add_assoc,Nat.add_comm 1 j]
theorem LW {d:TypeDesc} (hn:∀a b:κ,Instr.sameNow d (enc a) (enc b)=some (decide (a=b))) (k:κ):∀(es:List (κ×Value)) (i c:Nat),
  Instr.findNow d (enc k) ((es.zipIdx c).map fun p=>({ key:=enc p.1.1,val:=p.1.2,born:=p.2 }:MapEntry)) i=some ((es.findIdx? fun p=>decide (k=p.1)).bind fun j=>(es[j]?).map fun p=>(i+j,p.2))
 |[],i,c=>by simp [Instr.findNow]
 |p::es,i,c=>by
  rw [List.zipIdx_cons,List.map_cons,Instr.findNow,hn]
  by_cases h:k=p.1
  · simp [h,List.findIdx?_cons]
  ·
   simp only [h,decide_false]
   rw [LW hn k es (i+1) (c+1),List.findIdx?_cons]
   simp only [h,decide_false,Bool.false_eq_true,if_false]
   congr 1
   cases hf:es.findIdx? fun p=>decide (k=p.1) with
   |none=>simp
   |some j=>simp [Nat.add_assoc,Nat.add_comm 1 j]
theorem LX {T kt et:TypeId} (hT:LU P T kt et enc z0) (k:κ) (w:World) (es:List (κ×Value)):
  (Instr.findKey kt (enc k) (EA (CI enc es)).toList).run P w= .ok ((es.findIdx? fun p=>decide (k=p.1)).bind fun j=>(es[j]?).map fun p=>(j,p.2)) w:=by
 obtain ⟨d,hd,hn⟩:=hT.Ro
 have hl:(EA (CI enc es)).toList=(es.zipIdx 0).map fun p=>({ key:=enc p.1.1,val:=p.1.2,born:=p.2 }:MapEntry):=by
  simp [EA,CI,List.zipIdx_map]
 rw [hl]
 unfold Instr.findKey
 rw [Sem.run_bind,run_underlying hd,Result.andThen_ok]
 rcases hn with hn|hn
 rotate_left
 · rw [LW hn k es 0 0];simp
 cases es with
 |nil=>simp [Instr.findNow]
 |cons p es=>
  have h1:Instr.findNow d (enc k) (((p::es).zipIdx 0).map fun p=>({ key:=enc p.1.1,val:=p.1.2,born:=p.2 }:MapEntry)) 0=none:=by
   rw [List.zipIdx_cons,List.map_cons,Instr.findNow,hn]
  rw [h1]
  have:=HE hT k w (p::es) 0 0
  simpa using this
variable {Q:Exit→Act→World→Prop} {ops:Array Oper} {r:List Oper}
omit [DecidableEq κ] in
theorem TO.YB {d:Nat} {T:TypeId} (enc:κ→Value) (hg:o.guard=none) (hd:o.dst=some d) (hn:d<n) (ho:o.op= .makeMap T none)
  (k:∀b,TO P n ops r ((d,is (.map (some b)))::E) (Hp M0 w0 S (Dk enc b []::rs)) Q):TO P n ops (o::r) E (Hp M0 w0 S rs) Q:=
 TO.Mf hg fun K M w a hsz hdf he hI hK=>by
  refine TO.val (v:= .map (some w.heap.size)) (w':=w.alloc (.map #[] 0)) ?_ ?_
  · simp [execOp,ho,Instr.makeMap]
  ·
   obtain ⟨h2,h3⟩:=Ao.UB (obj:= .map #[] 0) (r:=Dk enc w.heap.size []) hI rfl rfl ⟨fun _=> .inr rfl,by rw [heap_alloc_new];rfl⟩
   refine hK _ _ _ _ (k w.heap.size) ⟨_,by rw [BH];exact hsz,by rw [put_defers];exact hdf,?_,h2⟩
   intro s p hp
   simp only [List.lookup] at hp
   by_cases hs:s=d
   · subst hs;simp at hp;subst hp;rw [hd,BC (by rw [hsz];exact hn)];rfl
   ·
    rw [show (s==d)=false by simpa using hs] at hp
    rw [hd,A9 hs]
    exact p.st _ _ _ _ _ h3 (he s p hp)
theorem Np {T kt et:TypeId} {x y:Operand} {b j:Nat} {es:List (κ×Value)} (k:κ) {q:Pr} (hT:LU P T kt et enc z0) (ho:o.op= .lookup T x y false) (hx:VL E x (is (.map (some b)))) (hy:VL E y q) (hk:∀M w v,q.h M w v→v=enc k):
  Gp P M0 w0 S j (SR.c (Dk enc b es)) o E (is ((LV es k).getD z0)):=by
 intro M w a rs he hI hj
 have h1:a.eval x=_:=hx.ev he (by simp [ho,Op.operands])
 have h2:a.eval y=enc k:=hk _ _ _ (hy.ev he (by simp [ho,Op.operands]))
 have hj':rs[j]? =some (Dk enc b es):=hj
 obtain ⟨_,hh⟩:=(hI.hold _ (List.mem_of_getElem? hj')).1
 have hrun:(execOp a.eval o).run P w= .ok (.value ((LV es k).getD z0)) w:=by
  have hf:=LX hT k w es
  have hg:=EJ (fun p:κ×Value=>decide (k=p.1)) es
  unfold LV
  cases GQ:es.findIdx? fun p=>decide (k=p.1) with
  |none=>
   rw [GQ] at hf hg
   rw [←hg]
   simp only [Option.bind_none] at hf
   simp [execOp,ho,h1,h2,Instr.lookup,run_underlying hT.OC,MapKept.run_getObj_map hh,hT.QS,hf,hT.zero,Result.andThen]
  |some i=>
   rw [GQ] at hf hg
   rw [←hg]
   have CO:i<es.length:=by rw [List.findIdx?_eq_some_iff_getElem] at GQ;exact GQ.1
   simp only [Option.bind_some,List.getElem?_eq_getElem CO,Option.map_some] at hf ⊢
   simp [execOp,ho,h1,h2,Instr.lookup,run_underlying hT.OC,MapKept.run_getObj_map hh,hT.QS,hf,Result.andThen]
 rw [hrun]
 exact ⟨rfl,Below.refl _ _⟩
theorem Q2 {es:List (κ×Value)} {k:κ} {v:Value} (h:(es.findIdx? fun p=>decide (k=p.1))=none):Gk es k v=es++[(k,v)]:=by unfold Gk;rw [h]
theorem Q3 {es:List (κ×Value)} {k:κ} {v:Value} {i:Nat} (h:(es.findIdx? fun p=>decide (k=p.1))=some i):Gk es k v=es.set i (k,v):=by unfold Gk;rw [h]
theorem Ox {T kt et:TypeId} {x y:Operand} {s:Tmp} {b j:Nat} {es:List (κ×Value)} {p:Pr} (k:κ) {q:Pr} (hT:LU P T kt et enc z0) (hg:o.guard=none) (hd:o.dst=none) (ho:o.op= .mapUpdate T x y (.tmp s)) (hx:VL E x (is (.map (some b)))) (hy:VL E y q) (hk:∀M w v,q.h M w v→v=enc k) (_hz:E.lookup s=some p):
  DC P M0 w0 S n j (SR.c (Dk enc b es)) ⟨s,fun v=>Dk enc b (Gk es k v)⟩ o E any:=by
 refine ⟨hg,fun M w a rs hsz he hI hj=> ?_⟩
 have h1:a.eval x=_:=hx.ev he (by simp [ho,Op.operands])
 have h2:a.eval y=enc k:=hk _ _ _ (hy.ev he (by simp [ho,Op.operands]))
 generalize hv:a.eval (.tmp s)=v
 have hj':rs[j]? =some (Dk enc b es):=hj
 obtain ⟨⟨hM,hh⟩,Q_⟩:=hI.hold _ (List.mem_of_getElem? hj')
 have hlt:=(Q_ b rfl).1
 have hf:=LX hT k w es
 have hrun:(execOp a.eval o).run P w= .ok .skip (Fc w b (.map (EA (CI enc (Gk es k v))) (Gk es k v).length)):=by
  cases GQ:es.findIdx? fun p=>decide (k=p.1) with
  |none=>
   rw [GQ] at hf
   simp only [Option.bind_none] at hf
   rw [Q2 GQ]
   have hp:EA (CI enc (es++[(k,v)]))=(EA (CI enc es)).push { key:=enc k,val:=v,born:=es.length }:=by
    have:=Mp (CI enc es) (enc k) (v)
    rw [List.length_map] at this
    rw [this];simp [CI]
   rw [hp]
   simp [execOp,ho,h1,h2,hv,Instr.mapUpdate,run_underlying hT.OC,MapKept.run_getObj_map hh,hT.QS,hf,MapKept.run_setObj_map _ hh,Result.andThen,Fc]
  |some i=>
   have CO:i<es.length:=by rw [List.findIdx?_eq_some_iff_getElem] at GQ;exact GQ.1
   have YS:(es[i]).1=k:=by
    rw [List.findIdx?_eq_some_iff_getElem] at GQ
    obtain ⟨_,h4,_⟩:=GQ
    simpa using (of_decide_eq_true h4).symm
   rw [GQ] at hf
   simp only [Option.bind_some,List.getElem?_eq_getElem CO,Option.map_some] at hf
   rw [Q3 GQ]
   have hp:EA (CI enc (es.set i (k,v)))=(EA (CI enc es)).modify i fun e=>{ e with key:=enc k,val:=v }:=by
    rw [PU (by simpa using CO)];simp [CI]
   have hold:((EA (CI enc es))[i]?).map (·.key)=some (enc k):=by
    rw [D1];simp [CI,List.getElem?_eq_getElem CO,YS]
   rw [hp,List.length_set]
   simp [execOp,ho,h1,h2,hv,Instr.mapUpdate,run_underlying hT.OC,MapKept.run_getObj_map hh,hT.QS,hf,hold,Instr.keyThatStays,hT.bits,MapKept.run_setObj_map _ hh,Result.andThen,Fc]
 rw [hrun]
 obtain ⟨h5,h6⟩:=Ao.UC (obj:= .map (EA (CI enc (Gk es k v))) (Gk es k v).length) (r':=Dk enc b (Gk es k v)) hI hj' rfl rfl rfl rfl hM ⟨hM,I6 hlt⟩
 refine ⟨M,trivial,h6,?_⟩
 have hput:SR.at_ (a.put o.dst undef) ⟨s,fun v=>Dk enc b (Gk es k v)⟩=Dk enc b (Gk es k v):=by rw [hd,←hv];rfl
 rw [hput];exact h5
theorem TO.YC {d j b:Nat} {T kt et:TypeId} {x:Operand} {es:List (κ×Value)} (hT:LU P T kt et enc z0) (hg:o.guard=none) (hd:o.dst=some d) (hn:d<n) (ho:o.op= .range T x) (hx:VL E x (is (.map (some b)))) (hj:rs[j]? =some (Dk enc b es))
  (k:∀it,TO P n ops r ((d,ptr it 0)::E) (Hp M0 w0 S (Eg it b es.length []::rs)) Q):TO P n ops (o::r) E (Hp M0 w0 S rs) Q:=
 TO.Mf hg fun K M w a hsz hdf he hI hK=>by
  have h1:a.eval x=_:=hx.ev (o:=o) (Ba he) (by simp [ho,Op.operands])
  obtain ⟨_,hh⟩:=(Ao.hold hI _ (List.mem_of_getElem? hj)).1
  refine TO.val (v:= .pointer (some ⟨w.heap.size,0,none⟩)) (w':=w.alloc (.mapIter (some b) es.length #[] es.length)) ?_ ?_
  · simp [execOp,ho,h1,run_range_map w T kt et b _ _ hT.OC hh]
  ·
   obtain ⟨h2,h3⟩:=Ao.UB (obj:= .mapIter (some b) es.length #[] es.length) (r:=Eg w.heap.size b es.length []) hI rfl rfl ⟨fun _=> .inr rfl,by rw [heap_alloc_new]⟩
   refine hK _ _ _ _ (k w.heap.size) ⟨_,by rw [BH];exact hsz,by rw [put_defers];exact hdf,?_,h2⟩
   intro s p hp
   simp only [List.lookup] at hp
   by_cases hs:s=d
   · subst hs;simp at hp;subst hp;rw [hd,BC (by rw [hsz];exact hn)];rfl
   ·
    rw [show (s==d)=false by simpa using hs] at hp
    rw [hd,A9 hs]
    exact p.st _ _ _ _ _ h3 (he s p hp)
omit [DecidableEq κ] in
theorem TO.bL {d i j it b:Nat} {x:Operand} {es:List (κ×Value)} {seen:List Nat} (hg:o.guard=none) (hd:o.dst=some d) (hn:d<n) (ho:o.op= .next x false) (hx:VL E x (ptr it 0)) (hi:rs[i]? =some (Eg it b es.length seen)) (hj:rs[j]? =some (Dk enc b es))
  (k1:(∀q,q<es.length→q∈seen)→TO P n ops r ((d,ER [bool false])::E) (Hp M0 w0 S rs) Q)
  (k2:∀q p,es[q]? =some p→q∉seen→TO P n ops r ((d,ER [bool true,is (enc p.1),is p.2])::E) (Hp M0 w0 S (rs.set i (Eg it b es.length (seen++[q])))) Q):TO P n ops (o::r) E (Hp M0 w0 S rs) Q:=
 TO.Mf hg fun K M w a hsz hdf he hI hK=>by
  have h1:a.eval x= .pointer (some ⟨it,0,none⟩):=hx.ev (o:=o) (Ba he) (by simp [ho,Op.operands])
  obtain ⟨⟨ZO,hit⟩,eC⟩:=Ao.hold hI _ (List.mem_of_getElem? hi)
  obtain ⟨_,hh⟩:=(Ao.hold hI _ (List.mem_of_getElem? hj)).1
  have hlt:=(eC it rfl).1
  rcases Gw (P:=P) o.type (es:=CI enc es) (by simp [CI]) hit hh with ⟨h2,h3⟩|⟨q,p,h2,h3,w1,h4,h5⟩
  ·
   refine TO.val (v:= .tuple #[.bool false]) (w':=w) ?_ ?_
   · simp [execOp,ho,h1,h3]
   ·
    refine hK _ _ _ _ (k1 h2) ⟨M,by rw [BH];exact hsz,by rw [put_defers];exact hdf,?_,hI⟩
    intro s p hp
    simp only [List.lookup] at hp
    by_cases hs:s=d
    · subst hs;simp at hp;subst hp;rw [hd,BC (by rw [hsz];exact hn)];exact ⟨_,rfl,rfl,trivial⟩
    ·
     rw [show (s==d)=false by simpa using hs] at hp
     rw [hd,A9 hs];exact he s p hp
  ·
   have eD:∃p',es[q]? =some p'∧p=(enc p'.1,p'.2):=by
    simp only [CI,List.getElem?_map] at h2
    cases h:es[q]? with
    |none=>rw [h] at h2;cases h2
    |some p'=>rw [h] at h2;simp at h2;exact ⟨p',rfl,h2.symm⟩
   obtain ⟨p',MS,rfl⟩:=eD
   refine TO.val (v:= .tuple #[.bool true,enc p'.1,p'.2]) (w':=Fc w1 it (.mapIter (some b) es.length (seen++[q]).toArray es.length)) ?_ ?_
   · simp [execOp,ho,h1,h5]
   ·
    have OD:Below w.heap.size w w1:=by
     rcases h4 with rfl|rfl
     · exact Below.refl _ _
     · exact (Below.refl _ _).drew
    have eE:=(Hp M0 w0 S rs).st _ _ _ OD hI
    obtain ⟨h6,h7⟩:=Ao.UC (obj:= .mapIter (some b) es.length (seen++[q]).toArray es.length) (r':=Eg it b es.length (seen++[q])) eE hi rfl rfl rfl rfl ZO ⟨ZO,I6 (Nat.lt_of_lt_of_le hlt OD.size)⟩
    refine hK _ _ _ _ (k2 q p' MS h3) ⟨M,by rw [BH];exact hsz,by rw [put_defers];exact hdf,?_,h6⟩
    intro s p hp
    simp only [List.lookup] at hp
    by_cases hs:s=d
    · subst hs;simp at hp;subst hp;rw [hd,BC (by rw [hsz];exact hn)];exact ⟨_,rfl,rfl,rfl,rfl,trivial⟩
    ·
     rw [show (s==d)=false by simpa using hs] at hp
     rw [hd,A9 hs]
     exact p.st _ _ _ _ _ ((Ext.below OD).trans h7) (he s p hp)
omit [DecidableEq κ] in
theorem TO.YD {pk:Pr} {d i j it b q:Nat} {x:Operand} {es:List (κ×Value)} {seen:List Nat} {p:κ×Value} (hg:o.guard=none) (hd:o.dst=some d) (hn:d<n) (ho:o.op= .entry x) (hx:VL E x (ptr it 0)) (hi:rs[i]? =some (Eg it b es.length (seen++[q]))) (hj:rs[j]? =some (Dk enc b es)) (hq:es[q]? =some p)
  (hpk:Pr.le (is (enc p.1)) pk)
  (k:TO P n ops r ((d,ER [pk,is p.2])::E) (Hp M0 w0 S rs) Q):TO P n ops (o::r) E (Hp M0 w0 S rs) Q:=
 TO.Mf hg fun K M w a hsz hdf he hI hK=>by
  have h1:a.eval x= .pointer (some ⟨it,0,none⟩):=hx.ev (o:=o) (Ba he) (by simp [ho,Op.operands])
  obtain ⟨⟨_,hit⟩,_⟩:=Ao.hold hI _ (List.mem_of_getElem? hi)
  obtain ⟨_,hh⟩:=(Ao.hold hI _ (List.mem_of_getElem? hj)).1
  have ZP:(EA (CI enc es))[q]? =some { key:=enc p.1,val:=p.2,born:=q }:=by rw [D1];simp [CI,hq]
  have hnd:((EA (CI enc es)).toList.map (·.born)).Nodup:=by
   have:(EA (CI enc es)).toList.map (·.born)=List.range (CI enc es).length:=by
    apply List.ext_getElem?
    intro k
    rw [List.getElem?_map,Array.getElem?_toList,D1]
    by_cases hk:k<(CI enc es).length
    · rw [List.getElem?_range hk,List.getElem?_eq_getElem hk];rfl
    · rw [List.getElem?_eq_none (Nat.le_of_not_lt hk),List.getElem?_eq_none (by simp at hk ⊢;omega)];rfl
   rw [this];exact List.nodup_range
  have hfind:(EA (CI enc es)).find? (fun e=>e.born==q)=some { key:=enc p.1,val:=p.2,born:=q }:=by
   rw [←Array.find?_toList]
   exact find_born { key:=enc p.1,val:=p.2,born:=q } _ hnd (List.mem_iff_getElem?.2 ⟨q,by rw [Array.getElem?_toList];exact ZP⟩)
  refine TO.val (v:= .tuple #[enc p.1,p.2]) (w':=w) ?_ ?_
  ·
   have:(Instr.entry (.pointer (some ⟨it,0,none⟩))).run P w= .ok (.tuple #[enc p.1,p.2]) w:=by
    have hb:(seen++[q]).toArray.back? =some q:=by simp
    simp only [Instr.entry,getObj,Sem.run_bind,Sem.run,hit,hh,Result.andThen,hb,bne_self_eq_false,Bool.false_eq_true,if_false,hfind]
    rfl
   simp [execOp,ho,h1,this]
  ·
   refine hK _ _ _ _ k ⟨M,by rw [BH];exact hsz,by rw [put_defers];exact hdf,?_,hI⟩
   intro s p hp
   simp only [List.lookup] at hp
   by_cases hs:s=d
   · subst hs;simp at hp;subst hp;rw [hd,BC (by rw [hsz];exact hn)];exact ⟨_,rfl,hpk _ _ _ rfl,rfl,trivial⟩
   ·
    rw [show (s==d)=false by simpa using hs] at hp
    rw [hd,A9 hs];exact he s p hp
end
section
variable {P:Program} {L:Lg P} {n:Fm} {E:Env} {M0:Av} {w0:World} {S:Nat→Prop} {rs:List Al} {ε:Type} {res:ε→List Al} {Q:Exit→Act→World→Prop} {c:Code} {X:List ε} {f:ε→Value} {g:ε→Pr}
theorem Am.YE {g:FuncId} {v:Value} {e:TypeId} {sz:Nat} {rows:List (List Pr)} {args:List Pr} {r:Pr} {R':Value→Al} (h:Am P g (Ap v (lens rows.length)::args) r (Ak e sz rows v) R'):Am P g (is v::args) r (Ak e sz rows v) R':=by
 refine ⟨h.1,fun M0 w0 S rs M w vs hI hv=>h.2 M0 w0 S rs M w vs hI ?_⟩
 match vs,hv with
 |a::vs,⟨h1,h2⟩=>
  refine ⟨⟨h1,?_⟩,h2⟩
  obtain rfl:a=v:=h1
  rcases (hI.hold _ (List.mem_cons_self ..)).1 with ⟨h3,h4⟩|⟨b,cap,sp,h3,_⟩
  · subst h3;exact ⟨_,_,h4⟩
  · exact ⟨_,_,h3⟩
theorem Tr.YF (BQ:List Al) {X1:List ε} {y:ε} (K5:rs=BQ++Fe res X) (h1:X1=X∨X1=X++[y]) (h0:∀r∈res y,r.EZ=none∧∀M w,r.h M w) (k:Tr L n E (Hp M0 w0 S (BQ++Fe res X1)) c Q):Tr L n E (Hp M0 w0 S rs) c Q:=by
 rcases h1 with rfl|rfl
 · subst K5;exact k
 · exact Tr.conv (fun _ _ hs=>hs.L4 BQ y K5 h0) k
def Oy (f:ε→Value) (g:ε→Pr) (X:List ε):Al:=⟨none,true,fun M w=>∀x∈X,(g x).h M w (f x),fun _ _ _ _ he _ h x hx=>(g x).st _ _ _ _ _ he (h x hx)⟩
theorem Tr.Vj (f:ε→Value) (g:ε→Pr) (BQ:List Al) (K5:rs=BQ++Fe res X) (h1:∀x rs M w,Ao M0 w0 S (res x++rs) M w→∃M',Ext M w M' w∧Ao M0 w0 S rs M' w∧(g x).h M' w (f x))
  (k:Tr L n E (Hp M0 w0 S (Oy f g X::BQ)) c Q):Tr L n E (Hp M0 w0 S rs) c Q:=by
 subst K5
 intro a w hs
 obtain ⟨M,k1,k2,k3,k4⟩:=hs
 have k4:Ao M0 w0 S (BQ++Fe res X) M w:=k4
 obtain ⟨M1,g1,g2,g3⟩:=Ao.Jw (Φ:=fun x M w=>(g x).h M w (f x)) (fun x M M' he h=>(g x).st _ _ _ _ _ he h) (fun x rs M=>h1 x rs M w) X _ M k4
 exact k a w ⟨M1,k1,k2,fun s q hq=>q.st _ _ _ _ _ g1 (k3 s q hq),Ao.Il g2 rfl g3⟩
theorem Tr.gL (j s:Nat) {x:ε} {p:Pr} (hj:rs[j]? =some (Oy f g X)) (hx:x∈X) (hs:E.lookup s=some p) (hp:Pr.le p (is (f x))) (k:Tr L n ((s,g x)::E) (Hp M0 w0 S rs) c Q):Tr L n E (Hp M0 w0 S rs) c Q:=by
 intro a w ha
 obtain ⟨M,k1,k2,k3,k4⟩:=ha
 have k4:Ao M0 w0 S rs M w:=k4
 refine k a w ⟨M,k1,k2,fun t q hq=> ?_,k4⟩
 simp only [List.lookup] at hq
 split at hq
 ·
  rename_i e1
  have:t=s:=by simpa using e1
  subst this
  simp only [Option.some.injEq] at hq
  subst hq
  have h2:_=f x:=hp _ _ _ (k3 t p hs)
  rw [h2]
  exact (k4.hold _ (List.mem_of_getElem? hj)).1 x hx
 · exact k3 t q hq
end
end Cp
namespace Go.Proofs.YtgilhkjlfongoaaGreat
open Go Go.RowKit Cp Go.Proofs.Tryz
theorem bM {d:Nat} {w:World} {x0 y0:Int} {x1 y1:Int}:(Op.equalIn (d+2) 92 (.agg #[.int .i64 x0,.int .i64 x1]) (.agg #[.int .i64 y0,.int .i64 y1])).run Tryz.prog w= .ok (decide (x0=y0∧x1=y1)) w:=by
 have h:=eA (w:=w) (d:=d+1) (xs:= #[.int .i64 x0,.int .i64 x1]) (ys:= #[.int .i64 y0,.int .i64 y1]) Tryz.underlying92 (by kernel_rfl) (B1 (by decide) (As CE rfl) (As CE rfl) (C7 (d:=d+0) Tryz.underlying3) (B1 (by decide) (As CE rfl) (As CE rfl) (C7 (d:=d+0) Tryz.underlying3) (Lu)))
 refine h.trans (congrArg (fun b=>Result.ok b w) ?_)
 rw [Bool.eq_iff_iff];simp [and_assoc]
abbrev Q4 (p:Int×Int):Value:= .agg #[.int .i64 p.1,.int .i64 p.2]
theorem Vk (p:Int×Int):Pr.le (is (Q4 p)) (agg [int p.1,int p.2]):=by
 rintro M w v rfl
 exact ⟨[.int .i64 p.1,.int .i64 p.2],rfl,(fun c hc=>by simp at hc;rcases hc with rfl|rfl<;>rfl),rfl,rfl,trivial⟩
theorem Hv:LU Tryz.prog 90 92 53 Q4 (.slice none 0 0) where
 OC:=Tryz.underlying90
 zero:=fun w=>by kernel_rfl
 eq:=fun a b w=>by
  rw [show Op.equal 92 _ _=Op.equalIn (9998+2) 92 _ _ from rfl]
  refine (bM (x0:=a.1) (x1:=a.2) (y0:=b.1) (y1:=b.2)).trans (congrArg (fun b=>Result.ok b w) ?_)
  rw [decide_eq_decide]
  cases a;cases b;simp
 QS:=fun e a w=>by
  show (Instr.checkKey e (9999+1) 92 (.agg _)).run _ w=_
  exact eF Tryz.underlying92 (⟨⟨_,fun w=>As CE rfl,Lw Tryz.underlying3⟩,⟨⟨_,fun w=>As CE rfl,Lw Tryz.underlying3⟩,trivial⟩⟩) w
 Ro:=⟨_,Tryz.underlying92,.inl fun a b=>rfl⟩
 bits:=fun a=>by
  show Instr.sameBits (9999+1) (.agg _) (.agg _)=true
  simp [Instr.sameBits]
structure Iv where
 c:Ax
 v:Value
abbrev Ny (x:Iv):(Int×Int)×Value:=((x.c.D8,x.c.day),x.v)
abbrev TT (x:Iv):List Al:=[Ak 9 1 (x.c.BD.map fun t=>[str t]) x.v]
theorem WX {X:List Iv} {key:Int×Int} {z:Value}:(Cp.LV (X.map Ny) key).getD z=((X.find? fun x=>decide (key=(x.c.D8,x.c.day))).map (·.v)).getD z:=by
 unfold Cp.LV
 rw [List.find?_map,Option.map_map]
 rfl
theorem bN {X:List Iv} {key:Int×Int} {v:Value}:Cp.Gk (X.map Ny) key v=match X.findIdx? fun x=>decide (key=(x.c.D8,x.c.day)) with|some i=>(X.map Ny).set i (key,v)|none=>X.map Ny++[(key,v)]:=by
 unfold Cp.Gk
 rw [List.findIdx?_map]
 rfl
theorem LY {f:AO} {x:Ax}:CN f x=decide (((f.machine,f.day):Int×Int)=(x.D8,x.day)):=by
 unfold CN
 rw [decide_eq_decide,Prod.mk.injEq]
 constructor<;>rintro ⟨h1,h2⟩<;>exact ⟨h1.symm,h2.symm⟩
theorem Vl {S:List Ax} {f:AO} {i:Nat} {x:Ax} (hk:X_ S) (hx:S[i]? =some x) (hs:CN f x=true):S.set i (FX x f)=S.map (Dg f):=by
 have CO:=B9 hx
 have Yg:S[i]=x:=by rw [List.getElem?_eq_getElem CO] at hx;exact Option.some.inj hx
 refine List.ext_getElem (by simp) fun j h1 h2=> ?_
 rw [List.getElem_set,List.getElem_map]
 split
 ·
  rename_i hij
  subst hij
  rw [Yg];unfold Dg;rw [if_pos hs]
 ·
  rename_i hij
  have hjl:j<S.length:=by simpa using h2
  have hno:¬CN f S[j]=true:=by
   intro hj
   unfold CN at hj hs
   rw [decide_eq_true_eq] at hj hs
   have hp:=List.pairwise_iff_getElem.1 hk
   have hz:Cb S[i] S[j]=0:=KS.2 (by rw [Yg];omega)
   rcases Nat.lt_or_gt_of_ne hij with h3|h3
   · exact hp i j CO hjl h3 hz
   · exact hp j i hjl CO h3 (by have:=Cw.swap S[i] S[j];omega)
  unfold Dg;rw [if_neg hno]
theorem TW {X:List Iv} {S:List Ax} {f:AO} (hX:X.map (·.c)=S) (hk:X_ S):∃(X1:List Iv) (i:Nat) (x:Iv),(X1=X∨X1=X++[⟨HC f,.slice none 0 0⟩])∧X1[i]? =some x∧(Cp.LV (X.map Ny) (f.machine,f.day)).getD (.slice none 0 0)=x.v∧(∀v,Cp.Gk (X.map Ny) (f.machine,f.day) v=(X1.set i ⟨FX x.c f,v⟩).map Ny)∧(∀v,(X1.set i ⟨FX x.c f,v⟩).map (·.c)=(Es S f).map (Dg f))∧x.c∈Es S f:=by
 cases hf:X.findIdx? fun x=>decide (((f.machine,f.day):Int×Int)=(x.c.D8,x.c.day)) with
 |some i=>
  have b7:=hf
  rw [List.findIdx?_eq_some_iff_getElem] at b7
  obtain ⟨CO,hp,_⟩:=b7
  have hs:CN f (X[i]).c=true:=by rw [LY];exact hp
  have hkey:((f.machine,f.day):Int×Int)=((X[i]).c.D8,(X[i]).c.day):=of_decide_eq_true hp
  have gM:S[i]? =some (X[i]).c:=by rw [←hX,List.getElem?_map,List.getElem?_eq_getElem CO];rfl
  have hin:FK f S=true:=by
   unfold FK;rw [List.any_eq_true]
   exact ⟨_,List.mem_of_getElem? gM,hs⟩
  have hput:Es S f=S:=by unfold Es;rw [if_pos hin]
  refine ⟨X,i,X[i],.inl rfl,List.getElem?_eq_getElem CO,?_,fun v=> ?_,fun v=> ?_,?_⟩
  · rw [WX,←Cp.EJ,hf,Option.bind_some,List.getElem?_eq_getElem CO];rfl
  ·
   rw [bN,hf,List.map_set]
   show (X.map Ny).set i (_,v)=(X.map Ny).set i _
   rw [hkey]
  ·
   rw [hput,List.map_set,hX]
   exact Vl hk gM hs
  · rw [hput];exact List.mem_of_getElem? gM
 |none=>
  have hno:∀x∈X,¬((f.machine,f.day):Int×Int)=(x.c.D8,x.c.day):=by
   rw [List.findIdx?_eq_none_iff] at hf
   intro x hx
   exact of_decide_eq_false (hf x hx)
  have hin:FK f S=false:=by
   unfold FK;rw [List.any_eq_false]
   intro y hy
   rw [←hX,List.mem_map] at hy
   obtain ⟨x,hx,rfl⟩:=hy
   rw [LY,decide_eq_true_eq];exact hno x hx
  have hput:Es S f=S++[HC f]:=by unfold Es;rw [hin];rfl
  have ZP:(X++[(⟨HC f,.slice none 0 0⟩:Iv)])[X.length]? =some ⟨HC f,.slice none 0 0⟩:=by simp
  refine ⟨_,X.length,⟨HC f,.slice none 0 0⟩,.inr rfl,ZP,?_,fun v=> ?_,fun v=> ?_,?_⟩
  · rw [WX,←Cp.EJ,hf];rfl
  · rw [bN,hf,List.set_append_right _ _ (Nat.le_refl _),Nat.sub_self,List.map_append];rfl
  ·
   rw [hput,List.set_append_right _ _ (Nat.le_refl _),Nat.sub_self,List.map_append,List.map_append,hX]
   congr 1
   ·
    refine (List.map_id' S).symm.trans (List.map_congr_left fun y hy=> ?_)
    unfold Dg
    rw [if_neg]
    unfold FK at hin;rw [List.any_eq_false] at hin
    exact hin y hy
   ·
    show [FX (HC f) f]=[Dg f (HC f)]
    unfold Dg;rw [if_pos (by unfold CN;simp)]
  · rw [hput];simp
theorem Vm {S:List Ax} {f:AO} {n:Nat} (h1:Dt n S) (h2:∀x∈S,Fg Lib.compareBytes x.BD) {x:Ax} (hx:x∈Es S f):Fg Lib.compareBytes x.BD∧x.BD.length≤n:=by
 unfold Es at hx;split at hx
 · exact ⟨h2 x hx,h1 x hx⟩
 ·
  rcases List.mem_append.1 hx with hx|hx
  · exact ⟨h2 x hx,h1 x hx⟩
  · rw [List.mem_singleton] at hx;subst hx;exact ⟨List.Pairwise.nil,Nat.zero_le _⟩
theorem TX (f:AO):∀r∈TT ⟨HC f,.slice none 0 0⟩,r.EZ=none∧∀M w,r.h M w:=by
 intro r hr
 rw [List.mem_singleton] at hr
 subst hr
 exact ⟨rfl,fun _ _=> .inl ⟨rfl,rfl⟩⟩
theorem TY {M0:Av} {w0:World} {S:Nat→Prop} (x:Iv) (rs:List Al) (M:Av) (w:World) (h:Ao M0 w0 S (TT x++rs) M w):∃M',Ext M w M' w∧Ao M0 w0 S rs M' w∧(strs x.c.BD).h M' w x.v:=by
 obtain ⟨M1,h1,h2,h3⟩:=Ao.QW (j:=0) h rfl (BU fun _=>rfl)
 exact ⟨M1,h1,h2.Gr,h3⟩
def Oz (X:List Iv) (seen:List Nat):List Ax:=seen.filterMap fun q=>(X[q]?).bind fun x=>if D9 x.c then some x.c else none
theorem Nq (X:List Iv) (seen:List Nat):(Oz X seen).length≤seen.length:=List.length_filterMap_le _ _
theorem Q5 (X:List Iv) (seen:List Nat) (q:Nat):Oz X (seen++[q])=Oz X seen++((X[q]?).bind fun x=>if D9 x.c then some x.c else none).toList:=by
 unfold Oz;rw [List.filterMap_append,Oe]
theorem Ia:∀X:List Iv,(X.map (·.c)).filter D9=X.filterMap fun x=>if D9 x.c then some x.c else none
 |[]=>rfl
 |x::X=>by
  have ih:=Ia X
  rw [List.map_cons,List.filterMap_cons]
  cases h:D9 x.c with
  |true=>rw [List.filter_cons_of_pos h,ih];rfl
  |false=>rw [List.filter_cons_of_neg (by rw [h];decide),ih];rfl
theorem Eu {S:List Ax} {f:AO} (h:¬f.machine=0):DN S f=(Es S f).map (Dg f):=if_neg h
theorem Vn {S:List Ax} {f:AO} (h:f.machine=0):DN S f=S:=if_pos h
theorem YG {l:List (List UInt8)} {x:List UInt8} {v:Value} (hs:Fg Lib.compareBytes l) (hl:l.length≤1000000):Am Tryz.prog 49 [is v,str x] (lens (Dd l x).length) (Ak 9 1 (l.map fun t=>[str t]) v) (fun v=>Ak 9 1 ((Dd l x).map fun t=>[str t]) v):=Am.YE (by rw [List.length_map];exact Su hs hl)
theorem Q6 {X:List Iv} {seen:List Nat} (hn:seen.Nodup) (hlt:∀q∈seen,q<X.length) (hall:∀q,q<X.length→q∈seen):(Oz X seen).Perm ((X.map (·.c)).filter D9):=by
 have e:=Ia X
 rw [e,←Of]
 exact (Qo hn hlt hall).filterMap _
theorem Ta {x:Ax} (h:1<x.BD.length):(if D9 x then some x else none:Option Ax)=some x:=if_pos (decide_eq_true h)
theorem Vp {x:Ax} (h:¬1<x.BD.length):(if D9 x then some x else none:Option Ax)=none:=if_neg (by rw [decide_eq_true_eq];exact h)
theorem O0 {a b:Ax}  :Bb prog 57 [agg (AM a),agg (AM b)] (int (Cb a b)):=by
 refine fo func57 rfl ⟨rfl,rfl⟩ fun M0 w0=> ?_
 refine a2 ?_
 refine co rfl (Jx (HX) rfl rfl rfl) ?_
 refine ac ?_
 refine co rfl (Jx (HX) rfl rfl rfl) (co rfl (Aw (xs:=[.tmp 9,.tmp 14]) (rows:=[[_],[_]]) rfl rfl underlying22 DB z3 rfl (by decide) ⟨⟨(by exact rfl),(Vo rfl)⟩,⟨⟨(by exact rfl),(Vo rfl)⟩,trivial⟩⟩ (by decide)) ?_)
 refine co rfl (Aq rfl (WK (l:=[An a.D8 b.D8,An a.day b.day])) ⟨(Kf rfl),trivial⟩) ?_
 refine ac ?_
 refine Cc 4 rfl ?_
 refine ac ?_
 · exact int_eq (GG _)
theorem O1:Entry Tryz.prog 57:=⟨_,Tryz.func57,rfl,rfl⟩
theorem LZ {l:List AO} (hf:∀f∈l,f.fits) (hl:l.length<50):Bb prog 14 [BL l] (ER [X9 (Q1 l).1,int (Q1 l).2]):=by
 refine fo func14 rfl ⟨rfl,rfl⟩ fun M0 w0=>(Tr.HN 0 rfl fun G4=> ?_)
 haveI:=Classical.propDecidable (CS l)
 refine a2 ?_
 refine co rfl (EC (K_ (by assumption)) rfl rfl) ?_
 refine an ?_ ?_<;>intro h1 q1
 have hN:¬CS l:=by simpa using h1
 refine ac ?_
 refine Tr.ret (Fin.AK (Fin.JM rfl (C1.Ig _ _) rfl ?_ rfl ?_))
 · rw [Nk hN];exact Ag 3
 · rw [Nk hN];exact Lr
 have hN:CS l:=by simpa using h1
 refine ac ?_
 refine Tr.seq (Tr.Cl ?_)
 refine TO.YB Q4 rfl rfl (by decide) rfl (fun b1=> ?_)
 refine ao ?_
 refine ac ?_
 refine Tr.block (Tr.Bk [(4,_),(15,_),(16,_)] ⟨ke rfl,ke rfl,ke rfl,trivial⟩ (fun (k:Nat) (X:List Iv)=>[(17,int ((k:Nat):Int))]) (fun (k:Nat) (X:List Iv)=>Hp M0 w0 O8 (Dk Q4 b1 (X.map Ny)::Fe TT X)) (fun (k:Nat) (X:List Iv)=>k≤l.length∧X.map (·.c)=(l.take k).foldl DN []) (fun (k:Nat) (X:List Iv)=>l.length-k) (0) ([])  (⟨Nat.zero_le _,rfl⟩) ⟨ke rfl,trivial⟩ (fun _ _ h=>h) ?_)
 rintro k X  ⟨GO,hX⟩
 refine ac ?_
 refine Tr.seq ?_
 refine Tr.cn rfl ?_ ?_<;>intro h2 q2
 have A5:k<l.length:=A_ h2
 obtain ⟨f,A2⟩:=at_ A5
 refine ac ?_
 refine Tr.seq (Tr.block (Tr.seq (Tr.Cl (tp rfl (AL rfl underlying31 AH (vl rfl) (vl rfl) (by omega) (by exact BN (by assumption))) ?_))))
 refine tp rfl (At rfl Ac AH (vl rfl) rfl rfl) ?_
 refine Tl rfl rfl rfl rfl E6 GZ (fun b2=> ?_)
 refine sf 0 6 ⟨rfl,rfl,rfl⟩ rfl rfl rfl rfl ?_
 refine ao ?_
 refine ao ?_
 refine Tl rfl rfl rfl rfl gm Wy (fun b3=> ?_)
 refine sf 0 7 ⟨rfl,rfl,rfl⟩ rfl rfl rfl rfl ?_
 refine ao ?_
 refine D_ 4 6 7 15 16 17 rfl ?_
 refine an ?_ ?_<;>intro h3 q3
 have hst:=FN DN [] A2
 rw [Eu (by omega)] at hst
 obtain ⟨X1,i,x,kX,hx,hlk,gN,gO,dH⟩:=TW (f:=f) hX (Q0 _)
 obtain ⟨kY,hxl⟩:=Vm (IY (l:=l) k).1 (LS _ _ (by simp)) dH
 have bJ:i<X1.length:=B9 hx
 refine Tr.YF (res:=TT) [_] rfl kX (TX f) ?_
 refine Tr.focus [_] hx rfl (Tr.rx ?_)
 refine ay ?_
 refine CA 1 rfl rfl (Np ((f.machine,f.day)) Hv rfl (vl rfl) (vl rfl) (fun _ _ _ h=>HS h)) ?_
 refine ay ?_
 refine Cx.ef 0 rfl rfl (by decide) (EH rfl rfl (by decide) rfl (YG (l:=x.c.BD) (x:=f.host) kY (by omega)) ⟨⟨_,rfl,Pr.le_of_eq (by rw [hlk])⟩,ke rfl,trivial⟩) ?_
 refine Cx.B4 1 rfl rfl (Ox ((f.machine,f.day)) Hv rfl rfl rfl (vl rfl) (vl rfl) (fun _ _ _ h=>HS h) rfl) ?_
 refine Cx.nil ⟨by kernel_rfl,?_⟩
 refine BT.V2 0 1 36 rfl rfl (by decide) rfl (fun v1=> ?_)
 refine BT.done IK ?_
 refine ac ?_
 refine Ks 4 15 16 17 rfl ?_
 refine ac ?_
 refine Fin.I_ (res:=TT) [_] (⟨FX x.c f,v1⟩:Iv) bJ rfl ?_
 exact Fin.BG (k+1) (X1.set i ⟨FX x.c f,v1⟩)  (⟨⟨by omega,by rw [hst];exact gO _⟩,by omega⟩) ⟨⟨_,rfl,Ad k⟩,ke rfl,ke rfl,ke rfl,trivial⟩ (fun _ _ h=>by rw [←gN];exact h)
 have hst:=FN DN [] A2
 rw [Vn (by omega)] at hst
 refine a2 ?_
 exact Fin.BG (k+1) (X)  (⟨⟨by omega,by rw [hst];exact hX⟩,by omega⟩) ⟨⟨_,rfl,Ad k⟩,ke rfl,ke rfl,ke rfl,trivial⟩ (fun _ _ h=>h)
 obtain rfl:k=l.length:=(by have:=BA h2;omega)
 rw [List.take_length] at hX
 have ck:(X.map Ny).length<50:=by have h8:=congrArg List.length hX;have h9:=LR l [];rw [List.length_map] at h8 ⊢;rw [List.length_nil] at h9;omega
 refine a2 ?_
 refine Tr.seq (Tr.seq (Tr.Vj (fun x:Iv=>x.v) (fun x:Iv=>strs x.c.BD) [_] rfl TY ?_))
 refine ao ?_
 refine TO.YC Hv rfl rfl (by decide) rfl (vl rfl) (show _=some (Dk Q4 _ _) from rfl:_[1]? =_) (fun b4=> ?_)
 refine ao ?_
 refine Tr.block (Tr.Rr 57 3 (Tr.Re [(39,_)] ⟨ke rfl,trivial⟩ (fun (seen:List Nat) v=>[(8,Ap v (lens ((Oz X seen).map AM).length))]) (fun (seen:List Nat) v=>Hp M0 w0 O8 ([Ak 57 3 ((Oz X seen).map AM) v,Eg b4 b1 (X.map Ny).length seen,Oy (fun x:Iv=>x.v) (fun x:Iv=>strs x.c.BD) X,Dk Q4 b1 (X.map Ny)])) (fun (seen:List Nat)=>seen.Nodup∧∀q∈seen,q<(X.map Ny).length) (fun (seen:List Nat)=>(X.map Ny).length-seen.length) ([]) (.slice none 0 0) (⟨List.nodup_nil,fun q hq=>by cases hq⟩) ⟨⟨_,rfl,Gz (by rfl)⟩,trivial⟩ (fun _ _ h=>h) ?_))
 rintro seen v ⟨hnd,hlt⟩
 refine Tr.seq (Tr.Cl ?_)
 refine TO.bL (i:=1) (j:=3) rfl rfl (by decide) rfl (vl rfl) rfl rfl (fun bO=> ?_) (fun q1 p1 hq1 hn1=> ?_)
 refine ao ?_
 refine ac ?_
 refine ao ?_
 refine TO.Dn 0 rfl rfl (by decide) (Ah rfl rfl (by decide) rfl (TP (c:=fun p=>Cb p.1 p.2) Cw.iR (Nat.lt_of_le_of_lt (Nat.le_trans (Nq ..) (Hg hnd hlt)) ck)) ⟨(Ka rfl),⟨_,rfl,BJ O1 (fun _=>O0)⟩,trivial⟩) ?_
 refine TO.Ry 0 8 rfl rfl (fun _=>rfl) (fun t1 Di=> ?_)
 have Kj:=Di.len
 have hsp:=J5 Cw Di
 have hst:t1=Ot l:=Ov (hsp.1.trans (by rw [←hX];exact Q6 hnd (by simpa using hlt) (by simpa using bO))) hsp.2
 refine ao ?_
 refine ac ?_
 refine Tr.ret (Fin.JM rfl (C1.Ig _ _) rfl ?_ rfl ?_)
 · rw [JG hN];exact Pr.le_trans (Bj _ _) (Pr.le_of_eq (by rw [hst]))
 · rw [JG hN];exact Lr
 refine ao ?_
 refine ac ?_
 refine Tr.block (Tr.seq (Tr.Cl ?_))
 refine TO.YD (i:=1) (j:=3) rfl rfl (by decide) rfl (vl rfl) rfl rfl hq1 (Vk _) ?_
 refine ao ?_
 refine Tl rfl rfl rfl rfl gm Wy (fun b5=> ?_)
 refine sf 0 9 ⟨rfl,rfl,rfl⟩ rfl rfl rfl rfl ?_
 refine ao ?_
 refine Tr.seq ?_
 obtain ⟨x,cv,rfl⟩:∃x,X[q1]? =some x∧Ny x=p1:=by rw [List.getElem?_map,Option.map_eq_some_iff] at hq1;exact hq1
 have hof:=Q5 X seen q1
 rw [cv] at hof
 have gw:=Nat.le_trans (Nq X seen) (Hg hnd hlt)
 refine Tr.gL 2 10 rfl (List.mem_of_getElem? cv) rfl (Lr) ?_
 refine ac ?_
 refine Dv 8 9 10 39 47 rfl ?_
 refine Tr.cn rfl ?_ ?_<;>intro h4 q4
 refine ao ?_
 refine TO.QK 0 rfl rfl (by decide) (GA rfl rfl (by decide) rfl underlying39 AZ dm gl rfl (by decide) (by decide) (vl rfl) (Kf rfl) (BU fun _=>rfl) (Nat.zero_lt_succ _) (by simp only [List.length_map,List.length_cons,List.length_nil];unfold maxLen;omega) (by simp only [List.length_map,List.length_cons,List.length_nil];omega)) (fun v2=> ?_)
 refine ao ?_
 rw [show ((some x).bind fun x:Iv=>if D9 x.c then some x.c else none)=_ from Ta (by omega)] at hof
 exact Fin.I4 (seen++[q1]) v2 (LI hnd hlt hn1 (by rw [List.length_map];exact Fv cv)) ⟨⟨_,rfl,GD (by rw [hof,List.map_append,List.length_append];rfl)⟩,ke rfl,trivial⟩ (fun _ _ h=>Mx (by rw [hof,List.map_append];rfl) h)
 refine Tr.skip (Fin.block ?_)
 rw [show ((some x).bind fun x:Iv=>if D9 x.c then some x.c else none)=_ from Vp (by omega)] at hof
 exact Fin.I4 (seen++[q1]) v (LI hnd hlt hn1 (by rw [List.length_map];exact Fv cv)) ⟨⟨_,rfl,GD (by rw [hof,List.map_append,List.length_append];rfl)⟩,ke rfl,trivial⟩ (fun _ _ h=>Mx (by rw [hof,List.map_append];simp) h)
end Go.Proofs.YtgilhkjlfongoaaGreat
