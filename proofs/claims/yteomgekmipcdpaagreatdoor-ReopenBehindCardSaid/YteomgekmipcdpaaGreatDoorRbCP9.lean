/-
  ReopenBehind: whatever the input, the law of this name returns true and its arguments read as before; the table of trailing zeros is tied to the program. No conditions.
-/
import Derived.Test.YteomgekmipcdpaaGreatDoorTie
import Derived.Test.YteomgekmipcdpaaGreatDoorCards
import Derived.LaidMore
import Derived.OpenShut
import Derived.Stop.Joined
import Derived.ProofKit
import Derived.Test.YteomgekmipcdpaaGreatDoorRbCP8
set_option linter.all false
set_option maxRecDepth 40000
set_option maxHeartbeats 16000000
namespace Go.Proofs.YteomgekmipcdpaaGreatDoor
open Go Go.RowKit Cp Go.Proofs.Tryz
variable {s:List Int} {l r:List B0} {i k m n:Nat}
def bU (A:List (BitVec 32)) (i:Nat):List B0:=(MV (A.getD i 0#32)).map fun k:Nat=>⟨(i:Int),(k:Int)⟩
def HZ (A:List (BitVec 32)) (k:Nat):List B0:=(List.range k).flatMap (bU A)
theorem jj (A:List (BitVec 32)):HZ A 0=[]:=by simp [HZ]
theorem Uk (A:List (BitVec 32)) (k:Nat):HZ A (k+1)=HZ A k++bU A k:=by
 unfold HZ;rw [List.range_succ,List.flatMap_append];simp
def LY (n:Nat) (l:List B0):List B0:=HZ (Eh (DL n l) n) n
theorem WX (hn:n≤32) (hi:i<n):MV ((Eh (DL n l) n).getD i 0#32)=(List.range n).filter fun k=>Cm l n i k:=by
 have hA:=(wq (n:=n) (l:=l) hn).aft
 obtain ⟨x,hx⟩:=at_ (l:=Eh (DL n l) n) (k:=i) (by rw [hA.1];exact hi)
 rw [List.getD_eq_getElem?_getD,hx]
 exact ABS (fun j=>hA.2 i x hx j) hn
theorem fu {r:B0} (hn:n≤32):r∈LY n l↔∃a b:Nat,(a<n∧b<n)∧r=⟨(a:Int),(b:Int)⟩∧Cm l n a b=true:=by
 unfold LY HZ
 rw [List.mem_flatMap]
 constructor
 ·
  rintro ⟨a,ha,hr⟩
  rw [List.mem_range] at ha
  unfold bU at hr
  rw [WX hn ha] at hr
  obtain ⟨b,hb,rfl⟩:=List.mem_map.1 hr
  rw [List.mem_filter,List.mem_range] at hb
  exact ⟨a,b,⟨ha,hb.1⟩,rfl,hb.2⟩
 ·
  rintro ⟨a,b,⟨ha,hb⟩,rfl,hw⟩
  refine ⟨a,List.mem_range.2 ha,?_⟩
  unfold bU
  rw [WX hn ha]
  exact List.mem_map.2 ⟨b,List.mem_filter.2 ⟨List.mem_range.2 hb,hw⟩,rfl⟩
theorem sD (hv:BR (n:Int) l=0) (hi:i<n):(bU (Eh (DL n l) n) i).length+1≤n:=by
 obtain ⟨h0,_,_,h3⟩:=DT hv
 unfold bU
 rw [List.length_map,WX AA hi]
 have h4:Cm l n i i=false:=h3 i AA
 have:=(List.length_filter_lt_length_iff_exists (p:=fun k=>Cm l n i k)).2 ⟨i,List.mem_range.2 hi,by rw [h4];decide⟩
 rw [List.length_range] at this
 omega
theorem S2 {n:Nat} {l:List B0} (hv:BR (n:Int) l=0):∀k,k≤n→(HZ (Eh (DL n l) n) k).length+k≤k*n
 |0,_=>by simp [HZ]
 |k+1,h=>by
  have ih:=S2 hv k AA
  have h1:=sD hv (i:=k) AA
  rw [Uk,List.length_append,Nat.succ_mul]
  omega
theorem sE (hv:BR (n:Int) l=0):(LY n l).length+n≤n*n:=S2 hv n (Nat.le_refl _)
def Mf (s:List Int) (c:List B0):List Int:=s++(c.filter fun r=>G2 s r.fst).map (·.thn)
theorem sF {c:List B0} {r:B0} (hx:c[k]? =some r) (h:G2 s r.fst=true):Mf s (c.take (k+1))=Mf s (c.take k)++[r.thn]:=by
 unfold Mf
 rw [List.take_add_one,hx,List.filter_append,List.map_append,List.append_assoc]
 congr 2
 simp [h]
theorem xh {c:List B0} {r:B0} (hx:c[k]? =some r) (h:G2 s r.fst=false):Mf s (c.take (k+1))=Mf s (c.take k):=by
 unfold Mf
 rw [List.take_add_one,hx,List.filter_append,List.map_append]
 congr 1
 simp [h]
theorem Yb (s:List Int) (c:List B0):(Mf s c).length≤s.length+c.length:=by
 unfold Mf
 rw [List.length_append,List.length_map]
 have:=List.length_filter_le (fun r:B0=>G2 s r.fst) c
 omega
def Dc (n:Nat) (l:List B0) (s:List Int):List Int:=CU (Mf s (LY n l))
theorem WY {l m:List Int} (h:∀x,x∈l↔x∈m):CU l=CU m:=PM LM (LN l) (LN m) fun x=>by rw [FT,FT];exact h x
theorem fy:∀l acc:List Int,(l.foldl (fun acc x=>LX DB acc x) acc).length≤acc.length+l.length
 |[],acc=>Nat.le_refl _
 |x::l,acc=>by
  have h1:=fy l (LX DB acc x)
  have h2:=YY DB x acc
  rw [List.foldl_cons,List.length_cons];omega
theorem jk (l:List Int):(CU l).length≤l.length:=by
 have:=fy l []
 rw [List.length_nil,Nat.zero_add] at this
 exact this
theorem sG {l:List Int} (h:xd DB l):l.Pairwise (· < ·):=h.imp fun {a b} e=>by unfold DB at e;split at e<;>(try split at e)<;>omega
theorem JZ {x:Int} (hn:n≤32):x∈Dc n l s↔x∈s∨∃a b:Nat,(a<n∧b<n)∧(a:Int)∈s∧x=(b:Int)∧Cm l n a b=true:=by
 unfold Dc Mf
 rw [FT,List.mem_append,List.mem_map]
 refine or_congr_right ⟨?_,?_⟩
 ·
  rintro ⟨r,hr,rfl⟩
  obtain ⟨h1,h2⟩:=List.mem_filter.1 hr
  obtain ⟨a,b,hab,rfl,hw⟩:=(fu hn).1 h1
  exact ⟨a,b,hab,EV.1 h2,rfl,hw⟩
 ·
  rintro ⟨a,b,hab,hs,rfl,hw⟩
  exact ⟨⟨(a:Int),(b:Int)⟩,List.mem_filter.2 ⟨(fu hn).2 ⟨a,b,hab,rfl,hw⟩,EV.2 hs⟩,rfl⟩
theorem f_ (hp:s.Pairwise (· < ·)) (hr:∀x∈s,0≤x∧x<(n:Int)):DO (n:Int) s=true:=by
 unfold DO
 rw [CA]
 intro j hj
 have h1:=hr _ (List.getElem_mem hj)
 unfold setAt
 rw [List.getElem?_eq_getElem hj]
 simp only [Option.getD_some,Bool.and_eq_true,Bool.or_eq_true,decide_eq_true_eq]
 refine ⟨h1,?_⟩
 rcases Nat.eq_zero_or_pos j with h0|h0
 · exact .inl h0
 ·
  right
  rw [List.getElem?_eq_getElem (show j-1<s.length by omega)]
  exact List.pairwise_iff_getElem.1 hp (j-1) j AA hj AA
theorem xj (hn:n≤32) (hs:DO (n:Int) s=true):DO (n:Int) (Dc n l s)=true:=by
 refine f_ (sG (LN _)) fun x hx=> ?_
 rcases (JZ hn).1 hx with h|⟨a,b,hab,_,rfl,_⟩
 · exact Qi hs x h
 · omega
theorem Yc (hn:n≤32):Dc n l (Dc n l s)=Dc n l s:=by
 refine WY fun x=> ?_
 rw [show (x∈Mf (Dc n l s) (LY n l))↔x∈Dc n l (Dc n l s) from (FT _ _).symm,JZ hn,show (x∈Mf s (LY n l))↔x∈Dc n l s from (FT _ _).symm]
 refine ⟨fun h=> ?_,.inl⟩
 rcases h with h|⟨a,b,hab,ha,rfl,hw⟩
 · exact h
 ·
  rcases (JZ hn).1 ha with h1|⟨c,d,hcd,hc,hd,hw2⟩
  · exact (JZ hn).2 (.inr ⟨a,b,hab,h1,rfl,hw⟩)
  ·
   obtain rfl:a=d:=by omega
   exact (JZ hn).2 (.inr ⟨c,b,⟨hcd.1,hab.2⟩,hc,rfl,MS n hab.1 hw2 hw⟩)
theorem xl {x:Int} (hn:n≤32) (h:x∈s):x∈Dc n l s:=(JZ hn).2 (.inl h)
def EI (b:List Int) (k:Nat):List Int:=((List.range k).filter fun i:Nat=> !G2 b (i:Int)).map fun i:Nat=>(i:Int)
theorem sH {b:List Int} (h:G2 b (k:Int)=false):EI b (k+1)=EI b k++[(k:Int)]:=by
 unfold EI;rw [List.range_succ,List.filter_append,List.map_append];congr 1;simp [h]
theorem xp {b:List Int} (h:G2 b (k:Int)=true):EI b (k+1)=EI b k:=by
 unfold EI;rw [List.range_succ,List.filter_append,List.map_append];simp [h]
theorem S3 {b:List Int} {x:Int}:x∈EI b k↔∃i:Nat,i<k∧G2 b (i:Int)=false∧x=(i:Int):=by
 unfold EI
 rw [List.mem_map]
 constructor
 ·
  rintro ⟨i,hi,rfl⟩
  rw [List.mem_filter,List.mem_range] at hi
  exact ⟨i,hi.1,by simpa using hi.2,rfl⟩
 ·
  rintro ⟨i,hi,hb,rfl⟩
  exact ⟨i,List.mem_filter.2 ⟨List.mem_range.2 hi,by rw [hb];rfl⟩,rfl⟩
theorem Yd (b:List Int) (k:Nat):(EI b k).length≤k:=by
 unfold EI;rw [List.length_map];exact Nat.le_trans (List.length_filter_le _ _) (by rw [List.length_range];exact Nat.le_refl _)
theorem sI (b:List Int) (n:Nat):DO (n:Int) (EI b n)=true:=by
 refine f_ ?_ fun x hx=> ?_
 ·
  unfold EI
  exact List.Pairwise.map _ (fun a c h=>by omega) (List.Pairwise.filter _ List.pairwise_lt_range)
 · obtain ⟨i,hi,_,rfl⟩:=S3.1 hx;omega
theorem sJ (hv:BR (n:Int) l=0):EP l (EI (Dc n l s) n)=true:=by
 obtain ⟨h0,h1,_,_⟩:=DT hv
 have hn:n≤32:=by omega
 refine Eu.2 fun r hr ht=> ?_
 obtain ⟨i,hi,hb,hti⟩:=S3.1 ht
 have ABy:=h1 r hr
 unfold FY at ABy
 rw [decide_eq_false_iff_not] at ABy
 obtain ⟨a,ha⟩:∃a:Nat,r.fst=(a:Int):=⟨r.fst.toNat,by omega⟩
 refine S3.2 ⟨a,by omega,?_,ha⟩
 cases hc:G2 (Dc n l s) (a:Int) with
 |false=>rfl
 |true=>
  have hw:Cm l n a i=true:=LD (by
   unfold Gl;rw [List.any_eq_true];exact ⟨r,hr,by simp [ha,hti]⟩) n
  have:(i:Int)∈Dc n l s:=by
   rw [←Yc hn]
   exact (JZ hn).2 (.inr ⟨a,i,⟨by omega,hi⟩,EV.1 hc,rfl,hw⟩)
  rw [EV.2 this] at hb;cases hb
structure IM where
 ep:List Int
 eg:List Int
 it:List Int
 ch:List Int
 de:List Int
def G3 (a b:IM):IM:=⟨CU (a.ep++b.ep),CU (a.eg++b.eg),CU (a.it++b.it),CU (a.ch++b.ch),CU (a.de++b.de)⟩
def IM.le (t:IM) (m:Nat):Prop:=t.ep.length≤m∧t.eg.length≤m∧t.it.length≤m∧t.ch.length≤m∧t.de.length≤m
theorem WZ {a b:IM} (ha:a.le m) (hb:b.le k):(G3 a b).le (m+k):=by
 have h:∀p q:List Int,p.length≤m→q.length≤k→(CU (p++q)).length≤m+k:=fun p q h1 h2=>by
  have:=jk (p++q);rw [List.length_append] at this;omega
 exact ⟨h _ _ ha.1 hb.1,h _ _ ha.2.1 hb.2.1,h _ _ ha.2.2.1 hb.2.2.1,h _ _ ha.2.2.2.1 hb.2.2.2.1,h _ _ ha.2.2.2.2 hb.2.2.2.2⟩
theorem jl (a c e:List Int):CU (a++CU (c++e))=CU (CU (e++a)++c):=WY fun x=>by
 simp only [List.mem_append,FT]
 constructor
 · rintro (h|h|h)<;>simp [h]
 · rintro ((h|h)|h)<;>simp [h]
theorem jm (a c e:IM):G3 a (G3 c e)=G3 (G3 e a) c:=by unfold G3;simp only [jl]
theorem jo (l:List Int):CU (CU l++CU l)=CU l:=WY fun x=>by simp only [List.mem_append,FT,or_self]
theorem jq (a b:IM):G3 (G3 a b) (G3 a b)=G3 a b:=by
 show IM.mk (CU (CU _++CU _)) (CU (CU _++CU _)) (CU (CU _++CU _)) (CU (CU _++CU _)) (CU (CU _++CU _))=G3 a b
 simp only [jo];rfl
theorem xq {A:List (BitVec 32)} {y:BitVec 32} (hy:A[i]? =some y):HZ A (i+1)=HZ A i++(MV y).map fun k:Nat=>(⟨(i:Int),(k:Int)⟩:B0):=by
 rw [Uk];unfold bU;rw [List.getD_eq_getElem?_getD,hy];rfl
theorem Ye {N:Nat} (hv:BR (N:Int) l=0):JG (α:=Value) prog 24 [int ((N:Nat):Int),reqs l] [FJ] (fun _=>True) (fun v=>DW [Ag v (lens ((HZ (Eh (DL N l) N) N).map HY).length),int 0]) (fun v=>[FJ,BX 85 2 ((HZ (Eh (DL N l) N) N).map HY) v]):=by
 refine JG.ofM func24 rfl rfl Am fun M0 w0 S rs M1 w1=> ?_
 refine ac ?_
 refine ao ?_
 refine TO.FL 0 rfl rfl AD (Ak rfl rfl AD rfl (fL (n:=((N:Nat):Int)) (l:=l)) ⟨kq,kz⟩) ?_
 refine ao ?_
 refine an ?_ ?_<;>intro h1 q1
 exact absurd hv Mu
 have Nw:=(DT hv).1
 refine Tr.re 6 rfl (Pr.le_of_eq (WG hv)) ?_
 refine ac ?_
 refine Tr.seq (Tr.BI ?_)
 refine Tl rfl rfl rfl rfl z33 AIV (fun b1=> ?_)
 refine ao ?_
 refine wk [8,6,0] rfl ?_
 refine ac ?_
 refine Tr.block (Tr.Rh 85 2 (Tr.Iw 1 [Ag (.slice none 0 0) (lens 0)] rfl ⟨NH rfl,trivial⟩ ?_))
 refine Tr.AB_ _ (kk [20,8,6] rfl) (fun Ds i vo=>⟨_,Ds.map Cp.mark⟩) (fun Ds i vo=>[(21,int ((i:Nat):Int))]) (fun Ds i vo=>Hp M0 w0 S (BX 85 2 ((HZ (Eh (DL N l) N) i).map HY) vo::AE true b1 33 [Ag vo (lens ((HZ (Eh (DL N l) N) i).map HY).length)]::FJ::(Ds.map SW++Ac M1 w1::rs))) (fun Ds i vo=>i≤(N)) (fun Ds i vo=>(N)-i) [] 0 (.slice none 0 0) rfl (Nat.zero_le _) kz ((by rw [jj];exact fun _ _ h=>h)) ?_
 rintro Ds i vo UD
 refine Tr.seq (Tr.Bq (Ch.op rfl rfl Am kiq ?_))
 refine ac ?_
 refine Tr.seq ?_
 refine Tr.cn rfl ?_ ?_<;>intro h2 q2
 have Ik:i<(N):=AJ h2
 obtain ⟨y,hy⟩:=at_ (l:=(Eh (DL N l) N)) (k:=i) (by rw [HS,DV];omega)
 have hcl:=S2 hv i AA
 have hcm:i*N≤24*24:=Nat.mul_le_mul AA AA
 refine ac ?_
 refine Tr.seq (Tr.block (Tr.seq (Tr.BI (TO.op rfl rfl Am (DD rfl vq) ?_))))
 refine TO.alloc rfl rfl Am rfl z3 zo3 (fun b2=> ?_)
 refine sf 0 9 ⟨rfl,rfl,rfl⟩ rfl rfl rfl rfl ?_
 refine ao ?_
 refine Tr.seq (Tr.pad (Tr.rx (Cx.op rfl rfl Am (fun _=>DD rfl vq) (Cx.op rfl rfl Am (fun _=>Jb rfl vq) (Cx.op rfl rfl Am (fun _=>kfa rfl dU rfl rfl) (Cx.op rfl rfl Am (fun _=>JA rfl VS rfl) (Cx.op rfl rfl Am (fun _=>JA rfl BT rfl) (Cx.op rfl rfl Am (fun _=>AB rfl underlying143 F1 vq vq AA (Sa hy)) (Cx.op rfl rfl Am (fun _=>JA rfl JD rfl) (Cx.ef 0 rfl rfl Am (FA rfl rfl Am rfl (qO) kz) ?_))))))))))
 refine Cx.nil ⟨by kernel_rfl,?_⟩
 refine BE.open_ 0 31 rfl rfl (fun v1=> ?_)
 refine BE.done al4 (Fin.shape 31 (fun b=>qN b) rfl (fun fb3 fe3=> ?_))
 subst fe3
 refine Fin.SX 0 (AE true fb3 S9 [_]) rfl rfl (Fin.go (wk [31,21,20,9,8,6] rfl (Tr.block ?_)))
 rw [show (HZ (Eh (DL N l) N) i).map HY=((HZ (Eh (DL N l) N) i)++[].map fun k:Nat=>(⟨(i:Int),(k:Int)⟩:B0)).map HY by simp]
 refine Tr.pX 10 _ (kk [9,8] rfl) (fun pre vr=>BX 85 2 (((HZ (Eh (DL N l) N) i)++pre.map fun k:Nat=>(⟨(i:Int),(k:Int)⟩:B0)).map HY) vr::AE true b1 33 [Ag vr (lens (((HZ (Eh (DL N l) N) i)++pre.map fun k:Nat=>(⟨(i:Int),(k:Int)⟩:B0)).map HY).length)]::(Ds.map SW++Ac M1 w1::rs)) vo (WC (s:=y)) WD vq ((EL (j:=3) rfl).trans (List.Perm.cons _ ((EL (j:=0) rfl).trans (List.Perm.cons _ (List.Perm.refl _))))) rfl Am ?_ ?_ ?_
 rintro lk Dk rk Mr wr pre x vr hpre
 refine Tr.Bq (Ch.op rfl rfl Am (FK rfl vq) (Ch.nil (Fin.st ⟨kq,kz⟩)))
 rintro lk Dk rk Mr wr pre x vr hpre
 have hpl:(pre++[x]).length≤32:=Nat.le_trans hpre.length_le (wg _)
 rw [List.length_append,List.length_cons,List.length_nil] at hpl
 refine Tr.block (Tr.BI (TO.rd 6 rfl rfl rfl Am (AW rfl ld (vl rfl) rfl) (TO.op rfl rfl Am (JA rfl BT rfl) (TO.op rfl rfl Am (DD rfl (vl rfl)) (TO.op rfl rfl Am (oD) (TO.op rfl rfl Am (Aa (xs:=[.tmp 36]) (rows:=[_]) rfl rfl underlying33 Dy z85 rfl AD ⟨⟨Ao,(Va rfl)⟩,trivial⟩ AD) ?_))))))
 refine TO.C1 5 rfl rfl Am (Ex rfl rfl Am rfl underlying33 Dy TG z85 rfl AD AD vq ⟨_,rfl,(show Pr.le _ (slice 2 [HY (⟨(i:Int),(x:Int)⟩:B0)]) from BF 2 [HY (⟨(i:Int),(x:Int)⟩:B0)])⟩ (Bh fun _=>rfl) (Nat.zero_lt_succ _) Uq Us) (fun v2=> ?_)
 refine TO.AV 6 rfl rfl rfl vq Ce rfl AIU rfl rfl ?_
 refine ao ?_
 rw [show ((HZ (Eh (DL N l) N) i)++pre.map fun k:Nat=>(⟨(i:Int),(k:Int)⟩:B0)).map HY++[HY (⟨(i:Int),(x:Int)⟩:B0)]=((HZ (Eh (DL N l) N) i)++(pre++[x]).map fun k:Nat=>(⟨(i:Int),(k:Int)⟩:B0)).map HY by simp]
 refine Fin.Iw 6 [Ag v2 (lens (((HZ (Eh (DL N l) N) i)++(pre++[x]).map fun k:Nat=>(⟨(i:Int),(k:Int)⟩:B0)).map HY).length)] rfl ⟨Ci Bz,trivial⟩ ?_
 exact Fin.rnd v2 (List.Perm.refl _)
 rintro lk Dk rk Mr wr vr
 refine Fin.drop 1 (Fin.drop 1 (Fin.drop 2 (Fin.KY (List.Perm.cons _ ((List.perm_middle (l₁:=[_,_])).symm)) ?_)))
 refine Fin.KY (List.perm_middle (l₁:=[_,_])).symm ?_
 refine ac ?_
 refine Tr.Bq ?_
 refine Ch.op rfl rfl Am (I7 rfl vq vq ?hin) ?_;case hin=>unfold Oj;omega
 refine Ch.op rfl rfl Am (DD rfl vq) (Ch.nil ?_)
 exact Fin.AGj (_::_) (i+1) vr rfl (⟨Ik,by omega⟩) ⟨⟨_,rfl,AG i⟩,kz⟩ ((by rw [xq hy];exact fun _ _ h=>h))
 have NU:i=(N):=by have:=AK h2;omega
 have qS:=NU.symm
 subst qS
 refine ac ?_
 refine Tr.seq (Tr.Bq (Ch.op rfl rfl Am (Bi 1 rfl (AW rfl ld vq rfl)) (Ch.op rfl rfl Am (FK rfl vq) (Ch.op rfl rfl Am (FK rfl vq) ?_))))
 refine ac ?_
 refine Tr.ret (Fin.drop 1 (Fin.KY ((List.Perm.cons _ List.perm_middle.symm).trans List.perm_middle.symm) (Fin.WB (Fin.Zi (Fin.AEf (vo) rfl (AQ.tmp rfl Lr) (AQ.tmp rfl Lr) trivial ?_ (List.Perm.refl _))))))
 · exact Lr
theorem Yf {N:Nat} (hv:BR (N:Int) l=0):Ba Tryz.prog 24 [int ((N:Nat):Int),reqs l] (DW [reqs (LY N l),int 0]) FJ (fun _=>FJ):=JG.gV (Bh fun _=>rfl) (Ye hv)
theorem sK {l:List Int} {v:Int}  :A_ prog 62 [ints l,int v] (int (idx (fun x=>v==x) l)):=by
 refine fo func62 rfl ⟨rfl,rfl⟩ fun M0 w0=>(Tr.CN 0 rfl fun C3=> ?_)
 refine a2 ?_
 refine Tr.block (Tr.A0 _ (kk [7,1,0] rfl) (fun k:Nat=>[(8,int ((k:Nat):Int))]) (fun k:Nat=>k≤(l).length∧(∀j y,j<k→l[j]? =some y→(v==y)=false)) (fun k:Nat=>(l).length-k) 0 (⟨Nat.zero_le _,fun j y hj=>absurd hj AA⟩) kz ?_)
 rintro k ⟨BN,AX⟩
 refine ac ?_
 refine Tr.seq ?_
 refine Tr.cn rfl ?_ ?_<;>intro h1 q1
 have Ae:k<(l).length:=AJ h1
 obtain ⟨x,Af⟩:=at_ Ae
 · repeat' first|exact int_eq (Ev (p:=fun x=>v==x) Af BO AX)|exact Fin.AL (k+1) ⟨⟨Ae,Dm (p:=fun x=>v==x) Af BO AX⟩,by omega⟩ ⟨⟨_,rfl,AG k⟩,kz⟩|refine co rfl (AB rfl underlying38 BJ vq vq AA Bk) ?_|refine ac ?_|(refine Tr.cn rfl ?_ ?_<;>intro h q)
 have BC:k=(l).length:=by have:=AK h1;omega
 subst BC
 refine a3 ?_
 · exact int_eq (Gj AX)
theorem Yg {l:List Int} {v:Int}  :A_ prog 27 [ints l,int v] (bool (l.any fun x=>v==x)):=by
 refine fo func27 rfl ⟨rfl,rfl⟩ fun M0 w0=> ?_
 refine a2 ?_
 refine co rfl (Bu (sK) rfl rfl rfl) ?_
 refine a2 ?_
 · exact bool_eq (QD _ l)
theorem sL {l:List Int} (hl:l.length≤1000000000):Ba prog 26 [ints l] (ints l) (Bo) (Ax 3 1):=by
 refine Ba.of func26 rfl rfl Am fun M0 w0 S rs M1 w1=> ?_
 refine a2 ?_
 refine co rfl (Wz rfl underlying38 vq) ?_
 refine ac ?_
 refine Tr.ex 4 rfl (fun z1=>Tr.fact 4 rfl fun E2=> ?_)
 refine Tr.cn rfl ?_ ?_<;>intro h1 q1
 refine ac ?_
 refine Tr.ret (Fin.AF (Fin.B5 3 1 (Fin.drop 1 ?_)))
 refine Fin.ER rfl rfl ?_ Ms
 · (have nG:l=[]:=(by simpa using E2 h1));subst nG;exact AM 1
 refine ac ?_
 refine ap ?_
 refine TO.pad ?_
 refine TO.C1 0 rfl rfl AD (B7 rfl rfl rfl rfl underlying38 BJ IE z3 Ea vq (Bc BD vq)) (fun v1=> ?_)
 refine ap ?_
 refine Tr.ret (Fin.drop 1 ?_)
 refine Fin.ER rfl rfl ?_ Pu
 · exact Pr.le_trans (At _ _) (Pr.le_of_eq AR)
theorem sM   :A_ prog 99 [is (.slice none 0 0),int 0] (is (.slice none 0 0)):=by
 refine fo func99 rfl ⟨rfl,rfl⟩ fun M0 w0=> ?_
 · repeat' first|exact absurd h AD|exact Lr|refine co rfl (GH rfl underlying22 vq) (cm rfl (co rfl (GI rfl underlying22 vq) ?_))|refine ac ?_|(refine Tr.cn rfl ?_ ?_<;>intro h q)
theorem sN   :A_ prog 65 [ints []] (ints []):=by
 refine fo func65 rfl ⟨rfl,rfl⟩ fun M0 w0=> ?_
 · repeat' first|exact Lr|(exfalso;simp at h)|refine ac ?_|(refine Tr.cn rfl ?_ ?_<;>intro h q)
theorem bV {ss:List (List Int)} (h0:∀x∈ss,x=[]):A_ prog 63 [slice 1 (ss.map fun a=>[ints a])] (ints []):=by
 refine fo func63 rfl ⟨rfl,rfl⟩ fun M0 w0=>(Tr.CN 0 rfl fun C3=> ?_)
 refine a3 ?_
 refine Tr.block (Tr.A0 _ (kk [10,9,0] rfl) (fun k:Nat=>[(11,int ((k:Nat):Int)),(3,int 0)]) (fun k:Nat=>k≤(ss).length) (fun k:Nat=>(ss).length-k) 0 (Nat.zero_le _) ⟨kq,kz⟩ ?_)
 rintro k BN
 refine ac ?_
 refine Tr.seq ?_
 refine Tr.cn rfl ?_ ?_<;>intro h1 q1
 have Ae:k<(ss).length:=AJ h1
 obtain ⟨x,Af⟩:=at_ Ae
 obtain rfl:x=[]:=h0 x (List.mem_of_getElem? Af)
 refine ac ?_
 refine Tr.seq (Tr.block (Tr.seq (Tr.Bq (co rfl (AB rfl underlying98 G0 vq vq AA Bk) ?_))))
 · repeat' first|exact absurd h AD|exact Fin.AL (k+1) ⟨Ae,by omega⟩ ⟨⟨_,rfl,AG k⟩,kz⟩|refine ac ?_|(refine Tr.cn rfl ?_ ?_<;>intro h q)
 have BC:k=(ss).length:=by have:=AK h1;omega
 refine a2 ?_
 refine co rfl (Bu (sM) rfl rfl rfl) ?_
 refine a2 ?_
 refine Tr.block (Tr.B5 3 1 (Tr.EM _ (kk [26,25] rfl) (fun m v=>[(27,int ((m:Nat):Int)),(6,Ag v (ints []))]) (fun m v=>Hp M0 w0 FG ([Ax 3 1 v])) (fun m:Nat=>m≤(ss).length) (fun m:Nat=>(ss).length-m) 0 (.slice none 0 0) (Nat.zero_le _) ⟨kq,⟨_,rfl,Bf rfl⟩,trivial⟩ (fun _ _ h=>h) ?_))
 rintro m v KM
 refine ac ?_
 refine Tr.seq ?_
 refine Tr.cn rfl ?_ ?_<;>intro h3 q3
 have Du:m<(ss).length:=AJ h3
 obtain ⟨x,Dn⟩:=at_ Du
 obtain rfl:x=[]:=h0 x (List.mem_of_getElem? Dn)
 refine ac ?_
 refine Tr.seq (Tr.block (Tr.seq (Tr.Bq (co rfl (AB rfl underlying98 G0 vq vq AA Bk) ?_))))
 refine ac ?_
 refine ap ?_
 refine TO.C1 0 rfl rfl AD (B7 rfl rfl rfl rfl underlying22 BJ IE z3 Fo vq (A7 BD Gi)) (fun v1=> ?_)
 refine ap ?_
 refine ac ?_
 exact Fin.C_ (m+1) v1 (⟨Du,by omega⟩) ⟨⟨_,rfl,AG m⟩,⟨_,rfl,A9 (by rfl)⟩,kz⟩ (fun _ _ h=>h)
 have Il:m=(ss).length:=by have:=AK h3;omega
 refine a3 ?_
 · exact GS
theorem bW {ss:List (List Int)} (h0:∀x∈ss,x=[]):A_ prog 28 [slice 1 (ss.map fun a=>[ints a])] (ints []):=by
 refine fo func28 rfl ⟨rfl,rfl⟩ fun M0 w0=> ?_
 refine a2 ?_
 refine co rfl (CE (bV h0) rfl rfl) ?_
 refine a2 ?_
 refine co rfl (CE (ji (rows:=[]) AD) rfl rfl) ?_
 refine a2 ?_
 refine co rfl (CE (sN) rfl rfl) ?_
 refine a2 ?_
 · exact Lr
theorem Ul {ss:List (List Int)} (hn:ss.flatten.length<50):A_ Tryz.prog 28 [slice 1 (ss.map fun a=>[ints a])] (ints (CU ss.flatten)):=by
 rcases Nat.eq_zero_or_pos ss.flatten.length with h|h
 ·
  have h1:ss.flatten=[]:=List.length_eq_zero_iff.1 h
  rw [h1];exact bW (List.flatten_eq_nil_iff.1 h1)
 · exact bT h hn
theorem jr {p:List Int} (hn:p.length<50):A_ Tryz.prog 28 [slice 1 ([p].map fun a=>[ints a])] (ints (CU p)):=by
 have h:=Ul (ss:=[p]) (by simpa using hn)
 rwa [show [p].flatten=p by simp] at h
theorem Iv {p q:List Int} (hn:p.length+q.length<50):A_ Tryz.prog 28 [slice 1 ([p,q].map fun a=>[ints a])] (ints (CU (p++q))):=by
 have h:=Ul (ss:=[p,q]) (by simpa using hn)
 rwa [show [p,q].flatten=p++q by simp] at h
abbrev sO (t:IM):List Pr:=[ints t.ep,ints t.eg,ints t.it,ints t.ch,ints t.de]
theorem G9 {a b:IM} (ha:a.le m) (hb:b.le k) (hmk:m+k<50):A_ prog 13 [agg (sO a),agg (sO b)] (agg (sO (G3 a b))):=by
 refine fo func13 rfl ⟨rfl,rfl⟩ fun M0 w0=> ?_
 obtain ⟨ha1,ha2,ha3,ha4,ha5⟩:=ha
 obtain ⟨S7,We,hb3,hb4,hb5⟩:=hb
 refine Tr.seq (Tr.BI (tp rfl (Bv rfl Cu) (tp rfl (Bv rfl Cu) ?_)))
 refine Tl rfl rfl rfl rfl z48 TE (fun b1=> ?_)
 refine ap ?_
 refine Tr.seq (Tr.rx ?_)
 refine ay ?_
 refine xo rfl (fun _=>Aa (xs:=[.tmp 6,.tmp 8]) (rows:=[[_],[_]]) rfl rfl underlying98 G0 z22 rfl AD ⟨⟨Ao,Ce⟩,⟨⟨Ao,Ce⟩,trivial⟩⟩ AD) ?_
 refine xo rfl (fun _=>AY rfl (Iv (p:=a.ep) (q:=b.ep) AA) ⟨Ea,trivial⟩) ?_
 refine ay ?_
 refine xo rfl (fun _=>Aa (xs:=[.tmp 12,.tmp 14]) (rows:=[[_],[_]]) rfl rfl underlying98 G0 z22 rfl AD ⟨⟨Ao,Ce⟩,⟨⟨Ao,Ce⟩,trivial⟩⟩ AD) ?_
 refine xo rfl (fun _=>AY rfl (Iv (p:=a.eg) (q:=b.eg) AA) ⟨Ea,trivial⟩) ?_
 refine ay ?_
 refine xo rfl (fun _=>Aa (xs:=[.tmp 18,.tmp 20]) (rows:=[[_],[_]]) rfl rfl underlying98 G0 z22 rfl AD ⟨⟨Ao,Ce⟩,⟨⟨Ao,Ce⟩,trivial⟩⟩ AD) ?_
 refine xo rfl (fun _=>AY rfl (Iv (p:=a.it) (q:=b.it) AA) ⟨Ea,trivial⟩) ?_
 refine ay ?_
 refine xo rfl (fun _=>Aa (xs:=[.tmp 24,.tmp 26]) (rows:=[[_],[_]]) rfl rfl underlying98 G0 z22 rfl AD ⟨⟨Ao,Ce⟩,⟨⟨Ao,Ce⟩,trivial⟩⟩ AD) ?_
 refine xo rfl (fun _=>AY rfl (Iv (p:=a.ch) (q:=b.ch) AA) ⟨Ea,trivial⟩) ?_
 refine ay ?_
 refine xo rfl (fun _=>Aa (xs:=[.tmp 30,.tmp 32]) (rows:=[[_],[_]]) rfl rfl underlying98 G0 z22 rfl AD ⟨⟨Ao,Ce⟩,⟨⟨Ao,Ce⟩,trivial⟩⟩ AD) ?_
 refine xo rfl (fun _=>AY rfl (Iv (p:=a.de) (q:=b.de) AA) ⟨Ea,trivial⟩) ?_
 refine ay ?_
 refine Cx.nil ⟨by kernel_rfl,?_⟩
 refine BE.done al1 (Fin.go (wk [4] rfl (Tr.ret (Fin.CY rfl (AQ.cell 0 rfl rfl Tu XA rfl Lr) ?_))))
 · exact Lr
theorem S4 {a:IM}  :A_ prog 14 [agg (sO a),agg (sO a)] (bool true):=by
 refine fo func14 rfl ⟨rfl,rfl⟩ fun M0 w0=> ?_
 refine ac ?_
 refine ac ?_
 refine co rfl (Bu (R9) rfl rfl rfl) (cm rfl ?_)
 refine Ch.cs 10 rfl ?_ ?_<;>intro h1 q1
 refine ac ?_
 refine cy h1 rfl (Bu (R9) rfl rfl rfl) ?_
 refine ac ?_
 refine Ch.cs 17 rfl ?_ ?_<;>intro h2 q2
 refine ac ?_
 refine cy h2 rfl (Bu (R9) rfl rfl rfl) ?_
 refine ac ?_
 refine Ch.cs 24 rfl ?_ ?_<;>intro h3 q3
 refine ac ?_
 refine cy h3 rfl (Bu (R9) rfl rfl rfl) ?_
 refine ac ?_
 refine Ch.cs 31 rfl ?_ ?_<;>intro h4 q4
 refine ac ?_
 refine cy h4 rfl (Bu (R9) rfl rfl rfl) ?_
 refine ac ?_
 refine wk [4] rfl ?_
 refine ac ?_
 · exact bool_eq AR
 exact absurd h4 AR
 exact absurd h3 AR
 exact absurd h2 AR
 exact absurd h1 AR
theorem S5 {a:List Int}  :A_ prog 66 [ints a,ints a] (bool false):=by
 refine fo func66 rfl ⟨rfl,rfl⟩ fun M0 w0=>(Tr.CN 0 rfl fun C3=>(Tr.CN 1 rfl fun Fq=> ?_))
 refine ac ?_
 refine ac ?_
 refine Tr.block (Tr.A0 _ (kk [7,1,0] rfl) (fun k:Nat=>[(8,int ((k:Nat):Int))]) (fun k:Nat=>k≤(a).length) (fun k:Nat=>(a).length-k) 0 (Nat.zero_le _) kz ?_)
 rintro k BN
 refine ac ?_
 refine Tr.seq ?_
 refine Tr.cn rfl ?_ ?_<;>intro h1 q1
 have Ae:k<(a).length:=AJ h1
 obtain ⟨x,Af⟩:=at_ Ae
 refine ac ?_
 refine ac ?_
 refine ac ?_
 refine co rfl (AB rfl underlying38 BJ (vl rfl) (vl rfl) AA (Ad Af)) ?_
 refine ac ?_
 refine co rfl (AB rfl underlying38 BJ (vl rfl) (vl rfl) AA (Ad Af)) ?_
 refine ac ?_
 refine wk [19,8,7,5,1,0] rfl ?_
 refine Tr.cn rfl ?_ ?_<;>intro h2 q2
 exfalso;simp at h2
 refine ac ?_
 refine ac ?_
 exact Fin.AL (k+1) ⟨Ae,by omega⟩ ⟨⟨_,rfl,AG k⟩,kz⟩
 have BC:k=(a).length:=by have:=AK h1;omega
 refine ac ?_
 refine ac ?_
 refine ac ?_
 · exact Lr
theorem bX {a:List Int}  :A_ prog 29 [ints a,ints a] (bool true):=by
 refine fo func29 rfl ⟨rfl,rfl⟩ fun M0 w0=>(Tr.CN 0 rfl fun C3=>(Tr.CN 1 rfl fun Fq=> ?_))
 refine ac ?_
 refine ac ?_
 refine Ch.cs 10 rfl ?_ ?_<;>intro h1 q1
 refine ac ?_
 refine cy h1 rfl (Bu (S5) rfl rfl rfl) (cy h1 rfl (L3 rfl (vl rfl)) (co rfl (Wh rfl rfl h1 rfl) (cm rfl ?_)))
 refine Ch.cs 16 rfl ?_ ?_<;>intro h2 q2
 refine OB h2 rfl (OB h2 rfl (cy h2 rfl (Bu (S5) rfl rfl rfl) ?_))
 refine ac ?_
 refine wk [4] rfl ?_
 refine ac ?_
 · exact bool_eq AR
 exact absurd h2 AR
 exact absurd h1 AR
theorem Ta {a:List Int}  :A_ prog 10 [ints a,ints a] (bool true):=by
 refine fo func10 rfl ⟨rfl,rfl⟩ fun M0 w0=> ?_
 refine a2 ?_
 refine co rfl (Bu (bX) rfl rfl rfl) ?_
 refine a2 ?_
 · exact Lr
theorem Wa {n:Int} (hl:l.length≤1000000) (hv:BR n l=0) (hs:DO n s=true):A_ prog 12 [int n,reqs l,ints s] (DW [bool (EP l s),int 0]):=by
 refine fo func12 rfl ⟨rfl,rfl⟩ fun M0 w0=> ?_
 refine a2 ?_
 refine co rfl (Bu (HV hl) rfl rfl rfl) ?_
 refine ac ?_
 refine an ?_ ?_<;>intro h1 q1
 exact absurd hv Mu
 refine a2 ?_
 refine co rfl (Bu (MJ (l:=s) (n:=n)) rfl rfl rfl) ?_
 refine an ?_ ?_<;>intro h2 q2
 exact absurd h2 (by rw [hs];decide)
 refine a2 ?_
 refine co rfl (Bu (O_) rfl rfl rfl) ?_
 refine ac ?_
 refine wk [7,6] rfl (Tr.ret (Fin.Co rfl (Bt.Dx _ _) rfl ?_ rfl ?_))
 · exact Lr
 · exact Lr
theorem Yh {l:List Bl} {d:List Int} (hl:l.length≤7) (hv:BR (l.length:Nat) r=0) (hs:DO (l.length:Nat) s=true):Ba prog 9 [agg [FV l,reqs r,ints d],ints s] (DW [ints (Dc l.length r s),int 0]) (FJ) (fun _=>FJ):=by
 refine Ba.of func9 rfl rfl Am fun M0 w0 S rs M1 w1=> ?_
 have KV:=NV hs
 have hcl:=sE hv
 have hcm:l.length*l.length≤7*7:=Nat.mul_le_mul hl hl
 have AKi:X7 ((l.length:Nat):Int) r s=0:=(zI hv hs).1
 refine a2 ?_
 refine ao ?_
 refine TO.FL 0 rfl rfl AD (Ak rfl rfl AD rfl (Yf hv) ⟨kq,kz⟩) ?_
 refine ao ?_
 refine wk [8,7,6,2,1] rfl ?_
 refine an ?_ ?_<;>intro h1 q1
 exfalso;simp at h1
 refine ac ?_
 refine ao ?_
 refine TO.FL 0 rfl rfl AD (Ak rfl rfl AD rfl (af (n:=((l.length:Nat):Int)) (l:=r) (s:=s)) ⟨kq,kz⟩) ?_
 refine ao ?_
 refine wk [10,7,1] rfl ?_
 refine an ?_ ?_<;>intro h2 q2
 exfalso;simp [AKi] at h2
 refine ac ?_
 refine ao ?_
 refine TO.pad ?_
 refine TO.C1 0 rfl rfl AD (FA rfl rfl AD rfl (sL AA) ⟨ke rfl,trivial⟩) (fun v1=> ?_)
 refine ao ?_
 refine ac ?_
 refine Tr.block (Tr.EM _ (kk [39,38,1] rfl) (fun k v=>[(40,int ((k:Nat):Int)),(11,Ag v (ints (Mf s ((LY l.length r).take k))))]) (fun k v=>Hp M0 w0 S (Ax 3 1 v::FJ::Ac M1 w1::rs)) (fun k:Nat=>k≤((LY l.length r)).length) (fun k:Nat=>((LY l.length r)).length-k) 0 v1 (Nat.zero_le _) ⟨kq,⟨_,rfl,A9 (by simp [Mf])⟩,trivial⟩ (fun _ _ h=>h) ?_)
 rintro k v BN
 refine ac ?_
 refine Tr.seq ?_
 refine Tr.cn rfl ?_ ?_<;>intro h3 q3
 have Ae:k<((LY l.length r)).length:=AJ h3
 obtain ⟨q,Af⟩:=at_ Ae
 have VU:=Yb s ((LY l.length r).take k)
 have htl:=List.length_take_le k (LY l.length r)
 refine ac ?_
 refine Tr.seq (Tr.block (Tr.seq (Tr.BI (tp rfl (AB rfl underlying33 Dy vq vq AA (Ad Af)) (tp rfl (Al rfl Jd Dy vq rfl rfl) ?_)))))
 refine Tl rfl rfl rfl rfl z85 RQ (fun b1=> ?_)
 refine sf 0 13 ⟨rfl,rfl,rfl⟩ rfl rfl rfl rfl ?_
 refine ao ?_
 refine ac ?_
 refine co rfl (Bu (Yg) rfl rfl rfl) ?_
 refine ac ?_
 refine wk [47,40,39,38,13,11,1] rfl ?_
 refine Tr.cn rfl ?_ ?_<;>intro h4 q4
 have hst:=sF Af h4
 refine ao ?_
 refine TO.C1 0 rfl rfl AD (B7 rfl rfl rfl rfl underlying38 BJ IE z3 Fo Ea (A7 BD Gi)) (fun v2=> ?_)
 refine ao ?_
 refine ac ?_
 exact Fin.C_ (k+1) v2 (⟨Ae,by omega⟩) ⟨⟨_,rfl,AG k⟩,⟨_,rfl,A9 (by rw [hst,List.map_append];rfl)⟩,kz⟩ (fun _ _ h=>h)
 have hst:=xh Af h4
 refine a2 ?_
 exact Fin.C_ (k+1) v (⟨Ae,by omega⟩) ⟨⟨_,rfl,AG k⟩,⟨_,rfl,A9 (by rw [hst])⟩,kz⟩ (fun _ _ h=>h)
 have BC:k=((LY l.length r)).length:=by have:=AK h3;omega
 subst BC
 rw [List.take_length]
 refine a2 ?_
 refine co rfl (Aa (xs:=[.tmp 54]) (rows:=[[_]]) rfl rfl underlying98 G0 z22 rfl AD ⟨⟨Ao,⟨_,rfl,Pr.le_trans (At _ _) (AO _)⟩⟩,trivial⟩ AD) ?_
 refine co rfl (AY rfl (jr (p:=(Mf s (LY l.length r))) (by have:=Yb s (LY l.length r);omega)) ⟨Ea,trivial⟩) ?_
 refine ac ?_
 refine Tr.ret (Fin.J7 [_] rfl (AQ.tmp rfl Lr) (AQ.tmp rfl Lr) ?_)
 · exact Lr
end Go.Proofs.YteomgekmipcdpaaGreatDoor
namespace Go.Proofs.YteomgekmipcdpaaGreatDoor
open Go Go.RowKit Cp Go.ChangeShapes Go.WideShapes Go.ChangeAt Go.Proofs.Tryz
variable {rows:List (List Pr)} {i k:Nat}
abbrev atF (host:List UInt8) (day:Int):Gv:=⟨3,host,1,day,90,4,[116,108,115],0,0,1,[]⟩
abbrev aT:Gv:=atF EF 3
theorem Nl:N4 aT=true:=by decide+kernel
theorem Qk:aT.fits:=⟨by simp [maxLen],by simp [maxLen],by simp [maxLen]⟩
def He (l:List Gv):Prop:=l=[]∨l=[aT]
theorem He.len {l:List Gv} (h:He l):l.length≤1:=by rcases h with rfl|rfl<;>simp
theorem He.at_ {l:List Gv} {x:Gv} (h:He l) (hx:l[k]? =some x):x=aT∧k=0∧l=[aT]:=by
 rcases h with rfl|rfl
 · simp at hx
 ·
  rcases k with _|k
  · simp at hx;exact ⟨hx.symm,rfl,rfl⟩
  · simp at hx
theorem He.check {l:List Gv} {x:Gv} (h:He l) (hx:l[k]? =some x):(if N4 x then (0:Int) else 24)=0:=by rw [(h.at_ hx).1];exact if_pos Nl
theorem He.fits {l:List Gv} {x:Gv} (h:He l) (hx:l[k]? =some x):x.fits:=by rw [(h.at_ hx).1];exact Qk
theorem Ql:He []:= .inl rfl
theorem gA:He [aT]:= .inr rfl
theorem xu {b:Int} (hb:b≤1):A_ prog 172 [slice 11 rows,int 0,int b,any] (Ey):=by
 refine fo func172 rfl ⟨rfl,rfl⟩ fun M0 w0=> ?_
 refine ac ?_
 refine Tr.block (Tr.A0 _ (kk [3,2,1,0] rfl) (fun i:Int=>[(8,int i)]) (fun i:Int=>i=1) (fun i:Int=>0) 1 (rfl) kz ?_)
 rintro i hi
 refine an ?_ ?_<;>intro h1 q1
 have:=h1
 exfalso;omega
 have:=h1
 refine Tr.exit (Fin.Ai (Fin.Ai (Fin.BB (Fin.u_ rfl))))
theorem xw {b:Int} (h0:0≤b) (hb:b≤1):A_ prog 104 [slice 11 rows,int 0,int b,any,any] (Ey):=by
 refine fo func104 rfl ⟨rfl,rfl⟩ fun M0 w0=> ?_
 refine a2 ?_
 refine Tr.block (Tr.A0 _ (kk [4,0] rfl) (fun (u:Unit)=>[(1,int 0),(2,int b)]) (fun (u:Unit)=>True) (fun (u:Unit)=>0) () (trivial) ⟨kq,kz⟩ ?_)
 rintro u _
 refine ac ?_
 refine an ?_ ?_<;>intro h1 q1
 refine ac ?_
 refine co rfl (eA (xu AA) rfl rfl rfl rfl rfl) ?_
 refine ac ?_
 refine Tr.weak [] trivial (Tr.ret (Fin.AF (Fin.AP (Fin.AF (Fin.AP (Fin.yj rfl))))))
 exfalso;omega
theorem sP (hs:rows.length≤1):A_ prog 70 [slice 11 rows,any] (Ey):=by
 refine fo func70 rfl ⟨rfl,rfl⟩ fun M0 w0=> ?_
 have hw:IntKind.u64.wrap ((rows.length:Nat):Int)=rows.length:=IntWalk.u64_in _ ⟨by omega,by omega⟩
 refine ac ?_
 refine co rfl (CB rfl underlying91 vq) ?_
 refine a2 ?_
 refine co rfl (Cr rfl underlying3 underlying201 vq) (co rfl (CE (Nj AA AA) rfl rfl) (cm rfl (co rfl (AY rfl (xw (rows:=rows) (b:=(rows.length:Int)) AA AA) ⟨kq,kq,kq,⟨_,rfl,Q5 _⟩,⟨_,rfl,Q5 _⟩,trivial⟩) (Ch.nil (Fin.u_ rfl)))))
theorem sQ {l:List Gv} (hl:l.length≤1):A_ prog 69 [GO l] (GO l):=by
 refine fo func69 rfl ⟨rfl,rfl⟩ fun M0 w0=> ?_
 refine a2 ?_
 refine co rfl (Wz rfl underlying91 vq) ?_
 refine ac ?_
 refine Tr.ex 4 rfl (fun z1=>Tr.fact 4 rfl fun E2=> ?_)
 refine Tr.cn rfl ?_ ?_<;>intro h1 q1
 refine a2 ?_
 · (have nG:l=[]:=(by simpa using E2 h1));subst nG;exact AM 11
 refine ac ?_
 refine ap ?_
 refine TO.pad ?_
 refine TO.C1 0 rfl rfl AD (B7 rfl rfl rfl rfl underlying91 HI zy z57 Ea vq (Bc BD vq)) (fun v1=> ?_)
 refine ap ?_
 refine ac ?_
 · exact Pr.le_trans (At _ _) (Pr.le_of_eq AR)
theorem xx {l:List Gv} (hl:l.length≤1):A_ prog 72 [GO l] (GO l):=by
 refine fo func72 rfl ⟨rfl,rfl⟩ fun M0 w0=>(Tr.CN 0 rfl fun C3=> ?_)
 · repeat' first|exact Lr|(exfalso;omega)|refine ac ?_|(refine Tr.cn rfl ?_ ?_<;>intro h q)
theorem Wb {l:List Gv} (hl:He l):A_ prog 34 [GO l] (DW [GO l,int 0]):=by
 refine fo func34 rfl ⟨rfl,rfl⟩ fun M0 w0=>(Tr.CN 0 rfl fun C3=> ?_)
 have II:=hl.len
 refine a2 ?_
 refine Tr.block (Tr.A0 _ (kk [9,8,0] rfl) (fun k:Nat=>[(10,int ((k:Nat):Int))]) (fun k:Nat=>k≤(l).length) (fun k:Nat=>(l).length-k) 0 (Nat.zero_le _) kz ?_)
 rintro k BN
 refine ac ?_
 refine Tr.seq ?_
 refine Tr.cn rfl ?_ ?_<;>intro h1 q1
 have Ae:k<(l).length:=AJ h1
 obtain ⟨x,Af⟩:=at_ Ae
 refine ac ?_
 refine Tr.seq (Tr.block (Tr.seq (Tr.BI (tp rfl (AB rfl underlying91 HI vq vq AA Bk) ?_))))
 refine tp rfl (Al rfl J9 HI vq rfl rfl) ?_
 refine Tl rfl rfl rfl rfl z57 ZX (fun b1=> ?_)
 refine sf 0 5 ⟨rfl,rfl,rfl⟩ rfl rfl rfl rfl ?_
 refine ao ?_
 · repeat' first|exact absurd (hl.check Af) q|exact Fin.AL (k+1) ⟨Ae,by omega⟩ ⟨⟨_,rfl,AG k⟩,kz⟩|refine co rfl (CE (Kk (hl.fits Af)) rfl rfl) ?_|refine ac ?_|(refine Tr.cn rfl ?_ ?_<;>intro h q)
 have BC:k=(l).length:=by have:=AK h1;omega
 subst BC
 refine a2 ?_
 refine co rfl (CE (sQ II) rfl rfl) ?_
 refine a2 ?_
 refine co rfl (AY rfl (sP (rows:=l.map LW) (by rw [List.length_map];exact II)) ⟨kq,⟨_,rfl,Q5 _⟩,trivial⟩) ?_
 refine a2 ?_
 refine co rfl (CE (xx II) rfl rfl) ?_
 refine a2 ?_
 refine wk [28,7] rfl ?_
 refine Tr.cn rfl ?_ ?_<;>intro h3 q3
 exfalso;omega
 refine a2 ?_
 refine Tr.ret (Fin.Co rfl (Bt.Dx _ _) rfl ?_ rfl ?_)
 · exact Lr
 · exact Lr
theorem jt {l:List Gv} (hl:He l):A_ prog 186 [GO l] (bool true):=by
 refine fo func186 rfl ⟨rfl,rfl⟩ fun M0 w0=>(Tr.CN 0 rfl fun C3=> ?_)
 have II:=hl.len
 refine a2 ?_
 refine Tr.block (Tr.A0 _ (kk [6,5,0] rfl) (fun k:Nat=>[(7,int ((k:Nat):Int))]) (fun k:Nat=>k≤(l).length) (fun k:Nat=>(l).length-k) 0 (Nat.zero_le _) kz ?_)
 rintro k BN
 refine ac ?_
 refine Tr.seq ?_
 refine Tr.cn rfl ?_ ?_<;>intro h1 q1
 have Ae:k<(l).length:=AJ h1
 obtain ⟨x,Af⟩:=at_ Ae
 refine ac ?_
 refine ao ?_
 refine tp rfl (AB rfl underlying91 HI vq vq AA Bk) ?_
 refine tp rfl (Al rfl J9 HI vq rfl rfl) ?_
 refine Tl rfl rfl rfl rfl z57 ZX (fun b1=> ?_)
 refine tm rfl ?_
 refine sf 0 4 ⟨rfl,rfl,rfl⟩ rfl rfl rfl rfl ?_
 refine ao ?_
 · repeat' first|exact absurd (hl.check Af) q|(exfalso;have:=(hl.at_ Af).2.1;have:=q;omega)|exact Fin.AL (k+1) ⟨Ae,by omega⟩ ⟨⟨_,rfl,AG k⟩,kz⟩|refine co rfl (CE (Kk (hl.fits Af)) rfl rfl) ?_|refine ac ?_|(refine Ch.cg rfl rfl rfl ?_ ?_<;>intro h q)
 have BC:k=(l).length:=by have:=AK h1;omega
 subst BC
 refine a3 ?_
 · exact bool_eq Bz
theorem Yi {l:List Gv} {Nn:Int} (hl:He l) (hg:Nn≤4000):A_ prog 126 [GO l,int Nn] (int (if Nn<0 then 2 else 0)):=by
 refine fo func126 rfl ⟨rfl,rfl⟩ fun M0 w0=> ?_
 · repeat' first|exact int_eq (if_pos AA).symm|exact int_eq (if_neg AA).symm|refine co rfl (CE (jt hl) rfl rfl) ?_|refine ac ?_|(refine Tr.cn rfl ?_ ?_<;>intro h q)|(refine Ch.cg rfl rfl rfl ?_ ?_<;>intro h q)
theorem sS   :Ba prog 132 [is (.slice none 0 0),int ((1:Nat):Int)] (slice 11 []) (Bo) (fun v=>Ax 57 11 v):=by
 refine Ba.of func132 rfl rfl Am fun M0 w0 S rs M1 w1=> ?_
 refine ac ?_
 refine an ?_ ?_<;>intro h1 q1
 exfalso;omega
 refine a2 ?_
 refine co rfl (GH rfl underlying91 vq) (cm rfl (co rfl (GI rfl underlying91 vq) ?_))
 refine ac ?_
 refine an ?_ ?_<;>intro h2 q2
 refine ap ?_
 refine tp rfl (GH rfl underlying91 vq) (tp rfl (KC rfl underlying91 HI vq vq) (tm rfl (TO.pad ?_)))
 refine TO.C1 0 rfl rfl AD (L9 rfl rfl AD rfl underlying91 underlying3 HI zy z57 rfl AD AD vq vq (m:=1) AA AA Fa AA) (fun v1=> ?_)
 refine TO.mY 0 22 rfl rfl (fun b1 YZ sp1 hg1 hm1 hs1=> ?_)
 refine tm rfl (tp rfl (GI rfl underlying91 vq) (tp rfl (FP rfl underlying91 HI vq vq AA AA AA AA) ?_))
 refine ap ?_
 refine wk [0] rfl ?_
 refine ac ?_
 refine Tr.ret ?_
 refine Fin.Vc (sz:=11) ([]:List (List Pr)) 0 4 rfl rfl Lr AR (Nat.zero_le _) hm1 (by rw [List.length_map,hs1];rfl) ?_
 refine Fin.drop 1 ?_
 refine Fin.ER rfl rfl ?_ Pu
 · exact GS
 exfalso;omega
abbrev Yu:List (List Gv):=[[],[aT]]
theorem Yj {x:List Gv} (hx:Yu[k]? =some x):(Yu.take (k+1)).flatten=(Yu.take k).flatten++x∧((Yu.take k).flatten++x).length≤1:=by
 have h:=Iu hx
 have h2:=Fu Yu (k+1)
 rw [h] at h2
 exact ⟨h,h2⟩
theorem bY   :A_ prog 78 [slice 1 (Yu.map fun a=>[GO a])] (GO [aT]):=by
 refine fo func78 rfl ⟨rfl,rfl⟩ fun M0 w0=>(Tr.CN 0 rfl fun C3=> ?_)
 refine a3 ?_
 refine Tr.block (Tr.A0 _ (kk [10,9,0] rfl) (fun k:Nat=>[(11,int ((k:Nat):Int)),(3,int (((Yu.take k).flatten.length:Nat):Int))]) (fun k:Nat=>k≤(Yu).length) (fun k:Nat=>(Yu).length-k) 0 (Nat.zero_le _) ⟨kq,⟨_,rfl,int_eq AR⟩,trivial⟩ ?_)
 rintro k BN
 refine ac ?_
 refine Tr.seq ?_
 refine Tr.cn rfl ?_ ?_<;>intro h1 q1
 have Ae:k<(Yu).length:=AJ h1
 obtain ⟨x,Af⟩:=at_ Ae
 have hft:=Yj Af
 have hf2:=hft.2
 rw [List.length_append] at hf2
 refine ac ?_
 refine Tr.seq (Tr.block (Tr.seq (Tr.Bq (co rfl (AB rfl underlying223 AAN vq vq AA Bk) ?_))))
 · repeat' first|(exfalso;omega)|(exact Fin.AL (k+1) ⟨Ae,by omega⟩ ⟨⟨_,rfl,AG k⟩,⟨_,rfl,int_eq (by rw [hft.1,List.length_append];omega)⟩,kz⟩)|refine ac ?_|(refine Tr.cn rfl ?_ ?_<;>intro h q)
 have BC:k=(Yu).length:=by have:=AK h1;omega
 subst BC
 rw [List.take_length]
 refine ac ?_
 refine ap ?_
 refine TO.pad ?_
 refine TO.C1 0 rfl rfl AD (FA rfl rfl AD rfl (sS) ⟨kq,⟨_,rfl,int_eq AD⟩,trivial⟩) (fun v1=> ?_)
 refine ap ?_
 refine ac ?_
 refine Tr.block (Tr.EM _ (kk [26,25] rfl) (fun m v=>[(27,int ((m:Nat):Int)),(6,Ag v (GO ((Yu.take m).flatten)))]) (fun m v=>Hp M0 w0 FG ([Ax 57 11 v])) (fun m:Nat=>m≤(Yu).length) (fun m:Nat=>(Yu).length-m) 0 v1 (Nat.zero_le _) ⟨kq,⟨_,rfl,A9 AR⟩,trivial⟩ (fun _ _ h=>h) ?_)
 rintro m v KM
 refine ac ?_
 refine Tr.seq ?_
 refine Tr.cn rfl ?_ ?_<;>intro h3 q3
 have Du:m<(Yu).length:=AJ h3
 obtain ⟨x,Dn⟩:=at_ Du
 have hft:=Yj Dn
 have hf2:=hft.2
 rw [List.length_append] at hf2
 refine ac ?_
 refine Tr.seq (Tr.block (Tr.seq (Tr.Bq (co rfl (AB rfl underlying223 AAN vq vq AA Bk) ?_))))
 refine ac ?_
 refine ap ?_
 refine TO.C1 0 rfl rfl AD (B7 rfl rfl rfl rfl underlying91 HI zy z57 Fo vq (A7 BD Gi)) (fun v2=> ?_)
 refine ap ?_
 refine ac ?_
 exact Fin.C_ (m+1) v2 (⟨Du,by omega⟩) ⟨⟨_,rfl,AG m⟩,⟨_,rfl,A9 (by rw [hft.1,List.map_append])⟩,kz⟩ (fun _ _ h=>h)
 have Il:m=(Yu).length:=by have:=AK h3;omega
 subst Il
 rw [List.take_length]
 refine a3 ?_
 · exact GS
theorem sU   :A_ prog 38 [GO [],GO [aT]] (DW [GO [aT],int 0]):=by
 refine fo func38 rfl ⟨rfl,rfl⟩ fun M0 w0=> ?_
 refine a2 ?_
 refine co rfl (AY rfl (bY) ⟨Ea,trivial⟩) ?_
 refine co rfl (CE (Wb (l:=[aT]) gA) rfl rfl) ?_
 refine ac ?_
 refine Tr.ret (Fin.Co rfl (Bt.Dx _ _) rfl ?_ rfl ?_)
 · exact Lr
 · exact Lr
theorem Yk   :A_ prog 35 [GO [],GO []] (bool true):=by
 refine fo func35 rfl ⟨rfl,rfl⟩ fun M0 w0=>(Tr.CN 0 rfl fun C3=> ?_)
 refine ac ?_
 refine ac ?_
 refine Tr.cn rfl ?_ ?_<;>intro h1 q1
 exfalso;simp at h1
 refine ac ?_
 refine ac ?_
 refine Tr.block (Tr.A0 _ (kk [12,1,0] rfl) (fun k:Nat=>[(13,int ((k:Nat):Int))]) (fun k:Nat=>k≤(([]:List Gv)).length) (fun k:Nat=>(([]:List Gv)).length-k) 0 (Nat.zero_le _) kz ?_)
 rintro k BN
 refine ac ?_
 refine Tr.seq ?_
 refine Tr.cn rfl ?_ ?_<;>intro h2 q2
 have Ae:k<(([]:List Gv)).length:=AJ h2
 obtain ⟨x,Af⟩:=at_ Ae
 refine ac ?_
 refine ac ?_
 refine ac ?_
 refine co rfl (AB rfl underlying91 HI (vl rfl) (vl rfl) AA Bk) ?_
 refine ac ?_
 refine co rfl (AB rfl underlying91 HI (vl rfl) (vl rfl) AA Bk) ?_
 refine co rfl (Al rfl J9 HI (vl rfl) rfl rfl) (co rfl (vM rfl (vl rfl) (vl rfl)) ?_)
 refine ac ?_
 refine wk [24,13,12,1,0] rfl ?_
 refine Tr.cn rfl ?_ ?_<;>intro h3 q3
 exfalso;simp at h3
 refine ac ?_
 refine ac ?_
 exact Fin.AL (k+1) ⟨Ae,by omega⟩ ⟨⟨_,rfl,AG k⟩,kz⟩
 have BC:k=(([]:List Gv)).length:=by have:=AK h2;omega
 refine ac ?_
 refine ac ?_
 refine ac ?_
 · exact Lr
abbrev ju (n:Int):Value:= .int .i64 n
theorem Np:ZY Tryz.prog 219 3 3 ju where
 und:=Tryz.underlying219
 zero:=fun w=>by kernel_rfl
 eq:=fun a b w=>by
  rw [show Op.equal 3 _ _=Op.equalIn (9998+2) 3 _ _ from rfl]
  exact Dl Tryz.underlying3
 chk:=fun e a w=>by
  show (Instr.checkKey e (9999+1) 3 _).run _ w=_
  exact vB Tryz.underlying3 w
 AAc:=⟨_,Tryz.underlying3,.inr fun a b=>by simp only [ju,Instr.sameNow,if_true];congr 1⟩
 bits:=fun a=>by
  show Instr.sameBits (9999+1) (.int _ _) (.int _ _)=true
  simp [Instr.sameBits]
def Fv (k:Nat):List Int:=(List.range k).map (fun n=>((n:Nat):Int))++List.replicate (400-k) 0
theorem jv (hk:k<400):(Fv k).set k ((k:Nat):Int)=Fv (k+1):=by
 unfold Fv
 rw [List.set_append_right _ _ AR]
 simp only [List.length_map,List.length_range,Nat.sub_self]
 rw [show 400-k=(400-(k+1))+1 by omega,List.replicate_succ,List.set_cons_zero,List.range_succ,List.map_append,List.append_assoc];rfl
theorem Um (hk:k≤400):(Fv k).length=400:=by unfold Fv;simp;omega
abbrev arr (p:List Int):List Pr:=p.map fun n=>int n
theorem ACA {p:List Int} {x:Int} (h:p[i]? =some x):(arr p)[i]? =some (int x):=by rw [List.getElem?_map,h];rfl
theorem xy {p:List Int} {i:Int} {x:Int} (h:p[i.toNat]? =some x):(arr p)[0+i.toNat*1]? =some (int x):=by rw [Nat.zero_add,Nat.mul_one];exact ACA h
theorem xz {p:List Int} {x:Int} (h:i<p.length):(arr p).take i++[int x]++(arr p).drop (i+1)=arr (p.set i x):=by
 unfold arr
 rw [List.map_set,List.set_eq_take_append_cons_drop,if_pos D5];simp
def yA (v:Value):Ay:=match v with| .pointer (some a)=>AE true a.block 288 (arr (Fv 400))|_=>Bo
theorem Yl (hk:k<400):(arr (Fv k)).take (0+((k:Nat):Int).toNat*1)++[int ((k:Nat):Int)]++(arr (Fv k)).drop (0+((k:Nat):Int).toNat*1+1)=arr (Fv (k+1)):=by
 rw [Int.toNat_natCast,Nat.zero_add,Nat.mul_one,xz (by rw [Um AA];exact hk),jv hk]
theorem bZ {ks:List Value} (h:ks=List.replicate 400 (.int .i64 0)):ks.map is=arr (Fv 0):=by
 subst h;unfold Fv arr;rw [List.map_append,List.map_replicate,List.map_replicate];rfl
theorem Ym:(Fv 400)[0]? =some 0:=by unfold Fv;rw [List.getElem?_append_left AR,List.getElem?_map,List.getElem?_range AA];rfl
def Wc (n:Int):Nat→List (Int×Int)|0=>[]|_+1=>[(n,0)]
theorem sV {n:Int} (h:k=0):Cp.look (Wc n k) n=none∧Wc n (k+1)=OH (Wc n k) n ((k:Nat):Int):=by subst h;exact ⟨rfl,rfl⟩
theorem yB {b0:Nat}  :Ba prog 128 [is (.pointer (some ⟨b0,0,none⟩)),int 0] (int 0) (AE true b0 288 (arr (Fv 400))) (fun _=>AE true b0 288 (arr (Fv 400))):=by
 refine Ba.of func128 rfl rfl Am fun M0 w0 S rs M1 w1=> ?_
 refine ac ?_
 refine Tr.seq (Tr.block (Tr.E5 _ (kk [0] rfl) (fun (x:Nat)=>[(1,int 0)]) (fun (x:Nat)=>Hp M0 w0 S (AE true b0 288 (arr (Fv 400))::Ac M1 w1::rs)) (fun (x:Nat)=>x=0) (fun (x:Nat)=>x) (0)  (rfl) kz (fun _ _ h=>h) ?_))
 rintro x  hx
 refine ac ?_
 refine co rfl (M7 rfl underlying288 BJ vq vq AA AA) ?_
 refine co rfl (Bi 0 rfl (AW rfl BT vq (xy (i:=0) Ym))) ?_
 refine an ?_ ?_<;>intro h1 q1
 exact absurd h1 AR
 have:=h1
 refine a2 ?_
 refine Tr.ret (Fin.ER rfl rfl ?_ (fun _ _ _ _=>rfl))
 · exact Lr
theorem jw {l:List Gv} {Nn:Int} (hl:He l):Ba prog 127 [GO l,int Nn] (ex fun b=>ptr b 0) (Bo) (yA):=by
 refine Ba.of func127 rfl rfl Am fun M0 w0 S rs M1 w1=> ?_
 refine Tr.CN 0 rfl fun C3=> ?_
 have II:=hl.len
 refine ac ?_
 refine ao ?_
 refine TO.gL rfl rfl AD rfl Cu (fun b1=> ?_)
 refine ao ?_
 refine ac ?_
 refine Tr.block ?_
 refine Tr.Jc _ (kk [5,1,0] rfl) (fun k:Nat=>[(16,int ((k:Nat):Int))]) (fun k:Nat=>Hp M0 w0 S ((AE true b1 288 (arr (Fv k))::Bo::Ac M1 w1::rs))) (fun k:Nat=>k≤(400)) (fun k:Nat=>(400)-k) 0 (Nat.zero_le _) kz ((by rw [←bZ rfl];exact fun _ _ h=>h)) ?_
 rintro k BN
 refine ac ?_
 refine Tr.seq ?_
 refine Tr.cn rfl ?_ ?_<;>intro h1 q1
 have Ae:k<(400):=AJ h1
 refine a2 ?_
 refine ao ?_
 refine tp rfl (M7 rfl underlying288 BJ vq vq AA AA) ?_
 refine TO.C0 0 rfl rfl (Aq rfl rfl vq Ce BJ rfl (by unfold arr;rw [List.length_map,Um AA];omega) (Yl Ae)) ?_
 refine ao ?_
 refine ac ?_
 exact Fin.fam (k+1) ⟨Ae,by omega⟩ ⟨⟨_,rfl,AG k⟩,kz⟩ ((by exact fun _ _ h=>h))
 have BC:k=(400):=by have:=AK h1;omega
 subst BC
 refine ac ?_
 refine Tr.seq (Tr.BI ?_)
 refine TO.yl ju rfl rfl AD rfl (fun b2=> ?_)
 refine ao ?_
 refine a2 ?_
 refine Tr.block (Tr.Jc _ (kk [27,26,7,5,1,0] rfl) (fun k:Nat=>[(28,int ((k:Nat):Int)),(8,int (-1))]) (fun k:Nat=>Hp M0 w0 S ((L6 ju b2 (Wc 1 k)::AE true b1 288 (arr (Fv 400))::Bo::Ac M1 w1::rs))) (fun k:Nat=>k≤(l).length) (fun k:Nat=>(l).length-k) 0 (Nat.zero_le _) ⟨kq,kz⟩ (fun _ _ h=>h) ?_)
 rintro k BN
 refine ac ?_
 refine Tr.seq ?_
 refine Tr.cn rfl ?_ ?_<;>intro h2 q2
 have Ae:k<(l).length:=AJ h2
 obtain ⟨f,Af⟩:=at_ Ae
 refine ac ?_
 refine ao ?_
 refine tp rfl (AB rfl underlying91 HI vq vq AA Bk) ?_
 refine tp rfl (Al rfl J9 HI vq rfl rfl) ?_
 refine Tl rfl rfl rfl rfl z57 ZX (fun b3=> ?_)
 refine tm rfl ?_
 refine sf 0 10 ⟨rfl,rfl,rfl⟩ rfl rfl rfl rfl ?_
 refine ao ?_
 refine wk [28,27,26,10,9,8,7,5,1,0] rfl ?_
 refine an ?_ ?_<;>intro h3 q3
 obtain ⟨hfa,hk0,hla⟩:=hl.at_ Af
 have hma:f.machine=1:=by rw [hfa]
 have hlk:Cp.look (Wc 1 k) f.machine=none:=by rw [hma];exact (sV hk0).1
 have hm1:Wc 1 (k+1)=OH (Wc 1 k) f.machine ((k:Nat):Int):=by rw [hma];exact (sV hk0).2
 refine ao ?_
 refine TO.rd 0 rfl rfl rfl AD (gS (f.machine) Np rfl vq vq (fun _ _ _ h=>h)) ?_
 refine ao ?_
 refine wk [28,27,26,12,11,10,9,8,7,5,1,0] rfl ?_
 refine an ?_ ?_<;>intro h4 q4
 exfalso;rw [hlk] at h4;cases h4
 refine ac ?_
 refine ao ?_
 refine TO.C0 0 rfl rfl (T2 (f.machine) Np rfl rfl rfl vq vq (fun _ _ _ h=>h) vq) ?_
 refine ao ?_
 refine wk [28,27,26,8,7,5,1,0] rfl ?_
 refine a2 ?_
 exact Fin.fam (k+1) ⟨Ae,by omega⟩ ⟨⟨_,rfl,AG k⟩,kz⟩ ((by rw [hm1];exact fun _ _ h=>h))
 exfalso;have h_:=congrArg Gv.machine (hl.at_ Af).1;rw [q3] at h_;exact absurd h_ AD
 have BC:k=(l).length:=by have:=AK h2;omega
 subst BC
 refine a2 ?_
 refine Tr.ret (Fin.drop 2 ?_)
 refine Fin.Fh [_] rfl (AQ.tmp rfl Lr) ?_ Ms
 · exact As b1 Lr
theorem ACB   :A_ prog 190 [slice 1 [],str EF] (DW [int 0,bool false]):=by
 refine fo func190 rfl ⟨rfl,rfl⟩ fun M0 w0=> ?_
 refine ac ?_
 refine ac ?_
 refine co rfl (CB rfl underlying51 (vl rfl)) ?_
 refine ac ?_
 refine ac ?_
 refine Tr.seq (Tr.block (Tr.A0 _ (kk [6,1,0] rfl) (fun (u:Unit)=>[(7,int 0),(8,int 0)]) (fun (u:Unit)=>True) (fun (u:Unit)=>0) () (trivial) ⟨ke rfl,kz⟩ ?_))
 rintro u _
 refine ac ?_
 refine Tr.cn rfl ?_ ?_<;>intro h1 q1
 exact absurd h1 AD
 have:=h1
 refine ac ?_
 refine Tr.seq (Tr.Bq (cm rfl (cm rfl (cm rfl (co rfl (ki rfl rfl rfl rfl) (cm rfl ?_))))))
 refine Ch.cs 35 rfl ?_ ?_<;>intro h2 q2
 exact absurd h2 AD
 refine ac ?_
 refine wk [5,4] rfl (Tr.ret (Fin.Co rfl (Bt.Dx _ _) rfl ?_ rfl ?_))
 · exact Lr
 · exact bool_eq AD
theorem yC   :A_ prog 191 [is (.slice none 0 0),int 0,slice 1 [[str EF]]] (slice 1 [[str EF]]):=by
 refine fo func191 rfl ⟨rfl,rfl⟩ fun M0 w0=> ?_
 refine a2 ?_
 refine co rfl (Cs rfl underlying51 Hs (VL.le vq (AM 1)) vq AD AD) ?_
 refine a2 ?_
 refine co rfl (CB rfl underlying51 vq) ?_
 refine ac ?_
 refine an ?_ ?_<;>intro h1 q1
 exact absurd h1 AD
 refine a2 ?_
 refine co rfl (CB rfl underlying51 (VL.le vq (AM 1))) ?_
 refine a2 ?_
 refine wk [22,8,7,2,1,0] rfl ?_
 refine Tr.cn rfl ?_ ?_<;>intro h2 q2
 refine ap ?_
 refine TO.pad ?_
 refine TO.C1 0 rfl rfl AD (DK rfl rfl AD rfl underlying51 Hs by9 z9 rfl AD ⟨_,rfl,AM _⟩ vq Uq Us (Bc BD ⟨_,rfl,Dh 1⟩)) (fun v1=> ?_)
 refine ap ?_
 refine ac ?_
 · exact Pr.le_trans (At _ _) Lr
 exact absurd h2 AD
theorem sW   :A_ prog 129 [is (.slice none 0 0),str EF] (slice 1 [[str EF]]):=by
 refine fo func129 rfl ⟨rfl,rfl⟩ fun M0 w0=> ?_
 · repeat' first|exact absurd h AD|exact Lr|refine co rfl (AY rfl (ACB) ⟨⟨_,rfl,AM 1⟩,kz⟩) ?_|refine co rfl (AY rfl (yC) ⟨kq,kq,Ea,trivial⟩) ?_|refine ac ?_|(refine Tr.cn rfl ?_ ?_<;>intro h q)
theorem ACC   :A_ prog 192 [slice 1 [],int 1] (DW [int 0,bool false]):=by
 refine fo func192 rfl ⟨rfl,rfl⟩ fun M0 w0=> ?_
 refine ac ?_
 refine ac ?_
 refine co rfl (CB rfl underlying22 (vl rfl)) ?_
 refine ac ?_
 refine ac ?_
 refine Tr.seq (Tr.block (Tr.A0 _ (kk [6,1,0] rfl) (fun (u:Unit)=>[(7,int 0),(8,int 0)]) (fun (u:Unit)=>True) (fun (u:Unit)=>0) () (trivial) ⟨ke rfl,kz⟩ ?_))
 rintro u _
 refine ac ?_
 refine Tr.cn rfl ?_ ?_<;>intro h1 q1
 exact absurd h1 AD
 have:=h1
 refine ac ?_
 refine Tr.seq (Tr.Bq (cm rfl (cm rfl (cm rfl (co rfl (ki rfl rfl rfl rfl) (cm rfl ?_))))))
 refine Ch.cs 35 rfl ?_ ?_<;>intro h2 q2
 exact absurd h2 AD
 refine ac ?_
 refine wk [5,4] rfl (Tr.ret (Fin.Co rfl (Bt.Dx _ _) rfl ?_ rfl ?_))
 · exact Lr
 · exact bool_eq AD
theorem yD   :A_ prog 193 [is (.slice none 0 0),int 0,slice 1 [[int 1]]] (slice 1 [[int 1]]):=by
 refine fo func193 rfl ⟨rfl,rfl⟩ fun M0 w0=> ?_
 refine a2 ?_
 refine co rfl (Cs rfl underlying22 BJ (VL.le vq (AM 1)) vq AD AD) ?_
 refine a2 ?_
 refine co rfl (CB rfl underlying22 vq) ?_
 refine ac ?_
 refine an ?_ ?_<;>intro h1 q1
 exact absurd h1 AD
 refine a2 ?_
 refine co rfl (CB rfl underlying22 (VL.le vq (AM 1))) ?_
 refine a2 ?_
 refine wk [22,8,7,2,1,0] rfl ?_
 refine Tr.cn rfl ?_ ?_<;>intro h2 q2
 refine ap ?_
 refine TO.pad ?_
 refine TO.C1 0 rfl rfl AD (DK rfl rfl AD rfl underlying22 BJ IE z3 rfl AD ⟨_,rfl,AM _⟩ vq Uq Us (Bc BD ⟨_,rfl,Dh 1⟩)) (fun v1=> ?_)
 refine ap ?_
 refine ac ?_
 · exact Pr.le_trans (At _ _) Lr
 exact absurd h2 AD
theorem sX   :A_ prog 130 [is (.slice none 0 0),int 1] (slice 1 [[int 1]]):=by
 refine fo func130 rfl ⟨rfl,rfl⟩ fun M0 w0=> ?_
 · repeat' first|exact absurd h AD|exact Lr|refine co rfl (AY rfl (ACC) ⟨⟨_,rfl,AM 1⟩,kz⟩) ?_|refine co rfl (AY rfl (yD) ⟨kq,kq,Ea,trivial⟩) ?_|refine ac ?_|(refine Tr.cn rfl ?_ ?_<;>intro h q)
abbrev zT:List Pr:=[int 0,slice 1 [[str EF]],ints [1],ints [0]]
abbrev sY (l:List Gv):Pr:=slice 4 (l.map fun _=>zT)
abbrev bf (v:Value) (_:Unit):List Pr:=[int 0,slice 1 [[str EF]],ints [1],Ag v (ints [0])]
def erL:Nat→List Unit|0=>[]|_+1=>[()]
theorem ACD {l:List Gv} (h:He l) (v:Value):Pr.le (slice 4 ((erL l.length).map (bf v))) (sY l):=by
 rcases h with rfl|rfl
 · exact Pr.le_refl _
 · exact (Cp.RI ⟨⟨Pr.le_refl _,Pr.le_refl _,Pr.le_refl _,At _ _,trivial⟩,trivial⟩:Pr.le (slice 4 [bf v ()]) (slice 4 [zT]))
theorem gB {l:List Gv} {Nn:Int} (hl:He l) (hg:0≤Nn∧Nn≤4000):A_ prog 76 [GO l,int Nn] (DW [sY l,int 0]):=by
 refine fo func76 rfl ⟨rfl,rfl⟩ fun M0 w0=>(Tr.CN 0 rfl fun C3=> ?_)
 have II:=hl.len
 refine a2 ?_
 refine co rfl (Bu (Yi hl hg.2) rfl rfl rfl) ?_
 refine ac ?_
 refine an ?_ ?_<;>intro h1 q1
 exact absurd (if_neg AA) q1
 refine ac ?_
 refine ao ?_
 refine TO.pad ?_
 refine TO.C1 0 rfl rfl AD (FA rfl rfl AD rfl (jw hl) ⟨kq,kz⟩) (fun v1=> ?_)
 refine TO.Mh 22 0 _ rfl rfl (fun _=>rfl) (fun b1=> ?_)
 refine ao ?_
 refine ac ?_
 refine Tr.seq (Tr.BI ?_)
 refine TO.yl ju rfl rfl AD rfl (fun b2=> ?_)
 refine ao ?_
 refine wk [9,8,7,0] rfl ?_
 refine ac ?_
 refine Tr.block (Tr.Rh 163 4 (Tr.Cy _ (kk [25,24,9,7] rfl) (fun (k:Nat) (vf:Value) v=>[(26,int ((k:Nat):Int)),(8,Ag v (lens (((erL k).map (bf vf))).length))]) (fun (k:Nat) (vf:Value) v=>Hp M0 w0 FG ([BX 163 4 (((erL k).map (bf vf))) v,L6 ju b2 (Wc 0 k),AE true b1 288 (arr (Fv 400))])) (fun (k:Nat) (vf:Value)=>k≤l.length) (fun (k:Nat) (vf:Value)=>l.length-k) (0) ((.slice none 0 0)) (.slice none 0 0) (Nat.zero_le _) ⟨⟨_,rfl,int_eq rfl⟩,⟨_,rfl,NH (by rfl)⟩,trivial⟩ (fun _ _ h=>h) ?_))
 rintro k vf v S8
 refine ac ?_
 refine Tr.seq ?_
 refine Tr.cn rfl ?_ ?_<;>intro h2 q2
 have Ae:k<l.length:=AJ h2
 obtain ⟨f,Af⟩:=at_ Ae
 obtain ⟨hfa,hk0,hla⟩:=hl.at_ Af
 subst hk0 hfa
 rw [show erL 0=[] from rfl]
 refine ac ?_
 refine ao ?_
 refine tp rfl (AB rfl underlying91 HI vq vq AA (Ad Af)) (tp rfl (Al rfl J9 HI vq rfl rfl) ?_)
 refine Tl rfl rfl rfl rfl z57 ZX (fun b3=> ?_)
 refine tm rfl ?_
 refine sf 0 11 ⟨rfl,rfl,rfl⟩ rfl rfl rfl rfl ?_
 refine ao ?_
 refine wk [26,25,24,11,10,9,8,7] rfl ?_
 refine ao ?_
 refine TO.FL 2 rfl rfl AD (Ak rfl rfl AD rfl (yB) ⟨kq,⟨_,rfl,int_eq rfl⟩,trivial⟩) ?_
 refine ao ?_
 refine ac ?_
 refine wk [36,26,25,24,12,11,10,9,8,7] rfl ?_
 refine Tr.cn rfl ?_ ?_<;>intro h3 q3
 refine ao ?_
 refine tp rfl (Rr rfl underlying159 Fo) (TO.C0 1 rfl rfl (T2 (0) Np rfl rfl rfl vq vq (fun _ _ _ h=>h) vq) ?_)
 refine ao ?_
 refine wk [26,25,24,12,11,10,9,8,7] rfl ?_
 refine ao ?_
 refine TO.C1 0 rfl rfl AD (Ex rfl rfl AD rfl underlying159 RV AD7 uK rfl AD AD vq ⟨_,rfl,(show Pr.le _ (slice 4 [[int 0,is (.slice none 0 0),is (.slice none 0 0),is (.slice none 0 0)]]) from BF 4 _)⟩ (Bh fun _=>rfl) (Nat.zero_lt_succ _) Nv Nx) (fun v2=> ?_)
 refine ao ?_
 refine wk [26,25,24,12,11,10,9,8,7] rfl (Tr.seq ?_)
 have hlk:(Cp.look (OH (Wc 0 0) 0 (((List.map (bf vf) []).length:Nat):Int)) 0).getD 0=0:=rfl
 have AMJ:(List.map (bf vf) []++[[int 0,is (.slice none 0 0),is (.slice none 0 0),is (.slice none 0 0)]]).length=1:=rfl
 refine Tr.yq (sz:=4) 0 rfl AR fun b4 AGk sp4 hv4 hg4 hm4 hs4=> ?_
 subst hv4
 have hg5:1≤AGk:=hg4
 refine ao ?_
 refine TO.rd 1 rfl rfl rfl AD (Ze (0) Np rfl vq vq (fun _ _ _ h=>h)) (tp rfl (AH rfl underlying159 RV Gi vq AA AA) ?_)
 refine ao ?_
 refine wk [26,25,24,13,11,10,9,8,7] rfl (Tr.seq (Tr.weak [(13,ptr b4 0),(7,_),(8,_),(9,_),(10,_),(11,_),(24,_),(25,_),(26,_)] ⟨⟨_,rfl,Pr.le_of_eq (by rfl)⟩,kz⟩ (Tr.pad (Tr.rx ?_))))
 refine ax ?_
 refine xo rfl (fun _=>Bu (sW) rfl rfl rfl) ?_
 refine ax ?_
 refine xo rfl (fun _=>Aa (xs:=[.tmp 64]) (rows:=[[_]]) rfl rfl underlying22 BJ z3 rfl AD ⟨⟨Ao,Ce⟩,trivial⟩ AD) ?_
 refine Cx.ef 0 rfl rfl AD (DK rfl rfl AD rfl underlying22 BJ IE z3 rfl AD ⟨_,rfl,AM _⟩ Ea Uq Us (Bc BD ⟨_,rfl,Dh 1⟩)) ?_
 refine ax ?_
 refine Cx.C0 1 rfl rfl (Aq rfl rfl vq Ce lu rfl Am rfl) ?_
 refine ax ?_
 refine Cx.C0 1 rfl rfl (GD rfl rfl rfl vq rfl G0 Am) ?_
 refine Cx.nil ⟨by kernel_rfl,?_⟩
 refine BE.RN 0 1 66 rfl rfl AD rfl (fun v3=> ?_)
 refine BE.done al4 (Fin.go (wk [26,25,24,13,11,9,8,7] rfl ?_))
 refine an ?_ ?_<;>intro h4 q4
 refine Tr.rx ?_
 refine ax ?_
 refine xo rfl (fun _=>Bu (sX) rfl rfl rfl) ?_
 refine ax ?_
 refine Cx.C0 1 rfl rfl (Aq rfl rfl vq Ce G0 rfl Am rfl) ?_
 refine Cx.nil ⟨by kernel_rfl,?_⟩
 refine BE.done al4 ?_
 refine ac ?_
 refine wk [26,25,24,9,8,7] rfl ?_
 refine ac ?_
 refine Fin.j6 1 (((erL 1).map (bf v3)).flatten++sp4.map is) rfl rfl (Fin.L_ (sz:=4) 1 rfl (m:=1) (by rfl) hg5 hm4 hs4 (Fin.drop 0 (Fin.Bg (1) (v3) (.slice (some ⟨b4,0,none⟩) 1 AGk) (⟨by omega,by omega⟩) ⟨⟨_,rfl,int_eq rfl⟩,⟨_,rfl,Ci (by rfl)⟩,kz⟩ (fun _ _ h=>h))))
 exact absurd h4 AD
 exfalso;simp at h3
 obtain rfl:k=l.length:=(by have:=AK h2;omega)
 refine ac ?_
 refine Tr.seq (Tr.mW 0 8 rfl rfl (Bh fun _=>rfl) ?_)
 refine ac ?_
 refine Tr.ret (Fin.Co rfl (Bt.Dx _ _) rfl ?_ rfl ?_)
 · exact Pr.le_trans (At _ _) (ACD hl _)
 · exact Lr
theorem yE {l:List Gv} {Nn:Int} (hl:He l) (hg:Nn<0):A_ prog 76 [GO l,int Nn] (DW [slice 4 [],int 2]):=by
 refine fo func76 rfl ⟨rfl,rfl⟩ fun M0 w0=> ?_
 refine a2 ?_
 refine co rfl (Bu (Yi hl AA) rfl rfl rfl) ?_
 refine ac ?_
 refine an ?_ ?_<;>intro h1 q1
 refine ac ?_
 refine Tr.ret (Fin.AF (Fin.Co rfl (Bt.Dx _ _) rfl ?_ rfl ?_))
 · exact AM 4
 · exact int_eq (if_pos hg)
 exfalso;rw [if_pos hg] at q1;cases q1
theorem yF   :A_ prog 232 [slice 1 (([()]:List Unit).map fun _=>[int 0]),clo prog (fun _:Unit=>[int 0]) (fun _=>bool true)] (int 0):=by
 refine fo func232 rfl ⟨rfl,rfl⟩ fun M0 w0=> ?_
 have hl1:([()]:List Unit).length=1:=rfl
 refine a2 ?_
 refine Tr.block (Tr.A0 _ (kk [7,1,0] rfl) (fun k:Nat=>[(8,int ((k:Nat):Int))]) (fun k:Nat=>k≤(([()]:List Unit)).length∧(k=0)) (fun k:Nat=>(([()]:List Unit)).length-k) 0 (⟨Nat.zero_le _,rfl⟩) kz ?_)
 rintro k ⟨BN,AX⟩
 refine ac ?_
 refine Tr.seq ?_
 refine Tr.cn rfl ?_ ?_<;>intro h1 q1
 have Ae:k<(([()]:List Unit)).length:=AJ h1
 obtain ⟨x,Af⟩:=at_ Ae
 have hk0:k=0:=AX
 · repeat' first|exact int_eq AA|exact absurd h AD|refine co rfl (AB rfl underlying22 BJ vq vq AA Bk) ?_|refine co rfl (JA rfl BT rfl) (co rfl (Wt x rfl vq kz) ?_)|refine ac ?_|(refine Tr.cn rfl ?_ ?_<;>intro h q)
 have BC:k=(([()]:List Unit)).length:=by have:=AK h1;omega
 exfalso;omega
theorem yG   :A_ prog 184 [slice 1 (([()]:List Unit).map fun _=>[int 0]),clo prog (fun _:Unit=>[int 0]) (fun _=>bool true)] (bool true):=by
 refine fo func184 rfl ⟨rfl,rfl⟩ fun M0 w0=> ?_
 refine a2 ?_
 refine co rfl (Bu (yF) rfl rfl rfl) ?_
 refine a2 ?_
 · exact bool_eq AD
theorem sZ {l:List Gv} (hla:l=[aT]):A_ prog 185 [int 0,ref [clo prog (fun _:Unit=>[agg (LW aT)]) (fun _=>bool true)],ref [GO l]] (bool true):=by
 refine fo func185 rfl ⟨rfl,rfl⟩ fun M0 w0=> ?_
 subst hla
 refine a2 ?_
 refine co rfl (AB rfl underlying91 HI vq vq AA (Be (i:=0) (l:=[aT]) rfl)) ?_
 refine co rfl (Al rfl J9 HI vq rfl rfl) (co rfl (Wt () rfl vq kz) ?_)
 refine a2 ?_
 · exact Lr
theorem sj:Entry Tryz.prog 185:=⟨_,Tryz.func185,rfl,rfl⟩
abbrev yH (l:List Gv):List Int:=l.map fun _=>0
theorem yI {l:List Gv} (hl:He l):A_ prog 124 [GO l,sY l,clo prog (fun _:Unit=>[agg (LW aT)]) (fun _=>bool true)] (ints (yH l)):=by
 refine fo func124 rfl ⟨rfl,rfl⟩ fun M0 w0=>(Tr.CN 1 rfl fun Fq=> ?_)
 have II:=hl.len
 refine a3 ?_
 refine Tr.block (Tr.B5 3 1 (Tr.EM _ (kk [11,10,5,3] rfl) (fun k v=>[(12,int ((k:Nat):Int)),(7,Ag v (ints (yH (l.take k))))]) (fun k v=>Hp M0 w0 FG ([Ax 3 1 v])) (fun k:Nat=>k≤(l).length) (fun k:Nat=>(l).length-k) 0 (.slice none 0 0) (Nat.zero_le _) ⟨kq,⟨_,rfl,Bf rfl⟩,trivial⟩ (fun _ _ h=>h) ?_))
 rintro k v BN
 refine ac ?_
 refine Tr.seq ?_
 refine Tr.cn rfl ?_ ?_<;>intro h1 q1
 have Ae:k<(l).length:=AJ h1
 obtain ⟨x,Af⟩:=at_ Ae
 obtain ⟨hxa,hk0,hla⟩:=hl.at_ Af
 have htl:=List.length_take_le k l
 refine ac ?_
 refine Tr.seq (Tr.block (Tr.seq (Tr.BI (tp rfl (AB rfl underlying159 RV vq vq AA (Ad Af)) (tp rfl (Al rfl mC RV vq rfl rfl) ?_)))))
 refine Tl rfl rfl rfl rfl uK dV (fun b1=> ?_)
 refine sf 0 9 ⟨rfl,rfl,rfl⟩ rfl rfl rfl rfl ?_
 refine ao ?_
 refine ac ?_
 refine co rfl (AY rfl (yG) ⟨kq,⟨_,rfl,Th sj (fun _=>sZ hla)⟩,trivial⟩) ?_
 refine ac ?_
 refine wk [19,12,11,10,9,7,5,3] rfl ?_
 refine Tr.cn rfl ?_ ?_<;>intro h2 q2
 refine ao ?_
 refine TO.C1 0 rfl rfl AD (B7 rfl rfl rfl rfl underlying22 BJ IE z3 Fo Ea (A7 BD Gi)) (fun v1=> ?_)
 refine ao ?_
 refine wk [12,11,10,7,5,3] rfl ?_
 refine ac ?_
 exact Fin.C_ (k+1) v1 (⟨Ae,by omega⟩) ⟨⟨_,rfl,AG k⟩,⟨_,rfl,A9 (by rw [List.take_add_one,Af];simp)⟩,kz⟩ (fun _ _ h=>h)
 exact absurd h2 AD
 have BC:k=(l).length:=by have:=AK h1;omega
 subst BC
 rw [List.take_length]
 refine a3 ?_
 · exact GS
theorem Yn   :A_ prog 125 [agg (LW aT),ref (LW aT)] (bool true):=by
 refine fo func125 rfl ⟨rfl,rfl⟩ fun M0 w0=> ?_
 · repeat' first|exact bool_eq AD|exact absurd h AD|refine ac ?_|(refine Ch.cg rfl rfl rfl ?_ ?_<;>intro h q)
theorem Yo:Entry Tryz.prog 125:=⟨_,Tryz.func125,rfl,rfl⟩
theorem sk {l:List Gv} {Nn:Int} (hl:He l) (hg:0≤Nn∧Nn≤4000):A_ prog 75 [GO l,int Nn,agg (LW aT)] (DW [ints (yH l),int 0]):=by
 refine fo func75 rfl ⟨rfl,rfl⟩ fun M0 w0=> ?_
 refine a2 ?_
 refine co rfl (Bu (gB hl hg) rfl rfl rfl) ?_
 refine ac ?_
 refine an ?_ ?_<;>intro h1 q1
 exact absurd h1 AD
 refine a2 ?_
 refine co rfl (CE (Kk Qk) rfl rfl) ?_
 refine ac ?_
 refine wk [10,8,5,0] rfl ?_
 refine an ?_ ?_<;>intro h2 q2
 exact absurd (if_pos Nl) q2
 refine a2 ?_
 refine co rfl (AY rfl (yI hl) ⟨kq,kq,⟨_,rfl,Th Yo (fun _=>Yn)⟩,trivial⟩) ?_
 refine ac ?_
 refine Tr.ret (Fin.Co rfl (Bt.Dx _ _) rfl ?_ rfl ?_)
 · exact Lr
 · exact Lr
theorem sn {l:List Gv} {Nn:Int} (hl:He l) (hg:Nn<0):A_ prog 75 [GO l,int Nn,agg (LW aT)] (DW [ints [],int 2]):=by
 refine fo func75 rfl ⟨rfl,rfl⟩ fun M0 w0=> ?_
 refine a2 ?_
 refine co rfl (Bu (yE hl hg) rfl rfl rfl) ?_
 refine ac ?_
 refine an ?_ ?_<;>intro h1 q1
 refine ac ?_
 refine wk [7,6] rfl (Tr.ret (Fin.AF (Fin.Co rfl (Bt.Dx _ _) rfl ?_ rfl ?_)))
 · exact Dq
 · exact Lr
 exact absurd h1 AD
abbrev AGl (l:List Gv):List (List UInt8):=l.map fun _=>EF
theorem Yp {l:List Gv} {Nn:Int} (hl:He l) (hg:0≤Nn∧Nn≤4000):A_ prog 37 [GO l,int Nn,agg (LW aT)] (DW [slice 1 ((AGl l).map fun t:List UInt8=>[str t]),int 0]):=by
 refine fo func37 rfl ⟨rfl,rfl⟩ fun M0 w0=> ?_
 have II:=hl.len
 refine a2 ?_
 refine co rfl (Iy (sk hl hg) rfl rfl rfl rfl) ?_
 refine a2 ?_
 refine wk [23,9,8,1,0] rfl ?_
 refine Tr.cn rfl ?_ ?_<;>intro h1 q1
 exact absurd h1 AD
 refine a2 ?_
 refine co rfl (Bu (gB hl hg) rfl rfl rfl) ?_
 refine a2 ?_
 refine wk [12,10,8] rfl ?_
 refine ac ?_
 refine Tr.block (Tr.B5 9 1 (Tr.EM _ (kk [32,31,8] rfl) (fun k v=>[(33,int ((k:Nat):Int)),(12,Ag v (slice 1 ((AGl (l.take k)).map fun t:List UInt8=>[str t])))]) (fun k v=>Hp M0 w0 FG ([Ax 9 1 v])) (fun k:Nat=>k≤(l).length) (fun k:Nat=>(l).length-k) 0 (.slice none 0 0) (Nat.zero_le _) ⟨kq,⟨_,rfl,Bf rfl⟩,trivial⟩ (fun _ _ h=>h) ?_))
 rintro k v BN
 refine ac ?_
 refine Tr.seq ?_
 refine Tr.cn rfl ?_ ?_<;>intro h2 q2
 have Ae:k<(l).length:=AJ h2
 obtain ⟨x,Af⟩:=at_ Ae
 obtain ⟨hxa,hk0,hla⟩:=hl.at_ Af
 have htl:=List.length_take_le k l
 refine ac ?_
 refine Tr.seq (Tr.block (Tr.seq (Tr.BI (tp rfl (AB rfl underlying159 RV vq vq AA (Ad Af)) (tp rfl (Al rfl mC RV vq rfl rfl) ?_)))))
 refine Tl rfl rfl rfl rfl uK dV (fun b1=> ?_)
 refine sf 0 14 ⟨rfl,rfl,rfl⟩ rfl rfl rfl rfl ?_
 refine ao ?_
 refine ac ?_
 refine co rfl (Bu (O1 (l:=yH l) (v:=0)) rfl rfl rfl) ?_
 refine ac ?_
 refine wk [40,33,32,31,14,12,8] rfl ?_
 refine Tr.cn rfl ?_ ?_<;>intro h3 q3
 refine ao ?_
 refine TO.C1 0 rfl rfl AD (B7 rfl rfl rfl rfl underlying51 Hs by9 z9 Fo vq (A7 BD Gi)) (fun v1=> ?_)
 refine ao ?_
 refine ac ?_
 exact Fin.C_ (k+1) v1 (⟨Ae,by omega⟩) ⟨⟨_,rfl,AG k⟩,⟨_,rfl,A9 (by rw [List.take_add_one,Af];simp)⟩,kz⟩ (fun _ _ h=>h)
 exfalso;rw [hla] at h3;exact absurd h3 AD
 have BC:k=(l).length:=by have:=AK h2;omega
 subst BC
 rw [List.take_length]
 refine a2 ?_
 refine Tr.ret (Fin.Co rfl (Bt.Dx _ _) rfl ?_ rfl ?_)
 · exact GS
 · exact Lr
theorem sr {l:List Gv} {Nn:Int} (hl:He l) (hg:Nn<0):A_ prog 37 [GO l,int Nn,agg (LW aT)] (DW [slice 1 (([]).map fun t:List UInt8=>[str t]),int 2]):=by
 refine fo func37 rfl ⟨rfl,rfl⟩ fun M0 w0=> ?_
 refine a2 ?_
 refine co rfl (Iy (sn hl hg) rfl rfl rfl rfl) ?_
 refine a2 ?_
 refine wk [23,9,8,1,0] rfl ?_
 refine Tr.cn rfl ?_ ?_<;>intro h1 q1
 refine ac ?_
 refine Tr.ret (Fin.AF (Fin.Co rfl (Bt.Dx _ _) rfl ?_ rfl ?_))
 · exact Dq
 · exact Lr
 exact absurd h1 AD
theorem sy   :A_ prog 15 [GO [],int 3,agg (LW aT)] (DW [slice 1 (([EF]).map fun t:List UInt8=>[str t]),int 0]):=by
 refine fo func15 rfl ⟨rfl,rfl⟩ fun M0 w0=> ?_
 refine ac ?_
 refine ac ?_
 refine co rfl (CE (Wb Ql) rfl rfl) ?_
 refine ac ?_
 refine Tr.seq (Tr.seq (Tr.Bq (cm rfl (co rfl (ki rfl rfl rfl rfl) (cm rfl ?_)))))
 refine Ch.cs 20 rfl ?_ ?_<;>intro h1 q1
 exact absurd h1 AD
 refine OB h1 rfl (OB h1 rfl (cy h1 rfl (Bu (Yk) rfl rfl rfl) (cy h1 rfl (L3 rfl (vl rfl)) (co rfl (dI rfl rfl h1 rfl) (cm rfl ?_)))))
 refine Ch.cs 26 rfl ?_ ?_<;>intro h2 q2
 exact absurd h2 AD
 refine cy h2 rfl (Al rfl J9 HI (vl rfl) rfl rfl) (cy h2 rfl (CE (Kk Qk) rfl rfl) ?_)
 refine ac ?_
 refine wk [30,5,1,0] rfl ?_
 refine Tr.cn rfl ?_ ?_<;>intro h3 q3
 exfalso;rw [if_pos Nl] at h3;exact absurd h3 AD
 refine ac ?_
 refine ac ?_
 refine co rfl (Iy (Yp (Nn:=3) Ql AD) rfl rfl rfl rfl) ?_
 refine ac ?_
 refine ac ?_
 refine wk [39,10,9,5,1,0] rfl ?_
 refine Tr.cn rfl ?_ ?_<;>intro h4 q4
 exact absurd h4 AD
 refine ac ?_
 refine ac ?_
 refine co rfl (AY rfl (sU) ⟨ke rfl,(Kf rfl),trivial⟩) ?_
 refine ac ?_
 refine wk [11,10,9,5,1] rfl ?_
 refine ac ?_
 refine Tr.cn rfl ?_ ?_<;>intro h5 q5
 exact absurd h5 AD
 refine ac ?_
 refine ac ?_
 refine co rfl (Iy (Yp (Nn:=3) gA AD) rfl rfl rfl rfl) ?_
 refine ac ?_
 refine wk [12,10,9,5] rfl ?_
 refine ac ?_
 refine Tr.cn rfl ?_ ?_<;>intro h6 q6
 exact absurd h6 AD
 refine ac ?_
 refine Tr.seq (Tr.Bq (cm rfl (cm rfl (co rfl (kfa rfl lz rfl rfl) (co rfl (JA rfl Ge rfl) (co rfl (Aa (xs:=[.tmp 64]) (rows:=[[_]]) rfl rfl underlying51 Hs z9 rfl AD ⟨⟨Ao,(Vo rfl)⟩,trivial⟩ AD) ?_))))))
 refine co rfl (Aa (xs:=[.tmp 61,.tmp 62,.tmp 65]) (rows:=[[_],[_],[_]]) rfl rfl underlying165 lu z51 rfl AD ⟨⟨Ao,(Vo rfl)⟩,⟨⟨Ao,(Vo rfl)⟩,⟨⟨Ao,⟨_,rfl,Pr.le_trans (BF _ _) (AO _)⟩⟩,trivial⟩⟩⟩ AD) ?_
 refine co rfl (AY rfl (bQ) ⟨(Kf rfl),trivial⟩) ?_
 refine ac ?_
 refine wk [7,6] rfl (Tr.ret (Fin.Co rfl (Bt.Dx _ _) rfl ?_ rfl ?_))
 · exact Lr
 · exact Lr
theorem s7   :A_ prog 15 [GO [],int (-1),agg (LW aT)] (DW [slice 1 (([]).map fun t:List UInt8=>[str t]),int 2]):=by
 refine fo func15 rfl ⟨rfl,rfl⟩ fun M0 w0=> ?_
 refine ac ?_
 refine ac ?_
 refine co rfl (CE (Wb Ql) rfl rfl) ?_
 refine ac ?_
 refine Tr.seq (Tr.seq (Tr.Bq (cm rfl (co rfl (ki rfl rfl rfl rfl) (cm rfl ?_)))))
 refine Ch.cs 20 rfl ?_ ?_<;>intro h1 q1
 exact absurd h1 AD
 refine OB h1 rfl (OB h1 rfl (cy h1 rfl (Bu (Yk) rfl rfl rfl) (cy h1 rfl (L3 rfl (vl rfl)) (co rfl (dI rfl rfl h1 rfl) (cm rfl ?_)))))
 refine Ch.cs 26 rfl ?_ ?_<;>intro h2 q2
 exact absurd h2 AD
 refine cy h2 rfl (Al rfl J9 HI (vl rfl) rfl rfl) (cy h2 rfl (CE (Kk Qk) rfl rfl) ?_)
 refine ac ?_
 refine wk [30,5,1,0] rfl ?_
 refine Tr.cn rfl ?_ ?_<;>intro h3 q3
 exfalso;rw [if_pos Nl] at h3;exact absurd h3 AD
 refine ac ?_
 refine ac ?_
 refine co rfl (Iy (sr (Nn:= -1) Ql AD) rfl rfl rfl rfl) ?_
 refine ac ?_
 refine ac ?_
 refine wk [39,10,9,5,1,0] rfl ?_
 refine Tr.cn rfl ?_ ?_<;>intro h4 q4
 refine ac ?_
 refine Tr.ret (Fin.AF (Fin.Co rfl (Bt.Dx _ _) rfl ?_ rfl ?_))
 · exact Dq
 · exact Lr
 exact absurd h4 AD
theorem zU   :A_ prog 16 [str EF,int 3] (agg (LW aT)):=by
 refine fo func16 rfl ⟨rfl,rfl⟩ fun M0 w0=>(Tr.seq (Tr.BI ?_))
 refine Tl rfl rfl rfl rfl z57 ZX (fun b1=> ?_)
 refine ap ?_
 refine ap ?_
 refine Tr.ret (Fin.j6 0 (LW aT) rfl (by simp only [P6,List.map_cons,List.map_nil,List.take_succ_cons,List.take_zero,List.drop_succ_cons,List.drop_zero,List.length_cons,List.length_nil,List.nil_append,List.cons_append,Nat.zero_add,Nat.reduceAdd]) (Fin.CY rfl (AQ.cell 0 rfl rfl J9 HI rfl Lr) ?_))
 · exact Lr
theorem Un   :A_ prog 5 [] (bool true):=by
 refine fo func5 rfl ⟨rfl,rfl⟩ fun M0 w0=> ?_
 refine ac ?_
 refine Tr.seq (Tr.Bq (co rfl (Bu (zU) rfl rfl rfl) (co rfl (AY rfl (sy) ⟨⟨_,rfl,AM _⟩,kz⟩) ?_)))
 refine ac ?_
 refine Tr.seq (Tr.Bq (co rfl (Bu (zU) rfl rfl rfl) (co rfl (AY rfl (s7) ⟨⟨_,rfl,AM _⟩,kz⟩) ?_)))
 refine ac ?_
 refine wk [4,2,1] rfl (Tr.seq (Tr.Bq (cm rfl (co rfl (ki rfl rfl rfl rfl) (cm rfl ?_)))))
 refine Ch.cs 17 rfl ?_ ?_<;>intro h1 q1
 refine OB h1 rfl (cy h1 rfl (E_ rfl underlying51 (vl rfl)) (cy h1 rfl (ki rfl rfl rfl rfl) (co rfl (Wh rfl rfl h1 rfl) (cm rfl ?_))))
 refine Ch.cs 22 rfl ?_ ?_<;>intro h2 q2
 refine OB h2 rfl ?_
 refine cy h2 rfl (AB rfl underlying51 Hs (vl rfl) (vl rfl) AA (Be (i:=0) (l:=[EF]) rfl)) ?_
 refine cy h2 rfl (JA rfl Ge rfl) (cy h2 rfl (mH rfl (vl rfl) (vl rfl)) (co rfl (Wh rfl rfl h2 rfl) (cm rfl ?_)))
 refine Ch.cs 28 rfl ?_ ?_<;>intro h3 q3
 refine OB h3 rfl (cy h3 rfl (ki rfl rfl rfl rfl) (co rfl (Wh rfl rfl h3 rfl) (cm rfl ?_)))
 refine Ch.cs 32 rfl ?_ ?_<;>intro h4 q4
 refine ac ?_
 refine cy h4 rfl (AY rfl (G9 (a:=(⟨[],[],[],[],[]⟩:IM)) (b:=(⟨[],[],[],[],[]⟩:IM)) (m:=0) (k:=0) ⟨by simp,by simp,by simp,by simp,by simp⟩ ⟨by simp,by simp,by simp,by simp,by simp⟩ AD) ⟨⟨_,rfl,BP ⟨AM 1,AM 1,AM 1,AM 1,AM 1,trivial⟩⟩,⟨_,rfl,BP ⟨AM 1,AM 1,AM 1,AM 1,AM 1,trivial⟩⟩,trivial⟩) ?_
 refine cy h4 rfl (AY rfl (S4 (a:=(⟨[],[],[],[],[]⟩:IM))) ⟨⟨_,rfl,BP ⟨AM 1,AM 1,AM 1,AM 1,AM 1,trivial⟩⟩,⟨_,rfl,Pr.le_of_eq rfl⟩,trivial⟩) ?_
 refine ac ?_
 refine wk [0] rfl ?_
 refine ac ?_
 · exact Lr
 exfalso;simp at h4
 exfalso;simp at h3
 exfalso;simp at h2
 exfalso;simp at h1
end Go.Proofs.YteomgekmipcdpaaGreatDoor
namespace Go.Proofs.YteomgekmipcdpaaGreatDoor
open Go Go.RowKit Cp Go.Proofs.Tryz
theorem S6 {t:List Int}  :Ba prog 3 [ints t] (bool true) (FJ) (fun _=>FJ):=by
 refine Ba.of func3 rfl rfl Am fun M0 w0 S rs M1 w1=> ?_
 refine ac ?_
 refine ac ?_
 refine co rfl (CE (vK) rfl rfl) ?_
 refine ac ?_
 refine Tr.cn rfl ?_ ?_<;>intro h1 q1
 refine Tr.seq (Tr.Bq (co rfl (kc0 (Un) rfl) ?_))
 refine ac ?_
 refine Tr.ret (Fin.AF (Fin.ER rfl rfl ?_ (fun _ _ _ _=>rfl)))
 · exact Lr
 have ht4:t.length≤400:=by simpa using h1
 have ht9:t.length≤1000000000:=by omega
 refine ac ?_
 refine ao ?_
 refine TO.pad ?_
 refine TO.C1 0 rfl rfl AD (FA rfl rfl AD rfl (AAp (l:=t) ht9) ⟨ke rfl,trivial⟩) (fun v1=> ?_)
 refine TO.Mh 29 0 _ rfl rfl (fun _=>rfl) (fun b1=> ?_)
 refine ao ?_
 refine ao ?_
 refine TO.FL 0 rfl rfl AD (Ak rfl rfl AD rfl (AB0) ⟨ke rfl,trivial⟩) ?_
 refine TO.ex 32 rfl (fun z1=>TO.fact 32 rfl fun E2=> ?_)
 refine tm rfl (tp rfl (FH rfl (vl rfl) rfl) (tp rfl (FH rfl (vl rfl) rfl) ?_))
 refine TO.ex 34 rfl (fun p1=>TO.fact 34 rfl fun Mj=> ?_)
 refine tp rfl (FH rfl (vl rfl) rfl) ?_
 refine Tl rfl rfl rfl rfl z31 Ic (fun b2=> ?_)
 refine Tl rfl rfl rfl rfl z35 Jq (fun b3=> ?_)
 refine sf 1 4 ⟨rfl,rfl,rfl⟩ rfl rfl rfl rfl ?_
 refine sf 0 5 ⟨rfl,rfl,rfl⟩ rfl rfl rfl rfl ?_
 refine tm rfl (TO.nil (Fin.RM 0 rfl (fun s1=> ?_)))
 refine Fin.go (wk2 3 5 rfl (Tr.seq ?_))
 have h7:=Mj.l7
 refine ac ?_
 refine ao ?_
 refine TO.FL 0 rfl rfl AD (Ak rfl rfl AD rfl (wE (n:=((p1.1.length:Nat):Int)) AA) ⟨ke rfl,ke rfl,trivial⟩) ?_
 refine TO.ex 41 rfl (fun z2=>TO.fact 41 rfl fun HW=> ?_)
 refine tm rfl (TO.nil (Fin.RM 0 rfl (fun s2=> ?_)))
 refine Fin.go (Tr.seq ?_)
 have hv:=Mj.fit.v
 have h7:=Mj.l7
 have hrl:=Mj.rl
 have hn32:p1.1.length≤32:=by omega
 have KV:=NV HW
 have hbs:=xj (n:=p1.1.length) (l:=p1.2.1) hn32 HW
 have VU:=NV hbs
 have hid:=Yc (n:=p1.1.length) (l:=p1.2.1) (s:=z2) hn32
 have AKj:=sI (Dc p1.1.length p1.2.1 z2) p1.1.length
 have AMK:=Yd (Dc p1.1.length p1.2.1 z2) p1.1.length
 have AKk:=sJ (s:=z2) hv
 refine ao ?_
 refine TO.FL 1 rfl rfl AD (Ak rfl rfl AD rfl (Yh (l:=p1.1) (r:=p1.2.1) (d:=p1.2.2) (s:=z2) h7 hv HW) ⟨ke rfl,ke rfl,trivial⟩) ?_
 refine ao ?_
 refine wk5 5 7 8 9 10 rfl ?_
 refine ao ?_
 refine TO.FL 1 rfl rfl AD (Ak rfl rfl AD rfl (Yh (l:=p1.1) (r:=p1.2.1) (d:=p1.2.2) (s:=(Dc p1.1.length p1.2.1 z2)) h7 hv hbs) ⟨ke rfl,ke rfl,trivial⟩) ?_
 refine ao ?_
 refine Tr.seq (Tr.seq (Tr.Bq (cm rfl (co rfl (ki rfl rfl rfl rfl) (cm rfl ?_)))))
 refine Ch.cs 56 rfl ?_ ?_<;>intro h2 q2
 exact absurd h2 AR
 refine OB h2 rfl (cy h2 rfl (ki rfl rfl rfl rfl) (co rfl (dI rfl rfl h2 rfl) (cm rfl ?_)))
 refine Ch.cs 60 rfl ?_ ?_<;>intro h3 q3
 exact absurd h3 AR
 refine ac ?_
 refine cy h3 rfl (AY rfl (Ta (a:=(Dc p1.1.length p1.2.1 z2))) ⟨ke rfl,⟨_,rfl,Pr.le_of_eq (by rw [hid])⟩,trivial⟩) ?_
 refine ac ?_
 refine wk5 5 7 8 9 65 rfl ?_
 refine Tr.cn rfl ?_ ?_<;>intro h4 q4
 exact absurd h4 AR
 refine ac ?_
 refine ac ?_
 refine Tr.block (Tr.A0 [(5,_),(7,_),(8,_),(9,_),(66,_),(67,_)] (kk6 rfl) (fun k:Nat=>[(68,int ((k:Nat):Int))]) (fun k:Nat=>k≤(z2).length) (fun k:Nat=>(z2).length-k) 0 (Nat.zero_le _) ⟨ke rfl,trivial⟩ ?_)
 rintro k BN
 refine ac ?_
 refine Tr.seq ?_
 refine Tr.cn rfl ?_ ?_<;>intro h5 q5
 have Ae:k<(z2).length:=AJ h5
 obtain ⟨i,Af⟩:=at_ Ae
 refine ac ?_
 refine Tr.seq (Tr.block (Tr.seq (Tr.Bq (co rfl (AB rfl underlying38 BJ (vl rfl) (vl rfl) AA (Ad Af)) ?_))))
 refine ac ?_
 refine ac ?_
 refine co rfl (Bu (QV) rfl rfl rfl) ?_
 refine ac ?_
 refine wk8 5 7 8 9 66 67 68 75 rfl ?_
 refine Tr.cn rfl ?_ ?_<;>intro h6 q6
 have hm:=EV.2 (xl (n:=p1.1.length) (l:=p1.2.1) hn32 (List.mem_of_getElem? Af))
 unfold G2 at hm
 rw [hm] at h6;cases h6
 refine ac ?_
 refine ac ?_
 exact Fin.AL (k+1) ⟨Ae,by omega⟩ ⟨⟨_,rfl,AG k⟩,ke rfl,ke rfl,ke rfl,ke rfl,ke rfl,ke rfl,trivial⟩
 have BC:k=(z2).length:=by have:=AK h5;omega
 refine ac ?_
 refine ac ?_
 refine ac ?_
 refine Tr.block (Tr.B5 3 1 (Tr.J6 [(5,_),(7,_),(8,_),(9,_)] ⟨ke rfl,ke rfl,ke rfl,ke rfl,trivial⟩ (fun (i:Nat) v=>[(16,int ((i:Nat):Int)),(15,Ag v (ints (EI (Dc p1.1.length p1.2.1 z2) i)))]) (fun (i:Nat) v=>Hp M0 w0 S (Ax 3 1 v::DA b1 s2::FJ::Ac M1 w1::rs)) (fun (i:Nat)=>i≤p1.1.length) (fun (i:Nat)=>p1.1.length-i) (0) (.slice none 0 0) (Nat.zero_le _) ⟨ke rfl,⟨_,rfl,Bf rfl⟩,trivial⟩ (fun _ _ h=>h) ?_))
 rintro i v hi0
 refine ac ?_
 refine Tr.cn rfl ?_ ?_<;>intro h7 q7
 have hi:i<p1.1.length:=AJ h7
 have AML:=Yd (Dc p1.1.length p1.2.1 z2) i
 refine ac ?_
 refine ac ?_
 refine co rfl (Bu (QV) rfl rfl rfl) ?_
 refine ac ?_
 refine Tr.cn rfl ?_ ?_<;>intro h8 q8
 have NJ:=sH (b:=(Dc p1.1.length p1.2.1 z2)) (k:=i) (by exact q8)
 refine ao ?_
 refine TO.C1 0 rfl rfl AD (B7 rfl rfl rfl rfl underlying38 BJ IE z3 (Kb rfl) (Kf rfl) (A7 BD (Ka rfl))) (fun v2=> ?_)
 refine ao ?_
 refine wk6 5 7 8 9 15 16 rfl ?_
 refine ac ?_
 exact Fin.K0 (i+1) v2 (⟨by omega,by omega⟩) ⟨⟨_,rfl,AG i⟩,⟨_,rfl,A9 (by rw [NJ,List.map_append];rfl)⟩,ke rfl,ke rfl,ke rfl,ke rfl,trivial⟩ (fun _ _ h=>h)
 have NJ:=xp (b:=(Dc p1.1.length p1.2.1 z2)) (k:=i) (by exact q8)
 refine ac ?_
 refine ac ?_
 exact Fin.K0 (i+1) v (⟨by omega,by omega⟩) ⟨⟨_,rfl,AG i⟩,⟨_,rfl,A9 (by rw [NJ])⟩,ke rfl,ke rfl,ke rfl,ke rfl,trivial⟩ (fun _ _ h=>h)
 obtain rfl:i=p1.1.length:=by have:=AK h7;omega
 refine ac ?_
 refine ac ?_
 refine co rfl (AY rfl (Wa (n:=((p1.1.length:Nat):Int)) (l:=p1.2.1) (s:=EI (Dc p1.1.length p1.2.1 z2) p1.1.length) AA hv AKj) ⟨ke rfl,ke rfl,(Kb rfl),trivial⟩) ?_
 refine ac ?_
 refine wk5 8 9 15 17 18 rfl (Tr.seq ?_)
 have hA:(⟨[],z2,[1,4],[],[]⟩:IM).le 7:=⟨by simp,by show z2.length≤7;omega,by simp,by simp,by simp⟩
 have hC:(⟨[],(Dc p1.1.length p1.2.1 z2),[],[],[2]⟩:IM).le 7:=⟨by simp,by show (Dc p1.1.length p1.2.1 z2).length≤7;omega,by simp,by simp,by simp⟩
 have hE:(⟨EI (Dc p1.1.length p1.2.1 z2) p1.1.length,[],[0,4],[],[]⟩:IM).le 7:=⟨by show (EI (Dc p1.1.length p1.2.1 z2) p1.1.length).length≤7;omega,by simp,by simp,by simp,by simp⟩
 have hX:=WZ hA (WZ hC hE)
 have hit:(G3 (⟨[],z2,[1,4],[],[]⟩:IM) (G3 (⟨[],(Dc p1.1.length p1.2.1 z2),[],[],[2]⟩:IM) (⟨EI (Dc p1.1.length p1.2.1 z2) p1.1.length,[],[0,4],[],[]⟩:IM))).it.length=3:=by show (CU ([1,4]++CU ([]++[0,4]))).length=3;decide+kernel
 refine ao ?_
 refine tp rfl (Au (rows:=[(1,[_]),(2,[_])]) rfl tV TE ⟨⟨rfl,(Vo rfl)⟩,⟨⟨rfl,⟨_,rfl,Pr.le_trans (BF _ _) (AO _)⟩⟩,trivial⟩⟩ rfl) ?_
 refine ao ?_
 refine tp rfl (Au (rows:=[(1,[_]),(4,[_])]) rfl tV TE ⟨⟨rfl,(Vo rfl)⟩,⟨⟨rfl,⟨_,rfl,Pr.le_trans (BF _ _) (AO _)⟩⟩,trivial⟩⟩ rfl) ?_
 refine Tl rfl rfl rfl rfl z48 TE (fun b4=> ?_)
 refine Tl rfl rfl rfl rfl z48 TE (fun b5=> ?_)
 refine sf 1 19 ⟨rfl,rfl,rfl⟩ rfl rfl rfl rfl ?_
 refine sf 0 20 ⟨rfl,rfl,rfl⟩ rfl rfl rfl rfl ?_
 refine ao ?_
 refine wk5 15 17 18 19 20 rfl ?_
 refine ao ?_
 refine tp rfl (Au (rows:=[(2,[_]),(0,[_])]) rfl tV TE ⟨⟨rfl,⟨_,rfl,Pr.le_trans (BF _ _) (AO _)⟩⟩,⟨⟨rfl,⟨_,rfl,Pr.le_trans (At _ _) (AO _)⟩⟩,trivial⟩⟩ rfl) ?_
 refine Tl rfl rfl rfl rfl z48 TE (fun b6=> ?_)
 refine sf 0 21 ⟨rfl,rfl,rfl⟩ rfl rfl rfl rfl ?_
 refine ao ?_
 refine Tr.seq (Tr.pad (Tr.rx ?_))
 refine ax ?_
 refine xo rfl (fun _=>AY rfl (G9 (a:=(⟨[],(Dc p1.1.length p1.2.1 z2),[],[],[2]⟩:IM)) (b:=(⟨EI (Dc p1.1.length p1.2.1 z2) p1.1.length,[],[0,4],[],[]⟩:IM)) (m:=7) (k:=7) hC hE AA) ⟨⟨_,rfl,BP ⟨Dq,E9,Dq,Dq,E9,trivial⟩⟩,⟨_,rfl,BP ⟨E9,Dq,E9,Dq,Dq,trivial⟩⟩,trivial⟩) ?_
 refine xo rfl (fun _=>AY rfl (G9 (a:=(⟨[],z2,[1,4],[],[]⟩:IM)) (b:=G3 (⟨[],(Dc p1.1.length p1.2.1 z2),[],[],[2]⟩:IM) (⟨EI (Dc p1.1.length p1.2.1 z2) p1.1.length,[],[0,4],[],[]⟩:IM)) (m:=7) (k:=14) hA (WZ hC hE) AA) ⟨⟨_,rfl,BP ⟨Dq,E9,E9,Dq,Dq,trivial⟩⟩,ke rfl,trivial⟩) ?_
 refine Cx.ef 0 rfl rfl AD (Ca rfl rfl AD rfl z48 TE) (Cx.C0 0 rfl rfl (C2 rfl rfl rfl rfl (Va rfl) XA rfl rfl) ?_)
 refine Cx.nil ⟨by kernel_rfl,?_⟩
 refine BE.open_ 0 22 rfl rfl (fun v3=> ?_)
 refine BE.done al5 (Fin.Mh 22 0 _ rfl rfl (fun _=>rfl) (fun b7=> ?_))
 refine Fin.go (wk6 17 18 19 20 21 22 rfl (Tr.seq (Tr.pad (Tr.rx ?_))))
 refine ax ?_
 refine xo rfl (fun _=>AY rfl (G9 (a:=(⟨EI (Dc p1.1.length p1.2.1 z2) p1.1.length,[],[0,4],[],[]⟩:IM)) (b:=(⟨[],z2,[1,4],[],[]⟩:IM)) (m:=7) (k:=7) hE hA AA) ⟨⟨_,rfl,BP ⟨E9,Dq,E9,Dq,Dq,trivial⟩⟩,⟨_,rfl,BP ⟨Dq,E9,E9,Dq,Dq,trivial⟩⟩,trivial⟩) ?_
 refine xo rfl (fun _=>Al rfl Tu XA (vl rfl) rfl rfl) ?_
 refine xo rfl (fun _=>AY rfl (G9 (a:=G3 (⟨EI (Dc p1.1.length p1.2.1 z2) p1.1.length,[],[0,4],[],[]⟩:IM) (⟨[],z2,[1,4],[],[]⟩:IM)) (b:=(⟨[],(Dc p1.1.length p1.2.1 z2),[],[],[2]⟩:IM)) (m:=14) (k:=7) (WZ hE hA) hC AA) ⟨ke rfl,⟨_,rfl,BP ⟨Dq,E9,Dq,Dq,E9,trivial⟩⟩,trivial⟩) ?_
 refine Cx.ef 0 rfl rfl AD (Ca rfl rfl AD rfl z48 TE) (Cx.C0 0 rfl rfl (C2 rfl rfl rfl rfl (Va rfl) XA rfl rfl) ?_)
 refine Cx.nil ⟨by kernel_rfl,?_⟩
 refine BE.open_ 0 23 rfl rfl (fun v4=> ?_)
 refine BE.done mo (Fin.Mh 23 0 _ rfl rfl (fun _=>rfl) (fun b8=> ?_))
 refine Fin.go (Tr.seq (Tr.ADS mixed CS (cm rfl (cm rfl ?_))))
 refine Ch.cs 118 rfl ?_ ?_<;>intro h9 q9
 refine OB h9 rfl (cy h9 rfl (ki rfl rfl rfl rfl) (co rfl (Wh rfl rfl h9 rfl) (cm rfl ?_)))
 refine Ch.cs 122 rfl ?_ ?_<;>intro h10 O2
 refine ac ?_
 refine cy h10 rfl (AY rfl (S4 (a:=(G3 (⟨[],z2,[1,4],[],[]⟩:IM) (G3 (⟨[],(Dc p1.1.length p1.2.1 z2),[],[],[2]⟩:IM) (⟨EI (Dc p1.1.length p1.2.1 z2) p1.1.length,[],[0,4],[],[]⟩:IM))))) ⟨ke rfl,⟨_,rfl,Pr.le_of_eq (by rw [jm];rfl)⟩,trivial⟩) ?_
 refine co rfl (Wh rfl rfl h10 rfl) (cm rfl ?_)
 refine Ch.cs 127 rfl ?_ ?_<;>intro h11 Rz
 refine cy h11 rfl (Bi 1 rfl (Fg rfl Tu XA (vl rfl) rfl rfl)) (cy h11 rfl (Bi 1 rfl (Fg rfl Tu XA (vl rfl) rfl rfl)) ?_)
 refine cy h11 rfl (AY rfl (G9 (a:=(G3 (⟨[],z2,[1,4],[],[]⟩:IM) (G3 (⟨[],(Dc p1.1.length p1.2.1 z2),[],[],[2]⟩:IM) (⟨EI (Dc p1.1.length p1.2.1 z2) p1.1.length,[],[0,4],[],[]⟩:IM)))) (b:=(G3 (⟨[],z2,[1,4],[],[]⟩:IM) (G3 (⟨[],(Dc p1.1.length p1.2.1 z2),[],[],[2]⟩:IM) (⟨EI (Dc p1.1.length p1.2.1 z2) p1.1.length,[],[0,4],[],[]⟩:IM)))) (m:=21) (k:=21) hX hX AA) ⟨ke rfl,ke rfl,trivial⟩) ?_
 refine cy h11 rfl (Bi 1 rfl (Fg rfl Tu XA (vl rfl) rfl rfl)) ?_
 refine cy h11 rfl (AY rfl (S4 (a:=(G3 (⟨[],z2,[1,4],[],[]⟩:IM) (G3 (⟨[],(Dc p1.1.length p1.2.1 z2),[],[],[2]⟩:IM) (⟨EI (Dc p1.1.length p1.2.1 z2) p1.1.length,[],[0,4],[],[]⟩:IM))))) ⟨⟨_,rfl,Pr.le_of_eq (by rw [jq])⟩,ke rfl,trivial⟩) ?_
 refine co rfl (Wh rfl rfl h11 rfl) (cm rfl ?_)
 refine Ch.cs 134 rfl ?_ ?_<;>intro h12 TN
 refine cy h12 rfl (BU rfl lq (vl rfl)) (cy h12 rfl (Bi 1 rfl (AW rfl dL (vl rfl) rfl)) (cy h12 rfl (E_ rfl underlying22 (vl rfl)) (cy h12 rfl (ki rfl rfl rfl rfl) (co rfl (Wh rfl rfl h12 rfl) (cm rfl ?_)))))
 refine Ch.cs 140 rfl ?_ ?_<;>intro J8 Vs
 refine cy J8 rfl (kc0 (Un) rfl) ?_
 refine ac ?_
 refine Tr.drop 0 (Tr.drop 0 (wk1 2 rfl (Tr.ret (Fin.drop 0 (Fin.drop 0 (Fin.ER rfl rfl ?_ (fun _ _ _ _=>rfl)))))))
 · exact Lr
 exfalso;have:=Vs;omega
 exact absurd h12 AR
 exact absurd h11 AR
 exact absurd h10 AR
 rw [AKk] at h9;cases h9
end Go.Proofs.YteomgekmipcdpaaGreatDoor
namespace Go.Proofs.YteomgekmipcdpaaGreatDoor
open Go Go.RowKit Cp Go.ChangeShapes Go.WideShapes Go.ChangeAt Go.Proofs.Tryz
theorem AKl : Tryz.prog.globalNamed "math/bits.deBruijn32tab" = some 0 := by kernel_rfl
theorem AKm:(Tryz.prog.globals[0]?).map (·.type)=some 264:=by kernel_rfl
theorem s8 (os : Os) (args : Array Value) : laidMetH Tryz.prog [("math/bits.deBruijn32tab", Rows.laid_math_bits_deBruijn32tab)] ((World.doorLaid Tryz.prog 14 os).forCall (fun _ _ => 0) ⟨#[], args, []⟩).memory :=
 laidMetH_of_parts3 (fuel:=33) (laidMet_of_run' 33 CS CS) CS CS
theorem ACE {W : World} (h : laidMetH Tryz.prog [("math/bits.deBruijn32tab", Rows.laid_math_bits_deBruijn32tab)] W) : FJ.h noM W := by
 rw [MakeChecks.laidMetH_plain _ _ _ CS] at h
 obtain ⟨ps,⟨g0,t0,cs0,f0,p0,q0,hg0,ht0,jy,hd0,_⟩,_⟩:=h
 obtain rfl:=Option.some.inj (AKl.symm.trans hg0)
 obtain rfl:=Option.some.inj (AKm.symm.trans ht0)
 obtain ⟨xs,m,rfl,hx,hlen,hn,hel⟩:=DataW.trod_array Tryz.underlying264 hd0
 have c1:Tryz.prog.cellsOf 5=1:=by kernel_rfl
 have hx1:Rows.laid_math_bits_deBruijn32tab=DataW.agg (xs.map (·.1)):=(Prod.mk.inj hx).1
 have hx2:xs.map (·.1)=Xw.map fun n:Nat=>DataW.lit (.int .u8 (n:Int)):=by
  have h3:(Rows.laid_math_bits_deBruijn32tab:DataW Unit)=DataW.agg (Xw.map fun n:Nat=>DataW.lit (.int .u8 (n:Int))):=rfl
  exact (DataW.agg.inj (hx1.symm.trans h3))
 intro j n hj
 refine ⟨?_,fun h=>h⟩
 have AKn:j<32:=by
  rcases Nat.lt_or_ge j 32 with h|h
  · exact h
  · rw [List.getElem?_eq_none h] at hj;cases hj
 have h4:=hel j AKn
 rw [c1,Nat.mul_one] at h4
 obtain ⟨y,hy⟩:=at_ (l:=xs) (k:=j) AA
 rw [hy] at h4
 obtain ⟨k,e1,e2,_⟩:=DataW.trod_int Tryz.underlying5 h4
 have h5:(xs.map (·.1))[j]? =some (DataW.lit (.int .u8 (n:Int))):=by rw [hx2,List.getElem?_map,hj];rfl
 rw [List.getElem?_map,hy] at h5
 have hk:k=(n:Int):=by
  have h6:y.1=DataW.lit (.int .u8 (n:Int)):=Option.some.inj h5
  rw [e2] at h6
  simpa using h6
 have h7:=World.var?_cell hg0 jy j
 have h8:cs0.toList[j]? =some (.int .u8 k):=by
  have h9:=congrArg (fun l:List Value=>l[0]?) e1
  simpa using h9
 rw [hk] at h8
 have h10:cs0[j]? =some (.int .u8 (n:Int)):=by rw [←Array.getElem?_toList];exact h8
 rw [h10] at h7
 exact h7
theorem LZ (os:Os) (started:os.Started) (H:Type) (enc:TypeId×Value→H):
  ReturnsInHanded {} Tryz.checked os 3 .any (fun w args => (Rows.reopenBehindSpec.pre enc Tryz.prog Tryz.f3 [] false w args ∧ laidMetH Tryz.prog [("math/bits.deBruijn32tab", Rows.laid_math_bits_deBruijn32tab)] w) ∧ sizedMet enc Tryz.prog Tryz.f3 (OpenSpec.ofChange Rows.reopenBehindSpec) false w args) (Rows.reopenBehindSpec.post enc Tryz.prog Tryz.f3 false true false false) := by
 refine returnsInHanded_of_change_and (C := Tryz.checked) (X := fun w _ => laidMetH Tryz.prog [("math/bits.deBruijn32tab", Rows.laid_math_bits_deBruijn32tab)] w) (fun _ _ _ hh h => h.of_heap hh) AJs started CS Tryz.func3
  (ChangeSpec.witness_shaped (enc := enc) (C := Tryz.checked) (os := os) (X := fun w _ => laidMetH Tryz.prog [("math/bits.deBruijn32tab", Rows.laid_math_bits_deBruijn32tab)] w) false (World.doorLaid Tryz.prog 14 os) #[.slice none 0 0] 8 rfl (World.shaped_of_RefB CS CS) CS CS CS (s8 os _)) ?_
 intro W base args ds gs before AGm hW AMM _ hL _
 have hval:∀(j:Nat) t v,Tryz.f3.params[j]? =some t→args[j]? =some v→Value.okWide Tryz.prog W .any base t v:=AGm
 have hW':=hW
 obtain ⟨p,q,hA0,hV,hpq,hfz,hnd⟩:=hW
 have hA:DataW.TrodAll enc Tryz.prog W 0 (fun _=>true) true Tryz.f3.params.toList args.toList ds p:=hA0
 have hA':=hA
 rw [Tryz.params3] at hA hval
 obtain ⟨v0,d0,rfl,rfl,h0⟩:=trodAll_one hA'
 obtain ⟨rfl,rfl⟩:=trodVars_none hV
 obtain ⟨a0,_,e0⟩:=tQ (Zj Tryz.underlying22 Tryz.underlying3 CS) h0 (by obtain ⟨_,_,_,rfl⟩:=okWide_slice Tryz.underlying22 (hval 0 22 v0 rfl rfl);rfl)
 refine (Ba.wz (S6) rfl W [v0] (ACE hL) ⟨e0,trivial⟩).mono fun e W' ⟨v,he,hv,hb⟩=> ?_
 subst he
 obtain rfl:v= .bool true:=hv
 exact ⟨_,rfl,lP nF CS rfl Tryz.underlying4 rfl hA' (by rw [hpq];simp) hW' rfl hb⟩
theorem La:(Rows.reopenBehindRow.inPlace==Tryz.pinned.checked.prog.inPlace 3)=true:=by kernel_rfl
theorem Lb:(Rows.reopenBehindRow.unfollowed==Tryz.pinned.checked.prog.unfollowed 3)=true:=by kernel_rfl
theorem Lc:(Rows.reopenBehindRow.recurses==Tryz.pinned.checked.prog.recurses 3)=true:=by kernel_rfl
theorem Ld:(Rows.reopenBehindRow.named==Tryz.pinned.checked.prog.varsNamed 3)=true:=by kernel_rfl
theorem Mg:joinedFacts Tryz.pinned.checked.prog 3 Tryz.f3 Rows.reopenBehindSpec Rows.reopenBehindRow=true:=by
 unfold joinedFacts
 rw [La,Lb,Lc,Ld]
 kernel_rfl
theorem reopenBehind_holds:Rows.ReopenBehindSaid:=
 OpenClaim.holds_of_wide 3 Tryz.f3 rfl rfl rfl rfl rfl rfl rfl ⟨rfl, rfl, rfl, rfl, rfl⟩ rfl rfl rfl rfl rfl CS Tryz.func3 Mg
  (of_decide_eq_true CS) (by unfold Func.isWrapper;first|(rw [if_pos (by decide+kernel)];kernel_rfl)|(rw [if_neg (by decide+kernel)];exact ⟨rfl,rfl⟩))
  (fun os started H enc _=>LZ os started H enc)
theorem Pa:Rows.reopenBehindRow.wfByText (OpenSpec.ofChange Rows.reopenBehindSpec)=true:=by kernel_rfl
theorem Pb:Tryz.pinned.checked.prog.mainIs=some (Rows.reopenBehindCard.stood.harness.1,Rows.reopenBehindCard.stood.harness.2.toList):=by kernel_rfl
theorem Pc : Tryz.prog.funcNamed "cipherplan/cipherplanlaw39.ReopenBehind" = some 3 := by kernel_rfl
theorem Pf:false=Tryz.pinned.checked.prog.looks []:=by kernel_rfl
theorem Pg:false=Rows.reopenBehindRow.goesBy Tryz.pinned.checked.prog:=by kernel_rfl
theorem Ph:([22].all fun u=> !Tryz.prog.wantsStandIn u)=true:=by kernel_rfl
theorem reopenBehind_card_holds:Rows.ReopenBehindCardSaid:=
 Claim7.holds_tied_plain_at .later [] [.data] true Rows.reopenBehindCard.stood.harness false reopenBehind_holds (fun _ h => by cases h) Pa (fun _ h => by cases h) reopenBehind_row_tie rfl ⟨rfl, rfl⟩ Pb rfl
  (fun f fn hf hfn=>by
   obtain rfl:f=3:=Option.some.inj (Pc.symm.trans hf)|>.symm
   obtain rfl:fn=Tryz.f3:=(Option.some.inj (Tryz.func3.symm.trans hfn)).symm
   exact ⟨Pf,fun j t ht=>by
    rw [Tryz.params3] at ht
    have hm:t∈[22]:=by simpa using Array.mem_of_getElem? ht
    exact (show Tryz.prog.wantsStandIn t=false by simpa using List.all_eq_true.1 Ph t hm)⟩)
  Pg
end Go.Proofs.YteomgekmipcdpaaGreatDoor
