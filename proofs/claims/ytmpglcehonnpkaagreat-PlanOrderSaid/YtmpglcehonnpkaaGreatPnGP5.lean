/-
  Part 5 of the texts that prove this claim, merged.
-/
import Derived.RangeFuncFrom
import Derived.RangeFuncLeaves
import Derived.OrdersIn
import Derived.Test.YtmpglcehonnpkaaGreatPnGP4
set_option linter.all false
set_option maxRecDepth 40000
set_option maxHeartbeats 16000000
namespace Go.Proofs.YtmpglcehonnpkaaGreat
open Go Go.RowKit Cp Go.Proofs.Tryz
theorem L3 {t d x:Int} {room:Nat→Bool}:∀{l:List HX} {i:Nat},DM t d room i l=some x→Ph l→(∀w∈l,0≤w.lo∧w.lo<w.hi)→
  d≤x∧(∃(j:Nat) (w:HX),l[j]? =some w∧DL x w=true∧w.AZ.any (fun y=>t==y)=true∧room (i+j)=true)∧∀k,d≤k→k<x→∀(j:Nat) (w:HX),l[j]? =some w→DL k w=true→¬(w.AZ.any (fun y=>t==y)=true∧room (i+j)=true)
 |[],_,h,_,_=>by cases h
 |a::l,i,h,hp,hw=>by
  have ha:=hw a (by simp)
  unfold DM at h
  split at h
  ·
   rename_i hc
   simp only [Option.some.injEq] at h
   subst h
   refine ⟨by omega,⟨0,a,rfl,ia (by omega),hc.2.1,hc.2.2⟩,fun k hk hx j w hj hin=> ?_⟩
   have:=Nv hin
   match j with
   |0=>simp at hj;subst hj;omega
   |j+1=>
    have h1:=(List.pairwise_cons.1 hp).1 w (List.mem_of_getElem? (by simpa using hj))
    omega
  ·
   rename_i hc
   obtain ⟨h1,⟨j,w,hj,h2,h3,h5⟩,h4⟩:=L3 h (List.pairwise_cons.1 hp).2 (fun w hm=>hw w (List.mem_cons_of_mem _ hm))
   refine ⟨h1,⟨j+1,w,by simpa using hj,h2,h3,by rw [show i+(j+1)=i+1+j by omega];exact h5⟩,fun k hk hx j u hu hin=> ?_⟩
   match j with
   |0=>
    simp at hu;subst hu
    have:=Nv hin
    exact fun h=>hc ⟨by omega,h.1,h.2⟩
   |j+1=>
    have:=h4 k hk hx j u (by simpa using hu) hin
    rwa [show i+(j+1)=i+1+j by omega]
def A9.K5 (c:A9) (l:List (Int×Int)) (t k:Int):Bool:=c.may t k&&decide ((c.cnt l ((c.at k).toNat*8+t.toNat):Int)<c.Jl t)
theorem fD {c:A9} {l:List (Int×Int)} {t k:Int} (h:c.own=0):c.K5 l t k=true↔∃(j:Nat) (w:HX),c.Be[j]? =some w∧DL k w=true∧w.AZ.any (fun y=>t==y)=true∧c.free l t j=true:=by
 unfold A9.K5
 rw [Bool.and_eq_true,e_ h,decide_eq_true_eq]
 constructor
 ·
  rintro ⟨⟨w,hw,h1,h2⟩,h3⟩
  obtain ⟨j,hj⟩:=List.mem_iff_getElem?.1 hw
  refine ⟨j,w,hj,h1,h2,?_⟩
  rw [Zz h hj h1,Int.toNat_natCast] at h3
  simpa [A9.free] using h3
 ·
  rintro ⟨j,w,hj,h1,h2,h3⟩
  refine ⟨⟨w,List.mem_of_getElem? hj,h1,h2⟩,?_⟩
  rw [Zz h hj h1,Int.toNat_natCast]
  simpa [A9.free] using h3
theorem Z1 {c:A9} {a b:List Int} {t k:Int} (hf:c.Cw a b []=0) (PW:a.length<24) (ht:c.has t=true):decide (c.Cw (a++[t]) (b++[k]) []=0)=c.K5 (a.zip b) t k:=by
 have Xu:=F2 hf
 have ho:=FI Xu
 obtain ⟨hl,_⟩:=Ki Xu
 have ht8:=Zo ho ht
 rw [Bool.eq_iff_iff,decide_eq_true_eq,A9.K5,Bool.and_eq_true,decide_eq_true_eq]
 constructor
 ·
  intro h
  have h0:=F2 h
  have hm:=Nx h0
  rw [Kj hl,List.all_append,Bool.and_eq_true] at hm
  have hm1:c.may t k=true:=by simpa using hm.2
  refine ⟨hm1,?_⟩
  unfold A9.Cw at h
  rw [if_neg (not_not_intro h0)] at h
  have hno:¬c.over ((a++[t]).zip (b++[k])):=by intro hh;rw [if_pos hh] at h;cases h
  have hat:=Zn hm1
  have hai:(c.at k).toNat<c.Be.length:=by have:=(Pf (DL k) c.Be).2;unfold A9.at at*;omega
  have hr:=(Nu ht).2
  rcases Int.lt_or_le (c.cnt (a.zip b) ((c.at k).toNat*8+t.toNat)) (c.Jl t) with h5|h5
  · exact h5
  ·
   refine absurd ⟨(c.at k).toNat,t.toNat,c.Jl t,hai,hr,?_⟩ hno
   rw [Kj hl,Kh,if_pos (by omega)]
   omega
 ·
  rintro ⟨h1,h2⟩
  exact Wy hf PW ht h1 h2
structure BS where
 fst:Int
 thn:Int
 deriving DecidableEq
def Ef (a b:BS):Bool:=if a.fst=b.fst then decide (a.thn<b.thn) else decide (a.fst<b.fst)
def FV (n:Int) (r:BS):Bool:=decide (r.fst<0∨r.thn<0∨n≤r.fst∨n≤r.thn∨r.fst=r.thn)
def L4 (l:List BS) (a b:Nat):Bool:=l.any fun r=>decide (r.fst=(a:Int))&&decide (r.thn=(b:Int))
def N1 (k:Nat) (m:Nat→Nat→Bool) (a b:Nat):Bool:=m a b||(m a k&&m k b)
def Dw (l:List BS):Nat→Nat→Nat→Bool
 |0=>L4 l
 |k+1=>N1 k (Dw l k)
theorem Pj {l:List BS} {a b:Nat} (h:L4 l a b=true):∀k,Dw l k a b=true
 |0=>h
 |k+1=>by show (_||_)=true;rw [Pj h k];rfl
theorem N2 {l:List BS}:∀(k:Nat) {a b c:Nat},c<k→Dw l k a c=true→Dw l k c b=true→Dw l k a b=true
 |0,_,_,_,h,_,_=>absurd h (by omega)
 |k+1,a,b,c,h,h1,h2=>by
  have ih:= @N2 l k
  simp only [Dw,N1,Bool.or_eq_true,Bool.and_eq_true] at h1 h2 ⊢
  rcases Nat.lt_or_ge c k with hc|hc
  ·
   rcases h1 with h1|⟨h1,h3⟩<;>rcases h2 with h2|⟨h2,h4⟩
   · exact .inl (ih hc h1 h2)
   · exact .inr ⟨ih hc h1 h2,h4⟩
   · exact .inr ⟨h1,ih hc h3 h2⟩
   · exact .inr ⟨h1,h4⟩
  ·
   obtain rfl:c=k:=by omega
   refine .inr ⟨?_,?_⟩
   · rcases h1 with h1|⟨h1,_⟩<;>exact h1
   · rcases h2 with h2|⟨_,h2⟩<;>exact h2
def He (k:Nat) (m:Nat→Nat→Bool) (i j a b:Nat):Bool:=if a<i∨(a=i∧b<j) then N1 k m a b else m a b
theorem Z2 (k:Nat) (m:Nat→Nat→Bool) (a:Nat):N1 k m a k=m a k:=by unfold N1;cases m a k<;>simp
theorem Z3 (k:Nat) (m:Nat→Nat→Bool) (b:Nat):N1 k m k b=m k b:=by unfold N1;cases m k b<;>cases m k k<;>simp
theorem fE (k:Nat) (m:Nat→Nat→Bool) (i j a:Nat):He k m i j a k=m a k:=by unfold He;split;exact Z2 k m a;rfl
theorem fF (k:Nat) (m:Nat→Nat→Bool) (i j b:Nat):He k m i j k b=m k b:=by unfold He;split;exact Z3 k m b;rfl
def Q1 (m:Nat→Nat→Bool) (i j a b:Nat):Bool:=if a=i∧b=j then true else m a b
theorem fG {k:Nat} {m:Nat→Nat→Bool} {i j:Nat} (h1:m i k=true) (h2:m k j=true):Q1 (He k m i j) i j=He k m i (j+1):=by
 funext a b
 unfold Q1 He
 by_cases h:a=i∧b=j
 ·
  obtain ⟨rfl,rfl⟩:=h
  rw [if_pos ⟨rfl,rfl⟩,if_pos (by omega)];unfold N1;rw [h1,h2];simp
 ·
  rw [if_neg h]
  by_cases h3:a<i∨(a=i∧b<j)
  · rw [if_pos h3,if_pos (by omega)]
  · rw [if_neg h3,if_neg (by omega)]
theorem Z4 {k:Nat} {m:Nat→Nat→Bool} {i j:Nat} (h:(m i k&&m k j)=false):He k m i j=He k m i (j+1):=by
 funext a b
 unfold He
 by_cases h3:a<i∨(a=i∧b<j)
 · rw [if_pos h3,if_pos (by omega)]
 ·
  rw [if_neg h3]
  by_cases h4:a<i∨(a=i∧b<j+1)
  ·
   obtain ⟨rfl,rfl⟩:a=i∧b=j:=by omega
   rw [if_pos h4];unfold N1;rw [h];simp
  · rw [if_neg h4]
theorem sI (k:Nat) (m:Nat→Nat→Bool):He k m 0 0=m:=by funext a b;unfold He;rw [if_neg (by omega)]
def Z5 (n:Nat) (m m':Nat→Nat→Bool):Prop:=∀a b,a<n→b<n→m a b=m' a b
theorem Z6 {n k:Nat} {m:Nat→Nat→Bool} {i:Nat}:Z5 n (He k m i n) (He k m (i+1) 0):=by
 intro a b _ hb
 unfold He
 by_cases h:a<i∨(a=i∧b<n)
 · rw [if_pos h,if_pos (by omega)]
 · rw [if_neg h,if_neg (by omega)]
theorem fH {n k:Nat} {m:Nat→Nat→Bool}:Z5 n (He k m n 0) (N1 k m):=by
 intro a b ha _
 unfold He;rw [if_pos (by omega)]
def sJ (n:Nat) (l:List BS):Bool:=(List.range n).any fun i=>Dw l n i i
def DE:List BS→Bool
 |[]=>true
 |[_]=>true
 |a::b::l=>Ef a b&&DE (b::l)
def Bf (n:Int) (l:List BS):Int:=
 if n<0∨24<n then 2 else if l.any (FV n) then 44 else if DE l=false then 6 else if sJ n.toNat l then 45 else 0
theorem Z7 {R:Nat→Nat→Prop} (hi:∀a,¬R a a) (ht:∀a b c,R a b→R b c→R a c):∀{L:List Nat},L≠[]→(∀a b,a∈L→b∈L→R a b∨¬R a b)→∃x∈L,∀y∈L,¬R y x
 |[],h,_=>absurd rfl h
 |[x],_,_=>⟨x,by simp,fun y hy=>by simp at hy;subst hy;exact hi _⟩
 |x::y::l,_,hd=>by
  obtain ⟨z,hz,hm⟩:=Z7 hi ht (L:=y::l) (by simp) (fun a b ha hb=>hd a b (List.mem_cons_of_mem _ ha) (List.mem_cons_of_mem _ hb))
  rcases hd x z (by simp) (List.mem_cons_of_mem _ hz) with h|h
  ·
   refine ⟨x,by simp,fun w hw=> ?_⟩
   rcases List.mem_cons.1 hw with rfl|hw
   · exact hi _
   · exact fun h2=>hm w hw (ht _ _ _ h2 h)
  ·
   refine ⟨z,List.mem_cons_of_mem _ hz,fun w hw=> ?_⟩
   rcases List.mem_cons.1 hw with rfl|hw
   · exact h
   · exact hm w hw
def Jo (s:List Int) (n:Int):Bool:=s.any fun x=>n==x
theorem FJ {s:List Int} {n:Int}:Jo s n=true↔n∈s:=by unfold Jo;rw [List.any_eq_true];exact ⟨fun ⟨x,h,h2⟩=>by simp at h2;subst h2;exact h,fun h=>⟨n,h,by simp⟩⟩
def FC (l:List BS) (s:List Int):Bool:=l.all fun r=> !(Jo s r.thn)||Jo s r.fst
theorem Gc {l:List BS} {s:List Int}:FC l s=true↔∀r∈l,r.thn∈s→r.fst∈s:=by
 unfold FC;rw [List.all_eq_true]
 refine forall_congr' fun r=>forall_congr' fun _=> ?_
 rw [Bool.or_eq_true,Bool.not_eq_true',←FJ,←FJ]
 cases Jo s r.thn<;>simp
def Cd (n:Int) (has:Bool) (p:List Int×Bool) (x:Int):List Int×Bool:=
 if x=n then (if has=true∧p.2=false∧n<x then (p.1++[n],true) else p) else if has=true∧p.2=false∧n<x then (p.1++[n]++[x],true) else (p.1++[x],p.2)
def wall (n:Int) (has:Bool) (s:List Int):List Int×Bool:=s.foldl (Cd n has) ([],false)
def Eg (s:List Int) (n:Int) (has:Bool):List Int:=if has=true∧(wall n has s).2=false then (wall n has s).1++[n] else (wall n has s).1
theorem Wz (n:Int) (has:Bool) (s:List Int) (x:Int):wall n has (s++[x])=Cd n has (wall n has s) x:=by unfold wall;rw [List.foldl_append];rfl
theorem SK {n:Int} {has:Bool} {x:Int}:∀{s:List Int} {p:List Int×Bool},(x∈(s.foldl (Cd n has) p).1∧x≠n)↔((x∈p.1∨x∈s)∧x≠n)
 |[],p=>by simp
 |y::s,p=>by
  rw [List.foldl_cons,SK]
  unfold Cd
  by_cases h1:x=n
  · subst h1;simp
  ·
   repeat' split
   all_goals (try subst y);simp [h1,or_assoc]
theorem SL {n:Int} {has:Bool}:∀{s:List Int} {p:List Int×Bool},(p.2=true→n∈p.1)→(p.2=false→n∉p.1)→(((s.foldl (Cd n has) p).2=true→n∈(s.foldl (Cd n has) p).1)∧((s.foldl (Cd n has) p).2=false→n∉(s.foldl (Cd n has) p).1))
 |[],p,h,h'=>⟨h,h'⟩
 |y::s,p,h,h'=>by
  rw [List.foldl_cons]
  apply SL
  ·
   unfold Cd;intro h2
   repeat' split at h2
   all_goals (repeat' split)<;>simp_all
  ·
   unfold Cd;intro h2
   repeat' split at h2
   all_goals (repeat' split)<;>simp_all<;>omega
theorem Fi {s:List Int} {n x:Int}:x∈Eg s n true↔x=n∨x∈s:=by
 have hm:=SK (n:=n) (has:=true) (x:=x) (s:=s) (p:=([],false))
 have hp:=SL (n:=n) (has:=true) (s:=s) (p:=([],false)) (by simp) (by simp)
 unfold Eg wall
 by_cases hx:x=n
 ·
  subst hx
  split
  next=>simp
  next h=>simp only [true_and,Bool.not_eq_false] at h;simp [hp.1 h]
 ·
  split
  next=>simp [hx] at hm ⊢;exact hm
  next=>simp [hx] at hm ⊢;exact hm
theorem N3 {n:Int} {has:Bool}:∀{s:List Int} {p:List Int×Bool},(s.foldl (Cd n has) p).1.length+(if (s.foldl (Cd n has) p).2 then 0 else 1)≤p.1.length+(if p.2 then 0 else 1)+s.length
 |[],p=>Nat.le_refl _
 |y::s,p=>by
  rw [List.foldl_cons]
  refine Nat.le_trans N3 ?_
  unfold Cd
  repeat' split
  all_goals (simp_all<;>omega)
theorem LO (s:List Int) (n:Int) (has:Bool):(Eg s n has).length≤s.length+1:=by
 have h:=N3 (n:=n) (has:=has) (s:=s) (p:=([],false))
 unfold Eg wall
 split
 next h2=>rw [h2.2] at h;simp at h ⊢;omega
 next h2=>revert h;split<;>simp<;>omega
def Q2 (l:List BS) (s:List Int) (add:Bool) (i:Nat):Bool:=(Jo s i !=add)&&FC l (Eg s i add)
def F4 (n:Nat) (l:List BS) (s:List Int) (add:Bool):List Int:=((List.range n).filter (Q2 l s add)).map fun i:Nat=>(i:Int)
theorem EE {n:Int} {l:List BS} (h:Bf n l=0):(0≤n∧n≤24)∧(∀r∈l,FV n r=false)∧DE l=true∧∀i,i<n.toNat→Dw l n.toNat i i=false:=by
 unfold Bf at h
 split at h
 · cases h
 next h1=>
 split at h
 · cases h
 next h2=>
 split at h
 · cases h
 next h3=>
 split at h
 · cases h
 next h4=>
 refine ⟨by omega,fun r hr=> ?_,by simpa using h3,fun i hi=> ?_⟩
 ·
  cases hb:FV n r with
  |false=>rfl
  |true=>exact absurd (List.any_eq_true.2 ⟨r,hr,hb⟩) h2
 ·
  cases hb:Dw l n.toNat i i with
  |false=>rfl
  |true=>exact absurd (show (List.range n.toNat).any (fun i=>Dw l n.toNat i i)=true from List.any_eq_true.2 ⟨i,List.mem_range.2 hi,hb⟩) h4
theorem lP {n:Int} {l:List BS} {s:List Int} {i:Nat} (h:Bf n l=0) (hc:FC l s=true) (hi:i<n.toNat) (hn:(i:Int)∉s):F4 n.toNat l s true≠[]:=by
 obtain ⟨h1,h2,_,h4⟩:=EE h
 have hU:(List.range n.toNat).filter (fun k:Nat=> !Jo s k)≠[]:=by
  intro he
  have:i∈(List.range n.toNat).filter (fun k:Nat=> !Jo s k):=List.mem_filter.2 ⟨List.mem_range.2 hi,by rw [Bool.not_eq_true'];cases hb:Jo s i with|false=>rfl|true=>exact absurd (FJ.1 hb) hn⟩
  rw [he] at this;cases this
 obtain ⟨x,hx,hm⟩:=Z7 (R:=fun a b=>a<n.toNat∧b<n.toNat∧Dw l n.toNat a b=true) (fun a ha=>by have:=h4 a ha.1;rw [ha.2.2] at this;cases this) (fun a b c ⟨g1,g2,g3⟩ ⟨_,g4,g5⟩=>⟨g1,g4,N2 _ g2 g3 g5⟩) hU (fun a b _ _=>Classical.em _)
 obtain ⟨hx1,hx2⟩:=List.mem_filter.1 hx
 rw [List.mem_range] at hx1
 have hx3:(x:Int)∉s:=fun h=>by rw [FJ.2 h] at hx2;cases hx2
 intro he
 have:((x:Nat):Int)∈F4 n.toNat l s true:=by
  unfold F4
  refine List.mem_map.2 ⟨x,List.mem_filter.2 ⟨List.mem_range.2 hx1,?_⟩,rfl⟩
  unfold Q2
  rw [Bool.and_eq_true]
  refine ⟨by cases hb:Jo s x with|false=>rfl|true=>exact absurd (FJ.1 hb) hx3,Gc.2 fun r hr ht=> ?_⟩
  rw [Fi] at ht ⊢
  by_cases hf:r.fst=x
  · exact .inl hf
  right
  rcases ht with ht|ht
  ·
   have hb:=h2 r hr
   unfold FV at hb
   simp only [decide_eq_false_iff_not] at hb
   by_cases hs:r.fst∈s
   · exact hs
   exfalso
   refine hm r.fst.toNat (List.mem_filter.2 ⟨List.mem_range.2 (by omega),?_⟩) ⟨by omega,hx1,Pj (List.any_eq_true.2 ⟨r,hr,?_⟩) _⟩
   ·
    rw [show ((r.fst.toNat:Nat):Int)=r.fst by omega,Bool.not_eq_true']
    cases RH:Jo s r.fst with
    |false=>rfl
    |true=>exact absurd (FJ.1 RH) hs
   · rw [Bool.and_eq_true,decide_eq_true_eq,decide_eq_true_eq];omega
  · exact Gc.1 hc r hr ht
 rw [he] at this;cases this
theorem Mo:∀{L M:List Int},L.Nodup→(∀x∈L,x∈M)→L.length≤M.length
 |[],_,_,_=>Nat.zero_le _
 |x::L,M,hn,hs=>by
  rw [List.nodup_cons] at hn
  have h:=Mo (L:=L) (M:=M.erase x) hn.2 (fun y hy=>(List.mem_erase_of_ne (fun e=>hn.1 (by rw [←e];exact hy))).2 (hs y (List.mem_cons_of_mem _ hy)))
  have hx:=hs x (by simp)
  rw [List.length_erase_of_mem hx] at h
  have:=List.length_pos_of_mem hx
  simp;omega
structure LP (n:Int) (l:List BS) (out done:List Int):Prop where
 mem:∀x,x∈done↔x∈out
 nd:out.Nodup
 Q3:∀x∈out,0≤x∧x<n
 cl:FC l done=true
 lQ:∀(k:Nat) x,out[k]? =some x→∀r∈l,r.thn=x→r.fst∈out.take k
theorem LP.nil {n:Int} {l:List BS}:LP n l [] []:=⟨fun x=>Iff.rfl,List.nodup_nil,(fun x h=>by cases h),(Gc.2 fun r _ h=>by cases h),(fun k x h=>by simp at h)⟩
theorem LP.len {n:Int} {l:List BS} {out done:List Int} (h:LP n l out done):out.length≤n.toNat:=by
 have:=Mo (L:=out) (M:=(List.range n.toNat).map fun i:Nat=>(i:Int)) h.nd (fun x hx=>by have:=h.Q3 x hx;exact List.mem_map.2 ⟨x.toNat,List.mem_range.2 (by omega),by omega⟩)
 simpa using this
theorem LP.bes {n:Int} {l:List BS} {out done:List Int} (h:LP n l out done) (hv:Bf n l=0) (hl:out.length<n.toNat):∃x,(F4 n.toNat l done true)[0]? =some x∧LP n l (out++[x]) (Eg done x true):=by
 have hex:∃i,i<n.toNat∧(i:Int)∉out:=by
  refine Classical.byContradiction fun hne=> ?_
  have hall:∀i,i<n.toNat→(i:Int)∈out:=fun i hi=>Classical.byContradiction fun hh=>hne ⟨i,hi,hh⟩
  have hnd:((List.range n.toNat).map fun i:Nat=>(i:Int)).Nodup:=by
   refine List.Pairwise.map _ (fun a b hab=> ?_) (List.nodup_range (n:=n.toNat))
   intro e;apply hab;omega
  have:=Mo hnd (M:=out) (fun x hx=>by
   obtain ⟨i,hi,rfl⟩:=List.mem_map.1 hx
   exact hall i (List.mem_range.1 hi))
  simp at this;omega
 obtain ⟨i,hi,hio⟩:=hex
 have hne:=lP hv h.cl hi (fun hh=>hio ((h.mem _).1 hh))
 obtain ⟨x,hx⟩:=at_ (l:=F4 n.toNat l done true) (k:=0) (List.length_pos_iff.2 hne)
 refine ⟨x,hx,?_⟩
 obtain ⟨j,hj,rfl⟩:=List.mem_map.1 (List.mem_of_getElem? hx)
 obtain ⟨kJ,hj2⟩:=List.mem_filter.1 hj
 rw [List.mem_range] at kJ
 unfold Q2 at hj2
 rw [Bool.and_eq_true] at hj2
 have hjd:(j:Int)∉done:=fun hh=>by rw [FJ.2 hh] at hj2;exact absurd hj2.1 (by decide)
 have hjo:(j:Int)∉out:=fun hh=>hjd ((h.mem _).2 hh)
 refine ⟨fun y=> ?_,?_,fun y hy=> ?_,hj2.2,fun k y hk r hr ht=> ?_⟩
 · rw [Fi,h.mem,List.mem_append,List.mem_singleton];exact Or.comm
 ·
  rw [List.nodup_append]
  exact ⟨h.nd,by simp,fun a ha b hb=>by simp at hb;subst hb;intro e;subst e;exact hjo ha⟩
 ·
  rcases List.mem_append.1 hy with hy|hy
  · exact h.Q3 y hy
  · simp at hy;subst hy;omega
 ·
  rcases Nat.lt_or_ge k out.length with hlt|hge
  ·
   rw [List.getElem?_append_left hlt] at hk
   rw [List.take_append_of_le_length (by omega)]
   exact h.lQ k y hk r hr ht
  ·
   have hk2:k=out.length:=by
    rcases Nat.lt_or_ge k (out++[(j:Int)]).length with hh|hh
    · simp at hh;omega
    · rw [List.getElem?_eq_none hh] at hk;cases hk
   subst hk2
   rw [List.getElem?_append_right (Nat.le_refl _)] at hk
   simp at hk;subst hk
   rw [List.take_left]
   have jR:=Gc.1 hj2.2 r hr (Fi.2 (.inl ht))
   rcases Fi.1 jR with he|hm
   ·
    obtain ⟨_,g2,_,_⟩:=EE hv
    have hb:=g2 r hr
    unfold FV at hb
    simp only [decide_eq_false_iff_not] at hb
    omega
   · exact (h.mem _).1 hm
def Di (l:List BS) (r:BS):Nat:=(l.takeWhile fun x=>Ef x r).length
def E7 (l:List BS) (r:BS):List BS:=if l[Di l r]? =some r then l else l.take (Di l r)++[r]++l.drop (Di l r)
theorem Mp (l:List BS) (r:BS):Di l r≤l.length:=by unfold Di;exact (List.takeWhile_sublist _).length_le
theorem Vk {l:List BS} {r:BS} {k:Nat} (hk:k<Di l r) {x:BS} (hx:l[k]? =some x):Ef x r=true:=by
 induction l generalizing k with
 |nil=>simp at hx
 |cons a l ih=>
  unfold Di at hk
  rw [List.takeWhile_cons] at hk
  split at hk
  next h=>
   cases k with
   |zero=>simp at hx;subst hx;exact h
   |succ k=>exact ih (k:=k) (by simp at hk;exact hk) (by simpa using hx)
  next=>simp at hk
theorem Vl {l:List BS} {r:BS} {x:BS} (hx:l[Di l r]? =some x):Ef x r=false:=by
 induction l with
 |nil=>simp at hx
 |cons a l ih=>
  unfold Di at hx
  rw [List.takeWhile_cons] at hx
  split at hx
  next h=>exact ih (by unfold Di;simpa using hx)
  next h=>simp at hx;subst hx;simpa using h
theorem Vm {l:List BS} {r:BS} {k:Nat} (hl:k≤l.length) (h:∀j x,j<k→l[j]? =some x→Ef x r=true) (he:∀x,l[k]? =some x→Ef x r=false):Di l r=k:=by
 rcases Nat.lt_trichotomy (Di l r) k with h1|h1|h1
 ·
  obtain ⟨x,hx⟩:=at_ (l:=l) (k:=Di l r) (by omega)
  have:=h _ x h1 hx;rw [Vl hx] at this;cases this
 · exact h1
 ·
  obtain ⟨x,hx⟩:=at_ (l:=l) (k:=k) (by have:=Mp l r;omega)
  have:=he x hx;rw [Vk h1 hx] at this;cases this
theorem N4 (l:List BS) (r:BS):(E7 l r).length≤l.length+1:=by
 have:=Mp l r
 unfold E7;split<;>simp<;>omega
theorem SM {l:List BS} {r x:BS}:x∈E7 l r↔x=r∨x∈l:=by
 unfold E7;split
 next h=>exact ⟨.inr,fun h2=>h2.elim (fun e=>by subst e;exact List.mem_of_getElem? h) id⟩
 next=>rw [List.append_assoc,List.mem_append,List.mem_append,List.mem_singleton,←or_assoc,or_comm (a:=x∈_) (b:=x=r),or_assoc,←List.mem_append,List.take_append_drop]
theorem Z8 {a b:BS} (h:Ef a b=false) (hn:a≠b):Ef b a=true:=by
 unfold Ef at*
 obtain ⟨a1,a2⟩:=a
 obtain ⟨b1,b2⟩:=b
 simp only [ne_eq,BS.mk.injEq,not_and] at*
 repeat' split at h
 all_goals repeat' split
 all_goals simp only [decide_eq_true_eq,decide_eq_false_iff_not] at*
 all_goals omega
theorem Jp {l:List BS}:DE l=true↔∀j a b,l[j]? =some a→l[j+1]? =some b→Ef a b=true:=by
 induction l with
 |nil=>exact ⟨fun _ j a b h=>by simp at h,fun _=>rfl⟩
 |cons x l ih=>
  cases l with
  |nil=>exact ⟨fun _ j a b _ h=>by simp at h,fun _=>rfl⟩
  |cons y l=>
   unfold DE
   rw [Bool.and_eq_true,ih]
   refine ⟨fun ⟨h1,h2⟩ j a b ha hb=> ?_,fun h=>⟨h 0 x y rfl rfl,fun j a b ha hb=>h (j+1) a b (by simpa using ha) (by simpa using hb)⟩⟩
   cases j with
   |zero=>simp at ha hb;subst ha;subst hb;exact h1
   |succ j=>exact h2 j a b (by simpa using ha) (by simpa using hb)
theorem L5 {l:List BS} {r:BS} (h:DE l=true):DE (E7 l r)=true:=by
 unfold E7;split
 next=>exact h
 next hne=>
 rw [Jp] at h ⊢
 have hp:=Mp l r
 intro j a b ha hb
 rw [List.append_assoc] at ha hb
 rcases Nat.lt_trichotomy (j+1) (Di l r) with h1|h1|h1
 ·
  rw [List.getElem?_append_left (by rw [List.length_take];omega),List.getElem?_take,if_pos (by omega)] at ha hb
  exact h j a b ha hb
 ·
  rw [List.getElem?_append_left (by rw [List.length_take];omega),List.getElem?_take,if_pos (by omega)] at ha
  rw [List.getElem?_append_right (by rw [List.length_take];omega),List.length_take,show j+1-min (Di l r) l.length=0 by omega] at hb
  simp at hb;subst hb
  exact Vk (by omega) ha
 ·
  rw [List.getElem?_append_right (by rw [List.length_take];omega),List.length_take,show j-min (Di l r) l.length=j-Di l r by omega] at ha
  rw [List.getElem?_append_right (by rw [List.length_take];omega),List.length_take,show j+1-min (Di l r) l.length=(j-Di l r)+1 by omega] at hb
  simp only [List.singleton_append,List.getElem?_cons_succ,List.getElem?_drop] at hb
  rcases Nat.eq_zero_or_pos (j-Di l r) with h2|h2
  ·
   rw [h2] at ha hb
   simp at ha;subst ha
   simp at hb
   exact Z8 (Vl hb) (fun e=>hne (by rw [hb,e]))
  ·
   obtain ⟨i,hi⟩:∃i,j-Di l r=i+1:=⟨j-Di l r-1,by omega⟩
   rw [hi] at ha hb
   simp only [List.singleton_append,List.getElem?_cons_succ,List.getElem?_drop] at ha
   exact h (Di l r+i) a b ha (by rw [show Di l r+i+1=Di l r+(i+1) by omega];exact hb)
theorem Mq {l:List BS} (h:∀r∈l,r.fst<r.thn):∀(k:Nat) {a b:Nat},Dw l k a b=true→a<b
 |0,a,b,hb=>by
  obtain ⟨r,hr,h2⟩:=List.any_eq_true.1 hb
  rw [Bool.and_eq_true,decide_eq_true_eq,decide_eq_true_eq] at h2
  have:=h r hr;omega
 |k+1,a,b,hb=>by
  simp only [Dw,N1,Bool.or_eq_true,Bool.and_eq_true] at hb
  rcases hb with hb|⟨h1,h2⟩
  · exact Mq h k hb
  · have:=Mq h k h1;have:=Mq h k h2;omega
theorem Z9 {n:Nat} {l:List BS} (hn:n≤24) (h:∀r∈l,(0≤r.fst∧r.fst<r.thn)∧r.thn<n) (hs:DE l=true):Bf n l=0:=by
 unfold Bf
 rw [if_neg (by omega),if_neg ?_,if_neg (by simp [hs]),if_neg ?_]
 ·
  intro hc
  obtain ⟨i,_,hi⟩:=List.any_eq_true.1 hc
  have:=Mq (fun r hr=>(h r hr).1.2) _ hi;omega
 ·
  intro hc
  obtain ⟨r,hr,hb⟩:=List.any_eq_true.1 hc
  unfold FV at hb
  rw [decide_eq_true_eq] at hb
  have:=h r hr;omega
theorem Kk {s:List Int} {n:Int} (h:n∉s):(Eg s n true).length=s.length+1:=by
 have key:∀(s:List Int) (p:List Int×Bool),n∉s→(s.foldl (Cd n true) p).1.length+(if (s.foldl (Cd n true) p).2 then 0 else 1)=p.1.length+(if p.2 then 0 else 1)+s.length:=by
  intro s
  induction s with
  |nil=>intro p _;rfl
  |cons y s ih=>
   intro p hp
   rw [List.foldl_cons,ih _ (fun hh=>hp (List.mem_cons_of_mem _ hh))]
   unfold Cd
   rw [if_neg (fun e=>hp (by rw [e];simp))]
   split
   next h2=>simp [h2.2.1];omega
   next h2=>simp;omega
 have h2:=key s ([],false) h
 unfold Eg wall
 split
 next h3=>rw [h3.2] at h2;simp at h2 ⊢;omega
 next h3=>simp only [true_and,Bool.not_eq_false] at h3;rw [h3] at h2;simp at h2 ⊢;omega
def Cq (n:Nat) (l:List BS):Nat→List Int×List Int
 |0=>([],[])
 |k+1=>match (F4 n l (Cq n l k).2 true)[0]? with
  |none=>Cq n l k
  |some x=>((Cq n l k).1++[x],Eg (Cq n l k).2 x true)
theorem Hf {n:Int} {l:List BS} (hv:Bf n l=0):∀(k:Nat),k≤n.toNat→LP n l (Cq n.toNat l k).1 (Cq n.toNat l k).2∧(Cq n.toNat l k).1.length=k
 |0,_=>⟨LP.nil,rfl⟩
 |k+1,hk=>by
  obtain ⟨h1,h2⟩:=Hf hv k (by omega)
  obtain ⟨x,hx,hr⟩:=h1.bes hv (by omega)
  unfold Cq
  rw [hx]
  exact ⟨hr,by simp [h2]⟩
theorem SN {n:Int} {l:List BS} (hv:Bf n l=0) {k:Nat} (hk:k<n.toNat):∃x,(F4 n.toNat l (Cq n.toNat l k).2 true)[0]? =some x∧Cq n.toNat l (k+1)=((Cq n.toNat l k).1++[x],Eg (Cq n.toNat l k).2 x true):=by
 obtain ⟨h1,h2⟩:=Hf hv k (by omega)
 obtain ⟨x,hx,_⟩:=h1.bes hv (by omega)
 exact ⟨x,hx,by rw [Cq];rw [hx]⟩
theorem lR {d:Nat} {w:World} {x0 y0:Int} {x1 y1:Int}:(Op.equalIn (d+2) 109 (.agg #[.int .i64 x0,.int .i64 x1]) (.agg #[.int .i64 y0,.int .i64 y1])).run Tryz.prog w= .ok (decide (x0=y0∧x1=y1)) w:=by
 have h:=eqS (w:=w) (d:=d+1) (xs:= #[.int .i64 x0,.int .i64 x1]) (ys:= #[.int .i64 y0,.int .i64 y1]) Tryz.underlying109 (by kernel_rfl) (ED (by decide) (Bn Bo rfl) (Bn Bo rfl) (FA (d:=d+0) Tryz.underlying3) (ED (by decide) (Bn Bo rfl) (Bn Bo rfl) (FA (d:=d+0) Tryz.underlying3) (KM)))
 refine h.trans (congrArg (fun b=>Result.ok b w) ?_)
 rw [Bool.eq_iff_iff];simp [and_assoc]
theorem Z_ {E:Env} {I:CT} {o:Oper} {u:TypeId} {x y:Operand} {x0 y0:Int} {x1 y1:Int} (ho:o.op= .binOp .eql 109 x y u) (hx:VL E x (agg [is (.int .i64 x0),is (.int .i64 x1)])) (hy:VL E y (agg [is (.int .i64 y0),is (.int .i64 y1)])):Ac Tryz.prog I o E (bool (decide (x0=y0∧x1=y1))):=
 NS [.int .i64 x0,.int .i64 x1] [.int .i64 y0,.int .i64 y1] ho hx hy (by kernel_rfl) (fun w=>by rw [show Op.equal 109 _ _=Op.equalIn (9998+2) 109 _ _ from rfl];exact lR)
abbrev UD (r:BS):List Pr:=[int r.fst,int r.thn]
abbrev reqs (l:List BS):Pr:=slice 2 (l.map UD)
theorem Pk {a b:BS}  :Az prog 81 [agg (UD a),agg (UD b)] (bool (Ef a b)):=by
 refine fo func81 rfl ⟨rfl,rfl⟩ fun M0 w0=> ?_
 · repeat' first|(refine bool_eq ?_;unfold Ef;split<;>first|rfl|(exfalso;omega))|refine ac ?_|(refine Tr.cn rfl ?_ ?_<;>intro h q)
theorem N5 {l:List BS} {r:BS} (hl:l.length≤1000000):Az prog 52 [reqs l,agg (UD r)] (reqs (E7 l r)):=by
 refine Az.of func52 rfl rfl (by exact Nb rfl) fun M0 w0=> ?_
 refine Tr.C8 0 rfl fun Et=> ?_
 have hml:(l.map UD).length=l.length:=List.length_map _
 have y5:=Mp l r
 refine Tr.seq (Tr.AW (co rfl (BZ rfl (Va rfl)) (cm rfl (Ch.nil (Fin.go (Tr.seq (Tr.AW (cm rfl (Ch.nil (Fin.go (CR 0 3 5 rfl (Tr.RT [0,3] [(5,int ((Di l r:Nat):Int))] (True) ?_ (fun h1=> ?_)))))))))))))
 refine Tr.block (Tr.A7 [(0,_),(3,_)] (O9 rfl) (fun k:Nat=>[(5,int ((k:Nat):Int))]) (fun k:Nat=>k≤l.length∧(∀j y,j<k→l[j]? =some y→Ef y r=true)) (fun k:Nat=>l.length-k) 0 (⟨Nat.zero_le _,fun j y hj=>absurd hj (by omega)⟩) ⟨ke rfl,trivial⟩ ?_)
 rintro k ⟨BN,hinv⟩
 refine Tr.seq (Tr.seq (Tr.QC mixed (by kernel_rfl) (cm rfl (cm rfl ?_))))
 first|refine co rfl (BF rfl underlying31 (vl rfl)) ?_|refine co rfl (Br rfl underlying31 (vl rfl)) ?_
 refine co rfl (ki rfl rfl rfl rfl) (cm rfl ?_)
 refine Ch.cs 11 rfl ?_ ?_<;>intro h2 q2
 obtain ⟨x,hx⟩:=at_ (l:=l) (k:=k) (by omega)
 refine FZ h2 rfl (FZ h2 rfl (cy h2 rfl (AA rfl underlying31 Bt (vl rfl) (vl rfl) (by omega) (AO hx)) (cy h2 rfl (AR rfl D8 Bt (vl rfl) rfl rfl) (cy h2 rfl (AR rfl D8 Bt (vl rfl) rfl rfl) (cy h2 rfl (AQ rfl (Pk) ⟨ke rfl,ke rfl,trivial⟩) (co rfl (HK rfl rfl h2 rfl) (Ch.nil (Fin.go (D7 0 3 5 18 rfl ?_)))))))))
 refine Tr.cn rfl ?_ ?_<;>intro h3 q3
 have hq:=h3
 refine Tr.skip (Fin.go (Tr.block (Tr.AW (cm rfl ?_))))
 first|(refine GV rfl rfl rfl rfl (by omega) ?_)|refine co rfl (ki rfl rfl rfl rfl) ?_
 refine cm rfl (Ch.nil (Fin.block ?_))
 exact Fin.AM (k+1) ⟨⟨by omega,fun j y hj hy=>by rcases Nat.lt_or_ge j k with h_|h_;exact hinv j y h_ hy;(obtain rfl:j=k:=by omega);rw [hx] at hy;cases hy;exact hq⟩,by omega⟩ ⟨⟨_,rfl,AD k⟩,ke rfl,ke rfl,trivial⟩
 have hp:Di l r=k:=Vm BN hinv (fun y hy=>by rw [hx] at hy;cases hy;exact h3)
 refine Tr.exit (Fin.AS (Fin.AS (Fin.Ak (Fin.AM () trivial ⟨⟨_,rfl,int_eq (by rw [hp])⟩,ke rfl,ke rfl,trivial⟩))))
 have hp:Di l r=k:=Vm BN hinv (fun y hy=>by have:=A0 hy;have:=q2;omega)
 iterate 6 refine cnt h2 rfl ?_
 refine co rfl (HM rfl rfl h2 rfl) (Ch.nil (Fin.go (D7 0 3 5 18 rfl (Tr.cond rfl (fun h=>nomatch h) (fun _=> ?_)))))
 refine Tr.exit (Fin.AS (Fin.AS (Fin.Ak (Fin.AM () trivial ⟨⟨_,rfl,int_eq (by rw [hp])⟩,ke rfl,ke rfl,trivial⟩))))
 refine Tr.seq (Tr.seq (Tr.QC mixed (by kernel_rfl) (cm rfl (cm rfl ?_))))
 first|refine co rfl (BF rfl underlying31 (vl rfl)) ?_|refine co rfl (Br rfl underlying31 (vl rfl)) ?_
 refine co rfl (ki rfl rfl rfl rfl) (cm rfl ?_)
 refine Ch.cs 25 rfl ?_ ?_<;>intro h4 q4
 obtain ⟨x2,hx2⟩:=at_ (l:=l) (k:=Di l r) (by omega)
 refine FZ h4 rfl (FZ h4 rfl (cy h4 rfl (AA rfl underlying31 Bt (vl rfl) (vl rfl) (by omega) (AO hx2)) (cy h4 rfl (AR rfl D8 Bt (vl rfl) rfl rfl) (cy h4 rfl (AR rfl D8 Bt (vl rfl) rfl rfl) (cy h4 rfl (Z_ rfl (vl rfl) (vl rfl)) (co rfl (HK rfl rfl h4 rfl) (Ch.nil (Fin.go (D7 0 3 5 32 rfl ?_)))))))))
 refine Tr.cn rfl ?_ ?_<;>intro h5 q5
 have hput:E7 l r=l:=if_pos (by rw [hx2];have h_:=q5;cases x2;cases r;simp_all)
 refine Tr.seq (Tr.AW (cm rfl (cm rfl (Ch.nil (Fin.go (Tr.ret (Fin.AB (Fin.DZ rfl (BE.CZ _ _) rfl ?_))))))))
 · rw [hput];exact Lr
 have hput:E7 l r=l.take (Di l r)++[r]++l.drop (Di l r):=if_neg (by rw [hx2];intro h_;cases h_;have h_:=q5;simp at h_)
 refine Tr.skip (Fin.go (Tr.seq (Tr.An (tm rfl (tm rfl ?_)))))
 refine tp rfl (C_ rfl underlying31 Bt (vl rfl) (vl rfl) (by omega) (by first|omega|(simp;omega))) ?_
 refine TO.pad ?_
 refine TO.DP 0 rfl rfl (by decide) (Db rfl rfl (by decide) rfl underlying31 Bt KI z109 rfl (by decide) ⟨_,rfl,AF _⟩ (vl rfl) (by simp only [List.length_map,List.length_append,List.length_cons,List.length_nil,List.length_take,List.length_drop];unfold maxLen;omega) (by simp only [List.length_map,List.length_append,List.length_cons,List.length_nil,List.length_take,List.length_drop];omega) (Ba (by exact List.Mem.head _) ⟨_,rfl,Dt 1⟩)) (fun v1=> ?_)
 refine tm rfl (TO.nil (Fin.go (Tr.seq (Tr.An (tm rfl (tp rfl (AR rfl D8 Bt (vl rfl) rfl rfl) (tp rfl (AL (xs:=[.tmp 39]) (rows:=[_]) rfl rfl underlying31 Bt z109 rfl (by decide) ⟨⟨(by exact rfl),(Va rfl)⟩,trivial⟩ (by decide)) ?_)))))))
 refine TO.DP 0 rfl rfl (by decide) (Bl rfl rfl rfl rfl underlying31 Bt KI z109 (Kb rfl) (Kf rfl) (Aq (by exact List.Mem.head _) (Ka rfl))) (fun v2=> ?_)
 refine tm rfl (TO.nil (Fin.go (CR 0 5 6 rfl (Tr.seq (Tr.An (tm rfl (tm rfl (tm rfl ?_))))))))
 refine tp rfl (C5 rfl underlying31 Bt (vl rfl) (vl rfl) (by omega) (by first|omega|(simp;omega))) ?_
 refine TO.DP 0 rfl rfl (by decide) (Bl rfl rfl rfl rfl underlying31 Bt KI z109 (Kb rfl) (vl rfl) (Aq (by exact List.Mem.head _) (Ka rfl))) (fun v3=> ?_)
 refine tm rfl (TO.nil (Fin.go (Tr.ret (Fin.DZ rfl (BE.CZ _ _) rfl ?_))))
 · refine Pr.le_trans (Ah _ _) (Pr.le_of_eq ?_);rw [hput];show _=slice 2 ((l.take (Di l r)++[r]++l.drop (Di l r)).map UD);simp [List.map_take,List.map_drop]
 have hput:E7 l r=l.take (Di l r)++[r]++l.drop (Di l r):=if_neg (by rw [List.getElem?_eq_none (by have:=q4;omega)];simp)
 iterate 6 refine cnt h4 rfl ?_
 refine co rfl (HM rfl rfl h4 rfl) (Ch.nil (Fin.go (D7 0 3 5 32 rfl (Tr.cond rfl (fun h=>nomatch h) (fun _=> ?_)))))
 refine Tr.skip (Fin.go (Tr.seq (Tr.An (tm rfl (tm rfl ?_)))))
 refine tp rfl (C_ rfl underlying31 Bt (vl rfl) (vl rfl) (by omega) (by first|omega|(simp;omega))) ?_
 refine TO.pad ?_
 refine TO.DP 0 rfl rfl (by decide) (Db rfl rfl (by decide) rfl underlying31 Bt KI z109 rfl (by decide) ⟨_,rfl,AF _⟩ (vl rfl) (by simp only [List.length_map,List.length_append,List.length_cons,List.length_nil,List.length_take,List.length_drop];unfold maxLen;omega) (by simp only [List.length_map,List.length_append,List.length_cons,List.length_nil,List.length_take,List.length_drop];omega) (Ba (by exact List.Mem.head _) ⟨_,rfl,Dt 1⟩)) (fun v4=> ?_)
 refine tm rfl (TO.nil (Fin.go (Tr.seq (Tr.An (tm rfl (tp rfl (AR rfl D8 Bt (vl rfl) rfl rfl) (tp rfl (AL (xs:=[.tmp 39]) (rows:=[_]) rfl rfl underlying31 Bt z109 rfl (by decide) ⟨⟨(by exact rfl),(Va rfl)⟩,trivial⟩ (by decide)) ?_)))))))
 refine TO.DP 0 rfl rfl (by decide) (Bl rfl rfl rfl rfl underlying31 Bt KI z109 (Kb rfl) (Kf rfl) (Aq (by exact List.Mem.head _) (Ka rfl))) (fun v5=> ?_)
 refine tm rfl (TO.nil (Fin.go (CR 0 5 6 rfl (Tr.seq (Tr.An (tm rfl (tm rfl (tm rfl ?_))))))))
 refine tp rfl (C5 rfl underlying31 Bt (vl rfl) (vl rfl) (by omega) (by first|omega|(simp;omega))) ?_
 refine TO.DP 0 rfl rfl (by decide) (Bl rfl rfl rfl rfl underlying31 Bt KI z109 (Kb rfl) (vl rfl) (Aq (by exact List.Mem.head _) (Ka rfl))) (fun v6=> ?_)
 refine tm rfl (TO.nil (Fin.go (Tr.ret (Fin.DZ rfl (BE.CZ _ _) rfl ?_))))
 · refine Pr.le_trans (Ah _ _) (Pr.le_of_eq ?_);rw [hput];show _=slice 2 ((l.take (Di l r)++[r]++l.drop (Di l r)).map UD);simp [List.map_take,List.map_drop]
theorem FD (l:List BS):∀(a:List BS),(l.foldl E7 a).length≤a.length+l.length:=by
 induction l with
 |nil=>intro a;simp
 |cons x l ih=>intro a;have h1:=ih (E7 a x);have h2:=N4 a x;simp only [List.foldl_cons,List.length_cons];omega
theorem LQ (l:List BS):∀{a:List BS},DE a=true→DE (l.foldl E7 a)=true:=by
 induction l with
 |nil=>intro a h;exact h
 |cons x l ih=>intro a h;exact ih (L5 h)
theorem Ol (l:List BS):∀{a:List BS} {x:BS},x∈l.foldl E7 a↔x∈a∨x∈l:=by
 induction l with
 |nil=>intro a x;simp
 |cons y l ih=>intro a x;rw [List.foldl_cons,ih,SM,List.mem_cons,or_comm (a:=x=y),or_assoc]
def N6 (a b:List BS):List BS:=b.foldl E7 (a.foldl E7 [])
theorem Pm {β γ:Type} {f:γ→β→γ} {a:γ} {l:List β} {k:Nat} {x:β} (h:l[k]? =some x):(l.take (k+1)).foldl f a=f ((l.take k).foldl f a) x:=by rw [List.take_add_one,h,List.foldl_append];rfl
theorem UE {a b:List BS} (ha:a.length≤100000) (hb:b.length≤100000):Az prog 37 [reqs a,reqs b] (reqs (N6 a b)):=by
 refine Az.of func37 rfl rfl (by exact Nb rfl) fun M0 w0=> ?_
 refine Tr.C8 0 rfl fun Et=>(Tr.C8 1 rfl fun Hz=>(Tr.seq (Tr.AW (cm rfl (Ch.nil (Fin.go (Tr.seq (Tr.AW (cm rfl (Ch.nil (Fin.go (Tr.seq (Tr.seq (Tr.AW ?_))))))))))))))
 refine cm rfl ?_
 first|refine co rfl (BF rfl underlying31 (vl rfl)) ?_|refine co rfl (Br rfl underlying31 (vl rfl)) ?_
 refine cm rfl (Ch.nil (Fin.go (Tr.block (Tr.A7 [(1,_),(10,_),(11,_)] (MW rfl) (fun k:Nat=>[(12,int ((k:Nat):Int)),(5,reqs ((a.take k).foldl E7 []))]) (fun k:Nat=>k≤(a).length) (fun k:Nat=>(a).length-k) 0 (Nat.zero_le _) ⟨ke rfl,⟨_,rfl,AF 2⟩,trivial⟩ ?_))))
 rintro k BN
 refine Tr.seq (Tr.AW (co rfl (ki rfl rfl rfl rfl) (Ch.nil (Fin.go (Tr.seq ?_)))))
 refine Tr.cn rfl ?_ ?_<;>intro h1 q1
 have Af:k<(a).length:=AH h1
 obtain ⟨x,Ad⟩:=at_ Af
 have S4:=FD (a.take k) []
 rw [List.length_take] at S4
 have lS:((a.take k).foldl E7 []).length≤1000000:=by simp at S4;omega
 refine Tr.skip (Fin.go (Tr.seq (Tr.block (Tr.seq (Tr.An (tp rfl (AA rfl underlying31 Bt (vl rfl) (vl rfl) (by omega) (AO Ad)) (tp rfl (AR rfl D8 Bt (vl rfl) rfl rfl) ?_)))))))
 refine Tl rfl rfl rfl rfl z109 JF (fun b1=> ?_)
 refine TO.AK 0 rfl rfl rfl (vl rfl) (Va rfl) rfl Bt rfl rfl (TO.freeze 0 7 rfl rfl (TO.nil (Fin.go (Tr.AW (cm rfl (co rfl (AR rfl D8 Bt (vl rfl) rfl rfl) (co rfl (AQ rfl (N5 lS) ⟨ke rfl,ke rfl,trivial⟩) (cm rfl (Ch.nil (Fin.block (Fin.go (JV 1 5 10 11 12 rfl (Tr.AW ?_)))))))))))))
 first|(refine GV rfl rfl rfl rfl (by omega) ?_)|refine co rfl (ki rfl rfl rfl rfl) ?_
 refine cm rfl (Ch.nil (Fin.AM (k+1) ⟨Af,by omega⟩ ⟨⟨_,rfl,AD k⟩,⟨_,rfl,Pr.le_of_eq (by rw [Pm Ad])⟩,ke rfl,ke rfl,ke rfl,trivial⟩))
 have BI:k=(a).length:=by have:=AJ h1;omega
 subst BI
 rw [List.take_length]
 refine Tr.exit (Fin.AS (Fin.AS (Fin.Ak (Fin.go (Tr.seq (Tr.seq (Tr.AW (cm rfl ?_))))))))
 first|refine co rfl (BF rfl underlying31 (vl rfl)) ?_|refine co rfl (Br rfl underlying31 (vl rfl)) ?_
 refine cm rfl (Ch.nil (Fin.go (Tr.block (Tr.A7 [(20,_),(21,_)] (O9 rfl) (fun m:Nat=>[(22,int ((m:Nat):Int)),(5,reqs ((b.take m).foldl E7 (a.foldl E7 [])))]) (fun m:Nat=>m≤(b).length) (fun m:Nat=>(b).length-m) 0 (Nat.zero_le _) ⟨ke rfl,ke rfl,trivial⟩ ?_))))
 rintro m Kc
 refine Tr.seq (Tr.AW (co rfl (ki rfl rfl rfl rfl) (Ch.nil (Fin.go (Tr.seq ?_)))))
 refine Tr.cn rfl ?_ ?_<;>intro h2 q2
 have Dg:m<(b).length:=AH h2
 obtain ⟨x,Dq⟩:=at_ Dg
 have S4:=FD (b.take m) (a.foldl E7 [])
 rw [List.length_take] at S4
 have lS:((b.take m).foldl E7 (a.foldl E7 [])).length≤1000000:=by have:=FD a [];simp at this;omega
 refine Tr.skip (Fin.go (Tr.seq (Tr.block (Tr.seq (Tr.An (tp rfl (AA rfl underlying31 Bt (vl rfl) (vl rfl) (by omega) (AO Dq)) (tp rfl (AR rfl D8 Bt (vl rfl) rfl rfl) ?_)))))))
 refine Tl rfl rfl rfl rfl z109 JF (fun b2=> ?_)
 refine TO.AK 0 rfl rfl rfl (vl rfl) (Va rfl) rfl Bt rfl rfl (TO.freeze 0 9 rfl rfl (TO.nil (Fin.go (Tr.AW (cm rfl (co rfl (AR rfl D8 Bt (vl rfl) rfl rfl) (co rfl (AQ rfl (N5 lS) ⟨ke rfl,ke rfl,trivial⟩) (cm rfl (Ch.nil (Fin.block (Fin.go (D7 5 20 21 22 rfl (Tr.AW ?_)))))))))))))
 first|(refine GV rfl rfl rfl rfl (by omega) ?_)|refine co rfl (ki rfl rfl rfl rfl) ?_
 refine cm rfl (Ch.nil (Fin.AM (m+1) ⟨Dg,by omega⟩ ⟨⟨_,rfl,AD m⟩,⟨_,rfl,Pr.le_of_eq (by rw [Pm Dq])⟩,ke rfl,ke rfl,trivial⟩))
 have IY:m=(b).length:=by have:=AJ h2;omega
 subst IY
 rw [List.take_length]
 refine Tr.exit (Fin.AS (Fin.AS (Fin.Ak (Fin.go (Tr.seq (Tr.AW (cm rfl (cm rfl (Ch.nil (Fin.go (Tr.ret (Fin.DZ rfl (BE.CZ _ _) rfl ?_))))))))))))
 · exact Lr
theorem Ig {l:List Int} {v:Int}  :Az prog 74 [ints l,int v] (bool (Jo l v)):=by
 refine Az.of func74 rfl rfl (by exact Nb rfl) fun M0 w0=> ?_
 refine Tr.C8 0 rfl fun Et=>(Tr.seq (Tr.AW (cm rfl (Ch.nil (Fin.go (Tr.seq (Tr.seq (Tr.AW (cm rfl ?_)))))))))
 first|refine co rfl (BF rfl underlying101 (vl rfl)) ?_|refine co rfl (Br rfl underlying101 (vl rfl)) ?_
 refine cm rfl (Ch.nil (Fin.go (Tr.block (Tr.A7 [(1,_),(7,_),(8,_)] (MW rfl) (fun k:Nat=>[(9,int ((k:Nat):Int))]) (fun k:Nat=>k≤(l).length∧(Jo (l.take k) v=false)) (fun k:Nat=>(l).length-k) 0 (⟨Nat.zero_le _,rfl⟩) ⟨ke rfl,trivial⟩ ?_))))
 rintro k ⟨BN,Ab⟩
 refine Tr.seq (Tr.AW (co rfl (ki rfl rfl rfl rfl) (Ch.nil (Fin.go (Tr.seq ?_)))))
 refine Tr.cn rfl ?_ ?_<;>intro h1 q1
 have Af:k<(l).length:=AH h1
 obtain ⟨x,Ad⟩:=at_ Af
 refine Tr.skip (Fin.go (Tr.seq (Tr.block (Tr.seq (Tr.AW (co rfl (AA rfl underlying101 Bh (vl rfl) (vl rfl) (by omega) (AO Ad)) (co rfl (DQ rfl Bo rfl) (cm rfl (Ch.nil (Fin.go (Tr.seq (Tr.AW (cm rfl ?_)))))))))))))
 refine cm rfl (co rfl (ki rfl rfl rfl rfl) (Ch.nil (Fin.go ?_)))
 refine Tr.cn rfl ?_ ?_<;>intro h2 q2
 refine Tr.seq (Tr.AW (cm rfl (Ch.nil (Fin.go (Tr.ret (Fin.AX (Fin.AB (Fin.AB (Fin.AX (Fin.AB (Fin.DZ rfl (BE.CZ _ _) rfl ?_)))))))))))
 · refine bool_eq ?_;symm;unfold Jo;rw [List.any_eq_true];exact ⟨_,List.mem_of_getElem? Ad,by simp_all⟩
 refine Tr.skip (Fin.block (Fin.go (Tr.AW ?_)))
 first|(refine GV rfl rfl rfl rfl (by omega) ?_)|refine co rfl (ki rfl rfl rfl rfl) ?_
 refine cm rfl (Ch.nil ?_)
 exact Fin.AM (k+1) ⟨⟨Af,(by unfold Jo at Ab ⊢;rw [List.take_add_one,Ad,List.any_append,Ab];simp;omega)⟩,by omega⟩ ⟨⟨_,rfl,AD k⟩,ke rfl,ke rfl,ke rfl,trivial⟩
 have BI:k=(l).length:=by have:=AJ h1;omega
 subst BI
 refine Tr.exit (Fin.AS (Fin.AS (Fin.Ak (Fin.go (Tr.seq (Tr.AW (cm rfl (Ch.nil (Fin.go (Tr.ret (Fin.DZ rfl (BE.CZ _ _) rfl ?_)))))))))))
 · refine bool_eq ?_;rw [List.take_length] at Ab;exact Ab.symm
theorem SO {l:List BS} {s:List Int}  :Az prog 118 [reqs l,ints s] (bool (FC l s)):=by
 refine Az.of func118 rfl rfl (by exact Nb rfl) fun M0 w0=> ?_
 refine Tr.C8 0 rfl fun Et=>(Tr.seq (Tr.AW (cm rfl (Ch.nil (Fin.go (Tr.seq (Tr.seq (Tr.AW (cm rfl ?_)))))))))
 first|refine co rfl (BF rfl underlying31 (vl rfl)) ?_|refine co rfl (Br rfl underlying31 (vl rfl)) ?_
 refine cm rfl (Ch.nil (Fin.go (Tr.block (Tr.A7 [(1,_),(7,_),(8,_)] (MW rfl) (fun k:Nat=>[(9,int ((k:Nat):Int))]) (fun k:Nat=>k≤(l).length∧(FC (l.take k) s=true)) (fun k:Nat=>(l).length-k) 0 (⟨Nat.zero_le _,rfl⟩) ⟨ke rfl,trivial⟩ ?_))))
 rintro k ⟨BN,Ab⟩
 refine Tr.seq (Tr.AW (co rfl (ki rfl rfl rfl rfl) (Ch.nil (Fin.go (Tr.seq ?_)))))
 refine Tr.cn rfl ?_ ?_<;>intro h1 q1
 have Af:k<(l).length:=AH h1
 obtain ⟨r,Ad⟩:=at_ Af
 refine Tr.skip (Fin.go (Tr.seq (Tr.block (Tr.seq (Tr.An (tp rfl (AA rfl underlying31 Bt (vl rfl) (vl rfl) (by omega) (AO Ad)) (tp rfl (AR rfl D8 Bt (vl rfl) rfl rfl) ?_)))))))
 refine Tl rfl rfl rfl rfl z109 JF (fun b1=> ?_)
 refine TO.AK 0 rfl rfl rfl (vl rfl) (Va rfl) rfl Bt rfl rfl (TO.freeze 0 6 rfl rfl (TO.nil (Fin.go (Tr.seq (Tr.AW (cm rfl (co rfl (Kt rfl KK rfl rfl) (co rfl (DQ rfl Bo rfl) (co rfl (AQ rfl (Ig) ⟨ke rfl,ke rfl,trivial⟩) (cm rfl ?_))))))))))
 refine Ch.cs 17 rfl ?_ ?_<;>intro h2 q2
 refine FZ h2 rfl (cy h2 rfl (Kt rfl KJ rfl rfl) (cy h2 rfl (DQ rfl Bo rfl) (cy h2 rfl (AQ rfl (Ig) ⟨ke rfl,ke rfl,trivial⟩) (cy h2 rfl (HI rfl (vl rfl)) (co rfl (HK rfl rfl h2 rfl) (Ch.nil (Fin.go (JV 1 7 8 9 23 rfl ?_))))))))
 refine Tr.cn rfl ?_ ?_<;>intro h3 q3
 refine Tr.seq (Tr.AW (cm rfl (Ch.nil (Fin.go (Tr.ret (Fin.AX (Fin.AB (Fin.AB (Fin.AX (Fin.AB (Fin.DZ rfl (BE.CZ _ _) rfl ?_)))))))))))
 · refine bool_eq ?_;symm;unfold FC;rw [List.all_eq_false];exact ⟨_,List.mem_of_getElem? Ad,by simp_all⟩
 refine Tr.skip (Fin.block (Fin.go (Tr.AW ?_)))
 first|(refine GV rfl rfl rfl rfl (by omega) ?_)|refine co rfl (ki rfl rfl rfl rfl) ?_
 refine cm rfl (Ch.nil ?_)
 exact Fin.AM (k+1) ⟨⟨Af,(by unfold FC at Ab ⊢;rw [List.take_add_one,Ad,List.all_append,Ab];simp_all)⟩,by omega⟩ ⟨⟨_,rfl,AD k⟩,ke rfl,ke rfl,ke rfl,trivial⟩
 iterate 5 refine cnt h2 rfl ?_
 refine co rfl (HM rfl rfl h2 rfl) (Ch.nil (Fin.go (JV 1 7 8 9 23 rfl (Tr.cond rfl (fun h=>nomatch h) (fun _=> ?_)))))
 refine Tr.skip (Fin.block (Fin.go (Tr.AW ?_)))
 first|(refine GV rfl rfl rfl rfl (by omega) ?_)|refine co rfl (ki rfl rfl rfl rfl) ?_
 refine cm rfl (Ch.nil ?_)
 exact Fin.AM (k+1) ⟨⟨Af,(by unfold FC at Ab ⊢;rw [List.take_add_one,Ad,List.all_append,Ab];simp_all)⟩,by omega⟩ ⟨⟨_,rfl,AD k⟩,ke rfl,ke rfl,ke rfl,trivial⟩
 have BI:k=(l).length:=by have:=AJ h1;omega
 subst BI
 refine Tr.exit (Fin.AS (Fin.AS (Fin.Ak (Fin.go (Tr.seq (Tr.AW (cm rfl (Ch.nil (Fin.go (Tr.ret (Fin.DZ rfl (BE.CZ _ _) rfl ?_)))))))))))
 · refine bool_eq ?_;rw [List.take_length] at Ab;exact Ab.symm
theorem Pn (n:Int) (has:Bool) (s:List Int):(wall n has s).1.length≤s.length+1:=by
 have h:=N3 (n:=n) (has:=has) (s:=s) (p:=([],false))
 unfold wall;revert h;split<;>simp<;>omega
theorem SP (n:Nat) (l:List BS) (s:List Int) (add:Bool):(F4 n l s add).length≤n:=by unfold F4;rw [List.length_map];exact Nat.le_trans (List.length_filter_le _ _) (by rw [List.length_range];exact Nat.le_refl _)
theorem aA {n:Nat} {l:List BS} {s:List Int} {add:Bool} (h:Q2 l s add n=true):F4 (n+1) l s add=F4 n l s add++[(n:Int)]:=by unfold F4;rw [List.range_succ,List.filter_append,List.map_append];simp [h]
theorem Vn {n:Nat} {l:List BS} {s:List Int} {add:Bool} (h:Q2 l s add n=false):F4 (n+1) l s add=F4 n l s add:=by unfold F4;rw [List.range_succ,List.filter_append,List.map_append];simp [h]
theorem CI {n:Int} {has:Bool} {s:List Int} {k:Nat} {x:Int} (h:s[k]? =some x):wall n has (s.take (k+1))=Cd n has (wall n has (s.take k)) x:=by
 rw [List.take_add_one,h];exact Wz n has _ x
theorem Fj {s:List Int} {n:Int} {has:Bool} (hs:s.length≤1000000):Az prog 77 [ints s,int n,bool has] (ints (Eg s n has)):=by
 refine Az.of func77 rfl rfl (by exact Nb rfl) fun M0 w0=> ?_
 refine Tr.C8 0 rfl fun Et=>(Tr.seq (Tr.AW (cm rfl (Ch.nil (Fin.go (Tr.seq (Tr.AW (cm rfl (Ch.nil (Fin.go (Tr.seq (Tr.AW (cm rfl ?_)))))))))))))
 refine Ch.nil (Fin.go (Tr.seq (Tr.seq (Tr.AW (cm rfl ?_)))))
 first|refine co rfl (BF rfl underlying101 (vl rfl)) ?_|refine co rfl (Br rfl underlying101 (vl rfl)) ?_
 refine cm rfl (Ch.nil (Fin.go (Tr.block (Tr.Bs 3 1 (Tr.EN [(1,_),(2,_),(11,_),(12,_)] ⟨ke rfl,ke rfl,ke rfl,ke rfl,trivial⟩ (fun k v=>[(13,int ((k:Nat):Int)),(8,bool (wall n has (s.take k)).2),(7,Ag v (ints (wall n has (s.take k)).1))]) (fun k v=>Hp M0 w0 Eo ([Ap 3 1 v])) (fun k:Nat=>k≤(s).length) (fun k:Nat=>(s).length-k) 0 (.slice none 0 0) (Nat.zero_le _) ⟨ke rfl,⟨_,rfl,bool_eq rfl⟩,⟨_,rfl,BX rfl⟩,trivial⟩ (fun _ _ h=>h) ?_)))))
 rintro k v BN
 refine Tr.seq (Tr.AW (co rfl (ki rfl rfl rfl rfl) (Ch.nil (Fin.go (Tr.seq ?_)))))
 refine Tr.cn rfl ?_ ?_<;>intro h1 q1
 have Af:k<(s).length:=AH h1
 obtain ⟨x,Ad⟩:=at_ Af
 have hwl:=Pn n has (s.take k)
 rw [List.length_take] at hwl
 refine Tr.skip (Fin.go (Tr.seq (Tr.block (Tr.seq (Tr.AW (co rfl (AA rfl underlying101 Bh (vl rfl) (vl rfl) (by omega) (AO Ad)) (co rfl (DQ rfl Bo rfl) (cm rfl (Ch.nil (Fin.go (Tr.seq (Tr.seq (Tr.AW ?_)))))))))))))
 refine cm rfl (cm rfl ?_)
 refine Ch.cs 18 rfl ?_ ?_<;>intro h2 q2
 refine FZ h2 rfl (cy h2 rfl (HI rfl (vl rfl)) (co rfl (HK rfl rfl h2 rfl) (cm rfl ?_)))
 refine Ch.cs 22 rfl ?_ ?_<;>intro h3 q3
 refine FZ h3 rfl (FZ h3 rfl (cy h3 rfl (ki rfl rfl rfl rfl) (co rfl (HK rfl rfl h3 rfl) (Ch.nil (Fin.go (Oe 1 2 7 8 10 11 12 13 26 rfl ?_))))))
 refine Tr.cn rfl ?_ ?_<;>intro h4 q4
 refine Tr.An (tm rfl (tm rfl (tp rfl (AL (xs:=[.tmp 28]) (rows:=[[_]]) rfl rfl underlying101 Bh z3 rfl (by decide) ⟨⟨(by exact rfl),(Vo rfl)⟩,trivial⟩ (by decide)) ?_)))
 refine TO.DP 0 rfl rfl (by decide) (Bl rfl rfl rfl rfl underlying101 Bh Iu z3 (Kb rfl) (Kf rfl) (Aq (by exact List.Mem.head _) (Ka rfl))) (fun v1=> ?_)
 refine tm rfl (tm rfl (TO.nil (Fin.go (Jx 1 2 7 8 10 11 12 13 rfl (Tr.seq (Tr.AW (cm rfl (cm rfl (co rfl (ki rfl rfl rfl rfl) (Ch.nil (Fin.go ?_)))))))))))
 refine Tr.cn rfl ?_ ?_<;>intro h5 q5
 refine Tr.An (tm rfl (tm rfl (tp rfl (AL (xs:=[.tmp 35]) (rows:=[[_]]) rfl rfl underlying101 Bh z3 rfl (by decide) ⟨⟨(by exact rfl),(Vo rfl)⟩,trivial⟩ (by decide)) ?_)))
 refine TO.DP 0 rfl rfl (by decide) (Bl rfl rfl rfl rfl underlying101 Bh Iu z3 (Kb rfl) (Kf rfl) (Aq (by exact List.Mem.head _) (Ka rfl))) (fun v2=> ?_)
 refine tm rfl (TO.nil (Fin.block (Fin.go (I_ 1 2 7 8 11 12 13 rfl (Tr.AW ?_)))))
 first|(refine GV rfl rfl rfl rfl (by omega) ?_)|refine co rfl (ki rfl rfl rfl rfl) ?_
 refine cm rfl (Ch.nil ?_)
 exact Fin.DC (k+1) v2 (⟨Af,by omega⟩) ⟨⟨_,rfl,AD k⟩,⟨_,rfl,bool_eq (by rw [CI Ad];unfold Cd;first|(simp_all;done)|(split<;>simp_all<;>omega)|(repeat (any_goals split))<;>first|(simp_all;done)|(exfalso;omega)|(exfalso;simp_all;omega))⟩,⟨_,rfl,Au (by rw [CI Ad];unfold Cd;first|(simp_all;done)|(split<;>simp_all<;>omega)|(repeat (any_goals split))<;>first|(simp_all;done)|(exfalso;omega)|(exfalso;simp_all;omega))⟩,ke rfl,ke rfl,ke rfl,ke rfl,trivial⟩ (fun _ _ h=>h)
 refine Tr.skip (Fin.block (Fin.go (Tr.AW ?_)))
 first|(refine GV rfl rfl rfl rfl (by omega) ?_)|refine co rfl (ki rfl rfl rfl rfl) ?_
 refine cm rfl (Ch.nil ?_)
 exact Fin.DC (k+1) v1 (⟨Af,by omega⟩) ⟨⟨_,rfl,AD k⟩,⟨_,rfl,bool_eq (by rw [CI Ad];unfold Cd;first|(simp_all;done)|(split<;>simp_all<;>omega)|(repeat (any_goals split))<;>first|(simp_all;done)|(exfalso;omega)|(exfalso;simp_all;omega))⟩,⟨_,rfl,Au (by rw [CI Ad];unfold Cd;first|(simp_all;done)|(split<;>simp_all<;>omega)|(repeat (any_goals split))<;>first|(simp_all;done)|(exfalso;omega)|(exfalso;simp_all;omega))⟩,ke rfl,ke rfl,ke rfl,ke rfl,trivial⟩ (fun _ _ h=>h)
 refine Tr.skip (Fin.go (Tr.seq (Tr.AW (cm rfl (cm rfl (co rfl (ki rfl rfl rfl rfl) (Ch.nil (Fin.go ?_))))))))
 refine Tr.cn rfl ?_ ?_<;>intro h6 q6
 refine Tr.An (tm rfl (tm rfl (tp rfl (AL (xs:=[.tmp 35]) (rows:=[[_]]) rfl rfl underlying101 Bh z3 rfl (by decide) ⟨⟨(by exact rfl),(Vo rfl)⟩,trivial⟩ (by decide)) ?_)))
 refine TO.DP 0 rfl rfl (by decide) (Bl rfl rfl rfl rfl underlying101 Bh Iu z3 (Kb rfl) (Kf rfl) (Aq (by exact List.Mem.head _) (Ka rfl))) (fun v3=> ?_)
 refine tm rfl (TO.nil (Fin.block (Fin.go (I_ 1 2 7 8 11 12 13 rfl (Tr.AW ?_)))))
 first|(refine GV rfl rfl rfl rfl (by omega) ?_)|refine co rfl (ki rfl rfl rfl rfl) ?_
 refine cm rfl (Ch.nil ?_)
 exact Fin.DC (k+1) v3 (⟨Af,by omega⟩) ⟨⟨_,rfl,AD k⟩,⟨_,rfl,bool_eq (by rw [CI Ad];unfold Cd;first|(simp_all;done)|(split<;>simp_all<;>omega)|(repeat (any_goals split))<;>first|(simp_all;done)|(exfalso;omega)|(exfalso;simp_all;omega))⟩,⟨_,rfl,Au (by rw [CI Ad];unfold Cd;first|(simp_all;done)|(split<;>simp_all<;>omega)|(repeat (any_goals split))<;>first|(simp_all;done)|(exfalso;omega)|(exfalso;simp_all;omega))⟩,ke rfl,ke rfl,ke rfl,ke rfl,trivial⟩ (fun _ _ h=>h)
 refine Tr.skip (Fin.block (Fin.go (Tr.AW ?_)))
 first|(refine GV rfl rfl rfl rfl (by omega) ?_)|refine co rfl (ki rfl rfl rfl rfl) ?_
 refine cm rfl (Ch.nil ?_)
 exact Fin.DC (k+1) v (⟨Af,by omega⟩) ⟨⟨_,rfl,AD k⟩,⟨_,rfl,bool_eq (by rw [CI Ad];unfold Cd;first|(simp_all;done)|(split<;>simp_all<;>omega)|(repeat (any_goals split))<;>first|(simp_all;done)|(exfalso;omega)|(exfalso;simp_all;omega))⟩,⟨_,rfl,Au (by rw [CI Ad];unfold Cd;first|(simp_all;done)|(split<;>simp_all<;>omega)|(repeat (any_goals split))<;>first|(simp_all;done)|(exfalso;omega)|(exfalso;simp_all;omega))⟩,ke rfl,ke rfl,ke rfl,ke rfl,trivial⟩ (fun _ _ h=>h)
 refine cnt h3 rfl (cnt h3 rfl (cnt h3 rfl (co rfl (HM rfl rfl h3 rfl) (Ch.nil (Fin.go (Oe 1 2 7 8 10 11 12 13 26 rfl (Tr.cond rfl (fun h=>nomatch h) (fun _=> ?_))))))))
 refine Tr.skip (Fin.go (Tr.seq (Tr.AW (cm rfl (cm rfl (co rfl (ki rfl rfl rfl rfl) (Ch.nil (Fin.go ?_))))))))
 refine Tr.cn rfl ?_ ?_<;>intro h7 q7
 refine Tr.An (tm rfl (tm rfl (tp rfl (AL (xs:=[.tmp 35]) (rows:=[[_]]) rfl rfl underlying101 Bh z3 rfl (by decide) ⟨⟨(by exact rfl),(Vo rfl)⟩,trivial⟩ (by decide)) ?_)))
 refine TO.DP 0 rfl rfl (by decide) (Bl rfl rfl rfl rfl underlying101 Bh Iu z3 (Kb rfl) (Kf rfl) (Aq (by exact List.Mem.head _) (Ka rfl))) (fun v4=> ?_)
 refine tm rfl (TO.nil (Fin.block (Fin.go (I_ 1 2 7 8 11 12 13 rfl (Tr.AW ?_)))))
 first|(refine GV rfl rfl rfl rfl (by omega) ?_)|refine co rfl (ki rfl rfl rfl rfl) ?_
 refine cm rfl (Ch.nil ?_)
 exact Fin.DC (k+1) v4 (⟨Af,by omega⟩) ⟨⟨_,rfl,AD k⟩,⟨_,rfl,bool_eq (by rw [CI Ad];unfold Cd;first|(simp_all;done)|(split<;>simp_all<;>omega)|(repeat (any_goals split))<;>first|(simp_all;done)|(exfalso;omega)|(exfalso;simp_all;omega))⟩,⟨_,rfl,Au (by rw [CI Ad];unfold Cd;first|(simp_all;done)|(split<;>simp_all<;>omega)|(repeat (any_goals split))<;>first|(simp_all;done)|(exfalso;omega)|(exfalso;simp_all;omega))⟩,ke rfl,ke rfl,ke rfl,ke rfl,trivial⟩ (fun _ _ h=>h)
 refine Tr.skip (Fin.block (Fin.go (Tr.AW ?_)))
 first|(refine GV rfl rfl rfl rfl (by omega) ?_)|refine co rfl (ki rfl rfl rfl rfl) ?_
 refine cm rfl (Ch.nil ?_)
 exact Fin.DC (k+1) v (⟨Af,by omega⟩) ⟨⟨_,rfl,AD k⟩,⟨_,rfl,bool_eq (by rw [CI Ad];unfold Cd;first|(simp_all;done)|(split<;>simp_all<;>omega)|(repeat (any_goals split))<;>first|(simp_all;done)|(exfalso;omega)|(exfalso;simp_all;omega))⟩,⟨_,rfl,Au (by rw [CI Ad];unfold Cd;first|(simp_all;done)|(split<;>simp_all<;>omega)|(repeat (any_goals split))<;>first|(simp_all;done)|(exfalso;omega)|(exfalso;simp_all;omega))⟩,ke rfl,ke rfl,ke rfl,ke rfl,trivial⟩ (fun _ _ h=>h)
 refine cnt h2 rfl (cnt h2 rfl (co rfl (HM rfl rfl h2 rfl) (cm rfl (bn rfl rfl (bn rfl rfl (bn rfl rfl (co rfl (HM rfl rfl rfl rfl) (Ch.nil (Fin.go (Oe 1 2 7 8 10 11 12 13 26 rfl (Tr.cond rfl (fun h=>nomatch h) (fun _=> ?_))))))))))))
 refine Tr.skip (Fin.go (Tr.seq (Tr.AW (cm rfl (cm rfl (co rfl (ki rfl rfl rfl rfl) (Ch.nil (Fin.go ?_))))))))
 refine Tr.cn rfl ?_ ?_<;>intro h8 q8
 refine Tr.An (tm rfl (tm rfl (tp rfl (AL (xs:=[.tmp 35]) (rows:=[[_]]) rfl rfl underlying101 Bh z3 rfl (by decide) ⟨⟨(by exact rfl),(Vo rfl)⟩,trivial⟩ (by decide)) ?_)))
 refine TO.DP 0 rfl rfl (by decide) (Bl rfl rfl rfl rfl underlying101 Bh Iu z3 (Kb rfl) (Kf rfl) (Aq (by exact List.Mem.head _) (Ka rfl))) (fun v5=> ?_)
 refine tm rfl (TO.nil (Fin.block (Fin.go (I_ 1 2 7 8 11 12 13 rfl (Tr.AW ?_)))))
 first|(refine GV rfl rfl rfl rfl (by omega) ?_)|refine co rfl (ki rfl rfl rfl rfl) ?_
 refine cm rfl (Ch.nil ?_)
 exact Fin.DC (k+1) v5 (⟨Af,by omega⟩) ⟨⟨_,rfl,AD k⟩,⟨_,rfl,bool_eq (by rw [CI Ad];unfold Cd;first|(simp_all;done)|(split<;>simp_all<;>omega)|(repeat (any_goals split))<;>first|(simp_all;done)|(exfalso;omega)|(exfalso;simp_all;omega))⟩,⟨_,rfl,Au (by rw [CI Ad];unfold Cd;first|(simp_all;done)|(split<;>simp_all<;>omega)|(repeat (any_goals split))<;>first|(simp_all;done)|(exfalso;omega)|(exfalso;simp_all;omega))⟩,ke rfl,ke rfl,ke rfl,ke rfl,trivial⟩ (fun _ _ h=>h)
 refine Tr.skip (Fin.block (Fin.go (Tr.AW ?_)))
 first|(refine GV rfl rfl rfl rfl (by omega) ?_)|refine co rfl (ki rfl rfl rfl rfl) ?_
 refine cm rfl (Ch.nil ?_)
 exact Fin.DC (k+1) v (⟨Af,by omega⟩) ⟨⟨_,rfl,AD k⟩,⟨_,rfl,bool_eq (by rw [CI Ad];unfold Cd;first|(simp_all;done)|(split<;>simp_all<;>omega)|(repeat (any_goals split))<;>first|(simp_all;done)|(exfalso;omega)|(exfalso;simp_all;omega))⟩,⟨_,rfl,Au (by rw [CI Ad];unfold Cd;first|(simp_all;done)|(split<;>simp_all<;>omega)|(repeat (any_goals split))<;>first|(simp_all;done)|(exfalso;omega)|(exfalso;simp_all;omega))⟩,ke rfl,ke rfl,ke rfl,ke rfl,trivial⟩ (fun _ _ h=>h)
 have BI:k=(s).length:=by have:=AJ h1;omega
 subst BI
 rw [List.take_length]
 have hwl:=Pn n has s
 refine Tr.exit (Fin.AS (Fin.AS (Fin.Ak (Fin.go (Tr.seq (Tr.seq (Tr.AW (cm rfl (cm rfl ?_)))))))))
 refine Ch.cs 40 rfl ?_ ?_<;>intro h9 q9
 refine FZ h9 rfl (cy h9 rfl (HI rfl (vl rfl)) (co rfl (HK rfl rfl h9 rfl) (Ch.nil (Fin.go ?_))))
 refine Tr.cn rfl ?_ ?_<;>intro h10 Oa
 refine Tr.An (tm rfl (tm rfl (tp rfl (AL (xs:=[.tmp 45]) (rows:=[[_]]) rfl rfl underlying101 Bh z3 rfl (by decide) ⟨⟨(by exact rfl),(Vo rfl)⟩,trivial⟩ (by decide)) ?_)))
 refine TO.DP 0 rfl rfl (by decide) (Bl rfl rfl rfl rfl underlying101 Bh Iu z3 (Kb rfl) (Kf rfl) (Aq (by exact List.Mem.head _) (Ka rfl))) (fun v6=> ?_)
 refine tm rfl (TO.nil (Fin.go (Eh 7 rfl (Tr.seq (Tr.AW (cm rfl (cm rfl (Ch.nil (Fin.go (Tr.ret (Fin.DZ rfl (BE.CZ _ _) rfl ?_)))))))))))
 · exact Pr.le_trans (Ah _ _) (Pr.le_of_eq (by unfold Eg;first|(simp_all;done)|(rw [if_pos (by simp_all)];show _=slice 1 _;rw [List.map_append];rfl)))
 refine Tr.skip (Fin.go (Tr.seq (Tr.AW (cm rfl (cm rfl (Ch.nil (Fin.go (Eh 6 rfl (Tr.ret (Fin.DZ rfl (BE.CZ _ _) rfl ?_))))))))))
 · exact Pr.le_trans (Ah _ _) (Pr.le_of_eq (by unfold Eg;first|(simp_all;done)|(rw [if_pos (by simp_all)];show _=slice 1 _;rw [List.map_append];rfl)))
 refine cnt h9 rfl (cnt h9 rfl (co rfl (HM rfl rfl h9 rfl) (Ch.nil (Fin.go (Tr.cond rfl (fun h=>nomatch h) (fun _=> ?_))))))
 refine Tr.skip (Fin.go (Tr.seq (Tr.AW (cm rfl (cm rfl (Ch.nil (Fin.go (Eh 6 rfl (Tr.ret (Fin.DZ rfl (BE.CZ _ _) rfl ?_))))))))))
 · exact Pr.le_trans (Ah _ _) (Pr.le_of_eq (by unfold Eg;first|(simp_all;done)|(rw [if_pos (by simp_all)];show _=slice 1 _;rw [List.map_append];rfl)))
theorem L6 {n:Nat} {l:List BS} {s:List Int} {add:Bool} (hs:s.length≤100000) (hn:n≤100000):Az prog 90 [int ((n:Nat):Int),reqs l,ints s,bool add] (ints (F4 n l s add)):=by
 refine fo func90 rfl ⟨rfl,rfl⟩ fun M0 w0=> ?_
 refine a3 ?_
 refine Tr.block (Tr.Bs 3 1 (Tr.EN [(1,_),(2,_),(3,_),(11,_)] ⟨ke rfl,ke rfl,ke rfl,ke rfl,trivial⟩ (fun k v=>[(12,int ((k:Nat):Int)),(9,Ag v (ints (F4 k l s add)))]) (fun k v=>Hp M0 w0 Eo ([Ap 3 1 v])) (fun k:Nat=>k≤n) (fun k:Nat=>n-k) 0 (.slice none 0 0) (Nat.zero_le _) ⟨ke rfl,⟨_,rfl,BX rfl⟩,trivial⟩ (fun _ _ h=>h) ?_))
 rintro k v hkn
 refine ac ?_
 refine Tr.seq ?_
 refine Tr.cn rfl ?_ ?_<;>intro h1 q1
 have hk1:k<n:=by have:=D_.Ey h1;omega
 have S4:=SP k l s add
 refine a3 ?_
 refine co rfl (CS (Ig) rfl rfl rfl) (cm rfl (co rfl (TJ rfl underlying4 (vl rfl) (vl rfl)) (cm rfl ?_)))
 refine Ch.cs 20 rfl ?_ ?_<;>intro h2 q2
 refine ac ?_
 refine cy h2 rfl (JH (Fj (by omega)) rfl rfl rfl rfl) (cy h2 rfl (CS (SO) rfl rfl rfl) ?_)
 refine ac ?_
 refine Jx 1 2 3 9 10 11 12 27 rfl ?_
 refine Tr.cn rfl ?_ ?_<;>intro h3 q3
 refine ap ?_
 refine TO.DP 0 rfl rfl (by decide) (Bl rfl rfl rfl rfl underlying101 Bh Iu z3 (Kb rfl) (Kf rfl) (Aq (by exact List.Mem.head _) (Ka rfl))) (fun v1=> ?_)
 refine ap ?_
 refine Tr.AW ?_
 first|(refine GV rfl rfl rfl rfl (by omega) ?_)|refine co rfl (ki rfl rfl rfl rfl) ?_
 refine ac ?_
 exact Fin.DC (k+1) v1 (⟨by omega,by omega⟩) ⟨⟨_,rfl,AD k⟩,⟨_,rfl,Au (by rw [aA (by unfold Q2;simp_all)];simp)⟩,ke rfl,ke rfl,ke rfl,ke rfl,trivial⟩ (fun _ _ h=>h)
 refine ac ?_
 refine Tr.AW ?_
 first|(refine GV rfl rfl rfl rfl (by omega) ?_)|refine co rfl (ki rfl rfl rfl rfl) ?_
 refine ac ?_
 exact Fin.DC (k+1) v (⟨by omega,by omega⟩) ⟨⟨_,rfl,AD k⟩,⟨_,rfl,Au (by rw [Vn (by unfold Q2;simp_all)])⟩,ke rfl,ke rfl,ke rfl,ke rfl,trivial⟩ (fun _ _ h=>h)
 refine ac ?_
 refine Jx 1 2 3 9 10 11 12 27 rfl ?_
 refine ac ?_
 refine Tr.AW ?_
 first|(refine GV rfl rfl rfl rfl (by omega) ?_)|refine co rfl (ki rfl rfl rfl rfl) ?_
 refine ac ?_
 exact Fin.DC (k+1) v (⟨by omega,by omega⟩) ⟨⟨_,rfl,AD k⟩,⟨_,rfl,Au (by rw [Vn (by unfold Q2;simp_all)])⟩,ke rfl,ke rfl,ke rfl,ke rfl,trivial⟩ (fun _ _ h=>h)
 obtain rfl:k=n:=by have:=D_.Ey h1;omega
 refine a3 ?_
 · exact Ah _ _
theorem UF {c:A9} {a b:List Int} {t n x:Int} (hf:c.Cw a b []=0) (ht:c.has t=true) (PW:a.length<24) (h:c.early a b t n=some x):n≤x∧(0≤x∧x≤40000)∧c.Cw (a++[t]) (b++[x]) []=0:=by
 have ho:=FI (F2 hf)
 rw [Ic (by rw [F3 ht];exact hf)] at h
 unfold A9.next at h
 obtain ⟨h1,h2⟩:=G_ ho
 obtain ⟨h3,⟨j,w,hj,h4,h5,h7⟩,_⟩:=L3 h (HA h1 h2) h2
 rw [Nat.zero_add] at h7
 have hw:=List.any_eq_false.1 (Jm ho).2.2.1 w (List.mem_of_getElem? hj)
 have hl:=Nv h4
 simp [Jk] at hw
 have hop:c.K5 (a.zip b) t x=true:=(fD ho).2 ⟨j,w,hj,h4,h5,h7⟩
 refine ⟨by omega,by omega,?_⟩
 rw [←Z1 hf PW ht] at hop
 exact of_decide_eq_true hop
def Eu (l:List BS) (Jq:List Int) (i fr:Int):Int:=l.foldl (fun a r=>if r.thn=i then max a (Jq.getD r.fst.toNat 0+1) else a) fr
theorem N7 {Jq:List Int} {i:Int}:∀{l:List BS} {fr:Int},fr≤Eu l Jq i fr
 |[],_=>Int.le_refl _
 |r::l,fr=>by
  have h:= @N7 Jq i l (if r.thn=i then max fr (Jq.getD r.fst.toNat 0+1) else fr)
  unfold Eu at h ⊢
  rw [List.foldl_cons]
  split at h
  next h2=>rw [if_pos h2];omega
  next h2=>rw [if_neg h2];exact h
theorem N8 {Jq:List Int} {i:Int} {r:BS}:∀{l:List BS} {fr:Int},r∈l→r.thn=i→Jq.getD r.fst.toNat 0<Eu l Jq i fr
 |[],_,h,_=>by cases h
 |x::l,fr,h,h2=>by
  unfold Eu
  rw [List.foldl_cons]
  rcases List.mem_cons.1 h with rfl|h
  ·
   have h3:= @N7 Jq i l (if r.thn=i then max fr (Jq.getD r.fst.toNat 0+1) else fr)
   unfold Eu at h3
   rw [if_pos h2] at h3 ⊢
   omega
  · exact N8 h h2
abbrev S8 (t:List Int) (i:Int):Int:=t.getD i.toNat 0
open Classical in
noncomputable def I6 (c:A9) (l:List BS) (t:List Int) (fr:Int) (st:Option (List Int×List Int×List Int)) (i:Int):Option (List Int×List Int×List Int):=
 match st with
 |none=>none
 |some (Jq,busy,days)=>match c.early busy days (S8 t i) (Eu l Jq i fr) with
  |none=>none
  |some d=>some (Jq.set i.toNat d,busy++[S8 t i],days++[d])
noncomputable def LR (c:A9) (l:List BS) (t:List Int) (fr:Int) (n:Nat) (row:List Int):Option (List Int×List Int×List Int):=row.foldl (I6 c l t fr) (some (List.replicate n 0,[],[]))
theorem Po {c:A9} {l:List BS} {t:List Int} {fr:Int}:∀(row:List Int),row.foldl (I6 c l t fr) none=none
 |[]=>rfl
 |_::row=>Po row
theorem LS {c:A9} {l:List BS} {t:List Int} {fr:Int} {n k:Nat} {row:List Int} {i:Int} (h:row[k]? =some i):LR c l t fr n (row.take (k+1))=I6 c l t fr (LR c l t fr n (row.take k)) i:=by
 unfold LR
 rw [List.take_add_one,h,List.foldl_append];rfl
theorem Pp {c:A9} {l:List BS} {t:List Int} {fr:Int} {n k:Nat} {row:List Int} {i:Int} {d b y:List Int} (h:row[k]? =some i) (hs:LR c l t fr n (row.take k)=some (d,b,y)) (he:c.early b y (S8 t i) (Eu l d i fr)=none):LR c l t fr n row=none:=by
 have h1:LR c l t fr n (row.take (k+1))=none:=by rw [LS h,hs];simp only [I6,he]
 unfold LR at h1 ⊢
 rw [←List.take_append_drop (k+1) row,List.foldl_append,h1]
 exact Po _
theorem fI {c:A9} {l:List BS} {t:List Int} {fr:Int} {n k:Nat} {row:List Int} {i x:Int} {d b y:List Int} (h:row[k]? =some i) (hs:LR c l t fr n (row.take k)=some (d,b,y)) (he:c.early b y (S8 t i) (Eu l d i fr)=some x):LR c l t fr n (row.take (k+1))=some (d.set i.toNat x,b++[S8 t i],y++[x]):=by
 rw [LS h,hs];simp only [I6,he]
structure Om (c:A9) (l:List BS) (t row:List Int) (fr:Int) (n k:Nat) (Jq busy days:List Int):Prop where
 len:Jq.length=n
 hb:busy=(row.take k).map (S8 t)
 hd:days=(row.take k).map fun i=>Jq.getD i.toNat 0
 bnd:∀x∈Jq,0≤x∧x≤40000
 ge:∀i∈row.take k,fr≤Jq.getD i.toNat 0
 ord:∀r∈l,r.thn∈row.take k→Jq.getD r.fst.toNat 0<Jq.getD r.thn.toNat 0
 fit:c.Cw busy days []=0
theorem FK {l:List Int} {i j d:Int} (hi:0≤i) (hj:0≤j) (h:i.toNat<l.length):(l.set i.toNat d).getD j.toNat 0=if j=i then d else l.getD j.toNat 0:=by
 rw [List.getD_eq_getElem?_getD,List.getElem?_set]
 by_cases e:j=i
 · subst e;rw [if_pos rfl,if_pos h,if_pos rfl];rfl
 · rw [if_neg (by omega),if_neg e,List.getD_eq_getElem?_getD]
theorem UG {l:List Int} {k:Nat} {i:Int} (hn:l.Nodup) (h:l[k]? =some i):i∉l.take k:=by
 intro hm
 obtain ⟨j,hj⟩:=List.mem_iff_getElem?.1 hm
 rw [List.getElem?_take] at hj
 split at hj
 next hjk=>
  have:=(List.getElem?_inj (by rcases Nat.lt_or_ge j l.length with h2|h2;exact h2;rw [List.getElem?_eq_none h2] at hj;cases hj) hn).1 (hj.trans h.symm)
  omega
 next=>cases hj
theorem Om.next {c:A9} {l:List BS} {t row done:List Int} {fr d i:Int} {n k:Nat} {Jq busy days:List Int} (h:Om c l t row fr n k Jq busy days) (hr:LP (n:Int) l row done) (hk:row[k]? =some i) (hl:∀r∈l,0≤r.fst∧0≤r.thn∧r.fst≠r.thn) (hn:n≤24) (ht:c.has (S8 t i)=true)
  (he:c.early busy days (S8 t i) (Eu l Jq i fr)=some d):Om c l t row fr n (k+1) (Jq.set i.toNat d) (busy++[S8 t i]) (days++[d]):=by
 have hi:=hr.Q3 i (List.mem_of_getElem? hk)
 have hni:=UG hr.nd hk
 have hlen:i.toNat<Jq.length:=by rw [h.len];omega
 have S2:k<row.length:=by rcases Nat.lt_or_ge k row.length with h2|h2;exact h2;rw [List.getElem?_eq_none h2] at hk;cases hk
 have hrl:=hr.len
 have S4:busy.length<24:=by rw [h.hb,List.length_map,List.length_take];omega
 obtain ⟨e1,e2,e3⟩:=UF h.fit ht S4 he
 have hf:= @N7 Jq i l fr
 have mS:row.take (k+1)=row.take k++[i]:=by rw [List.take_add_one,hk];rfl
 have aB:∀j∈row.take k,0≤j∧j≠i:=fun j hj=>⟨(hr.Q3 j (List.mem_of_mem_take hj)).1,fun e=>hni (e ▸ hj)⟩
 refine ⟨by rw [List.length_set];exact h.len,by rw [mS,List.map_append,←h.hb];rfl,?_,fun x hx=> ?_,fun j hj=> ?_,fun r lN hm=> ?_,e3⟩
 ·
  rw [mS,List.map_append,h.hd]
  have h1:∀j∈row.take k,Jq.getD j.toNat 0=(Jq.set i.toNat d).getD j.toNat 0:=fun j hj=>by
   rw [FK hi.1 (aB j hj).1 hlen,if_neg (aB j hj).2]
  rw [List.map_congr_left h1]
  congr 1
  show [d]=[(Jq.set i.toNat d).getD i.toNat 0]
  rw [FK hi.1 hi.1 hlen,if_pos rfl]
 ·
  rcases List.mem_or_eq_of_mem_set hx with hx|hx
  · exact h.bnd x hx
  · subst hx;exact e2
 ·
  rw [mS,List.mem_append,List.mem_singleton] at hj
  rcases hj with hj|rfl
  · rw [FK hi.1 (aB j hj).1 hlen,if_neg (aB j hj).2];exact h.ge j hj
  · rw [FK hi.1 hi.1 hlen,if_pos rfl];omega
 ·
  rw [mS,List.mem_append,List.mem_singleton] at hm
  have hq:=hl r lN
  rcases hm with hm|hm
  ·
   have h3:r.fst∈row.take k:=by
    obtain ⟨j,hj⟩:=List.mem_iff_getElem?.1 hm
    rw [List.getElem?_take] at hj
    split at hj
    next hjk=>
     have h4:=hr.lQ j _ hj r lN rfl
     exact (List.take_subset_take_left row (by omega)) h4
    next=>cases hj
   rw [FK hi.1 hq.1 hlen,if_neg (aB _ h3).2,FK hi.1 hq.2.1 hlen,if_neg (aB _ hm).2]
   exact h.ord r lN hm
  ·
   have h3:=hr.lQ k i hk r lN hm
   rw [FK hi.1 hq.1 hlen,if_neg (aB _ h3).2,FK hi.1 hq.2.1 hlen,if_pos hm]
   have:=N8 (Jq:=Jq) (i:=i) (fr:=fr) lN hm
   omega
theorem Om.nil {c:A9} {l:List BS} {t row:List Int} {fr:Int} {n:Nat} (ho:c.own=0):Om c l t row fr n 0 (List.replicate n 0) [] []:=
 ⟨List.length_replicate,rfl,rfl,fun x hx=>by rw [List.eq_of_mem_replicate hx];omega,fun i h=>by simp at h,fun r _ h=>by simp at h,Z0 ho⟩
theorem Om.run {c:A9} {l:List BS} {t row done:List Int} {fr:Int} {n:Nat} (hr:LP (n:Int) l row done) (hl:∀r∈l,0≤r.fst∧0≤r.thn∧r.fst≠r.thn) (hn:n≤24) (ho:c.own=0) (ht:∀i:Int,0≤i→i<(n:Int)→c.has (S8 t i)=true):∀(k:Nat) {d b y:List Int},k≤row.length→LR c l t fr n (row.take k)=some (d,b,y)→Om c l t row fr n k d b y
 |0,d,b,y,_,h=>by
  have h:some (List.replicate n 0,([]:List Int),([]:List Int))=some (d,b,y):=h
  cases h
  exact Om.nil ho
 |k+1,d,b,y,hk,h=>by
  obtain ⟨i,hi⟩:=at_ (l:=row) (k:=k) (by omega)
  have aB:=hr.Q3 i (List.mem_of_getElem? hi)
  rw [LS hi] at h
  cases hs:LR c l t fr n (row.take k) with
  |none=>rw [hs] at h;cases h
  |some p=>
   obtain ⟨d1,b1,y1⟩:=p
   have ih:=Om.run hr hl hn ho ht k (by omega) hs
   rw [hs] at h
   simp only [I6] at h
   cases he:c.early b1 y1 (S8 t i) (Eu l d1 i fr) with
   |none=>rw [he] at h;cases h
   |some x=>
    rw [he] at h
    cases h
    exact ih.next hr hi hl hn (ht i aB.1 aB.2) he
theorem LP.all {n:Nat} {l:List BS} {row done:List Int} (hr:LP (n:Int) l row done) (hlen:row.length=n):row.Perm ((List.range n).map fun i:Nat=>(i:Int)):=by
 have hnd:((List.range n).map fun i:Nat=>(i:Int)).Nodup:=by
  refine List.Pairwise.map _ (fun a b hab=> ?_) (List.nodup_range (n:=n))
  intro e;apply hab;omega
 have hsub:∀x∈row,x∈(List.range n).map fun i:Nat=>(i:Int):=fun x hx=>by
  have:=hr.Q3 x hx
  exact List.mem_map.2 ⟨x.toNat,List.mem_range.2 (by omega),by omega⟩
 refine (List.perm_ext_iff_of_nodup hr.nd hnd).2 fun a=>⟨hsub a,fun ha=> ?_⟩
 refine Classical.byContradiction fun hna=> ?_
 have h1:=Mo (L:=a::row) (M:=(List.range n).map fun i:Nat=>(i:Int)) (List.nodup_cons.2 ⟨hna,hr.nd⟩) (fun x hx=>by
  rcases List.mem_cons.1 hx with rfl|hx
  · exact ha
  · exact hsub x hx)
 simp at h1;omega
end Go.Proofs.YtmpglcehonnpkaaGreat
namespace Cp
open Go Go.RowKit Go.Great
section
variable {P:Program} {L:Lg P} {n:Fm} {fz:Nat} {E:Env} {M0:Av} {w0:World} {S:Nat→Prop} {rs:List As} {o:Oper} {g:Func} {M1:Av} {w1:World}
end
section
variable {P:Program} {L:Lg P} {n:Fm} {fz:Nat} {E:Env} {M0:Av} {w0:World} {S:Nat→Prop} {rs:List As}
end
end Cp
namespace Cp
open Go Go.RowKit
abbrev FL (ρ:Option Nat):Fence:={ Fence.wide with round:=ρ }
section
variable {P:Program} {ρ:Option Nat}
def L7 (o:Oper):Bool:=match o.op with
 | .defer _=>false
 |_=>true
theorem ij {o:Oper} {a:Act} {w:World} {K K':Act→World→Prop} {Q:Exit→Act→World→Prop} (hc:L7 o=true) (hK:∀a w,K a w→K' a w) (h:o.wp P a w K Q):o.wpIn (FL ρ) 0 P a w K' Q:=by
 refine ⟨fun _ _=>trivial,?_⟩
 rw [Oper.semAt_eq _ _ _ (fun c hh=>by unfold L7 at hc;rw [hh] at hc;cases hc)]
 unfold Oper.wp at h
 generalize (execOp a.eval o).run P w=r at h ⊢
 cases r with
 |halt x w'=>cases x<;>first|exact h|exact h.elim
 |ok x w'=>
  cases x<;>first|exact h.elim|skip
  case value v=>exact hK _ _ h
  case skip=>exact hK _ _ h
  case defer d=>exact hK _ _ h
  case enter f args=>exact ⟨fun hh=>(by cases hh),callsIn_wide.2 (h.mono fun e w'' hr=>by cases e<;>first|exact hK _ _ hr|exact hr)⟩
  case row row args=>
   refine ⟨fun hh=>(by cases hh),fun c cs _=> ?_⟩
   obtain ⟨v,w2,h1,h2⟩:=h c cs
   exact ⟨v,w2,hK _ _ h1,stepsIn_wide.2 h2⟩
theorem aC {ops:Array Oper} {Q:Exit→Act→World→Prop} (hc:∀(i:Nat) o,ops[i]? =some o→L7 o=true):∀(l:List Nat) (a:Act) (w:World),wpS P ops Q l a w→wpOpsIn (FL ρ) 0 P ops Q l a w
 |[],_,_,h=>h
 |i::l,a,w,h=>by
  have ih:=aC (Q:=Q) hc l
  unfold wpS at h
  unfold wpOpsIn
  cases ho:ops[i]? with
  |none=>rw [ho] at h;exact ih a w h
  |some o=>
   rw [ho] at h
   dsimp only at h ⊢
   split
   next hw=>rw [if_pos hw] at h;exact ij (hc i o ho) ih h
   next hw=>rw [if_neg hw] at h;exact ⟨fun _ _=>trivial,ih _ _ h⟩
theorem lT {ops:Array Oper} {Q:Exit→Act→World→Prop} (hc:∀(i:Nat) o,ops[i]? =some o→L7 o=true) {i:Nat} {K K':Act→World→Prop} {a:Act} {w:World} (hK:∀a w,K a w→K' a w) (h:Mw P ops Q i K a w):wpOpIn (FL ρ) 0 P ops Q i K' a w:=by
 unfold Mw at h
 unfold wpOpIn
 cases ho:ops[i]? with
 |none=>rw [ho] at h;exact hK _ _ h
 |some o=>
  rw [ho] at h
  dsimp only at h ⊢
  split
  next hw=>rw [if_pos hw] at h;exact ij (hc i o ho) hK h
  next hw=>rw [if_neg hw] at h;exact ⟨fun _ _=>trivial,hK _ _ h⟩
theorem aD {ops:Array Oper} {md:Region.Mode} {Q:Exit→Act→World→Prop} (hc:∀(i:Nat) o,ops[i]? =some o→L7 o=true):∀(fuel:Nat) (listed:Array Bool) (a:Act) (w:World),JQ P md ops Q fuel listed a w→wpAnyIn (FL ρ) 0 P md ops Q fuel listed a w
 |0,_,_,_,h=>h
 |fuel+1,_,_,_,h=>⟨h.1,fun i hi=>lT hc (aD hc fuel _) (h.2 i hi)⟩
theorem fJ {l:List Oper} (hc:calm l=true):∀(i:Nat) o,l.toArray[i]? =some o→L7 o=true:=fun i o ho=>by
 have hm:o∈l:=List.mem_of_getElem? (by simpa using ho)
 have:=List.all_eq_true.1 hc o hm
 unfold L7;revert this;cases o.op<;>simp
theorem fK {c:Code} {Q:Exit→Act→World→Prop} {α:Type} (μ:α→Nat) (R:α→Act→World→Prop) (round:∀x a w,R x a w→c.wpIn (FL ρ) 0 P (Exit.then (fun a' w'=>∃y,μ y<μ x∧R y a' w') Q) a w) (x:α) (a:Act) (w:World) (hx:R x a w):(Code.loop c).wpIn (FL ρ) 0 P Q a w:=by
 intro b k cs hro hb hr
 have key:∀m x a w,μ x=m→R x a w→∃e a' w',Q e a' w'∧ArrivesIn (Machine.fenced P (FL ρ)) P (lone (b.atR a (.code c:: .inLoop c::k)) cs w) b k cs e a' w':=by
  intro m
  induction m using Nat.strongRecOn with
  |_ m ih=>
   intro x a w hm hx
   obtain ⟨e,a₁,w₁,hq,Gu⟩:=round x a w hx b (.inLoop c::k) cs hro hb hr
   cases e with
   |normal=>
    obtain ⟨y,hlt,hy⟩:=hq
    obtain ⟨e₂,a₂,w₂,Xz,P9⟩:=ih (μ y) (hm ▸ hlt) y a₁ w₁ rfl hy
    exact ⟨e₂,a₂,w₂,Xz,.of_steps (StepsIn.trans Gu (.one (fenced_calm hb hr rfl) stepR_inLoop)) P9⟩
   |exit id=>exact ⟨_,a₁,w₁,hq,.pass (x:= .inLoop c) rfl (fun _ _=> .inl (by simp)) Gu⟩
   |goto l=>exact ⟨_,a₁,w₁,hq,.pass (x:= .inLoop c) rfl (fun _ _=> .inl (by simp)) Gu⟩
   |ret=>exact ⟨_,a₁,w₁,hq,.pass (x:= .inLoop c) rfl (fun _ _=> .inl (by simp)) Gu⟩
   |panic ch=>exact ⟨_,a₁,w₁,hq,.pass (x:= .inLoop c) rfl (fun _ _=> .inl (by simp)) Gu⟩
   |outgrown=>exact ⟨_,a₁,w₁,hq,.pass (x:= .inLoop c) rfl (fun _ _=> .inl (by simp)) Gu⟩
 obtain ⟨e,a',w',hq,Gu⟩:=key _ x a w rfl hx
 exact ⟨e,a',w',hq,.of_steps (.one (fenced_calm hb hr rfl) stepR_loop) Gu⟩
@[reducible] def lgR (P:Program) (ρ:Option Nat):Lg P where
 wp c Q a w:=c.wpIn (FL ρ) 0 P Q a w
 mono hq h:=wpIn_mono h hq
 skip h:=wpIn_skip h
 ret h:=wpIn_ret h
 exit h:=wpIn_exit h
 seq h:=wpIn_seq h
 block h:=wpIn_block h
 cond hc ht hf:=wpIn_cond_split hc ht hf
 loop:=fK
 region {id l Q a w} hc h:=wpIn_region (aC (fun i o ho=>by
  have hm:o∈l:=List.mem_of_getElem? (by simpa using ho)
  have:=List.all_eq_true.1 hc o hm
  unfold L7;revert this;cases o.op<;>simp) _ _ _ (by simpa [List.range_eq_range'] using h))
 draw hc hm h:=wpIn_region_any hm (aD (fJ hc) _ _ _ _ h)
end
end Cp
namespace Cp
open Go Go.RowKit Go.Great
section
variable {P:Program} {L:Lg P} {n:Fm} {fz:Nat} {E:Env} {M0:Av} {w0:World} {S:Nat→Prop} {rs:List As} {o:Oper}
end
end Cp
namespace Cp
open Go Go.RowKit
theorem CL.K5 {M:Av} {w:World} {E:Env} {o:Oper} {a:Act} (s:Nat) {α:Type} {f:α→Pr} (hs:E.lookup s=some (Cp.ex f)) (hm:s∈looks o) (he:CL M w E o a):∃x,CL M w ((s,f x)::E) o a:=by
 obtain ⟨x,hx⟩:=he s _ hm hs
 refine ⟨x,fun t q ht hq=> ?_⟩
 simp only [List.lookup] at hq
 by_cases hts:t=s
 · subst hts;simp at hq;subst hq;exact hx
 · rw [show (t==s)=false by simpa using hts] at hq;exact he t q ht hq
theorem CL.opf {M:Av} {w:World} {E:Env} {o:Oper} {a:Act} {φ:Prop} {p:Pr} (s:Nat) (hs:E.lookup s=some (Cp.fact φ p)) (hm:s∈looks o) (he:CL M w E o a):φ∧CL M w ((s,p)::E) o a:=by
 obtain ⟨hφ,hx⟩:=he s _ hm hs
 refine ⟨hφ,fun t q ht hq=> ?_⟩
 simp only [List.lookup] at hq
 by_cases hts:t=s
 · subst hts;simp at hq;subst hq;exact hx
 · rw [show (t==s)=false by simpa using hts] at hq;exact he t q ht hq
section
variable {P:Program} {M0:Av} {w0:World} {S:Nat→Prop} {n:Fm} {j:Nat} {R R':SR} {E:Env} {o:Oper}
theorem Dn.K5 {p:Pr} (s:Nat) {α:Type} {f:α→Pr} (hg:o.guard=none) (hs:E.lookup s=some (Cp.ex f)) (hm:s∈looks o) (h:∀x,Dn P M0 w0 S n j R R' o ((s,f x)::E) p):Dn P M0 w0 S n j R R' o E p:=
 ⟨hg,fun M w a rs hsz he hI hj=>by obtain ⟨x,hx⟩:=he.K5 s hs hm;exact (h x).2 M w a rs hsz hx hI hj⟩
theorem Dn.opf {p q:Pr} {φ:Prop} (s:Nat) (hg:o.guard=none) (hs:E.lookup s=some (Cp.fact φ q)) (hm:s∈looks o) (h:φ→Dn P M0 w0 S n j R R' o ((s,q)::E) p):Dn P M0 w0 S n j R R' o E p:=
 ⟨hg,fun M w a rs hsz he hI hj=>by obtain ⟨hφ,hx⟩:=he.opf s hs hm;exact (h hφ).2 M w a rs hsz hx hI hj⟩
theorem Dn.le {p q:Pr} (h:Dn P M0 w0 S n j R R' o E p) (hl:Pr.le p q):Dn P M0 w0 S n j R R' o E q:=by
 refine ⟨h.1,fun M w a rs hsz he hI hj=> ?_⟩
 have this:=h.2 M w a rs hsz he hI hj
 generalize (execOp a.eval o).run P w=r at this ⊢
 unfold FN at this
 split at this
 · obtain ⟨M',h1,h2,h3⟩:=this;exact ⟨M',hl _ _ _ h1,h2,h3⟩
 · obtain ⟨M',h1,h2,h3⟩:=this;exact ⟨M',hl _ _ _ h1,h2,h3⟩
 · exact Calls.mono this fun _ _ ⟨v,M',h0,h1,h2,h3⟩=>⟨v,M',h0,hl _ _ _ h1,h2,h3⟩
 · exact this.elim
end
theorem aE {z:Array Value} {n:Nat} {u:Value} (h0:0<z.size) (h:u∈(madeCells z n).toList):u∈z.toList:=by
 simp only [madeCells,Array.toList_map,List.mem_map] at h
 obtain ⟨k,_,rfl⟩:=h
 have hk:k % z.size<z.size:=Nat.mod_lt _ h0
 rw [getElem!_pos z _ hk]
 exact Array.getElem_mem_toList hk
theorem fL {z:Array Value} {m sz i j:Nat} {u:Value} (hz:z.size=sz) (hi:i<m) (hu:z.toList[j]? =some u):(madeCells z (m*sz)).toList[i*sz+j]? =some u:=by
 have hjl:j<sz:=by
  rcases Nat.lt_or_ge j sz with h|h
  · exact h
  · rw [List.getElem?_eq_none (by simp;omega)] at hu;cases hu
 have hlt:i*sz+j<m*sz:=by
  have:(i+1)*sz≤m*sz:=Nat.mul_le_mul_right sz hi
  rw [Nat.add_mul] at this;omega
 have hmod:(i*sz+j) % sz=j:=by rw [Nat.mul_comm,Nat.mul_add_mod,Nat.mod_eq_of_lt hjl]
 have hjz:j<z.size:=by omega
 rw [Array.getElem?_toList] at hu ⊢
 rw [Array.getElem?_eq_getElem hjz] at hu
 simp only [madeCells]
 rw [Array.getElem?_map,Array.getElem?_range,if_pos hlt,Option.map_some,hz,hmod,getElem!_pos z _ hjz,hu]
theorem N9 {P:Program} {I:CT} {E:Env} {o:Oper} {t e:TypeId} {x y:Operand} {sz gy m:Nat} {zs:List Value} (ho:o.op= .makeSlice t x y) (ht:P.underlying t=some (.slice e)) (hz:Ax P e=some sz) (hby:Bi P e=some gy) (EZ:BJ P e=some zs) (hzl:zs.length=sz) (hsz:0<sz)
  (h1:zs.all (·.oneCell')=true) (hx:VL E x (int ((m:Nat):Int))) (hy:VL E y (int ((m:Nat):Int))) (hm:m≤maxLen) (hb:gy*m≤281474976710656):Ac P I o E (full sz (List.replicate m (zs.map is))):=
 Ac.val fun M w a he hI=>by
  have hx1:a.eval x= .int .i64 m:=hx.ev he (by simp [ho,Op.operands])
  have hy1:a.eval y= .int .i64 m:=hy.ev he (by simp [ho,Op.operands])
  unfold Ax at hz
  unfold Bi at hby
  unfold BJ at EZ
  cases hi:P.info? e with
  |none=>rw [hi] at hz;cases hz
  |some i=>
   rw [hi] at hz hby EZ
   simp only [Option.map_some,Option.some.injEq,Option.map_eq_some_iff] at hz hby EZ
   obtain ⟨z,Xi,EZ⟩:=EZ
   have bl:z.cells.size=sz:=by rw [←hzl,←EZ];simp
   have hrun:=run_make (P:=P) w t e i z ht hi Xi .i64 .i64 (m:Int) (m:Int) (by omega) (Int.le_refl _) (by rw [hby];have h0:((gy*m:Nat):Int)≤281474976710656:=Int.ofNat_le.2 hb;rw [←Int.natCast_mul];exact h0) (by unfold maxLen at hm;omega)
   rw [hz] at hrun
   simp only [Int.toNat_natCast] at hrun
   have S7:Below w.heap.size w (w.alloc (.cells (madeCells z.cells (m*sz)) e)):=(Below.refl _ _).alloc (Nat.le_refl _) _
   have hrl:(List.replicate m (zs.map is)).length=m:=List.length_replicate
   have hfl:Flat M w sz (List.replicate m (zs.map is)) (madeCells z.cells (m*sz)).toList:=by
    refine ⟨by rw [hrl];simp [size_madeCells],fun u hu=>List.all_eq_true.1 h1 _ (by rw [←EZ];exact aE (by omega) hu),fun k row hr=> ?_⟩
    have hk:k<m:=by have:=A0 hr;omega
    obtain rfl:row=zs.map is:=List.eq_of_mem_replicate (List.mem_of_getElem? hr)
    refine ⟨by simp [hzl],fun j p hp=> ?_⟩
    rw [List.getElem?_map,Option.map_eq_some_iff] at hp
    obtain ⟨u,hu,rfl⟩:=hp
    exact ⟨u,fL bl hk (by rw [EZ];exact hu),rfl⟩
   refine ⟨.slice (some ⟨w.heap.size,0,none⟩) m m,w.alloc (.cells (madeCells z.cells (m*sz)) e),by simp [execOp,ho,hx1,hy1,hrun],?_,S7⟩
   have fM:=EB (hfl.st (Ext.below S7)) (c:=m) (Nat.le_of_eq hrl) hm (g:=w.heap.size) (fun k u hk=>⟨by rw [M7];simpa using hk,fun hx=>by have:=I.bd _ _ hI _ _ hx;omega⟩)
   rw [hrl] at fM
   exact ⟨fM,_,by rw [hrl]⟩
section
variable {P:Program} {L:Lg P} {n:Fm} {E:Env} {M0:Av} {w0:World} {S:Nat→Prop} {rs:List As}
theorem Fin.Lv {Q:Exit→Act→World→Prop} {x:Exit} (i j k:Nat) {sz b:Nat} {new:Bool} {T e:TypeId} {ps:List Pr} {rows:List (List Pr)} {v:Value} {p:Pr} (hi:rs[i]? =some (AE new b T ps)) (hj:rs[j]? =some (CN e sz rows v)) (hij:j≠i) (hk:ps[k]? =some p) (hp:Pr.le p (is v)) (hl:∀r∈rows,r.length=sz)
  (kk:Fin n E (Hp M0 w0 S ((rs.set j CD).set i (AE new b T (ps.set k (slice sz rows))))) Q x):Fin n E (Hp M0 w0 S rs) Q x:=Fin.conv (fun _ _ hs=>hs.Lv hi hj hij hk hp hl) kk
end
section
variable {P:Program} {M0:Av} {w0:World} {S:Nat→Prop} {rs:List As}
def BU (b:Nat) (x:Obj):As where
 blk:=some b
 new:=true
 h M w:=(∀o,M b o)∧w.heap[b]? =some x
 st M w M' w' _ hk h:=by
  obtain ⟨h1,h2⟩:=hk b rfl
  exact ⟨fun o=>h2 o (h.1 o),h1.trans h.2⟩
theorem A8.aF {M:Av} {w:World} (h:A8 M0 w0 S rs M w) (x:Obj):
  A8 M0 w0 S (BU w.heap.size x::rs) (fun b o=>M b o∨b=w.heap.size) (w.alloc x)∧Ext M w (fun b o=>M b o∨b=w.heap.size) (w.alloc x):=by
 have hb:Below w.heap.size w (w.alloc x):=(Below.refl _ _).alloc (Nat.le_refl _) _
 have hsz:(w.alloc x).heap.size=w.heap.size+1:=by simp
 have he:Ext M w (fun b o=>M b o∨b=w.heap.size) (w.alloc x):=by
  have h2:=Ext.below (M:=M) hb
  refine ⟨h2.size,fun a v hc hm=>⟨fun hx=> ?_,(h2.keep a v hc hm).2⟩,fun b o ho hp hm=>⟨fun hx=> ?_,(h2.obj b o ho hp hm).2⟩⟩
  ·
   rcases hx with hx|hx
   · exact hm hx
   · have:=EH hc;omega
  ·
   rcases hx with hx|hx
   · exact hm hx
   · subst hx;simp at ho
 have hI:=(Hp M0 w0 S rs).st _ _ _ hb h
 refine ⟨⟨hI.m0,fun b o hm=> .inl (hI.m b o hm),hI.os,hI.tape,hI.output,hI.size,hI.block,fun b o hm=> ?_,fun r hr=> ?_,?_⟩,he⟩
 ·
  rcases hm with hm|hm
  · exact hI.bd b o hm
  · omega
 ·
  rcases List.mem_cons.1 hr with rfl|hr
  ·
   refine ⟨⟨fun o=> .inr rfl,heap_alloc_new w _⟩,fun b hbk=> ?_⟩
   simp only [BU,Option.some.injEq] at hbk
   subst hbk
   exact ⟨by omega,by simp [BU];exact h.size⟩
  ·
   obtain ⟨h3,h4⟩:=h.hold r hr
   exact ⟨r.st _ _ _ _ he (fun b hbk=>⟨hb.block b (h4 b hbk).1,fun _ x=> .inl x⟩) h3,fun b hbk=>⟨by have:=(h4 b hbk).1;omega,(h4 b hbk).2⟩⟩
 ·
  refine List.pairwise_cons.2 ⟨fun r hr b OV RH=> ?_,hI.nd⟩
  simp only [BU,Option.some.injEq] at OV
  subst OV
  have:=((h.hold r hr).2 _ RH).1
  omega
theorem A8.putObj {M:Av} {w:World} {j b:Nat} {x:Obj} (y:Obj) (h:A8 M0 w0 S rs M w) (hj:rs[j]? =some (BU b x)):A8 M0 w0 S (rs.set j (BU b y)) M (w.putObj b y)∧Ext M w M (w.putObj b y):=by
 obtain ⟨⟨hM,hx⟩,hbk⟩:=h.hold _ (List.mem_of_getElem? hj)
 have hlt:b<w.heap.size:=(hbk b rfl).1
 have hsz:(w.putObj b y).heap.size=w.heap.size:=by simp [World.putObj]
 have he:Ext M w M (w.putObj b y):=by
  refine ⟨by omega,fun a v hc hm=>⟨hm,?_⟩,fun k o ho _ hm=>⟨hm,?_⟩⟩
  ·
   have hne:a.block≠b:=fun e=>hm (e ▸ hM _)
   rw [World.cell?_of_block (w:=w) (World.putObj_heap_other hne)];exact hc
  ·
   have hne:k≠b:=fun e=>hm (e ▸ hM _)
   exact (World.putObj_heap_other hne).trans ho
 refine ⟨h.replace hj he rfl rfl rfl (fun k _ hne=>World.putObj_heap_other (fun e=>hne (by rw [e];rfl))) rfl (fun _ _ hm _=>hm) (fun b' o hm=>by have:=h.bd b' o hm;omega) ⟨hM,World.putObj_heap_same hlt⟩ rfl (fun b' hb'=>⟨?_,.inl hb'⟩),he⟩
 simp only [BU,Option.some.injEq] at hb'
 subst hb';omega
end
def aG (P:Program) (gf:Nat) (lb:Array Value) {α:Type} (enc:α→Value) (xs:List α) (own:List α→List As):Prop:=
 ∀M0 w0 S (l:Nat) (β:Type) (R Rx:List α→β→List As),
  (∀pre x d M w,(pre++[x])<+:xs→A8 M0 w0 S (own (pre++[x])++R pre d) M w→YieldAt (FL none) 0 P l #[enc x] w fun e w'=>∃M' d',Ext M w M' w'∧
   ((e= .returned (.bool true)∧A8 M0 w0 S (own (pre++[x])++R (pre++[x]) d') M' w')∨(e= .returned (.bool false)∧A8 M0 w0 S (own (pre++[x])++Rx (pre++[x]) d') M' w')))→
  ∀d M w,A8 M0 w0 S (own []++R [] d) M w→CallsIn (FL none) 0 P gf (#[.func (.yield l) #[] #[]]++lb) w fun e w'=>(∃v,e= .returned v)∧∃M' d',Ext M w M' w'∧
   (A8 M0 w0 S (own xs++R xs d') M' w'∨∃pre,pre<+:xs∧A8 M0 w0 S (own pre++Rx pre d') M' w')
def fN (M0:Av) (w0:World) (S:Nat→Prop) {β:Type} (rs:β→List As) (rx:Code→β→List As):Exit→Act→World→Prop
 | .normal,_,w=>∃d M,A8 M0 w0 S (rs d) M w
 | .ret,_,w=>∃d M,A8 M0 w0 S (rx .ret d) M w
 | .exit id,_,w=>∃d M,A8 M0 w0 S (rx (.exit id) d) M w
 | .goto t,_,w=>∃d M,A8 M0 w0 S (rx (.goto t) d) M w
 | .panic _,_,_=>False
 | .outgrown,_,_=>False
section
variable {P:Program} {M0:Av} {w0:World} {S:Nat→Prop} {rs:List As}
theorem Tr.range {Q:Exit→Act→World→Prop} {n:Fm} {E:Env} {α β:Type} {p gf:Nat} {g:Operand} {lb:Array Value} {enc:α→Value} {xs:List α} {own:List α→List As} {assign body:Code} (E':α→Env) (R:List α→β→List As) (Rx:Code→List α→β→List As) (d0:β)
  (hIt:aG P gf lb enc xs own) (eg:∀args w,(callFunc gf args).run P w= .ok (.enter gf args) w) (hg:VL E g (is (.func (.func gf) #[] lb))) (Rr:rs.Perm (own []++R [] d0))
  (hassign:∀l D rec M1 w1 pre x d,(pre++[x])<+:xs→∀a,a.tmps.size=n.sz→En M1 w1 E a→∀M w,A8 M0 w0 S (own (pre++[x])++(BU l rec::BU D (.deferred (some []))::At M1 w1::R pre d)) M w→
   assign.wpIn (FL (some l)) 0 P (Exit.then (St ⟨n.sz,[]⟩ (E' x) (Hp M0 w0 S (own (pre++[x])++(BU l rec::BU D (.deferred (some []))::At M1 w1::R pre d)))) (fun _ _ _=>False)) { tmps:=a.tmps.setIfInBounds p (enc x),defers:=[] } w)
  (hbody : ∀ l D rec M1 w1 pre x d, (pre ++ [x]) <+: xs → Tr (lgR P (some l)) ⟨n.sz, []⟩ (E' x) (Hp M0 w0 S (own (pre ++ [x]) ++ (BU l rec :: BU D (.deferred (some [])) :: At M1 w1 :: R pre d))) body
   (fN M0 w0 S (fun d=>own (pre++[x])++(BU l rec::BU D (.deferred (some []))::At M1 w1::R (pre++[x]) d)) (fun c d=>own (pre++[x])++(BU l rec::BU D (.deferred (some []))::At M1 w1::Rx c (pre++[x]) d))))
  (hdone:∀l D rec M1 w1 d,Fin ⟨n.sz,{ target:= .collected D,args:= #[] }::n.df⟩ E (Hp M0 w0 S (own xs++(BU l rec::BU D (.deferred (some []))::At M1 w1::R xs d))) Q .normal)
  (hstop:∀l D rec M1 w1 c pre d,pre<+:xs→Tr (lgR P none) ⟨n.sz,{ target:= .collected D,args:= #[] }::n.df⟩ E (Hp M0 w0 S (own pre++(BU l rec::BU D (.deferred (some []))::At M1 w1::Rx c pre d))) c Q):
  Tr (lgR P none) n E (Hp M0 w0 S rs) (.rangeFunc g #[p] assign body) Q:=by
 intro a w ⟨M,hsz,hdf,hE,hI⟩
 have hI:A8 M0 w0 S rs M w:=hI
 refine wpIn_rangeFunc ?_
 intro fn hfn
 obtain ⟨rec,UH⟩:∃rec:LoopState→Option Code→Loop,rec=fun st pe=>{ state:=st,pending:=pe,fn,tmps:=a.tmps,params:= #[p],assign,body,defers:=w.heap.size }:=⟨_,rfl⟩
 -- what is held ahead of the call
 have hI2:=A8.perm Rr hI
 obtain ⟨nk,e3⟩:=hI2.aF (.deferred (some []))
 obtain ⟨iq,e4⟩:=nk.aF (.loop (rec .ready none))
 obtain ⟨W1,hW1⟩:∃W1,(w.alloc (.deferred (some []))).alloc (.loop (rec .ready none))=W1:=⟨_,rfl⟩
 have hs1:(w.alloc (.deferred (some []))).heap.size=w.heap.size+1:=by simp
 rw [hW1,hs1] at iq e4
 obtain ⟨M1,hM1⟩:∃M1:Av,M1=(fun b o=>(M b o∨b=w.heap.size)∨b=w.heap.size+1):=⟨_,rfl⟩
 rw [←hM1] at iq e4
 have e1:Ext M w M1 W1:=e3.trans e4
 obtain ⟨l,hl⟩:∃l,l=w.heap.size+1:=⟨_,rfl⟩
 obtain ⟨D,hD⟩:∃D,D=w.heap.size:=⟨_,rfl⟩
 rw [←hl] at iq
 rw [←hD] at iq
 have hE1:En M1 W1 E a:=fun s q hq=>q.st _ _ _ _ _ e1 (hE s q hq)
 have hI5:A8 M0 w0 S (own []++(BU l (.loop (rec .ready none))::BU D (.deferred (some []))::At M1 W1::R [] d0)) M1 W1:=by
  refine A8.perm ?_ (A8.J8 iq (r:=At M1 W1) rfl (Ext.refl _ _))
  refine List.Perm.trans (l₂:=(BU l (.loop (rec .ready none))::BU D (.deferred (some []))::At M1 W1::R [] d0)++own []) ?_ List.perm_append_comm
  refine (List.Perm.swap _ _ _).trans (List.Perm.cons _ ((List.Perm.swap _ _ _).trans (List.Perm.cons _ (List.Perm.cons _ List.perm_append_comm))))
 have ix:∀(os:List As) (r:As) (tl:List As),(os++r::tl)[os.length]? =some r:=fun os r tl=>by simp
 have sx:∀(os:List As) (r r':As) (tl:List As),(os++r::tl).set os.length r'=os++r'::tl:=fun os r r' tl=>by simp
 have ix2:∀(os:List As) (r1 r2 r:As) (tl:List As),(os++r1::r2::r::tl)[os.length+2]? =some r:=fun os r1 r2 r tl=>by
  rw [List.getElem?_append_right (by omega)];simp
 have sx2:∀(os:List As) (r1 r2 r r':As) (tl:List As),(os++r1::r2::r::tl).set (os.length+2) r'=os++r1::r2::r'::tl:=fun os r1 r2 r r' tl=>by
  rw [List.set_append_right _ _ (by omega)];simp
 have xO:=hdone;have xP:=hstop
 refine ⟨l,[{ target:= .collected D,args:= #[] }],W1,{ target:= .fn (.func gf) lb,args:= #[.func (.yield l) #[] #[]] },W1,gf,#[.func (.yield l) #[] #[]]++lb,W1,?_,?_,fun _ _=>trivial,?_,fun h=>(by cases h),?_⟩
 · rw [hl,hD,←hW1,UH];exact run_enterLoop_outer _ _ _ _ _
 ·
  have hv:a.eval g= .func (.func gf) #[] lb:=by
   obtain ⟨q,h1,h2⟩:=hg
   exact h2 _ _ _ (Cs.eval hE h1)
  simp only [resolve,hv]
  simp [go_sem]
 · simp [invoke,go_sem,eg]
 ·
  refine (hIt M0 w0 S l (Code × β) (fun pre cd => BU l (.loop (rec .ready none)) :: BU D (.deferred (some [])) :: At M1 W1 :: R pre cd.2)
   (fun pre cd=>BU l (.loop (rec .done (some cd.1)))::BU D (.deferred (some []))::At M1 W1::Rx cd.1 pre cd.2) ?_ (.skip,d0) M1 W1 hI5).mono ?_
  ·
   rintro pre x ⟨c0,d⟩ M2 W2 hpre hI
   have nU:W2.heap[l]? =some (.loop (rec .ready none)):=(hI.hold (BU l (.loop (rec .ready none))) (by simp)).1.2
   have hx2:Ext M1 W1 M2 W2:=(hI.hold (At M1 W1) (by simp)).1
   have hy:=run_yield (P:=P) (args:= #[enc x]) nU (by rw [UH];rfl)
   have RJ:A8 M0 w0 S (own (pre++[x])++(BU l (.loop (rec .ready none))::BU D (.deferred (some []))::At M2 W2::R pre d)) M2 W2:=by
    have:=hI.Cm (r':=At M2 W2) (ix2 _ _ _ _ _) rfl rfl (Ext.refl _ _)
    rwa [sx2] at this
   have lU:(Instr.yield l #[enc x]).run P W2= .ok (.round l fn (a.tmps.setIfInBounds p (enc x)) assign body) W2:=by
    rw [hy,UH];simp
   have ha:=hassign l D _ M2 W2 pre x d hpre a hsz (fun s q hq=>q.st _ _ _ _ _ hx2 (hE1 s q hq)) M2 W2 RJ
   refine ⟨fn,_,assign,body,lU,roundIn_of_wpIn (F:=FL none) trivial (wpIn_mono (F:=(FL none).inRound l) ha ?_)⟩
   intro e a3 W3 hq
   cases e with
   |normal=>
    obtain ⟨M3,k7,hd3,hE3,nk⟩:=hq
    have nk:A8 M0 w0 S (own (pre++[x])++(BU l (.loop (rec .ready none))::BU D (.deferred (some []))::At M2 W2::R pre d)) M3 W3:=nk
    have hl3:W3.heap[l]? =some (.loop (rec .ready none)):=(nk.hold (BU l (.loop (rec .ready none))) (by simp)).1.2
    obtain ⟨iq,e4⟩:=nk.putObj (.loop { rec .ready none with state:= .busy }) (ix _ _ _)
    rw [sx] at iq
    refine ⟨_,run_beginRound hl3 (by rw [UH]),?_⟩
    refine wpIn_mono (F:=(FL none).inRound l) (hbody l D _ M2 W2 pre x d hpre a3 _ ⟨M3,k7,hd3,fun s q hq=>q.st _ _ _ _ _ e4 (hE3 s q hq),iq⟩) ?_
    have fin:∀(jump:Option Code) (tl:List As) (W5:World) (M5:Av),A8 M0 w0 S (own (pre++[x])++(BU l (.loop { rec .ready none with state:= .busy })::BU D (.deferred (some []))::At M2 W2::tl)) M5 W5→
      ∃w6,(Instr.endRound l jump).run P W5= .ok (.bool jump.isNone) w6∧Ext M2 W2 M5 w6∧A8 M0 w0 S (own (pre++[x])++(BU l (.loop (rec (if jump.isNone then .ready else .done) jump))::BU D (.deferred (some []))::At M1 W1::tl)) M5 w6:=by
     intro jump tl W5 M5 h5
     have hl5:W5.heap[l]? =some (.loop { rec .ready none with state:= .busy }):=(h5.hold (BU l (.loop { rec .ready none with state:= .busy })) (by simp)).1.2
     have hx5:Ext M2 W2 M5 W5:=(h5.hold (At M2 W2) (by simp)).1
     obtain ⟨h6,e6⟩:=h5.putObj (.loop { rec .ready none with state:=if jump.isNone then .ready else .done,pending:=jump }) (ix _ _ _)
     rw [sx] at h6
     have h7:=h6.Cm (r':=At M1 W1) (ix2 _ _ _ _ _) rfl rfl (hx2.trans (hx5.trans e6))
     rw [sx2] at h7
     refine ⟨_,run_endRound jump hl5,hx5.trans e6,?_⟩
     rw [UH] at h7 ⊢
     exact h7
    intro e5 a5 W5 hp
    cases e5 with
    |normal=>
     obtain ⟨d5,M5,h5⟩:=hp
     obtain ⟨w6,g1,g2,g3⟩:=fin none _ _ _ h5
     exact ⟨_,_,g1,M5,(.skip,d5),g2,.inl ⟨rfl,g3⟩⟩
    |ret=>
     obtain ⟨d5,M5,h5⟩:=hp
     obtain ⟨w6,g1,g2,g3⟩:=fin (some .ret) _ _ _ h5
     exact ⟨_,_,g1,M5,(.ret,d5),g2,.inr ⟨rfl,g3⟩⟩
    |exit id=>
     obtain ⟨d5,M5,h5⟩:=hp
     obtain ⟨w6,g1,g2,g3⟩:=fin (some (.exit id)) _ _ _ h5
     exact ⟨_,_,g1,M5,(.exit id,d5),g2,.inr ⟨rfl,g3⟩⟩
    |goto t=>
     obtain ⟨d5,M5,h5⟩:=hp
     obtain ⟨w6,g1,g2,g3⟩:=fin (some (.goto t)) _ _ _ h5
     exact ⟨_,_,g1,M5,(.goto t,d5),g2,.inr ⟨rfl,g3⟩⟩
    |panic ch=>exact hp.elim
    |outgrown=>exact hp.elim
   |exit id=>exact hq.elim
   |goto t=>exact hq.elim
   |ret=>exact hq.elim
   |panic ch=>exact hq.elim
   |outgrown=>exact hq.elim
  ·
   rintro e W2 ⟨⟨v,rfl⟩,M2,⟨c2,d2⟩,hx2,h2⟩
   have hend:∀(os tl:List As) (st:LoopState) (pe:Option Code),st≠ .busy→A8 M0 w0 S (os++(BU l (.loop (rec st pe))::BU D (.deferred (some []))::At M1 W1::tl)) M2 W2→
     ∃w6,(Instr.endLoop l).run P W2= .ok pe w6∧Ext M2 W2 M2 w6∧A8 M0 w0 S (os++(BU l (.loop { rec st pe with state:= .exhausted })::BU D (.deferred (some []))::At M1 W1::tl)) M2 w6:=by
    intro os tl st pe hst h5
    have hl5:W2.heap[l]? =some (.loop (rec st pe)):=(h5.hold (BU l (.loop (rec st pe))) (by simp)).1.2
    obtain ⟨h6,e6⟩:=h5.putObj (.loop { rec st pe with state:= .exhausted }) (ix _ _ _)
    rw [sx] at h6
    have:=run_endLoop (P:=P) hl5 (by rw [UH];exact hst)
    refine ⟨_,?_,e6,h6⟩
    rw [this,UH]
   rcases h2 with h2|⟨pre,hpre,h2⟩
   ·
    obtain ⟨w6,g1,g2,g3⟩:=hend _ _ _ _ (by simp) h2
    exact ⟨none,w6,g1,hdone l D _ M1 W1 d2 _ _ ⟨M2,hsz,by show _::a.defers=_;rw [hdf],fun s q hq=>q.st _ _ _ _ _ g2 (q.st _ _ _ _ _ hx2 (hE1 s q hq)),g3⟩⟩
   ·
    obtain ⟨w6,g1,g2,g3⟩:=hend _ _ _ _ (by simp) h2
    exact ⟨some c2,w6,g1,hstop l D _ M1 W1 c2 pre d2 hpre _ _ ⟨M2,hsz,by show _::a.defers=_;rw [hdf],fun s q hq=>q.st _ _ _ _ _ g2 (q.st _ _ _ _ _ hx2 (hE1 s q hq)),g3⟩⟩
end
section
variable {P:Program} {M0:Av} {w0:World} {S:Nat→Prop} {rs:List As}
end
section
variable {P:Program}
end
end Cp
namespace Cp
open Go Go.RowKit Go.Great
abbrev sK (P:Program) (g:Func) (R:Ending→World→Prop):Exit→Act→World→Prop:=bodyPostM (FL none) 0 P g R
section
variable {P:Program} {fz:Nat} {E:Env} {M0:Av} {w0:World} {S:Nat→Prop} {rs:List As} {g:Func} {R:Ending→World→Prop} {ds:List Deferred} {n:Fm} {c:Code}
variable {α:Type} {pre:List As} {C:α→Prop} {res:α→Pr} {post:α→List As} {M1:Av} {w1:World}
end
section
variable {P:Program} {L:Lg P} {n:Fm} {z0:Value} {fz:Nat} {E:Env} {M0:Av} {w0:World} {S:Nat→Prop} {rs:List As} {o:Oper} {κ:Type} [DecidableEq κ] {enc:κ→Value}
variable {Q:Exit→Act→World→Prop} {ops:Array Oper} {r:List Oper}
end
section
variable {P:Program} {L:Lg P} {n:Fm} {E:Env} {M0:Av} {w0:World} {S:Nat→Prop} {rs:List As} {ε:Type} {res:ε→List As} {Q:Exit→Act→World→Prop} {c:Code} {X:List ε} {f:ε→Value} {g:ε→Pr}
def aH (f:ε→Value) (g:ε→Pr) (X:List ε):As:=⟨none,true,fun M w=>∀x∈X,(g x).h M w (f x),fun _ _ _ _ he _ h x hx=>(g x).st _ _ _ _ _ he (h x hx)⟩
end
section
variable {P:Program} {L:Lg P} {n:Fm} {E:Env} {M0:Av} {w0:World} {S:Nat→Prop} {rs:List As} {o:Oper} {Q:Exit→Act→World→Prop} {c:Code}
theorem UI {t:TypeId} {x:Operand} {sz j i q:Nat} {T:TypeId} {rows:List (List Pr)} {row:List Pr} {p:Pr} {v:Value} (ho:o.op= .load t x) (ht:EA P t=true) (hx:VL E x (elp sz v i q)) (hl:∀r∈rows,r.length=sz) (hi:rows[i]? =some row) (hp:row[q]? =some p):
  ME P M0 w0 S j (SR.c (CN T sz rows v)) o E p:=by
 intro M w a rs he hI hj
 obtain ⟨a0,m0,c0,gl,h1⟩:=hx.ev he (by simp [ho,Op.operands])
 have hj':rs[j]? =some (CN T sz rows v):=hj
 rcases (hI.hold _ (List.mem_of_getElem? hj')).1 with ⟨rfl,A,hv⟩|⟨b,cap,spare,hv,hnc,hcm,hsp,⟨_,cs,h4,h5,h6⟩⟩
 · simp at hi
 ·
  rw [gl] at hv
  injection hv with e1 e2 e3
  injection e1 with e1
  subst e1
  have hrl:=hl row (List.mem_of_getElem? hi)
  have hq:q<sz:=by rw [←hrl];exact A0 hp
  have h7:(rows.flatten++spare.map is)[i*sz+q]? =some p:=by
   have FF:=A0 hi
   have hle:(i+1)*sz≤rows.length*sz:=Nat.mul_le_mul_right sz FF
   rw [Nat.succ_mul] at hle
   rw [List.getElem?_append_left (by rw [C4 hl];omega),Iv hl hi hq];exact hp
  obtain ⟨u,hu,hh⟩:=h5.at_ _ _ h7
  have hc:w.cell? ((⟨b,0,none⟩:Addr).add (i*sz+q))=some u:=by rw [Ft];simp [World.cell?,h4,hu]
  have hrun:(execOp a.eval o).run P w= .ok (.value u) w:=by simp [execOp,ho,h1,Instr.loadAt,Instr.sureAddr,loadVar,E9 ht,hc]
  rw [hrun]
  exact ⟨hh,Below.refl _ _⟩
theorem fO {M:Av} {w:World} {t ty e:TypeId} {sz bytes:Nat} {zs:List Value} {rows Al:List (List Pr)} {v u:Value} {j:Nat} (ht:P.underlying t=some (.slice e)) (hz:Ax P e=some sz) (hby:Bi P e=some bytes) (EZ:BJ P e=some zs) (hzl:zs.length=sz) (hone:zs.all (·.oneCell')=true) (hsz:0<sz)
  (h:A8 M0 w0 S rs M w) (hj:rs[j]? =some (CN e sz rows v)) (hl:∀r∈rows,r.length=sz) (hu:(slice sz Al).h M w u) (FG:rows.length+Al.length≤maxLen) (hfit:(rows.length+Al.length)*bytes≤140737488355328):
  ∃v' w' M',(Builtin.append_ #[t,t] ty #[v,u]).run P w= .ok v' w'∧(lens (rows.length+Al.length)).h M' w' v'∧Ext M w M' w'∧A8 M0 w0 S (rs.set j (CN e sz (rows++Al) v')) M' w':=by
 have hjl:=A0 hj
 rcases Nat.eq_zero_or_pos Al.length with h0|h0
 ·
  have jP:Al=[]:=List.eq_nil_of_length_eq_zero h0
  subst jP
  obtain ⟨A',c',hu,_⟩:=hu
  have hv:∃A c,v= .slice A rows.length c∧rows.length≤c:=by
   rcases (h.hold _ (List.mem_of_getElem? hj)).1 with ⟨rfl,A,rfl⟩|⟨b,cap,sp,rfl,h2,_⟩
   · exact ⟨A,0,rfl,Nat.le_refl _⟩
   · exact ⟨_,_,rfl,h2⟩
  obtain ⟨A,c,Xs,Uy⟩:=hv
  have hrun:=Hr (P:=P) (ty:=ty) (A:=A) (A':=A') (n:=rows.length) (c:=c) (c':=c') ht hz Uy w
  refine ⟨v,w,M,by rw [hu,Xs];exact hrun,⟨A,c,by rw [Xs];rfl⟩,Ext.refl _ _,?_⟩
  rw [List.append_nil]
  have iY:rs.set j (CN e sz rows v)=rs:=by
   apply List.ext_getElem?
   intro i
   rw [List.getElem?_set]
   split
   · rename_i hij;subst hij;first|exact hj.symm|(rw [if_pos hjl];exact hj.symm)
   · rfl
  rw [iY];exact h
 ·
  rcases (h.hold _ (List.mem_of_getElem? hj)).1 with ⟨rfl,A,rfl⟩|⟨b,cap,sp,rfl,h2,h3,h4,h5⟩
  ·
   have h1:=h.blank hj
   obtain ⟨v',w',M',hrun,g1,g2,g3⟩:=Yk A (ty:=ty) ht hz hby EZ hzl hone hsz h1 (List.getElem?_set_self hjl) hu h0 (by simpa using FG) (by simpa using hfit)
   rw [List.set_set] at g3
   have g4:=g3.Cm (r':=Bb e sz ([]++Al) v') (List.getElem?_set_self hjl) rfl rfl (.inr (g3.hold _ (List.mem_of_getElem? (List.getElem?_set_self hjl))).1)
   rw [List.set_set] at g4
   have g5:=A8.Nq g4 (List.getElem?_set_self hjl)
   rw [List.set_set] at g5
   exact ⟨v',w',M',hrun,by simpa using g1,g2,g5⟩
  ·
   have h6:=h.SF (r':=Bb e sz rows (.slice (some ⟨b,0,none⟩) rows.length (cap+1))) hj (fun b hb=>hb) rfl (.inr ⟨b,cap+1,sp,rfl,h2,h3,h4,h5⟩)
   obtain ⟨v',w',M',hrun,g1,g2,g3⟩:=VB (ty:=ty) ht hz hby EZ hzl hone hsz h6 (List.getElem?_set_self hjl) hl hu h0 FG hfit
   rw [List.set_set] at g3
   have g5:=A8.Nq g3 (List.getElem?_set_self hjl)
   rw [List.set_set] at g5
   exact ⟨v',w',M',hrun,g1,g2,g5⟩
theorem UJ {t e:TypeId} {x y:Operand} {sz' sz bytes d:Nat} {zs:List Value} {rows:List (List Pr)} {j:Nat} (hg:o.guard=none) (hd:o.dst=some d) (hn:d<n) (ho:o.op= .call { callee:= .builtin .append,args:= #[x,y],argTypes:= #[t,t] })
  (ht:P.underlying t=some (.slice e)) (hz:Ax P e=some sz) (hby:Bi P e=some bytes) (EZ:BJ P e=some zs) (hzl:zs.length=sz) (hone:zs.all (·.oneCell')=true) (hsz:0<sz)
  (hx:VL E x (full sz' [])) (hy:VL E y (slice sz rows)) (FG:rows.length≤maxLen) (hfit:rows.length*bytes≤140737488355328):Dn P M0 w0 S n j (SR.c CD) ⟨d,CN e sz rows⟩ o E (lens rows.length):=by
 refine ⟨hg,fun M w a rs TH he hI hj=> ?_⟩
 have h2:=hy.ev he (by simp [ho,Op.operands,Call.operands])
 obtain ⟨_,A,h1⟩:=hx.ev he (by simp [ho,Op.operands,Call.operands])
 simp only [List.length_nil] at h1
 have hj':rs[j]? =some CD:=hj
 have hjl:=A0 hj'
 have h3:=hI.SF (r':=CN e sz [] (.slice A 0 0)) hj' (fun b hb=>by cases A<;>cases hb) rfl (.inl ⟨rfl,A,rfl⟩)
 obtain ⟨v',w',M',hrun,g1,g2,g3⟩:=fO (ty:=o.type) ht hz hby EZ hzl hone hsz h3 (List.getElem?_set_self hjl) (fun r hr=>by cases hr) h2 (by simpa using FG) (by simpa using hfit)
 rw [List.set_set] at g3
 have Fu:(execOp a.eval o).run P w= .ok (.value v') w':=by simp [execOp,ho,resolve,invoke,builtin,h1,hrun]
 rw [Fu]
 refine ⟨M',by simpa using g1,g2,?_⟩
 have:(SR.at_ (a.put o.dst v') ⟨d,CN e sz rows⟩)=CN e sz rows v':=by unfold SR.at_ Slot.val;dsimp only;rw [hd,Bz (by rw [TH];exact hn)]
 rw [this];exact g3
end
section
variable {P:Program} {L:Lg P} {n:Fm} {E:Env} {M0:Av} {w0:World} {S:Nat→Prop} {rs:List As} {o:Oper} {Q:Exit→Act→World→Prop} {c:Code} {r:List Oper} {ops:Array Oper}
def UpR (r:As):Prop:=∀M M2 w,(∀b o,M b o→M2 b o)→r.h M w→r.h M2 w
def sL (ps:List Pr):Prop:=∀p∈ps,LD p
theorem HL.free {ps:List Pr} {cs:List Value} {M M2:Av} {w:World} (hf:sL ps) (h:HL M w ps cs):HL M2 w ps cs:=
 U_ h.length fun k p hk=>by
  obtain ⟨u,hu,jJ⟩:=h.at_ k p hk
  exact ⟨u,hu,(hf p (List.mem_of_getElem? hk)).free _ _ _ _ jJ⟩
theorem TO.perm {rs':List As} (hp:rs.Perm rs') (k:TO P n ops r E (Hp M0 w0 S rs') Q):TO P n ops r E (Hp M0 w0 S rs) Q:=TO.conv (fun _ _ hs=>hs.perm hp) k
end
section
variable {P:Program} {L:Lg P} {n:Fm} {E:Env} {M0:Av} {w0:World} {S:Nat→Prop} {rs:List As} {o:Oper} {Q:Exit→Act→World→Prop} {c:Code} {r:List Oper} {ops:Array Oper}
instance sM:LD any:=⟨fun _ _ _ _ _=>trivial⟩
instance lV (v:Value) (p:Pr) [h9:LD p]:LD (Ag v p):=⟨fun _ _ _ _ h=>⟨h.1,h9.free _ _ _ _ h.2⟩⟩
def ir (w:World) (q:As):As:=⟨q.blk,q.new,fun _ w'=>∀b,q.blk=some b→w'.heap[b]? =w.heap[b]?,fun _ _ _ _ _ hk h b hb=>(hk b hb).1.trans (h b hb)⟩
theorem aI {us bs:List As} (h:us.map (·.blk)=bs.map (·.blk)) (k:us.Pairwise fun r r':As=>∀b,r.blk=some b→r'.blk≠some b):bs.Pairwise fun r r':As=>∀b,r.blk=some b→r'.blk≠some b:=by
 have e1:∀l:List As,(l.Pairwise fun r r':As=>∀b,r.blk=some b→r'.blk≠some b)↔(l.map (·.blk)).Pairwise fun p q:Option Nat=>∀b,p=some b→q≠some b:=fun l=>by rw [List.pairwise_map]
 rw [e1] at k ⊢
 rw [←h];exact k
theorem A8.y7 {α:Type} {C:α→Prop} {f:FuncId} {ps:List Pr} {post aJ:α→List As} {res res2:α→Pr} {M:Av} {w:World} {vs:List Value} (hf:Qd P f ps [] C res post)
  (hI:A8 M0 w0 S rs M w) (hn:rs.all (·.new)=true) (hpost:∀x M0 w0 S rs M w,A8 M0 w0 S (post x++rs) M w→A8 M0 w0 S (aJ x++rs) M w) (xQ:∀x,∀q∈aJ x,UpR q)
  (hres:∀x M M2 w u,(res x).h M w u→(res2 x).h M2 w u) (hv:∀M1,Ext M w M1 w→(∀b o,M1 b o→∀q∈rs,q.blk≠some b)→HL M1 w ps vs):
  Calls P f vs.toArray w fun e' w'=>∃u M' x,e'= .returned u∧C x∧(res2 x).h M' w' u∧Ext M w M' w'∧A8 M0 w0 S (aJ x++rs) M' w':=by
 have hb:∀q∈rs,∀b,q.blk=some b→b<w.heap.size∧w0.heap.size≤b:=fun q hq b hb=>by
  obtain ⟨h1,h2⟩:=(hI.hold q hq).2 b hb
  rw [if_pos (List.all_eq_true.1 hn q hq)] at h2
  exact ⟨h1,h2⟩
 have he:Ext M w (fun b o=>M b o∧∀q∈rs,q.blk≠some b) w:=Ext.less fun _ _ h=>h.1
 have hI1:A8 M0 w0 S (rs.map (ir w)) (fun b o=>M b o∧∀q∈rs,q.blk≠some b) w:=by
  refine ⟨hI.m0,fun b o hm=>⟨hI.m b o hm,fun q hq e1=>by have h1:=hI.m0 b o hm;have h2:=(hb q hq b e1).2;omega⟩,hI.os,hI.tape,hI.output,hI.size,hI.block,fun b o hm=>hI.bd b o hm.1,fun q hq=> ?_,?_⟩
  ·
   rw [List.mem_map] at hq
   obtain ⟨q,hq,rfl⟩:=hq
   exact ⟨fun _ _=>rfl,(hI.hold q hq).2⟩
  · exact aI (by rw [List.map_map];rfl) hI.nd
 refine (hf.2 M0 w0 S (rs.map (ir w)) _ w vs hI1 (hv _ he fun _ _ h=>h.2)).mono ?_
 rintro e' w' ⟨u,M',x,rfl,hC,h2,h3,h4⟩
 have h5:=hpost x _ _ _ _ _ _ h4
 have xR:∀q∈rs,∀b,q.blk=some b→w'.heap[b]? =w.heap[b]? :=fun q hq=>(h5.hold _ (List.mem_append_right _ (List.mem_map_of_mem hq))).1
 have hE:Ext M w (fun b o=>M' b o∨(M b o∧∃q∈rs,q.blk=some b)) w':=⟨h3.size,fun a q hc hm=>by
  obtain ⟨k1,k2⟩:=h3.keep a q hc (fun h=>hm h.1)
  exact ⟨fun h=>h.elim k1 fun h=>hm h.1,k2⟩,fun b x ho hp hm=>by
  obtain ⟨k1,k2⟩:=h3.obj b x ho hp (fun h=>hm h.1)
  exact ⟨fun h=>h.elim k1 fun h=>hm h.1,k2⟩⟩
 refine ⟨u,_,x,rfl,hC,hres x _ _ _ _ h2,hE,⟨h5.m0,fun b o hm=> .inl (h5.m b o hm),h5.os,h5.tape,h5.output,h5.size,h5.block,fun b o hm=> ?_,fun q hq=> ?_,?_⟩⟩
 ·
  rcases hm with hm|⟨hm,_⟩
  · exact h5.bd b o hm
  · exact Nat.lt_of_lt_of_le (hI.bd b o hm) h3.size
 ·
  rcases List.mem_append.1 hq with hq|hq
  ·
   obtain ⟨k1,k2⟩:=h5.hold q (List.mem_append_left _ hq)
   exact ⟨xQ x q hq _ _ _ (fun _ _ h=> .inl h) k1,k2⟩
  ·
   refine ⟨q.st _ _ _ _ hE (fun b hb=>⟨xR q hq b hb,fun o hm=> .inr ⟨hm,q,hq,hb⟩⟩) (hI.hold q hq).1,fun b hb=> ?_⟩
   obtain ⟨k1,k2⟩:=(hI.hold q hq).2 b hb
   exact ⟨Nat.lt_of_lt_of_le k1 h3.size,k2⟩
 · exact aI (by rw [List.map_append,List.map_append,List.map_map];rfl) h5.nd
end
section
variable {P:Program} {I:CT} {E:Env} {o:Oper}
abbrev u32 (b:BitVec 32):Pr:=is (.int .u32 (b.toNat:Int))
end
section
variable {P:Program} {L:Lg P} {n:Fm} {E:Env} {M0:Av} {w0:World} {S:Nat→Prop} {rs:List As} {o:Oper} {r:List Oper} {ops:Array Oper} {Q:Exit→Act→World→Prop} {c:Code}
end
section
variable {P:Program}
theorem aG.of {gf:Nat} {lb:Array Value} {α:Type} {enc:α→Value} {xs:List α} {own:List α→List As} {g:Func} {c:Code} {ps:List Pr} (hf:P.funcs[gf]? =some g) (hb:g.body=some c) (hlen:ps.length+1≤g.ntmps) (hps:∀M w,HL M w ps lb.toList)
  (h:∀(M0:Av) (w0:World) (S:Nat→Prop) (l:Nat) (β:Type) (R Rx:List α→β→List As) (M1:Av) (w1:World),
   (∀pre x d M w,(pre++[x])<+:xs→A8 M0 w0 S (own (pre++[x])++R pre d) M w→YieldAt (FL none) 0 P l #[enc x] w fun e w'=>∃M' d',Ext M w M' w'∧
    ((e= .returned (.bool true)∧A8 M0 w0 S (own (pre++[x])++R (pre++[x]) d') M' w')∨(e= .returned (.bool false)∧A8 M0 w0 S (own (pre++[x])++Rx (pre++[x]) d') M' w')))→
   ∀ d, Tr (lgR P none) g.ntmps (Kz 0 (is (.func (.yield l) #[] #[]) :: ps)) (Hp M0 w0 S (own [] ++ At M1 w1 :: R [] d)) c
    (sK P g fun e w'=>(∃v,e= .returned v)∧∃M' d',Ext M1 w1 M' w'∧(A8 M0 w0 S (own xs++R xs d') M' w'∨∃pre,pre<+:xs∧A8 M0 w0 S (own pre++Rx pre d') M' w'))):aG P gf lb enc xs own:=by
 intro M0 w0 S l β R Rx hy d M w hI
 refine callsIn_of_wp_marks (F:=FL none) (n:=0) hf hb trivial (h M0 w0 S l β R Rx M w hy d _ _ ⟨M,?_,rfl,?_,?_⟩)
 ·
  have:=(hps M w).length
  simp at this ⊢;omega
 ·
  have h2:HL M w (is (.func (.yield l) #[] #[])::ps) ((.func (.yield l) #[] #[])::lb.toList):=⟨rfl,hps M w⟩
  have h3:=Gv (m:=g.ntmps-(#[Value.func (.yield l) #[] #[]]++lb:Array Value).size) h2
  have e1:(Value.func (.yield l) #[] #[]::lb.toList).toArray= #[Value.func (.yield l) #[] #[]]++lb:=by apply Array.ext';simp
  rw [e1] at h3;exact h3
 · exact A8.perm List.perm_middle.symm (A8.J8 hI (r:=At M w) rfl (Ext.refl _ _))
end
section
variable {P:Program} {I:CT} {E:Env} {o:Oper}
end
section
variable {P:Program} {Q:Exit→Act→World→Prop} {K:Act→World→Prop} {a:Act} {w:World} {o:Oper} {ops:Array Oper}
end
section
variable {P:Program} {L:Lg P} {n:Fm} {fz:Nat} {E:Env} {M0:Av} {w0:World} {S:Nat→Prop} {o:Oper}
def LU (p:Pr) (v:Value):As:=⟨none,true,fun M w=>p.h M w v,fun M w M' w' he _ h=>p.st M w M' w' v he h⟩
def Vp (R:Value→Value→As) (u:Value):As:=match u with| .tuple t=>R (t.getD 1 undef) (t.getD 0 undef)|_=>CD
theorem Q4 {a:Act} {d s:Nat} {R:Value→Value→As}:SR.at_ a ⟨.two d s,Vp R⟩=R (a.tmps.getD s undef) (a.tmps.getD d undef):=rfl
theorem FN.conv {a:Act} {M:Av} {w:World} {p q:Pr} {j:Nat} {R1 R2:SR} {rs:List As} {r:Result Next} (hq:Pr.le p q) (hR:∀v,R1.at_ (a.put o.dst v)=R2.at_ (a.put o.dst v)) (h:FN P M0 w0 S o a M w p j R1 rs r):FN P M0 w0 S o a M w q j R2 rs r:=by
 cases r with
 |halt x w'=>exact h
 |ok x w'=>
  cases x
  case value v=>obtain ⟨M',g1,g2,g3⟩:=h;exact ⟨M',hq _ _ _ g1,g2,by rw [←hR];exact g3⟩
  case skip=>obtain ⟨M',g1,g2,g3⟩:=h;exact ⟨M',hq _ _ _ g1,g2,by rw [←hR];exact g3⟩
  case enter f args=>
   refine Calls.mono h ?_
   rintro e w'' ⟨v,M',g0,g1,g2,g3⟩
   exact ⟨v,M',g0,hq _ _ _ g1,g2,by rw [←hR];exact g3⟩
  all_goals exact h
theorem N_ {M:Av} {w:World} {a:Act} (h:CL M w E o a) (s:Nat) {p0:Pr} (jQ:p0.h M w (a.tmps.getD s undef)):CL M w ((s,Ag (a.tmps.getD s undef) p0)::E) o a:=fun c p hc hp=>by
 simp only [List.lookup] at hp
 by_cases hcs:c=s
 · subst hcs;simp only [beq_self_eq_true,Option.some.injEq] at hp;subst hp;exact ⟨rfl,jQ⟩
 · rw [show (c==s)=false by simpa using hcs] at hp;exact h c p hc hp
theorem lW {j d:Nat} {p:Pr} (hg:o.guard=none) (hd:o.dst=some d) (hn:d<n) (h:∀I,Ac P I o E p):Dn P M0 w0 S n j (SR.c CD) ⟨d,LU p⟩ o E p:=by
 refine ⟨hg,fun M w a rs hsz he hI hj=> ?_⟩
 have hj':rs[j]? =some CD:=hj
 have hat:∀v,SR.at_ (a.put o.dst v) ⟨d,LU p⟩=LU p v:=fun v=>by show LU p ((a.put o.dst v).tmps.getD d undef)=_;rw [hd,Bz (by rw [hsz];exact hn)]
 have fP:=h (Hp M0 w0 S rs) M w a he hI
 revert fP
 generalize (execOp a.eval o).run P w=r
 intro fP
 have key:∀v w',p.h M w' v→Below w.heap.size w w'→∃M',p.h M' w' v∧Ext M w M' w'∧A8 M0 w0 S (rs.set j (SR.at_ (a.put o.dst v) ⟨d,LU p⟩)) M' w':=fun v w' hv hb=>by
  refine ⟨M,hv,Ext.below hb,?_⟩
  rw [hat]
  exact A8.Cm ((Hp M0 w0 S rs).st _ _ _ hb hI) hj' rfl rfl hv
 cases r with
 |halt x w'=>exact fP
 |ok x w'=>
  cases x
  case value v=>exact key v w' fP.1 fP.2
  case skip=>exact key undef w' fP.1 fP.2
  case enter f args=>
   obtain ⟨hb,hc⟩:=fP
   refine Calls.mono hc ?_
   rintro e w'' ⟨v,g0,g1,g2⟩
   obtain ⟨M',k1,k2,k3⟩:=key v w'' g1 (Lj hb g2)
   exact ⟨v,M',g0,k1,k2,k3⟩
  all_goals exact fP
theorem Pq {s:Nat} {op:Op} (h:(Operand.tmp s)∈op.operands.toList) (ho:o.op=op):s∈looks o:=List.mem_filterMap.2 ⟨_,by rw [ho];exact h,rfl⟩
theorem BQ.pin {Q:Exit→Act→World→Prop} {rs:List SR} (s:Nat) {p:Pr} (hs:E.lookup s=some p) (k:∀v,BQ n M0 w0 S ((s,Ag v p)::E) rs Q):BQ n M0 w0 S E rs Q:=by
 rintro a w ⟨M,g1,g2,g3,g4⟩
 refine k (a.tmps.getD s undef) a w ⟨M,g1,g2,fun c z hz=> ?_,g4⟩
 simp only [List.lookup] at hz
 by_cases hcs:c=s
 · subst hcs;simp only [beq_self_eq_true,Option.some.injEq] at hz;subst hz;exact ⟨rfl,g3 c p hs⟩
 · rw [show (c==s)=false by simpa using hcs] at hz;exact g3 c z hz
theorem BQ.fix {Q:Exit→Act→World→Prop} {rs:List SR} (j:Nat) {R:SR} (r:As) (hR:rs[j]? =some R) (hs:∀a:Act,(∃M w,En M w E a)→R.at_ a=r) (k:BQ n M0 w0 S E (rs.set j (SR.c r)) Q):BQ n M0 w0 S E rs Q:=by
 rintro a w ⟨M,g1,g2,g3,g4⟩
 refine k a w ⟨M,g1,g2,g3,?_⟩
 have e:=hs a ⟨M,w,g3⟩
 have e3:(rs.set j (SR.c r)).map (·.at_ a)=rs.map (·.at_ a):=by
  apply List.ext_getElem?
  intro m
  rw [List.getElem?_map,List.getElem?_map,List.getElem?_set]
  by_cases him:j=m
  ·
   subst him
   have hjl:j<rs.length:=by rcases Nat.lt_or_ge j rs.length with h|h;exact h;rw [List.getElem?_eq_none h] at hR;cases hR
   rw [if_pos rfl,if_pos hjl,hR]
   show some ((SR.c r).at_ a)=some (R.at_ a)
   rw [e];rfl
  · rw [if_neg him]
 rw [e3];exact g4
theorem UK {M:Av} {w:World} {a:Act} {s:Nat} {v:Value} {p:Pr} (h:En M w E a) (hs:E.lookup s=some (Ag v p)):a.tmps.getD s undef=v:=(h s _ hs).1
theorem BQ.xS {Q:Exit→Act→World→Prop} {rs:List SR} (j s:Nat) {f:Value→As} {v:Value} {p:Pr} (hR:rs[j]? =some ⟨s,f⟩) (hs:E.lookup s=some (Ag v p)) (k:BQ n M0 w0 S E (rs.set j (SR.c (f v))) Q):BQ n M0 w0 S E rs Q:=
 BQ.fix j _ hR (fun a ⟨_,_,h⟩=>by show f (a.tmps.getD s undef)=_;rw [UK h hs]) k
theorem BQ.sN {Q:Exit→Act→World→Prop} {rs:List SR} (j d s:Nat) {f:Value→Value→As} {u v:Value} {p q:Pr} (hR:rs[j]? =some ⟨.two d s,Vp f⟩) (hd:E.lookup d=some (Ag u p)) (hs:E.lookup s=some (Ag v q)) (k:BQ n M0 w0 S E (rs.set j (SR.c (f v u))) Q):BQ n M0 w0 S E rs Q:=
 BQ.fix j _ hR (fun a ⟨_,_,h⟩=>by rw [Q4,UK h hs,UK h hd]) k
end
section
variable {P:Program} {L:Lg P} {n:Fm} {fz:Nat} {E:Env} {I:CT} {M0:Av} {w0:World} {S:Nat→Prop} {rs:List As} {Q:Exit→Act→World→Prop} {c:Code}
theorem Fin.shape {e:Exit} (s:Nat) {v:Value} (form:Nat→Value) (hs:E.lookup s=some (Ag v (Cp.ex fun b=>is (form b)))) (k:∀b,v=form b→Fin n ((s,is (form b))::E) (Hp M0 w0 S rs) Q e):Fin n E (Hp M0 w0 S rs) Q e:=by
 intro a w hst
 obtain ⟨M,h1,h2,he,h4⟩:=hst
 obtain ⟨h5,b,h6⟩:=he s _ hs
 have hv:v=form b:=by rw [←h5];exact h6
 refine k b hv a w ⟨M,h1,h2,fun c z hz=> ?_,h4⟩
 simp only [List.lookup] at hz
 by_cases hcs:c=s
 · subst hcs;simp only [beq_self_eq_true,Option.some.injEq] at hz;subst hz;exact h6
 · rw [show (c==s)=false by simpa using hcs] at hz;exact he c z hz
theorem Fin.sO {e:Exit} {rs':List As} (hp:rs.Perm rs') (k:Fin n E (Hp M0 w0 S rs') Q e):Fin n E (Hp M0 w0 S rs) Q e:=fun a w ⟨M,h1,h2,h3,h4⟩=>k a w ⟨M,h1,h2,h3,A8.perm hp h4⟩
end
section
variable {P:Program} {L:Lg P} {n:Fm} {fz:Nat} {E:Env} {I:CT} {M0:Av} {w0:World} {S:Nat→Prop} {rs:List As} {Q:Exit→Act→World→Prop} {c:Code}
theorem Fin.st {E1:Env} {Q':Exit→Act→World→Prop} (hs:CM E E1):Fin n E I (Exit.then (St n E1 I) Q') .normal:=fun _ _ h=>h.sub hs (fun _ _ h=>h)
end
section
variable {P:Program} {fz:Nat} {E:Env} {M0 M1:Av} {w0 w1:World} {S:Nat→Prop} {g:Func} {α β:Type} {xs:List α} {own:List α→List As} {R Rx:List α→β→List As}
end
section
variable {P:Program} {L:Lg P} {n:Fm} {fz:Nat} {E:Env} {M0:Av} {w0:World} {S:Nat→Prop} {o:Oper}
def aK (T:TypeId) (u v:Value):As:=match v with| .pointer (some a)=>AE true a.block T (u.cells.toList.map is)|_=>CD
theorem fQ {j d s:Nat} {R:SR} {p1 q:Pr} {p:Value→Pr} {R':Value→Value→As} (hd:o.dst=some d) (hs:d≠s) (hq:∀v,Pr.le (p v) q) (hg:o.guard=none) (h1:E.lookup s=some p1) (hls:s∈looks o) (h:∀v,Dn P M0 w0 S n j R ⟨d,R' v⟩ o ((s,Ag v p1)::E) (p v)):Dn P M0 w0 S n j R ⟨.two d s,Vp R'⟩ o E q:=by
 refine ⟨hg,fun M w a rs hsz he hI hj=> ?_⟩
 refine FN.conv (hq _) (fun v=> ?_) ((h (a.tmps.getD s undef)).2 M w a rs hsz (N_ he s (he s p1 hls h1)) hI hj)
 rw [Q4,hd,Bg (Ne.symm hs)];rfl
theorem W0 {t:TypeId} {s y:Tmp} {j m:Nat} {T:TypeId} {ps qs:List Pr} {p:Pr} (hg:o.guard=none) (hd:o.dst=none) (ho:o.op= .store t (.tmp s) (.tmp y)) (hsy:s≠y) (hx:E.lookup s=some (Cp.ex fun b=>ptr b 0)) (hy:E.lookup y=some p) (hp:Pr.le p (DF qs))
  (hz:Ax P t=some m) (hm:qs.length=m) (hl:ps.length=m):Dn P M0 w0 S n j ⟨s,Fy T ps⟩ ⟨.two s y,Vp fun u v=>aK T u v⟩ o E any:=by
 refine ⟨hg,fun M w a rs hsz he hI hj=> ?_⟩
 have hyl:y∈looks o:=Pq (op:= .store t (.tmp s) (.tmp y)) (by simp [Op.operands]) ho
 have hpy:=hp _ _ _ (he y p hyl hy)
 have hle:Pr.le (Ag (a.tmps.getD y undef) (DF qs)) (DF ((a.tmps.getD y undef).cells.toList.map is)):=fun M w v h=>by
  obtain ⟨rfl,h2⟩:=h
  obtain ⟨g1,g2⟩:=h2
  exact ⟨J3 _ _ _,g2⟩
 have h:=(DH (P:=P) (M0:=M0) (w0:=w0) (S:=S) (n:=n) (j:=j) (T:=T) (ps:=ps) (qs:=(a.tmps.getD y undef).cells.toList.map is) (E:=(y,Ag (a.tmps.getD y undef) (DF qs))::E) hg hd ho (by simp only [List.lookup];rw [show (s==y)=false by simpa using hsy];exact hx) ⟨_,List.lookup_cons_self,hle⟩ hz (by have:=hpy.1.length;rw [List.length_map];omega) hl).2 M w a rs hsz (N_ he y hpy) hI hj
 refine FN.conv (Pr.le_refl _) (fun v=> ?_) h
 rw [Q4,hd];rfl
end
section
variable {P:Program} {L:Lg P} {n:Fm} {fz:Nat} {E:Env} {M0:Av} {w0:World} {S:Nat→Prop} {rs:List As} {Q:Exit→Act→World→Prop}
theorem SQ {M:Av} {w:World}:∀{zs cs:List Value},HL M w (zs.map is) cs→cs=zs
 |[],[],_=>rfl
 |[],_::_,h=>h.elim
 |_::_,[],h=>h.elim
 |z::zs,c::cs,h=>by
  obtain ⟨h1,h2⟩:=h
  rw [SQ h2,show c=z from h1]
theorem Fin.aL {e:Exit} {T:TypeId} {u:Value} {b:Nat} {ps:List Pr} (i j:Nat) (hi:rs[i]? =some (LU (agg ps) u)) (hj:rs[j]? =some (aK T u (.pointer (some ⟨b,0,none⟩)))) (k:Fin n E (Hp M0 w0 S (rs.set j (AE true b T ps))) Q e):Fin n E (Hp M0 w0 S rs) Q e:=by
 rintro a w ⟨M,h1,h2,h3,h4⟩
 have h4:A8 M0 w0 S rs M w:=h4
 refine k a w ⟨M,h1,h2,h3,A8.Cm h4 hj rfl rfl ?_⟩
 obtain ⟨cs,rfl,_,hcs⟩:=(h4.hold _ (List.mem_of_getElem? hi)).1
 obtain ⟨g0,cs',g1,g2,g3⟩:=(h4.hold _ (List.mem_of_getElem? hj)).1
 have e1:cs'=cs:=by
  have:=SQ g2
  rw [this];show cs.toArray.toList=cs;simp
 subst e1
 exact ⟨g0,cs',g1,hcs,g3⟩
end
end Cp
namespace Go.Proofs.YtmpglcehonnpkaaGreat
open Go Go.RowKit Cp Go.Proofs.Tryz
abbrev ER (l:List BK):Pr:=slice 8 (l.map EP)
def Kl (c:A9) (x:BK):Bool:=decide (x.AV<0)||decide (x.AV≥c.HY.length)
def OA (c:A9) (x:BK):Int:=c.HY.getD x.AV.toNat 0
def Dj (c:A9) (l:List BK):Int:=if 24<l.length then 3 else if l.any (Kl c) then 40 else 0
def OB (c:A9) (l:List BK):List Int:=if Dj c l=0 then l.map (OA c) else []
open Classical in
noncomputable def Ih (e:C0) (c:A9) (l:List BK):Int:=if EY e=false then 31 else if c.check (e.BW.length:Nat)≠0 then c.check (e.BW.length:Nat) else Dj c l
theorem Vq {c:A9} {l:List BK} (h:24<l.length):Dj c l=3:=by unfold Dj;rw [if_pos h]
theorem Km {c:A9} {l:List BK} {k:Nat} {x:BK} (h:¬24<l.length) (hx:l[k]? =some x) (hb:Kl c x=true):Dj c l=40:=by unfold Dj;rw [if_neg h,if_pos (List.any_eq_true.2 ⟨x,List.mem_of_getElem? hx,hb⟩)]
theorem Vr {c:A9} {l:List BK} (h:¬24<l.length) (hb:∀j y,j<l.length→l[j]? =some y→Kl c y=false):Dj c l=0:=by
 unfold Dj;rw [if_neg h,if_neg]
 rw [Bool.not_eq_true,List.any_eq_false]
 intro y hy
 obtain ⟨j,hj⟩:=List.mem_iff_getElem?.1 hy
 rw [hb j y (by rcases Nat.lt_or_ge j l.length with h2|h2;exact h2;rw [List.getElem?_eq_none h2] at hj;cases hj) hj];decide
theorem OC {c:A9} {l:List BK} {e:Int} (h:Dj c l=e) (he:e≠0):OB c l=[]:=by unfold OB;rw [if_neg (by rw [h];exact he)]
theorem SS {c:A9} {l:List BK} (h:Dj c l=0):OB c l=l.map (OA c):=by unfold OB;rw [if_pos h]
theorem iw {c:A9} {x:BK} (h:0≤x.AV∧x.AV<c.HY.length):c.HY[x.AV.toNat]? =some (OA c x):=by
 unfold OA;rw [List.getD_eq_getElem?_getD,List.getElem?_eq_getElem (by omega)];rfl
theorem aM {c:A9} {l:List BK} {k:Nat} {x:BK} (h:l[k]? =some x):(((l.take k).map (OA c)).map fun n=>[int n])++[[int (OA c x)]]=((l.take (k+1)).map (OA c)).map fun n=>[int n]:=by
 rw [List.take_add_one,h,List.map_append,List.map_append];rfl
def aN (l:List Int):Int:=l.foldl max (-1)
theorem Q5 {p q:Pr} [One p] [One q] {l:List Int}  :Az prog 9 [agg [p,q,ints l]] (int (aN l)):=by
 refine fo func9 rfl ⟨rfl,rfl⟩ fun M0 w0=>(Tr.Gg 0 2 rfl rfl fun Qz=> ?_)
 refine a3 ?_
 refine Tr.block (Tr.A7 [(7,_),(8,_)] (O9 rfl) (fun k:Nat=>[(9,int ((k:Nat):Int)),(3,int ((l.take k).foldl max (-1)))]) (fun k:Nat=>k≤(l).length) (fun k:Nat=>(l).length-k) 0 (Nat.zero_le _) ⟨ke rfl,ke rfl,trivial⟩ ?_)
 rintro k BN
 refine ac ?_
 refine Tr.seq ?_
 refine Tr.cn rfl ?_ ?_<;>intro h1 q1
 have Af:k<(l).length:=AH h1
 obtain ⟨x,Ad⟩:=at_ Af
 refine ac ?_
 refine Tr.seq (Tr.block (Tr.seq (Tr.AW (co rfl (AA rfl underlying22 Bh (vl rfl) (vl rfl) (by omega) (AO Ad)) ?_))))
 refine a2 ?_
 refine co rfl (JT rfl (vl rfl) (vl rfl)) ?_
 refine a2 ?_
 exact Fin.AM (k+1) ⟨Af,by omega⟩ ⟨⟨_,rfl,AD k⟩,⟨_,rfl,int_eq (by rw [List.take_add_one,Ad,List.foldl_append];rfl)⟩,ke rfl,ke rfl,trivial⟩
 have BI:k=(l).length:=by have:=AJ h1;omega
 subst BI
 rw [List.take_length]
 refine a3 ?_
 · exact Lr
-- sets of bits, uh
def MP (b:BitVec 32):Nat:=((List.range 32).find? fun i=>b.getLsbD i).getD 32
def iy (b:BitVec 32):List Nat:=(List.range 32).filter fun i=>b.getLsbD i
def lX (b:BitVec 32) (i:Nat):BitVec 32:=b&&&~~~(1#32<<<i)
def onB (b:BitVec 32) (i:Nat):BitVec 32:=b|||(1#32<<<i)
theorem aO (i j:Nat):(1#32<<<i).getLsbD j=(decide (i=j)&&decide (j<32)):=by
 rw [BitVec.getLsbD_shiftLeft]
 by_cases h1:j<32
 ·
  by_cases h2:i=j
  · subst h2;simp [h1]
  ·
   by_cases h3:j<i
   · simp [h3,h2]
   ·
    have:(1#32).getLsbD (j-i)=false:=by
     rw [BitVec.getLsbD_ofNat]
     have:(1:Nat).testBit (j-i)=false:=by
      obtain ⟨k,hk⟩:∃k,j-i=k+1:=⟨j-i-1,by omega⟩
      rw [hk,Nat.testBit_succ];simp
     rw [this];simp
    rw [this];simp [h2]
 · simp [h1]
theorem fR {b:BitVec 32} {i j:Nat}:(lX b i).getLsbD j=(b.getLsbD j&& !decide (i=j)):=by
 unfold lX
 rw [BitVec.getLsbD_and,BitVec.getLsbD_not,aO]
 by_cases hj:j<32
 · simp [hj]
 ·
  have:b.getLsbD j=false:=BitVec.getLsbD_of_ge b j (by omega)
  rw [this];simp
theorem SU {α:Type} [DecidableEq α] {p:α→Bool} {x:α}:∀{l:List α},l.Nodup→l.find? p=some x→l.filter p=x::l.filter (fun y=>p y&& !(decide (x=y):Bool)):=by
 intro l
 induction l with
 |nil=>intro _ h;cases h
 |cons a l ih=>
  intro hn h
  obtain ⟨ha,hn⟩:=List.nodup_cons.1 hn
  rw [List.find?_cons] at h
  cases hp:p a with
  |true=>
   rw [hp] at h
   simp at h
   subst h
   rw [List.filter_cons,hp,List.filter_cons]
   simp [hp]
   exact List.filter_congr fun y hy=>by
    have:¬a=y:=fun e=>ha (e ▸ hy)
    simp [this]
  |false=>
   rw [hp] at h
   simp at h
   rw [List.filter_cons,hp,List.filter_cons,hp]
   simp
   exact ih hn (by simpa using h)
theorem fS {b:BitVec 32} (h:∀i,i<32→b.getLsbD i=false):b=0#32:=BitVec.eq_of_getLsbD_eq fun i hi=>by rw [h i hi];simp
theorem OD {b:BitVec 32} (h:b≠0#32):(List.range 32).find? (fun i=>b.getLsbD i)=some (MP b):=by
 unfold MP
 cases hf:(List.range 32).find? (fun i=>b.getLsbD i) with
 |some x=>rfl
 |none=>
  rw [List.find?_eq_none] at hf
  exact absurd (fS fun i hi=>by simpa using hf i (List.mem_range.2 hi)) h
theorem aP {b:BitVec 32} (h:b≠0#32):b.getLsbD (MP b)=true:=by simpa using List.find?_some (OD h)
theorem lY {b:BitVec 32} (h:b≠0#32):MP b<32:=List.mem_range.1 (List.mem_of_find?_eq_some (OD h))
theorem SV {b:BitVec 32} (h:b≠0#32):iy b=MP b::iy (lX b (MP b)):=by
 unfold iy
 rw [SU List.nodup_range (OD h)]
 congr 1
 exact List.filter_congr fun y _=>by rw [fR]
theorem fT {b:BitVec 32} {i:Nat}:i∈iy b↔b.getLsbD i=true:=by
 unfold iy
 rw [List.mem_filter,List.mem_range]
 constructor
 · exact fun h=>h.2
 ·
  intro h
  refine ⟨?_,h⟩
  rcases Nat.lt_or_ge i 32 with h2|h2
  · exact h2
  · rw [BitVec.getLsbD_of_ge b i h2] at h;cases h
theorem Vs {b:BitVec 32} {i:Nat} (h:b.getLsbD i=true):MP b≤i:=by
 have hb:b≠0#32:=fun e=>by rw [e] at h;simp at h
 have h1:i∈iy b:=fT.2 h
 rw [SV hb] at h1
 rcases List.mem_cons.1 h1 with h2|h2
 · omega
 ·
  have h3:(iy b).Pairwise (· < ·):=List.Pairwise.filter _ List.pairwise_lt_range
  rw [SV hb] at h3
  exact Nat.le_of_lt ((List.pairwise_cons.1 h3).1 i h2)
theorem W4 {b:BitVec 32} (h:b≠0#32):b&&&(-b)=1#32<<<(MP b):=by
 apply BitVec.eq_of_getLsbD_eq
 intro i hi
 rw [BitVec.getLsbD_and,BitVec.getLsbD_neg,aO]
 by_cases h1:MP b=i
 ·
  subst h1
  have:¬∃j,j<MP b∧b.getLsbD j=true:=fun ⟨j,hj,hb⟩=>by have:=Vs hb;omega
  simp [hi,aP h,this]
 ·
  by_cases h2:MP b<i
  ·
   have:∃j,j<i∧b.getLsbD j=true:=⟨_,h2,aP h⟩
   simp [this,h1,hi]
  ·
   have:b.getLsbD i=false:=by
    cases hb:b.getLsbD i with
    |false=>rfl
    |true=>have:=Vs hb;omega
   simp [this,h1]
def iz:List Nat:=[0,1,28,2,29,14,24,3,30,22,20,15,25,17,4,8,31,27,13,23,21,19,16,7,26,12,18,6,11,5,10,9]
theorem fU:∀i,i<32→iz[(((1#32<<<i)*125613361#32)>>>27).toNat]? =some i:=by decide
-- rows of bits as a relation (to stand behind Rq.lean and Bit.lean)
theorem Tc {b:BitVec 32} (h:b≠0#32):iz[(((((b&&& -b)*125613361#32)>>>27).toNat:Nat):Int).toNat]? =some (MP b):=by
 rw [Int.toNat_natCast,W4 h];exact fU _ (lY h)
-- bits as y8 are sP (behind y9.lean)
def bvF (p:Nat→Bool):Nat→BitVec 32
 |0=>0#32
 |k+1=>if p k then onB (bvF p k) k else bvF p k
def sQ (n:Nat) (l:List BS):List (BitVec 32):=(List.range n).map fun b=>bvF (fun a=>Dw l n a b) n
def sS (i:Nat) (A:List (BitVec 32)) (k:Nat):List (BitVec 32):=A.set k (onB (A.getD k 0#32) i)
def sU (B:List (BitVec 32)):Nat→List (BitVec 32)
 |0=>List.replicate B.length 0#32
 |i+1=>(iy (B.getD i 0#32)).foldl (sS i) (sU B i)
abbrev bits (B:List (BitVec 32)):Pr:=slice 1 (B.map fun x=>[u32 x])
def sV (n:Int) (l:List BS):Pr:=if Bf n l=0 then ref [int n,bits (sQ n.toNat l),bits (sU (sQ n.toNat l) n.toNat)] else is (.pointer none)
instance sW (n:Int) (l:List BS):One (sV n l):=by
 unfold sV;split
 · exact Ut _
 · exact Us _
theorem Vt {n:Int} {l:List BS} (h:n<0∨24<n):Bf n l=2:=by unfold Bf;rw [if_pos h]
theorem Ij {n:Int} {l:List BS} {k:Nat} {r:BS} (h:0≤n∧n≤24) (hr:l[k]? =some r) (hb:FV n r=true):Bf n l=44:=by
 unfold Bf;rw [if_neg (by omega),if_pos (List.any_eq_true.2 ⟨r,List.mem_of_getElem? hr,hb⟩)]
theorem fV {n:Int} {l:List BS} (h:∀j y,j<l.length→l[j]? =some y→FV n y=false):∀r∈l,FV n r=false:=fun r hr=>by
 obtain ⟨j,hj⟩:=List.mem_iff_getElem?.1 hr
 exact h j r (by rcases Nat.lt_or_ge j l.length with h2|h2;exact h2;rw [List.getElem?_eq_none h2] at hj;cases hj) hj
theorem UL {n:Int} {l:List BS} (h:∀r∈l,FV n r=false):¬l.any (FV n)=true:=by
 rw [Bool.not_eq_true,List.any_eq_false];exact fun r hr=>by rw [h r hr];decide
theorem fW {n:Int} {l:List BS} {k:Nat} {a b:BS} (h:0≤n∧n≤24) (hb:∀r∈l,FV n r=false) (hk:0<k) (ha:l[k-1]? =some a) (hx:l[k]? =some b) (hl:Ef a b=false):Bf n l=6:=by
 unfold Bf;rw [if_neg (by omega),if_neg (UL hb),if_pos]
 cases hs:DE l with
 |false=>rfl
 |true=>
  have:=Jp.1 hs (k-1) a b ha (by rw [Nat.sub_add_cancel hk];exact hx)
  rw [hl] at this;cases this
theorem aQ {n:Nat} {l:List BS} {i:Nat} (h:n≤24) (hb:∀r∈l,FV n r=false) (hs:DE l=true) (hi:i<n) (hw:Dw l n i i=true):Bf n l=45:=by
 unfold Bf;rw [if_neg (by omega),if_neg (UL hb),if_neg (by rw [hs];decide),if_pos (show sJ (n:Int).toNat l=true from List.any_eq_true.2 ⟨i,List.mem_range.2 (by omega),hw⟩)]
theorem fX {n:Nat} {l:List BS} (h:n≤24) (hb:∀r∈l,FV n r=false) (hs:DE l=true) (hw:∀i,i<n→Dw l n i i=false):Bf n l=0:=by
 unfold Bf;rw [if_neg (by omega),if_neg (UL hb),if_neg (by rw [hs];decide),if_neg]
 intro hc
 obtain ⟨i,hi,h2⟩:=List.any_eq_true.1 hc
 have:=hw i (by simpa using hi)
 rw [show ((n:Int)).toNat=n from rfl] at h2
 rw [this] at h2;cases h2
theorem UM {l:List BS} (h:∀(j:Nat) a b,j+1<l.length→l[j]? =some a→l[j+1]? =some b→Ef a b=true):DE l=true:=Jp.2 fun j a b ha hb=>h j a b (by rcases Nat.lt_or_ge (j+1) l.length with h2|h2;exact h2;rw [List.getElem?_eq_none h2] at hb;cases hb) ha hb
theorem SW {l:List BS} {k:Nat} {x:BS} (hx:l[k]? =some x) (hp:∀y,0<k→l[k-1]? =some y→Ef y x=true) (h:∀(j:Nat) a b,j+1<k→l[j]? =some a→l[j+1]? =some b→Ef a b=true):∀(j:Nat) a b,j+1<k+1→l[j]? =some a→l[j+1]? =some b→Ef a b=true:=by
 intro j a b hj ha hb
 by_cases hjk:j+1=k
 · subst hjk;rw [hx] at hb;cases hb;exact hp a (by omega) (by simpa using ha)
 · exact h j a b (by omega) ha hb
noncomputable def Q6 (c:A9) (l:List BK) (r:List BS) (fr:Int):Option (List Int×List Int×List Int):=LR c r (l.map (OA c)) fr l.length (Cq l.length r l.length).1
open Classical in
noncomputable def Ik (e:C0) (c:A9) (l:List BK) (r:List BS) (fr:Int):Int:=if Ih e c l≠0 then Ih e c l else if Bf (l.length:Nat) r≠0 then Bf (l.length:Nat) r else match Q6 c l r fr with|none=>51|some _=>0
noncomputable def lZ (c:A9) (l:List BK) (r:List BS) (fr:Int):List Int:=match Q6 c l r fr with|none=>[]|some p=>p.1
open Classical in
noncomputable def Kn (e:C0) (c:A9) (l:List BK) (r:List BS) (fr:Int):List BK:=if Ik e c l r fr=0 then l else []
open Classical in
noncomputable def MQ (e:C0) (c:A9) (l:List BK) (r:List BS) (fr:Int):List BS:=if Ik e c l r fr=0 then r else []
open Classical in
noncomputable def On (e:C0) (c:A9) (l:List BK) (r:List BS) (fr:Int):List Int:=if Ik e c l r fr=0 then lZ c l r fr else []
noncomputable abbrev aR (e:C0) (c:A9) (l:List BK) (r:List BS) (fr:Int):List Pr:=[ER (Kn e c l r fr),reqs (MQ e c l r fr),ints (On e c l r fr)]
section
variable {e:C0} {c:A9} {l:List BK} {r:List BS} {fr:Int}
theorem Pt {n:Int} (h:c.check n=0):c.own=0∧(c.HY.length:Int)=n∧∀t∈c.HY,c.has t=true:=by
 have h':=h
 unfold A9.check at h
 split at h
 · cases h
 ·
  split at h
  · cases h
  ·
   split at h
   · cases h
   ·
    split at h
    · cases h
    ·
     split at h
     · cases h
     ·
      split at h
      · cases h
      ·
       rename_i _ _ _ _ _ h6
       rw [not_or,Classical.not_not,Bool.not_eq_true,List.any_eq_false] at h6
       refine ⟨by unfold A9.own;rw [h6.1];exact h',h6.1,fun t ht=>by simpa using h6.2 t ht⟩
theorem OE (h:Dj c l=0):l.length≤24∧∀x∈l,Kl c x=false:=by
 unfold Dj at h
 by_cases h1:24<l.length
 · rw [if_pos h1] at h;cases h
 ·
  rw [if_neg h1] at h
  refine ⟨by omega,fun x hx=> ?_⟩
  cases hb:Kl c x with
  |false=>rfl
  |true=>rw [if_pos (List.any_eq_true.2 ⟨x,hx,hb⟩)] at h;cases h
theorem fY (h:Dj c l=0) (ht:∀t∈c.HY,c.has t=true):∀x∈l.map (OA c),c.has x=true:=fun x hx=>by
 obtain ⟨y,hy,rfl⟩:=List.mem_map.1 hx
 have hb:=(OE h).2 y hy
 unfold Kl at hb
 rw [Bool.or_eq_false_iff,decide_eq_false_iff_not,decide_eq_false_iff_not] at hb
 exact ht _ (List.mem_of_getElem? (iw (by omega)))
theorem Pu (h:Ih e c l≠0):Ik e c l r fr=Ih e c l:=by unfold Ik;rw [if_pos h]
theorem i6 (h:Ih e c l=0) (hv:Bf (l.length:Nat) r≠0):Ik e c l r fr=Bf (l.length:Nat) r:=by unfold Ik;rw [if_neg (not_not_intro h),if_pos hv]
theorem aS (h:Ih e c l=0) (hv:Bf (l.length:Nat) r=0) (hs:Q6 c l r fr=none):Ik e c l r fr=51:=by unfold Ik;rw [if_neg (not_not_intro h),if_neg (not_not_intro hv),hs]
theorem i7 {p:List Int×List Int×List Int} (h:Ih e c l=0) (hv:Bf (l.length:Nat) r=0) (hs:Q6 c l r fr=some p):Ik e c l r fr=0:=by unfold Ik;rw [if_neg (not_not_intro h),if_neg (not_not_intro hv),hs]
theorem aT (h:Ik e c l r fr≠0):Kn e c l r fr=[]∧MQ e c l r fr=[]∧On e c l r fr=[]:=by unfold Kn MQ On;rw [if_neg h,if_neg h,if_neg h];exact ⟨rfl,rfl,rfl⟩
theorem aU (h:Ik e c l r fr=0):Kn e c l r fr=l∧MQ e c l r fr=r∧On e c l r fr=lZ c l r fr:=by unfold Kn MQ On;rw [if_pos h,if_pos h,if_pos h];exact ⟨rfl,rfl,rfl⟩
theorem OG {k:Int} (h:Ik e c l r fr=k) (hk:k≠0):Pr.le (agg [is (.slice none 0 0),is (.slice none 0 0),is (.slice none 0 0)]) (agg (aR e c l r fr)):=by
 obtain ⟨h1,h2,h3⟩:=aT (e:=e) (c:=c) (l:=l) (r:=r) (fr:=fr) (by rw [h];exact hk)
 unfold aR;rw [h1,h2,h3];exact Ar ⟨AF 8,AF 2,AF 1,trivial⟩
theorem fZ {d b y:List Int} (h:Ik e c l r fr=0) (hs:Q6 c l r fr=some (d,b,y)):Pr.le (agg [ER l,reqs r,ints d]) (agg (aR e c l r fr)):=by
 obtain ⟨h1,h2,h3⟩:=aU h
 unfold aR;rw [h1,h2,h3];unfold lZ;rw [hs];exact Pr.le_refl _
theorem OH {q:BS} {m:Nat} {d:List Int} {i:Int} (h:r[m]? =some q):Eu (r.take (m+1)) d i fr=if q.thn=i then max (Eu (r.take m) d i fr) (d.getD q.fst.toNat 0+1) else Eu (r.take m) d i fr:=by
 unfold Eu;rw [List.take_add_one,h,List.foldl_append];rfl
theorem FE {l:List Int} {i:Nat} (h:i<l.length):l[i]? =some (l.getD i 0):=by rw [List.getD_eq_getElem?_getD,List.getElem?_eq_getElem h];rfl
end
structure Su where
 code:Int
 x1:Int
 x2:Int
 s1:Int
 s2:Int
 c1:Int
 c2:Int
 m1:Int
 m2:Int
 lo:Int
 hi:Int
abbrev xT:Pr:=Cp.ex fun l:List UInt8=>str l
abbrev Pv (s:Su):List Pr:=[int s.code,xT,int s.x1,int s.x2,int s.s1,int s.s2,int s.c1,int s.c2,int s.m1,int s.m2,int s.lo,int s.hi]
def suT:List Su:=[⟨1,10,0,5,0,14,128,19,0,1,2⟩,⟨2,10,0,5,0,14,128,20,0,1,3⟩,⟨3,10,0,5,0,15,168,20,0,1,3⟩,⟨4,11,1024,6,0,15,168,20,0,1,3⟩,⟨5,11,1024,5,0,15,168,20,0,1,3⟩,⟨6,10,0,5,0,16,128,20,0,1,3⟩,⟨7,11,2048,5,0,16,128,20,0,1,3⟩,⟨8,12,256,5,0,16,128,20,0,1,3⟩,⟨9,12,256,7,0,16,256,21,0,3,3⟩,⟨10,12,256,5,0,17,128,22,0,3,3⟩,⟨11,12,384,7,0,17,256,22,0,3,3⟩,⟨12,12,256,5,0,18,0,22,0,3,3⟩,⟨13,10,0,5,0,17,256,22,0,3,3⟩,⟨14,12,256,0,0,17,128,22,0,4,4⟩,⟨15,12,256,0,0,18,0,22,0,4,4⟩,⟨16,13,768,0,0,17,256,22,0,4,4⟩]
abbrev aV:Su:=⟨0,0,0,0,0,0,0,0,0,0,0⟩
def MR (code:Int):Bool:=decide (1≤code∧code≤16)
def MS (code:Int):Su:=if MR code then suT[(code-1).toNat]?.getD aV else aV
theorem ld {code:Int} (h:1≤code∧code≤16):suT[(code-1).toNat]? =some (MS code):=by
 obtain ⟨x,hx⟩:=at_ (l:=suT) (k:=(code-1).toNat) (by show _<16;omega)
 unfold MS MR;rw [if_pos (decide_eq_true h),hx];rfl
theorem B1 {a l m x1 y1 x2 y2 x3 y3 x4 y4:Int} {s:List UInt8}  :Az prog 113 [int a,str s,agg [int x1,int y1],agg [int x2,int y2],agg [int x3,int y3],agg [int x4,int y4],int l,int m] (agg (Pv ⟨a,x1,y1,x2,y2,x3,y3,x4,y4,l,m⟩)):=by
 refine Az.of func113 rfl rfl (by exact Nb rfl) fun M0 w0=> ?_
 refine Tr.seq (Tr.An ?_)
 iterate 4 refine tp rfl (BZ rfl (Va rfl)) ?_
 refine Tl rfl rfl rfl rfl z148 G3 (fun b1=> ?_)
 refine TO.nil (Fin.go (Tr.seq (Tr.An (tm rfl (tm rfl ?_)))))
 iterate 4 refine tp rfl (AR rfl Hu JA (vl rfl) rfl rfl) ?_
 refine tm rfl (tm rfl (tp rfl (Ai (rows:=[(0,[_]),(1,[_]),(2,_),(3,_),(4,_),(5,_),(6,[_]),(7,[_])]) rfl Rm G3 ⟨⟨rfl,(Vo rfl)⟩,⟨⟨rfl,(Vo rfl)⟩,⟨⟨rfl,(Va rfl)⟩,⟨⟨rfl,(Va rfl)⟩,⟨⟨rfl,(Va rfl)⟩,⟨⟨rfl,(Va rfl)⟩,⟨⟨rfl,(Vo rfl)⟩,⟨⟨rfl,(Vo rfl)⟩,trivial⟩⟩⟩⟩⟩⟩⟩⟩ rfl) (TO.re 25 (agg (Pv ⟨a,x1,y1,x2,y2,x3,y3,x4,y4,l,m⟩)) rfl (Ar ⟨Lr,AG _ (Lr),Lr,Lr,Lr,Lr,Lr,Lr,Lr,Lr,Lr,Lr,trivial⟩) (TO.AK 0 rfl rfl rfl (vl rfl) (Va rfl) rfl Ep rfl rfl (TO.nil (Fin.go (Eh 16 rfl (Tr.ret (Fin.CJ rfl (AP.cell 0 rfl rfl HS Ep rfl (Lr)) ?_)))))))))
 · exact Lr
theorem SX   :Az prog 86 [] (slice 12 (suT.map Pv)):=by
 refine fo func86 rfl ⟨rfl,rfl⟩ fun M0 w0=> ?_
 refine ac ?_
 refine Tr.seq (Tr.An (tp rfl (CS (BO) rfl rfl rfl) (tp rfl (CS (BO) rfl rfl rfl) (tp rfl (Ai (rows:=[]) rfl jo De trivial rfl) ?_))))
 refine Tl rfl rfl rfl rfl z72 De (fun b1=> ?_)
 refine Tl rfl rfl rfl rfl z72 De (fun b2=> ?_)
 refine Tl rfl rfl rfl rfl z72 De (fun b3=> ?_)
 refine sf 2 1 ⟨rfl,rfl,rfl⟩ rfl rfl rfl rfl ?_
 refine sf 1 2 ⟨rfl,rfl,rfl⟩ rfl rfl rfl rfl ?_
 refine sf 0 3 ⟨rfl,rfl,rfl⟩ rfl rfl rfl rfl ?_
 refine ao ?_
 refine Tr.seq (Tr.An (tp rfl (CS (BO) rfl rfl rfl) (tp rfl (CS (BO) rfl rfl rfl) ?_)))
 refine Tl rfl rfl rfl rfl z72 De (fun b4=> ?_)
 refine Tl rfl rfl rfl rfl z72 De (fun b5=> ?_)
 refine sf 1 4 ⟨rfl,rfl,rfl⟩ rfl rfl rfl rfl ?_
 refine sf 0 5 ⟨rfl,rfl,rfl⟩ rfl rfl rfl rfl ?_
 refine ao ?_
 refine JV 1 2 3 4 5 rfl (Tr.seq (Tr.An (tp rfl (CS (BO) rfl rfl rfl) (tp rfl (CS (BO) rfl rfl rfl) (tp rfl (CS (BO) rfl rfl rfl) ?_)))))
 refine Tl rfl rfl rfl rfl z72 De (fun b6=> ?_)
 refine Tl rfl rfl rfl rfl z72 De (fun b7=> ?_)
 refine Tl rfl rfl rfl rfl z72 De (fun b8=> ?_)
 refine sf 2 6 ⟨rfl,rfl,rfl⟩ rfl rfl rfl rfl ?_
 refine sf 1 7 ⟨rfl,rfl,rfl⟩ rfl rfl rfl rfl ?_
 refine sf 0 8 ⟨rfl,rfl,rfl⟩ rfl rfl rfl rfl ?_
 refine ao ?_
 refine Jx 1 2 3 4 5 6 7 8 rfl (Tr.seq (Tr.An ?_))
 iterate 4 refine tp rfl (CS (BO) rfl rfl rfl) ?_
 refine Tl rfl rfl rfl rfl z72 De (fun b9=> ?_)
 refine Tl rfl rfl rfl rfl z72 De (fun b10=> ?_)
 refine Tl rfl rfl rfl rfl z72 De (fun b11=> ?_)
 refine Tl rfl rfl rfl rfl z72 De (fun b12=> ?_)
 refine sf 3 9 ⟨rfl,rfl,rfl⟩ rfl rfl rfl rfl ?_
 refine sf 2 10 ⟨rfl,rfl,rfl⟩ rfl rfl rfl rfl ?_
 refine sf 1 11 ⟨rfl,rfl,rfl⟩ rfl rfl rfl rfl ?_
 refine sf 0 12 ⟨rfl,rfl,rfl⟩ rfl rfl rfl rfl ?_
 refine ao ?_
 refine ND 1 2 3 4 5 6 7 8 9 10 11 12 rfl (Tr.seq (Tr.An (tp rfl (CS (BO) rfl rfl rfl) (tp rfl (CS (BO) rfl rfl rfl) ?_))))
 refine Tl rfl rfl rfl rfl z72 De (fun b13=> ?_)
 refine Tl rfl rfl rfl rfl z72 De (fun b14=> ?_)
 refine sf 1 13 ⟨rfl,rfl,rfl⟩ rfl rfl rfl rfl ?_
 refine sf 0 14 ⟨rfl,rfl,rfl⟩ rfl rfl rfl rfl ?_
 refine ao ?_
 refine MF 1 2 3 4 5 6 7 8 9 10 11 12 13 14 rfl ?_
 refine ac ?_
 refine co rfl (AQ rfl (B1) ⟨ke rfl,ke rfl,ke rfl,ke rfl,ke rfl,ke rfl,ke rfl,ke rfl,trivial⟩) ?_
 refine ac ?_
 refine co rfl (AQ rfl (B1) ⟨ke rfl,ke rfl,ke rfl,ke rfl,ke rfl,ke rfl,ke rfl,ke rfl,trivial⟩) ?_
 refine ac ?_
 refine co rfl (AQ rfl (B1) ⟨ke rfl,ke rfl,ke rfl,ke rfl,ke rfl,ke rfl,ke rfl,ke rfl,trivial⟩) (co rfl (CS (BO) rfl rfl rfl) (co rfl (CS (BO) rfl rfl rfl) ?_))
 refine ac ?_
 refine co rfl (AQ rfl (B1) ⟨ke rfl,ke rfl,ke rfl,ke rfl,ke rfl,ke rfl,ke rfl,ke rfl,trivial⟩) (co rfl (CS (BO) rfl rfl rfl) ?_)
 refine ac ?_
 refine co rfl (AQ rfl (B1) ⟨ke rfl,ke rfl,ke rfl,ke rfl,ke rfl,ke rfl,ke rfl,ke rfl,trivial⟩) ?_
 refine ac ?_
 refine co rfl (AQ rfl (B1) ⟨ke rfl,ke rfl,ke rfl,ke rfl,ke rfl,ke rfl,ke rfl,ke rfl,trivial⟩) (co rfl (CS (BO) rfl rfl rfl) ?_)
 refine ac ?_
 refine co rfl (AQ rfl (B1) ⟨ke rfl,ke rfl,ke rfl,ke rfl,ke rfl,ke rfl,ke rfl,ke rfl,trivial⟩) ?_
 refine ac ?_
 refine co rfl (AQ rfl (B1) ⟨ke rfl,ke rfl,ke rfl,ke rfl,ke rfl,ke rfl,ke rfl,ke rfl,trivial⟩) (co rfl (AR rfl Hu JA (vl rfl) rfl rfl) (co rfl (CS (BO) rfl rfl rfl) (co rfl (CS (BO) rfl rfl rfl) (co rfl (AR rfl Hu JA (vl rfl) rfl rfl) (co rfl (AQ rfl (B1) ⟨ke rfl,ke rfl,ke rfl,ke rfl,ke rfl,ke rfl,ke rfl,ke rfl,trivial⟩) ?_)))))
 refine ac ?_
 refine co rfl (AQ rfl (B1) ⟨ke rfl,ke rfl,ke rfl,ke rfl,ke rfl,ke rfl,ke rfl,ke rfl,trivial⟩) (co rfl (CS (BO) rfl rfl rfl) (co rfl (CS (BO) rfl rfl rfl) ?_))
 refine ac ?_
 refine co rfl (AQ rfl (B1) ⟨ke rfl,ke rfl,ke rfl,ke rfl,ke rfl,ke rfl,ke rfl,ke rfl,trivial⟩) ?_
 refine ac ?_
 refine co rfl (AQ rfl (B1) ⟨ke rfl,ke rfl,ke rfl,ke rfl,ke rfl,ke rfl,ke rfl,ke rfl,trivial⟩) ?_
 refine ac ?_
 refine co rfl (AQ rfl (B1) ⟨ke rfl,ke rfl,ke rfl,ke rfl,ke rfl,ke rfl,ke rfl,ke rfl,trivial⟩) ?_
 refine ac ?_
 refine co rfl (AQ rfl (B1) ⟨ke rfl,ke rfl,ke rfl,ke rfl,ke rfl,ke rfl,ke rfl,ke rfl,trivial⟩) ?_
 refine ac ?_
 refine co rfl (AQ rfl (B1) ⟨ke rfl,ke rfl,ke rfl,ke rfl,ke rfl,ke rfl,ke rfl,ke rfl,trivial⟩) (co rfl (CS (BO) rfl rfl rfl) ?_)
 refine ac ?_
 refine co rfl (AQ rfl (B1) ⟨ke rfl,ke rfl,ke rfl,ke rfl,ke rfl,ke rfl,ke rfl,ke rfl,trivial⟩) (co rfl (AL (xs:=[.tmp 33,.tmp 38,.tmp 43,.tmp 48,.tmp 53,.tmp 58,.tmp 63,.tmp 68,.tmp 73,.tmp 78,.tmp 83,.tmp 88,.tmp 93,.tmp 98,.tmp 103,.tmp 108]) (rows:=(suT.map Pv)) rfl rfl underlying190 Ep z148 rfl (by decide) ⟨⟨(by exact rfl),VL.le (vl rfl) (Aa _)⟩,⟨⟨(by exact rfl),VL.le (vl rfl) (Aa _)⟩,⟨⟨(by exact rfl),VL.le (vl rfl) (Aa _)⟩,⟨⟨(by exact rfl),VL.le (vl rfl) (Aa _)⟩,⟨⟨(by exact rfl),VL.le (vl rfl) (Aa _)⟩,⟨⟨(by exact rfl),VL.le (vl rfl) (Aa _)⟩,⟨⟨(by exact rfl),VL.le (vl rfl) (Aa _)⟩,⟨⟨(by exact rfl),VL.le (vl rfl) (Aa _)⟩,⟨⟨(by exact rfl),VL.le (vl rfl) (Aa _)⟩,⟨⟨(by exact rfl),VL.le (vl rfl) (Aa _)⟩,⟨⟨(by exact rfl),VL.le (vl rfl) (Aa _)⟩,⟨⟨(by exact rfl),VL.le (vl rfl) (Aa _)⟩,⟨⟨(by exact rfl),VL.le (vl rfl) (Aa _)⟩,⟨⟨(by exact rfl),VL.le (vl rfl) (Aa _)⟩,⟨⟨(by exact rfl),VL.le (vl rfl) (Aa _)⟩,⟨⟨(by exact rfl),VL.le (vl rfl) (Aa _)⟩,trivial⟩⟩⟩⟩⟩⟩⟩⟩⟩⟩⟩⟩⟩⟩⟩⟩ (by decide)) ?_)
 refine ac ?_
 refine Eh 0 rfl ?_
 refine ac ?_
 · exact Bp _ _
theorem Jr {code:Int}  :Az prog 60 [int code] (EI [agg (Pv (MS code)),int (if MR code then 0 else 8)]):=by
 refine fo func60 rfl ⟨rfl,rfl⟩ fun M0 w0=>(Tr.seq (Tr.An ?_))
 refine Tl rfl rfl rfl rfl z148 G3 (fun b1=> ?_)
 refine ap ?_
 refine ag ?_ ?_<;>intro h1 q1
 refine ac ?_
 refine Tr.cond rfl (fun _=> ?_) (fun h=>nomatch h)
 refine Tr.seq (Tr.An (tp rfl (Ai (rows:=[]) rfl Rm G3 trivial rfl) (TO.AK 0 rfl rfl rfl (vl rfl) (Va rfl) rfl Ep rfl rfl (tm rfl (TO.nil (Fin.go (Tr.ret (Fin.AB (Fin.BD rfl (AP.cell 0 rfl rfl HS Ep rfl (Lr)) (AP.tmp rfl (Lr)) ?_)))))))))
 · exact Am ⟨by unfold MS MR;rw [if_neg (by simp;omega)];exact Ar ⟨Lr,AG _ (Lr),Lr,Lr,Lr,Lr,Lr,Lr,Lr,Lr,Lr,Lr,trivial⟩,int_eq (by unfold MR;rw [if_neg (by simp;omega)]),trivial⟩
 refine an ?_ ?_<;>intro h2 q2
 refine ap ?_
 refine Tr.ret (Fin.AB (Fin.BD rfl (AP.cell 0 rfl rfl HS Ep rfl (Lr)) (AP.tmp rfl (Lr)) ?_))
 · exact Am ⟨by unfold MS MR;rw [if_neg (by simp;omega)];exact Ar ⟨Lr,AG _ (Lr),Lr,Lr,Lr,Lr,Lr,Lr,Lr,Lr,Lr,Lr,trivial⟩,int_eq (by unfold MR;rw [if_neg (by simp;omega)]),trivial⟩
 have hin:1≤code∧code≤16:=by omega
 refine ac ?_
 refine Tr.seq (Tr.An (tp rfl (kc0 (SX) rfl) ?_))
 refine ap ?_
 refine tp rfl (AA rfl underlying190 Ep (vl rfl) (vl rfl) (by omega) (BB (f:=Pv) (ld (by omega)))) ?_
 refine ap ?_
 refine CY 2 3 rfl (Tr.ret (Fin.BD rfl (AP.cell 0 rfl rfl HS Ep rfl (Lr)) (AP.tmp rfl (Lr)) ?_))
 · exact Am ⟨Lr,int_eq (by unfold MR;rw [if_pos (decide_eq_true hin)]),trivial⟩
abbrev anyI:Pr:=Cp.ex fun n:Int=>int n
theorem W6:∀r∈G5,∀x∈r.sizes,0≤x∧x≤40000:=by decide+kernel
theorem SY {a b k:Int} (h:Fc a b k=true):(0≤a∧a≤40000)∧(0≤b∧b≤40000):=by
 have h1:=(To h).1
 rw [decide_eq_true_eq] at h1
 unfold C6 at h1
 split at h1
 next ha=>
  refine ⟨by omega,?_⟩
  split at h1
  · split at h1<;>omega
  ·
   split at h1
   · split at h1<;>omega
   ·
    split at h1
    ·
     split at h1
     next hc=>
      obtain ⟨x,hx,hb⟩:=List.any_eq_true.1 hc
      simp only [Ry,List.mem_cons,List.not_mem_nil,or_false] at hx
      have:b=x:=by simpa using hb
      omega
     · omega
    ·
     split at h1
     ·
      split at h1
      next hc=>
       have hn:(Du a).sizes.any (fun x=>b==x)=true:=by
        cases he:(Du a).sizes.any (fun x=>b==x) with
        |true=>rfl
        |false=>
         have:=U9 (fun x=>b==x) (Du a).sizes
         rw [he] at this;simp at this;omega
       obtain ⟨x,hx,hb⟩:=List.any_eq_true.1 hn
       have:b=x:=by simpa using hb
       subst this
       exact W6 _ (WW ha) _ hx
      · omega
     · omega
 · omega
theorem fc {c:Hx} (hv:DI c=true):c.Tp:=by
 have h:=DK hv
 have h1:=SY h.key
 have h2:=SY h.hash
 exact ⟨h.s1,h.k1,h1.1,h1.2,h2.1,h2.2⟩
section
variable {P:Program} {I:CT} {E:Env} {o:Oper}
theorem Hg {t:TypeId} {x:Operand} (ho:o.op= .unOp .not t x) (hx:VL E x DW):Ac P I o E DW:=
 Ac.same fun M w a he _=>by
  obtain ⟨b,h1⟩:=hx.ev he (by simp [ho,Op.operands])
  have h1:a.eval x= .bool b:=h1
  exact ⟨.bool (!b),by simp [execOp,ho,h1,Op.unary],_,rfl⟩
theorem lf {t u:TypeId} {x y:Operand} (ho:o.op= .binOp .neq t x y u) (hx:VL E x (FQ .i64)) (hy:VL E y (FQ .i64)):Ac P I o E DW:=
 Ac.same fun M w a he _=>by
  obtain ⟨m,h1⟩:=hx.ev he (by simp [ho,Op.operands])
  obtain ⟨n,h2⟩:=hy.ev he (by simp [ho,Op.operands])
  have h1:a.eval x= .int .i64 m:=h1
  have h2:a.eval y= .int .i64 n:=h2
  exact ⟨.bool (m !=n),by simp [execOp,ho,h1,h2,eqGuard,binOp,Op.intCmp],_,rfl⟩
theorem aW {t u:TypeId} {x y:Operand} (ho:o.op= .binOp .eql t x y u) (hx:VL E x (FQ .i64)) (hy:VL E y (FQ .i64)):Ac P I o E DW:=
 Ac.same fun M w a he _=>by
  obtain ⟨m,h1⟩:=hx.ev he (by simp [ho,Op.operands])
  obtain ⟨n,h2⟩:=hy.ev he (by simp [ho,Op.operands])
  have h1:a.eval x= .int .i64 m:=h1
  have h2:a.eval y= .int .i64 n:=h2
  exact ⟨.bool (m==n),by simp [execOp,ho,h1,h2,eqGuard,binOp,Op.intCmp],_,rfl⟩
end
theorem UN:Pr.le anyI (FQ .i64):=fun _ _ _ h=>h
theorem ff:Pr.le (FQ .i64) anyI:=fun _ _ _ h=>h
theorem lp:Pr.le kj (FQ .i64):=fun _ _ _ ⟨n,_,h⟩=>⟨n,h⟩
theorem UO {c:Hx}  :Az prog 57 [agg (Es c)] (EI [Dv 3285282,FQ .i64]):=by
 refine fo func57 rfl ⟨rfl,rfl⟩ fun M0 w0=> ?_
 refine a2 ?_
 refine co rfl (Ce (Jf (c:=c)) rfl rfl) ?_
 refine an ?_ ?_<;>intro h1 q1
 refine ac ?_
 refine Tr.ret (Fin.AB (Fin.DN rfl (BE.CZ _ _) rfl ?_ rfl ?_))
 · exact B3 (m:=0) (by omega) (AF 1)
 · exact Bx _ _
 have hv:DI c=true:=by cases hb:DI c with|true=>rfl|false=>exact absurd h1 (by rw [hb];decide)
 refine a2 ?_
 refine co rfl (Ce (R6 hv (fc hv)) rfl rfl) (co rfl (Ce (rE2) rfl rfl) ?_)
 refine ac ?_
 refine Tr.ret (Fin.DN rfl (BE.CZ _ _) rfl ?_ rfl ?_)
 · exact Lr
 · exact Lr
theorem OI {c:Hx} {key:Int}  :Az prog 180 [agg (Es c),int key] (DW):=by
 refine fo func180 rfl ⟨rfl,rfl⟩ fun M0 w0=> ?_
 refine a2 ?_
 refine co rfl (Ce (UO (c:=c)) rfl rfl) ?_
 refine ac ?_
 refine Tr.seq (Tr.re 6 rfl ff (Tr.ex 6 rfl fun e6=> ?_))
 · repeat' first|exact Lr|exact AG _ (Lr)|refine cy h rfl (Ce (Az.Dv fun m hm=>VW (by omega)) rfl rfl) (cy h rfl (aW rfl (VL.le (vl rfl) (Bx _ _)) (VL.le (vl rfl) lp)) ?_)|refine ac ?_|(refine Ch.cg rfl rfl rfl ?_ ?_<;>intro h q)
theorem aX {l:List (List UInt8)} {s:List UInt8}  :Az prog 178 [eE l,str s] (DW):=by
 refine fo func178 rfl ⟨rfl,rfl⟩ fun M0 w0=>(Tr.C8 0 rfl fun Et=> ?_)
 refine a2 ?_
 refine Tr.block (Tr.A7 [(0,_),(1,_)] (O9 rfl) (fun k:Nat=>[(5,int ((k:Nat):Int))]) (fun k:Nat=>k≤(l).length) (fun k:Nat=>(l).length-k) 0 (Nat.zero_le _) ⟨ke rfl,trivial⟩ ?_)
 rintro k BN
 refine an ?_ ?_<;>intro h1 q1
 have Af:k<(l).length:=AH h1
 obtain ⟨x,Ad⟩:=at_ Af
 · repeat' first|exact AG _ (Lr)|exact Fin.AM (k+1) ⟨Af,by omega⟩ ⟨⟨_,rfl,AD k⟩,ke rfl,ke rfl,trivial⟩|refine co rfl (AA rfl underlying64 MI (vl rfl) (vl rfl) (by omega) (by exact AO (by assumption))) ?_|refine ac ?_|(refine Tr.cn rfl ?_ ?_<;>intro h q)
 have BI:k=(l).length:=by have:=AJ h1;omega
 refine a3 ?_
 · exact AG _ (Lr)
theorem aY {l:List Hx} {a:Int}  :Az prog 179 [Lx l,int a] (DW):=by
 refine fo func179 rfl ⟨rfl,rfl⟩ fun M0 w0=>(Tr.C8 0 rfl fun Et=> ?_)
 refine ac ?_
 refine ag ?_ ?_<;>intro h1 q1
 refine a3 ?_
 · exact AG _ (Lr)
 refine an ?_ ?_<;>intro h2 q2
 refine a2 ?_
 · exact AG _ (Lr)
 refine ac ?_
 refine ag ?_ ?_<;>intro h3 q3
 refine ac ?_
 refine Eh 4 rfl ?_
 refine ac ?_
 · exact AG _ (Lr)
 refine ac ?_
 refine cy h3 rfl (AA rfl underlying73 Dl (vl rfl) (vl rfl) (by omega) (BB (List.getElem?_eq_getElem (show Int.toNat a<l.length by omega)))) ?_
 refine ag ?_ ?_<;>intro h4 q4
 refine ac ?_
 refine cy h4 rfl (AA rfl underlying73 Dl (vl rfl) (vl rfl) (by omega) (BB (List.getElem?_eq_getElem (show Int.toNat a<l.length by omega)))) ?_
 refine ac ?_
 refine Eh 4 rfl ?_
 refine ac ?_
 · exact AG _ (Lr)
 refine ac ?_
 refine Eh 4 rfl ?_
 refine ac ?_
 · exact AG _ (Lr)
theorem W7 {e:Int} {l:List Hx} {i:Int} {an ha:List Int} {day:Int} {nm:List UInt8} (hi:0≤i∧i<(l.length:Nat)):Az prog 174 [int e,Lx l,int i,ints an,ints ha,int day,str nm] (DW):=by
 refine fo func174 rfl ⟨rfl,rfl⟩ fun M0 w0=>(Tr.C8 1 rfl fun Hz=> ?_)
 obtain ⟨c,hc⟩:=at_ (l:=l) (k:=i.toNat) (by omega)
 refine ac ?_
 refine ao ?_
 refine tp rfl (AA rfl underlying73 Dl (vl rfl) (vl rfl) (by omega) (BB hc)) ?_
 refine ao ?_
 refine Tl rfl rfl rfl rfl TX NN (fun b1=> ?_)
 refine sf 0 15 ⟨rfl,rfl,rfl⟩ rfl rfl rfl rfl ?_
 refine ao ?_
 refine Oe 0 1 2 3 4 5 6 15 16 rfl ?_
 refine ac ?_
 refine ac ?_
 refine Tr.cn rfl ?_ ?_<;>intro h1 q1
 refine ac ?_
 refine co rfl (Ce (Jf (c:=c)) rfl rfl) ?_
 refine ac ?_
 refine Eh 14 rfl ?_
 refine ac ?_
 · exact AG _ (Lr)
 refine ac ?_
 refine G0 1 2 3 4 5 6 15 16 26 32 rfl ?_
 refine Tr.cn rfl ?_ ?_<;>intro h2 q2
 refine ac ?_
 refine Ch.cs 36 rfl ?_ ?_<;>intro h3 q3
 refine ac ?_
 refine cy h3 rfl (CS (aX) rfl rfl rfl) (cy h3 rfl (Hg rfl (vl rfl)) ?_)
 refine ac ?_
 refine Eh 14 rfl ?_
 refine ac ?_
 · exact Lr
 refine ac ?_
 refine Eh 14 rfl ?_
 refine ac ?_
 · exact AG _ (Lr)
 refine ac ?_
 refine Tr.cn rfl ?_ ?_<;>intro h4 q4
 refine ac ?_
 refine Ch.cs 49 rfl ?_ ?_<;>intro h5 q5
 refine ac ?_
 refine Eh 14 rfl ?_
 refine ac ?_
 · exact AG _ (Lr)
 refine ac ?_
 refine Eh 14 rfl ?_
 refine ac ?_
 · exact AG _ (Lr)
 refine ac ?_
 refine Jx 1 2 3 4 15 16 26 55 rfl ?_
 refine Tr.cn rfl ?_ ?_<;>intro h6 q6
 refine ac ?_
 refine co rfl (CS (IX) rfl rfl rfl) ?_
 refine ac ?_
 refine Eh 14 rfl ?_
 refine ac ?_
 · exact AG _ (Lr)
 refine ac ?_
 refine Tr.cn rfl ?_ ?_<;>intro h7 q7
 refine ac ?_
 refine Ch.cs 67 rfl ?_ ?_<;>intro h8 q8
 refine ac ?_
 refine cy h8 rfl (AA rfl underlying73 Dl (vl rfl) (vl rfl) (by omega) (BB (List.getElem?_eq_getElem (show Int.toNat (i+1)<l.length by omega)))) ?_
 refine ac ?_
 refine Eh 14 rfl ?_
 refine ac ?_
 · exact AG _ (Lr)
 refine ac ?_
 refine Eh 14 rfl ?_
 refine ac ?_
 · exact AG _ (Lr)
 refine ac ?_
 refine Tr.cn rfl ?_ ?_<;>intro h9 q9
 refine ac ?_
 refine co rfl (CS (aY) rfl rfl rfl) (co rfl (Hg rfl (vl rfl)) ?_)
 refine ac ?_
 refine Eh 14 rfl ?_
 refine ac ?_
 · exact Lr
 refine ac ?_
 refine Jw 1 2 3 15 16 84 rfl ?_
 refine Tr.cn rfl ?_ ?_<;>intro h10 Oa
 refine ac ?_
 refine Tr.cn rfl ?_ ?_<;>intro h11 PR
 refine ac ?_
 refine co rfl (CS (OI) rfl rfl rfl) (co rfl (Hg rfl (vl rfl)) ?_)
 refine ac ?_
 refine Eh 14 rfl ?_
 refine ac ?_
 · exact Lr
 refine ac ?_
 refine ac ?_
 refine co rfl (AA rfl underlying73 Dl (vl rfl) (vl rfl) (by omega) (BB (List.getElem?_eq_getElem (show Int.toNat (i+1)<l.length by omega)))) ?_
 refine ac ?_
 refine co rfl (CS (OI) rfl rfl rfl) (co rfl (Hg rfl (vl rfl)) ?_)
 refine ac ?_
 refine Eh 14 rfl ?_
 refine ac ?_
 · exact Lr
 refine ac ?_
 refine ac ?_
 refine Ch.cs 103 rfl ?_ ?_<;>intro h12 S6
 refine ac ?_
 refine cy h12 rfl (CS (IX) rfl rfl rfl) ?_
 refine ac ?_
 refine Eh 14 rfl ?_
 refine ac ?_
 · exact AG _ (Lr)
 refine ac ?_
 refine Eh 14 rfl ?_
 refine ac ?_
 · exact AG _ (Lr)
abbrev SZ:List Int:=[9,14,13,7,11,15,10,12]
theorem W8 {l:List Hx} {an ha:List Int} {day:Int} {nm:List UInt8}  :Az prog 166 [Lx l,ints an,ints ha,int day,str nm] (anyI):=by
 refine fo func166 rfl ⟨rfl,rfl⟩ fun M0 w0=>(Tr.C8 0 rfl fun Et=> ?_)
 refine ac ?_
 refine ac ?_
 refine Tr.cn rfl ?_ ?_<;>intro h1 q1
 refine ac ?_
 refine ac ?_
 · exact AG _ (Lr)
 refine ac ?_
 refine ac ?_
 refine Tr.cn rfl ?_ ?_<;>intro h2 q2
 refine ac ?_
 refine ac ?_
 · exact AG _ (Lr)
 refine ac ?_
 refine Tr.seq (Tr.AW (co rfl (AL (xs:=[.const (.int .i64 (9)),.const (.int .i64 (14)),.const (.int .i64 (13)),.const (.int .i64 (7)),.const (.int .i64 (11)),.const (.int .i64 (15)),.const (.int .i64 (10)),.const (.int .i64 (12))]) (rows:=(SZ.map fun n=>[int n])) rfl rfl underlying286 jd z45 rfl (by decide) ⟨⟨(by exact rfl),VL.le (vl rfl) (Aj _)⟩,⟨⟨(by exact rfl),VL.le (vl rfl) (Aj _)⟩,⟨⟨(by exact rfl),VL.le (vl rfl) (Aj _)⟩,⟨⟨(by exact rfl),VL.le (vl rfl) (Aj _)⟩,⟨⟨(by exact rfl),VL.le (vl rfl) (Aj _)⟩,⟨⟨(by exact rfl),VL.le (vl rfl) (Aj _)⟩,⟨⟨(by exact rfl),VL.le (vl rfl) (Aj _)⟩,⟨⟨(by exact rfl),VL.le (vl rfl) (Aj _)⟩,trivial⟩⟩⟩⟩⟩⟩⟩⟩ (by decide)) ?_))
 refine ac ?_
 refine ac ?_
 refine Tr.block (Tr.A7 [(0,_),(1,_),(2,_),(3,_),(4,_),(11,_)] (gv rfl) (fun m:Nat=>[(12,int ((m:Nat):Int))]) (fun m:Nat=>m≤(SZ).length) (fun m:Nat=>(SZ).length-m) 0 (Nat.zero_le _) ⟨ke rfl,trivial⟩ ?_)
 rintro m Kc
 refine ac ?_
 refine co rfl (BF rfl underlying286 (Kf rfl)) ?_
 refine ac ?_
 refine Tr.cn rfl ?_ ?_<;>intro h3 q3
 have Dg:m<(SZ).length:=AH h3
 obtain ⟨x,Dq⟩:=at_ Dg
 have hm8:m<8:=Dg
 refine ac ?_
 refine ac ?_
 refine Tr.block (Tr.A7 [(0,_),(1,_),(2,_),(3,_),(4,_),(11,_),(12,_)] (kk7 rfl) (fun k:Nat=>[(13,int ((k:Nat):Int))]) (fun k:Nat=>k≤(l).length) (fun k:Nat=>(l).length-k) 0 (Nat.zero_le _) ⟨ke rfl,trivial⟩ ?_)
 rintro k BN
 refine ac ?_
 refine Tr.cn rfl ?_ ?_<;>intro h4 q4
 have Af:k<(l).length:=AH h4
 obtain ⟨c,Ad⟩:=at_ Af
 refine ac ?_
 refine ac ?_
 refine co rfl (AA rfl underlying286 jd (Kf rfl) (vl rfl) (by omega) (AO Dq)) ?_
 refine ac ?_
 refine co rfl (AQ rfl (W7 (e:=x) (by omega)) ⟨ke rfl,ke rfl,ke rfl,ke rfl,ke rfl,ke rfl,ke rfl,trivial⟩) ?_
 refine ac ?_
 refine Oe 0 1 2 3 4 11 12 13 43 rfl (Tr.ex 43 rfl fun y_=> ?_)
 refine Tr.cn rfl ?_ ?_<;>intro h5 q5
 refine ac ?_
 refine co rfl (AA rfl underlying286 jd (Kf rfl) (vl rfl) (by omega) (AO Dq)) ?_
 refine ac ?_
 refine Eh 10 rfl ?_
 refine ac ?_
 · exact AG _ (Lr)
 refine ac ?_
 refine ac ?_
 exact Fin.AM (k+1) ⟨Af,by omega⟩ ⟨⟨_,rfl,AD k⟩,ke rfl,ke rfl,ke rfl,ke rfl,ke rfl,ke rfl,ke rfl,trivial⟩
 have BI:k=(l).length:=by have:=AJ h4;omega
 refine ac ?_
 refine ac ?_
 exact Fin.AM (m+1) ⟨Dg,by omega⟩ ⟨⟨_,rfl,AD m⟩,ke rfl,ke rfl,ke rfl,ke rfl,ke rfl,ke rfl,trivial⟩
 have IY:m=(SZ).length:=by have:=AJ h3;omega
 refine ac ?_
 refine ac ?_
 refine ac ?_
 · exact AG _ (Lr)
def Oo (s:Su) (x:H_):Bool:=decide (s.s1=0)||decide (x.Bq=s.s1)
def OJ (ids:List H_) (code:Int):Int:=if MR code then idx (Oo (MS code)) ids else -1
def JK (sv:Bk) (offer:List Int) (v code:Int):Bool:=MR code&&(offer.any fun x=>code==x)&&(sv.Ao.any fun x=>code==x)&&decide ((MS code).lo≤v)&&decide (v≤(MS code).hi)&&decide (0≤OJ sv.ids code)
theorem Gp {e:Bk} {code:Int} (hl:e.ids.length≤1000000):Az prog 153 [agg (BP e),int code] (EI [int (OJ e.ids code),bool (decide (0≤OJ e.ids code))]):=by
 refine fo func153 rfl ⟨rfl,rfl⟩ fun M0 w0=> ?_
 refine ac ?_
 refine ao ?_
 refine tp rfl (Ce (Jr (code:=code)) rfl rfl) ?_
 refine ao ?_
 refine Tl rfl rfl rfl rfl z148 G3 (fun b1=> ?_)
 refine sf 0 6 ⟨rfl,rfl,rfl⟩ rfl rfl rfl rfl ?_
 refine ao ?_
 refine ac ?_
 refine CR 2 6 15 rfl ?_
 refine Tr.cn rfl ?_ ?_<;>intro h1 q1
 have hK:OJ e.ids code= -1:=by unfold OJ;exact if_neg (fun h_=>by rw [if_pos h_] at h1;exact absurd h1 (by decide))
 refine ac ?_
 refine Tr.ret (Fin.AB (Fin.DN rfl (BE.CZ _ _) rfl ?_ rfl ?_))
 · refine int_eq ?_;exact hK.symm
 · refine bool_eq ?_;rw [hK];rfl
 have hs:MR code=true:=by cases h_:MR code with|true=>rfl|false=>exact absurd h1 (by rw [h_];decide)
 have hK:OJ e.ids code=idx (Oo (MS code)) e.ids:=by unfold OJ;exact if_pos hs
 refine a2 ?_
 refine Tr.block (Tr.A7 [(2,_),(6,_)] (O9 rfl) (fun k:Nat=>[(8,int ((k:Nat):Int))]) (fun k:Nat=>k≤(e.ids).length∧(∀j y,j<k→e.ids[j]? =some y→Oo (MS code) y=false)) (fun k:Nat=>(e.ids).length-k) 0 (⟨Nat.zero_le _,fun j y hj=>absurd hj (by omega)⟩) ⟨ke rfl,trivial⟩ ?_)
 rintro k ⟨BN,Ab⟩
 refine an ?_ ?_<;>intro h2 q2
 have Af:k<(e.ids).length:=AH h2
 obtain ⟨x,Ad⟩:=at_ Af
 refine ac ?_
 refine ag ?_ ?_<;>intro h3 q3
 refine ac ?_
 refine D7 2 6 8 39 rfl ?_
 refine ac ?_
 refine Tr.ret (Fin.AX (Fin.AB (Fin.AB (Fin.AX (Fin.AB (Fin.DN rfl (BE.CZ _ _) rfl ?_ rfl ?_))))))
 · refine int_eq ?_;rw [hK];exact Dx Ad (by unfold Oo;simp_all) Ab
 · refine bool_eq ?_;rw [hK,←Dx Ad (by unfold Oo;simp_all) Ab];symm;rw [decide_eq_true_eq];omega
 refine ac ?_
 refine cy h3 rfl (AA rfl underlying68 E0 (vl rfl) (vl rfl) (by omega) (AO Ad)) ?_
 refine ac ?_
 refine D7 2 6 8 39 rfl ?_
 refine Tr.cn rfl ?_ ?_<;>intro h4 q4
 refine ac ?_
 refine Tr.ret (Fin.AX (Fin.AB (Fin.AB (Fin.AX (Fin.AB (Fin.DN rfl (BE.CZ _ _) rfl ?_ rfl ?_))))))
 · refine int_eq ?_;rw [hK];exact Dx Ad (by unfold Oo;simp_all) Ab
 · refine bool_eq ?_;rw [hK,←Dx Ad (by unfold Oo;simp_all) Ab];symm;rw [decide_eq_true_eq];omega
 refine a2 ?_
 exact Fin.AM (k+1) ⟨⟨Af,EM (p:=Oo (MS code)) Ad (by unfold Oo;simp_all) Ab⟩,by omega⟩ ⟨⟨_,rfl,AD k⟩,ke rfl,ke rfl,trivial⟩
 have BI:k=(e.ids).length:=by have:=AJ h2;omega
 subst BI
 refine a2 ?_
 refine Tr.ret (Fin.DN rfl (BE.CZ _ _) rfl ?_ rfl ?_)
 · refine int_eq ?_;rw [hK];exact G4 Ab
 · refine bool_eq ?_;rw [hK,←G4 Ab];rfl
theorem Vu {ids:List H_} {code:Int} (h:0≤OJ ids code):∃x,ids[(OJ ids code).toNat]? =some x:=by
 unfold OJ at h ⊢
 split at h
 ·
  rename_i hs
  rw [if_pos hs]
  unfold idx at h ⊢
  cases hf:ids.findIdx? (Oo (MS code)) with
  |none=>rw [hf] at h;simp at h
  |some i=>
   obtain ⟨hi,_⟩:=List.findIdx?_eq_some_iff_getElem.1 hf
   exact ⟨ids[i],by simp [hi]⟩
 · omega
theorem aZ {e:Bk} {of:List Int} {v code:Int} (h:JK e of v code=true):0≤OJ e.ids code:=by
 unfold JK at h
 rw [Bool.and_eq_true,decide_eq_true_eq] at h
 exact h.2
theorem JL {e:Bk} {of:List Int} {v code:Int} (hl:e.ids.length≤1000000):Az prog 157 [agg (BP e),ints of,int v,int code] (bool (JK e of v code)):=by
 refine fo func157 rfl ⟨rfl,rfl⟩ fun M0 w0=> ?_
 refine ac ?_
 refine ao ?_
 refine tp rfl (Ce (Jr (code:=code)) rfl rfl) ?_
 refine ao ?_
 refine Tl rfl rfl rfl rfl z148 G3 (fun b1=> ?_)
 refine sf 0 9 ⟨rfl,rfl,rfl⟩ rfl rfl rfl rfl ?_
 refine ao ?_
 refine ac ?_
 refine Ch.cs 20 rfl ?_ ?_<;>intro h1 q1
 refine ac ?_
 refine CR 3 4 44 rfl ?_
 refine ac ?_
 refine ac ?_
 · refine bool_eq ?_;unfold JK;simp_all
 refine ac ?_
 refine cy h1 rfl (CS (IX) rfl rfl rfl) ?_
 refine ac ?_
 refine Ch.cs 26 rfl ?_ ?_<;>intro h2 q2
 refine ac ?_
 refine CR 3 4 44 rfl ?_
 refine ac ?_
 refine ac ?_
 · refine bool_eq ?_;unfold JK;simp_all;intros;exfalso;exact q2 _ (by assumption) rfl
 refine ac ?_
 refine cy h2 rfl (CS (IX) rfl rfl rfl) ?_
 refine ac ?_
 refine Ch.cs 33 rfl ?_ ?_<;>intro h3 q3
 refine ac ?_
 refine CR 3 4 44 rfl ?_
 refine ac ?_
 refine ac ?_
 · refine bool_eq ?_;unfold JK;simp_all;intros;exfalso;exact q3 _ (by assumption) rfl
 refine ac ?_
 refine Ch.cs 39 rfl ?_ ?_<;>intro h4 q4
 refine ac ?_
 refine CR 3 4 44 rfl ?_
 refine ac ?_
 refine ac ?_
 · refine bool_eq ?_;unfold JK;simp_all;intros;omega
 refine ac ?_
 refine CR 3 4 44 rfl ?_
 refine Tr.cn rfl ?_ ?_<;>intro h5 q5
 refine ac ?_
 refine ac ?_
 · refine bool_eq ?_;unfold JK;simp_all;intros;omega
 refine ac ?_
 refine ac ?_
 refine co rfl (CS (Gp (e:=e) (code:=code) hl) rfl rfl rfl) ?_
 refine ac ?_
 refine ac ?_
 refine ac ?_
 · refine bool_eq ?_;unfold JK;simp_all
theorem W9 {c e:Bk} {day most:Int} {su:List Int} (hc:c.small) (he:e.small):Az prog 152 [agg (BP c),agg (BP e),int day,int most,ints su] (Cp.ex fun z:Int×Int×Int=>fact True (EI [agg [int z.1,int z.2.1],int z.2.2])):=by
 refine fo func152 rfl ⟨rfl,rfl⟩ fun M0 w0=>(Tr.C8 4 rfl fun yV=> ?_)
 obtain ⟨od,hod⟩:∃od,(if e.own=true then e.Ao else su)=od:=⟨_,rfl⟩
 have hsu:=he.Ao
 have bu:od.length≤9223372036854775807:=by rw [←hod];split<;>omega
 refine Tr.seq (Tr.An (tp rfl (BZ rfl (Va rfl)) (tp rfl (BZ rfl (Va rfl)) ?_)))
 refine Tl rfl rfl rfl rfl H8 Ed (fun b1=> ?_)
 refine ap ?_
 refine ac ?_
 refine co rfl (Ce (EV hc) rfl rfl) ?_
 refine ag ?_ ?_<;>intro h1 q1
 refine ac ?_
 refine Tr.cond rfl (fun _=> ?_) (fun h=>nomatch h)
 refine Tr.seq (Tr.An (tp rfl (Ai (rows:=[]) rfl PG Ed trivial rfl) (TO.AK 0 rfl rfl rfl (vl rfl) (Va rfl) rfl Bm rfl rfl (tm rfl (TO.nil (Fin.go (CY 10 11 rfl (Tr.ret (Fin.AB (Fin.BD rfl (AP.cell 0 rfl rfl CU Bm rfl (Lr)) (AP.tmp rfl (Lr)) ?_))))))))))
 · exact AG (_,_,_) (AU trivial (Lr))
 refine cy h1 rfl (AR rfl CW B5 (vl rfl) rfl rfl) (cy h1 rfl (Ce (EV he) rfl rfl) ?_)
 refine an ?_ ?_<;>intro h2 q2
 refine ap ?_
 refine CY 10 11 rfl (Tr.ret (Fin.AB (Fin.BD rfl (AP.cell 0 rfl rfl CU Bm rfl (Lr)) (AP.tmp rfl (Lr)) ?_)))
 · exact AG (_,_,_) (AU trivial (Lr))
 refine ac ?_
 refine ag ?_ ?_<;>intro h3 q3
 refine ac ?_
 refine I_ 2 3 4 5 6 10 39 rfl (Tr.cond rfl (fun _=> ?_) (fun h=>nomatch h))
 refine Tr.seq (Tr.An (tp rfl (Ai (rows:=[]) rfl PG Ed trivial rfl) (TO.AK 0 rfl rfl rfl (vl rfl) (Va rfl) rfl Bm rfl rfl (tm rfl (TO.nil (Fin.go (Tr.ret (Fin.AB (Fin.BD rfl (AP.cell 0 rfl rfl CU Bm rfl (Lr)) (AP.tmp rfl (Lr)) ?_)))))))))
 · exact AG (_,_,_) (AU trivial (Lr))
 refine ag ?_ ?_<;>intro h4 q4
 refine ac ?_
 refine I_ 2 3 4 5 6 10 39 rfl (Tr.cond rfl (fun _=> ?_) (fun h=>nomatch h))
 refine Tr.seq (Tr.An (tp rfl (Ai (rows:=[]) rfl PG Ed trivial rfl) (TO.AK 0 rfl rfl rfl (vl rfl) (Va rfl) rfl Bm rfl rfl (tm rfl (TO.nil (Fin.go (Tr.ret (Fin.AB (Fin.BD rfl (AP.cell 0 rfl rfl CU Bm rfl (Lr)) (AP.tmp rfl (Lr)) ?_)))))))))
 · exact AG (_,_,_) (AU trivial (Lr))
 refine ag ?_ ?_<;>intro h5 q5
 refine ac ?_
 refine I_ 2 3 4 5 6 10 39 rfl (Tr.cond rfl (fun _=> ?_) (fun h=>nomatch h))
 refine Tr.seq (Tr.An (tp rfl (Ai (rows:=[]) rfl PG Ed trivial rfl) (TO.AK 0 rfl rfl rfl (vl rfl) (Va rfl) rfl Bm rfl rfl (tm rfl (TO.nil (Fin.go (Tr.ret (Fin.AB (Fin.BD rfl (AP.cell 0 rfl rfl CU Bm rfl (Lr)) (AP.tmp rfl (Lr)) ?_)))))))))
 · exact AG (_,_,_) (AU trivial (Lr))
 refine ac ?_
 refine I_ 2 3 4 5 6 10 39 rfl ?_
 refine Tr.cn rfl ?_ ?_<;>intro h6 q6
 refine ap ?_
 refine Tr.ret (Fin.AB (Fin.BD rfl (AP.cell 0 rfl rfl CU Bm rfl (Lr)) (AP.tmp rfl (Lr)) ?_))
 · exact AG (_,_,_) (AU trivial (Lr))
 refine a2 ?_
 refine co rfl (S9 rfl (vl rfl) (vl rfl)) ?_
 refine ac ?_
 refine ag ?_ ?_<;>intro h7 q7
 refine ac ?_
 refine I_ 2 4 5 6 10 12 54 rfl (Tr.cond rfl (fun _=> ?_) (fun h=>nomatch h))
 refine Tr.seq (Tr.An (tp rfl (Ai (rows:=[]) rfl PG Ed trivial rfl) (TO.AK 0 rfl rfl rfl (vl rfl) (Va rfl) rfl Bm rfl rfl (tm rfl (TO.nil (Fin.go (Tr.ret (Fin.AB (Fin.BD rfl (AP.cell 0 rfl rfl CU Bm rfl (Lr)) (AP.tmp rfl (Lr)) ?_)))))))))
 · exact AG (_,_,_) (AU trivial (Lr))
 refine ac ?_
 refine I_ 2 4 5 6 10 12 54 rfl ?_
 refine Tr.cn rfl ?_ ?_<;>intro h8 q8
 refine ap ?_
 refine Tr.ret (Fin.AB (Fin.BD rfl (AP.cell 0 rfl rfl CU Bm rfl (Lr)) (AP.tmp rfl (Lr)) ?_))
 · exact AG (_,_,_) (AU trivial (Lr))
 refine a2 ?_
 refine I_ 2 4 5 6 10 12 13 rfl (Tr.RT [2,4,5,6,10,12] [(13,ints od)] (True) ?_ (fun h9=> ?_))
 refine an ?_ ?_<;>intro h10 Oa
 refine ac ?_
 exact Fin.AM () trivial ⟨⟨_,rfl,Pr.le_of_eq (by rw [←hod];simp_all)⟩,ke rfl,ke rfl,ke rfl,ke rfl,ke rfl,ke rfl,trivial⟩
 refine Tr.skip ?_
 exact Fin.AM () trivial ⟨⟨_,rfl,Pr.le_of_eq (by rw [←hod];simp_all)⟩,ke rfl,ke rfl,ke rfl,ke rfl,ke rfl,ke rfl,trivial⟩
 refine ac ?_
 refine Tr.block (Tr.A7 [(2,_),(4,_),(5,_),(6,_),(10,_),(12,_),(13,_)] (kk7 rfl) (fun k:Nat=>[(14,int ((k:Nat):Int))]) (fun k:Nat=>k≤(od).length) (fun k:Nat=>(od).length-k) 0 (Nat.zero_le _) ⟨ke rfl,trivial⟩ ?_)
 rintro k BN
 refine an ?_ ?_<;>intro h11 PR
 have Af:k<(od).length:=AH h11
 obtain ⟨x,Ad⟩:=at_ Af
 refine a2 ?_
 refine co rfl (AA rfl underlying22 Bh (vl rfl) (vl rfl) (by omega) (AO Ad)) (co rfl (DQ rfl Bo rfl) ?_)
 refine co rfl (Yz (JL (e:=e) he.PO) rfl rfl rfl rfl rfl) ?_
 refine ac ?_
 refine Oe 2 4 5 6 10 12 13 14 75 rfl ?_
 refine Tr.cn rfl ?_ ?_<;>intro h12 S6
 refine a2 ?_
 exact Fin.AM (k+1) ⟨Af,by omega⟩ ⟨⟨_,rfl,AD k⟩,ke rfl,ke rfl,ke rfl,ke rfl,ke rfl,ke rfl,ke rfl,trivial⟩
 have hp:JK e su (min most e.most) x=true:=by simpa using h12
 have jQ:=aZ hp
 obtain ⟨y,hy⟩:=Vu jQ
 refine a2 ?_
 refine co rfl (AA rfl underlying22 Bh (vl rfl) (vl rfl) (by omega) (AO Ad)) (co rfl (DQ rfl Bo rfl) ?_)
 refine co rfl (CS (Gp (e:=e) he.PO) rfl rfl rfl) ?_
 refine ac ?_
 refine Jx 2 5 6 10 12 13 14 15 rfl ?_
 refine ac ?_
 refine co rfl (AA rfl underlying68 E0 (vl rfl) (vl rfl) (by omega) (BB hy)) ?_
 refine ac ?_
 refine co rfl (kc5 (W8) rfl rfl rfl rfl rfl rfl) (co rfl (lf rfl (VL.le (vl rfl) UN) (VL.le (vl rfl) (Bx _ _))) ?_)
 refine ac ?_
 refine JV 10 12 13 14 99 rfl (Tr.ex 99 rfl fun zA=> ?_)
 refine Tr.cn rfl ?_ ?_<;>intro MG Xt
 refine ap ?_
 refine Tr.ret (Fin.AB (Fin.AX (Fin.AB (Fin.AB (Fin.AX (Fin.AB (Fin.BD rfl (AP.cell 0 rfl rfl CU Bm rfl (Lr)) (AP.tmp rfl (Lr)) ?_)))))))
 · exact AG (_,_,_) (AU trivial (Lr))
 refine ac ?_
 refine ap ?_
 refine tp rfl (AA rfl underlying22 Bh (vl rfl) (vl rfl) (by omega) (AO Ad)) ?_
 refine ap ?_
 refine Tr.ret (Fin.AX (Fin.AB (Fin.AB (Fin.AX (Fin.AB (Fin.BD rfl (AP.cell 0 rfl rfl CU Bm rfl (Lr)) (AP.tmp rfl (Lr)) ?_))))))
 · exact AG (_,_,_) (AU trivial (Lr))
 have BI:k=(od).length:=by have:=AJ h11;omega
 subst BI
 refine ac ?_
 refine ap ?_
 refine CY 10 11 rfl (Tr.ret (Fin.BD rfl (AP.cell 0 rfl rfl CU Bm rfl (Lr)) (AP.tmp rfl (Lr)) ?_))
 · exact AG (_,_,_) (AU trivial (Lr))
theorem Sa {c e:Bk} {day:Int} (hc:c.small) (he:e.small):Az prog 146 [agg (BP c),agg (BP e),int day] (Cp.ex fun z:Int×Int×Int=>fact True (EI [agg [int z.1,int z.2.1],int z.2.2])):=by
 refine fo func146 rfl ⟨rfl,rfl⟩ fun M0 w0=>(Tr.seq (Tr.An (tp rfl (BZ rfl (Va rfl)) (tp rfl (BZ rfl (Va rfl)) ?_))))
 refine Tl rfl rfl rfl rfl H8 Ed (fun b1=> ?_)
 refine ap ?_
 refine ap ?_
 refine tp rfl (S9 rfl (vl rfl) (vl rfl)) (tp rfl (JT rfl (vl rfl) (vl rfl)) ?_)
 refine ap ?_
 refine tp rfl (kc5 (W9 hc he) rfl rfl rfl rfl rfl rfl) ?_
 refine TO.ex 17 rfl (fun z1=>TO.fact 17 rfl fun FM=> ?_)
 refine ap ?_
 refine CY 6 7 rfl (Tr.ret (Fin.BD rfl (AP.cell 0 rfl rfl CU Bm rfl (Lr)) (AP.tmp rfl (Lr)) ?_))
 · exact AG (_,_,_) (AU trivial (Lr))
abbrev uses (l:List (Int×Int)):Pr:=slice 2 (l.map fun x=>[int x.1,int x.2])
theorem LV {e:Bk} {a b:Int} (he:e.small):Az prog 147 [agg (BP e),agg [int a,int b]] (Cp.ex fun z:List (Int×Int)×Int=>fact (z.1.length≤1000) (EI [uses z.1,int z.2])):=by
 refine fo func147 rfl ⟨rfl,rfl⟩ fun M0 w0=> ?_
 refine a2 ?_
 refine co rfl (Ce (EV he) rfl rfl) ?_
 refine an ?_ ?_<;>intro h1 q1
 refine ac ?_
 refine Tr.ret (Fin.AB (Fin.BD rfl (AP.tmp rfl (Lr)) (AP.tmp rfl (Lr)) ?_))
 · exact AG ([],_) (AU (Nat.zero_le _) (Am ⟨AF 2,Lr,trivial⟩))
 refine ac ?_
 refine ao ?_
 refine tp rfl (Ce (Jr (code:=b)) rfl rfl) ?_
 refine ao ?_
 refine Tl rfl rfl rfl rfl z148 G3 (fun b1=> ?_)
 refine TO.AK 0 rfl rfl rfl (vl rfl) (Va rfl) rfl Ep rfl rfl ?_
 refine ao ?_
 refine D7 2 3 6 7 rfl ?_
 refine an ?_ ?_<;>intro h2 q2
 refine ac ?_
 refine Tr.drop 0 (Tr.ret (Fin.AB (Fin.BD rfl (AP.tmp rfl (Lr)) (AP.tmp rfl (Lr)) ?_)))
 · exact AG ([],_) (AU (Nat.zero_le _) (Am ⟨AF 2,Lr,trivial⟩))
 refine a2 ?_
 refine co rfl (CS (Gp (e:=e) he.PO) rfl rfl rfl) ?_
 refine ac ?_
 refine D7 2 6 8 9 rfl ?_
 refine an ?_ ?_<;>intro h3 q3
 refine ac ?_
 refine Tr.drop 0 (Tr.ret (Fin.AB (Fin.BD rfl (AP.tmp rfl (Lr)) (AP.tmp rfl (Lr)) ?_)))
 · exact AG ([],_) (AU (Nat.zero_le _) (Am ⟨AF 2,Lr,trivial⟩))
 obtain ⟨y,hy⟩:=Vu (ids:=e.ids) (code:=b) (by simpa using h3)
 refine ac ?_
 refine ao ?_
 refine tp rfl (AA rfl underlying68 E0 (vl rfl) (vl rfl) (by omega) (BB hy)) ?_
 refine ao ?_
 refine Tl rfl rfl rfl rfl z72 De (fun b2=> ?_)
 refine sf 0 10 ⟨rfl,rfl,rfl⟩ rfl rfl rfl rfl ?_
 refine ao ?_
 refine CY 6 10 rfl ?_
 refine an ?_ ?_<;>intro h4 q4
 refine ao ?_
 refine TO.Dp 0 rfl rfl (Ay rfl rfl (vl rfl) (Vo rfl) Bh rfl (by exact Nb rfl) rfl) ?_
 refine ao ?_
 refine ac ?_
 refine Tr.drop 0 (CY 4 5 rfl (Tr.ret (Fin.BD rfl (AP.tmp rfl (Lr)) (AP.tmp rfl (Lr)) ?_)))
 · exact AG ([(_,_),(_,_),(_,_),(_,_)],_) (AU (by simp) (Am ⟨Bp _ _,Lr,trivial⟩))
 refine a2 ?_
 refine Tr.drop 0 (CY 4 5 rfl (Tr.ret (Fin.BD rfl (AP.tmp rfl (Lr)) (AP.tmp rfl (Lr)) ?_)))
 · exact AG ([(_,_),(_,_),(_,_),(_,_)],_) (AU (by simp) (Am ⟨Bp _ _,Lr,trivial⟩))
theorem aa {e:Bk} (h:FH e=true):1≤e.least∧e.least≤4∧e.most≤4:=by
 unfold FH at h
 simp only [Bool.and_eq_true,decide_eq_true_eq] at h
 omega
theorem Sb {c e:Bk} (hc:c.small) (he:e.small):Az prog 149 [agg (BP c),agg (BP e)] (Cp.ex fun z:List (Int×Int)=>fact (z.length≤1000) (uses z)):=by
 refine fo func149 rfl ⟨rfl,rfl⟩ fun M0 w0=> ?_
 refine a2 ?_
 refine co rfl (Ce (EV hc) rfl rfl) ?_
 refine ag ?_ ?_<;>intro h1 q1
 refine a3 ?_
 · exact AG [] (AU (by simp) (AF 2))
 refine cy h1 rfl (AR rfl CW B5 (vl rfl) rfl rfl) (cy h1 rfl (Ce (EV he) rfl rfl) ?_)
 refine an ?_ ?_<;>intro h2 q2
 refine a2 ?_
 · exact AG [] (AU (by simp) (AF 2))
 obtain ⟨hc1,hc2,hc3⟩:=aa (e:=c) (by simp_all)
 obtain ⟨he1,he2,he3⟩:=aa (e:=e) (by simp_all)
 refine a3 ?_
 refine co rfl (JT rfl (vl rfl) (vl rfl)) ?_
 refine ac ?_
 refine D7 2 3 5 6 rfl (Tr.block (Tr.Bs 165 2 ?_))
 refine Tr.Cc [(2,_),(3,_)] ⟨ke rfl,ke rfl,trivial⟩ (fun (v:Int) (o:List (Int×Int)) u=>[(6,int v),(5,Ag u (uses o))]) (fun (v:Int) (o:List (Int×Int)) u=>Hp M0 w0 Eo ([Ap 165 2 u])) (fun (v:Int) (o:List (Int×Int))=>1≤v∧v≤5∧(o.length:Int)≤(v-1)*16) (fun (v:Int) (o:List (Int×Int))=>(5-v).toNat) (max c.least e.least) ([]) (.slice none 0 0) (⟨by omega,by omega,by simp;omega⟩) ⟨ke rfl,⟨_,rfl,BX rfl⟩,trivial⟩ (fun _ _ h=>h) ?_
 rintro v o u ⟨Xs,Uy,bu⟩
 refine ac ?_
 refine co rfl (S9 rfl (vl rfl) (vl rfl)) ?_
 refine an ?_ ?_<;>intro h3 q3
 have hvm:=h3
 refine a2 ?_
 refine Tr.block (Tr.Cc [(2,_),(3,_),(6,_)] ⟨ke rfl,ke rfl,ke rfl,trivial⟩ (fun (k:Int) (q:List (Int×Int)) u3=>[(7,int k),(5,Ag u3 (uses q))]) (fun (k:Int) (q:List (Int×Int)) u3=>Hp M0 w0 Eo ([Ap 165 2 u3])) (fun (k:Int) (q:List (Int×Int))=>1≤k∧k≤17∧(q.length:Int)≤(v-1)*16+k-1) (fun (k:Int) (q:List (Int×Int))=>(17-k).toNat) (1) (o) u (⟨by omega,by omega,by omega⟩) ⟨ke rfl,⟨_,rfl,Au rfl⟩,trivial⟩ (fun _ _ h=>h) ?_)
 rintro k q u3 ⟨hk1,hk2,hql⟩
 refine an ?_ ?_<;>intro h4 q4
 have hkm:=h4
 refine a2 ?_
 refine co rfl (Yz (JL (e:=e) he.PO) rfl rfl rfl rfl rfl) ?_
 refine an ?_ ?_<;>intro h5 q5
 refine ap ?_
 refine TO.DP 0 rfl rfl (by decide) (Bl rfl rfl rfl rfl underlying234 Bm U6 H8 (Kb rfl) (Kf rfl) (Aq (by exact List.Mem.head _) (Ka rfl))) (fun v1=> ?_)
 refine ap ?_
 refine JV 2 3 5 6 7 rfl ?_
 refine ac ?_
 exact Fin.BM (k+1) (q++[(v,k)]) v1 (⟨⟨by omega,by omega,by simp;omega⟩,by omega⟩) ⟨ke rfl,⟨_,rfl,Au (by rw [List.map_append];rfl)⟩,ke rfl,ke rfl,ke rfl,trivial⟩ (fun _ _ h=>h)
 refine a2 ?_
 exact Fin.BM (k+1) (q) u3 (⟨⟨by omega,by omega,by omega⟩,by omega⟩) ⟨ke rfl,⟨_,rfl,Au rfl⟩,ke rfl,ke rfl,ke rfl,trivial⟩ (fun _ _ h=>h)
 have hkm:=h4
 refine a2 ?_
 exact Fin.BM (v+1) (q) u3 (⟨⟨by omega,by omega,by omega⟩,by omega⟩) ⟨ke rfl,⟨_,rfl,Au (by simp)⟩,ke rfl,ke rfl,trivial⟩ (fun _ _ h=>h)
 have hvm:=h3
 refine a3 ?_
 · exact AG _ (AU (by omega) (Ah _ _))
end Go.Proofs.YtmpglcehonnpkaaGreat
