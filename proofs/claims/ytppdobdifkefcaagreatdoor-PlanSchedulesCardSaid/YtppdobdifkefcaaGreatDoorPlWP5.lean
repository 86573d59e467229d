/-
  Part 5 of the texts that prove this claim, merged.
-/
import Derived.RangeFuncFrom
import Derived.RangeFuncLeaves
import Derived.OrdersIn
import Derived.Test.YtppdobdifkefcaaGreatDoorPlWP4
set_option linter.all false
set_option maxRecDepth 40000
set_option maxHeartbeats 16000000
namespace Go.Proofs.YtppdobdifkefcaaGreatDoor
open Go Go.RowKit Cp Go.Proofs.Tryz
structure BG where
 fst:Int
 thn:Int
 deriving DecidableEq
def C3 (a b:BG):Bool:=if a.fst=b.fst then decide (a.thn<b.thn) else decide (a.fst<b.fst)
def Cv (n:Int) (r:BG):Bool:=decide (r.fst<0∨r.thn<0∨n≤r.fst∨n≤r.thn∨r.fst=r.thn)
def Gs (l:List BG) (a b:Nat):Bool:=l.any fun r=>decide (r.fst=(a:Int))&&decide (r.thn=(b:Int))
def K3 (k:Nat) (m:Nat→Nat→Bool) (a b:Nat):Bool:=m a b||(m a k&&m k b)
def CM (l:List BG):Nat→Nat→Nat→Bool
 |0=>Gs l
 |k+1=>K3 k (CM l k)
theorem Iu {l:List BG} {a b:Nat} (h:Gs l a b=true):∀k,CM l k a b=true
 |0=>h
 |k+1=>by show (_||_)=true;rw [Iu h k];rfl
theorem K4 {l:List BG}:∀(k:Nat) {a b c:Nat},c<k→CM l k a c=true→CM l k c b=true→CM l k a b=true
 |0,_,_,_,h,_,_=>absurd h (by omega)
 |k+1,a,b,c,h,h1,h2=>by
  have ih:= @K4 l k
  simp only [CM,K3,Bool.or_eq_true,Bool.and_eq_true] at h1 h2 ⊢
  rcases Nat.lt_or_ge c k with hc|hc
  ·
   rcases h1 with h1|⟨h1,h3⟩<;>rcases h2 with h2|⟨h2,h4⟩
   · exact .inl (ih hc h1 h2)
   · exact .inr ⟨ih hc h1 h2,h4⟩
   · exact .inr ⟨h1,ih hc h3 h2⟩
   · exact .inr ⟨h1,h4⟩
  ·
   obtain rfl:c=k:=by omega
   refine .inr ⟨?_,?_⟩
   · rcases h1 with h1|⟨h1,_⟩<;>exact h1
   · rcases h2 with h2|⟨_,h2⟩<;>exact h2
theorem VF (k:Nat) (m:Nat→Nat→Bool) (a:Nat):K3 k m a k=m a k:=by unfold K3;cases m a k<;>simp
def jO (n:Nat) (l:List BG):Bool:=(List.range n).any fun i=>CM l n i i
def CW:List BG→Bool
 |[]=>true
 |[_]=>true
 |a::b::l=>C3 a b&&CW (b::l)
def Ar (n:Int) (l:List BG):Int:=
 if n<0∨24<n then 2 else if l.any (Cv n) then 44 else if CW l=false then 6 else if jO n.toNat l then 45 else 0
theorem VG {R:Nat→Nat→Prop} (hi:∀a,¬R a a) (ht:∀a b c,R a b→R b c→R a c):∀{L:List Nat},L≠[]→(∀a b,a∈L→b∈L→R a b∨¬R a b)→∃x∈L,∀y∈L,¬R y x
 |[],h,_=>absurd rfl h
 |[x],_,_=>⟨x,by simp,fun y hy=>by simp at hy;subst hy;exact hi _⟩
 |x::y::l,_,hd=>by
  obtain ⟨z,hz,hm⟩:=VG hi ht (L:=y::l) (by simp) (fun a b ha hb=>hd a b (List.mem_cons_of_mem _ ha) (List.mem_cons_of_mem _ hb))
  rcases hd x z (by simp) (List.mem_cons_of_mem _ hz) with h|h
  ·
   refine ⟨x,by simp,fun w hw=> ?_⟩
   rcases List.mem_cons.1 hw with rfl|hw
   · exact hi _
   · exact fun h2=>hm w hw (ht _ _ _ h2 h)
  ·
   refine ⟨z,List.mem_cons_of_mem _ hz,fun w hw=> ?_⟩
   rcases List.mem_cons.1 hw with rfl|hw
   · exact h
   · exact hm w hw
def IA (s:List Int) (n:Int):Bool:=s.any fun x=>n==x
theorem Dc {s:List Int} {n:Int}:IA s n=true↔n∈s:=by unfold IA;rw [List.any_eq_true];exact ⟨fun ⟨x,h,h2⟩=>by simp at h2;subst h2;exact h,fun h=>⟨n,h,by simp⟩⟩
def El (l:List BG) (s:List Int):Bool:=l.all fun r=> !(IA s r.thn)||IA s r.fst
theorem Cw {l:List BG} {s:List Int}:El l s=true↔∀r∈l,r.thn∈s→r.fst∈s:=by
 unfold El;rw [List.all_eq_true]
 refine forall_congr' fun r=>forall_congr' fun _=> ?_
 rw [Bool.or_eq_true,Bool.not_eq_true',←Dc,←Dc]
 cases IA s r.thn<;>simp
def IB (n:Int) (has:Bool) (p:List Int×Bool) (x:Int):List Int×Bool:=
 if x=n then (if has=true∧p.2=false∧n<x then (p.1++[n],true) else p) else if has=true∧p.2=false∧n<x then (p.1++[n]++[x],true) else (p.1++[x],p.2)
def wall (n:Int) (has:Bool) (s:List Int):List Int×Bool:=s.foldl (IB n has) ([],false)
def JN (s:List Int) (n:Int) (has:Bool):List Int:=if has=true∧(wall n has s).2=false then (wall n has s).1++[n] else (wall n has s).1
theorem OI {n:Int} {has:Bool} {x:Int}:∀{s:List Int} {p:List Int×Bool},(x∈(s.foldl (IB n has) p).1∧x≠n)↔((x∈p.1∨x∈s)∧x≠n)
 |[],p=>by simp
 |y::s,p=>by
  rw [List.foldl_cons,OI]
  unfold IB
  by_cases h1:x=n
  · subst h1;simp
  ·
   repeat' split
   all_goals (try subst y);simp [h1,or_assoc]
theorem OJ {n:Int} {has:Bool}:∀{s:List Int} {p:List Int×Bool},(p.2=true→n∈p.1)→(p.2=false→n∉p.1)→(((s.foldl (IB n has) p).2=true→n∈(s.foldl (IB n has) p).1)∧((s.foldl (IB n has) p).2=false→n∉(s.foldl (IB n has) p).1))
 |[],p,h,h'=>⟨h,h'⟩
 |y::s,p,h,h'=>by
  rw [List.foldl_cons]
  apply OJ
  ·
   unfold IB;intro h2
   repeat' split at h2
   all_goals (repeat' split)<;>simp_all
  ·
   unfold IB;intro h2
   repeat' split at h2
   all_goals (repeat' split)<;>simp_all<;>omega
theorem Cc {s:List Int} {n x:Int}:x∈JN s n true↔x=n∨x∈s:=by
 have hm:=OI (n:=n) (has:=true) (x:=x) (s:=s) (p:=([],false))
 have hp:=OJ (n:=n) (has:=true) (s:=s) (p:=([],false)) (by simp) (by simp)
 unfold JN wall
 by_cases hx:x=n
 ·
  subst hx
  split
  next=>simp
  next h=>simp only [true_and,Bool.not_eq_false] at h;simp [hp.1 h]
 ·
  split
  next=>simp [hx] at hm ⊢;exact hm
  next=>simp [hx] at hm ⊢;exact hm
def OK (l:List BG) (s:List Int) (add:Bool) (i:Nat):Bool:=(IA s i !=add)&&El l (JN s i add)
def M6 (n:Nat) (l:List BG) (s:List Int) (add:Bool):List Int:=((List.range n).filter (OK l s add)).map fun i:Nat=>(i:Int)
theorem Cy {n:Int} {l:List BG} (h:Ar n l=0):(0≤n∧n≤24)∧(∀r∈l,Cv n r=false)∧CW l=true∧∀i,i<n.toNat→CM l n.toNat i i=false:=by
 unfold Ar at h
 split at h
 · cases h
 next h1=>
 split at h
 · cases h
 next h2=>
 split at h
 · cases h
 next h3=>
 split at h
 · cases h
 next h4=>
 refine ⟨by omega,fun r hr=> ?_,by simpa using h3,fun i hi=> ?_⟩
 ·
  cases hb:Cv n r with
  |false=>rfl
  |true=>exact absurd (List.any_eq_true.2 ⟨r,hr,hb⟩) h2
 ·
  cases hb:CM l n.toNat i i with
  |false=>rfl
  |true=>exact absurd (show (List.range n.toNat).any (fun i=>CM l n.toNat i i)=true from List.any_eq_true.2 ⟨i,List.mem_range.2 hi,hb⟩) h4
theorem bL {n:Int} {l:List BG} {s:List Int} {i:Nat} (h:Ar n l=0) (hc:El l s=true) (hi:i<n.toNat) (hn:(i:Int)∉s):M6 n.toNat l s true≠[]:=by
 obtain ⟨h1,h2,_,h4⟩:=Cy h
 have hU:(List.range n.toNat).filter (fun k:Nat=> !IA s k)≠[]:=by
  intro he
  have:i∈(List.range n.toNat).filter (fun k:Nat=> !IA s k):=List.mem_filter.2 ⟨List.mem_range.2 hi,by rw [Bool.not_eq_true'];cases hb:IA s i with|false=>rfl|true=>exact absurd (Dc.1 hb) hn⟩
  rw [he] at this;cases this
 obtain ⟨x,hx,hm⟩:=VG (R:=fun a b=>a<n.toNat∧b<n.toNat∧CM l n.toNat a b=true) (fun a ha=>by have:=h4 a ha.1;rw [ha.2.2] at this;cases this) (fun a b c ⟨g1,g2,g3⟩ ⟨_,g4,g5⟩=>⟨g1,g4,K4 _ g2 g3 g5⟩) hU (fun a b _ _=>Classical.em _)
 obtain ⟨hx1,hx2⟩:=List.mem_filter.1 hx
 rw [List.mem_range] at hx1
 have hx3:(x:Int)∉s:=fun h=>by rw [Dc.2 h] at hx2;cases hx2
 intro he
 have:((x:Nat):Int)∈M6 n.toNat l s true:=by
  unfold M6
  refine List.mem_map.2 ⟨x,List.mem_filter.2 ⟨List.mem_range.2 hx1,?_⟩,rfl⟩
  unfold OK
  rw [Bool.and_eq_true]
  refine ⟨by cases hb:IA s x with|false=>rfl|true=>exact absurd (Dc.1 hb) hx3,Cw.2 fun r hr ht=> ?_⟩
  rw [Cc] at ht ⊢
  by_cases hf:r.fst=x
  · exact .inl hf
  right
  rcases ht with ht|ht
  ·
   have hb:=h2 r hr
   unfold Cv at hb
   simp only [decide_eq_false_iff_not] at hb
   by_cases hs:r.fst∈s
   · exact hs
   exfalso
   refine hm r.fst.toNat (List.mem_filter.2 ⟨List.mem_range.2 (by omega),?_⟩) ⟨by omega,hx1,Iu (List.any_eq_true.2 ⟨r,hr,?_⟩) _⟩
   ·
    rw [show ((r.fst.toNat:Nat):Int)=r.fst by omega,Bool.not_eq_true']
    cases Ow:IA s r.fst with
    |false=>rfl
    |true=>exact absurd (Dc.1 Ow) hs
   · rw [Bool.and_eq_true,decide_eq_true_eq,decide_eq_true_eq];omega
  · exact Cw.1 hc r hr ht
 rw [he] at this;cases this
theorem Jl:∀{L M:List Int},L.Nodup→(∀x∈L,x∈M)→L.length≤M.length
 |[],_,_,_=>Nat.zero_le _
 |x::L,M,hn,hs=>by
  rw [List.nodup_cons] at hn
  have h:=Jl (L:=L) (M:=M.erase x) hn.2 (fun y hy=>(List.mem_erase_of_ne (fun e=>hn.1 (by rw [←e];exact hy))).2 (hs y (List.mem_cons_of_mem _ hy)))
  have hx:=hs x (by simp)
  rw [List.length_erase_of_mem hx] at h
  have:=List.length_pos_of_mem hx
  simp;omega
structure Iv (n:Int) (l:List BG) (out done:List Int):Prop where
 mem:∀x,x∈done↔x∈out
 nd:out.Nodup
 bM:∀x∈out,0≤x∧x<n
 cl:El l done=true
 bN:∀(k:Nat) x,out[k]? =some x→∀r∈l,r.thn=x→r.fst∈out.take k
theorem Iv.nil {n:Int} {l:List BG}:Iv n l [] []:=⟨fun x=>Iff.rfl,List.nodup_nil,(fun x h=>by cases h),(Cw.2 fun r _ h=>by cases h),(fun k x h=>by simp at h)⟩
theorem Iv.len {n:Int} {l:List BG} {out done:List Int} (h:Iv n l out done):out.length≤n.toNat:=by
 have:=Jl (L:=out) (M:=(List.range n.toNat).map fun i:Nat=>(i:Int)) h.nd (fun x hx=>by have:=h.bM x hx;exact List.mem_map.2 ⟨x.toNat,List.mem_range.2 (by omega),by omega⟩)
 simpa using this
theorem Iv.bes {n:Int} {l:List BG} {out done:List Int} (h:Iv n l out done) (hv:Ar n l=0) (hl:out.length<n.toNat):∃x,(M6 n.toNat l done true)[0]? =some x∧Iv n l (out++[x]) (JN done x true):=by
 have hex:∃i,i<n.toNat∧(i:Int)∉out:=by
  refine Classical.byContradiction fun hne=> ?_
  have hall:∀i,i<n.toNat→(i:Int)∈out:=fun i hi=>Classical.byContradiction fun hh=>hne ⟨i,hi,hh⟩
  have hnd:((List.range n.toNat).map fun i:Nat=>(i:Int)).Nodup:=by
   refine List.Pairwise.map _ (fun a b hab=> ?_) (List.nodup_range (n:=n.toNat))
   intro e;apply hab;omega
  have:=Jl hnd (M:=out) (fun x hx=>by
   obtain ⟨i,hi,rfl⟩:=List.mem_map.1 hx
   exact hall i (List.mem_range.1 hi))
  simp at this;omega
 obtain ⟨i,hi,hio⟩:=hex
 have hne:=bL hv h.cl hi (fun hh=>hio ((h.mem _).1 hh))
 obtain ⟨x,hx⟩:=at_ (l:=M6 n.toNat l done true) (k:=0) (List.length_pos_iff.2 hne)
 refine ⟨x,hx,?_⟩
 obtain ⟨j,hj,rfl⟩:=List.mem_map.1 (List.mem_of_getElem? hx)
 obtain ⟨ck,hj2⟩:=List.mem_filter.1 hj
 rw [List.mem_range] at ck
 unfold OK at hj2
 rw [Bool.and_eq_true] at hj2
 have hjd:(j:Int)∉done:=fun hh=>by rw [Dc.2 hh] at hj2;exact absurd hj2.1 (by decide)
 have hjo:(j:Int)∉out:=fun hh=>hjd ((h.mem _).2 hh)
 refine ⟨fun y=> ?_,?_,fun y hy=> ?_,hj2.2,fun k y hk r hr ht=> ?_⟩
 · rw [Cc,h.mem,List.mem_append,List.mem_singleton];exact Or.comm
 ·
  rw [List.nodup_append]
  exact ⟨h.nd,by simp,fun a ha b hb=>by simp at hb;subst hb;intro e;subst e;exact hjo ha⟩
 ·
  rcases List.mem_append.1 hy with hy|hy
  · exact h.bM y hy
  · simp at hy;subst hy;omega
 ·
  rcases Nat.lt_or_ge k out.length with hlt|hge
  ·
   rw [List.getElem?_append_left hlt] at hk
   rw [List.take_append_of_le_length (by omega)]
   exact h.bN k y hk r hr ht
  ·
   have hk2:k=out.length:=by
    rcases Nat.lt_or_ge k (out++[(j:Int)]).length with hh|hh
    · simp at hh;omega
    · rw [List.getElem?_eq_none hh] at hk;cases hk
   subst hk2
   rw [List.getElem?_append_right (Nat.le_refl _)] at hk
   simp at hk;subst hk
   rw [List.take_left]
   have YY:=Cw.1 hj2.2 r hr (Cc.2 (.inl ht))
   rcases Cc.1 YY with he|hm
   ·
    obtain ⟨_,g2,_,_⟩:=Cy hv
    have hb:=g2 r hr
    unfold Cv at hb
    simp only [decide_eq_false_iff_not] at hb
    omega
   · exact (h.mem _).1 hm
def Cj (l:List BG) (r:BG):Nat:=(l.takeWhile fun x=>C3 x r).length
def D_ (l:List BG) (r:BG):List BG:=if l[Cj l r]? =some r then l else l.take (Cj l r)++[r]++l.drop (Cj l r)
theorem Jm (l:List BG) (r:BG):Cj l r≤l.length:=by unfold Cj;exact (List.takeWhile_sublist _).length_le
theorem RN {l:List BG} {r:BG} {k:Nat} (hk:k<Cj l r) {x:BG} (hx:l[k]? =some x):C3 x r=true:=by
 induction l generalizing k with
 |nil=>simp at hx
 |cons a l ih=>
  unfold Cj at hk
  rw [List.takeWhile_cons] at hk
  split at hk
  next h=>
   cases k with
   |zero=>simp at hx;subst hx;exact h
   |succ k=>exact ih (k:=k) (by simp at hk;exact hk) (by simpa using hx)
  next=>simp at hk
theorem RO {l:List BG} {r:BG} {x:BG} (hx:l[Cj l r]? =some x):C3 x r=false:=by
 induction l with
 |nil=>simp at hx
 |cons a l ih=>
  unfold Cj at hx
  rw [List.takeWhile_cons] at hx
  split at hx
  next h=>exact ih (by unfold Cj;simpa using hx)
  next h=>simp at hx;subst hx;simpa using h
theorem RP {l:List BG} {r:BG} {k:Nat} (hl:k≤l.length) (h:∀j x,j<k→l[j]? =some x→C3 x r=true) (he:∀x,l[k]? =some x→C3 x r=false):Cj l r=k:=by
 rcases Nat.lt_trichotomy (Cj l r) k with h1|h1|h1
 ·
  obtain ⟨x,hx⟩:=at_ (l:=l) (k:=Cj l r) (by omega)
  have:=h _ x h1 hx;rw [RO hx] at this;cases this
 · exact h1
 ·
  obtain ⟨x,hx⟩:=at_ (l:=l) (k:=k) (by have:=Jm l r;omega)
  have:=he x hx;rw [RN h1 hx] at this;cases this
theorem OL (l:List BG) (r:BG):(D_ l r).length≤l.length+1:=by
 have:=Jm l r
 unfold D_;split<;>simp<;>omega
theorem OM {l:List BG} {r x:BG}:x∈D_ l r↔x=r∨x∈l:=by
 unfold D_;split
 next h=>exact ⟨.inr,fun h2=>h2.elim (fun e=>by subst e;exact List.mem_of_getElem? h) id⟩
 next=>rw [List.append_assoc,List.mem_append,List.mem_append,List.mem_singleton,←or_assoc,or_comm (a:=x∈_) (b:=x=r),or_assoc,←List.mem_append,List.take_append_drop]
theorem VH {a b:BG} (h:C3 a b=false) (hn:a≠b):C3 b a=true:=by
 unfold C3 at*
 obtain ⟨a1,a2⟩:=a
 obtain ⟨b1,b2⟩:=b
 simp only [ne_eq,BG.mk.injEq,not_and] at*
 repeat' split at h
 all_goals repeat' split
 all_goals simp only [decide_eq_true_eq,decide_eq_false_iff_not] at*
 all_goals omega
theorem HM {l:List BG}:CW l=true↔∀j a b,l[j]? =some a→l[j+1]? =some b→C3 a b=true:=by
 induction l with
 |nil=>exact ⟨fun _ j a b h=>by simp at h,fun _=>rfl⟩
 |cons x l ih=>
  cases l with
  |nil=>exact ⟨fun _ j a b _ h=>by simp at h,fun _=>rfl⟩
  |cons y l=>
   unfold CW
   rw [Bool.and_eq_true,ih]
   refine ⟨fun ⟨h1,h2⟩ j a b ha hb=> ?_,fun h=>⟨h 0 x y rfl rfl,fun j a b ha hb=>h (j+1) a b (by simpa using ha) (by simpa using hb)⟩⟩
   cases j with
   |zero=>simp at ha hb;subst ha;subst hb;exact h1
   |succ j=>exact h2 j a b (by simpa using ha) (by simpa using hb)
theorem JO {l:List BG} {r:BG} (h:CW l=true):CW (D_ l r)=true:=by
 unfold D_;split
 next=>exact h
 next hne=>
 rw [HM] at h ⊢
 have hp:=Jm l r
 intro j a b ha hb
 rw [List.append_assoc] at ha hb
 rcases Nat.lt_trichotomy (j+1) (Cj l r) with h1|h1|h1
 ·
  rw [List.getElem?_append_left (by rw [List.length_take];omega),List.getElem?_take,if_pos (by omega)] at ha hb
  exact h j a b ha hb
 ·
  rw [List.getElem?_append_left (by rw [List.length_take];omega),List.getElem?_take,if_pos (by omega)] at ha
  rw [List.getElem?_append_right (by rw [List.length_take];omega),List.length_take,show j+1-min (Cj l r) l.length=0 by omega] at hb
  simp at hb;subst hb
  exact RN (by omega) ha
 ·
  rw [List.getElem?_append_right (by rw [List.length_take];omega),List.length_take,show j-min (Cj l r) l.length=j-Cj l r by omega] at ha
  rw [List.getElem?_append_right (by rw [List.length_take];omega),List.length_take,show j+1-min (Cj l r) l.length=(j-Cj l r)+1 by omega] at hb
  simp only [List.singleton_append,List.getElem?_cons_succ,List.getElem?_drop] at hb
  rcases Nat.eq_zero_or_pos (j-Cj l r) with h2|h2
  ·
   rw [h2] at ha hb
   simp at ha;subst ha
   simp at hb
   exact VH (RO hb) (fun e=>hne (by rw [hb,e]))
  ·
   obtain ⟨i,hi⟩:∃i,j-Cj l r=i+1:=⟨j-Cj l r-1,by omega⟩
   rw [hi] at ha hb
   simp only [List.singleton_append,List.getElem?_cons_succ,List.getElem?_drop] at ha
   exact h (Cj l r+i) a b ha (by rw [show Cj l r+i+1=Cj l r+(i+1) by omega];exact hb)
theorem Jn {l:List BG} (h:∀r∈l,r.fst<r.thn):∀(k:Nat) {a b:Nat},CM l k a b=true→a<b
 |0,a,b,hb=>by
  obtain ⟨r,hr,h2⟩:=List.any_eq_true.1 hb
  rw [Bool.and_eq_true,decide_eq_true_eq,decide_eq_true_eq] at h2
  have:=h r hr;omega
 |k+1,a,b,hb=>by
  simp only [CM,K3,Bool.or_eq_true,Bool.and_eq_true] at hb
  rcases hb with hb|⟨h1,h2⟩
  · exact Jn h k hb
  · have:=Jn h k h1;have:=Jn h k h2;omega
theorem VI {n:Nat} {l:List BG} (hn:n≤24) (h:∀r∈l,(0≤r.fst∧r.fst<r.thn)∧r.thn<n) (hs:CW l=true):Ar n l=0:=by
 unfold Ar
 rw [if_neg (by omega),if_neg ?_,if_neg (by simp [hs]),if_neg ?_]
 ·
  intro hc
  obtain ⟨i,_,hi⟩:=List.any_eq_true.1 hc
  have:=Jn (fun r hr=>(h r hr).1.2) _ hi;omega
 ·
  intro hc
  obtain ⟨r,hr,hb⟩:=List.any_eq_true.1 hc
  unfold Cv at hb
  rw [decide_eq_true_eq] at hb
  have:=h r hr;omega
def BM (n:Nat) (l:List BG):Nat→List Int×List Int
 |0=>([],[])
 |k+1=>match (M6 n l (BM n l k).2 true)[0]? with
  |none=>BM n l k
  |some x=>((BM n l k).1++[x],JN (BM n l k).2 x true)
theorem Dz {n:Int} {l:List BG} (hv:Ar n l=0):∀(k:Nat),k≤n.toNat→Iv n l (BM n.toNat l k).1 (BM n.toNat l k).2∧(BM n.toNat l k).1.length=k
 |0,_=>⟨Iv.nil,rfl⟩
 |k+1,hk=>by
  obtain ⟨h1,h2⟩:=Dz hv k (by omega)
  obtain ⟨x,hx,hr⟩:=h1.bes hv (by omega)
  unfold BM
  rw [hx]
  exact ⟨hr,by simp [h2]⟩
theorem ON {n:Int} {l:List BG} (hv:Ar n l=0) {k:Nat} (hk:k<n.toNat):∃x,(M6 n.toNat l (BM n.toNat l k).2 true)[0]? =some x∧BM n.toNat l (k+1)=((BM n.toNat l k).1++[x],JN (BM n.toNat l k).2 x true):=by
 obtain ⟨h1,h2⟩:=Dz hv k (by omega)
 obtain ⟨x,hx,_⟩:=h1.bes hv (by omega)
 exact ⟨x,hx,by rw [BM];rw [hx]⟩
theorem Pw {c:Ao} {a b:List Int} {t n x:Int} (hf:c.Be a b []=0) (ht:c.has t=true) (Ko:a.length<24) (h:c.early a b t n=some x):n≤x∧(0≤x∧x≤40000)∧c.Be (a++[t]) (b++[x]) []=0:=by
 have ho:=DF (DN hf)
 rw [VB (by rw [Pv ht];exact hf)] at h
 unfold Ao.next at h
 obtain ⟨h1,h2⟩:=K0 ho
 obtain ⟨h3,⟨j,w,hj,h4,h5,h7⟩,_⟩:=JM h (GZ h1 h2) h2
 rw [Nat.zero_add] at h7
 have hw:=List.any_eq_false.1 (HK ho).2.2.1 w (List.mem_of_getElem? hj)
 have hl:=K1 h4
 simp [GG] at hw
 have hop:c.Rt (a.zip b) t x=true:=(Xw ho).2 ⟨j,w,hj,h4,h5,h7⟩
 refine ⟨by omega,by omega,?_⟩
 rw [←VE hf Ko ht] at hop
 exact of_decide_eq_true hop
theorem Px {c:Ao} {a b a' b':List Int} (h:c.Be a b []=0) (hl:a'.length=b'.length) (hp:(a.zip b).Perm (a'.zip b')):c.Be a' b' []=0:=by
 have h0:=DN h
 have ho:=DF h0
 obtain ⟨l1,l2⟩:=H9 h0
 have hlen:=hp.length_eq
 rw [List.length_zip,List.length_zip] at hlen
 have Xx:=Kx h0
 have hmem:∀n∈a',n∈a:=fun n hn=>by
  obtain ⟨j,hj⟩:=List.mem_iff_getElem?.1 hn
  have hjl:j<a'.length:=by rcases Nat.lt_or_ge j a'.length with h2|h2;exact h2;rw [List.getElem?_eq_none h2] at hj;cases hj
  obtain ⟨y,hy⟩:=at_ (l:=b') (k:=j) (by omega)
  have hz:(n,y)∈a'.zip b':=List.mem_of_getElem? (List.getElem?_zip_eq_some.2 ⟨hj,hy⟩)
  exact (List.of_mem_zip (hp.mem_iff.2 hz)).1
 have h1:c.CV a' b' []=0:=by
  unfold Ao.CV
  rw [if_neg (not_not_intro ho),if_neg (by omega),if_neg (by omega),if_neg,if_pos]
  ·
   have hm:=K2 h0
   rw [List.all_eq_true] at hm ⊢
   exact fun p hpm=>hm p (hp.mem_iff.2 hpm)
  ·
   rw [Bool.not_eq_true,List.any_eq_false]
   intro n hn
   rw [List.append_nil] at hn
   have:=Xx n (by rw [List.append_nil];exact hmem n hn)
   simp [this]
 unfold Ao.Be at h ⊢
 rw [if_neg (not_not_intro h0)] at h
 rw [if_neg (not_not_intro h1),if_neg]
 intro hov
 have hno:¬c.over (a.zip b):=by intro hh;rw [if_pos hh] at h;cases h
 refine hno ?_
 obtain ⟨i,n,r,g1,g2,g3⟩:=hov
 refine ⟨i,n,r,g1,g2,?_⟩
 have:c.cnt (a.zip b) (i*8+n)=c.cnt (a'.zip b') (i*8+n):=List.Perm.countP_eq _ hp
 rw [this];exact g3
-- days for changes, one after the other (behind Rq.lean and the lI)
def De (l:List BG) (Fx:List Int) (i fr:Int):Int:=l.foldl (fun a r=>if r.thn=i then max a (Fx.getD r.fst.toNat 0+1) else a) fr
theorem K5 {Fx:List Int} {i:Int}:∀{l:List BG} {fr:Int},fr≤De l Fx i fr
 |[],_=>Int.le_refl _
 |r::l,fr=>by
  have h:= @K5 Fx i l (if r.thn=i then max fr (Fx.getD r.fst.toNat 0+1) else fr)
  unfold De at h ⊢
  rw [List.foldl_cons]
  split at h
  next h2=>rw [if_pos h2];omega
  next h2=>rw [if_neg h2];exact h
theorem K6 {Fx:List Int} {i:Int} {r:BG}:∀{l:List BG} {fr:Int},r∈l→r.thn=i→Fx.getD r.fst.toNat 0<De l Fx i fr
 |[],_,h,_=>by cases h
 |x::l,fr,h,h2=>by
  unfold De
  rw [List.foldl_cons]
  rcases List.mem_cons.1 h with rfl|h
  ·
   have h3:= @K5 Fx i l (if r.thn=i then max fr (Fx.getD r.fst.toNat 0+1) else fr)
   unfold De at h3
   rw [if_pos h2] at h3 ⊢
   omega
  · exact K6 h h2
abbrev NG (t:List Int) (i:Int):Int:=t.getD i.toNat 0
open Classical in
noncomputable def Ga (c:Ao) (l:List BG) (t:List Int) (fr:Int) (st:Option (List Int×List Int×List Int)) (i:Int):Option (List Int×List Int×List Int):=
 match st with
 |none=>none
 |some (Fx,busy,days)=>match c.early busy days (NG t i) (De l Fx i fr) with
  |none=>none
  |some d=>some (Fx.set i.toNat d,busy++[NG t i],days++[d])
noncomputable def IC (c:Ao) (l:List BG) (t:List Int) (fr:Int) (n:Nat) (row:List Int):Option (List Int×List Int×List Int):=row.foldl (Ga c l t fr) (some (List.replicate n 0,[],[]))
theorem L_ {c:Ao} {l:List BG} {t:List Int} {fr:Int}:∀(row:List Int),row.foldl (Ga c l t fr) none=none
 |[]=>rfl
 |_::row=>L_ row
theorem Iw {c:Ao} {l:List BG} {t:List Int} {fr:Int} {n k:Nat} {row:List Int} {i:Int} (h:row[k]? =some i):IC c l t fr n (row.take (k+1))=Ga c l t fr (IC c l t fr n (row.take k)) i:=by
 unfold IC
 rw [List.take_add_one,h,List.foldl_append];rfl
theorem Gb {c:Ao} {l:List BG} {t:List Int} {fr:Int} {n k:Nat} {row:List Int} {i:Int} {d b y:List Int} (h:row[k]? =some i) (hs:IC c l t fr n (row.take k)=some (d,b,y)) (he:c.early b y (NG t i) (De l d i fr)=none):IC c l t fr n row=none:=by
 have h1:IC c l t fr n (row.take (k+1))=none:=by rw [Iw h,hs];simp only [Ga,he]
 unfold IC at h1 ⊢
 rw [←List.take_append_drop (k+1) row,List.foldl_append,h1]
 exact L_ _
theorem Xy {c:Ao} {l:List BG} {t:List Int} {fr:Int} {n k:Nat} {row:List Int} {i x:Int} {d b y:List Int} (h:row[k]? =some i) (hs:IC c l t fr n (row.take k)=some (d,b,y)) (he:c.early b y (NG t i) (De l d i fr)=some x):IC c l t fr n (row.take (k+1))=some (d.set i.toNat x,b++[NG t i],y++[x]):=by
 rw [Iw h,hs];simp only [Ga,he]
structure K7 (c:Ao) (l:List BG) (t row:List Int) (fr:Int) (n k:Nat) (Fx busy days:List Int):Prop where
 len:Fx.length=n
 hb:busy=(row.take k).map (NG t)
 hd:days=(row.take k).map fun i=>Fx.getD i.toNat 0
 lJ:∀x∈Fx,0≤x∧x≤40000
 ge:∀i∈row.take k,fr≤Fx.getD i.toNat 0
 ord:∀r∈l,r.thn∈row.take k→Fx.getD r.fst.toNat 0<Fx.getD r.thn.toNat 0
 fit:c.Be busy days []=0
theorem EA {l:List Int} {i j d:Int} (hi:0≤i) (hj:0≤j) (h:i.toNat<l.length):(l.set i.toNat d).getD j.toNat 0=if j=i then d else l.getD j.toNat 0:=by
 rw [List.getD_eq_getElem?_getD,List.getElem?_set]
 by_cases e:j=i
 · subst e;rw [if_pos rfl,if_pos h,if_pos rfl];rfl
 · rw [if_neg (by omega),if_neg e,List.getD_eq_getElem?_getD]
theorem Py {l:List Int} {k:Nat} {i:Int} (hn:l.Nodup) (h:l[k]? =some i):i∉l.take k:=by
 intro hm
 obtain ⟨j,hj⟩:=List.mem_iff_getElem?.1 hm
 rw [List.getElem?_take] at hj
 split at hj
 next hjk=>
  have:=(List.getElem?_inj (by rcases Nat.lt_or_ge j l.length with h2|h2;exact h2;rw [List.getElem?_eq_none h2] at hj;cases hj) hn).1 (hj.trans h.symm)
  omega
 next=>cases hj
theorem K7.next {c:Ao} {l:List BG} {t row done:List Int} {fr d i:Int} {n k:Nat} {Fx busy days:List Int} (h:K7 c l t row fr n k Fx busy days) (hr:Iv (n:Int) l row done) (hk:row[k]? =some i) (hl:∀r∈l,0≤r.fst∧0≤r.thn∧r.fst≠r.thn) (hn:n≤24) (ht:c.has (NG t i)=true)
  (he:c.early busy days (NG t i) (De l Fx i fr)=some d):K7 c l t row fr n (k+1) (Fx.set i.toNat d) (busy++[NG t i]) (days++[d]):=by
 have hi:=hr.bM i (List.mem_of_getElem? hk)
 have hni:=Py hr.nd hk
 have hlen:i.toNat<Fx.length:=by rw [h.len];omega
 have Ol:k<row.length:=by rcases Nat.lt_or_ge k row.length with h2|h2;exact h2;rw [List.getElem?_eq_none h2] at hk;cases hk
 have hrl:=hr.len
 have Qt:busy.length<24:=by rw [h.hb,List.length_map,List.length_take];omega
 obtain ⟨e1,e2,e3⟩:=Pw h.fit ht Qt he
 have hf:= @K5 Fx i l fr
 have WQ:row.take (k+1)=row.take k++[i]:=by rw [List.take_add_one,hk];rfl
 have VJ:∀j∈row.take k,0≤j∧j≠i:=fun j hj=>⟨(hr.bM j (List.mem_of_mem_take hj)).1,fun e=>hni (e ▸ hj)⟩
 refine ⟨by rw [List.length_set];exact h.len,by rw [WQ,List.map_append,←h.hb];rfl,?_,fun x hx=> ?_,fun j hj=> ?_,fun r jP hm=> ?_,e3⟩
 ·
  rw [WQ,List.map_append,h.hd]
  have h1:∀j∈row.take k,Fx.getD j.toNat 0=(Fx.set i.toNat d).getD j.toNat 0:=fun j hj=>by
   rw [EA hi.1 (VJ j hj).1 hlen,if_neg (VJ j hj).2]
  rw [List.map_congr_left h1]
  congr 1
  show [d]=[(Fx.set i.toNat d).getD i.toNat 0]
  rw [EA hi.1 hi.1 hlen,if_pos rfl]
 ·
  rcases List.mem_or_eq_of_mem_set hx with hx|hx
  · exact h.lJ x hx
  · subst hx;exact e2
 ·
  rw [WQ,List.mem_append,List.mem_singleton] at hj
  rcases hj with hj|rfl
  · rw [EA hi.1 (VJ j hj).1 hlen,if_neg (VJ j hj).2];exact h.ge j hj
  · rw [EA hi.1 hi.1 hlen,if_pos rfl];omega
 ·
  rw [WQ,List.mem_append,List.mem_singleton] at hm
  have hq:=hl r jP
  rcases hm with hm|hm
  ·
   have h3:r.fst∈row.take k:=by
    obtain ⟨j,hj⟩:=List.mem_iff_getElem?.1 hm
    rw [List.getElem?_take] at hj
    split at hj
    next hjk=>
     have h4:=hr.bN j _ hj r jP rfl
     exact (List.take_subset_take_left row (by omega)) h4
    next=>cases hj
   rw [EA hi.1 hq.1 hlen,if_neg (VJ _ h3).2,EA hi.1 hq.2.1 hlen,if_neg (VJ _ hm).2]
   exact h.ord r jP hm
  ·
   have h3:=hr.bN k i hk r jP hm
   rw [EA hi.1 hq.1 hlen,if_neg (VJ _ h3).2,EA hi.1 hq.2.1 hlen,if_pos hm]
   have:=K6 (Fx:=Fx) (i:=i) (fr:=fr) jP hm
   omega
theorem K7.nil {c:Ao} {l:List BG} {t row:List Int} {fr:Int} {n:Nat} (ho:c.own=0):K7 c l t row fr n 0 (List.replicate n 0) [] []:=
 ⟨List.length_replicate,rfl,rfl,fun x hx=>by rw [List.eq_of_mem_replicate hx];omega,fun i h=>by simp at h,fun r _ h=>by simp at h,VD ho⟩
theorem K7.run {c:Ao} {l:List BG} {t row done:List Int} {fr:Int} {n:Nat} (hr:Iv (n:Int) l row done) (hl:∀r∈l,0≤r.fst∧0≤r.thn∧r.fst≠r.thn) (hn:n≤24) (ho:c.own=0) (ht:∀i:Int,0≤i→i<(n:Int)→c.has (NG t i)=true):∀(k:Nat) {d b y:List Int},k≤row.length→IC c l t fr n (row.take k)=some (d,b,y)→K7 c l t row fr n k d b y
 |0,d,b,y,_,h=>by
  have h:some (List.replicate n 0,([]:List Int),([]:List Int))=some (d,b,y):=h
  cases h
  exact K7.nil ho
 |k+1,d,b,y,hk,h=>by
  obtain ⟨i,hi⟩:=at_ (l:=row) (k:=k) (by omega)
  have VJ:=hr.bM i (List.mem_of_getElem? hi)
  rw [Iw hi] at h
  cases hs:IC c l t fr n (row.take k) with
  |none=>rw [hs] at h;cases h
  |some p=>
   obtain ⟨d1,b1,y1⟩:=p
   have ih:=K7.run hr hl hn ho ht k (by omega) hs
   rw [hs] at h
   simp only [Ga] at h
   cases he:c.early b1 y1 (NG t i) (De l d1 i fr) with
   |none=>rw [he] at h;cases h
   |some x=>
    rw [he] at h
    cases h
    exact ih.next hr hi hl hn (ht i VJ.1 VJ.2) he
theorem Iv.all {n:Nat} {l:List BG} {row done:List Int} (hr:Iv (n:Int) l row done) (hlen:row.length=n):row.Perm ((List.range n).map fun i:Nat=>(i:Int)):=by
 have hnd:((List.range n).map fun i:Nat=>(i:Int)).Nodup:=by
  refine List.Pairwise.map _ (fun a b hab=> ?_) (List.nodup_range (n:=n))
  intro e;apply hab;omega
 have hsub:∀x∈row,x∈(List.range n).map fun i:Nat=>(i:Int):=fun x hx=>by
  have:=hr.bM x hx
  exact List.mem_map.2 ⟨x.toNat,List.mem_range.2 (by omega),by omega⟩
 refine (List.perm_ext_iff_of_nodup hr.nd hnd).2 fun a=>⟨hsub a,fun ha=> ?_⟩
 refine Classical.byContradiction fun hna=> ?_
 have h1:=Jl (L:=a::row) (M:=(List.range n).map fun i:Nat=>(i:Int)) (List.nodup_cons.2 ⟨hna,hr.nd⟩) (fun x hx=>by
  rcases List.mem_cons.1 hx with rfl|hx
  · exact ha
  · exact hsub x hx)
 simp at h1;omega
theorem GJ {l:List Int} {n:Nat} (h:l.length=n):((List.range n).map fun i:Nat=>(i:Int)).map (fun i=>l.getD i.toNat 0)=l:=by
 rw [List.map_map]
 apply List.ext_getElem?
 intro k
 rw [List.getElem?_map]
 rcases Nat.lt_or_ge k n with hk|hk
 ·
  rw [List.getElem?_range hk]
  show some (l.getD ((k:Int)).toNat 0)=_
  rw [Int.toNat_natCast,List.getD_eq_getElem?_getD,List.getElem?_eq_getElem (by omega)];rfl
 · rw [List.getElem?_eq_none (by simpa using hk),List.getElem?_eq_none (by omega)];rfl
structure Y6 (c:Ao) (l:List BG) (t Fx:List Int) (fr:Int) (n:Nat):Prop where
 len:Fx.length=n
 lJ:∀x∈Fx,0≤x∧x≤40000
 ge:∀x∈Fx,fr≤x
 ord:∀r∈l,Fx.getD r.fst.toNat 0<Fx.getD r.thn.toNat 0
 fit:c.Be t Fx []=0
theorem bO {c:Ao} {l:List BG} {t:List Int} {fr:Int} {n:Nat} {d b y:List Int} (hv:Ar n l=0) (ho:c.own=0) (hlt:t.length=n) (ht:∀x∈t,c.has x=true) (h:IC c l t fr n (BM n l n).1=some (d,b,y)):Y6 c l t d fr n:=by
 obtain ⟨h0,h1,_,_⟩:=Cy hv
 have hrow:=Dz hv n (by simp)
 rw [Int.toNat_natCast] at hrow
 obtain ⟨hr,hrl⟩:=hrow
 have hl:∀r∈l,(0≤r.fst∧r.fst<n)∧(0≤r.thn∧r.thn<n)∧r.fst≠r.thn:=fun r hm=>by
  have:=h1 r hm;unfold Cv at this;rw [decide_eq_false_iff_not] at this;omega
 have hS := K7.run (k := (BM n l n).1.length) (fr := fr) hr (fun r hm => by have := hl r hm; omega) (by omega) ho (fun i hi hin => ht _ (by
  have h3:i.toNat<t.length:=by omega
  unfold NG;rw [List.getD_eq_getElem?_getD,List.getElem?_eq_getElem h3];exact List.getElem_mem _)) (Nat.le_refl _) (by rw [List.take_length];exact h)
 rw [hrl] at hS
 have WQ:(BM n l n).1.take n=(BM n l n).1:=List.take_of_length_le (by omega)
 have hp:=hr.all hrl
 have hall:∀i:Int,0≤i→i<n→i∈(BM n l n).1.take n:=fun i hi hin=>by
  rw [WQ,hp.mem_iff];exact List.mem_map.2 ⟨i.toNat,List.mem_range.2 (by omega),by omega⟩
 refine ⟨hS.len,hS.lJ,fun x hx=> ?_,fun r hm=>hS.ord r hm (hall _ (hl r hm).2.1.1 (hl r hm).2.1.2),?_⟩
 ·
  obtain ⟨j,hj⟩:=List.mem_iff_getElem?.1 hx
  have hjl:j<d.length:=by rcases Nat.lt_or_ge j d.length with h2|h2;exact h2;rw [List.getElem?_eq_none h2] at hj;cases hj
  have:=hS.ge (j:Int) (hall _ (by omega) (by have:=hS.len;omega))
  rw [Int.toNat_natCast,List.getD_eq_getElem?_getD,hj] at this
  exact this
 ·
  have hz:=hS.fit
  rw [hS.hb,hS.hd,WQ] at hz
  refine Px hz (by rw [hlt,hS.len]) ?_
  rw [List.zip_map']
  refine (hp.map _).trans ?_
  rw [←List.zip_map',GJ hlt,GJ hS.len]
theorem Y7 {d:Nat} {w:World} {x0 y0:Int} {x1 y1:Int}:(Op.equalIn (d+2) 49 (.agg #[.int .i64 x0,.int .i64 x1]) (.agg #[.int .i64 y0,.int .i64 y1])).run Tryz.prog w= .ok (decide (x0=y0∧x1=y1)) w:=by
 have h:=eqS (w:=w) (d:=d+1) (xs:= #[.int .i64 x0,.int .i64 x1]) (ys:= #[.int .i64 y0,.int .i64 y1]) Tryz.underlying49 (by kernel_rfl) (Ho (by decide) (DQ C6 rfl) (DQ C6 rfl) (Jd (d:=d+0) Tryz.underlying3) (Ho (by decide) (DQ C6 rfl) (DQ C6 rfl) (Jd (d:=d+0) Tryz.underlying3) (Qw)))
 refine h.trans (congrArg (fun b=>Result.ok b w) ?_)
 rw [Bool.eq_iff_iff];simp [and_assoc]
theorem Xz {E:Env} {I:Bn} {o:Oper} {u:TypeId} {x y:Operand} {x0 y0:Int} {x1 y1:Int} (ho:o.op= .binOp .eql 49 x y u) (hx:VL E x (agg [is (.int .i64 x0),is (.int .i64 x1)])) (hy:VL E y (agg [is (.int .i64 y0),is (.int .i64 y1)])):AH Tryz.prog I o E (bool (decide (x0=y0∧x1=y1))):=
 Ng [.int .i64 x0,.int .i64 x1] [.int .i64 y0,.int .i64 y1] ho hx hy (by kernel_rfl) (fun w=>by rw [show Op.equal 49 _ _=Op.equalIn (9998+2) 49 _ _ from rfl];exact Y7)
theorem X0 {E:Env} {I:Bn} {o:Oper} {u:TypeId} {x y:Operand} {x0 y0:Int} {x1 y1:Int} (ho:o.op= .binOp .neq 49 x y u) (hx:VL E x (agg [is (.int .i64 x0),is (.int .i64 x1)])) (hy:VL E y (agg [is (.int .i64 y0),is (.int .i64 y1)])):AH Tryz.prog I o E (bool (!decide (x0=y0∧x1=y1))):=
 Tq [.int .i64 x0,.int .i64 x1] [.int .i64 y0,.int .i64 y1] ho hx hy (by kernel_rfl) (fun w=>by rw [show Op.equal 49 _ _=Op.equalIn (9998+2) 49 _ _ from rfl];exact Y7)
abbrev Iy (r:BG):List Pr:=[int r.fst,int r.thn]
abbrev reqs (l:List BG):Pr:=slice 2 (l.map Iy)
theorem Si {a b:BG}  :A7 prog 69 [agg (Iy a),agg (Iy b)] (bool (C3 a b)):=by
 refine fo func69 rfl ⟨rfl,rfl⟩ fun M0 w0=> ?_
 · repeat' first|(refine bool_eq ?_;unfold C3;split<;>first|rfl|(exfalso;omega))|(refine bool_eq ?_;unfold C3;split<;>rfl)|refine ac ?_|(refine Tr.cn rfl ?_ ?_<;>intro h q)
theorem OO {l:List BG} {r:BG} (hl:l.length≤1000000):A7 prog 44 [reqs l,agg (Iy r)] (reqs (D_ l r)):=by
 refine fo func44 rfl ⟨rfl,rfl⟩ fun M0 w0=>(Tr.EF 0 rfl fun Fp=> ?_)
 have hml:(l.map Iy).length=l.length:=List.length_map _
 have qm:=Jm l r
 refine a2 ?_
 refine O6 0 3 5 rfl (Tr.WH [0,3] [(5,int ((Cj l r:Nat):Int))] (True) ?_ (fun h1=> ?_))
 refine Tr.block (Tr.BK [(0,_),(3,_)] (cX rfl) (fun k:Nat=>[(5,int ((k:Nat):Int))]) (fun k:Nat=>k≤l.length∧(∀j y,j<k→l[j]? =some y→C3 y r=true)) (fun k:Nat=>l.length-k) 0 (⟨Nat.zero_le _,fun j y hj=>absurd hj (by omega)⟩) ⟨ke rfl,trivial⟩ ?_)
 rintro k ⟨BO,hinv⟩
 refine ag ?_ ?_<;>intro h2 q2
 obtain ⟨x,hx⟩:=at_ (l:=l) (k:=k) (by omega)
 refine ac ?_
 refine cy h2 rfl (AA rfl underlying39 CT (vl rfl) (vl rfl) (by omega) (Ah hx)) ?_
 refine ac ?_
 refine cy h2 rfl (EB (Si) rfl rfl rfl) ?_
 refine ac ?_
 refine FO 0 3 5 18 rfl ?_
 refine Tr.cn rfl ?_ ?_<;>intro h3 q3
 have hq:=h3
 refine a2 ?_
 exact Fin.AP (k+1) ⟨⟨by omega,fun j y hj hy=>by rcases Nat.lt_or_ge j k with h_|h_;exact hinv j y h_ hy;(obtain rfl:j=k:=by omega);rw [hx] at hy;cases hy;exact hq⟩,by omega⟩ ⟨⟨_,rfl,AF k⟩,ke rfl,ke rfl,trivial⟩
 have hp:Cj l r=k:=RP BO hinv (fun y hy=>by rw [hx] at hy;cases hy;exact h3)
 refine Tr.exit (Fin.AU (Fin.AU (Fin.Am (Fin.AP () trivial ⟨⟨_,rfl,int_eq (by rw [hp])⟩,ke rfl,ke rfl,trivial⟩))))
 have hp:Cj l r=k:=RP BO hinv (fun y hy=>by have:=BR hy;have:=q2;omega)
 refine ac ?_
 refine FO 0 3 5 18 rfl (Tr.cond rfl (fun h=>nomatch h) (fun _=> ?_))
 refine Tr.exit (Fin.AU (Fin.AU (Fin.Am (Fin.AP () trivial ⟨⟨_,rfl,int_eq (by rw [hp])⟩,ke rfl,ke rfl,trivial⟩))))
 refine ag ?_ ?_<;>intro h4 q4
 obtain ⟨x2,hx2⟩:=at_ (l:=l) (k:=Cj l r) (by omega)
 refine ac ?_
 refine cy h4 rfl (AA rfl underlying39 CT (vl rfl) (vl rfl) (by omega) (Ah hx2)) ?_
 refine ac ?_
 refine cy h4 rfl (Xz rfl (vl rfl) (vl rfl)) ?_
 refine ac ?_
 refine FO 0 3 5 32 rfl ?_
 refine Tr.cn rfl ?_ ?_<;>intro h5 q5
 have hput:D_ l r=l:=if_pos (by rw [hx2];have h_:=q5;cases x2;cases r;simp_all)
 refine a2 ?_
 · rw [hput];exact Lr
 have hput:D_ l r=l.take (Cj l r)++[r]++l.drop (Cj l r):=if_neg (by rw [hx2];intro h_;cases h_;have h_:=q5;simp at h_)
 refine ac ?_
 refine ap ?_
 refine tp rfl (FT rfl underlying39 CT (vl rfl) (vl rfl) (by omega) (by omega)) (TO.pad ?_)
 refine TO.Es 0 rfl rfl (by decide) (Ia rfl rfl (by decide) rfl underlying39 CT O_ z49 rfl (by decide) ⟨_,rfl,AL _⟩ (vl rfl) (by simp only [List.length_map,List.length_append,List.length_cons,List.length_nil,List.length_take,List.length_drop];unfold maxLen;omega) (by simp only [List.length_map,List.length_append,List.length_cons,List.length_nil,List.length_take,List.length_drop];omega) (BV (by exact List.Mem.head _) ⟨_,rfl,ES 1⟩)) (fun v1=> ?_)
 refine ap ?_
 refine ap ?_
 refine TO.Es 0 rfl rfl (by decide) (Cg rfl rfl rfl rfl underlying39 CT O_ z49 (Kb rfl) (Kf rfl) (Bk (by exact List.Mem.head _) (Ka rfl))) (fun v2=> ?_)
 refine ap ?_
 refine O6 0 5 6 rfl ?_
 refine ap ?_
 refine tp rfl (Hq rfl underlying39 CT (vl rfl) (vl rfl) (by omega) (by omega)) ?_
 refine TO.Es 0 rfl rfl (by decide) (Cg rfl rfl rfl rfl underlying39 CT O_ z49 (Kb rfl) (vl rfl) (Bk (by exact List.Mem.head _) (Ka rfl))) (fun v3=> ?_)
 refine ap ?_
 refine ac ?_
 · refine Pr.le_trans (Aj _ _) (Pr.le_of_eq ?_);rw [hput];show _=slice 2 ((l.take (Cj l r)++[r]++l.drop (Cj l r)).map Iy);simp [List.map_take,List.map_drop]
 have hput:D_ l r=l.take (Cj l r)++[r]++l.drop (Cj l r):=if_neg (by rw [List.getElem?_eq_none (by have:=q4;omega)];simp)
 refine ac ?_
 refine FO 0 3 5 32 rfl ?_
 refine ac ?_
 refine ap ?_
 refine tp rfl (FT rfl underlying39 CT (vl rfl) (vl rfl) (by omega) (by omega)) (TO.pad ?_)
 refine TO.Es 0 rfl rfl (by decide) (Ia rfl rfl (by decide) rfl underlying39 CT O_ z49 rfl (by decide) ⟨_,rfl,AL _⟩ (vl rfl) (by simp only [List.length_map,List.length_append,List.length_cons,List.length_nil,List.length_take,List.length_drop];unfold maxLen;omega) (by simp only [List.length_map,List.length_append,List.length_cons,List.length_nil,List.length_take,List.length_drop];omega) (BV (by exact List.Mem.head _) ⟨_,rfl,ES 1⟩)) (fun v4=> ?_)
 refine ap ?_
 refine ap ?_
 refine TO.Es 0 rfl rfl (by decide) (Cg rfl rfl rfl rfl underlying39 CT O_ z49 (Kb rfl) (Kf rfl) (Bk (by exact List.Mem.head _) (Ka rfl))) (fun v5=> ?_)
 refine ap ?_
 refine O6 0 5 6 rfl ?_
 refine ap ?_
 refine tp rfl (Hq rfl underlying39 CT (vl rfl) (vl rfl) (by omega) (by omega)) ?_
 refine TO.Es 0 rfl rfl (by decide) (Cg rfl rfl rfl rfl underlying39 CT O_ z49 (Kb rfl) (vl rfl) (Bk (by exact List.Mem.head _) (Ka rfl))) (fun v6=> ?_)
 refine ap ?_
 refine ac ?_
 · refine Pr.le_trans (Aj _ _) (Pr.le_of_eq ?_);rw [hput];show _=slice 2 ((l.take (Cj l r)++[r]++l.drop (Cj l r)).map Iy);simp [List.map_take,List.map_drop]
theorem D5 (l:List BG):∀(a:List BG),(l.foldl D_ a).length≤a.length+l.length:=by
 induction l with
 |nil=>intro a;simp
 |cons x l ih=>intro a;have h1:=ih (D_ a x);have h2:=OL a x;simp only [List.foldl_cons,List.length_cons];omega
theorem Iz (l:List BG):∀{a:List BG},CW a=true→CW (l.foldl D_ a)=true:=by
 induction l with
 |nil=>intro a h;exact h
 |cons x l ih=>intro a h;exact ih (JO h)
theorem LR (l:List BG):∀{a:List BG} {x:BG},x∈l.foldl D_ a↔x∈a∨x∈l:=by
 induction l with
 |nil=>intro a x;simp
 |cons y l ih=>intro a x;rw [List.foldl_cons,ih,OM,List.mem_cons,or_comm (a:=x=y),or_assoc]
def K8 (a b:List BG):List BG:=b.foldl D_ (a.foldl D_ [])
theorem MA {β γ:Type} {f:γ→β→γ} {a:γ} {l:List β} {k:Nat} {x:β} (h:l[k]? =some x):(l.take (k+1)).foldl f a=f ((l.take k).foldl f a) x:=by rw [List.take_add_one,h,List.foldl_append];rfl
theorem Pz {a b:List BG} (ha:a.length≤100000) (hb:b.length≤100000):A7 prog 29 [reqs a,reqs b] (reqs (K8 a b)):=by
 refine fo func29 rfl ⟨rfl,rfl⟩ fun M0 w0=>(Tr.EF 0 rfl fun Fp=>(Tr.EF 1 rfl fun Ns=> ?_))
 refine a3 ?_
 refine Tr.block (Tr.BK [(1,_),(10,_),(11,_)] (LK rfl) (fun k:Nat=>[(12,int ((k:Nat):Int)),(5,reqs ((a.take k).foldl D_ []))]) (fun k:Nat=>k≤(a).length) (fun k:Nat=>(a).length-k) 0 (Nat.zero_le _) ⟨ke rfl,⟨_,rfl,AL 2⟩,trivial⟩ ?_)
 rintro k BO
 refine ac ?_
 refine Tr.seq ?_
 refine Tr.cn rfl ?_ ?_<;>intro h1 q1
 have Ad:k<(a).length:=AQ h1
 obtain ⟨x,Ac⟩:=at_ Ad
 have Qt:=D5 (a.take k) []
 rw [List.length_take] at Qt
 have bP:((a.take k).foldl D_ []).length≤1000000:=by simp at Qt;omega
 refine ac ?_
 refine Tr.seq (Tr.block (Tr.seq (Tr.Az (tp rfl (AA rfl underlying39 CT (vl rfl) (vl rfl) (by omega) (Ah Ac)) (tp rfl (AM rfl Gl CT (vl rfl) rfl rfl) ?_)))))
 refine Tl rfl rfl rfl rfl z49 MW (fun b1=> ?_)
 refine sf 0 7 ⟨rfl,rfl,rfl⟩ rfl rfl rfl rfl ?_
 refine ao ?_
 refine ac ?_
 refine co rfl (EB (OO bP) rfl rfl rfl) ?_
 refine ac ?_
 refine JD 1 5 10 11 12 rfl ?_
 refine ac ?_
 exact Fin.AP (k+1) ⟨Ad,by omega⟩ ⟨⟨_,rfl,AF k⟩,⟨_,rfl,Pr.le_of_eq (by rw [MA Ac])⟩,ke rfl,ke rfl,ke rfl,trivial⟩
 have BF:k=(a).length:=by have:=AR h1;omega
 subst BF
 rw [List.take_length]
 refine a2 ?_
 refine Tr.block (Tr.BK [(20,_),(21,_)] (cX rfl) (fun m:Nat=>[(22,int ((m:Nat):Int)),(5,reqs ((b.take m).foldl D_ (a.foldl D_ [])))]) (fun m:Nat=>m≤(b).length) (fun m:Nat=>(b).length-m) 0 (Nat.zero_le _) ⟨ke rfl,ke rfl,trivial⟩ ?_)
 rintro m U_
 refine ac ?_
 refine Tr.seq ?_
 refine Tr.cn rfl ?_ ?_<;>intro h2 q2
 have JZ:m<(b).length:=AQ h2
 obtain ⟨x,HJ⟩:=at_ JZ
 have Qt:=D5 (b.take m) (a.foldl D_ [])
 rw [List.length_take] at Qt
 have bP:((b.take m).foldl D_ (a.foldl D_ [])).length≤1000000:=by have:=D5 a [];simp at this;omega
 refine ac ?_
 refine Tr.seq (Tr.block (Tr.seq (Tr.Az (tp rfl (AA rfl underlying39 CT (vl rfl) (vl rfl) (by omega) (Ah HJ)) (tp rfl (AM rfl Gl CT (vl rfl) rfl rfl) ?_)))))
 refine Tl rfl rfl rfl rfl z49 MW (fun b2=> ?_)
 refine sf 0 9 ⟨rfl,rfl,rfl⟩ rfl rfl rfl rfl ?_
 refine ao ?_
 refine ac ?_
 refine co rfl (EB (OO bP) rfl rfl rfl) ?_
 refine ac ?_
 refine FO 5 20 21 22 rfl ?_
 refine ac ?_
 exact Fin.AP (m+1) ⟨JZ,by omega⟩ ⟨⟨_,rfl,AF m⟩,⟨_,rfl,Pr.le_of_eq (by rw [MA HJ])⟩,ke rfl,ke rfl,trivial⟩
 have Sc:m=(b).length:=by have:=AR h2;omega
 subst Sc
 rw [List.take_length]
 refine a3 ?_
 · exact Lr
end Go.Proofs.YtppdobdifkefcaaGreatDoor
namespace Cp
open Go Go.RowKit Go.Great
section
variable {P:Program} {L:Lg P} {n:Fm} {fz:Nat} {E:Env} {M0:Av} {w0:World} {S:Nat→Prop} {rs:List Aa} {o:Oper} {g:Func} {M1:Av} {w1:World}
theorem X1 {d j:Nat} {T:TypeId} {x:Operand} {ps:List Pr} (hg:o.guard=none) (hd:o.dst=some d) (hn:d<n) (ho:o.op= .box T x) (hx:VL E x (B0 ps)):
  Cd P M0 w0 S n j (SR.c BA) ⟨d,DZ T ps⟩ o E (Cp.ex fun b=>ptr b 0):=by
 refine ⟨hg,fun M w a rs Ib he hI hj=> ?_⟩
 obtain ⟨h0,h1⟩:=hx.ev (o:=o) he (by simp [ho,Op.operands])
 have hw:(a.eval x).cells.toList.toArray=(a.eval x).cells:=by simp
 have hrun:(execOp a.eval o).run P w= .ok (.value (.pointer (some ⟨w.heap.size,0,none⟩))) (w.alloc (.cells (a.eval x).cells.toList.toArray T)):=by simp [execOp,ho,Instr.box,newVar,newRow]
 rw [hrun]
 have hb:Below w.heap.size w (w.alloc (.cells (a.eval x).cells.toList.toArray T)):=(Below.refl _ _).alloc (Nat.le_refl _) _
 have h2:=Ext.below (M:=M) hb
 have Co:Ext M w (fun b o=>M b o∨b=w.heap.size) (w.alloc (.cells (a.eval x).cells.toList.toArray T)):=by
  refine ⟨h2.size,fun a v hc hm=>⟨fun hx=> ?_,(h2.keep a v hc hm).2⟩,fun b o ho hp hm=>⟨fun hx=> ?_,(h2.obj b o ho hp hm).2⟩⟩
  ·
   rcases hx with hx|hx
   · exact hm hx
   · have:=CN hc;omega
  ·
   rcases hx with hx|hx
   · exact hm hx
   · subst hx;simp at ho
 have hs1:(w.alloc (.cells (a.eval x).cells.toList.toArray T)).heap.size=w.heap.size+1:=by simp
 have hat:(SR.at_ (a.put o.dst (.pointer (some ⟨w.heap.size,0,none⟩))) ⟨d,DZ T ps⟩)=AB true w.heap.size T ps:=by unfold SR.at_ Slot.val;dsimp only;rw [hd,A8 (by rw [Ib];exact hn)];rfl
 refine ⟨fun b o=>M b o∨b=w.heap.size,⟨_,rfl⟩,Co,?_⟩
 rw [hat]
 refine hI.replace hj Co hb.os hb.tape hb.output (fun k hk _=>hb.block k hk) rfl (fun b o hm _=> .inl hm) (fun b o hx=> ?_) ?_ rfl (fun b hbk=> ?_)
 ·
  rcases hx with hx|hx
  · have:=hI.bd _ _ hx;omega
  · omega
 · refine ⟨fun o=> .inr rfl,(a.eval x).cells.toList,heap_alloc_new w _,h0.st Co,h1⟩
 ·
  have Cr:some w.heap.size=some b:=hbk
  injection Cr with e1
  subst e1
  exact ⟨by rw [hs1];omega,.inr (Nat.le_refl _)⟩
end
section
variable {P:Program} {L:Lg P} {n:Fm} {fz:Nat} {E:Env} {M0:Av} {w0:World} {S:Nat→Prop} {rs:List Aa}
end
end Cp
namespace Cp
open Go Go.RowKit
abbrev B_ (ρ:Option Nat):Fence:={ Fence.wide with round:=ρ }
section
variable {P:Program} {ρ:Option Nat}
def Gt (o:Oper):Bool:=match o.op with
 | .defer _=>false
 |_=>true
theorem RQ {o:Oper} {a:Act} {w:World} {K K':Act→World→Prop} {Q:Exit→Act→World→Prop} (hc:Gt o=true) (hK:∀a w,K a w→K' a w) (h:o.wp P a w K Q):o.wpIn (B_ ρ) 0 P a w K' Q:=by
 refine ⟨fun _ _=>trivial,?_⟩
 rw [Oper.semAt_eq _ _ _ (fun c hh=>by unfold Gt at hc;rw [hh] at hc;cases hc)]
 unfold Oper.wp at h
 generalize (execOp a.eval o).run P w=r at h ⊢
 cases r with
 |halt x w'=>cases x<;>first|exact h|exact h.elim
 |ok x w'=>
  cases x<;>first|exact h.elim|skip
  case value v=>exact hK _ _ h
  case skip=>exact hK _ _ h
  case defer d=>exact hK _ _ h
  case enter f args=>exact ⟨fun hh=>(by cases hh),callsIn_wide.2 (h.mono fun e w'' hr=>by cases e<;>first|exact hK _ _ hr|exact hr)⟩
  case row row args=>
   refine ⟨fun hh=>(by cases hh),fun c cs _=> ?_⟩
   obtain ⟨v,w2,h1,h2⟩:=h c cs
   exact ⟨v,w2,hK _ _ h1,stepsIn_wide.2 h2⟩
theorem VK {ops:Array Oper} {Q:Exit→Act→World→Prop} (hc:∀(i:Nat) o,ops[i]? =some o→Gt o=true):∀(l:List Nat) (a:Act) (w:World),wpS P ops Q l a w→wpOpsIn (B_ ρ) 0 P ops Q l a w
 |[],_,_,h=>h
 |i::l,a,w,h=>by
  have ih:=VK (Q:=Q) hc l
  unfold wpS at h
  unfold wpOpsIn
  cases ho:ops[i]? with
  |none=>rw [ho] at h;exact ih a w h
  |some o=>
   rw [ho] at h
   dsimp only at h ⊢
   split
   next hw=>rw [if_pos hw] at h;exact RQ (hc i o ho) ih h
   next hw=>rw [if_neg hw] at h;exact ⟨fun _ _=>trivial,ih _ _ h⟩
theorem bQ {ops:Array Oper} {Q:Exit→Act→World→Prop} (hc:∀(i:Nat) o,ops[i]? =some o→Gt o=true) {i:Nat} {K K':Act→World→Prop} {a:Act} {w:World} (hK:∀a w,K a w→K' a w) (h:Jt P ops Q i K a w):wpOpIn (B_ ρ) 0 P ops Q i K' a w:=by
 unfold Jt at h
 unfold wpOpIn
 cases ho:ops[i]? with
 |none=>rw [ho] at h;exact hK _ _ h
 |some o=>
  rw [ho] at h
  dsimp only at h ⊢
  split
  next hw=>rw [if_pos hw] at h;exact RQ (hc i o ho) hK h
  next hw=>rw [if_neg hw] at h;exact ⟨fun _ _=>trivial,hK _ _ h⟩
theorem VM {ops:Array Oper} {md:Region.Mode} {Q:Exit→Act→World→Prop} (hc:∀(i:Nat) o,ops[i]? =some o→Gt o=true):∀(fuel:Nat) (listed:Array Bool) (a:Act) (w:World),Gu P md ops Q fuel listed a w→wpAnyIn (B_ ρ) 0 P md ops Q fuel listed a w
 |0,_,_,_,h=>h
 |fuel+1,_,_,_,h=>⟨h.1,fun i hi=>bQ hc (VM hc fuel _) (h.2 i hi)⟩
theorem X2 {l:List Oper} (hc:calm l=true):∀(i:Nat) o,l.toArray[i]? =some o→Gt o=true:=fun i o ho=>by
 have hm:o∈l:=List.mem_of_getElem? (by simpa using ho)
 have:=List.all_eq_true.1 hc o hm
 unfold Gt;revert this;cases o.op<;>simp
theorem X3 {c:Code} {Q:Exit→Act→World→Prop} {α:Type} (μ:α→Nat) (R:α→Act→World→Prop) (round:∀x a w,R x a w→c.wpIn (B_ ρ) 0 P (Exit.then (fun a' w'=>∃y,μ y<μ x∧R y a' w') Q) a w) (x:α) (a:Act) (w:World) (hx:R x a w):(Code.loop c).wpIn (B_ ρ) 0 P Q a w:=by
 intro b k cs hro hb hr
 have key:∀m x a w,μ x=m→R x a w→∃e a' w',Q e a' w'∧ArrivesIn (Machine.fenced P (B_ ρ)) P (lone (b.atR a (.code c:: .inLoop c::k)) cs w) b k cs e a' w':=by
  intro m
  induction m using Nat.strongRecOn with
  |_ m ih=>
   intro x a w hm hx
   obtain ⟨e,a₁,w₁,hq,E5⟩:=round x a w hx b (.inLoop c::k) cs hro hb hr
   cases e with
   |normal=>
    obtain ⟨y,hlt,hy⟩:=hq
    obtain ⟨e₂,a₂,w₂,S9,MH⟩:=ih (μ y) (hm ▸ hlt) y a₁ w₁ rfl hy
    exact ⟨e₂,a₂,w₂,S9,.of_steps (StepsIn.trans E5 (.one (fenced_calm hb hr rfl) stepR_inLoop)) MH⟩
   |exit id=>exact ⟨_,a₁,w₁,hq,.pass (x:= .inLoop c) rfl (fun _ _=> .inl (by simp)) E5⟩
   |goto l=>exact ⟨_,a₁,w₁,hq,.pass (x:= .inLoop c) rfl (fun _ _=> .inl (by simp)) E5⟩
   |ret=>exact ⟨_,a₁,w₁,hq,.pass (x:= .inLoop c) rfl (fun _ _=> .inl (by simp)) E5⟩
   |panic ch=>exact ⟨_,a₁,w₁,hq,.pass (x:= .inLoop c) rfl (fun _ _=> .inl (by simp)) E5⟩
   |outgrown=>exact ⟨_,a₁,w₁,hq,.pass (x:= .inLoop c) rfl (fun _ _=> .inl (by simp)) E5⟩
 obtain ⟨e,a',w',hq,E5⟩:=key _ x a w rfl hx
 exact ⟨e,a',w',hq,.of_steps (.one (fenced_calm hb hr rfl) stepR_loop) E5⟩
@[reducible] def WC (P:Program) (ρ:Option Nat):Lg P where
 wp c Q a w:=c.wpIn (B_ ρ) 0 P Q a w
 mono hq h:=wpIn_mono h hq
 skip h:=wpIn_skip h
 ret h:=wpIn_ret h
 exit h:=wpIn_exit h
 seq h:=wpIn_seq h
 block h:=wpIn_block h
 cond hc ht hf:=wpIn_cond_split hc ht hf
 loop:=X3
 region {id l Q a w} hc h:=wpIn_region (VK (fun i o ho=>by
  have hm:o∈l:=List.mem_of_getElem? (by simpa using ho)
  have:=List.all_eq_true.1 hc o hm
  unfold Gt;revert this;cases o.op<;>simp) _ _ _ (by simpa [List.range_eq_range'] using h))
 draw hc hm h:=wpIn_region_any hm (VM (X2 hc) _ _ _ _ h)
end
end Cp
namespace Cp
open Go Go.RowKit Go.Great
section
variable {P:Program} {L:Lg P} {n:Fm} {fz:Nat} {E:Env} {M0:Av} {w0:World} {S:Nat→Prop} {rs:List Aa} {o:Oper}
end
end Cp
namespace Cp
open Go Go.RowKit
theorem Bi.Rt {M:Av} {w:World} {E:Env} {o:Oper} {a:Act} (s:Nat) {α:Type} {f:α→Pr} (hs:E.lookup s=some (Cp.ex f)) (hm:s∈looks o) (he:Bi M w E o a):∃x,Bi M w ((s,f x)::E) o a:=by
 obtain ⟨x,hx⟩:=he s _ hm hs
 refine ⟨x,fun t q ht hq=> ?_⟩
 simp only [List.lookup] at hq
 by_cases hts:t=s
 · subst hts;simp at hq;subst hq;exact hx
 · rw [show (t==s)=false by simpa using hts] at hq;exact he t q ht hq
section
variable {P:Program} {M0:Av} {w0:World} {S:Nat→Prop} {n:Fm} {j:Nat} {R R':SR} {E:Env} {o:Oper}
theorem Cd.Rt {p:Pr} (s:Nat) {α:Type} {f:α→Pr} (hg:o.guard=none) (hs:E.lookup s=some (Cp.ex f)) (hm:s∈looks o) (h:∀x,Cd P M0 w0 S n j R R' o ((s,f x)::E) p):Cd P M0 w0 S n j R R' o E p:=
 ⟨hg,fun M w a rs hsz he hI hj=>by obtain ⟨x,hx⟩:=he.Rt s hs hm;exact (h x).2 M w a rs hsz hx hI hj⟩
theorem Cd.le {p q:Pr} (h:Cd P M0 w0 S n j R R' o E p) (hl:Pr.le p q):Cd P M0 w0 S n j R R' o E q:=by
 refine ⟨h.1,fun M w a rs hsz he hI hj=> ?_⟩
 have this:=h.2 M w a rs hsz he hI hj
 generalize (execOp a.eval o).run P w=r at this ⊢
 unfold DL at this
 split at this
 · obtain ⟨M',h1,h2,h3⟩:=this;exact ⟨M',hl _ _ _ h1,h2,h3⟩
 · obtain ⟨M',h1,h2,h3⟩:=this;exact ⟨M',hl _ _ _ h1,h2,h3⟩
 · exact Calls.mono this fun _ _ ⟨v,M',h0,h1,h2,h3⟩=>⟨v,M',h0,hl _ _ _ h1,h2,h3⟩
 · exact this.elim
end
theorem VN {z:Array Value} {n:Nat} {u:Value} (h0:0<z.size) (h:u∈(madeCells z n).toList):u∈z.toList:=by
 simp only [madeCells,Array.toList_map,List.mem_map] at h
 obtain ⟨k,_,rfl⟩:=h
 have hk:k % z.size<z.size:=Nat.mod_lt _ h0
 rw [getElem!_pos z _ hk]
 exact Array.getElem_mem_toList hk
theorem X4 {z:Array Value} {m sz i j:Nat} {u:Value} (hz:z.size=sz) (hi:i<m) (hu:z.toList[j]? =some u):(madeCells z (m*sz)).toList[i*sz+j]? =some u:=by
 have hjl:j<sz:=by
  rcases Nat.lt_or_ge j sz with h|h
  · exact h
  · rw [List.getElem?_eq_none (by simp;omega)] at hu;cases hu
 have hlt:i*sz+j<m*sz:=by
  have:(i+1)*sz≤m*sz:=Nat.mul_le_mul_right sz hi
  rw [Nat.add_mul] at this;omega
 have hmod:(i*sz+j) % sz=j:=by rw [Nat.mul_comm,Nat.mul_add_mod,Nat.mod_eq_of_lt hjl]
 have hjz:j<z.size:=by omega
 rw [Array.getElem?_toList] at hu ⊢
 rw [Array.getElem?_eq_getElem hjz] at hu
 simp only [madeCells]
 rw [Array.getElem?_map,Array.getElem?_range,if_pos hlt,Option.map_some,hz,hmod,getElem!_pos z _ hjz,hu]
theorem OP {P:Program} {I:Bn} {E:Env} {o:Oper} {t e:TypeId} {x y:Operand} {sz Y8 m:Nat} {zs:List Value} (ho:o.op= .makeSlice t x y) (ht:P.underlying t=some (.slice e)) (hz:Af P e=some sz) (hby:BZ P e=some Y8) (DO:Ax P e=some zs) (hzl:zs.length=sz) (hsz:0<sz)
  (h1:zs.all (·.oneCell')=true) (hx:VL E x (int ((m:Nat):Int))) (hy:VL E y (int ((m:Nat):Int))) (hm:m≤maxLen) (hb:Y8*m≤281474976710656):AH P I o E (full sz (List.replicate m (zs.map is))):=
 AH.val fun M w a he hI=>by
  have hx1:a.eval x= .int .i64 m:=hx.ev he (by simp [ho,Op.operands])
  have hy1:a.eval y= .int .i64 m:=hy.ev he (by simp [ho,Op.operands])
  unfold Af at hz
  unfold BZ at hby
  unfold Ax at DO
  cases hi:P.info? e with
  |none=>rw [hi] at hz;cases hz
  |some i=>
   rw [hi] at hz hby DO
   simp only [Option.map_some,Option.some.injEq,Option.map_eq_some_iff] at hz hby DO
   obtain ⟨z,Qf,DO⟩:=DO
   have TN:z.cells.size=sz:=by rw [←hzl,←DO];simp
   have hrun:=run_make (P:=P) w t e i z ht hi Qf .i64 .i64 (m:Int) (m:Int) (by omega) (Int.le_refl _) (by rw [hby];have h0:((Y8*m:Nat):Int)≤281474976710656:=Int.ofNat_le.2 hb;rw [←Int.natCast_mul];exact h0) (by unfold maxLen at hm;omega)
   rw [hz] at hrun
   simp only [Int.toNat_natCast] at hrun
   have VO:Below w.heap.size w (w.alloc (.cells (madeCells z.cells (m*sz)) e)):=(Below.refl _ _).alloc (Nat.le_refl _) _
   have hrl:(List.replicate m (zs.map is)).length=m:=List.length_replicate
   have hfl:Flat M w sz (List.replicate m (zs.map is)) (madeCells z.cells (m*sz)).toList:=by
    refine ⟨by rw [hrl];simp [size_madeCells],fun u hu=>List.all_eq_true.1 h1 _ (by rw [←DO];exact VN (by omega) hu),fun k row hr=> ?_⟩
    have hk:k<m:=by have:=BR hr;omega
    obtain rfl:row=zs.map is:=List.eq_of_mem_replicate (List.mem_of_getElem? hr)
    refine ⟨by simp [hzl],fun j p hp=> ?_⟩
    rw [List.getElem?_map,Option.map_eq_some_iff] at hp
    obtain ⟨u,hu,rfl⟩:=hp
    exact ⟨u,X4 TN hk (by rw [DO];exact hu),rfl⟩
   refine ⟨.slice (some ⟨w.heap.size,0,none⟩) m m,w.alloc (.cells (madeCells z.cells (m*sz)) e),by simp [execOp,ho,hx1,hy1,hrun],?_,VO⟩
   have hsl:=DB (hfl.st (Ext.below VO)) (c:=m) (Nat.le_of_eq hrl) hm (g:=w.heap.size) (fun k u hk=>⟨by rw [J0];simpa using hk,fun hx=>by have:=I.bd _ _ hI _ _ hx;omega⟩)
   rw [hrl] at hsl
   exact ⟨hsl,_,by rw [hrl]⟩
section
variable {P:Program} {L:Lg P} {n:Fm} {E:Env} {M0:Av} {w0:World} {S:Nat→Prop} {rs:List Aa}
theorem Fin.KZ {Q:Exit→Act→World→Prop} {x:Exit} (i j k:Nat) {sz b:Nat} {new:Bool} {T e:TypeId} {ps:List Pr} {rows:List (List Pr)} {v:Value} {p:Pr} (hi:rs[i]? =some (AB new b T ps)) (hj:rs[j]? =some (Bl e sz rows v)) (hij:j≠i) (hk:ps[k]? =some p) (hp:Pr.le p (is v)) (hl:∀r∈rows,r.length=sz)
  (kk:Fin n E (Hp M0 w0 S ((rs.set j BA).set i (AB new b T (ps.set k (slice sz rows))))) Q x):Fin n E (Hp M0 w0 S rs) Q x:=Fin.conv (fun _ _ hs=>hs.KZ hi hj hij hk hp hl) kk
end
section
variable {P:Program} {M0:Av} {w0:World} {S:Nat→Prop} {rs:List Aa}
def Ak (b:Nat) (x:Obj):Aa where
 blk:=some b
 new:=true
 h M w:=(∀o,M b o)∧w.heap[b]? =some x
 st M w M' w' _ hk h:=by
  obtain ⟨h1,h2⟩:=hk b rfl
  exact ⟨fun o=>h2 o (h.1 o),h1.trans h.2⟩
theorem An.VP {M:Av} {w:World} (h:An M0 w0 S rs M w) (x:Obj):
  An M0 w0 S (Ak w.heap.size x::rs) (fun b o=>M b o∨b=w.heap.size) (w.alloc x)∧Ext M w (fun b o=>M b o∨b=w.heap.size) (w.alloc x):=by
 have hb:Below w.heap.size w (w.alloc x):=(Below.refl _ _).alloc (Nat.le_refl _) _
 have hsz:(w.alloc x).heap.size=w.heap.size+1:=by simp
 have he:Ext M w (fun b o=>M b o∨b=w.heap.size) (w.alloc x):=by
  have h2:=Ext.below (M:=M) hb
  refine ⟨h2.size,fun a v hc hm=>⟨fun hx=> ?_,(h2.keep a v hc hm).2⟩,fun b o ho hp hm=>⟨fun hx=> ?_,(h2.obj b o ho hp hm).2⟩⟩
  ·
   rcases hx with hx|hx
   · exact hm hx
   · have:=CN hc;omega
  ·
   rcases hx with hx|hx
   · exact hm hx
   · subst hx;simp at ho
 have hI:=(Hp M0 w0 S rs).st _ _ _ hb h
 refine ⟨⟨hI.m0,fun b o hm=> .inl (hI.m b o hm),hI.os,hI.tape,hI.output,hI.size,hI.block,fun b o hm=> ?_,fun r hr=> ?_,?_⟩,he⟩
 ·
  rcases hm with hm|hm
  · exact hI.bd b o hm
  · omega
 ·
  rcases List.mem_cons.1 hr with rfl|hr
  ·
   refine ⟨⟨fun o=> .inr rfl,heap_alloc_new w _⟩,fun b hbk=> ?_⟩
   simp only [Ak,Option.some.injEq] at hbk
   subst hbk
   exact ⟨by omega,by simp [Ak];exact h.size⟩
  ·
   obtain ⟨h3,h4⟩:=h.hold r hr
   exact ⟨r.st _ _ _ _ he (fun b hbk=>⟨hb.block b (h4 b hbk).1,fun _ x=> .inl x⟩) h3,fun b hbk=>⟨by have:=(h4 b hbk).1;omega,(h4 b hbk).2⟩⟩
 ·
  refine List.pairwise_cons.2 ⟨fun r hr b NA Ow=> ?_,hI.nd⟩
  simp only [Ak,Option.some.injEq] at NA
  subst NA
  have:=((h.hold r hr).2 _ Ow).1
  omega
theorem An.putObj {M:Av} {w:World} {j b:Nat} {x:Obj} (y:Obj) (h:An M0 w0 S rs M w) (hj:rs[j]? =some (Ak b x)):An M0 w0 S (rs.set j (Ak b y)) M (w.putObj b y)∧Ext M w M (w.putObj b y):=by
 obtain ⟨⟨hM,hx⟩,hbk⟩:=h.hold _ (List.mem_of_getElem? hj)
 have hlt:b<w.heap.size:=(hbk b rfl).1
 have hsz:(w.putObj b y).heap.size=w.heap.size:=by simp [World.putObj]
 have he:Ext M w M (w.putObj b y):=by
  refine ⟨by omega,fun a v hc hm=>⟨hm,?_⟩,fun k o ho _ hm=>⟨hm,?_⟩⟩
  ·
   have hne:a.block≠b:=fun e=>hm (e ▸ hM _)
   rw [World.cell?_of_block (w:=w) (World.putObj_heap_other hne)];exact hc
  ·
   have hne:k≠b:=fun e=>hm (e ▸ hM _)
   exact (World.putObj_heap_other hne).trans ho
 refine ⟨h.replace hj he rfl rfl rfl (fun k _ hne=>World.putObj_heap_other (fun e=>hne (by rw [e];rfl))) rfl (fun _ _ hm _=>hm) (fun b' o hm=>by have:=h.bd b' o hm;omega) ⟨hM,World.putObj_heap_same hlt⟩ rfl (fun b' hb'=>⟨?_,.inl hb'⟩),he⟩
 simp only [Ak,Option.some.injEq] at hb'
 subst hb';omega
end
def K9 (P:Program) (gf:Nat) (lb:Array Value) {α:Type} (enc:α→Value) (xs:List α) (own:List α→List Aa):Prop:=
 ∀M0 w0 S (l:Nat) (β:Type) (R Rx:List α→β→List Aa),
  (∀pre x d M w,(pre++[x])<+:xs→An M0 w0 S (own (pre++[x])++R pre d) M w→YieldAt (B_ none) 0 P l #[enc x] w fun e w'=>∃M' d',Ext M w M' w'∧
   ((e= .returned (.bool true)∧An M0 w0 S (own (pre++[x])++R (pre++[x]) d') M' w')∨(e= .returned (.bool false)∧An M0 w0 S (own (pre++[x])++Rx (pre++[x]) d') M' w')))→
  ∀d M w,An M0 w0 S (own []++R [] d) M w→CallsIn (B_ none) 0 P gf (#[.func (.yield l) #[] #[]]++lb) w fun e w'=>(∃v,e= .returned v)∧∃M' d',Ext M w M' w'∧
   (An M0 w0 S (own xs++R xs d') M' w'∨∃pre,pre<+:xs∧An M0 w0 S (own pre++Rx pre d') M' w')
def Jo (M0:Av) (w0:World) (S:Nat→Prop) {β:Type} (rs:β→List Aa) (rx:Code→β→List Aa):Exit→Act→World→Prop
 | .normal,_,w=>∃d M,An M0 w0 S (rs d) M w
 | .ret,_,w=>∃d M,An M0 w0 S (rx .ret d) M w
 | .exit id,_,w=>∃d M,An M0 w0 S (rx (.exit id) d) M w
 | .goto t,_,w=>∃d M,An M0 w0 S (rx (.goto t) d) M w
 | .panic _,_,_=>False
 | .outgrown,_,_=>False
section
variable {P:Program} {M0:Av} {w0:World} {S:Nat→Prop} {rs:List Aa}
theorem Tr.range {Q:Exit→Act→World→Prop} {n:Fm} {E:Env} {α β:Type} {p gf:Nat} {g:Operand} {lb:Array Value} {enc:α→Value} {xs:List α} {own:List α→List Aa} {assign body:Code} (E':α→Env) (R:List α→β→List Aa) (Rx:Code→List α→β→List Aa) (d0:β)
  (jQ:K9 P gf lb enc xs own) (eg:∀args w,(callFunc gf args).run P w= .ok (.enter gf args) w) (hg:VL E g (is (.func (.func gf) #[] lb))) (jR:rs.Perm (own []++R [] d0))
  (hassign:∀l D rec M1 w1 pre x d,(pre++[x])<+:xs→∀a,a.tmps.size=n.sz→DT M1 w1 E a→∀M w,An M0 w0 S (own (pre++[x])++(Ak l rec::Ak D (.deferred (some []))::AX M1 w1::R pre d)) M w→
   assign.wpIn (B_ (some l)) 0 P (Exit.then (St ⟨n.sz,[]⟩ (E' x) (Hp M0 w0 S (own (pre++[x])++(Ak l rec::Ak D (.deferred (some []))::AX M1 w1::R pre d)))) (fun _ _ _=>False)) { tmps:=a.tmps.setIfInBounds p (enc x),defers:=[] } w)
  (hbody : ∀ l D rec M1 w1 pre x d, (pre ++ [x]) <+: xs → Tr (WC P (some l)) ⟨n.sz, []⟩ (E' x) (Hp M0 w0 S (own (pre ++ [x]) ++ (Ak l rec :: Ak D (.deferred (some [])) :: AX M1 w1 :: R pre d))) body
   (Jo M0 w0 S (fun d=>own (pre++[x])++(Ak l rec::Ak D (.deferred (some []))::AX M1 w1::R (pre++[x]) d)) (fun c d=>own (pre++[x])++(Ak l rec::Ak D (.deferred (some []))::AX M1 w1::Rx c (pre++[x]) d))))
  (hdone:∀l D rec M1 w1 d,Fin ⟨n.sz,{ target:= .collected D,args:= #[] }::n.df⟩ E (Hp M0 w0 S (own xs++(Ak l rec::Ak D (.deferred (some []))::AX M1 w1::R xs d))) Q .normal)
  (hstop:∀l D rec M1 w1 c pre d,pre<+:xs→Tr (WC P none) ⟨n.sz,{ target:= .collected D,args:= #[] }::n.df⟩ E (Hp M0 w0 S (own pre++(Ak l rec::Ak D (.deferred (some []))::AX M1 w1::Rx c pre d))) c Q):
  Tr (WC P none) n E (Hp M0 w0 S rs) (.rangeFunc g #[p] assign body) Q:=by
 intro a w ⟨M,hsz,hdf,hE,hI⟩
 have hI:An M0 w0 S rs M w:=hI
 refine wpIn_rangeFunc ?_
 intro fn hfn
 obtain ⟨rec,P0⟩:∃rec:LoopState→Option Code→Loop,rec=fun st pe=>{ state:=st,pending:=pe,fn,tmps:=a.tmps,params:= #[p],assign,body,defers:=w.heap.size }:=⟨_,rfl⟩
 -- what is held ahead of the call
 have jS:=An.perm jR hI
 obtain ⟨dw,e3⟩:=jS.VP (.deferred (some []))
 obtain ⟨Y9,e4⟩:=dw.VP (.loop (rec .ready none))
 obtain ⟨W1,hW1⟩:∃W1,(w.alloc (.deferred (some []))).alloc (.loop (rec .ready none))=W1:=⟨_,rfl⟩
 have hs1:(w.alloc (.deferred (some []))).heap.size=w.heap.size+1:=by simp
 rw [hW1,hs1] at Y9 e4
 obtain ⟨M1,hM1⟩:∃M1:Av,M1=(fun b o=>(M b o∨b=w.heap.size)∨b=w.heap.size+1):=⟨_,rfl⟩
 rw [←hM1] at Y9 e4
 have e1:Ext M w M1 W1:=e3.trans e4
 obtain ⟨l,hl⟩:∃l,l=w.heap.size+1:=⟨_,rfl⟩
 obtain ⟨D,hD⟩:∃D,D=w.heap.size:=⟨_,rfl⟩
 rw [←hl] at Y9
 rw [←hD] at Y9
 have hE1:DT M1 W1 E a:=fun s q hq=>q.st _ _ _ _ _ e1 (hE s q hq)
 have hI5:An M0 w0 S (own []++(Ak l (.loop (rec .ready none))::Ak D (.deferred (some []))::AX M1 W1::R [] d0)) M1 W1:=by
  refine An.perm ?_ (An.Gz Y9 (r:=AX M1 W1) rfl (Ext.refl _ _))
  refine List.Perm.trans (l₂:=(Ak l (.loop (rec .ready none))::Ak D (.deferred (some []))::AX M1 W1::R [] d0)++own []) ?_ List.perm_append_comm
  refine (List.Perm.swap _ _ _).trans (List.Perm.cons _ ((List.Perm.swap _ _ _).trans (List.Perm.cons _ (List.Perm.cons _ List.perm_append_comm))))
 have ix:∀(os:List Aa) (r:Aa) (tl:List Aa),(os++r::tl)[os.length]? =some r:=fun os r tl=>by simp
 have sx:∀(os:List Aa) (r r':Aa) (tl:List Aa),(os++r::tl).set os.length r'=os++r'::tl:=fun os r r' tl=>by simp
 have ix2:∀(os:List Aa) (r1 r2 r:Aa) (tl:List Aa),(os++r1::r2::r::tl)[os.length+2]? =some r:=fun os r1 r2 r tl=>by
  rw [List.getElem?_append_right (by omega)];simp
 have sx2:∀(os:List Aa) (r1 r2 r r':Aa) (tl:List Aa),(os++r1::r2::r::tl).set (os.length+2) r'=os++r1::r2::r'::tl:=fun os r1 r2 r r' tl=>by
  rw [List.set_append_right _ _ (by omega)];simp
 have pM:=hdone;have pN:=hstop
 refine ⟨l,[{ target:= .collected D,args:= #[] }],W1,{ target:= .fn (.func gf) lb,args:= #[.func (.yield l) #[] #[]] },W1,gf,#[.func (.yield l) #[] #[]]++lb,W1,?_,?_,fun _ _=>trivial,?_,fun h=>(by cases h),?_⟩
 · rw [hl,hD,←hW1,P0];exact run_enterLoop_outer _ _ _ _ _
 ·
  have hv:a.eval g= .func (.func gf) #[] lb:=by
   obtain ⟨q,h1,h2⟩:=hg
   exact h2 _ _ _ (CB.eval hE h1)
  simp only [resolve,hv]
  simp [go_sem]
 · simp [invoke,go_sem,eg]
 ·
  refine (jQ M0 w0 S l (Code × β) (fun pre cd => Ak l (.loop (rec .ready none)) :: Ak D (.deferred (some [])) :: AX M1 W1 :: R pre cd.2)
   (fun pre cd=>Ak l (.loop (rec .done (some cd.1)))::Ak D (.deferred (some []))::AX M1 W1::Rx cd.1 pre cd.2) ?_ (.skip,d0) M1 W1 hI5).mono ?_
  ·
   rintro pre x ⟨c0,d⟩ M2 W2 hpre hI
   have lC:W2.heap[l]? =some (.loop (rec .ready none)):=(hI.hold (Ak l (.loop (rec .ready none))) (by simp)).1.2
   have hx2:Ext M1 W1 M2 W2:=(hI.hold (AX M1 W1) (by simp)).1
   have hy:=run_yield (P:=P) (args:= #[enc x]) lC (by rw [P0];rfl)
   have NC:An M0 w0 S (own (pre++[x])++(Ak l (.loop (rec .ready none))::Ak D (.deferred (some []))::AX M2 W2::R pre d)) M2 W2:=by
    have:=hI.CI (r':=AX M2 W2) (ix2 _ _ _ _ _) rfl rfl (Ext.refl _ _)
    rwa [sx2] at this
   have jT:(Instr.yield l #[enc x]).run P W2= .ok (.round l fn (a.tmps.setIfInBounds p (enc x)) assign body) W2:=by
    rw [hy,P0];simp
   have ha:=hassign l D _ M2 W2 pre x d hpre a hsz (fun s q hq=>q.st _ _ _ _ _ hx2 (hE1 s q hq)) M2 W2 NC
   refine ⟨fn,_,assign,body,jT,roundIn_of_wpIn (F:=B_ none) trivial (wpIn_mono (F:=(B_ none).inRound l) ha ?_)⟩
   intro e a3 W3 hq
   cases e with
   |normal=>
    obtain ⟨M3,hs3,hd3,hE3,dw⟩:=hq
    have dw:An M0 w0 S (own (pre++[x])++(Ak l (.loop (rec .ready none))::Ak D (.deferred (some []))::AX M2 W2::R pre d)) M3 W3:=dw
    have hl3:W3.heap[l]? =some (.loop (rec .ready none)):=(dw.hold (Ak l (.loop (rec .ready none))) (by simp)).1.2
    obtain ⟨Y9,e4⟩:=dw.putObj (.loop { rec .ready none with state:= .busy }) (ix _ _ _)
    rw [sx] at Y9
    refine ⟨_,run_beginRound hl3 (by rw [P0]),?_⟩
    refine wpIn_mono (F:=(B_ none).inRound l) (hbody l D _ M2 W2 pre x d hpre a3 _ ⟨M3,hs3,hd3,fun s q hq=>q.st _ _ _ _ _ e4 (hE3 s q hq),Y9⟩) ?_
    have fin:∀(jump:Option Code) (tl:List Aa) (W5:World) (M5:Av),An M0 w0 S (own (pre++[x])++(Ak l (.loop { rec .ready none with state:= .busy })::Ak D (.deferred (some []))::AX M2 W2::tl)) M5 W5→
      ∃w6,(Instr.endRound l jump).run P W5= .ok (.bool jump.isNone) w6∧Ext M2 W2 M5 w6∧An M0 w0 S (own (pre++[x])++(Ak l (.loop (rec (if jump.isNone then .ready else .done) jump))::Ak D (.deferred (some []))::AX M1 W1::tl)) M5 w6:=by
     intro jump tl W5 M5 h5
     have hl5:W5.heap[l]? =some (.loop { rec .ready none with state:= .busy }):=(h5.hold (Ak l (.loop { rec .ready none with state:= .busy })) (by simp)).1.2
     have hx5:Ext M2 W2 M5 W5:=(h5.hold (AX M2 W2) (by simp)).1
     obtain ⟨h6,e6⟩:=h5.putObj (.loop { rec .ready none with state:=if jump.isNone then .ready else .done,pending:=jump }) (ix _ _ _)
     rw [sx] at h6
     have h7:=h6.CI (r':=AX M1 W1) (ix2 _ _ _ _ _) rfl rfl (hx2.trans (hx5.trans e6))
     rw [sx2] at h7
     refine ⟨_,run_endRound jump hl5,hx5.trans e6,?_⟩
     rw [P0] at h7 ⊢
     exact h7
    intro e5 a5 W5 hp
    cases e5 with
    |normal=>
     obtain ⟨d5,M5,h5⟩:=hp
     obtain ⟨w6,g1,g2,g3⟩:=fin none _ _ _ h5
     exact ⟨_,_,g1,M5,(.skip,d5),g2,.inl ⟨rfl,g3⟩⟩
    |ret=>
     obtain ⟨d5,M5,h5⟩:=hp
     obtain ⟨w6,g1,g2,g3⟩:=fin (some .ret) _ _ _ h5
     exact ⟨_,_,g1,M5,(.ret,d5),g2,.inr ⟨rfl,g3⟩⟩
    |exit id=>
     obtain ⟨d5,M5,h5⟩:=hp
     obtain ⟨w6,g1,g2,g3⟩:=fin (some (.exit id)) _ _ _ h5
     exact ⟨_,_,g1,M5,(.exit id,d5),g2,.inr ⟨rfl,g3⟩⟩
    |goto t=>
     obtain ⟨d5,M5,h5⟩:=hp
     obtain ⟨w6,g1,g2,g3⟩:=fin (some (.goto t)) _ _ _ h5
     exact ⟨_,_,g1,M5,(.goto t,d5),g2,.inr ⟨rfl,g3⟩⟩
    |panic ch=>exact hp.elim
    |outgrown=>exact hp.elim
   |exit id=>exact hq.elim
   |goto t=>exact hq.elim
   |ret=>exact hq.elim
   |panic ch=>exact hq.elim
   |outgrown=>exact hq.elim
  ·
   rintro e W2 ⟨⟨v,rfl⟩,M2,⟨c2,d2⟩,hx2,h2⟩
   have hend:∀(os tl:List Aa) (st:LoopState) (pe:Option Code),st≠ .busy→An M0 w0 S (os++(Ak l (.loop (rec st pe))::Ak D (.deferred (some []))::AX M1 W1::tl)) M2 W2→
     ∃w6,(Instr.endLoop l).run P W2= .ok pe w6∧Ext M2 W2 M2 w6∧An M0 w0 S (os++(Ak l (.loop { rec st pe with state:= .exhausted })::Ak D (.deferred (some []))::AX M1 W1::tl)) M2 w6:=by
    intro os tl st pe hst h5
    have hl5:W2.heap[l]? =some (.loop (rec st pe)):=(h5.hold (Ak l (.loop (rec st pe))) (by simp)).1.2
    obtain ⟨h6,e6⟩:=h5.putObj (.loop { rec st pe with state:= .exhausted }) (ix _ _ _)
    rw [sx] at h6
    have:=run_endLoop (P:=P) hl5 (by rw [P0];exact hst)
    refine ⟨_,?_,e6,h6⟩
    rw [this,P0]
   rcases h2 with h2|⟨pre,hpre,h2⟩
   ·
    obtain ⟨w6,g1,g2,g3⟩:=hend _ _ _ _ (by simp) h2
    exact ⟨none,w6,g1,hdone l D _ M1 W1 d2 _ _ ⟨M2,hsz,by show _::a.defers=_;rw [hdf],fun s q hq=>q.st _ _ _ _ _ g2 (q.st _ _ _ _ _ hx2 (hE1 s q hq)),g3⟩⟩
   ·
    obtain ⟨w6,g1,g2,g3⟩:=hend _ _ _ _ (by simp) h2
    exact ⟨some c2,w6,g1,hstop l D _ M1 W1 c2 pre d2 hpre _ _ ⟨M2,hsz,by show _::a.defers=_;rw [hdf],fun s q hq=>q.st _ _ _ _ _ g2 (q.st _ _ _ _ _ hx2 (hE1 s q hq)),g3⟩⟩
end
section
variable {P:Program} {M0:Av} {w0:World} {S:Nat→Prop} {rs:List Aa}
theorem Tr.toR {n:Fm} {E:Env} {I:Bn} {c:Code} {Q:Exit→Act→World→Prop} (h:Tr (QT P) n E I c Q):Tr (WC P none) n E I c Q:=fun a w hs=>wpIn_wide.2 (h a w hs)
theorem Tr.ofR {n:Fm} {E:Env} {I:Bn} {c:Code} {Q:Exit→Act→World→Prop} (h:Tr (WC P none) n E I c Q):Tr (QT P) n E I c Q:=fun a w hs=>wpIn_wide.1 (h a w hs)
theorem Tr.bR {Q:Exit→Act→World→Prop} {n:Fm} {E:Env} {α β:Type} {p gf:Nat} {g:Operand} {lb:Array Value} {enc:α→Value} {xs:List α} {own:List α→List Aa} {assign body:Code} (E':α→Env) (R:List α→β→List Aa) (Rx:Code→List α→β→List Aa) (d0:β)
  (jQ:K9 P gf lb enc xs own) (eg:∀args w,(callFunc gf args).run P w= .ok (.enter gf args) w) (hg:VL E g (is (.func (.func gf) #[] lb))) (jR:rs.Perm (own []++R [] d0))
  (hassign:∀l D rec M1 w1 pre x d,(pre++[x])<+:xs→∀a,a.tmps.size=n.sz→DT M1 w1 E a→∀M w,An M0 w0 S (own (pre++[x])++(Ak l rec::Ak D (.deferred (some []))::AX M1 w1::R pre d)) M w→
   assign.wpIn (B_ (some l)) 0 P (Exit.then (St ⟨n.sz,[]⟩ (E' x) (Hp M0 w0 S (own (pre++[x])++(Ak l rec::Ak D (.deferred (some []))::AX M1 w1::R pre d)))) (fun _ _ _=>False)) { tmps:=a.tmps.setIfInBounds p (enc x),defers:=[] } w)
  (hbody : ∀ l D rec M1 w1 pre x d, (pre ++ [x]) <+: xs → Tr (WC P (some l)) ⟨n.sz, []⟩ (E' x) (Hp M0 w0 S (own (pre ++ [x]) ++ (Ak l rec :: Ak D (.deferred (some [])) :: AX M1 w1 :: R pre d))) body
   (Jo M0 w0 S (fun d=>own (pre++[x])++(Ak l rec::Ak D (.deferred (some []))::AX M1 w1::R (pre++[x]) d)) (fun c d=>own (pre++[x])++(Ak l rec::Ak D (.deferred (some []))::AX M1 w1::Rx c (pre++[x]) d))))
  (hdone:∀l D rec M1 w1 d,Fin ⟨n.sz,{ target:= .collected D,args:= #[] }::n.df⟩ E (Hp M0 w0 S (own xs++(Ak l rec::Ak D (.deferred (some []))::AX M1 w1::R xs d))) Q .normal)
  (hstop:∀l D rec M1 w1 c pre d,pre<+:xs→Tr (QT P) ⟨n.sz,{ target:= .collected D,args:= #[] }::n.df⟩ E (Hp M0 w0 S (own pre++(Ak l rec::Ak D (.deferred (some []))::AX M1 w1::Rx c pre d))) c Q):
  Tr (QT P) n E (Hp M0 w0 S rs) (.rangeFunc g #[p] assign body) Q:=
 Tr.ofR (Tr.range E' R Rx d0 jQ eg hg jR hassign hbody hdone fun l D rec M1 w1 c pre d hp=>(hstop l D rec M1 w1 c pre d hp).toR)
end
section
variable {P:Program}
theorem VQ {o:Oper} {x y:Operand} {ts:Array TypeId} {l:Nat} {v:Value} {a:Act} {w:World} {R:Ending→World→Prop} {K:Act→World→Prop} {Q:Exit→Act→World→Prop} (ho:o.op= .call { callee:= .value x,args:= #[y],argTypes:=ts })
  (hx:a.eval x= .func (.yield l) #[] #[]) (hy:a.eval y=v) (h:YieldAt (B_ none) 0 P l #[v] w R) (k:∀e w',R e w'→∃u,e= .returned u∧K (a.put o.dst u) w'):o.wpIn (B_ none) 0 P a w K Q:=by
 obtain ⟨fn,tmps,assign,body,hr,bS⟩:=h
 refine ⟨fun _ _=>trivial,?_⟩
 rw [Oper.semAt_eq _ _ _ (fun c hh=>by rw [ho] at hh;cases hh)]
 have hrun:(execOp a.eval o).run P w= .ok (.round l fn tmps assign body) w:=by
  have hd:(resolve a.eval { callee:= .value x,args:= #[y],argTypes:=ts } o.type).run P w= .ok { target:= .fn (.yield l) #[],args:= #[v] } w:=by simp [resolve,Deferred.ofValue,hx,hy]
  have hi:invoke (.fn (.yield l) #[]) #[v]=Instr.yield l #[v]:=rfl
  simp only [execOp,ho]
  rw [Sem.run_bind,hd]
  simp only [Result.andThen]
  rw [hi];exact hr
 rw [hrun]
 refine ⟨fun hh=>(by cases hh),RoundIn.mono bS fun e w' he=> ?_⟩
 obtain ⟨u,rfl,hk⟩:=k e w' he
 exact hk
end
end Cp
namespace Cp
open Go Go.RowKit Go.Great
section
variable {P:Program} {L:Lg P} {n:Fm} {z0:Value} {fz:Nat} {E:Env} {M0:Av} {w0:World} {S:Nat→Prop} {rs:List Aa} {o:Oper} {κ:Type} [DecidableEq κ] {enc:κ→Value}
variable {Q:Exit→Act→World→Prop} {ops:Array Oper} {r:List Oper}
end
section
variable {P:Program} {L:Lg P} {n:Fm} {E:Env} {M0:Av} {w0:World} {S:Nat→Prop} {rs:List Aa} {ε:Type} {res:ε→List Aa} {Q:Exit→Act→World→Prop} {c:Code} {X:List ε} {f:ε→Value} {g:ε→Pr}
end
section
variable {P:Program} {L:Lg P} {n:Fm} {E:Env} {M0:Av} {w0:World} {S:Nat→Prop} {rs:List Aa} {o:Oper} {Q:Exit→Act→World→Prop} {c:Code}
theorem P3 {t:TypeId} {x:Operand} {sz j i q:Nat} {T:TypeId} {rows:List (List Pr)} {row:List Pr} {p:Pr} {v:Value} (ho:o.op= .load t x) (ht:C9 P t=true) (hx:VL E x (aD sz v i q)) (hl:∀r∈rows,r.length=sz) (hi:rows[i]? =some row) (hp:row[q]? =some p):
  Gx P M0 w0 S j (SR.c (Bl T sz rows v)) o E p:=by
 intro M w a rs he hI hj
 obtain ⟨a0,m0,c0,Qg,h1⟩:=hx.ev he (by simp [ho,Op.operands])
 have hj':rs[j]? =some (Bl T sz rows v):=hj
 rcases (hI.hold _ (List.mem_of_getElem? hj')).1 with ⟨rfl,A,hv⟩|⟨b,cap,spare,hv,hnc,hcm,hsp,⟨_,cs,h4,h5,h6⟩⟩
 · simp at hi
 ·
  rw [Qg] at hv
  injection hv with e1 e2 e3
  injection e1 with e1
  subst e1
  have hrl:=hl row (List.mem_of_getElem? hi)
  have hq:q<sz:=by rw [←hrl];exact BR hp
  have h7:(rows.flatten++spare.map is)[i*sz+q]? =some p:=by
   have Eo:=BR hi
   have hle:(i+1)*sz≤rows.length*sz:=Nat.mul_le_mul_right sz Eo
   rw [Nat.succ_mul] at hle
   rw [List.getElem?_append_left (by rw [Bv hl];omega),FR hl hi hq];exact hp
  obtain ⟨u,hu,hh⟩:=h5.at_ _ _ h7
  have hc:w.cell? ((⟨b,0,none⟩:Addr).add (i*sz+q))=some u:=by rw [DW];simp [World.cell?,h4,hu]
  have hrun:(execOp a.eval o).run P w= .ok (.value u) w:=by simp [execOp,ho,h1,Instr.loadAt,Instr.sureAddr,loadVar,C_ ht,hc]
  rw [hrun]
  exact ⟨hh,Below.refl _ _⟩
end
section
variable {P:Program} {L:Lg P} {n:Fm} {E:Env} {M0:Av} {w0:World} {S:Nat→Prop} {rs:List Aa} {o:Oper} {Q:Exit→Act→World→Prop} {c:Code} {r:List Oper} {ops:Array Oper}
def UpR (r:Aa):Prop:=∀M M2 w,(∀b o,M b o→M2 b o)→r.h M w→r.h M2 w
def jU (ps:List Pr):Prop:=∀p∈ps,KS p
theorem HL.free {ps:List Pr} {cs:List Value} {M M2:Av} {w:World} (hf:jU ps) (h:HL M w ps cs):HL M2 w ps cs:=
 Nc h.length fun k p hk=>by
  obtain ⟨u,hu,ZK⟩:=h.at_ k p hk
  exact ⟨u,hu,(hf p (List.mem_of_getElem? hk)).free _ _ _ _ ZK⟩
theorem TO.perm {rs':List Aa} (hp:rs.Perm rs') (k:TO P n ops r E (Hp M0 w0 S rs') Q):TO P n ops r E (Hp M0 w0 S rs) Q:=TO.conv (fun _ _ hs=>hs.perm hp) k
end
section
variable {P:Program} {L:Lg P} {n:Fm} {E:Env} {M0:Av} {w0:World} {S:Nat→Prop} {rs:List Aa} {o:Oper} {Q:Exit→Act→World→Prop} {c:Code} {r:List Oper} {ops:Array Oper}
instance jV:KS any:=⟨fun _ _ _ _ _=>trivial⟩
instance bT (v:Value) (p:Pr) [h9:KS p]:KS (AZ v p):=⟨fun _ _ _ _ h=>⟨h.1,h9.free _ _ _ _ h.2⟩⟩
def Y_ (w:World) (q:Aa):Aa:=⟨q.blk,q.new,fun _ w'=>∀b,q.blk=some b→w'.heap[b]? =w.heap[b]?,fun _ _ _ _ _ hk h b hb=>(hk b hb).1.trans (h b hb)⟩
theorem VR {us bs:List Aa} (h:us.map (·.blk)=bs.map (·.blk)) (k:us.Pairwise fun r r':Aa=>∀b,r.blk=some b→r'.blk≠some b):bs.Pairwise fun r r':Aa=>∀b,r.blk=some b→r'.blk≠some b:=by
 have e1:∀l:List Aa,(l.Pairwise fun r r':Aa=>∀b,r.blk=some b→r'.blk≠some b)↔(l.map (·.blk)).Pairwise fun p q:Option Nat=>∀b,p=some b→q≠some b:=fun l=>by rw [List.pairwise_map]
 rw [e1] at k ⊢
 rw [←h];exact k
theorem An.qn {α:Type} {C:α→Prop} {f:FuncId} {ps:List Pr} {post VS:α→List Aa} {res res2:α→Pr} {M:Av} {w:World} {vs:List Value} (hf:Hs P f ps [] C res post)
  (hI:An M0 w0 S rs M w) (hn:rs.all (·.new)=true) (hpost:∀x M0 w0 S rs M w,An M0 w0 S (post x++rs) M w→An M0 w0 S (VS x++rs) M w) (pO:∀x,∀q∈VS x,UpR q)
  (hres:∀x M M2 w u,(res x).h M w u→(res2 x).h M2 w u) (hv:∀M1,Ext M w M1 w→(∀b o,M1 b o→∀q∈rs,q.blk≠some b)→HL M1 w ps vs):
  Calls P f vs.toArray w fun e' w'=>∃u M' x,e'= .returned u∧C x∧(res2 x).h M' w' u∧Ext M w M' w'∧An M0 w0 S (VS x++rs) M' w':=by
 have hb:∀q∈rs,∀b,q.blk=some b→b<w.heap.size∧w0.heap.size≤b:=fun q hq b hb=>by
  obtain ⟨h1,h2⟩:=(hI.hold q hq).2 b hb
  rw [if_pos (List.all_eq_true.1 hn q hq)] at h2
  exact ⟨h1,h2⟩
 have he:Ext M w (fun b o=>M b o∧∀q∈rs,q.blk≠some b) w:=Ext.less fun _ _ h=>h.1
 have mq:An M0 w0 S (rs.map (Y_ w)) (fun b o=>M b o∧∀q∈rs,q.blk≠some b) w:=by
  refine ⟨hI.m0,fun b o hm=>⟨hI.m b o hm,fun q hq e1=>by have h1:=hI.m0 b o hm;have h2:=(hb q hq b e1).2;omega⟩,hI.os,hI.tape,hI.output,hI.size,hI.block,fun b o hm=>hI.bd b o hm.1,fun q hq=> ?_,?_⟩
  ·
   rw [List.mem_map] at hq
   obtain ⟨q,hq,rfl⟩:=hq
   exact ⟨fun _ _=>rfl,(hI.hold q hq).2⟩
  · exact VR (by rw [List.map_map];rfl) hI.nd
 refine (hf.2 M0 w0 S (rs.map (Y_ w)) _ w vs mq (hv _ he fun _ _ h=>h.2)).mono ?_
 rintro e' w' ⟨u,M',x,rfl,hC,h2,h3,h4⟩
 have h5:=hpost x _ _ _ _ _ _ h4
 have pP:∀q∈rs,∀b,q.blk=some b→w'.heap[b]? =w.heap[b]? :=fun q hq=>(h5.hold _ (List.mem_append_right _ (List.mem_map_of_mem hq))).1
 have hE:Ext M w (fun b o=>M' b o∨(M b o∧∃q∈rs,q.blk=some b)) w':=⟨h3.size,fun a q hc hm=>by
  obtain ⟨k1,k2⟩:=h3.keep a q hc (fun h=>hm h.1)
  exact ⟨fun h=>h.elim k1 fun h=>hm h.1,k2⟩,fun b x ho hp hm=>by
  obtain ⟨k1,k2⟩:=h3.obj b x ho hp (fun h=>hm h.1)
  exact ⟨fun h=>h.elim k1 fun h=>hm h.1,k2⟩⟩
 refine ⟨u,_,x,rfl,hC,hres x _ _ _ _ h2,hE,⟨h5.m0,fun b o hm=> .inl (h5.m b o hm),h5.os,h5.tape,h5.output,h5.size,h5.block,fun b o hm=> ?_,fun q hq=> ?_,?_⟩⟩
 ·
  rcases hm with hm|⟨hm,_⟩
  · exact h5.bd b o hm
  · exact Nat.lt_of_lt_of_le (hI.bd b o hm) h3.size
 ·
  rcases List.mem_append.1 hq with hq|hq
  ·
   obtain ⟨k1,k2⟩:=h5.hold q (List.mem_append_left _ hq)
   exact ⟨pO x q hq _ _ _ (fun _ _ h=> .inl h) k1,k2⟩
  ·
   refine ⟨q.st _ _ _ _ hE (fun b hb=>⟨pP q hq b hb,fun o hm=> .inr ⟨hm,q,hq,hb⟩⟩) (hI.hold q hq).1,fun b hb=> ?_⟩
   obtain ⟨k1,k2⟩:=(hI.hold q hq).2 b hb
   exact ⟨Nat.lt_of_lt_of_le k1 h3.size,k2⟩
 · exact VR (by rw [List.map_append,List.map_append,List.map_map];rfl) h5.nd
end
section
variable {P:Program} {I:Bn} {E:Env} {o:Oper}
abbrev u32 (b:BitVec 32):Pr:=is (.int .u32 (b.toNat:Int))
theorem RR (n:Int):IntKind.u32.wrap n=n % 4294967296:=by simp [IntKind.wrap,IntKind.signed,IntKind.bits]
theorem Jp (b:BitVec 32):IntKind.u32.wrap (b.toNat:Int)=(b.toNat:Int):=by rw [RR];have:=b.isLt;omega
theorem bU (b:BitVec 32) (i:Nat):IntKind.u32.wrap ((b.toNat:Int)*2 ^ (min i 32))=((b<<<i).toNat:Int):=by
 rw [RR,BitVec.toNat_shiftLeft,Nat.shiftLeft_eq]
 have e1:((b.toNat:Int)*2 ^ (min i 32))=((b.toNat*2 ^ (min i 32):Nat):Int):=by rw [Int.natCast_mul,Int.natCast_pow];rfl
 rw [e1]
 rcases Nat.le_total i 32 with h|h
 · rw [Nat.min_eq_left h];generalize b.toNat*2 ^ i=n;show ((n:Int) % 4294967296)=((n % 4294967296:Nat):Int);omega
 ·
  rw [Nat.min_eq_right h]
  obtain ⟨k,rfl⟩:=Nat.exists_eq_add_of_le h
  have h1:b.toNat*2 ^ 32 % 4294967296=0:=by rw [show (4294967296:Nat)=2 ^ 32 from rfl];exact Nat.mul_mod_left _ _
  have h2:b.toNat*2 ^ (32+k) % 2 ^ 32=0:=by rw [Nat.pow_add,←Nat.mul_assoc,Nat.mul_right_comm];exact Nat.mul_mod_left _ _
  rw [h2];generalize b.toNat*2 ^ 32=n at h1 ⊢;omega
theorem VT (b:BitVec 32) (i:Nat):(b.toNat:Int).fdiv (2 ^ (min i 32))=((b>>>i).toNat:Int):=by
 rw [BitVec.toNat_ushiftRight,Nat.shiftRight_eq_div_pow]
 have e1:(2:Int) ^ (min i 32)=((2 ^ (min i 32):Nat):Int):=by rw [Int.natCast_pow];rfl
 rw [e1,Int.fdiv_eq_ediv_of_nonneg _ (by exact Int.natCast_nonneg _)]
 rcases Nat.le_total i 32 with h|h
 · rw [Nat.min_eq_left h];norm_cast
 ·
  rw [Nat.min_eq_right h]
  have h3:=b.isLt
  have h1:b.toNat/2 ^ 32=0:=Nat.div_eq_of_lt h3
  have h2:b.toNat/2 ^ i=0:=Nat.div_eq_of_lt (Nat.lt_of_lt_of_le h3 (Nat.pow_le_pow_right (by omega) h))
  rw [h2,←h1];norm_cast
theorem GK {t u:TypeId} {x y:Operand} {b:BitVec 32} {i:Int} (ho:o.op= .binOp .shl t x y u) (hx:VL E x (u32 b)) (hy:VL E y (int i)) (hi:0≤i):AH P I o E (u32 (b<<<i.toNat)):=
 AH.same fun M w a he _=>by
  have h1:a.eval x= .int .u32 b.toNat:=hx.ev he (by simp [ho,Op.operands])
  have h2:a.eval y= .int .i64 i:=hy.ev he (by simp [ho,Op.operands])
  refine ⟨.int .u32 ((b<<<i.toNat).toNat:Int),?_,rfl⟩
  rw [←bU]
  simp [execOp,ho,h1,h2,eqGuard,binOp,Op.shift,show ¬i<0 by omega,IntKind.bits]
theorem VU {t u:TypeId} {x y:Operand} {b:BitVec 32} {i:Int} (ho:o.op= .binOp .shr t x y u) (hx:VL E x (u32 b)) (hy:VL E y (int i)) (hi:0≤i):AH P I o E (u32 (b>>>i.toNat)):=
 AH.same fun M w a he _=>by
  have h1:a.eval x= .int .u32 b.toNat:=hx.ev he (by simp [ho,Op.operands])
  have h2:a.eval y= .int .i64 i:=hy.ev he (by simp [ho,Op.operands])
  refine ⟨.int .u32 ((b>>>i.toNat).toNat:Int),?_,rfl⟩
  rw [←VT]
  simp [execOp,ho,h1,h2,eqGuard,binOp,Op.shift,show ¬i<0 by omega,IntKind.bits]
theorem OQ (b:BitVec 32):BitVec.ofInt 32 (b.toNat:Int)=b:=by
 apply BitVec.eq_of_toNat_eq
 rw [BitVec.toNat_ofInt]
 have:=b.isLt
 omega
theorem K_ {t u:TypeId} {x y:Operand} {b c:BitVec 32} {op:BinOp} {f:BitVec 32→BitVec 32→BitVec 32} (ho:o.op= .binOp op t x y u) (hx:VL E x (u32 b)) (hy:VL E y (u32 c))
  (hf:(op= .and∧f=fun b c=>b&&&c)∨(op= .or∧f=fun b c=>b|||c)∨(op= .andNot∧f=fun b c=>b&&&~~~c)∨(op= .xor∧f=fun b c=>b ^^^ c)):AH P I o E (u32 (f b c)):=
 AH.same fun M w a he _=>by
  have h1:a.eval x= .int .u32 b.toNat:=hx.ev he (by simp [ho,Op.operands])
  have h2:a.eval y= .int .u32 c.toNat:=hy.ev he (by simp [ho,Op.operands])
  refine ⟨.int .u32 ((f b c).toNat:Int),?_,rfl⟩
  have e1:=OQ b
  have e2:=OQ c
  rcases hf with ⟨rfl,rfl⟩|⟨rfl,rfl⟩|⟨rfl,rfl⟩|⟨rfl,rfl⟩
  · have e3:=Jp (b&&&c);simp [execOp,ho,h1,h2,eqGuard,binOp,Op.intBits,IntKind.bits,e1,e2] at e3 ⊢;exact e3
  · have e3:=Jp (b|||c);simp [execOp,ho,h1,h2,eqGuard,binOp,Op.intBits,IntKind.bits,e1,e2] at e3 ⊢;exact e3
  · have e3:=Jp (b&&&~~~c);simp [execOp,ho,h1,h2,eqGuard,binOp,Op.intBits,IntKind.bits,e1,e2];exact e3.trans (by simp)
  · have e3:=Jp (b ^^^ c);simp [execOp,ho,h1,h2,eqGuard,binOp,Op.intBits,IntKind.bits,e1,e2] at e3 ⊢;exact e3
theorem OR {t u:TypeId} {x y:Operand} {b c:BitVec 32} (ho:o.op= .binOp .and t x y u) (hx:VL E x (u32 b)) (hy:VL E y (u32 c)):AH P I o E (u32 (b&&&c)):=K_ ho hx hy (.inl ⟨rfl,rfl⟩)
theorem ID {t u:TypeId} {x y:Operand} {b c:BitVec 32} (ho:o.op= .binOp .or t x y u) (hx:VL E x (u32 b)) (hy:VL E y (u32 c)):AH P I o E (u32 (b|||c)):=K_ ho hx hy (.inr (.inl ⟨rfl,rfl⟩))
theorem JP {t u:TypeId} {x y:Operand} {b c:BitVec 32} (ho:o.op= .binOp .andNot t x y u) (hx:VL E x (u32 b)) (hy:VL E y (u32 c)):AH P I o E (u32 (b&&&~~~c)):=K_ (f:=fun b c=>b&&&~~~c) ho hx hy (.inr (.inr (.inl ⟨rfl,rfl⟩)))
theorem OS:Pr.le (is (.int .u32 0)) (u32 0#32):=fun _ _ _ h=>h
theorem RS (b:BitVec 32):(((b.toNat:Int)==0)=(b==0#32)):=by
 rw [Bool.eq_iff_iff,beq_iff_eq,beq_iff_eq]
 constructor
 · intro h;apply BitVec.eq_of_toNat_eq;simp;omega
 · rintro rfl;rfl
theorem bV (b:BitVec 32) (i:Nat):((((b>>>i)&&&1#32).toNat:Int)==1)=b.getLsbD i:=by
 rw [Bool.eq_iff_iff,beq_iff_eq]
 have h1:((b>>>i)&&&1#32).toNat=(b.toNat>>>i) % 2:=by
  rw [BitVec.toNat_and,BitVec.toNat_ushiftRight];exact Nat.and_one_is_mod _
 rw [h1]
 unfold BitVec.getLsbD
 rw [Nat.testBit,Nat.and_comm,Nat.and_one_is_mod]
 constructor
 ·
  intro h;have:(b.toNat>>>i) % 2=1:=by omega
  rw [this];rfl
 ·
  intro h
  rcases Nat.mod_two_eq_zero_or_one (b.toNat>>>i) with h2|h2
  · rw [h2] at h;cases h
  · omega
end
end Cp
namespace Go.Proofs.YtppdobdifkefcaaGreatDoor
open Go Go.RowKit Cp Go.Proofs.Tryz
-- sets of bits, lK
def EC (b:BitVec 32):Nat:=((List.range 32).find? fun i=>b.getLsbD i).getD 32
def LS (b:BitVec 32):List Nat:=(List.range 32).filter fun i=>b.getLsbD i
def Sj (b:BitVec 32) (i:Nat):BitVec 32:=b&&&~~~(1#32<<<i)
def RT (b:BitVec 32) (i:Nat):BitVec 32:=b|||(1#32<<<i)
theorem P4 (i j:Nat):(1#32<<<i).getLsbD j=(decide (i=j)&&decide (j<32)):=by
 rw [BitVec.getLsbD_shiftLeft]
 by_cases h1:j<32
 ·
  by_cases h2:i=j
  · subst h2;simp [h1]
  ·
   by_cases h3:j<i
   · simp [h3,h2]
   ·
    have:(1#32).getLsbD (j-i)=false:=by
     rw [BitVec.getLsbD_ofNat]
     have:(1:Nat).testBit (j-i)=false:=by
      obtain ⟨k,hk⟩:∃k,j-i=k+1:=⟨j-i-1,by omega⟩
      rw [hk,Nat.testBit_succ];simp
     rw [this];simp
    rw [this];simp [h2]
 · simp [h1]
theorem P5 {b:BitVec 32} {i j:Nat} (hi:i<32):(RT b i).getLsbD j=(b.getLsbD j||decide (i=j)):=by
 unfold RT
 rw [BitVec.getLsbD_or,P4]
 by_cases h:i=j
 · subst h;simp [hi]
 · simp [h]
theorem X5 {b:BitVec 32} {i j:Nat}:(Sj b i).getLsbD j=(b.getLsbD j&& !decide (i=j)):=by
 unfold Sj
 rw [BitVec.getLsbD_and,BitVec.getLsbD_not,P4]
 by_cases hj:j<32
 · simp [hj]
 ·
  have:b.getLsbD j=false:=BitVec.getLsbD_of_ge b j (by omega)
  rw [this];simp
theorem OT {α:Type} [DecidableEq α] {p:α→Bool} {x:α}:∀{l:List α},l.Nodup→l.find? p=some x→l.filter p=x::l.filter (fun y=>p y&& !(decide (x=y):Bool)):=by
 intro l
 induction l with
 |nil=>intro _ h;cases h
 |cons a l ih=>
  intro hn h
  obtain ⟨ha,hn⟩:=List.nodup_cons.1 hn
  rw [List.find?_cons] at h
  cases hp:p a with
  |true=>
   rw [hp] at h
   simp at h
   subst h
   rw [List.filter_cons,hp,List.filter_cons]
   simp [hp]
   exact List.filter_congr fun y hy=>by
    have:¬a=y:=fun e=>ha (e ▸ hy)
    simp [this]
  |false=>
   rw [hp] at h
   simp at h
   rw [List.filter_cons,hp,List.filter_cons,hp]
   simp
   exact ih hn (by simpa using h)
theorem RU {b:BitVec 32} (h:∀i,i<32→b.getLsbD i=false):b=0#32:=BitVec.eq_of_getLsbD_eq fun i hi=>by rw [h i hi];simp
theorem OU:LS 0#32=[]:=by decide
theorem LA {b:BitVec 32} (h:b≠0#32):(List.range 32).find? (fun i=>b.getLsbD i)=some (EC b):=by
 unfold EC
 cases hf:(List.range 32).find? (fun i=>b.getLsbD i) with
 |some x=>rfl
 |none=>
  rw [List.find?_eq_none] at hf
  exact absurd (RU fun i hi=>by simpa using hf i (List.mem_range.2 hi)) h
theorem P6 {b:BitVec 32} (h:b≠0#32):b.getLsbD (EC b)=true:=by simpa using List.find?_some (LA h)
theorem P7 {b:BitVec 32} (h:b≠0#32):EC b<32:=List.mem_range.1 (List.mem_of_find?_eq_some (LA h))
theorem IE {b:BitVec 32} (h:b≠0#32):LS b=EC b::LS (Sj b (EC b)):=by
 unfold LS
 rw [OT List.nodup_range (LA h)]
 congr 1
 exact List.filter_congr fun y _=>by rw [X5]
theorem RV {b:BitVec 32} {i:Nat}:i∈LS b↔b.getLsbD i=true:=by
 unfold LS
 rw [List.mem_filter,List.mem_range]
 constructor
 · exact fun h=>h.2
 ·
  intro h
  refine ⟨?_,h⟩
  rcases Nat.lt_or_ge i 32 with h2|h2
  · exact h2
  · rw [BitVec.getLsbD_of_ge b i h2] at h;cases h
theorem RW {b:BitVec 32} {i:Nat} (h:b.getLsbD i=true):EC b≤i:=by
 have hb:b≠0#32:=fun e=>by rw [e] at h;simp at h
 have h1:i∈LS b:=RV.2 h
 rw [IE hb] at h1
 rcases List.mem_cons.1 h1 with h2|h2
 · omega
 ·
  have h3:(LS b).Pairwise (· < ·):=List.Pairwise.filter _ List.pairwise_lt_range
  rw [IE hb] at h3
  exact Nat.le_of_lt ((List.pairwise_cons.1 h3).1 i h2)
theorem Sk {b:BitVec 32} (h:b≠0#32):b&&&(-b)=1#32<<<(EC b):=by
 apply BitVec.eq_of_getLsbD_eq
 intro i hi
 rw [BitVec.getLsbD_and,BitVec.getLsbD_neg,P4]
 by_cases h1:EC b=i
 ·
  subst h1
  have:¬∃j,j<EC b∧b.getLsbD j=true:=fun ⟨j,hj,hb⟩=>by have:=RW hb;omega
  simp [hi,P6 h,this]
 ·
  by_cases h2:EC b<i
  ·
   have:∃j,j<i∧b.getLsbD j=true:=⟨_,h2,P6 h⟩
   simp [this,h1,hi]
  ·
   have:b.getLsbD i=false:=by
    cases hb:b.getLsbD i with
    |false=>rfl
    |true=>have:=RW hb;omega
   simp [this,h1]
def OV:List Nat:=[0,1,28,2,29,14,24,3,30,22,20,15,25,17,4,8,31,27,13,23,21,19,16,7,26,12,18,6,11,5,10,9]
theorem X6:∀i,i<32→OV[(((1#32<<<i)*125613361#32)>>>27).toNat]? =some i:=by decide
-- rows of bits as a relation (to stand behind Rq.lean and Bit.lean)
def Cz (n:Nat) (B:List (BitVec 32)) (M:Nat→Nat→Bool):Prop:=B.length=n∧∀b x,B[b]? =some x→∀a,x.getLsbD a=(decide (a<n)&&M a b)
theorem IF {n:Nat} {B:List (BitVec 32)} {M N:Nat→Nat→Bool} (h:Cz n B M) (k:∀a b,a<n→b<n→M a b=N a b):Cz n B N:=by
 refine ⟨h.1,fun b x hx a=> ?_⟩
 rw [h.2 b x hx a]
 have hb:b<n:=by rw [←h.1];rcases Nat.lt_or_ge b B.length with h2|h2;exact h2;rw [List.getElem?_eq_none h2] at hx;cases hx
 by_cases ha:a<n
 · rw [k a b ha hb]
 · simp [ha]
theorem P8 (n:Nat):Cz n (List.replicate n 0#32) (fun _ _=>false):=by
 refine ⟨List.length_replicate,fun b x hx a=> ?_⟩
 have:=List.eq_of_mem_replicate (List.mem_of_getElem? hx)
 subst this;simp
theorem MB {n:Nat} {B:List (BitVec 32)} {M N:Nat→Nat→Bool} (h:Cz n B M) {t:Nat} {y:BitVec 32} (ho:∀a b,b≠t→N a b=M a b) (hy:∀a,y.getLsbD a=(decide (a<n)&&N a t)):Cz n (B.set t y) N:=by
 refine ⟨by rw [List.length_set];exact h.1,fun b x hx a=> ?_⟩
 rw [List.getElem?_set] at hx
 split at hx
 ·
  rename_i e;subst e
  split at hx
  · cases hx;exact hy a
  · cases hx
 ·
  rename_i e
  rw [h.2 b x hx a,ho a b (fun e2=>e e2.symm)]
theorem VV {n:Nat} {B:List (BitVec 32)} {M:Nat→Nat→Bool} (h:Cz n B M) {t f:Nat} {x:BitVec 32} (hx:B[t]? =some x) (hf:f<n) (hn:n≤32):Cz n (B.set t (RT x f)) (fun a b=>M a b||(decide (f=a)&&decide (t=b))):=by
 refine MB h (fun a b hb=> ?_) (fun a=> ?_)
 · simp [show ¬t=b from fun e=>hb e.symm]
 ·
  rw [P5 (by omega),h.2 t x hx a]
  by_cases ha:a<n
  · simp [ha]
  ·
   have:¬f=a:=by omega
   simp [ha,this]
def Gf (k:Nat) (m:Nat→Nat→Bool) (i a b:Nat):Bool:=if b<i then K3 k m a b else m a b
theorem bW (k:Nat) (m:Nat→Nat→Bool):Gf k m 0=m:=by funext a b;unfold Gf;rw [if_neg (by omega)]
theorem VW {n k:Nat} {m:Nat→Nat→Bool} {a b:Nat} (hb:b<n):Gf k m n a b=K3 k m a b:=by unfold Gf;rw [if_pos hb]
theorem VX (k:Nat) (m:Nat→Nat→Bool) (i a:Nat):Gf k m i a k=m a k:=by unfold Gf;split;exact VF k m a;rfl
theorem OW {n k i:Nat} {m:Nat→Nat→Bool} {B:List (BitVec 32)} {x:BitVec 32} (h:Cz n B (Gf k m i)) (hx:B[i]? =some x) (hk:k<n):x.getLsbD k=m k i:=by
 rw [h.2 i x hx k];unfold Gf;rw [if_neg (by omega)];simp [hk]
theorem VY {n k i:Nat} {m:Nat→Nat→Bool} {B:List (BitVec 32)} {x y:BitVec 32} (h:Cz n B (Gf k m i)) (hx:B[i]? =some x) (hy:B[k]? =some y) (hm:m k i=true):Cz n (B.set i (x|||y)) (Gf k m (i+1)):=by
 refine MB h (fun a b hb=> ?_) (fun a=> ?_)
 ·
  unfold Gf
  by_cases h1:b<i
  · rw [if_pos h1,if_pos (by omega)]
  · rw [if_neg h1,if_neg (by omega)]
 ·
  rw [BitVec.getLsbD_or,h.2 i x hx a,h.2 k y hy a,VX]
  unfold Gf
  rw [if_neg (by omega),if_pos (by omega)]
  unfold K3
  rw [hm]
  cases decide (a<n)<;>simp
theorem X7 {n k i:Nat} {m:Nat→Nat→Bool} {B:List (BitVec 32)} (h:Cz n B (Gf k m i)) (hm:m k i=false):Cz n B (Gf k m (i+1)):=by
 refine IF h fun a b _ _=> ?_
 unfold Gf
 by_cases h1:b<i
 · rw [if_pos h1,if_pos (by omega)]
 ·
  by_cases h2:b=i
  · subst h2;rw [if_neg h1,if_pos (by omega)];unfold K3;rw [hm];simp
  · rw [if_neg h1,if_neg (by omega)]
structure pQ (n:Nat) (l:List BG) (B A:List (BitVec 32)):Prop where
 bef:Cz n B (CM l n)
 aft:Cz n A (fun b a=>CM l n a b)
theorem Em {l:List BG} {s:List Int} (h:El l s=true):∀(k:Nat) {a b:Nat},CM l k a b=true→(b:Int)∈s→(a:Int)∈s
 |0,a,b,hw,hb=>by
  unfold CM Gs at hw
  rw [List.any_eq_true] at hw
  obtain ⟨r,hr,h2⟩:=hw
  simp at h2
  have:=Cw.1 h r hr (by rw [h2.2];exact hb)
  rw [h2.1] at this;exact this
 |k+1,a,b,hw,hb=>by
  have hw:K3 k (CM l k) a b=true:=hw
  unfold K3 at hw
  rw [Bool.or_eq_true,Bool.and_eq_true] at hw
  rcases hw with hw|⟨h1,h2⟩
  · exact Em h k hw hb
  · exact Em h k h1 (Em h k h2 hb)
def JQ (n:Nat) (s:BitVec 32) (d:List Int):Prop:=∀i:Nat,s.getLsbD i=true↔(i:Int)∈d
theorem VZ {x s:BitVec 32}:(x&&&~~~s=0#32)↔∀i,x.getLsbD i=true→s.getLsbD i=true:=by
 constructor
 ·
  intro h i hi
  have h2:=congrArg (fun y=>BitVec.getLsbD y i) h
  have hlt:i<32:=by rcases Nat.lt_or_ge i 32 with h3|h3;exact h3;rw [BitVec.getLsbD_of_ge x i h3] at hi;cases hi
  simp [hi,hlt] at h2
  exact h2
 ·
  intro h
  refine RU fun i hi=> ?_
  rw [BitVec.getLsbD_and,BitVec.getLsbD_not]
  cases hx:x.getLsbD i with
  |false=>simp
  |true=>rw [h i hx];simp
theorem X8 {n:Int} {l:List BG} {B:List (BitVec 32)} {s x:BitVec 32} {d:List Int} {i:Nat} (hv:Ar n l=0) (hB:Cz n.toNat B (CM l n.toNat)) (hs:JQ n.toNat s d) (hc:El l d=true) (hx:B[i]? =some x) (hi:i<n.toNat):
  OK l d true i=(!s.getLsbD i&&(x&&&~~~s==0#32)):=by
 obtain ⟨h0,h1,h2,h3⟩:=Cy hv
 rw [Bool.eq_iff_iff]
 unfold OK
 have e1:(IA d (i:Int) !=true)= !s.getLsbD i:=by
  cases hg:s.getLsbD i with
  |true=>have:=(hs i).1 hg;rw [Dc.2 this];rfl
  |false=>
   have:¬(i:Int)∈d:=fun e=>by have:=(hs i).2 e;rw [hg] at this;cases this
   have h4:IA d (i:Int)=false:=by cases h5:IA d (i:Int) with|false=>rfl|true=>exact absurd (Dc.1 h5) this
   rw [h4];rfl
 rw [e1,Bool.and_eq_true,Bool.and_eq_true,beq_iff_eq,VZ]
 refine and_congr_right fun hni=> ?_
 constructor
 ·
  intro YY a ha
  rw [hB.2 i x hx a,Bool.and_eq_true,decide_eq_true_eq] at ha
  have:=Em YY _ ha.2 (Cc.2 (.inl rfl))
  rcases Cc.1 this with h5|h5
  ·
   have h6:a=i:=by omega
   subst h6
   rw [h3 a hi] at ha;cases ha.2
  · exact (hs a).2 h5
 ·
  intro h
  rw [Cw]
  intro r hr hm
  rcases Cc.1 hm with h5|h5
  ·
   have hb:=h1 r hr
   unfold Cv at hb
   rw [decide_eq_false_iff_not] at hb
   refine Cc.2 (.inr ?_)
   have h6:=(hs r.fst.toNat).1 (h r.fst.toNat (by
    rw [hB.2 i x hx,Bool.and_eq_true,decide_eq_true_eq]
    refine ⟨by omega,Iu ?_ _⟩
    unfold Gs
    rw [List.any_eq_true]
    exact ⟨r,hr,by simp;omega⟩))
   rw [Int.toNat_of_nonneg (by omega)] at h6
   exact h6
  · exact Cc.2 (.inr (Cw.1 hc r hr h5))
-- qN, list, by bits (behind pQ.lean)
theorem RX (n:Nat):∀m,(List.range m).filter (fun j=>decide (j<n))=List.range (min n m)
 |0=>by simp
 |m+1=>by
  rw [List.range_succ,List.filter_append,RX n m]
  by_cases h:m<n
  ·
   rw [Nat.min_eq_right (by omega),Nat.min_eq_right (by omega),List.range_succ]
   simp [h]
  ·
   rw [Nat.min_eq_left (by omega),Nat.min_eq_left (by omega)]
   simp [h]
theorem bX {x:BitVec 32} {n:Nat} {p:Nat→Bool} (h:∀j,x.getLsbD j=(decide (j<n)&&p j)) (hn:n≤32):LS x=(List.range n).filter p:=by
 unfold LS
 rw [List.filter_congr (q:=fun j=>decide (j<n)&&p j) (fun j _=>h j)]
 rw [show (fun j=>decide (j<n)&&p j)=fun j=>p j&&decide (j<n) from by funext j;rw [Bool.and_comm]]
 rw [←List.filter_filter,RX,Nat.min_eq_left hn]
theorem P9 (n:Nat):JQ n 0#32 []:=fun i=>by simp
theorem Vb {n:Nat} {s:BitVec 32} {d:List Int} {i:Nat} (h:JQ n s d) (hi:i<32):JQ n (RT s i) (JN d (i:Int) true):=fun j=>by
 rw [P5 hi,Cc,Bool.or_eq_true,decide_eq_true_eq,h j]
 constructor
 ·
  rintro (h1|h1)
  · exact .inr h1
  · exact .inl (by omega)
 ·
  rintro (h1|h1)
  · exact .inr (by omega)
  · exact .inl h1
theorem bY {n:Int} {l:List BG} {d:List Int} {out:BitVec 32} (h:∀j,out.getLsbD j=(decide (j<n.toNat)&&OK l d true j)) (hn:n.toNat≤32):M6 n.toNat l d true=(LS out).map fun i:Nat=>(i:Int):=by
 unfold M6;rw [bX h hn]
theorem P_ {n:Int} {l:List BG} {k:Nat} {out:BitVec 32} (hv:Ar n l=0) (hk:k<n.toNat) (h:∀j,out.getLsbD j=(decide (j<n.toNat)&&OK l (BM n.toNat l k).2 true j)):
  out≠0#32∧EC out<n.toNat∧BM n.toNat l (k+1)=((BM n.toNat l k).1++[((EC out:Nat):Int)],JN (BM n.toNat l k).2 ((EC out:Nat):Int) true):=by
 obtain ⟨h0,h1,h2,h3⟩:=Cy hv
 obtain ⟨x,hx,hf⟩:=ON hv hk
 rw [bY h (by omega)] at hx
 have hne:out≠0#32:=fun e=>by rw [e,OU] at hx;simp at hx
 rw [IE hne] at hx
 simp at hx
 have hl:=P6 hne
 rw [h,Bool.and_eq_true,decide_eq_true_eq] at hl
 exact ⟨hne,hl.1,by rw [hf,hx]⟩
end Go.Proofs.YtppdobdifkefcaaGreatDoor
namespace Cp
open Go Go.RowKit Go.Great
abbrev mark (D:Nat):Deferred:={ target:= .collected D,args:= #[] }
abbrev OX (D:Nat):Aa:=Ak D (.deferred (some []))
abbrev Fy (P:Program) (g:Func) (R:Ending→World→Prop):Exit→Act→World→Prop:=bodyPostM (B_ none) 0 P g R
section
variable {P:Program} {fz:Nat} {E:Env} {M0:Av} {w0:World} {S:Nat→Prop} {rs:List Aa} {g:Func} {R:Ending→World→Prop} {ds:List Deferred} {n:Fm} {c:Code}
theorem Fin.bZ {D:Nat} (k:Fin ⟨fz,ds⟩ E (Hp M0 w0 S rs) (Fy P g R) .ret):Fin ⟨fz,mark D::ds⟩ E (Hp M0 w0 S (OX D::rs)) (Fy P g R) .ret:=by
 rintro a w ⟨M,h1,h2,h3,h4⟩
 have h4:An M0 w0 S (OX D::rs) M w:=h4
 have hD:w.heap[D]? =some (.deferred (some [])):=(h4.hold _ (List.mem_cons_self ..)).1.2
 obtain ⟨h5,h6⟩:=h4.putObj (j:=0) (.deferred none) rfl
 have h7:=k { a with defers:=ds } (w.putObj D (.deferred none)) ⟨M,h1,rfl,fun s q hq=>q.st _ _ _ _ _ h6 (h3 s q hq),An.JC h5⟩
 have h2:a.defers=mark D::ds:=h2
 show LeavesInM _ _ _ _ _ _ a.defers _ _
 rw [h2]
 exact ⟨(fun h=>by cases h),.inl ⟨D,_,rfl,run_takeDeferred hD,h7⟩⟩
theorem Fin.Vc (k:Fin ⟨fz,[]⟩ E (Hp M0 w0 S rs) (bodyPost P g R) .ret):Fin ⟨fz,[]⟩ E (Hp M0 w0 S rs) (Fy P g R) .ret:=by
 rintro a w h
 obtain ⟨h1,v,h2,h3⟩:=k a w h
 show LeavesInM _ _ _ _ _ _ a.defers _ _
 rw [h1]
 exact ⟨v,h2,h3⟩
theorem Fin.RY:∀{Ds:List Nat} {rs:List Aa},Fin ⟨fz,[]⟩ E (Hp M0 w0 S rs) (bodyPost P g R) .ret→Fin ⟨fz,Ds.map mark⟩ E (Hp M0 w0 S (Ds.map OX++rs)) (Fy P g R) .ret
 |[],_,k=>Fin.Vc k
 |_::_,_,k=>Fin.bZ (Fin.RY k)
theorem Fin.bf {rs:List Aa} (k:Fin n E (Hp M0 w0 S rs) (Fy P g R) .ret):Fin n E (Hp M0 w0 S rs) (Fy P g R) .normal:=k
theorem JR {f:FuncId} {args:Array Value} {w:World} (hf:P.funcs[f]? =some g) (hb:g.body=some c) (h:c.wp P (Fy P g R) { tmps:=args++Array.replicate (g.ntmps-args.size) undef,defers:=[] } w):Calls P f args w R:=
 callsIn_wide.1 (callsIn_of_wp_marks (F:=B_ none) (n:=0) hf hb trivial (wpIn_wide.2 h))
variable {α:Type} {pre:List Aa} {C:α→Prop} {res:α→Pr} {post:α→List Aa} {M1:Av} {w1:World}
theorem Hs.ofM {f : FuncId} {ps : List Pr} (hf : P.funcs[f]? = some g) (hb : g.body = some c) (hname : (g.name == "runtime.NumGoroutine") = false) (hlen : ps.length ≤ g.ntmps)
  (h:∀M0 w0 S rs M1 w1,Tr (QT P) g.ntmps (Gw 0 ps) (Hp M0 w0 S (pre++AX M1 w1::rs)) c (Fy P g (Lq M0 w0 S rs M1 w1 C res post))):Hs P f ps pre C res post:=by
 refine ⟨⟨g,hf,hname,by rw [hb];rfl⟩,fun M0 w0 S rs M w vs hI hv=> ?_⟩
 refine JR hf hb (h M0 w0 S rs M w _ _ ⟨M,?_,rfl,Dn hv,?_⟩)
 ·
  have:=hv.length
  simp [this];omega
 · exact An.perm List.perm_middle.symm (An.Gz hI (r:=AX M w) rfl (Ext.refl _ _))
end
def QA (g:Nat) (V_:List Nat):Aa where
 blk:=none
 new:=true
 h M w:=∀(j:Nat) (x:Nat),V_[j]? =some x→w.cell? ⟨g,j,none⟩=some (.int .u8 (x:Int))∧¬M g j
 st M w M' w' he _ h:=fun j x hx=>by
  obtain ⟨h1,h2⟩:=h j x hx
  obtain ⟨h3,h4⟩:=he.keep ⟨g,j,none⟩ _ h1 h2
  exact ⟨h4,h3⟩
def Jq (p:Prop):Aa:=⟨none,true,fun _ _=>p,fun _ _ _ _ _ _ h=>h⟩
section
variable {P:Program} {L:Lg P} {n:Fm} {E:Env} {M0:Av} {w0:World} {S:Nat→Prop} {rs:List Aa} {o:Oper} {r:List Oper} {ops:Array Oper} {Q:Exit→Act→World→Prop} {c:Code}
theorem bg {t:TypeId} {x:Operand} {g j i:Nat} {V_:List Nat} {y:Nat} (ho:o.op= .load t x) (ht:C9 P t=true) (hx:VL E x (is (.pointer (some ⟨g,i,none⟩)))) (hy:V_[i]? =some y):Gx P M0 w0 S j (SR.c (QA g V_)) o E (is (.int .u8 (y:Int))):=by
 intro M w a rs he hI hj
 have h0:a.eval x= .pointer (some ⟨g,i,none⟩):=hx.ev he (by simp [ho,Op.operands])
 have hj':rs[j]? =some (QA g V_):=hj
 obtain ⟨h1,_⟩:=(hI.hold _ (List.mem_of_getElem? hj')).1 i y hy
 have hrun:(execOp a.eval o).run P w= .ok (.value (.int .u8 (y:Int))) w:=by simp [execOp,ho,h0,Instr.loadAt,Instr.sureAddr,loadVar,C_ ht,h1]
 rw [hrun]
 exact ⟨rfl,Below.refl _ _⟩
end
section
variable {P:Program}
theorem K9.of {gf:Nat} {lb:Array Value} {α:Type} {enc:α→Value} {xs:List α} {own:List α→List Aa} {g:Func} {c:Code} {ps:List Pr} (hf:P.funcs[gf]? =some g) (hb:g.body=some c) (hlen:ps.length+1≤g.ntmps) (hps:∀M w,HL M w ps lb.toList)
  (h:∀(M0:Av) (w0:World) (S:Nat→Prop) (l:Nat) (β:Type) (R Rx:List α→β→List Aa) (M1:Av) (w1:World),
   (∀pre x d M w,(pre++[x])<+:xs→An M0 w0 S (own (pre++[x])++R pre d) M w→YieldAt (B_ none) 0 P l #[enc x] w fun e w'=>∃M' d',Ext M w M' w'∧
    ((e= .returned (.bool true)∧An M0 w0 S (own (pre++[x])++R (pre++[x]) d') M' w')∨(e= .returned (.bool false)∧An M0 w0 S (own (pre++[x])++Rx (pre++[x]) d') M' w')))→
   ∀ d, Tr (WC P none) g.ntmps (Gw 0 (is (.func (.yield l) #[] #[]) :: ps)) (Hp M0 w0 S (own [] ++ AX M1 w1 :: R [] d)) c
    (Fy P g fun e w'=>(∃v,e= .returned v)∧∃M' d',Ext M1 w1 M' w'∧(An M0 w0 S (own xs++R xs d') M' w'∨∃pre,pre<+:xs∧An M0 w0 S (own pre++Rx pre d') M' w'))):K9 P gf lb enc xs own:=by
 intro M0 w0 S l β R Rx hy d M w hI
 refine callsIn_of_wp_marks (F:=B_ none) (n:=0) hf hb trivial (h M0 w0 S l β R Rx M w hy d _ _ ⟨M,?_,rfl,?_,?_⟩)
 ·
  have:=(hps M w).length
  simp at this ⊢;omega
 ·
  have h2:HL M w (is (.func (.yield l) #[] #[])::ps) ((.func (.yield l) #[] #[])::lb.toList):=⟨rfl,hps M w⟩
  have h3:=Dn (m:=g.ntmps-(#[Value.func (.yield l) #[] #[]]++lb:Array Value).size) h2
  have e1:(Value.func (.yield l) #[] #[]::lb.toList).toArray= #[Value.func (.yield l) #[] #[]]++lb:=by apply Array.ext';simp
  rw [e1] at h3;exact h3
 · exact An.perm List.perm_middle.symm (An.Gz hI (r:=AX M w) rfl (Ext.refl _ _))
end
section
variable {P:Program} {I:Bn} {E:Env} {o:Oper}
theorem Vd {t u:TypeId} {x y:Operand} {b:BitVec 32} (ho:o.op= .binOp .eql t x y u) (hx:VL E x (u32 b)) (hy:VL E y (is (.int .u32 0))):AH P I o E (bool (b==0#32)):=
 AH.same fun M w a he _=>by
  have h1:a.eval x= .int .u32 b.toNat:=hx.ev he (by simp [ho,Op.operands])
  have h2:a.eval y= .int .u32 0:=hy.ev he (by simp [ho,Op.operands])
  refine ⟨.bool (b==0#32),?_,rfl⟩
  rw [←RS]
  simp [execOp,ho,h1,h2,eqGuard,binOp,Op.intCmp]
theorem bh {t u:TypeId} {x y:Operand} {b:BitVec 32} (ho:o.op= .binOp .neq t x y u) (hx:VL E x (u32 b)) (hy:VL E y (is (.int .u32 0))):AH P I o E (bool (!(b==0#32))):=
 AH.same fun M w a he _=>by
  have h1:a.eval x= .int .u32 b.toNat:=hx.ev he (by simp [ho,Op.operands])
  have h2:a.eval y= .int .u32 0:=hy.ev he (by simp [ho,Op.operands])
  refine ⟨.bool (!(b==0#32)),?_,rfl⟩
  rw [←RS]
  simp [execOp,ho,h1,h2,eqGuard,binOp,Op.intCmp]
  rw [Bool.eq_iff_iff];simp
theorem bk {t u:TypeId} {x y:Operand} {b:BitVec 32} {i:Nat} (ho:o.op= .binOp .eql t x y u) (hx:VL E x (u32 ((b>>>i)&&&1#32))) (hy:VL E y (is (.int .u32 1))):AH P I o E (bool (b.getLsbD i)):=
 AH.same fun M w a he _=>by
  have h1:a.eval x= .int .u32 ((b>>>i)&&&1#32).toNat:=hx.ev he (by simp [ho,Op.operands])
  have h2:a.eval y= .int .u32 1:=hy.ev he (by simp [ho,Op.operands])
  refine ⟨.bool (b.getLsbD i),?_,rfl⟩
  rw [←bV]
  simp [execOp,ho,h1,h2,eqGuard,binOp,Op.intCmp]
theorem Ve {t:TypeId} {x:Operand} {b:BitVec 32} (ho:o.op= .unOp .neg t x) (hx:VL E x (u32 b)):AH P I o E (u32 (-b)):=
 AH.same fun M w a he _=>by
  have h1:a.eval x= .int .u32 b.toNat:=hx.ev he (by simp [ho,Op.operands])
  refine ⟨.int .u32 ((-b).toNat:Int),?_,rfl⟩
  have e1:IntKind.u32.wrap (0-(b.toNat:Int))=((-b).toNat:Int):=by
   rw [RR,BitVec.toNat_neg];have:=b.isLt;omega
  rw [←e1]
  simp [execOp,ho,h1,Op.unary,Op.intArith]
theorem Vf {t u:TypeId} {x y:Operand} {b c:BitVec 32} (ho:o.op= .binOp .mul t x y u) (hx:VL E x (u32 b)) (hy:VL E y (u32 c)):AH P I o E (u32 (b*c)):=
 AH.same fun M w a he _=>by
  have h1:a.eval x= .int .u32 b.toNat:=hx.ev he (by simp [ho,Op.operands])
  have h2:a.eval y= .int .u32 c.toNat:=hy.ev he (by simp [ho,Op.operands])
  refine ⟨.int .u32 ((b*c).toNat:Int),?_,rfl⟩
  have e1:IntKind.u32.wrap ((b.toNat:Int)*(c.toNat:Int))=((b*c).toNat:Int):=by
   rw [RR,BitVec.toNat_mul]
   have e2:(b.toNat:Int)*(c.toNat:Int)=((b.toNat*c.toNat:Nat):Int):=by rw [Int.natCast_mul]
   rw [e2]
   generalize b.toNat*c.toNat=n
   show ((n:Int) % 4294967296)=((n % 4294967296:Nat):Int)
   omega
  rw [←e1]
  simp [execOp,ho,h1,h2,eqGuard,binOp,Op.intArith]
theorem X9 {t u:TypeId} {x y:Operand} {b:BitVec 32} {k:IntKind} {i:Int} (ho:o.op= .binOp .shr t x y u) (hx:VL E x (u32 b)) (hy:VL E y (is (.int k i))) (hi:0≤i):AH P I o E (u32 (b>>>i.toNat)):=
 AH.same fun M w a he _=>by
  have h1:a.eval x= .int .u32 b.toNat:=hx.ev he (by simp [ho,Op.operands])
  have h2:a.eval y= .int k i:=hy.ev he (by simp [ho,Op.operands])
  refine ⟨.int .u32 ((b>>>i.toNat).toNat:Int),?_,rfl⟩
  rw [←VT]
  simp [execOp,ho,h1,h2,eqGuard,binOp,Op.shift,show ¬i<0 by omega,IntKind.bits]
theorem QB {t e:TypeId} {x y:Operand} {k:IntKind} {i:Int} {g len:Nat} (ho:o.op= .indexAddr t x y) (ht:P.underlying t=some (.array len e)) (hz:Af P e=some 1) (hx:VL E x (is (.pointer (some ⟨g,0,none⟩)))) (hy:VL E y (is (.int k i))) (h0:0≤i) (h1:i<len):
  AH P I o E (is (.pointer (some ⟨g,i.toNat,none⟩))):=
 AH.same fun M w a he _=>by
  have h2:a.eval x= .pointer (some ⟨g,0,none⟩):=hx.ev he (by simp [ho,Op.operands])
  have h3:a.eval y= .int k i:=hy.ev he (by simp [ho,Op.operands])
  refine ⟨.pointer (some ⟨g,i.toNat,none⟩),?_,rfl⟩
  simp [execOp,ho,h2,h3,Instr.indexAt,asIntOf,run_underlying ht,BT hz,h0,h1,Instr.sureAddr,Addr.add]
  intro;omega
end
end Cp
namespace Go.Proofs.YtppdobdifkefcaaGreatDoor
open Go Go.RowKit Cp Go.Proofs.Tryz
abbrev Dh:Aa:=QA 0 OV
theorem PF {b:BitVec 32} (h:b≠0#32):OV[(((((b&&& -b)*125613361#32)>>>27).toNat:Nat):Int).toNat]? =some (EC b):=by
 rw [Int.toNat_natCast,Sk h];exact X6 _ (P7 h)
theorem X_ (b:BitVec 32):(((b>>>27).toNat:Nat):Int)<32:=by
 rw [BitVec.toNat_ushiftRight,Nat.shiftRight_eq_div_pow];have:=b.isLt;omega
theorem Vg {b:BitVec 32} (hb:b≠0#32):A9 prog 47 [u32 b] (int ((EC b:Nat):Int)) (Dh) (fun _=>Dh):=by
 refine A9.of func47 rfl rfl (by exact Nb rfl) fun M0 w0 S rs M1 w1=> ?_
 have hll:=P7 hb
 refine Tr.seq (Tr.Ai (cm rfl (Ch.nil (Fin.go (Tr.seq (Tr.seq (Tr.Ai (cm rfl (co rfl (Vd rfl (vl rfl) (vl rfl)) (Ch.nil (Fin.go ?_)))))))))))
 refine Tr.cn rfl ?_ ?_<;>intro h1 q1
 exfalso;exact hb (by simpa using h1)
 refine Tr.skip (Fin.go (Tr.seq (Tr.Ai (cm rfl (cm rfl (co rfl (Ve rfl (vl rfl)) (co rfl (OR rfl (vl rfl) (vl rfl)) ?_)))))))
 refine co rfl (Vf (c:=125613361#32) rfl (vl rfl) (vl rfl)) ?_
 refine co rfl (X9 rfl (vl rfl) (vl rfl) (by decide)) (co rfl (QB rfl underlying151 HP (vl rfl) (vl rfl) (Int.natCast_nonneg _) (X_ _)) (co rfl (CH 0 rfl (bg rfl rfl (vl rfl) (PF hb))) ?_))
 refine co rfl (J8 rfl underlying5 underlying3 (vl rfl) (by unfold HS;omega)) ?_
 refine cm rfl (Ch.nil (Fin.go (Tr.ret (Fin.D7 rfl rfl ?_ (fun _ _ _ _=>rfl)))))
 · exact Lr
end Go.Proofs.YtppdobdifkefcaaGreatDoor
namespace Cp
open Go Go.RowKit Go.Great
section
variable {P:Program} {Q:Exit→Act→World→Prop} {K:Act→World→Prop} {a:Act} {w:World} {o:Oper} {ops:Array Oper}
theorem Ff {i:Nat} {rest:List Nat} (ho:ops[i]? =some o) (hg:o.guard=none) (h:o.wpIn (B_ none) 0 P a w (wpOpsIn (B_ none) 0 P ops Q rest) Q):wpOpsIn (B_ none) 0 P ops Q (i::rest) a w:=by
 unfold wpOpsIn;rw [ho];dsimp only;rw [if_pos (by simp [Region.wanted,hg])];exact h
theorem RZ {x:Operand} (ho:o.op= .move x) (k:K (a.put o.dst (a.eval x)) w):o.wpIn (B_ none) 0 P a w K Q:=
 RQ (by unfold Gt;rw [ho]) (fun _ _ h=>h) (by unfold Oper.wp;simp [execOp,ho];exact k)
theorem bl {t:TypeId} {x:Operand} {b:Bool} (ho:o.op= .unOp .not t x) (hx:a.eval x= .bool b) (k:K (a.put o.dst (.bool (!b))) w):o.wpIn (B_ none) 0 P a w K Q:=
 RQ (by unfold Gt;rw [ho]) (fun _ _ h=>h) (by unfold Oper.wp;simp [execOp,ho,hx,Op.unary];exact k)
theorem Tr.Vh {n:Fm} {E:Env} {M0 M1:Av} {w0 w1:World} {S:Nat→Prop} {id t0 t3 d0 d1 d2 d3:Nat} {o0 o1 o2 o3:Oper} {ts:Array TypeId} {ty:TypeId} {α β:Type} {l:Nat} {enc:α→Value} {xs:List α} {own:List α→List Aa} {R Rx:List α→β→List Aa} {pre:List α} {x:α} {d:β}
  (hy:∀pre x d M w,(pre++[x])<+:xs→An M0 w0 S (own (pre++[x])++R pre d) M w→YieldAt (B_ none) 0 P l #[enc x] w fun e w'=>∃M' d',Ext M w M' w'∧
    ((e= .returned (.bool true)∧An M0 w0 S (own (pre++[x])++R (pre++[x]) d') M' w')∨(e= .returned (.bool false)∧An M0 w0 S (own (pre++[x])++Rx (pre++[x]) d') M' w')))
  (hpre:(pre++[x])<+:xs) (g0:o0.guard=none) (g1:o1.guard=none) (g2:o2.guard=none) (g3:o3.guard=none) (p0:o0.op= .move (.tmp t0)) (p1:o1.op= .move (.tmp t3)) (p2:o2.op= .call { callee:= .value (.tmp d0),args:= #[.tmp d1],argTypes:=ts }) (p3:o3.op= .unOp .not ty (.tmp d2))
  (e0:o0.dst=some d0) (e1:o1.dst=some d1) (e2:o2.dst=some d2) (e3:o3.dst=some d3) (n0:d0<n) (n1:d1<n) (n2:d2<n) (n3:d3<n) (ne:d0≠d1∧t3≠d0)
  (h0:E.lookup t0=some (is (.func (.yield l) #[] #[]))) (h3:E.lookup t3=some (is (enc x))) (f0:E.lookup d0=none) (f1:E.lookup d1=none) (f2:E.lookup d2=none)
  (kT:∀d',Fin n ((d3,bool false)::E) (Hp M0 w0 S (own (pre++[x])++AX M1 w1::R (pre++[x]) d')) Q .normal)
  (kF:∀d',Fin n ((d3,bool true)::E) (Hp M0 w0 S (own (pre++[x])++AX M1 w1::Rx (pre++[x]) d')) Q .normal):
  Tr (WC P none) n E (Hp M0 w0 S (own (pre++[x])++AX M1 w1::R pre d)) (.region id #[o0,o1,o2,o3] false) Q:=by
 rintro a w ⟨M,hsz,hdf,hE,hI⟩
 have hI:An M0 w0 S (own (pre++[x])++AX M1 w1::R pre d) M w:=hI
 obtain ⟨hx,jS⟩:=T0 hI
 have Qg:a.tmps.getD t0 undef= .func (.yield l) #[] #[]:=hE _ _ h0
 have hv3:a.tmps.getD t3 undef=enc x:=hE _ _ h3
 have fin:∀(b:Bool) (tl:List Aa) (w':World) (M':Av),Ext M w M' w'→An M0 w0 S (own (pre++[x])++tl) M' w'→
   St n ((d3,bool (!b))::E) (Hp M0 w0 S (own (pre++[x])++AX M1 w1::tl)) ((((a.put (some d0) (.func (.yield l) #[] #[])).put (some d1) (enc x)).put (some d2) (.bool b)).put (some d3) (.bool (!b))) w':=by
  intro b tl w' M' he hh
  refine ⟨M',by simp only [BL];exact hsz,by simp only [put_defers];exact hdf,fun s q hq=> ?_,An.perm List.perm_middle.symm (An.Gz hh (r:=AX M1 w1) rfl (hx.trans he))⟩
  simp only [List.lookup] at hq
  by_cases hs:s=d3
  · subst hs;simp at hq;subst hq;rw [A8 (by simp only [BL];rw [hsz];exact n3)];rfl
  ·
   rw [show (s==d3)=false by simpa using hs] at hq
   have S7:s≠d2:=fun e=>by rw [e,f2] at hq;cases hq
   have hs1:s≠d1:=fun e=>by rw [e,f1] at hq;cases hq
   have hs0:s≠d0:=fun e=>by rw [e,f0] at hq;cases hq
   rw [Ap hs,Ap S7,Ap hs1,Ap hs0]
   exact q.st _ _ _ _ _ he (hE s q hq)
 refine wpIn_region ?_
 show wpOpsIn (B_ none) 0 P _ Q [0,1,2,3] a w
 refine Ff (o:=o0) rfl g0 (RZ p0 ?_)
 refine Ff (o:=o1) rfl g1 (RZ p1 ?_)
 rw [e0,e1]
 have k0:a.eval (.tmp t0)= .func (.yield l) #[] #[]:=Qg
 have k3:(a.put (some d0) (a.eval (.tmp t0))).eval (.tmp t3)=enc x:=by
  show (a.put (some d0) _).tmps.getD t3 undef=_
  rw [Ap ne.2];exact hv3
 rw [k3,k0]
 refine Ff (o:=o2) rfl g2 (VQ (v:=enc x) p2 ?_ ?_ (hy pre x d M w hpre jS) ?_)
 ·
  show (Act.put _ _ _).tmps.getD d0 undef=_
  rw [Ap ne.1,A8 (by rw [hsz];exact n0)]
 ·
  show (Act.put _ _ _).tmps.getD d1 undef=_
  rw [A8 (by rw [BL,hsz];exact n1)]
 ·
  rintro e w' ⟨M',d',he,hh⟩
  have hnot:∀(b:Bool) (tl:List Aa),An M0 w0 S (own (pre++[x])++tl) M' w'→Fin n ((d3,bool (!b))::E) (Hp M0 w0 S (own (pre++[x])++AX M1 w1::tl)) Q .normal→wpOpsIn (B_ none) 0 P #[o0,o1,o2,o3] Q [3] (((a.put (some d0) (.func (.yield l) #[] #[])).put (some d1) (enc x)).put o2.dst (.bool b)) w':=by
   intro b tl hh k
   rw [e2]
   refine Ff (o:=o3) rfl g3 (bl (b:=b) p3 ?_ ?_)
   ·
    show (Act.put _ _ _).tmps.getD d2 undef=_
    rw [A8 (by simp only [BL];rw [hsz];exact n2)]
   ·
    rw [e3]
    exact k _ _ (fin b tl w' M' he hh)
  rcases hh with ⟨rfl,hh⟩|⟨rfl,hh⟩
  · exact ⟨_,rfl,hnot true _ hh (kT d')⟩
  · exact ⟨_,rfl,hnot false _ hh (kF d')⟩
theorem YA {I:Bn} {E:Env} {f:Fn} {x:Operand} {u:Value} (ho:o.op= .makeFunc f #[] #[x]) (hx:VL E x (is u)):AH P I o E (is (.func f #[] #[u])):=
 AH.same fun M w a he _=>by
  have h1:a.eval x=u:=hx.ev he (by simp [ho,Op.operands])
  exact ⟨.func f #[] #[u],by simp [execOp,ho,Instr.makeFunc,h1],rfl⟩
end
section
variable {P:Program} {L:Lg P} {n:Fm} {fz:Nat} {E:Env} {M0:Av} {w0:World} {S:Nat→Prop} {o:Oper}
def GL (p:Pr) (v:Value):Aa:=⟨none,true,fun M w=>p.h M w v,fun M w M' w' he _ h=>p.st M w M' w' v he h⟩
def ZA (e:TypeId) (zs:List Value) (v:Value):Aa:=match v with| .slice (some a) _ _=>AB true a.block e (zs.map is)|_=>BA
def Vi (R:Value→Value→Value→Aa) (u:Value):Aa:=match u with| .tuple t=>R (t.getD 1 undef) (t.getD 2 undef) (t.getD 0 undef)|_=>BA
def OY (R:Value→Value→Aa) (u:Value):Aa:=match u with| .tuple t=>R (t.getD 1 undef) (t.getD 0 undef)|_=>BA
theorem QC {a:Act} {d s t:Nat} {R:Value→Value→Value→Aa}:SR.at_ a ⟨.three d s t,Vi R⟩=R (a.tmps.getD s undef) (a.tmps.getD t undef) (a.tmps.getD d undef):=rfl
theorem Jr {a:Act} {d s:Nat} {R:Value→Value→Aa}:SR.at_ a ⟨.two d s,OY R⟩=R (a.tmps.getD s undef) (a.tmps.getD d undef):=rfl
theorem DL.conv {a:Act} {M:Av} {w:World} {p q:Pr} {j:Nat} {R1 R2:SR} {rs:List Aa} {r:Result Next} (hq:Pr.le p q) (hR:∀v,R1.at_ (a.put o.dst v)=R2.at_ (a.put o.dst v)) (h:DL P M0 w0 S o a M w p j R1 rs r):DL P M0 w0 S o a M w q j R2 rs r:=by
 cases r with
 |halt x w'=>exact h
 |ok x w'=>
  cases x
  case value v=>obtain ⟨M',g1,g2,g3⟩:=h;exact ⟨M',hq _ _ _ g1,g2,by rw [←hR];exact g3⟩
  case skip=>obtain ⟨M',g1,g2,g3⟩:=h;exact ⟨M',hq _ _ _ g1,g2,by rw [←hR];exact g3⟩
  case enter f args=>
   refine Calls.mono h ?_
   rintro e w'' ⟨v,M',g0,g1,g2,g3⟩
   exact ⟨v,M',g0,hq _ _ _ g1,g2,by rw [←hR];exact g3⟩
  all_goals exact h
theorem Fg {M:Av} {w:World} {a:Act} (h:Bi M w E o a) (s:Nat) {p0:Pr} (eO:p0.h M w (a.tmps.getD s undef)):Bi M w ((s,AZ (a.tmps.getD s undef) p0)::E) o a:=fun c p hc hp=>by
 simp only [List.lookup] at hp
 by_cases hcs:c=s
 · subst hcs;simp only [beq_self_eq_true,Option.some.injEq] at hp;subst hp;exact ⟨rfl,eO⟩
 · rw [show (c==s)=false by simpa using hcs] at hp;exact h c p hc hp
theorem bn {j d s t:Nat} {R:SR} {p1 p2 q:Pr} {p:Value→Value→Pr} {R':Value→Value→Value→Aa} (hd:o.dst=some d) (hs:d≠s) (ht:d≠t) (hq:∀v1 v2,Pr.le (p v1 v2) q) (hg:o.guard=none) (h1:E.lookup s=some p1) (h2:E.lookup t=some p2) (hls:s∈looks o) (hlt:t∈looks o) (h:∀v1 v2,Cd P M0 w0 S n j R ⟨d,R' v1 v2⟩ o ((s,AZ v1 p1)::(t,AZ v2 p2)::E) (p v1 v2)):Cd P M0 w0 S n j R ⟨.three d s t,Vi R'⟩ o E q:=by
 refine ⟨hg,fun M w a rs hsz he hI hj=> ?_⟩
 refine DL.conv (hq _ _) (fun v=> ?_) ((h (a.tmps.getD s undef) (a.tmps.getD t undef)).2 M w a rs hsz (Fg (Fg he t (he t p2 hlt h2)) s (he s p1 hls h1)) hI hj)
 rw [QC,hd,Ap (Ne.symm hs),Ap (Ne.symm ht)];rfl
theorem Vj {j d:Nat} {p:Pr} (hg:o.guard=none) (hd:o.dst=some d) (hn:d<n) (h:∀I,AH P I o E p):Cd P M0 w0 S n j (SR.c BA) ⟨d,GL p⟩ o E p:=by
 refine ⟨hg,fun M w a rs hsz he hI hj=> ?_⟩
 have hj':rs[j]? =some BA:=hj
 have hat:∀v,SR.at_ (a.put o.dst v) ⟨d,GL p⟩=GL p v:=fun v=>by show GL p ((a.put o.dst v).tmps.getD d undef)=_;rw [hd,A8 (by rw [hsz];exact hn)]
 have YB:=h (Hp M0 w0 S rs) M w a he hI
 revert YB
 generalize (execOp a.eval o).run P w=r
 intro YB
 have key:∀v w',p.h M w' v→Below w.heap.size w w'→∃M',p.h M' w' v∧Ext M w M' w'∧An M0 w0 S (rs.set j (SR.at_ (a.put o.dst v) ⟨d,GL p⟩)) M' w':=fun v w' hv hb=>by
  refine ⟨M,hv,Ext.below hb,?_⟩
  rw [hat]
  exact An.CI ((Hp M0 w0 S rs).st _ _ _ hb hI) hj' rfl rfl hv
 cases r with
 |halt x w'=>exact YB
 |ok x w'=>
  cases x
  case value v=>exact key v w' YB.1 YB.2
  case skip=>exact key undef w' YB.1 YB.2
  case enter f args=>
   obtain ⟨hb,hc⟩:=YB
   refine Calls.mono hc ?_
   rintro e w'' ⟨v,g0,g1,g2⟩
   obtain ⟨M',k1,k2,k3⟩:=key v w'' g1 (I6 hb g2)
   exact ⟨v,M',g0,k1,k2,k3⟩
  all_goals exact YB
theorem Vk {t e:TypeId} {x y:Operand} {d j m Y8:Nat} {z:Value} (hg:o.guard=none) (hd:o.dst=some d) (hn:d<n) (ho:o.op= .makeSlice t x y) (ht:P.underlying t=some (.slice e)) (hs:Af P e=some 1) (hby:BZ P e=some Y8) (hz:Ax P e=some [z]) (h1:z.oneCell'=true)
  (hx:VL E x (int ((m:Nat):Int))) (hy:VL E y (int ((m:Nat):Int))) (hm:m≤maxLen) (hb:Y8*m≤281474976710656):Cd P M0 w0 S n j (SR.c BA) ⟨d,ZA e (List.replicate m z)⟩ o E (Cp.ex fun b=>is (MT m b)):=by
 refine ⟨hg,fun M w a rs Ib he hI hj=> ?_⟩
 have hx1:a.eval x= .int .i64 m:=hx.ev he (by simp [ho,Op.operands])
 have hy1:a.eval y= .int .i64 m:=hy.ev he (by simp [ho,Op.operands])
 have hi:∃i,P.info? e=some i∧i.size=1∧i.bytes=Y8∧∃z',i.zero=some z'∧z'.cells= #[z]:=by
  unfold Af at hs;unfold BZ at hby;unfold Ax at hz
  cases hi:P.info? e with
  |none=>rw [hi] at hs;cases hs
  |some i=>
   rw [hi] at hs hby hz
   simp at hs hby hz
   obtain ⟨z',h2,h3⟩:=hz
   exact ⟨i,rfl,hs,hby,z',h2,by rw [←Array.toList_inj,h3]⟩
 obtain ⟨i,hi,hi1,hi2,z',Gj,TH⟩:=hi
 have hmk:madeCells z'.cells m=(List.replicate m z).toArray:=by
  rw [TH]
  apply Array.ext
  · simp [madeCells]
  ·
   intro j h1 h2
   simp [madeCells,Nat.mod_one]
 have hrun:=run_make (P:=P) w t e i z' ht hi Gj .i64 .i64 (m:Int) (m:Int) (by omega) (Int.le_refl _) (by rw [hi2];have h0:((Y8*m:Nat):Int)≤281474976710656:=Int.ofNat_le.2 hb;rw [←Int.natCast_mul];exact h0) (by unfold maxLen at hm;omega)
 rw [hi1] at hrun
 simp only [Int.toNat_natCast,Nat.mul_one] at hrun
 rw [hmk] at hrun
 have DC:(execOp a.eval o).run P w= .ok (.value (MT m w.heap.size)) (w.alloc (.cells (List.replicate m z).toArray e)):=by simp [execOp,ho,hx1,hy1,hrun]
 rw [DC]
 have hb:Below w.heap.size w (w.alloc (.cells (List.replicate m z).toArray e)):=(Below.refl _ _).alloc (Nat.le_refl _) _
 have h2:=Ext.below (M:=M) hb
 have Co:Ext M w (fun b o=>M b o∨b=w.heap.size) (w.alloc (.cells (List.replicate m z).toArray e)):=by
  refine ⟨h2.size,fun a v hc hm=>⟨fun hx=> ?_,(h2.keep a v hc hm).2⟩,fun b o ho hp hm=>⟨fun hx=> ?_,(h2.obj b o ho hp hm).2⟩⟩
  ·
   rcases hx with hx|hx
   · exact hm hx
   · have:=CN hc;omega
  ·
   rcases hx with hx|hx
   · exact hm hx
   · subst hx;simp at ho
 have hs1:(w.alloc (.cells (List.replicate m z).toArray e)).heap.size=w.heap.size+1:=by simp
 have hat:(SR.at_ (a.put o.dst (MT m w.heap.size)) ⟨d,ZA e (List.replicate m z)⟩)=AB true w.heap.size e ((List.replicate m z).map is):=by unfold SR.at_ Slot.val;dsimp only;rw [hd,A8 (by rw [Ib];exact hn)];rfl
 refine ⟨fun b o=>M b o∨b=w.heap.size,⟨_,rfl⟩,Co,?_⟩
 rw [hat]
 refine hI.replace hj Co hb.os hb.tape hb.output (fun k hk _=>hb.block k hk) rfl (fun b o hm _=> .inl hm) (fun b o hx=> ?_) ?_ rfl (fun b hbk=> ?_)
 ·
  rcases hx with hx|hx
  · have:=hI.bd _ _ hx;omega
  · omega
 · exact ⟨fun o=> .inr rfl,List.replicate m z,heap_alloc_new w _,HV _ _ _,fun c hc=>by rw [List.eq_of_mem_replicate hc];exact h1⟩
 ·
  have Cr:some w.heap.size=some b:=hbk
  injection Cr with e1
  subst e1
  exact ⟨by rw [hs1];omega,.inr (Nat.le_refl _)⟩
theorem MC {s:Nat} {op:Op} (h:(Operand.tmp s)∈op.operands.toList) (ho:o.op=op):s∈looks o:=List.mem_filterMap.2 ⟨_,by rw [ho];exact h,rfl⟩
theorem YC {d j s x y:Nat} {T:TypeId} {ps:Value→Value→List Pr} (hg:o.guard=none) (hd:o.dst=some d) (hn:d<n) (ho:o.op= .box T (.tmp s)) (hx:d≠x) (hy:d≠y):
  Cd P M0 w0 S n j ⟨.three s x y,Vi fun v1 v2=>GL (agg (ps v1 v2))⟩ ⟨.three d x y,Vi fun v1 v2=>DZ T (ps v1 v2)⟩ o E (Cp.ex fun b=>ptr b 0):=by
 refine ⟨hg,fun M w a rs hsz he hI hj=> ?_⟩
 have hj':rs[j]? =some (GL (agg (ps (a.tmps.getD x undef) (a.tmps.getD y undef))) (a.tmps.getD s undef)):=hj
 have hjl:j<rs.length:=by rcases Nat.lt_or_ge j rs.length with h|h;exact h;rw [List.getElem?_eq_none h] at hj';cases hj'
 have hr:=(hI.hold _ (List.mem_of_getElem? hj')).1
 have jS:An M0 w0 S (rs.set j BA) M w:=An.CI hI hj' rfl rfl trivial
 have d_:Bi M w ((s,agg (ps (a.tmps.getD x undef) (a.tmps.getD y undef)))::E) o a:=fun c p hc hp=>by
  simp only [List.lookup] at hp
  by_cases hcs:c=s
  · subst hcs;simp only [beq_self_eq_true,Option.some.injEq] at hp;subst hp;exact hr
  · rw [show (c==s)=false by simpa using hcs] at hp;exact he c p hc hp
 have h:=(X1 (P:=P) (M0:=M0) (w0:=w0) (S:=S) (n:=n) (j:=j) (T:=T) (ps:=ps (a.tmps.getD x undef) (a.tmps.getD y undef)) (E:=(s,agg (ps (a.tmps.getD x undef) (a.tmps.getD y undef)))::E) hg hd hn ho (VL.le ⟨_,List.lookup_cons_self,Pr.le_refl _⟩ (AV _))).2 M w a _ hsz d_ jS (by rw [List.getElem?_set_self hjl];rfl)
 have h2:DL P M0 w0 S o a M w (Cp.ex fun b=>ptr b 0) j ⟨d,DZ T (ps (a.tmps.getD x undef) (a.tmps.getD y undef))⟩ rs ((execOp a.eval o).run P w):=by
  revert h
  generalize (execOp a.eval o).run P w=r
  intro h
  cases r with
  |halt x w'=>exact h
  |ok x w'=>
   cases x
   case value v=>simpa only [DL,List.set_set] using h
   case skip=>simpa only [DL,List.set_set] using h
   case enter f args=>simpa only [DL,List.set_set] using h
   all_goals exact h
 refine DL.conv (Pr.le_refl _) (fun v=> ?_) h2
 rw [QC,hd,Ap (Ne.symm hx),Ap (Ne.symm hy)];rfl
theorem Sl {t:TypeId} {s y:Tmp} {j:Nat} {T:TypeId} {ps:List Pr} {p:Pr} [One p] (hg:o.guard=none) (hd:o.dst=none) (ho:o.op= .store t (.tmp s) (.tmp y)) (hsy:s≠y) (hx:E.lookup s=some (Cp.ex fun b=>ptr b 0)) (hy:E.lookup y=some p)
  (hz:Af P t=some 1) (hl:ps.length=1):Cd P M0 w0 S n j ⟨s,DZ T ps⟩ ⟨.two s y,OY fun v=>DZ T [AZ v p]⟩ o E any:=by
 refine ⟨hg,fun M w a rs hsz he hI hj=> ?_⟩
 have lM:y∈looks o:=MC (op:= .store t (.tmp s) (.tmp y)) (by simp [Op.operands]) ho
 have d_:Bi M w ((y,AZ (a.tmps.getD y undef) p)::E) o a:=fun c q hc hq=>by
  simp only [List.lookup] at hq
  by_cases hcs:c=y
  · subst hcs;simp only [beq_self_eq_true,Option.some.injEq] at hq;subst hq;exact ⟨rfl,he _ p lM hy⟩
  · rw [show (c==y)=false by simpa using hcs] at hq;exact he c q hc hq
 have h:=(Im (P:=P) (M0:=M0) (w0:=w0) (S:=S) (n:=n) (j:=j) (T:=T) (ps:=ps) (qs:=[AZ (a.tmps.getD y undef) p]) (E:=(y,AZ (a.tmps.getD y undef) p)::E) hg hd ho (by simp only [List.lookup];rw [show (s==y)=false by simpa using hsy];exact hx) (VL.le ⟨_,List.lookup_cons_self,Pr.le_refl _⟩ (AD _)) hz rfl hl).2 M w a rs hsz d_ hI hj
 refine DL.conv (Pr.le_refl _) (fun v=> ?_) h
 rw [Jr,hd];rfl
theorem BH.bp {Q:Exit→Act→World→Prop} {rs:List SR} (s:Nat) {p:Pr} (hs:E.lookup s=some p) (k:∀v,BH n M0 w0 S ((s,AZ v p)::E) rs Q):BH n M0 w0 S E rs Q:=by
 rintro a w ⟨M,g1,g2,g3,g4⟩
 refine k (a.tmps.getD s undef) a w ⟨M,g1,g2,fun c z hz=> ?_,g4⟩
 simp only [List.lookup] at hz
 by_cases hcs:c=s
 · subst hcs;simp only [beq_self_eq_true,Option.some.injEq] at hz;subst hz;exact ⟨rfl,g3 c p hs⟩
 · rw [show (c==s)=false by simpa using hcs] at hz;exact g3 c z hz
theorem BH.fix {Q:Exit→Act→World→Prop} {rs:List SR} (j:Nat) {R:SR} (r:Aa) (hR:rs[j]? =some R) (hs:∀a:Act,(∃M w,DT M w E a)→R.at_ a=r) (k:BH n M0 w0 S E (rs.set j (SR.c r)) Q):BH n M0 w0 S E rs Q:=by
 rintro a w ⟨M,g1,g2,g3,g4⟩
 refine k a w ⟨M,g1,g2,g3,?_⟩
 have e:=hs a ⟨M,w,g3⟩
 have e3:(rs.set j (SR.c r)).map (·.at_ a)=rs.map (·.at_ a):=by
  apply List.ext_getElem?
  intro m
  rw [List.getElem?_map,List.getElem?_map,List.getElem?_set]
  by_cases cO:j=m
  ·
   subst cO
   have hjl:j<rs.length:=by rcases Nat.lt_or_ge j rs.length with h|h;exact h;rw [List.getElem?_eq_none h] at hR;cases hR
   rw [if_pos rfl,if_pos hjl,hR]
   show some ((SR.c r).at_ a)=some (R.at_ a)
   rw [e];rfl
  · rw [if_neg cO]
 rw [e3];exact g4
theorem I0 {M:Av} {w:World} {a:Act} {s:Nat} {v:Value} {p:Pr} (h:DT M w E a) (hs:E.lookup s=some (AZ v p)):a.tmps.getD s undef=v:=(h s _ hs).1
theorem BH.bq {Q:Exit→Act→World→Prop} {rs:List SR} (j s:Nat) {f:Value→Aa} {v:Value} {p:Pr} (hR:rs[j]? =some ⟨s,f⟩) (hs:E.lookup s=some (AZ v p)) (k:BH n M0 w0 S E (rs.set j (SR.c (f v))) Q):BH n M0 w0 S E rs Q:=
 BH.fix j _ hR (fun a ⟨_,_,h⟩=>by show f (a.tmps.getD s undef)=_;rw [I0 h hs]) k
theorem BH.bt {Q:Exit→Act→World→Prop} {rs:List SR} (j d s:Nat) {f:Value→Value→Aa} {u v:Value} {p q:Pr} (hR:rs[j]? =some ⟨.two d s,OY f⟩) (hd:E.lookup d=some (AZ u p)) (hs:E.lookup s=some (AZ v q)) (k:BH n M0 w0 S E (rs.set j (SR.c (f v u))) Q):BH n M0 w0 S E rs Q:=
 BH.fix j _ hR (fun a ⟨_,_,h⟩=>by rw [Jr,I0 h hs,I0 h hd]) k
theorem BH.pR {Q:Exit→Act→World→Prop} {rs:List SR} (j d s t:Nat) {f:Value→Value→Value→Aa} {u v1 v2:Value} {p q1 q2:Pr} (hR:rs[j]? =some ⟨.three d s t,Vi f⟩) (hd:E.lookup d=some (AZ u p)) (hs:E.lookup s=some (AZ v1 q1)) (ht:E.lookup t=some (AZ v2 q2)) (k:BH n M0 w0 S E (rs.set j (SR.c (f v1 v2 u))) Q):BH n M0 w0 S E rs Q:=
 BH.fix j _ hR (fun a ⟨_,_,h⟩=>by rw [QC,I0 h hs,I0 h ht,I0 h hd]) k
end
section
variable {P:Program} {L:Lg P} {n:Fm} {fz:Nat} {E:Env} {I:Bn} {M0:Av} {w0:World} {S:Nat→Prop} {rs:List Aa} {Q:Exit→Act→World→Prop} {c:Code}
theorem Fin.shape {e:Exit} (s:Nat) {v:Value} (form:Nat→Value) (hs:E.lookup s=some (AZ v (Cp.ex fun b=>is (form b)))) (k:∀b,v=form b→Fin n ((s,is (form b))::E) (Hp M0 w0 S rs) Q e):Fin n E (Hp M0 w0 S rs) Q e:=by
 intro a w hst
 obtain ⟨M,h1,h2,he,h4⟩:=hst
 obtain ⟨h5,b,h6⟩:=he s _ hs
 have hv:v=form b:=by rw [←h5];exact h6
 refine k b hv a w ⟨M,h1,h2,fun c z hz=> ?_,h4⟩
 simp only [List.lookup] at hz
 by_cases hcs:c=s
 · subst hcs;simp only [beq_self_eq_true,Option.some.injEq] at hz;subst hz;exact h6
 · rw [show (c==s)=false by simpa using hcs] at hz;exact he c z hz
theorem Fin.OZ {e:Exit} (j:Nat) {r:Aa} (r':Aa) (hi:rs[j]? =some r) (h:r=r') (k:Fin n E (Hp M0 w0 S (rs.set j r')) Q e):Fin n E (Hp M0 w0 S rs) Q e:=by
 subst h
 have hjl:j<rs.length:=by rcases Nat.lt_or_ge j rs.length with h|h;exact h;rw [List.getElem?_eq_none h] at hi;cases hi
 have e1:rs.set j r=rs:=by
  apply List.ext_getElem?
  intro m
  rw [List.getElem?_set]
  by_cases cO:j=m
  · subst cO;rw [if_pos rfl,if_pos hjl,hi]
  · rw [if_neg cO]
 rw [e1] at k;exact k
theorem Tr.jW {α:Type} (ni:α→Fm) (Ei:α→Env) (Ii:α→Bn) (C:α→Prop) (μ:α→Nat) (x0:α) (hn:ni x0=n) (h0:C x0) (hs:Bc E (Ei x0)) (hI:∀M w,I.h M w→(Ii x0).h M w)
  (k:∀x,C x→Tr L (ni x) (Ei x) (Ii x) c (Exit.then (fun a w=>∃y,(C y∧μ y<μ x)∧St (ni y) (Ei y) (Ii y) a w) Q)):Tr L n E I (.loop c) Q:=by
 intro a w hst
 refine L.loop μ (fun x a w=>C x∧St (ni x) (Ei x) (Ii x) a w) (fun x a w ⟨hc,h⟩=> ?_) x0 a w ⟨h0,?_⟩
 ·
  refine L.mono ?_ (k x hc a w h)
  intro e a w hq
  cases e with
  |normal=>obtain ⟨y,⟨h1,h2⟩,h3⟩:=hq;exact ⟨y,h2,h1,h3⟩
  |_=>exact hq
 · rw [hn];exact hst.sub hs hI
theorem Fin.Vl {e:Exit} {rs':List Aa} (hp:rs.Perm rs') (k:Fin n E (Hp M0 w0 S rs') Q e):Fin n E (Hp M0 w0 S rs) Q e:=fun a w ⟨M,h1,h2,h3,h4⟩=>k a w ⟨M,h1,h2,h3,An.perm hp h4⟩
theorem A9.ofM {f : FuncId} {g : Func} {ps : List Pr} {res : Pr} {R : Aa} {R' : Value → Aa} (hf : P.funcs[f]? = some g) (hb : g.body = some c) (hname : (g.name == "runtime.NumGoroutine") = false) (hlen : ps.length ≤ g.ntmps)
  (h:∀M0 w0 S rs M1 w1,Tr (QT P) g.ntmps (Gw 0 ps) (Hp M0 w0 S (R::AX M1 w1::rs)) c (Fy P g (J7 M0 w0 S rs M1 w1 res R'))):A9 P f ps res R R':=by
 refine ⟨⟨g,hf,hname,by rw [hb];rfl⟩,fun M0 w0 S rs M w vs hI hv=> ?_⟩
 refine JR hf hb (h M0 w0 S rs M w _ _ ⟨M,?_,rfl,Dn hv,?_⟩)
 ·
  have:=hv.length
  simp [this];omega
 · exact An.perm (List.Perm.swap _ _ _) (An.Gz hI (r:=AX M w) rfl (Ext.refl _ _))
end
section
variable {P:Program} {L:Lg P} {n:Fm} {fz:Nat} {E:Env} {I:Bn} {M0:Av} {w0:World} {S:Nat→Prop} {rs:List Aa} {Q:Exit→Act→World→Prop} {c:Code}
abbrev QD (l D:Nat) (rec:Obj) (M1:Av) (w1:World) (rs:List Aa):List Aa:=Ak l rec::Ak D (.deferred (some []))::AX M1 w1::rs
theorem Tr.bu {α:Type} {p gf:Nat} {g:Operand} {lb:Array Value} {enc:α→Value} {xs:List α} {own:List α→List Aa} {assign body:Code} (q:Nat) (K:Env) (hK:Bc E K) (R:List α→List Aa)
  (jQ:K9 P gf lb enc xs own) (eg:Entry P gf) (hg:VL E g (is (.func (.func gf) #[] lb))) (jR:rs.Perm (own []++R [])) (hp:K.lookup p=none) (hpn:p<n.sz)
  (hassign:∀l D rec M1 w1 pre x,(pre++[x])<+:xs→Tr (WC P (some l)) ⟨n.sz,[]⟩ ((p,is (enc x))::K) (Hp M0 w0 S (own (pre++[x])++QD l D rec M1 w1 (R pre))) assign (Exit.then (St ⟨n.sz,[]⟩ ((q,is (enc x))::K) (Hp M0 w0 S (own (pre++[x])++QD l D rec M1 w1 (R pre)))) (fun _ _ _=>False)))
  (hbody : ∀ l D rec M1 w1 pre x, (pre ++ [x]) <+: xs → Tr (WC P (some l)) ⟨n.sz, []⟩ ((q, is (enc x)) :: K) (Hp M0 w0 S (own (pre ++ [x]) ++ QD l D rec M1 w1 (R pre))) body
   (Jo M0 w0 S (fun _:Unit=>own (pre++[x])++QD l D rec M1 w1 (R (pre++[x]))) (fun _ _=>own (pre++[x])++QD l D rec M1 w1 [Jq False])))
  (hdone:∀l D rec M1 w1,Fin ⟨n.sz,mark D::n.df⟩ E (Hp M0 w0 S (own xs++QD l D rec M1 w1 (R xs))) Q .normal):
  Tr (QT P) n E (Hp M0 w0 S rs) (.rangeFunc g #[p] assign body) Q:=by
 refine Tr.bR (fun x=>(q,is (enc x))::K) (fun pre (_:Unit)=>R pre) (fun _ _ _=>[Jq False]) () jQ (fun args w=>DV eg args w) hg jR ?_ ?_ (fun l D rec M1 w1 _=>hdone l D rec M1 w1) ?_
 ·
  intro l D rec M1 w1 pre x d hpre a hsz hE M w hI
  have hx:Ext M1 w1 M w:=(hI.hold (AX M1 w1) (by simp)).1
  refine hassign l D rec M1 w1 pre x hpre _ w ⟨M,by simpa using hsz,rfl,fun s z hq=> ?_,hI⟩
  simp only [List.lookup] at hq
  by_cases hs:s=p
  ·
   subst hs
   simp only [beq_self_eq_true,Option.some.injEq] at hq
   subst hq
   show (a.tmps.setIfInBounds s (enc x)).getD s undef=enc x
   simp [Array.getD_eq_getD_getElem?,hsz,hpn]
  ·
   rw [show (s==p)=false by simpa using hs] at hq
   obtain ⟨z',Gj,TH⟩:=hK.spec s z hq
   have h2:=z.st _ _ _ _ _ hx (TH _ _ _ (hE s z' Gj))
   show z.h M w ((a.tmps.setIfInBounds p (enc x)).getD s undef)
   have e1:(a.tmps.setIfInBounds p (enc x)).getD s undef=a.tmps.getD s undef:=by
    simp only [Array.getD_eq_getD_getElem?]
    rw [Array.getElem?_setIfInBounds_ne (fun e=>hs e.symm)]
   rw [e1];exact h2
 ·
  intro l D rec M1 w1 pre x d hpre
  exact hbody l D rec M1 w1 pre x hpre
 ·
  intro l D rec M1 w1 c pre d hpre a w ⟨M,_,_,_,h⟩
  have h:An M0 w0 S (own pre++QD l D rec M1 w1 [Jq False]) M w:=h
  exact ((h.hold (Jq False) (by simp)).1).elim
theorem Fin.st {E1:Env} {Q':Exit→Act→World→Prop} (hs:Bc E E1):Fin n E I (Exit.then (St n E1 I) Q') .normal:=fun _ _ h=>h.sub hs (fun _ _ h=>h)
theorem Fin.rnd {β:Type} {rr:β→List Aa} {rx:Code→β→List Aa} (d:β) (hp:rs.Perm (rr d)):Fin n E (Hp M0 w0 S rs) (Jo M0 w0 S rr rx) .normal:=fun _ _ ⟨M,_,_,_,h⟩=>⟨d,M,An.perm hp h⟩
theorem Tr.bw {α β:Type} (K:Env) (hK:Bc E K) (ni:α→β→Fm) (Ei:α→β→Env) (Ii:α→β→Bn) (C:α→β→Prop) (μ:α→β→Nat) (x0:α) (y0:β) (hn:ni x0 y0=n) (h0:C x0 y0) (hs:Bc E (Ei x0 y0)) (hI:∀M w,I.h M w→(Ii x0 y0).h M w)
  (k:∀x y,C x y→Tr L (ni x y) (Ei x y++K) (Ii x y) c (Exit.then (fun a w=>∃x' y',(C x' y'∧μ x' y'<μ x y)∧St (ni x' y') (Ei x' y'++K) (Ii x' y') a w) Q)):Tr L n E I (.loop c) Q:=
 Tr.jW (fun p : α × β => ni p.1 p.2) (fun p => Ei p.1 p.2 ++ K) (fun p => Ii p.1 p.2) (fun p => C p.1 p.2) (fun p => μ p.1 p.2) (x0, y0) hn h0 (HT hs hK) hI
  fun ⟨x,y⟩ hC a w hst=>L.mono (fun e a w hq=>by
   cases e with
   |normal=>obtain ⟨x',y',h1,h2⟩:=hq;exact ⟨(x',y'),h1,h2⟩
   |_=>exact hq) (k x y hC a w hst)
theorem Fin.jX {α β:Type} {ni:α→β→Fm} {E1:α→β→Env} {I1:α→β→Bn} {C:α→β→Prop} (i:α) (j:β) (hn:ni i j=n) (hC:C i j) (hs:Bc E (E1 i j)) (hI:∀M w,I.h M w→(I1 i j).h M w):Fin n E I (Exit.then (fun a w=>∃x y,C x y∧St (ni x y) (E1 x y) (I1 x y) a w) Q) .normal:=
 fun _ _ hst=>⟨i,j,hC,by rw [hn];exact hst.sub hs hI⟩
end
section
variable {P:Program} {fz:Nat} {E:Env} {M0 M1:Av} {w0 w1:World} {S:Nat→Prop} {g:Func} {α β:Type} {xs:List α} {own:List α→List Aa} {R Rx:List α→β→List Aa}
theorem Fin.jY {d:β} (hr:g.results= #[]):Fin ⟨fz,[]⟩ E (Hp M0 w0 S (own xs++AX M1 w1::R xs d)) (Fy P g fun e w'=>(∃v,e= .returned v)∧∃M' d',Ext M1 w1 M' w'∧(An M0 w0 S (own xs++R xs d') M' w'∨∃pre,pre<+:xs∧An M0 w0 S (own pre++Rx pre d') M' w')) .normal:=by
 refine Fin.bf (Fin.Vc ?_)
 rintro a w ⟨M,_,hd,he,hi⟩
 obtain ⟨h1,h2⟩:=T0 hi
 exact ⟨hd,_,results0 hr,⟨_,rfl⟩,M,d,h1,.inl h2⟩
theorem Fin.bz {d:β} {pre:List α} (hr:g.results= #[]) (hp:pre<+:xs):Fin ⟨fz,[]⟩ E (Hp M0 w0 S (own pre++AX M1 w1::Rx pre d)) (Fy P g fun e w'=>(∃v,e= .returned v)∧∃M' d',Ext M1 w1 M' w'∧(An M0 w0 S (own xs++R xs d') M' w'∨∃pre,pre<+:xs∧An M0 w0 S (own pre++Rx pre d') M' w')) .ret:=by
 refine Fin.Vc ?_
 rintro a w ⟨M,_,hd,he,hi⟩
 obtain ⟨h1,h2⟩:=T0 hi
 exact ⟨hd,_,results0 hr,⟨_,rfl⟩,M,d,h1,.inr ⟨pre,hp,h2⟩⟩
theorem A9.b_ {f:FuncId} {args:List Pr} {form:Nat→Value} {r':Value→Aa} (h:Hs P f args [] (fun _=>True) (fun b=>is (form b)) (fun b=>[r' (form b)])):A9 P f args (Cp.ex fun b=>is (form b)) BA r':=by
 refine ⟨h.1,fun M0 w0 S rs M w vs hI hv=>(h.2 M0 w0 S rs M w vs (An.JC hI) hv).mono ?_⟩
 rintro e w' ⟨v,M',b,rfl,_,h1,h2,h3⟩
 obtain rfl:v=form b:=h1
 exact ⟨_,M',rfl,⟨b,rfl⟩,h2,h3⟩
end
end Cp
namespace Go.Proofs.YtppdobdifkefcaaGreatDoor
open Go Go.RowKit Cp Go.Proofs.Tryz
theorem M7 {b:BitVec 32} {i:Nat}  :A7 prog 77 [u32 b,int ((i:Nat):Int)] (bool (b.getLsbD i)):=by
 refine fo func77 rfl ⟨rfl,rfl⟩ fun M0 w0=> ?_
 refine a2 ?_
 refine co rfl (VU rfl (vl rfl) (vl rfl) (Int.natCast_nonneg _)) ?_
 refine co rfl (OR (c:=1#32) rfl (vl rfl) (vl rfl)) ?_
 refine co rfl (bk rfl (vl rfl) (vl rfl)) ?_
 refine a2 ?_
 · exact Lr
abbrev MD:TypeId:=118
abbrev cA (b:Nat):Value:= .func (.func 131) #[] #[.pointer (some ⟨b,0,none⟩)]
def pS (s:BitVec 32) (v:Value):Aa:=match v with| .func _ _ #[.pointer (some a)]=>AB true a.block MD [u32 s]|_=>BA
def Fh (s:BitVec 32) (pre:List Nat):BitVec 32:=pre.foldl Sj s
theorem I2 (s:BitVec 32) (pre:List Nat) (x:Nat):Fh s (pre++[x])=Sj (Fh s pre) x:=by unfold Fh;rw [List.foldl_append];rfl
theorem cB {s:BitVec 32}  :Hs (α:=Nat) prog 106 [u32 s] [] (fun _=>True) (fun b=>is (cA b)) (fun b=>[AB true b MD [u32 s]]):=by
 refine Hs.of func106 rfl rfl (by exact Nb rfl) fun M0 w0 S rs M1 w1=>(Tr.seq (Tr.Az ?_))
 refine TO.O3 rfl rfl (by decide) rfl (Vo rfl) (fun b1=> ?_)
 refine ap ?_
 refine Tr.seq (Tr.Ai (co rfl (YA rfl (vl rfl)) ?_))
 refine ac ?_
 refine Tr.ret (Fin.f_ (b1) rfl (BE.tmp rfl (Lr)) trivial ?_ (List.Perm.refl _))
 · exact Lr
theorem jZ {s:BitVec 32}:A9 Tryz.prog 106 [u32 s] (Cp.ex fun b=>is (cA b)) BA (pS s):=A9.b_ cB
theorem YD {s:BitVec 32} {b:Nat}  :K9 prog 131 #[.pointer (some ⟨b,0,none⟩)] (fun i:Nat=> .int .i64 (i:Int)) (LS s) (fun pre=>[Dh,AB true b MD [u32 (Fh s pre)]]):=by
 refine K9.of (ps:=[is (.pointer (some ⟨b,0,none⟩))]) func131 rfl (by exact Nb rfl) (fun _ _=>⟨rfl,trivial⟩) ?_
 intro M0 w0 S l β R Rx M1 w1 hy d
 refine Tr.block (Tr.F5 [(0,_),(1,_)] ⟨ke rfl,ke rfl,trivial⟩ (fun (pre:List Nat) (d2:β)=>[]) (fun (pre:List Nat) (d2:β)=>Hp M0 w0 S (Dh::AB true b MD [u32 (Fh s pre)]::AX M1 w1::R pre d2)) (fun (pre:List Nat) (d2:β)=>pre++LS (Fh s pre)=LS s) (fun (pre:List Nat) (d2:β)=>(LS (Fh s pre)).length) ([]) (d)  (rfl) trivial (fun _ _ h=>h) ?_)
 rintro pre d2  lN
 refine Tr.seq (Tr.seq (Tr.Ai (co rfl (CH 1 rfl (Aq rfl Ey (vl rfl) rfl)) (co rfl (bh rfl (vl rfl) (vl rfl)) (Ch.nil (Fin.go ?_))))))
 refine Tr.cn rfl ?_ ?_<;>intro h1 q1
 have hne:Fh s pre≠0#32:=by simpa using h1
 have Vm:=IE hne
 have hll:=P7 hne
 have hpx:(pre++[EC (Fh s pre)])<+:LS s:=⟨LS (Sj (Fh s pre) (EC (Fh s pre))),by rw [←lN,Vm];simp⟩
 refine Tr.skip (Fin.go (Tr.block (Tr.seq (Tr.Az (TO.rd 1 rfl rfl rfl (by decide) (Aq rfl Ey (vl rfl) rfl) (TO.E8 0 rfl rfl (by decide) (AY rfl rfl (by decide) rfl (Vg hne) ⟨ke rfl,trivial⟩) (tm rfl (TO.nil (Fin.go (Tr.seq (Tr.JU mixed [some (0,1,false,0),none,none,none,some (0,1,true,0)] (by kernel_rfl) (Ie 1 rfl rfl (Aq rfl Ey (vl rfl) rfl) (xm rfl ?_)))))))))))))
 refine xo rfl (fun _=>GK (b:=1#32) rfl (vl rfl) (vl rfl) (Int.natCast_nonneg _)) ?_
 refine xo rfl (fun _=>JP rfl (vl rfl) (vl rfl)) (Cx.E3 1 rfl rfl (BI rfl rfl (vl rfl) (Vo rfl) D8 rfl (by exact Nb rfl) rfl) ?_)
 refine Cx.nil ⟨rfl,?_⟩
 refine BH.done (A0.cons (A0.cons (A0.cons (A0.map _)))) (Fin.go (Tr.seq ?_))
 refine Tr.HO 1 [u32 (Fh s (pre++[EC (Fh s pre)]))] rfl ⟨Pr.le_of_eq (by rw [I2];rfl),trivial⟩ ?_
 refine Tr.Vh (own:=fun pre=>[Dh,AB true b MD [u32 (Fh s pre)]]) (pre:=pre) (x:=EC (Fh s pre)) (d:=d2) hy hpx rfl rfl rfl rfl rfl rfl rfl rfl rfl rfl rfl rfl (by exact Nb rfl) (by exact Nb rfl) (by exact Nb rfl) (by exact Nb rfl) (by decide) rfl rfl rfl rfl rfl (fun d3=> ?_) (fun d3=> ?_)
 refine Fin.go (Tr.cond rfl (fun h=>nomatch h) (fun _=> ?_))
 refine Tr.skip (Fin.block ?_)
 exact Fin.Hf (pre++[EC (Fh s pre)]) (d3)  (⟨by rw [I2,List.append_assoc,←lN,Vm];rfl,by rw [I2,Vm];simp⟩) ⟨ke rfl,ke rfl,trivial⟩ (fun _ _ h=>h)
 refine Fin.go (Tr.cond rfl (fun _=> ?_) (fun h=>nomatch h))
 refine Tr.ret (Fin.Ae (Fin.AE (Fin.Ae (Fin.bz (g:=f131) (own:=fun pre=>[Dh,AB true b MD [u32 (Fh s pre)]]) (R:=R) (Rx:=Rx) (d:=d3) rfl hpx))))
 have hz:Fh s pre=0#32:=by simpa using h1
 obtain rfl:pre=LS s:=by rw [hz,OU,List.append_nil] at lN;exact lN
 refine Tr.exit (Fin.AU (Fin.AU (Fin.Am (Fin.jY (g:=f131) (own:=fun pre=>[Dh,AB true b MD [u32 (Fh s pre)]]) (xs:=LS s) (R:=R) (Rx:=Rx) (d:=d2) rfl))))
theorem YE:Entry Tryz.prog 131:=⟨_,Tryz.func131,rfl,rfl⟩
-- bits as qo are jc (behind qp.lean)
def ZB (p:Nat→Bool):Nat→BitVec 32
 |0=>0#32
 |k+1=>if p k then RT (ZB p k) k else ZB p k
theorem QE (p:Nat→Bool):∀(k:Nat) {j:Nat},k≤32→(ZB p k).getLsbD j=(decide (j<k)&&p j)
 |0,j,_=>by simp [ZB]
 |k+1,j,hk=>by
  have ih:= @QE p k j (by omega)
  unfold ZB
  split
  next h=>
   rw [P5 (by omega),ih]
   by_cases hj:k=j
   · subst hj;simp [h]
   ·
    by_cases h2:j<k
    ·
     have:j<k+1:=by omega
     simp [h2,this,hj]
    ·
     have:¬j<k+1:=by omega
     simp [h2,this,hj]
  next h=>
   rw [ih]
   by_cases hj:k=j
   · subst hj;simp at h;simp [h]
   ·
    by_cases h2:j<k
    ·
     have:j<k+1:=by omega
     simp [h2,this]
    ·
     have:¬j<k+1:=by omega
     simp [h2,this]
def DG (n:Nat) (l:List BG):List (BitVec 32):=(List.range n).map fun b=>ZB (fun a=>CM l n a b) n
theorem CA (n:Nat) (l:List BG):(DG n l).length=n:=by unfold DG;simp
theorem EL {n:Nat} {l:List BG} (hn:n≤32):Cz n (DG n l) (CM l n):=by
 refine ⟨CA n l,fun b x hx a=> ?_⟩
 unfold DG at hx
 rw [List.getElem?_map] at hx
 rcases Nat.lt_or_ge b n with hb|hb
 ·
  rw [List.getElem?_range hb] at hx
  simp only [Option.map_some,Option.some.injEq] at hx
  subst hx
  exact QE _ n hn
 · rw [List.getElem?_eq_none (by simpa using hb)] at hx;cases hx
theorem QF {n:Nat} {B C:List (BitVec 32)} {M:Nat→Nat→Bool} (h:Cz n B M) (h':Cz n C M):B=C:=by
 apply List.ext_getElem?
 intro b
 rcases Nat.lt_or_ge b n with hb|hb
 ·
  obtain ⟨x,hx⟩:=at_ (l:=B) (k:=b) (by rw [h.1];exact hb)
  obtain ⟨y,hy⟩:=at_ (l:=C) (k:=b) (by rw [h'.1];exact hb)
  rw [hx,hy]
  congr 1
  exact BitVec.eq_of_getLsbD_eq fun i _=>by rw [h.2 b x hx,h'.2 b y hy]
 · rw [List.getElem?_eq_none (by rw [h.1];exact hb),List.getElem?_eq_none (by rw [h'.1];exact hb)]
theorem Sm {l:List BG} {k:Nat} {r:BG} (h:l[k]? =some r) (a b:Nat):Gs (l.take (k+1)) a b=(Gs (l.take k) a b||(decide (r.fst=(a:Int))&&decide (r.thn=(b:Int)))):=by
 unfold Gs;rw [List.take_add_one,h,List.any_append];simp
theorem QG {n:Nat} {B:List (BitVec 32)} {l:List BG} {k:Nat} {r:BG} {x:BitVec 32} (h:Cz n B (Gs (l.take k))) (hr:l[k]? =some r) (hf:0≤r.fst∧r.fst<n) (ht:0≤r.thn) (hx:B[r.thn.toNat]? =some x) (hn:n≤32):Cz n (B.set r.thn.toNat (RT x r.fst.toNat)) (Gs (l.take (k+1))):=by
 refine IF (VV h hx (f:=r.fst.toNat) (by omega) hn) fun a b _ _=> ?_
 rw [Sm hr]
 congr 1
 rw [decide_eq_decide.2 (show r.fst.toNat=a↔r.fst=(a:Int) by omega),decide_eq_decide.2 (show r.thn.toNat=b↔r.thn=(b:Int) by omega)]
def Fz (i:Nat) (A:List (BitVec 32)) (k:Nat):List (BitVec 32):=A.set k (RT (A.getD k 0#32) i)
def Gg (B:List (BitVec 32)):Nat→List (BitVec 32)
 |0=>List.replicate B.length 0#32
 |i+1=>(LS (B.getD i 0#32)).foldl (Fz i) (Gg B i)
theorem I3 (i:Nat):∀(ks:List Nat) (A:List (BitVec 32)),(ks.foldl (Fz i) A).length=A.length
 |[],_=>rfl
 |k::ks,A=>by rw [List.foldl_cons,I3 i ks];unfold Fz;rw [List.length_set]
theorem FI (B:List (BitVec 32)):∀i,(Gg B i).length=B.length
 |0=>List.length_replicate
 |i+1=>by unfold Gg;rw [I3,FI B i]
theorem Sn {B:List (BitVec 32)} {i:Nat} {x:BitVec 32} (h:B[i]? =some x):Gg B (i+1)=(LS x).foldl (Fz i) (Gg B i):=by
 rw [Gg,List.getD_eq_getElem?_getD,h];rfl
def F1 (B:List (BitVec 32)) (s:BitVec 32):Nat→BitVec 32
 |0=>0#32
 |k+1=>if (!s.getLsbD k&&(B.getD k 0#32&&&~~~s==0#32))=true then RT (F1 B s k) k else F1 B s k
theorem Vn {B:List (BitVec 32)} {s x:BitVec 32} {k:Nat} (hx:B[k]? =some x) (h1:s.getLsbD k=false) (h2:(x&&&~~~s==0#32)=true):F1 B s (k+1)=RT (F1 B s k) k:=by
 rw [F1,List.getD_eq_getElem?_getD,hx,if_pos];rw [h1];simpa using h2
theorem YF {B:List (BitVec 32)} {s x:BitVec 32} {k:Nat} (hx:B[k]? =some x) (h:s.getLsbD k=true∨(x&&&~~~s==0#32)=false):F1 B s (k+1)=F1 B s k:=by
 rw [F1,List.getD_eq_getElem?_getD,hx,if_neg]
 intro hc
 rw [Bool.and_eq_true] at hc
 rcases h with h|h
 · rw [h] at hc;cases hc.1
 · have:=hc.2;rw [show (some x).getD 0#32=x from rfl,h] at this;cases this
theorem Vp (B:List (BitVec 32)) (s:BitVec 32):∀k,F1 B s k=ZB (fun j=> !s.getLsbD j&&(B.getD j 0#32&&&~~~s==0#32)) k
 |0=>rfl
 |k+1=>by unfold F1 ZB;rw [Vp B s k]
theorem YG {n:Int} {l:List BG} {s:BitVec 32} {d:List Int} (hv:Ar n l=0) (hs:JQ n.toNat s d) (hc:El l d=true) (j:Nat):(F1 (DG n.toNat l) s n.toNat).getLsbD j=(decide (j<n.toNat)&&OK l d true j):=by
 obtain ⟨h0,_⟩:=Cy hv
 rw [Vp,QE _ _ (by omega)]
 by_cases hj:j<n.toNat
 ·
  obtain ⟨x,hx⟩:=at_ (l:=DG n.toNat l) (k:=j) (by rw [CA];exact hj)
  rw [X8 hv (EL (by omega)) hs hc hx hj,List.getD_eq_getElem?_getD,hx];rfl
 · simp [hj]
theorem Vq {n:Int} {l:List BG} {k:Nat} {s:BitVec 32} (hv:Ar n l=0) (hk:k<n.toNat) (hs:JQ n.toNat s (BM n.toNat l k).2):
  F1 (DG n.toNat l) s n.toNat≠0#32∧EC (F1 (DG n.toNat l) s n.toNat)<n.toNat∧(BM n.toNat l (k+1)).1=(BM n.toNat l k).1++[((EC (F1 (DG n.toNat l) s n.toNat):Nat):Int)]∧JQ n.toNat (RT s (EC (F1 (DG n.toNat l) s n.toNat))) (BM n.toNat l (k+1)).2:=by
 obtain ⟨h0,_⟩:=Cy hv
 have hr:=(Dz hv k (by omega)).1
 obtain ⟨h1,h2,h3⟩:=P_ hv hk (YG hv hs hr.cl)
 refine ⟨h1,h2,by rw [h3],?_⟩
 rw [h3]
 exact Vb hs (by omega)
abbrev bits (B:List (BitVec 32)):Pr:=slice 1 (B.map fun x=>[u32 x])
def cC (a b:BG):Int:=aI [PM a.fst b.fst,PM a.thn b.thn]
theorem M8 {a b:BG}:decide (cC a b≥0)= !C3 a b:=by
 unfold cC C3
 rw [Bool.eq_iff_iff,decide_eq_true_eq]
 simp only [aI,PM]
 repeat' split
 all_goals (simp;try omega)
theorem Gc {B:List (BitVec 32)} {i:Int} {x:BitVec 32} (h:B[i.toNat]? =some x):(B.map fun x=>u32 x)[0+i.toNat*1]? =some (u32 x):=by rw [Nat.zero_add,Nat.mul_one,List.getElem?_map,h];rfl
theorem LB {B:List (BitVec 32)} {i:Int} {x y:BitVec 32} (h:B[i.toNat]? =some x):(B.map fun x=>u32 x).take (0+i.toNat*1)++[u32 y]++(B.map fun x=>u32 x).drop (0+i.toNat*1+1)=(B.set i.toNat y).map fun x=>u32 x:=by
 have hl:i.toNat<B.length:=by rcases Nat.lt_or_ge i.toNat B.length with h2|h2;exact h2;rw [List.getElem?_eq_none h2] at h;cases h
 rw [Nat.zero_add,Nat.mul_one,List.set_eq_take_append_cons_drop,if_pos hl]
 simp [List.map_take,List.map_drop]
theorem ME (B:List (BitVec 32)):(B.map fun x=>u32 x)=(B.map fun x=>[u32 x]).flatten++([]:List Value).map is:=by
 induction B with
 |nil=>rfl
 |cons x B ih=>simp at ih ⊢;exact ih
theorem MF (n:Nat):(List.replicate n (Value.int .u32 0)).map is=(List.replicate n 0#32).map fun x=>u32 x:=by rw [List.map_replicate,List.map_replicate];rfl
theorem Oa {B:List (BitVec 32)} {i:Nat} {x:BitVec 32} (h:B[i]? =some x):(B.map fun x=>[u32 x])[((i:Nat):Int).toNat]? =some [u32 x]:=by rw [Int.toNat_natCast,List.getElem?_map,h];rfl
theorem So {i k:Nat} {pre:List Nat} {A:List (BitVec 32)} {y:BitVec 32} (h:(pre.foldl (Fz i) A)[k]? =some y):(pre.foldl (Fz i) A).set k (RT y i)=(pre++[k]).foldl (Fz i) A:=by
 rw [List.foldl_append]
 show _=(pre.foldl (Fz i) A).set k (RT ((pre.foldl (Fz i) A).getD k 0#32) i)
 rw [List.getD_eq_getElem?_getD,h];rfl
theorem cE {n:Nat} {r:BG} (h:Cv n r=false):(0≤r.fst∧r.fst<n)∧(0≤r.thn∧r.thn<n)∧r.fst≠r.thn:=by
 unfold Cv at h;rw [decide_eq_false_iff_not] at h;omega
theorem cF {ps qs:List Pr} (h:J9 ps qs):Pr.le (ref ps) (ref qs):=fun M w v ⟨a,h1,h2⟩=>⟨a,h1,fun i q hq=>by
 obtain ⟨p,hp,hle⟩:=h.at_ i q hq
 obtain ⟨u,g1,g2⟩:=h2 i p hp
 exact ⟨u,g1,g2.1,g2.2.1,hle _ _ _ g2.2.2⟩⟩
theorem cH {xs pre:List Nat} {x:Nat} (h:(pre++[x])<+:xs):x∈xs:=h.subset (by simp)
theorem QH {a b:BG}  :A7 prog 75 [agg (Iy a),agg (Iy b)] (int (cC a b)):=by
 refine fo func75 rfl ⟨rfl,rfl⟩ fun M0 w0=> ?_
 refine a2 ?_
 refine co rfl (EB (UN) rfl rfl rfl) ?_
 refine ac ?_
 refine co rfl (EB (UN) rfl rfl rfl) (co rfl (AG (xs:=[.tmp 9,.tmp 14]) (rows:=[[_],[_]]) rfl rfl underlying22 C8 z3 rfl (by decide) ⟨⟨(by exact rfl),(Vo rfl)⟩,⟨⟨(by exact rfl),(Vo rfl)⟩,trivial⟩⟩ (by decide)) ?_)
 refine co rfl (Ag rfl (iQ (l:=[PM a.fst b.fst,PM a.thn b.thn])) ⟨(Kf rfl),trivial⟩) ?_
 refine ac ?_
 refine Fl 4 rfl ?_
 refine ac ?_
 · exact Lr
theorem Sq {n:Nat} {l:List BG} (hn:n≤24) (hbd:∀r∈l,Cv n r=false):A9 Tryz.prog 76 [int ((n:Nat):Int),reqs l] (ref [int ((n:Nat):Int),bits (DG n l),bits (Gg (DG n l) n)]) (Dh) (fun _=>Dh):=by
 refine A9.ofM Tryz.func76 rfl rfl (by exact Nat.le_of_ble_eq_true rfl) fun M0 w0 S rs M1 w1=> ?_
 refine Tr.EF 1 rfl fun Ns=> ?_
 refine Tr.seq ?_
 refine Tr.Ai ?_
 refine Ch.op rfl rfl (by decide) (BS rfl (vl rfl)) ?_
 refine Ch.nil ?_
 refine Fin.go ?_
 refine Tr.seq ?_
 refine Tr.pad ?_
 refine Tr.pad ?_
 refine Tr.pad ?_
 refine Tr.pad ?_
 refine Tr.JU mixed [none,none,some (0,0,true,14),none,some (0,1,true,16),some (0,2,true,.three 17 14 16),some (.three 17 14 16,2,true,.three 18 14 16),some (0,3,true,5),some (5,3,true,.two 5 18)] (by kernel_rfl) ?_
 refine Cx.op rfl rfl (by decide) (fun _=>Aw rfl (vl rfl)) ?_
 refine Cx.op rfl rfl (by decide) (fun _=>Aw rfl (vl rfl)) ?_
 refine Cx.ef 0 rfl rfl (by decide) (Vk rfl rfl (by decide) rfl Tryz.underlying148 D8 Yf fJ rfl (vl rfl) (vl rfl) (by unfold maxLen;omega) (by omega)) ?_
 refine Cx.op rfl rfl (by decide) (fun _=>Aw rfl (vl rfl)) ?_
 refine Cx.ef 1 rfl rfl (by decide) (Vk rfl rfl (by decide) rfl Tryz.underlying148 D8 Yf fJ rfl (vl rfl) (vl rfl) (by unfold maxLen;omega) (by omega)) ?_
 refine Cx.ef 2 rfl rfl (by decide) (bn (d:=17) (s:=14) (t:=16) (q:=any) rfl (by decide) (by decide) (fun _ _ _ _ _ _=>trivial) rfl rfl rfl (by decide) (by decide) (fun v1 v2=>Vj rfl rfl (by decide) (fun _=>Ab (rows:=[(0,[_]),(1,[_]),(2,[_])]) rfl fN fO ⟨⟨rfl,VL.le (vl rfl) (AD _)⟩,⟨⟨rfl,VL.le (vl rfl) (AD _)⟩,⟨⟨rfl,VL.le (vl rfl) (AD _)⟩,trivial⟩⟩⟩ rfl))) ?_
 refine Cx.ef 2 rfl rfl (by decide) (YC rfl rfl (by decide) rfl (by decide) (by decide)) ?_
 refine Cx.ef 3 rfl rfl (by decide) (Il rfl rfl (by decide) rfl mX fI) ?_
 refine Cx.E3 3 rfl rfl (Sl rfl rfl rfl (by decide) rfl rfl fH rfl) ?_
 refine Cx.nil ⟨rfl,?_⟩
 refine BH.bp 14 rfl (fun v14=> ?_)
 refine BH.bp 16 rfl (fun v16=> ?_)
 refine BH.bp 18 rfl (fun v18=> ?_)
 refine BH.bp 5 rfl (fun v5=> ?_)
 refine BH.bq 0 14 rfl rfl ?_
 refine BH.bq 1 16 rfl rfl ?_
 refine BH.pR 2 18 14 16 rfl rfl rfl rfl ?_
 refine BH.bt 3 5 18 rfl rfl rfl ?_
 refine BH.done (A0.cons (A0.cons (A0.cons (A0.cons (A0.cons (A0.cons (A0.map _))))))) ?_
 refine Fin.shape 14 (fun b=>MT n b) rfl (fun b1 e1=> ?_)
 refine Fin.shape 16 (fun b=>MT n b) rfl (fun b2 e2=> ?_)
 refine Fin.shape 18 (fun b=> .pointer (some ⟨b,0,none⟩)) rfl (fun b3 e3=> ?_)
 refine Fin.shape 5 (fun b=> .pointer (some ⟨b,0,none⟩)) rfl (fun b4 e4=> ?_)
 subst e1 e2 e3 e4
 refine Fin.OZ 0 (AB true b1 MD ((List.replicate n 0#32).map fun x=>u32 x)) rfl (by rw [←MF];rfl) ?_
 refine Fin.OZ 1 (AB true b2 MD ((List.replicate n 0#32).map fun x=>u32 x)) rfl (by rw [←MF];rfl) ?_
 refine Fin.OZ 2 (AB true b3 150 [int ((n:Nat):Int),AZ (MT n b1) _,AZ (MT n b2) _]) rfl rfl ?_
 refine Fin.HO 2 [int ((n:Nat):Int),is (MT n b1),is (MT n b2)] rfl ⟨Pr.le_refl _,D6 _ _,D6 _ _,trivial⟩ ?_
 refine Fin.OZ 3 (AB true b4 114 [AZ (.pointer (some ⟨b3,0,none⟩)) _]) rfl rfl ?_
 refine Fin.HO 3 [ptr b3 0] rfl ⟨D6 _ _,trivial⟩ ?_
 refine Fin.go ?_
 refine Tr.seq ?_
 refine Tr.seq ?_
 refine Tr.Ai ?_
 refine Ch.op rfl rfl (by decide) (Aw rfl (vl rfl)) ?_
 first
  |refine Ch.op rfl rfl (by decide) (B6 rfl Tryz.underlying39 (vl rfl)) ?_
  |refine Ch.op rfl rfl (by decide) (Br rfl Tryz.underlying39 (vl rfl)) ?_
 refine Ch.op rfl rfl (by decide) (Aw rfl (vl rfl)) ?_
 refine Ch.nil ?_
 refine Fin.go ?_
 refine Tr.block ?_
 refine Tr.F5 [(0,_),(5,_),(19,_),(20,_)] ⟨⟨_,rfl,Pr.le_refl _⟩,⟨_,rfl,Pr.le_refl _⟩,⟨_,rfl,Pr.le_refl _⟩,⟨_,rfl,Pr.le_refl _⟩,trivial⟩ (fun (B:List (BitVec 32)) (m:Nat)=>[(21,int ((m:Nat):Int))]) (fun (B:List (BitVec 32)) (m:Nat)=>Hp M0 w0 S (AB true b1 MD (B.map fun x=>u32 x)::AB true b2 MD ((List.replicate n 0#32).map fun x=>u32 x)::AB true b3 150 [int ((n:Nat):Int),is (MT n b1),is (MT n b2)]::AB true b4 114 [ptr b3 0]::Dh::AX M1 w1::rs)) (fun (B:List (BitVec 32)) (m:Nat)=>m≤l.length∧Cz n B (Gs (l.take m))) (fun (B:List (BitVec 32)) (m:Nat)=>l.length-m) (List.replicate n 0#32) (0)  (⟨Nat.zero_le _,IF (P8 n) fun a b _ _=>rfl⟩) ⟨⟨_,rfl,Pr.le_refl _⟩,trivial⟩ (fun _ _ h=>h) ?_
 rintro B m  ⟨hm0,hB⟩
 refine Tr.seq ?_
 refine Tr.Ai ?_
 refine Ch.op rfl rfl (by decide) (ok_int rfl (vl rfl) (vl rfl) rfl) ?_
 refine Ch.nil ?_
 refine Fin.go ?_
 refine Tr.seq ?_
 refine Tr.cond rfl (fun h1=> ?_) (fun h1=> ?_)
 ·
  have q1:=C5.Di h1
  have hm:m<l.length:=AQ h1
  obtain ⟨r,hr⟩:=at_ hm
  obtain ⟨hf,ht,_⟩:=cE (hbd r (List.mem_of_getElem? hr))
  have hBl:=hB.1
  obtain ⟨x,hx⟩:=at_ (l:=B) (k:=r.thn.toNat) (by omega)
  refine Tr.skip ?_
  refine Fin.go ?_
  refine Tr.seq ?_
  refine Tr.block ?_
  refine Tr.seq ?_
  refine Tr.Az ?_
  refine TO.op rfl rfl (by decide) (AA rfl Tryz.underlying39 CT (vl rfl) (vl rfl) (by omega) (Ah hr)) ?_
  refine TO.op rfl rfl (by decide) (AM rfl Gl CT (vl rfl) rfl rfl) ?_
  refine TO.alloc rfl rfl (by decide) rfl z49 MW (fun b5=> ?_)
  refine TO.At 0 rfl rfl rfl (vl rfl) (VL.le (vl rfl) (AV _)) rfl CT rfl rfl ?_
  refine TO.freeze 0 7 rfl rfl ?_
  refine TO.nil ?_
  refine Fin.go ?_
  refine Tr.JU mixed [some (0,3,false,0),none,none,some (0,2,false,0),none,none,none,some (0,0,false,0),none,none,none,none,none,some (0,0,true,0)] (by kernel_rfl) ?_
  refine Cx.rd 3 rfl rfl rfl (by decide) (Aq rfl G5 (vl rfl) rfl) ?_
  refine Cx.op rfl rfl (by decide) (fun _=>CO rfl (vl rfl)) ?_
  refine Cx.op rfl rfl (by decide) (fun _=>AO rfl GV (vl rfl)) ?_
  refine Cx.rd 2 rfl rfl rfl (by decide) (Aq rfl G6 (vl rfl) rfl) ?_
  refine Cx.op rfl rfl (by decide) (fun _=>BC rfl MY (vl rfl) rfl) ?_
  refine Cx.op rfl rfl (by decide) (fun _=>BU rfl C6 (vl rfl)) ?_
  refine Cx.op rfl rfl (by decide) (fun _=>BP rfl Tryz.underlying148 D8 (vl rfl) (vl rfl) (by omega) (by omega)) ?_
  refine Cx.rd 0 rfl rfl rfl (by decide) (Aq rfl Ey (vl rfl) (Gc hx)) ?_
  refine Cx.op rfl rfl (by decide) (fun _=>BC rfl MX (vl rfl) rfl) ?_
  refine Cx.op rfl rfl (by decide) (fun _=>BU rfl C6 (vl rfl)) ?_
  refine Cx.op rfl rfl (by decide) (fun _=>GK (b:=1#32) rfl (vl rfl) (vl rfl) (by omega)) ?_
  refine Cx.op rfl rfl (by decide) (fun _=>ID rfl (vl rfl) (vl rfl)) ?_
  refine Cx.op rfl rfl (by decide) (fun _=>BP rfl Tryz.underlying148 D8 (vl rfl) (vl rfl) (by omega) (by omega)) ?_
  refine Cx.E3 0 rfl rfl (BI rfl rfl (vl rfl) (VL.le (vl rfl) (AD _)) D8 rfl (by rw [List.length_map];omega) (LB hx)) ?_
  refine Cx.nil ⟨rfl,?_⟩
  refine BH.done (A0.cons (A0.cons (A0.cons (A0.cons (A0.cons (A0.cons (A0.map _))))))) ?_
  refine Fin.block ?_
  refine Fin.go ?_
  refine Tr.weak [(0,_),(5,_),(19,_),(20,_),(21,_)] ⟨⟨_,rfl,Pr.le_refl _⟩,⟨_,rfl,Pr.le_refl _⟩,⟨_,rfl,Pr.le_refl _⟩,⟨_,rfl,Pr.le_refl _⟩,⟨_,rfl,Pr.le_refl _⟩,trivial⟩ ?_
  refine Tr.Ai ?_
  first
   |(refine Ch.op rfl rfl (by decide) (C4 rfl (vl rfl) (vl rfl) ?hin) ?_;case hin=>unfold HS;omega)
   |refine Ch.op rfl rfl (by decide) (ok_int rfl (vl rfl) (vl rfl) rfl) ?_
  refine Ch.op rfl rfl (by decide) (Aw rfl (vl rfl)) ?_
  refine Ch.nil ?_
  exact Fin.Hf (B.set r.thn.toNat (RT x r.fst.toNat)) (m+1)  (⟨⟨hm,QG hB hr hf ht.1 hx (by omega)⟩,by omega⟩) ⟨⟨_,rfl,AF m⟩,⟨_,rfl,Pr.le_refl _⟩,⟨_,rfl,Pr.le_refl _⟩,⟨_,rfl,Pr.le_refl _⟩,⟨_,rfl,Pr.le_refl _⟩,trivial⟩ (fun _ _ h=>h)
 ·
  have q1:=C5.Di h1
  have hml:m=l.length:=by have:=AR h1;omega
  rw [hml,List.take_length] at hB
  refine Tr.exit ?_
  refine Fin.AU ?_
  refine Fin.AU ?_
  refine Fin.Am ?_
  refine Fin.go ?_
  refine Tr.seq ?_
  refine Tr.seq ?_
  refine Tr.Ai ?_
  refine Ch.op rfl rfl (by decide) (Aw rfl (vl rfl)) ?_
  refine Ch.op rfl rfl (by decide) (Aw rfl (vl rfl)) ?_
  refine Ch.nil ?_
  refine Fin.go ?_
  refine Tr.block ?_
  refine Tr.F5 [(0,_),(5,_),(39,_)] ⟨⟨_,rfl,Pr.le_refl _⟩,⟨_,rfl,Pr.le_refl _⟩,⟨_,rfl,Pr.le_refl _⟩,trivial⟩ (fun (B2:List (BitVec 32)) (k:Nat)=>[(40,int ((k:Nat):Int))]) (fun (B2:List (BitVec 32)) (k:Nat)=>Hp M0 w0 S (AB true b1 MD (B2.map fun x=>u32 x)::AB true b2 MD ((List.replicate n 0#32).map fun x=>u32 x)::AB true b3 150 [int ((n:Nat):Int),is (MT n b1),is (MT n b2)]::AB true b4 114 [ptr b3 0]::Dh::AX M1 w1::rs)) (fun (B2:List (BitVec 32)) (k:Nat)=>k≤n∧Cz n B2 (CM l k)) (fun (B2:List (BitVec 32)) (k:Nat)=>n-k) (B) (0)  (⟨Nat.zero_le _,hB⟩) ⟨⟨_,rfl,Pr.le_refl _⟩,trivial⟩ (fun _ _ h=>h) ?_
  rintro B2 k  ⟨hk0,hB2⟩
  refine Tr.seq ?_
  refine Tr.Ai ?_
  refine Ch.op rfl rfl (by decide) (ok_int rfl (vl rfl) (vl rfl) rfl) ?_
  refine Ch.nil ?_
  refine Fin.go ?_
  refine Tr.seq ?_
  refine Tr.cond rfl (fun h2=> ?_) (fun h2=> ?_)
  ·
   have q2:=C5.Di h2
   have hk:k<n:=AQ h2
   refine Tr.skip ?_
   refine Fin.go ?_
   refine Tr.seq ?_
   refine Tr.block ?_
   refine Tr.seq ?_
   refine Tr.Ai ?_
   refine Ch.op rfl rfl (by decide) (Aw rfl (vl rfl)) ?_
   refine Ch.op rfl rfl (by decide) (BS rfl (vl rfl)) ?_
   refine Ch.nil ?_
   refine Fin.go ?_
   refine Tr.seq ?_
   refine Tr.Ai ?_
   refine Ch.op rfl rfl (by decide) (Aw rfl (vl rfl)) ?_
   refine Ch.op rfl rfl (by decide) (Aw rfl (vl rfl)) ?_
   refine Ch.nil ?_
   refine Fin.go ?_
   refine Tr.block ?_
   refine Tr.F5 [(0,_),(5,_),(8,_),(39,_),(40,_),(43,_)] ⟨⟨_,rfl,Pr.le_refl _⟩,⟨_,rfl,Pr.le_refl _⟩,⟨_,rfl,Pr.le_refl _⟩,⟨_,rfl,Pr.le_refl _⟩,⟨_,rfl,Pr.le_refl _⟩,⟨_,rfl,Pr.le_refl _⟩,trivial⟩ (fun (B3:List (BitVec 32)) (i:Nat)=>[(44,int ((i:Nat):Int))]) (fun (B3:List (BitVec 32)) (i:Nat)=>Hp M0 w0 S (AB true b1 MD (B3.map fun x=>u32 x)::AB true b2 MD ((List.replicate n 0#32).map fun x=>u32 x)::AB true b3 150 [int ((n:Nat):Int),is (MT n b1),is (MT n b2)]::AB true b4 114 [ptr b3 0]::Dh::AX M1 w1::rs)) (fun (B3:List (BitVec 32)) (i:Nat)=>i≤n∧Cz n B3 (Gf k (CM l k) i)) (fun (B3:List (BitVec 32)) (i:Nat)=>n-i) (B2) (0)  (⟨Nat.zero_le _,by rw [bW];exact hB2⟩) ⟨⟨_,rfl,Pr.le_refl _⟩,trivial⟩ (fun _ _ h=>h) ?_
   rintro B3 i  ⟨hi0,cI⟩
   refine Tr.seq ?_
   refine Tr.Ai ?_
   refine Ch.op rfl rfl (by decide) (ok_int rfl (vl rfl) (vl rfl) rfl) ?_
   refine Ch.nil ?_
   refine Fin.go ?_
   refine Tr.seq ?_
   refine Tr.cond rfl (fun h3=> ?_) (fun h3=> ?_)
   ·
    have q3:=C5.Di h3
    have hi:i<n:=AQ h3
    have hBl:=cI.1
    obtain ⟨x,hx⟩:=at_ (l:=B3) (k:=i) (by omega)
    obtain ⟨y,hy⟩:=at_ (l:=B3) (k:=k) (by omega)
    refine Tr.skip ?_
    refine Fin.go ?_
    refine Tr.seq ?_
    refine Tr.block ?_
    refine Tr.seq ?_
    refine Tr.Ai ?_
    refine Ch.op rfl rfl (by decide) (Aw rfl (vl rfl)) ?_
    refine Ch.op rfl rfl (by decide) (BS rfl (vl rfl)) ?_
    refine Ch.nil ?_
    refine Fin.go ?_
    refine Tr.seq ?_
    refine Tr.Ai ?_
    refine Ch.op rfl rfl (by decide) (CH 3 rfl (Aq rfl G5 (vl rfl) rfl)) ?_
    refine Ch.op rfl rfl (by decide) (CO rfl (vl rfl)) ?_
    refine Ch.op rfl rfl (by decide) (AO rfl GV (vl rfl)) ?_
    refine Ch.op rfl rfl (by decide) (CH 2 rfl (Aq rfl G6 (vl rfl) rfl)) ?_
    refine Ch.op rfl rfl (by decide) (Aw rfl (vl rfl)) ?_
    refine Ch.op rfl rfl (by decide) (BP rfl Tryz.underlying148 D8 (vl rfl) (vl rfl) (by omega) (by omega)) ?_
    refine Ch.op rfl rfl (by decide) (CH 0 rfl (Aq rfl Ey (vl rfl) (Gc hx))) ?_
    refine Ch.op rfl rfl (by decide) (Aw rfl (vl rfl)) ?_
    refine Ch.op rfl rfl (by decide) (Ag rfl (M7) ⟨⟨_,rfl,Pr.le_refl _⟩,⟨_,rfl,Pr.le_refl _⟩,trivial⟩) ?_
    refine Ch.nil ?_
    refine Fin.go ?_
    refine Tr.weak [(0,_),(5,_),(8,_),(9,_),(39,_),(40,_),(43,_),(44,_),(55,_)] ⟨⟨_,rfl,Pr.le_refl _⟩,⟨_,rfl,Pr.le_refl _⟩,⟨_,rfl,Pr.le_refl _⟩,⟨_,rfl,Pr.le_refl _⟩,⟨_,rfl,Pr.le_refl _⟩,⟨_,rfl,Pr.le_refl _⟩,⟨_,rfl,Pr.le_refl _⟩,⟨_,rfl,Pr.le_refl _⟩,⟨_,rfl,Pr.le_refl _⟩,trivial⟩ ?_
    refine Tr.cond rfl (fun h4=> ?_) (fun h4=> ?_)
    ·
     have q4:=C5.Di h4
     refine Tr.JU mixed [some (0,3,false,0),none,none,some (0,2,false,0),none,none,some (0,0,false,0),some (0,3,false,0),none,none,some (0,2,false,0),none,none,some (0,0,false,0),none,none,some (0,0,true,0)] (by kernel_rfl) ?_
     refine Cx.rd 3 rfl rfl rfl (by decide) (Aq rfl G5 (vl rfl) rfl) ?_
     refine Cx.op rfl rfl (by decide) (fun _=>CO rfl (vl rfl)) ?_
     refine Cx.op rfl rfl (by decide) (fun _=>AO rfl GV (vl rfl)) ?_
     refine Cx.rd 2 rfl rfl rfl (by decide) (Aq rfl G6 (vl rfl) rfl) ?_
     refine Cx.op rfl rfl (by decide) (fun _=>Aw rfl (vl rfl)) ?_
     refine Cx.op rfl rfl (by decide) (fun _=>BP rfl Tryz.underlying148 D8 (vl rfl) (vl rfl) (by omega) (by omega)) ?_
     refine Cx.rd 0 rfl rfl rfl (by decide) (Aq rfl Ey (vl rfl) (Gc hx)) ?_
     refine Cx.rd 3 rfl rfl rfl (by decide) (Aq rfl G5 (vl rfl) rfl) ?_
     refine Cx.op rfl rfl (by decide) (fun _=>CO rfl (vl rfl)) ?_
     refine Cx.op rfl rfl (by decide) (fun _=>AO rfl GV (vl rfl)) ?_
     refine Cx.rd 2 rfl rfl rfl (by decide) (Aq rfl G6 (vl rfl) rfl) ?_
     refine Cx.op rfl rfl (by decide) (fun _=>Aw rfl (vl rfl)) ?_
     refine Cx.op rfl rfl (by decide) (fun _=>BP rfl Tryz.underlying148 D8 (vl rfl) (vl rfl) (by omega) (by omega)) ?_
     refine Cx.rd 0 rfl rfl rfl (by decide) (Aq rfl Ey (vl rfl) (Gc hy)) ?_
     refine Cx.op rfl rfl (by decide) (fun _=>ID rfl (vl rfl) (vl rfl)) ?_
     refine Cx.op rfl rfl (by decide) (fun _=>BP rfl Tryz.underlying148 D8 (vl rfl) (vl rfl) (by omega) (by omega)) ?_
     refine Cx.E3 0 rfl rfl (BI rfl rfl (vl rfl) (VL.le (vl rfl) (AD _)) D8 rfl (by rw [List.length_map];omega) (LB hx)) ?_
     refine Cx.nil ⟨rfl,?_⟩
     refine BH.done (A0.cons (A0.cons (A0.cons (A0.cons (A0.cons (A0.cons (A0.map _))))))) ?_
     refine Fin.block ?_
     refine Fin.go ?_
     refine Tr.weak [(0,_),(5,_),(8,_),(39,_),(40,_),(43,_),(44,_)] ⟨⟨_,rfl,Pr.le_refl _⟩,⟨_,rfl,Pr.le_refl _⟩,⟨_,rfl,Pr.le_refl _⟩,⟨_,rfl,Pr.le_refl _⟩,⟨_,rfl,Pr.le_refl _⟩,⟨_,rfl,Pr.le_refl _⟩,⟨_,rfl,Pr.le_refl _⟩,trivial⟩ ?_
     refine Tr.Ai ?_
     first
      |(refine Ch.op rfl rfl (by decide) (C4 rfl (vl rfl) (vl rfl) ?hin) ?_;case hin=>unfold HS;omega)
      |refine Ch.op rfl rfl (by decide) (ok_int rfl (vl rfl) (vl rfl) rfl) ?_
     refine Ch.op rfl rfl (by decide) (Aw rfl (vl rfl)) ?_
     refine Ch.nil ?_
     exact Fin.Hf (B3.set i (x|||y)) (i+1)  (⟨⟨hi,VY cI hx hy (by rw [←OW cI hx hk];exact h4)⟩,by omega⟩) ⟨⟨_,rfl,AF i⟩,⟨_,rfl,Pr.le_refl _⟩,⟨_,rfl,Pr.le_refl _⟩,⟨_,rfl,Pr.le_refl _⟩,⟨_,rfl,Pr.le_refl _⟩,⟨_,rfl,Pr.le_refl _⟩,⟨_,rfl,Pr.le_refl _⟩,trivial⟩ (fun _ _ h=>h)
    ·
     have q4:=C5.Di h4
     refine Tr.skip ?_
     refine Fin.block ?_
     refine Fin.go ?_
     refine Tr.Ai ?_
     first
      |(refine Ch.op rfl rfl (by decide) (C4 rfl (vl rfl) (vl rfl) ?hin) ?_;case hin=>unfold HS;omega)
      |refine Ch.op rfl rfl (by decide) (ok_int rfl (vl rfl) (vl rfl) rfl) ?_
     refine Ch.op rfl rfl (by decide) (Aw rfl (vl rfl)) ?_
     refine Ch.nil ?_
     exact Fin.Hf (B3) (i+1)  (⟨⟨hi,X7 cI (by rw [←OW cI hx hk];exact h4)⟩,by omega⟩) ⟨⟨_,rfl,AF i⟩,⟨_,rfl,Pr.le_refl _⟩,⟨_,rfl,Pr.le_refl _⟩,⟨_,rfl,Pr.le_refl _⟩,⟨_,rfl,Pr.le_refl _⟩,⟨_,rfl,Pr.le_refl _⟩,⟨_,rfl,Pr.le_refl _⟩,trivial⟩ (fun _ _ h=>h)
   ·
    have q3:=C5.Di h3
    have hin:i=n:=by have:=AR h3;omega
    rw [hin] at cI
    refine Tr.exit ?_
    refine Fin.AU ?_
    refine Fin.AU ?_
    refine Fin.Am ?_
    refine Fin.block ?_
    refine Fin.go ?_
    refine Tr.Ai ?_
    first
     |(refine Ch.op rfl rfl (by decide) (C4 rfl (vl rfl) (vl rfl) ?hin) ?_;case hin=>unfold HS;omega)
     |refine Ch.op rfl rfl (by decide) (ok_int rfl (vl rfl) (vl rfl) rfl) ?_
    refine Ch.op rfl rfl (by decide) (Aw rfl (vl rfl)) ?_
    refine Ch.nil ?_
    exact Fin.Hf (B3) (k+1)  (⟨⟨hk,IF cI fun a b _ hb=>VW hb⟩,by omega⟩) ⟨⟨_,rfl,AF k⟩,⟨_,rfl,Pr.le_refl _⟩,⟨_,rfl,Pr.le_refl _⟩,⟨_,rfl,Pr.le_refl _⟩,trivial⟩ (fun _ _ h=>h)
  ·
   have q2:=C5.Di h2
   have hkn:k=n:=by have:=AR h2;omega
   rw [hkn] at hB2
   obtain rfl:=QF hB2 (EL (by omega))
   refine Tr.exit ?_
   refine Fin.AU ?_
   refine Fin.AU ?_
   refine Fin.Am ?_
   refine Fin.go ?_
   refine Tr.seq ?_
   refine Tr.seq ?_
   refine Tr.Ai ?_
   refine Ch.op rfl rfl (by decide) (Aw rfl (vl rfl)) ?_
   refine Ch.op rfl rfl (by decide) (Aw rfl (vl rfl)) ?_
   refine Ch.nil ?_
   refine Fin.go ?_
   refine Tr.block ?_
   refine Tr.bw [(5,_),(74,_)] ⟨⟨_,rfl,Pr.le_refl _⟩,⟨_,rfl,Pr.le_refl _⟩,trivial⟩ (fun Ds i=>⟨_,Ds.map Cp.mark⟩) (fun Ds i=>[(75,int ((i:Nat):Int))]) (fun Ds i=>Hp M0 w0 S (AB true b1 MD ((DG n l).map fun x=>u32 x)::AB true b2 MD ((Gg (DG n l) i).map fun x=>u32 x)::AB true b3 150 [int ((n:Nat):Int),is (MT n b1),is (MT n b2)]::AB true b4 114 [ptr b3 0]::Dh::(Ds.map OX++AX M1 w1::rs))) (fun Ds i=>i≤(n)) (fun Ds i=>(n)-i) [] 0 rfl (Nat.zero_le _) ⟨⟨_,rfl,Pr.le_refl _⟩,trivial⟩ ((by rw [Gg,CA];exact fun _ _ h=>h)) ?_
   rintro Ds i U4
   refine Tr.seq ?_
   refine Tr.Ai ?_
   refine Ch.op rfl rfl (by exact Nat.le_of_ble_eq_true rfl) (ok_int rfl (vl rfl) (vl rfl) rfl) ?_
   refine Ch.nil ?_
   refine Fin.go ?_
   refine Tr.seq ?_
   refine Tr.cond rfl (fun h5=> ?_) (fun h5=> ?_)
   ·
    have q5:=C5.Di h5
    have Is:i<(n):=AQ h5
    obtain ⟨x,hx⟩:=at_ (l:=DG n l) (k:=i) (by rw [CA];omega)
    refine Tr.skip ?_
    refine Fin.go ?_
    refine Tr.seq ?_
    refine Tr.block ?_
    refine Tr.seq ?_
    refine Tr.Az ?_
    refine TO.op rfl rfl (by exact Nat.le_of_ble_eq_true rfl) (Aw rfl (vl rfl)) ?_
    refine TO.alloc rfl rfl (by exact Nat.le_of_ble_eq_true rfl) rfl z3 zo3 (fun b6=> ?_)
    refine TO.At 0 rfl rfl rfl (vl rfl) (VL.le (vl rfl) (AD _)) rfl C8 rfl rfl ?_
    refine TO.freeze 0 10 rfl rfl ?_
    refine TO.nil ?_
    refine Fin.go ?_
    refine Tr.seq ?_
    refine Tr.pad ?_
    refine Tr.JU mixed [some (0,4,false,0),none,none,some (0,3,false,0),none,none,some (0,1,false,0),some (0,0,true,85)] (by kernel_rfl) ?_
    refine Cx.rd 4 rfl rfl rfl (by exact Nat.le_of_ble_eq_true rfl) (Aq rfl G5 (vl rfl) rfl) ?_
    refine Cx.op rfl rfl (by exact Nat.le_of_ble_eq_true rfl) (fun _=>CO rfl (vl rfl)) ?_
    refine Cx.op rfl rfl (by exact Nat.le_of_ble_eq_true rfl) (fun _=>AO rfl GV (vl rfl)) ?_
    refine Cx.rd 3 rfl rfl rfl (by exact Nat.le_of_ble_eq_true rfl) (Aq rfl G6 (vl rfl) rfl) ?_
    refine Cx.op rfl rfl (by exact Nat.le_of_ble_eq_true rfl) (fun _=>BU rfl C6 (vl rfl)) ?_
    refine Cx.op rfl rfl (by exact Nat.le_of_ble_eq_true rfl) (fun _=>BP rfl Tryz.underlying148 D8 (vl rfl) (vl rfl) (by omega) (by omega)) ?_
    refine Cx.rd 1 rfl rfl rfl (by exact Nat.le_of_ble_eq_true rfl) (Aq rfl Ey (vl rfl) (Gc hx)) ?_
    refine Cx.ef 0 rfl rfl (by exact Nat.le_of_ble_eq_true rfl) (GS rfl rfl (by exact Nat.le_of_ble_eq_true rfl) rfl (jZ) ⟨⟨_,rfl,Pr.le_refl _⟩,trivial⟩) ?_
    refine Cx.nil ⟨rfl,?_⟩
    refine BH.open_ 0 85 rfl rfl (fun v1=> ?_)
    refine BH.done (A0.cons (A0.cons (A0.cons (A0.cons (A0.cons (A0.cons (A0.map _))))))) ?_
    refine Fin.shape 85 (fun b=>cA b) rfl (fun fb7 fe7=> ?_)
    subst fe7
    refine Fin.OZ 0 (AB true fb7 MD [_]) rfl rfl ?_
    refine Fin.go ?_
    refine Tr.weak [(5,_),(10,_),(74,_),(75,_),(85,_)] ⟨⟨_,rfl,Pr.le_refl _⟩,⟨_,rfl,Pr.le_refl _⟩,⟨_,rfl,Pr.le_refl _⟩,⟨_,rfl,Pr.le_refl _⟩,⟨_,rfl,Pr.le_refl _⟩,trivial⟩ ?_
    refine Tr.block ?_
    refine Tr.bu 11 [(5,_),(10,_)] ⟨⟨_,rfl,Pr.le_refl _⟩,⟨_,rfl,Pr.le_refl _⟩,trivial⟩ (fun pre=>AB true b1 MD ((DG n l).map fun x=>u32 x)::AB true b2 MD ((pre.foldl (Fz i) (Gg (DG n l) i)).map fun x=>u32 x)::AB true b3 150 [int ((n:Nat):Int),is (MT n b1),is (MT n b2)]::AB true b4 114 [ptr b3 0]::(Ds.map OX++AX M1 w1::rs)) (YD (s:=x)) YE (vl rfl) ((FM (j:=5) rfl).trans (List.Perm.cons _ ((FM (j:=0) rfl).trans (List.Perm.cons _ (List.Perm.refl _))))) rfl (by exact Nat.le_of_ble_eq_true rfl) ?_ ?_ ?_
    ·
     rintro lk Dk rk Mr wr pre y0 hpre
     refine Tr.Ai ?_
     refine Ch.op rfl rfl (by exact Nat.le_of_ble_eq_true rfl) (BS rfl (vl rfl)) ?_
     refine Ch.nil ?_
     exact Fin.st ⟨⟨_,rfl,Pr.le_refl _⟩,⟨_,rfl,Pr.le_refl _⟩,⟨_,rfl,Pr.le_refl _⟩,trivial⟩
    ·
     rintro lk Dk rk Mr wr pre y0 hpre
     have hlt:y0<n:=by
      have h_:=RV.1 (cH hpre)
      rw [(EL (by omega)).2 i x hx,Bool.and_eq_true,decide_eq_true_eq] at h_
      exact h_.1
     have hal:(pre.foldl (Fz i) (Gg (DG n l) i)).length=n:=by rw [I3,FI,CA]
     obtain ⟨y,hy⟩:=at_ (l:=pre.foldl (Fz i) (Gg (DG n l) i)) (k:=y0) (by omega)
     refine Tr.block ?_
     refine Tr.JU mixed [some (0,8,false,0),none,none,some (0,7,false,0),none,none,some (0,6,false,0),none,none,none,none,some (0,6,true,0)] (by kernel_rfl) ?_
     refine Cx.rd 8 rfl rfl rfl (by exact Nat.le_of_ble_eq_true rfl) (Aq rfl G5 (vl rfl) rfl) ?_
     refine Cx.op rfl rfl (by exact Nat.le_of_ble_eq_true rfl) (fun _=>CO rfl (vl rfl)) ?_
     refine Cx.op rfl rfl (by exact Nat.le_of_ble_eq_true rfl) (fun _=>AO rfl Wt (vl rfl)) ?_
     refine Cx.rd 7 rfl rfl rfl (by exact Nat.le_of_ble_eq_true rfl) (Aq rfl G6 (vl rfl) rfl) ?_
     refine Cx.op rfl rfl (by exact Nat.le_of_ble_eq_true rfl) (fun _=>Aw rfl (vl rfl)) ?_
     refine Cx.op rfl rfl (by exact Nat.le_of_ble_eq_true rfl) (fun _=>BP rfl Tryz.underlying148 D8 (vl rfl) (vl rfl) (by omega) (by omega)) ?_
     refine Cx.rd 6 rfl rfl rfl (by exact Nat.le_of_ble_eq_true rfl) (Aq rfl Ey (vl rfl) (Gc hy)) ?_
     refine Cx.op rfl rfl (by exact Nat.le_of_ble_eq_true rfl) (fun _=>BU rfl C6 (vl rfl)) ?_
     refine Cx.op rfl rfl (by exact Nat.le_of_ble_eq_true rfl) (fun _=>GK (b:=1#32) rfl (vl rfl) (vl rfl) (Int.natCast_nonneg _)) ?_
     refine Cx.op rfl rfl (by exact Nat.le_of_ble_eq_true rfl) (fun _=>ID rfl (vl rfl) (vl rfl)) ?_
     refine Cx.op rfl rfl (by exact Nat.le_of_ble_eq_true rfl) (fun _=>BP rfl Tryz.underlying148 D8 (vl rfl) (vl rfl) (by omega) (by omega)) ?_
     refine Cx.E3 6 rfl rfl (BI rfl rfl (vl rfl) (VL.le (vl rfl) (AD _)) D8 rfl (by rw [List.length_map];omega) ((LB hy).trans (congrArg (fun B:List (BitVec 32)=>B.map fun x=>u32 x) (So hy)))) ?_
     refine Cx.nil ⟨rfl,?_⟩
     refine BH.done (A0.cons (A0.cons (A0.cons (A0.cons (A0.cons (A0.cons (A0.cons (A0.cons (A0.cons (A0.map _)))))))))) ?_
     refine Fin.block ?_
     exact Fin.rnd () (List.Perm.refl _)
    ·
     rintro lk Dk rk Mr wr
     refine Fin.drop 1 ?_
     refine Fin.drop 1 ?_
     refine Fin.drop 2 ?_
     refine Fin.Vl (List.Perm.cons _ ((List.perm_middle (l₁:=[_,_,_,_])).symm)) ?_
     refine Fin.Vl (List.perm_middle (l₁:=[_,_,_,_])).symm ?_
     refine Fin.block ?_
     refine Fin.block ?_
     refine Fin.go ?_
     refine Tr.Ai ?_
     first
      |(refine Ch.op rfl rfl (by exact Nat.le_of_ble_eq_true rfl) (C4 rfl (vl rfl) (vl rfl) ?hin) ?_;case hin=>unfold HS;omega)
      |refine Ch.op rfl rfl (by exact Nat.le_of_ble_eq_true rfl) (ok_int rfl (vl rfl) (vl rfl) rfl) ?_
     refine Ch.op rfl rfl (by exact Nat.le_of_ble_eq_true rfl) (Aw rfl (vl rfl)) ?_
     refine Ch.nil ?_
     exact Fin.jX (_::_) (i+1) rfl (⟨Is,by omega⟩) ⟨⟨_,rfl,AF i⟩,⟨_,rfl,Pr.le_refl _⟩,⟨_,rfl,Pr.le_refl _⟩,trivial⟩ ((by rw [Sn hx];exact fun _ _ h=>h))
   ·
    have q5:=C5.Di h5
    have N9:i=(n):=by have:=AR h5;omega
    have pT:=N9.symm
    subst pT
    refine Tr.exit ?_
    refine Fin.AU ?_
    refine Fin.AU ?_
    refine Fin.Am ?_
    refine Fin.go ?_
    refine Tr.seq ?_
    refine Tr.fy 0 (((DG n l).map fun x=>[u32 x]).flatten++([]:List Value).map is) rfl (ME _) ?_
    refine Tr.W7 (cap:=n) (sz:=1) ((DG n l).map fun x=>[u32 x]) 0 2 1 rfl rfl (by decide) rfl (Pr.le_of_eq (by rw [List.length_map,CA n l])) (BQ fun _=>rfl) (by rw [List.length_map,CA n l];exact Nat.le_refl _) (by unfold maxLen;omega) (by simp [FI,CA]) rfl ?_
    refine Tr.fy 1 (((Gg (DG n l) n).map fun x=>[u32 x]).flatten++([]:List Value).map is) rfl (ME _) ?_
    refine Tr.W7 (cap:=n) (sz:=1) ((Gg (DG n l) n).map fun x=>[u32 x]) 1 2 2 rfl rfl (by decide) rfl (Pr.le_of_eq (by rw [List.length_map,(FI _ _).trans (CA n l)])) (BQ fun _=>rfl) (by rw [List.length_map,(FI _ _).trans (CA n l)];exact Nat.le_refl _) (by unfold maxLen;omega) (by simp [FI,CA]) rfl ?_
    refine Tr.Ai ?_
    refine Ch.op rfl rfl (by exact Nat.le_of_ble_eq_true rfl) (CH 3 rfl (Aq rfl G5 (vl rfl) rfl)) ?_
    refine Ch.op rfl rfl (by exact Nat.le_of_ble_eq_true rfl) (BS rfl (vl rfl)) ?_
    refine Ch.nil ?_
    refine Fin.go ?_
    refine Tr.ret ?_
    refine Fin.freeze 2 4 rfl rfl ?_
    refine Fin.drop 0 ?_
    refine Fin.drop 0 ?_
    refine Fin.drop 0 ?_
    refine Fin.Vl List.perm_middle.symm ?_
    refine Fin.RY ?_
    refine Fin.D7 rfl rfl ?_ (fun _ _ _ _=>rfl)
    · exact cF ⟨Pr.le_refl _,Aj _ _,Aj _ _,trivial⟩
def QI (n:Int) (l:List BG):Pr:=if Ar n l=0 then ref [int n,bits (DG n.toNat l),bits (Gg (DG n.toNat l) n.toNat)] else is (.pointer none)
instance jd (n:Int) (l:List BG):One (QI n l):=by
 unfold QI;split
 · exact Qa _
 · exact QZ _
theorem Df {n:Int} {l:List BG} {e:Int} (h:Ar n l=e) (he:e≠0):Pr.le (is (.pointer none)) (QI n l):=by
 unfold QI;rw [if_neg (by rw [h];exact he)];exact Pr.le_refl _
theorem Ra {n:Int} {l:List BG} (h:Ar n l=0):QI n l=ref [int n,bits (DG n.toNat l),bits (Gg (DG n.toNat l) n.toNat)]:=by
 unfold QI;rw [if_pos h]
theorem Js {n:Int} {l:List BG} (h:n<0∨24<n):Ar n l=2:=by unfold Ar;rw [if_pos h]
theorem DH {n:Int} {l:List BG} {k:Nat} {r:BG} (h:0≤n∧n≤24) (hr:l[k]? =some r) (hb:Cv n r=true):Ar n l=44:=by
 unfold Ar;rw [if_neg (by omega),if_pos (List.any_eq_true.2 ⟨r,List.mem_of_getElem? hr,hb⟩)]
theorem YH {n:Int} {l:List BG} (h:∀j y,j<l.length→l[j]? =some y→Cv n y=false):∀r∈l,Cv n r=false:=fun r hr=>by
 obtain ⟨j,hj⟩:=List.mem_iff_getElem?.1 hr
 exact h j r (by rcases Nat.lt_or_ge j l.length with h2|h2;exact h2;rw [List.getElem?_eq_none h2] at hj;cases hj) hj
theorem QJ {n:Int} {l:List BG} (h:∀r∈l,Cv n r=false):¬l.any (Cv n)=true:=by
 rw [Bool.not_eq_true,List.any_eq_false];exact fun r hr=>by rw [h r hr];decide
theorem Rb {n:Int} {l:List BG} {k:Nat} {a b:BG} (h:0≤n∧n≤24) (hb:∀r∈l,Cv n r=false) (hk:0<k) (ha:l[k-1]? =some a) (hx:l[k]? =some b) (hl:C3 a b=false):Ar n l=6:=by
 unfold Ar;rw [if_neg (by omega),if_neg (QJ hb),if_pos]
 cases hs:CW l with
 |false=>rfl
 |true=>
  have:=HM.1 hs (k-1) a b ha (by rw [Nat.sub_add_cancel hk];exact hx)
  rw [hl] at this;cases this
theorem Ob {n:Nat} {l:List BG} {i:Nat} (h:n≤24) (hb:∀r∈l,Cv n r=false) (hs:CW l=true) (hi:i<n) (hw:CM l n i i=true):Ar n l=45:=by
 unfold Ar;rw [if_neg (by omega),if_neg (QJ hb),if_neg (by rw [hs];decide),if_pos (show jO (n:Int).toNat l=true from List.any_eq_true.2 ⟨i,List.mem_range.2 (by omega),hw⟩)]
theorem Rc {n:Nat} {l:List BG} (h:n≤24) (hb:∀r∈l,Cv n r=false) (hs:CW l=true) (hw:∀i,i<n→CM l n i i=false):Ar n l=0:=by
 unfold Ar;rw [if_neg (by omega),if_neg (QJ hb),if_neg (by rw [hs];decide),if_neg]
 intro hc
 obtain ⟨i,hi,h2⟩:=List.any_eq_true.1 hc
 have:=hw i (by simpa using hi)
 rw [show ((n:Int)).toNat=n from rfl] at h2
 rw [this] at h2;cases h2
theorem QK {l:List BG} (h:∀(j:Nat) a b,j+1<l.length→l[j]? =some a→l[j+1]? =some b→C3 a b=true):CW l=true:=HM.2 fun j a b ha hb=>h j a b (by rcases Nat.lt_or_ge (j+1) l.length with h2|h2;exact h2;rw [List.getElem?_eq_none h2] at hb;cases hb) ha hb
theorem JS {l:List BG} {k:Nat} {x:BG} (hx:l[k]? =some x) (hp:∀y,0<k→l[k-1]? =some y→C3 y x=true) (h:∀(j:Nat) a b,j+1<k→l[j]? =some a→l[j+1]? =some b→C3 a b=true):∀(j:Nat) a b,j+1<k+1→l[j]? =some a→l[j+1]? =some b→C3 a b=true:=by
 intro j a b hj ha hb
 by_cases hjk:j+1=k
 · subst hjk;rw [hx] at hb;cases hb;exact hp a (by omega) (by simpa using ha)
 · exact h j a b (by omega) ha hb
theorem Rd {n:Int} {l:List BG}  :A9 prog 46 [int n,reqs l] (IM [QI n l,int (Ar n l)]) (Dh) (fun _=>Dh):=by
 refine A9.of func46 rfl rfl (by exact Nb rfl) fun M0 w0 S rs M1 w1=> ?_
 refine Tr.EF 1 rfl fun Ns=> ?_
 refine ac ?_
 refine ag ?_ ?_<;>intro h1 q1
 refine a2 ?_
 refine Tr.ret (Fin.AE (Fin.Fj rfl rfl ?_ rfl ?_))
 · exact Df (Js (by omega)) (by decide)
 · refine int_eq ?_;exact (Js (by omega)).symm
 refine an ?_ ?_<;>intro h2 q2
 refine ac ?_
 refine Tr.ret (Fin.AE (Fin.Fj rfl rfl ?_ rfl ?_))
 · exact Df (Js (by omega)) (by decide)
 · refine int_eq ?_;exact (Js (by omega)).symm
 have Ko:0≤n∧n≤24:=by omega
 obtain ⟨m,hm⟩:∃m:Nat,n=(m:Int):=⟨n.toNat,by omega⟩
 refine a2 ?_
 refine Tr.block (Tr.BK [(0,_),(1,_),(18,_),(19,_)] (jy rfl) (fun k:Nat=>[(20,int ((k:Nat):Int))]) (fun k:Nat=>k≤(l).length∧(∀j y,j<k→l[j]? =some y→Cv n y=false)) (fun k:Nat=>(l).length-k) 0 (⟨Nat.zero_le _,fun j y hj=>absurd hj (by omega)⟩) ⟨ke rfl,trivial⟩ ?_)
 rintro k ⟨BO,AJ⟩
 refine ac ?_
 refine Tr.seq ?_
 refine Tr.cn rfl ?_ ?_<;>intro h3 q3
 have Ad:k<(l).length:=AQ h3
 obtain ⟨x,Ac⟩:=at_ Ad
 refine ac ?_
 refine Tr.seq (Tr.block (Tr.seq (Tr.Az (tp rfl (AA rfl underlying39 CT (vl rfl) (vl rfl) (by omega) (Ah Ac)) (tp rfl (AM rfl Gl CT (vl rfl) rfl rfl) ?_)))))
 refine Tl rfl rfl rfl rfl z49 MW (fun b1=> ?_)
 refine sf 0 7 ⟨rfl,rfl,rfl⟩ rfl rfl rfl rfl ?_
 refine ao ?_
 refine ag ?_ ?_<;>intro h4 q4
 refine ac ?_
 refine O7 0 1 18 19 20 50 rfl ?_
 refine ac ?_
 refine Tr.ret (Fin.Ae (Fin.AE (Fin.AE (Fin.Ae (Fin.AE (Fin.Fj rfl rfl ?_ rfl ?_))))))
 · exact Df (DH Ko Ac (by unfold Cv;rw [decide_eq_true_eq];omega)) (by decide)
 · refine int_eq ?_;exact (DH Ko Ac (by unfold Cv;rw [decide_eq_true_eq];omega)).symm
 refine ag ?_ ?_<;>intro h5 q5
 refine ac ?_
 refine O7 0 1 18 19 20 50 rfl ?_
 refine ac ?_
 refine Tr.ret (Fin.Ae (Fin.AE (Fin.AE (Fin.Ae (Fin.AE (Fin.Fj rfl rfl ?_ rfl ?_))))))
 · exact Df (DH Ko Ac (by unfold Cv;rw [decide_eq_true_eq];omega)) (by decide)
 · refine int_eq ?_;exact (DH Ko Ac (by unfold Cv;rw [decide_eq_true_eq];omega)).symm
 refine ag ?_ ?_<;>intro h6 q6
 refine ac ?_
 refine O7 0 1 18 19 20 50 rfl ?_
 refine ac ?_
 refine Tr.ret (Fin.Ae (Fin.AE (Fin.AE (Fin.Ae (Fin.AE (Fin.Fj rfl rfl ?_ rfl ?_))))))
 · exact Df (DH Ko Ac (by unfold Cv;rw [decide_eq_true_eq];omega)) (by decide)
 · refine int_eq ?_;exact (DH Ko Ac (by unfold Cv;rw [decide_eq_true_eq];omega)).symm
 refine ag ?_ ?_<;>intro h7 q7
 refine ac ?_
 refine O7 0 1 18 19 20 50 rfl ?_
 refine ac ?_
 refine Tr.ret (Fin.Ae (Fin.AE (Fin.AE (Fin.Ae (Fin.AE (Fin.Fj rfl rfl ?_ rfl ?_))))))
 · exact Df (DH Ko Ac (by unfold Cv;rw [decide_eq_true_eq];omega)) (by decide)
 · refine int_eq ?_;exact (DH Ko Ac (by unfold Cv;rw [decide_eq_true_eq];omega)).symm
 refine ac ?_
 refine O7 0 1 18 19 20 50 rfl ?_
 refine Tr.cn rfl ?_ ?_<;>intro h8 q8
 refine ac ?_
 refine Tr.ret (Fin.Ae (Fin.AE (Fin.AE (Fin.Ae (Fin.AE (Fin.Fj rfl rfl ?_ rfl ?_))))))
 · exact Df (DH Ko Ac (by unfold Cv;rw [decide_eq_true_eq];omega)) (by decide)
 · refine int_eq ?_;exact (DH Ko Ac (by unfold Cv;rw [decide_eq_true_eq];omega)).symm
 refine a2 ?_
 exact Fin.AP (k+1) ⟨⟨Ad,Cm (p:=Cv n) Ac (by unfold Cv;rw [decide_eq_false_iff_not];omega) AJ⟩,by omega⟩ ⟨⟨_,rfl,AF k⟩,ke rfl,ke rfl,ke rfl,ke rfl,trivial⟩
 have BF:k=(l).length:=by have:=AR h3;omega
 subst BF
 refine ac ?_
 refine Tr.seq (Tr.seq ?_)
 have hall:=YH AJ
 clear AJ
 refine ac ?_
 refine Tr.block (Tr.BK [(0,_),(1,_),(53,_)] (LK rfl) (fun k:Nat=>[(54,int ((k:Nat):Int))]) (fun k:Nat=>k≤(l).length∧(∀(j:Nat) a b,j+1<k→l[j]? =some a→l[j+1]? =some b→C3 a b=true)) (fun k:Nat=>(l).length-k) 0 (⟨Nat.zero_le _,fun j a b hj=>absurd hj (by omega)⟩) ⟨ke rfl,trivial⟩ ?_)
 rintro k ⟨BO,AJ⟩
 refine ac ?_
 refine Tr.seq ?_
 refine Tr.cn rfl ?_ ?_<;>intro h9 q9
 have Ad:k<(l).length:=AQ h9
 obtain ⟨x,Ac⟩:=at_ Ad
 refine a2 ?_
 refine ag ?_ ?_<;>intro h10 S6
 obtain ⟨y,hy⟩:=at_ (l:=l) (k:=k-1) (by omega)
 refine ac ?_
 refine cy h10 rfl (AA rfl underlying39 CT (vl rfl) (vl rfl) (by omega) (J2 (by omega) hy)) ?_
 refine ac ?_
 refine cy h10 rfl (AA rfl underlying39 CT (vl rfl) (vl rfl) (by omega) (Ah Ac)) (cy h10 rfl (AM rfl Gl CT (vl rfl) rfl rfl) ?_)
 refine cy h10 rfl (EB (QH (a:=y) (b:=x)) rfl rfl rfl) ?_
 refine ac ?_
 refine JD 0 1 53 54 71 rfl ?_
 refine Tr.cn rfl ?_ ?_<;>intro h11 WB
 refine ac ?_
 refine Tr.ret (Fin.Ae (Fin.AE (Fin.AE (Fin.Ae (Fin.AE (Fin.Fj rfl rfl ?_ rfl ?_))))))
 · exact Df (Rb Ko hall (by omega) hy Ac (by have h_:=M8 (a:=y) (b:=x);simp_all)) (by decide)
 · refine int_eq ?_;exact (Rb Ko hall (by omega) hy Ac (by have h_:=M8 (a:=y) (b:=x);simp_all)).symm
 refine a2 ?_
 exact Fin.AP (k+1) ⟨⟨Ad,JS Ac (by intro y2 hk2 jT;rw [hy] at jT;cases jT;have h_:=M8 (a:=y) (b:=x);simp_all) AJ⟩,by omega⟩ ⟨⟨_,rfl,AF k⟩,ke rfl,ke rfl,ke rfl,trivial⟩
 refine ac ?_
 refine JD 0 1 53 54 71 rfl ?_
 refine a2 ?_
 exact Fin.AP (k+1) ⟨⟨Ad,JS Ac (by intro y2 hk2 jT;omega) AJ⟩,by omega⟩ ⟨⟨_,rfl,AF k⟩,ke rfl,ke rfl,ke rfl,trivial⟩
 have BF:k=(l).length:=by have:=AR h9;omega
 subst BF
 refine ac ?_
 refine Tr.seq ?_
 have YI:=QK AJ
 subst hm
 refine ao ?_
 refine TO.E8 0 rfl rfl (by decide) (AY rfl rfl (by decide) rfl (Sq (n:=m) (by omega) hall) ⟨ke rfl,ke rfl,trivial⟩) ?_
 refine ao ?_
 refine Tr.seq (Tr.seq ?_)
 have Qt:=CA m l
 refine ac ?_
 refine FO 9 79 80 81 rfl (Tr.block (Tr.BK [(9,_),(79,_),(80,_)] (LK rfl) (fun i:Nat=>[(81,int ((i:Nat):Int))]) (fun i:Nat=>i≤(DG m l).length∧(∀j,j<i→CM l m j j=false)) (fun i:Nat=>(DG m l).length-i) 0 (⟨Nat.zero_le _,fun j hj=>absurd hj (by omega)⟩) ⟨ke rfl,trivial⟩ ?_))
 rintro i ⟨U4,EX⟩
 refine ac ?_
 refine Tr.seq ?_
 refine Tr.cn rfl ?_ ?_<;>intro h12 dc
 have Is:i<(DG m l).length:=AQ h12
 obtain ⟨x,Mx⟩:=at_ Is
 refine a2 ?_
 refine co rfl (AA rfl underlying148 D8 (vl rfl) (vl rfl) (by omega) (Oa Mx)) ?_
 refine a2 ?_
 refine co rfl (EB (M7) rfl rfl rfl) ?_
 refine an ?_ ?_<;>intro Q2 aP
 refine ac ?_
 refine EZ 4 5 rfl (Tr.ret (Fin.Ae (Fin.AE (Fin.AE (Fin.Ae (Fin.AE (Fin.Fj rfl rfl ?_ rfl ?_)))))))
 · exact Df (Ob (by omega) hall YI (i:=i) (by omega) (by have h_:=(EL (l:=l) (show m≤32 by omega)).2 i x Mx i;simp_all)) (by decide)
 · refine int_eq ?_;exact (Ob (by omega) hall YI (i:=i) (by omega) (by have h_:=(EL (l:=l) (show m≤32 by omega)).2 i x Mx i;simp_all)).symm
 refine a2 ?_
 exact Fin.AP (i+1) ⟨⟨Is,(fun j hj=>by rcases Nat.lt_or_ge j i with h_|h_;exact EX j h_;(obtain rfl:j=i:=by omega);have h_:=(EL (l:=l) (show m≤32 by omega)).2 j x Mx j;simp_all;done)⟩,by omega⟩ ⟨⟨_,rfl,AF i⟩,ke rfl,ke rfl,ke rfl,trivial⟩
 have N9:i=(DG m l).length:=by have:=AR h12;omega
 rw [CA] at N9
 subst N9
 refine a2 ?_
 refine Tr.ret (Fin.Fj rfl rfl ?_ rfl ?_)
 · rw [Ra (Rc (by omega) hall YI EX)];exact Lr
 · refine int_eq ?_;exact (Rc (by omega) hall YI EX).symm
theorem Vr {n:Nat} {B:List (BitVec 32)} {p:Pr} {s:BitVec 32} (hB:B.length=n) (hn:n≤24):A7 prog 48 [ref [int ((n:Nat):Int),bits B,p],u32 s] (u32 (F1 B s n)):=by
 refine fo func48 rfl ⟨rfl,rfl⟩ fun M0 w0=> ?_
 refine a3 ?_
 refine Tr.block (Tr.BK [(0,_),(1,_),(10,_)] (LK rfl) (fun k:Nat=>[(11,int ((k:Nat):Int)),(5,u32 (F1 B s k))]) (fun k:Nat=>k≤n) (fun k:Nat=>n-k) 0 (Nat.zero_le _) ⟨ke rfl,⟨_,rfl,OS⟩,trivial⟩ ?_)
 rintro k hk0
 refine ac ?_
 refine Tr.seq ?_
 refine Tr.cn rfl ?_ ?_<;>intro h1 q1
 have hk:k<n:=AQ h1
 obtain ⟨x,hx⟩:=at_ (l:=B) (k:=k) (by omega)
 · repeat' first|exact Fin.AP (k+1) ⟨by omega,by omega⟩ ⟨⟨_,rfl,AF k⟩,⟨_,rfl,Pr.le_of_eq (congrArg u32 (Vn hx (by simp_all) (by simp_all)).symm)⟩,ke rfl,ke rfl,ke rfl,trivial⟩|exact Fin.AP (k+1) ⟨by omega,by omega⟩ ⟨⟨_,rfl,AF k⟩,⟨_,rfl,Pr.le_of_eq (congrArg u32 (YF hx (by simp_all)).symm)⟩,ke rfl,ke rfl,ke rfl,trivial⟩|refine co rfl (EB (M7 (b:=s) (i:=k)) rfl rfl rfl) ?_|refine cy h rfl (AA rfl underlying148 D8 (vl rfl) (vl rfl) (by omega) (Oa hx)) ?_|refine cy h rfl (JP rfl (vl rfl) (vl rfl)) (cy h rfl (Vd rfl (vl rfl) (vl rfl)) ?_)|refine co rfl (GK (b:=1#32) rfl (vl rfl) (vl rfl) (Int.natCast_nonneg _)) ?_|refine co rfl (ID rfl (vl rfl) (vl rfl)) ?_|refine ac ?_|(refine Tr.cn rfl ?_ ?_<;>intro h q)|(refine Ch.cg rfl rfl rfl ?_ ?_<;>intro h q)
 obtain rfl:k=n:=by have:=AR h1;omega
 refine a3 ?_
 · exact Lr
theorem Vs {n:Int} {l:List BG}  :A9 prog 31 [int n,reqs l] (IM [ints (if Ar n l=0 then (BM n.toNat l n.toNat).1 else []),int (Ar n l)]) (Dh) (fun _=>Dh):=by
 refine A9.of func31 rfl rfl (by exact Nb rfl) fun M0 w0 S rs M1 w1=> ?_
 refine ac ?_
 refine ap ?_
 refine TO.E8 0 rfl rfl (by decide) (AY rfl rfl (by decide) rfl (Rd (n:=n) (l:=l)) ⟨ke rfl,ke rfl,trivial⟩) ?_
 refine ap ?_
 refine an ?_ ?_<;>intro h1 q1
 refine ac ?_
 refine EZ 4 5 rfl (Tr.ret (Fin.AE (Fin.Fj rfl rfl ?_ rfl ?_)))
 · refine Pr.le_trans (AL 1) (Pr.le_of_eq ?_);rw [if_neg (by assumption)];rfl
 · exact Lr
 have hv:Ar n l=0:=by simpa using h1
 obtain ⟨h0,_⟩:=Cy hv
 obtain ⟨m,rfl⟩:∃m:Nat,n=(m:Int):=⟨n.toNat,by omega⟩
 refine Tr.re 6 rfl (Pr.le_of_eq (Ra hv)) ?_
 refine a3 ?_
 refine FO 0 6 8 9 rfl ?_
 refine ac ?_
 refine Tr.block (Tr.Cs 3 1 (Tr.Hg [(6,_),(20,_)] ⟨ke rfl,ke rfl,trivial⟩ (fun (s:BitVec 32) (k:Nat) v=>[(21,int ((k:Nat):Int)),(9,u32 s),(8,AZ v (ints (BM m l k).1))]) (fun (s:BitVec 32) (k:Nat) v=>Hp M0 w0 S (As 3 1 v::Dh::AX M1 w1::rs)) (fun (s:BitVec 32) (k:Nat)=>k≤m∧JQ m s (BM m l k).2) (fun (s:BitVec 32) (k:Nat)=>m-k) (0#32) (0) (.slice none 0 0) (⟨Nat.zero_le _,P9 m⟩) ⟨ke rfl,⟨_,rfl,OS⟩,⟨_,rfl,CR rfl⟩,trivial⟩ (fun _ _ h=>h) ?_))
 rintro s k v ⟨hk0,hs⟩
 refine ac ?_
 refine Tr.seq ?_
 refine Tr.cn rfl ?_ ?_<;>intro h2 q2
 have hk:k<m:=AQ h2
 have hg:=Vq (k:=k) hv hk hs
 have hfl:(BM m l k).1.length=k:=(Dz hv k (by simpa using hk0)).2
 refine ac ?_
 refine ap ?_
 refine tp rfl (EB (Vr (n:=m) (CA m l) (by omega)) rfl rfl rfl) ?_
 refine TO.E8 1 rfl rfl (by decide) (AY rfl rfl (by decide) rfl (Vg hg.1) ⟨ke rfl,trivial⟩) ?_
 refine ap ?_
 refine ac ?_
 refine co rfl (GK (b:=1#32) rfl (vl rfl) (vl rfl) (Int.natCast_nonneg _)) ?_
 refine co rfl (ID rfl (vl rfl) (vl rfl)) ?_
 refine ac ?_
 refine O7 6 8 9 10 20 21 rfl ?_
 refine ap ?_
 refine TO.Es 0 rfl rfl (by decide) (Cg rfl rfl rfl rfl underlying91 C8 V9 z3 (Kb rfl) (Kf rfl) (Bk (by exact List.Mem.head _) (Ka rfl))) (fun v1=> ?_)
 refine ap ?_
 refine ac ?_
 exact Fin.B7 (RT s (EC (F1 (DG m l) s m))) (k+1) v1 (⟨⟨hk,hg.2.2.2⟩,by omega⟩) ⟨⟨_,rfl,AF k⟩,ke rfl,⟨_,rfl,Ce (by rw [show (BM m l (k+1)).1=(BM m l k).1++[_] from hg.2.2.1,List.map_append];rfl)⟩,ke rfl,ke rfl,trivial⟩ (fun _ _ h=>h)
 obtain rfl:k=m:=by have:=AR h2;omega
 refine a2 ?_
 refine Tr.ret (Fin.drop 0 (Fin.Fj rfl rfl ?_ rfl ?_))
 · refine Pr.le_trans (Aj _ _) (Pr.le_of_eq ?_);rw [if_pos hv];rfl
 · refine int_eq ?_;exact hv.symm
theorem Vt {n:Int} {l:List BG}  :A9 prog 34 [int n,reqs l] (int (Ar n l)) (Dh) (fun _=>Dh):=by
 refine A9.of func34 rfl rfl (by exact Nb rfl) fun M0 w0 S rs M1 w1=> ?_
 refine ac ?_
 refine ap ?_
 refine TO.E8 0 rfl rfl (by decide) (AY rfl rfl (by decide) rfl (Rd (n:=n) (l:=l)) ⟨ke rfl,ke rfl,trivial⟩) ?_
 refine ap ?_
 refine ac ?_
 refine Tr.ret (Fin.D7 rfl rfl ?_ (fun _ _ _ _=>rfl))
 · exact Lr
end Go.Proofs.YtppdobdifkefcaaGreatDoor
namespace Cp
open Go Go.RowKit Go.Great
section
variable {P:Program} {L:Lg P} {n:Fm} {fz:Nat} {E:Env} {M0:Av} {w0:World} {S:Nat→Prop} {o:Oper}
def Vu (T:TypeId) (u v:Value):Aa:=match v with| .pointer (some a)=>AB true a.block T (u.cells.toList.map is)|_=>BA
theorem YJ {j d s:Nat} {R:SR} {p1 q:Pr} {p:Value→Pr} {R':Value→Value→Aa} (hd:o.dst=some d) (hs:d≠s) (hq:∀v,Pr.le (p v) q) (hg:o.guard=none) (h1:E.lookup s=some p1) (hls:s∈looks o) (h:∀v,Cd P M0 w0 S n j R ⟨d,R' v⟩ o ((s,AZ v p1)::E) (p v)):Cd P M0 w0 S n j R ⟨.two d s,OY R'⟩ o E q:=by
 refine ⟨hg,fun M w a rs hsz he hI hj=> ?_⟩
 refine DL.conv (hq _) (fun v=> ?_) ((h (a.tmps.getD s undef)).2 M w a rs hsz (Fg he s (he s p1 hls h1)) hI hj)
 rw [Jr,hd,Ap (Ne.symm hs)];rfl
theorem Sr {t:TypeId} {s y:Tmp} {j m:Nat} {T:TypeId} {ps qs:List Pr} {p:Pr} (hg:o.guard=none) (hd:o.dst=none) (ho:o.op= .store t (.tmp s) (.tmp y)) (hsy:s≠y) (hx:E.lookup s=some (Cp.ex fun b=>ptr b 0)) (hy:E.lookup y=some p) (hp:Pr.le p (B0 qs))
  (hz:Af P t=some m) (hm:qs.length=m) (hl:ps.length=m):Cd P M0 w0 S n j ⟨s,DZ T ps⟩ ⟨.two s y,OY fun u v=>Vu T u v⟩ o E any:=by
 refine ⟨hg,fun M w a rs hsz he hI hj=> ?_⟩
 have lM:y∈looks o:=MC (op:= .store t (.tmp s) (.tmp y)) (by simp [Op.operands]) ho
 have hpy:=hp _ _ _ (he y p lM hy)
 have hle:Pr.le (AZ (a.tmps.getD y undef) (B0 qs)) (B0 ((a.tmps.getD y undef).cells.toList.map is)):=fun M w v h=>by
  obtain ⟨rfl,h2⟩:=h
  obtain ⟨g1,g2⟩:=h2
  exact ⟨HV _ _ _,g2⟩
 have h:=(Im (P:=P) (M0:=M0) (w0:=w0) (S:=S) (n:=n) (j:=j) (T:=T) (ps:=ps) (qs:=(a.tmps.getD y undef).cells.toList.map is) (E:=(y,AZ (a.tmps.getD y undef) (B0 qs))::E) hg hd ho (by simp only [List.lookup];rw [show (s==y)=false by simpa using hsy];exact hx) ⟨_,List.lookup_cons_self,hle⟩ hz (by have:=hpy.1.length;rw [List.length_map];omega) hl).2 M w a rs hsz (Fg he y hpy) hI hj
 refine DL.conv (Pr.le_refl _) (fun v=> ?_) h
 rw [Jr,hd];rfl
end
section
variable {P:Program} {L:Lg P} {n:Fm} {fz:Nat} {E:Env} {M0:Av} {w0:World} {S:Nat→Prop} {rs:List Aa} {Q:Exit→Act→World→Prop}
theorem Oc {M:Av} {w:World}:∀{zs cs:List Value},HL M w (zs.map is) cs→cs=zs
 |[],[],_=>rfl
 |[],_::_,h=>h.elim
 |_::_,[],h=>h.elim
 |z::zs,c::cs,h=>by
  obtain ⟨h1,h2⟩:=h
  rw [Oc h2,show c=z from h1]
theorem Fin.Vv {e:Exit} {T:TypeId} {u:Value} {b:Nat} {ps:List Pr} (i j:Nat) (hi:rs[i]? =some (GL (agg ps) u)) (hj:rs[j]? =some (Vu T u (.pointer (some ⟨b,0,none⟩)))) (k:Fin n E (Hp M0 w0 S (rs.set j (AB true b T ps))) Q e):Fin n E (Hp M0 w0 S rs) Q e:=by
 rintro a w ⟨M,h1,h2,h3,h4⟩
 have h4:An M0 w0 S rs M w:=h4
 refine k a w ⟨M,h1,h2,h3,An.CI h4 hj rfl rfl ?_⟩
 obtain ⟨cs,rfl,_,hcs⟩:=(h4.hold _ (List.mem_of_getElem? hi)).1
 obtain ⟨g0,cs',g1,g2,g3⟩:=(h4.hold _ (List.mem_of_getElem? hj)).1
 have e1:cs'=cs:=by
  have:=Oc g2
  rw [this];show cs.toArray.toList=cs;simp
 subst e1
 exact ⟨g0,cs',g1,hcs,g3⟩
end
end Cp
