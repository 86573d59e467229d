/-
  Part 4 of the texts that prove this claim, merged.
-/
import Derived.Test.YtgilhkjlfongoaaGreatAsMadeP3
set_option linter.all false
set_option maxRecDepth 40000
set_option maxHeartbeats 16000000
namespace Go.Proofs.YtgilhkjlfongoaaGreat
open Go Go.RowKit Cp Go.Proofs.Tryz
theorem Oz {l:List Int} (hl:l.length≤1000000000):BT prog 127 [ints l] (ints l):=by
 refine fo func127 rfl ⟨rfl,rfl⟩ fun M0 w0=> ?_
 refine a2 ?_
 refine co rfl (IJ rfl underlying22 (vl rfl)) ?_
 refine ac ?_
 refine Tr.ex 4 rfl (fun z1=>Tr.fact 4 rfl fun KD=> ?_)
 refine Tr.cn rfl ?_ ?_<;>intro h1 q1
 refine a2 ?_
 · (have Sa:l=[]:=(by simpa using KD h1));subst Sa;exact AZ 1
 refine ac ?_
 refine ap ?_
 refine TO.pad ?_
 refine TO.MK 0 rfl rfl (by decide) (Oh rfl rfl rfl rfl underlying22 A4 MO z3 (Kf rfl) (vl rfl) (B4 (by exact List.Mem.head _) (vl rfl))) (fun v1=> ?_)
 refine ap ?_
 refine ac ?_
 · exact Pr.le_trans (BL _ _) (Pr.le_of_eq (by simp))
theorem LO {l:List Int} (hl:KT l) (hs:l.length≤1000000):BT prog 129 [ints l] (ints l):=by
 refine fo func129 rfl ⟨rfl,rfl⟩ fun M0 w0=> ?_
 refine ac ?_
 refine an ?_ ?_<;>intro h1 q1
 refine a2 ?_
 · exact Lr
 refine a2 ?_
 refine Tr.block (Tr.BU [(0,_)] ⟨ke rfl,trivial⟩ (fun k:Nat=>[(3,int ((k:Nat):Int))]) (fun k:Nat=>1≤k∧k≤l.length) (fun k:Nat=>l.length-k) 1 (⟨by omega,by omega⟩) ⟨ke rfl,trivial⟩ ?_)
 rintro k ⟨hk1,hk2⟩
 refine an ?_ ?_<;>intro h2 q2
 have JB:k<l.length:=Ak h2
 obtain ⟨x,hx⟩:=at_ JB
 obtain ⟨p,hp⟩:=at_ (l:=l) (k:=k-1) (by omega)
 have hpx:=Z3 hl (by omega) hp hx
 · repeat' first|(exfalso;omega)|exact Fin.AE (k+1) ⟨⟨by omega,by omega⟩,by omega⟩ ⟨⟨_,rfl,AJ k⟩,ke rfl,trivial⟩|refine co rfl (AB rfl underlying22 A4 (vl rfl) (vl rfl) (by omega) (Am hx)) ?_|refine co rfl (AB rfl underlying22 A4 (vl rfl) (vl rfl) (by omega) (Sf hp (by omega))) ?_|refine ac ?_|(refine Tr.cn rfl ?_ ?_<;>intro h q)
 have:=h2
 refine a3 ?_
 · exact Lr
abbrev Dm (n:Int) (own:List Int):Pr:=agg [int n,any,any,ints own]
def EX (own:List Int) (m:Nat):Prop:=∀i∈own,0≤i∧i<(m:Int)
instance (own:List Int) (m:Nat):Decidable (EX own m):=inferInstanceAs (Decidable (∀i∈own,0≤i∧i<(m:Int)))
theorem QU {l:List Int} (h:KT l):∀(d i:Nat) {x y:Int},l[i]? =some x→l[i+d]? =some y→x≤y
 |0,i,x,y,hx,hy=>by rw [Nat.add_zero,hx] at hy;cases hy;exact Int.le_refl _
 |d+1,i,x,y,hx,hy=>by
  have hlt:i+d<l.length:=by
   rcases Nat.lt_or_ge (i+(d+1)) l.length with h'|h'
   · omega
   · rw [List.getElem?_eq_none h'] at hy;cases hy
  have h1:=QU h d i hx (List.getElem?_eq_getElem hlt)
  have h2:=h (i+d) _ y (List.getElem?_eq_getElem hlt) (by rw [show i+d+1=i+(d+1) by omega];exact hy)
  omega
theorem Ns {own:List Int} (ha:KT own) {m:Nat} {a z:Int} (h0:own[0]? =some a) (h1:own[own.length-1]? =some z):EX own m↔(0≤a∧z<m):=by
 constructor
 · intro h;exact ⟨(h a (List.mem_of_getElem? h0)).1,(h z (List.mem_of_getElem? h1)).2⟩
 ·
  rintro ⟨h2,h3⟩ i hi
  obtain ⟨j,hj⟩:=List.mem_iff_getElem?.1 hi
  have hlt:j<own.length:=by rcases Nat.lt_or_ge j own.length with h|h;exact h;rw [List.getElem?_eq_none h] at hj;cases hj
  have h4:=QU ha j 0 h0 (by rw [Nat.zero_add];exact hj)
  have h5:=QU ha (own.length-1-j) j hj (by rw [show j+(own.length-1-j)=own.length-1 by omega];exact h1)
  omega
theorem O0 {l:List Int} {z:Int} (h0:0<l.length) (h:l[l.length-1]? =some z):(l.map fun n=>[int n])[(((l.length:Nat):Int)-1).toNat]? =some [int z]:=by
 rw [show (((l.length:Nat):Int)-1).toNat=l.length-1 by omega,List.getElem?_map,h];rfl
theorem Mo {l:List Ac} {n:Int} {own:List Int} (ha:KT own) (hs:own.length≤12):BT prog 72 [Bu l,Dm n own] (DT [ints own,bool (decide (EX own l.length))]):=by
 refine fo func72 rfl ⟨rfl,rfl⟩ fun M0 w0=>(Tr.D9 0 rfl fun Dg=> ?_)
 refine a2 ?_
 refine co rfl (Cr (Oz (by omega)) rfl rfl) ?_
 refine a2 ?_
 refine co rfl (Cr (Mn (by assumption) (by omega)) rfl rfl) ?_
 refine a2 ?_
 refine co rfl (Cr (LO (by assumption) (by omega)) rfl rfl) ?_
 refine ac ?_
 refine ag ?_ ?_<;>intro h1 q1
 refine ac ?_
 refine EK 4 5 rfl (Tr.ret (Fin.Cq rfl (Ba.Cz _ _) rfl ?_ rfl ?_))
 · exact Lr
 · refine bool_eq ?_;symm;rw [decide_eq_true_eq];intro i hi;have hn:own=[]:=List.eq_nil_of_length_eq_zero (by omega);rw [hn] at hi;cases hi
 have hpos:0<own.length:=by omega
 obtain ⟨a,h0⟩:=at_ (l:=own) (k:=0) hpos
 obtain ⟨z,hz⟩:=at_ (l:=own) (k:=own.length-1) (by omega)
 have hiff:=Ns ha (m:=l.length) h0 hz
 refine DL h1 rfl ?_
 refine cy h1 rfl (AB rfl underlying22 A4 (vl rfl) (vl rfl) (by omega) (Am (k:=0) h0)) ?_
 refine ag ?_ ?_<;>intro h2 q2
 refine ac ?_
 refine cy h2 rfl (AB rfl underlying22 A4 (vl rfl) (vl rfl) (by omega) (O0 hpos hz)) ?_
 refine ac ?_
 refine EK 4 5 rfl (Tr.ret (Fin.Cq rfl (Ba.Cz _ _) rfl ?_ rfl ?_))
 · exact Lr
 · refine bool_eq ?_;rw [decide_eq_decide,hiff];omega
 refine ac ?_
 refine EK 4 5 rfl (Tr.ret (Fin.Cq rfl (Ba.Cz _ _) rfl ?_ rfl ?_))
 · exact Lr
 · refine bool_eq ?_;symm;rw [decide_eq_false_iff_not,hiff];omega
theorem Xg {rows:List (List Pr)} {b:Int} (hb:b≤1):BT prog 174 [slice 8 rows,int 0,int b,any] (CC):=by
 refine fo func174 rfl ⟨rfl,rfl⟩ fun M0 w0=> ?_
 refine ac ?_
 refine Tr.block (Tr.BU [(0,_),(1,_),(2,_),(3,_)] (KH rfl) (fun i:Int=>[(8,int i)]) (fun i:Int=>i=1) (fun i:Int=>0) 1 (rfl) ⟨ke rfl,trivial⟩ ?_)
 rintro i hi
 refine an ?_ ?_<;>intro h1 q1
 have:=h1
 exfalso;omega
 have:=h1
 refine Tr.exit (Fin.AG (Fin.AG (Fin.AP (Fin.QD rfl))))
theorem Xh {rows:List (List Pr)} {b:Int} (h0:0≤b) (hb:b≤1):BT prog 130 [slice 8 rows,int 0,int b,any,any] (CC):=by
 refine fo func130 rfl ⟨rfl,rfl⟩ fun M0 w0=> ?_
 refine a2 ?_
 refine Tr.block (Tr.BU [(0,_),(4,_)] (RC rfl) (fun (u:Unit)=>[(1,int 0),(2,int b)]) (fun (u:Unit)=>True) (fun (u:Unit)=>0) () (trivial) ⟨ke rfl,ke rfl,trivial⟩ ?_)
 rintro u _
 refine ac ?_
 refine an ?_ ?_<;>intro h1 q1
 refine ac ?_
 refine co rfl (jh (Xg (by omega)) rfl rfl rfl rfl rfl) ?_
 refine ac ?_
 refine Tr.weak [] trivial (Tr.ret (Fin.AF (Fin.AK (Fin.AF (Fin.AK (Fin.RJ rfl))))))
 exfalso;omega
theorem Uy {rows:List (List Pr)} (hs:rows.length≤1):BT prog 74 [slice 8 rows,any] (CC):=by
 refine fo func74 rfl ⟨rfl,rfl⟩ fun M0 w0=> ?_
 have hw:IntKind.u64.wrap ((rows.length:Nat):Int)=rows.length:=IntWalk.u64_in _ ⟨by omega,by omega⟩
 refine ac ?_
 refine co rfl (Gw rfl underlying63 (vl rfl)) ?_
 refine a2 ?_
 refine co rfl (Ci rfl underlying3 underlying137 (vl rfl)) (co rfl (Cr (Uv (by omega) (by omega)) rfl rfl) (cm rfl (co rfl (Ah rfl (Xh (rows:=rows) (b:=(rows.length:Int)) (by omega) (by omega)) ⟨ke rfl,ke rfl,ke rfl,⟨_,rfl,Cs _⟩,⟨_,rfl,Cs _⟩,trivial⟩) (Ch.nil (Fin.QD rfl)))))
structure BF where
 ez:Int
 BM:List UInt8
 kind:Int
 BI:Int
 bits:Int
 num:Int
 text:List UInt8
 Uz:Int
deriving DecidableEq
abbrev AL (f:BF):List Pr:=[int f.ez,str f.BM,int f.kind,int f.BI,int f.bits,int f.num,str f.text,int f.Uz]
abbrev CI (l:List BF):Pr:=slice 8 (l.map AL)
abbrev better (f g:Ac):Prop:=f.day>g.day∨f.day=g.day∧f.B5>g.B5
def Dj (l:List Ac) (t o:Int) (m:List (Ft×Int)) (i:Int):List (Ft×Int):=
 match l[i.toNat]? with
 |none=>m
 |some f=>if f.day>t∨f.day<t-o then m else match Cp.look m (Ay f) with
  |none=>Ee m (Ay f) i
  |some j=>match l[j.toNat]? with
   |none=>m
   |some g=>if better f g then Ee m (Ay f) i else m
def Co (l:List Ac) (own:List Int) (t o:Int):List (Ft×Int):=own.foldl (Dj l t o) []
theorem O1 {l:List Ac} {own:List Int} {t o:Int} {k:Nat} {i:Int} (h:own[k]? =some i):Co l (own.take (k+1)) t o=Dj l t o (Co l (own.take k) t o) i:=by
 unfold Co;rw [List.take_add_one,h,List.foldl_append];rfl
theorem G8 {l:List Ac} {t o:Int} {m:List (Ft×Int)} {i:Int} {f:Ac} (hf:l[i.toNat]? =some f) (h:f.day>t∨f.day<t-o):Dj l t o m i=m:=by unfold Dj;rw [hf];exact if_pos h
theorem LP {l:List Ac} {t o:Int} {m:List (Ft×Int)} {i:Int} {f:Ac} (hf:l[i.toNat]? =some f) (h:¬(f.day>t∨f.day<t-o)) (hl:(Cp.look m (Ay f)).isSome=false):Dj l t o m i=Ee m (Ay f) i:=by
 unfold Dj;rw [hf]
 show (if _ then _ else _)=_
 rw [if_neg h]
 cases h2:Cp.look m (Ay f) with
 |none=>rfl
 |some j=>rw [h2] at hl;cases hl
theorem D2 {l:List Ac} {t o:Int} {m:List (Ft×Int)} {i:Int} {f g:Ac} (hf:l[i.toNat]? =some f) (h:¬(f.day>t∨f.day<t-o)) (hl:(Cp.look m (Ay f)).isSome=true) (hg:l[((Cp.look m (Ay f)).getD 0).toNat]? =some g):Dj l t o m i=if better f g then Ee m (Ay f) i else m:=by
 unfold Dj;rw [hf]
 show (if _ then _ else _)=_
 rw [if_neg h]
 cases h2:Cp.look m (Ay f) with
 |none=>rw [h2] at hl;cases hl
 |some j=>rw [h2] at hg;simp only [Option.getD_some] at hg;simp only [hg]
theorem U0 {m:List (Ft×Int)} {k:Ft} {j:Int} (h:Cp.look m k=some j):∃p∈m,p.2=j:=by
 unfold Cp.look at h
 cases hf:m.find? fun p=>decide (k=p.1) with
 |none=>rw [hf] at h;cases h
 |some p=>rw [hf] at h;simp at h;exact ⟨p,List.mem_of_find?_eq_some hf,h⟩
theorem Xi {m:List (Ft×Int)} {k:Ft} {v:Int} {p:Ft×Int} (h:p∈Ee m k v):p∈m∨p=(k,v):=by
 unfold Ee at h
 split at h
 · exact (List.mem_or_eq_of_mem_set h)
 · simpa using h
abbrev JL (m:List (Ft×Int)) (n:Nat):Prop:=∀p∈m,0≤p.2∧p.2<(n:Int)
theorem Xj {l:List Ac} {t o:Int} {m:List (Ft×Int)} {i:Int} {n:Nat} (h:JL m n) (hi:0≤i∧i<(n:Int)):JL (Dj l t o m i) n:=by
 intro p hp
 have hu:∀k,p∈Ee m k i→0≤p.2∧p.2<(n:Int):=fun k hk=>by
  rcases Xi hk with h1|rfl
  · exact h p h1
  · exact hi
 unfold Dj at hp
 split at hp
 · exact h p hp
 ·
  split at hp
  · exact h p hp
  ·
   split at hp
   · exact hu _ hp
   ·
    split at hp
    · exact h p hp
    ·
     split at hp
     · exact hu _ hp
     · exact h p hp
theorem Nt {l:List Ac} {t o:Int} {n:Nat}:∀(own:List Int) (m:List (Ft×Int)),JL m n→EX own n→JL (own.foldl (Dj l t o) m) n
 |[],_,h,_=>h
 |i::own,m,h,hi=>Nt own _ (Xj h (hi i (by simp))) (fun j hj=>hi j (List.mem_cons_of_mem _ hj))
theorem Ri {l:List Ac} {t o:Int} {own:List Int} (k:Nat) (hi:EX own l.length):JL (Co l (own.take k) t o) l.length:=Nt _ [] (by intro p hp;simp at hp) (fun j hj=>hi j (List.mem_of_mem_take hj))
theorem Rj {m:List (Ft×Int)} {n:Nat} (h:JL m n) {k:Ft} (hs:(Cp.look m k).isSome=true):0≤(Cp.look m k).getD 0∧(Cp.look m k).getD 0<(n:Int):=by
 cases h2:Cp.look m k with
 |none=>rw [h2] at hs;cases hs
 |some j=>obtain ⟨p,hp,rfl⟩:=U0 h2;exact h p hp
def Cg (l:List Ac) (n i:Int):Option BF:=match l[i.toNat]? with|some f=>if f.kind=8 then none else some ⟨n,f.BM,f.kind,f.BI,f.bits,f.num,f.text,i⟩|none=>none
def MD (l:List Ac) (n:Int) (m:List (Ft×Int)) (seen:List Nat):List BF:=seen.filterMap fun q=>(m[q]?).bind fun p=>Cg l n p.2
theorem Mp:∀{l m:List Nat},l.Nodup→(∀q∈l,q∈m)→l.length≤m.length
 |[],_,_,_=>Nat.zero_le _
 |a::l,m,hn,h=>by
  have h1:=List.nodup_cons.1 hn
  have h2:=Mp (l:=l) (m:=m.erase a) h1.2 (fun q hq=>(List.mem_erase_of_ne (by rintro rfl;exact h1.1 hq)).2 (h q (List.mem_cons_of_mem _ hq)))
  have h3:=List.length_erase_of_mem (h a (by simp))
  have h4:0<m.length:=List.length_pos_of_mem (h a (by simp))
  simp only [List.length_cons];omega
theorem Ev {m:Nat} {l:List Nat} (hn:l.Nodup) (h:∀q∈l,q<m):l.length≤m:=by
 simpa using Mp hn (m:=List.range m) (fun q hq=>List.mem_range.2 (h q hq))
theorem Io (l:List Ac) (n:Int) (m:List (Ft×Int)) (seen:List Nat):(MD l n m seen).length≤seen.length:=List.length_filterMap_le _ _
theorem LQ {α β:Type} (f:α→Option β) (q:α):[q].filterMap f=(f q).toList:=by
 cases h:f q<;>simp [h]
theorem Mq (l:List Ac) (n:Int) (m:List (Ft×Int)) (seen:List Nat) (q:Nat):MD l n m (seen++[q])=MD l n m seen++((m[q]?).bind fun p=>Cg l n p.2).toList:=by
 unfold MD;rw [List.filterMap_append,LQ]
theorem HR {seen:List Nat} {q m:Nat} (hn:seen.Nodup) (hl:∀x∈seen,x<m) (hq:q∉seen) (e7:q<m):((seen++[q]).Nodup∧∀x∈seen++[q],x<m)∧m-(seen++[q]).length<m-seen.length:=by
 have h1:(seen++[q]).Nodup:=by
  rw [List.nodup_append];exact ⟨hn,by simp,fun a ha b hb=>by simp at hb;subst hb;rintro rfl;exact hq ha⟩
 have h2:∀x∈seen++[q],x<m:=fun x hx=>by
  rcases List.mem_append.1 hx with h|h
  · exact hl x h
  · simp at h;subst h;exact e7
 have h3:=Ev h1 h2
 refine ⟨⟨h1,h2⟩,?_⟩
 simp only [List.length_append,List.length_cons,List.length_nil] at h3 ⊢;omega
theorem CD {α:Type} {l:List α} {k:Nat} {x:α} (h:l[k]? =some x):k<l.length:=by
 rcases Nat.lt_or_ge k l.length with h'|h'
 · exact h'
 · rw [List.getElem?_eq_none h'] at h;cases h
theorem Nu {l:List Ac} {n i:Int} {g:Ac} (hg:l[i.toNat]? =some g) (h:g.kind=8):Cg l n i=none:=by unfold Cg;rw [hg];exact if_pos h
theorem Ip {l:List Ac} {n i:Int} {g:Ac} (hg:l[i.toNat]? =some g) (h:¬g.kind=8):Cg l n i=some ⟨n,g.BM,g.kind,g.BI,g.bits,g.num,g.text,i⟩:=by unfold Cg;rw [hg];exact if_neg h
theorem U1 {l:List Ac} {n:Int} {m:List (Ft×Int)} {seen:List Nat} (h1:m.length≤1) (hn:seen.Nodup) (hlt:∀q∈seen,q<m.length) (hall:∀q,q<m.length→q∈seen):MD l n m seen=m.filterMap fun p=>Cg l n p.2:=by
 have hlen:=Ev hn hlt
 match m,h1 with
 |[],_=>
  have:seen=[]:=List.eq_nil_of_length_eq_zero (by simpa using hlen)
  subst this;rfl
 |[p],_=>
  have h0:=hall 0 (by simp)
  match seen,hlen with
  |[],_=>cases h0
  |[q],_=>simp at h0;subst h0;unfold MD;rw [LQ,LQ];rfl
  |a::b::r,h=>simp only [List.length_cons,List.length_nil] at h;omega
theorem O2 {l:List Ac} {n t o:Int} {own:List Int} (hN:BO l) (hf:∀f∈l,f.fits) (ht:0≤t∧t≤40000) (ho:0≤o∧o≤4000) (ha:KT own) (hi:EX own l.length) (hs:own.length≤12) (gZ:(Co l own t o).length≤1):BT prog 32 [Bu l,Dm n own,int t,int o] (DT [CI ((Co l own t o).filterMap fun p=>Cg l n p.2),int 0]):=by
 refine fo func32 rfl ⟨rfl,rfl⟩ fun M0 w0=> ?_
 haveI:=Classical.propDecidable (BO l)
 obtain ⟨ht1,ht2⟩:=ht
 obtain ⟨gW,l7⟩:=ho
 have iN:=hN.len
 refine a2 ?_
 refine co rfl (EE (Mo (by assumption) (by assumption)) rfl rfl rfl) ?_
 refine a2 ?_
 refine co rfl (Cr (C4 (by assumption)) rfl rfl) ?_
 refine ac ?_
 refine Ea 0 2 3 5 10 11 28 rfl ?_
 refine Tr.cn rfl ?_ ?_<;>intro h1 q1
 exfalso;simp_all
 refine ag ?_ ?_<;>intro h2 q2
 exfalso;omega
 refine ag ?_ ?_<;>intro h3 q3
 exfalso;omega
 refine ag ?_ ?_<;>intro h4 q4
 exfalso;omega
 refine ac ?_
 refine Ea 0 2 3 5 10 11 32 rfl ?_
 refine Tr.cn rfl ?_ ?_<;>intro h5 q5
 exfalso;omega
 refine an ?_ ?_<;>intro h6 q6
 exfalso;simp_all
 refine ac ?_
 refine Tr.seq (Tr.CA ?_)
 refine TO.Yj Im rfl rfl (by decide) rfl (fun b1=> ?_)
 refine ao ?_
 refine ac ?_
 refine HU 0 2 3 5 12 51 52 53 rfl (Tr.block (Tr.Fy [(0,_),(2,_),(3,_),(5,_),(12,_),(51,_),(52,_)] ⟨ke rfl,ke rfl,ke rfl,ke rfl,ke rfl,ke rfl,ke rfl,trivial⟩ (fun k:Nat=>[(53,int ((k:Nat):Int))]) (fun k:Nat=>Hp M0 w0 Je ([G2 Im b1 (Co l (own.take k) t o)])) (fun k:Nat=>k≤(own).length) (fun k:Nat=>(own).length-k) 0 (Nat.zero_le _) ⟨ke rfl,trivial⟩ (fun _ _ h=>h) ?_))
 rintro k Cb
 refine ac ?_
 refine Tr.seq ?_
 refine Tr.cn rfl ?_ ?_<;>intro h7 q7
 have Az:k<(own).length:=Ak h7
 obtain ⟨i,A7⟩:=at_ Az
 have iO:=hi i (List.mem_of_getElem? A7)
 obtain ⟨f,O3⟩:=at_ (l:=l) (k:=i.toNat) (by omega)
 have hstep:=O1 (l:=l) (t:=t) (o:=o) A7
 refine ac ?_
 refine Tr.seq (Tr.block (Tr.seq (Tr.Ax (co rfl (AB rfl underlying22 A4 (vl rfl) (vl rfl) (by omega) (Am A7)) ?_))))
 refine ac ?_
 refine ao ?_
 refine tp rfl (AB rfl underlying31 AY (vl rfl) (vl rfl) (by omega) (A_ O3)) (tp rfl (Ad rfl BE AY (vl rfl) rfl rfl) ?_)
 refine Tl rfl rfl rfl rfl EO JG (fun b2=> ?_)
 refine sf 0 15 ⟨rfl,rfl,rfl⟩ rfl rfl rfl rfl ?_
 refine ao ?_
 refine FM 0 2 3 5 12 14 15 51 52 53 rfl ?_
 refine ag ?_ ?_<;>intro h8 q8
 refine ac ?_
 refine Hr 0 2 3 5 12 14 15 51 52 53 72 rfl ?_
 refine a2 ?_
 rw [G8 O3 (by omega)] at hstep
 exact Fin.NL (k+1) ⟨Az,by omega⟩ ⟨⟨_,rfl,AJ k⟩,ke rfl,ke rfl,ke rfl,ke rfl,ke rfl,ke rfl,ke rfl,trivial⟩ (fun _ _ h=>by rw [hstep];exact h)
 refine ac ?_
 refine Hr 0 2 3 5 12 14 15 51 52 53 72 rfl ?_
 refine Tr.cn rfl ?_ ?_<;>intro h9 q9
 refine a2 ?_
 rw [G8 O3 (by omega)] at hstep
 exact Fin.NL (k+1) ⟨Az,by omega⟩ ⟨⟨_,rfl,AJ k⟩,ke rfl,ke rfl,ke rfl,ke rfl,ke rfl,ke rfl,ke rfl,trivial⟩ (fun _ _ h=>by rw [hstep];exact h)
 refine ac ?_
 refine ao ?_
 refine tp rfl (Cr (C5) rfl rfl) (TO.rd 0 rfl rfl rfl (by decide) (MR (Ay f) Cf rfl (vl rfl) (vl rfl) (fun _ _ _ h=>Ec h)) ?_)
 refine ao ?_
 refine cC 0 2 3 5 12 14 15 16 17 51 52 53 rfl ?_
 refine ag ?_ ?_<;>intro h10 SQ
 have QV:(Cp.look (Co l (own.take k) t o) (Ay f)).isSome=false:=by simpa using h10
 refine ac ?_
 refine Hr 0 2 3 5 12 14 15 51 52 53 111 rfl (Tr.cond rfl (fun _=> ?_) (fun h=>nomatch h))
 refine Tr.CA (tm rfl (tp rfl (Ad rfl BE AY (vl rfl) rfl rfl) (tp rfl (Cr (C5) rfl rfl) (tm rfl (TO.CY 0 rfl rfl (Eu (Ay f) Cf rfl rfl rfl (vl rfl) (vl rfl) (fun _ _ _ h=>Ec h) (vl rfl)) ?_)))))
 refine ao ?_
 refine HU 0 2 3 5 12 51 52 53 rfl ?_
 refine ac ?_
 rw [LP O3 (by omega) QV] at hstep
 exact Fin.NL (k+1) ⟨Az,by omega⟩ ⟨⟨_,rfl,AJ k⟩,ke rfl,ke rfl,ke rfl,ke rfl,ke rfl,ke rfl,ke rfl,trivial⟩ (fun _ _ h=>by rw [hstep];exact h)
 have hsome:(Cp.look (Co l (own.take k) t o) (Ay f)).isSome=true:=by simpa using h10
 have Y7:=Rj (Ri (t:=t) (o:=o) k hi) hsome
 obtain ⟨g,hg⟩:=at_ (l:=l) (k:=((Cp.look (Co l (own.take k) t o) (Ay f)).getD 0).toNat) (by omega)
 refine ac ?_
 refine cy h10 rfl (AB rfl underlying31 AY (vl rfl) (vl rfl) (by omega) (A_ hg)) ?_
 refine ag ?_ ?_<;>intro h11 WV
 refine ac ?_
 refine Hr 0 2 3 5 12 14 15 51 52 53 111 rfl (Tr.cond rfl (fun _=> ?_) (fun h=>nomatch h))
 refine Tr.CA (tm rfl (tp rfl (Ad rfl BE AY (vl rfl) rfl rfl) (tp rfl (Cr (C5) rfl rfl) (tm rfl (TO.CY 0 rfl rfl (Eu (Ay f) Cf rfl rfl rfl (vl rfl) (vl rfl) (fun _ _ _ h=>Ec h) (vl rfl)) ?_)))))
 refine ao ?_
 refine HU 0 2 3 5 12 51 52 53 rfl ?_
 refine ac ?_
 rw [D2 O3 (by omega) hsome hg,if_pos (by unfold better;omega)] at hstep
 exact Fin.NL (k+1) ⟨Az,by omega⟩ ⟨⟨_,rfl,AJ k⟩,ke rfl,ke rfl,ke rfl,ke rfl,ke rfl,ke rfl,ke rfl,trivial⟩ (fun _ _ h=>by rw [hstep];exact h)
 refine ac ?_
 refine cy h11 rfl (AB rfl underlying31 AY (vl rfl) (vl rfl) (by omega) (A_ hg)) ?_
 refine ag ?_ ?_<;>intro h12 SV
 refine ac ?_
 refine cy h12 rfl (AB rfl underlying31 AY (vl rfl) (vl rfl) (by omega) (A_ hg)) ?_
 refine ac ?_
 refine Hr 0 2 3 5 12 14 15 51 52 53 111 rfl ?_
 refine Tr.cn rfl ?_ ?_<;>intro I7 Ud
 refine ao ?_
 refine tp rfl (Cr (C5) rfl rfl) (tm rfl (TO.CY 0 rfl rfl (Eu (Ay f) Cf rfl rfl rfl (vl rfl) (vl rfl) (fun _ _ _ h=>Ec h) (vl rfl)) ?_))
 refine ao ?_
 refine HU 0 2 3 5 12 51 52 53 rfl ?_
 refine ac ?_
 rw [D2 O3 (by omega) hsome hg,if_pos (by unfold better;omega)] at hstep
 exact Fin.NL (k+1) ⟨Az,by omega⟩ ⟨⟨_,rfl,AJ k⟩,ke rfl,ke rfl,ke rfl,ke rfl,ke rfl,ke rfl,ke rfl,trivial⟩ (fun _ _ h=>by rw [hstep];exact h)
 refine a2 ?_
 rw [D2 O3 (by omega) hsome hg,if_neg (by unfold better;omega)] at hstep
 exact Fin.NL (k+1) ⟨Az,by omega⟩ ⟨⟨_,rfl,AJ k⟩,ke rfl,ke rfl,ke rfl,ke rfl,ke rfl,ke rfl,ke rfl,trivial⟩ (fun _ _ h=>by rw [hstep];exact h)
 refine ac ?_
 refine Hr 0 2 3 5 12 14 15 51 52 53 111 rfl ?_
 refine a2 ?_
 rw [D2 O3 (by omega) hsome hg,if_neg (by unfold better;omega)] at hstep
 exact Fin.NL (k+1) ⟨Az,by omega⟩ ⟨⟨_,rfl,AJ k⟩,ke rfl,ke rfl,ke rfl,ke rfl,ke rfl,ke rfl,ke rfl,trivial⟩ (fun _ _ h=>by rw [hstep];exact h)
 have B2:k=(own).length:=by have:=Ao h7;omega
 subst B2
 rw [List.take_length]
 refine a2 ?_
 refine ao ?_
 refine TO.range Cf rfl rfl (by decide) rfl (vl rfl) (show _=some (G2 Im _ _) from rfl:_[0]? =_) (fun b3=> ?_)
 refine ao ?_
 refine Tr.block (Tr.GP 110 8 (Tr.Gy [(0,_),(5,_),(118,_)] ⟨ke rfl,ke rfl,ke rfl,trivial⟩ (fun (seen:List Nat) v=>[(18,BB v (CI (MD l n (Co l own t o) seen)))]) (fun (seen:List Nat) v=>Hp M0 w0 Je ([BX 110 8 v,Jo b3 b1 (Co l own t o).length seen,G2 Im b1 (Co l own t o)])) (fun (seen:List Nat)=>seen.Nodup∧∀q∈seen,q<(Co l own t o).length) (fun (seen:List Nat)=>(Co l own t o).length-seen.length) ([]) (.slice none 0 0) (⟨List.nodup_nil,fun q hq=>by cases hq⟩) ⟨⟨_,rfl,FV rfl⟩,trivial⟩ (fun _ _ h=>h) ?_))
 rintro seen v ⟨hnd,hlt⟩
 refine Tr.seq (Tr.CA ?_)
 refine TO.next (i:=1) (j:=2) rfl rfl (by decide) rfl (vl rfl) rfl rfl (fun U2=> ?_) (fun q1 p1 hq1 hn1=> ?_)
 refine ao ?_
 refine a2 ?_
 refine co rfl (Ah rfl (Uy (by rw [List.length_map];exact Nat.le_trans (Io ..) (Nat.le_trans (Ev hnd hlt) gZ))) ⟨(Kb rfl),⟨_,rfl,Cs _⟩,trivial⟩) ?_
 refine a2 ?_
 refine Tr.ret (Fin.Cq rfl (Ba.Cz _ _) rfl ?_ rfl ?_)
 · refine Pr.le_trans (BL _ _) (Pr.le_of_eq (by rw [U1 gZ hnd hlt U2]))
 · exact Lr
 refine ao ?_
 refine ac ?_
 refine Tr.block (Tr.seq ?_)
 have hin:=(Nt (l:=l) (t:=t) (o:=o) own [] (by intro p hp;simp at hp) hi) p1 (List.mem_of_getElem? hq1)
 obtain ⟨g,hg⟩:=at_ (l:=l) (k:=p1.2.toNat) (by omega)
 have hof:=Mq l n (Co l own t o) seen q1
 rw [hq1] at hof
 have l8:=Nat.le_trans (Io l n (Co l own t o) seen) (Ev hnd hlt)
 refine Tr.CA ?_
 refine TO.entry (i:=1) (j:=2) rfl rfl (by decide) rfl (vl rfl) rfl rfl hq1 ?_
 refine ao ?_
 refine ao ?_
 refine tp rfl (AB rfl underlying31 AY (vl rfl) (vl rfl) (by omega) (A_ hg)) (tp rfl (Ad rfl BE AY (vl rfl) rfl rfl) ?_)
 refine Tl rfl rfl rfl rfl EO JG (fun b4=> ?_)
 refine sf 0 21 ⟨rfl,rfl,rfl⟩ rfl rfl rfl rfl ?_
 refine ao ?_
 refine EZ 0 5 18 20 21 118 rfl ?_
 refine an ?_ ?_<;>intro Ue Zq
 refine ao ?_
 refine TO.MK 0 rfl rfl (by decide) (Oh rfl rfl rfl rfl underlying63 AH G0 FN (Kb rfl) (Kf rfl) (GO (by exact List.Mem.head _) (Ka rfl))) (fun v1=> ?_)
 refine ao ?_
 rw [show ((some p1).bind fun p=>Cg l n p.2)=_ from Ip hg (by omega)] at hof
 exact Fin.C9 (seen++[q1]) v1 (HR hnd hlt hn1 (CD hq1)) ⟨⟨_,rfl,Bs (by rw [hof,List.map_append];rfl)⟩,ke rfl,ke rfl,ke rfl,trivial⟩ (fun _ _ h=>h)
 refine Tr.skip (Fin.block ?_)
 rw [show ((some p1).bind fun p=>Cg l n p.2)=_ from Nu hg (by omega)] at hof
 exact Fin.C9 (seen++[q1]) v (HR hnd hlt hn1 (CD hq1)) ⟨⟨_,rfl,Bs (by rw [hof,List.map_append];exact (List.append_nil _).symm)⟩,ke rfl,ke rfl,ke rfl,trivial⟩ (fun _ _ h=>h)
abbrev kD (u:Int×Int):List Pr:=[int u.1,int u.2]
abbrev LR (l:List (Int×Int)):Pr:=slice 2 (l.map kD)
def Iq (s:List UInt8) (f:BF):Option (Int×Int):=if f.BM=s∧f.kind=1 then some (f.BI,f.bits) else none
def G9 (l:List BF) (s:List UInt8):List (Int×Int):=l.filterMap (Iq s)
theorem GY {α β:Type} (f:α→Option β) {l:List α} {k:Nat} {x:α} (h:l[k]? =some x):(l.take (k+1)).filterMap f=(l.take k).filterMap f++(f x).toList:=by
 rw [List.take_add_one,h,List.filterMap_append];show _++[x].filterMap f=_;rw [LQ]
theorem Rk {s:List UInt8} {f:BF} (h:f.BM=s) (h2:f.kind=1):Iq s f=some (f.BI,f.bits):=if_pos ⟨h,h2⟩
theorem Nv {s:List UInt8} {f:BF} (h:¬f.BM=s∨¬f.kind=1):Iq s f=none:=if_neg (by rintro ⟨a,b⟩;rcases h with h|h;exact h a;exact h b)
theorem O4 (l:List BF) (s:List UInt8) (k:Nat):(G9 (l.take k) s).length≤l.length:=Nat.le_trans (List.length_filterMap_le _ _) (by simp;omega)
def GZ (s:List UInt8) (kd:Int):List BF→Int×Bool
 |[]=>(0,false)
 |f::r=>if f.BM=s∧f.kind=kd then (f.num,true) else GZ s kd r
theorem Nw {α:Type} {l:List α} {k:Nat} {x:α} (h:l[k]? =some x):l.drop k=x::l.drop (k+1):=by
 have hk:=CD h
 rw [List.getElem?_eq_getElem hk] at h
 simp only [Option.some.injEq] at h
 rw [List.drop_eq_getElem_cons hk,h]
theorem Rl {s:List UInt8} {kd:Int} {l:List BF} {k:Nat} {x:BF} (hx:l[k]? =some x) (h:GZ s kd (l.drop k)=GZ s kd l) (h1:x.BM=s) (h2:x.kind=kd):(x.num,true)=GZ s kd l:=by
 rw [←h,Nw hx];exact (if_pos ⟨h1,h2⟩).symm
theorem Nx {s:List UInt8} {kd:Int} {l:List BF} {k:Nat} {x:BF} (hx:l[k]? =some x) (h:GZ s kd (l.drop k)=GZ s kd l) (h1:¬x.BM=s∨¬x.kind=kd):GZ s kd (l.drop (k+1))=GZ s kd l:=by
 rw [←h,Nw hx];exact (if_neg (by rintro ⟨a,b⟩;rcases h1 with h|h;exact h a;exact h b)).symm
theorem Rm {s:List UInt8} {kd:Int} {l:List BF} (h:GZ s kd (l.drop l.length)=GZ s kd l):(0,false)=GZ s kd l:=by
 rw [←h,List.drop_length];rfl
def EG (x y:BF):Bool:=decide (x.ez=y.ez∧x.BM=y.BM∧x.kind=y.kind∧x.BI=y.BI∧x.bits=y.bits∧x.num=y.num∧x.text=y.text)
def without (o:List BF) (l:List BF):List BF:=l.filter fun x=> !(o.any (EG x))
theorem U3 {x y:BF}:x=y↔(x.ez=y.ez∧x.BM=y.BM∧x.kind=y.kind∧x.BI=y.BI∧x.bits=y.bits∧x.num=y.num∧x.text=y.text∧x.Uz=y.Uz):=by
 cases x;cases y;simp
theorem D3 {α:Type} (p:α→Bool) {l:List α} {k:Nat} {x:α} (h:l[k]? =some x):(l.take (k+1)).any p=((l.take k).any p||p x):=by
 rw [List.take_add_one,h,List.any_append];simp
theorem Mr {α:Type} (p:α→Bool) {l:List α} {k:Nat} {x:α} (h:l[k]? =some x):(l.take (k+1)).filter p=(l.take k).filter p++(if p x then [x] else []):=by
 rw [List.take_add_one,h,List.filter_append];congr 1;cases hp:p x<;>simp [hp]
theorem LS {α:Type} {a b:List α} {k:Nat} {x y:α} (ha:a[k]? =some x) (hb:b[k]? =some y) (h:a.take k=b.take k) (e:x=y):a.take (k+1)=b.take (k+1):=by
 rw [List.take_add_one,List.take_add_one,ha,hb,h,e]
theorem Ny {α:Type} {a b:List α} {k:Nat} {x y:α} (ha:a[k]? =some x) (hb:b[k]? =some y) (e:¬x=y):¬a=b:=by
 rintro rfl;rw [ha] at hb;cases hb;exact e rfl
theorem LU {α:Type} {a b:List α} (hl:a.length=b.length) (h:a.take a.length=b.take a.length):a=b:=by
 rw [List.take_length,hl,List.take_length] at h;exact h
theorem U4 {l:List BF} {s:List UInt8} (hl:l.length≤100000):BT prog 43 [CI l,str s] (LR (G9 l s)):=by
 refine fo func43 rfl ⟨rfl,rfl⟩ fun M0 w0=> ?_
 refine a3 ?_
 refine Tr.block (Tr.GP 24 2 (Tr.Hq [(1,_),(8,_),(9,_)] ⟨ke rfl,ke rfl,ke rfl,trivial⟩ (fun k v=>[(10,int ((k:Nat):Int)),(5,BB v (LR (G9 (l.take k) s)))]) (fun k v=>Hp M0 w0 Je ([BX 24 2 v])) (fun k:Nat=>k≤(l).length) (fun k:Nat=>(l).length-k) 0 (.slice none 0 0) (Nat.zero_le _) ⟨ke rfl,⟨_,rfl,FV rfl⟩,trivial⟩ (fun _ _ h=>h) ?_))
 rintro k v Cb
 refine ac ?_
 refine Tr.seq ?_
 refine Tr.cn rfl ?_ ?_<;>intro h1 q1
 have Az:k<(l).length:=Ak h1
 obtain ⟨x,A7⟩:=at_ Az
 have RQ:=O4 l s k
 refine ac ?_
 refine Tr.seq (Tr.block (Tr.seq (Tr.CA (tp rfl (AB rfl underlying63 AH (vl rfl) (vl rfl) (by omega) (by exact Am (by assumption))) ?_))))
 refine tp rfl (Ad rfl Aw AH (vl rfl) rfl rfl) ?_
 refine Tl rfl rfl rfl rfl FN Kw (fun b1=> ?_)
 refine sf 0 7 ⟨rfl,rfl,rfl⟩ rfl rfl rfl rfl ?_
 refine ao ?_
 refine ag ?_ ?_<;>intro h2 q2
 refine ac ?_
 refine Ea 1 5 7 8 9 10 22 rfl ?_
 refine Tr.cn rfl ?_ ?_<;>intro h3 q3
 refine ao ?_
 refine TO.MK 0 rfl rfl (by decide) (Oh rfl rfl rfl rfl underlying76 Fl cJ z24 (Kb rfl) (Kf rfl) (GO (by exact List.Mem.head _) (Ka rfl))) (fun v1=> ?_)
 refine ao ?_
 refine ac ?_
 have Ms:=GY (Iq s) A7
 rw [Rk (by assumption) (by omega)] at Ms
 have O5:G9 (l.take (k+1)) s=_:=Ms
 exact Fin.DP (k+1) v1 (⟨Az,by omega⟩) ⟨⟨_,rfl,AJ k⟩,⟨_,rfl,Bs (by rw [O5,List.map_append];rfl)⟩,ke rfl,ke rfl,ke rfl,trivial⟩ (fun _ _ h=>h)
 refine a2 ?_
 have Ms:=GY (Iq s) A7
 rw [Nv (by right;omega)] at Ms
 have O5:G9 (l.take (k+1)) s=_:=Ms
 exact Fin.DP (k+1) v (⟨Az,by omega⟩) ⟨⟨_,rfl,AJ k⟩,⟨_,rfl,Bs (by rw [O5,List.map_append];exact (List.append_nil _).symm)⟩,ke rfl,ke rfl,ke rfl,trivial⟩ (fun _ _ h=>h)
 refine ac ?_
 refine Ea 1 5 7 8 9 10 22 rfl ?_
 refine a2 ?_
 have Ms:=GY (Iq s) A7
 rw [Nv (by left;assumption)] at Ms
 have O5:G9 (l.take (k+1)) s=_:=Ms
 exact Fin.DP (k+1) v (⟨Az,by omega⟩) ⟨⟨_,rfl,AJ k⟩,⟨_,rfl,Bs (by rw [O5,List.map_append];exact (List.append_nil _).symm)⟩,ke rfl,ke rfl,ke rfl,trivial⟩ (fun _ _ h=>h)
 have B2:k=(l).length:=by have:=Ao h1;omega
 subst B2
 refine a3 ?_
 · exact Pr.le_trans (BL _ _) (Pr.le_of_eq (by rw [List.take_length]))
theorem Xk {l:List BF} {s:List UInt8} (hl:l.length≤100000):BT prog 44 [CI l,str s] (LR (G9 l s)):=by
 refine fo func44 rfl ⟨rfl,rfl⟩ fun M0 w0=> ?_
 refine a3 ?_
 refine Tr.block (Tr.GP 24 2 (Tr.Hq [(0,_),(1,_)] ⟨ke rfl,ke rfl,trivial⟩ (fun k v=>[(6,int ((k:Nat):Int)),(5,BB v (LR (G9 (l.take k) s)))]) (fun k v=>Hp M0 w0 Je ([BX 24 2 v])) (fun k:Nat=>k≤(l).length) (fun k:Nat=>(l).length-k) 0 (.slice none 0 0) (Nat.zero_le _) ⟨ke rfl,⟨_,rfl,FV rfl⟩,trivial⟩ (fun _ _ h=>h) ?_))
 rintro k v Cb
 refine an ?_ ?_<;>intro h1 q1
 have Az:k<(l).length:=Ak h1
 obtain ⟨x,A7⟩:=at_ Az
 have RQ:=O4 l s k
 refine a2 ?_
 refine co rfl (AB rfl underlying63 AH (vl rfl) (vl rfl) (by omega) (by exact Am (by assumption))) ?_
 refine ag ?_ ?_<;>intro h2 q2
 refine ac ?_
 refine cy h2 rfl (AB rfl underlying63 AH (vl rfl) (vl rfl) (by omega) (by exact Am (by assumption))) ?_
 refine ac ?_
 refine EL 0 1 5 6 27 rfl ?_
 refine Tr.cn rfl ?_ ?_<;>intro h3 q3
 refine ap ?_
 refine tp rfl (AB rfl underlying63 AH (vl rfl) (vl rfl) (by omega) (by exact Am (by assumption))) ?_
 refine ap ?_
 refine TO.MK 0 rfl rfl (by decide) (Oh rfl rfl rfl rfl underlying76 Fl cJ z24 (Kb rfl) (Kf rfl) (GO (by exact List.Mem.head _) (Ka rfl))) (fun v1=> ?_)
 refine ap ?_
 refine Dp 0 1 5 6 rfl ?_
 refine ac ?_
 have Ms:=GY (Iq s) A7
 rw [Rk (by assumption) (by omega)] at Ms
 have O5:G9 (l.take (k+1)) s=_:=Ms
 exact Fin.DP (k+1) v1 (⟨Az,by omega⟩) ⟨⟨_,rfl,AJ k⟩,⟨_,rfl,Bs (by rw [O5,List.map_append];rfl)⟩,ke rfl,ke rfl,trivial⟩ (fun _ _ h=>h)
 refine a2 ?_
 have Ms:=GY (Iq s) A7
 rw [Nv (by left;assumption)] at Ms
 have O5:G9 (l.take (k+1)) s=_:=Ms
 exact Fin.DP (k+1) v (⟨Az,by omega⟩) ⟨⟨_,rfl,AJ k⟩,⟨_,rfl,Bs (by rw [O5,List.map_append];exact (List.append_nil _).symm)⟩,ke rfl,ke rfl,trivial⟩ (fun _ _ h=>h)
 refine ac ?_
 refine EL 0 1 5 6 27 rfl ?_
 refine a2 ?_
 have Ms:=GY (Iq s) A7
 rw [Nv (by right;omega)] at Ms
 have O5:G9 (l.take (k+1)) s=_:=Ms
 exact Fin.DP (k+1) v (⟨Az,by omega⟩) ⟨⟨_,rfl,AJ k⟩,⟨_,rfl,Bs (by rw [O5,List.map_append];exact (List.append_nil _).symm)⟩,ke rfl,ke rfl,trivial⟩ (fun _ _ h=>h)
 have B2:k=(l).length:=by have:=Ao h1;omega
 subst B2
 refine a3 ?_
 · exact Pr.le_trans (BL _ _) (Pr.le_of_eq (by rw [List.take_length]))
theorem U5 {l:List BF} {s:List UInt8} {kd:Int}  :BT prog 40 [CI l,str s,int kd] (DT [int (GZ s kd l).1,bool (GZ s kd l).2]):=by
 refine fo func40 rfl ⟨rfl,rfl⟩ fun M0 w0=>(Tr.D9 0 rfl fun Dg=> ?_)
 refine a2 ?_
 refine Tr.block (Tr.BU [(1,_),(2,_),(10,_),(11,_)] (KH rfl) (fun k:Nat=>[(12,int ((k:Nat):Int))]) (fun k:Nat=>k≤(l).length∧(GZ s kd (l.drop k)=GZ s kd l)) (fun k:Nat=>(l).length-k) 0 (⟨Nat.zero_le _,rfl⟩) ⟨ke rfl,trivial⟩ ?_)
 rintro k ⟨Cb,Ap⟩
 refine ac ?_
 refine Tr.seq ?_
 refine Tr.cn rfl ?_ ?_<;>intro h1 q1
 have Az:k<(l).length:=Ak h1
 obtain ⟨x,A7⟩:=at_ Az
 refine ac ?_
 refine Tr.seq (Tr.block (Tr.seq (Tr.CA (tp rfl (AB rfl underlying63 AH (vl rfl) (vl rfl) (by omega) (by exact Am (by assumption))) ?_))))
 refine tp rfl (Ad rfl Aw AH (vl rfl) rfl rfl) ?_
 refine Tl rfl rfl rfl rfl FN Kw (fun b1=> ?_)
 refine sf 0 9 ⟨rfl,rfl,rfl⟩ rfl rfl rfl rfl ?_
 refine ao ?_
 refine ag ?_ ?_<;>intro h2 q2
 refine ac ?_
 refine Ea 1 2 9 10 11 12 25 rfl ?_
 refine Tr.cn rfl ?_ ?_<;>intro h3 q3
 refine ac ?_
 refine Tr.ret (Fin.AK (Fin.AF (Fin.AF (Fin.AK (Fin.AF (Fin.Ku rfl (A6.tmp rfl (Lr)) (A6.tmp rfl (Lr)) ?_))))))
 · rw [←Rl A7 Ap (by assumption) (by assumption)];exact Lr
 refine a2 ?_
 exact Fin.AE (k+1) ⟨⟨Az,Nx A7 Ap (by right;omega)⟩,by omega⟩ ⟨⟨_,rfl,AJ k⟩,ke rfl,ke rfl,ke rfl,ke rfl,trivial⟩
 refine ac ?_
 refine Ea 1 2 9 10 11 12 25 rfl ?_
 refine a2 ?_
 exact Fin.AE (k+1) ⟨⟨Az,Nx A7 Ap (by left;assumption)⟩,by omega⟩ ⟨⟨_,rfl,AJ k⟩,ke rfl,ke rfl,ke rfl,ke rfl,trivial⟩
 have B2:k=(l).length:=by have:=Ao h1;omega
 subst B2
 refine a2 ?_
 refine Tr.ret (Fin.Ku rfl (A6.tmp rfl (Lr)) (A6.tmp rfl (Lr)) ?_)
 · rw [←Rm Ap];exact Lr
theorem Sg {l:List BF} {s:List UInt8} {kd:Int}  :BT prog 41 [CI l,str s,int kd] (DT [int (GZ s kd l).1,bool (GZ s kd l).2]):=by
 refine fo func41 rfl ⟨rfl,rfl⟩ fun M0 w0=>(Tr.D9 0 rfl fun Dg=> ?_)
 refine a2 ?_
 refine Tr.block (Tr.BU [(0,_),(1,_),(2,_)] (OK rfl) (fun k:Nat=>[(8,int ((k:Nat):Int))]) (fun k:Nat=>k≤(l).length∧(GZ s kd (l.drop k)=GZ s kd l)) (fun k:Nat=>(l).length-k) 0 (⟨Nat.zero_le _,rfl⟩) ⟨ke rfl,trivial⟩ ?_)
 rintro k ⟨Cb,Ap⟩
 refine an ?_ ?_<;>intro h1 q1
 have Az:k<(l).length:=Ak h1
 obtain ⟨x,A7⟩:=at_ Az
 refine a2 ?_
 refine co rfl (AB rfl underlying63 AH (vl rfl) (vl rfl) (by omega) (by exact Am (by assumption))) ?_
 refine ag ?_ ?_<;>intro h2 q2
 refine ac ?_
 refine cy h2 rfl (AB rfl underlying63 AH (vl rfl) (vl rfl) (by omega) (by exact Am (by assumption))) ?_
 refine ac ?_
 refine EL 0 1 2 8 30 rfl ?_
 refine Tr.cn rfl ?_ ?_<;>intro h3 q3
 refine ac ?_
 refine co rfl (AB rfl underlying63 AH (vl rfl) (vl rfl) (by omega) (by exact Am (by assumption))) ?_
 refine ac ?_
 refine Tr.ret (Fin.AK (Fin.AF (Fin.AF (Fin.AK (Fin.AF (Fin.Ku rfl (A6.tmp rfl (Lr)) (A6.tmp rfl (Lr)) ?_))))))
 · rw [←Rl A7 Ap (by assumption) (by assumption)];exact Lr
 refine a2 ?_
 exact Fin.AE (k+1) ⟨⟨Az,Nx A7 Ap (by left;assumption)⟩,by omega⟩ ⟨⟨_,rfl,AJ k⟩,ke rfl,ke rfl,ke rfl,trivial⟩
 refine ac ?_
 refine EL 0 1 2 8 30 rfl ?_
 refine a2 ?_
 exact Fin.AE (k+1) ⟨⟨Az,Nx A7 Ap (by right;omega)⟩,by omega⟩ ⟨⟨_,rfl,AJ k⟩,ke rfl,ke rfl,ke rfl,trivial⟩
 have B2:k=(l).length:=by have:=Ao h1;omega
 subst B2
 refine a2 ?_
 refine Tr.ret (Fin.Ku rfl (A6.tmp rfl (Lr)) (A6.tmp rfl (Lr)) ?_)
 · rw [←Rm Ap];exact Lr
theorem Xl {x y:BF}  :BT prog 137 [agg (AL x),agg (AL y)] (bool (EG x y)):=by
 refine fo func137 rfl ⟨rfl,rfl⟩ fun M0 w0=>(Tr.seq (Tr.CA ?_))
 refine TO.Wk rfl rfl (by decide) rfl (Va rfl) (fun b1=> ?_)
 refine TO.Wk rfl rfl (by decide) rfl (Va rfl) (fun b2=> ?_)
 refine ap ?_
 refine ap ?_
 refine ac ?_
 refine co rfl (Om rfl (vl rfl) (vl rfl)) ?_
 refine ac ?_
 refine Tr.drop 0 (Tr.drop 0 ?_)
 refine ac ?_
 · refine bool_eq ?_;unfold EG;rw [decide_eq_decide];exact ⟨fun ⟨a,b,c,d,e,f,g,_⟩=>⟨a,b,c,d,e,f,g⟩,fun ⟨a,b,c,d,e,f,g⟩=>⟨a,b,c,d,e,f,g,rfl⟩⟩
theorem Yt {x y:BF}  :BT prog 136 [agg (AL y),ref (AL x)] (bool (EG x y)):=by
 refine fo func136 rfl ⟨rfl,rfl⟩ fun M0 w0=>(Tr.seq (Tr.CA ?_))
 refine TO.Wk rfl rfl (by decide) rfl (Va rfl) (fun b1=> ?_)
 refine ap ?_
 refine ap ?_
 refine ac ?_
 refine co rfl (Om rfl (vl rfl) (vl rfl)) ?_
 refine ac ?_
 refine Tr.drop 0 ?_
 refine ac ?_
 · refine bool_eq ?_;unfold EG;rw [decide_eq_decide];exact ⟨fun ⟨a,b,c,d,e,f,g,_⟩=>⟨a,b,c,d,e,f,g⟩,fun ⟨a,b,c,d,e,f,g⟩=>⟨a,b,c,d,e,f,g,rfl⟩⟩
theorem Ga {l:List BF} {p:BF→Bool}  :BT prog 182 [CI l,Gh prog (fun x:BF=>[agg (AL x)]) (fun x=>bool (p x))] (int (idx p l)):=by
 refine fo func182 rfl ⟨rfl,rfl⟩ fun M0 w0=>(Tr.D9 0 rfl fun Dg=> ?_)
 refine a2 ?_
 refine Tr.block (Tr.BU [(0,_),(1,_),(7,_)] (OK rfl) (fun k:Nat=>[(8,int ((k:Nat):Int))]) (fun k:Nat=>k≤(l).length∧(∀j y,j<k→l[j]? =some y→p y=false)) (fun k:Nat=>(l).length-k) 0 (⟨Nat.zero_le _,fun j y hj=>absurd hj (by omega)⟩) ⟨ke rfl,trivial⟩ ?_)
 rintro k ⟨Cb,Ap⟩
 refine ac ?_
 refine Tr.seq ?_
 refine Tr.cn rfl ?_ ?_<;>intro h1 q1
 have Az:k<(l).length:=Ak h1
 obtain ⟨x,A7⟩:=at_ Az
 · repeat' first|exact int_eq (HN A7 (by assumption) Ap)|exact Fin.AE (k+1) ⟨⟨Az,Fa A7 (by assumption) Ap⟩,by omega⟩ ⟨⟨_,rfl,AJ k⟩,ke rfl,ke rfl,ke rfl,trivial⟩|refine co rfl (AB rfl underlying63 AH (vl rfl) (vl rfl) (by omega) (by exact Am (by assumption))) ?_|refine co rfl (Ad rfl Aw AH (vl rfl) rfl rfl) (co rfl (A9 x rfl (vl rfl) ⟨ke rfl,trivial⟩) ?_)|refine ac ?_|(refine Tr.cn rfl ?_ ?_<;>intro h q)
 have B2:k=(l).length:=by have:=Ao h1;omega
 subst B2
 refine a3 ?_
 · exact int_eq (Ie Ap)
theorem J_ {l:List BF} {p:BF→Bool}  :BT prog 135 [CI l,Gh prog (fun x:BF=>[agg (AL x)]) (fun x=>bool (p x))] (bool (l.any p)):=by
 refine fo func135 rfl ⟨rfl,rfl⟩ fun M0 w0=> ?_
 refine a2 ?_
 refine co rfl (EE (Ga) rfl rfl rfl) ?_
 refine a2 ?_
 · exact bool_eq (RV p l)
theorem e8 {x:BF} {o:List BF}  :BT prog 134 [agg (AL x),ref [CI o]] (bool (o.any (EG x))):=by
 refine fo func134 rfl ⟨rfl,rfl⟩ fun M0 w0=> ?_
 refine a2 ?_
 refine co rfl (Ah rfl (J_ (l:=o) (p:=EG x)) ⟨ke rfl,⟨_,rfl,Bi (Yt (x:=x) (y:=x)).1 (fun y=>Yt (x:=x) (y:=y))⟩,trivial⟩) ?_
 refine a2 ?_
 · exact Lr
theorem e9:Entry Tryz.prog 134:=⟨_,Tryz.func134,rfl,rfl⟩
theorem LV {l o:List BF} (hl:l.length≤100000):BT prog 87 [CI l,CI o] (CI (without o l)):=by
 refine fo func87 rfl ⟨rfl,rfl⟩ fun M0 w0=>(Tr.D9 1 rfl fun RZ=> ?_)
 refine a3 ?_
 refine Tr.block (Tr.GP 110 8 (Tr.Hq [(0,_),(1,_)] ⟨ke rfl,ke rfl,trivial⟩ (fun k v=>[(6,int ((k:Nat):Int)),(5,BB v (CI (without o (l.take k))))]) (fun k v=>Hp M0 w0 Je ([BX 110 8 v])) (fun k:Nat=>k≤(l).length) (fun k:Nat=>(l).length-k) 0 (.slice none 0 0) (Nat.zero_le _) ⟨ke rfl,⟨_,rfl,FV rfl⟩,trivial⟩ (fun _ _ h=>h) ?_))
 rintro k v Cb
 refine an ?_ ?_<;>intro h1 q1
 have Az:k<(l).length:=Ak h1
 obtain ⟨x,A7⟩:=at_ Az
 have RQ:(without o (l.take k)).length≤l.length:=Nat.le_trans (List.length_filter_le _ _) (by simp;omega)
 have Ms:=Mr (fun x=> !(o.any (EG x))) A7
 refine a3 ?_
 refine Tr.block (Tr.BU [(0,_),(1,_),(5,_),(6,_)] (KH rfl) (fun j:Nat=>[(8,int ((j:Nat):Int)),(7,bool ((o.take j).any (EG x)))]) (fun j:Nat=>j≤(o).length) (fun j:Nat=>(o).length-j) 0 (Nat.zero_le _) ⟨ke rfl,⟨_,rfl,bool_eq (by simp)⟩,trivial⟩ ?_)
 rintro j e_
 refine an ?_ ?_<;>intro h2 q2
 have O6:j<(o).length:=Ak h2
 obtain ⟨y,Xm⟩:=at_ O6
 · repeat' first|(exact Fin.AE (j+1) ⟨O6,by omega⟩ ⟨⟨_,rfl,AJ j⟩,⟨_,rfl,bool_eq (by rw [D3 _ Xm];simp_all)⟩,ke rfl,ke rfl,ke rfl,ke rfl,trivial⟩)|refine cy h rfl (Ad rfl Aw AH (vl rfl) rfl rfl) (cy h rfl (EE (Xl) rfl rfl rfl) ?_)|refine cy h rfl (AB rfl underlying63 AH (vl rfl) (vl rfl) (by omega) (by exact Am (by assumption))) ?_|refine ac ?_|(refine Ch.cg rfl rfl rfl ?_ ?_<;>intro h q)
 have Z4:j=(o).length:=by have:=Ao h2;omega
 subst Z4
 rw [List.take_length]
 refine ac ?_
 refine an ?_ ?_<;>intro h4 q4
 have O5:without o (l.take (k+1))=without o (l.take k)++(if (!(o.any (EG x)))=true then [x] else []):=Ms
 rw [h4] at O5
 refine ap ?_
 refine tp rfl (AB rfl underlying63 AH (vl rfl) (vl rfl) (by omega) (by exact Am (by assumption))) ?_
 refine ap ?_
 refine TO.MK 0 rfl rfl (by decide) (Oh rfl rfl rfl rfl underlying63 AH G0 FN (Kb rfl) (Kf rfl) (GO (by exact List.Mem.head _) (Ka rfl))) (fun v1=> ?_)
 refine ap ?_
 refine Dp 0 1 5 6 rfl ?_
 refine ac ?_
 exact Fin.DP (k+1) v1 (⟨Az,by omega⟩) ⟨⟨_,rfl,AJ k⟩,⟨_,rfl,Bs (by rw [O5];simp)⟩,ke rfl,ke rfl,trivial⟩ (fun _ _ h=>h)
 have O5:without o (l.take (k+1))=without o (l.take k)++(if (!(o.any (EG x)))=true then [x] else []):=Ms
 rw [h4] at O5
 refine a2 ?_
 exact Fin.DP (k+1) v (⟨Az,by omega⟩) ⟨⟨_,rfl,AJ k⟩,⟨_,rfl,Bs (by rw [O5];simp)⟩,ke rfl,ke rfl,trivial⟩ (fun _ _ h=>h)
 have B2:k=(l).length:=by have:=Ao h1;omega
 subst B2
 refine a3 ?_
 · exact Pr.le_trans (BL _ _) (Pr.le_of_eq (by rw [List.take_length]))
theorem Nz {a b:List (BF)}  :BT prog 36 [CI a,CI b] (bool (decide (a=b))):=by
 refine fo func36 rfl ⟨rfl,rfl⟩ fun M0 w0=>(Tr.D9 0 rfl fun Dg=>(Tr.D9 1 rfl fun RZ=> ?_))
 refine ac ?_
 refine an ?_ ?_<;>intro h1 q1
 have hne:¬a.length=b.length:=by simp_all;omega
 refine a2 ?_
 · refine bool_eq ?_;symm;rw [decide_eq_false_iff_not];rintro rfl;exact hne rfl
 have Gn:a.length=b.length:=by simp_all;omega
 refine a2 ?_
 refine Tr.block (Tr.BU [(0,_),(1,_)] (RC rfl) (fun k:Nat=>[(5,int ((k:Nat):Int))]) (fun k:Nat=>k≤(a).length∧(a.take k=b.take k)) (fun k:Nat=>(a).length-k) 0 (⟨Nat.zero_le _,rfl⟩) ⟨ke rfl,trivial⟩ ?_)
 rintro k ⟨Cb,Ap⟩
 refine an ?_ ?_<;>intro h2 q2
 have Az:k<(a).length:=Ak h2
 obtain ⟨x,A7⟩:=at_ Az
 obtain ⟨y,hy⟩:=at_ (l:=b) (k:=k) (by omega)
 · repeat' first|(refine bool_eq ?_;symm;rw [decide_eq_false_iff_not];refine Ny A7 hy ?_;rw [U3];intro hc;simp_all)|(exact Fin.AE (k+1) ⟨⟨Az,LS A7 hy Ap (by rw [U3];simp_all)⟩,by omega⟩ ⟨⟨_,rfl,AJ k⟩,ke rfl,ke rfl,trivial⟩)|refine co rfl (AB rfl underlying63 AH (vl rfl) (vl rfl) (by omega) (Am A7)) ?_|refine co rfl (AB rfl underlying63 AH (vl rfl) (vl rfl) (by omega) (Am hy)) (co rfl (Ad rfl Aw AH (vl rfl) rfl rfl) (co rfl (UT rfl (vl rfl) (vl rfl)) ?_))|refine ac ?_|(refine Tr.cn rfl ?_ ?_<;>intro h q)
 have B2:k=(a).length:=by have:=Ao h2;omega
 subst B2
 refine a3 ?_
 · refine bool_eq ?_;symm;rw [decide_eq_true_eq];exact LU Gn Ap
theorem QW {a b:List (Int×Int)}  :BT prog 42 [LR a,LR b] (bool (decide (a=b))):=by
 refine fo func42 rfl ⟨rfl,rfl⟩ fun M0 w0=>(Tr.D9 0 rfl fun Dg=>(Tr.D9 1 rfl fun RZ=> ?_))
 refine ac ?_
 refine an ?_ ?_<;>intro h1 q1
 have hne:¬a.length=b.length:=by simp_all;omega
 refine a2 ?_
 · refine bool_eq ?_;symm;rw [decide_eq_false_iff_not];rintro rfl;exact hne rfl
 have Gn:a.length=b.length:=by simp_all;omega
 refine a2 ?_
 refine Tr.block (Tr.BU [(0,_),(1,_)] (RC rfl) (fun k:Nat=>[(5,int ((k:Nat):Int))]) (fun k:Nat=>k≤(a).length∧(a.take k=b.take k)) (fun k:Nat=>(a).length-k) 0 (⟨Nat.zero_le _,rfl⟩) ⟨ke rfl,trivial⟩ ?_)
 rintro k ⟨Cb,Ap⟩
 refine an ?_ ?_<;>intro h2 q2
 have Az:k<(a).length:=Ak h2
 obtain ⟨x,A7⟩:=at_ Az
 obtain ⟨y,hy⟩:=at_ (l:=b) (k:=k) (by omega)
 · repeat' first|(refine bool_eq ?_;symm;rw [decide_eq_false_iff_not];refine Ny A7 hy ?_;rw [Prod.ext_iff];intro hc;simp_all)|(exact Fin.AE (k+1) ⟨⟨Az,LS A7 hy Ap (by rw [Prod.ext_iff];simp_all)⟩,by omega⟩ ⟨⟨_,rfl,AJ k⟩,ke rfl,ke rfl,trivial⟩)|refine co rfl (AB rfl underlying76 Fl (vl rfl) (vl rfl) (by omega) (Am A7)) ?_|refine co rfl (AB rfl underlying76 Fl (vl rfl) (vl rfl) (by omega) (Am hy)) (co rfl (Ad rfl E5 Fl (vl rfl) rfl rfl) (co rfl (GV rfl (vl rfl) (vl rfl)) ?_))|refine ac ?_|(refine Tr.cn rfl ?_ ?_<;>intro h q)
 have B2:k=(a).length:=by have:=Ao h2;omega
 subst B2
 refine a3 ?_
 · refine bool_eq ?_;symm;rw [decide_eq_true_eq];exact LU Gn Ap
theorem U6 {β:Type} {p:β→Bool} {l:List β} (h:¬idx p l= -1):0≤idx p l∧(idx p l).toNat<l.length∧NZ p l l (idx p l).toNat ((idx p l).toNat+1):=by
 unfold idx at h ⊢
 cases hf:l.findIdx? p with
 |none=>rw [hf] at h;exact absurd rfl h
 |some i=>
  rw [List.findIdx?_eq_some_iff_getElem] at hf
  obtain ⟨h1,h2,h3⟩:=hf
  refine ⟨by simp,by simpa using h1,rfl,by simp,by simp only [Int.toNat_natCast];omega,?_,rfl⟩
  simp only [Int.toNat_natCast]
  rw [List.take_add_one,List.getElem?_eq_getElem h1,List.filter_append]
  have:(l.take i).filter (fun x=> !p x)=l.take i:=by
   rw [List.filter_eq_self];intro x hx
   obtain ⟨j,hj,rfl⟩:=List.mem_iff_getElem.1 hx
   rw [List.length_take] at hj
   have:=h3 j (by omega)
   simpa using this
  rw [this];simp [h2]
theorem U7 {β:Type} {p:β→Bool} {l:List β} (h:idx p l= -1):l.filter (fun x=> !p x)=l:=by
 unfold idx at h
 cases hf:l.findIdx? p with
 |none=>rw [List.findIdx?_eq_none_iff] at hf;rw [List.filter_eq_self];intro x hx;simpa using hf x hx
 |some i=>rw [hf] at h;exact absurd h (by simp)
theorem Xn {α:Type} {l:List α} (h:l≠[]):0<l.length:=List.length_pos_iff.2 h
theorem Sh {cap n m:Nat} (h1:n≤cap) (h2:m≤n):(n-m)*8+(cap-n)*8=(cap-m)*8:=by omega
abbrev Rn:BF:=⟨0,[],0,0,0,0,[],0⟩
theorem U8   :BT prog 133 [CI []] (CI []):=by
 refine fo func133 rfl ⟨rfl,rfl⟩ fun M0 w0=> ?_
 refine a2 ?_
 refine co rfl (IJ rfl underlying63 (vl rfl)) ?_
 refine ac ?_
 refine Tr.ex 4 rfl (fun z1=>Tr.fact 4 rfl fun KD=> ?_)
 refine Tr.cn rfl ?_ ?_<;>intro h1 q1
 refine a2 ?_
 · exact AZ 8
 refine ac ?_
 refine ap ?_
 refine TO.pad ?_
 refine TO.MK 0 rfl rfl (by decide) (Oh rfl rfl rfl rfl underlying63 AH G0 FN (Kf rfl) (vl rfl) (B4 (by exact List.Mem.head _) (vl rfl))) (fun v1=> ?_)
 refine ap ?_
 refine ac ?_
 · exact BL _ _
theorem Si {p:BF→Bool}  :BT prog 132 [CI [],Gh prog (fun x:BF=>[agg (AL x)]) (fun x=>bool (p x))] (CI []):=by
 refine fo func132 rfl ⟨rfl,rfl⟩ fun M0 w0=> ?_
 · repeat' first|exact Lr|(exfalso;simp [idx] at h)|refine co rfl (EE (Ga (l:=[]) (p:=p)) rfl rfl rfl) ?_|refine ac ?_|(refine Tr.cn rfl ?_ ?_<;>intro h q)
theorem U9 {l:List BF} (h0:l≠[]) (hl:l.length≤100000):BQ prog 133 [CI l] (lens (l.map AL).length) (Bz) (fun v=>DZ 110 8 (l.map AL) v):=by
 refine BQ.of func133 rfl rfl (by exact Nb rfl) fun M0 w0 S rs M1 w1=> ?_
 have hpos:=Xn h0
 refine a2 ?_
 refine co rfl (IJ rfl underlying63 (vl rfl)) ?_
 refine ac ?_
 refine Tr.ex 4 rfl (fun z1=>Tr.fact 4 rfl fun KD=> ?_)
 refine Tr.cn rfl ?_ ?_<;>intro h1 q1
 exfalso;have:=KD h1;simp_all
 refine ac ?_
 refine ap ?_
 refine TO.pad ?_
 refine TO.MK 0 rfl rfl (by decide) (K1 rfl rfl (by decide) rfl underlying63 AH G0 FN rfl (by decide) (by decide) (vl rfl) (vl rfl) (by rw [List.length_map];exact hpos) (by rw [List.length_map];unfold maxLen;omega) (by rw [List.length_map];omega)) (fun v1=> ?_)
 refine ap ?_
 refine Tr.ret (Fin.drop 1 ?_)
 refine Fin.Ca rfl rfl ?_ (by intro _ _ _ h;rw [h.1])
 · exact BL _ _
theorem Sj {l:List BF} {p:BF→Bool} {b cap:Nat} {sp:List Value} (hc:(l.map AL).length≤cap) (hm:cap≤maxLen) (hq:sp.length=(cap-(l.map AL).length)*8):BQ prog 132 [is (.slice (some ⟨b,0,none⟩) (l.map AL).length cap),Gh prog (fun x:BF=>[agg (AL x)]) (fun x=>bool (p x))] (is (.slice (some ⟨b,0,none⟩) ((l.filter fun x=> !p x).map AL).length cap)) (AD true b 110 ((l.map AL).flatten++sp.map is)) (fun _=>AD true b 110 (((l.filter fun x=> !p x).map AL).flatten++(((List.replicate (l.length-(l.filter fun x=> !p x).length) Rn).map AL).flatten++sp.map is))):=by
 refine BQ.of func132 rfl rfl (by exact Nb rfl) fun M0 w0 S rs M1 w1=> ?_
 have YT:(l.map AL).length=l.length:=List.length_map ..
 have l9:cap≤9223372036854775807:=by unfold maxLen at hm;omega
 refine ac ?_
 refine ao ?_
 refine TO.DB 0 rfl rfl (by decide) (RK (l.map AL) rfl rfl (by decide) rfl (Ga (l:=l) (p:=p)) (A8 fun _=>rfl) hc hm (by rw [List.length_map];exact hq) ⟨.inr ⟨(vl rfl),BL _ _⟩,.inl (ke rfl),trivial⟩) ?_
 refine ao ?_
 refine an ?_ ?_<;>intro h1 q1
 have hno:=U7 (p:=p) (l:=l) (by simpa using h1)
 refine ac ?_
 refine Tr.ret (Fin.AF ?_)
 refine Fin.Ca rfl rfl ?_ (fun _ _ _ _=>by rw [hno,Nat.sub_self];rfl)
 · rw [hno];exact Lr
 obtain ⟨nR,Dn,QX⟩:=U6 (p:=p) (l:=l) (by simpa using h1)
 refine a2 ?_
 refine Tr.block (Tr.Dy [(0,_),(1,_)] ⟨ke rfl,ke rfl,trivial⟩ (fun (st:List BF) (i:Nat) (j:Nat)=>[(5,int ((i:Nat):Int)),(6,int ((j:Nat):Int))]) (fun (st:List BF) (i:Nat) (j:Nat)=>Hp M0 w0 S (AD true b 110 ((st.map AL).flatten++sp.map is)::Ai M1 w1::rs)) (fun (st:List BF) (i:Nat) (j:Nat)=>NZ p l st i j) (fun (st:List BF) (i:Nat) (j:Nat)=>l.length-j) (l) ((idx p l).toNat) ((idx p l).toNat+1)  (QX) ⟨⟨_,rfl,int_eq (by omega)⟩,⟨_,rfl,int_eq (by omega)⟩,trivial⟩ (fun _ _ h=>h) ?_)
 rintro st i j  QX
 obtain ⟨Gp,hij,hjl,ZD,iJ⟩:=id QX
 refine ac ?_
 refine co rfl (Dz rfl underlying63 (vl rfl)) ?_
 refine an ?_ ?_<;>intro h2 q2
 have Z5:j<l.length:=by have:=Ak h2;omega
 obtain ⟨x,Z6⟩:=at_ (l:=l) (k:=j) Z5
 have hx:st[j]? =some x:=(UA QX).trans Z6
 refine ac ?_
 refine ao ?_
 refine tp rfl (AA rfl underlying63 AH (vl rfl) (vl rfl) (by omega) (by omega)) (TO.rd 0 rfl rfl rfl (by decide) (Ae rfl Aw AH (vl rfl) (SK (f:=AL) (fun _=>rfl) hx) rfl) ?_)
 refine Tl rfl rfl rfl rfl FN Kw (fun b1=> ?_)
 refine sf 0 7 ⟨rfl,rfl,rfl⟩ rfl rfl rfl rfl ?_
 refine ao ?_
 refine EL 0 1 5 6 7 rfl ?_
 refine ac ?_
 refine co rfl (A9 x rfl (vl rfl) ⟨ke rfl,trivial⟩) ?_
 refine an ?_ ?_<;>intro h3 q3
 refine ao ?_
 refine tp rfl (AA rfl underlying63 AH (vl rfl) (vl rfl) (by omega) (by omega)) ?_
 refine TO.CY 0 rfl rfl (AW rfl rfl (vl rfl) (Va rfl) AH rfl (by rw [AV (sz:=8) (fun _=>rfl)];omega) (H6 (f:=AL) (fun _=>rfl) (by omega))) ?_
 refine ao ?_
 refine ac ?_
 refine Dp 0 1 5 6 rfl ?_
 refine ac ?_
 exact Fin.Cj (st.set i x) (i+1) (j+1)  (⟨OX QX Z6 (by simp_all),by omega⟩) ⟨⟨_,rfl,AJ i⟩,⟨_,rfl,AJ j⟩,ke rfl,ke rfl,trivial⟩ (fun _ _ h=>h)
 refine a2 ?_
 exact Fin.Cj (st) (i) (j+1)  (⟨OY QX Z6 (by simp_all),by omega⟩) ⟨ke rfl,⟨_,rfl,AJ j⟩,ke rfl,ke rfl,trivial⟩ (fun _ _ h=>h)
 have fA:j=l.length:=by have:=Ao h2;omega
 subst fA
 obtain ⟨kE,Y1,kG,nS⟩:=RN QX
 refine ac ?_
 refine ao ?_
 refine tp rfl (ER rfl underlying63 AH (vl rfl) (vl rfl) (by omega) (by omega) (by omega)) ?_
 refine TO.CY 0 rfl rfl (K2 rfl rfl underlying63 AH FN rfl (by decide) (by decide) (vl rfl) (by omega) (by rw [AV (sz:=8) (fun _=>rfl)];omega) (NY (f:=AL) (fun _=>rfl) (z:=Rn) (by omega) (by omega))) ?_
 refine ao ?_
 refine ac ?_
 refine co rfl (G3 rfl underlying63 AH (vl rfl) (vl rfl) (by omega) (by omega) (by omega) (by omega)) ?_
 refine ac ?_
 refine CM 4 rfl (Tr.ret (Fin.Ca rfl rfl ?_ (fun _ _ _ _=>by rw [←Y1,←kE,←kG,List.map_append,List.flatten_append,List.append_assoc])))
 · refine Pr.le_of_eq ?_;rw [List.length_map,←Y1,Int.toNat_natCast]
theorem QY {o:List BF}  :BT prog 86 [CI [],CI o] (CI []):=by
 refine fo func86 rfl ⟨rfl,rfl⟩ fun M0 w0=> ?_
 refine a2 ?_
 refine co rfl (Cr (U8) rfl rfl) (co rfl (FR rfl rfl) ?_)
 refine co rfl (Ah rfl (Si (p:=fun x=>o.any (EG x))) ⟨ke rfl,⟨_,rfl,Bi e9 (fun x=>e8 (x:=x) (o:=o))⟩,trivial⟩) ?_
 refine a2 ?_
 · exact Lr
theorem QZ {l o:List BF} (h0:l≠[]) (hl:l.length≤100000):BT prog 86 [CI l,CI o] (CI (without o l)):=by
 refine fo func86 rfl ⟨rfl,rfl⟩ fun M0 w0=> ?_
 refine ac ?_
 refine ap ?_
 refine TO.pad ?_
 refine TO.MK 0 rfl rfl (by decide) (HH rfl rfl (by decide) rfl (U9 (by assumption) (by omega)) ⟨ke rfl,trivial⟩) (fun v1=> ?_)
 refine TO.He 0 rfl fun b1 N0 U_ TW L5 hm1 hs1=> ?_
 subst TW
 refine tp rfl (FR rfl rfl) ?_
 refine TO.DB 0 rfl rfl (by decide) (AU rfl rfl (by decide) rfl (Sj (l:=l) (p:=fun x=>o.any (EG x)) (sp:=U_) L5 hm1 hs1) ⟨(Ka rfl),⟨_,rfl,Bi e9 (fun x=>e8 (x:=x) (o:=o))⟩,trivial⟩) ?_
 refine ap ?_
 refine Tr.ret ?_
 refine Fin.K3 (sz:=8) ((without o l).map AL) 0 4 rfl rfl (Lr) (A8 fun _=>rfl) (by rw [List.length_map] at L5 ⊢;exact Nat.le_trans (List.length_filter_le _ _) L5) hm1 (by simp only [List.length_append,List.length_map,hs1];rw [Bt (sz:=8) (A8 fun _=>rfl)];simp only [List.length_map,List.length_replicate];exact Sh (by rw [List.length_map] at L5;exact L5) (List.length_filter_le _ _)) ?_
 refine Fin.DI rfl (Ba.Cz _ _) rfl ?_
 · exact BL _ _
theorem Mt {l o:List BF} (hl:l.length≤100000):BT Tryz.prog 86 [CI l,CI o] (CI (without o l)):=by
 by_cases h:l=[]
 · subst h;exact QY
 · exact QZ h hl
theorem Sk {a b:List BF} (ha:a.length≤100000) (hb:b.length≤100000):BT prog 38 [CI a,CI b] (DT [CI (without a b),CI (without b a)]):=by
 refine fo func38 rfl ⟨rfl,rfl⟩ fun M0 w0=> ?_
 refine a2 ?_
 refine co rfl (EE (Mt (by assumption)) rfl rfl rfl) ?_
 refine ac ?_
 refine co rfl (EE (Mt (by assumption)) rfl rfl rfl) ?_
 refine ac ?_
 refine Tr.ret (Fin.Cq rfl (Ba.Cz _ _) rfl ?_ rfl ?_)
 · exact Lr
 · exact Lr
theorem Qa {a b:List BF} (ha:a.length≤100000) (hb:b.length≤100000):BT prog 39 [CI a,CI b] (DT [CI (without a b),CI (without b a)]):=by
 refine fo func39 rfl ⟨rfl,rfl⟩ fun M0 w0=> ?_
 refine a2 ?_
 refine co rfl (EE (LV (by assumption)) rfl rfl rfl) ?_
 refine ac ?_
 refine co rfl (EE (LV (by assumption)) rfl rfl rfl) ?_
 refine ac ?_
 refine Tr.ret (Fin.Cq rfl (Ba.Cz _ _) rfl ?_ rfl ?_)
 · exact Lr
 · exact Lr
abbrev aF:Ac:=⟨1,[97],1,3,9,1,[115],1,0,0,[]⟩
abbrev aG:Ac:=⟨1,[97],1,5,9,8,[115],1,0,0,[]⟩
abbrev aX:BF:=⟨0,[115],1,1,0,0,[],0⟩
theorem Ro:∀f∈[aF,aG],BV f=true:=by decide+kernel
theorem VA:∀f∈[aF,aG],f.fits:=by
 intro f hf
 simp at hf
 rcases hf with rfl|rfl<;>exact ⟨by simp [maxLen],by simp [maxLen],by simp [maxLen]⟩
theorem VB:[aF,aG].foldl C8 []=[aF,aG]:=by kernel_rfl
theorem Rp:BO [aF,aG]:=by have:=Rc Ro (by simp);rwa [VB] at this
theorem Xo:BT Tryz.prog 45 [Bu [aF,aG]] (DT [Bu [aF,aG],int 0]):=by
 have:=SY (l:=[aF,aG]) Ro (by simp);rwa [VB] at this
theorem Yu:KT [0,1]:=by
 intro j x y hx hy
 match j with
 |0=>simp at hx hy;omega
 |k+1=>simp at hy
theorem fB:EX [0,1] [aF,aG].length:=by intro i hi;simp at hi;rcases hi with rfl|rfl<;>simp
theorem Z7:(Co [aF,aG] [0,1] 4 100).filterMap (fun p=>Cg [aF,aG] 0 p.2)=[aX]:=by decide+kernel
theorem Z8:(Co [aF,aG] [0,1] 5 100).filterMap (fun p=>Cg [aF,aG] 0 p.2)=[]:=by decide+kernel
theorem VC:BT Tryz.prog 32 [Bu [aF,aG],Dm 0 [0,1],int 4,int 100] (DT [CI [aX],int 0]):=by
 have:=O2 (l:=[aF,aG]) (n:=0) (t:=4) (o:=100) (own:=[0,1]) Rp VA (by omega) (by omega) Yu fB (by simp) (by decide+kernel);rwa [Z7] at this
theorem VD:BT Tryz.prog 32 [Bu [aF,aG],Dm 0 [0,1],int 5,int 100] (DT [CI [],int 0]):=by
 have:=O2 (l:=[aF,aG]) (n:=0) (t:=5) (o:=100) (own:=[0,1]) Rp VA (by omega) (by omega) Yu fB (by simp) (by decide+kernel);rwa [Z8] at this
theorem Xp:BT Tryz.prog 43 [CI [aX],str [115]] (LR [(1,0)]):=U4 (l:=[aX]) (s:=[115]) (by simp)
theorem Rq   :BT prog 27 [] (bool true):=by
 refine BT.of func27 rfl rfl (by exact Nb rfl) fun M0 w0=> ?_
 refine Tr.seq (Tr.Ax (cm rfl (Ch.nil (Fin.go (Tr.seq (Tr.CA (tp rfl (BS (rows:=[(0,[_])]) rfl cL ZI ⟨⟨rfl,(Vo rfl)⟩,trivial⟩ rfl) (tp rfl (BS (rows:=[(0,[_]),(1,[_]),(2,[_]),(3,[_]),(4,[_]),(5,[_]),(6,[_]),(7,_)]) rfl cM JG ⟨⟨rfl,(Vo rfl)⟩,⟨⟨rfl,(Vo rfl)⟩,⟨⟨rfl,(Vo rfl)⟩,⟨⟨rfl,(Vo rfl)⟩,⟨⟨rfl,(Vo rfl)⟩,⟨⟨rfl,(Vo rfl)⟩,⟨⟨rfl,(Vo rfl)⟩,⟨⟨rfl,(Va rfl)⟩,trivial⟩⟩⟩⟩⟩⟩⟩⟩ rfl) ?_))))))))
 refine Tl rfl rfl rfl rfl EO JG (fun b1=> ?_)
 refine TO.DK 0 rfl rfl rfl (vl rfl) (Va rfl) rfl AY rfl rfl (TO.freeze 0 1 rfl rfl (TO.nil (Fin.go (Tr.seq (Tr.CA (tp rfl (Ad rfl BE AY (vl rfl) rfl rfl) ?_))))))
 refine Tl rfl rfl rfl rfl EO JG (fun b2=> ?_)
 refine TO.DK 0 rfl rfl rfl (vl rfl) (Va rfl) rfl AY rfl rfl (TO.nil (Fin.go (Tr.seq (Tr.CA (tp rfl (Bb rfl Hu (vl rfl)) (TO.CY 0 rfl rfl (AW rfl rfl (vl rfl) (Vo rfl) A4 rfl (by exact Nb rfl) rfl) (tp rfl (Bb rfl NU (vl rfl)) (TO.CY 0 rfl rfl (AW rfl rfl (vl rfl) (Vo rfl) A4 rfl (by exact Nb rfl) rfl) (TO.nil (Fin.go (Tr.seq (Tr.Ax (co rfl (Ad rfl BE AY (vl rfl) rfl rfl) ?_)))))))))))))
 refine co rfl (As 0 rfl (Ae rfl BE AY (vl rfl) rfl rfl)) (co rfl (AM (xs:=[.tmp 16,.tmp 17]) (rows:=[_,_]) rfl rfl underlying31 AY EO rfl (by decide) ⟨⟨(by exact rfl),(Va rfl)⟩,⟨⟨(by exact rfl),(Va rfl)⟩,trivial⟩⟩ (by decide)) ?_)
 refine co rfl (Ah rfl (Xo) ⟨(Kf rfl),trivial⟩) (cm rfl (co rfl (At rfl (vl rfl) rfl) (co rfl (At rfl (vl rfl) rfl) (cm rfl (cm rfl (Ch.nil (Fin.go (Tr.drop 0 (CM 3 rfl (Tr.seq (Tr.CA (tp rfl (AM (xs:=[.const (.int .i64 (0)),.const (.int .i64 (1))]) (rows:=[[_],[_]]) rfl rfl underlying22 A4 z3 rfl (by decide) ⟨⟨(by exact rfl),(Vo rfl)⟩,⟨⟨(by exact rfl),(Vo rfl)⟩,trivial⟩⟩ (by decide)) ?_))))))))))))
 refine tp rfl (BS (rows:=[(3,[_])]) rfl cO QA ⟨⟨rfl,⟨_,rfl,Pr.le_trans (Bh _ _) (AO _)⟩⟩,trivial⟩ rfl) ?_
 refine Tl rfl rfl rfl rfl ZP QA (fun b3=> ?_)
 refine TO.DK 0 rfl rfl rfl (vl rfl) (Va rfl) rfl GR rfl rfl (TO.freeze 0 5 rfl rfl (TO.nil (Fin.go (Tr.seq (Tr.Ax (cm rfl (co rfl (Ad rfl Gj GR (vl rfl) rfl rfl) (co rfl (Ah rfl (VC) ⟨ke rfl,⟨_,rfl,JD ⟨Lr,Cs _,Cs _,Lr,trivial⟩⟩,ke rfl,ke rfl,trivial⟩) (cm rfl (co rfl (At rfl (vl rfl) rfl) (co rfl (At rfl (vl rfl) rfl) (cm rfl (cm rfl ?_)))))))))))))
 refine Ch.nil (Fin.go (Dp 3 5 6 7 rfl (Tr.seq (Tr.Ax (cm rfl (co rfl (Ad rfl Gj GR (vl rfl) rfl rfl) (co rfl (Ah rfl (VD) ⟨ke rfl,⟨_,rfl,JD ⟨Lr,Cs _,Cs _,Lr,trivial⟩⟩,ke rfl,ke rfl,trivial⟩) (cm rfl (co rfl (At rfl (vl rfl) rfl) (co rfl (At rfl (vl rfl) rfl) (cm rfl (cm rfl (Ch.nil (Fin.go ?_))))))))))))))
 refine Tr.seq (Tr.Ax (cm rfl (co rfl (ki rfl rfl rfl rfl) (cm rfl ?_))))
 refine Ch.cs 38 rfl ?_ ?_<;>intro h1 q1
 refine DL h1 rfl (cy h1 rfl (ki rfl rfl rfl rfl) (co rfl (GQ rfl rfl h1 rfl) (cm rfl ?_)))
 refine Ch.cs 42 rfl ?_ ?_<;>intro h2 q2
 refine DL h2 rfl (cy h2 rfl (CV rfl underlying63 (vl rfl)) (cy h2 rfl (ki rfl rfl rfl rfl) (co rfl (GQ rfl rfl h2 rfl) (cm rfl ?_))))
 refine Ch.cs 47 rfl ?_ ?_<;>intro h3 q3
 refine DL h3 rfl (cy h3 rfl (CV rfl underlying63 (vl rfl)) (cy h3 rfl (ki rfl rfl rfl rfl) (co rfl (GQ rfl rfl h3 rfl) (cm rfl ?_))))
 refine Ch.cs 52 rfl ?_ ?_<;>intro h4 q4
 refine DL h4 rfl (cy h4 rfl (Ah rfl (Xp) ⟨ke rfl,ke rfl,trivial⟩) (cy h4 rfl (CV rfl underlying76 (vl rfl)) (cy h4 rfl (ki rfl rfl rfl rfl) (co rfl (GQ rfl rfl h4 rfl) (cm rfl (Ch.nil (Fin.go (CM 0 rfl (Tr.ret (Fin.DI rfl (Ba.Cz _ _) rfl ?_))))))))))
 · exact Lr
 exfalso;simp at h4
 exfalso;simp at h3
 exfalso;simp at h2
 exfalso;simp at h1
theorem Aj {φ:Prop} {p q:Pr} (h:φ) (hl:Pr.le p q):Pr.le p (fact φ q):=fun _ _ _ hp=>⟨h,hl _ _ _ hp⟩
theorem Xq {l:List UInt8} {x:Nat} {hl:x<l.length} (h:(l.drop 1).all (fun b=>decide (1≤b.toNat))=true) (h0:1≤x):¬IntKind.i64.wrap (IntKind.i64.wrap ((l[x]).toNat:Int))=0:=by
 have h1:(l.drop 1)[x-1]? =some l[x]:=by rw [List.getElem?_drop,show 1+(x-1)=x by omega,List.getElem?_eq_getElem hl]
 have:=List.all_eq_true.1 h _ (List.mem_of_getElem? h1)
 have hb:(l[x]).toNat<256:=UInt8.toNat_lt _
 have hw:=IntWalk.i64_in ((l[x]).toNat:Int) ⟨by omega,by omega⟩
 rw [hw,hw]
 simp at this;omega
theorem VE {l:List Int} (h:KT l):∀(d i:Nat) {x y:Int},l[i]? =some x→l[i+(d+1)]? =some y→x<y
 |0,i,x,y,hx,hy=>h i x y hx hy
 |d+1,i,x,y,hx,hy=>by
  have hlt:i+(d+1)<l.length:=by
   rcases Nat.lt_or_ge (i+(d+1)) l.length with h'|h'
   · exact h'
   · rw [List.getElem?_eq_none (by omega)] at hy;cases hy
  have h1:=VE h d i hx (List.getElem?_eq_getElem hlt)
  have h2:=h (i+(d+1)) _ y (List.getElem?_eq_getElem hlt) (by rw [show i+(d+1)+1=i+(d+1+1) by omega];exact hy)
  omega
theorem Xr {l:List Int} (h:KT l) {i j:Int} {x y:Int} (h0:0≤i) (hij:i<j) (hx:l[i.toNat]? =some x) (hy:l[j.toNat]? =some y):x<y:=
 VE h (j.toNat-i.toNat-1) i.toNat hx (by rw [show i.toNat+(j.toNat-i.toNat-1+1)=j.toNat by omega];exact hy)
theorem VF {x:Int} (h0:1≤x) (h1:x<256):BT prog 159 [is (.int .u64 x)] (ex fun k:Int=>fact (¬k=0) (int k)):=by
 refine fo func159 rfl ⟨rfl,rfl⟩ fun M0 w0=> ?_
 have hw:IntKind.u8.wrap x=x:=IntWalk.u8_in x ⟨by omega,by omega⟩
 refine ac ?_
 refine an ?_ ?_<;>intro h1 q1
 exfalso;omega
 refine ac ?_
 refine an ?_ ?_<;>intro h2 q2
 exfalso;omega
 refine ac ?_
 refine an ?_ ?_<;>intro h3 q3
 exfalso;omega
 refine a2 ?_
 refine co rfl (Ci rfl underlying174 underlying5 (vl rfl)) ?_
 refine co rfl (IQ rfl underlying9 (vl rfl) (vl rfl) (by omega) (List.getElem?_eq_getElem (by show _<256;omega))) ?_
 refine co rfl (Ci rfl underlying5 underlying3 (vl rfl)) ?_
 refine ac ?_
 refine CM 2 rfl ?_
 refine ac ?_
 · refine BD _ (Aj ?_ (Lr));rw [Int.zero_add];refine Xq ?_ (by rw [hw];omega);decide+kernel
theorem Xs {x:Int} (h0:1≤x) (h1:x<256):BT prog 100 [is (.int .u64 x)] (ex fun k:Int=>fact (¬k=0) (int k)):=by
 refine fo func100 rfl ⟨rfl,rfl⟩ fun M0 w0=> ?_
 refine a3 ?_
 refine co rfl (Cr (VF (by omega) (by omega)) rfl rfl) ?_
 refine a2 ?_
 · exact Lr
theorem G_ {l:List Int} {a b:Int} (hl:KT l) (h0:0≤a) (hab:a<b) (hb:b<l.length):BT prog 222 [ints l,int a,int b,any] (DT [int a,int b]):=by
 refine fo func222 rfl ⟨rfl,rfl⟩ fun M0 w0=> ?_
 obtain ⟨x,hx⟩:=at_ (l:=l) (k:=a.toNat) (by omega)
 obtain ⟨y,hy⟩:=at_ (l:=l) (k:=b.toNat) (by omega)
 have hxy:=Xr hl h0 hab hx hy
 refine a2 ?_
 refine co rfl (AB rfl underlying22 A4 (vl rfl) (vl rfl) (by omega) (Nq hy)) ?_
 refine ac ?_
 refine co rfl (AB rfl underlying22 A4 (vl rfl) (vl rfl) (by omega) (Nq hx)) (co rfl (L4 rfl Au rfl) (co rfl (EE (Nr) rfl rfl rfl) ?_))
 refine an ?_ ?_<;>intro h1 q1
 exfalso;omega
 refine a2 ?_
 refine EK 8 9 rfl (Tr.ret (Fin.Cq rfl (Ba.Cz _ _) rfl ?_ rfl ?_))
 · exact Lr
 · exact Lr
theorem VG {l:List Int} {a b c:Int} (hl:KT l) (h0:0≤a) (hab:a<b) (hbc:b<c) (hc:c<l.length):BT prog 220 [ints l,int a,int b,int c,any] (int b):=by
 refine fo func220 rfl ⟨rfl,rfl⟩ fun M0 w0=> ?_
 refine a2 ?_
 refine co rfl (Ah rfl (G_ (by assumption) (by omega) (by omega) (by omega)) ⟨ke rfl,ke rfl,ke rfl,⟨_,rfl,Cs _⟩,trivial⟩) ?_
 refine a2 ?_
 refine co rfl (Ah rfl (G_ (by assumption) (by omega) (by omega) (by omega)) ⟨ke rfl,ke rfl,ke rfl,⟨_,rfl,Cs _⟩,trivial⟩) ?_
 refine ac ?_
 refine Dp 0 1 2 4 rfl ?_
 refine ac ?_
 refine co rfl (Ah rfl (G_ (by assumption) (by omega) (by omega) (by omega)) ⟨ke rfl,ke rfl,ke rfl,⟨_,rfl,Cs _⟩,trivial⟩) ?_
 refine ac ?_
 refine CM 2 rfl ?_
 refine a2 ?_
 · exact Lr
theorem VH {l:List Int} {a b:Int} (hl:KT l) (h0:0≤a) (h8:8≤b-a) (h50:b-a<50) (hb:b≤l.length) (hs:l.length≤1000000):BT prog 204 [ints l,int a,int b] (DT [any,int 1]):=by
 refine fo func204 rfl ⟨rfl,rfl⟩ fun M0 w0=> ?_
 have hq:IntKind.i64.wrap ((b-a).tdiv 4)=(b-a)/4:=by rw [Int.tdiv_eq_ediv_of_nonneg (by omega)];exact IntWalk.i64_in _ ⟨by omega,by omega⟩
 refine a2 ?_
 refine Tr.seq (Tr.CA ?_)
 refine Tl rfl rfl rfl rfl z3 gU (fun b1=> ?_)
 refine ap ?_
 refine ac ?_
 refine co rfl (CX rfl (vl rfl) (vl rfl) (by omega)) ?_
 refine co rfl (DW rfl (vl rfl) (vl rfl) ?hin) ?_;case hin=>unfold C7;omega
 refine ac ?_
 refine EL 0 1 8 9 10 rfl ?_
 refine ac ?_
 refine co rfl (CX rfl (vl rfl) (vl rfl) (by omega)) ?_
 refine co rfl (DW rfl (vl rfl) (vl rfl) ?hin) ?_;case hin=>unfold C7;omega
 refine a2 ?_
 refine co rfl (CX rfl (vl rfl) (vl rfl) (by omega)) ?_
 refine co rfl (DW rfl (vl rfl) (vl rfl) ?hin) ?_;case hin=>unfold C7;omega
 refine ac ?_
 refine EZ 0 8 9 10 11 12 rfl ?_
 refine an ?_ ?_<;>intro h1 q1
 refine an ?_ ?_<;>intro h2 q2
 exfalso;omega
 refine a2 ?_
 refine co rfl (Ah rfl (VG (by assumption) (by omega) (by omega) (by omega) (by omega)) ⟨ke rfl,ke rfl,ke rfl,ke rfl,⟨_,rfl,Cs _⟩,trivial⟩) ?_
 refine ac ?_
 refine EK 9 11 rfl ?_
 refine ac ?_
 refine Tr.drop 0 ?_
 refine an ?_ ?_<;>intro h3 q3
 refine ac ?_
 refine Tr.ret (Fin.AK (Fin.Cq rfl (Ba.Cz _ _) rfl ?_ rfl ?_))
 · exact Cs _
 · exact Lr
 exfalso;simp at h3
 exfalso;omega
theorem Sl {l:List Int} {a b:Int} (hl:KT l) (h0:0≤a) (hab:a<b) (hb:b≤l.length) (hs:l.length≤1000000):BT prog 206 [ints l,int a,int b] (bool true):=by
 refine fo func206 rfl ⟨rfl,rfl⟩ fun M0 w0=> ?_
 refine a3 ?_
 refine Tr.block (Tr.BU [(0,_),(1,_),(2,_)] (OK rfl) (fun (u:Unit)=>[(7,int (a+1)),(8,int 0)]) (fun (u:Unit)=>True) (fun (u:Unit)=>0) () (trivial) ⟨ke rfl,ke rfl,trivial⟩ ?_)
 rintro u _
 refine an ?_ ?_<;>intro h1 q1
 have:=h1
 refine ac ?_
 refine Tr.seq (Tr.block (Tr.seq (Tr.block (Tr.BU [(0,_),(1,_),(2,_),(8,_)] (KH rfl) (fun i:Int=>[(7,int i)]) (fun i:Int=>a<i∧i≤b) (fun i:Int=>(b-i).toNat) (a+1) (⟨by omega,by omega⟩) ⟨ke rfl,trivial⟩ ?_))))
 rintro i ⟨hi1,hi2⟩
 refine ag ?_ ?_<;>intro h2 q2
 obtain ⟨x,hx⟩:=at_ (l:=l) (k:=i.toNat) (by omega)
 obtain ⟨p,hp⟩:=at_ (l:=l) (k:=(i-1).toNat) (by omega)
 have hpx:=Uu hl (by omega) hp hx
 refine ac ?_
 refine cy h2 rfl (AB rfl underlying22 A4 (vl rfl) (vl rfl) (by omega) (Nq hx)) ?_
 refine ac ?_
 refine cy h2 rfl (AB rfl underlying22 A4 (vl rfl) (vl rfl) (by omega) (Oy (by omega) hp)) (cy h2 rfl (L4 rfl Au rfl) (cy h2 rfl (EE (Nr) rfl rfl rfl) ?_))
 refine ac ?_
 refine EZ 0 1 2 7 8 32 rfl ?_
 refine Tr.cn rfl ?_ ?_<;>intro h3 q3
 have:=h3
 refine a2 ?_
 exact Fin.AE (i+1) ⟨⟨by omega,by omega⟩,by omega⟩ (TR rfl)
 have:=h3
 have hib:i=b:=by omega
 · repeat' first|exact Lr|(exfalso;omega)|refine ac ?_|(refine Tr.cn rfl ?_ ?_<;>intro h q)
 · repeat' first|exact Lr|(exfalso;omega)|refine ac ?_|(refine Tr.cn rfl ?_ ?_<;>intro h q)
 have:=h1
 exfalso;omega
theorem Qb {l:List Int} {a b:Int} (hl:KT l) (h0:0≤a) (hb:b≤l.length) (hab:13≤b-a) (hs:b-a<50) (ew:l.length≤1000000):BT prog 173 [ints l,int a,int b,ex fun k:Int=>fact (¬k=0) (int k)] (CC):=by
 refine BT.of func173 rfl rfl (by exact Nb rfl) fun M0 w0=> ?_
 refine Tr.ex 3 rfl (fun JM=>Tr.fact 3 rfl fun nT=> ?_)
 refine Tr.seq (Tr.Ax (cm rfl (Ch.nil (Fin.go (Tr.seq (Tr.Ax (cm rfl (Ch.nil (Fin.go (Tr.block (Tr.BU [(0,_)] ⟨ke rfl,trivial⟩ (fun (u:Unit)=>[(1,int a),(2,int b),(3,int JM),(8,bool true),(9,bool true)]) (fun (u:Unit)=>True) (fun (u:Unit)=>0) () (trivial) ⟨ke rfl,ke rfl,ke rfl,ke rfl,ke rfl,trivial⟩ ?_)))))))))))
 rintro u _
 refine Tr.block (Tr.seq (Tr.Ax (cm rfl (cm rfl (gP rfl rfl rfl rfl (by omega) (cm rfl (Ch.nil (Fin.go (Tr.seq (Tr.seq (Tr.Ax (cm rfl (co rfl (ki rfl rfl rfl rfl) ?_)))))))))))))
 refine Ch.nil (Fin.go ?_)
 refine Tr.cn rfl ?_ ?_<;>intro h1 q1
 exfalso;omega
 refine Tr.skip (Fin.go (Tr.seq (Tr.seq (Tr.Ax (cm rfl (co rfl (ki rfl rfl rfl rfl) (Ch.nil (Fin.go (HU 0 1 2 3 8 9 10 29 rfl ?_)))))))))
 refine Tr.cn rfl ?_ ?_<;>intro h2 q2
 exfalso;omega
 refine Tr.skip (Fin.go (Tr.seq (Tr.seq (Tr.Ax (cm rfl (co rfl (Dt rfl (vl rfl)) (Ch.nil (Fin.go ?_))))))))
 refine Tr.cn rfl ?_ ?_<;>intro h3 q3
 exfalso;simp at h3
 refine Tr.skip (Fin.go (Tr.seq (Tr.Ax (cm rfl (cm rfl (cm rfl (co rfl (Ah rfl (VH (by assumption) (by omega) (by omega) (by omega) (by omega) (by omega)) ⟨ke rfl,ke rfl,ke rfl,trivial⟩) (cm rfl (co rfl (At rfl (vl rfl) rfl) (co rfl (At rfl (vl rfl) rfl) (cm rfl (cm rfl (Ch.nil (Fin.go ?_))))))))))))))
 refine N_ 0 1 2 3 8 9 10 11 12 rfl (Tr.seq (Tr.seq (Tr.Ax (cm rfl (co rfl (ki rfl rfl rfl rfl) (Ch.nil (Fin.go ?_)))))))
 refine Tr.cn rfl ?_ ?_<;>intro h4 q4
 exfalso;simp at h4
 refine Tr.skip (Fin.go (Tr.seq (Tr.seq (Tr.Ax (cm rfl (cm rfl ?_))))))
 refine Ch.cs 62 rfl ?_ ?_<;>intro h5 q5
 refine DL h5 rfl (co rfl (GQ rfl rfl h5 rfl) (cm rfl ?_))
 refine Ch.cs 65 rfl ?_ ?_<;>intro h6 q6
 refine DL h6 rfl (cy h6 rfl (ki rfl rfl rfl rfl) (co rfl (GQ rfl rfl h6 rfl) (Ch.nil (Fin.go (N_ 0 1 2 3 8 9 10 11 68 rfl ?_)))))
 refine Tr.cn rfl ?_ ?_<;>intro h7 q7
 refine Tr.seq (Tr.Ax (cm rfl (cm rfl (cm rfl (co rfl (Ah rfl (Sl (by assumption) (by omega) (by omega) (by omega) (by omega)) ⟨ke rfl,ke rfl,ke rfl,trivial⟩) (Ch.nil (Fin.go ?_)))))))
 refine Tr.cn rfl ?_ ?_<;>intro h8 q8
 refine Tr.ret (Fin.AF (Fin.AK (Fin.AF (Fin.AK (Fin.RJ rfl)))))
 exfalso;simp at h8
 exfalso;simp at h7
 exfalso;simp at h6
 exfalso;simp at h5
theorem O7 {l:List Int} (hl:KT l) (hs:13≤l.length) (ew:l.length<50):BT prog 128 [ints l] (CC):=by
 refine fo func128 rfl ⟨rfl,rfl⟩ fun M0 w0=> ?_
 have hw:IntKind.u64.wrap ((l.length:Nat):Int)=l.length:=IntWalk.u64_in _ ⟨by omega,by omega⟩
 refine a2 ?_
 refine co rfl (Ci rfl underlying3 underlying137 (vl rfl)) (co rfl (Cr (Xs (by omega) (by omega)) rfl rfl) ?_)
 refine co rfl (jh (Qb (l:=l) (a:=0) (b:=(l.length:Int)) hl (by omega) (by omega) (by omega) (by omega) (by omega)) rfl rfl rfl rfl rfl) ?_
 refine Ch.nil (Fin.QD rfl)
theorem Sm {l:List Int} (hl:KT l) (hs:l.length<50):BT Tryz.prog 128 [ints l] CC:=by
 by_cases h:l.length≤12
 · exact Mn hl h
 · exact O7 hl (by omega) hs
theorem O8 {l:List Ac} {n:Int} {own:List Int} (ha:KT own) (hs:own.length<50):BT prog 72 [Bu l,Dm n own] (DT [ints own,bool (decide (EX own l.length))]):=by
 refine fo func72 rfl ⟨rfl,rfl⟩ fun M0 w0=>(Tr.D9 0 rfl fun Dg=> ?_)
 refine a2 ?_
 refine co rfl (Cr (Oz (by omega)) rfl rfl) ?_
 refine a2 ?_
 refine co rfl (Cr (Sm (by assumption) (by omega)) rfl rfl) ?_
 refine a2 ?_
 refine co rfl (Cr (LO (by assumption) (by omega)) rfl rfl) ?_
 refine ac ?_
 refine ag ?_ ?_<;>intro h1 q1
 refine ac ?_
 refine EK 4 5 rfl (Tr.ret (Fin.Cq rfl (Ba.Cz _ _) rfl ?_ rfl ?_))
 · exact Lr
 · refine bool_eq ?_;symm;rw [decide_eq_true_eq];intro i hi;have hn:own=[]:=List.eq_nil_of_length_eq_zero (by omega);rw [hn] at hi;cases hi
 have hpos:0<own.length:=by omega
 obtain ⟨a,h0⟩:=at_ (l:=own) (k:=0) hpos
 obtain ⟨z,hz⟩:=at_ (l:=own) (k:=own.length-1) (by omega)
 have hiff:=Ns ha (m:=l.length) h0 hz
 refine DL h1 rfl ?_
 refine cy h1 rfl (AB rfl underlying22 A4 (vl rfl) (vl rfl) (by omega) (Am (k:=0) h0)) ?_
 refine ag ?_ ?_<;>intro h2 q2
 refine ac ?_
 refine cy h2 rfl (AB rfl underlying22 A4 (vl rfl) (vl rfl) (by omega) (O0 hpos hz)) ?_
 refine ac ?_
 refine EK 4 5 rfl (Tr.ret (Fin.Cq rfl (Ba.Cz _ _) rfl ?_ rfl ?_))
 · exact Lr
 · refine bool_eq ?_;rw [decide_eq_decide,hiff];omega
 refine ac ?_
 refine EK 4 5 rfl (Tr.ret (Fin.Cq rfl (Ba.Cz _ _) rfl ?_ rfl ?_))
 · exact Lr
 · refine bool_eq ?_;symm;rw [decide_eq_false_iff_not,hiff];omega
abbrev FJ (n:Nat):={i:Int//0≤i∧i<(n:Int)}
abbrev DR {n:Nat} (i:FJ n):List Pr:=[int i.1]
abbrev idxs {n:Nat} (l:List (FJ n)):Pr:=slice 1 (l.map DR)
abbrev vals {n:Nat} (l:List (FJ n)):List Int:=l.map (·.1)
theorem Sn {n:Nat} (l:List (FJ n)):(vals l).map (fun n=>[int n])=l.map DR:=by unfold vals;rw [List.map_map];rfl
theorem Ir {n:Nat} {l:List (FJ n)} {p:FJ n→Bool}  :BT prog 131 [idxs l,Gh prog (fun x:FJ n=>[int x.1]) (fun x=>bool (p x))] (int (idx p l)):=by
 refine fo func131 rfl ⟨rfl,rfl⟩ fun M0 w0=>(Tr.D9 0 rfl fun Dg=> ?_)
 refine a2 ?_
 refine Tr.block (Tr.BU [(0,_),(1,_),(7,_)] (OK rfl) (fun k:Nat=>[(8,int ((k:Nat):Int))]) (fun k:Nat=>k≤(l).length∧(∀j y,j<k→l[j]? =some y→p y=false)) (fun k:Nat=>(l).length-k) 0 (⟨Nat.zero_le _,fun j y hj=>absurd hj (by omega)⟩) ⟨ke rfl,trivial⟩ ?_)
 rintro k ⟨Cb,Ap⟩
 refine ac ?_
 refine Tr.seq ?_
 refine Tr.cn rfl ?_ ?_<;>intro h1 q1
 have Az:k<(l).length:=Ak h1
 obtain ⟨x,A7⟩:=at_ Az
 · repeat' first|exact int_eq (HN A7 (by assumption) Ap)|exact Fin.AE (k+1) ⟨⟨Az,Fa A7 (by assumption) Ap⟩,by omega⟩ ⟨⟨_,rfl,AJ k⟩,ke rfl,ke rfl,ke rfl,trivial⟩|refine co rfl (AB rfl underlying22 A4 (vl rfl) (vl rfl) (by omega) (by exact Am (by assumption))) ?_|refine co rfl (L4 rfl Au rfl) (co rfl (A9 x rfl (vl rfl) ⟨ke rfl,trivial⟩) ?_)|refine ac ?_|(refine Tr.cn rfl ?_ ?_<;>intro h q)
 have B2:k=(l).length:=by have:=Ao h1;omega
 subst B2
 refine a3 ?_
 · exact int_eq (Ie Ap)
theorem So {n:Nat} {l:List (FJ n)} {p:FJ n→Bool} {b cap:Nat} {sp:List Value} (h0:l≠[]) (hc:(l.map DR).length≤cap) (hm:cap≤maxLen) (hq:sp.length=(cap-(l.map DR).length)*1):BQ prog 82 [is (.slice (some ⟨b,0,none⟩) (l.map DR).length cap),Gh prog (fun x:FJ n=>[int x.1]) (fun x=>bool (p x))] (is (.slice (some ⟨b,0,none⟩) ((l.filter fun x=> !p x).map DR).length cap)) (AD true b 3 ((l.map DR).flatten++sp.map is)) (fun _=>AD true b 3 (((l.filter fun x=> !p x).map DR).flatten++((List.replicate (l.length-(l.filter fun x=> !p x).length) [int 0]).flatten++sp.map is))):=by
 refine BQ.of func82 rfl rfl (by exact Nb rfl) fun M0 w0 S rs M1 w1=> ?_
 have YT:(l.map DR).length=l.length:=List.length_map ..
 have l9:cap≤9223372036854775807:=by unfold maxLen at hm;omega
 refine ac ?_
 refine ap ?_
 refine TO.DB 0 rfl rfl (by decide) (RK (l.map DR) rfl rfl (by decide) rfl (Ir (l:=l) (p:=p)) (A8 fun _=>rfl) hc hm (by rw [List.length_map];exact hq) ⟨.inr ⟨(vl rfl),BL _ _⟩,.inl (ke rfl),trivial⟩) ?_
 refine ap ?_
 refine an ?_ ?_<;>intro h1 q1
 have hno:=U7 (p:=p) (l:=l) (by simpa using h1)
 refine ac ?_
 refine Tr.ret (Fin.AF ?_)
 refine Fin.Ca rfl rfl ?_ (fun _ _ _ _=>by rw [hno,Nat.sub_self];rfl)
 · rw [hno];exact Lr
 obtain ⟨nR,Dn,QX⟩:=U6 (p:=p) (l:=l) (by simpa using h1)
 refine a2 ?_
 refine Tr.block (Tr.Dy [(0,_),(1,_)] ⟨ke rfl,ke rfl,trivial⟩ (fun (st:List (FJ n)) (i:Nat) (j:Nat)=>[(5,int ((i:Nat):Int)),(6,int ((j:Nat):Int))]) (fun (st:List (FJ n)) (i:Nat) (j:Nat)=>Hp M0 w0 S (AD true b 3 ((st.map DR).flatten++sp.map is)::Ai M1 w1::rs)) (fun (st:List (FJ n)) (i:Nat) (j:Nat)=>NZ p l st i j) (fun (st:List (FJ n)) (i:Nat) (j:Nat)=>l.length-j) (l) ((idx p l).toNat) ((idx p l).toNat+1)  (QX) ⟨⟨_,rfl,int_eq (by omega)⟩,⟨_,rfl,int_eq (by omega)⟩,trivial⟩ (fun _ _ h=>h) ?_)
 rintro st i j  QX
 obtain ⟨Gp,hij,hjl,ZD,iJ⟩:=id QX
 refine ac ?_
 refine co rfl (Dz rfl underlying22 (vl rfl)) ?_
 refine an ?_ ?_<;>intro h2 q2
 have Z5:j<l.length:=by have:=Ak h2;omega
 obtain ⟨x,Z6⟩:=at_ (l:=l) (k:=j) Z5
 have hx:st[j]? =some x:=(UA QX).trans Z6
 refine a2 ?_
 refine co rfl (AA rfl underlying22 A4 (vl rfl) (vl rfl) (by omega) (by omega)) ?_
 refine co rfl (As 0 rfl (AS rfl Au (vl rfl) (E9 (f:=DR) (fun _=>rfl) (by rw [Int.toNat_natCast];exact hx) rfl))) ?_
 refine a2 ?_
 refine co rfl (A9 x rfl (vl rfl) ⟨ke rfl,trivial⟩) ?_
 refine ac ?_
 refine EZ 0 1 5 6 7 29 rfl ?_
 refine Tr.cn rfl ?_ ?_<;>intro h3 q3
 refine ap ?_
 refine tp rfl (AA rfl underlying22 A4 (vl rfl) (vl rfl) (by omega) (by omega)) ?_
 refine TO.CY 0 rfl rfl (AW rfl rfl (vl rfl) (Vo rfl) A4 rfl (by rw [AV (sz:=1) (fun _=>rfl)];omega) (H6 (f:=DR) (x:=x) (fun _=>rfl) (by omega))) ?_
 refine ap ?_
 refine a2 ?_
 exact Fin.Cj (st.set i x) (i+1) (j+1)  (⟨OX QX Z6 (by simp_all),by omega⟩) ⟨⟨_,rfl,AJ i⟩,⟨_,rfl,AJ j⟩,ke rfl,ke rfl,trivial⟩ (fun _ _ h=>h)
 refine a2 ?_
 exact Fin.Cj (st) (i) (j+1)  (⟨OY QX Z6 (by simp_all),by omega⟩) ⟨ke rfl,⟨_,rfl,AJ j⟩,ke rfl,ke rfl,trivial⟩ (fun _ _ h=>h)
 have fA:j=l.length:=by have:=Ao h2;omega
 subst fA
 obtain ⟨kE,Y1,kG,nS⟩:=RN QX
 refine ac ?_
 refine ap ?_
 refine tp rfl (ER rfl underlying22 A4 (vl rfl) (vl rfl) (by omega) (by omega) (by omega)) ?_
 refine TO.CY 0 rfl rfl (K2 rfl rfl underlying22 A4 z3 rfl (by decide) (by decide) (vl rfl) (by omega) (by rw [AV (sz:=1) (fun _=>rfl)];omega) (IY (f:=DR) (fun _=>rfl) rfl (by omega) (by omega))) ?_
 refine ap ?_
 refine ac ?_
 refine co rfl (G3 rfl underlying22 A4 (vl rfl) (vl rfl) (by omega) (by omega) (by omega) (by omega)) ?_
 refine ac ?_
 refine CM 4 rfl (Tr.ret ?_)
 refine Fin.Ca rfl rfl ?_ (fun _ _ _ _=>by rw [←Y1,←kE,←kG,List.append_assoc];rfl)
 · refine Pr.le_of_eq ?_;rw [List.length_map,←Y1,Int.toNat_natCast]
def B3 (a b:Ac):Bool:=decide (a.kind≠b.kind∨((a.kind=3∨a.kind=4∨a.kind=5)∧(¬(a.BI=b.BI∧a.bits=b.bits)∨¬a.num=b.num)))
def Is (l:List Ac) (x:FJ l.length):Ac:=l[x.1.toNat]'(by have:=x.2;omega)
theorem FB (l:List Ac) (x:FJ l.length):l[x.1.toNat]? =some (Is l x):=List.getElem?_eq_getElem _
def D6 (l:List Ac) (i k:FJ l.length):Bool:=decide (Ay (Is l i)=Ay (Is l k))&&(decide ((Is l i).day=(Is l k).day)&&B3 (Is l i) (Is l k))
theorem Xt {a b:Ft}:a=b↔(a.BM=b.BM∧a.text=b.text∧a.kind=b.kind∧a.num=b.num∧a.BI=b.BI∧a.bits=b.bits):=by cases a;cases b;simp
theorem Dk {l:List Ac} {i k:FJ l.length}:D6 l i k=true↔((Ay (Is l i)).BM=(Ay (Is l k)).BM∧(Ay (Is l i)).text=(Ay (Is l k)).text∧(Ay (Is l i)).kind=(Ay (Is l k)).kind∧(Ay (Is l i)).num=(Ay (Is l k)).num∧(Ay (Is l i)).BI=(Ay (Is l k)).BI∧(Ay (Is l i)).bits=(Ay (Is l k)).bits)∧(Is l i).day=(Is l k).day∧B3 (Is l i) (Is l k)=true:=by
 unfold D6;rw [Bool.and_eq_true,Bool.and_eq_true,decide_eq_true_eq,decide_eq_true_eq,Xt]
abbrev fC (c:Int×Int):List Pr:=[int c.1,int c.2]
abbrev HA (l:List (Int×Int)):Pr:=slice 2 (l.map fC)
def It (l:List Ac) (i:FJ l.length) (r:List (FJ l.length)):List (Int×Int):=(r.filter (D6 l i)).map fun k=>(i.1,k.1)
def Hg (l:List Ac) (kept:List (FJ l.length)):Nat→List (Int×Int)
 |0=>[]
 |k+1=>Hg l kept k++(match kept[k]? with|some i=>It l i (kept.drop (k+1))|none=>[])
theorem O9 {l:List Ac} {kept:List (FJ l.length)} {k:Nat} {i:FJ l.length} (h:kept[k]? =some i):Hg l kept (k+1)=Hg l kept k++It l i (kept.drop (k+1)):=by
 show _++(match kept[k]? with|some i=>It l i (kept.drop (k+1))|none=>[])=_
 rw [h]
theorem O_ (l:List Ac) (i:FJ l.length) (r:List (FJ l.length)):(It l i r).length≤r.length:=by
 unfold It;rw [List.length_map];exact List.length_filter_le _ _
theorem Mu (l:List Ac) (kept:List (FJ l.length)):∀k,(Hg l kept k).length≤k*kept.length
 |0=>by simp [Hg]
 |k+1=>by
  have ih:=Mu l kept k
  show (Hg l kept k++(match kept[k]? with|some i=>It l i (kept.drop (k+1))|none=>[])).length≤_
  rw [List.length_append,Nat.add_mul]
  cases kept[k]? with
  |none=>simp;omega
  |some i=>have:=O_ l i (kept.drop (k+1));simp at this ⊢;omega
theorem Sq {l:List Ac} {i y:FJ l.length} {r:List (FJ l.length)} {j:Nat} (h:r[j]? =some y):It l i (r.take (j+1))=It l i (r.take j)++(if D6 l i y then [(i.1,y.1)] else []):=by
 unfold It;rw [Mr _ h,List.map_append];cases D6 l i y<;>rfl
def B7 (l:List Ac) (c:Int) (own:List (FJ l.length)):List (FJ l.length):=own.filter fun x=> !decide ((Is l x).B5<c)
theorem VI (l:List Ac) (c:Int) (own:List (FJ l.length)):(B7 l c own).length≤own.length:=List.length_filter_le _ _
theorem Sr {n:Nat} (l:List (FJ n)) (k:Nat):slice 1 ((l.map DR).drop (((k:Nat):Int)+1).toNat)=idxs (l.drop (k+1)):=by
 rw [show (((k:Nat):Int)+1).toNat=k+1 by omega,←List.map_drop]
theorem VJ {n:Nat} (l:List (FJ n)) (k:Nat):((((l.map DR).drop (((k:Nat):Int)+1).toNat).length:Nat):Int)=(((l.drop (k+1)).length:Nat):Int):=by
 rw [show (((k:Nat):Int)+1).toNat=k+1 by omega,←List.map_drop,List.length_map]
def DM (m:Nat):List Int:=(List.range m).map fun k=>((k:Nat):Int)
theorem PB (m:Nat):((DM m).map fun n=>[int n])++[[int ((m:Nat):Int)]]=(DM (m+1)).map fun n=>[int n]:=by
 unfold DM;rw [List.range_succ,List.map_append,List.map_append];rfl
theorem EH (m:Nat):(DM m).length=m:=by simp [DM]
theorem VK {a b:Ac}  :BT prog 84 [agg (BZ a),agg (BZ b)] (bool (B3 a b)):=by
 refine BT.of func84 rfl rfl (by exact Nb rfl) fun M0 w0=> ?_
 refine Tr.seq (Tr.Ax (co rfl (E0 rfl (Va rfl)) (co rfl (E0 rfl (Va rfl)) (cm rfl (Ch.nil (Fin.go (Tr.seq (Tr.seq (Tr.Ax (co rfl (OJ rfl Hu rfl rfl) (co rfl (L4 rfl Au rfl) (co rfl (OJ rfl Hu rfl rfl) (co rfl (L4 rfl Au rfl) ?_)))))))))))))
 refine co rfl (ki rfl rfl rfl rfl) (Ch.nil (Fin.go ?_))
 refine Tr.cn rfl ?_ ?_<;>intro h1 q1
 refine Tr.seq (Tr.Ax (cm rfl (Ch.nil (Fin.go (Tr.ret (Fin.AF (Fin.DI rfl (Ba.Cz _ _) rfl ?_)))))))
 · refine bool_eq ?_;unfold B3;simp_all
 refine Tr.skip (Fin.go (Tr.seq (Tr.Ax (co rfl (OJ rfl Hu rfl rfl) (co rfl (L4 rfl Au rfl) (co rfl (ki rfl rfl rfl rfl) (cm rfl ?_)))))))
 refine Ch.cs 14 rfl ?_ ?_<;>intro h2 q2
 refine cnf h2 rfl (cnf h2 rfl (cnf h2 rfl (co rfl (GQ rfl rfl h2 rfl) (cm rfl (gO rfl rfl (gO rfl rfl (gO rfl rfl (co rfl (GQ rfl rfl rfl rfl) (cm rfl (Ch.nil (Fin.go (Py 2 3 5 rfl (Tr.seq (Tr.Ax ?_))))))))))))))
 refine cm rfl (cm rfl ?_)
 refine Ch.cs 25 rfl ?_ ?_<;>intro h3 q3
 refine cy h3 rfl (OJ rfl Hv rfl rfl) (cy h3 rfl (Ad rfl E5 Fl (vl rfl) rfl rfl) (cy h3 rfl (OJ rfl Hv rfl rfl) (cy h3 rfl (Ad rfl E5 Fl (vl rfl) rfl rfl) (cy h3 rfl (GV rfl (vl rfl) (vl rfl)) (DL h3 rfl ?_)))))
 refine Ch.cs 31 rfl ?_ ?_<;>intro h4 q4
 iterate 5 refine cnf h4 rfl ?_
 refine cy h3 rfl (GQ rfl rfl h4 rfl) (co rfl (GQ rfl rfl h3 rfl) (cm rfl (Ch.nil (Fin.go (CM 4 rfl (Tr.ret (Fin.DI rfl (Ba.Cz _ _) rfl ?_)))))))
 · refine bool_eq ?_;unfold B3;simp_all
 refine cy h4 rfl (OJ rfl Hw rfl rfl) (cy h4 rfl (L4 rfl Au rfl) (cy h4 rfl (OJ rfl Hw rfl rfl) (cy h4 rfl (L4 rfl Au rfl) (cy h4 rfl (ki rfl rfl rfl rfl) (cy h3 rfl (JE rfl rfl h4 rfl) (co rfl (GQ rfl rfl h3 rfl) (cm rfl (Ch.nil (Fin.go (CM 4 rfl (Tr.ret (Fin.DI rfl (Ba.Cz _ _) rfl ?_))))))))))))
 · refine bool_eq ?_;unfold B3;rw [Bool.eq_iff_iff];simp_all
 iterate 6 refine cnt h3 rfl ?_
 iterate 5 refine cu rfl ?_
 refine cnt h3 rfl (co rfl (JE rfl rfl h3 rfl) (cm rfl (Ch.nil (Fin.go (CM 4 rfl (Tr.ret (Fin.DI rfl (Ba.Cz _ _) rfl ?_)))))))
 · refine bool_eq ?_;unfold B3;simp_all
 refine cy h2 rfl (OJ rfl Hu rfl rfl) (cy h2 rfl (L4 rfl Au rfl) (cy h2 rfl (ki rfl rfl rfl rfl) (co rfl (JE rfl rfl h2 rfl) (cm rfl ?_))))
 refine Ch.cs 19 rfl ?_ ?_<;>intro h5 q5
 refine cnf h5 rfl (cnf h5 rfl (cnf h5 rfl (co rfl (GQ rfl rfl h5 rfl) (cm rfl (Ch.nil (Fin.go (Py 2 3 5 rfl (Tr.seq (Tr.Ax (cm rfl (cm rfl ?_)))))))))))
 refine Ch.cs 25 rfl ?_ ?_<;>intro h6 q6
 refine cy h6 rfl (OJ rfl Hv rfl rfl) (cy h6 rfl (Ad rfl E5 Fl (vl rfl) rfl rfl) (cy h6 rfl (OJ rfl Hv rfl rfl) (cy h6 rfl (Ad rfl E5 Fl (vl rfl) rfl rfl) (cy h6 rfl (GV rfl (vl rfl) (vl rfl)) (DL h6 rfl ?_)))))
 refine Ch.cs 31 rfl ?_ ?_<;>intro h7 q7
 iterate 5 refine cnf h7 rfl ?_
 refine cy h6 rfl (GQ rfl rfl h7 rfl) (co rfl (GQ rfl rfl h6 rfl) (cm rfl (Ch.nil (Fin.go (CM 4 rfl (Tr.ret (Fin.DI rfl (Ba.Cz _ _) rfl ?_)))))))
 · refine bool_eq ?_;unfold B3;simp_all
 refine cy h7 rfl (OJ rfl Hw rfl rfl) (cy h7 rfl (L4 rfl Au rfl) (cy h7 rfl (OJ rfl Hw rfl rfl) (cy h7 rfl (L4 rfl Au rfl) (cy h7 rfl (ki rfl rfl rfl rfl) (cy h6 rfl (JE rfl rfl h7 rfl) (co rfl (GQ rfl rfl h6 rfl) (cm rfl (Ch.nil (Fin.go (CM 4 rfl (Tr.ret (Fin.DI rfl (Ba.Cz _ _) rfl ?_))))))))))))
 · refine bool_eq ?_;unfold B3;rw [Bool.eq_iff_iff];simp_all
 iterate 6 refine cnt h6 rfl ?_
 iterate 5 refine cu rfl ?_
 refine cnt h6 rfl (co rfl (JE rfl rfl h6 rfl) (cm rfl (Ch.nil (Fin.go (CM 4 rfl (Tr.ret (Fin.DI rfl (Ba.Cz _ _) rfl ?_)))))))
 · refine bool_eq ?_;unfold B3;simp_all
 refine cy h5 rfl (OJ rfl Hu rfl rfl) (cy h5 rfl (L4 rfl Au rfl) (cy h5 rfl (ki rfl rfl rfl rfl) (co rfl (JE rfl rfl h5 rfl) (cm rfl (Ch.nil (Fin.go (Py 2 3 5 rfl (Tr.seq (Tr.Ax (cm rfl (cm rfl ?_)))))))))))
 refine Ch.cs 25 rfl ?_ ?_<;>intro h8 q8
 refine cy h8 rfl (OJ rfl Hv rfl rfl) (cy h8 rfl (Ad rfl E5 Fl (vl rfl) rfl rfl) (cy h8 rfl (OJ rfl Hv rfl rfl) (cy h8 rfl (Ad rfl E5 Fl (vl rfl) rfl rfl) (cy h8 rfl (GV rfl (vl rfl) (vl rfl)) (DL h8 rfl ?_)))))
 refine Ch.cs 31 rfl ?_ ?_<;>intro h9 q9
 iterate 5 refine cnf h9 rfl ?_
 refine cy h8 rfl (GQ rfl rfl h9 rfl) (co rfl (GQ rfl rfl h8 rfl) (cm rfl (Ch.nil (Fin.go (CM 4 rfl (Tr.ret (Fin.DI rfl (Ba.Cz _ _) rfl ?_)))))))
 · refine bool_eq ?_;unfold B3;simp_all
 refine cy h9 rfl (OJ rfl Hw rfl rfl) (cy h9 rfl (L4 rfl Au rfl) (cy h9 rfl (OJ rfl Hw rfl rfl) (cy h9 rfl (L4 rfl Au rfl) (cy h9 rfl (ki rfl rfl rfl rfl) (cy h8 rfl (JE rfl rfl h9 rfl) (co rfl (GQ rfl rfl h8 rfl) (cm rfl (Ch.nil (Fin.go (CM 4 rfl (Tr.ret (Fin.DI rfl (Ba.Cz _ _) rfl ?_))))))))))))
 · refine bool_eq ?_;unfold B3;rw [Bool.eq_iff_iff];simp_all
 iterate 6 refine cnt h8 rfl ?_
 iterate 5 refine cu rfl ?_
 refine cnt h8 rfl (co rfl (JE rfl rfl h8 rfl) (cm rfl (Ch.nil (Fin.go (CM 4 rfl (Tr.ret (Fin.DI rfl (Ba.Cz _ _) rfl ?_)))))))
 · refine bool_eq ?_;unfold B3;simp_all
theorem Rr {l:List Ac} {c:Int} {x:FJ l.length}  :BT prog 83 [int x.1,ref [Bu l],ref [int c]] (bool (decide ((Is l x).B5<c))):=by
 refine fo func83 rfl ⟨rfl,rfl⟩ fun M0 w0=> ?_
 have hx:=FB l x
 have hxp:=x.2
 refine a2 ?_
 refine co rfl (AB rfl underlying31 AY (vl rfl) (vl rfl) (by omega) (A_ hx)) ?_
 refine a2 ?_
 · exact Lr
theorem Rs:Entry Tryz.prog 83:=⟨_,Tryz.func83,rfl,rfl⟩
theorem Qc {n:Nat} {p:FJ n→Bool}  :BT prog 82 [ints [],Gh prog (fun x:FJ n=>[int x.1]) (fun x=>bool (p x))] (ints []):=by
 refine fo func82 rfl ⟨rfl,rfl⟩ fun M0 w0=> ?_
 · repeat' first|exact Lr|(exfalso;simp [idx] at h)|refine co rfl (EE (Ir (l:=[]) (p:=p)) rfl rfl rfl) ?_|refine ac ?_|(refine Tr.cn rfl ?_ ?_<;>intro h q)
theorem Xu {l:List Ac} {n c:Int} (hN:BO l) (hf:∀f∈l,f.fits) (hc:1≤c∧c≤100):BT prog 34 [Bu l,Dm n [],int c] (DT [HA [],int 0]):=by
 refine fo func34 rfl ⟨rfl,rfl⟩ fun M0 w0=> ?_
 haveI:=Classical.propDecidable (BO l)
 have iN:=hN.len
 obtain ⟨ij,iq⟩:=hc
 have hin:EX [] l.length:=by intro i hi;cases hi
 refine a2 ?_
 refine co rfl (EE (O8 (own:=[]) (by intro j x y h;simp at h) (by simp)) rfl rfl rfl) ?_
 refine a2 ?_
 refine co rfl (Cr (C4 (by assumption)) rfl rfl) ?_
 refine ac ?_
 refine EL 3 5 8 9 21 rfl ?_
 refine Tr.cn rfl ?_ ?_<;>intro h1 q1
 exfalso;simp_all
 refine ag ?_ ?_<;>intro h2 q2
 exfalso;omega
 refine an ?_ ?_<;>intro h3 q3
 exfalso;omega
 refine ac ?_
 refine Dp 3 5 8 32 rfl ?_
 refine Tr.cn rfl ?_ ?_<;>intro h4 q4
 exfalso;simp_all
 refine a2 ?_
 refine co rfl (Ah rfl (Qc (n:=l.length) (p:=fun x=>decide ((Is l x).B5<c))) ⟨ke rfl,⟨_,rfl,Bi Rs (fun x=>Rr (l:=l) (c:=c) (x:=x))⟩,trivial⟩) ?_
 refine a3 ?_
 refine Tr.block (Tr.BU [(3,_),(8,_),(38,_),(39,_)] (KH rfl) (fun (u:Unit)=>[(40,int 0),(10,is (.slice none 0 0))]) (fun (u:Unit)=>True) (fun (u:Unit)=>0) () (trivial) ⟨ke rfl,ke rfl,trivial⟩ ?_)
 rintro u _
 refine ac ?_
 refine Tr.seq ?_
 refine Tr.cn rfl ?_ ?_<;>intro h5 q5
 have:=h5
 exfalso;have:=Ak h5;simp at this
 have:=h5
 refine a2 ?_
 refine Tr.ret (Fin.Cq rfl (Ba.Cz _ _) rfl ?_ rfl ?_)
 · exact AZ 2
 · exact Lr
def FO (f g:Ac):Int:=max (f.day-g.day) (g.day-f.day)
def closer (f g b:Ac):Bool:=decide (Fq [Ar (FO f g) (FO f b),Ar g.day b.day,Ar g.machine b.machine]<0)
def Em (f g:Ac) (Aq:Int):Bool:=decide (g.machine=0∨¬g.host=f.host∨Aq<FO f g)
def CE (l:List Ac) (f:Ac) (Aq:Int):Nat→Int
 |0=> -1
 |k+1=>match l[k]? with
  |none=>CE l f Aq k
  |some g=>if Em f g Aq then CE l f Aq k else if CE l f Aq k<0 then (k:Nat) else match l[(CE l f Aq k).toNat]? with
   |none=>(k:Nat)
   |some b=>if closer f g b then (k:Nat) else CE l f Aq k
abbrev near (l:List Ac) (f:Ac) (Aq:Int):Int:=CE l f Aq l.length
theorem Gb {l:List Ac} {f g:Ac} {Aq:Int} {k:Nat} (hg:l[k]? =some g) (h:Em f g Aq=true):CE l f Aq (k+1)=CE l f Aq k:=by
 show (match l[k]? with|none=>_|some g=>_)=_
 rw [hg];exact if_pos h
theorem Jw {l:List Ac} {f g:Ac} {Aq:Int} {k:Nat} (hg:l[k]? =some g) (h:Em f g Aq=false) (h0:CE l f Aq k<0):CE l f Aq (k+1)=(k:Nat):=by
 show (match l[k]? with|none=>_|some g=>_)=_
 rw [hg];show (if Em f g Aq=true then _ else _)=_
 rw [if_neg (by simp [h]),if_pos h0]
theorem Mv {l:List Ac} {f g b:Ac} {Aq:Int} {k:Nat} (hg:l[k]? =some g) (h:Em f g Aq=false) (h0:¬CE l f Aq k<0) (hb:l[(CE l f Aq k).toNat]? =some b):CE l f Aq (k+1)=if closer f g b then ((k:Nat):Int) else CE l f Aq k:=by
 show (match l[k]? with|none=>_|some g=>_)=_
 rw [hg];show (if Em f g Aq=true then _ else _)=_
 rw [if_neg (by simp [h]),if_neg h0,hb]
theorem LW (l:List Ac) (f:Ac) (Aq:Int):∀k,CE l f Aq k= -1∨(0≤CE l f Aq k∧(CE l f Aq k).toNat<k∧∃g,l[(CE l f Aq k).toNat]? =some g∧Em f g Aq=false)
 |0=> .inl rfl
 |k+1=>by
  have ih:=LW l f Aq k
  cases hg:l[k]? with
  |none=>
   have e:CE l f Aq (k+1)=CE l f Aq k:=by show (match l[k]? with|none=>_|some g=>_)=_;rw [hg]
   rw [e]
   rcases ih with ih|⟨h1,h2,h3⟩
   · exact .inl ih
   · exact .inr ⟨h1,by omega,h3⟩
  |some g=>
   have hk:∀e:CE l f Aq (k+1)=(k:Nat),Em f g Aq=false→(CE l f Aq (k+1)= -1∨(0≤CE l f Aq (k+1)∧(CE l f Aq (k+1)).toNat<k+1∧∃g,l[(CE l f Aq (k+1)).toNat]? =some g∧Em f g Aq=false)):=by
    intro e hs
    rw [e]
    exact .inr ⟨by omega,by simp,g,by rw [Int.toNat_natCast];exact hg,hs⟩
   have hold:CE l f Aq (k+1)=CE l f Aq k→(CE l f Aq (k+1)= -1∨(0≤CE l f Aq (k+1)∧(CE l f Aq (k+1)).toNat<k+1∧∃g,l[(CE l f Aq (k+1)).toNat]? =some g∧Em f g Aq=false)):=by
    intro e
    rw [e]
    rcases ih with ih|⟨h1,h2,h3⟩
    · exact .inl ih
    · exact .inr ⟨h1,by omega,h3⟩
   cases hs:Em f g Aq with
   |true=>exact hold (Gb hg hs)
   |false=>
    rcases ih with h1|⟨h1,h2,b,hb,h3⟩
    · exact hk (Jw hg hs (by omega)) hs
    ·
     have e:=Mv hg hs (by omega) hb
     cases hc:closer f g b with
     |true=>rw [hc] at e;exact hk e hs
     |false=>rw [hc] at e;exact hold e
def Gq (l:List Ac) (Aq:Int) (i:Nat):Int:=match l[i]? with
 |none=>0
 |some f=>if f.machine=0 then (match l[(near l f Aq).toNat]? with|some g=>if near l f Aq<0 then 0 else g.machine|none=>0) else f.machine
theorem N1 {l:List Ac} {Aq:Int} {i:Nat} {f:Ac} (hf:l[i]? =some f) (h:¬f.machine=0):Gq l Aq i=f.machine:=by
 unfold Gq;rw [hf];exact if_neg h
theorem LX {l:List Ac} {Aq:Int} {i:Nat} {f g:Ac} (hf:l[i]? =some f) (h:f.machine=0) (hn:0≤near l f Aq) (hg:l[(near l f Aq).toNat]? =some g):Gq l Aq i=g.machine:=by
 unfold Gq;rw [hf];show (if _ then _ else _)=_
 rw [if_pos h,hg];exact if_neg (by omega)
theorem JN {l:List Ac} {Aq:Int} {i:Nat} {f:Ac} (hf:l[i]? =some f) (h:f.machine=0) (hn:near l f Aq<0):Gq l Aq i=0:=by
 unfold Gq;rw [hf];show (if _ then _ else _)=_
 rw [if_pos h];split
 · rw [if_pos hn]
 · rfl
theorem LY {l:List Ac} {f:Ac} {Aq:Int} (hn:0≤near l f Aq):(near l f Aq).toNat<l.length∧∃g,l[(near l f Aq).toNat]? =some g∧¬g.machine=0∧g.host=f.host∧FO f g≤Aq:=by
 rcases LW l f Aq l.length with h|⟨h1,h2,g,hg,h3⟩
 ·
  have h:near l f Aq= -1:=h
  omega
 ·
  refine ⟨h2,g,hg,?_⟩
  unfold Em at h3
  rw [decide_eq_false_iff_not] at h3
  refine ⟨fun e=>h3 (.inl e),Classical.byContradiction fun e=>h3 (.inr (.inl e)),?_⟩
  rcases Int.lt_or_le Aq (FO f g) with h|h
  · exact absurd (.inr (.inr h)) h3
  · exact h
theorem GC {l:List Ac} {Aq:Int} {i:Nat} {f:Ac} (hf:l[i]? =some f) (h:Gq l Aq i=0):f.machine=0∧near l f Aq<0:=by
 by_cases hm:f.machine=0
 ·
  refine ⟨hm,?_⟩
  rcases Int.lt_or_le (near l f Aq) 0 with hn|hn
  · exact hn
  ·
   obtain ⟨h1,g,hg,h2,_⟩:=LY hn
   rw [LX hf hm hn hg] at h;exact absurd h h2
 · rw [N1 hf hm] at h;exact absurd h hm
def prevK (l:List Ac) (Aq:Int):Nat→Int
 |0=> -1
 |k+1=>if Gq l Aq k=0 then (k:Nat) else prevK l Aq k
theorem Iu (l:List Ac) (Aq:Int):∀k,prevK l Aq k= -1∨(0≤prevK l Aq k∧(prevK l Aq k).toNat<k∧Gq l Aq (prevK l Aq k).toNat=0)
 |0=> .inl rfl
 |k+1=>by
  unfold prevK
  split
  · rename_i h;exact .inr ⟨by omega,by simp,by simpa using h⟩
  ·
   rcases Iu l Aq k with h|⟨h1,h2,h3⟩
   · exact .inl h
   · exact .inr ⟨h1,by omega,h3⟩
theorem Mw {l:List Ac} {Aq:Int}:∀k j,j<k→Gq l Aq j=0→(j:Int)≤prevK l Aq k
 |0,_,h,_=>absurd h (Nat.not_lt_zero _)
 |k+1,j,h,hj=>by
  unfold prevK
  split
  · omega
  ·
   rename_i hk
   have:j<k:=by
    rcases Nat.lt_or_eq_of_le (Nat.le_of_lt_succ h) with h1|h1
    · exact h1
    · rw [h1] at hj;exact absurd hj hk
   exact Mw k j this hj
abbrev N2 (l:List Ac) (Aq:Int) (p i:Nat):Bool:=match l[p]?,l[i]? with
 |some g,some f=>decide (g.host=f.host∧FO f g≤Aq)
 |_,_=>false
def A5 (l:List Ac) (Aq:Int) (i:Nat):Nat:=
 if Gq l Aq i=0 then (if _h:0≤prevK l Aq i∧(prevK l Aq i).toNat<i∧N2 l Aq (prevK l Aq i).toNat i=true then A5 l Aq (prevK l Aq i).toNat else i)
 else ((List.range i).find? fun k=>decide (Gq l Aq k=Gq l Aq i)).getD i
termination_by i
decreasing_by omega
theorem PC {l:List Ac} {Aq:Int} {i:Nat} (h:Gq l Aq i=0) (hp:0≤prevK l Aq i) (hn:N2 l Aq (prevK l Aq i).toNat i=true):A5 l Aq i=A5 l Aq (prevK l Aq i).toNat:=by
 have h2:(prevK l Aq i).toNat<i:=by rcases Iu l Aq i with h1|⟨_,h1,_⟩<;>omega
 rw [A5,if_pos h,dif_pos ⟨hp,h2,hn⟩]
theorem Jx {l:List Ac} {Aq:Int} {i:Nat} (h:Gq l Aq i=0) (hn:¬(0≤prevK l Aq i∧N2 l Aq (prevK l Aq i).toNat i=true)):A5 l Aq i=i:=by
 rw [A5,if_pos h,dif_neg (fun hh=>hn ⟨hh.1,hh.2.2⟩)]
theorem VM (l:List Ac) (Aq:Int):∀i,A5 l Aq i≤i:=by
 intro i
 induction i using Nat.strongRecOn with
 |_ i ih=>
  rw [A5]
  split
  ·
   split
   · rename_i h;have:=ih _ h.2.1;omega
   · exact Nat.le_refl _
  ·
   cases hf:(List.range i).find? fun k=>decide (Gq l Aq k=Gq l Aq i) with
   |none=>exact Nat.le_refl _
   |some k=>have:=List.mem_range.1 (List.mem_of_find?_eq_some hf);simp;omega
theorem Xv {l:List Ac} {Aq:Int} {i:Nat} (h:¬Gq l Aq i=0):Gq l Aq (A5 l Aq i)=Gq l Aq i∧∀j,j<A5 l Aq i→¬Gq l Aq j=Gq l Aq i:=by
 rw [A5,if_neg h]
 cases hf:(List.range i).find? fun k=>decide (Gq l Aq k=Gq l Aq i) with
 |none=>
  rw [List.find?_eq_none] at hf
  exact ⟨rfl,fun j hj e=>hf j (List.mem_range.2 hj) (by simpa using e)⟩
 |some k=>
  rw [List.find?_range_eq_some] at hf
  obtain ⟨h1,h2,h3⟩:=hf
  exact ⟨by simpa using h1,fun j hj=>by simpa using h3 j hj⟩
structure kH (R:Nat→Nat):Prop where
 le:∀x,R x≤x
 idem:∀x,R (R x)=R x
structure Z9 where
 num:Int
 GD:List (List UInt8)
 Cc:List Int
 Bu:List Int
deriving DecidableEq
section
variable {α:Type}
def Eg (c:α→α→Int) (l:List α) (x:α):List α:=match l with
 |[]=>[x]
 |y::r=>if c y x<0 then y::Eg c r x else if c y x=0 then y::r else x::y::r
theorem LZ {c:α→α→Int} (he:∀x y,c x y=0→x=y) {x z:α}:∀{l:List α},z∈Eg c l x↔z∈l∨z=x
 |[]=>by simp [Eg]
 |y::r=>by
  unfold Eg
  split
  · rw [List.mem_cons,LZ he,List.mem_cons,or_assoc]
  ·
   split
   ·
    rename_i h
    constructor
    · exact .inl
    ·
     rintro (h1|rfl)
     · exact h1
     · rw [←he _ _ h];exact List.mem_cons_self ..
   ·
    rw [List.mem_cons]
    constructor
    ·
     rintro (h|h)
     · exact .inr h
     · exact .inl h
    ·
     rintro (h|h)
     · exact .inr h
     · exact .inl h
theorem Jy {c:α→α→Int} (hc:JJ c) (he:∀x y,c x y=0→x=y) {x:α}:∀{l:List α},l.Pairwise (fun a b=>c a b<0)→(Eg c l x).Pairwise (fun a b=>c a b<0)
 |[],_=>by unfold Eg;simp
 |y::r,h=>by
  obtain ⟨h1,h2⟩:=List.pairwise_cons.1 h
  unfold Eg
  split
  ·
   rename_i hlt
   refine List.pairwise_cons.2 ⟨fun z hz=> ?_,Jy hc he h2⟩
   rcases (LZ he).1 hz with hz|rfl
   · exact h1 z hz
   · exact hlt
  ·
   split
   · exact h
   ·
    rename_i hn h0
    have hs:=hc.swap y x
    have hxy:c x y<0:=by omega
    refine List.pairwise_cons.2 ⟨fun z hz=> ?_,h⟩
    rcases List.mem_cons.1 hz with rfl|hz
    · exact hxy
    · exact hc.tr x y z hxy (h1 z hz)
theorem Iv (c:α→α→Int) (x:α):∀l:List α,(Eg c l x).length≤l.length+1
 |[]=>by simp [Eg]
 |y::r=>by
  unfold Eg
  have:=Iv c x r
  split
  · simp only [List.length_cons];omega
  · split<;>simp
theorem N3 {c:α→α→Int} {x:α}:∀{l:List α} {k:Nat},k≤l.length→(∀(j:Nat) y,j<k→l[j]? =some y→c y x<0)→(∀y,l[k]? =some y→¬c y x<0)→Eg c l x=if (l[k]?).any (fun y=>decide (c y x=0)) then l else l.take k++x::l.drop k
 |[],k,hk,_,_=>by
  have:k=0:=by simpa using hk
  subst this;rfl
 |y::r,0,_,_,h2=>by
  have:=h2 y rfl
  unfold Eg
  rw [if_neg this]
  show _=if (some y).any _ then _ else _
  by_cases h:c y x=0
  · rw [if_pos h,if_pos (by simp [h])]
  · rw [if_neg h,if_neg (by simp [h])];rfl
 |y::r,k+1,hk,h1,h2=>by
  have h:=h1 0 y (by omega) rfl
  unfold Eg
  rw [if_pos h,N3 (k:=k) (by simpa using hk) (fun j z hj hz=>h1 (j+1) z (by omega) (by simpa using hz)) (fun z hz=>h2 z (by simpa using hz))]
  rw [List.getElem?_cons_succ]
  split<;>simp
end
abbrev Z_ (l:List (List UInt8)) (x:List UInt8):List (List UInt8):=Eg Lib.compareBytes l x
abbrev fD (l:List Int) (x:Int):List Int:=Eg Ar l x
def Eh (e:Z9) (f:Ac) (i:Int):Z9:=⟨e.num,Z_ e.GD f.host,if f.machine=0 then e.Cc else fD e.Cc f.machine,e.Bu++[i]⟩
def CF (l:List Ac) (root:Nat→Nat) (r:Nat):Nat→Z9
 |0=>⟨(r:Nat),[],[],[]⟩
 |n+1=>match l[n]? with
  |none=>CF l root r n
  |some f=>if root n=r then Eh (CF l root r n) f (n:Nat) else CF l root r n
def JO (root:Nat→Nat) (n:Nat):List Nat:=(List.range n).filter fun r=>decide (root r=r)
def fE (l:List Ac) (root:Nat→Nat) (n:Nat):List Z9:=(JO root n).map fun r=>CF l root r n
abbrev La (l:List Ac) (Aq:Int):List Z9:=fE l (A5 l Aq) l.length
theorem Jz (root:Nat→Nat) (n:Nat):JO root (n+1)=JO root n++if root n=n then [n] else []:=by
 unfold JO
 rw [List.range_succ,List.filter_append]
 congr 1
 by_cases h:root n=n<;>simp [h]
theorem Mx {l:List Ac} {root:Nat→Nat} (hle:∀i,root i≤i) {r:Nat}:∀n,n≤r→CF l root r n=⟨(r:Nat),[],[],[]⟩
 |0,_=>rfl
 |n+1,h=>by
  unfold CF
  have:=hle n
  rw [Mx hle n (by omega)]
  split
  · rfl
  · rw [if_neg (by omega)]
theorem FC {l:List Ac} {root:Nat→Nat} {r n:Nat} {f:Ac} (hf:l[n]? =some f) (h:root n=r):CF l root r (n+1)=Eh (CF l root r n) f (n:Nat):=by
 show (match l[n]? with|none=>_|some f=>_)=_
 rw [hf];exact if_pos h
theorem Gc {l:List Ac} {root:Nat→Nat} {r n:Nat} (h:¬root n=r):CF l root r (n+1)=CF l root r n:=by
 show (match l[n]? with|none=>_|some f=>_)=_
 split
 · rfl
 · exact if_neg h
theorem KU (l:List Ac) (root:Nat→Nat) (r:Nat):∀n,(CF l root r n).num=(r:Nat)
 |0=>rfl
 |n+1=>by
  unfold CF
  split
  · exact KU l root r n
  ·
   split
   · exact KU l root r n
   · exact KU l root r n
theorem Ew {α:Type} {l:List α} {k:Nat} {x:α} (h:l[k]? =some x):k<l.length:=by
 rcases Nat.lt_or_ge k l.length with h'|h'
 · exact h'
 · rw [List.getElem?_eq_none h'] at h;cases h
structure UF (p:List Int) (R:Nat→Nat):Prop where
 len:p.length=400
 rep:kH R
 par:∀x,x<400→∃y:Nat,p[x]? =some (y:Int)∧y≤x∧R y=R x∧(y=x↔R x=x)
def Rt (k:Nat):List Int:=(List.range k).map (fun n=>((n:Nat):Int))++List.replicate (400-k) 0
theorem Ss {k:Nat} (hk:k≤400):(Rt k).length=400:=by unfold Rt;simp;omega
theorem UF.start:UF (Rt 400) (fun x=>x):=
 ⟨Ss (Nat.le_refl _),⟨fun _=>Nat.le_refl _,fun _=>rfl⟩,fun x hx=>⟨x,by unfold Rt;rw [List.getElem?_append_left (by simpa using hx),List.getElem?_map,List.getElem?_range hx];rfl,Nat.le_refl _,rfl,by simp⟩⟩
abbrev arr (p:List Int):List Pr:=p.map fun n=>int n
theorem aA {p:List Int} {i:Nat} {x:Int} (h:p[i]? =some x):(arr p)[i]? =some (int x):=by rw [List.getElem?_map,h];rfl
theorem Xw {p:List Int} {i:Int} {x:Int} (h:p[i.toNat]? =some x):(arr p)[0+i.toNat*1]? =some (int x):=by rw [Nat.zero_add,Nat.mul_one];exact aA h
theorem Xx {p:List Int} {i:Nat} {x:Int} (h:i<p.length):(arr p).take i++[int x]++(arr p).drop (i+1)=arr (p.set i x):=by
 unfold arr
 rw [List.map_set,List.set_eq_take_append_cons_drop,if_pos (by simpa using h)];simp
theorem Xy {l:List UInt8} {x:Nat} {y:Int} {hl:x<l.length} (h:(List.range 256).all (fun i=>match l[i]? with|some b=>decide (b.toNat≤8∧(1≤i→2 ^ b.toNat≤2*i))|none=>true)=true) (hx:x<256) (hy:(x:Int)=y):
  0≤IntKind.i64.wrap (IntKind.i64.wrap ((l[x]).toNat:Int))∧IntKind.i64.wrap (IntKind.i64.wrap ((l[x]).toNat:Int))≤8∧(1≤y→((2 ^ (IntKind.i64.wrap (IntKind.i64.wrap ((l[x]).toNat:Int))).toNat:Nat):Int)≤2*y):=by
 subst hy
 have h1:=List.all_eq_true.1 h x (List.mem_range.2 hx)
 rw [List.getElem?_eq_getElem hl] at h1
 have h1:=of_decide_eq_true h1
 have hb:(l[x]).toNat<256:=UInt8.toNat_lt _
 have hw:=IntWalk.i64_in ((l[x]).toNat:Int) ⟨by omega,by omega⟩
 rw [hw,hw,Int.toNat_natCast]
 exact ⟨by omega,by omega,fun hx1=>by have:=h1.2 (by omega);omega⟩
theorem VN {x:Int} (h0:0≤x) (h1:x<256):BT prog 159 [is (.int .u64 x)] (ex fun k:Int=>fact (0≤k∧k≤8∧(1≤x→((2 ^ k.toNat:Nat):Int)≤2*x)) (int k)):=by
 refine fo func159 rfl ⟨rfl,rfl⟩ fun M0 w0=> ?_
 have hw:IntKind.u8.wrap x=x:=IntWalk.u8_in x ⟨by omega,by omega⟩
 refine ac ?_
 refine an ?_ ?_<;>intro h1 q1
 exfalso;omega
 refine ac ?_
 refine an ?_ ?_<;>intro h2 q2
 exfalso;omega
 refine ac ?_
 refine an ?_ ?_<;>intro h3 q3
 exfalso;omega
 refine a2 ?_
 refine co rfl (Ci rfl underlying174 underlying5 (vl rfl)) ?_
 refine co rfl (IQ rfl underlying9 (vl rfl) (vl rfl) (by omega) (List.getElem?_eq_getElem (by show _<256;omega))) ?_
 refine co rfl (Ci rfl underlying5 underlying3 (vl rfl)) ?_
 refine ac ?_
 refine CM 2 rfl ?_
 refine ac ?_
 · refine BD _ (Aj ?_ (Lr));rw [Int.zero_add];refine Xy ?_ (by omega) (by omega);decide+kernel
theorem KV {x:Int} (h0:0≤x) (h1:x<256):BT prog 100 [is (.int .u64 x)] (ex fun k:Int=>fact (0≤k∧k≤8∧(1≤x→((2 ^ k.toNat:Nat):Int)≤2*x)) (int k)):=by
 refine fo func100 rfl ⟨rfl,rfl⟩ fun M0 w0=> ?_
 refine a3 ?_
 refine co rfl (Cr (VN (by omega) (by omega)) rfl rfl) ?_
 refine a2 ?_
 · exact Lr
theorem VO {x:Int} (h0:1≤x) (h1:x<256):BT prog 187 [int x] (ex fun m:Int=>fact (1≤m∧m≤2*x) (is (.int .u64 m))):=by
 refine fo func187 rfl ⟨rfl,rfl⟩ fun M0 w0=> ?_
 have hw:IntKind.u64.wrap x=x:=IntWalk.u64_in x ⟨by omega,by omega⟩
 refine ac ?_
 refine ap ?_
 refine tp rfl (Ci rfl underlying3 underlying137 (vl rfl)) (tp rfl (Cr (KV (by omega) (by omega)) rfl rfl) ?_)
 refine TO.ex 5 rfl (fun k=>TO.fact 5 rfl fun hk=> ?_)
 obtain ⟨hk1,hk2,kI⟩:=hk
 refine tp rfl (XD rfl (vl rfl) (vl rfl) (by omega) (by omega) (kI (by omega))) ?_
 refine ap ?_
 refine ac ?_
 · exact fun M w v ⟨r,h,hv⟩=>⟨r,by rw [hw] at h;exact h,hv⟩
theorem Ru {xb:Nat}  :BQ prog 188 [is (.pointer (some ⟨xb,0,none⟩))] (Da .u64) (AD true xb 189 [Da .u64]) (fun _=>AD true xb 189 [Da .u64]):=by
 refine BQ.of func188 rfl rfl (by exact Nb rfl) fun M0 w0 S rs M1 w1=> ?_
 refine ac ?_
 refine Tr.seq (Tr.rx ?_)
 refine ay ?_
 refine xo rfl (fun _=>QE (by decide) rfl (vl rfl) (vl rfl) (by decide)) (xo rfl (fun _=>Na (by decide) rfl (vl rfl) (vl rfl)) ?_)
 refine ay ?_
 refine Cx.nil ⟨by kernel_rfl,?_⟩
 refine BP.done Ic (Fin.go (Tr.seq (Tr.rx ?_)))
 refine ay ?_
 refine xo rfl (fun _=>QE (by decide) rfl (vl rfl) (vl rfl) (by decide)) (xo rfl (fun _=>Na (by decide) rfl (vl rfl) (vl rfl)) ?_)
 refine ay ?_
 refine Cx.nil ⟨by kernel_rfl,?_⟩
 refine BP.done Ic (Fin.go (CM 0 rfl (Tr.seq (Tr.rx ?_))))
 refine ay ?_
 refine xo rfl (fun _=>QE (by decide) rfl (vl rfl) (vl rfl) (by decide)) (xo rfl (fun _=>Na (by decide) rfl (vl rfl) (vl rfl)) ?_)
 refine ay ?_
 refine Cx.nil ⟨by kernel_rfl,?_⟩
 refine BP.done Ic (Fin.go ?_)
 refine ac ?_
 refine CM 2 rfl (Tr.ret (Fin.Ca rfl rfl ?_ (fun _ _ _ _=>rfl)))
 · exact Lr
instance:Inhabited BF:=⟨⟨0,[],0,0,0,0,[],0⟩⟩
theorem Xz {l:List BF} {c:BF×BF→Int} {b0 cap len:Nat} {sp:List Value} {a b:Int} (Ep:l.length=len) (Gn:len≤1000000) (hw:Go.Sort.SWO (Bp c)) (h0:0≤a) (hab:a≤b) (hb:b≤len):BQ prog 174 [is (.slice (some ⟨b0,0,none⟩) len cap),int a,int b,Gh prog (fun x:BF×BF=>[agg (AL x.1),agg (AL x.2)]) (fun x=>int (c x))] (CC) (AD true b0 110 ((l.map AL).flatten++sp.map is)) (fun _=>Bw b0 110 AL (CS c a b l) (sp.map is)):=by
 refine BQ.of func174 rfl rfl (by exact Nb rfl) fun M0 w0 S rs M1 w1=> ?_
 refine ac ?_
 refine Tr.block (Tr.CU [(0,_),(1,_),(2,_),(3,_)] ⟨ke rfl,ke rfl,ke rfl,ke rfl,trivial⟩ (fun (i:Int) (st:List BF)=>[(8,int i)]) (fun (i:Int) (st:List BF)=>Hp M0 w0 S (AD true b0 110 ((st.map AL).flatten++sp.map is)::Ai M1 w1::rs)) (fun (i:Int) (st:List BF)=>a<i∧st.length=len∧Go.Sort.insOuter (Bp c) a.toNat b.toNat i.toNat st.toArray=Go.Sort.insertionSort (Bp c) l.toArray a.toNat b.toNat) (fun (i:Int) (st:List BF)=>(b-i).toNat) (a+1) (l)  (⟨by omega,by omega,K6 h0⟩) ⟨ke rfl,trivial⟩ (fun _ _ h=>h) ?_)
 rintro i st  ⟨hi1,Gp,DQ⟩
 refine an ?_ ?_<;>intro h1 q1
 have hib:i<b:=of_decide_eq_true h1
 refine a2 ?_
 refine Tr.block (Tr.CU [(0,_),(1,_),(2,_),(3,_),(8,_)] ⟨ke rfl,ke rfl,ke rfl,ke rfl,ke rfl,trivial⟩ (fun (j:Int) (D5:List BF)=>[(9,int j)]) (fun (j:Int) (D5:List BF)=>Hp M0 w0 S (AD true b0 110 ((D5.map AL).flatten++sp.map is)::Ai M1 w1::rs)) (fun (j:Int) (D5:List BF)=>(a≤j∧j≤i)∧D5.length=len∧Go.Sort.insInner (Bp c) a.toNat j.toNat D5.toArray=Go.Sort.insInner (Bp c) a.toNat i.toNat st.toArray) (fun (j:Int) (D5:List BF)=>(j-a).toNat) (i) (st)  (⟨⟨by omega,by omega⟩,Gp,rfl⟩) ⟨ke rfl,trivial⟩ (fun _ _ h=>h) ?_)
 rintro j D5  ⟨⟨TT,hj2⟩,Lb,IB⟩
 refine ag ?_ ?_<;>intro h2 q2
 refine ac ?_
 refine cy h2 rfl (AA rfl underlying63 AH (vl rfl) (vl rfl) (by omega) (by omega)) (cy h2 rfl (As 0 rfl (Ae rfl Aw AH (vl rfl) (Aa (f:=AL) (fun _=>rfl) (by omega)) rfl)) ?_)
 refine ac ?_
 refine cy h2 rfl (AA rfl underlying63 AH (vl rfl) (vl rfl) (by omega) (by omega)) (cy h2 rfl (As 0 rfl (Ae rfl Aw AH (vl rfl) (Aa (f:=AL) (fun _=>rfl) (by omega)) rfl)) (cy h2 rfl (A9 (_,_) rfl (vl rfl) ⟨ke rfl,ke rfl,trivial⟩) ?_))
 refine ac ?_
 refine Ea 0 1 2 3 8 9 34 rfl ?_
 refine Tr.cn rfl ?_ ?_<;>intro h3 q3
 have:=h3
 refine ac ?_
 refine Tr.seq (Tr.block (Tr.rx ?_))
 refine ay ?_
 refine xo rfl (fun _=>AA rfl underlying63 AH (vl rfl) (vl rfl) (by omega) (by omega)) (C0 0 rfl rfl (Ae rfl Aw AH (vl rfl) (Aa (f:=AL) (fun _=>rfl) (by omega)) rfl) ?_)
 refine ay ?_
 refine xo rfl (fun _=>AA rfl underlying63 AH (vl rfl) (vl rfl) (by omega) (by omega)) (C0 0 rfl rfl (Ae rfl Aw AH (vl rfl) (Aa (f:=AL) (fun _=>rfl) (by omega)) rfl) (xo rfl (fun _=>AA rfl underlying63 AH (vl rfl) (vl rfl) (by omega) (by omega)) ?_))
 refine Cx.CY 0 rfl rfl (AW rfl rfl (vl rfl) (Va rfl) AH rfl (by rw [AV (sz:=8) (fun _=>rfl)];omega) (AQ (f:=AL) (fun _=>rfl) (by omega))) ?_
 refine xo rfl (fun _=>AA rfl underlying63 AH (vl rfl) (vl rfl) (by omega) (by omega)) ?_
 refine Cx.CY 0 rfl rfl (AW rfl rfl (vl rfl) (Va rfl) AH rfl (by rw [AV (sz:=8) (fun _=>rfl)];simp only [List.length_set];omega) (AQ (f:=AL) (fun _=>rfl) (by simp only [List.length_set];omega))) ?_
 refine Cx.nil ⟨by kernel_rfl,?_⟩
 refine BP.done Ic ?_
 refine ac ?_
 refine EZ 0 1 2 3 8 9 rfl ?_
 refine ac ?_
 exact Fin.BW (j-1) (_)  (⟨⟨⟨by omega,by omega⟩,by simp only [List.length_set];exact Lb,by rw [UD h0 (by omega) rfl (by omega) (by omega) (by assumption)];exact IB⟩,by omega⟩) ⟨ke rfl,ke rfl,ke rfl,ke rfl,ke rfl,ke rfl,trivial⟩ (fun _ _ h=>h)
 have:=h3
 refine a2 ?_
 have Qd:D5.toArray=Go.Sort.insInner (Bp c) a.toNat j.toNat D5.toArray:=by exact MV h0 (by omega) rfl (by omega) (by omega) (Int.not_lt.2 (by assumption))
 exact Fin.BW (i+1) (D5)  (⟨⟨by omega,Lb,by rw [←DQ,←KL (by omega) hib,←IB];exact congrArg _ Qd⟩,by omega⟩) ⟨ke rfl,ke rfl,ke rfl,ke rfl,ke rfl,trivial⟩ (fun _ _ h=>h)
 refine ac ?_
 refine Ea 0 1 2 3 8 9 34 rfl ?_
 refine a2 ?_
 have Qd:D5.toArray=Go.Sort.insInner (Bp c) a.toNat j.toNat D5.toArray:=by exact MU h0 (by omega)
 exact Fin.BW (i+1) (D5)  (⟨⟨by omega,Lb,by rw [←DQ,←KL (by omega) hib,←IB];exact congrArg _ Qd⟩,by omega⟩) ⟨ke rfl,ke rfl,ke rfl,ke rfl,ke rfl,trivial⟩ (fun _ _ h=>h)
 have hib:¬i<b:=of_decide_eq_false h1
 rw [MW (by omega) hib] at DQ
 refine Tr.exit (Fin.AG (Fin.AG (Fin.AP ?_)))
 refine Fin.Bl (CS c a b l) 0 rfl (by unfold CS;rw [DQ];exact Go.Sort.insertionSort_holds hw l.toArray a.toNat b.toNat (by omega) (by simp only [List.size_toArray];omega)) ?_
 exact Fin.FY rfl
theorem PD {l:List BF} {c:BF×BF→Int} {b0 cap len:Nat} {sp:List Value} {lo hi first:Int} (Ep:l.length=len) (Gn:len≤1000000) (h0:0≤lo) (hlo:lo≤len) (hf:0≤first) (hb:first+hi≤len):BQ prog 209 [is (.slice (some ⟨b0,0,none⟩) len cap),int lo,int hi,int first,Gh prog (fun x:BF×BF=>[agg (AL x.1),agg (AL x.2)]) (fun x=>int (c x))] (CC) (AD true b0 110 ((l.map AL).flatten++sp.map is)) (fun _=>Bw b0 110 AL (Gl c hi first lo l) (sp.map is)):=by
 refine BQ.of func209 rfl rfl (by exact Nb rfl) fun M0 w0 S rs M1 w1=> ?_
 refine Tr.seq (Tr.Ax (cm rfl (cm rfl (Ch.nil (Fin.go (Tr.block (Tr.CU [(0,_),(2,_),(3,_),(4,_)] ⟨ke rfl,ke rfl,ke rfl,ke rfl,trivial⟩ (fun (r:Int) (st:List BF)=>[(10,int r)]) (fun (r:Int) (st:List BF)=>Hp M0 w0 S (AD true b0 110 ((st.map AL).flatten++sp.map is)::Ai M1 w1::rs)) (fun (r:Int) (st:List BF)=>(0≤r∧r≤1000000)∧st.length=len∧Go.Sort.siftDown (Bp c) hi.toNat first.toNat r.toNat st.toArray=Go.Sort.siftDown (Bp c) hi.toNat first.toNat lo.toNat l.toArray) (fun (r:Int) (st:List BF)=>(hi-r).toNat) (lo) (l)  (⟨⟨by omega,by omega⟩,by omega,rfl⟩) ⟨ke rfl,trivial⟩ (fun _ _ h=>h) ?_)))))))
 rintro r st  ⟨⟨Su,gI⟩,Gp,DQ⟩
 refine Tr.block (Tr.seq (Tr.Ax (cm rfl ?_)))
 refine co rfl (DW rfl (vl rfl) (vl rfl) ?hin) ?_;case hin=>unfold C7;omega
 refine MM rfl rfl rfl rfl (by omega) (cm rfl (Ch.nil (Fin.go (Tr.seq (Tr.seq (Tr.Ax (cm rfl (cm rfl (co rfl (ki rfl rfl rfl rfl) (Ch.nil (Fin.go ?_)))))))))))
 refine Tr.cn rfl ?_ ?_<;>intro h1 q1
 refine Tr.exit (Fin.AG (Fin.Gv rfl (Fin.AG (Fin.AP ?_))))
 refine Fin.Bl (Gl c hi first lo l) 0 rfl (⟨by omega,by rw [←DQ];exact Oa (by omega) (by omega)⟩) ?_
 exact Fin.FY rfl
 refine Tr.skip (Fin.go (Tr.seq (Tr.seq (Tr.HT mixed (by kernel_rfl) (cm rfl (MM rfl rfl rfl rfl (by omega) (cm rfl (co rfl (ki rfl rfl rfl rfl) (cm rfl ?_)))))))))
 refine Ch.cs 23 rfl ?_ ?_<;>intro h2 q2
 iterate 4 refine DL h2 rfl ?_
 refine cy h2 rfl (BR rfl (vl rfl) (vl rfl) ?hin) ?_;case hin=>unfold C7;omega
 refine cy h2 rfl (AA rfl underlying63 AH (vl rfl) (vl rfl) (by omega) (by omega)) (cy h2 rfl (As 0 rfl (Ae rfl Aw AH (vl rfl) (Aa (f:=AL) (fun _=>rfl) (by omega)) rfl)) (DL h2 rfl (DL h2 rfl (DL h2 rfl ?_))))
 refine cy h2 rfl (BR rfl (vl rfl) (vl rfl) ?hin) ?_;case hin=>unfold C7;omega
 refine cy h2 rfl (BR rfl (vl rfl) (vl rfl) ?hin) ?_;case hin=>unfold C7;omega
 refine cy h2 rfl (AA rfl underlying63 AH (vl rfl) (vl rfl) (by omega) (by omega)) (cy h2 rfl (As 0 rfl (Ae rfl Aw AH (vl rfl) (Aa (f:=AL) (fun _=>rfl) (by omega)) rfl)) (cy h2 rfl (A9 (_,_) rfl (vl rfl) ⟨ke rfl,ke rfl,trivial⟩) (cy h2 rfl (ki rfl rfl rfl rfl) (co rfl (GQ rfl rfl h2 rfl) (Ch.nil (Fin.go (Ea 0 2 3 4 10 11 40 rfl ?_)))))))
 refine Tr.cn rfl ?_ ?_<;>intro h3 q3
 refine Tr.Ax (cm rfl (MM rfl rfl rfl rfl (by omega) (cm rfl (Ch.nil (Fin.go (Tr.seq (Tr.seq (Tr.HT mixed (by kernel_rfl) ?_))))))))
 iterate 4 refine cm rfl ?_
 refine MM rfl rfl rfl rfl (by omega) (co rfl (AA rfl underlying63 AH (vl rfl) (vl rfl) (by omega) (by omega)) (co rfl (As 0 rfl (Ae rfl Aw AH (vl rfl) (Aa (f:=AL) (fun _=>rfl) (by omega)) rfl)) (cm rfl (cm rfl (cm rfl (MM rfl rfl rfl rfl (by omega) (co rfl (AA rfl underlying63 AH (vl rfl) (vl rfl) (by omega) (by omega)) (co rfl (As 0 rfl (Ae rfl Aw AH (vl rfl) (Aa (f:=AL) (fun _=>rfl) (by omega)) rfl)) (co rfl (A9 (_,_) rfl (vl rfl) ⟨ke rfl,ke rfl,trivial⟩) (co rfl (ki rfl rfl rfl rfl) (co rfl (Dt rfl (vl rfl)) (Ch.nil (Fin.go ?_)))))))))))))
 refine Ea 0 2 3 4 10 11 58 rfl ?_
 refine Tr.cn rfl ?_ ?_<;>intro h4 q4
 refine Tr.ret (Fin.AF (Fin.AK (Fin.AF (Fin.AK ?_))))
 refine Fin.Bl (Gl c hi first lo l) 0 rfl (⟨by omega,by rw [←DQ];exact K8 Su hf (by omega) (u:=first+(2*r+1)) (v:=first+(2*r+1)+1) rfl rfl (by omega) (by omega) (by assumption) (x:=first+r) (y:=first+(2*r+1+1)) rfl rfl (by omega) (by omega) (Int.not_lt.2 (by assumption))⟩) ?_
 exact Fin.Ef rfl
 refine Tr.skip (Fin.go (Tr.seq (Tr.Dv mixed [none,none,none,none,none,none,none,none,none,none,none,none,none,some (0,0,false,0),none,none,none,none,none,some (0,0,false,0),none,some (0,0,true,0),none,some (0,0,true,0)] (by kernel_rfl) (xm rfl (xm rfl (xm rfl ?_))))))
 refine xo rfl (fun _=>BR rfl (vl rfl) (vl rfl) ?hin) ?_;case hin=>unfold C7;omega
 refine xm rfl (xm rfl (xm rfl ?_))
 refine xo rfl (fun _=>BR rfl (vl rfl) (vl rfl) ?hin) ?_;case hin=>unfold C7;omega
 refine xm rfl (xm rfl (xm rfl ?_))
 refine xo rfl (fun _=>BR rfl (vl rfl) (vl rfl) ?hin) ?_;case hin=>unfold C7;omega
 refine xo rfl (fun _=>AA rfl underlying63 AH (vl rfl) (vl rfl) (by omega) (by omega)) (C0 0 rfl rfl (Ae rfl Aw AH (vl rfl) (Aa (f:=AL) (fun _=>rfl) (by omega)) rfl) (xm rfl (xm rfl (xm rfl ?_))))
 refine xo rfl (fun _=>BR rfl (vl rfl) (vl rfl) ?hin) ?_;case hin=>unfold C7;omega
 refine xo rfl (fun _=>AA rfl underlying63 AH (vl rfl) (vl rfl) (by omega) (by omega)) (C0 0 rfl rfl (Ae rfl Aw AH (vl rfl) (Aa (f:=AL) (fun _=>rfl) (by omega)) rfl) (xo rfl (fun _=>AA rfl underlying63 AH (vl rfl) (vl rfl) (by omega) (by omega)) ?_))
 refine Cx.CY 0 rfl rfl (AW rfl rfl (vl rfl) (Va rfl) AH rfl (by rw [AV (sz:=8) (fun _=>rfl)];omega) (AQ (f:=AL) (fun _=>rfl) (by omega))) ?_
 refine xo rfl (fun _=>AA rfl underlying63 AH (vl rfl) (vl rfl) (by omega) (by omega)) ?_
 refine Cx.CY 0 rfl rfl (AW rfl rfl (vl rfl) (Va rfl) AH rfl (by rw [AV (sz:=8) (fun _=>rfl)];simp only [List.length_set];omega) (AQ (f:=AL) (fun _=>rfl) (by simp only [List.length_set];omega))) ?_
 refine Cx.nil ⟨rfl,?_⟩
 refine BP.done (BG.cons (BG.cons (BG.map _))) (Fin.go (EL 0 2 3 4 11 rfl (Tr.Ax (cm rfl (cm rfl (Ch.nil (Fin.block ?_)))))))
 exact Fin.BW (2*r+1+1) (_)  (⟨⟨⟨by omega,by omega⟩,by simp only [List.length_set];exact Gp,by rw [←DQ];exact Ob Su hf (by omega) (u:=first+(2*r+1)) (v:=first+(2*r+1)+1) rfl rfl (by omega) (by omega) (by assumption) (by omega) (by omega) (by omega) (by omega) (by assumption)⟩,by omega⟩) ⟨ke rfl,ke rfl,ke rfl,ke rfl,ke rfl,trivial⟩ (fun _ _ h=>h)
 refine Tr.skip (Fin.go (Tr.seq (Tr.seq (Tr.HT mixed (by kernel_rfl) ?_))))
 iterate 4 refine cm rfl ?_
 refine MM rfl rfl rfl rfl (by omega) (co rfl (AA rfl underlying63 AH (vl rfl) (vl rfl) (by omega) (by omega)) (co rfl (As 0 rfl (Ae rfl Aw AH (vl rfl) (Aa (f:=AL) (fun _=>rfl) (by omega)) rfl)) (cm rfl (cm rfl (cm rfl (MM rfl rfl rfl rfl (by omega) (co rfl (AA rfl underlying63 AH (vl rfl) (vl rfl) (by omega) (by omega)) (co rfl (As 0 rfl (Ae rfl Aw AH (vl rfl) (Aa (f:=AL) (fun _=>rfl) (by omega)) rfl)) (co rfl (A9 (_,_) rfl (vl rfl) ⟨ke rfl,ke rfl,trivial⟩) (co rfl (ki rfl rfl rfl rfl) (co rfl (Dt rfl (vl rfl)) (Ch.nil (Fin.go ?_)))))))))))))
 refine Ea 0 2 3 4 10 11 58 rfl ?_
 refine Tr.cn rfl ?_ ?_<;>intro h5 q5
 refine Tr.ret (Fin.AF (Fin.AK (Fin.AF (Fin.AK ?_))))
 refine Fin.Bl (Gl c hi first lo l) 0 rfl (⟨by omega,by rw [←DQ];exact Js Su hf (by omega) (u:=first+(2*r+1)) (v:=first+(2*r+1)+1) rfl rfl (by omega) (by omega) (Int.not_lt.2 (by assumption)) (x:=first+r) (y:=first+(2*r+1)) rfl rfl (by omega) (by omega) (Int.not_lt.2 (by assumption))⟩) ?_
 exact Fin.Ef rfl
 refine Tr.skip (Fin.go (Tr.seq (Tr.Dv mixed [none,none,none,none,none,none,none,none,none,none,none,none,none,some (0,0,false,0),none,none,none,none,none,some (0,0,false,0),none,some (0,0,true,0),none,some (0,0,true,0)] (by kernel_rfl) (xm rfl (xm rfl (xm rfl ?_))))))
 refine xo rfl (fun _=>BR rfl (vl rfl) (vl rfl) ?hin) ?_;case hin=>unfold C7;omega
 refine xm rfl (xm rfl (xm rfl ?_))
 refine xo rfl (fun _=>BR rfl (vl rfl) (vl rfl) ?hin) ?_;case hin=>unfold C7;omega
 refine xm rfl (xm rfl (xm rfl ?_))
 refine xo rfl (fun _=>BR rfl (vl rfl) (vl rfl) ?hin) ?_;case hin=>unfold C7;omega
 refine xo rfl (fun _=>AA rfl underlying63 AH (vl rfl) (vl rfl) (by omega) (by omega)) (C0 0 rfl rfl (Ae rfl Aw AH (vl rfl) (Aa (f:=AL) (fun _=>rfl) (by omega)) rfl) (xm rfl (xm rfl (xm rfl ?_))))
 refine xo rfl (fun _=>BR rfl (vl rfl) (vl rfl) ?hin) ?_;case hin=>unfold C7;omega
 refine xo rfl (fun _=>AA rfl underlying63 AH (vl rfl) (vl rfl) (by omega) (by omega)) (C0 0 rfl rfl (Ae rfl Aw AH (vl rfl) (Aa (f:=AL) (fun _=>rfl) (by omega)) rfl) (xo rfl (fun _=>AA rfl underlying63 AH (vl rfl) (vl rfl) (by omega) (by omega)) ?_))
 refine Cx.CY 0 rfl rfl (AW rfl rfl (vl rfl) (Va rfl) AH rfl (by rw [AV (sz:=8) (fun _=>rfl)];omega) (AQ (f:=AL) (fun _=>rfl) (by omega))) ?_
 refine xo rfl (fun _=>AA rfl underlying63 AH (vl rfl) (vl rfl) (by omega) (by omega)) ?_
 refine Cx.CY 0 rfl rfl (AW rfl rfl (vl rfl) (Va rfl) AH rfl (by rw [AV (sz:=8) (fun _=>rfl)];simp only [List.length_set];omega) (AQ (f:=AL) (fun _=>rfl) (by simp only [List.length_set];omega))) ?_
 refine Cx.nil ⟨rfl,?_⟩
 refine BP.done (BG.cons (BG.cons (BG.map _))) (Fin.go (EL 0 2 3 4 11 rfl (Tr.Ax (cm rfl (cm rfl (Ch.nil (Fin.block ?_)))))))
 exact Fin.BW (2*r+1) (_)  (⟨⟨⟨by omega,by omega⟩,by simp only [List.length_set];exact Gp,by rw [←DQ];exact MY Su hf (by omega) (u:=first+(2*r+1)) (v:=first+(2*r+1)+1) rfl rfl (by omega) (by omega) (Int.not_lt.2 (by assumption)) (by omega) (by omega) (by omega) (by omega) (by assumption)⟩,by omega⟩) ⟨ke rfl,ke rfl,ke rfl,ke rfl,ke rfl,trivial⟩ (fun _ _ h=>h)
 iterate 16 refine cnt h2 rfl ?_
 refine co rfl (JE rfl rfl h2 rfl) (Ch.nil (Fin.go (Ea 0 2 3 4 10 11 40 rfl (Tr.cond rfl (fun h=>nomatch h) (fun _=> ?_)))))
 refine Tr.skip (Fin.go (Tr.seq (Tr.seq (Tr.HT mixed (by kernel_rfl) ?_))))
 iterate 4 refine cm rfl ?_
 refine MM rfl rfl rfl rfl (by omega) (co rfl (AA rfl underlying63 AH (vl rfl) (vl rfl) (by omega) (by omega)) (co rfl (As 0 rfl (Ae rfl Aw AH (vl rfl) (Aa (f:=AL) (fun _=>rfl) (by omega)) rfl)) (cm rfl (cm rfl (cm rfl (MM rfl rfl rfl rfl (by omega) (co rfl (AA rfl underlying63 AH (vl rfl) (vl rfl) (by omega) (by omega)) (co rfl (As 0 rfl (Ae rfl Aw AH (vl rfl) (Aa (f:=AL) (fun _=>rfl) (by omega)) rfl)) (co rfl (A9 (_,_) rfl (vl rfl) ⟨ke rfl,ke rfl,trivial⟩) (co rfl (ki rfl rfl rfl rfl) (co rfl (Dt rfl (vl rfl)) (Ch.nil (Fin.go ?_)))))))))))))
 refine Ea 0 2 3 4 10 11 58 rfl ?_
 refine Tr.cn rfl ?_ ?_<;>intro h6 q6
 refine Tr.ret (Fin.AF (Fin.AK (Fin.AF (Fin.AK ?_))))
 refine Fin.Bl (Gl c hi first lo l) 0 rfl (⟨by omega,by rw [←DQ];exact Jr Su hf (by omega) (by omega) (x:=first+r) (y:=first+(2*r+1)) rfl rfl (by omega) (by omega) (Int.not_lt.2 (by assumption))⟩) ?_
 exact Fin.Ef rfl
 refine Tr.skip (Fin.go (Tr.seq (Tr.Dv mixed [none,none,none,none,none,none,none,none,none,none,none,none,none,some (0,0,false,0),none,none,none,none,none,some (0,0,false,0),none,some (0,0,true,0),none,some (0,0,true,0)] (by kernel_rfl) (xm rfl (xm rfl (xm rfl ?_))))))
 refine xo rfl (fun _=>BR rfl (vl rfl) (vl rfl) ?hin) ?_;case hin=>unfold C7;omega
 refine xm rfl (xm rfl (xm rfl ?_))
 refine xo rfl (fun _=>BR rfl (vl rfl) (vl rfl) ?hin) ?_;case hin=>unfold C7;omega
 refine xm rfl (xm rfl (xm rfl ?_))
 refine xo rfl (fun _=>BR rfl (vl rfl) (vl rfl) ?hin) ?_;case hin=>unfold C7;omega
 refine xo rfl (fun _=>AA rfl underlying63 AH (vl rfl) (vl rfl) (by omega) (by omega)) (C0 0 rfl rfl (Ae rfl Aw AH (vl rfl) (Aa (f:=AL) (fun _=>rfl) (by omega)) rfl) (xm rfl (xm rfl (xm rfl ?_))))
 refine xo rfl (fun _=>BR rfl (vl rfl) (vl rfl) ?hin) ?_;case hin=>unfold C7;omega
 refine xo rfl (fun _=>AA rfl underlying63 AH (vl rfl) (vl rfl) (by omega) (by omega)) (C0 0 rfl rfl (Ae rfl Aw AH (vl rfl) (Aa (f:=AL) (fun _=>rfl) (by omega)) rfl) (xo rfl (fun _=>AA rfl underlying63 AH (vl rfl) (vl rfl) (by omega) (by omega)) ?_))
 refine Cx.CY 0 rfl rfl (AW rfl rfl (vl rfl) (Va rfl) AH rfl (by rw [AV (sz:=8) (fun _=>rfl)];omega) (AQ (f:=AL) (fun _=>rfl) (by omega))) ?_
 refine xo rfl (fun _=>AA rfl underlying63 AH (vl rfl) (vl rfl) (by omega) (by omega)) ?_
 refine Cx.CY 0 rfl rfl (AW rfl rfl (vl rfl) (Va rfl) AH rfl (by rw [AV (sz:=8) (fun _=>rfl)];simp only [List.length_set];omega) (AQ (f:=AL) (fun _=>rfl) (by simp only [List.length_set];omega))) ?_
 refine Cx.nil ⟨rfl,?_⟩
 refine BP.done (BG.cons (BG.cons (BG.map _))) (Fin.go (EL 0 2 3 4 11 rfl (Tr.Ax (cm rfl (cm rfl (Ch.nil (Fin.block ?_)))))))
 exact Fin.BW (2*r+1) (_)  (⟨⟨⟨by omega,by omega⟩,by simp only [List.length_set];exact Gp,by rw [←DQ];exact MX Su hf (by omega) (by omega) (by omega) (by omega) (by omega) (by omega) (by assumption)⟩,by omega⟩) ⟨ke rfl,ke rfl,ke rfl,ke rfl,ke rfl,trivial⟩ (fun _ _ h=>h)
theorem VP {l:List BF} {c:BF×BF→Int} {b0 cap len:Nat} {sp:List Value} {a b:Int} (Ep:l.length=len) (Gn:len≤1000000) (hw:Go.Sort.SWO (Bp c)) (h0:0≤a) (hab:a≤b) (hb:b≤len):BQ prog 175 [is (.slice (some ⟨b0,0,none⟩) len cap),int a,int b,Gh prog (fun x:BF×BF=>[agg (AL x.1),agg (AL x.2)]) (fun x=>int (c x))] (CC) (AD true b0 110 ((l.map AL).flatten++sp.map is)) (fun _=>Bw b0 110 AL (CS c a b l) (sp.map is)):=by
 refine BQ.of func175 rfl rfl (by exact Nb rfl) fun M0 w0 S rs M1 w1=> ?_
 have hq:IntKind.i64.wrap ((b-a-1).tdiv 2)=(((b.toNat-a.toNat-1)/2:Nat):Int):=Md (by omega) (by omega) (by omega)
 iterate 4 refine ac ?_
 refine co rfl (CX rfl (vl rfl) (vl rfl) (by omega)) ?_
 refine ac ?_
 refine Tr.block (Tr.CU [(0,_),(3,_),(8,_),(9,_),(10,_)] ⟨ke rfl,ke rfl,ke rfl,ke rfl,ke rfl,trivial⟩ (fun (i:Int) (st:List BF)=>[(11,int i)]) (fun (i:Int) (st:List BF)=>Hp M0 w0 S (AD true b0 110 ((st.map AL).flatten++sp.map is)::Ai M1 w1::rs)) (fun (i:Int) (st:List BF)=>(-1≤i∧i≤b-a)∧st.length=len∧Go.Sort.heapBuild (Bp c) (b-a).toNat a.toNat (i+1).toNat st.toArray=Go.Sort.heapBuild (Bp c) (b-a).toNat a.toNat ((b.toNat-a.toNat-1)/2+1) l.toArray) (fun (i:Int) (st:List BF)=>(i+1).toNat) ((((b.toNat-a.toNat-1)/2:Nat):Int)) (l)  (⟨⟨by omega,by omega⟩,by omega,by rw [show ((((b.toNat-a.toNat-1)/2:Nat):Int)+1).toNat=(b.toNat-a.toNat-1)/2+1 by omega]⟩) ⟨⟨_,rfl,int_eq hq⟩,trivial⟩ (fun _ _ h=>h) ?_)
 rintro i st  ⟨⟨hi1,hi2⟩,Gp,DQ⟩
 refine an ?_ ?_<;>intro h1 q1
 have hib:0≤i:=of_decide_eq_true h1
 refine ac ?_
 refine ap ?_
 refine TO.DB 0 rfl rfl (by decide) (AU rfl rfl (by decide) rfl (PD (by omega) (by omega) (by omega) (by omega) (by omega) (by omega)) ⟨ke rfl,ke rfl,ke rfl,ke rfl,ke rfl,trivial⟩) (TO.B9 0 rfl fun t1 Fo=> ?_)
 have HW:=Fo.len
 refine ap ?_
 refine EZ 0 3 8 9 10 11 rfl ?_
 refine ac ?_
 exact Fin.BW (i-1) (t1)  (⟨⟨⟨by omega,by omega⟩,by omega,by rw [Fo.2];exact (Oc hib).trans DQ⟩,by omega⟩) ⟨ke rfl,ke rfl,ke rfl,ke rfl,ke rfl,ke rfl,trivial⟩ (fun _ _ h=>h)
 have hib:¬0≤i:=of_decide_eq_false h1
 rw [MZ hib] at DQ
 refine a2 ?_
 refine Tr.block (Tr.CU [(0,_),(3,_),(8,_),(9,_)] ⟨ke rfl,ke rfl,ke rfl,ke rfl,trivial⟩ (fun (i2:Int) (D5:List BF)=>[(12,int i2)]) (fun (i2:Int) (D5:List BF)=>Hp M0 w0 S (AD true b0 110 ((D5.map AL).flatten++sp.map is)::Ai M1 w1::rs)) (fun (i2:Int) (D5:List BF)=>(-1≤i2∧i2<b-a)∧D5.length=len∧Go.Sort.heapPop (Bp c) a.toNat (i2+1).toNat D5.toArray=Go.Sort.heapPop (Bp c) a.toNat (b-a).toNat st.toArray) (fun (i2:Int) (D5:List BF)=>(i2+1).toNat) (b-a-1) (st)  (⟨⟨by omega,by omega⟩,by omega,by rw [show (b-a-1+1).toNat=(b-a).toNat by omega]⟩) ⟨ke rfl,trivial⟩ (fun _ _ h=>h) ?_)
 rintro i2 D5  ⟨⟨TT,hj2⟩,Lb,IB⟩
 refine an ?_ ?_<;>intro h2 q2
 have Qe:0≤i2:=of_decide_eq_true h2
 refine ac ?_
 refine Tr.seq (Tr.block (Tr.seq (Tr.rx ?_)))
 refine ay ?_
 refine xo rfl (fun _=>AA rfl underlying63 AH (vl rfl) (vl rfl) (by omega) (by omega)) (C0 0 rfl rfl (Ae rfl Aw AH (vl rfl) (Aa (f:=AL) (fun _=>rfl) (by omega)) rfl) ?_)
 refine ay ?_
 refine xo rfl (fun _=>AA rfl underlying63 AH (vl rfl) (vl rfl) (by omega) (by omega)) (C0 0 rfl rfl (Ae rfl Aw AH (vl rfl) (Aa (f:=AL) (fun _=>rfl) (by omega)) rfl) (xo rfl (fun _=>AA rfl underlying63 AH (vl rfl) (vl rfl) (by omega) (by omega)) ?_))
 refine Cx.CY 0 rfl rfl (AW rfl rfl (vl rfl) (Va rfl) AH rfl (by rw [AV (sz:=8) (fun _=>rfl)];omega) (AQ (f:=AL) (fun _=>rfl) (by omega))) ?_
 refine xo rfl (fun _=>AA rfl underlying63 AH (vl rfl) (vl rfl) (by omega) (by omega)) ?_
 refine Cx.CY 0 rfl rfl (AW rfl rfl (vl rfl) (Va rfl) AH rfl (by rw [AV (sz:=8) (fun _=>rfl)];simp only [List.length_set];omega) (AQ (f:=AL) (fun _=>rfl) (by simp only [List.length_set];omega))) ?_
 refine Cx.nil ⟨by kernel_rfl,?_⟩
 refine BP.done Ic (Fin.go (EL 0 3 8 9 12 rfl ?_))
 refine ap ?_
 refine TO.DB 0 rfl rfl (by decide) (AU rfl rfl (by decide) rfl (PD (by simp only [List.length_set];omega) (by omega) (by omega) (by omega) (by omega) (by omega)) ⟨ke rfl,ke rfl,ke rfl,ke rfl,ke rfl,trivial⟩) ?_
 refine TO.B9 0 rfl fun t2 Jq=> ?_
 have Qf:=Jq.len
 refine ap ?_
 refine ac ?_
 exact Fin.BW (i2-1) (t2)  (⟨⟨⟨by omega,by omega⟩,by simp only [List.length_set] at Qf;omega,by rw [Jq.2,sw (by omega) (by omega),show (a+i2).toNat=a.toNat+i2.toNat by omega];exact (UE Qe).trans IB⟩,by omega⟩) ⟨ke rfl,ke rfl,ke rfl,ke rfl,ke rfl,trivial⟩ (fun _ _ h=>h)
 have Qe:¬0≤i2:=of_decide_eq_false h2
 rw [RR Qe] at IB
 refine Tr.exit (Fin.AG (Fin.AG (Fin.AP ?_)))
 refine Fin.Bl (CS c a b l) 0 rfl (by unfold CS;rw [IB,DQ];exact heap_holds hw l.toArray h0 hab (by simp only [List.size_toArray];omega)) ?_
 exact Fin.FY rfl
theorem X0 {l:List BF} {c:BF×BF→Int} {b0 cap len:Nat} {sp:List Value} {a b:Int} (Ep:l.length=len) (Gn:len≤1000000) (h0:0≤a) (hab:a<b) (hb:b≤len):BQ prog 178 [is (.slice (some ⟨b0,0,none⟩) len cap),int a,int b,Gh prog (fun x:BF×BF=>[agg (AL x.1),agg (AL x.2)]) (fun x=>int (c x))] (CC) (AD true b0 110 ((l.map AL).flatten++sp.map is)) (fun _=>Bw b0 110 AL (B6 a b l) (sp.map is)):=by
 refine BQ.of func178 rfl rfl (by exact Nb rfl) fun M0 w0 S rs M1 w1=> ?_
 refine a2 ?_
 refine Tr.block (Tr.Dy [(0,_)] ⟨ke rfl,trivial⟩ (fun (i:Int) (j:Int) (st:List BF)=>[(8,int i),(9,int j)]) (fun (i:Int) (j:Int) (st:List BF)=>Hp M0 w0 S (AD true b0 110 ((st.map AL).flatten++sp.map is)::Ai M1 w1::rs)) (fun (i:Int) (j:Int) (st:List BF)=>(a≤i∧j<b∧ -1≤j∧i≤b)∧st.length=len∧B6 a b l st) (fun (i:Int) (j:Int) (st:List BF)=>(j-i).toNat) (a) (b-1) (l)  (⟨⟨by omega,by omega,by omega,by omega⟩,by omega,B6.refl _ _ _⟩) ⟨ke rfl,ke rfl,trivial⟩ (fun _ _ h=>h) ?_)
 rintro i j st  ⟨⟨hi1,hi2,kJ,hi4⟩,Gp,DQ⟩
 refine an ?_ ?_<;>intro h1 q1
 have hij:i<j:=of_decide_eq_true h1
 refine ac ?_
 refine Tr.block (Tr.seq (Tr.rx ?_))
 refine ay ?_
 refine xo rfl (fun _=>AA rfl underlying63 AH (vl rfl) (vl rfl) (by omega) (by omega)) (C0 0 rfl rfl (Ae rfl Aw AH (vl rfl) (Aa (f:=AL) (fun _=>rfl) (by omega)) rfl) ?_)
 refine ay ?_
 refine xo rfl (fun _=>AA rfl underlying63 AH (vl rfl) (vl rfl) (by omega) (by omega)) (C0 0 rfl rfl (Ae rfl Aw AH (vl rfl) (Aa (f:=AL) (fun _=>rfl) (by omega)) rfl) (xo rfl (fun _=>AA rfl underlying63 AH (vl rfl) (vl rfl) (by omega) (by omega)) ?_))
 refine Cx.CY 0 rfl rfl (AW rfl rfl (vl rfl) (Va rfl) AH rfl (by rw [AV (sz:=8) (fun _=>rfl)];omega) (AQ (f:=AL) (fun _=>rfl) (by omega))) ?_
 refine xo rfl (fun _=>AA rfl underlying63 AH (vl rfl) (vl rfl) (by omega) (by omega)) ?_
 refine Cx.CY 0 rfl rfl (AW rfl rfl (vl rfl) (Va rfl) AH rfl (by rw [AV (sz:=8) (fun _=>rfl)];simp only [List.length_set];omega) (AQ (f:=AL) (fun _=>rfl) (by simp only [List.length_set];omega))) ?_
 refine Cx.nil ⟨by kernel_rfl,?_⟩
 refine BP.done Ic (Fin.go (Py 0 8 9 rfl ?_))
 refine a2 ?_
 exact Fin.Cj (i+1) (j-1) (_)  (⟨⟨⟨by omega,by omega,by omega,by omega⟩,by simp only [List.length_set];exact Gp,DQ.swap (by omega) (by omega) (by omega) (by omega) (by omega) (by omega) (by omega)⟩,by omega⟩) ⟨ke rfl,ke rfl,ke rfl,trivial⟩ (fun _ _ h=>h)
 have:=h1
 refine Tr.exit (Fin.AG (Fin.AG (Fin.AP (Fin.Bl (B6 a b l) 0 rfl (DQ) (Fin.FY rfl)))))
theorem X1 {l:List BF} {c:BF×BF→Int} {b0 cap len:Nat} {sp:List Value} {a b pv:Int} (Ep:l.length=len) (Gn:len≤1000000) (h0:0≤a) (hab:a<b) (hb:b≤len) (Fo:a≤pv) (Jq:pv<b):BQ prog 180 [is (.slice (some ⟨b0,0,none⟩) len cap),int a,int b,int pv,Gh prog (fun x:BF×BF=>[agg (AL x.1),agg (AL x.2)]) (fun x=>int (c x))] (int ((PE c a b pv l).1:Nat)) (AD true b0 110 ((l.map AL).flatten++sp.map is)) (fun _=>Bw b0 110 AL (K_ c a b pv l) (sp.map is)):=by
 refine BQ.of func180 rfl rfl (by exact Nb rfl) fun M0 w0 S rs M1 w1=> ?_
 have E8:a.toNat<l.length:=by omega
 have D7:pv.toNat<l.length:=by omega
 refine ac ?_
 refine Tr.seq (Tr.rx ?_)
 refine ay ?_
 refine xo rfl (fun _=>AA rfl underlying63 AH (vl rfl) (vl rfl) (by omega) (by omega)) (C0 0 rfl rfl (Ae rfl Aw AH (vl rfl) (Aa (f:=AL) (fun _=>rfl) (by omega)) rfl) ?_)
 refine ay ?_
 refine xo rfl (fun _=>AA rfl underlying63 AH (vl rfl) (vl rfl) (by omega) (by omega)) (C0 0 rfl rfl (Ae rfl Aw AH (vl rfl) (Aa (f:=AL) (fun _=>rfl) (by omega)) rfl) (xo rfl (fun _=>AA rfl underlying63 AH (vl rfl) (vl rfl) (by omega) (by omega)) ?_))
 refine Cx.CY 0 rfl rfl (AW rfl rfl (vl rfl) (Va rfl) AH rfl (by rw [AV (sz:=8) (fun _=>rfl)];omega) (AQ (f:=AL) (fun _=>rfl) (by omega))) ?_
 refine xo rfl (fun _=>AA rfl underlying63 AH (vl rfl) (vl rfl) (by omega) (by omega)) ?_
 refine Cx.CY 0 rfl rfl (AW rfl rfl (vl rfl) (Va rfl) AH rfl (by rw [AV (sz:=8) (fun _=>rfl)];simp only [List.length_set];omega) (AQ (f:=AL) (fun _=>rfl) (by simp only [List.length_set];omega))) ?_
 refine Cx.nil ⟨by kernel_rfl,?_⟩
 refine BP.done Ic (Fin.go (Dp 0 1 2 4 rfl ?_))
 refine ac ?_
 refine Tr.seq (Tr.block ?_)
 refine Tr.Dy [(0,_),(1,_),(4,_)] ⟨ke rfl,ke rfl,ke rfl,trivial⟩ (fun (i:Int) (j:Int) (st:List BF)=>[(11,int i),(12,int j)]) (fun (i:Int) (j:Int) (st:List BF)=>Hp M0 w0 S (AD true b0 110 ((st.map AL).flatten++sp.map is)::Ai M1 w1::rs)) (fun (i:Int) (j:Int) (st:List BF)=>((a<i∧i≤b)∧a≤j∧j<b)∧st.length=len∧Yl c a i j st.toArray=PE c a b pv l) (fun (i:Int) (j:Int) (st:List BF)=>(j-i+2).toNat) (a+1) (b-1) (((l.set a.toNat (l[pv.toNat]'D7)).set pv.toNat (l[a.toNat]'E8)))  (⟨⟨⟨by omega,by omega⟩,by omega,by omega⟩,by simp only [List.length_set];exact Ep,Od h0 hab E8 D7⟩) ⟨ke rfl,ke rfl,trivial⟩ (fun _ _ h=>h) ?_
 rintro i j st  ⟨⟨⟨hi1,hi2⟩,TT,hj2⟩,Gp,DQ⟩
 refine Tr.block (EL 0 1 4 11 12 rfl (Tr.Gr [0,1,4,12] [(11,ex fun y:Int=>fact ((i≤y∧y≤b)∧True∧y.toNat=Go.Sort.scanUp (qU c st.toArray a) st.toArray (j).toNat (i).toNat) (int y))] (True) ?_ (fun h1=> ?_)))
 refine Tr.block (Tr.BU [(0,_),(1,_),(4,_),(12,_)] (KH rfl) (fun y:Int=>[(11,int y)]) (fun y:Int=>(i≤y∧y≤b)∧Go.Sort.scanUp (qU c st.toArray a) st.toArray (j).toNat (y).toNat=Go.Sort.scanUp (qU c st.toArray a) st.toArray (j).toNat (i).toNat) (fun y:Int=>(b-y).toNat) i (⟨⟨by omega,by omega⟩,rfl⟩) ⟨ke rfl,trivial⟩ ?_)
 rintro y ⟨⟨PF,PG⟩,DE⟩
 refine ag ?_ ?_<;>intro h2 q2
 refine ac ?_
 refine cy h2 rfl (AA rfl underlying63 AH (vl rfl) (vl rfl) (by omega) (by omega)) (cy h2 rfl (As 0 rfl (Ae rfl Aw AH (vl rfl) (Aa (f:=AL) (fun _=>rfl) (by omega)) rfl)) ?_)
 refine ac ?_
 refine cy h2 rfl (AA rfl underlying63 AH (vl rfl) (vl rfl) (by omega) (by omega)) (cy h2 rfl (As 0 rfl (Ae rfl Aw AH (vl rfl) (Aa (f:=AL) (fun _=>rfl) (by omega)) rfl)) (cy h2 rfl (A9 (_,_) rfl (vl rfl) ⟨ke rfl,ke rfl,trivial⟩) ?_))
 refine ac ?_
 refine EZ 0 1 4 11 12 47 rfl ?_
 refine Tr.cn rfl ?_ ?_<;>intro h3 q3
 have:=h3
 refine a2 ?_
 exact Fin.AE (y+1) ⟨⟨⟨by omega,by omega⟩,by rw [Me (by omega) (by omega) (by omega) (dL (by omega) (by omega) (Int.not_lt.2 (by assumption)))];exact DE⟩,by omega⟩ (TR rfl)
 have:=h3
 refine Tr.exit (Fin.AG (Fin.AG (Fin.AP ?_)))
 exact Fin.AE () trivial ⟨⟨_,rfl,BD _ (Aj ⟨⟨by omega,by omega⟩,trivial,by rw [←DE];exact (F5 (by omega) (dM (by omega) (by omega) (by assumption))).symm⟩ (Lr))⟩,ke rfl,ke rfl,ke rfl,ke rfl,trivial⟩
 refine ac ?_
 refine EZ 0 1 4 11 12 47 rfl (Tr.cond rfl (fun h=>nomatch h) (fun _=> ?_))
 refine Tr.exit (Fin.AG (Fin.AG (Fin.AP ?_)))
 exact Fin.AE () trivial ⟨⟨_,rfl,BD _ (Aj ⟨⟨by omega,by omega⟩,trivial,by rw [←DE];exact (F4 (by omega) (by omega)).symm⟩ (Lr))⟩,ke rfl,ke rfl,ke rfl,ke rfl,trivial⟩
 refine Tr.ex 11 rfl (fun i2=>Tr.fact 11 rfl fun Qg=> ?_)
 obtain ⟨VQ,VR,FD⟩:=Qg
 refine EL 0 1 4 11 12 rfl (Tr.Gr [0,1,4,11] [(12,ex fun y:Int=>fact ((a≤y∧y≤j)∧True∧y.toNat=Go.Sort.scanDown (qD c st.toArray a) st.toArray (i2).toNat (j).toNat) (int y))] (True) ?_ (fun h4=> ?_))
 refine Tr.block (Tr.BU [(0,_),(1,_),(4,_),(11,_)] (KH rfl) (fun y:Int=>[(12,int y)]) (fun y:Int=>(a≤y∧y≤j)∧Go.Sort.scanDown (qD c st.toArray a) st.toArray (i2).toNat (y).toNat=Go.Sort.scanDown (qD c st.toArray a) st.toArray (i2).toNat (j).toNat) (fun y:Int=>(y-a).toNat) j (⟨⟨by omega,by omega⟩,rfl⟩) ⟨ke rfl,trivial⟩ ?_)
 rintro y ⟨⟨PI,PJ⟩,DF⟩
 refine ag ?_ ?_<;>intro h5 q5
 refine ac ?_
 refine cy h5 rfl (AA rfl underlying63 AH (vl rfl) (vl rfl) (by omega) (by omega)) (cy h5 rfl (As 0 rfl (Ae rfl Aw AH (vl rfl) (Aa (f:=AL) (fun _=>rfl) (by omega)) rfl)) ?_)
 refine ac ?_
 refine cy h5 rfl (AA rfl underlying63 AH (vl rfl) (vl rfl) (by omega) (by omega)) (cy h5 rfl (As 0 rfl (Ae rfl Aw AH (vl rfl) (Aa (f:=AL) (fun _=>rfl) (by omega)) rfl)) (cy h5 rfl (A9 (_,_) rfl (vl rfl) ⟨ke rfl,ke rfl,trivial⟩) ?_))
 refine ac ?_
 refine EZ 0 1 4 11 12 65 rfl ?_
 refine Tr.cn rfl ?_ ?_<;>intro h6 q6
 have:=h6
 refine a2 ?_
 exact Fin.AE (y-1) ⟨⟨⟨by omega,by omega⟩,by rw [Mf (by omega) (by omega) (by omega) (dN (by omega) (by omega) (by assumption))];exact DF⟩,by omega⟩ (TR rfl)
 have:=h6
 refine Tr.exit (Fin.AG (Fin.AG (Fin.AP ?_)))
 exact Fin.AE () trivial ⟨⟨_,rfl,BD _ (Aj ⟨⟨by omega,by omega⟩,trivial,by rw [←DF];exact (F7 (by omega) (dO (by omega) (by omega) (Int.not_lt.2 (by assumption)))).symm⟩ (Lr))⟩,ke rfl,ke rfl,ke rfl,ke rfl,trivial⟩
 refine ac ?_
 refine EZ 0 1 4 11 12 65 rfl (Tr.cond rfl (fun h=>nomatch h) (fun _=> ?_))
 refine Tr.exit (Fin.AG (Fin.AG (Fin.AP ?_)))
 exact Fin.AE () trivial ⟨⟨_,rfl,BD _ (Aj ⟨⟨by omega,by omega⟩,trivial,by rw [←DF];exact (F6 (by omega) (by omega)).symm⟩ (Lr))⟩,ke rfl,ke rfl,ke rfl,ke rfl,trivial⟩
 refine Tr.ex 12 rfl (fun j2=>Tr.fact 12 rfl fun Qh=> ?_)
 obtain ⟨VS,VT,FE⟩:=Qh
 refine an ?_ ?_<;>intro h7 q7
 refine a2 ?_
 refine Tr.ret (Fin.Bl (K_ c a b pv l) 0 rfl (⟨by omega,by rw [DQ.symm.trans (IZ FD FE (by omega) (by omega))]⟩) ?_)
 have hE:=DQ.symm.trans (IZ FD FE (by omega) (by omega))
 refine Fin.Ca rfl rfl ?_ (fun _ _ _ _=>rfl)
 · exact int_eq (by rw [hE];show i2=((i2.toNat:Nat):Int);omega)
 refine ac ?_
 refine Tr.seq (Tr.rx ?_)
 refine ay ?_
 refine xo rfl (fun _=>AA rfl underlying63 AH (vl rfl) (vl rfl) (by omega) (by omega)) (C0 0 rfl rfl (Ae rfl Aw AH (vl rfl) (Aa (f:=AL) (fun _=>rfl) (by omega)) rfl) ?_)
 refine ay ?_
 refine xo rfl (fun _=>AA rfl underlying63 AH (vl rfl) (vl rfl) (by omega) (by omega)) (C0 0 rfl rfl (Ae rfl Aw AH (vl rfl) (Aa (f:=AL) (fun _=>rfl) (by omega)) rfl) (xo rfl (fun _=>AA rfl underlying63 AH (vl rfl) (vl rfl) (by omega) (by omega)) ?_))
 refine Cx.CY 0 rfl rfl (AW rfl rfl (vl rfl) (Va rfl) AH rfl (by rw [AV (sz:=8) (fun _=>rfl)];omega) (AQ (f:=AL) (fun _=>rfl) (by omega))) ?_
 refine xo rfl (fun _=>AA rfl underlying63 AH (vl rfl) (vl rfl) (by omega) (by omega)) ?_
 refine Cx.CY 0 rfl rfl (AW rfl rfl (vl rfl) (Va rfl) AH rfl (by rw [AV (sz:=8) (fun _=>rfl)];simp only [List.length_set];omega) (AQ (f:=AL) (fun _=>rfl) (by simp only [List.length_set];omega))) ?_
 refine Cx.nil ⟨by kernel_rfl,?_⟩
 refine BP.done Ic (Fin.go (EL 0 1 4 11 12 rfl ?_))
 refine a2 ?_
 exact Fin.Cj (i2+1) (j2-1) (_)  (⟨⟨⟨⟨by omega,by omega⟩,by omega,by omega⟩,by simp only [List.length_set];exact Gp,(UG FD FE (by omega) (by omega) (by omega) (by omega)).trans DQ⟩,by omega⟩) ⟨ke rfl,ke rfl,ke rfl,ke rfl,ke rfl,trivial⟩ (fun _ _ h=>h)
theorem PK {l:List BF} {c:BF×BF→Int} {b0 cap len:Nat} {sp:List Value} {a b pv:Int} (Ep:l.length=len) (Gn:len≤1000000) (h0:0≤a) (hab:a<b) (hb:b≤len) (Fo:a≤pv) (Jq:pv<b):BQ prog 181 [is (.slice (some ⟨b0,0,none⟩) len cap),int a,int b,int pv,Gh prog (fun x:BF×BF=>[agg (AL x.1),agg (AL x.2)]) (fun x=>int (c x))] (ex fun z:Bool=>fact True (DT [int ((PA c a b pv l).1:Nat),bool z])) (AD true b0 110 ((l.map AL).flatten++sp.map is)) (fun _=>Bw b0 110 AL (Ia c a b pv l) (sp.map is)):=by
 refine BQ.of func181 rfl rfl (by exact Nb rfl) fun M0 w0 S rs M1 w1=> ?_
 have E8:a.toNat<l.length:=by omega
 have D7:pv.toNat<l.length:=by omega
 have hS1:((l.set a.toNat (l[pv.toNat]'D7)).set pv.toNat (l[a.toNat]'E8)).length=len:=by simp only [List.length_set];exact Ep
 refine ac ?_
 refine Tr.seq (Tr.rx ?_)
 refine ay ?_
 refine xo rfl (fun _=>AA rfl underlying63 AH (vl rfl) (vl rfl) (by omega) (by omega)) (C0 0 rfl rfl (Ae rfl Aw AH (vl rfl) (Aa (f:=AL) (fun _=>rfl) (by omega)) rfl) ?_)
 refine ay ?_
 refine xo rfl (fun _=>AA rfl underlying63 AH (vl rfl) (vl rfl) (by omega) (by omega)) (C0 0 rfl rfl (Ae rfl Aw AH (vl rfl) (Aa (f:=AL) (fun _=>rfl) (by omega)) rfl) (xo rfl (fun _=>AA rfl underlying63 AH (vl rfl) (vl rfl) (by omega) (by omega)) ?_))
 refine Cx.CY 0 rfl rfl (AW rfl rfl (vl rfl) (Va rfl) AH rfl (by rw [AV (sz:=8) (fun _=>rfl)];omega) (AQ (f:=AL) (fun _=>rfl) (by omega))) ?_
 refine xo rfl (fun _=>AA rfl underlying63 AH (vl rfl) (vl rfl) (by omega) (by omega)) ?_
 refine Cx.CY 0 rfl rfl (AW rfl rfl (vl rfl) (Va rfl) AH rfl (by rw [AV (sz:=8) (fun _=>rfl)];simp only [List.length_set];omega) (AQ (f:=AL) (fun _=>rfl) (by simp only [List.length_set];omega))) ?_
 refine Cx.nil ⟨by kernel_rfl,?_⟩
 refine BP.done Ic (Fin.go (Dp 0 1 2 4 rfl ?_))
 refine ac ?_
 refine EL 0 1 4 12 13 rfl (Tr.Gr [0,1,4,13] [(12,ex fun y:Int=>fact (((a+1)≤y∧y≤b)∧True∧y.toNat=Go.Sort.scanUp (pU c ((l.set a.toNat (l[pv.toNat]'D7)).set pv.toNat (l[a.toNat]'E8)).toArray a) ((l.set a.toNat (l[pv.toNat]'D7)).set pv.toNat (l[a.toNat]'E8)).toArray ((b-1)).toNat ((a+1)).toNat) (int y))] (True) ?_ (fun h1=> ?_))
 refine Tr.block (Tr.BU [(0,_),(1,_),(4,_),(13,_)] (KH rfl) (fun y:Int=>[(12,int y)]) (fun y:Int=>((a+1)≤y∧y≤b)∧Go.Sort.scanUp (pU c ((l.set a.toNat (l[pv.toNat]'D7)).set pv.toNat (l[a.toNat]'E8)).toArray a) ((l.set a.toNat (l[pv.toNat]'D7)).set pv.toNat (l[a.toNat]'E8)).toArray ((b-1)).toNat (y).toNat=Go.Sort.scanUp (pU c ((l.set a.toNat (l[pv.toNat]'D7)).set pv.toNat (l[a.toNat]'E8)).toArray a) ((l.set a.toNat (l[pv.toNat]'D7)).set pv.toNat (l[a.toNat]'E8)).toArray ((b-1)).toNat ((a+1)).toNat) (fun y:Int=>(b-y).toNat) (a+1) (⟨⟨by omega,by omega⟩,rfl⟩) ⟨ke rfl,trivial⟩ ?_)
 rintro y ⟨⟨PF,PG⟩,DE⟩
 refine ag ?_ ?_<;>intro h2 q2
 refine ac ?_
 refine cy h2 rfl (AA rfl underlying63 AH (vl rfl) (vl rfl) (by omega) (by omega)) (cy h2 rfl (As 0 rfl (Ae rfl Aw AH (vl rfl) (Aa (f:=AL) (fun _=>rfl) (by omega)) rfl)) ?_)
 refine ac ?_
 refine cy h2 rfl (AA rfl underlying63 AH (vl rfl) (vl rfl) (by omega) (by omega)) (cy h2 rfl (As 0 rfl (Ae rfl Aw AH (vl rfl) (Aa (f:=AL) (fun _=>rfl) (by omega)) rfl)) (cy h2 rfl (A9 (_,_) rfl (vl rfl) ⟨ke rfl,ke rfl,trivial⟩) ?_))
 refine ac ?_
 refine EZ 0 1 4 12 13 47 rfl ?_
 refine Tr.cn rfl ?_ ?_<;>intro h3 q3
 have:=h3
 refine a2 ?_
 exact Fin.AE (y+1) ⟨⟨⟨by omega,by omega⟩,by rw [Me (by omega) (by omega) (by omega) (XE (by omega) (by omega) (by assumption))];exact DE⟩,by omega⟩ (TR rfl)
 have:=h3
 refine Tr.exit (Fin.AG (Fin.AG (Fin.AP ?_)))
 exact Fin.AE () trivial ⟨⟨_,rfl,BD _ (Aj ⟨⟨by omega,by omega⟩,trivial,by rw [←DE];exact (F5 (by omega) (XF (by omega) (by omega) (Int.not_lt.2 (by assumption)))).symm⟩ (Lr))⟩,ke rfl,ke rfl,ke rfl,ke rfl,trivial⟩
 refine ac ?_
 refine EZ 0 1 4 12 13 47 rfl (Tr.cond rfl (fun h=>nomatch h) (fun _=> ?_))
 refine Tr.exit (Fin.AG (Fin.AG (Fin.AP ?_)))
 exact Fin.AE () trivial ⟨⟨_,rfl,BD _ (Aj ⟨⟨by omega,by omega⟩,trivial,by rw [←DE];exact (F4 (by omega) (by omega)).symm⟩ (Lr))⟩,ke rfl,ke rfl,ke rfl,ke rfl,trivial⟩
 refine Tr.ex 12 rfl (fun i1=>Tr.fact 12 rfl fun aB=> ?_)
 obtain ⟨fF,fG,Lc⟩:=aB
 refine EL 0 1 4 12 13 rfl (Tr.Gr [0,1,4,12] [(13,ex fun y:Int=>fact ((a≤y∧y≤(b-1))∧True∧y.toNat=Go.Sort.scanDown (pD c ((l.set a.toNat (l[pv.toNat]'D7)).set pv.toNat (l[a.toNat]'E8)).toArray a) ((l.set a.toNat (l[pv.toNat]'D7)).set pv.toNat (l[a.toNat]'E8)).toArray (i1).toNat ((b-1)).toNat) (int y))] (True) ?_ (fun h4=> ?_))
 refine Tr.block (Tr.BU [(0,_),(1,_),(4,_),(12,_)] (KH rfl) (fun y:Int=>[(13,int y)]) (fun y:Int=>(a≤y∧y≤(b-1))∧Go.Sort.scanDown (pD c ((l.set a.toNat (l[pv.toNat]'D7)).set pv.toNat (l[a.toNat]'E8)).toArray a) ((l.set a.toNat (l[pv.toNat]'D7)).set pv.toNat (l[a.toNat]'E8)).toArray (i1).toNat (y).toNat=Go.Sort.scanDown (pD c ((l.set a.toNat (l[pv.toNat]'D7)).set pv.toNat (l[a.toNat]'E8)).toArray a) ((l.set a.toNat (l[pv.toNat]'D7)).set pv.toNat (l[a.toNat]'E8)).toArray (i1).toNat ((b-1)).toNat) (fun y:Int=>(y-a).toNat) (b-1) (⟨⟨by omega,by omega⟩,rfl⟩) ⟨ke rfl,trivial⟩ ?_)
 rintro y ⟨⟨PI,PJ⟩,DF⟩
 refine ag ?_ ?_<;>intro h5 q5
 refine ac ?_
 refine cy h5 rfl (AA rfl underlying63 AH (vl rfl) (vl rfl) (by omega) (by omega)) (cy h5 rfl (As 0 rfl (Ae rfl Aw AH (vl rfl) (Aa (f:=AL) (fun _=>rfl) (by omega)) rfl)) ?_)
 refine ac ?_
 refine cy h5 rfl (AA rfl underlying63 AH (vl rfl) (vl rfl) (by omega) (by omega)) (cy h5 rfl (As 0 rfl (Ae rfl Aw AH (vl rfl) (Aa (f:=AL) (fun _=>rfl) (by omega)) rfl)) (cy h5 rfl (A9 (_,_) rfl (vl rfl) ⟨ke rfl,ke rfl,trivial⟩) ?_))
 refine ac ?_
 refine EZ 0 1 4 12 13 66 rfl ?_
 refine Tr.cn rfl ?_ ?_<;>intro h6 q6
 have:=h6
 refine a2 ?_
 exact Fin.AE (y-1) ⟨⟨⟨by omega,by omega⟩,by rw [Mf (by omega) (by omega) (by omega) (XG (by omega) (by omega) (Int.not_lt.2 (by assumption)))];exact DF⟩,by omega⟩ (TR rfl)
 have:=h6
 refine Tr.exit (Fin.AG (Fin.AG (Fin.AP ?_)))
 exact Fin.AE () trivial ⟨⟨_,rfl,BD _ (Aj ⟨⟨by omega,by omega⟩,trivial,by rw [←DF];exact (F7 (by omega) (XH (by omega) (by omega) (by assumption))).symm⟩ (Lr))⟩,ke rfl,ke rfl,ke rfl,ke rfl,trivial⟩
 refine ac ?_
 refine EZ 0 1 4 12 13 66 rfl (Tr.cond rfl (fun h=>nomatch h) (fun _=> ?_))
 refine Tr.exit (Fin.AG (Fin.AG (Fin.AP ?_)))
 exact Fin.AE () trivial ⟨⟨_,rfl,BD _ (Aj ⟨⟨by omega,by omega⟩,trivial,by rw [←DF];exact (F6 (by omega) (by omega)).symm⟩ (Lr))⟩,ke rfl,ke rfl,ke rfl,ke rfl,trivial⟩
 refine Tr.ex 13 rfl (fun j1=>Tr.fact 13 rfl fun aC=> ?_)
 obtain ⟨fH,fI,Ld⟩:=aC
 refine an ?_ ?_<;>intro h7 q7
 refine Tr.seq (Tr.rx ?_)
 refine ay ?_
 refine xo rfl (fun _=>AA rfl underlying63 AH (vl rfl) (vl rfl) (by omega) (by omega)) (C0 0 rfl rfl (Ae rfl Aw AH (vl rfl) (Aa (f:=AL) (fun _=>rfl) (by omega)) rfl) ?_)
 refine ay ?_
 refine xo rfl (fun _=>AA rfl underlying63 AH (vl rfl) (vl rfl) (by omega) (by omega)) (C0 0 rfl rfl (Ae rfl Aw AH (vl rfl) (Aa (f:=AL) (fun _=>rfl) (by omega)) rfl) (xo rfl (fun _=>AA rfl underlying63 AH (vl rfl) (vl rfl) (by omega) (by omega)) ?_))
 refine Cx.CY 0 rfl rfl (AW rfl rfl (vl rfl) (Va rfl) AH rfl (by rw [AV (sz:=8) (fun _=>rfl)];omega) (AQ (f:=AL) (fun _=>rfl) (by omega))) ?_
 refine xo rfl (fun _=>AA rfl underlying63 AH (vl rfl) (vl rfl) (by omega) (by omega)) ?_
 refine Cx.CY 0 rfl rfl (AW rfl rfl (vl rfl) (Va rfl) AH rfl (by rw [AV (sz:=8) (fun _=>rfl)];simp only [List.length_set];omega) (AQ (f:=AL) (fun _=>rfl) (by simp only [List.length_set];omega))) ?_
 refine Cx.nil ⟨by kernel_rfl,?_⟩
 refine BP.done Ic (Fin.go (CM 13 rfl ?_))
 refine ac ?_
 refine Tr.ret (Fin.AF (Fin.Bl (Ia c a b pv l) 0 rfl (⟨by simp only [List.length_set],(EV h0 hab E8 D7 (Df Lc Ld (by omega) (by omega)) (by omega) (by omega)).2⟩) (Fin.De [] rfl (A6.tmp rfl (Lr)) (A6.tmp rfl (Lr)) ?_)))
 · exact BD true (Aj trivial (Pr.le_of_eq (by rw [(EV h0 hab E8 D7 (Df Lc Ld (by omega) (by omega)) (by omega) (by omega)).1,Int.toNat_of_nonneg (by omega)])))
 refine ac ?_
 refine Tr.seq (Tr.rx ?_)
 refine ay ?_
 refine xo rfl (fun _=>AA rfl underlying63 AH (vl rfl) (vl rfl) (by omega) (by omega)) (C0 0 rfl rfl (Ae rfl Aw AH (vl rfl) (Aa (f:=AL) (fun _=>rfl) (by omega)) rfl) ?_)
 refine ay ?_
 refine xo rfl (fun _=>AA rfl underlying63 AH (vl rfl) (vl rfl) (by omega) (by omega)) (C0 0 rfl rfl (Ae rfl Aw AH (vl rfl) (Aa (f:=AL) (fun _=>rfl) (by omega)) rfl) (xo rfl (fun _=>AA rfl underlying63 AH (vl rfl) (vl rfl) (by omega) (by omega)) ?_))
 refine Cx.CY 0 rfl rfl (AW rfl rfl (vl rfl) (Va rfl) AH rfl (by rw [AV (sz:=8) (fun _=>rfl)];omega) (AQ (f:=AL) (fun _=>rfl) (by omega))) ?_
 refine xo rfl (fun _=>AA rfl underlying63 AH (vl rfl) (vl rfl) (by omega) (by omega)) ?_
 refine Cx.CY 0 rfl rfl (AW rfl rfl (vl rfl) (Va rfl) AH rfl (by rw [AV (sz:=8) (fun _=>rfl)];simp only [List.length_set];omega) (AQ (f:=AL) (fun _=>rfl) (by simp only [List.length_set];omega))) ?_
 refine Cx.nil ⟨by kernel_rfl,?_⟩
 refine BP.done Ic (Fin.go (EL 0 1 4 12 13 rfl ?_))
 refine a2 ?_
 refine Tr.seq (Tr.block ?_)
 refine Tr.Dy [(0,_),(1,_),(4,_)] ⟨ke rfl,ke rfl,ke rfl,trivial⟩ (fun (i:Int) (j:Int) (st:List BF)=>[(12,int i),(13,int j)]) (fun (i:Int) (j:Int) (st:List BF)=>Hp M0 w0 S (AD true b0 110 ((st.map AL).flatten++sp.map is)::Ai M1 w1::rs)) (fun (i:Int) (j:Int) (st:List BF)=>((a<i∧i≤b)∧a≤j∧j<b)∧st.length=len∧WQ c a i j st.toArray=WQ c a (a+1) (b-1) ((l.set a.toNat (l[pv.toNat]'D7)).set pv.toNat (l[a.toNat]'E8)).toArray) (fun (i:Int) (j:Int) (st:List BF)=>(j-i+2).toNat) (i1+1) (j1-1) (_)  (⟨⟨⟨by omega,by omega⟩,by omega,by omega⟩,by simp only [List.length_set];exact Ep,KM Lc Ld (by omega) (by omega) (by omega) (by omega)⟩) ⟨ke rfl,ke rfl,trivial⟩ (fun _ _ h=>h) ?_
 rintro i j st  ⟨⟨⟨hi1,hi2⟩,TT,hj2⟩,Gp,DQ⟩
 refine Tr.block (EL 0 1 4 12 13 rfl (Tr.Gr [0,1,4,13] [(12,ex fun y:Int=>fact ((i≤y∧y≤b)∧True∧y.toNat=Go.Sort.scanUp (pU c st.toArray a) st.toArray (j).toNat (i).toNat) (int y))] (True) ?_ (fun h8=> ?_)))
 refine Tr.block (Tr.BU [(0,_),(1,_),(4,_),(13,_)] (KH rfl) (fun y:Int=>[(12,int y)]) (fun y:Int=>(i≤y∧y≤b)∧Go.Sort.scanUp (pU c st.toArray a) st.toArray (j).toNat (y).toNat=Go.Sort.scanUp (pU c st.toArray a) st.toArray (j).toNat (i).toNat) (fun y:Int=>(b-y).toNat) i (⟨⟨by omega,by omega⟩,rfl⟩) ⟨ke rfl,trivial⟩ ?_)
 rintro y ⟨⟨PF,PG⟩,DE⟩
 refine ag ?_ ?_<;>intro h9 q9
 refine ac ?_
 refine cy h9 rfl (AA rfl underlying63 AH (vl rfl) (vl rfl) (by omega) (by omega)) (cy h9 rfl (As 0 rfl (Ae rfl Aw AH (vl rfl) (Aa (f:=AL) (fun _=>rfl) (by omega)) rfl)) ?_)
 refine ac ?_
 refine cy h9 rfl (AA rfl underlying63 AH (vl rfl) (vl rfl) (by omega) (by omega)) (cy h9 rfl (As 0 rfl (Ae rfl Aw AH (vl rfl) (Aa (f:=AL) (fun _=>rfl) (by omega)) rfl)) (cy h9 rfl (A9 (_,_) rfl (vl rfl) ⟨ke rfl,ke rfl,trivial⟩) ?_))
 refine ac ?_
 refine EZ 0 1 4 12 13 120 rfl ?_
 refine Tr.cn rfl ?_ ?_<;>intro h10 SQ
 have:=h10
 refine a2 ?_
 exact Fin.AE (y+1) ⟨⟨⟨by omega,by omega⟩,by rw [Me (by omega) (by omega) (by omega) (XE (by omega) (by omega) (by assumption))];exact DE⟩,by omega⟩ (TR rfl)
 have:=h10
 refine Tr.exit (Fin.AG (Fin.AG (Fin.AP ?_)))
 exact Fin.AE () trivial ⟨⟨_,rfl,BD _ (Aj ⟨⟨by omega,by omega⟩,trivial,by rw [←DE];exact (F5 (by omega) (XF (by omega) (by omega) (Int.not_lt.2 (by assumption)))).symm⟩ (Lr))⟩,ke rfl,ke rfl,ke rfl,ke rfl,trivial⟩
 refine ac ?_
 refine EZ 0 1 4 12 13 120 rfl (Tr.cond rfl (fun h=>nomatch h) (fun _=> ?_))
 refine Tr.exit (Fin.AG (Fin.AG (Fin.AP ?_)))
 exact Fin.AE () trivial ⟨⟨_,rfl,BD _ (Aj ⟨⟨by omega,by omega⟩,trivial,by rw [←DE];exact (F4 (by omega) (by omega)).symm⟩ (Lr))⟩,ke rfl,ke rfl,ke rfl,ke rfl,trivial⟩
 refine Tr.ex 12 rfl (fun i2=>Tr.fact 12 rfl fun Qg=> ?_)
 obtain ⟨VQ,VR,FD⟩:=Qg
 refine EL 0 1 4 12 13 rfl (Tr.Gr [0,1,4,12] [(13,ex fun y:Int=>fact ((a≤y∧y≤j)∧True∧y.toNat=Go.Sort.scanDown (pD c st.toArray a) st.toArray (i2).toNat (j).toNat) (int y))] (True) ?_ (fun h11=> ?_))
 refine Tr.block (Tr.BU [(0,_),(1,_),(4,_),(12,_)] (KH rfl) (fun y:Int=>[(13,int y)]) (fun y:Int=>(a≤y∧y≤j)∧Go.Sort.scanDown (pD c st.toArray a) st.toArray (i2).toNat (y).toNat=Go.Sort.scanDown (pD c st.toArray a) st.toArray (i2).toNat (j).toNat) (fun y:Int=>(y-a).toNat) j (⟨⟨by omega,by omega⟩,rfl⟩) ⟨ke rfl,trivial⟩ ?_)
 rintro y ⟨⟨PI,PJ⟩,DF⟩
 refine ag ?_ ?_<;>intro h12 SV
 refine ac ?_
 refine cy h12 rfl (AA rfl underlying63 AH (vl rfl) (vl rfl) (by omega) (by omega)) (cy h12 rfl (As 0 rfl (Ae rfl Aw AH (vl rfl) (Aa (f:=AL) (fun _=>rfl) (by omega)) rfl)) ?_)
 refine ac ?_
 refine cy h12 rfl (AA rfl underlying63 AH (vl rfl) (vl rfl) (by omega) (by omega)) (cy h12 rfl (As 0 rfl (Ae rfl Aw AH (vl rfl) (Aa (f:=AL) (fun _=>rfl) (by omega)) rfl)) (cy h12 rfl (A9 (_,_) rfl (vl rfl) ⟨ke rfl,ke rfl,trivial⟩) ?_))
 refine ac ?_
 refine EZ 0 1 4 12 13 139 rfl ?_
 refine Tr.cn rfl ?_ ?_<;>intro I7 Ud
 have:=I7
 refine a2 ?_
 exact Fin.AE (y-1) ⟨⟨⟨by omega,by omega⟩,by rw [Mf (by omega) (by omega) (by omega) (XG (by omega) (by omega) (Int.not_lt.2 (by assumption)))];exact DF⟩,by omega⟩ (TR rfl)
 have:=I7
 refine Tr.exit (Fin.AG (Fin.AG (Fin.AP ?_)))
 exact Fin.AE () trivial ⟨⟨_,rfl,BD _ (Aj ⟨⟨by omega,by omega⟩,trivial,by rw [←DF];exact (F7 (by omega) (XH (by omega) (by omega) (by assumption))).symm⟩ (Lr))⟩,ke rfl,ke rfl,ke rfl,ke rfl,trivial⟩
 refine ac ?_
 refine EZ 0 1 4 12 13 139 rfl (Tr.cond rfl (fun h=>nomatch h) (fun _=> ?_))
 refine Tr.exit (Fin.AG (Fin.AG (Fin.AP ?_)))
 exact Fin.AE () trivial ⟨⟨_,rfl,BD _ (Aj ⟨⟨by omega,by omega⟩,trivial,by rw [←DF];exact (F6 (by omega) (by omega)).symm⟩ (Lr))⟩,ke rfl,ke rfl,ke rfl,ke rfl,trivial⟩
 refine Tr.ex 13 rfl (fun j2=>Tr.fact 13 rfl fun Qh=> ?_)
 obtain ⟨VS,VT,FE⟩:=Qh
 refine an ?_ ?_<;>intro Ue Zq
 refine ac ?_
 refine Tr.seq (Tr.rx ?_)
 refine ay ?_
 refine xo rfl (fun _=>AA rfl underlying63 AH (vl rfl) (vl rfl) (by omega) (by omega)) (C0 0 rfl rfl (Ae rfl Aw AH (vl rfl) (Aa (f:=AL) (fun _=>rfl) (by omega)) rfl) ?_)
 refine ay ?_
 refine xo rfl (fun _=>AA rfl underlying63 AH (vl rfl) (vl rfl) (by omega) (by omega)) (C0 0 rfl rfl (Ae rfl Aw AH (vl rfl) (Aa (f:=AL) (fun _=>rfl) (by omega)) rfl) (xo rfl (fun _=>AA rfl underlying63 AH (vl rfl) (vl rfl) (by omega) (by omega)) ?_))
 refine Cx.CY 0 rfl rfl (AW rfl rfl (vl rfl) (Va rfl) AH rfl (by rw [AV (sz:=8) (fun _=>rfl)];omega) (AQ (f:=AL) (fun _=>rfl) (by omega))) ?_
 refine xo rfl (fun _=>AA rfl underlying63 AH (vl rfl) (vl rfl) (by omega) (by omega)) ?_
 refine Cx.CY 0 rfl rfl (AW rfl rfl (vl rfl) (Va rfl) AH rfl (by rw [AV (sz:=8) (fun _=>rfl)];simp only [List.length_set];omega) (AQ (f:=AL) (fun _=>rfl) (by simp only [List.length_set];omega))) ?_
 refine Cx.nil ⟨by kernel_rfl,?_⟩
 refine BP.done Ic (Fin.go (CM 13 rfl ?_))
 refine ac ?_
 refine Tr.ret ?_
 refine Fin.Bl (Ia c a b pv l) 0 rfl (⟨by simp only [List.length_set];omega,(EV h0 hab E8 D7 (DQ.symm.trans (Df FD FE (by omega) (by omega))) (by omega) (by omega)).2⟩) ?_
 refine Fin.De [] rfl (A6.tmp rfl (Lr)) (A6.tmp rfl (Lr)) ?_
 · exact BD false (Aj trivial (Pr.le_of_eq (by rw [(EV h0 hab E8 D7 (DQ.symm.trans (Df FD FE (by omega) (by omega))) (by omega) (by omega)).1,Int.toNat_of_nonneg (by omega)])))
 refine ac ?_
 refine Tr.seq (Tr.rx ?_)
 refine ay ?_
 refine xo rfl (fun _=>AA rfl underlying63 AH (vl rfl) (vl rfl) (by omega) (by omega)) (C0 0 rfl rfl (Ae rfl Aw AH (vl rfl) (Aa (f:=AL) (fun _=>rfl) (by omega)) rfl) ?_)
 refine ay ?_
 refine xo rfl (fun _=>AA rfl underlying63 AH (vl rfl) (vl rfl) (by omega) (by omega)) (C0 0 rfl rfl (Ae rfl Aw AH (vl rfl) (Aa (f:=AL) (fun _=>rfl) (by omega)) rfl) (xo rfl (fun _=>AA rfl underlying63 AH (vl rfl) (vl rfl) (by omega) (by omega)) ?_))
 refine Cx.CY 0 rfl rfl (AW rfl rfl (vl rfl) (Va rfl) AH rfl (by rw [AV (sz:=8) (fun _=>rfl)];omega) (AQ (f:=AL) (fun _=>rfl) (by omega))) ?_
 refine xo rfl (fun _=>AA rfl underlying63 AH (vl rfl) (vl rfl) (by omega) (by omega)) ?_
 refine Cx.CY 0 rfl rfl (AW rfl rfl (vl rfl) (Va rfl) AH rfl (by rw [AV (sz:=8) (fun _=>rfl)];simp only [List.length_set];omega) (AQ (f:=AL) (fun _=>rfl) (by simp only [List.length_set];omega))) ?_
 refine Cx.nil ⟨by kernel_rfl,?_⟩
 refine BP.done Ic (Fin.go (EL 0 1 4 12 13 rfl ?_))
 refine a2 ?_
 exact Fin.Cj (i2+1) (j2-1) (_)  (⟨⟨⟨⟨by omega,by omega⟩,by omega,by omega⟩,by simp only [List.length_set];exact Gp,(KM FD FE (by omega) (by omega) (by omega) (by omega)).trans DQ⟩,by omega⟩) ⟨ke rfl,ke rfl,ke rfl,ke rfl,ke rfl,trivial⟩ (fun _ _ h=>h)
theorem VU {l:List BF} {c:BF×BF→Int} {b0 cap len:Nat} {sp:List Value} {a b:Int} (Ep:l.length=len) (Gn:len≤1000000) (hw:Go.Sort.SWO (Bp c)) (h0:0≤a) (hab:a<b) (hb:b≤len) (fJ:b<50):BQ prog 179 [is (.slice (some ⟨b0,0,none⟩) len cap),int a,int b,Gh prog (fun x:BF×BF=>[agg (AL x.1),agg (AL x.2)]) (fun x=>int (c x))] (ex fun z:Bool=>fact (z=true→Go.Sort.SortedIn (Bp c) a.toNat b.toNat l.toArray) (bool z)) (AD true b0 110 ((l.map AL).flatten++sp.map is)) (fun _=>AD true b0 110 ((l.map AL).flatten++sp.map is)):=by
 refine BQ.of func179 rfl rfl (by exact Nb rfl) fun M0 w0 S rs M1 w1=> ?_
 refine a3 ?_
 refine Tr.block (Tr.CU [(0,_),(1,_),(2,_),(3,_)] ⟨ke rfl,ke rfl,ke rfl,ke rfl,trivial⟩ (fun (i:Int) (j:Int)=>[(9,int i),(10,int j)]) (fun (i:Int) (j:Int)=>Hp M0 w0 S (AD true b0 110 ((l.map AL).flatten++sp.map is)::Ai M1 w1::rs)) (fun (i:Int) (j:Int)=>(j=0∧a<i∧i≤b)∧SM c a i l) (fun (i:Int) (j:Int)=>(5-j).toNat) (a+1) (0)  (⟨⟨rfl,by omega,by omega⟩,SM.start a l h0⟩) ⟨ke rfl,ke rfl,trivial⟩ (fun _ _ h=>h) ?_)
 rintro i j  ⟨⟨hj0,hi1,hi2⟩,aD⟩
 refine an ?_ ?_<;>intro h1 q1
 skip
 refine ac ?_
 refine Tr.seq (Tr.block (Tr.seq (Tr.block (Tr.BU [(0,_),(1,_),(2,_),(3,_),(10,_)] (TR rfl) (fun i2:Int=>[(9,int i2)]) (fun i2:Int=>(a<i2∧i2≤b)∧SM c a i2 l) (fun i2:Int=>(b-i2).toNat) i (⟨⟨hi1,hi2⟩,aD⟩) ⟨ke rfl,trivial⟩ ?_))))
 rintro i2 ⟨⟨kJ,hi4⟩,Le⟩
 refine ag ?_ ?_<;>intro h2 q2
 refine ac ?_
 refine cy h2 rfl (AA rfl underlying63 AH (vl rfl) (vl rfl) (by omega) (by omega)) (cy h2 rfl (As 0 rfl (Ae rfl Aw AH (vl rfl) (Aa (f:=AL) (fun _=>rfl) (by omega)) rfl)) ?_)
 refine ac ?_
 refine cy h2 rfl (AA rfl underlying63 AH (vl rfl) (vl rfl) (by omega) (by omega)) (cy h2 rfl (As 0 rfl (Ae rfl Aw AH (vl rfl) (Aa (f:=AL) (fun _=>rfl) (by omega)) rfl)) (cy h2 rfl (A9 (_,_) rfl (vl rfl) ⟨ke rfl,ke rfl,trivial⟩) ?_))
 refine ac ?_
 refine Ea 0 1 2 3 9 10 36 rfl ?_
 refine Tr.cn rfl ?_ ?_<;>intro h3 q3
 have:=h3
 refine a2 ?_
 exact Fin.AE (i2+1) ⟨⟨⟨by omega,by omega⟩,Le.go h0 (by omega) rfl (by omega) (by omega) (by assumption)⟩,by omega⟩ (mX rfl)
 have:=h3
 refine ac ?_
 refine an ?_ ?_<;>intro h4 q4
 refine ac ?_
 refine Tr.ret (Fin.AF (Fin.AK (Fin.AF (Fin.AF (Fin.AK (Fin.AF (Fin.Ca rfl rfl ?_ (fun _ _ _ _=>rfl))))))))
 · exact BD true (Aj (fun _=>by rw [show b=i2 by omega];exact Le.sorted hw) (Lr))
 refine a2 ?_
 refine Ea 0 1 2 3 9 10 45 rfl ?_
 refine Tr.cn rfl ?_ ?_<;>intro h5 q5
 refine ac ?_
 refine Tr.ret (Fin.AF (Fin.AK (Fin.AF (Fin.AF (Fin.AK (Fin.AF (Fin.Ca rfl rfl ?_ (fun _ _ _ _=>rfl))))))))
 · exact BD false (Aj (fun h=>nomatch h) (Lr))
 exfalso;omega
 refine ac ?_
 refine Ea 0 1 2 3 9 10 36 rfl ?_
 refine ac ?_
 refine an ?_ ?_<;>intro h6 q6
 refine ac ?_
 refine Tr.ret (Fin.AF (Fin.AK (Fin.AF (Fin.AF (Fin.AK (Fin.AF (Fin.Ca rfl rfl ?_ (fun _ _ _ _=>rfl))))))))
 · exact BD true (Aj (fun _=>by rw [show b=i2 by omega];exact Le.sorted hw) (Lr))
 refine a2 ?_
 refine Ea 0 1 2 3 9 10 45 rfl ?_
 refine Tr.cn rfl ?_ ?_<;>intro h7 q7
 refine ac ?_
 refine Tr.ret (Fin.AF (Fin.AK (Fin.AF (Fin.AF (Fin.AK (Fin.AF (Fin.Ca rfl rfl ?_ (fun _ _ _ _=>rfl))))))))
 · exact BD false (Aj (fun h=>nomatch h) (Lr))
 exfalso;omega
 have nU:¬j<5:=of_decide_eq_false h1
 exfalso;omega
theorem Lf {sb:Nat} {l:List BF} {c:BF×BF→Int} {b0 cap len:Nat} {sp:List Value} {a b:Int} (Ep:l.length=len) (Gn:len≤1000000) (h0:0≤a) (ha:a<len) (h1:0≤b) (hb:b<len):K5 prog 221 [is (.slice (some ⟨b0,0,none⟩) len cap),int a,int b,is (.pointer (some ⟨sb,0,none⟩)),Gh prog (fun x:BF×BF=>[agg (AL x.1),agg (AL x.2)]) (fun x=>int (c x))] (ex fun z:Int×Int=>fact ((z.1=a∧z.2=b)∨(z.1=b∧z.2=a)) (DT [int z.1,int z.2])) (AD true sb 3 [Da .i64]) (AD true sb 3 [Da .i64]) (AD true b0 110 ((l.map AL).flatten++sp.map is)):=by
 refine K5.of func221 rfl rfl (by exact Nb rfl) fun M0 w0 S rs M1 w1=> ?_
 refine a2 ?_
 refine co rfl (AA rfl underlying63 AH (vl rfl) (vl rfl) (by omega) (by omega)) (co rfl (As 2 rfl (Ae rfl Aw AH (vl rfl) (Aa (f:=AL) (fun _=>rfl) (by omega)) rfl)) ?_)
 refine ac ?_
 refine co rfl (AA rfl underlying63 AH (vl rfl) (vl rfl) (by omega) (by omega)) (co rfl (As 2 rfl (Ae rfl Aw AH (vl rfl) (Aa (f:=AL) (fun _=>rfl) (by omega)) rfl)) (co rfl (A9 (_,_) rfl (vl rfl) ⟨ke rfl,ke rfl,trivial⟩) ?_))
 refine an ?_ ?_<;>intro h1 q1
 refine ap ?_
 refine tp rfl (RP rfl (vl rfl) (VL.le (vl rfl) (FZ _ _))) ?_
 refine ap ?_
 refine EK 1 2 rfl ?_
 refine ac ?_
 refine Tr.ret (Fin.AF (Fin.De [] rfl (A6.tmp rfl (Lr)) (A6.tmp rfl (Lr)) ?_))
 · exact BD (b,a) (Aj (.inr ⟨rfl,rfl⟩) (Lr))
 refine a2 ?_
 refine EK 10 11 rfl (Tr.ret (Fin.De [] rfl (A6.tmp rfl (Lr)) (A6.tmp rfl (Lr)) ?_))
 · exact BD (a,b) (Aj (.inl ⟨rfl,rfl⟩) (Lr))
theorem X2 {sb:Nat} {l:List BF} {c:BF×BF→Int} {b0 cap len:Nat} {sp:List Value} {a b d:Int} (Ep:l.length=len) (Gn:len≤1000000) (h0:0≤a) (ha:a<len) (h1:0≤b) (hb:b<len) (h2:0≤d) (hd:d<len):K5 prog 211 [is (.slice (some ⟨b0,0,none⟩) len cap),int a,int b,int d,is (.pointer (some ⟨sb,0,none⟩)),Gh prog (fun x:BF×BF=>[agg (AL x.1),agg (AL x.2)]) (fun x=>int (c x))] (ex fun z:Int=>fact (z=a∨z=b∨z=d) (int z)) (AD true sb 3 [Da .i64]) (AD true sb 3 [Da .i64]) (AD true b0 110 ((l.map AL).flatten++sp.map is)):=by
 refine K5.of func211 rfl rfl (by exact Nb rfl) fun M0 w0 S rs M1 w1=> ?_
 refine ac ?_
 refine ap ?_
 refine TO.Jp 0 2 rfl rfl (by decide) rfl rfl (by decide) rfl (Lf (by omega) (by omega) (by omega) (by omega) (by omega) (by omega)) ⟨ke rfl,ke rfl,ke rfl,ke rfl,ke rfl,trivial⟩ ?_
 refine TO.ex 19 rfl (fun z1=>TO.fact 19 rfl fun KD=> ?_)
 refine ap ?_
 refine ap ?_
 refine TO.Jp 0 2 rfl rfl (by decide) rfl rfl (by decide) rfl (Lf (by omega) (by omega) (by omega) (by omega) (by omega) (by omega)) ⟨ke rfl,ke rfl,ke rfl,ke rfl,ke rfl,trivial⟩ ?_
 refine TO.ex 28 rfl (fun z2=>TO.fact 28 rfl fun Tj=> ?_)
 refine ap ?_
 refine EL 0 1 2 4 5 rfl ?_
 refine ap ?_
 refine TO.Jp 0 2 rfl rfl (by decide) rfl rfl (by decide) rfl (Lf (by omega) (by omega) (by omega) (by omega) (by omega) (by omega)) ⟨ke rfl,ke rfl,ke rfl,ke rfl,ke rfl,trivial⟩ ?_
 refine TO.ex 37 rfl (fun z3=>TO.fact 37 rfl fun kK=> ?_)
 refine ap ?_
 refine CM 2 rfl ?_
 refine ac ?_
 refine Tr.ret (Fin.Ca rfl rfl ?_ (fun _ _ _ _=>rfl))
 · exact BD _ (Aj (by omega) (Lr))
theorem X3 {l:List BF} {c:BF×BF→Int} {b0 cap len:Nat} {sp:List Value} {a b:Int} (Ep:l.length=len) (Gn:len≤1000000) (h0:0≤a) (hab:a<b) (hb:b≤len) (fJ:b<50):BQ prog 177 [is (.slice (some ⟨b0,0,none⟩) len cap),int a,int b,Gh prog (fun x:BF×BF=>[agg (AL x.1),agg (AL x.2)]) (fun x=>int (c x))] (ex fun z:Int×Int=>fact (a≤z.1∧z.1<b) (DT [int z.1,int z.2])) (AD true b0 110 ((l.map AL).flatten++sp.map is)) (fun _=>AD true b0 110 ((l.map AL).flatten++sp.map is)):=by
 refine BQ.of func177 rfl rfl (by exact Nb rfl) fun M0 w0 S rs M1 w1=> ?_
 have hq:=RS (n:=b-a) (by omega) (by omega)
 obtain ⟨hq1,SB,dA⟩:=hq
 refine a2 ?_
 refine Tr.seq (Tr.CA ?_)
 refine Tl rfl rfl rfl rfl z3 gU (fun b1=> ?_)
 refine ap ?_
 refine ac ?_
 refine co rfl (CX rfl (vl rfl) (vl rfl) (by omega)) ?_
 refine co rfl (DW rfl (vl rfl) (vl rfl) ?hin) ?_;case hin=>unfold C7;omega
 refine ac ?_
 refine EZ 0 1 3 10 11 12 rfl ?_
 refine ac ?_
 refine co rfl (CX rfl (vl rfl) (vl rfl) (by omega)) ?_
 refine co rfl (DW rfl (vl rfl) (vl rfl) ?hin) ?_;case hin=>unfold C7;omega
 refine a2 ?_
 refine co rfl (CX rfl (vl rfl) (vl rfl) (by omega)) ?_
 refine co rfl (DW rfl (vl rfl) (vl rfl) ?hin) ?_;case hin=>unfold C7;omega
 refine ac ?_
 refine Ea 0 3 10 11 12 13 14 rfl ?_
 refine an ?_ ?_<;>intro h1 q1
 refine an ?_ ?_<;>intro h2 q2
 exfalso;omega
 refine ac ?_
 refine Tr.Ym 0 [Da .i64] rfl ⟨FZ _ _,trivial⟩ ?_
 refine ap ?_
 refine TO.Jp 0 1 rfl rfl (by decide) rfl rfl (by decide) rfl (X2 (by omega) (by omega) (by omega) (by omega) (by omega) (by omega) (by omega) (by omega)) ⟨ke rfl,ke rfl,ke rfl,ke rfl,ke rfl,ke rfl,trivial⟩ ?_
 refine TO.ex 54 rfl (fun z1=>TO.fact 54 rfl fun KD=> ?_)
 refine ap ?_
 refine EK 11 13 rfl ?_
 refine ac ?_
 refine Tr.drop 0 (Tr.block (Tr.seq (Tr.ex 55 rfl fun sw=> ?_)))
 refine an ?_ ?_<;>intro h3 q3
 refine ac ?_
 refine Tr.ret (Fin.AK (Fin.De [] rfl (A6.tmp rfl (Lr)) (A6.tmp rfl (Lr)) ?_))
 · exact BD (_,_) (Aj ⟨by omega,by omega⟩ (Lr))
 refine an ?_ ?_<;>intro h4 q4
 refine ac ?_
 refine Tr.ret (Fin.AK (Fin.De [] rfl (A6.tmp rfl (Lr)) (A6.tmp rfl (Lr)) ?_))
 · exact BD (_,_) (Aj ⟨by omega,by omega⟩ (Lr))
 refine ac ?_
 refine Tr.ret (Fin.AK (Fin.De [] rfl (A6.tmp rfl (Lr)) (A6.tmp rfl (Lr)) ?_))
 · exact BD (_,_) (Aj ⟨by omega,by omega⟩ (Lr))
 refine ac ?_
 refine Tr.seq (Tr.Ym 0 [Da .i64] rfl ⟨FZ _ _,trivial⟩ ?_)
 refine ac ?_
 refine Tr.drop 0 (Tr.block (Tr.seq (Tr.ex 55 rfl fun sw=> ?_)))
 refine an ?_ ?_<;>intro h5 q5
 refine ac ?_
 refine EK 8 9 rfl (Tr.ret (Fin.AK (Fin.De [] rfl (A6.tmp rfl (Lr)) (A6.tmp rfl (Lr)) ?_)))
 · exact BD (_,_) (Aj ⟨by omega,by omega⟩ (Lr))
 refine ac ?_
 refine EK 13 60 rfl ?_
 refine Tr.cn rfl ?_ ?_<;>intro h6 q6
 refine ac ?_
 refine Tr.ret (Fin.AK (Fin.De [] rfl (A6.tmp rfl (Lr)) (A6.tmp rfl (Lr)) ?_))
 · exact BD (_,_) (Aj ⟨by omega,by omega⟩ (Lr))
 refine ac ?_
 refine Tr.ret (Fin.AK (Fin.De [] rfl (A6.tmp rfl (Lr)) (A6.tmp rfl (Lr)) ?_))
 · exact BD (_,_) (Aj ⟨by omega,by omega⟩ (Lr))
theorem X4 {l:List BF} {c:BF×BF→Int} {b0 cap len:Nat} {sp:List Value} {a b:Int} (Ep:l.length=len) (Gn:len≤1000000) (h0:0≤a) (hab:a≤b) (hb:b≤len) (fJ:b<50):BQ prog 176 [is (.slice (some ⟨b0,0,none⟩) len cap),int a,int b,Gh prog (fun x:BF×BF=>[agg (AL x.1),agg (AL x.2)]) (fun x=>int (c x))] (CC) (AD true b0 110 ((l.map AL).flatten++sp.map is)) (fun _=>Bw b0 110 AL (B6 a b l) (sp.map is)):=by
 refine BQ.of func176 rfl rfl (by exact Nb rfl) fun M0 w0 S rs M1 w1=> ?_
 have hq:=RS (n:=b-a) (by omega) (by omega)
 obtain ⟨hq1,SB,dA⟩:=hq
 refine ac ?_
 refine an ?_ ?_<;>intro h1 q1
 refine ap ?_
 refine tp rfl (Ci rfl underlying3 underlying189 (vl rfl)) ?_
 refine Tl rfl rfl rfl rfl cV Yc (fun b1=> ?_)
 refine ap ?_
 refine Tr.seq (Tr.Ym 0 [Da .u64] rfl ⟨FZ _ _,trivial⟩ ?_)
 refine ap ?_
 refine tp rfl (Cr (VO (by omega) (by omega)) rfl rfl) ?_
 refine TO.ex 21 rfl (fun md=>TO.fact 21 rfl fun kL=> ?_)
 obtain ⟨kM,kN⟩:=kL
 have nV:IntKind.u64.wrap (md-1)=md-1:=IntWalk.u64_in _ ⟨by omega,by omega⟩
 refine ap ?_
 refine ac ?_
 refine co rfl (CX rfl (vl rfl) (vl rfl) (by omega)) ?_
 refine co rfl (DW rfl (vl rfl) (vl rfl) ?hin) ?_;case hin=>unfold C7;omega
 refine ac ?_
 refine EZ 0 1 8 9 10 11 rfl (Tr.block (Tr.CU [(0,_),(1,_),(8,_),(9,_),(10,_)] ⟨ke rfl,ke rfl,ke rfl,ke rfl,ke rfl,trivial⟩ (fun (i:Int) (st:List BF)=>[(11,int i)]) (fun (i:Int) (st:List BF)=>Hp M0 w0 S (AD true b1 189 [Da .u64]::AD true b0 110 ((st.map AL).flatten++sp.map is)::Ai M1 w1::rs)) (fun (i:Int) (st:List BF)=>(a≤i∧i≤b)∧st.length=len∧B6 a b l st) (fun (i:Int) (st:List BF)=>(b-i).toNat) (a+IntKind.i64.wrap ((b-a).tdiv 4)*2-1) (l)  (⟨⟨by omega,by omega⟩,by omega,B6.refl _ _ _⟩) ⟨ke rfl,trivial⟩ (fun _ _ h=>h) ?_))
 rintro i st  ⟨⟨hi1,hi2⟩,Gp,DQ⟩
 refine ac ?_
 refine co rfl (CX rfl (vl rfl) (vl rfl) (by omega)) ?_
 refine co rfl (DW rfl (vl rfl) (vl rfl) ?hin) ?_;case hin=>unfold C7;omega
 refine ac ?_
 refine Ea 0 1 8 9 10 11 35 rfl ?_
 refine Tr.cn rfl ?_ ?_<;>intro h2 q2
 have:=h2
 refine ac ?_
 refine Tr.seq (Tr.block (Tr.seq (Tr.CA (TO.DB 0 rfl rfl (by decide) (AU rfl rfl (by decide) rfl (Ru) ⟨ke rfl,trivial⟩) ?_))))
 refine ap ?_
 refine tp rfl (OZ rfl (vl rfl) (vl rfl) (by omega) (by omega)) ?_
 refine TO.ex 41 rfl (fun z1=>TO.fact 41 rfl fun KD=> ?_)
 refine tp rfl (OI rfl underlying137 underlying3 (vl rfl) (by unfold C7;omega)) ?_
 refine ap ?_
 refine Tr.RT [(0,_),(1,_),(8,_),(9,_),(10,_),(11,_)] ⟨ke rfl,ke rfl,ke rfl,ke rfl,ke rfl,ke rfl,trivial⟩ (fun (ot:Int)=>[(12,int ot)]) (fun (ot:Int)=>Hp M0 w0 S (AD true b1 189 [Da .u64]::AD true b0 110 ((st.map AL).flatten++sp.map is)::Ai M1 w1::rs)) (fun (ot:Int)=>0≤ot∧ot<b-a) ?_ ?_
 refine ac ?_
 refine HU 0 1 8 9 10 11 12 45 rfl ?_
 refine Tr.cn rfl ?_ ?_<;>intro h3 q3
 refine ac ?_
 exact Fin.IM (_)  (⟨by omega,by omega⟩) ⟨ke rfl,ke rfl,ke rfl,ke rfl,ke rfl,ke rfl,ke rfl,trivial⟩ (fun _ _ h=>h)
 refine Tr.skip (Fin.IM (_)  (⟨by omega,by omega⟩) ⟨ke rfl,ke rfl,ke rfl,ke rfl,ke rfl,ke rfl,ke rfl,trivial⟩ (fun _ _ h=>h))
 rintro ot  ⟨kO,kP⟩
 refine Tr.rx ?_
 refine ay ?_
 refine xo rfl (fun _=>AA rfl underlying63 AH (vl rfl) (vl rfl) (by omega) (by omega)) (C0 1 rfl rfl (Ae rfl Aw AH (vl rfl) (Aa (f:=AL) (fun _=>rfl) (by omega)) rfl) ?_)
 refine ay ?_
 refine xo rfl (fun _=>AA rfl underlying63 AH (vl rfl) (vl rfl) (by omega) (by omega)) (C0 1 rfl rfl (Ae rfl Aw AH (vl rfl) (Aa (f:=AL) (fun _=>rfl) (by omega)) rfl) (xo rfl (fun _=>AA rfl underlying63 AH (vl rfl) (vl rfl) (by omega) (by omega)) ?_))
 refine Cx.CY 1 rfl rfl (AW rfl rfl (vl rfl) (Va rfl) AH rfl (by rw [AV (sz:=8) (fun _=>rfl)];omega) (AQ (f:=AL) (fun _=>rfl) (by omega))) ?_
 refine xo rfl (fun _=>AA rfl underlying63 AH (vl rfl) (vl rfl) (by omega) (by omega)) ?_
 refine Cx.CY 1 rfl rfl (AW rfl rfl (vl rfl) (Va rfl) AH rfl (by rw [AV (sz:=8) (fun _=>rfl)];simp only [List.length_set];omega) (AQ (f:=AL) (fun _=>rfl) (by simp only [List.length_set];omega))) ?_
 refine Cx.nil ⟨by kernel_rfl,?_⟩
 refine BP.done lZ ?_
 refine ac ?_
 refine EZ 0 1 8 9 10 11 rfl ?_
 refine ac ?_
 exact Fin.BW (i+1) (_)  (⟨⟨⟨by omega,by omega⟩,by simp only [List.length_set];exact Gp,DQ.swap (by omega) (by omega) (by omega) (by omega) (by omega) (by omega) (by omega)⟩,by omega⟩) ⟨ke rfl,ke rfl,ke rfl,ke rfl,ke rfl,ke rfl,trivial⟩ (fun _ _ h=>h)
 have:=h2
 refine Tr.exit (Fin.AG (Fin.AG (Fin.AP (Fin.Bl (B6 a b l) 1 rfl (by exact DQ) ?_))))
 refine Fin.drop 0 (Fin.FY rfl)
 refine Tr.skip (Fin.Bl (B6 a b l) 0 rfl (by exact B6.refl _ _ _) ?_)
 exact Fin.FY rfl
theorem VV {l:List BF} {c:BF×BF→Int} {b0 cap len:Nat} {sp:List Value} {a b JM:Int} (Ep:l.length=len) (Gn:len≤1000000) (hw:Go.Sort.SWO (Bp c)) (VW:len<50) (hB:Go.Sort.Below (Bp c) a.toNat b.toNat l.toArray) (h0:0≤a) (hab:a≤b) (hb:b≤len) (Sa:0≤JM) (aE:JM≤100) (m:Nat) (hm:(b-a).toNat<m) (ih:∀{l:List BF} {a b JM:Int} {sp:List Value},l.length=len→Go.Sort.Below (Bp c) a.toNat b.toNat l.toArray→0≤a→a≤b→b≤len→0≤JM→JM≤100→(b-a).toNat+1<m→BQ prog 130 [is (.slice (some ⟨b0,0,none⟩) len cap),int a,int b,int JM,Gh prog (fun x:BF×BF=>[agg (AL x.1),agg (AL x.2)]) (fun x=>int (c x))] (CC) (AD true b0 110 ((l.map AL).flatten++sp.map is)) (fun _=>Bw b0 110 AL (CS c a b l) (sp.map is)))  :BQ prog 130 [is (.slice (some ⟨b0,0,none⟩) len cap),int a,int b,int JM,Gh prog (fun x:BF×BF=>[agg (AL x.1),agg (AL x.2)]) (fun x=>int (c x))] (CC) (AD true b0 110 ((l.map AL).flatten++sp.map is)) (fun _=>Bw b0 110 AL (CS c a b l) (sp.map is)):=by
 refine BQ.of func130 rfl rfl (by exact Nb rfl) fun M0 w0 S rs M1 w1=> ?_
 have hls:b.toNat≤l.toArray.size:=by simp only [List.size_toArray];omega
 refine a2 ?_
 refine Tr.block (Tr.OM [(0,_),(4,_)] ⟨ke rfl,ke rfl,trivial⟩ (fun (a1:Int) (b1:Int) (p:Int×Bool×Bool) (st:List BF)=>[(1,int a1),(2,int b1),(3,int p.1),(10,bool p.2.1),(11,bool p.2.2)]) (fun (a1:Int) (b1:Int) (p:Int×Bool×Bool) (st:List BF)=>Hp M0 w0 S (AD true b0 110 ((st.map AL).flatten++sp.map is)::Ai M1 w1::rs)) (fun (a1:Int) (b1:Int) (p:Int×Bool×Bool) (st:List BF)=>((a≤a1∧a1≤b1∧b1≤b)∧0≤p.1∧p.1≤100)∧st.length=len∧PS (Bp c) a.toNat b.toNat a1.toNat b1.toNat l.toArray st.toArray) (fun (a1:Int) (b1:Int) (p:Int×Bool×Bool) (st:List BF)=>(b1-a1).toNat) (a) (b) ((JM,(true,true))) (l)  (⟨⟨⟨by omega,hab,by omega⟩,Sa,aE⟩,Ep,PS.init (by omega) hB⟩) ⟨ke rfl,ke rfl,ke rfl,ke rfl,ke rfl,trivial⟩ (fun _ _ h=>h) ?_)
 rintro a1 b1 p st  ⟨⟨⟨nW,nX,nY⟩,WR,Qf⟩,Gp,hps⟩
 refine ac ?_
 refine an ?_ ?_<;>intro h1 q1
 refine ap ?_
 refine TO.DB 0 rfl rfl (by decide) (AU rfl rfl (by decide) rfl (Xz (by omega) (by omega) hw (by omega) (by omega) (by omega)) ⟨ke rfl,ke rfl,ke rfl,ke rfl,trivial⟩) (TO.B9 0 rfl fun t1 Fo=> ?_)
 have HW:=Fo.len
 have hdone:=(hps.perm hls Fo.1).done Fo.2
 refine ap ?_
 refine Tr.weak [] trivial (Tr.ret (Fin.AF (Fin.AK (Fin.AF (Fin.AK (Fin.Bl (CS c a b l) 0 rfl (hdone) (Fin.Ef rfl)))))))
 refine a2 ?_
 refine N_ 0 1 2 3 4 10 11 12 32 rfl ?_
 refine Tr.cn rfl ?_ ?_<;>intro h2 q2
 refine ap ?_
 refine TO.DB 0 rfl rfl (by decide) (AU rfl rfl (by decide) rfl (VP (by omega) (by omega) hw (by omega) (by omega) (by omega)) ⟨ke rfl,ke rfl,ke rfl,ke rfl,trivial⟩) (TO.B9 0 rfl fun t2 Jq=> ?_)
 have Qf:=Jq.len
 have hdone:=(hps.perm hls Jq.1).done Jq.2
 refine ap ?_
 refine Tr.weak [] trivial (Tr.ret (Fin.AF (Fin.AK (Fin.AF (Fin.AK (Fin.Bl (CS c a b l) 0 rfl (hdone) (Fin.Ef rfl)))))))
 refine ac ?_
 refine Tr.KO [(0,_),(1,_),(2,_),(4,_),(10,_),(11,_),(12,_)] ⟨ke rfl,ke rfl,ke rfl,ke rfl,ke rfl,ke rfl,ke rfl,trivial⟩ (fun (FF:Int) (D5:List BF)=>[(3,int FF)]) (fun (FF:Int) (D5:List BF)=>Hp M0 w0 S (AD true b0 110 ((D5.map AL).flatten++sp.map is)::Ai M1 w1::rs)) (fun (FF:Int) (D5:List BF)=>0≤FF∧FF≤100∧D5.length=len∧PS (Bp c) a.toNat b.toNat a1.toNat b1.toNat l.toArray D5.toArray) ?_ ?_
 refine an ?_ ?_<;>intro h3 q3
 refine ap ?_
 refine TO.DB 0 rfl rfl (by decide) (AU rfl rfl (by decide) rfl (X4 (by omega) (by omega) (by omega) (by omega) (by omega) (by omega)) ⟨ke rfl,ke rfl,ke rfl,ke rfl,trivial⟩) (TO.B9 0 rfl fun t3 fK=> ?_)
 have kQ:=fK.len
 have hps:=hps.perm hls fK
 refine ap ?_
 refine HU 0 1 2 3 4 10 11 12 rfl ?_
 refine ac ?_
 exact Fin.BW (_) (_)  (⟨by omega,by omega,by omega,hps⟩) ⟨ke rfl,ke rfl,ke rfl,ke rfl,ke rfl,ke rfl,ke rfl,ke rfl,trivial⟩ (fun _ _ h=>h)
 refine Tr.skip (Fin.BW (_) (_)  (⟨by omega,by omega,by omega,hps⟩) ⟨ke rfl,ke rfl,ke rfl,ke rfl,ke rfl,ke rfl,ke rfl,ke rfl,trivial⟩ (fun _ _ h=>h))
 rintro FF D5  ⟨Lh,Li,Lb,hps⟩
 refine ap ?_
 refine TO.DB 0 rfl rfl (by decide) (AU rfl rfl (by decide) rfl (X3 (by omega) (by omega) (by omega) (by omega) (by omega) (by omega)) ⟨ke rfl,ke rfl,ke rfl,ke rfl,trivial⟩) ?_
 refine TO.ex 52 rfl (fun z1=>TO.fact 52 rfl fun KD=> ?_)
 obtain ⟨aH,aI⟩:=KD
 refine ap ?_
 refine FM 0 1 2 3 4 10 11 12 13 14 rfl (Tr.RU [(0,_),(1,_),(2,_),(3,_),(4,_),(10,_),(11,_),(12,_)] ⟨ke rfl,ke rfl,ke rfl,ke rfl,ke rfl,ke rfl,ke rfl,ke rfl,trivial⟩ (fun (pv:Int) (hint:Int) (PL:List BF)=>[(13,int pv),(14,int hint)]) (fun (pv:Int) (hint:Int) (PL:List BF)=>Hp M0 w0 S (AD true b0 110 ((PL.map AL).flatten++sp.map is)::Ai M1 w1::rs)) (fun (pv:Int) (hint:Int) (PL:List BF)=>(a1≤pv∧pv<b1)∧PL.length=len∧PS (Bp c) a.toNat b.toNat a1.toNat b1.toNat l.toArray PL.toArray) ?_ ?_)
 refine an ?_ ?_<;>intro h4 q4
 refine ap ?_
 refine TO.DB 0 rfl rfl (by decide) (AU rfl rfl (by decide) rfl (X0 (by omega) (by omega) (by omega) (by omega) (by omega)) ⟨ke rfl,ke rfl,ke rfl,ke rfl,trivial⟩) (TO.B9 0 rfl fun t5 fL=> ?_)
 have kR:=fL.len
 have hps:=hps.perm hls fL
 refine ap ?_
 refine N_ 0 1 2 3 4 10 11 12 13 rfl ?_
 refine ac ?_
 refine N_ 0 1 2 3 4 10 11 12 13 rfl ?_
 refine ac ?_
 exact Fin.Cj (_) (_) (_)  (⟨⟨by omega,by omega⟩,by omega,hps⟩) ⟨ke rfl,ke rfl,ke rfl,ke rfl,ke rfl,ke rfl,ke rfl,ke rfl,ke rfl,ke rfl,trivial⟩ (fun _ _ h=>h)
 refine Tr.skip (Fin.Cj (_) (_) (_)  (⟨⟨by omega,by omega⟩,by omega,hps⟩) ⟨ke rfl,ke rfl,ke rfl,ke rfl,ke rfl,ke rfl,ke rfl,ke rfl,ke rfl,ke rfl,trivial⟩ (fun _ _ h=>h))
 rintro pv hint PL  ⟨⟨aH,aI⟩,kS,hps⟩
 refine FM 0 1 2 3 4 10 11 12 13 14 rfl (Tr.Gr [0,1,2,3,4,10,11,12,13] [] (True) ?_ (fun h5=> ?_))
 refine ag ?_ ?_<;>intro h6 q6
 refine ag ?_ ?_<;>intro h7 q7
 refine ac ?_
 refine FM 0 1 2 3 4 10 11 12 13 75 rfl ?_
 refine Tr.cn rfl ?_ ?_<;>intro h8 q8
 refine ap ?_
 refine TO.DB 0 rfl rfl (by decide) (AU rfl rfl (by decide) rfl (VU (by omega) (by omega) hw (by omega) (by omega) (by omega) (by omega)) ⟨ke rfl,ke rfl,ke rfl,ke rfl,trivial⟩) ?_
 refine TO.ex 80 rfl (fun z2=>TO.fact 80 rfl fun Tj=> ?_)
 have Px:=Tj
 refine ap ?_
 refine FM 0 1 2 3 4 10 11 12 13 80 rfl ?_
 refine Tr.cn rfl ?_ ?_<;>intro h9 q9
 have hdone:=hps.done (Px h9)
 refine Tr.ret (Fin.AF (Fin.AK (Fin.AF (Fin.AK (Fin.Bl (CS c a b l) 0 rfl (hdone) (Fin.Ef rfl))))))
 refine Tr.skip (Fin.AE () (by simp_all) (gR rfl))
 refine Tr.skip (Fin.AE () (by simp_all) (gR rfl))
 refine ac ?_
 refine FM 0 1 2 3 4 10 11 12 13 75 rfl (Tr.cond rfl (fun h=>nomatch h) (fun _=> ?_))
 refine Tr.skip (Fin.AE () (by simp_all) (gR rfl))
 refine ac ?_
 refine FM 0 1 2 3 4 10 11 12 13 75 rfl (Tr.cond rfl (fun h=>nomatch h) (fun _=> ?_))
 refine Tr.skip (Fin.AE () (by simp_all) (gR rfl))
 refine ag ?_ ?_<;>intro h10 SQ
 refine ac ?_
 refine cy h10 rfl (AA rfl underlying63 AH (vl rfl) (vl rfl) (by omega) (by omega)) (cy h10 rfl (As 0 rfl (Ae rfl Aw AH (vl rfl) (Aa (f:=AL) (fun _=>rfl) (by omega)) rfl)) ?_)
 refine ac ?_
 refine cy h10 rfl (AA rfl underlying63 AH (vl rfl) (vl rfl) (by omega) (by omega)) (cy h10 rfl (As 0 rfl (Ae rfl Aw AH (vl rfl) (Aa (f:=AL) (fun _=>rfl) (by omega)) rfl)) (cy h10 rfl (A9 (_,_) rfl (vl rfl) ⟨ke rfl,ke rfl,trivial⟩) ?_))
 refine ac ?_
 refine FM 0 1 2 3 4 10 11 12 13 97 rfl ?_
 refine Tr.cn rfl ?_ ?_<;>intro h11 WV
 refine ap ?_
 refine TO.DB 0 rfl rfl (by decide) (AU rfl rfl (by decide) rfl (X1 (by omega) (by omega) (by omega) (by omega) (by omega) (by omega) (by omega)) ⟨ke rfl,ke rfl,ke rfl,ke rfl,ke rfl,trivial⟩) (TO.B9 0 rfl fun t7 fM=> ?_)
 have kT:=fM.len
 obtain ⟨hps,hk1,hk2⟩:=hps.lU hw hls fM (by omega) (by omega) rfl (by omega) (by omega) (by omega) (by omega) (by omega) (by assumption)
 refine ap ?_
 refine Ea 0 2 3 4 10 11 15 rfl ?_
 refine ac ?_
 refine Tr.exit (Fin.AG (Fin.AP (Fin.EN (_) (_) ((FF,(_,_))) (_)  (⟨⟨⟨⟨by omega,by omega,by omega⟩,Lh,Li⟩,by omega,by exact hps⟩,by omega⟩) ⟨ke rfl,ke rfl,ke rfl,ke rfl,ke rfl,ke rfl,ke rfl,trivial⟩ (fun _ _ h=>h))))
 refine ac ?_
 refine ap ?_
 refine TO.DB 0 rfl rfl (by decide) (AU rfl rfl (by decide) rfl (PK (by omega) (by omega) (by omega) (by omega) (by omega) (by omega) (by omega)) ⟨ke rfl,ke rfl,ke rfl,ke rfl,ke rfl,trivial⟩) ?_
 refine TO.ex 111 rfl (fun z3=>TO.fact 111 rfl fun kK=> ?_)
 refine TO.B9 0 rfl fun t8 fN=> ?_
 have kU:=fN.len
 obtain ⟨aJ,JP⟩:=HM hw fN (by omega) (by omega) (by omega) (by omega)
 have hps:=hps.perm hls aJ
 have hk1:=JP.h1
 have hk2:=JP.h2
 generalize (PA c a1 b1 pv PL).1=k at*
 refine ap ?_
 refine HU 0 1 2 3 4 12 16 17 rfl ?_
 refine a2 ?_
 refine FM 0 1 2 3 4 11 12 16 18 19 rfl ?_
 refine ac ?_
 refine co rfl (CX rfl (vl rfl) (vl rfl) (by omega)) ?_
 refine a2 ?_
 refine Hr 0 1 2 3 4 11 16 18 19 20 125 rfl ?_
 refine Tr.cn rfl ?_ ?_<;>intro h12 SV
 refine ac ?_
 refine HU 0 1 2 3 4 10 11 16 rfl ?_
 refine ap ?_
 refine TO.DB 0 rfl rfl (by decide) (AU rfl rfl (by decide) rfl (ih (by omega) (by exact hps.Nc (Nat.le_of_lt JP.h2)) (by omega) (by omega) (by omega) (by omega) (by omega) (by omega)) ⟨ke rfl,ke rfl,ke rfl,ke rfl,ke rfl,trivial⟩) ?_
 refine TO.B9 0 rfl fun t9 aK=> ?_
 have kV:=aK.len
 have hps:=hps.left hw hls JP aK.1 aK.2
 refine ap ?_
 refine Ea 0 2 3 4 10 11 16 rfl ?_
 refine ac ?_
 exact Fin.EN (_) (_) ((FF,(_,_))) (_)  (⟨⟨⟨⟨by omega,by omega,by omega⟩,Lh,Li⟩,by omega,by exact hps⟩,by omega⟩) ⟨ke rfl,ke rfl,ke rfl,ke rfl,ke rfl,ke rfl,ke rfl,trivial⟩ (fun _ _ h=>h)
 refine ac ?_
 refine HU 0 1 2 3 4 10 11 16 rfl ?_
 refine ap ?_
 refine TO.DB 0 rfl rfl (by decide) (AU rfl rfl (by decide) rfl (ih (by omega) (by exact JP.Nd) (by omega) (by omega) (by omega) (by omega) (by omega) (by omega)) ⟨ke rfl,ke rfl,ke rfl,ke rfl,ke rfl,trivial⟩) ?_
 refine TO.B9 0 rfl fun t10 Qi=> ?_
 have fO:=Qi.len
 have hps:=hps.right hw hls JP Qi.1 Qi.2
 refine ap ?_
 refine Ea 0 1 3 4 10 11 16 rfl ?_
 refine ac ?_
 exact Fin.EN (_) (_) ((FF,(_,_))) (_)  (⟨⟨⟨⟨by omega,by omega,by omega⟩,Lh,Li⟩,by omega,by exact hps⟩,by omega⟩) ⟨ke rfl,ke rfl,ke rfl,ke rfl,ke rfl,ke rfl,ke rfl,trivial⟩ (fun _ _ h=>h)
 refine ac ?_
 refine FM 0 1 2 3 4 10 11 12 13 97 rfl ?_
 refine ac ?_
 refine ap ?_
 refine TO.DB 0 rfl rfl (by decide) (AU rfl rfl (by decide) rfl (PK (by omega) (by omega) (by omega) (by omega) (by omega) (by omega) (by omega)) ⟨ke rfl,ke rfl,ke rfl,ke rfl,ke rfl,trivial⟩) ?_
 refine TO.ex 111 rfl (fun z4=>TO.fact 111 rfl fun nZ=> ?_)
 refine TO.B9 0 rfl fun t11 VX=> ?_
 have fP:=VX.len
 obtain ⟨aJ,JP⟩:=HM hw VX (by omega) (by omega) (by omega) (by omega)
 have hps:=hps.perm hls aJ
 have hk1:=JP.h1
 have hk2:=JP.h2
 generalize (PA c a1 b1 pv PL).1=k at*
 refine ap ?_
 refine HU 0 1 2 3 4 12 16 17 rfl ?_
 refine a2 ?_
 refine FM 0 1 2 3 4 11 12 16 18 19 rfl ?_
 refine ac ?_
 refine co rfl (CX rfl (vl rfl) (vl rfl) (by omega)) ?_
 refine a2 ?_
 refine Hr 0 1 2 3 4 11 16 18 19 20 125 rfl ?_
 refine Tr.cn rfl ?_ ?_<;>intro I7 Ud
 refine ac ?_
 refine HU 0 1 2 3 4 10 11 16 rfl ?_
 refine ap ?_
 refine TO.DB 0 rfl rfl (by decide) (AU rfl rfl (by decide) rfl (ih (by omega) (by exact hps.Nc (Nat.le_of_lt JP.h2)) (by omega) (by omega) (by omega) (by omega) (by omega) (by omega)) ⟨ke rfl,ke rfl,ke rfl,ke rfl,ke rfl,trivial⟩) ?_
 refine TO.B9 0 rfl fun t12 Qj=> ?_
 have fQ:=Qj.len
 have hps:=hps.left hw hls JP Qj.1 Qj.2
 refine ap ?_
 refine Ea 0 2 3 4 10 11 16 rfl ?_
 refine ac ?_
 exact Fin.EN (_) (_) ((FF,(_,_))) (_)  (⟨⟨⟨⟨by omega,by omega,by omega⟩,Lh,Li⟩,by omega,by exact hps⟩,by omega⟩) ⟨ke rfl,ke rfl,ke rfl,ke rfl,ke rfl,ke rfl,ke rfl,trivial⟩ (fun _ _ h=>h)
 refine ac ?_
 refine HU 0 1 2 3 4 10 11 16 rfl ?_
 refine ap ?_
 refine TO.DB 0 rfl rfl (by decide) (AU rfl rfl (by decide) rfl (ih (by omega) (by exact JP.Nd) (by omega) (by omega) (by omega) (by omega) (by omega) (by omega)) ⟨ke rfl,ke rfl,ke rfl,ke rfl,ke rfl,trivial⟩) ?_
 refine TO.B9 0 rfl fun t13 Qk=> ?_
 have fR:=Qk.len
 have hps:=hps.right hw hls JP Qk.1 Qk.2
 refine ap ?_
 refine Ea 0 1 3 4 10 11 16 rfl ?_
 refine ac ?_
 exact Fin.EN (_) (_) ((FF,(_,_))) (_)  (⟨⟨⟨⟨by omega,by omega,by omega⟩,Lh,Li⟩,by omega,by exact hps⟩,by omega⟩) ⟨ke rfl,ke rfl,ke rfl,ke rfl,ke rfl,ke rfl,ke rfl,trivial⟩ (fun _ _ h=>h)
theorem Rv:∀(m:Nat) {l:List BF} {c:BF×BF→Int} {b0 cap len:Nat} {sp:List Value} {a b JM:Int},(Ep:l.length=len)→(Gn:len≤1000000)→(hw:Go.Sort.SWO (Bp c))→(VW:len<50)→Go.Sort.Below (Bp c) a.toNat b.toNat l.toArray→0≤a→a≤b→b≤len→0≤JM→JM≤100→(b-a).toNat<m→BQ Tryz.prog 130 [is (.slice (some ⟨b0,0,none⟩) len cap),int a,int b,int JM,Gh Tryz.prog (fun x:BF×BF=>[agg (AL x.1),agg (AL x.2)]) (fun x=>int (c x))] (CC) (AD true b0 110 ((l.map AL).flatten++sp.map is)) (fun _=>Bw b0 110 AL (CS c a b l) (sp.map is))
 |0,_,_,_,_,_,_,_,_,_,_,_,_,_,_,_,_,_,_,_,h=>absurd h (Nat.not_lt_zero _)
 |m+1,_,_,_,_,_,_,_,_,_,Ep,Gn,hw,VW,hB,h0,hab,hb,Sa,aE,hm=>VV Ep Gn hw VW hB h0 hab hb Sa aE (m+1) hm (fun h1 h2 h3 h4 h5 h6 h7 h8=>Rv m h1 Gn hw VW h2 h3 h4 h5 h6 h7 (by omega))
theorem X5 {l:List BF} {c:BF×BF→Int} {b0 cap len:Nat} {sp:List Value}  (Ep:l.length=len) (hw:Go.Sort.SWO (Bp c)) (VW:len<50):BQ prog 74 [is (.slice (some ⟨b0,0,none⟩) len cap),Gh prog (fun x:BF×BF=>[agg (AL x.1),agg (AL x.2)]) (fun x=>int (c x))] (CC) (AD true b0 110 ((l.map AL).flatten++sp.map is)) (fun _=>Bw b0 110 AL (CS c 0 len l) (sp.map is)):=by
 refine BQ.of func74 rfl rfl (by exact Nb rfl) fun M0 w0 S rs M1 w1=> ?_
 have kW:IntKind.u64.wrap ((len:Nat):Int)=len:=IntWalk.u64_in _ ⟨by omega,by omega⟩
 refine ac ?_
 refine co rfl (Dz rfl underlying63 (vl rfl)) ?_
 refine ac ?_
 refine ap ?_
 refine tp rfl (Ci rfl underlying3 underlying137 (vl rfl)) (tp rfl (Cr (KV (by omega) (by omega)) rfl rfl) ?_)
 refine TO.ex 11 rfl (fun k=>TO.fact 11 rfl fun hk=> ?_)
 obtain ⟨hk1,hk2,kI⟩:=hk
 refine tm rfl (TO.DB 0 rfl rfl (by decide) (AU rfl rfl (by decide) rfl (Rv (len+1) (by omega) (by omega) hw (by omega) (.inl rfl) (by omega) (by omega) (by omega) (by omega) (by omega) (by omega)) ⟨ke rfl,ke rfl,ke rfl,ke rfl,ke rfl,trivial⟩) (TO.B9 0 rfl fun t1 Fo=> ?_))
 have HW:=Fo.len
 refine TO.nil (Fin.Bl (CS c 0 len l) 0 rfl (Fo) (Fin.FY rfl))
theorem X6 {rows:List (List Pr)} {b:Int} (hb:b≤1):BT prog 174 [slice 8 rows,int 0,int b,any] (CC):=by
 refine fo func174 rfl ⟨rfl,rfl⟩ fun M0 w0=> ?_
 refine ac ?_
 refine Tr.block (Tr.BU [(0,_),(1,_),(2,_),(3,_)] (KH rfl) (fun i:Int=>[(8,int i)]) (fun i:Int=>i=1) (fun i:Int=>0) 1 (rfl) ⟨ke rfl,trivial⟩ ?_)
 rintro i hi
 refine an ?_ ?_<;>intro h1 q1
 have:=h1
 exfalso;omega
 have:=h1
 refine Tr.exit (Fin.AG (Fin.AG (Fin.AP (Fin.QD rfl))))
theorem X7 {rows:List (List Pr)} {b:Int} (h0:0≤b) (hb:b≤1):BT prog 130 [slice 8 rows,int 0,int b,any,any] (CC):=by
 refine fo func130 rfl ⟨rfl,rfl⟩ fun M0 w0=> ?_
 refine a2 ?_
 refine Tr.block (Tr.BU [(0,_),(4,_)] (RC rfl) (fun (u:Unit)=>[(1,int 0),(2,int b)]) (fun (u:Unit)=>True) (fun (u:Unit)=>0) () (trivial) ⟨ke rfl,ke rfl,trivial⟩ ?_)
 rintro u _
 refine ac ?_
 refine an ?_ ?_<;>intro h1 q1
 refine ac ?_
 refine co rfl (jh (X6 (by omega)) rfl rfl rfl rfl rfl) ?_
 refine ac ?_
 refine Tr.weak [] trivial (Tr.ret (Fin.AF (Fin.AK (Fin.AF (Fin.AK (Fin.RJ rfl))))))
 exfalso;omega
theorem VY {rows:List (List Pr)} (hs:rows.length≤1):BT prog 74 [slice 8 rows,any] (CC):=by
 refine fo func74 rfl ⟨rfl,rfl⟩ fun M0 w0=> ?_
 have hw:IntKind.u64.wrap ((rows.length:Nat):Int)=rows.length:=IntWalk.u64_in _ ⟨by omega,by omega⟩
 refine ac ?_
 refine co rfl (Gw rfl underlying63 (vl rfl)) ?_
 refine a2 ?_
 refine co rfl (Ci rfl underlying3 underlying137 (vl rfl)) (co rfl (Cr (KV (by omega) (by omega)) rfl rfl) (cm rfl (co rfl (Ah rfl (X7 (rows:=rows) (b:=(rows.length:Int)) (by omega) (by omega)) ⟨ke rfl,ke rfl,ke rfl,⟨_,rfl,Cs _⟩,⟨_,rfl,Cs _⟩,trivial⟩) (Ch.nil (Fin.QD rfl)))))
theorem VZ {l:List BF} {c:BF×BF→Int} {v:Value} (hw:Go.Sort.SWO (Bp c)) (hs:l.length<50):BQ Tryz.prog 74 [is v,Gh Tryz.prog (fun x:BF×BF=>[agg (AL x.1),agg (AL x.2)]) (fun x=>int (c x))] CC (Bc 110 8 (l.map AL) v) (fun _=>LA 110 8 AL (CS c 0 l.length l) v):=by
 refine BQ.XI (fun h=>⟨?_,?_⟩) (fun b cap sp=>X5 rfl hw hs) (fun st h=>h.len) ⟨_,Tryz.func74,rfl,rfl⟩
 ·
  refine BT.le (VY (rows:=[]) (by decide)) ?_ (Pr.le_refl _)
  rintro M w vs hv
  match vs,hv with
  |[a,b],⟨h1,h2,h3⟩=>exact ⟨AZ _ M w a h1,trivial,h3⟩
 · subst h;exact ⟨Go.Sort.permIn_refl _ _ _,fun i j h1 h2 h3=>by simp at h3⟩
def En (a b:BF):Int:=Fq [Lib.compareBytes a.BM b.BM,Ar a.kind b.kind,Ar a.BI b.BI,Ar a.bits b.bits,Ar a.num b.num,Lib.compareBytes a.text b.text]
theorem Ex:JJ En:=by
 have:=(GA.on BF.BM).cons ((CO.on BF.kind).cons ((CO.on BF.BI).cons ((CO.on BF.bits).cons ((CO.on BF.num).cons ((GA.on BF.text).cons (JJ.nil (α:=BF)))))))
 exact this
theorem X8 (l:List Ac) (own:List Int) (t o:Int):(Co l own t o).length≤own.length:=by
 have key:∀(own:List Int) (m:List (Ft×Int)),(own.foldl (Dj l t o) m).length≤m.length+own.length:=by
  intro own
  induction own with
  |nil=>intro m;simp
  |cons i own ih=>
   intro m
   have h1:=ih (Dj l t o m i)
   have h2:(Dj l t o m i).length≤m.length+1:=by
    have hu:∀k,(Ee m k i).length≤m.length+1:=fun k=>by
     unfold Ee;split<;>simp
    unfold Dj
    split
    · omega
    ·
     split
     · omega
     ·
      split
      · exact hu _
      ·
       split
       · omega
       ·
        split
        · exact hu _
        · omega
   simp only [List.foldl_cons,List.length_cons];omega
 have:=key own []
 show (own.foldl (Dj l t o) []).length≤_
 simpa using this
theorem Sv {m:Nat} {seen:List Nat} (hn:seen.Nodup) (hlt:∀q∈seen,q<m) (hall:∀q,q<m→q∈seen):seen.Perm (List.range m):=by
 rw [List.perm_ext_iff_of_nodup hn List.nodup_range]
 intro q;rw [List.mem_range];exact ⟨hlt q,hall q⟩
theorem Ql {α β:Type} (m:List α) (g:α→Option β):((List.range m.length).filterMap fun q=>(m[q]?).bind g)=m.filterMap g:=by
 have key:∀k,k≤m.length→((List.range k).filterMap fun q=>(m[q]?).bind g)=(m.take k).filterMap g:=by
  intro k
  induction k with
  |zero=>intro _;rfl
  |succ k ih=>
   intro hk
   obtain ⟨x,hx⟩:=at_ (l:=m) (k:=k) (by omega)
   rw [List.range_succ,List.filterMap_append,GY g hx,ih (by omega),LQ,hx];rfl
 rw [key m.length (Nat.le_refl _),List.take_length]
theorem Sw {l:List Ac} {n:Int} {m:List (Ft×Int)} {seen:List Nat} (hn:seen.Nodup) (hlt:∀q∈seen,q<m.length) (hall:∀q,q<m.length→q∈seen):(MD l n m seen).Perm (m.filterMap fun p=>Cg l n p.2):=by
 rw [←Ql]
 exact (Sv hn hlt hall).filterMap _
theorem Qm {a b:BF}  :BT prog 75 [agg (AL a),agg (AL b)] (int (En a b)):=by
 refine fo func75 rfl ⟨rfl,rfl⟩ fun M0 w0=> ?_
 refine a2 ?_
 refine co rfl (EE (QI) rfl rfl rfl) ?_
 refine ac ?_
 refine co rfl (EE (LG) rfl rfl rfl) ?_
 refine ac ?_
 refine co rfl (EE (LG) rfl rfl rfl) ?_
 refine ac ?_
 refine co rfl (EE (LG) rfl rfl rfl) ?_
 refine ac ?_
 refine co rfl (EE (LG) rfl rfl rfl) ?_
 refine ac ?_
 refine co rfl (EE (QI) rfl rfl rfl) (co rfl (AM (xs:=[.tmp 9,.tmp 14,.tmp 21,.tmp 28,.tmp 33,.tmp 38]) (rows:=[[_],[_],[_],[_],[_],[_]]) rfl rfl underlying22 A4 z3 rfl (by decide) ⟨⟨(by exact rfl),(Vo rfl)⟩,⟨⟨(by exact rfl),(Vo rfl)⟩,⟨⟨(by exact rfl),(Vo rfl)⟩,⟨⟨(by exact rfl),(Vo rfl)⟩,⟨⟨(by exact rfl),(Vo rfl)⟩,⟨⟨(by exact rfl),(Vo rfl)⟩,trivial⟩⟩⟩⟩⟩⟩ (by decide)) ?_)
 refine co rfl (Ah rfl (eJ (l:=[Lib.compareBytes a.BM b.BM,Ar a.kind b.kind,Ar a.BI b.BI,Ar a.bits b.bits,Ar a.num b.num,Lib.compareBytes a.text b.text])) ⟨(Kf rfl),trivial⟩) ?_
 refine ac ?_
 refine CM 4 rfl ?_
 refine ac ?_
 · exact int_eq (KQ _)
theorem Qn:Entry Tryz.prog 75:=⟨_,Tryz.func75,rfl,rfl⟩
theorem My {m:List (Ft×Int)} {k:Ft} (h:Cp.look m k=none):∀p∈m,¬p.1=k:=by
 intro p hp e
 unfold Cp.look at h
 rw [Option.map_eq_none_iff,List.find?_eq_none] at h
 exact h p hp (by simp [e])
theorem JQ {m:List (Ft×Int)} {k:Ft} {j:Int} (h:Cp.look m k=some j):(k,j)∈m:=by
 unfold Cp.look at h
 rw [Option.map_eq_some_iff] at h
 obtain ⟨p,h1,h2⟩:=h
 have h3:=List.find?_some h1
 have h4:k=p.1:=by simpa using h3
 have h5:=List.mem_of_find?_eq_some h1
 rw [h4,←h2];exact h5
abbrev PM (m:List (Ft×Int)):Prop:=m.Pairwise fun p q=>¬p.1=q.1
theorem keys_eq {m:List (Ft×Int)} (h:PM m) {p q:Ft×Int} (hp:p∈m) (hq:q∈m) (e:p.1=q.1):p=q:=by
 induction m with
 |nil=>cases hp
 |cons a m ih=>
  obtain ⟨h1,h2⟩:=List.pairwise_cons.1 h
  rcases List.mem_cons.1 hp with KE|KE<;>rcases List.mem_cons.1 hq with fS|fS
  · rw [KE,fS]
  · rw [KE] at e;exact absurd e (h1 q fS)
  · rw [fS] at e;exact absurd e.symm (h1 p KE)
  · exact ih h2 KE fS
theorem X9 {m:List (Ft×Int)} {k:Ft} {v:Int} (h:Cp.look m k=none):Ee m k v=m++[(k,v)]:=by
 refine Cp.MS ?_
 rw [List.findIdx?_eq_none_iff]
 intro p hp
 have:=My h p hp
 simpa using fun e=>this e.symm
theorem X_ {m:List (Ft×Int)} {k:Ft} {j v:Int} (hn:PM m) (h:Cp.look m k=some j):PM (Ee m k v)∧∀p,p∈Ee m k v↔p=(k,v)∨(p∈m∧¬p.1=k):=by
 induction m with
 |nil=>cases JQ h
 |cons a m ih=>
  obtain ⟨h1,h2⟩:=List.pairwise_cons.1 hn
  by_cases ha:k=a.1
  ·
   have e:Ee (a::m) k v=(k,v)::m:=by
    rw [Cp.HK (i:=0) (by rw [List.findIdx?_cons];simp [ha])];rfl
   rw [e]
   refine ⟨List.pairwise_cons.2 ⟨fun q hq=> ?_,h2⟩,fun p=>⟨fun hp=> ?_,fun hp=> ?_⟩⟩
   · show ¬k=q.1;rw [ha];exact h1 q hq
   ·
    rcases List.mem_cons.1 hp with rfl|hp
    · exact .inl rfl
    · exact .inr ⟨List.mem_cons_of_mem _ hp,by rw [ha];exact fun e=>h1 p hp e.symm⟩
   ·
    rcases hp with rfl|⟨hp,hk⟩
    · exact List.mem_cons_self ..
    ·
     rcases List.mem_cons.1 hp with rfl|hp
     · exact absurd ha.symm hk
     · exact List.mem_cons_of_mem _ hp
  ·
   have hl:Cp.look m k=some j:=by
    unfold Cp.look at h ⊢
    rw [List.find?_cons_of_neg (by simpa using ha)] at h;exact h
   obtain ⟨q,hq⟩:∃q,(m.findIdx? fun p=>decide (k=p.1))=some q:=by
    cases hf:m.findIdx? fun p=>decide (k=p.1) with
    |some q=>exact ⟨q,rfl⟩
    |none=>
     rw [List.findIdx?_eq_none_iff] at hf
     have:=hf _ (JQ hl)
     simp at this
   have e:Ee (a::m) k v=a::Ee m k v:=by
    rw [Cp.HK hq,Cp.HK (i:=q+1) (by rw [List.findIdx?_cons];simp [ha,hq])];rfl
   obtain ⟨h3,h4⟩:=ih h2 hl
   rw [e]
   refine ⟨List.pairwise_cons.2 ⟨fun p hp=> ?_,h3⟩,fun p=> ?_⟩
   ·
    rcases (h4 p).1 hp with rfl|⟨hp,_⟩
    · exact fun e=>ha e.symm
    · exact h1 p hp
   ·
    rw [List.mem_cons,h4 p,List.mem_cons]
    constructor
    ·
     rintro (rfl|h|⟨h,h'⟩)
     · exact .inr ⟨.inl rfl,fun e=>ha e.symm⟩
     · exact .inl h
     · exact .inr ⟨.inr h,h'⟩
    ·
     rintro (h|⟨rfl|h,h'⟩)
     · exact .inr (.inl h)
     · exact .inl rfl
     · exact .inr (.inr ⟨h,h'⟩)
abbrev Vb (t o:Int) (f:Ac):Prop:=¬(f.day>t∨f.day<t-o)
structure Sx (l:List Ac) (t o:Int) (done:List Int) (m:List (Ft×Int)):Prop where
 keys:PM m
 val:∀p∈m,p.2∈done∧∃f,l[p.2.toNat]? =some f∧Ay f=p.1∧Vb t o f
 best:∀j∈done,∀g,l[j.toNat]? =some g→Vb t o g→∃p∈m,p.1=Ay g∧∃f,l[p.2.toNat]? =some f∧¬better g f∧(¬better f g→p.2≤j)
theorem Vc {l:List Ac} {t o:Int} {done:List Int} {m:List (Ft×Int)} {i:Int} (hi:i.toNat<l.length) (hle:∀j∈done,j≤i) (h:Sx l t o done m):Sx l t o (done++[i]) (Dj l t o m i):=by
 obtain ⟨f,hf⟩:=at_ hi
 have hmem:∀j,j∈done++[i]↔j∈done∨j=i:=fun j=>by simp
 by_cases hout:f.day>t∨f.day<t-o
 ·
  rw [G8 hf hout]
  refine ⟨h.keys,fun p hp=> ?_,fun j hj g hg hin=> ?_⟩
  ·
   obtain ⟨h1,h2⟩:=h.val p hp
   exact ⟨(hmem _).2 (.inl h1),h2⟩
  ·
   rcases (hmem j).1 hj with hj|rfl
   · exact h.best j hj g hg hin
   · rw [hf] at hg;cases hg;exact absurd hout hin
 ·
  cases hl:Cp.look m (Ay f) with
  |none=>
   rw [LP hf hout (by rw [hl];rfl),X9 hl]
   refine ⟨?_,fun p hp=> ?_,fun j hj g hg hin=> ?_⟩
   ·
    unfold PM
    rw [List.pairwise_append]
    exact ⟨h.keys,by simp,fun p hp q hq=>by simp at hq;subst hq;exact My hl p hp⟩
   ·
    rcases List.mem_append.1 hp with hp|hp
    ·
     obtain ⟨h1,h2⟩:=h.val p hp
     exact ⟨(hmem _).2 (.inl h1),h2⟩
    · simp at hp;subst hp;exact ⟨(hmem _).2 (.inr rfl),f,hf,rfl,hout⟩
   ·
    rcases (hmem j).1 hj with hj|rfl
    ·
     obtain ⟨p,hp,h1⟩:=h.best j hj g hg hin
     exact ⟨p,List.mem_append_left _ hp,h1⟩
    ·
     rw [hf] at hg;cases hg
     exact ⟨(Ay f,j),by simp,rfl,f,hf,by unfold better;omega,fun _=>Int.le_refl _⟩
  |some q=>
   have e7:=JQ hl
   obtain ⟨ng,g0,fT,WR,nh⟩:=h.val _ e7
   rw [D2 hf hout (by rw [hl];rfl) (g:=g0) (by rw [hl];exact fT)]
   by_cases hb:better f g0
   ·
    rw [if_pos hb]
    obtain ⟨hk,hu⟩:=X_ (v:=i) h.keys hl
    refine ⟨hk,fun p hp=> ?_,fun j hj g hg hin=> ?_⟩
    ·
     rcases (hu p).1 hp with rfl|⟨hp,_⟩
     · exact ⟨(hmem _).2 (.inr rfl),f,hf,rfl,hout⟩
     ·
      obtain ⟨h1,h2⟩:=h.val p hp
      exact ⟨(hmem _).2 (.inl h1),h2⟩
    ·
     rcases (hmem j).1 hj with hj|rfl
     ·
      obtain ⟨p,hp,h1,f1,Yv,h2,h3⟩:=h.best j hj g hg hin
      by_cases hpk:p.1=Ay f
      ·
       have e:=keys_eq h.keys hp e7 hpk
       subst e
       have e2:f1=g0:=by have:=Yv.symm.trans fT;simpa using this
       subst e2
       exact ⟨(Ay f,i),(hu _).2 (.inl rfl),by rw [←hpk];exact h1,f,hf,by unfold better at*;omega,fun h4=>absurd (show better f g by unfold better at*;omega) h4⟩
      · exact ⟨p,(hu p).2 (.inr ⟨hp,hpk⟩),h1,f1,Yv,h2,h3⟩
     ·
      rw [hf] at hg;cases hg
      exact ⟨(Ay f,j),(hu _).2 (.inl rfl),rfl,f,hf,by unfold better;omega,fun _=>Int.le_refl _⟩
   ·
    rw [if_neg hb]
    refine ⟨h.keys,fun p hp=> ?_,fun j hj g hg hin=> ?_⟩
    ·
     obtain ⟨h1,h2⟩:=h.val p hp
     exact ⟨(hmem _).2 (.inl h1),h2⟩
    ·
     rcases (hmem j).1 hj with hj|rfl
     · exact h.best j hj g hg hin
     ·
      rw [hf] at hg;cases hg
      exact ⟨_,e7,rfl,g0,fT,hb,fun _=>hle q ng⟩
theorem Lj {l:List Ac} {t o:Int} {own:List Int} (hi:EX own l.length) (ha:own.Pairwise (· ≤ ·)):Sx l t o own (Co l own t o):=by
 have key:∀(r done:List Int) (m:List (Ft×Int)),EX r l.length→(∀j∈done,∀i∈r,j≤i)→r.Pairwise (· ≤ ·)→Sx l t o done m→Sx l t o (done++r) (r.foldl (Dj l t o) m):=by
  intro r
  induction r with
  |nil=>intro done m _ _ _ h;simpa using h
  |cons i r ih=>
   intro done m h1 h2 h3 h
   obtain ⟨h4,h5⟩:=List.pairwise_cons.1 h3
   have hi:=h1 i (by simp)
   have:=ih (done++[i]) (Dj l t o m i) (fun j hj=>h1 j (List.mem_cons_of_mem _ hj)) (fun j hj k hk=>by
    rcases List.mem_append.1 hj with hj|hj
    · exact h2 j hj k (List.mem_cons_of_mem _ hk)
    · simp at hj;subst hj;exact h4 k hk) h5 (Vc (by omega) (fun j hj=>h2 j hj i (by simp)) h)
   simpa using this
 have:=key own [] [] hi (by simp) ha ⟨.nil,by simp,by simp⟩
 show Sx l t o own (own.foldl (Dj l t o) [])
 simpa using this
theorem YA {l:List Ac} {n t o:Int} {own:List Int} (hi:EX own l.length) (ha:own.Pairwise (· ≤ ·)) {a:BF} (h:a∈(Co l own t o).filterMap fun p=>Cg l n p.2):
  ∃f,a.Uz∈own∧l[a.Uz.toNat]? =some f∧¬f.kind=8∧Vb t o f∧a=⟨n,f.BM,f.kind,f.BI,f.bits,f.num,f.text,a.Uz⟩∧(Ay f,a.Uz)∈Co l own t o∧∀j∈own,∀g,l[j.toNat]? =some g→Vb t o g→Ay g=Ay f→¬better g f∧(¬better f g→a.Uz≤j):=by
 obtain ⟨p,hp,h1⟩:=List.mem_filterMap.1 h
 have hd:=Lj (t:=t) (o:=o) hi ha
 obtain ⟨h2,f,hf,h3,h4⟩:=hd.val p hp
 by_cases hk:f.kind=8
 · rw [Nu hf hk] at h1;cases h1
 ·
  rw [Ip hf hk] at h1
  injection h1 with h1
  subst h1
  refine ⟨f,h2,hf,hk,h4,rfl,by rw [h3];exact hp,fun j hj g hg hin e=> ?_⟩
  obtain ⟨q,hq,h5,f1,Yv,h6,h7⟩:=hd.best j hj g hg hin
  have e2:=keys_eq hd.keys hp hq (by rw [h5,e,h3])
  subst e2
  rw [hf] at Yv;cases Yv
  exact ⟨h6,h7⟩
def Hh (p:Ft):Ac:=⟨0,[],0,0,0,p.kind,p.BM,p.BI,p.bits,p.num,p.text⟩
theorem Mz {p q:Ft} (h:Hh p=Hh q):p=q:=by
 cases p;cases q;unfold Hh at h;simp at h ⊢;exact ⟨h.2.1,h.2.2.2.2.2,h.1,h.2.2.2.2.1,h.2.2.1,h.2.2.2.1⟩
theorem Iw {f:Ac}  :BT prog 77 [agg (BZ f)] (agg (BZ (Hh (Ay f)))):=by
 refine fo func77 rfl ⟨rfl,rfl⟩ fun M0 w0=>(Tr.seq (Tr.CA (tp rfl (E0 rfl (Va rfl)) ?_)))
 refine Tl rfl rfl rfl rfl EO JG (fun b1=> ?_)
 refine ap ?_
 refine ap ?_
 refine Tl rfl rfl rfl rfl EO JG (fun b2=> ?_)
 refine ap ?_
 refine Tr.seq (Tr.seq (Tr.Fj 0 [int 0,str [],int 0,int 0,int 0,int f.kind,str f.BM,int 0,int 0,int 0,str []] rfl ⟨Lr,Lr,Lr,Lr,Lr,Lr,Lr,Lr,Lr,Lr,Lr,trivial⟩ ?_))
 refine a2 ?_
 refine EL 1 2 3 10 11 rfl ?_
 refine Tr.cn rfl ?_ ?_<;>intro h1 q1
 refine ac ?_
 refine Tr.cond rfl (fun _=> ?_) (fun h=>nomatch h1.symm.trans h)
 refine Tr.rx ?_
 refine ay ?_
 refine Cx.nil ⟨by kernel_rfl,?_⟩
 refine BP.done Ic ?_
 refine ac ?_
 refine Tr.seq (Tr.Fj 0 [int 0,str [],int 0,int 0,int 0,int 1,str f.BM,int f.BI,int f.bits,int 0,str []] rfl ⟨Lr,Lr,Lr,Lr,Lr,Lr,Lr,Lr,Lr,Lr,Lr,trivial⟩ ?_)
 refine ap ?_
 refine Tr.drop 0 (Tr.ret (Fin.FX rfl (A6.cell 0 rfl rfl BE AY rfl (Lr)) ?_))
 · unfold Hh Ay;rw [if_pos (by omega)];exact Lr
 refine an ?_ ?_<;>intro h2 q2
 refine Tr.rx ?_
 refine ay ?_
 refine Cx.nil ⟨by kernel_rfl,?_⟩
 refine BP.done Ic ?_
 refine ac ?_
 refine Tr.seq (Tr.Fj 0 [int 0,str [],int 0,int 0,int 0,int 1,str f.BM,int f.BI,int f.bits,int 0,str []] rfl ⟨Lr,Lr,Lr,Lr,Lr,Lr,Lr,Lr,Lr,Lr,Lr,trivial⟩ ?_)
 refine ap ?_
 refine Tr.drop 0 (Tr.ret (Fin.FX rfl (A6.cell 0 rfl rfl BE AY rfl (Lr)) ?_))
 · unfold Hh Ay;rw [if_pos (by omega)];exact Lr
 refine an ?_ ?_<;>intro h3 q3
 refine ac ?_
 refine Tr.cond rfl (fun _=> ?_) (fun h=>nomatch h3.symm.trans h)
 refine ap ?_
 refine Tr.seq (Tr.Fj 0 [int 0,str [],int 0,int 0,int 0,int f.kind,str f.BM,int 0,int 0,int f.num,str []] rfl ⟨Lr,Lr,Lr,Lr,Lr,Lr,Lr,Lr,Lr,Lr,Lr,trivial⟩ ?_)
 refine ap ?_
 refine Tr.drop 0 (Tr.ret (Fin.FX rfl (A6.cell 0 rfl rfl BE AY rfl (Lr)) ?_))
 · unfold Hh Ay;rw [if_neg (by omega),if_pos (by omega)];exact Lr
 refine an ?_ ?_<;>intro h4 q4
 refine ap ?_
 refine EK 2 3 rfl (Tr.seq (Tr.Fj 0 [int 0,str [],int 0,int 0,int 0,int f.kind,str f.BM,int 0,int 0,int f.num,str []] rfl ⟨Lr,Lr,Lr,Lr,Lr,Lr,Lr,Lr,Lr,Lr,Lr,trivial⟩ ?_))
 refine ap ?_
 refine Tr.drop 0 (Tr.ret (Fin.FX rfl (A6.cell 0 rfl rfl BE AY rfl (Lr)) ?_))
 · unfold Hh Ay;rw [if_neg (by omega),if_pos (by omega)];exact Lr
 refine an ?_ ?_<;>intro h5 q5
 refine ap ?_
 refine EK 2 3 rfl (Tr.seq (Tr.Fj 0 [int 0,str [],int 0,int 0,int 0,int f.kind,str f.BM,int 0,int 0,int 0,str f.text] rfl ⟨Lr,Lr,Lr,Lr,Lr,Lr,Lr,Lr,Lr,Lr,Lr,trivial⟩ ?_))
 refine ap ?_
 refine Tr.drop 0 (Tr.ret (Fin.FX rfl (A6.cell 0 rfl rfl BE AY rfl (Lr)) ?_))
 · unfold Hh Ay;rw [if_neg (by omega),if_neg (by omega),if_pos (by omega)];exact Lr
 refine ac ?_
 refine Tr.seq (Tr.Fj 0 [int 0,str [],int 0,int 0,int 0,int f.kind,str f.BM,int 0,int 0,int 0,str []] rfl ⟨Lr,Lr,Lr,Lr,Lr,Lr,Lr,Lr,Lr,Lr,Lr,trivial⟩ ?_)
 refine ap ?_
 refine Tr.drop 0 (CM 2 rfl (Tr.ret (Fin.FX rfl (A6.cell 0 rfl rfl BE AY rfl (Lr)) ?_)))
 · unfold Hh Ay;rw [if_neg (by omega),if_neg (by omega),if_neg (by omega)];exact Lr
instance:Inhabited Ac:=⟨⟨0,[],0,0,0,0,[],0,0,0,[]⟩⟩
theorem JR {a b:Ac} (h:D1 a b<0):Lib.compareBytes a.host b.host≤0∧(a.host=b.host→Ar a.machine b.machine≤0∧(a.machine=b.machine→Ar a.day b.day≤0)):=by
 have h:Fq (El a b)<0:=h
 unfold El at h
 rw [Bg,Bg,Bg] at h
 refine ⟨?_,fun e=>⟨?_,fun e2=> ?_⟩⟩
 · split at h<;>omega
 ·
  rw [if_pos ((CB _ _).2 e)] at h
  split at h<;>omega
 ·
  rw [if_pos ((CB _ _).2 e),if_pos (BK.2 e2)] at h
  split at h<;>omega
theorem YB {a b:Int} (h:Ar a b≤0):a≤b:=by
 unfold Ar at h
 by_cases h1:a<b
 · omega
 ·
  rw [if_neg h1] at h
  by_cases h2:b<a
  · rw [if_pos h2] at h;omega
  · omega
theorem Vd {l:List Ac} (hl:J8 l) {j k:Nat} {f g:Ac} (hf:l[j]? =some f) (hg:l[k]? =some g) (hjk:j<k) (hh:f.host=g.host) (hm:f.machine=g.machine):f.day≤g.day:=
 YB (((JR (IA hl hf hg hjk)).2 hh).2 hm)
theorem Qo {l:List Ac} (hl:J8 l) {i j k:Nat} {e f g:Ac} (he:l[i]? =some e) (hf:l[j]? =some f) (hg:l[k]? =some g) (hij:i<j) (hjk:j<k) (hh:e.host=g.host):f.host=g.host:=by
 have h1:=(JR (IA hl he hf hij)).1
 have h2:=(JR (IA hl hf hg hjk)).1
 have hs:=E6 f.host e.host
 rw [hh] at h1 hs
 have hs:=E6 f.host g.host
 exact (CB _ _).1 (by omega)
theorem M4 {l:List Ac} {Aq:Int} {i:Nat} {f:Ac} (hf:l[i]? =some f):Gq l Aq i=0↔(f.machine=0∧near l f Aq<0):=⟨GC hf,fun h=>JN hf h.1 h.2⟩
theorem J0 {l:List Ac} {Aq:Int} (hl:J8 l) {i k:Nat} {f g:Ac} (hf:l[i]? =some f) (hg:l[k]? =some g) (hi:Gq l Aq i=0) (hki:k<i) (hk:Gq l Aq k=0) (hh:g.host=f.host) (hno:∀j,k<j→j<i→∀e,l[j]? =some e→¬(e.host=f.host∧Gq l Aq j=0)):
  A5 l Aq i=if f.day-g.day≤Aq then A5 l Aq k else i:=by
 have Dw:=Mw i k hki hk
 have Dn:=Ew hf
 have hp:prevK l Aq i=(k:Nat):=by
  rcases Iu l Aq i with h|⟨h1,h2,h3⟩
  · omega
  ·
   rcases Nat.lt_or_eq_of_le (show k≤(prevK l Aq i).toNat by omega) with h4|h4
   ·
    exfalso
    obtain ⟨e,he⟩:=at_ (l:=l) (k:=(prevK l Aq i).toNat) (by omega)
    exact hno _ h4 h2 e he ⟨Qo hl hg he hf h4 h2 hh,h3⟩
   · omega
 have hd:=Vd hl hg hf hki hh (by rw [(GC hg hk).1,(GC hf hi).1])
 have hdist:FO f g=f.day-g.day:=by unfold FO;omega
 have hn:N2 l Aq (prevK l Aq i).toNat i=decide (f.day-g.day≤Aq):=by
  rw [hp]
  show (match l[((k:Nat):Int).toNat]?,l[i]? with|some g,some f=>_|_,_=>_)=_
  rw [Int.toNat_natCast,hg,hf]
  show decide (g.host=f.host∧FO f g≤Aq)=_
  rw [hdist,decide_eq_decide]
  exact ⟨fun h=>h.2,fun h=>⟨hh,h⟩⟩
 by_cases bQ:f.day-g.day≤Aq
 · rw [if_pos bQ,PC hi (by omega) (by rw [hn];simpa using bQ),hp,Int.toNat_natCast]
 · rw [if_neg bQ,Jx hi (by rw [hn];simp;omega)]
theorem Qp {l:List Ac} {Aq:Int} {i:Nat} {f:Ac} (hf:l[i]? =some f) (hi:Gq l Aq i=0) (hno:∀j,j<i→∀e,l[j]? =some e→¬(e.host=f.host∧Gq l Aq j=0)):A5 l Aq i=i:=by
 refine Jx hi ?_
 rintro ⟨h1,h2⟩
 have Dn:=Ew hf
 rcases Iu l Aq i with h|⟨_,h3,h4⟩
 · omega
 ·
  obtain ⟨e,he⟩:=at_ (l:=l) (k:=(prevK l Aq i).toNat) (by omega)
  have h2':(match l[(prevK l Aq i).toNat]?,l[i]? with|some g,some f=>decide (g.host=f.host∧FO f g≤Aq)|_,_=>false)=true:=h2
  rw [he,hf] at h2'
  exact hno _ h3 e he ⟨(of_decide_eq_true h2').1,h4⟩
theorem HB {l:List Ac} {Aq:Int} {i k:Nat} (h:¬Gq l Aq i=0) (hki:k≤i) (hk:Gq l Aq k=Gq l Aq i) (hno:∀j,j<k→¬Gq l Aq j=Gq l Aq i):A5 l Aq i=k:=by
 obtain ⟨h1,h2⟩:=Xv h
 rcases Nat.lt_trichotomy (A5 l Aq i) k with h3|h3|h3
 · exact absurd h1 (hno _ h3)
 · exact h3
 · exact absurd hk (h2 _ h3)
end Go.Proofs.YtgilhkjlfongoaaGreat
