/-
  Part 5 of the texts that prove this claim, merged.
-/
import Derived.RangeFuncFrom
import Derived.RangeFuncLeaves
import Derived.OrdersIn
import Derived.Test.YtppdobdifkefcaaGreatDoorPlVP4
set_option linter.all false
set_option maxRecDepth 40000
set_option maxHeartbeats 16000000
namespace Go.Proofs.YtppdobdifkefcaaGreatDoor
open Go Go.RowKit Cp Go.Proofs.Tryz
noncomputable def Aq.Cs (c:Aq) (AX days others:List Int):Int:=
 if c.own≠0 then c.own else if AX.length≠days.length then 1 else if 24<AX.length then 3
 else if (AX++others).any (fun n=> !c.has n) then 2 else if (AX.zip days).all (fun p=>c.may p.1 p.2) then 0 else 47
def Aq.cell (c:Aq) (p:Int×Int):Nat:=(c.at p.2).toNat*8+p.1.toNat
def Aq.cnt (c:Aq) (l:List (Int×Int)) (k:Nat):Nat:=l.countP fun p=>c.cell p==k
def Aq.Wh (c:Aq) (l:List (Int×Int)):List Int:=(List.range 256).map fun k=>(c.cnt l k:Int)
def Ef (c:Aq) (l:List (Int×Int)):List Pr:=(c.Wh l).map fun z=>int z
noncomputable def PW (c:Aq) (AX days others:List Int):Pr:=if c.Cs AX days others=0 then ref (Ef c (AX.zip days)) else is (.pointer none)
theorem F_ {c:Aq} {AX days others:List Int} {e:Int} (h:c.Cs AX days others=e) (he:e≠0):Pr.le (is (.pointer none)) (PW c AX days others):=by
 unfold PW;rw [if_neg (by rw [h];exact he)];exact Pr.le_refl _
theorem PX {c:Aq} {AX days others:List Int} (h:c.Cs AX days others=0):PW c AX days others=ref (Ef c (AX.zip days)):=by
 unfold PW;rw [if_pos h]
theorem CG (c:Aq) (l:List (Int×Int)):(Ef c l).length=256:=by simp [Ef,Aq.Wh]
theorem GA (c:Aq) (l:List (Int×Int)) {k:Nat} (hk:k<256):(Ef c l)[k]? =some (int (c.cnt l k)):=by
 simp [Ef,Aq.Wh,List.getElem?_range hk]
theorem UF (c:Aq) (l:List (Int×Int)) {a x:Int} (h1:0≤a∧a<32) (h2:0≤x∧x<8):(Ef c l)[0+a.toNat*8+x.toNat*1]? =some (int (c.cnt l (a.toNat*8+x.toNat))):=by
 rw [show 0+a.toNat*8+x.toNat*1=a.toNat*8+x.toNat by omega]
 exact GA c l (by omega)
theorem RH (c:Aq):Ef c []=(List.replicate 256 (Value.int .i64 0)).map is:=by
 apply List.ext_getElem?
 intro k
 by_cases hk:k<256
 · rw [GA c [] hk,List.getElem?_map,List.getElem?_replicate,if_pos hk];rfl
 · rw [List.getElem?_eq_none (by rw [CG];omega),List.getElem?_eq_none (by rw [List.length_map,List.length_replicate];omega)]
theorem RI (c:Aq) (l:List (Int×Int)) {x d:Int} (h1:0≤c.at d∧c.at d<32) (h2:0≤x∧x<8):
  (Ef c l).take (0+(c.at d).toNat*8+x.toNat*1)++[int ((c.cnt l ((c.at d).toNat*8+x.toNat):Int)+1)]++(Ef c l).drop (0+(c.at d).toNat*8+x.toNat*1+1)=Ef c (l++[(x,d)]):=by
 generalize hm:(c.at d).toNat*8+x.toNat=m
 rw [show 0+(c.at d).toNat*8+x.toNat*1=m by omega]
 have hm2:m<256:=by omega
 have hcell:c.cell (x,d)=m:=hm
 have lX:∀k,c.cnt (l++[(x,d)]) k=c.cnt l k+if m=k then 1 else 0:=by
  intro k
  unfold Aq.cnt
  rw [List.countP_append,List.countP_cons,List.countP_nil,hcell]
  simp
 apply List.ext_getElem?
 intro k
 by_cases hk:k<256
 ·
  rw [GA c _ hk,lX]
  rcases Nat.lt_trichotomy k m with h|h|h
  · rw [List.append_assoc,List.getElem?_append_left (by rw [List.length_take,CG];omega),List.getElem?_take,if_pos h,GA c l hk,if_neg (by omega)];rfl
  ·
   subst h
   rw [List.append_assoc,List.getElem?_append_right (by rw [List.length_take,CG];omega),List.length_take,CG,Nat.min_eq_left (by omega),Nat.sub_self]
   simp
  ·
   rw [List.getElem?_append_right (by rw [List.length_append,List.length_take,CG];simp;omega),List.length_append,List.length_take,CG,List.getElem?_drop,Nat.min_eq_left (by omega)]
   simp only [List.length_cons,List.length_nil]
   rw [show m+1+(k-(m+(0+1)))=k by omega,GA c l hk,if_neg (by omega)];rfl
 · rw [List.getElem?_eq_none (by simp [CG];omega),List.getElem?_eq_none (by rw [CG];omega)]
theorem Wi (c:Aq) (l:List (Int×Int)) (k:Nat):c.cnt l k≤l.length:=List.countP_le_length
theorem PY {a b:List Int} {k:Nat} {x y:Int} (hx:a[k]? =some x) (hy:b[k]? =some y):(a.zip b).take (k+1)=(a.zip b).take k++[(x,y)]:=by
 have hz:(a.zip b)[k]? =some (x,y):=by rw [List.getElem?_zip_eq_some];exact ⟨hx,hy⟩
 rw [List.take_add_one,hz];rfl
theorem Wj {c:Aq} {n d:Int} (h:c.may n d=true):0≤c.at d:=by
 have h2:=L9 (Cr d) c.B0
 unfold Aq.may Aq.NO at h
 unfold Aq.at
 rcases Int.lt_or_le (idx (Cr d) c.B0) 0 with h3|h3
 ·
  rw [if_neg (by omega)] at h2
  rw [h2] at h;cases h
 · exact h3
theorem HG {c:Aq} (h:c.own=0):c.B0.length≤32∧c.room.length≤8:=by
 unfold Aq.own Aq.check at h
 split at h
 · omega
 · omega
theorem OJ {c:Aq} {n:Int} (h:c.own=0) (hn:c.has n=true):0≤n∧n<8:=by
 have:=(HG h).2
 unfold Aq.has at hn
 simp at hn
 omega
theorem lY {c:Aq} {d:Int} (h:c.own=0):c.at d<32:=by
 have:=(HG h).1
 have:=(NN (Cr d) c.B0).2
 unfold Aq.at
 omega
theorem Wk {c:Aq} {a b:List Int} {k:Nat} {n d:Int} (hx:a[k]? =some n) (hd:b[k]? =some d) (h:(!c.may n d)=true):¬(a.zip b).all (fun p=>c.may p.1 p.2)=true:=by
 intro h2
 rw [List.all_eq_true] at h2
 have hz:(a.zip b)[k]? =some (n,d):=by rw [List.getElem?_zip_eq_some];exact ⟨hx,hd⟩
 have:=h2 _ (List.mem_of_getElem? hz)
 simp [this] at h
theorem So {c:Aq} {a b:List Int} (h:((a.zip b).take a.length).all (fun p=>c.may p.1 p.2)=true) (hl:a.length=b.length):(a.zip b).all (fun p=>c.may p.1 p.2)=true:=by
 rwa [List.take_of_length_le (by simp;omega)] at h
theorem Wl {c:Aq} {l:List Int} {n:Int} (h:l.any (fun n=> !c.has n)=false) (hn:n∈l):c.has n=true:=by
 rw [List.any_eq_false] at h
 simpa using h n hn
theorem Sq {c:Aq} {n:Int}  :A9 prog 110 [int n,ref [L8 c.B0,ints c.Gr,ints c.room]] (bool (!c.has n)):=by
 refine fo func110 rfl ⟨rfl,rfl⟩ fun M0 w0=> ?_
 refine a2 ?_
 refine co rfl (DK (We) rfl rfl rfl) ?_
 refine a2 ?_
 · exact Lr
theorem eS {c:Aq} {AX days others:List Int} (ho:others.length≤1000000000):A9 prog 79 [Hq c,ints AX,ints days,ints others] (Iv [PW c AX days others,int (c.Cs AX days others)]):=by
 refine fo func79 rfl ⟨rfl,rfl⟩ fun M0 w0=> ?_
 refine a2 ?_
 refine co rfl (CN (lW) rfl rfl) ?_
 refine ac ?_
 refine an ?_ ?_<;>intro h1 q1
 refine ac ?_
 refine Tr.ret (Fin.AH (Fin.Eg rfl (DA.Ht _ _) rfl ?_ rfl ?_))
 · exact F_ (by unfold Aq.Cs;rw [if_pos q1]) q1
 · refine int_eq ?_;unfold Aq.Cs;rw [if_pos q1]
 refine a2 ?_
 refine K5 1 2 3 4 19 rfl ?_
 refine Tr.cn rfl ?_ ?_<;>intro h2 q2
 refine ac ?_
 refine Tr.ret (Fin.Ah (Fin.AH (Fin.Eg rfl (DA.Ht _ _) rfl ?_ rfl ?_)))
 · exact F_ (by unfold Aq.Cs;rw [if_neg (not_not_intro q1),if_pos (by omega)]) (by decide)
 · refine int_eq ?_;unfold Aq.Cs;rw [if_neg (not_not_intro q1),if_pos (by omega)]
 refine an ?_ ?_<;>intro h3 q3
 refine ac ?_
 refine Tr.ret (Fin.Ah (Fin.AH (Fin.Eg rfl (DA.Ht _ _) rfl ?_ rfl ?_)))
 · exact F_ (by unfold Aq.Cs;rw [if_neg (not_not_intro q1),if_neg (by omega),if_pos (by omega)]) (by decide)
 · refine int_eq ?_;unfold Aq.Cs;rw [if_neg (not_not_intro q1),if_neg (by omega),if_pos (by omega)]
 refine ap ?_
 refine TO.pad ?_
 refine TO.GJ 0 rfl rfl (by decide) (FW rfl rfl (by decide) rfl (Vr (by omega)) ⟨ke rfl,trivial⟩) (fun v1=> ?_)
 refine tm rfl ?_
 refine TO.GJ 0 rfl rfl (by decide) (DY rfl rfl rfl rfl underlying22 Ce U8 z3 (Kb rfl) (vl rfl) (CO (by exact List.Mem.head _) (Ka rfl))) (fun v2=> ?_)
 refine tp rfl (KQ rfl rfl) ?_
 refine tp rfl (AW rfl (CS (l:=AX++others) (p:=fun n=> !c.has n)) ⟨⟨_,rfl,Pr.le_trans (Ai _ _) (Pr.le_of_eq (by rw [←List.map_append]))⟩,⟨_,rfl,CH (Sq (c:=c) (n:=0)).1 (fun x=>Sq (c:=c) (n:=x))⟩,trivial⟩) ?_
 refine ap ?_
 refine Tr.drop 0 (Fw 1 2 4 29 rfl ?_)
 refine Tr.cn rfl ?_ ?_<;>intro h4 q4
 refine ac ?_
 refine Tr.ret (Fin.Ah (Fin.AH (Fin.Eg rfl (DA.Ht _ _) rfl ?_ rfl ?_)))
 · exact F_ (by unfold Aq.Cs;rw [if_neg (not_not_intro q1),if_neg (by omega),if_neg (by omega),if_pos (by assumption)]) (by decide)
 · refine int_eq ?_;unfold Aq.Cs;rw [if_neg (not_not_intro q1),if_neg (by omega),if_neg (by omega),if_pos (by assumption)]
 refine ac ?_
 refine ap ?_
 refine TO.Od rfl rfl (by decide) rfl (Va rfl) (fun b1=> ?_)
 refine ap ?_
 refine ac ?_
 refine Tr.block ?_
 refine Tr.I4 [(2,_),(4,_),(11,_),(38,_),(39,_)] ⟨ke rfl,ke rfl,ke rfl,ke rfl,ke rfl,trivial⟩ (fun k:Nat=>[(40,int ((k:Nat):Int))]) (fun k:Nat=>Hp M0 w0 OR ([AB true b1 176 (Ef c ((AX.zip days).take k))])) (fun k:Nat=>k≤(AX).length∧(((AX.zip days).take k).all (fun p=>c.may p.1 p.2)=true)) (fun k:Nat=>(AX).length-k) 0 (⟨Nat.zero_le _,by simp⟩) ⟨ke rfl,trivial⟩ ((by rw [List.take_zero,RH];exact fun _ _ h=>h)) ?_
 rintro k ⟨BR,AG⟩
 refine ac ?_
 refine Tr.seq ?_
 refine Tr.cn rfl ?_ ?_<;>intro h5 q5
 have Aa:k<(AX).length:=AL h5
 obtain ⟨n,AY⟩:=at_ Aa
 obtain ⟨d,hd⟩:=at_ (l:=days) (k:=k) (by omega)
 refine a2 ?_
 refine co rfl (AA rfl underlying22 Ce (vl rfl) (vl rfl) (by omega) (by exact AU (by assumption))) ?_
 refine a2 ?_
 refine co rfl (AA rfl underlying22 Ce (vl rfl) (vl rfl) (by omega) (by exact AU (by assumption))) ?_
 refine co rfl (Gd rfl DC rfl) (co rfl (jj (lU) rfl rfl rfl rfl) ?_)
 refine ac ?_
 refine mW 2 4 11 12 13 38 39 40 52 rfl ?_
 refine Tr.cn rfl ?_ ?_<;>intro h6 q6
 refine ac ?_
 refine Tr.drop 0 (Tr.ret (Fin.AH (Fin.Ah (Fin.AH (Fin.AH (Fin.Ah (Fin.AH (Fin.Eg rfl (DA.Ht _ _) rfl ?_ rfl ?_))))))))
 · exact F_ (by unfold Aq.Cs;rw [if_neg (not_not_intro q1),if_neg (by omega),if_neg (by omega),if_neg (A0 (by assumption)),if_neg (Wk AY hd (by assumption))]) (by decide)
 · refine int_eq ?_;unfold Aq.Cs;rw [if_neg (not_not_intro q1),if_neg (by omega),if_neg (by omega),if_neg (A0 (by assumption)),if_neg (Wk AY hd (by assumption))]
 have hmay:c.may n d=true:=by simpa using h6
 have hown:c.own=0:=by assumption
 have hat:=And.intro (Wj hmay) (lY (d:=d) hown)
 have lZ:0≤n∧n<8:=OJ hown (Wl (by assumption) (List.mem_append_left _ (List.mem_of_getElem? AY)))
 have lX:c.cnt ((AX.zip days).take k) ((c.at d).toNat*8+n.toNat)≤24:=Nat.le_trans (Wi _ _ _) (by simp;omega)
 refine ac ?_
 refine Tr.rx ?_
 refine ay ?_
 refine xo rfl (fun _=>AA rfl underlying22 Ce (vl rfl) (vl rfl) (by omega) (by exact AU (by assumption))) ?_
 refine xo rfl (fun _=>Gd rfl DC rfl) (xo rfl (fun _=>DK (lT) rfl rfl rfl) ?_)
 refine ay ?_
 refine xo rfl (fun _=>Ep rfl underlying176 SJ (vl rfl) (vl rfl) (by omega) (by omega)) (xo rfl (fun _=>Ep rfl underlying128 Ce (vl rfl) (vl rfl) (by omega) (by omega)) (GL 0 rfl rfl (Aj rfl DC (vl rfl) (UF c _ hat lZ)) ?_))
 refine ay ?_
 refine xo rfl (fun _=>Ep rfl underlying176 SJ (vl rfl) (vl rfl) (by omega) (by omega)) (xo rfl (fun _=>Ep rfl underlying128 Ce (vl rfl) (vl rfl) (by omega) (by omega)) ?_)
 refine Cx.Ew 0 rfl rfl (BP rfl rfl (vl rfl) (Vo rfl) Ce rfl (by rw [CG];omega) (RI c _ hat lZ)) ?_
 refine Cx.nil ⟨by kernel_rfl,?_⟩
 refine BE.done al1 ?_
 refine ac ?_
 refine Og 2 4 11 38 39 40 rfl ?_
 refine ac ?_
 exact Fin.fam (k+1) ⟨⟨Aa,(by rw [PY AY hd,List.all_append,AG];simp;assumption)⟩,by omega⟩ ⟨⟨_,rfl,AE k⟩,ke rfl,ke rfl,ke rfl,ke rfl,ke rfl,trivial⟩ ((by rw [PY AY hd];exact fun _ _ h=>h))
 have A_:k=(AX).length:=by have:=AM h5;omega
 subst A_
 refine a2 ?_
 refine Tr.ret (Fin.freeze 0 8 rfl rfl (Fin.Eg rfl (DA.Ht _ _) rfl ?_ rfl ?_))
 · rw [PX (by unfold Aq.Cs;rw [if_neg (not_not_intro q1),if_neg (by omega),if_neg (by omega),if_neg (A0 (by assumption)),if_pos (So AG (by omega))])];exact Pr.le_of_eq (by rw [List.take_of_length_le (by simp;omega)])
 · refine int_eq ?_;unfold Aq.Cs;rw [if_neg (not_not_intro q1),if_neg (by omega),if_neg (by omega),if_neg (A0 (by assumption)),if_pos (So AG (by omega))]
def Aq.over (c:Aq) (l:List (Int×Int)):Prop:=∃(i n:Nat) (r:Int),i<c.B0.length∧c.room[n]? =some r∧r<(c.cnt l (i*8+n):Int)
open Classical in
noncomputable def Aq.Bi (c:Aq) (AX days others:List Int):Int:=
 if c.Cs AX days others≠0 then c.Cs AX days others else if c.over (AX.zip days) then 48 else 0
noncomputable def L_ (c:Aq) (AX days others:List Int):Pr:=if c.Bi AX days others=0 then ref (Ef c (AX.zip days)) else is (.pointer none)
noncomputable instance gm (c:Aq) (AX days others:List Int):One (L_ c AX days others):=by
 unfold L_;split
 · exact R4 _
 · exact R3 _
theorem NQ {c:Aq} {AX days others:List Int} {e:Int} (h:c.Bi AX days others=e) (he:e≠0):Pr.le (is (.pointer none)) (L_ c AX days others):=by
 unfold L_;rw [if_neg (by rw [h];exact he)];exact Pr.le_refl _
theorem PZ {c:Aq} {AX days others:List Int} (h:c.Bi AX days others=0):L_ c AX days others=ref (Ef c (AX.zip days)):=by
 unfold L_;rw [if_pos h]
theorem Dr {c:Aq} {AX days others:List Int} (h:c.Cs AX days others=0):c.own=0:=by
 unfold Aq.Cs at h
 by_cases h':c.own=0
 · exact h'
 · rw [if_pos h'] at h;exact absurd h h'
theorem MA {c:Aq} {AX days others:List Int} (h:c.Cs AX days others=0):∀n∈AX++others,c.has n=true:=by
 have ho:=Dr h
 unfold Aq.Cs at h
 rw [if_neg (not_not_intro ho)] at h
 split at h
 · cases h
 ·
  split at h
  · cases h
  ·
   split at h
   · cases h
   ·
    rename_i h1
    intro n hn
    exact Wl (by simpa using h1) hn
theorem DQ {c:Aq} {AX days others:List Int} (h:c.Bi AX days others=0):c.Cs AX days others=0:=by
 unfold Aq.Bi at h
 by_cases h':c.Cs AX days others=0
 · exact h'
 · rw [if_pos h'] at h;exact absurd h h'
theorem Pa (c:Aq) (l:List (Int×Int)) {i m:Nat} (h1:i<32) (h2:m<8):(((Ef c l).drop (((i:Nat):Int).toNat*8)).drop (((m:Nat):Int).toNat*1))[0]? =some (int (c.cnt l (i*8+m))):=by
 rw [List.drop_drop,List.getElem?_drop,Int.toNat_natCast,Int.toNat_natCast,show i*8+m*1+0=i*8+m by omega]
 exact GA c l (by omega)
theorem UG (c:Aq) (l:List (Int×Int)) {i:Nat} {m:Int} (h1:i<32) (h2:0≤m∧m<8):(((Ef c l).drop (((i:Nat):Int).toNat*8)).drop (m.toNat*1))[0]? =some (int (c.cnt l (i*8+m.toNat))):=by
 have:=Pa c l (i:=i) (m:=m.toNat) h1 (by omega)
 rwa [Int.toNat_natCast m.toNat] at this
theorem RJ {c:Aq} {l:List (Int×Int)} {i:Nat} (h0:∀i' n r,i'<i→c.room[n]? =some r→(c.cnt l (i'*8+n):Int)≤r) (h1:∀n r,n<c.room.length→c.room[n]? =some r→(c.cnt l (i*8+n):Int)≤r):∀i' n r,i'<i+1→c.room[n]? =some r→(c.cnt l (i'*8+n):Int)≤r:=by
 intro i' n r hi hr
 by_cases hii:i'=i
 ·
  subst hii
  refine h1 n r ?_ hr
  rcases Nat.lt_or_ge n c.room.length with h|h
  · exact h
  · rw [List.getElem?_eq_none h] at hr;cases hr
 · exact h0 i' n r (by omega) hr
theorem RK {c:Aq} {l:List (Int×Int)} {i m:Nat} {r:Int} (h0:∀n r,n<m→c.room[n]? =some r→(c.cnt l (i*8+n):Int)≤r) (hx:c.room[m]? =some r) (hle:(c.cnt l (i*8+m):Int)≤r):∀n r,n<m+1→c.room[n]? =some r→(c.cnt l (i*8+n):Int)≤r:=by
 intro n r' hn hr
 by_cases hnm:n=m
 · subst hnm;rw [hx] at hr;cases hr;exact hle
 · exact h0 n r' (by omega) hr
def Aq.HH (c:Aq) (n:Int):Int:=(c.room[n.toNat]?).getD 0
theorem MB {c:Aq} {n:Int} (h:c.has n=true):0≤n∧c.room[n.toNat]? =some (c.HH n):=by
 unfold Aq.has at h
 simp at h
 refine ⟨h.1,?_⟩
 have:n.toNat<c.room.length:=by omega
 unfold Aq.HH
 rw [List.getElem?_eq_getElem this];rfl
def Aq.free (c:Aq) (l:List (Int×Int)) (n:Int) (i:Nat):Bool:=decide ((c.cnt l (i*8+n.toNat):Int)<c.HH n)
noncomputable def Aq.early (c:Aq) (AX days:List Int) (n from_:Int):Option Int:=if c.Bi AX days [n]=0 then c.next n from_ (c.free (AX.zip days) n) else none
theorem Wm {c:Aq} {AX days others:List Int} (ho:others.length≤1000000000):A9 prog 52 [Hq c,ints AX,ints days,ints others] (Iv [L_ c AX days others,int (c.Bi AX days others)]):=by
 refine fo func52 rfl ⟨rfl,rfl⟩ fun M0 w0=>(Tr.Gw 0 0 rfl rfl fun HW=>(Tr.Gw 0 2 rfl rfl fun Sm=> ?_))
 refine a2 ?_
 refine co rfl (kc4 (eS (by assumption)) rfl rfl rfl rfl rfl) ?_
 refine a2 ?_
 refine Fw 4 10 11 24 rfl ?_
 refine Tr.cn rfl ?_ ?_<;>intro h1 q1
 refine ac ?_
 refine Tr.ret (Fin.AH (Fin.Eg rfl (DA.Ht _ _) rfl ?_ rfl ?_))
 · exact NQ (by unfold Aq.Bi;rw [if_pos q1]) q1
 · refine int_eq ?_;unfold Aq.Bi;rw [if_pos q1]
 have hf:c.Cs AX days others=0:=q1
 have hown:=Dr hf
 have hw:=HG hown
 refine Tr.re 10 rfl (Pr.le_of_eq (PX hf)) ?_
 refine a2 ?_
 refine Tr.block (Tr.BH [(4,_),(10,_),(28,_)] (Nr rfl) (fun i:Nat=>[(29,int ((i:Nat):Int))]) (fun i:Nat=>i≤(c.B0).length∧(∀i' n r,i'<i→c.room[n]? =some r→(c.cnt (AX.zip days) (i'*8+n):Int)≤r)) (fun i:Nat=>(c.B0).length-i) 0 (⟨Nat.zero_le _,fun i' n r hi=>absurd hi (by omega)⟩) ⟨ke rfl,trivial⟩ ?_)
 rintro i ⟨PJ,EL⟩
 refine ac ?_
 refine Tr.seq ?_
 refine Tr.cn rfl ?_ ?_<;>intro h2 q2
 have GV:i<(c.B0).length:=AL h2
 obtain ⟨w,HD⟩:=at_ GV
 refine a3 ?_
 refine Tr.block (Tr.BH [(4,_),(10,_),(12,_),(28,_),(29,_),(33,_),(34,_)] (kk7 rfl) (fun m:Nat=>[(35,int ((m:Nat):Int))]) (fun m:Nat=>m≤(c.room).length∧(∀n r,n<m→c.room[n]? =some r→(c.cnt (AX.zip days) (i*8+n):Int)≤r)) (fun m:Nat=>(c.room).length-m) 0 (⟨Nat.zero_le _,fun n r hn=>absurd hn (by omega)⟩) ⟨ke rfl,trivial⟩ ?_)
 rintro m ⟨Sf,Fq⟩
 refine ac ?_
 refine Tr.seq ?_
 refine Tr.cn rfl ?_ ?_<;>intro h3 q3
 have HE:m<(c.room).length:=AL h3
 obtain ⟨r,Ft⟩:=at_ HE
 refine a2 ?_
 refine co rfl (AA rfl underlying22 Ce (vl rfl) (vl rfl) (by omega) (by exact AU (by assumption))) ?_
 refine ac ?_
 refine Nq 4 10 12 13 14 28 29 33 34 35 rfl ?_
 refine ac ?_
 refine co rfl (D7 rfl underlying176 SJ (vl rfl) (vl rfl) (by omega) (by omega) rfl) (co rfl (D7 rfl underlying128 Ce (vl rfl) (vl rfl) (by omega) (by omega) rfl) (co rfl (GK rfl DC (vl rfl) (Pa c _ (by omega) (by omega))) ?_))
 refine ac ?_
 refine mW 4 10 12 28 29 33 34 35 48 rfl ?_
 refine Tr.cn rfl ?_ ?_<;>intro h4 q4
 refine ac ?_
 refine Tr.ret (Fin.Ah (Fin.AH (Fin.AH (Fin.Ah (Fin.Ah (Fin.AH (Fin.AH (Fin.Ah (Fin.AH (Fin.Eg rfl (DA.Ht _ _) rfl ?_ rfl ?_))))))))))
 · exact NQ (by unfold Aq.Bi;rw [if_neg (not_not_intro hf),if_pos ⟨i,m,r,GV,Ft,by assumption⟩]) (by decide)
 · refine int_eq ?_;unfold Aq.Bi;rw [if_neg (not_not_intro hf),if_pos ⟨i,m,r,GV,Ft,by assumption⟩]
 refine a2 ?_
 exact Fin.AK (m+1) ⟨⟨HE,(RK Fq Ft (by assumption))⟩,by omega⟩ ⟨⟨_,rfl,AE m⟩,ke rfl,ke rfl,ke rfl,ke rfl,ke rfl,ke rfl,ke rfl,trivial⟩
 have PK:m=(c.room).length:=by have:=AM h3;omega
 subst PK
 refine a2 ?_
 exact Fin.AK (i+1) ⟨⟨GV,(RJ EL Fq)⟩,by omega⟩ ⟨⟨_,rfl,AE i⟩,ke rfl,ke rfl,ke rfl,trivial⟩
 have Kz:i=(c.B0).length:=by have:=AM h2;omega
 subst Kz
 refine a2 ?_
 refine Tr.ret (Fin.Eg rfl (DA.Ht _ _) rfl ?_ rfl ?_)
 · rw [PZ (by unfold Aq.Bi;rw [if_neg (not_not_intro hf),if_neg (by rintro ⟨i,n,r,h1,h2,h3⟩;have:=EL i n r h1 h2;omega)])];exact Lr
 · refine int_eq ?_;unfold Aq.Bi;rw [if_neg (not_not_intro hf),if_neg (by rintro ⟨i,n,r,h1,h2,h3⟩;have:=EL i n r h1 h2;omega)]
theorem eT {c:Aq} {AX days:List Int}  :A9 prog 35 [Hq c,ints AX,ints days] (int (c.Bi AX days [])):=by
 refine fo func35 rfl ⟨rfl,rfl⟩ fun M0 w0=> ?_
 refine a2 ?_
 refine co rfl (AW rfl (Wm (others:=[]) (by simp)) ⟨ke rfl,ke rfl,ke rfl,⟨_,rfl,AV _⟩,trivial⟩) ?_
 refine a3 ?_
 · exact Lr
theorem Za {c:Aq} {l:List (Int×Int)} {n:Int} {i:Fin c.B0.length} (hown:c.own=0) (hn:c.has n=true):A9 prog 54 [int ((i.1:Nat):Int),ref [ref (Ef c l)],ref [int n],ref [L8 c.B0,ints c.Gr,ints c.room]] (bool (c.free l n i.1)):=by
 refine fo func54 rfl ⟨rfl,rfl⟩ fun M0 w0=> ?_
 have hw:=HG hown
 obtain ⟨hn0,hr⟩:=MB hn
 have lZ:=OJ hown hn
 have hi:=i.2
 refine a2 ?_
 refine co rfl (D7 rfl underlying176 SJ (vl rfl) (vl rfl) (by omega) (by omega) rfl) (co rfl (D7 rfl underlying128 Ce (vl rfl) (vl rfl) (by omega) (by omega) rfl) (co rfl (GK rfl DC (vl rfl) (UG c l (by omega) lZ)) ?_))
 refine ac ?_
 refine co rfl (AA rfl underlying22 Ce (vl rfl) (vl rfl) (by omega) (Cf hr)) ?_
 refine ac ?_
 refine FD 5 rfl ?_
 refine ac ?_
 · exact Lr
theorem Zb:Entry Tryz.prog 54:=⟨_,Tryz.func54,rfl,rfl⟩
theorem RL {c:Aq} {AX days:List Int} {n from_:Int}  :A9 prog 33 [Hq c,ints AX,ints days,int n,int from_] (Iv [int ((c.early AX days n from_).getD 0),bool (c.early AX days n from_).isSome,int (c.Bi AX days [n])]):=by
 refine fo func33 rfl ⟨rfl,rfl⟩ fun M0 w0=> ?_
 refine ac ?_
 refine ao ?_
 refine tp rfl (AW rfl (Wm (others:=[n]) (by simp)) ⟨ke rfl,ke rfl,ke rfl,(Kf rfl),trivial⟩) ?_
 refine ao ?_
 refine Tl rfl rfl rfl rfl pP jB (fun b1=> ?_)
 refine sf 0 13 ⟨rfl,rfl,rfl⟩ rfl rfl rfl rfl ?_
 refine ao ?_
 refine K5 4 5 8 13 14 rfl ?_
 refine an ?_ ?_<;>intro h1 q1
 refine ac ?_
 refine Tr.ret (Fin.AH (Fin.gv rfl (DA.Ht _ _) rfl ?_ rfl ?_ rfl ?_))
 · refine int_eq ?_;unfold Aq.early;rw [if_neg q1];rfl
 · refine bool_eq ?_;unfold Aq.early;rw [if_neg q1];rfl
 · exact Lr
 have hf:c.Bi AX days [n]=0:=q1
 have hown:=Dr (DQ hf)
 have hn:=MA (DQ hf) n (by simp)
 refine Tr.re 13 rfl (Pr.le_of_eq (by rw [PZ hf])) ?_
 refine a2 ?_
 refine co rfl (AW rfl (eR (room:=c.free (AX.zip days) n)) ⟨ke rfl,ke rfl,ke rfl,⟨_,rfl,CH Zb (fun i=>Za (i:=i) hown hn)⟩,trivial⟩) ?_
 refine ac ?_
 refine CY 15 16 rfl ?_
 refine ac ?_
 refine Tr.ret (Fin.gv rfl (DA.Ht _ _) rfl ?_ rfl ?_ rfl ?_)
 · unfold Aq.early;rw [if_pos hf];exact Lr
 · unfold Aq.early;rw [if_pos hf];exact Lr
 · refine int_eq ?_;exact hf.symm
theorem Io {c:Aq} {n:Int} (h:c.check n=0):(c.B0.length≤32∧c.room.length≤8)∧c.room.any GW=false∧c.B0.any HF=false∧RG c.B0∧(∀w∈c.B0,OG w.AX)∧c.B0.any (fun w=>w.AX.any fun n=> !c.has n)=false:=by
 unfold Aq.check at h
 split at h
 · cases h
 ·
  split at h
  · cases h
  ·
   split at h
   · cases h
   ·
    split at h
    · cases h
    ·
     split at h
     · cases h
     ·
      rename_i h1 h2 h3 h4 h5
      rw [Classical.not_not] at h4
      exact ⟨by omega,by simpa using h2,by simpa using h3,h4.1,h4.2,by simpa using h5⟩
theorem MC {c:Aq} (h:c.own=0):RG c.B0∧∀w∈c.B0,0≤w.lo∧w.lo<w.hi:=by
 obtain ⟨_,_,h3,h4,_⟩:=Io h
 refine ⟨h4,fun w hw=> ?_⟩
 rw [List.any_eq_false] at h3
 have:=h3 w hw
 simp [HF] at this
 omega
abbrev NR (l:List Fu):Prop:=l.Pairwise fun a b=>a.hi≤b.lo
theorem HX:∀{l:List Fu},RG l→(∀w∈l,0≤w.lo∧w.lo<w.hi)→NR l
 |[],_,_=>List.Pairwise.nil
 |[a],_,_=>by simp [NR]
 |a::b::l,h,hw=>by
  have ih:NR (b::l):=HX (fun j x y hx hy=>h (j+1) x y (by simpa using hx) (by simpa using hy)) (fun w hm=>hw w (List.mem_cons_of_mem _ hm))
  refine List.Pairwise.cons (fun w hm=> ?_) ih
  have h0:=h 0 a b rfl rfl
  rcases List.mem_cons.1 hm with rfl|hm
  · exact h0
  ·
   have h1:=(List.pairwise_cons.1 ih).1 w hm
   have:=hw b (by simp)
   omega
theorem MD {k:Int} {w:Fu} (h:Cr k w=true):w.lo≤k∧k<w.hi:=by unfold Cr at h;simpa using h
theorem ld {k:Int} {w:Fu} (h:w.lo≤k∧k<w.hi):Cr k w=true:=by unfold Cr;simpa using h
theorem Sr {k:Int}:∀{l:List Fu} {w:Fu},NR l→w∈l→Cr k w=true→l.find? (Cr k)=some w
 |a::l,w,hp,hm,hin=>by
  rcases List.mem_cons.1 hm with rfl|hm
  · exact List.find?_cons_of_pos hin
  ·
   have h1:=(List.pairwise_cons.1 hp).1 w hm
   have h2:=MD hin
   rw [List.find?_cons_of_neg (by intro h;have:=MD h;omega)]
   exact Sr (List.pairwise_cons.1 hp).2 hm hin
theorem Zc {c:Aq} {t k:Int} (h:c.own=0):c.may t k=true↔∃w∈c.B0,Cr k w=true∧w.AX.any (fun x=>t==x)=true:=by
 obtain ⟨h1,h2⟩:=MC h
 unfold Aq.may Aq.NO
 constructor
 ·
  intro hm
  cases hf:c.B0.find? (Cr k) with
  |none=>rw [hf] at hm;cases hm
  |some w=>rw [hf] at hm;exact ⟨w,List.mem_of_find?_eq_some hf,List.find?_some hf,hm⟩
 ·
  rintro ⟨w,hw,hin,ht⟩
  rw [Sr (HX h1 h2) hw hin];exact ht
theorem Pb (c:Aq) (l:List (Int×Int)) (x d:Int) (k:Nat):c.cnt (l++[(x,d)]) k=c.cnt l k+if (c.at d).toNat*8+x.toNat=k then 1 else 0:=by
 unfold Aq.cnt
 rw [List.countP_append,List.countP_cons,List.countP_nil]
 simp [Aq.cell]
theorem HI {c:Aq} {AX days others:List Int} (h:c.Cs AX days others=0):AX.length=days.length∧AX.length≤24:=by
 have ho:=Dr h
 unfold Aq.Cs at h
 rw [if_neg (not_not_intro ho)] at h
 split at h
 · cases h
 ·
  split at h
  · cases h
  · omega
theorem ME {c:Aq} {AX days others:List Int} (h:c.Cs AX days others=0):(AX.zip days).all (fun p=>c.may p.1 p.2)=true:=by
 have ho:=Dr h
 unfold Aq.Cs at h
 rw [if_neg (not_not_intro ho)] at h
 split at h
 · cases h
 ·
  split at h
  · cases h
  ·
   split at h
   · cases h
   ·
    split at h
    · assumption
    · cases h
theorem UH {c:Aq} {AX days:List Int} {n:Int} (h:c.has n=true):c.Cs AX days [n]=c.Cs AX days []:=by
 unfold Aq.Cs
 rw [List.any_append,List.append_nil]
 simp [h]
theorem MF {c:Aq} {AX days:List Int} {n:Int} (h:c.has n=true):c.Bi AX days [n]=c.Bi AX days []:=by
 unfold Aq.Bi;rw [UH h]
theorem Pc {c:Aq} {AX days:List Int} {n d:Int} (h:c.Bi AX days [n]=0):c.early AX days n d=c.next n d (c.free (AX.zip days) n):=by
 unfold Aq.early;rw [if_pos h]
theorem eU {k:Int}:∀{l:List Fu} {j:Nat} {w:Fu},NR l→l[j]? =some w→Cr k w=true→idx (Cr k) l=j:=by
 intro l j w hp hj hin
 refine (Ey hj hin fun i y hi hy=> ?_).symm
 rw [Bool.eq_false_iff]
 intro hc
 have h1:=MD hc
 have h2:=MD hin
 have hij:i<l.length:=by rcases Nat.lt_or_ge i l.length with h|h;exact h;rw [List.getElem?_eq_none h] at hy;cases hy
 have hjl:j<l.length:=by rcases Nat.lt_or_ge j l.length with h|h;exact h;rw [List.getElem?_eq_none h] at hj;cases hj
 have:=List.pairwise_iff_getElem.1 hp i j hij hjl hi
 rw [List.getElem?_eq_getElem hij] at hy
 rw [List.getElem?_eq_getElem hjl] at hj
 simp at hy hj
 rw [hy,hj] at this
 omega
theorem Wn {c:Aq} {k:Int} {j:Nat} {w:Fu} (h:c.own=0) (hj:c.B0[j]? =some w) (hin:Cr k w=true):c.at k=j:=by
 obtain ⟨h1,h2⟩:=MC h
 exact eU (HX h1 h2) hj hin
theorem JU {a b:List Int} (h:a.length=b.length) (x y:Int):(a++[x]).zip (b++[y])=a.zip b++[(x,y)]:=by
 rw [List.zip_append h];rfl
theorem UI {c:Aq} {a b:List Int} {t d:Int} (hf:c.Cs a b []=0) (Ke:a.length<24) (ht:c.has t=true) (hm:c.may t d=true):c.Cs (a++[t]) (b++[d]) []=0:=by
 have ho:=Dr hf
 have hl:=(HI hf).1
 have h1:=MA hf
 have h2:=ME hf
 unfold Aq.Cs
 rw [if_neg (not_not_intro ho),if_neg (by simp [hl]),if_neg (by simp;omega),if_neg,JU hl,List.all_append,h2,if_pos (by simp [hm])]
 rw [Bool.not_eq_true,List.any_eq_false]
 intro n hn
 have:c.has n=true:=by
  rw [List.append_nil] at hn
  rcases List.mem_append.1 hn with hn|hn
  · exact h1 n (List.mem_append_left _ hn)
  · rw [List.mem_singleton.1 hn];exact ht
 simp [this]
theorem UJ {c:Aq} {a b:List Int} {t d:Int} (hf:c.Bi a b []=0) (Ke:a.length<24) (ht:c.has t=true) (hm:c.may t d=true) (hr:c.cnt (a.zip b) ((c.at d).toNat*8+t.toNat)<c.HH t):c.Bi (a++[t]) (b++[d]) []=0:=by
 have Xw:=DQ hf
 have h1:=UI Xw Ke ht hm
 have ho:=Dr Xw
 obtain ⟨h32,h8⟩:=HG ho
 have hl:=(HI Xw).1
 unfold Aq.Bi
 rw [if_neg (not_not_intro h1),if_neg]
 rintro ⟨i,n,r,hi,hn,hc⟩
 rw [JU hl,Pb] at hc
 have lZ:n<8:=by
  rcases Nat.lt_or_ge n c.room.length with h|h
  · omega
  · rw [List.getElem?_eq_none h] at hn;cases hn
 have ht8:=OJ ho ht
 have hno:¬c.over (a.zip b):=by
  unfold Aq.Bi at hf
  rw [if_neg (not_not_intro Xw)] at hf
  intro hh;rw [if_pos hh] at hf;cases hf
 have hle:(c.cnt (a.zip b) (i*8+n):Int)≤r:=by
  rcases Int.lt_or_le r (c.cnt (a.zip b) (i*8+n):Int) with h|h
  · exact absurd ⟨i,n,r,hi,hn,h⟩ hno
  · exact h
 split at hc
 ·
  rename_i he
  have e1:(c.at d).toNat=i:=by omega
  have e2:t.toNat=n:=by omega
  have:=(MB ht).2
  rw [e2,hn] at this
  simp at this
  rw [e1,e2] at hr
  omega
 · omega
theorem Wo {c:Aq} (h:c.own=0):c.Bi [] [] []=0:=by
 have hf:c.Cs [] [] []=0:=by
  unfold Aq.Cs
  rw [if_neg (not_not_intro h),if_neg (by simp),if_neg (by simp),if_neg (by simp),if_pos (by rfl)]
 unfold Aq.Bi
 rw [if_neg (not_not_intro hf),if_neg]
 rintro ⟨i,n,r,_,hn,hc⟩
 have h2:=(Io (show c.check c.Gr.length=0 from h)).2.1
 rw [List.any_eq_false] at h2
 have:=h2 r (List.mem_of_getElem? hn)
 simp [GW] at this
 simp [Aq.cnt] at hc
 omega
theorem Ki {t d x:Int} {room:Nat→Bool}:∀{l:List Fu} {i:Nat},DP t d room i l=some x→NR l→(∀w∈l,0≤w.lo∧w.lo<w.hi)→
  d≤x∧(∃(j:Nat) (w:Fu),l[j]? =some w∧Cr x w=true∧w.AX.any (fun y=>t==y)=true∧room (i+j)=true)∧∀k,d≤k→k<x→∀(j:Nat) (w:Fu),l[j]? =some w→Cr k w=true→¬(w.AX.any (fun y=>t==y)=true∧room (i+j)=true)
 |[],_,h,_,_=>by cases h
 |a::l,i,h,hp,hw=>by
  have ha:=hw a (by simp)
  unfold DP at h
  split at h
  ·
   rename_i hc
   simp only [Option.some.injEq] at h
   subst h
   refine ⟨by omega,⟨0,a,rfl,ld (by omega),hc.2.1,hc.2.2⟩,fun k hk hx j w hj hin=> ?_⟩
   have:=MD hin
   match j with
   |0=>simp at hj;subst hj;omega
   |j+1=>
    have h1:=(List.pairwise_cons.1 hp).1 w (List.mem_of_getElem? (by simpa using hj))
    omega
  ·
   rename_i hc
   obtain ⟨h1,⟨j,w,hj,h2,h3,h5⟩,h4⟩:=Ki h (List.pairwise_cons.1 hp).2 (fun w hm=>hw w (List.mem_cons_of_mem _ hm))
   refine ⟨h1,⟨j+1,w,by simpa using hj,h2,h3,by rw [show i+(j+1)=i+1+j by omega];exact h5⟩,fun k hk hx j u hu hin=> ?_⟩
   match j with
   |0=>
    simp at hu;subst hu
    have:=MD hin
    exact fun h=>hc ⟨by omega,h.1,h.2⟩
   |j+1=>
    have:=h4 k hk hx j u (by simpa using hu) hin
    rwa [show i+(j+1)=i+1+j by omega]
def Aq.TW (c:Aq) (l:List (Int×Int)) (t k:Int):Bool:=c.may t k&&decide ((c.cnt l ((c.at k).toNat*8+t.toNat):Int)<c.HH t)
theorem Zd {c:Aq} {l:List (Int×Int)} {t k:Int} (h:c.own=0):c.TW l t k=true↔∃(j:Nat) (w:Fu),c.B0[j]? =some w∧Cr k w=true∧w.AX.any (fun y=>t==y)=true∧c.free l t j=true:=by
 unfold Aq.TW
 rw [Bool.and_eq_true,Zc h,decide_eq_true_eq]
 constructor
 ·
  rintro ⟨⟨w,hw,h1,h2⟩,h3⟩
  obtain ⟨j,hj⟩:=List.mem_iff_getElem?.1 hw
  refine ⟨j,w,hj,h1,h2,?_⟩
  rw [Wn h hj h1,Int.toNat_natCast] at h3
  simpa [Aq.free] using h3
 ·
  rintro ⟨j,w,hj,h1,h2,h3⟩
  refine ⟨⟨w,List.mem_of_getElem? hj,h1,h2⟩,?_⟩
  rw [Wn h hj h1,Int.toNat_natCast]
  simpa [Aq.free] using h3
theorem Wp {c:Aq} {a b:List Int} {t k:Int} (hf:c.Bi a b []=0) (Ke:a.length<24) (ht:c.has t=true):decide (c.Bi (a++[t]) (b++[k]) []=0)=c.TW (a.zip b) t k:=by
 have Xw:=DQ hf
 have ho:=Dr Xw
 obtain ⟨hl,_⟩:=HI Xw
 have ht8:=OJ ho ht
 rw [Bool.eq_iff_iff,decide_eq_true_eq,Aq.TW,Bool.and_eq_true,decide_eq_true_eq]
 constructor
 ·
  intro h
  have h0:=DQ h
  have hm:=ME h0
  rw [JU hl,List.all_append,Bool.and_eq_true] at hm
  have hm1:c.may t k=true:=by simpa using hm.2
  refine ⟨hm1,?_⟩
  unfold Aq.Bi at h
  rw [if_neg (not_not_intro h0)] at h
  have hno:¬c.over ((a++[t]).zip (b++[k])):=by intro hh;rw [if_pos hh] at h;cases h
  have hat:=Wj hm1
  have hai:(c.at k).toNat<c.B0.length:=by have:=(NN (Cr k) c.B0).2;unfold Aq.at at*;omega
  have hr:=(MB ht).2
  rcases Int.lt_or_le (c.cnt (a.zip b) ((c.at k).toNat*8+t.toNat)) (c.HH t) with h5|h5
  · exact h5
  ·
   refine absurd ⟨(c.at k).toNat,t.toNat,c.HH t,hai,hr,?_⟩ hno
   rw [JU hl,Pb,if_pos (by omega)]
   omega
 ·
  rintro ⟨h1,h2⟩
  exact UJ hf Ke ht h1 h2
structure BU where
 fst:Int
 thn:Int
 deriving DecidableEq
def EM (a b:BU):Bool:=if a.fst=b.fst then decide (a.thn<b.thn) else decide (a.fst<b.fst)
def C3 (n:Int) (r:BU):Bool:=decide (r.fst<0∨r.thn<0∨n≤r.fst∨n≤r.thn∨r.fst=r.thn)
def H9 (l:List BU) (a b:Nat):Bool:=l.any fun r=>decide (r.fst=(a:Int))&&decide (r.thn=(b:Int))
def K0 (k:Nat) (m:Nat→Nat→Bool) (a b:Nat):Bool:=m a b||(m a k&&m k b)
def Cd (l:List BU):Nat→Nat→Nat→Bool
 |0=>H9 l
 |k+1=>K0 k (Cd l k)
theorem J7 {l:List BU} {a b:Nat} (h:H9 l a b=true):∀k,Cd l k a b=true
 |0=>h
 |k+1=>by show (_||_)=true;rw [J7 h k];rfl
theorem MG {l:List BU}:∀(k:Nat) {a b c:Nat},c<k→Cd l k a c=true→Cd l k c b=true→Cd l k a b=true
 |0,_,_,_,h,_,_=>absurd h (by omega)
 |k+1,a,b,c,h,h1,h2=>by
  have ih:= @MG l k
  simp only [Cd,K0,Bool.or_eq_true,Bool.and_eq_true] at h1 h2 ⊢
  rcases Nat.lt_or_ge c k with hc|hc
  ·
   rcases h1 with h1|⟨h1,h3⟩<;>rcases h2 with h2|⟨h2,h4⟩
   · exact .inl (ih hc h1 h2)
   · exact .inr ⟨ih hc h1 h2,h4⟩
   · exact .inr ⟨h1,ih hc h3 h2⟩
   · exact .inr ⟨h1,h4⟩
  ·
   obtain rfl:c=k:=by omega
   refine .inr ⟨?_,?_⟩
   · rcases h1 with h1|⟨h1,_⟩<;>exact h1
   · rcases h2 with h2|⟨_,h2⟩<;>exact h2
theorem Wq (k:Nat) (m:Nat→Nat→Bool) (a:Nat):K0 k m a k=m a k:=by unfold K0;cases m a k<;>simp
def lf (n:Nat) (l:List BU):Bool:=(List.range n).any fun i=>Cd l n i i
def CR:List BU→Bool
 |[]=>true
 |[_]=>true
 |a::b::l=>EM a b&&CR (b::l)
def Ar (n:Int) (l:List BU):Int:=
 if n<0∨24<n then 2 else if l.any (C3 n) then 44 else if CR l=false then 6 else if lf n.toNat l then 45 else 0
theorem Wr {R:Nat→Nat→Prop} (hi:∀a,¬R a a) (ht:∀a b c,R a b→R b c→R a c):∀{L:List Nat},L≠[]→(∀a b,a∈L→b∈L→R a b∨¬R a b)→∃x∈L,∀y∈L,¬R y x
 |[],h,_=>absurd rfl h
 |[x],_,_=>⟨x,by simp,fun y hy=>by simp at hy;subst hy;exact hi _⟩
 |x::y::l,_,hd=>by
  obtain ⟨z,hz,hm⟩:=Wr hi ht (L:=y::l) (by simp) (fun a b ha hb=>hd a b (List.mem_cons_of_mem _ ha) (List.mem_cons_of_mem _ hb))
  rcases hd x z (by simp) (List.mem_cons_of_mem _ hz) with h|h
  ·
   refine ⟨x,by simp,fun w hw=> ?_⟩
   rcases List.mem_cons.1 hw with rfl|hw
   · exact hi _
   · exact fun h2=>hm w hw (ht _ _ _ h2 h)
  ·
   refine ⟨z,List.mem_cons_of_mem _ hz,fun w hw=> ?_⟩
   rcases List.mem_cons.1 hw with rfl|hw
   · exact h
   · exact hm w hw
def JV (s:List Int) (n:Int):Bool:=s.any fun x=>n==x
theorem EN {s:List Int} {n:Int}:JV s n=true↔n∈s:=by unfold JV;rw [List.any_eq_true];exact ⟨fun ⟨x,h,h2⟩=>by simp at h2;subst h2;exact h,fun h=>⟨n,h,by simp⟩⟩
def Fe (l:List BU) (s:List Int):Bool:=l.all fun r=> !(JV s r.thn)||JV s r.fst
theorem DR {l:List BU} {s:List Int}:Fe l s=true↔∀r∈l,r.thn∈s→r.fst∈s:=by
 unfold Fe;rw [List.all_eq_true]
 refine forall_congr' fun r=>forall_congr' fun _=> ?_
 rw [Bool.or_eq_true,Bool.not_eq_true',←EN,←EN]
 cases JV s r.thn<;>simp
def JW (n:Int) (has:Bool) (p:List Int×Bool) (x:Int):List Int×Bool:=
 if x=n then (if has=true∧p.2=false∧n<x then (p.1++[n],true) else p) else if has=true∧p.2=false∧n<x then (p.1++[n]++[x],true) else (p.1++[x],p.2)
def wall (n:Int) (has:Bool) (s:List Int):List Int×Bool:=s.foldl (JW n has) ([],false)
def Kj (s:List Int) (n:Int) (has:Bool):List Int:=if has=true∧(wall n has s).2=false then (wall n has s).1++[n] else (wall n has s).1
theorem Pf {n:Int} {has:Bool} {x:Int}:∀{s:List Int} {p:List Int×Bool},(x∈(s.foldl (JW n has) p).1∧x≠n)↔((x∈p.1∨x∈s)∧x≠n)
 |[],p=>by simp
 |y::s,p=>by
  rw [List.foldl_cons,Pf]
  unfold JW
  by_cases h1:x=n
  · subst h1;simp
  ·
   repeat' split
   all_goals (try subst y);simp [h1,or_assoc]
theorem Pg {n:Int} {has:Bool}:∀{s:List Int} {p:List Int×Bool},(p.2=true→n∈p.1)→(p.2=false→n∉p.1)→(((s.foldl (JW n has) p).2=true→n∈(s.foldl (JW n has) p).1)∧((s.foldl (JW n has) p).2=false→n∉(s.foldl (JW n has) p).1))
 |[],p,h,h'=>⟨h,h'⟩
 |y::s,p,h,h'=>by
  rw [List.foldl_cons]
  apply Pg
  ·
   unfold JW;intro h2
   repeat' split at h2
   all_goals (repeat' split)<;>simp_all
  ·
   unfold JW;intro h2
   repeat' split at h2
   all_goals (repeat' split)<;>simp_all<;>omega
theorem C_ {s:List Int} {n x:Int}:x∈Kj s n true↔x=n∨x∈s:=by
 have hm:=Pf (n:=n) (has:=true) (x:=x) (s:=s) (p:=([],false))
 have hp:=Pg (n:=n) (has:=true) (s:=s) (p:=([],false)) (by simp) (by simp)
 unfold Kj wall
 by_cases hx:x=n
 ·
  subst hx
  split
  next=>simp
  next h=>simp only [true_and,Bool.not_eq_false] at h;simp [hp.1 h]
 ·
  split
  next=>simp [hx] at hm ⊢;exact hm
  next=>simp [hx] at hm ⊢;exact hm
def Ph (l:List BU) (s:List Int) (add:Bool) (i:Nat):Bool:=(JV s i !=add)&&Fe l (Kj s i add)
def OK (n:Nat) (l:List BU) (s:List Int) (add:Bool):List Int:=((List.range n).filter (Ph l s add)).map fun i:Nat=>(i:Int)
theorem CV {n:Int} {l:List BU} (h:Ar n l=0):(0≤n∧n≤24)∧(∀r∈l,C3 n r=false)∧CR l=true∧∀i,i<n.toNat→Cd l n.toNat i i=false:=by
 unfold Ar at h
 split at h
 · cases h
 next h1=>
 split at h
 · cases h
 next h2=>
 split at h
 · cases h
 next h3=>
 split at h
 · cases h
 next h4=>
 refine ⟨by omega,fun r hr=> ?_,by simpa using h3,fun i hi=> ?_⟩
 ·
  cases hb:C3 n r with
  |false=>rfl
  |true=>exact absurd (List.any_eq_true.2 ⟨r,hr,hb⟩) h2
 ·
  cases hb:Cd l n.toNat i i with
  |false=>rfl
  |true=>exact absurd (show (List.range n.toNat).any (fun i=>Cd l n.toNat i i)=true from List.any_eq_true.2 ⟨i,List.mem_range.2 hi,hb⟩) h4
theorem eV {n:Int} {l:List BU} {s:List Int} {i:Nat} (h:Ar n l=0) (hc:Fe l s=true) (hi:i<n.toNat) (hn:(i:Int)∉s):OK n.toNat l s true≠[]:=by
 obtain ⟨h1,h2,_,h4⟩:=CV h
 have hU:(List.range n.toNat).filter (fun k:Nat=> !JV s k)≠[]:=by
  intro he
  have:i∈(List.range n.toNat).filter (fun k:Nat=> !JV s k):=List.mem_filter.2 ⟨List.mem_range.2 hi,by rw [Bool.not_eq_true'];cases hb:JV s i with|false=>rfl|true=>exact absurd (EN.1 hb) hn⟩
  rw [he] at this;cases this
 obtain ⟨x,hx,hm⟩:=Wr (R:=fun a b=>a<n.toNat∧b<n.toNat∧Cd l n.toNat a b=true) (fun a ha=>by have:=h4 a ha.1;rw [ha.2.2] at this;cases this) (fun a b c ⟨g1,g2,g3⟩ ⟨_,g4,g5⟩=>⟨g1,g4,MG _ g2 g3 g5⟩) hU (fun a b _ _=>Classical.em _)
 obtain ⟨hx1,hx2⟩:=List.mem_filter.1 hx
 rw [List.mem_range] at hx1
 have hx3:(x:Int)∉s:=fun h=>by rw [EN.2 h] at hx2;cases hx2
 intro he
 have:((x:Nat):Int)∈OK n.toNat l s true:=by
  unfold OK
  refine List.mem_map.2 ⟨x,List.mem_filter.2 ⟨List.mem_range.2 hx1,?_⟩,rfl⟩
  unfold Ph
  rw [Bool.and_eq_true]
  refine ⟨by cases hb:JV s x with|false=>rfl|true=>exact absurd (EN.1 hb) hx3,DR.2 fun r hr ht=> ?_⟩
  rw [C_] at ht ⊢
  by_cases hf:r.fst=x
  · exact .inl hf
  right
  rcases ht with ht|ht
  ·
   have hb:=h2 r hr
   unfold C3 at hb
   simp only [decide_eq_false_iff_not] at hb
   by_cases hs:r.fst∈s
   · exact hs
   exfalso
   refine hm r.fst.toNat (List.mem_filter.2 ⟨List.mem_range.2 (by omega),?_⟩) ⟨by omega,hx1,J7 (List.any_eq_true.2 ⟨r,hr,?_⟩) _⟩
   ·
    rw [show ((r.fst.toNat:Nat):Int)=r.fst by omega,Bool.not_eq_true']
    cases QT:JV s r.fst with
    |false=>rfl
    |true=>exact absurd (EN.1 QT) hs
   · rw [Bool.and_eq_true,decide_eq_true_eq,decide_eq_true_eq];omega
  · exact DR.1 hc r hr ht
 rw [he] at this;cases this
theorem LA:∀{L M:List Int},L.Nodup→(∀x∈L,x∈M)→L.length≤M.length
 |[],_,_,_=>Nat.zero_le _
 |x::L,M,hn,hs=>by
  rw [List.nodup_cons] at hn
  have h:=LA (L:=L) (M:=M.erase x) hn.2 (fun y hy=>(List.mem_erase_of_ne (fun e=>hn.1 (by rw [←e];exact hy))).2 (hs y (List.mem_cons_of_mem _ hy)))
  have hx:=hs x (by simp)
  rw [List.length_erase_of_mem hx] at h
  have:=List.length_pos_of_mem hx
  simp;omega
structure JX (n:Int) (l:List BU) (out done:List Int):Prop where
 mem:∀x,x∈done↔x∈out
 nd:out.Nodup
 bE:∀x∈out,0≤x∧x<n
 cl:Fe l done=true
 eW:∀(k:Nat) x,out[k]? =some x→∀r∈l,r.thn=x→r.fst∈out.take k
theorem JX.nil {n:Int} {l:List BU}:JX n l [] []:=⟨fun x=>Iff.rfl,List.nodup_nil,(fun x h=>by cases h),(DR.2 fun r _ h=>by cases h),(fun k x h=>by simp at h)⟩
theorem JX.len {n:Int} {l:List BU} {out done:List Int} (h:JX n l out done):out.length≤n.toNat:=by
 have:=LA (L:=out) (M:=(List.range n.toNat).map fun i:Nat=>(i:Int)) h.nd (fun x hx=>by have:=h.bE x hx;exact List.mem_map.2 ⟨x.toNat,List.mem_range.2 (by omega),by omega⟩)
 simpa using this
theorem JX.bes {n:Int} {l:List BU} {out done:List Int} (h:JX n l out done) (hv:Ar n l=0) (hl:out.length<n.toNat):∃x,(OK n.toNat l done true)[0]? =some x∧JX n l (out++[x]) (Kj done x true):=by
 have hex:∃i,i<n.toNat∧(i:Int)∉out:=by
  refine Classical.byContradiction fun hne=> ?_
  have hall:∀i,i<n.toNat→(i:Int)∈out:=fun i hi=>Classical.byContradiction fun hh=>hne ⟨i,hi,hh⟩
  have hnd:((List.range n.toNat).map fun i:Nat=>(i:Int)).Nodup:=by
   refine List.Pairwise.map _ (fun a b hab=> ?_) (List.nodup_range (n:=n.toNat))
   intro e;apply hab;omega
  have:=LA hnd (M:=out) (fun x hx=>by
   obtain ⟨i,hi,rfl⟩:=List.mem_map.1 hx
   exact hall i (List.mem_range.1 hi))
  simp at this;omega
 obtain ⟨i,hi,hio⟩:=hex
 have hne:=eV hv h.cl hi (fun hh=>hio ((h.mem _).1 hh))
 obtain ⟨x,hx⟩:=at_ (l:=OK n.toNat l done true) (k:=0) (List.length_pos_iff.2 hne)
 refine ⟨x,hx,?_⟩
 obtain ⟨j,hj,rfl⟩:=List.mem_map.1 (List.mem_of_getElem? hx)
 obtain ⟨fu,hj2⟩:=List.mem_filter.1 hj
 rw [List.mem_range] at fu
 unfold Ph at hj2
 rw [Bool.and_eq_true] at hj2
 have hjd:(j:Int)∉done:=fun hh=>by rw [EN.2 hh] at hj2;exact absurd hj2.1 (by decide)
 have hjo:(j:Int)∉out:=fun hh=>hjd ((h.mem _).2 hh)
 refine ⟨fun y=> ?_,?_,fun y hy=> ?_,hj2.2,fun k y hk r hr ht=> ?_⟩
 · rw [C_,h.mem,List.mem_append,List.mem_singleton];exact Or.comm
 ·
  rw [List.nodup_append]
  exact ⟨h.nd,by simp,fun a ha b hb=>by simp at hb;subst hb;intro e;subst e;exact hjo ha⟩
 ·
  rcases List.mem_append.1 hy with hy|hy
  · exact h.bE y hy
  · simp at hy;subst hy;omega
 ·
  rcases Nat.lt_or_ge k out.length with hlt|hge
  ·
   rw [List.getElem?_append_left hlt] at hk
   rw [List.take_append_of_le_length (by omega)]
   exact h.eW k y hk r hr ht
  ·
   have hk2:k=out.length:=by
    rcases Nat.lt_or_ge k (out++[(j:Int)]).length with hh|hh
    · simp at hh;omega
    · rw [List.getElem?_eq_none hh] at hk;cases hk
   subst hk2
   rw [List.getElem?_append_right (Nat.le_refl _)] at hk
   simp at hk;subst hk
   rw [List.take_left]
   have aD:=DR.1 hj2.2 r hr (C_.2 (.inl ht))
   rcases C_.1 aD with he|hm
   ·
    obtain ⟨_,g2,_,_⟩:=CV hv
    have hb:=g2 r hr
    unfold C3 at hb
    simp only [decide_eq_false_iff_not] at hb
    omega
   · exact (h.mem _).1 hm
def FP (l:List BU) (r:BU):Nat:=(l.takeWhile fun x=>EM x r).length
def Me (l:List BU) (r:BU):List BU:=if l[FP l r]? =some r then l else l.take (FP l r)++[r]++l.drop (FP l r)
theorem Ze (l:List BU) (r:BU):FP l r≤l.length:=by unfold FP;exact (List.takeWhile_sublist _).length_le
theorem Zf {l:List BU} {r:BU} {k:Nat} (hk:k<FP l r) {x:BU} (hx:l[k]? =some x):EM x r=true:=by
 induction l generalizing k with
 |nil=>simp at hx
 |cons a l ih=>
  unfold FP at hk
  rw [List.takeWhile_cons] at hk
  split at hk
  next h=>
   cases k with
   |zero=>simp at hx;subst hx;exact h
   |succ k=>exact ih (k:=k) (by simp at hk;exact hk) (by simpa using hx)
  next=>simp at hk
theorem Zg {l:List BU} {r:BU} {x:BU} (hx:l[FP l r]? =some x):EM x r=false:=by
 induction l with
 |nil=>simp at hx
 |cons a l ih=>
  unfold FP at hx
  rw [List.takeWhile_cons] at hx
  split at hx
  next h=>exact ih (by unfold FP;simpa using hx)
  next h=>simp at hx;subst hx;simpa using h
theorem Pj {l:List BU} {r x:BU}:x∈Me l r↔x=r∨x∈l:=by
 unfold Me;split
 next h=>exact ⟨.inr,fun h2=>h2.elim (fun e=>by subst e;exact List.mem_of_getElem? h) id⟩
 next=>rw [List.append_assoc,List.mem_append,List.mem_append,List.mem_singleton,←or_assoc,or_comm (a:=x∈_) (b:=x=r),or_assoc,←List.mem_append,List.take_append_drop]
theorem Ws {a b:BU} (h:EM a b=false) (hn:a≠b):EM b a=true:=by
 unfold EM at*
 obtain ⟨a1,a2⟩:=a
 obtain ⟨b1,b2⟩:=b
 simp only [ne_eq,BU.mk.injEq,not_and] at*
 repeat' split at h
 all_goals repeat' split
 all_goals simp only [decide_eq_true_eq,decide_eq_false_iff_not] at*
 all_goals omega
theorem Ip {l:List BU}:CR l=true↔∀j a b,l[j]? =some a→l[j+1]? =some b→EM a b=true:=by
 induction l with
 |nil=>exact ⟨fun _ j a b h=>by simp at h,fun _=>rfl⟩
 |cons x l ih=>
  cases l with
  |nil=>exact ⟨fun _ j a b _ h=>by simp at h,fun _=>rfl⟩
  |cons y l=>
   unfold CR
   rw [Bool.and_eq_true,ih]
   refine ⟨fun ⟨h1,h2⟩ j a b ha hb=> ?_,fun h=>⟨h 0 x y rfl rfl,fun j a b ha hb=>h (j+1) a b (by simpa using ha) (by simpa using hb)⟩⟩
   cases j with
   |zero=>simp at ha hb;subst ha;subst hb;exact h1
   |succ j=>exact h2 j a b (by simpa using ha) (by simpa using hb)
theorem Kk {l:List BU} {r:BU} (h:CR l=true):CR (Me l r)=true:=by
 unfold Me;split
 next=>exact h
 next hne=>
 rw [Ip] at h ⊢
 have hp:=Ze l r
 intro j a b ha hb
 rw [List.append_assoc] at ha hb
 rcases Nat.lt_trichotomy (j+1) (FP l r) with h1|h1|h1
 ·
  rw [List.getElem?_append_left (by rw [List.length_take];omega),List.getElem?_take,if_pos (by omega)] at ha hb
  exact h j a b ha hb
 ·
  rw [List.getElem?_append_left (by rw [List.length_take];omega),List.getElem?_take,if_pos (by omega)] at ha
  rw [List.getElem?_append_right (by rw [List.length_take];omega),List.length_take,show j+1-min (FP l r) l.length=0 by omega] at hb
  simp at hb;subst hb
  exact Zf (by omega) ha
 ·
  rw [List.getElem?_append_right (by rw [List.length_take];omega),List.length_take,show j-min (FP l r) l.length=j-FP l r by omega] at ha
  rw [List.getElem?_append_right (by rw [List.length_take];omega),List.length_take,show j+1-min (FP l r) l.length=(j-FP l r)+1 by omega] at hb
  simp only [List.singleton_append,List.getElem?_cons_succ,List.getElem?_drop] at hb
  rcases Nat.eq_zero_or_pos (j-FP l r) with h2|h2
  ·
   rw [h2] at ha hb
   simp at ha;subst ha
   simp at hb
   exact Ws (Zg hb) (fun e=>hne (by rw [hb,e]))
  ·
   obtain ⟨i,hi⟩:∃i,j-FP l r=i+1:=⟨j-FP l r-1,by omega⟩
   rw [hi] at ha hb
   simp only [List.singleton_append,List.getElem?_cons_succ,List.getElem?_drop] at ha
   exact h (FP l r+i) a b ha (by rw [show FP l r+i+1=FP l r+(i+1) by omega];exact hb)
theorem LB {l:List BU} (h:∀r∈l,r.fst<r.thn):∀(k:Nat) {a b:Nat},Cd l k a b=true→a<b
 |0,a,b,hb=>by
  obtain ⟨r,hr,h2⟩:=List.any_eq_true.1 hb
  rw [Bool.and_eq_true,decide_eq_true_eq,decide_eq_true_eq] at h2
  have:=h r hr;omega
 |k+1,a,b,hb=>by
  simp only [Cd,K0,Bool.or_eq_true,Bool.and_eq_true] at hb
  rcases hb with hb|⟨h1,h2⟩
  · exact LB h k hb
  · have:=LB h k h1;have:=LB h k h2;omega
theorem Wt {n:Nat} {l:List BU} (hn:n≤24) (h:∀r∈l,(0≤r.fst∧r.fst<r.thn)∧r.thn<n) (hs:CR l=true):Ar n l=0:=by
 unfold Ar
 rw [if_neg (by omega),if_neg ?_,if_neg (by simp [hs]),if_neg ?_]
 ·
  intro hc
  obtain ⟨i,_,hi⟩:=List.any_eq_true.1 hc
  have:=LB (fun r hr=>(h r hr).1.2) _ hi;omega
 ·
  intro hc
  obtain ⟨r,hr,hb⟩:=List.any_eq_true.1 hc
  unfold C3 at hb
  rw [decide_eq_true_eq] at hb
  have:=h r hr;omega
def BW (n:Nat) (l:List BU):Nat→List Int×List Int
 |0=>([],[])
 |k+1=>match (OK n l (BW n l k).2 true)[0]? with
  |none=>BW n l k
  |some x=>((BW n l k).1++[x],Kj (BW n l k).2 x true)
theorem D6 {n:Int} {l:List BU} (hv:Ar n l=0):∀(k:Nat),k≤n.toNat→JX n l (BW n.toNat l k).1 (BW n.toNat l k).2∧(BW n.toNat l k).1.length=k
 |0,_=>⟨JX.nil,rfl⟩
 |k+1,hk=>by
  obtain ⟨h1,h2⟩:=D6 hv k (by omega)
  obtain ⟨x,hx,hr⟩:=h1.bes hv (by omega)
  unfold BW
  rw [hx]
  exact ⟨hr,by simp [h2]⟩
theorem Pk {n:Int} {l:List BU} (hv:Ar n l=0) {k:Nat} (hk:k<n.toNat):∃x,(OK n.toNat l (BW n.toNat l k).2 true)[0]? =some x∧BW n.toNat l (k+1)=((BW n.toNat l k).1++[x],Kj (BW n.toNat l k).2 x true):=by
 obtain ⟨h1,h2⟩:=D6 hv k (by omega)
 obtain ⟨x,hx,_⟩:=h1.bes hv (by omega)
 exact ⟨x,hx,by rw [BW];rw [hx]⟩
theorem RM {c:Aq} {a b:List Int} {t n x:Int} (hf:c.Bi a b []=0) (ht:c.has t=true) (Ke:a.length<24) (h:c.early a b t n=some x):n≤x∧(0≤x∧x≤40000)∧c.Bi (a++[t]) (b++[x]) []=0:=by
 have ho:=Dr (DQ hf)
 rw [Pc (by rw [MF ht];exact hf)] at h
 unfold Aq.next at h
 obtain ⟨h1,h2⟩:=MC ho
 obtain ⟨h3,⟨j,w,hj,h4,h5,h7⟩,_⟩:=Ki h (HX h1 h2) h2
 rw [Nat.zero_add] at h7
 have hw:=List.any_eq_false.1 (Io ho).2.2.1 w (List.mem_of_getElem? hj)
 have hl:=MD h4
 simp [HF] at hw
 have hop:c.TW (a.zip b) t x=true:=(Zd ho).2 ⟨j,w,hj,h4,h5,h7⟩
 refine ⟨by omega,by omega,?_⟩
 rw [←Wp hf Ke ht] at hop
 exact of_decide_eq_true hop
theorem RN {c:Aq} {a b a' b':List Int} (h:c.Bi a b []=0) (hl:a'.length=b'.length) (hp:(a.zip b).Perm (a'.zip b')):c.Bi a' b' []=0:=by
 have h0:=DQ h
 have ho:=Dr h0
 obtain ⟨l1,l2⟩:=HI h0
 have hlen:=hp.length_eq
 rw [List.length_zip,List.length_zip] at hlen
 have Zh:=MA h0
 have hmem:∀n∈a',n∈a:=fun n hn=>by
  obtain ⟨j,hj⟩:=List.mem_iff_getElem?.1 hn
  have hjl:j<a'.length:=by rcases Nat.lt_or_ge j a'.length with h2|h2;exact h2;rw [List.getElem?_eq_none h2] at hj;cases hj
  obtain ⟨y,hy⟩:=at_ (l:=b') (k:=j) (by omega)
  have hz:(n,y)∈a'.zip b':=List.mem_of_getElem? (List.getElem?_zip_eq_some.2 ⟨hj,hy⟩)
  exact (List.of_mem_zip (hp.mem_iff.2 hz)).1
 have h1:c.Cs a' b' []=0:=by
  unfold Aq.Cs
  rw [if_neg (not_not_intro ho),if_neg (by omega),if_neg (by omega),if_neg,if_pos]
  ·
   have hm:=ME h0
   rw [List.all_eq_true] at hm ⊢
   exact fun p hpm=>hm p (hp.mem_iff.2 hpm)
  ·
   rw [Bool.not_eq_true,List.any_eq_false]
   intro n hn
   rw [List.append_nil] at hn
   have:=Zh n (by rw [List.append_nil];exact hmem n hn)
   simp [this]
 unfold Aq.Bi at h ⊢
 rw [if_neg (not_not_intro h0)] at h
 rw [if_neg (not_not_intro h1),if_neg]
 intro hov
 have hno:¬c.over (a.zip b):=by intro hh;rw [if_pos hh] at h;cases h
 refine hno ?_
 obtain ⟨i,n,r,g1,g2,g3⟩:=hov
 refine ⟨i,n,r,g1,g2,?_⟩
 have:c.cnt (a.zip b) (i*8+n)=c.cnt (a'.zip b') (i*8+n):=List.Perm.countP_eq _ hp
 rw [this];exact g3
-- days for changes, one after the other (behind Rq.lean and the nw)
def DT (l:List BU) (Gk:List Int) (i fr:Int):Int:=l.foldl (fun a r=>if r.thn=i then max a (Gk.getD r.fst.toNat 0+1) else a) fr
theorem JY {Gk:List Int} {i:Int}:∀{l:List BU} {fr:Int},fr≤DT l Gk i fr
 |[],_=>Int.le_refl _
 |r::l,fr=>by
  have h:= @JY Gk i l (if r.thn=i then max fr (Gk.getD r.fst.toNat 0+1) else fr)
  unfold DT at h ⊢
  rw [List.foldl_cons]
  split at h
  next h2=>rw [if_pos h2];omega
  next h2=>rw [if_neg h2];exact h
theorem MH {Gk:List Int} {i:Int} {r:BU}:∀{l:List BU} {fr:Int},r∈l→r.thn=i→Gk.getD r.fst.toNat 0<DT l Gk i fr
 |[],_,h,_=>by cases h
 |x::l,fr,h,h2=>by
  unfold DT
  rw [List.foldl_cons]
  rcases List.mem_cons.1 h with rfl|h
  ·
   have h3:= @JY Gk i l (if r.thn=i then max fr (Gk.getD r.fst.toNat 0+1) else fr)
   unfold DT at h3
   rw [if_pos h2] at h3 ⊢
   omega
  · exact MH h h2
abbrev Mf (t:List Int) (i:Int):Int:=t.getD i.toNat 0
open Classical in
noncomputable def HY (c:Aq) (l:List BU) (t:List Int) (fr:Int) (st:Option (List Int×List Int×List Int)) (i:Int):Option (List Int×List Int×List Int):=
 match st with
 |none=>none
 |some (Gk,busy,days)=>match c.early busy days (Mf t i) (DT l Gk i fr) with
  |none=>none
  |some d=>some (Gk.set i.toNat d,busy++[Mf t i],days++[d])
noncomputable def Iq (c:Aq) (l:List BU) (t:List Int) (fr:Int) (n:Nat) (row:List Int):Option (List Int×List Int×List Int):=row.foldl (HY c l t fr) (some (List.replicate n 0,[],[]))
theorem NS {c:Aq} {l:List BU} {t:List Int} {fr:Int}:∀(row:List Int),row.foldl (HY c l t fr) none=none
 |[]=>rfl
 |_::row=>NS row
theorem J8 {c:Aq} {l:List BU} {t:List Int} {fr:Int} {n k:Nat} {row:List Int} {i:Int} (h:row[k]? =some i):Iq c l t fr n (row.take (k+1))=HY c l t fr (Iq c l t fr n (row.take k)) i:=by
 unfold Iq
 rw [List.take_add_one,h,List.foldl_append];rfl
theorem HZ {c:Aq} {l:List BU} {t:List Int} {fr:Int} {n k:Nat} {row:List Int} {i:Int} {d b y:List Int} (h:row[k]? =some i) (hs:Iq c l t fr n (row.take k)=some (d,b,y)) (he:c.early b y (Mf t i) (DT l d i fr)=none):Iq c l t fr n row=none:=by
 have h1:Iq c l t fr n (row.take (k+1))=none:=by rw [J8 h,hs];simp only [HY,he]
 unfold Iq at h1 ⊢
 rw [←List.take_append_drop (k+1) row,List.foldl_append,h1]
 exact NS _
theorem Ss {c:Aq} {l:List BU} {t:List Int} {fr:Int} {n k:Nat} {row:List Int} {i x:Int} {d b y:List Int} (h:row[k]? =some i) (hs:Iq c l t fr n (row.take k)=some (d,b,y)) (he:c.early b y (Mf t i) (DT l d i fr)=some x):Iq c l t fr n (row.take (k+1))=some (d.set i.toNat x,b++[Mf t i],y++[x]):=by
 rw [J8 h,hs];simp only [HY,he]
structure K1 (c:Aq) (l:List BU) (t row:List Int) (fr:Int) (n k:Nat) (Gk busy days:List Int):Prop where
 len:Gk.length=n
 hb:busy=(row.take k).map (Mf t)
 hd:days=(row.take k).map fun i=>Gk.getD i.toNat 0
 nx:∀x∈Gk,0≤x∧x≤40000
 ge:∀i∈row.take k,fr≤Gk.getD i.toNat 0
 ord:∀r∈l,r.thn∈row.take k→Gk.getD r.fst.toNat 0<Gk.getD r.thn.toNat 0
 fit:c.Bi busy days []=0
theorem Dt {l:List Int} {i j d:Int} (hi:0≤i) (hj:0≤j) (h:i.toNat<l.length):(l.set i.toNat d).getD j.toNat 0=if j=i then d else l.getD j.toNat 0:=by
 rw [List.getD_eq_getElem?_getD,List.getElem?_set]
 by_cases e:j=i
 · subst e;rw [if_pos rfl,if_pos h,if_pos rfl];rfl
 · rw [if_neg (by omega),if_neg e,List.getD_eq_getElem?_getD]
theorem RO {l:List Int} {k:Nat} {i:Int} (hn:l.Nodup) (h:l[k]? =some i):i∉l.take k:=by
 intro hm
 obtain ⟨j,hj⟩:=List.mem_iff_getElem?.1 hm
 rw [List.getElem?_take] at hj
 split at hj
 next hjk=>
  have:=(List.getElem?_inj (by rcases Nat.lt_or_ge j l.length with h2|h2;exact h2;rw [List.getElem?_eq_none h2] at hj;cases hj) hn).1 (hj.trans h.symm)
  omega
 next=>cases hj
theorem K1.next {c:Aq} {l:List BU} {t row done:List Int} {fr d i:Int} {n k:Nat} {Gk busy days:List Int} (h:K1 c l t row fr n k Gk busy days) (hr:JX (n:Int) l row done) (hk:row[k]? =some i) (hl:∀r∈l,0≤r.fst∧0≤r.thn∧r.fst≠r.thn) (hn:n≤24) (ht:c.has (Mf t i)=true)
  (he:c.early busy days (Mf t i) (DT l Gk i fr)=some d):K1 c l t row fr n (k+1) (Gk.set i.toNat d) (busy++[Mf t i]) (days++[d]):=by
 have hi:=hr.bE i (List.mem_of_getElem? hk)
 have hni:=RO hr.nd hk
 have hlen:i.toNat<Gk.length:=by rw [h.len];omega
 have QH:k<row.length:=by rcases Nat.lt_or_ge k row.length with h2|h2;exact h2;rw [List.getElem?_eq_none h2] at hk;cases hk
 have hrl:=hr.len
 have Xo:busy.length<24:=by rw [h.hb,List.length_map,List.length_take];omega
 obtain ⟨e1,e2,e3⟩:=RM h.fit ht Xo he
 have hf:= @JY Gk i l fr
 have YA:row.take (k+1)=row.take k++[i]:=by rw [List.take_add_one,hk];rfl
 have Pm:∀j∈row.take k,0≤j∧j≠i:=fun j hj=>⟨(hr.bE j (List.mem_of_mem_take hj)).1,fun e=>hni (e ▸ hj)⟩
 refine ⟨by rw [List.length_set];exact h.len,by rw [YA,List.map_append,←h.hb];rfl,?_,fun x hx=> ?_,fun j hj=> ?_,fun r gp hm=> ?_,e3⟩
 ·
  rw [YA,List.map_append,h.hd]
  have h1:∀j∈row.take k,Gk.getD j.toNat 0=(Gk.set i.toNat d).getD j.toNat 0:=fun j hj=>by
   rw [Dt hi.1 (Pm j hj).1 hlen,if_neg (Pm j hj).2]
  rw [List.map_congr_left h1]
  congr 1
  show [d]=[(Gk.set i.toNat d).getD i.toNat 0]
  rw [Dt hi.1 hi.1 hlen,if_pos rfl]
 ·
  rcases List.mem_or_eq_of_mem_set hx with hx|hx
  · exact h.nx x hx
  · subst hx;exact e2
 ·
  rw [YA,List.mem_append,List.mem_singleton] at hj
  rcases hj with hj|rfl
  · rw [Dt hi.1 (Pm j hj).1 hlen,if_neg (Pm j hj).2];exact h.ge j hj
  · rw [Dt hi.1 hi.1 hlen,if_pos rfl];omega
 ·
  rw [YA,List.mem_append,List.mem_singleton] at hm
  have hq:=hl r gp
  rcases hm with hm|hm
  ·
   have h3:r.fst∈row.take k:=by
    obtain ⟨j,hj⟩:=List.mem_iff_getElem?.1 hm
    rw [List.getElem?_take] at hj
    split at hj
    next hjk=>
     have h4:=hr.eW j _ hj r gp rfl
     exact (List.take_subset_take_left row (by omega)) h4
    next=>cases hj
   rw [Dt hi.1 hq.1 hlen,if_neg (Pm _ h3).2,Dt hi.1 hq.2.1 hlen,if_neg (Pm _ hm).2]
   exact h.ord r gp hm
  ·
   have h3:=hr.eW k i hk r gp hm
   rw [Dt hi.1 hq.1 hlen,if_neg (Pm _ h3).2,Dt hi.1 hq.2.1 hlen,if_pos hm]
   have:=MH (Gk:=Gk) (i:=i) (fr:=fr) gp hm
   omega
theorem K1.nil {c:Aq} {l:List BU} {t row:List Int} {fr:Int} {n:Nat} (ho:c.own=0):K1 c l t row fr n 0 (List.replicate n 0) [] []:=
 ⟨List.length_replicate,rfl,rfl,fun x hx=>by rw [List.eq_of_mem_replicate hx];omega,fun i h=>by simp at h,fun r _ h=>by simp at h,Wo ho⟩
theorem K1.run {c:Aq} {l:List BU} {t row done:List Int} {fr:Int} {n:Nat} (hr:JX (n:Int) l row done) (hl:∀r∈l,0≤r.fst∧0≤r.thn∧r.fst≠r.thn) (hn:n≤24) (ho:c.own=0) (ht:∀i:Int,0≤i→i<(n:Int)→c.has (Mf t i)=true):∀(k:Nat) {d b y:List Int},k≤row.length→Iq c l t fr n (row.take k)=some (d,b,y)→K1 c l t row fr n k d b y
 |0,d,b,y,_,h=>by
  have h:some (List.replicate n 0,([]:List Int),([]:List Int))=some (d,b,y):=h
  cases h
  exact K1.nil ho
 |k+1,d,b,y,hk,h=>by
  obtain ⟨i,hi⟩:=at_ (l:=row) (k:=k) (by omega)
  have Pm:=hr.bE i (List.mem_of_getElem? hi)
  rw [J8 hi] at h
  cases hs:Iq c l t fr n (row.take k) with
  |none=>rw [hs] at h;cases h
  |some p=>
   obtain ⟨d1,b1,y1⟩:=p
   have ih:=K1.run hr hl hn ho ht k (by omega) hs
   rw [hs] at h
   simp only [HY] at h
   cases he:c.early b1 y1 (Mf t i) (DT l d1 i fr) with
   |none=>rw [he] at h;cases h
   |some x=>
    rw [he] at h
    cases h
    exact ih.next hr hi hl hn (ht i Pm.1 Pm.2) he
theorem JX.all {n:Nat} {l:List BU} {row done:List Int} (hr:JX (n:Int) l row done) (hlen:row.length=n):row.Perm ((List.range n).map fun i:Nat=>(i:Int)):=by
 have hnd:((List.range n).map fun i:Nat=>(i:Int)).Nodup:=by
  refine List.Pairwise.map _ (fun a b hab=> ?_) (List.nodup_range (n:=n))
  intro e;apply hab;omega
 have hsub:∀x∈row,x∈(List.range n).map fun i:Nat=>(i:Int):=fun x hx=>by
  have:=hr.bE x hx
  exact List.mem_map.2 ⟨x.toNat,List.mem_range.2 (by omega),by omega⟩
 refine (List.perm_ext_iff_of_nodup hr.nd hnd).2 fun a=>⟨hsub a,fun ha=> ?_⟩
 refine Classical.byContradiction fun hna=> ?_
 have h1:=LA (L:=a::row) (M:=(List.range n).map fun i:Nat=>(i:Int)) (List.nodup_cons.2 ⟨hna,hr.nd⟩) (fun x hx=>by
  rcases List.mem_cons.1 hx with rfl|hx
  · exact ha
  · exact hsub x hx)
 simp at h1;omega
theorem HJ {l:List Int} {n:Nat} (h:l.length=n):((List.range n).map fun i:Nat=>(i:Int)).map (fun i=>l.getD i.toNat 0)=l:=by
 rw [List.map_map]
 apply List.ext_getElem?
 intro k
 rw [List.getElem?_map]
 rcases Nat.lt_or_ge k n with hk|hk
 ·
  rw [List.getElem?_range hk]
  show some (l.getD ((k:Int)).toNat 0)=_
  rw [Int.toNat_natCast,List.getD_eq_getElem?_getD,List.getElem?_eq_getElem (by omega)];rfl
 · rw [List.getElem?_eq_none (by simpa using hk),List.getElem?_eq_none (by omega)];rfl
structure bF (c:Aq) (l:List BU) (t Gk:List Int) (fr:Int) (n:Nat):Prop where
 len:Gk.length=n
 nx:∀x∈Gk,0≤x∧x≤40000
 ge:∀x∈Gk,fr≤x
 ord:∀r∈l,Gk.getD r.fst.toNat 0<Gk.getD r.thn.toNat 0
 fit:c.Bi t Gk []=0
theorem eX {c:Aq} {l:List BU} {t:List Int} {fr:Int} {n:Nat} {d b y:List Int} (hv:Ar n l=0) (ho:c.own=0) (hlt:t.length=n) (ht:∀x∈t,c.has x=true) (h:Iq c l t fr n (BW n l n).1=some (d,b,y)):bF c l t d fr n:=by
 obtain ⟨h0,h1,_,_⟩:=CV hv
 have hrow:=D6 hv n (by simp)
 rw [Int.toNat_natCast] at hrow
 obtain ⟨hr,hrl⟩:=hrow
 have hl:∀r∈l,(0≤r.fst∧r.fst<n)∧(0≤r.thn∧r.thn<n)∧r.fst≠r.thn:=fun r hm=>by
  have:=h1 r hm;unfold C3 at this;rw [decide_eq_false_iff_not] at this;omega
 have hS := K1.run (k := (BW n l n).1.length) (fr := fr) hr (fun r hm => by have := hl r hm; omega) (by omega) ho (fun i hi hin => ht _ (by
  have h3:i.toNat<t.length:=by omega
  unfold Mf;rw [List.getD_eq_getElem?_getD,List.getElem?_eq_getElem h3];exact List.getElem_mem _)) (Nat.le_refl _) (by rw [List.take_length];exact h)
 rw [hrl] at hS
 have YA:(BW n l n).1.take n=(BW n l n).1:=List.take_of_length_le (by omega)
 have hp:=hr.all hrl
 have hall:∀i:Int,0≤i→i<n→i∈(BW n l n).1.take n:=fun i hi hin=>by
  rw [YA,hp.mem_iff];exact List.mem_map.2 ⟨i.toNat,List.mem_range.2 (by omega),by omega⟩
 refine ⟨hS.len,hS.nx,fun x hx=> ?_,fun r hm=>hS.ord r hm (hall _ (hl r hm).2.1.1 (hl r hm).2.1.2),?_⟩
 ·
  obtain ⟨j,hj⟩:=List.mem_iff_getElem?.1 hx
  have hjl:j<d.length:=by rcases Nat.lt_or_ge j d.length with h2|h2;exact h2;rw [List.getElem?_eq_none h2] at hj;cases hj
  have:=hS.ge (j:Int) (hall _ (by omega) (by have:=hS.len;omega))
  rw [Int.toNat_natCast,List.getD_eq_getElem?_getD,hj] at this
  exact this
 ·
  have hz:=hS.fit
  rw [hS.hb,hS.hd,YA] at hz
  refine RN hz (by rw [hlt,hS.len]) ?_
  rw [List.zip_map']
  refine (hp.map _).trans ?_
  rw [←List.zip_map',HJ hlt,HJ hS.len]
abbrev RP (r:BU):List Pr:=[int r.fst,int r.thn]
abbrev reqs (l:List BU):Pr:=slice 2 (l.map RP)
theorem J9 (l:List BU):∀{a:List BU},CR a=true→CR (l.foldl Me a)=true:=by
 induction l with
 |nil=>intro a h;exact h
 |cons x l ih=>intro a h;exact ih (Kk h)
theorem Mg (l:List BU):∀{a:List BU} {x:BU},x∈l.foldl Me a↔x∈a∨x∈l:=by
 induction l with
 |nil=>intro a x;simp
 |cons y l ih=>intro a x;rw [List.foldl_cons,ih,Pj,List.mem_cons,or_comm (a:=x=y),or_assoc]
def Wu (a b:List BU):List BU:=b.foldl Me (a.foldl Me [])
end Go.Proofs.YtppdobdifkefcaaGreatDoor
namespace Cp
open Go Go.RowKit Go.Great
section
variable {P:Program} {L:Lg P} {n:Fm} {fz:Nat} {E:Env} {M0:Av} {w0:World} {S:Nat→Prop} {rs:List Ae} {o:Oper} {g:Func} {M1:Av} {w1:World}
theorem Zi {d j:Nat} {T:TypeId} {x:Operand} {ps:List Pr} (hg:o.guard=none) (hd:o.dst=some d) (hn:d<n) (ho:o.op= .box T x) (hx:VL E x (CI ps)):
  C5 P M0 w0 S n j (SR.c BC) ⟨d,EG T ps⟩ o E (Cp.ex fun b=>ptr b 0):=by
 refine ⟨hg,fun M w a rs IG he hI hj=> ?_⟩
 obtain ⟨h0,h1⟩:=hx.ev (o:=o) he (by simp [ho,Op.operands])
 have hw:(a.eval x).cells.toList.toArray=(a.eval x).cells:=by simp
 have hrun:(execOp a.eval o).run P w= .ok (.value (.pointer (some ⟨w.heap.size,0,none⟩))) (w.alloc (.cells (a.eval x).cells.toList.toArray T)):=by simp [execOp,ho,Instr.box,newVar,newRow]
 rw [hrun]
 have hb:Below w.heap.size w (w.alloc (.cells (a.eval x).cells.toList.toArray T)):=(Below.refl _ _).alloc (Nat.le_refl _) _
 have h2:=Ext.below (M:=M) hb
 have DI:Ext M w (fun b o=>M b o∨b=w.heap.size) (w.alloc (.cells (a.eval x).cells.toList.toArray T)):=by
  refine ⟨h2.size,fun a v hc hm=>⟨fun hx=> ?_,(h2.keep a v hc hm).2⟩,fun b o ho hp hm=>⟨fun hx=> ?_,(h2.obj b o ho hp hm).2⟩⟩
  ·
   rcases hx with hx|hx
   · exact hm hx
   · have:=C0 hc;omega
  ·
   rcases hx with hx|hx
   · exact hm hx
   · subst hx;simp at ho
 have hs1:(w.alloc (.cells (a.eval x).cells.toList.toArray T)).heap.size=w.heap.size+1:=by simp
 have hat:(SR.at_ (a.put o.dst (.pointer (some ⟨w.heap.size,0,none⟩))) ⟨d,EG T ps⟩)=AB true w.heap.size T ps:=by unfold SR.at_ Slot.val;dsimp only;rw [hd,BG (by rw [IG];exact hn)];rfl
 refine ⟨fun b o=>M b o∨b=w.heap.size,⟨_,rfl⟩,DI,?_⟩
 rw [hat]
 refine hI.replace hj DI hb.os hb.tape hb.output (fun k hk _=>hb.block k hk) rfl (fun b o hm _=> .inl hm) (fun b o hx=> ?_) ?_ rfl (fun b hbk=> ?_)
 ·
  rcases hx with hx|hx
  · have:=hI.bd _ _ hx;omega
  · omega
 · refine ⟨fun o=> .inr rfl,(a.eval x).cells.toList,heap_alloc_new w _,h0.st DI,h1⟩
 ·
  have DL:some w.heap.size=some b:=hbk
  injection DL with e1
  subst e1
  exact ⟨by rw [hs1];omega,.inr (Nat.le_refl _)⟩
end
section
variable {P:Program} {L:Lg P} {n:Fm} {fz:Nat} {E:Env} {M0:Av} {w0:World} {S:Nat→Prop} {rs:List Ae}
end
end Cp
namespace Cp
open Go Go.RowKit
abbrev CW (ρ:Option Nat):Fence:={ Fence.wide with round:=ρ }
section
variable {P:Program} {ρ:Option Nat}
def H_ (o:Oper):Bool:=match o.op with
 | .defer _=>false
 |_=>true
theorem Su {o:Oper} {a:Act} {w:World} {K K':Act→World→Prop} {Q:Exit→Act→World→Prop} (hc:H_ o=true) (hK:∀a w,K a w→K' a w) (h:o.wp P a w K Q):o.wpIn (CW ρ) 0 P a w K' Q:=by
 refine ⟨fun _ _=>trivial,?_⟩
 rw [Oper.semAt_eq _ _ _ (fun c hh=>by unfold H_ at hc;rw [hh] at hc;cases hc)]
 unfold Oper.wp at h
 generalize (execOp a.eval o).run P w=r at h ⊢
 cases r with
 |halt x w'=>cases x<;>first|exact h|exact h.elim
 |ok x w'=>
  cases x<;>first|exact h.elim|skip
  case value v=>exact hK _ _ h
  case skip=>exact hK _ _ h
  case defer d=>exact hK _ _ h
  case enter f args=>exact ⟨fun hh=>(by cases hh),callsIn_wide.2 (h.mono fun e w'' hr=>by cases e<;>first|exact hK _ _ hr|exact hr)⟩
  case row row args=>
   refine ⟨fun hh=>(by cases hh),fun c cs _=> ?_⟩
   obtain ⟨v,w2,h1,h2⟩:=h c cs
   exact ⟨v,w2,hK _ _ h1,stepsIn_wide.2 h2⟩
theorem Wv {ops:Array Oper} {Q:Exit→Act→World→Prop} (hc:∀(i:Nat) o,ops[i]? =some o→H_ o=true):∀(l:List Nat) (a:Act) (w:World),wpS P ops Q l a w→wpOpsIn (CW ρ) 0 P ops Q l a w
 |[],_,_,h=>h
 |i::l,a,w,h=>by
  have ih:=Wv (Q:=Q) hc l
  unfold wpS at h
  unfold wpOpsIn
  cases ho:ops[i]? with
  |none=>rw [ho] at h;exact ih a w h
  |some o=>
   rw [ho] at h
   dsimp only at h ⊢
   split
   next hw=>rw [if_pos hw] at h;exact Su (hc i o ho) ih h
   next hw=>rw [if_neg hw] at h;exact ⟨fun _ _=>trivial,ih _ _ h⟩
theorem eY {ops:Array Oper} {Q:Exit→Act→World→Prop} (hc:∀(i:Nat) o,ops[i]? =some o→H_ o=true) {i:Nat} {K K':Act→World→Prop} {a:Act} {w:World} (hK:∀a w,K a w→K' a w) (h:LI P ops Q i K a w):wpOpIn (CW ρ) 0 P ops Q i K' a w:=by
 unfold LI at h
 unfold wpOpIn
 cases ho:ops[i]? with
 |none=>rw [ho] at h;exact hK _ _ h
 |some o=>
  rw [ho] at h
  dsimp only at h ⊢
  split
  next hw=>rw [if_pos hw] at h;exact Su (hc i o ho) hK h
  next hw=>rw [if_neg hw] at h;exact ⟨fun _ _=>trivial,hK _ _ h⟩
theorem Ww {ops:Array Oper} {md:Region.Mode} {Q:Exit→Act→World→Prop} (hc:∀(i:Nat) o,ops[i]? =some o→H_ o=true):∀(fuel:Nat) (listed:Array Bool) (a:Act) (w:World),IA P md ops Q fuel listed a w→wpAnyIn (CW ρ) 0 P md ops Q fuel listed a w
 |0,_,_,_,h=>h
 |fuel+1,_,_,_,h=>⟨h.1,fun i hi=>eY hc (Ww hc fuel _) (h.2 i hi)⟩
theorem Zj {l:List Oper} (hc:calm l=true):∀(i:Nat) o,l.toArray[i]? =some o→H_ o=true:=fun i o ho=>by
 have hm:o∈l:=List.mem_of_getElem? (by simpa using ho)
 have:=List.all_eq_true.1 hc o hm
 unfold H_;revert this;cases o.op<;>simp
theorem Zk {c:Code} {Q:Exit→Act→World→Prop} {α:Type} (μ:α→Nat) (R:α→Act→World→Prop) (round:∀x a w,R x a w→c.wpIn (CW ρ) 0 P (Exit.then (fun a' w'=>∃y,μ y<μ x∧R y a' w') Q) a w) (x:α) (a:Act) (w:World) (hx:R x a w):(Code.loop c).wpIn (CW ρ) 0 P Q a w:=by
 intro b k cs hro hb hr
 have key:∀m x a w,μ x=m→R x a w→∃e a' w',Q e a' w'∧ArrivesIn (Machine.fenced P (CW ρ)) P (lone (b.atR a (.code c:: .inLoop c::k)) cs w) b k cs e a' w':=by
  intro m
  induction m using Nat.strongRecOn with
  |_ m ih=>
   intro x a w hm hx
   obtain ⟨e,a₁,w₁,hq,Fy⟩:=round x a w hx b (.inLoop c::k) cs hro hb hr
   cases e with
   |normal=>
    obtain ⟨y,hlt,hy⟩:=hq
    obtain ⟨e₂,a₂,w₂,Un,Ng⟩:=ih (μ y) (hm ▸ hlt) y a₁ w₁ rfl hy
    exact ⟨e₂,a₂,w₂,Un,.of_steps (StepsIn.trans Fy (.one (fenced_calm hb hr rfl) stepR_inLoop)) Ng⟩
   |exit id=>exact ⟨_,a₁,w₁,hq,.pass (x:= .inLoop c) rfl (fun _ _=> .inl (by simp)) Fy⟩
   |goto l=>exact ⟨_,a₁,w₁,hq,.pass (x:= .inLoop c) rfl (fun _ _=> .inl (by simp)) Fy⟩
   |ret=>exact ⟨_,a₁,w₁,hq,.pass (x:= .inLoop c) rfl (fun _ _=> .inl (by simp)) Fy⟩
   |panic ch=>exact ⟨_,a₁,w₁,hq,.pass (x:= .inLoop c) rfl (fun _ _=> .inl (by simp)) Fy⟩
   |outgrown=>exact ⟨_,a₁,w₁,hq,.pass (x:= .inLoop c) rfl (fun _ _=> .inl (by simp)) Fy⟩
 obtain ⟨e,a',w',hq,Fy⟩:=key _ x a w rfl hx
 exact ⟨e,a',w',hq,.of_steps (.one (fenced_calm hb hr rfl) stepR_loop) Fy⟩
@[reducible] def Xx (P:Program) (ρ:Option Nat):Lg P where
 wp c Q a w:=c.wpIn (CW ρ) 0 P Q a w
 mono hq h:=wpIn_mono h hq
 skip h:=wpIn_skip h
 ret h:=wpIn_ret h
 exit h:=wpIn_exit h
 seq h:=wpIn_seq h
 block h:=wpIn_block h
 cond hc ht hf:=wpIn_cond_split hc ht hf
 loop:=Zk
 region {id l Q a w} hc h:=wpIn_region (Wv (fun i o ho=>by
  have hm:o∈l:=List.mem_of_getElem? (by simpa using ho)
  have:=List.all_eq_true.1 hc o hm
  unfold H_;revert this;cases o.op<;>simp) _ _ _ (by simpa [List.range_eq_range'] using h))
 draw hc hm h:=wpIn_region_any hm (Ww (Zj hc) _ _ _ _ h)
end
end Cp
namespace Cp
open Go Go.RowKit Go.Great
section
variable {P:Program} {L:Lg P} {n:Fm} {fz:Nat} {E:Env} {M0:Av} {w0:World} {S:Nat→Prop} {rs:List Ae} {o:Oper}
end
end Cp
namespace Cp
open Go Go.RowKit
theorem Bs.TW {M:Av} {w:World} {E:Env} {o:Oper} {a:Act} (s:Nat) {α:Type} {f:α→Pr} (hs:E.lookup s=some (Cp.ex f)) (hm:s∈looks o) (he:Bs M w E o a):∃x,Bs M w ((s,f x)::E) o a:=by
 obtain ⟨x,hx⟩:=he s _ hm hs
 refine ⟨x,fun t q ht hq=> ?_⟩
 simp only [List.lookup] at hq
 by_cases hts:t=s
 · subst hts;simp at hq;subst hq;exact hx
 · rw [show (t==s)=false by simpa using hts] at hq;exact he t q ht hq
section
variable {P:Program} {M0:Av} {w0:World} {S:Nat→Prop} {n:Fm} {j:Nat} {R R':SR} {E:Env} {o:Oper}
theorem C5.TW {p:Pr} (s:Nat) {α:Type} {f:α→Pr} (hg:o.guard=none) (hs:E.lookup s=some (Cp.ex f)) (hm:s∈looks o) (h:∀x,C5 P M0 w0 S n j R R' o ((s,f x)::E) p):C5 P M0 w0 S n j R R' o E p:=
 ⟨hg,fun M w a rs hsz he hI hj=>by obtain ⟨x,hx⟩:=he.TW s hs hm;exact (h x).2 M w a rs hsz hx hI hj⟩
theorem C5.le {p q:Pr} (h:C5 P M0 w0 S n j R R' o E p) (hl:Pr.le p q):C5 P M0 w0 S n j R R' o E q:=by
 refine ⟨h.1,fun M w a rs hsz he hI hj=> ?_⟩
 have this:=h.2 M w a rs hsz he hI hj
 generalize (execOp a.eval o).run P w=r at this ⊢
 unfold D3 at this
 split at this
 · obtain ⟨M',h1,h2,h3⟩:=this;exact ⟨M',hl _ _ _ h1,h2,h3⟩
 · obtain ⟨M',h1,h2,h3⟩:=this;exact ⟨M',hl _ _ _ h1,h2,h3⟩
 · exact Calls.mono this fun _ _ ⟨v,M',h0,h1,h2,h3⟩=>⟨v,M',h0,hl _ _ _ h1,h2,h3⟩
 · exact this.elim
end
theorem Wx {z:Array Value} {n:Nat} {u:Value} (h0:0<z.size) (h:u∈(madeCells z n).toList):u∈z.toList:=by
 simp only [madeCells,Array.toList_map,List.mem_map] at h
 obtain ⟨k,_,rfl⟩:=h
 have hk:k % z.size<z.size:=Nat.mod_lt _ h0
 rw [getElem!_pos z _ hk]
 exact Array.getElem_mem_toList hk
theorem Zl {z:Array Value} {m sz i j:Nat} {u:Value} (hz:z.size=sz) (hi:i<m) (hu:z.toList[j]? =some u):(madeCells z (m*sz)).toList[i*sz+j]? =some u:=by
 have hjl:j<sz:=by
  rcases Nat.lt_or_ge j sz with h|h
  · exact h
  · rw [List.getElem?_eq_none (by simp;omega)] at hu;cases hu
 have hlt:i*sz+j<m*sz:=by
  have:(i+1)*sz≤m*sz:=Nat.mul_le_mul_right sz hi
  rw [Nat.add_mul] at this;omega
 have hmod:(i*sz+j) % sz=j:=by rw [Nat.mul_comm,Nat.mul_add_mod,Nat.mod_eq_of_lt hjl]
 have hjz:j<z.size:=by omega
 rw [Array.getElem?_toList] at hu ⊢
 rw [Array.getElem?_eq_getElem hjz] at hu
 simp only [madeCells]
 rw [Array.getElem?_map,Array.getElem?_range,if_pos hlt,Option.map_some,hz,hmod,getElem!_pos z _ hjz,hu]
theorem MI {P:Program} {I:B6} {E:Env} {o:Oper} {t e:TypeId} {x y:Operand} {sz bG m:Nat} {zs:List Value} (ho:o.op= .makeSlice t x y) (ht:P.underlying t=some (.slice e)) (hz:Af P e=some sz) (hby:Bb P e=some bG) (DV:A7 P e=some zs) (hzl:zs.length=sz) (hsz:0<sz)
  (h1:zs.all (·.oneCell')=true) (hx:VL E x (int ((m:Nat):Int))) (hy:VL E y (int ((m:Nat):Int))) (hm:m≤maxLen) (hb:bG*m≤281474976710656):AR P I o E (full sz (List.replicate m (zs.map is))):=
 AR.val fun M w a he hI=>by
  have hx1:a.eval x= .int .i64 m:=hx.ev he (by simp [ho,Op.operands])
  have hy1:a.eval y= .int .i64 m:=hy.ev he (by simp [ho,Op.operands])
  unfold Af at hz
  unfold Bb at hby
  unfold A7 at DV
  cases hi:P.info? e with
  |none=>rw [hi] at hz;cases hz
  |some i=>
   rw [hi] at hz hby DV
   simp only [Option.map_some,Option.some.injEq,Option.map_eq_some_iff] at hz hby DV
   obtain ⟨z,R9,DV⟩:=DV
   have Uw:z.cells.size=sz:=by rw [←hzl,←DV];simp
   have hrun:=run_make (P:=P) w t e i z ht hi R9 .i64 .i64 (m:Int) (m:Int) (by omega) (Int.le_refl _) (by rw [hby];have h0:((bG*m:Nat):Int)≤281474976710656:=Int.ofNat_le.2 hb;rw [←Int.natCast_mul];exact h0) (by unfold maxLen at hm;omega)
   rw [hz] at hrun
   simp only [Int.toNat_natCast] at hrun
   have Wy:Below w.heap.size w (w.alloc (.cells (madeCells z.cells (m*sz)) e)):=(Below.refl _ _).alloc (Nat.le_refl _) _
   have hrl:(List.replicate m (zs.map is)).length=m:=List.length_replicate
   have hfl:Flat M w sz (List.replicate m (zs.map is)) (madeCells z.cells (m*sz)).toList:=by
    refine ⟨by rw [hrl];simp [size_madeCells],fun u hu=>List.all_eq_true.1 h1 _ (by rw [←DV];exact Wx (by omega) hu),fun k row hr=> ?_⟩
    have hk:k<m:=by have:=BM hr;omega
    obtain rfl:row=zs.map is:=List.eq_of_mem_replicate (List.mem_of_getElem? hr)
    refine ⟨by simp [hzl],fun j p hp=> ?_⟩
    rw [List.getElem?_map,Option.map_eq_some_iff] at hp
    obtain ⟨u,hu,rfl⟩:=hp
    exact ⟨u,Zl Uw hk (by rw [DV];exact hu),rfl⟩
   refine ⟨.slice (some ⟨w.heap.size,0,none⟩) m m,w.alloc (.cells (madeCells z.cells (m*sz)) e),by simp [execOp,ho,hx1,hy1,hrun],?_,Wy⟩
   have hsl:=Dp (hfl.st (Ext.below Wy)) (c:=m) (Nat.le_of_eq hrl) hm (g:=w.heap.size) (fun k u hk=>⟨by rw [LP];simpa using hk,fun hx=>by have:=I.bd _ _ hI _ _ hx;omega⟩)
   rw [hrl] at hsl
   exact ⟨hsl,_,by rw [hrl]⟩
section
variable {P:Program} {L:Lg P} {n:Fm} {E:Env} {M0:Av} {w0:World} {S:Nat→Prop} {rs:List Ae}
theorem Fin.G2 {Q:Exit→Act→World→Prop} {x:Exit} (i j k:Nat) {sz b:Nat} {new:Bool} {T e:TypeId} {ps:List Pr} {rows:List (List Pr)} {v:Value} {p:Pr} (hi:rs[i]? =some (AB new b T ps)) (hj:rs[j]? =some (BQ e sz rows v)) (hij:j≠i) (hk:ps[k]? =some p) (hp:Pr.le p (is v)) (hl:∀r∈rows,r.length=sz)
  (kk:Fin n E (Hp M0 w0 S ((rs.set j BC).set i (AB new b T (ps.set k (slice sz rows))))) Q x):Fin n E (Hp M0 w0 S rs) Q x:=Fin.conv (fun _ _ hs=>hs.G2 hi hj hij hk hp hl) kk
end
section
variable {P:Program} {M0:Av} {w0:World} {S:Nat→Prop} {rs:List Ae}
def Ak (b:Nat) (x:Obj):Ae where
 blk:=some b
 new:=true
 h M w:=(∀o,M b o)∧w.heap[b]? =some x
 st M w M' w' _ hk h:=by
  obtain ⟨h1,h2⟩:=hk b rfl
  exact ⟨fun o=>h2 o (h.1 o),h1.trans h.2⟩
theorem Al.Wz {M:Av} {w:World} (h:Al M0 w0 S rs M w) (x:Obj):
  Al M0 w0 S (Ak w.heap.size x::rs) (fun b o=>M b o∨b=w.heap.size) (w.alloc x)∧Ext M w (fun b o=>M b o∨b=w.heap.size) (w.alloc x):=by
 have hb:Below w.heap.size w (w.alloc x):=(Below.refl _ _).alloc (Nat.le_refl _) _
 have hsz:(w.alloc x).heap.size=w.heap.size+1:=by simp
 have he:Ext M w (fun b o=>M b o∨b=w.heap.size) (w.alloc x):=by
  have h2:=Ext.below (M:=M) hb
  refine ⟨h2.size,fun a v hc hm=>⟨fun hx=> ?_,(h2.keep a v hc hm).2⟩,fun b o ho hp hm=>⟨fun hx=> ?_,(h2.obj b o ho hp hm).2⟩⟩
  ·
   rcases hx with hx|hx
   · exact hm hx
   · have:=C0 hc;omega
  ·
   rcases hx with hx|hx
   · exact hm hx
   · subst hx;simp at ho
 have hI:=(Hp M0 w0 S rs).st _ _ _ hb h
 refine ⟨⟨hI.m0,fun b o hm=> .inl (hI.m b o hm),hI.os,hI.tape,hI.output,hI.size,hI.block,fun b o hm=> ?_,fun r hr=> ?_,?_⟩,he⟩
 ·
  rcases hm with hm|hm
  · exact hI.bd b o hm
  · omega
 ·
  rcases List.mem_cons.1 hr with rfl|hr
  ·
   refine ⟨⟨fun o=> .inr rfl,heap_alloc_new w _⟩,fun b hbk=> ?_⟩
   simp only [Ak,Option.some.injEq] at hbk
   subst hbk
   exact ⟨by omega,by simp [Ak];exact h.size⟩
  ·
   obtain ⟨h3,h4⟩:=h.hold r hr
   exact ⟨r.st _ _ _ _ he (fun b hbk=>⟨hb.block b (h4 b hbk).1,fun _ x=> .inl x⟩) h3,fun b hbk=>⟨by have:=(h4 b hbk).1;omega,(h4 b hbk).2⟩⟩
 ·
  refine List.pairwise_cons.2 ⟨fun r hr b OS QT=> ?_,hI.nd⟩
  simp only [Ak,Option.some.injEq] at OS
  subst OS
  have:=((h.hold r hr).2 _ QT).1
  omega
theorem Al.putObj {M:Av} {w:World} {j b:Nat} {x:Obj} (y:Obj) (h:Al M0 w0 S rs M w) (hj:rs[j]? =some (Ak b x)):Al M0 w0 S (rs.set j (Ak b y)) M (w.putObj b y)∧Ext M w M (w.putObj b y):=by
 obtain ⟨⟨hM,hx⟩,hbk⟩:=h.hold _ (List.mem_of_getElem? hj)
 have hlt:b<w.heap.size:=(hbk b rfl).1
 have hsz:(w.putObj b y).heap.size=w.heap.size:=by simp [World.putObj]
 have he:Ext M w M (w.putObj b y):=by
  refine ⟨by omega,fun a v hc hm=>⟨hm,?_⟩,fun k o ho _ hm=>⟨hm,?_⟩⟩
  ·
   have hne:a.block≠b:=fun e=>hm (e ▸ hM _)
   rw [World.cell?_of_block (w:=w) (World.putObj_heap_other hne)];exact hc
  ·
   have hne:k≠b:=fun e=>hm (e ▸ hM _)
   exact (World.putObj_heap_other hne).trans ho
 refine ⟨h.replace hj he rfl rfl rfl (fun k _ hne=>World.putObj_heap_other (fun e=>hne (by rw [e];rfl))) rfl (fun _ _ hm _=>hm) (fun b' o hm=>by have:=h.bd b' o hm;omega) ⟨hM,World.putObj_heap_same hlt⟩ rfl (fun b' hb'=>⟨?_,.inl hb'⟩),he⟩
 simp only [Ak,Option.some.injEq] at hb'
 subst hb';omega
end
def MJ (P:Program) (gf:Nat) (lb:Array Value) {α:Type} (enc:α→Value) (xs:List α) (own:List α→List Ae):Prop:=
 ∀M0 w0 S (l:Nat) (β:Type) (R Rx:List α→β→List Ae),
  (∀pre x d M w,(pre++[x])<+:xs→Al M0 w0 S (own (pre++[x])++R pre d) M w→YieldAt (CW none) 0 P l #[enc x] w fun e w'=>∃M' d',Ext M w M' w'∧
   ((e= .returned (.bool true)∧Al M0 w0 S (own (pre++[x])++R (pre++[x]) d') M' w')∨(e= .returned (.bool false)∧Al M0 w0 S (own (pre++[x])++Rx (pre++[x]) d') M' w')))→
  ∀d M w,Al M0 w0 S (own []++R [] d) M w→CallsIn (CW none) 0 P gf (#[.func (.yield l) #[] #[]]++lb) w fun e w'=>(∃v,e= .returned v)∧∃M' d',Ext M w M' w'∧
   (Al M0 w0 S (own xs++R xs d') M' w'∨∃pre,pre<+:xs∧Al M0 w0 S (own pre++Rx pre d') M' w')
def LC (M0:Av) (w0:World) (S:Nat→Prop) {β:Type} (rs:β→List Ae) (rx:Code→β→List Ae):Exit→Act→World→Prop
 | .normal,_,w=>∃d M,Al M0 w0 S (rs d) M w
 | .ret,_,w=>∃d M,Al M0 w0 S (rx .ret d) M w
 | .exit id,_,w=>∃d M,Al M0 w0 S (rx (.exit id) d) M w
 | .goto t,_,w=>∃d M,Al M0 w0 S (rx (.goto t) d) M w
 | .panic _,_,_=>False
 | .outgrown,_,_=>False
section
variable {P:Program} {M0:Av} {w0:World} {S:Nat→Prop} {rs:List Ae}
theorem Tr.range {Q:Exit→Act→World→Prop} {n:Fm} {E:Env} {α β:Type} {p gf:Nat} {g:Operand} {lb:Array Value} {enc:α→Value} {xs:List α} {own:List α→List Ae} {assign body:Code} (E':α→Env) (R:List α→β→List Ae) (Rx:Code→List α→β→List Ae) (d0:β)
  (lp:MJ P gf lb enc xs own) (eg:∀args w,(callFunc gf args).run P w= .ok (.enter gf args) w) (hg:VL E g (is (.func (.func gf) #[] lb))) (lq:rs.Perm (own []++R [] d0))
  (hassign:∀l D rec M1 w1 pre x d,(pre++[x])<+:xs→∀a,a.tmps.size=n.sz→D9 M1 w1 E a→∀M w,Al M0 w0 S (own (pre++[x])++(Ak l rec::Ak D (.deferred (some []))::AZ M1 w1::R pre d)) M w→
   assign.wpIn (CW (some l)) 0 P (Exit.then (St ⟨n.sz,[]⟩ (E' x) (Hp M0 w0 S (own (pre++[x])++(Ak l rec::Ak D (.deferred (some []))::AZ M1 w1::R pre d)))) (fun _ _ _=>False)) { tmps:=a.tmps.setIfInBounds p (enc x),defers:=[] } w)
  (hbody : ∀ l D rec M1 w1 pre x d, (pre ++ [x]) <+: xs → Tr (Xx P (some l)) ⟨n.sz, []⟩ (E' x) (Hp M0 w0 S (own (pre ++ [x]) ++ (Ak l rec :: Ak D (.deferred (some [])) :: AZ M1 w1 :: R pre d))) body
   (LC M0 w0 S (fun d=>own (pre++[x])++(Ak l rec::Ak D (.deferred (some []))::AZ M1 w1::R (pre++[x]) d)) (fun c d=>own (pre++[x])++(Ak l rec::Ak D (.deferred (some []))::AZ M1 w1::Rx c (pre++[x]) d))))
  (hdone:∀l D rec M1 w1 d,Fin ⟨n.sz,{ target:= .collected D,args:= #[] }::n.df⟩ E (Hp M0 w0 S (own xs++(Ak l rec::Ak D (.deferred (some []))::AZ M1 w1::R xs d))) Q .normal)
  (hstop:∀l D rec M1 w1 c pre d,pre<+:xs→Tr (Xx P none) ⟨n.sz,{ target:= .collected D,args:= #[] }::n.df⟩ E (Hp M0 w0 S (own pre++(Ak l rec::Ak D (.deferred (some []))::AZ M1 w1::Rx c pre d))) c Q):
  Tr (Xx P none) n E (Hp M0 w0 S rs) (.rangeFunc g #[p] assign body) Q:=by
 intro a w ⟨M,hsz,hdf,hE,hI⟩
 have hI:Al M0 w0 S rs M w:=hI
 refine wpIn_rangeFunc ?_
 intro fn hfn
 obtain ⟨rec,RQ⟩:∃rec:LoopState→Option Code→Loop,rec=fun st pe=>{ state:=st,pending:=pe,fn,tmps:=a.tmps,params:= #[p],assign,body,defers:=w.heap.size }:=⟨_,rfl⟩
 -- what is held ahead of the call
 have lu:=Al.perm lq hI
 obtain ⟨gq,e3⟩:=lu.Wz (.deferred (some []))
 obtain ⟨bH,e4⟩:=gq.Wz (.loop (rec .ready none))
 obtain ⟨W1,hW1⟩:∃W1,(w.alloc (.deferred (some []))).alloc (.loop (rec .ready none))=W1:=⟨_,rfl⟩
 have hs1:(w.alloc (.deferred (some []))).heap.size=w.heap.size+1:=by simp
 rw [hW1,hs1] at bH e4
 obtain ⟨M1,hM1⟩:∃M1:Av,M1=(fun b o=>(M b o∨b=w.heap.size)∨b=w.heap.size+1):=⟨_,rfl⟩
 rw [←hM1] at bH e4
 have e1:Ext M w M1 W1:=e3.trans e4
 obtain ⟨l,hl⟩:∃l,l=w.heap.size+1:=⟨_,rfl⟩
 obtain ⟨D,hD⟩:∃D,D=w.heap.size:=⟨_,rfl⟩
 rw [←hl] at bH
 rw [←hD] at bH
 have hE1:D9 M1 W1 E a:=fun s q hq=>q.st _ _ _ _ _ e1 (hE s q hq)
 have hI5:Al M0 w0 S (own []++(Ak l (.loop (rec .ready none))::Ak D (.deferred (some []))::AZ M1 W1::R [] d0)) M1 W1:=by
  refine Al.perm ?_ (Al.Hj bH (r:=AZ M1 W1) rfl (Ext.refl _ _))
  refine List.Perm.trans (l₂:=(Ak l (.loop (rec .ready none))::Ak D (.deferred (some []))::AZ M1 W1::R [] d0)++own []) ?_ List.perm_append_comm
  refine (List.Perm.swap _ _ _).trans (List.Perm.cons _ ((List.Perm.swap _ _ _).trans (List.Perm.cons _ (List.Perm.cons _ List.perm_append_comm))))
 have ix:∀(os:List Ae) (r:Ae) (tl:List Ae),(os++r::tl)[os.length]? =some r:=fun os r tl=>by simp
 have sx:∀(os:List Ae) (r r':Ae) (tl:List Ae),(os++r::tl).set os.length r'=os++r'::tl:=fun os r r' tl=>by simp
 have ix2:∀(os:List Ae) (r1 r2 r:Ae) (tl:List Ae),(os++r1::r2::r::tl)[os.length+2]? =some r:=fun os r1 r2 r tl=>by
  rw [List.getElem?_append_right (by omega)];simp
 have sx2:∀(os:List Ae) (r1 r2 r r':Ae) (tl:List Ae),(os++r1::r2::r::tl).set (os.length+2) r'=os++r1::r2::r'::tl:=fun os r1 r2 r r' tl=>by
  rw [List.set_append_right _ _ (by omega)];simp
 have rP:=hdone;have rQ:=hstop
 refine ⟨l,[{ target:= .collected D,args:= #[] }],W1,{ target:= .fn (.func gf) lb,args:= #[.func (.yield l) #[] #[]] },W1,gf,#[.func (.yield l) #[] #[]]++lb,W1,?_,?_,fun _ _=>trivial,?_,fun h=>(by cases h),?_⟩
 · rw [hl,hD,←hW1,RQ];exact run_enterLoop_outer _ _ _ _ _
 ·
  have hv:a.eval g= .func (.func gf) #[] lb:=by
   obtain ⟨q,h1,h2⟩:=hg
   exact h2 _ _ _ (CZ.eval hE h1)
  simp only [resolve,hv]
  simp [go_sem]
 · simp [invoke,go_sem,eg]
 ·
  refine (lp M0 w0 S l (Code × β) (fun pre cd => Ak l (.loop (rec .ready none)) :: Ak D (.deferred (some [])) :: AZ M1 W1 :: R pre cd.2)
   (fun pre cd=>Ak l (.loop (rec .done (some cd.1)))::Ak D (.deferred (some []))::AZ M1 W1::Rx cd.1 pre cd.2) ?_ (.skip,d0) M1 W1 hI5).mono ?_
  ·
   rintro pre x ⟨c0,d⟩ M2 W2 hpre hI
   have gh:W2.heap[l]? =some (.loop (rec .ready none)):=(hI.hold (Ak l (.loop (rec .ready none))) (by simp)).1.2
   have hx2:Ext M1 W1 M2 W2:=(hI.hold (AZ M1 W1) (by simp)).1
   have hy:=run_yield (P:=P) (args:= #[enc x]) gh (by rw [RQ];rfl)
   have OV:Al M0 w0 S (own (pre++[x])++(Ak l (.loop (rec .ready none))::Ak D (.deferred (some []))::AZ M2 W2::R pre d)) M2 W2:=by
    have:=hI.CU (r':=AZ M2 W2) (ix2 _ _ _ _ _) rfl rfl (Ext.refl _ _)
    rwa [sx2] at this
   have lz:(Instr.yield l #[enc x]).run P W2= .ok (.round l fn (a.tmps.setIfInBounds p (enc x)) assign body) W2:=by
    rw [hy,RQ];simp
   have ha:=hassign l D _ M2 W2 pre x d hpre a hsz (fun s q hq=>q.st _ _ _ _ _ hx2 (hE1 s q hq)) M2 W2 OV
   refine ⟨fn,_,assign,body,lz,roundIn_of_wpIn (F:=CW none) trivial (wpIn_mono (F:=(CW none).inRound l) ha ?_)⟩
   intro e a3 W3 hq
   cases e with
   |normal=>
    obtain ⟨M3,hs3,hd3,hE3,gq⟩:=hq
    have gq:Al M0 w0 S (own (pre++[x])++(Ak l (.loop (rec .ready none))::Ak D (.deferred (some []))::AZ M2 W2::R pre d)) M3 W3:=gq
    have hl3:W3.heap[l]? =some (.loop (rec .ready none)):=(gq.hold (Ak l (.loop (rec .ready none))) (by simp)).1.2
    obtain ⟨bH,e4⟩:=gq.putObj (.loop { rec .ready none with state:= .busy }) (ix _ _ _)
    rw [sx] at bH
    refine ⟨_,run_beginRound hl3 (by rw [RQ]),?_⟩
    refine wpIn_mono (F:=(CW none).inRound l) (hbody l D _ M2 W2 pre x d hpre a3 _ ⟨M3,hs3,hd3,fun s q hq=>q.st _ _ _ _ _ e4 (hE3 s q hq),bH⟩) ?_
    have fin:∀(jump:Option Code) (tl:List Ae) (W5:World) (M5:Av),Al M0 w0 S (own (pre++[x])++(Ak l (.loop { rec .ready none with state:= .busy })::Ak D (.deferred (some []))::AZ M2 W2::tl)) M5 W5→
      ∃w6,(Instr.endRound l jump).run P W5= .ok (.bool jump.isNone) w6∧Ext M2 W2 M5 w6∧Al M0 w0 S (own (pre++[x])++(Ak l (.loop (rec (if jump.isNone then .ready else .done) jump))::Ak D (.deferred (some []))::AZ M1 W1::tl)) M5 w6:=by
     intro jump tl W5 M5 h5
     have hl5:W5.heap[l]? =some (.loop { rec .ready none with state:= .busy }):=(h5.hold (Ak l (.loop { rec .ready none with state:= .busy })) (by simp)).1.2
     have hx5:Ext M2 W2 M5 W5:=(h5.hold (AZ M2 W2) (by simp)).1
     obtain ⟨h6,e6⟩:=h5.putObj (.loop { rec .ready none with state:=if jump.isNone then .ready else .done,pending:=jump }) (ix _ _ _)
     rw [sx] at h6
     have h7:=h6.CU (r':=AZ M1 W1) (ix2 _ _ _ _ _) rfl rfl (hx2.trans (hx5.trans e6))
     rw [sx2] at h7
     refine ⟨_,run_endRound jump hl5,hx5.trans e6,?_⟩
     rw [RQ] at h7 ⊢
     exact h7
    intro e5 a5 W5 hp
    cases e5 with
    |normal=>
     obtain ⟨d5,M5,h5⟩:=hp
     obtain ⟨w6,g1,g2,g3⟩:=fin none _ _ _ h5
     exact ⟨_,_,g1,M5,(.skip,d5),g2,.inl ⟨rfl,g3⟩⟩
    |ret=>
     obtain ⟨d5,M5,h5⟩:=hp
     obtain ⟨w6,g1,g2,g3⟩:=fin (some .ret) _ _ _ h5
     exact ⟨_,_,g1,M5,(.ret,d5),g2,.inr ⟨rfl,g3⟩⟩
    |exit id=>
     obtain ⟨d5,M5,h5⟩:=hp
     obtain ⟨w6,g1,g2,g3⟩:=fin (some (.exit id)) _ _ _ h5
     exact ⟨_,_,g1,M5,(.exit id,d5),g2,.inr ⟨rfl,g3⟩⟩
    |goto t=>
     obtain ⟨d5,M5,h5⟩:=hp
     obtain ⟨w6,g1,g2,g3⟩:=fin (some (.goto t)) _ _ _ h5
     exact ⟨_,_,g1,M5,(.goto t,d5),g2,.inr ⟨rfl,g3⟩⟩
    |panic ch=>exact hp.elim
    |outgrown=>exact hp.elim
   |exit id=>exact hq.elim
   |goto t=>exact hq.elim
   |ret=>exact hq.elim
   |panic ch=>exact hq.elim
   |outgrown=>exact hq.elim
  ·
   rintro e W2 ⟨⟨v,rfl⟩,M2,⟨c2,d2⟩,hx2,h2⟩
   have hend:∀(os tl:List Ae) (st:LoopState) (pe:Option Code),st≠ .busy→Al M0 w0 S (os++(Ak l (.loop (rec st pe))::Ak D (.deferred (some []))::AZ M1 W1::tl)) M2 W2→
     ∃w6,(Instr.endLoop l).run P W2= .ok pe w6∧Ext M2 W2 M2 w6∧Al M0 w0 S (os++(Ak l (.loop { rec st pe with state:= .exhausted })::Ak D (.deferred (some []))::AZ M1 W1::tl)) M2 w6:=by
    intro os tl st pe hst h5
    have hl5:W2.heap[l]? =some (.loop (rec st pe)):=(h5.hold (Ak l (.loop (rec st pe))) (by simp)).1.2
    obtain ⟨h6,e6⟩:=h5.putObj (.loop { rec st pe with state:= .exhausted }) (ix _ _ _)
    rw [sx] at h6
    have:=run_endLoop (P:=P) hl5 (by rw [RQ];exact hst)
    refine ⟨_,?_,e6,h6⟩
    rw [this,RQ]
   rcases h2 with h2|⟨pre,hpre,h2⟩
   ·
    obtain ⟨w6,g1,g2,g3⟩:=hend _ _ _ _ (by simp) h2
    exact ⟨none,w6,g1,hdone l D _ M1 W1 d2 _ _ ⟨M2,hsz,by show _::a.defers=_;rw [hdf],fun s q hq=>q.st _ _ _ _ _ g2 (q.st _ _ _ _ _ hx2 (hE1 s q hq)),g3⟩⟩
   ·
    obtain ⟨w6,g1,g2,g3⟩:=hend _ _ _ _ (by simp) h2
    exact ⟨some c2,w6,g1,hstop l D _ M1 W1 c2 pre d2 hpre _ _ ⟨M2,hsz,by show _::a.defers=_;rw [hdf],fun s q hq=>q.st _ _ _ _ _ g2 (q.st _ _ _ _ _ hx2 (hE1 s q hq)),g3⟩⟩
end
section
variable {P:Program} {M0:Av} {w0:World} {S:Nat→Prop} {rs:List Ae}
theorem Tr.toR {n:Fm} {E:Env} {I:B6} {c:Code} {Q:Exit→Act→World→Prop} (h:Tr (Rt P) n E I c Q):Tr (Xx P none) n E I c Q:=fun a w hs=>wpIn_wide.2 (h a w hs)
theorem Tr.ofR {n:Fm} {E:Env} {I:B6} {c:Code} {Q:Exit→Act→World→Prop} (h:Tr (Xx P none) n E I c Q):Tr (Rt P) n E I c Q:=fun a w hs=>wpIn_wide.1 (h a w hs)
theorem Tr.eZ {Q:Exit→Act→World→Prop} {n:Fm} {E:Env} {α β:Type} {p gf:Nat} {g:Operand} {lb:Array Value} {enc:α→Value} {xs:List α} {own:List α→List Ae} {assign body:Code} (E':α→Env) (R:List α→β→List Ae) (Rx:Code→List α→β→List Ae) (d0:β)
  (lp:MJ P gf lb enc xs own) (eg:∀args w,(callFunc gf args).run P w= .ok (.enter gf args) w) (hg:VL E g (is (.func (.func gf) #[] lb))) (lq:rs.Perm (own []++R [] d0))
  (hassign:∀l D rec M1 w1 pre x d,(pre++[x])<+:xs→∀a,a.tmps.size=n.sz→D9 M1 w1 E a→∀M w,Al M0 w0 S (own (pre++[x])++(Ak l rec::Ak D (.deferred (some []))::AZ M1 w1::R pre d)) M w→
   assign.wpIn (CW (some l)) 0 P (Exit.then (St ⟨n.sz,[]⟩ (E' x) (Hp M0 w0 S (own (pre++[x])++(Ak l rec::Ak D (.deferred (some []))::AZ M1 w1::R pre d)))) (fun _ _ _=>False)) { tmps:=a.tmps.setIfInBounds p (enc x),defers:=[] } w)
  (hbody : ∀ l D rec M1 w1 pre x d, (pre ++ [x]) <+: xs → Tr (Xx P (some l)) ⟨n.sz, []⟩ (E' x) (Hp M0 w0 S (own (pre ++ [x]) ++ (Ak l rec :: Ak D (.deferred (some [])) :: AZ M1 w1 :: R pre d))) body
   (LC M0 w0 S (fun d=>own (pre++[x])++(Ak l rec::Ak D (.deferred (some []))::AZ M1 w1::R (pre++[x]) d)) (fun c d=>own (pre++[x])++(Ak l rec::Ak D (.deferred (some []))::AZ M1 w1::Rx c (pre++[x]) d))))
  (hdone:∀l D rec M1 w1 d,Fin ⟨n.sz,{ target:= .collected D,args:= #[] }::n.df⟩ E (Hp M0 w0 S (own xs++(Ak l rec::Ak D (.deferred (some []))::AZ M1 w1::R xs d))) Q .normal)
  (hstop:∀l D rec M1 w1 c pre d,pre<+:xs→Tr (Rt P) ⟨n.sz,{ target:= .collected D,args:= #[] }::n.df⟩ E (Hp M0 w0 S (own pre++(Ak l rec::Ak D (.deferred (some []))::AZ M1 w1::Rx c pre d))) c Q):
  Tr (Rt P) n E (Hp M0 w0 S rs) (.rangeFunc g #[p] assign body) Q:=
 Tr.ofR (Tr.range E' R Rx d0 lp eg hg lq hassign hbody hdone fun l D rec M1 w1 c pre d hp=>(hstop l D rec M1 w1 c pre d hp).toR)
end
section
variable {P:Program}
theorem W0 {o:Oper} {x y:Operand} {ts:Array TypeId} {l:Nat} {v:Value} {a:Act} {w:World} {R:Ending→World→Prop} {K:Act→World→Prop} {Q:Exit→Act→World→Prop} (ho:o.op= .call { callee:= .value x,args:= #[y],argTypes:=ts })
  (hx:a.eval x= .func (.yield l) #[] #[]) (hy:a.eval y=v) (h:YieldAt (CW none) 0 P l #[v] w R) (k:∀e w',R e w'→∃u,e= .returned u∧K (a.put o.dst u) w'):o.wpIn (CW none) 0 P a w K Q:=by
 obtain ⟨fn,tmps,assign,body,hr,ec⟩:=h
 refine ⟨fun _ _=>trivial,?_⟩
 rw [Oper.semAt_eq _ _ _ (fun c hh=>by rw [ho] at hh;cases hh)]
 have hrun:(execOp a.eval o).run P w= .ok (.round l fn tmps assign body) w:=by
  have hd:(resolve a.eval { callee:= .value x,args:= #[y],argTypes:=ts } o.type).run P w= .ok { target:= .fn (.yield l) #[],args:= #[v] } w:=by simp [resolve,Deferred.ofValue,hx,hy]
  have hi:invoke (.fn (.yield l) #[]) #[v]=Instr.yield l #[v]:=rfl
  simp only [execOp,ho]
  rw [Sem.run_bind,hd]
  simp only [Result.andThen]
  rw [hi];exact hr
 rw [hrun]
 refine ⟨fun hh=>(by cases hh),RoundIn.mono ec fun e w' he=> ?_⟩
 obtain ⟨u,rfl,hk⟩:=k e w' he
 exact hk
end
end Cp
namespace Cp
open Go Go.RowKit Go.Great
section
variable {P:Program} {L:Lg P} {n:Fm} {z0:Value} {fz:Nat} {E:Env} {M0:Av} {w0:World} {S:Nat→Prop} {rs:List Ae} {o:Oper} {κ:Type} [DecidableEq κ] {enc:κ→Value}
variable {Q:Exit→Act→World→Prop} {ops:Array Oper} {r:List Oper}
end
section
variable {P:Program} {L:Lg P} {n:Fm} {E:Env} {M0:Av} {w0:World} {S:Nat→Prop} {rs:List Ae} {ε:Type} {res:ε→List Ae} {Q:Exit→Act→World→Prop} {c:Code} {X:List ε} {f:ε→Value} {g:ε→Pr}
end
section
variable {P:Program} {L:Lg P} {n:Fm} {E:Env} {M0:Av} {w0:World} {S:Nat→Prop} {rs:List Ae} {o:Oper} {Q:Exit→Act→World→Prop} {c:Code}
theorem Ir {t:TypeId} {x:Operand} {sz j i q:Nat} {T:TypeId} {rows:List (List Pr)} {row:List Pr} {p:Pr} {v:Value} (ho:o.op= .load t x) (ht:Dl P t=true) (hx:VL E x (dJ sz v i q)) (hl:∀r∈rows,r.length=sz) (hi:rows[i]? =some row) (hp:row[q]? =some p):
  IE P M0 w0 S j (SR.c (BQ T sz rows v)) o E p:=by
 intro M w a rs he hI hj
 obtain ⟨a0,m0,c0,TP,h1⟩:=hx.ev he (by simp [ho,Op.operands])
 have hj':rs[j]? =some (BQ T sz rows v):=hj
 rcases (hI.hold _ (List.mem_of_getElem? hj')).1 with ⟨rfl,A,hv⟩|⟨b,cap,spare,hv,hnc,hcm,hsp,⟨_,cs,h4,h5,h6⟩⟩
 · simp at hi
 ·
  rw [TP] at hv
  injection hv with e1 e2 e3
  injection e1 with e1
  subst e1
  have hrl:=hl row (List.mem_of_getElem? hi)
  have hq:q<sz:=by rw [←hrl];exact BM hp
  have h7:(rows.flatten++spare.map is)[i*sz+q]? =some p:=by
   have E3:=BM hi
   have hle:(i+1)*sz≤rows.length*sz:=Nat.mul_le_mul_right sz E3
   rw [Nat.succ_mul] at hle
   rw [List.getElem?_append_left (by rw [CM hl];omega),GM hl hi hq];exact hp
  obtain ⟨u,hu,hh⟩:=h5.at_ _ _ h7
  have hc:w.cell? ((⟨b,0,none⟩:Addr).add (i*sz+q))=some u:=by rw [EC];simp [World.cell?,h4,hu]
  have hrun:(execOp a.eval o).run P w= .ok (.value u) w:=by simp [execOp,ho,h1,Instr.loadAt,Instr.sureAddr,loadVar,Dm ht,hc]
  rw [hrun]
  exact ⟨hh,Below.refl _ _⟩
theorem Zm {M:Av} {w:World} {t ty e:TypeId} {sz bytes:Nat} {zs:List Value} {rows rows':List (List Pr)} {v u:Value} {j:Nat} (ht:P.underlying t=some (.slice e)) (hz:Af P e=some sz) (hby:Bb P e=some bytes) (DV:A7 P e=some zs) (hzl:zs.length=sz) (hone:zs.all (·.oneCell')=true) (hsz:0<sz)
  (h:Al M0 w0 S rs M w) (hj:rs[j]? =some (BQ e sz rows v)) (hl:∀r∈rows,r.length=sz) (hu:(slice sz rows').h M w u) (EP:rows.length+rows'.length≤maxLen) (hfit:(rows.length+rows'.length)*bytes≤140737488355328):
  ∃v' w' M',(Builtin.append_ #[t,t] ty #[v,u]).run P w= .ok v' w'∧(lens (rows.length+rows'.length)).h M' w' v'∧Ext M w M' w'∧Al M0 w0 S (rs.set j (BQ e sz (rows++rows') v')) M' w':=by
 have hjl:=BM hj
 rcases Nat.eq_zero_or_pos rows'.length with h0|h0
 ·
  have Xm:rows'=[]:=List.eq_nil_of_length_eq_zero h0
  subst Xm
  obtain ⟨A',c',hu,_⟩:=hu
  have hv:∃A c,v= .slice A rows.length c∧rows.length≤c:=by
   rcases (h.hold _ (List.mem_of_getElem? hj)).1 with ⟨rfl,A,rfl⟩|⟨b,cap,sp,rfl,h2,_⟩
   · exact ⟨A,0,rfl,Nat.le_refl _⟩
   · exact ⟨_,_,rfl,h2⟩
  obtain ⟨A,c,Xu,Ue⟩:=hv
  have hrun:=Eh (P:=P) (ty:=ty) (A:=A) (A':=A') (n:=rows.length) (c:=c) (c':=c') ht hz Ue w
  refine ⟨v,w,M,by rw [hu,Xu];exact hrun,⟨A,c,by rw [Xu];rfl⟩,Ext.refl _ _,?_⟩
  rw [List.append_nil]
  have hse:rs.set j (BQ e sz rows v)=rs:=by
   apply List.ext_getElem?
   intro i
   rw [List.getElem?_set]
   split
   · rename_i hij;subst hij;first|exact hj.symm|(rw [if_pos hjl];exact hj.symm)
   · rfl
  rw [hse];exact h
 ·
  rcases (h.hold _ (List.mem_of_getElem? hj)).1 with ⟨rfl,A,rfl⟩|⟨b,cap,sp,rfl,h2,h3,h4,h5⟩
  ·
   have h1:=h.blank hj
   obtain ⟨v',w',M',hrun,g1,g2,g3⟩:=O1 A (ty:=ty) ht hz hby DV hzl hone hsz h1 (List.getElem?_set_self hjl) hu h0 (by simpa using EP) (by simpa using hfit)
   rw [List.set_set] at g3
   have g4:=g3.CU (r':=Bu e sz ([]++rows') v') (List.getElem?_set_self hjl) rfl rfl (.inr (g3.hold _ (List.mem_of_getElem? (List.getElem?_set_self hjl))).1)
   rw [List.set_set] at g4
   have g5:=Al.NL g4 (List.getElem?_set_self hjl)
   rw [List.set_set] at g5
   exact ⟨v',w',M',hrun,by simpa using g1,g2,g5⟩
  ·
   have h6:=h.PO (r':=Bu e sz rows (.slice (some ⟨b,0,none⟩) rows.length (cap+1))) hj (fun b hb=>hb) rfl (.inr ⟨b,cap+1,sp,rfl,h2,h3,h4,h5⟩)
   obtain ⟨v',w',M',hrun,g1,g2,g3⟩:=SN (ty:=ty) ht hz hby DV hzl hone hsz h6 (List.getElem?_set_self hjl) hl hu h0 EP hfit
   rw [List.set_set] at g3
   have g5:=Al.NL g3 (List.getElem?_set_self hjl)
   rw [List.set_set] at g5
   exact ⟨v',w',M',hrun,g1,g2,g5⟩
theorem RR {t e:TypeId} {x y:Operand} {sz' sz bytes d:Nat} {zs:List Value} {rows:List (List Pr)} {j:Nat} (hg:o.guard=none) (hd:o.dst=some d) (hn:d<n) (ho:o.op= .call { callee:= .builtin .append,args:= #[x,y],argTypes:= #[t,t] })
  (ht:P.underlying t=some (.slice e)) (hz:Af P e=some sz) (hby:Bb P e=some bytes) (DV:A7 P e=some zs) (hzl:zs.length=sz) (hone:zs.all (·.oneCell')=true) (hsz:0<sz)
  (hx:VL E x (full sz' [])) (hy:VL E y (slice sz rows)) (EP:rows.length≤maxLen) (hfit:rows.length*bytes≤140737488355328):C5 P M0 w0 S n j (SR.c BC) ⟨d,BQ e sz rows⟩ o E (lens rows.length):=by
 refine ⟨hg,fun M w a rs IG he hI hj=> ?_⟩
 have h2:=hy.ev he (by simp [ho,Op.operands,Call.operands])
 obtain ⟨_,A,h1⟩:=hx.ev he (by simp [ho,Op.operands,Call.operands])
 simp only [List.length_nil] at h1
 have hj':rs[j]? =some BC:=hj
 have hjl:=BM hj'
 have h3:=hI.PO (r':=BQ e sz [] (.slice A 0 0)) hj' (fun b hb=>by cases A<;>cases hb) rfl (.inl ⟨rfl,A,rfl⟩)
 obtain ⟨v',w',M',hrun,g1,g2,g3⟩:=Zm (ty:=o.type) ht hz hby DV hzl hone hsz h3 (List.getElem?_set_self hjl) (fun r hr=>by cases hr) h2 (by simpa using EP) (by simpa using hfit)
 rw [List.set_set] at g3
 have DM:(execOp a.eval o).run P w= .ok (.value v') w':=by simp [execOp,ho,resolve,invoke,builtin,h1,hrun]
 rw [DM]
 refine ⟨M',by simpa using g1,g2,?_⟩
 have:(SR.at_ (a.put o.dst v') ⟨d,BQ e sz rows⟩)=BQ e sz rows v':=by unfold SR.at_ Slot.val;dsimp only;rw [hd,BG (by rw [IG];exact hn)]
 rw [this];exact g3
end
section
variable {P:Program} {L:Lg P} {n:Fm} {E:Env} {M0:Av} {w0:World} {S:Nat→Prop} {rs:List Ae} {o:Oper} {Q:Exit→Act→World→Prop} {c:Code} {r:List Oper} {ops:Array Oper}
def UpR (r:Ae):Prop:=∀M M2 w,(∀b o,M b o→M2 b o)→r.h M w→r.h M2 w
def l5 (ps:List Pr):Prop:=∀p∈ps,Lt p
theorem HL.free {ps:List Pr} {cs:List Value} {M M2:Av} {w:World} (hf:l5 ps) (h:HL M w ps cs):HL M2 w ps cs:=
 Ox h.length fun k p hk=>by
  obtain ⟨u,hu,bS⟩:=h.at_ k p hk
  exact ⟨u,hu,(hf p (List.mem_of_getElem? hk)).free _ _ _ _ bS⟩
theorem TO.perm {rs':List Ae} (hp:rs.Perm rs') (k:TO P n ops r E (Hp M0 w0 S rs') Q):TO P n ops r E (Hp M0 w0 S rs) Q:=TO.conv (fun _ _ hs=>hs.perm hp) k
end
section
variable {P:Program} {L:Lg P} {n:Fm} {E:Env} {M0:Av} {w0:World} {S:Nat→Prop} {rs:List Ae} {o:Oper} {Q:Exit→Act→World→Prop} {c:Code} {r:List Oper} {ops:Array Oper}
instance l6:Lt any:=⟨fun _ _ _ _ _=>trivial⟩
instance ej (v:Value) (p:Pr) [h9:Lt p]:Lt (Ab v p):=⟨fun _ _ _ _ h=>⟨h.1,h9.free _ _ _ _ h.2⟩⟩
def bI (w:World) (q:Ae):Ae:=⟨q.blk,q.new,fun _ w'=>∀b,q.blk=some b→w'.heap[b]? =w.heap[b]?,fun _ _ _ _ _ hk h b hb=>(hk b hb).1.trans (h b hb)⟩
theorem W4 {us bs:List Ae} (h:us.map (·.blk)=bs.map (·.blk)) (k:us.Pairwise fun r r':Ae=>∀b,r.blk=some b→r'.blk≠some b):bs.Pairwise fun r r':Ae=>∀b,r.blk=some b→r'.blk≠some b:=by
 have e1:∀l:List Ae,(l.Pairwise fun r r':Ae=>∀b,r.blk=some b→r'.blk≠some b)↔(l.map (·.blk)).Pairwise fun p q:Option Nat=>∀b,p=some b→q≠some b:=fun l=>by rw [List.pairwise_map]
 rw [e1] at k ⊢
 rw [←h];exact k
theorem Al.sy {α:Type} {C:α→Prop} {f:FuncId} {ps:List Pr} {post W6:α→List Ae} {res res2:α→Pr} {M:Av} {w:World} {vs:List Value} (hf:JH P f ps [] C res post)
  (hI:Al M0 w0 S rs M w) (hn:rs.all (·.new)=true) (hpost:∀x M0 w0 S rs M w,Al M0 w0 S (post x++rs) M w→Al M0 w0 S (W6 x++rs) M w) (rR:∀x,∀q∈W6 x,UpR q)
  (hres:∀x M M2 w u,(res x).h M w u→(res2 x).h M2 w u) (hv:∀M1,Ext M w M1 w→(∀b o,M1 b o→∀q∈rs,q.blk≠some b)→HL M1 w ps vs):
  Calls P f vs.toArray w fun e' w'=>∃u M' x,e'= .returned u∧C x∧(res2 x).h M' w' u∧Ext M w M' w'∧Al M0 w0 S (W6 x++rs) M' w':=by
 have hb:∀q∈rs,∀b,q.blk=some b→b<w.heap.size∧w0.heap.size≤b:=fun q hq b hb=>by
  obtain ⟨h1,h2⟩:=(hI.hold q hq).2 b hb
  rw [if_pos (List.all_eq_true.1 hn q hq)] at h2
  exact ⟨h1,h2⟩
 have he:Ext M w (fun b o=>M b o∧∀q∈rs,q.blk≠some b) w:=Ext.less fun _ _ h=>h.1
 have hI1:Al M0 w0 S (rs.map (bI w)) (fun b o=>M b o∧∀q∈rs,q.blk≠some b) w:=by
  refine ⟨hI.m0,fun b o hm=>⟨hI.m b o hm,fun q hq e1=>by have h1:=hI.m0 b o hm;have h2:=(hb q hq b e1).2;omega⟩,hI.os,hI.tape,hI.output,hI.size,hI.block,fun b o hm=>hI.bd b o hm.1,fun q hq=> ?_,?_⟩
  ·
   rw [List.mem_map] at hq
   obtain ⟨q,hq,rfl⟩:=hq
   exact ⟨fun _ _=>rfl,(hI.hold q hq).2⟩
  · exact W4 (by rw [List.map_map];rfl) hI.nd
 refine (hf.2 M0 w0 S (rs.map (bI w)) _ w vs hI1 (hv _ he fun _ _ h=>h.2)).mono ?_
 rintro e' w' ⟨u,M',x,rfl,hC,h2,h3,h4⟩
 have h5:=hpost x _ _ _ _ _ _ h4
 have rS:∀q∈rs,∀b,q.blk=some b→w'.heap[b]? =w.heap[b]? :=fun q hq=>(h5.hold _ (List.mem_append_right _ (List.mem_map_of_mem hq))).1
 have hE:Ext M w (fun b o=>M' b o∨(M b o∧∃q∈rs,q.blk=some b)) w':=⟨h3.size,fun a q hc hm=>by
  obtain ⟨k1,k2⟩:=h3.keep a q hc (fun h=>hm h.1)
  exact ⟨fun h=>h.elim k1 fun h=>hm h.1,k2⟩,fun b x ho hp hm=>by
  obtain ⟨k1,k2⟩:=h3.obj b x ho hp (fun h=>hm h.1)
  exact ⟨fun h=>h.elim k1 fun h=>hm h.1,k2⟩⟩
 refine ⟨u,_,x,rfl,hC,hres x _ _ _ _ h2,hE,⟨h5.m0,fun b o hm=> .inl (h5.m b o hm),h5.os,h5.tape,h5.output,h5.size,h5.block,fun b o hm=> ?_,fun q hq=> ?_,?_⟩⟩
 ·
  rcases hm with hm|⟨hm,_⟩
  · exact h5.bd b o hm
  · exact Nat.lt_of_lt_of_le (hI.bd b o hm) h3.size
 ·
  rcases List.mem_append.1 hq with hq|hq
  ·
   obtain ⟨k1,k2⟩:=h5.hold q (List.mem_append_left _ hq)
   exact ⟨rR x q hq _ _ _ (fun _ _ h=> .inl h) k1,k2⟩
  ·
   refine ⟨q.st _ _ _ _ hE (fun b hb=>⟨rS q hq b hb,fun o hm=> .inr ⟨hm,q,hq,hb⟩⟩) (hI.hold q hq).1,fun b hb=> ?_⟩
   obtain ⟨k1,k2⟩:=(hI.hold q hq).2 b hb
   exact ⟨Nat.lt_of_lt_of_le k1 h3.size,k2⟩
 · exact W4 (by rw [List.map_append,List.map_append,List.map_map];rfl) h5.nd
end
section
variable {P:Program} {I:B6} {E:Env} {o:Oper}
abbrev u32 (b:BitVec 32):Pr:=is (.int .u32 (b.toNat:Int))
theorem Sv (n:Int):IntKind.u32.wrap n=n % 4294967296:=by simp [IntKind.wrap,IntKind.signed,IntKind.bits]
theorem LD (b:BitVec 32):IntKind.u32.wrap (b.toNat:Int)=(b.toNat:Int):=by rw [Sv];have:=b.isLt;omega
theorem eo (b:BitVec 32) (i:Nat):IntKind.u32.wrap ((b.toNat:Int)*2 ^ (min i 32))=((b<<<i).toNat:Int):=by
 rw [Sv,BitVec.toNat_shiftLeft,Nat.shiftLeft_eq]
 have e1:((b.toNat:Int)*2 ^ (min i 32))=((b.toNat*2 ^ (min i 32):Nat):Int):=by rw [Int.natCast_mul,Int.natCast_pow];rfl
 rw [e1]
 rcases Nat.le_total i 32 with h|h
 · rw [Nat.min_eq_left h];generalize b.toNat*2 ^ i=n;show ((n:Int) % 4294967296)=((n % 4294967296:Nat):Int);omega
 ·
  rw [Nat.min_eq_right h]
  obtain ⟨k,rfl⟩:=Nat.exists_eq_add_of_le h
  have h1:b.toNat*2 ^ 32 % 4294967296=0:=by rw [show (4294967296:Nat)=2 ^ 32 from rfl];exact Nat.mul_mod_left _ _
  have h2:b.toNat*2 ^ (32+k) % 2 ^ 32=0:=by rw [Nat.pow_add,←Nat.mul_assoc,Nat.mul_right_comm];exact Nat.mul_mod_left _ _
  rw [h2];generalize b.toNat*2 ^ 32=n at h1 ⊢;omega
theorem W7 (b:BitVec 32) (i:Nat):(b.toNat:Int).fdiv (2 ^ (min i 32))=((b>>>i).toNat:Int):=by
 rw [BitVec.toNat_ushiftRight,Nat.shiftRight_eq_div_pow]
 have e1:(2:Int) ^ (min i 32)=((2 ^ (min i 32):Nat):Int):=by rw [Int.natCast_pow];rfl
 rw [e1,Int.fdiv_eq_ediv_of_nonneg _ (by exact Int.natCast_nonneg _)]
 rcases Nat.le_total i 32 with h|h
 · rw [Nat.min_eq_left h];norm_cast
 ·
  rw [Nat.min_eq_right h]
  have h3:=b.isLt
  have h1:b.toNat/2 ^ 32=0:=Nat.div_eq_of_lt h3
  have h2:b.toNat/2 ^ i=0:=Nat.div_eq_of_lt (Nat.lt_of_lt_of_le h3 (Nat.pow_le_pow_right (by omega) h))
  rw [h2,←h1];norm_cast
theorem HK {t u:TypeId} {x y:Operand} {b:BitVec 32} {i:Int} (ho:o.op= .binOp .shl t x y u) (hx:VL E x (u32 b)) (hy:VL E y (int i)) (hi:0≤i):AR P I o E (u32 (b<<<i.toNat)):=
 AR.same fun M w a he _=>by
  have h1:a.eval x= .int .u32 b.toNat:=hx.ev he (by simp [ho,Op.operands])
  have h2:a.eval y= .int .i64 i:=hy.ev he (by simp [ho,Op.operands])
  refine ⟨.int .u32 ((b<<<i.toNat).toNat:Int),?_,rfl⟩
  rw [←eo]
  simp [execOp,ho,h1,h2,eqGuard,binOp,Op.shift,show ¬i<0 by omega,IntKind.bits]
theorem W8 {t u:TypeId} {x y:Operand} {b:BitVec 32} {i:Int} (ho:o.op= .binOp .shr t x y u) (hx:VL E x (u32 b)) (hy:VL E y (int i)) (hi:0≤i):AR P I o E (u32 (b>>>i.toNat)):=
 AR.same fun M w a he _=>by
  have h1:a.eval x= .int .u32 b.toNat:=hx.ev he (by simp [ho,Op.operands])
  have h2:a.eval y= .int .i64 i:=hy.ev he (by simp [ho,Op.operands])
  refine ⟨.int .u32 ((b>>>i.toNat).toNat:Int),?_,rfl⟩
  rw [←W7]
  simp [execOp,ho,h1,h2,eqGuard,binOp,Op.shift,show ¬i<0 by omega,IntKind.bits]
theorem Pn (b:BitVec 32):BitVec.ofInt 32 (b.toNat:Int)=b:=by
 apply BitVec.eq_of_toNat_eq
 rw [BitVec.toNat_ofInt]
 have:=b.isLt
 omega
theorem MK {t u:TypeId} {x y:Operand} {b c:BitVec 32} {op:BinOp} {f:BitVec 32→BitVec 32→BitVec 32} (ho:o.op= .binOp op t x y u) (hx:VL E x (u32 b)) (hy:VL E y (u32 c))
  (hf:(op= .and∧f=fun b c=>b&&&c)∨(op= .or∧f=fun b c=>b|||c)∨(op= .andNot∧f=fun b c=>b&&&~~~c)∨(op= .xor∧f=fun b c=>b ^^^ c)):AR P I o E (u32 (f b c)):=
 AR.same fun M w a he _=>by
  have h1:a.eval x= .int .u32 b.toNat:=hx.ev he (by simp [ho,Op.operands])
  have h2:a.eval y= .int .u32 c.toNat:=hy.ev he (by simp [ho,Op.operands])
  refine ⟨.int .u32 ((f b c).toNat:Int),?_,rfl⟩
  have e1:=Pn b
  have e2:=Pn c
  rcases hf with ⟨rfl,rfl⟩|⟨rfl,rfl⟩|⟨rfl,rfl⟩|⟨rfl,rfl⟩
  · have e3:=LD (b&&&c);simp [execOp,ho,h1,h2,eqGuard,binOp,Op.intBits,IntKind.bits,e1,e2] at e3 ⊢;exact e3
  · have e3:=LD (b|||c);simp [execOp,ho,h1,h2,eqGuard,binOp,Op.intBits,IntKind.bits,e1,e2] at e3 ⊢;exact e3
  · have e3:=LD (b&&&~~~c);simp [execOp,ho,h1,h2,eqGuard,binOp,Op.intBits,IntKind.bits,e1,e2];exact e3.trans (by simp)
  · have e3:=LD (b ^^^ c);simp [execOp,ho,h1,h2,eqGuard,binOp,Op.intBits,IntKind.bits,e1,e2] at e3 ⊢;exact e3
theorem Po {t u:TypeId} {x y:Operand} {b c:BitVec 32} (ho:o.op= .binOp .and t x y u) (hx:VL E x (u32 b)) (hy:VL E y (u32 c)):AR P I o E (u32 (b&&&c)):=MK ho hx hy (.inl ⟨rfl,rfl⟩)
theorem JZ {t u:TypeId} {x y:Operand} {b c:BitVec 32} (ho:o.op= .binOp .or t x y u) (hx:VL E x (u32 b)) (hy:VL E y (u32 c)):AR P I o E (u32 (b|||c)):=MK ho hx hy (.inr (.inl ⟨rfl,rfl⟩))
theorem Kl {t u:TypeId} {x y:Operand} {b c:BitVec 32} (ho:o.op= .binOp .andNot t x y u) (hx:VL E x (u32 b)) (hy:VL E y (u32 c)):AR P I o E (u32 (b&&&~~~c)):=MK (f:=fun b c=>b&&&~~~c) ho hx hy (.inr (.inr (.inl ⟨rfl,rfl⟩)))
theorem Pp:Pr.le (is (.int .u32 0)) (u32 0#32):=fun _ _ _ h=>h
theorem Sw (b:BitVec 32):(((b.toNat:Int)==0)=(b==0#32)):=by
 rw [Bool.eq_iff_iff,beq_iff_eq,beq_iff_eq]
 constructor
 · intro h;apply BitVec.eq_of_toNat_eq;simp;omega
 · rintro rfl;rfl
theorem eu (b:BitVec 32) (i:Nat):((((b>>>i)&&&1#32).toNat:Int)==1)=b.getLsbD i:=by
 rw [Bool.eq_iff_iff,beq_iff_eq]
 have h1:((b>>>i)&&&1#32).toNat=(b.toNat>>>i) % 2:=by
  rw [BitVec.toNat_and,BitVec.toNat_ushiftRight];exact Nat.and_one_is_mod _
 rw [h1]
 unfold BitVec.getLsbD
 rw [Nat.testBit,Nat.and_comm,Nat.and_one_is_mod]
 constructor
 ·
  intro h;have:(b.toNat>>>i) % 2=1:=by omega
  rw [this];rfl
 ·
  intro h
  rcases Nat.mod_two_eq_zero_or_one (b.toNat>>>i) with h2|h2
  · rw [h2] at h;cases h
  · omega
end
end Cp
namespace Go.Proofs.YtppdobdifkefcaaGreatDoor
open Go Go.RowKit Cp Go.Proofs.Tryz
-- sets of bits, ny
def Ej (b:BitVec 32):Nat:=((List.range 32).find? fun i=>b.getLsbD i).getD 32
def Mh (b:BitVec 32):List Nat:=(List.range 32).filter fun i=>b.getLsbD i
def UK (b:BitVec 32) (i:Nat):BitVec 32:=b&&&~~~(1#32<<<i)
def Sx (b:BitVec 32) (i:Nat):BitVec 32:=b|||(1#32<<<i)
theorem RS (i j:Nat):(1#32<<<i).getLsbD j=(decide (i=j)&&decide (j<32)):=by
 rw [BitVec.getLsbD_shiftLeft]
 by_cases h1:j<32
 ·
  by_cases h2:i=j
  · subst h2;simp [h1]
  ·
   by_cases h3:j<i
   · simp [h3,h2]
   ·
    have:(1#32).getLsbD (j-i)=false:=by
     rw [BitVec.getLsbD_ofNat]
     have:(1:Nat).testBit (j-i)=false:=by
      obtain ⟨k,hk⟩:∃k,j-i=k+1:=⟨j-i-1,by omega⟩
      rw [hk,Nat.testBit_succ];simp
     rw [this];simp
    rw [this];simp [h2]
 · simp [h1]
theorem RT {b:BitVec 32} {i j:Nat} (hi:i<32):(Sx b i).getLsbD j=(b.getLsbD j||decide (i=j)):=by
 unfold Sx
 rw [BitVec.getLsbD_or,RS]
 by_cases h:i=j
 · subst h;simp [hi]
 · simp [h]
theorem Zn {b:BitVec 32} {i j:Nat}:(UK b i).getLsbD j=(b.getLsbD j&& !decide (i=j)):=by
 unfold UK
 rw [BitVec.getLsbD_and,BitVec.getLsbD_not,RS]
 by_cases hj:j<32
 · simp [hj]
 ·
  have:b.getLsbD j=false:=BitVec.getLsbD_of_ge b j (by omega)
  rw [this];simp
theorem Pq {α:Type} [DecidableEq α] {p:α→Bool} {x:α}:∀{l:List α},l.Nodup→l.find? p=some x→l.filter p=x::l.filter (fun y=>p y&& !(decide (x=y):Bool)):=by
 intro l
 induction l with
 |nil=>intro _ h;cases h
 |cons a l ih=>
  intro hn h
  obtain ⟨ha,hn⟩:=List.nodup_cons.1 hn
  rw [List.find?_cons] at h
  cases hp:p a with
  |true=>
   rw [hp] at h
   simp at h
   subst h
   rw [List.filter_cons,hp,List.filter_cons]
   simp [hp]
   exact List.filter_congr fun y hy=>by
    have:¬a=y:=fun e=>ha (e ▸ hy)
    simp [this]
  |false=>
   rw [hp] at h
   simp at h
   rw [List.filter_cons,hp,List.filter_cons,hp]
   simp
   exact ih hn (by simpa using h)
theorem Sy {b:BitVec 32} (h:∀i,i<32→b.getLsbD i=false):b=0#32:=BitVec.eq_of_getLsbD_eq fun i hi=>by rw [h i hi];simp
theorem Pt:Mh 0#32=[]:=by decide
theorem ML {b:BitVec 32} (h:b≠0#32):(List.range 32).find? (fun i=>b.getLsbD i)=some (Ej b):=by
 unfold Ej
 cases hf:(List.range 32).find? (fun i=>b.getLsbD i) with
 |some x=>rfl
 |none=>
  rw [List.find?_eq_none] at hf
  exact absurd (Sy fun i hi=>by simpa using hf i (List.mem_range.2 hi)) h
theorem RU {b:BitVec 32} (h:b≠0#32):b.getLsbD (Ej b)=true:=by simpa using List.find?_some (ML h)
theorem RV {b:BitVec 32} (h:b≠0#32):Ej b<32:=List.mem_range.1 (List.mem_of_find?_eq_some (ML h))
theorem Ja {b:BitVec 32} (h:b≠0#32):Mh b=Ej b::Mh (UK b (Ej b)):=by
 unfold Mh
 rw [Pq List.nodup_range (ML h)]
 congr 1
 exact List.filter_congr fun y _=>by rw [Zn]
theorem Sz {b:BitVec 32} {i:Nat}:i∈Mh b↔b.getLsbD i=true:=by
 unfold Mh
 rw [List.mem_filter,List.mem_range]
 constructor
 · exact fun h=>h.2
 ·
  intro h
  refine ⟨?_,h⟩
  rcases Nat.lt_or_ge i 32 with h2|h2
  · exact h2
  · rw [BitVec.getLsbD_of_ge b i h2] at h;cases h
theorem S0 {b:BitVec 32} {i:Nat} (h:b.getLsbD i=true):Ej b≤i:=by
 have hb:b≠0#32:=fun e=>by rw [e] at h;simp at h
 have h1:i∈Mh b:=Sz.2 h
 rw [Ja hb] at h1
 rcases List.mem_cons.1 h1 with h2|h2
 · omega
 ·
  have h3:(Mh b).Pairwise (· < ·):=List.Pairwise.filter _ List.pairwise_lt_range
  rw [Ja hb] at h3
  exact Nat.le_of_lt ((List.pairwise_cons.1 h3).1 i h2)
theorem UL {b:BitVec 32} (h:b≠0#32):b&&&(-b)=1#32<<<(Ej b):=by
 apply BitVec.eq_of_getLsbD_eq
 intro i hi
 rw [BitVec.getLsbD_and,BitVec.getLsbD_neg,RS]
 by_cases h1:Ej b=i
 ·
  subst h1
  have:¬∃j,j<Ej b∧b.getLsbD j=true:=fun ⟨j,hj,hb⟩=>by have:=S0 hb;omega
  simp [hi,RU h,this]
 ·
  by_cases h2:Ej b<i
  ·
   have:∃j,j<i∧b.getLsbD j=true:=⟨_,h2,RU h⟩
   simp [this,h1,hi]
  ·
   have:b.getLsbD i=false:=by
    cases hb:b.getLsbD i with
    |false=>rfl
    |true=>have:=S0 hb;omega
   simp [this,h1]
def Pu:List Nat:=[0,1,28,2,29,14,24,3,30,22,20,15,25,17,4,8,31,27,13,23,21,19,16,7,26,12,18,6,11,5,10,9]
theorem Zo:∀i,i<32→Pu[(((1#32<<<i)*125613361#32)>>>27).toNat]? =some i:=by decide
-- rows of bits as a relation (to stand behind Rq.lean and Bit.lean)
def DU (n:Nat) (B:List (BitVec 32)) (M:Nat→Nat→Bool):Prop:=B.length=n∧∀b x,B[b]? =some x→∀a,x.getLsbD a=(decide (a<n)&&M a b)
theorem Jb {n:Nat} {B:List (BitVec 32)} {M N:Nat→Nat→Bool} (h:DU n B M) (k:∀a b,a<n→b<n→M a b=N a b):DU n B N:=by
 refine ⟨h.1,fun b x hx a=> ?_⟩
 rw [h.2 b x hx a]
 have hb:b<n:=by rw [←h.1];rcases Nat.lt_or_ge b B.length with h2|h2;exact h2;rw [List.getElem?_eq_none h2] at hx;cases hx
 by_cases ha:a<n
 · rw [k a b ha hb]
 · simp [ha]
theorem RW (n:Nat):DU n (List.replicate n 0#32) (fun _ _=>false):=by
 refine ⟨List.length_replicate,fun b x hx a=> ?_⟩
 have:=List.eq_of_mem_replicate (List.mem_of_getElem? hx)
 subst this;simp
theorem NT {n:Nat} {B:List (BitVec 32)} {M N:Nat→Nat→Bool} (h:DU n B M) {t:Nat} {y:BitVec 32} (ho:∀a b,b≠t→N a b=M a b) (hy:∀a,y.getLsbD a=(decide (a<n)&&N a t)):DU n (B.set t y) N:=by
 refine ⟨by rw [List.length_set];exact h.1,fun b x hx a=> ?_⟩
 rw [List.getElem?_set] at hx
 split at hx
 ·
  rename_i e;subst e
  split at hx
  · cases hx;exact hy a
  · cases hx
 ·
  rename_i e
  rw [h.2 b x hx a,ho a b (fun e2=>e e2.symm)]
theorem W9 {n:Nat} {B:List (BitVec 32)} {M:Nat→Nat→Bool} (h:DU n B M) {t f:Nat} {x:BitVec 32} (hx:B[t]? =some x) (hf:f<n) (hn:n≤32):DU n (B.set t (Sx x f)) (fun a b=>M a b||(decide (f=a)&&decide (t=b))):=by
 refine NT h (fun a b hb=> ?_) (fun a=> ?_)
 · simp [show ¬t=b from fun e=>hb e.symm]
 ·
  rw [RT (by omega),h.2 t x hx a]
  by_cases ha:a<n
  · simp [ha]
  ·
   have:¬f=a:=by omega
   simp [ha,this]
def Hr (k:Nat) (m:Nat→Nat→Bool) (i a b:Nat):Bool:=if b<i then K0 k m a b else m a b
theorem ew (k:Nat) (m:Nat→Nat→Bool):Hr k m 0=m:=by funext a b;unfold Hr;rw [if_neg (by omega)]
theorem W_ {n k:Nat} {m:Nat→Nat→Bool} {a b:Nat} (hb:b<n):Hr k m n a b=K0 k m a b:=by unfold Hr;rw [if_pos hb]
theorem XA (k:Nat) (m:Nat→Nat→Bool) (i a:Nat):Hr k m i a k=m a k:=by unfold Hr;split;exact Wq k m a;rfl
theorem Pv {n k i:Nat} {m:Nat→Nat→Bool} {B:List (BitVec 32)} {x:BitVec 32} (h:DU n B (Hr k m i)) (hx:B[i]? =some x) (hk:k<n):x.getLsbD k=m k i:=by
 rw [h.2 i x hx k];unfold Hr;rw [if_neg (by omega)];simp [hk]
theorem XB {n k i:Nat} {m:Nat→Nat→Bool} {B:List (BitVec 32)} {x y:BitVec 32} (h:DU n B (Hr k m i)) (hx:B[i]? =some x) (hy:B[k]? =some y) (hm:m k i=true):DU n (B.set i (x|||y)) (Hr k m (i+1)):=by
 refine NT h (fun a b hb=> ?_) (fun a=> ?_)
 ·
  unfold Hr
  by_cases h1:b<i
  · rw [if_pos h1,if_pos (by omega)]
  · rw [if_neg h1,if_neg (by omega)]
 ·
  rw [BitVec.getLsbD_or,h.2 i x hx a,h.2 k y hy a,XA]
  unfold Hr
  rw [if_neg (by omega),if_pos (by omega)]
  unfold K0
  rw [hm]
  cases decide (a<n)<;>simp
theorem Zp {n k i:Nat} {m:Nat→Nat→Bool} {B:List (BitVec 32)} (h:DU n B (Hr k m i)) (hm:m k i=false):DU n B (Hr k m (i+1)):=by
 refine Jb h fun a b _ _=> ?_
 unfold Hr
 by_cases h1:b<i
 · rw [if_pos h1,if_pos (by omega)]
 ·
  by_cases h2:b=i
  · subst h2;rw [if_neg h1,if_pos (by omega)];unfold K0;rw [hm];simp
  · rw [if_neg h1,if_neg (by omega)]
structure rT (n:Nat) (l:List BU) (B A:List (BitVec 32)):Prop where
 bef:DU n B (Cd l n)
 aft:DU n A (fun b a=>Cd l n a b)
theorem Ff {l:List BU} {s:List Int} (h:Fe l s=true):∀(k:Nat) {a b:Nat},Cd l k a b=true→(b:Int)∈s→(a:Int)∈s
 |0,a,b,hw,hb=>by
  unfold Cd H9 at hw
  rw [List.any_eq_true] at hw
  obtain ⟨r,hr,h2⟩:=hw
  simp at h2
  have:=DR.1 h r hr (by rw [h2.2];exact hb)
  rw [h2.1] at this;exact this
 |k+1,a,b,hw,hb=>by
  have hw:K0 k (Cd l k) a b=true:=hw
  unfold K0 at hw
  rw [Bool.or_eq_true,Bool.and_eq_true] at hw
  rcases hw with hw|⟨h1,h2⟩
  · exact Ff h k hw hb
  · exact Ff h k h1 (Ff h k h2 hb)
def Km (n:Nat) (s:BitVec 32) (d:List Int):Prop:=∀i:Nat,s.getLsbD i=true↔(i:Int)∈d
theorem XC {x s:BitVec 32}:(x&&&~~~s=0#32)↔∀i,x.getLsbD i=true→s.getLsbD i=true:=by
 constructor
 ·
  intro h i hi
  have h2:=congrArg (fun y=>BitVec.getLsbD y i) h
  have hlt:i<32:=by rcases Nat.lt_or_ge i 32 with h3|h3;exact h3;rw [BitVec.getLsbD_of_ge x i h3] at hi;cases hi
  simp [hi,hlt] at h2
  exact h2
 ·
  intro h
  refine Sy fun i hi=> ?_
  rw [BitVec.getLsbD_and,BitVec.getLsbD_not]
  cases hx:x.getLsbD i with
  |false=>simp
  |true=>rw [h i hx];simp
theorem Zq {n:Int} {l:List BU} {B:List (BitVec 32)} {s x:BitVec 32} {d:List Int} {i:Nat} (hv:Ar n l=0) (hB:DU n.toNat B (Cd l n.toNat)) (hs:Km n.toNat s d) (hc:Fe l d=true) (hx:B[i]? =some x) (hi:i<n.toNat):
  Ph l d true i=(!s.getLsbD i&&(x&&&~~~s==0#32)):=by
 obtain ⟨h0,h1,h2,h3⟩:=CV hv
 rw [Bool.eq_iff_iff]
 unfold Ph
 have e1:(JV d (i:Int) !=true)= !s.getLsbD i:=by
  cases hg:s.getLsbD i with
  |true=>have:=(hs i).1 hg;rw [EN.2 this];rfl
  |false=>
   have:¬(i:Int)∈d:=fun e=>by have:=(hs i).2 e;rw [hg] at this;cases this
   have h4:JV d (i:Int)=false:=by cases h5:JV d (i:Int) with|false=>rfl|true=>exact absurd (EN.1 h5) this
   rw [h4];rfl
 rw [e1,Bool.and_eq_true,Bool.and_eq_true,beq_iff_eq,XC]
 refine and_congr_right fun hni=> ?_
 constructor
 ·
  intro aD a ha
  rw [hB.2 i x hx a,Bool.and_eq_true,decide_eq_true_eq] at ha
  have:=Ff aD _ ha.2 (C_.2 (.inl rfl))
  rcases C_.1 this with h5|h5
  ·
   have h6:a=i:=by omega
   subst h6
   rw [h3 a hi] at ha;cases ha.2
  · exact (hs a).2 h5
 ·
  intro h
  rw [DR]
  intro r hr hm
  rcases C_.1 hm with h5|h5
  ·
   have hb:=h1 r hr
   unfold C3 at hb
   rw [decide_eq_false_iff_not] at hb
   refine C_.2 (.inr ?_)
   have h6:=(hs r.fst.toNat).1 (h r.fst.toNat (by
    rw [hB.2 i x hx,Bool.and_eq_true,decide_eq_true_eq]
    refine ⟨by omega,J7 ?_ _⟩
    unfold H9
    rw [List.any_eq_true]
    exact ⟨r,hr,by simp;omega⟩))
   rw [Int.toNat_of_nonneg (by omega)] at h6
   exact h6
  · exact C_.2 (.inr (DR.1 hc r hr h5))
-- sL, list, by bits (behind rT.lean)
theorem S1 (n:Nat):∀m,(List.range m).filter (fun j=>decide (j<n))=List.range (min n m)
 |0=>by simp
 |m+1=>by
  rw [List.range_succ,List.filter_append,S1 n m]
  by_cases h:m<n
  ·
   rw [Nat.min_eq_right (by omega),Nat.min_eq_right (by omega),List.range_succ]
   simp [h]
  ·
   rw [Nat.min_eq_left (by omega),Nat.min_eq_left (by omega)]
   simp [h]
theorem ez {x:BitVec 32} {n:Nat} {p:Nat→Bool} (h:∀j,x.getLsbD j=(decide (j<n)&&p j)) (hn:n≤32):Mh x=(List.range n).filter p:=by
 unfold Mh
 rw [List.filter_congr (q:=fun j=>decide (j<n)&&p j) (fun j _=>h j)]
 rw [show (fun j=>decide (j<n)&&p j)=fun j=>p j&&decide (j<n) from by funext j;rw [Bool.and_comm]]
 rw [←List.filter_filter,S1,Nat.min_eq_left hn]
theorem RX (n:Nat):Km n 0#32 []:=fun i=>by simp
theorem XD {n:Nat} {s:BitVec 32} {d:List Int} {i:Nat} (h:Km n s d) (hi:i<32):Km n (Sx s i) (Kj d (i:Int) true):=fun j=>by
 rw [RT hi,C_,Bool.or_eq_true,decide_eq_true_eq,h j]
 constructor
 ·
  rintro (h1|h1)
  · exact .inr h1
  · exact .inl (by omega)
 ·
  rintro (h1|h1)
  · exact .inr (by omega)
  · exact .inl h1
theorem e7 {n:Int} {l:List BU} {d:List Int} {out:BitVec 32} (h:∀j,out.getLsbD j=(decide (j<n.toNat)&&Ph l d true j)) (hn:n.toNat≤32):OK n.toNat l d true=(Mh out).map fun i:Nat=>(i:Int):=by
 unfold OK;rw [ez h hn]
theorem RY {n:Int} {l:List BU} {k:Nat} {out:BitVec 32} (hv:Ar n l=0) (hk:k<n.toNat) (h:∀j,out.getLsbD j=(decide (j<n.toNat)&&Ph l (BW n.toNat l k).2 true j)):
  out≠0#32∧Ej out<n.toNat∧BW n.toNat l (k+1)=((BW n.toNat l k).1++[((Ej out:Nat):Int)],Kj (BW n.toNat l k).2 ((Ej out:Nat):Int) true):=by
 obtain ⟨h0,h1,h2,h3⟩:=CV hv
 obtain ⟨x,hx,hf⟩:=Pk hv hk
 rw [e7 h (by omega)] at hx
 have hne:out≠0#32:=fun e=>by rw [e,Pt] at hx;simp at hx
 rw [Ja hne] at hx
 simp at hx
 have hl:=RU hne
 rw [h,Bool.and_eq_true,decide_eq_true_eq] at hl
 exact ⟨hne,hl.1,by rw [hf,hx]⟩
end Go.Proofs.YtppdobdifkefcaaGreatDoor
namespace Cp
open Go Go.RowKit Go.Great
abbrev mark (D:Nat):Deferred:={ target:= .collected D,args:= #[] }
abbrev Pw (D:Nat):Ae:=Ak D (.deferred (some []))
abbrev Gl (P:Program) (g:Func) (R:Ending→World→Prop):Exit→Act→World→Prop:=bodyPostM (CW none) 0 P g R
section
variable {P:Program} {fz:Nat} {E:Env} {M0:Av} {w0:World} {S:Nat→Prop} {rs:List Ae} {g:Func} {R:Ending→World→Prop} {ds:List Deferred} {n:Fm} {c:Code}
theorem Fin.e_ {D:Nat} (k:Fin ⟨fz,ds⟩ E (Hp M0 w0 S rs) (Gl P g R) .ret):Fin ⟨fz,mark D::ds⟩ E (Hp M0 w0 S (Pw D::rs)) (Gl P g R) .ret:=by
 rintro a w ⟨M,h1,h2,h3,h4⟩
 have h4:Al M0 w0 S (Pw D::rs) M w:=h4
 have hD:w.heap[D]? =some (.deferred (some [])):=(h4.hold _ (List.mem_cons_self ..)).1.2
 obtain ⟨h5,h6⟩:=h4.putObj (j:=0) (.deferred none) rfl
 have h7:=k { a with defers:=ds } (w.putObj D (.deferred none)) ⟨M,h1,rfl,fun s q hq=>q.st _ _ _ _ _ h6 (h3 s q hq),Al.I8 h5⟩
 have h2:a.defers=mark D::ds:=h2
 show LeavesInM _ _ _ _ _ _ a.defers _ _
 rw [h2]
 exact ⟨(fun h=>by cases h),.inl ⟨D,_,rfl,run_takeDeferred hD,h7⟩⟩
theorem Fin.XE (k:Fin ⟨fz,[]⟩ E (Hp M0 w0 S rs) (bodyPost P g R) .ret):Fin ⟨fz,[]⟩ E (Hp M0 w0 S rs) (Gl P g R) .ret:=by
 rintro a w h
 obtain ⟨h1,v,h2,h3⟩:=k a w h
 show LeavesInM _ _ _ _ _ _ a.defers _ _
 rw [h1]
 exact ⟨v,h2,h3⟩
theorem Fin.S2:∀{Ds:List Nat} {rs:List Ae},Fin ⟨fz,[]⟩ E (Hp M0 w0 S rs) (bodyPost P g R) .ret→Fin ⟨fz,Ds.map mark⟩ E (Hp M0 w0 S (Ds.map Pw++rs)) (Gl P g R) .ret
 |[],_,k=>Fin.XE k
 |_::_,_,k=>Fin.e_ (Fin.S2 k)
theorem Fin.fA {rs:List Ae} (k:Fin n E (Hp M0 w0 S rs) (Gl P g R) .ret):Fin n E (Hp M0 w0 S rs) (Gl P g R) .normal:=k
theorem Kn {f:FuncId} {args:Array Value} {w:World} (hf:P.funcs[f]? =some g) (hb:g.body=some c) (h:c.wp P (Gl P g R) { tmps:=args++Array.replicate (g.ntmps-args.size) undef,defers:=[] } w):Calls P f args w R:=
 callsIn_wide.1 (callsIn_of_wp_marks (F:=CW none) (n:=0) hf hb trivial (wpIn_wide.2 h))
variable {α:Type} {pre:List Ae} {C:α→Prop} {res:α→Pr} {post:α→List Ae} {M1:Av} {w1:World}
theorem JH.ofM {f : FuncId} {ps : List Pr} (hf : P.funcs[f]? = some g) (hb : g.body = some c) (hname : (g.name == "runtime.NumGoroutine") = false) (hlen : ps.length ≤ g.ntmps)
  (h:∀M0 w0 S rs M1 w1,Tr (Rt P) g.ntmps (IC 0 ps) (Hp M0 w0 S (pre++AZ M1 w1::rs)) c (Gl P g (M4 M0 w0 S rs M1 w1 C res post))):JH P f ps pre C res post:=by
 refine ⟨⟨g,hf,hname,by rw [hb];rfl⟩,fun M0 w0 S rs M w vs hI hv=> ?_⟩
 refine Kn hf hb (h M0 w0 S rs M w _ _ ⟨M,?_,rfl,EU hv,?_⟩)
 ·
  have:=hv.length
  simp [this];omega
 · exact Al.perm List.perm_middle.symm (Al.Hj hI (r:=AZ M w) rfl (Ext.refl _ _))
end
def RZ (g:Nat) (Xp:List Nat):Ae where
 blk:=none
 new:=true
 h M w:=∀(j:Nat) (x:Nat),Xp[j]? =some x→w.cell? ⟨g,j,none⟩=some (.int .u8 (x:Int))∧¬M g j
 st M w M' w' he _ h:=fun j x hx=>by
  obtain ⟨h1,h2⟩:=h j x hx
  obtain ⟨h3,h4⟩:=he.keep ⟨g,j,none⟩ _ h1 h2
  exact ⟨h4,h3⟩
def LF (p:Prop):Ae:=⟨none,true,fun _ _=>p,fun _ _ _ _ _ _ h=>h⟩
section
variable {P:Program} {L:Lg P} {n:Fm} {E:Env} {M0:Av} {w0:World} {S:Nat→Prop} {rs:List Ae} {o:Oper} {r:List Oper} {ops:Array Oper} {Q:Exit→Act→World→Prop} {c:Code}
theorem fB {t:TypeId} {x:Operand} {g j i:Nat} {Xp:List Nat} {y:Nat} (ho:o.op= .load t x) (ht:Dl P t=true) (hx:VL E x (is (.pointer (some ⟨g,i,none⟩)))) (hy:Xp[i]? =some y):IE P M0 w0 S j (SR.c (RZ g Xp)) o E (is (.int .u8 (y:Int))):=by
 intro M w a rs he hI hj
 have h0:a.eval x= .pointer (some ⟨g,i,none⟩):=hx.ev he (by simp [ho,Op.operands])
 have hj':rs[j]? =some (RZ g Xp):=hj
 obtain ⟨h1,_⟩:=(hI.hold _ (List.mem_of_getElem? hj')).1 i y hy
 have hrun:(execOp a.eval o).run P w= .ok (.value (.int .u8 (y:Int))) w:=by simp [execOp,ho,h0,Instr.loadAt,Instr.sureAddr,loadVar,Dm ht,h1]
 rw [hrun]
 exact ⟨rfl,Below.refl _ _⟩
end
section
variable {P:Program}
theorem MJ.of {gf:Nat} {lb:Array Value} {α:Type} {enc:α→Value} {xs:List α} {own:List α→List Ae} {g:Func} {c:Code} {ps:List Pr} (hf:P.funcs[gf]? =some g) (hb:g.body=some c) (hlen:ps.length+1≤g.ntmps) (hps:∀M w,HL M w ps lb.toList)
  (h:∀(M0:Av) (w0:World) (S:Nat→Prop) (l:Nat) (β:Type) (R Rx:List α→β→List Ae) (M1:Av) (w1:World),
   (∀pre x d M w,(pre++[x])<+:xs→Al M0 w0 S (own (pre++[x])++R pre d) M w→YieldAt (CW none) 0 P l #[enc x] w fun e w'=>∃M' d',Ext M w M' w'∧
    ((e= .returned (.bool true)∧Al M0 w0 S (own (pre++[x])++R (pre++[x]) d') M' w')∨(e= .returned (.bool false)∧Al M0 w0 S (own (pre++[x])++Rx (pre++[x]) d') M' w')))→
   ∀ d, Tr (Xx P none) g.ntmps (IC 0 (is (.func (.yield l) #[] #[]) :: ps)) (Hp M0 w0 S (own [] ++ AZ M1 w1 :: R [] d)) c
    (Gl P g fun e w'=>(∃v,e= .returned v)∧∃M' d',Ext M1 w1 M' w'∧(Al M0 w0 S (own xs++R xs d') M' w'∨∃pre,pre<+:xs∧Al M0 w0 S (own pre++Rx pre d') M' w'))):MJ P gf lb enc xs own:=by
 intro M0 w0 S l β R Rx hy d M w hI
 refine callsIn_of_wp_marks (F:=CW none) (n:=0) hf hb trivial (h M0 w0 S l β R Rx M w hy d _ _ ⟨M,?_,rfl,?_,?_⟩)
 ·
  have:=(hps M w).length
  simp at this ⊢;omega
 ·
  have h2:HL M w (is (.func (.yield l) #[] #[])::ps) ((.func (.yield l) #[] #[])::lb.toList):=⟨rfl,hps M w⟩
  have h3:=EU (m:=g.ntmps-(#[Value.func (.yield l) #[] #[]]++lb:Array Value).size) h2
  have e1:(Value.func (.yield l) #[] #[]::lb.toList).toArray= #[Value.func (.yield l) #[] #[]]++lb:=by apply Array.ext';simp
  rw [e1] at h3;exact h3
 · exact Al.perm List.perm_middle.symm (Al.Hj hI (r:=AZ M w) rfl (Ext.refl _ _))
end
section
variable {P:Program} {I:B6} {E:Env} {o:Oper}
theorem XF {t u:TypeId} {x y:Operand} {b:BitVec 32} (ho:o.op= .binOp .eql t x y u) (hx:VL E x (u32 b)) (hy:VL E y (is (.int .u32 0))):AR P I o E (bool (b==0#32)):=
 AR.same fun M w a he _=>by
  have h1:a.eval x= .int .u32 b.toNat:=hx.ev he (by simp [ho,Op.operands])
  have h2:a.eval y= .int .u32 0:=hy.ev he (by simp [ho,Op.operands])
  refine ⟨.bool (b==0#32),?_,rfl⟩
  rw [←Sw]
  simp [execOp,ho,h1,h2,eqGuard,binOp,Op.intCmp]
theorem fC {t u:TypeId} {x y:Operand} {b:BitVec 32} (ho:o.op= .binOp .neq t x y u) (hx:VL E x (u32 b)) (hy:VL E y (is (.int .u32 0))):AR P I o E (bool (!(b==0#32))):=
 AR.same fun M w a he _=>by
  have h1:a.eval x= .int .u32 b.toNat:=hx.ev he (by simp [ho,Op.operands])
  have h2:a.eval y= .int .u32 0:=hy.ev he (by simp [ho,Op.operands])
  refine ⟨.bool (!(b==0#32)),?_,rfl⟩
  rw [←Sw]
  simp [execOp,ho,h1,h2,eqGuard,binOp,Op.intCmp]
  rw [Bool.eq_iff_iff];simp
theorem fD {t u:TypeId} {x y:Operand} {b:BitVec 32} {i:Nat} (ho:o.op= .binOp .eql t x y u) (hx:VL E x (u32 ((b>>>i)&&&1#32))) (hy:VL E y (is (.int .u32 1))):AR P I o E (bool (b.getLsbD i)):=
 AR.same fun M w a he _=>by
  have h1:a.eval x= .int .u32 ((b>>>i)&&&1#32).toNat:=hx.ev he (by simp [ho,Op.operands])
  have h2:a.eval y= .int .u32 1:=hy.ev he (by simp [ho,Op.operands])
  refine ⟨.bool (b.getLsbD i),?_,rfl⟩
  rw [←eu]
  simp [execOp,ho,h1,h2,eqGuard,binOp,Op.intCmp]
theorem XG {t:TypeId} {x:Operand} {b:BitVec 32} (ho:o.op= .unOp .neg t x) (hx:VL E x (u32 b)):AR P I o E (u32 (-b)):=
 AR.same fun M w a he _=>by
  have h1:a.eval x= .int .u32 b.toNat:=hx.ev he (by simp [ho,Op.operands])
  refine ⟨.int .u32 ((-b).toNat:Int),?_,rfl⟩
  have e1:IntKind.u32.wrap (0-(b.toNat:Int))=((-b).toNat:Int):=by
   rw [Sv,BitVec.toNat_neg];have:=b.isLt;omega
  rw [←e1]
  simp [execOp,ho,h1,Op.unary,Op.intArith]
theorem XH {t u:TypeId} {x y:Operand} {b c:BitVec 32} (ho:o.op= .binOp .mul t x y u) (hx:VL E x (u32 b)) (hy:VL E y (u32 c)):AR P I o E (u32 (b*c)):=
 AR.same fun M w a he _=>by
  have h1:a.eval x= .int .u32 b.toNat:=hx.ev he (by simp [ho,Op.operands])
  have h2:a.eval y= .int .u32 c.toNat:=hy.ev he (by simp [ho,Op.operands])
  refine ⟨.int .u32 ((b*c).toNat:Int),?_,rfl⟩
  have e1:IntKind.u32.wrap ((b.toNat:Int)*(c.toNat:Int))=((b*c).toNat:Int):=by
   rw [Sv,BitVec.toNat_mul]
   have e2:(b.toNat:Int)*(c.toNat:Int)=((b.toNat*c.toNat:Nat):Int):=by rw [Int.natCast_mul]
   rw [e2]
   generalize b.toNat*c.toNat=n
   show ((n:Int) % 4294967296)=((n % 4294967296:Nat):Int)
   omega
  rw [←e1]
  simp [execOp,ho,h1,h2,eqGuard,binOp,Op.intArith]
theorem Zr {t u:TypeId} {x y:Operand} {b:BitVec 32} {k:IntKind} {i:Int} (ho:o.op= .binOp .shr t x y u) (hx:VL E x (u32 b)) (hy:VL E y (is (.int k i))) (hi:0≤i):AR P I o E (u32 (b>>>i.toNat)):=
 AR.same fun M w a he _=>by
  have h1:a.eval x= .int .u32 b.toNat:=hx.ev he (by simp [ho,Op.operands])
  have h2:a.eval y= .int k i:=hy.ev he (by simp [ho,Op.operands])
  refine ⟨.int .u32 ((b>>>i.toNat).toNat:Int),?_,rfl⟩
  rw [←W7]
  simp [execOp,ho,h1,h2,eqGuard,binOp,Op.shift,show ¬i<0 by omega,IntKind.bits]
theorem Ra {t e:TypeId} {x y:Operand} {k:IntKind} {i:Int} {g len:Nat} (ho:o.op= .indexAddr t x y) (ht:P.underlying t=some (.array len e)) (hz:Af P e=some 1) (hx:VL E x (is (.pointer (some ⟨g,0,none⟩)))) (hy:VL E y (is (.int k i))) (h0:0≤i) (h1:i<len):
  AR P I o E (is (.pointer (some ⟨g,i.toNat,none⟩))):=
 AR.same fun M w a he _=>by
  have h2:a.eval x= .pointer (some ⟨g,0,none⟩):=hx.ev he (by simp [ho,Op.operands])
  have h3:a.eval y= .int k i:=hy.ev he (by simp [ho,Op.operands])
  refine ⟨.pointer (some ⟨g,i.toNat,none⟩),?_,rfl⟩
  simp [execOp,ho,h2,h3,Instr.indexAt,asIntOf,run_underlying ht,Bf hz,h0,h1,Instr.sureAddr,Addr.add]
  intro;omega
end
end Cp
namespace Go.Proofs.YtppdobdifkefcaaGreatDoor
open Go Go.RowKit Cp Go.Proofs.Tryz
abbrev ER:Ae:=RZ 0 Pu
theorem Qh {b:BitVec 32} (h:b≠0#32):Pu[(((((b&&& -b)*125613361#32)>>>27).toNat:Nat):Int).toNat]? =some (Ej b):=by
 rw [Int.toNat_natCast,UL h];exact Zo _ (RV h)
theorem Zs (b:BitVec 32):(((b>>>27).toNat:Nat):Int)<32:=by
 rw [BitVec.toNat_ushiftRight,Nat.shiftRight_eq_div_pow];have:=b.isLt;omega
theorem XI {b:BitVec 32} (hb:b≠0#32):BJ prog 47 [u32 b] (int ((Ej b:Nat):Int)) (ER) (fun _=>ER):=by
 refine BJ.of func47 rfl rfl (by exact Nb rfl) fun M0 w0 S rs M1 w1=> ?_
 have hll:=RV hb
 refine Tr.seq (Tr.Ao (cm rfl (Ch.nil (Fin.go (Tr.seq (Tr.seq (Tr.Ao (cm rfl (co rfl (XF rfl (vl rfl) (vl rfl)) (Ch.nil (Fin.go ?_)))))))))))
 refine Tr.cn rfl ?_ ?_<;>intro h1 q1
 exfalso;exact hb (by simpa using h1)
 refine Tr.skip (Fin.go (Tr.seq (Tr.Ao (cm rfl (cm rfl (co rfl (XG rfl (vl rfl)) (co rfl (Po rfl (vl rfl) (vl rfl)) ?_)))))))
 refine co rfl (XH (c:=125613361#32) rfl (vl rfl) (vl rfl)) ?_
 refine co rfl (Zr rfl (vl rfl) (vl rfl) (by decide)) (co rfl (Ra rfl underlying151 Iy (vl rfl) (vl rfl) (Int.natCast_nonneg _) (Zs _)) (co rfl (CT 0 rfl (fB rfl rfl (vl rfl) (Qh hb))) ?_))
 refine co rfl (I_ rfl underlying5 underlying3 (vl rfl) (by unfold Jo;omega)) ?_
 refine cm rfl (Ch.nil (Fin.go (Tr.ret (Fin.D8 rfl rfl ?_ (fun _ _ _ _=>rfl)))))
 · exact Lr
end Go.Proofs.YtppdobdifkefcaaGreatDoor
namespace Cp
open Go Go.RowKit Go.Great
section
variable {P:Program} {Q:Exit→Act→World→Prop} {K:Act→World→Prop} {a:Act} {w:World} {o:Oper} {ops:Array Oper}
theorem GX {i:Nat} {rest:List Nat} (ho:ops[i]? =some o) (hg:o.guard=none) (h:o.wpIn (CW none) 0 P a w (wpOpsIn (CW none) 0 P ops Q rest) Q):wpOpsIn (CW none) 0 P ops Q (i::rest) a w:=by
 unfold wpOpsIn;rw [ho];dsimp only;rw [if_pos (by simp [Region.wanted,hg])];exact h
theorem S3 {x:Operand} (ho:o.op= .move x) (k:K (a.put o.dst (a.eval x)) w):o.wpIn (CW none) 0 P a w K Q:=
 Su (by unfold H_;rw [ho]) (fun _ _ h=>h) (by unfold Oper.wp;simp [execOp,ho];exact k)
theorem fE {t:TypeId} {x:Operand} {b:Bool} (ho:o.op= .unOp .not t x) (hx:a.eval x= .bool b) (k:K (a.put o.dst (.bool (!b))) w):o.wpIn (CW none) 0 P a w K Q:=
 Su (by unfold H_;rw [ho]) (fun _ _ h=>h) (by unfold Oper.wp;simp [execOp,ho,hx,Op.unary];exact k)
theorem Tr.XJ {n:Fm} {E:Env} {M0 M1:Av} {w0 w1:World} {S:Nat→Prop} {id t0 t3 d0 d1 d2 d3:Nat} {o0 o1 o2 o3:Oper} {ts:Array TypeId} {ty:TypeId} {α β:Type} {l:Nat} {enc:α→Value} {xs:List α} {own:List α→List Ae} {R Rx:List α→β→List Ae} {pre:List α} {x:α} {d:β}
  (hy:∀pre x d M w,(pre++[x])<+:xs→Al M0 w0 S (own (pre++[x])++R pre d) M w→YieldAt (CW none) 0 P l #[enc x] w fun e w'=>∃M' d',Ext M w M' w'∧
    ((e= .returned (.bool true)∧Al M0 w0 S (own (pre++[x])++R (pre++[x]) d') M' w')∨(e= .returned (.bool false)∧Al M0 w0 S (own (pre++[x])++Rx (pre++[x]) d') M' w')))
  (hpre:(pre++[x])<+:xs) (g0:o0.guard=none) (g1:o1.guard=none) (g2:o2.guard=none) (g3:o3.guard=none) (p0:o0.op= .move (.tmp t0)) (p1:o1.op= .move (.tmp t3)) (p2:o2.op= .call { callee:= .value (.tmp d0),args:= #[.tmp d1],argTypes:=ts }) (p3:o3.op= .unOp .not ty (.tmp d2))
  (e0:o0.dst=some d0) (e1:o1.dst=some d1) (e2:o2.dst=some d2) (e3:o3.dst=some d3) (n0:d0<n) (n1:d1<n) (n2:d2<n) (n3:d3<n) (ne:d0≠d1∧t3≠d0)
  (h0:E.lookup t0=some (is (.func (.yield l) #[] #[]))) (h3:E.lookup t3=some (is (enc x))) (f0:E.lookup d0=none) (f1:E.lookup d1=none) (f2:E.lookup d2=none)
  (kT:∀d',Fin n ((d3,bool false)::E) (Hp M0 w0 S (own (pre++[x])++AZ M1 w1::R (pre++[x]) d')) Q .normal)
  (kF:∀d',Fin n ((d3,bool true)::E) (Hp M0 w0 S (own (pre++[x])++AZ M1 w1::Rx (pre++[x]) d')) Q .normal):
  Tr (Xx P none) n E (Hp M0 w0 S (own (pre++[x])++AZ M1 w1::R pre d)) (.region id #[o0,o1,o2,o3] false) Q:=by
 rintro a w ⟨M,hsz,hdf,hE,hI⟩
 have hI:Al M0 w0 S (own (pre++[x])++AZ M1 w1::R pre d) M w:=hI
 obtain ⟨hx,lu⟩:=VV hI
 have TP:a.tmps.getD t0 undef= .func (.yield l) #[] #[]:=hE _ _ h0
 have hv3:a.tmps.getD t3 undef=enc x:=hE _ _ h3
 have fin:∀(b:Bool) (tl:List Ae) (w':World) (M':Av),Ext M w M' w'→Al M0 w0 S (own (pre++[x])++tl) M' w'→
   St n ((d3,bool (!b))::E) (Hp M0 w0 S (own (pre++[x])++AZ M1 w1::tl)) ((((a.put (some d0) (.func (.yield l) #[] #[])).put (some d1) (enc x)).put (some d2) (.bool b)).put (some d3) (.bool (!b))) w':=by
  intro b tl w' M' he hh
  refine ⟨M',by simp only [BV];exact hsz,by simp only [put_defers];exact hdf,fun s q hq=> ?_,Al.perm List.perm_middle.symm (Al.Hj hh (r:=AZ M1 w1) rfl (hx.trans he))⟩
  simp only [List.lookup] at hq
  by_cases hs:s=d3
  · subst hs;simp at hq;subst hq;rw [BG (by simp only [BV];rw [hsz];exact n3)];rfl
  ·
   rw [show (s==d3)=false by simpa using hs] at hq
   have Uk:s≠d2:=fun e=>by rw [e,f2] at hq;cases hq
   have hs1:s≠d1:=fun e=>by rw [e,f1] at hq;cases hq
   have hs0:s≠d0:=fun e=>by rw [e,f0] at hq;cases hq
   rw [At hs,At Uk,At hs1,At hs0]
   exact q.st _ _ _ _ _ he (hE s q hq)
 refine wpIn_region ?_
 show wpOpsIn (CW none) 0 P _ Q [0,1,2,3] a w
 refine GX (o:=o0) rfl g0 (S3 p0 ?_)
 refine GX (o:=o1) rfl g1 (S3 p1 ?_)
 rw [e0,e1]
 have k0:a.eval (.tmp t0)= .func (.yield l) #[] #[]:=TP
 have k3:(a.put (some d0) (a.eval (.tmp t0))).eval (.tmp t3)=enc x:=by
  show (a.put (some d0) _).tmps.getD t3 undef=_
  rw [At ne.2];exact hv3
 rw [k3,k0]
 refine GX (o:=o2) rfl g2 (W0 (v:=enc x) p2 ?_ ?_ (hy pre x d M w hpre lu) ?_)
 ·
  show (Act.put _ _ _).tmps.getD d0 undef=_
  rw [At ne.1,BG (by rw [hsz];exact n0)]
 ·
  show (Act.put _ _ _).tmps.getD d1 undef=_
  rw [BG (by rw [BV,hsz];exact n1)]
 ·
  rintro e w' ⟨M',d',he,hh⟩
  have hnot:∀(b:Bool) (tl:List Ae),Al M0 w0 S (own (pre++[x])++tl) M' w'→Fin n ((d3,bool (!b))::E) (Hp M0 w0 S (own (pre++[x])++AZ M1 w1::tl)) Q .normal→wpOpsIn (CW none) 0 P #[o0,o1,o2,o3] Q [3] (((a.put (some d0) (.func (.yield l) #[] #[])).put (some d1) (enc x)).put o2.dst (.bool b)) w':=by
   intro b tl hh k
   rw [e2]
   refine GX (o:=o3) rfl g3 (fE (b:=b) p3 ?_ ?_)
   ·
    show (Act.put _ _ _).tmps.getD d2 undef=_
    rw [BG (by simp only [BV];rw [hsz];exact n2)]
   ·
    rw [e3]
    exact k _ _ (fin b tl w' M' he hh)
  rcases hh with ⟨rfl,hh⟩|⟨rfl,hh⟩
  · exact ⟨_,rfl,hnot true _ hh (kT d')⟩
  · exact ⟨_,rfl,hnot false _ hh (kF d')⟩
theorem Zt {I:B6} {E:Env} {f:Fn} {x:Operand} {u:Value} (ho:o.op= .makeFunc f #[] #[x]) (hx:VL E x (is u)):AR P I o E (is (.func f #[] #[u])):=
 AR.same fun M w a he _=>by
  have h1:a.eval x=u:=hx.ev he (by simp [ho,Op.operands])
  exact ⟨.func f #[] #[u],by simp [execOp,ho,Instr.makeFunc,h1],rfl⟩
end
section
variable {P:Program} {L:Lg P} {n:Fm} {fz:Nat} {E:Env} {M0:Av} {w0:World} {S:Nat→Prop} {o:Oper}
def HM (p:Pr) (v:Value):Ae:=⟨none,true,fun M w=>p.h M w v,fun M w M' w' he _ h=>p.st M w M' w' v he h⟩
def bJ (e:TypeId) (zs:List Value) (v:Value):Ae:=match v with| .slice (some a) _ _=>AB true a.block e (zs.map is)|_=>BC
def XK (R:Value→Value→Value→Ae) (u:Value):Ae:=match u with| .tuple t=>R (t.getD 1 undef) (t.getD 2 undef) (t.getD 0 undef)|_=>BC
def Px (R:Value→Value→Ae) (u:Value):Ae:=match u with| .tuple t=>R (t.getD 1 undef) (t.getD 0 undef)|_=>BC
theorem Rb {a:Act} {d s t:Nat} {R:Value→Value→Value→Ae}:SR.at_ a ⟨.three d s t,XK R⟩=R (a.tmps.getD s undef) (a.tmps.getD t undef) (a.tmps.getD d undef):=rfl
theorem LG {a:Act} {d s:Nat} {R:Value→Value→Ae}:SR.at_ a ⟨.two d s,Px R⟩=R (a.tmps.getD s undef) (a.tmps.getD d undef):=rfl
theorem D3.conv {a:Act} {M:Av} {w:World} {p q:Pr} {j:Nat} {R1 R2:SR} {rs:List Ae} {r:Result Next} (hq:Pr.le p q) (hR:∀v,R1.at_ (a.put o.dst v)=R2.at_ (a.put o.dst v)) (h:D3 P M0 w0 S o a M w p j R1 rs r):D3 P M0 w0 S o a M w q j R2 rs r:=by
 cases r with
 |halt x w'=>exact h
 |ok x w'=>
  cases x
  case value v=>obtain ⟨M',g1,g2,g3⟩:=h;exact ⟨M',hq _ _ _ g1,g2,by rw [←hR];exact g3⟩
  case skip=>obtain ⟨M',g1,g2,g3⟩:=h;exact ⟨M',hq _ _ _ g1,g2,by rw [←hR];exact g3⟩
  case enter f args=>
   refine Calls.mono h ?_
   rintro e w'' ⟨v,M',g0,g1,g2,g3⟩
   exact ⟨v,M',g0,hq _ _ _ g1,g2,by rw [←hR];exact g3⟩
  all_goals exact h
theorem GY {M:Av} {w:World} {a:Act} (h:Bs M w E o a) (s:Nat) {p0:Pr} (iH:p0.h M w (a.tmps.getD s undef)):Bs M w ((s,Ab (a.tmps.getD s undef) p0)::E) o a:=fun c p hc hp=>by
 simp only [List.lookup] at hp
 by_cases hcs:c=s
 · subst hcs;simp only [beq_self_eq_true,Option.some.injEq] at hp;subst hp;exact ⟨rfl,iH⟩
 · rw [show (c==s)=false by simpa using hcs] at hp;exact h c p hc hp
theorem fF {j d s t:Nat} {R:SR} {p1 p2 q:Pr} {p:Value→Value→Pr} {R':Value→Value→Value→Ae} (hd:o.dst=some d) (hs:d≠s) (ht:d≠t) (hq:∀v1 v2,Pr.le (p v1 v2) q) (hg:o.guard=none) (h1:E.lookup s=some p1) (h2:E.lookup t=some p2) (hls:s∈looks o) (hlt:t∈looks o) (h:∀v1 v2,C5 P M0 w0 S n j R ⟨d,R' v1 v2⟩ o ((s,Ab v1 p1)::(t,Ab v2 p2)::E) (p v1 v2)):C5 P M0 w0 S n j R ⟨.three d s t,XK R'⟩ o E q:=by
 refine ⟨hg,fun M w a rs hsz he hI hj=> ?_⟩
 refine D3.conv (hq _ _) (fun v=> ?_) ((h (a.tmps.getD s undef) (a.tmps.getD t undef)).2 M w a rs hsz (GY (GY he t (he t p2 hlt h2)) s (he s p1 hls h1)) hI hj)
 rw [Rb,hd,At (Ne.symm hs),At (Ne.symm ht)];rfl
theorem Rc {j d:Nat} {p:Pr} (hg:o.guard=none) (hd:o.dst=some d) (hn:d<n) (h:∀I,AR P I o E p):C5 P M0 w0 S n j (SR.c BC) ⟨d,HM p⟩ o E p:=by
 refine ⟨hg,fun M w a rs hsz he hI hj=> ?_⟩
 have hj':rs[j]? =some BC:=hj
 have hat:∀v,SR.at_ (a.put o.dst v) ⟨d,HM p⟩=HM p v:=fun v=>by show HM p ((a.put o.dst v).tmps.getD d undef)=_;rw [hd,BG (by rw [hsz];exact hn)]
 have Xy:=h (Hp M0 w0 S rs) M w a he hI
 revert Xy
 generalize (execOp a.eval o).run P w=r
 intro Xy
 have key:∀v w',p.h M w' v→Below w.heap.size w w'→∃M',p.h M' w' v∧Ext M w M' w'∧Al M0 w0 S (rs.set j (SR.at_ (a.put o.dst v) ⟨d,HM p⟩)) M' w':=fun v w' hv hb=>by
  refine ⟨M,hv,Ext.below hb,?_⟩
  rw [hat]
  exact Al.CU ((Hp M0 w0 S rs).st _ _ _ hb hI) hj' rfl rfl hv
 cases r with
 |halt x w'=>exact Xy
 |ok x w'=>
  cases x
  case value v=>exact key v w' Xy.1 Xy.2
  case skip=>exact key undef w' Xy.1 Xy.2
  case enter f args=>
   obtain ⟨hb,hc⟩:=Xy
   refine Calls.mono hc ?_
   rintro e w'' ⟨v,g0,g1,g2⟩
   obtain ⟨M',k1,k2,k3⟩:=key v w'' g1 (KL hb g2)
   exact ⟨v,M',g0,k1,k2,k3⟩
  all_goals exact Xy
theorem XL {t e:TypeId} {x y:Operand} {d j m bG:Nat} {z:Value} (hg:o.guard=none) (hd:o.dst=some d) (hn:d<n) (ho:o.op= .makeSlice t x y) (ht:P.underlying t=some (.slice e)) (hs:Af P e=some 1) (hby:Bb P e=some bG) (hz:A7 P e=some [z]) (h1:z.oneCell'=true)
  (hx:VL E x (int ((m:Nat):Int))) (hy:VL E y (int ((m:Nat):Int))) (hm:m≤maxLen) (hb:bG*m≤281474976710656):C5 P M0 w0 S n j (SR.c BC) ⟨d,bJ e (List.replicate m z)⟩ o E (Cp.ex fun b=>is (Nv m b)):=by
 refine ⟨hg,fun M w a rs IG he hI hj=> ?_⟩
 have hx1:a.eval x= .int .i64 m:=hx.ev he (by simp [ho,Op.operands])
 have hy1:a.eval y= .int .i64 m:=hy.ev he (by simp [ho,Op.operands])
 have hi:∃i,P.info? e=some i∧i.size=1∧i.bytes=bG∧∃z',i.zero=some z'∧z'.cells= #[z]:=by
  unfold Af at hs;unfold Bb at hby;unfold A7 at hz
  cases hi:P.info? e with
  |none=>rw [hi] at hs;cases hs
  |some i=>
   rw [hi] at hs hby hz
   simp at hs hby hz
   obtain ⟨z',h2,h3⟩:=hz
   exact ⟨i,rfl,hs,hby,z',h2,by rw [←Array.toList_inj,h3]⟩
 obtain ⟨i,hi,hi1,hi2,z',GH,QS⟩:=hi
 have hmk:madeCells z'.cells m=(List.replicate m z).toArray:=by
  rw [QS]
  apply Array.ext
  · simp [madeCells]
  ·
   intro j h1 h2
   simp [madeCells,Nat.mod_one]
 have hrun:=run_make (P:=P) w t e i z' ht hi GH .i64 .i64 (m:Int) (m:Int) (by omega) (Int.le_refl _) (by rw [hi2];have h0:((bG*m:Nat):Int)≤281474976710656:=Int.ofNat_le.2 hb;rw [←Int.natCast_mul];exact h0) (by unfold maxLen at hm;omega)
 rw [hi1] at hrun
 simp only [Int.toNat_natCast,Nat.mul_one] at hrun
 rw [hmk] at hrun
 have DM:(execOp a.eval o).run P w= .ok (.value (Nv m w.heap.size)) (w.alloc (.cells (List.replicate m z).toArray e)):=by simp [execOp,ho,hx1,hy1,hrun]
 rw [DM]
 have hb:Below w.heap.size w (w.alloc (.cells (List.replicate m z).toArray e)):=(Below.refl _ _).alloc (Nat.le_refl _) _
 have h2:=Ext.below (M:=M) hb
 have DI:Ext M w (fun b o=>M b o∨b=w.heap.size) (w.alloc (.cells (List.replicate m z).toArray e)):=by
  refine ⟨h2.size,fun a v hc hm=>⟨fun hx=> ?_,(h2.keep a v hc hm).2⟩,fun b o ho hp hm=>⟨fun hx=> ?_,(h2.obj b o ho hp hm).2⟩⟩
  ·
   rcases hx with hx|hx
   · exact hm hx
   · have:=C0 hc;omega
  ·
   rcases hx with hx|hx
   · exact hm hx
   · subst hx;simp at ho
 have hs1:(w.alloc (.cells (List.replicate m z).toArray e)).heap.size=w.heap.size+1:=by simp
 have hat:(SR.at_ (a.put o.dst (Nv m w.heap.size)) ⟨d,bJ e (List.replicate m z)⟩)=AB true w.heap.size e ((List.replicate m z).map is):=by unfold SR.at_ Slot.val;dsimp only;rw [hd,BG (by rw [IG];exact hn)];rfl
 refine ⟨fun b o=>M b o∨b=w.heap.size,⟨_,rfl⟩,DI,?_⟩
 rw [hat]
 refine hI.replace hj DI hb.os hb.tape hb.output (fun k hk _=>hb.block k hk) rfl (fun b o hm _=> .inl hm) (fun b o hx=> ?_) ?_ rfl (fun b hbk=> ?_)
 ·
  rcases hx with hx|hx
  · have:=hI.bd _ _ hx;omega
  · omega
 · exact ⟨fun o=> .inr rfl,List.replicate m z,heap_alloc_new w _,I5 _ _ _,fun c hc=>by rw [List.eq_of_mem_replicate hc];exact h1⟩
 ·
  have DL:some w.heap.size=some b:=hbk
  injection DL with e1
  subst e1
  exact ⟨by rw [hs1];omega,.inr (Nat.le_refl _)⟩
theorem NU {s:Nat} {op:Op} (h:(Operand.tmp s)∈op.operands.toList) (ho:o.op=op):s∈looks o:=List.mem_filterMap.2 ⟨_,by rw [ho];exact h,rfl⟩
theorem Zu {d j s x y:Nat} {T:TypeId} {ps:Value→Value→List Pr} (hg:o.guard=none) (hd:o.dst=some d) (hn:d<n) (ho:o.op= .box T (.tmp s)) (hx:d≠x) (hy:d≠y):
  C5 P M0 w0 S n j ⟨.three s x y,XK fun v1 v2=>HM (agg (ps v1 v2))⟩ ⟨.three d x y,XK fun v1 v2=>EG T (ps v1 v2)⟩ o E (Cp.ex fun b=>ptr b 0):=by
 refine ⟨hg,fun M w a rs hsz he hI hj=> ?_⟩
 have hj':rs[j]? =some (HM (agg (ps (a.tmps.getD x undef) (a.tmps.getD y undef))) (a.tmps.getD s undef)):=hj
 have hjl:j<rs.length:=by rcases Nat.lt_or_ge j rs.length with h|h;exact h;rw [List.getElem?_eq_none h] at hj';cases hj'
 have hr:=(hI.hold _ (List.mem_of_getElem? hj')).1
 have lu:Al M0 w0 S (rs.set j BC) M w:=Al.CU hI hj' rfl rfl trivial
 have gr:Bs M w ((s,agg (ps (a.tmps.getD x undef) (a.tmps.getD y undef)))::E) o a:=fun c p hc hp=>by
  simp only [List.lookup] at hp
  by_cases hcs:c=s
  · subst hcs;simp only [beq_self_eq_true,Option.some.injEq] at hp;subst hp;exact hr
  · rw [show (c==s)=false by simpa using hcs] at hp;exact he c p hc hp
 have h:=(Zi (P:=P) (M0:=M0) (w0:=w0) (S:=S) (n:=n) (j:=j) (T:=T) (ps:=ps (a.tmps.getD x undef) (a.tmps.getD y undef)) (E:=(s,agg (ps (a.tmps.getD x undef) (a.tmps.getD y undef)))::E) hg hd hn ho (VL.le ⟨_,List.lookup_cons_self,Pr.le_refl _⟩ (AJ _))).2 M w a _ hsz gr lu (by rw [List.getElem?_set_self hjl];rfl)
 have h2:D3 P M0 w0 S o a M w (Cp.ex fun b=>ptr b 0) j ⟨d,EG T (ps (a.tmps.getD x undef) (a.tmps.getD y undef))⟩ rs ((execOp a.eval o).run P w):=by
  revert h
  generalize (execOp a.eval o).run P w=r
  intro h
  cases r with
  |halt x w'=>exact h
  |ok x w'=>
   cases x
   case value v=>simpa only [D3,List.set_set] using h
   case skip=>simpa only [D3,List.set_set] using h
   case enter f args=>simpa only [D3,List.set_set] using h
   all_goals exact h
 refine D3.conv (Pr.le_refl _) (fun v=> ?_) h2
 rw [Rb,hd,At (Ne.symm hx),At (Ne.symm hy)];rfl
theorem UM {t:TypeId} {s y:Tmp} {j:Nat} {T:TypeId} {ps:List Pr} {p:Pr} [One p] (hg:o.guard=none) (hd:o.dst=none) (ho:o.op= .store t (.tmp s) (.tmp y)) (hsy:s≠y) (hx:E.lookup s=some (Cp.ex fun b=>ptr b 0)) (hy:E.lookup y=some p)
  (hz:Af P t=some 1) (hl:ps.length=1):C5 P M0 w0 S n j ⟨s,EG T ps⟩ ⟨.two s y,Px fun v=>EG T [Ab v p]⟩ o E any:=by
 refine ⟨hg,fun M w a rs hsz he hI hj=> ?_⟩
 have n5:y∈looks o:=NU (op:= .store t (.tmp s) (.tmp y)) (by simp [Op.operands]) ho
 have gr:Bs M w ((y,Ab (a.tmps.getD y undef) p)::E) o a:=fun c q hc hq=>by
  simp only [List.lookup] at hq
  by_cases hcs:c=y
  · subst hcs;simp only [beq_self_eq_true,Option.some.injEq] at hq;subst hq;exact ⟨rfl,he _ p n5 hy⟩
  · rw [show (c==y)=false by simpa using hcs] at hq;exact he c q hc hq
 have h:=(Jx (P:=P) (M0:=M0) (w0:=w0) (S:=S) (n:=n) (j:=j) (T:=T) (ps:=ps) (qs:=[Ab (a.tmps.getD y undef) p]) (E:=(y,Ab (a.tmps.getD y undef) p)::E) hg hd ho (by simp only [List.lookup];rw [show (s==y)=false by simpa using hsy];exact hx) (VL.le ⟨_,List.lookup_cons_self,Pr.le_refl _⟩ (AD _)) hz rfl hl).2 M w a rs hsz gr hI hj
 refine D3.conv (Pr.le_refl _) (fun v=> ?_) h
 rw [LG,hd];rfl
theorem BE.S4 {Q:Exit→Act→World→Prop} {rs:List SR} (s:Nat) {p:Pr} (hs:E.lookup s=some p) (k:∀v,BE n M0 w0 S ((s,Ab v p)::E) rs Q):BE n M0 w0 S E rs Q:=by
 rintro a w ⟨M,g1,g2,g3,g4⟩
 refine k (a.tmps.getD s undef) a w ⟨M,g1,g2,fun c z hz=> ?_,g4⟩
 simp only [List.lookup] at hz
 by_cases hcs:c=s
 · subst hcs;simp only [beq_self_eq_true,Option.some.injEq] at hz;subst hz;exact ⟨rfl,g3 c p hs⟩
 · rw [show (c==s)=false by simpa using hcs] at hz;exact g3 c z hz
theorem BE.fix {Q:Exit→Act→World→Prop} {rs:List SR} (j:Nat) {R:SR} (r:Ae) (hR:rs[j]? =some R) (hs:∀a:Act,(∃M w,D9 M w E a)→R.at_ a=r) (k:BE n M0 w0 S E (rs.set j (SR.c r)) Q):BE n M0 w0 S E rs Q:=by
 rintro a w ⟨M,g1,g2,g3,g4⟩
 refine k a w ⟨M,g1,g2,g3,?_⟩
 have e:=hs a ⟨M,w,g3⟩
 have e3:(rs.set j (SR.c r)).map (·.at_ a)=rs.map (·.at_ a):=by
  apply List.ext_getElem?
  intro m
  rw [List.getElem?_map,List.getElem?_map,List.getElem?_set]
  by_cases X6:j=m
  ·
   subst X6
   have hjl:j<rs.length:=by rcases Nat.lt_or_ge j rs.length with h|h;exact h;rw [List.getElem?_eq_none h] at hR;cases hR
   rw [if_pos rfl,if_pos hjl,hR]
   show some ((SR.c r).at_ a)=some (R.at_ a)
   rw [e];rfl
  · rw [if_neg X6]
 rw [e3];exact g4
theorem J_ {M:Av} {w:World} {a:Act} {s:Nat} {v:Value} {p:Pr} (h:D9 M w E a) (hs:E.lookup s=some (Ab v p)):a.tmps.getD s undef=v:=(h s _ hs).1
theorem BE.UN {Q:Exit→Act→World→Prop} {rs:List SR} (j s:Nat) {f:Value→Ae} {v:Value} {p:Pr} (hR:rs[j]? =some ⟨s,f⟩) (hs:E.lookup s=some (Ab v p)) (k:BE n M0 w0 S E (rs.set j (SR.c (f v))) Q):BE n M0 w0 S E rs Q:=
 BE.fix j _ hR (fun a ⟨_,_,h⟩=>by show f (a.tmps.getD s undef)=_;rw [J_ h hs]) k
theorem BE.Rd {Q:Exit→Act→World→Prop} {rs:List SR} (j d s:Nat) {f:Value→Value→Ae} {u v:Value} {p q:Pr} (hR:rs[j]? =some ⟨.two d s,Px f⟩) (hd:E.lookup d=some (Ab u p)) (hs:E.lookup s=some (Ab v q)) (k:BE n M0 w0 S E (rs.set j (SR.c (f v u))) Q):BE n M0 w0 S E rs Q:=
 BE.fix j _ hR (fun a ⟨_,_,h⟩=>by rw [LG,J_ h hs,J_ h hd]) k
theorem BE.rU {Q:Exit→Act→World→Prop} {rs:List SR} (j d s t:Nat) {f:Value→Value→Value→Ae} {u v1 v2:Value} {p q1 q2:Pr} (hR:rs[j]? =some ⟨.three d s t,XK f⟩) (hd:E.lookup d=some (Ab u p)) (hs:E.lookup s=some (Ab v1 q1)) (ht:E.lookup t=some (Ab v2 q2)) (k:BE n M0 w0 S E (rs.set j (SR.c (f v1 v2 u))) Q):BE n M0 w0 S E rs Q:=
 BE.fix j _ hR (fun a ⟨_,_,h⟩=>by rw [Rb,J_ h hs,J_ h ht,J_ h hd]) k
end
section
variable {P:Program} {L:Lg P} {n:Fm} {fz:Nat} {E:Env} {I:B6} {M0:Av} {w0:World} {S:Nat→Prop} {rs:List Ae} {Q:Exit→Act→World→Prop} {c:Code}
theorem Fin.shape {e:Exit} (s:Nat) {v:Value} (form:Nat→Value) (hs:E.lookup s=some (Ab v (Cp.ex fun b=>is (form b)))) (k:∀b,v=form b→Fin n ((s,is (form b))::E) (Hp M0 w0 S rs) Q e):Fin n E (Hp M0 w0 S rs) Q e:=by
 intro a w hst
 obtain ⟨M,h1,h2,he,h4⟩:=hst
 obtain ⟨h5,b,h6⟩:=he s _ hs
 have hv:v=form b:=by rw [←h5];exact h6
 refine k b hv a w ⟨M,h1,h2,fun c z hz=> ?_,h4⟩
 simp only [List.lookup] at hz
 by_cases hcs:c=s
 · subst hcs;simp only [beq_self_eq_true,Option.some.injEq] at hz;subst hz;exact h6
 · rw [show (c==s)=false by simpa using hcs] at hz;exact he c z hz
theorem Fin.Py {e:Exit} (j:Nat) {r:Ae} (r':Ae) (hi:rs[j]? =some r) (h:r=r') (k:Fin n E (Hp M0 w0 S (rs.set j r')) Q e):Fin n E (Hp M0 w0 S rs) Q e:=by
 subst h
 have hjl:j<rs.length:=by rcases Nat.lt_or_ge j rs.length with h|h;exact h;rw [List.getElem?_eq_none h] at hi;cases hi
 have e1:rs.set j r=rs:=by
  apply List.ext_getElem?
  intro m
  rw [List.getElem?_set]
  by_cases X6:j=m
  · subst X6;rw [if_pos rfl,if_pos hjl,hi]
  · rw [if_neg X6]
 rw [e1] at k;exact k
theorem Tr.l7 {α:Type} (ni:α→Fm) (Ei:α→Env) (Ii:α→B6) (C:α→Prop) (μ:α→Nat) (x0:α) (hn:ni x0=n) (h0:C x0) (hs:Bn E (Ei x0)) (hI:∀M w,I.h M w→(Ii x0).h M w)
  (k:∀x,C x→Tr L (ni x) (Ei x) (Ii x) c (Exit.then (fun a w=>∃y,(C y∧μ y<μ x)∧St (ni y) (Ei y) (Ii y) a w) Q)):Tr L n E I (.loop c) Q:=by
 intro a w hst
 refine L.loop μ (fun x a w=>C x∧St (ni x) (Ei x) (Ii x) a w) (fun x a w ⟨hc,h⟩=> ?_) x0 a w ⟨h0,?_⟩
 ·
  refine L.mono ?_ (k x hc a w h)
  intro e a w hq
  cases e with
  |normal=>obtain ⟨y,⟨h1,h2⟩,h3⟩:=hq;exact ⟨y,h2,h1,h3⟩
  |_=>exact hq
 · rw [hn];exact hst.sub hs hI
theorem Fin.XM {e:Exit} {rs':List Ae} (hp:rs.Perm rs') (k:Fin n E (Hp M0 w0 S rs') Q e):Fin n E (Hp M0 w0 S rs) Q e:=fun a w ⟨M,h1,h2,h3,h4⟩=>k a w ⟨M,h1,h2,h3,Al.perm hp h4⟩
theorem BJ.ofM {f : FuncId} {g : Func} {ps : List Pr} {res : Pr} {R : Ae} {R' : Value → Ae} (hf : P.funcs[f]? = some g) (hb : g.body = some c) (hname : (g.name == "runtime.NumGoroutine") = false) (hlen : ps.length ≤ g.ntmps)
  (h:∀M0 w0 S rs M1 w1,Tr (Rt P) g.ntmps (IC 0 ps) (Hp M0 w0 S (R::AZ M1 w1::rs)) c (Gl P g (LW M0 w0 S rs M1 w1 res R'))):BJ P f ps res R R':=by
 refine ⟨⟨g,hf,hname,by rw [hb];rfl⟩,fun M0 w0 S rs M w vs hI hv=> ?_⟩
 refine Kn hf hb (h M0 w0 S rs M w _ _ ⟨M,?_,rfl,EU hv,?_⟩)
 ·
  have:=hv.length
  simp [this];omega
 · exact Al.perm (List.Perm.swap _ _ _) (Al.Hj hI (r:=AZ M w) rfl (Ext.refl _ _))
end
section
variable {P:Program} {L:Lg P} {n:Fm} {fz:Nat} {E:Env} {I:B6} {M0:Av} {w0:World} {S:Nat→Prop} {rs:List Ae} {Q:Exit→Act→World→Prop} {c:Code}
abbrev Re (l D:Nat) (rec:Obj) (M1:Av) (w1:World) (rs:List Ae):List Ae:=Ak l rec::Ak D (.deferred (some []))::AZ M1 w1::rs
theorem Tr.fG {α:Type} {p gf:Nat} {g:Operand} {lb:Array Value} {enc:α→Value} {xs:List α} {own:List α→List Ae} {assign body:Code} (q:Nat) (K:Env) (hK:Bn E K) (R:List α→List Ae)
  (lp:MJ P gf lb enc xs own) (eg:Entry P gf) (hg:VL E g (is (.func (.func gf) #[] lb))) (lq:rs.Perm (own []++R [])) (hp:K.lookup p=none) (hpn:p<n.sz)
  (hassign:∀l D rec M1 w1 pre x,(pre++[x])<+:xs→Tr (Xx P (some l)) ⟨n.sz,[]⟩ ((p,is (enc x))::K) (Hp M0 w0 S (own (pre++[x])++Re l D rec M1 w1 (R pre))) assign (Exit.then (St ⟨n.sz,[]⟩ ((q,is (enc x))::K) (Hp M0 w0 S (own (pre++[x])++Re l D rec M1 w1 (R pre)))) (fun _ _ _=>False)))
  (hbody : ∀ l D rec M1 w1 pre x, (pre ++ [x]) <+: xs → Tr (Xx P (some l)) ⟨n.sz, []⟩ ((q, is (enc x)) :: K) (Hp M0 w0 S (own (pre ++ [x]) ++ Re l D rec M1 w1 (R pre))) body
   (LC M0 w0 S (fun _:Unit=>own (pre++[x])++Re l D rec M1 w1 (R (pre++[x]))) (fun _ _=>own (pre++[x])++Re l D rec M1 w1 [LF False])))
  (hdone:∀l D rec M1 w1,Fin ⟨n.sz,mark D::n.df⟩ E (Hp M0 w0 S (own xs++Re l D rec M1 w1 (R xs))) Q .normal):
  Tr (Rt P) n E (Hp M0 w0 S rs) (.rangeFunc g #[p] assign body) Q:=by
 refine Tr.eZ (fun x=>(q,is (enc x))::K) (fun pre (_:Unit)=>R pre) (fun _ _ _=>[LF False]) () lp (fun args w=>EA eg args w) hg lq ?_ ?_ (fun l D rec M1 w1 _=>hdone l D rec M1 w1) ?_
 ·
  intro l D rec M1 w1 pre x d hpre a hsz hE M w hI
  have hx:Ext M1 w1 M w:=(hI.hold (AZ M1 w1) (by simp)).1
  refine hassign l D rec M1 w1 pre x hpre _ w ⟨M,by simpa using hsz,rfl,fun s z hq=> ?_,hI⟩
  simp only [List.lookup] at hq
  by_cases hs:s=p
  ·
   subst hs
   simp only [beq_self_eq_true,Option.some.injEq] at hq
   subst hq
   show (a.tmps.setIfInBounds s (enc x)).getD s undef=enc x
   simp [Array.getD_eq_getD_getElem?,hsz,hpn]
  ·
   rw [show (s==p)=false by simpa using hs] at hq
   obtain ⟨z',GH,QS⟩:=hK.spec s z hq
   have h2:=z.st _ _ _ _ _ hx (QS _ _ _ (hE s z' GH))
   show z.h M w ((a.tmps.setIfInBounds p (enc x)).getD s undef)
   have e1:(a.tmps.setIfInBounds p (enc x)).getD s undef=a.tmps.getD s undef:=by
    simp only [Array.getD_eq_getD_getElem?]
    rw [Array.getElem?_setIfInBounds_ne (fun e=>hs e.symm)]
   rw [e1];exact h2
 ·
  intro l D rec M1 w1 pre x d hpre
  exact hbody l D rec M1 w1 pre x hpre
 ·
  intro l D rec M1 w1 c pre d hpre a w ⟨M,_,_,_,h⟩
  have h:Al M0 w0 S (own pre++Re l D rec M1 w1 [LF False]) M w:=h
  exact ((h.hold (LF False) (by simp)).1).elim
theorem Fin.st {E1:Env} {Q':Exit→Act→World→Prop} (hs:Bn E E1):Fin n E I (Exit.then (St n E1 I) Q') .normal:=fun _ _ h=>h.sub hs (fun _ _ h=>h)
theorem Fin.rnd {β:Type} {rr:β→List Ae} {rx:Code→β→List Ae} (d:β) (hp:rs.Perm (rr d)):Fin n E (Hp M0 w0 S rs) (LC M0 w0 S rr rx) .normal:=fun _ _ ⟨M,_,_,_,h⟩=>⟨d,M,Al.perm hp h⟩
theorem Tr.fH {α β:Type} (K:Env) (hK:Bn E K) (ni:α→β→Fm) (Ei:α→β→Env) (Ii:α→β→B6) (C:α→β→Prop) (μ:α→β→Nat) (x0:α) (y0:β) (hn:ni x0 y0=n) (h0:C x0 y0) (hs:Bn E (Ei x0 y0)) (hI:∀M w,I.h M w→(Ii x0 y0).h M w)
  (k:∀x y,C x y→Tr L (ni x y) (Ei x y++K) (Ii x y) c (Exit.then (fun a w=>∃x' y',(C x' y'∧μ x' y'<μ x y)∧St (ni x' y') (Ei x' y'++K) (Ii x' y') a w) Q)):Tr L n E I (.loop c) Q:=
 Tr.l7 (fun p : α × β => ni p.1 p.2) (fun p => Ei p.1 p.2 ++ K) (fun p => Ii p.1 p.2) (fun p => C p.1 p.2) (fun p => μ p.1 p.2) (x0, y0) hn h0 (I3 hs hK) hI
  fun ⟨x,y⟩ hC a w hst=>L.mono (fun e a w hq=>by
   cases e with
   |normal=>obtain ⟨x',y',h1,h2⟩:=hq;exact ⟨(x',y'),h1,h2⟩
   |_=>exact hq) (k x y hC a w hst)
theorem Fin.l9 {α β:Type} {ni:α→β→Fm} {E1:α→β→Env} {I1:α→β→B6} {C:α→β→Prop} (i:α) (j:β) (hn:ni i j=n) (hC:C i j) (hs:Bn E (E1 i j)) (hI:∀M w,I.h M w→(I1 i j).h M w):Fin n E I (Exit.then (fun a w=>∃x y,C x y∧St (ni x y) (E1 x y) (I1 x y) a w) Q) .normal:=
 fun _ _ hst=>⟨i,j,hC,by rw [hn];exact hst.sub hs hI⟩
end
section
variable {P:Program} {fz:Nat} {E:Env} {M0 M1:Av} {w0 w1:World} {S:Nat→Prop} {g:Func} {α β:Type} {xs:List α} {own:List α→List Ae} {R Rx:List α→β→List Ae}
theorem Fin.l_ {d:β} (hr:g.results= #[]):Fin ⟨fz,[]⟩ E (Hp M0 w0 S (own xs++AZ M1 w1::R xs d)) (Gl P g fun e w'=>(∃v,e= .returned v)∧∃M' d',Ext M1 w1 M' w'∧(Al M0 w0 S (own xs++R xs d') M' w'∨∃pre,pre<+:xs∧Al M0 w0 S (own pre++Rx pre d') M' w')) .normal:=by
 refine Fin.fA (Fin.XE ?_)
 rintro a w ⟨M,_,hd,he,hi⟩
 obtain ⟨h1,h2⟩:=VV hi
 exact ⟨hd,_,results0 hr,⟨_,rfl⟩,M,d,h1,.inl h2⟩
theorem Fin.fI {d:β} {pre:List α} (hr:g.results= #[]) (hp:pre<+:xs):Fin ⟨fz,[]⟩ E (Hp M0 w0 S (own pre++AZ M1 w1::Rx pre d)) (Gl P g fun e w'=>(∃v,e= .returned v)∧∃M' d',Ext M1 w1 M' w'∧(Al M0 w0 S (own xs++R xs d') M' w'∨∃pre,pre<+:xs∧Al M0 w0 S (own pre++Rx pre d') M' w')) .ret:=by
 refine Fin.XE ?_
 rintro a w ⟨M,_,hd,he,hi⟩
 obtain ⟨h1,h2⟩:=VV hi
 exact ⟨hd,_,results0 hr,⟨_,rfl⟩,M,d,h1,.inr ⟨pre,hp,h2⟩⟩
theorem BJ.fJ {f:FuncId} {args:List Pr} {form:Nat→Value} {r':Value→Ae} (h:JH P f args [] (fun _=>True) (fun b=>is (form b)) (fun b=>[r' (form b)])):BJ P f args (Cp.ex fun b=>is (form b)) BC r':=by
 refine ⟨h.1,fun M0 w0 S rs M w vs hI hv=>(h.2 M0 w0 S rs M w vs (Al.I8 hI) hv).mono ?_⟩
 rintro e w' ⟨v,M',b,rfl,_,h1,h2,h3⟩
 obtain rfl:v=form b:=h1
 exact ⟨_,M',rfl,⟨b,rfl⟩,h2,h3⟩
end
end Cp
namespace Go.Proofs.YtppdobdifkefcaaGreatDoor
open Go Go.RowKit Cp Go.Proofs.Tryz
theorem OL {b:BitVec 32} {i:Nat}  :A9 prog 77 [u32 b,int ((i:Nat):Int)] (bool (b.getLsbD i)):=by
 refine fo func77 rfl ⟨rfl,rfl⟩ fun M0 w0=> ?_
 refine a2 ?_
 refine co rfl (W8 rfl (vl rfl) (vl rfl) (Int.natCast_nonneg _)) ?_
 refine co rfl (Po (c:=1#32) rfl (vl rfl) (vl rfl)) ?_
 refine co rfl (fD rfl (vl rfl) (vl rfl)) ?_
 refine a2 ?_
 · exact Lr
abbrev NV:TypeId:=118
abbrev fK (b:Nat):Value:= .func (.func 131) #[] #[.pointer (some ⟨b,0,none⟩)]
def rV (s:BitVec 32) (v:Value):Ae:=match v with| .func _ _ #[.pointer (some a)]=>AB true a.block NV [u32 s]|_=>BC
def GZ (s:BitVec 32) (pre:List Nat):BitVec 32:=pre.foldl UK s
theorem KA (s:BitVec 32) (pre:List Nat) (x:Nat):GZ s (pre++[x])=UK (GZ s pre) x:=by unfold GZ;rw [List.foldl_append];rfl
theorem fL {s:BitVec 32}  :JH (α:=Nat) prog 106 [u32 s] [] (fun _=>True) (fun b=>is (fK b)) (fun b=>[AB true b NV [u32 s]]):=by
 refine JH.of func106 rfl rfl (by exact Nb rfl) fun M0 w0 S rs M1 w1=>(Tr.seq (Tr.As ?_))
 refine TO.Od rfl rfl (by decide) rfl (Vo rfl) (fun b1=> ?_)
 refine ap ?_
 refine Tr.seq (Tr.Ao (co rfl (Zt rfl (vl rfl)) ?_))
 refine ac ?_
 refine Tr.ret (Fin.jX (b1) rfl (BK.tmp rfl (Lr)) trivial ?_ (List.Perm.refl _))
 · exact Lr
theorem mA {s:BitVec 32}:BJ Tryz.prog 106 [u32 s] (Cp.ex fun b=>is (fK b)) BC (rV s):=BJ.fJ fL
theorem Zv {s:BitVec 32} {b:Nat}  :MJ prog 131 #[.pointer (some ⟨b,0,none⟩)] (fun i:Nat=> .int .i64 (i:Int)) (Mh s) (fun pre=>[ER,AB true b NV [u32 (GZ s pre)]]):=by
 refine MJ.of (ps:=[is (.pointer (some ⟨b,0,none⟩))]) func131 rfl (by exact Nb rfl) (fun _ _=>⟨rfl,trivial⟩) ?_
 intro M0 w0 S l β R Rx M1 w1 hy d
 refine Tr.block (Tr.Gy [(0,_),(1,_)] ⟨ke rfl,ke rfl,trivial⟩ (fun (pre:List Nat) (d2:β)=>[]) (fun (pre:List Nat) (d2:β)=>Hp M0 w0 S (ER::AB true b NV [u32 (GZ s pre)]::AZ M1 w1::R pre d2)) (fun (pre:List Nat) (d2:β)=>pre++Mh (GZ s pre)=Mh s) (fun (pre:List Nat) (d2:β)=>(Mh (GZ s pre)).length) ([]) (d)  (rfl) trivial (fun _ _ h=>h) ?_)
 rintro pre d2  n7
 refine Tr.seq (Tr.seq (Tr.Ao (co rfl (CT 1 rfl (Aj rfl Fl (vl rfl) rfl)) (co rfl (fC rfl (vl rfl) (vl rfl)) (Ch.nil (Fin.go ?_))))))
 refine Tr.cn rfl ?_ ?_<;>intro h1 q1
 have hne:GZ s pre≠0#32:=by simpa using h1
 have XN:=Ja hne
 have hll:=RV hne
 have hpx:(pre++[Ej (GZ s pre)])<+:Mh s:=⟨Mh (UK (GZ s pre) (Ej (GZ s pre))),by rw [←n7,XN];simp⟩
 refine Tr.skip (Fin.go (Tr.block (Tr.seq (Tr.As (TO.rd 1 rfl rfl rfl (by decide) (Aj rfl Fl (vl rfl) rfl) (TO.Hu 0 rfl rfl (by decide) (Ag rfl rfl (by decide) rfl (XI hne) ⟨ke rfl,trivial⟩) (tm rfl (TO.nil (Fin.go (Tr.seq (Tr.Hh mixed [some (0,1,false,0),none,none,none,some (0,1,true,0)] (by kernel_rfl) (GL 1 rfl rfl (Aj rfl Fl (vl rfl) rfl) (xm rfl ?_)))))))))))))
 refine xo rfl (fun _=>HK (b:=1#32) rfl (vl rfl) (vl rfl) (Int.natCast_nonneg _)) ?_
 refine xo rfl (fun _=>Kl rfl (vl rfl) (vl rfl)) (Cx.Ew 1 rfl rfl (BP rfl rfl (vl rfl) (Vo rfl) Ee rfl (by exact Nb rfl) rfl) ?_)
 refine Cx.nil ⟨rfl,?_⟩
 refine BE.done (An.cons (An.cons (An.cons (An.map _)))) (Fin.go (Tr.seq ?_))
 refine Tr.Iw 1 [u32 (GZ s (pre++[Ej (GZ s pre)]))] rfl ⟨Pr.le_of_eq (by rw [KA];rfl),trivial⟩ ?_
 refine Tr.XJ (own:=fun pre=>[ER,AB true b NV [u32 (GZ s pre)]]) (pre:=pre) (x:=Ej (GZ s pre)) (d:=d2) hy hpx rfl rfl rfl rfl rfl rfl rfl rfl rfl rfl rfl rfl (by exact Nb rfl) (by exact Nb rfl) (by exact Nb rfl) (by exact Nb rfl) (by decide) rfl rfl rfl rfl rfl (fun d3=> ?_) (fun d3=> ?_)
 refine Fin.go (Tr.cond rfl (fun h=>nomatch h) (fun _=> ?_))
 refine Tr.skip (Fin.block ?_)
 exact Fin.JC (pre++[Ej (GZ s pre)]) (d3)  (⟨by rw [KA,List.append_assoc,←n7,XN];rfl,by rw [KA,XN];simp⟩) ⟨ke rfl,ke rfl,trivial⟩ (fun _ _ h=>h)
 refine Fin.go (Tr.cond rfl (fun _=> ?_) (fun h=>nomatch h))
 refine Tr.ret (Fin.Ah (Fin.AH (Fin.Ah (Fin.fI (g:=f131) (own:=fun pre=>[ER,AB true b NV [u32 (GZ s pre)]]) (R:=R) (Rx:=Rx) (d:=d3) rfl hpx))))
 have hz:GZ s pre=0#32:=by simpa using h1
 obtain rfl:pre=Mh s:=by rw [hz,Pt,List.append_nil] at n7;exact n7
 refine Tr.exit (Fin.Ac (Fin.Ac (Fin.Az (Fin.l_ (g:=f131) (own:=fun pre=>[ER,AB true b NV [u32 (GZ s pre)]]) (xs:=Mh s) (R:=R) (Rx:=Rx) (d:=d2) rfl))))
theorem Zw:Entry Tryz.prog 131:=⟨_,Tryz.func131,rfl,rfl⟩
end Go.Proofs.YtppdobdifkefcaaGreatDoor
