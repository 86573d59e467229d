/-
  Part 6 of the texts that prove this claim, merged.
-/
import Derived.Test.YtkobgkelhcigdaaGreatDoorPnIP5
set_option linter.all false
set_option maxRecDepth 40000
set_option maxHeartbeats 16000000
namespace Go.Proofs.YtkobgkelhcigdaaGreatDoor
open Go Go.RowKit Cp Go.Proofs.Tryz
theorem Sc {b:BitVec 32} {i:Nat}  :BA prog 65 [u32 b,int ((i:Nat):Int)] (bool (b.getLsbD i)):=by
 refine fo func65 rfl ⟨rfl,rfl⟩ fun M0 w0=> ?_
 refine a2 ?_
 refine co rfl (eJ rfl (vl rfl) (vl rfl) (Int.natCast_nonneg _)) ?_
 refine co rfl (UB (c:=1#32) rfl (vl rfl) (vl rfl)) ?_
 refine co rfl (qi rfl (vl rfl) (vl rfl)) ?_
 refine a2 ?_
 · exact Lr
abbrev P6:TypeId:=153
abbrev eZ (b:Nat):Value:= .func (.func 116) #[] #[.pointer (some ⟨b,0,none⟩)]
def AAx (s:BitVec 32) (v:Value):Ao:=match v with| .func _ _ #[.pointer (some a)]=>AB true a.block P6 [u32 s]|_=>Bp
def IM (s:BitVec 32) (pre:List Nat):BitVec 32:=pre.foldl Y7 s
theorem Ma (s:BitVec 32) (pre:List Nat) (x:Nat):IM s (pre++[x])=Y7 (IM s pre) x:=by unfold IM;rw [List.foldl_append];rfl
theorem qv {s:BitVec 32}  :HV (α:=Nat) prog 94 [u32 s] [] (fun _=>True) (fun b=>is (eZ b)) (fun b=>[AB true b P6 [u32 s]]):=by
 refine HV.of func94 rfl rfl (by exact Nb rfl) fun M0 w0 S rs M1 w1=>(Tr.seq (Tr.An ?_))
 refine TO.aH rfl rfl (by decide) rfl (Vo rfl) (fun b1=> ?_)
 refine ap ?_
 refine Tr.seq (Tr.Ah (co rfl (kV rfl (vl rfl)) ?_))
 refine ac ?_
 refine Tr.ret (Fin.mX (b1) rfl (AO.tmp rfl (Lr)) trivial ?_ (List.Perm.refl _))
 · exact Lr
theorem ec {s:BitVec 32}:CX Tryz.prog 94 [u32 s] (Cp.ex fun b=>is (eZ b)) Bp (AAx s):=CX.qu qv
theorem Sd {s:BitVec 32} {b:Nat}  :Lj prog 116 #[.pointer (some ⟨b,0,none⟩)] (fun i:Nat=> .int .i64 (i:Int)) (K1 s) (fun pre=>[FC,AB true b P6 [u32 (IM s pre)]]):=by
 refine Lj.of (ps:=[is (.pointer (some ⟨b,0,none⟩))]) func116 rfl (by exact Nb rfl) (fun _ _=>⟨rfl,trivial⟩) ?_
 intro M0 w0 S l β R Rx M1 w1 hy d
 refine Tr.block (Tr.Cy [(0,_),(1,_)] ⟨ke rfl,ke rfl,trivial⟩ (fun (pre:List Nat) (d2:β)=>[]) (fun (pre:List Nat) (d2:β)=>Hp M0 w0 S (FC::AB true b P6 [u32 (IM s pre)]::Aj M1 w1::R pre d2)) (fun (pre:List Nat) (d2:β)=>pre++K1 (IM s pre)=K1 s) (fun (pre:List Nat) (d2:β)=>(K1 (IM s pre)).length) ([]) (d)  (rfl) trivial (fun _ _ h=>h) ?_)
 rintro pre d2  hpe
 refine Tr.seq (Tr.seq (Tr.Ah (co rfl (DK 1 rfl (A_ rfl Fa (vl rfl) rfl)) (co rfl (eS rfl (vl rfl) (vl rfl)) (Ch.nil (Fin.go ?_))))))
 refine Tr.cn rfl ?_ ?_<;>intro h1 q1
 have hne:IM s pre≠0#32:=by simpa using h1
 have ej:=PM hne
 have Yk:=Vy hne
 have hpx:(pre++[Ir (IM s pre)])<+:K1 s:=⟨K1 (Y7 (IM s pre) (Ir (IM s pre))),by rw [←hpe,ej];simp⟩
 refine Tr.skip (Fin.go (Tr.block (Tr.seq (Tr.An (TO.rd 1 rfl rfl rfl (by decide) (A_ rfl Fa (vl rfl) rfl) (TO.Jc 0 rfl rfl (by decide) (As rfl rfl (by decide) rfl (qj hne) ⟨ke rfl,trivial⟩) (tm rfl (TO.nil (Fin.go (Tr.seq (Tr.F4 mixed [some (0,1,false,0),none,none,none,some (0,1,true,0)] (by kernel_rfl) (Iw 1 rfl rfl (A_ rfl Fa (vl rfl) rfl) (xm rfl ?_)))))))))))))
 refine xo rfl (fun _=>JN (b:=1#32) rfl (vl rfl) (vl rfl) (Int.natCast_nonneg _)) ?_
 refine xo rfl (fun _=>JO rfl (vl rfl) (vl rfl)) (Cx.Dz 1 rfl rfl (A0 rfl rfl (vl rfl) (Vo rfl) FK rfl (by exact Nb rfl) rfl) ?_)
 refine Cx.nil ⟨rfl,?_⟩
 refine BH.done (Ar.cons (Ar.cons (Ar.cons (Ar.map _)))) (Fin.go (Tr.seq ?_))
 refine Tr.Hl 1 [u32 (IM s (pre++[Ir (IM s pre)]))] rfl ⟨Pr.le_of_eq (by rw [Ma];rfl),trivial⟩ ?_
 refine Tr.eV (own:=fun pre=>[FC,AB true b P6 [u32 (IM s pre)]]) (pre:=pre) (x:=Ir (IM s pre)) (d:=d2) hy hpx rfl rfl rfl rfl rfl rfl rfl rfl rfl rfl rfl rfl (by exact Nb rfl) (by exact Nb rfl) (by exact Nb rfl) (by exact Nb rfl) (by decide) rfl rfl rfl rfl rfl (fun d3=> ?_) (fun d3=> ?_)
 refine Fin.go (Tr.cond rfl (fun h=>nomatch h) (fun _=> ?_))
 refine Tr.skip (Fin.block ?_)
 exact Fin.C5 (pre++[Ir (IM s pre)]) (d3)  (⟨by rw [Ma,List.append_assoc,←hpe,ej];rfl,by rw [Ma,ej];simp⟩) ⟨ke rfl,ke rfl,trivial⟩ (fun _ _ h=>h)
 refine Fin.go (Tr.cond rfl (fun _=> ?_) (fun h=>nomatch h))
 refine Tr.ret (Fin.AX (Fin.AD (Fin.AX (Fin.qt (g:=f116) (own:=fun pre=>[FC,AB true b P6 [u32 (IM s pre)]]) (R:=R) (Rx:=Rx) (d:=d3) rfl hpx))))
 have hz:IM s pre=0#32:=by simpa using h1
 obtain rfl:pre=K1 s:=by rw [hz,eK,List.append_nil] at hpe;exact hpe
 refine Tr.exit (Fin.Ad (Fin.Ad (Fin.Ax (Fin.wh (g:=f116) (own:=fun pre=>[FC,AB true b P6 [u32 (IM s pre)]]) (xs:=K1 s) (R:=R) (Rx:=Rx) (d:=d2) rfl))))
theorem Se:Entry Tryz.prog 116:=⟨_,Tryz.func116,rfl,rfl⟩
-- bits as AB9 are wj (behind AB_.lean)
def nD (p:Nat→Bool):Nat→BitVec 32
 |0=>0#32
 |k+1=>if p k then Vv (nD p k) k else nD p k
theorem V3 (p:Nat→Bool):∀(k:Nat) {j:Nat},k≤32→(nD p k).getLsbD j=(decide (j<k)&&p j)
 |0,j,_=>by simp [nD]
 |k+1,j,hk=>by
  have ih:= @V3 p k j (by omega)
  unfold nD
  split
  next h=>
   rw [Vx (by omega),ih]
   by_cases hj:k=j
   · subst hj;simp [h]
   ·
    by_cases h2:j<k
    ·
     have:j<k+1:=by omega
     simp [h2,this,hj]
    ·
     have:¬j<k+1:=by omega
     simp [h2,this,hj]
  next h=>
   rw [ih]
   by_cases hj:k=j
   · subst hj;simp at h;simp [h]
   ·
    by_cases h2:j<k
    ·
     have:j<k+1:=by omega
     simp [h2,this]
    ·
     have:¬j<k+1:=by omega
     simp [h2,this]
def EW (n:Nat) (l:List BG):List (BitVec 32):=(List.range n).map fun b=>nD (fun a=>Cn l n a b) n
theorem Co (n:Nat) (l:List BG):(EW n l).length=n:=by unfold EW;simp
theorem Fj {n:Nat} {l:List BG} (hn:n≤32):ES n (EW n l) (Cn l n):=by
 refine ⟨Co n l,fun b x hx a=> ?_⟩
 unfold EW at hx
 rw [List.getElem?_map] at hx
 rcases Nat.lt_or_ge b n with hb|hb
 ·
  rw [List.getElem?_range hb] at hx
  simp only [Option.map_some,Option.some.injEq] at hx
  subst hx
  exact V3 _ n hn
 · rw [List.getElem?_eq_none (by simpa using hb)] at hx;cases hx
theorem V4 {n:Nat} {B C:List (BitVec 32)} {M:Nat→Nat→Bool} (h:ES n B M) (h':ES n C M):B=C:=by
 apply List.ext_getElem?
 intro b
 rcases Nat.lt_or_ge b n with hb|hb
 ·
  obtain ⟨x,hx⟩:=at_ (l:=B) (k:=b) (by rw [h.1];exact hb)
  obtain ⟨y,hy⟩:=at_ (l:=C) (k:=b) (by rw [h'.1];exact hb)
  rw [hx,hy]
  congr 1
  exact BitVec.eq_of_getLsbD_eq fun i _=>by rw [h.2 b x hx,h'.2 b y hy]
 · rw [List.getElem?_eq_none (by rw [h.1];exact hb),List.getElem?_eq_none (by rw [h'.1];exact hb)]
theorem Y_ {l:List BG} {k:Nat} {r:BG} (h:l[k]? =some r) (a b:Nat):F1 (l.take (k+1)) a b=(F1 (l.take k) a b||(decide (r.fst=(a:Int))&&decide (r.thn=(b:Int)))):=by
 unfold F1;rw [List.take_add_one,h,List.any_append];simp
theorem V5 {n:Nat} {B:List (BitVec 32)} {l:List BG} {k:Nat} {r:BG} {x:BitVec 32} (h:ES n B (F1 (l.take k))) (hr:l[k]? =some r) (hf:0≤r.fst∧r.fst<n) (ht:0≤r.thn) (hx:B[r.thn.toNat]? =some x) (hn:n≤32):ES n (B.set r.thn.toNat (Vv x r.fst.toNat)) (F1 (l.take (k+1))):=by
 refine Ln (eM h hx (f:=r.fst.toNat) (by omega) hn) fun a b _ _=> ?_
 rw [Y_ hr]
 congr 1
 rw [decide_eq_decide.2 (show r.fst.toNat=a↔r.fst=(a:Int) by omega),decide_eq_decide.2 (show r.thn.toNat=b↔r.thn=(b:Int) by omega)]
def Ij (i:Nat) (A:List (BitVec 32)) (k:Nat):List (BitVec 32):=A.set k (Vv (A.getD k 0#32) i)
def J6 (B:List (BitVec 32)):Nat→List (BitVec 32)
 |0=>List.replicate B.length 0#32
 |i+1=>(K1 (B.getD i 0#32)).foldl (Ij i) (J6 B i)
theorem Mb (i:Nat):∀(ks:List Nat) (A:List (BitVec 32)),(ks.foldl (Ij i) A).length=A.length
 |[],_=>rfl
 |k::ks,A=>by rw [List.foldl_cons,Mb i ks];unfold Ij;rw [List.length_set]
theorem Hh (B:List (BitVec 32)):∀i,(J6 B i).length=B.length
 |0=>List.length_replicate
 |i+1=>by unfold J6;rw [Mb,Hh B i]
theorem ZA {B:List (BitVec 32)} {i:Nat} {x:BitVec 32} (h:B[i]? =some x):J6 B (i+1)=(K1 x).foldl (Ij i) (J6 B i):=by
 rw [J6,List.getD_eq_getElem?_getD,h];rfl
def Kt (B:List (BitVec 32)) (s:BitVec 32):Nat→BitVec 32
 |0=>0#32
 |k+1=>if (!s.getLsbD k&&(B.getD k 0#32&&&~~~s==0#32))=true then Vv (Kt B s k) k else Kt B s k
theorem eo {B:List (BitVec 32)} {s x:BitVec 32} {k:Nat} (hx:B[k]? =some x) (h1:s.getLsbD k=false) (h2:(x&&&~~~s==0#32)=true):Kt B s (k+1)=Vv (Kt B s k) k:=by
 rw [Kt,List.getD_eq_getElem?_getD,hx,if_pos];rw [h1];simpa using h2
theorem kY {B:List (BitVec 32)} {s x:BitVec 32} {k:Nat} (hx:B[k]? =some x) (h:s.getLsbD k=true∨(x&&&~~~s==0#32)=false):Kt B s (k+1)=Kt B s k:=by
 rw [Kt,List.getD_eq_getElem?_getD,hx,if_neg]
 intro hc
 rw [Bool.and_eq_true] at hc
 rcases h with h|h
 · rw [h] at hc;cases hc.1
 · have:=hc.2;rw [show (some x).getD 0#32=x from rfl,h] at this;cases this
theorem eu (B:List (BitVec 32)) (s:BitVec 32):∀k,Kt B s k=nD (fun j=> !s.getLsbD j&&(B.getD j 0#32&&&~~~s==0#32)) k
 |0=>rfl
 |k+1=>by unfold Kt nD;rw [eu B s k]
theorem kZ {n:Int} {l:List BG} {s:BitVec 32} {d:List Int} (hv:BC n l=0) (hs:PN n.toNat s d) (hc:CW l d=true) (j:Nat):(Kt (EW n.toNat l) s n.toNat).getLsbD j=(decide (j<n.toNat)&&Kq l d true j):=by
 obtain ⟨h0,_⟩:=C3 hv
 rw [eu,V3 _ _ (by omega)]
 by_cases hj:j<n.toNat
 ·
  obtain ⟨x,hx⟩:=at_ (l:=EW n.toNat l) (k:=j) (by rw [Co];exact hj)
  rw [kQ hv (Fj (by omega)) hs hc hx hj,List.getD_eq_getElem?_getD,hx];rfl
 · simp [hj]
abbrev bits (B:List (BitVec 32)):Pr:=slice 1 (B.map fun x=>[u32 x])
def qw (a b:BG):Int:=orF [VG a.fst b.fst,VG a.thn b.thn]
theorem Sf {a b:BG}:decide (qw a b≥0)= !Ed a b:=by
 unfold qw Ed
 rw [Bool.eq_iff_iff,decide_eq_true_eq]
 simp only [orF,VG]
 repeat' split
 all_goals (simp;try omega)
theorem Ju {B:List (BitVec 32)} {i:Int} {x:BitVec 32} (h:B[i.toNat]? =some x):(B.map fun x=>u32 x)[0+i.toNat*1]? =some (u32 x):=by rw [Nat.zero_add,Nat.mul_one,List.getElem?_map,h];rfl
theorem PR {B:List (BitVec 32)} {i:Int} {x y:BitVec 32} (h:B[i.toNat]? =some x):(B.map fun x=>u32 x).take (0+i.toNat*1)++[u32 y]++(B.map fun x=>u32 x).drop (0+i.toNat*1+1)=(B.set i.toNat y).map fun x=>u32 x:=by
 have hl:i.toNat<B.length:=by rcases Nat.lt_or_ge i.toNat B.length with h2|h2;exact h2;rw [List.getElem?_eq_none h2] at h;cases h
 rw [Nat.zero_add,Nat.mul_one,List.set_eq_take_append_cons_drop,if_pos hl]
 simp [List.map_take,List.map_drop]
theorem RG (B:List (BitVec 32)):(B.map fun x=>u32 x)=(B.map fun x=>[u32 x]).flatten++([]:List Value).map is:=by
 induction B with
 |nil=>rfl
 |cons x B ih=>simp at ih ⊢;exact ih
theorem RH (n:Nat):(List.replicate n (Value.int .u32 0)).map is=(List.replicate n 0#32).map fun x=>u32 x:=by rw [List.map_replicate,List.map_replicate];rfl
theorem PT {B:List (BitVec 32)} {i:Nat} {x:BitVec 32} (h:B[i]? =some x):(B.map fun x=>[u32 x])[((i:Nat):Int).toNat]? =some [u32 x]:=by rw [Int.toNat_natCast,List.getElem?_map,h];rfl
theorem ZB {i k:Nat} {pre:List Nat} {A:List (BitVec 32)} {y:BitVec 32} (h:(pre.foldl (Ij i) A)[k]? =some y):(pre.foldl (Ij i) A).set k (Vv y i)=(pre++[k]).foldl (Ij i) A:=by
 rw [List.foldl_append]
 show _=(pre.foldl (Ij i) A).set k (Vv ((pre.foldl (Ij i) A).getD k 0#32) i)
 rw [List.getD_eq_getElem?_getD,h];rfl
theorem qx {n:Nat} {r:BG} (h:Dy n r=false):(0≤r.fst∧r.fst<n)∧(0≤r.thn∧r.thn<n)∧r.fst≠r.thn:=by
 unfold Dy at h;rw [decide_eq_false_iff_not] at h;omega
theorem qy {ps qs:List Pr} (h:OL ps qs):Pr.le (ref ps) (ref qs):=fun M w v ⟨a,h1,h2⟩=>⟨a,h1,fun i q hq=>by
 obtain ⟨p,hp,hle⟩:=h.at_ i q hq
 obtain ⟨u,g1,g2⟩:=h2 i p hp
 exact ⟨u,g1,g2.1,g2.2.1,hle _ _ _ g2.2.2⟩⟩
theorem ew {xs pre:List Nat} {x:Nat} (h:(pre++[x])<+:xs):x∈xs:=h.subset (by simp)
theorem V6 {a b:BG}  :BA prog 92 [agg (Sa a),agg (Sa b)] (int (qw a b)):=by
 refine fo func92 rfl ⟨rfl,rfl⟩ fun M0 w0=> ?_
 refine a2 ?_
 refine co rfl (CF (bu) rfl rfl rfl) ?_
 refine ac ?_
 refine co rfl (CF (bu) rfl rfl rfl) (co rfl (AM (xs:=[.tmp 9,.tmp 14]) (rows:=[[_],[_]]) rfl rfl underlying22 B4 z3 rfl (by decide) ⟨⟨(by exact rfl),(Vo rfl)⟩,⟨⟨(by exact rfl),(Vo rfl)⟩,trivial⟩⟩ (by decide)) ?_)
 refine co rfl (AR rfl (vi (l:=[VG a.fst b.fst,VG a.thn b.thn])) ⟨(Kf rfl),trivial⟩) ?_
 refine ac ?_
 refine FX 4 rfl ?_
 refine ac ?_
 · exact Lr
theorem ZC {n:Nat} {l:List BG} (hn:n≤24) (hbd:∀r∈l,Dy n r=false):CX Tryz.prog 93 [int ((n:Nat):Int),reqs l] (ref [int ((n:Nat):Int),bits (EW n l),bits (J6 (EW n l) n)]) (FC) (fun _=>FC):=by
 refine CX.ofM Tryz.func93 rfl rfl (by exact Nat.le_of_ble_eq_true rfl) fun M0 w0 S rs M1 w1=> ?_
 refine Tr.Cv 1 rfl fun GV=> ?_
 refine Tr.seq ?_
 refine Tr.Ah ?_
 refine Ch.op rfl rfl (by decide) (DB rfl (vl rfl)) ?_
 refine Ch.nil ?_
 refine Fin.go ?_
 refine Tr.seq ?_
 refine Tr.pad ?_
 refine Tr.pad ?_
 refine Tr.pad ?_
 refine Tr.pad ?_
 refine Tr.F4 mixed [none,none,some (0,0,true,14),none,some (0,1,true,16),some (0,2,true,.three 17 14 16),some (.three 17 14 16,2,true,.three 18 14 16),some (0,3,true,5),some (5,3,true,.two 5 18)] (by kernel_rfl) ?_
 refine Cx.op rfl rfl (by decide) (fun _=>BM rfl (vl rfl)) ?_
 refine Cx.op rfl rfl (by decide) (fun _=>BM rfl (vl rfl)) ?_
 refine Cx.ef 0 rfl rfl (by decide) (eY rfl rfl (by decide) rfl Tryz.underlying158 FK mN uB rfl (vl rfl) (vl rfl) (by unfold maxLen;omega) (by omega)) ?_
 refine Cx.op rfl rfl (by decide) (fun _=>BM rfl (vl rfl)) ?_
 refine Cx.ef 1 rfl rfl (by decide) (eY rfl rfl (by decide) rfl Tryz.underlying158 FK mN uB rfl (vl rfl) (vl rfl) (by unfold maxLen;omega) (by omega)) ?_
 refine Cx.ef 2 rfl rfl (by decide) (qm (d:=17) (s:=14) (t:=16) (q:=any) rfl (by decide) (by decide) (fun _ _ _ _ _ _=>trivial) rfl rfl rfl (by decide) (by decide) (fun v1 v2=>eX rfl rfl (by decide) (fun _=>Al (rows:=[(0,[_]),(1,[_]),(2,[_])]) rfl uC uD ⟨⟨rfl,VL.le (vl rfl) (Ae _)⟩,⟨⟨rfl,VL.le (vl rfl) (Ae _)⟩,⟨⟨rfl,VL.le (vl rfl) (Ae _)⟩,trivial⟩⟩⟩ rfl))) ?_
 refine Cx.ef 2 rfl rfl (by decide) (kX rfl rfl (by decide) rfl (by decide) (by decide)) ?_
 refine Cx.ef 3 rfl rfl (by decide) (Ca rfl rfl (by decide) rfl zK tu) ?_
 refine Cx.Dz 3 rfl rfl (Y9 rfl rfl rfl (by decide) rfl rfl tr rfl) ?_
 refine Cx.nil ⟨rfl,?_⟩
 refine BH.pin 14 rfl (fun v14=> ?_)
 refine BH.pin 16 rfl (fun v16=> ?_)
 refine BH.pin 18 rfl (fun v18=> ?_)
 refine BH.pin 5 rfl (fun v5=> ?_)
 refine BH.qn 0 14 rfl rfl ?_
 refine BH.qn 1 16 rfl rfl ?_
 refine BH.AAw 2 18 14 16 rfl rfl rfl rfl ?_
 refine BH.qo 3 5 18 rfl rfl rfl ?_
 refine BH.done (Ar.cons (Ar.cons (Ar.cons (Ar.cons (Ar.cons (Ar.cons (Ar.map _))))))) ?_
 refine Fin.shape 14 (fun b=>Im n b) rfl (fun b1 e1=> ?_)
 refine Fin.shape 16 (fun b=>Im n b) rfl (fun b2 e2=> ?_)
 refine Fin.shape 18 (fun b=> .pointer (some ⟨b,0,none⟩)) rfl (fun b3 e3=> ?_)
 refine Fin.shape 5 (fun b=> .pointer (some ⟨b,0,none⟩)) rfl (fun b4 e4=> ?_)
 subst e1 e2 e3 e4
 refine Fin.JQ 0 (AB true b1 P6 ((List.replicate n 0#32).map fun x=>u32 x)) rfl (by rw [←RH];rfl) ?_
 refine Fin.JQ 1 (AB true b2 P6 ((List.replicate n 0#32).map fun x=>u32 x)) rfl (by rw [←RH];rfl) ?_
 refine Fin.JQ 2 (AB true b3 160 [int ((n:Nat):Int),Ag (Im n b1) _,Ag (Im n b2) _]) rfl rfl ?_
 refine Fin.Hl 2 [int ((n:Nat):Int),is (Im n b1),is (Im n b2)] rfl ⟨Pr.le_refl _,Fw _ _,Fw _ _,trivial⟩ ?_
 refine Fin.JQ 3 (AB true b4 121 [Ag (.pointer (some ⟨b3,0,none⟩)) _]) rfl rfl ?_
 refine Fin.Hl 3 [ptr b3 0] rfl ⟨Fw _ _,trivial⟩ ?_
 refine Fin.go ?_
 refine Tr.seq ?_
 refine Tr.seq ?_
 refine Tr.Ah ?_
 refine Ch.op rfl rfl (by decide) (BM rfl (vl rfl)) ?_
 first
  |refine Ch.op rfl rfl (by decide) (Bo rfl Tryz.underlying33 (vl rfl)) ?_
  |refine Ch.op rfl rfl (by decide) (Bz rfl Tryz.underlying33 (vl rfl)) ?_
 refine Ch.op rfl rfl (by decide) (BM rfl (vl rfl)) ?_
 refine Ch.nil ?_
 refine Fin.go ?_
 refine Tr.block ?_
 refine Tr.Cy [(0,_),(5,_),(19,_),(20,_)] ⟨⟨_,rfl,Pr.le_refl _⟩,⟨_,rfl,Pr.le_refl _⟩,⟨_,rfl,Pr.le_refl _⟩,⟨_,rfl,Pr.le_refl _⟩,trivial⟩ (fun (B:List (BitVec 32)) (m:Nat)=>[(21,int ((m:Nat):Int))]) (fun (B:List (BitVec 32)) (m:Nat)=>Hp M0 w0 S (AB true b1 P6 (B.map fun x=>u32 x)::AB true b2 P6 ((List.replicate n 0#32).map fun x=>u32 x)::AB true b3 160 [int ((n:Nat):Int),is (Im n b1),is (Im n b2)]::AB true b4 121 [ptr b3 0]::FC::Aj M1 w1::rs)) (fun (B:List (BitVec 32)) (m:Nat)=>m≤l.length∧ES n B (F1 (l.take m))) (fun (B:List (BitVec 32)) (m:Nat)=>l.length-m) (List.replicate n 0#32) (0)  (⟨Nat.zero_le _,Ln (Vz n) fun a b _ _=>rfl⟩) ⟨⟨_,rfl,Pr.le_refl _⟩,trivial⟩ (fun _ _ h=>h) ?_
 rintro B m  ⟨hm0,hB⟩
 refine Tr.seq ?_
 refine Tr.Ah ?_
 refine Ch.op rfl rfl (by decide) (ok_int rfl (vl rfl) (vl rfl) rfl) ?_
 refine Ch.nil ?_
 refine Fin.go ?_
 refine Tr.seq ?_
 refine Tr.cond rfl (fun h1=> ?_) (fun h1=> ?_)
 ·
  have q1:=D_.Eo h1
  have hm:m<l.length:=AG h1
  obtain ⟨r,hr⟩:=at_ hm
  obtain ⟨hf,ht,_⟩:=qx (hbd r (List.mem_of_getElem? hr))
  have hBl:=hB.1
  obtain ⟨x,hx⟩:=at_ (l:=B) (k:=r.thn.toNat) (by omega)
  refine Tr.skip ?_
  refine Fin.go ?_
  refine Tr.seq ?_
  refine Tr.block ?_
  refine Tr.seq ?_
  refine Tr.An ?_
  refine TO.op rfl rfl (by decide) (AA rfl Tryz.underlying33 Bl (vl rfl) (vl rfl) (by omega) (AP hr)) ?_
  refine TO.op rfl rfl (by decide) (AQ rfl Dt Bl (vl rfl) rfl rfl) ?_
  refine TO.alloc rfl rfl (by decide) rfl z117 Iz (fun b5=> ?_)
  refine TO.AK 0 rfl rfl rfl (vl rfl) (VL.le (vl rfl) (AZ _)) rfl Bl rfl rfl ?_
  refine TO.freeze 0 7 rfl rfl ?_
  refine TO.nil ?_
  refine Fin.go ?_
  refine Tr.F4 mixed [some (0,3,false,0),none,none,some (0,2,false,0),none,none,none,some (0,0,false,0),none,none,none,none,none,some (0,0,true,0)] (by kernel_rfl) ?_
  refine Cx.rd 3 rfl rfl rfl (by decide) (A_ rfl I0 (vl rfl) rfl) ?_
  refine Cx.op rfl rfl (by decide) (fun _=>Dq rfl (vl rfl)) ?_
  refine Cx.op rfl rfl (by decide) (fun _=>Ac rfl Hy (vl rfl)) ?_
  refine Cx.rd 2 rfl rfl rfl (by decide) (A_ rfl I3 (vl rfl) rfl) ?_
  refine Cx.op rfl rfl (by decide) (fun _=>E6 rfl Rr (vl rfl) rfl) ?_
  refine Cx.op rfl rfl (by decide) (fun _=>EL rfl Cz (vl rfl)) ?_
  refine Cx.op rfl rfl (by decide) (fun _=>BI rfl Tryz.underlying158 FK (vl rfl) (vl rfl) (by omega) (by omega)) ?_
  refine Cx.rd 0 rfl rfl rfl (by decide) (A_ rfl Fa (vl rfl) (Ju hx)) ?_
  refine Cx.op rfl rfl (by decide) (fun _=>E6 rfl Rp (vl rfl) rfl) ?_
  refine Cx.op rfl rfl (by decide) (fun _=>EL rfl Cz (vl rfl)) ?_
  refine Cx.op rfl rfl (by decide) (fun _=>JN (b:=1#32) rfl (vl rfl) (vl rfl) (by omega)) ?_
  refine Cx.op rfl rfl (by decide) (fun _=>Ll rfl (vl rfl) (vl rfl)) ?_
  refine Cx.op rfl rfl (by decide) (fun _=>BI rfl Tryz.underlying158 FK (vl rfl) (vl rfl) (by omega) (by omega)) ?_
  refine Cx.Dz 0 rfl rfl (A0 rfl rfl (vl rfl) (VL.le (vl rfl) (Ae _)) FK rfl (by rw [List.length_map];omega) (PR hx)) ?_
  refine Cx.nil ⟨rfl,?_⟩
  refine BH.done (Ar.cons (Ar.cons (Ar.cons (Ar.cons (Ar.cons (Ar.cons (Ar.map _))))))) ?_
  refine Fin.block ?_
  refine Fin.go ?_
  refine Tr.weak [(0,_),(5,_),(19,_),(20,_),(21,_)] ⟨⟨_,rfl,Pr.le_refl _⟩,⟨_,rfl,Pr.le_refl _⟩,⟨_,rfl,Pr.le_refl _⟩,⟨_,rfl,Pr.le_refl _⟩,⟨_,rfl,Pr.le_refl _⟩,trivial⟩ ?_
  refine Tr.Ah ?_
  first
   |(refine Ch.op rfl rfl (by decide) (Er rfl (vl rfl) (vl rfl) ?hin) ?_;case hin=>unfold Kz;omega)
   |refine Ch.op rfl rfl (by decide) (ok_int rfl (vl rfl) (vl rfl) rfl) ?_
  refine Ch.op rfl rfl (by decide) (BM rfl (vl rfl)) ?_
  refine Ch.nil ?_
  exact Fin.C5 (B.set r.thn.toNat (Vv x r.fst.toNat)) (m+1)  (⟨⟨hm,V5 hB hr hf ht.1 hx (by omega)⟩,by omega⟩) ⟨⟨_,rfl,AE m⟩,⟨_,rfl,Pr.le_refl _⟩,⟨_,rfl,Pr.le_refl _⟩,⟨_,rfl,Pr.le_refl _⟩,⟨_,rfl,Pr.le_refl _⟩,trivial⟩ (fun _ _ h=>h)
 ·
  have q1:=D_.Eo h1
  have hml:m=l.length:=by have:=AH h1;omega
  rw [hml,List.take_length] at hB
  refine Tr.exit ?_
  refine Fin.Ad ?_
  refine Fin.Ad ?_
  refine Fin.Ax ?_
  refine Fin.go ?_
  refine Tr.seq ?_
  refine Tr.seq ?_
  refine Tr.Ah ?_
  refine Ch.op rfl rfl (by decide) (BM rfl (vl rfl)) ?_
  refine Ch.op rfl rfl (by decide) (BM rfl (vl rfl)) ?_
  refine Ch.nil ?_
  refine Fin.go ?_
  refine Tr.block ?_
  refine Tr.Cy [(0,_),(5,_),(39,_)] ⟨⟨_,rfl,Pr.le_refl _⟩,⟨_,rfl,Pr.le_refl _⟩,⟨_,rfl,Pr.le_refl _⟩,trivial⟩ (fun (B2:List (BitVec 32)) (k:Nat)=>[(40,int ((k:Nat):Int))]) (fun (B2:List (BitVec 32)) (k:Nat)=>Hp M0 w0 S (AB true b1 P6 (B2.map fun x=>u32 x)::AB true b2 P6 ((List.replicate n 0#32).map fun x=>u32 x)::AB true b3 160 [int ((n:Nat):Int),is (Im n b1),is (Im n b2)]::AB true b4 121 [ptr b3 0]::FC::Aj M1 w1::rs)) (fun (B2:List (BitVec 32)) (k:Nat)=>k≤n∧ES n B2 (Cn l k)) (fun (B2:List (BitVec 32)) (k:Nat)=>n-k) (B) (0)  (⟨Nat.zero_le _,hB⟩) ⟨⟨_,rfl,Pr.le_refl _⟩,trivial⟩ (fun _ _ h=>h) ?_
  rintro B2 k  ⟨hk0,hB2⟩
  refine Tr.seq ?_
  refine Tr.Ah ?_
  refine Ch.op rfl rfl (by decide) (ok_int rfl (vl rfl) (vl rfl) rfl) ?_
  refine Ch.nil ?_
  refine Fin.go ?_
  refine Tr.seq ?_
  refine Tr.cond rfl (fun h2=> ?_) (fun h2=> ?_)
  ·
   have q2:=D_.Eo h2
   have hk:k<n:=AG h2
   refine Tr.skip ?_
   refine Fin.go ?_
   refine Tr.seq ?_
   refine Tr.block ?_
   refine Tr.seq ?_
   refine Tr.Ah ?_
   refine Ch.op rfl rfl (by decide) (BM rfl (vl rfl)) ?_
   refine Ch.op rfl rfl (by decide) (DB rfl (vl rfl)) ?_
   refine Ch.nil ?_
   refine Fin.go ?_
   refine Tr.seq ?_
   refine Tr.Ah ?_
   refine Ch.op rfl rfl (by decide) (BM rfl (vl rfl)) ?_
   refine Ch.op rfl rfl (by decide) (BM rfl (vl rfl)) ?_
   refine Ch.nil ?_
   refine Fin.go ?_
   refine Tr.block ?_
   refine Tr.Cy [(0,_),(5,_),(8,_),(39,_),(40,_),(43,_)] ⟨⟨_,rfl,Pr.le_refl _⟩,⟨_,rfl,Pr.le_refl _⟩,⟨_,rfl,Pr.le_refl _⟩,⟨_,rfl,Pr.le_refl _⟩,⟨_,rfl,Pr.le_refl _⟩,⟨_,rfl,Pr.le_refl _⟩,trivial⟩ (fun (B3:List (BitVec 32)) (i:Nat)=>[(44,int ((i:Nat):Int))]) (fun (B3:List (BitVec 32)) (i:Nat)=>Hp M0 w0 S (AB true b1 P6 (B3.map fun x=>u32 x)::AB true b2 P6 ((List.replicate n 0#32).map fun x=>u32 x)::AB true b3 160 [int ((n:Nat):Int),is (Im n b1),is (Im n b2)]::AB true b4 121 [ptr b3 0]::FC::Aj M1 w1::rs)) (fun (B3:List (BitVec 32)) (i:Nat)=>i≤n∧ES n B3 (J5 k (Cn l k) i)) (fun (B3:List (BitVec 32)) (i:Nat)=>n-i) (B2) (0)  (⟨Nat.zero_le _,by rw [qb];exact hB2⟩) ⟨⟨_,rfl,Pr.le_refl _⟩,trivial⟩ (fun _ _ h=>h) ?_
   rintro B3 i  ⟨hi0,hB3⟩
   refine Tr.seq ?_
   refine Tr.Ah ?_
   refine Ch.op rfl rfl (by decide) (ok_int rfl (vl rfl) (vl rfl) rfl) ?_
   refine Ch.nil ?_
   refine Fin.go ?_
   refine Tr.seq ?_
   refine Tr.cond rfl (fun h3=> ?_) (fun h3=> ?_)
   ·
    have q3:=D_.Eo h3
    have hi:i<n:=AG h3
    have hBl:=hB3.1
    obtain ⟨x,hx⟩:=at_ (l:=B3) (k:=i) (by omega)
    obtain ⟨y,hy⟩:=at_ (l:=B3) (k:=k) (by omega)
    refine Tr.skip ?_
    refine Fin.go ?_
    refine Tr.seq ?_
    refine Tr.block ?_
    refine Tr.seq ?_
    refine Tr.Ah ?_
    refine Ch.op rfl rfl (by decide) (BM rfl (vl rfl)) ?_
    refine Ch.op rfl rfl (by decide) (DB rfl (vl rfl)) ?_
    refine Ch.nil ?_
    refine Fin.go ?_
    refine Tr.seq ?_
    refine Tr.Ah ?_
    refine Ch.op rfl rfl (by decide) (DK 3 rfl (A_ rfl I0 (vl rfl) rfl)) ?_
    refine Ch.op rfl rfl (by decide) (Dq rfl (vl rfl)) ?_
    refine Ch.op rfl rfl (by decide) (Ac rfl Hy (vl rfl)) ?_
    refine Ch.op rfl rfl (by decide) (DK 2 rfl (A_ rfl I3 (vl rfl) rfl)) ?_
    refine Ch.op rfl rfl (by decide) (BM rfl (vl rfl)) ?_
    refine Ch.op rfl rfl (by decide) (BI rfl Tryz.underlying158 FK (vl rfl) (vl rfl) (by omega) (by omega)) ?_
    refine Ch.op rfl rfl (by decide) (DK 0 rfl (A_ rfl Fa (vl rfl) (Ju hx))) ?_
    refine Ch.op rfl rfl (by decide) (BM rfl (vl rfl)) ?_
    refine Ch.op rfl rfl (by decide) (AR rfl (Sc) ⟨⟨_,rfl,Pr.le_refl _⟩,⟨_,rfl,Pr.le_refl _⟩,trivial⟩) ?_
    refine Ch.nil ?_
    refine Fin.go ?_
    refine Tr.weak [(0,_),(5,_),(8,_),(9,_),(39,_),(40,_),(43,_),(44,_),(55,_)] ⟨⟨_,rfl,Pr.le_refl _⟩,⟨_,rfl,Pr.le_refl _⟩,⟨_,rfl,Pr.le_refl _⟩,⟨_,rfl,Pr.le_refl _⟩,⟨_,rfl,Pr.le_refl _⟩,⟨_,rfl,Pr.le_refl _⟩,⟨_,rfl,Pr.le_refl _⟩,⟨_,rfl,Pr.le_refl _⟩,⟨_,rfl,Pr.le_refl _⟩,trivial⟩ ?_
    refine Tr.cond rfl (fun h4=> ?_) (fun h4=> ?_)
    ·
     have q4:=D_.Eo h4
     refine Tr.F4 mixed [some (0,3,false,0),none,none,some (0,2,false,0),none,none,some (0,0,false,0),some (0,3,false,0),none,none,some (0,2,false,0),none,none,some (0,0,false,0),none,none,some (0,0,true,0)] (by kernel_rfl) ?_
     refine Cx.rd 3 rfl rfl rfl (by decide) (A_ rfl I0 (vl rfl) rfl) ?_
     refine Cx.op rfl rfl (by decide) (fun _=>Dq rfl (vl rfl)) ?_
     refine Cx.op rfl rfl (by decide) (fun _=>Ac rfl Hy (vl rfl)) ?_
     refine Cx.rd 2 rfl rfl rfl (by decide) (A_ rfl I3 (vl rfl) rfl) ?_
     refine Cx.op rfl rfl (by decide) (fun _=>BM rfl (vl rfl)) ?_
     refine Cx.op rfl rfl (by decide) (fun _=>BI rfl Tryz.underlying158 FK (vl rfl) (vl rfl) (by omega) (by omega)) ?_
     refine Cx.rd 0 rfl rfl rfl (by decide) (A_ rfl Fa (vl rfl) (Ju hx)) ?_
     refine Cx.rd 3 rfl rfl rfl (by decide) (A_ rfl I0 (vl rfl) rfl) ?_
     refine Cx.op rfl rfl (by decide) (fun _=>Dq rfl (vl rfl)) ?_
     refine Cx.op rfl rfl (by decide) (fun _=>Ac rfl Hy (vl rfl)) ?_
     refine Cx.rd 2 rfl rfl rfl (by decide) (A_ rfl I3 (vl rfl) rfl) ?_
     refine Cx.op rfl rfl (by decide) (fun _=>BM rfl (vl rfl)) ?_
     refine Cx.op rfl rfl (by decide) (fun _=>BI rfl Tryz.underlying158 FK (vl rfl) (vl rfl) (by omega) (by omega)) ?_
     refine Cx.rd 0 rfl rfl rfl (by decide) (A_ rfl Fa (vl rfl) (Ju hy)) ?_
     refine Cx.op rfl rfl (by decide) (fun _=>Ll rfl (vl rfl) (vl rfl)) ?_
     refine Cx.op rfl rfl (by decide) (fun _=>BI rfl Tryz.underlying158 FK (vl rfl) (vl rfl) (by omega) (by omega)) ?_
     refine Cx.Dz 0 rfl rfl (A0 rfl rfl (vl rfl) (VL.le (vl rfl) (Ae _)) FK rfl (by rw [List.length_map];omega) (PR hx)) ?_
     refine Cx.nil ⟨rfl,?_⟩
     refine BH.done (Ar.cons (Ar.cons (Ar.cons (Ar.cons (Ar.cons (Ar.cons (Ar.map _))))))) ?_
     refine Fin.block ?_
     refine Fin.go ?_
     refine Tr.weak [(0,_),(5,_),(8,_),(39,_),(40,_),(43,_),(44,_)] ⟨⟨_,rfl,Pr.le_refl _⟩,⟨_,rfl,Pr.le_refl _⟩,⟨_,rfl,Pr.le_refl _⟩,⟨_,rfl,Pr.le_refl _⟩,⟨_,rfl,Pr.le_refl _⟩,⟨_,rfl,Pr.le_refl _⟩,⟨_,rfl,Pr.le_refl _⟩,trivial⟩ ?_
     refine Tr.Ah ?_
     first
      |(refine Ch.op rfl rfl (by decide) (Er rfl (vl rfl) (vl rfl) ?hin) ?_;case hin=>unfold Kz;omega)
      |refine Ch.op rfl rfl (by decide) (ok_int rfl (vl rfl) (vl rfl) rfl) ?_
     refine Ch.op rfl rfl (by decide) (BM rfl (vl rfl)) ?_
     refine Ch.nil ?_
     exact Fin.C5 (B3.set i (x|||y)) (i+1)  (⟨⟨hi,eP hB3 hx hy (by rw [←UE hB3 hx hk];exact h4)⟩,by omega⟩) ⟨⟨_,rfl,AE i⟩,⟨_,rfl,Pr.le_refl _⟩,⟨_,rfl,Pr.le_refl _⟩,⟨_,rfl,Pr.le_refl _⟩,⟨_,rfl,Pr.le_refl _⟩,⟨_,rfl,Pr.le_refl _⟩,⟨_,rfl,Pr.le_refl _⟩,trivial⟩ (fun _ _ h=>h)
    ·
     have q4:=D_.Eo h4
     refine Tr.skip ?_
     refine Fin.block ?_
     refine Fin.go ?_
     refine Tr.Ah ?_
     first
      |(refine Ch.op rfl rfl (by decide) (Er rfl (vl rfl) (vl rfl) ?hin) ?_;case hin=>unfold Kz;omega)
      |refine Ch.op rfl rfl (by decide) (ok_int rfl (vl rfl) (vl rfl) rfl) ?_
     refine Ch.op rfl rfl (by decide) (BM rfl (vl rfl)) ?_
     refine Ch.nil ?_
     exact Fin.C5 (B3) (i+1)  (⟨⟨hi,kP hB3 (by rw [←UE hB3 hx hk];exact h4)⟩,by omega⟩) ⟨⟨_,rfl,AE i⟩,⟨_,rfl,Pr.le_refl _⟩,⟨_,rfl,Pr.le_refl _⟩,⟨_,rfl,Pr.le_refl _⟩,⟨_,rfl,Pr.le_refl _⟩,⟨_,rfl,Pr.le_refl _⟩,⟨_,rfl,Pr.le_refl _⟩,trivial⟩ (fun _ _ h=>h)
   ·
    have q3:=D_.Eo h3
    have hin:i=n:=by have:=AH h3;omega
    rw [hin] at hB3
    refine Tr.exit ?_
    refine Fin.Ad ?_
    refine Fin.Ad ?_
    refine Fin.Ax ?_
    refine Fin.block ?_
    refine Fin.go ?_
    refine Tr.Ah ?_
    first
     |(refine Ch.op rfl rfl (by decide) (Er rfl (vl rfl) (vl rfl) ?hin) ?_;case hin=>unfold Kz;omega)
     |refine Ch.op rfl rfl (by decide) (ok_int rfl (vl rfl) (vl rfl) rfl) ?_
    refine Ch.op rfl rfl (by decide) (BM rfl (vl rfl)) ?_
    refine Ch.nil ?_
    exact Fin.C5 (B3) (k+1)  (⟨⟨hk,Ln hB3 fun a b _ hb=>eN hb⟩,by omega⟩) ⟨⟨_,rfl,AE k⟩,⟨_,rfl,Pr.le_refl _⟩,⟨_,rfl,Pr.le_refl _⟩,⟨_,rfl,Pr.le_refl _⟩,trivial⟩ (fun _ _ h=>h)
  ·
   have q2:=D_.Eo h2
   have hkn:k=n:=by have:=AH h2;omega
   rw [hkn] at hB2
   obtain rfl:=V4 hB2 (Fj (by omega))
   refine Tr.exit ?_
   refine Fin.Ad ?_
   refine Fin.Ad ?_
   refine Fin.Ax ?_
   refine Fin.go ?_
   refine Tr.seq ?_
   refine Tr.seq ?_
   refine Tr.Ah ?_
   refine Ch.op rfl rfl (by decide) (BM rfl (vl rfl)) ?_
   refine Ch.op rfl rfl (by decide) (BM rfl (vl rfl)) ?_
   refine Ch.nil ?_
   refine Fin.go ?_
   refine Tr.block ?_
   refine Tr.qq [(5,_),(74,_)] ⟨⟨_,rfl,Pr.le_refl _⟩,⟨_,rfl,Pr.le_refl _⟩,trivial⟩ (fun Ds i=>⟨_,Ds.map Cp.mark⟩) (fun Ds i=>[(75,int ((i:Nat):Int))]) (fun Ds i=>Hp M0 w0 S (AB true b1 P6 ((EW n l).map fun x=>u32 x)::AB true b2 P6 ((J6 (EW n l) i).map fun x=>u32 x)::AB true b3 160 [int ((n:Nat):Int),is (Im n b1),is (Im n b2)]::AB true b4 121 [ptr b3 0]::FC::(Ds.map UF++Aj M1 w1::rs))) (fun Ds i=>i≤(n)) (fun Ds i=>(n)-i) [] 0 rfl (Nat.zero_le _) ⟨⟨_,rfl,Pr.le_refl _⟩,trivial⟩ ((by rw [J6,Co];exact fun _ _ h=>h)) ?_
   rintro Ds i Tv
   refine Tr.seq ?_
   refine Tr.Ah ?_
   refine Ch.op rfl rfl (by exact Nat.le_of_ble_eq_true rfl) (ok_int rfl (vl rfl) (vl rfl) rfl) ?_
   refine Ch.nil ?_
   refine Fin.go ?_
   refine Tr.seq ?_
   refine Tr.cond rfl (fun h5=> ?_) (fun h5=> ?_)
   ·
    have q5:=D_.Eo h5
    have Ip:i<(n):=AG h5
    obtain ⟨x,hx⟩:=at_ (l:=EW n l) (k:=i) (by rw [Co];omega)
    refine Tr.skip ?_
    refine Fin.go ?_
    refine Tr.seq ?_
    refine Tr.block ?_
    refine Tr.seq ?_
    refine Tr.An ?_
    refine TO.op rfl rfl (by exact Nat.le_of_ble_eq_true rfl) (BM rfl (vl rfl)) ?_
    refine TO.alloc rfl rfl (by exact Nat.le_of_ble_eq_true rfl) rfl z3 zo3 (fun b6=> ?_)
    refine TO.AK 0 rfl rfl rfl (vl rfl) (VL.le (vl rfl) (Ae _)) rfl B4 rfl rfl ?_
    refine TO.freeze 0 10 rfl rfl ?_
    refine TO.nil ?_
    refine Fin.go ?_
    refine Tr.seq ?_
    refine Tr.pad ?_
    refine Tr.F4 mixed [some (0,4,false,0),none,none,some (0,3,false,0),none,none,some (0,1,false,0),some (0,0,true,85)] (by kernel_rfl) ?_
    refine Cx.rd 4 rfl rfl rfl (by exact Nat.le_of_ble_eq_true rfl) (A_ rfl I0 (vl rfl) rfl) ?_
    refine Cx.op rfl rfl (by exact Nat.le_of_ble_eq_true rfl) (fun _=>Dq rfl (vl rfl)) ?_
    refine Cx.op rfl rfl (by exact Nat.le_of_ble_eq_true rfl) (fun _=>Ac rfl Hy (vl rfl)) ?_
    refine Cx.rd 3 rfl rfl rfl (by exact Nat.le_of_ble_eq_true rfl) (A_ rfl I3 (vl rfl) rfl) ?_
    refine Cx.op rfl rfl (by exact Nat.le_of_ble_eq_true rfl) (fun _=>EL rfl Cz (vl rfl)) ?_
    refine Cx.op rfl rfl (by exact Nat.le_of_ble_eq_true rfl) (fun _=>BI rfl Tryz.underlying158 FK (vl rfl) (vl rfl) (by omega) (by omega)) ?_
    refine Cx.rd 1 rfl rfl rfl (by exact Nat.le_of_ble_eq_true rfl) (A_ rfl Fa (vl rfl) (Ju hx)) ?_
    refine Cx.ef 0 rfl rfl (by exact Nat.le_of_ble_eq_true rfl) (LA rfl rfl (by exact Nat.le_of_ble_eq_true rfl) rfl (ec) ⟨⟨_,rfl,Pr.le_refl _⟩,trivial⟩) ?_
    refine Cx.nil ⟨rfl,?_⟩
    refine BH.open_ 0 85 rfl rfl (fun v1=> ?_)
    refine BH.done (Ar.cons (Ar.cons (Ar.cons (Ar.cons (Ar.cons (Ar.cons (Ar.map _))))))) ?_
    refine Fin.shape 85 (fun b=>eZ b) rfl (fun fb7 fe7=> ?_)
    subst fe7
    refine Fin.JQ 0 (AB true fb7 P6 [_]) rfl rfl ?_
    refine Fin.go ?_
    refine Tr.weak [(5,_),(10,_),(74,_),(75,_),(85,_)] ⟨⟨_,rfl,Pr.le_refl _⟩,⟨_,rfl,Pr.le_refl _⟩,⟨_,rfl,Pr.le_refl _⟩,⟨_,rfl,Pr.le_refl _⟩,⟨_,rfl,Pr.le_refl _⟩,trivial⟩ ?_
    refine Tr.block ?_
    refine Tr.qp 11 [(5,_),(10,_)] ⟨⟨_,rfl,Pr.le_refl _⟩,⟨_,rfl,Pr.le_refl _⟩,trivial⟩ (fun pre=>AB true b1 P6 ((EW n l).map fun x=>u32 x)::AB true b2 P6 ((pre.foldl (Ij i) (J6 (EW n l) i)).map fun x=>u32 x)::AB true b3 160 [int ((n:Nat):Int),is (Im n b1),is (Im n b2)]::AB true b4 121 [ptr b3 0]::(Ds.map UF++Aj M1 w1::rs)) (Sd (s:=x)) Se (vl rfl) ((Dp (j:=5) rfl).trans (List.Perm.cons _ ((Dp (j:=0) rfl).trans (List.Perm.cons _ (List.Perm.refl _))))) rfl (by exact Nat.le_of_ble_eq_true rfl) ?_ ?_ ?_
    ·
     rintro lk Dk rk Mr wr pre y0 hpre
     refine Tr.Ah ?_
     refine Ch.op rfl rfl (by exact Nat.le_of_ble_eq_true rfl) (DB rfl (vl rfl)) ?_
     refine Ch.nil ?_
     exact Fin.st ⟨⟨_,rfl,Pr.le_refl _⟩,⟨_,rfl,Pr.le_refl _⟩,⟨_,rfl,Pr.le_refl _⟩,trivial⟩
    ·
     rintro lk Dk rk Mr wr pre y0 hpre
     have hlt:y0<n:=by
      have h_:=Jt.1 (ew hpre)
      rw [(Fj (by omega)).2 i x hx,Bool.and_eq_true,decide_eq_true_eq] at h_
      exact h_.1
     have hal:(pre.foldl (Ij i) (J6 (EW n l) i)).length=n:=by rw [Mb,Hh,Co]
     obtain ⟨y,hy⟩:=at_ (l:=pre.foldl (Ij i) (J6 (EW n l) i)) (k:=y0) (by omega)
     refine Tr.block ?_
     refine Tr.F4 mixed [some (0,8,false,0),none,none,some (0,7,false,0),none,none,some (0,6,false,0),none,none,none,none,some (0,6,true,0)] (by kernel_rfl) ?_
     refine Cx.rd 8 rfl rfl rfl (by exact Nat.le_of_ble_eq_true rfl) (A_ rfl I0 (vl rfl) rfl) ?_
     refine Cx.op rfl rfl (by exact Nat.le_of_ble_eq_true rfl) (fun _=>Dq rfl (vl rfl)) ?_
     refine Cx.op rfl rfl (by exact Nat.le_of_ble_eq_true rfl) (fun _=>Ac rfl iZ (vl rfl)) ?_
     refine Cx.rd 7 rfl rfl rfl (by exact Nat.le_of_ble_eq_true rfl) (A_ rfl I3 (vl rfl) rfl) ?_
     refine Cx.op rfl rfl (by exact Nat.le_of_ble_eq_true rfl) (fun _=>BM rfl (vl rfl)) ?_
     refine Cx.op rfl rfl (by exact Nat.le_of_ble_eq_true rfl) (fun _=>BI rfl Tryz.underlying158 FK (vl rfl) (vl rfl) (by omega) (by omega)) ?_
     refine Cx.rd 6 rfl rfl rfl (by exact Nat.le_of_ble_eq_true rfl) (A_ rfl Fa (vl rfl) (Ju hy)) ?_
     refine Cx.op rfl rfl (by exact Nat.le_of_ble_eq_true rfl) (fun _=>EL rfl Cz (vl rfl)) ?_
     refine Cx.op rfl rfl (by exact Nat.le_of_ble_eq_true rfl) (fun _=>JN (b:=1#32) rfl (vl rfl) (vl rfl) (Int.natCast_nonneg _)) ?_
     refine Cx.op rfl rfl (by exact Nat.le_of_ble_eq_true rfl) (fun _=>Ll rfl (vl rfl) (vl rfl)) ?_
     refine Cx.op rfl rfl (by exact Nat.le_of_ble_eq_true rfl) (fun _=>BI rfl Tryz.underlying158 FK (vl rfl) (vl rfl) (by omega) (by omega)) ?_
     refine Cx.Dz 6 rfl rfl (A0 rfl rfl (vl rfl) (VL.le (vl rfl) (Ae _)) FK rfl (by rw [List.length_map];omega) ((PR hy).trans (congrArg (fun B:List (BitVec 32)=>B.map fun x=>u32 x) (ZB hy)))) ?_
     refine Cx.nil ⟨rfl,?_⟩
     refine BH.done (Ar.cons (Ar.cons (Ar.cons (Ar.cons (Ar.cons (Ar.cons (Ar.cons (Ar.cons (Ar.cons (Ar.map _)))))))))) ?_
     refine Fin.block ?_
     exact Fin.rnd () (List.Perm.refl _)
    ·
     rintro lk Dk rk Mr wr
     refine Fin.drop 1 ?_
     refine Fin.drop 1 ?_
     refine Fin.drop 2 ?_
     refine Fin.Lp (List.Perm.cons _ ((List.perm_middle (l₁:=[_,_,_,_])).symm)) ?_
     refine Fin.Lp (List.perm_middle (l₁:=[_,_,_,_])).symm ?_
     refine Fin.block ?_
     refine Fin.block ?_
     refine Fin.go ?_
     refine Tr.Ah ?_
     first
      |(refine Ch.op rfl rfl (by exact Nat.le_of_ble_eq_true rfl) (Er rfl (vl rfl) (vl rfl) ?hin) ?_;case hin=>unfold Kz;omega)
      |refine Ch.op rfl rfl (by exact Nat.le_of_ble_eq_true rfl) (ok_int rfl (vl rfl) (vl rfl) rfl) ?_
     refine Ch.op rfl rfl (by exact Nat.le_of_ble_eq_true rfl) (BM rfl (vl rfl)) ?_
     refine Ch.nil ?_
     exact Fin.wg (_::_) (i+1) rfl (⟨Ip,by omega⟩) ⟨⟨_,rfl,AE i⟩,⟨_,rfl,Pr.le_refl _⟩,⟨_,rfl,Pr.le_refl _⟩,trivial⟩ ((by rw [ZA hx];exact fun _ _ h=>h))
   ·
    have q5:=D_.Eo h5
    have NU:i=(n):=by have:=AH h5;omega
    have qz:=NU.symm
    subst qz
    refine Tr.exit ?_
    refine Fin.Ad ?_
    refine Fin.Ad ?_
    refine Fin.Ax ?_
    refine Fin.go ?_
    refine Tr.seq ?_
    refine Tr.gP 0 (((EW n l).map fun x=>[u32 x]).flatten++([]:List Value).map is) rfl (RG _) ?_
    refine Tr.jA (cap:=n) (sz:=1) ((EW n l).map fun x=>[u32 x]) 0 2 1 rfl rfl (by decide) rfl (Pr.le_of_eq (by rw [List.length_map,Co n l])) (Bg fun _=>rfl) (by rw [List.length_map,Co n l];exact Nat.le_refl _) (by unfold maxLen;omega) (by simp [Hh,Co]) rfl ?_
    refine Tr.gP 1 (((J6 (EW n l) n).map fun x=>[u32 x]).flatten++([]:List Value).map is) rfl (RG _) ?_
    refine Tr.jA (cap:=n) (sz:=1) ((J6 (EW n l) n).map fun x=>[u32 x]) 1 2 2 rfl rfl (by decide) rfl (Pr.le_of_eq (by rw [List.length_map,(Hh _ _).trans (Co n l)])) (Bg fun _=>rfl) (by rw [List.length_map,(Hh _ _).trans (Co n l)];exact Nat.le_refl _) (by unfold maxLen;omega) (by simp [Hh,Co]) rfl ?_
    refine Tr.Ah ?_
    refine Ch.op rfl rfl (by exact Nat.le_of_ble_eq_true rfl) (DK 3 rfl (A_ rfl I0 (vl rfl) rfl)) ?_
    refine Ch.op rfl rfl (by exact Nat.le_of_ble_eq_true rfl) (DB rfl (vl rfl)) ?_
    refine Ch.nil ?_
    refine Fin.go ?_
    refine Tr.ret ?_
    refine Fin.freeze 2 4 rfl rfl ?_
    refine Fin.drop 0 ?_
    refine Fin.drop 0 ?_
    refine Fin.drop 0 ?_
    refine Fin.Lp List.perm_middle.symm ?_
    refine Fin.Xj ?_
    refine Fin.Qg rfl rfl ?_ (fun _ _ _ _=>rfl)
    · exact qy ⟨Pr.le_refl _,Ak _ _,Ak _ _,trivial⟩
def V7 (n:Int) (l:List BG):Pr:=if BC n l=0 then ref [int n,bits (EW n.toNat l),bits (J6 (EW n.toNat l) n.toNat)] else is (.pointer none)
instance wm (n:Int) (l:List BG):One (V7 n l):=by
 unfold V7;split
 · exact Wg _
 · exact Wf _
theorem FD {n:Int} {l:List BG} {e:Int} (h:BC n l=e) (he:e≠0):Pr.le (is (.pointer none)) (V7 n l):=by
 unfold V7;rw [if_neg (by rw [h];exact he)];exact Pr.le_refl _
theorem Xm {n:Int} {l:List BG} (h:BC n l=0):V7 n l=ref [int n,bits (EW n.toNat l),bits (J6 (EW n.toNat l) n.toNat)]:=by
 unfold V7;rw [if_pos h]
theorem Jv {n:Int} {l:List BG} (h:n<0∨24<n):BC n l=2:=by unfold BC;rw [if_pos h]
theorem ET {n:Int} {l:List BG} {k:Nat} {r:BG} (h:0≤n∧n≤24) (hr:l[k]? =some r) (hb:Dy n r=true):BC n l=44:=by
 unfold BC;rw [if_neg (by omega),if_pos (List.any_eq_true.2 ⟨r,List.mem_of_getElem? hr,hb⟩)]
theorem Xn {n:Int} {l:List BG} (h:∀j y,j<l.length→l[j]? =some y→Dy n y=false):∀r∈l,Dy n r=false:=fun r hr=>by
 obtain ⟨j,hj⟩:=List.mem_iff_getElem?.1 hr
 exact h j r (by rcases Nat.lt_or_ge j l.length with h2|h2;exact h2;rw [List.getElem?_eq_none h2] at hj;cases hj) hj
theorem V8 {n:Int} {l:List BG} (h:∀r∈l,Dy n r=false):¬l.any (Dy n)=true:=by
 rw [Bool.not_eq_true,List.any_eq_false];exact fun r hr=>by rw [h r hr];decide
theorem Sg {n:Int} {l:List BG} {k:Nat} {a b:BG} (h:0≤n∧n≤24) (hb:∀r∈l,Dy n r=false) (hk:0<k) (ha:l[k-1]? =some a) (hx:l[k]? =some b) (hl:Ed a b=false):BC n l=6:=by
 unfold BC;rw [if_neg (by omega),if_neg (V8 hb),if_pos]
 cases hs:DY l with
 |false=>rfl
 |true=>
  have:=Kr.1 hs (k-1) a b ha (by rw [Nat.sub_add_cancel hk];exact hx)
  rw [hl] at this;cases this
theorem PU {n:Nat} {l:List BG} {i:Nat} (h:n≤24) (hb:∀r∈l,Dy n r=false) (hs:DY l=true) (hi:i<n) (hw:Cn l n i i=true):BC n l=45:=by
 unfold BC;rw [if_neg (by omega),if_neg (V8 hb),if_neg (by rw [hs];decide),if_pos (show wU (n:Int).toNat l=true from List.any_eq_true.2 ⟨i,List.mem_range.2 (by omega),hw⟩)]
theorem Sh {n:Nat} {l:List BG} (h:n≤24) (hb:∀r∈l,Dy n r=false) (hs:DY l=true) (hw:∀i,i<n→Cn l n i i=false):BC n l=0:=by
 unfold BC;rw [if_neg (by omega),if_neg (V8 hb),if_neg (by rw [hs];decide),if_neg]
 intro hc
 obtain ⟨i,hi,h2⟩:=List.any_eq_true.1 hc
 have:=hw i (by simpa using hi)
 rw [show ((n:Int)).toNat=n from rfl] at h2
 rw [this] at h2;cases h2
theorem PV {l:List BG} (h:∀(j:Nat) a b,j+1<l.length→l[j]? =some a→l[j+1]? =some b→Ed a b=true):DY l=true:=Kr.2 fun j a b ha hb=>h j a b (by rcases Nat.lt_or_ge (j+1) l.length with h2|h2;exact h2;rw [List.getElem?_eq_none h2] at hb;cases hb) ha hb
theorem JR {l:List BG} {k:Nat} {x:BG} (hx:l[k]? =some x) (hp:∀y,0<k→l[k-1]? =some y→Ed y x=true) (h:∀(j:Nat) a b,j+1<k→l[j]? =some a→l[j+1]? =some b→Ed a b=true):∀(j:Nat) a b,j+1<k+1→l[j]? =some a→l[j+1]? =some b→Ed a b=true:=by
 intro j a b hj ha hb
 by_cases hjk:j+1=k
 · subst hjk;rw [hx] at hb;cases hb;exact hp a (by omega) (by simpa using ha)
 · exact h j a b (by omega) ha hb
theorem kf {n:Int} {l:List BG}  :CX prog 61 [int n,reqs l] (EK [V7 n l,int (BC n l)]) (FC) (fun _=>FC):=by
 refine CX.of func61 rfl rfl (by exact Nb rfl) fun M0 w0 S rs M1 w1=> ?_
 refine Tr.Cv 1 rfl fun GV=> ?_
 refine ac ?_
 refine ag ?_ ?_<;>intro h1 q1
 refine a2 ?_
 refine Tr.ret (Fin.AD (Fin.FJ rfl rfl ?_ rfl ?_))
 · exact FD (Jv (by omega)) (by decide)
 · refine int_eq ?_;exact (Jv (by omega)).symm
 refine an ?_ ?_<;>intro h2 q2
 refine ac ?_
 refine Tr.ret (Fin.AD (Fin.FJ rfl rfl ?_ rfl ?_))
 · exact FD (Jv (by omega)) (by decide)
 · refine int_eq ?_;exact (Jv (by omega)).symm
 have Jk:0≤n∧n≤24:=by omega
 obtain ⟨m,hm⟩:∃m:Nat,n=(m:Int):=⟨n.toNat,by omega⟩
 refine a2 ?_
 refine Tr.block (Tr.A9 [(0,_),(1,_),(18,_),(19,_)] (YO rfl) (fun k:Nat=>[(20,int ((k:Nat):Int))]) (fun k:Nat=>k≤(l).length∧(∀j y,j<k→l[j]? =some y→Dy n y=false)) (fun k:Nat=>(l).length-k) 0 (⟨Nat.zero_le _,fun j y hj=>absurd hj (by omega)⟩) ⟨ke rfl,trivial⟩ ?_)
 rintro k ⟨BP,AW⟩
 refine ac ?_
 refine Tr.seq ?_
 refine Tr.cn rfl ?_ ?_<;>intro h3 q3
 have Ai:k<(l).length:=AG h3
 obtain ⟨x,Af⟩:=at_ Ai
 refine ac ?_
 refine Tr.seq (Tr.block (Tr.seq (Tr.An (tp rfl (AA rfl underlying33 Bl (vl rfl) (vl rfl) (by omega) (AP Af)) (tp rfl (AQ rfl Dt Bl (vl rfl) rfl rfl) ?_)))))
 refine Tl rfl rfl rfl rfl z117 Iz (fun b1=> ?_)
 refine sf 0 7 ⟨rfl,rfl,rfl⟩ rfl rfl rfl rfl ?_
 refine ao ?_
 refine ag ?_ ?_<;>intro h4 q4
 refine ac ?_
 refine K0 0 1 18 19 20 50 rfl ?_
 refine ac ?_
 refine Tr.ret (Fin.AX (Fin.AD (Fin.AD (Fin.AX (Fin.AD (Fin.FJ rfl rfl ?_ rfl ?_))))))
 · exact FD (ET Jk Af (by unfold Dy;rw [decide_eq_true_eq];omega)) (by decide)
 · refine int_eq ?_;exact (ET Jk Af (by unfold Dy;rw [decide_eq_true_eq];omega)).symm
 refine ag ?_ ?_<;>intro h5 q5
 refine ac ?_
 refine K0 0 1 18 19 20 50 rfl ?_
 refine ac ?_
 refine Tr.ret (Fin.AX (Fin.AD (Fin.AD (Fin.AX (Fin.AD (Fin.FJ rfl rfl ?_ rfl ?_))))))
 · exact FD (ET Jk Af (by unfold Dy;rw [decide_eq_true_eq];omega)) (by decide)
 · refine int_eq ?_;exact (ET Jk Af (by unfold Dy;rw [decide_eq_true_eq];omega)).symm
 refine ag ?_ ?_<;>intro h6 q6
 refine ac ?_
 refine K0 0 1 18 19 20 50 rfl ?_
 refine ac ?_
 refine Tr.ret (Fin.AX (Fin.AD (Fin.AD (Fin.AX (Fin.AD (Fin.FJ rfl rfl ?_ rfl ?_))))))
 · exact FD (ET Jk Af (by unfold Dy;rw [decide_eq_true_eq];omega)) (by decide)
 · refine int_eq ?_;exact (ET Jk Af (by unfold Dy;rw [decide_eq_true_eq];omega)).symm
 refine ag ?_ ?_<;>intro h7 q7
 refine ac ?_
 refine K0 0 1 18 19 20 50 rfl ?_
 refine ac ?_
 refine Tr.ret (Fin.AX (Fin.AD (Fin.AD (Fin.AX (Fin.AD (Fin.FJ rfl rfl ?_ rfl ?_))))))
 · exact FD (ET Jk Af (by unfold Dy;rw [decide_eq_true_eq];omega)) (by decide)
 · refine int_eq ?_;exact (ET Jk Af (by unfold Dy;rw [decide_eq_true_eq];omega)).symm
 refine ac ?_
 refine K0 0 1 18 19 20 50 rfl ?_
 refine Tr.cn rfl ?_ ?_<;>intro h8 q8
 refine ac ?_
 refine Tr.ret (Fin.AX (Fin.AD (Fin.AD (Fin.AX (Fin.AD (Fin.FJ rfl rfl ?_ rfl ?_))))))
 · exact FD (ET Jk Af (by unfold Dy;rw [decide_eq_true_eq];omega)) (by decide)
 · refine int_eq ?_;exact (ET Jk Af (by unfold Dy;rw [decide_eq_true_eq];omega)).symm
 refine a2 ?_
 exact Fin.AL (k+1) ⟨⟨Ai,Du (p:=Dy n) Af (by unfold Dy;rw [decide_eq_false_iff_not];omega) AW⟩,by omega⟩ ⟨⟨_,rfl,AE k⟩,ke rfl,ke rfl,ke rfl,ke rfl,trivial⟩
 have BJ:k=(l).length:=by have:=AH h3;omega
 subst BJ
 refine ac ?_
 refine Tr.seq (Tr.seq ?_)
 have hall:=Xn AW
 clear AW
 refine ac ?_
 refine Tr.block (Tr.A9 [(0,_),(1,_),(53,_)] (L_ rfl) (fun k:Nat=>[(54,int ((k:Nat):Int))]) (fun k:Nat=>k≤(l).length∧(∀(j:Nat) a b,j+1<k→l[j]? =some a→l[j+1]? =some b→Ed a b=true)) (fun k:Nat=>(l).length-k) 0 (⟨Nat.zero_le _,fun j a b hj=>absurd hj (by omega)⟩) ⟨ke rfl,trivial⟩ ?_)
 rintro k ⟨BP,AW⟩
 refine ac ?_
 refine Tr.seq ?_
 refine Tr.cn rfl ?_ ?_<;>intro h9 q9
 have Ai:k<(l).length:=AG h9
 obtain ⟨x,Af⟩:=at_ Ai
 refine a2 ?_
 refine ag ?_ ?_<;>intro h10 QH
 obtain ⟨y,hy⟩:=at_ (l:=l) (k:=k-1) (by omega)
 refine ac ?_
 refine cy h10 rfl (AA rfl underlying33 Bl (vl rfl) (vl rfl) (by omega) (OG (by omega) hy)) ?_
 refine ac ?_
 refine cy h10 rfl (AA rfl underlying33 Bl (vl rfl) (vl rfl) (by omega) (AP Af)) (cy h10 rfl (AQ rfl Dt Bl (vl rfl) rfl rfl) ?_)
 refine cy h10 rfl (CF (V6 (a:=y) (b:=x)) rfl rfl rfl) ?_
 refine ac ?_
 refine KP 0 1 53 54 71 rfl ?_
 refine Tr.cn rfl ?_ ?_<;>intro h11 QG
 refine ac ?_
 refine Tr.ret (Fin.AX (Fin.AD (Fin.AD (Fin.AX (Fin.AD (Fin.FJ rfl rfl ?_ rfl ?_))))))
 · exact FD (Sg Jk hall (by omega) hy Af (by have h_:=Sf (a:=y) (b:=x);simp_all)) (by decide)
 · refine int_eq ?_;exact (Sg Jk hall (by omega) hy Af (by have h_:=Sf (a:=y) (b:=x);simp_all)).symm
 refine a2 ?_
 exact Fin.AL (k+1) ⟨⟨Ai,JR Af (by intro y2 hk2 kL;rw [hy] at kL;cases kL;have h_:=Sf (a:=y) (b:=x);simp_all) AW⟩,by omega⟩ ⟨⟨_,rfl,AE k⟩,ke rfl,ke rfl,ke rfl,trivial⟩
 refine ac ?_
 refine KP 0 1 53 54 71 rfl ?_
 refine a2 ?_
 exact Fin.AL (k+1) ⟨⟨Ai,JR Af (by intro y2 hk2 kL;omega) AW⟩,by omega⟩ ⟨⟨_,rfl,AE k⟩,ke rfl,ke rfl,ke rfl,trivial⟩
 have BJ:k=(l).length:=by have:=AH h9;omega
 subst BJ
 refine ac ?_
 refine Tr.seq ?_
 have kg:=PV AW
 subst hm
 refine ao ?_
 refine TO.Jc 0 rfl rfl (by decide) (As rfl rfl (by decide) rfl (ZC (n:=m) (by omega) hall) ⟨ke rfl,ke rfl,trivial⟩) ?_
 refine ao ?_
 refine Tr.seq (Tr.seq ?_)
 have Ru:=Co m l
 refine ac ?_
 refine Ef 9 79 80 81 rfl (Tr.block (Tr.A9 [(9,_),(79,_),(80,_)] (L_ rfl) (fun i:Nat=>[(81,int ((i:Nat):Int))]) (fun i:Nat=>i≤(EW m l).length∧(∀j,j<i→Cn l m j j=false)) (fun i:Nat=>(EW m l).length-i) 0 (⟨Nat.zero_le _,fun j hj=>absurd hj (by omega)⟩) ⟨ke rfl,trivial⟩ ?_))
 rintro i ⟨Tv,Eh⟩
 refine ac ?_
 refine Tr.seq ?_
 refine Tr.cn rfl ?_ ?_<;>intro h12 Ul
 have Ip:i<(EW m l).length:=AG h12
 obtain ⟨x,JE⟩:=at_ Ip
 refine a2 ?_
 refine co rfl (AA rfl underlying158 FK (vl rfl) (vl rfl) (by omega) (PT JE)) ?_
 refine a2 ?_
 refine co rfl (CF (Sc) rfl rfl rfl) ?_
 refine an ?_ ?_<;>intro Ms Yh
 refine ac ?_
 refine Cc 4 5 rfl (Tr.ret (Fin.AX (Fin.AD (Fin.AD (Fin.AX (Fin.AD (Fin.FJ rfl rfl ?_ rfl ?_)))))))
 · exact FD (PU (by omega) hall kg (i:=i) (by omega) (by have h_:=(Fj (l:=l) (show m≤32 by omega)).2 i x JE i;simp_all)) (by decide)
 · refine int_eq ?_;exact (PU (by omega) hall kg (i:=i) (by omega) (by have h_:=(Fj (l:=l) (show m≤32 by omega)).2 i x JE i;simp_all)).symm
 refine a2 ?_
 exact Fin.AL (i+1) ⟨⟨Ip,(fun j hj=>by rcases Nat.lt_or_ge j i with h_|h_;exact Eh j h_;(obtain rfl:j=i:=by omega);have h_:=(Fj (l:=l) (show m≤32 by omega)).2 j x JE j;simp_all;done)⟩,by omega⟩ ⟨⟨_,rfl,AE i⟩,ke rfl,ke rfl,ke rfl,trivial⟩
 have NU:i=(EW m l).length:=by have:=AH h12;omega
 rw [Co] at NU
 subst NU
 refine a2 ?_
 refine Tr.ret (Fin.FJ rfl rfl ?_ rfl ?_)
 · rw [Xm (Sh (by omega) hall kg Eh)];exact Lr
 · refine int_eq ?_;exact (Sh (by omega) hall kg Eh).symm
theorem ez {n:Nat} {B:List (BitVec 32)} {p:Pr} {s:BitVec 32} (hB:B.length=n) (hn:n≤24):BA prog 45 [ref [int ((n:Nat):Int),bits B,p],u32 s] (u32 (Kt B s n)):=by
 refine fo func45 rfl ⟨rfl,rfl⟩ fun M0 w0=> ?_
 refine a3 ?_
 refine Tr.block (Tr.A9 [(0,_),(1,_),(10,_)] (L_ rfl) (fun k:Nat=>[(11,int ((k:Nat):Int)),(5,u32 (Kt B s k))]) (fun k:Nat=>k≤n) (fun k:Nat=>n-k) 0 (Nat.zero_le _) ⟨ke rfl,⟨_,rfl,Lm⟩,trivial⟩ ?_)
 rintro k hk0
 refine ac ?_
 refine Tr.seq ?_
 refine Tr.cn rfl ?_ ?_<;>intro h1 q1
 have hk:k<n:=AG h1
 obtain ⟨x,hx⟩:=at_ (l:=B) (k:=k) (by omega)
 · repeat' first|exact Fin.AL (k+1) ⟨by omega,by omega⟩ ⟨⟨_,rfl,AE k⟩,⟨_,rfl,Pr.le_of_eq (congrArg u32 (eo hx (by simp_all) (by simp_all)).symm)⟩,ke rfl,ke rfl,ke rfl,trivial⟩|exact Fin.AL (k+1) ⟨by omega,by omega⟩ ⟨⟨_,rfl,AE k⟩,⟨_,rfl,Pr.le_of_eq (congrArg u32 (kY hx (by simp_all)).symm)⟩,ke rfl,ke rfl,ke rfl,trivial⟩|refine co rfl (CF (Sc (b:=s) (i:=k)) rfl rfl rfl) ?_|refine cy h rfl (AA rfl underlying158 FK (vl rfl) (vl rfl) (by omega) (PT hx)) ?_|refine cy h rfl (JO rfl (vl rfl) (vl rfl)) (cy h rfl (eR rfl (vl rfl) (vl rfl)) ?_)|refine co rfl (JN (b:=1#32) rfl (vl rfl) (vl rfl) (Int.natCast_nonneg _)) ?_|refine co rfl (Ll rfl (vl rfl) (vl rfl)) ?_|refine ac ?_|(refine Tr.cn rfl ?_ ?_<;>intro h q)|(refine Ch.cg rfl rfl rfl ?_ ?_<;>intro h q)
 obtain rfl:k=n:=by have:=AH h1;omega
 refine a3 ?_
 · exact Lr
end Go.Proofs.YtkobgkelhcigdaaGreatDoor
namespace Cp
open Go Go.RowKit Go.Great
section
variable {P:Program} {L:Lg P} {n:Fm} {fz:Nat} {E:Env} {M0:Av} {w0:World} {S:Nat→Prop} {o:Oper}
def e7 (T:TypeId) (u v:Value):Ao:=match v with| .pointer (some a)=>AB true a.block T (u.cells.toList.map is)|_=>Bp
theorem kj {j d s:Nat} {R:SR} {p1 q:Pr} {p:Value→Pr} {R':Value→Value→Ao} (hd:o.dst=some d) (hs:d≠s) (hq:∀v,Pr.le (p v) q) (hg:o.guard=none) (h1:E.lookup s=some p1) (hls:s∈looks o) (h:∀v,DI P M0 w0 S n j R ⟨d,R' v⟩ o ((s,Ag v p1)::E) (p v)):DI P M0 w0 S n j R ⟨.two d s,UG R'⟩ o E q:=by
 refine ⟨hg,fun M w a rs hsz he hI hj=> ?_⟩
 refine Dn.conv (hq _) (fun v=> ?_) ((h (a.tmps.getD s undef)).2 M w a rs hsz (IL he s (he s p1 hls h1)) hI hj)
 rw [N3,hd,BF (Ne.symm hs)];rfl
theorem ZD {t:TypeId} {s y:Tmp} {j m:Nat} {T:TypeId} {ps qs:List Pr} {p:Pr} (hg:o.guard=none) (hd:o.dst=none) (ho:o.op= .store t (.tmp s) (.tmp y)) (hsy:s≠y) (hx:E.lookup s=some (Cp.ex fun b=>ptr b 0)) (hy:E.lookup y=some p) (hp:Pr.le p (DR qs))
  (hz:Ay P t=some m) (hm:qs.length=m) (hl:ps.length=m):DI P M0 w0 S n j ⟨s,EO T ps⟩ ⟨.two s y,UG fun u v=>e7 T u v⟩ o E any:=by
 refine ⟨hg,fun M w a rs hsz he hI hj=> ?_⟩
 have hyl:y∈looks o:=MY (op:= .store t (.tmp s) (.tmp y)) (by simp [Op.operands]) ho
 have hpy:=hp _ _ _ (he y p hyl hy)
 have hle:Pr.le (Ag (a.tmps.getD y undef) (DR qs)) (DR ((a.tmps.getD y undef).cells.toList.map is)):=fun M w v h=>by
  obtain ⟨rfl,h2⟩:=h
  obtain ⟨g1,g2⟩:=h2
  exact ⟨J7 _ _ _,g2⟩
 have h:=(DC (P:=P) (M0:=M0) (w0:=w0) (S:=S) (n:=n) (j:=j) (T:=T) (ps:=ps) (qs:=(a.tmps.getD y undef).cells.toList.map is) (E:=(y,Ag (a.tmps.getD y undef) (DR qs))::E) hg hd ho (by simp only [List.lookup];rw [show (s==y)=false by simpa using hsy];exact hx) ⟨_,List.lookup_cons_self,hle⟩ hz (by have:=hpy.1.length;rw [List.length_map];omega) hl).2 M w a rs hsz (IL he y hpy) hI hj
 refine Dn.conv (Pr.le_refl _) (fun v=> ?_) h
 rw [N3,hd];rfl
end
section
variable {P:Program} {L:Lg P} {n:Fm} {fz:Nat} {E:Env} {M0:Av} {w0:World} {S:Nat→Prop} {rs:List Ao} {Q:Exit→Act→World→Prop}
theorem UH {M:Av} {w:World}:∀{zs cs:List Value},HL M w (zs.map is) cs→cs=zs
 |[],[],_=>rfl
 |[],_::_,h=>h.elim
 |_::_,[],h=>h.elim
 |z::zs,c::cs,h=>by
  obtain ⟨h1,h2⟩:=h
  rw [UH h2,show c=z from h1]
theorem Fin.e8 {e:Exit} {T:TypeId} {u:Value} {b:Nat} {ps:List Pr} (i j:Nat) (hi:rs[i]? =some (JP (agg ps) u)) (hj:rs[j]? =some (e7 T u (.pointer (some ⟨b,0,none⟩)))) (k:Fin n E (Hp M0 w0 S (rs.set j (AB true b T ps))) Q e):Fin n E (Hp M0 w0 S rs) Q e:=by
 rintro a w ⟨M,h1,h2,h3,h4⟩
 have h4:At M0 w0 S rs M w:=h4
 refine k a w ⟨M,h1,h2,h3,At.Cl h4 hj rfl rfl ?_⟩
 obtain ⟨cs,rfl,_,hcs⟩:=(h4.hold _ (List.mem_of_getElem? hi)).1
 obtain ⟨g0,cs',g1,g2,g3⟩:=(h4.hold _ (List.mem_of_getElem? hj)).1
 have e1:cs'=cs:=by
  have:=UH g2
  rw [this];show cs.toArray.toList=cs;simp
 subst e1
 exact ⟨g0,cs',g1,hcs,g3⟩
end
section
variable {P:Program}
theorem CX.ko {f:FuncId} {args:List Pr} {res:Pr} {r:Ao} (h:CX P f args res r (fun _=>r)) (hb:r.blk=none) (W:World) (vs:List Value) (hr:r.h gO W) (hv:HL gO W args vs):
  Calls P f vs.toArray W fun e w'=>∃v,e= .returned v∧res.h gO w' v∧Below W.heap.size W w':=by
 refine (h.2 gO W FR [] gO W vs ((At.begin (nj W)).Gi (r:=r) hb hr) hv).mono ?_
 rintro e w' ⟨v,M',rfl,h2,h3,h4⟩
 exact ⟨v,rfl,res.st _ _ _ _ _ (Ext.less h4.m) h2,h4.below⟩
end
section
variable {P:Program} {n:Fm} {E:Env} {M0:Av} {w0:World} {S:Nat→Prop} {rs:List Ao} {Q:Exit→Act→World→Prop} {p0 p1:Pr} {R:Value→Ao}
end
section
variable {P:Program} {L:Lg P} {n:Fm} {E:Env} {M0:Av} {w0:World} {S:Nat→Prop} {rs:List Ao} {Q:Exit→Act→World→Prop} {c:Code}
theorem Tr.wo {e:TypeId} {sz:Nat} {rows:List (List Pr)} {p:Pr} (s:Nat) (hs:E.lookup s=some p) (hp:Pr.le p (full sz rows)) (k:∀v,Tr L n ((s,Ag v (slice sz rows))::E) (Hp M0 w0 S (Aq e sz v::rs)) c Q):Tr L n E (Hp M0 w0 S rs) c Q:=by
 intro a w hst
 obtain ⟨M,k1,k2,k3,k4⟩:=hst
 have k4:At M0 w0 S rs M w:=k4
 obtain ⟨h1,A,h2⟩:=hp _ _ _ (k3 s p hs)
 refine k (a.tmps.getD s undef) a w ⟨M,k1,k2,fun t q hq=> ?_,At.Gi k4 ?_ ?_⟩
 ·
  simp only [List.lookup] at hq
  split at hq
  ·
   rename_i e1
   have:t=s:=by simpa using e1
   subst this
   simp only [Option.some.injEq] at hq
   subst hq
   exact ⟨rfl,h1⟩
  · exact k3 t q hq
 ·
  rw [h2]
  show C_ _=none
  cases A with
  |none=>rfl
  |some x=>simp [C_]
 ·
  intro b m d hv hlt
  rw [h2] at hv
  cases hv
  exact absurd hlt (Nat.lt_irrefl _)
variable {ε:Type}
theorem Xo {f:ε→Ao}:∀{X:List ε} {k:Nat} {x:ε},X[k]? =some x→(Gh (fun x=>[f x]) X)[k]? =some (f x)
 |[],_,_,h=>by simp at h
 |a::X,0,x,h=>by simp at h;subst h;rfl
 |a::X,k+1,x,h=>by
  show (Gh (fun x=>[f x]) X)[k]? =_
  exact Xo (by simpa using h)
theorem Fin.fold {x:Exit} {res:ε→List Ao} (CT:List Ao) {es:List ε} (y:ε) (NS:rs=res y++(CT++Gh res es)) (k:Fin n E (Hp M0 w0 S (CT++Gh res (es++[y]))) Q x):Fin n E (Hp M0 w0 S rs) Q x:=
 Fin.Lp (by
  subst NS
  rw [Tc,←List.append_assoc CT]
  exact List.perm_append_comm) k
theorem Tr.kr {f:ε→Value} {g:ε→Pr} {X:List ε} {p:Pr} (j s:Nat) (hj:rs[j]? =some (eF f g X)) (hs:E.lookup s=some p) (hp:Pr.le p (slice 1 (X.map fun x=>[is (f x)]))) (k:Tr L n ((s,slice 1 (X.map fun x=>[g x]))::E) (Hp M0 w0 S rs) c Q):Tr L n E (Hp M0 w0 S rs) c Q:=by
 intro a w ha
 obtain ⟨M,k1,k2,k3,k4⟩:=ha
 have k4:At M0 w0 S rs M w:=k4
 refine k a w ⟨M,k1,k2,fun t q hq=> ?_,k4⟩
 simp only [List.lookup] at hq
 split at hq
 ·
  rename_i e1
  have:t=s:=by simpa using e1
  subst this
  simp only [Option.some.injEq] at hq
  subst hq
  obtain ⟨ad,cap,h1,h2,h3,h4,h5⟩:=hp _ _ _ (k3 t p hs)
  have hall:=(k4.hold _ (List.mem_of_getElem? hj)).1
  refine ⟨ad,cap,by rw [h1];simp,by simpa using h2,h3,h4,fun i row hr=> ?_⟩
  rw [List.getElem?_map] at hr
  cases hx:X[i]? with
  |none=>rw [hx] at hr;cases hr
  |some x=>
   rw [hx] at hr
   simp only [Option.map_some,Option.some.injEq] at hr
   subst hr
   obtain ⟨_,ad2,h6,h7⟩:=h5 i [is (f x)] (by rw [List.getElem?_map,hx];rfl)
   refine ⟨rfl,ad2,h6,fun q r hr=> ?_⟩
   cases q with
   |zero=>
    simp only [List.getElem?_cons_zero,Option.some.injEq] at hr
    subst hr
    obtain ⟨u,h8,h9,h10,h11⟩:=h7 0 _ rfl
    have hu:u=f x:=h11
    exact ⟨u,h8,h9,h10,by rw [hu];exact hall x (List.mem_of_getElem? hx)⟩
   |succ q=>simp at hr
 · exact k3 t q hq
abbrev Ga (e:TypeId) (x:Nat×List Bool):List Ao:=[AB true x.1 e (x.2.map fun b=>bool b)]
theorem e_ {n:Nat}:(List.replicate n (Value.bool false)).map is=(List.replicate n false).map fun b=>bool b:=by rw [List.map_replicate,List.map_replicate]
theorem Tr.ku {e:TypeId} {m:Nat} {X:List (Nat×List Bool)} {p:Pr} (CT:List Ao) (s:Nat) (NS:rs=CT++Gh (Ga e) X) (hm:m≤maxLen) (hX:∀x∈X,x.2.length=m) (hs:E.lookup s=some p) (hp:Pr.le p (slice 1 (X.map fun x=>[is (Im m x.1)])))
  (k:Tr L n ((s,slice 1 (X.map fun x=>[slice 1 (x.2.map fun b=>[bool b])]))::E) (Hp M0 w0 S (eF (fun x:Nat×List Bool=>Im m x.1) (fun x=>slice 1 (x.2.map fun b=>[bool b])) X::CT)) c Q):Tr L n E (Hp M0 w0 S rs) c Q:=by
 subst NS
 intro a w hst
 obtain ⟨M,k1,k2,k3,k4⟩:=hst
 have k4:At M0 w0 S (CT++Gh (Ga e) X) M w:=k4
 obtain ⟨M1,g1,g2,g3⟩:=At.R7 (w:=w) (Φ:=fun (x:Nat×List Bool) M w=>Row M w ⟨x.1,0,none⟩ 0 (x.2.map fun b=>bool b)) (fun x M M' he h=>Row.st he h) (fun x rs M h=>by
  obtain ⟨M',h1,h2,h3⟩:=At.Wp h
  exact ⟨M',h2,h1,h3⟩) X _ M k4
 refine Tr.kr (f:=fun x:Nat×List Bool=>Im m x.1) (g:=fun x=>slice 1 (x.2.map fun b=>[bool b])) (X:=X) 0 s rfl hs hp k a w ⟨M1,k1,k2,fun t q hq=>q.st _ _ _ _ _ g1 (k3 t q hq),At.Gi g2 rfl fun x hx=> ?_⟩
 have hl:=hX x hx
 refine ⟨some ⟨x.1,0,none⟩,m,by rw [List.length_map,hl],by rw [List.length_map,hl];exact Nat.le_refl _,hm,(fun h=>nomatch h),fun i row hr=> ?_⟩
 rw [List.getElem?_map] at hr
 cases hb:x.2[i]? with
 |none=>rw [hb] at hr;cases hr
 |some b=>
  rw [hb] at hr
  simp only [Option.map_some,Option.some.injEq] at hr
  subst hr
  refine ⟨rfl,_,rfl,fun q r hq=> ?_⟩
  cases q with
  |zero=>
   simp only [List.getElem?_cons_zero,Option.some.injEq] at hq
   subst hq
   have:=g3 x hx i (bool b) (by rw [List.getElem?_map,hb];rfl)
   simpa using this
  |succ q=>simp at hq
end
theorem nE {i m:Nat} (h:i≤m) (hm:m≤40):1≤2 ^ i∧2 ^ i≤2 ^ m∧2 ^ m≤1099511627776:=
 ⟨Nat.one_le_two_pow,Nat.pow_le_pow_right (by omega) h,Nat.le_trans (Nat.pow_le_pow_right (n:=2) (by omega) hm) (by decide)⟩
section
variable {P:Program} {I:CU} {o:Oper} {E:Env}
theorem Xp {t u:TypeId} {x y:Operand} {i:Int} (ho:o.op= .binOp .shl t x y u) (hx:VL E x (int 1)) (hy:VL E y (int i)) (h0:0≤i) (h40:i≤40):Aa P I o E (int ((2 ^ i.toNat:Nat):Int)):=
 Aa.same fun M w a he _=>by
  have h1:a.eval x= .int .i64 1:=hx.ev he (by simp [ho,Op.operands])
  have h2:a.eval y= .int .i64 i:=hy.ev he (by simp [ho,Op.operands])
  have hn:¬i<0:=by omega
  have hmin:min i.toNat 64=i.toNat:=by omega
  have e:((2 ^ i.toNat:Nat):Int)=(2:Int) ^ i.toNat:=Int.natCast_pow 2 i.toNat
  obtain ⟨bL,hp2,hp3⟩:=nE (i:=i.toNat) (m:=i.toNat) (Nat.le_refl _) (by omega)
  have hw:IntKind.i64.wrap (2 ^ i.toNat)=2 ^ i.toNat:=by rw [←e];exact F8 (by unfold Kz;omega)
  refine ⟨.int .i64 (IntKind.i64.wrap (1*2 ^ (min i.toNat IntKind.i64.bits))),?_,?_⟩
  ·
   simp only [execOp,ho,h1,h2]
   simp [eqGuard,binOp,Op.shift,hn]
   try rw [show min i.toNat IntKind.i64.bits=i.toNat from hmin]
  ·
   show Value.int _ _=Value.int _ _
   rw [show min i.toNat IntKind.i64.bits=i.toNat from hmin,Int.one_mul,hw,e]
theorem q_ {t u:TypeId} {x y:Operand} {a b m:Nat} (ho:o.op= .binOp .or t x y u) (hx:VL E x (int (a:Int))) (hy:VL E y (int (b:Int))) (ha:a<2 ^ m) (hb:b<2 ^ m) (hm:m≤40):Aa P I o E (int ((a|||b:Nat):Int)):=
 Aa.same fun M w c he _=>by
  have h1:c.eval x= .int .i64 a:=hx.ev he (by simp [ho,Op.operands])
  have h2:c.eval y= .int .i64 b:=hy.ev he (by simp [ho,Op.operands])
  obtain ⟨_,_,hp3⟩:=nE (i:=m) (m:=m) (Nat.le_refl _) hm
  have hab:a|||b<2 ^ m:=Nat.or_lt_two_pow ha hb
  have ea:(BitVec.ofInt 64 (a:Int)).toNat=a:=by rw [BitVec.toNat_ofInt];omega
  have eb:(BitVec.ofInt 64 (b:Int)).toNat=b:=by rw [BitVec.toNat_ofInt];omega
  have er:(BitVec.ofInt 64 (a:Int)|||BitVec.ofInt 64 (b:Int)).toNat=a|||b:=by rw [BitVec.toNat_or,ea,eb]
  refine ⟨_,by simp [execOp,ho,h1,h2,eqGuard,binOp,Op.intBits];rfl,?_⟩
  show Value.int _ _=Value.int _ _
  congr 1
  show IntKind.i64.wrap (((BitVec.ofInt 64 (a:Int)|||BitVec.ofInt 64 (b:Int)).toNat:Nat):Int)=_
  rw [er]
  exact F8 (by unfold Kz;omega)
end
section
variable {P:Program} {fz:Nat} {E:Env} {M0:Av} {w0:World} {rs:List Ao} {g:Func}
theorem results4 {r r' r'' r3:ResultVar} {a:Act} {w:World} {v v' v'' v3:Value} (hr:g.results= #[r,r',r'',r3]) (h:(GP r a).run P w= .ok v w) (h':(GP r' a).run P w= .ok v' w) (h'':(GP r'' a).run P w= .ok v'' w) (h3:(GP r3 a).run P w= .ok v3 w):(results g a.tmps).run P w= .ok (.tuple #[v,v',v'',v3]) w:=by
 rw [GQ,hr];simp [Sem.run_bind,h,h',h'',h3]
theorem Fin.NF {r r' r'' r3:ResultVar} {p q q' aA q3:Pr} (hr:g.results= #[r,r',r'',r3]) (h:AO P E rs r q) (h':AO P E rs r' q') (h'':AO P E rs r'' aA) (h3:AO P E rs r3 q3) (hl:Pr.le (EK [q,q',aA,q3]) p):Fin ⟨fz,[]⟩ E (Hp M0 w0 FR rs) (bodyPost P g (Rc M0 w0 p)) .ret:=by
 rintro a w ⟨M,_,hd,he,hi⟩
 obtain ⟨v,hv,hp⟩:=h M w a he (fun q hq=>(hi.hold q hq).1)
 obtain ⟨v',iE,hp'⟩:=h' M w a he (fun q hq=>(hi.hold q hq).1)
 obtain ⟨v'',aR,aS⟩:=h'' M w a he (fun q hq=>(hi.hold q hq).1)
 obtain ⟨v3,hv3,hp3⟩:=h3 M w a he (fun q hq=>(hi.hold q hq).1)
 obtain ⟨h1,h2⟩:=Bc.DZ M0 w0 M w hi
 exact ⟨hd,_,results4 hr hv iE aR hv3,_,rfl,p.st _ _ _ _ _ (Ext.less h1) (hl _ _ _ ⟨[_,_,_,_],rfl,hp,hp',aS,hp3,trivial⟩),h2⟩
end
def V9 {β:Type} (b:Nat) (e:TypeId) (f:β→List Pr) (φ:β→Prop):Ao where
 blk:=some b
 new:=true
 h M w:=∃x:β,φ x∧(AB true b e (f x)).h M w
 st M w M' w' he hk h:=let ⟨x,h1,h2⟩:=h;⟨x,h1,(AB true b e (f x)).st M w M' w' he hk h2⟩
def Si {β:Type} (T:TypeId) (f:β→List Pr) (φ:β→Prop) (v:Value):Ao:=match v with| .pointer (some a)=>V9 a.block T f φ|_=>Bp
section
variable {P:Program} {L:Lg P} {n:Fm} {E:Env} {M0:Av} {w0:World} {S:Nat→Prop} {rs:List Ao} {o:Oper} {β:Type} {f:β→List Pr} {φ:β→Prop}
theorem Fin.Xq {Q:Exit→Act→World→Prop} {x:Exit} {b:Nat} {e:TypeId} (j:Nat) (hj:rs[j]? =some (V9 b e f φ)) (k:∀z,φ z→Fin n E (Hp M0 w0 S (rs.set j (AB true b e (f z)))) Q x):Fin n E (Hp M0 w0 S rs) Q x:=by
 intro a w h
 obtain ⟨M,h1,h2,h3,h4⟩:=h
 have h4:At M0 w0 S rs M w:=h4
 obtain ⟨z,hp,h8⟩:=(h4.hold _ (List.mem_of_getElem? hj)).1
 exact k z hp a w ⟨M,h1,h2,h3,h4.Cl hj rfl rfl h8⟩
theorem Dn.wk {a:Act} {M:Av} {w:World} {p:Pr} {j:Nat} {R1 R2:SR} {rs:List Ao} {r:Result Next} (hjl:j<rs.length) (hd:o.dst=none) (hb:(R2.at_ a).blk=(R1.at_ a).blk) (hn:(R2.at_ a).new=(R1.at_ a).new) (hh:∀M w,(R1.at_ a).h M w→(R2.at_ a).h M w) (h:Dn P M0 w0 S o a M w p j R1 rs r):Dn P M0 w0 S o a M w p j R2 rs r:=by
 have key:∀v M' w',At M0 w0 S (rs.set j (R1.at_ (a.put o.dst v))) M' w'→At M0 w0 S (rs.set j (R2.at_ (a.put o.dst v))) M' w':=by
  intro v M' w' hI
  rw [hd] at hI ⊢
  have hI:At M0 w0 S (rs.set j (R1.at_ a)) M' w':=hI
  have h1:(rs.set j (R1.at_ a))[j]? =some (R1.at_ a):=by rw [List.getElem?_set_self hjl]
  have:=hI.Cl (r':=R2.at_ a) h1 hb hn (hh _ _ (hI.hold _ (List.mem_of_getElem? h1)).1)
  rw [List.set_set] at this
  exact this
 cases r with
 |halt x w'=>exact h
 |ok x w'=>
  cases x
  case value v=>obtain ⟨M',g1,g2,g3⟩:=h;exact ⟨M',g1,g2,key _ _ _ g3⟩
  case skip=>obtain ⟨M',g1,g2,g3⟩:=h;exact ⟨M',g1,g2,key _ _ _ g3⟩
  case enter f args=>
   refine Calls.mono h ?_
   rintro e w'' ⟨v,M',g0,g1,g2,g3⟩
   exact ⟨v,M',g0,g1,g2,key _ _ _ g3⟩
  all_goals exact h
theorem Jw {t:TypeId} {s y:Tmp} {j m:Nat} {T:TypeId} {ps:List Pr} (hg:o.guard=none) (hd:o.dst=none) (ho:o.op= .store t (.tmp s) (.tmp y)) (hsy:s≠y) (hx:E.lookup s=some (Cp.ex fun b=>ptr b 0)) (hy:E.lookup y=some (Cp.ex fun z:β=>fact (φ z) (agg (f z))))
  (hz:Ay P t=some m) (hm:∀z,(f z).length=m) (hl:ps.length=m):DI P M0 w0 S n j ⟨s,EO T ps⟩ ⟨s,Si T f φ⟩ o E any:=by
 have hlk:y∈looks o:=MY (op:= .store t (.tmp s) (.tmp y)) (by simp [Op.operands]) ho
 refine DI.MB y hg hy hlk fun z=>DI.opf y hg (by simp [List.lookup];rfl) hlk fun hφ=> ?_
 have hx':List.lookup s ((y,agg (f z))::(y,fact (φ z) (agg (f z)))::E)=some (Cp.ex fun b=>ptr b 0):=by
  have:(s==y)=false:=by simpa using hsy
  simp only [List.lookup,this];exact hx
 have h:=DC (P:=P) (M0:=M0) (w0:=w0) (S:=S) (n:=n) (j:=j) (T:=T) (ps:=ps) (qs:=f z) (E:=(y,agg (f z))::(y,fact (φ z) (agg (f z)))::E) hg hd ho hx' ⟨agg (f z),by simp [C6,List.lookup],AZ _⟩ hz (hm z) hl
 refine ⟨hg,fun M w a rs hsz he hI hj=> ?_⟩
 have hjl:j<rs.length:=by rcases Nat.lt_or_ge j rs.length with h'|h';exact h';rw [List.getElem?_eq_none h'] at hj;cases hj
 have hv:∃b,a.tmps.getD s undef= .pointer (some ⟨b,0,none⟩):=by
  have hxv:VL ((y,agg (f z))::(y,fact (φ z) (agg (f z)))::E) (.tmp s) (Cp.ex fun b=>ptr b 0):=⟨_,hx',Pr.le_refl _⟩
  exact hxv.ev he (show (Operand.tmp s)∈o.op.operands.toList by simp [ho,Op.operands])
 obtain ⟨b,hv⟩:=hv
 have e1:SR.at_ a ⟨s,EO T (f z)⟩=AB true b T (f z):=by show EO T (f z) (a.tmps.getD s undef)=_;rw [hv];rfl
 have e2:SR.at_ a ⟨s,Si T f φ⟩=V9 b T f φ:=by show Si T f φ (a.tmps.getD s undef)=_;rw [hv];rfl
 refine Dn.wk hjl hd ?_ ?_ ?_ (h.2 M w a rs hsz he hI hj)
 · rw [e1,e2];rfl
 · rw [e1,e2];rfl
 · rw [e1,e2];exact fun M w h=>⟨z,hφ,h⟩
end
theorem BA.fA {P:Program} {f:FuncId} {α:Type} {φ:α→Prop} {p:α→Pr} {res:Pr} (pre:List Pr) {post:List Pr} (q:α) (hq:φ q) (h:∀z,φ z→BA P f (pre++p z::post) res):BA P f (pre++(Cp.ex fun z=>fact (φ z) (p z))::post) res:=by
 refine ⟨(h q hq).1,fun M w vs hb hv=> ?_⟩
 have key:∀(pre:List Pr) (vs:List Value),HL M w (pre++(Cp.ex fun z=>fact (φ z) (p z))::post) vs→∃z,φ z∧HL M w (pre++p z::post) vs:=by
  intro pre
  induction pre with
  |nil=>
   intro vs hv
   match vs,hv with
   |u::us,⟨⟨z,hz,h1⟩,h2⟩=>exact ⟨z,hz,h1,h2⟩
  |cons a pre ih=>
   intro vs hv
   match vs,hv with
   |u::us,⟨h1,h2⟩=>
    obtain ⟨z,hz,h3⟩:=ih us h2
    exact ⟨z,hz,h1,h3⟩
 obtain ⟨z,hz,h2⟩:=key pre vs hv
 exact (h z hz).2 M w vs hb h2
section
variable {P:Program} {L:Lg P} {n:Fm} {fz:Nat} {E:Env} {I:CU} {M0:Av} {w0:World} {S:Nat→Prop} {rs:List Ao} {Q:Exit→Act→World→Prop} {c:Code}
theorem Tr.fB {α β:Type} {p gf:Nat} {g:Operand} {lb:Array Value} {enc:α→Value} {xs:List α} {own:List α→List Ao} {assign body:Code} (q:Nat) (K:Env) (hK:CD E K) (R RX:List α→β→List Ao) (d0:β)
  (kK:Lj P gf lb enc xs own) (eg:Entry P gf) (hg:VL E g (is (.func (.func gf) #[] lb))) (NS:rs.Perm (own []++R [] d0)) (hp:K.lookup p=none) (hpn:p<n.sz)
  (hassign:∀l D rec M1 w1 pre x d,(pre++[x])<+:xs→Tr (Xd P (some l)) ⟨n.sz,[]⟩ ((p,is (enc x))::K) (Hp M0 w0 S (own (pre++[x])++Fi l D rec M1 w1 (R pre d))) assign (Exit.then (St ⟨n.sz,[]⟩ ((q,is (enc x))::K) (Hp M0 w0 S (own (pre++[x])++Fi l D rec M1 w1 (R pre d)))) (fun _ _ _=>False)))
  (hbody : ∀ l D rec M1 w1 pre x d, (pre ++ [x]) <+: xs → Tr (Xd P (some l)) ⟨n.sz, []⟩ ((q, is (enc x)) :: K) (Hp M0 w0 S (own (pre ++ [x]) ++ Fi l D rec M1 w1 (R pre d))) body
   (IJ M0 w0 S (fun d:β=>own (pre++[x])++Fi l D rec M1 w1 (R (pre++[x]) d)) (fun c d=>own (pre++[x])++Fi l D rec M1 w1 (Bx (c= .ret)::RX (pre++[x]) d))))
  (hdone:∀l D rec M1 w1 d,Fin ⟨n.sz,mark D::n.df⟩ E (Hp M0 w0 S (own xs++Fi l D rec M1 w1 (R xs d))) Q .normal)
  (hstop:∀l D rec M1 w1 pre d,pre<+:xs→Fin ⟨n.sz,mark D::n.df⟩ E (Hp M0 w0 S (own pre++Fi l D rec M1 w1 (RX pre d))) Q .ret):
  Tr (Uj P) n E (Hp M0 w0 S rs) (.rangeFunc g #[p] assign body) Q:=by
 refine Tr.eC (fun x=>(q,is (enc x))::K) R (fun c pre d=>Bx (c= .ret)::RX pre d) d0 kK (fun args w=>DH eg args w) hg NS ?_ ?_ hdone ?_
 ·
  intro l D rec M1 w1 pre x d hpre a hsz hE M w hI
  have hx:Ext M1 w1 M w:=(hI.hold (Aj M1 w1) (by simp)).1
  refine hassign l D rec M1 w1 pre x d hpre _ w ⟨M,by simpa using hsz,rfl,fun s z hq=> ?_,hI⟩
  simp only [List.lookup] at hq
  by_cases hs:s=p
  ·
   subst hs
   simp only [beq_self_eq_true,Option.some.injEq] at hq
   subst hq
   show (a.tmps.setIfInBounds s (enc x)).getD s undef=enc x
   simp [Array.getD_eq_getD_getElem?,hsz,hpn]
  ·
   rw [show (s==p)=false by simpa using hs] at hq
   obtain ⟨z',FE,Gf⟩:=hK.spec s z hq
   have h2:=z.st _ _ _ _ _ hx (Gf _ _ _ (hE s z' FE))
   show z.h M w ((a.tmps.setIfInBounds p (enc x)).getD s undef)
   have e1:(a.tmps.setIfInBounds p (enc x)).getD s undef=a.tmps.getD s undef:=by
    simp only [Array.getD_eq_getD_getElem?]
    rw [Array.getElem?_setIfInBounds_ne (fun e=>hs e.symm)]
   rw [e1];exact h2
 ·
  intro l D rec M1 w1 pre x d hpre
  exact hbody l D rec M1 w1 pre x d hpre
 ·
  intro l D rec M1 w1 c pre d hpre a w ⟨M,h1,h2,h3,h⟩
  have h:At M0 w0 S (own pre++Fi l D rec M1 w1 (Bx (c= .ret)::RX pre d)) M w:=h
  have hc:c= .ret:=(h.hold (Bx (c= .ret)) (by simp)).1
  subst hc
  have h5:At M0 w0 S (Bx (Code.ret= .ret)::(own pre++Fi l D rec M1 w1 (RX pre d))) M w:=by
   refine At.perm ?_ h
   have:=List.perm_middle (a:=Bx (Code.ret= .ret)) (l₁:=own pre++[A8 l rec,A8 D (.deferred (some [])),Aj M1 w1]) (l₂:=RX pre d)
   simpa [Fi] using this
  exact Tr.ret (hstop l D rec M1 w1 pre d hpre) a w ⟨M,h1,h2,h3,At.K_ h5⟩
theorem Tr.eE {α β:Type} {p gf:Nat} {g:Operand} {lb:Array Value} {enc:α→Value} {xs:List α} {own:List α→List Ao} {assign body:Code} (q:Nat) (K:Env) (hK:CD E K) (R:List α→β→List Ao) (d0:β)
  (kK:Lj P gf lb enc xs own) (eg:Entry P gf) (hg:VL E g (is (.func (.func gf) #[] lb))) (NS:rs.Perm (own []++R [] d0)) (hp:K.lookup p=none) (hpn:p<n.sz)
  (hassign:∀l D rec M1 w1 pre x d,(pre++[x])<+:xs→Tr (Xd P (some l)) ⟨n.sz,[]⟩ ((p,is (enc x))::K) (Hp M0 w0 S (own (pre++[x])++Fi l D rec M1 w1 (R pre d))) assign (Exit.then (St ⟨n.sz,[]⟩ ((q,is (enc x))::K) (Hp M0 w0 S (own (pre++[x])++Fi l D rec M1 w1 (R pre d)))) (fun _ _ _=>False)))
  (hbody : ∀ l D rec M1 w1 pre x d, (pre ++ [x]) <+: xs → Tr (Xd P (some l)) ⟨n.sz, []⟩ ((q, is (enc x)) :: K) (Hp M0 w0 S (own (pre ++ [x]) ++ Fi l D rec M1 w1 (R pre d))) body
   (IJ M0 w0 S (fun d:β=>own (pre++[x])++Fi l D rec M1 w1 (R (pre++[x]) d)) (fun c _=>own (pre++[x])++Fi l D rec M1 w1 [Bx (c= .ret),Bx False])))
  (hdone:∀l D rec M1 w1 d,Fin ⟨n.sz,mark D::n.df⟩ E (Hp M0 w0 S (own xs++Fi l D rec M1 w1 (R xs d))) Q .normal):
  Tr (Uj P) n E (Hp M0 w0 S rs) (.rangeFunc g #[p] assign body) Q:=
 Tr.fB q K hK R (fun _ _=>[Bx False]) d0 kK eg hg NS hp hpn hassign hbody hdone fun l D rec M1 w1 pre d _ a w ⟨M,_,_,_,h⟩=>by
  have h:At M0 w0 S (own pre++Fi l D rec M1 w1 [Bx False]) M w:=h
  exact ((h.hold (Bx False) (by simp)).1).elim
theorem Fin.rA {β:Type} {rr:β→List Ao} {os:List Ao} {tl:β→List Ao} {l D:Nat} {rec:Obj} {M1:Av} {w1:World} (d:β) (hp:rs.Perm (os++Fi l D rec M1 w1 (tl d))):Fin n E (Hp M0 w0 S rs) (IJ M0 w0 S rr (fun c d=>os++Fi l D rec M1 w1 (Bx (c= .ret)::tl d))) .ret:=by
 rintro a w ⟨M,_,_,_,h⟩
 have h:At M0 w0 S rs M w:=h
 refine ⟨d,M,At.perm ?_ (At.Gi (At.perm hp h) (r:=Bx (Code.ret= .ret)) rfl rfl)⟩
 have:=(List.perm_middle (a:=Bx (Code.ret= .ret)) (l₁:=os++[A8 l rec,A8 D (.deferred (some [])),Aj M1 w1]) (l₂:=tl d)).symm
 simpa [Fi] using this
theorem Fin.prop {e:Exit} {p:Prop} (j:Nat) (hj:rs[j]? =some (Bx p)) (k:p→Fin n E (Hp M0 w0 S rs) Q e):Fin n E (Hp M0 w0 S rs) Q e:=fun a w hs=>by
 obtain ⟨M,h1,h2,h3,h4⟩:=hs
 have h4:At M0 w0 S rs M w:=h4
 exact k (h4.hold _ (List.mem_of_getElem? hj)).1 a w ⟨M,h1,h2,h3,h4⟩
theorem Fin.fC {e:Exit} {p q:Prop} (j:Nat) (hj:rs[j]? =some (Bx p)) (h:p→q) (k:Fin n E (Hp M0 w0 S (rs.set j (Bx q))) Q e):Fin n E (Hp M0 w0 S rs) Q e:=fun a w hs=>by
 obtain ⟨M,h1,h2,h3,h4⟩:=hs
 have h4:At M0 w0 S rs M w:=h4
 exact k a w ⟨M,h1,h2,h3,h4.Cl hj rfl rfl (h (h4.hold _ (List.mem_of_getElem? hj)).1)⟩
theorem AO.nF (i:Nat) {c:Tmp} {t T:TypeId} {b:Nat} {new:Bool} {q p:Pr} (h:E.lookup c=some (ptr b 0)) (hi:rs[i]? =some (AB new b T [q])) (ht:D9 P t=true) (hl:Pr.le q p):AO P E rs (.cell c t) p:=by
 intro M w a he hr
 obtain ⟨_,cs,h4,h5,_⟩:=hr _ (List.mem_of_getElem? hi)
 obtain ⟨v,hv,hh⟩:=h5.at_ 0 q rfl
 have hc:w.cell? ⟨b,0,none⟩=some v:=by simp [World.cell?,h4,hv]
 have h1:(loadVar t ⟨b,0,none⟩).run P w= .ok v w:=by simp [loadVar,D6 ht,hc]
 refine ⟨v,?_,hl _ _ _ hh⟩
 have hc2:a.tmps.getD c undef= .pointer (some ⟨b,0,none⟩):=he _ _ h
 unfold GP
 simp only [hc2,asAddr]
 simpa [Sem.run_bind] using h1
theorem Tr.fD {T:TypeId} {sz:Nat} {rows:List (List Pr)} {v:Value} (j:Nat) (hj:rs[j]? =some (BX T sz rows v)) (k0:rows=[]→v= .slice none 0 0→Tr L n E (Hp M0 w0 S (rs.set j Bp)) c Q) (k1:Tr L n E (Hp M0 w0 S (rs.set j (HE T sz rows v))) c Q):Tr L n E (Hp M0 w0 S rs) c Q:=fun a w hs=>by
 obtain ⟨M,h1,h2,h3,h4⟩:=hs
 have h4:At M0 w0 S rs M w:=h4
 rcases (h4.hold _ (List.mem_of_getElem? hj)).1 with ⟨e1,e2⟩|hm
 · exact k0 e1 e2 a w ⟨M,h1,h2,h3,h4.Cl (r':=Bp) hj (by rw [e2];rfl) rfl trivial⟩
 · exact k1 a w ⟨M,h1,h2,h3,h4.Cl (r':=HE T sz rows v) hj rfl rfl hm⟩
theorem Fin.KS {e:Exit} (T:TypeId) (sz:Nat) (k:Fin n E (Hp M0 w0 S (BX T sz [] (.slice none 0 0)::rs)) Q e):Fin n E (Hp M0 w0 S rs) Q e:=fun a w hs=>by
 obtain ⟨M,h1,h2,h3,h4⟩:=hs
 have h4:At M0 w0 S rs M w:=h4
 exact k a w ⟨M,h1,h2,h3,At.Gi h4 (r:=BX T sz [] (.slice none 0 0)) rfl (.inl ⟨rfl,rfl⟩)⟩
end
end Cp
namespace Go.Proofs.YtkobgkelhcigdaaGreatDoor
open Go Go.RowKit Cp Go.Proofs.Tryz
-- sets as bits: read, closed, what can be added (behind ACA.lean)
def Lq (l:List Int):BitVec 32:=l.foldl (fun b i=>Vv b i.toNat) 0#32
theorem V_ {l:List Int} {k:Nat} {x:Int} (h:l[k]? =some x):Lq (l.take (k+1))=Vv (Lq (l.take k)) x.toNat:=by unfold Lq;rw [List.take_add_one,h,List.foldl_append];rfl
theorem Xr {n:Nat} (hn:n≤32):∀(l:List Int) (b:BitVec 32) (i:Nat),(∀x∈l,0≤x∧x<n)→((l.foldl (fun b i=>Vv b i.toNat) b).getLsbD i=true↔b.getLsbD i=true∨(i:Int)∈l)
 |[],b,i,_=>by simp
 |x::l,b,i,h=>by
  have hx:=h x (List.mem_cons_self ..)
  rw [List.foldl_cons,Xr hn l (Vv b x.toNat) i (fun y hy=>h y (List.mem_cons_of_mem _ hy)),Vx (by omega),Bool.or_eq_true,decide_eq_true_eq,List.mem_cons]
  constructor
  ·
   rintro ((h1|h1)|h1)
   · exact .inl h1
   · right;left;omega
   · exact .inr (.inr h1)
  ·
   rintro (h1|h1|h1)
   · exact .inl (.inl h1)
   · left;right;omega
   · exact .inr h1
theorem WA {n:Nat} {l:List Int} (hn:n≤32) (h:∀x∈l,0≤x∧x<n):PN n (Lq l) l:=fun i=>by
 unfold Lq
 rw [Xr hn l 0#32 i h]
 simp
def Sj (B:List (BitVec 32)) (s:BitVec 32):Bool:=(K1 s).all fun i=>B.getD i 0#32&&&~~~s==0#32
theorem Xs {n:Int} {l:List BG} {s:BitVec 32} {d:List Int} (hv:BC n l=0) (hs:PN n.toNat s d) (hd:∀x∈d,0≤x∧x<n):Sj (EW n.toNat l) s=CW l d:=by
 obtain ⟨hn,hb,_,_⟩:=C3 hv
 have hB:=Fj (n:=n.toNat) (l:=l) (by omega)
 have hat:∀i,i<n.toNat→(EW n.toNat l)[i]? =some ((EW n.toNat l).getD i 0#32):=fun i hi=>by
  rw [List.getD_eq_getElem?_getD,List.getElem?_eq_getElem (by rw [Co];exact hi)];rfl
 rw [Bool.eq_iff_iff]
 unfold Sj
 rw [List.all_eq_true]
 constructor
 ·
  intro h
  refine DP.2 fun r hr hm=> ?_
  have hbr:=hb r hr
  unfold Dy at hbr;rw [decide_eq_false_iff_not] at hbr
  have e1:((r.thn.toNat:Nat):Int)=r.thn:=by omega
  have e2:((r.fst.toNat:Nat):Int)=r.fst:=by omega
  have h1:s.getLsbD r.thn.toNat=true:=(hs _).2 (by rw [e1];exact hm)
  have h2:=h _ (Jt.2 h1)
  rw [beq_iff_eq,PO] at h2
  have h3:=h2 r.fst.toNat (by
   rw [hB.2 _ _ (hat r.thn.toNat (by omega))]
   rw [Bool.and_eq_true,decide_eq_true_eq]
   refine ⟨by omega,Jq ?_ _⟩
   unfold F1
   exact List.any_eq_true.2 ⟨r,hr,by simp;omega⟩)
  have:=(hs _).1 h3
  rw [e2] at this;exact this
 ·
  intro h i hi
  have h1:=Jt.1 hi
  have h2:=(hs i).1 h1
  have h3:=hd _ h2
  rw [beq_iff_eq,PO]
  intro a ha
  rw [hB.2 _ _ (hat i (by omega)),Bool.and_eq_true] at ha
  exact (hs a).2 (F3 h _ ha.2 h2)
theorem fE {n:Int} {s:List Int} {k:Nat} (hk:k≤s.length) (h:∀j,j<k→setAt n s j=true): -1≤M9 s k:=by
 unfold M9
 split
 · omega
 ·
  have h1:=h (k-1) (by omega)
  unfold setAt at h1
  simp only [Bool.and_eq_true,decide_eq_true_eq] at h1
  omega
theorem N4 {n:Nat} {s:List Int} (h:Dj (n:Int) s=true):∀x∈s,0≤x∧x<(n:Int):=fun x hx=>by
 obtain ⟨i,hi⟩:=List.mem_iff_getElem?.1 hx
 exact Nw h hi
theorem k5 {n:Nat} {s:List Int} {b:BitVec 32} (hb:PN n b s) (h:Dj (n:Int) s=true) {i:Nat} (hi:b.getLsbD i=true):i<n:=by
 have:=N4 h _ ((hb i).1 hi);omega
abbrev nG (n:Nat) (l:List Int):BitVec 32:=if Dj (n:Int) l=true then Lq l else 0#32
abbrev k6 (B:List (BitVec 32)) (s:BitVec 32) (pre:List Nat):Prop:=∀i∈pre,(B.getD i 0#32&&&~~~s==0#32)=true
theorem k7 {n:Nat} {B:List (BitVec 32)} {p:Pr} {l:List Int} (hn:n≤24):BA prog 62 [ref [int ((n:Nat):Int),bits B,p],ints l] (EK [u32 (nG n l),bool (Dj ((n:Nat):Int) l)]):=by
 refine fo func62 rfl ⟨rfl,rfl⟩ fun M0 w0=>(Tr.Cv 1 rfl fun GV=> ?_)
 iterate 4 refine ac ?_
 refine Tr.block (Tr.A9 [(0,_),(10,_),(11,_)] (L_ rfl) (fun k:Nat=>[(12,int ((k:Nat):Int)),(7,int (M9 l k)),(6,u32 (Lq (l.take k)))]) (fun k:Nat=>k≤(l).length∧(∀j,j<k→setAt (n:Nat) l j=true)) (fun k:Nat=>(l).length-k) 0 (⟨Nat.zero_le _,fun j hj=>absurd hj (by omega)⟩) ⟨ke rfl,⟨_,rfl,int_eq rfl⟩,⟨_,rfl,Lm⟩,trivial⟩ ?_)
 rintro k ⟨BP,AW⟩
 refine ac ?_
 refine Tr.seq ?_
 refine Tr.cn rfl ?_ ?_<;>intro h1 q1
 have Ai:k<(l).length:=AG h1
 obtain ⟨i,Af⟩:=at_ Ai
 have gT:=Oy AW Af
 have hlg:=fE (by omega) AW
 refine ac ?_
 refine Tr.seq (Tr.block (Tr.seq (Tr.Ah (co rfl (AA rfl underlying38 B4 (vl rfl) (vl rfl) (by omega) (AP Af)) ?_))))
 refine ac ?_
 refine ag ?_ ?_<;>intro h2 q2
 refine ac ?_
 refine Je 0 6 9 10 11 12 26 rfl ?_
 refine ac ?_
 refine Tr.ret (Fin.AD (Fin.AX (Fin.AD (Fin.AD (Fin.AX (Fin.AD (Fin.DG rfl (Bc.DZ _ _) rfl ?_ rfl ?_)))))))
 · rw [show nG n l=0#32 from if_neg (by rw [Nv (n:=(n:Int)) AW Af (by omega)];decide)];exact Lm
 · refine bool_eq ?_;exact (Nv (n:=(n:Int)) AW Af (by omega)).symm
 refine ac ?_
 refine Je 0 6 9 10 11 12 26 rfl ?_
 refine Tr.cn rfl ?_ ?_<;>intro h3 q3
 refine ac ?_
 refine Tr.ret (Fin.AD (Fin.AX (Fin.AD (Fin.AD (Fin.AX (Fin.AD (Fin.DG rfl (Bc.DZ _ _) rfl ?_ rfl ?_)))))))
 · rw [show nG n l=0#32 from if_neg (by rw [Nv (n:=(n:Int)) AW Af (by omega)];decide)];exact Lm
 · refine bool_eq ?_;exact (Nv (n:=(n:Int)) AW Af (by omega)).symm
 refine a2 ?_
 refine co rfl (JN (b:=1#32) rfl (vl rfl) (vl rfl) (by omega)) ?_
 refine co rfl (Ll rfl (vl rfl) (vl rfl)) ?_
 refine a2 ?_
 refine K0 0 6 7 10 11 12 rfl ?_
 refine ac ?_
 exact Fin.AL (k+1) ⟨⟨Ai,Db AW (by rw [gT];simp;omega)⟩,by omega⟩ ⟨⟨_,rfl,AE k⟩,⟨_,rfl,int_eq (by rw [Vg Af])⟩,⟨_,rfl,Pr.le_of_eq (congrArg u32 (V_ Af).symm)⟩,ke rfl,ke rfl,ke rfl,trivial⟩
 have BJ:k=(l).length:=by have:=AH h1;omega
 subst BJ
 have hsb:Dj ((n:Nat):Int) l=true:=Bn.2 AW
 refine a2 ?_
 refine Tr.ret (Fin.DG rfl (Bc.DZ _ _) rfl ?_ rfl ?_)
 · rw [show nG n l=Lq l from if_pos hsb,List.take_length];exact Lr
 · refine bool_eq ?_;exact hsb.symm
theorem rB {B:List (BitVec 32)} {s y:BitVec 32} {x:Nat} (h:x∈K1 s) (hy:B[x]? =some y) (hn:(y&&&~~~s==0#32)=false):Sj B s=false:=by
 unfold Sj
 rw [List.all_eq_false]
 exact ⟨x,h,by rw [List.getD_eq_getElem?_getD,hy];simpa using hn⟩
theorem k8 {B:List (BitVec 32)} {s:BitVec 32} (h:k6 B s (K1 s)):Sj B s=true:=by
 unfold Sj
 exact List.all_eq_true.2 h
theorem ZE {n:Nat} {B:List (BitVec 32)} {p:Pr} [One p] {s:BitVec 32} (hB:B.length=n) (hs:∀i,s.getLsbD i=true→i<n):CX Tryz.prog 63 [ref [int ((n:Nat):Int),bits B,p],u32 s] (bool (Sj B s)) (FC) (fun _=>FC):=by
 refine CX.ofM Tryz.func63 rfl rfl (by exact Nat.le_of_ble_eq_true rfl) fun M0 w0 S rs M1 w1=> ?_
 refine Tr.seq ?_
 refine Tr.An ?_
 refine TO.op rfl rfl (by decide) (Bb rfl (VL.le (vl rfl) (Ae _))) ?_
 refine TO.op rfl rfl (by decide) (Bb rfl (VL.le (vl rfl) (Ae _))) ?_
 refine TO.alloc rfl rfl (by decide) rfl z4 zo4 (fun b1=> ?_)
 refine TO.nil ?_
 refine Fin.go ?_
 refine Tr.seq ?_
 refine Tr.seq ?_
 refine Tr.An ?_
 refine TO.op rfl rfl (by decide) (EL rfl Fa (vl rfl)) ?_
 refine TO.pad ?_
 refine TO.Dh 0 rfl rfl (by decide) (LA rfl rfl (by decide) rfl (ec) ⟨⟨_,rfl,Pr.le_refl _⟩,trivial⟩) (fun v1=> ?_)
 refine TO.nil ?_
 refine Fin.shape 7 (fun b=>eZ b) rfl (fun fb2 fe2=> ?_)
 subst fe2
 refine Fin.JQ 0 (AB true fb2 P6 [_]) rfl rfl ?_
 refine Fin.go ?_
 refine Tr.block ?_
 refine Tr.Xk (p:=k6 B s []) (fun i h=>(by cases h)) ?_
 refine Tr.fB 5 [(2,_),(3,_),(4,_)] ⟨⟨_,rfl,Pr.le_refl _⟩,⟨_,rfl,Pr.le_refl _⟩,⟨_,rfl,Pr.le_refl _⟩,trivial⟩ (fun pre (_:Unit)=>Bx (k6 B s pre)::AB true b1 4 [bool false]::Aj M1 w1::rs) (fun pre (_:Unit)=>Bx (Sj B s=false)::AB true b1 4 [bool false]::Aj M1 w1::rs) () (Sd (s:=s)) Se (vl rfl) ((Dp (j:=3) rfl).trans (List.Perm.cons _ ((Dp (j:=1) rfl).trans (List.Perm.cons _ (List.Perm.refl _))))) rfl (by exact Nat.le_of_ble_eq_true rfl) ?_ ?_ ?_ ?_
 ·
  rintro lk Dk rk Mr wr pre x _ hpre
  refine Tr.Ah ?_
  refine Ch.op rfl rfl (by decide) (DB rfl (vl rfl)) ?_
  refine Ch.nil ?_
  exact Fin.st ⟨⟨_,rfl,Pr.le_refl _⟩,⟨_,rfl,Pr.le_refl _⟩,⟨_,rfl,Pr.le_refl _⟩,⟨_,rfl,Pr.le_refl _⟩,trivial⟩
 ·
  rintro lk Dk rk Mr wr pre x _ hpre
  have hsx:s.getLsbD x=true:=Jt.1 (ew hpre)
  obtain ⟨y,hy⟩:=at_ (l:=B) (k:=x) (by have:=hs x hsx;omega)
  refine Tr.block ?_
  refine Tr.seq ?_
  refine Tr.gY mixed (by kernel_rfl) ?_
  refine Ch.op rfl rfl (by decide) (EL rfl I0 (vl rfl)) ?_
  first
   |refine Ch.op rfl rfl (by decide) (IW rfl (vl rfl)) ?_
   |refine Ch.op rfl rfl (by decide) (Iv rfl (vl rfl)) ?_
  refine Ch.op rfl rfl (by decide) (E6 rfl Hy (vl rfl) rfl) ?_
  refine Ch.op rfl rfl (by decide) (EL rfl I3 (vl rfl)) ?_
  refine Ch.op rfl rfl (by decide) (BM rfl (vl rfl)) ?_
  refine Ch.op rfl rfl (by decide) (AA rfl Tryz.underlying158 FK (vl rfl) (vl rfl) (by omega) (PT hy)) ?_
  refine Ch.op rfl rfl (by decide) (EL rfl Fa (vl rfl)) ?_
  refine Ch.op rfl rfl (by decide) (EL rfl Fa (vl rfl)) ?_
  refine Ch.op rfl rfl (by decide) (JO rfl (vl rfl) (vl rfl)) ?_
  refine Ch.op rfl rfl (by decide) (eS rfl (vl rfl) (vl rfl)) ?_
  refine Ch.nil ?_
  refine Fin.go ?_
  refine Tr.weak [(4,_),(18,_)] ⟨⟨_,rfl,Pr.le_refl _⟩,⟨_,rfl,Pr.le_refl _⟩,trivial⟩ ?_
  refine Tr.cond rfl (fun h1=> ?_) (fun h1=> ?_)
  ·
   have q1:=D_.Eo h1
   refine Tr.seq ?_
   refine Tr.An ?_
   refine TO.AK 6 rfl rfl rfl (vl rfl) (VL.le (vl rfl) (Ae _)) rfl S1 rfl rfl ?_
   refine TO.nil ?_
   refine Fin.go ?_
   refine Tr.ret ?_
   refine Fin.AX ?_
   refine Fin.fC 5 rfl (q:=Sj B s=false) (fun _=>rB (Jt.2 hsx) hy (by simp_all)) ?_
   exact Fin.rA () (List.Perm.refl _)
  ·
   have q1:=D_.Eo h1
   refine Tr.skip ?_
   refine Fin.block ?_
   refine Fin.fC 5 rfl (q:=k6 B s (pre++[x])) (fun h i hi=>by rcases List.mem_append.1 hi with hi|hi;exact h i hi;(rw [List.mem_singleton] at hi;subst hi;rw [List.getD_eq_getElem?_getD,hy];simp_all)) ?_
   exact Fin.rnd () (List.Perm.refl _)
 ·
  rintro lk Dk rk Mr wr _
  refine Fin.prop 5 rfl fun hok=> ?_
  refine Fin.drop 1 ?_
  refine Fin.drop 1 ?_
  refine Fin.drop 2 ?_
  refine Fin.drop 2 ?_
  refine Fin.block ?_
  refine Fin.go ?_
  refine Tr.seq ?_
  refine Tr.An ?_
  refine TO.AK 2 rfl rfl rfl (vl rfl) (VL.le (vl rfl) (Ae _)) rfl S1 rfl rfl ?_
  refine TO.nil ?_
  refine Fin.go ?_
  refine Tr.ret ?_
  refine Fin.Lp (List.perm_middle (l₁:=[_])) ?_
  refine Fin.Sb ?_
  refine Fin.RF ?_
  refine Fin.Lp ((List.perm_middle (l₁:=[_])).symm) ?_
  refine Fin.Fy [_] rfl (AO.nF 0 rfl rfl YR (Pr.le_refl _)) ?_ (fun _ _ _ _=>rfl)
  · exact bool_eq (k8 hok).symm
 ·
  rintro lk Dk rk Mr wr pre _ hpre
  refine Fin.prop 5 rfl fun hno=> ?_
  refine Fin.drop 1 ?_
  refine Fin.drop 1 ?_
  refine Fin.drop 2 ?_
  refine Fin.drop 2 ?_
  refine Fin.AX ?_
  refine Fin.AD ?_
  refine Fin.Lp (List.perm_middle (l₁:=[_])) ?_
  refine Fin.Sb ?_
  refine Fin.RF ?_
  refine Fin.Lp ((List.perm_middle (l₁:=[_])).symm) ?_
  refine Fin.Fy [_] rfl (AO.nF 0 rfl rfl YR (Pr.le_refl _)) ?_ (fun _ _ _ _=>rfl)
  · exact bool_eq hno.symm
theorem k9 {s:BitVec 32}  :HV (α:=Value) Tryz.prog 64 [u32 s] [FC] (fun _=>True) (fun v=>Ag v (lens (((K1 s).map fun i:Nat=>(i:Int)).map (fun n=>[int n])).length)) (fun v=>[FC,BX 3 1 (((K1 s).map fun i:Nat=>(i:Int)).map (fun n=>[int n])) v]):=by
 refine HV.ofM Tryz.func64 rfl rfl (by exact Nat.le_of_ble_eq_true rfl) fun M0 w0 S rs M1 w1=> ?_
 refine Tr.seq ?_
 refine Tr.Ah ?_
 refine Ch.op rfl rfl (by decide) (DB rfl (vl rfl)) ?_
 refine Ch.nil ?_
 refine Fin.go ?_
 refine Tr.seq ?_
 refine Tr.An ?_
 refine TO.alloc rfl rfl (by decide) rfl z38 tQ (fun b1=> ?_)
 refine TO.nil ?_
 refine Fin.go ?_
 refine Tr.seq ?_
 refine Tr.seq ?_
 refine Tr.An ?_
 refine TO.op rfl rfl (by decide) (BM rfl (vl rfl)) ?_
 refine TO.pad ?_
 refine TO.Dh 0 rfl rfl (by decide) (LA rfl rfl (by decide) rfl (ec) ⟨⟨_,rfl,Pr.le_refl _⟩,trivial⟩) (fun v1=> ?_)
 refine TO.nil ?_
 refine Fin.shape 6 (fun b=>eZ b) rfl (fun fb2 fe2=> ?_)
 subst fe2
 refine Fin.JQ 0 (AB true fb2 P6 [_]) rfl rfl ?_
 refine Fin.go ?_
 refine Tr.block ?_
 refine Tr.KS 3 1 ?_
 refine Tr.Hl 2 [Ag (.slice none 0 0) (lens 0)] rfl ⟨HU rfl,trivial⟩ ?_
 refine Tr.eE 4 [(3,_)] ⟨⟨_,rfl,Pr.le_refl _⟩,trivial⟩ (fun pre vr=>BX 3 1 ((pre.map fun i:Nat=>(i:Int)).map (fun n=>[int n])) vr::AB true b1 38 [Ag vr (lens ((pre.map fun i:Nat=>(i:Int)).map (fun n=>[int n])).length)]::Aj M1 w1::rs) (.slice none 0 0) (Sd (s:=s)) Se (vl rfl) ((Dp (j:=3) rfl).trans (List.Perm.cons _ ((Dp (j:=1) rfl).trans (List.Perm.cons _ (List.Perm.refl _))))) rfl (by exact Nat.le_of_ble_eq_true rfl) ?_ ?_ ?_
 ·
  rintro lk Dk rk Mr wr pre x vr hpre
  refine Tr.Ah ?_
  refine Ch.op rfl rfl (by decide) (DB rfl (vl rfl)) ?_
  refine Ch.nil ?_
  exact Fin.st ⟨⟨_,rfl,Pr.le_refl _⟩,⟨_,rfl,Pr.le_refl _⟩,trivial⟩
 ·
  rintro lk Dk rk Mr wr pre x vr hpre
  have hpl:(pre++[x]).length≤32:=Nat.le_trans hpre.length_le (kR s)
  rw [List.length_append,List.length_cons,List.length_nil] at hpl
  refine Tr.block ?_
  refine Tr.An ?_
  refine TO.rd 6 rfl rfl rfl (by decide) (A_ rfl Ws (vl rfl) rfl) ?_
  refine TO.op rfl rfl (by decide) (BM rfl (vl rfl)) ?_
  refine TO.op rfl rfl (by decide) (AM (xs:=[.tmp 9]) (rows:=[[_]]) rfl rfl Tryz.underlying38 B4 z3 rfl (by decide) ⟨⟨(by exact rfl),(VL.le (vl rfl) (Ae _))⟩,trivial⟩ (by decide)) ?_
  refine TO.Dh 5 rfl rfl (by decide) (Fb rfl rfl (by decide) rfl Tryz.underlying38 B4 Jf z3 rfl (by decide) (by decide) (vl rfl) ⟨_,rfl,Bq _ _⟩ (Bg fun _=>rfl) (Nat.zero_lt_succ _) (by simp only [List.length_map,List.length_cons,List.length_nil];unfold maxLen;omega) (by simp only [List.length_map,List.length_cons,List.length_nil];omega)) (fun v2=> ?_)
  refine TO.AK 6 rfl rfl rfl (vl rfl) (VL.le (vl rfl) (Ae _)) rfl F9 rfl rfl ?_
  refine TO.nil ?_
  refine Fin.block ?_
  rw [show (pre.map fun i:Nat=>(i:Int)).map (fun n=>[int n])++[[int ((x:Nat):Int)]]=((pre++[x]).map fun i:Nat=>(i:Int)).map (fun n=>[int n]) by rw [List.map_append,List.map_append];rfl]
  refine Fin.Hl 6 [Ag v2 (lens (((pre++[x]).map fun i:Nat=>(i:Int)).map (fun n=>[int n])).length)] rfl ⟨Cr (by simp),trivial⟩ ?_
  exact Fin.rnd v2 (List.Perm.refl _)
 ·
  rintro lk Dk rk Mr wr vr
  refine Fin.drop 1 ?_
  refine Fin.drop 1 ?_
  refine Fin.drop 2 ?_
  refine Fin.block ?_
  refine Fin.go ?_
  refine Tr.seq ?_
  refine Tr.Ah ?_
  refine Ch.op rfl rfl (by exact Nat.le_of_ble_eq_true rfl) (DK 3 rfl (A_ rfl Ws (vl rfl) rfl)) ?_
  refine Ch.op rfl rfl (by exact Nat.le_of_ble_eq_true rfl) (DB rfl (vl rfl)) ?_
  refine Ch.nil ?_
  refine Fin.go ?_
  refine Tr.ret ?_
  refine Fin.Lp (List.perm_middle (l₁:=[_])) ?_
  refine Fin.Sb ?_
  refine Fin.RF ?_
  refine Fin.drop 2 ?_
  refine Fin.mX (vr) rfl (AO.tmp rfl (Pr.le_refl _)) trivial ?_ (List.Perm.refl _)
  · exact Pr.le_refl _
def JS (n:Int) (l:List BG) (s:List Int):Int:=if BC n l≠0 then BC n l else if Dj n s=true∧CW l s=true then 0 else 46
def Is (n:Int) (l:List BG) (s:List Int):List Int:=if JS n l s=0 then ED n.toNat l s true else []
theorem nH {n:Int} {l:List BG} {s:List Int} (h:BC n l≠0):JS n l s=BC n l:=by unfold JS;rw [if_pos h]
theorem fF {n:Int} {l:List BG} {s:List Int} (h:BC n l=0) (hn:¬(Dj n s=true∧CW l s=true)):JS n l s=46:=by unfold JS;rw [if_neg (not_not_intro h),if_neg hn]
theorem nI {n:Int} {l:List BG} {s:List Int} (h:BC n l=0) (hs:Dj n s=true) (hc:CW l s=true):JS n l s=0:=by unfold JS;rw [if_neg (not_not_intro h),if_pos ⟨hs,hc⟩]
theorem Sk {n:Int} {l:List BG} {s:List Int} {e:Int} (h:JS n l s=e) (he:e≠0):Is n l s=[]:=by unfold Is;rw [if_neg (by rw [h];exact he)]
theorem rC {n:Int} {l:List BG} {s:List Int} {b:BitVec 32} (h:JS n l s=0) (hv:BC n l=0) (hs:PN n.toNat b s) (hc:CW l s=true):(K1 (Kt (EW n.toNat l) b n.toNat)).map (fun i:Nat=>(i:Int))=Is n l s:=by
 unfold Is
 rw [if_pos h]
 have hn:=(C3 hv).1
 exact (qd (fun j=>kZ hv hs hc j) (by omega)).symm
theorem N5 {n:Nat} {s:List Int} (hn:n≤32) (h:Dj (n:Int) s=true):PN n (nG n s) s:=by
 rw [show nG n s=Lq s from if_pos h];exact WA hn (N4 h)
theorem ZF {n:Int} {l:List BG} {s:List Int}  :HV (α:=Value) prog 44 [int n,reqs l,ints s,fn (.func 45) []] [FC] (fun _=>True) (fun v=>EK [Ag v (lens ((Is n l s).map (fun n=>[int n])).length),int (JS n l s)]) (fun v=>[FC,BX 3 1 ((Is n l s).map (fun n=>[int n])) v]):=by
 refine HV.of func44 rfl rfl (by exact Nb rfl) fun M0 w0 S rs M1 w1=> ?_
 refine ac ?_
 refine ap ?_
 refine TO.Jc 0 rfl rfl (by decide) (As rfl rfl (by decide) rfl (kf (n:=n) (l:=l)) ⟨ke rfl,ke rfl,trivial⟩) ?_
 refine ap ?_
 refine an ?_ ?_<;>intro h1 q1
 have hv:BC n l≠0:=by simpa using h1
 refine ac ?_
 refine Cc 8 9 rfl (Tr.ret (Fin.AD ?_))
 have hno:=Sk (nH (s:=s) hv) hv
 refine Fin.KS 3 1 (Fin.Ol ?_)
 refine Fin.JQ 1 (BX 3 1 ((Is n l s).map (fun n=>[int n])) (.slice none 0 0)) rfl (by rw [hno];rfl) ?_
 refine Fin.Te ((.slice none 0 0)) rfl (AO.tmp rfl (Lr)) (AO.tmp rfl (Lr)) trivial ?_ (List.Perm.refl _)
 · exact Am ⟨HU (by rw [hno];rfl),int_eq (nH (s:=s) hv).symm,trivial⟩
 have hv:BC n l=0:=by simpa using h1
 have Jk:=(C3 hv).1
 obtain ⟨N,rfl⟩:∃N:Nat,n=(N:Int):=⟨n.toNat,by omega⟩
 refine Tr.re 10 rfl (Pr.le_of_eq (Xm hv)) ?_
 refine a2 ?_
 refine co rfl (CF (k7 (n:=N) (B:=EW N l) (l:=s) (by omega)) rfl rfl rfl) ?_
 refine ac ?_
 refine Ef 3 10 12 13 rfl ?_
 refine ap ?_
 refine TO.cases 31 rfl (fun h2=> ?_) (fun h2=> ?_)
 have q2:=D_.Eo h2
 have h46:JS (N:Int) l s=46:=fF hv (by rintro ⟨g1,g2⟩;simp_all)
 iterate 4 refine TO.R8 rfl rfl rfl (S5 h2) rfl (by decide) ?_
 refine ap ?_
 refine ac ?_
 refine Cc 8 9 rfl (Tr.ret (Fin.AD ?_))
 have hno:=Sk h46 (by decide)
 refine Fin.KS 3 1 (Fin.Ol ?_)
 refine Fin.JQ 1 (BX 3 1 ((Is ((N:Nat):Int) l s).map (fun n=>[int n])) (.slice none 0 0)) rfl (by rw [hno];rfl) ?_
 refine Fin.Te ((.slice none 0 0)) rfl (AO.tmp rfl (Lr)) (AO.tmp rfl (Lr)) trivial ?_ (List.Perm.refl _)
 · exact Am ⟨HU (by rw [hno];rfl),int_eq h46.symm,trivial⟩
 have q2:=D_.Eo h2
 have hsb:Dj ((N:Nat):Int) s=true:=by simpa using h2
 refine TO.L2 rfl rfl rfl h2 rfl (by decide) (BM rfl (vl rfl)) (TO.L2 rfl rfl rfl h2 rfl (by decide) (BM rfl (vl rfl)) ?_)
 refine TO.pR 0 rfl rfl rfl h2 rfl rfl (by decide) (As rfl rfl (by decide) rfl (ZE (n:=N) (Co N l) (fun i h=>k5 (N5 (by omega) hsb) hsb h)) ⟨ke rfl,ke rfl,trivial⟩) ?_
 refine TO.L2 rfl rfl rfl h2 rfl (by decide) (G8 rfl (vl rfl)) ?_
 refine ap ?_
 refine Tr.cn rfl ?_ ?_<;>intro h3 q3
 have h46:JS (N:Int) l s=46:=fF hv (by rintro ⟨g1,g2⟩;rw [←Xs (n:=(N:Int)) hv (N5 (by omega) g1) (N4 g1)] at g2;simp_all)
 refine ac ?_
 refine Cc 8 9 rfl (Tr.ret (Fin.AD ?_))
 have hno:=Sk h46 (by decide)
 refine Fin.KS 3 1 (Fin.Ol ?_)
 refine Fin.JQ 1 (BX 3 1 ((Is ((N:Nat):Int) l s).map (fun n=>[int n])) (.slice none 0 0)) rfl (by rw [hno];rfl) ?_
 refine Fin.Te ((.slice none 0 0)) rfl (AO.tmp rfl (Lr)) (AO.tmp rfl (Lr)) trivial ?_ (List.Perm.refl _)
 · exact Am ⟨HU (by rw [hno];rfl),int_eq h46.symm,trivial⟩
 have Zu:CW l s=true:=by rw [←Xs (n:=(N:Int)) hv (N5 (by omega) hsb) (N4 hsb)];simpa using h3
 have ha0:=nI hv hsb Zu
 have wq:(K1 (Kt (EW N l) (nG N s) N)).map (fun i:Nat=>(i:Int))=Is (N:Int) l s:=rC ha0 hv (N5 (by omega) hsb) Zu
 refine ac ?_
 refine ap ?_
 refine tp rfl (bM rfl (vl rfl) (show BA prog 45 ([_,_]++[]) _ from ez (n:=N) (B:=EW N l) (s:=nG N s) (Co N l) (by omega)) ⟨ke rfl,ke rfl,trivial⟩) ?_
 refine TO.Qu _ rfl rfl (by decide) rfl (k9) ⟨ke rfl,trivial⟩ ((Dp (j:=0) rfl).trans (List.Perm.cons _ (List.Perm.refl _))) (fun x1 _=> ?_)
 refine ap ?_
 refine Cc 8 9 rfl (Tr.ret (Fin.JQ 1 (BX 3 1 ((Is ((N:Nat):Int) l s).map (fun n=>[int n])) x1) rfl (by rw [wq]) (Fin.Te (x1) rfl (AO.tmp rfl (Lr)) (AO.tmp rfl (Lr)) trivial ?_ (List.Perm.refl _))))
 · exact Am ⟨Cr (by rw [wq]),int_eq ha0.symm,trivial⟩
theorem ZG {n:Int} {l:List BG} {s:List Int}  :HV (α:=Value) prog 19 [int n,reqs l,ints s] [FC] (fun _=>True) (fun v=>EK [Ag v (lens ((Is n l s).map (fun n=>[int n])).length),int (JS n l s)]) (fun v=>[FC,BX 3 1 ((Is n l s).map (fun n=>[int n])) v]):=by
 refine HV.of func19 rfl rfl (by exact Nb rfl) fun M0 w0 S rs M1 w1=> ?_
 refine ac ?_
 refine ap ?_
 refine TO.Qu _ rfl rfl (by decide) rfl (ZF (n:=n) (l:=l) (s:=s)) ⟨ke rfl,ke rfl,ke rfl,ke rfl,trivial⟩ ((Dp (j:=0) rfl).trans (List.Perm.cons _ (List.Perm.refl _))) (fun x1 _=> ?_)
 refine ap ?_
 refine Tr.ret (Fin.Te (x1) rfl (AO.tmp rfl (Lr)) (AO.tmp rfl (Lr)) trivial ?_ (List.Perm.refl _))
 · exact Lr
abbrev Eu (l:List BQ):Pr:=slice 8 (l.map Et)
def Ls (c:BB) (x:BQ):Bool:=decide (x.AV<0)||decide (x.AV≥c.ID.length)
def PW (c:BB) (x:BQ):Int:=c.ID.getD x.AV.toNat 0
def EF (c:BB) (l:List BQ):Int:=if 24<l.length then 3 else if l.any (Ls c) then 40 else 0
def PX (c:BB) (l:List BQ):List Int:=if EF c l=0 then l.map (PW c) else []
open Classical in
noncomputable def JT (e:DD) (c:BB) (l:List BQ):Int:=if E3 e=false then 31 else if c.check (e.Be.length:Nat)≠0 then c.check (e.Be.length:Nat) else EF c l
theorem Xt {c:BB} {l:List BQ} (h:24<l.length):EF c l=3:=by unfold EF;rw [if_pos h]
theorem Lt {c:BB} {l:List BQ} {k:Nat} {x:BQ} (h:¬24<l.length) (hx:l[k]? =some x) (hb:Ls c x=true):EF c l=40:=by unfold EF;rw [if_neg h,if_pos (List.any_eq_true.2 ⟨x,List.mem_of_getElem? hx,hb⟩)]
theorem Xu {c:BB} {l:List BQ} (h:¬24<l.length) (hb:∀j y,j<l.length→l[j]? =some y→Ls c y=false):EF c l=0:=by
 unfold EF;rw [if_neg h,if_neg]
 rw [Bool.not_eq_true,List.any_eq_false]
 intro y hy
 obtain ⟨j,hj⟩:=List.mem_iff_getElem?.1 hy
 rw [hb j y (by rcases Nat.lt_or_ge j l.length with h2|h2;exact h2;rw [List.getElem?_eq_none h2] at hj;cases hj) hj];decide
theorem PY {c:BB} {l:List BQ} {e:Int} (h:EF c l=e) (he:e≠0):PX c l=[]:=by unfold PX;rw [if_neg (by rw [h];exact he)]
theorem UI {c:BB} {l:List BQ} (h:EF c l=0):PX c l=l.map (PW c):=by unfold PX;rw [if_pos h]
theorem nJ {c:BB} {x:BQ} (h:0≤x.AV∧x.AV<c.ID.length):c.ID[x.AV.toNat]? =some (PW c x):=by
 unfold PW;rw [List.getD_eq_getElem?_getD,List.getElem?_eq_getElem (by omega)];rfl
theorem fG {c:BB} {l:List BQ} {k:Nat} {x:BQ} (h:l[k]? =some x):(((l.take k).map (PW c)).map fun n=>[int n])++[[int (PW c x)]]=((l.take (k+1)).map (PW c)).map fun n=>[int n]:=by
 rw [List.take_add_one,h,List.map_append,List.map_append];rfl
def UJ (l:List Int):Int:=l.foldl max (-1)
theorem N6 {p q:Pr} [One p] [One q] {l:List Int}  :BA prog 9 [agg [p,q,ints l]] (int (UJ l)):=by
 refine fo func9 rfl ⟨rfl,rfl⟩ fun M0 w0=>(Tr.G_ 0 2 rfl rfl fun SX=> ?_)
 refine a3 ?_
 refine Tr.block (Tr.A9 [(7,_),(8,_)] (Qj rfl) (fun k:Nat=>[(9,int ((k:Nat):Int)),(3,int ((l.take k).foldl max (-1)))]) (fun k:Nat=>k≤(l).length) (fun k:Nat=>(l).length-k) 0 (Nat.zero_le _) ⟨ke rfl,ke rfl,trivial⟩ ?_)
 rintro k BP
 refine ac ?_
 refine Tr.seq ?_
 refine Tr.cn rfl ?_ ?_<;>intro h1 q1
 have Ai:k<(l).length:=AG h1
 obtain ⟨x,Af⟩:=at_ Ai
 refine ac ?_
 refine Tr.seq (Tr.block (Tr.seq (Tr.Ah (co rfl (AA rfl underlying22 B4 (vl rfl) (vl rfl) (by omega) (AP Af)) ?_))))
 refine a2 ?_
 refine co rfl (KM rfl (vl rfl) (vl rfl)) ?_
 refine a2 ?_
 exact Fin.AL (k+1) ⟨Ai,by omega⟩ ⟨⟨_,rfl,AE k⟩,⟨_,rfl,int_eq (by rw [List.take_add_one,Af,List.foldl_append];rfl)⟩,ke rfl,ke rfl,trivial⟩
 have BJ:k=(l).length:=by have:=AH h1;omega
 subst BJ
 rw [List.take_length]
 refine a3 ?_
 · exact Lr
noncomputable def Sl (c:BB) (l:List BQ) (r:List BG) (fr:Int):Option (List Int×List Int×List Int):=MW c r (l.map (PW c)) fr l.length (C4 l.length r l.length).1
open Classical in
noncomputable def JU (e:DD) (c:BB) (l:List BQ) (r:List BG) (fr:Int):Int:=if JT e c l≠0 then JT e c l else if BC (l.length:Nat) r≠0 then BC (l.length:Nat) r else match Sl c l r fr with|none=>51|some _=>0
noncomputable def rD (c:BB) (l:List BQ) (r:List BG) (fr:Int):List Int:=match Sl c l r fr with|none=>[]|some p=>p.1
open Classical in
noncomputable def Lu (e:DD) (c:BB) (l:List BQ) (r:List BG) (fr:Int):List BQ:=if JU e c l r fr=0 then l else []
open Classical in
noncomputable def NV (e:DD) (c:BB) (l:List BQ) (r:List BG) (fr:Int):List BG:=if JU e c l r fr=0 then r else []
open Classical in
noncomputable def QM (e:DD) (c:BB) (l:List BQ) (r:List BG) (fr:Int):List Int:=if JU e c l r fr=0 then rD c l r fr else []
noncomputable abbrev fH (e:DD) (c:BB) (l:List BQ) (r:List BG) (fr:Int):List Pr:=[Eu (Lu e c l r fr),reqs (NV e c l r fr),ints (QM e c l r fr)]
section
variable {e:DD} {c:BB} {l:List BQ} {r:List BG} {fr:Int}
theorem RI {n:Int} (h:c.check n=0):c.own=0∧(c.ID.length:Int)=n∧∀t∈c.ID,c.has t=true:=by
 have h':=h
 unfold BB.check at h
 split at h
 · cases h
 ·
  split at h
  · cases h
  ·
   split at h
   · cases h
   ·
    split at h
    · cases h
    ·
     split at h
     · cases h
     ·
      split at h
      · cases h
      ·
       rename_i _ _ _ _ _ h6
       rw [not_or,Classical.not_not,Bool.not_eq_true,List.any_eq_false] at h6
       refine ⟨by unfold BB.own;rw [h6.1];exact h',h6.1,fun t ht=>by simpa using h6.2 t ht⟩
theorem PZ (h:EF c l=0):l.length≤24∧∀x∈l,Ls c x=false:=by
 unfold EF at h
 by_cases h1:24<l.length
 · rw [if_pos h1] at h;cases h
 ·
  rw [if_neg h1] at h
  refine ⟨by omega,fun x hx=> ?_⟩
  cases hb:Ls c x with
  |false=>rfl
  |true=>rw [if_pos (List.any_eq_true.2 ⟨x,hx,hb⟩)] at h;cases h
theorem k_ (h:EF c l=0) (ht:∀t∈c.ID,c.has t=true):∀x∈l.map (PW c),c.has x=true:=fun x hx=>by
 obtain ⟨y,hy,rfl⟩:=List.mem_map.1 hx
 have hb:=(PZ h).2 y hy
 unfold Ls at hb
 rw [Bool.or_eq_false_iff,decide_eq_false_iff_not,decide_eq_false_iff_not] at hb
 exact ht _ (List.mem_of_getElem? (nJ (by omega)))
theorem RJ (h:JT e c l≠0):JU e c l r fr=JT e c l:=by unfold JU;rw [if_pos h]
theorem nK (h:JT e c l=0) (hv:BC (l.length:Nat) r≠0):JU e c l r fr=BC (l.length:Nat) r:=by unfold JU;rw [if_neg (not_not_intro h),if_pos hv]
theorem fI (h:JT e c l=0) (hv:BC (l.length:Nat) r=0) (hs:Sl c l r fr=none):JU e c l r fr=51:=by unfold JU;rw [if_neg (not_not_intro h),if_neg (not_not_intro hv),hs]
theorem nL {p:List Int×List Int×List Int} (h:JT e c l=0) (hv:BC (l.length:Nat) r=0) (hs:Sl c l r fr=some p):JU e c l r fr=0:=by unfold JU;rw [if_neg (not_not_intro h),if_neg (not_not_intro hv),hs]
theorem fJ (h:JU e c l r fr≠0):Lu e c l r fr=[]∧NV e c l r fr=[]∧QM e c l r fr=[]:=by unfold Lu NV QM;rw [if_neg h,if_neg h,if_neg h];exact ⟨rfl,rfl,rfl⟩
theorem fK (h:JU e c l r fr=0):Lu e c l r fr=l∧NV e c l r fr=r∧QM e c l r fr=rD c l r fr:=by unfold Lu NV QM;rw [if_pos h,if_pos h,if_pos h];exact ⟨rfl,rfl,rfl⟩
theorem Pa {k:Int} (h:JU e c l r fr=k) (hk:k≠0):Pr.le (agg [is (.slice none 0 0),is (.slice none 0 0),is (.slice none 0 0)]) (agg (fH e c l r fr)):=by
 obtain ⟨h1,h2,h3⟩:=fJ (e:=e) (c:=c) (l:=l) (r:=r) (fr:=fr) (by rw [h];exact hk)
 unfold fH;rw [h1,h2,h3];exact Aw ⟨AF 8,AF 2,AF 1,trivial⟩
theorem lA {d b y:List Int} (h:JU e c l r fr=0) (hs:Sl c l r fr=some (d,b,y)):Pr.le (agg [Eu l,reqs r,ints d]) (agg (fH e c l r fr)):=by
 obtain ⟨h1,h2,h3⟩:=fK h
 unfold fH;rw [h1,h2,h3];unfold rD;rw [hs];exact Pr.le_refl _
theorem Pb {q:BG} {m:Nat} {d:List Int} {i:Int} (h:r[m]? =some q):FO (r.take (m+1)) d i fr=if q.thn=i then max (FO (r.take m) d i fr) (d.getD q.fst.toNat 0+1) else FO (r.take m) d i fr:=by
 unfold FO;rw [List.take_add_one,h,List.foldl_append];rfl
theorem GG {l:List Int} {i:Nat} (h:i<l.length):l[i]? =some (l.getD i 0):=by rw [List.getD_eq_getElem?_getD,List.getElem?_eq_getElem h];rfl
end
structure Su where
 code:Int
 x1:Int
 x2:Int
 s1:Int
 s2:Int
 c1:Int
 c2:Int
 m1:Int
 m2:Int
 lo:Int
 hi:Int
abbrev AAy:Pr:=Cp.ex fun l:List UInt8=>str l
abbrev RK (s:Su):List Pr:=[int s.code,AAy,int s.x1,int s.x2,int s.s1,int s.s2,int s.c1,int s.c2,int s.m1,int s.m2,int s.lo,int s.hi]
def suT:List Su:=[⟨1,10,0,5,0,14,128,19,0,1,2⟩,⟨2,10,0,5,0,14,128,20,0,1,3⟩,⟨3,10,0,5,0,15,168,20,0,1,3⟩,⟨4,11,1024,6,0,15,168,20,0,1,3⟩,⟨5,11,1024,5,0,15,168,20,0,1,3⟩,⟨6,10,0,5,0,16,128,20,0,1,3⟩,⟨7,11,2048,5,0,16,128,20,0,1,3⟩,⟨8,12,256,5,0,16,128,20,0,1,3⟩,⟨9,12,256,7,0,16,256,21,0,3,3⟩,⟨10,12,256,5,0,17,128,22,0,3,3⟩,⟨11,12,384,7,0,17,256,22,0,3,3⟩,⟨12,12,256,5,0,18,0,22,0,3,3⟩,⟨13,10,0,5,0,17,256,22,0,3,3⟩,⟨14,12,256,0,0,17,128,22,0,4,4⟩,⟨15,12,256,0,0,18,0,22,0,4,4⟩,⟨16,13,768,0,0,17,256,22,0,4,4⟩]
abbrev fL:Su:=⟨0,0,0,0,0,0,0,0,0,0,0⟩
def NW (code:Int):Bool:=decide (1≤code∧code≤16)
def NX (code:Int):Su:=if NW code then suT[(code-1).toNat]?.getD fL else fL
theorem rE {code:Int} (h:1≤code∧code≤16):suT[(code-1).toNat]? =some (NX code):=by
 obtain ⟨x,hx⟩:=at_ (l:=suT) (k:=(code-1).toNat) (by show _<16;omega)
 unfold NX NW;rw [if_pos (decide_eq_true h),hx];rfl
theorem B8 {a l m x1 y1 x2 y2 x3 y3 x4 y4:Int} {s:List UInt8}  :BA prog 127 [int a,str s,agg [int x1,int y1],agg [int x2,int y2],agg [int x3,int y3],agg [int x4,int y4],int l,int m] (agg (RK ⟨a,x1,y1,x2,y2,x3,y3,x4,y4,l,m⟩)):=by
 refine BA.of func127 rfl rfl (by exact Nb rfl) fun M0 w0=> ?_
 refine Tr.seq (Tr.An ?_)
 iterate 4 refine tp rfl (Bb rfl (Va rfl)) ?_
 refine Tl rfl rfl rfl rfl QC HT (fun b1=> ?_)
 refine TO.nil (Fin.go (Tr.seq (Tr.An (tm rfl (tm rfl ?_)))))
 iterate 4 refine tp rfl (AQ rfl Ia J1 (vl rfl) rfl rfl) ?_
 refine tm rfl (tm rfl (tp rfl (Al (rows:=[(0,[_]),(1,[_]),(2,_),(3,_),(4,_),(5,_),(6,[_]),(7,[_])]) rfl TS HT ⟨⟨rfl,(Vo rfl)⟩,⟨⟨rfl,(Vo rfl)⟩,⟨⟨rfl,(Va rfl)⟩,⟨⟨rfl,(Va rfl)⟩,⟨⟨rfl,(Va rfl)⟩,⟨⟨rfl,(Va rfl)⟩,⟨⟨rfl,(Vo rfl)⟩,⟨⟨rfl,(Vo rfl)⟩,trivial⟩⟩⟩⟩⟩⟩⟩⟩ rfl) (TO.re 25 (agg (RK ⟨a,x1,y1,x2,y2,x3,y3,x4,y4,l,m⟩)) rfl (Aw ⟨Lr,AJ _ (Lr),Lr,Lr,Lr,Lr,Lr,Lr,Lr,Lr,Lr,Lr,trivial⟩) (TO.AK 0 rfl rfl rfl (vl rfl) (Va rfl) rfl FL rfl rfl (TO.nil (Fin.go (FX 16 rfl (Tr.ret (Fin.CS rfl (AO.cell 0 rfl rfl Hz FL rfl (Lr)) ?_)))))))))
 · exact Lr
theorem UK   :BA prog 98 [] (slice 12 (suT.map RK)):=by
 refine fo func98 rfl ⟨rfl,rfl⟩ fun M0 w0=> ?_
 refine ac ?_
 refine Tr.seq (Tr.An (tp rfl (CF (BU) rfl rfl rfl) (tp rfl (CF (BU) rfl rfl rfl) (tp rfl (Al (rows:=[]) rfl oK EA trivial rfl) ?_))))
 refine Tl rfl rfl rfl rfl Jg EA (fun b1=> ?_)
 refine Tl rfl rfl rfl rfl Jg EA (fun b2=> ?_)
 refine Tl rfl rfl rfl rfl Jg EA (fun b3=> ?_)
 refine sf 2 1 ⟨rfl,rfl,rfl⟩ rfl rfl rfl rfl ?_
 refine sf 1 2 ⟨rfl,rfl,rfl⟩ rfl rfl rfl rfl ?_
 refine sf 0 3 ⟨rfl,rfl,rfl⟩ rfl rfl rfl rfl ?_
 refine ao ?_
 refine Tr.seq (Tr.An (tp rfl (CF (BU) rfl rfl rfl) (tp rfl (CF (BU) rfl rfl rfl) ?_)))
 refine Tl rfl rfl rfl rfl Jg EA (fun b4=> ?_)
 refine Tl rfl rfl rfl rfl Jg EA (fun b5=> ?_)
 refine sf 1 4 ⟨rfl,rfl,rfl⟩ rfl rfl rfl rfl ?_
 refine sf 0 5 ⟨rfl,rfl,rfl⟩ rfl rfl rfl rfl ?_
 refine ao ?_
 refine KP 1 2 3 4 5 rfl (Tr.seq (Tr.An (tp rfl (CF (BU) rfl rfl rfl) (tp rfl (CF (BU) rfl rfl rfl) (tp rfl (CF (BU) rfl rfl rfl) ?_)))))
 refine Tl rfl rfl rfl rfl Jg EA (fun b6=> ?_)
 refine Tl rfl rfl rfl rfl Jg EA (fun b7=> ?_)
 refine Tl rfl rfl rfl rfl Jg EA (fun b8=> ?_)
 refine sf 2 6 ⟨rfl,rfl,rfl⟩ rfl rfl rfl rfl ?_
 refine sf 1 7 ⟨rfl,rfl,rfl⟩ rfl rfl rfl rfl ?_
 refine sf 0 8 ⟨rfl,rfl,rfl⟩ rfl rfl rfl rfl ?_
 refine ao ?_
 refine J0 1 2 3 4 5 6 7 8 rfl (Tr.seq (Tr.An ?_))
 iterate 4 refine tp rfl (CF (BU) rfl rfl rfl) ?_
 refine Tl rfl rfl rfl rfl Jg EA (fun b9=> ?_)
 refine Tl rfl rfl rfl rfl Jg EA (fun b10=> ?_)
 refine Tl rfl rfl rfl rfl Jg EA (fun b11=> ?_)
 refine Tl rfl rfl rfl rfl Jg EA (fun b12=> ?_)
 refine sf 3 9 ⟨rfl,rfl,rfl⟩ rfl rfl rfl rfl ?_
 refine sf 2 10 ⟨rfl,rfl,rfl⟩ rfl rfl rfl rfl ?_
 refine sf 1 11 ⟨rfl,rfl,rfl⟩ rfl rfl rfl rfl ?_
 refine sf 0 12 ⟨rfl,rfl,rfl⟩ rfl rfl rfl rfl ?_
 refine ao ?_
 refine ON 1 2 3 4 5 6 7 8 9 10 11 12 rfl (Tr.seq (Tr.An (tp rfl (CF (BU) rfl rfl rfl) (tp rfl (CF (BU) rfl rfl rfl) ?_))))
 refine Tl rfl rfl rfl rfl Jg EA (fun b13=> ?_)
 refine Tl rfl rfl rfl rfl Jg EA (fun b14=> ?_)
 refine sf 1 13 ⟨rfl,rfl,rfl⟩ rfl rfl rfl rfl ?_
 refine sf 0 14 ⟨rfl,rfl,rfl⟩ rfl rfl rfl rfl ?_
 refine ao ?_
 refine NM 1 2 3 4 5 6 7 8 9 10 11 12 13 14 rfl ?_
 refine ac ?_
 refine co rfl (AR rfl (B8) ⟨ke rfl,ke rfl,ke rfl,ke rfl,ke rfl,ke rfl,ke rfl,ke rfl,trivial⟩) ?_
 refine ac ?_
 refine co rfl (AR rfl (B8) ⟨ke rfl,ke rfl,ke rfl,ke rfl,ke rfl,ke rfl,ke rfl,ke rfl,trivial⟩) ?_
 refine ac ?_
 refine co rfl (AR rfl (B8) ⟨ke rfl,ke rfl,ke rfl,ke rfl,ke rfl,ke rfl,ke rfl,ke rfl,trivial⟩) (co rfl (CF (BU) rfl rfl rfl) (co rfl (CF (BU) rfl rfl rfl) ?_))
 refine ac ?_
 refine co rfl (AR rfl (B8) ⟨ke rfl,ke rfl,ke rfl,ke rfl,ke rfl,ke rfl,ke rfl,ke rfl,trivial⟩) (co rfl (CF (BU) rfl rfl rfl) ?_)
 refine ac ?_
 refine co rfl (AR rfl (B8) ⟨ke rfl,ke rfl,ke rfl,ke rfl,ke rfl,ke rfl,ke rfl,ke rfl,trivial⟩) ?_
 refine ac ?_
 refine co rfl (AR rfl (B8) ⟨ke rfl,ke rfl,ke rfl,ke rfl,ke rfl,ke rfl,ke rfl,ke rfl,trivial⟩) (co rfl (CF (BU) rfl rfl rfl) ?_)
 refine ac ?_
 refine co rfl (AR rfl (B8) ⟨ke rfl,ke rfl,ke rfl,ke rfl,ke rfl,ke rfl,ke rfl,ke rfl,trivial⟩) ?_
 refine ac ?_
 refine co rfl (AR rfl (B8) ⟨ke rfl,ke rfl,ke rfl,ke rfl,ke rfl,ke rfl,ke rfl,ke rfl,trivial⟩) (co rfl (AQ rfl Ia J1 (vl rfl) rfl rfl) (co rfl (CF (BU) rfl rfl rfl) (co rfl (CF (BU) rfl rfl rfl) (co rfl (AQ rfl Ia J1 (vl rfl) rfl rfl) (co rfl (AR rfl (B8) ⟨ke rfl,ke rfl,ke rfl,ke rfl,ke rfl,ke rfl,ke rfl,ke rfl,trivial⟩) ?_)))))
 refine ac ?_
 refine co rfl (AR rfl (B8) ⟨ke rfl,ke rfl,ke rfl,ke rfl,ke rfl,ke rfl,ke rfl,ke rfl,trivial⟩) (co rfl (CF (BU) rfl rfl rfl) (co rfl (CF (BU) rfl rfl rfl) ?_))
 refine ac ?_
 refine co rfl (AR rfl (B8) ⟨ke rfl,ke rfl,ke rfl,ke rfl,ke rfl,ke rfl,ke rfl,ke rfl,trivial⟩) ?_
 refine ac ?_
 refine co rfl (AR rfl (B8) ⟨ke rfl,ke rfl,ke rfl,ke rfl,ke rfl,ke rfl,ke rfl,ke rfl,trivial⟩) ?_
 refine ac ?_
 refine co rfl (AR rfl (B8) ⟨ke rfl,ke rfl,ke rfl,ke rfl,ke rfl,ke rfl,ke rfl,ke rfl,trivial⟩) ?_
 refine ac ?_
 refine co rfl (AR rfl (B8) ⟨ke rfl,ke rfl,ke rfl,ke rfl,ke rfl,ke rfl,ke rfl,ke rfl,trivial⟩) ?_
 refine ac ?_
 refine co rfl (AR rfl (B8) ⟨ke rfl,ke rfl,ke rfl,ke rfl,ke rfl,ke rfl,ke rfl,ke rfl,trivial⟩) (co rfl (CF (BU) rfl rfl rfl) ?_)
 refine ac ?_
 refine co rfl (AR rfl (B8) ⟨ke rfl,ke rfl,ke rfl,ke rfl,ke rfl,ke rfl,ke rfl,ke rfl,trivial⟩) (co rfl (AM (xs:=[.tmp 33,.tmp 38,.tmp 43,.tmp 48,.tmp 53,.tmp 58,.tmp 63,.tmp 68,.tmp 73,.tmp 78,.tmp 83,.tmp 88,.tmp 93,.tmp 98,.tmp 103,.tmp 108]) (rows:=(suT.map RK)) rfl rfl underlying213 FL QC rfl (by decide) ⟨⟨(by exact rfl),VL.le (vl rfl) (AZ _)⟩,⟨⟨(by exact rfl),VL.le (vl rfl) (AZ _)⟩,⟨⟨(by exact rfl),VL.le (vl rfl) (AZ _)⟩,⟨⟨(by exact rfl),VL.le (vl rfl) (AZ _)⟩,⟨⟨(by exact rfl),VL.le (vl rfl) (AZ _)⟩,⟨⟨(by exact rfl),VL.le (vl rfl) (AZ _)⟩,⟨⟨(by exact rfl),VL.le (vl rfl) (AZ _)⟩,⟨⟨(by exact rfl),VL.le (vl rfl) (AZ _)⟩,⟨⟨(by exact rfl),VL.le (vl rfl) (AZ _)⟩,⟨⟨(by exact rfl),VL.le (vl rfl) (AZ _)⟩,⟨⟨(by exact rfl),VL.le (vl rfl) (AZ _)⟩,⟨⟨(by exact rfl),VL.le (vl rfl) (AZ _)⟩,⟨⟨(by exact rfl),VL.le (vl rfl) (AZ _)⟩,⟨⟨(by exact rfl),VL.le (vl rfl) (AZ _)⟩,⟨⟨(by exact rfl),VL.le (vl rfl) (AZ _)⟩,⟨⟨(by exact rfl),VL.le (vl rfl) (AZ _)⟩,trivial⟩⟩⟩⟩⟩⟩⟩⟩⟩⟩⟩⟩⟩⟩⟩⟩ (by decide)) ?_)
 refine ac ?_
 refine FX 0 rfl ?_
 refine ac ?_
 · exact Bq _ _
theorem Ku {code:Int}  :BA prog 73 [int code] (EK [agg (RK (NX code)),int (if NW code then 0 else 8)]):=by
 refine fo func73 rfl ⟨rfl,rfl⟩ fun M0 w0=>(Tr.seq (Tr.An ?_))
 refine Tl rfl rfl rfl rfl QC HT (fun b1=> ?_)
 refine ap ?_
 refine ag ?_ ?_<;>intro h1 q1
 refine ac ?_
 refine Tr.cond rfl (fun _=> ?_) (fun h=>nomatch h)
 refine Tr.seq (Tr.An (tp rfl (Al (rows:=[]) rfl TS HT trivial rfl) (TO.AK 0 rfl rfl rfl (vl rfl) (Va rfl) rfl FL rfl rfl (tm rfl (TO.nil (Fin.go (Tr.ret (Fin.AD (Fin.BK rfl (AO.cell 0 rfl rfl Hz FL rfl (Lr)) (AO.tmp rfl (Lr)) ?_)))))))))
 · exact Am ⟨by unfold NX NW;rw [if_neg (by simp;omega)];exact Aw ⟨Lr,AJ _ (Lr),Lr,Lr,Lr,Lr,Lr,Lr,Lr,Lr,Lr,Lr,trivial⟩,int_eq (by unfold NW;rw [if_neg (by simp;omega)]),trivial⟩
 refine an ?_ ?_<;>intro h2 q2
 refine ap ?_
 refine Tr.ret (Fin.AD (Fin.BK rfl (AO.cell 0 rfl rfl Hz FL rfl (Lr)) (AO.tmp rfl (Lr)) ?_))
 · exact Am ⟨by unfold NX NW;rw [if_neg (by simp;omega)];exact Aw ⟨Lr,AJ _ (Lr),Lr,Lr,Lr,Lr,Lr,Lr,Lr,Lr,Lr,Lr,trivial⟩,int_eq (by unfold NW;rw [if_neg (by simp;omega)]),trivial⟩
 have hin:1≤code∧code≤16:=by omega
 refine ac ?_
 refine Tr.seq (Tr.An (tp rfl (kc0 (UK) rfl) ?_))
 refine ap ?_
 refine tp rfl (AA rfl underlying213 FL (vl rfl) (vl rfl) (by omega) (BS (f:=RK) (rE (by omega)))) ?_
 refine ap ?_
 refine Cc 2 3 rfl (Tr.ret (Fin.BK rfl (AO.cell 0 rfl rfl Hz FL rfl (Lr)) (AO.tmp rfl (Lr)) ?_))
 · exact Am ⟨Lr,int_eq (by unfold NW;rw [if_pos (decide_eq_true hin)]),trivial⟩
abbrev anyI:Pr:=Cp.ex fun n:Int=>int n
theorem ZH:∀r∈HW,∀x∈r.sizes,0≤x∧x≤40000:=by decide+kernel
theorem UL {a b k:Int} (h:GC a b k=true):(0≤a∧a≤40000)∧(0≤b∧b≤40000):=by
 have h1:=(VP h).1
 rw [decide_eq_true_eq] at h1
 unfold DN at h1
 split at h1
 next ha=>
  refine ⟨by omega,?_⟩
  split at h1
  · split at h1<;>omega
  ·
   split at h1
   · split at h1<;>omega
   ·
    split at h1
    ·
     split at h1
     next hc=>
      obtain ⟨x,hx,hb⟩:=List.any_eq_true.1 hc
      simp only [Ti,List.mem_cons,List.not_mem_nil,or_false] at hx
      have:b=x:=by simpa using hb
      omega
     · omega
    ·
     split at h1
     ·
      split at h1
      next hc=>
       have hn:(EP a).sizes.any (fun x=>b==x)=true:=by
        cases he:(EP a).sizes.any (fun x=>b==x) with
        |true=>rfl
        |false=>
         have:=Wx (fun x=>b==x) (EP a).sizes
         rw [he] at this;simp at this;omega
       obtain ⟨x,hx,hb⟩:=List.any_eq_true.1 hn
       have:b=x:=by simpa using hb
       subst this
       exact ZH _ (YZ ha) _ hx
      · omega
     · omega
 · omega
theorem lB {c:Ie} (hv:Dc c=true):c.VQ:=by
 have h:=De hv
 have h1:=UL h.key
 have h2:=UL h.hash
 exact ⟨h.s1,h.k1,h1.1,h1.2,h2.1,h2.2⟩
section
variable {P:Program} {I:CU} {E:Env} {o:Oper}
theorem IP {t:TypeId} {x:Operand} (ho:o.op= .unOp .not t x) (hx:VL E x Dw):Aa P I o E Dw:=
 Aa.same fun M w a he _=>by
  obtain ⟨b,h1⟩:=hx.ev he (by simp [ho,Op.operands])
  have h1:a.eval x= .bool b:=h1
  exact ⟨.bool (!b),by simp [execOp,ho,h1,Op.unary],_,rfl⟩
theorem rF {t u:TypeId} {x y:Operand} (ho:o.op= .binOp .neq t x y u) (hx:VL E x (F5 .i64)) (hy:VL E y (F5 .i64)):Aa P I o E Dw:=
 Aa.same fun M w a he _=>by
  obtain ⟨m,h1⟩:=hx.ev he (by simp [ho,Op.operands])
  obtain ⟨n,h2⟩:=hy.ev he (by simp [ho,Op.operands])
  have h1:a.eval x= .int .i64 m:=h1
  have h2:a.eval y= .int .i64 n:=h2
  exact ⟨.bool (m !=n),by simp [execOp,ho,h1,h2,eqGuard,binOp,Op.intCmp],_,rfl⟩
theorem fM {t u:TypeId} {x y:Operand} (ho:o.op= .binOp .eql t x y u) (hx:VL E x (F5 .i64)) (hy:VL E y (F5 .i64)):Aa P I o E Dw:=
 Aa.same fun M w a he _=>by
  obtain ⟨m,h1⟩:=hx.ev he (by simp [ho,Op.operands])
  obtain ⟨n,h2⟩:=hy.ev he (by simp [ho,Op.operands])
  have h1:a.eval x= .int .i64 m:=h1
  have h2:a.eval y= .int .i64 n:=h2
  exact ⟨.bool (m==n),by simp [execOp,ho,h1,h2,eqGuard,binOp,Op.intCmp],_,rfl⟩
end
theorem WB:Pr.le anyI (F5 .i64):=fun _ _ _ h=>h
theorem lC:Pr.le (F5 .i64) anyI:=fun _ _ _ h=>h
theorem rG:Pr.le pq (F5 .i64):=fun _ _ _ ⟨n,_,h⟩=>⟨n,h⟩
theorem WC {c:Ie}  :BA prog 70 [agg (FN c)] (EK [ER 3285282,F5 .i64]):=by
 refine fo func70 rfl ⟨rfl,rfl⟩ fun M0 w0=> ?_
 refine a2 ?_
 refine co rfl (Cq (Ke (c:=c)) rfl rfl) ?_
 refine an ?_ ?_<;>intro h1 q1
 refine ac ?_
 refine Tr.ret (Fin.AD (Fin.DG rfl (Bc.DZ _ _) rfl ?_ rfl ?_))
 · exact B9 (m:=0) (by omega) (AF 1)
 · exact B6 _ _
 have hv:Dc c=true:=by cases hb:Dc c with|true=>rfl|false=>exact absurd h1 (by rw [hb];decide)
 refine a2 ?_
 refine co rfl (Cq (To hv (lB hv)) rfl rfl) (co rfl (Cq (rE2) rfl rfl) ?_)
 refine ac ?_
 refine Tr.ret (Fin.DG rfl (Bc.DZ _ _) rfl ?_ rfl ?_)
 · exact Lr
 · exact Lr
theorem Pc {c:Ie} {key:Int}  :BA prog 191 [agg (FN c),int key] (Dw):=by
 refine fo func191 rfl ⟨rfl,rfl⟩ fun M0 w0=> ?_
 refine a2 ?_
 refine co rfl (Cq (WC (c:=c)) rfl rfl) ?_
 refine ac ?_
 refine Tr.seq (Tr.re 6 rfl lC (Tr.ex 6 rfl fun e6=> ?_))
 · repeat' first|exact Lr|exact AJ _ (Lr)|refine cy h rfl (Cq (BA.ER fun m hm=>XI (by omega)) rfl rfl) (cy h rfl (fM rfl (VL.le (vl rfl) (B6 _ _)) (VL.le (vl rfl) rG)) ?_)|refine ac ?_|(refine Ch.cg rfl rfl rfl ?_ ?_<;>intro h q)
theorem fN {l:List (List UInt8)} {s:List UInt8}  :BA prog 189 [jQ l,str s] (Dw):=by
 refine fo func189 rfl ⟨rfl,rfl⟩ fun M0 w0=>(Tr.Cv 0 rfl fun Ew=> ?_)
 refine a2 ?_
 refine Tr.block (Tr.A9 [(0,_),(1,_)] (Qj rfl) (fun k:Nat=>[(5,int ((k:Nat):Int))]) (fun k:Nat=>k≤(l).length) (fun k:Nat=>(l).length-k) 0 (Nat.zero_le _) ⟨ke rfl,trivial⟩ ?_)
 rintro k BP
 refine an ?_ ?_<;>intro h1 q1
 have Ai:k<(l).length:=AG h1
 obtain ⟨x,Af⟩:=at_ Ai
 · repeat' first|exact AJ _ (Lr)|exact Fin.AL (k+1) ⟨Ai,by omega⟩ ⟨⟨_,rfl,AE k⟩,ke rfl,ke rfl,trivial⟩|refine co rfl (AA rfl underlying75 NO (vl rfl) (vl rfl) (by omega) (by exact AP (by assumption))) ?_|refine ac ?_|(refine Tr.cn rfl ?_ ?_<;>intro h q)
 have BJ:k=(l).length:=by have:=AH h1;omega
 refine a3 ?_
 · exact AJ _ (Lr)
theorem fO {l:List Ie} {a:Int}  :BA prog 190 [Mz l,int a] (Dw):=by
 refine fo func190 rfl ⟨rfl,rfl⟩ fun M0 w0=>(Tr.Cv 0 rfl fun Ew=> ?_)
 refine ac ?_
 refine ag ?_ ?_<;>intro h1 q1
 refine a3 ?_
 · exact AJ _ (Lr)
 refine an ?_ ?_<;>intro h2 q2
 refine a2 ?_
 · exact AJ _ (Lr)
 refine ac ?_
 refine ag ?_ ?_<;>intro h3 q3
 refine ac ?_
 refine FX 4 rfl ?_
 refine ac ?_
 · exact AJ _ (Lr)
 refine ac ?_
 refine cy h3 rfl (AA rfl underlying82 EH (vl rfl) (vl rfl) (by omega) (BS (List.getElem?_eq_getElem (show Int.toNat a<l.length by omega)))) ?_
 refine ag ?_ ?_<;>intro h4 q4
 refine ac ?_
 refine cy h4 rfl (AA rfl underlying82 EH (vl rfl) (vl rfl) (by omega) (BS (List.getElem?_eq_getElem (show Int.toNat a<l.length by omega)))) ?_
 refine ac ?_
 refine FX 4 rfl ?_
 refine ac ?_
 · exact AJ _ (Lr)
 refine ac ?_
 refine FX 4 rfl ?_
 refine ac ?_
 · exact AJ _ (Lr)
theorem ZI {e:Int} {l:List Ie} {i:Int} {an ha:List Int} {day:Int} {nm:List UInt8} (hi:0≤i∧i<(l.length:Nat)):BA prog 185 [int e,Mz l,int i,ints an,ints ha,int day,str nm] (Dw):=by
 refine fo func185 rfl ⟨rfl,rfl⟩ fun M0 w0=>(Tr.Cv 1 rfl fun GV=> ?_)
 obtain ⟨c,hc⟩:=at_ (l:=l) (k:=i.toNat) (by omega)
 refine ac ?_
 refine ao ?_
 refine tp rfl (AA rfl underlying82 EH (vl rfl) (vl rfl) (by omega) (BS hc)) ?_
 refine ao ?_
 refine Tl rfl rfl rfl rfl U7 OV (fun b1=> ?_)
 refine sf 0 15 ⟨rfl,rfl,rfl⟩ rfl rfl rfl rfl ?_
 refine ao ?_
 refine P9 0 1 2 3 4 5 6 15 16 rfl ?_
 refine ac ?_
 refine ac ?_
 refine Tr.cn rfl ?_ ?_<;>intro h1 q1
 refine ac ?_
 refine co rfl (Cq (Ke (c:=c)) rfl rfl) ?_
 refine ac ?_
 refine FX 14 rfl ?_
 refine ac ?_
 · exact AJ _ (Lr)
 refine ac ?_
 refine HQ 1 2 3 4 5 6 15 16 26 32 rfl ?_
 refine Tr.cn rfl ?_ ?_<;>intro h2 q2
 refine ac ?_
 refine Ch.cs 36 rfl ?_ ?_<;>intro h3 q3
 refine ac ?_
 refine cy h3 rfl (CF (fN) rfl rfl rfl) (cy h3 rfl (IP rfl (vl rfl)) ?_)
 refine ac ?_
 refine FX 14 rfl ?_
 refine ac ?_
 · exact Lr
 refine ac ?_
 refine FX 14 rfl ?_
 refine ac ?_
 · exact AJ _ (Lr)
 refine ac ?_
 refine Tr.cn rfl ?_ ?_<;>intro h4 q4
 refine ac ?_
 refine Ch.cs 49 rfl ?_ ?_<;>intro h5 q5
 refine ac ?_
 refine FX 14 rfl ?_
 refine ac ?_
 · exact AJ _ (Lr)
 refine ac ?_
 refine FX 14 rfl ?_
 refine ac ?_
 · exact AJ _ (Lr)
 refine ac ?_
 refine J0 1 2 3 4 15 16 26 55 rfl ?_
 refine Tr.cn rfl ?_ ?_<;>intro h6 q6
 refine ac ?_
 refine co rfl (CF (JD) rfl rfl rfl) ?_
 refine ac ?_
 refine FX 14 rfl ?_
 refine ac ?_
 · exact AJ _ (Lr)
 refine ac ?_
 refine Tr.cn rfl ?_ ?_<;>intro h7 q7
 refine ac ?_
 refine Ch.cs 67 rfl ?_ ?_<;>intro h8 q8
 refine ac ?_
 refine cy h8 rfl (AA rfl underlying82 EH (vl rfl) (vl rfl) (by omega) (BS (List.getElem?_eq_getElem (show Int.toNat (i+1)<l.length by omega)))) ?_
 refine ac ?_
 refine FX 14 rfl ?_
 refine ac ?_
 · exact AJ _ (Lr)
 refine ac ?_
 refine FX 14 rfl ?_
 refine ac ?_
 · exact AJ _ (Lr)
 refine ac ?_
 refine Tr.cn rfl ?_ ?_<;>intro h9 q9
 refine ac ?_
 refine co rfl (CF (fO) rfl rfl rfl) (co rfl (IP rfl (vl rfl)) ?_)
 refine ac ?_
 refine FX 14 rfl ?_
 refine ac ?_
 · exact Lr
 refine ac ?_
 refine K0 1 2 3 15 16 84 rfl ?_
 refine Tr.cn rfl ?_ ?_<;>intro h10 QH
 refine ac ?_
 refine Tr.cn rfl ?_ ?_<;>intro h11 QG
 refine ac ?_
 refine co rfl (CF (Pc) rfl rfl rfl) (co rfl (IP rfl (vl rfl)) ?_)
 refine ac ?_
 refine FX 14 rfl ?_
 refine ac ?_
 · exact Lr
 refine ac ?_
 refine ac ?_
 refine co rfl (AA rfl underlying82 EH (vl rfl) (vl rfl) (by omega) (BS (List.getElem?_eq_getElem (show Int.toNat (i+1)<l.length by omega)))) ?_
 refine ac ?_
 refine co rfl (CF (Pc) rfl rfl rfl) (co rfl (IP rfl (vl rfl)) ?_)
 refine ac ?_
 refine FX 14 rfl ?_
 refine ac ?_
 · exact Lr
 refine ac ?_
 refine ac ?_
 refine Ch.cs 103 rfl ?_ ?_<;>intro h12 Ul
 refine ac ?_
 refine cy h12 rfl (CF (JD) rfl rfl rfl) ?_
 refine ac ?_
 refine FX 14 rfl ?_
 refine ac ?_
 · exact AJ _ (Lr)
 refine ac ?_
 refine FX 14 rfl ?_
 refine ac ?_
 · exact AJ _ (Lr)
abbrev UM:List Int:=[9,14,13,7,11,15,10,12]
theorem ZJ {l:List Ie} {an ha:List Int} {day:Int} {nm:List UInt8}  :BA prog 177 [Mz l,ints an,ints ha,int day,str nm] (anyI):=by
 refine fo func177 rfl ⟨rfl,rfl⟩ fun M0 w0=>(Tr.Cv 0 rfl fun Ew=> ?_)
 refine ac ?_
 refine ac ?_
 refine Tr.cn rfl ?_ ?_<;>intro h1 q1
 refine ac ?_
 refine ac ?_
 · exact AJ _ (Lr)
 refine ac ?_
 refine ac ?_
 refine Tr.cn rfl ?_ ?_<;>intro h2 q2
 refine ac ?_
 refine ac ?_
 · exact AJ _ (Lr)
 refine ac ?_
 refine Tr.seq (Tr.Ah (co rfl (AM (xs:=[.const (.int .i64 (9)),.const (.int .i64 (14)),.const (.int .i64 (13)),.const (.int .i64 (7)),.const (.int .i64 (11)),.const (.int .i64 (15)),.const (.int .i64 (10)),.const (.int .i64 (12))]) (rows:=(UM.map fun n=>[int n])) rfl rfl underlying307 nv z39 rfl (by decide) ⟨⟨(by exact rfl),VL.le (vl rfl) (Ae _)⟩,⟨⟨(by exact rfl),VL.le (vl rfl) (Ae _)⟩,⟨⟨(by exact rfl),VL.le (vl rfl) (Ae _)⟩,⟨⟨(by exact rfl),VL.le (vl rfl) (Ae _)⟩,⟨⟨(by exact rfl),VL.le (vl rfl) (Ae _)⟩,⟨⟨(by exact rfl),VL.le (vl rfl) (Ae _)⟩,⟨⟨(by exact rfl),VL.le (vl rfl) (Ae _)⟩,⟨⟨(by exact rfl),VL.le (vl rfl) (Ae _)⟩,trivial⟩⟩⟩⟩⟩⟩⟩⟩ (by decide)) ?_))
 refine ac ?_
 refine ac ?_
 refine Tr.block (Tr.A9 [(0,_),(1,_),(2,_),(3,_),(4,_),(11,_)] (mC rfl) (fun m:Nat=>[(12,int ((m:Nat):Int))]) (fun m:Nat=>m≤(UM).length) (fun m:Nat=>(UM).length-m) 0 (Nat.zero_le _) ⟨ke rfl,trivial⟩ ?_)
 rintro m Lc
 refine ac ?_
 refine co rfl (Bo rfl underlying307 (Kf rfl)) ?_
 refine ac ?_
 refine Tr.cn rfl ?_ ?_<;>intro h3 q3
 have EB:m<(UM).length:=AG h3
 obtain ⟨x,EJ⟩:=at_ EB
 have hm8:m<8:=EB
 refine ac ?_
 refine ac ?_
 refine Tr.block (Tr.A9 [(0,_),(1,_),(2,_),(3,_),(4,_),(11,_),(12,_)] (kk7 rfl) (fun k:Nat=>[(13,int ((k:Nat):Int))]) (fun k:Nat=>k≤(l).length) (fun k:Nat=>(l).length-k) 0 (Nat.zero_le _) ⟨ke rfl,trivial⟩ ?_)
 rintro k BP
 refine ac ?_
 refine Tr.cn rfl ?_ ?_<;>intro h4 q4
 have Ai:k<(l).length:=AG h4
 obtain ⟨c,Af⟩:=at_ Ai
 refine ac ?_
 refine ac ?_
 refine co rfl (AA rfl underlying307 nv (Kf rfl) (vl rfl) (by omega) (AP EJ)) ?_
 refine ac ?_
 refine co rfl (AR rfl (ZI (e:=x) (by omega)) ⟨ke rfl,ke rfl,ke rfl,ke rfl,ke rfl,ke rfl,ke rfl,trivial⟩) ?_
 refine ac ?_
 refine P9 0 1 2 3 4 11 12 13 43 rfl (Tr.ex 43 rfl fun ACB=> ?_)
 refine Tr.cn rfl ?_ ?_<;>intro h5 q5
 refine ac ?_
 refine co rfl (AA rfl underlying307 nv (Kf rfl) (vl rfl) (by omega) (AP EJ)) ?_
 refine ac ?_
 refine FX 10 rfl ?_
 refine ac ?_
 · exact AJ _ (Lr)
 refine ac ?_
 refine ac ?_
 exact Fin.AL (k+1) ⟨Ai,by omega⟩ ⟨⟨_,rfl,AE k⟩,ke rfl,ke rfl,ke rfl,ke rfl,ke rfl,ke rfl,ke rfl,trivial⟩
 have BJ:k=(l).length:=by have:=AH h4;omega
 refine ac ?_
 refine ac ?_
 exact Fin.AL (m+1) ⟨EB,by omega⟩ ⟨⟨_,rfl,AE m⟩,ke rfl,ke rfl,ke rfl,ke rfl,ke rfl,ke rfl,trivial⟩
 have JF:m=(UM).length:=by have:=AH h3;omega
 refine ac ?_
 refine ac ?_
 refine ac ?_
 · exact AJ _ (Lr)
def QN (s:Su) (x:It):Bool:=decide (s.s1=0)||decide (x.Bw=s.s1)
def Pf (ids:List It) (code:Int):Int:=if NW code then idx (QN (NX code)) ids else -1
def KF (sv:Bs) (offer:List Int) (v code:Int):Bool:=NW code&&(offer.any fun x=>code==x)&&(sv.Ap.any fun x=>code==x)&&decide ((NX code).lo≤v)&&decide (v≤(NX code).hi)&&decide (0≤Pf sv.ids code)
theorem HH {e:Bs} {code:Int} (hl:e.ids.length≤1000000):BA prog 164 [agg (BV e),int code] (EK [int (Pf e.ids code),bool (decide (0≤Pf e.ids code))]):=by
 refine fo func164 rfl ⟨rfl,rfl⟩ fun M0 w0=> ?_
 refine ac ?_
 refine ao ?_
 refine tp rfl (Cq (Ku (code:=code)) rfl rfl) ?_
 refine ao ?_
 refine Tl rfl rfl rfl rfl QC HT (fun b1=> ?_)
 refine sf 0 6 ⟨rfl,rfl,rfl⟩ rfl rfl rfl rfl ?_
 refine ao ?_
 refine ac ?_
 refine Cd 2 6 15 rfl ?_
 refine Tr.cn rfl ?_ ?_<;>intro h1 q1
 have hK:Pf e.ids code= -1:=by unfold Pf;exact if_neg (fun h_=>by rw [if_pos h_] at h1;exact absurd h1 (by decide))
 refine ac ?_
 refine Tr.ret (Fin.AD (Fin.DG rfl (Bc.DZ _ _) rfl ?_ rfl ?_))
 · refine int_eq ?_;exact hK.symm
 · refine bool_eq ?_;rw [hK];rfl
 have hs:NW code=true:=by cases h_:NW code with|true=>rfl|false=>exact absurd h1 (by rw [h_];decide)
 have hK:Pf e.ids code=idx (QN (NX code)) e.ids:=by unfold Pf;exact if_pos hs
 refine a2 ?_
 refine Tr.block (Tr.A9 [(2,_),(6,_)] (Qj rfl) (fun k:Nat=>[(8,int ((k:Nat):Int))]) (fun k:Nat=>k≤(e.ids).length∧(∀j y,j<k→e.ids[j]? =some y→QN (NX code) y=false)) (fun k:Nat=>(e.ids).length-k) 0 (⟨Nat.zero_le _,fun j y hj=>absurd hj (by omega)⟩) ⟨ke rfl,trivial⟩ ?_)
 rintro k ⟨BP,AW⟩
 refine an ?_ ?_<;>intro h2 q2
 have Ai:k<(e.ids).length:=AG h2
 obtain ⟨x,Af⟩:=at_ Ai
 refine ac ?_
 refine ag ?_ ?_<;>intro h3 q3
 refine ac ?_
 refine Ef 2 6 8 39 rfl ?_
 refine ac ?_
 refine Tr.ret (Fin.AX (Fin.AD (Fin.AD (Fin.AX (Fin.AD (Fin.DG rfl (Bc.DZ _ _) rfl ?_ rfl ?_))))))
 · refine int_eq ?_;rw [hK];exact D8 Af (by unfold QN;simp_all) AW
 · refine bool_eq ?_;rw [hK,←D8 Af (by unfold QN;simp_all) AW];symm;rw [decide_eq_true_eq];omega
 refine ac ?_
 refine cy h3 rfl (AA rfl underlying77 FZ (vl rfl) (vl rfl) (by omega) (AP Af)) ?_
 refine ac ?_
 refine Ef 2 6 8 39 rfl ?_
 refine Tr.cn rfl ?_ ?_<;>intro h4 q4
 refine ac ?_
 refine Tr.ret (Fin.AX (Fin.AD (Fin.AD (Fin.AX (Fin.AD (Fin.DG rfl (Bc.DZ _ _) rfl ?_ rfl ?_))))))
 · refine int_eq ?_;rw [hK];exact D8 Af (by unfold QN;simp_all) AW
 · refine bool_eq ?_;rw [hK,←D8 Af (by unfold QN;simp_all) AW];symm;rw [decide_eq_true_eq];omega
 refine a2 ?_
 exact Fin.AL (k+1) ⟨⟨Ai,Du (p:=QN (NX code)) Af (by unfold QN;simp_all) AW⟩,by omega⟩ ⟨⟨_,rfl,AE k⟩,ke rfl,ke rfl,trivial⟩
 have BJ:k=(e.ids).length:=by have:=AH h2;omega
 subst BJ
 refine a2 ?_
 refine Tr.ret (Fin.DG rfl (Bc.DZ _ _) rfl ?_ rfl ?_)
 · refine int_eq ?_;rw [hK];exact GR AW
 · refine bool_eq ?_;rw [hK,←GR AW];rfl
theorem Xv {ids:List It} {code:Int} (h:0≤Pf ids code):∃x,ids[(Pf ids code).toNat]? =some x:=by
 unfold Pf at h ⊢
 split at h
 ·
  rename_i hs
  rw [if_pos hs]
  unfold idx at h ⊢
  cases hf:ids.findIdx? (QN (NX code)) with
  |none=>rw [hf] at h;simp at h
  |some i=>
   obtain ⟨hi,_⟩:=List.findIdx?_eq_some_iff_getElem.1 hf
   exact ⟨ids[i],by simp [hi]⟩
 · omega
theorem fP {e:Bs} {of:List Int} {v code:Int} (h:KF e of v code=true):0≤Pf e.ids code:=by
 unfold KF at h
 rw [Bool.and_eq_true,decide_eq_true_eq] at h
 exact h.2
theorem KG {e:Bs} {of:List Int} {v code:Int} (hl:e.ids.length≤1000000):BA prog 168 [agg (BV e),ints of,int v,int code] (bool (KF e of v code)):=by
 refine fo func168 rfl ⟨rfl,rfl⟩ fun M0 w0=> ?_
 refine ac ?_
 refine ao ?_
 refine tp rfl (Cq (Ku (code:=code)) rfl rfl) ?_
 refine ao ?_
 refine Tl rfl rfl rfl rfl QC HT (fun b1=> ?_)
 refine sf 0 9 ⟨rfl,rfl,rfl⟩ rfl rfl rfl rfl ?_
 refine ao ?_
 refine ac ?_
 refine Ch.cs 20 rfl ?_ ?_<;>intro h1 q1
 refine ac ?_
 refine Cd 3 4 44 rfl ?_
 refine ac ?_
 refine ac ?_
 · refine bool_eq ?_;unfold KF;simp_all
 refine ac ?_
 refine cy h1 rfl (CF (JD) rfl rfl rfl) ?_
 refine ac ?_
 refine Ch.cs 26 rfl ?_ ?_<;>intro h2 q2
 refine ac ?_
 refine Cd 3 4 44 rfl ?_
 refine ac ?_
 refine ac ?_
 · refine bool_eq ?_;unfold KF;simp_all;intros;exfalso;exact q2 _ (by assumption) rfl
 refine ac ?_
 refine cy h2 rfl (CF (JD) rfl rfl rfl) ?_
 refine ac ?_
 refine Ch.cs 33 rfl ?_ ?_<;>intro h3 q3
 refine ac ?_
 refine Cd 3 4 44 rfl ?_
 refine ac ?_
 refine ac ?_
 · refine bool_eq ?_;unfold KF;simp_all;intros;exfalso;exact q3 _ (by assumption) rfl
 refine ac ?_
 refine Ch.cs 39 rfl ?_ ?_<;>intro h4 q4
 refine ac ?_
 refine Cd 3 4 44 rfl ?_
 refine ac ?_
 refine ac ?_
 · refine bool_eq ?_;unfold KF;simp_all;intros;omega
 refine ac ?_
 refine Cd 3 4 44 rfl ?_
 refine Tr.cn rfl ?_ ?_<;>intro h5 q5
 refine ac ?_
 refine ac ?_
 · refine bool_eq ?_;unfold KF;simp_all;intros;omega
 refine ac ?_
 refine ac ?_
 refine co rfl (CF (HH (e:=e) (code:=code) hl) rfl rfl rfl) ?_
 refine ac ?_
 refine ac ?_
 refine ac ?_
 · refine bool_eq ?_;unfold KF;simp_all
theorem ZK {c e:Bs} {day most:Int} {su:List Int} (hc:c.small) (he:e.small):BA prog 163 [agg (BV c),agg (BV e),int day,int most,ints su] (Cp.ex fun z:Int×Int×Int=>fact True (EK [agg [int z.1,int z.2.1],int z.2.2])):=by
 refine fo func163 rfl ⟨rfl,rfl⟩ fun M0 w0=>(Tr.Cv 4 rfl fun ABm=> ?_)
 obtain ⟨od,hod⟩:∃od,(if e.own=true then e.Ap else su)=od:=⟨_,rfl⟩
 have hsu:=he.Ap
 have lD:od.length≤9223372036854775807:=by rw [←hod];split<;>omega
 refine Tr.seq (Tr.An (tp rfl (Bb rfl (Va rfl)) (tp rfl (Bb rfl (Va rfl)) ?_)))
 refine Tl rfl rfl rfl rfl Io E_ (fun b1=> ?_)
 refine ap ?_
 refine ac ?_
 refine co rfl (Cq (Ez hc) rfl rfl) ?_
 refine ag ?_ ?_<;>intro h1 q1
 refine ac ?_
 refine Tr.cond rfl (fun _=> ?_) (fun h=>nomatch h)
 refine Tr.seq (Tr.An (tp rfl (Al (rows:=[]) rfl Qq E_ trivial rfl) (TO.AK 0 rfl rfl rfl (vl rfl) (Va rfl) rfl Bu rfl rfl (tm rfl (TO.nil (Fin.go (Cc 10 11 rfl (Tr.ret (Fin.AD (Fin.BK rfl (AO.cell 0 rfl rfl Cf Bu rfl (Lr)) (AO.tmp rfl (Lr)) ?_))))))))))
 · exact AJ (_,_,_) (AU trivial (Lr))
 refine cy h1 rfl (AQ rfl Cg B_ (vl rfl) rfl rfl) (cy h1 rfl (Cq (Ez he) rfl rfl) ?_)
 refine an ?_ ?_<;>intro h2 q2
 refine ap ?_
 refine Cc 10 11 rfl (Tr.ret (Fin.AD (Fin.BK rfl (AO.cell 0 rfl rfl Cf Bu rfl (Lr)) (AO.tmp rfl (Lr)) ?_)))
 · exact AJ (_,_,_) (AU trivial (Lr))
 refine ac ?_
 refine ag ?_ ?_<;>intro h3 q3
 refine ac ?_
 refine Je 2 3 4 5 6 10 39 rfl (Tr.cond rfl (fun _=> ?_) (fun h=>nomatch h))
 refine Tr.seq (Tr.An (tp rfl (Al (rows:=[]) rfl Qq E_ trivial rfl) (TO.AK 0 rfl rfl rfl (vl rfl) (Va rfl) rfl Bu rfl rfl (tm rfl (TO.nil (Fin.go (Tr.ret (Fin.AD (Fin.BK rfl (AO.cell 0 rfl rfl Cf Bu rfl (Lr)) (AO.tmp rfl (Lr)) ?_)))))))))
 · exact AJ (_,_,_) (AU trivial (Lr))
 refine ag ?_ ?_<;>intro h4 q4
 refine ac ?_
 refine Je 2 3 4 5 6 10 39 rfl (Tr.cond rfl (fun _=> ?_) (fun h=>nomatch h))
 refine Tr.seq (Tr.An (tp rfl (Al (rows:=[]) rfl Qq E_ trivial rfl) (TO.AK 0 rfl rfl rfl (vl rfl) (Va rfl) rfl Bu rfl rfl (tm rfl (TO.nil (Fin.go (Tr.ret (Fin.AD (Fin.BK rfl (AO.cell 0 rfl rfl Cf Bu rfl (Lr)) (AO.tmp rfl (Lr)) ?_)))))))))
 · exact AJ (_,_,_) (AU trivial (Lr))
 refine ag ?_ ?_<;>intro h5 q5
 refine ac ?_
 refine Je 2 3 4 5 6 10 39 rfl (Tr.cond rfl (fun _=> ?_) (fun h=>nomatch h))
 refine Tr.seq (Tr.An (tp rfl (Al (rows:=[]) rfl Qq E_ trivial rfl) (TO.AK 0 rfl rfl rfl (vl rfl) (Va rfl) rfl Bu rfl rfl (tm rfl (TO.nil (Fin.go (Tr.ret (Fin.AD (Fin.BK rfl (AO.cell 0 rfl rfl Cf Bu rfl (Lr)) (AO.tmp rfl (Lr)) ?_)))))))))
 · exact AJ (_,_,_) (AU trivial (Lr))
 refine ac ?_
 refine Je 2 3 4 5 6 10 39 rfl ?_
 refine Tr.cn rfl ?_ ?_<;>intro h6 q6
 refine ap ?_
 refine Tr.ret (Fin.AD (Fin.BK rfl (AO.cell 0 rfl rfl Cf Bu rfl (Lr)) (AO.tmp rfl (Lr)) ?_))
 · exact AJ (_,_,_) (AU trivial (Lr))
 refine a2 ?_
 refine co rfl (Up rfl (vl rfl) (vl rfl)) ?_
 refine ac ?_
 refine ag ?_ ?_<;>intro h7 q7
 refine ac ?_
 refine Je 2 4 5 6 10 12 54 rfl (Tr.cond rfl (fun _=> ?_) (fun h=>nomatch h))
 refine Tr.seq (Tr.An (tp rfl (Al (rows:=[]) rfl Qq E_ trivial rfl) (TO.AK 0 rfl rfl rfl (vl rfl) (Va rfl) rfl Bu rfl rfl (tm rfl (TO.nil (Fin.go (Tr.ret (Fin.AD (Fin.BK rfl (AO.cell 0 rfl rfl Cf Bu rfl (Lr)) (AO.tmp rfl (Lr)) ?_)))))))))
 · exact AJ (_,_,_) (AU trivial (Lr))
 refine ac ?_
 refine Je 2 4 5 6 10 12 54 rfl ?_
 refine Tr.cn rfl ?_ ?_<;>intro h8 q8
 refine ap ?_
 refine Tr.ret (Fin.AD (Fin.BK rfl (AO.cell 0 rfl rfl Cf Bu rfl (Lr)) (AO.tmp rfl (Lr)) ?_))
 · exact AJ (_,_,_) (AU trivial (Lr))
 refine a2 ?_
 refine Je 2 4 5 6 10 12 13 rfl (Tr.S7 [2,4,5,6,10,12] [(13,ints od)] (True) ?_ (fun h9=> ?_))
 refine an ?_ ?_<;>intro h10 QH
 refine ac ?_
 exact Fin.AL () trivial ⟨⟨_,rfl,Pr.le_of_eq (by rw [←hod];simp_all)⟩,ke rfl,ke rfl,ke rfl,ke rfl,ke rfl,ke rfl,trivial⟩
 refine Tr.skip ?_
 exact Fin.AL () trivial ⟨⟨_,rfl,Pr.le_of_eq (by rw [←hod];simp_all)⟩,ke rfl,ke rfl,ke rfl,ke rfl,ke rfl,ke rfl,trivial⟩
 refine ac ?_
 refine Tr.block (Tr.A9 [(2,_),(4,_),(5,_),(6,_),(10,_),(12,_),(13,_)] (kk7 rfl) (fun k:Nat=>[(14,int ((k:Nat):Int))]) (fun k:Nat=>k≤(od).length) (fun k:Nat=>(od).length-k) 0 (Nat.zero_le _) ⟨ke rfl,trivial⟩ ?_)
 rintro k BP
 refine an ?_ ?_<;>intro h11 QG
 have Ai:k<(od).length:=AG h11
 obtain ⟨x,Af⟩:=at_ Ai
 refine a2 ?_
 refine co rfl (AA rfl underlying22 B4 (vl rfl) (vl rfl) (by omega) (AP Af)) (co rfl (Gg rfl Cz rfl) ?_)
 refine co rfl (Zv (KG (e:=e) he.Qx) rfl rfl rfl rfl rfl) ?_
 refine ac ?_
 refine P9 2 4 5 6 10 12 13 14 75 rfl ?_
 refine Tr.cn rfl ?_ ?_<;>intro h12 Ul
 refine a2 ?_
 exact Fin.AL (k+1) ⟨Ai,by omega⟩ ⟨⟨_,rfl,AE k⟩,ke rfl,ke rfl,ke rfl,ke rfl,ke rfl,ke rfl,ke rfl,trivial⟩
 have hp:KF e su (min most e.most) x=true:=by simpa using h12
 have nZ:=fP hp
 obtain ⟨y,hy⟩:=Xv nZ
 refine a2 ?_
 refine co rfl (AA rfl underlying22 B4 (vl rfl) (vl rfl) (by omega) (AP Af)) (co rfl (Gg rfl Cz rfl) ?_)
 refine co rfl (CF (HH (e:=e) he.Qx) rfl rfl rfl) ?_
 refine ac ?_
 refine J0 2 5 6 10 12 13 14 15 rfl ?_
 refine ac ?_
 refine co rfl (AA rfl underlying77 FZ (vl rfl) (vl rfl) (by omega) (BS hy)) ?_
 refine ac ?_
 refine co rfl (kc5 (ZJ) rfl rfl rfl rfl rfl rfl) (co rfl (rF rfl (VL.le (vl rfl) WB) (VL.le (vl rfl) (B6 _ _))) ?_)
 refine ac ?_
 refine KP 10 12 13 14 99 rfl (Tr.ex 99 rfl fun ACC=> ?_)
 refine Tr.cn rfl ?_ ?_<;>intro Ms Yh
 refine ap ?_
 refine Tr.ret (Fin.AD (Fin.AX (Fin.AD (Fin.AD (Fin.AX (Fin.AD (Fin.BK rfl (AO.cell 0 rfl rfl Cf Bu rfl (Lr)) (AO.tmp rfl (Lr)) ?_)))))))
 · exact AJ (_,_,_) (AU trivial (Lr))
 refine ac ?_
 refine ap ?_
 refine tp rfl (AA rfl underlying22 B4 (vl rfl) (vl rfl) (by omega) (AP Af)) ?_
 refine ap ?_
 refine Tr.ret (Fin.AX (Fin.AD (Fin.AD (Fin.AX (Fin.AD (Fin.BK rfl (AO.cell 0 rfl rfl Cf Bu rfl (Lr)) (AO.tmp rfl (Lr)) ?_))))))
 · exact AJ (_,_,_) (AU trivial (Lr))
 have BJ:k=(od).length:=by have:=AH h11;omega
 subst BJ
 refine ac ?_
 refine ap ?_
 refine Cc 10 11 rfl (Tr.ret (Fin.BK rfl (AO.cell 0 rfl rfl Cf Bu rfl (Lr)) (AO.tmp rfl (Lr)) ?_))
 · exact AJ (_,_,_) (AU trivial (Lr))
theorem UN {c e:Bs} {day:Int} (hc:c.small) (he:e.small):BA prog 157 [agg (BV c),agg (BV e),int day] (Cp.ex fun z:Int×Int×Int=>fact True (EK [agg [int z.1,int z.2.1],int z.2.2])):=by
 refine fo func157 rfl ⟨rfl,rfl⟩ fun M0 w0=>(Tr.seq (Tr.An (tp rfl (Bb rfl (Va rfl)) (tp rfl (Bb rfl (Va rfl)) ?_))))
 refine Tl rfl rfl rfl rfl Io E_ (fun b1=> ?_)
 refine ap ?_
 refine ap ?_
 refine tp rfl (Up rfl (vl rfl) (vl rfl)) (tp rfl (KM rfl (vl rfl) (vl rfl)) ?_)
 refine ap ?_
 refine tp rfl (kc5 (ZK hc he) rfl rfl rfl rfl rfl rfl) ?_
 refine TO.ex 17 rfl (fun z1=>TO.fact 17 rfl fun FE=> ?_)
 refine ap ?_
 refine Cc 6 7 rfl (Tr.ret (Fin.BK rfl (AO.cell 0 rfl rfl Cf Bu rfl (Lr)) (AO.tmp rfl (Lr)) ?_))
 · exact AJ (_,_,_) (AU trivial (Lr))
abbrev uses (l:List (Int×Int)):Pr:=slice 2 (l.map fun x=>[int x.1,int x.2])
theorem Mc {e:Bs} {a b:Int} (he:e.small):BA prog 158 [agg (BV e),agg [int a,int b]] (Cp.ex fun z:List (Int×Int)×Int=>fact (z.1.length≤1000) (EK [uses z.1,int z.2])):=by
 refine fo func158 rfl ⟨rfl,rfl⟩ fun M0 w0=> ?_
 refine a2 ?_
 refine co rfl (Cq (Ez he) rfl rfl) ?_
 refine an ?_ ?_<;>intro h1 q1
 refine ac ?_
 refine Tr.ret (Fin.AD (Fin.BK rfl (AO.tmp rfl (Lr)) (AO.tmp rfl (Lr)) ?_))
 · exact AJ ([],_) (AU (Nat.zero_le _) (Am ⟨AF 2,Lr,trivial⟩))
 refine ac ?_
 refine ao ?_
 refine tp rfl (Cq (Ku (code:=b)) rfl rfl) ?_
 refine ao ?_
 refine Tl rfl rfl rfl rfl QC HT (fun b1=> ?_)
 refine TO.AK 0 rfl rfl rfl (vl rfl) (Va rfl) rfl FL rfl rfl ?_
 refine ao ?_
 refine Ef 2 3 6 7 rfl ?_
 refine an ?_ ?_<;>intro h2 q2
 refine ac ?_
 refine Tr.drop 0 (Tr.ret (Fin.AD (Fin.BK rfl (AO.tmp rfl (Lr)) (AO.tmp rfl (Lr)) ?_)))
 · exact AJ ([],_) (AU (Nat.zero_le _) (Am ⟨AF 2,Lr,trivial⟩))
 refine a2 ?_
 refine co rfl (CF (HH (e:=e) he.Qx) rfl rfl rfl) ?_
 refine ac ?_
 refine Ef 2 6 8 9 rfl ?_
 refine an ?_ ?_<;>intro h3 q3
 refine ac ?_
 refine Tr.drop 0 (Tr.ret (Fin.AD (Fin.BK rfl (AO.tmp rfl (Lr)) (AO.tmp rfl (Lr)) ?_)))
 · exact AJ ([],_) (AU (Nat.zero_le _) (Am ⟨AF 2,Lr,trivial⟩))
 obtain ⟨y,hy⟩:=Xv (ids:=e.ids) (code:=b) (by simpa using h3)
 refine ac ?_
 refine ao ?_
 refine tp rfl (AA rfl underlying77 FZ (vl rfl) (vl rfl) (by omega) (BS hy)) ?_
 refine ao ?_
 refine Tl rfl rfl rfl rfl Jg EA (fun b2=> ?_)
 refine sf 0 10 ⟨rfl,rfl,rfl⟩ rfl rfl rfl rfl ?_
 refine ao ?_
 refine Cc 6 10 rfl ?_
 refine an ?_ ?_<;>intro h4 q4
 refine ao ?_
 refine TO.Dz 0 rfl rfl (A0 rfl rfl (vl rfl) (Vo rfl) B4 rfl (by exact Nb rfl) rfl) ?_
 refine ao ?_
 refine ac ?_
 refine Tr.drop 0 (Cc 4 5 rfl (Tr.ret (Fin.BK rfl (AO.tmp rfl (Lr)) (AO.tmp rfl (Lr)) ?_)))
 · exact AJ ([(_,_),(_,_),(_,_),(_,_)],_) (AU (by simp) (Am ⟨Bq _ _,Lr,trivial⟩))
 refine a2 ?_
 refine Tr.drop 0 (Cc 4 5 rfl (Tr.ret (Fin.BK rfl (AO.tmp rfl (Lr)) (AO.tmp rfl (Lr)) ?_)))
 · exact AJ ([(_,_),(_,_),(_,_),(_,_)],_) (AU (by simp) (Am ⟨Bq _ _,Lr,trivial⟩))
theorem fQ {e:Bs} (h:Fz e=true):1≤e.least∧e.least≤4∧e.most≤4:=by
 unfold Fz at h
 simp only [Bool.and_eq_true,decide_eq_true_eq] at h
 omega
theorem UO {c e:Bs} (hc:c.small) (he:e.small):BA prog 160 [agg (BV c),agg (BV e)] (Cp.ex fun z:List (Int×Int)=>fact (z.length≤1000) (uses z)):=by
 refine fo func160 rfl ⟨rfl,rfl⟩ fun M0 w0=> ?_
 refine a2 ?_
 refine co rfl (Cq (Ez hc) rfl rfl) ?_
 refine ag ?_ ?_<;>intro h1 q1
 refine a3 ?_
 · exact AJ [] (AU (by simp) (AF 2))
 refine cy h1 rfl (AQ rfl Cg B_ (vl rfl) rfl rfl) (cy h1 rfl (Cq (Ez he) rfl rfl) ?_)
 refine an ?_ ?_<;>intro h2 q2
 refine a2 ?_
 · exact AJ [] (AU (by simp) (AF 2))
 obtain ⟨hc1,hc2,hc3⟩:=fQ (e:=c) (by simp_all)
 obtain ⟨he1,gV,he3⟩:=fQ (e:=e) (by simp_all)
 refine a3 ?_
 refine co rfl (KM rfl (vl rfl) (vl rfl)) ?_
 refine ac ?_
 refine Ef 2 3 5 6 rfl (Tr.block (Tr.B0 188 2 ?_))
 refine Tr.Cm [(2,_),(3,_)] ⟨ke rfl,ke rfl,trivial⟩ (fun (v:Int) (o:List (Int×Int)) u=>[(6,int v),(5,Ag u (uses o))]) (fun (v:Int) (o:List (Int×Int)) u=>Hp M0 w0 FR ([Aq 188 2 u])) (fun (v:Int) (o:List (Int×Int))=>1≤v∧v≤5∧(o.length:Int)≤(v-1)*16) (fun (v:Int) (o:List (Int×Int))=>(5-v).toNat) (max c.least e.least) ([]) (.slice none 0 0) (⟨by omega,by omega,by simp;omega⟩) ⟨ke rfl,⟨_,rfl,Bf rfl⟩,trivial⟩ (fun _ _ h=>h) ?_
 rintro v o u ⟨XC,Wm,lD⟩
 refine ac ?_
 refine co rfl (Up rfl (vl rfl) (vl rfl)) ?_
 refine an ?_ ?_<;>intro h3 q3
 have hvm:=h3
 refine a2 ?_
 refine Tr.block (Tr.Cm [(2,_),(3,_),(6,_)] ⟨ke rfl,ke rfl,ke rfl,trivial⟩ (fun (k:Int) (q:List (Int×Int)) u3=>[(7,int k),(5,Ag u3 (uses q))]) (fun (k:Int) (q:List (Int×Int)) u3=>Hp M0 w0 FR ([Aq 188 2 u3])) (fun (k:Int) (q:List (Int×Int))=>1≤k∧k≤17∧(q.length:Int)≤(v-1)*16+k-1) (fun (k:Int) (q:List (Int×Int))=>(17-k).toNat) (1) (o) u (⟨by omega,by omega,by omega⟩) ⟨ke rfl,⟨_,rfl,A7 rfl⟩,trivial⟩ (fun _ _ h=>h) ?_)
 rintro k q u3 ⟨hk1,hk2,hql⟩
 refine an ?_ ?_<;>intro h4 q4
 have hkm:=h4
 refine a2 ?_
 refine co rfl (Zv (KG (e:=e) he.Qx) rfl rfl rfl rfl rfl) ?_
 refine an ?_ ?_<;>intro h5 q5
 refine ap ?_
 refine TO.Dh 0 rfl rfl (by decide) (Bt rfl rfl rfl rfl underlying256 Bu Wu Io (Kb rfl) (Kf rfl) (Au (by exact List.Mem.head _) (Ka rfl))) (fun v1=> ?_)
 refine ap ?_
 refine KP 2 3 5 6 7 rfl ?_
 refine ac ?_
 exact Fin.BT (k+1) (q++[(v,k)]) v1 (⟨⟨by omega,by omega,by simp;omega⟩,by omega⟩) ⟨ke rfl,⟨_,rfl,A7 (by rw [List.map_append];rfl)⟩,ke rfl,ke rfl,ke rfl,trivial⟩ (fun _ _ h=>h)
 refine a2 ?_
 exact Fin.BT (k+1) (q) u3 (⟨⟨by omega,by omega,by omega⟩,by omega⟩) ⟨ke rfl,⟨_,rfl,A7 rfl⟩,ke rfl,ke rfl,ke rfl,trivial⟩ (fun _ _ h=>h)
 have hkm:=h4
 refine a2 ?_
 exact Fin.BT (v+1) (q) u3 (⟨⟨by omega,by omega,by omega⟩,by omega⟩) ⟨ke rfl,⟨_,rfl,A7 (by simp)⟩,ke rfl,ke rfl,trivial⟩ (fun _ _ h=>h)
 have hvm:=h3
 refine a3 ?_
 · exact AJ _ (AU (by omega) (Ak _ _))
theorem fR {e:DD} {i:Nat} {x:Ho} (h:E3 e=true) (hx:e.BE[i]? =some x):(0≤x.client∧x.client<(e.Be.length:Nat))∧(0≤x.server∧x.server<(e.Be.length:Nat)):=by
 have h1:=(DO.1 h).ed i (by rcases Nat.lt_or_ge i e.BE.length with h'|h';exact h';rw [List.getElem?_eq_none h'] at hx;cases hx)
 unfold DA at h1
 rw [hx] at h1
 simp only [Option.getD_some,Bool.and_eq_true,decide_eq_true_eq] at h1
 omega
theorem ZL {e:DD} {i:Int} (hf:e.fits):BA prog 156 [agg (B1 e),int i] (Cp.ex fun z:Bs×Bs×Int=>fact (z.2.2=0→z.1∈e.Be∧z.2.1∈e.Be) (EK [agg (BV z.1),agg (BV z.2.1),int z.2.2])):=by
 refine fo func156 rfl ⟨rfl,rfl⟩ fun M0 w0=>(Tr.seq (Tr.An (tp rfl (Bb rfl (Va rfl)) ?_)))
 refine Tl rfl rfl rfl rfl QA Hx (fun b1=> ?_)
 refine Tl rfl rfl rfl rfl QA Hx (fun b2=> ?_)
 refine ap ?_
 refine ac ?_
 refine co rfl (Cq (DV hf) rfl rfl) ?_
 refine an ?_ ?_<;>intro h1 q1
 refine ap ?_
 refine Tr.ret (Fin.AD (Fin.Ev rfl (AO.cell 1 rfl rfl Cg B_ rfl (Lr)) (AO.cell 0 rfl rfl Cg B_ rfl (Lr)) (AO.tmp rfl (Lr)) ?_))
 · exact AJ (Dv,Dv,_) (AU (fun h=>absurd h (by decide)) (Am ⟨(Aw ⟨Lr,Lr,Lr,AF 1,Lr,AF 4,AF 1,AF 1,Lr,trivial⟩),(Aw ⟨Lr,Lr,Lr,AF 1,Lr,AF 4,AF 1,AF 1,Lr,trivial⟩),Lr,trivial⟩))
 have R3:E3 e=true:=by cases h_:E3 e with|true=>rfl|false=>exact absurd h1 (by rw [h_];decide)
 refine ac ?_
 refine ag ?_ ?_<;>intro h2 q2
 refine ac ?_
 refine KP 1 2 4 5 20 rfl (Tr.cond rfl (fun _=> ?_) (fun h=>nomatch h))
 refine Tr.seq (Tr.An (tp rfl (Al (rows:=[]) rfl iF Hx trivial rfl) (tp rfl (Al (rows:=[]) rfl iF Hx trivial rfl) (TO.AK 1 rfl rfl rfl (vl rfl) (Va rfl) rfl B_ rfl rfl (TO.AK 0 rfl rfl rfl (vl rfl) (Va rfl) rfl B_ rfl rfl (tm rfl (TO.nil (Fin.go (Tr.ret (Fin.AD (Fin.Ev rfl (AO.cell 1 rfl rfl Cg B_ rfl (Lr)) (AO.cell 0 rfl rfl Cg B_ rfl (Lr)) (AO.tmp rfl (Lr)) ?_)))))))))))
 · exact AJ (Dv,Dv,_) (AU (fun h=>absurd h (by decide)) (Am ⟨(Aw ⟨Lr,Lr,Lr,AF 1,Lr,AF 4,AF 1,AF 1,Lr,trivial⟩),(Aw ⟨Lr,Lr,Lr,AF 1,Lr,AF 4,AF 1,AF 1,Lr,trivial⟩),Lr,trivial⟩))
 refine ac ?_
 refine KP 1 2 4 5 20 rfl ?_
 refine Tr.cn rfl ?_ ?_<;>intro h3 q3
 refine ap ?_
 refine Tr.ret (Fin.AD (Fin.Ev rfl (AO.cell 1 rfl rfl Cg B_ rfl (Lr)) (AO.cell 0 rfl rfl Cg B_ rfl (Lr)) (AO.tmp rfl (Lr)) ?_))
 · exact AJ (Dv,Dv,_) (AU (fun h=>absurd h (by decide)) (Am ⟨(Aw ⟨Lr,Lr,Lr,AF 1,Lr,AF 4,AF 1,AF 1,Lr,trivial⟩),(Aw ⟨Lr,Lr,Lr,AF 1,Lr,AF 4,AF 1,AF 1,Lr,trivial⟩),Lr,trivial⟩))
 obtain ⟨x,hx⟩:=at_ (l:=e.BE) (k:=i.toNat) (by omega)
 obtain ⟨hxc,hxs⟩:=fR R3 hx
 obtain ⟨c,hc⟩:=at_ (l:=e.Be) (k:=x.client.toNat) (by omega)
 obtain ⟨y,hy⟩:=at_ (l:=e.Be) (k:=x.server.toNat) (by omega)
 refine ac ?_
 refine Tr.seq (Tr.rx ?_)
 refine ay ?_
 refine xo rfl (fun _=>AA rfl underlying28 Gj (vl rfl) (vl rfl) (by omega) (BS hx)) ?_
 refine ay ?_
 refine xo rfl (fun _=>AA rfl underlying27 B_ (vl rfl) (vl rfl) (by omega) (BS hc)) ?_
 refine ay ?_
 refine xo rfl (fun _=>AA rfl underlying28 Gj (vl rfl) (vl rfl) (by omega) (BS hx)) ?_
 refine ay ?_
 refine xo rfl (fun _=>AA rfl underlying27 B_ (vl rfl) (vl rfl) (by omega) (BS hy)) ?_
 refine ay ?_
 refine Cx.nil ⟨by kernel_rfl,?_⟩
 refine BH.done YY (Fin.go (Cd 4 5 6 rfl (Tr.ret (Fin.Ev rfl (AO.cell 1 rfl rfl Cg B_ rfl (Lr)) (AO.cell 0 rfl rfl Cg B_ rfl (Lr)) (AO.tmp rfl (Lr)) ?_))))
 · exact AJ (c,y,_) (AU (fun _=>⟨List.mem_of_getElem? hc,List.mem_of_getElem? hy⟩) (Lr))
theorem Pg {e:DD} {i day:Int} (hf:e.fits):BA prog 144 [agg (B1 e),int i,int day] (Cp.ex fun z:Int×Int×Int=>fact True (EK [agg [int z.1,int z.2.1],int z.2.2])):=by
 refine fo func144 rfl ⟨rfl,rfl⟩ fun M0 w0=>(Tr.seq (Tr.An (tp rfl (Bb rfl (Va rfl)) ?_)))
 refine Tl rfl rfl rfl rfl Io E_ (fun b1=> ?_)
 refine ao ?_
 refine ao ?_
 refine tp rfl (CF (ZL hf) rfl rfl rfl) ?_
 refine TO.ex 14 rfl (fun z1=>TO.fact 14 rfl fun FE=> ?_)
 refine ao ?_
 refine Tl rfl rfl rfl rfl QA Hx (fun b2=> ?_)
 refine Tl rfl rfl rfl rfl QA Hx (fun b3=> ?_)
 refine sf 1 8 ⟨rfl,rfl,rfl⟩ rfl rfl rfl rfl ?_
 refine sf 0 9 ⟨rfl,rfl,rfl⟩ rfl rfl rfl rfl ?_
 refine ao ?_
 refine KP 2 6 8 9 10 rfl ?_
 refine an ?_ ?_<;>intro h1 q1
 refine ao ?_
 refine TO.AK 0 rfl rfl rfl (vl rfl) (Va rfl) rfl Bu rfl rfl ?_
 refine ao ?_
 refine Tr.ret (Fin.AD (Fin.BK rfl (AO.cell 0 rfl rfl Cf Bu rfl (Lr)) (AO.tmp rfl (Lr)) ?_))
 · exact AJ (_,_,_) (AU trivial (Lr))
 have hz0:z1.2.2=0:=by have:=q1;omega
 refine ac ?_
 refine ao ?_
 refine tp rfl (J2 (UN (hf.Be _ (FE hz0).1).2 (hf.Be _ (FE hz0).2).2) rfl rfl rfl rfl) ?_
 refine TO.ex 25 rfl (fun z2=>TO.fact 25 rfl fun Gf=> ?_)
 refine ao ?_
 refine TO.AK 0 rfl rfl rfl (vl rfl) (Va rfl) rfl Bu rfl rfl ?_
 refine ao ?_
 refine Cc 6 7 rfl (Tr.ret (Fin.BK rfl (AO.cell 0 rfl rfl Cf Bu rfl (Lr)) (AO.tmp rfl (Lr)) ?_))
 · exact AJ (_,_,_) (AU trivial (Lr))
theorem NG {e:DD} {i from_ ML:Int} (hf:e.fits):BA prog 113 [agg (B1 e),int i,int from_,int ML] (Cp.ex fun z:Int×Int×Int=>fact True (EK [agg [int z.1,int z.2.1],int z.2.2])):=by
 refine fo func113 rfl ⟨rfl,rfl⟩ fun M0 w0=>(Tr.seq (Tr.An (tp rfl (Bb rfl (Va rfl)) ?_)))
 refine Tl rfl rfl rfl rfl Io E_ (fun b1=> ?_)
 refine ao ?_
 refine ao ?_
 refine tp rfl (J2 (Pg hf) rfl rfl rfl rfl) ?_
 refine TO.ex 16 rfl (fun z1=>TO.fact 16 rfl fun FE=> ?_)
 refine ao ?_
 refine Tl rfl rfl rfl rfl Io E_ (fun b2=> ?_)
 refine sf 0 10 ⟨rfl,rfl,rfl⟩ rfl rfl rfl rfl ?_
 refine ao ?_
 refine Je 1 2 3 4 8 10 11 rfl ?_
 refine an ?_ ?_<;>intro h1 q1
 refine ao ?_
 refine TO.AK 0 rfl rfl rfl (vl rfl) (Va rfl) rfl Bu rfl rfl ?_
 refine ao ?_
 refine Tr.ret (Fin.AD (Fin.BK rfl (AO.cell 0 rfl rfl Cf Bu rfl (Lr)) (AO.tmp rfl (Lr)) ?_))
 · exact AJ (_,_,_) (AU trivial (Lr))
 refine ac ?_
 refine ao ?_
 refine tp rfl (J2 (Pg hf) rfl rfl rfl rfl) ?_
 refine TO.ex 27 rfl (fun z2=>TO.fact 27 rfl fun Gf=> ?_)
 refine ao ?_
 refine KP 2 3 8 10 11 rfl ?_
 refine an ?_ ?_<;>intro h2 q2
 refine ao ?_
 refine TO.AK 0 rfl rfl rfl (vl rfl) (Va rfl) rfl Bu rfl rfl ?_
 refine ao ?_
 refine Tr.ret (Fin.AD (Fin.BK rfl (AO.cell 0 rfl rfl Cf Bu rfl (Lr)) (AO.tmp rfl (Lr)) ?_))
 · exact AJ (_,_,_) (AU trivial (Lr))
 refine ac ?_
 refine an ?_ ?_<;>intro h3 q3
 refine ao ?_
 refine TO.AK 0 rfl rfl rfl (vl rfl) (Va rfl) rfl Bu rfl rfl ?_
 refine ao ?_
 refine Tr.ret (Fin.AD (Fin.BK rfl (AO.cell 0 rfl rfl Cf Bu rfl (Lr)) (AO.tmp rfl (Lr)) ?_))
 · exact AJ (_,_,_) (AU trivial (Lr))
 refine ac ?_
 refine ao ?_
 refine TO.AK 0 rfl rfl rfl (vl rfl) (Va rfl) rfl Bu rfl rfl ?_
 refine ao ?_
 refine Tr.ret (Fin.BK rfl (AO.cell 0 rfl rfl Cf Bu rfl (Lr)) (AO.tmp rfl (Lr)) ?_)
 · exact AJ (z1.1,z1.2.1,0) (AU trivial (Lr))
abbrev Ph:Pr:=slice 7 []
abbrev Lv:Pr:=agg [slice 6 [],slice 2 []]
abbrev Sm:Pr:=agg [slice 1 [],int 0]
theorem NH   :BA prog 52 [Lv] (int 0):=by
 refine BA.of func52 rfl rfl (by exact Nb rfl) fun M0 w0=> ?_
 refine Tr.seq (Tr.Ah (co rfl (Bb rfl (Va rfl)) (cm rfl (Ch.nil (Fin.go (Tr.seq (Tr.seq (Tr.Ah (co rfl (S0 rfl U1 rfl rfl) (co rfl (Gg rfl aY rfl) (co rfl (Bz rfl underlying60 (vl rfl)) (co rfl (ki rfl rfl rfl rfl) (cm rfl ?_)))))))))))))
 refine Ch.cs 9 rfl ?_ ?_<;>intro h1 q1
 iterate 4 refine cnf h1 rfl ?_
 refine co rfl (Na rfl rfl h1 rfl) (Ch.nil (Fin.go (Tr.cond rfl (fun _=> ?_) (fun h=>nomatch h))))
 refine Tr.seq (Tr.Ah (cm rfl (Ch.nil (Fin.go (Tr.ret (Fin.AD (Fin.Jz rfl (Bc.DZ _ _) rfl ?_)))))))
 · refine int_eq ?_;simp_all
 refine cy h1 rfl (S0 rfl aZ rfl rfl) (cy h1 rfl (Gg rfl mG rfl) (cy h1 rfl (Bz rfl underlying61 (vl rfl)) (cy h1 rfl (ki rfl rfl rfl rfl) (co rfl (Mq rfl rfl h1 rfl) (Ch.nil (Fin.go ?_))))))
 refine Tr.cn rfl ?_ ?_<;>intro h2 q2
 exact absurd h2 (by decide)
 refine Tr.skip (Fin.go (Tr.seq (Tr.seq (Tr.Ah (cm rfl (Ch.nil (Fin.go (Tr.block (Tr.A9 [(1,_)] ⟨ke rfl,trivial⟩ (fun k:Nat=>[(3,int ((k:Nat):Int))]) (fun k:Nat=>k=0) (fun k:Nat=>0) 0 (rfl) ⟨ke rfl,trivial⟩ ?_)))))))))
 rintro k hk0
 refine Tr.seq (Tr.seq (Tr.Ah (cm rfl (co rfl (S0 rfl U1 rfl rfl) (co rfl (Gg rfl aY rfl) (co rfl (Bz rfl underlying60 (vl rfl)) (co rfl (ki rfl rfl rfl rfl) (Ch.nil (Fin.go ?_)))))))))
 refine Tr.cn rfl ?_ ?_<;>intro h3 q3
 exfalso;have Tn:=D_.Eo h3;subst hk0;simp at Tn
 have Yq:=h3
 refine Tr.exit (Fin.Ad (Fin.Ad (Fin.Ax (Fin.go (Tr.seq (Tr.seq (Tr.Ah (cm rfl (Ch.nil (Fin.go (Tr.block (Tr.A9 [(1,_)] ⟨ke rfl,trivial⟩ (fun k:Nat=>[(4,int ((k:Nat):Int))]) (fun k:Nat=>k=0) (fun k:Nat=>0) 0 (rfl) ⟨ke rfl,trivial⟩ ?_))))))))))))
 rintro k hk0
 refine Tr.seq (Tr.seq (Tr.Ah (cm rfl (co rfl (S0 rfl aZ rfl rfl) (co rfl (Gg rfl mG rfl) (co rfl (Bz rfl underlying61 (vl rfl)) (co rfl (ki rfl rfl rfl rfl) (Ch.nil (Fin.go ?_)))))))))
 refine Tr.cn rfl ?_ ?_<;>intro h4 q4
 exfalso;have Tn:=D_.Eo h4;subst hk0;simp at Tn
 have Yq:=h4
 refine Tr.exit (Fin.Ad (Fin.Ad (Fin.Ax (Fin.go (Tr.seq (Tr.Ah (cm rfl (Ch.nil (Fin.go (Tr.ret (Fin.Jz rfl (Bc.DZ _ _) rfl ?_)))))))))))
 · exact Lr
theorem UP {a b p:Int}  :BA prog 178 [Lv,agg [int a,int b],int p] (anyI):=by
 refine fo func178 rfl ⟨rfl,rfl⟩ fun M0 w0=> ?_
 · repeat' first|exact absurd h (by decide)|exact AJ _ (Lr)|refine co rfl (Cq (NH) rfl rfl) ?_|refine co rfl (Cq (I7 (Bw:=a) (bits:=b)) rfl rfl) ?_|refine ac ?_|(refine Tr.cn rfl ?_ ?_<;>intro h q)|(refine Ch.cg rfl rfl rfl ?_ ?_<;>intro h q)
theorem KH {a b p d:Int}  :BA prog 180 [Lv,agg [int a,int b],int p,int d] (int (-1)):=by
 refine fo func180 rfl ⟨rfl,rfl⟩ fun M0 w0=> ?_
 refine a2 ?_
 refine co rfl (Bz rfl underlying60 (vl rfl)) ?_
 refine ac ?_
 refine Tr.block (Tr.A9 [(2,_),(3,_),(4,_),(5,_)] (YO rfl) (fun k:Nat=>[(9,int (-1))]) (fun k:Nat=>True) (fun k:Nat=>0) 0 (trivial) ⟨ke rfl,trivial⟩ ?_)
 rintro k _
 refine an ?_ ?_<;>intro h1 q1
 exact absurd h1 (by decide)
 have Yq:=h1
 refine a3 ?_
 · exact Lr
theorem QO {a b p d:Int}  :BA prog 179 [Lv,agg [int a,int b],int p,int d] (bool true):=by
 refine fo func179 rfl ⟨rfl,rfl⟩ fun M0 w0=> ?_
 · repeat' first|exact Lr|exact absurd h (by decide)|refine co rfl (Zv (KH) rfl rfl rfl rfl rfl) ?_|refine ac ?_|(refine Ch.cg rfl rfl rfl ?_ ?_<;>intro h q)
theorem QS {a b p d:Int}  :BA prog 165 [Lv,agg [int a,int b],int p,int d] (EK [Dw,anyI,anyI]):=by
 refine fo func165 rfl ⟨rfl,rfl⟩ fun M0 w0=> ?_
 refine a2 ?_
 refine co rfl (J2 (UP) rfl rfl rfl rfl) ?_
 refine ac ?_
 refine Tr.seq (Tr.ex 11 rfl fun x11=> ?_)
 refine an ?_ ?_<;>intro h1 q1
 refine ac ?_
 refine Cd 8 9 10 rfl (Tr.ret (Fin.AD (Fin.Hr rfl (Bc.DZ _ _) rfl ?_ rfl ?_ rfl ?_)))
 · exact AJ _ (Lr)
 · exact AJ _ (Lr)
 · exact AJ _ (Lr)
 refine ac ?_
 refine ag ?_ ?_<;>intro h2 q2
 refine ac ?_
 refine KP 2 3 4 5 24 rfl ?_
 refine ac ?_
 refine Tr.ret (Fin.AD (Fin.Hr rfl (Bc.DZ _ _) rfl ?_ rfl ?_ rfl ?_))
 · exact AJ _ (Lr)
 · exact AJ _ (Lr)
 · exact AJ _ (Lr)
 refine ac ?_
 refine KP 2 3 4 5 24 rfl ?_
 refine Tr.cn rfl ?_ ?_<;>intro h3 q3
 refine ac ?_
 refine Tr.ret (Fin.AD (Fin.Hr rfl (Bc.DZ _ _) rfl ?_ rfl ?_ rfl ?_))
 · exact AJ _ (Lr)
 · exact AJ _ (Lr)
 · exact AJ _ (Lr)
 refine a2 ?_
 refine co rfl (Zv (QO) rfl rfl rfl rfl rfl) ?_
 refine ac ?_
 refine co rfl (Zv (KH) rfl rfl rfl rfl rfl) ?_
 refine ac ?_
 refine Cd 8 9 10 rfl (Tr.ret (Fin.Hr rfl (Bc.DZ _ _) rfl ?_ rfl ?_ rfl ?_))
 · exact AJ _ (Lr)
 · exact AJ _ (Lr)
 · exact AJ _ (Lr)
theorem ZM   :BA prog 166 [Ph] (int 0):=by
 refine fo func166 rfl ⟨rfl,rfl⟩ fun M0 w0=> ?_
 refine a2 ?_
 refine Tr.block (Tr.A9 [(0,_)] ⟨ke rfl,trivial⟩ (fun k:Nat=>[(3,int ((k:Nat):Int))]) (fun k:Nat=>k=0) (fun k:Nat=>0) 0 (rfl) ⟨ke rfl,trivial⟩ ?_)
 rintro k hk0
 refine ac ?_
 refine co rfl (Bz rfl underlying97 (vl rfl)) ?_
 refine an ?_ ?_<;>intro h1 q1
 exfalso;have Tn:=D_.Eo h1;subst hk0;simp at Tn
 have Yq:=h1
 refine a3 ?_
 · exact Lr
theorem ZN {a b p d:Int} {s:List UInt8}  :BA prog 167 [Ph,Sm,agg [int a,int b],int p,str s,int d] (bool false):=by
 refine fo func167 rfl ⟨rfl,rfl⟩ fun M0 w0=> ?_
 refine a2 ?_
 refine Tr.block (Tr.A9 [(0,_),(3,_),(4,_),(5,_),(7,_),(8,_)] (mC rfl) (fun k:Nat=>[(13,int ((k:Nat):Int))]) (fun k:Nat=>k=0) (fun k:Nat=>0) 0 (rfl) ⟨ke rfl,trivial⟩ ?_)
 rintro k hk0
 refine ac ?_
 refine co rfl (Bz rfl underlying97 (vl rfl)) ?_
 refine an ?_ ?_<;>intro h1 q1
 exfalso;have Tn:=D_.Eo h1;subst hk0;simp at Tn
 have Yq:=h1
 refine a3 ?_
 · exact Lr
theorem QT {a b p d:Int} {s:List UInt8}  :BA prog 159 [Lv,Ph,Sm,agg [int a,int b],int p,str s,int d] (EK [Dw,anyI]):=by
 refine fo func159 rfl ⟨rfl,rfl⟩ fun M0 w0=> ?_
 refine a2 ?_
 refine co rfl (Zv (QS) rfl rfl rfl rfl rfl) ?_
 refine ac ?_
 refine J0 1 4 5 6 9 10 16 18 rfl (Tr.seq (Tr.seq (Tr.ex 18 rfl fun x18=>(Tr.ex 16 rfl fun x16=> ?_))))
 refine an ?_ ?_<;>intro h1 q1
 refine ac ?_
 refine Tr.ret (Fin.AD (Fin.DG rfl (Bc.DZ _ _) rfl ?_ rfl ?_))
 · exact AJ _ (Lr)
 · exact AJ _ (Lr)
 refine a2 ?_
 refine co rfl (Cq (ZM) rfl rfl) ?_
 refine a2 ?_
 refine P9 1 4 5 6 9 10 16 19 35 rfl ?_
 refine Tr.cn rfl ?_ ?_<;>intro h2 q2
 exact absurd h2 (by decide)
 refine ac ?_
 refine ag ?_ ?_<;>intro h3 q3
 refine ac ?_
 refine Cc 14 15 rfl (Tr.ret (Fin.DG rfl (Bc.DZ _ _) rfl ?_ rfl ?_))
 · exact AJ _ (Lr)
 · exact AJ _ (Lr)
 refine ac ?_
 refine cy h3 rfl (AR rfl (ZN) ⟨ke rfl,ke rfl,ke rfl,ke rfl,ke rfl,ke rfl,trivial⟩) ?_
 refine ac ?_
 refine Cc 14 15 rfl (Tr.ret (Fin.DG rfl (Bc.DZ _ _) rfl ?_ rfl ?_))
 · exact AJ _ (Lr)
 · exact AJ _ (Lr)
theorem WD {e:Bs} {a b d:Int} (he:e.small):BA prog 151 [Lv,Ph,Sm,agg (BV e),agg [int a,int b],int d] (EK [Dw,anyI]):=by
 refine fo func151 rfl ⟨rfl,rfl⟩ fun M0 w0=> ?_
 refine ac ?_
 refine ap ?_
 refine tp rfl (CF (Mc he) rfl rfl rfl) ?_
 refine TO.ex 23 rfl (fun z1=>TO.fact 23 rfl fun FE=> ?_)
 refine ap ?_
 refine Je 1 5 6 8 9 14 15 rfl ?_
 refine an ?_ ?_<;>intro h1 q1
 refine ac ?_
 refine Tr.ret (Fin.AD (Fin.DG rfl (Bc.DZ _ _) rfl ?_ rfl ?_))
 · exact AJ _ (Lr)
 · exact AJ _ (Lr)
 refine a3 ?_
 refine Tr.block (Tr.A9 [(1,_),(5,_),(6,_),(8,_),(9,_),(14,_)] (mC rfl) (fun k:Nat=>[(17,int ((k:Nat):Int)),(16,Dw)]) (fun k:Nat=>k≤(z1.1).length) (fun k:Nat=>(z1.1).length-k) 0 (Nat.zero_le _) ⟨ke rfl,⟨_,rfl,AJ _ (Lr)⟩,trivial⟩ ?_)
 rintro k BP
 refine Tr.ex 16 rfl fun x16=> ?_
 refine an ?_ ?_<;>intro h2 q2
 have Ai:k<(z1.1).length:=AG h2
 obtain ⟨x,Af⟩:=at_ Ai
 refine a2 ?_
 refine co rfl (AA rfl underlying129 J1 (vl rfl) (vl rfl) (by omega) (AP Af)) ?_
 refine ac ?_
 refine co rfl (AR rfl (QT (a:=x.1) (b:=x.2)) ⟨ke rfl,ke rfl,ke rfl,ke rfl,ke rfl,ke rfl,ke rfl,trivial⟩) ?_
 refine ac ?_
 refine HQ 1 5 6 8 9 14 16 17 18 19 rfl (Tr.seq (Tr.seq (Tr.ex 19 rfl fun x19=>(Tr.ex 18 rfl fun x18=> ?_))))
 refine an ?_ ?_<;>intro h3 q3
 refine ac ?_
 refine Cc 12 13 rfl (Tr.ret (Fin.AD (Fin.AX (Fin.AD (Fin.AD (Fin.AX (Fin.AD (Fin.DG rfl (Bc.DZ _ _) rfl ?_ rfl ?_))))))))
 · exact AJ _ (Lr)
 · exact AJ _ (Lr)
 · repeat' first|exact Fin.AL (k+1) ⟨Ai,by omega⟩ ⟨⟨_,rfl,AE k⟩,⟨_,rfl,AJ _ (Lr)⟩,ke rfl,ke rfl,ke rfl,ke rfl,ke rfl,ke rfl,trivial⟩|refine ac ?_|(refine Ch.cg rfl rfl rfl ?_ ?_<;>intro h q)
 have BJ:k=(z1.1).length:=by have:=AH h2;omega
 subst BJ
 refine a2 ?_
 refine Cc 12 13 rfl (Tr.ret (Fin.DG rfl (Bc.DZ _ _) rfl ?_ rfl ?_))
 · exact AJ _ (Lr)
 · exact AJ _ (Lr)
theorem JV {d:Int}  :BA prog 36 [Lv,Ph,int d] (anyI):=by
 refine fo func36 rfl ⟨rfl,rfl⟩ fun M0 w0=> ?_
 refine a2 ?_
 refine co rfl (Cq (NH) rfl rfl) ?_
 refine an ?_ ?_<;>intro h1 q1
 exact absurd h1 (by decide)
 refine a2 ?_
 refine co rfl (Bz rfl underlying97 (vl rfl)) ?_
 refine ac ?_
 refine Tr.block (Tr.A9 [(2,_),(12,_),(13,_)] (L_ rfl) (fun k:Nat=>[(14,int ((k:Nat):Int))]) (fun k:Nat=>k=0) (fun k:Nat=>0) 0 (rfl) ⟨ke rfl,trivial⟩ ?_)
 rintro k hk0
 refine ac ?_
 refine Tr.seq ?_
 refine Tr.cn rfl ?_ ?_<;>intro h2 q2
 exfalso;have Tn:=D_.Eo h2;subst hk0;simp at Tn
 have Yq:=h2
 · repeat' first|exact AJ _ (Lr)|refine ac ?_|(refine Tr.cn rfl ?_ ?_<;>intro h q)|(refine Ch.cg rfl rfl rfl ?_ ?_<;>intro h q)
abbrev Xw:Pr:=Cp.ex fun z:List (Int×Int)=>fact (z.length≤1000) (uses z)
structure JW (e:DD) (i:Int) (x:Ho) (c s:Bs):Prop where
 i0:0≤i
 hx:e.BE[i.toNat]? =some x
 c0:0≤x.client
 s0:0≤x.server
 hc:e.Be[x.client.toNat]? =some c
 hs:e.Be[x.server.toNat]? =some s
 cs:c.small
 ss:s.small
theorem fS {e:DD} {i:Int} (hf:e.fits) (R3:E3 e=true) (h0:0≤i) (hi:i.toNat<e.BE.length):∃x c s,JW e i x c s:=by
 obtain ⟨x,hx⟩:=at_ hi
 obtain ⟨hxc,hxs⟩:=fR R3 hx
 obtain ⟨c,hc⟩:=at_ (l:=e.Be) (k:=x.client.toNat) (by omega)
 obtain ⟨y,hy⟩:=at_ (l:=e.Be) (k:=x.server.toNat) (by omega)
 exact ⟨x,c,y,h0,hx,hxc.1,hxs.1,hc,hy,(hf.Be _ (List.mem_of_getElem? hc)).2,(hf.Be _ (List.mem_of_getElem? hy)).2⟩
theorem JW.li {e:DD} {i:Int} {x:Ho} {c s:Bs} (h:JW e i x c s):i.toNat<e.BE.length:=by
 have:=h.hx
 rcases Nat.lt_or_ge i.toNat e.BE.length with h'|h'
 · exact h'
 · rw [List.getElem?_eq_none h'] at this;cases this
theorem JW.lc {e:DD} {i:Int} {x:Ho} {c s:Bs} (h:JW e i x c s):x.client.toNat<e.Be.length:=by
 have:=h.hc
 rcases Nat.lt_or_ge x.client.toNat e.Be.length with h'|h'
 · exact h'
 · rw [List.getElem?_eq_none h'] at this;cases this
theorem JW.ls {e:DD} {i:Int} {x:Ho} {c s:Bs} (h:JW e i x c s):x.server.toNat<e.Be.length:=by
 have:=h.hs
 rcases Nat.lt_or_ge x.server.toNat e.Be.length with h'|h'
 · exact h'
 · rw [List.getElem?_eq_none h'] at this;cases this
theorem JX {e:DD} {i:Int} {x:Ho} {c s:Bs} (he:JW e i x c s):BA prog 140 [agg (B1 e),int i] (agg (BV s)):=by
 refine fo func140 rfl ⟨rfl,rfl⟩ fun M0 w0=> ?_
 have e1:=he.i0
 have e2:=he.c0
 have e3:=he.s0
 have e4:=he.li
 have e5:=he.lc
 have e6:=he.ls
 refine Tr.seq (Tr.An (tp rfl (Bb rfl (Va rfl)) ?_))
 refine Tl rfl rfl rfl rfl QA Hx (fun b1=> ?_)
 refine ap ?_
 refine Tr.seq (Tr.rx ?_)
 refine ay ?_
 refine xo rfl (fun _=>AA rfl underlying28 Gj (vl rfl) (vl rfl) (by omega) (BS he.hx)) ?_
 refine ay ?_
 refine xo rfl (fun _=>AA rfl underlying27 B_ (vl rfl) (vl rfl) (by omega) (BS he.hs)) ?_
 refine ay ?_
 refine Cx.nil ⟨by kernel_rfl,?_⟩
 refine BH.done al1 (Fin.go (Tr.ret (Fin.CS rfl (AO.cell 0 rfl rfl Cg B_ rfl (Lr)) ?_)))
 · exact Lr
theorem NI {e:DD} {i:Int} {x:Ho} {c s:Bs} (he:JW e i x c s):BA prog 152 [agg (B1 e),int i] (Xw):=by
 refine fo func152 rfl ⟨rfl,rfl⟩ fun M0 w0=> ?_
 have e1:=he.i0
 have e2:=he.c0
 have e3:=he.s0
 have e4:=he.li
 have e5:=he.lc
 have e6:=he.ls
 refine ac ?_
 refine ao ?_
 refine tp rfl (AA rfl underlying28 Gj (vl rfl) (vl rfl) (by omega) (BS he.hx)) (tp rfl (AQ rfl TR Gj (vl rfl) rfl rfl) ?_)
 refine Tl rfl rfl rfl rfl oZ aq (fun b1=> ?_)
 refine sf 0 5 ⟨rfl,rfl,rfl⟩ rfl rfl rfl rfl ?_
 refine ao ?_
 refine ac ?_
 refine co rfl (AA rfl underlying27 B_ (vl rfl) (vl rfl) (by omega) (BS he.hc)) ?_
 refine ac ?_
 refine co rfl (AA rfl underlying27 B_ (vl rfl) (vl rfl) (by omega) (BS he.hs)) (co rfl (AQ rfl Cg B_ (vl rfl) rfl rfl) (co rfl (CF (UO he.cs he.ss) rfl rfl rfl) ?_))
 refine ac ?_
 refine FX 4 rfl ?_
 refine ac ?_
 · exact Lr
theorem WE {a b:Bs} {x y:Int} (ha:a.small) (hb:b.small):BA prog 153 [agg (BV a),agg (BV b),agg [int x,int y]] (Dw):=by
 refine fo func153 rfl ⟨rfl,rfl⟩ fun M0 w0=> ?_
 refine ac ?_
 refine ap ?_
 refine tp rfl (CF (Mc ha) rfl rfl rfl) ?_
 refine TO.ex 15 rfl (fun z1=>TO.fact 15 rfl fun FE=> ?_)
 refine ap ?_
 refine Cd 4 5 7 rfl ?_
 refine ap ?_
 refine tp rfl (CF (Mc hb) rfl rfl rfl) ?_
 refine TO.ex 21 rfl (fun z2=>TO.fact 21 rfl fun Gf=> ?_)
 refine ap ?_
 refine ac ?_
 refine Cd 7 9 28 rfl ?_
 refine Tr.cn rfl ?_ ?_<;>intro h1 q1
 refine a2 ?_
 · exact AJ _ (Lr)
 have Yk:z1.1.length=z2.1.length:=by have h_:=q1;omega
 refine a2 ?_
 refine Tr.block (Tr.A9 [(7,_),(9,_),(30,_)] (L_ rfl) (fun k:Nat=>[(31,int ((k:Nat):Int))]) (fun k:Nat=>k≤(z1.1).length) (fun k:Nat=>(z1.1).length-k) 0 (Nat.zero_le _) ⟨ke rfl,trivial⟩ ?_)
 rintro k BP
 refine ac ?_
 refine Tr.seq ?_
 refine Tr.cn rfl ?_ ?_<;>intro h2 q2
 have Ai:k<(z1.1).length:=AG h2
 obtain ⟨x,Af⟩:=at_ Ai
 obtain ⟨y2,kL⟩:=at_ (l:=z2.1) (k:=k) (by omega)
 · repeat' first|exact AJ _ (Lr)|exact Fin.AL (k+1) ⟨Ai,by omega⟩ ⟨⟨_,rfl,AE k⟩,ke rfl,ke rfl,ke rfl,trivial⟩|refine co rfl (AA rfl underlying129 J1 (vl rfl) (vl rfl) (by omega) (AP Af)) ?_|refine co rfl (AA rfl underlying129 J1 (vl rfl) (vl rfl) (by omega) (AP kL)) (co rfl (AQ rfl Ia J1 (vl rfl) rfl rfl) (co rfl (Nd rfl (vl rfl) (vl rfl)) ?_))|refine ac ?_|(refine Tr.cn rfl ?_ ?_<;>intro h q)
 have BJ:k=(z1.1).length:=by have:=AH h2;omega
 subst BJ
 refine a3 ?_
 · exact AJ _ (Lr)
theorem ZO {a b:DD} (ha:a.fits) (hb:b.fits):BA prog 138 [agg (B1 a),agg (B1 b)] (Cp.ex fun z:Int=>fact (z=0→E3 a=true∧E3 b=true∧a.BE.length=b.BE.length) (int z)):=by
 refine fo func138 rfl ⟨rfl,rfl⟩ fun M0 w0=>(Tr.G_ 0 1 rfl rfl fun Jp=>(Tr.G_ 1 1 rfl rfl fun yZ=> ?_))
 refine a2 ?_
 refine co rfl (Cq (DV ha) rfl rfl) ?_
 refine ag ?_ ?_<;>intro h1 q1
 refine a3 ?_
 · exact AJ _ (AU (fun h_=>absurd h_ (by decide)) (Lr))
 refine cy h1 rfl (AQ rfl C8 C7 (vl rfl) rfl rfl) (cy h1 rfl (Cq (DV hb) rfl rfl) ?_)
 refine an ?_ ?_<;>intro h2 q2
 refine a2 ?_
 · exact AJ _ (AU (fun h_=>absurd h_ (by decide)) (Lr))
 refine a2 ?_
 refine Cd 2 3 20 rfl ?_
 refine Tr.cn rfl ?_ ?_<;>intro h3 q3
 refine a2 ?_
 · exact AJ _ (AU (fun h_=>absurd h_ (by decide)) (Lr))
 have Yk:a.BE.length=b.BE.length:=by have h_:=q3;omega
 refine a2 ?_
 refine Tr.block (Tr.A9 [(2,_),(3,_),(23,_)] (L_ rfl) (fun k:Nat=>[(24,int ((k:Nat):Int))]) (fun k:Nat=>k≤(a.BE).length) (fun k:Nat=>(a.BE).length-k) 0 (Nat.zero_le _) ⟨ke rfl,trivial⟩ ?_)
 rintro k BP
 refine ac ?_
 refine Tr.seq ?_
 refine Tr.cn rfl ?_ ?_<;>intro h4 q4
 have Ai:k<(a.BE).length:=AG h4
 obtain ⟨x,Af⟩:=at_ Ai
 obtain ⟨y2,kL⟩:=at_ (l:=b.BE) (k:=k) (by omega)
 · repeat' first|exact AJ _ (AU (fun h_=>absurd h_ (by decide)) (Lr))|exact Fin.AL (k+1) ⟨Ai,by omega⟩ ⟨⟨_,rfl,AE k⟩,ke rfl,ke rfl,ke rfl,trivial⟩|refine co rfl (AA rfl underlying28 Gj (vl rfl) (vl rfl) (by omega) (AP Af)) ?_|refine co rfl (AA rfl underlying28 Gj (vl rfl) (vl rfl) (by omega) (AP kL)) (co rfl (AQ rfl TR Gj (vl rfl) rfl rfl) (co rfl (jo rfl (vl rfl) (vl rfl)) ?_))|refine ac ?_|(refine Tr.cn rfl ?_ ?_<;>intro h q)
 have BJ:k=(a.BE).length:=by have:=AH h4;omega
 subst BJ
 refine a3 ?_
 · exact AJ 0 (AU (fun _=>⟨by simp_all,by simp_all,Yk⟩) (Lr))
theorem rH {d:Nat} {w:World} {x0 y0:Int} {x1 y1:Int}:(Op.equalIn (d+2) 188 (.agg #[.int .i64 x0,.int .i64 x1]) (.agg #[.int .i64 y0,.int .i64 y1])).run Tryz.prog w= .ok (decide (x0=y0∧x1=y1)) w:=by
 have h:=eqS (w:=w) (d:=d+1) (xs:= #[.int .i64 x0,.int .i64 x1]) (ys:= #[.int .i64 y0,.int .i64 y1]) Tryz.underlying188 (by kernel_rfl) (Em (by decide) (Bv Cz rfl) (Bv Cz rfl) (Fq (d:=d+0) Tryz.underlying3) (Em (by decide) (Bv Cz rfl) (Bv Cz rfl) (Fq (d:=d+0) Tryz.underlying3) (LO)))
 refine h.trans (congrArg (fun b=>Result.ok b w) ?_)
 rw [Bool.eq_iff_iff];simp [and_assoc]
theorem fT {E:Env} {I:CU} {o:Oper} {u:TypeId} {x y:Operand} {x0 y0:Int} {x1 y1:Int} (ho:o.op= .binOp .eql 188 x y u) (hx:VL E x (agg [is (.int .i64 x0),is (.int .i64 x1)])) (hy:VL E y (agg [is (.int .i64 y0),is (.int .i64 y1)])):Aa Tryz.prog I o E (bool (decide (x0=y0∧x1=y1))):=
 Ob [.int .i64 x0,.int .i64 x1] [.int .i64 y0,.int .i64 y1] ho hx hy (by kernel_rfl) (fun w=>by rw [show Op.equal 188 _ _=Op.equalIn (9998+2) 188 _ _ from rfl];exact rH)
theorem BA.outs {P:Program} {f:FuncId} {p0:Pr} {ps:List Pr} {res:Pr} (h:∀z:List (Int×Int),z.length≤1000→BA P f (p0::uses z::ps) res):BA P f (p0::Go.Proofs.YtkobgkelhcigdaaGreatDoor.Xw::ps) res:=by
 refine ⟨(h [] (Nat.zero_le _)).1,fun M w vs hb hv=> ?_⟩
 match vs,hv with
 |u0::u1::us,⟨h0,⟨z,hz,h1⟩,h2⟩=>exact (h z hz).2 M w (u0::u1::us) hb ⟨h0,h1,h2⟩
section
variable {P:Program} {I:CU} {E:Env} {o:Oper}
theorem rI {t u:TypeId} {x y:Operand} (ho:o.op= .binOp .gtr t x y u) (hx:VL E x (F5 .i64)) (hy:VL E y (F5 .i64)):Aa P I o E Dw:=
 Aa.same fun M w a he _=>by
  obtain ⟨m,h1⟩:=hx.ev he (by simp [ho,Op.operands])
  obtain ⟨n,h2⟩:=hy.ev he (by simp [ho,Op.operands])
  have h1:a.eval x= .int .i64 m:=h1
  have h2:a.eval y= .int .i64 n:=h2
  exact ⟨.bool (decide (m>n)),by simp [execOp,ho,h1,h2,eqGuard,binOp,Op.intCmp],_,rfl⟩
end
theorem ZP {e:Bs} {all:List (Int×Int)} {d:Int} (he:e.small) (hl:all.length≤1000):BA prog 139 [agg (BV e),uses all,Lv,Ph,Sm,int d] (Xw):=by
 refine fo func139 rfl ⟨rfl,rfl⟩ fun M0 w0=> ?_
 refine a3 ?_
 refine Tr.block (Tr.B0 188 2 (Tr.Cm [(3,_),(5,_),(6,_),(8,_),(10,_),(18,_),(19,_)] ⟨ke rfl,ke rfl,ke rfl,ke rfl,ke rfl,ke rfl,ke rfl,trivial⟩ (fun (o:List (Int×Int)) (k:Nat) u=>[(20,int ((k:Nat):Int)),(13,Ag u (uses o))]) (fun (o:List (Int×Int)) (k:Nat) u=>Hp M0 w0 FR ([Aq 188 2 u])) (fun (o:List (Int×Int)) (k:Nat)=>k≤all.length∧o.length≤k) (fun (o:List (Int×Int)) (k:Nat)=>all.length-k) ([]) (0) (.slice none 0 0) (⟨Nat.zero_le _,by simp⟩) ⟨ke rfl,⟨_,rfl,Bf rfl⟩,trivial⟩ (fun _ _ h=>h) ?_))
 rintro o k u ⟨hk0,lD⟩
 refine ac ?_
 refine Tr.seq ?_
 refine Tr.cn rfl ?_ ?_<;>intro h1 q1
 have hk:k<all.length:=AG h1
 obtain ⟨y,hy⟩:=at_ hk
 refine ac ?_
 refine Tr.seq (Tr.block (Tr.seq (Tr.An (tp rfl (AA rfl underlying256 Bu (vl rfl) (vl rfl) (by omega) (AP hy)) (tp rfl (AQ rfl Cf Bu (vl rfl) rfl rfl) ?_)))))
 refine Tl rfl rfl rfl rfl Io E_ (fun b1=> ?_)
 refine sf 0 15 ⟨rfl,rfl,rfl⟩ rfl rfl rfl rfl ?_
 refine ao ?_
 refine HQ 3 5 6 8 10 13 15 18 19 20 rfl ?_
 refine ac ?_
 refine co rfl (AR rfl (WD he) ⟨ke rfl,ke rfl,ke rfl,ke rfl,ke rfl,ke rfl,trivial⟩) ?_
 refine ac ?_
 refine ON 3 5 6 8 10 13 15 16 17 18 19 20 rfl (Tr.seq (Tr.ex 17 rfl fun x17=>(Tr.ex 16 rfl fun x16=> ?_)))
 refine ag ?_ ?_<;>intro h2 q2
 refine ac ?_
 refine Es 3 5 6 8 10 13 15 18 19 20 38 rfl ?_
 refine Tr.cn rfl ?_ ?_<;>intro h3 q3
 refine ao ?_
 refine TO.Dh 0 rfl rfl (by decide) (Bt rfl rfl rfl rfl underlying256 Bu Wu Io (Kb rfl) (Kf rfl) (Au (by exact List.Mem.head _) (Ka rfl))) (fun v1=> ?_)
 refine ao ?_
 refine P9 3 5 6 8 10 13 18 19 20 rfl ?_
 refine ac ?_
 exact Fin.BT (o++[(y.1,y.2)]) (k+1) v1 (⟨⟨by omega,by simp;omega⟩,by omega⟩) ⟨⟨_,rfl,AE k⟩,⟨_,rfl,A7 (by rw [List.map_append];rfl)⟩,ke rfl,ke rfl,ke rfl,ke rfl,ke rfl,ke rfl,ke rfl,trivial⟩ (fun _ _ h=>h)
 refine a2 ?_
 exact Fin.BT (o) (k+1) u (⟨⟨by omega,by omega⟩,by omega⟩) ⟨⟨_,rfl,AE k⟩,⟨_,rfl,A7 rfl⟩,ke rfl,ke rfl,ke rfl,ke rfl,ke rfl,ke rfl,ke rfl,trivial⟩ (fun _ _ h=>h)
 refine ac ?_
 refine Es 3 5 6 8 10 13 15 18 19 20 38 rfl ?_
 refine a2 ?_
 exact Fin.BT (o) (k+1) u (⟨⟨by omega,by omega⟩,by omega⟩) ⟨⟨_,rfl,AE k⟩,⟨_,rfl,A7 rfl⟩,ke rfl,ke rfl,ke rfl,ke rfl,ke rfl,ke rfl,ke rfl,trivial⟩ (fun _ _ h=>h)
 have hk:=AH h1
 refine a3 ?_
 · exact AJ _ (AU (by omega) (Ak _ _))
theorem Sn {a b:DD} {i:Int} {x x2:Ho} {c s c2 s2:Bs} (ha:JW a i x c s) (hb:JW b i x2 c2 s2):BA prog 141 [agg (B1 a),agg (B1 b),int i] (Xw):=by
 refine fo func141 rfl ⟨rfl,rfl⟩ fun M0 w0=> ?_
 refine ac ?_
 refine ao ?_
 refine tp rfl (CF (NI ha) rfl rfl rfl) ?_
 refine TO.ex 16 rfl (fun z1=>TO.fact 16 rfl fun FE=> ?_)
 refine ao ?_
 refine ac ?_
 refine ao ?_
 refine tp rfl (CF (NI hb) rfl rfl rfl) ?_
 refine TO.ex 19 rfl (fun z2=>TO.fact 19 rfl fun Gf=> ?_)
 refine ao ?_
 refine J0 2 3 4 7 8 19 20 21 rfl (Tr.block (Tr.B0 188 2 (Tr.Cm [(2,_),(3,_),(4,_),(7,_),(19,_),(20,_)] ⟨ke rfl,ke rfl,ke rfl,ke rfl,ke rfl,ke rfl,trivial⟩ (fun (o:List (Int×Int)) (k:Nat) u=>[(21,int ((k:Nat):Int)),(8,Ag u (uses o))]) (fun (o:List (Int×Int)) (k:Nat) u=>Hp M0 w0 FR ([Aq 188 2 u])) (fun (o:List (Int×Int)) (k:Nat)=>k≤z2.length∧o.length≤k) (fun (o:List (Int×Int)) (k:Nat)=>z2.length-k) ([]) (0) (.slice none 0 0) (⟨Nat.zero_le _,by simp⟩) ⟨ke rfl,⟨_,rfl,Bf rfl⟩,trivial⟩ (fun _ _ h=>h) ?_)))
 rintro o k u ⟨hk0,lD⟩
 refine ac ?_
 refine Tr.seq ?_
 refine Tr.cn rfl ?_ ?_<;>intro h1 q1
 have hk:k<z2.length:=AG h1
 obtain ⟨y,hy⟩:=at_ hk
 refine ac ?_
 refine Tr.seq (Tr.block (Tr.seq (Tr.An (tp rfl (AA rfl underlying256 Bu (vl rfl) (vl rfl) (by omega) (AP hy)) (tp rfl (AQ rfl Cf Bu (vl rfl) rfl rfl) ?_)))))
 refine Tl rfl rfl rfl rfl Io E_ (fun b1=> ?_)
 refine sf 0 10 ⟨rfl,rfl,rfl⟩ rfl rfl rfl rfl ?_
 refine ao ?_
 refine P9 2 3 4 7 8 10 19 20 21 rfl ?_
 refine a2 ?_
 refine Tr.block (Tr.A9 [(2,_),(3,_),(4,_),(7,_),(8,_),(10,_),(19,_),(20,_),(21,_),(25,_),(26,_)] (yw rfl) (fun m:Nat=>[(27,int ((m:Nat):Int)),(11,Dw)]) (fun m:Nat=>m≤(z1).length) (fun m:Nat=>(z1).length-m) 0 (Nat.zero_le _) ⟨ke rfl,⟨_,rfl,AJ _ (Lr)⟩,trivial⟩ ?_)
 rintro m Lc
 refine Tr.ex 11 rfl fun x11=> ?_
 refine ac ?_
 refine NM 2 3 4 7 8 10 11 19 20 21 25 26 27 28 rfl (Tr.seq ?_)
 refine Tr.cn rfl ?_ ?_<;>intro h2 q2
 have EB:m<(z1).length:=AG h2
 obtain ⟨w,EJ⟩:=at_ EB
 refine ac ?_
 refine LC 2 3 4 7 8 10 11 19 20 21 25 26 27 rfl (Tr.seq (Tr.block (Tr.seq (Tr.An (tp rfl (AA rfl underlying256 Bu (vl rfl) (vl rfl) (by omega) (AP EJ)) (tp rfl (AQ rfl Cf Bu (vl rfl) rfl rfl) ?_))))))
 refine Tl rfl rfl rfl rfl Io E_ (fun b2=> ?_)
 refine sf 0 13 ⟨rfl,rfl,rfl⟩ rfl rfl rfl rfl ?_
 refine ao ?_
 · repeat' first|exact Fin.AL (m+1) ⟨EB,by omega⟩ ⟨⟨_,rfl,AE m⟩,⟨_,rfl,AJ _ (Lr)⟩,ke rfl,ke rfl,ke rfl,ke rfl,ke rfl,ke rfl,ke rfl,ke rfl,ke rfl,ke rfl,ke rfl,trivial⟩|refine cy h rfl (fT rfl (vl rfl) (vl rfl)) ?_|refine ac ?_|(refine Ch.cg rfl rfl rfl ?_ ?_<;>intro h q)
 have JF:m=(z1).length:=by have:=AH h2;omega
 subst JF
 refine ac ?_
 refine HQ 2 3 4 7 8 10 11 19 20 21 rfl ?_
 refine ag ?_ ?_<;>intro h4 q4
 refine ac ?_
 refine HQ 2 3 4 7 8 10 19 20 21 50 rfl (Tr.cond rfl (fun _=> ?_) (fun h=>nomatch h))
 refine Tr.An (tm rfl (tp rfl (AQ rfl Cf Bu (vl rfl) rfl rfl) (tp rfl (AM (xs:=[.tmp 52]) (rows:=[_]) rfl rfl underlying256 Bu Io rfl (by decide) ⟨⟨(by exact rfl),(Va rfl)⟩,trivial⟩ (by decide)) ?_)))
 refine TO.Dh 0 rfl rfl (by decide) (Bt rfl rfl rfl rfl underlying256 Bu Wu Io (Kb rfl) (Kf rfl) (Au (by exact List.Mem.head _) (Ka rfl))) (fun v1=> ?_)
 refine ao ?_
 refine J0 2 3 4 7 8 19 20 21 rfl ?_
 refine ac ?_
 exact Fin.BT (o++[(y.1,y.2)]) (k+1) v1 (⟨⟨by omega,by simp;omega⟩,by omega⟩) ⟨⟨_,rfl,AE k⟩,⟨_,rfl,A7 (by rw [List.map_append];rfl)⟩,ke rfl,ke rfl,ke rfl,ke rfl,ke rfl,ke rfl,trivial⟩ (fun _ _ h=>h)
 refine ac ?_
 refine cy h4 rfl (CF (JX ha) rfl rfl rfl) ?_
 refine ac ?_
 refine cy h4 rfl (CF (JX hb) rfl rfl rfl) (cy h4 rfl (AQ rfl Cf Bu (vl rfl) rfl rfl) (cy h4 rfl (J2 (WE ha.ss hb.ss) rfl rfl rfl rfl) (cy h4 rfl (IP rfl (vl rfl)) ?_)))
 refine ac ?_
 refine HQ 2 3 4 7 8 10 19 20 21 50 rfl (Tr.ex 50 rfl fun AAz=> ?_)
 refine Tr.cn rfl ?_ ?_<;>intro h5 q5
 refine ao ?_
 refine TO.Dh 0 rfl rfl (by decide) (Bt rfl rfl rfl rfl underlying256 Bu Wu Io (Kb rfl) (Kf rfl) (Au (by exact List.Mem.head _) (Ka rfl))) (fun v2=> ?_)
 refine ao ?_
 refine J0 2 3 4 7 8 19 20 21 rfl ?_
 refine ac ?_
 exact Fin.BT (o++[(y.1,y.2)]) (k+1) v2 (⟨⟨by omega,by simp;omega⟩,by omega⟩) ⟨⟨_,rfl,AE k⟩,⟨_,rfl,A7 (by rw [List.map_append];rfl)⟩,ke rfl,ke rfl,ke rfl,ke rfl,ke rfl,ke rfl,trivial⟩ (fun _ _ h=>h)
 refine a2 ?_
 exact Fin.BT (o) (k+1) u (⟨⟨by omega,by omega⟩,by omega⟩) ⟨⟨_,rfl,AE k⟩,⟨_,rfl,A7 rfl⟩,ke rfl,ke rfl,ke rfl,ke rfl,ke rfl,ke rfl,trivial⟩ (fun _ _ h=>h)
 have hk:=AH h1
 refine a3 ?_
 · exact AJ _ (AU (by omega) (Ak _ _))
theorem ZQ {a b:DD} {d:Int} (ha:a.fits) (hb:b.fits):BA prog 111 [agg (B1 a),agg (B1 b),Lv,Ph,Sm,int d] (Cp.ex fun z:List Int×Int=>fact (z.1.length≤1000) (EK [ints z.1,int z.2])):=by
 refine fo func111 rfl ⟨rfl,rfl⟩ fun M0 w0=>(Tr.G_ 0 1 rfl rfl fun Jp=> ?_)
 refine ac ?_
 refine ap ?_
 refine tp rfl (CF (ZO ha hb) rfl rfl rfl) ?_
 refine TO.ex 20 rfl (fun z1=>TO.fact 20 rfl fun FE=> ?_)
 refine ap ?_
 refine ac ?_
 refine J0 3 5 6 7 8 10 14 22 rfl ?_
 refine Tr.cn rfl ?_ ?_<;>intro h1 q1
 refine ac ?_
 refine Tr.ret (Fin.AD (Fin.BK rfl (AO.tmp rfl (Lr)) (AO.tmp rfl (Lr)) ?_))
 · exact AJ ([],_) (AU (Nat.zero_le _) (Am ⟨AF 1,Lr,trivial⟩))
 obtain ⟨hAe,hBe,Yk⟩:=FE (by have:=q1;omega)
 have h40:=(DO.1 hAe).e40
 refine a2 ?_
 refine co rfl (J2 (JV) rfl rfl rfl rfl) ?_
 refine ac ?_
 refine Tr.seq (Tr.ex 15 rfl fun x15=> ?_)
 refine ac ?_
 refine J0 3 5 6 7 8 10 15 29 rfl ?_
 refine Tr.cn rfl ?_ ?_<;>intro h2 q2
 refine ac ?_
 refine Tr.ret (Fin.AD (Fin.BK rfl (AO.tmp rfl (Lr)) (AO.tmp rfl (Lr)) ?_))
 · exact AJ ([],_) (AU (Nat.zero_le _) (Am ⟨AF 1,Lr,trivial⟩))
 refine a3 ?_
 refine Tr.block (Tr.B0 3 1 (Tr.Cm [(3,_),(5,_),(6,_),(7,_),(8,_),(10,_),(33,_)] ⟨ke rfl,ke rfl,ke rfl,ke rfl,ke rfl,ke rfl,ke rfl,trivial⟩ (fun (o:List Int) (k:Nat) u=>[(34,int ((k:Nat):Int)),(16,Ag u (ints o))]) (fun (o:List Int) (k:Nat) u=>Hp M0 w0 FR ([Aq 3 1 u])) (fun (o:List Int) (k:Nat)=>k≤a.BE.length∧o.length≤k) (fun (o:List Int) (k:Nat)=>a.BE.length-k) ([]) (0) (.slice none 0 0) (⟨Nat.zero_le _,by simp⟩) ⟨ke rfl,⟨_,rfl,Bf rfl⟩,trivial⟩ (fun _ _ h=>h) ?_))
 rintro o k u ⟨hk0,lD⟩
 refine ac ?_
 refine Tr.seq ?_
 refine Tr.cn rfl ?_ ?_<;>intro h3 q3
 have hk:k<a.BE.length:=AG h3
 obtain ⟨_,_,_,hea⟩:=fS (i:=((k:Nat):Int)) ha hAe (by omega) (by omega)
 obtain ⟨_,_,_,heb⟩:=fS (i:=((k:Nat):Int)) hb hBe (by omega) (by omega)
 refine a3 ?_
 refine co rfl (CF (JX heb) rfl rfl rfl) ?_
 refine ac ?_
 refine co rfl (J2 (Sn hea heb) rfl rfl rfl rfl) ?_
 refine ac ?_
 refine co rfl (AR rfl (BA.outs fun z hz=>ZP heb.ss hz) ⟨ke rfl,ke rfl,ke rfl,ke rfl,ke rfl,ke rfl,trivial⟩) (co rfl (Aa.MB 48 rfl (by decide) fun z=>Aa.opf 48 rfl (by decide) fun _=>Aa.le (Bz rfl underlying256 (vl rfl)) (AJ _ (Lr))) (co rfl (rI rfl (VL.le (vl rfl) WB) (VL.le (vl rfl) (B6 _ _))) ?_))
 refine ac ?_
 refine Es 3 5 6 7 8 10 16 17 33 34 50 rfl (Tr.ex 50 rfl fun AAz=> ?_)
 refine Tr.cn rfl ?_ ?_<;>intro h4 q4
 refine ap ?_
 refine TO.Dh 0 rfl rfl (by decide) (Bt rfl rfl rfl rfl underlying22 B4 Jf z3 (Kb rfl) (Kf rfl) (Au (by exact List.Mem.head _) (Ka rfl))) (fun v1=> ?_)
 refine ap ?_
 refine P9 3 5 6 7 8 10 16 33 34 rfl ?_
 refine ac ?_
 exact Fin.BT (o++[((k:Nat):Int)]) (k+1) v1 (⟨⟨by omega,by simp;omega⟩,by omega⟩) ⟨⟨_,rfl,AE k⟩,⟨_,rfl,A7 (by rw [List.map_append];rfl)⟩,ke rfl,ke rfl,ke rfl,ke rfl,ke rfl,ke rfl,ke rfl,trivial⟩ (fun _ _ h=>h)
 refine a2 ?_
 exact Fin.BT (o) (k+1) u (⟨⟨by omega,by omega⟩,by omega⟩) ⟨⟨_,rfl,AE k⟩,⟨_,rfl,A7 rfl⟩,ke rfl,ke rfl,ke rfl,ke rfl,ke rfl,ke rfl,ke rfl,trivial⟩ (fun _ _ h=>h)
 have hk:=AH h3
 refine a2 ?_
 refine Tr.ret (Fin.BK rfl (AO.tmp rfl (Lr)) (AO.tmp rfl (Lr)) ?_)
 · exact AJ (_,_) (AU (show o.length≤1000 by omega) (Am ⟨Ak _ _,Lr,trivial⟩))
end Go.Proofs.YtkobgkelhcigdaaGreatDoor
