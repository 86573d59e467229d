/-
  Part 7 of the texts that prove this claim, merged.
-/
import Derived.Test.YthommhphcagokaaGreatDoorRows
import Derived.Test.YthommhphcagokaaGreatDoorPsFP6
set_option linter.all false
set_option maxRecDepth 40000
set_option maxHeartbeats 16000000
namespace Go.Proofs.YthommhphcagokaaGreatDoor
open Go Go.RowKit Cp Go.Proofs.Tryz
structure Zk(n:Nat)(i j:Int)(l:List PR):Prop where
 at_:∀k,k<l.length->DO n l k=true
 lt:∀g∈l,g.client<i\/(g.client=i/\g.server<j)
theorem Zk.nil(n:Nat)(i j:Int):Zk n i j []:=⟨fun k hk=>by simp at hk,fun g hg=>by simp at hg⟩
theorem Zk.step{n:Nat}{i j:Int}{l:List PR}(h:Zk n i j l):Zk n i (j+1) l:=⟨h.at_,fun g hg=>by have:=h.lt g hg;omega⟩
theorem Zk.row{n:Nat}{i j:Int}{l:List PR}(h:Zk n i j l):Zk n (i+1) 0 l:=⟨h.at_,fun g hg=>by have:=h.lt g hg;omega⟩
theorem Zk.snoc{n:Nat}{i j:Int}{l:List PR}(h:Zk n i j l)(hi:0<=i/\i<n)(hj:0<=j/\j<n)(hn:i≠j):Zk n i (j+1) (l++[⟨i,j⟩]):=by
 refine⟨fun k hk=>?_,fun g hg=>?_⟩
 .
  rw[List.length_append]at hk;simp at hk;rcases Nat.lt_or_ge k l.length with hl|hl
  .
   have:=h.at_ k hl;unfold DO at this ⊢;rw[List.getElem?_append_left hl,List.getElem?_append_left (show k-1<l.length by omega)];exact this
  .
   have:k=l.length:=by omega
   subst this;unfold DO;rw[List.getElem?_append_right (Nat.le_refl _),Nat.sub_self];rcases Nat.eq_zero_or_pos l.length with hz|hz
   .
    obtain rfl:=List.eq_nil_of_length_eq_zero hz;simp;omega
   .
    obtain⟨y,hy⟩:=Cp.at_ (l:=l) (k:=l.length-1) AA;rw[List.getElem?_append_left (show l.length-1<l.length by omega),hy];have:=h.lt y (List.mem_of_getElem? hy);simp;omega
 .
  rcases List.mem_append.1 hg with hg|hg
  .have:=h.lt g hg;omega
  .simp at hg;subst hg;right;exact⟨rfl,by show j<j+1;omega⟩
theorem nM:∀i,i<2->Lib.compareBytes (GN[i]?.getD []) (GN[i+1]?.getD [])= -1:=by decide+kernel
structure R9(e:Es):Prop where
 n2:2<=e.Bu.length
 n3:e.Bu.length<=3
 snd:mm e.Bu
 ed:∀k,k<e.BR.length->DO e.Bu.length e.BR k=true
 g1:1<=e.BR.length
 g3:e.BR.length<=3
 it:∀x∈e.items,Zj x
 i2:e.items.length<=2
theorem R9.ok{e:Es}(h:R9 e):EO e=true:=by
 have h3:=h.n3;have g3:=h.g3;have i2:=h.i2;refine F3.2 ⟨fun j hj=>?_,by omega,h.ed,by omega,List.all_eq_true.2 fun x hx=>(h.it x hx).ok,by omega⟩;obtain⟨x,hx⟩:=at_ hj;have hs:=h.snd j x hx;unfold Q3;rw[hx,Option.getD_some,DR.2 (s_ hs),Bool.true_and,Bool.or_eq_true,decide_eq_true_eq,decide_eq_true_eq];rcases Nat.eq_zero_or_pos j with hz|hz
 .exact .inl hz
 .
  right;obtain⟨y,hy⟩:=at_ (l:=e.Bu) (k:=j-1) AA;have N2:=h.snd _ y hy;rw[hy,Option.getD_some];have:=nM (j-1) AA;rw[N2.name,show j-1+1=j by omega,hs.name]at this;exact this
theorem R9.fits{e:Es}(h:R9 e):e.fits:=by
 have h3:=h.n3;have g3:=h.g3;have i2:=h.i2;refine⟨fun x hx=>?_,fun x hx=>by have:=(h.it x hx).name;unfold maxLen;omega,by omega,by omega,by omega⟩;obtain⟨i,hi⟩:=List.getElem?_of_mem hx;exact⟨Tu (h.snd i x hi),R3 (h.snd i x hi)⟩
abbrev Mj:List UInt8:=[98,97,99,107,117,112]
abbrev Zl:List UInt8:=[100,101,101,100]
theorem dZ(s:DS):named (Kg s [Mj,Zl])=true:=by
 have h:=s.D_ (n:=2) AA;unfold Kg;have:s.val (([Mj,Zl]:List (List UInt8)).length:Nat)=0\/s.val (([Mj,Zl]:List (List UInt8)).length:Nat)=1:=by show s.val 2=0\/s.val 2=1;omega
 rcases this with h|h<;>rw[h]<;>decide
theorem Xg{l:List Od}{y:Od}(h:∀x∈l,Zj x)(hy:Zj y):∀x∈l++[y],Zj x:=by grind
theorem nN{b:Nat}{s:DS}  :BM prog 8 [ptr b 0] (Cp.ex fun e:Es=>fact (R9 e) (agg (CF e))) (EP b s) (fun _=>L9 66 b):=by
 refine BM.of func8 rfl rfl Ag fun M0 w0 S rs M1 w1=>?_;have PZ:=s.D_ (n:=2) AA;have RT:(GN.take (2+s.val 2).toNat).length=(2+s.val 2).toNat:=by rw[List.length_take];show min _ 3=_;omega
 refine Tr.seq (Tr.At ?_);refine Tl rfl rfl rfl rfl z32 Iz (fun b1=>?_);refine TO.nil (Fin.go (Tr.seq (Tr.At ?_)));refine Tl rfl rfl rfl rfl z32 Iz (fun b2=>?_);refine TO.nil (Fin.go (Tr.seq (Tr.At (tp rfl (AX (xs:=[.const (.string ⟨[97,112,112].toArray⟩),.const (.string ⟨[100,98].toArray⟩),.const (.string ⟨[119,101,98].toArray⟩)]) (rows:=[[_],[_],[_]]) rfl rfl underlying67 Lj z9 rfl AB ⟨⟨Ab,(Vo rfl)⟩,⟨⟨Ab,(Vo rfl)⟩,⟨⟨Ab,(Vo rfl)⟩,trivial⟩⟩⟩ AB) ?_))));refine tm rfl (TO.LC 2 rfl rfl AB (Au rfl rfl AB rfl (DB AA AA) ⟨ke rfl,ke rfl,trivial⟩) ?_);refine tp rfl (Hf rfl (vl rfl) (vl rfl) ?hin) ?_;case hin=>unfold Sb;omega
 refine tp rfl (E2 rfl underlying67 Lj (Kf rfl) (vl rfl) AA Ci) ?_;refine tm rfl (TO.nil (Fin.go (Tr.seq (Tr.seq (Tr.Bo (cm rfl (co rfl (BJ rfl underlying67 (vl rfl)) (cm rfl (Ch.nil (Fin.go (Tr.block ?_)))))))))));refine Tr.re 16 rfl (Pr.le_of_eq (by show slice 1 (List.take _ (GN.map fun t=>[str t]))=_;rw[←List.map_take]):Pr.le _ (ZG (GN.take (2+s.val 2).toNat))) ?_;refine Tr.re 17 rfl (int_eq (by simp;rfl):Pr.le _ (int (((GN.take (2+s.val 2).toNat).length:Nat):Int))) ?_;refine Tr.Hx 0 [Aj (.slice none 0 0) (slice 9 (([]:List DY).map As)),is (.slice none 0 0),is (.slice none 0 0)] rfl ⟨DA rfl,Lr,Lr,trivial⟩ (Tr.Dt 73 9 (Tr.Iy [(0,_),(2,_),(3,_),(4,_),(16,_),(17,_)] ⟨ke rfl,ke rfl,ke rfl,ke rfl,ke rfl,ke rfl,trivial⟩ (fun(k:Nat) (es:List DY) (s2:DS) v=>[(18,int ((k:Nat):Int))]) (fun(k:Nat) (es:List DY) (s2:DS) v=>Hp M0 w0 S (Bc 73 9 v::AE true b2 32 [Aj v (slice 9 (es.map As)),is (.slice none 0 0),is (.slice none 0 0)]::AE true b1 32 (([.slice none 0 0,.slice none 0 0,.slice none 0 0]:List Value).map is)::EP b s2::Ao M1 w1::rs)) (fun(k:Nat) (es:List DY) (s2:DS)=>k<=(2+s.val 2).toNat/\es.length=k/\mm es) (fun(k:Nat) (es:List DY) (s2:DS)=>(2+s.val 2).toNat-k) (0) ([]) (_) (.slice none 0 0) (⟨by omega,rfl,fun i e h=>by simp at h⟩) ⟨ke rfl,trivial⟩ (fun _ _ h=>h) ?_));rintro k es s2 v ⟨hk1,hk2,hk3⟩;refine Tr.seq (Tr.Bo (co rfl (ki rfl rfl rfl rfl) (Ch.nil (Fin.go (Tr.seq ?_)))));refine Tr.cn rfl ?_ ?_<;>intro h1 q1
 have hkn:k<(2+s.val 2).toNat:=by have:=Fy.HC h1;rw[RT]at this;omega
 obtain⟨nm,hnm⟩:=at_ (l:=GN.take (2+s.val 2).toNat) (k:=k) AA;have Ie:GN[k]? =some nm:=mo hnm;have hso:=mq (s2.C1.val 3);have AHi:k<3:=A7 Ie;have hvs:=s2.C1.D_ (n:=3) AA;have hof:=yd s2;refine Tr.skip (Fin.go (Tr.seq (Tr.block (Tr.seq (Tr.Bo (cm rfl (co rfl (AD rfl underlying67 Lj (vl rfl) (vl rfl) AA (Ap hnm)) (co rfl (FO rfl OK rfl) (cm rfl (cm rfl (Ch.nil (Fin.go (Tr.seq (Tr.pad ?_))))))))))))));refine Tr.Yl mixed [none,none,none,some (0,4,true,0),none,none,none,none,none,some (0,4,true,0),none,none,none,some (0,4,true,0),none,none,none,some (0,4,true,0),none,some (0,0,true,7),some (7,0,true,7)] BQ (xm rfl (xm rfl (xo rfl (fun _=>AX (xs:=[.const (.int .i64 (3)),.const (.int .i64 (3)),.const (.int .i64 (4))]) (rows:=[[_],[_],[_]]) rfl rfl underlying22 C4 z3 rfl AB ⟨⟨Ab,(Vo rfl)⟩,⟨⟨Ab,(Vo rfl)⟩,⟨⟨Ab,(Vo rfl)⟩,trivial⟩⟩⟩ AB) ?_)));refine Cx.ef 4 rfl rfl AB (Au rfl rfl AB rfl (cO (l:=[3,3,4]) Ai Ai) ⟨ke rfl,(Kf rfl),trivial⟩) ?_;refine xo rfl (fun _=>AX (xs:=[.const (.int .i64 (10)),.const (.int .i64 (8)),.const (.int .i64 (2))]) (rows:=[[_],[_],[_]]) rfl rfl underlying22 C4 z3 rfl AB ⟨⟨Ab,(Vo rfl)⟩,⟨⟨Ab,(Vo rfl)⟩,⟨⟨Ab,(Vo rfl)⟩,trivial⟩⟩⟩ AB) ?_;refine xo rfl (fun _=>AX (xs:=[.const (.int .i64 (8)),.const (.int .i64 (2))]) (rows:=[[_],[_]]) rfl rfl underlying22 C4 z3 rfl AB ⟨⟨Ab,(Vo rfl)⟩,⟨⟨Ab,(Vo rfl)⟩,trivial⟩⟩ AB) ?_;refine xo rfl (fun _=>AX (xs:=[.const (.int .i64 (2)),.const (.int .i64 (10)),.const (.int .i64 (8)),.const (.int .i64 (3))]) (rows:=[[_],[_],[_],[_]]) rfl rfl underlying22 C4 z3 rfl AB ⟨⟨Ab,(Vo rfl)⟩,⟨⟨Ab,(Vo rfl)⟩,⟨⟨Ab,(Vo rfl)⟩,⟨⟨Ab,(Vo rfl)⟩,trivial⟩⟩⟩⟩ AB) ?_;refine xo rfl (fun _=>AX (xs:=[.tmp 27,.tmp 28,.tmp 29]) (rows:=[[_],[_],[_]]) rfl rfl underlying69 HO z22 rfl AB ⟨⟨Ab,⟨_,rfl,Pr.le_trans (A_ _ _) (AV _)⟩⟩,⟨⟨Ab,⟨_,rfl,Pr.le_trans (A_ _ _) (AV _)⟩⟩,⟨⟨Ab,⟨_,rfl,Pr.le_trans (A_ _ _) (AV _)⟩⟩,trivial⟩⟩⟩ AB) ?_;refine xm rfl (Cx.ef 4 rfl rfl AB (Au rfl rfl AB rfl (DB AA AA) ⟨ke rfl,ke rfl,trivial⟩) ?_);refine xo rfl (fun _=>AD rfl underlying69 HO (Kf rfl) (vl rfl) AA (show(Po.map fun l=>[ints l])[_]? =_ from sy hvs)) ?_;refine xo rfl (fun _=>FO rfl IF rfl) (xm rfl (Cx.ef 4 rfl rfl AB (Au rfl rfl AB rfl (lD AA AA) ⟨ke rfl,ke rfl,trivial⟩) (xo rfl (fun _=>AX (xs:=[.const (.int .i64 (1))]) (rows:=[[_]]) rfl rfl underlying22 C4 z3 rfl AB ⟨⟨Ab,(Vo rfl)⟩,trivial⟩ AB) ?_)));refine xo rfl (fun _=>AX (xs:=[.const (.int .i64 (2)),.const (.int .i64 (3))]) (rows:=[[_],[_]]) rfl rfl underlying22 C4 z3 rfl AB ⟨⟨Ab,(Vo rfl)⟩,⟨⟨Ab,(Vo rfl)⟩,trivial⟩⟩ AB) ?_;refine xm rfl (Cx.ef 4 rfl rfl AB (Au rfl rfl AB rfl (lD AA AA) ⟨ke rfl,ke rfl,trivial⟩) (xo rfl (fun _=>Al (rows:=[(0,[_]),(1,[_]),(2,[_]),(3,[_]),(4,[_]),(6,[_]),(7,[_]),(8,[_])]) rfl fB Dn ⟨⟨rfl,(Vo rfl)⟩,⟨⟨rfl,(Vo rfl)⟩,⟨⟨rfl,(Vo rfl)⟩,⟨⟨rfl,(Vo rfl)⟩,⟨⟨rfl,(Vo rfl)⟩,⟨⟨rfl,⟨_,rfl,Pr.le_trans (A_ _ _) (AV _)⟩⟩,⟨⟨rfl,⟨_,rfl,Pr.le_trans (A_ _ _) (AV _)⟩⟩,⟨⟨rfl,(Vo rfl)⟩,trivial⟩⟩⟩⟩⟩⟩⟩⟩ rfl) (Cx.ef 0 rfl rfl AB (Gh rfl rfl AB rfl HU Dn) (Cx.ED 0 rfl rfl (Gi rfl rfl rfl rfl (Va rfl) Bj rfl rfl) ?_))));refine Cx.nil ⟨rfl,?_⟩;refine BG.open_ 0 7 rfl rfl (fun v1=>?_);refine BG.done (Cu.cons (Cu.cons (Cu.cons (Cu.cons (Cu.cons (Cu.cons (Cu.map _))))))) (Fin.iq 7 0 _ rfl rfl (fun _=>rfl) (fun b3=>?_));refine Fin.go (jx 0 2 3 4 5 6 7 16 17 18 rfl (Tr.seq (Tr.seq (Tr.Hx 0 [str nm,int 1,int (s2.of [3,3,4]),ints (MX (s2.C1.val 3)),bool (s2.C1.C1.val 2==2-1),is (.slice none 0 0),ints [1],ints [2,3],bool (s2.C1.C1.C1.val 3==3-1)] rfl ⟨Lr,Lr,Lr,Lr,Lr,Lr,Lr,Lr,Lr,trivial⟩ (Tr.Bo (co rfl (AG rfl Yu (vl rfl)) (co rfl (Bi 0 rfl (A9 rfl DP (vl rfl) rfl)) (co rfl (ki rfl rfl rfl rfl) (Ch.nil (Fin.go ?_))))))))));refine Tr.cn rfl ?_ ?_<;>intro h2 q2
 refine Tr.At (tp rfl (AX (xs:=[.const (.int .i64 (14))]) (rows:=[[_]]) rfl rfl underlying22 C4 z3 rfl AB ⟨⟨Ab,(Vo rfl)⟩,trivial⟩ AB) ?_);refine tp rfl (AG rfl GG (vl rfl)) (TO.rd 0 rfl rfl rfl AB (A9 rfl IF (vl rfl) rfl) (TO.pad ?_));refine TO.EV 0 rfl rfl AB (FI rfl rfl rfl rfl underlying22 C4 RO z3 (Kf rfl) (vl rfl) (Bv BW (vl rfl))) (fun v2=>?_);refine tp rfl (AG rfl GG (vl rfl)) (TO.ED 1 rfl rfl (BP rfl rfl (vl rfl) (Vo rfl) HO rfl Ag rfl) (TO.nil (Fin.go (jx 0 2 3 4 5 6 7 16 17 18 rfl (Tr.seq (Tr.At (tm rfl (tp rfl (Aa rfl (vk) trivial) (tm rfl ?_)))))))));refine tp rfl (Hf rfl (vl rfl) (vl rfl) ?hin) ?_;case hin=>unfold Sb;omega
 refine tp rfl (Aa rfl (ZW (name:=nm) (a:=5) (b:=2048) (id:=100+(k:Nat)) (to:=901) (key:=1) (Vp Ie AA AA) (Tt AA) AA) ⟨ke rfl,ke rfl,ke rfl,ke rfl,ke rfl,trivial⟩) ?_;refine TO.ex 54 rfl (fun ir=>TO.fact 54 rfl fun yw=>?_);refine tp rfl (AX (xs:=[.tmp 54]) (rows:=[_]) rfl rfl underlying71 B8 NH rfl AB ⟨⟨Ab,(Va rfl)⟩,trivial⟩ AB) ?_;refine tp rfl (AG rfl Ge (vl rfl)) (TO.ED 1 rfl rfl (BP rfl rfl (vl rfl) (Vo rfl) Sj rfl Ag rfl) (TO.nil (Fin.go (wk8 0 2 3 4 7 16 17 18 rfl (Tr.At (tp rfl (AG rfl KJ (vl rfl)) (TO.rd 3 rfl rfl rfl AB (A9 rfl bq (vl rfl) rfl) (TO.rd 1 rfl rfl rfl AB (Di rfl Bw Bj (vl rfl) rfl rfl) (tp rfl (AX (xs:=[.tmp 59]) (rows:=[As (⟨nm,1,s2.of [3,3,4],14::MX (s2.C1.val 3),(s2.C1.C1.val 2==2-1),[IL nm 5 2048 (100+(k:Nat)) 901 1 ir],[1],[2,3],(s2.C1.C1.C1.val 3==3-1)⟩:DY)]) rfl rfl underlying28 Bj HU rfl AB ⟨⟨Ab,VL.le (vl rfl) (Pr.le_trans (Az (qs:=As (⟨nm,1,s2.of [3,3,4],14::MX (s2.C1.val 3),(s2.C1.C1.val 2==2-1),[IL nm 5 2048 (100+(k:Nat)) 901 1 ir],[1],[2,3],(s2.C1.C1.C1.val 3==3-1)⟩:DY)) ⟨Lr,Lr,Lr,Pr.le_trans (A0 _ _) (Pr.le_of_eq rfl),Lr,A_ _ _,Lr,Lr,Lr,trivial⟩) (AJ _))⟩,trivial⟩ AB) ?_)))))))));refine TO.EV 2 rfl rfl AB (FI rfl rfl rfl rfl underlying28 Bj qK HU (Kb rfl) (Kf rfl) (CA BW (Ka rfl))) (fun v3=>?_);refine tp rfl (AG rfl KJ (vl rfl)) (TO.ED 3 rfl rfl (BP rfl rfl (vl rfl) (Vo rfl) qI rfl Ag rfl) (TO.nil (Fin.block (Fin.go (Tr.drop 1 (wk7 0 2 3 4 16 17 18 rfl (Tr.Bo (WL rfl rfl rfl rfl AA (cm rfl (Ch.nil ?_))))))))));refine Fin.Hx 2 [Aj v3 (slice 9 ((es++[(⟨nm,1,s2.of [3,3,4],14::MX (s2.C1.val 3),(s2.C1.C1.val 2==2-1),[IL nm 5 2048 (100+(k:Nat)) 901 1 ir],[1],[2,3],(s2.C1.C1.C1.val 3==3-1)⟩:DY)]).map As)),is (.slice none 0 0),is (.slice none 0 0)] rfl ⟨CZ K0,Lr,Lr,trivial⟩ ?_;refine Fin.drop 0 ?_;exact Fin.FW (k+1) (es++[(⟨nm,1,s2.of [3,3,4],14::MX (s2.C1.val 3),(s2.C1.C1.val 2==2-1),[IL nm 5 2048 (100+(k:Nat)) 901 1 ir],[1],[2,3],(s2.C1.C1.C1.val 3==3-1)⟩:DY)]) (_) v3 (⟨⟨by omega,by rw[List.length_append,hk2];rfl,XY hk3 ⟨by rw[hk2];exact Ie,rfl,hof,.inr ⟨_,XX hvs,rfl⟩,⟨ir,yw,by rw[hk2]⟩,rfl,rfl⟩⟩,by omega⟩) ⟨⟨_,rfl,AK k⟩,ke rfl,ke rfl,ke rfl,ke rfl,ke rfl,ke rfl,trivial⟩ (fun _ _ h=>h);refine Tr.skip (Fin.go (Tr.seq (Tr.At (tm rfl (tp rfl (Aa rfl (vk) trivial) (tm rfl ?_))))));refine tp rfl (Hf rfl (vl rfl) (vl rfl) ?hin) ?_;case hin=>unfold Sb;omega
 refine tp rfl (Aa rfl (ZW (name:=nm) (a:=5) (b:=2048) (id:=100+(k:Nat)) (to:=901) (key:=1) (Vp Ie AA AA) (Tt AA) AA) ⟨ke rfl,ke rfl,ke rfl,ke rfl,ke rfl,trivial⟩) ?_;refine TO.ex 54 rfl (fun ir=>TO.fact 54 rfl fun yw=>?_);refine tp rfl (AX (xs:=[.tmp 54]) (rows:=[_]) rfl rfl underlying71 B8 NH rfl AB ⟨⟨Ab,(Va rfl)⟩,trivial⟩ AB) ?_;refine tp rfl (AG rfl Ge (vl rfl)) (TO.ED 0 rfl rfl (BP rfl rfl (vl rfl) (Vo rfl) Sj rfl Ag rfl) (TO.nil (Fin.go (wk8 0 2 3 4 7 16 17 18 rfl (Tr.At (tp rfl (AG rfl KJ (vl rfl)) (TO.rd 2 rfl rfl rfl AB (A9 rfl bq (vl rfl) rfl) (TO.rd 0 rfl rfl rfl AB (Di rfl Bw Bj (vl rfl) rfl rfl) (tp rfl (AX (xs:=[.tmp 59]) (rows:=[As (⟨nm,1,s2.of [3,3,4],MX (s2.C1.val 3),(s2.C1.C1.val 2==2-1),[IL nm 5 2048 (100+(k:Nat)) 901 1 ir],[1],[2,3],(s2.C1.C1.C1.val 3==3-1)⟩:DY)]) rfl rfl underlying28 Bj HU rfl AB ⟨⟨Ab,VL.le (vl rfl) (Pr.le_trans (Az (qs:=As (⟨nm,1,s2.of [3,3,4],MX (s2.C1.val 3),(s2.C1.C1.val 2==2-1),[IL nm 5 2048 (100+(k:Nat)) 901 1 ir],[1],[2,3],(s2.C1.C1.C1.val 3==3-1)⟩:DY)) ⟨Lr,Lr,Lr,Lr,Lr,A_ _ _,Lr,Lr,Lr,trivial⟩) (AJ _))⟩,trivial⟩ AB) ?_)))))))));refine TO.EV 1 rfl rfl AB (FI rfl rfl rfl rfl underlying28 Bj qK HU (Kb rfl) (Kf rfl) (CA BW (Ka rfl))) (fun v4=>?_);refine tp rfl (AG rfl KJ (vl rfl)) (TO.ED 2 rfl rfl (BP rfl rfl (vl rfl) (Vo rfl) qI rfl Ag rfl) (TO.nil (Fin.block (Fin.go (Tr.drop 0 (wk7 0 2 3 4 16 17 18 rfl (Tr.Bo (WL rfl rfl rfl rfl AA (cm rfl (Ch.nil ?_))))))))));refine Fin.Hx 1 [Aj v4 (slice 9 ((es++[(⟨nm,1,s2.of [3,3,4],MX (s2.C1.val 3),(s2.C1.C1.val 2==2-1),[IL nm 5 2048 (100+(k:Nat)) 901 1 ir],[1],[2,3],(s2.C1.C1.C1.val 3==3-1)⟩:DY)]).map As)),is (.slice none 0 0),is (.slice none 0 0)] rfl ⟨CZ K0,Lr,Lr,trivial⟩ ?_;exact Fin.FW (k+1) (es++[(⟨nm,1,s2.of [3,3,4],MX (s2.C1.val 3),(s2.C1.C1.val 2==2-1),[IL nm 5 2048 (100+(k:Nat)) 901 1 ir],[1],[2,3],(s2.C1.C1.C1.val 3==3-1)⟩:DY)]) (_) v4 (⟨⟨by omega,by rw[List.length_append,hk2];rfl,XY hk3 ⟨by rw[hk2];exact Ie,rfl,hof,.inl (XX hvs),⟨ir,yw,by rw[hk2]⟩,rfl,rfl⟩⟩,by omega⟩) ⟨⟨_,rfl,AK k⟩,ke rfl,ke rfl,ke rfl,ke rfl,ke rfl,ke rfl,trivial⟩ (fun _ _ h=>h);have ia:k=(2+s.val 2).toNat:=by have:=Fy.HC h1;rw[RT]at this;omega
 refine Tr.exit (Fin.BF (Fin.BF (Fin.B1 (Fin.go (Tr.seq (Tr.seq (Tr.Hx 1 [slice 9 (es.map As),is (.slice none 0 0),is (.slice none 0 0)] rfl ⟨A0 _ _,Lr,Lr,trivial⟩ (Tr.drop 0 (Tr.Bo (cm rfl (co rfl (BJ rfl underlying67 (vl rfl)) (cm rfl (Ch.nil (Fin.go ?_))))))))))))));refine Tr.block ?_;refine Tr.re 65 rfl (int_eq (by simp;rfl):Pr.le _ (int (((GN.take (2+s.val 2).toNat).length:Nat):Int))) ?_;refine Tr.Hx 0 [slice 9 (es.map As),Aj (.slice none 0 0) (GO []),is (.slice none 0 0)] rfl ⟨Lr,DA rfl,Lr,trivial⟩ (Tr.Dt 82 2 (Tr.Iy [(0,_),(2,_),(3,_),(4,_),(65,_)] ⟨ke rfl,ke rfl,ke rfl,ke rfl,ke rfl,trivial⟩ (fun(i:Nat) (gs:List PR) (s3:DS) w=>[(66,int ((i:Nat):Int))]) (fun(i:Nat) (gs:List PR) (s3:DS) w=>Hp M0 w0 S (Bc 82 2 w::AE true b2 32 [slice 9 (es.map As),Aj w (GO gs),is (.slice none 0 0)]::AE true b1 32 (([.slice none 0 0,.slice none 0 0,.slice none 0 0]:List Value).map is)::EP b s3::Ao M1 w1::rs)) (fun(i:Nat) (gs:List PR) (s3:DS)=>i<=(2+s.val 2).toNat/\gs.length<=3/\Zk (2+s.val 2).toNat i 0 gs) (fun(i:Nat) (gs:List PR) (s3:DS)=>(2+s.val 2).toNat-i) (0) ([]) (_) (.slice none 0 0) (⟨by omega,by simp,Zk.nil _ _ _⟩) ⟨ke rfl,trivial⟩ (fun _ _ h=>h) ?_));rintro i gs s3 w ⟨hi1,hi2,hi3⟩;refine Tr.seq (Tr.Bo (co rfl (ki rfl rfl rfl rfl) (Ch.nil (Fin.go (Tr.seq ?_)))));refine Tr.cn rfl ?_ ?_<;>intro h3 q3
 have hin:i<(2+s.val 2).toNat:=by have:=Fy.HC h3;rw[RT]at this;omega
 refine Tr.skip (Fin.go (Tr.seq (Tr.block (Tr.seq (Tr.Bo (cm rfl (cm rfl (Ch.nil (Fin.go (Tr.seq (Tr.Bo (cm rfl (co rfl (BJ rfl underlying67 (vl rfl)) ?_)))))))))))));refine cm rfl (Ch.nil (Fin.go (Tr.block ?_)));refine Tr.re 70 rfl (int_eq (by simp;rfl):Pr.le _ (int (((GN.take (2+s.val 2).toNat).length:Nat):Int))) ?_;refine Tr.Iy [(0,_),(2,_),(3,_),(4,_),(8,_),(65,_),(66,_),(70,_)] ⟨ke rfl,ke rfl,ke rfl,ke rfl,ke rfl,ke rfl,ke rfl,ke rfl,trivial⟩ (fun(j:Nat) (gW:List PR) (s4:DS) u=>[(71,int ((j:Nat):Int))]) (fun(j:Nat) (gW:List PR) (s4:DS) u=>Hp M0 w0 S (Bc 82 2 u::AE true b2 32 [slice 9 (es.map As),Aj u (GO gW),is (.slice none 0 0)]::AE true b1 32 (([.slice none 0 0,.slice none 0 0,.slice none 0 0]:List Value).map is)::EP b s4::Ao M1 w1::rs)) (fun(j:Nat) (gW:List PR) (s4:DS)=>j<=(2+s.val 2).toNat/\gW.length<=3/\Zk (2+s.val 2).toNat i j gW) (fun(j:Nat) (gW:List PR) (s4:DS)=>(2+s.val 2).toNat-j) (0) (gs) (_) w (⟨by omega,hi2,hi3⟩) ⟨ke rfl,trivial⟩ (fun _ _ h=>h) ?_;rintro j gW s4 u ⟨hj1,hj2,hj3⟩;refine Tr.seq (Tr.Bo (co rfl (ki rfl rfl rfl rfl) (Ch.nil (Fin.go (Tr.seq ?_)))));refine Tr.cn rfl ?_ ?_<;>intro h4 q4
 have hjn:j<(2+s.val 2).toNat:=by have:=Fy.HC h4;rw[RT]at this;omega
 refine Tr.skip (Fin.go (Tr.seq (Tr.block (Tr.seq (Tr.Bo (cm rfl (cm rfl (Ch.nil (Fin.go (Tr.seq (Tr.At (tm rfl (tm rfl ?_)))))))))))));refine tp rfl (ki rfl rfl rfl rfl) (tm rfl ?_);refine TO.cases 77 rfl (fun h5=>?_) (fun h5=>?_);have q5:=Fy.HC h5;refine TO.WM rfl rfl rfl h5 rfl AB (BX rfl (vl rfl)) (TO.ACE 3 rfl rfl rfl h5 rfl rfl AB (Au rfl rfl AB rfl (DB AA AA) ⟨ke rfl,ke rfl,trivial⟩) (TO.WM rfl rfl rfl h5 rfl AB (ki rfl rfl rfl rfl) (tp rfl (Uz rfl rfl h5 rfl) (tm rfl ?_))));refine TO.cases 82 rfl (fun h6=>?_) (fun h6=>?_);have q6:=Fy.HC h6;refine TO.WM rfl rfl rfl h6 rfl AB (AG rfl OL (vl rfl)) (TO.WM rfl rfl rfl h6 rfl AB (Bi 1 rfl (A9 rfl bu (vl rfl) rfl)) (TO.WM rfl rfl rfl h6 rfl AB (Gu rfl underlying29 (Kb rfl)) (TO.WM rfl rfl rfl h6 rfl AB (ki rfl rfl rfl rfl) (tp rfl (Uz rfl rfl h6 rfl) (TO.nil (Fin.go (Pb 0 2 3 4 8 9 65 66 70 71 87 rfl ?_)))))));refine Tr.cn rfl ?_ ?_<;>intro h7 q7
 refine Tr.At (tp rfl (AG rfl OL (vl rfl)) (TO.rd 1 rfl rfl rfl AB (A9 rfl bu (vl rfl) rfl) (tm rfl (tm rfl (tp rfl (Al (rows:=[(0,[_]),(1,[_])]) rfl ABO fC ⟨⟨rfl,(Vo rfl)⟩,⟨⟨rfl,(Vo rfl)⟩,trivial⟩⟩ rfl) (tp rfl (AX (xs:=[.tmp 92]) (rows:=[_]) rfl rfl underlying29 I0 z82 rfl AB ⟨⟨Ab,(Va rfl)⟩,trivial⟩ AB) ?_))))));refine TO.EV 0 rfl rfl AB (FI rfl rfl rfl rfl underlying29 I0 wg z82 (Kb rfl) (Kf rfl) (CA BW (Ka rfl))) (fun v5=>?_);refine tp rfl (AG rfl OL (vl rfl)) (TO.ED 1 rfl rfl (BP rfl rfl (vl rfl) (Vo rfl) ABD rfl Ag rfl) (TO.nil (Fin.block (Fin.go (wk9 0 2 3 4 8 65 66 70 71 rfl (Tr.Bo (WL rfl rfl rfl rfl AA (cm rfl (Ch.nil ?_)))))))));refine Fin.Hx 1 [slice 9 (es.map As),Aj v5 (GO (gW++[(⟨((i:Nat):Int),((j:Nat):Int)⟩:PR)])),is (.slice none 0 0)] rfl ⟨Lr,CZ K0,Lr,trivial⟩ ?_;exact Fin.FW (j+1) (gW++[(⟨((i:Nat):Int),((j:Nat):Int)⟩:PR)]) (_) v5 (⟨⟨by omega,by simp;omega,hj3.snoc ⟨by omega,by omega⟩ ⟨by omega,by omega⟩ AA⟩,by omega⟩) ⟨⟨_,rfl,AK j⟩,ke rfl,ke rfl,ke rfl,ke rfl,ke rfl,ke rfl,ke rfl,ke rfl,trivial⟩ (fun _ _ h=>h);refine Tr.skip (Fin.block (Fin.go (Tr.Bo (WL rfl rfl rfl rfl AA (cm rfl (Ch.nil (Fin.FW (j+1) (gW) (_) u (⟨⟨by omega,hj2,hj3.step⟩,by omega⟩) ⟨⟨_,rfl,AK j⟩,ke rfl,ke rfl,ke rfl,ke rfl,ke rfl,ke rfl,ke rfl,ke rfl,trivial⟩ (fun _ _ h=>h))))))));have q6:=Fy.HC h6
 iterate 4 refine TO.Y4 rfl rfl rfl (EH h6) rfl AB ?_
 refine tp rfl (SZ rfl rfl h6 rfl) (TO.nil (Fin.go (Pb 0 2 3 4 8 9 65 66 70 71 87 rfl (Tr.cond rfl (fun h=>nomatch h) (fun _=>?_)))));refine Tr.skip (Fin.block (Fin.go (Tr.Bo (WL rfl rfl rfl rfl AA (cm rfl (Ch.nil (Fin.FW (j+1) (gW) (_) u (⟨⟨by omega,hj2,hj3.step⟩,by omega⟩) ⟨⟨_,rfl,AK j⟩,ke rfl,ke rfl,ke rfl,ke rfl,ke rfl,ke rfl,ke rfl,ke rfl,trivial⟩ (fun _ _ h=>h))))))));have q5:=Fy.HC h5;refine TO.Y4 rfl rfl rfl (EH h5) rfl AB (TO.Y4 rfl rfl rfl (EH h5) rfl AB (TO.Y4 rfl rfl rfl (EH h5) rfl AB (tp rfl (SZ rfl rfl h5 rfl) (tm rfl ?_))))
 iterate 4 refine TO.Y4 rfl rfl rfl (EH rfl) rfl AB ?_
 refine tp rfl (SZ rfl rfl rfl rfl) (TO.nil (Fin.go (Pb 0 2 3 4 8 9 65 66 70 71 87 rfl (Tr.cond rfl (fun h=>nomatch h) (fun _=>?_)))));refine Tr.skip (Fin.block (Fin.go (Tr.Bo (WL rfl rfl rfl rfl AA (cm rfl (Ch.nil (Fin.FW (j+1) (gW) (_) u (⟨⟨by omega,hj2,hj3.step⟩,by omega⟩) ⟨⟨_,rfl,AK j⟩,ke rfl,ke rfl,ke rfl,ke rfl,ke rfl,ke rfl,ke rfl,ke rfl,trivial⟩ (fun _ _ h=>h))))))));have hje:j=(2+s.val 2).toNat:=by have:=Fy.HC h4;rw[RT]at this;omega
 refine Tr.exit (Fin.BF (Fin.BF (Fin.B1 (Fin.block (Fin.go (Tr.Bo (WL rfl rfl rfl rfl AA (cm rfl (Ch.nil (Fin.FW (i+1) (gW) (_) u (⟨⟨by omega,hj2,hj3.row⟩,by omega⟩) ⟨⟨_,rfl,AK i⟩,ke rfl,ke rfl,ke rfl,ke rfl,ke rfl,trivial⟩ (fun _ _ h=>h)))))))))));have hie:i=(2+s.val 2).toNat:=by have:=Fy.HC h3;rw[RT]at this;omega
 refine Tr.exit (Fin.BF (Fin.BF (Fin.B1 (Fin.go (Tr.seq (Tr.seq (Tr.Bo (co rfl (AG rfl OL (vl rfl)) (co rfl (Bi 1 rfl (A9 rfl bu (vl rfl) rfl)) (co rfl (Gu rfl underlying29 (Kb rfl)) (co rfl (ki rfl rfl rfl rfl) (Ch.nil (Fin.go ?_)))))))))))));refine Tr.cn rfl ?_ ?_<;>intro h8 q8
 refine Tr.At (tp rfl (Al (rows:=[(0,[_]),(1,[_])]) rfl ABO fC ⟨⟨rfl,(Vo rfl)⟩,⟨⟨rfl,(Vo rfl)⟩,trivial⟩⟩ rfl) (tp rfl (AX (xs:=[.tmp 102]) (rows:=[_]) rfl rfl underlying29 I0 z82 rfl AB ⟨⟨Ab,(Va rfl)⟩,trivial⟩ AB) ?_));refine tp rfl (AG rfl OL (vl rfl)) (TO.ED 1 rfl rfl (BP rfl rfl (vl rfl) (Vo rfl) ABD rfl Ag rfl) (TO.nil (Fin.go (wk3 0 2 3 rfl (Tr.seq (Tr.seq ?_))))));have hv9:=s3.D_ (n:=3) AA;obtain⟨iZ,hge,AAy,AAz,AA0⟩:∃l:List PR,l=[⟨0,1⟩]/\(∀k,k<l.length->DO (2+s.val 2).toNat l k=true)/\1<=l.length/\l.length<=3:=⟨_,rfl,((Zk.nil (2+s.val 2).toNat 0 1).snoc ⟨by omega,by omega⟩ ⟨by omega,by omega⟩ AA).at_,by simp,by simp⟩;refine Tr.Hx 1 [slice 9 (es.map As),GO iZ,is (.slice none 0 0)] rfl ⟨Lr,Pr.le_trans (A_ _ _) (Pr.le_of_eq (by rw[hge];rfl)),Lr,trivial⟩ ?_;refine Tr.drop 0 (Tr.At (tm rfl (TO.LC 2 rfl rfl AB (Au rfl rfl AB rfl (DB AA AA) ⟨ke rfl,ke rfl,trivial⟩) (tm rfl (TO.nil (Fin.go (Tr.block (Tr.Hx 0 [slice 9 (es.map As),GO iZ,Aj (.slice none 0 0) (LZ [])] rfl ⟨Lr,Lr,DA rfl,trivial⟩ (Tr.Dt 85 5 ?_)))))))));refine Tr.Iy [(0,_),(2,_),(3,_)] ⟨ke rfl,ke rfl,ke rfl,trivial⟩ (fun(q:Int) (its:List Od) (s5:DS) x=>[(10,int q)]) (fun(q:Int) (its:List Od) (s5:DS) x=>Hp M0 w0 S (Bc 85 5 x::AE true b2 32 [slice 9 (es.map As),GO iZ,Aj x (LZ its)]::AE true b1 32 (([.slice none 0 0,.slice none 0 0,.slice none 0 0]:List Value).map is)::EP b s5::Ao M1 w1::rs)) (fun(q:Int) (its:List Od) (s5:DS)=>0<=q/\q+its.length<=2/\∀x∈its,Zj x) (fun(q:Int) (its:List Od) (s5:DS)=>q.toNat) (_) ([]) (_) (.slice none 0 0) (⟨by omega,by simp;omega,fun x h=>by simp at h⟩) ⟨ke rfl,trivial⟩ (fun _ _ h=>h) ?_;rintro q its s5 x ⟨hq1,WW,hqi⟩;refine Tr.seq (Tr.seq (Tr.Bo (cm rfl (co rfl (ki rfl rfl rfl rfl) (Ch.nil (Fin.go ?_))))));refine Tr.cn rfl ?_ ?_<;>intro h9 q9
 have hq3:0<q:=of_decide_eq_true h9;refine Tr.skip (Fin.go (Tr.seq (Tr.block (Tr.pad (Tr.Yl mixed [none,some (0,2,false,0),none,none,none,some (0,4,true,0),some (0,4,true,0),none,some (0,1,true,119),none,some (0,2,true,119)] BQ (xo rfl (fun _=>AG rfl MA (vl rfl)) (Jv 2 rfl rfl (A9 rfl j4 (vl rfl) rfl) (xm rfl (xm rfl (xo rfl (fun _=>AX (xs:=[.const (.string ⟨[98,97,99,107,117,112].toArray⟩),.const (.string ⟨[100,101,101,100].toArray⟩)]) (rows:=[[_],[_]]) rfl rfl underlying67 Lj z9 rfl AB ⟨⟨Ab,(Vo rfl)⟩,⟨⟨Ab,(Vo rfl)⟩,trivial⟩⟩ AB) ?_))))))))));refine Cx.ef 4 rfl rfl AB (Au rfl rfl AB rfl (XW (l:=[[98,97,99,107,117,112],[100,101,101,100]]) Ai Ai) ⟨ke rfl,(Kf rfl),trivial⟩) ?_;refine Cx.ef 4 rfl rfl AB (Au rfl rfl AB rfl (dY) ⟨ke rfl,ke rfl,trivial⟩) (xo rfl (fun _=>AX (xs:=[.tmp 117]) (rows:=[_]) rfl rfl underlying30 I2 z85 rfl AB ⟨⟨Ab,(Va rfl)⟩,trivial⟩ AB) ?_);refine Cx.ef 1 rfl rfl AB (FI rfl rfl rfl rfl underlying30 I2 qL z85 (Kb rfl) (Kf rfl) (CA BW (Ka rfl))) ?_;refine xo rfl (fun _=>AG rfl MA (vl rfl)) (Cx.ED 2 rfl rfl (EL rfl rfl rfl (vl rfl) rfl qJ Ag) ?_);refine Cx.nil ⟨rfl,?_⟩;refine BG.RN 1 2 119 rfl rfl AB rfl (fun v6=>?_);refine BG.done (Cu.cons (Cu.cons (Cu.cons (Cu.cons (Cu.cons (Cu.cons (Cu.map _))))))) (Fin.block (Fin.go (Tr.drop 0 (wk4 0 2 3 10 rfl (Tr.Bo (cm rfl (csu rfl rfl rfl rfl AA (cm rfl (Ch.nil ?_)))))))));refine Fin.Hx 1 [slice 9 (es.map As),GO iZ,Aj v6 (LZ (its++[(T2 s5.C1 (Kg s5 [Mj,Zl]))]))] rfl ⟨Lr,Lr,CZ K0,trivial⟩ ?_;exact Fin.FW (q-1) (its++[(T2 s5.C1 (Kg s5 [Mj,Zl]))]) (_) v6 (⟨⟨by omega,by simp;omega,Xg hqi (dX (dZ s5))⟩,by omega⟩) ⟨⟨_,rfl,int_eq AA⟩,ke rfl,ke rfl,ke rfl,trivial⟩ (fun _ _ h=>h);have hq3:¬0<q:=of_decide_eq_false h9;refine Tr.exit (Fin.BF (Fin.BF (Fin.B1 (Fin.go (Tr.seq (Tr.At (TO.rd 1 rfl rfl rfl AB (Di rfl E0 Et (vl rfl) rfl rfl) (TO.Ac 2 rfl rfl rfl (vl rfl) (Va rfl) rfl Et rfl rfl (TO.nil (Fin.go (Tr.ret (Fin.L_ 3 _ rfl rfl (Fin.HD [_,_,_] rfl (AL.cell 2 rfl rfl E0 Et rfl (Lr)) ?_ (fun _ _ _ _=>rfl))))))))))))))
 .exact jL
 refine Tr.skip (Fin.go (Tr.seq (Tr.seq ?_)));have hv9:=s3.D_ (n:=3) AA;obtain⟨iZ,hge,AAy,AAz,AA0⟩:∃l:List PR,l=gs/\(∀k,k<l.length->DO (2+s.val 2).toNat l k=true)/\1<=l.length/\l.length<=3:=⟨_,rfl,hi3.at_,by have h_:=h8;simp at h_;exact List.length_pos_iff.2 h_,hi2⟩;refine Tr.Hx 1 [slice 9 (es.map As),GO iZ,is (.slice none 0 0)] rfl ⟨Lr,Pr.le_trans (A0 _ _) (Pr.le_of_eq (by rw[hge])),Lr,trivial⟩ (Tr.drop 0 (Tr.At (tm rfl (TO.LC 2 rfl rfl AB (Au rfl rfl AB rfl (DB AA AA) ⟨ke rfl,ke rfl,trivial⟩) (tm rfl (TO.nil (Fin.go (wk4 0 2 3 10 rfl (Tr.block (Tr.Hx 0 [slice 9 (es.map As),GO iZ,Aj (.slice none 0 0) (LZ [])] rfl ⟨Lr,Lr,DA rfl,trivial⟩ (Tr.Dt 85 5 ?_)))))))))));refine Tr.Iy [(0,_),(2,_),(3,_)] ⟨ke rfl,ke rfl,ke rfl,trivial⟩ (fun(q:Int) (its:List Od) (s5:DS) x=>[(10,int q)]) (fun(q:Int) (its:List Od) (s5:DS) x=>Hp M0 w0 S (Bc 85 5 x::AE true b2 32 [slice 9 (es.map As),GO iZ,Aj x (LZ its)]::AE true b1 32 (([.slice none 0 0,.slice none 0 0,.slice none 0 0]:List Value).map is)::EP b s5::Ao M1 w1::rs)) (fun(q:Int) (its:List Od) (s5:DS)=>0<=q/\q+its.length<=2/\∀x∈its,Zj x) (fun(q:Int) (its:List Od) (s5:DS)=>q.toNat) (_) ([]) (_) (.slice none 0 0) (⟨by omega,by simp;omega,fun x h=>by simp at h⟩) ⟨ke rfl,trivial⟩ (fun _ _ h=>h) ?_;rintro q its s5 x ⟨hq1,WW,hqi⟩;refine Tr.seq (Tr.seq (Tr.Bo (cm rfl (co rfl (ki rfl rfl rfl rfl) (Ch.nil (Fin.go ?_))))));refine Tr.cn rfl ?_ ?_<;>intro h10 NT
 have hq3:0<q:=of_decide_eq_true h10;refine Tr.skip (Fin.go (Tr.seq (Tr.block (Tr.pad (Tr.Yl mixed [none,some (0,2,false,0),none,none,none,some (0,4,true,0),some (0,4,true,0),none,some (0,1,true,119),none,some (0,2,true,119)] BQ (xo rfl (fun _=>AG rfl MA (vl rfl)) (Jv 2 rfl rfl (A9 rfl j4 (vl rfl) rfl) (xm rfl (xm rfl (xo rfl (fun _=>AX (xs:=[.const (.string ⟨[98,97,99,107,117,112].toArray⟩),.const (.string ⟨[100,101,101,100].toArray⟩)]) (rows:=[[_],[_]]) rfl rfl underlying67 Lj z9 rfl AB ⟨⟨Ab,(Vo rfl)⟩,⟨⟨Ab,(Vo rfl)⟩,trivial⟩⟩ AB) ?_))))))))));refine Cx.ef 4 rfl rfl AB (Au rfl rfl AB rfl (XW (l:=[[98,97,99,107,117,112],[100,101,101,100]]) Ai Ai) ⟨ke rfl,(Kf rfl),trivial⟩) ?_;refine Cx.ef 4 rfl rfl AB (Au rfl rfl AB rfl (dY) ⟨ke rfl,ke rfl,trivial⟩) (xo rfl (fun _=>AX (xs:=[.tmp 117]) (rows:=[_]) rfl rfl underlying30 I2 z85 rfl AB ⟨⟨Ab,(Va rfl)⟩,trivial⟩ AB) ?_);refine Cx.ef 1 rfl rfl AB (FI rfl rfl rfl rfl underlying30 I2 qL z85 (Kb rfl) (Kf rfl) (CA BW (Ka rfl))) ?_;refine xo rfl (fun _=>AG rfl MA (vl rfl)) (Cx.ED 2 rfl rfl (EL rfl rfl rfl (vl rfl) rfl qJ Ag) ?_);refine Cx.nil ⟨rfl,?_⟩;refine BG.RN 1 2 119 rfl rfl AB rfl (fun v7=>?_);refine BG.done (Cu.cons (Cu.cons (Cu.cons (Cu.cons (Cu.cons (Cu.cons (Cu.map _))))))) (Fin.block (Fin.go (Tr.drop 0 (wk4 0 2 3 10 rfl (Tr.Bo (cm rfl (csu rfl rfl rfl rfl AA (cm rfl (Ch.nil ?_)))))))));refine Fin.Hx 1 [slice 9 (es.map As),GO iZ,Aj v7 (LZ (its++[(T2 s5.C1 (Kg s5 [Mj,Zl]))]))] rfl ⟨Lr,Lr,CZ K0,trivial⟩ ?_;exact Fin.FW (q-1) (its++[(T2 s5.C1 (Kg s5 [Mj,Zl]))]) (_) v7 (⟨⟨by omega,by simp;omega,Xg hqi (dX (dZ s5))⟩,by omega⟩) ⟨⟨_,rfl,int_eq AA⟩,ke rfl,ke rfl,ke rfl,trivial⟩ (fun _ _ h=>h);have hq3:¬0<q:=of_decide_eq_false h10;refine Tr.exit (Fin.BF (Fin.BF (Fin.B1 (Fin.go (Tr.seq (Tr.At (TO.rd 1 rfl rfl rfl AB (Di rfl E0 Et (vl rfl) rfl rfl) (TO.Ac 2 rfl rfl rfl (vl rfl) (Va rfl) rfl Et rfl rfl (TO.nil (Fin.go (Tr.ret (Fin.L_ 3 _ rfl rfl (Fin.HD [_,_,_] rfl (AL.cell 2 rfl rfl E0 Et rfl (Lr)) ?_ (fun _ _ _ _=>rfl))))))))))))))
 .exact jL
theorem nO{l:List Bl}{n:Nat}(hc:∀c∈l,c.CO.fits/\c.CO.small):∀(s:List Int) (Bu:List DY),(∀x∈Bu,x.sz n)->(∀x∈(Mg l s Bu).1,x.sz (n+s.length))/\(Mg l s Bu).1.length=Bu.length
 |[],Bu,h=>⟨h,rfl⟩
 |i::s,Bu,h=>by
  rw[Mg]
  split
  .exact⟨fun x hx=>(h x hx).le AA,rfl⟩
  next c pT=>
  by_cases ha:(J4 Bu c).2=0
  .
   rw[if_pos ha];have:=nO (n:=n+1) hc s (J4 Bu c).1 (Zf h (hc c (List.mem_of_getElem? pT)));rw[Vx]at this;exact⟨fun x hx=>by rw[List.length_cons,show n+(s.length+1)=n+1+s.length by omega];exact this.1 x hx,this.2⟩
  .rw[if_neg ha];exact⟨fun x hx=>(h x hx).le AA,rfl⟩
theorem vo{e:Es}{l:List Bl}{s:List Int}{n:Nat}(hz:e.sz n)(hc:∀c∈l,c.CO.fits/\c.CO.small):(HY e l s).1.sz (n+s.length):=by
 have h0:CN.sz (n+s.length):=⟨(fun x hx=>by cases hx),(fun x hx=>by cases hx),Nat.zero_le _,Nat.zero_le _,Nat.zero_le _⟩;obtain⟨h1,h2⟩:=nO hc s e.Bu hz.Bu;unfold HY
 repeat' split
 .exact h0
 .exact h0
 .exact h0
 .exact⟨h1,hz.items,by show(Mg l s e.Bu).1.length<=_;rw[h2];exact hz.le,hz.lg,hz.li⟩
 .exact h0
theorem R9.sz{e:Es}(h:R9 e):e.sz 5:=by
 have h3:=h.n3;have g3:=h.g3;have i2:=h.i2;refine⟨fun x hx=>?_,fun x hx=>⟨by have:=(h.it x hx).name;unfold maxLen;omega,by have:=(h.it x hx).links;omega⟩,by omega,by omega,by omega⟩;obtain⟨i,hi⟩:=List.getElem?_of_mem hx;exact tC (h.snd i x hi)
abbrev Fl(n:Nat):List Int:=(List.range n).map fun i:Nat=>(i:Int)
theorem dc{n k:Nat}(h:k<n):(Fl n)[k]? =some (k:Int):=by
 rw[List.getElem?_map,List.getElem?_range h];rfl
end Go.Proofs.YthommhphcagokaaGreatDoor
namespace Cp
open Go Go.RowKit Go.Great
variable{new:Bool}{f:FuncId}{rows:List (List Pr)}{args:List Pr}{T:TypeId}{v:Value}
section
variable{P:Program}{L:Lg P}{n:Fm}{fz:Nat}{E:Env}{I:Cj}{M0:Av}{w0:World}{S:Nat->Prop}{rs:List Ay}{Q:Exit->Act->World->Prop}{c:Code}
theorem Tr.yx{α β:Type}{p gf:Nat}{g:Operand}{lb:Array Value}{enc:α->Value}{xs:List α}{own:List α->List Ay}{assign body:Code}(q:Nat)(K:Env)(hK:C6 E K)(R RX:List α->β->List Ay)(d0:β)
  (hIt:KV P gf lb enc xs own) (eg:Entry P gf) (hg:VL E g (is (.func (.func gf) #[] lb))) (hrs:rs.Perm (own []++R [] d0)) (hp:K.lookup p=none) (hpn:p<n.sz)
  (hassign:∀l D rec M1 w1 pre x d,(pre++[x])<+:xs->Tr (jB P (some l)) ⟨n.sz,[]⟩ ((p,is (enc x))::K) (Hp M0 w0 S (own (pre++[x])++I7 l D rec M1 w1 (R pre d))) assign (Exit.then (St ⟨n.sz,[]⟩ ((q,is (enc x))::K) (Hp M0 w0 S (own (pre++[x])++I7 l D rec M1 w1 (R pre d)))) (fun _ _ _=>False)))
  (hbody : ∀ l D rec M1 w1 pre x d, (pre ++ [x]) <+: xs -> Tr (jB P (some l)) ⟨n.sz, []⟩ ((q, is (enc x)) :: K) (Hp M0 w0 S (own (pre ++ [x]) ++ I7 l D rec M1 w1 (R pre d))) body
   (LI M0 w0 S (fun d:β=>own (pre++[x])++I7 l D rec M1 w1 (R (pre++[x]) d)) (fun c d=>own (pre++[x])++I7 l D rec M1 w1 (Cm (c= .ret)::RX (pre++[x]) d))))
  (hdone:∀l D rec M1 w1 d,Fin ⟨n.sz,mark D::n.df⟩ E (Hp M0 w0 S (own xs++I7 l D rec M1 w1 (R xs d))) Q .normal)
  (hstop:∀l D rec M1 w1 pre d,pre<+:xs->Fin ⟨n.sz,mark D::n.df⟩ E (Hp M0 w0 S (own pre++I7 l D rec M1 w1 (RX pre d))) Q .ret):
  Tr (YJ P) n E (Hp M0 w0 S rs) (.rangeFunc g #[p] assign body) Q:=by
 refine Tr.lR (fun x=>(q,is (enc x))::K) R (fun c pre d=>Cm (c= .ret)::RX pre d) d0 hIt (fun args w=>Cz eg args w) hg hrs ?_ ?_ hdone ?_
 .
  intro l D rec M1 w1 pre x d hpre a hsz hE M w hI;have hx:Ext M1 w1 M w:=(hI.hold (Ao M1 w1) Ai).1;refine hassign l D rec M1 w1 pre x d hpre _ w ⟨M,by simpa using hsz,rfl,fun s z hq=>?_,hI⟩;simp only[List.lookup]at hq
  by_cases hs:s=p
  .
   subst hs;simp only[beq_self_eq_true,Option.some.injEq]at hq;subst hq;show(a.tmps.setIfInBounds s (enc x)).getD s undef=enc x;simp[Array.getD_eq_getD_getElem?,hsz,hpn]
  .
   rw[show(s==p)=false by simpa using hs]at hq;obtain⟨z',JG,Wd⟩:=hK.spec s z hq;have h2:=z.st _ _ _ _ _ hx (Wd _ _ _ (hE s z' JG));show z.h M w ((a.tmps.setIfInBounds p (enc x)).getD s undef)
   have e1:(a.tmps.setIfInBounds p (enc x)).getD s undef=a.tmps.getD s undef:=by
    simp only[Array.getD_eq_getD_getElem?];rw[Array.getElem?_setIfInBounds_ne (fun e=>hs e.symm)]
   rw[e1];exact h2
 .
  intro l D rec M1 w1 pre x d hpre;exact hbody l D rec M1 w1 pre x d hpre
 .
  intro l D rec M1 w1 c pre d hpre a w ⟨M,h1,h2,h3,h⟩;have h:BD M0 w0 S (own pre++I7 l D rec M1 w1 (Cm (c= .ret)::RX pre d)) M w:=h;have hc:c= .ret:=(h.hold (Cm (c= .ret)) Ai).1;subst hc
  have h5:BD M0 w0 S (Cm (Code.ret= .ret)::(own pre++I7 l D rec M1 w1 (RX pre d))) M w:=by
   refine BD.perm ?_ h;have:=List.perm_middle (a:=Cm (Code.ret= .ret)) (l₁:=own pre++[BK l rec,BK D (.deferred (some [])),Ao M1 w1]) (l₂:=RX pre d)
   simpa[I7]using this
  exact Tr.ret (hstop l D rec M1 w1 pre d hpre) a w ⟨M,h1,h2,h3,BD.Hg h5⟩
theorem Fin.yy{β:Type}{rr:β->List Ay}{os:List Ay}{tl:β->List Ay}{l D:Nat}{rec:Obj}{M1:Av}{w1:World}(d:β)(hp:rs.Perm (os++I7 l D rec M1 w1 (tl d))):Fin n E (Hp M0 w0 S rs) (LI M0 w0 S rr (fun c d=>os++I7 l D rec M1 w1 (Cm (c= .ret)::tl d))) .ret:=by
 rintro a w ⟨M,_,_,_,h⟩;have h:BD M0 w0 S rs M w:=h;refine⟨d,M,BD.perm ?_ (BD.JI (BD.perm hp h) (r:=Cm (Code.ret= .ret)) rfl rfl)⟩;have:=(List.perm_middle (a:=Cm (Code.ret= .ret)) (l₁:=os++[BK l rec,BK D (.deferred (some [])),Ao M1 w1]) (l₂:=tl d)).symm
 simpa[I7]using this
theorem Fin.prop{e:Exit}{p:Prop}(j:Nat)(hj:rs[j]? =some (Cm p))(k:p->Fin n E (Hp M0 w0 S rs) Q e):Fin n E (Hp M0 w0 S rs) Q e:=fun a w hs=>by
 obtain⟨M,h1,h2,h3,h4⟩:=hs;have h4:BD M0 w0 S rs M w:=h4;exact k (h4.hold _ (List.mem_of_getElem? hj)).1 a w ⟨M,h1,h2,h3,h4⟩
theorem Fin.nP{e:Exit}{p q:Prop}(j:Nat)(hj:rs[j]? =some (Cm p))(h:p->q)(k:Fin n E (Hp M0 w0 S (rs.set j (Cm q))) Q e):Fin n E (Hp M0 w0 S rs) Q e:=fun a w hs=>by
 obtain⟨M,h1,h2,h3,h4⟩:=hs;have h4:BD M0 w0 S rs M w:=h4;exact k a w ⟨M,h1,h2,h3,h4.DF hj rfl rfl (h (h4.hold _ (List.mem_of_getElem? hj)).1)⟩
theorem AL.dh(i:Nat){c:Tmp}{t:TypeId}{b:Nat}{q p:Pr}(h:E.lookup c=some (ptr b 0))(hi:rs[i]? =some (AE new b T [q]))(ht:EC P t=true)(hl:Pr.le q p):AL P E rs (.cell c t) p:=by
 intro M w a he hr;obtain⟨_,cs,h4,h5,_⟩:=hr _ (List.mem_of_getElem? hi);obtain⟨v,hv,hh⟩:=h5.at_ 0 q rfl;have hc:w.cell? ⟨b,0,none⟩=some v:=by simp[World.cell?,h4,hv]
 have h1:(loadVar t ⟨b,0,none⟩).run P w= .ok v w:=by simp[loadVar,EZ ht,hc]
 refine⟨v,?_,hl _ _ _ hh⟩;have hc2:a.tmps.getD c undef= .pointer (some ⟨b,0,none⟩):=he _ _ h;unfold KI;simp only[hc2,asAddr]
 simpa[Sem.run_bind]using h1
theorem Tr.nQ{sz:Nat}(j:Nat)(hj:rs[j]? =some (Ax T sz rows v))(k0:rows=[]->v= .slice none 0 0->Tr L n E (Hp M0 w0 S (rs.set j Bb)) c Q)(k1:Tr L n E (Hp M0 w0 S (rs.set j (DQ T sz rows v))) c Q):Tr L n E (Hp M0 w0 S rs) c Q:=fun a w hs=>by
 obtain⟨M,h1,h2,h3,h4⟩:=hs;have h4:BD M0 w0 S rs M w:=h4;rcases(h4.hold _ (List.mem_of_getElem? hj)).1 with⟨e1,e2⟩|hm
 .exact k0 e1 e2 a w ⟨M,h1,h2,h3,h4.DF (r':=Bb) hj (by rw[e2];rfl) rfl trivial⟩
 .exact k1 a w ⟨M,h1,h2,h3,h4.DF (r':=DQ T sz rows v) hj rfl rfl hm⟩
theorem Fin.MJ{e:Exit}(T:TypeId)(sz:Nat)(k:Fin n E (Hp M0 w0 S (Ax T sz [] (.slice none 0 0)::rs)) Q e):Fin n E (Hp M0 w0 S rs) Q e:=fun a w hs=>by
 obtain⟨M,h1,h2,h3,h4⟩:=hs;have h4:BD M0 w0 S rs M w:=h4;exact k a w ⟨M,h1,h2,h3,BD.JI h4 (r:=Ax T sz [] (.slice none 0 0)) rfl (.inl ⟨rfl,rfl⟩)⟩
end
section
variable{P:Program}
theorem KR.kN{p0 p1:Pr}{e:TypeId}{sz:Nat}(hl:∀r∈rows,r.length=sz)(h:KR P f args (fun x=>agg [p0,p1,is x]) (fun x=>[An e sz rows x])):Aq P f args (agg [p0,p1,slice sz rows]):=by
 refine⟨h.1,fun M w vs hb hv=>?_⟩;refine(h.2 M w Ju [] M w vs (BD.begin hb) hv).mono ?_;rintro e' w' ⟨v,M',x,rfl,_,h1,h2,h3⟩;obtain⟨M2,j1,j2,j3⟩:=BD.kX (j:=0) h3 rfl hl;obtain⟨cs,hc,g1,g2⟩:=(agg [p0,p1,is x]).st _ _ _ _ _ j1 h1;refine⟨v,rfl,?_,j2.below⟩;exact(agg [p0,p1,slice sz rows]).st _ _ _ _ _ (Ext.less j2.m) ⟨cs,hc,g1,HL.set (k:=2) g2 rfl fun u hu=>by rw[show u=x from hu];exact j3⟩
theorem Hy.rH{k:Pr}{e:TypeId}{sz m:Nat}{R:Ay}(hl:∀r∈rows,r.length=sz)(h:Hy (α:=Value) P f args [R] (fun _=>True) (fun v=>EB [Aj v (lens m),k]) (fun v=>[R,Ax e sz rows v])):BM P f args (EB [slice sz rows,k]) R (fun _=>R):=by
 refine⟨h.1,fun M0 w0 S rs M w vs hI hv=>(h.2 M0 w0 S rs M w vs hI hv).mono ?_⟩;rintro e' w' ⟨v,M',x,rfl,_,h1,h2,h3⟩;have h3:BD M0 w0 S (R::Ax e sz rows x::rs) M' w':=h3;obtain⟨M2,j1,j2,j3⟩:=BD.rH (j:=1) h3 rfl hl;obtain⟨cs,hc,g2⟩:=(EB [Aj x (lens m),k]).st _ _ _ _ _ j1 h1;exact⟨v,M2,rfl,⟨cs,hc,HL.set (k:=0) g2 rfl fun u hu=>by rw[show u=x from hu.1];exact j3⟩,h2.trans j1,(BD.perm (List.Perm.swap _ _ _) j2).Hg⟩
variable{n:Fm}{E:Env}{M0:Av}{w0:World}{S:Nat->Prop}{o:Oper}
end
end Cp
namespace Cp
open Go Go.RowKit
def V1(ps:List Pr)(vs:List Value):Ay:=⟨none,true,fun M w=>HL M w ps vs,fun _ _ _ _ he _ h=>h.st he⟩
section
variable{P:Program}{n:Fm}{M0:Av}{w0:World}{S:Nat->Prop}{rs:List Ay}{Q:Exit->Act->World->Prop}
theorem KV.nil{gf:Nat}{ps:List Pr}{vs:List Value}(h:Aq P gf (any::ps) NO):KV P gf vs.toArray (fun _:Unit=>Value.bool true) [] (fun _=>[V1 ps vs]):=by
 intro M0 w0 S l β R Rx _ d M w hI;have hp:HL M w ps vs:=(hI.hold (V1 ps vs) Ai).1;have h1:=h.2 M w (.func (.yield l) #[] #[]::vs) hI.bd ⟨trivial,hp⟩;have e1:(Value.func (.yield l) #[] #[]::vs).toArray= #[Value.func (.yield l) #[] #[]]++vs.toArray:=by apply Array.ext';simp
 rw[e1]at h1;refine callsIn_wide.2 (h1.mono ?_);rintro e w' ⟨v,rfl,_,hb⟩;exact⟨⟨v,rfl⟩,M,d,Ext.below hb,.inl ((Hp M0 w0 S _).st M w w' hb hI)⟩
theorem Tr.Xh{s p gf:Nat}{ps:List Pr}{assign body:Code}{E:Env}(hE:E.lookup s=none)(hpn:p<n.sz)(eg:Entry P gf)(h:Aq P gf (any::ps) NO)
  (k:∀D,Fin ⟨n.sz,mark D::n.df⟩ E (Hp M0 w0 S (Rm D::rs)) Q .normal):Tr (YJ P) n ((s,fn (.func gf) ps)::E) (Hp M0 w0 S rs) (.rangeFunc (.tmp s) #[p] assign body) Q:=by
 intro a w ⟨M,h1,h2,h3,h4⟩;have h4:BD M0 w0 S rs M w:=h4;obtain⟨cs,hv,hl⟩:=h3 s (fn (.func gf) ps) (by simp[List.lookup]);have no:∀(pre:List Unit) (x:Unit),¬(pre++[x])<+:([]:List Unit):=fun pre x hx=>by simpa using List.prefix_nil.1 hx
 refine Tr.l5 (E:=(s,is (.func (.func gf) #[] cs.toArray))::E) p [] trivial (fun _=>rs) (KV.nil (vs:=cs) h) eg ⟨_,by simp[DT,List.lookup],Pr.le_refl _⟩ (List.Perm.refl _) rfl hpn (fun l D rec M1 w1 pre x hx=>absurd hx (no pre x)) (fun l D rec M1 w1 pre x hx=>absurd hx (no pre x)) ?_ a w ⟨M,h1,h2,?_,BD.JI h4 (r:=V1 ps cs) rfl hl⟩
 .
  intro l D rec M1 w1 a' w' ⟨M',g1,g2,g3,g4⟩;refine k D a' w' ⟨M',g1,g2,fun t q ht=>?_,?_⟩
  .
   have hne:t≠s:=fun e=>by rw[e,hE]at ht;cases ht
   exact g3 t q (by rw[List.lookup_cons,show(t==s)=false by simpa using hne];exact ht)
  .
   have g4:BD M0 w0 S (V1 ps cs::BK l rec::Rm D::Ao M1 w1::rs) M' w':=g4;exact(BD.perm (List.Perm.swap _ _ _) (BD.Hg (BD.Hg g4))).Hg
 .
  intro t q ht;rw[List.lookup_cons]at ht
  by_cases e:t=s
  .subst e;simp at ht;subst ht;exact hv
  .
   rw[show(t==s)=false by simpa using e]at ht;exact h3 t q (by rw[List.lookup_cons,show(t==s)=false by simpa using e];exact ht)
theorem Tr.D4{L:Lg P}{n:Fm}{E:Env}{I:Cj}{c:Code}(h:Tr L n E I c (Exit.then (fun _ _=>False) Q)):Tr L n E I (.loop c) Q:=fun a w hst=>
 L.loop (fun _:Unit=>0) (fun _ a w=>St n E I a w) (fun _ a w hx=>L.mono (fun e a w h=>by cases e with|normal=>exact h.elim|_=>exact h) (h a w hx)) () a w hst
end
end Cp
namespace Go.Proofs.YthommhphcagokaaGreatDoor
open Go Go.RowKit Cp Go.Proofs.Tryz
theorem gX(k:Nat):Fl (k+1)=Fl k++[(k:Int)]:=by unfold Fl;rw[List.range_succ,List.map_append];rfl
abbrev gY:Pr:=agg [slice 3 [],slice 1 [],slice 1 []]
abbrev yz:Pr:=agg [slice 6 [],slice 2 []]
abbrev ADc:Pr:=agg [slice 1 [],int 0]
abbrev Oe:Pr:=agg [slice 8 [],slice 2 [],slice 1 []]
abbrev nR:Pr:=agg [slice 4 []]
theorem Mk:Es.sz CN 0:=⟨(fun x h=>by cases h),(fun x h=>by cases h),by decide,by decide,by decide⟩
theorem y5   :Aq prog 160 [slice 1 [],any] (int (-1)):=by
 refine fo func160 rfl ⟨rfl,rfl⟩ fun M0 w0=>?_;refine a2 ?_;refine co rfl (BJ rfl underlying22 vq) ?_;refine ac ?_;refine Tr.block (Tr.D4 ?_);refine ac ?_;refine Tr.seq ?_;refine Tr.cn rfl ?_ ?_<;>intro h1 q1
 exact absurd h1 AB;have:=h1;refine a3 ?_
 .exact Lr
theorem Zm   :Aq prog 96 [slice 1 [],any] (bool false):=by
 refine fo func96 rfl ⟨rfl,rfl⟩ fun M0 w0=>?_;refine a2 ?_;refine co rfl (CG (y5) rfl rfl rfl) ?_;refine a2 ?_
 .exact Lr
theorem y7   :Aq prog 171 [slice 3 [],any] (int (-1)):=by
 refine fo func171 rfl ⟨rfl,rfl⟩ fun M0 w0=>?_;refine a2 ?_;refine co rfl (BJ rfl underlying102 vq) ?_;refine ac ?_;refine Tr.block (Tr.D4 ?_);refine ac ?_;refine Tr.seq ?_;refine Tr.cn rfl ?_ ?_<;>intro h1 q1
 exact absurd h1 AB;have:=h1;refine a3 ?_
 .exact Lr
theorem nS   :Aq prog 108 [slice 3 [],any] (bool false):=by
 refine fo func108 rfl ⟨rfl,rfl⟩ fun M0 w0=>?_;refine a2 ?_;refine co rfl (CG (y7) rfl rfl rfl) ?_;refine a2 ?_
 .exact Lr
theorem y8   :Aq prog 172 [slice 6 [],any] (int (-1)):=by
 refine fo func172 rfl ⟨rfl,rfl⟩ fun M0 w0=>?_;refine a2 ?_;refine co rfl (BJ rfl underlying105 vq) ?_;refine ac ?_;refine Tr.block (Tr.D4 ?_);refine ac ?_;refine Tr.seq ?_;refine Tr.cn rfl ?_ ?_<;>intro h1 q1
 exact absurd h1 AB;have:=h1;refine a3 ?_
 .exact Lr
theorem y9   :Aq prog 114 [slice 6 [],any] (bool false):=by
 refine fo func114 rfl ⟨rfl,rfl⟩ fun M0 w0=>?_;refine a2 ?_;refine co rfl (CG (y8) rfl rfl rfl) ?_;refine a2 ?_
 .exact Lr
theorem y_   :Aq prog 173 [slice 2 [],any] (int (-1)):=by
 refine fo func173 rfl ⟨rfl,rfl⟩ fun M0 w0=>?_;refine a2 ?_;refine co rfl (BJ rfl underlying106 vq) ?_;refine ac ?_;refine Tr.block (Tr.D4 ?_);refine ac ?_;refine Tr.seq ?_;refine Tr.cn rfl ?_ ?_<;>intro h1 q1
 exact absurd h1 AB;have:=h1;refine a3 ?_
 .exact Lr
theorem zA   :Aq prog 117 [slice 2 [],any] (bool false):=by
 refine fo func117 rfl ⟨rfl,rfl⟩ fun M0 w0=>?_;refine a2 ?_;refine co rfl (CG (y_) rfl rfl rfl) ?_;refine a2 ?_
 .exact Lr
theorem zB   :Aq prog 120 [slice 7 [],any] (int (-1)):=by
 refine fo func120 rfl ⟨rfl,rfl⟩ fun M0 w0=>?_;refine a2 ?_;refine co rfl (BJ rfl underlying140 vq) ?_;refine ac ?_;refine Tr.block (Tr.D4 ?_);refine ac ?_;refine Tr.seq ?_;refine Tr.cn rfl ?_ ?_<;>intro h1 q1
 exact absurd h1 AB;have:=h1;refine a3 ?_
 .exact Lr
theorem nT   :Aq prog 64 [slice 7 [],any] (bool false):=by
 refine fo func64 rfl ⟨rfl,rfl⟩ fun M0 w0=>?_;refine a2 ?_;refine co rfl (CG (zB) rfl rfl rfl) ?_;refine a2 ?_
 .exact Lr
theorem zC   :Aq prog 159 [slice 8 [],any] (int (-1)):=by
 refine fo func159 rfl ⟨rfl,rfl⟩ fun M0 w0=>?_;refine a2 ?_;refine co rfl (BJ rfl underlying42 vq) ?_;refine ac ?_;refine Tr.block (Tr.D4 ?_);refine ac ?_;refine Tr.seq ?_;refine Tr.cn rfl ?_ ?_<;>intro h1 q1
 exact absurd h1 AB;have:=h1;refine a3 ?_
 .exact Lr
theorem nU   :Aq prog 95 [slice 8 [],any] (bool false):=by
 refine fo func95 rfl ⟨rfl,rfl⟩ fun M0 w0=>?_;refine a2 ?_;refine co rfl (CG (zC) rfl rfl rfl) ?_;refine a2 ?_
 .exact Lr
theorem Of   :Aq prog 61 [gY,int 0] (int 0):=by
 refine Aq.of func61 rfl rfl Ag fun M0 w0=>?_;refine Tr.seq (Tr.Bo (co rfl (BE rfl (Va rfl)) (cm rfl (Ch.nil (Fin.go (Tr.seq (Tr.seq (Tr.Bo (co rfl (Lf rfl QF rfl rfl) (co rfl (FO rfl U8 rfl) (co rfl (BJ rfl underlying102 (vl rfl)) (co rfl (ki rfl rfl rfl rfl) (cm rfl ?_)))))))))))));refine Ch.cs 14 rfl ?_ ?_<;>intro h1 q1
 iterate 4 refine cnf h1 rfl ?_
 refine co rfl (Uz rfl rfl h1 rfl) (Ch.nil (Fin.go (Tr.cond rfl (fun _=>?_) (fun h=>nomatch h))));refine Tr.seq (Tr.Bo (cm rfl (Ch.nil (Fin.go (Tr.ret (Fin.AF (Fin.WX rfl (CL.Eo _ _) rfl ?_)))))))
 .exact FT
 refine cy h1 rfl (Lf rfl bz rfl rfl) (cy h1 rfl (FO rfl IF rfl) (cy h1 rfl (BJ rfl underlying22 (vl rfl)) (cy h1 rfl (ki rfl rfl rfl rfl) (co rfl (SZ rfl rfl h1 rfl) (Ch.nil (Fin.go ?_))))));refine Tr.cn rfl ?_ ?_<;>intro h2 q2
 exact absurd h2 AB;refine Tr.skip (Fin.go (Tr.seq (Tr.seq (Tr.Bo (co rfl (Lf rfl bz rfl rfl) (co rfl (FO rfl IF rfl) (co rfl (Aa rfl (Zm) ⟨ke rfl,⟨_,rfl,FF _⟩,trivial⟩) (Ch.nil (Fin.go (wk3 1 2 22 rfl ?_))))))))));refine Tr.cn rfl ?_ ?_<;>intro h3 q3
 refine Tr.seq (Tr.Bo (cm rfl (Ch.nil (Fin.go (Tr.ret (Fin.AF (Fin.WX rfl (CL.Eo _ _) rfl ?_)))))))
 .exact FT
 refine Tr.skip (Fin.go (Tr.seq (Tr.seq (Tr.Bo (co rfl (Lf rfl QF rfl rfl) (co rfl (FO rfl U8 rfl) (co rfl (Aa rfl (nS) ⟨ke rfl,⟨_,rfl,FF _⟩,trivial⟩) (Ch.nil (Fin.go ?_)))))))));refine Tr.cn rfl ?_ ?_<;>intro h4 q4
 refine Tr.seq (Tr.Bo (cm rfl (Ch.nil (Fin.go (Tr.ret (Fin.AF (Fin.WX rfl (CL.Eo _ _) rfl ?_)))))))
 .exact FT
 refine Tr.skip (Fin.go (Tr.seq (Tr.seq (Tr.Bo (co rfl (Lf rfl QF rfl rfl) (co rfl (FO rfl U8 rfl) (co rfl (BJ rfl underlying102 (vl rfl)) (cm rfl (Ch.nil (Fin.go (Tr.block (Tr.D4 (Tr.seq (Tr.Bo ?_))))))))))))));refine co rfl (ki rfl rfl rfl rfl) (Ch.nil (Fin.go (Tr.seq ?_)));refine Tr.cn rfl ?_ ?_<;>intro h5 q5
 exact absurd h5 AB;have:=h5;refine Tr.exit (Fin.BF (Fin.BF (Fin.B1 (Fin.go (Tr.seq (Tr.At (tp rfl (Fp rfl rfl) ?_)))))));refine Tl rfl rfl rfl rfl z70 ABK (fun b1=>?_);refine TO.Ac 0 rfl rfl rfl (vl rfl) (Vo rfl) rfl ABJ rfl rfl (TO.freeze 0 9 rfl rfl (TO.nil (Fin.go (wk3 1 2 9 rfl (Tr.seq (Tr.seq (Tr.Bo (co rfl (Lf rfl QF rfl rfl) (co rfl (FO rfl U8 rfl) (co rfl (Fp rfl rfl) (co rfl (Aa rfl (nS) ⟨ke rfl,⟨_,rfl,FF _⟩,trivial⟩) (Ch.nil (Fin.go ?_)))))))))))));refine Tr.cn rfl ?_ ?_<;>intro h6 q6
 refine Tr.seq (Tr.Bo (cm rfl (Ch.nil (Fin.go (Tr.ret (Fin.AF (Fin.WX rfl (CL.Eo _ _) rfl ?_)))))))
 .exact FT
 refine Tr.skip (Fin.go (Tr.seq (Tr.seq (Tr.Bo (co rfl (Lf rfl U9 rfl rfl) (co rfl (FO rfl IF rfl) (co rfl (BJ rfl underlying22 (vl rfl)) (cm rfl (co rfl (ki rfl rfl rfl rfl) (cm rfl ?_))))))))));refine Ch.cs 82 rfl ?_ ?_<;>intro h7 q7
 iterate 4 refine cnf h7 rfl ?_
 refine co rfl (Uz rfl rfl h7 rfl) (Ch.nil (Fin.go (wk1 87 rfl (Tr.cond rfl (fun _=>?_) (fun h=>nomatch h)))));refine Tr.seq (Tr.Bo (cm rfl (Ch.nil (Fin.go (Tr.ret (Fin.AF (Fin.WX rfl (CL.Eo _ _) rfl ?_)))))))
 .exact FT
 refine cy h7 rfl (Lf rfl U9 rfl rfl) (cy h7 rfl (FO rfl IF rfl) (cy h7 rfl (FO rfl j_ rfl) (cy h7 rfl (Aa rfl (Zm) ⟨ke rfl,⟨_,rfl,FF _⟩,trivial⟩) (co rfl (SZ rfl rfl h7 rfl) (Ch.nil (Fin.go (wk1 87 rfl ?_)))))));refine Tr.cn rfl ?_ ?_<;>intro h8 q8
 refine Tr.seq (Tr.Bo (cm rfl (Ch.nil (Fin.go (Tr.ret (Fin.AF (Fin.WX rfl (CL.Eo _ _) rfl ?_)))))))
 .exact FT
 refine Tr.skip (Fin.go (Tr.seq (Tr.Bo (cm rfl (Ch.nil (Fin.go (Tr.ret (Fin.WX rfl (CL.Eo _ _) rfl ?_))))))))
 .exact Lr
theorem Xi   :Aq prog 113 [gY,slice 8 []] (EB [slice 1 [],int 0]):=by
 refine fo func113 rfl ⟨rfl,rfl⟩ fun M0 w0=>?_;refine a2 ?_;refine co rfl (BJ rfl underlying42 vq) ?_;refine an ?_ ?_<;>intro h1 q1
 refine ac ?_;refine Tr.ret (Fin.AF (Fin.C_ rfl (CL.Eo _ _) rfl ?_ rfl ?_))
 .exact AH 1
 .exact FT
 refine a3 ?_;refine co rfl (BJ rfl underlying42 vq) ?_;refine ac ?_;refine Tr.block (Tr.D4 ?_);refine ac ?_;refine Tr.seq ?_;refine Tr.cn rfl ?_ ?_<;>intro h2 q2
 exact absurd h2 AB;have:=h2;refine a2 ?_;refine wk [5,4] rfl (Tr.ret (Fin.C_ rfl (CL.Eo _ _) rfl ?_ rfl ?_))
 .exact AH 1
 .exact Lr
theorem nW   :Aq prog 62 [gY,slice 8 []] (EB [slice 1 [],int 0]):=by
 refine fo func62 rfl ⟨rfl,rfl⟩ fun M0 w0=>?_;refine a2 ?_;refine co rfl (BJ rfl underlying22 vq) (co rfl (CG (Of) rfl rfl rfl) ?_);refine ac ?_;refine an ?_ ?_<;>intro h1 q1
 exact absurd h1 AB;refine a2 ?_;refine co rfl (CG (Xi) rfl rfl rfl) ?_;refine ac ?_;refine wk [5,4] rfl (Tr.ret (Fin.C_ rfl (CL.Eo _ _) rfl ?_ rfl ?_))
 .exact Lr
 .exact Lr
theorem T4   :Aq prog 63 [yz] (int 0):=by
 refine fo func63 rfl ⟨rfl,rfl⟩ fun M0 w0=>?_
 .repeat' first|exact absurd h AB|exact Lr|refine co rfl (Aa rfl (y9) ⟨kq,⟨_,rfl,FF _⟩,trivial⟩) (cm rfl ?_)|refine cy h rfl (Aa rfl (zA) ⟨kq,⟨_,rfl,FF _⟩,trivial⟩) ?_|refine cy h rfl (BJ rfl underlying105 vq) ?_|refine cy h rfl (BJ rfl underlying106 vq) ?_|refine ac ?_|(refine Tr.cn rfl ?_ ?_<;>intro h q)|(refine Ch.cg rfl rfl rfl ?_ ?_<;>intro h q)
theorem zD   :Aq prog 285 [any,int 0,int 0,any] (NO):=by
 refine fo func285 rfl ⟨rfl,rfl⟩ fun M0 w0=>?_;refine ac ?_;refine Tr.block (Tr.D4 ?_);refine an ?_ ?_<;>intro h1 q1
 exact absurd h1 AB;have:=h1;refine Tr.exit (Fin.BF (Fin.BF (Fin.B1 (Fin.rC rfl))))
theorem zE   :Aq prog 244 [any,int 0,int 0,any,any] (NO):=by
 refine fo func244 rfl ⟨rfl,rfl⟩ fun M0 w0=>?_;refine a2 ?_;refine Tr.block (Tr.D4 ?_);refine ac ?_;refine an ?_ ?_<;>intro h1 q1
 refine ac ?_;refine co rfl (kc4 (zD) rfl rfl rfl rfl rfl) ?_;refine ac ?_;refine Tr.ret (Fin.AF (Fin.Ak (Fin.AF (Fin.Ak (Fin.ABz rfl)))));exact absurd h1 AB
theorem nX   :Aq prog 294 [is (.int .u64 0)] (any):=by
 refine fo func294 rfl ⟨rfl,rfl⟩ fun M0 w0=>?_;have hw:IntKind.u8.wrap 0=0:=rfl;refine ac ?_;refine an ?_ ?_<;>intro h1 q1
 exact absurd h1 AB;refine ac ?_;refine an ?_ ?_<;>intro h2 q2
 exact absurd h2 AB;refine ac ?_;refine an ?_ ?_<;>intro h3 q3
 exact absurd h3 AB;refine a2 ?_;refine co rfl (B9 rfl underlying393 underlying5 vq) ?_;refine co rfl (QH rfl underlying9 vq vq AA (List.getElem?_eq_getElem (by show _<256;omega))) ?_;refine co rfl (B9 rfl underlying5 underlying3 vq) ?_;refine ac ?_;refine wk [2] rfl ?_;refine ac ?_
 .exact FF _
theorem zF   :Aq prog 245 [is (.int .u64 0)] (any):=by
 refine fo func245 rfl ⟨rfl,rfl⟩ fun M0 w0=>?_;refine a3 ?_;refine co rfl (BS (nX) rfl rfl) ?_;refine a2 ?_
 .exact Lr
theorem nY   :Aq prog 194 [slice 2 [],any] (NO):=by
 refine fo func194 rfl ⟨rfl,rfl⟩ fun M0 w0=>?_;refine ac ?_;refine co rfl (BJ rfl underlying291 vq) ?_;refine a2 ?_;refine co rfl (B9 rfl underlying3 underlying331 vq) (co rfl (Aa rfl (zF) ⟨⟨_,rfl,Pr.le_of_eq rfl⟩,trivial⟩) (cm rfl (co rfl (Aa rfl (zE) ⟨⟨_,rfl,FF _⟩,kq,kq,⟨_,rfl,FF _⟩,⟨_,rfl,FF _⟩,trivial⟩) (Ch.nil (Fin.rC rfl)))))
theorem zG   :Aq prog 196 [slice 2 []] (slice 2 []):=by
 refine fo func196 rfl ⟨rfl,rfl⟩ fun M0 w0=>?_
 .repeat' first|exact Lr|exact absurd h AB|refine co rfl (BJ rfl underlying291 vq) ?_|refine ac ?_|(refine Tr.cn rfl ?_ ?_<;>intro h q)
theorem gZ   :Aq prog 138 [slice 2 []] (slice 2 []):=by
 refine fo func138 rfl ⟨rfl,rfl⟩ fun M0 w0=>?_;refine a3 ?_;refine co rfl (BJ rfl underlying43 vq) ?_;refine ac ?_;refine Tr.block (Tr.D4 ?_);refine ac ?_;refine Tr.seq ?_;refine Tr.cn rfl ?_ ?_<;>intro h1 q1
 exact absurd h1 AB;have:=h1;refine a2 ?_;refine co rfl (Aa rfl (nY) ⟨⟨_,rfl,AH _⟩,⟨_,rfl,FF _⟩,trivial⟩) ?_;refine a3 ?_;refine co rfl (Aa rfl (zG) ⟨⟨_,rfl,AH _⟩,trivial⟩) (co rfl (BJ rfl underlying291 vq) ?_);refine ac ?_;refine Tr.block (Tr.D4 ?_);refine ac ?_;refine wk [26,25,24,23,6] rfl (Tr.seq ?_);refine Tr.cn rfl ?_ ?_<;>intro h2 q2
 exact absurd h2 AB;have:=h2;refine a3 ?_
 .exact AH 2
theorem zH   :Aq prog 70 [agg (CF CN),slice 8 []] (EB [slice 2 [],int 0]):=by
 refine fo func70 rfl ⟨rfl,rfl⟩ fun M0 w0=>?_;refine a2 ?_;refine co rfl (BS (FP (Mk.fits AA)) rfl rfl) ?_;refine an ?_ ?_<;>intro h1 q1
 exact absurd h1 AB;refine ac ?_;refine co rfl (BJ rfl underlying42 vq) ?_;refine an ?_ ?_<;>intro h2 q2
 exact absurd h2 AB;refine ac ?_;refine co rfl (Aa rfl (nU) ⟨kq,⟨_,rfl,FF _⟩,trivial⟩) ?_;refine ac ?_;refine wk [19,2,1] rfl ?_;refine Tr.cn rfl ?_ ?_<;>intro h3 q3
 exact absurd h3 AB;refine a3 ?_;refine co rfl (BJ rfl underlying42 vq) ?_;refine ac ?_;refine Tr.block (Tr.D4 ?_);refine ac ?_;refine Tr.seq ?_;refine Tr.cn rfl ?_ ?_<;>intro h4 q4
 exact absurd h4 AB;have:=h4;refine a2 ?_;refine co rfl (Aa rfl (gZ) ⟨⟨_,rfl,AH _⟩,trivial⟩) ?_;refine ac ?_;refine Tr.ret (Fin.C_ rfl (CL.Eo _ _) rfl ?_ rfl ?_)
 .exact Lr
 .exact Lr
theorem nZ   :Aq prog 148 [int 0,slice 2 []] (ref [int 0,slice 1 [],slice 1 []]):=by
 refine fo func148 rfl ⟨rfl,rfl⟩ fun M0 w0=>?_;refine ac ?_;refine Tr.seq (Tr.pad (Tr.rx ?_));refine ax ?_;refine xo rfl (fun _=>KU (m:=0) rfl underlying239 GI b_ qd rfl AB AB ⟨_,rfl,int_eq rfl⟩ ⟨_,rfl,int_eq rfl⟩ AB AB) ?_;refine xm rfl ?_;refine xo rfl (fun _=>KU (m:=0) rfl underlying239 GI b_ qd rfl AB AB ⟨_,rfl,int_eq rfl⟩ ⟨_,rfl,int_eq rfl⟩ AB AB) ?_;refine xo rfl (fun _=>Al (rows:=[(0,[_]),(1,[_]),(2,[_])]) rfl vC vD ⟨⟨rfl,Cf⟩,⟨⟨rfl,⟨_,rfl,Pr.le_trans (A_ 1 _) (AV _)⟩⟩,⟨⟨rfl,⟨_,rfl,Pr.le_trans (A_ 1 _) (AV _)⟩⟩,trivial⟩⟩⟩ rfl) (xo rfl (fun _=>BE rfl CM) (Cx.ef 0 rfl rfl AB (Gh rfl rfl AB rfl ABh vB) (Cx.ED 0 rfl rfl (Gi rfl rfl rfl rfl Cf vA rfl rfl) ?_)));refine Cx.nil ⟨by kernel_rfl,?_⟩;refine BG.open_ 0 5 rfl rfl (fun v1=>?_);refine BG.done al1 (Fin.iq 5 0 _ rfl rfl (fun _=>rfl) (fun b1=>?_));refine Fin.go ?_;refine ac ?_;refine co rfl (BJ rfl underlying43 vq) ?_;refine ac ?_;refine Tr.block (Tr.D4 ?_);refine ac ?_;refine wk [22,21,20,19,5,0] rfl (Tr.seq ?_);refine Tr.cn rfl ?_ ?_<;>intro h1 q1
 exact absurd h1 AB;have:=h1;refine a2 ?_;refine Tr.block (Tr.D4 ?_);refine ac ?_;refine Tr.seq ?_;refine Tr.cn rfl ?_ ?_<;>intro h2 q2
 exact absurd h2 AB;have:=h2;refine a2 ?_;refine Tr.block (Tr.D4 ?_);refine ac ?_;refine Tr.seq ?_;refine Tr.cn rfl ?_ ?_<;>intro h3 q3
 exact absurd h3 AB;have:=h3;refine a2 ?_;refine Tr.drop 0 (wk [4] rfl ?_);refine ac ?_
 .exact Lr
theorem R_   :Aq prog 77 [int 0,slice 2 []] (EB [ref [int 0,slice 1 [],slice 1 []],int 0]):=by
 refine fo func77 rfl ⟨rfl,rfl⟩ fun M0 w0=>?_;refine ac ?_;refine Tr.seq (Tr.seq (Tr.Bo (cm rfl (co rfl Yr (cm rfl ?_)))));refine Ch.cs 14 rfl ?_ ?_<;>intro h1 q1
 exact absurd h1 AB;refine ac ?_;refine Tr.cn rfl ?_ ?_<;>intro h2 q2
 exact absurd h2 AB;refine ac ?_;refine ac ?_;refine co rfl (BJ rfl underlying43 vq) ?_;refine ac ?_;refine Tr.block (Tr.D4 ?_);refine ac ?_;refine Tr.seq ?_;refine Tr.cn rfl ?_ ?_<;>intro h3 q3
 exact absurd h3 AB;have:=h3;refine ac ?_;refine ac ?_;refine co rfl (BJ rfl underlying43 vq) ?_;refine ac ?_;refine wk [54,53,1,0] rfl (Tr.block (Tr.D4 ?_));refine ac ?_;refine Tr.seq ?_;refine Tr.cn rfl ?_ ?_<;>intro h4 q4
 exact absurd h4 AB;have:=h4;refine ac ?_;refine ac ?_;refine co rfl (CG (nZ) rfl rfl rfl) ?_;refine ac ?_;refine ac ?_;refine co rfl (BJ rfl underlying239 vq) ?_;refine ac ?_;refine wk [81,80,79,9] rfl (Tr.block (Tr.D4 ?_));refine ac ?_;refine Tr.seq ?_;refine Tr.cn rfl ?_ ?_<;>intro h5 q5
 exact absurd h5 AB;have:=h5;refine ac ?_;refine ac ?_;refine Tr.ret (Fin.C_ rfl (CL.Eo _ _) rfl ?_ rfl ?_)
 .exact Lr
 .exact Lr
theorem ga   :Aq prog 97 [int 0,slice 2 []] (int 0):=by
 refine fo func97 rfl ⟨rfl,rfl⟩ fun M0 w0=>?_;refine a2 ?_;refine co rfl (CG (R_) rfl rfl rfl) ?_;refine a3 ?_
 .exact Lr
theorem gb   :Aq prog 125 [int 0,slice 2 []] (EB [slice 1 [],int 0]):=by
 refine fo func125 rfl ⟨rfl,rfl⟩ fun M0 w0=>?_;refine a2 ?_;refine co rfl (CG (R_) rfl rfl rfl) ?_;refine ac ?_;refine an ?_ ?_<;>intro h1 q1
 refine ac ?_;refine wk [5,4] rfl (Tr.ret (Fin.AF (Fin.C_ rfl (CL.Eo _ _) rfl ?_ rfl ?_)))
 .exact AH 1
 .exact Lr
 refine a3 ?_;refine wk [9,8,6,0] rfl ?_;refine ac ?_;refine Tr.block (Tr.D4 ?_);refine ac ?_;refine Tr.seq ?_;refine Tr.cn rfl ?_ ?_<;>intro h2 q2
 exact absurd h2 AB;have:=h2;refine a2 ?_;refine Tr.ret (Fin.C_ rfl (CL.Eo _ _) rfl ?_ rfl ?_)
 .exact AH 1
 .exact Lr
theorem tX   :Aq prog 78 [ref [int 0,slice 1 [],slice 1 []],slice 1 []] (EB [is (.int .u32 0),bool true]):=by
 refine fo func78 rfl ⟨rfl,rfl⟩ fun M0 w0=>?_
 iterate 4 refine ac ?_
 refine co rfl (BJ rfl underlying50 vq) ?_;refine ac ?_;refine Tr.block (Tr.D4 ?_);refine ac ?_;refine Tr.seq ?_;refine Tr.cn rfl ?_ ?_<;>intro h1 q1
 exact absurd h1 AB;have:=h1;refine a2 ?_;refine Tr.ret (Fin.C_ rfl (CL.Eo _ _) rfl ?_ rfl ?_)
 .exact Lr
 .exact Lr
theorem zI   :Aq prog 204 [any,ref [is (.int .u32 0)]] (NO):=by
 refine fo func204 rfl ⟨rfl,rfl⟩ fun M0 w0=>(Tr.block (Tr.D4 ?_));refine an ?_ ?_<;>intro h1 q1
 exact absurd h1 AB;have:=h1;refine Tr.exit (Fin.BF (Fin.BF (Fin.B1 (Fin.rC rfl))))
theorem zJ:Entry Tryz.prog 204:=⟨_,Tryz.func204,rfl,rfl⟩
theorem tY   :Aq prog 150 [is (.int .u32 0)] (fn (.func 204) [ref [is (.int .u32 0)]]):=by
 refine fo func150 rfl ⟨rfl,rfl⟩ fun M0 w0=>?_;refine a2 ?_;refine Tr.ret (Fin.B4 rfl (AL.tmp rfl Lr) ?_)
 .exact Lr
theorem Zn   :BM prog 79 [ref [int 0,slice 1 [],slice 1 []],is (.int .u32 0)] (bool true) (Bb) (fun _=>Bb):=by
 refine BM.ofM func79 rfl rfl Ag fun M0 w0 S rs M1 w1=>?_;refine Tr.seq (Tr.At (tp rfl (BE rfl Cf) (tp rfl (BE rfl Cf) ?_)));refine Tl rfl rfl rfl rfl z4 zo4 (fun b1=>?_);refine ap ?_;refine ac ?_;refine co rfl (BS (tY) rfl rfl) ?_;refine ac ?_;refine Tr.block (wk [4,7] rfl (Tr.Xh rfl Ag zJ (zI) (fun Dk=>?_)));refine ac ?_;refine ap ?_;refine Tr.ret (Fin.Rn (Fin.Ro (Fin.HD [_] rfl (AL.dh 0 rfl rfl e9 Lr) ?_ (fun _ _ _ _=>rfl))))
 .exact Lr
theorem gh:Aq Tryz.prog 79 [ref [int 0,slice 1 [],slice 1 []],is (.int .u32 0)] (bool true):=Zn.pure
theorem Zo   :Aq prog 43 [int 0,slice 2 [],slice 1 []] (EB [bool true,int 0]):=by
 refine fo func43 rfl ⟨rfl,rfl⟩ fun M0 w0=>?_;refine a2 ?_;refine co rfl (CG (R_) rfl rfl rfl) ?_;refine ac ?_;refine an ?_ ?_<;>intro h1 q1
 exact absurd h1 AB;refine a2 ?_;refine co rfl (CG (tX) rfl rfl rfl) ?_;refine ac ?_;refine wk [11,10,8] rfl ?_;refine an ?_ ?_<;>intro h2 q2
 exact absurd h2 AB;refine a2 ?_;refine co rfl (CG (gh) rfl rfl rfl) ?_;refine ac ?_;refine Tr.ret (Fin.C_ rfl (CL.Eo _ _) rfl ?_ rfl ?_)
 .exact Lr
 .exact Lr
theorem tZ   :Aq prog 177 [slice 2 []] (full 2 []):=by
 refine fo func177 rfl ⟨rfl,rfl⟩ fun M0 w0=>?_;refine a2 ?_;refine co rfl (Ex rfl underlying43 vq) ?_;refine ac ?_;refine Tr.ex 4 rfl (fun z1=>Tr.fact 4 rfl fun JG=>?_)
 .repeat' first|exact FK 2|exact Lr|refine co rfl (KE rfl underlying43 NK vq vq) ?_|refine ac ?_|(refine Tr.cn rfl ?_ ?_<;>intro h q)
theorem td   :Aq prog 178 [slice 1 []] (full 1 []):=by
 refine fo func178 rfl ⟨rfl,rfl⟩ fun M0 w0=>?_;refine a2 ?_;refine co rfl (Ex rfl underlying22 vq) ?_;refine ac ?_;refine Tr.ex 4 rfl (fun z1=>Tr.fact 4 rfl fun JG=>?_)
 .exact jX
theorem ng   :Aq prog 126 [Oe] (Oe):=by
 refine Aq.of func126 rfl rfl Ag fun M0 w0=>?_;refine Tr.seq (Tr.At (tp rfl (BE rfl (Va rfl)) ?_));refine Tl rfl rfl rfl rfl z45 RP (fun b1=>?_);refine TO.nil (Fin.go (Tr.seq (Tr.pad (Tr.Yl mixed [none,none,none,none,none,none,none,some (0,0,true,3),some (3,0,true,3)] BQ (xo rfl (fun _=>Lf rfl j8 rfl rfl) (xo rfl (fun _=>FO rfl u7 rfl) (xo rfl (fun _=>Aa rfl (tZ) ⟨ke rfl,trivial⟩) (xo rfl (fun _=>Lf rfl j9 rfl rfl) (xo rfl (fun _=>FO rfl IF rfl) (xo rfl (fun _=>Aa rfl (td) ⟨ke rfl,trivial⟩) (xo rfl (fun _=>Al (rows:=[(1,[_]),(2,[_])]) rfl ABG RP ⟨⟨rfl,(Vo rfl)⟩,⟨⟨rfl,(Vo rfl)⟩,trivial⟩⟩ rfl) (Cx.ef 0 rfl rfl AB (Gh rfl rfl AB rfl z45 RP) ?_))))))))))));refine Cx.ED 0 rfl rfl (Gi rfl rfl rfl rfl (VL.le (vl rfl) (Pr.le_trans (Az (qs:=[slice 8 [],slice 2 [],slice 1 []]) ⟨AH 8,A_ 2 _,A_ 1 _,trivial⟩) (AJ _))) U6 rfl rfl) ?_;refine Cx.nil ⟨rfl,?_⟩;refine BG.open_ 0 3 rfl rfl (fun v1=>?_);refine BG.done (Cu.cons (Cu.cons (Cu.map _))) (Fin.iq 3 0 _ rfl rfl (fun _=>rfl) (fun b2=>?_));refine Fin.go (Tr.seq (Tr.seq (Tr.Bo (co rfl (Lf rfl j7 rfl rfl) (co rfl (FO rfl j6 rfl) (co rfl (BJ rfl underlying42 (vl rfl)) (cm rfl (Ch.nil (Fin.go (wk5 2 3 14 15 16 rfl (Tr.block (Tr.D4 (Tr.seq (Tr.Bo ?_))))))))))))));refine co rfl (ki rfl rfl rfl rfl) (Ch.nil (Fin.go (Tr.seq ?_)));refine Tr.cn rfl ?_ ?_<;>intro h1 q1
 exact absurd h1 AB;have:=h1;refine Tr.exit (Fin.BF (Fin.BF (Fin.B1 (Fin.go (Tr.seq (Tr.At (TO.rd 0 rfl rfl rfl AB (Di rfl TG U6 (vl rfl) rfl rfl) (TO.Ac 1 rfl rfl rfl (vl rfl) (Va rfl) rfl U6 rfl rfl (TO.nil (Fin.go (Tr.drop 0 (Tr.ret (Fin.B4 rfl (AL.cell 0 rfl rfl TG U6 rfl (Lr)) ?_)))))))))))))
 .exact Lr
theorem gj   :Aq prog 124 [agg (CF CN),gY,slice 8 []] (EB [slice 1 [],int 0]):=by
 refine fo func124 rfl ⟨rfl,rfl⟩ fun M0 w0=>?_;refine a2 ?_;refine co rfl (BS (FP (Mk.fits AA)) rfl rfl) ?_;refine an ?_ ?_<;>intro h1 q1
 exact absurd h1 AB;refine a2 ?_;refine co rfl (CG (Of) rfl rfl rfl) ?_;refine a2 ?_;refine wk [18,8,4,2] rfl ?_;refine Tr.cn rfl ?_ ?_<;>intro h2 q2
 exact absurd h2 AB;refine a2 ?_;refine co rfl (CG (Xi) rfl rfl rfl) ?_;refine ac ?_;refine Tr.ret (Fin.C_ rfl (CL.Eo _ _) rfl ?_ rfl ?_)
 .exact Lr
 .exact Lr
theorem zK   :Aq prog 68 [agg (CF CN),gY,slice 8 [],slice 2 [],int 0] (EB [Oe,int 0]):=by
 refine fo func68 rfl ⟨rfl,rfl⟩ fun M0 w0=>(Tr.seq (Tr.At (tp rfl (BE rfl CM) (tp rfl (BE rfl CM) ?_))));refine Tl rfl rfl rfl rfl z45 RP (fun b1=>?_);refine ao ?_;refine ac ?_;refine co rfl (Wz (gj) rfl rfl rfl rfl) ?_;refine ac ?_;refine wk [13,12,10,6,4,3,2] rfl ?_;refine an ?_ ?_<;>intro h1 q1
 exact absurd h1 AB;refine a2 ?_;refine co rfl (BJ rfl underlying42 vq) (cm rfl (co rfl (CG (gb) rfl rfl rfl) ?_));refine ac ?_;refine wk [14,13,12,10,6,4,3,2] rfl ?_;refine an ?_ ?_<;>intro h2 q2
 exact absurd h2 AB;refine ac ?_;refine ao ?_;refine tp rfl (BJ rfl underlying42 vq) ?_;refine tp rfl (KU (m:=0) rfl underlying22 C4 RO z3 rfl AB AB ⟨_,rfl,int_eq rfl⟩ ⟨_,rfl,int_eq rfl⟩ AB AB) ?_;refine tp rfl (Al (rows:=[(0,[_]),(1,[_]),(2,[_])]) rfl ABG RP ⟨⟨rfl,Cf⟩,⟨⟨rfl,Cf⟩,⟨⟨rfl,⟨_,rfl,Pr.le_trans (A_ 1 _) (AV _)⟩⟩,trivial⟩⟩⟩ rfl) (tp rfl (BS (ng) rfl rfl) ?_);refine Tl rfl rfl rfl rfl z45 RP (fun b2=>?_);refine sf 0 15 ⟨rfl,rfl,rfl⟩ rfl rfl rfl rfl ?_;refine ao ?_;refine wk [15,14,12,10,6,4,3] rfl ?_;refine a2 ?_;refine co rfl (BJ rfl underlying50 vq) ?_;refine ac ?_;refine Tr.block (Tr.D4 ?_);refine ac ?_;refine Tr.seq ?_;refine Tr.cn rfl ?_ ?_<;>intro h3 q3
 exact absurd h3 AB;have:=h3;refine ac ?_;refine ao ?_;refine TO.Ac 0 rfl rfl rfl vq CM rfl U6 rfl rfl ?_;refine ao ?_;refine wk [11,10] rfl (Tr.ret (Fin.Bf rfl (AL.cell 0 rfl rfl TG U6 rfl Lr) (AL.tmp rfl Lr) ?_));refine BU ⟨?_,?_,trivial⟩
 .exact Lr
 .exact Lr
theorem dj{n:Int}  :Aq prog 52 [int n] (bool (decide (0<=n)&&decide (n<=40000))):=by
 refine fo func52 rfl ⟨rfl,rfl⟩ fun M0 w0=>?_;refine ac ?_;refine ac ?_;refine Ch.cs 5 rfl ?_ ?_<;>intro h1 q1
 refine ac ?_;refine ac ?_
 .exact F7
 refine ac ?_;refine ac ?_
 .exact Gq
theorem SA   :Aq prog 51 [agg (CF CN),Oe] (int 0):=by
 refine fo func51 rfl ⟨rfl,rfl⟩ fun M0 w0=>?_
 .repeat' first|exact absurd h AB|(refine int_eq ?_;simp_all)|exact Lr|refine co rfl (BS (FP (Mk.fits AA)) rfl rfl) ?_|refine co rfl (BJ rfl underlying42 vq) ?_|refine cy h rfl (Aa rfl (nU) ⟨kq,⟨_,rfl,FF _⟩,trivial⟩) ?_|refine cy h rfl (BJ rfl underlying22 vq) ?_|refine cy h rfl (Aa rfl (Zm) ⟨kq,⟨_,rfl,FF _⟩,trivial⟩) ?_|refine cy h rfl (CG (ga) rfl rfl rfl) ?_|refine ac ?_|(refine Tr.cn rfl ?_ ?_<;>intro h q)|(refine Ch.cg rfl rfl rfl ?_ ?_<;>intro h q)
theorem Xj   :Aq prog 53 [agg (CF CN),Oe] (EB [slice 1 [],int 0]):=by
 refine fo func53 rfl ⟨rfl,rfl⟩ fun M0 w0=>?_
 iterate 4 refine ac ?_
 refine Tr.block (Tr.D4 ?_);refine ac ?_;refine Tr.seq ?_;refine Tr.cn rfl ?_ ?_<;>intro h1 q1
 exact absurd h1 AB;have:=h1;refine a2 ?_;refine wk [5,4] rfl (Tr.ret (Fin.C_ rfl (CL.Eo _ _) rfl ?_ rfl ?_))
 .exact AH 1
 .exact Lr
theorem Zp   :Aq prog 32 [agg (CF CN),Oe,int 0,int 1] (EB [slice 1 [],int 0]):=by
 refine fo func32 rfl ⟨rfl,rfl⟩ fun M0 w0=>?_;refine ac ?_;refine ac ?_;refine co rfl (CG (SA) rfl rfl rfl) ?_;refine ac ?_;refine ac ?_;refine Tr.cn rfl ?_ ?_<;>intro h1 q1
 exact absurd h1 AB;refine ac ?_;refine ac ?_;refine co rfl (BS (dj) rfl rfl) (co rfl (KG rfl vq) (cm rfl ?_));refine Ch.cs 20 rfl ?_ ?_<;>intro h2 q2
 exact absurd h2 AB;refine JW h2 rfl (cy h2 rfl (BS (dj) rfl rfl) ?_);refine ac ?_;refine wk [24,5,4] rfl ?_;refine Tr.cn rfl ?_ ?_<;>intro h3 q3
 exact absurd h3 AB;refine ac ?_;refine ac ?_;refine co rfl (CG (Xj) rfl rfl rfl) ?_;refine ac ?_;refine Tr.ret (Fin.C_ rfl (CL.Eo _ _) rfl ?_ rfl ?_)
 .exact Lr
 .exact Lr
theorem gl   :Aq prog 54 [any,ref [slice 1 []],ref [slice 8 [],slice 2 [],slice 1 []],ref [int 0],ref [int 1],ref (CF CN)] (NO):=by
 refine fo func54 rfl ⟨rfl,rfl⟩ fun M0 w0=>?_;refine ac ?_;refine co rfl (BJ rfl underlying89 vq) ?_;refine ac ?_;refine Tr.block (Tr.D4 ?_);refine ac ?_;refine Tr.seq ?_;refine Tr.cn rfl ?_ ?_<;>intro h1 q1
 exact absurd h1 AB;have:=h1;refine Tr.exit (Fin.BF (Fin.BF (Fin.B1 (Fin.rC rfl))))
theorem gm:Entry Tryz.prog 54:=⟨_,Tryz.func54,rfl,rfl⟩
theorem Zq   :Aq prog 33 [agg (CF CN),Oe,slice 1 [],int 0,int 1] (fn (.func 54) [ref [slice 1 []],ref [slice 8 [],slice 2 [],slice 1 []],ref [int 0],ref [int 1],ref (CF CN)]):=by
 refine fo func33 rfl ⟨rfl,rfl⟩ fun M0 w0=>?_;refine a3 ?_
 .exact Lr
theorem Zr   :BM prog 12 [agg (CF CN),Oe,int 0,int 1] (EB [nR,int 0]) (Bb) (fun _=>Bb):=by
 refine BM.ofM func12 rfl rfl Ag fun M0 w0 S rs M1 w1=>?_;refine Tr.seq (Tr.At (tp rfl (BE rfl CM) (tp rfl (BE rfl CM) ?_)));refine Tl rfl rfl rfl rfl z38 Yt (fun b1=>?_);refine Tl rfl rfl rfl rfl z39 ABF (fun b2=>?_);refine ap ?_;refine ac ?_;refine co rfl (kc4 (Zp) rfl rfl rfl rfl rfl) ?_;refine ac ?_;refine wk [11,10,9,8,5,4,3,2] rfl ?_;refine an ?_ ?_<;>intro h1 q1
 exact absurd h1 AB;refine ac ?_;refine Tr.seq (Tr.At ?_);refine Tl rfl rfl rfl rfl z38 Yt (fun b3=>?_);refine ap ?_;refine ac ?_;refine co rfl (kg (Zq) rfl rfl rfl rfl rfl rfl) ?_;refine ac ?_;refine wk [31,12,9,8] rfl (Tr.block (wk [12,9,8,31] rfl (Tr.Xh rfl Ag gm (gl) (fun Dk=>?_))));refine ac ?_;refine Tr.seq (Tr.At (TO.rd 1 rfl rfl rfl Ag (Di rfl Wm j5 vq rfl rfl) ?_));refine ap ?_;refine Tr.drop 1 (Tr.ret (Fin.Rn (Fin.Ro (Fin.ABC [_,_] rfl (AL.cell 1 rfl rfl Wm j5 rfl Lr) (AL.dh 0 rfl rfl bw Lr) ?_))));refine BU ⟨?_,?_,trivial⟩
 .exact Az ⟨AH 4,trivial⟩
 .exact Lr
theorem gp:Aq Tryz.prog 12 [agg (CF CN),Oe,int 0,int 1] (EB [nR,int 0]):=Zr.pure
theorem Zs   :Aq prog 69 [agg (CF CN),Oe,yz,slice 7 [],ADc] (EB [slice 1 [],int 0]):=by
 refine fo func69 rfl ⟨rfl,rfl⟩ fun M0 w0=>?_;refine a2 ?_;refine co rfl (CG (SA) rfl rfl rfl) ?_;refine ac ?_;refine an ?_ ?_<;>intro h1 q1
 exact absurd h1 AB;refine a2 ?_;refine co rfl (BS (T4) rfl rfl) ?_;refine ac ?_;refine wk [34,9,7,6,5,3] rfl ?_;refine Tr.cn rfl ?_ ?_<;>intro h2 q2
 exact absurd h2 AB;refine ac ?_;refine co rfl (Aa rfl (nT) ⟨kq,⟨_,rfl,FF _⟩,trivial⟩) ?_;refine an ?_ ?_<;>intro h3 q3
 exact absurd h3 AB;refine a2 ?_;refine co rfl (CG (Xj) rfl rfl rfl) ?_;refine ac ?_;refine wk [14,13,9,7,6,5,3] rfl ?_;refine an ?_ ?_<;>intro h4 q4
 exact absurd h4 AB;refine a2 ?_;refine co rfl (BJ rfl underlying42 vq) ?_;refine co rfl (KU (m:=0) rfl underlying223 sz4 by4 z4 rfl AB AB ⟨_,rfl,int_eq rfl⟩ ⟨_,rfl,int_eq rfl⟩ AB AB) ?_;refine ac ?_;refine wk [15,13,9,7,6,5,3] rfl ?_;refine ac ?_;refine co rfl (BJ rfl underlying89 vq) ?_;refine ac ?_;refine Tr.block (Tr.D4 ?_);refine ac ?_;refine Tr.seq ?_;refine Tr.cn rfl ?_ ?_<;>intro h5 q5
 exact absurd h5 AB;have:=h5;refine a3 ?_;refine co rfl (BJ rfl underlying223 ⟨_,rfl,A_ 1 _⟩) ?_;refine ac ?_;refine wk [124,123,122,25] rfl (Tr.block (Tr.D4 ?_));refine ac ?_;refine Tr.seq ?_;refine Tr.cn rfl ?_ ?_<;>intro h6 q6
 exact absurd h6 AB;have:=h6;refine a2 ?_;refine Tr.ret (Fin.C_ rfl (CL.Eo _ _) rfl ?_ rfl ?_)
 .exact AH 1
 .exact Lr
theorem IM{n:Int}  :Aq prog 40 [int n] (bool (decide (0<=n)&&decide (n<=40000))):=by
 refine fo func40 rfl ⟨rfl,rfl⟩ fun M0 w0=>?_;refine ac ?_;refine ac ?_;refine Ch.cs 5 rfl ?_ ?_<;>intro h1 q1
 refine ac ?_;refine ac ?_
 .exact F7
 refine ac ?_;refine ac ?_
 .exact Gq
theorem zL   :Aq prog 67 [slice 2 [],ref (CF CN),ref [slice 3 [],slice 1 [],slice 1 []],ref [slice 8 []],ref [int 0],ref [int 1],ref [slice 6 [],slice 2 []],ref [slice 7 []],ref [slice 1 [],int 0]] (EB [Oe,nR,bool true]):=by
 refine fo func67 rfl ⟨rfl,rfl⟩ fun M0 w0=>(Tr.seq (Tr.At ?_));refine Tl rfl rfl rfl rfl z45 RP (fun b1=>?_);refine Tl rfl rfl rfl rfl z38 Yt (fun b2=>?_);refine ao ?_;refine ao ?_;refine tp rfl (kg (zK) rfl rfl rfl rfl rfl rfl) ?_;refine ao ?_;refine Tl rfl rfl rfl rfl z45 RP (fun b3=>?_);refine sf 0 13 ⟨rfl,rfl,rfl⟩ rfl rfl rfl rfl ?_;refine ao ?_;refine wk [14,13,11,10,8,7,6,5,4,1] rfl ?_;refine an ?_ ?_<;>intro h1 q1
 exact absurd h1 AB;refine ac ?_;refine ao ?_;refine tp rfl (kc4 (gp) rfl rfl rfl rfl rfl) ?_;refine ao ?_;refine Tl rfl rfl rfl rfl z38 Yt (fun b4=>?_);refine sf 0 15 ⟨rfl,rfl,rfl⟩ rfl rfl rfl rfl ?_;refine ao ?_;refine wk [15,14,13,11,10,8,7,6,1] rfl ?_;refine an ?_ ?_<;>intro h2 q2
 exact absurd h2 AB;refine a2 ?_;refine co rfl (kg (Zs) rfl rfl rfl rfl rfl rfl) ?_;refine ac ?_;refine wk [16,15,14,13,11,10] rfl (Tr.seq (Tr.rx ?_));refine ay ?_;refine Cx.yes rfl rfl rfl rfl rfl AB (fun _=>BX rfl vq) (Cx.yes rfl rfl rfl rfl rfl AB (fun _=>BJ rfl underlying22 vq) (Cx.yes rfl rfl rfl rfl rfl AB (fun _=>ki rfl rfl rfl rfl) ?_));refine ay ?_;refine Cx.nil ⟨by kernel_rfl,?_⟩;refine BG.done WN (Fin.go (wk [12,11,10] rfl (Tr.ret (Fin.EY rfl (AL.cell 1 rfl rfl TG U6 rfl Lr) (AL.cell 0 rfl rfl Wm j5 rfl Lr) (AL.tmp rfl Lr) ?_))))
 .repeat' first|exact Lr|refine BU ⟨?_,?_,?_,trivial⟩
theorem tg:Aq Tryz.prog 67 ([slice 2 []]++[ref (CF CN),ref [slice 3 [],slice 1 [],slice 1 []],ref [slice 8 []],ref [int 0],ref [int 1],ref [slice 6 [],slice 2 []],ref [slice 7 []],ref [slice 1 [],int 0]]) (EB [Oe,nR,bool true]):=zL
theorem gq   :Aq prog 36 [agg (CF CN),gY,slice 8 [],yz,slice 7 [],ADc,int 0,int 1] (EB [Oe,nR,int 0]):=by
 refine fo func36 rfl ⟨rfl,rfl⟩ fun M0 w0=>(Tr.seq (Tr.At (tp rfl (BE rfl CM) (tp rfl (BE rfl CM) (tp rfl (BE rfl Cf) (tp rfl (BE rfl CM) (tp rfl (BE rfl Cf) (tp rfl (BE rfl CM) (tp rfl (BE rfl Cf) (tp rfl (BE rfl Cf) ?_))))))))));refine Tl rfl rfl rfl rfl z45 RP (fun b1=>?_);refine Tl rfl rfl rfl rfl z38 Yt (fun b2=>?_);refine ao ?_;refine ac ?_;refine wk [19,17,16,15,14,13,12,11,10,9,8] rfl ?_;refine ac ?_;refine co rfl (BS (FP (Mk.fits AA)) rfl rfl) ?_;refine ac ?_;refine wk [41,19,17,16,15,14,13,12,11,10,9,8] rfl ?_;refine Tr.cn rfl ?_ ?_<;>intro h1 q1
 exact absurd h1 AB;refine ac ?_;refine ac ?_;refine co rfl (CG (Of) rfl rfl rfl) ?_;refine ac ?_;refine wk [20,19,17,16,15,14,13,12,11,10,9,8] rfl ?_;refine ac ?_;refine wk [53,20,19,17,16,15,14,13,12,11,10,9,8] rfl ?_;refine Tr.cn rfl ?_ ?_<;>intro h2 q2
 exact absurd h2 AB;refine ac ?_;refine ac ?_;refine co rfl (CG (nW) rfl rfl rfl) ?_;refine ac ?_;refine wk [22,19,17,16,15,14,13,12,11,10,9,8] rfl ?_;refine ac ?_;refine wk [67,22,19,17,16,15,14,13,12,11,10,9,8] rfl ?_;refine Tr.cn rfl ?_ ?_<;>intro h3 q3
 exact absurd h3 AB;refine ac ?_;refine ac ?_;refine co rfl (BS (T4) rfl rfl) ?_;refine ac ?_;refine wk [74,19,17,16,15,14,13,12,11,10,9,8] rfl ?_;refine Tr.cn rfl ?_ ?_<;>intro h4 q4
 exact absurd h4 AB;refine ac ?_;refine co rfl (Aa rfl (nT) ⟨kq,⟨_,rfl,FF _⟩,trivial⟩) ?_;refine ac ?_;refine wk [83,19,17,16,15,14,13,12,11,10,9,8] rfl ?_;refine Tr.cn rfl ?_ ?_<;>intro h5 q5
 exact absurd h5 AB;refine ac ?_;refine co rfl (BS (IM) rfl rfl) (co rfl (KG rfl vq) (cm rfl ?_));refine Ch.cs 95 rfl ?_ ?_<;>intro h6 q6
 exact absurd h6 AB;refine cy h6 rfl (FO rfl DP rfl) (cy h6 rfl (BS (IM) rfl rfl) ?_);refine ac ?_;refine wk [91,19,17,16,15,14,13,12,11,10,9,8] rfl ?_;refine Tr.cn rfl ?_ ?_<;>intro h7 q7
 exact absurd h7 AB;refine ac ?_;refine ac ?_;refine wk [23,19,17,16,15,14,10,8] rfl ?_;refine ac ?_;refine co rfl (CG (zH) rfl rfl rfl) ?_;refine ac ?_;refine wk [24,23,19,17,16,15,14,10,8] rfl ?_;refine ao ?_;refine tp rfl (kY rfl vq (tg) kz) ?_;refine ao ?_;refine Tl rfl rfl rfl rfl z45 RP (fun b3=>?_);refine Tl rfl rfl rfl rfl z38 Yt (fun b4=>?_);refine sf 1 26 ⟨rfl,rfl,rfl⟩ rfl rfl rfl rfl ?_;refine sf 0 27 ⟨rfl,rfl,rfl⟩ rfl rfl rfl rfl ?_;refine ao ?_;refine wk [28,27,26,23,19,17,16,15,14,10,8] rfl ?_;refine ac ?_;refine Tr.cn rfl ?_ ?_<;>intro h8 q8
 refine Tr.seq (Tr.rx ?_);refine ay ?_;refine Cx.nil ⟨by kernel_rfl,?_⟩;refine BG.done WN (Fin.go (wk [18,17,16] rfl (Tr.ret (Fin.AF (Fin.EY rfl (AL.cell 1 rfl rfl TG U6 rfl Lr) (AL.cell 0 rfl rfl Wm j5 rfl Lr) (AL.tmp rfl Lr) ?_)))));refine BU ⟨?_,?_,?_,trivial⟩
 .exact Lr
 .exact Lr
 .exact Lr
 exact absurd h8 AB
theorem gr   :Aq prog 42 [agg (CF CN),slice 8 [],slice 1 [],int 0,int 1] (bool true):=by
 refine fo func42 rfl ⟨rfl,rfl⟩ fun M0 w0=>?_;refine ac ?_;refine ao ?_;refine tp rfl (Wz (Ty (l:=[]) (s:=[]) Mk AA (fun c h=>by cases h)) rfl rfl rfl rfl) ?_;refine ao ?_;refine Tl rfl rfl rfl rfl z32 Iz (fun b1=>?_);refine sf 0 11 ⟨rfl,rfl,rfl⟩ rfl rfl rfl rfl ?_;refine ao ?_;refine ac ?_;refine wk [24,11,4,3] rfl ?_;refine Tr.cn rfl ?_ ?_<;>intro h1 q1
 exact absurd h1 AB;refine a2 ?_;refine Tr.block (Tr.D4 ?_);refine ac ?_;refine Tr.seq ?_;refine Tr.cn rfl ?_ ?_<;>intro h2 q2
 exact absurd h2 AB;have:=h2;refine a3 ?_
 .exact Lr
theorem gu   :Aq prog 18 [agg (CF CN),slice 8 [],slice 1 [],int 0,int 1] (EB [bool true,int 0]):=by
 refine fo func18 rfl ⟨rfl,rfl⟩ fun M0 w0=>?_;refine ac ?_;refine ac ?_;refine co rfl (BS (FP (Mk.fits AA)) rfl rfl) ?_;refine ac ?_;refine Tr.cn rfl ?_ ?_<;>intro h1 q1
 exact absurd h1 AB;refine ac ?_;refine co rfl (BJ rfl underlying42 vq) ?_;refine ac ?_;refine Tr.cn rfl ?_ ?_<;>intro h2 q2
 exact absurd h2 AB;refine ac ?_;refine ac ?_;refine co rfl (BJ rfl underlying42 vq) (cm rfl (co rfl (Aa rfl (Zo) ⟨kq,⟨_,rfl,AH _⟩,kz⟩) ?_));refine ac ?_;refine wk [13,5,4,3,2,1] rfl ?_;refine ac ?_;refine Tr.cn rfl ?_ ?_<;>intro h3 q3
 exact absurd h3 AB;refine ac ?_;refine ac ?_;refine co rfl (BS (IM) rfl rfl) (co rfl (KG rfl vq) (cm rfl ?_));refine Ch.cs 34 rfl ?_ ?_<;>intro h4 q4
 refine cnf h4 rfl (cnf h4 rfl (cnf h4 rfl (co rfl (Uz rfl rfl h4 rfl) (Ch.nil (Fin.go (wk6 1 2 3 4 5 38 rfl (Tr.cond rfl (fun _=>?_) (fun h=>nomatch h))))))));refine Tr.seq (Tr.Bo (cm rfl (cm rfl (Ch.nil (Fin.go (Tr.ret (Fin.AF (Fin.C_ rfl (CL.Eo _ _) rfl ?_ rfl ?_))))))))
 .exact F7
 .exact FT
 refine JW h4 rfl (cy h4 rfl (BS (IM) rfl rfl) ?_);refine ac ?_;refine wk [38,5,4,3,2,1] rfl ?_;refine Tr.cn rfl ?_ ?_<;>intro h5 q5
 exact absurd h5 AB;refine ac ?_;refine ac ?_;refine co rfl (kg (gr) rfl rfl rfl rfl rfl rfl) ?_;refine ac ?_;refine wk [11,10] rfl (Tr.ret (Fin.C_ rfl (CL.Eo _ _) rfl ?_ rfl ?_))
 .exact Lr
 .exact Lr
theorem nh{rows:List (List Pr)}(hr:10<rows.length):Aq prog 17 [agg (CF CN),slice 8 rows,int 0,int 1] (EB [slice 1 [],int 3]):=by
 refine fo func17 rfl ⟨rfl,rfl⟩ fun M0 w0=>?_;refine a2 ?_;refine co rfl (BS (FP (Mk.fits AA)) rfl rfl) ?_;refine an ?_ ?_<;>intro h1 q1
 exact absurd h1 AB;refine ac ?_;refine co rfl (BJ rfl underlying42 vq) ?_;refine ac ?_;refine wk [17,7,6,5,4] rfl ?_;refine Tr.cn rfl ?_ ?_<;>intro h2 q2
 refine ac ?_;refine Tr.ret (Fin.Ak (Fin.AF (Fin.C_ rfl (CL.Eo _ _) rfl ?_ rfl ?_)))
 .exact AH 1
 .exact Lr
 exfalso;have:=q2;omega
theorem V2   :Aq prog 15 [] (bool true):=by
 refine fo func15 rfl ⟨rfl,rfl⟩ fun M0 w0=>?_;refine ac ?_;refine ao ?_;refine tp rfl (Aa rfl (gq) ⟨⟨_,rfl,Az ⟨AH 9,AH 2,AH 5,trivial⟩⟩,⟨_,rfl,Az ⟨AH 3,AH 1,AH 1,trivial⟩⟩,⟨_,rfl,AH _⟩,⟨_,rfl,Az ⟨AH 6,AH 2,trivial⟩⟩,⟨_,rfl,AH _⟩,⟨_,rfl,Az ⟨AH 1,Lr,trivial⟩⟩,kz⟩) ?_;refine ao ?_;refine Tl rfl rfl rfl rfl z45 RP (fun b1=>?_);refine Tl rfl rfl rfl rfl z38 Yt (fun b2=>?_);refine sf 1 1 ⟨rfl,rfl,rfl⟩ rfl rfl rfl rfl ?_;refine sf 0 2 ⟨rfl,rfl,rfl⟩ rfl rfl rfl rfl ?_;refine ao ?_
 .repeat' first|exact Lr|exact absurd h AB|refine co rfl (KU (m:=11) rfl underlying42 CD TI I3 rfl AB AB ⟨_,rfl,int_eq rfl⟩ ⟨_,rfl,int_eq rfl⟩ AB AB) ?_|refine co rfl (Aa rfl (nh (rows:=List.replicate 11 (([.int .i64 0,.int .i64 0,.int .i64 0,.int .i64 0,.int .i64 0,.int .i64 0,.int .i64 0,.slice none 0 0]:List Value).map is)) AB) ⟨⟨_,rfl,Az ⟨AH 9,AH 2,AH 5,trivial⟩⟩,⟨_,rfl,A_ 8 _⟩,kz⟩) ?_|refine co rfl (Aa rfl (gu) ⟨⟨_,rfl,Az ⟨AH 9,AH 2,AH 5,trivial⟩⟩,⟨_,rfl,AH _⟩,⟨_,rfl,AH _⟩,kz⟩) ?_|refine cy h rfl (BJ rfl underlying42 vq) ?_|refine cy h rfl (BJ rfl underlying36 vq) ?_|refine ac ?_|(refine Ch.cg rfl rfl rfl ?_ ?_<;>intro h q)
end Go.Proofs.YthommhphcagokaaGreatDoor
namespace Go.Proofs.YthommhphcagokaaGreatDoor
open Go Go.RowKit Cp Go.ChangeShapes Go.WideShapes Go.ChangeAt Go.Proofs.Tryz
theorem gv{n:Nat}(hn:n<=1000):Aq prog 19 [int ((n:Nat):Int)] (ints (Fl n)):=by
 refine fo func19 rfl ⟨rfl,rfl⟩ fun M0 w0=>?_;refine a3 ?_;refine Tr.block (Tr.Dt 3 1 (Tr.Ez _ (kk [5] rfl) (fun k u=>[(6,int ((k:Nat):Int)),(3,Aj u (ints (Fl k)))]) (fun k u=>Hp M0 w0 Ju ([Bc 3 1 u])) (fun k:Nat=>k<=(n)) (fun k:Nat=>(n)-k) 0 (.slice none 0 0) (Nat.zero_le _) ⟨kq,⟨_,rfl,DA rfl⟩,trivial⟩ (fun _ _ h=>h) ?_));rintro k u BN;refine ac ?_;refine Tr.seq ?_;refine Tr.cn rfl ?_ ?_<;>intro h1 q1
 have Ae:k<(n):=AQ h1;refine a2 ?_;refine ap ?_;refine TO.EV 0 rfl rfl AB (FI rfl rfl rfl rfl underlying50 C4 RO z3 Ij Ec (CA BW E4)) (fun v1=>?_);refine ap ?_;refine ac ?_;exact Fin.EX (k+1) v1 (⟨Ae,by omega⟩) ⟨⟨_,rfl,AK k⟩,⟨_,rfl,CZ (by rw[gX,List.map_append];rfl)⟩,kz⟩ (fun _ _ h=>h);have BA:k=(n):=by have:=AU h1;omega
 subst BA;refine a3 ?_
 .exact HM
end Go.Proofs.YthommhphcagokaaGreatDoor
namespace Go.Proofs.YthommhphcagokaaGreatDoor
open Go Go.RowKit Cp Go.Proofs.Tryz
variable{I:Cj}{E:Env}{e:DY}{rows:List (List Pr)}{l s:List Int}{G:List Int->Bool}{i j k m:Nat}{o:Oper}{p:Pr}{P:Program}{v:Value}
structure G0 where
 fst:Int
 thn:Int
 deriving DecidableEq
def Lu(a b:G0):Bool:=if a.fst=b.fst then decide (a.thn<b.thn)else decide (a.fst<b.fst)
def Il(n:Int)(r:G0):Bool:=decide (r.fst<0\/r.thn<0\/n<=r.fst\/n<=r.thn\/r.fst=r.thn)
def Lw(l:List G0)(a b:Nat):Bool:=l.any fun r=>decide (r.fst=(a:Int))&&decide (r.thn=(b:Int))
def Sx(k:Nat)(m:Nat->Nat->Bool)(a b:Nat):Bool:=m a b||(m a k&&m k b)
def GW(l:List G0):Nat->Nat->Nat->Bool
 |0=>Lw l
 |k+1=>Sx k (GW l k)
theorem T5{l:List G0}{a b:Nat}(h:Lw l a b=true):∀k,GW l k a b=true
 |0=>h
 |k+1=>by show(_||_)=true;rw[T5 h k];rfl
theorem nj(k:Nat)(m:Nat->Nat->Bool)(a:Nat):Sx k m a k=m a k:=by unfold Sx;cases m a k<;>simp
def th(n:Nat)(l:List G0):Bool:=(List.range n).any fun i=>GW l n i i
def HT:List G0->Bool
 |[]=>true
 |[_]=>true
 |a::b::l=>Lu a b&&HT (b::l)
def C7(n:Int)(l:List G0):Int:=
 if n<0\/24<n then 2 else if l.any (Il n)then 44 else if HT l=false then 6 else if th n.toNat l then 45 else 0
def GP(s:List Int)(n:Int):Bool:=s.any fun x=>n==x
theorem Kk{n:Int}:GP s n=true↔n∈s:=by grind [GP]
def Jn(l:List G0)(s:List Int):Bool:=l.all fun r=> !(GP s r.thn)||GP s r.fst
theorem Kl{l:List G0}:Jn l s=true↔∀r∈l,r.thn∈s->r.fst∈s:=by grind [Jn,Kk]
def De(n:Int)(has:Bool)(p:List Int×Bool)(x:Int):List Int×Bool:=
 if x=n then(if has=true/\p.2=false/\n<x then(p.1++[n],true)else p)else if has=true/\p.2=false/\n<x then(p.1++[n]++[x],true)else(p.1++[x],p.2)
def wall(n:Int)(has:Bool)(s:List Int):List Int×Bool:=s.foldl (De n has) ([],false)
def C8(s:List Int)(n:Int)(has:Bool):List Int:=if has=true/\(wall n has s).2=false then(wall n has s).1++[n]else(wall n has s).1
theorem gw(n:Int)(has:Bool)(s:List Int)(x:Int):wall n has (s++[x])=De n has (wall n has s) x:=by unfold wall;rw[List.foldl_append];rfl
theorem Xk{n:Int}{has:Bool}{x:Int}:∀{s:List Int} {p:List Int×Bool},(x∈(s.foldl (De n has) p).1/\x≠n)↔((x∈p.1\/x∈s)/\x≠n)
 |[],p=>by simp
 |y::s,p=>by
  rw[List.foldl_cons,Xk];unfold De
  by_cases h1:x=n
  .subst h1;simp
  .
   repeat' split
   all_goals (try subst y);simp[h1,or_assoc]
theorem Xl{n:Int}{has:Bool}:∀{s:List Int} {p:List Int×Bool},(p.2=true->n∈p.1)->(p.2=false->n∉p.1)->(((s.foldl (De n has) p).2=true->n∈(s.foldl (De n has) p).1)/\((s.foldl (De n has) p).2=false->n∉(s.foldl (De n has) p).1))
 |[],p,h,h'=>⟨h,h'⟩
 |y::s,p,h,h'=>by
  rw[List.foldl_cons]
  apply Xl
  .
   unfold De;intro h2
   repeat' split at h2
   all_goals (repeat' split)<;>simp_all
  .
   unfold De;intro h2
   repeat' split at h2
   all_goals (repeat' split)<;>simp_all<;>omega
theorem Og{n x:Int}:x∈C8 s n true↔x=n\/x∈s:=by grind [Xk,Xl,C8,wall]
theorem Xm{n:Int}{has:Bool}:∀{s:List Int} {p:List Int×Bool},(s.foldl (De n has) p).1.length+(if(s.foldl (De n has) p).2 then 0 else 1)<=p.1.length+(if p.2 then 0 else 1)+s.length
 |[],p=>Nat.le_refl _
 |y::s,p=>by
  rw[List.foldl_cons];refine Nat.le_trans Xm ?_;unfold De
  repeat' split
  all_goals (simp_all<;>omega)
theorem Xn{n:Int}{l:List G0}(h:C7 n l=0):(0<=n/\n<=24)/\(∀r∈l,Il n r=false)/\HT l=true/\∀i,i<n.toNat->GW l n.toNat i i=false:=by
 unfold C7 at h
 split at h
 .cases h
 next h1=>
 split at h
 .cases h
 next h2=>
 split at h
 .cases h
 next h3=>
 split at h
 .cases h
 next h4=>
 refine⟨by omega,fun r hr=>?_,by simpa using h3,fun i hi=>?_⟩
 .grind
 .
  cases hb:GW l n.toNat i i with
  |false=>rfl
  |true=>exact absurd (show(List.range n.toNat).any (fun i=>GW l n.toNat i i)=true from List.any_eq_true.2 ⟨i,List.mem_range.2 hi,hb⟩) h4
theorem dm:∀{L M:List Int},L.Nodup->(∀x∈L,x∈M)->L.length<=M.length
 |[],_,_,_=>Nat.zero_le _
 |x::L,M,hn,hs=>by
  rw[List.nodup_cons]at hn;have h:=dm (L:=L) (M:=M.erase x) hn.2 (fun y hy=>(List.mem_erase_of_ne (fun e=>hn.1 (by rw[←e];exact hy))).2 (hs y (List.mem_cons_of_mem _ hy)));have hx:=hs x Ai;rw[List.length_erase_of_mem hx]at h;have:=List.length_pos_of_mem hx;simp;omega
structure tj(n:Int)(l:List G0)(out done:List Int):Prop where
 mem:∀x,x∈done↔x∈out
 nd:out.Nodup
 rng:∀x∈out,0<=x/\x<n
 cl:Jn l done=true
 AHj:∀(k:Nat) x,out[k]? =some x->∀r∈l,r.thn=x->r.fst∈out.take k
theorem tj.nil{n:Int}{l:List G0}:tj n l [] []:=⟨fun x=>Iff.rfl,List.nodup_nil,(fun x h=>by cases h),(Kl.2 fun r _ h=>by cases h),(fun k x h=>by simp at h)⟩
theorem tj.len{n:Int}{l:List G0}{out done:List Int}(h:tj n l out done):out.length<=n.toNat:=by
 have:=dm (L:=out) (M:=(List.range n.toNat).map fun i:Nat=>(i:Int)) h.nd (fun x hx=>by have:=h.rng x hx;exact List.mem_map.2 ⟨x.toNat,List.mem_range.2 AA,by omega⟩)
 simpa using this
theorem SB{l:List G0}:HT l=true↔∀j a b,l[j]? =some a->l[j+1]? =some b->Lu a b=true:=by
 induction l with
 |nil=>exact⟨fun _ j a b h=>by simp at h,fun _=>rfl⟩
 |cons x l ih=>
  cases l with
  |nil=>exact⟨fun _ j a b _ h=>by simp at h,fun _=>rfl⟩
  |cons y l=>
   unfold HT;rw[Bool.and_eq_true,ih];refine⟨fun⟨h1,h2⟩ j a b ha hb=>?_,fun h=>⟨h 0 x y rfl rfl,fun j a b ha hb=>h (j+1) a b (by simpa using ha) JP⟩⟩;cases j with
   |zero=>simp at ha hb;subst ha;subst hb;exact h1
   |succ j=>exact h2 j a b (by simpa using ha) JP
theorem SC{x:Int}:∀(s q:List Int),x∉s->s.foldl (De x true) (q,true)=(q++s,true)
 |[],q,_=>by simp
 |y::s,q,h=>by
  have hy:y≠x:=fun e=>h (by rw[e];exact List.mem_cons_self ..);rw[List.foldl_cons,show De x true (q,true) y=(q++[y],true)by unfold De;rw[if_neg hy];simp];rw[SC s (q++[y]) (fun hh=>h (List.mem_cons_of_mem _ hh))];simp
theorem dn{x:Int}:∀(s acc:List Int),(acc++s).Pairwise (· < ·)->x∉s->(∀y∈acc,y<x)->(if(s.foldl (De x true) (acc,false)).2=false then(s.foldl (De x true) (acc,false)).1++[x]else(s.foldl (De x true) (acc,false)).1).Pairwise (· < ·)
 |[],acc,h,_,ha=>by
  simp only[List.foldl_nil,if_true];rw[List.append_nil]at h;rw[List.pairwise_append];exact⟨h,List.pairwise_singleton _ _,fun a h1 b h2=>by rw[List.mem_singleton]at h2;subst h2;exact ha a h1⟩
 |y::s,acc,h,hx,ha=>by
  have hy:y≠x:=fun e=>hx (by rw[e];exact List.mem_cons_self ..);have hxs:x∉s:=fun hh=>hx (List.mem_cons_of_mem _ hh);rw[List.foldl_cons];rcases Int.lt_or_le x y with hxy|hxy
  .
   rw[show De x true (acc,false) y=(acc++[x]++[y],true)by unfold De;rw[if_neg hy,if_pos ⟨rfl,rfl,hxy⟩],SC s _ hxs];rw[if_neg Ai];simp only[List.append_assoc,List.singleton_append];rw[List.pairwise_append]at h ⊢;obtain⟨h1,h2,h3⟩:=h;rw[List.pairwise_cons]at h2;refine⟨h1,List.pairwise_cons.2 ⟨fun b hb=>?_,List.pairwise_cons.2 h2⟩,fun a h4 b h5=>?_⟩
   .
    rcases List.mem_cons.1 hb with rfl|hb
    .exact hxy
    .exact Int.lt_trans hxy (h2.1 b hb)
   .
    rcases List.mem_cons.1 h5 with rfl|h5
    .exact ha a h4
    .exact h3 a h4 b h5
  .
   have hlt:y<x:=by omega
   rw[show De x true (acc,false) y=(acc++[y],false)by unfold De;rw[if_neg hy,if_neg (fun hh=>by have:=hh.2.2;omega)]];refine dn s (acc++[y]) (by rw[List.append_assoc];exact h) hxs fun b hb=>?_;rcases List.mem_append.1 hb with hb|hb
   .exact ha b hb
   .rw[List.mem_singleton]at hb;subst hb;exact hlt
theorem SD{x:Int}(h:s.Pairwise (· < ·))(hx:x∉s):(C8 s x true).Pairwise (· < ·):=by grind [dn,C8,wall]
theorem Zt{n:Nat}(hp:s.Pairwise (· < ·))(hr:∀x∈s,0<=x/\x<(n:Int)):D6 (n:Int) s=true:=by
 unfold D6;rw[B0];intro j hj;have h1:=hr _ (List.getElem_mem hj);unfold setAt;rw[List.getElem?_eq_getElem hj];simp only[Option.getD_some,Bool.and_eq_true,Bool.or_eq_true,decide_eq_true_eq];refine⟨h1,?_⟩;rcases Nat.eq_zero_or_pos j with h0|h0
 .exact .inl h0
 .
  right;rw[List.getElem?_eq_getElem (show j-1<s.length by omega)];exact List.pairwise_iff_getElem.1 hp (j-1) j AA hj AA
theorem Zu:∀{a b:List Int},a.Pairwise (· < ·)->b.Pairwise (· < ·)->(∀x,x∈a↔x∈b)->a=b
 |[],[],_,_,_=>rfl
 |[],y::b,_,_,h=>by have:=(h y).2 (List.mem_cons_self ..);cases this
 |x::a,[],_,_,h=>by have:=(h x).1 (List.mem_cons_self ..);cases this
 |x::a,y::b,ha,hb,h=>by
  obtain⟨ha1,ha2⟩:=List.pairwise_cons.1 ha;obtain⟨N0,bU⟩:=List.pairwise_cons.1 hb
  have hxy:x=y:=by
   rcases List.mem_cons.1 ((h x).1 (List.mem_cons_self ..))with h1|h1
   .exact h1
   .
    rcases List.mem_cons.1 ((h y).2 (List.mem_cons_self ..))with h2|h2
    .exact h2.symm
    .have:=N0 x h1;have:=ha1 y h2;omega
  subst hxy;rw[Zu ha2 bU fun z=>?_];constructor
  .
   intro hz;rcases List.mem_cons.1 ((h z).1 (List.mem_cons_of_mem _ hz))with h1|h1
   .have:=ha1 z hz;omega
   .exact h1
  .
   intro hz;rcases List.mem_cons.1 ((h z).2 (List.mem_cons_of_mem _ hz))with h1|h1
   .have:=N0 z hz;omega
   .exact h1
theorem T6{n:Int}:∀{s:List Int} {p:List Int×Bool},n∉s->(s.foldl (De n true) p).1.length+(if p.2 then 1 else 0)=p.1.length+s.length+(if(s.foldl (De n true) p).2 then 1 else 0)
 |[],p,_=>rfl
 |y::s,p,h=>by
  rw[List.mem_cons,not_or]at h;have ih:= @T6 n s (De n true p y) h.2;rw[List.foldl_cons];have hy:¬y=n:=fun e=>h.1 e.symm
  have e1:(De n true p y).1.length+(if p.2 then 1 else 0)=p.1.length+1+(if(De n true p y).2 then 1 else 0):=by
   unfold De;rw[if_neg hy];cases p.2<;>by_cases h2:n<y<;>simp[h2]
  rw[List.length_cons];omega
theorem Hu{n:Int}(h:n∉s):(C8 s n true).length=s.length+1:=by grind [T6,C8,wall,De]
def Cv(G:List Int->Bool)(n:Nat):Nat->List Int->Bool
 |0,s=>G s
 |m+1,s=>G s&&(List.range n).any fun i=> !GP s (i:Int)&&Cv G n m (C8 s (i:Int) true)
def Km(G:List Int->Bool)(n:Nat):Nat->List Int->List Int
 |0,_=>[]
 |m+1,s=>match (List.range n).find? fun i:Nat=> !GP s (i:Int)&&Cv G n m (C8 s (i:Int) true)with
  |some i=>(i:Int)::Km G n m (C8 s (i:Int) true)
  |none=>[]
def gy(n:Nat)(s:List Int):Prop:=s.Pairwise (· < ·)/\∀x∈s,0<=x/\x<(n:Int)
theorem nk{G:List Int->Bool}{n:Nat}:∀{m:Nat} {s:List Int},Cv G n m s=true->G s=true
 |0,_,h=>h
 |_+1,_,h=>by unfold Cv at h;rw[Bool.and_eq_true]at h;exact h.1
theorem nq{n:Nat}(h:G s=false):Cv G n m s=false:=by
 cases hf:Cv G n m s with
 |false=>rfl
 |true=>rw[nk hf]at h;cases h
theorem Xo{n:Nat}(h:∀i,i<n->GP s (i:Int)=true\/Cv G n m (C8 s (i:Int) true)=false):Cv G n (m+1) s=false:=by
 unfold Cv;rw[Bool.and_eq_false_iff];right;rw[List.any_eq_false];intro i hi;rcases h i (List.mem_range.1 hi)with h|h<;>rw[h]<;>simp
theorem find_range{p:Nat->Bool}{i:Nat}:∀{n:Nat},i<n->p i=true->(∀j,j<i->p j=false)->(List.range n).find? p=some i
 |0,h,_,_=>absurd h (Nat.not_lt_zero _)
 |n+1,h,hp,hn=>by
  rw[List.range_succ,List.find?_append];rcases Nat.lt_or_ge i n with h1|h1
  .rw[find_range h1 hp hn];rfl
  .
   obtain rfl:i=n:=by omega
   rw[List.find?_eq_none.2 (fun j hj=>by rw[hn j (List.mem_range.1 hj)];decide)];simp[hp]
theorem Qh{n:Nat}(hg:G s=true)(hi:i<n)(hs:GP s (i:Int)=false)(hf:Cv G n m (C8 s (i:Int) true)=true)(hn:∀j,j<i->GP s (j:Int)=true\/Cv G n m (C8 s (j:Int) true)=false):
  Cv G n (m+1) s=true/\Km G n (m+1) s=(i:Int)::Km G n m (C8 s (i:Int) true):=by
 have h1:=find_range (p:=fun i:Nat=> !GP s (i:Int)&&Cv G n m (C8 s (i:Int) true)) hi (by simp[hs,hf]) (fun j hj=>by rcases hn j hj with h|h<;>simp[h]);constructor
 .
  unfold Cv;rw[hg,Bool.true_and,List.any_eq_true];exact⟨i,List.mem_range.2 hi,by simp[hs,hf]⟩
 .
  show(match (List.range n).find? fun i:Nat=> !GP s (i:Int)&&Cv G n m (C8 s (i:Int) true)with|some i=>(i:Int)::Km G n m (C8 s (i:Int) true)|none=>[])=_;rw[h1]
theorem PT{p:Nat->Bool}:∀{n:Nat},(List.range n).any p=true->∃i,i<n/\p i=true/\∀j,j<i->p j=false
 |0,h=>by cases h
 |n+1,h=>by
  rw[List.range_succ,List.any_append,Bool.or_eq_true]at h;cases h1:(List.range n).any p with
  |true=>obtain⟨i,hi,hp,hn⟩:=PT h1;exact⟨i,by omega,hp,hn⟩
  |false=>
   rw[h1]at h;refine⟨n,Nat.lt_succ_self n,by simpa using h,fun j hj=>?_⟩;rw[List.any_eq_false]at h1;have:=h1 j (List.mem_range.2 hj)
   simpa using this
theorem Xp{n:Nat}(h:Cv G n (m+1) s=true):∃i:Nat,i<n/\GP s (i:Int)=false/\Cv G n m (C8 s (i:Int) true)=true/\(∀j:Nat,j<i->GP s (j:Int)=true\/Cv G n m (C8 s (j:Int) true)=false)/\
  Km G n (m+1) s=(i:Int)::Km G n m (C8 s (i:Int) true):=by
 have h0:=nk h;have h1:=h;unfold Cv at h1;rw[h0,Bool.true_and]at h1;obtain⟨i,hi,hp,hn⟩:=PT h1;rw[Bool.and_eq_true,Bool.not_eq_true']at hp
 have hn2:∀j:Nat,j<i->GP s (j:Int)=true\/Cv G n m (C8 s (j:Int) true)=false:=fun j hj=>by
  have:=hn j hj;rw[Bool.and_eq_false_iff,Bool.not_eq_false']at this;exact this
 exact⟨i,hi,hp.1,hp.2,hn2,(Qh h0 hi hp.1 hp.2 hn2).2⟩
theorem V3{G:List Int->Bool}{n:Nat}:∀{m:Nat} {s:List Int},Cv G n m s=true->(Km G n m s).length=m
 |0,_,_=>rfl
 |m+1,s,h=>by
  obtain⟨i,_,_,hf,_,ho⟩:=Xp h;rw[ho,List.length_cons,V3 hf]
def Jo(o:List Int):Nat->List Int
 |0=>[]
 |k+1=>match o[k]? with
  |none=>Jo o k
  |some i=>C8 (Jo o k) i true
theorem SE{o:List Int}{i:Int}(h:o[k]? =some i):Jo o (k+1)=C8 (Jo o k) i true:=by simp only[Jo,h]
structure Xq(G:List Int->Bool)(n:Nat)(o:List Int)(k:Nat):Prop where
 set:gy n (Jo o k)
 len:(Jo o k).length=k
 fin:Cv G n (n-k) (Jo o k)=true
 rest:o.drop k=Km G n (n-k) (Jo o k)
theorem LN{n:Nat}{i:Int}(h:gy n s)(hi:0<=i/\i<(n:Int))(hs:GP s i=false):gy n (C8 s i true):=
 ⟨SD h.1 (fun hm=>by rw[Kk.2 hm]at hs;cases hs),fun x hx=>by rcases Og.1 hx with rfl|hx;exact hi;exact h.2 x hx⟩
theorem LO{i:Int}(h:GP s i=false):i∉s:=fun hm=>by rw[Kk.2 hm]at h;cases h
theorem tq{n:Nat}(h:Cv G n n []=true):Xq G n (Km G n n []) 0:=⟨⟨.nil,fun x hx=>by cases hx⟩,rfl,h,rfl⟩
theorem Zv{n:Nat}{o:List Int}{x:Int}(h:Xq G n o k)(hx:o[k]? =some x):∃i:Nat,x=(i:Int)/\i<n/\k<n/\GP (Jo o k) (i:Int)=false/\
  (∀j:Nat,j<i->GP (Jo o k) (j:Int)=true\/Cv G n (n-(k+1)) (C8 (Jo o k) (j:Int) true)=false)/\G (Jo o (k+1))=true/\Xq G n o (k+1):=by
 have hk:=A7 hx;have hl:(o.drop k).length=n-k:=by rw[h.rest,V3 h.fin]
 rw[List.length_drop]at hl;have hkn:n-k=(n-(k+1))+1:=by omega
 have hf:=h.fin;have hr:=h.rest;rw[hkn]at hf hr;obtain⟨i,hi,hs,OS,hn,ho⟩:=Xp hf;rw[ho,List.drop_eq_getElem_cons hk]at hr;have hxi:o[k]=x:=by rw[List.getElem?_eq_getElem hk]at hx;exact Option.some.inj hx
 have h1:x=(i:Int):=by rw[←hxi];exact(List.cons.inj hr).1
 have hp:Jo o (k+1)=C8 (Jo o k) (i:Int) true:=by rw[SE hx,h1]
 refine⟨i,h1,hi,by omega,hs,hn,by rw[hp];exact nk OS,?_,?_,?_,?_⟩
 .rw[hp];exact LN h.set ⟨by omega,by omega⟩ hs
 .rw[hp,Hu (LO hs),h.len]
 .rw[hp];exact OS
 .rw[hp];exact(List.cons.inj hr).2
-- the order of the list
theorem Kn{n:Nat}{x:Int}:x∈Fl n↔0<=x/\x<(n:Int):=by
 unfold Fl;rw[List.mem_map];constructor
 .rintro⟨i,hi,rfl⟩;have:=List.mem_range.1 hi;omega
 .intro h;exact⟨x.toNat,List.mem_range.2 AA,by omega⟩
theorem SF(n:Nat):(Fl n).Pairwise (· < ·):=by
 unfold Fl;rw[List.pairwise_map];exact List.pairwise_lt_range.imp (fun h=>by omega)
theorem T7(k:Nat):C8 (Fl k) (k:Int) true=Fl (k+1):=by
 refine Zu (SD (SF k) (fun h=>by have:=(Kn.1 h).2;omega)) (SF _) fun x=>?_;rw[Og,Kn,Kn];omega
theorem Xr:GP (Fl k) (j:Int)=decide (j<k):=by
 rw[Bool.eq_iff_iff,Kk,Kn,decide_eq_true_iff];omega
theorem Nn{G:List Int->Bool}{n:Nat}(h:∀i,i<=n->G (Fl i)=true):∀(m k:Nat),k+m=n->Cv G n m (Fl k)=true/\Fl k++Km G n m (Fl k)=Fl n
  |0,k,hk=>by
    obtain rfl:k=n:=by omega
    exact⟨h k AA,List.append_nil _⟩
  |m+1,k,hk=>by
    obtain⟨h1,h2⟩:=Nn h m (k+1) AA;rw[←T7]at h1;have:=Qh (h k AA) (show k<n by omega) (by rw[Xr];simp) h1 (fun j hj=> .inl (by rw[Xr];simpa using hj));refine⟨this.1,?_⟩;rw[this.2,T7,←h2];unfold Fl;rw[List.range_succ,List.map_append,List.append_assoc];rfl
theorem Np{n:Nat}(h:∀i,i<=n->G (Fl i)=true):Cv G n n []=true/\Km G n n []=Fl n:=by
 have:=Nn h n 0 AA;exact⟨this.1,by simpa[Fl]using this.2⟩
-- sets by their bits
def FQ(n m:Nat):List Int:=((List.range n).filter fun i=>m.testBit i).map fun i:Nat=>(i:Int)
theorem V4{n:Nat}{x:Int}:x∈FQ n m↔0<=x/\x<(n:Int)/\m.testBit x.toNat=true:=by
 unfold FQ;rw[List.mem_map];constructor
 .
  rintro⟨i,hi,rfl⟩;obtain⟨h1,h2⟩:=List.mem_filter.1 hi;have:=List.mem_range.1 h1;exact⟨by omega,by omega,by simpa using h2⟩
 .
  rintro⟨h1,h2,h3⟩;exact⟨x.toNat,List.mem_filter.2 ⟨List.mem_range.2 AA,h3⟩,by omega⟩
theorem Qi{n:Nat}(h:i<n):GP (FQ n m) (i:Int)=m.testBit i:=by
 rw[Bool.eq_iff_iff,Kk,V4,Int.toNat_natCast];exact⟨fun h=>h.2.2,fun h'=>⟨by omega,by omega,h'⟩⟩
theorem dw(n m:Nat):(FQ n m).Pairwise (· < ·):=by
 unfold FQ;rw[List.pairwise_map];exact(List.pairwise_lt_range.filter _).imp (fun h=>by omega)
theorem Nq(n:Nat):FQ n 0=[]:=by
 unfold FQ;rw[List.filter_eq_nil_iff.2 (fun i _=>by simp)];rfl
theorem Xs(k m:Nat):FQ (k+1) m=if m.testBit k then FQ k m++[(k:Int)]else FQ k m:=by
 unfold FQ;rw[List.range_succ,List.filter_append];cases h:m.testBit k<;>simp[h]
theorem zM:(m|||2 ^ i).testBit j=(m.testBit j||decide (i=j)):=by
 rw[Nat.testBit_or,Nat.testBit_two_pow]
theorem Nr{n:Nat}(hi:i<n)(h:m.testBit i=false):C8 (FQ n m) (i:Int) true=FQ n (m|||2 ^ i):=by
 have hno:(i:Int)∉FQ n m:=LO (by rw[Qi hi,h]);refine Zu (SD (dw n m) hno) (dw _ _) fun x=>?_;rw[Og,V4,V4,zM,Bool.or_eq_true,decide_eq_true_iff];constructor
 .
  rintro(rfl|⟨h1,h2,h3⟩)
  .exact⟨by omega,by omega,.inr AA⟩
  .exact⟨h1,h2,.inl h3⟩
 .
  rintro⟨h1,h2,h3|h3⟩
  .exact .inr ⟨h1,h2,h3⟩
  .exact .inl AA
theorem dx(n m:Nat):(FQ n m).length<=n:=by
 unfold FQ;rw[List.length_map];exact Nat.le_trans (List.length_filter_le _ _) (by rw[List.length_range];exact Nat.le_refl _)
theorem V5{n:Nat}(hi:i<n)(h:m.testBit i=false):(FQ n (m|||2 ^ i)).length=(FQ n m).length+1:=by
 rw[←Nr hi h];exact Hu (LO (by rw[Qi hi,h]))
def Lx(G:List Int->Bool)(n:Nat)(es:List (Int×Value)):Prop:=∀p∈es,∃b,p.2=Value.bool b/\(b=true->∃m:Nat,p.1=(m:Int)/\∀k,(FQ n m).length+k=n->Cv G n k (FQ n m)=false)
structure Su where
 code:Int
 x1:Int
 x2:Int
 s1:Int
 s2:Int
 c1:Int
 c2:Int
 m1:Int
 m2:Int
 lo:Int
 hi:Int
abbrev AGv:Pr:=Cp.ex fun l:List UInt8=>str l
abbrev CK(s:Su):List Pr:=[int s.code,AGv,int s.x1,int s.x2,int s.s1,int s.s2,int s.c1,int s.c2,int s.m1,int s.m2,int s.lo,int s.hi]
def pU:List Su:=[⟨1,10,0,5,0,14,128,19,0,1,2⟩,⟨2,10,0,5,0,14,128,20,0,1,3⟩,⟨3,10,0,5,0,15,168,20,0,1,3⟩,⟨4,11,1024,6,0,15,168,20,0,1,3⟩,⟨5,11,1024,5,0,15,168,20,0,1,3⟩,⟨6,10,0,5,0,16,128,20,0,1,3⟩,⟨7,11,2048,5,0,16,128,20,0,1,3⟩,⟨8,12,256,5,0,16,128,20,0,1,3⟩,⟨9,12,256,7,0,16,256,21,0,3,3⟩,⟨10,12,256,5,0,17,128,22,0,3,3⟩,⟨11,12,384,7,0,17,256,22,0,3,3⟩,⟨12,12,256,5,0,18,0,22,0,3,3⟩,⟨13,10,0,5,0,17,256,22,0,3,3⟩,⟨14,12,256,0,0,17,128,22,0,4,4⟩,⟨15,12,256,0,0,18,0,22,0,4,4⟩,⟨16,13,768,0,0,17,256,22,0,4,4⟩]
abbrev nr:Su:=⟨0,0,0,0,0,0,0,0,0,0,0⟩
def KD(code:Int):Bool:=decide (1<=code/\code<=16)
def Jz(code:Int):Su:=if KD code then pU[(code-1).toNat]?.getD nr else nr
theorem nu{code:Int}(h:1<=code/\code<=16):pU[(code-1).toNat]? =some (Jz code):=by
 obtain⟨x,hx⟩:=at_ (l:=pU) (k:=(code-1).toNat) (by show _<16;omega);unfold Jz KD;rw[if_pos (decide_eq_true h),hx];rfl
theorem Ce{a l m x1 y1 x2 y2 x3 y3 x4 y4:Int}{s:List UInt8}  :Aq prog 270 [int a,str s,agg [int x1,int y1],agg [int x2,int y2],agg [int x3,int y3],agg [int x4,int y4],int l,int m] (agg (CK ⟨a,x1,y1,x2,y2,x3,y3,x4,y4,l,m⟩)):=by
 refine Aq.of func270 rfl rfl Ag fun M0 w0=>?_;refine Tr.seq (Tr.At ?_)
 iterate 4 refine tp rfl (BE rfl (Va rfl)) ?_
 refine Tl rfl rfl rfl rfl LW GU (fun b1=>?_);refine TO.nil (Fin.go (Tr.seq (Tr.At (tm rfl (tm rfl ?_)))))
 iterate 4 refine tp rfl (AO rfl Be CR (vl rfl) rfl rfl) ?_
 refine tm rfl (tm rfl (tp rfl (Al (rows:=[(0,[_]),(1,[_]),(2,_),(3,_),(4,_),(5,_),(6,[_]),(7,[_])]) rfl TK GU ⟨⟨rfl,(Vo rfl)⟩,⟨⟨rfl,(Vo rfl)⟩,⟨⟨rfl,(Va rfl)⟩,⟨⟨rfl,(Va rfl)⟩,⟨⟨rfl,(Va rfl)⟩,⟨⟨rfl,(Va rfl)⟩,⟨⟨rfl,(Vo rfl)⟩,⟨⟨rfl,(Vo rfl)⟩,trivial⟩⟩⟩⟩⟩⟩⟩⟩ rfl) (TO.re 25 (agg (CK ⟨a,x1,y1,x2,y2,x3,y3,x4,y4,l,m⟩)) rfl (Az ⟨Lr,Co _ (Lr),Lr,Lr,Lr,Lr,Lr,Lr,Lr,Lr,Lr,Lr,trivial⟩) (TO.Ac 0 rfl rfl rfl (vl rfl) (Va rfl) rfl Dp rfl rfl (TO.nil (Fin.go (wk1 16 rfl (Tr.ret (Fin.B4 rfl (AL.cell 0 rfl rfl Fi Dp rfl (Lr)) ?_)))))))))
 .exact Lr
theorem Xt   :Aq prog 226 [] (slice 12 (pU.map CK)):=by
 refine fo func226 rfl ⟨rfl,rfl⟩ fun M0 w0=>?_;refine ac ?_;refine Tr.seq (Tr.At (tp rfl (CG (Bt) rfl rfl rfl) (tp rfl (CG (Bt) rfl rfl rfl) (tp rfl (Al (rows:=[]) rfl kD Cd trivial rfl) ?_))));refine Tl rfl rfl rfl rfl z75 Cd (fun b1=>?_);refine Tl rfl rfl rfl rfl z75 Cd (fun b2=>?_);refine Tl rfl rfl rfl rfl z75 Cd (fun b3=>?_);refine sf 2 1 ⟨rfl,rfl,rfl⟩ rfl rfl rfl rfl ?_;refine sf 1 2 ⟨rfl,rfl,rfl⟩ rfl rfl rfl rfl ?_;refine sf 0 3 ⟨rfl,rfl,rfl⟩ rfl rfl rfl rfl ?_;refine ao ?_;refine Tr.seq (Tr.At (tp rfl (CG (Bt) rfl rfl rfl) (tp rfl (CG (Bt) rfl rfl rfl) ?_)));refine Tl rfl rfl rfl rfl z75 Cd (fun b4=>?_);refine Tl rfl rfl rfl rfl z75 Cd (fun b5=>?_);refine sf 1 4 ⟨rfl,rfl,rfl⟩ rfl rfl rfl rfl ?_;refine sf 0 5 ⟨rfl,rfl,rfl⟩ rfl rfl rfl rfl ?_;refine ao ?_;refine wk [5,4,3,2,1] rfl (Tr.seq (Tr.At (tp rfl (CG (Bt) rfl rfl rfl) (tp rfl (CG (Bt) rfl rfl rfl) (tp rfl (CG (Bt) rfl rfl rfl) ?_)))));refine Tl rfl rfl rfl rfl z75 Cd (fun b6=>?_);refine Tl rfl rfl rfl rfl z75 Cd (fun b7=>?_);refine Tl rfl rfl rfl rfl z75 Cd (fun b8=>?_);refine sf 2 6 ⟨rfl,rfl,rfl⟩ rfl rfl rfl rfl ?_;refine sf 1 7 ⟨rfl,rfl,rfl⟩ rfl rfl rfl rfl ?_;refine sf 0 8 ⟨rfl,rfl,rfl⟩ rfl rfl rfl rfl ?_;refine ao ?_;refine wk [8,7,6,5,4,3,2,1] rfl (Tr.seq (Tr.At ?_))
 iterate 4 refine tp rfl (CG (Bt) rfl rfl rfl) ?_
 refine Tl rfl rfl rfl rfl z75 Cd (fun b9=>?_);refine Tl rfl rfl rfl rfl z75 Cd (fun b10=>?_);refine Tl rfl rfl rfl rfl z75 Cd (fun b11=>?_);refine Tl rfl rfl rfl rfl z75 Cd (fun b12=>?_);refine sf 3 9 ⟨rfl,rfl,rfl⟩ rfl rfl rfl rfl ?_;refine sf 2 10 ⟨rfl,rfl,rfl⟩ rfl rfl rfl rfl ?_;refine sf 1 11 ⟨rfl,rfl,rfl⟩ rfl rfl rfl rfl ?_;refine sf 0 12 ⟨rfl,rfl,rfl⟩ rfl rfl rfl rfl ?_;refine ao ?_;refine wk [12,11,10,9,8,7,6,5,4,3,2,1] rfl (Tr.seq (Tr.At (tp rfl (CG (Bt) rfl rfl rfl) (tp rfl (CG (Bt) rfl rfl rfl) ?_))));refine Tl rfl rfl rfl rfl z75 Cd (fun b13=>?_);refine Tl rfl rfl rfl rfl z75 Cd (fun b14=>?_);refine sf 1 13 ⟨rfl,rfl,rfl⟩ rfl rfl rfl rfl ?_;refine sf 0 14 ⟨rfl,rfl,rfl⟩ rfl rfl rfl rfl ?_;refine ao ?_;refine wk [14,13,12,11,10,9,8,7,6,5,4,3,2,1] rfl ?_;refine ac ?_;refine co rfl (Aa rfl (Ce) ⟨kq,kz⟩) ?_;refine ac ?_;refine co rfl (Aa rfl (Ce) ⟨kq,kz⟩) ?_;refine ac ?_;refine co rfl (Aa rfl (Ce) ⟨kq,kz⟩) (co rfl (CG (Bt) rfl rfl rfl) (co rfl (CG (Bt) rfl rfl rfl) ?_));refine ac ?_;refine co rfl (Aa rfl (Ce) ⟨kq,kz⟩) (co rfl (CG (Bt) rfl rfl rfl) ?_);refine ac ?_;refine co rfl (Aa rfl (Ce) ⟨kq,kz⟩) ?_;refine ac ?_;refine co rfl (Aa rfl (Ce) ⟨kq,kz⟩) (co rfl (CG (Bt) rfl rfl rfl) ?_);refine ac ?_;refine co rfl (Aa rfl (Ce) ⟨kq,kz⟩) ?_;refine ac ?_;refine co rfl (Aa rfl (Ce) ⟨kq,kz⟩) (co rfl (AO rfl Be CR vq rfl rfl) (co rfl (CG (Bt) rfl rfl rfl) (co rfl (CG (Bt) rfl rfl rfl) (co rfl (AO rfl Be CR vq rfl rfl) (co rfl (Aa rfl (Ce) ⟨kq,kz⟩) ?_)))));refine ac ?_;refine co rfl (Aa rfl (Ce) ⟨kq,kz⟩) (co rfl (CG (Bt) rfl rfl rfl) (co rfl (CG (Bt) rfl rfl rfl) ?_));refine ac ?_;refine co rfl (Aa rfl (Ce) ⟨kq,kz⟩) ?_;refine ac ?_;refine co rfl (Aa rfl (Ce) ⟨kq,kz⟩) ?_;refine ac ?_;refine co rfl (Aa rfl (Ce) ⟨kq,kz⟩) ?_;refine ac ?_;refine co rfl (Aa rfl (Ce) ⟨kq,kz⟩) ?_;refine ac ?_;refine co rfl (Aa rfl (Ce) ⟨kq,kz⟩) (co rfl (CG (Bt) rfl rfl rfl) ?_);refine ac ?_;refine co rfl (Aa rfl (Ce) ⟨kq,kz⟩) (co rfl (AX (xs:=[.tmp 33,.tmp 38,.tmp 43,.tmp 48,.tmp 53,.tmp 58,.tmp 63,.tmp 68,.tmp 73,.tmp 78,.tmp 83,.tmp 88,.tmp 93,.tmp 98,.tmp 103,.tmp 108]) (rows:=(pU.map CK)) rfl rfl underlying320 Dp LW rfl AB ⟨⟨Ab,VL.le vq (AJ _)⟩,⟨⟨Ab,VL.le vq (AJ _)⟩,⟨⟨Ab,VL.le vq (AJ _)⟩,⟨⟨Ab,VL.le vq (AJ _)⟩,⟨⟨Ab,VL.le vq (AJ _)⟩,⟨⟨Ab,VL.le vq (AJ _)⟩,⟨⟨Ab,VL.le vq (AJ _)⟩,⟨⟨Ab,VL.le vq (AJ _)⟩,⟨⟨Ab,VL.le vq (AJ _)⟩,⟨⟨Ab,VL.le vq (AJ _)⟩,⟨⟨Ab,VL.le vq (AJ _)⟩,⟨⟨Ab,VL.le vq (AJ _)⟩,⟨⟨Ab,VL.le vq (AJ _)⟩,⟨⟨Ab,VL.le vq (AJ _)⟩,⟨⟨Ab,VL.le vq (AJ _)⟩,⟨⟨Ab,VL.le vq (AJ _)⟩,trivial⟩⟩⟩⟩⟩⟩⟩⟩⟩⟩⟩⟩⟩⟩⟩⟩ AB) ?_);refine ac ?_;refine wk [0] rfl ?_;refine ac ?_
 .exact A_ _ _
theorem SG{code:Int}  :Aq prog 168 [int code] (EB [agg (CK (Jz code)),int (if KD code then 0 else 8)]):=by
 refine fo func168 rfl ⟨rfl,rfl⟩ fun M0 w0=>(Tr.seq (Tr.At ?_));refine Tl rfl rfl rfl rfl LW GU (fun b1=>?_);refine ap ?_;refine ag ?_ ?_<;>intro h1 q1
 refine ac ?_;refine Tr.cond rfl (fun _=>?_) (fun h=>nomatch h);refine Tr.seq (Tr.At (tp rfl (Al (rows:=[]) rfl TK GU trivial rfl) (TO.Ac 0 rfl rfl rfl vq CM rfl Dp rfl rfl (tm rfl (TO.nil (Fin.go (Tr.ret (Fin.AF (Fin.Bf rfl (AL.cell 0 rfl rfl Fi Dp rfl Lr) (AL.tmp rfl Lr) ?_)))))))))
 .exact jR
 refine an ?_ ?_<;>intro h2 q2
 refine ap ?_;refine Tr.ret (Fin.AF (Fin.Bf rfl (AL.cell 0 rfl rfl Fi Dp rfl Lr) (AL.tmp rfl Lr) ?_))
 .exact jR
 have hin:1<=code/\code<=16:=by omega
 refine ac ?_;refine Tr.seq (Tr.At (tp rfl (Ta (Xt) rfl) ?_));refine ap ?_;refine tp rfl (AD rfl underlying320 Dp vq vq AA (CS (f:=CK) (nu AA))) ?_;refine ap ?_;refine wk [3,2] rfl (Tr.ret (Fin.Bf rfl (AL.cell 0 rfl rfl Fi Dp rfl Lr) (AL.tmp rfl Lr) ?_))
 .exact bB
section
variable{P:Program}{I:Cj}{E:Env}{o:Oper}
end
def Mq(s:Su)(x:E9):Bool:=decide (s.s1=0)||decide (x.CI=s.s1)
def Jp(ids:List E9)(code:Int):Int:=if KD code then idx (Mq (Jz code)) ids else -1
def Eu(sv:DY)(offer:List Int)(v code:Int):Bool:=KD code&&(offer.any fun x=>code==x)&&(sv.AR.any fun x=>code==x)&&decide ((Jz code).lo<=v)&&decide (v<=(Jz code).hi)&&decide (0<=Jp sv.ids code)
theorem Ly{code:Int}(hl:e.ids.length<=1000000):Aq prog 105 [agg (As e),int code] (EB [int (Jp e.ids code),bool (decide (0<=Jp e.ids code))]):=by
 refine fo func105 rfl ⟨rfl,rfl⟩ fun M0 w0=>?_;refine ac ?_;refine ao ?_;refine tp rfl (BS (SG (code:=code)) rfl rfl) ?_;refine ao ?_;refine Tl rfl rfl rfl rfl LW GU (fun b1=>?_);refine sf 0 6 ⟨rfl,rfl,rfl⟩ rfl rfl rfl rfl ?_;refine ao ?_;refine ac ?_;refine wk [15,6,2] rfl ?_;refine Tr.cn rfl ?_ ?_<;>intro h1 q1
 have hK:Jp e.ids code= -1:=by unfold Jp;exact if_neg (fun h_=>by rw[if_pos h_]at h1;exact absurd h1 AB)
 refine ac ?_;refine Tr.ret (Fin.AF (Fin.C_ rfl (CL.Eo _ _) rfl ?_ rfl ?_))
 .refine int_eq ?_;exact hK.symm
 .refine bool_eq ?_;rw[hK];rfl
 have hs:KD code=true:=by cases h_:KD code with|true=>rfl|false=>exact absurd h1 QA
 have hK:Jp e.ids code=idx (Mq (Jz code)) e.ids:=by unfold Jp;exact if_pos hs
 refine a2 ?_;refine Tr.block (Tr.BV _ (kk [6,2] rfl) (fun k:Nat=>[(8,int ((k:Nat):Int))]) (fun k:Nat=>k<=(e.ids).length/\(∀j y,j<k->e.ids[j]? =some y->Mq (Jz code) y=false)) (fun k:Nat=>(e.ids).length-k) 0 (⟨Nat.zero_le _,fun j y hj=>absurd hj AA⟩) kz ?_);rintro k ⟨BN,AW⟩;refine an ?_ ?_<;>intro h2 q2
 have Ae:k<(e.ids).length:=AQ h2;obtain⟨x,Ad⟩:=at_ Ae;refine ac ?_;refine ag ?_ ?_<;>intro h3 q3
 refine ac ?_;refine wk [39,8,6,2] rfl ?_;refine ac ?_;refine Tr.ret (Fin.Ak (Fin.AF (Fin.AF (Fin.Ak (Fin.AF (Fin.C_ rfl (CL.Eo _ _) rfl ?_ rfl ?_))))))
 .exact bG
 .exact aT
 refine ac ?_;refine cy h3 rfl (AD rfl underlying71 B8 vq vq AA (Ap Ad)) ?_;refine ac ?_;refine wk [39,8,6,2] rfl ?_;refine Tr.cn rfl ?_ ?_<;>intro h4 q4
 refine ac ?_;refine Tr.ret (Fin.Ak (Fin.AF (Fin.AF (Fin.Ak (Fin.AF (Fin.C_ rfl (CL.Eo _ _) rfl ?_ rfl ?_))))))
 .exact bG
 .exact aT
 refine a2 ?_;exact Fin.AP (k+1) ⟨⟨Ae,C3 (p:=Mq (Jz code)) Ad pW AW⟩,by omega⟩ ⟨⟨_,rfl,AK k⟩,kz⟩;have BA:k=(e.ids).length:=by have:=AU h2;omega
 subst BA;refine a2 ?_;refine Tr.ret (Fin.C_ rfl (CL.Eo _ _) rfl ?_ rfl ?_)
 .refine int_eq ?_;rw[hK];exact HZ AW
 .refine bool_eq ?_;rw[hK,←HZ AW];rfl
theorem dy{ids:List E9}{code:Int}(h:0<=Jp ids code):∃x,ids[(Jp ids code).toNat]? =some x:=by
 unfold Jp at h ⊢
 split at h
 .
  rename_i hs
  rw[if_pos hs];unfold idx at h ⊢;cases hf:ids.findIdx? (Mq (Jz code))with
  |none=>rw[hf]at h;simp at h
  |some i=>
   obtain⟨hi,_⟩:=List.findIdx?_eq_some_iff_getElem.1 hf;exact⟨ids[i],by simp[hi]⟩
 .omega
theorem Xu{of:List Int}{v code:Int}(h:Eu e of v code=true):0<=Jp e.ids code:=by grind [Eu]
theorem Sy{of:List Int}{v code:Int}(hl:e.ids.length<=1000000):Aq prog 104 [agg (As e),ints of,int v,int code] (bool (Eu e of v code)):=by
 refine fo func104 rfl ⟨rfl,rfl⟩ fun M0 w0=>?_;refine ac ?_;refine ao ?_;refine tp rfl (BS (SG (code:=code)) rfl rfl) ?_;refine ao ?_;refine Tl rfl rfl rfl rfl LW GU (fun b1=>?_);refine sf 0 9 ⟨rfl,rfl,rfl⟩ rfl rfl rfl rfl ?_;refine ao ?_;refine ac ?_;refine Ch.cs 20 rfl ?_ ?_<;>intro h1 q1
 refine ac ?_;refine wk [44,4,3] rfl ?_;refine ac ?_;refine ac ?_
 .exact P3
 refine ac ?_;refine cy h1 rfl (CG (Ki) rfl rfl rfl) ?_;refine ac ?_;refine Ch.cs 26 rfl ?_ ?_<;>intro h2 q2
 refine ac ?_;refine wk [44,4,3] rfl ?_;refine ac ?_;refine ac ?_
 .refine bool_eq ?_;unfold Eu;simp_all;intros;exfalso;exact q2 _ Cs rfl
 refine ac ?_;refine cy h2 rfl (CG (Ki) rfl rfl rfl) ?_;refine ac ?_;refine Ch.cs 33 rfl ?_ ?_<;>intro h3 q3
 refine ac ?_;refine wk [44,4,3] rfl ?_;refine ac ?_;refine ac ?_
 .refine bool_eq ?_;unfold Eu;simp_all;intros;exfalso;exact q3 _ Cs rfl
 refine ac ?_;refine Ch.cs 39 rfl ?_ ?_<;>intro h4 q4
 refine ac ?_;refine wk [44,4,3] rfl ?_;refine ac ?_;refine ac ?_
 .refine bool_eq ?_;unfold Eu;simp_all;intros;omega
 refine ac ?_;refine wk [44,4,3] rfl ?_;refine Tr.cn rfl ?_ ?_<;>intro h5 q5
 refine ac ?_;refine ac ?_
 .refine bool_eq ?_;unfold Eu;simp_all;intros;omega
 refine ac ?_;refine ac ?_;refine co rfl (CG (Ly (e:=e) (code:=code) hl) rfl rfl rfl) ?_;refine ac ?_;refine ac ?_;refine ac ?_
 .exact P3
theorem zN(h:B5 e=true):1<=e.least/\e.least<=4/\e.most<=4:=by grind [B5]
abbrev O4(l:List Int):Pr:=slice 1 (l.map fun n=>[is (.int .u8 n)])
abbrev Bq(t:Int)(b:List Int)(n:Bool)(q:Pr):List Pr:=[int t,O4 b,bool n,q]
structure Lv where
 t:Int
 b:List Int
 ht:t=1\/t=2\/t=12
 hb:b.length<=64
abbrev HH(x:Lv):List Pr:=Bq x.t x.b false (slice 4 [])
inductive Ev where
 |lf (x:Lv)
 |nd (l:List Lv) (h:l.length<=20)
def Ev.t:Ev->Int
 | .lf x=>x.t
 | .nd _ _=>48
def Ev.b:Ev->List Int
 | .lf x=>x.b
 | .nd _ _=>[]
def Ev.n:Ev->Bool
 | .lf _=>false
 | .nd _ _=>true
def Ev.q:Ev->Pr
 | .lf _=>slice 4 []
 | .nd l _=>slice 4 (l.map HH)
abbrev DH(e:Ev):List Pr:=Bq e.t e.b e.n e.q
def Hz(n:Int):List Int:=if n<128 then[n]else if n<256 then[129,n]else[130,n/256,n % 256]
def Oh(t:Int)(c:List Int):List Int:=t::(Hz (c.length:Nat)++c)
def Hv(x:Lv):List Int:=Oh x.t x.b
def ER:Ev->List Int
 | .lf x=>Hv x
 | .nd l _=>Oh 48 (l.flatMap Hv)
theorem Ns(n:Int):1<=(Hz n).length/\(Hz n).length<=3:=by unfold Hz;split;simp;split<;>simp
theorem Xv(t:Int)(c:List Int):(Oh t c).length<=c.length+4:=by
 have:=(Ns (c.length:Nat)).2;unfold Oh;simp;omega
theorem Jg{α:Type}{g:α->List Int}{B:Nat}:∀(l:List α),(∀x∈l,(g x).length<=B)->(l.flatMap g).length<=l.length*B
 |[],_=>by simp
 |a::l,h=>by
  have h1:=h a (List.mem_cons_self ..);have h2:=Jg l fun x hx=>h x (List.mem_cons_of_mem _ hx);rw[List.flatMap_cons,List.length_append,List.length_cons,Nat.succ_mul];omega
theorem JD(x:Lv):(Hv x).length<=68:=by have:=Xv x.t x.b;have:=x.hb;unfold Hv;omega
theorem Oi(x:Ev):(ER x).length<=1364:=by
 cases x with
 |lf x=>have:=JD x;show(Hv x).length<=_;omega
 |nd l h=>
  have h1:=Jg (g:=Hv) l fun x _=>JD x;have h2:=Xv 48 (l.flatMap Hv);have h3:l.length*68<=20*68:=Nat.mul_le_mul_right 68 h;show(Oh 48 (l.flatMap Hv)).length<=_;omega
theorem PU{n:Int}(h0:0<=n)(h1:n<256):IntKind.u8.wrap n=n:=IntWalk.u8_in n ⟨h0,by omega⟩
theorem Oj{α:Type}{g:α->List Int}{l:List α}{x:α}(h:l[k]? =some x):(l.take (k+1)).flatMap g=(l.take k).flatMap g++g x:=by rw[List.take_add_one,h,List.flatMap_append];simp
theorem Nt{α:Type}{g:α->List Int}{B:Nat}{l:List α}(k:Nat)(h:∀x∈l,(g x).length<=B):((l.take k).flatMap g).length<=l.length*B:=by
 have h1:=Jg (l.take k) fun x hx=>h x (List.mem_of_mem_take hx);have h2:(l.take k).length*B<=l.length*B:=Nat.mul_le_mul_right B JJ;omega
def zO(op:BinOp)(k:IntKind)(m n:Int):Int:=match op with
 | .and=>k.wrap (BitVec.ofInt k.bits m&&&BitVec.ofInt k.bits n).toNat
 |_=>k.wrap (BitVec.ofInt k.bits m ^^^ BitVec.ofInt k.bits n).toNat
section
variable{P:Program}{I:Cj}{E:Env}{o:Oper}
theorem Qj{op:BinOp}{t u:TypeId}{x y:Operand}{k:IntKind}{m n:Int}(hop:(op== .xor||op== .and)=true)(ho:o.op= .binOp op t x y u)(hx:VL E x (is (.int k m)))(hy:VL E y (is (.int k n))):Af P I o E (is (.int k (zO op k m n))):=
 Af.same fun M w a he _=>by
  have h1:a.eval x= .int k m:=hx.ev he Am;have h2:a.eval y= .int k n:=hy.ev he Am;cases op<;>simp at hop<;>exact⟨_,by simp[execOp,ho,h1,h2,eqGuard,binOp,Op.intBits];rfl,rfl⟩
theorem V6{t u:TypeId}{x y:Operand}{k k':IntKind}{m c:Int}{r:Int}(ho:o.op= .binOp .shr t x y u)(hx:VL E x (is (.int k m)))(hy:VL E y (is (.int k' c)))(hc:0<=c)(hr:m.fdiv (2 ^ (min c.toNat k.bits))=r):Af P I o E (is (.int k r)):=
 Af.same fun M w a he _=>by
  have h1:a.eval x= .int k m:=hx.ev he Am;have h2:a.eval y= .int k' c:=hy.ev he Am;have hn:¬c<0:=by omega
  subst hr;exact⟨_,by simp[execOp,ho,h1,h2,eqGuard,binOp,Op.shift,hn],rfl⟩
end
structure OkV{α:Type}(t:Int)(b:List Int)(n:Bool)(l:List α):Prop where
 h:(n=false/\(t=1\/t=2\/t=12)/\l=[])\/(n=true/\t=48/\b=[])
theorem OkV.tag{α:Type}{t:Int}{b:List Int}{n:Bool}{l:List α}(h:OkV t b n l):t=1\/t=2\/t=12\/t=48:=by have:=h.h;omega
theorem OkV.bit{α:Type}{t:Int}{b:List Int}{n:Bool}{l:List α}(h:OkV t b n l):(zO .and .i64 t 32 !=0)=n:=by
 rcases h.h with⟨rfl,h1,_⟩|⟨rfl,rfl,_⟩
 .rcases h1 with rfl|rfl|rfl<;>decide
 .decide
theorem zP{n:Int}(h:n=1\/n=2\/n=12\/n=48):Aq prog 424 [int n] (bool true):=by
 refine fo func424 rfl ⟨rfl,rfl⟩ fun M0 w0=>?_;refine ac ?_;refine ag ?_ ?_<;>intro h1 q1
 refine ag ?_ ?_<;>intro h2 q2
 refine JW h2 rfl (cy h2 rfl (Qj AB rfl vq vq) ?_);refine a2 ?_
 .refine bool_eq ?_;rcases h with rfl|rfl|rfl|rfl<;>decide
 refine a2 ?_
 .exact P7
 refine a2 ?_
 .exact P7
theorem ADd{α:Type}{T:α->Int}{B:α->List Int}{N:α->Bool}{Q:α->Pr}{l:List α}   :Aq prog 433 [slice 4 (l.map (fun x:α=>Bq (T x) (B x) (N x) (Q x))),S7 prog (fun x:α=>[agg (Bq (T x) (B x) (N x) (Q x))]) (fun _=>bool false)] (int (-1)):=by
 refine fo func433 rfl ⟨rfl,rfl⟩ fun M0 w0=>(Tr.Dr 0 rfl fun Dq=>?_);refine a2 ?_;refine Tr.block (Tr.BV _ (kk [7,1,0] rfl) (fun k:Nat=>[(8,int ((k:Nat):Int))]) (fun k:Nat=>k<=(l).length) (fun k:Nat=>(l).length-k) 0 (Nat.zero_le _) kz ?_);rintro k BN;refine ac ?_;refine Tr.seq ?_;refine Tr.cn rfl ?_ ?_<;>intro h1 q1
 have Ae:k<(l).length:=AQ h1;obtain⟨x,Ad⟩:=at_ Ae;refine a3 ?_;refine co rfl (AD rfl underlying246 BH vq vq AA DZ) ?_;refine co rfl (AO rfl Bn BH vq rfl rfl) (co rfl (GC x rfl vq kz) ?_);refine an ?_ ?_<;>intro h2 q2
 cases h2;refine a2 ?_;exact Fin.AP (k+1) ⟨Ae,by omega⟩ ⟨⟨_,rfl,AK k⟩,kz⟩;have BA:k=(l).length:=by have:=AU h1;omega
 refine a3 ?_
 .exact Lr
theorem dz{α:Type}{T:α->Int}{B:α->List Int}{N:α->Bool}{Q:α->Pr}{l:List α}   :Aq prog 425 [slice 4 (l.map (fun x:α=>Bq (T x) (B x) (N x) (Q x))),S7 prog (fun x:α=>[agg (Bq (T x) (B x) (N x) (Q x))]) (fun _=>bool false)] (bool false):=by
 refine fo func425 rfl ⟨rfl,rfl⟩ fun M0 w0=>?_;refine a2 ?_;refine co rfl (CG (ADd) rfl rfl rfl) ?_;refine a2 ?_
 .exact Lr
theorem Jq{α:Type}{T:α->Int}{B:α->List Int}{N:α->Bool}{Q:α->Pr}{x:α}  (h:Aq prog 405 [agg (Bq (T x) (B x) (N x) (Q x))] (bool true)):Aq prog 426 [agg (Bq (T x) (B x) (N x) (Q x))] (bool false):=by
 refine fo func426 rfl ⟨rfl,rfl⟩ fun M0 w0=>?_;refine a2 ?_;refine co rfl (BS (h) rfl rfl) ?_;refine a2 ?_
 .exact Lr
theorem Jr:Entry Tryz.prog 426:=⟨_,Tryz.func426,rfl,rfl⟩
theorem Ol{α:Type}{T:α->Int}{B:α->List Int}{N:α->Bool}{Q:α->Pr}{l:List α}{t:Int}{b:List Int}{n:Bool}  (ok:OkV t b n l)(h:∀x:α,Aq prog 405 [agg (Bq (T x) (B x) (N x) (Q x))] (bool true)):Aq prog 405 [agg (Bq t b n (slice 4 (l.map (fun x:α=>Bq (T x) (B x) (N x) (Q x)))))] (bool true):=by
 refine fo func405 rfl ⟨rfl,rfl⟩ fun M0 w0=>(Tr.Wb 0 1 rfl rfl fun tr=>(Tr.Wb 0 3 rfl rfl fun Nu=>?_));have jl:=ok.bit;refine ac ?_;refine ac ?_;refine co rfl (BS (zP ok.tag) rfl rfl) (co rfl (KG rfl vq) (cm rfl ?_));refine Ch.cs 7 rfl ?_ ?_<;>intro h1 q1
 cases h1;refine cy h1 rfl (Lf rfl VC rfl rfl) (cy h1 rfl (FO rfl e9 rfl) (cy h1 rfl (Lf rfl VB rfl rfl) (cy h1 rfl (FO rfl DP rfl) (cy h1 rfl (Qj AB rfl (vl rfl) (vl rfl)) (cy h1 rfl (ki rfl rfl rfl rfl) (cy h1 rfl (Uy rfl underlying4 (vl rfl) (vl rfl)) ?_))))));refine ac ?_;refine Ch.cs 16 rfl ?_ ?_<;>intro h2 q2
 exfalso;rcases ok.h with⟨rfl,Tz,rfl⟩|⟨rfl,Tz,rfl⟩<;>simp_all
 refine ac ?_;refine Ch.cs 19 rfl ?_ ?_<;>intro h3 q3
 refine ac ?_;refine Ch.cs 26 rfl ?_ ?_<;>intro h4 q4
 exfalso;rcases ok.h with⟨rfl,Tz,rfl⟩|⟨rfl,Tz,rfl⟩<;>simp_all
 refine ac ?_;refine Ch.cs 30 rfl ?_ ?_<;>intro h5 q5
 refine ac ?_;refine wk [36,1] rfl ?_;refine Tr.cn rfl ?_ ?_<;>intro h6 q6
 exfalso;rcases ok.h with⟨rfl,Tz,rfl⟩|⟨rfl,Tz,rfl⟩<;>simp_all
 refine ac ?_;refine ac ?_;refine co rfl (Aa rfl (dz (l:=l)) ⟨kq,⟨_,rfl,DM Jr fun x=>Jq (h x)⟩,trivial⟩) ?_;refine ac ?_;refine ac ?_
 .exact Lr
 refine ac ?_;refine wk [36,1] rfl ?_;refine ac ?_;refine ac ?_;refine co rfl (Aa rfl (dz (l:=l)) ⟨kq,⟨_,rfl,DM Jr fun x=>Jq (h x)⟩,trivial⟩) ?_;refine ac ?_;refine ac ?_
 .exact Lr
 refine ac ?_;refine Ch.cs 30 rfl ?_ ?_<;>intro h7 q7
 refine ac ?_;refine wk [36,1] rfl ?_;refine Tr.cn rfl ?_ ?_<;>intro h8 q8
 exfalso;rcases ok.h with⟨rfl,Tz,rfl⟩|⟨rfl,Tz,rfl⟩<;>simp_all
 refine ac ?_;refine ac ?_;refine co rfl (Aa rfl (dz (l:=l)) ⟨kq,⟨_,rfl,DM Jr fun x=>Jq (h x)⟩,trivial⟩) ?_;refine ac ?_;refine ac ?_
 .exact Lr
 refine ac ?_;refine wk [36,1] rfl ?_;refine ac ?_;refine ac ?_;refine co rfl (Aa rfl (dz (l:=l)) ⟨kq,⟨_,rfl,DM Jr fun x=>Jq (h x)⟩,trivial⟩) ?_;refine ac ?_;refine ac ?_
 .exact Lr
theorem SH{α:Type}{T:α->Int}{B:α->List Int}{N:α->Bool}{Q:α->Pr}{l:List α}{t:Int}{b:List Int}{n:Bool}(h:∀x:α,Aq prog 406 [agg (Bq (T x) (B x) (N x) (Q x))] (Cp.ex fun d:Int=>fact (0<=d/\d<=(m:Nat)) (int d)))(hm:m<=1000):Aq prog 406 [agg (Bq t b n (slice 4 (l.map (fun x:α=>Bq (T x) (B x) (N x) (Q x)))))] (Cp.ex fun d:Int=>fact (0<=d/\d<=(m+1:Nat)) (int d)):=by
 refine fo func406 rfl ⟨rfl,rfl⟩ fun M0 w0=>(Tr.Wb 0 3 rfl rfl fun Nu=>?_);refine a3 ?_;refine Tr.block (Tr.BV _ (kk [8,7] rfl) (fun k:Nat=>[(9,int ((k:Nat):Int)),(3,Cp.ex fun d:Int=>fact (0<=d/\d<=(m:Nat)) (int d))]) (fun k:Nat=>k<=(l).length) (fun k:Nat=>(l).length-k) 0 (Nat.zero_le _) ⟨kq,⟨_,rfl,Co 0 (EG AA Lr)⟩,trivial⟩ ?_);rintro k BN;refine Tr.ex 3 rfl fun d3=>Tr.fact 3 rfl fun hd3=>?_;refine ac ?_;refine Tr.seq ?_;refine Tr.cn rfl ?_ ?_<;>intro h1 q1
 have Ae:k<(l).length:=AQ h1;obtain⟨x,Ad⟩:=at_ Ae;refine ac ?_;refine Tr.seq (Tr.block (Tr.seq (Tr.At (tp rfl (AD rfl underlying246 BH vq vq AA (Ap Ad)) (tp rfl (AO rfl Bn BH vq rfl rfl) ?_)))));refine Tl rfl rfl rfl rfl EE DW (fun b1=>?_);refine sf 0 5 ⟨rfl,rfl,rfl⟩ rfl rfl rfl rfl ?_;refine ao ?_;refine ao ?_;refine tp rfl (BS (h x) rfl rfl) ?_;refine TO.ex 15 rfl (fun z15=>TO.fact 15 rfl fun AHk=>?_);refine tp rfl (Ur rfl vq vq) ?_;refine ao ?_;refine wk [9,8,7,3] rfl ?_;refine ac ?_;exact Fin.AP (k+1) ⟨Ae,by omega⟩ ⟨⟨_,rfl,AK k⟩,⟨_,rfl,Co _ (EG AA Lr)⟩,kz⟩;have BA:k=(l).length:=by have:=AU h1;omega
 refine ac ?_;refine ao ?_;refine ac ?_
 .exact Uj
abbrev La(l:List Int):List (List Pr):=l.map fun n=>[is (.int .u8 n)]
theorem Ko(l:List Int)(n:Int):La (l++[n])=La l++[[is (.int .u8 n)]]:=List.map_append
theorem GZ{α:Type}{l:List α}{x:α}(h:l[k]? =some x):l.take (k+1)=l.take k++[x]:=by rw[List.take_add_one,h];rfl
theorem Nv{t u:TypeId}{x y:Operand}{m:Int}(ho:o.op= .binOp .shr t x y u)(hx:VL E x (int m))(hy:VL E y (is (.int .u64 8)))(h0:0<=m):Af P I o E (int (m/256)):=
 V6 ho hx hy AB (by rw[show(2:Int) ^ (min (8:Int).toNat IntKind.i64.bits)=256 from rfl];exact Int.fdiv_eq_ediv_of_nonneg m AA)
theorem tu{n:Int}{c:Nat}(h0:128<=n)(h1:n<65536)(hc:(c=1/\n<256)\/(c=2/\256<=n))(hk:k<c):(Hz n)[k+1]? =some (IntKind.u8.wrap (n.fdiv (2 ^ (min (8*((c:Nat)-1-(k:Nat):Int)).toNat IntKind.i64.bits)))):=by
 have h8:(2:Int) ^ (min (8*(1:Int)).toNat IntKind.i64.bits)=256:=rfl;have h9:(2:Int) ^ (min (8*(0:Int)).toNat IntKind.i64.bits)=1:=rfl;unfold Hz;rw[if_neg AA];rcases hc with⟨rfl,hn⟩|⟨rfl,hn⟩
 .
  obtain rfl:k=0:=by omega
  rw[if_pos hn,show((1:Nat):Int)-1-((0:Nat):Int)=0 by omega,h9,Int.fdiv_one,PU AA hn];rfl
 .
  rw[if_neg AA];rcases(by omega:k=0\/k=1)with rfl|rfl
  .rw[show((2:Nat):Int)-1-((0:Nat):Int)=1 by omega,h8,Int.fdiv_eq_ediv_of_nonneg n AA,PU AA AA];rfl
  .rw[show((2:Nat):Int)-1-((1:Nat):Int)=0 by omega,h9,Int.fdiv_one,IntKind.wrap_u8];rfl
theorem gz{n:Int}{c:Nat}(h0:128<=n)(hc:(c=1/\n<256)\/(c=2/\256<=n)):(Hz n).take 1=[IntKind.u8.wrap (128+(c:Int))]/\(Hz n).length=c+1:=by
 unfold Hz;rw[if_neg AA];rcases hc with⟨rfl,hn⟩|⟨rfl,hn⟩
 .rw[if_pos hn];exact⟨rfl,rfl⟩
 .rw[if_neg AA];exact⟨rfl,rfl⟩
theorem zQ{n:Int}(hl:l.length<=1000000)(h0:0<=n)(h1:n<65536):BM prog 428 [Aj v p,int n] (lens (La (l++Hz n)).length) (Ax 5 1 (La (l)) v) (fun v=>Ax 5 1 (La (l++Hz n)) v):=by
 refine BM.of func428 rfl rfl Ag fun M0 w0 S rs M1 w1=>?_;refine ac ?_;refine ac ?_;refine Tr.cn rfl ?_ ?_<;>intro h1 q1
 refine ap ?_;refine tp rfl (B9 rfl underlying3 underlying5 vq) (tp rfl (AX (xs:=[.tmp 12]) (rows:=[[_]]) rfl rfl underlying180 Fq z5 rfl AB ⟨⟨Ab,Cf⟩,trivial⟩ AB) ?_);refine TO.EV 0 rfl rfl AB (DN rfl rfl AB rfl underlying180 Fq Mo z5 rfl AB AB vq Ec (Ar fun _=>rfl) My Qz L1) (fun v1=>?_);refine ap ?_;refine Tr.ret (Fin.AF ?_);refine Fin.Ey rfl rfl ?_ (by rintro _ _ _ ⟨rfl,_⟩;rw[show Hz n=[IntKind.u8.wrap n]by unfold Hz;rw[if_pos AA,PU h0 AA],Ko])
 .exact Pr.le_trans (A0 _ _) (Pr.le_of_eq (by congr 1;rw[show Hz n=[IntKind.u8.wrap n]by unfold Hz;rw[if_pos AA,PU h0 AA]];simp))
 refine ac ?_;refine ac ?_;refine ac ?_;refine Tr.block (Tr.GF _ (kk [1,0] rfl) (fun(m:Int) (c:Int)=>[(6,int m),(5,int c)]) (fun(m:Int) (c:Int)=>Hp M0 w0 S (Ax 5 1 ((La l)) v::Ao M1 w1::rs)) (fun(m:Int) (c:Int)=>(m=n/\c=0)\/(m=n/256/\c=1)\/(m=n/256/256/\c=2/\256<=n)) (fun(m:Int) (c:Int)=>m.toNat) (n) (0)  (.inl ⟨rfl,rfl⟩) ⟨kq,kz⟩ (fun _ _ h=>h) ?_);rintro m c  bY;refine ac ?_;refine Tr.cn rfl ?_ ?_<;>intro h2 q2
 have hm0:=Fy.HC h2;refine ac ?_;refine ac ?_;refine ac ?_;refine co rfl (Nv rfl vq vq AA) ?_;refine ac ?_;exact Fin.Gw (m/256) (c+1)  (⟨by omega,by omega⟩) ⟨kq,kz⟩ (fun _ _ h=>h);have hm0:=Fy.HC h2;have pT:(c=1/\n<256)\/(c=2/\256<=n):=by omega
 obtain⟨c,rfl⟩:∃d:Nat,c=(d:Int):=⟨c.toNat,by omega⟩;have hcd:(c=1/\n<256)\/(c=2/\256<=n):=by omega
 obtain⟨hld,jE⟩:=gz AA hcd;refine ac ?_;refine ap ?_;refine tp rfl (B9 rfl underlying3 underlying5 vq) (tp rfl (AX (xs:=[.tmp 25]) (rows:=[[_]]) rfl rfl underlying180 Fq z5 rfl AB ⟨⟨Ab,Cf⟩,trivial⟩ AB) ?_);refine TO.EV 0 rfl rfl AB (DN rfl rfl AB rfl underlying180 Fq Mo z5 rfl AB AB vq Ec (Ar fun _=>rfl) My Qz L1) (fun v2=>?_);refine ap ?_;refine ac ?_;refine wk [7,1,0] rfl (Tr.block ?_);refine Tr.Wk _ (kk [1] rfl) (fun(k:Nat) u=>[(7,int (((c:Nat):Int)-1-((k:Nat):Int))),(0,Aj u (lens (La (l++(Hz n).take (k+1))).length))]) (fun(k:Nat) u=>Hp M0 w0 S (Ax 5 1 (La (l++(Hz n).take (k+1))) u::Ao M1 w1::rs)) (fun(k:Nat)=>k<=c) (fun(k:Nat)=>c-k) (0) v2 (Nat.zero_le _) ⟨⟨_,rfl,int_eq AA⟩,⟨_,rfl,CT (by rw[hld];simp)⟩,trivial⟩ ((by rw[hld,Ko];exact fun _ _ h=>h)) ?_;rintro k u hkc;refine ac ?_;refine Tr.cn rfl ?_ ?_<;>intro h3 q3
 have hk0:k<c:=by have:=Fy.HC h3;omega
 have hat:=tu (n:=n) AA AA hcd hk0;refine ac ?_;refine Tr.seq (Tr.block (Tr.At (tm rfl (tm rfl (tm rfl ?_)))));refine tp rfl (wF rfl (vl rfl) (vl rfl) ?hin) ?_;case hin=>unfold Sb;omega
 refine tp rfl (V6 rfl (vl rfl) (vl rfl) AA rfl) (tp rfl (B9 rfl underlying3 underlying5 (vl rfl)) (tp rfl (AX (xs:=[.tmp 39]) (rows:=[[_]]) rfl rfl underlying180 Fq z5 rfl AB ⟨⟨Ab,(Vo rfl)⟩,trivial⟩ AB) ?_));refine TO.EV 0 rfl rfl AB (DN rfl rfl AB rfl underlying180 Fq Mo z5 rfl AB AB vq Ec (Ar fun _=>rfl) My Qz L1) (fun v3=>?_);refine ap ?_;refine wk [7,1,0] rfl ?_;refine ac ?_;exact Fin.bg (k+1) v3 (⟨by omega,by omega⟩) ⟨⟨_,rfl,int_eq AA⟩,⟨_,rfl,CT (by rw[GZ hat];simp;omega)⟩,kz⟩ ((by rw[GZ hat,←List.append_assoc,Ko];exact fun _ _ h=>h));have hk0:k=c:=by have:=Fy.HC h3;omega
 refine ac ?_;refine ac ?_;refine Tr.ret ?_;refine Fin.Ey rfl rfl ?_ (by rintro _ _ _ ⟨rfl,_⟩;rw[hk0,←jE,List.take_length])
 .exact Pr.le_trans (A0 _ _) (Pr.le_of_eq (by congr 1;rw[hk0,←jE,List.take_length]))
theorem V7{α:Type}{T:α->Int}{B:α->List Int}{N:α->Bool}{Q:α->Pr}{l:List α}{t:Int}{b:List Int}{n:Bool}{g:α->List Int}{M:Nat}  (hE:∀(x:α) (v:Value) (p:Pr) (bs:List Int),bs.length<=20000->BM prog 407 [Aj v p,agg (Bq (T x) (B x) (N x) (Q x))] (lens (La (bs++g x)).length) (Ax 5 1 (La (bs)) v) (fun v=>Ax 5 1 (La (bs++g x)) v))(hg:∀x∈l,(g x).length<=M)(hM:l.length*M<=20000):Aq prog 427 [agg (Bq t b n (slice 4 (l.map (fun x:α=>Bq (T x) (B x) (N x) (Q x)))))] (O4 (if n then l.flatMap g else b)):=by
 refine fo func427 rfl ⟨rfl,rfl⟩ fun M0 w0=>(Tr.Wb 0 3 rfl rfl fun Nu=>?_);refine ac ?_;refine an ?_ ?_<;>intro h1 q1
 refine a2 ?_
 .rw[if_neg CU];exact Lr
 refine a3 ?_;refine Tr.block (Tr.MJ 5 1 (Tr.Ez _ (kk [13,12] rfl) (fun k u=>[(14,int ((k:Nat):Int)),(3,Aj u (lens (La ((l.take k).flatMap g)).length))]) (fun k u=>Hp M0 w0 Ju ([Ax 5 1 (La ((l.take k).flatMap g)) u])) (fun k:Nat=>k<=(l).length) (fun k:Nat=>(l).length-k) 0 (.slice none 0 0) (Nat.zero_le _) ⟨kq,⟨_,rfl,I4 rfl⟩,trivial⟩ (fun _ _ h=>h) ?_));rintro k u BN;refine ac ?_;refine Tr.seq ?_;refine Tr.cn rfl ?_ ?_<;>intro h2 q2
 have Ae:k<(l).length:=AQ h2;obtain⟨x,Ad⟩:=at_ Ae;refine ac ?_;refine Tr.seq (Tr.block (Tr.seq (Tr.At (tp rfl (AD rfl underlying246 BH vq vq AA (Ap Ad)) (tp rfl (AO rfl Bn BH vq rfl rfl) ?_)))));refine Tl rfl rfl rfl rfl EE DW (fun b1=>?_);refine sf 0 5 ⟨rfl,rfl,rfl⟩ rfl rfl rfl rfl ?_;refine ao ?_;refine ao ?_;refine TO.EV 0 rfl rfl AB (EI rfl rfl AB rfl (hE x _ _ _ (by have:=Nt k hg;omega)) ⟨kq,kz⟩) (fun v1=>?_);refine ao ?_;refine wk [14,13,12,3] rfl ?_;refine ac ?_;exact Fin.EX (k+1) v1 (⟨Ae,by omega⟩) ⟨⟨_,rfl,AK k⟩,⟨_,rfl,CT (by rw[Oj Ad])⟩,kz⟩ (by rw[Oj Ad];exact fun _ _ h=>h);have BA:k=(l).length:=by have:=AU h2;omega
 subst BA;rw[List.take_length];refine ac ?_;refine Tr.seq (Tr.VH 0 3 rfl rfl (Ar fun _=>rfl) ?_);refine a2 ?_
 .rw[if_pos CU];exact A0 _ _
theorem tv{n:Int}(hr:rows=La l)(hl:l.length<=1000000)(h0:0<=n)(h1:n<65536):BM Tryz.prog 428 [Aj v p,int n] (lens (La (l++Hz n)).length) (Ax 5 1 rows v) (fun v=>Ax 5 1 (La (l++Hz n)) v):=by
 subst hr;exact zQ hl h0 h1
theorem V8{bs c b:List Int}{t:Int}{n:Bool}{q:Pr}(hc:Aq prog 427 [agg (Bq t b n q)] (O4 c))(hl:bs.length<=20000)(ew:c.length<=20000)(ht:0<=t/\t<256):BM prog 407 [Aj v p,agg (Bq t b n q)] (lens (La (bs++Oh t c)).length) (Ax 5 1 (La (bs)) v) (fun v=>Ax 5 1 (La (bs++Oh t c)) v):=by
 refine BM.of func407 rfl rfl Ag fun M0 w0 S rs M1 w1=>?_;have hlb:=(Ns (c.length:Nat)).2;refine a2 ?_;refine co rfl (BS (hc) rfl rfl) ?_;refine ac ?_;refine ap ?_;refine tp rfl (B9 rfl underlying3 underlying5 vq) (tp rfl (AX (xs:=[.tmp 11]) (rows:=[[_]]) rfl rfl underlying180 Fq z5 rfl AB ⟨⟨Ab,Cf⟩,trivial⟩ AB) ?_);refine TO.EV 0 rfl rfl AB (RY rfl rfl AB rfl underlying180 Fq Mo z5 rfl AB AB vq Ec (Ar fun _=>rfl) Qz L1) (fun v1=>?_);refine ap ?_;refine TO.EV 0 rfl rfl AB (EI rfl rfl AB rfl (tv (l:=bs++[t]) (n:=(c.length:Nat)) (by rw[Ko,PU ht.1 ht.2]) Ci AA AA) ⟨kq,kz⟩) (fun v2=>?_);refine tm rfl ?_;refine TO.EV 0 rfl rfl AB (RY rfl rfl AB rfl underlying180 Fq Mo z5 rfl AB AB vq vq (Ar fun _=>rfl) Qz L1) (fun v3=>?_);refine ap ?_;refine wk [4] rfl (Tr.ret ?_);refine Fin.Ey rfl rfl ?_ (by rintro _ _ _ ⟨rfl,_⟩;simp[Oh,La,PU ht.1 ht.2])
 .exact Pr.le_trans (A0 _ _) (Pr.le_of_eq (by congr 1;simp[Oh];omega))
theorem g_{e b:List Int}{t:Int}{n:Bool}{q:Pr}  (hf:Aq prog 405 [agg (Bq t b n q)] (bool true))(hd:Aq prog 406 [agg (Bq t b n q)] (Cp.ex fun d:Int=>fact (0<=d/\d<=(16:Nat)) (int d)))(he:∀(v:Value) (p:Pr),BM prog 407 [Aj v p,agg (Bq t b n q)] (lens (La ([]++e)).length) (Ax 5 1 (La ([])) v) (fun v=>Ax 5 1 (La ([]++e)) v)):Aq prog 397 [agg (Bq t b n q)] (EB [O4 (if 4096<e.length then[]else e),int (if 4096<e.length then 3 else 0)]):=by
 refine fo func397 rfl ⟨rfl,rfl⟩ fun M0 w0=>?_;refine a2 ?_;refine co rfl (BS (hf) rfl rfl) ?_;refine an ?_ ?_<;>intro h1 q1
 cases h1;refine ac ?_;refine ap ?_;refine tp rfl (BS (hd) rfl rfl) ?_;refine TO.ex 9 rfl (fun z9=>TO.fact 9 rfl fun hz9=>?_);refine ap ?_;refine Tr.cn rfl ?_ ?_<;>intro h2 q2
 exfalso;have:=q2;omega;refine ac ?_;refine Tr.seq (Tr.MJ 5 1 ?_);refine ap ?_;refine TO.EV 0 rfl rfl AB (EI rfl rfl AB rfl (he _ _) ⟨⟨_,rfl,I4 (by rfl)⟩,kz⟩) (fun v1=>?_);refine ap ?_;refine ac ?_;refine co rfl (RW rfl underlying180 Ij) ?_;refine ac ?_;refine wk [15,4] rfl ?_;refine Tr.cn rfl ?_ ?_<;>intro h3 q3
 have h4:4096<e.length:=by have:=q3;simp at this;omega
 refine ac ?_;refine Tr.ret (Fin.AF (Fin.C_ rfl (CL.Eo _ _) rfl ?_ rfl ?_))
 .rw[if_pos h4];exact AH 1
 .exact int_eq (by rw[if_pos h4])
 have h4:¬4096<e.length:=by have:=q3;simp at this;omega
 refine ac ?_;refine Tr.seq (Tr.VH 0 4 rfl rfl (Ar fun _=>rfl) ?_);refine ac ?_;refine Tr.ret (Fin.C_ rfl (CL.Eo _ _) rfl ?_ rfl ?_)
 .rw[if_neg h4];exact A0 _ _
 .exact int_eq (by rw[if_neg h4])
theorem nv(hl:l.length<=1000000):Aq prog 434 [O4 l] (O4 l):=by
 refine fo func434 rfl ⟨rfl,rfl⟩ fun M0 w0=>?_;refine a2 ?_;refine co rfl (Ex rfl underlying180 vq) ?_;refine ac ?_;refine Tr.ex 4 rfl (fun z1=>Tr.fact 4 rfl fun JG=>?_);refine Tr.cn rfl ?_ ?_<;>intro h1 q1
 have Y1:l=[]:=by have:=JG h1;simp_all
 refine a2 ?_
 .rw[Y1];exact AH 1
 refine ac ?_;refine ap ?_;refine TO.pad ?_;refine TO.EV 0 rfl rfl AB (FI rfl rfl rfl rfl underlying180 Fq Mo z5 Ec vq (Bv BW vq)) (fun v1=>?_);refine ap ?_;refine ac ?_
 .exact Pr.le_trans (A0 _ _) (Pr.le_of_eq rfl)
theorem Om{α:Type}{T:α->Int}{B:α->List Int}{N:α->Bool}{Q:α->Pr}[∀x,One (Q x)]{l:List α}  (h:∀x:α,Aq prog 429 [Q x] (Q x))(hb:∀x:α,(B x).length<=1000000)(hl:l.length<=1000):Aq prog 429 [slice 4 (l.map (fun x:α=>Bq (T x) (B x) (N x) (Q x)))] (slice 4 (l.map (fun x:α=>Bq (T x) (B x) (N x) (Q x)))):=by
 refine fo func429 rfl ⟨rfl,rfl⟩ fun M0 w0=>(Tr.Dr 0 rfl fun Dq=>?_);refine a3 ?_;refine Tr.block (Tr.Dt 248 4 (Tr.Ez _ (kk [7,6] rfl) (fun k u=>[(8,int ((k:Nat):Int)),(3,Aj u (slice 4 ((l.take k).map (fun x:α=>Bq (T x) (B x) (N x) (Q x)))))]) (fun k u=>Hp M0 w0 Ju ([Bc 248 4 u])) (fun k:Nat=>k<=(l).length) (fun k:Nat=>(l).length-k) 0 (.slice none 0 0) (Nat.zero_le _) ⟨kq,⟨_,rfl,DA rfl⟩,trivial⟩ (fun _ _ h=>h) ?_));rintro k u BN;refine ac ?_;refine Tr.seq ?_;refine Tr.cn rfl ?_ ?_<;>intro h1 q1
 have Ae:k<(l).length:=AQ h1;obtain⟨x,Ad⟩:=at_ Ae;refine ac ?_;refine Tr.seq (Tr.block (Tr.seq (Tr.At (tp rfl (AD rfl underlying246 BH vq vq AA (Ap Ad)) (tp rfl (AO rfl Bn BH vq rfl rfl) ?_)))));refine Tl rfl rfl rfl rfl EE DW (fun b1=>?_);refine ap ?_;refine Tr.seq (Tr.rx ?_);refine ay ?_;refine xo rfl (fun _=>BS (nv (hb x)) rfl rfl) ?_;refine ay ?_;refine xo rfl (fun _=>BS (h x) rfl rfl) ?_;refine ay ?_;refine Cx.nil ⟨by kernel_rfl,?_⟩;refine BG.done WN (Fin.go (wk [8,7,6,5,3] rfl ?_));refine ap ?_;refine TO.EV 1 rfl rfl AB (Bp rfl rfl AB rfl underlying246 BH TJ EE rfl AB Ij Ec F0 F1 (CA BW E4)) (fun v1=>?_);refine ap ?_;refine Tr.drop 0 ?_;refine ac ?_;exact Fin.EX (k+1) v1 (⟨Ae,by omega⟩) ⟨⟨_,rfl,AK k⟩,⟨_,rfl,CZ (by rw[GZ Ad,List.map_append];rfl)⟩,kz⟩ (fun _ _ h=>h);have BA:k=(l).length:=by have:=AU h1;omega
 subst BA;rw[List.take_length];refine a3 ?_
 .exact HM
theorem nw{α:Type}{T:α->Int}{B:α->List Int}{N:α->Bool}{Q:α->Pr}{l:List α}  (h:Aq prog 429 [slice 4 (l.map (fun x:α=>Bq (T x) (B x) (N x) (Q x)))] (slice 4 (l.map (fun x:α=>Bq (T x) (B x) (N x) (Q x))))):Aq prog 409 [slice 4 (l.map (fun x:α=>Bq (T x) (B x) (N x) (Q x)))] (agg (Bq 48 [] true (slice 4 (l.map (fun x:α=>Bq (T x) (B x) (N x) (Q x)))))):=by
 refine fo func409 rfl ⟨rfl,rfl⟩ fun M0 w0=>(Tr.seq (Tr.At ?_));refine Tl rfl rfl rfl rfl EE DW (fun b1=>?_);refine ap ?_;refine ap ?_;refine tp rfl (BS (h) rfl rfl) ?_;refine ap ?_;refine Tr.ret (Fin.B4 rfl (AL.cell 0 rfl rfl Bn BH rfl Lr) ?_)
 .exact Az ⟨Lr,AH 1,Lr,Lr,trivial⟩
theorem tw{α:Type}{T:α->Int}{B:α->List Int}{N:α->Bool}{Q:α->Pr}{l:List α}  (h:Aq prog 429 [slice 4 (l.map (fun x:α=>Bq (T x) (B x) (N x) (Q x)))] (slice 4 (l.map (fun x:α=>Bq (T x) (B x) (N x) (Q x))))):Aq prog 413 [slice 4 (l.map (fun x:α=>Bq (T x) (B x) (N x) (Q x)))] (agg (Bq 48 [] true (slice 4 (l.map (fun x:α=>Bq (T x) (B x) (N x) (Q x)))))):=by
 refine fo func413 rfl ⟨rfl,rfl⟩ fun M0 w0=>(Tr.seq (Tr.At ?_));refine Tl rfl rfl rfl rfl EE DW (fun b1=>?_);refine ap ?_;refine ap ?_;refine tp rfl (BS (nw h) rfl rfl) ?_;refine ap ?_;refine Tr.ret (Fin.B4 rfl (AL.cell 0 rfl rfl Bn BH rfl Lr) ?_)
 .exact Lr
def Ye(s:List UInt8):List Int:=s.map fun c=>((c.toNat:Nat):Int)
def nx(b:Bool):List Int:=if b then[255]else[0]
theorem t_{s:List UInt8}(hs:s.length<=1000):Aq prog 408 [str s] (agg (Bq 12 (Ye s) false (slice 4 []))):=by
 refine fo func408 rfl ⟨rfl,rfl⟩ fun M0 w0=>(Tr.seq (Tr.At ?_));refine Tl rfl rfl rfl rfl EE DW (fun b1=>?_);refine ap ?_;refine ap ?_;refine tp rfl (KL rfl underlying9 underlying180 underlying5 vq HJ) ?_;refine ap ?_;refine Tr.ret (Fin.B4 rfl (AL.cell 0 rfl rfl Bn BH rfl Lr) ?_)
 .exact ah
theorem uA{b:Bool}  :Aq prog 412 [bool b] (agg (Bq 1 (nx b) false (slice 4 []))):=by
 refine fo func412 rfl ⟨rfl,rfl⟩ fun M0 w0=>(Tr.seq (Tr.At ?_));refine Tl rfl rfl rfl rfl EE DW (fun b1=>?_);refine ap ?_;refine an ?_ ?_<;>intro h1 q1
 refine ap ?_;refine tp rfl (Al (rows:=[(0,[_]),(1,[_])]) rfl PG DW ⟨⟨rfl,Cf⟩,⟨⟨rfl,⟨_,rfl,Pr.le_trans (A_ _ _) (AV _)⟩⟩,trivial⟩⟩ rfl) ?_;refine ap ?_;refine Tr.ret (Fin.AF (Fin.B4 rfl (AL.cell 0 rfl rfl Bn BH rfl Lr) ?_))
 .exact UQ
 refine ac ?_;refine ap ?_;refine tp rfl (Al (rows:=[(0,[_]),(1,[_])]) rfl PG DW ⟨⟨rfl,Cf⟩,⟨⟨rfl,⟨_,rfl,Pr.le_trans (A_ _ _) (AV _)⟩⟩,trivial⟩⟩ rfl) ?_;refine ap ?_;refine Tr.ret (Fin.B4 rfl (AL.cell 0 rfl rfl Bn BH rfl Lr) ?_)
 .exact UQ
def G8(n:Int):List Int:=[n/72057594037927936 % 256,n/281474976710656 % 256,n/1099511627776 % 256,n/4294967296 % 256,n/16777216 % 256,n/65536 % 256,n/256 % 256,n % 256]
def trimB:List Int->List Int
 |a::b::r=>if a=0/\b<128 then trimB (b::r)else a::b::r
 |l=>l
def V9(n:Int):List Int:=trimB (G8 n)
theorem B_{a b:Int}{r:List Int}(h:a=0/\b<128):trimB (a::b::r)=trimB (b::r):=by conv=>lhs;unfold trimB;rw[if_pos h]
theorem Js{a b:Int}{r:List Int}(h:¬(a=0/\b<128)):trimB (a::b::r)=a::b::r:=by unfold trimB;rw[if_neg h]
theorem T8:∀l:List Int,(trimB l).length<=l.length
 |[]=>Nat.le_refl _
 |[_]=>Nat.le_refl _
 |a::b::r=>by
  unfold trimB
  split
  .have:=T8 (b::r);simp only[List.length_cons]at this ⊢;omega
  .exact Nat.le_refl _
theorem ny(n:Int):(V9 n).length<=8:=T8 (G8 n)
theorem zR{n:Int}(h0:0<=n)(hk:k<8):(G8 n)[k]? =some (IntKind.u8.wrap (n.fdiv (2 ^ (min (56-8*(k:Int)).toNat IntKind.u64.bits)))):=by
 rw[IntKind.wrap_u8]
 match k,hk with
 |0,_=>rw[show(2:Int) ^ (min (56-8*((0:Nat):Int)).toNat IntKind.u64.bits)=72057594037927936 from rfl,Int.fdiv_eq_ediv_of_nonneg n AA];rfl
 |1,_=>rw[show(2:Int) ^ (min (56-8*((1:Nat):Int)).toNat IntKind.u64.bits)=281474976710656 from rfl,Int.fdiv_eq_ediv_of_nonneg n AA];rfl
 |2,_=>rw[show(2:Int) ^ (min (56-8*((2:Nat):Int)).toNat IntKind.u64.bits)=1099511627776 from rfl,Int.fdiv_eq_ediv_of_nonneg n AA];rfl
 |3,_=>rw[show(2:Int) ^ (min (56-8*((3:Nat):Int)).toNat IntKind.u64.bits)=4294967296 from rfl,Int.fdiv_eq_ediv_of_nonneg n AA];rfl
 |4,_=>rw[show(2:Int) ^ (min (56-8*((4:Nat):Int)).toNat IntKind.u64.bits)=16777216 from rfl,Int.fdiv_eq_ediv_of_nonneg n AA];rfl
 |5,_=>rw[show(2:Int) ^ (min (56-8*((5:Nat):Int)).toNat IntKind.u64.bits)=65536 from rfl,Int.fdiv_eq_ediv_of_nonneg n AA];rfl
 |6,_=>rw[show(2:Int) ^ (min (56-8*((6:Nat):Int)).toNat IntKind.u64.bits)=256 from rfl,Int.fdiv_eq_ediv_of_nonneg n AA];rfl
 |7,_=>rw[show(2:Int) ^ (min (56-8*((7:Nat):Int)).toNat IntKind.u64.bits)=1 from rfl,Int.fdiv_one];rfl
theorem d_{a:Int}(h:l[k]? =some a):(La (l.drop k))[(0:Int).toNat]? =some [is (.int .u8 a)]:=by rw[List.getElem?_map,List.getElem?_drop,show k+(0:Int).toNat=k from rfl,h];rfl
theorem zS{a:Int}(h:l[k+1]? =some a):(La (l.drop k))[(1:Int).toNat]? =some [is (.int .u8 a)]:=by rw[List.getElem?_map,List.getElem?_drop,show k+(1:Int).toNat=k+1 from rfl,h];rfl
theorem n5{a b:Int}(ha:l[k]? =some a)(hb:l[k+1]? =some b):l.drop k=a::b::l.drop (k+2)/\l.drop (k+1)=b::l.drop (k+2):=by
 have h1:=A7 ha;have h2:=A7 hb;rw[List.getElem?_eq_getElem h1]at ha;rw[List.getElem?_eq_getElem h2]at hb;cases ha;cases hb;have e2:=List.drop_eq_getElem_cons h2;exact⟨by rw[List.drop_eq_getElem_cons h1,e2],e2⟩
theorem Ml{n:Int}(hn:0<=n/\n<=1099511627776):Aq prog 410 [int n] (agg (Bq 2 (V9 n) false (slice 4 []))):=by
 refine fo func410 rfl ⟨rfl,rfl⟩ fun M0 w0=>?_;have AGw:IntKind.u64.wrap n=n:=IntWalk.u64_in _ ⟨by omega,by omega⟩;refine Tr.seq (Tr.At ?_);refine Tl rfl rfl rfl rfl EE DW (fun b1=>?_);refine ap ?_;refine a2 ?_;refine Tr.block (Tr.Dt 5 1 (Tr.Wk _ (kk [2,0] rfl) (fun(k:Nat) u=>[(4,int (56-8*((k:Nat):Int))),(3,Aj u (O4 ((G8 n).take k)))]) (fun(k:Nat) u=>Hp M0 w0 Ju ([Bc 5 1 u,AE true b1 248 (([.int .i64 0,.slice none 0 0,.bool false,.slice none 0 0]:List Value).map is)])) (fun(k:Nat)=>k<=8) (fun(k:Nat)=>8-k) (0) (.slice none 0 0) (Nat.zero_le _) ⟨⟨_,rfl,int_eq AA⟩,⟨_,rfl,DA rfl⟩,trivial⟩ (fun _ _ h=>h) ?_));rintro k u hk8;refine an ?_ ?_<;>intro h1 q1
 have hk:k<8:=by have:=Fy.HC h1;omega
 have hat:=zR hn.1 hk;refine ac ?_;refine ap ?_;refine tp rfl (B9 rfl underlying3 underlying393 vq) (tm rfl (tp rfl (V6 rfl vq vq AA rfl) (tp rfl (B9 rfl underlying393 underlying5 vq) (tp rfl (AX (xs:=[.tmp 14]) (rows:=[[_]]) rfl rfl underlying180 Fq z5 rfl AB ⟨⟨Ab,Cf⟩,trivial⟩ AB) ?_))));refine TO.EV 0 rfl rfl AB (Bp rfl rfl AB rfl underlying180 Fq Mo z5 rfl AB Ij Ec F0 F1 (CA BW E4)) (fun v1=>?_);refine ap ?_;refine wk [4,3,2,0] rfl ?_;refine ac ?_;exact Fin.bg (k+1) v1 (⟨by omega,by omega⟩) ⟨⟨_,rfl,int_eq AA⟩,⟨_,rfl,CZ (by rw[GZ hat,AGw];exact(Ko _ _).symm)⟩,kz⟩ (fun _ _ h=>h);have hk:k=8:=by have:=Fy.HC h1;omega
 subst hk;refine ac ?_;refine Tr.seq (Tr.block ?_);refine Tr.GD _ (kk [2] rfl) (fun(k:Nat)=>[(3,O4 ((G8 n).drop k))]) (fun(k:Nat)=>Hp M0 w0 Ju ([Bc 5 1 u,AE true b1 248 (([.int .i64 0,.slice none 0 0,.bool false,.slice none 0 0]:List Value).map is)])) (fun(k:Nat)=>k<=7/\trimB ((G8 n).drop k)=trimB (G8 n)/\∀a,(G8 n)[k]? =some a->a<128) (fun(k:Nat)=>8-k) (0)  (⟨by omega,rfl,fun a h=>by cases h;omega⟩) ⟨⟨_,rfl,Pr.le_trans (A0 _ _) (Pr.le_of_eq rfl)⟩,trivial⟩ (fun _ _ h=>h) ?_;rintro k  ⟨hk1,htr,hhd⟩;obtain⟨a,ha⟩:=at_ (l:=G8 n) (k:=k) (show _<8 by omega);have hlt:=hhd a ha;refine ag ?_ ?_<;>intro h2 q2
 have hk7:k<7:=by have:=q2;simp[G8]at this;omega
 obtain⟨b,hb⟩:=at_ (l:=G8 n) (k:=k+1) (show _<8 by omega);obtain⟨hd1,hd2⟩:=n5 ha hb;refine JW h2 rfl (cy h2 rfl (AD rfl underlying180 Fq vq vq AA (d_ ha)) ?_);refine ag ?_ ?_<;>intro h3 q3
 have ha0:a=0:=by have:=q3;omega
 refine JW h3 rfl (cy h3 rfl (AD rfl underlying180 Fq vq vq AA (zS hb)) ?_);refine ag ?_ ?_<;>intro h4 q4
 have N0:a=0/\b<128:=by have:=q4;omega
 rw[hd1,B_ N0,←hd2]at htr;refine ac ?_;refine wk [43,3,2] rfl ?_;refine a2 ?_;refine co rfl (Db rfl underlying180 Fq vq vq AA Cg) ?_;refine ac ?_;exact Fin.ES (k+1)  (⟨⟨by omega,htr,fun c hc=>by rw[hb]at hc;cases hc;omega⟩,by omega⟩) ⟨⟨_,rfl,Pr.le_of_eq (by rw[←List.map_drop,List.drop_drop];rfl)⟩,kz⟩ (fun _ _ h=>h);have N0:¬(a=0/\b<128):=by have:=q4;omega
 have hex:(G8 n).drop k=V9 n:=by
  show _=trimB (G8 n);rw[←htr,hd1,Js N0]
 refine JW h4 rfl (cy h4 rfl (AD rfl underlying180 Fq vq vq AA (d_ ha)) ?_);refine ag ?_ ?_<;>intro h5 q5
 exfalso;have:=q5;omega;refine ac ?_;refine wk [43,3,2] rfl ?_;refine ac ?_;refine ap ?_;refine Tr.ret (Fin.B4 rfl (AL.cell 1 rfl rfl Bn BH rfl Lr) ?_)
 .exact Pu
 have ha0:¬a=0:=by have:=q3;omega
 have hex:(G8 n).drop k=V9 n:=by
  show _=trimB (G8 n);rw[←htr,hd1,Js (fun h=>ha0 h.1)]
 refine ac ?_;refine cy rfl rfl (AD rfl underlying180 Fq vq vq AA (d_ ha)) ?_;refine ag ?_ ?_<;>intro h6 q6
 exfalso;have:=q6;omega;refine ac ?_;refine wk [43,3,2] rfl ?_;refine ac ?_;refine ap ?_;refine Tr.ret (Fin.B4 rfl (AL.cell 1 rfl rfl Bn BH rfl Lr) ?_)
 .exact Pu
 have hk7:k=7:=by have:=q2;simp[G8]at this;omega
 have hex:(G8 n).drop k=V9 n:=by rw[hk7]at htr ⊢;exact htr
 refine ac ?_;refine wk [43,3,2] rfl ?_;refine ac ?_;refine ap ?_;refine Tr.ret (Fin.B4 rfl (AL.cell 1 rfl rfl Bn BH rfl Lr) ?_)
 .exact Pu
theorem zT{n:Int}(h:n=1\/n=2\/n=12\/n=48):Aq prog 255 [int n] (bool true):=by
 refine fo func255 rfl ⟨rfl,rfl⟩ fun M0 w0=>?_;refine ac ?_;refine ag ?_ ?_<;>intro h1 q1
 refine ag ?_ ?_<;>intro h2 q2
 refine JW h2 rfl (cy h2 rfl (L6 rfl vq vq AA) ?_);refine a2 ?_
 .refine bool_eq ?_;rcases h with rfl|rfl|rfl|rfl<;>decide
 refine a2 ?_
 .exact P7
 refine a2 ?_
 .exact P7
theorem OkV.quo{α:Type}{t:Int}{b:List Int}{n:Bool}{l:List α}(h:OkV t b n l):((IntKind.i64.wrap (t.tdiv 32)).tmod 2==1)=n:=by
 rcases h.h with⟨rfl,h1,_⟩|⟨rfl,rfl,_⟩
 .rcases h1 with rfl|rfl|rfl<;>decide
 .decide
theorem On{α:Type}{T:α->Int}{B:α->List Int}{N:α->Bool}{Q:α->Pr}{l:List α}{t:Int}{b:List Int}{n:Bool}  (ok:OkV t b n l)(h:∀x:α,Aq prog 209 [agg (Bq (T x) (B x) (N x) (Q x))] (bool true)):Aq prog 209 [agg (Bq t b n (slice 4 (l.map (fun x:α=>Bq (T x) (B x) (N x) (Q x)))))] (bool true):=by
 refine fo func209 rfl ⟨rfl,rfl⟩ fun M0 w0=>(Tr.Wb 0 1 rfl rfl fun tr=>(Tr.Wb 0 3 rfl rfl fun Nu=>?_));have jl:=ok.quo;refine ac ?_;refine ac ?_;refine co rfl (BS (zT ok.tag) rfl rfl) (co rfl (KG rfl vq) (cm rfl ?_));refine Ch.cs 8 rfl ?_ ?_<;>intro h1 q1
 cases h1;refine cy h1 rfl (Lf rfl VC rfl rfl) (cy h1 rfl (FO rfl e9 rfl) (cy h1 rfl (Lf rfl VB rfl rfl) (cy h1 rfl (FO rfl DP rfl) (cy h1 rfl (N7 rfl (vl rfl) (vl rfl) AA) (cy h1 rfl (L6 rfl (vl rfl) (vl rfl) AA) (cy h1 rfl (ki rfl rfl rfl rfl) (cy h1 rfl (Uy rfl underlying4 (vl rfl) (vl rfl)) ?_)))))));refine ac ?_;refine Ch.cs 18 rfl ?_ ?_<;>intro h2 q2
 exfalso;rcases ok.h with⟨rfl,Tz,rfl⟩|⟨rfl,Tz,rfl⟩<;>simp_all
 refine ac ?_;refine Ch.cs 21 rfl ?_ ?_<;>intro h3 q3
 refine ac ?_;refine Ch.cs 28 rfl ?_ ?_<;>intro h4 q4
 exfalso;rcases ok.h with⟨rfl,Tz,rfl⟩|⟨rfl,Tz,rfl⟩<;>simp_all
 refine ac ?_;refine Ch.cs 32 rfl ?_ ?_<;>intro h5 q5
 refine ac ?_;refine wk [38,1] rfl ?_;refine Tr.cn rfl ?_ ?_<;>intro h6 q6
 exfalso;rcases ok.h with⟨rfl,Tz,rfl⟩|⟨rfl,Tz,rfl⟩<;>simp_all
 refine ac ?_;refine ac ?_;refine Tr.block (Tr.BV _ (kk [1] rfl) (fun k:Nat=>[(3,int ((k:Nat):Int))]) (fun k:Nat=>k<=(l).length) (fun k:Nat=>(l).length-k) 0 (Nat.zero_le _) kz ?_);rintro k BN;refine ac ?_;refine Tr.cn rfl ?_ ?_<;>intro h7 q7
 have Ae:k<(l).length:=AQ h7;obtain⟨x,Ad⟩:=at_ Ae;refine ac ?_;refine ac ?_;refine co rfl (AD rfl underlying246 BH vq vq AA (Ap Ad)) (co rfl (AO rfl Bn BH vq rfl rfl) (co rfl (BS (h x) rfl rfl) ?_));refine ac ?_;refine wk [52,3,1] rfl ?_;refine Tr.cn rfl ?_ ?_<;>intro h8 q8
 cases h8;refine ac ?_;refine ac ?_;exact Fin.AP (k+1) ⟨Ae,by omega⟩ ⟨⟨_,rfl,AK k⟩,kz⟩;have BA:k=(l).length:=by have:=AU h7;omega
 refine ac ?_;refine ac ?_;refine ac ?_
 .exact Lr
 refine ac ?_;refine wk [38,1] rfl ?_;refine ac ?_;refine ac ?_;refine Tr.block (Tr.BV _ (kk [1] rfl) (fun k:Nat=>[(3,int ((k:Nat):Int))]) (fun k:Nat=>k<=(l).length) (fun k:Nat=>(l).length-k) 0 (Nat.zero_le _) kz ?_);rintro k BN;refine ac ?_;refine Tr.cn rfl ?_ ?_<;>intro h9 q9
 have Ae:k<(l).length:=AQ h9;obtain⟨x,Ad⟩:=at_ Ae;refine ac ?_;refine ac ?_;refine co rfl (AD rfl underlying246 BH vq vq AA (Ap Ad)) (co rfl (AO rfl Bn BH vq rfl rfl) (co rfl (BS (h x) rfl rfl) ?_));refine ac ?_;refine wk [52,3,1] rfl ?_;refine Tr.cn rfl ?_ ?_<;>intro h10 NT
 cases h10;refine ac ?_;refine ac ?_;exact Fin.AP (k+1) ⟨Ae,by omega⟩ ⟨⟨_,rfl,AK k⟩,kz⟩;have BA:k=(l).length:=by have:=AU h9;omega
 refine ac ?_;refine ac ?_;refine ac ?_
 .exact Lr
 refine ac ?_;refine Ch.cs 32 rfl ?_ ?_<;>intro h11 Rl
 refine ac ?_;refine wk [38,1] rfl ?_;refine Tr.cn rfl ?_ ?_<;>intro h12 Tn
 exfalso;rcases ok.h with⟨rfl,Tz,rfl⟩|⟨rfl,Tz,rfl⟩<;>simp_all
 refine ac ?_;refine ac ?_;refine Tr.block (Tr.BV _ (kk [1] rfl) (fun k:Nat=>[(3,int ((k:Nat):Int))]) (fun k:Nat=>k<=(l).length) (fun k:Nat=>(l).length-k) 0 (Nat.zero_le _) kz ?_);rintro k BN;refine ac ?_;refine Tr.cn rfl ?_ ?_<;>intro LX YN
 have Ae:k<(l).length:=AQ LX;obtain⟨x,Ad⟩:=at_ Ae;refine ac ?_;refine ac ?_;refine co rfl (AD rfl underlying246 BH vq vq AA (Ap Ad)) (co rfl (AO rfl Bn BH vq rfl rfl) (co rfl (BS (h x) rfl rfl) ?_));refine ac ?_;refine wk [52,3,1] rfl ?_;refine Tr.cn rfl ?_ ?_<;>intro MW mY
 cases MW;refine ac ?_;refine ac ?_;exact Fin.AP (k+1) ⟨Ae,by omega⟩ ⟨⟨_,rfl,AK k⟩,kz⟩;have BA:k=(l).length:=by have:=AU LX;omega
 refine ac ?_;refine ac ?_;refine ac ?_
 .exact Lr
 refine ac ?_;refine wk [38,1] rfl ?_;refine ac ?_;refine ac ?_;refine Tr.block (Tr.BV _ (kk [1] rfl) (fun k:Nat=>[(3,int ((k:Nat):Int))]) (fun k:Nat=>k<=(l).length) (fun k:Nat=>(l).length-k) 0 (Nat.zero_le _) kz ?_);rintro k BN;refine ac ?_;refine Tr.cn rfl ?_ ?_<;>intro Ss pS
 have Ae:k<(l).length:=AQ Ss;obtain⟨x,Ad⟩:=at_ Ae;refine ac ?_;refine ac ?_;refine co rfl (AD rfl underlying246 BH vq vq AA (Ap Ad)) (co rfl (AO rfl Bn BH vq rfl rfl) (co rfl (BS (h x) rfl rfl) ?_));refine ac ?_;refine wk [52,3,1] rfl ?_;refine Tr.cn rfl ?_ ?_<;>intro h16 q16
 cases h16;refine ac ?_;refine ac ?_;exact Fin.AP (k+1) ⟨Ae,by omega⟩ ⟨⟨_,rfl,AK k⟩,kz⟩;have BA:k=(l).length:=by have:=AU Ss;omega
 refine ac ?_;refine ac ?_;refine ac ?_
 .exact Lr
theorem SI{α:Type}{T:α->Int}{B:α->List Int}{N:α->Bool}{Q:α->Pr}{l:List α}{t:Int}{b:List Int}{n:Bool}(h:∀x:α,Aq prog 210 [agg (Bq (T x) (B x) (N x) (Q x))] (Cp.ex fun d:Int=>fact (0<=d/\d<=(m:Nat)) (int d)))(hm:m<=1000):Aq prog 210 [agg (Bq t b n (slice 4 (l.map (fun x:α=>Bq (T x) (B x) (N x) (Q x)))))] (Cp.ex fun d:Int=>fact (0<=d/\d<=(m+1:Nat)) (int d)):=by
 refine fo func210 rfl ⟨rfl,rfl⟩ fun M0 w0=>(Tr.Wb 0 3 rfl rfl fun Nu=>?_);refine a3 ?_;refine Tr.block (Tr.BV _ (kk [1] rfl) (fun k:Nat=>[(4,int ((k:Nat):Int)),(3,Cp.ex fun d:Int=>fact (0<=d/\d<=(m:Nat)) (int d))]) (fun k:Nat=>k<=(l).length) (fun k:Nat=>(l).length-k) 0 (Nat.zero_le _) ⟨kq,⟨_,rfl,Co 0 (EG AA Lr)⟩,trivial⟩ ?_);rintro k BN;refine Tr.ex 3 rfl fun d3=>Tr.fact 3 rfl fun hd3=>?_;refine an ?_ ?_<;>intro h1 q1
 have Ae:k<(l).length:=AQ h1;obtain⟨x,Ad⟩:=at_ Ae;refine ac ?_;refine ap ?_;refine tp rfl (AD rfl underlying246 BH vq vq AA (Ap Ad)) (tp rfl (AO rfl Bn BH vq rfl rfl) (tp rfl (BS (h x) rfl rfl) ?_));refine TO.ex 18 rfl (fun z18=>TO.fact 18 rfl fun ADL=>?_);refine tp rfl (Ur rfl vq vq) ?_;refine ap ?_;refine wk [4,3,1] rfl ?_;refine ac ?_;exact Fin.AP (k+1) ⟨Ae,by omega⟩ ⟨⟨_,rfl,AK k⟩,⟨_,rfl,Co _ (EG AA Lr)⟩,kz⟩;have BA:k=(l).length:=by have:=AU h1;omega
 refine ac ?_;refine ap ?_;refine ac ?_
 .exact Uj
theorem hO{n:Int}(h0:0<=n)(h1:n<65536):Aq prog 256 [int n] (O4 (Hz n)):=by
 refine fo func256 rfl ⟨rfl,rfl⟩ fun M0 w0=>?_;refine ac ?_;refine an ?_ ?_<;>intro h1 q1
 refine ac ?_;refine co rfl (B9 rfl underlying3 underlying5 vq) ?_;refine a2 ?_
 .refine Pr.le_trans (A_ 1 _) (Pr.le_of_eq ?_);rw[PU h0 AA];unfold Hz;rw[if_pos AA];rfl
 refine a2 ?_;refine Tr.seq (Tr.block (Tr.Dt 5 1 (Tr.RL [] trivial (fun(m:Int) (c:List Int) u=>[(0,int m),(3,Aj u (O4 c))]) (fun(m:Int) (c:List Int) u=>Hp M0 w0 Ju ([Bc 5 1 u])) (fun(m:Int) (c:List Int)=>(m=n/\c=[])\/(m=n/256/\c=[n % 256])\/(m=n/256/256/\c=[n/256,n % 256]/\256<=n)) (fun(m:Int) (c:List Int)=>m.toNat) (n) ([]) (.slice none 0 0) (.inl ⟨rfl,rfl⟩) ⟨kq,⟨_,rfl,DA rfl⟩,trivial⟩ (fun _ _ h=>h) ?_)));rintro m c u bY;have ew:c.length<=2:=by rcases bY with⟨_,rfl⟩|⟨_,rfl⟩|⟨_,rfl,_⟩<;>simp
 refine an ?_ ?_<;>intro h2 q2
 have hm0:=Fy.HC h2;have hwm:IntKind.u8.wrap (m.tmod 256)=m % 256:=by rw[IntKind.wrap_u8,Int.tmod_eq_emod_of_nonneg AA];omega
 refine ac ?_;refine ap ?_;refine tp rfl (L6 rfl vq vq AA) (tp rfl (B9 rfl underlying3 underlying5 vq) ?_);refine ap ?_;refine TO.pad ?_;refine TO.EV 0 rfl rfl AB (Bp rfl rfl AB rfl underlying180 Fq Mo z5 rfl AB Ec Ij F0 F1 (Bv BW vq)) (fun v1=>?_);refine ap ?_;refine ac ?_;refine co rfl (N7 rfl vq vq AA) ?_;refine ac ?_;refine Fin.drop 1 ?_;exact Fin.EJ (m/256) ((m % 256)::c) v1 (⟨by rcases bY with⟨rfl,rfl⟩|⟨rfl,rfl⟩|⟨rfl,rfl,h2_⟩;exact .inr (.inl ⟨rfl,rfl⟩);exact .inr (.inr ⟨rfl,by rw[show n/256 % 256=n/256 by omega],by omega⟩);(exfalso;omega),by omega⟩) ⟨⟨_,rfl,int_eq (by rw[Int.tdiv_eq_ediv_of_nonneg AA,Gt H8])⟩,⟨_,rfl,CZ (by rw[hwm];rfl)⟩,trivial⟩ (fun _ _ h=>h);have hm0:=Fy.HC h2;refine ac ?_;refine ap ?_;refine tp rfl (Gu rfl underlying180 Ij) ?_;refine tp rfl (Hf rfl vq vq ?hin) ?_;case hin=>unfold Sb;omega
 refine tp rfl (B9 rfl underlying3 underlying5 vq) ?_;refine ap ?_;refine TO.pad ?_;refine TO.EV 0 rfl rfl AB (Bp rfl rfl AB rfl underlying180 Fq Mo z5 rfl AB Ec Ij F0 F1 (Bv BW vq)) (fun v2=>?_);refine ap ?_;refine ac ?_
 .refine Pr.le_trans (A0 _ _) (Pr.le_of_eq ?_);unfold Hz;rw[if_neg AA];rcases bY with⟨rfl,rfl⟩|⟨rfl,rfl⟩|⟨rfl,rfl,h2_⟩;(exfalso;omega);(rw[if_pos AA,show n % 256=n by omega];rfl);(rw[if_neg AA];rfl)
theorem Zw{α:Type}{T:α->Int}{B:α->List Int}{N:α->Bool}{Q:α->Pr}{l:List α}{t:Int}{b:List Int}{n:Bool}{g:α->List Int}{M:Nat}  (hE:∀x:α,Aq prog 211 [agg (Bq (T x) (B x) (N x) (Q x))] (O4 (g x)))(hg:∀x∈l,(g x).length<=M)(hM:l.length*M<=20000)(hb:b.length<=20000)(ht:0<=t/\t<256):Aq prog 211 [agg (Bq t b n (slice 4 (l.map (fun x:α=>Bq (T x) (B x) (N x) (Q x)))))] (O4 (Oh t (b++l.flatMap g))):=by
 refine fo func211 rfl ⟨rfl,rfl⟩ fun M0 w0=>(Tr.Wb 0 3 rfl rfl fun Nu=>?_);refine ac ?_;refine ap ?_;refine TO.pad ?_;refine TO.EV 0 rfl rfl AB (Bp rfl rfl AB rfl underlying180 Fq Mo z5 rfl AB Ec vq F0 F1 (Bv BW vq)) (fun v1=>?_);refine ap ?_;refine ac ?_;refine Tr.block (Tr.Ez _ (kk [1] rfl) (fun k u=>[(4,int ((k:Nat):Int)),(3,Aj u (O4 (b++(l.take k).flatMap g)))]) (fun k u=>Hp M0 w0 Ju ([Bc 5 1 u])) (fun k:Nat=>k<=(l).length) (fun k:Nat=>(l).length-k) 0 v1 (Nat.zero_le _) ⟨kq,⟨_,rfl,CZ Ai⟩,trivial⟩ (fun _ _ h=>h) ?_);rintro k u BN;have hfl:=Nt k hg;refine an ?_ ?_<;>intro h1 q1
 have Ae:k<(l).length:=AQ h1;obtain⟨x,Ad⟩:=at_ Ae;have hgx:=hg x (List.mem_of_getElem? Ad);have hM1:M<=20000:=Nat.le_trans (Nat.le_mul_of_pos_left M AA) hM;refine ac ?_;refine ap ?_;refine tp rfl (AD rfl underlying246 BH vq vq AA (Ap Ad)) (tp rfl (AO rfl Bn BH vq rfl rfl) (tp rfl (BS (hE x) rfl rfl) ?_));refine TO.EV 0 rfl rfl AB (Bp rfl rfl AB rfl underlying180 Fq Mo z5 rfl AB Ij vq F0 F1 (CA BW E4)) (fun v2=>?_);refine ap ?_;refine wk [4,3,1] rfl ?_;refine ac ?_;exact Fin.EX (k+1) v2 (⟨Ae,by omega⟩) ⟨⟨_,rfl,AK k⟩,⟨_,rfl,CZ (by rw[Oj Ad];simp)⟩,kz⟩ (fun _ _ h=>h);have BA:k=(l).length:=by have:=AU h1;omega
 subst BA;rw[List.take_length]at hfl ⊢;have jE:=(Ns ((b++l.flatMap g).length:Nat)).2;have AHl:=(Ns ((b.length+(l.flatMap g).length:Nat):Int)).2;refine ac ?_;refine Tr.seq (Tr.pad (Tr.rx ?_));refine ay ?_;refine xo rfl (fun _=>B9 rfl underlying3 underlying5 vq) (xo rfl (fun _=>AX (xs:=[.tmp 26]) (rows:=[[_]]) rfl rfl underlying180 Fq z5 rfl AB ⟨⟨Ab,Cf⟩,trivial⟩ AB) ?_);refine xm rfl (xo rfl (fun _=>Gu rfl underlying180 Ij) ?_);refine xo rfl (fun _=>Aa rfl (hO (n:=((b++l.flatMap g).length:Nat)) AA (by rw[List.length_append];omega)) ⟨⟨_,rfl,int_eq Ai⟩,trivial⟩) ?_;refine Cx.ef 0 rfl rfl AB (Bp rfl rfl AB rfl underlying180 Fq Mo z5 rfl AB Ec vq F0 F1 (Bv BW vq)) ?_;refine xm rfl ?_;refine Cx.ef 0 rfl rfl AB (Bp rfl rfl AB rfl underlying180 Fq Mo z5 rfl AB vq Ij F0 F1 TD) ?_;refine Cx.ef 0 rfl rfl AB (ND rfl rfl AB rfl vq) ?_;refine Cx.nil ⟨by kernel_rfl,?_⟩;refine BG.open_ 0 2 rfl rfl (fun v3=>?_);refine BG.done WN (Fin.go (wk [2] rfl ?_));refine ac ?_
 .refine Pr.le_trans (A0 _ _) (Pr.le_of_eq ?_);rw[PU ht.1 ht.2];unfold O4;simp[Oh]
theorem hY{e b:List Int}{t:Int}{n:Bool}{q:Pr}  (hf:Aq prog 209 [agg (Bq t b n q)] (bool true))(hd:Aq prog 210 [agg (Bq t b n q)] (Cp.ex fun d:Int=>fact (0<=d/\d<=(16:Nat)) (int d)))(he:Aq prog 211 [agg (Bq t b n q)] (O4 e)):Aq prog 156 [agg (Bq t b n q)] (EB [O4 (if 4096<e.length then[]else e),int (if 4096<e.length then 3 else 0)]):=by
 refine fo func156 rfl ⟨rfl,rfl⟩ fun M0 w0=>?_;refine a2 ?_;refine co rfl (BS (hf) rfl rfl) ?_;refine an ?_ ?_<;>intro h1 q1
 cases h1;refine ac ?_;refine ap ?_;refine tp rfl (BS (hd) rfl rfl) ?_;refine TO.ex 9 rfl (fun z9=>TO.fact 9 rfl fun hz9=>?_);refine ap ?_;refine Tr.cn rfl ?_ ?_<;>intro h2 q2
 exfalso;have:=q2;omega;refine a2 ?_;refine co rfl (BS (he) rfl rfl) ?_;refine a2 ?_;refine wk [15,4] rfl ?_;refine Tr.cn rfl ?_ ?_<;>intro h3 q3
 have h4:4096<e.length:=by have:=q3;omega
 refine ac ?_;refine Tr.ret (Fin.AF (Fin.C_ rfl (CL.Eo _ _) rfl ?_ rfl ?_))
 .rw[if_pos h4];exact AH 1
 .exact int_eq (by rw[if_pos h4])
 have h4:¬4096<e.length:=by have:=q3;omega
 refine a2 ?_;refine Tr.ret (Fin.C_ rfl (CL.Eo _ _) rfl ?_ rfl ?_)
 .rw[if_neg h4];exact Lr
 .exact int_eq (by rw[if_neg h4])
theorem Oo{α:Type}{T:α->Int}{B:α->List Int}{N:α->Bool}{Q:α->Pr}[∀x,One (Q x)]{l:List α}  (h:∀x:α,Aq prog 257 [Q x] (Q x))(hb:∀x:α,(B x).length<=1000000)(hl:l.length<=1000):Aq prog 257 [slice 4 (l.map (fun x:α=>Bq (T x) (B x) (N x) (Q x)))] (slice 4 (l.map (fun x:α=>Bq (T x) (B x) (N x) (Q x)))):=by
 refine fo func257 rfl ⟨rfl,rfl⟩ fun M0 w0=>(Tr.Dr 0 rfl fun Dq=>?_);refine ac ?_;refine ac ?_;refine ac ?_;refine Tr.block (Tr.Dt 248 4 (Tr.Ez _ (kk [0] rfl) (fun k u=>[(4,int ((k:Nat):Int)),(3,Aj u (slice 4 ((l.take k).map (fun x:α=>Bq (T x) (B x) (N x) (Q x)))))]) (fun k u=>Hp M0 w0 Ju ([Bc 248 4 u])) (fun k:Nat=>k<=(l).length) (fun k:Nat=>(l).length-k) 0 (.slice none 0 0) (Nat.zero_le _) ⟨kq,⟨_,rfl,DA rfl⟩,trivial⟩ (fun _ _ h=>h) ?_));rintro k u BN;refine ac ?_;refine Tr.cn rfl ?_ ?_<;>intro h1 q1
 have Ae:k<(l).length:=AQ h1;obtain⟨x,Ad⟩:=at_ Ae;have hbx:=hb x;refine ac ?_;refine ap ?_;refine tp rfl (AD rfl underlying246 BH vq vq AA (Ap Ad)) (tp rfl (AO rfl Bn BH vq rfl rfl) ?_);refine Tl rfl rfl rfl rfl EE DW (fun b1=>?_);refine ap ?_;refine ap ?_;refine TO.pad ?_;refine TO.EV 0 rfl rfl AB (Bp rfl rfl AB rfl underlying180 Fq Mo z5 rfl AB Ec vq F0 F1 (Bv BW vq)) (fun v1=>?_);refine ap ?_;refine wk [5,4,3,0] rfl ?_;refine ap ?_;refine tp rfl (BS (h x) rfl rfl) ?_;refine ap ?_;refine Tr.At (tm rfl (TO.rd 1 rfl rfl rfl AB (Di rfl Bn BH (vl rfl) rfl rfl) (tp rfl (AX (xs:=[.tmp 26]) (rows:=[Bq (T x) (B x) (N x) (Q x)]) rfl rfl underlying246 BH EE rfl AB ⟨⟨Ab,VL.le (vl rfl) (Pr.le_trans (Az (qs:=Bq (T x) (B x) (N x) (Q x)) ⟨Lr,Pr.le_trans (A0 _ _) (Pr.le_of_eq rfl),Lr,Lr,trivial⟩) (AJ _))⟩,trivial⟩ AB) ?_)));refine TO.EV 2 rfl rfl AB (Bp rfl rfl AB rfl underlying246 BH TJ EE rfl AB Ij Ec F0 F1 (CA BW E4)) (fun v2=>?_);refine ap ?_;refine Tr.drop 1 ?_;refine ac ?_;refine Fin.drop 0 ?_;exact Fin.EX (k+1) v2 (⟨Ae,by omega⟩) ⟨⟨_,rfl,AK k⟩,⟨_,rfl,CZ (by rw[GZ Ad,List.map_append];rfl)⟩,kz⟩ (fun _ _ h=>h);have BA:k=(l).length:=by have:=AU h1;omega
 subst BA;rw[List.take_length];refine ac ?_;refine ac ?_;refine ac ?_
 .exact HM
theorem V_{α:Type}{T:α->Int}{B:α->List Int}{N:α->Bool}{Q:α->Pr}{l:List α}  (h:Aq prog 257 [slice 4 (l.map (fun x:α=>Bq (T x) (B x) (N x) (Q x)))] (slice 4 (l.map (fun x:α=>Bq (T x) (B x) (N x) (Q x))))):Aq prog 213 [slice 4 (l.map (fun x:α=>Bq (T x) (B x) (N x) (Q x)))] (agg (Bq 48 [] true (slice 4 (l.map (fun x:α=>Bq (T x) (B x) (N x) (Q x)))))):=by
 refine fo func213 rfl ⟨rfl,rfl⟩ fun M0 w0=>(Tr.seq (Tr.At ?_));refine Tl rfl rfl rfl rfl EE DW (fun b1=>?_);refine ap ?_;refine ap ?_;refine tp rfl (BS (h) rfl rfl) ?_;refine ap ?_;refine Tr.ret (Fin.B4 rfl (AL.cell 0 rfl rfl Bn BH rfl Lr) ?_)
 .exact Az ⟨Lr,AH 1,Lr,Lr,trivial⟩
theorem uB{s:List UInt8}(hs:s.length<=1000):Aq prog 212 [str s] (agg (Bq 12 (Ye s) false (slice 4 []))):=by
 refine fo func212 rfl ⟨rfl,rfl⟩ fun M0 w0=>(Tr.seq (Tr.At ?_));refine Tl rfl rfl rfl rfl EE DW (fun b1=>?_);refine ap ?_;refine ap ?_;refine tp rfl (KL rfl underlying9 underlying180 underlying5 vq HJ) ?_;refine ap ?_;refine Tr.ret (Fin.B4 rfl (AL.cell 0 rfl rfl Bn BH rfl Lr) ?_)
 .exact ah
theorem uC{b:Bool}  :Aq prog 216 [bool b] (agg (Bq 1 (nx b) false (slice 4 []))):=by
 refine fo func216 rfl ⟨rfl,rfl⟩ fun M0 w0=>(Tr.seq (Tr.At ?_));refine Tl rfl rfl rfl rfl EE DW (fun b1=>?_);refine ap ?_;refine an ?_ ?_<;>intro h1 q1
 refine ap ?_;refine tp rfl (Al (rows:=[(0,[_]),(1,[_])]) rfl PG DW ⟨⟨rfl,Cf⟩,⟨⟨rfl,⟨_,rfl,Pr.le_trans (A_ _ _) (AV _)⟩⟩,trivial⟩⟩ rfl) ?_;refine ap ?_;refine Tr.ret (Fin.AF (Fin.B4 rfl (AL.cell 0 rfl rfl Bn BH rfl Lr) ?_))
 .exact UQ
 refine ac ?_;refine ap ?_;refine tp rfl (Al (rows:=[(0,[_]),(1,[_])]) rfl PG DW ⟨⟨rfl,Cf⟩,⟨⟨rfl,⟨_,rfl,Pr.le_trans (A_ _ _) (AV _)⟩⟩,trivial⟩⟩ rfl) ?_;refine ap ?_;refine Tr.ret (Fin.B4 rfl (AL.cell 0 rfl rfl Bn BH rfl Lr) ?_)
 .exact UQ
theorem jf{a:Int}(h:l[6-k]? =some a)(hk:k<=6):slice 1 (La (l.drop (6-k)))=slice 1 ([[is (.int .u8 a)]]++La (l.drop (7-k))):=by
 have h1:=A7 h;rw[List.getElem?_eq_getElem h1]at h;cases h;rw[List.drop_eq_getElem_cons h1,show 6-k+1=7-k by omega];rfl
def xk(n:Int):Nat->Int
 |0=>n/256
 |k+1=>xk n k/256
theorem zU{n:Int}(hk:k<=6):(G8 n)[6-k]? =some (IntKind.u8.wrap (xk n k)):=by
 rw[IntKind.wrap_u8]
 match k,hk with
 |0,_=>rfl
 |1,_=>exact congrArg some (by show n/65536 % 256=n/256/256 % 256;omega)
 |2,_=>exact congrArg some (by show n/16777216 % 256=n/256/256/256 % 256;omega)
 |3,_=>exact congrArg some (by show n/4294967296 % 256=n/256/256/256/256 % 256;omega)
 |4,_=>exact congrArg some (by show n/1099511627776 % 256=n/256/256/256/256/256 % 256;omega)
 |5,_=>exact congrArg some (by show n/281474976710656 % 256=n/256/256/256/256/256/256 % 256;omega)
 |6,_=>exact congrArg some (by show n/72057594037927936 % 256=n/256/256/256/256/256/256/256 % 256;omega)
theorem zV{n:Int}{h:Int}(h0:0<=n)(h1:n<=1099511627776)(hk:k<=5)(hh:(G8 n)[7-k]? =some h)(hx:xk n k=0)(hl:h<128)(hg:∀g,(G8 n)[8-k]? =some g->k≠0->xk n (k-1)≠0\/128<=g):(G8 n).drop (7-k)=V9 n:=by
 symm
 unfold V9
 match k,hk with
 |0,_=>cases hh;unfold xk at hx;show trimB [_,_,_,_,_,_,_,_]=[n % 256];rw[B_ ⟨by omega,by omega⟩,B_ ⟨by omega,by omega⟩,B_ ⟨by omega,by omega⟩,B_ ⟨by omega,by omega⟩,B_ ⟨by omega,by omega⟩,B_ ⟨by omega,by omega⟩,B_ ⟨by omega,by omega⟩];rfl
 |1,_=>cases hh;have hg:=hg _ rfl AB;simp only[xk,Nat.sub_self]at hx hg;show trimB [_,_,_,_,_,_,_,_]=[n/256 % 256,n % 256];rw[B_ ⟨by omega,by omega⟩,B_ ⟨by omega,by omega⟩,B_ ⟨by omega,by omega⟩,B_ ⟨by omega,by omega⟩,B_ ⟨by omega,by omega⟩,B_ ⟨by omega,by omega⟩,Js AA]
 |2,_=>cases hh;have hg:=hg _ rfl AB;simp only[xk]at hx hg;show trimB [_,_,_,_,_,_,_,_]=[n/65536 % 256,n/256 % 256,n % 256];rw[B_ ⟨by omega,by omega⟩,B_ ⟨by omega,by omega⟩,B_ ⟨by omega,by omega⟩,B_ ⟨by omega,by omega⟩,B_ ⟨by omega,by omega⟩,Js AA]
 |3,_=>cases hh;have hg:=hg _ rfl AB;simp only[xk]at hx hg;show trimB [_,_,_,_,_,_,_,_]=[n/16777216 % 256,n/65536 % 256,n/256 % 256,n % 256];rw[B_ ⟨by omega,by omega⟩,B_ ⟨by omega,by omega⟩,B_ ⟨by omega,by omega⟩,B_ ⟨by omega,by omega⟩,Js AA]
 |4,_=>cases hh;have hg:=hg _ rfl AB;simp only[xk]at hx hg;show trimB [_,_,_,_,_,_,_,_]=[n/4294967296 % 256,n/16777216 % 256,n/65536 % 256,n/256 % 256,n % 256];rw[B_ ⟨by omega,by omega⟩,B_ ⟨by omega,by omega⟩,B_ ⟨by omega,by omega⟩,Js AA]
 |5,_=>cases hh;have hg:=hg _ rfl AB;simp only[xk]at hx hg;show trimB [_,_,_,_,_,_,_,_]=[n/1099511627776 % 256,n/4294967296 % 256,n/16777216 % 256,n/65536 % 256,n/256 % 256,n % 256];rw[B_ ⟨by omega,by omega⟩,B_ ⟨by omega,by omega⟩,Js AA]
theorem eA{n:Int}{h:Int}(h0:0<=n)(h1:n<=1099511627776)(hh:(G8 n)[7-5]? =some h):xk n 5=0/\h<128:=by
 cases hh;exact⟨by show n/256/256/256/256/256/256=0;omega,by show n/1099511627776 % 256<128;omega⟩
theorem Mm{n:Int}(hn:0<=n/\n<=1099511627776):Aq prog 214 [int n] (agg (Bq 2 (V9 n) false (slice 4 []))):=by
 refine Aq.of func214 rfl rfl Ag fun M0 w0=>?_;refine Tr.seq (Tr.At ?_);refine Tl rfl rfl rfl rfl EE DW (fun b1=>?_);refine TO.nil (Fin.go (Tr.seq (Tr.Bo (cm rfl (co rfl (B9 rfl underlying3 underlying5 (vl rfl)) (co rfl (AX (xs:=[.tmp 6]) (rows:=[[_]]) rfl rfl underlying180 Fq z5 rfl AB ⟨⟨Ab,(Vo rfl)⟩,trivial⟩ AB) ?_))))));refine cm rfl (Ch.nil (Fin.go (Tr.seq (Tr.seq (Tr.Bo (cm rfl (co rfl (Nv rfl (vl rfl) (vl rfl) AA) (cm rfl (Ch.nil (Fin.go (Tr.block ?_)))))))))));refine Tr.GD [(2,_)] ⟨ke rfl,trivial⟩ (fun(k:Nat)=>[(4,int (xk n k)),(3,O4 ((G8 n).drop (7-k)))]) (fun(k:Nat)=>Hp M0 w0 Ju ([AE true b1 248 (([.int .i64 0,.slice none 0 0,.bool false,.slice none 0 0]:List Value).map is)])) (fun(k:Nat)=>k<=5/\0<=xk n k/\∀g,(G8 n)[8-k]? =some g->k≠0->xk n (k-1)≠0\/128<=g) (fun(k:Nat)=>6-k) (0)  (⟨by omega,by show 0<=n/256;omega,fun g _ h=>absurd rfl h⟩) ⟨ke rfl,⟨_,rfl,Pr.le_trans (A_ 1 _) (Pr.le_of_eq (by rw[IntKind.wrap_u8];rfl))⟩,trivial⟩ (fun _ _ h=>h) ?_;rintro k  ⟨hk1,hx0,hst⟩;obtain⟨h,hh⟩:=at_ (l:=G8 n) (k:=7-k) (show _<8 by omega);have hdg:=zU (n:=n) (k:=k) AA;have hdl:((G8 n).drop (7-k)).length=k+1:=by rw[List.length_drop];show 8-(7-k)=k+1;omega
 refine Tr.seq (Tr.seq (Tr.Bo (cm rfl (co rfl (ki rfl rfl rfl rfl) (cm rfl ?_)))));refine Ch.cs 12 rfl ?_ ?_<;>intro h1 q1
 have hx1:¬xk n k=0:=by have:=q1;omega
 refine JW h1 rfl (cy h1 rfl (ki rfl rfl rfl rfl) (co rfl (Uz rfl rfl h1 rfl) (cm rfl ?_)));refine Ch.cs 16 rfl ?_ ?_<;>intro h2 q2
 have hgo:xk n k≠0\/128<=h:= .inl hx1;refine cnf h2 rfl (cnf h2 rfl (cnf h2 rfl ?_))
 iterate 4 refine cu rfl ?_
 refine cnf h2 rfl (co rfl (Uz rfl rfl h2 rfl) (cm rfl (cnd rfl rfl (cnd rfl rfl (cnd rfl rfl ?_)))))
 iterate 4 refine cu rfl ?_
 refine cnd rfl rfl (co rfl (Uz rfl rfl rfl rfl) (Ch.nil (Fin.go (wk4 2 3 4 35 rfl (Tr.cond rfl (fun _=>?_) (fun h=>nomatch h))))));refine Tr.skip (Fin.go (Tr.seq (Tr.block (Tr.At (tm rfl (tp rfl (B9 rfl underlying3 underlying5 (vl rfl)) (tp rfl (AX (xs:=[.tmp 39]) (rows:=[[_]]) rfl rfl underlying180 Fq z5 rfl AB ⟨⟨Ab,(Vo rfl)⟩,trivial⟩ AB) ?_)))))));refine tm rfl (TO.pad ?_);refine TO.EV 0 rfl rfl AB (Bp rfl rfl AB rfl underlying180 Fq Mo z5 rfl AB (Kf rfl) (vl rfl) F0 F1 (Bv BW (vl rfl))) (fun v1=>?_);refine tm rfl (TO.nil (Fin.block (Fin.go (Tr.Bo (cm rfl (co rfl (Nv rfl (vl rfl) (vl rfl) AA) (cm rfl (Ch.nil (Fin.drop 0 ?_)))))))));exact Fin.ES (k+1)  (⟨⟨by rcases Nat.lt_or_ge k 5 with h_|h_;omega;(obtain rfl:k=5:=by omega);have:=eA hn.1 hn.2 hh;omega,by show 0<=xk n k/256;omega,fun g hg _=>by rw[show 8-(k+1)=7-k by omega,hh]at hg;cases hg;exact hgo⟩,by omega⟩) ⟨ke rfl,⟨_,rfl,Pr.le_trans (A0 _ _) (Pr.le_of_eq bF)⟩,ke rfl,trivial⟩ (fun _ _ h=>h);exfalso;have:=q2;omega;have hx1:xk n k=0:=by have:=q1;omega
 refine cnt h1 rfl (cnt h1 rfl (co rfl (SZ rfl rfl h1 rfl) (cm rfl (JW rfl rfl (cy rfl rfl (ki rfl rfl rfl rfl) (JW rfl rfl ?_))))));refine Ch.cs 19 rfl ?_ ?_<;>intro h3 q3
 refine JW h3 rfl (cy h3 rfl (AD rfl underlying180 Fq (vl rfl) (vl rfl) AA (d_ hh)) (cy h3 rfl (FO rfl qH rfl) (cy h3 rfl (ki rfl rfl rfl rfl) (cy rfl rfl (Uz rfl rfl h3 rfl) (co rfl (SZ rfl rfl rfl rfl) (cm rfl ?_))))));refine Ch.cs 26 rfl ?_ ?_<;>intro h4 q4
 have hgo:xk n k≠0\/128<=h:= .inr (by have:=q4;omega);refine cnf h4 rfl (cnf h4 rfl (cnf h4 rfl ?_))
 iterate 4 refine cu rfl ?_
 refine cnf h4 rfl (co rfl (Uz rfl rfl h4 rfl) (Ch.nil (Fin.go (wk4 2 3 4 35 rfl (Tr.cond rfl (fun _=>?_) (fun h=>nomatch h))))));refine Tr.skip (Fin.go (Tr.seq (Tr.block (Tr.At (tm rfl (tp rfl (B9 rfl underlying3 underlying5 (vl rfl)) (tp rfl (AX (xs:=[.tmp 39]) (rows:=[[_]]) rfl rfl underlying180 Fq z5 rfl AB ⟨⟨Ab,(Vo rfl)⟩,trivial⟩ AB) ?_)))))));refine tm rfl (TO.pad ?_);refine TO.EV 0 rfl rfl AB (Bp rfl rfl AB rfl underlying180 Fq Mo z5 rfl AB (Kf rfl) (vl rfl) F0 F1 (Bv BW (vl rfl))) (fun v2=>?_);refine tm rfl (TO.nil (Fin.block (Fin.go (Tr.Bo (cm rfl (co rfl (Nv rfl (vl rfl) (vl rfl) AA) (cm rfl (Ch.nil (Fin.drop 0 ?_)))))))));exact Fin.ES (k+1)  (⟨⟨by rcases Nat.lt_or_ge k 5 with h_|h_;omega;(obtain rfl:k=5:=by omega);have:=eA hn.1 hn.2 hh;omega,by show 0<=xk n k/256;omega,fun g hg _=>by rw[show 8-(k+1)=7-k by omega,hh]at hg;cases hg;exact hgo⟩,by omega⟩) ⟨ke rfl,⟨_,rfl,Pr.le_trans (A0 _ _) (Pr.le_of_eq bF)⟩,ke rfl,trivial⟩ (fun _ _ h=>h);have hh1:h<128:=by have:=q4;omega
 have hex:=zV hn.1 hn.2 hk1 hh hx1 hh1 hst;refine JW h4 rfl (cy h4 rfl (ki rfl rfl rfl rfl) (JW h4 rfl ?_));refine Ch.cs 29 rfl ?_ ?_<;>intro h5 q5
 exfalso;have:=q5;omega
 iterate 4 refine cnt h5 rfl ?_
 refine cy h4 rfl (SZ rfl rfl h5 rfl) (co rfl (SZ rfl rfl h4 rfl) (Ch.nil (Fin.go (wk4 2 3 4 35 rfl (Tr.cond rfl (fun h=>nomatch h) (fun _=>?_))))));refine Tr.exit (Fin.BF (Fin.BF (Fin.B1 (Fin.go (Tr.seq (Tr.At (tm rfl (tp rfl (Al (rows:=[(0,[_]),(1,[_])]) rfl PG DW ⟨⟨rfl,(Vo rfl)⟩,⟨⟨rfl,(Vo rfl)⟩,trivial⟩⟩ rfl) (TO.Ac 0 rfl rfl rfl (vl rfl) (Va rfl) rfl BH rfl rfl (TO.nil (Fin.go (Tr.ret (Fin.B4 rfl (AL.cell 0 rfl rfl Bn BH rfl (Lr)) ?_)))))))))))))
 .exact Pu
 exfalso;have:=q3;omega
def Sz(n:Int):Lv:=⟨2,V9 n,.inr (.inl rfl),by have:=ny n;omega⟩
def WU(s:List UInt8):Lv:=⟨12,(Ye s).take 64,.inr (.inr rfl),by rw[List.length_take];omega⟩
def lfB(b:Bool):Lv:=⟨1,nx b,.inl rfl,by cases b<;>decide⟩
def Xw(a b:Int):Ev:= .nd [Sz a,Sz b] Ai
def PV(c:EF):List Ev:=[.lf (Sz c.Ho),.lf (WU c.Gk),.lf (WU c.FA),Xw c.OU c.I8,.lf (Sz c.Bm),Xw c.OV c.Ls,.lf (Sz c.from_),.lf (Sz c.DC),.lf (lfB c.auth),.lf (Sz c.path),.nd ((c.names.map WU).take 20) JJ]
def iA(c:EF):List Int:=Oh 48 ((PV c).flatMap ER)
theorem eB{s:List UInt8}(h:s.length<=64):HH (WU s)=Bq 12 (Ye s) false (slice 4 []):=by
 show Bq 12 ((Ye s).take 64) false _=_;rw[List.take_of_length_le (by unfold Ye;rw[List.length_map];exact h)]
instance {e:Ev}:One e.q:=by cases e<;>exact inferInstanceAs (One (slice _ _))
abbrev nV:Pr:=slice 4 []
theorem df0(x:Lv):Aq Tryz.prog 405 [agg (HH x)] (bool true):=Ol (α:=Empty) (T:=fun _=>0) (B:=fun _=>[]) (N:=fun _=>false) (Q:=fun _=>nV) (l:=[]) ⟨.inl ⟨rfl,x.ht,rfl⟩⟩ (fun x=>x.elim)
theorem df1(x:Ev):Aq Tryz.prog 405 [agg (DH x)] (bool true):=by
 cases x with
 |lf x=>exact df0 x
 |nd l h=>exact Ol (T:=Lv.t) (B:=Lv.b) (N:=fun _=>false) (Q:=fun _=>nV) (l:=l) ⟨.inr ⟨rfl,rfl,rfl⟩⟩ df0
theorem dd0(x:Lv):Aq Tryz.prog 406 [agg (HH x)] (Cp.ex fun d:Int=>fact (0<=d/\d<=(1:Nat)) (int d)):=SH (α:=Empty) (T:=fun _=>0) (B:=fun _=>[]) (N:=fun _=>false) (Q:=fun _=>nV) (l:=[]) (m:=0) (fun x=>x.elim) AA
theorem eC{n:Nat}(h:m<=n):Pr.le (Cp.ex fun d:Int=>fact (0<=d/\d<=(m:Nat)) (int d)) (Cp.ex fun d:Int=>fact (0<=d/\d<=(n:Nat)) (int d)):=fun _ _ _ ⟨d,hd,hv⟩=>⟨d,by omega,hv⟩
theorem dd1(x:Ev):Aq Tryz.prog 406 [agg (DH x)] (Cp.ex fun d:Int=>fact (0<=d/\d<=(2:Nat)) (int d)):=by
 cases x with
 |lf x=>exact(dd0 x).le (fun _ _ _ h=>h) (eC AA)
 |nd l h=>exact SH (T:=Lv.t) (B:=Lv.b) (N:=fun _=>false) (Q:=fun _=>nV) (l:=l) (m:=1) dd0 AA
theorem de0(x:Lv)(v:Value)(p:Pr)(bs:List Int)(h:bs.length<=20000):BM Tryz.prog 407 [Aj v p,agg (HH x)] (lens (La (bs++Hv x)).length) (Ax 5 1 (La bs) v) (fun v=>Ax 5 1 (La (bs++Hv x)) v):=
 V8 (t:=x.t) (c:=x.b) (V7 (α:=Empty) (T:=fun _=>0) (B:=fun _=>[]) (N:=fun _=>false) (Q:=fun _=>nV) (l:=[]) (g:=fun _=>[]) (M:=0) (fun x=>x.elim) (fun x=>x.elim) (Nat.zero_le _)) h (by have:=x.hb;omega) (by have:=x.ht;omega)
theorem de1(x:Ev)(v:Value)(p:Pr)(bs:List Int)(h:bs.length<=20000):BM Tryz.prog 407 [Aj v p,agg (DH x)] (lens (La (bs++ER x)).length) (Ax 5 1 (La bs) v) (fun v=>Ax 5 1 (La (bs++ER x)) v):=by
 cases x with
 |lf x=>exact de0 x v p bs h
 |nd l hl=>
  have h68:l.length*68<=20*68:=Nat.mul_le_mul_right 68 hl;have hf:=Jg (g:=Hv) l fun x _=>JD x;exact V8 (t:=48) (c:=l.flatMap Hv) (V7 (T:=Lv.t) (B:=Lv.b) (N:=fun _=>false) (Q:=fun _=>nV) (l:=l) (g:=Hv) (M:=68) de0 (fun x _=>JD x) AA) h AA AA
theorem dp0(x:Lv):Aq Tryz.prog 429 [nV] nV:=Om (α:=Empty) (T:=fun _=>0) (B:=fun _=>[]) (N:=fun _=>false) (Q:=fun _=>nV) (l:=[]) (fun x=>x.elim) (fun x=>x.elim) (Nat.zero_le _)
theorem dp1(l:List Lv)(h:l.length<=20):Aq Tryz.prog 429 [slice 4 (l.map HH)] (slice 4 (l.map HH)):=Om (T:=Lv.t) (B:=Lv.b) (N:=fun _=>false) (Q:=fun _=>nV) dp0 (fun x=>by have:=x.hb;omega) AA
theorem dp2(l:List Ev)(h:l.length<=20):Aq Tryz.prog 429 [slice 4 (l.map DH)] (slice 4 (l.map DH)):=
 Om (T:=Ev.t) (B:=Ev.b) (N:=Ev.n) (Q:=Ev.q) (fun x=>by cases x with|lf x=>exact dp0 x|nd l h=>exact dp1 l h) (fun x=>by cases x with|lf x=>have:=x.hb;show x.b.length<=_;omega|nd l h=>exact Nat.zero_le _) AA
theorem iB(c:EF):((PV c).flatMap ER).length<=15004:=by
 have h:=Jg (g:=ER) (B:=1364) (PV c) fun x _=>Oi x;rw[show(PV c).length=11 from rfl]at h;omega
abbrev uD(c:EF):Pr:=agg (Bq 48 [] true (slice 4 ((PV c).map DH)))
abbrev ADe(e:List Int):Pr:=EB [O4 (if 4096<e.length then[]else e),int (if 4096<e.length then 3 else 0)]
theorem dE2(c:EF):Aq Tryz.prog 397 [uD c] (ADe (iA c)):=
 g_ (Ol (T := Ev.t) (B := Ev.b) (N := Ev.n) (Q := Ev.q) ⟨.inr ⟨rfl, rfl, rfl⟩⟩ df1) ((SH (T := Ev.t) (B := Ev.b) (N := Ev.n) (Q := Ev.q) (m := 2) dd1 AA).le (fun _ _ _ h => h) (eC AA))
  (fun v p=>V8 (bs:=[]) (t:=48) (c:=(PV c).flatMap ER) (V7 (T:=Ev.t) (B:=Ev.b) (N:=Ev.n) (Q:=Ev.q) (g:=ER) (M:=1364) de1 (fun x _=>Oi x) (show 11*1364<=20000 by decide)) (Nat.zero_le _) (by have:=iB c;omega) AA)
theorem xf0(x:Lv):Aq Tryz.prog 209 [agg (HH x)] (bool true):=On (α:=Empty) (T:=fun _=>0) (B:=fun _=>[]) (N:=fun _=>false) (Q:=fun _=>nV) (l:=[]) ⟨.inl ⟨rfl,x.ht,rfl⟩⟩ (fun x=>x.elim)
theorem xf1(x:Ev):Aq Tryz.prog 209 [agg (DH x)] (bool true):=by
 cases x with
 |lf x=>exact xf0 x
 |nd l h=>exact On (T:=Lv.t) (B:=Lv.b) (N:=fun _=>false) (Q:=fun _=>nV) (l:=l) ⟨.inr ⟨rfl,rfl,rfl⟩⟩ xf0
theorem xd0(x:Lv):Aq Tryz.prog 210 [agg (HH x)] (Cp.ex fun d:Int=>fact (0<=d/\d<=(1:Nat)) (int d)):=SI (α:=Empty) (T:=fun _=>0) (B:=fun _=>[]) (N:=fun _=>false) (Q:=fun _=>nV) (l:=[]) (m:=0) (fun x=>x.elim) AA
theorem xd1(x:Ev):Aq Tryz.prog 210 [agg (DH x)] (Cp.ex fun d:Int=>fact (0<=d/\d<=(2:Nat)) (int d)):=by
 cases x with
 |lf x=>exact(xd0 x).le (fun _ _ _ h=>h) (eC AA)
 |nd l h=>exact SI (T:=Lv.t) (B:=Lv.b) (N:=fun _=>false) (Q:=fun _=>nV) (l:=l) (m:=1) xd0 AA
theorem xp0(x:Lv):Aq Tryz.prog 211 [agg (HH x)] (O4 (Hv x)):=
 (Zw (α:=Empty) (T:=fun _=>0) (B:=fun _=>[]) (N:=fun _=>false) (Q:=fun _=>nV) (l:=[]) (g:=fun _=>[]) (M:=0) (fun x=>x.elim) (fun x=>x.elim) (Nat.zero_le _) (by have:=x.hb;omega) (by have:=x.ht;omega)).le (fun _ _ _ h=>h) (Pr.le_of_eq (by show O4 (Oh x.t (x.b++[]))=_;rw[List.append_nil];rfl))
theorem xp1(x:Ev):Aq Tryz.prog 211 [agg (DH x)] (O4 (ER x)):=by
 cases x with
 |lf x=>exact xp0 x
 |nd l hl=>
  have h68:l.length*68<=20*68:=Nat.mul_le_mul_right 68 hl;exact Zw (T:=Lv.t) (B:=Lv.b) (N:=fun _=>false) (Q:=fun _=>nV) (l:=l) (g:=Hv) (M:=68) xp0 (fun x _=>JD x) AA (Nat.zero_le _) (show(0:Int)<=48/\(48:Int)<256 by omega)
theorem xc0(x:Lv):Aq Tryz.prog 257 [nV] nV:=Oo (α:=Empty) (T:=fun _=>0) (B:=fun _=>[]) (N:=fun _=>false) (Q:=fun _=>nV) (l:=[]) (fun x=>x.elim) (fun x=>x.elim) (Nat.zero_le _)
theorem xc1(l:List Lv)(h:l.length<=20):Aq Tryz.prog 257 [slice 4 (l.map HH)] (slice 4 (l.map HH)):=Oo (T:=Lv.t) (B:=Lv.b) (N:=fun _=>false) (Q:=fun _=>nV) xc0 (fun x=>by have:=x.hb;omega) AA
theorem xc2(l:List Ev)(h:l.length<=20):Aq Tryz.prog 257 [slice 4 (l.map DH)] (slice 4 (l.map DH)):=
 Oo (T:=Ev.t) (B:=Ev.b) (N:=Ev.n) (Q:=Ev.q) (fun x=>by cases x with|lf x=>exact xc0 x|nd l h=>exact xc1 l h) (fun x=>by cases x with|lf x=>have:=x.hb;show x.b.length<=_;omega|nd l h=>exact Nat.zero_le _) AA
theorem xE2(c:EF):Aq Tryz.prog 156 [uD c] (ADe (iA c)):=
 hY (On (T := Ev.t) (B := Ev.b) (N := Ev.n) (Q := Ev.q) ⟨.inr ⟨rfl, rfl, rfl⟩⟩ xf1) ((SI (T := Ev.t) (B := Ev.b) (N := Ev.n) (Q := Ev.q) (m := 2) xd1 AA).le (fun _ _ _ h => h) (eC AA))
  (Zw (T:=Ev.t) (B:=Ev.b) (N:=Ev.n) (Q:=Ev.q) (g:=ER) (M:=1364) xp1 (fun x _=>Oi x) (show 11*1364<=20000 by decide) (Nat.zero_le _) AA)
theorem LP{s:List UInt8}(h:named s=true):s.length<=32:=by unfold named at h;simp at h;omega
theorem uE:∀r∈GL,∀x∈r.sizes,0<=x/\x<=40000:=by decide+kernel
theorem Qk{a b k:Int}(h:IQ a b k=true):(0<=a/\a<=40000)/\(0<=b/\b<=40000):=by
 have h1:=(ZU h).1;rw[decide_eq_true_eq]at h1;unfold CJ at h1
 split at h1
 next ha=>
  refine⟨by omega,?_⟩
  split at h1
  .split at h1<;>omega
  .
   split at h1
   .split at h1<;>omega
   .
    split at h1
    .
     split at h1
     next hc=>
      obtain⟨x,hx,hb⟩:=List.any_eq_true.1 hc;simp only[S3,List.mem_cons,List.not_mem_nil,or_false]at hx;have:b=x:=by simpa using hb
      omega
     .omega
    .
     split at h1
     .
      split at h1
      next hc=>
       have hn:(Dh a).sizes.any (fun x=>b==x)=true:=by
        cases he:(Dh a).sizes.any (fun x=>b==x)with
        |true=>rfl
        |false=>
         have:=M9 (fun x=>b==x) (Dh a).sizes;rw[he]at this;simp at this;omega
       obtain⟨x,hx,hb⟩:=List.any_eq_true.1 hn;have:b=x:=by simpa using hb
       subst this;exact uE _ (fJ ha) _ hx
      .omega
     .omega
 .omega
def SJ(c:EF):List Int×Int:=if CE c then(if 4096<(iA c).length then([],3)else(iA c,0))else([],9)
def T9(s x:Int):Int:=IntKind.u32.wrap (zO .xor .u32 s (IntKind.u32.wrap x)*16777619)
def zW(l:List Int):Int:=IntKind.i64.wrap (l.foldl T9 2166136261)
def PW(c:EF)(key:Int):Bool:=decide ((SJ c).2=0)&&decide (c.LY=key/\c.l6=zW (SJ c).1)
theorem T_{x s:Int}(h:l[k]? =some x):(l.take (k+1)).foldl T9 s=T9 ((l.take k).foldl T9 s) x:=by rw[GZ h,List.foldl_append];rfl
theorem Xx{c:EF}(h:CE c=true):SJ c=(if 4096<(iA c).length then([],3)else(iA c,0)):=if_pos h
theorem SK{s:List UInt8}(hs:s.length<=64):Aq Tryz.prog 408 [str s] (agg (HH (WU s))):=by
 rw[eB hs];exact t_ AA
theorem n8{a b:Int}(ha:0<=a/\a<=40000)(hb:0<=b/\b<=40000):Aq prog 411 [agg [int a,int b]] (agg (DH (Xw a b))):=by
 refine fo func411 rfl ⟨rfl,rfl⟩ fun M0 w0=>(Tr.seq (Tr.At (tp rfl (BE rfl CM) ?_)));refine Tl rfl rfl rfl rfl EE DW (fun b1=>?_);refine ap ?_;refine Tr.seq (Tr.rx ?_);refine ay ?_;refine xo rfl (fun _=>BS (Ml AA) rfl rfl) ?_;refine ay ?_;refine xo rfl (fun _=>BS (Ml AA) rfl rfl) (xo rfl (fun _=>AX (xs:=[.tmp 5,.tmp 8]) (rows:=[_,_]) rfl rfl underlying246 BH EE rfl AB ⟨⟨Ab,(Va rfl)⟩,⟨⟨Ab,(Va rfl)⟩,trivial⟩⟩ AB) ?_);refine xo rfl (fun _=>Aa rfl (nw (T:=Lv.t) (B:=Lv.b) (N:=fun _=>false) (Q:=fun _=>nV) (l:=[Sz a,Sz b]) (dp1 _ Ai)) ⟨⟨_,rfl,A_ 4 _⟩,trivial⟩) ?_;refine Cx.ED 0 rfl rfl (BP rfl rfl vq CM BH rfl Ag rfl) ?_;refine Cx.nil ⟨by kernel_rfl,?_⟩;refine BG.done al1 (Fin.go (Tr.ret (Fin.B4 rfl (AL.cell 0 rfl rfl Bn BH rfl Lr) ?_)))
 .exact Lr
theorem uF{c:EF}(hv:CE c=true):Aq prog 398 [agg (C9 c)] (uD c):=by
 refine fo func398 rfl ⟨rfl,rfl⟩ fun M0 w0=>?_;obtain⟨hs0,hs1,ZV,hsub,hnm,hkey,hk0,hk1,Ts,yY,yZ,ya,yc,hf0,hft,ht1,eu,hp1,hap⟩:=Ik hv;have ia:=Qk hkey;have hhe:=Qk Ts;have Ie:=hnm;unfold E6 at Ie;rw[Bool.and_eq_true,B0,decide_eq_true_eq]at Ie;obtain⟨hall,mZ⟩:=Ie;have QB:=LP ZV;have WI:=LP hsub;refine Tr.seq (Tr.At (tp rfl (BE rfl CM) ?_));refine Tl rfl rfl rfl rfl EE DW (fun b1=>?_);refine ap ?_;refine a2 ?_;refine Tr.block (Tr.Dt 248 4 (Tr.Ez _ (kk [8,7,2,1] rfl) (fun k v=>[(9,int ((k:Nat):Int)),(3,Aj v (slice 4 (((c.names.map WU).take k).map HH)))]) (fun k v=>Hp M0 w0 Ju ([Bc 248 4 v,AE true b1 248 (([.int .i64 0,.slice none 0 0,.bool false,.slice none 0 0]:List Value).map is)])) (fun k:Nat=>k<=(c.names).length) (fun k:Nat=>(c.names).length-k) 0 (.slice none 0 0) (Nat.zero_le _) ⟨kq,⟨_,rfl,DA rfl⟩,trivial⟩ (fun _ _ h=>h) ?_));rintro k v BN;refine ac ?_;refine Tr.seq ?_;refine Tr.cn rfl ?_ ?_<;>intro h1 q1
 have Ae:k<(c.names).length:=AQ h1;obtain⟨s,Ad⟩:=at_ Ae;have hsn:=LP (Ni (hall k AA) Ad);refine ac ?_;refine Tr.seq (Tr.block (Tr.seq (Tr.Bo (co rfl (AD rfl underlying67 Lj vq vq AA (Ap Ad)) ?_))));refine ac ?_;refine ap ?_;refine tp rfl (BS (SK AA) rfl rfl) (tp rfl (AX (xs:=[.tmp 15]) (rows:=[_]) rfl rfl underlying246 BH EE rfl AB ⟨⟨Ab,(Va rfl)⟩,trivial⟩ AB) ?_);refine TO.EV 0 rfl rfl AB (Bp rfl rfl AB rfl underlying246 BH TJ EE rfl AB Ij Ec F0 F1 (CA BW E4)) (fun v1=>?_);refine ap ?_;refine wk [9,8,7,3,2,1] rfl ?_;refine ac ?_;exact Fin.EX (k+1) v1 (⟨Ae,by omega⟩) ⟨⟨_,rfl,AK k⟩,⟨_,rfl,CZ a_⟩,kz⟩ (fun _ _ h=>h);have BA:k=(c.names).length:=by have:=AU h1;omega
 refine ac ?_;refine Tr.seq (Tr.rx ?_);refine ay ?_;refine xo rfl (fun _=>BS (Ml AA) rfl rfl) ?_;refine ay ?_;refine xo rfl (fun _=>BS (SK AA) rfl rfl) ?_;refine ay ?_;refine xo rfl (fun _=>BS (SK AA) rfl rfl) ?_;refine ay ?_;refine xo rfl (fun _=>BS (n8 ia.1 ia.2) rfl rfl) ?_;refine ay ?_;refine xo rfl (fun _=>BS (Ml AA) rfl rfl) ?_;refine ay ?_;refine xo rfl (fun _=>BS (n8 hhe.1 hhe.2) rfl rfl) ?_;refine ay ?_;refine xo rfl (fun _=>BS (Ml AA) rfl rfl) ?_;refine ay ?_;refine xo rfl (fun _=>BS (Ml AA) rfl rfl) ?_;refine ay ?_;refine xo rfl (fun _=>BS (uA) rfl rfl) ?_;refine ay ?_;refine xo rfl (fun _=>BS (Ml AA) rfl rfl) (xm rfl ?_);refine xo rfl (fun _=>Aa rfl (tw (T:=Lv.t) (B:=Lv.b) (N:=fun _=>false) (Q:=fun _=>nV) (l:=(c.names.map WU).take 20) (dp1 _ JJ)) ⟨⟨_,rfl,Pr.le_trans (A0 _ _) (Pr.le_of_eq aM)⟩,trivial⟩) ?_;refine xo rfl (fun _=>AX (xs:=[.tmp 21,.tmp 24,.tmp 27,.tmp 30,.tmp 33,.tmp 36,.tmp 39,.tmp 42,.tmp 45,.tmp 48,.tmp 50]) (rows:=[DH (.lf (Sz c.Ho)),DH (.lf (WU c.Gk)),DH (.lf (WU c.FA)),DH (Xw c.OU c.I8),DH (.lf (Sz c.Bm)),DH (Xw c.OV c.Ls),DH (.lf (Sz c.from_)),DH (.lf (Sz c.DC)),DH (.lf (lfB c.auth)),DH (.lf (Sz c.path)),DH (.nd ((c.names.map WU).take 20) JJ)]) rfl rfl underlying246 BH EE rfl AB ⟨⟨Ab,VL.le (vl rfl) (AJ _)⟩,⟨⟨Ab,VL.le (vl rfl) (AJ _)⟩,⟨⟨Ab,VL.le (vl rfl) (AJ _)⟩,⟨⟨Ab,VL.le (vl rfl) (AJ _)⟩,⟨⟨Ab,VL.le (vl rfl) (AJ _)⟩,⟨⟨Ab,VL.le (vl rfl) (AJ _)⟩,⟨⟨Ab,VL.le (vl rfl) (AJ _)⟩,⟨⟨Ab,VL.le (vl rfl) (AJ _)⟩,⟨⟨Ab,VL.le (vl rfl) (AJ _)⟩,⟨⟨Ab,VL.le (vl rfl) (AJ _)⟩,⟨⟨Ab,VL.le (vl rfl) (AJ _)⟩,trivial⟩⟩⟩⟩⟩⟩⟩⟩⟩⟩⟩ AB) ?_;refine xo rfl (fun _=>Aa rfl (nw (T:=Ev.t) (B:=Ev.b) (N:=Ev.n) (Q:=Ev.q) (l:=PV c) (dp2 _ (show 11<=20 by decide))) ⟨⟨_,rfl,A_ 4 _⟩,trivial⟩) ?_;refine Cx.ED 1 rfl rfl (BP rfl rfl vq CM BH rfl Ag rfl) ?_;refine Cx.nil ⟨by kernel_rfl,?_⟩;refine BG.done WN (Fin.go (wk [2] rfl (Tr.ret (Fin.B4 rfl (AL.cell 1 rfl rfl Bn BH rfl Lr) ?_))))
 .exact Lr
theorem SL{s:List UInt8}(hs:s.length<=64):Aq Tryz.prog 212 [str s] (agg (HH (WU s))):=by
 rw[eB hs];exact uB AA
theorem n_{a b:Int}(ha:0<=a/\a<=40000)(hb:0<=b/\b<=40000):Aq prog 215 [agg [int a,int b]] (agg (DH (Xw a b))):=by
 refine fo func215 rfl ⟨rfl,rfl⟩ fun M0 w0=>(Tr.seq (Tr.At (tp rfl (BE rfl CM) ?_)));refine Tl rfl rfl rfl rfl EE DW (fun b1=>?_);refine ap ?_;refine Tr.seq (Tr.rx ?_);refine ay ?_;refine xo rfl (fun _=>BS (Mm AA) rfl rfl) ?_;refine ay ?_;refine xo rfl (fun _=>BS (Mm AA) rfl rfl) (xo rfl (fun _=>AX (xs:=[.tmp 5,.tmp 8]) (rows:=[_,_]) rfl rfl underlying246 BH EE rfl AB ⟨⟨Ab,(Va rfl)⟩,⟨⟨Ab,(Va rfl)⟩,trivial⟩⟩ AB) ?_);refine xo rfl (fun _=>Aa rfl (V_ (T:=Lv.t) (B:=Lv.b) (N:=fun _=>false) (Q:=fun _=>nV) (l:=[Sz a,Sz b]) (xc1 _ Ai)) ⟨⟨_,rfl,A_ 4 _⟩,trivial⟩) ?_;refine Cx.ED 0 rfl rfl (BP rfl rfl vq CM BH rfl Ag rfl) ?_;refine Cx.nil ⟨by kernel_rfl,?_⟩;refine BG.done al1 (Fin.go (Tr.ret (Fin.B4 rfl (AL.cell 0 rfl rfl Bn BH rfl Lr) ?_)))
 .exact Lr
theorem uG{c:EF}(hv:CE c=true):Aq prog 157 [agg (C9 c)] (uD c):=by
 refine fo func157 rfl ⟨rfl,rfl⟩ fun M0 w0=>?_;obtain⟨hs0,hs1,ZV,hsub,hnm,hkey,hk0,hk1,Ts,yY,yZ,ya,yc,hf0,hft,ht1,eu,hp1,hap⟩:=Ik hv;have ia:=Qk hkey;have hhe:=Qk Ts;have Ie:=hnm;unfold E6 at Ie;rw[Bool.and_eq_true,B0,decide_eq_true_eq]at Ie;obtain⟨hall,mZ⟩:=Ie;have QB:=LP ZV;have WI:=LP hsub;refine Tr.seq (Tr.At (tp rfl (BE rfl CM) ?_));refine Tl rfl rfl rfl rfl EE DW (fun b1=>?_);refine ap ?_;refine a2 ?_;refine Tr.block (Tr.Dt 248 4 (Tr.Ez _ (kk [2,1] rfl) (fun k v=>[(4,int ((k:Nat):Int)),(3,Aj v (slice 4 (((c.names.map WU).take k).map HH)))]) (fun k v=>Hp M0 w0 Ju ([Bc 248 4 v,AE true b1 248 (([.int .i64 0,.slice none 0 0,.bool false,.slice none 0 0]:List Value).map is)])) (fun k:Nat=>k<=(c.names).length) (fun k:Nat=>(c.names).length-k) 0 (.slice none 0 0) (Nat.zero_le _) ⟨kq,⟨_,rfl,DA rfl⟩,trivial⟩ (fun _ _ h=>h) ?_));rintro k v BN;refine an ?_ ?_<;>intro h1 q1
 have Ae:k<(c.names).length:=AQ h1;obtain⟨s,Ad⟩:=at_ Ae;have hsn:=LP (Ni (hall k AA) Ad);refine ac ?_;refine ap ?_;refine tp rfl (AD rfl underlying67 Lj vq vq AA DZ) ?_;refine tp rfl (FO rfl OK rfl) (tp rfl (BS (SL AA) rfl rfl) (tp rfl (AX (xs:=[.tmp 18]) (rows:=[_]) rfl rfl underlying246 BH EE rfl AB ⟨⟨Ab,(Va rfl)⟩,trivial⟩ AB) ?_));refine TO.EV 0 rfl rfl AB (Bp rfl rfl AB rfl underlying246 BH TJ EE rfl AB Ij Ec F0 F1 (CA BW E4)) (fun v1=>?_);refine ap ?_;refine wk [4,3,2,1] rfl ?_;refine ac ?_;exact Fin.EX (k+1) v1 (⟨Ae,by omega⟩) ⟨⟨_,rfl,AK k⟩,⟨_,rfl,CZ a_⟩,kz⟩ (fun _ _ h=>h);have BA:k=(c.names).length:=by have:=AU h1;omega
 refine ac ?_;refine Tr.seq (Tr.rx ?_);refine ay ?_;refine xo rfl (fun _=>BS (Mm AA) rfl rfl) ?_;refine ay ?_;refine xo rfl (fun _=>BS (SL AA) rfl rfl) ?_;refine ay ?_;refine xo rfl (fun _=>BS (SL AA) rfl rfl) ?_;refine ay ?_;refine xo rfl (fun _=>BS (n_ ia.1 ia.2) rfl rfl) ?_;refine ay ?_;refine xo rfl (fun _=>BS (Mm AA) rfl rfl) ?_;refine ay ?_;refine xo rfl (fun _=>BS (n_ hhe.1 hhe.2) rfl rfl) ?_;refine ay ?_;refine xo rfl (fun _=>BS (Mm AA) rfl rfl) ?_;refine ay ?_;refine xo rfl (fun _=>BS (Mm AA) rfl rfl) ?_;refine ay ?_;refine xo rfl (fun _=>BS (uC) rfl rfl) ?_;refine ay ?_;refine xo rfl (fun _=>BS (Mm AA) rfl rfl) (xm rfl ?_);refine xo rfl (fun _=>Aa rfl (V_ (T:=Lv.t) (B:=Lv.b) (N:=fun _=>false) (Q:=fun _=>nV) (l:=(c.names.map WU).take 20) (xc1 _ JJ)) ⟨⟨_,rfl,Pr.le_trans (A0 _ _) (Pr.le_of_eq aM)⟩,trivial⟩) ?_;refine xo rfl (fun _=>AX (xs:=[.tmp 23,.tmp 26,.tmp 29,.tmp 32,.tmp 35,.tmp 38,.tmp 41,.tmp 44,.tmp 47,.tmp 50,.tmp 52]) (rows:=[DH (.lf (Sz c.Ho)),DH (.lf (WU c.Gk)),DH (.lf (WU c.FA)),DH (Xw c.OU c.I8),DH (.lf (Sz c.Bm)),DH (Xw c.OV c.Ls),DH (.lf (Sz c.from_)),DH (.lf (Sz c.DC)),DH (.lf (lfB c.auth)),DH (.lf (Sz c.path)),DH (.nd ((c.names.map WU).take 20) JJ)]) rfl rfl underlying246 BH EE rfl AB ⟨⟨Ab,VL.le (vl rfl) (AJ _)⟩,⟨⟨Ab,VL.le (vl rfl) (AJ _)⟩,⟨⟨Ab,VL.le (vl rfl) (AJ _)⟩,⟨⟨Ab,VL.le (vl rfl) (AJ _)⟩,⟨⟨Ab,VL.le (vl rfl) (AJ _)⟩,⟨⟨Ab,VL.le (vl rfl) (AJ _)⟩,⟨⟨Ab,VL.le (vl rfl) (AJ _)⟩,⟨⟨Ab,VL.le (vl rfl) (AJ _)⟩,⟨⟨Ab,VL.le (vl rfl) (AJ _)⟩,⟨⟨Ab,VL.le (vl rfl) (AJ _)⟩,⟨⟨Ab,VL.le (vl rfl) (AJ _)⟩,trivial⟩⟩⟩⟩⟩⟩⟩⟩⟩⟩⟩ AB) ?_;refine xo rfl (fun _=>Aa rfl (V_ (T:=Ev.t) (B:=Ev.b) (N:=Ev.n) (Q:=Ev.q) (l:=PV c) (xc2 _ (show 11<=20 by decide))) ⟨⟨_,rfl,A_ 4 _⟩,trivial⟩) ?_;refine Cx.ED 1 rfl rfl (BP rfl rfl vq CM BH rfl Ag rfl) ?_;refine Cx.nil ⟨by kernel_rfl,?_⟩;refine BG.done WN (Fin.go (wk [2] rfl (Tr.ret (Fin.B4 rfl (AL.cell 1 rfl rfl Bn BH rfl Lr) ?_))))
 .exact Lr
theorem oG{c:EF}(hc:c.fits):Aq prog 384 [agg (C9 c)] (EB [O4 (SJ c).1,int (SJ c).2]):=by
 refine fo func384 rfl ⟨rfl,rfl⟩ fun M0 w0=>?_;refine a2 ?_;refine co rfl (BS (W_ hc) rfl rfl) ?_;refine an ?_ ?_<;>intro h1 q1
 have hv:¬CE c=true:=fun h_=>absurd h1 QA;have hB:SJ c=([],9):=if_neg hv;refine ac ?_;refine Tr.ret (Fin.AF (Fin.C_ rfl (CL.Eo _ _) rfl ?_ rfl ?_))
 .rw[hB];exact AH 1
 .exact int_eq (by rw[hB])
 have hv:CE c=true:=by cases hb_:CE c with|true=>rfl|false=>exact absurd h1 (by rw[hb_];decide)
 have hB:=Xx hv;refine a2 ?_;refine co rfl (BS (uF hv) rfl rfl) (co rfl (BS (dE2 c) rfl rfl) ?_);refine ac ?_;refine Tr.ret (Fin.C_ rfl (CL.Eo _ _) rfl ?_ rfl ?_)
 .rw[hB];exact Pr.le_of_eq (by split<;>rfl)
 .exact int_eq (by rw[hB];split<;>rfl)
theorem oH{c:EF}  :Aq prog 88 [agg (C9 c)] (EB [O4 (SJ c).1,int (SJ c).2]):=by
 refine fo func88 rfl ⟨rfl,rfl⟩ fun M0 w0=>?_;refine a2 ?_;refine co rfl (BS (MY (c:=c)) rfl rfl) ?_;refine an ?_ ?_<;>intro h1 q1
 have hv:¬CE c=true:=fun h_=>absurd h1 QA;have hB:SJ c=([],9):=if_neg hv;refine ac ?_;refine Tr.ret (Fin.AF (Fin.C_ rfl (CL.Eo _ _) rfl ?_ rfl ?_))
 .rw[hB];exact AH 1
 .exact int_eq (by rw[hB])
 have hv:CE c=true:=by cases hb_:CE c with|true=>rfl|false=>exact absurd h1 (by rw[hb_];decide)
 have hB:=Xx hv;refine a2 ?_;refine co rfl (BS (uG hv) rfl rfl) (co rfl (BS (xE2 c) rfl rfl) ?_);refine ac ?_;refine Tr.ret (Fin.C_ rfl (CL.Eo _ _) rfl ?_ rfl ?_)
 .rw[hB];exact Pr.le_of_eq (by split<;>rfl)
 .exact int_eq (by rw[hB];split<;>rfl)
theorem zX:Aq prog 385 [O4 l] (int (zW l)):=by
 refine fo func385 rfl ⟨rfl,rfl⟩ fun M0 w0=>(Tr.Dr 0 rfl fun Dq=>?_);refine a3 ?_;refine Tr.block (Tr.BV _ (kk [7,6] rfl) (fun k:Nat=>[(8,int ((k:Nat):Int)),(3,is (.int .u32 ((l.take k).foldl T9 2166136261)))]) (fun k:Nat=>k<=(l).length) (fun k:Nat=>(l).length-k) 0 (Nat.zero_le _) ⟨kq,kz⟩ ?_);rintro k BN;refine ac ?_;refine Tr.seq ?_;refine Tr.cn rfl ?_ ?_<;>intro h1 q1
 have Ae:k<(l).length:=AQ h1;obtain⟨x,Ad⟩:=at_ Ae;refine ac ?_;refine Tr.seq (Tr.block (Tr.seq (Tr.Bo (co rfl (AD rfl underlying180 Fq vq vq AA (Ap Ad)) ?_))));refine a2 ?_;refine co rfl (B9 rfl underlying5 underlying169 vq) (co rfl (Qj AB rfl vq vq) ?_);refine ac ?_;refine wk [8,7,6,3] rfl ?_;refine ac ?_;exact Fin.AP (k+1) ⟨Ae,by omega⟩ ⟨⟨_,rfl,AK k⟩,⟨_,rfl,Pr.le_of_eq (by rw[T_ Ad];rfl)⟩,kz⟩;have BA:k=(l).length:=by have:=AU h1;omega
 subst BA;rw[List.take_length];refine a2 ?_;refine co rfl (B9 rfl underlying169 underlying3 vq) ?_;refine a2 ?_
 .exact Lr
theorem zY:Aq prog 89 [O4 l] (int (zW l)):=by
 refine fo func89 rfl ⟨rfl,rfl⟩ fun M0 w0=>(Tr.Dr 0 rfl fun Dq=>?_);refine a3 ?_;refine Tr.block (Tr.BV _ (kk [0] rfl) (fun k:Nat=>[(4,int ((k:Nat):Int)),(3,is (.int .u32 ((l.take k).foldl T9 2166136261)))]) (fun k:Nat=>k<=(l).length) (fun k:Nat=>(l).length-k) 0 (Nat.zero_le _) ⟨kq,kz⟩ ?_);rintro k BN;refine an ?_ ?_<;>intro h1 q1
 have Ae:k<(l).length:=AQ h1;obtain⟨x,Ad⟩:=at_ Ae;refine a2 ?_;refine co rfl (AD rfl underlying180 Fq vq vq AA (Ap Ad)) (co rfl (FO rfl qH rfl) (co rfl (B9 rfl underlying5 underlying169 vq) (co rfl (Qj AB rfl vq vq) ?_)));refine ac ?_;refine wk [4,3,0] rfl ?_;refine ac ?_;exact Fin.AP (k+1) ⟨Ae,by omega⟩ ⟨⟨_,rfl,AK k⟩,⟨_,rfl,Pr.le_of_eq (by rw[T_ Ad];rfl)⟩,kz⟩;have BA:k=(l).length:=by have:=AU h1;omega
 subst BA;rw[List.take_length];refine a2 ?_;refine co rfl (B9 rfl underlying169 underlying3 vq) ?_;refine a2 ?_
 .exact Lr
theorem iC{c:EF}{key:Int}(hc:c.fits):Aq prog 368 [agg (C9 c),int key] (bool (PW c key)):=by
 refine fo func368 rfl ⟨rfl,rfl⟩ fun M0 w0=>?_
 .repeat' first|(refine bool_eq ?_;unfold PW;simp_all)|refine co rfl (BS (oG hc) rfl rfl) ?_|refine cy h rfl (BS (zX (l:=(SJ c).1)) rfl rfl) ?_|refine cy h rfl (oD) (cy h rfl (mU rfl vq vq) ?_)|refine ac ?_|(refine Ch.cg rfl rfl rfl ?_ ?_<;>intro h q)
theorem UA{c:EF}{key:Int}  :Aq prog 229 [agg (C9 c),int key] (bool (PW c key)):=by
 refine fo func229 rfl ⟨rfl,rfl⟩ fun M0 w0=>?_
 .repeat' first|(refine bool_eq ?_;unfold PW;simp_all;rw[Bool.eq_iff_iff];simp)|(refine bool_eq ?_;unfold PW;simp_all)|refine co rfl (BS (oH (c:=c)) rfl rfl) ?_|refine cy h rfl (BS (zY (l:=(SJ c).1)) rfl rfl) ?_|refine ac ?_|(refine Ch.cg rfl rfl rfl ?_ ?_<;>intro h q)
end Go.Proofs.YthommhphcagokaaGreatDoor
