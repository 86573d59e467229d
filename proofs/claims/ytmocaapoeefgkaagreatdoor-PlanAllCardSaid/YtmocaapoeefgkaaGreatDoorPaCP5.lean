/-
  Part 5 of the texts that prove this claim, merged.
-/
import Derived.RangeFuncFrom
import Derived.RangeFuncLeaves
import Derived.OrdersIn
import Derived.Test.YtmocaapoeefgkaaGreatDoorPaCP4
set_option linter.all false
set_option maxRecDepth 40000
set_option maxHeartbeats 16000000
namespace Go.Proofs.YtmocaapoeefgkaaGreatDoor
open Go Go.RowKit Cp Go.Proofs.Tryz
structure Xc (n:Nat) (i j:Int) (l:List La):Prop where
 at_:∀k,k<l.length→Cw n l k=true
 lt:∀g∈l,g.client<i∨(g.client=i∧g.server<j)
theorem Xc.nil (n:Nat) (i j:Int):Xc n i j []:=⟨fun k hk=>by simp at hk,fun g hg=>by simp at hg⟩
theorem Xc.step {n:Nat} {i j:Int} {l:List La} (h:Xc n i j l):Xc n i (j+1) l:=⟨h.at_,fun g hg=>by have:=h.lt g hg;omega⟩
theorem Xc.row {n:Nat} {i j:Int} {l:List La} (h:Xc n i j l):Xc n (i+1) 0 l:=⟨h.at_,fun g hg=>by have:=h.lt g hg;omega⟩
theorem Xc.snoc {n:Nat} {i j:Int} {l:List La} (h:Xc n i j l) (hi:0≤i∧i<n) (hj:0≤j∧j<n) (hn:i≠j):Xc n i (j+1) (l++[⟨i,j⟩]):=by
 refine ⟨fun k hk=> ?_,fun g hg=> ?_⟩
 ·
  rw [List.length_append] at hk;simp at hk
  rcases Nat.lt_or_ge k l.length with hl|hl
  ·
   have:=h.at_ k hl
   unfold Cw at this ⊢
   rw [List.getElem?_append_left hl,List.getElem?_append_left (show k-1<l.length by omega)];exact this
  ·
   have:k=l.length:=by omega
   subst this
   unfold Cw
   rw [List.getElem?_append_right (Nat.le_refl _),Nat.sub_self]
   rcases Nat.eq_zero_or_pos l.length with hz|hz
   ·
    obtain rfl:=List.eq_nil_of_length_eq_zero hz
    simp;omega
   ·
    obtain ⟨y,hy⟩:=Cp.at_ (l:=l) (k:=l.length-1) AA
    rw [List.getElem?_append_left (show l.length-1<l.length by omega),hy]
    have:=h.lt y (List.mem_of_getElem? hy)
    simp;omega
 ·
  rcases List.mem_append.1 hg with hg|hg
  · have:=h.lt g hg;omega
  · simp at hg;subst hg;right;exact ⟨rfl,by show j<j+1;omega⟩
theorem jK:∀i,i<2→Lib.compareBytes (E9[i]?.getD []) (E9[i+1]?.getD [])= -1:=by decide+kernel
structure QJ (e:FQ):Prop where
 n2:2≤e.Dy.length
 n3:e.Dy.length≤3
 snd:cL e.Dy
 ed:∀k,k<e.DL.length→Cw e.Dy.length e.DL k=true
 g1:1≤e.DL.length
 g3:e.DL.length≤3
 it:∀x∈e.items,Xb x
 i2:e.items.length≤2
theorem QJ.ok {e:FQ} (h:QJ e):HT e=true:=by
 have h3:=h.n3;have g3:=h.g3;have i2:=h.i2
 refine Fl.2 ⟨fun j hj=> ?_,by omega,h.ed,by omega,List.all_eq_true.2 fun x hx=>(h.it x hx).ok,by omega⟩
 obtain ⟨x,hx⟩:=at_ hj
 have hs:=h.snd j x hx
 unfold PC
 rw [hx,Option.getD_some,EN.2 (pV hs),Bool.true_and,Bool.or_eq_true,decide_eq_true_eq,decide_eq_true_eq]
 rcases Nat.eq_zero_or_pos j with hz|hz
 · exact .inl hz
 ·
  right
  obtain ⟨y,hy⟩:=at_ (l:=e.Dy) (k:=j-1) AA
  have Za:=h.snd _ y hy
  rw [hy,Option.getD_some]
  have:=jK (j-1) AA
  rw [Za.name,show j-1+1=j by omega,hs.name] at this
  exact this
theorem QJ.fits {e:FQ} (h:QJ e):e.fits:=by
 have h3:=h.n3;have g3:=h.g3;have i2:=h.i2
 refine ⟨fun x hx=> ?_,fun x hx=>by have:=(h.it x hx).name;unfold maxLen;omega,by omega,by omega,by omega⟩
 obtain ⟨i,hi⟩:=List.getElem?_of_mem hx
 exact ⟨Ru (h.snd i x hi),QE (h.snd i x hi)⟩
abbrev LN:List UInt8:=[98,97,99,107,117,112]
abbrev Xd:List UInt8:=[100,101,101,100]
theorem Zp (s:DS):named (Jj s [LN,Xd])=true:=by
 have h:=s.Bi (n:=2) AA
 unfold Jj
 have:s.val (([LN,Xd]:List (List UInt8)).length:Nat)=0∨s.val (([LN,Xd]:List (List UInt8)).length:Nat)=1:=by show s.val 2=0∨s.val 2=1;omega
 rcases this with h|h<;>rw [h]<;>decide
theorem VH {l:List NA} {y:NA} (h:∀x∈l,Xb x) (hy:Xb y):∀x∈l++[y],Xb x:=by
 intro x hx
 rcases List.mem_append.1 hx with hx|hx
 · exact h x hx
 · simp at hx;subst hx;exact hy
theorem jL {b:Nat} {s:DS}  :BR prog 46 [ptr b 0] (Cp.ex fun e:FQ=>fact (QJ e) (agg (Hv e))) (CG b s) (fun _=>FK 104 b):=by
 refine BR.of func46 rfl rfl Al fun M0 w0 S rs M1 w1=> ?_
 have RW:=s.Bi (n:=2) AA
 have eG:(E9.take (2+s.val 2).toNat).length=(2+s.val 2).toNat:=by rw [List.length_take];show min _ 3=_;omega
 refine Tr.seq (Tr.A0 ?_)
 refine Tl rfl rfl rfl rfl z31 tP (fun b1=> ?_)
 refine TO.nil (Fin.go (Tr.seq (Tr.A0 ?_)))
 refine Tl rfl rfl rfl rfl z31 tP (fun b2=> ?_)
 refine TO.nil (Fin.go (Tr.seq (Tr.A0 (tp rfl (AQ (xs:=[.const (.string ⟨[97,112,112].toArray⟩),.const (.string ⟨[100,98].toArray⟩),.const (.string ⟨[119,101,98].toArray⟩)]) (rows:=[[_],[_],[_]]) rfl rfl underlying127 LZ z9 rfl AB ⟨⟨Ab,(Vo rfl)⟩,⟨⟨Ab,(Vo rfl)⟩,⟨⟨Ab,(Vo rfl)⟩,trivial⟩⟩⟩ AB) ?_))))
 refine tm rfl (TO.EV 2 rfl rfl AB (AU rfl rfl AB rfl (A8 AA AA) ⟨ke rfl,ke rfl,trivial⟩) ?_)
 refine tp rfl (Ey rfl (vl rfl) (vl rfl) ?hin) ?_;case hin=>unfold N9;omega
 refine tp rfl (Ff rfl underlying127 LZ (Kf rfl) (vl rfl) AA B1) ?_
 refine tm rfl (TO.nil (Fin.go (Tr.seq (Tr.seq (Tr.Ah (cm rfl (co rfl (B7 rfl underlying127 (vl rfl)) (cm rfl (Ch.nil (Fin.go (Tr.block ?_)))))))))))
 refine Tr.re 16 rfl (Pr.le_of_eq (by show slice 1 (List.take _ (E9.map fun t=>[str t]))=_;rw [←List.map_take]):Pr.le _ (bf (E9.take (2+s.val 2).toNat))) ?_
 refine Tr.re 17 rfl (int_eq (by simp;rfl):Pr.le _ (int (((E9.take (2+s.val 2).toNat).length:Nat):Int))) ?_
 refine Tr.HQ 0 [Ae (.slice none 0 0) (slice 9 (([]:List E4).map Dq)),is (.slice none 0 0),is (.slice none 0 0)] rfl ⟨Bu rfl,Lr,Lr,trivial⟩ (Tr.CB 40 9 (Tr.Gm [(0,_),(2,_),(3,_),(4,_),(16,_),(17,_)] ⟨ke rfl,ke rfl,ke rfl,ke rfl,ke rfl,ke rfl,trivial⟩ (fun (k:Nat) (es:List E4) (s2:DS) v=>[(18,int ((k:Nat):Int))]) (fun (k:Nat) (es:List E4) (s2:DS) v=>Hp M0 w0 S (As 40 9 v::AE true b2 31 [Ae v (slice 9 (es.map Dq)),is (.slice none 0 0),is (.slice none 0 0)]::AE true b1 31 (([.slice none 0 0,.slice none 0 0,.slice none 0 0]:List Value).map is)::CG b s2::Ak M1 w1::rs)) (fun (k:Nat) (es:List E4) (s2:DS)=>k≤(2+s.val 2).toNat∧es.length=k∧cL es) (fun (k:Nat) (es:List E4) (s2:DS)=>(2+s.val 2).toNat-k) (0) ([]) (_) (.slice none 0 0) (⟨by omega,rfl,fun i e h=>by simp at h⟩) ⟨ke rfl,trivial⟩ (fun _ _ h=>h) ?_))
 rintro k es s2 v ⟨hk1,hk2,hk3⟩
 refine Tr.seq (Tr.Ah (co rfl (ki rfl rfl rfl rfl) (Ch.nil (Fin.go (Tr.seq ?_)))))
 refine Tr.cn rfl ?_ ?_<;>intro h1 q1
 have hkn:k<(2+s.val 2).toNat:=by have:=Df.EA h1;rw [eG] at this;omega
 obtain ⟨nm,hnm⟩:=at_ (l:=E9.take (2+s.val 2).toNat) (k:=k) AA
 have M_:E9[k]? =some nm:=iz hnm
 have hso:=i6 (s2.BV.val 3)
 have AEz:k<3:=BP M_
 have hvs:=s2.BV.Bi (n:=3) AA
 have hof:=um s2
 refine Tr.skip (Fin.go (Tr.seq (Tr.block (Tr.seq (Tr.Ah (cm rfl (co rfl (AD rfl underlying127 LZ (vl rfl) (vl rfl) AA (Ac hnm)) (co rfl (GI rfl OA rfl) (cm rfl (cm rfl (Ch.nil (Fin.go (Tr.seq (Tr.pad ?_))))))))))))))
 refine Tr.K3 mixed [none,none,none,some (0,4,true,0),none,none,none,none,none,some (0,4,true,0),none,none,none,some (0,4,true,0),none,none,none,some (0,4,true,0),none,some (0,0,true,7),some (7,0,true,7)] BS (xm rfl (xm rfl (xo rfl (fun _=>AQ (xs:=[.const (.int .i64 (3)),.const (.int .i64 (3)),.const (.int .i64 (4))]) (rows:=[[_],[_],[_]]) rfl rfl underlying22 Bg z3 rfl AB ⟨⟨Ab,(Vo rfl)⟩,⟨⟨Ab,(Vo rfl)⟩,⟨⟨Ab,(Vo rfl)⟩,trivial⟩⟩⟩ AB) ?_)))
 refine Cx.ef 4 rfl rfl AB (AU rfl rfl AB rfl (Kq (l:=[3,3,4]) AO AO) ⟨ke rfl,(Kf rfl),trivial⟩) ?_
 refine xo rfl (fun _=>AQ (xs:=[.const (.int .i64 (10)),.const (.int .i64 (8)),.const (.int .i64 (2))]) (rows:=[[_],[_],[_]]) rfl rfl underlying22 Bg z3 rfl AB ⟨⟨Ab,(Vo rfl)⟩,⟨⟨Ab,(Vo rfl)⟩,⟨⟨Ab,(Vo rfl)⟩,trivial⟩⟩⟩ AB) ?_
 refine xo rfl (fun _=>AQ (xs:=[.const (.int .i64 (8)),.const (.int .i64 (2))]) (rows:=[[_],[_]]) rfl rfl underlying22 Bg z3 rfl AB ⟨⟨Ab,(Vo rfl)⟩,⟨⟨Ab,(Vo rfl)⟩,trivial⟩⟩ AB) ?_
 refine xo rfl (fun _=>AQ (xs:=[.const (.int .i64 (2)),.const (.int .i64 (10)),.const (.int .i64 (8)),.const (.int .i64 (3))]) (rows:=[[_],[_],[_],[_]]) rfl rfl underlying22 Bg z3 rfl AB ⟨⟨Ab,(Vo rfl)⟩,⟨⟨Ab,(Vo rfl)⟩,⟨⟨Ab,(Vo rfl)⟩,⟨⟨Ab,(Vo rfl)⟩,trivial⟩⟩⟩⟩ AB) ?_
 refine xo rfl (fun _=>AQ (xs:=[.tmp 27,.tmp 28,.tmp 29]) (rows:=[[_],[_],[_]]) rfl rfl underlying128 Mx z22 rfl AB ⟨⟨Ab,⟨_,rfl,Pr.le_trans (BA _ _) (AP _)⟩⟩,⟨⟨Ab,⟨_,rfl,Pr.le_trans (BA _ _) (AP _)⟩⟩,⟨⟨Ab,⟨_,rfl,Pr.le_trans (BA _ _) (AP _)⟩⟩,trivial⟩⟩⟩ AB) ?_
 refine xm rfl (Cx.ef 4 rfl rfl AB (AU rfl rfl AB rfl (A8 AA AA) ⟨ke rfl,ke rfl,trivial⟩) ?_)
 refine xo rfl (fun _=>AD rfl underlying128 Mx (Kf rfl) (vl rfl) AA (show (OD.map fun l=>[ints l])[_]? =_ from pS hvs)) ?_
 refine xo rfl (fun _=>GI rfl FV rfl) (xm rfl (Cx.ef 4 rfl rfl AB (AU rfl rfl AB rfl (M7 AA AA) ⟨ke rfl,ke rfl,trivial⟩) (xo rfl (fun _=>AQ (xs:=[.const (.int .i64 (1))]) (rows:=[[_]]) rfl rfl underlying22 Bg z3 rfl AB ⟨⟨Ab,(Vo rfl)⟩,trivial⟩ AB) ?_)))
 refine xo rfl (fun _=>AQ (xs:=[.const (.int .i64 (2)),.const (.int .i64 (3))]) (rows:=[[_],[_]]) rfl rfl underlying22 Bg z3 rfl AB ⟨⟨Ab,(Vo rfl)⟩,⟨⟨Ab,(Vo rfl)⟩,trivial⟩⟩ AB) ?_
 refine xm rfl (Cx.ef 4 rfl rfl AB (AU rfl rfl AB rfl (M7 AA AA) ⟨ke rfl,ke rfl,trivial⟩) (xo rfl (fun _=>Ar (rows:=[(0,[_]),(1,[_]),(2,[_]),(3,[_]),(4,[_]),(6,[_]),(7,[_]),(8,[_])]) rfl ACY gI ⟨⟨rfl,(Vo rfl)⟩,⟨⟨rfl,(Vo rfl)⟩,⟨⟨rfl,(Vo rfl)⟩,⟨⟨rfl,(Vo rfl)⟩,⟨⟨rfl,(Vo rfl)⟩,⟨⟨rfl,⟨_,rfl,Pr.le_trans (BA _ _) (AP _)⟩⟩,⟨⟨rfl,⟨_,rfl,Pr.le_trans (BA _ _) (AP _)⟩⟩,⟨⟨rfl,(Vo rfl)⟩,trivial⟩⟩⟩⟩⟩⟩⟩⟩ rfl) (Cx.ef 0 rfl rfl AB (Gb rfl rfl AB rfl z40 gI) (Cx.Ee 0 rfl rfl (Hs rfl rfl rfl rfl (Va rfl) Gy rfl rfl) ?_))))
 refine Cx.nil ⟨rfl,?_⟩
 refine BW.open_ 0 7 rfl rfl (fun v1=> ?_)
 refine BW.done (BT.cons (BT.cons (BT.cons (BT.cons (BT.cons (BT.cons (BT.map _))))))) (Fin.Wu 7 0 _ rfl rfl (fun _=>rfl) (fun b3=> ?_))
 refine Fin.go (fm 0 2 3 4 5 6 7 16 17 18 rfl (Tr.seq (Tr.seq (Tr.HQ 0 [str nm,int 1,int (s2.of [3,3,4]),ints (LI (s2.BV.val 3)),bool (s2.BV.BV.val 2==2-1),is (.slice none 0 0),ints [1],ints [2,3],bool (s2.BV.BV.BV.val 3==3-1)] rfl ⟨Lr,Lr,Lr,Lr,Lr,Lr,Lr,Lr,Lr,trivial⟩ (Tr.Ah (co rfl (AY rfl Ww (vl rfl)) (co rfl (CY 0 rfl (Ay rfl CX (vl rfl) rfl)) (co rfl (ki rfl rfl rfl rfl) (Ch.nil (Fin.go ?_))))))))))
 refine Tr.cn rfl ?_ ?_<;>intro h2 q2
 refine Tr.A0 (tp rfl (AQ (xs:=[.const (.int .i64 (14))]) (rows:=[[_]]) rfl rfl underlying22 Bg z3 rfl AB ⟨⟨Ab,(Vo rfl)⟩,trivial⟩ AB) ?_)
 refine tp rfl (AY rfl Pm (vl rfl)) (TO.rd 0 rfl rfl rfl AB (Ay rfl FV (vl rfl) rfl) (TO.pad ?_))
 refine TO.Ef 0 rfl rfl AB (CN rfl rfl rfl rfl underlying22 Bg J_ z3 (Kf rfl) (vl rfl) (B_ BI (vl rfl))) (fun v2=> ?_)
 refine tp rfl (AY rfl Pm (vl rfl)) (TO.Ee 1 rfl rfl (A9 rfl rfl (vl rfl) (Vo rfl) Mx rfl Al rfl) (TO.nil (Fin.go (fm 0 2 3 4 5 6 7 16 17 18 rfl (Tr.seq (Tr.A0 (tm rfl (tp rfl (AZ rfl (Zl) trivial) (tm rfl ?_)))))))))
 refine tp rfl (Ey rfl (vl rfl) (vl rfl) ?hin) ?_;case hin=>unfold N9;omega
 refine tp rfl (AZ rfl (QD (name:=nm) (a:=5) (b:=2048) (id:=100+(k:Nat)) (to:=901) (key:=1) (Ts M_ AA AA) (Rt AA) AA) ⟨ke rfl,ke rfl,ke rfl,ke rfl,ke rfl,trivial⟩) ?_
 refine TO.ex 54 rfl (fun eF=>TO.fact 54 rfl fun u5=> ?_)
 refine tp rfl (AQ (xs:=[.tmp 54]) (rows:=[_]) rfl rfl underlying38 JS nH rfl AB ⟨⟨Ab,(Va rfl)⟩,trivial⟩ AB) ?_
 refine tp rfl (AY rfl TH (vl rfl)) (TO.Ee 1 rfl rfl (A9 rfl rfl (vl rfl) (Vo rfl) xy rfl Al rfl) (TO.nil (Fin.go (mT 0 2 3 4 7 16 17 18 rfl (Tr.A0 (tp rfl (AY rfl JQ (vl rfl)) (TO.rd 3 rfl rfl rfl AB (Ay rfl Re (vl rfl) rfl) (TO.rd 1 rfl rfl rfl AB (D3 rfl Pk Gy (vl rfl) rfl rfl) (tp rfl (AQ (xs:=[.tmp 59]) (rows:=[Dq (⟨nm,1,s2.of [3,3,4],14::LI (s2.BV.val 3),(s2.BV.BV.val 2==2-1),[FX nm 5 2048 (100+(k:Nat)) 901 1 eF],[1],[2,3],(s2.BV.BV.BV.val 3==3-1)⟩:E4)]) rfl rfl underlying27 Gy z40 rfl AB ⟨⟨Ab,VL.le (vl rfl) (Pr.le_trans (Bv (qs:=Dq (⟨nm,1,s2.of [3,3,4],14::LI (s2.BV.val 3),(s2.BV.BV.val 2==2-1),[FX nm 5 2048 (100+(k:Nat)) 901 1 eF],[1],[2,3],(s2.BV.BV.BV.val 3==3-1)⟩:E4)) ⟨Lr,Lr,Lr,Pr.le_trans (A_ _ _) (Pr.le_of_eq rfl),Lr,BA _ _,Lr,Lr,Lr,trivial⟩) (AW _))⟩,trivial⟩ AB) ?_)))))))))
 refine TO.Ef 2 rfl rfl AB (CN rfl rfl rfl rfl underlying27 Gy xz z40 (Kb rfl) (Kf rfl) (BQ BI (Ka rfl))) (fun v3=> ?_)
 refine tp rfl (AY rfl JQ (vl rfl)) (TO.Ee 3 rfl rfl (A9 rfl rfl (vl rfl) (Vo rfl) xq rfl Al rfl) (TO.nil (Fin.block (Fin.go (Tr.drop 1 (wk7 0 2 3 4 16 17 18 rfl (Tr.Ah (JF rfl rfl rfl rfl AA (cm rfl (Ch.nil ?_))))))))))
 refine Fin.HQ 2 [Ae v3 (slice 9 ((es++[(⟨nm,1,s2.of [3,3,4],14::LI (s2.BV.val 3),(s2.BV.BV.val 2==2-1),[FX nm 5 2048 (100+(k:Nat)) 901 1 eF],[1],[2,3],(s2.BV.BV.BV.val 3==3-1)⟩:E4)]).map Dq)),is (.slice none 0 0),is (.slice none 0 0)] rfl ⟨BU Ex,Lr,Lr,trivial⟩ ?_
 refine Fin.drop 0 ?_
 exact Fin.EH (k+1) (es++[(⟨nm,1,s2.of [3,3,4],14::LI (s2.BV.val 3),(s2.BV.BV.val 2==2-1),[FX nm 5 2048 (100+(k:Nat)) 901 1 eF],[1],[2,3],(s2.BV.BV.BV.val 3==3-1)⟩:E4)]) (_) v3 (⟨⟨by omega,by rw [List.length_append,hk2];rfl,VD hk3 ⟨by rw [hk2];exact M_,rfl,hof,.inr ⟨_,VC hvs,rfl⟩,⟨eF,u5,by rw [hk2]⟩,rfl,rfl⟩⟩,by omega⟩) ⟨⟨_,rfl,AF k⟩,ke rfl,ke rfl,ke rfl,ke rfl,ke rfl,ke rfl,trivial⟩ (fun _ _ h=>h)
 refine Tr.skip (Fin.go (Tr.seq (Tr.A0 (tm rfl (tp rfl (AZ rfl (Zl) trivial) (tm rfl ?_))))))
 refine tp rfl (Ey rfl (vl rfl) (vl rfl) ?hin) ?_;case hin=>unfold N9;omega
 refine tp rfl (AZ rfl (QD (name:=nm) (a:=5) (b:=2048) (id:=100+(k:Nat)) (to:=901) (key:=1) (Ts M_ AA AA) (Rt AA) AA) ⟨ke rfl,ke rfl,ke rfl,ke rfl,ke rfl,trivial⟩) ?_
 refine TO.ex 54 rfl (fun eF=>TO.fact 54 rfl fun u5=> ?_)
 refine tp rfl (AQ (xs:=[.tmp 54]) (rows:=[_]) rfl rfl underlying38 JS nH rfl AB ⟨⟨Ab,(Va rfl)⟩,trivial⟩ AB) ?_
 refine tp rfl (AY rfl TH (vl rfl)) (TO.Ee 0 rfl rfl (A9 rfl rfl (vl rfl) (Vo rfl) xy rfl Al rfl) (TO.nil (Fin.go (mT 0 2 3 4 7 16 17 18 rfl (Tr.A0 (tp rfl (AY rfl JQ (vl rfl)) (TO.rd 2 rfl rfl rfl AB (Ay rfl Re (vl rfl) rfl) (TO.rd 0 rfl rfl rfl AB (D3 rfl Pk Gy (vl rfl) rfl rfl) (tp rfl (AQ (xs:=[.tmp 59]) (rows:=[Dq (⟨nm,1,s2.of [3,3,4],LI (s2.BV.val 3),(s2.BV.BV.val 2==2-1),[FX nm 5 2048 (100+(k:Nat)) 901 1 eF],[1],[2,3],(s2.BV.BV.BV.val 3==3-1)⟩:E4)]) rfl rfl underlying27 Gy z40 rfl AB ⟨⟨Ab,VL.le (vl rfl) (Pr.le_trans (Bv (qs:=Dq (⟨nm,1,s2.of [3,3,4],LI (s2.BV.val 3),(s2.BV.BV.val 2==2-1),[FX nm 5 2048 (100+(k:Nat)) 901 1 eF],[1],[2,3],(s2.BV.BV.BV.val 3==3-1)⟩:E4)) ⟨Lr,Lr,Lr,Lr,Lr,BA _ _,Lr,Lr,Lr,trivial⟩) (AW _))⟩,trivial⟩ AB) ?_)))))))))
 refine TO.Ef 1 rfl rfl AB (CN rfl rfl rfl rfl underlying27 Gy xz z40 (Kb rfl) (Kf rfl) (BQ BI (Ka rfl))) (fun v4=> ?_)
 refine tp rfl (AY rfl JQ (vl rfl)) (TO.Ee 2 rfl rfl (A9 rfl rfl (vl rfl) (Vo rfl) xq rfl Al rfl) (TO.nil (Fin.block (Fin.go (Tr.drop 0 (wk7 0 2 3 4 16 17 18 rfl (Tr.Ah (JF rfl rfl rfl rfl AA (cm rfl (Ch.nil ?_))))))))))
 refine Fin.HQ 1 [Ae v4 (slice 9 ((es++[(⟨nm,1,s2.of [3,3,4],LI (s2.BV.val 3),(s2.BV.BV.val 2==2-1),[FX nm 5 2048 (100+(k:Nat)) 901 1 eF],[1],[2,3],(s2.BV.BV.BV.val 3==3-1)⟩:E4)]).map Dq)),is (.slice none 0 0),is (.slice none 0 0)] rfl ⟨BU Ex,Lr,Lr,trivial⟩ ?_
 exact Fin.EH (k+1) (es++[(⟨nm,1,s2.of [3,3,4],LI (s2.BV.val 3),(s2.BV.BV.val 2==2-1),[FX nm 5 2048 (100+(k:Nat)) 901 1 eF],[1],[2,3],(s2.BV.BV.BV.val 3==3-1)⟩:E4)]) (_) v4 (⟨⟨by omega,by rw [List.length_append,hk2];rfl,VD hk3 ⟨by rw [hk2];exact M_,rfl,hof,.inl (VC hvs),⟨eF,u5,by rw [hk2]⟩,rfl,rfl⟩⟩,by omega⟩) ⟨⟨_,rfl,AF k⟩,ke rfl,ke rfl,ke rfl,ke rfl,ke rfl,ke rfl,trivial⟩ (fun _ _ h=>h)
 have hke:k=(2+s.val 2).toNat:=by have:=Df.EA h1;rw [eG] at this;omega
 refine Tr.exit (Fin.AV (Fin.AV (Fin.Ao (Fin.go (Tr.seq (Tr.seq (Tr.HQ 1 [slice 9 (es.map Dq),is (.slice none 0 0),is (.slice none 0 0)] rfl ⟨A_ _ _,Lr,Lr,trivial⟩ (Tr.drop 0 (Tr.Ah (cm rfl (co rfl (B7 rfl underlying127 (vl rfl)) (cm rfl (Ch.nil (Fin.go ?_))))))))))))))
 refine Tr.block ?_
 refine Tr.re 65 rfl (int_eq (by simp;rfl):Pr.le _ (int (((E9.take (2+s.val 2).toNat).length:Nat):Int))) ?_
 refine Tr.HQ 0 [slice 9 (es.map Dq),Ae (.slice none 0 0) (MF []),is (.slice none 0 0)] rfl ⟨Lr,Bu rfl,Lr,trivial⟩ (Tr.CB 132 2 (Tr.Gm [(0,_),(2,_),(3,_),(4,_),(65,_)] ⟨ke rfl,ke rfl,ke rfl,ke rfl,ke rfl,trivial⟩ (fun (i:Nat) (gs:List La) (s3:DS) w=>[(66,int ((i:Nat):Int))]) (fun (i:Nat) (gs:List La) (s3:DS) w=>Hp M0 w0 S (As 132 2 w::AE true b2 31 [slice 9 (es.map Dq),Ae w (MF gs),is (.slice none 0 0)]::AE true b1 31 (([.slice none 0 0,.slice none 0 0,.slice none 0 0]:List Value).map is)::CG b s3::Ak M1 w1::rs)) (fun (i:Nat) (gs:List La) (s3:DS)=>i≤(2+s.val 2).toNat∧gs.length≤3∧Xc (2+s.val 2).toNat i 0 gs) (fun (i:Nat) (gs:List La) (s3:DS)=>(2+s.val 2).toNat-i) (0) ([]) (_) (.slice none 0 0) (⟨by omega,by simp,Xc.nil _ _ _⟩) ⟨ke rfl,trivial⟩ (fun _ _ h=>h) ?_))
 rintro i gs s3 w ⟨hi1,hi2,hi3⟩
 refine Tr.seq (Tr.Ah (co rfl (ki rfl rfl rfl rfl) (Ch.nil (Fin.go (Tr.seq ?_)))))
 refine Tr.cn rfl ?_ ?_<;>intro h3 q3
 have hin:i<(2+s.val 2).toNat:=by have:=Df.EA h3;rw [eG] at this;omega
 refine Tr.skip (Fin.go (Tr.seq (Tr.block (Tr.seq (Tr.Ah (cm rfl (cm rfl (Ch.nil (Fin.go (Tr.seq (Tr.Ah (cm rfl (co rfl (B7 rfl underlying127 (vl rfl)) ?_)))))))))))))
 refine cm rfl (Ch.nil (Fin.go (Tr.block ?_)))
 refine Tr.re 70 rfl (int_eq (by simp;rfl):Pr.le _ (int (((E9.take (2+s.val 2).toNat).length:Nat):Int))) ?_
 refine Tr.Gm [(0,_),(2,_),(3,_),(4,_),(8,_),(65,_),(66,_),(70,_)] ⟨ke rfl,ke rfl,ke rfl,ke rfl,ke rfl,ke rfl,ke rfl,ke rfl,trivial⟩ (fun (j:Nat) (cU:List La) (s4:DS) u=>[(71,int ((j:Nat):Int))]) (fun (j:Nat) (cU:List La) (s4:DS) u=>Hp M0 w0 S (As 132 2 u::AE true b2 31 [slice 9 (es.map Dq),Ae u (MF cU),is (.slice none 0 0)]::AE true b1 31 (([.slice none 0 0,.slice none 0 0,.slice none 0 0]:List Value).map is)::CG b s4::Ak M1 w1::rs)) (fun (j:Nat) (cU:List La) (s4:DS)=>j≤(2+s.val 2).toNat∧cU.length≤3∧Xc (2+s.val 2).toNat i j cU) (fun (j:Nat) (cU:List La) (s4:DS)=>(2+s.val 2).toNat-j) (0) (gs) (_) w (⟨by omega,hi2,hi3⟩) ⟨ke rfl,trivial⟩ (fun _ _ h=>h) ?_
 rintro j cU s4 u ⟨hj1,hj2,hj3⟩
 refine Tr.seq (Tr.Ah (co rfl (ki rfl rfl rfl rfl) (Ch.nil (Fin.go (Tr.seq ?_)))))
 refine Tr.cn rfl ?_ ?_<;>intro h4 q4
 have hjn:j<(2+s.val 2).toNat:=by have:=Df.EA h4;rw [eG] at this;omega
 refine Tr.skip (Fin.go (Tr.seq (Tr.block (Tr.seq (Tr.Ah (cm rfl (cm rfl (Ch.nil (Fin.go (Tr.seq (Tr.A0 (tm rfl (tm rfl ?_)))))))))))))
 refine tp rfl (ki rfl rfl rfl rfl) (tm rfl ?_)
 refine TO.cases 77 rfl (fun h5=> ?_) (fun h5=> ?_)
 have q5:=Df.EA h5
 refine TO.UR rfl rfl rfl h5 rfl AB (Bw rfl (vl rfl)) (TO.gr 3 rfl rfl rfl h5 rfl rfl AB (AU rfl rfl AB rfl (A8 AA AA) ⟨ke rfl,ke rfl,trivial⟩) (TO.UR rfl rfl rfl h5 rfl AB (ki rfl rfl rfl rfl) (tp rfl (PY rfl rfl h5 rfl) (tm rfl ?_))))
 refine TO.cases 82 rfl (fun h6=> ?_) (fun h6=> ?_)
 have q6:=Df.EA h6
 refine TO.UR rfl rfl rfl h6 rfl AB (AY rfl My (vl rfl)) (TO.UR rfl rfl rfl h6 rfl AB (CY 1 rfl (Ay rfl ZU (vl rfl) rfl)) (TO.UR rfl rfl rfl h6 rfl AB (Bn rfl underlying28 (Kb rfl)) (TO.UR rfl rfl rfl h6 rfl AB (ki rfl rfl rfl rfl) (tp rfl (PY rfl rfl h6 rfl) (TO.nil (Fin.go (N_ 0 2 3 4 8 9 65 66 70 71 87 rfl ?_)))))))
 refine Tr.cn rfl ?_ ?_<;>intro h7 q7
 refine Tr.A0 (tp rfl (AY rfl My (vl rfl)) (TO.rd 1 rfl rfl rfl AB (Ay rfl ZU (vl rfl) rfl) (tm rfl (tm rfl (tp rfl (Ar (rows:=[(0,[_]),(1,[_])]) rfl rW Uq ⟨⟨rfl,(Vo rfl)⟩,⟨⟨rfl,(Vo rfl)⟩,trivial⟩⟩ rfl) (tp rfl (AQ (xs:=[.tmp 92]) (rows:=[_]) rfl rfl underlying28 GL bP rfl AB ⟨⟨Ab,(Va rfl)⟩,trivial⟩ AB) ?_))))))
 refine TO.Ef 0 rfl rfl AB (CN rfl rfl rfl rfl underlying28 GL yC bP (Kb rfl) (Kf rfl) (BQ BI (Ka rfl))) (fun v5=> ?_)
 refine tp rfl (AY rfl My (vl rfl)) (TO.Ee 1 rfl rfl (A9 rfl rfl (vl rfl) (Vo rfl) xu rfl Al rfl) (TO.nil (Fin.block (Fin.go (wk9 0 2 3 4 8 65 66 70 71 rfl (Tr.Ah (JF rfl rfl rfl rfl AA (cm rfl (Ch.nil ?_)))))))))
 refine Fin.HQ 1 [slice 9 (es.map Dq),Ae v5 (MF (cU++[(⟨((i:Nat):Int),((j:Nat):Int)⟩:La)])),is (.slice none 0 0)] rfl ⟨Lr,BU Ex,Lr,trivial⟩ ?_
 exact Fin.EH (j+1) (cU++[(⟨((i:Nat):Int),((j:Nat):Int)⟩:La)]) (_) v5 (⟨⟨by omega,by simp;omega,hj3.snoc ⟨by omega,by omega⟩ ⟨by omega,by omega⟩ AA⟩,by omega⟩) ⟨⟨_,rfl,AF j⟩,ke rfl,ke rfl,ke rfl,ke rfl,ke rfl,ke rfl,ke rfl,ke rfl,trivial⟩ (fun _ _ h=>h)
 refine Tr.skip (Fin.block (Fin.go (Tr.Ah (JF rfl rfl rfl rfl AA (cm rfl (Ch.nil (Fin.EH (j+1) (cU) (_) u (⟨⟨by omega,hj2,hj3.step⟩,by omega⟩) ⟨⟨_,rfl,AF j⟩,ke rfl,ke rfl,ke rfl,ke rfl,ke rfl,ke rfl,ke rfl,ke rfl,trivial⟩ (fun _ _ h=>h))))))))
 have q6:=Df.EA h6
 iterate 4 refine TO.RD rfl rfl rfl (Aw h6) rfl AB ?_
 refine tp rfl (LX rfl rfl h6 rfl) (TO.nil (Fin.go (N_ 0 2 3 4 8 9 65 66 70 71 87 rfl (Tr.cond rfl (fun h=>nomatch h) (fun _=> ?_)))))
 refine Tr.skip (Fin.block (Fin.go (Tr.Ah (JF rfl rfl rfl rfl AA (cm rfl (Ch.nil (Fin.EH (j+1) (cU) (_) u (⟨⟨by omega,hj2,hj3.step⟩,by omega⟩) ⟨⟨_,rfl,AF j⟩,ke rfl,ke rfl,ke rfl,ke rfl,ke rfl,ke rfl,ke rfl,ke rfl,trivial⟩ (fun _ _ h=>h))))))))
 have q5:=Df.EA h5
 refine TO.RD rfl rfl rfl (Aw h5) rfl AB (TO.RD rfl rfl rfl (Aw h5) rfl AB (TO.RD rfl rfl rfl (Aw h5) rfl AB (tp rfl (LX rfl rfl h5 rfl) (tm rfl ?_))))
 iterate 4 refine TO.RD rfl rfl rfl (Aw rfl) rfl AB ?_
 refine tp rfl (LX rfl rfl rfl rfl) (TO.nil (Fin.go (N_ 0 2 3 4 8 9 65 66 70 71 87 rfl (Tr.cond rfl (fun h=>nomatch h) (fun _=> ?_)))))
 refine Tr.skip (Fin.block (Fin.go (Tr.Ah (JF rfl rfl rfl rfl AA (cm rfl (Ch.nil (Fin.EH (j+1) (cU) (_) u (⟨⟨by omega,hj2,hj3.step⟩,by omega⟩) ⟨⟨_,rfl,AF j⟩,ke rfl,ke rfl,ke rfl,ke rfl,ke rfl,ke rfl,ke rfl,ke rfl,trivial⟩ (fun _ _ h=>h))))))))
 have hje:j=(2+s.val 2).toNat:=by have:=Df.EA h4;rw [eG] at this;omega
 refine Tr.exit (Fin.AV (Fin.AV (Fin.Ao (Fin.block (Fin.go (Tr.Ah (JF rfl rfl rfl rfl AA (cm rfl (Ch.nil (Fin.EH (i+1) (cU) (_) u (⟨⟨by omega,hj2,hj3.row⟩,by omega⟩) ⟨⟨_,rfl,AF i⟩,ke rfl,ke rfl,ke rfl,ke rfl,ke rfl,trivial⟩ (fun _ _ h=>h)))))))))))
 have hie:i=(2+s.val 2).toNat:=by have:=Df.EA h3;rw [eG] at this;omega
 refine Tr.exit (Fin.AV (Fin.AV (Fin.Ao (Fin.go (Tr.seq (Tr.seq (Tr.Ah (co rfl (AY rfl My (vl rfl)) (co rfl (CY 1 rfl (Ay rfl ZU (vl rfl) rfl)) (co rfl (Bn rfl underlying28 (Kb rfl)) (co rfl (ki rfl rfl rfl rfl) (Ch.nil (Fin.go ?_)))))))))))))
 refine Tr.cn rfl ?_ ?_<;>intro h8 q8
 refine Tr.A0 (tp rfl (Ar (rows:=[(0,[_]),(1,[_])]) rfl rW Uq ⟨⟨rfl,(Vo rfl)⟩,⟨⟨rfl,(Vo rfl)⟩,trivial⟩⟩ rfl) (tp rfl (AQ (xs:=[.tmp 102]) (rows:=[_]) rfl rfl underlying28 GL bP rfl AB ⟨⟨Ab,(Va rfl)⟩,trivial⟩ AB) ?_))
 refine tp rfl (AY rfl My (vl rfl)) (TO.Ee 1 rfl rfl (A9 rfl rfl (vl rfl) (Vo rfl) xu rfl Al rfl) (TO.nil (Fin.go (NZ 0 2 3 rfl (Tr.seq (Tr.seq ?_))))))
 have hv9:=s3.Bi (n:=3) AA
 obtain ⟨eD,hge,xN,xO,xP⟩:∃l:List La,l=[⟨0,1⟩]∧(∀k,k<l.length→Cw (2+s.val 2).toNat l k=true)∧1≤l.length∧l.length≤3:=⟨_,rfl,((Xc.nil (2+s.val 2).toNat 0 1).snoc ⟨by omega,by omega⟩ ⟨by omega,by omega⟩ AA).at_,by simp,by simp⟩
 refine Tr.HQ 1 [slice 9 (es.map Dq),MF eD,is (.slice none 0 0)] rfl ⟨Lr,Pr.le_trans (BA _ _) (Pr.le_of_eq (by rw [hge];rfl)),Lr,trivial⟩ ?_
 refine Tr.drop 0 (Tr.A0 (tm rfl (TO.EV 2 rfl rfl AB (AU rfl rfl AB rfl (A8 AA AA) ⟨ke rfl,ke rfl,trivial⟩) (tm rfl (TO.nil (Fin.go (Tr.block (Tr.HQ 0 [slice 9 (es.map Dq),MF eD,Ae (.slice none 0 0) (XR [])] rfl ⟨Lr,Lr,Bu rfl,trivial⟩ (Tr.CB 135 5 ?_)))))))))
 refine Tr.Gm [(0,_),(2,_),(3,_)] ⟨ke rfl,ke rfl,ke rfl,trivial⟩ (fun (q:Int) (its:List NA) (s5:DS) x=>[(10,int q)]) (fun (q:Int) (its:List NA) (s5:DS) x=>Hp M0 w0 S (As 135 5 x::AE true b2 31 [slice 9 (es.map Dq),MF eD,Ae x (XR its)]::AE true b1 31 (([.slice none 0 0,.slice none 0 0,.slice none 0 0]:List Value).map is)::CG b s5::Ak M1 w1::rs)) (fun (q:Int) (its:List NA) (s5:DS)=>0≤q∧q+its.length≤2∧∀x∈its,Xb x) (fun (q:Int) (its:List NA) (s5:DS)=>q.toNat) (_) ([]) (_) (.slice none 0 0) (⟨by omega,by simp;omega,fun x h=>by simp at h⟩) ⟨ke rfl,trivial⟩ (fun _ _ h=>h) ?_
 rintro q its s5 x ⟨hq1,Wh,hqi⟩
 refine Tr.seq (Tr.seq (Tr.Ah (cm rfl (co rfl (ki rfl rfl rfl rfl) (Ch.nil (Fin.go ?_))))))
 refine Tr.cn rfl ?_ ?_<;>intro h9 q9
 have oX:0<q:=of_decide_eq_true h9
 refine Tr.skip (Fin.go (Tr.seq (Tr.block (Tr.pad (Tr.K3 mixed [none,some (0,2,false,0),none,none,none,some (0,4,true,0),some (0,4,true,0),none,some (0,1,true,119),none,some (0,2,true,119)] BS (xo rfl (fun _=>AY rfl Ph (vl rfl)) (HO 2 rfl rfl (Ay rfl gH (vl rfl) rfl) (xm rfl (xm rfl (xo rfl (fun _=>AQ (xs:=[.const (.string ⟨[98,97,99,107,117,112].toArray⟩),.const (.string ⟨[100,101,101,100].toArray⟩)]) (rows:=[[_],[_]]) rfl rfl underlying127 LZ z9 rfl AB ⟨⟨Ab,(Vo rfl)⟩,⟨⟨Ab,(Vo rfl)⟩,trivial⟩⟩ AB) ?_))))))))))
 refine Cx.ef 4 rfl rfl AB (AU rfl rfl AB rfl (VB (l:=[[98,97,99,107,117,112],[100,101,101,100]]) AO AO) ⟨ke rfl,(Kf rfl),trivial⟩) ?_
 refine Cx.ef 4 rfl rfl AB (AU rfl rfl AB rfl (Zo) ⟨ke rfl,ke rfl,trivial⟩) (xo rfl (fun _=>AQ (xs:=[.tmp 117]) (rows:=[_]) rfl rfl underlying29 Iz bQ rfl AB ⟨⟨Ab,(Va rfl)⟩,trivial⟩ AB) ?_)
 refine Cx.ef 1 rfl rfl AB (CN rfl rfl rfl rfl underlying29 Iz rX bQ (Kb rfl) (Kf rfl) (BQ BI (Ka rfl))) ?_
 refine xo rfl (fun _=>AY rfl Ph (vl rfl)) (Cx.Ee 2 rfl rfl (Ga rfl rfl rfl (vl rfl) rfl xw Al) ?_)
 refine Cx.nil ⟨rfl,?_⟩
 refine BW.Rc 1 2 119 rfl rfl AB rfl (fun v6=> ?_)
 refine BW.done (BT.cons (BT.cons (BT.cons (BT.cons (BT.cons (BT.cons (BT.map _))))))) (Fin.block (Fin.go (Tr.drop 0 (PZ 0 2 3 10 rfl (Tr.Ah (cm rfl (csu rfl rfl rfl rfl AA (cm rfl (Ch.nil ?_)))))))))
 refine Fin.HQ 1 [slice 9 (es.map Dq),MF eD,Ae v6 (XR (its++[(Rw s5.BV (Jj s5 [LN,Xd]))]))] rfl ⟨Lr,Lr,BU Ex,trivial⟩ ?_
 exact Fin.EH (q-1) (its++[(Rw s5.BV (Jj s5 [LN,Xd]))]) (_) v6 (⟨⟨by omega,by simp;omega,VH hqi (Zn (Zp s5))⟩,by omega⟩) ⟨⟨_,rfl,int_eq AA⟩,ke rfl,ke rfl,ke rfl,trivial⟩ (fun _ _ h=>h)
 have oX:¬0<q:=of_decide_eq_false h9
 refine Tr.exit (Fin.AV (Fin.AV (Fin.Ao (Fin.go (Tr.seq (Tr.A0 (TO.rd 1 rfl rfl rfl AB (D3 rfl GK IP (vl rfl) rfl rfl) (TO.Aj 2 rfl rfl rfl (vl rfl) (Va rfl) rfl IP rfl rfl (TO.nil (Fin.go (Tr.ret (Fin.B4 3 _ rfl rfl (Fin.Cb [_,_,_] rfl (A7.cell 2 rfl rfl GK IP rfl (Lr)) ?_ (fun _ _ _ _=>rfl))))))))))))))
 · exact eY
 refine Tr.skip (Fin.go (Tr.seq (Tr.seq ?_)))
 have hv9:=s3.Bi (n:=3) AA
 obtain ⟨eD,hge,xN,xO,xP⟩:∃l:List La,l=gs∧(∀k,k<l.length→Cw (2+s.val 2).toNat l k=true)∧1≤l.length∧l.length≤3:=⟨_,rfl,hi3.at_,by have h_:=h8;simp at h_;exact List.length_pos_iff.2 h_,hi2⟩
 refine Tr.HQ 1 [slice 9 (es.map Dq),MF eD,is (.slice none 0 0)] rfl ⟨Lr,Pr.le_trans (A_ _ _) (Pr.le_of_eq (by rw [hge])),Lr,trivial⟩ (Tr.drop 0 (Tr.A0 (tm rfl (TO.EV 2 rfl rfl AB (AU rfl rfl AB rfl (A8 AA AA) ⟨ke rfl,ke rfl,trivial⟩) (tm rfl (TO.nil (Fin.go (PZ 0 2 3 10 rfl (Tr.block (Tr.HQ 0 [slice 9 (es.map Dq),MF eD,Ae (.slice none 0 0) (XR [])] rfl ⟨Lr,Lr,Bu rfl,trivial⟩ (Tr.CB 135 5 ?_)))))))))))
 refine Tr.Gm [(0,_),(2,_),(3,_)] ⟨ke rfl,ke rfl,ke rfl,trivial⟩ (fun (q:Int) (its:List NA) (s5:DS) x=>[(10,int q)]) (fun (q:Int) (its:List NA) (s5:DS) x=>Hp M0 w0 S (As 135 5 x::AE true b2 31 [slice 9 (es.map Dq),MF eD,Ae x (XR its)]::AE true b1 31 (([.slice none 0 0,.slice none 0 0,.slice none 0 0]:List Value).map is)::CG b s5::Ak M1 w1::rs)) (fun (q:Int) (its:List NA) (s5:DS)=>0≤q∧q+its.length≤2∧∀x∈its,Xb x) (fun (q:Int) (its:List NA) (s5:DS)=>q.toNat) (_) ([]) (_) (.slice none 0 0) (⟨by omega,by simp;omega,fun x h=>by simp at h⟩) ⟨ke rfl,trivial⟩ (fun _ _ h=>h) ?_
 rintro q its s5 x ⟨hq1,Wh,hqi⟩
 refine Tr.seq (Tr.seq (Tr.Ah (cm rfl (co rfl (ki rfl rfl rfl rfl) (Ch.nil (Fin.go ?_))))))
 refine Tr.cn rfl ?_ ?_<;>intro h10 Q2
 have oX:0<q:=of_decide_eq_true h10
 refine Tr.skip (Fin.go (Tr.seq (Tr.block (Tr.pad (Tr.K3 mixed [none,some (0,2,false,0),none,none,none,some (0,4,true,0),some (0,4,true,0),none,some (0,1,true,119),none,some (0,2,true,119)] BS (xo rfl (fun _=>AY rfl Ph (vl rfl)) (HO 2 rfl rfl (Ay rfl gH (vl rfl) rfl) (xm rfl (xm rfl (xo rfl (fun _=>AQ (xs:=[.const (.string ⟨[98,97,99,107,117,112].toArray⟩),.const (.string ⟨[100,101,101,100].toArray⟩)]) (rows:=[[_],[_]]) rfl rfl underlying127 LZ z9 rfl AB ⟨⟨Ab,(Vo rfl)⟩,⟨⟨Ab,(Vo rfl)⟩,trivial⟩⟩ AB) ?_))))))))))
 refine Cx.ef 4 rfl rfl AB (AU rfl rfl AB rfl (VB (l:=[[98,97,99,107,117,112],[100,101,101,100]]) AO AO) ⟨ke rfl,(Kf rfl),trivial⟩) ?_
 refine Cx.ef 4 rfl rfl AB (AU rfl rfl AB rfl (Zo) ⟨ke rfl,ke rfl,trivial⟩) (xo rfl (fun _=>AQ (xs:=[.tmp 117]) (rows:=[_]) rfl rfl underlying29 Iz bQ rfl AB ⟨⟨Ab,(Va rfl)⟩,trivial⟩ AB) ?_)
 refine Cx.ef 1 rfl rfl AB (CN rfl rfl rfl rfl underlying29 Iz rX bQ (Kb rfl) (Kf rfl) (BQ BI (Ka rfl))) ?_
 refine xo rfl (fun _=>AY rfl Ph (vl rfl)) (Cx.Ee 2 rfl rfl (Ga rfl rfl rfl (vl rfl) rfl xw Al) ?_)
 refine Cx.nil ⟨rfl,?_⟩
 refine BW.Rc 1 2 119 rfl rfl AB rfl (fun v7=> ?_)
 refine BW.done (BT.cons (BT.cons (BT.cons (BT.cons (BT.cons (BT.cons (BT.map _))))))) (Fin.block (Fin.go (Tr.drop 0 (PZ 0 2 3 10 rfl (Tr.Ah (cm rfl (csu rfl rfl rfl rfl AA (cm rfl (Ch.nil ?_)))))))))
 refine Fin.HQ 1 [slice 9 (es.map Dq),MF eD,Ae v7 (XR (its++[(Rw s5.BV (Jj s5 [LN,Xd]))]))] rfl ⟨Lr,Lr,BU Ex,trivial⟩ ?_
 exact Fin.EH (q-1) (its++[(Rw s5.BV (Jj s5 [LN,Xd]))]) (_) v7 (⟨⟨by omega,by simp;omega,VH hqi (Zn (Zp s5))⟩,by omega⟩) ⟨⟨_,rfl,int_eq AA⟩,ke rfl,ke rfl,ke rfl,trivial⟩ (fun _ _ h=>h)
 have oX:¬0<q:=of_decide_eq_false h10
 refine Tr.exit (Fin.AV (Fin.AV (Fin.Ao (Fin.go (Tr.seq (Tr.A0 (TO.rd 1 rfl rfl rfl AB (D3 rfl GK IP (vl rfl) rfl rfl) (TO.Aj 2 rfl rfl rfl (vl rfl) (Va rfl) rfl IP rfl rfl (TO.nil (Fin.go (Tr.ret (Fin.B4 3 _ rfl rfl (Fin.Cb [_,_,_] rfl (A7.cell 2 rfl rfl GK IP rfl (Lr)) ?_ (fun _ _ _ _=>rfl))))))))))))))
 · exact eY
end Go.Proofs.YtmocaapoeefgkaaGreatDoor
namespace Cp
open Go Go.RowKit
theorem Zq {P:Program} {E:Env} {I:CS} {o:Oper} {t e:TypeId} {y:Operand} {sz bytes:Nat} {zs:List Value} {rows:List (List Pr)} (ho:o.op= .call { callee:= .builtin .append,args:= #[.const (.slice none 0 0),y],argTypes:= #[t,t] })
  (ht:P.underlying t=some (.slice e)) (hz:Au P e=some sz) (hby:Bq P e=some bytes) (Dr:BO P e=some zs) (hzl:zs.length=sz) (hsz:0<sz) (hy:VL E y (slice sz rows)) (F7:rows.length≤maxLen) (hfit:rows.length*bytes≤140737488355328):Ad P I o E (slice sz rows):=
 Ad.val fun M w a he hI=>by
  have h0:=(At.begin (I.bd _ _ hI)).I8 (r:=Bb) rfl trivial
  obtain ⟨v',w',M',h1,h2,h3,h4⟩:=Uf (ty:=o.type) (j:=0) (v:= .slice none 0 0) (rows:=[]) ht hz hby Dr hzl hsz h0 rfl (.inr ⟨rfl,rfl⟩) (Ai sz M w _ rfl) (hy.ev he Cn) OR OQ
  have h5:a.eval (.const (.slice none 0 0))= .slice none 0 0:=rfl
  exact ⟨v',w',by simp [execOp,ho,resolve,invoke,builtin,h1,h5],(slice sz rows).st _ _ _ _ _ (Ext.less h4.m) G2,h4.below⟩
theorem TO.Nh {P:Program} {n:Fm} {E:Env} {M0:Av} {w0:World} {S:Nat→Prop} {rs:List An} {ops:Array Oper} {r:List Oper} {Q:Exit→Act→World→Prop} (i:Nat) {T:TypeId} {b:Nat} (hi:rs[i]? =some (FK T b)) (k:∀s,TO P n ops r E (Hp M0 w0 S (rs.set i (Pg T b s))) Q):TO P n ops r E (Hp M0 w0 S rs) Q:=by
 rintro m hl a w ⟨M,h1,h2,h3,h4⟩
 have h4:At M0 w0 S rs M w:=h4
 obtain ⟨x,hx,hh⟩:=(h4.hold _ (List.mem_of_getElem? hi)).1
 exact k x m hl a w ⟨M,h1,h2,h3,h4.CD hi rfl rfl hh⟩
theorem Ad.Wu {P:Program} {E:Env} {I:CS} {o:Oper} {p:Pr} (s:Nat) {α:Type} {f:α→Pr} (hs:E.lookup s=some (Cp.ex f)) (hm:s∈looks o) (h:∀x,Ad P I o ((s,f x)::E) p):Ad P I o E p:=by
 intro M w a he hI
 obtain ⟨x,hx⟩:=he s _ hm hs
 refine h x M w a (fun t q ht hq=> ?_) hI
 simp only [List.lookup] at hq
 by_cases hts:t=s
 · subst hts;simp at hq;subst hq;exact hx
 · rw [show (t==s)=false by simpa using hts] at hq;exact he t q ht hq
end Cp
namespace Cp
open Go Go.RowKit Go.Great
section
variable {P:Program} {L:Lg P} {n:Fm} {fz:Nat} {E:Env} {M0:Av} {w0:World} {S:Nat→Prop} {rs:List An}
theorem At.VI {i:Nat} {r r':An} {M:Av} {w:World} (h:At M0 w0 S rs M w) (hi:rs[i]? =some r) (hb:∀b,r'.blk=some b→r.blk=some b) (hn:r'.new=r.new) (hh:r'.h M w):At M0 w0 S (rs.set i r') M w:=by
 have FU:i<rs.length:=by rcases Nat.lt_or_ge i rs.length with h|h;exact h;rw [List.getElem?_eq_none h] at hi;cases hi
 have h1:=At.perm (Cl hi) h
 refine At.perm (Lw FU) ⟨h1.m0,h1.m,h1.os,h1.tape,h1.output,h1.size,h1.block,h1.bd,fun q hq=> ?_,?_⟩
 ·
  rcases List.mem_cons.1 hq with rfl|hq
  · exact ⟨hh,fun b hbk=>by rw [hn];exact (h1.hold r AO).2 b (hb b hbk)⟩
  · exact h1.hold q (by simp [hq])
 ·
  obtain ⟨h2,h3⟩:=List.pairwise_cons.1 h1.nd
  exact List.Pairwise.cons (fun q hq b hbk=>h2 q hq b (hb b hbk)) h3
theorem At.Rz {j:Nat} {e:TypeId} {sz:Nat} {rows:List (List Pr)} {v:Value} {M:Av} {w:World} (h:At M0 w0 S rs M w) (hj:rs[j]? =some (BM e sz rows v)):At M0 w0 S (rs.set j (Bc e sz rows v)) M w:=by
 rcases (h.hold _ (List.mem_of_getElem? hj)).1 with ⟨h1,h2⟩|⟨b,cap,sp,h1,h2,h3,h4,h5⟩
 ·
  subst h2
  exact h.VI hj (fun b hb=>by cases hb) rfl (.inl ⟨h1,_,rfl⟩)
 ·
  subst h1
  cases cap with
  |zero=>
   have hr:rows=[]:=List.eq_nil_of_length_eq_zero AA
   subst hr
   exact h.VI hj (fun b hb=>by cases hb) rfl (.inl ⟨rfl,_,rfl⟩)
  |succ c=>exact h.VI hj (fun b hb=>hb) rfl (.inr ⟨b,c,sp,rfl,h2,h3,h4,h5⟩)
theorem Fin.Rz {Q:Exit→Act→World→Prop} {x:Exit} {e:TypeId} {sz:Nat} {rows:List (List Pr)} {v:Value} (j:Nat) (hj:rs[j]? =some (BM e sz rows v)) (k:Fin n E (Hp M0 w0 S (rs.set j (Bc e sz rows v))) Q x):Fin n E (Hp M0 w0 S rs) Q x:=
 Fin.conv (fun a w hs=>by
  obtain ⟨M,h1,h2,h3,h4⟩:=hs
  have h4:At M0 w0 S rs M w:=h4
  exact ⟨M,h1,h2,h3,h4.Rz hj⟩) k
theorem Tr.Rz {Q:Exit→Act→World→Prop} {c:Code} {e:TypeId} {sz:Nat} {rows:List (List Pr)} {v:Value} (j:Nat) (hj:rs[j]? =some (BM e sz rows v)) (k:Tr L n E (Hp M0 w0 S (rs.set j (Bc e sz rows v))) c Q):Tr L n E (Hp M0 w0 S rs) c Q:=
 Tr.conv (fun _ _ ⟨M,h1,h2,h3,h4⟩=>⟨M,h1,h2,h3,At.Rz h4 hj⟩) k
end
end Cp
namespace Go.Proofs.YtmocaapoeefgkaaGreatDoor
open Go Go.RowKit Cp Go.Proofs.Tryz
structure E4.sz (e:E4) (n:Nat):Prop where
 name:e.name.length≤maxLen
 B6:e.B6.length≤n
 anchors:e.anchors.length≤n
 hashes:e.hashes.length≤n
 idl:e.ids.length≤n
 ids:∀x∈e.ids,x.fits∧x.small
theorem E4.sz.fits {e:E4} {n:Nat} (h:e.sz n):e.fits:=⟨h.name,fun x hx=>(h.ids x hx).1⟩
theorem E4.sz.small {e:E4} {n:Nat} (h:e.sz n) (hn:n≤1000000):e.small:=⟨by have:=h.B6;omega,by have:=h.anchors;omega,by have:=h.hashes;omega,by have:=h.idl;omega,fun x hx=>(h.ids x hx).2⟩
theorem E4.sz.le {e:E4} {n m:Nat} (h:e.sz n) (hn:n≤m):e.sz m:=⟨h.name,Nat.le_trans h.B6 hn,Nat.le_trans h.anchors hn,Nat.le_trans h.hashes hn,Nat.le_trans h.idl hn,h.ids⟩
theorem pq {i:Nat} {e:E4} (h:XP i e):e.sz 5:=by
 have hs:=Og _ (HF h)
 have h1:=Ru h;have h2:=QE h
 obtain ⟨s,hs1,Za⟩:=h.ids
 exact ⟨h1.name,hs.2,by rw [h.anchors];simp,by rw [h.hashes];simp,by rw [Za];simp,fun x hx=>⟨h1.ids x hx,h2.ids x hx⟩⟩
structure FQ.sz (e:FQ) (n:Nat):Prop where
 Dy:∀x∈e.Dy,x.sz n
 items:∀x∈e.items,x.name.length≤maxLen∧x.links.length≤1000000
 le:e.Dy.length≤1000000
 lg:e.DL.length≤1000000
 li:e.items.length≤1000000
theorem FQ.sz.fits {e:FQ} {n:Nat} (h:e.sz n) (hn:n≤1000000):e.fits:=
 ⟨fun x hx=>⟨(h.Dy x hx).fits,(h.Dy x hx).small hn⟩,fun x hx=>(h.items x hx).1,by have:=h.le;omega,by have:=h.lg;omega,by have:=h.li;omega⟩
def Ny (s:List Int) (k:Nat):Int:=if k=0 then -1 else s[k-1]?.getD 0
theorem Xe {s:List Int} {k:Nat} {i:Int} (h:s[k]? =some i):Ny s (k+1)=i:=by unfold Ny;rw [if_neg AA,Nat.add_sub_cancel,h];rfl
theorem QK {n:Int} {s:List Int} {k:Nat} {i:Int} (h:∀j,j<k→setAt n s j=true) (hi:s[k]? =some i):setAt n s k= !(decide (i≤Ny s k)||decide (n≤i)):=by
 have hk:=BP hi
 unfold setAt Ny
 rw [hi,Option.getD_some]
 rcases Nat.eq_zero_or_pos k with hz|hz
 · subst hz;rw [Bool.eq_iff_iff];simp;omega
 ·
  have h1:=h (k-1) AA
  unfold setAt at h1
  simp only [Bool.and_eq_true,decide_eq_true_eq] at h1
  rw [if_neg AA,Bool.eq_iff_iff];simp;omega
theorem Sb {n:Int} {s:List Int} {k:Nat} {i:Int} (h:∀j,j<k→setAt n s j=true) (hi:s[k]? =some i) (hb:i≤Ny s k∨n≤i):DN n s=false:=
 EP (p:=setAt n s) (k:=k) (BP hi) (by rw [QK h hi];simp;omega)
theorem jM {n:Int} {s:List Int} (h:∀j,j<s.length→setAt n s j=true):∀j,j<s.length→(j:Int)≤s[j]?.getD 0
 |0,hj=>by have:=h 0 hj;unfold setAt at this;simp at this;simp;omega
 |j+1,hj=>by
  have h1:=jM h j AA
  have:=h (j+1) hj
  unfold setAt at this
  simp only [Bool.and_eq_true,Bool.or_eq_true,decide_eq_true_eq,Nat.add_sub_cancel] at this
  omega
theorem pz {n:Nat} {s:List Int} (h:DN n s=true):s.length≤n:=by
 unfold DN at h;rw [Br] at h
 rcases Nat.eq_zero_or_pos s.length with hz|hz
 · omega
 ·
  have h1:=jM h (s.length-1) AA
  have h2:=h (s.length-1) AA
  unfold setAt at h2
  simp only [Bool.and_eq_true,decide_eq_true_eq] at h2
  omega
theorem p_ {n:Nat} {s:List Int} (h:DN n s=true) {k:Nat} {i:Int} (hi:s[k]? =some i):0≤i∧i<n:=by
 unfold DN at h;rw [Br] at h
 have h2:=h k (BP hi)
 unfold setAt at h2
 rw [hi] at h2
 simp only [Option.getD_some,Bool.and_eq_true,decide_eq_true_eq] at h2
 exact h2.1
end Go.Proofs.YtmocaapoeefgkaaGreatDoor
namespace Cp
open Go Go.RowKit
theorem qA {β:Type} {f:β→Pr} {ps:List Pr} {M:Av} {w:World} {ad:Addr} {n:Nat} (h:Row M w ad n (ps++[Cp.ex f])):∃x,Row M w ad n (ps++[f x]):=by
 obtain ⟨u,h1,h2,h3,x,h4⟩:=h ps.length (Cp.ex f) AO
 refine ⟨x,fun j p hp=> ?_⟩
 rcases Nat.lt_trichotomy j ps.length with hj|hj|hj
 · exact Y2
 · subst hj;simp at hp;subst hp;exact ⟨u,h1,h2,h3,h4⟩
 · exact Sc
theorem cV {φ:Prop} {q:Pr} {ps:List Pr} {M:Av} {w:World} {ad:Addr} {n:Nat} (h:Row M w ad n (ps++[fact φ q])):φ∧Row M w ad n (ps++[q]):=by
 obtain ⟨u,h1,h2,h3,hφ,h4⟩:=h ps.length (fact φ q) AO
 refine ⟨hφ,fun j p hp=> ?_⟩
 rcases Nat.lt_trichotomy j ps.length with hj|hj|hj
 · exact Y2
 · subst hj;simp at hp;subst hp;exact ⟨u,h1,h2,h3,h4⟩
 · exact Sc
theorem Xf {α β:Type} {f:α→List Pr} {g:β→List Pr} {φ:α→β→Prop} {sz:Nat} (h:∀a M w ad n,Row M w ad n (f a)→∃b,φ a b∧Row M w ad n (g b)) (hf:∀a,(f a).length=sz) (hg:∀b,(g b).length=sz) (ms:List α):
  Pr.le (slice sz (ms.map f)) (Cp.ex fun l:List β=>fact (l.length=ms.length∧∀(i:Nat) a b,ms[i]? =some a→l[i]? =some b→φ a b) (slice sz (l.map g))):=by
 rintro M w v ⟨a,cap,hv,h1,h2,h3,h5⟩
 have hk:∀k,k≤ms.length→∃l:List β,l.length=k∧(∀(i:Nat) a b,ms[i]? =some a→l[i]? =some b→φ a b)∧∀(i:Nat) b,l[i]? =some b→∃ad,a=some ad∧Row M w ad (i*sz) (g b):=by
  intro k
  induction k with
  |zero=>intro _;exact ⟨[],rfl,by simp,by simp⟩
  |succ k ih=>
   intro hk
   obtain ⟨l,hl,hp,hr⟩:=ih AA
   obtain ⟨x,hx⟩:∃x,ms[k]? =some x:=⟨ms[k],List.getElem?_eq_getElem AA⟩
   obtain ⟨_,ad,had,hrow⟩:=h5 k (f x) (by rw [List.getElem?_map,hx];rfl)
   obtain ⟨b,Lu,Q1⟩:=h x M w ad (k*sz) hrow
   refine ⟨l++[b],by simp [hl],fun i y c hy hc=> ?_,fun i c hc=> ?_⟩
   ·
    rcases Nat.lt_trichotomy i k with hi|hi|hi
    · rw [List.getElem?_append_left AA] at hc;exact hp i y c hy hc
    · subst hi;rw [List.getElem?_append_right AA,hl] at hc;simp at hc;subst hc;rw [hx] at hy;cases hy;exact Lu
    · rw [List.getElem?_eq_none (by simp [hl];omega)] at hc;cases hc
   ·
    rcases Nat.lt_trichotomy i k with hi|hi|hi
    · rw [List.getElem?_append_left AA] at hc;exact hr i c hc
    · subst hi;rw [List.getElem?_append_right AA,hl] at hc;simp at hc;subst hc;exact ⟨ad,had,Q1⟩
    · rw [List.getElem?_eq_none (by simp [hl];omega)] at hc;cases hc
 obtain ⟨l,hl,hp,hr⟩:=hk ms.length (Nat.le_refl _)
 rw [List.length_map] at hv h1
 refine ⟨l,⟨hl,hp⟩,a,cap,by rw [List.length_map,hl];exact hv,by rw [List.length_map,hl];exact h1,h2,h3,fun i row hrow=> ?_⟩
 rw [List.getElem?_map] at hrow
 cases hb:l[i]? with
 |none=>rw [hb] at hrow;cases hrow
 |some b=>
  rw [hb] at hrow;simp at hrow;subst hrow
  exact ⟨hg b,hr i b hb⟩
end Cp
namespace Go.Proofs.YtmocaapoeefgkaaGreatDoor
open Go Go.RowKit Cp Go.Proofs.Tryz
structure ChS (l:List HR):Prop where
 fits:∀c∈l,c.fits
 small:(⟨0,0,0,l⟩:U8).small
abbrev chE:Pr:=Cp.ex fun l:List HR=>fact (ChS l) (Nv l)
abbrev Dt (c:Bz):List Pr:=[int c.BJ,int c.kind,int c.number,int c.at_,int c.HS.Bh,int c.HS.bits,int c.HS.El,chE]
structure qB (es:List E4) (c:Bz):Prop where
 lo:0≤c.BJ
 hi:c.BJ<(es.length:Nat)
 kind:1≤c.kind∧c.kind≤12
def HU (es:List E4) (l:List Bz):Prop:=∀c∈l,qB es c
theorem HU.snoc {es:List E4} {l:List Bz} {c:Bz} (h:HU es l) (hc:qB es c):HU es (l++[c]):=by
 intro x hx
 rcases List.mem_append.1 hx with hx|hx
 · exact h x hx
 · simp at hx;subst hx;exact hc
theorem HU.two {es:List E4} {l:List Bz} {c d:Bz} (h:HU es l) (hc:qB es c) (hd:qB es d):HU es (l++[c,d]):=by
 intro x hx
 rcases List.mem_append.1 hx with hx|hx
 · exact h x hx
 · simp at hx;rcases hx with rfl|rfl;exact hc;exact hd
theorem HU.perm {es:List E4} {l m:List Bz} (hp:m.Perm l) (h:HU es l):HU es m:=fun c hc=>h c (hp.mem_iff.1 hc)
theorem HU.take {es:List E4} {l:List Bz} {n:Nat} (h:HU es l):HU es (l.take n):=fun c hc=>h c (List.mem_of_mem_take hc)
theorem qC:ChS []:=⟨(fun c h=>by cases h),⟨by show 0≤_;omega,(fun c hc=>by cases hc)⟩⟩
theorem MG:Pr.le (is (.slice none 0 0)) chE:=DA [] (CO qC (Ai 15))
theorem qD {nm:List UInt8} (h:nm∈E9) {a b id key:Int}:Pr.le (VE nm a b id 901 key) chE:=by
 rintro M w v ⟨s,hs,hv⟩
 have hf:=i_ (a:=a) (b:=b) (id:=id) (key:=key) (s:=s) h
 exact ⟨_,⟨hf.1,⟨hf.2.chain,hf.2.names⟩⟩,hv⟩
theorem jN {nm:List UInt8} {a b id to key:Int}:(iw nm a b id to key).le (agg [int a,int b,int id,VE nm a b id to key]):=by
 rintro M w v ⟨s,hs,hv⟩
 exact Bv (ps:=Ks (FX nm a b id to key s)) (qs:=[int a,int b,int id,VE nm a b id to key]) ⟨Pr.le_refl _,Pr.le_refl _,Pr.le_refl _,fun M w v h=>⟨s,hs,h⟩,trivial⟩ M w v hv
theorem jO (c:Bz) (M:Av) (w:World) (ad:Addr) (n:Nat) (h:Row M w ad n (Dt c)):∃b:Bz,(b.BJ=c.BJ∧b.kind=c.kind∧b.number=c.number∧b.at_=c.at_∧ChS b.HS.chain)∧Row M w ad n (DP b):=by
 obtain ⟨ch,h1⟩:=qA (ps:=[int c.BJ,int c.kind,int c.number,int c.at_,int c.HS.Bh,int c.HS.bits,int c.HS.El]) h
 obtain ⟨h2,h3⟩:=cV (ps:=[int c.BJ,int c.kind,int c.number,int c.at_,int c.HS.Bh,int c.HS.bits,int c.HS.El]) h1
 exact ⟨⟨c.BJ,c.kind,c.number,c.at_,⟨c.HS.Bh,c.HS.bits,c.HS.El,ch⟩⟩,⟨rfl,rfl,rfl,rfl,h2⟩,h3⟩
structure AAL (es:List E4) (l:List Bz):Prop where
 len:l.length≤7
 any:∀c∈l,pW es c
theorem u6 {es:List E4} {ms:List Bz} (h:HU es ms) (hl:ms.length≤7):Pr.le (slice 8 (ms.map Dt)) (Cp.ex fun l:List Bz=>fact (AAL es l) (slice 8 (l.map DP))):=by
 intro M w v hv
 obtain ⟨l,⟨h1,h2⟩,h3⟩:=Xf jO (fun _=>rfl) (fun _=>rfl) ms M w v hv
 refine ⟨l,⟨by omega,fun c hc=> ?_⟩,h3⟩
 obtain ⟨i,hi⟩:=List.getElem?_of_mem hc
 obtain ⟨a,ha⟩:=at_ (l:=ms) (k:=i) (by have:=BP hi;omega)
 obtain ⟨g1,g2,g3,g4,g5⟩:=h2 i a c ha hi
 have hm:=h a (List.mem_of_getElem? ha)
 exact ⟨by rw [g1];exact hm.lo,by rw [g1];exact hm.hi,by rw [g2];exact hm.kind,g5.fits,⟨g5.small.chain,g5.small.names⟩⟩
structure OE (n:Int) (k:Nat) (l:List Int):Prop where
 at_:∀j,j<l.length→setAt n l j=true
 lt:∀x∈l,x<(k:Int)
 len:l.length≤k
theorem OE.nil (n:Int) (k:Nat):OE n k []:=⟨fun j hj=>by simp at hj,fun x hx=>by simp at hx,by simp⟩
theorem OE.step {n:Int} {k:Nat} {l:List Int} (h:OE n k l):OE n (k+1) l:=⟨h.at_,fun x hx=>by have:=h.lt x hx;omega,by have:=h.len;omega⟩
theorem OE.snoc {n:Int} {k:Nat} {l:List Int} (h:OE n k l) (hk:(k:Int)<n):OE n (k+1) (l++[(k:Int)]):=by
 refine ⟨fun j hj=> ?_,fun x hx=> ?_,by have:=h.len;simp;omega⟩
 ·
  rw [List.length_append] at hj;simp at hj
  rcases Nat.lt_or_ge j l.length with hl|hl
  ·
   have:=h.at_ j hl
   unfold setAt at this ⊢
   rw [List.getElem?_append_left hl,List.getElem?_append_left (show j-1<l.length by omega)];exact this
  ·
   have:j=l.length:=by omega
   subst this
   unfold setAt
   rw [List.getElem?_append_right (Nat.le_refl _),Nat.sub_self]
   rcases Nat.eq_zero_or_pos l.length with hz|hz
   ·
    obtain rfl:=List.eq_nil_of_length_eq_zero hz
    simp;omega
   ·
    obtain ⟨y,hy⟩:=Cp.at_ (l:=l) (k:=l.length-1) AA
    rw [List.getElem?_append_left (show l.length-1<l.length by omega),hy]
    have:=h.lt y (List.mem_of_getElem? hy)
    simp;omega
 ·
  rcases List.mem_append.1 hx with hx|hx
  · have:=h.lt x hx;omega
  · simp at hx;subst hx;omega
theorem OE.set {n:Int} {k:Nat} {l:List Int} (h:OE n k l):DN n l=true:=Br.2 h.at_
theorem Zr {b:Nat} {s:DS} {n:Int} (hn:n≤1000000):BR prog 61 [ptr b 0,int n] (Cp.ex fun l:List Int=>fact (DN n l=true) (ints l)) (CG b s) (fun _=>FK 104 b):=by
 refine BR.of func61 rfl rfl Al fun M0 w0 S rs M1 w1=> ?_
 refine a3 ?_
 refine Tr.block (Tr.CB 3 1 (Tr.Gm [(0,_),(1,_)] ⟨ke rfl,ke rfl,trivial⟩ (fun (k:Nat) (l:List Int) (s2:DS) v=>[(6,int ((k:Nat):Int)),(5,Ae v (ints l))]) (fun (k:Nat) (l:List Int) (s2:DS) v=>Hp M0 w0 S (As 3 1 v::CG b s2::Ak M1 w1::rs)) (fun (k:Nat) (l:List Int) (s2:DS)=>OE n k l) (fun (k:Nat) (l:List Int) (s2:DS)=>(n-(k:Nat)).toNat) (0) ([]) (_) (.slice none 0 0) (OE.nil _ _) ⟨ke rfl,⟨_,rfl,Bu rfl⟩,trivial⟩ (fun _ _ h=>h) ?_))
 rintro k l s2 v hI
 refine an ?_ ?_<;>intro h1 q1
 have hkn:((k:Nat):Int)<n:=Df.EA h1
 have Q0:=hI.len
 refine ac ?_
 refine ap ?_
 refine TO.EV 1 rfl rfl AB (AU rfl rfl AB rfl (A8 AA AA) ⟨ke rfl,ke rfl,trivial⟩) ?_
 refine ap ?_
 refine Tr.cn rfl ?_ ?_<;>intro h2 q2
 refine ap ?_
 refine TO.Ef 0 rfl rfl AB (CN rfl rfl rfl rfl underlying51 Bg J_ z3 (Kb rfl) (Kf rfl) (BQ BI (Ka rfl))) (fun v1=> ?_)
 refine ap ?_
 refine PZ 0 1 5 6 rfl ?_
 refine ac ?_
 exact Fin.EH (k+1) (l++[((k:Nat):Int)]) (_) v1 (⟨hI.snoc hkn,by omega⟩) ⟨⟨_,rfl,AF k⟩,⟨_,rfl,BU Ex⟩,ke rfl,ke rfl,trivial⟩ (fun _ _ h=>h)
 refine a2 ?_
 exact Fin.EH (k+1) (l) (_) v (⟨hI.step,by omega⟩) ⟨⟨_,rfl,AF k⟩,ke rfl,ke rfl,ke rfl,trivial⟩ (fun _ _ h=>h)
 have:=h1
 refine a2 ?_
 refine Tr.ret (Fin.B4 1 _ rfl rfl (Fin.Cb [_] rfl (A7.tmp rfl (Lr)) ?_ (fun _ _ _ _=>rfl)))
 · exact DA l (CO hI.set (A_ _ _))
end Go.Proofs.YtmocaapoeefgkaaGreatDoor
namespace Cp
open Go Go.RowKit Go.Great
section
variable {P:Program} {L:Lg P} {n:Fm} {fz:Nat} {E:Env} {M0:Av} {w0:World} {S:Nat→Prop} {rs:List An} {o:Oper} {g:Func} {M1:Av} {w1:World}
theorem qE {d j:Nat} {T:TypeId} {x:Operand} {ps:List Pr} (hg:o.guard=none) (hd:o.dst=some d) (hn:d<n) (ho:o.op= .box T x) (hx:VL E x (Co ps)):
  Di P M0 w0 S n j (SR.c Bb) ⟨d,FN T ps⟩ o E (Cp.ex fun b=>ptr b 0):=by
 refine ⟨hg,fun M w a rs Q4 he hI hj=> ?_⟩
 obtain ⟨h0,h1⟩:=hx.ev (o:=o) he Ap
 have hw:(a.eval x).cells.toList.toArray=(a.eval x).cells:=by simp
 have hrun:(execOp a.eval o).run P w= .ok (.value (.pointer (some ⟨w.heap.size,0,none⟩))) (w.alloc (.cells (a.eval x).cells.toList.toArray T)):=by simp [execOp,ho,Instr.box,newVar,newRow]
 rw [hrun]
 have hb:Below w.heap.size w (w.alloc (.cells (a.eval x).cells.toList.toArray T)):=(Below.refl _ _).alloc (Nat.le_refl _) _
 have h2:=Ext.below (M:=M) hb
 have EL:Ext M w (fun b o=>M b o∨b=w.heap.size) (w.alloc (.cells (a.eval x).cells.toList.toArray T)):=by
  refine ⟨h2.size,fun a v hc hm=>⟨fun hx=> ?_,(h2.keep a v hc hm).2⟩,fun b o ho hp hm=>⟨fun hx=> ?_,(h2.obj b o ho hp hm).2⟩⟩
  ·
   rcases hx with hx|hx
   · exact B8
   · exact Eh
  ·
   rcases hx with hx|hx
   · exact B8
   · exact Ej
 have hs1:(w.alloc (.cells (a.eval x).cells.toList.toArray T)).heap.size=w.heap.size+1:=by simp
 have hat:(SR.at_ (a.put o.dst (.pointer (some ⟨w.heap.size,0,none⟩))) ⟨d,FN T ps⟩)=AE true w.heap.size T ps:=by unfold SR.at_ Slot.val;dsimp only;rw [hd,Bk ID];rfl
 refine ⟨fun b o=>M b o∨b=w.heap.size,⟨_,rfl⟩,EL,?_⟩
 rw [hat]
 refine hI.replace hj EL hb.os hb.tape hb.output (fun k hk _=>hb.block k hk) rfl (fun b o hm _=> .inl hm) (fun b o hx=> ?_) ?_ rfl (fun b hbk=> ?_)
 ·
  rcases hx with hx|hx
  · have:=hI.bd _ _ hx;omega
  · omega
 · refine ⟨fun o=> .inr rfl,(a.eval x).cells.toList,heap_alloc_new w _,h0.st EL,h1⟩
 ·
  have ET:some w.heap.size=some b:=hbk
  injection ET with e1
  subst e1
  exact ⟨by rw [hs1];omega,.inr (Nat.le_refl _)⟩
end
section
variable {P:Program} {L:Lg P} {n:Fm} {fz:Nat} {E:Env} {M0:Av} {w0:World} {S:Nat→Prop} {rs:List An}
end
section
variable {P:Program} {L:Lg P} {n:Fm} {fz:Nat} {E:Env} {M0:Av} {w0:World} {S:Nat→Prop} {rs:List An} {o:Oper}
end
end Cp
namespace Cp
open Go Go.RowKit
theorem Cd.Wu {M:Av} {w:World} {E:Env} {o:Oper} {a:Act} (s:Nat) {α:Type} {f:α→Pr} (hs:E.lookup s=some (Cp.ex f)) (hm:s∈looks o) (he:Cd M w E o a):∃x,Cd M w ((s,f x)::E) o a:=by
 obtain ⟨x,hx⟩:=he s _ hm hs
 refine ⟨x,fun t q ht hq=> ?_⟩
 simp only [List.lookup] at hq
 by_cases hts:t=s
 · subst hts;simp at hq;subst hq;exact hx
 · rw [show (t==s)=false by simpa using hts] at hq;exact he t q ht hq
section
variable {P:Program} {M0:Av} {w0:World} {S:Nat→Prop} {n:Fm} {j:Nat} {R R':SR} {E:Env} {o:Oper}
theorem Di.Wu {p:Pr} (s:Nat) {α:Type} {f:α→Pr} (hg:o.guard=none) (hs:E.lookup s=some (Cp.ex f)) (hm:s∈looks o) (h:∀x,Di P M0 w0 S n j R R' o ((s,f x)::E) p):Di P M0 w0 S n j R R' o E p:=
 ⟨hg,fun M w a rs hsz he hI hj=>by obtain ⟨x,hx⟩:=he.Wu s hs hm;exact (h x).2 M w a rs hsz hx hI hj⟩
theorem Di.le {p q:Pr} (h:Di P M0 w0 S n j R R' o E p) (hl:Pr.le p q):Di P M0 w0 S n j R R' o E q:=by
 refine ⟨h.1,fun M w a rs hsz he hI hj=> ?_⟩
 have this:=h.2 M w a rs hsz he hI hj
 generalize (execOp a.eval o).run P w=r at this ⊢
 unfold D_ at this
 split at this
 · obtain ⟨M',h1,h2,h3⟩:=this;exact ⟨M',hl _ _ _ h1,h2,h3⟩
 · obtain ⟨M',h1,h2,h3⟩:=this;exact ⟨M',hl _ _ _ h1,h2,h3⟩
 · exact Calls.mono this fun _ _ ⟨v,M',h0,h1,h2,h3⟩=>⟨v,M',h0,hl _ _ _ h1,h2,h3⟩
 · exact this.elim
end
theorem jP {z:Array Value} {n:Nat} {u:Value} (h0:0<z.size) (h:u∈(madeCells z n).toList):u∈z.toList:=by
 simp only [madeCells,Array.toList_map,List.mem_map] at h
 obtain ⟨k,_,rfl⟩:=h
 have hk:k % z.size<z.size:=Nat.mod_lt _ h0
 rw [getElem!_pos z _ hk]
 exact Array.getElem_mem_toList hk
theorem qF {z:Array Value} {m sz i j:Nat} {u:Value} (hz:z.size=sz) (hi:i<m) (hu:z.toList[j]? =some u):(madeCells z (m*sz)).toList[i*sz+j]? =some u:=by
 have hjl:j<sz:=by
  rcases Nat.lt_or_ge j sz with h|h
  · exact h
  · rw [List.getElem?_eq_none B1] at hu;cases hu
 have hlt:i*sz+j<m*sz:=by
  have:(i+1)*sz≤m*sz:=Nat.mul_le_mul_right sz hi
  rw [Nat.add_mul] at this;omega
 have hmod:(i*sz+j) % sz=j:=by rw [Nat.mul_comm,Nat.mul_add_mod,Nat.mod_eq_of_lt hjl]
 have hjz:j<z.size:=by omega
 rw [Array.getElem?_toList] at hu ⊢
 rw [Array.getElem?_eq_getElem hjz] at hu
 simp only [madeCells]
 rw [Array.getElem?_map,Array.getElem?_range,if_pos hlt,Option.map_some,hz,hmod,getElem!_pos z _ hjz,hu]
theorem QL {P:Program} {I:CS} {E:Env} {o:Oper} {t e:TypeId} {x y:Operand} {sz bO m:Nat} {zs:List Value} (ho:o.op= .makeSlice t x y) (ht:P.underlying t=some (.slice e)) (hz:Au P e=some sz) (hby:Bq P e=some bO) (Dr:BO P e=some zs) (hzl:zs.length=sz) (hsz:0<sz)
  (h1:zs.all (·.oneCell')=true) (hx:VL E x (int ((m:Nat):Int))) (hy:VL E y (int ((m:Nat):Int))) (hm:m≤maxLen) (hb:bO*m≤281474976710656):Ad P I o E (full sz (List.replicate m (zs.map is))):=
 Ad.val fun M w a he hI=>by
  have hx1:a.eval x= .int .i64 m:=hx.ev he Ap
  have hy1:a.eval y= .int .i64 m:=hy.ev he Ap
  unfold Au at hz
  unfold Bq at hby
  unfold BO at Dr
  cases hi:P.info? e with
  |none=>rw [hi] at hz;cases hz
  |some i=>
   rw [hi] at hz hby Dr
   simp only [Option.map_some,Option.some.injEq,Option.map_eq_some_iff] at hz hby Dr
   obtain ⟨z,WC,Dr⟩:=Dr
   have bK:z.cells.size=sz:=by rw [←hzl,←Dr];simp
   have hrun:=run_make (P:=P) w t e i z ht hi WC .i64 .i64 (m:Int) (m:Int) AA (Int.le_refl _) (by rw [hby];have h0:((bO*m:Nat):Int)≤281474976710656:=Int.ofNat_le.2 hb;rw [←Int.natCast_mul];exact h0) Sr
   rw [hz] at hrun
   simp only [Int.toNat_natCast] at hrun
   have Jk:Below w.heap.size w (w.alloc (.cells (madeCells z.cells (m*sz)) e)):=(Below.refl _ _).alloc (Nat.le_refl _) _
   have hrl:(List.replicate m (zs.map is)).length=m:=List.length_replicate
   have hfl:Flat M w sz (List.replicate m (zs.map is)) (madeCells z.cells (m*sz)).toList:=by
    refine ⟨by rw [hrl];simp [size_madeCells],fun u hu=>List.all_eq_true.1 h1 _ (by rw [←Dr];exact jP AA hu),fun k row hr=> ?_⟩
    have hk:k<m:=by have:=BP hr;omega
    obtain rfl:row=zs.map is:=List.eq_of_mem_replicate (List.mem_of_getElem? hr)
    refine ⟨by simp [hzl],fun j p hp=> ?_⟩
    rw [List.getElem?_map,Option.map_eq_some_iff] at hp
    obtain ⟨u,hu,rfl⟩:=hp
    exact ⟨u,qF bK hk (by rw [Dr];exact hu),rfl⟩
   refine ⟨.slice (some ⟨w.heap.size,0,none⟩) m m,w.alloc (.cells (madeCells z.cells (m*sz)) e),by simp [execOp,ho,hx1,hy1,hrun],?_,Jk⟩
   have jA:=Eo (hfl.st (Ext.below Jk)) (c:=m) (Nat.le_of_eq hrl) hm (g:=w.heap.size) (fun k u hk=>⟨by rw [PO];simpa using hk,fun hx=>by have:=I.bd _ _ hI _ _ hx;omega⟩)
   rw [hrl] at jA
   exact ⟨jA,_,by rw [hrl]⟩
section
variable {P:Program} {L:Lg P} {n:Fm} {E:Env} {M0:Av} {w0:World} {S:Nat→Prop} {rs:List An}
theorem Fin.HC {Q:Exit→Act→World→Prop} {x:Exit} (i j k:Nat) {sz b:Nat} {new:Bool} {T e:TypeId} {ps:List Pr} {rows:List (List Pr)} {v:Value} {p:Pr} (hi:rs[i]? =some (AE new b T ps)) (hj:rs[j]? =some (Bc e sz rows v)) (hij:j≠i) (hk:ps[k]? =some p) (hp:Pr.le p (is v)) (hl:∀r∈rows,r.length=sz)
  (kk:Fin n E (Hp M0 w0 S ((rs.set j Bb).set i (AE new b T (ps.set k (slice sz rows))))) Q x):Fin n E (Hp M0 w0 S rs) Q x:=Fin.conv (fun _ _ hs=>hs.HC hi hj hij hk hp hl) kk
end
end Cp
namespace Go.Proofs.YtmocaapoeefgkaaGreatDoor
open Go Go.RowKit Cp Go.Proofs.Tryz
abbrev AAM (es:List E4) (v:Value):Pr:=Cp.ex fun l:List Bz=>fact (AAL es l) (Ae v (slice 8 (l.map DP)))
theorem Oi {es:List E4} {ms:List Bz} {v:Value} (h:HU es ms) (hl:ms.length≤7):Pr.le (Ae v (slice 8 (ms.map Dt))) (AAM es v):=by
 intro M w u hv
 obtain ⟨l,h1,h2⟩:=u6 h hl M w u hv.2
 exact ⟨l,h1,hv.1,h2⟩
theorem jQ {b:Nat} {s:DS} {e:FQ} (hs:cL e.Dy) (hl:1≤e.Dy.length∧e.Dy.length≤3):E2 (α:=Value) prog 48 [ptr b 0,agg (Hv e)] [CG b s] (fun _=>True) (fun v:Value=>AAM e.Dy v) (fun v=>[As 86 8 v,FK 104 b]):=by
 refine E2.of func48 rfl rfl Al fun M0 w0 S rs M1 w1=>(Tr.seq (Tr.Ah (co rfl (Cq rfl (Va rfl)) (cm rfl (Ch.nil (Fin.go (Tr.seq (Tr.Ah (cm rfl (Ch.nil (Fin.go (Tr.seq (Tr.A0 ?_)))))))))))))
 refine tm rfl (TO.EV 0 rfl rfl AB (AU rfl rfl AB rfl (A8 AA AA) ⟨ke rfl,ke rfl,trivial⟩) (tp rfl (ki rfl rfl rfl rfl) (tm rfl (TO.EV 0 rfl rfl AB (AU rfl rfl AB rfl (A8 AA AA) ⟨ke rfl,ke rfl,trivial⟩) (tp rfl (ki rfl rfl rfl rfl) (tm rfl (TO.EV 0 rfl rfl AB (AU rfl rfl AB rfl (A8 AA AA) ⟨ke rfl,ke rfl,trivial⟩) (tp rfl (ki rfl rfl rfl rfl) (tm rfl (tm rfl (tm rfl (TO.nil (Fin.go ?_)))))))))))))
 refine eE 0 3 5 6 7 8 rfl (Tr.seq (Tr.seq (Tr.Ah (co rfl (ZM rfl JQ rfl rfl) (co rfl (GI rfl Re rfl) (co rfl (Bn rfl underlying27 (vl rfl)) (cm rfl (Ch.nil (Fin.go (Tr.block (Tr.IY 86 8 (Tr.Gm [(0,_),(6,_),(7,_),(8,_),(23,_),(24,_)] ⟨ke rfl,ke rfl,ke rfl,ke rfl,ke rfl,ke rfl,trivial⟩ (fun (k:Nat) (ms:List Bz) (s2:DS) v=>[(25,int ((k:Nat):Int)),(5,Ae v (lens (ms.map Dt).length))]) (fun (k:Nat) (ms:List Bz) (s2:DS) v=>Hp M0 w0 S (BM 86 8 (ms.map Dt) v::CG b s2::Ak M1 w1::rs)) (fun (k:Nat) (ms:List Bz) (s2:DS)=>k≤e.Dy.length∧ms.length≤6*k∧HU e.Dy ms) (fun (k:Nat) (ms:List Bz) (s2:DS)=>e.Dy.length-k) (0) ([]) (_) (.slice none 0 0) (⟨Nat.zero_le _,by simp,fun c hc=>by simp at hc⟩) ⟨ke rfl,⟨_,rfl,Gg (by rfl)⟩,trivial⟩ (fun _ _ h=>h) ?_))))))))))))
 rintro k ms s2 v ⟨hk1,AEX,R3⟩
 refine Tr.seq (Tr.Ah (co rfl (ki rfl rfl rfl rfl) (Ch.nil (Fin.go (Tr.seq ?_)))))
 refine Tr.cn rfl ?_ ?_<;>intro h1 q1
 have Aa:k<e.Dy.length:=by have:=Df.EA h1;omega
 obtain ⟨x,AX⟩:=at_ Aa
 have hse:=hs k x AX
 have hnm:=List.mem_of_getElem? hse.name
 refine Tr.skip (Fin.go (Tr.seq (Tr.block (Tr.seq (Tr.A0 (tm rfl (tp rfl (AD rfl underlying27 Gy (vl rfl) (vl rfl) AA (Ac AX)) (tp rfl (AK rfl Pk Gy (vl rfl) rfl rfl) ?_))))))))
 refine Tl rfl rfl rfl rfl z40 gI (fun b1=> ?_)
 refine tm rfl (TO.Aj 0 rfl rfl rfl (vl rfl) (Va rfl) rfl Gy rfl rfl (TO.freeze 0 10 rfl rfl (TO.nil (Fin.go (fm 0 5 6 7 8 9 10 23 24 25 rfl (Tr.KB [(0,_),(6,_),(7,_),(8,_),(9,_),(10,_),(23,_),(24,_),(25,_)] ⟨ke rfl,ke rfl,ke rfl,ke rfl,ke rfl,ke rfl,ke rfl,ke rfl,ke rfl,trivial⟩ (fun (m1:List Bz) (s3:DS) v1=>[(5,Ae v1 (lens (m1.map Dt).length))]) (fun (m1:List Bz) (s3:DS) v1=>Hp M0 w0 S (BM 86 8 (m1.map Dt) v1::CG b s3::Ak M1 w1::rs)) (fun (m1:List Bz) (s3:DS)=>m1.length≤6*k+1∧HU e.Dy m1) ?_ ?_))))))
 refine Tr.seq (Tr.Ah (cm rfl (cm rfl ?_)))
 refine Ch.cs 31 rfl ?_ ?_<;>intro h2 q2
 refine cy h2 rfl (ZM rfl Pm rfl rfl) (cy h2 rfl (GI rfl FV rfl) (cy h2 rfl (AZ rfl (Tu) ⟨ke rfl,ke rfl,trivial⟩) (cy h2 rfl (F9 rfl (vl rfl)) (co rfl (PY rfl rfl h2 rfl) (Ch.nil (Fin.go (N_ 0 5 6 7 8 9 10 23 24 25 36 rfl ?_)))))))
 refine Tr.cn rfl ?_ ?_<;>intro h3 q3
 have RW:=s2.Bi (n:=2) AA
 refine Tr.A0 (tm rfl (tm rfl (tm rfl (TO.EV 1 rfl rfl AB (AU rfl rfl AB rfl (A8 AA AA) ⟨ke rfl,ke rfl,trivial⟩) (tp rfl (Ar (rows:=[(0,[_]),(1,[_]),(2,[_]),(3,[_])]) rfl Wx Gz ⟨⟨rfl,(Vo rfl)⟩,⟨⟨rfl,(Vo rfl)⟩,⟨⟨rfl,(Vo rfl)⟩,⟨⟨rfl,(Vo rfl)⟩,trivial⟩⟩⟩⟩ rfl) (tp rfl (AQ (xs:=[.tmp 41]) (rows:=[Dt ⟨((k:Nat):Int),1,12,s2.val 2,⟨0,0,0,[]⟩⟩]) rfl rfl underlying32 Be Km rfl AB ⟨⟨Ab,VL.le (vl rfl) (Pr.le_trans (Bv (qs:=Dt _) ⟨Lr,Lr,Lr,Lr,Lr,Lr,Lr,MG,trivial⟩) (AW _))⟩,trivial⟩ AB) ?_))))))
 refine TO.Ef 0 rfl rfl AB (Fg rfl rfl AB rfl underlying32 Be TL Km rfl AB AB (vl rfl) (Kf rfl) (BL fun _=>rfl) (Nat.zero_lt_succ _) Kv Kw) (fun v1=> ?_)
 refine tm rfl (TO.nil ?_)
 exact Fin.CI (ms++[⟨((k:Nat):Int),1,12,s2.val 2,⟨0,0,0,[]⟩⟩]) (_) v1 (⟨by simp;omega,R3.snoc ⟨by show 0≤((k:Nat):Int);omega,by show ((k:Nat):Int)<_;omega,by dsimp only;omega⟩⟩) ⟨⟨_,rfl,C0 AO⟩,ke rfl,ke rfl,ke rfl,ke rfl,ke rfl,ke rfl,ke rfl,ke rfl,ke rfl,trivial⟩ (fun _ _ h=>Li)
 refine Tr.skip (Fin.CI (ms) (_) v (⟨by omega,R3⟩) ⟨⟨_,rfl,C0 AO⟩,ke rfl,ke rfl,ke rfl,ke rfl,ke rfl,ke rfl,ke rfl,ke rfl,ke rfl,trivial⟩ (fun _ _ h=>h))
 iterate 4 refine cnt h2 rfl ?_
 refine co rfl (LX rfl rfl h2 rfl) (Ch.nil (Fin.go (N_ 0 5 6 7 8 9 10 23 24 25 36 rfl (Tr.cond rfl (fun h=>nomatch h) (fun _=> ?_)))))
 refine Tr.skip (Fin.CI (ms) (_) v (⟨by omega,R3⟩) ⟨⟨_,rfl,C0 AO⟩,ke rfl,ke rfl,ke rfl,ke rfl,ke rfl,ke rfl,ke rfl,ke rfl,ke rfl,trivial⟩ (fun _ _ h=>h))
 rintro m1 s3 v1 ⟨AEY,jR⟩
 refine Tr.KB [(0,_),(6,_),(7,_),(8,_),(9,_),(10,_),(23,_),(24,_),(25,_)] ⟨ke rfl,ke rfl,ke rfl,ke rfl,ke rfl,ke rfl,ke rfl,ke rfl,ke rfl,trivial⟩ (fun (m2:List Bz) (s4:DS) v2=>[(5,Ae v2 (lens (m2.map Dt).length))]) (fun (m2:List Bz) (s4:DS) v2=>Hp M0 w0 S (BM 86 8 (m2.map Dt) v2::CG b s4::Ak M1 w1::rs)) (fun (m2:List Bz) (s4:DS)=>m2.length≤6*k+2∧HU e.Dy m2) ?_ ?_
 refine Tr.seq (Tr.Ah (cm rfl (cm rfl ?_)))
 refine Ch.cs 45 rfl ?_ ?_<;>intro h4 q4
 refine HZ h4 rfl (cy h4 rfl (ki rfl rfl rfl rfl) (co rfl (PY rfl rfl h4 rfl) (Ch.nil (Fin.go (N_ 0 5 6 7 8 9 10 23 24 25 48 rfl ?_)))))
 refine Tr.cn rfl ?_ ?_<;>intro h5 q5
 refine Tr.A0 (tm rfl (tm rfl (tp rfl (Ar (rows:=[(0,[_]),(1,[_]),(2,[_])]) rfl Wx Gz ⟨⟨rfl,(Vo rfl)⟩,⟨⟨rfl,(Vo rfl)⟩,⟨⟨rfl,(Vo rfl)⟩,trivial⟩⟩⟩ rfl) (tp rfl (AQ (xs:=[.tmp 51]) (rows:=[Dt ⟨((k:Nat):Int),7,2,0,⟨0,0,0,[]⟩⟩]) rfl rfl underlying32 Be Km rfl AB ⟨⟨Ab,VL.le (vl rfl) (Pr.le_trans (Bv (qs:=Dt _) ⟨Lr,Lr,Lr,Lr,Lr,Lr,Lr,MG,trivial⟩) (AW _))⟩,trivial⟩ AB) ?_))))
 refine TO.Ef 0 rfl rfl AB (Fg rfl rfl AB rfl underlying32 Be TL Km rfl AB AB (vl rfl) (Kf rfl) (BL fun _=>rfl) (Nat.zero_lt_succ _) Kv Kw) (fun v2=> ?_)
 refine tm rfl (TO.nil ?_)
 exact Fin.CI (m1++[⟨((k:Nat):Int),7,2,0,⟨0,0,0,[]⟩⟩]) (_) v2 (⟨by simp;omega,jR.snoc ⟨by show 0≤((k:Nat):Int);omega,by show ((k:Nat):Int)<_;omega,by dsimp only;omega⟩⟩) ⟨⟨_,rfl,C0 AO⟩,ke rfl,ke rfl,ke rfl,ke rfl,ke rfl,ke rfl,ke rfl,ke rfl,ke rfl,trivial⟩ (fun _ _ h=>Li)
 refine Tr.skip (Fin.CI (m1) (_) v1 (⟨by omega,jR⟩) ⟨⟨_,rfl,C0 AO⟩,ke rfl,ke rfl,ke rfl,ke rfl,ke rfl,ke rfl,ke rfl,ke rfl,ke rfl,trivial⟩ (fun _ _ h=>h))
 refine cnt h4 rfl (cnt h4 rfl (co rfl (LX rfl rfl h4 rfl) (Ch.nil (Fin.go (N_ 0 5 6 7 8 9 10 23 24 25 48 rfl (Tr.cond rfl (fun h=>nomatch h) (fun _=> ?_)))))))
 refine Tr.skip (Fin.CI (m1) (_) v1 (⟨by omega,jR⟩) ⟨⟨_,rfl,C0 AO⟩,ke rfl,ke rfl,ke rfl,ke rfl,ke rfl,ke rfl,ke rfl,ke rfl,ke rfl,trivial⟩ (fun _ _ h=>h))
 rintro m2 s4 v2 ⟨AEZ,jS⟩
 refine Tr.KB [(0,_),(6,_),(7,_),(8,_),(9,_),(10,_),(23,_),(24,_),(25,_)] ⟨ke rfl,ke rfl,ke rfl,ke rfl,ke rfl,ke rfl,ke rfl,ke rfl,ke rfl,trivial⟩ (fun (m3:List Bz) (s5:DS) v3=>[(5,Ae v3 (lens (m3.map Dt).length))]) (fun (m3:List Bz) (s5:DS) v3=>Hp M0 w0 S (BM 86 8 (m3.map Dt) v3::CG b s5::Ak M1 w1::rs)) (fun (m3:List Bz) (s5:DS)=>m3.length≤6*k+3∧HU e.Dy m3) ?_ ?_
 refine Tr.seq (Tr.Ah (cm rfl (cm rfl ?_)))
 refine Ch.cs 55 rfl ?_ ?_<;>intro h6 q6
 refine HZ h6 rfl (cy h6 rfl (ki rfl rfl rfl rfl) (co rfl (PY rfl rfl h6 rfl) (Ch.nil (Fin.go (N_ 0 5 6 7 8 9 10 23 24 25 58 rfl ?_)))))
 refine Tr.cn rfl ?_ ?_<;>intro h7 q7
 have hof:=s4.K4 (l:=[2,1]) AO
 simp at hof
 refine Tr.pad (Tr.K3 mixed [none,none,none,none,none,none,none,some (0,2,true,0),none,none,none,none,none,none,some (0,1,true,73),some (73,1,true,5)] BS (xm rfl (xm rfl (xo rfl (fun _=>ZM rfl gJ rfl rfl) (xo rfl (fun _=>GI rfl OA rfl) (xo rfl (fun _=>AZ rfl (AAB) trivial) (xm rfl (xo rfl (fun _=>AQ (xs:=[.const (.int .i64 (2)),.const (.int .i64 (1))]) (rows:=[[_],[_]]) rfl rfl underlying22 Bg z3 rfl AB ⟨⟨Ab,(Vo rfl)⟩,⟨⟨Ab,(Vo rfl)⟩,trivial⟩⟩ AB) ?_))))))))
 refine Cx.ef 2 rfl rfl AB (AU rfl rfl AB rfl (Kq (l:=[2,1]) AO AO) ⟨ke rfl,(Kf rfl),trivial⟩) ?_
 refine xo rfl (fun _=>AZ rfl (QD (name:=x.name) (a:=7) (b:=256) (id:=201) (to:=901) (key:=s4.of [2,1]) (sK hnm (.inr ⟨rfl,rfl⟩) AA AA AA) (sL (.inr ⟨rfl,rfl⟩) AA) AA) ⟨ke rfl,ke rfl,ke rfl,ke rfl,ke rfl,trivial⟩) ?_
 refine xo rfl (fun _=>ZM rfl TH rfl rfl) (xo rfl (fun _=>GI rfl rU rfl) (xo rfl (fun _=>Bn rfl underlying38 (vl rfl)) (xo rfl (fun _=>Ar (rows:=[(0,[_]),(1,[_]),(4,_),(3,[_])]) rfl Wx Gz ⟨⟨rfl,(Vo rfl)⟩,⟨⟨rfl,(Vo rfl)⟩,⟨⟨rfl,⟨_,rfl,Pr.le_trans (jN) (AW _)⟩⟩,⟨⟨rfl,(Vo rfl)⟩,trivial⟩⟩⟩⟩ rfl) (xo rfl (fun _=>AQ (xs:=[.tmp 71]) (rows:=[Dt ⟨((k:Nat):Int),5,0,((x.ids.length:Nat):Int),⟨7,256,201,[]⟩⟩]) rfl rfl underlying32 Be Km rfl AB ⟨⟨Ab,VL.le (vl rfl) (Pr.le_trans (Bv (qs:=Dt _) ⟨Lr,Lr,Lr,Lr,Lr,Lr,Lr,qD hnm,trivial⟩) (AW _))⟩,trivial⟩ AB) ?_))))
 refine Cx.ef 1 rfl rfl AB (Fg rfl rfl AB rfl underlying32 Be TL Km rfl AB AB (vl rfl) (Kf rfl) (BL fun _=>rfl) (Nat.zero_lt_succ _) Kv Kw) ?_
 refine Cx.ef 1 rfl rfl AB (OX rfl rfl AB rfl (vl rfl)) ?_
 refine Cx.nil ⟨rfl,?_⟩
 refine BW.open_ 1 5 rfl rfl (fun v3=> ?_)
 refine BW.done (BT.cons (BT.cons (BT.cons (BT.cons (BT.map _))))) (Fin.drop 0 ?_)
 exact Fin.CI (m2++[⟨((k:Nat):Int),5,0,((x.ids.length:Nat):Int),⟨7,256,201,[]⟩⟩]) (_) v3 (⟨by simp;omega,jS.snoc ⟨by show 0≤((k:Nat):Int);omega,by show ((k:Nat):Int)<_;omega,by dsimp only;omega⟩⟩) ⟨⟨_,rfl,C0 AO⟩,ke rfl,ke rfl,ke rfl,ke rfl,ke rfl,ke rfl,ke rfl,ke rfl,ke rfl,trivial⟩ (fun _ _ h=>Li)
 refine Tr.skip (Fin.CI (m2) (_) v2 (⟨by omega,jS⟩) ⟨⟨_,rfl,C0 AO⟩,ke rfl,ke rfl,ke rfl,ke rfl,ke rfl,ke rfl,ke rfl,ke rfl,ke rfl,trivial⟩ (fun _ _ h=>h))
 refine cnt h6 rfl (cnt h6 rfl (co rfl (LX rfl rfl h6 rfl) (Ch.nil (Fin.go (N_ 0 5 6 7 8 9 10 23 24 25 58 rfl (Tr.cond rfl (fun h=>nomatch h) (fun _=> ?_)))))))
 refine Tr.skip (Fin.CI (m2) (_) v2 (⟨by omega,jS⟩) ⟨⟨_,rfl,C0 AO⟩,ke rfl,ke rfl,ke rfl,ke rfl,ke rfl,ke rfl,ke rfl,ke rfl,ke rfl,trivial⟩ (fun _ _ h=>h))
 rintro m3 s5 v3 ⟨AEa,Zs⟩
 refine Tr.KB [(0,_),(6,_),(7,_),(8,_),(9,_),(10,_),(23,_),(24,_),(25,_)] ⟨ke rfl,ke rfl,ke rfl,ke rfl,ke rfl,ke rfl,ke rfl,ke rfl,ke rfl,trivial⟩ (fun (m4:List Bz) (s6:DS) v4=>[(5,Ae v4 (lens (m4.map Dt).length))]) (fun (m4:List Bz) (s6:DS) v4=>Hp M0 w0 S (BM 86 8 (m4.map Dt) v4::CG b s6::Ak M1 w1::rs)) (fun (m4:List Bz) (s6:DS)=>m4.length≤6*k+4∧HU e.Dy m4) ?_ ?_
 refine Tr.seq (Tr.A0 (tm rfl (tm rfl ?_)))
 refine TO.cases 75 rfl (fun h8=> ?_) (fun h8=> ?_)
 have q8:=Df.EA h8
 refine TO.UR rfl rfl rfl h8 rfl AB (ZM rfl Pm rfl rfl) (TO.UR rfl rfl rfl h8 rfl AB (GI rfl FV rfl) (TO.UR rfl rfl rfl h8 rfl AB (AZ rfl (Tu) ⟨ke rfl,ke rfl,trivial⟩) (tp rfl (PY rfl rfl h8 rfl) (tm rfl ?_))))
 refine TO.cases 80 rfl (fun h9=> ?_) (fun h9=> ?_)
 have q9:=Df.EA h9
 refine TO.UR rfl rfl rfl h9 rfl AB (Bw rfl (vl rfl)) (TO.gr 1 rfl rfl rfl h9 rfl rfl AB (AU rfl rfl AB rfl (A8 AA AA) ⟨ke rfl,ke rfl,trivial⟩) (TO.UR rfl rfl rfl h9 rfl AB (ki rfl rfl rfl rfl) (tp rfl (PY rfl rfl h9 rfl) (TO.nil (Fin.go (N_ 0 5 6 7 8 9 10 23 24 25 84 rfl ?_))))))
 refine Tr.cn rfl ?_ ?_<;>intro h10 Q2
 refine Tr.A0 (tm rfl (tm rfl (tp rfl (Ar (rows:=[(0,[_]),(1,[_]),(2,[_])]) rfl Wx Gz ⟨⟨rfl,(Vo rfl)⟩,⟨⟨rfl,(Vo rfl)⟩,⟨⟨rfl,(Vo rfl)⟩,trivial⟩⟩⟩ rfl) (tp rfl (AQ (xs:=[.tmp 87]) (rows:=[Dt ⟨((k:Nat):Int),2,2,0,⟨0,0,0,[]⟩⟩]) rfl rfl underlying32 Be Km rfl AB ⟨⟨Ab,VL.le (vl rfl) (Pr.le_trans (Bv (qs:=Dt _) ⟨Lr,Lr,Lr,Lr,Lr,Lr,Lr,MG,trivial⟩) (AW _))⟩,trivial⟩ AB) ?_))))
 refine TO.Ef 0 rfl rfl AB (Fg rfl rfl AB rfl underlying32 Be TL Km rfl AB AB (vl rfl) (Kf rfl) (BL fun _=>rfl) (Nat.zero_lt_succ _) Kv Kw) (fun v4=> ?_)
 refine tm rfl (TO.nil ?_)
 exact Fin.CI (m3++[⟨((k:Nat):Int),2,2,0,⟨0,0,0,[]⟩⟩]) (_) v4 (⟨by simp;omega,Zs.snoc ⟨by show 0≤((k:Nat):Int);omega,by show ((k:Nat):Int)<_;omega,by dsimp only;omega⟩⟩) ⟨⟨_,rfl,C0 AO⟩,ke rfl,ke rfl,ke rfl,ke rfl,ke rfl,ke rfl,ke rfl,ke rfl,ke rfl,trivial⟩ (fun _ _ h=>Li)
 refine Tr.skip (Fin.CI (m3) (_) v3 (⟨by omega,Zs⟩) ⟨⟨_,rfl,C0 AO⟩,ke rfl,ke rfl,ke rfl,ke rfl,ke rfl,ke rfl,ke rfl,ke rfl,ke rfl,trivial⟩ (fun _ _ h=>h))
 have q9:=Df.EA h9
 refine TO.RD rfl rfl rfl (Aw h9) rfl AB (TO.RD rfl rfl rfl (Aw h9) rfl AB (TO.RD rfl rfl rfl (Aw h9) rfl AB (tp rfl (LX rfl rfl h9 rfl) (TO.nil (Fin.go (N_ 0 5 6 7 8 9 10 23 24 25 84 rfl (Tr.cond rfl (fun h=>nomatch h) (fun _=> ?_))))))))
 refine Tr.skip (Fin.CI (m3) (_) v3 (⟨by omega,Zs⟩) ⟨⟨_,rfl,C0 AO⟩,ke rfl,ke rfl,ke rfl,ke rfl,ke rfl,ke rfl,ke rfl,ke rfl,ke rfl,trivial⟩ (fun _ _ h=>h))
 have q8:=Df.EA h8
 refine TO.RD rfl rfl rfl (Aw h8) rfl AB (TO.RD rfl rfl rfl (Aw h8) rfl AB (TO.RD rfl rfl rfl (Aw h8) rfl AB (tp rfl (LX rfl rfl h8 rfl) (tm rfl (TO.RD rfl rfl rfl (Aw rfl) rfl AB (TO.RD rfl rfl rfl (Aw rfl) rfl AB (TO.RD rfl rfl rfl (Aw rfl) rfl AB (tp rfl (LX rfl rfl rfl rfl) (TO.nil (Fin.go (N_ 0 5 6 7 8 9 10 23 24 25 84 rfl (Tr.cond rfl (fun h=>nomatch h) (fun _=> ?_)))))))))))))
 refine Tr.skip (Fin.CI (m3) (_) v3 (⟨by omega,Zs⟩) ⟨⟨_,rfl,C0 AO⟩,ke rfl,ke rfl,ke rfl,ke rfl,ke rfl,ke rfl,ke rfl,ke rfl,ke rfl,trivial⟩ (fun _ _ h=>h))
 rintro m4 s6 v4 ⟨AEb,jT⟩
 refine Tr.seq (Tr.Ah (cm rfl (cm rfl ?_)))
 refine Ch.cs 91 rfl ?_ ?_<;>intro h11 U7
 refine cy h11 rfl (ZM rfl Ww rfl rfl) (cy h11 rfl (GI rfl CX rfl) (cy h11 rfl (ki rfl rfl rfl rfl) (co rfl (PY rfl rfl h11 rfl) (Ch.nil (Fin.go (fm 0 5 6 7 8 9 23 24 25 95 rfl ?_))))))
 refine Tr.cn rfl ?_ ?_<;>intro h12 Ze
 refine Tr.A0 (tm rfl (tm rfl (tp rfl (Ar (rows:=[(0,[_]),(1,[_]),(2,[_])]) rfl Wx Gz ⟨⟨rfl,(Vo rfl)⟩,⟨⟨rfl,(Vo rfl)⟩,⟨⟨rfl,(Vo rfl)⟩,trivial⟩⟩⟩ rfl) (tm rfl (tp rfl (Ar (rows:=[(0,[_]),(1,[_]),(2,[_])]) rfl Wx Gz ⟨⟨rfl,(Vo rfl)⟩,⟨⟨rfl,(Vo rfl)⟩,⟨⟨rfl,(Vo rfl)⟩,trivial⟩⟩⟩ rfl) (tp rfl (AQ (xs:=[.tmp 98,.tmp 100]) (rows:=[Dt ⟨((k:Nat):Int),3,4,0,⟨0,0,0,[]⟩⟩,Dt ⟨((k:Nat):Int),1,14,0,⟨0,0,0,[]⟩⟩]) rfl rfl underlying32 Be Km rfl AB ⟨⟨Ab,VL.le (vl rfl) (Pr.le_trans (Bv (qs:=Dt _) ⟨Lr,Lr,Lr,Lr,Lr,Lr,Lr,MG,trivial⟩) (AW _))⟩,⟨⟨Ab,VL.le (vl rfl) (Pr.le_trans (Bv (qs:=Dt _) ⟨Lr,Lr,Lr,Lr,Lr,Lr,Lr,MG,trivial⟩) (AW _))⟩,trivial⟩⟩ AB) ?_))))))
 refine TO.Ef 0 rfl rfl AB (Fg rfl rfl AB rfl underlying32 Be TL Km rfl AB AB (vl rfl) (Kf rfl) (BL fun _=>rfl) (Nat.zero_lt_succ _) Kv Kw) (fun v5=> ?_)
 refine tm rfl (TO.nil (Fin.block (Fin.go (mT 0 5 6 7 8 23 24 25 rfl (Tr.Ah (JF rfl rfl rfl rfl AA (cm rfl (Ch.nil ?_))))))))
 exact Fin.EH (k+1) (m4++[⟨((k:Nat):Int),3,4,0,⟨0,0,0,[]⟩⟩,⟨((k:Nat):Int),1,14,0,⟨0,0,0,[]⟩⟩]) (_) v5 (⟨⟨by omega,by simp;omega,jT.two ⟨by show 0≤((k:Nat):Int);omega,by show ((k:Nat):Int)<_;omega,by dsimp only;omega⟩ ⟨by show 0≤((k:Nat):Int);omega,by show ((k:Nat):Int)<_;omega,by dsimp only;omega⟩⟩,by omega⟩) ⟨⟨_,rfl,AF k⟩,⟨_,rfl,C0 AO⟩,ke rfl,ke rfl,ke rfl,ke rfl,ke rfl,ke rfl,trivial⟩ (fun _ _ h=>Li)
 refine Tr.skip (Fin.block (Fin.go (Tr.Ah (JF rfl rfl rfl rfl AA (cm rfl (Ch.nil (Fin.EH (k+1) (m4) (_) v4 (⟨⟨by omega,by omega,jT⟩,by omega⟩) ⟨⟨_,rfl,AF k⟩,⟨_,rfl,C0 AO⟩,ke rfl,ke rfl,ke rfl,ke rfl,ke rfl,ke rfl,trivial⟩ (fun _ _ h=>h))))))))
 refine cnt h11 rfl (cnt h11 rfl (cnt h11 rfl (co rfl (LX rfl rfl h11 rfl) (Ch.nil (Fin.go (fm 0 5 6 7 8 9 23 24 25 95 rfl (Tr.cond rfl (fun h=>nomatch h) (fun _=> ?_))))))))
 refine Tr.skip (Fin.block (Fin.go (Tr.Ah (JF rfl rfl rfl rfl AA (cm rfl (Ch.nil (Fin.EH (k+1) (m4) (_) v4 (⟨⟨by omega,by omega,jT⟩,by omega⟩) ⟨⟨_,rfl,AF k⟩,⟨_,rfl,C0 AO⟩,ke rfl,ke rfl,ke rfl,ke rfl,ke rfl,ke rfl,trivial⟩ (fun _ _ h=>h))))))))
 have:=h1
 refine Tr.exit (Fin.AV (Fin.AV (Fin.Ao (Fin.go (Tr.seq (Tr.block ?_))))))
 rcases Nat.eq_zero_or_pos ms.length with h0|h0
 refine Tr.Ax [(0,_)] ⟨ke rfl,trivial⟩ (fun _=>[(5,Ae v (lens (ms.map Dt).length))]) (fun _=>True) (fun _=>0) () (trivial) ⟨ke rfl,trivial⟩ ?_
 rintro _ _
 refine Tr.seq (Tr.seq (Tr.Ah (cm rfl (co rfl (U1 rfl underlying32 (Kb rfl)) (co rfl (ki rfl rfl rfl rfl) (Ch.nil (Fin.go ?_)))))))
 refine Tr.cn rfl ?_ ?_<;>intro L4 XK
 exfalso;have h_:=Df.EA L4;rw [List.length_map] at h_;omega
 have:=L4
 refine Tr.exit (Fin.AV (Fin.AV (Fin.Ao (Fin.go (Tr.seq (Tr.seq ?_))))))
 have hv4:=s2.Bi (n:=4) AA
 refine Tr.A0 (tm rfl (TO.EV 1 rfl rfl AB (AU rfl rfl AB rfl (A8 AA AA) ⟨ke rfl,ke rfl,trivial⟩) (tm rfl (TO.nil (Fin.go (Tr.block (Tr.DU [(0,_)] ⟨ke rfl,trivial⟩ (fun (q:Int) (s9:DS)=>[(11,int q),(5,Ae v (lens (ms.map Dt).length))]) (fun (q:Int) (s9:DS)=>Hp M0 w0 S (BM 86 8 (ms.map Dt) v::CG b s9::Ak M1 w1::rs)) (fun (q:Int) (s9:DS)=>True) (fun (q:Int) (s9:DS)=>q.toNat) (_) (_)  (trivial) ⟨ke rfl,ke rfl,trivial⟩ (fun _ _ h=>h) ?_)))))))
 rintro q s9  _
 refine Tr.seq (Tr.seq (Tr.Ah (cm rfl (co rfl (ki rfl rfl rfl rfl) (cm rfl ?_)))))
 refine Ch.cs 116 rfl ?_ ?_<;>intro J9 iZ
 refine HZ J9 rfl (cy J9 rfl (U1 rfl underlying32 (Kb rfl)) (cy J9 rfl (ki rfl rfl rfl rfl) (co rfl (PY rfl rfl J9 rfl) (Ch.nil (Fin.go ?_)))))
 refine Tr.cn rfl ?_ ?_<;>intro RA pK
 exfalso;have h_:=Df.EA RA;rw [List.length_map] at h_;omega
 have:=RA
 refine Tr.exit (Fin.AV (Fin.AV (Fin.Ao (Fin.go (Tr.seq (Tr.om 0 5 rfl rfl (BL fun _=>rfl) (Tr.Ah (cm rfl (cm rfl (Ch.nil (Fin.go (Tr.ret (Fin.B4 1 _ rfl rfl (Fin.Rl (_) rfl (A7.tmp rfl (Lr)) trivial ?_ (List.Perm.refl _)))))))))))))))
 · exact (Oi R3 AA)
 refine cnt J9 rfl (cnt J9 rfl (cnt J9 rfl (co rfl (LX rfl rfl J9 rfl) (Ch.nil (Fin.go (Tr.cond rfl (fun h=>nomatch h) (fun _=> ?_)))))))
 refine Tr.exit (Fin.AV (Fin.AV (Fin.Ao (Fin.go (Tr.seq (Tr.om 0 5 rfl rfl (BL fun _=>rfl) (Tr.Ah (cm rfl (cm rfl (Ch.nil (Fin.go (Tr.ret (Fin.B4 1 _ rfl rfl (Fin.Rl (_) rfl (A7.tmp rfl (Lr)) trivial ?_ (List.Perm.refl _)))))))))))))))
 · exact (Oi R3 AA)
 refine Tr.yq (sz:=8) 0 rfl (by intro h_;simp at h_;rw [h_] at h0;simp at h0) fun b9 AAN sp9 hv9 hg9 hm9 hs9=> ?_
 subst hv9
 rw [List.length_map] at hg9 hs9
 refine Tr.Pf [(0,_)] ⟨ke rfl,trivial⟩ (fun (m:Nat)=>[(5,is (.slice (some ⟨b9,0,none⟩) m AAN))]) (fun (m:Nat)=>Hp M0 w0 S (AE true b9 86 ((ms.map Dt).flatten++sp9.map is)::CG b s2::Ak M1 w1::rs)) (fun (m:Nat)=>1≤m∧m≤ms.length) (fun (m:Nat)=>m) (ms.length)  (⟨h0,Nat.le_refl _⟩) ⟨⟨_,rfl,Pr.le_trans (EU _ _) (Pr.le_of_eq Sx)⟩,trivial⟩ (fun _ _ h=>h) ?_
 rintro m  ⟨hm1,hm2⟩
 refine Tr.seq (Tr.seq (Tr.Ah (cm rfl (co rfl (IX rfl underlying32 (vl rfl)) (co rfl (ki rfl rfl rfl rfl) (Ch.nil (Fin.go ?_)))))))
 refine Tr.cn rfl ?_ ?_<;>intro h16 mY
 have hm7:7<m:=by have:=Df.EA h16;omega
 refine Tr.skip (Fin.go (Tr.block (Tr.Ah (cm rfl (cm rfl (co rfl (IX rfl underlying32 (vl rfl)) (csu rfl rfl rfl rfl AA (co rfl (Nq rfl underlying32 Be (vl rfl) (vl rfl) AA AA AA AA) (cm rfl (Ch.nil (Fin.block ?_)))))))))))
 exact Fin.S_ (m-1)  (⟨⟨by omega,by omega⟩,by omega⟩) ⟨⟨_,rfl,Pr.le_of_eq (by congr 2;omega)⟩,ke rfl,trivial⟩ (fun _ _ h=>h)
 have hm7:m≤7:=by have:=Df.EA h16;omega
 refine Tr.exit (Fin.AV (Fin.AV (Fin.Ao (Fin.go (Tr.seq (Tr.seq ?_))))))
 have hv4:=s2.Bi (n:=4) AA
 refine Tr.A0 (tm rfl (TO.EV 1 rfl rfl AB (AU rfl rfl AB rfl (A8 AA AA) ⟨ke rfl,ke rfl,trivial⟩) (tm rfl (TO.nil (Fin.go (Tr.block (Tr.L3 [(0,_)] ⟨ke rfl,trivial⟩ (fun (q:Int) (ns:List Bz) (s9:DS)=>[(11,int q),(5,is (.slice (some ⟨b9,0,none⟩) m AAN))]) (fun (q:Int) (ns:List Bz) (s9:DS)=>Hp M0 w0 S (AE true b9 86 ((ns.map Dt).flatten++sp9.map is)::CG b s9::Ak M1 w1::rs)) (fun (q:Int) (ns:List Bz) (s9:DS)=>(ns.length=ms.length∧q≤3)∧HU e.Dy ns) (fun (q:Int) (ns:List Bz) (s9:DS)=>q.toNat) (_) (ms) (_)  (⟨⟨rfl,by omega⟩,R3⟩) ⟨ke rfl,ke rfl,trivial⟩ (fun _ _ h=>h) ?_)))))))
 rintro q ns s9  ⟨⟨hn1,hn3⟩,hn2⟩
 refine Tr.seq (Tr.seq (Tr.Ah (cm rfl (co rfl (ki rfl rfl rfl rfl) (cm rfl ?_)))))
 refine Ch.cs 116 rfl ?_ ?_<;>intro Nj mX
 refine HZ Nj rfl (cy Nj rfl (IX rfl underlying32 (vl rfl)) (cy Nj rfl (ki rfl rfl rfl rfl) (co rfl (PY rfl rfl Nj rfl) (Ch.nil (Fin.go ?_)))))
 refine Tr.cn rfl ?_ ?_<;>intro Oa q18
 have hq1:=Df.EA Oa
 refine Tr.skip (Fin.go (Tr.seq (Tr.block (Tr.seq ?_))))
 have hvm:=s9.Bi (n:=((m:Nat):Int)-1) AA
 refine Tr.A0 (tm rfl (tm rfl (tp rfl (IX rfl underlying32 (vl rfl)) ?_)))
 refine tp rfl (Wj rfl (vl rfl) (vl rfl) ?hin) ?_;case hin=>unfold N9;omega
 refine TO.EV 1 rfl rfl AB (AU rfl rfl AB rfl (A8 AA AA) ⟨ke rfl,ke rfl,trivial⟩) (tm rfl (TO.nil (Fin.go (PZ 0 5 11 12 rfl (Tr.K3 mixed [none,none,none,none,none,none,none,none,none,some (0,0,false,0),none,none,none,some (0,0,false,0),none,some (0,0,true,0),none,some (0,0,true,0)] BS ?_)))))
 iterate 4 refine xm rfl ?_
 refine xo rfl (fun _=>Ey rfl (vl rfl) (vl rfl) ?hin) ?_;case hin=>unfold N9;omega
 refine xm rfl (xm rfl ?_)
 refine xo rfl (fun _=>Ey rfl (vl rfl) (vl rfl) ?hin) ?_;case hin=>unfold N9;omega
 refine xo rfl (fun _=>BE rfl underlying32 Be (vl rfl) (vl rfl) AA AA) (HO 0 rfl rfl (D3 rfl CT Be (vl rfl) (Rk (f:=Dt) (fun _=>rfl) AA) rfl) (xm rfl (xm rfl (xo rfl (fun _=>BE rfl underlying32 Be (vl rfl) (vl rfl) AA AA) (HO 0 rfl rfl (D3 rfl CT Be (vl rfl) (Rk (f:=Dt) (fun _=>rfl) AA) rfl) (xo rfl (fun _=>BE rfl underlying32 Be (vl rfl) (vl rfl) AA AA) ?_))))))
 refine Cx.Ee 0 rfl rfl (A9 rfl rfl (vl rfl) (Va rfl) Be rfl (by rw [J3 (sz:=8) (fun _=>rfl)];omega) (IZ (f:=Dt) (fun _=>rfl) AA)) ?_
 refine xo rfl (fun _=>BE rfl underlying32 Be (vl rfl) (vl rfl) AA AA) ?_
 refine Cx.Ee 0 rfl rfl (A9 rfl rfl (vl rfl) (Va rfl) Be rfl (by rw [J3 (sz:=8) (fun _=>rfl)];simp only [List.length_set];omega) (IZ (f:=Dt) (fun _=>rfl) (by simp only [List.length_set];omega))) ?_
 refine Cx.nil ⟨rfl,?_⟩
 refine BW.done (BT.cons (BT.cons (BT.cons (BT.map _)))) (Fin.block (Fin.go (NZ 0 5 11 rfl (Tr.Ah (cm rfl (csu rfl rfl rfl rfl AA (cm rfl (Ch.nil (Fin.DV (q-1) (_) (_)  (⟨⟨⟨(P0 AA AA).length_eq.trans hn1,by omega⟩,HU.perm (P0 AA AA) hn2⟩,by omega⟩) ⟨⟨_,rfl,int_eq AA⟩,ke rfl,ke rfl,trivial⟩ (fun _ _ h=>h))))))))))
 have:=Oa
 refine Tr.exit (Fin.AV (Fin.AV (Fin.Ao (Fin.go (Tr.seq (Tr.eqC 0 (((ns.take m).map Dt).flatten++(((ns.drop m).map Dt).flatten++sp9.map is)) rfl fL ?_))))))
 have hnt:(ns.take m).length=m:=by rw [List.length_take];omega
 refine Tr.W6 (sz:=8) ((ns.take m).map Dt) 0 5 rfl rfl (Pr.le_of_eq (by rw [List.length_map,hnt])) (BL fun _=>rfl) Da hm9 e7 ?_
 refine Tr.Ah (cm rfl (cm rfl (Ch.nil (Fin.go (Tr.ret (Fin.B4 1 _ rfl rfl (Fin.Rl (_) rfl (A7.tmp rfl (Lr)) trivial ?_ (List.Perm.refl _))))))))
 · exact (Oi hn2.take AA)
 refine cnt Nj rfl (cnt Nj rfl (cnt Nj rfl (co rfl (LX rfl rfl Nj rfl) (Ch.nil (Fin.go (Tr.cond rfl (fun h=>nomatch h) (fun _=> ?_)))))))
 refine Tr.exit (Fin.AV (Fin.AV (Fin.Ao (Fin.go (Tr.seq (Tr.eqC 0 (((ns.take m).map Dt).flatten++(((ns.drop m).map Dt).flatten++sp9.map is)) rfl fL ?_))))))
 have hnt:(ns.take m).length=m:=by rw [List.length_take];omega
 refine Tr.W6 (sz:=8) ((ns.take m).map Dt) 0 5 rfl rfl (Pr.le_of_eq (by rw [List.length_map,hnt])) (BL fun _=>rfl) Da hm9 e7 ?_
 refine Tr.Ah (cm rfl (cm rfl (Ch.nil (Fin.go (Tr.ret (Fin.B4 1 _ rfl rfl (Fin.Rl (_) rfl (A7.tmp rfl (Lr)) trivial ?_ (List.Perm.refl _))))))))
 · exact (Oi hn2.take AA)
structure FC where
 lo:Int
 hi:Int
 AR:List Int
structure Aq where
 BG:List FC
 D5:List Int
 room:List Int
def Jl (w:FC):List Pr:=[int w.lo,int w.hi,ints w.AR]
abbrev F0 (l:List FC):Pr:=slice 3 (l.map Jl)
def GA (c:Aq):Pr:=agg [F0 c.BG,ints c.D5,ints c.room]
instance AAO (l:List Int):One (ints l):=bH _ _
def Cm (day:Int) (w:FC):Bool:=decide (w.lo≤day)&&decide (day<w.hi)
def Aq.has (c:Aq) (n:Int):Bool:=decide (0≤n)&&decide (n<c.room.length)
def Aq.at (c:Aq) (day:Int):Int:=idx (Cm day) c.BG
def FP (n:Int):Bool:=decide (n<0)||decide (n>24)
def GC (w:FC):Bool:=decide (w.lo<0)||decide (w.lo≥w.hi)||decide (w.hi>40001)
def KT (l:List Int):Prop:=∀(j:Nat) a b,l[j]? =some a→l[j+1]? =some b→a<b
def OG (l:List FC):Prop:=∀(j:Nat) a b,l[j]? =some a→l[j+1]? =some b→a.hi≤b.lo
open Classical in
noncomputable def Aq.check (c:Aq) (cW:Int):Int:=
 if 32<c.BG.length∨8<c.room.length then 3
 else if c.room.any FP then 2
 else if c.BG.any GC then 47
 else if ¬(OG c.BG∧∀w∈c.BG,KT w.AR) then 6
 else if c.BG.any (fun w=>w.AR.any fun n=> !c.has n) then 2
 else if (c.D5.length:Int)≠cW∨c.D5.any (fun n=> !c.has n) then 1
 else 0
noncomputable def Aq.own (c:Aq):Int:=c.check c.D5.length
theorem NB {β:Type} (p:β→Bool) (l:List β): -1≤idx p l∧idx p l<l.length:=by
 unfold idx
 cases h:l.findIdx? p with
 |none=>simp;omega
 |some i=>
  rw [List.findIdx?_eq_some_iff_getElem] at h
  obtain ⟨h1,_⟩:=h
  simp;omega
theorem Zt {β:Type} {p:β→Bool} {l:List β} (h:0≤idx p l):∃x,l[(idx p l).toNat]? =some x∧p x=true:=by
 unfold idx at*
 cases h':l.findIdx? p with
 |none=>rw [h'] at h;simp at h
 |some i=>
  rw [List.findIdx?_eq_some_iff_getElem] at h'
  obtain ⟨h1,h2,_⟩:=h'
  exact ⟨l[i],by simp,h2⟩
def Aq.Nz (c:Aq) (day:Int):Option FC:=c.BG.find? (Cm day)
theorem Jm {β:Type} (p:β→Bool) (l:List β):l.find? p=if 0≤idx p l then l[(idx p l).toNat]? else none:=by
 unfold idx
 cases h:l.findIdx? p with
 |none=>
  rw [List.findIdx?_eq_none_iff] at h
  rw [if_neg AO,List.find?_eq_none]
  intro x hx;simpa using h x hx
 |some i=>
  rw [List.findIdx?_eq_some_iff_getElem] at h
  obtain ⟨h1,h2,h3⟩:=h
  simp only [Int.natCast_nonneg,if_true,Int.toNat_natCast]
  rw [List.getElem?_eq_getElem h1,List.find?_eq_some_iff_getElem]
  exact ⟨h2,i,h1,rfl,fun j hj=>by simpa using h3 j hj⟩
def Aq.may (c:Aq) (n day:Int):Bool:=match c.Nz day with|some w=>w.AR.any (fun x=>n==x)|none=>false
theorem sO {w:FC} {day:Int}  :BD prog 276 [agg (Jl w),ref [int day]] (bool (Cm day w)):=by
 refine fo func276 rfl ⟨rfl,rfl⟩ fun M0 w0=> ?_
 · repeat' first|exact bool_eq (by simp [Cm,h])|refine ac ?_|(refine Ch.cg rfl rfl rfl ?_ ?_<;>intro h q)
theorem jU {c:Aq} {n:Int}  :BD prog 172 [GA c,int n] (bool (c.has n)):=by
 refine fo func172 rfl ⟨rfl,rfl⟩ fun M0 w0=> ?_
 · repeat' first|(exact bool_eq (by simp [Aq.has];simp at h;omega))|refine ac ?_|(refine Ch.cg rfl rfl rfl ?_ ?_<;>intro h q)
theorem MH {l:List FC} {p:FC→Bool}  :BD prog 210 [F0 l,OU prog (fun x:FC=>[agg (Jl x)]) (fun x=>bool (p x))] (int (idx p l)):=by
 refine fo func210 rfl ⟨rfl,rfl⟩ fun M0 w0=>(Tr.CM 0 rfl fun D4=> ?_)
 refine a2 ?_
 refine Tr.block (Tr.Ax _ (kk [7,1,0] rfl) (fun k:Nat=>[(8,int ((k:Nat):Int))]) (fun k:Nat=>k≤(l).length∧(∀j y,j<k→l[j]? =some y→p y=false)) (fun k:Nat=>(l).length-k) 0 (⟨Nat.zero_le _,fun j y hj=>absurd hj AA⟩) kz ?_)
 rintro k ⟨BK,AL⟩
 refine ac ?_
 refine Tr.seq ?_
 refine Tr.cn rfl ?_ ?_<;>intro h1 q1
 have Aa:k<(l).length:=AH h1
 obtain ⟨x,AX⟩:=at_ Aa
 · repeat' first|exact int_eq (E8 AX BC AL)|exact Fin.AM (k+1) ⟨⟨Aa,CJ AX BC AL⟩,by omega⟩ ⟨⟨_,rfl,AF k⟩,kz⟩|refine co rfl (AD rfl underlying75 EW vq vq AA Bl) ?_|refine co rfl (AK rfl JT EW vq rfl rfl) (co rfl (EO x rfl vq kz) ?_)|refine ac ?_|(refine Tr.cn rfl ?_ ?_<;>intro h q)
 have Az:k=(l).length:=by have:=AJ h1;omega
 subst Az
 refine a3 ?_
 · exact Lm
theorem I3 {l:List FC} {p:FC→Bool}  :BD prog 169 [F0 l,OU prog (fun x:FC=>[agg (Jl x)]) (fun x=>bool (p x))] (bool (l.any p)):=by
 refine fo func169 rfl ⟨rfl,rfl⟩ fun M0 w0=> ?_
 refine a2 ?_
 refine co rfl (C4 (MH) rfl rfl rfl) ?_
 refine a2 ?_
 · exact bool_eq (Od p l)
theorem AAP {c:Aq} {day:Int}  :BD prog 246 [GA c,int day] (int (c.at day)):=by
 refine fo func246 rfl ⟨rfl,rfl⟩ fun M0 w0=> ?_
 refine a2 ?_
 refine co rfl (AZ rfl (MH (p:=Cm day)) ⟨kq,⟨_,rfl,B9 (sO (w:=⟨0,0,[]⟩) (day:=0)).1 (fun x=>sO (w:=x))⟩,trivial⟩) ?_
 refine a2 ?_
 · exact Lr
theorem AAQ {c:Aq} {n day:Int}  :BD prog 245 [GA c,int n,int day] (bool (c.may n day)):=by
 refine fo func245 rfl ⟨rfl,rfl⟩ fun M0 w0=> ?_
 refine a2 ?_
 refine co rfl (C4 (AAP) rfl rfl rfl) ?_
 refine ac ?_
 refine ag ?_ ?_<;>intro h1 q1
 obtain ⟨x,hx,hp⟩:=Zt (p:=Cm day) (l:=c.BG) q1
 refine ac ?_
 refine cy h1 rfl (AD rfl underlying75 EW (vl rfl) (vl rfl) AA (Bt hx)) ?_
 refine ac ?_
 refine cy h1 rfl (C4 (HD) rfl rfl rfl) ?_
 refine ac ?_
 refine wk [6] rfl ?_
 refine ac ?_
 · exact bool_eq (by have h2:=Jm (Cm day) c.BG;rw [if_pos (by unfold Aq.at at q1;exact q1),hx] at h2;unfold Aq.may Aq.Nz;rw [h2])
 refine ac ?_
 refine wk [6] rfl ?_
 refine ac ?_
 · exact bool_eq (by have h2:=Jm (Cm day) c.BG;rw [if_neg (by unfold Aq.at at q1;omega)] at h2;unfold Aq.may Aq.Nz;rw [h2])
theorem VJ {n:Int}  :BD prog 168 [int n] (bool (FP n)):=by
 refine fo func168 rfl ⟨rfl,rfl⟩ fun M0 w0=> ?_
 · repeat' first|exact bool_eq (by simp [FP,h])|refine ac ?_|(refine Ch.cg rfl rfl rfl ?_ ?_<;>intro h q)
theorem VK {w:FC}  :BD prog 170 [agg (Jl w)] (bool (GC w)):=by
 refine fo func170 rfl ⟨rfl,rfl⟩ fun M0 w0=> ?_
 · repeat' first|(refine bool_eq ?_;simp [GC];omega)|refine ac ?_|(refine Ch.cg rfl rfl rfl ?_ ?_<;>intro h q)
theorem MI {c:Aq} {n:Int}  :BD prog 171 [int n,ref [F0 c.BG,ints c.D5,ints c.room]] (bool (!c.has n)):=by
 refine fo func171 rfl ⟨rfl,rfl⟩ fun M0 w0=> ?_
 refine a2 ?_
 refine co rfl (C4 (jU) rfl rfl rfl) ?_
 refine a2 ?_
 · exact Lr
theorem VM {c:Aq} {w:FC}  :BD prog 173 [agg (Jl w),ref [fn (.func 171) [ref [F0 c.BG,ints c.D5,ints c.room]]]] (bool (w.AR.any fun n=> !c.has n)):=by
 refine fo func173 rfl ⟨rfl,rfl⟩ fun M0 w0=> ?_
 refine a2 ?_
 refine co rfl (AZ rfl (DT (p:=fun n=> !c.has n)) ⟨kq,⟨_,rfl,B9 (MI (c:=c) (n:=0)).1 (fun x=>MI (c:=c) (n:=x))⟩,trivial⟩) ?_
 refine a2 ?_
 · exact Lr
theorem R4 {l:List FC} {k:Nat} {x:FC} (hx:l[k]? =some x) (hp:∀y,0<k→l[k-1]? =some y→y.hi≤x.lo) (h:∀(j:Nat) a b,j+1<k→l[j]? =some a→l[j+1]? =some b→a.hi≤b.lo):
  ∀(j:Nat) a b,j+1<k+1→l[j]? =some a→l[j+1]? =some b→a.hi≤b.lo:=by
 intro j a b hj ha hb
 by_cases hjk:j+1=k
 · exact Wg
 · exact h j a b AA ha hb
theorem NC {l:List Int} {k:Nat} {x:Int} (hx:l[k]? =some x) (hp:∀y,0<k→l[k-1]? =some y→y<x) (h:∀(j:Nat) a b,j+1<k→l[j]? =some a→l[j+1]? =some b→a<b):
  ∀(j:Nat) a b,j+1<k+1→l[j]? =some a→l[j+1]? =some b→a<b:=by
 intro j a b hj ha hb
 by_cases hjk:j+1=k
 · exact Wg
 · exact h j a b AA ha hb
theorem Zu {l:List FC} {k:Nat} {x:FC} (hx:l[k]? =some x) (hp:∀(j:Nat) a b,j+1<x.AR.length→x.AR[j]? =some a→x.AR[j+1]? =some b→a<b) (h:∀(j:Nat) a,j<k→l[j]? =some a→KT a.AR):
  ∀(j:Nat) a,j<k+1→l[j]? =some a→KT a.AR:=by
 intro j a hj ha
 by_cases hjk:j=k
 ·
  subst hjk;rw [hx] at ha;cases ha
  intro i u v hu hv
  exact hp i u v (by rcases Nat.lt_or_ge (i+1) x.AR.length with h|h;exact h;rw [List.getElem?_eq_none h] at hv;cases hv) hu hv
 · exact h j a AA ha
theorem HG {l:List FC} (h:(∀(j:Nat) a b,j+1<l.length→l[j]? =some a→l[j+1]? =some b→a.hi≤b.lo)∧∀(j:Nat) a,j<l.length→l[j]? =some a→KT a.AR):OG l∧∀w∈l,KT w.AR:=by
 refine ⟨fun j a b ha hb=>h.1 j a b (by rcases Nat.lt_or_ge (j+1) l.length with h|h;exact h;rw [List.getElem?_eq_none h] at hb;cases hb) ha hb,fun w hw=> ?_⟩
 obtain ⟨j,hj,rfl⟩:=List.mem_iff_getElem.1 hw
 exact h.2 j _ hj (List.getElem?_eq_getElem hj)
theorem VN {l:List FC} {k:Nat} {x y:FC} (hk:0<k) (hx:l[k]? =some x) (hy:l[k-1]? =some y) (h:x.lo<y.hi):¬(OG l∧∀w∈l,KT w.AR):=by
 rintro ⟨h1,_⟩
 have:=h1 (k-1) y x hy (by rw [show k-1+1=k by omega];exact hx)
 omega
theorem VO {l:List FC} {k i:Nat} {x:FC} {t u:Int} (hx:l[k]? =some x) (hi:0<i) (ht:x.AR[i]? =some t) (hu:x.AR[i-1]? =some u) (h:t≤u):¬(OG l∧∀w∈l,KT w.AR):=by
 rintro ⟨_,h2⟩
 have:=h2 x (List.mem_of_getElem? hx) (i-1) u t hu (by rw [show i-1+1=i by omega];exact ht)
 omega
theorem Tv {c:Aq} {m:Int}  :BD prog 120 [GA c,int m] (int (c.check m)):=by
 refine fo func120 rfl ⟨rfl,rfl⟩ fun M0 w0=>(Tr.D9 0 0 rfl rfl fun EK=>(Tr.D9 0 1 rfl rfl fun Ij=>(Tr.D9 0 2 rfl rfl fun KE=> ?_)))
 refine ac ?_
 refine ag ?_ ?_<;>intro h1 q1
 refine a3 ?_
 · exact Sd
 refine an ?_ ?_<;>intro h2 q2
 refine a2 ?_
 · exact Sd
 refine a2 ?_
 refine co rfl (AZ rfl (DT (p:=FP)) ⟨kq,⟨_,rfl,B9 (VJ (n:=0)).1 (fun x=>VJ (n:=x))⟩,trivial⟩) ?_
 refine ac ?_
 refine wk [22,2,1] rfl ?_
 refine Tr.cn rfl ?_ ?_<;>intro h3 q3
 refine a2 ?_
 · refine int_eq ?_;unfold Aq.check;rw [if_neg AA,if_pos h3]
 refine a2 ?_
 refine co rfl (AZ rfl (I3 (p:=GC)) ⟨kq,⟨_,rfl,B9 (VK (w:=⟨0,0,[]⟩)).1 (fun x=>VK (w:=x))⟩,trivial⟩) ?_
 refine an ?_ ?_<;>intro h4 q4
 refine a2 ?_
 · refine int_eq ?_;unfold Aq.check;rw [if_neg AA,if_neg (Aw h3),if_pos h4]
 refine a2 ?_
 refine Tr.block (Tr.Ax _ (kk [28,27,2,1] rfl) (fun k:Nat=>[(29,int ((k:Nat):Int))]) (fun k:Nat=>k≤(c.BG).length∧((∀(j:Nat) a b,j+1<k→c.BG[j]? =some a→c.BG[j+1]? =some b→a.hi≤b.lo)∧∀(j:Nat) a,j<k→c.BG[j]? =some a→KT a.AR)) (fun k:Nat=>(c.BG).length-k) 0 (⟨Nat.zero_le _,⟨fun j a b hj=>absurd hj AA,fun j a hj=>absurd hj AA⟩⟩) kz ?_)
 rintro k ⟨BK,AL⟩
 refine ac ?_
 refine Tr.seq ?_
 refine Tr.cn rfl ?_ ?_<;>intro h5 q5
 have Aa:k<(c.BG).length:=AH h5
 obtain ⟨x,AX⟩:=at_ Aa
 refine ac ?_
 refine ao ?_
 refine tp rfl (AD rfl underlying75 EW vq vq AA Bl) ?_
 refine tp rfl (AK rfl JT EW vq rfl rfl) ?_
 refine Tl rfl rfl rfl rfl z141 Nk (fun b1=> ?_)
 refine tm rfl ?_
 refine sf 0 6 ⟨rfl,rfl,rfl⟩ rfl rfl rfl rfl ?_
 refine ao ?_
 refine wk [29,28,27,6,5,2,1] rfl (Tr.Wk [1,2,6,27,28,29] [] (∀y,0<k→c.BG[k-1]? =some y→y.hi≤x.lo) ?_ (fun jV=> ?_))
 refine ag ?_ ?_<;>intro h7 q7
 obtain ⟨y,hy⟩:=at_ (l:=c.BG) (k:=k-1) AA
 refine ac ?_
 refine cy h7 rfl (AD rfl underlying75 EW vq vq AA (JO AA hy)) ?_
 refine ac ?_
 refine wk [49,29,28,27,6,2,1] rfl ?_
 refine Tr.cn rfl ?_ ?_<;>intro h8 q8
 refine a2 ?_
 · refine int_eq ?_;unfold Aq.check;rw [if_neg AA,if_neg (Aw h3),if_neg (Aw h4),if_pos (VN AA AX hy BC)]
 refine Tr.skip ?_
 exact Fin.AM () (by intro y' hk' hy';rw [hy] at hy';cases hy';omega) (kk6 rfl)
 refine ac ?_
 refine wk [49,29,28,27,6,2,1] rfl (Tr.cond rfl (fun h=>nomatch h) (fun _=> ?_))
 refine Tr.skip ?_
 exact Fin.AM () Sv (kk6 rfl)
 refine ac ?_
 refine Tr.block (Tr.CM 51 rfl fun hlt=>(Tr.Ax _ (kk [52,51,29,28,27,6,2,1] rfl) (fun i:Nat=>[(53,int ((i:Nat):Int))]) (fun i:Nat=>i≤(x.AR).length∧(∀(j:Nat) a b,j+1<i→x.AR[j]? =some a→x.AR[j+1]? =some b→a<b)) (fun i:Nat=>(x.AR).length-i) 0 (⟨Nat.zero_le _,fun j a b hj=>absurd hj AA⟩) kz ?_))
 rintro i ⟨QH,DC⟩
 refine ac ?_
 refine Tr.seq ?_
 refine Tr.cn rfl ?_ ?_<;>intro h9 q9
 have Fi:i<(x.AR).length:=AH h9
 obtain ⟨t,HJ⟩:=at_ Fi
 refine a2 ?_
 refine co rfl (AD rfl underlying22 Bg vq vq AA Bl) ?_
 refine ac ?_
 refine wk [53,52,51,29,28,27,8,7,6,2,1] rfl ?_
 refine ag ?_ ?_<;>intro h10 Q2
 obtain ⟨u,hu⟩:=at_ (l:=x.AR) (k:=i-1) AA
 · repeat' first|(refine int_eq ?_;unfold Aq.check;rw [if_neg AA,if_neg (Aw h3),if_neg (Aw h4),if_pos (VO AX AA HJ hu BC)])|(exact Fin.AM (i+1) ⟨⟨Fi,NC HJ Y7 DC⟩,by omega⟩ ⟨⟨_,rfl,AF i⟩,kz⟩)|refine cy h10 rfl (AD rfl underlying22 Bg vq vq AA (JO AA hu)) ?_|refine ac ?_|(refine Tr.cn rfl ?_ ?_<;>intro h q)
 refine ac ?_
 refine wk [69,53,52,51,29,28,27,6,2,1] rfl ?_
 refine a2 ?_
 exact Fin.AM (i+1) ⟨⟨Fi,NC HJ Sv DC⟩,by omega⟩ ⟨⟨_,rfl,AF i⟩,kz⟩
 have KS:i=(x.AR).length:=by have:=AJ h9;omega
 subst KS
 refine a2 ?_
 exact Fin.AM (k+1) ⟨⟨Aa,⟨R4 AX jV AL.1,Zu AX DC AL.2⟩⟩,by omega⟩ ⟨⟨_,rfl,AF k⟩,kz⟩
 have Az:k=(c.BG).length:=by have:=AJ h5;omega
 subst Az
 refine ac ?_
 refine ao ?_
 refine Tl rfl rfl rfl rfl z71 ACb (fun b2=> ?_)
 refine sf 0 9 ⟨rfl,rfl,rfl⟩ rfl rfl rfl rfl ?_
 refine ao ?_
 · repeat' first|(refine int_eq ?_;unfold Aq.check;rw [if_neg AA,if_neg (Aw h3),if_neg (Aw h4),if_neg (not_not_intro (HG AL)),if_pos BC])|(refine int_eq ?_;unfold Aq.check;rw [if_neg AA,if_neg (Aw h3),if_neg (Aw h4),if_neg (not_not_intro (HG AL)),if_neg (Aw BC),if_pos (.inl BC)])|(refine int_eq ?_;unfold Aq.check;rw [if_neg AA,if_neg (Aw h3),if_neg (Aw h4),if_neg (not_not_intro (HG AL)),if_neg (Aw BC),if_pos (.inr BC)])|(refine int_eq ?_;unfold Aq.check;rw [if_neg AA,if_neg (Aw h3),if_neg (Aw h4),if_neg (not_not_intro (HG AL)),if_neg (Aw BC),if_neg (not_or.2 ⟨not_not_intro BC,Aw BC⟩)])|refine co rfl (AZ rfl (I3 (p:=fun w=>w.AR.any fun n=> !c.has n)) ⟨kq,⟨_,rfl,B9 (VM (c:=c) (w:=⟨0,0,[]⟩)).1 (fun x=>VM (c:=c) (w:=x))⟩,trivial⟩) ?_|refine cy h rfl (AZ rfl (DT (p:=fun n=> !c.has n)) ⟨kq,⟨_,rfl,B9 (MI (c:=c) (n:=0)).1 (fun x=>MI (c:=c) (n:=x))⟩,trivial⟩) ?_|refine ac ?_|(refine Tr.cn rfl ?_ ?_<;>intro h q)|(refine Ch.cg rfl rfl rfl ?_ ?_<;>intro h q)
theorem AAR {c:Aq}  :BD prog 243 [GA c] (int c.own):=by
 refine fo func243 rfl ⟨rfl,rfl⟩ fun M0 w0=> ?_
 refine a2 ?_
 refine co rfl (C4 (Tv) rfl rfl rfl) ?_
 refine a2 ?_
 · exact Lr
def DY (n d:Int) (room:Nat→Bool):Nat→List FC→Option Int
 |_,[]=>none
 |i,w::r=>if d<w.hi∧w.AR.any (fun x=>n==x)∧room i then some (max d w.lo) else DY n d room (i+1) r
def Aq.next (c:Aq) (n day:Int) (room:Nat→Bool):Option Int:=DY n (max day 0) room 0 c.BG
theorem Zv {β:Type} {l:List β} {k:Nat} {x:β} (h:l[k]? =some x):l.drop k=x::l.drop (k+1):=by
 have hk:k<l.length:=by rcases Nat.lt_or_ge k l.length with h'|h';exact h';rw [List.getElem?_eq_none h'] at h;cases h
 rw [List.drop_eq_getElem_cons hk]
 rw [List.getElem?_eq_getElem hk] at h
 simp at h;rw [h]
theorem QM {n d:Int} {room:Nat→Bool} {l:List FC} {k:Nat} {x:FC} (h:l[k]? =some x) (h1:d<x.hi) (h2:x.AR.any (fun y=>n==y)=true) (h3:room k=true):DY n d room k (l.drop k)=some (max d x.lo):=by
 rw [Zv h,DY,if_pos ⟨h1,h2,h3⟩]
theorem Mo {n d:Int} {room:Nat→Bool} {l:List FC} {k:Nat} {x:FC} (h:l[k]? =some x) (h':¬(d<x.hi∧x.AR.any (fun y=>n==y)=true∧room k=true)):DY n d room k (l.drop k)=DY n d room (k+1) (l.drop (k+1)):=by
 rw [Zv h,DY,if_neg h']
theorem u7 {c:Aq} {n day:Int} {room:Nat→Bool}  :BD prog 157 [GA c,int n,int day,OU prog (fun i:Fin c.BG.length=>[int ((i.1:Nat):Int)]) (fun i=>bool (room i.1))] (F8 [int ((c.next n day room).getD 0),bool (c.next n day room).isSome]):=by
 refine fo func157 rfl ⟨rfl,rfl⟩ fun M0 w0=>(Tr.D9 0 0 rfl rfl fun EK=> ?_)
 refine a2 ?_
 refine co rfl (JM rfl (vl rfl) (vl rfl)) ?_
 refine a2 ?_
 refine Tr.block (Tr.Ax _ (kk [16,15,3,2,1] rfl) (fun k:Nat=>[(17,int ((k:Nat):Int))]) (fun k:Nat=>k≤(c.BG).length∧(c.next n day room=DY n (max day 0) room k (c.BG.drop k))) (fun k:Nat=>(c.BG).length-k) 0 (⟨Nat.zero_le _,rfl⟩) kz ?_)
 rintro k ⟨BK,AL⟩
 refine ac ?_
 refine Tr.seq ?_
 refine Tr.cn rfl ?_ ?_<;>intro h1 q1
 have Aa:k<(c.BG).length:=AH h1
 obtain ⟨x,AX⟩:=at_ Aa
 refine ac ?_
 refine ao ?_
 refine tp rfl (AD rfl underlying75 EW (vl rfl) (vl rfl) AA Bl) ?_
 refine tp rfl (AK rfl JT EW (vl rfl) rfl rfl) ?_
 refine Tl rfl rfl rfl rfl z141 Nk (fun b1=> ?_)
 refine tm rfl ?_
 refine sf 0 11 ⟨rfl,rfl,rfl⟩ rfl rfl rfl rfl ?_
 refine ao ?_
 refine wk [17,16,15,11,10,3,2,1] rfl ?_
 refine ag ?_ ?_<;>intro h2 q2
 refine ac ?_
 refine cy h2 rfl (C4 (HD) rfl rfl rfl) ?_
 refine ag ?_ ?_<;>intro h3 q3
 refine ac ?_
 refine cy h3 rfl (EO ⟨k,Aa⟩ rfl (vl rfl) kz) ?_
 refine ac ?_
 refine wk [37,17,16,15,11,3,2,1] rfl ?_
 refine Tr.cn rfl ?_ ?_<;>intro h4 q4
 refine ac ?_
 refine co rfl (JM rfl (vl rfl) (vl rfl)) ?_
 refine ac ?_
 refine wk [9,8] rfl (Tr.ret (Fin.Ag (Fin.AG (Fin.AG (Fin.Ag (Fin.AG (Fin.DO rfl (Bm.Dw _ _) rfl ?_ rfl ?_)))))))
 · refine int_eq ?_;rw [AL,QM AX BC BC BC];rfl
 · refine bool_eq ?_;rw [AL,QM AX BC BC BC];rfl
 refine a2 ?_
 exact Fin.AM (k+1) ⟨⟨Aa,Yu⟩,by omega⟩ ⟨⟨_,rfl,AF k⟩,kz⟩
 refine ac ?_
 refine wk [37,17,16,15,11,3,2,1] rfl ?_
 refine a2 ?_
 exact Fin.AM (k+1) ⟨⟨Aa,Yu⟩,by omega⟩ ⟨⟨_,rfl,AF k⟩,kz⟩
 refine ac ?_
 refine wk [37,17,16,15,11,3,2,1] rfl ?_
 refine a2 ?_
 exact Fin.AM (k+1) ⟨⟨Aa,(by rw [AL];exact Mo AX (by rintro ⟨ha,hb,hc⟩;omega))⟩,by omega⟩ ⟨⟨_,rfl,AF k⟩,kz⟩
 have Az:k=(c.BG).length:=by have:=AJ h1;omega
 subst Az
 refine a2 ?_
 refine Tr.ret (Fin.DO rfl (Bm.Dw _ _) rfl ?_ rfl ?_)
 · refine int_eq ?_;rw [AL,List.drop_length];rfl
 · refine bool_eq ?_;rw [AL,List.drop_length];rfl
structure Zw (c:Aq) (n:Nat):Prop where
 own:c.own=0
 room:c.room.length=2
 D5:c.D5.length=n
 top:∀w∈c.BG,w.hi<200
 some:1≤c.BG.length
def Tw (w:FC):Prop:=0≤w.lo∧w.lo<w.hi∧w.hi<200∧KT w.AR∧∀t∈w.AR,0≤t∧t<2
def Jn:List (List Int):=[[0,1],[0,1],[0],[1],[]]
theorem VP {l:List Int} (h:l∈Jn):KT l∧∀t∈l,0≤t∧t<2:=by
 have h01:KT [0,1]:=by
  intro j a b h1 h2
  match j with
  |0=>simp at h1 h2;subst h1 h2;decide
  |j+1=>simp at h2
 have h1:∀x:Int,KT [x]:=by intro x j a b _ h2;simp at h2
 have h0:KT []:=by intro j a b _ h2;simp at h2
 simp [Jn] at h
 rcases h with rfl|rfl|rfl|rfl
 · exact ⟨h01,by simp⟩
 · exact ⟨h1 _,by simp⟩
 · exact ⟨h1 _,by simp⟩
 · exact ⟨h0,by simp⟩
theorem cX {ws:List FC} {w:FC} (h:OG ws) (hw:∀x∈ws,x.hi≤w.lo):OG (ws++[w]):=by
 intro j a b h1 h2
 rcases Nat.lt_or_ge (j+1) ws.length with hj|hj
 ·
  rw [List.getElem?_append_left AA] at h1
  rw [List.getElem?_append_left hj] at h2
  exact h j a b h1 h2
 ·
  rcases Nat.eq_or_lt_of_le hj with hj|hj
  ·
   rw [List.getElem?_append_left AA] at h1
   rw [List.getElem?_append_right AA,←hj,Nat.sub_self] at h2
   simp at h2;subst h2
   exact hw a (List.mem_of_getElem? h1)
  · rw [List.getElem?_eq_none B1] at h2;cases h2
theorem qG {ws:List FC} {l room:List Int} (h0:1≤ws.length) (h1:ws.length≤32) (h2:OG ws) (h3:∀w∈ws,Tw w) (h4:∀t∈l,0≤t∧t<2) (h5:room.length=2) (h6:∀r∈room,0≤r∧r≤24):Zw ⟨ws,l,room⟩ l.length:=by
 have has:∀t:Int,0≤t∧t<2→Aq.has (Aq.mk ws l room) t=true:=by
  intro t ht;unfold Aq.has;simp [h5];omega
 refine ⟨?_,h5,rfl,fun w hw=>(h3 w hw).2.2.1,h0⟩
 unfold Aq.own Aq.check
 rw [if_neg (by simp only [h5];omega),if_neg,if_neg,if_neg,if_neg,if_neg]
 ·
  rintro (h|h)
  · exact h rfl
  ·
   obtain ⟨t,ht,h⟩:=List.any_eq_true.1 h
   simp [has t (h4 t ht)] at h
 ·
  intro h
  obtain ⟨w,hw,h⟩:=List.any_eq_true.1 h
  obtain ⟨t,ht,h⟩:=List.any_eq_true.1 h
  simp [has t ((h3 w hw).2.2.2.2 t ht)] at h
 · exact not_not_intro ⟨h2,fun w hw=>(h3 w hw).2.2.2.1⟩
 ·
  intro h
  obtain ⟨w,hw,h⟩:=List.any_eq_true.1 h
  have:=h3 w hw
  unfold Tw at this
  simp [GC] at h
  omega
 ·
  intro h
  obtain ⟨r,hr,h⟩:=List.any_eq_true.1 h
  have:=h6 r hr
  simp [FP] at h
  omega
theorem Xg (l:List Int) (x:Int):(l.map fun n=>[int n])++[[int x]]=(l++[x]).map fun n=>[int n]:=by rw [List.map_append];rfl
theorem cY (l:List FC) (a b:Int) (t:List Int):(l.map Jl)++[[int a,int b,ints t]]=(l++[FC.mk a b t]).map Jl:=by rw [List.map_append];rfl
theorem QN {β:Type} {p:β→Prop} {l:List β} {x:β} (h:∀y∈l,p y) (hx:p x):∀y∈l++[x],p y:=by
 intro y hy
 rcases List.mem_append.1 hy with hy|hy
 · exact h y hy
 · rw [List.mem_singleton.1 hy];exact hx
end Go.Proofs.YtmocaapoeefgkaaGreatDoor
namespace Cp
open Go Go.RowKit
abbrev DZ (ρ:Option Nat):Fence:={ Fence.wide with round:=ρ }
section
variable {P:Program} {ρ:Option Nat}
def Kt (o:Oper):Bool:=match o.op with
 | .defer _=>false
 |_=>true
theorem Zx {o:Oper} {a:Act} {w:World} {K K':Act→World→Prop} {Q:Exit→Act→World→Prop} (hc:Kt o=true) (hK:∀a w,K a w→K' a w) (h:o.wp P a w K Q):o.wpIn (DZ ρ) 0 P a w K' Q:=by
 refine ⟨fun _ _=>trivial,?_⟩
 rw [Oper.semAt_eq _ _ _ (fun c hh=>by unfold Kt at hc;rw [hh] at hc;cases hc)]
 unfold Oper.wp at h
 generalize (execOp a.eval o).run P w=r at h ⊢
 cases r with
 |halt x w'=>cases x<;>first|exact h|exact h.elim
 |ok x w'=>
  cases x<;>first|exact h.elim|skip
  case value v=>exact hK _ _ h
  case skip=>exact hK _ _ h
  case defer d=>exact hK _ _ h
  case enter f args=>exact ⟨fun hh=>(by cases hh),callsIn_wide.2 (h.mono fun e w'' hr=>by cases e<;>first|exact hK _ _ hr|exact hr)⟩
  case row row args=>
   refine ⟨fun hh=>(by cases hh),fun c cs _=> ?_⟩
   obtain ⟨v,w2,h1,h2⟩:=h c cs
   exact ⟨v,w2,hK _ _ h1,stepsIn_wide.2 h2⟩
theorem jW {ops:Array Oper} {Q:Exit→Act→World→Prop} (hc:∀(i:Nat) o,ops[i]? =some o→Kt o=true):∀(l:List Nat) (a:Act) (w:World),wpS P ops Q l a w→wpOpsIn (DZ ρ) 0 P ops Q l a w
 |[],_,_,h=>h
 |i::l,a,w,h=>by
  have ih:=jW (Q:=Q) hc l
  unfold wpS at h
  unfold wpOpsIn
  cases ho:ops[i]? with
  |none=>rw [ho] at h;exact ih a w h
  |some o=>
   rw [ho] at h
   dsimp only at h ⊢
   split
   next hw=>rw [if_pos hw] at h;exact Zx (hc i o ho) ih h
   next hw=>rw [if_neg hw] at h;exact ⟨fun _ _=>trivial,ih _ _ h⟩
theorem u9 {ops:Array Oper} {Q:Exit→Act→World→Prop} (hc:∀(i:Nat) o,ops[i]? =some o→Kt o=true) {i:Nat} {K K':Act→World→Prop} {a:Act} {w:World} (hK:∀a w,K a w→K' a w) (h:PJ P ops Q i K a w):wpOpIn (DZ ρ) 0 P ops Q i K' a w:=by
 unfold PJ at h
 unfold wpOpIn
 cases ho:ops[i]? with
 |none=>rw [ho] at h;exact hK _ _ h
 |some o=>
  rw [ho] at h
  dsimp only at h ⊢
  split
  next hw=>rw [if_pos hw] at h;exact Zx (hc i o ho) hK h
  next hw=>rw [if_neg hw] at h;exact ⟨fun _ _=>trivial,hK _ _ h⟩
theorem jX {ops:Array Oper} {md:Region.Mode} {Q:Exit→Act→World→Prop} (hc:∀(i:Nat) o,ops[i]? =some o→Kt o=true):∀(fuel:Nat) (listed:Array Bool) (a:Act) (w:World),Kz P md ops Q fuel listed a w→wpAnyIn (DZ ρ) 0 P md ops Q fuel listed a w
 |0,_,_,_,h=>h
 |fuel+1,_,_,_,h=>⟨h.1,fun i hi=>u9 hc (jX hc fuel _) (h.2 i hi)⟩
theorem qH {l:List Oper} (hc:calm l=true):∀(i:Nat) o,l.toArray[i]? =some o→Kt o=true:=fun i o ho=>by
 have hm:o∈l:=List.mem_of_getElem? (by simpa using ho)
 have:=List.all_eq_true.1 hc o hm
 unfold Kt;revert this;cases o.op<;>simp
theorem qI {c:Code} {Q:Exit→Act→World→Prop} {α:Type} (μ:α→Nat) (R:α→Act→World→Prop) (round:∀x a w,R x a w→c.wpIn (DZ ρ) 0 P (Exit.then (fun a' w'=>∃y,μ y<μ x∧R y a' w') Q) a w) (x:α) (a:Act) (w:World) (hx:R x a w):(Code.loop c).wpIn (DZ ρ) 0 P Q a w:=by
 intro b k cs hro hb hr
 have key:∀m x a w,μ x=m→R x a w→∃e a' w',Q e a' w'∧ArrivesIn (Machine.fenced P (DZ ρ)) P (lone (b.atR a (.code c:: .inLoop c::k)) cs w) b k cs e a' w':=by
  intro m
  induction m using Nat.strongRecOn with
  |_ m ih=>
   intro x a w hm hx
   obtain ⟨e,a₁,w₁,hq,Hf⟩:=round x a w hx b (.inLoop c::k) cs hro hb hr
   cases e with
   |normal=>
    obtain ⟨y,hlt,hy⟩:=hq
    obtain ⟨e₂,a₂,w₂,fP,Sy⟩:=ih (μ y) (hm ▸ hlt) y a₁ w₁ rfl hy
    exact ⟨e₂,a₂,w₂,fP,.of_steps (StepsIn.trans Hf (.one (fenced_calm hb hr rfl) stepR_inLoop)) Sy⟩
   |exit id=>exact ⟨_,a₁,w₁,hq,.pass (x:= .inLoop c) rfl (fun _ _=> .inl AO) Hf⟩
   |goto l=>exact ⟨_,a₁,w₁,hq,.pass (x:= .inLoop c) rfl (fun _ _=> .inl AO) Hf⟩
   |ret=>exact ⟨_,a₁,w₁,hq,.pass (x:= .inLoop c) rfl (fun _ _=> .inl AO) Hf⟩
   |panic ch=>exact ⟨_,a₁,w₁,hq,.pass (x:= .inLoop c) rfl (fun _ _=> .inl AO) Hf⟩
   |outgrown=>exact ⟨_,a₁,w₁,hq,.pass (x:= .inLoop c) rfl (fun _ _=> .inl AO) Hf⟩
 obtain ⟨e,a',w',hq,Hf⟩:=key _ x a w rfl hx
 exact ⟨e,a',w',hq,.of_steps (.one (fenced_calm hb hr rfl) stepR_loop) Hf⟩
@[reducible] def Zy (P:Program) (ρ:Option Nat):Lg P where
 wp c Q a w:=c.wpIn (DZ ρ) 0 P Q a w
 mono hq h:=wpIn_mono h hq
 skip h:=wpIn_skip h
 ret h:=wpIn_ret h
 exit h:=wpIn_exit h
 seq h:=wpIn_seq h
 block h:=wpIn_block h
 cond hc ht hf:=wpIn_cond_split hc ht hf
 loop:=qI
 region {id l Q a w} hc h:=wpIn_region (jW (fun i o ho=>by
  have hm:o∈l:=List.mem_of_getElem? (by simpa using ho)
  have:=List.all_eq_true.1 hc o hm
  unfold Kt;revert this;cases o.op<;>simp) _ _ _ (by simpa [List.range_eq_range'] using h))
 draw hc hm h:=wpIn_region_any hm (jX (qH hc) _ _ _ _ h)
end
section
variable {P:Program} {M0:Av} {w0:World} {S:Nat→Prop} {rs:List An}
def BB (b:Nat) (x:Obj):An where
 blk:=some b
 new:=true
 h M w:=(∀o,M b o)∧w.heap[b]? =some x
 st M w M' w' _ hk h:=by
  obtain ⟨h1,h2⟩:=hk b rfl
  exact ⟨fun o=>h2 o (h.1 o),h1.trans h.2⟩
theorem At.jY {M:Av} {w:World} (h:At M0 w0 S rs M w) (x:Obj):
  At M0 w0 S (BB w.heap.size x::rs) (fun b o=>M b o∨b=w.heap.size) (w.alloc x)∧Ext M w (fun b o=>M b o∨b=w.heap.size) (w.alloc x):=by
 have hb:Below w.heap.size w (w.alloc x):=(Below.refl _ _).alloc (Nat.le_refl _) _
 have hsz:(w.alloc x).heap.size=w.heap.size+1:=by simp
 have he:Ext M w (fun b o=>M b o∨b=w.heap.size) (w.alloc x):=by
  have h2:=Ext.below (M:=M) hb
  refine ⟨h2.size,fun a v hc hm=>⟨fun hx=> ?_,(h2.keep a v hc hm).2⟩,fun b o ho hp hm=>⟨fun hx=> ?_,(h2.obj b o ho hp hm).2⟩⟩
  ·
   rcases hx with hx|hx
   · exact B8
   · exact Eh
  ·
   rcases hx with hx|hx
   · exact B8
   · exact Ej
 have hI:=(Hp M0 w0 S rs).st _ _ _ hb h
 refine ⟨⟨hI.m0,fun b o hm=> .inl (hI.m b o hm),hI.os,hI.tape,hI.output,hI.size,hI.block,fun b o hm=> ?_,fun r hr=> ?_,?_⟩,he⟩
 ·
  rcases hm with hm|hm
  · exact hI.bd b o hm
  · omega
 ·
  rcases List.mem_cons.1 hr with rfl|hr
  ·
   refine ⟨⟨fun o=> .inr rfl,heap_alloc_new w _⟩,fun b hbk=> ?_⟩
   simp only [BB,Option.some.injEq] at hbk
   subst hbk
   exact ⟨by omega,by simp [BB];exact h.size⟩
  ·
   obtain ⟨h3,h4⟩:=h.hold r hr
   exact ⟨r.st _ _ _ _ he (fun b hbk=>⟨hb.block b (h4 b hbk).1,fun _ x=> .inl x⟩) h3,fun b hbk=>⟨by have:=(h4 b hbk).1;omega,(h4 b hbk).2⟩⟩
 ·
  refine List.pairwise_cons.2 ⟨fun r hr b Lu Q1=> ?_,hI.nd⟩
  simp only [BB,Option.some.injEq] at Lu
  subst Lu
  have:=((h.hold r hr).2 _ Q1).1
  omega
theorem At.putObj {M:Av} {w:World} {j b:Nat} {x:Obj} (y:Obj) (h:At M0 w0 S rs M w) (hj:rs[j]? =some (BB b x)):At M0 w0 S (rs.set j (BB b y)) M (w.putObj b y)∧Ext M w M (w.putObj b y):=by
 obtain ⟨⟨hM,hx⟩,hbk⟩:=h.hold _ (List.mem_of_getElem? hj)
 have hlt:b<w.heap.size:=(hbk b rfl).1
 have hsz:(w.putObj b y).heap.size=w.heap.size:=by simp [World.putObj]
 have he:Ext M w M (w.putObj b y):=by
  refine ⟨by omega,fun a v hc hm=>⟨hm,?_⟩,fun k o ho _ hm=>⟨hm,?_⟩⟩
  ·
   have hne:a.block≠b:=fun e=>hm (e ▸ hM _)
   rw [World.cell?_of_block (w:=w) (World.putObj_heap_other hne)];exact hc
  ·
   have hne:k≠b:=fun e=>hm (e ▸ hM _)
   exact (World.putObj_heap_other hne).trans ho
 refine ⟨h.replace hj he rfl rfl rfl (fun k _ hne=>World.putObj_heap_other (fun e=>hne (by rw [e];rfl))) rfl (fun _ _ hm _=>hm) (fun b' o hm=>by have:=h.bd b' o hm;omega) ⟨hM,World.putObj_heap_same hlt⟩ rfl (fun b' hb'=>⟨?_,.inl hb'⟩),he⟩
 simp only [BB,Option.some.injEq] at hb'
 subst hb';omega
end
def MJ (P:Program) (gf:Nat) (lb:Array Value) {α:Type} (enc:α→Value) (xs:List α) (own:List α→List An):Prop:=
 ∀M0 w0 S (l:Nat) (β:Type) (R Rx:List α→β→List An),
  (∀pre x d M w,(pre++[x])<+:xs→At M0 w0 S (own (pre++[x])++R pre d) M w→YieldAt (DZ none) 0 P l #[enc x] w fun e w'=>∃M' d',Ext M w M' w'∧
   ((e= .returned (.bool true)∧At M0 w0 S (own (pre++[x])++R (pre++[x]) d') M' w')∨(e= .returned (.bool false)∧At M0 w0 S (own (pre++[x])++Rx (pre++[x]) d') M' w')))→
  ∀d M w,At M0 w0 S (own []++R [] d) M w→CallsIn (DZ none) 0 P gf (#[.func (.yield l) #[] #[]]++lb) w fun e w'=>(∃v,e= .returned v)∧∃M' d',Ext M w M' w'∧
   (At M0 w0 S (own xs++R xs d') M' w'∨∃pre,pre<+:xs∧At M0 w0 S (own pre++Rx pre d') M' w')
def Ik (M0:Av) (w0:World) (S:Nat→Prop) {β:Type} (rs:β→List An) (rx:Code→β→List An):Exit→Act→World→Prop
 | .normal,_,w=>∃d M,At M0 w0 S (rs d) M w
 | .ret,_,w=>∃d M,At M0 w0 S (rx .ret d) M w
 | .exit id,_,w=>∃d M,At M0 w0 S (rx (.exit id) d) M w
 | .goto t,_,w=>∃d M,At M0 w0 S (rx (.goto t) d) M w
 | .panic _,_,_=>False
 | .outgrown,_,_=>False
section
variable {P:Program} {M0:Av} {w0:World} {S:Nat→Prop} {rs:List An}
theorem Tr.range {Q:Exit→Act→World→Prop} {n:Fm} {E:Env} {α β:Type} {p gf:Nat} {g:Operand} {lb:Array Value} {enc:α→Value} {xs:List α} {own:List α→List An} {assign body:Code} (E':α→Env) (R:List α→β→List An) (Rx:Code→List α→β→List An) (d0:β)
  (hIt:MJ P gf lb enc xs own) (eg:∀args w,(callFunc gf args).run P w= .ok (.enter gf args) w) (hg:VL E g (is (.func (.func gf) #[] lb))) (OC:rs.Perm (own []++R [] d0))
  (hassign:∀l D rec M1 w1 pre x d,(pre++[x])<+:xs→∀a,a.tmps.size=n.sz→FF M1 w1 E a→∀M w,At M0 w0 S (own (pre++[x])++(BB l rec::BB D (.deferred (some []))::Ak M1 w1::R pre d)) M w→
   assign.wpIn (DZ (some l)) 0 P (Exit.then (St ⟨n.sz,[]⟩ (E' x) (Hp M0 w0 S (own (pre++[x])++(BB l rec::BB D (.deferred (some []))::Ak M1 w1::R pre d)))) (fun _ _ _=>False)) { tmps:=a.tmps.setIfInBounds p (enc x),defers:=[] } w)
  (hbody : ∀ l D rec M1 w1 pre x d, (pre ++ [x]) <+: xs → Tr (Zy P (some l)) ⟨n.sz, []⟩ (E' x) (Hp M0 w0 S (own (pre ++ [x]) ++ (BB l rec :: BB D (.deferred (some [])) :: Ak M1 w1 :: R pre d))) body
   (Ik M0 w0 S (fun d=>own (pre++[x])++(BB l rec::BB D (.deferred (some []))::Ak M1 w1::R (pre++[x]) d)) (fun c d=>own (pre++[x])++(BB l rec::BB D (.deferred (some []))::Ak M1 w1::Rx c (pre++[x]) d))))
  (hdone:∀l D rec M1 w1 d,Fin ⟨n.sz,{ target:= .collected D,args:= #[] }::n.df⟩ E (Hp M0 w0 S (own xs++(BB l rec::BB D (.deferred (some []))::Ak M1 w1::R xs d))) Q .normal)
  (hstop:∀l D rec M1 w1 c pre d,pre<+:xs→Tr (Zy P none) ⟨n.sz,{ target:= .collected D,args:= #[] }::n.df⟩ E (Hp M0 w0 S (own pre++(BB l rec::BB D (.deferred (some []))::Ak M1 w1::Rx c pre d))) c Q):
  Tr (Zy P none) n E (Hp M0 w0 S rs) (.rangeFunc g #[p] assign body) Q:=by
 intro a w ⟨M,hsz,hdf,hE,hI⟩
 have hI:At M0 w0 S rs M w:=hI
 refine wpIn_rangeFunc ?_
 intro fn hfn
 obtain ⟨rec,Xh⟩:∃rec:LoopState→Option Code→Loop,rec=fun st pe=>{ state:=st,pending:=pe,fn,tmps:=a.tmps,params:= #[p],assign,body,defers:=w.heap.size }:=⟨_,rfl⟩
 -- what is held ahead of the call
 have hI2:=At.perm OC hI
 obtain ⟨hI3,e3⟩:=hI2.jY (.deferred (some []))
 obtain ⟨hI4,e4⟩:=hI3.jY (.loop (rec .ready none))
 obtain ⟨W1,hW1⟩:∃W1,(w.alloc (.deferred (some []))).alloc (.loop (rec .ready none))=W1:=⟨_,rfl⟩
 have hs1:(w.alloc (.deferred (some []))).heap.size=w.heap.size+1:=by simp
 rw [hW1,hs1] at hI4 e4
 obtain ⟨M1,hM1⟩:∃M1:Av,M1=(fun b o=>(M b o∨b=w.heap.size)∨b=w.heap.size+1):=⟨_,rfl⟩
 rw [←hM1] at hI4 e4
 have e1:Ext M w M1 W1:=e3.trans e4
 obtain ⟨l,hl⟩:∃l,l=w.heap.size+1:=⟨_,rfl⟩
 obtain ⟨D,hD⟩:∃D,D=w.heap.size:=⟨_,rfl⟩
 rw [←hl] at hI4
 rw [←hD] at hI4
 have hE1:FF M1 W1 E a:=fun s q hq=>q.st _ _ _ _ _ e1 (hE s q hq)
 have hI5:At M0 w0 S (own []++(BB l (.loop (rec .ready none))::BB D (.deferred (some []))::Ak M1 W1::R [] d0)) M1 W1:=by
  refine At.perm ?_ (At.I8 hI4 (r:=Ak M1 W1) rfl (Ext.refl _ _))
  refine List.Perm.trans (l₂:=(BB l (.loop (rec .ready none))::BB D (.deferred (some []))::Ak M1 W1::R [] d0)++own []) ?_ List.perm_append_comm
  refine (List.Perm.swap _ _ _).trans (List.Perm.cons _ ((List.Perm.swap _ _ _).trans (List.Perm.cons _ (List.Perm.cons _ List.perm_append_comm))))
 have ix:∀(os:List An) (r:An) (tl:List An),(os++r::tl)[os.length]? =some r:=fun os r tl=>by simp
 have sx:∀(os:List An) (r r':An) (tl:List An),(os++r::tl).set os.length r'=os++r'::tl:=fun os r r' tl=>by simp
 have ix2:∀(os:List An) (r1 r2 r:An) (tl:List An),(os++r1::r2::r::tl)[os.length+2]? =some r:=fun os r1 r2 r tl=>by
  rw [List.getElem?_append_right AA];simp
 have sx2:∀(os:List An) (r1 r2 r r':An) (tl:List An),(os++r1::r2::r::tl).set (os.length+2) r'=os++r1::r2::r'::tl:=fun os r1 r2 r r' tl=>by
  rw [List.set_append_right _ _ AA];simp
 have ADn:=hdone;have ADo:=hstop
 refine ⟨l,[{ target:= .collected D,args:= #[] }],W1,{ target:= .fn (.func gf) lb,args:= #[.func (.yield l) #[] #[]] },W1,gf,#[.func (.yield l) #[] #[]]++lb,W1,?_,?_,fun _ _=>trivial,?_,fun h=>(by cases h),?_⟩
 · rw [hl,hD,←hW1,Xh];exact run_enterLoop_outer _ _ _ _ _
 ·
  have hv:a.eval g= .func (.func gf) #[] lb:=by
   obtain ⟨q,h1,h2⟩:=hg
   exact h2 _ _ _ (Cv.eval hE h1)
  simp only [resolve,hv]
  simp [go_sem]
 · simp [invoke,go_sem,eg]
 ·
  refine (hIt M0 w0 S l (Code × β) (fun pre cd => BB l (.loop (rec .ready none)) :: BB D (.deferred (some [])) :: Ak M1 W1 :: R pre cd.2)
   (fun pre cd=>BB l (.loop (rec .done (some cd.1)))::BB D (.deferred (some []))::Ak M1 W1::Rx cd.1 pre cd.2) ?_ (.skip,d0) M1 W1 hI5).mono ?_
  ·
   rintro pre x ⟨c0,d⟩ M2 W2 hpre hI
   have hl2:W2.heap[l]? =some (.loop (rec .ready none)):=(hI.hold (BB l (.loop (rec .ready none))) AO).1.2
   have hx2:Ext M1 W1 M2 W2:=(hI.hold (Ak M1 W1) AO).1
   have hy:=run_yield (P:=P) (args:= #[enc x]) hl2 (by rw [Xh];rfl)
   have OW:At M0 w0 S (own (pre++[x])++(BB l (.loop (rec .ready none))::BB D (.deferred (some []))::Ak M2 W2::R pre d)) M2 W2:=by
    have:=hI.CD (r':=Ak M2 W2) (ix2 _ _ _ _ _) rfl rfl (Ext.refl _ _)
    rwa [sx2] at this
   have hy2:(Instr.yield l #[enc x]).run P W2= .ok (.round l fn (a.tmps.setIfInBounds p (enc x)) assign body) W2:=by
    rw [hy,Xh];simp
   have ha:=hassign l D _ M2 W2 pre x d hpre a hsz (fun s q hq=>q.st _ _ _ _ _ hx2 (hE1 s q hq)) M2 W2 OW
   refine ⟨fn,_,assign,body,hy2,roundIn_of_wpIn (F:=DZ none) trivial (wpIn_mono (F:=(DZ none).inRound l) ha ?_)⟩
   intro e a3 W3 hq
   cases e with
   |normal=>
    obtain ⟨M3,hs3,hd3,hE3,hI3⟩:=hq
    have hI3:At M0 w0 S (own (pre++[x])++(BB l (.loop (rec .ready none))::BB D (.deferred (some []))::Ak M2 W2::R pre d)) M3 W3:=hI3
    have hl3:W3.heap[l]? =some (.loop (rec .ready none)):=(hI3.hold (BB l (.loop (rec .ready none))) AO).1.2
    obtain ⟨hI4,e4⟩:=hI3.putObj (.loop { rec .ready none with state:= .busy }) (ix _ _ _)
    rw [sx] at hI4
    refine ⟨_,run_beginRound hl3 (by rw [Xh]),?_⟩
    refine wpIn_mono (F:=(DZ none).inRound l) (hbody l D _ M2 W2 pre x d hpre a3 _ ⟨M3,hs3,hd3,fun s q hq=>q.st _ _ _ _ _ e4 (hE3 s q hq),hI4⟩) ?_
    have fin:∀(jump:Option Code) (tl:List An) (W5:World) (M5:Av),At M0 w0 S (own (pre++[x])++(BB l (.loop { rec .ready none with state:= .busy })::BB D (.deferred (some []))::Ak M2 W2::tl)) M5 W5→
      ∃w6,(Instr.endRound l jump).run P W5= .ok (.bool jump.isNone) w6∧Ext M2 W2 M5 w6∧At M0 w0 S (own (pre++[x])++(BB l (.loop (rec (if jump.isNone then .ready else .done) jump))::BB D (.deferred (some []))::Ak M1 W1::tl)) M5 w6:=by
     intro jump tl W5 M5 h5
     have hl5:W5.heap[l]? =some (.loop { rec .ready none with state:= .busy }):=(h5.hold (BB l (.loop { rec .ready none with state:= .busy })) AO).1.2
     have hx5:Ext M2 W2 M5 W5:=(h5.hold (Ak M2 W2) AO).1
     obtain ⟨h6,e6⟩:=h5.putObj (.loop { rec .ready none with state:=if jump.isNone then .ready else .done,pending:=jump }) (ix _ _ _)
     rw [sx] at h6
     have h7:=h6.CD (r':=Ak M1 W1) (ix2 _ _ _ _ _) rfl rfl (hx2.trans (hx5.trans e6))
     rw [sx2] at h7
     refine ⟨_,run_endRound jump hl5,hx5.trans e6,?_⟩
     rw [Xh] at h7 ⊢
     exact h7
    intro e5 a5 W5 hp
    cases e5 with
    |normal=>
     obtain ⟨d5,M5,h5⟩:=hp
     obtain ⟨w6,g1,g2,g3⟩:=fin none _ _ _ h5
     exact ⟨_,_,g1,M5,(.skip,d5),g2,.inl ⟨rfl,g3⟩⟩
    |ret=>
     obtain ⟨d5,M5,h5⟩:=hp
     obtain ⟨w6,g1,g2,g3⟩:=fin (some .ret) _ _ _ h5
     exact ⟨_,_,g1,M5,(.ret,d5),g2,.inr ⟨rfl,g3⟩⟩
    |exit id=>
     obtain ⟨d5,M5,h5⟩:=hp
     obtain ⟨w6,g1,g2,g3⟩:=fin (some (.exit id)) _ _ _ h5
     exact ⟨_,_,g1,M5,(.exit id,d5),g2,.inr ⟨rfl,g3⟩⟩
    |goto t=>
     obtain ⟨d5,M5,h5⟩:=hp
     obtain ⟨w6,g1,g2,g3⟩:=fin (some (.goto t)) _ _ _ h5
     exact ⟨_,_,g1,M5,(.goto t,d5),g2,.inr ⟨rfl,g3⟩⟩
    |panic ch=>exact hp.elim
    |outgrown=>exact hp.elim
   |exit id=>exact hq.elim
   |goto t=>exact hq.elim
   |ret=>exact hq.elim
   |panic ch=>exact hq.elim
   |outgrown=>exact hq.elim
  ·
   rintro e W2 ⟨⟨v,rfl⟩,M2,⟨c2,d2⟩,hx2,h2⟩
   have hend:∀(os tl:List An) (st:LoopState) (pe:Option Code),st≠ .busy→At M0 w0 S (os++(BB l (.loop (rec st pe))::BB D (.deferred (some []))::Ak M1 W1::tl)) M2 W2→
     ∃w6,(Instr.endLoop l).run P W2= .ok pe w6∧Ext M2 W2 M2 w6∧At M0 w0 S (os++(BB l (.loop { rec st pe with state:= .exhausted })::BB D (.deferred (some []))::Ak M1 W1::tl)) M2 w6:=by
    intro os tl st pe hst h5
    have hl5:W2.heap[l]? =some (.loop (rec st pe)):=(h5.hold (BB l (.loop (rec st pe))) AO).1.2
    obtain ⟨h6,e6⟩:=h5.putObj (.loop { rec st pe with state:= .exhausted }) (ix _ _ _)
    rw [sx] at h6
    have:=run_endLoop (P:=P) hl5 (by rw [Xh];exact hst)
    refine ⟨_,?_,e6,h6⟩
    rw [this,Xh]
   rcases h2 with h2|⟨pre,hpre,h2⟩
   ·
    obtain ⟨w6,g1,g2,g3⟩:=hend _ _ _ _ AO h2
    exact ⟨none,w6,g1,hdone l D _ M1 W1 d2 _ _ ⟨M2,hsz,by show _::a.defers=_;rw [hdf],fun s q hq=>q.st _ _ _ _ _ g2 (q.st _ _ _ _ _ hx2 (hE1 s q hq)),g3⟩⟩
   ·
    obtain ⟨w6,g1,g2,g3⟩:=hend _ _ _ _ AO h2
    exact ⟨some c2,w6,g1,hstop l D _ M1 W1 c2 pre d2 hpre _ _ ⟨M2,hsz,by show _::a.defers=_;rw [hdf],fun s q hq=>q.st _ _ _ _ _ g2 (q.st _ _ _ _ _ hx2 (hE1 s q hq)),g3⟩⟩
end
section
variable {P:Program} {M0:Av} {w0:World} {S:Nat→Prop} {rs:List An}
theorem Tr.toR {n:Fm} {E:Env} {I:CS} {c:Code} {Q:Exit→Act→World→Prop} (h:Tr (V_ P) n E I c Q):Tr (Zy P none) n E I c Q:=fun a w hs=>wpIn_wide.2 (h a w hs)
theorem Tr.ofR {n:Fm} {E:Env} {I:CS} {c:Code} {Q:Exit→Act→World→Prop} (h:Tr (Zy P none) n E I c Q):Tr (V_ P) n E I c Q:=fun a w hs=>wpIn_wide.1 (h a w hs)
theorem Tr.jZ {Q:Exit→Act→World→Prop} {n:Fm} {E:Env} {α β:Type} {p gf:Nat} {g:Operand} {lb:Array Value} {enc:α→Value} {xs:List α} {own:List α→List An} {assign body:Code} (E':α→Env) (R:List α→β→List An) (Rx:Code→List α→β→List An) (d0:β)
  (hIt:MJ P gf lb enc xs own) (eg:∀args w,(callFunc gf args).run P w= .ok (.enter gf args) w) (hg:VL E g (is (.func (.func gf) #[] lb))) (OC:rs.Perm (own []++R [] d0))
  (hassign:∀l D rec M1 w1 pre x d,(pre++[x])<+:xs→∀a,a.tmps.size=n.sz→FF M1 w1 E a→∀M w,At M0 w0 S (own (pre++[x])++(BB l rec::BB D (.deferred (some []))::Ak M1 w1::R pre d)) M w→
   assign.wpIn (DZ (some l)) 0 P (Exit.then (St ⟨n.sz,[]⟩ (E' x) (Hp M0 w0 S (own (pre++[x])++(BB l rec::BB D (.deferred (some []))::Ak M1 w1::R pre d)))) (fun _ _ _=>False)) { tmps:=a.tmps.setIfInBounds p (enc x),defers:=[] } w)
  (hbody : ∀ l D rec M1 w1 pre x d, (pre ++ [x]) <+: xs → Tr (Zy P (some l)) ⟨n.sz, []⟩ (E' x) (Hp M0 w0 S (own (pre ++ [x]) ++ (BB l rec :: BB D (.deferred (some [])) :: Ak M1 w1 :: R pre d))) body
   (Ik M0 w0 S (fun d=>own (pre++[x])++(BB l rec::BB D (.deferred (some []))::Ak M1 w1::R (pre++[x]) d)) (fun c d=>own (pre++[x])++(BB l rec::BB D (.deferred (some []))::Ak M1 w1::Rx c (pre++[x]) d))))
  (hdone:∀l D rec M1 w1 d,Fin ⟨n.sz,{ target:= .collected D,args:= #[] }::n.df⟩ E (Hp M0 w0 S (own xs++(BB l rec::BB D (.deferred (some []))::Ak M1 w1::R xs d))) Q .normal)
  (hstop:∀l D rec M1 w1 c pre d,pre<+:xs→Tr (V_ P) ⟨n.sz,{ target:= .collected D,args:= #[] }::n.df⟩ E (Hp M0 w0 S (own pre++(BB l rec::BB D (.deferred (some []))::Ak M1 w1::Rx c pre d))) c Q):
  Tr (V_ P) n E (Hp M0 w0 S rs) (.rangeFunc g #[p] assign body) Q:=
 Tr.ofR (Tr.range E' R Rx d0 hIt eg hg OC hassign hbody hdone fun l D rec M1 w1 c pre d hp=>(hstop l D rec M1 w1 c pre d hp).toR)
end
section
variable {P:Program}
theorem jc {o:Oper} {x y:Operand} {ts:Array TypeId} {l:Nat} {v:Value} {a:Act} {w:World} {R:Ending→World→Prop} {K:Act→World→Prop} {Q:Exit→Act→World→Prop} (ho:o.op= .call { callee:= .value x,args:= #[y],argTypes:=ts })
  (hx:a.eval x= .func (.yield l) #[] #[]) (hy:a.eval y=v) (h:YieldAt (DZ none) 0 P l #[v] w R) (k:∀e w',R e w'→∃u,e= .returned u∧K (a.put o.dst u) w'):o.wpIn (DZ none) 0 P a w K Q:=by
 obtain ⟨fn,tmps,assign,body,hr,u_⟩:=h
 refine ⟨fun _ _=>trivial,?_⟩
 rw [Oper.semAt_eq _ _ _ (fun c hh=>by rw [ho] at hh;cases hh)]
 have hrun:(execOp a.eval o).run P w= .ok (.round l fn tmps assign body) w:=by
  have hd:(resolve a.eval { callee:= .value x,args:= #[y],argTypes:=ts } o.type).run P w= .ok { target:= .fn (.yield l) #[],args:= #[v] } w:=by simp [resolve,Deferred.ofValue,hx,hy]
  have hi:invoke (.fn (.yield l) #[]) #[v]=Instr.yield l #[v]:=rfl
  simp only [execOp,ho]
  rw [Sem.run_bind,hd]
  simp only [Result.andThen]
  rw [hi];exact hr
 rw [hrun]
 refine ⟨fun hh=>(by cases hh),RoundIn.mono u_ fun e w' he=> ?_⟩
 obtain ⟨u,rfl,hk⟩:=k e w' he
 exact hk
end
end Cp
namespace Cp
open Go Go.RowKit Go.Great
abbrev mark (D:Nat):Deferred:={ target:= .collected D,args:= #[] }
abbrev VQ (D:Nat):An:=BB D (.deferred (some []))
abbrev I4 (P:Program) (g:Func) (R:Ending→World→Prop):Exit→Act→World→Prop:=bodyPostM (DZ none) 0 P g R
section
variable {P:Program} {fz:Nat} {E:Env} {M0:Av} {w0:World} {S:Nat→Prop} {rs:List An} {g:Func} {R:Ending→World→Prop} {ds:List Deferred} {n:Fm} {c:Code}
theorem Fin.Tx {D:Nat} (k:Fin ⟨fz,ds⟩ E (Hp M0 w0 S rs) (I4 P g R) .ret):Fin ⟨fz,mark D::ds⟩ E (Hp M0 w0 S (VQ D::rs)) (I4 P g R) .ret:=by
 rintro a w ⟨M,h1,h2,h3,h4⟩
 have h4:At M0 w0 S (VQ D::rs) M w:=h4
 have hD:w.heap[D]? =some (.deferred (some [])):=(h4.hold _ (List.mem_cons_self ..)).1.2
 obtain ⟨h5,h6⟩:=h4.putObj (j:=0) (.deferred none) rfl
 have h7:=k { a with defers:=ds } (w.putObj D (.deferred none)) ⟨M,h1,rfl,fun s q hq=>q.st _ _ _ _ _ h6 (h3 s q hq),At.Iv h5⟩
 have h2:a.defers=mark D::ds:=h2
 show LeavesInM _ _ _ _ _ _ a.defers _ _
 rw [h2]
 exact ⟨(fun h=>by cases h),.inl ⟨D,_,rfl,run_takeDeferred hD,h7⟩⟩
theorem Fin.R5 (k:Fin ⟨fz,[]⟩ E (Hp M0 w0 S rs) (bodyPost P g R) .ret):Fin ⟨fz,[]⟩ E (Hp M0 w0 S rs) (I4 P g R) .ret:=by
 rintro a w h
 obtain ⟨h1,v,h2,h3⟩:=k a w h
 show LeavesInM _ _ _ _ _ _ a.defers _ _
 rw [h1]
 exact ⟨v,h2,h3⟩
theorem Fin.Zz:∀{Ds:List Nat} {rs:List An},Fin ⟨fz,[]⟩ E (Hp M0 w0 S rs) (bodyPost P g R) .ret→Fin ⟨fz,Ds.map mark⟩ E (Hp M0 w0 S (Ds.map VQ++rs)) (I4 P g R) .ret
 |[],_,k=>Fin.R5 k
 |_::_,_,k=>Fin.Tx (Fin.Zz k)
theorem Fin.vA {rs:List An} (k:Fin n E (Hp M0 w0 S rs) (I4 P g R) .ret):Fin n E (Hp M0 w0 S rs) (I4 P g R) .normal:=k
theorem N0 {f:FuncId} {args:Array Value} {w:World} (hf:P.funcs[f]? =some g) (hb:g.body=some c) (h:c.wp P (I4 P g R) { tmps:=args++Array.replicate (g.ntmps-args.size) undef,defers:=[] } w):Calls P f args w R:=
 callsIn_wide.1 (callsIn_of_wp_marks (F:=DZ none) (n:=0) hf hb trivial (wpIn_wide.2 h))
variable {α:Type} {pre:List An} {C:α→Prop} {res:α→Pr} {post:α→List An} {M1:Av} {w1:World}
theorem E2.ofM {f : FuncId} {ps : List Pr} (hf : P.funcs[f]? = some g) (hb : g.body = some c) (hname : (g.name == "runtime.NumGoroutine") = false) (hlen : ps.length ≤ g.ntmps)
  (h:∀M0 w0 S rs M1 w1,Tr (V_ P) g.ntmps (K1 0 ps) (Hp M0 w0 S (pre++Ak M1 w1::rs)) c (I4 P g (Ns M0 w0 S rs M1 w1 C res post))):E2 P f ps pre C res post:=by
 refine ⟨⟨g,hf,hname,by rw [hb];rfl⟩,fun M0 w0 S rs M w vs hI hv=> ?_⟩
 refine N0 hf hb (h M0 w0 S rs M w _ _ ⟨M,?_,rfl,FZ hv,?_⟩)
 ·
  have:=hv.length
  simp [this];omega
 · exact Wd
end
structure AAS (P:Program) (T kt et:TypeId) {κ:Type} [DecidableEq κ] (enc:κ→Value) (z0:Value):Prop where
 und:P.underlying T=some (.map kt et)
 zero:∀w,(zeroValue et).run P w= .ok z0 w
 eq:∀a b w,(Op.equal kt (enc a) (enc b)).run P w= .ok (decide (a=b)) w
 chk:∀e a w,(Instr.checkKey e 10000 kt (enc a)).run P w= .ok () w
 ACk:∃d,P.underlying kt=some d∧((∀a b,Instr.sameNow d (enc a) (enc b)=none)∨∀a b,Instr.sameNow d (enc a) (enc b)=some (decide (a=b)))
 bits:∀a,Instr.sameBits 10000 (enc a) (enc a)=true
section
variable {P:Program} {L:Lg P} {n:Fm} {z0:Value} {fz:Nat} {E:Env} {M0:Av} {w0:World} {S:Nat→Prop} {rs:List An} {o:Oper} {κ:Type} [DecidableEq κ] {enc:κ→Value}
abbrev AAT (enc:κ→Value) (es:List (κ×Value)):List (Value×Value):=es.map fun p=>(enc p.1,p.2)
def AAU (enc:κ→Value) (b:Nat) (es:List (κ×Value)):An where
 blk:=some b
 new:=true
 h M w:=(∀o,M b o)∧w.heap[b]? =some (.map (Uw (AAT enc es)) es.length)
 st M w M' w' he hk h:=by
  obtain ⟨h1,h2⟩:=hk b rfl
  exact ⟨fun o=>h2 o (h.1 o),h1.trans h.2⟩
variable {Q:Exit→Act→World→Prop} {ops:Array Oper} {r:List Oper}
theorem TO.jd {d j b:Nat} {T kt et:TypeId} {x:Operand} {es:List (κ×Value)} (hT:AAS P T kt et enc z0) (hg:o.guard=none) (hd:o.dst=some d) (hn:d<n) (ho:o.op= .range T x) (hx:VL E x (is (.map (some b)))) (hj:rs[j]? =some (AAU enc b es))
  (k:∀it,TO P n ops r ((d,ptr it 0)::E) (Hp M0 w0 S (Np it b es.length []::rs)) Q):TO P n ops (o::r) E (Hp M0 w0 S rs) Q:=
 TO.bI hg fun K M w a hsz hdf he hI hK=>by
  have h1:a.eval x=_:=hx.ev (o:=o) (CF he) Ap
  obtain ⟨_,hh⟩:=(At.hold hI _ (List.mem_of_getElem? hj)).1
  refine TO.val (v:= .pointer (some ⟨w.heap.size,0,none⟩)) (w':=w.alloc (.mapIter (some b) es.length #[] es.length)) ?_ ?_
  · simp [execOp,ho,h1,run_range_map w T kt et b _ _ hT.und hh]
  ·
   obtain ⟨h2,h3⟩:=At.yg (obj:= .mapIter (some b) es.length #[] es.length) (r:=Np w.heap.size b es.length []) hI rfl rfl ⟨fun _=> .inr rfl,by rw [heap_alloc_new]⟩
   refine hK _ _ _ _ (k w.heap.size) ⟨_,by rw [Bp];exact hsz,by rw [put_defers];exact hdf,?_,h2⟩
   intro s p hp
   simp only [List.lookup] at hp
   by_cases hs:s=d
   · exact PB
   ·
    rw [show (s==d)=false by simpa using hs] at hp
    rw [hd,BN hs]
    exact p.st _ _ _ _ _ h3 (he s p hp)
end
section
variable {P:Program} {L:Lg P} {n:Fm} {E:Env} {M0:Av} {w0:World} {S:Nat→Prop} {rs:List An} {ε:Type} {res:ε→List An} {Q:Exit→Act→World→Prop} {c:Code} {X:List ε} {f:ε→Value} {g:ε→Pr}
def je (f:ε→Value) (g:ε→Pr) (X:List ε):An:=⟨none,true,fun M w=>∀x∈X,(g x).h M w (f x),fun _ _ _ _ he _ h x hx=>(g x).st _ _ _ _ _ he (h x hx)⟩
end
section
variable {P:Program} {L:Lg P} {n:Fm} {E:Env} {M0:Av} {w0:World} {S:Nat→Prop} {rs:List An} {o:Oper} {Q:Exit→Act→World→Prop} {c:Code}
theorem QO {t:TypeId} {x:Operand} {sz j i q:Nat} {T:TypeId} {rows:List (List Pr)} {row:List Pr} {p:Pr} {v:Value} (ho:o.op= .load t x) (ht:ES P t=true) (hx:VL E x (elp sz v i q)) (hl:∀r∈rows,r.length=sz) (hi:rows[i]? =some row) (hp:row[q]? =some p):
  JP P M0 w0 S j (SR.c (Bc T sz rows v)) o E p:=by
 intro M w a rs he hI hj
 obtain ⟨a0,m0,c0,ZK,h1⟩:=hx.ev he Ap
 have hj':rs[j]? =some (Bc T sz rows v):=hj
 rcases (hI.hold _ (List.mem_of_getElem? hj')).1 with ⟨rfl,A,hv⟩|⟨b,cap,spare,hv,hnc,hcm,hsp,⟨_,cs,h4,h5,h6⟩⟩
 · simp at hi
 ·
  rw [ZK] at hv
  injection hv with e1 e2 e3
  injection e1 with e1
  subst e1
  have hrl:=hl row (List.mem_of_getElem? hi)
  have hq:q<sz:=by rw [←hrl];exact BP hp
  have h7:(rows.flatten++spare.map is)[i*sz+q]? =some p:=by
   have FU:=BP hi
   have hle:(i+1)*sz≤rows.length*sz:=Nat.mul_le_mul_right sz FU
   rw [Nat.succ_mul] at hle
   rw [List.getElem?_append_left (by rw [CR hl];omega),GW hl hi hq];exact hp
  obtain ⟨u,hu,hh⟩:=h5.at_ _ _ h7
  have hc:w.cell? ((⟨b,0,none⟩:Addr).add (i*sz+q))=some u:=by rw [Ep];simp [World.cell?,h4,hu]
  have hrun:(execOp a.eval o).run P w= .ok (.value u) w:=by simp [execOp,ho,h1,Instr.loadAt,Instr.sureAddr,loadVar,D8 ht,hc]
  rw [hrun]
  exact ⟨hh,Below.refl _ _⟩
theorem Z0 {M:Av} {w:World} {t ty e:TypeId} {sz bytes:Nat} {zs:List Value} {rows rows':List (List Pr)} {v u:Value} {j:Nat} (ht:P.underlying t=some (.slice e)) (hz:Au P e=some sz) (hby:Bq P e=some bytes) (Dr:BO P e=some zs) (hzl:zs.length=sz) (hone:zs.all (·.oneCell')=true) (hsz:0<sz)
  (h:At M0 w0 S rs M w) (hj:rs[j]? =some (Bc e sz rows v)) (hl:∀r∈rows,r.length=sz) (hu:(slice sz rows').h M w u) (F7:rows.length+rows'.length≤maxLen) (hfit:(rows.length+rows'.length)*bytes≤140737488355328):
  ∃v' w' M',(Builtin.append_ #[t,t] ty #[v,u]).run P w= .ok v' w'∧(lens (rows.length+rows'.length)).h M' w' v'∧Ext M w M' w'∧At M0 w0 S (rs.set j (Bc e sz (rows++rows') v')) M' w':=by
 have hjl:=BP hj
 rcases Nat.eq_zero_or_pos rows'.length with h0|h0
 ·
  have hr0:rows'=[]:=List.eq_nil_of_length_eq_zero h0
  subst hr0
  obtain ⟨A',c',hu,_⟩:=hu
  have hv:∃A c,v= .slice A rows.length c∧rows.length≤c:=by
   rcases (h.hold _ (List.mem_of_getElem? hj)).1 with ⟨rfl,A,rfl⟩|⟨b,cap,sp,rfl,h2,_⟩
   · exact ⟨A,0,rfl,Nat.le_refl _⟩
   · exact ⟨_,_,rfl,h2⟩
  obtain ⟨A,c,WD,RW⟩:=hv
  have hrun:=F_ (P:=P) (ty:=ty) (A:=A) (A':=A') (n:=rows.length) (c:=c) (c':=c') ht hz RW w
  refine ⟨v,w,M,by rw [hu,WD];exact hrun,⟨A,c,by rw [WD];rfl⟩,Ext.refl _ _,?_⟩
  rw [List.append_nil]
  have hse:rs.set j (Bc e sz rows v)=rs:=by
   apply List.ext_getElem?
   intro i
   rw [List.getElem?_set]
   split
   · rename_i hij;subst hij;first|exact hj.symm|(rw [if_pos hjl];exact hj.symm)
   · rfl
  rw [hse];exact h
 ·
  rcases (h.hold _ (List.mem_of_getElem? hj)).1 with ⟨rfl,A,rfl⟩|⟨b,cap,sp,rfl,h2,h3,h4,h5⟩
  ·
   have h1:=h.blank hj
   obtain ⟨v',w',M',hrun,g1,g2,g3⟩:=Ux A (ty:=ty) ht hz hby Dr hzl hone hsz h1 (List.getElem?_set_self hjl) hu h0 OR OQ
   rw [List.set_set] at g3
   have g4:=g3.CD (r':=BM e sz ([]++rows') v') (List.getElem?_set_self hjl) rfl rfl (.inr (g3.hold _ (List.mem_of_getElem? (List.getElem?_set_self hjl))).1)
   rw [List.set_set] at g4
   have g5:=At.Rz g4 (List.getElem?_set_self hjl)
   rw [List.set_set] at g5
   exact ⟨v',w',M',hrun,by simpa using g1,g2,g5⟩
  ·
   have h6:=h.VI (r':=BM e sz rows (.slice (some ⟨b,0,none⟩) rows.length (cap+1))) hj (fun b hb=>hb) rfl (.inr ⟨b,cap+1,sp,rfl,h2,h3,h4,h5⟩)
   obtain ⟨v',w',M',hrun,g1,g2,g3⟩:=ZY (ty:=ty) ht hz hby Dr hzl hone hsz h6 (List.getElem?_set_self hjl) hl hu h0 F7 hfit
   rw [List.set_set] at g3
   have g5:=At.Rz g3 (List.getElem?_set_self hjl)
   rw [List.set_set] at g5
   exact ⟨v',w',M',hrun,g1,g2,g5⟩
theorem Xi {t e:TypeId} {x y:Operand} {sz' sz bytes d:Nat} {zs:List Value} {rows:List (List Pr)} {j:Nat} (hg:o.guard=none) (hd:o.dst=some d) (hn:d<n) (ho:o.op= .call { callee:= .builtin .append,args:= #[x,y],argTypes:= #[t,t] })
  (ht:P.underlying t=some (.slice e)) (hz:Au P e=some sz) (hby:Bq P e=some bytes) (Dr:BO P e=some zs) (hzl:zs.length=sz) (hone:zs.all (·.oneCell')=true) (hsz:0<sz)
  (hx:VL E x (full sz' [])) (hy:VL E y (slice sz rows)) (F7:rows.length≤maxLen) (hfit:rows.length*bytes≤140737488355328):Di P M0 w0 S n j (SR.c Bb) ⟨d,Bc e sz rows⟩ o E (lens rows.length):=by
 refine ⟨hg,fun M w a rs Q4 he hI hj=> ?_⟩
 have h2:=hy.ev he Cn
 obtain ⟨_,A,h1⟩:=hx.ev he Cn
 simp only [List.length_nil] at h1
 have hj':rs[j]? =some Bb:=hj
 have hjl:=BP hj'
 have h3:=hI.VI (r':=Bc e sz [] (.slice A 0 0)) hj' (fun b hb=>by cases A<;>cases hb) rfl (.inl ⟨rfl,A,rfl⟩)
 obtain ⟨v',w',M',hrun,g1,g2,g3⟩:=Z0 (ty:=o.type) ht hz hby Dr hzl hone hsz h3 (List.getElem?_set_self hjl) (fun r hr=>by cases hr) h2 OR OQ
 rw [List.set_set] at g3
 have Dl:(execOp a.eval o).run P w= .ok (.value v') w':=by simp [execOp,ho,resolve,invoke,builtin,h1,hrun]
 rw [Dl]
 refine ⟨M',by simpa using g1,g2,?_⟩
 have:(SR.at_ (a.put o.dst v') ⟨d,Bc e sz rows⟩)=Bc e sz rows v':=by unfold SR.at_ Slot.val;dsimp only;rw [hd,Bk ID]
 rw [this];exact g3
end
section
variable {P:Program} {L:Lg P} {n:Fm} {E:Env} {M0:Av} {w0:World} {S:Nat→Prop} {rs:List An} {o:Oper} {Q:Exit→Act→World→Prop} {c:Code} {r:List Oper} {ops:Array Oper}
def UpR (r:An):Prop:=∀M M2 w,(∀b o,M b o→M2 b o)→r.h M w→r.h M2 w
def AAV (ps:List Pr):Prop:=∀p∈ps,JA p
theorem HL.free {ps:List Pr} {cs:List Value} {M M2:Av} {w:World} (hf:AAV ps) (h:HL M w ps cs):HL M2 w ps cs:=
 Ri h.length fun k p hk=>by
  obtain ⟨u,hu,mu⟩:=h.at_ k p hk
  exact ⟨u,hu,(hf p (List.mem_of_getElem? hk)).free _ _ _ _ mu⟩
theorem TO.perm {rs':List An} (hp:rs.Perm rs') (k:TO P n ops r E (Hp M0 w0 S rs') Q):TO P n ops r E (Hp M0 w0 S rs) Q:=TO.conv (fun _ _ hs=>hs.perm hp) k
end
section
variable {P:Program} {L:Lg P} {n:Fm} {E:Env} {M0:Av} {w0:World} {S:Nat→Prop} {rs:List An} {o:Oper} {Q:Exit→Act→World→Prop} {c:Code} {r:List Oper} {ops:Array Oper}
instance AAW:JA any:=⟨fun _ _ _ _ _=>trivial⟩
instance vB (v:Value) (p:Pr) [h9:JA p]:JA (Ae v p):=⟨fun _ _ _ _ h=>⟨h.1,h9.free _ _ _ _ h.2⟩⟩
def sP (w:World) (q:An):An:=⟨q.blk,q.new,fun _ w'=>∀b,q.blk=some b→w'.heap[b]? =w.heap[b]?,fun _ _ _ _ _ hk h b hb=>(hk b hb).1.trans (h b hb)⟩
theorem jf {us bs:List An} (h:us.map (·.blk)=bs.map (·.blk)) (k:us.Pairwise fun r r':An=>∀b,r.blk=some b→r'.blk≠some b):bs.Pairwise fun r r':An=>∀b,r.blk=some b→r'.blk≠some b:=by
 have e1:∀l:List An,(l.Pairwise fun r r':An=>∀b,r.blk=some b→r'.blk≠some b)↔(l.map (·.blk)).Pairwise fun p q:Option Nat=>∀b,p=some b→q≠some b:=fun l=>by rw [List.pairwise_map]
 rw [e1] at k ⊢
 rw [←h];exact k
theorem At.AE0 {α:Type} {C:α→Prop} {f:FuncId} {ps:List Pr} {post jg:α→List An} {res res2:α→Pr} {M:Av} {w:World} {vs:List Value} (hf:E2 P f ps [] C res post)
  (hI:At M0 w0 S rs M w) (hn:rs.all (·.new)=true) (hpost:∀x M0 w0 S rs M w,At M0 w0 S (post x++rs) M w→At M0 w0 S (jg x++rs) M w) (ADp:∀x,∀q∈jg x,UpR q)
  (hres:∀x M M2 w u,(res x).h M w u→(res2 x).h M2 w u) (hv:∀M1,Ext M w M1 w→(∀b o,M1 b o→∀q∈rs,q.blk≠some b)→HL M1 w ps vs):
  Calls P f vs.toArray w fun e' w'=>∃u M' x,e'= .returned u∧C x∧(res2 x).h M' w' u∧Ext M w M' w'∧At M0 w0 S (jg x++rs) M' w':=by
 have hb:∀q∈rs,∀b,q.blk=some b→b<w.heap.size∧w0.heap.size≤b:=fun q hq b hb=>by
  obtain ⟨h1,h2⟩:=(hI.hold q hq).2 b hb
  rw [if_pos (List.all_eq_true.1 hn q hq)] at h2
  exact ⟨h1,h2⟩
 have he:Ext M w (fun b o=>M b o∧∀q∈rs,q.blk≠some b) w:=Ext.less fun _ _ h=>h.1
 have hI1:At M0 w0 S (rs.map (sP w)) (fun b o=>M b o∧∀q∈rs,q.blk≠some b) w:=by
  refine ⟨hI.m0,fun b o hm=>⟨hI.m b o hm,fun q hq e1=>by have h1:=hI.m0 b o hm;have h2:=(hb q hq b e1).2;omega⟩,hI.os,hI.tape,hI.output,hI.size,hI.block,fun b o hm=>hI.bd b o hm.1,fun q hq=> ?_,?_⟩
  ·
   rw [List.mem_map] at hq
   obtain ⟨q,hq,rfl⟩:=hq
   exact ⟨fun _ _=>rfl,(hI.hold q hq).2⟩
  · exact jf (by rw [List.map_map];rfl) hI.nd
 refine (hf.2 M0 w0 S (rs.map (sP w)) _ w vs hI1 (hv _ he fun _ _ h=>h.2)).mono ?_
 rintro e' w' ⟨u,M',x,rfl,hC,h2,h3,h4⟩
 have h5:=hpost x _ _ _ _ _ _ h4
 have ADq:∀q∈rs,∀b,q.blk=some b→w'.heap[b]? =w.heap[b]? :=fun q hq=>(h5.hold _ (List.mem_append_right _ (List.mem_map_of_mem hq))).1
 have hE:Ext M w (fun b o=>M' b o∨(M b o∧∃q∈rs,q.blk=some b)) w':=⟨h3.size,fun a q hc hm=>by
  obtain ⟨k1,k2⟩:=h3.keep a q hc (fun h=>hm h.1)
  exact ⟨fun h=>h.elim k1 fun h=>hm h.1,k2⟩,fun b x ho hp hm=>by
  obtain ⟨k1,k2⟩:=h3.obj b x ho hp (fun h=>hm h.1)
  exact ⟨fun h=>h.elim k1 fun h=>hm h.1,k2⟩⟩
 refine ⟨u,_,x,rfl,hC,hres x _ _ _ _ h2,hE,⟨h5.m0,fun b o hm=> .inl (h5.m b o hm),h5.os,h5.tape,h5.output,h5.size,h5.block,fun b o hm=> ?_,fun q hq=> ?_,?_⟩⟩
 ·
  rcases hm with hm|⟨hm,_⟩
  · exact h5.bd b o hm
  · exact Nat.lt_of_lt_of_le (hI.bd b o hm) h3.size
 ·
  rcases List.mem_append.1 hq with hq|hq
  ·
   obtain ⟨k1,k2⟩:=h5.hold q (List.mem_append_left _ hq)
   exact ⟨ADp x q hq _ _ _ (fun _ _ h=> .inl h) k1,k2⟩
  ·
   refine ⟨q.st _ _ _ _ hE (fun b hb=>⟨ADq q hq b hb,fun o hm=> .inr ⟨hm,q,hq,hb⟩⟩) (hI.hold q hq).1,fun b hb=> ?_⟩
   obtain ⟨k1,k2⟩:=(hI.hold q hq).2 b hb
   exact ⟨Nat.lt_of_lt_of_le k1 h3.size,k2⟩
 · exact jf (by rw [List.map_append,List.map_append,List.map_map];rfl) h5.nd
end
section
variable {P:Program} {I:CS} {E:Env} {o:Oper}
abbrev u32 (b:BitVec 32):Pr:=is (.int .u32 (b.toNat:Int))
theorem Z1 (n:Int):IntKind.u32.wrap n=n % 4294967296:=by simp [IntKind.wrap,IntKind.signed,IntKind.bits]
theorem Oj (b:BitVec 32):IntKind.u32.wrap (b.toNat:Int)=(b.toNat:Int):=by rw [Z1];have:=b.isLt;omega
theorem vC (b:BitVec 32) (i:Nat):IntKind.u32.wrap ((b.toNat:Int)*2 ^ (min i 32))=((b<<<i).toNat:Int):=by
 rw [Z1,BitVec.toNat_shiftLeft,Nat.shiftLeft_eq]
 have e1:((b.toNat:Int)*2 ^ (min i 32))=((b.toNat*2 ^ (min i 32):Nat):Int):=by rw [Int.natCast_mul,Int.natCast_pow];rfl
 rw [e1]
 rcases Nat.le_total i 32 with h|h
 · rw [Nat.min_eq_left h];generalize b.toNat*2 ^ i=n;show ((n:Int) % 4294967296)=((n % 4294967296:Nat):Int);omega
 ·
  rw [Nat.min_eq_right h]
  obtain ⟨k,rfl⟩:=Nat.exists_eq_add_of_le h
  have h1:b.toNat*2 ^ 32 % 4294967296=0:=by rw [show (4294967296:Nat)=2 ^ 32 from rfl];exact Nat.mul_mod_left _ _
  have h2:b.toNat*2 ^ (32+k) % 2 ^ 32=0:=by rw [Nat.pow_add,←Nat.mul_assoc,Nat.mul_right_comm];exact Nat.mul_mod_left _ _
  rw [h2];generalize b.toNat*2 ^ 32=n at h1 ⊢;omega
theorem jh (b:BitVec 32) (i:Nat):(b.toNat:Int).fdiv (2 ^ (min i 32))=((b>>>i).toNat:Int):=by
 rw [BitVec.toNat_ushiftRight,Nat.shiftRight_eq_div_pow]
 have e1:(2:Int) ^ (min i 32)=((2 ^ (min i 32):Nat):Int):=by rw [Int.natCast_pow];rfl
 rw [e1,Int.fdiv_eq_ediv_of_nonneg _ (by exact Int.natCast_nonneg _)]
 rcases Nat.le_total i 32 with h|h
 · rw [Nat.min_eq_left h];norm_cast
 ·
  rw [Nat.min_eq_right h]
  have h3:=b.isLt
  have h1:b.toNat/2 ^ 32=0:=Nat.div_eq_of_lt h3
  have h2:b.toNat/2 ^ i=0:=Nat.div_eq_of_lt (Nat.lt_of_lt_of_le h3 (Nat.pow_le_pow_right AA h))
  rw [h2,←h1];norm_cast
theorem Hw {t u:TypeId} {x y:Operand} {b:BitVec 32} {i:Int} (ho:o.op= .binOp .shl t x y u) (hx:VL E x (u32 b)) (hy:VL E y (int i)) (hi:0≤i):Ad P I o E (u32 (b<<<i.toNat)):=
 Ad.same fun M w a he _=>by
  have h1:a.eval x= .int .u32 b.toNat:=hx.ev he Ap
  have h2:a.eval y= .int .i64 i:=hy.ev he Ap
  refine ⟨.int .u32 ((b<<<i.toNat).toNat:Int),?_,rfl⟩
  rw [←vC]
  simp [execOp,ho,h1,h2,eqGuard,binOp,Op.shift,show ¬i<0 by omega,IntKind.bits]
theorem ji {t u:TypeId} {x y:Operand} {b:BitVec 32} {i:Int} (ho:o.op= .binOp .shr t x y u) (hx:VL E x (u32 b)) (hy:VL E y (int i)) (hi:0≤i):Ad P I o E (u32 (b>>>i.toNat)):=
 Ad.same fun M w a he _=>by
  have h1:a.eval x= .int .u32 b.toNat:=hx.ev he Ap
  have h2:a.eval y= .int .i64 i:=hy.ev he Ap
  refine ⟨.int .u32 ((b>>>i.toNat).toNat:Int),?_,rfl⟩
  rw [←jh]
  simp [execOp,ho,h1,h2,eqGuard,binOp,Op.shift,show ¬i<0 by omega,IntKind.bits]
theorem VR (b:BitVec 32):BitVec.ofInt 32 (b.toNat:Int)=b:=by
 apply BitVec.eq_of_toNat_eq
 rw [BitVec.toNat_ofInt]
 have:=b.isLt
 omega
theorem QS {t u:TypeId} {x y:Operand} {b c:BitVec 32} {op:BinOp} {f:BitVec 32→BitVec 32→BitVec 32} (ho:o.op= .binOp op t x y u) (hx:VL E x (u32 b)) (hy:VL E y (u32 c))
  (hf:(op= .and∧f=fun b c=>b&&&c)∨(op= .or∧f=fun b c=>b|||c)∨(op= .andNot∧f=fun b c=>b&&&~~~c)∨(op= .xor∧f=fun b c=>b ^^^ c)):Ad P I o E (u32 (f b c)):=
 Ad.same fun M w a he _=>by
  have h1:a.eval x= .int .u32 b.toNat:=hx.ev he Ap
  have h2:a.eval y= .int .u32 c.toNat:=hy.ev he Ap
  refine ⟨.int .u32 ((f b c).toNat:Int),?_,rfl⟩
  have e1:=VR b
  have e2:=VR c
  rcases hf with ⟨rfl,rfl⟩|⟨rfl,rfl⟩|⟨rfl,rfl⟩|⟨rfl,rfl⟩
  · have e3:=Oj (b&&&c);simp [execOp,ho,h1,h2,eqGuard,binOp,Op.intBits,IntKind.bits,e1,e2] at e3 ⊢;exact e3
  · have e3:=Oj (b|||c);simp [execOp,ho,h1,h2,eqGuard,binOp,Op.intBits,IntKind.bits,e1,e2] at e3 ⊢;exact e3
  · have e3:=Oj (b&&&~~~c);simp [execOp,ho,h1,h2,eqGuard,binOp,Op.intBits,IntKind.bits,e1,e2];exact e3.trans AO
  · have e3:=Oj (b ^^^ c);simp [execOp,ho,h1,h2,eqGuard,binOp,Op.intBits,IntKind.bits,e1,e2] at e3 ⊢;exact e3
theorem VS {t u:TypeId} {x y:Operand} {b c:BitVec 32} (ho:o.op= .binOp .and t x y u) (hx:VL E x (u32 b)) (hy:VL E y (u32 c)):Ad P I o E (u32 (b&&&c)):=QS ho hx hy (.inl ⟨rfl,rfl⟩)
theorem KF {t u:TypeId} {x y:Operand} {b c:BitVec 32} (ho:o.op= .binOp .or t x y u) (hx:VL E x (u32 b)) (hy:VL E y (u32 c)):Ad P I o E (u32 (b|||c)):=QS ho hx hy (.inr (.inl ⟨rfl,rfl⟩))
theorem Jo {t u:TypeId} {x y:Operand} {b c:BitVec 32} (ho:o.op= .binOp .andNot t x y u) (hx:VL E x (u32 b)) (hy:VL E y (u32 c)):Ad P I o E (u32 (b&&&~~~c)):=QS (f:=fun b c=>b&&&~~~c) ho hx hy (.inr (.inr (.inl ⟨rfl,rfl⟩)))
theorem Lf:Pr.le (is (.int .u32 0)) (u32 0#32):=fun _ _ _ h=>h
theorem Z2 (b:BitVec 32):(((b.toNat:Int)==0)=(b==0#32)):=by
 rw [Bool.eq_iff_iff,beq_iff_eq,beq_iff_eq]
 constructor
 · intro h;apply BitVec.eq_of_toNat_eq;simp;omega
 · rintro rfl;rfl
theorem vD (b:BitVec 32) (i:Nat):((((b>>>i)&&&1#32).toNat:Int)==1)=b.getLsbD i:=by
 rw [Bool.eq_iff_iff,beq_iff_eq]
 have h1:((b>>>i)&&&1#32).toNat=(b.toNat>>>i) % 2:=by
  rw [BitVec.toNat_and,BitVec.toNat_ushiftRight];exact Nat.and_one_is_mod _
 rw [h1]
 unfold BitVec.getLsbD
 rw [Nat.testBit,Nat.and_comm,Nat.and_one_is_mod]
 constructor
 ·
  intro h;have:(b.toNat>>>i) % 2=1:=by omega
  rw [this];rfl
 ·
  intro h
  rcases Nat.mod_two_eq_zero_or_one (b.toNat>>>i) with h2|h2
  · rw [h2] at h;cases h
  · omega
end
def Xj (g:Nat) (Gw:List Nat):An where
 blk:=none
 new:=true
 h M w:=∀(j:Nat) (x:Nat),Gw[j]? =some x→w.cell? ⟨g,j,none⟩=some (.int .u8 (x:Int))∧¬M g j
 st M w M' w' he _ h:=fun j x hx=>by
  obtain ⟨h1,h2⟩:=h j x hx
  obtain ⟨h3,h4⟩:=he.keep ⟨g,j,none⟩ _ h1 h2
  exact ⟨h4,h3⟩
def B0 (p:Prop):An:=⟨none,true,fun _ _=>p,fun _ _ _ _ _ _ h=>h⟩
section
variable {P:Program} {L:Lg P} {n:Fm} {E:Env} {M0:Av} {w0:World} {S:Nat→Prop} {rs:List An} {o:Oper} {r:List Oper} {ops:Array Oper} {Q:Exit→Act→World→Prop} {c:Code}
theorem Tr.prop {p:Prop} (j:Nat) (hj:rs[j]? =some (B0 p)) (k:p→Tr L n E (Hp M0 w0 S rs) c Q):Tr L n E (Hp M0 w0 S rs) c Q:=fun a w hs=>by
 obtain ⟨M,h1,h2,h3,h4⟩:=hs
 have h4:At M0 w0 S rs M w:=h4
 exact k (h4.hold _ (List.mem_of_getElem? hj)).1 a w ⟨M,h1,h2,h3,h4⟩
theorem Fin.Z3 {e:Exit} {p:Prop} (hp:p) (k:Fin n E (Hp M0 w0 S (B0 p::rs)) Q e):Fin n E (Hp M0 w0 S rs) Q e:=fun a w hs=>by
 obtain ⟨M,h1,h2,h3,h4⟩:=hs
 have h4:At M0 w0 S rs M w:=h4
 exact k a w ⟨M,h1,h2,h3,At.I8 h4 (r:=B0 p) rfl hp⟩
theorem Tr.Z3 {p:Prop} (hp:p) (k:Tr L n E (Hp M0 w0 S (B0 p::rs)) c Q):Tr L n E (Hp M0 w0 S rs) c Q:=fun a w hs=>by
 obtain ⟨M,h1,h2,h3,h4⟩:=hs
 have h4:At M0 w0 S rs M w:=h4
 exact k a w ⟨M,h1,h2,h3,At.I8 h4 (r:=B0 p) rfl hp⟩
theorem vE {t:TypeId} {x:Operand} {g j i:Nat} {Gw:List Nat} {y:Nat} (ho:o.op= .load t x) (ht:ES P t=true) (hx:VL E x (is (.pointer (some ⟨g,i,none⟩)))) (hy:Gw[i]? =some y):JP P M0 w0 S j (SR.c (Xj g Gw)) o E (is (.int .u8 (y:Int))):=by
 intro M w a rs he hI hj
 have h0:a.eval x= .pointer (some ⟨g,i,none⟩):=hx.ev he Ap
 have hj':rs[j]? =some (Xj g Gw):=hj
 obtain ⟨h1,_⟩:=(hI.hold _ (List.mem_of_getElem? hj')).1 i y hy
 have hrun:(execOp a.eval o).run P w= .ok (.value (.int .u8 (y:Int))) w:=by simp [execOp,ho,h0,Instr.loadAt,Instr.sureAddr,loadVar,D8 ht,h1]
 rw [hrun]
 exact ⟨rfl,Below.refl _ _⟩
end
section
variable {P:Program}
theorem MJ.of {gf:Nat} {lb:Array Value} {α:Type} {enc:α→Value} {xs:List α} {own:List α→List An} {g:Func} {c:Code} {ps:List Pr} (hf:P.funcs[gf]? =some g) (hb:g.body=some c) (hlen:ps.length+1≤g.ntmps) (hps:∀M w,HL M w ps lb.toList)
  (h:∀(M0:Av) (w0:World) (S:Nat→Prop) (l:Nat) (β:Type) (R Rx:List α→β→List An) (M1:Av) (w1:World),
   (∀pre x d M w,(pre++[x])<+:xs→At M0 w0 S (own (pre++[x])++R pre d) M w→YieldAt (DZ none) 0 P l #[enc x] w fun e w'=>∃M' d',Ext M w M' w'∧
    ((e= .returned (.bool true)∧At M0 w0 S (own (pre++[x])++R (pre++[x]) d') M' w')∨(e= .returned (.bool false)∧At M0 w0 S (own (pre++[x])++Rx (pre++[x]) d') M' w')))→
   ∀ d, Tr (Zy P none) g.ntmps (K1 0 (is (.func (.yield l) #[] #[]) :: ps)) (Hp M0 w0 S (own [] ++ Ak M1 w1 :: R [] d)) c
    (I4 P g fun e w'=>(∃v,e= .returned v)∧∃M' d',Ext M1 w1 M' w'∧(At M0 w0 S (own xs++R xs d') M' w'∨∃pre,pre<+:xs∧At M0 w0 S (own pre++Rx pre d') M' w'))):MJ P gf lb enc xs own:=by
 intro M0 w0 S l β R Rx hy d M w hI
 refine callsIn_of_wp_marks (F:=DZ none) (n:=0) hf hb trivial (h M0 w0 S l β R Rx M w hy d _ _ ⟨M,?_,rfl,?_,?_⟩)
 ·
  have:=(hps M w).length
  simp at this ⊢;omega
 ·
  have h2:HL M w (is (.func (.yield l) #[] #[])::ps) ((.func (.yield l) #[] #[])::lb.toList):=⟨rfl,hps M w⟩
  have h3:=FZ (m:=g.ntmps-(#[Value.func (.yield l) #[] #[]]++lb:Array Value).size) h2
  have e1:(Value.func (.yield l) #[] #[]::lb.toList).toArray= #[Value.func (.yield l) #[] #[]]++lb:=by apply Array.ext';simp
  rw [e1] at h3;exact h3
 · exact Wd
end
section
variable {P:Program} {I:CS} {E:Env} {o:Oper}
theorem jj {t u:TypeId} {x y:Operand} {b:BitVec 32} (ho:o.op= .binOp .eql t x y u) (hx:VL E x (u32 b)) (hy:VL E y (is (.int .u32 0))):Ad P I o E (bool (b==0#32)):=
 Ad.same fun M w a he _=>by
  have h1:a.eval x= .int .u32 b.toNat:=hx.ev he Ap
  have h2:a.eval y= .int .u32 0:=hy.ev he Ap
  refine ⟨.bool (b==0#32),?_,rfl⟩
  rw [←Z2]
  simp [execOp,ho,h1,h2,eqGuard,binOp,Op.intCmp]
theorem jk {t u:TypeId} {x y:Operand} {b:BitVec 32} (ho:o.op= .binOp .neq t x y u) (hx:VL E x (u32 b)) (hy:VL E y (is (.int .u32 0))):Ad P I o E (bool (!(b==0#32))):=
 Ad.same fun M w a he _=>by
  have h1:a.eval x= .int .u32 b.toNat:=hx.ev he Ap
  have h2:a.eval y= .int .u32 0:=hy.ev he Ap
  refine ⟨.bool (!(b==0#32)),?_,rfl⟩
  rw [←Z2]
  simp [execOp,ho,h1,h2,eqGuard,binOp,Op.intCmp]
  rw [Bool.eq_iff_iff];simp
theorem vF {t u:TypeId} {x y:Operand} {b:BitVec 32} {i:Nat} (ho:o.op= .binOp .eql t x y u) (hx:VL E x (u32 ((b>>>i)&&&1#32))) (hy:VL E y (is (.int .u32 1))):Ad P I o E (bool (b.getLsbD i)):=
 Ad.same fun M w a he _=>by
  have h1:a.eval x= .int .u32 ((b>>>i)&&&1#32).toNat:=hx.ev he Ap
  have h2:a.eval y= .int .u32 1:=hy.ev he Ap
  refine ⟨.bool (b.getLsbD i),?_,rfl⟩
  rw [←vD]
  simp [execOp,ho,h1,h2,eqGuard,binOp,Op.intCmp]
theorem jl {t:TypeId} {x:Operand} {b:BitVec 32} (ho:o.op= .unOp .neg t x) (hx:VL E x (u32 b)):Ad P I o E (u32 (-b)):=
 Ad.same fun M w a he _=>by
  have h1:a.eval x= .int .u32 b.toNat:=hx.ev he Ap
  refine ⟨.int .u32 ((-b).toNat:Int),?_,rfl⟩
  have e1:IntKind.u32.wrap (0-(b.toNat:Int))=((-b).toNat:Int):=by
   rw [Z1,BitVec.toNat_neg];have:=b.isLt;omega
  rw [←e1]
  simp [execOp,ho,h1,Op.unary,Op.intArith]
theorem jm {t u:TypeId} {x y:Operand} {b c:BitVec 32} (ho:o.op= .binOp .mul t x y u) (hx:VL E x (u32 b)) (hy:VL E y (u32 c)):Ad P I o E (u32 (b*c)):=
 Ad.same fun M w a he _=>by
  have h1:a.eval x= .int .u32 b.toNat:=hx.ev he Ap
  have h2:a.eval y= .int .u32 c.toNat:=hy.ev he Ap
  refine ⟨.int .u32 ((b*c).toNat:Int),?_,rfl⟩
  have e1:IntKind.u32.wrap ((b.toNat:Int)*(c.toNat:Int))=((b*c).toNat:Int):=by
   rw [Z1,BitVec.toNat_mul]
   have e2:(b.toNat:Int)*(c.toNat:Int)=((b.toNat*c.toNat:Nat):Int):=by rw [Int.natCast_mul]
   rw [e2]
   generalize b.toNat*c.toNat=n
   show ((n:Int) % 4294967296)=((n % 4294967296:Nat):Int)
   omega
  rw [←e1]
  simp [execOp,ho,h1,h2,eqGuard,binOp,Op.intArith]
theorem qJ {t u:TypeId} {x y:Operand} {b:BitVec 32} {k:IntKind} {i:Int} (ho:o.op= .binOp .shr t x y u) (hx:VL E x (u32 b)) (hy:VL E y (is (.int k i))) (hi:0≤i):Ad P I o E (u32 (b>>>i.toNat)):=
 Ad.same fun M w a he _=>by
  have h1:a.eval x= .int .u32 b.toNat:=hx.ev he Ap
  have h2:a.eval y= .int k i:=hy.ev he Ap
  refine ⟨.int .u32 ((b>>>i.toNat).toNat:Int),?_,rfl⟩
  rw [←jh]
  simp [execOp,ho,h1,h2,eqGuard,binOp,Op.shift,show ¬i<0 by omega,IntKind.bits]
theorem Xk {t e:TypeId} {x y:Operand} {k:IntKind} {i:Int} {g len:Nat} (ho:o.op= .indexAddr t x y) (ht:P.underlying t=some (.array len e)) (hz:Au P e=some 1) (hx:VL E x (is (.pointer (some ⟨g,0,none⟩)))) (hy:VL E y (is (.int k i))) (h0:0≤i) (h1:i<len):
  Ad P I o E (is (.pointer (some ⟨g,i.toNat,none⟩))):=
 Ad.same fun M w a he _=>by
  have h2:a.eval x= .pointer (some ⟨g,0,none⟩):=hx.ev he Ap
  have h3:a.eval y= .int k i:=hy.ev he Ap
  refine ⟨.pointer (some ⟨g,i.toNat,none⟩),?_,rfl⟩
  simp [execOp,ho,h2,h3,Instr.indexAt,asIntOf,run_underlying ht,CA hz,h0,h1,Instr.sureAddr,Addr.add]
  intro;omega
end
section
variable {P:Program} {Q:Exit→Act→World→Prop} {K:Act→World→Prop} {a:Act} {w:World} {o:Oper} {ops:Array Oper}
theorem Il {i:Nat} {rest:List Nat} (ho:ops[i]? =some o) (hg:o.guard=none) (h:o.wpIn (DZ none) 0 P a w (wpOpsIn (DZ none) 0 P ops Q rest) Q):wpOpsIn (DZ none) 0 P ops Q (i::rest) a w:=by
 unfold wpOpsIn;rw [ho];dsimp only;rw [if_pos (by simp [Region.wanted,hg])];exact h
theorem Z4 {x:Operand} (ho:o.op= .move x) (k:K (a.put o.dst (a.eval x)) w):o.wpIn (DZ none) 0 P a w K Q:=
 Zx (by unfold Kt;rw [ho]) (fun _ _ h=>h) (by unfold Oper.wp;simp [execOp,ho];exact k)
theorem vG {t:TypeId} {x:Operand} {b:Bool} (ho:o.op= .unOp .not t x) (hx:a.eval x= .bool b) (k:K (a.put o.dst (.bool (!b))) w):o.wpIn (DZ none) 0 P a w K Q:=
 Zx (by unfold Kt;rw [ho]) (fun _ _ h=>h) (by unfold Oper.wp;simp [execOp,ho,hx,Op.unary];exact k)
theorem Tr.jo {n:Fm} {E:Env} {M0 M1:Av} {w0 w1:World} {S:Nat→Prop} {id t0 t3 d0 d1 d2 d3:Nat} {o0 o1 o2 o3:Oper} {ts:Array TypeId} {ty:TypeId} {α β:Type} {l:Nat} {enc:α→Value} {xs:List α} {own:List α→List An} {R Rx:List α→β→List An} {pre:List α} {x:α} {d:β}
  (hy:∀pre x d M w,(pre++[x])<+:xs→At M0 w0 S (own (pre++[x])++R pre d) M w→YieldAt (DZ none) 0 P l #[enc x] w fun e w'=>∃M' d',Ext M w M' w'∧
    ((e= .returned (.bool true)∧At M0 w0 S (own (pre++[x])++R (pre++[x]) d') M' w')∨(e= .returned (.bool false)∧At M0 w0 S (own (pre++[x])++Rx (pre++[x]) d') M' w')))
  (hpre:(pre++[x])<+:xs) (g0:o0.guard=none) (g1:o1.guard=none) (g2:o2.guard=none) (g3:o3.guard=none) (p0:o0.op= .move (.tmp t0)) (p1:o1.op= .move (.tmp t3)) (p2:o2.op= .call { callee:= .value (.tmp d0),args:= #[.tmp d1],argTypes:=ts }) (p3:o3.op= .unOp .not ty (.tmp d2))
  (e0:o0.dst=some d0) (e1:o1.dst=some d1) (e2:o2.dst=some d2) (e3:o3.dst=some d3) (n0:d0<n) (n1:d1<n) (n2:d2<n) (n3:d3<n) (ne:d0≠d1∧t3≠d0)
  (h0:E.lookup t0=some (is (.func (.yield l) #[] #[]))) (h3:E.lookup t3=some (is (enc x))) (f0:E.lookup d0=none) (f1:E.lookup d1=none) (f2:E.lookup d2=none)
  (kT:∀d',Fin n ((d3,bool false)::E) (Hp M0 w0 S (own (pre++[x])++Ak M1 w1::R (pre++[x]) d')) Q .normal)
  (kF:∀d',Fin n ((d3,bool true)::E) (Hp M0 w0 S (own (pre++[x])++Ak M1 w1::Rx (pre++[x]) d')) Q .normal):
  Tr (Zy P none) n E (Hp M0 w0 S (own (pre++[x])++Ak M1 w1::R pre d)) (.region id #[o0,o1,o2,o3] false) Q:=by
 rintro a w ⟨M,hsz,hdf,hE,hI⟩
 have hI:At M0 w0 S (own (pre++[x])++Ak M1 w1::R pre d) M w:=hI
 obtain ⟨hx,hI2⟩:=Ht hI
 have ZK:a.tmps.getD t0 undef= .func (.yield l) #[] #[]:=hE _ _ h0
 have hv3:a.tmps.getD t3 undef=enc x:=hE _ _ h3
 have fin:∀(b:Bool) (tl:List An) (w':World) (M':Av),Ext M w M' w'→At M0 w0 S (own (pre++[x])++tl) M' w'→
   St n ((d3,bool (!b))::E) (Hp M0 w0 S (own (pre++[x])++Ak M1 w1::tl)) ((((a.put (some d0) (.func (.yield l) #[] #[])).put (some d1) (enc x)).put (some d2) (.bool b)).put (some d3) (.bool (!b))) w':=by
  intro b tl w' M' he hh
  refine ⟨M',by simp only [Bp];exact hsz,by simp only [put_defers];exact hdf,fun s q hq=> ?_,At.perm List.perm_middle.symm (At.I8 hh (r:=Ak M1 w1) rfl (hx.trans he))⟩
  simp only [List.lookup] at hq
  by_cases hs:s=d3
  · subst hs;simp at hq;subst hq;rw [Bk (by simp only [Bp];rw [hsz];exact n3)];rfl
  ·
   rw [show (s==d3)=false by simpa using hs] at hq
   have Za:s≠d2:=fun e=>by rw [e,f2] at hq;cases hq
   have hs1:s≠d1:=fun e=>by rw [e,f1] at hq;cases hq
   have hs0:s≠d0:=fun e=>by rw [e,f0] at hq;cases hq
   rw [BN hs,BN Za,BN hs1,BN hs0]
   exact q.st _ _ _ _ _ he (hE s q hq)
 refine wpIn_region ?_
 show wpOpsIn (DZ none) 0 P _ Q [0,1,2,3] a w
 refine Il (o:=o0) rfl g0 (Z4 p0 ?_)
 refine Il (o:=o1) rfl g1 (Z4 p1 ?_)
 rw [e0,e1]
 have k0:a.eval (.tmp t0)= .func (.yield l) #[] #[]:=ZK
 have k3:(a.put (some d0) (a.eval (.tmp t0))).eval (.tmp t3)=enc x:=by
  show (a.put (some d0) _).tmps.getD t3 undef=_
  rw [BN ne.2];exact hv3
 rw [k3,k0]
 refine Il (o:=o2) rfl g2 (jc (v:=enc x) p2 ?_ ?_ (hy pre x d M w hpre hI2) ?_)
 ·
  show (Act.put _ _ _).tmps.getD d0 undef=_
  rw [BN ne.1,Bk (by rw [hsz];exact n0)]
 ·
  show (Act.put _ _ _).tmps.getD d1 undef=_
  rw [Bk (by rw [Bp,hsz];exact n1)]
 ·
  rintro e w' ⟨M',d',he,hh⟩
  have hnot:∀(b:Bool) (tl:List An),At M0 w0 S (own (pre++[x])++tl) M' w'→Fin n ((d3,bool (!b))::E) (Hp M0 w0 S (own (pre++[x])++Ak M1 w1::tl)) Q .normal→wpOpsIn (DZ none) 0 P #[o0,o1,o2,o3] Q [3] (((a.put (some d0) (.func (.yield l) #[] #[])).put (some d1) (enc x)).put o2.dst (.bool b)) w':=by
   intro b tl hh k
   rw [e2]
   refine Il (o:=o3) rfl g3 (vG (b:=b) p3 ?_ ?_)
   ·
    show (Act.put _ _ _).tmps.getD d2 undef=_
    rw [Bk (by simp only [Bp];rw [hsz];exact n2)]
   ·
    rw [e3]
    exact k _ _ (fin b tl w' M' he hh)
  rcases hh with ⟨rfl,hh⟩|⟨rfl,hh⟩
  · exact ⟨_,rfl,hnot true _ hh (kT d')⟩
  · exact ⟨_,rfl,hnot false _ hh (kF d')⟩
theorem qK {I:CS} {E:Env} {f:Fn} {x:Operand} {u:Value} (ho:o.op= .makeFunc f #[] #[x]) (hx:VL E x (is u)):Ad P I o E (is (.func f #[] #[u])):=
 Ad.same fun M w a he _=>by
  have h1:a.eval x=u:=hx.ev he Ap
  exact ⟨.func f #[] #[u],by simp [execOp,ho,Instr.makeFunc,h1],rfl⟩
end
section
variable {P:Program} {L:Lg P} {n:Fm} {fz:Nat} {E:Env} {M0:Av} {w0:World} {S:Nat→Prop} {o:Oper}
def Jp (p:Pr) (v:Value):An:=⟨none,true,fun M w=>p.h M w v,fun M w M' w' he _ h=>p.st M w M' w' v he h⟩
def sQ (e:TypeId) (zs:List Value) (v:Value):An:=match v with| .slice (some a) _ _=>AE true a.block e (zs.map is)|_=>Bb
def jq (R:Value→Value→Value→An) (u:Value):An:=match u with| .tuple t=>R (t.getD 1 undef) (t.getD 2 undef) (t.getD 0 undef)|_=>Bb
def VT (R:Value→Value→An) (u:Value):An:=match u with| .tuple t=>R (t.getD 1 undef) (t.getD 0 undef)|_=>Bb
theorem Xl {a:Act} {d s t:Nat} {R:Value→Value→Value→An}:SR.at_ a ⟨.three d s t,jq R⟩=R (a.tmps.getD s undef) (a.tmps.getD t undef) (a.tmps.getD d undef):=rfl
theorem Ol {a:Act} {d s:Nat} {R:Value→Value→An}:SR.at_ a ⟨.two d s,VT R⟩=R (a.tmps.getD s undef) (a.tmps.getD d undef):=rfl
theorem D_.conv {a:Act} {M:Av} {w:World} {p q:Pr} {j:Nat} {R1 R2:SR} {rs:List An} {r:Result Next} (hq:Pr.le p q) (hR:∀v,R1.at_ (a.put o.dst v)=R2.at_ (a.put o.dst v)) (h:D_ P M0 w0 S o a M w p j R1 rs r):D_ P M0 w0 S o a M w q j R2 rs r:=by
 cases r with
 |halt x w'=>exact h
 |ok x w'=>
  cases x
  case value v=>obtain ⟨M',g1,g2,g3⟩:=h;exact ⟨M',hq _ _ _ g1,g2,by rw [←hR];exact g3⟩
  case skip=>obtain ⟨M',g1,g2,g3⟩:=h;exact ⟨M',hq _ _ _ g1,g2,by rw [←hR];exact g3⟩
  case enter f args=>
   refine Calls.mono h ?_
   rintro e w'' ⟨v,M',g0,g1,g2,g3⟩
   exact ⟨v,M',g0,hq _ _ _ g1,g2,by rw [←hR];exact g3⟩
  all_goals exact h
theorem Im {M:Av} {w:World} {a:Act} (h:Cd M w E o a) (s:Nat) {p0:Pr} (hp0:p0.h M w (a.tmps.getD s undef)):Cd M w ((s,Ae (a.tmps.getD s undef) p0)::E) o a:=fun c p hc hp=>by
 simp only [List.lookup] at hp
 by_cases hcs:c=s
 · subst hcs;simp only [beq_self_eq_true,Option.some.injEq] at hp;subst hp;exact ⟨rfl,hp0⟩
 · rw [show (c==s)=false by simpa using hcs] at hp;exact h c p hc hp
theorem vH {j d s t:Nat} {R:SR} {p1 p2 q:Pr} {p:Value→Value→Pr} {R':Value→Value→Value→An} (hd:o.dst=some d) (hs:d≠s) (ht:d≠t) (hq:∀v1 v2,Pr.le (p v1 v2) q) (hg:o.guard=none) (h1:E.lookup s=some p1) (h2:E.lookup t=some p2) (hls:s∈looks o) (hlt:t∈looks o) (h:∀v1 v2,Di P M0 w0 S n j R ⟨d,R' v1 v2⟩ o ((s,Ae v1 p1)::(t,Ae v2 p2)::E) (p v1 v2)):Di P M0 w0 S n j R ⟨.three d s t,jq R'⟩ o E q:=by
 refine ⟨hg,fun M w a rs hsz he hI hj=> ?_⟩
 refine D_.conv (hq _ _) (fun v=> ?_) ((h (a.tmps.getD s undef) (a.tmps.getD t undef)).2 M w a rs hsz (Im (Im he t (he t p2 hlt h2)) s (he s p1 hls h1)) hI hj)
 rw [Xl,hd,BN (Ne.symm hs),BN (Ne.symm ht)];rfl
theorem Xm {j d:Nat} {p:Pr} (hg:o.guard=none) (hd:o.dst=some d) (hn:d<n) (h:∀I,Ad P I o E p):Di P M0 w0 S n j (SR.c Bb) ⟨d,Jp p⟩ o E p:=by
 refine ⟨hg,fun M w a rs hsz he hI hj=> ?_⟩
 have hj':rs[j]? =some Bb:=hj
 have hat:∀v,SR.at_ (a.put o.dst v) ⟨d,Jp p⟩=Jp p v:=fun v=>by show Jp p ((a.put o.dst v).tmps.getD d undef)=_;rw [hd,Bk Gd]
 have hg2:=h (Hp M0 w0 S rs) M w a he hI
 revert hg2
 generalize (execOp a.eval o).run P w=r
 intro hg2
 have key:∀v w',p.h M w' v→Below w.heap.size w w'→∃M',p.h M' w' v∧Ext M w M' w'∧At M0 w0 S (rs.set j (SR.at_ (a.put o.dst v) ⟨d,Jp p⟩)) M' w':=fun v w' hv hb=>by
  refine ⟨M,hv,Ext.below hb,?_⟩
  rw [hat]
  exact At.CD ((Hp M0 w0 S rs).st _ _ _ hb hI) hj' rfl rfl hv
 cases r with
 |halt x w'=>exact hg2
 |ok x w'=>
  cases x
  case value v=>exact key v w' hg2.1 hg2.2
  case skip=>exact key undef w' hg2.1 hg2.2
  case enter f args=>
   obtain ⟨hb,hc⟩:=hg2
   refine Calls.mono hc ?_
   rintro e w'' ⟨v,g0,g1,g2⟩
   obtain ⟨M',k1,k2,k3⟩:=key v w'' g1 (NR hb g2)
   exact ⟨v,M',g0,k1,k2,k3⟩
  all_goals exact hg2
theorem jr {t e:TypeId} {x y:Operand} {d j m bO:Nat} {z:Value} (hg:o.guard=none) (hd:o.dst=some d) (hn:d<n) (ho:o.op= .makeSlice t x y) (ht:P.underlying t=some (.slice e)) (hs:Au P e=some 1) (hby:Bq P e=some bO) (hz:BO P e=some [z]) (h1:z.oneCell'=true)
  (hx:VL E x (int ((m:Nat):Int))) (hy:VL E y (int ((m:Nat):Int))) (hm:m≤maxLen) (hb:bO*m≤281474976710656):Di P M0 w0 S n j (SR.c Bb) ⟨d,sQ e (List.replicate m z)⟩ o E (Cp.ex fun b=>is (J8 m b)):=by
 refine ⟨hg,fun M w a rs Q4 he hI hj=> ?_⟩
 have hx1:a.eval x= .int .i64 m:=hx.ev he Ap
 have hy1:a.eval y= .int .i64 m:=hy.ev he Ap
 have hi:∃i,P.info? e=some i∧i.size=1∧i.bytes=bO∧∃z',i.zero=some z'∧z'.cells= #[z]:=by
  unfold Au at hs;unfold Bq at hby;unfold BO at hz
  cases hi:P.info? e with
  |none=>rw [hi] at hs;cases hs
  |some i=>
   rw [hi] at hs hby hz
   simp at hs hby hz
   obtain ⟨z',h2,h3⟩:=hz
   exact ⟨i,rfl,hs,hby,z',h2,by rw [←Array.toList_inj,h3]⟩
 obtain ⟨i,hi,hi1,hi2,z',G8,S2⟩:=hi
 have hmk:madeCells z'.cells m=(List.replicate m z).toArray:=by
  rw [S2]
  apply Array.ext
  · simp [madeCells]
  ·
   intro j h1 h2
   simp [madeCells,Nat.mod_one]
 have hrun:=run_make (P:=P) w t e i z' ht hi G8 .i64 .i64 (m:Int) (m:Int) AA (Int.le_refl _) (by rw [hi2];have h0:((bO*m:Nat):Int)≤281474976710656:=Int.ofNat_le.2 hb;rw [←Int.natCast_mul];exact h0) Sr
 rw [hi1] at hrun
 simp only [Int.toNat_natCast,Nat.mul_one] at hrun
 rw [hmk] at hrun
 have Dl:(execOp a.eval o).run P w= .ok (.value (J8 m w.heap.size)) (w.alloc (.cells (List.replicate m z).toArray e)):=by simp [execOp,ho,hx1,hy1,hrun]
 rw [Dl]
 have hb:Below w.heap.size w (w.alloc (.cells (List.replicate m z).toArray e)):=(Below.refl _ _).alloc (Nat.le_refl _) _
 have h2:=Ext.below (M:=M) hb
 have EL:Ext M w (fun b o=>M b o∨b=w.heap.size) (w.alloc (.cells (List.replicate m z).toArray e)):=by
  refine ⟨h2.size,fun a v hc hm=>⟨fun hx=> ?_,(h2.keep a v hc hm).2⟩,fun b o ho hp hm=>⟨fun hx=> ?_,(h2.obj b o ho hp hm).2⟩⟩
  ·
   rcases hx with hx|hx
   · exact B8
   · exact Eh
  ·
   rcases hx with hx|hx
   · exact B8
   · exact Ej
 have hs1:(w.alloc (.cells (List.replicate m z).toArray e)).heap.size=w.heap.size+1:=by simp
 have hat:(SR.at_ (a.put o.dst (J8 m w.heap.size)) ⟨d,sQ e (List.replicate m z)⟩)=AE true w.heap.size e ((List.replicate m z).map is):=by unfold SR.at_ Slot.val;dsimp only;rw [hd,Bk ID];rfl
 refine ⟨fun b o=>M b o∨b=w.heap.size,⟨_,rfl⟩,EL,?_⟩
 rw [hat]
 refine hI.replace hj EL hb.os hb.tape hb.output (fun k hk _=>hb.block k hk) rfl (fun b o hm _=> .inl hm) (fun b o hx=> ?_) ?_ rfl (fun b hbk=> ?_)
 ·
  rcases hx with hx|hx
  · have:=hI.bd _ _ hx;omega
  · omega
 · exact ⟨fun o=> .inr rfl,List.replicate m z,heap_alloc_new w _,Kh _ _ _,fun c hc=>by rw [List.eq_of_mem_replicate hc];exact h1⟩
 ·
  have ET:some w.heap.size=some b:=hbk
  injection ET with e1
  subst e1
  exact ⟨by rw [hs1];omega,.inr (Nat.le_refl _)⟩
theorem R6 {s:Nat} {op:Op} (h:(Operand.tmp s)∈op.operands.toList) (ho:o.op=op):s∈looks o:=List.mem_filterMap.2 ⟨_,by rw [ho];exact h,rfl⟩
theorem qL {d j s x y:Nat} {T:TypeId} {ps:Value→Value→List Pr} (hg:o.guard=none) (hd:o.dst=some d) (hn:d<n) (ho:o.op= .box T (.tmp s)) (hx:d≠x) (hy:d≠y):
  Di P M0 w0 S n j ⟨.three s x y,jq fun v1 v2=>Jp (agg (ps v1 v2))⟩ ⟨.three d x y,jq fun v1 v2=>FN T (ps v1 v2)⟩ o E (Cp.ex fun b=>ptr b 0):=by
 refine ⟨hg,fun M w a rs hsz he hI hj=> ?_⟩
 have hj':rs[j]? =some (Jp (agg (ps (a.tmps.getD x undef) (a.tmps.getD y undef))) (a.tmps.getD s undef)):=hj
 have hjl:j<rs.length:=by rcases Nat.lt_or_ge j rs.length with h|h;exact h;rw [List.getElem?_eq_none h] at hj';cases hj'
 have hr:=(hI.hold _ (List.mem_of_getElem? hj')).1
 have hI2:At M0 w0 S (rs.set j Bb) M w:=At.CD hI hj' rfl rfl trivial
 have bC:Cd M w ((s,agg (ps (a.tmps.getD x undef) (a.tmps.getD y undef)))::E) o a:=fun c p hc hp=>by
  simp only [List.lookup] at hp
  by_cases hcs:c=s
  · subst hcs;simp only [beq_self_eq_true,Option.some.injEq] at hp;subst hp;exact hr
  · rw [show (c==s)=false by simpa using hcs] at hp;exact he c p hc hp
 have h:=(qE (P:=P) (M0:=M0) (w0:=w0) (S:=S) (n:=n) (j:=j) (T:=T) (ps:=ps (a.tmps.getD x undef) (a.tmps.getD y undef)) (E:=(s,agg (ps (a.tmps.getD x undef) (a.tmps.getD y undef)))::E) hg hd hn ho (VL.le ⟨_,List.lookup_cons_self,Pr.le_refl _⟩ (AW _))).2 M w a _ hsz bC hI2 (by rw [List.getElem?_set_self hjl];rfl)
 have h2:D_ P M0 w0 S o a M w (Cp.ex fun b=>ptr b 0) j ⟨d,FN T (ps (a.tmps.getD x undef) (a.tmps.getD y undef))⟩ rs ((execOp a.eval o).run P w):=by
  revert h
  generalize (execOp a.eval o).run P w=r
  intro h
  cases r with
  |halt x w'=>exact h
  |ok x w'=>
   cases x
   case value v=>simpa only [D_,List.set_set] using h
   case skip=>simpa only [D_,List.set_set] using h
   case enter f args=>simpa only [D_,List.set_set] using h
   all_goals exact h
 refine D_.conv (Pr.le_refl _) (fun v=> ?_) h2
 rw [Xl,hd,BN (Ne.symm hx),BN (Ne.symm hy)];rfl
theorem cZ {t:TypeId} {s y:Tmp} {j:Nat} {T:TypeId} {ps:List Pr} {p:Pr} [One p] (hg:o.guard=none) (hd:o.dst=none) (ho:o.op= .store t (.tmp s) (.tmp y)) (hsy:s≠y) (hx:E.lookup s=some (Cp.ex fun b=>ptr b 0)) (hy:E.lookup y=some p)
  (hz:Au P t=some 1) (hl:ps.length=1):Di P M0 w0 S n j ⟨s,FN T ps⟩ ⟨.two s y,VT fun v=>FN T [Ae v p]⟩ o E any:=by
 refine ⟨hg,fun M w a rs hsz he hI hj=> ?_⟩
 have hyl:y∈looks o:=R6 (op:= .store t (.tmp s) (.tmp y)) (by simp [Op.operands]) ho
 have bC:Cd M w ((y,Ae (a.tmps.getD y undef) p)::E) o a:=fun c q hc hq=>by
  simp only [List.lookup] at hq
  by_cases hcs:c=y
  · subst hcs;simp only [beq_self_eq_true,Option.some.injEq] at hq;subst hq;exact ⟨rfl,he _ p hyl hy⟩
  · rw [show (c==y)=false by simpa using hcs] at hq;exact he c q hc hq
 have h:=(Hs (P:=P) (M0:=M0) (w0:=w0) (S:=S) (n:=n) (j:=j) (T:=T) (ps:=ps) (qs:=[Ae (a.tmps.getD y undef) p]) (E:=(y,Ae (a.tmps.getD y undef) p)::E) hg hd ho Yp (VL.le ⟨_,List.lookup_cons_self,Pr.le_refl _⟩ (AP _)) hz rfl hl).2 M w a rs hsz bC hI hj
 refine D_.conv (Pr.le_refl _) (fun v=> ?_) h
 rw [Ol,hd];rfl
theorem BW.mZ {Q:Exit→Act→World→Prop} {rs:List SR} (s:Nat) {p:Pr} (hs:E.lookup s=some p) (k:∀v,BW n M0 w0 S ((s,Ae v p)::E) rs Q):BW n M0 w0 S E rs Q:=by
 rintro a w ⟨M,g1,g2,g3,g4⟩
 refine k (a.tmps.getD s undef) a w ⟨M,g1,g2,fun c z hz=> ?_,g4⟩
 simp only [List.lookup] at hz
 by_cases hcs:c=s
 · subst hcs;simp only [beq_self_eq_true,Option.some.injEq] at hz;subst hz;exact ⟨rfl,g3 c p hs⟩
 · rw [show (c==s)=false by simpa using hcs] at hz;exact g3 c z hz
theorem BW.fix {Q:Exit→Act→World→Prop} {rs:List SR} (j:Nat) {R:SR} (r:An) (hR:rs[j]? =some R) (hs:∀a:Act,(∃M w,FF M w E a)→R.at_ a=r) (k:BW n M0 w0 S E (rs.set j (SR.c r)) Q):BW n M0 w0 S E rs Q:=by
 rintro a w ⟨M,g1,g2,g3,g4⟩
 refine k a w ⟨M,g1,g2,g3,?_⟩
 have e:=hs a ⟨M,w,g3⟩
 have e3:(rs.set j (SR.c r)).map (·.at_ a)=rs.map (·.at_ a):=by
  apply List.ext_getElem?
  intro m
  rw [List.getElem?_map,List.getElem?_map,List.getElem?_set]
  by_cases him:j=m
  ·
   subst him
   have hjl:j<rs.length:=by rcases Nat.lt_or_ge j rs.length with h|h;exact h;rw [List.getElem?_eq_none h] at hR;cases hR
   rw [if_pos rfl,if_pos hjl,hR]
   show some ((SR.c r).at_ a)=some (R.at_ a)
   rw [e];rfl
  · rw [if_neg him]
 rw [e3];exact g4
theorem ND {M:Av} {w:World} {a:Act} {s:Nat} {v:Value} {p:Pr} (h:FF M w E a) (hs:E.lookup s=some (Ae v p)):a.tmps.getD s undef=v:=(h s _ hs).1
theorem BW.qM {Q:Exit→Act→World→Prop} {rs:List SR} (j s:Nat) {f:Value→An} {v:Value} {p:Pr} (hR:rs[j]? =some ⟨s,f⟩) (hs:E.lookup s=some (Ae v p)) (k:BW n M0 w0 S E (rs.set j (SR.c (f v))) Q):BW n M0 w0 S E rs Q:=
 BW.fix j _ hR (fun a ⟨_,_,h⟩=>by show f (a.tmps.getD s undef)=_;rw [ND h hs]) k
theorem BW.jt {Q:Exit→Act→World→Prop} {rs:List SR} (j d s:Nat) {f:Value→Value→An} {u v:Value} {p q:Pr} (hR:rs[j]? =some ⟨.two d s,VT f⟩) (hd:E.lookup d=some (Ae u p)) (hs:E.lookup s=some (Ae v q)) (k:BW n M0 w0 S E (rs.set j (SR.c (f v u))) Q):BW n M0 w0 S E rs Q:=
 BW.fix j _ hR (fun a ⟨_,_,h⟩=>by rw [Ol,ND h hs,ND h hd]) k
theorem BW.ADr {Q:Exit→Act→World→Prop} {rs:List SR} (j d s t:Nat) {f:Value→Value→Value→An} {u v1 v2:Value} {p q1 q2:Pr} (hR:rs[j]? =some ⟨.three d s t,jq f⟩) (hd:E.lookup d=some (Ae u p)) (hs:E.lookup s=some (Ae v1 q1)) (ht:E.lookup t=some (Ae v2 q2)) (k:BW n M0 w0 S E (rs.set j (SR.c (f v1 v2 u))) Q):BW n M0 w0 S E rs Q:=
 BW.fix j _ hR (fun a ⟨_,_,h⟩=>by rw [Xl,ND h hs,ND h ht,ND h hd]) k
end
section
variable {P:Program} {L:Lg P} {n:Fm} {fz:Nat} {E:Env} {I:CS} {M0:Av} {w0:World} {S:Nat→Prop} {rs:List An} {Q:Exit→Act→World→Prop} {c:Code}
theorem Fin.shape {e:Exit} (s:Nat) {v:Value} (form:Nat→Value) (hs:E.lookup s=some (Ae v (Cp.ex fun b=>is (form b)))) (k:∀b,v=form b→Fin n ((s,is (form b))::E) (Hp M0 w0 S rs) Q e):Fin n E (Hp M0 w0 S rs) Q e:=by
 intro a w hst
 obtain ⟨M,h1,h2,he,h4⟩:=hst
 obtain ⟨h5,b,h6⟩:=he s _ hs
 have hv:v=form b:=by rw [←h5];exact h6
 refine k b hv a w ⟨M,h1,h2,fun c z hz=> ?_,h4⟩
 simp only [List.lookup] at hz
 by_cases hcs:c=s
 · subst hcs;simp only [beq_self_eq_true,Option.some.injEq] at hz;subst hz;exact h6
 · rw [show (c==s)=false by simpa using hcs] at hz;exact he c z hz
theorem Fin.HH {e:Exit} (j:Nat) {r:An} (r':An) (hi:rs[j]? =some r) (h:r=r') (k:Fin n E (Hp M0 w0 S (rs.set j r')) Q e):Fin n E (Hp M0 w0 S rs) Q e:=by
 subst h
 have hjl:j<rs.length:=by rcases Nat.lt_or_ge j rs.length with h|h;exact h;rw [List.getElem?_eq_none h] at hi;cases hi
 have e1:rs.set j r=rs:=by
  apply List.ext_getElem?
  intro m
  rw [List.getElem?_set]
  by_cases him:j=m
  · subst him;rw [if_pos rfl,if_pos hjl,hi]
  · rw [if_neg him]
 rw [e1] at k;exact k
theorem Tr.AAX {α:Type} (ni:α→Fm) (Ei:α→Env) (Ii:α→CS) (C:α→Prop) (μ:α→Nat) (x0:α) (hn:ni x0=n) (h0:C x0) (hs:CE E (Ei x0)) (hI:∀M w,I.h M w→(Ii x0).h M w)
  (k:∀x,C x→Tr L (ni x) (Ei x) (Ii x) c (Exit.then (fun a w=>∃y,(C y∧μ y<μ x)∧St (ni y) (Ei y) (Ii y) a w) Q)):Tr L n E I (.loop c) Q:=by
 intro a w hst
 refine L.loop μ (fun x a w=>C x∧St (ni x) (Ei x) (Ii x) a w) (fun x a w ⟨hc,h⟩=> ?_) x0 a w ⟨h0,?_⟩
 ·
  refine L.mono ?_ (k x hc a w h)
  intro e a w hq
  cases e with
  |normal=>obtain ⟨y,⟨h1,h2⟩,h3⟩:=hq;exact ⟨y,h2,h1,h3⟩
  |_=>exact hq
 · rw [hn];exact hst.sub hs hI
theorem Fin.MK {e:Exit} {rs':List An} (hp:rs.Perm rs') (k:Fin n E (Hp M0 w0 S rs') Q e):Fin n E (Hp M0 w0 S rs) Q e:=fun a w ⟨M,h1,h2,h3,h4⟩=>k a w ⟨M,h1,h2,h3,At.perm hp h4⟩
theorem BR.ofM {f : FuncId} {g : Func} {ps : List Pr} {res : Pr} {R : An} {R' : Value → An} (hf : P.funcs[f]? = some g) (hb : g.body = some c) (hname : (g.name == "runtime.NumGoroutine") = false) (hlen : ps.length ≤ g.ntmps)
  (h:∀M0 w0 S rs M1 w1,Tr (V_ P) g.ntmps (K1 0 ps) (Hp M0 w0 S (R::Ak M1 w1::rs)) c (I4 P g (NY M0 w0 S rs M1 w1 res R'))):BR P f ps res R R':=by
 refine ⟨⟨g,hf,hname,by rw [hb];rfl⟩,fun M0 w0 S rs M w vs hI hv=> ?_⟩
 refine N0 hf hb (h M0 w0 S rs M w _ _ ⟨M,?_,rfl,FZ hv,?_⟩)
 ·
  have:=hv.length
  simp [this];omega
 · exact Wc
end
section
variable {P:Program} {L:Lg P} {n:Fm} {fz:Nat} {E:Env} {I:CS} {M0:Av} {w0:World} {S:Nat→Prop} {rs:List An} {Q:Exit→Act→World→Prop} {c:Code}
abbrev Fj (l D:Nat) (rec:Obj) (M1:Av) (w1:World) (rs:List An):List An:=BB l rec::BB D (.deferred (some []))::Ak M1 w1::rs
theorem Tr.vI {α:Type} {p gf:Nat} {g:Operand} {lb:Array Value} {enc:α→Value} {xs:List α} {own:List α→List An} {assign body:Code} (q:Nat) (K:Env) (hK:CE E K) (R:List α→List An)
  (hIt:MJ P gf lb enc xs own) (eg:Entry P gf) (hg:VL E g (is (.func (.func gf) #[] lb))) (OC:rs.Perm (own []++R [])) (hp:K.lookup p=none) (hpn:p<n.sz)
  (hassign:∀l D rec M1 w1 pre x,(pre++[x])<+:xs→Tr (Zy P (some l)) ⟨n.sz,[]⟩ ((p,is (enc x))::K) (Hp M0 w0 S (own (pre++[x])++Fj l D rec M1 w1 (R pre))) assign (Exit.then (St ⟨n.sz,[]⟩ ((q,is (enc x))::K) (Hp M0 w0 S (own (pre++[x])++Fj l D rec M1 w1 (R pre)))) (fun _ _ _=>False)))
  (hbody : ∀ l D rec M1 w1 pre x, (pre ++ [x]) <+: xs → Tr (Zy P (some l)) ⟨n.sz, []⟩ ((q, is (enc x)) :: K) (Hp M0 w0 S (own (pre ++ [x]) ++ Fj l D rec M1 w1 (R pre))) body
   (Ik M0 w0 S (fun _:Unit=>own (pre++[x])++Fj l D rec M1 w1 (R (pre++[x]))) (fun _ _=>own (pre++[x])++Fj l D rec M1 w1 [B0 False])))
  (hdone:∀l D rec M1 w1,Fin ⟨n.sz,mark D::n.df⟩ E (Hp M0 w0 S (own xs++Fj l D rec M1 w1 (R xs))) Q .normal):
  Tr (V_ P) n E (Hp M0 w0 S rs) (.rangeFunc g #[p] assign body) Q:=by
 refine Tr.jZ (fun x=>(q,is (enc x))::K) (fun pre (_:Unit)=>R pre) (fun _ _ _=>[B0 False]) () hIt (fun args w=>Cz eg args w) hg OC ?_ ?_ (fun l D rec M1 w1 _=>hdone l D rec M1 w1) ?_
 ·
  intro l D rec M1 w1 pre x d hpre a hsz hE M w hI
  have hx:Ext M1 w1 M w:=(hI.hold (Ak M1 w1) AO).1
  refine hassign l D rec M1 w1 pre x hpre _ w ⟨M,by simpa using hsz,rfl,fun s z hq=> ?_,hI⟩
  simp only [List.lookup] at hq
  by_cases hs:s=p
  ·
   subst hs
   simp only [beq_self_eq_true,Option.some.injEq] at hq
   subst hq
   show (a.tmps.setIfInBounds s (enc x)).getD s undef=enc x
   simp [Array.getD_eq_getD_getElem?,hsz,hpn]
  ·
   rw [show (s==p)=false by simpa using hs] at hq
   obtain ⟨z',G8,S2⟩:=hK.spec s z hq
   have h2:=z.st _ _ _ _ _ hx (S2 _ _ _ (hE s z' G8))
   show z.h M w ((a.tmps.setIfInBounds p (enc x)).getD s undef)
   have e1:(a.tmps.setIfInBounds p (enc x)).getD s undef=a.tmps.getD s undef:=by
    simp only [Array.getD_eq_getD_getElem?]
    rw [Array.getElem?_setIfInBounds_ne (fun e=>hs e.symm)]
   rw [e1];exact h2
 ·
  intro l D rec M1 w1 pre x d hpre
  exact hbody l D rec M1 w1 pre x hpre
 ·
  intro l D rec M1 w1 c pre d hpre a w ⟨M,_,_,_,h⟩
  have h:At M0 w0 S (own pre++Fj l D rec M1 w1 [B0 False]) M w:=h
  exact ((h.hold (B0 False) AO).1).elim
theorem Fin.st {E1:Env} {Q':Exit→Act→World→Prop} (hs:CE E E1):Fin n E I (Exit.then (St n E1 I) Q') .normal:=fun _ _ h=>h.sub hs (fun _ _ h=>h)
theorem Fin.rnd {β:Type} {rr:β→List An} {rx:Code→β→List An} (d:β) (hp:rs.Perm (rr d)):Fin n E (Hp M0 w0 S rs) (Ik M0 w0 S rr rx) .normal:=fun _ _ ⟨M,_,_,_,h⟩=>⟨d,M,At.perm hp h⟩
theorem Tr.vJ {α β:Type} (K:Env) (hK:CE E K) (ni:α→β→Fm) (Ei:α→β→Env) (Ii:α→β→CS) (C:α→β→Prop) (μ:α→β→Nat) (x0:α) (y0:β) (hn:ni x0 y0=n) (h0:C x0 y0) (hs:CE E (Ei x0 y0)) (hI:∀M w,I.h M w→(Ii x0 y0).h M w)
  (k:∀x y,C x y→Tr L (ni x y) (Ei x y++K) (Ii x y) c (Exit.then (fun a w=>∃x' y',(C x' y'∧μ x' y'<μ x y)∧St (ni x' y') (Ei x' y'++K) (Ii x' y') a w) Q)):Tr L n E I (.loop c) Q:=
 Tr.AAX (fun p : α × β => ni p.1 p.2) (fun p => Ei p.1 p.2 ++ K) (fun p => Ii p.1 p.2) (fun p => C p.1 p.2) (fun p => μ p.1 p.2) (x0, y0) hn h0 (Lt hs hK) hI
  fun ⟨x,y⟩ hC a w hst=>L.mono (fun e a w hq=>by
   cases e with
   |normal=>obtain ⟨x',y',h1,h2⟩:=hq;exact ⟨(x',y'),h1,h2⟩
   |_=>exact hq) (k x y hC a w hst)
theorem Fin.AAY {α β:Type} {ni:α→β→Fm} {E1:α→β→Env} {I1:α→β→CS} {C:α→β→Prop} (i:α) (j:β) (hn:ni i j=n) (hC:C i j) (hs:CE E (E1 i j)) (hI:∀M w,I.h M w→(I1 i j).h M w):Fin n E I (Exit.then (fun a w=>∃x y,C x y∧St (ni x y) (E1 x y) (I1 x y) a w) Q) .normal:=
 fun _ _ hst=>⟨i,j,hC,by rw [hn];exact hst.sub hs hI⟩
end
section
variable {P:Program} {fz:Nat} {E:Env} {M0 M1:Av} {w0 w1:World} {S:Nat→Prop} {g:Func} {α β:Type} {xs:List α} {own:List α→List An} {R Rx:List α→β→List An}
theorem Fin.AAZ {d:β} (hr:g.results= #[]):Fin ⟨fz,[]⟩ E (Hp M0 w0 S (own xs++Ak M1 w1::R xs d)) (I4 P g fun e w'=>(∃v,e= .returned v)∧∃M' d',Ext M1 w1 M' w'∧(At M0 w0 S (own xs++R xs d') M' w'∨∃pre,pre<+:xs∧At M0 w0 S (own pre++Rx pre d') M' w')) .normal:=by
 refine Fin.vA (Fin.R5 ?_)
 rintro a w ⟨M,_,hd,he,hi⟩
 obtain ⟨h1,h2⟩:=Ht hi
 exact ⟨hd,_,results0 hr,⟨_,rfl⟩,M,d,h1,.inl h2⟩
theorem Fin.vK {d:β} {pre:List α} (hr:g.results= #[]) (hp:pre<+:xs):Fin ⟨fz,[]⟩ E (Hp M0 w0 S (own pre++Ak M1 w1::Rx pre d)) (I4 P g fun e w'=>(∃v,e= .returned v)∧∃M' d',Ext M1 w1 M' w'∧(At M0 w0 S (own xs++R xs d') M' w'∨∃pre,pre<+:xs∧At M0 w0 S (own pre++Rx pre d') M' w')) .ret:=by
 refine Fin.R5 ?_
 rintro a w ⟨M,_,hd,he,hi⟩
 obtain ⟨h1,h2⟩:=Ht hi
 exact ⟨hd,_,results0 hr,⟨_,rfl⟩,M,d,h1,.inr ⟨pre,hp,h2⟩⟩
theorem BR.vL {f:FuncId} {args:List Pr} {form:Nat→Value} {r':Value→An} (h:E2 P f args [] (fun _=>True) (fun b=>is (form b)) (fun b=>[r' (form b)])):BR P f args (Cp.ex fun b=>is (form b)) Bb r':=by
 refine ⟨h.1,fun M0 w0 S rs M w vs hI hv=>(h.2 M0 w0 S rs M w vs (At.Iv hI) hv).mono ?_⟩
 rintro e w' ⟨v,M',b,rfl,_,h1,h2,h3⟩
 obtain rfl:v=form b:=h1
 exact ⟨_,M',rfl,⟨b,rfl⟩,h2,h3⟩
end
end Cp
