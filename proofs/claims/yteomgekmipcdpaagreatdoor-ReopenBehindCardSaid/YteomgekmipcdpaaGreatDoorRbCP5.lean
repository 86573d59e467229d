/-
  Part 5 of the texts that prove this claim, merged.
-/
import Derived.RangeFuncFrom
import Derived.RangeFuncLeaves
import Derived.OrdersIn
import Derived.Test.YteomgekmipcdpaaGreatDoorRbCP4
set_option linter.all false
set_option maxRecDepth 40000
set_option maxHeartbeats 16000000
namespace Go.Proofs.YteomgekmipcdpaaGreatDoor
open Go Go.RowKit Cp Go.Proofs.Tryz
variable {nm:List UInt8} {b k n:Nat}
structure ChS (l:List Jh):Prop where
 fits:∀c∈l,c.fits
 small:(⟨0,0,0,l⟩:Ju).small
abbrev chE:Pr:=Cp.ex fun l:List Jh=>fact (ChS l) (O3 l)
abbrev EO (c:Bl):List Pr:=[int c.AZ,int c.kind,int c.number,int c.at_,int c.DM.B8,int c.DM.bits,int c.DM.CW,chE]
structure wA (es:List CF) (c:Bl):Prop where
 lo:0≤c.AZ
 hi:c.AZ<(es.length:Nat)
 kind:1≤c.kind∧c.kind≤12
def Im (es:List CF) (l:List Bl):Prop:=∀c∈l,wA es c
theorem Im.snoc {es:List CF} {l:List Bl} {c:Bl} (h:Im es l) (hc:wA es c):Im es (l++[c]):=by
 intro x hx
 rcases List.mem_append.1 hx with hx|hx
 · exact h x hx
 · simp at hx;subst hx;exact hc
theorem Im.two {es:List CF} {l:List Bl} {c d:Bl} (h:Im es l) (hc:wA es c) (hd:wA es d):Im es (l++[c,d]):=by
 intro x hx
 rcases List.mem_append.1 hx with hx|hx
 · exact h x hx
 · simp at hx;rcases hx with rfl|rfl;exact hc;exact hd
theorem Im.perm {es:List CF} {l m:List Bl} (hp:m.Perm l) (h:Im es l):Im es m:=fun c hc=>h c (hp.mem_iff.1 hc)
theorem Im.take {es:List CF} {l:List Bl} (h:Im es l):Im es (l.take n):=fun c hc=>h c (List.mem_of_mem_take hc)
theorem wB:ChS []:=⟨(fun c h=>by cases h),⟨by show 0≤_;omega,(fun c hc=>by cases hc)⟩⟩
theorem NW:Pr.le (is (.slice none 0 0)) chE:=As [] (Ar wB (AM 15))
theorem wC (h:nm∈Ft) {a b id key:Int}:Pr.le (AA2 nm a b id 901 key) chE:=by
 rintro M w v ⟨s,hs,hv⟩
 have hf:=AFq (a:=a) (b:=b) (id:=id) (key:=key) (s:=s) h
 exact ⟨_,⟨hf.1,⟨hf.2.chain,hf.2.names⟩⟩,hv⟩
theorem oK {a b id to key:Int}:(yx nm a b id to key).le (agg [int a,int b,int id,AA2 nm a b id to key]):=by
 rintro M w v ⟨s,hs,hv⟩
 exact BP (ps:=Ig (Hz nm a b id to key s)) (qs:=[int a,int b,int id,AA2 nm a b id to key]) ⟨Pr.le_refl _,Pr.le_refl _,Pr.le_refl _,fun M w v h=>⟨s,hs,h⟩,trivial⟩ M w v hv
theorem oQ (c:Bl) (M:Av) (w:World) (ad:Addr) (n:Nat) (h:Row M w ad n (EO c)):∃b:Bl,(b.AZ=c.AZ∧b.kind=c.kind∧b.number=c.number∧b.at_=c.at_∧ChS b.DM.chain)∧Row M w ad n (FI b):=by
 obtain ⟨ch,h1⟩:=v_ (ps:=[int c.AZ,int c.kind,int c.number,int c.at_,int c.DM.B8,int c.DM.bits,int c.DM.CW]) h
 obtain ⟨h2,h3⟩:=iK (ps:=[int c.AZ,int c.kind,int c.number,int c.at_,int c.DM.B8,int c.DM.bits,int c.DM.CW]) h1
 exact ⟨⟨c.AZ,c.kind,c.number,c.at_,⟨c.DM.B8,c.DM.bits,c.DM.CW,ch⟩⟩,⟨rfl,rfl,rfl,rfl,h2⟩,h3⟩
structure AFw (es:List CF) (l:List Bl):Prop where
 len:l.length≤7
 any:∀c∈l,AJ2 es c
theorem V5 {es:List CF} {ms:List Bl} (h:Im es ms) (hl:ms.length≤7):Pr.le (slice 8 (ms.map EO)) (Cp.ex fun l:List Bl=>fact (AFw es l) (slice 8 (l.map FI))):=by
 intro M w v hv
 obtain ⟨l,⟨h1,h2⟩,h3⟩:=Z7 oQ (fun _=>rfl) (fun _=>rfl) ms M w v hv
 refine ⟨l,⟨by omega,fun c hc=> ?_⟩,h3⟩
 obtain ⟨i,hi⟩:=List.getElem?_of_mem hc
 obtain ⟨a,ha⟩:=at_ (l:=ms) (k:=i) (by have:=BZ hi;omega)
 obtain ⟨g1,g2,g3,g4,g5⟩:=h2 i a c ha hi
 have hm:=h a (List.mem_of_getElem? ha)
 exact ⟨by rw [g1];exact hm.lo,by rw [g1];exact hm.hi,by rw [g2];exact hm.kind,g5.fits,⟨g5.small.chain,g5.small.names⟩⟩
theorem wD {s:DS} {e:Dg} (hs:nY e.Bw) (hl:1≤e.Bw.length∧e.Bw.length≤3):Ba prog 18 [ptr b 0,agg (CJ e)] (Cp.ex fun l:List Bl=>fact (AFw e.Bw l) (slice 8 (l.map FI))) (DA b s) (fun _=>ID 60 b):=by
 refine Ba.of func18 rfl rfl Am fun M0 w0 S rs M1 w1=> ?_
 refine Tr.seq (Tr.Bq (co rfl (Bv rfl (Va rfl)) (cm rfl (Ch.nil (Fin.go (Tr.seq (Tr.Bq (cm rfl (Ch.nil (Fin.go (Tr.seq (Tr.BI (tm rfl ?_)))))))))))))
 refine TO.FL 0 rfl rfl AD (Ak rfl rfl AD rfl (CV AA AA) ⟨ke rfl,ke rfl,trivial⟩) (tp rfl (ki rfl rfl rfl rfl) (tm rfl (TO.FL 0 rfl rfl AD (Ak rfl rfl AD rfl (CV AA AA) ⟨ke rfl,ke rfl,trivial⟩) (tp rfl (ki rfl rfl rfl rfl) (tm rfl (TO.FL 0 rfl rfl AD (Ak rfl rfl AD rfl (CV AA AA) ⟨ke rfl,ke rfl,trivial⟩) (tp rfl (ki rfl rfl rfl rfl) (tm rfl (tm rfl (tm rfl (TO.nil (Fin.go (wk6 0 3 5 6 7 8 rfl (Tr.seq ?_))))))))))))))
 refine Tr.seq (Tr.Bq (co rfl (kfa rfl RP rfl rfl) (co rfl (JA rfl dM rfl) (co rfl (E_ rfl underlying27 (vl rfl)) (cm rfl (Ch.nil (Fin.go (Tr.block (Tr.Rh 116 8 (Tr.E6 [(0,_),(6,_),(7,_),(8,_),(23,_),(24,_)] ⟨ke rfl,ke rfl,ke rfl,ke rfl,ke rfl,ke rfl,trivial⟩ (fun (k:Nat) (ms:List Bl) (s2:DS) v=>[(25,int ((k:Nat):Int)),(5,Ag v (lens (ms.map EO).length))]) (fun (k:Nat) (ms:List Bl) (s2:DS) v=>Hp M0 w0 S (BX 116 8 (ms.map EO) v::DA b s2::Ac M1 w1::rs)) (fun (k:Nat) (ms:List Bl) (s2:DS)=>k≤e.Bw.length∧ms.length≤6*k∧Im e.Bw ms) (fun (k:Nat) (ms:List Bl) (s2:DS)=>e.Bw.length-k) (0) ([]) (_) (.slice none 0 0) (⟨Nat.zero_le _,by simp,fun c hc=>by simp at hc⟩) ⟨ke rfl,⟨_,rfl,NH (by rfl)⟩,trivial⟩ (fun _ _ h=>h) ?_))))))))))
 rintro k ms s2 v ⟨hk1,AK4,UG⟩
 refine Tr.seq (Tr.Bq (co rfl (ki rfl rfl rfl rfl) (Ch.nil (Fin.go (Tr.seq ?_)))))
 refine Tr.cn rfl ?_ ?_<;>intro h1 q1
 have Ae:k<e.Bw.length:=by have:=FM.Gp h1;omega
 obtain ⟨x,Af⟩:=at_ Ae
 have hse:=hs k x Af
 have hnm:=List.mem_of_getElem? hse.name
 refine Tr.skip (Fin.go (Tr.seq (Tr.block (Tr.seq (Tr.BI (tm rfl (tp rfl (AB rfl underlying27 Bj (vl rfl) (vl rfl) AA (Ad Af)) (tp rfl (Al rfl CK Bj (vl rfl) rfl rfl) ?_))))))))
 refine Tl rfl rfl rfl rfl IF Fj (fun b1=> ?_)
 refine tm rfl (TO.AV 0 rfl rfl rfl (vl rfl) (Va rfl) rfl Bj rfl rfl (TO.freeze 0 10 rfl rfl (TO.nil (Fin.go (ZW 0 5 6 7 8 9 10 23 24 25 rfl (Tr.QC [(0,_),(6,_),(7,_),(8,_),(9,_),(10,_),(23,_),(24,_),(25,_)] ⟨ke rfl,ke rfl,ke rfl,ke rfl,ke rfl,ke rfl,ke rfl,ke rfl,ke rfl,trivial⟩ (fun (m1:List Bl) (s3:DS) v1=>[(5,Ag v1 (lens (m1.map EO).length))]) (fun (m1:List Bl) (s3:DS) v1=>Hp M0 w0 S (BX 116 8 (m1.map EO) v1::DA b s3::Ac M1 w1::rs)) (fun (m1:List Bl) (s3:DS)=>m1.length≤6*k+1∧Im e.Bw m1) ?_ ?_))))))
 refine Tr.seq (Tr.Bq (cm rfl (cm rfl ?_)))
 refine Ch.cs 31 rfl ?_ ?_<;>intro h2 q2
 refine cy h2 rfl (kfa rfl P_ rfl rfl) (cy h2 rfl (JA rfl dL rfl) (cy h2 rfl (AY rfl (QV) ⟨ke rfl,ke rfl,trivial⟩) (cy h2 rfl (L3 rfl (vl rfl)) (co rfl (Wh rfl rfl h2 rfl) (Ch.nil (Fin.go (PT 0 5 6 7 8 9 10 23 24 25 36 rfl ?_)))))))
 refine Tr.cn rfl ?_ ?_<;>intro h3 q3
 have PO:=s2.DF (n:=2) AA
 refine Tr.BI (tm rfl (tm rfl (tm rfl (TO.FL 1 rfl rfl AD (Ak rfl rfl AD rfl (CV AA AA) ⟨ke rfl,ke rfl,trivial⟩) (tp rfl (Au (rows:=[(0,[_]),(1,[_]),(2,[_]),(3,[_])]) rfl Tx Hv ⟨⟨rfl,(Vo rfl)⟩,⟨⟨rfl,(Vo rfl)⟩,⟨⟨rfl,(Vo rfl)⟩,⟨⟨rfl,(Vo rfl)⟩,trivial⟩⟩⟩⟩ rfl) (tp rfl (Aa (xs:=[.tmp 41]) (rows:=[EO ⟨((k:Nat):Int),1,12,s2.val 2,⟨0,0,0,[]⟩⟩]) rfl rfl underlying32 Cg z116 rfl AD ⟨⟨Ao,VL.le (vl rfl) (Pr.le_trans (BP (qs:=EO _) ⟨Lr,Lr,Lr,Lr,Lr,Lr,Lr,NW,trivial⟩) (Ah _))⟩,trivial⟩ AD) ?_))))))
 refine TO.C1 0 rfl rfl AD (Ex rfl rfl AD rfl underlying32 Cg Tw z116 rfl AD AD (vl rfl) (Kf rfl) (Bh fun _=>rfl) (Nat.zero_lt_succ _) Nv Nx) (fun v1=> ?_)
 refine tm rfl (TO.nil ?_)
 exact Fin.Bg (ms++[⟨((k:Nat):Int),1,12,s2.val 2,⟨0,0,0,[]⟩⟩]) (_) v1 (⟨by simp;omega,UG.snoc ⟨by show 0≤((k:Nat):Int);omega,by show ((k:Nat):Int)<_;omega,by dsimp only;omega⟩⟩) ⟨⟨_,rfl,Ci AR⟩,ke rfl,ke rfl,ke rfl,ke rfl,ke rfl,ke rfl,ke rfl,ke rfl,ke rfl,trivial⟩ (fun _ _ h=>Mo)
 refine Tr.skip (Fin.Bg (ms) (_) v (⟨by omega,UG⟩) ⟨⟨_,rfl,Ci AR⟩,ke rfl,ke rfl,ke rfl,ke rfl,ke rfl,ke rfl,ke rfl,ke rfl,ke rfl,trivial⟩ (fun _ _ h=>h))
 iterate 4 refine cnt h2 rfl ?_
 refine co rfl (dI rfl rfl h2 rfl) (Ch.nil (Fin.go (PT 0 5 6 7 8 9 10 23 24 25 36 rfl (Tr.cond rfl (fun h=>nomatch h) (fun _=> ?_)))))
 refine Tr.skip (Fin.Bg (ms) (_) v (⟨by omega,UG⟩) ⟨⟨_,rfl,Ci AR⟩,ke rfl,ke rfl,ke rfl,ke rfl,ke rfl,ke rfl,ke rfl,ke rfl,ke rfl,trivial⟩ (fun _ _ h=>h))
 rintro m1 s3 v1 ⟨AK5,oV⟩
 refine Tr.QC [(0,_),(6,_),(7,_),(8,_),(9,_),(10,_),(23,_),(24,_),(25,_)] ⟨ke rfl,ke rfl,ke rfl,ke rfl,ke rfl,ke rfl,ke rfl,ke rfl,ke rfl,trivial⟩ (fun (m2:List Bl) (s4:DS) v2=>[(5,Ag v2 (lens (m2.map EO).length))]) (fun (m2:List Bl) (s4:DS) v2=>Hp M0 w0 S (BX 116 8 (m2.map EO) v2::DA b s4::Ac M1 w1::rs)) (fun (m2:List Bl) (s4:DS)=>m2.length≤6*k+2∧Im e.Bw m2) ?_ ?_
 refine Tr.seq (Tr.Bq (cm rfl (cm rfl ?_)))
 refine Ch.cs 45 rfl ?_ ?_<;>intro h4 q4
 refine OB h4 rfl (cy h4 rfl (ki rfl rfl rfl rfl) (co rfl (Wh rfl rfl h4 rfl) (Ch.nil (Fin.go (PT 0 5 6 7 8 9 10 23 24 25 48 rfl ?_)))))
 refine Tr.cn rfl ?_ ?_<;>intro h5 q5
 refine Tr.BI (tm rfl (tm rfl (tp rfl (Au (rows:=[(0,[_]),(1,[_]),(2,[_])]) rfl Tx Hv ⟨⟨rfl,(Vo rfl)⟩,⟨⟨rfl,(Vo rfl)⟩,⟨⟨rfl,(Vo rfl)⟩,trivial⟩⟩⟩ rfl) (tp rfl (Aa (xs:=[.tmp 51]) (rows:=[EO ⟨((k:Nat):Int),7,2,0,⟨0,0,0,[]⟩⟩]) rfl rfl underlying32 Cg z116 rfl AD ⟨⟨Ao,VL.le (vl rfl) (Pr.le_trans (BP (qs:=EO _) ⟨Lr,Lr,Lr,Lr,Lr,Lr,Lr,NW,trivial⟩) (Ah _))⟩,trivial⟩ AD) ?_))))
 refine TO.C1 0 rfl rfl AD (Ex rfl rfl AD rfl underlying32 Cg Tw z116 rfl AD AD (vl rfl) (Kf rfl) (Bh fun _=>rfl) (Nat.zero_lt_succ _) Nv Nx) (fun v2=> ?_)
 refine tm rfl (TO.nil ?_)
 exact Fin.Bg (m1++[⟨((k:Nat):Int),7,2,0,⟨0,0,0,[]⟩⟩]) (_) v2 (⟨by simp;omega,oV.snoc ⟨by show 0≤((k:Nat):Int);omega,by show ((k:Nat):Int)<_;omega,by dsimp only;omega⟩⟩) ⟨⟨_,rfl,Ci AR⟩,ke rfl,ke rfl,ke rfl,ke rfl,ke rfl,ke rfl,ke rfl,ke rfl,ke rfl,trivial⟩ (fun _ _ h=>Mo)
 refine Tr.skip (Fin.Bg (m1) (_) v1 (⟨by omega,oV⟩) ⟨⟨_,rfl,Ci AR⟩,ke rfl,ke rfl,ke rfl,ke rfl,ke rfl,ke rfl,ke rfl,ke rfl,ke rfl,trivial⟩ (fun _ _ h=>h))
 refine cnt h4 rfl (cnt h4 rfl (co rfl (dI rfl rfl h4 rfl) (Ch.nil (Fin.go (PT 0 5 6 7 8 9 10 23 24 25 48 rfl (Tr.cond rfl (fun h=>nomatch h) (fun _=> ?_)))))))
 refine Tr.skip (Fin.Bg (m1) (_) v1 (⟨by omega,oV⟩) ⟨⟨_,rfl,Ci AR⟩,ke rfl,ke rfl,ke rfl,ke rfl,ke rfl,ke rfl,ke rfl,ke rfl,ke rfl,trivial⟩ (fun _ _ h=>h))
 rintro m2 s4 v2 ⟨AK6,oW⟩
 refine Tr.QC [(0,_),(6,_),(7,_),(8,_),(9,_),(10,_),(23,_),(24,_),(25,_)] ⟨ke rfl,ke rfl,ke rfl,ke rfl,ke rfl,ke rfl,ke rfl,ke rfl,ke rfl,trivial⟩ (fun (m3:List Bl) (s5:DS) v3=>[(5,Ag v3 (lens (m3.map EO).length))]) (fun (m3:List Bl) (s5:DS) v3=>Hp M0 w0 S (BX 116 8 (m3.map EO) v3::DA b s5::Ac M1 w1::rs)) (fun (m3:List Bl) (s5:DS)=>m3.length≤6*k+3∧Im e.Bw m3) ?_ ?_
 refine Tr.seq (Tr.Bq (cm rfl (cm rfl ?_)))
 refine Ch.cs 55 rfl ?_ ?_<;>intro h6 q6
 refine OB h6 rfl (cy h6 rfl (ki rfl rfl rfl rfl) (co rfl (Wh rfl rfl h6 rfl) (Ch.nil (Fin.go (PT 0 5 6 7 8 9 10 23 24 25 58 rfl ?_)))))
 refine Tr.cn rfl ?_ ?_<;>intro h7 q7
 have hof:=s4.RL (l:=[2,1]) AR
 simp at hof
 refine Tr.pad (Tr.zZ mixed [none,none,none,none,none,none,none,some (0,2,true,0),none,none,none,none,none,none,some (0,1,true,73),some (73,1,true,5)] CS (xm rfl (xm rfl (xo rfl (fun _=>kfa rfl dO rfl rfl) (xo rfl (fun _=>JA rfl Ge rfl) (xo rfl (fun _=>AY rfl (AJ0) trivial) (xm rfl (xo rfl (fun _=>Aa (xs:=[.const (.int .i64 (2)),.const (.int .i64 (1))]) (rows:=[[_],[_]]) rfl rfl underlying22 BJ z3 rfl AD ⟨⟨Ao,(Vo rfl)⟩,⟨⟨Ao,(Vo rfl)⟩,trivial⟩⟩ AD) ?_))))))))
 refine Cx.ef 2 rfl rfl AD (Ak rfl rfl AD rfl (XR (l:=[2,1]) AR AR) ⟨ke rfl,(Kf rfl),trivial⟩) ?_
 refine xo rfl (fun _=>AY rfl (Zt (name:=x.name) (a:=7) (b:=256) (id:=201) (to:=901) (key:=s4.of [2,1]) (AFo hnm (.inr ⟨rfl,rfl⟩) AA AA AA) (AFp (.inr ⟨rfl,rfl⟩) AA) AA) ⟨ke rfl,ke rfl,ke rfl,ke rfl,ke rfl,trivial⟩) ?_
 refine xo rfl (fun _=>kfa rfl VN rfl rfl) (xo rfl (fun _=>JA rfl l_ rfl) (xo rfl (fun _=>E_ rfl underlying100 (vl rfl)) (xo rfl (fun _=>Au (rows:=[(0,[_]),(1,[_]),(4,_),(3,[_])]) rfl Tx Hv ⟨⟨rfl,(Vo rfl)⟩,⟨⟨rfl,(Vo rfl)⟩,⟨⟨rfl,⟨_,rfl,Pr.le_trans (oK) (Ah _)⟩⟩,⟨⟨rfl,(Vo rfl)⟩,trivial⟩⟩⟩⟩ rfl) (xo rfl (fun _=>Aa (xs:=[.tmp 71]) (rows:=[EO ⟨((k:Nat):Int),5,0,((x.ids.length:Nat):Int),⟨7,256,201,[]⟩⟩]) rfl rfl underlying32 Cg z116 rfl AD ⟨⟨Ao,VL.le (vl rfl) (Pr.le_trans (BP (qs:=EO _) ⟨Lr,Lr,Lr,Lr,Lr,Lr,Lr,wC hnm,trivial⟩) (Ah _))⟩,trivial⟩ AD) ?_))))
 refine Cx.ef 1 rfl rfl AD (Ex rfl rfl AD rfl underlying32 Cg Tw z116 rfl AD AD (vl rfl) (Kf rfl) (Bh fun _=>rfl) (Nat.zero_lt_succ _) Nv Nx) ?_
 refine Cx.ef 1 rfl rfl AD (VG rfl rfl AD rfl (vl rfl)) ?_
 refine Cx.nil ⟨rfl,?_⟩
 refine BE.open_ 1 5 rfl rfl (fun v3=> ?_)
 refine BE.done (EK.cons (EK.cons (EK.cons (EK.cons (EK.map _))))) (Fin.drop 0 ?_)
 exact Fin.Bg (m2++[⟨((k:Nat):Int),5,0,((x.ids.length:Nat):Int),⟨7,256,201,[]⟩⟩]) (_) v3 (⟨by simp;omega,oW.snoc ⟨by show 0≤((k:Nat):Int);omega,by show ((k:Nat):Int)<_;omega,by dsimp only;omega⟩⟩) ⟨⟨_,rfl,Ci AR⟩,ke rfl,ke rfl,ke rfl,ke rfl,ke rfl,ke rfl,ke rfl,ke rfl,ke rfl,trivial⟩ (fun _ _ h=>Mo)
 refine Tr.skip (Fin.Bg (m2) (_) v2 (⟨by omega,oW⟩) ⟨⟨_,rfl,Ci AR⟩,ke rfl,ke rfl,ke rfl,ke rfl,ke rfl,ke rfl,ke rfl,ke rfl,ke rfl,trivial⟩ (fun _ _ h=>h))
 refine cnt h6 rfl (cnt h6 rfl (co rfl (dI rfl rfl h6 rfl) (Ch.nil (Fin.go (PT 0 5 6 7 8 9 10 23 24 25 58 rfl (Tr.cond rfl (fun h=>nomatch h) (fun _=> ?_)))))))
 refine Tr.skip (Fin.Bg (m2) (_) v2 (⟨by omega,oW⟩) ⟨⟨_,rfl,Ci AR⟩,ke rfl,ke rfl,ke rfl,ke rfl,ke rfl,ke rfl,ke rfl,ke rfl,ke rfl,trivial⟩ (fun _ _ h=>h))
 rintro m3 s5 v3 ⟨AK7,eW⟩
 refine Tr.QC [(0,_),(6,_),(7,_),(8,_),(9,_),(10,_),(23,_),(24,_),(25,_)] ⟨ke rfl,ke rfl,ke rfl,ke rfl,ke rfl,ke rfl,ke rfl,ke rfl,ke rfl,trivial⟩ (fun (m4:List Bl) (s6:DS) v4=>[(5,Ag v4 (lens (m4.map EO).length))]) (fun (m4:List Bl) (s6:DS) v4=>Hp M0 w0 S (BX 116 8 (m4.map EO) v4::DA b s6::Ac M1 w1::rs)) (fun (m4:List Bl) (s6:DS)=>m4.length≤6*k+4∧Im e.Bw m4) ?_ ?_
 refine Tr.seq (Tr.BI (tm rfl (tm rfl ?_)))
 refine TO.cases 75 rfl (fun h8=> ?_) (fun h8=> ?_)
 have q8:=FM.Gp h8
 refine TO.PV rfl rfl rfl h8 rfl AD (kfa rfl P_ rfl rfl) (TO.PV rfl rfl rfl h8 rfl AD (JA rfl dL rfl) (TO.PV rfl rfl rfl h8 rfl AD (AY rfl (QV) ⟨ke rfl,ke rfl,trivial⟩) (tp rfl (Wh rfl rfl h8 rfl) (tm rfl ?_))))
 refine TO.cases 80 rfl (fun h9=> ?_) (fun h9=> ?_)
 have q9:=FM.Gp h9
 refine TO.PV rfl rfl rfl h9 rfl AD (DD rfl (vl rfl)) (TO.AEl 1 rfl rfl rfl h9 rfl rfl AD (Ak rfl rfl AD rfl (CV AA AA) ⟨ke rfl,ke rfl,trivial⟩) (TO.PV rfl rfl rfl h9 rfl AD (ki rfl rfl rfl rfl) (tp rfl (Wh rfl rfl h9 rfl) (TO.nil (Fin.go (PT 0 5 6 7 8 9 10 23 24 25 84 rfl ?_))))))
 refine Tr.cn rfl ?_ ?_<;>intro h10 O2
 refine Tr.BI (tm rfl (tm rfl (tp rfl (Au (rows:=[(0,[_]),(1,[_]),(2,[_])]) rfl Tx Hv ⟨⟨rfl,(Vo rfl)⟩,⟨⟨rfl,(Vo rfl)⟩,⟨⟨rfl,(Vo rfl)⟩,trivial⟩⟩⟩ rfl) (tp rfl (Aa (xs:=[.tmp 87]) (rows:=[EO ⟨((k:Nat):Int),2,2,0,⟨0,0,0,[]⟩⟩]) rfl rfl underlying32 Cg z116 rfl AD ⟨⟨Ao,VL.le (vl rfl) (Pr.le_trans (BP (qs:=EO _) ⟨Lr,Lr,Lr,Lr,Lr,Lr,Lr,NW,trivial⟩) (Ah _))⟩,trivial⟩ AD) ?_))))
 refine TO.C1 0 rfl rfl AD (Ex rfl rfl AD rfl underlying32 Cg Tw z116 rfl AD AD (vl rfl) (Kf rfl) (Bh fun _=>rfl) (Nat.zero_lt_succ _) Nv Nx) (fun v4=> ?_)
 refine tm rfl (TO.nil ?_)
 exact Fin.Bg (m3++[⟨((k:Nat):Int),2,2,0,⟨0,0,0,[]⟩⟩]) (_) v4 (⟨by simp;omega,eW.snoc ⟨by show 0≤((k:Nat):Int);omega,by show ((k:Nat):Int)<_;omega,by dsimp only;omega⟩⟩) ⟨⟨_,rfl,Ci AR⟩,ke rfl,ke rfl,ke rfl,ke rfl,ke rfl,ke rfl,ke rfl,ke rfl,ke rfl,trivial⟩ (fun _ _ h=>Mo)
 refine Tr.skip (Fin.Bg (m3) (_) v3 (⟨by omega,eW⟩) ⟨⟨_,rfl,Ci AR⟩,ke rfl,ke rfl,ke rfl,ke rfl,ke rfl,ke rfl,ke rfl,ke rfl,ke rfl,trivial⟩ (fun _ _ h=>h))
 have q9:=FM.Gp h9
 refine TO.Wk rfl rfl rfl (Bb h9) rfl AD (TO.Wk rfl rfl rfl (Bb h9) rfl AD (TO.Wk rfl rfl rfl (Bb h9) rfl AD (tp rfl (dI rfl rfl h9 rfl) (TO.nil (Fin.go (PT 0 5 6 7 8 9 10 23 24 25 84 rfl (Tr.cond rfl (fun h=>nomatch h) (fun _=> ?_))))))))
 refine Tr.skip (Fin.Bg (m3) (_) v3 (⟨by omega,eW⟩) ⟨⟨_,rfl,Ci AR⟩,ke rfl,ke rfl,ke rfl,ke rfl,ke rfl,ke rfl,ke rfl,ke rfl,ke rfl,trivial⟩ (fun _ _ h=>h))
 have q8:=FM.Gp h8
 refine TO.Wk rfl rfl rfl (Bb h8) rfl AD (TO.Wk rfl rfl rfl (Bb h8) rfl AD (TO.Wk rfl rfl rfl (Bb h8) rfl AD (tp rfl (dI rfl rfl h8 rfl) (tm rfl (TO.Wk rfl rfl rfl (Bb rfl) rfl AD (TO.Wk rfl rfl rfl (Bb rfl) rfl AD (TO.Wk rfl rfl rfl (Bb rfl) rfl AD (tp rfl (dI rfl rfl rfl rfl) (TO.nil (Fin.go (PT 0 5 6 7 8 9 10 23 24 25 84 rfl (Tr.cond rfl (fun h=>nomatch h) (fun _=> ?_)))))))))))))
 refine Tr.skip (Fin.Bg (m3) (_) v3 (⟨by omega,eW⟩) ⟨⟨_,rfl,Ci AR⟩,ke rfl,ke rfl,ke rfl,ke rfl,ke rfl,ke rfl,ke rfl,ke rfl,ke rfl,trivial⟩ (fun _ _ h=>h))
 rintro m4 s6 v4 ⟨AK8,oX⟩
 refine Tr.seq (Tr.Bq (cm rfl (cm rfl ?_)))
 refine Ch.cs 91 rfl ?_ ?_<;>intro h11 Rz
 refine cy h11 rfl (kfa rfl dP rfl rfl) (cy h11 rfl (JA rfl BT rfl) (cy h11 rfl (ki rfl rfl rfl rfl) (co rfl (Wh rfl rfl h11 rfl) (Ch.nil (Fin.go (ZW 0 5 6 7 8 9 23 24 25 95 rfl ?_))))))
 refine Tr.cn rfl ?_ ?_<;>intro h12 TN
 refine Tr.BI (tm rfl (tm rfl (tp rfl (Au (rows:=[(0,[_]),(1,[_]),(2,[_])]) rfl Tx Hv ⟨⟨rfl,(Vo rfl)⟩,⟨⟨rfl,(Vo rfl)⟩,⟨⟨rfl,(Vo rfl)⟩,trivial⟩⟩⟩ rfl) (tm rfl (tp rfl (Au (rows:=[(0,[_]),(1,[_]),(2,[_])]) rfl Tx Hv ⟨⟨rfl,(Vo rfl)⟩,⟨⟨rfl,(Vo rfl)⟩,⟨⟨rfl,(Vo rfl)⟩,trivial⟩⟩⟩ rfl) (tp rfl (Aa (xs:=[.tmp 98,.tmp 100]) (rows:=[EO ⟨((k:Nat):Int),3,4,0,⟨0,0,0,[]⟩⟩,EO ⟨((k:Nat):Int),1,14,0,⟨0,0,0,[]⟩⟩]) rfl rfl underlying32 Cg z116 rfl AD ⟨⟨Ao,VL.le (vl rfl) (Pr.le_trans (BP (qs:=EO _) ⟨Lr,Lr,Lr,Lr,Lr,Lr,Lr,NW,trivial⟩) (Ah _))⟩,⟨⟨Ao,VL.le (vl rfl) (Pr.le_trans (BP (qs:=EO _) ⟨Lr,Lr,Lr,Lr,Lr,Lr,Lr,NW,trivial⟩) (Ah _))⟩,trivial⟩⟩ AD) ?_))))))
 refine TO.C1 0 rfl rfl AD (Ex rfl rfl AD rfl underlying32 Cg Tw z116 rfl AD AD (vl rfl) (Kf rfl) (Bh fun _=>rfl) (Nat.zero_lt_succ _) Nv Nx) (fun v5=> ?_)
 refine tm rfl (TO.nil (Fin.block (Fin.go (wk8 0 5 6 7 8 23 24 25 rfl (Tr.Bq (jz rfl rfl rfl rfl AA (cm rfl (Ch.nil ?_))))))))
 exact Fin.Di (k+1) (m4++[⟨((k:Nat):Int),3,4,0,⟨0,0,0,[]⟩⟩,⟨((k:Nat):Int),1,14,0,⟨0,0,0,[]⟩⟩]) (_) v5 (⟨⟨by omega,by simp;omega,oX.two ⟨by show 0≤((k:Nat):Int);omega,by show ((k:Nat):Int)<_;omega,by dsimp only;omega⟩ ⟨by show 0≤((k:Nat):Int);omega,by show ((k:Nat):Int)<_;omega,by dsimp only;omega⟩⟩,by omega⟩) ⟨⟨_,rfl,AG k⟩,⟨_,rfl,Ci AR⟩,ke rfl,ke rfl,ke rfl,ke rfl,ke rfl,ke rfl,trivial⟩ (fun _ _ h=>Mo)
 refine Tr.skip (Fin.block (Fin.go (Tr.Bq (jz rfl rfl rfl rfl AA (cm rfl (Ch.nil (Fin.Di (k+1) (m4) (_) v4 (⟨⟨by omega,by omega,oX⟩,by omega⟩) ⟨⟨_,rfl,AG k⟩,⟨_,rfl,Ci AR⟩,ke rfl,ke rfl,ke rfl,ke rfl,ke rfl,ke rfl,trivial⟩ (fun _ _ h=>h))))))))
 refine cnt h11 rfl (cnt h11 rfl (cnt h11 rfl (co rfl (dI rfl rfl h11 rfl) (Ch.nil (Fin.go (ZW 0 5 6 7 8 9 23 24 25 95 rfl (Tr.cond rfl (fun h=>nomatch h) (fun _=> ?_))))))))
 refine Tr.skip (Fin.block (Fin.go (Tr.Bq (jz rfl rfl rfl rfl AA (cm rfl (Ch.nil (Fin.Di (k+1) (m4) (_) v4 (⟨⟨by omega,by omega,oX⟩,by omega⟩) ⟨⟨_,rfl,AG k⟩,⟨_,rfl,Ci AR⟩,ke rfl,ke rfl,ke rfl,ke rfl,ke rfl,ke rfl,trivial⟩ (fun _ _ h=>h))))))))
 have:=h1
 refine Tr.exit (Fin.Ai (Fin.Ai (Fin.BB (Fin.go (Tr.seq (Tr.block ?_))))))
 rcases Nat.eq_zero_or_pos ms.length with h0|h0
 refine Tr.A0 [(0,_)] ⟨ke rfl,trivial⟩ (fun _=>[(5,Ag v (lens (ms.map EO).length))]) (fun _=>True) (fun _=>0) () (trivial) ⟨ke rfl,trivial⟩ ?_
 rintro _ _
 refine Tr.seq (Tr.seq (Tr.Bq (cm rfl (co rfl (Rr rfl underlying32 (Kb rfl)) (co rfl (ki rfl rfl rfl rfl) (Ch.nil (Fin.go ?_)))))))
 refine Tr.cn rfl ?_ ?_<;>intro J8 Vs
 exfalso;have h_:=FM.Gp J8;rw [List.length_map] at h_;omega
 have:=J8
 refine Tr.exit (Fin.Ai (Fin.Ai (Fin.BB (Fin.go (Tr.seq (Tr.seq ?_))))))
 have hv4:=s2.DF (n:=4) AA
 refine Tr.BI (tm rfl (TO.FL 1 rfl rfl AD (Ak rfl rfl AD rfl (CV AA AA) ⟨ke rfl,ke rfl,trivial⟩) (tm rfl (TO.nil (Fin.go (Tr.block (Tr.CM [(0,_)] ⟨ke rfl,trivial⟩ (fun (q:Int) (s9:DS)=>[(11,int q),(5,Ag v (lens (ms.map EO).length))]) (fun (q:Int) (s9:DS)=>Hp M0 w0 S (BX 116 8 (ms.map EO) v::DA b s9::Ac M1 w1::rs)) (fun (q:Int) (s9:DS)=>True) (fun (q:Int) (s9:DS)=>q.toNat) (_) (_)  (trivial) ⟨ke rfl,ke rfl,trivial⟩ (fun _ _ h=>h) ?_)))))))
 rintro q s9  _
 refine Tr.seq (Tr.seq (Tr.Bq (cm rfl (co rfl (ki rfl rfl rfl rfl) (cm rfl ?_)))))
 refine Ch.cs 116 rfl ?_ ?_<;>intro Mi nU
 refine OB Mi rfl (cy Mi rfl (Rr rfl underlying32 (Kb rfl)) (cy Mi rfl (ki rfl rfl rfl rfl) (co rfl (Wh rfl rfl Mi rfl) (Ch.nil (Fin.go ?_)))))
 refine Tr.cn rfl ?_ ?_<;>intro Wi q15
 exfalso;have h_:=FM.Gp Wi;rw [List.length_map] at h_;omega
 have:=Wi
 refine Tr.exit (Fin.Ai (Fin.Ai (Fin.BB (Fin.go (Tr.seq (Tr.mW 0 5 rfl rfl (Bh fun _=>rfl) (Tr.Bq (cm rfl (cm rfl (Ch.nil (Fin.go (Tr.ret (Fin.Gq 1 _ rfl rfl (Fin.Fh [_] rfl (AQ.tmp rfl (Lr)) ?_ (fun _ _ _ _=>rfl)))))))))))))))
 · exact Pr.le_trans (At _ _) (V5 UG AA)
 refine cnt Mi rfl (cnt Mi rfl (cnt Mi rfl (co rfl (dI rfl rfl Mi rfl) (Ch.nil (Fin.go (Tr.cond rfl (fun h=>nomatch h) (fun _=> ?_)))))))
 refine Tr.exit (Fin.Ai (Fin.Ai (Fin.BB (Fin.go (Tr.seq (Tr.mW 0 5 rfl rfl (Bh fun _=>rfl) (Tr.Bq (cm rfl (cm rfl (Ch.nil (Fin.go (Tr.ret (Fin.Gq 1 _ rfl rfl (Fin.Fh [_] rfl (AQ.tmp rfl (Lr)) ?_ (fun _ _ _ _=>rfl)))))))))))))))
 · exact Pr.le_trans (At _ _) (V5 UG AA)
 refine Tr.yq (sz:=8) 0 rfl (by intro h_;simp at h_;rw [h_] at h0;simp at h0) fun b9 AFx sp9 hv9 hg9 hm9 hs9=> ?_
 subst hv9
 rw [List.length_map] at hg9 hs9
 refine Tr.E5 [(0,_)] ⟨ke rfl,trivial⟩ (fun (m:Nat)=>[(5,is (.slice (some ⟨b9,0,none⟩) m AFx))]) (fun (m:Nat)=>Hp M0 w0 S (AE true b9 116 ((ms.map EO).flatten++sp9.map is)::DA b s2::Ac M1 w1::rs)) (fun (m:Nat)=>1≤m∧m≤ms.length) (fun (m:Nat)=>m) (ms.length)  (⟨h0,Nat.le_refl _⟩) ⟨⟨_,rfl,Pr.le_trans (HE _ _) (Pr.le_of_eq (by rw [List.length_map]))⟩,trivial⟩ (fun _ _ h=>h) ?_
 rintro m  ⟨hm1,hm2⟩
 refine Tr.seq (Tr.seq (Tr.Bq (cm rfl (co rfl (FB rfl underlying32 (vl rfl)) (co rfl (ki rfl rfl rfl rfl) (Ch.nil (Fin.go ?_)))))))
 refine Tr.cn rfl ?_ ?_<;>intro h16 q16
 have hm7:7<m:=by have:=FM.Gp h16;omega
 refine Tr.skip (Fin.go (Tr.block (Tr.Bq (cm rfl (cm rfl (co rfl (FB rfl underlying32 (vl rfl)) (csu rfl rfl rfl rfl AA (co rfl (FP rfl underlying32 Cg (vl rfl) (vl rfl) AA AA AA AA) (cm rfl (Ch.nil (Fin.block ?_)))))))))))
 exact Fin.GW (m-1)  (⟨⟨by omega,by omega⟩,by omega⟩) ⟨⟨_,rfl,Pr.le_of_eq (by congr 2;omega)⟩,ke rfl,trivial⟩ (fun _ _ h=>h)
 have hm7:m≤7:=by have:=FM.Gp h16;omega
 refine Tr.exit (Fin.Ai (Fin.Ai (Fin.BB (Fin.go (Tr.seq (Tr.seq ?_))))))
 have hv4:=s2.DF (n:=4) AA
 refine Tr.BI (tm rfl (TO.FL 1 rfl rfl AD (Ak rfl rfl AD rfl (CV AA AA) ⟨ke rfl,ke rfl,trivial⟩) (tm rfl (TO.nil (Fin.go (Tr.block (Tr.Gd [(0,_)] ⟨ke rfl,trivial⟩ (fun (q:Int) (ns:List Bl) (s9:DS)=>[(11,int q),(5,is (.slice (some ⟨b9,0,none⟩) m AFx))]) (fun (q:Int) (ns:List Bl) (s9:DS)=>Hp M0 w0 S (AE true b9 116 ((ns.map EO).flatten++sp9.map is)::DA b s9::Ac M1 w1::rs)) (fun (q:Int) (ns:List Bl) (s9:DS)=>(ns.length=ms.length∧q≤3)∧Im e.Bw ns) (fun (q:Int) (ns:List Bl) (s9:DS)=>q.toNat) (_) (ms) (_)  (⟨⟨rfl,by omega⟩,UG⟩) ⟨ke rfl,ke rfl,trivial⟩ (fun _ _ h=>h) ?_)))))))
 rintro q ns s9  ⟨⟨hn1,hn3⟩,hn2⟩
 refine Tr.seq (Tr.seq (Tr.Bq (cm rfl (co rfl (ki rfl rfl rfl rfl) (cm rfl ?_)))))
 refine Ch.cs 116 rfl ?_ ?_<;>intro OD q17
 refine OB OD rfl (cy OD rfl (FB rfl underlying32 (vl rfl)) (cy OD rfl (ki rfl rfl rfl rfl) (co rfl (Wh rfl rfl OD rfl) (Ch.nil (Fin.go ?_)))))
 refine Tr.cn rfl ?_ ?_<;>intro RO q18
 have hq1:=FM.Gp RO
 refine Tr.skip (Fin.go (Tr.seq (Tr.block (Tr.seq ?_))))
 have hvm:=s9.DF (n:=((m:Nat):Int)-1) AA
 refine Tr.BI (tm rfl (tm rfl (tp rfl (FB rfl underlying32 (vl rfl)) ?_)))
 refine tp rfl (ZK rfl (vl rfl) (vl rfl) ?hin) ?_;case hin=>unfold Oj;omega
 refine TO.FL 1 rfl rfl AD (Ak rfl rfl AD rfl (CV AA AA) ⟨ke rfl,ke rfl,trivial⟩) (tm rfl (TO.nil (Fin.go (wk4 0 5 11 12 rfl (Tr.zZ mixed [none,none,none,none,none,none,none,none,none,some (0,0,false,0),none,none,none,some (0,0,false,0),none,some (0,0,true,0),none,some (0,0,true,0)] CS ?_)))))
 iterate 4 refine xm rfl ?_
 refine xo rfl (fun _=>I7 rfl (vl rfl) (vl rfl) ?hin) ?_;case hin=>unfold Oj;omega
 refine xm rfl (xm rfl ?_)
 refine xo rfl (fun _=>I7 rfl (vl rfl) (vl rfl) ?hin) ?_;case hin=>unfold Oj;omega
 refine xo rfl (fun _=>AH rfl underlying32 Cg (vl rfl) (vl rfl) AA AA) (GV 0 rfl rfl (Fg rfl Gr Cg (vl rfl) (T4 (f:=EO) (fun _=>rfl) AA) rfl) (xm rfl (xm rfl (xo rfl (fun _=>AH rfl underlying32 Cg (vl rfl) (vl rfl) AA AA) (GV 0 rfl rfl (Fg rfl Gr Cg (vl rfl) (T4 (f:=EO) (fun _=>rfl) AA) rfl) (xo rfl (fun _=>AH rfl underlying32 Cg (vl rfl) (vl rfl) AA AA) ?_))))))
 refine Cx.C0 0 rfl rfl (Aq rfl rfl (vl rfl) (Va rfl) Cg rfl (by rw [Kn (sz:=8) (fun _=>rfl)];omega) (BL (f:=EO) (fun _=>rfl) AA)) ?_
 refine xo rfl (fun _=>AH rfl underlying32 Cg (vl rfl) (vl rfl) AA AA) ?_
 refine Cx.C0 0 rfl rfl (Aq rfl rfl (vl rfl) (Va rfl) Cg rfl (by rw [Kn (sz:=8) (fun _=>rfl)];simp only [List.length_set];omega) (BL (f:=EO) (fun _=>rfl) Ez)) ?_
 refine Cx.nil ⟨rfl,?_⟩
 refine BE.done (EK.cons (EK.cons (EK.cons (EK.map _)))) (Fin.block (Fin.go (wk3 0 5 11 rfl (Tr.Bq (cm rfl (csu rfl rfl rfl rfl AA (cm rfl (Ch.nil (Fin.DE (q-1) (_) (_)  (⟨⟨⟨(Ri AA AA).length_eq.trans hn1,by omega⟩,Im.perm (Ri AA AA) hn2⟩,by omega⟩) ⟨⟨_,rfl,int_eq AA⟩,ke rfl,ke rfl,trivial⟩ (fun _ _ h=>h))))))))))
 have:=RO
 refine Tr.exit (Fin.Ai (Fin.Ai (Fin.BB (Fin.go (Tr.seq (Tr.j6 0 (((ns.take m).map EO).flatten++(((ns.drop m).map EO).flatten++sp9.map is)) rfl bq ?_))))))
 have hnt:(ns.take m).length=m:=by rw [List.length_take];omega
 refine Tr.Vc (sz:=8) ((ns.take m).map EO) 0 5 rfl rfl (Pr.le_of_eq (by rw [List.length_map,hnt])) (Bh fun _=>rfl) F8 hm9 ku ?_
 refine Tr.Bq (cm rfl (cm rfl (Ch.nil (Fin.go (Tr.ret (Fin.Gq 1 _ rfl rfl (Fin.Fh [_] rfl (AQ.tmp rfl (Lr)) ?_ (fun _ _ _ _=>rfl))))))))
 · exact Pr.le_trans (At _ _) (V5 hn2.take AA)
 refine cnt OD rfl (cnt OD rfl (cnt OD rfl (co rfl (dI rfl rfl OD rfl) (Ch.nil (Fin.go (Tr.cond rfl (fun h=>nomatch h) (fun _=> ?_)))))))
 refine Tr.exit (Fin.Ai (Fin.Ai (Fin.BB (Fin.go (Tr.seq (Tr.j6 0 (((ns.take m).map EO).flatten++(((ns.drop m).map EO).flatten++sp9.map is)) rfl bq ?_))))))
 have hnt:(ns.take m).length=m:=by rw [List.length_take];omega
 refine Tr.Vc (sz:=8) ((ns.take m).map EO) 0 5 rfl rfl (Pr.le_of_eq (by rw [List.length_map,hnt])) (Bh fun _=>rfl) F8 hm9 ku ?_
 refine Tr.Bq (cm rfl (cm rfl (Ch.nil (Fin.go (Tr.ret (Fin.Gq 1 _ rfl rfl (Fin.Fh [_] rfl (AQ.tmp rfl (Lr)) ?_ (fun _ _ _ _=>rfl))))))))
 · exact Pr.le_trans (At _ _) (V5 hn2.take AA)
structure PX (n:Int) (k:Nat) (l:List Int):Prop where
 at_:∀j,j<l.length→setAt n l j=true
 lt:∀x∈l,x<(k:Int)
 len:l.length≤k
theorem PX.nil (n:Int) (k:Nat):PX n k []:=⟨fun j hj=>by simp at hj,fun x hx=>by simp at hx,by simp⟩
theorem PX.step {n:Int} {l:List Int} (h:PX n k l):PX n (k+1) l:=⟨h.at_,fun x hx=>by have:=h.lt x hx;omega,by have:=h.len;omega⟩
theorem PX.snoc {n:Int} {l:List Int} (h:PX n k l) (hk:(k:Int)<n):PX n (k+1) (l++[(k:Int)]):=by
 refine ⟨fun j hj=> ?_,fun x hx=> ?_,by have:=h.len;simp;omega⟩
 ·
  rw [List.length_append] at hj;simp at hj
  rcases Nat.lt_or_ge j l.length with hl|hl
  ·
   have:=h.at_ j hl
   unfold setAt at this ⊢
   rw [List.getElem?_append_left hl,List.getElem?_append_left (show j-1<l.length by omega)];exact this
  ·
   have:j=l.length:=by omega
   subst this
   unfold setAt
   rw [List.getElem?_append_right (Nat.le_refl _),Nat.sub_self]
   rcases Nat.eq_zero_or_pos l.length with hz|hz
   ·
    obtain rfl:=List.eq_nil_of_length_eq_zero hz
    simp;omega
   ·
    obtain ⟨y,hy⟩:=Cp.at_ (l:=l) (k:=l.length-1) AA
    rw [List.getElem?_append_left (show l.length-1<l.length by omega),hy]
    have:=h.lt y (List.mem_of_getElem? hy)
    simp;omega
 ·
  rcases List.mem_append.1 hx with hx|hx
  · have:=h.lt x hx;omega
  · simp at hx;subst hx;omega
theorem PX.set {n:Int} {l:List Int} (h:PX n k l):DO n l=true:=CA.2 h.at_
theorem wE {s:DS} {n:Int} (hn:n≤1000000):Ba prog 8 [ptr b 0,int n] (Cp.ex fun l:List Int=>fact (DO n l=true) (ints l)) (DA b s) (fun _=>ID 60 b):=by
 refine Ba.of func8 rfl rfl Am fun M0 w0 S rs M1 w1=> ?_
 refine a3 ?_
 refine Tr.block (Tr.B5 3 1 (Tr.E6 _ (kk [1,0] rfl) (fun (k:Nat) (l:List Int) (s2:DS) v=>[(6,int ((k:Nat):Int)),(5,Ag v (ints l))]) (fun (k:Nat) (l:List Int) (s2:DS) v=>Hp M0 w0 S (Ax 3 1 v::DA b s2::Ac M1 w1::rs)) (fun (k:Nat) (l:List Int) (s2:DS)=>PX n k l) (fun (k:Nat) (l:List Int) (s2:DS)=>(n-(k:Nat)).toNat) (0) ([]) (_) (.slice none 0 0) (PX.nil _ _) ⟨kq,⟨_,rfl,Bf rfl⟩,trivial⟩ (fun _ _ h=>h) ?_))
 rintro k l s2 v hI
 refine an ?_ ?_<;>intro h1 q1
 have hkn:((k:Nat):Int)<n:=FM.Gp h1
 have II:=hI.len
 refine ac ?_
 refine ap ?_
 refine TO.FL 1 rfl rfl AD (Ak rfl rfl AD rfl (CV AA AA) ⟨ke rfl,ke rfl,trivial⟩) ?_
 refine ap ?_
 refine Tr.cn rfl ?_ ?_<;>intro h2 q2
 refine ap ?_
 refine TO.C1 0 rfl rfl AD (B7 rfl rfl rfl rfl underlying38 BJ IE z3 Fo Ea (A7 BD Gi)) (fun v1=> ?_)
 refine ap ?_
 refine wk [6,5,1,0] rfl ?_
 refine ac ?_
 exact Fin.Di (k+1) (l++[((k:Nat):Int)]) (_) v1 (⟨hI.snoc hkn,by omega⟩) ⟨⟨_,rfl,AG k⟩,⟨_,rfl,A9 DC⟩,kz⟩ (fun _ _ h=>h)
 refine a2 ?_
 exact Fin.Di (k+1) (l) (_) v (⟨hI.step,by omega⟩) ⟨⟨_,rfl,AG k⟩,kz⟩ (fun _ _ h=>h)
 have:=h1
 refine a2 ?_
 refine Tr.ret (Fin.Gq 1 _ rfl rfl (Fin.Fh [_] rfl (AQ.tmp rfl Lr) ?_ (fun _ _ _ _=>rfl)))
 · exact As l (Ar hI.set (At _ _))
structure JM where
 lo:Int
 hi:Int
 An:List Int
structure BS where
 B_:List JM
 JN:List Int
 room:List Int
def ABB (w:JM):List Pr:=[int w.lo,int w.hi,ints w.An]
abbrev AFy (l:List JM):Pr:=slice 3 (l.map ABB)
def MN (c:BS):Pr:=agg [AFy c.B_,ints c.JN,ints c.room]
instance AFz (l:List Int):One (ints l):=gI _ _
def EC (day:Int) (w:JM):Bool:=decide (w.lo≤day)&&decide (day<w.hi)
def BS.has (c:BS) (n:Int):Bool:=decide (0≤n)&&decide (n<c.room.length)
def BS.at (c:BS) (day:Int):Int:=idx (EC day) c.B_
def LA (n:Int):Bool:=decide (n<0)||decide (n>24)
def MO (w:JM):Bool:=decide (w.lo<0)||decide (w.lo≥w.hi)||decide (w.hi>40001)
def V6 (l:List Int):Prop:=∀(j:Nat) a b,l[j]? =some a→l[j+1]? =some b→a<b
def Z8 (l:List JM):Prop:=∀(j:Nat) a b,l[j]? =some a→l[j+1]? =some b→a.hi≤b.lo
open Classical in
noncomputable def BS.check (c:BS) (iL:Int):Int:=
 if 32<c.B_.length∨8<c.room.length then 3
 else if c.room.any LA then 2
 else if c.B_.any MO then 47
 else if ¬(Z8 c.B_∧∀w∈c.B_,V6 w.An) then 6
 else if c.B_.any (fun w=>w.An.any fun n=> !c.has n) then 2
 else if (c.JN.length:Int)≠iL∨c.JN.any (fun n=> !c.has n) then 1
 else 0
variable {i k:Nat}
noncomputable def BS.own (c:BS):Int:=c.check c.JN.length
theorem UH {β:Type} (p:β→Bool) (l:List β): -1≤idx p l∧idx p l<l.length:=by
 unfold idx
 cases h:l.findIdx? p with
 |none=>simp;omega
 |some i=>
  rw [List.findIdx?_eq_some_iff_getElem] at h
  obtain ⟨h1,_⟩:=h
  simp;omega
theorem wF {β:Type} {p:β→Bool} {l:List β} (h:0≤idx p l):∃x,l[(idx p l).toNat]? =some x∧p x=true:=by
 unfold idx at*
 cases h':l.findIdx? p with
 |none=>rw [h'] at h;simp at h
 |some i=>
  rw [List.findIdx?_eq_some_iff_getElem] at h'
  obtain ⟨h1,h2,_⟩:=h'
  exact ⟨l[i],by simp,h2⟩
def BS.UI (c:BS) (day:Int):Option JM:=c.B_.find? (EC day)
theorem SB {β:Type} (p:β→Bool) (l:List β):l.find? p=if 0≤idx p l then l[(idx p l).toNat]? else none:=by
 unfold idx
 cases h:l.findIdx? p with
 |none=>
  rw [List.findIdx?_eq_none_iff] at h
  rw [if_neg AR,List.find?_eq_none]
  intro x hx;simpa using h x hx
 |some i=>
  rw [List.findIdx?_eq_some_iff_getElem] at h
  obtain ⟨h1,h2,h3⟩:=h
  simp only [Int.natCast_nonneg,if_true,Int.toNat_natCast]
  rw [List.getElem?_eq_getElem h1,List.find?_eq_some_iff_getElem]
  exact ⟨h2,i,h1,rfl,fun j hj=>by simpa using h3 j hj⟩
def BS.may (c:BS) (n day:Int):Bool:=match c.UI day with|some w=>w.An.any (fun x=>n==x)|none=>false
theorem iM {l:List JM} {x:JM} (hx:l[k]? =some x) (hp:∀y,0<k→l[k-1]? =some y→y.hi≤x.lo) (h:∀(j:Nat) a b,j+1<k→l[j]? =some a→l[j+1]? =some b→a.hi≤b.lo):
  ∀(j:Nat) a b,j+1<k+1→l[j]? =some a→l[j+1]? =some b→a.hi≤b.lo:=by
 intro j a b hj ha hb
 by_cases hjk:j+1=k
 · exact cU
 · exact h j a b AA ha hb
theorem iN {l:List Int} {x:Int} (hx:l[k]? =some x) (hp:∀y,0<k→l[k-1]? =some y→y<x) (h:∀(j:Nat) a b,j+1<k→l[j]? =some a→l[j+1]? =some b→a<b):
  ∀(j:Nat) a b,j+1<k+1→l[j]? =some a→l[j+1]? =some b→a<b:=by
 intro j a b hj ha hb
 by_cases hjk:j+1=k
 · exact cU
 · exact h j a b AA ha hb
theorem wG {l:List JM} {x:JM} (hx:l[k]? =some x) (hp:∀(j:Nat) a b,j+1<x.An.length→x.An[j]? =some a→x.An[j+1]? =some b→a<b) (h:∀(j:Nat) a,j<k→l[j]? =some a→V6 a.An):
  ∀(j:Nat) a,j<k+1→l[j]? =some a→V6 a.An:=by
 intro j a hj ha
 by_cases hjk:j=k
 ·
  subst hjk;rw [hx] at ha;cases ha
  intro i u v hu hv
  exact hp i u v (by rcases Nat.lt_or_ge (i+1) x.An.length with h|h;exact h;rw [List.getElem?_eq_none h] at hv;cases hv) hu hv
 · exact h j a AA ha
theorem QZ {l:List JM} (h:(∀(j:Nat) a b,j+1<l.length→l[j]? =some a→l[j+1]? =some b→a.hi≤b.lo)∧∀(j:Nat) a,j<l.length→l[j]? =some a→V6 a.An):Z8 l∧∀w∈l,V6 w.An:=by
 refine ⟨fun j a b ha hb=>h.1 j a b (by rcases Nat.lt_or_ge (j+1) l.length with h|h;exact h;rw [List.getElem?_eq_none h] at hb;cases hb) ha hb,fun w hw=> ?_⟩
 obtain ⟨j,hj,rfl⟩:=List.mem_iff_getElem.1 hw
 exact h.2 j _ hj (List.getElem?_eq_getElem hj)
theorem oY {l:List JM} {x y:JM} (hk:0<k) (hx:l[k]? =some x) (hy:l[k-1]? =some y) (h:x.lo<y.hi):¬(Z8 l∧∀w∈l,V6 w.An):=by
 rintro ⟨h1,_⟩
 have:=h1 (k-1) y x hy (by rw [show k-1+1=k by omega];exact hx)
 omega
theorem oZ {l:List JM} {x:JM} {t u:Int} (hx:l[k]? =some x) (hi:0<i) (ht:x.An[i]? =some t) (hu:x.An[i-1]? =some u) (h:t≤u):¬(Z8 l∧∀w∈l,V6 w.An):=by
 rintro ⟨_,h2⟩
 have:=h2 x (List.mem_of_getElem? hx) (i-1) u t hu (by rw [show i-1+1=i by omega];exact ht)
 omega
def ED (n d:Int) (room:Nat→Bool):Nat→List JM→Option Int
 |_,[]=>none
 |i,w::r=>if d<w.hi∧w.An.any (fun x=>n==x)∧room i then some (max d w.lo) else ED n d room (i+1) r
def BS.next (c:BS) (n day:Int) (room:Nat→Bool):Option Int:=ED n (max day 0) room 0 c.B_
theorem eX {β:Type} {l:List β} {x:β} (h:l[k]? =some x):l.drop k=x::l.drop (k+1):=by
 have hk:k<l.length:=by rcases Nat.lt_or_ge k l.length with h'|h';exact h';rw [List.getElem?_eq_none h'] at h;cases h
 rw [List.drop_eq_getElem_cons hk]
 rw [List.getElem?_eq_getElem hk] at h
 simp at h;rw [h]
theorem oa {n d:Int} {room:Nat→Bool} {l:List JM} {x:JM} (h:l[k]? =some x) (h1:d<x.hi) (h2:x.An.any (fun y=>n==y)=true) (h3:room k=true):ED n d room k (l.drop k)=some (max d x.lo):=by
 rw [eX h,ED,if_pos ⟨h1,h2,h3⟩]
theorem iO {n d:Int} {room:Nat→Bool} {l:List JM} {x:JM} (h:l[k]? =some x) (h':¬(d<x.hi∧x.An.any (fun y=>n==y)=true∧room k=true)):ED n d room k (l.drop k)=ED n d room (k+1) (l.drop (k+1)):=by
 rw [eX h,ED,if_neg h']
noncomputable def BS.EU (c:BS) (An days others:List Int):Int:=
 if c.own≠0 then c.own else if An.length≠days.length then 1 else if 24<An.length then 3
 else if (An++others).any (fun n=> !c.has n) then 2 else if (An.zip days).all (fun p=>c.may p.1 p.2) then 0 else 47
def BS.cell (c:BS) (p:Int×Int):Nat:=(c.at p.2).toNat*8+p.1.toNat
def BS.cnt (c:BS) (l:List (Int×Int)) (k:Nat):Nat:=l.countP fun p=>c.cell p==k
def BS.AF0 (c:BS) (l:List (Int×Int)):List Int:=(List.range 256).map fun k=>(c.cnt l k:Int)
def AF1 (c:BS) (l:List (Int×Int)):List Pr:=(c.AF0 l).map fun z=>int z
theorem ABC (c:BS) (l:List (Int×Int)) (k:Nat):c.cnt l k≤l.length:=List.countP_le_length
theorem Xi {a b:List Int} {x y:Int} (hx:a[k]? =some x) (hy:b[k]? =some y):(a.zip b).take (k+1)=(a.zip b).take k++[(x,y)]:=by
 have hz:(a.zip b)[k]? =some (x,y):=by rw [List.getElem?_zip_eq_some];exact ⟨hx,hy⟩
 rw [List.take_add_one,hz];rfl
theorem og {c:BS} {n d:Int} (h:c.may n d=true):0≤c.at d:=by
 have h2:=SB (EC d) c.B_
 unfold BS.may BS.UI at h
 unfold BS.at
 rcases Int.lt_or_le (idx (EC d) c.B_) 0 with h3|h3
 ·
  rw [if_neg AA] at h2
  rw [h2] at h;cases h
 · exact h3
theorem SC {c:BS} (h:c.own=0):c.B_.length≤32∧c.room.length≤8:=by
 unfold BS.own BS.check at h
 split at h
 · omega
 · omega
theorem oh {c:BS} {n:Int} (h:c.own=0) (hn:c.has n=true):0≤n∧n<8:=by
 have:=(SC h).2
 unfold BS.has at hn
 simp at hn
 omega
theorem ABD {c:BS} {a b:List Int} {n d:Int} (hx:a[k]? =some n) (hd:b[k]? =some d) (h:(!c.may n d)=true):¬(a.zip b).all (fun p=>c.may p.1 p.2)=true:=by
 intro h2
 rw [List.all_eq_true] at h2
 have hz:(a.zip b)[k]? =some (n,d):=by rw [List.getElem?_zip_eq_some];exact ⟨hx,hd⟩
 have:=h2 _ (List.mem_of_getElem? hz)
 simp [this] at h
theorem wH {c:BS} {a b:List Int} (h:((a.zip b).take a.length).all (fun p=>c.may p.1 p.2)=true) (hl:a.length=b.length):(a.zip b).all (fun p=>c.may p.1 p.2)=true:=by
 rwa [List.take_of_length_le Bz] at h
theorem ABE {c:BS} {l:List Int} {n:Int} (h:l.any (fun n=> !c.has n)=false) (hn:n∈l):c.has n=true:=by
 rw [List.any_eq_false] at h
 simpa using h n hn
def BS.over (c:BS) (l:List (Int×Int)):Prop:=∃(i n:Nat) (r:Int),i<c.B_.length∧c.room[n]? =some r∧r<(c.cnt l (i*8+n):Int)
open Classical in
noncomputable def BS.DZ (c:BS) (An days others:List Int):Int:=
 if c.EU An days others≠0 then c.EU An days others else if c.over (An.zip days) then 48 else 0
variable {days An:List Int} {i j k m n:Nat}
noncomputable def zB (c:BS) (An days others:List Int):Pr:=if c.DZ An days others=0 then ref (AF1 c (An.zip days)) else is (.pointer none)
noncomputable instance ADN (c:BS) (An days others:List Int):One (zB c An days others):=by
 unfold zB;split
 · exact cz _
 · exact cx _
theorem Io {c:BS} {others:List Int} (h:c.EU An days others=0):c.own=0:=by
 unfold BS.EU at h
 by_cases h':c.own=0
 · exact h'
 · rw [if_pos h'] at h;exact absurd h h'
theorem Xj {c:BS} {others:List Int} (h:c.EU An days others=0):∀n∈An++others,c.has n=true:=by
 have ho:=Io h
 unfold BS.EU at h
 rw [if_neg (not_not_intro ho)] at h
 split at h
 · cases h
 ·
  split at h
  · cases h
  ·
   split at h
   · cases h
   ·
    rename_i h1
    intro n hn
    exact ABE Mu hn
theorem HP {c:BS} {others:List Int} (h:c.DZ An days others=0):c.EU An days others=0:=by
 unfold BS.DZ at h
 by_cases h':c.EU An days others=0
 · exact h'
 · rw [if_pos h'] at h;exact absurd h h'
theorem Z9 {c:BS} {l:List (Int×Int)} (h0:∀i' n r,i'<i→c.room[n]? =some r→(c.cnt l (i'*8+n):Int)≤r) (h1:∀n r,n<c.room.length→c.room[n]? =some r→(c.cnt l (i*8+n):Int)≤r):∀i' n r,i'<i+1→c.room[n]? =some r→(c.cnt l (i'*8+n):Int)≤r:=by
 intro i' n r hi hr
 by_cases hii:i'=i
 ·
  subst hii
  refine h1 n r ?_ hr
  rcases Nat.lt_or_ge n c.room.length with h|h
  · exact h
  · rw [List.getElem?_eq_none h] at hr;cases hr
 · exact h0 i' n r AA hr
theorem Z_ {c:BS} {l:List (Int×Int)} {r:Int} (h0:∀n r,n<m→c.room[n]? =some r→(c.cnt l (i*8+n):Int)≤r) (hx:c.room[m]? =some r) (hle:(c.cnt l (i*8+m):Int)≤r):∀n r,n<m+1→c.room[n]? =some r→(c.cnt l (i*8+n):Int)≤r:=by
 intro n r' hn hr
 by_cases hnm:n=m
 · subst hnm;rw [hx] at hr;cases hr;exact hle
 · exact h0 n r' AA hr
def BS.MP (c:BS) (n:Int):Int:=(c.room[n.toNat]?).getD 0
theorem SD {c:BS} {n:Int} (h:c.has n=true):0≤n∧c.room[n.toNat]? =some (c.MP n):=by
 unfold BS.has at h
 simp at h
 refine ⟨h.1,?_⟩
 have:n.toNat<c.room.length:=by omega
 unfold BS.MP
 rw [List.getElem?_eq_getElem this];rfl
def BS.free (c:BS) (l:List (Int×Int)) (n:Int) (i:Nat):Bool:=decide ((c.cnt l (i*8+n.toNat):Int)<c.MP n)
noncomputable def BS.early (c:BS) (An days:List Int) (n from_:Int):Option Int:=if c.DZ An days [n]=0 then c.next n from_ (c.free (An.zip days) n) else none
theorem MQ {c:BS} {n:Int} (h:c.check n=0):(c.B_.length≤32∧c.room.length≤8)∧c.room.any LA=false∧c.B_.any MO=false∧Z8 c.B_∧(∀w∈c.B_,V6 w.An)∧c.B_.any (fun w=>w.An.any fun n=> !c.has n)=false:=by
 unfold BS.check at h
 split at h
 · cases h
 ·
  split at h
  · cases h
  ·
   split at h
   · cases h
   ·
    split at h
    · cases h
    ·
     split at h
     · cases h
     ·
      rename_i h1 h2 h3 h4 h5
      rw [Classical.not_not] at h4
      exact ⟨by omega,by simpa using h2,by simpa using h3,h4.1,h4.2,by simpa using h5⟩
theorem Ip {c:BS} (h:c.own=0):Z8 c.B_∧∀w∈c.B_,0≤w.lo∧w.lo<w.hi:=by
 obtain ⟨_,_,h3,h4,_⟩:=MQ h
 refine ⟨h4,fun w hw=> ?_⟩
 rw [List.any_eq_false] at h3
 have:=h3 w hw
 simp [MO] at this
 omega
abbrev UJ (l:List JM):Prop:=l.Pairwise fun a b=>a.hi≤b.lo
theorem Iq:∀{l:List JM},Z8 l→(∀w∈l,0≤w.lo∧w.lo<w.hi)→UJ l
 |[],_,_=>List.Pairwise.nil
 |[a],_,_=>by simp [UJ]
 |a::b::l,h,hw=>by
  have ih:UJ (b::l):=Iq (fun j x y hx hy=>h (j+1) x y Gy (by simpa using hy)) (fun w hm=>hw w (List.mem_cons_of_mem _ hm))
  refine List.Pairwise.cons (fun w hm=> ?_) ih
  have h0:=h 0 a b rfl rfl
  rcases List.mem_cons.1 hm with rfl|hm
  · exact h0
  ·
   have h1:=(List.pairwise_cons.1 ih).1 w hm
   have:=hw b AR
   omega
theorem SE {k:Int} {w:JM} (h:EC k w=true):w.lo≤k∧k<w.hi:=by unfold EC at h;simpa using h
theorem zC {k:Int} {w:JM} (h:w.lo≤k∧k<w.hi):EC k w=true:=by unfold EC;simpa using h
theorem V7 {k:Int}:∀{l:List JM} {w:JM},UJ l→w∈l→EC k w=true→l.find? (EC k)=some w
 |a::l,w,hp,hm,hin=>by
  rcases List.mem_cons.1 hm with rfl|hm
  · exact List.find?_cons_of_pos hin
  ·
   have h1:=(List.pairwise_cons.1 hp).1 w hm
   have h2:=SE hin
   rw [List.find?_cons_of_neg (by intro h;have:=SE h;omega)]
   exact V7 (List.pairwise_cons.1 hp).2 hm hin
theorem wI {c:BS} {t k:Int} (h:c.own=0):c.may t k=true↔∃w∈c.B_,EC k w=true∧w.An.any (fun x=>t==x)=true:=by
 obtain ⟨h1,h2⟩:=Ip h
 unfold BS.may BS.UI
 constructor
 ·
  intro hm
  cases hf:c.B_.find? (EC k) with
  |none=>rw [hf] at hm;cases hm
  |some w=>rw [hf] at hm;exact ⟨w,List.mem_of_find?_eq_some hf,List.find?_some hf,hm⟩
 ·
  rintro ⟨w,hw,hin,ht⟩
  rw [V7 (Iq h1 h2) hw hin];exact ht
theorem JO {β:Type} {p:β→Bool} {l:List β} {x:β} (hx:l[k]? =some x) (hp:p x=true):l.any p=true:=List.any_eq_true.2 ⟨x,List.mem_of_getElem? hx,hp⟩
theorem CT {β:Type} {p:β→Bool} {l:List β} (h:∀j y,j<l.length→l[j]? =some y→p y=false):l.any p=false:=by
 rw [List.any_eq_false]
 intro y hy
 obtain ⟨j,hj⟩:=List.mem_iff_getElem?.1 hy
 have:=h j y bn hj
 simp [this]
abbrev SF {β:Type} (p:β→Bool) (l:List β) (k:Nat):Prop:=∀j y,j<k→l[j]? =some y→p y=false
theorem KO {β:Type} (p:β→Bool) (l:List β):SF p l 0:=fun j y hj=>absurd hj AA
theorem KP {β:Type} {p:β→Bool} {l:List β} {x:β} (hx:l[k]? =some x) (hp:p x=false) (h:SF p l k):SF p l (k+1):=Dm hx hp h
abbrev om (c:BS):JM→Bool:=fun w=>w.An.any fun n=> !c.has n
theorem KQ {c:BS} {m:Int}  :A_ prog 47 [MN c,int m] (int (c.check m)):=by
 refine fo func47 rfl ⟨rfl,rfl⟩ fun M0 w0=>(Tr.IX 0 0 rfl rfl fun LB=>(Tr.IX 0 1 rfl rfl fun LC=>(Tr.IX 0 2 rfl rfl fun eY=> ?_)))
 refine ac ?_
 refine ag ?_ ?_<;>intro h1 q1
 refine a3 ?_
 · refine int_eq ?_;unfold BS.check;rw [if_pos AA]
 refine an ?_ ?_<;>intro h2 q2
 refine a2 ?_
 · refine int_eq ?_;unfold BS.check;rw [if_pos AA]
 refine a2 ?_
 refine wk [31,30,29,2,1] rfl (Tr.block (Tr.A0 _ (kk [30,29,2,1] rfl) (fun a:Nat=>[(31,int ((a:Nat):Int))]) (fun a:Nat=>a≤(c.room).length∧(SF LA c.room a)) (fun a:Nat=>(c.room).length-a) 0 (⟨Nat.zero_le _,KO _ _⟩) kz ?_))
 rintro a ⟨AF2,Gu⟩
 refine ac ?_
 refine Tr.seq ?_
 refine Tr.cn rfl ?_ ?_<;>intro h3 q3
 have oo:a<(c.room).length:=AJ h3
 obtain ⟨r,oq⟩:=at_ oo
 refine ac ?_
 refine Tr.seq (Tr.block (Tr.seq (Tr.Bq (co rfl (AB rfl underlying22 BJ vq vq AA Bk) ?_))))
 · repeat' first|(refine int_eq ?_;unfold BS.check;rw [if_neg AA,if_pos (JO oq (by simp [LA];omega))])|(exact Fin.AL (a+1) ⟨⟨oo,KP oq (by simp [LA];omega) Gu⟩,by omega⟩ ⟨⟨_,rfl,AG a⟩,kz⟩)|refine ac ?_|(refine Tr.cn rfl ?_ ?_<;>intro h q)|(refine Ch.cg rfl rfl rfl ?_ ?_<;>intro h q)
 have ABF:a=(c.room).length:=by have:=AK h3;omega
 subst ABF
 refine a2 ?_
 refine Tr.block (Tr.A0 _ (kk [44,43,2,1] rfl) (fun b:Nat=>[(45,int ((b:Nat):Int))]) (fun b:Nat=>b≤(c.B_).length∧(SF MO c.B_ b)) (fun b:Nat=>(c.B_).length-b) 0 (⟨Nat.zero_le _,KO _ _⟩) kz ?_)
 rintro b ⟨AK9,MR⟩
 refine ac ?_
 refine Tr.seq ?_
 refine Tr.cn rfl ?_ ?_<;>intro h6 q6
 have AF3:b<(c.B_).length:=AJ h6
 obtain ⟨w,AF4⟩:=at_ AF3
 refine ac ?_
 refine Tr.seq (Tr.block (Tr.seq (Tr.BI (tp rfl (AB rfl underlying68 Ie vq vq AA Bk) ?_))))
 refine tp rfl (Al rfl RT Ie vq rfl rfl) ?_
 refine Tl rfl rfl rfl rfl gR RU (fun b1=> ?_)
 refine sf 0 8 ⟨rfl,rfl,rfl⟩ rfl rfl rfl rfl ?_
 refine ao ?_
 · repeat' first|(refine int_eq ?_;unfold BS.check;rw [if_neg AA,if_neg (Bb (CT Gu)),if_pos (JO AF4 (by simp [MO];omega))])|(exact Fin.AL (b+1) ⟨⟨AF3,KP AF4 (by simp [MO];omega) MR⟩,by omega⟩ ⟨⟨_,rfl,AG b⟩,kz⟩)|refine ac ?_|(refine Tr.cn rfl ?_ ?_<;>intro h q)|(refine Ch.cg rfl rfl rfl ?_ ?_<;>intro h q)
 have AJ7:b=(c.B_).length:=by have:=AK h6;omega
 subst AJ7
 refine a2 ?_
 refine Tr.block (Tr.A0 _ (kk [71,70,2,1] rfl) (fun k:Nat=>[(72,int ((k:Nat):Int))]) (fun k:Nat=>k≤(c.B_).length∧((∀(j:Nat) a b,j+1<k→c.B_[j]? =some a→c.B_[j+1]? =some b→a.hi≤b.lo)∧∀(j:Nat) a,j<k→c.B_[j]? =some a→V6 a.An)) (fun k:Nat=>(c.B_).length-k) 0 (⟨Nat.zero_le _,⟨fun j a b hj=>absurd hj AA,fun j a hj=>absurd hj AA⟩⟩) kz ?_)
 rintro k ⟨BN,AX⟩
 refine ac ?_
 refine Tr.seq ?_
 refine Tr.cn rfl ?_ ?_<;>intro h10 O2
 have Ae:k<(c.B_).length:=AJ h10
 obtain ⟨x,Af⟩:=at_ Ae
 refine ac ?_
 refine ao ?_
 refine tp rfl (AB rfl underlying68 Ie vq vq AA Bk) ?_
 refine tp rfl (Al rfl RT Ie vq rfl rfl) ?_
 refine Tl rfl rfl rfl rfl gR RU (fun b2=> ?_)
 refine tm rfl ?_
 refine sf 0 10 ⟨rfl,rfl,rfl⟩ rfl rfl rfl rfl ?_
 refine ao ?_
 refine wk [72,71,70,10,9,2,1] rfl (Tr.Jn [1,2,10,70,71,72] [] (∀y,0<k→c.B_[k-1]? =some y→y.hi≤x.lo) ?_ (fun AF5=> ?_))
 refine ag ?_ ?_<;>intro h12 TN
 obtain ⟨pw,hpw⟩:=at_ (l:=c.B_) (k:=k-1) AA
 refine ac ?_
 refine cy h12 rfl (AB rfl underlying68 Ie vq vq AA (RD AA hpw)) ?_
 refine ac ?_
 refine wk [92,72,71,70,10,2,1] rfl ?_
 refine Tr.cn rfl ?_ ?_<;>intro J8 Vs
 refine a2 ?_
 · refine int_eq ?_;unfold BS.check;rw [if_neg AA,if_neg (Bb (CT Gu)),if_neg (Bb (CT MR)),if_pos (oY AA Af hpw BO)]
 refine Tr.skip ?_
 exact Fin.AL () (by intro y' hk' hy';rw [hpw] at hy';cases hy';omega) (kk6 rfl)
 refine ac ?_
 refine wk [92,72,71,70,10,2,1] rfl (Tr.cond rfl (fun h=>nomatch h) (fun _=> ?_))
 refine Tr.skip ?_
 exact Fin.AL () (by intro y' hk' hy';omega) (kk6 rfl)
 refine ac ?_
 refine Tr.block (Tr.A0 _ (kk [72,71,70,10,2,1] rfl) (fun i:Nat=>[(11,int ((i:Nat):Int))]) (fun i:Nat=>1≤i∧i≤max 1 x.An.length∧∀(j:Nat) a b,j+1<i→x.An[j]? =some a→x.An[j+1]? =some b→a<b) (fun i:Nat=>x.An.length-i) 1 (⟨by omega,by omega,fun j a b hj=>absurd hj AA⟩) kz ?_)
 rintro i ⟨hi1,hi2,E0⟩
 refine an ?_ ?_<;>intro Mi nU
 have Ik:i<x.An.length:=AJ Mi
 obtain ⟨t,ht⟩:=at_ Ik
 obtain ⟨u,hu⟩:=at_ (l:=x.An) (k:=i-1) AA
 refine Tr.CN 95 rfl fun hlt=> ?_
 · repeat' first|(refine int_eq ?_;unfold BS.check;rw [if_neg AA,if_neg (Bb (CT Gu)),if_neg (Bb (CT MR)),if_pos (oZ Af AA ht hu AA)])|(exact Fin.AL (i+1) ⟨⟨by omega,by omega,iN ht (by intro y' hk' hy';rw [hu] at hy';cases hy';omega) E0⟩,by omega⟩ ⟨⟨_,rfl,AG i⟩,kz⟩)|refine co rfl (AB rfl underlying22 BJ vq vq AA (RD AA hu)) ?_|refine co rfl (AB rfl underlying22 BJ vq vq AA Bk) ?_|refine ac ?_|(refine Tr.cn rfl ?_ ?_<;>intro h q)
 have hge:x.An.length≤i:=AK Mi
 have hall:∀(j:Nat) a b,j+1<x.An.length→x.An[j]? =some a→x.An[j+1]? =some b→a<b:=fun j a b hj=>E0 j a b AA
 refine a2 ?_
 exact Fin.AL (k+1) ⟨⟨Ae,⟨iM Af AF5 AX.1,wG Af hall AX.2⟩⟩,by omega⟩ ⟨⟨_,rfl,AG k⟩,kz⟩
 have BC:k=(c.B_).length:=by have:=AK h10;omega
 subst BC
 refine a2 ?_
 refine Tr.block (Tr.A0 _ (kk [115,114,2,1] rfl) (fun d:Nat=>[(116,int ((d:Nat):Int))]) (fun d:Nat=>d≤(c.B_).length∧(SF (om c) c.B_ d)) (fun d:Nat=>(c.B_).length-d) 0 (⟨Nat.zero_le _,KO _ _⟩) kz ?_)
 rintro d ⟨AK_,V8⟩
 refine ac ?_
 refine Tr.seq ?_
 refine Tr.cn rfl ?_ ?_<;>intro h16 q16
 have AF6:d<(c.B_).length:=AJ h16
 obtain ⟨z,AF7⟩:=at_ AF6
 refine ac ?_
 refine Tr.seq (Tr.block (Tr.seq (Tr.BI (tp rfl (AB rfl underlying68 Ie vq vq AA Bk) ?_))))
 refine tp rfl (Al rfl RT Ie vq rfl rfl) ?_
 refine Tl rfl rfl rfl rfl gR RU (fun b3=> ?_)
 refine sf 0 13 ⟨rfl,rfl,rfl⟩ rfl rfl rfl rfl ?_
 refine ao ?_
 refine ac ?_
 refine wk [123,122,121,116,115,114,2,1] rfl (Tr.block (Tr.CN 121 rfl fun hlz=>(Tr.A0 _ (kk [122,121,116,115,114,2,1] rfl) (fun e:Nat=>[(123,int ((e:Nat):Int))]) (fun e:Nat=>e≤(z.An).length∧(SF (fun n=> !c.has n) z.An e)) (fun e:Nat=>(z.An).length-e) 0 (⟨Nat.zero_le _,KO _ _⟩) kz ?_)))
 rintro e ⟨ALA,V3⟩
 refine ac ?_
 refine Tr.seq ?_
 refine Tr.cn rfl ?_ ?_<;>intro OD q17
 have AF8:e<(z.An).length:=AJ OD
 obtain ⟨y,AF9⟩:=at_ AF8
 refine ac ?_
 refine Tr.seq (Tr.block (Tr.seq (Tr.Bq (co rfl (AB rfl underlying22 BJ vq vq AA Bk) ?_))))
 · repeat' first|(refine int_eq ?_;unfold BS.check;rw [if_neg AA,if_neg (Bb (CT Gu)),if_neg (Bb (CT MR)),if_neg (not_not_intro (QZ AX)),if_pos (JO AF7 (JO AF9 N2))])|(exact Fin.AL (e+1) ⟨⟨AF8,KP AF9 N2 V3⟩,by omega⟩ ⟨⟨_,rfl,AG e⟩,kz⟩)|refine ac ?_|(refine Tr.cn rfl ?_ ?_<;>intro h q)|(refine Ch.cg rfl rfl rfl ?_ ?_<;>intro h q)
 have AJ8:e=(z.An).length:=by have:=AK OD;omega
 subst AJ8
 refine a2 ?_
 exact Fin.AL (d+1) ⟨⟨AF6,KP AF7 (CT V3) V8⟩,by omega⟩ ⟨⟨_,rfl,AG d⟩,kz⟩
 have AJ9:d=(c.B_).length:=by have:=AK h16;omega
 subst AJ9
 refine ac ?_
 refine an ?_ ?_<;>intro R3 q20
 refine a2 ?_
 · refine int_eq ?_;unfold BS.check;rw [if_neg AA,if_neg (Bb (CT Gu)),if_neg (Bb (CT MR)),if_neg (not_not_intro (QZ AX)),if_neg (Bb (CT V8)),if_pos (.inl BO)]
 refine a2 ?_
 refine wk [146,145,144,2] rfl (Tr.block (Tr.A0 _ (kk [145,144,2] rfl) (fun g:Nat=>[(146,int ((g:Nat):Int))]) (fun g:Nat=>g≤(c.JN).length∧(SF (fun n=> !c.has n) c.JN g)) (fun g:Nat=>(c.JN).length-g) 0 (⟨Nat.zero_le _,KO _ _⟩) kz ?_))
 rintro g ⟨ALB,ow⟩
 refine ac ?_
 refine Tr.seq ?_
 refine Tr.cn rfl ?_ ?_<;>intro Zo q21
 have AF_:g<(c.JN).length:=AJ Zo
 obtain ⟨v,AGA⟩:=at_ AF_
 refine ac ?_
 refine Tr.seq (Tr.block (Tr.seq (Tr.Bq (co rfl (AB rfl underlying22 BJ vq vq AA Bk) ?_))))
 · repeat' first|(refine int_eq ?_;unfold BS.check;rw [if_neg AA,if_neg (Bb (CT Gu)),if_neg (Bb (CT MR)),if_neg (not_not_intro (QZ AX)),if_neg (Bb (CT V8)),if_pos (.inr (JO AGA N2))])|(exact Fin.AL (g+1) ⟨⟨AF_,KP AGA N2 ow⟩,by omega⟩ ⟨⟨_,rfl,AG g⟩,kz⟩)|refine ac ?_|(refine Tr.cn rfl ?_ ?_<;>intro h q)|(refine Ch.cg rfl rfl rfl ?_ ?_<;>intro h q)
 have AJ_:g=(c.JN).length:=by have:=AK Zo;omega
 subst AJ_
 refine a3 ?_
 · refine int_eq ?_;unfold BS.check;rw [if_neg AA,if_neg (Bb (CT Gu)),if_neg (Bb (CT MR)),if_neg (not_not_intro (QZ AX)),if_neg (Bb (CT V8)),if_neg (not_or.2 ⟨not_not_intro AA,Bb (CT ow)⟩)]
theorem zD {c:BS} {day:Int}  :A_ prog 258 [MN c,int day] (int (c.at day)):=by
 refine fo func258 rfl ⟨rfl,rfl⟩ fun M0 w0=>(Tr.IX 0 0 rfl rfl fun LB=> ?_)
 refine a2 ?_
 refine Tr.block (Tr.A0 _ (kk [9,8,1] rfl) (fun i:Nat=>[(10,int ((i:Nat):Int))]) (fun i:Nat=>i≤(c.B_).length∧(SF (EC day) c.B_ i)) (fun i:Nat=>(c.B_).length-i) 0 (⟨Nat.zero_le _,KO _ _⟩) kz ?_)
 rintro i ⟨UD,E0⟩
 refine ac ?_
 refine Tr.seq ?_
 refine Tr.cn rfl ?_ ?_<;>intro h1 q1
 have Ik:i<(c.B_).length:=AJ h1
 obtain ⟨w,LP⟩:=at_ Ik
 refine ac ?_
 refine ao ?_
 refine tp rfl (AB rfl underlying68 Ie vq vq AA Bk) ?_
 refine tp rfl (Al rfl RT Ie vq rfl rfl) ?_
 refine Tl rfl rfl rfl rfl gR RU (fun b1=> ?_)
 refine tm rfl ?_
 refine sf 0 6 ⟨rfl,rfl,rfl⟩ rfl rfl rfl rfl ?_
 refine ao ?_
 · repeat' first|(exact int_eq (Ev LP (by simp [EC];omega) E0))|(exact Fin.AL (i+1) ⟨⟨Ik,KP LP (by simp [EC];omega) E0⟩,by omega⟩ ⟨⟨_,rfl,AG i⟩,kz⟩)|refine ac ?_|(refine Tr.cn rfl ?_ ?_<;>intro h q)|(refine Ch.cg rfl rfl rfl ?_ ?_<;>intro h q)
 have NU:i=(c.B_).length:=by have:=AK h1;omega
 subst NU
 refine a3 ?_
 · exact int_eq (Gj E0)
theorem ABG {c:BS} {n day:Int} (h:c.at day<0):c.may n day=false:=by grind [SB,EC,BS.at,BS.may,BS.UI]
theorem eZ {c:BS} {n day:Int} {w:JM} (h:0≤c.at day) (hw:c.B_[(c.at day).toNat]? =some w):c.may n day=w.An.any (fun x=>n==x):=by grind [SB,EC,BS.at,BS.may,BS.UI]
theorem wJ {c:BS} {day:Int} (h:0≤c.at day):∃w,c.B_[(c.at day).toNat]? =some w∧EC day w=true:=by
 obtain ⟨w,h1,h2⟩:=wF (p:=EC day) (l:=c.B_) h
 exact ⟨w,h1,h2⟩
theorem ox {c:BS} {n day:Int}  :A_ prog 213 [MN c,int n,int day] (bool (c.may n day)):=by
 refine fo func213 rfl ⟨rfl,rfl⟩ fun M0 w0=> ?_
 refine a2 ?_
 refine co rfl (Bu (zD) rfl rfl rfl) ?_
 refine ac ?_
 refine an ?_ ?_<;>intro h1 q1
 refine a2 ?_
 · exact bool_eq (ABG BO).symm
 obtain ⟨w,hw,hin⟩:=wJ (c:=c) (day:=day) q1
 refine a2 ?_
 refine co rfl (AB rfl underlying68 Ie vq vq AA (Be hw)) ?_
 refine ac ?_
 refine wk [22,21,20,1] rfl (Tr.block (Tr.CN 20 rfl fun hlt=>(Tr.A0 _ (kk [21,20,1] rfl) (fun k:Nat=>[(22,int ((k:Nat):Int))]) (fun k:Nat=>k≤(w.An).length∧(SF (fun x=>n==x) w.An k)) (fun k:Nat=>(w.An).length-k) 0 (⟨Nat.zero_le _,KO _ _⟩) kz ?_)))
 rintro k ⟨BN,AX⟩
 refine ac ?_
 refine Tr.seq ?_
 refine Tr.cn rfl ?_ ?_<;>intro h2 q2
 have Ae:k<(w.An).length:=AJ h2
 obtain ⟨t,Af⟩:=at_ Ae
 refine ac ?_
 refine Tr.seq (Tr.block (Tr.seq (Tr.Bq (co rfl (AB rfl underlying22 BJ vq vq AA Bk) ?_))))
 · repeat' first|(refine bool_eq ?_;rw [eZ BO hw];exact (JO Af Bz).symm)|(exact Fin.AL (k+1) ⟨⟨Ae,KP Af Bz AX⟩,by omega⟩ ⟨⟨_,rfl,AG k⟩,kz⟩)|refine ac ?_|(refine Tr.cn rfl ?_ ?_<;>intro h q)
 have BC:k=(w.An).length:=by have:=AK h2;omega
 subst BC
 refine a3 ?_
 · refine bool_eq ?_;rw [eZ BO hw];exact (CT AX).symm
theorem Xk {c:BS} {n day:Int} (h:c.own=0) {w:JM} (hw:c.B_[k]? =some w) (hd:max day w.lo<w.hi):c.may n (max day w.lo)=w.An.any (fun x=>n==x):=by grind [Ip,BS.may,BS.UI,V7,Iq,zC]
theorem oy {c:BS} {a b:List Int} {n d:Int} (hx:a[k]? =some n) (hd:b[k]? =some d) (hm:c.may n d=true) (h:((a.zip b).take k).all (fun p=>c.may p.1 p.2)=true):((a.zip b).take (k+1)).all (fun p=>c.may p.1 p.2)=true:=by
 rw [Xi hx hd,List.all_append,h];simp [hm]
theorem any_nil {c:BS} {l:List Int}:(l++[]).any (fun n=> !c.has n)=l.any (fun n=> !c.has n):=by rw [List.append_nil]
theorem ABH {c:BS}:A_ prog 257 [MN c,ints An,ints days] (int (c.EU An days [])):=by
 refine fo func257 rfl ⟨rfl,rfl⟩ fun M0 w0=>(Tr.IX 0 1 rfl rfl fun LC=>(Tr.IX 0 2 rfl rfl fun eY=>(Tr.CN 1 rfl fun Fq=>(Tr.CN 2 rfl fun n7=> ?_))))
 refine a2 ?_
 refine co rfl (Bu (KQ) rfl rfl rfl) ?_
 refine ac ?_
 refine Tr.seq (Tr.re 7 rfl (int_eq (b:=c.own) rfl) ?_)
 refine an ?_ ?_<;>intro h1 q1
 refine a2 ?_
 · refine int_eq ?_;unfold BS.EU;rw [if_pos BO]
 have hown:c.own=0:=q1
 refine a2 ?_
 refine wk [24,3,2,1] rfl ?_
 refine Tr.cn rfl ?_ ?_<;>intro h2 q2
 refine a2 ?_
 · refine int_eq ?_;unfold BS.EU;rw [if_neg (not_not_intro hown),if_pos AA]
 refine ac ?_
 refine an ?_ ?_<;>intro h3 q3
 refine a2 ?_
 · refine int_eq ?_;unfold BS.EU;rw [if_neg (not_not_intro hown),if_neg AA,if_pos AA]
 refine a2 ?_
 refine Tr.block (Tr.A0 _ (kk [29,28,3,2,1] rfl) (fun a:Nat=>[(30,int ((a:Nat):Int))]) (fun a:Nat=>a≤(An).length∧(SF (fun n=> !c.has n) An a)) (fun a:Nat=>(An).length-a) 0 (⟨Nat.zero_le _,KO _ _⟩) kz ?_)
 rintro a ⟨AF2,Gu⟩
 refine ac ?_
 refine Tr.seq ?_
 refine Tr.cn rfl ?_ ?_<;>intro h4 q4
 have oo:a<(An).length:=AJ h4
 obtain ⟨r,oq⟩:=at_ oo
 refine ac ?_
 refine Tr.seq (Tr.block (Tr.seq (Tr.Bq (co rfl (AB rfl underlying22 BJ vq vq AA Bk) ?_))))
 · repeat' first|(refine int_eq ?_;unfold BS.EU;rw [if_neg (not_not_intro hown),if_neg AA,if_neg AA,any_nil,if_pos (JO oq N2)])|(exact Fin.AL (a+1) ⟨⟨oo,KP oq N2 Gu⟩,by omega⟩ ⟨⟨_,rfl,AG a⟩,kz⟩)|refine ac ?_|(refine Tr.cn rfl ?_ ?_<;>intro h q)|(refine Ch.cg rfl rfl rfl ?_ ?_<;>intro h q)
 have ABF:a=(An).length:=by have:=AK h4;omega
 subst ABF
 refine a2 ?_
 refine Tr.block (Tr.A0 _ (kk [45,44,3,2] rfl) (fun k:Nat=>[(46,int ((k:Nat):Int))]) (fun k:Nat=>k≤(An).length∧(((An.zip days).take k).all (fun p=>c.may p.1 p.2)=true)) (fun k:Nat=>(An).length-k) 0 (⟨Nat.zero_le _,by simp⟩) kz ?_)
 rintro k ⟨BN,AX⟩
 refine ac ?_
 refine Tr.seq ?_
 refine Tr.cn rfl ?_ ?_<;>intro h7 q7
 have Ae:k<(An).length:=AJ h7
 obtain ⟨n,Af⟩:=at_ Ae
 obtain ⟨d,hd⟩:=at_ (l:=days) (k:=k) AA
 · repeat' first|(refine int_eq ?_;unfold BS.EU;rw [if_neg (not_not_intro hown),if_neg AA,if_neg AA,any_nil,if_neg (Bb (CT Gu)),if_neg (ABD Af hd BO)])|exact Fin.AL (k+1) ⟨⟨Ae,oy Af hd B9 AX⟩,by omega⟩ ⟨⟨_,rfl,AG k⟩,kz⟩|refine co rfl (JA rfl BT rfl) (co rfl (Iy (ox) rfl rfl rfl rfl) ?_)|refine co rfl (AB rfl underlying22 BJ vq vq AA Bk) ?_|refine ac ?_|(refine Tr.cn rfl ?_ ?_<;>intro h q)
 have BC:k=(An).length:=by have:=AK h7;omega
 subst BC
 refine a3 ?_
 · refine int_eq ?_;unfold BS.EU;rw [if_neg (not_not_intro hown),if_neg AA,if_neg AA,any_nil,if_neg (Bb (CT Gu)),if_pos (wH AX AA)]
def BS.Fx (c:BS) (l:List (Int×Int)):List (List Int):=(List.range c.B_.length).map fun i=>(List.range c.room.length).map fun n=>(c.cnt l (i*8+n):Int)
def LS (c:BS) (l:List (Int×Int)):List (List Pr):=(c.Fx l).map fun r=>r.map fun z=>int z
def oz (c:BS):List Pr:=(List.replicate c.room.length (Value.int .i64 0)).map is
theorem Hh (c:BS) (l:List (Int×Int)):(LS c l).length=c.B_.length:=by simp [LS,BS.Fx]
theorem o9 {c:BS} {l:List (Int×Int)}:∀r∈LS c l,r.length=c.room.length:=by grind [LS,BS.Fx]
theorem iP (c:BS):LS c []=List.replicate c.B_.length (oz c):=by
 apply List.ext_getElem?
 intro i
 by_cases hi:i<c.B_.length
 ·
  rw [List.getElem?_replicate,if_pos hi]
  simp only [LS,BS.Fx,List.getElem?_map,List.getElem?_range hi,Option.map_some]
  congr 1
  apply List.ext_getElem?
  intro n
  by_cases hn:n<c.room.length
  · simp [oz,List.getElem?_range hn,List.getElem?_replicate,hn,BS.cnt]
  · rw [List.getElem?_eq_none Bz,List.getElem?_eq_none (by simp [oz];omega)]
 · rw [List.getElem?_eq_none U9,List.getElem?_eq_none Bz]
def NX (c:BS) (l:List (Int×Int)) (i:Nat):List Pr:=(List.range c.room.length).map fun n=>int (c.cnt l (i*8+n))
theorem Qa {c:BS} {l:List (Int×Int)} (hi:i<c.B_.length):(LS c l)[i]? =some (NX c l i):=by
 simp [LS,BS.Fx,List.getElem?_range hi,NX]
theorem EH (c:BS) (l:List (Int×Int)) (i:Nat):(NX c l i).length=c.room.length:=by simp [NX]
theorem Qb {c:BS} {l:List (Int×Int)} (hn:n<c.room.length):(NX c l i)[n]? =some (int (c.cnt l (i*8+n))):=by
 simp [NX,List.getElem?_range hn]
theorem NY (c:BS) (l:List (Int×Int)) (x d:Int) (k:Nat):c.cnt (l++[(x,d)]) k=c.cnt l k+if (c.at d).toNat*8+x.toNat=k then 1 else 0:=by grind [BS.cnt,BS.cell]
theorem aA {c:BS} {l:List (Int×Int)} {x d:Int} (h8:c.room.length≤8) (hx:x.toNat<c.room.length) (hj:(c.at d).toNat≠j):NX c (l++[(x,d)]) j=NX c l j:=by
 unfold NX
 refine List.map_congr_left fun m hm=> ?_
 have:=List.mem_range.1 hm
 rw [NY,if_neg AA];rfl
theorem iQ {c:BS} {l:List (Int×Int)} {x d:Int} (h8:c.room.length≤8) (hx:x.toNat<c.room.length):(NX c l (c.at d).toNat).take (0+x.toNat*1)++[int ((c.cnt l ((c.at d).toNat*8+x.toNat):Int)+1)]++(NX c l (c.at d).toNat).drop (0+x.toNat*1+1)=NX c (l++[(x,d)]) (c.at d).toNat:=by
 rw [show 0+x.toNat*1=x.toNat by omega]
 apply List.ext_getElem?
 intro k
 by_cases hk:k<c.room.length
 ·
  rw [Qb hk,NY]
  rcases Nat.lt_trichotomy k x.toNat with h|h|h
  · rw [List.append_assoc,List.getElem?_append_left (by rw [List.length_take,EH];omega),List.getElem?_take,if_pos h,Qb hk,if_neg AA];rfl
  ·
   subst h
   rw [List.append_assoc,List.getElem?_append_right (by rw [List.length_take,EH];omega),List.length_take,EH,Nat.min_eq_left AA,Nat.sub_self]
   simp
  ·
   rw [List.getElem?_append_right (by rw [List.length_append,List.length_take,EH];simp;omega),List.length_append,List.length_take,EH,List.getElem?_drop,Nat.min_eq_left AA]
   simp only [List.length_cons,List.length_nil]
   rw [show x.toNat+1+(k-(x.toNat+(0+1)))=k by omega,Qb hk,if_neg AA];rfl
 · rw [List.getElem?_eq_none (by simp [EH];omega),List.getElem?_eq_none (by rw [EH];omega)]
theorem o_ {c:BS} {l:List (Int×Int)} {x d:Int} (h8:c.room.length≤8) (hi:(c.at d).toNat<c.B_.length) (hx:x.toNat<c.room.length):(LS c l).set (c.at d).toNat (NX c (l++[(x,d)]) (c.at d).toNat)=LS c (l++[(x,d)]):=by
 apply List.ext_getElem?
 intro j
 rw [List.getElem?_set]
 by_cases hj:(c.at d).toNat=j
 ·
  subst hj
  rw [if_pos rfl,if_pos (by rw [Hh];exact hi),Qa hi]
 ·
  rw [if_neg hj]
  by_cases hl:j<c.B_.length
  · rw [Qa hl,Qa hl,aA h8 hx hj]
  · rw [List.getElem?_eq_none U9,List.getElem?_eq_none U9]
abbrev rowsOf (c:BS) (bs:List Nat):Pr:=slice 1 (bs.map fun b=>[is (Jp c.room.length b)])
theorem NZ {c:BS} {others:List Int} (h:c.EU An days others=0):An.length=days.length∧An.length≤24:=by grind [BS.EU]
theorem SG {c:BS} {others:List Int} (h:c.EU An days others=0):(An.zip days).all (fun p=>c.may p.1 p.2)=true:=by grind [BS.EU]
theorem ec {c:BS} (hf:c.EU An days []=0):A_ prog 212 [MN c,ints An,ints days] (slice 1 ((c.Fx (An.zip days)).map fun r=>[ints r])):=by
 refine fo func212 rfl ⟨rfl,rfl⟩ fun M0 w0=> ?_
 have hown:=Io hf
 obtain ⟨h32,h8⟩:=SC hown
 obtain ⟨hlen,Nw⟩:=NZ hf
 have hmay:=SG hf
 have SH:=Xj hf
 have hm:c.room.length≤maxLen:=by unfold maxLen;omega
 refine a3 ?_
 refine Tr.block (Tr.B5 22 1 (Tr.J6 _ (kk [12,3,2,1] rfl) (fun (bs:List Nat) u=>[(13,int ((bs.length:Nat):Int)),(7,Ag u (rowsOf c bs))]) (fun (bs:List Nat) u=>Hp M0 w0 FG (Ax 22 1 u::Dj 3 bs (List.replicate bs.length (oz c)))) (fun (bs:List Nat)=>bs.length≤c.B_.length) (fun (bs:List Nat)=>c.B_.length-bs.length) ([]) (.slice none 0 0) AR ⟨kq,⟨_,rfl,Bf AR⟩,trivial⟩ (fun _ _ h=>h) ?_))
 rintro bs u VU
 refine ac ?_
 refine Tr.seq ?_
 refine Tr.cn rfl ?_ ?_<;>intro h1 q1
 have hlt:bs.length<c.B_.length:=AJ h1
 refine ac ?_
 refine ap ?_
 refine TO.VJ rfl rfl AD rfl underlying22 BJ IE z3 rfl vq vq Fa AA (fun b1=> ?_)
 refine tp rfl (Aa (xs:=[.tmp 19]) (rows:=[[_]]) rfl rfl underlying98 G0 z22 rfl AD ⟨⟨Ao,Ce⟩,trivial⟩ AD) ?_
 refine TO.C1 1 rfl rfl AD (B7 rfl rfl rfl rfl underlying98 G0 AIR z22 Fo Ea (A7 BD Gi)) (fun v1=> ?_)
 refine ap ?_
 refine wk [13,12,7,3,2,1] rfl ?_
 refine ac ?_
 refine Fin.perm (rs':=Ax 22 1 v1::Dj 3 (bs++[b1]) (List.replicate (bs++[b1]).length (oz c))) ((List.Perm.swap _ _ _).trans (List.Perm.cons _ (by rw [List.length_append,List.length_singleton,List.replicate_succ'];exact (Tt AR).symm))) ?_
 exact Fin.K0 (bs++[b1]) v1 (⟨by simp;omega,by simp;omega⟩) ⟨⟨_,rfl,int_eq AR⟩,⟨_,rfl,A9 DC⟩,kz⟩ (fun _ _ h=>h)
 have Ys:bs.length=c.B_.length:=by have:=AK h1;omega
 refine a2 ?_
 refine Tr.block ?_
 refine Tr.EM _ (kk [24,23,3,2] rfl) (fun k u2=>[(25,int ((k:Nat):Int)),(7,Ag u2 (rowsOf c bs))]) (fun k u2=>Hp M0 w0 FG (Ax 22 1 u2::Dj 3 bs (LS c ((An.zip days).take k)))) (fun k:Nat=>k≤(An).length) (fun k:Nat=>(An).length-k) 0 u (Nat.zero_le _) ⟨kq,⟨_,rfl,A9 AR⟩,trivial⟩ ((by rw [List.take_zero,iP,←Ys];exact fun _ _ h=>h)) ?_
 rintro k u2 BN
 refine ac ?_
 refine Tr.seq ?_
 refine Tr.cn rfl ?_ ?_<;>intro h2 q2
 have Ae:k<(An).length:=AJ h2
 obtain ⟨n,Af⟩:=at_ Ae
 obtain ⟨d,hd⟩:=at_ (l:=days) (k:=k) AA
 have hmk:c.may n d=true:=by have:=List.all_eq_true.1 hmay (n,d) (List.mem_of_getElem? (by rw [List.getElem?_zip_eq_some];exact ⟨Af,hd⟩));exact this
 have hat:=og hmk
 have hai:(c.at d).toNat<c.B_.length:=by have:=(UH (EC d) c.B_).2;unfold BS.at at*;omega
 obtain ⟨b0,hb0⟩:=at_ (l:=bs) (k:=(c.at d).toNat) AA
 have hn8:=SH n (List.mem_append_left _ (List.mem_of_getElem? Af))
 have hn9:0≤n∧n<c.room.length:=by unfold BS.has at hn8;simpa using hn8
 have hxn:n.toNat<c.room.length:=by omega
 have hbt:bs.length=(LS c ((An.zip days).take k)).length:=by rw [Hh];exact Ys
 have wK:c.cnt ((An.zip days).take k) ((c.at d).toNat*8+n.toNat)≤24:=Nat.le_trans (ABC _ _ _) Bz
 refine a2 ?_
 refine co rfl (AB rfl underlying22 BJ vq vq AA Bk) ?_
 refine ac ?_
 refine Tr.perm (rs':=AE true b0 3 (NX c ((An.zip days).take k) (c.at d).toNat)::Ax 22 1 u2::Dj 3 (bs.eraseIdx (c.at d).toNat) ((LS c ((An.zip days).take k)).eraseIdx (c.at d).toNat)) (((lY hbt hb0 (Qa hai)).cons _).trans (List.Perm.swap _ _ _)) ?_
 refine Tr.rx ?_
 refine ay ?_
 refine xo rfl (fun _=>AB rfl underlying22 BJ vq vq AA Bk) ?_
 refine xo rfl (fun _=>JA rfl BT rfl) (xo rfl (fun _=>Bu (zD) rfl rfl rfl) (xo rfl (fun _=>AB rfl underlying98 G0 Fo vq AA Bk) ?_))
 refine ay ?_
 refine xo rfl (fun _=>AH rfl underlying22 BJ vq vq AA AA) ?_
 refine GV 0 rfl rfl (AW rfl BT vq (by rw [show 0+n.toNat*1=n.toNat by omega];exact Qb hxn)) ?_
 refine xo rfl (fun _=>I7 rfl vq vq ?hin) ?_;case hin=>unfold Oj;omega
 refine xo rfl (fun _=>AH rfl underlying22 BJ vq vq AA AA) ?_
 refine Cx.C0 0 rfl rfl (Aq rfl rfl vq Ce BJ rfl (by rw [EH];omega) (iQ h8 hxn)) ?_
 refine Cx.nil ⟨by kernel_rfl,?_⟩
 refine BE.done Mk ?_
 refine ac ?_
 refine wk [25,24,23,7,3,2] rfl ?_
 refine ac ?_
 refine Fin.perm (rs':=Ax 22 1 u2::Dj 3 bs (LS c ((An.zip days).take (k+1)))) ((List.Perm.swap _ _ _).trans (List.Perm.cons _ (by rw [Xi Af hd,←o_ h8 hai hxn];exact (VK _ hbt hb0).symm))) ?_
 exact Fin.C_ (k+1) u2 (⟨Ae,by omega⟩) ⟨⟨_,rfl,AG k⟩,⟨_,rfl,A9 AR⟩,kz⟩ (fun _ _ h=>h)
 have BC:k=(An).length:=by have:=AK h2;omega
 subst BC
 have hbt:bs.length=(LS c ((An.zip days).take An.length)).length:=by rw [Hh];exact Ys
 refine ac ?_
 refine Tr.seq (Tr.drop 0 (Tr.W8 7 hbt hm o9 rfl (At _ _) ?_))
 refine a2 ?_
 · exact Pr.le_of_eq (by rw [List.take_of_length_le Bz];unfold LS;rw [List.map_map];exact congrArg _ (List.map_congr_left fun r _=>by show [slice 1 _]=[slice 1 _];rw [List.map_map];rfl))
theorem ej {c:BS} {l:List (Int×Int)} {r:List Int} (h:(c.Fx l)[i]? =some r):i<c.B_.length∧r=(List.range c.room.length).map fun n=>(c.cnt l (i*8+n):Int):=by grind [BS.Fx]
theorem pE {c:BS} {l:List (Int×Int)} {r:List Int} {z:Int} (hr:r=(List.range c.room.length).map fun n=>(c.cnt l (i*8+n):Int)) (h:r[n]? =some z):n<c.room.length∧z=c.cnt l (i*8+n):=by grind
theorem SI (c:BS) (l:List (Int×Int)):(c.Fx l).length=c.B_.length:=by simp [BS.Fx]
theorem wL {c:BS}:A_ prog 211 [MN c,ints An,ints days] (int (c.DZ An days [])):=by
 refine fo func211 rfl ⟨rfl,rfl⟩ fun M0 w0=> ?_
 refine a2 ?_
 refine co rfl (Iy (ABH) rfl rfl rfl rfl) ?_
 refine ac ?_
 refine an ?_ ?_<;>intro h1 q1
 refine a2 ?_
 · refine int_eq ?_;unfold BS.DZ;rw [if_pos BO]
 have hf:c.EU An days []=0:=q1
 refine a2 ?_
 refine co rfl (Iy (ec BO) rfl rfl rfl rfl) ?_
 refine ac ?_
 refine wk [24,23,22,3] rfl (Tr.block (Tr.CN 22 rfl fun hlt=>(Tr.A0 _ (kk [23,22,3] rfl) (fun i:Nat=>[(24,int ((i:Nat):Int))]) (fun i:Nat=>i≤(c.Fx (An.zip days)).length∧(∀i' n r,i'<i→c.room[n]? =some r→(c.cnt (An.zip days) (i'*8+n):Int)≤r)) (fun i:Nat=>(c.Fx (An.zip days)).length-i) 0 (⟨Nat.zero_le _,fun i' n r hi=>absurd hi AA⟩) kz ?_)))
 rintro i ⟨UD,E0⟩
 refine ac ?_
 refine Tr.seq ?_
 refine Tr.cn rfl ?_ ?_<;>intro h2 q2
 have Ik:i<(c.Fx (An.zip days)).length:=AJ h2
 obtain ⟨row,LP⟩:=at_ Ik
 obtain ⟨hiw,hrow⟩:=ej LP
 have hrl:row.length=c.room.length:=by rw [hrow];simp
 refine ac ?_
 refine Tr.seq (Tr.block (Tr.seq (Tr.Bq (co rfl (AB rfl underlying98 G0 vq vq AA Bk) ?_))))
 refine a2 ?_
 refine Tr.block (Tr.CN 28 rfl fun hlr=>(Tr.A0 _ (kk [29,28,24,23,22,3] rfl) (fun m:Nat=>[(30,int ((m:Nat):Int))]) (fun m:Nat=>m≤(row).length∧(∀n r,n<m→c.room[n]? =some r→(c.cnt (An.zip days) (i*8+n):Int)≤r)) (fun m:Nat=>(row).length-m) 0 (⟨Nat.zero_le _,fun n r hn=>absurd hn AA⟩) kz ?_))
 rintro m ⟨KM,IJ⟩
 refine ac ?_
 refine Tr.seq ?_
 refine Tr.cn rfl ?_ ?_<;>intro h3 q3
 have Du:m<(row).length:=AJ h3
 obtain ⟨z,Dn⟩:=at_ Du
 obtain ⟨hmr,hz⟩:=pE hrow Dn
 obtain ⟨r,hr⟩:=at_ hmr
 subst hz
 · repeat' first|(refine int_eq ?_;unfold BS.DZ;rw [if_neg (not_not_intro hf),if_pos ⟨i,m,r,hiw,hr,by omega⟩])|exact Fin.AL (m+1) ⟨⟨Du,Z_ IJ hr AA⟩,by omega⟩ ⟨⟨_,rfl,AG m⟩,kz⟩|refine co rfl (AB rfl underlying22 BJ vq vq AA Bk) ?_|refine ac ?_|(refine Tr.cn rfl ?_ ?_<;>intro h q)
 have Il:m=(row).length:=by have:=AK h3;omega
 subst Il
 refine a2 ?_
 exact Fin.AL (i+1) ⟨⟨Ik,Z9 E0 (by rw [←hrl];exact IJ)⟩,by omega⟩ ⟨⟨_,rfl,AG i⟩,kz⟩
 have NU:i=(c.Fx (An.zip days)).length:=by have:=AK h2;omega
 subst NU
 refine a3 ?_
 · refine int_eq ?_;unfold BS.DZ;rw [if_neg (not_not_intro hf),if_neg (by rintro ⟨i,n,r,h1,h2,h3⟩;have:=E0 i n r (by rw [SI];exact h1) h2;omega)]
theorem iR {c:BS} {n:Int} (h:c.has n=true):c.EU An days [n]=c.EU An days []:=by grind [BS.EU]
theorem HQ {c:BS} {n:Int} (h:c.has n=true):c.DZ An days [n]=c.DZ An days []:=by
 unfold BS.DZ;rw [iR h]
theorem De {c:BS} {os:List Int} {e:Int} (h:c.EU An days os=e) (he:e≠0):c.DZ An days os=e:=by
 unfold BS.DZ;rw [if_pos P0,h]
theorem OQ {c:BS} {os:List Int} (h:¬c.own=0):c.EU An days os=c.own:=by unfold BS.EU;rw [if_pos h]
theorem aB {c:BS} {os:List Int} (h:c.own=0) (h1:An.length≠days.length):c.EU An days os=1:=by unfold BS.EU;rw [if_neg (not_not_intro h),if_pos h1]
theorem aC {c:BS} {os:List Int} (h:c.own=0) (h1:An.length=days.length) (h2:24<An.length):c.EU An days os=3:=by grind [BS.EU]
theorem ZF {c:BS} {n:Int} (h:c.own=0) (h1:An.length=days.length) (h2:¬24<An.length) (h3:¬c.has n=true):c.EU An days [n]=2:=by grind [BS.EU]
theorem EW {c:BS} {n d e:Int} (h:c.DZ An days [n]=e) (he:e≠0):c.early An days n d=none:=by
 unfold BS.early;rw [if_neg P0]
theorem KR {c:BS} {n d:Int} (h:c.DZ An days [n]=0):c.early An days n d=c.next n d (c.free (An.zip days) n):=by
 unfold BS.early;rw [if_pos h]
theorem SJ {c:BS} {n day:Int} {room:Nat→Bool} (h:c.own=0) {w:JM} (hw:c.B_[k]? =some w) (hd:max day w.lo<w.hi) (hm:c.may n (max day w.lo)=true) (hr:room k=true):ED n (max day 0) room k (c.B_.drop k)=some (max day w.lo):=by grind [Ip,Xk,oa]
theorem KS {c:BS} {n day:Int} {room:Nat→Bool} (h:c.own=0) {w:JM} (hw:c.B_[k]? =some w) (hd:¬(max day w.lo<w.hi∧c.may n (max day w.lo)=true∧room k=true)):ED n (max day 0) room k (c.B_.drop k)=ED n (max day 0) room (k+1) (c.B_.drop (k+1)):=by grind [Ip,iO,Xk]
theorem Xl {c:BS} {n from_:Int}:A_ prog 150 [MN c,ints An,ints days,int n,int from_] (DW [int ((c.early An days n from_).getD 0),bool (c.early An days n from_).isSome,int (c.DZ An days [n])]):=by
 refine fo func150 rfl ⟨rfl,rfl⟩ fun M0 w0=>(Tr.IX 0 0 rfl rfl fun LB=>(Tr.IX 0 1 rfl rfl fun LC=>(Tr.IX 0 2 rfl rfl fun eY=>(Tr.CN 1 rfl fun Fq=>(Tr.CN 2 rfl fun n7=> ?_)))))
 refine a2 ?_
 refine co rfl (Bu (KQ) rfl rfl rfl) ?_
 refine ac ?_
 refine Tr.seq (Tr.re 13 rfl (int_eq (b:=c.own) rfl) ?_)
 refine an ?_ ?_<;>intro h1 q1
 refine ac ?_
 refine wk [12,11,10] rfl (Tr.ret (Fin.AF (Fin.I6 rfl (Bt.Dx _ _) rfl ?_ rfl ?_ rfl ?_)))
 · refine int_eq ?_;rw [EW (De (OQ BO) BO) BO];rfl
 · refine bool_eq ?_;rw [EW (De (OQ BO) BO) BO];rfl
 · refine int_eq ?_;exact (De (OQ BO) BO).symm
 have hown:c.own=0:=q1
 refine a2 ?_
 refine wk [31,5,4,3,2,1] rfl ?_
 refine Tr.cn rfl ?_ ?_<;>intro h2 q2
 refine ac ?_
 refine Tr.ret (Fin.AF (Fin.I6 rfl (Bt.Dx _ _) rfl ?_ rfl ?_ rfl ?_))
 · refine int_eq ?_;rw [EW (De (aB hown AA) AD) AD];rfl
 · refine bool_eq ?_;rw [EW (De (aB hown AA) AD) AD];rfl
 · refine int_eq ?_;exact (De (aB hown AA) AD).symm
 refine ac ?_
 refine an ?_ ?_<;>intro h3 q3
 refine ac ?_
 refine Tr.ret (Fin.AF (Fin.I6 rfl (Bt.Dx _ _) rfl ?_ rfl ?_ rfl ?_))
 · refine int_eq ?_;rw [EW (De (aC hown AA AA) AD) AD];rfl
 · refine bool_eq ?_;rw [EW (De (aC hown AA AA) AD) AD];rfl
 · refine int_eq ?_;exact (De (aC hown AA AA) AD).symm
 refine ac ?_
 refine ag ?_ ?_<;>intro h4 q4
 refine ac ?_
 refine wk [43,5,4,3,2,1] rfl ?_
 refine ac ?_
 refine Tr.ret (Fin.AF (Fin.I6 rfl (Bt.Dx _ _) rfl ?_ rfl ?_ rfl ?_))
 · exact k6
 · exact k5
 · exact bg
 refine ac ?_
 refine wk [43,5,4,3,2,1] rfl ?_
 refine Tr.cn rfl ?_ ?_<;>intro h5 q5
 refine ac ?_
 refine Tr.ret (Fin.AF (Fin.I6 rfl (Bt.Dx _ _) rfl ?_ rfl ?_ rfl ?_))
 · exact k6
 · exact k5
 · exact bg
 have SH:c.has n=true:=by simp [BS.has];omega
 refine a2 ?_
 refine co rfl (Iy (wL) rfl rfl rfl rfl) ?_
 refine ac ?_
 refine an ?_ ?_<;>intro h6 q6
 refine ac ?_
 refine wk [12,11,10] rfl (Tr.ret (Fin.AF (Fin.I6 rfl (Bt.Dx _ _) rfl ?_ rfl ?_ rfl ?_)))
 · refine int_eq ?_;rw [EW (HQ SH) BO];rfl
 · refine bool_eq ?_;rw [EW (HQ SH) BO];rfl
 · refine int_eq ?_;exact (HQ SH).symm
 have kK:c.DZ An days []=0:=q6
 have hf:=HP kK
 have hfn:c.DZ An days [n]=0:=by rw [HQ SH];exact kK
 refine a2 ?_
 refine co rfl (Iy (ec BO) rfl rfl rfl rfl) ?_
 refine ac ?_
 refine wk [15,5,4,3] rfl ?_
 refine ac ?_
 refine Tr.block (Tr.A0 _ (kk [57,56,15,5,4,3] rfl) (fun k:Nat=>[(58,int ((k:Nat):Int))]) (fun k:Nat=>k≤(c.B_).length∧(c.next n from_ (c.free (An.zip days) n)=ED n (max from_ 0) (c.free (An.zip days) n) k (c.B_.drop k))) (fun k:Nat=>(c.B_).length-k) 0 (⟨Nat.zero_le _,rfl⟩) kz ?_)
 rintro k ⟨BN,AX⟩
 refine ac ?_
 refine Tr.seq ?_
 refine Tr.cn rfl ?_ ?_<;>intro h7 q7
 have Ae:k<(c.B_).length:=AJ h7
 obtain ⟨w,Af⟩:=at_ Ae
 obtain ⟨row,hrow⟩:=at_ (l:=c.Fx (An.zip days)) (k:=k) (by rw [SI];exact Ae)
 obtain ⟨_,hr2⟩:=ej hrow
 obtain ⟨hn0,hrm⟩:=SD SH
 obtain ⟨z,hz⟩:=at_ (l:=row) (k:=n.toNat) (by rw [hr2];simp;have:=SH;simp [BS.has] at this;omega)
 obtain ⟨ZZ,HW⟩:=pE hr2 hz
 refine ac ?_
 refine ao ?_
 refine tp rfl (AB rfl underlying68 Ie vq vq AA Bk) ?_
 refine tp rfl (Al rfl RT Ie vq rfl rfl) ?_
 refine Tl rfl rfl rfl rfl gR RU (fun b1=> ?_)
 refine tm rfl ?_
 refine sf 0 17 ⟨rfl,rfl,rfl⟩ rfl rfl rfl rfl ?_
 refine ao ?_
 refine wk [58,57,56,17,16,15,5,4,3] rfl ?_
 refine ac ?_
 refine co rfl (N9 rfl vq vq) ?_
 refine ac ?_
 refine wk [58,57,56,18,17,16,15,5,4,3] rfl ?_
 refine ag ?_ ?_<;>intro h8 q8
 refine ac ?_
 refine cy h8 rfl (Iy (ox) rfl rfl rfl rfl) ?_
 refine ag ?_ ?_<;>intro h9 q9
 refine ac ?_
 refine cy h9 rfl (AB rfl underlying98 G0 vq vq AA Bk) ?_
 refine ac ?_
 refine cy h9 rfl (AB rfl underlying22 BJ vq vq AA Bk) ?_
 refine ac ?_
 refine cy h9 rfl (AB rfl underlying22 BJ vq vq AA Bk) ?_
 refine ac ?_
 refine wk [93,58,57,56,18,15,5,4,3] rfl ?_
 refine Tr.cn rfl ?_ ?_<;>intro h10 O2
 refine ac ?_
 refine Tr.ret (Fin.AP (Fin.AF (Fin.AF (Fin.AP (Fin.AF (Fin.I6 rfl (Bt.Dx _ _) rfl ?_ rfl ?_ rfl ?_))))))
 · refine int_eq ?_;rw [KR hfn,AX,SJ hown Af BO BO (by simp only [BS.free,decide_eq_true_eq];omega)];rfl
 · refine bool_eq ?_;rw [KR hfn,AX,SJ hown Af BO BO (by simp only [BS.free,decide_eq_true_eq];omega)];rfl
 · refine int_eq ?_;exact hfn.symm
 refine a2 ?_
 exact Fin.AL (k+1) ⟨⟨Ae,(AX.trans (KS hown Af cH))⟩,by omega⟩ ⟨⟨_,rfl,AG k⟩,kz⟩
 refine ac ?_
 refine wk [93,58,57,56,18,15,5,4,3] rfl ?_
 refine a2 ?_
 exact Fin.AL (k+1) ⟨⟨Ae,(AX.trans (KS hown Af (by rintro ⟨a1,a2,a3⟩;simp only [BS.free,decide_eq_true_eq] at a3;simp_all)))⟩,by omega⟩ ⟨⟨_,rfl,AG k⟩,kz⟩
 refine ac ?_
 refine wk [93,58,57,56,18,15,5,4,3] rfl ?_
 refine a2 ?_
 exact Fin.AL (k+1) ⟨⟨Ae,(AX.trans (KS hown Af cH))⟩,by omega⟩ ⟨⟨_,rfl,AG k⟩,kz⟩
 have BC:k=(c.B_).length:=by have:=AK h7;omega
 subst BC
 refine a2 ?_
 refine Tr.ret (Fin.I6 rfl (Bt.Dx _ _) rfl ?_ rfl ?_ rfl ?_)
 · refine int_eq ?_;rw [KR hfn,AX,List.drop_length];rfl
 · refine bool_eq ?_;rw [KR hfn,AX,List.drop_length];rfl
 · refine int_eq ?_;exact hfn.symm
theorem ABI {k:Int}:∀{l:List JM} {j:Nat} {w:JM},UJ l→l[j]? =some w→EC k w=true→idx (EC k) l=j:=by
 intro l j w hp hj hin
 refine (Ev hj hin fun i y hi hy=> ?_).symm
 rw [Bool.eq_false_iff]
 intro hc
 have h1:=SE hc
 have h2:=SE hin
 have hij:i<l.length:=by rcases Nat.lt_or_ge i l.length with h|h;exact h;rw [List.getElem?_eq_none h] at hy;cases hy
 have hjl:j<l.length:=by rcases Nat.lt_or_ge j l.length with h|h;exact h;rw [List.getElem?_eq_none h] at hj;cases hj
 have:=List.pairwise_iff_getElem.1 hp i j hij hjl hi
 rw [List.getElem?_eq_getElem hij] at hy
 rw [List.getElem?_eq_getElem hjl] at hj
 simp at hy hj
 rw [hy,hj] at this
 omega
theorem pF {c:BS} {k:Int} {w:JM} (h:c.own=0) (hj:c.B_[j]? =some w) (hin:EC k w=true):c.at k=j:=by
 obtain ⟨h1,h2⟩:=Ip h
 exact ABI (Iq h1 h2) hj hin
theorem Na {a b:List Int} (h:a.length=b.length) (x y:Int):(a++[x]).zip (b++[y])=a.zip b++[(x,y)]:=by
 rw [List.zip_append h];rfl
theorem iS {c:BS} {a b:List Int} {t d:Int} (hf:c.EU a b []=0) (Nw:a.length<24) (ht:c.has t=true) (hm:c.may t d=true):c.EU (a++[t]) (b++[d]) []=0:=by
 have ho:=Io hf
 have hl:=(NZ hf).1
 have h1:=Xj hf
 have h2:=SG hf
 unfold BS.EU
 rw [if_neg (not_not_intro ho),if_neg (by simp [hl]),if_neg Bz,if_neg,Na hl,List.all_append,h2,if_pos (by simp [hm])]
 rw [Bool.not_eq_true,List.any_eq_false]
 intro n hn
 have:c.has n=true:=by
  rw [List.append_nil] at hn
  rcases List.mem_append.1 hn with hn|hn
  · exact h1 n (List.mem_append_left _ hn)
  · rw [List.mem_singleton.1 hn];exact ht
 simp [this]
theorem iT {c:BS} {a b:List Int} {t d:Int} (hf:c.DZ a b []=0) (Nw:a.length<24) (ht:c.has t=true) (hm:c.may t d=true) (hr:c.cnt (a.zip b) ((c.at d).toNat*8+t.toNat)<c.MP t):c.DZ (a++[t]) (b++[d]) []=0:=by
 have kK:=HP hf
 have h1:=iS kK Nw ht hm
 have ho:=Io kK
 obtain ⟨h32,h8⟩:=SC ho
 have hl:=(NZ kK).1
 unfold BS.DZ
 rw [if_neg (not_not_intro h1),if_neg]
 rintro ⟨i,n,r,hi,hn,hc⟩
 rw [Na hl,NY] at hc
 have hn8:n<8:=by
  rcases Nat.lt_or_ge n c.room.length with h|h
  · omega
  · rw [List.getElem?_eq_none h] at hn;cases hn
 have ht8:=oh ho ht
 have hno:¬c.over (a.zip b):=by
  unfold BS.DZ at hf
  rw [if_neg (not_not_intro kK)] at hf
  intro hh;rw [if_pos hh] at hf;cases hf
 have hle:(c.cnt (a.zip b) (i*8+n):Int)≤r:=by
  rcases Int.lt_or_le r (c.cnt (a.zip b) (i*8+n):Int) with h|h
  · exact absurd ⟨i,n,r,hi,hn,h⟩ hno
  · exact h
 split at hc
 ·
  rename_i he
  have e1:(c.at d).toNat=i:=by omega
  have e2:t.toNat=n:=by omega
  have:=(SD ht).2
  rw [e2,hn] at this
  simp at this
  rw [e1,e2] at hr
  omega
 · omega
theorem pG {c:BS} (h:c.own=0):c.DZ [] [] []=0:=by
 have hf:c.EU [] [] []=0:=by
  unfold BS.EU
  rw [if_neg (not_not_intro h),if_neg AR,if_neg AR,if_neg AR,if_pos (by rfl)]
 unfold BS.DZ
 rw [if_neg (not_not_intro hf),if_neg]
 rintro ⟨i,n,r,_,hn,hc⟩
 have h2:=(MQ (show c.check c.JN.length=0 from h)).2.1
 rw [List.any_eq_false] at h2
 have:=h2 r (List.mem_of_getElem? hn)
 simp [LA] at this
 simp [BS.cnt] at hc
 omega
theorem O8 {t d x:Int} {room:Nat→Bool}:∀{l:List JM} {i:Nat},ED t d room i l=some x→UJ l→(∀w∈l,0≤w.lo∧w.lo<w.hi)→
  d≤x∧(∃(j:Nat) (w:JM),l[j]? =some w∧EC x w=true∧w.An.any (fun y=>t==y)=true∧room (i+j)=true)∧∀k,d≤k→k<x→∀(j:Nat) (w:JM),l[j]? =some w→EC k w=true→¬(w.An.any (fun y=>t==y)=true∧room (i+j)=true)
 |[],_,h,_,_=>by cases h
 |a::l,i,h,hp,hw=>by
  have ha:=hw a AR
  unfold ED at h
  split at h
  ·
   rename_i hc
   simp only [Option.some.injEq] at h
   subst h
   refine ⟨by omega,⟨0,a,rfl,zC AA,hc.2.1,hc.2.2⟩,fun k hk hx j w hj hin=> ?_⟩
   have:=SE hin
   match j with
   |0=>simp at hj;subst hj;omega
   |j+1=>
    have h1:=(List.pairwise_cons.1 hp).1 w (List.mem_of_getElem? GR)
    omega
  ·
   rename_i hc
   obtain ⟨h1,⟨j,w,hj,h2,h3,h5⟩,h4⟩:=O8 h (List.pairwise_cons.1 hp).2 (fun w hm=>hw w (List.mem_cons_of_mem _ hm))
   refine ⟨h1,⟨j+1,w,by simpa using hj,h2,h3,by rw [show i+(j+1)=i+1+j by omega];exact h5⟩,fun k hk hx j u hu hin=> ?_⟩
   match j with
   |0=>
    simp at hu;subst hu
    have:=SE hin
    exact fun h=>hc ⟨by omega,h.1,h.2⟩
   |j+1=>
    have:=h4 k hk hx j u (by simpa using hu) hin
    rwa [show i+(j+1)=i+1+j by omega]
def BS.Mh (c:BS) (l:List (Int×Int)) (t k:Int):Bool:=c.may t k&&decide ((c.cnt l ((c.at k).toNat*8+t.toNat):Int)<c.MP t)
theorem wM {c:BS} {l:List (Int×Int)} {t k:Int} (h:c.own=0):c.Mh l t k=true↔∃(j:Nat) (w:JM),c.B_[j]? =some w∧EC k w=true∧w.An.any (fun y=>t==y)=true∧c.free l t j=true:=by
 unfold BS.Mh
 rw [Bool.and_eq_true,wI h,decide_eq_true_eq]
 constructor
 ·
  rintro ⟨⟨w,hw,h1,h2⟩,h3⟩
  obtain ⟨j,hj⟩:=List.mem_iff_getElem?.1 hw
  refine ⟨j,w,hj,h1,h2,?_⟩
  rw [pF h hj h1,Int.toNat_natCast] at h3
  simpa [BS.free] using h3
 ·
  rintro ⟨j,w,hj,h1,h2,h3⟩
  refine ⟨⟨w,List.mem_of_getElem? hj,h1,h2⟩,?_⟩
  rw [pF h hj h1,Int.toNat_natCast]
  simpa [BS.free] using h3
theorem pH {c:BS} {a b:List Int} {t k:Int} (hf:c.DZ a b []=0) (Nw:a.length<24) (ht:c.has t=true):decide (c.DZ (a++[t]) (b++[k]) []=0)=c.Mh (a.zip b) t k:=by
 have kK:=HP hf
 have ho:=Io kK
 obtain ⟨hl,_⟩:=NZ kK
 have ht8:=oh ho ht
 rw [Bool.eq_iff_iff,decide_eq_true_eq,BS.Mh,Bool.and_eq_true,decide_eq_true_eq]
 constructor
 ·
  intro h
  have h0:=HP h
  have hm:=SG h0
  rw [Na hl,List.all_append,Bool.and_eq_true] at hm
  have hm1:c.may t k=true:=by simpa using hm.2
  refine ⟨hm1,?_⟩
  unfold BS.DZ at h
  rw [if_neg (not_not_intro h0)] at h
  have hno:¬c.over ((a++[t]).zip (b++[k])):=by intro hh;rw [if_pos hh] at h;cases h
  have hat:=og hm1
  have hai:(c.at k).toNat<c.B_.length:=by have:=(UH (EC k) c.B_).2;unfold BS.at at*;omega
  have hr:=(SD ht).2
  rcases Int.lt_or_le (c.cnt (a.zip b) ((c.at k).toNat*8+t.toNat)) (c.MP t) with h5|h5
  · exact h5
  ·
   refine absurd ⟨(c.at k).toNat,t.toNat,c.MP t,hai,hr,?_⟩ hno
   rw [Na hl,NY,if_pos AA]
   omega
 ·
  rintro ⟨h1,h2⟩
  exact iT hf Nw ht h1 h2
structure B0 where
 fst:Int
 thn:Int
 deriving DecidableEq
variable {I:Cc} {E:Env} {s:List Int} {l:List B0} {d i j k n:Nat} {o:Oper} {w:World}
def Et (a b:B0):Bool:=if a.fst=b.fst then decide (a.thn<b.thn) else decide (a.fst<b.fst)
def FY (n:Int) (r:B0):Bool:=decide (r.fst<0∨r.thn<0∨n≤r.fst∨n≤r.thn∨r.fst=r.thn)
def Gl (l:List B0) (a b:Nat):Bool:=l.any fun r=>decide (r.fst=(a:Int))&&decide (r.thn=(b:Int))
def KT (k:Nat) (m:Nat→Nat→Bool) (a b:Nat):Bool:=m a b||(m a k&&m k b)
def Cm (l:List B0):Nat→Nat→Nat→Bool
 |0=>Gl l
 |k+1=>KT k (Cm l k)
theorem LD {l:List B0} {a b:Nat} (h:Gl l a b=true):∀k,Cm l k a b=true
 |0=>h
 |k+1=>by show (_||_)=true;rw [LD h k];rfl
theorem MS {l:List B0}:∀(k:Nat) {a b c:Nat},c<k→Cm l k a c=true→Cm l k c b=true→Cm l k a b=true
 |0,_,_,_,h,_,_=>absurd h AA
 |k+1,a,b,c,h,h1,h2=>by
  have ih:= @MS l k
  simp only [Cm,KT,Bool.or_eq_true,Bool.and_eq_true] at h1 h2 ⊢
  rcases Nat.lt_or_ge c k with hc|hc
  ·
   rcases h1 with h1|⟨h1,h3⟩<;>rcases h2 with h2|⟨h2,h4⟩
   · exact .inl (ih hc h1 h2)
   · exact .inr ⟨ih hc h1 h2,h4⟩
   · exact .inr ⟨h1,ih hc h3 h2⟩
   · exact .inr ⟨h1,h4⟩
  ·
   obtain rfl:c=k:=by omega
   refine .inr ⟨?_,?_⟩
   · rcases h1 with h1|⟨h1,_⟩<;>exact h1
   · rcases h2 with h2|⟨_,h2⟩<;>exact h2
def JP (k:Nat) (m:Nat→Nat→Bool) (i j a b:Nat):Bool:=if a<i∨(a=i∧b<j) then KT k m a b else m a b
theorem Xm (k:Nat) (m:Nat→Nat→Bool) (a:Nat):KT k m a k=m a k:=by unfold KT;cases m a k<;>simp
theorem pI (k:Nat) (m:Nat→Nat→Bool) (b:Nat):KT k m k b=m k b:=by unfold KT;cases m k b<;>cases m k k<;>simp
theorem wN (k:Nat) (m:Nat→Nat→Bool) (i j a:Nat):JP k m i j a k=m a k:=by unfold JP;split;exact Xm k m a;rfl
theorem wO (k:Nat) (m:Nat→Nat→Bool) (i j b:Nat):JP k m i j k b=m k b:=by unfold JP;split;exact pI k m b;rfl
def V9 (m:Nat→Nat→Bool) (i j a b:Nat):Bool:=if a=i∧b=j then true else m a b
theorem wP {m:Nat→Nat→Bool} (h1:m i k=true) (h2:m k j=true):V9 (JP k m i j) i j=JP k m i (j+1):=by grind [V9,JP,KT]
theorem pJ {m:Nat→Nat→Bool} (h:(m i k&&m k j)=false):JP k m i j=JP k m i (j+1):=by grind [JP,KT]
theorem AGB (k:Nat) (m:Nat→Nat→Bool):JP k m 0 0=m:=by funext a b;unfold JP;rw [if_neg AA]
def pK (n:Nat) (m m':Nat→Nat→Bool):Prop:=∀a b,a<n→b<n→m a b=m' a b
theorem pL {m:Nat→Nat→Bool}:pK n (JP k m i n) (JP k m (i+1) 0):=by
 intro a b _ hb
 unfold JP
 by_cases h:a<i∨(a=i∧b<n)
 · rw [if_pos h,if_pos AA]
 · rw [if_neg h,if_neg AA]
theorem wQ {m:Nat→Nat→Bool}:pK n (JP k m n 0) (KT k m):=by
 intro a b ha _
 unfold JP;rw [if_pos AA]
def AGC (n:Nat) (l:List B0):Bool:=(List.range n).any fun i=>Cm l n i i
def D3:List B0→Bool
 |[]=>true
 |[_]=>true
 |a::b::l=>Et a b&&D3 (b::l)
def BR (n:Int) (l:List B0):Int:=
 if n<0∨24<n then 2 else if l.any (FY n) then 44 else if D3 l=false then 6 else if AGC n.toNat l then 45 else 0
theorem pM {R:Nat→Nat→Prop} (hi:∀a,¬R a a) (ht:∀a b c,R a b→R b c→R a c):∀{L:List Nat},L≠[]→(∀a b,a∈L→b∈L→R a b∨¬R a b)→∃x∈L,∀y∈L,¬R y x
 |[],h,_=>absurd rfl h
 |[x],_,_=>⟨x,by simp,fun y hy=>by simp at hy;subst hy;exact hi _⟩
 |x::y::l,_,hd=>by
  obtain ⟨z,hz,hm⟩:=pM hi ht (L:=y::l) AR (fun a b ha hb=>hd a b (List.mem_cons_of_mem _ ha) (List.mem_cons_of_mem _ hb))
  rcases hd x z AR (List.mem_cons_of_mem _ hz) with h|h
  ·
   refine ⟨x,by simp,fun w hw=> ?_⟩
   rcases List.mem_cons.1 hw with rfl|hw
   · exact hi _
   · exact fun h2=>hm w hw (ht _ _ _ h2 h)
  ·
   refine ⟨z,List.mem_cons_of_mem _ hz,fun w hw=> ?_⟩
   rcases List.mem_cons.1 hw with rfl|hw
   · exact h
   · exact hm w hw
def G2 (s:List Int) (n:Int):Bool:=s.any fun x=>n==x
theorem EV {n:Int}:G2 s n=true↔n∈s:=by grind [G2]
def EP (l:List B0) (s:List Int):Bool:=l.all fun r=> !(G2 s r.thn)||G2 s r.fst
theorem Eu:EP l s=true↔∀r∈l,r.thn∈s→r.fst∈s:=by grind [EP,EV]
def Fy (n:Int) (has:Bool) (p:List Int×Bool) (x:Int):List Int×Bool:=
 if x=n then (if has=true∧p.2=false∧n<x then (p.1++[n],true) else p) else if has=true∧p.2=false∧n<x then (p.1++[n]++[x],true) else (p.1++[x],p.2)
def wall (n:Int) (has:Bool) (s:List Int):List Int×Bool:=s.foldl (Fy n has) ([],false)
def Fz (s:List Int) (n:Int) (has:Bool):List Int:=if has=true∧(wall n has s).2=false then (wall n has s).1++[n] else (wall n has s).1
theorem iU (n:Int) (has:Bool) (s:List Int) (x:Int):wall n has (s++[x])=Fy n has (wall n has s) x:=by unfold wall;rw [List.foldl_append];rfl
theorem Xn {n:Int} {has:Bool} {x:Int}:∀{s:List Int} {p:List Int×Bool},(x∈(s.foldl (Fy n has) p).1∧x≠n)↔((x∈p.1∨x∈s)∧x≠n)
 |[],p=>by simp
 |y::s,p=>by
  rw [List.foldl_cons,Xn]
  unfold Fy
  by_cases h1:x=n
  · subst h1;simp
  ·
   repeat' split
   all_goals (try subst y);simp [h1,or_assoc]
theorem Xo {n:Int} {has:Bool}:∀{s:List Int} {p:List Int×Bool},(p.2=true→n∈p.1)→(p.2=false→n∉p.1)→(((s.foldl (Fy n has) p).2=true→n∈(s.foldl (Fy n has) p).1)∧((s.foldl (Fy n has) p).2=false→n∉(s.foldl (Fy n has) p).1))
 |[],p,h,h'=>⟨h,h'⟩
 |y::s,p,h,h'=>by
  rw [List.foldl_cons]
  apply Xo
  ·
   unfold Fy;intro h2
   repeat' split at h2
   all_goals (repeat' split)<;>simp_all
  ·
   unfold Fy;intro h2
   repeat' split at h2
   all_goals (repeat' split)<;>simp_all<;>omega
theorem G5 {n x:Int}:x∈Fz s n true↔x=n∨x∈s:=by grind [Xn,Xo,Fz,wall]
theorem SK {n:Int} {has:Bool}:∀{s:List Int} {p:List Int×Bool},(s.foldl (Fy n has) p).1.length+(if (s.foldl (Fy n has) p).2 then 0 else 1)≤p.1.length+(if p.2 then 0 else 1)+s.length
 |[],p=>Nat.le_refl _
 |y::s,p=>by
  rw [List.foldl_cons]
  refine Nat.le_trans SK ?_
  unfold Fy
  repeat' split
  all_goals (simp_all<;>omega)
theorem OR (s:List Int) (n:Int) (has:Bool):(Fz s n has).length≤s.length+1:=by
 have h:=SK (n:=n) (has:=has) (s:=s) (p:=([],false))
 unfold Fz wall
 split
 next h2=>rw [h2.2] at h;simp at h ⊢;omega
 next h2=>revert h;split<;>simp<;>omega
def V_ (l:List B0) (s:List Int) (add:Bool) (i:Nat):Bool:=(G2 s i !=add)&&EP l (Fz s i add)
def HR (n:Nat) (l:List B0) (s:List Int) (add:Bool):List Int:=((List.range n).filter (V_ l s add)).map fun i:Nat=>(i:Int)
theorem DT {n:Int} (h:BR n l=0):(0≤n∧n≤24)∧(∀r∈l,FY n r=false)∧D3 l=true∧∀i,i<n.toNat→Cm l n.toNat i i=false:=by
 unfold BR at h
 split at h
 · cases h
 next h1=>
 split at h
 · cases h
 next h2=>
 split at h
 · cases h
 next h3=>
 split at h
 · cases h
 next h4=>
 refine ⟨by omega,fun r hr=> ?_,by simpa using h3,fun i hi=> ?_⟩
 · grind
 ·
  cases hb:Cm l n.toNat i i with
  |false=>rfl
  |true=>exact absurd (show (List.range n.toNat).any (fun i=>Cm l n.toNat i i)=true from List.any_eq_true.2 ⟨i,List.mem_range.2 hi,hb⟩) h4
theorem ABJ {n:Int} (h:BR n l=0) (hc:EP l s=true) (hi:i<n.toNat) (hn:(i:Int)∉s):HR n.toNat l s true≠[]:=by
 obtain ⟨h1,h2,_,h4⟩:=DT h
 have hU:(List.range n.toNat).filter (fun k:Nat=> !G2 s k)≠[]:=by
  intro he
  have:i∈(List.range n.toNat).filter (fun k:Nat=> !G2 s k):=List.mem_filter.2 ⟨List.mem_range.2 hi,by rw [Bool.not_eq_true'];cases hb:G2 s i with|false=>rfl|true=>exact absurd (EV.1 hb) hn⟩
  rw [he] at this;cases this
 obtain ⟨x,hx,hm⟩:=pM (R:=fun a b=>a<n.toNat∧b<n.toNat∧Cm l n.toNat a b=true) (fun a ha=>by have:=h4 a ha.1;rw [ha.2.2] at this;cases this) (fun a b c ⟨g1,g2,g3⟩ ⟨_,g4,g5⟩=>⟨g1,g4,MS _ g2 g3 g5⟩) hU (fun a b _ _=>Classical.em _)
 obtain ⟨hx1,hx2⟩:=List.mem_filter.1 hx
 rw [List.mem_range] at hx1
 have hx3:(x:Int)∉s:=fun h=>by rw [EV.2 h] at hx2;cases hx2
 intro he
 have:((x:Nat):Int)∈HR n.toNat l s true:=by
  unfold HR
  refine List.mem_map.2 ⟨x,List.mem_filter.2 ⟨List.mem_range.2 hx1,?_⟩,rfl⟩
  unfold V_
  rw [Bool.and_eq_true]
  refine ⟨by cases hb:G2 s x with|false=>rfl|true=>exact absurd (EV.1 hb) hx3,Eu.2 fun r hr ht=> ?_⟩
  rw [G5] at ht ⊢
  by_cases hf:r.fst=x
  · exact .inl hf
  right
  rcases ht with ht|ht
  ·
   have hb:=h2 r hr
   unfold FY at hb
   simp only [decide_eq_false_iff_not] at hb
   by_cases hs:r.fst∈s
   · exact hs
   exfalso
   refine hm r.fst.toNat (List.mem_filter.2 ⟨List.mem_range.2 AA,?_⟩) ⟨by omega,hx1,LD (List.any_eq_true.2 ⟨r,hr,?_⟩) _⟩
   ·
    rw [show ((r.fst.toNat:Nat):Int)=r.fst by omega,Bool.not_eq_true']
    cases We:G2 s r.fst with
    |false=>rfl
    |true=>exact absurd (EV.1 We) hs
   · grind
  · exact Eu.1 hc r hr ht
 rw [he] at this;cases this
theorem Qc:∀{L M:List Int},L.Nodup→(∀x∈L,x∈M)→L.length≤M.length
 |[],_,_,_=>Nat.zero_le _
 |x::L,M,hn,hs=>by
  rw [List.nodup_cons] at hn
  have h:=Qc (L:=L) (M:=M.erase x) hn.2 (fun y hy=>(List.mem_erase_of_ne (fun e=>hn.1 (by rw [←e];exact hy))).2 (hs y (List.mem_cons_of_mem _ hy)))
  have hx:=hs x AR
  rw [List.length_erase_of_mem hx] at h
  have:=List.length_pos_of_mem hx
  simp;omega
structure OS (n:Int) (l:List B0) (out done:List Int):Prop where
 mem:∀x,x∈done↔x∈out
 nd:out.Nodup
 WA:∀x∈out,0≤x∧x<n
 cl:EP l done=true
 ABK:∀(k:Nat) x,out[k]? =some x→∀r∈l,r.thn=x→r.fst∈out.take k
theorem OS.nil {n:Int}:OS n l [] []:=⟨fun x=>Iff.rfl,List.nodup_nil,(fun x h=>by cases h),(Eu.2 fun r _ h=>by cases h),(fun k x h=>by simp at h)⟩
theorem OS.len {n:Int} {out done:List Int} (h:OS n l out done):out.length≤n.toNat:=by
 have:=Qc (L:=out) (M:=(List.range n.toNat).map fun i:Nat=>(i:Int)) h.nd (fun x hx=>by have:=h.WA x hx;exact List.mem_map.2 ⟨x.toNat,List.mem_range.2 AA,by omega⟩)
 simpa using this
theorem OS.bes {n:Int} {out done:List Int} (h:OS n l out done) (hv:BR n l=0) (hl:out.length<n.toNat):∃x,(HR n.toNat l done true)[0]? =some x∧OS n l (out++[x]) (Fz done x true):=by
 have hex:∃i,i<n.toNat∧(i:Int)∉out:=by
  refine Classical.byContradiction fun hne=> ?_
  have hall:∀i,i<n.toNat→(i:Int)∈out:=fun i hi=>Classical.byContradiction fun hh=>hne ⟨i,hi,hh⟩
  have hnd:((List.range n.toNat).map fun i:Nat=>(i:Int)).Nodup:=by
   refine List.Pairwise.map _ (fun a b hab=> ?_) (List.nodup_range (n:=n.toNat))
   intro e;apply hab;omega
  have:=Qc hnd (M:=out) (fun x hx=>by
   obtain ⟨i,hi,rfl⟩:=List.mem_map.1 hx
   exact hall i (List.mem_range.1 hi))
  simp at this;omega
 obtain ⟨i,hi,hio⟩:=hex
 have hne:=ABJ hv h.cl hi (fun hh=>hio ((h.mem _).1 hh))
 obtain ⟨x,hx⟩:=at_ (l:=HR n.toNat l done true) (k:=0) (List.length_pos_iff.2 hne)
 refine ⟨x,hx,?_⟩
 obtain ⟨j,hj,rfl⟩:=List.mem_map.1 (List.mem_of_getElem? hx)
 obtain ⟨j5,hj2⟩:=List.mem_filter.1 hj
 rw [List.mem_range] at j5
 unfold V_ at hj2
 rw [Bool.and_eq_true] at hj2
 have hjd:(j:Int)∉done:=fun hh=>by rw [EV.2 hh] at hj2;exact absurd hj2.1 AD
 have hjo:(j:Int)∉out:=fun hh=>hjd ((h.mem _).2 hh)
 refine ⟨fun y=> ?_,?_,fun y hy=> ?_,hj2.2,fun k y hk r hr ht=> ?_⟩
 · rw [G5,h.mem,List.mem_append,List.mem_singleton];exact Or.comm
 ·
  rw [List.nodup_append]
  exact ⟨h.nd,by simp,fun a ha b hb=>by simp at hb;subst hb;intro e;subst e;exact hjo ha⟩
 ·
  rcases List.mem_append.1 hy with hy|hy
  · exact h.WA y hy
  · simp at hy;subst hy;omega
 ·
  rcases Nat.lt_or_ge k out.length with hlt|hge
  ·
   rw [List.getElem?_append_left hlt] at hk
   rw [List.take_append_of_le_length AA]
   exact h.ABK k y hk r hr ht
  ·
   have hk2:k=out.length:=by
    rcases Nat.lt_or_ge k (out++[(j:Int)]).length with hh|hh
    · simp at hh;omega
    · grind
   subst hk2
   rw [List.getElem?_append_right (Nat.le_refl _)] at hk
   simp at hk;subst hk
   rw [List.take_left]
   have hcl:=Eu.1 hj2.2 r hr (G5.2 (.inl ht))
   rcases G5.1 hcl with he|hm
   ·
    obtain ⟨_,g2,_,_⟩:=DT hv
    have hb:=g2 r hr
    unfold FY at hb
    simp only [decide_eq_false_iff_not] at hb
    omega
   · exact (h.mem _).1 hm
def El (l:List B0) (r:B0):Nat:=(l.takeWhile fun x=>Et x r).length
def GL (l:List B0) (r:B0):List B0:=if l[El l r]? =some r then l else l.take (El l r)++[r]++l.drop (El l r)
theorem Qd (l:List B0) (r:B0):El l r≤l.length:=by unfold El;exact (List.takeWhile_sublist _).length_le
theorem eo {r:B0} (hk:k<El l r) {x:B0} (hx:l[k]? =some x):Et x r=true:=by
 induction l generalizing k with
 |nil=>simp at hx
 |cons a l ih=>
  unfold El at hk
  rw [List.takeWhile_cons] at hk
  split at hk
  next h=>
   cases k with
   |zero=>simp at hx;subst hx;exact h
   |succ k=>exact ih (k:=k) (by simp at hk;exact hk) Gy
  next=>simp at hk
theorem eu {r:B0} {x:B0} (hx:l[El l r]? =some x):Et x r=false:=by
 induction l with
 |nil=>simp at hx
 |cons a l ih=>
  unfold El at hx
  rw [List.takeWhile_cons] at hx
  split at hx
  next h=>exact ih (by unfold El;simpa using hx)
  next h=>simp at hx;subst hx;simpa using h
theorem ew {r:B0} (hl:k≤l.length) (h:∀j x,j<k→l[j]? =some x→Et x r=true) (he:∀x,l[k]? =some x→Et x r=false):El l r=k:=by
 rcases Nat.lt_trichotomy (El l r) k with h1|h1|h1
 ·
  obtain ⟨x,hx⟩:=at_ (l:=l) (k:=El l r) AA
  have:=h _ x h1 hx;rw [eu hx] at this;cases this
 · exact h1
 ·
  obtain ⟨x,hx⟩:=at_ (l:=l) (k:=k) (by have:=Qd l r;omega)
  have:=he x hx;rw [eo h1 hx] at this;cases this
theorem SL (l:List B0) (r:B0):(GL l r).length≤l.length+1:=by
 have:=Qd l r
 unfold GL;split<;>simp<;>omega
theorem Xp {r x:B0}:x∈GL l r↔x=r∨x∈l:=by
 unfold GL;split
 next h=>exact ⟨.inr,fun h2=>h2.elim (fun e=>by subst e;exact List.mem_of_getElem? h) id⟩
 next=>rw [List.append_assoc,List.mem_append,List.mem_append,List.mem_singleton,←or_assoc,or_comm (a:=x∈_) (b:=x=r),or_assoc,←List.mem_append,List.take_append_drop]
theorem pN {a b:B0} (h:Et a b=false) (hn:a≠b):Et b a=true:=by
 unfold Et at*
 obtain ⟨a1,a2⟩:=a
 obtain ⟨b1,b2⟩:=b
 simp only [ne_eq,B0.mk.injEq,not_and] at*
 repeat' split at h
 all_goals repeat' split
 all_goals simp only [decide_eq_true_eq,decide_eq_false_iff_not] at*
 all_goals omega
theorem MT:D3 l=true↔∀j a b,l[j]? =some a→l[j+1]? =some b→Et a b=true:=by
 induction l with
 |nil=>exact ⟨fun _ j a b h=>by simp at h,fun _=>rfl⟩
 |cons x l ih=>
  cases l with
  |nil=>exact ⟨fun _ j a b _ h=>by simp at h,fun _=>rfl⟩
  |cons y l=>
   unfold D3
   rw [Bool.and_eq_true,ih]
   refine ⟨fun ⟨h1,h2⟩ j a b ha hb=> ?_,fun h=>⟨h 0 x y rfl rfl,fun j a b ha hb=>h (j+1) a b ck Fb⟩⟩
   cases j with
   |zero=>simp at ha hb;subst ha;subst hb;exact h1
   |succ j=>exact h2 j a b ck Fb
theorem O9 {r:B0} (h:D3 l=true):D3 (GL l r)=true:=by
 unfold GL;split
 next=>exact h
 next hne=>
 rw [MT] at h ⊢
 have hp:=Qd l r
 intro j a b ha hb
 rw [List.append_assoc] at ha hb
 rcases Nat.lt_trichotomy (j+1) (El l r) with h1|h1|h1
 · grind
 ·
  rw [List.getElem?_append_left I2,List.getElem?_take,if_pos AA] at ha
  rw [List.getElem?_append_right I2,List.length_take,show j+1-min (El l r) l.length=0 by omega] at hb
  simp at hb;subst hb
  exact eo AA ha
 ·
  rw [List.getElem?_append_right I2,List.length_take,show j-min (El l r) l.length=j-El l r by omega] at ha
  rw [List.getElem?_append_right I2,List.length_take,show j+1-min (El l r) l.length=(j-El l r)+1 by omega] at hb
  simp only [List.singleton_append,List.getElem?_cons_succ,List.getElem?_drop] at hb
  rcases Nat.eq_zero_or_pos (j-El l r) with h2|h2
  ·
   rw [h2] at ha hb
   simp at ha;subst ha
   simp at hb
   exact pN (eu hb) (fun e=>hne (by rw [hb,e]))
  ·
   obtain ⟨i,hi⟩:∃i,j-El l r=i+1:=⟨j-El l r-1,by omega⟩
   rw [hi] at ha hb
   simp only [List.singleton_append,List.getElem?_cons_succ,List.getElem?_drop] at ha
   exact h (El l r+i) a b ha (by rw [show El l r+i+1=El l r+(i+1) by omega];exact hb)
theorem Qe {l:List B0} (h:∀r∈l,r.fst<r.thn):∀(k:Nat) {a b:Nat},Cm l k a b=true→a<b
 |0,a,b,hb=>by
  obtain ⟨r,hr,h2⟩:=List.any_eq_true.1 hb
  rw [Bool.and_eq_true,decide_eq_true_eq,decide_eq_true_eq] at h2
  have:=h r hr;omega
 |k+1,a,b,hb=>by
  simp only [Cm,KT,Bool.or_eq_true,Bool.and_eq_true] at hb
  rcases hb with hb|⟨h1,h2⟩
  · exact Qe h k hb
  · have:=Qe h k h1;have:=Qe h k h2;omega
theorem pO (hn:n≤24) (h:∀r∈l,(0≤r.fst∧r.fst<r.thn)∧r.thn<n) (hs:D3 l=true):BR n l=0:=by
 unfold BR
 rw [if_neg AA,if_neg ?_,if_neg (by simp [hs]),if_neg ?_]
 ·
  intro hc
  obtain ⟨i,_,hi⟩:=List.any_eq_true.1 hc
  have:=Qe (fun r hr=>(h r hr).1.2) _ hi;omega
 ·
  intro hc
  obtain ⟨r,hr,hb⟩:=List.any_eq_true.1 hc
  unfold FY at hb
  rw [decide_eq_true_eq] at hb
  have:=h r hr;omega
theorem Nc {n:Int} (h:n∉s):(Fz s n true).length=s.length+1:=by
 have key:∀(s:List Int) (p:List Int×Bool),n∉s→(s.foldl (Fy n true) p).1.length+(if (s.foldl (Fy n true) p).2 then 0 else 1)=p.1.length+(if p.2 then 0 else 1)+s.length:=by
  intro s
  induction s with
  |nil=>intro p _;rfl
  |cons y s ih=>
   intro p hp
   rw [List.foldl_cons,ih _ (fun hh=>hp (List.mem_cons_of_mem _ hh))]
   unfold Fy
   rw [if_neg (fun e=>hp Mv)]
   split
   next h2=>simp [h2.2.1];omega
   next h2=>simp;omega
 have h2:=key s ([],false) h
 unfold Fz wall
 split
 next h3=>rw [h3.2] at h2;simp at h2 ⊢;omega
 next h3=>simp only [true_and,Bool.not_eq_false] at h3;rw [h3] at h2;simp at h2 ⊢;omega
def DU (n:Nat) (l:List B0):Nat→List Int×List Int
 |0=>([],[])
 |k+1=>match (HR n l (DU n l k).2 true)[0]? with
  |none=>DU n l k
  |some x=>((DU n l k).1++[x],Fz (DU n l k).2 x true)
theorem JQ {n:Int} {l:List B0} (hv:BR n l=0):∀(k:Nat),k≤n.toNat→OS n l (DU n.toNat l k).1 (DU n.toNat l k).2∧(DU n.toNat l k).1.length=k
 |0,_=>⟨OS.nil,rfl⟩
 |k+1,hk=>by
  obtain ⟨h1,h2⟩:=JQ hv k AA
  obtain ⟨x,hx,hr⟩:=h1.bes hv AA
  unfold DU
  rw [hx]
  exact ⟨hr,by simp [h2]⟩
theorem Xq {n:Int} (hv:BR n l=0) (hk:k<n.toNat):∃x,(HR n.toNat l (DU n.toNat l k).2 true)[0]? =some x∧DU n.toNat l (k+1)=((DU n.toNat l k).1++[x],Fz (DU n.toNat l k).2 x true):=by
 obtain ⟨h1,h2⟩:=JQ hv k AA
 obtain ⟨x,hx,_⟩:=h1.bes hv AA
 exact ⟨x,hx,by rw [DU];rw [hx]⟩
theorem AGD {x0 y0:Int} {x1 y1:Int}:(Op.equalIn (d+2) 85 (.agg #[.int .i64 x0,.int .i64 x1]) (.agg #[.int .i64 y0,.int .i64 y1])).run Tryz.prog w= .ok (decide (x0=y0∧x1=y1)) w:=by
 have h:=eqS (w:=w) (d:=d+1) (xs:= #[.int .i64 x0,.int .i64 x1]) (ys:= #[.int .i64 y0,.int .i64 y1]) Tryz.underlying85 CS (CZ AD (BG BT rfl) (BG BT rfl) (Dl (d:=d+0) Tryz.underlying3) (CZ AD (BG BT rfl) (BG BT rfl) (Dl (d:=d+0) Tryz.underlying3) (K3)))
 refine h.trans (congrArg (fun b=>Result.ok b w) ?_)
 rw [Bool.eq_iff_iff];simp [and_assoc]
theorem wR {u:TypeId} {x y:Operand} {x0 y0:Int} {x1 y1:Int} (ho:o.op= .binOp .eql 85 x y u) (hx:VL E x (agg [is (.int .i64 x0),is (.int .i64 x1)])) (hy:VL E y (agg [is (.int .i64 y0),is (.int .i64 y1)])):Ab Tryz.prog I o E (bool (decide (x0=y0∧x1=y1))):=
 Rc [.int .i64 x0,.int .i64 x1] [.int .i64 y0,.int .i64 y1] ho hx hy CS (fun w=>by rw [show Op.equal 85 _ _=Op.equalIn (9998+2) 85 _ _ from rfl];exact AGD)
abbrev HY (r:B0):List Pr:=[int r.fst,int r.thn]
abbrev reqs (l:List B0):Pr:=slice 2 (l.map HY)
theorem UK {a b:B0}  :A_ prog 102 [agg (HY a),agg (HY b)] (bool (Et a b)):=by
 refine fo func102 rfl ⟨rfl,rfl⟩ fun M0 w0=> ?_
 · repeat' first|(refine bool_eq ?_;unfold Et;split<;>first|rfl|(exfalso;omega))|(refine bool_eq ?_;unfold Et;split<;>rfl)|refine ac ?_|(refine Tr.cn rfl ?_ ?_<;>intro h q)
theorem SM {r:B0} (hl:l.length≤1000000):A_ prog 93 [reqs l,agg (HY r)] (reqs (GL l r)):=by
 refine fo func93 rfl ⟨rfl,rfl⟩ fun M0 w0=>(Tr.CN 0 rfl fun C3=> ?_)
 have hml:(l.map HY).length=l.length:=List.length_map _
 have ALh:=Qd l r
 refine a2 ?_
 refine wk [5,3,0] rfl (Tr.Jn [0,3] [(5,int ((El l r:Nat):Int))] (True) ?_ (fun h1=> ?_))
 refine Tr.block (Tr.A0 _ (kk [3,0] rfl) (fun k:Nat=>[(5,int ((k:Nat):Int))]) (fun k:Nat=>k≤l.length∧(∀j y,j<k→l[j]? =some y→Et y r=true)) (fun k:Nat=>l.length-k) 0 (⟨Nat.zero_le _,fun j y hj=>absurd hj AA⟩) kz ?_)
 rintro k ⟨BN,hinv⟩
 refine ag ?_ ?_<;>intro h2 q2
 obtain ⟨x,hx⟩:=at_ (l:=l) (k:=k) AA
 refine ac ?_
 refine cy h2 rfl (AB rfl underlying33 Dy vq vq AA (Ad hx)) ?_
 refine ac ?_
 refine cy h2 rfl (Bu (UK) rfl rfl rfl) ?_
 refine ac ?_
 refine wk [18,5,3,0] rfl ?_
 refine Tr.cn rfl ?_ ?_<;>intro h3 q3
 have hq:=h3
 refine a2 ?_
 exact Fin.AL (k+1) ⟨⟨by omega,fun j y hj hy=>by rcases Nat.lt_or_ge j k with h_|h_;exact hinv j y h_ hy;(obtain rfl:j=k:=by omega);rw [hx] at hy;cases hy;exact hq⟩,by omega⟩ ⟨⟨_,rfl,AG k⟩,kz⟩
 have hp:El l r=k:=ew BN hinv (fun y hy=>by rw [hx] at hy;cases hy;exact h3)
 refine Tr.exit (Fin.Ai (Fin.Ai (Fin.BB (Fin.AL () trivial ⟨⟨_,rfl,int_eq (by rw [hp])⟩,kz⟩))))
 have hp:El l r=k:=ew BN hinv (fun y hy=>by have:=BZ hy;have:=q2;omega)
 refine ac ?_
 refine wk [18,5,3,0] rfl (Tr.cond rfl (fun h=>nomatch h) (fun _=> ?_))
 refine Tr.exit (Fin.Ai (Fin.Ai (Fin.BB (Fin.AL () trivial ⟨⟨_,rfl,int_eq (by rw [hp])⟩,kz⟩))))
 refine ag ?_ ?_<;>intro h4 q4
 obtain ⟨x2,hx2⟩:=at_ (l:=l) (k:=El l r) AA
 refine ac ?_
 refine cy h4 rfl (AB rfl underlying33 Dy vq vq AA (Ad hx2)) ?_
 refine ac ?_
 refine cy h4 rfl (wR rfl vq vq) ?_
 refine ac ?_
 refine wk [32,5,3,0] rfl ?_
 refine Tr.cn rfl ?_ ?_<;>intro h5 q5
 have hput:GL l r=l:=if_pos (by rw [hx2];have h_:=q5;cases x2;cases r;simp_all)
 refine a2 ?_
 · rw [hput];exact Lr
 have hput:GL l r=l.take (El l r)++[r]++l.drop (El l r):=if_neg (by rw [hx2];intro h_;cases h_;have h_:=q5;simp at h_)
 refine ac ?_
 refine ap ?_
 refine tp rfl (Dr rfl underlying33 Dy vq vq AA AA) (TO.pad ?_)
 refine TO.C1 0 rfl rfl AD (DK rfl rfl AD rfl underlying33 Dy TG z85 rfl AD ⟨_,rfl,AM _⟩ vq Jx Jz (Bc BD ⟨_,rfl,Dh 1⟩)) (fun v1=> ?_)
 refine ap ?_
 refine ap ?_
 refine TO.C1 0 rfl rfl AD (B7 rfl rfl rfl rfl underlying33 Dy TG z85 Fo Ea (A7 BD Gi)) (fun v2=> ?_)
 refine ap ?_
 refine wk [6,5,0] rfl ?_
 refine ap ?_
 refine tp rfl (Cs rfl underlying33 Dy vq vq AA AA) ?_
 refine TO.C1 0 rfl rfl AD (B7 rfl rfl rfl rfl underlying33 Dy TG z85 Fo vq (A7 BD Gi)) (fun v3=> ?_)
 refine ap ?_
 refine ac ?_
 · exact kg
 have hput:GL l r=l.take (El l r)++[r]++l.drop (El l r):=if_neg (by rw [List.getElem?_eq_none (by have:=q4;omega)];simp)
 refine ac ?_
 refine wk [32,5,3,0] rfl ?_
 refine ac ?_
 refine ap ?_
 refine tp rfl (Dr rfl underlying33 Dy vq vq AA AA) (TO.pad ?_)
 refine TO.C1 0 rfl rfl AD (DK rfl rfl AD rfl underlying33 Dy TG z85 rfl AD ⟨_,rfl,AM _⟩ vq Jx Jz (Bc BD ⟨_,rfl,Dh 1⟩)) (fun v4=> ?_)
 refine ap ?_
 refine ap ?_
 refine TO.C1 0 rfl rfl AD (B7 rfl rfl rfl rfl underlying33 Dy TG z85 Fo Ea (A7 BD Gi)) (fun v5=> ?_)
 refine ap ?_
 refine wk [6,5,0] rfl ?_
 refine ap ?_
 refine tp rfl (Cs rfl underlying33 Dy vq vq AA AA) ?_
 refine TO.C1 0 rfl rfl AD (B7 rfl rfl rfl rfl underlying33 Dy TG z85 Fo vq (A7 BD Gi)) (fun v6=> ?_)
 refine ap ?_
 refine ac ?_
 · exact kg
theorem Ga (l:List B0):∀(a:List B0),(l.foldl GL a).length≤a.length+l.length:=by
 induction l with
 |nil=>intro a;simp
 |cons x l ih=>intro a;have h1:=ih (GL a x);have h2:=SL a x;simp only [List.foldl_cons,List.length_cons];omega
theorem OU (l:List B0):∀{a:List B0},D3 a=true→D3 (l.foldl GL a)=true:=by
 induction l with
 |nil=>intro a h;exact h
 |cons x l ih=>intro a h;exact ih (O9 h)
theorem TP (l:List B0):∀{a:List B0} {x:B0},x∈l.foldl GL a↔x∈a∨x∈l:=by
 induction l with
 |nil=>intro a x;simp
 |cons y l ih=>intro a x;rw [List.foldl_cons,ih,Xp,List.mem_cons,or_comm (a:=x=y),or_assoc]
def SN (a b:List B0):List B0:=b.foldl GL (a.foldl GL [])
theorem UL {β γ:Type} {f:γ→β→γ} {a:γ} {l:List β} {x:β} (h:l[k]? =some x):(l.take (k+1)).foldl f a=f ((l.take k).foldl f a) x:=by rw [List.take_add_one,h,List.foldl_append];rfl
theorem aD {a b:List B0} (ha:a.length≤100000) (hb:b.length≤100000):A_ prog 56 [reqs a,reqs b] (reqs (SN a b)):=by
 refine fo func56 rfl ⟨rfl,rfl⟩ fun M0 w0=>(Tr.CN 0 rfl fun C3=>(Tr.CN 1 rfl fun Fq=> ?_))
 refine a3 ?_
 refine Tr.block (Tr.A0 _ (kk [11,10,1] rfl) (fun k:Nat=>[(12,int ((k:Nat):Int)),(5,reqs ((a.take k).foldl GL []))]) (fun k:Nat=>k≤(a).length) (fun k:Nat=>(a).length-k) 0 (Nat.zero_le _) ⟨kq,⟨_,rfl,AM 2⟩,trivial⟩ ?_)
 rintro k BN
 refine ac ?_
 refine Tr.seq ?_
 refine Tr.cn rfl ?_ ?_<;>intro h1 q1
 have Ae:k<(a).length:=AJ h1
 obtain ⟨x,Af⟩:=at_ Ae
 have VU:=Ga (a.take k) []
 rw [List.length_take] at VU
 have ABL:((a.take k).foldl GL []).length≤1000000:=by simp at VU;omega
 refine ac ?_
 refine Tr.seq (Tr.block (Tr.seq (Tr.BI (tp rfl (AB rfl underlying33 Dy vq vq AA (Ad Af)) (tp rfl (Al rfl Jd Dy vq rfl rfl) ?_)))))
 refine Tl rfl rfl rfl rfl z85 RQ (fun b1=> ?_)
 refine sf 0 7 ⟨rfl,rfl,rfl⟩ rfl rfl rfl rfl ?_
 refine ao ?_
 refine ac ?_
 refine co rfl (Bu (SM ABL) rfl rfl rfl) ?_
 refine ac ?_
 refine wk [12,11,10,5,1] rfl ?_
 refine ac ?_
 exact Fin.AL (k+1) ⟨Ae,by omega⟩ ⟨⟨_,rfl,AG k⟩,⟨_,rfl,Pr.le_of_eq (by rw [UL Af])⟩,kz⟩
 have BC:k=(a).length:=by have:=AK h1;omega
 subst BC
 rw [List.take_length]
 refine a2 ?_
 refine Tr.block (Tr.A0 _ (kk [21,20] rfl) (fun m:Nat=>[(22,int ((m:Nat):Int)),(5,reqs ((b.take m).foldl GL (a.foldl GL [])))]) (fun m:Nat=>m≤(b).length) (fun m:Nat=>(b).length-m) 0 (Nat.zero_le _) ⟨kq,kz⟩ ?_)
 rintro m KM
 refine ac ?_
 refine Tr.seq ?_
 refine Tr.cn rfl ?_ ?_<;>intro h2 q2
 have Du:m<(b).length:=AJ h2
 obtain ⟨x,Dn⟩:=at_ Du
 have VU:=Ga (b.take m) (a.foldl GL [])
 rw [List.length_take] at VU
 have ABL:((b.take m).foldl GL (a.foldl GL [])).length≤1000000:=by have:=Ga a [];simp at this;omega
 refine ac ?_
 refine Tr.seq (Tr.block (Tr.seq (Tr.BI (tp rfl (AB rfl underlying33 Dy vq vq AA (Ad Dn)) (tp rfl (Al rfl Jd Dy vq rfl rfl) ?_)))))
 refine Tl rfl rfl rfl rfl z85 RQ (fun b2=> ?_)
 refine sf 0 9 ⟨rfl,rfl,rfl⟩ rfl rfl rfl rfl ?_
 refine ao ?_
 refine ac ?_
 refine co rfl (Bu (SM ABL) rfl rfl rfl) ?_
 refine ac ?_
 refine wk [22,21,20,5] rfl ?_
 refine ac ?_
 exact Fin.AL (m+1) ⟨Du,by omega⟩ ⟨⟨_,rfl,AG m⟩,⟨_,rfl,Pr.le_of_eq (by rw [UL Dn])⟩,kz⟩
 have Il:m=(b).length:=by have:=AK h2;omega
 subst Il
 rw [List.take_length]
 refine a3 ?_
 · exact Lr
theorem KU {l:List Int} {v:Int}  :A_ prog 68 [ints l,int v] (bool (G2 l v)):=by
 refine fo func68 rfl ⟨rfl,rfl⟩ fun M0 w0=>(Tr.CN 0 rfl fun C3=> ?_)
 refine a2 ?_
 refine Tr.block (Tr.A0 _ (kk [8,7,1] rfl) (fun k:Nat=>[(9,int ((k:Nat):Int))]) (fun k:Nat=>k≤(l).length∧(G2 (l.take k) v=false)) (fun k:Nat=>(l).length-k) 0 (⟨Nat.zero_le _,rfl⟩) kz ?_)
 rintro k ⟨BN,AX⟩
 refine ac ?_
 refine Tr.seq ?_
 refine Tr.cn rfl ?_ ?_<;>intro h1 q1
 have Ae:k<(l).length:=AJ h1
 obtain ⟨x,Af⟩:=at_ Ae
 refine ac ?_
 refine Tr.seq (Tr.block (Tr.seq (Tr.Bq (co rfl (AB rfl underlying38 BJ vq vq AA (Ad Af)) ?_))))
 · repeat' first|(refine bool_eq ?_;symm;unfold G2;rw [List.any_eq_true];exact ⟨_,List.mem_of_getElem? Af,by simp_all⟩)|(exact Fin.AL (k+1) ⟨⟨Ae,(by unfold G2 at AX ⊢;rw [List.take_add_one,Af,List.any_append,AX];simp;omega)⟩,by omega⟩ ⟨⟨_,rfl,AG k⟩,kz⟩)|refine ac ?_|(refine Tr.cn rfl ?_ ?_<;>intro h q)
 have BC:k=(l).length:=by have:=AK h1;omega
 subst BC
 refine a3 ?_
 · exact Uu
theorem O_:A_ prog 32 [reqs l,ints s] (bool (EP l s)):=by
 refine fo func32 rfl ⟨rfl,rfl⟩ fun M0 w0=>(Tr.CN 0 rfl fun C3=> ?_)
 refine a2 ?_
 refine Tr.block (Tr.A0 _ (kk [8,7,1] rfl) (fun k:Nat=>[(9,int ((k:Nat):Int))]) (fun k:Nat=>k≤(l).length∧(EP (l.take k) s=true)) (fun k:Nat=>(l).length-k) 0 (⟨Nat.zero_le _,rfl⟩) kz ?_)
 rintro k ⟨BN,AX⟩
 refine ac ?_
 refine Tr.seq ?_
 refine Tr.cn rfl ?_ ?_<;>intro h1 q1
 have Ae:k<(l).length:=AJ h1
 obtain ⟨r,Af⟩:=at_ Ae
 refine ac ?_
 refine Tr.seq (Tr.block (Tr.seq (Tr.BI (tp rfl (AB rfl underlying33 Dy vq vq AA (Ad Af)) (tp rfl (Al rfl Jd Dy vq rfl rfl) ?_)))))
 refine Tl rfl rfl rfl rfl z85 RQ (fun b1=> ?_)
 refine sf 0 6 ⟨rfl,rfl,rfl⟩ rfl rfl rfl rfl ?_
 refine ao ?_
 · repeat' first|(refine bool_eq ?_;symm;unfold EP;rw [List.all_eq_false];exact ⟨_,List.mem_of_getElem? Af,by simp_all⟩)|(exact Fin.AL (k+1) ⟨⟨Ae,(by unfold EP at AX ⊢;rw [List.take_add_one,Af,List.all_append,AX];simp_all)⟩,by omega⟩ ⟨⟨_,rfl,AG k⟩,kz⟩)|refine co rfl (Bu (KU) rfl rfl rfl) (cm rfl ?_)|refine cy h rfl (Bu (KU) rfl rfl rfl) ?_|refine ac ?_|(refine Tr.cn rfl ?_ ?_<;>intro h q)|(refine Ch.cg rfl rfl rfl ?_ ?_<;>intro h q)
 have BC:k=(l).length:=by have:=AK h1;omega
 subst BC
 refine a3 ?_
 · exact Uu
theorem UM (n:Int) (has:Bool) (s:List Int):(wall n has s).1.length≤s.length+1:=by
 have h:=SK (n:=n) (has:=has) (s:=s) (p:=([],false))
 unfold wall;revert h;split<;>simp<;>omega
theorem Xr (n:Nat) (l:List B0) (s:List Int) (add:Bool):(HR n l s add).length≤n:=by grind [HR]
theorem pP {add:Bool} (h:V_ l s add n=true):HR (n+1) l s add=HR n l s add++[(n:Int)]:=by unfold HR;rw [List.range_succ,List.filter_append,List.map_append];simp [h]
theorem ez {add:Bool} (h:V_ l s add n=false):HR (n+1) l s add=HR n l s add:=by unfold HR;rw [List.range_succ,List.filter_append,List.map_append];simp [h]
theorem gC {n:Int} {has:Bool} {x:Int} (h:s[k]? =some x):wall n has (s.take (k+1))=Fy n has (wall n has (s.take k)) x:=by
 rw [List.take_add_one,h];exact iU n has _ x
theorem G6 {n:Int} {has:Bool} (hs:s.length≤1000000):A_ prog 156 [ints s,int n,bool has] (ints (Fz s n has)):=by
 refine fo func156 rfl ⟨rfl,rfl⟩ fun M0 w0=>(Tr.CN 0 rfl fun C3=> ?_)
 refine ac ?_
 refine ac ?_
 refine ac ?_
 refine Tr.seq (Tr.seq (Tr.Bq (cm rfl ?_)))
 first|refine co rfl (E_ rfl underlying38 (vl rfl)) ?_|refine co rfl (CB rfl underlying38 (vl rfl)) ?_
 refine ac ?_
 refine Tr.block (Tr.B5 3 1 (Tr.EM _ (kk [12,11,2,1] rfl) (fun k v=>[(13,int ((k:Nat):Int)),(8,bool (wall n has (s.take k)).2),(7,Ag v (ints (wall n has (s.take k)).1))]) (fun k v=>Hp M0 w0 FG ([Ax 3 1 v])) (fun k:Nat=>k≤(s).length) (fun k:Nat=>(s).length-k) 0 (.slice none 0 0) (Nat.zero_le _) ⟨ke rfl,⟨_,rfl,bool_eq rfl⟩,⟨_,rfl,Bf rfl⟩,trivial⟩ (fun _ _ h=>h) ?_))
 rintro k v BN
 refine ac ?_
 refine Tr.seq ?_
 refine Tr.cn rfl ?_ ?_<;>intro h1 q1
 have Ae:k<(s).length:=AJ h1
 obtain ⟨x,Af⟩:=at_ Ae
 have hwl:=UM n has (s.take k)
 rw [List.length_take] at hwl
 refine ac ?_
 refine Tr.seq (Tr.block (Tr.seq (Tr.Bq (co rfl (AB rfl underlying38 BJ (vl rfl) (vl rfl) AA (Ad Af)) ?_))))
 refine ac ?_
 refine ac ?_
 refine Ch.cs 18 rfl ?_ ?_<;>intro h2 q2
 refine ac ?_
 refine Ch.cs 22 rfl ?_ ?_<;>intro h3 q3
 refine ac ?_
 refine wk [26,13,12,11,10,8,7,2,1] rfl ?_
 refine Tr.cn rfl ?_ ?_<;>intro h4 q4
 refine ap ?_
 refine TO.C1 0 rfl rfl AD (B7 rfl rfl rfl rfl underlying38 BJ IE z3 (Kb rfl) (Kf rfl) (A7 BD (Ka rfl))) (fun v1=> ?_)
 refine ap ?_
 refine wk [13,12,11,10,8,7,2,1] rfl ?_
 refine ac ?_
 refine Tr.cn rfl ?_ ?_<;>intro h5 q5
 refine ap ?_
 refine TO.C1 0 rfl rfl AD (B7 rfl rfl rfl rfl underlying38 BJ IE z3 (Kb rfl) (Kf rfl) (A7 BD (Ka rfl))) (fun v2=> ?_)
 refine ap ?_
 refine wk [13,12,11,8,7,2,1] rfl (Tr.Bq ?_)
 first|(refine jz rfl rfl rfl rfl AA ?_)|refine co rfl (ki rfl rfl rfl rfl) ?_
 refine ac ?_
 exact Fin.C_ (k+1) v2 (⟨Ae,by omega⟩) ⟨⟨_,rfl,AG k⟩,⟨_,rfl,bool_eq Gw⟩,⟨_,rfl,A9 Gw⟩,kz⟩ (fun _ _ h=>h)
 refine ac ?_
 refine Tr.Bq ?_
 first|(refine jz rfl rfl rfl rfl AA ?_)|refine co rfl (ki rfl rfl rfl rfl) ?_
 refine ac ?_
 exact Fin.C_ (k+1) v1 (⟨Ae,by omega⟩) ⟨⟨_,rfl,AG k⟩,⟨_,rfl,bool_eq Gw⟩,⟨_,rfl,A9 Gw⟩,kz⟩ (fun _ _ h=>h)
 refine ac ?_
 refine ac ?_
 refine Tr.cn rfl ?_ ?_<;>intro h6 q6
 refine ap ?_
 refine TO.C1 0 rfl rfl AD (B7 rfl rfl rfl rfl underlying38 BJ IE z3 (Kb rfl) (Kf rfl) (A7 BD (Ka rfl))) (fun v3=> ?_)
 refine ap ?_
 refine wk [13,12,11,8,7,2,1] rfl (Tr.Bq ?_)
 first|(refine jz rfl rfl rfl rfl AA ?_)|refine co rfl (ki rfl rfl rfl rfl) ?_
 refine ac ?_
 exact Fin.C_ (k+1) v3 (⟨Ae,by omega⟩) ⟨⟨_,rfl,AG k⟩,⟨_,rfl,bool_eq Gw⟩,⟨_,rfl,A9 Gw⟩,kz⟩ (fun _ _ h=>h)
 refine ac ?_
 refine Tr.Bq ?_
 first|(refine jz rfl rfl rfl rfl AA ?_)|refine co rfl (ki rfl rfl rfl rfl) ?_
 refine ac ?_
 exact Fin.C_ (k+1) v (⟨Ae,by omega⟩) ⟨⟨_,rfl,AG k⟩,⟨_,rfl,bool_eq Gw⟩,⟨_,rfl,A9 Gw⟩,kz⟩ (fun _ _ h=>h)
 refine ac ?_
 refine wk [26,13,12,11,10,8,7,2,1] rfl ?_
 refine ac ?_
 refine ac ?_
 refine Tr.cn rfl ?_ ?_<;>intro h7 q7
 refine ap ?_
 refine TO.C1 0 rfl rfl AD (B7 rfl rfl rfl rfl underlying38 BJ IE z3 (Kb rfl) (Kf rfl) (A7 BD (Ka rfl))) (fun v4=> ?_)
 refine ap ?_
 refine wk [13,12,11,8,7,2,1] rfl (Tr.Bq ?_)
 first|(refine jz rfl rfl rfl rfl AA ?_)|refine co rfl (ki rfl rfl rfl rfl) ?_
 refine ac ?_
 exact Fin.C_ (k+1) v4 (⟨Ae,by omega⟩) ⟨⟨_,rfl,AG k⟩,⟨_,rfl,bool_eq Gw⟩,⟨_,rfl,A9 Gw⟩,kz⟩ (fun _ _ h=>h)
 refine ac ?_
 refine Tr.Bq ?_
 first|(refine jz rfl rfl rfl rfl AA ?_)|refine co rfl (ki rfl rfl rfl rfl) ?_
 refine ac ?_
 exact Fin.C_ (k+1) v (⟨Ae,by omega⟩) ⟨⟨_,rfl,AG k⟩,⟨_,rfl,bool_eq Gw⟩,⟨_,rfl,A9 Gw⟩,kz⟩ (fun _ _ h=>h)
 refine ac ?_
 refine wk [26,13,12,11,10,8,7,2,1] rfl ?_
 refine ac ?_
 refine ac ?_
 refine Tr.cn rfl ?_ ?_<;>intro h8 q8
 refine ap ?_
 refine TO.C1 0 rfl rfl AD (B7 rfl rfl rfl rfl underlying38 BJ IE z3 (Kb rfl) (Kf rfl) (A7 BD (Ka rfl))) (fun v5=> ?_)
 refine ap ?_
 refine wk [13,12,11,8,7,2,1] rfl (Tr.Bq ?_)
 first|(refine jz rfl rfl rfl rfl AA ?_)|refine co rfl (ki rfl rfl rfl rfl) ?_
 refine ac ?_
 exact Fin.C_ (k+1) v5 (⟨Ae,by omega⟩) ⟨⟨_,rfl,AG k⟩,⟨_,rfl,bool_eq Gw⟩,⟨_,rfl,A9 Gw⟩,kz⟩ (fun _ _ h=>h)
 refine ac ?_
 refine Tr.Bq ?_
 first|(refine jz rfl rfl rfl rfl AA ?_)|refine co rfl (ki rfl rfl rfl rfl) ?_
 refine ac ?_
 exact Fin.C_ (k+1) v (⟨Ae,by omega⟩) ⟨⟨_,rfl,AG k⟩,⟨_,rfl,bool_eq Gw⟩,⟨_,rfl,A9 Gw⟩,kz⟩ (fun _ _ h=>h)
 have BC:k=(s).length:=by have:=AK h1;omega
 subst BC
 rw [List.take_length]
 have hwl:=UM n has s
 refine ac ?_
 refine ac ?_
 refine Ch.cs 40 rfl ?_ ?_<;>intro h9 q9
 refine ac ?_
 refine Tr.cn rfl ?_ ?_<;>intro h10 O2
 refine ap ?_
 refine TO.C1 0 rfl rfl AD (B7 rfl rfl rfl rfl underlying38 BJ IE z3 (Kb rfl) (Kf rfl) (A7 BD (Ka rfl))) (fun v6=> ?_)
 refine ap ?_
 refine wk [7] rfl ?_
 refine ac ?_
 refine ac ?_
 · exact ZA
 refine ac ?_
 refine ac ?_
 refine wk [6] rfl ?_
 refine ac ?_
 · exact ZA
 refine ac ?_
 refine ac ?_
 refine ac ?_
 refine wk [6] rfl ?_
 refine ac ?_
 · exact ZA
theorem PB {add:Bool} (hs:s.length≤100000) (hn:n≤100000):A_ prog 209 [int ((n:Nat):Int),reqs l,ints s,bool add] (ints (HR n l s add)):=by
 refine fo func209 rfl ⟨rfl,rfl⟩ fun M0 w0=> ?_
 refine a3 ?_
 refine Tr.block (Tr.B5 3 1 (Tr.EM _ (kk [11,3,2,1] rfl) (fun k v=>[(12,int ((k:Nat):Int)),(9,Ag v (ints (HR k l s add)))]) (fun k v=>Hp M0 w0 FG ([Ax 3 1 v])) (fun k:Nat=>k≤n) (fun k:Nat=>n-k) 0 (.slice none 0 0) (Nat.zero_le _) ⟨kq,⟨_,rfl,Bf rfl⟩,trivial⟩ (fun _ _ h=>h) ?_))
 rintro k v hkn
 refine ac ?_
 refine Tr.seq ?_
 refine Tr.cn rfl ?_ ?_<;>intro h1 q1
 have hk1:k<n:=by have:=FM.Gp h1;omega
 have VU:=Xr k l s add
 refine a3 ?_
 refine co rfl (Bu (KU) rfl rfl rfl) (cm rfl (co rfl (ZU rfl underlying4 vq vq) (cm rfl ?_)))
 refine Ch.cs 20 rfl ?_ ?_<;>intro h2 q2
 refine ac ?_
 refine cy h2 rfl (Iy (G6 AA) rfl rfl rfl rfl) (cy h2 rfl (Bu (O_) rfl rfl rfl) ?_)
 refine ac ?_
 refine wk [27,12,11,10,9,3,2,1] rfl ?_
 refine Tr.cn rfl ?_ ?_<;>intro h3 q3
 refine ap ?_
 refine TO.C1 0 rfl rfl AD (B7 rfl rfl rfl rfl underlying38 BJ IE z3 Fo Ea (A7 BD Gi)) (fun v1=> ?_)
 refine ap ?_
 refine ac ?_
 exact Fin.C_ (k+1) v1 (⟨by omega,by omega⟩) ⟨⟨_,rfl,AG k⟩,⟨_,rfl,A9 (by rw [pP (by unfold V_;simp_all)];simp)⟩,kz⟩ (fun _ _ h=>h)
 refine a2 ?_
 exact Fin.C_ (k+1) v (⟨by omega,by omega⟩) ⟨⟨_,rfl,AG k⟩,⟨_,rfl,A9 (by rw [ez (by unfold V_;simp_all)])⟩,kz⟩ (fun _ _ h=>h)
 refine ac ?_
 refine wk [27,12,11,10,9,3,2,1] rfl ?_
 refine a2 ?_
 exact Fin.C_ (k+1) v (⟨by omega,by omega⟩) ⟨⟨_,rfl,AG k⟩,⟨_,rfl,A9 (by rw [ez (by unfold V_;simp_all)])⟩,kz⟩ (fun _ _ h=>h)
 obtain rfl:k=n:=by have:=FM.Gp h1;omega
 refine a3 ?_
 · exact GS
theorem aE {c:BS} {a b:List Int} {t n x:Int} (hf:c.DZ a b []=0) (ht:c.has t=true) (Nw:a.length<24) (h:c.early a b t n=some x):n≤x∧(0≤x∧x≤40000)∧c.DZ (a++[t]) (b++[x]) []=0:=by
 have ho:=Io (HP hf)
 rw [KR (by rw [HQ ht];exact hf)] at h
 unfold BS.next at h
 obtain ⟨h1,h2⟩:=Ip ho
 obtain ⟨h3,⟨j,w,hj,h4,h5,h7⟩,_⟩:=O8 h (Iq h1 h2) h2
 rw [Nat.zero_add] at h7
 have hw:=List.any_eq_false.1 (MQ ho).2.2.1 w (List.mem_of_getElem? hj)
 have hl:=SE h4
 simp [MO] at hw
 have hop:c.Mh (a.zip b) t x=true:=(wM ho).2 ⟨j,w,hj,h4,h5,h7⟩
 refine ⟨by omega,by omega,?_⟩
 rw [←pH hf Nw ht] at hop
 exact of_decide_eq_true hop
def F5 (l:List B0) (MU:List Int) (i fr:Int):Int:=l.foldl (fun a r=>if r.thn=i then max a (MU.getD r.fst.toNat 0+1) else a) fr
theorem SO {MU:List Int} {i:Int}:∀{l:List B0} {fr:Int},fr≤F5 l MU i fr
 |[],_=>Int.le_refl _
 |r::l,fr=>by
  have h:= @SO MU i l (if r.thn=i then max fr (MU.getD r.fst.toNat 0+1) else fr)
  unfold F5 at h ⊢
  rw [List.foldl_cons]
  split at h
  next h2=>rw [if_pos h2];omega
  next h2=>rw [if_neg h2];exact h
theorem SP {MU:List Int} {i:Int} {r:B0}:∀{l:List B0} {fr:Int},r∈l→r.thn=i→MU.getD r.fst.toNat 0<F5 l MU i fr
 |[],_,h,_=>by cases h
 |x::l,fr,h,h2=>by
  unfold F5
  rw [List.foldl_cons]
  rcases List.mem_cons.1 h with rfl|h
  ·
   have h3:= @SO MU i l (if r.thn=i then max fr (MU.getD r.fst.toNat 0+1) else fr)
   unfold F5 at h3
   rw [if_pos h2] at h3 ⊢
   omega
  · exact SP h h2
abbrev Yt (t:List Int) (i:Int):Int:=t.getD i.toNat 0
open Classical in
noncomputable def LF (c:BS) (l:List B0) (t:List Int) (fr:Int) (st:Option (List Int×List Int×List Int)) (i:Int):Option (List Int×List Int×List Int):=
 match st with
 |none=>none
 |some (MU,busy,days)=>match c.early busy days (Yt t i) (F5 l MU i fr) with
  |none=>none
  |some d=>some (MU.set i.toNat d,busy++[Yt t i],days++[d])
variable {fr:Int} {l:List B0} {k n:Nat}
noncomputable def OV (c:BS) (l:List B0) (t:List Int) (fr:Int) (n:Nat) (row:List Int):Option (List Int×List Int×List Int):=row.foldl (LF c l t fr) (some (List.replicate n 0,[],[]))
theorem UN {c:BS} {l:List B0} {t:List Int} {fr:Int}:∀(row:List Int),row.foldl (LF c l t fr) none=none
 |[]=>rfl
 |_::row=>UN row
theorem OW {c:BS} {t:List Int} {row:List Int} {i:Int} (h:row[k]? =some i):OV c l t fr n (row.take (k+1))=LF c l t fr (OV c l t fr n (row.take k)) i:=by
 unfold OV
 rw [List.take_add_one,h,List.foldl_append];rfl
theorem gE {c:BS} {t:List Int} {row:List Int} {i:Int} {d b y:List Int} (h:row[k]? =some i) (hs:OV c l t fr n (row.take k)=some (d,b,y)) (he:c.early b y (Yt t i) (F5 l d i fr)=none):OV c l t fr n row=none:=by
 have h1:OV c l t fr n (row.take (k+1))=none:=by rw [OW h,hs];simp only [LF,he]
 unfold OV at h1 ⊢
 rw [←List.take_append_drop (k+1) row,List.foldl_append,h1]
 exact UN _
theorem wS {c:BS} {t:List Int} {row:List Int} {i x:Int} {d b y:List Int} (h:row[k]? =some i) (hs:OV c l t fr n (row.take k)=some (d,b,y)) (he:c.early b y (Yt t i) (F5 l d i fr)=some x):OV c l t fr n (row.take (k+1))=some (d.set i.toNat x,b++[Yt t i],y++[x]):=by
 rw [OW h,hs];simp only [LF,he]
structure TQ (c:BS) (l:List B0) (t row:List Int) (fr:Int) (n k:Nat) (MU busy days:List Int):Prop where
 len:MU.length=n
 hb:busy=(row.take k).map (Yt t)
 hd:days=(row.take k).map fun i=>MU.getD i.toNat 0
 bnd:∀x∈MU,0≤x∧x≤40000
 ge:∀i∈row.take k,fr≤MU.getD i.toNat 0
 ord:∀r∈l,r.thn∈row.take k→MU.getD r.fst.toNat 0<MU.getD r.thn.toNat 0
 fit:c.DZ busy days []=0
theorem Ir {l:List Int} {i j d:Int} (hi:0≤i) (hj:0≤j) (h:i.toNat<l.length):(l.set i.toNat d).getD j.toNat 0=if j=i then d else l.getD j.toNat 0:=by grind
theorem aF {l:List Int} {i:Int} (hn:l.Nodup) (h:l[k]? =some i):i∉l.take k:=by
 intro hm
 obtain ⟨j,hj⟩:=List.mem_iff_getElem?.1 hm
 rw [List.getElem?_take] at hj
 split at hj
 next hjk=>
  have:=(List.getElem?_inj ZD hn).1 (hj.trans h.symm)
  omega
 next=>cases hj
theorem TQ.next {c:BS} {t row done:List Int} {d i:Int} {MU busy days:List Int} (h:TQ c l t row fr n k MU busy days) (hr:OS (n:Int) l row done) (hk:row[k]? =some i) (hl:∀r∈l,0≤r.fst∧0≤r.thn∧r.fst≠r.thn) (hn:n≤24) (ht:c.has (Yt t i)=true) (he:c.early busy days (Yt t i) (F5 l MU i fr)=some d):TQ c l t row fr n (k+1) (MU.set i.toNat d) (busy++[Yt t i]) (days++[d]):=by
 have hi:=hr.WA i (List.mem_of_getElem? hk)
 have hni:=aF hr.nd hk
 have hlen:i.toNat<MU.length:=by rw [h.len];omega
 have S8:k<row.length:=by grind
 have hrl:=hr.len
 have VU:busy.length<24:=by rw [h.hb,List.length_map,List.length_take];omega
 obtain ⟨e1,e2,e3⟩:=aE h.fit ht VU he
 have hf:= @SO MU i l fr
 have dG:row.take (k+1)=row.take k++[i]:=by rw [List.take_add_one,hk];rfl
 have hrg:∀j∈row.take k,0≤j∧j≠i:=fun j hj=>⟨(hr.WA j (List.mem_of_mem_take hj)).1,fun e=>hni (e ▸ hj)⟩
 refine ⟨by rw [List.length_set];exact h.len,by rw [dG,List.map_append,←h.hb];rfl,?_,fun x hx=> ?_,fun j hj=> ?_,fun r hrm hm=> ?_,e3⟩
 ·
  rw [dG,List.map_append,h.hd]
  have h1:∀j∈row.take k,MU.getD j.toNat 0=(MU.set i.toNat d).getD j.toNat 0:=fun j hj=>by grind
  rw [List.map_congr_left h1]
  congr 1
  show [d]=[(MU.set i.toNat d).getD i.toNat 0]
  rw [Ir hi.1 hi.1 hlen,if_pos rfl]
 ·
  rcases List.mem_or_eq_of_mem_set hx with hx|hx
  · exact h.bnd x hx
  · subst hx;exact e2
 ·
  rw [dG,List.mem_append,List.mem_singleton] at hj
  rcases hj with hj|rfl
  · rw [Ir hi.1 (hrg j hj).1 hlen,if_neg (hrg j hj).2];exact h.ge j hj
  · grind
 ·
  rw [dG,List.mem_append,List.mem_singleton] at hm
  have hq:=hl r hrm
  rcases hm with hm|hm
  ·
   have h3:r.fst∈row.take k:=by
    obtain ⟨j,hj⟩:=List.mem_iff_getElem?.1 hm
    rw [List.getElem?_take] at hj
    split at hj
    next hjk=>
     have h4:=hr.ABK j _ hj r hrm rfl
     exact (List.take_subset_take_left row AA) h4
    next=>cases hj
   rw [Ir hi.1 hq.1 hlen,if_neg (hrg _ h3).2,Ir hi.1 hq.2.1 hlen,if_neg (hrg _ hm).2]
   exact h.ord r hrm hm
  ·
   have h3:=hr.ABK k i hk r hrm hm
   rw [Ir hi.1 hq.1 hlen,if_neg (hrg _ h3).2,Ir hi.1 hq.2.1 hlen,if_pos hm]
   have:=SP (MU:=MU) (i:=i) (fr:=fr) hrm hm
   omega
theorem TQ.nil {c:BS} {t row:List Int} (ho:c.own=0):TQ c l t row fr n 0 (List.replicate n 0) [] []:=
 ⟨List.length_replicate,rfl,rfl,fun x hx=>by rw [List.eq_of_mem_replicate hx];omega,fun i h=>by simp at h,fun r _ h=>by simp at h,pG ho⟩
theorem TQ.run {c:BS} {l:List B0} {t row done:List Int} {fr:Int} {n:Nat} (hr:OS (n:Int) l row done) (hl:∀r∈l,0≤r.fst∧0≤r.thn∧r.fst≠r.thn) (hn:n≤24) (ho:c.own=0) (ht:∀i:Int,0≤i→i<(n:Int)→c.has (Yt t i)=true):∀(k:Nat) {d b y:List Int},k≤row.length→OV c l t fr n (row.take k)=some (d,b,y)→TQ c l t row fr n k d b y
 |0,d,b,y,_,h=>by
  have h:some (List.replicate n 0,([]:List Int),([]:List Int))=some (d,b,y):=h
  cases h
  exact TQ.nil ho
 |k+1,d,b,y,hk,h=>by
  obtain ⟨i,hi⟩:=at_ (l:=row) (k:=k) AA
  have hrg:=hr.WA i (List.mem_of_getElem? hi)
  rw [OW hi] at h
  cases hs:OV c l t fr n (row.take k) with
  |none=>rw [hs] at h;cases h
  |some p=>
   obtain ⟨d1,b1,y1⟩:=p
   have ih:=TQ.run hr hl hn ho ht k AA hs
   rw [hs] at h
   simp only [LF] at h
   cases he:c.early b1 y1 (Yt t i) (F5 l d1 i fr) with
   |none=>rw [he] at h;cases h
   |some x=>
    rw [he] at h
    cases h
    exact ih.next hr hi hl hn (ht i hrg.1 hrg.2) he
theorem OS.all {row done:List Int} (hr:OS (n:Int) l row done) (hlen:row.length=n):row.Perm ((List.range n).map fun i:Nat=>(i:Int)):=by
 have hnd:((List.range n).map fun i:Nat=>(i:Int)).Nodup:=by
  refine List.Pairwise.map _ (fun a b hab=> ?_) (List.nodup_range (n:=n))
  intro e;apply hab;omega
 have hsub:∀x∈row,x∈(List.range n).map fun i:Nat=>(i:Int):=fun x hx=>by
  have:=hr.WA x hx
  exact List.mem_map.2 ⟨x.toNat,List.mem_range.2 AA,by omega⟩
 refine (List.perm_ext_iff_of_nodup hr.nd hnd).2 fun a=>⟨hsub a,fun ha=> ?_⟩
 refine Classical.byContradiction fun hna=> ?_
 have h1:=Qc (L:=a::row) (M:=(List.range n).map fun i:Nat=>(i:Int)) (List.nodup_cons.2 ⟨hna,hr.nd⟩) (fun x hx=>by
  rcases List.mem_cons.1 hx with rfl|hx
  · exact ha
  · exact hsub x hx)
 simp at h1;omega
end Go.Proofs.YteomgekmipcdpaaGreatDoor
namespace Cp
open Go Go.RowKit Go.Great
section
variable {P:Program} {L:Lg P} {n:Fm} {fz:Nat} {E:Env} {M0:Av} {w0:World} {S:Nat→Prop} {rs:List Ay} {o:Oper} {g:Func} {M1:Av} {w1:World}
theorem wT {d j:Nat} {T:TypeId} {x:Operand} {ps:List Pr} (hg:o.guard=none) (hd:o.dst=some d) (hn:d<n) (ho:o.op= .box T x) (hx:VL E x (DP ps)):
  DY P M0 w0 S n j (SR.c Bo) ⟨d,Er T ps⟩ o E (Cp.ex fun b=>ptr b 0):=by
 refine ⟨hg,fun M w a rs Uz he hI hj=> ?_⟩
 obtain ⟨h0,h1⟩:=hx.ev (o:=o) he Ap
 have hw:(a.eval x).cells.toList.toArray=(a.eval x).cells:=by simp
 have hrun:(execOp a.eval o).run P w= .ok (.value (.pointer (some ⟨w.heap.size,0,none⟩))) (w.alloc (.cells (a.eval x).cells.toList.toArray T)):=by simp [execOp,ho,Instr.box,newVar,newRow]
 rw [hrun]
 have hb:Below w.heap.size w (w.alloc (.cells (a.eval x).cells.toList.toArray T)):=(Below.refl _ _).alloc (Nat.le_refl _) _
 have h2:=Ext.below (M:=M) hb
 have Eo:Ext M w (fun b o=>M b o∨b=w.heap.size) (w.alloc (.cells (a.eval x).cells.toList.toArray T)):=by
  refine ⟨h2.size,fun a v hc hm=>⟨fun hx=> ?_,(h2.keep a v hc hm).2⟩,fun b o ho hp hm=>⟨fun hx=> ?_,(h2.obj b o ho hp hm).2⟩⟩
  ·
   rcases hx with hx|hx
   · exact hm hx
   · exact Ew
  · grind
 have hs1:(w.alloc (.cells (a.eval x).cells.toList.toArray T)).heap.size=w.heap.size+1:=by simp
 have hat:(SR.at_ (a.put o.dst (.pointer (some ⟨w.heap.size,0,none⟩))) ⟨d,Er T ps⟩)=AE true w.heap.size T ps:=by unfold SR.at_ Slot.val;dsimp only;rw [hd,B1 Hf];rfl
 refine ⟨fun b o=>M b o∨b=w.heap.size,⟨_,rfl⟩,Eo,?_⟩
 rw [hat]
 refine hI.replace hj Eo hb.os hb.tape hb.output (fun k hk _=>hb.block k hk) rfl (fun b o hm _=> .inl hm) (fun b o hx=> ?_) ?_ rfl (fun b hbk=> ?_)
 ·
  rcases hx with hx|hx
  · have:=hI.bd _ _ hx;omega
  · omega
 · refine ⟨fun o=> .inr rfl,(a.eval x).cells.toList,heap_alloc_new w _,h0.st Eo,h1⟩
 ·
  have En:some w.heap.size=some b:=hbk
  injection En with e1
  subst e1
  exact ⟨by rw [hs1];omega,.inr (Nat.le_refl _)⟩
end
section
variable {P:Program} {L:Lg P} {n:Fm} {fz:Nat} {E:Env} {M0:Av} {w0:World} {S:Nat→Prop} {rs:List Ay}
end
end Cp
namespace Cp
open Go Go.RowKit
abbrev Dp (ρ:Option Nat):Fence:={ Fence.wide with round:=ρ }
section
variable {P:Program} {ρ:Option Nat}
def Lp (o:Oper):Bool:=match o.op with
 | .defer _=>false
 |_=>true
theorem e7 {o:Oper} {a:Act} {w:World} {K K':Act→World→Prop} {Q:Exit→Act→World→Prop} (hc:Lp o=true) (hK:∀a w,K a w→K' a w) (h:o.wp P a w K Q):o.wpIn (Dp ρ) 0 P a w K' Q:=by
 refine ⟨fun _ _=>trivial,?_⟩
 rw [Oper.semAt_eq _ _ _ (fun c hh=>by unfold Lp at hc;rw [hh] at hc;cases hc)]
 unfold Oper.wp at h
 generalize (execOp a.eval o).run P w=r at h ⊢
 cases r with
 |halt x w'=>cases x<;>first|exact h|exact h.elim
 |ok x w'=>
  cases x<;>first|exact h.elim|skip
  case value v=>exact hK _ _ h
  case skip=>exact hK _ _ h
  case defer d=>exact hK _ _ h
  case enter f args=>exact ⟨fun hh=>(by cases hh),callsIn_wide.2 (h.mono fun e w'' hr=>by cases e<;>first|exact hK _ _ hr|exact hr)⟩
  case row row args=>
   refine ⟨fun hh=>(by cases hh),fun c cs _=> ?_⟩
   obtain ⟨v,w2,h1,h2⟩:=h c cs
   exact ⟨v,w2,hK _ _ h1,stepsIn_wide.2 h2⟩
theorem pQ {ops:Array Oper} {Q:Exit→Act→World→Prop} (hc:∀(i:Nat) o,ops[i]? =some o→Lp o=true):∀(l:List Nat) (a:Act) (w:World),wpS P ops Q l a w→wpOpsIn (Dp ρ) 0 P ops Q l a w
 |[],_,_,h=>h
 |i::l,a,w,h=>by
  have ih:=pQ (Q:=Q) hc l
  unfold wpS at h
  unfold wpOpsIn
  cases ho:ops[i]? with
  |none=>rw [ho] at h;exact ih a w h
  |some o=>
   rw [ho] at h
   dsimp only at h ⊢
   split
   next hw=>rw [if_pos hw] at h;exact e7 (hc i o ho) ih h
   next hw=>rw [if_neg hw] at h;exact ⟨fun _ _=>trivial,ih _ _ h⟩
theorem ABM {ops:Array Oper} {Q:Exit→Act→World→Prop} (hc:∀(i:Nat) o,ops[i]? =some o→Lp o=true) {i:Nat} {K K':Act→World→Prop} {a:Act} {w:World} (hK:∀a w,K a w→K' a w) (h:Q6 P ops Q i K a w):wpOpIn (Dp ρ) 0 P ops Q i K' a w:=by
 unfold Q6 at h
 unfold wpOpIn
 cases ho:ops[i]? with
 |none=>rw [ho] at h;exact hK _ _ h
 |some o=>
  rw [ho] at h
  dsimp only at h ⊢
  split
  next hw=>rw [if_pos hw] at h;exact e7 (hc i o ho) hK h
  next hw=>rw [if_neg hw] at h;exact ⟨fun _ _=>trivial,hK _ _ h⟩
theorem pR {ops:Array Oper} {md:Region.Mode} {Q:Exit→Act→World→Prop} (hc:∀(i:Nat) o,ops[i]? =some o→Lp o=true):∀(fuel:Nat) (listed:Array Bool) (a:Act) (w:World),L1 P md ops Q fuel listed a w→wpAnyIn (Dp ρ) 0 P md ops Q fuel listed a w
 |0,_,_,_,h=>h
 |fuel+1,_,_,_,h=>⟨h.1,fun i hi=>ABM hc (pR hc fuel _) (h.2 i hi)⟩
theorem wU {l:List Oper} (hc:calm l=true):∀(i:Nat) o,l.toArray[i]? =some o→Lp o=true:=fun i o ho=>by
 have hm:o∈l:=List.mem_of_getElem? (by simpa using ho)
 have:=List.all_eq_true.1 hc o hm
 unfold Lp;revert this;cases o.op<;>simp
theorem wV {c:Code} {Q:Exit→Act→World→Prop} {α:Type} (μ:α→Nat) (R:α→Act→World→Prop) (round:∀x a w,R x a w→c.wpIn (Dp ρ) 0 P (Exit.then (fun a' w'=>∃y,μ y<μ x∧R y a' w') Q) a w) (x:α) (a:Act) (w:World) (hx:R x a w):(Code.loop c).wpIn (Dp ρ) 0 P Q a w:=by
 intro b k cs hro hb hr
 have key:∀m x a w,μ x=m→R x a w→∃e a' w',Q e a' w'∧ArrivesIn (Machine.fenced P (Dp ρ)) P (lone (b.atR a (.code c:: .inLoop c::k)) cs w) b k cs e a' w':=by
  intro m
  induction m using Nat.strongRecOn with
  |_ m ih=>
   intro x a w hm hx
   obtain ⟨e,a₁,w₁,hq,IU⟩:=round x a w hx b (.inLoop c::k) cs hro hb hr
   cases e with
   |normal=>
    obtain ⟨y,hlt,hy⟩:=hq
    obtain ⟨e₂,a₂,w₂,lD,VA⟩:=ih (μ y) (hm ▸ hlt) y a₁ w₁ rfl hy
    exact ⟨e₂,a₂,w₂,lD,.of_steps (StepsIn.trans IU (.one (fenced_calm hb hr rfl) stepR_inLoop)) VA⟩
   |exit id=>exact ⟨_,a₁,w₁,hq,.pass (x:= .inLoop c) rfl (fun _ _=> .inl AR) IU⟩
   |goto l=>exact ⟨_,a₁,w₁,hq,.pass (x:= .inLoop c) rfl (fun _ _=> .inl AR) IU⟩
   |ret=>exact ⟨_,a₁,w₁,hq,.pass (x:= .inLoop c) rfl (fun _ _=> .inl AR) IU⟩
   |panic ch=>exact ⟨_,a₁,w₁,hq,.pass (x:= .inLoop c) rfl (fun _ _=> .inl AR) IU⟩
   |outgrown=>exact ⟨_,a₁,w₁,hq,.pass (x:= .inLoop c) rfl (fun _ _=> .inl AR) IU⟩
 obtain ⟨e,a',w',hq,IU⟩:=key _ x a w rfl hx
 exact ⟨e,a',w',hq,.of_steps (.one (fenced_calm hb hr rfl) stepR_loop) IU⟩
@[reducible] def fA (P:Program) (ρ:Option Nat):Lg P where
 wp c Q a w:=c.wpIn (Dp ρ) 0 P Q a w
 mono hq h:=wpIn_mono h hq
 skip h:=wpIn_skip h
 ret h:=wpIn_ret h
 exit h:=wpIn_exit h
 seq h:=wpIn_seq h
 block h:=wpIn_block h
 cond hc ht hf:=wpIn_cond_split hc ht hf
 loop:=wV
 region {id l Q a w} hc h:=wpIn_region (pQ (fun i o ho=>by
  have hm:o∈l:=List.mem_of_getElem? (by simpa using ho)
  have:=List.all_eq_true.1 hc o hm
  unfold Lp;revert this;cases o.op<;>simp) _ _ _ (by simpa [List.range_eq_range'] using h))
 draw hc hm h:=wpIn_region_any hm (pR (wU hc) _ _ _ _ h)
end
end Cp
namespace Cp
open Go Go.RowKit Go.Great
section
variable {P:Program} {L:Lg P} {n:Fm} {fz:Nat} {E:Env} {M0:Av} {w0:World} {S:Nat→Prop} {rs:List Ay} {o:Oper}
end
end Cp
namespace Cp
open Go Go.RowKit
variable {a:Act} {ts:Array TypeId} {M:Av} {new:Bool} {rows:List (List Pr)} {ps:List Pr} {zs:List Value} {b j n:Nat} {o:Oper} {p q:Pr} {P:Program} {T e t:TypeId} {v:Value} {w:World}
theorem Cb.Mh {E:Env} (s:Nat) {α:Type} {f:α→Pr} (hs:E.lookup s=some (Cp.ex f)) (hm:s∈looks o) (he:Cb M w E o a):∃x,Cb M w ((s,f x)::E) o a:=by
 obtain ⟨x,hx⟩:=he s _ hm hs
 refine ⟨x,fun t q ht hq=> ?_⟩
 simp only [List.lookup] at hq
 by_cases hts:t=s
 · grind
 · exact Uy
theorem Cb.opf {E:Env} {φ:Prop} (s:Nat) (hs:E.lookup s=some (Cp.fact φ p)) (hm:s∈looks o) (he:Cb M w E o a):φ∧Cb M w ((s,p)::E) o a:=by
 obtain ⟨hφ,hx⟩:=he s _ hm hs
 refine ⟨hφ,fun t q ht hq=> ?_⟩
 simp only [List.lookup] at hq
 by_cases hts:t=s
 · grind
 · exact Uy
section
variable {P:Program} {M0:Av} {w0:World} {S:Nat→Prop} {n:Fm} {j:Nat} {R R':SR} {E:Env} {o:Oper}
theorem DY.Mh (s:Nat) {α:Type} {f:α→Pr} (hg:o.guard=none) (hs:E.lookup s=some (Cp.ex f)) (hm:s∈looks o) (h:∀x,DY P M0 w0 S n j R R' o ((s,f x)::E) p):DY P M0 w0 S n j R R' o E p:=
 ⟨hg,fun M w a rs hsz he hI hj=>by obtain ⟨x,hx⟩:=he.Mh s hs hm;exact (h x).2 M w a rs hsz hx hI hj⟩
theorem DY.opf {φ:Prop} (s:Nat) (hg:o.guard=none) (hs:E.lookup s=some (Cp.fact φ q)) (hm:s∈looks o) (h:φ→DY P M0 w0 S n j R R' o ((s,q)::E) p):DY P M0 w0 S n j R R' o E p:=
 ⟨hg,fun M w a rs hsz he hI hj=>by obtain ⟨hφ,hx⟩:=he.opf s hs hm;exact (h hφ).2 M w a rs hsz hx hI hj⟩
theorem DY.le (h:DY P M0 w0 S n j R R' o E p) (hl:Pr.le p q):DY P M0 w0 S n j R R' o E q:=by
 refine ⟨h.1,fun M w a rs hsz he hI hj=> ?_⟩
 have this:=h.2 M w a rs hsz he hI hj
 generalize (execOp a.eval o).run P w=r at this ⊢
 unfold D7 at this
 split at this
 · obtain ⟨M',h1,h2,h3⟩:=this;exact ⟨M',hl _ _ _ h1,h2,h3⟩
 · obtain ⟨M',h1,h2,h3⟩:=this;exact ⟨M',hl _ _ _ h1,h2,h3⟩
 · exact Calls.mono this fun _ _ ⟨v,M',h0,h1,h2,h3⟩=>⟨v,M',h0,hl _ _ _ h1,h2,h3⟩
 · exact this.elim
end
theorem pS {z:Array Value} {u:Value} (h0:0<z.size) (h:u∈(madeCells z n).toList):u∈z.toList:=by
 simp only [madeCells,Array.toList_map,List.mem_map] at h
 obtain ⟨k,_,rfl⟩:=h
 have hk:k % z.size<z.size:=Nat.mod_lt _ h0
 rw [getElem!_pos z _ hk]
 exact Array.getElem_mem_toList hk
theorem wW {z:Array Value} {m sz i:Nat} {u:Value} (hz:z.size=sz) (hi:i<m) (hu:z.toList[j]? =some u):(madeCells z (m*sz)).toList[i*sz+j]? =some u:=by
 have hjl:j<sz:=by grind
 have hlt:i*sz+j<m*sz:=by
  have:(i+1)*sz≤m*sz:=Nat.mul_le_mul_right sz hi
  rw [Nat.add_mul] at this;omega
 have hmod:(i*sz+j) % sz=j:=by rw [Nat.mul_comm,Nat.mul_add_mod,Nat.mod_eq_of_lt hjl]
 have hjz:j<z.size:=by omega
 rw [Array.getElem?_toList] at hu ⊢
 rw [Array.getElem?_eq_getElem hjz] at hu
 simp only [madeCells]
 rw [Array.getElem?_map,Array.getElem?_range,if_pos hlt,Option.map_some,hz,hmod,getElem!_pos z _ hjz,hu]
theorem Xs {I:Cc} {E:Env} {x y:Operand} {sz gP m:Nat} (ho:o.op= .makeSlice t x y) (ht:P.underlying t=some (.slice e)) (hz:Az P e=some sz) (hby:Br P e=some gP) (D8:BM P e=some zs) (hzl:zs.length=sz) (hsz:0<sz) (h1:zs.all (·.oneCell')=true) (hx:VL E x (int ((m:Nat):Int))) (hy:VL E y (int ((m:Nat):Int))) (hm:m≤maxLen) (hb:gP*m≤281474976710656):Ab P I o E (full sz (List.replicate m (zs.map is))):=
 Ab.val fun M w a he hI=>by
  have hx1:a.eval x= .int .i64 m:=hx.ev he Ap
  have hy1:a.eval y= .int .i64 m:=hy.ev he Ap
  unfold Az at hz
  unfold Br at hby
  unfold BM at D8
  cases hi:P.info? e with
  |none=>rw [hi] at hz;cases hz
  |some i=>
   rw [hi] at hz hby D8
   simp only [Option.map_some,Option.some.injEq,Option.map_eq_some_iff] at hz hby D8
   obtain ⟨z,Wg,D8⟩:=D8
   have dF:z.cells.size=sz:=by rw [←hzl,←D8];simp
   have hrun:=run_make (P:=P) w t e i z ht hi Wg .i64 .i64 (m:Int) (m:Int) AA (Int.le_refl _) (by rw [hby];have h0:((gP*m:Nat):Int)≤281474976710656:=Int.ofNat_le.2 hb;rw [←Int.natCast_mul];exact h0) U7
   rw [hz] at hrun
   simp only [Int.toNat_natCast] at hrun
   have Ys:Below w.heap.size w (w.alloc (.cells (madeCells z.cells (m*sz)) e)):=(Below.refl _ _).alloc (Nat.le_refl _) _
   have hrl:(List.replicate m (zs.map is)).length=m:=List.length_replicate
   have hfl:Flat M w sz (List.replicate m (zs.map is)) (madeCells z.cells (m*sz)).toList:=by
    refine ⟨by rw [hrl];simp [size_madeCells],fun u hu=>List.all_eq_true.1 h1 _ (by rw [←D8];exact pS AA hu),fun k row hr=> ?_⟩
    have hk:k<m:=by have:=BZ hr;omega
    obtain rfl:row=zs.map is:=List.eq_of_mem_replicate (List.mem_of_getElem? hr)
    refine ⟨by simp [hzl],fun j p hp=> ?_⟩
    rw [List.getElem?_map,Option.map_eq_some_iff] at hp
    obtain ⟨u,hu,rfl⟩:=hp
    exact ⟨u,wW dF hk (by rw [D8];exact hu),rfl⟩
   refine ⟨.slice (some ⟨w.heap.size,0,none⟩) m m,w.alloc (.cells (madeCells z.cells (m*sz)) e),by simp [execOp,ho,hx1,hy1,hrun],?_,Ys⟩
   have KV:=E4 (hfl.st (Ext.below Ys)) (c:=m) (Nat.le_of_eq hrl) hm (g:=w.heap.size) (fun k u hk=>⟨by rw [RB];simpa using hk,fun hx=>by have:=I.bd _ _ hI _ _ hx;omega⟩)
   rw [hrl] at KV
   exact ⟨KV,_,by rw [hrl]⟩
section
variable {P:Program} {L:Lg P} {n:Fm} {E:Env} {M0:Av} {w0:World} {S:Nat→Prop} {rs:List Ay}
theorem Fin.NL {Q:Exit→Act→World→Prop} {x:Exit} (i j k:Nat) {sz:Nat} (hi:rs[i]? =some (AE new b T ps)) (hj:rs[j]? =some (CX e sz rows v)) (hij:j≠i) (hk:ps[k]? =some p) (hp:Pr.le p (is v)) (hl:∀r∈rows,r.length=sz) (kk:Fin n E (Hp M0 w0 S ((rs.set j Bo).set i (AE new b T (ps.set k (slice sz rows))))) Q x):Fin n E (Hp M0 w0 S rs) Q x:=Fin.conv (fun _ _ hs=>hs.NL hi hj hij hk hp hl) kk
end
section
variable {P:Program} {M0:Av} {w0:World} {S:Nat→Prop} {rs:List Ay}
def BH (b:Nat) (x:Obj):Ay where
 blk:=some b
 new:=true
 h M w:=(∀o,M b o)∧w.heap[b]? =some x
 st M w M' w' _ hk h:=by
  obtain ⟨h1,h2⟩:=hk b rfl
  exact ⟨fun o=>h2 o (h.1 o),h1.trans h.2⟩
theorem A8.pT (h:A8 M0 w0 S rs M w) (x:Obj):
  A8 M0 w0 S (BH w.heap.size x::rs) (fun b o=>M b o∨b=w.heap.size) (w.alloc x)∧Ext M w (fun b o=>M b o∨b=w.heap.size) (w.alloc x):=by
 have hb:Below w.heap.size w (w.alloc x):=(Below.refl _ _).alloc (Nat.le_refl _) _
 have hsz:(w.alloc x).heap.size=w.heap.size+1:=by simp
 have he:Ext M w (fun b o=>M b o∨b=w.heap.size) (w.alloc x):=by
  have h2:=Ext.below (M:=M) hb
  refine ⟨h2.size,fun a v hc hm=>⟨fun hx=> ?_,(h2.keep a v hc hm).2⟩,fun b o ho hp hm=>⟨fun hx=> ?_,(h2.obj b o ho hp hm).2⟩⟩
  ·
   rcases hx with hx|hx
   · exact hm hx
   · exact Ew
  ·
   rcases hx with hx|hx
   · exact hm hx
   · subst hx;simp at ho
 have hI:=(Hp M0 w0 S rs).st _ _ _ hb h
 refine ⟨⟨hI.m0,fun b o hm=> .inl (hI.m b o hm),hI.os,hI.tape,hI.output,hI.size,hI.block,fun b o hm=> ?_,fun r hr=> ?_,?_⟩,he⟩
 ·
  rcases hm with hm|hm
  · exact hI.bd b o hm
  · omega
 ·
  rcases List.mem_cons.1 hr with rfl|hr
  ·
   refine ⟨⟨fun o=> .inr rfl,heap_alloc_new w _⟩,fun b hbk=> ?_⟩
   simp only [BH,Option.some.injEq] at hbk
   subst hbk
   exact ⟨by omega,by simp [BH];exact h.size⟩
  ·
   obtain ⟨h3,h4⟩:=h.hold r hr
   exact ⟨r.st _ _ _ _ he (fun b hbk=>⟨hb.block b (h4 b hbk).1,fun _ x=> .inl x⟩) h3,fun b hbk=>⟨by have:=(h4 b hbk).1;omega,(h4 b hbk).2⟩⟩
 ·
  refine List.pairwise_cons.2 ⟨fun r hr b S7 We=> ?_,hI.nd⟩
  simp only [BH,Option.some.injEq] at S7
  subst S7
  have:=((h.hold r hr).2 _ We).1
  omega
theorem A8.putObj {x:Obj} (y:Obj) (h:A8 M0 w0 S rs M w) (hj:rs[j]? =some (BH b x)):A8 M0 w0 S (rs.set j (BH b y)) M (w.putObj b y)∧Ext M w M (w.putObj b y):=by
 obtain ⟨⟨hM,hx⟩,hbk⟩:=h.hold _ (List.mem_of_getElem? hj)
 have hlt:b<w.heap.size:=(hbk b rfl).1
 have hsz:(w.putObj b y).heap.size=w.heap.size:=by simp [World.putObj]
 have he:Ext M w M (w.putObj b y):=by
  refine ⟨by omega,fun a v hc hm=>⟨hm,?_⟩,fun k o ho _ hm=>⟨hm,?_⟩⟩
  ·
   have hne:a.block≠b:=fun e=>hm (e ▸ hM _)
   rw [World.cell?_of_block (w:=w) (World.putObj_heap_other hne)];exact hc
  ·
   have hne:k≠b:=fun e=>hm (e ▸ hM _)
   exact (World.putObj_heap_other hne).trans ho
 refine ⟨h.replace hj he rfl rfl rfl (fun k _ hne=>World.putObj_heap_other (fun e=>hne (by rw [e];rfl))) rfl (fun _ _ hm _=>hm) (fun b' o hm=>by have:=h.bd b' o hm;omega) ⟨hM,World.putObj_heap_same hlt⟩ rfl (fun b' hb'=>⟨?_,.inl hb'⟩),he⟩
 simp only [BH,Option.some.injEq] at hb'
 subst hb';omega
end
def Nd (P:Program) (gf:Nat) (lb:Array Value) {α:Type} (enc:α→Value) (xs:List α) (own:List α→List Ay):Prop:=
 ∀M0 w0 S (l:Nat) (β:Type) (R Rx:List α→β→List Ay),
  (∀pre x d M w,(pre++[x])<+:xs→A8 M0 w0 S (own (pre++[x])++R pre d) M w→YieldAt (Dp none) 0 P l #[enc x] w fun e w'=>∃M' d',Ext M w M' w'∧
   ((e= .returned (.bool true)∧A8 M0 w0 S (own (pre++[x])++R (pre++[x]) d') M' w')∨(e= .returned (.bool false)∧A8 M0 w0 S (own (pre++[x])++Rx (pre++[x]) d') M' w')))→
  ∀d M w,A8 M0 w0 S (own []++R [] d) M w→CallsIn (Dp none) 0 P gf (#[.func (.yield l) #[] #[]]++lb) w fun e w'=>(∃v,e= .returned v)∧∃M' d',Ext M w M' w'∧
   (A8 M0 w0 S (own xs++R xs d') M' w'∨∃pre,pre<+:xs∧A8 M0 w0 S (own pre++Rx pre d') M' w')
def JR (M0:Av) (w0:World) (S:Nat→Prop) {β:Type} (rs:β→List Ay) (rx:Code→β→List Ay):Exit→Act→World→Prop
 | .normal,_,w=>∃d M,A8 M0 w0 S (rs d) M w
 | .ret,_,w=>∃d M,A8 M0 w0 S (rx .ret d) M w
 | .exit id,_,w=>∃d M,A8 M0 w0 S (rx (.exit id) d) M w
 | .goto t,_,w=>∃d M,A8 M0 w0 S (rx (.goto t) d) M w
 | .panic _,_,_=>False
 | .outgrown,_,_=>False
section
variable {P:Program} {M0:Av} {w0:World} {S:Nat→Prop} {rs:List Ay}
theorem Tr.range {Q:Exit→Act→World→Prop} {n:Fm} {E:Env} {α β:Type} {p gf:Nat} {g:Operand} {lb:Array Value} {enc:α→Value} {xs:List α} {own:List α→List Ay} {assign body:Code} (E':α→Env) (R:List α→β→List Ay) (Rx:Code→List α→β→List Ay) (d0:β)
  (hIt:Nd P gf lb enc xs own) (eg:∀args w,(callFunc gf args).run P w= .ok (.enter gf args) w) (hg:VL E g (is (.func (.func gf) #[] lb))) (NJ:rs.Perm (own []++R [] d0))
  (hassign:∀l D rec M1 w1 pre x d,(pre++[x])<+:xs→∀a,a.tmps.size=n.sz→Fc M1 w1 E a→∀M w,A8 M0 w0 S (own (pre++[x])++(BH l rec::BH D (.deferred (some []))::Ac M1 w1::R pre d)) M w→
   assign.wpIn (Dp (some l)) 0 P (Exit.then (St ⟨n.sz,[]⟩ (E' x) (Hp M0 w0 S (own (pre++[x])++(BH l rec::BH D (.deferred (some []))::Ac M1 w1::R pre d)))) (fun _ _ _=>False)) { tmps:=a.tmps.setIfInBounds p (enc x),defers:=[] } w)
  (hbody : ∀ l D rec M1 w1 pre x d, (pre ++ [x]) <+: xs → Tr (fA P (some l)) ⟨n.sz, []⟩ (E' x) (Hp M0 w0 S (own (pre ++ [x]) ++ (BH l rec :: BH D (.deferred (some [])) :: Ac M1 w1 :: R pre d))) body
   (JR M0 w0 S (fun d=>own (pre++[x])++(BH l rec::BH D (.deferred (some []))::Ac M1 w1::R (pre++[x]) d)) (fun c d=>own (pre++[x])++(BH l rec::BH D (.deferred (some []))::Ac M1 w1::Rx c (pre++[x]) d))))
  (hdone:∀l D rec M1 w1 d,Fin ⟨n.sz,{ target:= .collected D,args:= #[] }::n.df⟩ E (Hp M0 w0 S (own xs++(BH l rec::BH D (.deferred (some []))::Ac M1 w1::R xs d))) Q .normal)
  (hstop:∀l D rec M1 w1 c pre d,pre<+:xs→Tr (fA P none) ⟨n.sz,{ target:= .collected D,args:= #[] }::n.df⟩ E (Hp M0 w0 S (own pre++(BH l rec::BH D (.deferred (some []))::Ac M1 w1::Rx c pre d))) c Q):
  Tr (fA P none) n E (Hp M0 w0 S rs) (.rangeFunc g #[p] assign body) Q:=by
 intro a w ⟨M,hsz,hdf,hE,hI⟩
 have hI:A8 M0 w0 S rs M w:=hI
 refine wpIn_rangeFunc ?_
 intro fn hfn
 obtain ⟨rec,aG⟩:∃rec:LoopState→Option Code→Loop,rec=fun st pe=>{ state:=st,pending:=pe,fn,tmps:=a.tmps,params:= #[p],assign,body,defers:=w.heap.size }:=⟨_,rfl⟩
 -- what is held ahead of the call
 have hI2:=A8.perm NJ hI
 obtain ⟨hI3,e3⟩:=hI2.pT (.deferred (some []))
 obtain ⟨hI4,e4⟩:=hI3.pT (.loop (rec .ready none))
 obtain ⟨W1,hW1⟩:∃W1,(w.alloc (.deferred (some []))).alloc (.loop (rec .ready none))=W1:=⟨_,rfl⟩
 have hs1:(w.alloc (.deferred (some []))).heap.size=w.heap.size+1:=by simp
 rw [hW1,hs1] at hI4 e4
 obtain ⟨M1,hM1⟩:∃M1:Av,M1=(fun b o=>(M b o∨b=w.heap.size)∨b=w.heap.size+1):=⟨_,rfl⟩
 rw [←hM1] at hI4 e4
 have e1:Ext M w M1 W1:=e3.trans e4
 obtain ⟨l,hl⟩:∃l,l=w.heap.size+1:=⟨_,rfl⟩
 obtain ⟨D,hD⟩:∃D,D=w.heap.size:=⟨_,rfl⟩
 rw [←hl] at hI4
 rw [←hD] at hI4
 have hE1:Fc M1 W1 E a:=fun s q hq=>q.st _ _ _ _ _ e1 (hE s q hq)
 have hI5:A8 M0 w0 S (own []++(BH l (.loop (rec .ready none))::BH D (.deferred (some []))::Ac M1 W1::R [] d0)) M1 W1:=by
  refine A8.perm ?_ (A8.Jm hI4 (r:=Ac M1 W1) rfl (Ext.refl _ _))
  refine List.Perm.trans (l₂:=(BH l (.loop (rec .ready none))::BH D (.deferred (some []))::Ac M1 W1::R [] d0)++own []) ?_ List.perm_append_comm
  refine (List.Perm.swap _ _ _).trans (List.Perm.cons _ ((List.Perm.swap _ _ _).trans (List.Perm.cons _ (List.Perm.cons _ List.perm_append_comm))))
 have ix:∀(os:List Ay) (r:Ay) (tl:List Ay),(os++r::tl)[os.length]? =some r:=fun os r tl=>by simp
 have sx:∀(os:List Ay) (r r':Ay) (tl:List Ay),(os++r::tl).set os.length r'=os++r'::tl:=fun os r r' tl=>by simp
 have ix2:∀(os:List Ay) (r1 r2 r:Ay) (tl:List Ay),(os++r1::r2::r::tl)[os.length+2]? =some r:=fun os r1 r2 r tl=>by grind
 have sx2:∀(os:List Ay) (r1 r2 r r':Ay) (tl:List Ay),(os++r1::r2::r::tl).set (os.length+2) r'=os++r1::r2::r'::tl:=fun os r1 r2 r r' tl=>by
  rw [List.set_append_right _ _ AA];simp
 have AKA:=hdone;have AKB:=hstop
 refine ⟨l,[{ target:= .collected D,args:= #[] }],W1,{ target:= .fn (.func gf) lb,args:= #[.func (.yield l) #[] #[]] },W1,gf,#[.func (.yield l) #[] #[]]++lb,W1,?_,?_,fun _ _=>trivial,?_,fun h=>GP,?_⟩
 · rw [hl,hD,←hW1,aG];exact run_enterLoop_outer _ _ _ _ _
 ·
  have hv:a.eval g= .func (.func gf) #[] lb:=by
   obtain ⟨q,h1,h2⟩:=hg
   exact h2 _ _ _ (C7.eval hE h1)
  simp only [resolve,hv]
  simp [go_sem]
 · simp [invoke,go_sem,eg]
 ·
  refine (hIt M0 w0 S l (Code × β) (fun pre cd => BH l (.loop (rec .ready none)) :: BH D (.deferred (some [])) :: Ac M1 W1 :: R pre cd.2)
   (fun pre cd=>BH l (.loop (rec .done (some cd.1)))::BH D (.deferred (some []))::Ac M1 W1::Rx cd.1 pre cd.2) ?_ (.skip,d0) M1 W1 hI5).mono ?_
  ·
   rintro pre x ⟨c0,d⟩ M2 W2 hpre hI
   have hl2:W2.heap[l]? =some (.loop (rec .ready none)):=(hI.hold (BH l (.loop (rec .ready none))) AR).1.2
   have hx2:Ext M1 W1 M2 W2:=(hI.hold (Ac M1 W1) AR).1
   have hy:=run_yield (P:=P) (args:= #[enc x]) hl2 (by rw [aG];rfl)
   have Tp:A8 M0 w0 S (own (pre++[x])++(BH l (.loop (rec .ready none))::BH D (.deferred (some []))::Ac M2 W2::R pre d)) M2 W2:=by
    have:=hI.Cw (r':=Ac M2 W2) (ix2 _ _ _ _ _) rfl rfl (Ext.refl _ _)
    rwa [sx2] at this
   have hy2:(Instr.yield l #[enc x]).run P W2= .ok (.round l fn (a.tmps.setIfInBounds p (enc x)) assign body) W2:=by
    rw [hy,aG];simp
   have ha:=hassign l D _ M2 W2 pre x d hpre a hsz (fun s q hq=>q.st _ _ _ _ _ hx2 (hE1 s q hq)) M2 W2 Tp
   refine ⟨fn,_,assign,body,hy2,roundIn_of_wpIn (F:=Dp none) trivial (wpIn_mono (F:=(Dp none).inRound l) ha ?_)⟩
   intro e a3 W3 hq
   cases e with
   |normal=>
    obtain ⟨M3,hs3,hd3,hE3,hI3⟩:=hq
    have hI3:A8 M0 w0 S (own (pre++[x])++(BH l (.loop (rec .ready none))::BH D (.deferred (some []))::Ac M2 W2::R pre d)) M3 W3:=hI3
    have hl3:W3.heap[l]? =some (.loop (rec .ready none)):=(hI3.hold (BH l (.loop (rec .ready none))) AR).1.2
    obtain ⟨hI4,e4⟩:=hI3.putObj (.loop { rec .ready none with state:= .busy }) (ix _ _ _)
    rw [sx] at hI4
    refine ⟨_,run_beginRound hl3 (by rw [aG]),?_⟩
    refine wpIn_mono (F:=(Dp none).inRound l) (hbody l D _ M2 W2 pre x d hpre a3 _ ⟨M3,hs3,hd3,fun s q hq=>q.st _ _ _ _ _ e4 (hE3 s q hq),hI4⟩) ?_
    have fin:∀(jump:Option Code) (tl:List Ay) (W5:World) (M5:Av),A8 M0 w0 S (own (pre++[x])++(BH l (.loop { rec .ready none with state:= .busy })::BH D (.deferred (some []))::Ac M2 W2::tl)) M5 W5→
      ∃w6,(Instr.endRound l jump).run P W5= .ok (.bool jump.isNone) w6∧Ext M2 W2 M5 w6∧A8 M0 w0 S (own (pre++[x])++(BH l (.loop (rec (if jump.isNone then .ready else .done) jump))::BH D (.deferred (some []))::Ac M1 W1::tl)) M5 w6:=by
     intro jump tl W5 M5 h5
     have hl5:W5.heap[l]? =some (.loop { rec .ready none with state:= .busy }):=(h5.hold (BH l (.loop { rec .ready none with state:= .busy })) AR).1.2
     have hx5:Ext M2 W2 M5 W5:=(h5.hold (Ac M2 W2) AR).1
     obtain ⟨h6,e6⟩:=h5.putObj (.loop { rec .ready none with state:=if jump.isNone then .ready else .done,pending:=jump }) (ix _ _ _)
     rw [sx] at h6
     have h7:=h6.Cw (r':=Ac M1 W1) (ix2 _ _ _ _ _) rfl rfl (hx2.trans (hx5.trans e6))
     rw [sx2] at h7
     refine ⟨_,run_endRound jump hl5,hx5.trans e6,?_⟩
     rw [aG] at h7 ⊢
     exact h7
    intro e5 a5 W5 hp
    cases e5 with
    |normal=>
     obtain ⟨d5,M5,h5⟩:=hp
     obtain ⟨w6,g1,g2,g3⟩:=fin none _ _ _ h5
     exact ⟨_,_,g1,M5,(.skip,d5),g2,.inl ⟨rfl,g3⟩⟩
    |ret=>
     obtain ⟨d5,M5,h5⟩:=hp
     obtain ⟨w6,g1,g2,g3⟩:=fin (some .ret) _ _ _ h5
     exact ⟨_,_,g1,M5,(.ret,d5),g2,.inr ⟨rfl,g3⟩⟩
    |exit id=>
     obtain ⟨d5,M5,h5⟩:=hp
     obtain ⟨w6,g1,g2,g3⟩:=fin (some (.exit id)) _ _ _ h5
     exact ⟨_,_,g1,M5,(.exit id,d5),g2,.inr ⟨rfl,g3⟩⟩
    |goto t=>
     obtain ⟨d5,M5,h5⟩:=hp
     obtain ⟨w6,g1,g2,g3⟩:=fin (some (.goto t)) _ _ _ h5
     exact ⟨_,_,g1,M5,(.goto t,d5),g2,.inr ⟨rfl,g3⟩⟩
    |panic ch=>exact hp.elim
    |outgrown=>exact hp.elim
   |exit id=>exact hq.elim
   |goto t=>exact hq.elim
   |ret=>exact hq.elim
   |panic ch=>exact hq.elim
   |outgrown=>exact hq.elim
  ·
   rintro e W2 ⟨⟨v,rfl⟩,M2,⟨c2,d2⟩,hx2,h2⟩
   have hend:∀(os tl:List Ay) (st:LoopState) (pe:Option Code),st≠ .busy→A8 M0 w0 S (os++(BH l (.loop (rec st pe))::BH D (.deferred (some []))::Ac M1 W1::tl)) M2 W2→
     ∃w6,(Instr.endLoop l).run P W2= .ok pe w6∧Ext M2 W2 M2 w6∧A8 M0 w0 S (os++(BH l (.loop { rec st pe with state:= .exhausted })::BH D (.deferred (some []))::Ac M1 W1::tl)) M2 w6:=by
    intro os tl st pe hst h5
    have hl5:W2.heap[l]? =some (.loop (rec st pe)):=(h5.hold (BH l (.loop (rec st pe))) AR).1.2
    obtain ⟨h6,e6⟩:=h5.putObj (.loop { rec st pe with state:= .exhausted }) (ix _ _ _)
    rw [sx] at h6
    have:=run_endLoop (P:=P) hl5 (by rw [aG];exact hst)
    refine ⟨_,?_,e6,h6⟩
    rw [this,aG]
   rcases h2 with h2|⟨pre,hpre,h2⟩
   ·
    obtain ⟨w6,g1,g2,g3⟩:=hend _ _ _ _ AR h2
    exact ⟨none,w6,g1,hdone l D _ M1 W1 d2 _ _ ⟨M2,hsz,by show _::a.defers=_;rw [hdf],fun s q hq=>q.st _ _ _ _ _ g2 (q.st _ _ _ _ _ hx2 (hE1 s q hq)),g3⟩⟩
   ·
    obtain ⟨w6,g1,g2,g3⟩:=hend _ _ _ _ AR h2
    exact ⟨some c2,w6,g1,hstop l D _ M1 W1 c2 pre d2 hpre _ _ ⟨M2,hsz,by show _::a.defers=_;rw [hdf],fun s q hq=>q.st _ _ _ _ _ g2 (q.st _ _ _ _ _ hx2 (hE1 s q hq)),g3⟩⟩
end
section
variable {P:Program} {M0:Av} {w0:World} {S:Nat→Prop} {rs:List Ay}
theorem Tr.toR {n:Fm} {E:Env} {I:Cc} {c:Code} {Q:Exit→Act→World→Prop} (h:Tr (Yr P) n E I c Q):Tr (fA P none) n E I c Q:=fun a w hs=>wpIn_wide.2 (h a w hs)
theorem Tr.ofR {n:Fm} {E:Env} {I:Cc} {c:Code} {Q:Exit→Act→World→Prop} (h:Tr (fA P none) n E I c Q):Tr (Yr P) n E I c Q:=fun a w hs=>wpIn_wide.1 (h a w hs)
theorem Tr.pV {Q:Exit→Act→World→Prop} {n:Fm} {E:Env} {α β:Type} {p gf:Nat} {g:Operand} {lb:Array Value} {enc:α→Value} {xs:List α} {own:List α→List Ay} {assign body:Code} (E':α→Env) (R:List α→β→List Ay) (Rx:Code→List α→β→List Ay) (d0:β)
  (hIt:Nd P gf lb enc xs own) (eg:∀args w,(callFunc gf args).run P w= .ok (.enter gf args) w) (hg:VL E g (is (.func (.func gf) #[] lb))) (NJ:rs.Perm (own []++R [] d0))
  (hassign:∀l D rec M1 w1 pre x d,(pre++[x])<+:xs→∀a,a.tmps.size=n.sz→Fc M1 w1 E a→∀M w,A8 M0 w0 S (own (pre++[x])++(BH l rec::BH D (.deferred (some []))::Ac M1 w1::R pre d)) M w→
   assign.wpIn (Dp (some l)) 0 P (Exit.then (St ⟨n.sz,[]⟩ (E' x) (Hp M0 w0 S (own (pre++[x])++(BH l rec::BH D (.deferred (some []))::Ac M1 w1::R pre d)))) (fun _ _ _=>False)) { tmps:=a.tmps.setIfInBounds p (enc x),defers:=[] } w)
  (hbody : ∀ l D rec M1 w1 pre x d, (pre ++ [x]) <+: xs → Tr (fA P (some l)) ⟨n.sz, []⟩ (E' x) (Hp M0 w0 S (own (pre ++ [x]) ++ (BH l rec :: BH D (.deferred (some [])) :: Ac M1 w1 :: R pre d))) body
   (JR M0 w0 S (fun d=>own (pre++[x])++(BH l rec::BH D (.deferred (some []))::Ac M1 w1::R (pre++[x]) d)) (fun c d=>own (pre++[x])++(BH l rec::BH D (.deferred (some []))::Ac M1 w1::Rx c (pre++[x]) d))))
  (hdone:∀l D rec M1 w1 d,Fin ⟨n.sz,{ target:= .collected D,args:= #[] }::n.df⟩ E (Hp M0 w0 S (own xs++(BH l rec::BH D (.deferred (some []))::Ac M1 w1::R xs d))) Q .normal)
  (hstop:∀l D rec M1 w1 c pre d,pre<+:xs→Tr (Yr P) ⟨n.sz,{ target:= .collected D,args:= #[] }::n.df⟩ E (Hp M0 w0 S (own pre++(BH l rec::BH D (.deferred (some []))::Ac M1 w1::Rx c pre d))) c Q):
  Tr (Yr P) n E (Hp M0 w0 S rs) (.rangeFunc g #[p] assign body) Q:=
 Tr.ofR (Tr.range E' R Rx d0 hIt eg hg NJ hassign hbody hdone fun l D rec M1 w1 c pre d hp=>(hstop l D rec M1 w1 c pre d hp).toR)
end
section
variable {P:Program}
theorem pW {x y:Operand} {l:Nat} {R:Ending→World→Prop} {K:Act→World→Prop} {Q:Exit→Act→World→Prop} (ho:o.op= .call { callee:= .value x,args:= #[y],argTypes:=ts }) (hx:a.eval x= .func (.yield l) #[] #[]) (hy:a.eval y=v) (h:YieldAt (Dp none) 0 P l #[v] w R) (k:∀e w',R e w'→∃u,e= .returned u∧K (a.put o.dst u) w'):o.wpIn (Dp none) 0 P a w K Q:=by
 obtain ⟨fn,tmps,assign,body,hr,ABN⟩:=h
 refine ⟨fun _ _=>trivial,?_⟩
 rw [Oper.semAt_eq _ _ _ (fun c hh=>by rw [ho] at hh;cases hh)]
 have hrun:(execOp a.eval o).run P w= .ok (.round l fn tmps assign body) w:=by
  have hd:(resolve a.eval { callee:= .value x,args:= #[y],argTypes:=ts } o.type).run P w= .ok { target:= .fn (.yield l) #[],args:= #[v] } w:=by simp [resolve,Deferred.ofValue,hx,hy]
  have hi:invoke (.fn (.yield l) #[]) #[v]=Instr.yield l #[v]:=rfl
  simp only [execOp,ho]
  rw [Sem.run_bind,hd]
  simp only [Result.andThen]
  rw [hi];exact hr
 rw [hrun]
 refine ⟨fun hh=>(by cases hh),RoundIn.mono ABN fun e w' he=> ?_⟩
 obtain ⟨u,rfl,hk⟩:=k e w' he
 exact hk
end
end Cp
namespace Cp
open Go Go.RowKit Go.Great
variable {M:Av} {f:FuncId} {rows rows':List (List Pr)} {ps:List Pr} {zs:List Value} {d j:Nat} {x:Operand} {p:Pr} {T e t:TypeId} {v:Value} {w:World}
structure AGE (P:Program) (T kt et:TypeId) {κ:Type} [DecidableEq κ] (enc:κ→Value) (z0:Value):Prop where
 und:P.underlying T=some (.map kt et)
 zero:∀w,(zeroValue et).run P w= .ok z0 w
 eq:∀a b w,(Op.equal kt (enc a) (enc b)).run P w= .ok (decide (a=b)) w
 chk:∀e a w,(Instr.checkKey e 10000 kt (enc a)).run P w= .ok () w
 AAc:∃d,P.underlying kt=some d∧((∀a b,Instr.sameNow d (enc a) (enc b)=none)∨∀a b,Instr.sameNow d (enc a) (enc b)=some (decide (a=b)))
 bits:∀a,Instr.sameBits 10000 (enc a) (enc a)=true
section
variable {P:Program} {L:Lg P} {n:Fm} {z0:Value} {fz:Nat} {E:Env} {M0:Av} {w0:World} {S:Nat→Prop} {rs:List Ay} {o:Oper} {κ:Type} [DecidableEq κ] {enc:κ→Value}
abbrev AGF (enc:κ→Value) (es:List (κ×Value)):List (Value×Value):=es.map fun p=>(enc p.1,p.2)
def AGG (enc:κ→Value) (b:Nat) (es:List (κ×Value)):Ay where
 blk:=some b
 new:=true
 h M w:=(∀o,M b o)∧w.heap[b]? =some (.map (Ll (AGF enc es)) es.length)
 st M w M' w' he hk h:=by
  obtain ⟨h1,h2⟩:=hk b rfl
  exact ⟨fun o=>h2 o (h.1 o),h1.trans h.2⟩
variable {Q:Exit→Act→World→Prop} {ops:Array Oper} {r:List Oper}
theorem TO.pX {b:Nat} {kt et:TypeId} {es:List (κ×Value)} (hT:AGE P T kt et enc z0) (hg:o.guard=none) (hd:o.dst=some d) (hn:d<n) (ho:o.op= .range T x) (hx:VL E x (is (.map (some b)))) (hj:rs[j]? =some (AGG enc b es)) (k:∀it,TO P n ops r ((d,ptr it 0)::E) (Hp M0 w0 S (O0 it b es.length []::rs)) Q):TO P n ops (o::r) E (Hp M0 w0 S rs) Q:=
 TO.ZM hg fun K M w a hsz hdf he hI hK=>by
  have h1:a.eval x=_:=hx.ev (o:=o) (CR he) Ap
  obtain ⟨_,hh⟩:=(A8.hold hI _ (List.mem_of_getElem? hj)).1
  refine TO.val (v:= .pointer (some ⟨w.heap.size,0,none⟩)) (w':=w.alloc (.mapIter (some b) es.length #[] es.length)) ?_ ?_
  · simp [execOp,ho,h1,run_range_map w T kt et b _ _ hT.und hh]
  ·
   obtain ⟨h2,h3⟩:=A8.AAd (obj:= .mapIter (some b) es.length #[] es.length) (r:=O0 w.heap.size b es.length []) hI rfl rfl ⟨fun _=> .inr rfl,by rw [heap_alloc_new]⟩
   refine hK _ _ _ _ (k w.heap.size) ⟨_,by rw [B4];exact hsz,by rw [put_defers];exact hdf,?_,h2⟩
   intro s p hp
   simp only [List.lookup] at hp
   by_cases hs:s=d
   · exact Ny
   ·
    rw [show (s==d)=false by simpa using hs] at hp
    rw [hd,BQ hs]
    exact p.st _ _ _ _ _ h3 (he s p hp)
end
section
variable {P:Program} {L:Lg P} {n:Fm} {E:Env} {M0:Av} {w0:World} {S:Nat→Prop} {rs:List Ay} {ε:Type} {res:ε→List Ay} {Q:Exit→Act→World→Prop} {c:Code} {X:List ε} {f:ε→Value} {g:ε→Pr}
def pY (f:ε→Value) (g:ε→Pr) (X:List ε):Ay:=⟨none,true,fun M w=>∀x∈X,(g x).h M w (f x),fun _ _ _ _ he _ h x hx=>(g x).st _ _ _ _ _ he (h x hx)⟩
end
section
variable {P:Program} {L:Lg P} {n:Fm} {E:Env} {M0:Av} {w0:World} {S:Nat→Prop} {rs:List Ay} {o:Oper} {Q:Exit→Act→World→Prop} {c:Code}
theorem aH {sz i q:Nat} {row:List Pr} (ho:o.op= .load t x) (ht:D6 P t=true) (hx:VL E x (elp sz v i q)) (hl:∀r∈rows,r.length=sz) (hi:rows[i]? =some row) (hp:row[q]? =some p):
  L4 P M0 w0 S j (SR.c (CX T sz rows v)) o E p:=by
 intro M w a rs he hI hj
 obtain ⟨a0,m0,c0,jy,h1⟩:=hx.ev he Ap
 have hj':rs[j]? =some (CX T sz rows v):=hj
 rcases (hI.hold _ (List.mem_of_getElem? hj')).1 with ⟨rfl,A,hv⟩|⟨b,cap,spare,hv,hnc,hcm,hsp,⟨_,cs,h4,h5,h6⟩⟩
 · simp at hi
 ·
  rw [jy] at hv
  injection hv with e1 e2 e3
  injection e1 with e1
  subst e1
  have hrl:=hl row (List.mem_of_getElem? hi)
  have hq:q<sz:=by rw [←hrl];exact BZ hp
  have h7:(rows.flatten++spare.map is)[i*sz+q]? =some p:=by
   have Fw:=BZ hi
   have hle:(i+1)*sz≤rows.length*sz:=Nat.mul_le_mul_right sz Fw
   rw [Nat.succ_mul] at hle
   rw [List.getElem?_append_left (by rw [Cv hl];omega),JF hl hi hq];exact hp
  obtain ⟨u,hu,hh⟩:=h5.at_ _ _ h7
  have hc:w.cell? ((⟨b,0,none⟩:Addr).add (i*sz+q))=some u:=by rw [Ff];simp [World.cell?,h4,hu]
  have hrun:(execOp a.eval o).run P w= .ok (.value u) w:=by simp [execOp,ho,h1,Instr.loadAt,Instr.sureAddr,loadVar,EX ht,hc]
  rw [hrun]
  exact ⟨hh,Below.refl _ _⟩
theorem wX {ty:TypeId} {sz bytes:Nat} {u:Value} (ht:P.underlying t=some (.slice e)) (hz:Az P e=some sz) (hby:Br P e=some bytes) (D8:BM P e=some zs) (hzl:zs.length=sz) (hone:zs.all (·.oneCell')=true) (hsz:0<sz) (h:A8 M0 w0 S rs M w) (hj:rs[j]? =some (CX e sz rows v)) (hl:∀r∈rows,r.length=sz) (hu:(slice sz rows').h M w u) (Gc:rows.length+rows'.length≤maxLen) (hfit:(rows.length+rows'.length)*bytes≤140737488355328):
  ∃v' w' M',(Builtin.append_ #[t,t] ty #[v,u]).run P w= .ok v' w'∧(lens (rows.length+rows'.length)).h M' w' v'∧Ext M w M' w'∧A8 M0 w0 S (rs.set j (CX e sz (rows++rows') v')) M' w':=by
 have hjl:=BZ hj
 rcases Nat.eq_zero_or_pos rows'.length with h0|h0
 ·
  have hr0:rows'=[]:=List.eq_nil_of_length_eq_zero h0
  subst hr0
  obtain ⟨A',c',hu,_⟩:=hu
  have hv:∃A c,v= .slice A rows.length c∧rows.length≤c:=by
   rcases (h.hold _ (List.mem_of_getElem? hj)).1 with ⟨rfl,A,rfl⟩|⟨b,cap,sp,rfl,h2,_⟩
   · grind
   · exact ⟨_,_,rfl,h2⟩
  obtain ⟨A,c,TI,PO⟩:=hv
  have hrun:=Gn (P:=P) (ty:=ty) (A:=A) (A':=A') (n:=rows.length) (c:=c) (c':=c') ht hz PO w
  refine ⟨v,w,M,by rw [hu,TI];exact hrun,⟨A,c,by rw [TI];rfl⟩,Ext.refl _ _,?_⟩
  rw [List.append_nil]
  have hse:rs.set j (CX e sz rows v)=rs:=by
   apply List.ext_getElem?
   intro i
   rw [List.getElem?_set]
   split
   · grind
   · rfl
  rw [hse];exact h
 ·
  rcases (h.hold _ (List.mem_of_getElem? hj)).1 with ⟨rfl,A,rfl⟩|⟨b,cap,sp,rfl,h2,h3,h4,h5⟩
  ·
   have h1:=h.blank hj
   obtain ⟨v',w',M',hrun,g1,g2,g3⟩:=mJ A (ty:=ty) ht hz hby D8 hzl hone hsz h1 (List.getElem?_set_self hjl) hu h0 Pz Py
   rw [List.set_set] at g3
   have g4:=g3.Cw (r':=BX e sz ([]++rows') v') (List.getElem?_set_self hjl) rfl rfl (.inr (g3.hold _ (List.mem_of_getElem? (List.getElem?_set_self hjl))).1)
   rw [List.set_set] at g4
   have g5:=A8.R_ g4 (List.getElem?_set_self hjl)
   rw [List.set_set] at g5
   exact ⟨v',w',M',hrun,by simpa using g1,g2,g5⟩
  ·
   have h6:=h.Xh (r':=BX e sz rows (.slice (some ⟨b,0,none⟩) rows.length (cap+1))) hj (fun b hb=>hb) rfl (.inr ⟨b,cap+1,sp,rfl,h2,h3,h4,h5⟩)
   obtain ⟨v',w',M',hrun,g1,g2,g3⟩:=dm (ty:=ty) ht hz hby D8 hzl hone hsz h6 (List.getElem?_set_self hjl) hl hu h0 Gc hfit
   rw [List.set_set] at g3
   have g5:=A8.R_ g3 (List.getElem?_set_self hjl)
   rw [List.set_set] at g5
   exact ⟨v',w',M',hrun,g1,g2,g5⟩
theorem aI {y:Operand} {sz' sz bytes:Nat} (hg:o.guard=none) (hd:o.dst=some d) (hn:d<n) (ho:o.op= .call { callee:= .builtin .append,args:= #[x,y],argTypes:= #[t,t] }) (ht:P.underlying t=some (.slice e)) (hz:Az P e=some sz) (hby:Br P e=some bytes) (D8:BM P e=some zs) (hzl:zs.length=sz) (hone:zs.all (·.oneCell')=true) (hsz:0<sz) (hx:VL E x (full sz' [])) (hy:VL E y (slice sz rows)) (Gc:rows.length≤maxLen) (hfit:rows.length*bytes≤140737488355328):DY P M0 w0 S n j (SR.c Bo) ⟨d,CX e sz rows⟩ o E (lens rows.length):=by
 refine ⟨hg,fun M w a rs Uz he hI hj=> ?_⟩
 have h2:=hy.ev he Da
 obtain ⟨_,A,h1⟩:=hx.ev he Da
 simp only [List.length_nil] at h1
 have hj':rs[j]? =some Bo:=hj
 have hjl:=BZ hj'
 have h3:=hI.Xh (r':=CX e sz [] (.slice A 0 0)) hj' (fun b hb=>by cases A<;>cases hb) rfl (.inl ⟨rfl,A,rfl⟩)
 obtain ⟨v',w',M',hrun,g1,g2,g3⟩:=wX (ty:=o.type) ht hz hby D8 hzl hone hsz h3 (List.getElem?_set_self hjl) (fun r hr=>by cases hr) h2 Pz Py
 rw [List.set_set] at g3
 have Ep:(execOp a.eval o).run P w= .ok (.value v') w':=by simp [execOp,ho,resolve,invoke,builtin,h1,hrun]
 rw [Ep]
 refine ⟨M',by simpa using g1,g2,?_⟩
 have:(SR.at_ (a.put o.dst v') ⟨d,CX e sz rows⟩)=CX e sz rows v':=by unfold SR.at_ Slot.val;dsimp only;rw [hd,B1 Hf]
 rw [this];exact g3
end
section
variable {P:Program} {L:Lg P} {n:Fm} {E:Env} {M0:Av} {w0:World} {S:Nat→Prop} {rs:List Ay} {o:Oper} {Q:Exit→Act→World→Prop} {c:Code} {r:List Oper} {ops:Array Oper}
def UpR (r:Ay):Prop:=∀M M2 w,(∀b o,M b o→M2 b o)→r.h M w→r.h M2 w
def AGH (ps:List Pr):Prop:=∀p∈ps,NC p
theorem HL.free {cs:List Value} {M2:Av} (hf:AGH ps) (h:HL M w ps cs):HL M2 w ps cs:=
 T0 h.length fun k p hk=>by
  obtain ⟨u,hu,hpu⟩:=h.at_ k p hk
  exact ⟨u,hu,(hf p (List.mem_of_getElem? hk)).free _ _ _ _ hpu⟩
theorem TO.perm {rs':List Ay} (hp:rs.Perm rs') (k:TO P n ops r E (Hp M0 w0 S rs') Q):TO P n ops r E (Hp M0 w0 S rs) Q:=TO.conv (fun _ _ hs=>hs.perm hp) k
end
section
variable {P:Program} {L:Lg P} {n:Fm} {E:Env} {M0:Av} {w0:World} {S:Nat→Prop} {rs:List Ay} {o:Oper} {Q:Exit→Act→World→Prop} {c:Code} {r:List Oper} {ops:Array Oper}
instance AGI:NC any:=⟨fun _ _ _ _ _=>trivial⟩
instance ABO (v:Value) (p:Pr) [h9:NC p]:NC (Ag v p):=⟨fun _ _ _ _ h=>⟨h.1,h9.free _ _ _ _ h.2⟩⟩
def zE (w:World) (q:Ay):Ay:=⟨q.blk,q.new,fun _ w'=>∀b,q.blk=some b→w'.heap[b]? =w.heap[b]?,fun _ _ _ _ _ hk h b hb=>(hk b hb).1.trans (h b hb)⟩
theorem pZ {us bs:List Ay} (h:us.map (·.blk)=bs.map (·.blk)) (k:us.Pairwise fun r r':Ay=>∀b,r.blk=some b→r'.blk≠some b):bs.Pairwise fun r r':Ay=>∀b,r.blk=some b→r'.blk≠some b:=by
 have e1:∀l:List Ay,(l.Pairwise fun r r':Ay=>∀b,r.blk=some b→r'.blk≠some b)↔(l.map (·.blk)).Pairwise fun p q:Option Nat=>∀b,p=some b→q≠some b:=fun l=>by rw [List.pairwise_map]
 rw [e1] at k ⊢
 rw [←h];exact k
theorem A8.ALi {α:Type} {C:α→Prop} {post pg:α→List Ay} {res res2:α→Pr} {vs:List Value} (hf:JG P f ps [] C res post) (hI:A8 M0 w0 S rs M w) (hn:rs.all (·.new)=true) (hpost:∀x M0 w0 S rs M w,A8 M0 w0 S (post x++rs) M w→A8 M0 w0 S (pg x++rs) M w) (AKC:∀x,∀q∈pg x,UpR q) (hres:∀x M M2 w u,(res x).h M w u→(res2 x).h M2 w u) (hv:∀M1,Ext M w M1 w→(∀b o,M1 b o→∀q∈rs,q.blk≠some b)→HL M1 w ps vs):
  Calls P f vs.toArray w fun e' w'=>∃u M' x,e'= .returned u∧C x∧(res2 x).h M' w' u∧Ext M w M' w'∧A8 M0 w0 S (pg x++rs) M' w':=by
 have hb:∀q∈rs,∀b,q.blk=some b→b<w.heap.size∧w0.heap.size≤b:=fun q hq b hb=>by
  obtain ⟨h1,h2⟩:=(hI.hold q hq).2 b hb
  rw [if_pos (List.all_eq_true.1 hn q hq)] at h2
  exact ⟨h1,h2⟩
 have he:Ext M w (fun b o=>M b o∧∀q∈rs,q.blk≠some b) w:=Ext.less fun _ _ h=>h.1
 have hI1:A8 M0 w0 S (rs.map (zE w)) (fun b o=>M b o∧∀q∈rs,q.blk≠some b) w:=by
  refine ⟨hI.m0,fun b o hm=>⟨hI.m b o hm,fun q hq e1=>by have h1:=hI.m0 b o hm;have h2:=(hb q hq b e1).2;omega⟩,hI.os,hI.tape,hI.output,hI.size,hI.block,fun b o hm=>hI.bd b o hm.1,fun q hq=> ?_,?_⟩
  ·
   rw [List.mem_map] at hq
   obtain ⟨q,hq,rfl⟩:=hq
   exact ⟨fun _ _=>rfl,(hI.hold q hq).2⟩
  · exact pZ (by rw [List.map_map];rfl) hI.nd
 refine (hf.2 M0 w0 S (rs.map (zE w)) _ w vs hI1 (hv _ he fun _ _ h=>h.2)).mono ?_
 rintro e' w' ⟨u,M',x,rfl,hC,h2,h3,h4⟩
 have h5:=hpost x _ _ _ _ _ _ h4
 have AKD:∀q∈rs,∀b,q.blk=some b→w'.heap[b]? =w.heap[b]? :=fun q hq=>(h5.hold _ (List.mem_append_right _ (List.mem_map_of_mem hq))).1
 have hE:Ext M w (fun b o=>M' b o∨(M b o∧∃q∈rs,q.blk=some b)) w':=⟨h3.size,fun a q hc hm=>by
  obtain ⟨k1,k2⟩:=h3.keep a q hc (fun h=>hm h.1)
  exact ⟨fun h=>h.elim k1 fun h=>hm h.1,k2⟩,fun b x ho hp hm=>by
  obtain ⟨k1,k2⟩:=h3.obj b x ho hp (fun h=>hm h.1)
  exact ⟨fun h=>h.elim k1 fun h=>hm h.1,k2⟩⟩
 refine ⟨u,_,x,rfl,hC,hres x _ _ _ _ h2,hE,⟨h5.m0,fun b o hm=> .inl (h5.m b o hm),h5.os,h5.tape,h5.output,h5.size,h5.block,fun b o hm=> ?_,fun q hq=> ?_,?_⟩⟩
 ·
  rcases hm with hm|⟨hm,_⟩
  · exact h5.bd b o hm
  · grind
 ·
  rcases List.mem_append.1 hq with hq|hq
  ·
   obtain ⟨k1,k2⟩:=h5.hold q (List.mem_append_left _ hq)
   exact ⟨AKC x q hq _ _ _ (fun _ _ h=> .inl h) k1,k2⟩
  ·
   refine ⟨q.st _ _ _ _ hE (fun b hb=>⟨AKD q hq b hb,fun o hm=> .inr ⟨hm,q,hq,hb⟩⟩) (hI.hold q hq).1,fun b hb=> ?_⟩
   obtain ⟨k1,k2⟩:=(hI.hold q hq).2 b hb
   exact ⟨Nat.lt_of_lt_of_le k1 h3.size,k2⟩
 · exact pZ (by rw [List.map_append,List.map_append,List.map_map];rfl) h5.nd
end
end Cp
