/-
  RunnerAll: whatever the input,the law of this name returns true and its arguments read as before; the table of trailing zeros is tied to the program. No conditions.
-/
import Derived.HandedShaped
import Derived.Test.YtmocaapoeefgkaaGreatDoorTie
import Derived.Test.YtmocaapoeefgkaaGreatDoorCards
import Derived.LaidMore
import Derived.OpenShut
import Derived.Stop.Joined
import Derived.ProofKit
import Derived.Carry
import Derived.Test.YtmocaapoeefgkaaGreatDoorRcAP8
set_option linter.all false
set_option maxRecDepth 40000
set_option maxHeartbeats 16000000
namespace Go.Proofs.YtmocaapoeefgkaaGreatDoor
open Go Go.RowKit Cp Go.Proofs.Tryz
variable {sp:Bool} {day:Int} {l:List Bm} {d tr:List Int} {r:List BM} {n:Nat}
theorem MD (l:List Int) (v:Int):G6 l v=l.contains v:=N3 l v
theorem W4 {st:List Int} {FY:Int} (DF:∀x∈l,x.Cb.small) (hl:l.length≤1000000) (hr:r.length≤1000000) (hd:d.length≤1000000) (hst:st.length≤1000000) (htr:tr.length≤1000000):A0 prog 40 [agg (C3 l r d day st tr sp),int FY] (C_ [agg (C3 l r d (if FY<day∨FY>40000 then day else FY) st tr sp),int (if FY<day∨FY>40000 then 2 else 0)]):=by
 refine fo func40 rfl ⟨rfl,rfl⟩ fun M0 w0=>(Tr.seq (Tr.BE (tp rfl (BU rfl Be) ?_)))
 refine Tl rfl rfl rfl rfl z42 D7 (fun b1=> ?_)
 refine ap ?_
 refine ap ?_
 refine TO.Gs _ rfl rfl AB rfl (GY (sp:=sp) DF hl hr hd hst htr) kz (List.Perm.refl _) (fun x1 _=> ?_)
 refine Tl rfl rfl rfl rfl z42 D7 (fun b2=> ?_)
 refine ap ?_
 refine ag ?_ ?_<;>intro h1 q1
 refine ac ?_
 refine wk [16,6,4,1] rfl (Tr.cond rfl (fun _=> ?_) (fun h=>nomatch h))
 refine Tr.seq (Tr.CA 0 1 4 rfl rfl AB rfl Lr (AW fun _=>rfl) (Tr.CA 0 2 5 rfl rfl AB rfl Lr (AW fun _=>rfl) ?_))
 refine ap ?_
 refine Tr.drop 1 (Tr.drop 1 (Tr.ret (Fin.AE (Fin.BL rfl (AL.cell 1 rfl rfl CW B7 rfl Lr) (AL.tmp rfl Lr) ?_))))
 refine Al ⟨?_,?_,trivial⟩
 · rw [if_pos AA];exact Lr
 · exact int_eq (if_pos AA).symm
 refine ac ?_
 refine wk [16,6,4,1] rfl ?_
 refine Tr.cn rfl ?_ ?_<;>intro h2 q2
 refine Tr.seq (Tr.CA 0 1 4 rfl rfl AB rfl Lr (AW fun _=>rfl) (Tr.CA 0 2 5 rfl rfl AB rfl Lr (AW fun _=>rfl) ?_))
 refine ap ?_
 refine Tr.drop 1 (Tr.drop 1 (Tr.ret (Fin.AE (Fin.BL rfl (AL.cell 1 rfl rfl CW B7 rfl Lr) (AL.tmp rfl Lr) ?_))))
 refine Al ⟨?_,?_,trivial⟩
 · rw [if_pos AA];exact Lr
 · exact int_eq (if_pos AA).symm
 refine ac ?_
 refine ap ?_
 refine Tr.seq (Tr.CA 0 1 4 rfl rfl AB rfl Lr (AW fun _=>rfl) (Tr.CA 0 2 5 rfl rfl AB rfl Lr (AW fun _=>rfl) ?_))
 refine ap ?_
 refine Tr.drop 1 (Tr.drop 1 (Tr.ret (Fin.BL rfl (AL.cell 1 rfl rfl CW B7 rfl Lr) (AL.tmp rfl Lr) ?_)))
 refine Al ⟨?_,?_,trivial⟩
 · rw [if_neg AA];exact Lr
 · exact int_eq (if_neg AA).symm
theorem lZ {st:List Int} {s2:Bool} (DF:∀x∈l,x.Cb.small) (hl:l.length≤1000000) (hr:r.length≤1000000) (hd:d.length≤1000000) (hst:st.length≤1000000) (htr:tr.length≤1000000):A0 prog 43 [agg (C3 l r d day st tr sp),Cp.bool s2] (agg (C3 l r d day st tr s2)):=by
 refine fo func43 rfl ⟨rfl,rfl⟩ fun M0 w0=>(Tr.seq (Tr.BE (tp rfl (BU rfl Be) ?_)))
 refine Tl rfl rfl rfl rfl z42 D7 (fun b1=> ?_)
 refine ap ?_
 refine ap ?_
 refine TO.Gs _ rfl rfl AB rfl (GY (sp:=sp) DF hl hr hd hst htr) kz (List.Perm.refl _) (fun x1 _=> ?_)
 refine Tl rfl rfl rfl rfl z42 D7 (fun b2=> ?_)
 refine ap ?_
 refine ap ?_
 refine Tr.seq (Tr.CA 0 1 4 rfl rfl AB rfl Lr (AW fun _=>rfl) (Tr.CA 0 2 5 rfl rfl AB rfl Lr (AW fun _=>rfl) ?_))
 refine ap ?_
 refine Tr.drop 1 (Tr.drop 1 (Tr.ret (Fin.Cf rfl (AL.cell 1 rfl rfl CW B7 rfl Lr) ?_)))
 · exact Lr
theorem Tz {st:List Int}:A0 prog 38 [agg (C3 l r d day st tr sp)] (bool (!(st.any fun x=>decide (x≠1)))):=by
 refine fo func38 rfl ⟨rfl,rfl⟩ fun M0 w0=>(Tr.FW 0 4 rfl rfl fun AHE=> ?_)
 refine a2 ?_
 refine Tr.block (Tr.Ax _ (kk [7,6] rfl) (fun k:Nat=>[(8,int ((k:Nat):Int))]) (fun k:Nat=>k≤(st).length∧(∀j y,j<k→st[j]? =some y→decide (y≠1)=false)) (fun k:Nat=>(st).length-k) 0 (⟨Nat.zero_le _,fun j y hj=>absurd hj AA⟩) kz ?_)
 rintro k ⟨BJ,AQ⟩
 refine ac ?_
 refine Tr.seq ?_
 refine Tr.cn rfl ?_ ?_<;>intro h1 q1
 have AZ:k<(st).length:=AH h1
 obtain ⟨x,AX⟩:=at_ AZ
 refine ac ?_
 refine Tr.seq (Tr.block (Tr.seq (Tr.Bt (co rfl (AD rfl underlying22 Bi vq vq AA (AR AX)) ?_))))
 · repeat' first|(refine bool_eq ?_;symm;rw [Bool.not_eq_false',List.any_eq_true];exact ⟨x,List.mem_of_getElem? AX,by simp_all⟩)|exact Fin.AM (k+1) ⟨⟨AZ,DR (p:=fun x=>decide (x≠1)) AX Bp AQ⟩,by omega⟩ ⟨⟨_,rfl,AG k⟩,kz⟩|refine ac ?_|(refine Tr.cn rfl ?_ ?_<;>intro h q)
 have A8:k=(st).length:=by have:=AJ h1;omega
 subst A8
 refine a3 ?_
 · refine bool_eq ?_;symm;rw [Bool.not_eq_true',List.any_eq_false];intro y hy;obtain ⟨j,hj⟩:=List.mem_iff_getElem?.1 hy;have:=AQ j y (BH hj) hj;simpa using this
theorem O0 {l2:List Bm} {r2:List BM} {d2:List Int} {FY:Int} {st Qv tr2:List Int} {sp2:Bool} (DF:∀x∈l,x.Cb.small):A0 prog 35 [agg (C3 l r d day st tr sp),agg (C3 l2 r2 d2 FY Qv tr2 sp2)] (bool (decide ((l=l2∧r=r2∧d=d2)∧day=FY∧sp=sp2∧st=Qv∧tr=tr2))):=by
 refine fo func35 rfl ⟨rfl,rfl⟩ fun M0 w0=> ?_
 · repeat' first|(refine bool_eq ?_;simp_all [Bool.beq_eq_decide_eq])|refine co rfl (Bq (lY DF) rfl rfl rfl) (cm rfl ?_)|refine cy h rfl (Bq (Ik) rfl rfl rfl) ?_|refine ac ?_|(refine Ch.cg rfl rfl rfl ?_ ?_<;>intro h q)
theorem cR {st:List Int}:A0 prog 17 [agg (C3 l r d day st tr true)] (C_ [int 0,bool false]):=by
 refine fo func17 rfl ⟨rfl,rfl⟩ fun M0 w0=> ?_
 refine ac ?_
 refine an ?_ ?_<;>intro h1 q1
 refine ac ?_
 refine Tr.ret (Fin.AE (Fin.C6 rfl (Bv.EU _ _) rfl ?_ rfl ?_))
 · exact Lr
 · exact Lr
 exact absurd h1 AB
theorem W6 {st:List Int} {step:Int} {x y z:Bw} (DF:∀x∈l,x.Cb.small) (hl:l.length≤1000000) (hr:r.length≤1000000) (hd:d.length≤1000000) (hst:st.length≤1000000) (htr:tr.length≤1000000):A0 prog 18 [agg (C3 l r d day st tr true),int step,agg (BQ x),agg (BQ y),agg (BQ z)] (C_ [agg (C3 l r d day st tr true),int 54]):=by
 refine fo func18 rfl ⟨rfl,rfl⟩ fun M0 w0=>(Tr.seq (Tr.BE ?_))
 iterate 4 refine tp rfl (BU rfl Be) ?_
 refine Tl rfl rfl rfl rfl z42 D7 (fun b1=> ?_)
 refine ap ?_
 refine ap ?_
 refine TO.Gs _ rfl rfl AB rfl (GY (sp:=true) DF hl hr hd hst htr) kz (List.Perm.refl _) (fun x1 _=> ?_)
 refine Tl rfl rfl rfl rfl z42 D7 (fun b2=> ?_)
 refine ap ?_
 refine an ?_ ?_<;>intro h1 q1
 refine Tr.seq (Tr.CA 0 1 4 rfl rfl AB rfl Lr (AW fun _=>rfl) (Tr.CA 0 2 5 rfl rfl AB rfl Lr (AW fun _=>rfl) ?_))
 refine ap ?_
 refine Tr.drop 1 (Tr.drop 1 (wk [11,10] rfl (Tr.ret (Fin.AE (Fin.BL rfl (AL.cell 1 rfl rfl CW B7 rfl Lr) (AL.tmp rfl Lr) ?_)))))
 refine Al ⟨?_,?_,trivial⟩
 · exact Lr
 · exact Lr
 exact absurd h1 AB
theorem cT {st:List Int} {step:Int} (DF:∀x∈l,x.Cb.small) (hl:l.length≤1000000) (hr:r.length≤1000000) (hd:d.length≤1000000) (hst:st.length≤1000000) (htr:tr.length≤1000000):A0 prog 41 [agg (C3 l r d day st tr true),int step] (C_ [agg (C3 l r d day st tr true),int 54]):=by
 refine fo func41 rfl ⟨rfl,rfl⟩ fun M0 w0=>(Tr.seq (Tr.BE (tp rfl (BU rfl Be) ?_)))
 refine Tl rfl rfl rfl rfl z42 D7 (fun b1=> ?_)
 refine ap ?_
 refine ap ?_
 refine TO.Gs _ rfl rfl AB rfl (GY (sp:=true) DF hl hr hd hst htr) kz (List.Perm.refl _) (fun x1 _=> ?_)
 refine Tl rfl rfl rfl rfl z42 D7 (fun b2=> ?_)
 refine ap ?_
 refine an ?_ ?_<;>intro h1 q1
 refine Tr.seq (Tr.CA 0 1 4 rfl rfl AB rfl Lr (AW fun _=>rfl) (Tr.CA 0 2 5 rfl rfl AB rfl Lr (AW fun _=>rfl) ?_))
 refine ap ?_
 refine Tr.drop 1 (Tr.drop 1 (Tr.ret (Fin.AE (Fin.BL rfl (AL.cell 1 rfl rfl CW B7 rfl Lr) (AL.tmp rfl Lr) ?_))))
 refine Al ⟨?_,?_,trivial⟩
 · exact Lr
 · exact Lr
 exact absurd h1 AB
theorem ld {st:List Int} {step:Int} (DF:∀x∈l,x.Cb.small) (hl:l.length≤1000000) (hr:r.length≤1000000) (hd:d.length≤1000000) (hst:st.length≤1000000) (htr:tr.length≤1000000) (hsd:st.length=l.length) (htd:tr.length=l.length) (hs5:st.length≤100000):A0 prog 41 [agg (C3 l r d day st tr false),int step] (C_ [agg (ZF l r d day st tr step),int (if (GW ((l.length:Nat):Int) r (BS st)).contains step=true then 0 else 44)]):=by
 refine fo func41 rfl ⟨rfl,rfl⟩ fun M0 w0=> ?_
 have hsk:=U1 st
 refine Tr.seq (Tr.BE (tp rfl (BU rfl Be) ?_))
 refine Tl rfl rfl rfl rfl z42 D7 (fun b1=> ?_)
 refine ao ?_
 refine ao ?_
 refine TO.Gs _ rfl rfl AB rfl (GY (sp:=false) DF hl hr hd hst htr) kz (List.Perm.refl _) (fun x1 _=> ?_)
 refine Tl rfl rfl rfl rfl z42 D7 (fun b2=> ?_)
 refine TO.AK 0 rfl rfl rfl vq Be rfl B7 rfl rfl ?_
 refine ao ?_
 refine an ?_ ?_<;>intro h1 q1
 exact absurd h1 AB
 refine a2 ?_
 refine co rfl (CM (Lq hst) rfl rfl) ?_
 refine co rfl (Jd (TI (n:=((l.length:Nat):Int)) (l:=r) (s:=BS st) hr AA) rfl rfl rfl rfl) ?_
 refine ac ?_
 refine wk [7,6,4,1] rfl ?_
 refine ac ?_
 refine co rfl (Bq (Ho) rfl rfl rfl) ?_
 refine an ?_ ?_<;>intro h2 q2
 have hno:¬(GW ((l.length:Nat):Int) r (BS st)).contains step=true:=by rw [←MD];simpa using h2
 refine Tr.seq (Tr.CA 0 1 4 rfl rfl AB rfl Lr (AW fun _=>rfl) (Tr.CA 0 2 5 rfl rfl AB rfl Lr (AW fun _=>rfl) ?_))
 refine ao ?_
 refine TO.AK 3 rfl rfl rfl vq Be rfl B7 rfl rfl ?_
 refine ao ?_
 refine Tr.drop 1 (Tr.drop 1 (Tr.ret (Fin.AE (Fin.BL rfl (AL.cell 1 rfl rfl CW B7 rfl Lr) (AL.tmp rfl Lr) ?_))))
 refine Al ⟨?_,?_,trivial⟩
 · unfold ZF;rw [if_neg hno];exact Lr
 · exact int_eq (if_neg hno).symm
 have hin:(GW ((l.length:Nat):Int) r (BS st)).contains step=true:=by rw [←MD];simpa using h2
 obtain ⟨kg,_,_⟩:=ZE (iT hin).2
 have hsi:st[step.toNat]? =some (st.getD step.toNat 0):=Cv AA
 have mY:tr[step.toNat]? =some (tr.getD step.toNat 0):=Cv AA
 refine ac ?_
 refine ao ?_
 refine tp rfl (CC 1 rfl (Dy rfl underlying22 Bi vq vq AA B8)) ?_
 refine TO.DP 1 rfl rfl (Ca rfl rfl vq F7 Bi rfl (AW fun _=>rfl) LI AB (show _=(st.set step.toNat 3).map _ by rw [List.map_set];rfl)) ?_
 refine ao ?_
 refine ao ?_
 refine tp rfl (CC 2 rfl (Dy rfl underlying22 Bi vq vq AA B8)) ?_
 refine TO.DP 2 rfl rfl (Ca rfl rfl vq F7 Bi rfl (AW fun _=>rfl) IV AB (show _=(tr.set step.toNat 0).map _ by rw [List.map_set];rfl)) ?_
 refine ao ?_
 refine wk [6,4] rfl (Tr.seq (Tr.CA 0 1 4 rfl rfl AB rfl Lr (AW fun _=>rfl) (Tr.CA 0 2 5 rfl rfl AB rfl Lr (AW fun _=>rfl) ?_)))
 refine ao ?_
 refine TO.AK 3 rfl rfl rfl vq Be rfl B7 rfl rfl ?_
 refine ao ?_
 refine Tr.drop 1 (Tr.drop 1 (Tr.ret (Fin.BL rfl (AL.cell 1 rfl rfl CW B7 rfl Lr) (AL.tmp rfl Lr) ?_)))
 refine Al ⟨?_,?_,trivial⟩
 · unfold ZF;rw [if_pos hin];exact Lr
 · exact Hz
theorem cU {st:List Int}:BP prog 27 [agg (C3 l r d day st tr true)] (C_ [int 0,bool false]) (CE) (fun _=>CE):=by
 refine BP.of func27 rfl rfl Am fun M0 w0 S rs M1 w1=> ?_
 refine ac ?_
 refine an ?_ ?_<;>intro h1 q1
 refine ac ?_
 refine Tr.ret (Fin.AE (Fin.FG rfl rfl ?_ rfl ?_))
 · exact Lr
 · exact Lr
 exact absurd h1 AB
theorem W7 {st:List Int} {step:Int} {x y z:Bw} (DF:∀x∈l,x.Cb.small) (hl:l.length≤1000000) (hr:r.length≤1000000) (hd:d.length≤1000000) (hst:st.length≤1000000) (htr:tr.length≤1000000):BP prog 30 [agg (C3 l r d day st tr true),int step,agg (BQ x),agg (BQ y),agg (BQ z)] (C_ [agg (C3 l r d day st tr true),int 54]) (CE) (fun _=>CE):=by
 refine BP.of func30 rfl rfl Am fun M0 w0 S rs M1 w1=> ?_
 refine Tr.seq (Tr.BE ?_)
 iterate 4 refine tp rfl (BU rfl Be) ?_
 refine Tl rfl rfl rfl rfl z42 D7 (fun b1=> ?_)
 refine ap ?_
 refine ap ?_
 refine tp rfl (CM (LA DF hl hr hd hst htr) rfl rfl) ?_
 refine Tl rfl rfl rfl rfl z42 D7 (fun b2=> ?_)
 refine ap ?_
 refine ac ?_
 · repeat' first|exact Lr|exact absurd h AB|refine Tr.drop 0 (Tr.ret (Fin.AU (Fin.AE (Fin.J2 [_] rfl (AL.cell 0 rfl rfl CW B7 rfl Lr) (AL.tmp rfl Lr) ?_))))|refine Al ⟨?_,?_,trivial⟩|refine ap ?_|(refine Tr.cn rfl ?_ ?_<;>intro h q)
structure RS where
 day:Int
 st:List Int
 tr:List Int
 sp:Bool
abbrev Lz (l:List Bm) (r:List BM) (d:List Int) (s:RS):List Pr:=C3 l r d s.day s.st s.tr s.sp
structure U4 (n:Nat) (s:RS):Prop where
 sl:s.st.length=n
 tl:s.tr.length=n
 t4:∀x∈s.tr,0≤x∧x≤4
 dy:0≤s.day∧s.day≤40000
def T0 (l:List Bm) (r:List BM) (s:RS) (i:Int):RS×Int:=
 if s.sp=true then (s,54) else if (GW ((l.length:Nat):Int) r (BS s.st)).contains i=true then (⟨s.day,s.st.set i.toNat 3,s.tr.set i.toNat 0,false⟩,0) else (s,44)
def N5 (r:List BM) (d:List Int) (s:RS) (i:Int) (x y z:Bw):RS×Int:=
 if s.sp=true then (s,54) else if (GC r d s.st s.tr s.day).contains i=true then (⟨s.day,if z=y then s.st.set i.toNat 1 else if z=x then s.st.set i.toNat 2 else s.st,s.tr.set i.toNat (s.tr.getD i.toNat 0+1),!decide (z=y∨z=x)⟩,0) else (s,44)
def yP (s:RS) (day:Int):RS×Int:=(⟨if day<s.day∨day>40000 then s.day else day,s.st,s.tr,s.sp⟩,if day<s.day∨day>40000 then 2 else 0)
def yQ (r:List BM) (d:List Int) (s:RS):Int×Bool:=if s.sp=true then (0,false) else (cM (HM d) (GC r d s.st s.tr s.day),cN (HM d) (GC r d s.st s.tr s.day))
theorem U4.und {s:RS} {i:Int} (h:U4 l.length s):U4 l.length (T0 l r s i).1:=by
 unfold T0
 split
 · exact h
 ·
  split
  ·
   exact ⟨by show (s.st.set _ _).length = _; rw [List.length_set]; exact h.sl,by show (s.tr.set _ _).length = _; rw [List.length_set]; exact h.tl,fun x hx=>by
    rcases List.mem_or_eq_of_mem_set hx with hx|rfl
    · exact h.t4 x hx
    · omega,h.dy⟩
  · exact h
theorem U4.rep {s:RS} {i:Int} {x y z:Bw} (h:U4 n s):U4 n (N5 r d s i x y z).1:=by
 unfold N5
 split
 · exact h
 ·
  split
  ·
   next hc=>
   have h4:=(Q0.1 (List.contains_iff_mem.1 hc)).2
   have h0:0≤s.tr.getD i.toNat 0:=by
    rcases Nat.lt_or_ge i.toNat s.tr.length with hl|hl
    · exact (h.t4 _ (List.mem_of_getElem? (Cv hl))).1
    · rw [List.getD_eq_getElem?_getD,List.getElem?_eq_none hl];simp
   refine ⟨?_,by show (s.tr.set _ _).length=_;rw [List.length_set];exact h.tl,fun x hx=> ?_,h.dy⟩
   ·
    show (if z=y then s.st.set i.toNat 1 else if z=x then s.st.set i.toNat 2 else s.st).length=n
    split
    · rw [List.length_set];exact h.sl
    ·
     split
     · rw [List.length_set];exact h.sl
     · exact h.sl
   ·
    rcases List.mem_or_eq_of_mem_set hx with hx|rfl
    · exact h.t4 x hx
    · omega
  · exact h
theorem U4.Ci {s:RS} (h:U4 n s):U4 n (yP s day).1:=by
 refine ⟨h.sl,h.tl,h.t4,?_⟩
 have:=h.dy
 show 0≤(if day<s.day∨day>40000 then s.day else day)∧_≤40000
 unfold yP
 dsimp only
 split<;>omega
theorem lf {s:RS} {i:Int} (DF:∀x∈l,x.Cb.small) (hl:l.length≤1000000) (hr:r.length≤1000000) (hd:d.length≤1000000) (hl5:l.length≤100000) (hk:U4 l.length s):BP prog 21 [agg (Lz l r d s),int i] (C_ [agg (Lz l r d (T0 l r s i).1),int (T0 l r s i).2]) CE (fun _=>CE):=by
 obtain ⟨day,st,tr,sp⟩:=s
 obtain ⟨h1,h2,h3,h4⟩:=hk
 dsimp only at h1 h2 h3
 have e1:st.length≤100000:=by omega
 have e2:tr.length≤100000:=by omega
 cases sp with
 |true=>exact lQ DF hl hr hd (Nat.le_trans e1 AB) (Nat.le_trans e2 AB)
 |false=>
  have h:=lX (day:=day) (step:=i) DF hl hr hd (Nat.le_trans e1 AB) (Nat.le_trans e2 AB) h1 h2
  unfold ZF at h;unfold T0;rw [if_neg Bool.false_ne_true]
  by_cases hc:(GW ((l.length:Nat):Int) r (BS st)).contains i=true
  · exact P5
  · exact P4
theorem cV {s:RS} {i:Int} (DF:∀x∈l,x.Cb.small) (hl:l.length≤1000000) (hr:r.length≤1000000) (hd:d.length≤1000000) (hl5:l.length≤100000) (hk:U4 l.length s):A0 prog 41 [agg (Lz l r d s),int i] (C_ [agg (Lz l r d (T0 l r s i).1),int (T0 l r s i).2]):=by
 obtain ⟨day,st,tr,sp⟩:=s
 obtain ⟨h1,h2,h3,h4⟩:=hk
 dsimp only at h1 h2 h3
 have e1:st.length≤100000:=by omega
 have e2:tr.length≤100000:=by omega
 cases sp with
 |true=>exact cT DF hl hr hd (Nat.le_trans e1 AB) (Nat.le_trans e2 AB)
 |false=>
  have h:=ld (day:=day) (step:=i) DF hl hr hd (Nat.le_trans e1 AB) (Nat.le_trans e2 AB) h1 h2 AA
  unfold ZF at h;unfold T0;rw [if_neg Bool.false_ne_true]
  by_cases hc:(GW ((l.length:Nat):Int) r (BS st)).contains i=true
  · exact P5
  · exact P4
theorem LF {s:RS} {i:Int} {x y z:Bw} (DF:∀x∈l,x.Cb.small) (hl:l.length≤1000000) (hr:r.length≤1000000) (hd:d.length≤1000000) (hl5:l.length≤100000) (KJ:d.length=l.length) (hk:U4 l.length s):BP prog 30 [agg (Lz l r d s),int i,agg (BQ x),agg (BQ y),agg (BQ z)] (C_ [agg (Lz l r d (N5 r d s i x y z).1),int (N5 r d s i x y z).2]) CE (fun _=>CE):=by
 obtain ⟨day,st,tr,sp⟩:=s
 obtain ⟨h1,h2,h3,h4⟩:=hk
 dsimp only at h1 h2 h3
 have e1:st.length≤100000:=by omega
 have e2:tr.length≤100000:=by omega
 cases sp with
 |true=>exact W7 DF hl hr hd (Nat.le_trans e1 AB) (Nat.le_trans e2 AB)
 |false=>
  have h:=ZA (day:=day) (step:=i) (x:=x) (y:=y) (z:=z) DF hl hr hd (by omega:st.length≤1000000) (by omega:tr.length≤1000000) AA AA h3
  unfold VI at h;unfold N5;rw [if_neg Bool.false_ne_true]
  by_cases hc:(GC r d st tr day).contains i=true
  · exact P5
  · exact P4
theorem Jx {s:RS} {i:Int} {x y z:Bw} (DF:∀x∈l,x.Cb.small) (hl:l.length≤1000000) (hr:r.length≤1000000) (hd:d.length≤1000000) (hl5:l.length≤100000) (KJ:d.length=l.length) (hk:U4 l.length s):A0 prog 18 [agg (Lz l r d s),int i,agg (BQ x),agg (BQ y),agg (BQ z)] (C_ [agg (Lz l r d (N5 r d s i x y z).1),int (N5 r d s i x y z).2]):=by
 obtain ⟨day,st,tr,sp⟩:=s
 obtain ⟨h1,h2,h3,h4⟩:=hk
 dsimp only at h1 h2 h3
 have e1:st.length≤100000:=by omega
 have e2:tr.length≤100000:=by omega
 cases sp with
 |true=>exact W6 DF hl hr hd (Nat.le_trans e1 AB) (Nat.le_trans e2 AB)
 |false=>
  have h:=ZC (day:=day) (step:=i) (x:=x) (y:=y) (z:=z) DF KJ hl hr (by omega:st.length≤100000) (by omega:tr.length=d.length) AA h3
  unfold VI at h;unfold N5;rw [if_neg Bool.false_ne_true]
  by_cases hc:(GC r d st tr day).contains i=true
  · exact P5
  · exact P4
theorem lp {s:RS} (KJ:d.length=l.length) (hl:l.length≤19) (hk:U4 l.length s):BP prog 27 [agg (Lz l r d s)] (C_ [int (yQ r d s).1,bool (yQ r d s).2]) CE (fun _=>CE):=by
 obtain ⟨day,st,tr,sp⟩:=s
 obtain ⟨h1,h2,h3,h4⟩:=hk
 dsimp only at h1 h2 h3
 have e1:st.length≤100000:=by omega
 have e2:tr.length≤100000:=by omega
 cases sp with
 |true=>exact cU
 |false=>exact lT (st:=st) (tr:=tr) (Nat.le_trans e1 AB) (h2.trans KJ.symm) AA
theorem cW {s:RS} (KJ:d.length=l.length) (hl:l.length≤19) (hr:r.length≤1000000) (hk:U4 l.length s):A0 prog 17 [agg (Lz l r d s)] (C_ [int (yQ r d s).1,bool (yQ r d s).2]):=by
 obtain ⟨day,st,tr,sp⟩:=s
 obtain ⟨h1,h2,h3,h4⟩:=hk
 dsimp only at h1 h2 h3
 have e1:st.length≤100000:=by omega
 have e2:tr.length≤100000:=by omega
 cases sp with
 |true=>exact cR
 |false=>exact lW (st:=st) (tr:=tr) KJ AA hr e1 (h2.trans KJ.symm)
theorem cX (DF:∀x∈l,x.Cb.small) (hl:l.length≤1000000) (hr:r.length≤1000000) (hd:d.length≤1000000):Ef (α:=Value×Value) prog 33 [agg [CF l,reqs r,ints d]] [] (fun _=>True) (fun x=>agg [CF l,is x.1,is x.2]) (fun x=>[Ba 61 2 (r.map GF) x.1,Ba 3 1 (d.map fun n=>[int n]) x.2]):=by
 refine Ef.of func33 rfl rfl Am fun M0 w0 S rs M1 w1=>(Tr.FW 0 0 rfl rfl fun Gh=>(Tr.seq (Tr.BE (tp rfl (BU rfl Be) ?_))))
 refine Tl rfl rfl rfl rfl z35 Gq (fun b1=> ?_)
 refine ao ?_
 refine Tr.seq (Tr.pad ?_)
 refine Tr.pad (Tr.pad (Tr.pad (Tr.rx ?_)))
 refine ax ?_
 refine Cx.ef 0 rfl rfl AB (Hr rfl rfl AB rfl underlying33 DQ OU QN rfl AB AB ⟨_,rfl,Ck 1⟩ vq IU B8) ?_
 refine ax ?_
 refine Cx.ef 1 rfl rfl AB (Hr rfl rfl AB rfl underlying22 Bi G_ z3 rfl AB AB ⟨_,rfl,Ck 1⟩ vq IU B8) ?_
 refine Cx.ef 2 rfl rfl AB (bK (d:=12) (s:=8) (t:=11) (p:=fun u v=>agg [is (.slice none 0 0),AV u (lens (r.map GF).length),AV v (lens (d.map fun n=>[int n]).length)]) (q:=agg [is (.slice none 0 0),lens (r.map GF).length,lens (d.map fun n=>[int n]).length]) rfl AB AB (fun _ _=>BR ⟨Lr,Ao _ _,Ao _ _,trivial⟩) rfl rfl rfl AB AB (fun u v=>Sk rfl rfl AB (fun _=>BO (rows:=[(1,[_]),(2,[_])]) rfl nY Gq ⟨⟨rfl,VL.le vq (Ag _)⟩,⟨⟨rfl,VL.le vq (Ag _)⟩,trivial⟩⟩ rfl))) (Cx.ef 3 rfl rfl AB (Bx rfl rfl AB rfl z35 Gq) (Cx.DP 3 rfl rfl (Oq rfl rfl rfl AB rfl rfl (AY _) CU rfl rfl) ?_))
 refine Cx.nil ⟨by kernel_rfl,?_⟩
 refine Aw.Uh 8 rfl (fun v8=> ?_)
 refine Aw.Uh 11 rfl (fun v11=> ?_)
 refine Aw.Uh 12 rfl (fun v12=> ?_)
 refine Aw.Uh 3 rfl (fun v3=> ?_)
 refine Aw.Pt 0 8 rfl rfl (Aw.Pt 1 11 rfl rfl (Aw.ABE 2 12 8 11 rfl rfl rfl rfl (Aw.bM 3 3 12 rfl rfl rfl (Aw.done fI (Fin.shape 3 (fun b=> .pointer (some ⟨b,0,none⟩)) rfl (fun b9 e9=> ?_))))))
 subst e9
 refine Fin.Nv 2 3 rfl rfl (Fin.drop 2 (Fin.go ?_))
 refine ac ?_
 refine wk [16,15,14,3,2] rfl (Tr.block (Tr.G9 2 [AV (.slice none 0 0) (CF (l.take 0)),AV v8 (lens (r.map GF).length),AV v11 (lens (d.map fun n=>[int n]).length)] rfl ⟨Bg rfl,Lr,Lr,trivial⟩ (Tr.B5 86 8 (Tr.EC _ (kk [15,14,3,2] rfl) (fun k u=>[(16,int ((k:Nat):Int))]) (fun k u=>Hp M0 w0 S (As 86 8 u::Ba 61 2 (r.map GF) v8::Ba 3 1 (d.map fun n=>[int n]) v11::AF true b9 35 [AV u (CF (l.take k)),AV v8 (lens (r.map GF).length),AV v11 (lens (d.map fun n=>[int n]).length)]::AF true b1 35 (([.slice none 0 0,.slice none 0 0,.slice none 0 0]:List Value).map is)::Ai M1 w1::rs)) (fun k:Nat=>k≤(l).length) (fun k:Nat=>(l).length-k) 0 (.slice none 0 0) (Nat.zero_le _) kz (fun _ _ h=>h) ?_))))
 rintro k u BJ
 refine ac ?_
 refine Tr.seq ?_
 refine Tr.cn rfl ?_ ?_<;>intro h1 q1
 have AZ:k<(l).length:=AH h1
 obtain ⟨x,AX⟩:=at_ AZ
 refine ac ?_
 refine Tr.seq (Tr.block (Tr.seq (Tr.BE (tp rfl (AD rfl underlying32 DB vq vq AA (AR AX)) (tp rfl (Ad rfl GG DB vq rfl rfl) ?_)))))
 refine Tl rfl rfl rfl rfl NP JZ (fun b10=> ?_)
 refine sf 0 5 ⟨rfl,rfl,rfl⟩ rfl rfl rfl rfl ?_
 refine ao ?_
 refine Tr.pad (Tr.rx ?_)
 refine ax ?_
 refine xo rfl (fun _=>CM (S0 (c:=x) (DF x (List.mem_of_getElem? AX))) rfl rfl) ?_
 refine xo rfl (fun _=>Af (xs:=[.tmp 23]) (rows:=[_]) rfl rfl underlying32 DB NP rfl AB ⟨⟨An,(Va rfl)⟩,trivial⟩ AB) ?_
 refine Cx.ef 1 rfl rfl AB (B9 rfl rfl rfl rfl underlying32 DB Xf NP Ea Db (Ay BK FC)) ?_
 refine xo rfl (fun _=>Aq rfl Vt vq) (Cx.DP 4 rfl rfl (Fc rfl rfl rfl vq rfl zi Am) ?_)
 refine Cx.nil ⟨by kernel_rfl,?_⟩
 refine Aw.PF 1 4 25 rfl rfl AB rfl (fun v1=> ?_)
 refine Aw.done al7 ?_
 refine ac ?_
 refine Tr.drop 0 (wk [16,15,14,3,2] rfl ?_)
 refine ac ?_
 refine Fin.G9 3 [AV v1 (CF (l.take (k+1))),AV v8 (lens (r.map GF).length),AV v11 (lens (d.map fun n=>[int n]).length)] rfl ⟨BB VQ,Lr,Lr,trivial⟩ ?_
 exact Fin.C8 (k+1) v1 (⟨AZ,by omega⟩) ⟨⟨_,rfl,AG k⟩,kz⟩ (fun _ _ h=>h)
 have A8:k=(l).length:=by have:=AJ h1;omega
 subst A8
 rw [List.take_length]
 refine ac ?_
 refine ao ?_
 refine TO.AK 4 rfl rfl rfl vq Be rfl CU rfl rfl ?_
 refine ao ?_
 refine Tr.ret (Fin.drop 0 (Fin.drop 2 (Fin.tS ((v8,v11)) [_] rfl (AL.cell 2 rfl rfl Da CU rfl Lr) trivial ?_ ((CH (j:=2) rfl).trans (List.Perm.cons _ ((CH (j:=0) rfl).trans (List.Perm.cons _ ((CH (j:=0) rfl).trans (List.Perm.cons _ (List.Perm.refl _))))))))))
 · exact BR ⟨Ao _ _,Ct _ _,Ct _ _,trivial⟩
end Go.Proofs.YtmocaapoeefgkaaGreatDoor
namespace Cp
open Go Go.RowKit Go.Great
section
variable {P:Program} {n:Fm} {E:Env} {M0:Av} {w0:World} {S:Nat→Prop} {o:Oper}
theorem TL {t e:TypeId} {x y:Operand} {sz bytes d:Nat} {zs:List Value} {rows rows':List (List Pr)} {v:Value} {j:Nat} (hg:o.guard=none) (hd:o.dst=some d) (hn:d<n) (ho:o.op= .call { callee:= .builtin .append,args:= #[x,y],argTypes:= #[t,t] })
  (ht:P.underlying t=some (.slice e)) (hz:A9 P e=some sz) (hby:B1 P e=some bytes) (Ev:BZ P e=some zs) (hzl:zs.length=sz) (hone:zs.all (·.oneCell')=true) (hsz:0<sz)
  (hx:VL E x (is v)) (hy:VL E y (slice sz rows')) (hl:∀r∈rows,r.length=sz) (HF:rows.length+rows'.length≤maxLen) (hfit:(rows.length+rows'.length)*bytes≤140737488355328):DH P M0 w0 S n j (SR.c (Ba e sz rows v)) ⟨d,Ba e sz (rows++rows')⟩ o E (lens (rows.length+rows'.length)):=by
 refine ⟨hg,fun M w a rs VM he hI hj=> ?_⟩
 have h1:a.eval x=v:=hx.ev he DG
 have h2:=hy.ev he DG
 have hj':rs[j]? =some (Ba e sz rows v):=hj
 obtain ⟨v',w',M',hrun,g1,g2,g3⟩:=gN (ty:=o.type) ht hz hby Ev hzl hone hsz hI hj' hl h2 HF hfit
 have Ee:(execOp a.eval o).run P w= .ok (.value v') w':=by simp [execOp,ho,resolve,invoke,builtin,hrun,h1]
 rw [Ee]
 refine ⟨M',g1,g2,?_⟩
 have:(SR.at_ (a.put o.dst v') ⟨d,Ba e sz (rows++rows')⟩)=Ba e sz (rows++rows') v':=by unfold SR.at_ Slot.val;dsimp only;rw [hd,Bz H6]
 rw [this];exact g3
end
end Cp
namespace Go.Proofs.YtmocaapoeefgkaaGreatDoor
open Go Go.RowKit Cp Go.Proofs.Tryz
variable {day:Int} {l:List Bm} {d:List Int} {r:List BM} {n:Nat}
abbrev AF3 (z:List Bm×List BM×List Int):List Pr:=[CF z.1,reqs z.2.1,ints z.2.2]
structure SmP (z:List Bm×List BM×List Int):Prop where
 sm:∀x∈z.1,x.Cb.small
 l1:z.1.length≤1000
 l2:z.2.1.length≤2000
 l3:z.2.2.length≤1000
theorem uD (h:∀x∈l,x.Cb.small):∃l2 r2 d2 y st tr,newP l r d day=C3 l2 r2 d2 y st tr false∧∀x∈l2,x.Cb.small:=by
 unfold newP
 split
 · exact ⟨_,_,_,_,_,_,rfl,h⟩
 · exact ⟨_,_,_,_,_,_,rfl,fun x hx=>by cases hx⟩
theorem uE {P:List Pr} (hn:newP l r d day=P) (hq:SmP (l,r,d)):BP prog 26 [agg [CF l,reqs r,ints d],int day] (C_ [agg P,int (newE l r d day)]) CE (fun _=>CE):=by
 have h1:=hq.l1;have h2:=hq.l2;have h3:=hq.l3
 rw [←hn];exact Wy hq.sm (Nat.le_trans h1 AB) (Nat.le_trans h2 AB) (Nat.le_trans h3 AB)
theorem lq {P:List Pr} (hn:newP l r d day=P) (hq:SmP (l,r,d)):A0 prog 14 [agg [CF l,reqs r,ints d],int day] (C_ [agg P,int (newE l r d day)]):=by
 have h1:=hq.l1;have h2:=hq.l2;have h3:=hq.l3
 rw [←hn];exact ZD hq.sm (Nat.le_trans h1 AB) (Nat.le_trans h2 AB) (Nat.le_trans h3 AB)
theorem U4.zero (h:0≤day∧day≤40000):U4 n ⟨day,List.replicate n 0,List.replicate n 0,false⟩:=
 ⟨List.length_replicate ..,List.length_replicate ..,fun x hx=>by rw [List.eq_of_mem_replicate hx];omega,h⟩
theorem lu (DF:∀x∈l,x.Cb.small) (hl:l.length≤1000000) (hr:r.length≤1000000) (hd:d.length≤1000000) (hn:newE l r d day=0∧newP l r d day=C3 l r d day (List.replicate l.length 0) (List.replicate l.length 0) false):A0 prog 14 [agg [CF l,reqs r,ints d],int day] (C_ [agg (Lz l r d ⟨day,List.replicate l.length 0,List.replicate l.length 0,false⟩),int 0]):=by
 have h:=ZD (day:=day) DF hl hr hd
 rw [hn.1,hn.2] at h
 exact h
theorem ZG {t:List Int} {rl:List Bm} {rr:List BM} {rd rst rtr:List Int} {AJO:Int} {rsp:Bool} (AJP:∀x∈rl,x.Cb.small) (hb:rl.length≤140737488355328∧rr.length≤140737488355328∧rd.length≤140737488355328∧rst.length≤140737488355328∧rtr.length≤140737488355328):BP prog 7 [ints t,agg (C3 rl rr rd AJO rst rtr rsp),int day] (bool true) (CE) (fun _=>CE):=by
 refine BP.of func7 rfl rfl Am fun M0 w0 S rs M1 w1=> ?_
 refine Tr.CG 0 rfl fun DN=>(Tr.FW 1 0 rfl rfl fun g_=>(Tr.FW 1 1 rfl rfl fun xp=>(Tr.FW 1 2 rfl rfl fun x5=>(Tr.FW 1 4 rfl rfl fun AHF=>(Tr.FW 1 5 rfl rfl fun AHG=> ?_)))))
 refine ac ?_
 refine ac ?_
 refine co rfl (CM (vk) rfl rfl) ?_
 refine ac ?_
 refine Ch.cs 36 rfl ?_ ?_<;>intro h1 q1
 refine ac ?_
 refine wk [60,4,2,0] rfl (Tr.cond rfl (fun _=> ?_) (fun h=>nomatch h))
 refine Tr.seq (Tr.BE (TO.F0 0 rfl rfl AB (Ae rfl rfl AB rfl (cL) trivial) ?_))
 refine ao ?_
 refine Tr.ret (Fin.AE (Fin.EV rfl rfl ?_ (fun _ _ _ _=>rfl)))
 · exact Lr
 refine ac ?_
 refine wk [60,4,2,0] rfl ?_
 refine Tr.cn rfl ?_ ?_<;>intro h2 q2
 refine Tr.seq (Tr.BE (TO.F0 0 rfl rfl AB (Ae rfl rfl AB rfl (cL) trivial) ?_))
 refine ao ?_
 refine Tr.ret (Fin.AE (Fin.EV rfl rfl ?_ (fun _ _ _ _=>rfl)))
 · exact Lr
 have hq_:=q2
 have ht4:t.length≤400:=by simp_all
 have ht9:t.length≤1000000000:=by omega
 have AKk:rl.length+rd.length+rr.length+rst.length+rtr.length≤60:=by omega
 refine ac ?_
 refine ao ?_
 refine TO.pad ?_
 refine TO.Df 0 rfl rfl AB (F2 rfl rfl AB rfl (AAb (l:=t) ht9) kz) (fun v1=> ?_)
 refine TO.LR 63 0 _ rfl rfl (fun _=>rfl) (fun b1=> ?_)
 refine ao ?_
 refine ao ?_
 refine TO.F0 0 rfl rfl AB (Ae rfl rfl AB rfl (ABg) kz) ?_
 refine TO.ex 66 rfl (fun z1=>TO.fact 66 rfl fun Ex=> ?_)
 refine tm rfl (tp rfl (EA rfl vq rfl) (tp rfl (EA rfl vq rfl) ?_))
 refine TO.ex 68 rfl (fun p1=>TO.fact 68 rfl fun Te=> ?_)
 refine tp rfl (EA rfl (vl rfl) rfl) ?_
 refine Tl rfl rfl rfl rfl z31 Iw (fun b2=> ?_)
 refine Tl rfl rfl rfl rfl z35 Gq (fun b3=> ?_)
 refine sf 1 8 ⟨rfl,rfl,rfl⟩ rfl rfl rfl rfl ?_
 refine sf 0 9 ⟨rfl,rfl,rfl⟩ rfl rfl rfl rfl ?_
 refine tm rfl (TO.nil (Fin.UD 0 rfl (fun s1=> ?_)))
 refine Fin.go (wk5 2 4 7 8 9 rfl (Tr.seq ?_))
 have KJ:=Te.fit.dl
 have h7:=Te.l7
 have hrl:=Te.rl
 have DF:∀x∈p1.1,x.Cb.small:=fun x hx=>(Te.ok x hx).2
 have aX:p1.1.length≤1000000:=by omega
 have ZR:p1.2.1.length≤1000000:=by omega
 have iU:p1.2.2.length≤1000000:=by omega
 have hn:=Ex.n2
 obtain ⟨x0,hx0⟩:=at_ (l:=z1.Bu) (k:=0) AA
 obtain ⟨x1,hx1⟩:=at_ (l:=z1.Bu) (k:=1) AA
 refine ao ?_
 refine TO.Gs _ rfl rfl AB rfl (cX (l:=p1.1) (r:=p1.2.1) (d:=p1.2.2) DF aX ZR iU) kz (List.Perm.refl _) (fun x2 _=> ?_)
 refine Tl rfl rfl rfl rfl z35 Gq (fun b4=> ?_)
 refine TO.AK 0 rfl rfl rfl vq Be rfl CU rfl rfl ?_
 refine ao ?_
 refine Tr.fF _ (kk [11,9,8,7,4,2] rfl) (fun (r2:List BM) (d2:List Int) (s5:DS)=>[]) (fun (r2:List BM) (d2:List Int) (s5:DS)=>Hp M0 w0 S (AF true b4 35 [CF p1.1,reqs r2,ints d2]::Bf::Bf::DT b1 s5::CE::Ai M1 w1::rs)) (fun (r2:List BM) (d2:List Int) (s5:DS)=>r2.length≤1500∧d2.length≤1000) ?_ ?_
 refine ao ?_
 refine TO.F0 3 rfl rfl AB (Ae rfl rfl AB rfl (CI AA AA) ⟨ke rfl,ke rfl,trivial⟩) ?_
 refine ao ?_
 refine TO.cases 75 rfl (fun h3=> ?_) (fun h3=> ?_)
 have q3:=EW.E9 h3
 refine TO.IG rfl rfl rfl h3 rfl AB (Aq rfl Z4 vq) (TO.IG rfl rfl rfl h3 rfl AB (CC 0 rfl (BT rfl ej vq rfl)) (TO.IG rfl rfl rfl h3 rfl AB (CC 2 rfl (fH rfl underlying22 vq)) (TO.IG rfl rfl rfl h3 rfl AB Vl ?_)))
 refine ao ?_
 refine wk [80,11,9,8,7,4,2] rfl ?_
 refine Tr.cn rfl ?_ ?_<;>intro h4 q4
 have hmX:(p1.2.2.map fun n=>[int n]).length=p1.2.2.length:=List.length_map _
 obtain ⟨y0,hd0⟩:=at_ (l:=p1.2.2) (k:=(0:Int).toNat) (by show 0<_;omega)
 refine Tr.rx ?_
 refine ax ?_
 refine xo rfl (fun _=>oI) ?_
 refine Cx.ef 3 rfl rfl AB (Ae rfl rfl AB rfl (R6 (l:=[-1,40001,3]) AO AO) ⟨kq,Db,trivial⟩) ?_
 refine JU 2 rfl rfl (Dy rfl underlying22 Bi vq vq AA B8) ?_
 refine Cx.DP 2 rfl rfl (Ca rfl rfl vq F7 Bi rfl (AW fun _=>rfl) (by rw [List.getElem?_map,hd0];rfl) AB (show _=(p1.2.2.set (Int.toNat 0) (s1.Ci.of [-1,40001,3])).map _ by rw [List.map_set];rfl)) ?_
 refine Cx.nil ⟨by kernel_rfl,?_⟩
 refine Aw.done fI (Fin.CA 0 1 1 rfl rfl AB rfl Lr (AW fun _=>rfl) (Fin.CA 0 2 2 rfl rfl AB rfl Lr (AW fun _=>rfl) (Fin.G9 0 [CF p1.1,reqs p1.2.1,ints (p1.2.2.set (Int.toNat 0) (s1.Ci.of [-1,40001,3]))] rfl ⟨Lr,Lr,Lr,trivial⟩ ?_)))
 exact Fin.C4 (p1.2.1) ((p1.2.2.set (Int.toNat 0) (s1.Ci.of [-1,40001,3]))) (_)  (⟨by (try rw [List.length_append,List.length_singleton]);omega,by (try rw [List.length_set]);omega⟩) ⟨kq,kz⟩ (fun _ _ h=>h)
 refine Tr.BE (tp rfl (Aq rfl Rk vq) (TO.rd 0 rfl rfl rfl AB (BT rfl nX vq rfl) (tp rfl (oD) (tp rfl (Af (xs:=[.tmp 89]) (rows:=[GF ⟨1,1⟩]) rfl rfl underlying33 DQ QN rfl AB ⟨⟨An,VL.le vq (AY _)⟩,trivial⟩ AB) ?_))))
 refine TO.Df 1 rfl rfl AB (TL rfl rfl AB rfl underlying33 DQ OU QN rfl AB AB (vl rfl) (Kf rfl) (AW fun _=>rfl) KP KQ) (fun v3=> ?_)
 refine tp rfl (Aq rfl Rk vq) (TO.DP 0 rfl rfl (BF rfl rfl vq F7 ADE rfl Am rfl) (TO.nil ?_))
 refine Fin.CA 0 1 1 rfl rfl AB rfl (Ct _ _) (fun r hr=>by rcases List.mem_append.1 hr with h|h;exact AW (f:=GF) (fun _=>rfl) r h;(simp at h;subst h;rfl)) ?_
 refine Fin.CA 0 2 2 rfl rfl AB rfl Lr (AW fun _=>rfl) ?_
 refine Fin.G9 0 [CF p1.1,reqs (p1.2.1++[(⟨1,1⟩:BM)]),ints p1.2.2] rfl ⟨Lr,Pr.le_of_eq (show slice 2 (p1.2.1.map GF++[[int 1,int 1]])=slice 2 ((p1.2.1++[(⟨1,1⟩:BM)]).map GF) by rw [List.map_append];rfl),Lr,trivial⟩ ?_
 exact Fin.C4 ((p1.2.1++[(⟨1,1⟩:BM)])) (p1.2.2) (_)  (⟨by (try rw [List.length_append,List.length_singleton]);omega,by (try rw [List.length_set]);omega⟩) ⟨kq,kz⟩ (fun _ _ h=>h)
 have q3:=EW.E9 h3
 iterate 4 refine TO.Tg rfl rfl rfl (Bc h3) rfl AB ?_
 refine ao ?_
 refine wk [80,11,9,8,7,4,2] rfl (Tr.cond rfl (fun h=>nomatch h) (fun _=> ?_))
 refine Tr.BE (tp rfl (Aq rfl Rk vq) (TO.rd 0 rfl rfl rfl AB (BT rfl nX vq rfl) (tp rfl (oD) (tp rfl (Af (xs:=[.tmp 89]) (rows:=[GF ⟨1,1⟩]) rfl rfl underlying33 DQ QN rfl AB ⟨⟨An,VL.le vq (AY _)⟩,trivial⟩ AB) ?_))))
 refine TO.Df 1 rfl rfl AB (TL rfl rfl AB rfl underlying33 DQ OU QN rfl AB AB vq Db (AW fun _=>rfl) KP KQ) (fun v4=> ?_)
 refine tp rfl (Aq rfl Rk vq) (TO.DP 0 rfl rfl (BF rfl rfl vq F7 ADE rfl Am rfl) (TO.nil ?_))
 refine Fin.CA 0 1 1 rfl rfl AB rfl (Ct _ _) (fun r hr=>by rcases List.mem_append.1 hr with h|h;exact AW (f:=GF) (fun _=>rfl) r h;(simp at h;subst h;rfl)) ?_
 refine Fin.CA 0 2 2 rfl rfl AB rfl Lr (AW fun _=>rfl) ?_
 refine Fin.G9 0 [CF p1.1,reqs (p1.2.1++[(⟨1,1⟩:BM)]),ints p1.2.2] rfl ⟨Lr,Pr.le_of_eq (show slice 2 (p1.2.1.map GF++[[int 1,int 1]])=slice 2 ((p1.2.1++[(⟨1,1⟩:BM)]).map GF) by rw [List.map_append];rfl),Lr,trivial⟩ ?_
 exact Fin.C4 ((p1.2.1++[(⟨1,1⟩:BM)])) (p1.2.2) (_)  (⟨by (try rw [List.length_append,List.length_singleton]);omega,by (try rw [List.length_set]);omega⟩) ⟨kq,kz⟩ (fun _ _ h=>h)
 rintro r2 d2 s5  ⟨AKl,AKm⟩
 refine Tr.seq (Tr.seq (Tr.freeze 0 11 rfl rfl (Tr.Bt (co rfl (Ad rfl Da CU vq rfl rfl) (co rfl (Ad rfl Da CU vq rfl rfl) (co rfl (i7 rfl Z6 rfl rfl) (co rfl (Ad rfl Da CU vq rfl rfl) (co rfl (Af (xs:=[.tmp 93,.tmp 94,.tmp 96]) (rows:=[[CF p1.1,reqs p1.2.1,ints p1.2.2],[CF p1.1,reqs r2,ints d2],[CF rl,reqs rr,ints rd]]) rfl rfl underlying68 CU z35 rfl AB ⟨⟨An,VL.le vq (AY _)⟩,⟨⟨An,VL.le vq (AY _)⟩,⟨⟨An,VL.le vq (AY _)⟩,trivial⟩⟩⟩ AB) ?_))))))))
 refine co rfl (Cq rfl underlying68 (Kf rfl)) ?_
 refine ac ?_
 refine wk [99,98,97,9,8,7,4,2] rfl (Tr.block ?_)
 obtain ⟨ps3,ABx,AF4⟩:∃l:List (List Bm×List BM×List Int),l=[p1,(p1.1,r2,d2),(rl,rr,rd)]∧∀x∈l,SmP x:=⟨_,rfl,by intro x hx;simp at hx;rcases hx with rfl|rfl|rfl;exact ⟨DF,by omega,by omega,by omega⟩;exact ⟨DF,by show p1.1.length≤_;omega,by show r2.length≤_;omega,by show d2.length≤_;omega⟩;exact ⟨AJP,by show rl.length≤_;omega,by show rr.length≤_;omega,by show rd.length≤_;omega⟩⟩
 refine Tr.re 97 rfl (Pr.le_trans (B4 _ _) (Pr.le_of_eq (by rw [ABx];rfl)):Pr.le _ (slice 3 (ps3.map AF3))) ?_
 have AJy:ps3.length=3:=(by rw [ABx];rfl)
 refine Tr.re 98 rfl (int_eq (by rw [ABx];rfl):Pr.le _ (int ((ps3.length:Nat):Int))) ?_
 refine Tr.Ax _ (kk [98,97,9,8,7,4,2] rfl) (fun i:Nat=>[(99,int ((i:Nat):Int))]) (fun i:Nat=>i≤(ps3).length) (fun i:Nat=>(ps3).length-i) 0 (Nat.zero_le _) kz ?_
 rintro i UT
 refine ac ?_
 refine Tr.seq ?_
 refine Tr.cn rfl ?_ ?_<;>intro h5 q5
 have Ic:i<(ps3).length:=AH h5
 obtain ⟨q,JM⟩:=at_ Ic
 have hq:=AF4 q (List.mem_of_getElem? JM)
 refine ac ?_
 refine Tr.seq (Tr.block (Tr.seq (Tr.BE (tp rfl (AD rfl underlying68 CU vq vq AA (AR JM)) (tp rfl (Ad rfl Da CU vq rfl rfl) ?_)))))
 refine Tl rfl rfl rfl rfl z35 Gq (fun b5=> ?_)
 refine sf 0 13 ⟨rfl,rfl,rfl⟩ rfl rfl rfl rfl ?_
 refine ao ?_
 refine wk [99,98,97,13,9,8,7,4,2] rfl (Tr.seq ?_)
 obtain ⟨l4,r4,d4,y4,t4,u4,hnp,hl4⟩:=uD (r:=q.2.1) (d:=q.2.2) (day:=day) hq.sm
 refine ao ?_
 refine TO.F0 3 rfl rfl AB (Ae rfl rfl AB rfl (uE hnp hq) ⟨kq,kz⟩) ?_
 refine ao ?_
 refine Tl rfl rfl rfl rfl z42 D7 (fun b6=> ?_)
 refine sf 0 14 ⟨rfl,rfl,rfl⟩ rfl rfl rfl rfl ?_
 refine ao ?_
 refine wk [99,98,97,15,14,13,9,8,7,4,2] rfl ?_
 refine ao ?_
 refine tp rfl (Bq (lq hnp hq) rfl rfl rfl) ?_
 refine ao ?_
 refine Tl rfl rfl rfl rfl z42 D7 (fun b7=> ?_)
 refine sf 0 16 ⟨rfl,rfl,rfl⟩ rfl rfl rfl rfl ?_
 refine ao ?_
 refine wk [99,98,97,17,16,15,14,9,8,7,4,2] rfl ?_
 refine ac ?_
 refine Ch.cs 118 rfl ?_ ?_<;>intro h6 q6
 exact absurd h6 AO
 refine ac ?_
 refine cy h6 rfl (Bq (O0 hl4) rfl rfl rfl) ?_
 refine ac ?_
 refine wk [123,99,98,97,9,8,7,4,2] rfl ?_
 refine Tr.cn rfl ?_ ?_<;>intro h7 q7
 exact absurd h7 AO
 refine ac ?_
 refine ac ?_
 exact Fin.AM (i+1) ⟨Ic,by omega⟩ ⟨⟨_,rfl,AG i⟩,kz⟩
 have Oe:i=(ps3).length:=by have:=AJ h5;omega
 refine ac ?_
 refine Tr.seq ?_
 have hv4:=s5.DK (n:=4) AA
 have hnew:=Te.fit.new (day:=s5.val 4) AA
 refine Tr.pad (Tr.rx ?_)
 refine ax ?_
 refine Cx.ef 3 rfl rfl AB (Ae rfl rfl AB rfl (CI AA AA) ⟨kq,kz⟩) (xo rfl (fun _=>Bq (lu DF aX ZR iU hnew) rfl rfl rfl) ?_)
 refine ax ?_
 refine Cx.ef 0 rfl rfl AB (Bx rfl rfl AB rfl z42 D7) (Cx.DP 0 rfl rfl (CZ rfl rfl rfl rfl Be B7 rfl rfl) (xm rfl ?_))
 refine Cx.nil ⟨by kernel_rfl,?_⟩
 refine Aw.open_ 0 18 rfl rfl (fun v5=> ?_)
 refine Aw.done fI (Fin.LR 18 0 _ rfl rfl (fun _=>rfl) (fun b8=> ?_))
 refine Fin.go (wk [19,18,8,7,4] rfl (Tr.seq (Tr.seq (Tr.rx ?_))))
 refine ax ?_
 refine Cx.yes rfl rfl rfl AO rfl AB (fun _=>Ad rfl CW B7 (vl rfl) rfl rfl) (Cx.PD 4 rfl rfl rfl rfl AO rfl AB (Y1 rfl rfl (Ln AA) ⟨ke rfl,trivial⟩) (Cx.yes rfl rfl rfl AO rfl AB (fun _=>Ad rfl CW B7 (vl rfl) rfl rfl) (Cx.yes rfl rfl rfl AO rfl AB (fun _=>CM (Mt AA AA) rfl rfl) (Cx.yes rfl rfl rfl AO rfl AB (fun _=>ki rfl rfl rfl rfl) (xo rfl (fun _=>E7 rfl (vl rfl) AO (vl rfl)) ?_)))))
 refine Cx.nil ⟨by kernel_rfl,?_⟩
 refine Aw.done fI (Fin.go (wk [140,18,8,7] rfl ?_))
 refine Tr.cn rfl ?_ ?_<;>intro h8 q8
 exact absurd h8 AO
 refine ac ?_
 refine Tr.seq (Tr.pad (Tr.pad (Tr.rx ?_)))
 refine ax ?_
 refine xo rfl (fun _=>AD rfl underlying27 CS vq vq AA (AR (k:=0) hx0)) ?_
 refine ax ?_
 refine xo rfl (fun _=>AD rfl underlying27 CS vq vq AA (AR (k:=0) hx0)) ?_
 refine xo rfl (fun _=>Ad rfl DC CS vq rfl rfl) (Cx.ef 0 rfl rfl AB (Bx rfl rfl AB rfl z40 Hx) (Cx.ef 1 rfl rfl AB (Bx rfl rfl AB rfl z40 Hx) (Cx.DP 0 rfl rfl (CZ rfl rfl rfl rfl Be CS rfl rfl) (Cx.DP 1 rfl rfl (CZ rfl rfl rfl rfl Be CS rfl rfl) ?_))))
 refine Cx.nil ⟨by kernel_rfl,?_⟩
 refine Aw.open_ 0 20 rfl rfl (fun v6=> ?_)
 refine Aw.open_ 1 21 rfl rfl (fun v7=> ?_)
 refine Aw.done al8 (Fin.LR 20 0 _ rfl rfl (fun _=>rfl) (fun b9=> ?_))
 refine Fin.LR 21 1 _ rfl rfl (fun _=>rfl) (fun b10=> ?_)
 refine Fin.go (wk [21,20,18,8,7] rfl ?_)
 refine ao ?_
 refine TO.DP 1 rfl rfl (BF rfl rfl vq F7 UF rfl Am rfl) ?_
 refine ao ?_
 refine Tr.seq (Tr.seq (Tr.freeze 0 20 rfl rfl (Tr.freeze 0 21 rfl rfl ?_)))
 refine ao ?_
 refine TO.F0 3 rfl rfl AB (Ae rfl rfl AB rfl (CI AA AA) ⟨ke rfl,ke rfl,trivial⟩) ?_
 refine ao ?_
 refine wk [22,21,20,18,8,7] rfl (Tr.block ?_)
 have AKn:=s5.Ci.DK (n:=12) AA
 refine Tr.Kc [(7,_),(8,_),(18,_),(20,_),(21,_)] ⟨ke rfl,ke rfl,ke rfl,ke rfl,ke rfl,trivial⟩ (fun (k:Int) (g:RS) (t4:DS)=>[(22,int k)]) (fun (k:Int) (g:RS) (t4:DS)=>Hp M0 w0 S (AF true b8 42 (Lz p1.1 p1.2.1 p1.2.2 g)::Bf::Bf::DT b1 t4::CE::Ai M1 w1::rs)) (fun (k:Int) (g:RS) (t4:DS)=>(-1≤k∧k≤100)∧U4 p1.1.length g) (fun (k:Int) (g:RS) (t4:DS)=>(k+1).toNat) (_) (⟨_,_,_,_⟩) (_)  (⟨⟨by omega,by omega⟩,U4.zero AA⟩) ⟨ke rfl,trivial⟩ (fun _ _ h=>h) ?_
 rintro k g t4  ⟨⟨hk0,hk1⟩,hg⟩
 have YQ:=hg.sl
 have htl:=hg.tl
 have hgd:=hg.dy
 have hgs:g.st.length≤1000000:=by omega
 have hgt:g.tr.length≤1000000:=by omega
 refine ac ?_
 refine Tr.cn rfl ?_ ?_<;>intro h9 q9
 have hkp:k≥0:=of_decide_eq_true h9
 refine ac ?_
 refine ao ?_
 refine TO.F0 4 rfl rfl AB (Ae rfl rfl AB rfl (lp KJ AA hg) kz) ?_
 refine ao ?_
 refine wk [24,23,22,21,20,18,8,7] rfl ?_
 refine ac ?_
 refine co rfl (CM (cW KJ AA ZR hg) rfl rfl) ?_
 refine ac ?_
 refine wk [26,25,24,23,22,21,20,18,8,7] rfl (Tr.seq (Tr.seq (Tr.rx ?_)))
 refine ax ?_
 refine Cx.yes rfl rfl rfl AO rfl AB (fun _=>Cs rfl vq) (Cx.yes rfl rfl rfl AO rfl AB (fun _=>Cs rfl vq) (Cx.yes rfl rfl rfl AO rfl AB (fun _=>ON rfl underlying4 vq vq) (xo rfl (fun _=>E7 rfl vq AO vq) (xm rfl (Cx.PD 0 rfl rfl rfl rfl AO rfl AB (EL rfl CW B7 vq rfl rfl) (Cx.yes rfl rfl rfl AO rfl AB (fun _=>CM (LB hgs) rfl rfl) (Cx.PD 0 rfl rfl rfl rfl AO rfl AB (EL rfl CW B7 vq rfl rfl) (Cx.yes rfl rfl rfl AO rfl AB (fun _=>CM (Lq hgs) rfl rfl) (Cx.yes rfl rfl rfl AO rfl AB (fun _=>Bq (Ik) rfl rfl rfl) (Cx.yes rfl rfl rfl AO rfl AB (fun _=>MK rfl vq) (xo rfl (fun _=>E7 rfl vq AO vq) (xm rfl (Cx.PD 0 rfl rfl rfl rfl AO rfl AB (EL rfl CW B7 vq rfl rfl) ?_)))))))))))))
 refine Cx.yes rfl rfl rfl AO rfl AB (fun _=>CM (N2) rfl rfl) (Cx.PD 0 rfl rfl rfl rfl AO rfl AB (EL rfl CW B7 vq rfl rfl) (Cx.yes rfl rfl rfl AO rfl AB (fun _=>CM (Tz) rfl rfl) (Cx.yes rfl rfl rfl AO rfl AB (fun _=>ON rfl underlying4 vq vq) (xo rfl (fun _=>E7 rfl vq AO vq) (xm rfl (Cx.PD 0 rfl rfl rfl rfl AO rfl AB (EL rfl CW B7 vq rfl rfl) (Cx.PD 4 rfl rfl rfl rfl AO rfl AB (Y1 rfl rfl (Ln hgs) kz) (Cx.PD 0 rfl rfl rfl rfl AO rfl AB (EL rfl CW B7 vq rfl rfl) (Cx.yes rfl rfl rfl AO rfl AB (fun _=>CM (Mt hgs ZR) rfl rfl) (Cx.yes rfl rfl rfl AO rfl AB (fun _=>ki rfl rfl rfl rfl) (xo rfl (fun _=>E7 rfl vq AO vq) ?_)))))))))))
 refine Cx.nil ⟨by kernel_rfl,?_⟩
 refine Aw.done fI (Fin.go (wk [198,25,22,21,20,18,8,7] rfl ?_))
 refine Tr.cn rfl ?_ ?_<;>intro h10 R9
 exact absurd h10 AO
 refine ac ?_
 refine Tr.vc _ (kk [22,21,20,18,8,7] rfl) (fun (i:Int) (s6:DS)=>[(25,int i)]) (fun (i:Int) (s6:DS)=>Hp M0 w0 S (AF true b8 42 (Lz p1.1 p1.2.1 p1.2.2 g)::Bf::Bf::DT b1 s6::CE::Ai M1 w1::rs)) (fun (i:Int) (s6:DS)=>True) ?_ ?_
 refine ao ?_
 refine TO.F0 3 rfl rfl AB (Ae rfl rfl AB rfl (aE AA AA) ⟨ke rfl,ke rfl,trivial⟩) ?_
 refine ao ?_
 refine Tr.cn rfl ?_ ?_<;>intro h11 Ti
 refine ao ?_
 refine TO.F0 3 rfl rfl AB (Ae rfl rfl AB rfl (CI AA AA) ⟨ke rfl,ke rfl,trivial⟩) ?_
 refine ao ?_
 exact Fin.Cu (_) (_)  (trivial) ⟨kq,kz⟩ (fun _ _ h=>h)
 refine Tr.skip (Fin.Cu (_) (_)  (trivial) ⟨kq,kz⟩ (fun _ _ h=>h))
 rintro i s6  _
 refine Tr.seq (Tr.BE ?_)
 refine Tl rfl rfl rfl rfl z42 D7 (fun b11=> ?_)
 refine Tl rfl rfl rfl rfl z42 D7 (fun b12=> ?_)
 refine ao ?_
 refine ac ?_
 refine Tr.fF _ (kk [28,27,22,21,20,18,8,7] rfl) (fun (g2:RS) (e:Int) (s7:DS)=>[(29,int e),(30,int e)]) (fun (g2:RS) (e:Int) (s7:DS)=>Hp M0 w0 S (AF true b12 42 (Lz p1.1 p1.2.1 p1.2.2 g2)::AF true b11 42 (Lz p1.1 p1.2.1 p1.2.2 g2)::AF true b8 42 (Lz p1.1 p1.2.1 p1.2.2 g)::Bf::Bf::DT b1 s7::CE::Ai M1 w1::rs)) (fun (g2:RS) (e:Int) (s7:DS)=>U4 p1.1.length g2) ?_ ?_
 refine ao ?_
 refine TO.F0 5 rfl rfl AB (Ae rfl rfl AB rfl (CI AA AA) ⟨ke rfl,ke rfl,trivial⟩) ?_
 refine ao ?_
 refine wk [205,30,29,28,27,25,22,21,20,18,8,7] rfl ?_
 refine ac ?_
 refine wk [224,205,30,29,28,27,25,22,21,20,18,8,7] rfl ?_
 refine Tr.cn rfl ?_ ?_<;>intro h12 X0
 refine Tr.seq ?_
 have hof:=s6.Ci.OP (l:=[1,0,-1,5]) AO
 simp at hof
 refine Tr.rx ?_
 refine ax ?_
 refine xo rfl (fun _=>oI) ?_
 refine Cx.ef 5 rfl rfl AB (Ae rfl rfl AB rfl (R6 (l:=[1,0,-1,5]) AO AO) ⟨kq,Db,trivial⟩) ?_
 refine ax ?_
 refine Cx.nil ⟨by kernel_rfl,?_⟩
 refine Aw.done al8 (Fin.go (wk [31,28,27,22,21,20,18,8,7] rfl ?_))
 refine ao ?_
 refine tp rfl (Bq (Y7 DF aX ZR iU hgs hgt) rfl rfl rfl) ?_
 refine ao ?_
 refine TO.AK 1 rfl rfl rfl vq Be rfl B7 rfl rfl ?_
 refine ao ?_
 refine wk [31,29,28,27,22,21,20,18,8,7] rfl ?_
 refine ao ?_
 refine tp rfl (Bq (W4 DF aX ZR iU hgs hgt) rfl rfl rfl) ?_
 refine ao ?_
 refine TO.AK 0 rfl rfl rfl vq Be rfl B7 rfl rfl ?_
 refine ao ?_
 exact Fin.C4 ((yP g (g.day+s6.Ci.of [1,0,-1,5])).1) ((yP g (g.day+s6.Ci.of [1,0,-1,5])).2) (_)  (hg.Ci) ⟨kq,kz⟩ (fun _ _ h=>h)
 refine ac ?_
 refine wk [244,205,30,29,28,27,25,22,21,20,18,8,7] rfl ?_
 refine Tr.cn rfl ?_ ?_<;>intro OQ fO
 refine ao ?_
 refine TO.F0 6 rfl rfl AB (Ae rfl rfl AB rfl (lf DF aX ZR iU AA hg) ⟨kq,kz⟩) ?_
 refine ao ?_
 refine TO.AK 1 rfl rfl rfl vq Be rfl B7 rfl rfl ?_
 refine ao ?_
 refine wk [29,28,27,25,22,21,20,18,8,7] rfl ?_
 refine ao ?_
 refine tp rfl (Bq (cV DF aX ZR iU AA hg) rfl rfl rfl) ?_
 refine ao ?_
 refine TO.AK 0 rfl rfl rfl vq Be rfl B7 rfl rfl ?_
 refine ao ?_
 exact Fin.C4 ((T0 p1.1 p1.2.1 g i).1) ((T0 p1.1 p1.2.1 g i).2) (_)  (hg.und) ⟨kq,kz⟩ (fun _ _ h=>h)
 refine ac ?_
 refine wk [258,205,30,29,28,27,25,22,21,20,18,8,7] rfl ?_
 refine Tr.cn rfl ?_ ?_<;>intro NN q14
 refine ao ?_
 refine tp rfl (OJ rfl vq vq AA) (tp rfl Vl (tp rfl (Bq (tg DF aX ZR iU hgs hgt) rfl rfl rfl) (TO.AK 1 rfl rfl rfl vq Be rfl B7 rfl rfl ?_)))
 refine ao ?_
 refine wk [30,29,28,27,22,21,20,18,8,7] rfl ?_
 refine ao ?_
 refine tp rfl (OJ rfl vq vq AA) (tp rfl Vl (tp rfl (Bq (lZ DF aX ZR iU hgs hgt) rfl rfl rfl) (TO.AK 0 rfl rfl rfl vq Be rfl B7 rfl rfl ?_)))
 refine ao ?_
 exact Fin.C4 (⟨g.day,g.st,g.tr,k.tmod 2==0⟩) (0) (_)  (⟨hg.sl,hg.tl,hg.t4,hg.dy⟩) ⟨kq,kz⟩ (fun _ _ h=>h)
 refine ac ?_
 refine wk [270,205,28,27,25,22,21,20,18,8,7] rfl ?_
 refine Tr.cn rfl ?_ ?_<;>intro XG q15
 refine ao ?_
 refine TO.F0 6 rfl rfl AB (Ae rfl rfl AB rfl (LF (x:=x0) (y:=({x0 with Dz:= !x0.Dz}:Bw)) (z:=x0) DF aX ZR iU AA KJ hg) ⟨kq,kz⟩) ?_
 refine ao ?_
 refine TO.AK 1 rfl rfl rfl vq Be rfl B7 rfl rfl ?_
 refine ao ?_
 refine wk [29,28,27,25,22,21,20,18,8,7] rfl ?_
 refine ao ?_
 refine tp rfl (kc5 (Jx (x:=x0) (y:=({x0 with Dz:= !x0.Dz}:Bw)) (z:=x0) DF aX ZR iU AA KJ hg) rfl rfl rfl rfl rfl rfl) ?_
 refine ao ?_
 refine TO.AK 0 rfl rfl rfl vq Be rfl B7 rfl rfl ?_
 refine ao ?_
 exact Fin.C4 ((N5 p1.2.1 p1.2.2 g i x0 ({x0 with Dz:= !x0.Dz}:Bw) x0).1) ((N5 p1.2.1 p1.2.2 g i x0 ({x0 with Dz:= !x0.Dz}:Bw) x0).2) (_)  (hg.rep) ⟨kq,kz⟩ (fun _ _ h=>h)
 refine ac ?_
 refine Tr.cn rfl ?_ ?_<;>intro h16 q16
 refine ao ?_
 refine tp rfl (AD rfl underlying27 CS vq vq AA (AR (k:=1) hx1)) ?_
 refine tp rfl (Ad rfl DC CS vq rfl rfl) ?_
 refine Tl rfl rfl rfl rfl z40 Hx (fun b13=> ?_)
 refine sf 0 32 ⟨rfl,rfl,rfl⟩ rfl rfl rfl rfl ?_
 refine ao ?_
 refine wk [32,28,27,25,22,21,20,18,8,7] rfl ?_
 refine ao ?_
 refine TO.F0 6 rfl rfl AB (Ae rfl rfl AB rfl (LF (x:=x0) (y:=({x0 with Dz:= !x0.Dz}:Bw)) (z:=x1) DF aX ZR iU AA KJ hg) ⟨kq,kz⟩) ?_
 refine ao ?_
 refine TO.AK 1 rfl rfl rfl vq Be rfl B7 rfl rfl ?_
 refine ao ?_
 refine wk [32,29,28,27,25,22,21,20,18,8,7] rfl ?_
 refine ao ?_
 refine tp rfl (kc5 (Jx (x:=x0) (y:=({x0 with Dz:= !x0.Dz}:Bw)) (z:=x1) DF aX ZR iU AA KJ hg) rfl rfl rfl rfl rfl rfl) ?_
 refine ao ?_
 refine TO.AK 0 rfl rfl rfl vq Be rfl B7 rfl rfl ?_
 refine ao ?_
 exact Fin.C4 ((N5 p1.2.1 p1.2.2 g i x0 ({x0 with Dz:= !x0.Dz}:Bw) x1).1) ((N5 p1.2.1 p1.2.2 g i x0 ({x0 with Dz:= !x0.Dz}:Bw) x1).2) (_)  (hg.rep) ⟨kq,kz⟩ (fun _ _ h=>h)
 refine ao ?_
 refine TO.F0 6 rfl rfl AB (Ae rfl rfl AB rfl (LF (x:=x0) (y:=({x0 with Dz:= !x0.Dz}:Bw)) (z:=({x0 with Dz:= !x0.Dz}:Bw)) DF aX ZR iU AA KJ hg) ⟨kq,kz⟩) ?_
 refine ao ?_
 refine TO.AK 1 rfl rfl rfl vq Be rfl B7 rfl rfl ?_
 refine ao ?_
 refine wk [29,28,27,25,22,21,20,18,8,7] rfl ?_
 refine ao ?_
 refine tp rfl (kc5 (Jx (x:=x0) (y:=({x0 with Dz:= !x0.Dz}:Bw)) (z:=({x0 with Dz:= !x0.Dz}:Bw)) DF aX ZR iU AA KJ hg) rfl rfl rfl rfl rfl rfl) ?_
 refine ao ?_
 refine TO.AK 0 rfl rfl rfl vq Be rfl B7 rfl rfl ?_
 refine ao ?_
 exact Fin.C4 ((N5 p1.2.1 p1.2.2 g i x0 ({x0 with Dz:= !x0.Dz}:Bw) ({x0 with Dz:= !x0.Dz}:Bw)).1) ((N5 p1.2.1 p1.2.2 g i x0 ({x0 with Dz:= !x0.Dz}:Bw) ({x0 with Dz:= !x0.Dz}:Bw)).2) (_)  (hg.rep) ⟨kq,kz⟩ (fun _ _ h=>h)
 rintro g2 e s7  To
 refine ac ?_
 refine Ch.cs 317 rfl ?_ ?_<;>intro N7 q17
 exact absurd N7 AO
 refine ac ?_
 refine cy N7 rfl (Bq (O0 DF) rfl rfl rfl) ?_
 refine ac ?_
 refine Ch.cs 323 rfl ?_ ?_<;>intro OR q18
 exact absurd OR AO
 refine ac ?_
 refine cy OR rfl (Bq (tq) rfl rfl rfl) ?_
 refine ac ?_
 refine cy OR rfl (Bq (O0 DF) rfl rfl rfl) (cy OR rfl (ON rfl underlying4 vq vq) ?_)
 refine ac ?_
 refine Tr.drop 1 (wk [331,28,22,21,20,18,8,7] rfl ?_)
 refine Tr.cn rfl ?_ ?_<;>intro mJ q19
 exact absurd mJ AO
 refine ac ?_
 refine ao ?_
 refine TO.AK 1 rfl rfl rfl vq Be rfl B7 rfl rfl ?_
 refine ao ?_
 refine Tr.drop 0 ?_
 refine ac ?_
 exact Fin.C4 (k-1) (g2) (_)  (⟨⟨⟨by omega,by omega⟩,To⟩,by omega⟩) ⟨⟨_,rfl,int_eq AA⟩,kz⟩ (fun _ _ h=>h)
 have hkn:=of_decide_eq_false h9
 refine ac ?_
 refine Tr.seq (Tr.BE (TO.F0 4 rfl rfl AB (Ae rfl rfl AB rfl (cL) trivial) ?_))
 refine ao ?_
 refine Tr.ret (Fin.drop 0 ?_)
 refine Fin.drop 0 (Fin.drop 0 (Fin.drop 0 (Fin.EV rfl rfl ?_ (fun _ _ _ _=>rfl))))
 · exact Lr
end Go.Proofs.YtmocaapoeefgkaaGreatDoor
namespace Cp
open Go Go.RowKit Go.Great Go.ChangeShapes Go.WideShapes
variable {i:Nat} {P:Program} {e t:TypeId} {v:Value}
def U5 {H:Type} (P:Program) (t:TypeId) (d:DataW H):Prop:=∀n∈d.weights P t,n≤reachBytes
theorem LG {H:Type} {P:Program} {e:TypeId}:∀{l:List (DataW H)} {d:DataW H} {n:Nat},d∈l→n∈d.weights P e→n∈DataW.weightsAll P e l
 |[],_,_,h,_=>nomatch h
 |a::l,d,n,h,hn=>by
  unfold DataW.weightsAll
  rcases List.mem_cons.1 h with rfl|h
  · exact List.mem_append_left _ hn
  · exact List.mem_append_right _ (LG h hn)
theorem G7 {H:Type} {P:Program}:∀{ts:List TypeId} {l:List (DataW H)} {i:Nat} {t:TypeId} {d:DataW H} {n:Nat},ts[i]? =some t→l[i]? =some d→n∈d.weights P t→n∈DataW.weightsEach P ts l
 |t::ts,a::l,0,_,_,n,h1,h2,hn=>by
  simp at h1 h2;subst h1;subst h2
  unfold DataW.weightsEach;exact List.mem_append_left _ hn
 |t::ts,a::l,i+1,_,_,n,h1,h2,hn=>by
  simp at h1 h2
  unfold DataW.weightsEach;exact List.mem_append_right _ (G7 h1 h2 hn)
 |[],_,_,_,_,_,h1,_,_=>by simp at h1
 |_::_,[],_,_,_,_,_,h2,_=>by simp at h2
def E6 (P:Program) (t:TypeId) {α:Type} (ok:α→Prop) (f:α→List Pr):Prop:=
 ∀(H:Type) (enc:TypeId×Value→H) (w:World) (fuel:Nat) (cs:List Value) (x:DataW H×List MemPlace),DataW.trod enc P w 0 (fun _=>true) true fuel t cs=some x→U5 P t x.1→∃a,ok a∧HL eY w (f a) cs∧∀c∈cs,c.oneCell'=true
theorem J1.w {α:Type} {ok:α→Prop} {f:α→List Pr} (h:J1 P t ok f):E6 P t ok f:=fun H enc w fuel cs x hx _=>h H enc w fuel cs x hx
theorem E6.map {α β:Type} {ok:α→Prop} {f:α→List Pr} {ok':β→Prop} {f':β→List Pr} (h:E6 P t ok f) (g:α→β) (h1:∀a,ok a→ok' (g a)) (h2:∀a,f' (g a)=f a):E6 P t ok' f':=by
 intro H enc w fuel cs x hx hl
 obtain ⟨a,h3,h4,h5⟩:=h H enc w fuel cs x hx hl
 exact ⟨g a,h1 a h3,by rw [h2];exact h4,h5⟩
theorem Pk {H:Type} {enc:TypeId×Value→H} {P:Program} {w:World} {e:TypeId} {α:Type} {ok:α→Prop} {f:α→List Pr} (he:E6 P e ok f) {sz:Nat} (hc:P.cellsOf e=sz) {a:Addr} {m:Nat}:
  ∀(len:Nat),(∀i,i<len→∃y,(w.cells? 0 (a.add (i*sz)) sz).bind (DataW.trod enc P w 0 (fun _=>true) true m e)=some y∧U5 P e y.1)→
   ∃l:List α,l.length=len∧(∀z∈l,ok z)∧∀(i:Nat) z,l[i]? =some z→(f z).length=sz∧Row eY w a (i*sz) (f z)
 |0,_=>⟨[],rfl,by simp,by simp⟩
 |len+1,h=>by
  obtain ⟨l,h1,h2,h3⟩:=Pk he hc len (fun i hi=>h i AA)
  obtain ⟨y,hy,hly⟩:=h len AA
  obtain ⟨cs,hcs,hy⟩:=Option.bind_eq_some_iff.1 hy
  obtain ⟨z,hz,hl,h1c⟩:=he H enc w m cs y hy hly
  obtain ⟨_,hlen,hat⟩:=World.cells?_some hcs
  refine ⟨l++[z],by simp [h1],?_,fun i u hu=> ?_⟩
  ·
   intro u hu
   rcases List.mem_append.1 hu with hu|hu
   · exact h2 u hu
   · rw [List.mem_singleton.1 hu];exact hz
  ·
   rcases Nat.lt_trichotomy i len with hi|hi|hi
   ·
    rw [List.getElem?_append_left AA] at hu
    exact h3 i u hu
   ·
    subst hi
    rw [List.getElem?_append_right AA,h1] at hu
    simp at hu;subst hu
    have hfl:(f z).length=sz:=by rw [hl.len,hlen]
    refine ⟨hfl,fun j p hp=> ?_⟩
    obtain ⟨v,hv,ia⟩:=hl.nth j p hp
    have hj:j<sz:=by
     rcases Nat.lt_or_ge j (f z).length with h'|h'
     · omega
     · rw [List.getElem?_eq_none h'] at hp;cases hp
    refine ⟨v,?_,fun hf=>hf,h1c v (List.mem_of_getElem? hv),ia⟩
    rw [←hv,←hat j hj]
    rw [add_add]
   · rw [List.getElem?_eq_none (by simp [h1];omega)] at hu;cases hu
theorem Ed {α:Type} {ok:α→Prop} {f:α→List Pr} {sz b:Nat} (ht:P.underlying t=some (.slice e)) (hc:P.cellsOf e=sz) (hb:P.bytesOf e=b) (he:E6 P e ok f):
  E6 P t (fun l:List α=>(∀z∈l,ok z)∧l.length≤maxLen∧l.length*b≤reachBytes) (fun l=>[slice sz (l.map f)]):=by
 intro H enc w fuel cs x hx W8
 rcases DataW.trod_slice ht hx with ⟨rfl,_⟩|⟨a,len,cap,elems,rest,n,rfl,rfl,rfl,_,hl,hm,hel,hat,_⟩
 · exact ⟨[],⟨by simp,by simp,by simp⟩,⟨⟨none,0,rfl,by simp,by simp,fun _=>rfl,by simp⟩,trivial⟩,by simp [Value.oneCell']⟩
 ·
  have hw:∀k,k∈(DataW.slice (elems.map (·.1)) (rest.map (·.1))).weights P t↔k=((elems.map (·.1)).length+(rest.map (·.1)).length)*P.bytesOf e∨k∈DataW.weightsAll P e (elems.map (·.1))++DataW.weightsAll P e (rest.map (·.1)):=by
   intro k
   unfold DataW.weights
   rw [ht];exact List.mem_cons
  have h0:=W8 _ ((hw _).2 (.inl rfl))
  simp only [List.length_map] at h0
  obtain ⟨l,h1,h2,h3⟩:=Pk (H:=H) (enc:=enc) (w:=w) (a:=a) (m:=n) he hc len (fun i hi=>by
   have:=hat i hi
   rw [hc] at this
   rw [this,List.getElem?_eq_getElem AA]
   exact ⟨_,rfl,fun k hk=>W8 k ((hw k).2 (.inr (List.mem_append_left _ (LG (List.mem_map.2 ⟨_,List.getElem_mem _,rfl⟩) hk))))⟩)
  refine ⟨l,⟨h2,by omega,?_⟩,⟨⟨some a,cap,by simp [h1],by simp;omega,hm,by simp,fun i row hr=> ?_⟩,trivial⟩,by simp [Value.oneCell']⟩
  ·
   refine Nat.le_trans (Nat.mul_le_mul_right b (?_:l.length≤elems.length+rest.length)) (hb ▸ h0)
   omega
  ·
   rw [List.getElem?_map] at hr
   cases hz:l[i]? with
   |none=>rw [hz] at hr;cases hr
   |some z=>
    rw [hz] at hr;simp at hr;subst hr
    obtain ⟨h4,h5⟩:=h3 i z hz
    exact ⟨h4,a,rfl,h5⟩
def Q1 (P:Program) (o:Nat) (fs:List Field) {α:Type} (ok:α→Prop) (f:α→List Pr):Prop:=
 ∀(H:Type) (enc:TypeId×Value→H) (w:World) (n:Nat) (cs:List Value),(∀fl∈fs,∃y,DataW.trod (H:=H) enc P w 0 (fun _=>true) true n fl.type ((cs.drop fl.offset).take (P.cellsOf fl.type))=some y∧U5 P fl.type y.1)→
  cs.length=o+(fs.map fun fl=>P.cellsOf fl.type).sum→∃a,ok a∧HL eY w (f a) (cs.drop o)∧∀c∈cs.drop o,c.oneCell'=true
theorem Dg (P:Program) (o:Nat):Q1 P o [] (fun _:Unit=>True) (fun _=>[]):=by
 intro H enc w n cs _ hl
 have:cs.drop o=[]:=List.drop_eq_nil_of_le (by simp at hl;omega)
 rw [this]
 exact ⟨(),trivial,trivial,by simp⟩
theorem Ap {o c:Nat} {fl:Field} {fs:List Field} {α β:Type} {ok:α→Prop} {f:α→List Pr} {ok':β→Prop} {f':β→List Pr} (ho:fl.offset=o) (hc:P.cellsOf fl.type=c) (h:E6 P fl.type ok f) (k:Q1 P (o+c) fs ok' f'):Q1 P o (fl::fs) (fun z:α×β=>ok z.1∧ok' z.2) (fun z=>f z.1++f' z.2):=by
 intro H enc w n cs hy hl
 obtain ⟨y,h0,hly⟩:=hy fl (List.mem_cons_self ..)
 rw [ho,hc] at h0
 obtain ⟨a,h1,h2,h3⟩:=h H enc w n _ y h0 hly
 obtain ⟨b,h4,h5,h6⟩:=k H enc w n cs (fun g hg=>hy g (List.mem_cons_of_mem _ hg)) (by rw [hl];simp [hc];omega)
 have e:cs.drop o=(cs.drop o).take c++cs.drop (o+c):=by rw [←List.drop_drop,List.take_append_drop]
 refine ⟨(a,b),⟨h1,h4⟩,by rw [e];exact h2.app h5,fun v hv=> ?_⟩
 rw [e] at hv
 rcases List.mem_append.1 hv with hv|hv
 · exact h3 v hv
 · exact h6 v hv
theorem Cr {fs:Array Field} {α:Type} {ok:α→Prop} {f:α→List Pr} (ht:P.underlying t=some (.struct fs)) (hc:P.cellsOf t=(fs.toList.map fun fl=>P.cellsOf fl.type).sum) (h:Q1 P 0 fs.toList ok f):E6 P t ok f:=by
 intro H enc w fuel cs x hx W8
 obtain ⟨xs,n,rfl,rfl,hl,hxs,hat⟩:=DataW.trod_struct ht hx
 obtain ⟨a,h1,h2,h3⟩:=h H enc w n cs (fun fl hfl=>by
  obtain ⟨i,hi⟩:=List.mem_iff_getElem?.1 hfl
  have hi':fs[i]? =some fl:=by simpa using hi
  have:=hat i fl hi'
  rw [this]
  have hlt:i<fs.size:=by
   rcases Nat.lt_or_ge i fs.size with h'|h'
   · exact h'
   · rw [Array.getElem?_eq_none h'] at hi';cases hi'
  have hx':xs[i]? =some xs[i]:=List.getElem?_eq_getElem AA
  refine ⟨_,hx',fun k hk=>W8 k ?_⟩
  show k∈(DataW.agg (xs.map (·.1))).weights P t
  unfold DataW.weights
  rw [ht]
  exact G7 (i:=i) (by rw [List.getElem?_map,hi];rfl) (by rw [List.getElem?_map,hx'];rfl) hk) (by rw [hl,hc];simp)
 exact ⟨a,h1,by simpa using h2,by simpa using h3⟩
theorem ZH {H:Type} {enc:TypeId×Value→H} {w:World} {α:Type} {ok:α→Prop} {p:α→Pr} (ho:E6 P t ok (fun a=>[p a])) {d:DataW H} {ps:List MemPlace} (h:DataW.Trod enc P w 0 (fun _=>true) true t v d ps) (hl:U5 P t d) (hv:v.cells= #[v]):
  ∃a,ok a∧(p a).h eY w v:=by
 obtain ⟨fuel,hf⟩:=h
 obtain ⟨a,h1,h2,_⟩:=ho _ _ _ _ _ _ hf hl
 rw [hv] at h2
 exact ⟨a,h1,h2.1⟩
theorem uF {H:Type} {enc:TypeId×Value→H} {w:World} {α:Type} {ok:α→Prop} {f:α→List Pr} (ho:E6 P t ok f) {d:DataW H} {ps:List MemPlace} (h:DataW.Trod enc P w 0 (fun _=>true) true t v d ps) (hl:U5 P t d) (hv:∃cs,v= .agg cs):
  ∃a,ok a∧(agg (f a)).h eY w v:=by
 obtain ⟨fuel,hf⟩:=h
 obtain ⟨cs,rfl⟩:=hv
 obtain ⟨a,h1,h2,h3⟩:=ho _ _ _ _ _ _ hf hl
 exact ⟨a,h1,cs.toList,by simp,h3,h2⟩
theorem TN {H:Type} {ts:List TypeId} {ds gs:List (DataW H)} (hw:(DataW.weightsEach P ts (ds++gs)).all (· ≤reachBytes)=true) {d:DataW H} (ht:ts[i]? =some t) (hd:ds[i]? =some d):U5 P t d:=fun k hk=>by
 have hlt:i<ds.length:=BH hd
 have:=List.all_eq_true.1 hw k (G7 ht (by rw [List.getElem?_append_left hlt];exact hd) hk)
 simpa using this
end Cp
namespace Go.Proofs.YtmocaapoeefgkaaGreatDoor
open Go Go.RowKit Cp Go.Proofs.Tryz
abbrev b3:=(Bo underlying3).w
theorem cY:E6 prog 9 (fun s:List UInt8=>s.length≤maxLen) (fun s=>[str s]):=((JV underlying9).w).map (fun s=>s.data.toList) (fun s h=>h) (fun _=>rfl)
theorem cZ:E6 prog 189 (fun c:Gt=>c.fits∧c.names.length≤8796093022208) C0:=
 (Cr underlying189 Ak (Ap (c:=1) rfl Ak b3 (Ap (c:=1) rfl Ak ((JV underlying9).w) (Ap (c:=1) rfl Ak ((JV underlying9).w) (Ap (c:=2) rfl Ak (Cr underlying81 Ak (Ap (c:=1) rfl Ak b3 (Ap (c:=1) rfl Ak b3 (Dg _ _)))) (Ap (c:=1) rfl Ak b3 (Ap (c:=2) rfl Ak (Cr underlying81 Ak (Ap (c:=1) rfl Ak b3 (Ap (c:=1) rfl Ak b3 (Dg _ _)))) (Ap (c:=1) rfl Ak b3 (Ap (c:=1) rfl Ak b3 (Ap (c:=1) rfl Ak ((Rf underlying4).w) (Ap (c:=1) rfl Ak b3 (Ap (c:=1) rfl Ak (Ed (b:=16) underlying127 Ak Ak cY) (Ap (c:=2) rfl Ak (Cr underlying187 Ak (Ap (c:=1) rfl Ak b3 (Ap (c:=1) rfl Ak b3 (Dg _ _)))) (Dg _ _)))))))))))))).map (fun z=>(⟨z.1,z.2.1.data.toList,z.2.2.1.data.toList,z.2.2.2.1.1,z.2.2.2.1.2.1,z.2.2.2.2.1,z.2.2.2.2.2.1.1,z.2.2.2.2.2.1.2.1,z.2.2.2.2.2.2.1,z.2.2.2.2.2.2.2.1,z.2.2.2.2.2.2.2.2.1,z.2.2.2.2.2.2.2.2.2.1,z.2.2.2.2.2.2.2.2.2.2.1,z.2.2.2.2.2.2.2.2.2.2.2.1.1,z.2.2.2.2.2.2.2.2.2.2.2.1.2.1⟩:Gt))
  (fun z h=>⟨⟨h.2.1,h.2.2.1,h.2.2.2.2.2.2.2.2.2.2.1.1⟩,by have h1:=h.2.2.2.2.2.2.2.2.2.2.1.2.2;show z.2.2.2.2.2.2.2.2.2.2.1.length≤_;unfold reachBytes at h1;omega⟩) (fun _=>rfl)
theorem cj:E6 prog 84 (fun x:Hw=>x.fits∧x.small) E_:=
 (Cr underlying84 Ak (Ap (c:=2) rfl Ak (Cr underlying81 Ak (Ap (c:=1) rfl Ak b3 (Ap (c:=1) rfl Ak b3 (Dg _ _)))) (Ap (c:=1) rfl Ak b3 (Ap (c:=1) rfl Ak (Ed (b:=152) underlying82 Ak Ak cZ) (Dg _ _))))).map (fun z=>(⟨z.1.1,z.1.2.1,z.2.1,z.2.2.1⟩:Hw)) (fun z h=>⟨fun c hc=>(h.2.2.1.1 c hc).1,⟨by have h1:=h.2.2.1.2.2;show z.2.2.1.length≤_;unfold reachBytes at h1;omega,fun c hc=>(h.2.2.1.1 c hc).2⟩⟩) (fun _=>rfl)
theorem ck:E6 prog 86 (fun c:Bm=>c.Cb.fits∧c.Cb.small) DO:=
 (Cr underlying86 Ak (Ap (c:=1) rfl Ak b3 (Ap (c:=1) rfl Ak b3 (Ap (c:=1) rfl Ak b3 (Ap (c:=1) rfl Ak b3 (Ap (c:=4) rfl Ak (cj) (Dg _ _))))))).map (fun z=>(⟨z.1,z.2.1,z.2.2.1,z.2.2.2.1,z.2.2.2.2.1⟩:Bm)) (fun z h=>h.2.2.2.2.1) (fun _=>rfl)
open Go.ChangeShapes Go.WideShapes Go.ChangeAt Rows
abbrev LDq:List (String×DataW Unit):=[("math/bits.deBruijn32tab", laid_math_bits_deBruijn32tab)]
theorem AJQ:prog.globalNamed "math/bits.deBruijn32tab" = some 0:=by kernel_rfl
theorem AJR:(prog.globals[0]?).map (·.type)=some 255:=by kernel_rfl
theorem uG (os:Os) (args:Array Value):laidMetH prog LDq ((World.doorLaid prog 14 os).forCall (fun _ _=>0) ⟨#[],args,[]⟩).memory :=
 laidMetH_of_parts3 (fuel:=33) (laidMet_of_run' 33 Ak Ak) Ak Ak
theorem ABy {W:World} (h:laidMetH prog LDq W):CE.h eY W:=by
 rw [MakeChecks.laidMetH_plain _ _ _ Ak] at h
 obtain ⟨ps,⟨g0,t0,cs0,f0,p0,q0,hg0,ht0,eW,hd0,_⟩,_⟩:=h
 obtain rfl:=Option.some.inj (AJQ.symm.trans hg0)
 obtain rfl:=Option.some.inj (AJR.symm.trans ht0)
 obtain ⟨xs,m,rfl,hx,hlen,hn,hel⟩:=DataW.trod_array underlying255 hd0
 have c1:prog.cellsOf 5=1:=by kernel_rfl
 have hx1:laid_math_bits_deBruijn32tab=DataW.agg (xs.map (·.1)):=(Prod.mk.inj hx).1
 have hx2:xs.map (·.1)=YT.map fun n:Nat=>DataW.lit (.int .u8 (n:Int)):=by
  have h3:(laid_math_bits_deBruijn32tab:DataW Unit)=DataW.agg (YT.map fun n:Nat=>DataW.lit (.int .u8 (n:Int))):=rfl
  exact (DataW.agg.inj (hx1.symm.trans h3))
 intro j n hj
 refine ⟨?_,fun h=>h⟩
 have AJS:j<32:=by
  rcases Nat.lt_or_ge j 32 with h|h
  · exact h
  · rw [List.getElem?_eq_none h] at hj;cases hj
 have h4:=hel j AJS
 rw [c1,Nat.mul_one] at h4
 obtain ⟨y,hy⟩:=at_ (l:=xs) (k:=j) AA
 rw [hy] at h4
 obtain ⟨k,e1,e2,_⟩:=DataW.trod_int underlying5 h4
 have h5:(xs.map (·.1))[j]? =some (DataW.lit (.int .u8 (n:Int))):=by rw [hx2,List.getElem?_map,hj];rfl
 rw [List.getElem?_map,hy] at h5
 have hk:k=(n:Int):=by
  have h6:y.1=DataW.lit (.int .u8 (n:Int)):=Option.some.inj h5
  rw [e2] at h6
  simpa using h6
 have h7:=World.var?_cell hg0 eW j
 have h8:cs0.toList[j]? =some (.int .u8 k):=by
  have h9:=congrArg (fun l:List Value=>l[0]?) e1
  simpa using h9
 rw [hk] at h8
 have h10:cs0[j]? =some (.int .u8 (n:Int)):=by rw [←Array.getElem?_toList];exact h8
 rw [h10] at h7
 exact h7
structure ABz where
 l:List Bm
 r:List BM
 d:List Int
 day:Int
 st:List Int
 tr:List Int
 sp:Bool
abbrev AJT (z:ABz):List Pr:=C3 z.l z.r z.d z.day z.st z.tr z.sp
theorem cq:E6 prog 61 (fun _:BM=>True) GF:=
 (Cr underlying61 Ak (Ap (c:=1) rfl Ak b3 (Ap (c:=1) rfl Ak b3 (Dg _ _)))).map (fun z=>BM.mk z.1 z.2.1) (fun _ _=>trivial) (fun _=>rfl)
theorem cr:E6 prog 42 (fun z:ABz=>(∀x∈z.l,x.Cb.small)∧z.l.length≤140737488355328∧z.r.length≤140737488355328∧z.d.length≤140737488355328∧z.st.length≤140737488355328∧z.tr.length≤140737488355328) AJT:=
 (Cr underlying42 Ak (Ap (c:=3) rfl Ak (Cr underlying35 Ak (Ap (c:=1) rfl Ak (Ed (b:=80) underlying32 Ak Ak ck) (Ap (c:=1) rfl Ak (Ed (b:=16) underlying33 Ak Ak cq) (Ap (c:=1) rfl Ak (Ed (b:=8) underlying22 Ak Ak b3) (Dg _ _))))) (Ap (c:=1) rfl Ak b3 (Ap (c:=1) rfl Ak (Ed (b:=8) underlying22 Ak Ak b3) (Ap (c:=1) rfl Ak (Ed (b:=8) underlying22 Ak Ak b3) (Ap (c:=1) rfl Ak ((Rf underlying4).w) (Dg _ _))))))).map (fun z=>ABz.mk z.1.1 z.1.2.1 z.1.2.2.1 z.2.1 z.2.2.1 z.2.2.2.1 z.2.2.2.2.1)
  (fun z h=>by
   obtain ⟨⟨⟨h1,-,h2⟩,⟨-,-,h3⟩,⟨-,-,h4⟩,-⟩,-,⟨-,-,h5⟩,⟨-,-,h6⟩,-⟩:=h
   unfold reachBytes at h2 h3 h4 h5 h6
   exact ⟨fun x hx=>(h1 x hx).2,by show z.1.1.length≤_;omega,by show z.1.2.1.length≤_;omega,by show z.1.2.2.1.length≤_;omega,by show z.2.2.1.length≤_;omega,by show z.2.2.2.1.length≤_;omega⟩) (fun _=>rfl)
theorem O1 (os:Os) (started:os.Started) (H:Type) (enc:TypeId×Value→H):
  ReturnsInHanded {} Tryz.checked os 7 .any (fun w args=>(runnerAllSpec.pre enc prog Tryz.f7 [] false w args∧laidMetH prog LDq w)∧sizedMet enc prog Tryz.f7 (OpenSpec.ofChange runnerAllSpec) false w args) (runnerAllSpec.post enc prog Tryz.f7 false true false false):=by
 refine returnsInHanded_of_change_and (C:=Tryz.checked) (X:=fun w _=>laidMetH prog LDq w) (fun _ _ _ hh h=>h.of_heap hh) AIb started Ak func7
  (ChangeSpec.witness_shaped (enc:=enc) (C:=Tryz.checked) (os:=os) (X:=fun w _=>laidMetH prog LDq w) false (World.doorLaid prog 14 os) #[.slice none 0 0, .agg #[.slice none 0 0, .slice none 0 0, .slice none 0 0, .int .i64 0, .slice none 0 0, .slice none 0 0, .bool false], .int .i64 0] 8 rfl (World.shaped_of_RefB Ak Ak) Ak Ak Ak (uG os _)) ?_
 intro W base args ds gs before AF5 hW AKo hwt hL _
 have hval:∀(j:Nat) t v,Tryz.f7.params[j]? =some t→args[j]? =some v→Value.okWide prog W .any base t v:=AF5
 have hW':=hW
 obtain ⟨p,q,hA0,hV,hpq,hfz,hnd⟩:=hW
 have hA:DataW.TrodAll enc prog W 0 (fun _=>true) true Tryz.f7.params.toList args.toList ds p:=hA0
 have hA':=hA
 rw [params7] at hA hval
 obtain ⟨v0,v1,v2,d0,d1,d2,p0,p1,p2,rfl,rfl,hp,h0,h1,h2⟩:=trodAll_three hA'
 obtain ⟨rfl,rfl⟩:=trodVars_none hV
 obtain ⟨a0,_,e0⟩:=ZH ((aD underlying22 underlying3 Ak).w) h0 (TN hwt (i:=0) Ak rfl) (by obtain ⟨_,_,_,rfl⟩:=okWide_slice underlying22 (hval 0 22 v0 rfl rfl);rfl)
 obtain ⟨a1,hr,e1⟩:=uF (cr) h1 (TN hwt (i:=1) Ak rfl) (by obtain ⟨cs,rfl,_⟩:=okWide_struct underlying42 (hval 1 42 v1 rfl rfl);exact ⟨_,rfl⟩)
 obtain ⟨a2,_,e2⟩:=ZH b3 h2 (TN hwt (i:=2) Ak rfl) (by obtain ⟨_,rfl⟩:=okWide_int underlying3 (hval 2 3 v2 rfl rfl);rfl)
 refine (BP.xN (ZG hr.1 hr.2) rfl W [v0,v1,v2] (ABy hL) ⟨e0,e1,e2,trivial⟩).mono fun e W' ⟨v,he,hv,hb⟩=> ?_
 subst he
 obtain rfl:v= .bool true:=hv
 exact ⟨_,rfl,nN pK Ak rfl underlying4 rfl hA' (by rw [hpq];simp) hW' rfl hb⟩
theorem O2:(runnerAllRow.inPlace==Tryz.pinned.checked.prog.inPlace 7)=true:=by kernel_rfl
theorem O3:(runnerAllRow.unfollowed==Tryz.pinned.checked.prog.unfollowed 7)=true:=by kernel_rfl
theorem O4:(runnerAllRow.recurses==Tryz.pinned.checked.prog.recurses 7)=true:=by kernel_rfl
theorem O5:(runnerAllRow.named==Tryz.pinned.checked.prog.varsNamed 7)=true:=by kernel_rfl
theorem Px:joinedFacts Tryz.pinned.checked.prog 7 Tryz.f7 runnerAllSpec runnerAllRow=true:=by
 unfold joinedFacts
 rw [O2,O3,O4,O5]
 kernel_rfl
theorem AJx:RunnerAllSaid:=
 OpenClaim.holds_of_wide 7 Tryz.f7 rfl rfl rfl rfl rfl rfl rfl ⟨rfl,rfl,rfl,rfl,rfl⟩ rfl rfl rfl rfl rfl Ak func7 Px
  (of_decide_eq_true Ak) (by unfold Func.isWrapper;first|(rw [if_pos (by decide+kernel)];kernel_rfl)|(rw [if_neg (by decide+kernel)];exact ⟨rfl,rfl⟩))
  (fun os started H enc _=>O1 os started H enc)
theorem W9:runnerAllRow.wfByText (OpenSpec.ofChange runnerAllSpec)=true:=by kernel_rfl
theorem W_:Tryz.pinned.checked.prog.mainIs=some (runnerAllCard.stood.harness.1,runnerAllCard.stood.harness.2.toList):=by kernel_rfl
theorem XA:prog.funcNamed "cipherplan/cipherplanlaw37.RunnerAll" = some 7:=by kernel_rfl
theorem XB:false=Tryz.pinned.checked.prog.looks []:=by kernel_rfl
theorem XC:false=runnerAllRow.goesBy Tryz.pinned.checked.prog:=by kernel_rfl
theorem XD:([22,42,3].all fun u=> !prog.wantsStandIn u)=true:=by kernel_rfl
theorem runnerAll_card_holds:Rows.RunnerAllCardSaid:=
 Claim7.holds_tied_plain_at .later [] [.data] true runnerAllCard.stood.harness false AJx (fun _ h=>by cases h) W9 (fun _ h=>by cases h) runnerAll_row_tie rfl ⟨rfl,rfl⟩ W_ rfl
  (fun f fn hf hfn=>by
   obtain rfl:f=7:=Option.some.inj (XA.symm.trans hf)|>.symm
   obtain rfl:fn=Tryz.f7:=(Option.some.inj (func7.symm.trans hfn)).symm
   exact ⟨XB,fun j t ht=>by
    rw [params7] at ht
    have hm:t∈[22,42,3]:=by simpa using Array.mem_of_getElem? ht
    exact (show prog.wantsStandIn t=false by simpa using List.all_eq_true.1 XD t hm)⟩)
  XC
end Go.Proofs.YtmocaapoeefgkaaGreatDoor
