/-
  Part 4 of the texts that prove this claim, merged.
-/
import Derived.Test.YtmpglcehonnpkaaGreatPnGP3
set_option linter.all false
set_option maxRecDepth 40000
set_option maxHeartbeats 16000000
namespace Go.Proofs.YtmpglcehonnpkaaGreat
open Go Go.RowKit Cp Go.Proofs.Tryz
def eY (n:Nat):Bool:=decide ((97≤n∧n≤122)∨(65≤n∧n≤90)∨(48≤n∧n≤57)∨n=45∨n=95∨n=46)
theorem Tx:∀n∈List.range 256,Iy [45,95,46] (UInt8.ofNat n)=eY n:=by decide+kernel
theorem PZ (c:UInt8):Iy [45,95,46] c=eY c.toNat:=by
 have h:=Tx c.toNat (List.mem_range.2 c.toNat_lt)
 rw [UInt8.ofNat_toNat] at h;exact h
theorem ZX {s:List UInt8}  :Az prog 59 [str s] (bool (Ly s)):=by
 refine fo func59 rfl ⟨rfl,rfl⟩ fun M0 w0=> ?_
 refine ac ?_
 refine ag ?_ ?_<;>intro h1 q1
 refine a3 ?_
 · refine bool_eq ?_;unfold Ly;rw [Bool.and_eq_false_iff.2 (.inr (by simp;omega))]
 refine an ?_ ?_<;>intro h2 q2
 refine a2 ?_
 · refine bool_eq ?_;unfold Ly;rw [Bool.and_eq_false_iff.2 (.inr (by simp;omega))]
 refine a2 ?_
 refine Tr.block (Tr.A7 [(0,_)] ⟨ke rfl,trivial⟩ (fun k:Nat=>[(3,int ((k:Nat):Int))]) (fun k:Nat=>k≤(s).length∧(∀j y,j<k→s[j]? =some y→(!Iy [45,95,46] y)=false)) (fun k:Nat=>(s).length-k) 0 (⟨Nat.zero_le _,fun j y hj=>absurd hj (by omega)⟩) ⟨ke rfl,trivial⟩ ?_)
 rintro k ⟨BN,Ab⟩
 refine an ?_ ?_<;>intro h3 q3
 have Af:k<(s).length:=AH h3
 obtain ⟨c,Ad⟩:=at_ Af
 · repeat' first|(refine bool_eq ?_;unfold Ly;rw [Qe (p:=Iy [45,95,46]) Ad (by rw [PZ];unfold eY;simp;omega)];rfl)|(exact Fin.AM (k+1) ⟨⟨Af,EM (p:=fun c=> !Iy [45,95,46] c) Ad (by rw [PZ];unfold eY;simp;omega) Ab⟩,by omega⟩ ⟨⟨_,rfl,AD k⟩,ke rfl,trivial⟩)|refine co rfl (QW rfl underlying9 (vl rfl) (vl rfl) (by omega) (QX (by assumption))) ?_|refine ac ?_|(refine Tr.cn rfl ?_ ?_<;>intro h q)|(refine Ch.cg rfl rfl rfl ?_ ?_<;>intro h q)
 have BI:k=(s).length:=by have:=AJ h3;omega
 subst BI
 refine a3 ?_
 · refine bool_eq ?_;unfold Ly;rw [KR Ab,Bool.true_and];symm;rw [decide_eq_true_eq];omega
theorem BO {a b:Int}  :Az prog 112 [int a,int b] (agg [int a,int b]):=by
 refine fo func112 rfl ⟨rfl,rfl⟩ fun M0 w0=>(Tr.seq (Tr.An ?_))
 refine Tl rfl rfl rfl rfl z72 De (fun b1=> ?_)
 refine ap ?_
 refine ap ?_
 refine Tr.ret (Fin.CJ rfl (AP.cell 0 rfl rfl Hu JA rfl (Lr)) ?_)
 · exact Lr
theorem CH {a l m x1 y1 x2 y2 x3 y3 x4 y4:Int} {s:List UInt8}  :Az prog 113 [int a,str s,agg [int x1,int y1],agg [int x2,int y2],agg [int x3,int y3],agg [int x4,int y4],int l,int m] (agg Co):=by
 refine Az.of func113 rfl rfl (by exact Nb rfl) fun M0 w0=> ?_
 refine Tr.seq (Tr.An ?_)
 iterate 4 refine tp rfl (BZ rfl (Va rfl)) ?_
 refine Tl rfl rfl rfl rfl z148 G3 (fun b1=> ?_)
 refine TO.nil (Fin.go (Tr.seq (Tr.An (tm rfl (tm rfl ?_)))))
 iterate 4 refine tp rfl (AR rfl Hu JA (vl rfl) rfl rfl) ?_
 refine tm rfl (tm rfl (tp rfl (Ai (rows:=[(0,[_]),(1,[_]),(2,_),(3,_),(4,_),(5,_),(6,[_]),(7,[_])]) rfl Rm G3 ⟨⟨rfl,(Vo rfl)⟩,⟨⟨rfl,(Vo rfl)⟩,⟨⟨rfl,(Va rfl)⟩,⟨⟨rfl,(Va rfl)⟩,⟨⟨rfl,(Va rfl)⟩,⟨⟨rfl,(Va rfl)⟩,⟨⟨rfl,(Vo rfl)⟩,⟨⟨rfl,(Vo rfl)⟩,trivial⟩⟩⟩⟩⟩⟩⟩⟩ rfl) (TO.re 25 (agg Co) rfl (Qg rfl) (TO.AK 0 rfl rfl rfl (vl rfl) (Va rfl) rfl Ep rfl rfl (TO.nil (Fin.go (Eh 16 rfl (Tr.ret (Fin.CJ rfl (AP.cell 0 rfl rfl HS Ep rfl (Lr)) ?_)))))))))
 · exact Lr
theorem Ty   :Az prog 86 [] (slice 12 KT):=by
 refine fo func86 rfl ⟨rfl,rfl⟩ fun M0 w0=> ?_
 refine ac ?_
 refine Tr.seq (Tr.An (tp rfl (CS (BO) rfl rfl rfl) (tp rfl (CS (BO) rfl rfl rfl) (tp rfl (Ai (rows:=[]) rfl jo De trivial rfl) ?_))))
 refine Tl rfl rfl rfl rfl z72 De (fun b1=> ?_)
 refine Tl rfl rfl rfl rfl z72 De (fun b2=> ?_)
 refine Tl rfl rfl rfl rfl z72 De (fun b3=> ?_)
 refine sf 2 1 ⟨rfl,rfl,rfl⟩ rfl rfl rfl rfl ?_
 refine sf 1 2 ⟨rfl,rfl,rfl⟩ rfl rfl rfl rfl ?_
 refine sf 0 3 ⟨rfl,rfl,rfl⟩ rfl rfl rfl rfl ?_
 refine ao ?_
 refine Tr.seq (Tr.An (tp rfl (CS (BO) rfl rfl rfl) (tp rfl (CS (BO) rfl rfl rfl) ?_)))
 refine Tl rfl rfl rfl rfl z72 De (fun b4=> ?_)
 refine Tl rfl rfl rfl rfl z72 De (fun b5=> ?_)
 refine sf 1 4 ⟨rfl,rfl,rfl⟩ rfl rfl rfl rfl ?_
 refine sf 0 5 ⟨rfl,rfl,rfl⟩ rfl rfl rfl rfl ?_
 refine ao ?_
 refine JV 1 2 3 4 5 rfl (Tr.seq (Tr.An (tp rfl (CS (BO) rfl rfl rfl) (tp rfl (CS (BO) rfl rfl rfl) (tp rfl (CS (BO) rfl rfl rfl) ?_)))))
 refine Tl rfl rfl rfl rfl z72 De (fun b6=> ?_)
 refine Tl rfl rfl rfl rfl z72 De (fun b7=> ?_)
 refine Tl rfl rfl rfl rfl z72 De (fun b8=> ?_)
 refine sf 2 6 ⟨rfl,rfl,rfl⟩ rfl rfl rfl rfl ?_
 refine sf 1 7 ⟨rfl,rfl,rfl⟩ rfl rfl rfl rfl ?_
 refine sf 0 8 ⟨rfl,rfl,rfl⟩ rfl rfl rfl rfl ?_
 refine ao ?_
 refine Jx 1 2 3 4 5 6 7 8 rfl (Tr.seq (Tr.An ?_))
 iterate 4 refine tp rfl (CS (BO) rfl rfl rfl) ?_
 refine Tl rfl rfl rfl rfl z72 De (fun b9=> ?_)
 refine Tl rfl rfl rfl rfl z72 De (fun b10=> ?_)
 refine Tl rfl rfl rfl rfl z72 De (fun b11=> ?_)
 refine Tl rfl rfl rfl rfl z72 De (fun b12=> ?_)
 refine sf 3 9 ⟨rfl,rfl,rfl⟩ rfl rfl rfl rfl ?_
 refine sf 2 10 ⟨rfl,rfl,rfl⟩ rfl rfl rfl rfl ?_
 refine sf 1 11 ⟨rfl,rfl,rfl⟩ rfl rfl rfl rfl ?_
 refine sf 0 12 ⟨rfl,rfl,rfl⟩ rfl rfl rfl rfl ?_
 refine ao ?_
 refine ND 1 2 3 4 5 6 7 8 9 10 11 12 rfl (Tr.seq (Tr.An (tp rfl (CS (BO) rfl rfl rfl) (tp rfl (CS (BO) rfl rfl rfl) ?_))))
 refine Tl rfl rfl rfl rfl z72 De (fun b13=> ?_)
 refine Tl rfl rfl rfl rfl z72 De (fun b14=> ?_)
 refine sf 1 13 ⟨rfl,rfl,rfl⟩ rfl rfl rfl rfl ?_
 refine sf 0 14 ⟨rfl,rfl,rfl⟩ rfl rfl rfl rfl ?_
 refine ao ?_
 refine MF 1 2 3 4 5 6 7 8 9 10 11 12 13 14 rfl ?_
 refine ac ?_
 refine co rfl (AQ rfl (CH) ⟨ke rfl,ke rfl,ke rfl,ke rfl,ke rfl,ke rfl,ke rfl,ke rfl,trivial⟩) ?_
 refine ac ?_
 refine co rfl (AQ rfl (CH) ⟨ke rfl,ke rfl,ke rfl,ke rfl,ke rfl,ke rfl,ke rfl,ke rfl,trivial⟩) ?_
 refine ac ?_
 refine co rfl (AQ rfl (CH) ⟨ke rfl,ke rfl,ke rfl,ke rfl,ke rfl,ke rfl,ke rfl,ke rfl,trivial⟩) (co rfl (CS (BO) rfl rfl rfl) (co rfl (CS (BO) rfl rfl rfl) ?_))
 refine ac ?_
 refine co rfl (AQ rfl (CH) ⟨ke rfl,ke rfl,ke rfl,ke rfl,ke rfl,ke rfl,ke rfl,ke rfl,trivial⟩) (co rfl (CS (BO) rfl rfl rfl) ?_)
 refine ac ?_
 refine co rfl (AQ rfl (CH) ⟨ke rfl,ke rfl,ke rfl,ke rfl,ke rfl,ke rfl,ke rfl,ke rfl,trivial⟩) ?_
 refine ac ?_
 refine co rfl (AQ rfl (CH) ⟨ke rfl,ke rfl,ke rfl,ke rfl,ke rfl,ke rfl,ke rfl,ke rfl,trivial⟩) (co rfl (CS (BO) rfl rfl rfl) ?_)
 refine ac ?_
 refine co rfl (AQ rfl (CH) ⟨ke rfl,ke rfl,ke rfl,ke rfl,ke rfl,ke rfl,ke rfl,ke rfl,trivial⟩) ?_
 refine ac ?_
 refine co rfl (AQ rfl (CH) ⟨ke rfl,ke rfl,ke rfl,ke rfl,ke rfl,ke rfl,ke rfl,ke rfl,trivial⟩) (co rfl (AR rfl Hu JA (vl rfl) rfl rfl) (co rfl (CS (BO) rfl rfl rfl) (co rfl (CS (BO) rfl rfl rfl) (co rfl (AR rfl Hu JA (vl rfl) rfl rfl) (co rfl (AQ rfl (CH) ⟨ke rfl,ke rfl,ke rfl,ke rfl,ke rfl,ke rfl,ke rfl,ke rfl,trivial⟩) ?_)))))
 refine ac ?_
 refine co rfl (AQ rfl (CH) ⟨ke rfl,ke rfl,ke rfl,ke rfl,ke rfl,ke rfl,ke rfl,ke rfl,trivial⟩) (co rfl (CS (BO) rfl rfl rfl) (co rfl (CS (BO) rfl rfl rfl) ?_))
 refine ac ?_
 refine co rfl (AQ rfl (CH) ⟨ke rfl,ke rfl,ke rfl,ke rfl,ke rfl,ke rfl,ke rfl,ke rfl,trivial⟩) ?_
 refine ac ?_
 refine co rfl (AQ rfl (CH) ⟨ke rfl,ke rfl,ke rfl,ke rfl,ke rfl,ke rfl,ke rfl,ke rfl,trivial⟩) ?_
 refine ac ?_
 refine co rfl (AQ rfl (CH) ⟨ke rfl,ke rfl,ke rfl,ke rfl,ke rfl,ke rfl,ke rfl,ke rfl,trivial⟩) ?_
 refine ac ?_
 refine co rfl (AQ rfl (CH) ⟨ke rfl,ke rfl,ke rfl,ke rfl,ke rfl,ke rfl,ke rfl,ke rfl,trivial⟩) ?_
 refine ac ?_
 refine co rfl (AQ rfl (CH) ⟨ke rfl,ke rfl,ke rfl,ke rfl,ke rfl,ke rfl,ke rfl,ke rfl,trivial⟩) (co rfl (CS (BO) rfl rfl rfl) ?_)
 refine ac ?_
 refine co rfl (AQ rfl (CH) ⟨ke rfl,ke rfl,ke rfl,ke rfl,ke rfl,ke rfl,ke rfl,ke rfl,trivial⟩) (co rfl (AL (xs:=[.tmp 33,.tmp 38,.tmp 43,.tmp 48,.tmp 53,.tmp 58,.tmp 63,.tmp 68,.tmp 73,.tmp 78,.tmp 83,.tmp 88,.tmp 93,.tmp 98,.tmp 103,.tmp 108]) (rows:=KT) rfl rfl underlying190 Ep z148 rfl (by decide) ⟨⟨(by exact rfl),VL.le (vl rfl) (Aa _)⟩,⟨⟨(by exact rfl),VL.le (vl rfl) (Aa _)⟩,⟨⟨(by exact rfl),VL.le (vl rfl) (Aa _)⟩,⟨⟨(by exact rfl),VL.le (vl rfl) (Aa _)⟩,⟨⟨(by exact rfl),VL.le (vl rfl) (Aa _)⟩,⟨⟨(by exact rfl),VL.le (vl rfl) (Aa _)⟩,⟨⟨(by exact rfl),VL.le (vl rfl) (Aa _)⟩,⟨⟨(by exact rfl),VL.le (vl rfl) (Aa _)⟩,⟨⟨(by exact rfl),VL.le (vl rfl) (Aa _)⟩,⟨⟨(by exact rfl),VL.le (vl rfl) (Aa _)⟩,⟨⟨(by exact rfl),VL.le (vl rfl) (Aa _)⟩,⟨⟨(by exact rfl),VL.le (vl rfl) (Aa _)⟩,⟨⟨(by exact rfl),VL.le (vl rfl) (Aa _)⟩,⟨⟨(by exact rfl),VL.le (vl rfl) (Aa _)⟩,⟨⟨(by exact rfl),VL.le (vl rfl) (Aa _)⟩,⟨⟨(by exact rfl),VL.le (vl rfl) (Aa _)⟩,trivial⟩⟩⟩⟩⟩⟩⟩⟩⟩⟩⟩⟩⟩⟩⟩⟩ (by decide)) ?_)
 refine ac ?_
 refine Eh 0 rfl ?_
 refine ac ?_
 · exact Bp _ _
theorem Wk {code:Int}  :Az prog 60 [int code] (EI [agg Co,int (if 1≤code∧code≤16 then 0 else 8)]):=by
 refine fo func60 rfl ⟨rfl,rfl⟩ fun M0 w0=>(Tr.seq (Tr.An ?_))
 refine Tl rfl rfl rfl rfl z148 G3 (fun b1=> ?_)
 refine ap ?_
 refine ag ?_ ?_<;>intro h1 q1
 refine ac ?_
 refine Tr.cond rfl (fun _=> ?_) (fun h=>nomatch h)
 refine Tr.seq (Tr.An (tp rfl (Ai (rows:=[]) rfl Rm G3 trivial rfl) (TO.AK 0 rfl rfl rfl (vl rfl) (Va rfl) rfl Ep rfl rfl (tm rfl (TO.nil (Fin.go (Tr.ret (Fin.AB (Fin.BD rfl (AP.cell 0 rfl rfl HS Ep rfl (Lr)) (AP.tmp rfl (Lr)) ?_)))))))))
 · exact Am ⟨Qg rfl,int_eq (by rw [if_neg];simp_all;omega),trivial⟩
 refine an ?_ ?_<;>intro h2 q2
 refine ap ?_
 refine Tr.ret (Fin.AB (Fin.BD rfl (AP.cell 0 rfl rfl HS Ep rfl (Lr)) (AP.tmp rfl (Lr)) ?_))
 · exact Am ⟨Qg rfl,int_eq (by rw [if_neg];simp_all),trivial⟩
 have hin:1≤code∧code≤16:=by omega
 refine ac ?_
 refine Tr.seq (Tr.An (tp rfl (kc0 (Ty) rfl) ?_))
 refine ap ?_
 refine tp rfl (AA rfl underlying190 Ep (vl rfl) (vl rfl) (by omega) (ZG (by omega))) ?_
 refine ap ?_
 refine CY 2 3 rfl (Tr.ret (Fin.BD rfl (AP.cell 0 rfl rfl HS Ep rfl (Lr)) (AP.tmp rfl (Lr)) ?_))
 · exact Am ⟨Lr,int_eq (by rw [if_pos hin]),trivial⟩
theorem IX {l:List Int} {v:Int}  :Az prog 61 [ints l,int v] (bool (l.any fun x=>v==x)):=by
 refine fo func61 rfl ⟨rfl,rfl⟩ fun M0 w0=>(Tr.C8 0 rfl fun Et=> ?_)
 refine a2 ?_
 refine Tr.block (Tr.A7 [(0,_),(1,_)] (O9 rfl) (fun k:Nat=>[(5,int ((k:Nat):Int))]) (fun k:Nat=>k≤(l).length∧((l.take k).any (fun x=>v==x)=false)) (fun k:Nat=>(l).length-k) 0 (⟨Nat.zero_le _,rfl⟩) ⟨ke rfl,trivial⟩ ?_)
 rintro k ⟨BN,Ab⟩
 refine an ?_ ?_<;>intro h1 q1
 have Af:k<(l).length:=AH h1
 obtain ⟨x,Ad⟩:=at_ Af
 · repeat' first|(refine bool_eq ?_;symm;rw [List.any_eq_true];exact ⟨_,List.mem_of_getElem? Ad,by simp_all⟩)|(exact Fin.AM (k+1) ⟨⟨Af,(by rw [List.take_add_one,Ad,List.any_append,Ab];simp;omega)⟩,by omega⟩ ⟨⟨_,rfl,AD k⟩,ke rfl,ke rfl,trivial⟩)|refine co rfl (AA rfl underlying22 Bh (vl rfl) (vl rfl) (by omega) (by exact AO (by assumption))) ?_|refine ac ?_|(refine Tr.cn rfl ?_ ?_<;>intro h q)
 have BI:k=(l).length:=by have:=AJ h1;omega
 subst BI
 refine a3 ?_
 · refine bool_eq ?_;rw [List.take_length] at Ab;exact Ab.symm
theorem BH {l:List (List UInt8)}:F0 l=true↔(∀j,j<l.length→nameAt l j=true)∧l.length≤8:=by unfold F0;rw [Bool.and_eq_true,Bv,decide_eq_true_eq]
theorem I2 {l:List (List UInt8)} {k:Nat} {s:List UInt8} (hs:l[k]? =some s) (h1:named s=true) (h2:0<k→∃y,l[k-1]? =some y∧Lib.compareBytes y s= -1):nameAt l k=true:=by
 unfold nameAt;rw [hs];simp only [Option.getD_some,h1,Bool.true_and,Bool.or_eq_true,decide_eq_true_eq]
 rcases Nat.eq_zero_or_pos k with h0|h0
 · exact .inl h0
 · obtain ⟨y,hy,hc⟩:=h2 h0;rw [hy];exact .inr hc
theorem Jf {c:Hx}  :Az prog 56 [agg (Es c)] (int (if DI c then 0 else 9)):=by
 refine fo func56 rfl ⟨rfl,rfl⟩ fun M0 w0=> ?_
 refine ac ?_
 refine ag ?_ ?_<;>intro h1 q1
 refine ac ?_
 refine CY 1 39 rfl ?_
 refine a2 ?_
 · refine int_eq (if_neg (fun hv=> ?_)).symm;have vf:=DK hv;obtain ⟨GC,GD,Dy,Dz,Cg,B0,GF,GG,BT,D3,D4,D5,D6,GH,GI,GJ,GK,GL,GM⟩:=vf;have GN:=(BH.1 Cg).2;unfold Fc at B0 BT;omega
 refine ag ?_ ?_<;>intro h2 q2
 refine ac ?_
 refine CY 1 39 rfl ?_
 refine a2 ?_
 · refine int_eq (if_neg (fun hv=> ?_)).symm;have vf:=DK hv;obtain ⟨GC,GD,Dy,Dz,Cg,B0,GF,GG,BT,D3,D4,D5,D6,GH,GI,GJ,GK,GL,GM⟩:=vf;have GN:=(BH.1 Cg).2;unfold Fc at B0 BT;omega
 refine ac ?_
 refine cy h2 rfl (Ce (Fb) rfl rfl) ?_
 refine ag ?_ ?_<;>intro h3 q3
 refine ac ?_
 refine CY 1 39 rfl ?_
 refine a2 ?_
 · refine int_eq (if_neg (fun hv=> ?_)).symm;have vf:=DK hv;obtain ⟨GC,GD,Dy,Dz,Cg,B0,GF,GG,BT,D3,D4,D5,D6,GH,GI,GJ,GK,GL,GM⟩:=vf;have GN:=(BH.1 Cg).2;unfold Fc at B0 BT;simp_all
 refine ac ?_
 refine cy h3 rfl (Ce (Fb) rfl rfl) ?_
 refine ag ?_ ?_<;>intro h4 q4
 refine ac ?_
 refine CY 1 39 rfl ?_
 refine a2 ?_
 · refine int_eq (if_neg (fun hv=> ?_)).symm;have vf:=DK hv;obtain ⟨GC,GD,Dy,Dz,Cg,B0,GF,GG,BT,D3,D4,D5,D6,GH,GI,GJ,GK,GL,GM⟩:=vf;have GN:=(BH.1 Cg).2;unfold Fc at B0 BT;simp_all
 refine ac ?_
 refine cy h4 rfl (Ce (IM) rfl rfl) ?_
 refine ag ?_ ?_<;>intro h5 q5
 refine ac ?_
 refine CY 1 39 rfl ?_
 refine a2 ?_
 · refine int_eq (if_neg (fun hv=> ?_)).symm;have vf:=DK hv;obtain ⟨GC,GD,Dy,Dz,Cg,B0,GF,GG,BT,D3,D4,D5,D6,GH,GI,GJ,GK,GL,GM⟩:=vf;have GN:=(BH.1 Cg).2;unfold Fc at B0 BT;simp_all
 refine ag ?_ ?_<;>intro h6 q6
 refine ac ?_
 refine CY 1 39 rfl ?_
 refine a2 ?_
 · refine int_eq (if_neg (fun hv=> ?_)).symm;have vf:=DK hv;obtain ⟨GC,GD,Dy,Dz,Cg,B0,GF,GG,BT,D3,D4,D5,D6,GH,GI,GJ,GK,GL,GM⟩:=vf;have GN:=(BH.1 Cg).2;unfold Fc at B0 BT;omega
 refine ac ?_
 refine CY 1 39 rfl ?_
 refine Tr.cn rfl ?_ ?_<;>intro h7 q7
 refine a2 ?_
 · refine int_eq (if_neg (fun hv=> ?_)).symm;have vf:=DK hv;obtain ⟨GC,GD,Dy,Dz,Cg,B0,GF,GG,BT,D3,D4,D5,D6,GH,GI,GJ,GK,GL,GM⟩:=vf;have GN:=(BH.1 Cg).2;unfold Fc at B0 BT;omega
 refine a2 ?_
 refine co rfl (Ce (IL) rfl rfl) ?_
 refine ag ?_ ?_<;>intro h8 q8
 refine ac ?_
 refine CY 1 67 rfl ?_
 refine a2 ?_
 · refine int_eq (if_neg (fun hv=> ?_)).symm;have vf:=DK hv;obtain ⟨GC,GD,Dy,Dz,Cg,B0,GF,GG,BT,D3,D4,D5,D6,GH,GI,GJ,GK,GL,GM⟩:=vf;have GN:=(BH.1 Cg).2;unfold Fc at B0 BT;simp_all;omega
 refine ac ?_
 refine cy h8 rfl (Ce (Ma) rfl rfl) ?_
 refine ag ?_ ?_<;>intro h9 q9
 refine ac ?_
 refine CY 1 67 rfl ?_
 refine a2 ?_
 · refine int_eq (if_neg (fun hv=> ?_)).symm;have vf:=DK hv;obtain ⟨GC,GD,Dy,Dz,Cg,B0,GF,GG,BT,D3,D4,D5,D6,GH,GI,GJ,GK,GL,GM⟩:=vf;have GN:=(BH.1 Cg).2;unfold Fc at B0 BT;simp_all
 refine ag ?_ ?_<;>intro h10 Oa
 refine ac ?_
 refine CY 1 67 rfl ?_
 refine a2 ?_
 · refine int_eq (if_neg (fun hv=> ?_)).symm;have vf:=DK hv;obtain ⟨GC,GD,Dy,Dz,Cg,B0,GF,GG,BT,D3,D4,D5,D6,GH,GI,GJ,GK,GL,GM⟩:=vf;have GN:=(BH.1 Cg).2;unfold Fc at B0 BT;omega
 refine ag ?_ ?_<;>intro h11 PR
 refine ac ?_
 refine CY 1 67 rfl ?_
 refine a2 ?_
 · refine int_eq (if_neg (fun hv=> ?_)).symm;have vf:=DK hv;obtain ⟨GC,GD,Dy,Dz,Cg,B0,GF,GG,BT,D3,D4,D5,D6,GH,GI,GJ,GK,GL,GM⟩:=vf;have GN:=(BH.1 Cg).2;unfold Fc at B0 BT;omega
 refine ac ?_
 refine CY 1 67 rfl ?_
 refine Tr.cn rfl ?_ ?_<;>intro h12 S6
 refine a2 ?_
 · refine int_eq (if_neg (fun hv=> ?_)).symm;have vf:=DK hv;obtain ⟨GC,GD,Dy,Dz,Cg,B0,GF,GG,BT,D3,D4,D5,D6,GH,GI,GJ,GK,GL,GM⟩:=vf;have GN:=(BH.1 Cg).2;unfold Fc at B0 BT;omega
 refine ac ?_
 refine ag ?_ ?_<;>intro MG Xt
 refine ac ?_
 refine CY 1 91 rfl ?_
 refine a2 ?_
 · refine int_eq (if_neg (fun hv=> ?_)).symm;have vf:=DK hv;obtain ⟨GC,GD,Dy,Dz,Cg,B0,GF,GG,BT,D3,D4,D5,D6,GH,GI,GJ,GK,GL,GM⟩:=vf;have GN:=(BH.1 Cg).2;unfold Fc at B0 BT;omega
 refine ag ?_ ?_<;>intro Ku eO
 refine ac ?_
 refine CY 1 91 rfl ?_
 refine a2 ?_
 · refine int_eq (if_neg (fun hv=> ?_)).symm;have vf:=DK hv;obtain ⟨GC,GD,Dy,Dz,Cg,B0,GF,GG,BT,D3,D4,D5,D6,GH,GI,GJ,GK,GL,GM⟩:=vf;have GN:=(BH.1 Cg).2;unfold Fc at B0 BT;omega
 refine ag ?_ ?_<;>intro Rf kY
 refine ag ?_ ?_<;>intro h16 kg
 refine ac ?_
 refine CY 1 91 rfl ?_
 refine a2 ?_
 · refine int_eq (if_neg (fun hv=> ?_)).symm;have vf:=DK hv;obtain ⟨GC,GD,Dy,Dz,Cg,B0,GF,GG,BT,D3,D4,D5,D6,GH,GI,GJ,GK,GL,GM⟩:=vf;have GN:=(BH.1 Cg).2;unfold Fc at B0 BT;simp_all
 refine ac ?_
 refine CY 1 91 rfl ?_
 refine Tr.cn rfl ?_ ?_<;>intro MH eG
 refine a2 ?_
 · refine int_eq (if_neg (fun hv=> ?_)).symm;have vf:=DK hv;obtain ⟨GC,GD,Dy,Dz,Cg,B0,GF,GG,BT,D3,D4,D5,D6,GH,GI,GJ,GK,GL,GM⟩:=vf;have GN:=(BH.1 Cg).2;unfold Fc at B0 BT;omega
 refine a2 ?_
 refine Tr.block (Tr.A7 [(1,_)] ⟨ke rfl,trivial⟩ (fun k:Nat=>[(3,int ((k:Nat):Int))]) (fun k:Nat=>k≤(c.names).length∧(∀j,j<k→nameAt c.names j=true)) (fun k:Nat=>(c.names).length-k) 0 (⟨Nat.zero_le _,fun j hj=>absurd hj (by omega)⟩) ⟨ke rfl,trivial⟩ ?_)
 rintro k ⟨BN,Ab⟩
 refine an ?_ ?_<;>intro OX kV
 have Af:k<(c.names).length:=AH OX
 obtain ⟨s,Ad⟩:=at_ Af
 refine a2 ?_
 refine co rfl (AA rfl underlying64 MI (vl rfl) (vl rfl) (by omega) (AO Ad)) (co rfl (DQ rfl MJ rfl) (co rfl (Ce (Fb) rfl rfl) ?_))
 refine ag ?_ ?_<;>intro bt q19
 refine ac ?_
 refine CR 1 3 123 rfl ?_
 refine a2 ?_
 · refine int_eq (if_neg (fun hv=> ?_)).symm;have vf:=DK hv;obtain ⟨GC,GD,Dy,Dz,Cg,B0,GF,GG,BT,D3,D4,D5,D6,GH,GI,GJ,GK,GL,GM⟩:=vf;have GN:=(BH.1 Cg).2;unfold Fc at B0 BT;have RM:=(BH.1 Cg).1 k (by omega);unfold nameAt at RM;simp_all
 refine ag ?_ ?_<;>intro OY nW
 have Jc:0<k:=by simpa using OY
 obtain ⟨y,hy⟩:=at_ (l:=c.names) (k:=k-1) (by omega)
 · repeat' first|(refine int_eq (if_neg (fun hv=> ?_)).symm;have vf:=DK hv;obtain ⟨GC,GD,Dy,Dz,Cg,B0,GF,GG,BT,D3,D4,D5,D6,GH,GI,GJ,GK,GL,GM⟩:=vf;have GN:=(BH.1 Cg).2;unfold Fc at B0 BT;have RM:=(BH.1 Cg).1 k (by omega);unfold nameAt at RM;simp_all)|(exact Fin.AM (k+1) ⟨⟨Af,(fun j hj=>by rcases Nat.lt_or_eq_of_le (Nat.le_of_lt_succ hj) with h_|h_;exact Ab j h_;(subst h_;refine I2 Ad (by simp_all) (fun h0=> ?_);exact ⟨y,hy,by simp_all⟩))⟩,by omega⟩ ⟨⟨_,rfl,AD k⟩,ke rfl,trivial⟩)|(refine cy OY rfl (AA rfl underlying64 MI (vl rfl) (vl rfl) (by omega) (by rw [show ((k:Nat):Int)-1=((k-1:Nat):Int) by omega];exact AO hy)) ?_)|refine cy OY rfl (AA rfl underlying64 MI (vl rfl) (vl rfl) (by omega) (AO Ad)) (cy OY rfl (DQ rfl MJ rfl) (cy OY rfl (NR rfl (vl rfl) (vl rfl)) ?_))|refine ac ?_|(refine Tr.cn rfl ?_ ?_<;>intro h q)
 have Jc:¬0<k:=by simpa using OY
 refine ac ?_
 refine CR 1 3 123 rfl ?_
 refine a2 ?_
 exact Fin.AM (k+1) ⟨⟨Af,(fun j hj=>by rcases Nat.lt_or_eq_of_le (Nat.le_of_lt_succ hj) with h_|h_;exact Ab j h_;(subst h_;refine I2 Ad (by simp_all) (fun h0=> ?_);exact absurd h0 Jc))⟩,by omega⟩ ⟨⟨_,rfl,AD k⟩,ke rfl,trivial⟩
 have BI:k=(c.names).length:=by have:=AJ OX;omega
 subst BI
 · repeat' first|(refine int_eq (if_neg (fun hv=> ?_)).symm;have vf:=DK hv;obtain ⟨GC,GD,Dy,Dz,Cg,B0,GF,GG,BT,D3,D4,D5,D6,GH,GI,GJ,GK,GL,GM⟩:=vf;have GN:=(BH.1 Cg).2;unfold Fc at B0 BT;omega)|(refine int_eq (if_pos (VT ⟨by omega,by omega,by simp_all,by simp_all,BH.2 ⟨Ab,by omega⟩,by unfold Fc;simp_all,by omega,by omega,by unfold Fc;simp_all,by omega,by omega,by omega,by omega,by omega,by omega,by omega,by omega,by omega,by right;omega⟩)).symm)|refine ac ?_|(refine Tr.cn rfl ?_ ?_<;>intro h q)|(refine Ch.cg rfl rfl rfl ?_ ?_<;>intro h q)
 refine ac ?_
 refine CY 1 91 rfl ?_
 refine Tr.cn rfl ?_ ?_<;>intro h26 q26
 refine a2 ?_
 · refine int_eq (if_neg (fun hv=> ?_)).symm;have vf:=DK hv;obtain ⟨GC,GD,Dy,Dz,Cg,B0,GF,GG,BT,D3,D4,D5,D6,GH,GI,GJ,GK,GL,GM⟩:=vf;have GN:=(BH.1 Cg).2;unfold Fc at B0 BT;omega
 refine a2 ?_
 refine Tr.block (Tr.A7 [(1,_)] ⟨ke rfl,trivial⟩ (fun k:Nat=>[(3,int ((k:Nat):Int))]) (fun k:Nat=>k≤(c.names).length∧(∀j,j<k→nameAt c.names j=true)) (fun k:Nat=>(c.names).length-k) 0 (⟨Nat.zero_le _,fun j hj=>absurd hj (by omega)⟩) ⟨ke rfl,trivial⟩ ?_)
 rintro k ⟨BN,Ab⟩
 refine an ?_ ?_<;>intro nX q27
 have Af:k<(c.names).length:=AH nX
 obtain ⟨s,Ad⟩:=at_ Af
 refine a2 ?_
 refine co rfl (AA rfl underlying64 MI (vl rfl) (vl rfl) (by omega) (AO Ad)) (co rfl (DQ rfl MJ rfl) (co rfl (Ce (Fb) rfl rfl) ?_))
 refine ag ?_ ?_<;>intro h28 q28
 refine ac ?_
 refine CR 1 3 123 rfl ?_
 refine a2 ?_
 · refine int_eq (if_neg (fun hv=> ?_)).symm;have vf:=DK hv;obtain ⟨GC,GD,Dy,Dz,Cg,B0,GF,GG,BT,D3,D4,D5,D6,GH,GI,GJ,GK,GL,GM⟩:=vf;have GN:=(BH.1 Cg).2;unfold Fc at B0 BT;have RM:=(BH.1 Cg).1 k (by omega);unfold nameAt at RM;simp_all
 refine ag ?_ ?_<;>intro Xv q29
 have Jc:0<k:=by simpa using Xv
 obtain ⟨y,hy⟩:=at_ (l:=c.names) (k:=k-1) (by omega)
 · repeat' first|(refine int_eq (if_neg (fun hv=> ?_)).symm;have vf:=DK hv;obtain ⟨GC,GD,Dy,Dz,Cg,B0,GF,GG,BT,D3,D4,D5,D6,GH,GI,GJ,GK,GL,GM⟩:=vf;have GN:=(BH.1 Cg).2;unfold Fc at B0 BT;have RM:=(BH.1 Cg).1 k (by omega);unfold nameAt at RM;simp_all)|(exact Fin.AM (k+1) ⟨⟨Af,(fun j hj=>by rcases Nat.lt_or_eq_of_le (Nat.le_of_lt_succ hj) with h_|h_;exact Ab j h_;(subst h_;refine I2 Ad (by simp_all) (fun h0=> ?_);exact ⟨y,hy,by simp_all⟩))⟩,by omega⟩ ⟨⟨_,rfl,AD k⟩,ke rfl,trivial⟩)|(refine cy Xv rfl (AA rfl underlying64 MI (vl rfl) (vl rfl) (by omega) (by rw [show ((k:Nat):Int)-1=((k-1:Nat):Int) by omega];exact AO hy)) ?_)|refine cy Xv rfl (AA rfl underlying64 MI (vl rfl) (vl rfl) (by omega) (AO Ad)) (cy Xv rfl (DQ rfl MJ rfl) (cy Xv rfl (NR rfl (vl rfl) (vl rfl)) ?_))|refine ac ?_|(refine Tr.cn rfl ?_ ?_<;>intro h q)
 have Jc:¬0<k:=by simpa using Xv
 refine ac ?_
 refine CR 1 3 123 rfl ?_
 refine a2 ?_
 exact Fin.AM (k+1) ⟨⟨Af,(fun j hj=>by rcases Nat.lt_or_eq_of_le (Nat.le_of_lt_succ hj) with h_|h_;exact Ab j h_;(subst h_;refine I2 Ad (by simp_all) (fun h0=> ?_);exact absurd h0 Jc))⟩,by omega⟩ ⟨⟨_,rfl,AD k⟩,ke rfl,trivial⟩
 have BI:k=(c.names).length:=by have:=AJ nX;omega
 subst BI
 · repeat' first|(refine int_eq (if_neg (fun hv=> ?_)).symm;have vf:=DK hv;obtain ⟨GC,GD,Dy,Dz,Cg,B0,GF,GG,BT,D3,D4,D5,D6,GH,GI,GJ,GK,GL,GM⟩:=vf;have GN:=(BH.1 Cg).2;unfold Fc at B0 BT;omega)|(refine int_eq (if_pos (VT ⟨by omega,by omega,by simp_all,by simp_all,BH.2 ⟨Ab,by omega⟩,by unfold Fc;simp_all,by omega,by omega,by unfold Fc;simp_all,by omega,by omega,by omega,by omega,by omega,by omega,by omega,by omega,by omega,by left;simp_all⟩)).symm)|refine ac ?_|(refine Tr.cn rfl ?_ ?_<;>intro h q)|(refine Ch.cg rfl rfl rfl ?_ ?_<;>intro h q)
theorem and1 {a b:Bool} (h:(a&&b)=true):a=true:=by simp at h;exact h.1
theorem k6 {a b:Bool} (h:(a&&b)=true):b=true:=by simp at h;exact h.2
theorem ZY:∀(n:Nat) (l:List Int),(∀x∈l,1≤x∧x≤(n:Int))→l.Nodup→l.length≤n
 |0,l,h,_=>by
  cases l with
  |nil=>exact Nat.le_refl _
  |cons a l=>have:=h a (List.mem_cons_self ..);omega
 |n+1,l,h,hn=>by
  have ih:=ZY n (l.erase ((n:Int)+1)) (fun x hx=>by
   have h1:=h x (List.mem_of_mem_erase hx)
   have h2:=(hn.mem_erase_iff.1 hx).1
   omega) (hn.erase _)
  rw [List.length_erase] at ih
  split at ih<;>omega
theorem E5 {l:List Int} (h:Iz l=true):l.length≤16:=by
 refine ZY 16 l (fun x hx=> ?_) ?_
 ·
  obtain ⟨j,hj⟩:=List.getElem?_of_mem hx
  have h1:=Bv.1 (show allI (FB l) l.length=true from h) j (A0 hj)
  unfold FB at h1;rw [getD_at hj] at h1
  have:=and1 h1
  simpa using this
 ·
  refine List.pairwise_iff_getElem.2 fun i j hi hj hij he=> ?_
  have:=Tw h (List.getElem?_eq_getElem hi) (by rw [he];exact List.getElem?_eq_getElem hj)
  omega
theorem ZZ {p:Int→Bool} {l:List Int} (h:∀j,j<l.length→p (l[j]?.getD 0)=true):l.all p=true:=List.all_eq_true.2 fun x hx=>by
 obtain ⟨j,hj⟩:=List.getElem?_of_mem hx
 have:=h j (A0 hj)
 rw [getD_at hj] at this;exact this
theorem Wl {Bq bits id:Int} {l:List Hx}  :Az prog 62 [agg [int Bq,int bits],int id,Lx l] (bool (Qf Bq bits id l)):=by
 refine fo func62 rfl ⟨rfl,rfl⟩ fun M0 w0=>(Tr.C8 2 rfl fun Za=> ?_)
 refine a2 ?_
 refine co rfl (Ce (IM) rfl rfl) ?_
 refine ag ?_ ?_<;>intro h1 q1
 refine ac ?_
 refine D7 1 2 3 23 rfl ?_
 refine a2 ?_
 · refine bool_eq ?_;rw [ET];unfold Fc Fz;simp_all
 refine ag ?_ ?_<;>intro h2 q2
 refine ac ?_
 refine D7 1 2 3 23 rfl ?_
 refine a2 ?_
 · refine bool_eq ?_;rw [ET];unfold Fc Fz;simp_all;omega
 refine ag ?_ ?_<;>intro h3 q3
 refine ac ?_
 refine D7 1 2 3 23 rfl ?_
 refine a2 ?_
 · refine bool_eq ?_;rw [ET];unfold Fc Fz;simp_all;omega
 refine ac ?_
 refine D7 1 2 3 23 rfl ?_
 refine Tr.cn rfl ?_ ?_<;>intro h4 q4
 refine a2 ?_
 · refine bool_eq ?_;rw [ET];unfold Fc Fz;simp_all;omega
 refine a2 ?_
 refine Tr.block (Tr.A7 [(1,_),(2,_),(3,_)] (MW rfl) (fun k:Nat=>[(7,int ((k:Nat):Int))]) (fun k:Nat=>k≤(l).length∧(∀j y,j<k→l[j]? =some y→(!DI y)=false)) (fun k:Nat=>(l).length-k) 0 (⟨Nat.zero_le _,fun j y hj=>absurd hj (by omega)⟩) ⟨ke rfl,trivial⟩ ?_)
 rintro k ⟨BN,Ab⟩
 refine an ?_ ?_<;>intro h5 q5
 have Af:k<(l).length:=AH h5
 obtain ⟨c,Ad⟩:=at_ Af
 · repeat' first|(refine bool_eq ?_;rw [ET];unfold Fc Fz;rw [Qe (p:=DI) Ad (by simp_all)];simp)|exact Fin.AM (k+1) ⟨⟨Af,EM (p:=fun c=> !DI c) Ad (by simp_all) Ab⟩,by omega⟩ ⟨⟨_,rfl,AD k⟩,ke rfl,ke rfl,ke rfl,trivial⟩|refine co rfl (AA rfl underlying73 Dl (vl rfl) (vl rfl) (by omega) (AO Ad)) (co rfl (AR rfl Gk Dl (vl rfl) rfl rfl) (co rfl (Ce (Jf) rfl rfl) ?_))|refine ac ?_|(refine Tr.cn rfl ?_ ?_<;>intro h q)
 have BI:k=(l).length:=by have:=AJ h5;omega
 subst BI
 have hall:=KR Ab
 refine ac ?_
 refine ag ?_ ?_<;>intro h7 q7
 refine ac ?_
 refine Eh 6 rfl ?_
 refine ac ?_
 · refine bool_eq ?_;rw [ET];unfold Fc Fz;rw [hall,WZ (by simp_all)];simp_all
 obtain ⟨c0,hc0⟩:=at_ (l:=l) (k:=0) (by have:=h7;simp at this;exact List.length_pos_iff.2 this)
 refine FZ h7 rfl ?_
 refine cy h7 rfl (AA rfl underlying73 Dl (vl rfl) (vl rfl) (by omega) (AO (k:=0) hc0)) ?_
 refine ac ?_
 refine cy h7 rfl (eB rfl (vl rfl) (vl rfl)) (FZ h7 rfl ?_)
 refine Ch.cs 46 rfl ?_ ?_<;>intro h8 q8
 refine FZ h8 rfl ?_
 refine cy h8 rfl (AA rfl underlying73 Dl (vl rfl) (vl rfl) (by omega) (AO (k:=0) hc0)) ?_
 refine ac ?_
 refine Eh 6 rfl ?_
 refine ac ?_
 · refine bool_eq ?_;rw [ET];unfold Fc Fz;rw [hall,Rz hc0];clear hall Ab hc0;simp_all;omega
 refine ac ?_
 refine Eh 6 rfl ?_
 refine ac ?_
 · refine bool_eq ?_;rw [ET];unfold Fc Fz;rw [hall,Rz hc0];clear hall Ab hc0;simp_all
theorem Tz {e:Bk} (k7:e.hashes.length≤17592186044416):Az prog 42 [agg (BP e)] (int (if FH e then 0 else 19)):=by
 refine fo func42 rfl ⟨rfl,rfl⟩ fun M0 w0=> ?_
 refine ac ?_
 refine ac ?_
 refine co rfl (Ce (ZX) rfl rfl) ?_
 refine ac ?_
 refine Ch.cs 13 rfl ?_ ?_<;>intro h1 q1
 refine ac ?_
 refine CY 1 47 rfl ?_
 refine ac ?_
 refine ac ?_
 · refine int_eq (if_neg (fun hv=> ?_)).symm;have ok:=B6.1 hv;have v1:=ok.name;have v2:=ok.least;have v3:=ok.lm;have v4:=ok.most;have v5:=E5 ok.Ao;have v6:=ok.PO;have v7:=ok.Tm;simp_all
 refine ac ?_
 refine Ch.cs 18 rfl ?_ ?_<;>intro h2 q2
 refine ac ?_
 refine CY 1 47 rfl ?_
 refine ac ?_
 refine ac ?_
 · refine int_eq (if_neg (fun hv=> ?_)).symm;have ok:=B6.1 hv;have v1:=ok.name;have v2:=ok.least;have v3:=ok.lm;have v4:=ok.most;have v5:=E5 ok.Ao;have v6:=ok.PO;have v7:=ok.Tm;omega
 refine ac ?_
 refine Ch.cs 25 rfl ?_ ?_<;>intro h3 q3
 refine ac ?_
 refine CY 1 47 rfl ?_
 refine ac ?_
 refine ac ?_
 · refine int_eq (if_neg (fun hv=> ?_)).symm;have ok:=B6.1 hv;have v1:=ok.name;have v2:=ok.least;have v3:=ok.lm;have v4:=ok.most;have v5:=E5 ok.Ao;have v6:=ok.PO;have v7:=ok.Tm;omega
 refine ac ?_
 refine Ch.cs 30 rfl ?_ ?_<;>intro h4 q4
 refine ac ?_
 refine CY 1 47 rfl ?_
 refine ac ?_
 refine ac ?_
 · refine int_eq (if_neg (fun hv=> ?_)).symm;have ok:=B6.1 hv;have v1:=ok.name;have v2:=ok.least;have v3:=ok.lm;have v4:=ok.most;have v5:=E5 ok.Ao;have v6:=ok.PO;have v7:=ok.Tm;omega
 refine ac ?_
 refine Ch.cs 36 rfl ?_ ?_<;>intro h5 q5
 refine ac ?_
 refine CY 1 47 rfl ?_
 refine ac ?_
 refine ac ?_
 · refine int_eq (if_neg (fun hv=> ?_)).symm;have ok:=B6.1 hv;have v1:=ok.name;have v2:=ok.least;have v3:=ok.lm;have v4:=ok.most;have v5:=E5 ok.Ao;have v6:=ok.PO;have v7:=ok.Tm;omega
 refine ac ?_
 refine Ch.cs 42 rfl ?_ ?_<;>intro h6 q6
 refine ac ?_
 refine CY 1 47 rfl ?_
 refine ac ?_
 refine ac ?_
 · refine int_eq (if_neg (fun hv=> ?_)).symm;have ok:=B6.1 hv;have v1:=ok.name;have v2:=ok.least;have v3:=ok.lm;have v4:=ok.most;have v5:=E5 ok.Ao;have v6:=ok.PO;have v7:=ok.Tm;omega
 refine ac ?_
 refine CY 1 47 rfl ?_
 refine Tr.cn rfl ?_ ?_<;>intro h7 q7
 refine ac ?_
 refine ac ?_
 · refine int_eq (if_neg (fun hv=> ?_)).symm;have ok:=B6.1 hv;have v1:=ok.name;have v2:=ok.least;have v3:=ok.lm;have v4:=ok.most;have v5:=E5 ok.Ao;have v6:=ok.PO;have v7:=ok.Tm;omega
 refine ac ?_
 refine ac ?_
 refine Tr.block (Tr.A7 [(1,_)] ⟨ke rfl,trivial⟩ (fun i:Nat=>[(3,int ((i:Nat):Int))]) (fun i:Nat=>i≤(e.Ao).length∧(∀j,j<i→FB e.Ao j=true)) (fun i:Nat=>(e.Ao).length-i) 0 (⟨Nat.zero_le _,fun j hj=>absurd hj (by omega)⟩) ⟨ke rfl,trivial⟩ ?_)
 rintro i ⟨Zb,FT⟩
 refine ac ?_
 refine Tr.cn rfl ?_ ?_<;>intro h8 q8
 have LK:i<(e.Ao).length:=AH h8
 obtain ⟨x,MO⟩:=at_ LK
 have hg:=getD_at (d:=(0:Int)) MO
 refine ac ?_
 refine ao ?_
 refine tp rfl (AA rfl underlying22 Bh (vl rfl) (vl rfl) (by omega) (AO MO)) (tp rfl (DQ rfl Bo rfl) (tp rfl (Ce (Wk) rfl rfl) ?_))
 refine ao ?_
 refine Tl rfl rfl rfl rfl z148 G3 (fun b1=> ?_)
 refine sf 0 4 ⟨rfl,rfl,rfl⟩ rfl rfl rfl rfl ?_
 refine ao ?_
 refine CR 1 3 5 rfl ?_
 refine ac ?_
 refine Ch.cs 66 rfl ?_ ?_<;>intro h9 q9
 have xF:¬(1≤x∧x≤16):=by intro hh;rw [if_pos hh] at h9;exact absurd h9 (by decide)
 refine ac ?_
 refine CR 1 3 77 rfl ?_
 refine ac ?_
 refine ac ?_
 · refine int_eq (if_neg (fun hv=> ?_)).symm;have ok:=B6.1 hv;have h_:=Bv.1 (show allI (FB e.Ao) e.Ao.length=true from ok.Ao) i (by omega);unfold FB at h_;rw [hg] at h_;exact xF (by simpa using and1 h_)
 have hin:1≤x∧x≤16:=by refine Decidable.byContradiction fun hh=> ?_;rw [if_neg hh] at h9;exact absurd h9 (by decide)
 refine ac ?_
 refine cy h9 rfl (C_ rfl underlying22 Bh (vl rfl) (vl rfl) (by omega) (by simp;omega)) ?_
 refine ac ?_
 refine cy h9 rfl (AA rfl underlying22 Bh (vl rfl) (vl rfl) (by omega) (AO MO)) (cy h9 rfl (DQ rfl Bo rfl) ?_)
 refine cy h9 rfl (AQ rfl (IX (l:=e.Ao.take i) (v:=x)) ⟨⟨_,rfl,Pr.le_of_eq (by rw [←List.map_take,Int.toNat_natCast])⟩,ke rfl,trivial⟩) ?_
 refine ac ?_
 refine CR 1 3 77 rfl ?_
 refine Tr.cn rfl ?_ ?_<;>intro h10 Oa
 refine ac ?_
 refine ac ?_
 · refine int_eq (if_neg (fun hv=> ?_)).symm;have ok:=B6.1 hv;have h_:=Bv.1 (show allI (FB e.Ao) e.Ao.length=true from ok.Ao) i (by omega);unfold FB at h_;rw [hg] at h_;exact absurd (by assumption:((e.Ao.take i).any fun y=>x==y)=true) (by have h2:=k6 h_;rw [Bool.not_eq_true'] at h2;rw [h2];decide)
 refine ac ?_
 refine ac ?_
 exact Fin.AM (i+1) ⟨⟨LK,Dc FT (by unfold FB;rw [hg];rw [decide_eq_true hin];simp_all)⟩,by omega⟩ ⟨⟨_,rfl,AD i⟩,ke rfl,trivial⟩
 have T0:i=(e.Ao).length:=by have:=AJ h8;omega
 subst T0
 refine ac ?_
 refine ac ?_
 refine Tr.block (Tr.A7 [(1,_)] ⟨ke rfl,trivial⟩ (fun m:Nat=>[(6,int ((m:Nat):Int))]) (fun m:Nat=>m≤(e.ids).length∧(∀j y,j<m→e.ids[j]? =some y→(!iQ y)=false)) (fun m:Nat=>(e.ids).length-m) 0 (⟨Nat.zero_le _,fun j y hj=>absurd hj (by omega)⟩) ⟨ke rfl,trivial⟩ ?_)
 rintro m ⟨Kc,Gn⟩
 refine ac ?_
 refine Tr.cn rfl ?_ ?_<;>intro h11 PR
 have Dg:m<(e.ids).length:=AH h11
 obtain ⟨x,Dq⟩:=at_ Dg
 refine ac ?_
 refine ac ?_
 refine co rfl (AA rfl underlying68 E0 (vl rfl) (vl rfl) (by omega) (AO Dq)) ?_
 refine ac ?_
 refine co rfl (AA rfl underlying68 E0 (vl rfl) (vl rfl) (by omega) (AO Dq)) ?_
 refine ac ?_
 refine co rfl (AA rfl underlying68 E0 (vl rfl) (vl rfl) (by omega) (AO Dq)) ?_
 refine ac ?_
 refine co rfl (JH (Wl) rfl rfl rfl rfl) ?_
 refine ac ?_
 refine CR 1 6 104 rfl ?_
 refine Tr.cn rfl ?_ ?_<;>intro h12 S6
 refine ac ?_
 refine ac ?_
 · refine int_eq (if_neg (fun hv=> ?_)).symm;have ok:=B6.1 hv;have h_:=List.all_eq_true.1 ok.ids x (List.mem_of_getElem? Dq);unfold iQ at h_;simp_all
 refine ac ?_
 refine ac ?_
 exact Fin.AM (m+1) ⟨⟨Dg,EM (p:=fun c=> !iQ c) Dq (by unfold iQ;simp_all) Gn⟩,by omega⟩ ⟨⟨_,rfl,AD m⟩,ke rfl,trivial⟩
 have IY:m=(e.ids).length:=by have:=AJ h11;omega
 subst IY
 have hall:=KR Gn
 refine ac ?_
 refine ac ?_
 refine Tr.block (Tr.A7 [(1,_)] ⟨ke rfl,trivial⟩ (fun o:Nat=>[(7,int ((o:Nat):Int))]) (fun o:Nat=>o≤(e.anchors).length∧(∀j,j<o→(G7 e.anchors j&&Fz (e.anchors[j]?.getD 0))=true)) (fun o:Nat=>(e.anchors).length-o) 0 (⟨Nat.zero_le _,fun j hj=>absurd hj (by omega)⟩) ⟨ke rfl,trivial⟩ ?_)
 rintro o ⟨rX,Jg⟩
 refine ac ?_
 refine Tr.cn rfl ?_ ?_<;>intro MG Xt
 have Wm:o<(e.anchors).length:=AH MG
 obtain ⟨a,Oi⟩:=at_ Wm
 have hg:=getD_at (d:=(0:Int)) Oi
 refine ac ?_
 refine ac ?_
 refine co rfl (AA rfl underlying22 Bh (vl rfl) (vl rfl) (by omega) (AO Oi)) ?_
 refine ac ?_
 refine Ch.cs 118 rfl ?_ ?_<;>intro Ku eO
 refine ac ?_
 refine CR 1 7 143 rfl ?_
 refine ac ?_
 refine ac ?_
 · refine int_eq (if_neg (fun hv=> ?_)).symm;have ok:=B6.1 hv;have h_:=List.all_eq_true.1 ok.keys a (List.mem_of_getElem? Oi);unfold Fz at h_;simp at h_;omega
 refine ac ?_
 refine cy Ku rfl (AA rfl underlying22 Bh (vl rfl) (vl rfl) (by omega) (AO Oi)) ?_
 refine ac ?_
 refine Ch.cs 126 rfl ?_ ?_<;>intro Rf kY
 refine ac ?_
 refine CR 1 7 143 rfl ?_
 refine ac ?_
 refine ac ?_
 · refine int_eq (if_neg (fun hv=> ?_)).symm;have ok:=B6.1 hv;have h_:=List.all_eq_true.1 ok.keys a (List.mem_of_getElem? Oi);unfold Fz at h_;simp at h_;omega
 refine ac ?_
 refine Ch.cs 129 rfl ?_ ?_<;>intro h16 kg
 have hk0:0<o:=by simpa using h16
 obtain ⟨y,hy⟩:=at_ (l:=e.anchors) (k:=o-1) (by omega)
 have Qt:=getD_at (d:=(0:Int)) hy
 refine ac ?_
 refine cy h16 rfl (AA rfl underlying22 Bh (vl rfl) (vl rfl) (by omega) (by rw [show ((o:Nat):Int)-1=((o-1:Nat):Int) by omega];exact AO hy)) ?_
 refine ac ?_
 refine cy h16 rfl (AA rfl underlying22 Bh (vl rfl) (vl rfl) (by omega) (AO Oi)) ?_
 refine ac ?_
 refine CR 1 7 143 rfl ?_
 refine Tr.cn rfl ?_ ?_<;>intro MH eG
 refine ac ?_
 refine ac ?_
 · refine int_eq (if_neg (fun hv=> ?_)).symm;have ok:=B6.1 hv;have h_:=Bv.1 (show allI (G7 e.anchors) e.anchors.length=true from ok.anc) o (by omega);unfold G7 at h_;rw [hg,Qt] at h_;simp at h_;omega
 refine ac ?_
 refine ac ?_
 exact Fin.AM (o+1) ⟨⟨Wm,(fun j hj=>by rcases Nat.lt_or_eq_of_le (Nat.le_of_lt_succ hj) with h_|h_;exact Jg j h_;(subst h_;unfold G7 Fz;rw [hg];rw [Qt];simp_all))⟩,by omega⟩ ⟨⟨_,rfl,AD o⟩,ke rfl,trivial⟩
 have Jc:¬0<o:=by simpa using h16
 refine ac ?_
 refine CR 1 7 143 rfl ?_
 refine ac ?_
 refine ac ?_
 exact Fin.AM (o+1) ⟨⟨Wm,(fun j hj=>by rcases Nat.lt_or_eq_of_le (Nat.le_of_lt_succ hj) with h_|h_;exact Jg j h_;(subst h_;unfold G7 Fz;rw [hg];simp_all))⟩,by omega⟩ ⟨⟨_,rfl,AD o⟩,ke rfl,trivial⟩
 have k8:o=(e.anchors).length:=by have:=AJ MG;omega
 subst k8
 refine ac ?_
 refine ac ?_
 refine Tr.block (Tr.A7 [(1,_)] ⟨ke rfl,trivial⟩ (fun q:Nat=>[(8,int ((q:Nat):Int))]) (fun q:Nat=>q≤(e.hashes).length∧(∀j,j<q→(G7 e.hashes j&&Nh (e.hashes[j]?.getD 0))=true)) (fun q:Nat=>(e.hashes).length-q) 0 (⟨Nat.zero_le _,fun j hj=>absurd hj (by omega)⟩) ⟨ke rfl,trivial⟩ ?_)
 rintro q ⟨yL,Qu⟩
 refine ac ?_
 refine Tr.cn rfl ?_ ?_<;>intro OX kV
 have k9:q<(e.hashes).length:=AH OX
 obtain ⟨a,SB⟩:=at_ k9
 have hg:=getD_at (d:=(0:Int)) SB
 refine ac ?_
 refine ac ?_
 refine co rfl (AA rfl underlying22 Bh (vl rfl) (vl rfl) (by omega) (AO SB)) (co rfl (DQ rfl Bo rfl) (co rfl (Ce (Ma) rfl rfl) ?_))
 refine ac ?_
 refine Ch.cs 158 rfl ?_ ?_<;>intro bt q19
 refine ac ?_
 refine CR 1 8 175 rfl ?_
 refine ac ?_
 refine ac ?_
 · refine int_eq (if_neg (fun hv=> ?_)).symm;have ok:=B6.1 hv;have h_:=List.all_eq_true.1 ok.hsh a (List.mem_of_getElem? SB);unfold Nh at h_;simp_all
 refine ac ?_
 refine Ch.cs 161 rfl ?_ ?_<;>intro OY nW
 have hk0:0<q:=by simpa using OY
 obtain ⟨y,hy⟩:=at_ (l:=e.hashes) (k:=q-1) (by omega)
 have Qt:=getD_at (d:=(0:Int)) hy
 refine ac ?_
 refine cy OY rfl (AA rfl underlying22 Bh (vl rfl) (vl rfl) (by omega) (by rw [show ((q:Nat):Int)-1=((q-1:Nat):Int) by omega];exact AO hy)) ?_
 refine ac ?_
 refine cy OY rfl (AA rfl underlying22 Bh (vl rfl) (vl rfl) (by omega) (AO SB)) ?_
 refine ac ?_
 refine CR 1 8 175 rfl ?_
 refine Tr.cn rfl ?_ ?_<;>intro VH q21
 refine ac ?_
 refine ac ?_
 · refine int_eq (if_neg (fun hv=> ?_)).symm;have ok:=B6.1 hv;have h_:=Bv.1 (show allI (G7 e.hashes) e.hashes.length=true from ok.hash) q (by omega);unfold G7 at h_;rw [hg,Qt] at h_;simp at h_;omega
 refine ac ?_
 refine ac ?_
 exact Fin.AM (q+1) ⟨⟨k9,(fun j hj=>by rcases Nat.lt_or_eq_of_le (Nat.le_of_lt_succ hj) with h_|h_;exact Qu j h_;(subst h_;unfold G7 Nh;rw [hg];rw [Qt];simp_all))⟩,by omega⟩ ⟨⟨_,rfl,AD q⟩,ke rfl,trivial⟩
 have Jc:¬0<q:=by simpa using OY
 refine ac ?_
 refine CR 1 8 175 rfl ?_
 refine ac ?_
 refine ac ?_
 exact Fin.AM (q+1) ⟨⟨k9,(fun j hj=>by rcases Nat.lt_or_eq_of_le (Nat.le_of_lt_succ hj) with h_|h_;exact Qu j h_;(subst h_;unfold G7 Nh;rw [hg];simp_all))⟩,by omega⟩ ⟨⟨_,rfl,AD q⟩,ke rfl,trivial⟩
 have xH:q=(e.hashes).length:=by have:=AJ OX;omega
 subst xH
 refine ac ?_
 refine ac ?_
 refine ac ?_
 · refine int_eq (if_pos (B6.2 ⟨by simp_all,by omega,by omega,by omega,Bv.2 FT,by omega,by omega,Bv.2 (fun j hj=>and1 (Jg j hj)),Bv.2 (fun j hj=>and1 (Qu j hj)),hall,ZZ (fun j hj=>k6 (Jg j hj)),ZZ (fun j hj=>k6 (Qu j hj))⟩)).symm
theorem EV {e:Bk} (J5:e.small):Az Tryz.prog 42 [agg (BP e)] (int (if FH e then 0 else 19)):=Tz (by have:=J5.hashes;omega)
abbrev xI (l:List Bk):Pr:=slice 9 (l.map BP)
structure C0 where
 BW:List Bk
 A_:List HE
 items:List Qr
 deriving DecidableEq
abbrev Bw (e:C0):List Pr:=[xI e.BW,G8 e.A_,Np e.items]
abbrev E6:C0:=⟨[],[],[]⟩
structure C0.fits (e:C0):Prop where
 BW:∀x∈e.BW,x.fits∧x.small
 items:∀x∈e.items,x.name.length≤maxLen
 le:e.BW.length≤1000000000000
 lg:e.A_.length≤1000000000000
 li:e.items.length≤1000000000000
def SC (l:List Bk) (i:Nat):Bool:=FH (l[i]?.getD DV)&&(decide (i=0)||decide (Lib.compareBytes (l[i-1]?.getD DV).name (l[i]?.getD DV).name= -1))
def EY (e:C0):Bool:=(allI (SC e.BW) e.BW.length&&decide (e.BW.length≤16))&&Qs e.BW.length e.A_&&(e.items.all L1&&decide (e.items.length≤30))
structure iW (e:C0):Prop where
 ep:∀j,j<e.BW.length→SC e.BW j=true
 e16:e.BW.length≤16
 ed:∀j,j<e.A_.length→Cz e.BW.length e.A_ j=true
 ng:e.A_.length≤40
 it:e.items.all L1=true
 i30:e.items.length≤30
theorem C7 {e:C0}:EY e=true↔iW e:=by
 unfold EY Qs
 simp only [Bool.and_eq_true,decide_eq_true_eq,Bv]
 exact ⟨fun ⟨⟨⟨h1,h2⟩,h3,h4⟩,h5,h6⟩=>⟨h1,h2,h3,h4,h5,h6⟩,fun h=>⟨⟨⟨h.ep,h.e16⟩,h.ed,h.ng⟩,h.it,h.i30⟩⟩
theorem LL {e:C0} (h:iW e):Qs e.BW.length e.A_=true:=by unfold Qs;simp only [Bool.and_eq_true,decide_eq_true_eq,Bv];exact ⟨h.ed,h.ng⟩
theorem DA {e:C0} (hf:e.fits):Az prog 27 [agg (Bw e)] (int (if EY e then 0 else 31)):=by
 refine fo func27 rfl ⟨rfl,rfl⟩ fun M0 w0=> ?_
 have hl1:=hf.le
 have nU:=hf.lg
 have hl3:=hf.li
 refine ac ?_
 refine ac ?_
 refine Ch.cs 11 rfl ?_ ?_<;>intro h1 q1
 refine ac ?_
 refine CY 1 22 rfl ?_
 refine ac ?_
 refine ac ?_
 · refine int_eq (if_neg (fun hv=> ?_)).symm;have ok:=C7.1 hv;(have o1:=ok.e16;have o2:=ok.ng;have o3:=ok.i30;have o4:=ok.it;have o5:=LL ok;omega)
 refine ac ?_
 refine Ch.cs 17 rfl ?_ ?_<;>intro h2 q2
 refine ac ?_
 refine CY 1 22 rfl ?_
 refine ac ?_
 refine ac ?_
 · refine int_eq (if_neg (fun hv=> ?_)).symm;have ok:=C7.1 hv;(have o1:=ok.e16;have o2:=ok.ng;have o3:=ok.i30;have o4:=ok.it;have o5:=LL ok;omega)
 refine ac ?_
 refine CY 1 22 rfl ?_
 refine Tr.cn rfl ?_ ?_<;>intro h3 q3
 refine ac ?_
 refine ac ?_
 · refine int_eq (if_neg (fun hv=> ?_)).symm;have ok:=C7.1 hv;(have o1:=ok.e16;have o2:=ok.ng;have o3:=ok.i30;have o4:=ok.it;have o5:=LL ok;omega)
 refine ac ?_
 refine ac ?_
 refine Tr.block (Tr.A7 [(1,_)] ⟨ke rfl,trivial⟩ (fun k:Nat=>[(3,int ((k:Nat):Int))]) (fun k:Nat=>k≤(e.BW).length∧(∀j,j<k→SC e.BW j=true)) (fun k:Nat=>(e.BW).length-k) 0 (⟨Nat.zero_le _,fun j hj=>absurd hj (by omega)⟩) ⟨ke rfl,trivial⟩ ?_)
 rintro k ⟨BN,Ab⟩
 refine ac ?_
 refine Tr.cn rfl ?_ ?_<;>intro h4 q4
 have Af:k<(e.BW).length:=AH h4
 obtain ⟨x,Ad⟩:=at_ Af
 have hg:=getD_at (d:=DV) Ad
 have k_:=hf.BW x (List.mem_of_getElem? Ad)
 refine ac ?_
 refine ac ?_
 refine co rfl (AA rfl underlying25 B5 (vl rfl) (vl rfl) (by omega) (AO Ad)) (co rfl (AR rfl CW B5 (vl rfl) rfl rfl) (co rfl (Ce (EV k_.2) rfl rfl) ?_))
 refine ac ?_
 refine Ch.cs 37 rfl ?_ ?_<;>intro h5 q5
 refine ac ?_
 refine CR 1 3 56 rfl ?_
 refine ac ?_
 refine ac ?_
 · refine int_eq (if_neg (fun hv=> ?_)).symm;have ok:=C7.1 hv;(have h_:=ok.ep k (by omega);unfold SC at h_;rw [hg] at h_;simp_all)
 refine ac ?_
 refine Ch.cs 40 rfl ?_ ?_<;>intro h6 q6
 have hk0:0<k:=by simpa using h6
 obtain ⟨y,hy⟩:=at_ (l:=e.BW) (k:=k-1) (by omega)
 have Qt:=getD_at (d:=DV) hy
 refine ac ?_
 refine cy h6 rfl (AA rfl underlying25 B5 (vl rfl) (vl rfl) (by omega) (by rw [show ((k:Nat):Int)-1=((k-1:Nat):Int) by omega];exact AO hy)) ?_
 refine ac ?_
 refine cy h6 rfl (AA rfl underlying25 B5 (vl rfl) (vl rfl) (by omega) (AO Ad)) ?_
 refine ac ?_
 refine cy h6 rfl (NR rfl (vl rfl) (vl rfl)) ?_
 refine ac ?_
 refine CR 1 3 56 rfl ?_
 refine Tr.cn rfl ?_ ?_<;>intro h7 q7
 refine ac ?_
 refine ac ?_
 · refine int_eq (if_neg (fun hv=> ?_)).symm;have ok:=C7.1 hv;(have h_:=ok.ep k (by omega);unfold SC at h_;rw [hg,Qt] at h_;simp_all)
 refine ac ?_
 refine ac ?_
 exact Fin.AM (k+1) ⟨⟨Af,Dc Ab (by unfold SC;rw [hg,Qt];simp_all)⟩,by omega⟩ ⟨⟨_,rfl,AD k⟩,ke rfl,trivial⟩
 have Jc:¬0<k:=by simpa using h6
 refine ac ?_
 refine CR 1 3 56 rfl ?_
 refine ac ?_
 refine ac ?_
 exact Fin.AM (k+1) ⟨⟨Af,Dc Ab (by unfold SC;rw [hg];simp_all)⟩,by omega⟩ ⟨⟨_,rfl,AD k⟩,ke rfl,trivial⟩
 have BI:k=(e.BW).length:=by have:=AJ h4;omega
 subst BI
 have Qv:=Ab
 refine ac ?_
 refine ac ?_
 refine Tr.block (Tr.A7 [(1,_)] ⟨ke rfl,trivial⟩ (fun m:Nat=>[(4,int ((m:Nat):Int))]) (fun m:Nat=>m≤(e.A_).length∧(∀j,j<m→Cz e.BW.length e.A_ j=true)) (fun m:Nat=>(e.A_).length-m) 0 (⟨Nat.zero_le _,fun j hj=>absurd hj (by omega)⟩) ⟨ke rfl,trivial⟩ ?_)
 rintro m ⟨Kc,Gn⟩
 refine ac ?_
 refine Tr.cn rfl ?_ ?_<;>intro h8 q8
 have Dg:m<(e.A_).length:=AH h8
 obtain ⟨c,Dq⟩:=at_ Dg
 have hg:=getD_at (d:=FW) Dq
 refine ac ?_
 refine ao ?_
 refine tp rfl (AA rfl underlying26 F_ (vl rfl) (vl rfl) (by omega) (AO Dq)) (tp rfl (AR rfl Rl F_ (vl rfl) rfl rfl) ?_)
 refine Tl rfl rfl rfl rfl jw Ya (fun b1=> ?_)
 refine sf 0 5 ⟨rfl,rfl,rfl⟩ rfl rfl rfl rfl ?_
 refine ao ?_
 refine CR 1 4 5 rfl ?_
 refine ac ?_
 refine Ch.cs 72 rfl ?_ ?_<;>intro h9 q9
 refine ac ?_
 refine D7 1 4 5 99 rfl ?_
 refine ac ?_
 refine ac ?_
 · refine int_eq (if_neg (fun hv=> ?_)).symm;have ok:=C7.1 hv;(have h_:=ok.ed m (by omega);unfold Cz at h_;rw [hg] at h_;simp_all;omega)
 refine ac ?_
 refine Ch.cs 80 rfl ?_ ?_<;>intro h10 Oa
 refine ac ?_
 refine D7 1 4 5 99 rfl ?_
 refine ac ?_
 refine ac ?_
 · refine int_eq (if_neg (fun hv=> ?_)).symm;have ok:=C7.1 hv;(have h_:=ok.ed m (by omega);unfold Cz at h_;rw [hg] at h_;simp_all;omega)
 refine ac ?_
 refine Ch.cs 85 rfl ?_ ?_<;>intro h11 PR
 refine ac ?_
 refine D7 1 4 5 99 rfl ?_
 refine ac ?_
 refine ac ?_
 · refine int_eq (if_neg (fun hv=> ?_)).symm;have ok:=C7.1 hv;(have h_:=ok.ed m (by omega);unfold Cz at h_;rw [hg] at h_;simp_all;omega)
 refine ac ?_
 refine Ch.cs 93 rfl ?_ ?_<;>intro h12 S6
 refine ac ?_
 refine D7 1 4 5 99 rfl ?_
 refine ac ?_
 refine ac ?_
 · refine int_eq (if_neg (fun hv=> ?_)).symm;have ok:=C7.1 hv;(have h_:=ok.ed m (by omega);unfold Cz at h_;rw [hg] at h_;simp_all;omega)
 refine ac ?_
 refine D7 1 4 5 99 rfl ?_
 refine Tr.cn rfl ?_ ?_<;>intro MG Xt
 refine ac ?_
 refine ac ?_
 · refine int_eq (if_neg (fun hv=> ?_)).symm;have ok:=C7.1 hv;(have h_:=ok.ed m (by omega);unfold Cz at h_;rw [hg] at h_;simp_all)
 refine ac ?_
 refine ac ?_
 refine Ch.cs 102 rfl ?_ ?_<;>intro Ku eO
 have hk0:0<m:=by simpa using Ku
 obtain ⟨y,hy⟩:=at_ (l:=e.A_) (k:=m-1) (by omega)
 have Qt:=getD_at (d:=FW) hy
 refine ac ?_
 refine cy Ku rfl (AA rfl underlying26 F_ (vl rfl) (vl rfl) (by omega) (by rw [show ((m:Nat):Int)-1=((m-1:Nat):Int) by omega];exact AO hy)) ?_
 refine ac ?_
 refine Ch.cs 113 rfl ?_ ?_<;>intro Rf kY
 refine ac ?_
 refine CR 1 4 137 rfl ?_
 refine ac ?_
 refine ac ?_
 · refine int_eq (if_neg (fun hv=> ?_)).symm;have ok:=C7.1 hv;(have h_:=ok.ed m (by omega);unfold Cz at h_;rw [hg,Qt] at h_;simp_all;omega)
 refine ac ?_
 refine cy Rf rfl (AA rfl underlying26 F_ (vl rfl) (vl rfl) (by omega) (by rw [show ((m:Nat):Int)-1=((m-1:Nat):Int) by omega];exact AO hy)) ?_
 refine ac ?_
 refine Ch.cs 124 rfl ?_ ?_<;>intro h16 kg
 refine ac ?_
 refine cy h16 rfl (AA rfl underlying26 F_ (vl rfl) (vl rfl) (by omega) (by rw [show ((m:Nat):Int)-1=((m-1:Nat):Int) by omega];exact AO hy)) ?_
 refine ac ?_
 refine CR 1 4 137 rfl ?_
 refine Tr.cn rfl ?_ ?_<;>intro MH eG
 refine ac ?_
 refine ac ?_
 · refine int_eq (if_neg (fun hv=> ?_)).symm;have ok:=C7.1 hv;(have h_:=ok.ed m (by omega);unfold Cz at h_;rw [hg,Qt] at h_;simp_all;omega)
 refine ac ?_
 refine ac ?_
 exact Fin.AM (m+1) ⟨⟨Dg,Dc Gn (by unfold Cz;rw [hg,Qt];simp_all)⟩,by omega⟩ ⟨⟨_,rfl,AD m⟩,ke rfl,trivial⟩
 refine ac ?_
 refine CR 1 4 137 rfl ?_
 refine ac ?_
 refine ac ?_
 exact Fin.AM (m+1) ⟨⟨Dg,Dc Gn (by unfold Cz;rw [hg,Qt];simp_all;omega)⟩,by omega⟩ ⟨⟨_,rfl,AD m⟩,ke rfl,trivial⟩
 have Jc:¬0<m:=by simpa using Ku
 refine ac ?_
 refine CR 1 4 137 rfl ?_
 refine ac ?_
 refine ac ?_
 exact Fin.AM (m+1) ⟨⟨Dg,Dc Gn (by unfold Cz;rw [hg];simp_all)⟩,by omega⟩ ⟨⟨_,rfl,AD m⟩,ke rfl,trivial⟩
 have IY:m=(e.A_).length:=by have:=AJ h8;omega
 subst IY
 refine ac ?_
 refine ac ?_
 refine Tr.block (Tr.A7 [(1,_)] ⟨ke rfl,trivial⟩ (fun o:Nat=>[(6,int ((o:Nat):Int))]) (fun o:Nat=>o≤(e.items).length∧(∀j y,j<o→e.items[j]? =some y→(!L1 y)=false)) (fun o:Nat=>(e.items).length-o) 0 (⟨Nat.zero_le _,fun j y hj=>absurd hj (by omega)⟩) ⟨ke rfl,trivial⟩ ?_)
 rintro o ⟨rX,Jg⟩
 refine ac ?_
 refine Tr.cn rfl ?_ ?_<;>intro OX kV
 have Wm:o<(e.items).length:=AH OX
 obtain ⟨x,Oi⟩:=at_ Wm
 refine ac ?_
 refine ac ?_
 refine co rfl (AA rfl underlying27 KG (vl rfl) (vl rfl) (by omega) (AO Oi)) (co rfl (AR rfl U5 KG (vl rfl) rfl rfl) (co rfl (Ce (Tt) rfl rfl) ?_))
 refine ac ?_
 refine CR 1 6 151 rfl ?_
 refine Tr.cn rfl ?_ ?_<;>intro bt q19
 refine ac ?_
 refine ac ?_
 · refine int_eq (if_neg (fun hv=> ?_)).symm;have ok:=C7.1 hv;(have h_:=List.all_eq_true.1 ok.it x (List.mem_of_getElem? Oi);simp_all)
 refine ac ?_
 refine ac ?_
 exact Fin.AM (o+1) ⟨⟨Wm,EM (p:=fun c=> !L1 c) Oi (by simp_all) Jg⟩,by omega⟩ ⟨⟨_,rfl,AD o⟩,ke rfl,trivial⟩
 have k8:o=(e.items).length:=by have:=AJ OX;omega
 subst k8
 have hall:=KR Jg
 refine ac ?_
 refine ac ?_
 refine ac ?_
 · refine int_eq (if_pos (C7.2 ⟨Qv,by omega,Gn,by omega,hall,by omega⟩)).symm
def nh:List (Int×Int):=[(2,0),(1,0),(5,2048),(16,128),(3,0),(15,168)]
def VZ (v:Int):Int×Int:=nh[v.toNat]?.getD (2,0)
theorem rY {v:Int} (h:0≤v∧v<6):(nh.map fun u=>[int u.1,int u.2])[v.toNat]? =some [int (VZ v).1,int (VZ v).2]:=by
 have hl:v.toNat<nh.length:=by show v.toNat<6;omega
 unfold VZ;rw [List.getElem?_map,List.getElem?_eq_getElem hl];rfl
theorem lA:∀u∈nh,C6 u.1 u.2>0:=by decide+kernel
theorem iX (v:Int):C6 (VZ v).1 (VZ v).2>0:=by
 unfold VZ
 cases h:nh[v.toNat]? with
 |none=>decide+kernel
 |some u=>exact lA u (List.mem_of_getElem? h)
def Jh:Nat→DS→Int→List R_→List R_×Int×DS
 |0,s,day,l=>(l,day,s)
 |k+1,s,day,l=>Jh k s.CE.CE (day+1+s.CE.of [5,30,0,100]) (l++[⟨(VZ (s.val 6)).1,(VZ (s.val 6)).2,day⟩])
abbrev Dh (s:DS):List R_×Int×DS:=Jh (1+s.CE.CE.CE.val 3).toNat s.CE.CE.CE.CE (s.CE.CE.val 20) []
def Pa (s:DS) (name:List UInt8):Qr:=⟨name,1+s.val 2,1+s.CE.val 4,(Dh s).1,((Dh s).1[0]?.getD EU).day+(Dh s).2.2.of [50,300,0,3000]⟩
def rZ (s:DS):DS:=(Dh s).2.2.CE
structure Wn (l:List R_) (day:Int):Prop where
 lo:0≤day
 hi:day≤20+101*(l.length:Nat)
 at_:∀j,j<l.length→E4 l j=true
 lt:∀x∈l,x.day<day
theorem SD {l:List R_} {day d:Int} {u:Int×Int} (h:Wn l day) (h3:l.length≤3) (hu:C6 u.1 u.2>0) (hd:0≤d∧d≤100):Wn (l++[⟨u.1,u.2,day⟩]) (day+1+d):=by
 have h0:=h.lo;have h1:=h.hi
 refine ⟨by omega,by rw [List.length_append];simp;omega,fun j hj=> ?_,fun x hx=> ?_⟩
 ·
  rw [List.length_append] at hj;simp at hj
  rcases Nat.lt_or_ge j l.length with hl|hl
  ·
   have:=h.at_ j hl
   unfold E4 at this ⊢
   rw [List.getElem?_append_left hl,List.getElem?_append_left (show j-1<l.length by omega)];exact this
  ·
   have:j=l.length:=by omega
   subst this
   unfold E4
   rw [List.getElem?_append_right (Nat.le_refl _),Nat.sub_self]
   rcases Nat.eq_zero_or_pos l.length with hz|hz
   ·
    obtain rfl:=List.eq_nil_of_length_eq_zero hz
    simp [hu];simp at h1;omega
   ·
    obtain ⟨y,hy⟩:=at_ (l:=l) (k:=l.length-1) (by omega)
    rw [List.getElem?_append_left (show l.length-1<l.length by omega),hy]
    have:=h.lt y (List.mem_of_getElem? hy)
    simp [hu];omega
 ·
  rcases List.mem_append.1 hx with hx|hx
  · have:=h.lt x hx;omega
  · simp at hx;subst hx;show day<_;omega
theorem T2 (s:DS):0≤s.of [5,30,0,100]∧s.of [5,30,0,100]≤100:=by have:=s.NJ (l:=[5,30,0,100]) (by simp);simp at this;omega
theorem Zc (s:DS):0≤s.of [50,300,0,3000]∧s.of [50,300,0,3000]≤3000:=by have:=s.NJ (l:=[50,300,0,3000]) (by simp);simp at this;omega
theorem Pb:∀(k:Nat) (s:DS) (day:Int) (l:List R_),Wn l day→l.length+k≤3→Wn (Jh k s day l).1 (Jh k s day l).2.1∧(Jh k s day l).1.length=l.length+k
 |0,s,day,l,h,_=>⟨h,rfl⟩
 |k+1,s,day,l,h,hk=>by
  have:=Pb k s.CE.CE (day+1+s.CE.of [5,30,0,100]) (l++[⟨(VZ (s.val 6)).1,(VZ (s.val 6)).2,day⟩]) (SD h (by omega) (iX _) (T2 _)) (by simp;omega)
  refine ⟨this.1,?_⟩
  show (Jh k _ _ _).1.length=_
  rw [this.2];simp;omega
structure T3 (x:Qr):Prop where
 ok:L1 x=true
 name:x.name.length≤32
 links:x.links.length≤3
theorem Vb {s:DS} {name:List UInt8} (hn:named name=true):T3 (Pa s name):=by
 have h2:=s.Cf (n:=2) (by omega)
 have h4:=s.CE.Cf (n:=4) (by omega)
 have OY:=s.CE.CE.Cf (n:=20) (by omega)
 have h3:=s.CE.CE.CE.Cf (n:=3) (by omega)
 have hI:Wn [] (s.CE.CE.val 20):=⟨by omega,by simp;omega,fun j hj=>by simp at hj,fun x hx=>by simp at hx⟩
 obtain ⟨hL,hl⟩:=Pb (1+s.CE.CE.CE.val 3).toNat s.CE.CE.CE.CE (s.CE.CE.val 20) [] hI (by simp;omega)
 simp only [List.length_nil,Nat.zero_add] at hl
 have hlen:(Dh s).1.length=(1+s.CE.CE.CE.val 3).toNat:=hl
 have hu:=Zc (Dh s).2.2
 obtain ⟨c,hc⟩:=at_ (l:=(Dh s).1) (k:=0) (by omega)
 have hg:=getD_at (d:=EU) hc
 have hc1:=hL.lt c (List.mem_of_getElem? hc)
 have hc2:=hL.hi
 refine ⟨CB.2 ⟨hn,?_,?_,?_,?_,?_,hL.at_,?_,?_⟩,I0 hn,?_⟩
 · show 1+s.val 2=1∨1+s.val 2=2;omega
 · show 1≤1+s.CE.val 4;omega
 · show 1+s.CE.val 4≤4;omega
 · show 1≤(Dh s).1.length;omega
 · show (Dh s).1.length≤8;omega
 · show ((Dh s).1[0]?.getD EU).day≤((Dh s).1[0]?.getD EU).day+_;omega
 · show ((Dh s).1[0]?.getD EU).day+_≤40000;rw [hg];omega
 · show (Dh s).1.length≤3;omega
theorem Vc {b:Nat} {s:DS} {name:List UInt8}  :C2 prog 23 [ptr b 0,str name] (agg (VX (Pa s name))) (Cv b s) (fun _=>Cv b (rZ s)):=by
 refine C2.of func23 rfl rfl (by exact Nb rfl) fun M0 w0 S rs M1 w1=> ?_
 have Uy:=s.Cf (n:=2) (by omega)
 have hv4:=s.CE.Cf (n:=4) (by omega)
 have yu:=s.CE.CE.Cf (n:=20) (by omega)
 have hv3:=s.CE.CE.CE.Cf (n:=3) (by omega)
 refine Tr.seq (Tr.An ?_)
 refine Tl rfl rfl rfl rfl cq Yb (fun b1=> ?_)
 refine ao ?_
 refine ao ?_
 refine TO.Jv 1 rfl rfl (by decide) (Aw rfl rfl (by decide) rfl (CC (by omega) (by omega)) ⟨ke rfl,ke rfl,trivial⟩) ?_
 refine ao ?_
 refine TO.Jv 1 rfl rfl (by decide) (Aw rfl rfl (by decide) rfl (CC (by omega) (by omega)) ⟨ke rfl,ke rfl,trivial⟩) ?_
 refine ao ?_
 refine Tl rfl rfl rfl rfl cq Yb (fun b2=> ?_)
 refine TO.AK 0 rfl rfl rfl (vl rfl) (Va rfl) rfl KG rfl rfl ?_
 refine ao ?_
 refine ao ?_
 refine TO.Jv 2 rfl rfl (by decide) (Aw rfl rfl (by decide) rfl (CC (by omega) (by omega)) ⟨ke rfl,ke rfl,trivial⟩) ?_
 refine ao ?_
 refine D7 0 4 5 6 rfl ?_
 refine ao ?_
 refine TO.Jv 2 rfl rfl (by decide) (Aw rfl rfl (by decide) rfl (CC (by omega) (by omega)) ⟨ke rfl,ke rfl,trivial⟩) ?_
 refine ao ?_
 refine Tr.block (Tr.IC 0 [str name,int (1+s.val 2),int (1+s.CE.val 4),Ag (.slice none 0 0) (ZV []),is (.int .i64 0)] rfl ⟨Lr,Lr,Lr,BX rfl,Lr,trivial⟩ (Tr.Bs 119 3 ?_))
 refine Tr.YK [(0,_),(4,_),(5,_)] ⟨ke rfl,ke rfl,ke rfl,trivial⟩ (fun (k:Int) (day:Int) (l:List R_) (s2:DS) v=>[(7,int k),(6,int day)]) (fun (k:Int) (day:Int) (l:List R_) (s2:DS) v=>Hp M0 w0 S (Ap 119 3 v::AE true b2 82 [str name,int (1+s.val 2),int (1+s.CE.val 4),Ag v (ZV l),is (.int .i64 0)]::AE true b1 82 (([.string (ByteArray.mk #[]),.int .i64 0,.int .i64 0,.slice none 0 0,.int .i64 0]:List Value).map is)::Cv b s2::At M1 w1::rs)) (fun (k:Int) (day:Int) (l:List R_) (s2:DS)=>(0≤k∧k+l.length≤3∧1≤k+l.length∧Wn l day)∧Jh k.toNat s2 day l=Dh s) (fun (k:Int) (day:Int) (l:List R_) (s2:DS)=>k.toNat) (_) (_) ([]) (_) (.slice none 0 0) (⟨⟨by omega,by simp;omega,by simp;omega,⟨by omega,by simp;omega,fun j hj=>by simp at hj,fun x hx=>by simp at hx⟩⟩,rfl⟩) ⟨ke rfl,ke rfl,trivial⟩ (fun _ _ h=>h) ?_
 rintro k day l s2 v ⟨⟨hk0,hk1,hk2,hL⟩,hR⟩
 have hL0:=hL.lo
 have hL1:=hL.hi
 have hof:=T2 s2.CE
 refine an ?_ ?_<;>intro h1 q1
 have ni:0<k:=of_decide_eq_true h1
 have hv6:=s2.Cf (n:=6) (by omega)
 refine ac ?_
 refine ao ?_
 refine TO.Jv 3 rfl rfl (by decide) (Aw rfl rfl (by decide) rfl (CC (by omega) (by omega)) ⟨ke rfl,ke rfl,trivial⟩) ?_
 refine tp rfl (AA rfl underlying117 JA (Kf rfl) (vl rfl) (by omega) (show (nh.map fun u=>[int u.1,int u.2])[_]? =_ from rY hv6)) ?_
 refine tp rfl (AR rfl Hu JA (vl rfl) rfl rfl) ?_
 refine Tl rfl rfl rfl rfl z72 De (fun b3=> ?_)
 refine sf 0 8 ⟨rfl,rfl,rfl⟩ rfl rfl rfl rfl ?_
 refine ao ?_
 refine Jw 0 4 5 6 7 8 rfl ?_
 refine ao ?_
 refine TO.DP 0 rfl rfl (by decide) (Bl rfl rfl rfl rfl underlying80 IF iC z119 (Kb rfl) (Kf rfl) (Aq (by exact List.Mem.head _) (Ka rfl))) (fun v1=> ?_)
 refine tp rfl (Ae rfl TT (vl rfl)) (TO.Dp 1 rfl rfl (Ay rfl rfl (vl rfl) (Vo rfl) pJ rfl (by exact Nb rfl) rfl) ?_)
 refine ao ?_
 refine JV 0 4 5 6 7 rfl ?_
 refine ao ?_
 refine TO.Jv 3 rfl rfl (by decide) (Aw rfl rfl (by decide) rfl (Rw (l:=[5,30,0,100]) (by simp) (by simp)) ⟨ke rfl,(Kf rfl),trivial⟩) ?_
 refine ao ?_
 refine ac ?_
 refine Fin.IC 1 [str name,int (1+s.val 2),int (1+s.CE.val 4),Ag v1 (ZV (l++[(⟨(VZ (s2.val 6)).1,(VZ (s2.val 6)).2,day⟩:R_)])),is (.int .i64 0)] rfl ⟨Lr,Lr,Lr,Au (by rw [List.map_append];rfl),Lr,trivial⟩ ?_
 exact Fin.cX (k-1) (_) (l++[(⟨(VZ (s2.val 6)).1,(VZ (s2.val 6)).2,day⟩:R_)]) (_) v1 (⟨⟨⟨by omega,by simp;omega,by simp;omega,SD hL (by omega) (iX _) (T2 _)⟩,by rw [←hR,show k.toNat=(k-1).toNat+1 by omega];rfl⟩,by omega⟩) ⟨⟨_,rfl,int_eq (by omega)⟩,⟨_,rfl,int_eq (by omega)⟩,ke rfl,ke rfl,ke rfl,trivial⟩ (fun _ _ h=>h)
 have ni:¬0<k:=of_decide_eq_false h1
 obtain rfl:k=0:=by omega
 obtain ⟨c0,hc0⟩:=at_ (l:=l) (k:=0) (by omega)
 have nY:=getD_at (d:=EU) hc0
 have yw:=hL.lt c0 (List.mem_of_getElem? hc0)
 have yx:0≤c0.day:=by have h_:=hL.at_ 0 (A0 hc0);unfold E4 at h_;rw [nY] at h_;simp at h_;omega
 have yy:=Zc s2
 have hR1:(Dh s).1=l:=by rw [←hR];rfl
 obtain rfl:s2=(Dh s).2.2:=by rw [←hR];rfl
 refine ac ?_
 refine Tr.seq (Tr.rx ?_)
 refine ay ?_
 refine xo rfl (fun _=>AA rfl underlying80 IF (Kb rfl) (vl rfl) (by omega) (AO (k:=0) hc0)) ?_
 refine ay ?_
 refine xo rfl (fun _=>oI) ?_
 refine Cx.ef 3 rfl rfl (by decide) (Aw rfl rfl (by decide) rfl (Rw (l:=[50,300,0,3000]) (by simp) (by simp)) ⟨ke rfl,(Kf rfl),trivial⟩) ?_
 refine ay ?_
 refine Cx.nil ⟨by kernel_rfl,?_⟩
 refine BQ.done al5 (Fin.go (CY 4 5 rfl ?_))
 refine ao ?_
 refine TO.AK 2 rfl rfl rfl (vl rfl) (Va rfl) rfl KG rfl rfl ?_
 refine ao ?_
 refine Tr.ret (Fin.Fx [_,_,_] rfl (AP.cell 2 rfl rfl U5 KG rfl (Lr)) ?_ (fun _ _ _ _=>rfl))
 · exact Ar ⟨Lr,Lr,Lr,Pr.le_trans (Ah _ _) (Pr.le_of_eq (by show _=ZV (Dh s).1;rw [hR1])),int_eq (by show _=((Dh s).1[0]?.getD EU).day+_;rw [hR1,nY]),trivial⟩
structure T4 (n:Nat) (i j:Int) (l:List HE):Prop where
 at_:∀k,k<l.length→Cz n l k=true
 lt:∀g∈l,g.client<i∨(g.client=i∧g.server<j)
theorem T4.nil (n:Nat) (i j:Int):T4 n i j []:=⟨fun k hk=>by simp at hk,fun g hg=>by simp at hg⟩
theorem T4.step {n:Nat} {i j:Int} {l:List HE} (h:T4 n i j l):T4 n i (j+1) l:=⟨h.at_,fun g hg=>by have:=h.lt g hg;omega⟩
theorem T4.row {n:Nat} {i j:Int} {l:List HE} (h:T4 n i j l):T4 n (i+1) 0 l:=⟨h.at_,fun g hg=>by have:=h.lt g hg;omega⟩
theorem T4.snoc {n:Nat} {i j:Int} {l:List HE} (h:T4 n i j l) (hi:0≤i∧i<n) (hj:0≤j∧j<n) (hn:i≠j):T4 n i (j+1) (l++[⟨i,j⟩]):=by
 refine ⟨fun k hk=> ?_,fun g hg=> ?_⟩
 ·
  rw [List.length_append] at hk;simp at hk
  rcases Nat.lt_or_ge k l.length with hl|hl
  ·
   have:=h.at_ k hl
   unfold Cz at this ⊢
   rw [List.getElem?_append_left hl,List.getElem?_append_left (show k-1<l.length by omega)];exact this
  ·
   have:k=l.length:=by omega
   subst this
   unfold Cz
   rw [List.getElem?_append_right (Nat.le_refl _),Nat.sub_self]
   rcases Nat.eq_zero_or_pos l.length with hz|hz
   ·
    obtain rfl:=List.eq_nil_of_length_eq_zero hz
    simp;omega
   ·
    obtain ⟨y,hy⟩:=Cp.at_ (l:=l) (k:=l.length-1) (by omega)
    rw [List.getElem?_append_left (show l.length-1<l.length by omega),hy]
    have:=h.lt y (List.mem_of_getElem? hy)
    simp;omega
 ·
  rcases List.mem_append.1 hg with hg|hg
  · have:=h.lt g hg;omega
  · simp at hg;subst hg;right;exact ⟨rfl,by show j<j+1;omega⟩
theorem Zd:∀i,i<2→Lib.compareBytes (Ee[i]?.getD []) (Ee[i+1]?.getD [])= -1:=by decide+kernel
structure L2 (e:C0):Prop where
 n2:2≤e.BW.length
 n3:e.BW.length≤3
 snd:ZQ e.BW
 ed:∀k,k<e.A_.length→Cz e.BW.length e.A_ k=true
 g1:1≤e.A_.length
 g3:e.A_.length≤3
 it:∀x∈e.items,T3 x
 i2:e.items.length≤2
theorem L2.ok {e:C0} (h:L2 e):EY e=true:=by
 have h3:=h.n3;have g3:=h.g3;have i2:=h.i2
 refine C7.2 ⟨fun j hj=> ?_,by omega,h.ed,by omega,List.all_eq_true.2 fun x hx=>(h.it x hx).ok,by omega⟩
 obtain ⟨x,hx⟩:=at_ hj
 have hs:=h.snd j x hx
 unfold SC
 rw [hx,Option.getD_some,B6.2 (eX hs),Bool.true_and,Bool.or_eq_true,decide_eq_true_eq,decide_eq_true_eq]
 rcases Nat.eq_zero_or_pos j with hz|hz
 · exact .inl hz
 ·
  right
  obtain ⟨y,hy⟩:=at_ (l:=e.BW) (k:=j-1) (by omega)
  have Rv:=h.snd _ y hy
  rw [hy,Option.getD_some]
  have:=Zd (j-1) (by omega)
  rw [Rv.name,show j-1+1=j by omega,hs.name] at this
  exact this
theorem L2.fits {e:C0} (h:L2 e):e.fits:=by
 have h3:=h.n3;have g3:=h.g3;have i2:=h.i2
 refine ⟨fun x hx=> ?_,fun x hx=>by have:=(h.it x hx).name;unfold maxLen;omega,by omega,by omega,by omega⟩
 obtain ⟨i,hi⟩:=List.getElem?_of_mem hx
 exact ⟨PY (h.snd i x hi),Nn (h.snd i x hi)⟩
abbrev Ji:List UInt8:=[98,97,99,107,117,112]
abbrev T5:List UInt8:=[100,101,101,100]
theorem Vd (s:DS):named (IV s [Ji,T5])=true:=by
 have h:=s.Cf (n:=2) (by omega)
 unfold IV
 have:s.val (([Ji,T5]:List (List UInt8)).length:Nat)=0∨s.val (([Ji,T5]:List (List UInt8)).length:Nat)=1:=by show s.val 2=0∨s.val 2=1;omega
 rcases this with h|h<;>rw [h]<;>decide
theorem SE {l:List Qr} {y:Qr} (h:∀x∈l,T3 x) (hy:T3 y):∀x∈l++[y],T3 x:=by
 intro x hx
 rcases List.mem_append.1 hx with hx|hx
 · exact h x hx
 · simp at hx;subst hx;exact hy
theorem Ze {b:Nat} {s:DS}  :C2 prog 10 [ptr b 0] (Cp.ex fun e:C0=>fact (L2 e) (agg (Bw e))) (Cv b s) (fun _=>HP 61 b):=by
 refine C2.of func10 rfl rfl (by exact Nb rfl) fun M0 w0 S rs M1 w1=> ?_
 have Uy:=s.Cf (n:=2) (by omega)
 have Ta:(Ee.take (2+s.val 2).toNat).length=(2+s.val 2).toNat:=by rw [List.length_take];show min _ 3=_;omega
 refine Tr.seq (Tr.An ?_)
 refine Tl rfl rfl rfl rfl z29 G1 (fun b1=> ?_)
 refine TO.nil (Fin.go (Tr.seq (Tr.An ?_)))
 refine Tl rfl rfl rfl rfl z29 G1 (fun b2=> ?_)
 refine TO.nil (Fin.go (Tr.seq (Tr.An (tp rfl (AL (xs:=[.const (.string ⟨[97,112,112].toArray⟩),.const (.string ⟨[100,98].toArray⟩),.const (.string ⟨[119,101,98].toArray⟩)]) (rows:=[[_],[_],[_]]) rfl rfl underlying64 MI z9 rfl (by decide) ⟨⟨(by exact rfl),(Vo rfl)⟩,⟨⟨(by exact rfl),(Vo rfl)⟩,⟨⟨(by exact rfl),(Vo rfl)⟩,trivial⟩⟩⟩ (by decide)) ?_))))
 refine tm rfl (TO.Jv 2 rfl rfl (by decide) (Aw rfl rfl (by decide) rfl (CC (by omega) (by omega)) ⟨ke rfl,ke rfl,trivial⟩) ?_)
 refine tp rfl (Ge rfl (vl rfl) (vl rfl) ?hin) ?_;case hin=>unfold K1;omega
 refine tp rfl (C_ rfl underlying64 MI (Kf rfl) (vl rfl) (by omega) (by simp;omega)) ?_
 refine tm rfl (TO.nil (Fin.go (Tr.seq (Tr.seq (Tr.AW (cm rfl (co rfl (Br rfl underlying64 (vl rfl)) (cm rfl (Ch.nil (Fin.go (Tr.block ?_)))))))))))
 refine Tr.re 16 rfl (Pr.le_of_eq (by show slice 1 (List.take _ (Ee.map fun t=>[str t]))=_;rw [←List.map_take]):Pr.le _ (eE (Ee.take (2+s.val 2).toNat))) ?_
 refine Tr.re 17 rfl (int_eq (by simp;rfl):Pr.le _ (int (((Ee.take (2+s.val 2).toNat).length:Nat):Int))) ?_
 refine Tr.IC 0 [Ag (.slice none 0 0) (slice 9 (([]:List Bk).map BP)),is (.slice none 0 0),is (.slice none 0 0)] rfl ⟨BX rfl,Lr,Lr,trivial⟩ (Tr.Bs 70 9 (Tr.Ec [(0,_),(2,_),(3,_),(4,_),(16,_),(17,_)] ⟨ke rfl,ke rfl,ke rfl,ke rfl,ke rfl,ke rfl,trivial⟩ (fun (k:Nat) (es:List Bk) (s2:DS) v=>[(18,int ((k:Nat):Int))]) (fun (k:Nat) (es:List Bk) (s2:DS) v=>Hp M0 w0 S (Ap 70 9 v::AE true b2 29 [Ag v (slice 9 (es.map BP)),is (.slice none 0 0),is (.slice none 0 0)]::AE true b1 29 (([.slice none 0 0,.slice none 0 0,.slice none 0 0]:List Value).map is)::Cv b s2::At M1 w1::rs)) (fun (k:Nat) (es:List Bk) (s2:DS)=>k≤(2+s.val 2).toNat∧es.length=k∧ZQ es) (fun (k:Nat) (es:List Bk) (s2:DS)=>(2+s.val 2).toNat-k) (0) ([]) (_) (.slice none 0 0) (⟨by omega,rfl,fun i e h=>by simp at h⟩) ⟨ke rfl,trivial⟩ (fun _ _ h=>h) ?_))
 rintro k es s2 v ⟨hk1,hk2,ni⟩
 refine Tr.seq (Tr.AW (co rfl (ki rfl rfl rfl rfl) (Ch.nil (Fin.go (Tr.seq ?_)))))
 refine Tr.cn rfl ?_ ?_<;>intro h1 q1
 have hkn:k<(2+s.val 2).toNat:=by have:=D_.Ey h1;rw [Ta] at this;omega
 obtain ⟨nm,hnm⟩:=at_ (l:=Ee.take (2+s.val 2).toNat) (k:=k) (by omega)
 have LJ:Ee[k]? =some nm:=ZR hnm
 have kL:=ZS (s2.CE.val 3)
 have yz:k<3:=A0 LJ
 have hvs:=s2.CE.Cf (n:=3) (by omega)
 have hof:=ko s2
 refine Tr.skip (Fin.go (Tr.seq (Tr.block (Tr.seq (Tr.AW (cm rfl (co rfl (AA rfl underlying64 MI (vl rfl) (vl rfl) (by omega) (AO hnm)) (co rfl (DQ rfl MJ rfl) (cm rfl (cm rfl (Ch.nil (Fin.go (Tr.seq (Tr.pad ?_))))))))))))))
 refine Tr.IB mixed [none,none,none,some (0,4,true,0),none,none,none,none,none,some (0,4,true,0),none,none,none,some (0,4,true,0),none,none,none,some (0,4,true,0),none,some (0,0,true,7),some (7,0,true,7)] (by kernel_rfl) (xm rfl (xm rfl (xo rfl (fun _=>AL (xs:=[.const (.int .i64 (3)),.const (.int .i64 (3)),.const (.int .i64 (4))]) (rows:=[[_],[_],[_]]) rfl rfl underlying22 Bh z3 rfl (by decide) ⟨⟨(by exact rfl),(Vo rfl)⟩,⟨⟨(by exact rfl),(Vo rfl)⟩,⟨⟨(by exact rfl),(Vo rfl)⟩,trivial⟩⟩⟩ (by decide)) ?_)))
 refine Cx.ef 4 rfl rfl (by decide) (Aw rfl rfl (by decide) rfl (Rw (l:=[3,3,4]) (by simp) (by simp)) ⟨ke rfl,(Kf rfl),trivial⟩) ?_
 refine xo rfl (fun _=>AL (xs:=[.const (.int .i64 (10)),.const (.int .i64 (8)),.const (.int .i64 (2))]) (rows:=[[_],[_],[_]]) rfl rfl underlying22 Bh z3 rfl (by decide) ⟨⟨(by exact rfl),(Vo rfl)⟩,⟨⟨(by exact rfl),(Vo rfl)⟩,⟨⟨(by exact rfl),(Vo rfl)⟩,trivial⟩⟩⟩ (by decide)) ?_
 refine xo rfl (fun _=>AL (xs:=[.const (.int .i64 (8)),.const (.int .i64 (2))]) (rows:=[[_],[_]]) rfl rfl underlying22 Bh z3 rfl (by decide) ⟨⟨(by exact rfl),(Vo rfl)⟩,⟨⟨(by exact rfl),(Vo rfl)⟩,trivial⟩⟩ (by decide)) ?_
 refine xo rfl (fun _=>AL (xs:=[.const (.int .i64 (2)),.const (.int .i64 (10)),.const (.int .i64 (8)),.const (.int .i64 (3))]) (rows:=[[_],[_],[_],[_]]) rfl rfl underlying22 Bh z3 rfl (by decide) ⟨⟨(by exact rfl),(Vo rfl)⟩,⟨⟨(by exact rfl),(Vo rfl)⟩,⟨⟨(by exact rfl),(Vo rfl)⟩,⟨⟨(by exact rfl),(Vo rfl)⟩,trivial⟩⟩⟩⟩ (by decide)) ?_
 refine xo rfl (fun _=>AL (xs:=[.tmp 27,.tmp 28,.tmp 29]) (rows:=[[_],[_],[_]]) rfl rfl underlying66 K7 z22 rfl (by decide) ⟨⟨(by exact rfl),⟨_,rfl,Pr.le_trans (Bp _ _) (Aj _)⟩⟩,⟨⟨(by exact rfl),⟨_,rfl,Pr.le_trans (Bp _ _) (Aj _)⟩⟩,⟨⟨(by exact rfl),⟨_,rfl,Pr.le_trans (Bp _ _) (Aj _)⟩⟩,trivial⟩⟩⟩ (by decide)) ?_
 refine xm rfl (Cx.ef 4 rfl rfl (by decide) (Aw rfl rfl (by decide) rfl (CC (by omega) (by omega)) ⟨ke rfl,ke rfl,trivial⟩) ?_)
 refine xo rfl (fun _=>AA rfl underlying66 K7 (Kf rfl) (vl rfl) (by omega) (show (MN.map fun l=>[ints l])[_]? =_ from eU hvs)) ?_
 refine xo rfl (fun _=>DQ rfl ID rfl) (xm rfl (Cx.ef 4 rfl rfl (by decide) (Aw rfl rfl (by decide) rfl (ZD (by omega) (by omega)) ⟨ke rfl,ke rfl,trivial⟩) (xo rfl (fun _=>AL (xs:=[.const (.int .i64 (1))]) (rows:=[[_]]) rfl rfl underlying22 Bh z3 rfl (by decide) ⟨⟨(by exact rfl),(Vo rfl)⟩,trivial⟩ (by decide)) ?_)))
 refine xo rfl (fun _=>AL (xs:=[.const (.int .i64 (2)),.const (.int .i64 (3))]) (rows:=[[_],[_]]) rfl rfl underlying22 Bh z3 rfl (by decide) ⟨⟨(by exact rfl),(Vo rfl)⟩,⟨⟨(by exact rfl),(Vo rfl)⟩,trivial⟩⟩ (by decide)) ?_
 refine xm rfl (Cx.ef 4 rfl rfl (by decide) (Aw rfl rfl (by decide) rfl (ZD (by omega) (by omega)) ⟨ke rfl,ke rfl,trivial⟩) (xo rfl (fun _=>Ai (rows:=[(0,[_]),(1,[_]),(2,[_]),(3,[_]),(4,[_]),(6,[_]),(7,[_]),(8,[_])]) rfl ck HR ⟨⟨rfl,(Vo rfl)⟩,⟨⟨rfl,(Vo rfl)⟩,⟨⟨rfl,(Vo rfl)⟩,⟨⟨rfl,(Vo rfl)⟩,⟨⟨rfl,(Vo rfl)⟩,⟨⟨rfl,⟨_,rfl,Pr.le_trans (Bp _ _) (Aj _)⟩⟩,⟨⟨rfl,⟨_,rfl,Pr.le_trans (Bp _ _) (Aj _)⟩⟩,⟨⟨rfl,(Vo rfl)⟩,trivial⟩⟩⟩⟩⟩⟩⟩⟩ rfl) (Cx.ef 0 rfl rfl (by decide) (CX rfl rfl (by decide) rfl z70 HR) (Cx.Dp 0 rfl rfl (DH rfl rfl rfl rfl (Va rfl) B5 rfl rfl) ?_))))
 refine Cx.nil ⟨rfl,?_⟩
 refine BQ.open_ 0 7 rfl rfl (fun v1=> ?_)
 refine BQ.done (BC.cons (BC.cons (BC.cons (BC.cons (BC.cons (BC.cons (BC.map _))))))) (Fin.K5 7 0 _ rfl rfl (fun _=>rfl) (fun b3=> ?_))
 refine Fin.go (G0 0 2 3 4 5 6 7 16 17 18 rfl (Tr.seq (Tr.seq (Tr.IC 0 [str nm,int 1,int (s2.of [3,3,4]),ints (Jd (s2.CE.val 3)),bool (s2.CE.CE.val 2==2-1),is (.slice none 0 0),ints [1],ints [2,3],bool (s2.CE.CE.CE.val 3==3-1)] rfl ⟨Lr,Lr,Lr,Lr,Lr,Lr,Lr,Lr,Lr,trivial⟩ (Tr.AW (co rfl (Ae rfl TR (vl rfl)) (co rfl (Dr 0 rfl (B4 rfl Bo (vl rfl) rfl)) (co rfl (ki rfl rfl rfl rfl) (Ch.nil (Fin.go ?_))))))))))
 refine Tr.cn rfl ?_ ?_<;>intro h2 q2
 refine Tr.An (tp rfl (AL (xs:=[.const (.int .i64 (14))]) (rows:=[[_]]) rfl rfl underlying22 Bh z3 rfl (by decide) ⟨⟨(by exact rfl),(Vo rfl)⟩,trivial⟩ (by decide)) ?_)
 refine tp rfl (Ae rfl LA (vl rfl)) (TO.rd 0 rfl rfl rfl (by decide) (B4 rfl ID (vl rfl) rfl) (TO.pad ?_))
 refine TO.DP 0 rfl rfl (by decide) (Bl rfl rfl rfl rfl underlying22 Bh Iu z3 (Kf rfl) (vl rfl) (Ba (by exact List.Mem.head _) (vl rfl))) (fun v2=> ?_)
 refine tp rfl (Ae rfl LA (vl rfl)) (TO.Dp 1 rfl rfl (Ay rfl rfl (vl rfl) (Vo rfl) K7 rfl (by exact Nb rfl) rfl) (TO.nil (Fin.go (G0 0 2 3 4 5 6 7 16 17 18 rfl (Tr.seq (Tr.An (tm rfl (tp rfl (AQ rfl (iT) trivial) (tm rfl ?_)))))))))
 refine tp rfl (Ge rfl (vl rfl) (vl rfl) ?hin) ?_;case hin=>unfold K1;omega
 refine tp rfl (AQ rfl (Tq (name:=nm) (a:=5) (b:=2048) (id:=100+(k:Nat)) (to:=901) (key:=1) (Qo LJ (by omega) (by omega)) (PX (by omega)) (by omega)) ⟨ke rfl,ke rfl,ke rfl,ke rfl,ke rfl,trivial⟩) ?_
 refine TO.ex 54 rfl (fun Xk=>TO.fact 54 rfl fun lB=> ?_)
 refine tp rfl (AL (xs:=[.tmp 54]) (rows:=[_]) rfl rfl underlying68 E0 z75 rfl (by decide) ⟨⟨(by exact rfl),(Va rfl)⟩,trivial⟩ (by decide)) ?_
 refine tp rfl (Ae rfl NK (vl rfl)) (TO.Dp 1 rfl rfl (Ay rfl rfl (vl rfl) (Vo rfl) YW rfl (by exact Nb rfl) rfl) (TO.nil (Fin.go (Jx 0 2 3 4 7 16 17 18 rfl (Tr.An (tp rfl (Ae rfl HQ (vl rfl)) (TO.rd 3 rfl rfl rfl (by decide) (B4 rfl PD (vl rfl) rfl) (TO.rd 1 rfl rfl rfl (by decide) (B_ rfl CW B5 (vl rfl) rfl rfl) (tp rfl (AL (xs:=[.tmp 59]) (rows:=[BP (⟨nm,1,s2.of [3,3,4],14::Jd (s2.CE.val 3),(s2.CE.CE.val 2==2-1),[Gb nm 5 2048 (100+(k:Nat)) 901 1 Xk],[1],[2,3],(s2.CE.CE.CE.val 3==3-1)⟩:Bk)]) rfl rfl underlying25 B5 z70 rfl (by decide) ⟨⟨(by exact rfl),VL.le (vl rfl) (Pr.le_trans (Ar (qs:=BP (⟨nm,1,s2.of [3,3,4],14::Jd (s2.CE.val 3),(s2.CE.CE.val 2==2-1),[Gb nm 5 2048 (100+(k:Nat)) 901 1 Xk],[1],[2,3],(s2.CE.CE.CE.val 3==3-1)⟩:Bk)) ⟨Lr,Lr,Lr,Pr.le_trans (Ah _ _) (Pr.le_of_eq rfl),Lr,Bp _ _,Lr,Lr,Lr,trivial⟩) (Aa _))⟩,trivial⟩ (by decide)) ?_)))))))))
 refine TO.DP 2 rfl rfl (by decide) (Bl rfl rfl rfl rfl underlying25 B5 jj z70 (Kb rfl) (Kf rfl) (Aq (by exact List.Mem.head _) (Ka rfl))) (fun v3=> ?_)
 refine tp rfl (Ae rfl HQ (vl rfl)) (TO.Dp 3 rfl rfl (Ay rfl rfl (vl rfl) (Vo rfl) jY rfl (by exact Nb rfl) rfl) (TO.nil (Fin.block (Fin.go (Tr.drop 1 (I_ 0 2 3 4 16 17 18 rfl (Tr.AW (GV rfl rfl rfl rfl (by omega) (cm rfl (Ch.nil ?_))))))))))
 refine Fin.IC 2 [Ag v3 (slice 9 ((es++[(⟨nm,1,s2.of [3,3,4],14::Jd (s2.CE.val 3),(s2.CE.CE.val 2==2-1),[Gb nm 5 2048 (100+(k:Nat)) 901 1 Xk],[1],[2,3],(s2.CE.CE.CE.val 3==3-1)⟩:Bk)]).map BP)),is (.slice none 0 0),is (.slice none 0 0)] rfl ⟨Au (by rw [List.map_append];rfl),Lr,Lr,trivial⟩ ?_
 refine Fin.drop 0 ?_
 exact Fin.DU (k+1) (es++[(⟨nm,1,s2.of [3,3,4],14::Jd (s2.CE.val 3),(s2.CE.CE.val 2==2-1),[Gb nm 5 2048 (100+(k:Nat)) 901 1 Xk],[1],[2,3],(s2.CE.CE.CE.val 3==3-1)⟩:Bk)]) (_) v3 (⟨⟨by omega,by rw [List.length_append,hk2];rfl,R9 ni ⟨by rw [hk2];exact LJ,rfl,hof,.inr ⟨_,R8 hvs,rfl⟩,⟨Xk,lB,by rw [hk2]⟩,rfl,rfl⟩⟩,by omega⟩) ⟨⟨_,rfl,AD k⟩,ke rfl,ke rfl,ke rfl,ke rfl,ke rfl,ke rfl,trivial⟩ (fun _ _ h=>h)
 refine Tr.skip (Fin.go (Tr.seq (Tr.An (tm rfl (tp rfl (AQ rfl (iT) trivial) (tm rfl ?_))))))
 refine tp rfl (Ge rfl (vl rfl) (vl rfl) ?hin) ?_;case hin=>unfold K1;omega
 refine tp rfl (AQ rfl (Tq (name:=nm) (a:=5) (b:=2048) (id:=100+(k:Nat)) (to:=901) (key:=1) (Qo LJ (by omega) (by omega)) (PX (by omega)) (by omega)) ⟨ke rfl,ke rfl,ke rfl,ke rfl,ke rfl,trivial⟩) ?_
 refine TO.ex 54 rfl (fun Xk=>TO.fact 54 rfl fun lB=> ?_)
 refine tp rfl (AL (xs:=[.tmp 54]) (rows:=[_]) rfl rfl underlying68 E0 z75 rfl (by decide) ⟨⟨(by exact rfl),(Va rfl)⟩,trivial⟩ (by decide)) ?_
 refine tp rfl (Ae rfl NK (vl rfl)) (TO.Dp 0 rfl rfl (Ay rfl rfl (vl rfl) (Vo rfl) YW rfl (by exact Nb rfl) rfl) (TO.nil (Fin.go (Jx 0 2 3 4 7 16 17 18 rfl (Tr.An (tp rfl (Ae rfl HQ (vl rfl)) (TO.rd 2 rfl rfl rfl (by decide) (B4 rfl PD (vl rfl) rfl) (TO.rd 0 rfl rfl rfl (by decide) (B_ rfl CW B5 (vl rfl) rfl rfl) (tp rfl (AL (xs:=[.tmp 59]) (rows:=[BP (⟨nm,1,s2.of [3,3,4],Jd (s2.CE.val 3),(s2.CE.CE.val 2==2-1),[Gb nm 5 2048 (100+(k:Nat)) 901 1 Xk],[1],[2,3],(s2.CE.CE.CE.val 3==3-1)⟩:Bk)]) rfl rfl underlying25 B5 z70 rfl (by decide) ⟨⟨(by exact rfl),VL.le (vl rfl) (Pr.le_trans (Ar (qs:=BP (⟨nm,1,s2.of [3,3,4],Jd (s2.CE.val 3),(s2.CE.CE.val 2==2-1),[Gb nm 5 2048 (100+(k:Nat)) 901 1 Xk],[1],[2,3],(s2.CE.CE.CE.val 3==3-1)⟩:Bk)) ⟨Lr,Lr,Lr,Lr,Lr,Bp _ _,Lr,Lr,Lr,trivial⟩) (Aa _))⟩,trivial⟩ (by decide)) ?_)))))))))
 refine TO.DP 1 rfl rfl (by decide) (Bl rfl rfl rfl rfl underlying25 B5 jj z70 (Kb rfl) (Kf rfl) (Aq (by exact List.Mem.head _) (Ka rfl))) (fun v4=> ?_)
 refine tp rfl (Ae rfl HQ (vl rfl)) (TO.Dp 2 rfl rfl (Ay rfl rfl (vl rfl) (Vo rfl) jY rfl (by exact Nb rfl) rfl) (TO.nil (Fin.block (Fin.go (Tr.drop 0 (I_ 0 2 3 4 16 17 18 rfl (Tr.AW (GV rfl rfl rfl rfl (by omega) (cm rfl (Ch.nil ?_))))))))))
 refine Fin.IC 1 [Ag v4 (slice 9 ((es++[(⟨nm,1,s2.of [3,3,4],Jd (s2.CE.val 3),(s2.CE.CE.val 2==2-1),[Gb nm 5 2048 (100+(k:Nat)) 901 1 Xk],[1],[2,3],(s2.CE.CE.CE.val 3==3-1)⟩:Bk)]).map BP)),is (.slice none 0 0),is (.slice none 0 0)] rfl ⟨Au (by rw [List.map_append];rfl),Lr,Lr,trivial⟩ ?_
 exact Fin.DU (k+1) (es++[(⟨nm,1,s2.of [3,3,4],Jd (s2.CE.val 3),(s2.CE.CE.val 2==2-1),[Gb nm 5 2048 (100+(k:Nat)) 901 1 Xk],[1],[2,3],(s2.CE.CE.CE.val 3==3-1)⟩:Bk)]) (_) v4 (⟨⟨by omega,by rw [List.length_append,hk2];rfl,R9 ni ⟨by rw [hk2];exact LJ,rfl,hof,.inl (R8 hvs),⟨Xk,lB,by rw [hk2]⟩,rfl,rfl⟩⟩,by omega⟩) ⟨⟨_,rfl,AD k⟩,ke rfl,ke rfl,ke rfl,ke rfl,ke rfl,ke rfl,trivial⟩ (fun _ _ h=>h)
 have VR:k=(2+s.val 2).toNat:=by have:=D_.Ey h1;rw [Ta] at this;omega
 refine Tr.exit (Fin.AS (Fin.AS (Fin.Ak (Fin.go (Tr.seq (Tr.seq (Tr.IC 1 [slice 9 (es.map BP),is (.slice none 0 0),is (.slice none 0 0)] rfl ⟨Ah _ _,Lr,Lr,trivial⟩ (Tr.drop 0 (Tr.AW (cm rfl (co rfl (Br rfl underlying64 (vl rfl)) (cm rfl (Ch.nil (Fin.go ?_))))))))))))))
 refine Tr.block ?_
 refine Tr.re 65 rfl (int_eq (by simp;rfl):Pr.le _ (int (((Ee.take (2+s.val 2).toNat).length:Nat):Int))) ?_
 refine Tr.IC 0 [slice 9 (es.map BP),Ag (.slice none 0 0) (G8 []),is (.slice none 0 0)] rfl ⟨Lr,BX rfl,Lr,trivial⟩ (Tr.Bs 79 2 (Tr.Ec [(0,_),(2,_),(3,_),(4,_),(65,_)] ⟨ke rfl,ke rfl,ke rfl,ke rfl,ke rfl,trivial⟩ (fun (i:Nat) (gs:List HE) (s3:DS) w=>[(66,int ((i:Nat):Int))]) (fun (i:Nat) (gs:List HE) (s3:DS) w=>Hp M0 w0 S (Ap 79 2 w::AE true b2 29 [slice 9 (es.map BP),Ag w (G8 gs),is (.slice none 0 0)]::AE true b1 29 (([.slice none 0 0,.slice none 0 0,.slice none 0 0]:List Value).map is)::Cv b s3::At M1 w1::rs)) (fun (i:Nat) (gs:List HE) (s3:DS)=>i≤(2+s.val 2).toNat∧gs.length≤3∧T4 (2+s.val 2).toNat i 0 gs) (fun (i:Nat) (gs:List HE) (s3:DS)=>(2+s.val 2).toNat-i) (0) ([]) (_) (.slice none 0 0) (⟨by omega,by simp,T4.nil _ _ _⟩) ⟨ke rfl,trivial⟩ (fun _ _ h=>h) ?_))
 rintro i gs s3 w ⟨hi1,hi2,hi3⟩
 refine Tr.seq (Tr.AW (co rfl (ki rfl rfl rfl rfl) (Ch.nil (Fin.go (Tr.seq ?_)))))
 refine Tr.cn rfl ?_ ?_<;>intro h3 q3
 have hin:i<(2+s.val 2).toNat:=by have:=D_.Ey h3;rw [Ta] at this;omega
 refine Tr.skip (Fin.go (Tr.seq (Tr.block (Tr.seq (Tr.AW (cm rfl (cm rfl (Ch.nil (Fin.go (Tr.seq (Tr.AW (cm rfl (co rfl (Br rfl underlying64 (vl rfl)) ?_)))))))))))))
 refine cm rfl (Ch.nil (Fin.go (Tr.block ?_)))
 refine Tr.re 70 rfl (int_eq (by simp;rfl):Pr.le _ (int (((Ee.take (2+s.val 2).toNat).length:Nat):Int))) ?_
 refine Tr.Ec [(0,_),(2,_),(3,_),(4,_),(8,_),(65,_),(66,_),(70,_)] ⟨ke rfl,ke rfl,ke rfl,ke rfl,ke rfl,ke rfl,ke rfl,ke rfl,trivial⟩ (fun (j:Nat) (Wo:List HE) (s4:DS) u=>[(71,int ((j:Nat):Int))]) (fun (j:Nat) (Wo:List HE) (s4:DS) u=>Hp M0 w0 S (Ap 79 2 u::AE true b2 29 [slice 9 (es.map BP),Ag u (G8 Wo),is (.slice none 0 0)]::AE true b1 29 (([.slice none 0 0,.slice none 0 0,.slice none 0 0]:List Value).map is)::Cv b s4::At M1 w1::rs)) (fun (j:Nat) (Wo:List HE) (s4:DS)=>j≤(2+s.val 2).toNat∧Wo.length≤3∧T4 (2+s.val 2).toNat i j Wo) (fun (j:Nat) (Wo:List HE) (s4:DS)=>(2+s.val 2).toNat-j) (0) (gs) (_) w (⟨by omega,hi2,hi3⟩) ⟨ke rfl,trivial⟩ (fun _ _ h=>h) ?_
 rintro j Wo s4 u ⟨kJ,hj2,hj3⟩
 refine Tr.seq (Tr.AW (co rfl (ki rfl rfl rfl rfl) (Ch.nil (Fin.go (Tr.seq ?_)))))
 refine Tr.cn rfl ?_ ?_<;>intro h4 q4
 have hjn:j<(2+s.val 2).toNat:=by have:=D_.Ey h4;rw [Ta] at this;omega
 refine Tr.skip (Fin.go (Tr.seq (Tr.block (Tr.seq (Tr.AW (cm rfl (cm rfl (Ch.nil (Fin.go (Tr.seq (Tr.An (tm rfl (tm rfl ?_)))))))))))))
 refine tp rfl (ki rfl rfl rfl rfl) (tm rfl ?_)
 refine TO.cases 77 rfl (fun h5=> ?_) (fun h5=> ?_)
 have q5:=D_.Ey h5
 refine TO.MM rfl rfl rfl h5 rfl (by decide) (EJ rfl (vl rfl)) (TO.qJ 3 rfl rfl rfl h5 rfl rfl (by decide) (Aw rfl rfl (by decide) rfl (CC (by omega) (by omega)) ⟨ke rfl,ke rfl,trivial⟩) (TO.MM rfl rfl rfl h5 rfl (by decide) (ki rfl rfl rfl rfl) (tp rfl (HK rfl rfl h5 rfl) (tm rfl ?_))))
 refine TO.cases 82 rfl (fun h6=> ?_) (fun h6=> ?_)
 have q6:=D_.Ey h6
 refine TO.MM rfl rfl rfl h6 rfl (by decide) (Ae rfl K8 (vl rfl)) (TO.MM rfl rfl rfl h6 rfl (by decide) (Dr 1 rfl (B4 rfl U4 (vl rfl) rfl)) (TO.MM rfl rfl rfl h6 rfl (by decide) (BF rfl underlying26 (Kb rfl)) (TO.MM rfl rfl rfl h6 rfl (by decide) (ki rfl rfl rfl rfl) (tp rfl (HK rfl rfl h6 rfl) (TO.nil (Fin.go (EO 0 2 3 4 8 9 65 66 70 71 87 rfl ?_)))))))
 refine Tr.cn rfl ?_ ?_<;>intro h7 q7
 refine Tr.An (tp rfl (Ae rfl K8 (vl rfl)) (TO.rd 1 rfl rfl rfl (by decide) (B4 rfl U4 (vl rfl) rfl) (tm rfl (tm rfl (tp rfl (Ai (rows:=[(0,[_]),(1,[_])]) rfl pI Ya ⟨⟨rfl,(Vo rfl)⟩,⟨⟨rfl,(Vo rfl)⟩,trivial⟩⟩ rfl) (tp rfl (AL (xs:=[.tmp 92]) (rows:=[_]) rfl rfl underlying26 F_ jw rfl (by decide) ⟨⟨(by exact rfl),(Va rfl)⟩,trivial⟩ (by decide)) ?_))))))
 refine TO.DP 0 rfl rfl (by decide) (Bl rfl rfl rfl rfl underlying26 F_ pH jw (Kb rfl) (Kf rfl) (Aq (by exact List.Mem.head _) (Ka rfl))) (fun v5=> ?_)
 refine tp rfl (Ae rfl K8 (vl rfl)) (TO.Dp 1 rfl rfl (Ay rfl rfl (vl rfl) (Vo rfl) ot rfl (by exact Nb rfl) rfl) (TO.nil (Fin.block (Fin.go (Oe 0 2 3 4 8 65 66 70 71 rfl (Tr.AW (GV rfl rfl rfl rfl (by omega) (cm rfl (Ch.nil ?_)))))))))
 refine Fin.IC 1 [slice 9 (es.map BP),Ag v5 (G8 (Wo++[(⟨((i:Nat):Int),((j:Nat):Int)⟩:HE)])),is (.slice none 0 0)] rfl ⟨Lr,Au (by rw [List.map_append];rfl),Lr,trivial⟩ ?_
 exact Fin.DU (j+1) (Wo++[(⟨((i:Nat):Int),((j:Nat):Int)⟩:HE)]) (_) v5 (⟨⟨by omega,by simp;omega,hj3.snoc ⟨by omega,by omega⟩ ⟨by omega,by omega⟩ (by omega)⟩,by omega⟩) ⟨⟨_,rfl,AD j⟩,ke rfl,ke rfl,ke rfl,ke rfl,ke rfl,ke rfl,ke rfl,ke rfl,trivial⟩ (fun _ _ h=>h)
 refine Tr.skip (Fin.block (Fin.go (Tr.AW (GV rfl rfl rfl rfl (by omega) (cm rfl (Ch.nil (Fin.DU (j+1) (Wo) (_) u (⟨⟨by omega,hj2,hj3.step⟩,by omega⟩) ⟨⟨_,rfl,AD j⟩,ke rfl,ke rfl,ke rfl,ke rfl,ke rfl,ke rfl,ke rfl,ke rfl,trivial⟩ (fun _ _ h=>h))))))))
 have q6:=D_.Ey h6
 iterate 4 refine TO.RL rfl rfl rfl (BG h6) rfl (by decide) ?_
 refine tp rfl (HM rfl rfl h6 rfl) (TO.nil (Fin.go (EO 0 2 3 4 8 9 65 66 70 71 87 rfl (Tr.cond rfl (fun h=>nomatch h) (fun _=> ?_)))))
 refine Tr.skip (Fin.block (Fin.go (Tr.AW (GV rfl rfl rfl rfl (by omega) (cm rfl (Ch.nil (Fin.DU (j+1) (Wo) (_) u (⟨⟨by omega,hj2,hj3.step⟩,by omega⟩) ⟨⟨_,rfl,AD j⟩,ke rfl,ke rfl,ke rfl,ke rfl,ke rfl,ke rfl,ke rfl,ke rfl,trivial⟩ (fun _ _ h=>h))))))))
 have q5:=D_.Ey h5
 refine TO.RL rfl rfl rfl (BG h5) rfl (by decide) (TO.RL rfl rfl rfl (BG h5) rfl (by decide) (TO.RL rfl rfl rfl (BG h5) rfl (by decide) (tp rfl (HM rfl rfl h5 rfl) (tm rfl ?_))))
 iterate 4 refine TO.RL rfl rfl rfl (BG rfl) rfl (by decide) ?_
 refine tp rfl (HM rfl rfl rfl rfl) (TO.nil (Fin.go (EO 0 2 3 4 8 9 65 66 70 71 87 rfl (Tr.cond rfl (fun h=>nomatch h) (fun _=> ?_)))))
 refine Tr.skip (Fin.block (Fin.go (Tr.AW (GV rfl rfl rfl rfl (by omega) (cm rfl (Ch.nil (Fin.DU (j+1) (Wo) (_) u (⟨⟨by omega,hj2,hj3.step⟩,by omega⟩) ⟨⟨_,rfl,AD j⟩,ke rfl,ke rfl,ke rfl,ke rfl,ke rfl,ke rfl,ke rfl,ke rfl,trivial⟩ (fun _ _ h=>h))))))))
 have hje:j=(2+s.val 2).toNat:=by have:=D_.Ey h4;rw [Ta] at this;omega
 refine Tr.exit (Fin.AS (Fin.AS (Fin.Ak (Fin.block (Fin.go (Tr.AW (GV rfl rfl rfl rfl (by omega) (cm rfl (Ch.nil (Fin.DU (i+1) (Wo) (_) u (⟨⟨by omega,hj2,hj3.row⟩,by omega⟩) ⟨⟨_,rfl,AD i⟩,ke rfl,ke rfl,ke rfl,ke rfl,ke rfl,trivial⟩ (fun _ _ h=>h)))))))))))
 have hie:i=(2+s.val 2).toNat:=by have:=D_.Ey h3;rw [Ta] at this;omega
 refine Tr.exit (Fin.AS (Fin.AS (Fin.Ak (Fin.go (Tr.seq (Tr.seq (Tr.AW (co rfl (Ae rfl K8 (vl rfl)) (co rfl (Dr 1 rfl (B4 rfl U4 (vl rfl) rfl)) (co rfl (BF rfl underlying26 (Kb rfl)) (co rfl (ki rfl rfl rfl rfl) (Ch.nil (Fin.go ?_)))))))))))))
 refine Tr.cn rfl ?_ ?_<;>intro h8 q8
 refine Tr.An (tp rfl (Ai (rows:=[(0,[_]),(1,[_])]) rfl pI Ya ⟨⟨rfl,(Vo rfl)⟩,⟨⟨rfl,(Vo rfl)⟩,trivial⟩⟩ rfl) (tp rfl (AL (xs:=[.tmp 102]) (rows:=[_]) rfl rfl underlying26 F_ jw rfl (by decide) ⟨⟨(by exact rfl),(Va rfl)⟩,trivial⟩ (by decide)) ?_))
 refine tp rfl (Ae rfl K8 (vl rfl)) (TO.Dp 1 rfl rfl (Ay rfl rfl (vl rfl) (Vo rfl) ot rfl (by exact Nb rfl) rfl) (TO.nil (Fin.go (CR 0 2 3 rfl (Tr.seq (Tr.seq ?_))))))
 have hv9:=s3.Cf (n:=3) (by omega)
 obtain ⟨T6,hge,lC,lD,lE⟩:∃l:List HE,l=[⟨0,1⟩]∧(∀k,k<l.length→Cz (2+s.val 2).toNat l k=true)∧1≤l.length∧l.length≤3:=⟨_,rfl,((T4.nil (2+s.val 2).toNat 0 1).snoc ⟨by omega,by omega⟩ ⟨by omega,by omega⟩ (by omega)).at_,by simp,by simp⟩
 refine Tr.IC 1 [slice 9 (es.map BP),G8 T6,is (.slice none 0 0)] rfl ⟨Lr,Pr.le_trans (Bp _ _) (Pr.le_of_eq (by rw [hge];rfl)),Lr,trivial⟩ ?_
 refine Tr.drop 0 (Tr.An (tm rfl (TO.Jv 2 rfl rfl (by decide) (Aw rfl rfl (by decide) rfl (CC (by omega) (by omega)) ⟨ke rfl,ke rfl,trivial⟩) (tm rfl (TO.nil (Fin.go (Tr.block (Tr.IC 0 [slice 9 (es.map BP),G8 T6,Ag (.slice none 0 0) (Np [])] rfl ⟨Lr,Lr,BX rfl,trivial⟩ (Tr.Bs 82 5 ?_)))))))))
 refine Tr.Ec [(0,_),(2,_),(3,_)] ⟨ke rfl,ke rfl,ke rfl,trivial⟩ (fun (q:Int) (its:List Qr) (s5:DS) x=>[(10,int q)]) (fun (q:Int) (its:List Qr) (s5:DS) x=>Hp M0 w0 S (Ap 82 5 x::AE true b2 29 [slice 9 (es.map BP),G8 T6,Ag x (Np its)]::AE true b1 29 (([.slice none 0 0,.slice none 0 0,.slice none 0 0]:List Value).map is)::Cv b s5::At M1 w1::rs)) (fun (q:Int) (its:List Qr) (s5:DS)=>0≤q∧q+its.length≤2∧∀x∈its,T3 x) (fun (q:Int) (its:List Qr) (s5:DS)=>q.toNat) (_) ([]) (_) (.slice none 0 0) (⟨by omega,by simp;omega,fun x h=>by simp at h⟩) ⟨ke rfl,trivial⟩ (fun _ _ h=>h) ?_
 rintro q its s5 x ⟨hq1,WI,hqi⟩
 refine Tr.seq (Tr.seq (Tr.AW (cm rfl (co rfl (ki rfl rfl rfl rfl) (Ch.nil (Fin.go ?_))))))
 refine Tr.cn rfl ?_ ?_<;>intro h9 q9
 have kH:0<q:=of_decide_eq_true h9
 refine Tr.skip (Fin.go (Tr.seq (Tr.block (Tr.pad (Tr.IB mixed [none,some (0,2,false,0),none,none,none,some (0,4,true,0),some (0,4,true,0),none,some (0,1,true,119),none,some (0,2,true,119)] (by kernel_rfl) (xo rfl (fun _=>Ae rfl K9 (vl rfl)) (H9 2 rfl rfl (B4 rfl YR (vl rfl) rfl) (xm rfl (xm rfl (xo rfl (fun _=>AL (xs:=[.const (.string ⟨[98,97,99,107,117,112].toArray⟩),.const (.string ⟨[100,101,101,100].toArray⟩)]) (rows:=[[_],[_]]) rfl rfl underlying64 MI z9 rfl (by decide) ⟨⟨(by exact rfl),(Vo rfl)⟩,⟨⟨(by exact rfl),(Vo rfl)⟩,trivial⟩⟩ (by decide)) ?_))))))))))
 refine Cx.ef 4 rfl rfl (by decide) (Aw rfl rfl (by decide) rfl (R7 (l:=[[98,97,99,107,117,112],[100,101,101,100]]) (by simp) (by simp)) ⟨ke rfl,(Kf rfl),trivial⟩) ?_
 refine Cx.ef 4 rfl rfl (by decide) (Aw rfl rfl (by decide) rfl (Vc) ⟨ke rfl,ke rfl,trivial⟩) (xo rfl (fun _=>AL (xs:=[.tmp 117]) (rows:=[_]) rfl rfl underlying27 KG cq rfl (by decide) ⟨⟨(by exact rfl),(Va rfl)⟩,trivial⟩ (by decide)) ?_)
 refine Cx.ef 1 rfl rfl (by decide) (Bl rfl rfl rfl rfl underlying27 KG jz cq (Kb rfl) (Kf rfl) (Aq (by exact List.Mem.head _) (Ka rfl))) ?_
 refine xo rfl (fun _=>Ae rfl K9 (vl rfl)) (Cx.Dp 2 rfl rfl (Fg rfl rfl rfl (vl rfl) rfl jZ (by exact Nb rfl)) ?_)
 refine Cx.nil ⟨rfl,?_⟩
 refine BQ.PB 1 2 119 rfl rfl (by decide) rfl (fun v6=> ?_)
 refine BQ.done (BC.cons (BC.cons (BC.cons (BC.cons (BC.cons (BC.cons (BC.map _))))))) (Fin.block (Fin.go (Tr.drop 0 (D7 0 2 3 10 rfl (Tr.AW (cm rfl (gq rfl rfl rfl rfl (by omega) (cm rfl (Ch.nil ?_)))))))))
 refine Fin.IC 1 [slice 9 (es.map BP),G8 T6,Ag v6 (Np (its++[(Pa s5.CE (IV s5 [Ji,T5]))]))] rfl ⟨Lr,Lr,Au (by rw [List.map_append];rfl),trivial⟩ ?_
 exact Fin.DU (q-1) (its++[(Pa s5.CE (IV s5 [Ji,T5]))]) (_) v6 (⟨⟨by omega,by simp;omega,SE hqi (Vb (Vd s5))⟩,by omega⟩) ⟨⟨_,rfl,int_eq (by omega)⟩,ke rfl,ke rfl,ke rfl,trivial⟩ (fun _ _ h=>h)
 have kH:¬0<q:=of_decide_eq_false h9
 refine Tr.exit (Fin.AS (Fin.AS (Fin.Ak (Fin.go (Tr.seq (Tr.An (TO.rd 1 rfl rfl rfl (by decide) (B_ rfl Cu Ct (vl rfl) rfl rfl) (TO.AK 2 rfl rfl rfl (vl rfl) (Va rfl) rfl Ct rfl rfl (TO.nil (Fin.go (Tr.ret (Fin.Fv 3 _ rfl rfl (Fin.Fx [_,_,_] rfl (AP.cell 2 rfl rfl Cu Ct rfl (Lr)) ?_ (fun _ _ _ _=>rfl))))))))))))))
 · exact AG ⟨es,T6,its⟩ (AU ⟨by show 2≤es.length;omega,by show es.length≤3;omega,ni,by show ∀k,k<T6.length→Cz es.length T6 k=true;rw [hk2,VR];exact lC,lD,lE,hqi,by show its.length≤2;omega⟩ (Ar ⟨Lr,Lr,Ah _ _,trivial⟩))
 refine Tr.skip (Fin.go (Tr.seq (Tr.seq ?_)))
 have hv9:=s3.Cf (n:=3) (by omega)
 obtain ⟨T6,hge,lC,lD,lE⟩:∃l:List HE,l=gs∧(∀k,k<l.length→Cz (2+s.val 2).toNat l k=true)∧1≤l.length∧l.length≤3:=⟨_,rfl,hi3.at_,by have h_:=h8;simp at h_;exact List.length_pos_iff.2 h_,hi2⟩
 refine Tr.IC 1 [slice 9 (es.map BP),G8 T6,is (.slice none 0 0)] rfl ⟨Lr,Pr.le_trans (Ah _ _) (Pr.le_of_eq (by rw [hge])),Lr,trivial⟩ (Tr.drop 0 (Tr.An (tm rfl (TO.Jv 2 rfl rfl (by decide) (Aw rfl rfl (by decide) rfl (CC (by omega) (by omega)) ⟨ke rfl,ke rfl,trivial⟩) (tm rfl (TO.nil (Fin.go (D7 0 2 3 10 rfl (Tr.block (Tr.IC 0 [slice 9 (es.map BP),G8 T6,Ag (.slice none 0 0) (Np [])] rfl ⟨Lr,Lr,BX rfl,trivial⟩ (Tr.Bs 82 5 ?_)))))))))))
 refine Tr.Ec [(0,_),(2,_),(3,_)] ⟨ke rfl,ke rfl,ke rfl,trivial⟩ (fun (q:Int) (its:List Qr) (s5:DS) x=>[(10,int q)]) (fun (q:Int) (its:List Qr) (s5:DS) x=>Hp M0 w0 S (Ap 82 5 x::AE true b2 29 [slice 9 (es.map BP),G8 T6,Ag x (Np its)]::AE true b1 29 (([.slice none 0 0,.slice none 0 0,.slice none 0 0]:List Value).map is)::Cv b s5::At M1 w1::rs)) (fun (q:Int) (its:List Qr) (s5:DS)=>0≤q∧q+its.length≤2∧∀x∈its,T3 x) (fun (q:Int) (its:List Qr) (s5:DS)=>q.toNat) (_) ([]) (_) (.slice none 0 0) (⟨by omega,by simp;omega,fun x h=>by simp at h⟩) ⟨ke rfl,trivial⟩ (fun _ _ h=>h) ?_
 rintro q its s5 x ⟨hq1,WI,hqi⟩
 refine Tr.seq (Tr.seq (Tr.AW (cm rfl (co rfl (ki rfl rfl rfl rfl) (Ch.nil (Fin.go ?_))))))
 refine Tr.cn rfl ?_ ?_<;>intro h10 Oa
 have kH:0<q:=of_decide_eq_true h10
 refine Tr.skip (Fin.go (Tr.seq (Tr.block (Tr.pad (Tr.IB mixed [none,some (0,2,false,0),none,none,none,some (0,4,true,0),some (0,4,true,0),none,some (0,1,true,119),none,some (0,2,true,119)] (by kernel_rfl) (xo rfl (fun _=>Ae rfl K9 (vl rfl)) (H9 2 rfl rfl (B4 rfl YR (vl rfl) rfl) (xm rfl (xm rfl (xo rfl (fun _=>AL (xs:=[.const (.string ⟨[98,97,99,107,117,112].toArray⟩),.const (.string ⟨[100,101,101,100].toArray⟩)]) (rows:=[[_],[_]]) rfl rfl underlying64 MI z9 rfl (by decide) ⟨⟨(by exact rfl),(Vo rfl)⟩,⟨⟨(by exact rfl),(Vo rfl)⟩,trivial⟩⟩ (by decide)) ?_))))))))))
 refine Cx.ef 4 rfl rfl (by decide) (Aw rfl rfl (by decide) rfl (R7 (l:=[[98,97,99,107,117,112],[100,101,101,100]]) (by simp) (by simp)) ⟨ke rfl,(Kf rfl),trivial⟩) ?_
 refine Cx.ef 4 rfl rfl (by decide) (Aw rfl rfl (by decide) rfl (Vc) ⟨ke rfl,ke rfl,trivial⟩) (xo rfl (fun _=>AL (xs:=[.tmp 117]) (rows:=[_]) rfl rfl underlying27 KG cq rfl (by decide) ⟨⟨(by exact rfl),(Va rfl)⟩,trivial⟩ (by decide)) ?_)
 refine Cx.ef 1 rfl rfl (by decide) (Bl rfl rfl rfl rfl underlying27 KG jz cq (Kb rfl) (Kf rfl) (Aq (by exact List.Mem.head _) (Ka rfl))) ?_
 refine xo rfl (fun _=>Ae rfl K9 (vl rfl)) (Cx.Dp 2 rfl rfl (Fg rfl rfl rfl (vl rfl) rfl jZ (by exact Nb rfl)) ?_)
 refine Cx.nil ⟨rfl,?_⟩
 refine BQ.PB 1 2 119 rfl rfl (by decide) rfl (fun v7=> ?_)
 refine BQ.done (BC.cons (BC.cons (BC.cons (BC.cons (BC.cons (BC.cons (BC.map _))))))) (Fin.block (Fin.go (Tr.drop 0 (D7 0 2 3 10 rfl (Tr.AW (cm rfl (gq rfl rfl rfl rfl (by omega) (cm rfl (Ch.nil ?_)))))))))
 refine Fin.IC 1 [slice 9 (es.map BP),G8 T6,Ag v7 (Np (its++[(Pa s5.CE (IV s5 [Ji,T5]))]))] rfl ⟨Lr,Lr,Au (by rw [List.map_append];rfl),trivial⟩ ?_
 exact Fin.DU (q-1) (its++[(Pa s5.CE (IV s5 [Ji,T5]))]) (_) v7 (⟨⟨by omega,by simp;omega,SE hqi (Vb (Vd s5))⟩,by omega⟩) ⟨⟨_,rfl,int_eq (by omega)⟩,ke rfl,ke rfl,ke rfl,trivial⟩ (fun _ _ h=>h)
 have kH:¬0<q:=of_decide_eq_false h10
 refine Tr.exit (Fin.AS (Fin.AS (Fin.Ak (Fin.go (Tr.seq (Tr.An (TO.rd 1 rfl rfl rfl (by decide) (B_ rfl Cu Ct (vl rfl) rfl rfl) (TO.AK 2 rfl rfl rfl (vl rfl) (Va rfl) rfl Ct rfl rfl (TO.nil (Fin.go (Tr.ret (Fin.Fv 3 _ rfl rfl (Fin.Fx [_,_,_] rfl (AP.cell 2 rfl rfl Cu Ct rfl (Lr)) ?_ (fun _ _ _ _=>rfl))))))))))))))
 · exact AG ⟨es,T6,its⟩ (AU ⟨by show 2≤es.length;omega,by show es.length≤3;omega,ni,by show ∀k,k<T6.length→Cz es.length T6 k=true;rw [hk2,VR];exact lC,lD,lE,hqi,by show its.length≤2;omega⟩ (Ar ⟨Lr,Lr,Ah _ _,trivial⟩))
end Go.Proofs.YtmpglcehonnpkaaGreat
namespace Cp
open Go Go.RowKit
theorem HW {P:Program} {E:Env} {I:CT} {o:Oper} {t e:TypeId} {y:Operand} {sz bytes:Nat} {zs:List Value} {rows:List (List Pr)} (ho:o.op= .call { callee:= .builtin .append,args:= #[.const (.slice none 0 0),y],argTypes:= #[t,t] })
  (ht:P.underlying t=some (.slice e)) (hz:Ax P e=some sz) (hby:Bi P e=some bytes) (EZ:BJ P e=some zs) (hzl:zs.length=sz) (hsz:0<sz) (hy:VL E y (slice sz rows)) (FG:rows.length≤maxLen) (hfit:rows.length*bytes≤140737488355328):Ac P I o E (slice sz rows):=
 Ac.val fun M w a he hI=>by
  have h0:=(A8.begin (I.bd _ _ hI)).J8 (r:=CD) rfl trivial
  obtain ⟨v',w',M',h1,h2,h3,h4⟩:=RX (ty:=o.type) (j:=0) (v:= .slice none 0 0) (rows:=[]) ht hz hby EZ hzl hsz h0 rfl (.inr ⟨rfl,rfl⟩) (AF sz M w _ rfl) (hy.ev he (by simp [ho,Op.operands,Call.operands])) (by simpa using FG) (by simpa using hfit)
  have h5:a.eval (.const (.slice none 0 0))= .slice none 0 0:=rfl
  exact ⟨v',w',by simp [execOp,ho,resolve,invoke,builtin,h1,h5],(slice sz rows).st _ _ _ _ _ (Ext.less h4.m) (by simpa using h2),h4.below⟩
theorem TO.O_ {P:Program} {n:Fm} {E:Env} {M0:Av} {w0:World} {S:Nat→Prop} {rs:List As} {ops:Array Oper} {r:List Oper} {Q:Exit→Act→World→Prop} (i:Nat) {T:TypeId} {b:Nat} (hi:rs[i]? =some (HP T b)) (k:∀s,TO P n ops r E (Hp M0 w0 S (rs.set i (Re T b s))) Q):TO P n ops r E (Hp M0 w0 S rs) Q:=by
 rintro m hl a w ⟨M,h1,h2,h3,h4⟩
 have h4:A8 M0 w0 S rs M w:=h4
 obtain ⟨x,hx,hh⟩:=(h4.hold _ (List.mem_of_getElem? hi)).1
 exact k x m hl a w ⟨M,h1,h2,h3,h4.Cm hi rfl rfl hh⟩
theorem Ac.K5 {P:Program} {E:Env} {I:CT} {o:Oper} {p:Pr} (s:Nat) {α:Type} {f:α→Pr} (hs:E.lookup s=some (Cp.ex f)) (hm:s∈looks o) (h:∀x,Ac P I o ((s,f x)::E) p):Ac P I o E p:=by
 intro M w a he hI
 obtain ⟨x,hx⟩:=he s _ hm hs
 refine h x M w a (fun t q ht hq=> ?_) hI
 simp only [List.lookup] at hq
 by_cases hts:t=s
 · subst hts;simp at hq;subst hq;exact hx
 · rw [show (t==s)=false by simpa using hts] at hq;exact he t q ht hq
theorem Ac.opf {P:Program} {E:Env} {I:CT} {o:Oper} {p q:Pr} {φ:Prop} (s:Nat) (hs:E.lookup s=some (Cp.fact φ q)) (hm:s∈looks o) (h:φ→Ac P I o ((s,q)::E) p):Ac P I o E p:=by
 intro M w a he hI
 obtain ⟨hφ,hx⟩:=he s _ hm hs
 refine h hφ M w a (fun t r ht hr=> ?_) hI
 simp only [List.lookup] at hr
 by_cases hts:t=s
 · subst hts;simp at hr;subst hr;exact hx
 · rw [show (t==s)=false by simpa using hts] at hr;exact he t r ht hr
end Cp
namespace Cp
open Go Go.RowKit Go.Great
section
variable {P:Program} {L:Lg P} {n:Fm} {fz:Nat} {E:Env} {M0:Av} {w0:World} {S:Nat→Prop} {rs:List As}
theorem A8.SF {i:Nat} {r r':As} {M:Av} {w:World} (h:A8 M0 w0 S rs M w) (hi:rs[i]? =some r) (hb:∀b,r'.blk=some b→r.blk=some b) (hn:r'.new=r.new) (hh:r'.h M w):A8 M0 w0 S (rs.set i r') M w:=by
 have FF:i<rs.length:=by rcases Nat.lt_or_ge i rs.length with h|h;exact h;rw [List.getElem?_eq_none h] at hi;cases hi
 have h1:=A8.perm (It hi) h
 refine A8.perm (J7 FF) ⟨h1.m0,h1.m,h1.os,h1.tape,h1.output,h1.size,h1.block,h1.bd,fun q hq=> ?_,?_⟩
 ·
  rcases List.mem_cons.1 hq with rfl|hq
  · exact ⟨hh,fun b hbk=>by rw [hn];exact (h1.hold r (by simp)).2 b (hb b hbk)⟩
  · exact h1.hold q (by simp [hq])
 ·
  obtain ⟨h2,h3⟩:=List.pairwise_cons.1 h1.nd
  exact List.Pairwise.cons (fun q hq b hbk=>h2 q hq b (hb b hbk)) h3
theorem A8.Nq {j:Nat} {e:TypeId} {sz:Nat} {rows:List (List Pr)} {v:Value} {M:Av} {w:World} (h:A8 M0 w0 S rs M w) (hj:rs[j]? =some (Bb e sz rows v)):A8 M0 w0 S (rs.set j (CN e sz rows v)) M w:=by
 rcases (h.hold _ (List.mem_of_getElem? hj)).1 with ⟨h1,h2⟩|⟨b,cap,sp,h1,h2,h3,h4,h5⟩
 ·
  subst h2
  exact h.SF hj (fun b hb=>by cases hb) rfl (.inl ⟨h1,_,rfl⟩)
 ·
  subst h1
  cases cap with
  |zero=>
   have hr:rows=[]:=List.eq_nil_of_length_eq_zero (by omega)
   subst hr
   exact h.SF hj (fun b hb=>by cases hb) rfl (.inl ⟨rfl,_,rfl⟩)
  |succ c=>exact h.SF hj (fun b hb=>hb) rfl (.inr ⟨b,c,sp,rfl,h2,h3,h4,h5⟩)
theorem Fin.Nq {Q:Exit→Act→World→Prop} {x:Exit} {e:TypeId} {sz:Nat} {rows:List (List Pr)} {v:Value} (j:Nat) (hj:rs[j]? =some (Bb e sz rows v)) (k:Fin n E (Hp M0 w0 S (rs.set j (CN e sz rows v))) Q x):Fin n E (Hp M0 w0 S rs) Q x:=
 Fin.conv (fun a w hs=>by
  obtain ⟨M,h1,h2,h3,h4⟩:=hs
  have h4:A8 M0 w0 S rs M w:=h4
  exact ⟨M,h1,h2,h3,h4.Nq hj⟩) k
theorem Tr.Nq {Q:Exit→Act→World→Prop} {c:Code} {e:TypeId} {sz:Nat} {rows:List (List Pr)} {v:Value} (j:Nat) (hj:rs[j]? =some (Bb e sz rows v)) (k:Tr L n E (Hp M0 w0 S (rs.set j (CN e sz rows v))) c Q):Tr L n E (Hp M0 w0 S rs) c Q:=
 Tr.conv (fun _ _ ⟨M,h1,h2,h3,h4⟩=>⟨M,h1,h2,h3,A8.Nq h4 hj⟩) k
end
end Cp
namespace Cp
open Go Go.RowKit
theorem eZ {β:Type} {f:β→Pr} {ps:List Pr} {M:Av} {w:World} {ad:Addr} {n:Nat} (h:Row M w ad n (ps++[Cp.ex f])):∃x,Row M w ad n (ps++[f x]):=by
 obtain ⟨u,h1,h2,h3,x,h4⟩:=h ps.length (Cp.ex f) (by simp)
 refine ⟨x,fun j p hp=> ?_⟩
 rcases Nat.lt_trichotomy j ps.length with hj|hj|hj
 · exact h j p (by rw [List.getElem?_append_left hj] at hp ⊢;exact hp)
 · subst hj;simp at hp;subst hp;exact ⟨u,h1,h2,h3,h4⟩
 · rw [List.getElem?_eq_none (by simp;omega)] at hp;cases hp
theorem Wp {φ:Prop} {q:Pr} {ps:List Pr} {M:Av} {w:World} {ad:Addr} {n:Nat} (h:Row M w ad n (ps++[fact φ q])):φ∧Row M w ad n (ps++[q]):=by
 obtain ⟨u,h1,h2,h3,hφ,h4⟩:=h ps.length (fact φ q) (by simp)
 refine ⟨hφ,fun j p hp=> ?_⟩
 rcases Nat.lt_trichotomy j ps.length with hj|hj|hj
 · exact h j p (by rw [List.getElem?_append_left hj] at hp ⊢;exact hp)
 · subst hj;simp at hp;subst hp;exact ⟨u,h1,h2,h3,h4⟩
 · rw [List.getElem?_eq_none (by simp;omega)] at hp;cases hp
theorem T7 {α β:Type} {f:α→List Pr} {g:β→List Pr} {φ:α→β→Prop} {sz:Nat} (h:∀a M w ad n,Row M w ad n (f a)→∃b,φ a b∧Row M w ad n (g b)) (hf:∀a,(f a).length=sz) (hg:∀b,(g b).length=sz) (ms:List α):
  Pr.le (slice sz (ms.map f)) (Cp.ex fun l:List β=>fact (l.length=ms.length∧∀(i:Nat) a b,ms[i]? =some a→l[i]? =some b→φ a b) (slice sz (l.map g))):=by
 rintro M w v ⟨a,cap,hv,h1,h2,h3,h5⟩
 have hk:∀k,k≤ms.length→∃l:List β,l.length=k∧(∀(i:Nat) a b,ms[i]? =some a→l[i]? =some b→φ a b)∧∀(i:Nat) b,l[i]? =some b→∃ad,a=some ad∧Row M w ad (i*sz) (g b):=by
  intro k
  induction k with
  |zero=>intro _;exact ⟨[],rfl,by simp,by simp⟩
  |succ k ih=>
   intro hk
   obtain ⟨l,hl,hp,hr⟩:=ih (by omega)
   obtain ⟨x,hx⟩:∃x,ms[k]? =some x:=⟨ms[k],List.getElem?_eq_getElem (by omega)⟩
   obtain ⟨_,ad,had,hrow⟩:=h5 k (f x) (by rw [List.getElem?_map,hx];rfl)
   obtain ⟨b,OV,RH⟩:=h x M w ad (k*sz) hrow
   refine ⟨l++[b],by simp [hl],fun i y c hy hc=> ?_,fun i c hc=> ?_⟩
   ·
    rcases Nat.lt_trichotomy i k with hi|hi|hi
    · rw [List.getElem?_append_left (by omega)] at hc;exact hp i y c hy hc
    · subst hi;rw [List.getElem?_append_right (by omega),hl] at hc;simp at hc;subst hc;rw [hx] at hy;cases hy;exact OV
    · rw [List.getElem?_eq_none (by simp [hl];omega)] at hc;cases hc
   ·
    rcases Nat.lt_trichotomy i k with hi|hi|hi
    · rw [List.getElem?_append_left (by omega)] at hc;exact hr i c hc
    · subst hi;rw [List.getElem?_append_right (by omega),hl] at hc;simp at hc;subst hc;exact ⟨ad,had,RH⟩
    · rw [List.getElem?_eq_none (by simp [hl];omega)] at hc;cases hc
 obtain ⟨l,hl,hp,hr⟩:=hk ms.length (Nat.le_refl _)
 rw [List.length_map] at hv h1
 refine ⟨l,⟨hl,hp⟩,a,cap,by rw [List.length_map,hl];exact hv,by rw [List.length_map,hl];exact h1,h2,h3,fun i row hrow=> ?_⟩
 rw [List.getElem?_map] at hrow
 cases hb:l[i]? with
 |none=>rw [hb] at hrow;cases hrow
 |some b=>
  rw [hb] at hrow;simp at hrow;subst hrow
  exact ⟨hg b,hr i b hb⟩
end Cp
namespace Go.Proofs.YtmpglcehonnpkaaGreat
open Go Go.RowKit Cp Go.Proofs.Tryz
theorem rj {d:Nat} {w:World} {x0 y0:Int} {x1 y1:Int}:(Op.equalIn (d+2) 79 (.agg #[.int .i64 x0,.int .i64 x1]) (.agg #[.int .i64 y0,.int .i64 y1])).run Tryz.prog w= .ok (decide (x0=y0∧x1=y1)) w:=by
 have h:=eqS (w:=w) (d:=d+1) (xs:= #[.int .i64 x0,.int .i64 x1]) (ys:= #[.int .i64 y0,.int .i64 y1]) Tryz.underlying79 (by kernel_rfl) (ED (by decide) (Bn Bo rfl) (Bn Bo rfl) (FA (d:=d+0) Tryz.underlying3) (ED (by decide) (Bn Bo rfl) (Bn Bo rfl) (FA (d:=d+0) Tryz.underlying3) (KM)))
 refine h.trans (congrArg (fun b=>Result.ok b w) ?_)
 rw [Bool.eq_iff_iff];simp [and_assoc]
theorem ec {E:Env} {I:CT} {o:Oper} {u:TypeId} {x y:Operand} {x0 y0:Int} {x1 y1:Int} (ho:o.op= .binOp .neq 79 x y u) (hx:VL E x (agg [is (.int .i64 x0),is (.int .i64 x1)])) (hy:VL E y (agg [is (.int .i64 y0),is (.int .i64 y1)])):Ac Tryz.prog I o E (bool (!decide (x0=y0∧x1=y1))):=
 NT [.int .i64 x0,.int .i64 x1] [.int .i64 y0,.int .i64 y1] ho hx hy (by kernel_rfl) (fun w=>by rw [show Op.equal 79 _ _=Op.equalIn (9998+2) 79 _ _ from rfl];exact rj)
def setAt (n:Int) (l:List Int) (i:Nat):Bool:=decide (0≤l[i]?.getD 0)&&decide (l[i]?.getD 0<n)&&(decide (i=0)||decide (l[i-1]?.getD 0<l[i]?.getD 0))
def FP (n:Int) (l:List Int):Bool:=allI (setAt n l) l.length
theorem Nr {l:List Int} {n:Int}  :Az prog 130 [ints l,int n] (bool (FP n l)):=by
 refine fo func130 rfl ⟨rfl,rfl⟩ fun M0 w0=>(Tr.C8 0 rfl fun Et=> ?_)
 refine a2 ?_
 refine Tr.block (Tr.A7 [(0,_),(1,_),(7,_),(8,_)] (TN rfl) (fun k:Nat=>[(9,int ((k:Nat):Int))]) (fun k:Nat=>k≤(l).length∧(∀j,j<k→setAt n l j=true)) (fun k:Nat=>(l).length-k) 0 (⟨Nat.zero_le _,fun j hj=>absurd hj (by omega)⟩) ⟨ke rfl,trivial⟩ ?_)
 rintro k ⟨BN,Ab⟩
 refine ac ?_
 refine Tr.seq ?_
 refine Tr.cn rfl ?_ ?_<;>intro h1 q1
 have Af:k<(l).length:=AH h1
 obtain ⟨x,Ad⟩:=at_ Af
 have hg:=getD_at (d:=(0:Int)) Ad
 refine a2 ?_
 refine co rfl (AA rfl underlying101 Bh (vl rfl) (vl rfl) (by omega) (AO Ad)) ?_
 refine ac ?_
 refine ag ?_ ?_<;>intro h2 q2
 refine ac ?_
 refine Jw 0 1 7 8 9 33 rfl ?_
 refine a2 ?_
 · refine bool_eq ?_;unfold FP;rw [Nf (p:=setAt n l) (k:=k) (by omega) (by unfold setAt;rw [hg];simp_all;omega)]
 refine ag ?_ ?_<;>intro h3 q3
 refine ac ?_
 refine Jw 0 1 7 8 9 33 rfl ?_
 refine a2 ?_
 · refine bool_eq ?_;unfold FP;rw [Nf (p:=setAt n l) (k:=k) (by omega) (by unfold setAt;rw [hg];simp_all;omega)]
 refine ag ?_ ?_<;>intro h4 q4
 have hk0:0<k:=by simpa using h4
 obtain ⟨y,hy⟩:=at_ (l:=l) (k:=k-1) (by omega)
 have Qt:=getD_at (d:=(0:Int)) hy
 · repeat' first|(refine bool_eq ?_;unfold FP;rw [Nf (p:=setAt n l) (k:=k) (by omega) (by unfold setAt;rw [hg,Qt];simp_all;omega)])|(exact Fin.AM (k+1) ⟨⟨Af,Dc Ab (by unfold setAt;rw [hg,Qt];simp_all)⟩,by omega⟩ ⟨⟨_,rfl,AD k⟩,ke rfl,ke rfl,ke rfl,ke rfl,trivial⟩)|(refine cy h4 rfl (AA rfl underlying101 Bh (vl rfl) (vl rfl) (by omega) (by rw [show ((k:Nat):Int)-1=((k-1:Nat):Int) by omega];exact AO hy)) ?_)|refine ac ?_|(refine Tr.cn rfl ?_ ?_<;>intro h q)
 have Jc:¬0<k:=by simpa using h4
 refine ac ?_
 refine Jw 0 1 7 8 9 33 rfl ?_
 refine a2 ?_
 exact Fin.AM (k+1) ⟨⟨Af,Dc Ab (by unfold setAt;rw [hg];simp_all)⟩,by omega⟩ ⟨⟨_,rfl,AD k⟩,ke rfl,ke rfl,ke rfl,ke rfl,trivial⟩
 have BI:k=(l).length:=by have:=AJ h1;omega
 subst BI
 refine a3 ?_
 · refine bool_eq ?_;unfold FP;rw [Yu Ab]
theorem Ve {l:List Int} {v:Int}  :Az prog 25 [ints l,int v] (bool (l.any fun x=>v==x)):=by
 refine fo func25 rfl ⟨rfl,rfl⟩ fun M0 w0=>(Tr.C8 0 rfl fun Et=> ?_)
 refine a2 ?_
 refine Tr.block (Tr.A7 [(1,_),(7,_),(8,_)] (MW rfl) (fun k:Nat=>[(9,int ((k:Nat):Int))]) (fun k:Nat=>k≤(l).length∧((l.take k).any (fun x=>v==x)=false)) (fun k:Nat=>(l).length-k) 0 (⟨Nat.zero_le _,rfl⟩) ⟨ke rfl,trivial⟩ ?_)
 rintro k ⟨BN,Ab⟩
 refine ac ?_
 refine Tr.seq ?_
 refine Tr.cn rfl ?_ ?_<;>intro h1 q1
 have Af:k<(l).length:=AH h1
 obtain ⟨x,Ad⟩:=at_ Af
 refine ac ?_
 refine Tr.seq (Tr.block (Tr.seq (Tr.AW (co rfl (AA rfl underlying22 Bh (vl rfl) (vl rfl) (by omega) (AO Ad)) ?_))))
 · repeat' first|(refine bool_eq ?_;symm;rw [List.any_eq_true];exact ⟨_,List.mem_of_getElem? Ad,by simp_all⟩)|(exact Fin.AM (k+1) ⟨⟨Af,(by rw [List.take_add_one,Ad,List.any_append,Ab];simp;omega)⟩,by omega⟩ ⟨⟨_,rfl,AD k⟩,ke rfl,ke rfl,ke rfl,trivial⟩)|refine ac ?_|(refine Tr.cn rfl ?_ ?_<;>intro h q)
 have BI:k=(l).length:=by have:=AJ h1;omega
 subst BI
 refine a3 ?_
 · refine bool_eq ?_;rw [List.take_length] at Ab;exact Ab.symm
structure ChS (l:List Hx):Prop where
 fits:∀c∈l,c.fits
 small:(⟨0,0,0,l⟩:H_).small
abbrev chE:Pr:=Cp.ex fun l:List Hx=>fact (ChS l) (Lx l)
abbrev DY (c:BK):List Pr:=[int c.AV,int c.kind,int c.number,int c.at_,int c.Ck.Bq,int c.Ck.bits,int c.Ck.B8,chE]
structure ej (es:List Bk) (c:BK):Prop where
 lo:0≤c.AV
 hi:c.AV<(es.length:Nat)
 kind:1≤c.kind∧c.kind≤12
def G9 (es:List Bk) (l:List BK):Prop:=∀c∈l,ej es c
theorem G9.snoc {es:List Bk} {l:List BK} {c:BK} (h:G9 es l) (hc:ej es c):G9 es (l++[c]):=by
 intro x hx
 rcases List.mem_append.1 hx with hx|hx
 · exact h x hx
 · simp at hx;subst hx;exact hc
theorem G9.two {es:List Bk} {l:List BK} {c d:BK} (h:G9 es l) (hc:ej es c) (hd:ej es d):G9 es (l++[c,d]):=by
 intro x hx
 rcases List.mem_append.1 hx with hx|hx
 · exact h x hx
 · simp at hx;rcases hx with rfl|rfl;exact hc;exact hd
theorem G9.perm {es:List Bk} {l m:List BK} (hp:m.Perm l) (h:G9 es l):G9 es m:=fun c hc=>h c (hp.mem_iff.1 hc)
theorem G9.take {es:List Bk} {l:List BK} {n:Nat} (h:G9 es l):G9 es (l.take n):=fun c hc=>h c (List.mem_of_mem_take hc)
theorem eo:ChS []:=⟨(fun c h=>by cases h),⟨by show 0≤_;omega,(fun c hc=>by cases hc)⟩⟩
theorem Ke:Pr.le (is (.slice none 0 0)) chE:=AG [] (AU eo (AF 15))
theorem eu {nm:List UInt8} (h:nm∈Ee) {a b id key:Int}:Pr.le (kr nm a b id 901 key) chE:=by
 rintro M w v ⟨s,hs,hv⟩
 have hf:=rV (a:=a) (b:=b) (id:=id) (key:=key) (s:=s) h
 exact ⟨_,⟨hf.1,⟨hf.2.chain,hf.2.names⟩⟩,hv⟩
theorem Zf {nm:List UInt8} {a b id to key:Int}:(iS nm a b id to key).le (agg [int a,int b,int id,kr nm a b id to key]):=by
 rintro M w v ⟨s,hs,hv⟩
 exact Ar (ps:=G6 (Gb nm a b id to key s)) (qs:=[int a,int b,int id,kr nm a b id to key]) ⟨Pr.le_refl _,Pr.le_refl _,Pr.le_refl _,fun M w v h=>⟨s,hs,h⟩,trivial⟩ M w v hv
theorem Zg (c:BK) (M:Av) (w:World) (ad:Addr) (n:Nat) (h:Row M w ad n (DY c)):∃b:BK,(b.AV=c.AV∧b.kind=c.kind∧b.number=c.number∧b.at_=c.at_∧ChS b.Ck.chain)∧Row M w ad n (EP b):=by
 obtain ⟨ch,h1⟩:=eZ (ps:=[int c.AV,int c.kind,int c.number,int c.at_,int c.Ck.Bq,int c.Ck.bits,int c.Ck.B8]) h
 obtain ⟨h2,h3⟩:=Wp (ps:=[int c.AV,int c.kind,int c.number,int c.at_,int c.Ck.Bq,int c.Ck.bits,int c.Ck.B8]) h1
 exact ⟨⟨c.AV,c.kind,c.number,c.at_,⟨c.Ck.Bq,c.Ck.bits,c.Ck.B8,ch⟩⟩,⟨rfl,rfl,rfl,rfl,h2⟩,h3⟩
structure ru (es:List Bk) (l:List BK):Prop where
 len:l.length≤7
 any:∀c∈l,xD es c
theorem Qw {es:List Bk} {ms:List BK} (h:G9 es ms) (hl:ms.length≤7):Pr.le (slice 8 (ms.map DY)) (Cp.ex fun l:List BK=>fact (ru es l) (slice 8 (l.map EP))):=by
 intro M w v hv
 obtain ⟨l,⟨h1,h2⟩,h3⟩:=T7 Zg (fun _=>rfl) (fun _=>rfl) ms M w v hv
 refine ⟨l,⟨by omega,fun c hc=> ?_⟩,h3⟩
 obtain ⟨i,hi⟩:=List.getElem?_of_mem hc
 obtain ⟨a,ha⟩:=at_ (l:=ms) (k:=i) (by have:=A0 hi;omega)
 obtain ⟨g1,g2,g3,g4,g5⟩:=h2 i a c ha hi
 have hm:=h a (List.mem_of_getElem? ha)
 exact ⟨by rw [g1];exact hm.lo,by rw [g1];exact hm.hi,by rw [g2];exact hm.kind,g5.fits,⟨g5.small.chain,g5.small.names⟩⟩
theorem ew {b:Nat} {s:DS} {e:C0} (hs:ZQ e.BW) (hl:1≤e.BW.length∧e.BW.length≤3):C2 prog 11 [ptr b 0,agg (Bw e)] (Cp.ex fun l:List BK=>fact (ru e.BW l) (slice 8 (l.map EP))) (Cv b s) (fun _=>HP 61 b):=by
 refine C2.of func11 rfl rfl (by exact Nb rfl) fun M0 w0 S rs M1 w1=> ?_
 refine Tr.seq (Tr.AW (co rfl (BZ rfl (Va rfl)) (cm rfl (Ch.nil (Fin.go (Tr.seq (Tr.AW (cm rfl (Ch.nil (Fin.go (Tr.seq (Tr.An (tm rfl ?_)))))))))))))
 refine TO.Jv 0 rfl rfl (by decide) (Aw rfl rfl (by decide) rfl (CC (by omega) (by omega)) ⟨ke rfl,ke rfl,trivial⟩) (tp rfl (ki rfl rfl rfl rfl) (tm rfl (TO.Jv 0 rfl rfl (by decide) (Aw rfl rfl (by decide) rfl (CC (by omega) (by omega)) ⟨ke rfl,ke rfl,trivial⟩) (tp rfl (ki rfl rfl rfl rfl) (tm rfl (TO.Jv 0 rfl rfl (by decide) (Aw rfl rfl (by decide) rfl (CC (by omega) (by omega)) ⟨ke rfl,ke rfl,trivial⟩) (tp rfl (ki rfl rfl rfl rfl) (tm rfl (tm rfl (tm rfl (TO.nil (Fin.go (Jw 0 3 5 6 7 8 rfl (Tr.seq ?_))))))))))))))
 refine Tr.seq (Tr.AW (co rfl (Kt rfl HQ rfl rfl) (co rfl (DQ rfl PD rfl) (co rfl (BF rfl underlying25 (vl rfl)) (cm rfl (Ch.nil (Fin.go (Tr.block (Tr.TY 87 8 (Tr.Ec [(0,_),(6,_),(7,_),(8,_),(23,_),(24,_)] ⟨ke rfl,ke rfl,ke rfl,ke rfl,ke rfl,ke rfl,trivial⟩ (fun (k:Nat) (ms:List BK) (s2:DS) v=>[(25,int ((k:Nat):Int)),(5,Ag v (lens (ms.map DY).length))]) (fun (k:Nat) (ms:List BK) (s2:DS) v=>Hp M0 w0 S (Bb 87 8 (ms.map DY) v::Cv b s2::At M1 w1::rs)) (fun (k:Nat) (ms:List BK) (s2:DS)=>k≤e.BW.length∧ms.length≤6*k∧G9 e.BW ms) (fun (k:Nat) (ms:List BK) (s2:DS)=>e.BW.length-k) (0) ([]) (_) (.slice none 0 0) (⟨Nat.zero_le _,by simp,fun c hc=>by simp at hc⟩) ⟨ke rfl,⟨_,rfl,NZ (by rfl)⟩,trivial⟩ (fun _ _ h=>h) ?_))))))))))
 rintro k ms s2 v ⟨hk1,yM,Pc⟩
 refine Tr.seq (Tr.AW (co rfl (ki rfl rfl rfl rfl) (Ch.nil (Fin.go (Tr.seq ?_)))))
 refine Tr.cn rfl ?_ ?_<;>intro h1 q1
 have Af:k<e.BW.length:=by have:=D_.Ey h1;omega
 obtain ⟨x,Ad⟩:=at_ Af
 have iY:=hs k x Ad
 have hnm:=List.mem_of_getElem? iY.name
 refine Tr.skip (Fin.go (Tr.seq (Tr.block (Tr.seq (Tr.An (tm rfl (tp rfl (AA rfl underlying25 B5 (vl rfl) (vl rfl) (by omega) (AO Ad)) (tp rfl (AR rfl CW B5 (vl rfl) rfl rfl) ?_))))))))
 refine Tl rfl rfl rfl rfl z70 HR (fun b1=> ?_)
 refine tm rfl (TO.AK 0 rfl rfl rfl (vl rfl) (Va rfl) rfl B5 rfl rfl (TO.freeze 0 10 rfl rfl (TO.nil (Fin.go (G0 0 5 6 7 8 9 10 23 24 25 rfl (Tr.MX [(0,_),(6,_),(7,_),(8,_),(9,_),(10,_),(23,_),(24,_),(25,_)] ⟨ke rfl,ke rfl,ke rfl,ke rfl,ke rfl,ke rfl,ke rfl,ke rfl,ke rfl,trivial⟩ (fun (m1:List BK) (s3:DS) v1=>[(5,Ag v1 (lens (m1.map DY).length))]) (fun (m1:List BK) (s3:DS) v1=>Hp M0 w0 S (Bb 87 8 (m1.map DY) v1::Cv b s3::At M1 w1::rs)) (fun (m1:List BK) (s3:DS)=>m1.length≤6*k+1∧G9 e.BW m1) ?_ ?_))))))
 refine Tr.seq (Tr.AW (cm rfl (cm rfl ?_)))
 refine Ch.cs 31 rfl ?_ ?_<;>intro h2 q2
 refine cy h2 rfl (Kt rfl LA rfl rfl) (cy h2 rfl (DQ rfl ID rfl) (cy h2 rfl (AQ rfl (Ve) ⟨ke rfl,ke rfl,trivial⟩) (cy h2 rfl (HI rfl (vl rfl)) (co rfl (HK rfl rfl h2 rfl) (Ch.nil (Fin.go (EO 0 5 6 7 8 9 10 23 24 25 36 rfl ?_)))))))
 refine Tr.cn rfl ?_ ?_<;>intro h3 q3
 have Uy:=s2.Cf (n:=2) (by omega)
 refine Tr.An (tm rfl (tm rfl (tm rfl (TO.Jv 1 rfl rfl (by decide) (Aw rfl rfl (by decide) rfl (CC (by omega) (by omega)) ⟨ke rfl,ke rfl,trivial⟩) (tp rfl (Ai (rows:=[(0,[_]),(1,[_]),(2,[_]),(3,[_])]) rfl WS KH ⟨⟨rfl,(Vo rfl)⟩,⟨⟨rfl,(Vo rfl)⟩,⟨⟨rfl,(Vo rfl)⟩,⟨⟨rfl,(Vo rfl)⟩,trivial⟩⟩⟩⟩ rfl) (tp rfl (AL (xs:=[.tmp 41]) (rows:=[DY ⟨((k:Nat):Int),1,12,s2.val 2,⟨0,0,0,[]⟩⟩]) rfl rfl underlying30 DO z87 rfl (by decide) ⟨⟨(by exact rfl),VL.le (vl rfl) (Pr.le_trans (Ar (qs:=DY _) ⟨Lr,Lr,Lr,Lr,Lr,Lr,Lr,Ke,trivial⟩) (Aa _))⟩,trivial⟩ (by decide)) ?_))))))
 refine TO.DP 0 rfl rfl (by decide) (E2 rfl rfl (by decide) rfl underlying30 DO TW z87 rfl (by decide) (by decide) (vl rfl) (Kf rfl) (Bu fun _=>rfl) (Nat.zero_lt_succ _) (by simp only [List.length_map,List.length_cons,List.length_nil];unfold maxLen;omega) (by simp only [List.length_map,List.length_cons,List.length_nil];omega)) (fun v1=> ?_)
 refine tm rfl (TO.nil ?_)
 exact Fin.BM (ms++[⟨((k:Nat):Int),1,12,s2.val 2,⟨0,0,0,[]⟩⟩]) (_) v1 (⟨by simp;omega,Pc.snoc ⟨by show 0≤((k:Nat):Int);omega,by show ((k:Nat):Int)<_;omega,by dsimp only;omega⟩⟩) ⟨⟨_,rfl,Cr (by simp)⟩,ke rfl,ke rfl,ke rfl,ke rfl,ke rfl,ke rfl,ke rfl,ke rfl,ke rfl,trivial⟩ (fun _ _ h=>(by rw [List.map_append];exact h))
 refine Tr.skip (Fin.BM (ms) (_) v (⟨by omega,Pc⟩) ⟨⟨_,rfl,Cr (by simp)⟩,ke rfl,ke rfl,ke rfl,ke rfl,ke rfl,ke rfl,ke rfl,ke rfl,ke rfl,trivial⟩ (fun _ _ h=>h))
 iterate 4 refine cnt h2 rfl ?_
 refine co rfl (HM rfl rfl h2 rfl) (Ch.nil (Fin.go (EO 0 5 6 7 8 9 10 23 24 25 36 rfl (Tr.cond rfl (fun h=>nomatch h) (fun _=> ?_)))))
 refine Tr.skip (Fin.BM (ms) (_) v (⟨by omega,Pc⟩) ⟨⟨_,rfl,Cr (by simp)⟩,ke rfl,ke rfl,ke rfl,ke rfl,ke rfl,ke rfl,ke rfl,ke rfl,ke rfl,trivial⟩ (fun _ _ h=>h))
 rintro m1 s3 v1 ⟨yN,Zh⟩
 refine Tr.MX [(0,_),(6,_),(7,_),(8,_),(9,_),(10,_),(23,_),(24,_),(25,_)] ⟨ke rfl,ke rfl,ke rfl,ke rfl,ke rfl,ke rfl,ke rfl,ke rfl,ke rfl,trivial⟩ (fun (m2:List BK) (s4:DS) v2=>[(5,Ag v2 (lens (m2.map DY).length))]) (fun (m2:List BK) (s4:DS) v2=>Hp M0 w0 S (Bb 87 8 (m2.map DY) v2::Cv b s4::At M1 w1::rs)) (fun (m2:List BK) (s4:DS)=>m2.length≤6*k+2∧G9 e.BW m2) ?_ ?_
 refine Tr.seq (Tr.AW (cm rfl (cm rfl ?_)))
 refine Ch.cs 45 rfl ?_ ?_<;>intro h4 q4
 refine FZ h4 rfl (cy h4 rfl (ki rfl rfl rfl rfl) (co rfl (HK rfl rfl h4 rfl) (Ch.nil (Fin.go (EO 0 5 6 7 8 9 10 23 24 25 48 rfl ?_)))))
 refine Tr.cn rfl ?_ ?_<;>intro h5 q5
 refine Tr.An (tm rfl (tm rfl (tp rfl (Ai (rows:=[(0,[_]),(1,[_]),(2,[_])]) rfl WS KH ⟨⟨rfl,(Vo rfl)⟩,⟨⟨rfl,(Vo rfl)⟩,⟨⟨rfl,(Vo rfl)⟩,trivial⟩⟩⟩ rfl) (tp rfl (AL (xs:=[.tmp 51]) (rows:=[DY ⟨((k:Nat):Int),7,2,0,⟨0,0,0,[]⟩⟩]) rfl rfl underlying30 DO z87 rfl (by decide) ⟨⟨(by exact rfl),VL.le (vl rfl) (Pr.le_trans (Ar (qs:=DY _) ⟨Lr,Lr,Lr,Lr,Lr,Lr,Lr,Ke,trivial⟩) (Aa _))⟩,trivial⟩ (by decide)) ?_))))
 refine TO.DP 0 rfl rfl (by decide) (E2 rfl rfl (by decide) rfl underlying30 DO TW z87 rfl (by decide) (by decide) (vl rfl) (Kf rfl) (Bu fun _=>rfl) (Nat.zero_lt_succ _) (by simp only [List.length_map,List.length_cons,List.length_nil];unfold maxLen;omega) (by simp only [List.length_map,List.length_cons,List.length_nil];omega)) (fun v2=> ?_)
 refine tm rfl (TO.nil ?_)
 exact Fin.BM (m1++[⟨((k:Nat):Int),7,2,0,⟨0,0,0,[]⟩⟩]) (_) v2 (⟨by simp;omega,Zh.snoc ⟨by show 0≤((k:Nat):Int);omega,by show ((k:Nat):Int)<_;omega,by dsimp only;omega⟩⟩) ⟨⟨_,rfl,Cr (by simp)⟩,ke rfl,ke rfl,ke rfl,ke rfl,ke rfl,ke rfl,ke rfl,ke rfl,ke rfl,trivial⟩ (fun _ _ h=>(by rw [List.map_append];exact h))
 refine Tr.skip (Fin.BM (m1) (_) v1 (⟨by omega,Zh⟩) ⟨⟨_,rfl,Cr (by simp)⟩,ke rfl,ke rfl,ke rfl,ke rfl,ke rfl,ke rfl,ke rfl,ke rfl,ke rfl,trivial⟩ (fun _ _ h=>h))
 refine cnt h4 rfl (cnt h4 rfl (co rfl (HM rfl rfl h4 rfl) (Ch.nil (Fin.go (EO 0 5 6 7 8 9 10 23 24 25 48 rfl (Tr.cond rfl (fun h=>nomatch h) (fun _=> ?_)))))))
 refine Tr.skip (Fin.BM (m1) (_) v1 (⟨by omega,Zh⟩) ⟨⟨_,rfl,Cr (by simp)⟩,ke rfl,ke rfl,ke rfl,ke rfl,ke rfl,ke rfl,ke rfl,ke rfl,ke rfl,trivial⟩ (fun _ _ h=>h))
 rintro m2 s4 v2 ⟨yO,Zi⟩
 refine Tr.MX [(0,_),(6,_),(7,_),(8,_),(9,_),(10,_),(23,_),(24,_),(25,_)] ⟨ke rfl,ke rfl,ke rfl,ke rfl,ke rfl,ke rfl,ke rfl,ke rfl,ke rfl,trivial⟩ (fun (m3:List BK) (s5:DS) v3=>[(5,Ag v3 (lens (m3.map DY).length))]) (fun (m3:List BK) (s5:DS) v3=>Hp M0 w0 S (Bb 87 8 (m3.map DY) v3::Cv b s5::At M1 w1::rs)) (fun (m3:List BK) (s5:DS)=>m3.length≤6*k+3∧G9 e.BW m3) ?_ ?_
 refine Tr.seq (Tr.AW (cm rfl (cm rfl ?_)))
 refine Ch.cs 55 rfl ?_ ?_<;>intro h6 q6
 refine FZ h6 rfl (cy h6 rfl (ki rfl rfl rfl rfl) (co rfl (HK rfl rfl h6 rfl) (Ch.nil (Fin.go (EO 0 5 6 7 8 9 10 23 24 25 58 rfl ?_)))))
 refine Tr.cn rfl ?_ ?_<;>intro h7 q7
 have hof:=s4.NJ (l:=[2,1]) (by simp)
 simp at hof
 refine Tr.pad (Tr.IB mixed [none,none,none,none,none,none,none,some (0,2,true,0),none,none,none,none,none,none,some (0,1,true,73),some (73,1,true,5)] (by kernel_rfl) (xm rfl (xm rfl (xo rfl (fun _=>Kt rfl YX rfl rfl) (xo rfl (fun _=>DQ rfl MJ rfl) (xo rfl (fun _=>AQ rfl (xB) trivial) (xm rfl (xo rfl (fun _=>AL (xs:=[.const (.int .i64 (2)),.const (.int .i64 (1))]) (rows:=[[_],[_]]) rfl rfl underlying22 Bh z3 rfl (by decide) ⟨⟨(by exact rfl),(Vo rfl)⟩,⟨⟨(by exact rfl),(Vo rfl)⟩,trivial⟩⟩ (by decide)) ?_))))))))
 refine Cx.ef 2 rfl rfl (by decide) (Aw rfl rfl (by decide) rfl (Rw (l:=[2,1]) (by simp) (by simp)) ⟨ke rfl,(Kf rfl),trivial⟩) ?_
 refine xo rfl (fun _=>AQ rfl (Tq (name:=x.name) (a:=7) (b:=256) (id:=201) (to:=901) (key:=s4.of [2,1]) (rT hnm (.inr ⟨rfl,rfl⟩) (by omega) (by omega) (by omega)) (rU (.inr ⟨rfl,rfl⟩) (by omega)) (by omega)) ⟨ke rfl,ke rfl,ke rfl,ke rfl,ke rfl,trivial⟩) ?_
 refine xo rfl (fun _=>Kt rfl NK rfl rfl) (xo rfl (fun _=>DQ rfl hO rfl) (xo rfl (fun _=>BF rfl underlying68 (vl rfl)) (xo rfl (fun _=>Ai (rows:=[(0,[_]),(1,[_]),(4,_),(3,[_])]) rfl WS KH ⟨⟨rfl,(Vo rfl)⟩,⟨⟨rfl,(Vo rfl)⟩,⟨⟨rfl,⟨_,rfl,Pr.le_trans (Zf) (Aa _)⟩⟩,⟨⟨rfl,(Vo rfl)⟩,trivial⟩⟩⟩⟩ rfl) (xo rfl (fun _=>AL (xs:=[.tmp 71]) (rows:=[DY ⟨((k:Nat):Int),5,0,((x.ids.length:Nat):Int),⟨7,256,201,[]⟩⟩]) rfl rfl underlying30 DO z87 rfl (by decide) ⟨⟨(by exact rfl),VL.le (vl rfl) (Pr.le_trans (Ar (qs:=DY _) ⟨Lr,Lr,Lr,Lr,Lr,Lr,Lr,eu hnm,trivial⟩) (Aa _))⟩,trivial⟩ (by decide)) ?_))))
 refine Cx.ef 1 rfl rfl (by decide) (E2 rfl rfl (by decide) rfl underlying30 DO TW z87 rfl (by decide) (by decide) (vl rfl) (Kf rfl) (Bu fun _=>rfl) (Nat.zero_lt_succ _) (by simp only [List.length_map,List.length_cons,List.length_nil];unfold maxLen;omega) (by simp only [List.length_map,List.length_cons,List.length_nil];omega)) ?_
 refine Cx.ef 1 rfl rfl (by decide) (QH rfl rfl (by decide) rfl (vl rfl)) ?_
 refine Cx.nil ⟨rfl,?_⟩
 refine BQ.open_ 1 5 rfl rfl (fun v3=> ?_)
 refine BQ.done (BC.cons (BC.cons (BC.cons (BC.cons (BC.map _))))) (Fin.drop 0 ?_)
 exact Fin.BM (m2++[⟨((k:Nat):Int),5,0,((x.ids.length:Nat):Int),⟨7,256,201,[]⟩⟩]) (_) v3 (⟨by simp;omega,Zi.snoc ⟨by show 0≤((k:Nat):Int);omega,by show ((k:Nat):Int)<_;omega,by dsimp only;omega⟩⟩) ⟨⟨_,rfl,Cr (by simp)⟩,ke rfl,ke rfl,ke rfl,ke rfl,ke rfl,ke rfl,ke rfl,ke rfl,ke rfl,trivial⟩ (fun _ _ h=>(by rw [List.map_append];exact h))
 refine Tr.skip (Fin.BM (m2) (_) v2 (⟨by omega,Zi⟩) ⟨⟨_,rfl,Cr (by simp)⟩,ke rfl,ke rfl,ke rfl,ke rfl,ke rfl,ke rfl,ke rfl,ke rfl,ke rfl,trivial⟩ (fun _ _ h=>h))
 refine cnt h6 rfl (cnt h6 rfl (co rfl (HM rfl rfl h6 rfl) (Ch.nil (Fin.go (EO 0 5 6 7 8 9 10 23 24 25 58 rfl (Tr.cond rfl (fun h=>nomatch h) (fun _=> ?_)))))))
 refine Tr.skip (Fin.BM (m2) (_) v2 (⟨by omega,Zi⟩) ⟨⟨_,rfl,Cr (by simp)⟩,ke rfl,ke rfl,ke rfl,ke rfl,ke rfl,ke rfl,ke rfl,ke rfl,ke rfl,trivial⟩ (fun _ _ h=>h))
 rintro m3 s5 v3 ⟨yP,Vf⟩
 refine Tr.MX [(0,_),(6,_),(7,_),(8,_),(9,_),(10,_),(23,_),(24,_),(25,_)] ⟨ke rfl,ke rfl,ke rfl,ke rfl,ke rfl,ke rfl,ke rfl,ke rfl,ke rfl,trivial⟩ (fun (m4:List BK) (s6:DS) v4=>[(5,Ag v4 (lens (m4.map DY).length))]) (fun (m4:List BK) (s6:DS) v4=>Hp M0 w0 S (Bb 87 8 (m4.map DY) v4::Cv b s6::At M1 w1::rs)) (fun (m4:List BK) (s6:DS)=>m4.length≤6*k+4∧G9 e.BW m4) ?_ ?_
 refine Tr.seq (Tr.An (tm rfl (tm rfl ?_)))
 refine TO.cases 75 rfl (fun h8=> ?_) (fun h8=> ?_)
 have q8:=D_.Ey h8
 refine TO.MM rfl rfl rfl h8 rfl (by decide) (Kt rfl LA rfl rfl) (TO.MM rfl rfl rfl h8 rfl (by decide) (DQ rfl ID rfl) (TO.MM rfl rfl rfl h8 rfl (by decide) (AQ rfl (Ve) ⟨ke rfl,ke rfl,trivial⟩) (tp rfl (HK rfl rfl h8 rfl) (tm rfl ?_))))
 refine TO.cases 80 rfl (fun h9=> ?_) (fun h9=> ?_)
 have q9:=D_.Ey h9
 refine TO.MM rfl rfl rfl h9 rfl (by decide) (EJ rfl (vl rfl)) (TO.qJ 1 rfl rfl rfl h9 rfl rfl (by decide) (Aw rfl rfl (by decide) rfl (CC (by omega) (by omega)) ⟨ke rfl,ke rfl,trivial⟩) (TO.MM rfl rfl rfl h9 rfl (by decide) (ki rfl rfl rfl rfl) (tp rfl (HK rfl rfl h9 rfl) (TO.nil (Fin.go (EO 0 5 6 7 8 9 10 23 24 25 84 rfl ?_))))))
 refine Tr.cn rfl ?_ ?_<;>intro h10 Oa
 refine Tr.An (tm rfl (tm rfl (tp rfl (Ai (rows:=[(0,[_]),(1,[_]),(2,[_])]) rfl WS KH ⟨⟨rfl,(Vo rfl)⟩,⟨⟨rfl,(Vo rfl)⟩,⟨⟨rfl,(Vo rfl)⟩,trivial⟩⟩⟩ rfl) (tp rfl (AL (xs:=[.tmp 87]) (rows:=[DY ⟨((k:Nat):Int),2,2,0,⟨0,0,0,[]⟩⟩]) rfl rfl underlying30 DO z87 rfl (by decide) ⟨⟨(by exact rfl),VL.le (vl rfl) (Pr.le_trans (Ar (qs:=DY _) ⟨Lr,Lr,Lr,Lr,Lr,Lr,Lr,Ke,trivial⟩) (Aa _))⟩,trivial⟩ (by decide)) ?_))))
 refine TO.DP 0 rfl rfl (by decide) (E2 rfl rfl (by decide) rfl underlying30 DO TW z87 rfl (by decide) (by decide) (vl rfl) (Kf rfl) (Bu fun _=>rfl) (Nat.zero_lt_succ _) (by simp only [List.length_map,List.length_cons,List.length_nil];unfold maxLen;omega) (by simp only [List.length_map,List.length_cons,List.length_nil];omega)) (fun v4=> ?_)
 refine tm rfl (TO.nil ?_)
 exact Fin.BM (m3++[⟨((k:Nat):Int),2,2,0,⟨0,0,0,[]⟩⟩]) (_) v4 (⟨by simp;omega,Vf.snoc ⟨by show 0≤((k:Nat):Int);omega,by show ((k:Nat):Int)<_;omega,by dsimp only;omega⟩⟩) ⟨⟨_,rfl,Cr (by simp)⟩,ke rfl,ke rfl,ke rfl,ke rfl,ke rfl,ke rfl,ke rfl,ke rfl,ke rfl,trivial⟩ (fun _ _ h=>(by rw [List.map_append];exact h))
 refine Tr.skip (Fin.BM (m3) (_) v3 (⟨by omega,Vf⟩) ⟨⟨_,rfl,Cr (by simp)⟩,ke rfl,ke rfl,ke rfl,ke rfl,ke rfl,ke rfl,ke rfl,ke rfl,ke rfl,trivial⟩ (fun _ _ h=>h))
 have q9:=D_.Ey h9
 refine TO.RL rfl rfl rfl (BG h9) rfl (by decide) (TO.RL rfl rfl rfl (BG h9) rfl (by decide) (TO.RL rfl rfl rfl (BG h9) rfl (by decide) (tp rfl (HM rfl rfl h9 rfl) (TO.nil (Fin.go (EO 0 5 6 7 8 9 10 23 24 25 84 rfl (Tr.cond rfl (fun h=>nomatch h) (fun _=> ?_))))))))
 refine Tr.skip (Fin.BM (m3) (_) v3 (⟨by omega,Vf⟩) ⟨⟨_,rfl,Cr (by simp)⟩,ke rfl,ke rfl,ke rfl,ke rfl,ke rfl,ke rfl,ke rfl,ke rfl,ke rfl,trivial⟩ (fun _ _ h=>h))
 have q8:=D_.Ey h8
 refine TO.RL rfl rfl rfl (BG h8) rfl (by decide) (TO.RL rfl rfl rfl (BG h8) rfl (by decide) (TO.RL rfl rfl rfl (BG h8) rfl (by decide) (tp rfl (HM rfl rfl h8 rfl) (tm rfl (TO.RL rfl rfl rfl (BG rfl) rfl (by decide) (TO.RL rfl rfl rfl (BG rfl) rfl (by decide) (TO.RL rfl rfl rfl (BG rfl) rfl (by decide) (tp rfl (HM rfl rfl rfl rfl) (TO.nil (Fin.go (EO 0 5 6 7 8 9 10 23 24 25 84 rfl (Tr.cond rfl (fun h=>nomatch h) (fun _=> ?_)))))))))))))
 refine Tr.skip (Fin.BM (m3) (_) v3 (⟨by omega,Vf⟩) ⟨⟨_,rfl,Cr (by simp)⟩,ke rfl,ke rfl,ke rfl,ke rfl,ke rfl,ke rfl,ke rfl,ke rfl,ke rfl,trivial⟩ (fun _ _ h=>h))
 rintro m4 s6 v4 ⟨yQ,Zj⟩
 refine Tr.seq (Tr.AW (cm rfl (cm rfl ?_)))
 refine Ch.cs 91 rfl ?_ ?_<;>intro h11 PR
 refine cy h11 rfl (Kt rfl TR rfl rfl) (cy h11 rfl (DQ rfl Bo rfl) (cy h11 rfl (ki rfl rfl rfl rfl) (co rfl (HK rfl rfl h11 rfl) (Ch.nil (Fin.go (G0 0 5 6 7 8 9 23 24 25 95 rfl ?_))))))
 refine Tr.cn rfl ?_ ?_<;>intro h12 S6
 refine Tr.An (tm rfl (tm rfl (tp rfl (Ai (rows:=[(0,[_]),(1,[_]),(2,[_])]) rfl WS KH ⟨⟨rfl,(Vo rfl)⟩,⟨⟨rfl,(Vo rfl)⟩,⟨⟨rfl,(Vo rfl)⟩,trivial⟩⟩⟩ rfl) (tm rfl (tp rfl (Ai (rows:=[(0,[_]),(1,[_]),(2,[_])]) rfl WS KH ⟨⟨rfl,(Vo rfl)⟩,⟨⟨rfl,(Vo rfl)⟩,⟨⟨rfl,(Vo rfl)⟩,trivial⟩⟩⟩ rfl) (tp rfl (AL (xs:=[.tmp 98,.tmp 100]) (rows:=[DY ⟨((k:Nat):Int),3,4,0,⟨0,0,0,[]⟩⟩,DY ⟨((k:Nat):Int),1,14,0,⟨0,0,0,[]⟩⟩]) rfl rfl underlying30 DO z87 rfl (by decide) ⟨⟨(by exact rfl),VL.le (vl rfl) (Pr.le_trans (Ar (qs:=DY _) ⟨Lr,Lr,Lr,Lr,Lr,Lr,Lr,Ke,trivial⟩) (Aa _))⟩,⟨⟨(by exact rfl),VL.le (vl rfl) (Pr.le_trans (Ar (qs:=DY _) ⟨Lr,Lr,Lr,Lr,Lr,Lr,Lr,Ke,trivial⟩) (Aa _))⟩,trivial⟩⟩ (by decide)) ?_))))))
 refine TO.DP 0 rfl rfl (by decide) (E2 rfl rfl (by decide) rfl underlying30 DO TW z87 rfl (by decide) (by decide) (vl rfl) (Kf rfl) (Bu fun _=>rfl) (Nat.zero_lt_succ _) (by simp only [List.length_map,List.length_cons,List.length_nil];unfold maxLen;omega) (by simp only [List.length_map,List.length_cons,List.length_nil];omega)) (fun v5=> ?_)
 refine tm rfl (TO.nil (Fin.block (Fin.go (Jx 0 5 6 7 8 23 24 25 rfl (Tr.AW (GV rfl rfl rfl rfl (by omega) (cm rfl (Ch.nil ?_))))))))
 exact Fin.DU (k+1) (m4++[⟨((k:Nat):Int),3,4,0,⟨0,0,0,[]⟩⟩,⟨((k:Nat):Int),1,14,0,⟨0,0,0,[]⟩⟩]) (_) v5 (⟨⟨by omega,by simp;omega,Zj.two ⟨by show 0≤((k:Nat):Int);omega,by show ((k:Nat):Int)<_;omega,by dsimp only;omega⟩ ⟨by show 0≤((k:Nat):Int);omega,by show ((k:Nat):Int)<_;omega,by dsimp only;omega⟩⟩,by omega⟩) ⟨⟨_,rfl,AD k⟩,⟨_,rfl,Cr (by simp)⟩,ke rfl,ke rfl,ke rfl,ke rfl,ke rfl,ke rfl,trivial⟩ (fun _ _ h=>(by rw [List.map_append];exact h))
 refine Tr.skip (Fin.block (Fin.go (Tr.AW (GV rfl rfl rfl rfl (by omega) (cm rfl (Ch.nil (Fin.DU (k+1) (m4) (_) v4 (⟨⟨by omega,by omega,Zj⟩,by omega⟩) ⟨⟨_,rfl,AD k⟩,⟨_,rfl,Cr (by simp)⟩,ke rfl,ke rfl,ke rfl,ke rfl,ke rfl,ke rfl,trivial⟩ (fun _ _ h=>h))))))))
 refine cnt h11 rfl (cnt h11 rfl (cnt h11 rfl (co rfl (HM rfl rfl h11 rfl) (Ch.nil (Fin.go (G0 0 5 6 7 8 9 23 24 25 95 rfl (Tr.cond rfl (fun h=>nomatch h) (fun _=> ?_))))))))
 refine Tr.skip (Fin.block (Fin.go (Tr.AW (GV rfl rfl rfl rfl (by omega) (cm rfl (Ch.nil (Fin.DU (k+1) (m4) (_) v4 (⟨⟨by omega,by omega,Zj⟩,by omega⟩) ⟨⟨_,rfl,AD k⟩,⟨_,rfl,Cr (by simp)⟩,ke rfl,ke rfl,ke rfl,ke rfl,ke rfl,ke rfl,trivial⟩ (fun _ _ h=>h))))))))
 have:=h1
 refine Tr.exit (Fin.AS (Fin.AS (Fin.Ak (Fin.go (Tr.seq (Tr.block ?_))))))
 rcases Nat.eq_zero_or_pos ms.length with h0|h0
 refine Tr.A7 [(0,_)] ⟨ke rfl,trivial⟩ (fun _=>[(5,Ag v (lens (ms.map DY).length))]) (fun _=>True) (fun _=>0) () (trivial) ⟨ke rfl,trivial⟩ ?_
 rintro _ _
 refine Tr.seq (Tr.seq (Tr.AW (cm rfl (co rfl (Rs rfl underlying30 (Kb rfl)) (co rfl (ki rfl rfl rfl rfl) (Ch.nil (Fin.go ?_)))))))
 refine Tr.cn rfl ?_ ?_<;>intro MG Xt
 exfalso;have h_:=D_.Ey MG;rw [List.length_map] at h_;omega
 have:=MG
 refine Tr.exit (Fin.AS (Fin.AS (Fin.Ak (Fin.go (Tr.seq (Tr.seq ?_))))))
 have hv4:=s2.Cf (n:=4) (by omega)
 refine Tr.An (tm rfl (TO.Jv 1 rfl rfl (by decide) (Aw rfl rfl (by decide) rfl (CC (by omega) (by omega)) ⟨ke rfl,ke rfl,trivial⟩) (tm rfl (TO.nil (Fin.go (Tr.block (Tr.DG [(0,_)] ⟨ke rfl,trivial⟩ (fun (q:Int) (s9:DS)=>[(11,int q),(5,Ag v (lens (ms.map DY).length))]) (fun (q:Int) (s9:DS)=>Hp M0 w0 S (Bb 87 8 (ms.map DY) v::Cv b s9::At M1 w1::rs)) (fun (q:Int) (s9:DS)=>True) (fun (q:Int) (s9:DS)=>q.toNat) (_) (_)  (trivial) ⟨ke rfl,ke rfl,trivial⟩ (fun _ _ h=>h) ?_)))))))
 rintro q s9  _
 refine Tr.seq (Tr.seq (Tr.AW (cm rfl (co rfl (ki rfl rfl rfl rfl) (cm rfl ?_)))))
 refine Ch.cs 116 rfl ?_ ?_<;>intro Ku eO
 refine FZ Ku rfl (cy Ku rfl (Rs rfl underlying30 (Kb rfl)) (cy Ku rfl (ki rfl rfl rfl rfl) (co rfl (HK rfl rfl Ku rfl) (Ch.nil (Fin.go ?_)))))
 refine Tr.cn rfl ?_ ?_<;>intro Rf kY
 exfalso;have h_:=D_.Ey Rf;rw [List.length_map] at h_;omega
 have:=Rf
 refine Tr.exit (Fin.AS (Fin.AS (Fin.Ak (Fin.go (Tr.seq (Tr.dx 0 5 rfl rfl (Bu fun _=>rfl) (Tr.AW (cm rfl (cm rfl (Ch.nil (Fin.go (Tr.ret (Fin.Fv 1 _ rfl rfl (Fin.Fx [_] rfl (AP.tmp rfl (Lr)) ?_ (fun _ _ _ _=>rfl)))))))))))))))
 · exact Pr.le_trans (Ah _ _) (Qw Pc (by omega))
 refine cnt Ku rfl (cnt Ku rfl (cnt Ku rfl (co rfl (HM rfl rfl Ku rfl) (Ch.nil (Fin.go (Tr.cond rfl (fun h=>nomatch h) (fun _=> ?_)))))))
 refine Tr.exit (Fin.AS (Fin.AS (Fin.Ak (Fin.go (Tr.seq (Tr.dx 0 5 rfl rfl (Bu fun _=>rfl) (Tr.AW (cm rfl (cm rfl (Ch.nil (Fin.go (Tr.ret (Fin.Fv 1 _ rfl rfl (Fin.Fx [_] rfl (AP.tmp rfl (Lr)) ?_ (fun _ _ _ _=>rfl)))))))))))))))
 · exact Pr.le_trans (Ah _ _) (Qw Pc (by omega))
 refine Tr.qC (sz:=8) 0 rfl (by intro h_;simp at h_;rw [h_] at h0;simp at h0) fun b9 ry sp9 hv9 hg9 hm9 hs9=> ?_
 subst hv9
 rw [List.length_map] at hg9 hs9
 refine Tr.KD [(0,_)] ⟨ke rfl,trivial⟩ (fun (m:Nat)=>[(5,is (.slice (some ⟨b9,0,none⟩) m ry))]) (fun (m:Nat)=>Hp M0 w0 S (AE true b9 87 ((ms.map DY).flatten++sp9.map is)::Cv b s2::At M1 w1::rs)) (fun (m:Nat)=>1≤m∧m≤ms.length) (fun (m:Nat)=>m) (ms.length)  (⟨h0,Nat.le_refl _⟩) ⟨⟨_,rfl,Pr.le_trans (J6 _ _) (Pr.le_of_eq (by rw [List.length_map]))⟩,trivial⟩ (fun _ _ h=>h) ?_
 rintro m  ⟨hm1,hm2⟩
 refine Tr.seq (Tr.seq (Tr.AW (cm rfl (co rfl (KP rfl underlying30 (vl rfl)) (co rfl (ki rfl rfl rfl rfl) (Ch.nil (Fin.go ?_)))))))
 refine Tr.cn rfl ?_ ?_<;>intro h16 kg
 have hm7:7<m:=by have:=D_.Ey h16;omega
 refine Tr.skip (Fin.go (Tr.block (Tr.AW (cm rfl (cm rfl (co rfl (KP rfl underlying30 (vl rfl)) (gq rfl rfl rfl rfl (by omega) (co rfl (Ro rfl underlying30 DO (vl rfl) (vl rfl) (by omega) (by omega) (by omega) (by omega)) (cm rfl (Ch.nil (Fin.block ?_)))))))))))
 exact Fin.KE (m-1)  (⟨⟨by omega,by omega⟩,by omega⟩) ⟨⟨_,rfl,Pr.le_of_eq (by congr 2;omega)⟩,ke rfl,trivial⟩ (fun _ _ h=>h)
 have hm7:m≤7:=by have:=D_.Ey h16;omega
 refine Tr.exit (Fin.AS (Fin.AS (Fin.Ak (Fin.go (Tr.seq (Tr.seq ?_))))))
 have hv4:=s2.Cf (n:=4) (by omega)
 refine Tr.An (tm rfl (TO.Jv 1 rfl rfl (by decide) (Aw rfl rfl (by decide) rfl (CC (by omega) (by omega)) ⟨ke rfl,ke rfl,trivial⟩) (tm rfl (TO.nil (Fin.go (Tr.block (Tr.NI [(0,_)] ⟨ke rfl,trivial⟩ (fun (q:Int) (ns:List BK) (s9:DS)=>[(11,int q),(5,is (.slice (some ⟨b9,0,none⟩) m ry))]) (fun (q:Int) (ns:List BK) (s9:DS)=>Hp M0 w0 S (AE true b9 87 ((ns.map DY).flatten++sp9.map is)::Cv b s9::At M1 w1::rs)) (fun (q:Int) (ns:List BK) (s9:DS)=>(ns.length=ms.length∧q≤3)∧G9 e.BW ns) (fun (q:Int) (ns:List BK) (s9:DS)=>q.toNat) (_) (ms) (_)  (⟨⟨rfl,by omega⟩,Pc⟩) ⟨ke rfl,ke rfl,trivial⟩ (fun _ _ h=>h) ?_)))))))
 rintro q ns s9  ⟨⟨hn1,hn3⟩,hn2⟩
 refine Tr.seq (Tr.seq (Tr.AW (cm rfl (co rfl (ki rfl rfl rfl rfl) (cm rfl ?_)))))
 refine Ch.cs 116 rfl ?_ ?_<;>intro MH eG
 refine FZ MH rfl (cy MH rfl (KP rfl underlying30 (vl rfl)) (cy MH rfl (ki rfl rfl rfl rfl) (co rfl (HK rfl rfl MH rfl) (Ch.nil (Fin.go ?_)))))
 refine Tr.cn rfl ?_ ?_<;>intro OX kV
 have hq1:=D_.Ey OX
 refine Tr.skip (Fin.go (Tr.seq (Tr.block (Tr.seq ?_))))
 have hvm:=s9.Cf (n:=((m:Nat):Int)-1) (by omega)
 refine Tr.An (tm rfl (tm rfl (tp rfl (KP rfl underlying30 (vl rfl)) ?_)))
 refine tp rfl (JS rfl (vl rfl) (vl rfl) ?hin) ?_;case hin=>unfold K1;omega
 refine TO.Jv 1 rfl rfl (by decide) (Aw rfl rfl (by decide) rfl (CC (by omega) (by omega)) ⟨ke rfl,ke rfl,trivial⟩) (tm rfl (TO.nil (Fin.go (D7 0 5 11 12 rfl (Tr.IB mixed [none,none,none,none,none,none,none,none,none,some (0,0,false,0),none,none,none,some (0,0,false,0),none,some (0,0,true,0),none,some (0,0,true,0)] (by kernel_rfl) ?_)))))
 iterate 4 refine xm rfl ?_
 refine xo rfl (fun _=>Ge rfl (vl rfl) (vl rfl) ?hin) ?_;case hin=>unfold K1;omega
 refine xm rfl (xm rfl ?_)
 refine xo rfl (fun _=>Ge rfl (vl rfl) (vl rfl) ?hin) ?_;case hin=>unfold K1;omega
 refine xo rfl (fun _=>BV rfl underlying30 DO (vl rfl) (vl rfl) (by omega) (by omega)) (H9 0 rfl rfl (B_ rfl Hv DO (vl rfl) (PL (f:=DY) (fun _=>rfl) (by omega)) rfl) (xm rfl (xm rfl (xo rfl (fun _=>BV rfl underlying30 DO (vl rfl) (vl rfl) (by omega) (by omega)) (H9 0 rfl rfl (B_ rfl Hv DO (vl rfl) (PL (f:=DY) (fun _=>rfl) (by omega)) rfl) (xo rfl (fun _=>BV rfl underlying30 DO (vl rfl) (vl rfl) (by omega) (by omega)) ?_))))))
 refine Cx.Dp 0 rfl rfl (Ay rfl rfl (vl rfl) (Va rfl) DO rfl (by rw [Fh (sz:=8) (fun _=>rfl)];omega) (E3 (f:=DY) (fun _=>rfl) (by omega))) ?_
 refine xo rfl (fun _=>BV rfl underlying30 DO (vl rfl) (vl rfl) (by omega) (by omega)) ?_
 refine Cx.Dp 0 rfl rfl (Ay rfl rfl (vl rfl) (Va rfl) DO rfl (by rw [Fh (sz:=8) (fun _=>rfl)];simp only [List.length_set];omega) (E3 (f:=DY) (fun _=>rfl) (by simp only [List.length_set];omega))) ?_
 refine Cx.nil ⟨rfl,?_⟩
 refine BQ.done (BC.cons (BC.cons (BC.cons (BC.map _)))) (Fin.block (Fin.go (CR 0 5 11 rfl (Tr.AW (cm rfl (gq rfl rfl rfl rfl (by omega) (cm rfl (Ch.nil (Fin.E_ (q-1) (_) (_)  (⟨⟨⟨(NX (by omega) (by omega)).length_eq.trans hn1,by omega⟩,G9.perm (NX (by omega) (by omega)) hn2⟩,by omega⟩) ⟨⟨_,rfl,int_eq (by omega)⟩,ke rfl,ke rfl,trivial⟩ (fun _ _ h=>h))))))))))
 have:=OX
 refine Tr.exit (Fin.AS (Fin.AS (Fin.Ak (Fin.go (Tr.seq (Tr.iN 0 (((ns.take m).map DY).flatten++(((ns.drop m).map DY).flatten++sp9.map is)) rfl (by rw [←List.append_assoc,←List.flatten_append,←List.map_append,List.take_append_drop]) ?_))))))
 have hnt:(ns.take m).length=m:=by rw [List.length_take];omega
 refine Tr.WU (sz:=8) ((ns.take m).map DY) 0 5 rfl rfl (Pr.le_of_eq (by rw [List.length_map,hnt])) (Bu fun _=>rfl) (by rw [List.length_map];omega) hm9 (by rw [List.length_append,C4 (sz:=8) (Bu fun _=>rfl),List.length_map,List.length_map,List.length_map,List.length_drop];omega) ?_
 refine Tr.AW (cm rfl (cm rfl (Ch.nil (Fin.go (Tr.ret (Fin.Fv 1 _ rfl rfl (Fin.Fx [_] rfl (AP.tmp rfl (Lr)) ?_ (fun _ _ _ _=>rfl))))))))
 · exact Pr.le_trans (Ah _ _) (Qw hn2.take (by omega))
 refine cnt MH rfl (cnt MH rfl (cnt MH rfl (co rfl (HM rfl rfl MH rfl) (Ch.nil (Fin.go (Tr.cond rfl (fun h=>nomatch h) (fun _=> ?_)))))))
 refine Tr.exit (Fin.AS (Fin.AS (Fin.Ak (Fin.go (Tr.seq (Tr.iN 0 (((ns.take m).map DY).flatten++(((ns.drop m).map DY).flatten++sp9.map is)) rfl (by rw [←List.append_assoc,←List.flatten_append,←List.map_append,List.take_append_drop]) ?_))))))
 have hnt:(ns.take m).length=m:=by rw [List.length_take];omega
 refine Tr.WU (sz:=8) ((ns.take m).map DY) 0 5 rfl rfl (Pr.le_of_eq (by rw [List.length_map,hnt])) (Bu fun _=>rfl) (by rw [List.length_map];omega) hm9 (by rw [List.length_append,C4 (sz:=8) (Bu fun _=>rfl),List.length_map,List.length_map,List.length_map,List.length_drop];omega) ?_
 refine Tr.AW (cm rfl (cm rfl (Ch.nil (Fin.go (Tr.ret (Fin.Fv 1 _ rfl rfl (Fin.Fx [_] rfl (AP.tmp rfl (Lr)) ?_ (fun _ _ _ _=>rfl))))))))
 · exact Pr.le_trans (Ah _ _) (Qw hn2.take (by omega))
structure Oj (n:Int) (k:Nat) (l:List Int):Prop where
 at_:∀j,j<l.length→setAt n l j=true
 lt:∀x∈l,x<(k:Int)
 len:l.length≤k
theorem Oj.nil (n:Int) (k:Nat):Oj n k []:=⟨fun j hj=>by simp at hj,fun x hx=>by simp at hx,by simp⟩
theorem Oj.step {n:Int} {k:Nat} {l:List Int} (h:Oj n k l):Oj n (k+1) l:=⟨h.at_,fun x hx=>by have:=h.lt x hx;omega,by have:=h.len;omega⟩
theorem Oj.snoc {n:Int} {k:Nat} {l:List Int} (h:Oj n k l) (hk:(k:Int)<n):Oj n (k+1) (l++[(k:Int)]):=by
 refine ⟨fun j hj=> ?_,fun x hx=> ?_,by have:=h.len;simp;omega⟩
 ·
  rw [List.length_append] at hj;simp at hj
  rcases Nat.lt_or_ge j l.length with hl|hl
  ·
   have:=h.at_ j hl
   unfold setAt at this ⊢
   rw [List.getElem?_append_left hl,List.getElem?_append_left (show j-1<l.length by omega)];exact this
  ·
   have:j=l.length:=by omega
   subst this
   unfold setAt
   rw [List.getElem?_append_right (Nat.le_refl _),Nat.sub_self]
   rcases Nat.eq_zero_or_pos l.length with hz|hz
   ·
    obtain rfl:=List.eq_nil_of_length_eq_zero hz
    simp;omega
   ·
    obtain ⟨y,hy⟩:=Cp.at_ (l:=l) (k:=l.length-1) (by omega)
    rw [List.getElem?_append_left (show l.length-1<l.length by omega),hy]
    have:=h.lt y (List.mem_of_getElem? hy)
    simp;omega
 ·
  rcases List.mem_append.1 hx with hx|hx
  · have:=h.lt x hx;omega
  · simp at hx;subst hx;omega
theorem Oj.set {n:Int} {k:Nat} {l:List Int} (h:Oj n k l):FP n l=true:=Bv.2 h.at_
structure HX where
 lo:Int
 hi:Int
 AZ:List Int
structure A9 where
 Be:List HX
 HY:List Int
 room:List Int
def lF (w:HX):List Pr:=[int w.lo,int w.hi,ints w.AZ]
abbrev rz (l:List HX):Pr:=slice 3 (l.map lF)
def Jj (c:A9):Pr:=agg [rz c.Be,ints c.HY,ints c.room]
instance r6 (l:List Int):One (ints l):=WK _ _
def DL (day:Int) (w:HX):Bool:=decide (w.lo≤day)&&decide (day<w.hi)
def A9.has (c:A9) (n:Int):Bool:=decide (0≤n)&&decide (n<c.room.length)
def A9.at (c:A9) (day:Int):Int:=idx (DL day) c.Be
def I3 (n:Int):Bool:=decide (n<0)||decide (n>24)
def Jk (w:HX):Bool:=decide (w.lo<0)||decide (w.lo≥w.hi)||decide (w.hi>40001)
def Qx (l:List Int):Prop:=∀(j:Nat) a b,l[j]? =some a→l[j+1]? =some b→a<b
def T8 (l:List HX):Prop:=∀(j:Nat) a b,l[j]? =some a→l[j+1]? =some b→a.hi≤b.lo
open Classical in
noncomputable def A9.check (c:A9) (Wq:Int):Int:=
 if 32<c.Be.length∨8<c.room.length then 3
 else if c.room.any I3 then 2
 else if c.Be.any Jk then 47
 else if ¬(T8 c.Be∧∀w∈c.Be,Qx w.AZ) then 6
 else if c.Be.any (fun w=>w.AZ.any fun n=> !c.has n) then 2
 else if (c.HY.length:Int)≠Wq∨c.HY.any (fun n=> !c.has n) then 1
 else 0
noncomputable def A9.own (c:A9):Int:=c.check c.HY.length
theorem Pf {β:Type} (p:β→Bool) (l:List β): -1≤idx p l∧idx p l<l.length:=by
 unfold idx
 cases h:l.findIdx? p with
 |none=>simp;omega
 |some i=>
  rw [List.findIdx?_eq_some_iff_getElem] at h
  obtain ⟨h1,_⟩:=h
  simp;omega
theorem ez {β:Type} {p:β→Bool} {l:List β} (h:0≤idx p l):∃x,l[(idx p l).toNat]? =some x∧p x=true:=by
 unfold idx at*
 cases h':l.findIdx? p with
 |none=>rw [h'] at h;simp at h
 |some i=>
  rw [List.findIdx?_eq_some_iff_getElem] at h'
  obtain ⟨h1,h2,_⟩:=h'
  exact ⟨l[i],by simp,h2⟩
def A9.Pg (c:A9) (day:Int):Option HX:=c.Be.find? (DL day)
theorem Ns {β:Type} (p:β→Bool) (l:List β):l.find? p=if 0≤idx p l then l[(idx p l).toNat]? else none:=by
 unfold idx
 cases h:l.findIdx? p with
 |none=>
  rw [List.findIdx?_eq_none_iff] at h
  rw [if_neg (by simp),List.find?_eq_none]
  intro x hx;simpa using h x hx
 |some i=>
  rw [List.findIdx?_eq_some_iff_getElem] at h
  obtain ⟨h1,h2,h3⟩:=h
  simp only [Int.natCast_nonneg,if_true,Int.toNat_natCast]
  rw [List.getElem?_eq_getElem h1,List.find?_eq_some_iff_getElem]
  exact ⟨h2,i,h1,rfl,fun j hj=>by simpa using h3 j hj⟩
def A9.may (c:A9) (n day:Int):Bool:=match c.Pg day with|some w=>w.AZ.any (fun x=>n==x)|none=>false
theorem Wr {l:List HX} {k:Nat} {x:HX} (hx:l[k]? =some x) (hp:∀y,0<k→l[k-1]? =some y→y.hi≤x.lo) (h:∀(j:Nat) a b,j+1<k→l[j]? =some a→l[j+1]? =some b→a.hi≤b.lo):
  ∀(j:Nat) a b,j+1<k+1→l[j]? =some a→l[j+1]? =some b→a.hi≤b.lo:=by
 intro j a b hj ha hb
 by_cases hjk:j+1=k
 · subst hjk;rw [hx] at hb;cases hb;exact hp a (by omega) (by simpa using ha)
 · exact h j a b (by omega) ha hb
theorem Ws {l:List Int} {k:Nat} {x:Int} (hx:l[k]? =some x) (hp:∀y,0<k→l[k-1]? =some y→y<x) (h:∀(j:Nat) a b,j+1<k→l[j]? =some a→l[j+1]? =some b→a<b):
  ∀(j:Nat) a b,j+1<k+1→l[j]? =some a→l[j+1]? =some b→a<b:=by
 intro j a b hj ha hb
 by_cases hjk:j+1=k
 · subst hjk;rw [hx] at hb;cases hb;exact hp a (by omega) (by simpa using ha)
 · exact h j a b (by omega) ha hb
theorem e7 {l:List HX} {k:Nat} {x:HX} (hx:l[k]? =some x) (hp:∀(j:Nat) a b,j+1<x.AZ.length→x.AZ[j]? =some a→x.AZ[j+1]? =some b→a<b) (h:∀(j:Nat) a,j<k→l[j]? =some a→Qx a.AZ):
  ∀(j:Nat) a,j<k+1→l[j]? =some a→Qx a.AZ:=by
 intro j a hj ha
 by_cases hjk:j=k
 ·
  subst hjk;rw [hx] at ha;cases ha
  intro i u v hu hv
  exact hp i u v (by rcases Nat.lt_or_ge (i+1) x.AZ.length with h|h;exact h;rw [List.getElem?_eq_none h] at hv;cases hv) hu hv
 · exact h j a (by omega) ha
theorem Ml {l:List HX} (h:(∀(j:Nat) a b,j+1<l.length→l[j]? =some a→l[j+1]? =some b→a.hi≤b.lo)∧∀(j:Nat) a,j<l.length→l[j]? =some a→Qx a.AZ):T8 l∧∀w∈l,Qx w.AZ:=by
 refine ⟨fun j a b ha hb=>h.1 j a b (by rcases Nat.lt_or_ge (j+1) l.length with h|h;exact h;rw [List.getElem?_eq_none h] at hb;cases hb) ha hb,fun w hw=> ?_⟩
 obtain ⟨j,hj,rfl⟩:=List.mem_iff_getElem.1 hw
 exact h.2 j _ hj (List.getElem?_eq_getElem hj)
theorem Zk {l:List HX} {k:Nat} {x y:HX} (hk:0<k) (hx:l[k]? =some x) (hy:l[k-1]? =some y) (h:x.lo<y.hi):¬(T8 l∧∀w∈l,Qx w.AZ):=by
 rintro ⟨h1,_⟩
 have:=h1 (k-1) y x hy (by rw [show k-1+1=k by omega];exact hx)
 omega
theorem Zl {l:List HX} {k i:Nat} {x:HX} {t u:Int} (hx:l[k]? =some x) (hi:0<i) (ht:x.AZ[i]? =some t) (hu:x.AZ[i-1]? =some u) (h:t≤u):¬(T8 l∧∀w∈l,Qx w.AZ):=by
 rintro ⟨_,h2⟩
 have:=h2 x (List.mem_of_getElem? hx) (i-1) u t hu (by rw [show i-1+1=i by omega];exact ht)
 omega
def DM (n d:Int) (room:Nat→Bool):Nat→List HX→Option Int
 |_,[]=>none
 |i,w::r=>if d<w.hi∧w.AZ.any (fun x=>n==x)∧room i then some (max d w.lo) else DM n d room (i+1) r
def A9.next (c:A9) (n day:Int) (room:Nat→Bool):Option Int:=DM n (max day 0) room 0 c.Be
theorem Vg {β:Type} {l:List β} {k:Nat} {x:β} (h:l[k]? =some x):l.drop k=x::l.drop (k+1):=by
 have hk:k<l.length:=by rcases Nat.lt_or_ge k l.length with h'|h';exact h';rw [List.getElem?_eq_none h'] at h;cases h
 rw [List.drop_eq_getElem_cons hk]
 rw [List.getElem?_eq_getElem hk] at h
 simp at h;rw [h]
theorem Zm {n d:Int} {room:Nat→Bool} {l:List HX} {k:Nat} {x:HX} (h:l[k]? =some x) (h1:d<x.hi) (h2:x.AZ.any (fun y=>n==y)=true) (h3:room k=true):DM n d room k (l.drop k)=some (max d x.lo):=by
 rw [Vg h,DM,if_pos ⟨h1,h2,h3⟩]
theorem Wt {n d:Int} {room:Nat→Bool} {l:List HX} {k:Nat} {x:HX} (h:l[k]? =some x) (h':¬(d<x.hi∧x.AZ.any (fun y=>n==y)=true∧room k=true)):DM n d room k (l.drop k)=DM n d room (k+1) (l.drop (k+1)):=by
 rw [Vg h,DM,if_neg h']
noncomputable def A9.Da (c:A9) (AZ days others:List Int):Int:=
 if c.own≠0 then c.own else if AZ.length≠days.length then 1 else if 24<AZ.length then 3
 else if (AZ++others).any (fun n=> !c.has n) then 2 else if (AZ.zip days).all (fun p=>c.may p.1 p.2) then 0 else 47
def A9.cell (c:A9) (p:Int×Int):Nat:=(c.at p.2).toNat*8+p.1.toNat
def A9.cnt (c:A9) (l:List (Int×Int)) (k:Nat):Nat:=l.countP fun p=>c.cell p==k
def A9.r7 (c:A9) (l:List (Int×Int)):List Int:=(List.range 256).map fun k=>(c.cnt l k:Int)
def r8 (c:A9) (l:List (Int×Int)):List Pr:=(c.r7 l).map fun z=>int z
theorem lG (c:A9) (l:List (Int×Int)) (k:Nat):c.cnt l k≤l.length:=List.countP_le_length
theorem SG {a b:List Int} {k:Nat} {x y:Int} (hx:a[k]? =some x) (hy:b[k]? =some y):(a.zip b).take (k+1)=(a.zip b).take k++[(x,y)]:=by
 have hz:(a.zip b)[k]? =some (x,y):=by rw [List.getElem?_zip_eq_some];exact ⟨hx,hy⟩
 rw [List.take_add_one,hz];rfl
theorem Zn {c:A9} {n d:Int} (h:c.may n d=true):0≤c.at d:=by
 have h2:=Ns (DL d) c.Be
 unfold A9.may A9.Pg at h
 unfold A9.at
 rcases Int.lt_or_le (idx (DL d) c.Be) 0 with h3|h3
 ·
  rw [if_neg (by omega)] at h2
  rw [h2] at h;cases h
 · exact h3
theorem Nt {c:A9} (h:c.own=0):c.Be.length≤32∧c.room.length≤8:=by
 unfold A9.own A9.check at h
 split at h
 · omega
 · omega
theorem Zo {c:A9} {n:Int} (h:c.own=0) (hn:c.has n=true):0≤n∧n<8:=by
 have:=(Nt h).2
 unfold A9.has at hn
 simp at hn
 omega
theorem lH {c:A9} {a b:List Int} {k:Nat} {n d:Int} (hx:a[k]? =some n) (hd:b[k]? =some d) (h:(!c.may n d)=true):¬(a.zip b).all (fun p=>c.may p.1 p.2)=true:=by
 intro h2
 rw [List.all_eq_true] at h2
 have hz:(a.zip b)[k]? =some (n,d):=by rw [List.getElem?_zip_eq_some];exact ⟨hx,hd⟩
 have:=h2 _ (List.mem_of_getElem? hz)
 simp [this] at h
theorem e8 {c:A9} {a b:List Int} (h:((a.zip b).take a.length).all (fun p=>c.may p.1 p.2)=true) (hl:a.length=b.length):(a.zip b).all (fun p=>c.may p.1 p.2)=true:=by
 rwa [List.take_of_length_le (by simp;omega)] at h
theorem lI {c:A9} {l:List Int} {n:Int} (h:l.any (fun n=> !c.has n)=false) (hn:n∈l):c.has n=true:=by
 rw [List.any_eq_false] at h
 simpa using h n hn
def A9.over (c:A9) (l:List (Int×Int)):Prop:=∃(i n:Nat) (r:Int),i<c.Be.length∧c.room[n]? =some r∧r<(c.cnt l (i*8+n):Int)
open Classical in
noncomputable def A9.Cw (c:A9) (AZ days others:List Int):Int:=
 if c.Da AZ days others≠0 then c.Da AZ days others else if c.over (AZ.zip days) then 48 else 0
noncomputable def iZ (c:A9) (AZ days others:List Int):Pr:=if c.Cw AZ days others=0 then ref (r8 c (AZ.zip days)) else is (.pointer none)
noncomputable instance nj (c:A9) (AZ days others:List Int):One (iZ c AZ days others):=by
 unfold iZ;split
 · exact Ut _
 · exact Us _
theorem FI {c:A9} {AZ days others:List Int} (h:c.Da AZ days others=0):c.own=0:=by
 unfold A9.Da at h
 by_cases h':c.own=0
 · exact h'
 · rw [if_pos h'] at h;exact absurd h h'
theorem SH {c:A9} {AZ days others:List Int} (h:c.Da AZ days others=0):∀n∈AZ++others,c.has n=true:=by
 have ho:=FI h
 unfold A9.Da at h
 rw [if_neg (not_not_intro ho)] at h
 split at h
 · cases h
 ·
  split at h
  · cases h
  ·
   split at h
   · cases h
   ·
    rename_i h1
    intro n hn
    exact lI (by simpa using h1) hn
theorem F2 {c:A9} {AZ days others:List Int} (h:c.Cw AZ days others=0):c.Da AZ days others=0:=by
 unfold A9.Cw at h
 by_cases h':c.Da AZ days others=0
 · exact h'
 · rw [if_pos h'] at h;exact absurd h h'
theorem T9 {c:A9} {l:List (Int×Int)} {i:Nat} (h0:∀i' n r,i'<i→c.room[n]? =some r→(c.cnt l (i'*8+n):Int)≤r) (h1:∀n r,n<c.room.length→c.room[n]? =some r→(c.cnt l (i*8+n):Int)≤r):∀i' n r,i'<i+1→c.room[n]? =some r→(c.cnt l (i'*8+n):Int)≤r:=by
 intro i' n r hi hr
 by_cases hii:i'=i
 ·
  subst hii
  refine h1 n r ?_ hr
  rcases Nat.lt_or_ge n c.room.length with h|h
  · exact h
  · rw [List.getElem?_eq_none h] at hr;cases hr
 · exact h0 i' n r (by omega) hr
theorem T_ {c:A9} {l:List (Int×Int)} {i m:Nat} {r:Int} (h0:∀n r,n<m→c.room[n]? =some r→(c.cnt l (i*8+n):Int)≤r) (hx:c.room[m]? =some r) (hle:(c.cnt l (i*8+m):Int)≤r):∀n r,n<m+1→c.room[n]? =some r→(c.cnt l (i*8+n):Int)≤r:=by
 intro n r' hn hr
 by_cases hnm:n=m
 · subst hnm;rw [hx] at hr;cases hr;exact hle
 · exact h0 n r' (by omega) hr
def A9.Jl (c:A9) (n:Int):Int:=(c.room[n.toNat]?).getD 0
theorem Nu {c:A9} {n:Int} (h:c.has n=true):0≤n∧c.room[n.toNat]? =some (c.Jl n):=by
 unfold A9.has at h
 simp at h
 refine ⟨h.1,?_⟩
 have:n.toNat<c.room.length:=by omega
 unfold A9.Jl
 rw [List.getElem?_eq_getElem this];rfl
def A9.free (c:A9) (l:List (Int×Int)) (n:Int) (i:Nat):Bool:=decide ((c.cnt l (i*8+n.toNat):Int)<c.Jl n)
noncomputable def A9.early (c:A9) (AZ days:List Int) (n from_:Int):Option Int:=if c.Cw AZ days [n]=0 then c.next n from_ (c.free (AZ.zip days) n) else none
theorem Jm {c:A9} {n:Int} (h:c.check n=0):(c.Be.length≤32∧c.room.length≤8)∧c.room.any I3=false∧c.Be.any Jk=false∧T8 c.Be∧(∀w∈c.Be,Qx w.AZ)∧c.Be.any (fun w=>w.AZ.any fun n=> !c.has n)=false:=by
 unfold A9.check at h
 split at h
 · cases h
 ·
  split at h
  · cases h
  ·
   split at h
   · cases h
   ·
    split at h
    · cases h
    ·
     split at h
     · cases h
     ·
      rename_i h1 h2 h3 h4 h5
      rw [Classical.not_not] at h4
      exact ⟨by omega,by simpa using h2,by simpa using h3,h4.1,h4.2,by simpa using h5⟩
theorem G_ {c:A9} (h:c.own=0):T8 c.Be∧∀w∈c.Be,0≤w.lo∧w.lo<w.hi:=by
 obtain ⟨_,_,h3,h4,_⟩:=Jm h
 refine ⟨h4,fun w hw=> ?_⟩
 rw [List.any_eq_false] at h3
 have:=h3 w hw
 simp [Jk] at this
 omega
abbrev Ph (l:List HX):Prop:=l.Pairwise fun a b=>a.hi≤b.lo
theorem HA:∀{l:List HX},T8 l→(∀w∈l,0≤w.lo∧w.lo<w.hi)→Ph l
 |[],_,_=>List.Pairwise.nil
 |[a],_,_=>by simp [Ph]
 |a::b::l,h,hw=>by
  have ih:Ph (b::l):=HA (fun j x y hx hy=>h (j+1) x y (by simpa using hx) (by simpa using hy)) (fun w hm=>hw w (List.mem_cons_of_mem _ hm))
  refine List.Pairwise.cons (fun w hm=> ?_) ih
  have h0:=h 0 a b rfl rfl
  rcases List.mem_cons.1 hm with rfl|hm
  · exact h0
  ·
   have h1:=(List.pairwise_cons.1 ih).1 w hm
   have:=hw b (by simp)
   omega
theorem Nv {k:Int} {w:HX} (h:DL k w=true):w.lo≤k∧k<w.hi:=by unfold DL at h;simpa using h
theorem ia {k:Int} {w:HX} (h:w.lo≤k∧k<w.hi):DL k w=true:=by unfold DL;simpa using h
theorem Qy {k:Int}:∀{l:List HX} {w:HX},Ph l→w∈l→DL k w=true→l.find? (DL k)=some w
 |a::l,w,hp,hm,hin=>by
  rcases List.mem_cons.1 hm with rfl|hm
  · exact List.find?_cons_of_pos hin
  ·
   have h1:=(List.pairwise_cons.1 hp).1 w hm
   have h2:=Nv hin
   rw [List.find?_cons_of_neg (by intro h;have:=Nv h;omega)]
   exact Qy (List.pairwise_cons.1 hp).2 hm hin
theorem e_ {c:A9} {t k:Int} (h:c.own=0):c.may t k=true↔∃w∈c.Be,DL k w=true∧w.AZ.any (fun x=>t==x)=true:=by
 obtain ⟨h1,h2⟩:=G_ h
 unfold A9.may A9.Pg
 constructor
 ·
  intro hm
  cases hf:c.Be.find? (DL k) with
  |none=>rw [hf] at hm;cases hm
  |some w=>rw [hf] at hm;exact ⟨w,List.mem_of_find?_eq_some hf,List.find?_some hf,hm⟩
 ·
  rintro ⟨w,hw,hin,ht⟩
  rw [Qy (HA h1 h2) hw hin];exact ht
theorem HZ {β:Type} {p:β→Bool} {l:List β} {k:Nat} {x:β} (hx:l[k]? =some x) (hp:p x=true):l.any p=true:=List.any_eq_true.2 ⟨x,List.mem_of_getElem? hx,hp⟩
theorem B7 {β:Type} {p:β→Bool} {l:List β} (h:∀j y,j<l.length→l[j]? =some y→p y=false):l.any p=false:=by
 rw [List.any_eq_false]
 intro y hy
 obtain ⟨j,hj⟩:=List.mem_iff_getElem?.1 hy
 have:=h j y (by rcases Nat.lt_or_ge j l.length with h|h;exact h;rw [List.getElem?_eq_none h] at hj;cases hj) hj
 simp [this]
abbrev Nw {β:Type} (p:β→Bool) (l:List β) (k:Nat):Prop:=∀j y,j<k→l[j]? =some y→p y=false
theorem IZ {β:Type} (p:β→Bool) (l:List β):Nw p l 0:=fun j y hj=>absurd hj (by omega)
theorem Ia {β:Type} {p:β→Bool} {l:List β} {k:Nat} {x:β} (hx:l[k]? =some x) (hp:p x=false) (h:Nw p l k):Nw p l (k+1):=EM hx hp h
abbrev Zp (c:A9):HX→Bool:=fun w=>w.AZ.any fun n=> !c.has n
theorem Ib {c:A9} {m:Int}  :Az prog 28 [Jj c,int m] (int (c.check m)):=by
 refine fo func28 rfl ⟨rfl,rfl⟩ fun M0 w0=>(Tr.Gg 0 0 rfl rfl fun I4=>(Tr.Gg 0 1 rfl rfl fun I5=>(Tr.Gg 0 2 rfl rfl fun Qz=> ?_)))
 refine ac ?_
 refine ag ?_ ?_<;>intro h1 q1
 refine a3 ?_
 · refine int_eq ?_;unfold A9.check;rw [if_pos (by omega)]
 refine an ?_ ?_<;>intro h2 q2
 refine a2 ?_
 · refine int_eq ?_;unfold A9.check;rw [if_pos (by omega)]
 refine a2 ?_
 refine JV 1 2 29 30 31 rfl (Tr.block (Tr.A7 [(1,_),(2,_),(29,_),(30,_)] (TN rfl) (fun a:Nat=>[(31,int ((a:Nat):Int))]) (fun a:Nat=>a≤(c.room).length∧(Nw I3 c.room a)) (fun a:Nat=>(c.room).length-a) 0 (⟨Nat.zero_le _,IZ _ _⟩) ⟨ke rfl,trivial⟩ ?_))
 rintro a ⟨r9,FU⟩
 refine ac ?_
 refine Tr.seq ?_
 refine Tr.cn rfl ?_ ?_<;>intro h3 q3
 have Zq:a<(c.room).length:=AH h3
 obtain ⟨r,Zr⟩:=at_ Zq
 refine ac ?_
 refine Tr.seq (Tr.block (Tr.seq (Tr.AW (co rfl (AA rfl underlying22 Bh (vl rfl) (vl rfl) (by omega) (by exact AO (by assumption))) ?_))))
 · repeat' first|(refine int_eq ?_;unfold A9.check;rw [if_neg (by omega),if_pos (HZ Zr (by simp [I3];omega))])|(exact Fin.AM (a+1) ⟨⟨Zq,Ia Zr (by simp [I3];omega) FU⟩,by omega⟩ ⟨⟨_,rfl,AD a⟩,ke rfl,ke rfl,ke rfl,ke rfl,trivial⟩)|refine ac ?_|(refine Tr.cn rfl ?_ ?_<;>intro h q)|(refine Ch.cg rfl rfl rfl ?_ ?_<;>intro h q)
 have lJ:a=(c.room).length:=by have:=AJ h3;omega
 subst lJ
 refine a2 ?_
 refine Tr.block (Tr.A7 [(1,_),(2,_),(43,_),(44,_)] (TN rfl) (fun b:Nat=>[(45,int ((b:Nat):Int))]) (fun b:Nat=>b≤(c.Be).length∧(Nw Jk c.Be b)) (fun b:Nat=>(c.Be).length-b) 0 (⟨Nat.zero_le _,IZ _ _⟩) ⟨ke rfl,trivial⟩ ?_)
 rintro b ⟨yR,Jn⟩
 refine ac ?_
 refine Tr.seq ?_
 refine Tr.cn rfl ?_ ?_<;>intro h6 q6
 have r_:b<(c.Be).length:=AH h6
 obtain ⟨w,sA⟩:=at_ r_
 refine ac ?_
 refine Tr.seq (Tr.block (Tr.seq (Tr.An (tp rfl (AA rfl underlying48 G2 (vl rfl) (vl rfl) (by omega) (by exact AO (by assumption))) ?_))))
 refine tp rfl (AR rfl NL G2 (vl rfl) rfl rfl) ?_
 refine Tl rfl rfl rfl rfl WT NM (fun b1=> ?_)
 refine sf 0 8 ⟨rfl,rfl,rfl⟩ rfl rfl rfl rfl ?_
 refine ao ?_
 · repeat' first|(refine int_eq ?_;unfold A9.check;rw [if_neg (by omega),if_neg (BG (B7 FU)),if_pos (HZ sA (by simp [Jk];omega))])|(exact Fin.AM (b+1) ⟨⟨r_,Ia sA (by simp [Jk];omega) Jn⟩,by omega⟩ ⟨⟨_,rfl,AD b⟩,ke rfl,ke rfl,ke rfl,ke rfl,trivial⟩)|refine ac ?_|(refine Tr.cn rfl ?_ ?_<;>intro h q)|(refine Ch.cg rfl rfl rfl ?_ ?_<;>intro h q)
 have xJ:b=(c.Be).length:=by have:=AJ h6;omega
 subst xJ
 refine a2 ?_
 refine Tr.block (Tr.A7 [(1,_),(2,_),(70,_),(71,_)] (TN rfl) (fun k:Nat=>[(72,int ((k:Nat):Int))]) (fun k:Nat=>k≤(c.Be).length∧((∀(j:Nat) a b,j+1<k→c.Be[j]? =some a→c.Be[j+1]? =some b→a.hi≤b.lo)∧∀(j:Nat) a,j<k→c.Be[j]? =some a→Qx a.AZ)) (fun k:Nat=>(c.Be).length-k) 0 (⟨Nat.zero_le _,⟨fun j a b hj=>absurd hj (by omega),fun j a hj=>absurd hj (by omega)⟩⟩) ⟨ke rfl,trivial⟩ ?_)
 rintro k ⟨BN,Ab⟩
 refine ac ?_
 refine Tr.seq ?_
 refine Tr.cn rfl ?_ ?_<;>intro h10 Oa
 have Af:k<(c.Be).length:=AH h10
 obtain ⟨x,Ad⟩:=at_ Af
 refine ac ?_
 refine ao ?_
 refine tp rfl (AA rfl underlying48 G2 (vl rfl) (vl rfl) (by omega) (by exact AO (by assumption))) ?_
 refine tp rfl (AR rfl NL G2 (vl rfl) rfl rfl) ?_
 refine Tl rfl rfl rfl rfl WT NM (fun b2=> ?_)
 refine tm rfl ?_
 refine sf 0 10 ⟨rfl,rfl,rfl⟩ rfl rfl rfl rfl ?_
 refine ao ?_
 refine I_ 1 2 9 10 70 71 72 rfl (Tr.RT [1,2,10,70,71,72] [] (∀y,0<k→c.Be[k-1]? =some y→y.hi≤x.lo) ?_ (fun sB=> ?_))
 refine ag ?_ ?_<;>intro h12 S6
 obtain ⟨pw,hpw⟩:=at_ (l:=c.Be) (k:=k-1) (by omega)
 refine ac ?_
 refine cy h12 rfl (AA rfl underlying48 G2 (vl rfl) (vl rfl) (by omega) (RU (by omega) hpw)) ?_
 refine ac ?_
 refine I_ 1 2 10 70 71 72 92 rfl ?_
 refine Tr.cn rfl ?_ ?_<;>intro MG Xt
 refine a2 ?_
 · refine int_eq ?_;unfold A9.check;rw [if_neg (by omega),if_neg (BG (B7 FU)),if_neg (BG (B7 Jn)),if_pos (Zk (by omega) Ad hpw (by assumption))]
 refine Tr.skip ?_
 exact Fin.AM () (by intro y' hk' hy';rw [hpw] at hy';cases hy';omega) (gv rfl)
 refine ac ?_
 refine I_ 1 2 10 70 71 72 92 rfl (Tr.cond rfl (fun h=>nomatch h) (fun _=> ?_))
 refine Tr.skip ?_
 exact Fin.AM () (by intro y' hk' hy';omega) (gv rfl)
 refine ac ?_
 refine Tr.block (Tr.A7 [(1,_),(2,_),(10,_),(70,_),(71,_),(72,_)] (gv rfl) (fun i:Nat=>[(11,int ((i:Nat):Int))]) (fun i:Nat=>1≤i∧i≤max 1 x.AZ.length∧∀(j:Nat) a b,j+1<i→x.AZ[j]? =some a→x.AZ[j+1]? =some b→a<b) (fun i:Nat=>x.AZ.length-i) 1 (⟨by omega,by omega,fun j a b hj=>absurd hj (by omega)⟩) ⟨ke rfl,trivial⟩ ?_)
 rintro i ⟨hi1,hi2,FT⟩
 refine an ?_ ?_<;>intro Ku eO
 have LK:i<x.AZ.length:=AH Ku
 obtain ⟨t,ht⟩:=at_ LK
 obtain ⟨u,hu⟩:=at_ (l:=x.AZ) (k:=i-1) (by omega)
 refine Tr.C8 95 rfl fun hlt=> ?_
 · repeat' first|(refine int_eq ?_;unfold A9.check;rw [if_neg (by omega),if_neg (BG (B7 FU)),if_neg (BG (B7 Jn)),if_pos (Zl Ad (by omega) ht hu (by omega))])|(exact Fin.AM (i+1) ⟨⟨by omega,by omega,Ws ht (by intro y' hk' hy';rw [hu] at hy';cases hy';omega) FT⟩,by omega⟩ ⟨⟨_,rfl,AD i⟩,ke rfl,ke rfl,ke rfl,ke rfl,ke rfl,ke rfl,trivial⟩)|refine co rfl (AA rfl underlying22 Bh (vl rfl) (vl rfl) (by omega) (RU (by omega) hu)) ?_|refine co rfl (AA rfl underlying22 Bh (vl rfl) (vl rfl) (by omega) (by exact AO (by assumption))) ?_|refine ac ?_|(refine Tr.cn rfl ?_ ?_<;>intro h q)
 have hge:x.AZ.length≤i:=AJ Ku
 have hall:∀(j:Nat) a b,j+1<x.AZ.length→x.AZ[j]? =some a→x.AZ[j+1]? =some b→a<b:=fun j a b hj=>FT j a b (by omega)
 refine a2 ?_
 exact Fin.AM (k+1) ⟨⟨Af,⟨Wr Ad sB Ab.1,e7 Ad hall Ab.2⟩⟩,by omega⟩ ⟨⟨_,rfl,AD k⟩,ke rfl,ke rfl,ke rfl,ke rfl,trivial⟩
 have BI:k=(c.Be).length:=by have:=AJ h10;omega
 subst BI
 refine a2 ?_
 refine Tr.block (Tr.A7 [(1,_),(2,_),(114,_),(115,_)] (TN rfl) (fun d:Nat=>[(116,int ((d:Nat):Int))]) (fun d:Nat=>d≤(c.Be).length∧(Nw (Zp c) c.Be d)) (fun d:Nat=>(c.Be).length-d) 0 (⟨Nat.zero_le _,IZ _ _⟩) ⟨ke rfl,trivial⟩ ?_)
 rintro d ⟨yS,Q0⟩
 refine ac ?_
 refine Tr.seq ?_
 refine Tr.cn rfl ?_ ?_<;>intro h16 kg
 have sC:d<(c.Be).length:=AH h16
 obtain ⟨z,sD⟩:=at_ sC
 refine ac ?_
 refine Tr.seq (Tr.block (Tr.seq (Tr.An (tp rfl (AA rfl underlying48 G2 (vl rfl) (vl rfl) (by omega) (by exact AO (by assumption))) ?_))))
 refine tp rfl (AR rfl NL G2 (vl rfl) rfl rfl) ?_
 refine Tl rfl rfl rfl rfl WT NM (fun b3=> ?_)
 refine sf 0 13 ⟨rfl,rfl,rfl⟩ rfl rfl rfl rfl ?_
 refine ao ?_
 refine ac ?_
 refine Jx 1 2 114 115 116 121 122 123 rfl (Tr.block (Tr.C8 121 rfl fun hlz=>(Tr.A7 [(1,_),(2,_),(114,_),(115,_),(116,_),(121,_),(122,_)] (kk7 rfl) (fun e:Nat=>[(123,int ((e:Nat):Int))]) (fun e:Nat=>e≤(z.AZ).length∧(Nw (fun n=> !c.has n) z.AZ e)) (fun e:Nat=>(z.AZ).length-e) 0 (⟨Nat.zero_le _,IZ _ _⟩) ⟨ke rfl,trivial⟩ ?_)))
 rintro e ⟨yT,Qv⟩
 refine ac ?_
 refine Tr.seq ?_
 refine Tr.cn rfl ?_ ?_<;>intro MH eG
 have sE:e<(z.AZ).length:=AH MH
 obtain ⟨y,sF⟩:=at_ sE
 refine ac ?_
 refine Tr.seq (Tr.block (Tr.seq (Tr.AW (co rfl (AA rfl underlying22 Bh (vl rfl) (vl rfl) (by omega) (by exact AO (by assumption))) ?_))))
 · repeat' first|(refine int_eq ?_;unfold A9.check;rw [if_neg (by omega),if_neg (BG (B7 FU)),if_neg (BG (B7 Jn)),if_neg (not_not_intro (Ml Ab)),if_pos (HZ sD (HZ sF (by simp [A9.has];omega)))])|(exact Fin.AM (e+1) ⟨⟨sE,Ia sF (by simp [A9.has];omega) Qv⟩,by omega⟩ ⟨⟨_,rfl,AD e⟩,ke rfl,ke rfl,ke rfl,ke rfl,ke rfl,ke rfl,ke rfl,trivial⟩)|refine ac ?_|(refine Tr.cn rfl ?_ ?_<;>intro h q)|(refine Ch.cg rfl rfl rfl ?_ ?_<;>intro h q)
 have xL:e=(z.AZ).length:=by have:=AJ MH;omega
 subst xL
 refine a2 ?_
 exact Fin.AM (d+1) ⟨⟨sC,Ia sD (B7 Qv) Q0⟩,by omega⟩ ⟨⟨_,rfl,AD d⟩,ke rfl,ke rfl,ke rfl,ke rfl,trivial⟩
 have xM:d=(c.Be).length:=by have:=AJ h16;omega
 subst xM
 refine ac ?_
 refine an ?_ ?_<;>intro OY nW
 refine a2 ?_
 · refine int_eq ?_;unfold A9.check;rw [if_neg (by omega),if_neg (BG (B7 FU)),if_neg (BG (B7 Jn)),if_neg (not_not_intro (Ml Ab)),if_neg (BG (B7 Q0)),if_pos (.inl (by assumption))]
 refine a2 ?_
 refine D7 2 144 145 146 rfl (Tr.block (Tr.A7 [(2,_),(144,_),(145,_)] (MW rfl) (fun g:Nat=>[(146,int ((g:Nat):Int))]) (fun g:Nat=>g≤(c.HY).length∧(Nw (fun n=> !c.has n) c.HY g)) (fun g:Nat=>(c.HY).length-g) 0 (⟨Nat.zero_le _,IZ _ _⟩) ⟨ke rfl,trivial⟩ ?_))
 rintro g ⟨yU,Zs⟩
 refine ac ?_
 refine Tr.seq ?_
 refine Tr.cn rfl ?_ ?_<;>intro VH q21
 have sG:g<(c.HY).length:=AH VH
 obtain ⟨v,sH⟩:=at_ sG
 refine ac ?_
 refine Tr.seq (Tr.block (Tr.seq (Tr.AW (co rfl (AA rfl underlying22 Bh (vl rfl) (vl rfl) (by omega) (by exact AO (by assumption))) ?_))))
 · repeat' first|(refine int_eq ?_;unfold A9.check;rw [if_neg (by omega),if_neg (BG (B7 FU)),if_neg (BG (B7 Jn)),if_neg (not_not_intro (Ml Ab)),if_neg (BG (B7 Q0)),if_pos (.inr (HZ sH (by simp [A9.has];omega)))])|(exact Fin.AM (g+1) ⟨⟨sG,Ia sH (by simp [A9.has];omega) Zs⟩,by omega⟩ ⟨⟨_,rfl,AD g⟩,ke rfl,ke rfl,ke rfl,trivial⟩)|refine ac ?_|(refine Tr.cn rfl ?_ ?_<;>intro h q)|(refine Ch.cg rfl rfl rfl ?_ ?_<;>intro h q)
 have xN:g=(c.HY).length:=by have:=AJ VH;omega
 subst xN
 refine a3 ?_
 · refine int_eq ?_;unfold A9.check;rw [if_neg (by omega),if_neg (BG (B7 FU)),if_neg (BG (B7 Jn)),if_neg (not_not_intro (Ml Ab)),if_neg (BG (B7 Q0)),if_neg (not_or.2 ⟨not_not_intro (by omega),BG (B7 Zs)⟩)]
theorem ig {c:A9} {day:Int}  :Az prog 121 [Jj c,int day] (int (c.at day)):=by
 refine fo func121 rfl ⟨rfl,rfl⟩ fun M0 w0=>(Tr.Gg 0 0 rfl rfl fun I4=> ?_)
 refine a2 ?_
 refine Tr.block (Tr.A7 [(1,_),(8,_),(9,_)] (MW rfl) (fun i:Nat=>[(10,int ((i:Nat):Int))]) (fun i:Nat=>i≤(c.Be).length∧(Nw (DL day) c.Be i)) (fun i:Nat=>(c.Be).length-i) 0 (⟨Nat.zero_le _,IZ _ _⟩) ⟨ke rfl,trivial⟩ ?_)
 rintro i ⟨Zb,FT⟩
 refine ac ?_
 refine Tr.seq ?_
 refine Tr.cn rfl ?_ ?_<;>intro h1 q1
 have LK:i<(c.Be).length:=AH h1
 obtain ⟨w,MO⟩:=at_ LK
 refine ac ?_
 refine ao ?_
 refine tp rfl (AA rfl underlying48 G2 (vl rfl) (vl rfl) (by omega) (by exact AO (by assumption))) ?_
 refine tp rfl (AR rfl NL G2 (vl rfl) rfl rfl) ?_
 refine Tl rfl rfl rfl rfl WT NM (fun b1=> ?_)
 refine tm rfl ?_
 refine sf 0 6 ⟨rfl,rfl,rfl⟩ rfl rfl rfl rfl ?_
 refine ao ?_
 · repeat' first|(exact int_eq (Dx MO (by simp [DL];omega) FT))|(exact Fin.AM (i+1) ⟨⟨LK,Ia MO (by simp [DL];omega) FT⟩,by omega⟩ ⟨⟨_,rfl,AD i⟩,ke rfl,ke rfl,ke rfl,trivial⟩)|refine ac ?_|(refine Tr.cn rfl ?_ ?_<;>intro h q)|(refine Ch.cg rfl rfl rfl ?_ ?_<;>intro h q)
 have T0:i=(c.Be).length:=by have:=AJ h1;omega
 subst T0
 refine a3 ?_
 · exact int_eq (G4 FT)
theorem lK {c:A9} {n day:Int} (h:c.at day<0):c.may n day=false:=by
 have h2:=Ns (DL day) c.Be
 rw [if_neg (by unfold A9.at at h;omega)] at h2
 unfold A9.may A9.Pg;rw [h2]
theorem Vh {c:A9} {n day:Int} {w:HX} (h:0≤c.at day) (hw:c.Be[(c.at day).toNat]? =some w):c.may n day=w.AZ.any (fun x=>n==x):=by
 have h2:=Ns (DL day) c.Be
 unfold A9.at at h hw
 rw [if_pos h,hw] at h2
 unfold A9.may A9.Pg;rw [h2]
theorem fA {c:A9} {day:Int} (h:0≤c.at day):∃w,c.Be[(c.at day).toNat]? =some w∧DL day w=true:=by
 obtain ⟨w,h1,h2⟩:=ez (p:=DL day) (l:=c.Be) h
 exact ⟨w,h1,h2⟩
theorem Zt {c:A9} {n day:Int}  :Az prog 94 [Jj c,int n,int day] (bool (c.may n day)):=by
 refine fo func94 rfl ⟨rfl,rfl⟩ fun M0 w0=> ?_
 refine a2 ?_
 refine co rfl (CS (ig) rfl rfl rfl) ?_
 refine ac ?_
 refine an ?_ ?_<;>intro h1 q1
 refine a2 ?_
 · exact bool_eq (lK (by assumption)).symm
 obtain ⟨w,hw,hin⟩:=fA (c:=c) (day:=day) q1
 refine a2 ?_
 refine co rfl (AA rfl underlying48 G2 (vl rfl) (vl rfl) (by omega) (BB hw)) ?_
 refine ac ?_
 refine D7 1 20 21 22 rfl (Tr.block (Tr.C8 20 rfl fun hlt=>(Tr.A7 [(1,_),(20,_),(21,_)] (MW rfl) (fun k:Nat=>[(22,int ((k:Nat):Int))]) (fun k:Nat=>k≤(w.AZ).length∧(Nw (fun x=>n==x) w.AZ k)) (fun k:Nat=>(w.AZ).length-k) 0 (⟨Nat.zero_le _,IZ _ _⟩) ⟨ke rfl,trivial⟩ ?_)))
 rintro k ⟨BN,Ab⟩
 refine ac ?_
 refine Tr.seq ?_
 refine Tr.cn rfl ?_ ?_<;>intro h2 q2
 have Af:k<(w.AZ).length:=AH h2
 obtain ⟨t,Ad⟩:=at_ Af
 refine ac ?_
 refine Tr.seq (Tr.block (Tr.seq (Tr.AW (co rfl (AA rfl underlying22 Bh (vl rfl) (vl rfl) (by omega) (by exact AO (by assumption))) ?_))))
 · repeat' first|(refine bool_eq ?_;rw [Vh (by assumption) hw];exact (HZ Ad (by simp;omega)).symm)|(exact Fin.AM (k+1) ⟨⟨Af,Ia Ad (by simp;omega) Ab⟩,by omega⟩ ⟨⟨_,rfl,AD k⟩,ke rfl,ke rfl,ke rfl,trivial⟩)|refine ac ?_|(refine Tr.cn rfl ?_ ?_<;>intro h q)
 have BI:k=(w.AZ).length:=by have:=AJ h2;omega
 subst BI
 refine a3 ?_
 · refine bool_eq ?_;rw [Vh (by assumption) hw];exact (B7 Ab).symm
theorem SI {c:A9} {n day:Int} (h:c.own=0) {k:Nat} {w:HX} (hw:c.Be[k]? =some w) (hd:max day w.lo<w.hi):c.may n (max day w.lo)=w.AZ.any (fun x=>n==x):=by
 obtain ⟨h1,h2⟩:=G_ h
 have hm:=List.mem_of_getElem? hw
 have h3:=h2 w hm
 unfold A9.may A9.Pg
 rw [Qy (HA h1 h2) hm (ia (by omega))]
theorem Zu {c:A9} {a b:List Int} {k:Nat} {n d:Int} (hx:a[k]? =some n) (hd:b[k]? =some d) (hm:c.may n d=true) (h:((a.zip b).take k).all (fun p=>c.may p.1 p.2)=true):((a.zip b).take (k+1)).all (fun p=>c.may p.1 p.2)=true:=by
 rw [SG hx hd,List.all_append,h];simp [hm]
theorem any_nil {c:A9} {l:List Int}:(l++[]).any (fun n=> !c.has n)=l.any (fun n=> !c.has n):=by rw [List.append_nil]
theorem lM {c:A9} {AZ days:List Int}  :Az prog 120 [Jj c,ints AZ,ints days] (int (c.Da AZ days [])):=by
 refine fo func120 rfl ⟨rfl,rfl⟩ fun M0 w0=>(Tr.Gg 0 1 rfl rfl fun I5=>(Tr.Gg 0 2 rfl rfl fun Qz=>(Tr.C8 1 rfl fun Hz=>(Tr.C8 2 rfl fun Za=> ?_))))
 refine a2 ?_
 refine co rfl (CS (Ib) rfl rfl rfl) ?_
 refine ac ?_
 refine Tr.seq (Tr.re 7 rfl (int_eq (b:=c.own) rfl) ?_)
 refine an ?_ ?_<;>intro h1 q1
 refine a2 ?_
 · refine int_eq ?_;unfold A9.Da;rw [if_pos (by assumption)]
 have hown:c.own=0:=q1
 refine a2 ?_
 refine D7 1 2 3 24 rfl ?_
 refine Tr.cn rfl ?_ ?_<;>intro h2 q2
 refine a2 ?_
 · refine int_eq ?_;unfold A9.Da;rw [if_neg (not_not_intro hown),if_pos (by omega)]
 refine ac ?_
 refine an ?_ ?_<;>intro h3 q3
 refine a2 ?_
 · refine int_eq ?_;unfold A9.Da;rw [if_neg (not_not_intro hown),if_neg (by omega),if_pos (by omega)]
 refine a2 ?_
 refine Tr.block (Tr.A7 [(1,_),(2,_),(3,_),(28,_),(29,_)] (kk5 rfl) (fun a:Nat=>[(30,int ((a:Nat):Int))]) (fun a:Nat=>a≤(AZ).length∧(Nw (fun n=> !c.has n) AZ a)) (fun a:Nat=>(AZ).length-a) 0 (⟨Nat.zero_le _,IZ _ _⟩) ⟨ke rfl,trivial⟩ ?_)
 rintro a ⟨r9,FU⟩
 refine ac ?_
 refine Tr.seq ?_
 refine Tr.cn rfl ?_ ?_<;>intro h4 q4
 have Zq:a<(AZ).length:=AH h4
 obtain ⟨r,Zr⟩:=at_ Zq
 refine ac ?_
 refine Tr.seq (Tr.block (Tr.seq (Tr.AW (co rfl (AA rfl underlying22 Bh (vl rfl) (vl rfl) (by omega) (by exact AO (by assumption))) ?_))))
 · repeat' first|(refine int_eq ?_;unfold A9.Da;rw [if_neg (not_not_intro hown),if_neg (by omega),if_neg (by omega),any_nil,if_pos (HZ Zr (by simp [A9.has];omega))])|(exact Fin.AM (a+1) ⟨⟨Zq,Ia Zr (by simp [A9.has];omega) FU⟩,by omega⟩ ⟨⟨_,rfl,AD a⟩,ke rfl,ke rfl,ke rfl,ke rfl,ke rfl,trivial⟩)|refine ac ?_|(refine Tr.cn rfl ?_ ?_<;>intro h q)|(refine Ch.cg rfl rfl rfl ?_ ?_<;>intro h q)
 have lJ:a=(AZ).length:=by have:=AJ h4;omega
 subst lJ
 refine a2 ?_
 refine Tr.block (Tr.A7 [(2,_),(3,_),(44,_),(45,_)] (TN rfl) (fun k:Nat=>[(46,int ((k:Nat):Int))]) (fun k:Nat=>k≤(AZ).length∧(((AZ.zip days).take k).all (fun p=>c.may p.1 p.2)=true)) (fun k:Nat=>(AZ).length-k) 0 (⟨Nat.zero_le _,by simp⟩) ⟨ke rfl,trivial⟩ ?_)
 rintro k ⟨BN,Ab⟩
 refine ac ?_
 refine Tr.seq ?_
 refine Tr.cn rfl ?_ ?_<;>intro h7 q7
 have Af:k<(AZ).length:=AH h7
 obtain ⟨n,Ad⟩:=at_ Af
 obtain ⟨d,hd⟩:=at_ (l:=days) (k:=k) (by omega)
 · repeat' first|(refine int_eq ?_;unfold A9.Da;rw [if_neg (not_not_intro hown),if_neg (by omega),if_neg (by omega),any_nil,if_neg (BG (B7 FU)),if_neg (lH Ad hd (by assumption))])|exact Fin.AM (k+1) ⟨⟨Af,Zu Ad hd (by simp_all) Ab⟩,by omega⟩ ⟨⟨_,rfl,AD k⟩,ke rfl,ke rfl,ke rfl,ke rfl,trivial⟩|refine co rfl (DQ rfl Bo rfl) (co rfl (JH (Zt) rfl rfl rfl rfl) ?_)|refine co rfl (AA rfl underlying22 Bh (vl rfl) (vl rfl) (by omega) (by exact AO (by assumption))) ?_|refine ac ?_|(refine Tr.cn rfl ?_ ?_<;>intro h q)
 have BI:k=(AZ).length:=by have:=AJ h7;omega
 subst BI
 refine a3 ?_
 · refine int_eq ?_;unfold A9.Da;rw [if_neg (not_not_intro hown),if_neg (by omega),if_neg (by omega),any_nil,if_neg (BG (B7 FU)),if_pos (e8 Ab (by omega))]
def A9.EX (c:A9) (l:List (Int×Int)):List (List Int):=(List.range c.Be.length).map fun i=>(List.range c.room.length).map fun n=>(c.cnt l (i*8+n):Int)
def JC (c:A9) (l:List (Int×Int)):List (List Pr):=(c.EX l).map fun r=>r.map fun z=>int z
def Zv (c:A9):List Pr:=(List.replicate c.room.length (Value.int .i64 0)).map is
theorem EW (c:A9) (l:List (Int×Int)):(JC c l).length=c.Be.length:=by simp [JC,A9.EX]
theorem Zw {c:A9} {l:List (Int×Int)}:∀r∈JC c l,r.length=c.room.length:=by
 intro r hr
 simp only [JC,A9.EX,List.mem_map] at hr
 obtain ⟨_,⟨i,_,rfl⟩,rfl⟩:=hr
 simp
theorem Wu (c:A9):JC c []=List.replicate c.Be.length (Zv c):=by
 apply List.ext_getElem?
 intro i
 by_cases hi:i<c.Be.length
 ·
  rw [List.getElem?_replicate,if_pos hi]
  simp only [JC,A9.EX,List.getElem?_map,List.getElem?_range hi,Option.map_some]
  congr 1
  apply List.ext_getElem?
  intro n
  by_cases hn:n<c.room.length
  · simp [Zv,List.getElem?_range hn,List.getElem?_replicate,hn,A9.cnt]
  · rw [List.getElem?_eq_none (by simp;omega),List.getElem?_eq_none (by simp [Zv];omega)]
 · rw [List.getElem?_eq_none (by rw [EW];omega),List.getElem?_eq_none (by simp;omega)]
def Kg (c:A9) (l:List (Int×Int)) (i:Nat):List Pr:=(List.range c.room.length).map fun n=>int (c.cnt l (i*8+n))
theorem Mm {c:A9} {l:List (Int×Int)} {i:Nat} (hi:i<c.Be.length):(JC c l)[i]? =some (Kg c l i):=by
 simp [JC,A9.EX,List.getElem?_range hi,Kg]
theorem DT (c:A9) (l:List (Int×Int)) (i:Nat):(Kg c l i).length=c.room.length:=by simp [Kg]
theorem Mn {c:A9} {l:List (Int×Int)} {i n:Nat} (hn:n<c.room.length):(Kg c l i)[n]? =some (int (c.cnt l (i*8+n))):=by
 simp [Kg,List.getElem?_range hn]
theorem Kh (c:A9) (l:List (Int×Int)) (x d:Int) (k:Nat):c.cnt (l++[(x,d)]) k=c.cnt l k+if (c.at d).toNat*8+x.toNat=k then 1 else 0:=by
 unfold A9.cnt
 rw [List.countP_append,List.countP_cons,List.countP_nil]
 simp [A9.cell]
theorem UA {c:A9} {l:List (Int×Int)} {x d:Int} {j:Nat} (h8:c.room.length≤8) (hx:x.toNat<c.room.length) (hj:(c.at d).toNat≠j):Kg c (l++[(x,d)]) j=Kg c l j:=by
 unfold Kg
 refine List.map_congr_left fun m hm=> ?_
 have:=List.mem_range.1 hm
 rw [Kh,if_neg (by omega)];rfl
theorem Wv {c:A9} {l:List (Int×Int)} {x d:Int} (h8:c.room.length≤8) (hx:x.toNat<c.room.length):(Kg c l (c.at d).toNat).take (0+x.toNat*1)++[int ((c.cnt l ((c.at d).toNat*8+x.toNat):Int)+1)]++(Kg c l (c.at d).toNat).drop (0+x.toNat*1+1)=Kg c (l++[(x,d)]) (c.at d).toNat:=by
 rw [show 0+x.toNat*1=x.toNat by omega]
 apply List.ext_getElem?
 intro k
 by_cases hk:k<c.room.length
 ·
  rw [Mn hk,Kh]
  rcases Nat.lt_trichotomy k x.toNat with h|h|h
  · rw [List.append_assoc,List.getElem?_append_left (by rw [List.length_take,DT];omega),List.getElem?_take,if_pos h,Mn hk,if_neg (by omega)];rfl
  ·
   subst h
   rw [List.append_assoc,List.getElem?_append_right (by rw [List.length_take,DT];omega),List.length_take,DT,Nat.min_eq_left (by omega),Nat.sub_self]
   simp
  ·
   rw [List.getElem?_append_right (by rw [List.length_append,List.length_take,DT];simp;omega),List.length_append,List.length_take,DT,List.getElem?_drop,Nat.min_eq_left (by omega)]
   simp only [List.length_cons,List.length_nil]
   rw [show x.toNat+1+(k-(x.toNat+(0+1)))=k by omega,Mn hk,if_neg (by omega)];rfl
 · rw [List.getElem?_eq_none (by simp [DT];omega),List.getElem?_eq_none (by rw [DT];omega)]
theorem Zx {c:A9} {l:List (Int×Int)} {x d:Int} (h8:c.room.length≤8) (hi:(c.at d).toNat<c.Be.length) (hx:x.toNat<c.room.length):(JC c l).set (c.at d).toNat (Kg c (l++[(x,d)]) (c.at d).toNat)=JC c (l++[(x,d)]):=by
 apply List.ext_getElem?
 intro j
 rw [List.getElem?_set]
 by_cases hj:(c.at d).toNat=j
 ·
  subst hj
  rw [if_pos rfl,if_pos (by rw [EW];exact hi),Mm hi]
 ·
  rw [if_neg hj]
  by_cases hl:j<c.Be.length
  · rw [Mm hl,Mm hl,UA h8 hx hj]
  · rw [List.getElem?_eq_none (by rw [EW];omega),List.getElem?_eq_none (by rw [EW];omega)]
abbrev rowsOf (c:A9) (bs:List Nat):Pr:=slice 1 (bs.map fun b=>[is (RK c.room.length b)])
theorem Ki {c:A9} {AZ days others:List Int} (h:c.Da AZ days others=0):AZ.length=days.length∧AZ.length≤24:=by
 have ho:=FI h
 unfold A9.Da at h
 rw [if_neg (not_not_intro ho)] at h
 split at h
 · cases h
 ·
  split at h
  · cases h
  · omega
theorem Nx {c:A9} {AZ days others:List Int} (h:c.Da AZ days others=0):(AZ.zip days).all (fun p=>c.may p.1 p.2)=true:=by
 have ho:=FI h
 unfold A9.Da at h
 rw [if_neg (not_not_intro ho)] at h
 split at h
 · cases h
 ·
  split at h
  · cases h
  ·
   split at h
   · cases h
   ·
    split at h
    · assumption
    · cases h
theorem Vi {c:A9} {AZ days:List Int} (hf:c.Da AZ days []=0):Az prog 93 [Jj c,ints AZ,ints days] (slice 1 ((c.EX (AZ.zip days)).map fun r=>[ints r])):=by
 refine fo func93 rfl ⟨rfl,rfl⟩ fun M0 w0=> ?_
 have hown:=FI hf
 obtain ⟨h32,h8⟩:=Nt hown
 obtain ⟨hlen,PW⟩:=Ki hf
 have hmay:=Nx hf
 have Ny:=SH hf
 have hm:c.room.length≤maxLen:=by unfold maxLen;omega
 refine a3 ?_
 refine Tr.block (Tr.Bs 22 1 (Tr.Rd [(1,_),(2,_),(3,_),(12,_)] ⟨ke rfl,ke rfl,ke rfl,ke rfl,trivial⟩ (fun (bs:List Nat) u=>[(13,int ((bs.length:Nat):Int)),(7,Ag u (rowsOf c bs))]) (fun (bs:List Nat) u=>Hp M0 w0 Eo (Ap 22 1 u::C3 3 bs (List.replicate bs.length (Zv c)))) (fun (bs:List Nat)=>bs.length≤c.Be.length) (fun (bs:List Nat)=>c.Be.length-bs.length) ([]) (.slice none 0 0) (by simp) ⟨ke rfl,⟨_,rfl,BX (by simp)⟩,trivial⟩ (fun _ _ h=>h) ?_))
 rintro bs u S4
 refine ac ?_
 refine Tr.seq ?_
 refine Tr.cn rfl ?_ ?_<;>intro h1 q1
 have hlt:bs.length<c.Be.length:=AH h1
 refine ac ?_
 refine ap ?_
 refine TO.QN rfl rfl (by decide) rfl underlying22 Bh Iu z3 rfl (vl rfl) (vl rfl) (by unfold maxLen;omega) (by omega) (fun b1=> ?_)
 refine tp rfl (AL (xs:=[.tmp 19]) (rows:=[[_]]) rfl rfl underlying66 K7 z22 rfl (by decide) ⟨⟨(by exact rfl),(Vo rfl)⟩,trivial⟩ (by decide)) ?_
 refine TO.DP 1 rfl rfl (by decide) (Bl rfl rfl rfl rfl underlying66 K7 vE z22 (Kb rfl) (Kf rfl) (Aq (by exact List.Mem.head _) (Ka rfl))) (fun v1=> ?_)
 refine ap ?_
 refine Jw 1 2 3 7 12 13 rfl ?_
 refine ac ?_
 refine Fin.perm (rs':=Ap 22 1 v1::C3 3 (bs++[b1]) (List.replicate (bs++[b1]).length (Zv c))) ((List.Perm.swap _ _ _).trans (List.Perm.cons _ (by rw [List.length_append,List.length_singleton,List.replicate_succ'];exact (PC (by simp)).symm))) ?_
 exact Fin.U1 (bs++[b1]) v1 (⟨by simp;omega,by simp;omega⟩) ⟨⟨_,rfl,int_eq (by simp)⟩,⟨_,rfl,Au (by rw [List.map_append];rfl)⟩,ke rfl,ke rfl,ke rfl,ke rfl,trivial⟩ (fun _ _ h=>h)
 have S7:bs.length=c.Be.length:=by have:=AJ h1;omega
 refine a2 ?_
 refine Tr.block ?_
 refine Tr.EN [(2,_),(3,_),(23,_),(24,_)] ⟨ke rfl,ke rfl,ke rfl,ke rfl,trivial⟩ (fun k u2=>[(25,int ((k:Nat):Int)),(7,Ag u2 (rowsOf c bs))]) (fun k u2=>Hp M0 w0 Eo (Ap 22 1 u2::C3 3 bs (JC c ((AZ.zip days).take k)))) (fun k:Nat=>k≤(AZ).length) (fun k:Nat=>(AZ).length-k) 0 u (Nat.zero_le _) ⟨ke rfl,⟨_,rfl,Au (by simp)⟩,trivial⟩ ((by rw [List.take_zero,Wu,←S7];exact fun _ _ h=>h)) ?_
 rintro k u2 BN
 refine ac ?_
 refine Tr.seq ?_
 refine Tr.cn rfl ?_ ?_<;>intro h2 q2
 have Af:k<(AZ).length:=AH h2
 obtain ⟨n,Ad⟩:=at_ Af
 obtain ⟨d,hd⟩:=at_ (l:=days) (k:=k) (by omega)
 have hmk:c.may n d=true:=by have:=List.all_eq_true.1 hmay (n,d) (List.mem_of_getElem? (by rw [List.getElem?_zip_eq_some];exact ⟨Ad,hd⟩));exact this
 have hat:=Zn hmk
 have hai:(c.at d).toNat<c.Be.length:=by have:=(Pf (DL d) c.Be).2;unfold A9.at at*;omega
 obtain ⟨b0,hb0⟩:=at_ (l:=bs) (k:=(c.at d).toNat) (by omega)
 have hn8:=Ny n (List.mem_append_left _ (List.mem_of_getElem? Ad))
 have hn9:0≤n∧n<c.room.length:=by unfold A9.has at hn8;simpa using hn8
 have nZ:n.toNat<c.room.length:=by omega
 have hbt:bs.length=(JC c ((AZ.zip days).take k)).length:=by rw [EW];exact S7
 have fB:c.cnt ((AZ.zip days).take k) ((c.at d).toNat*8+n.toNat)≤24:=Nat.le_trans (lG _ _ _) (by simp;omega)
 refine a2 ?_
 refine co rfl (AA rfl underlying22 Bh (vl rfl) (vl rfl) (by omega) (by exact AO (by assumption))) ?_
 refine ac ?_
 refine Tr.perm (rs':=AE true b0 3 (Kg c ((AZ.zip days).take k) (c.at d).toNat)::Ap 22 1 u2::C3 3 (bs.eraseIdx (c.at d).toNat) ((JC c ((AZ.zip days).take k)).eraseIdx (c.at d).toNat)) (((YP hbt hb0 (Mm hai)).cons _).trans (List.Perm.swap _ _ _)) ?_
 refine Tr.rx ?_
 refine ay ?_
 refine xo rfl (fun _=>AA rfl underlying22 Bh (vl rfl) (vl rfl) (by omega) (by exact AO (by assumption))) ?_
 refine xo rfl (fun _=>DQ rfl Bo rfl) (xo rfl (fun _=>CS (ig) rfl rfl rfl) (xo rfl (fun _=>AA rfl underlying66 K7 (Kb rfl) (vl rfl) (by omega) (by exact AO (by assumption))) ?_))
 refine ay ?_
 refine xo rfl (fun _=>BV rfl underlying22 Bh (vl rfl) (vl rfl) (by omega) (by omega)) ?_
 refine H9 0 rfl rfl (B4 rfl Bo (vl rfl) (by rw [show 0+n.toNat*1=n.toNat by omega];exact Mn nZ)) ?_
 refine xo rfl (fun _=>Ge rfl (vl rfl) (vl rfl) ?hin) ?_;case hin=>unfold K1;omega
 refine xo rfl (fun _=>BV rfl underlying22 Bh (vl rfl) (vl rfl) (by omega) (by omega)) ?_
 refine Cx.Dp 0 rfl rfl (Ay rfl rfl (vl rfl) (Vo rfl) Bh rfl (by rw [DT];omega) (Wv h8 nZ)) ?_
 refine Cx.nil ⟨by kernel_rfl,?_⟩
 refine BQ.done VE ?_
 refine ac ?_
 refine Jw 2 3 7 23 24 25 rfl ?_
 refine ac ?_
 refine Fin.perm (rs':=Ap 22 1 u2::C3 3 bs (JC c ((AZ.zip days).take (k+1)))) ((List.Perm.swap _ _ _).trans (List.Perm.cons _ (by rw [SG Ad hd,←Zx h8 hai nZ];exact (QO _ hbt hb0).symm))) ?_
 exact Fin.DC (k+1) u2 (⟨Af,by omega⟩) ⟨⟨_,rfl,AD k⟩,⟨_,rfl,Au (by simp)⟩,ke rfl,ke rfl,ke rfl,ke rfl,trivial⟩ (fun _ _ h=>h)
 have BI:k=(AZ).length:=by have:=AJ h2;omega
 subst BI
 have hbt:bs.length=(JC c ((AZ.zip days).take AZ.length)).length:=by rw [EW];exact S7
 refine ac ?_
 refine Tr.seq (Tr.drop 0 (Tr.Rh 7 hbt hm Zw rfl (Ah _ _) ?_))
 refine a2 ?_
 · exact Pr.le_of_eq (by rw [List.take_of_length_le (by simp;omega)];unfold JC;rw [List.map_map];exact congrArg _ (List.map_congr_left fun r _=>by show [slice 1 _]=[slice 1 _];rw [List.map_map];rfl))
theorem Vj {c:A9} {l:List (Int×Int)} {i:Nat} {r:List Int} (h:(c.EX l)[i]? =some r):i<c.Be.length∧r=(List.range c.room.length).map fun n=>(c.cnt l (i*8+n):Int):=by
 have hi:i<c.Be.length:=by
  rcases Nat.lt_or_ge i c.Be.length with h'|h'
  · exact h'
  · rw [List.getElem?_eq_none (by simp [A9.EX];omega)] at h;cases h
 refine ⟨hi,?_⟩
 simp [A9.EX,List.getElem?_range hi] at h
 exact h.symm
theorem Zy {c:A9} {l:List (Int×Int)} {i n:Nat} {r:List Int} {z:Int} (hr:r=(List.range c.room.length).map fun n=>(c.cnt l (i*8+n):Int)) (h:r[n]? =some z):n<c.room.length∧z=c.cnt l (i*8+n):=by
 subst hr
 have hn:n<c.room.length:=by
  rcases Nat.lt_or_ge n c.room.length with h'|h'
  · exact h'
  · rw [List.getElem?_eq_none (by simp;omega)] at h;cases h
 refine ⟨hn,?_⟩
 simp [List.getElem?_range hn] at h
 exact h.symm
theorem Nz (c:A9) (l:List (Int×Int)):(c.EX l).length=c.Be.length:=by simp [A9.EX]
theorem fC {c:A9} {AZ days:List Int}  :Az prog 92 [Jj c,ints AZ,ints days] (int (c.Cw AZ days [])):=by
 refine fo func92 rfl ⟨rfl,rfl⟩ fun M0 w0=> ?_
 refine a2 ?_
 refine co rfl (JH (lM) rfl rfl rfl rfl) ?_
 refine ac ?_
 refine an ?_ ?_<;>intro h1 q1
 refine a2 ?_
 · refine int_eq ?_;unfold A9.Cw;rw [if_pos (by assumption)]
 have hf:c.Da AZ days []=0:=q1
 refine a2 ?_
 refine co rfl (JH (Vi (by assumption)) rfl rfl rfl rfl) ?_
 refine ac ?_
 refine D7 3 22 23 24 rfl (Tr.block (Tr.C8 22 rfl fun hlt=>(Tr.A7 [(3,_),(22,_),(23,_)] (MW rfl) (fun i:Nat=>[(24,int ((i:Nat):Int))]) (fun i:Nat=>i≤(c.EX (AZ.zip days)).length∧(∀i' n r,i'<i→c.room[n]? =some r→(c.cnt (AZ.zip days) (i'*8+n):Int)≤r)) (fun i:Nat=>(c.EX (AZ.zip days)).length-i) 0 (⟨Nat.zero_le _,fun i' n r hi=>absurd hi (by omega)⟩) ⟨ke rfl,trivial⟩ ?_)))
 rintro i ⟨Zb,FT⟩
 refine ac ?_
 refine Tr.seq ?_
 refine Tr.cn rfl ?_ ?_<;>intro h2 q2
 have LK:i<(c.EX (AZ.zip days)).length:=AH h2
 obtain ⟨row,MO⟩:=at_ LK
 obtain ⟨hiw,hrow⟩:=Vj MO
 have hrl:row.length=c.room.length:=by rw [hrow];simp
 refine ac ?_
 refine Tr.seq (Tr.block (Tr.seq (Tr.AW (co rfl (AA rfl underlying66 K7 (vl rfl) (vl rfl) (by omega) (by exact AO (by assumption))) ?_))))
 refine a2 ?_
 refine Tr.block (Tr.C8 28 rfl fun hlr=>(Tr.A7 [(3,_),(22,_),(23,_),(24,_),(28,_),(29,_)] (gv rfl) (fun m:Nat=>[(30,int ((m:Nat):Int))]) (fun m:Nat=>m≤(row).length∧(∀n r,n<m→c.room[n]? =some r→(c.cnt (AZ.zip days) (i*8+n):Int)≤r)) (fun m:Nat=>(row).length-m) 0 (⟨Nat.zero_le _,fun n r hn=>absurd hn (by omega)⟩) ⟨ke rfl,trivial⟩ ?_))
 rintro m ⟨Kc,Gn⟩
 refine ac ?_
 refine Tr.seq ?_
 refine Tr.cn rfl ?_ ?_<;>intro h3 q3
 have Dg:m<(row).length:=AH h3
 obtain ⟨z,Dq⟩:=at_ Dg
 obtain ⟨hmr,hz⟩:=Zy hrow Dq
 obtain ⟨r,hr⟩:=at_ hmr
 subst hz
 · repeat' first|(refine int_eq ?_;unfold A9.Cw;rw [if_neg (not_not_intro hf),if_pos ⟨i,m,r,hiw,hr,by omega⟩])|exact Fin.AM (m+1) ⟨⟨Dg,T_ Gn hr (by omega)⟩,by omega⟩ ⟨⟨_,rfl,AD m⟩,ke rfl,ke rfl,ke rfl,ke rfl,ke rfl,ke rfl,trivial⟩|refine co rfl (AA rfl underlying22 Bh (vl rfl) (vl rfl) (by omega) (by exact AO (by assumption))) ?_|refine ac ?_|(refine Tr.cn rfl ?_ ?_<;>intro h q)
 have IY:m=(row).length:=by have:=AJ h3;omega
 subst IY
 refine a2 ?_
 exact Fin.AM (i+1) ⟨⟨LK,T9 FT (by rw [←hrl];exact Gn)⟩,by omega⟩ ⟨⟨_,rfl,AD i⟩,ke rfl,ke rfl,ke rfl,trivial⟩
 have T0:i=(c.EX (AZ.zip days)).length:=by have:=AJ h2;omega
 subst T0
 refine a3 ?_
 · refine int_eq ?_;unfold A9.Cw;rw [if_neg (not_not_intro hf),if_neg (by rintro ⟨i,n,r,h1,h2,h3⟩;have:=FT i n r (by rw [Nz];exact h1) h2;omega)]
theorem Ww {c:A9} {AZ days:List Int} {n:Int} (h:c.has n=true):c.Da AZ days [n]=c.Da AZ days []:=by
 unfold A9.Da
 rw [List.any_append,List.append_nil]
 simp [h]
theorem F3 {c:A9} {AZ days:List Int} {n:Int} (h:c.has n=true):c.Cw AZ days [n]=c.Cw AZ days []:=by
 unfold A9.Cw;rw [Ww h]
theorem CO {c:A9} {AZ days os:List Int} {e:Int} (h:c.Da AZ days os=e) (he:e≠0):c.Cw AZ days os=e:=by
 unfold A9.Cw;rw [if_pos (by rw [h];exact he),h]
theorem LM {c:A9} {AZ days os:List Int} (h:¬c.own=0):c.Da AZ days os=c.own:=by unfold A9.Da;rw [if_pos h]
theorem UB {c:A9} {AZ days os:List Int} (h:c.own=0) (h1:AZ.length≠days.length):c.Da AZ days os=1:=by unfold A9.Da;rw [if_neg (not_not_intro h),if_pos h1]
theorem UC {c:A9} {AZ days os:List Int} (h:c.own=0) (h1:AZ.length=days.length) (h2:24<AZ.length):c.Da AZ days os=3:=by unfold A9.Da;rw [if_neg (not_not_intro h),if_neg (not_not_intro h1),if_pos h2]
theorem LN {c:A9} {AZ days:List Int} {n:Int} (h:c.own=0) (h1:AZ.length=days.length) (h2:¬24<AZ.length) (h3:¬c.has n=true):c.Da AZ days [n]=2:=by
 unfold A9.Da;rw [if_neg (not_not_intro h),if_neg (not_not_intro h1),if_neg h2,if_pos (by rw [List.any_append];simp [h3])]
theorem C1 {c:A9} {AZ days:List Int} {n d e:Int} (h:c.Cw AZ days [n]=e) (he:e≠0):c.early AZ days n d=none:=by
 unfold A9.early;rw [if_neg (by rw [h];exact he)]
theorem Ic {c:A9} {AZ days:List Int} {n d:Int} (h:c.Cw AZ days [n]=0):c.early AZ days n d=c.next n d (c.free (AZ.zip days) n):=by
 unfold A9.early;rw [if_pos h]
theorem N0 {c:A9} {n day:Int} {room:Nat→Bool} (h:c.own=0) {k:Nat} {w:HX} (hw:c.Be[k]? =some w) (hd:max day w.lo<w.hi) (hm:c.may n (max day w.lo)=true) (hr:room k=true):DM n (max day 0) room k (c.Be.drop k)=some (max day w.lo):=by
 have h3:=(G_ h).2 w (List.mem_of_getElem? hw)
 rw [SI h hw hd] at hm
 rw [Zm hw (by omega) hm hr,show max (max day 0) w.lo=max day w.lo by omega]
theorem Ie {c:A9} {n day:Int} {room:Nat→Bool} (h:c.own=0) {k:Nat} {w:HX} (hw:c.Be[k]? =some w) (hd:¬(max day w.lo<w.hi∧c.may n (max day w.lo)=true∧room k=true)):DM n (max day 0) room k (c.Be.drop k)=DM n (max day 0) room (k+1) (c.Be.drop (k+1)):=by
 have h3:=(G_ h).2 w (List.mem_of_getElem? hw)
 refine Wt hw ?_
 rintro ⟨h1,h2,h5⟩
 have h4:max day w.lo<w.hi:=by omega
 exact hd ⟨h4,by rw [SI h hw h4];exact h2,h5⟩
theorem SJ {c:A9} {AZ days:List Int} {n from_:Int}  :Az prog 70 [Jj c,ints AZ,ints days,int n,int from_] (EI [int ((c.early AZ days n from_).getD 0),bool (c.early AZ days n from_).isSome,int (c.Cw AZ days [n])]):=by
 refine fo func70 rfl ⟨rfl,rfl⟩ fun M0 w0=>(Tr.Gg 0 0 rfl rfl fun I4=>(Tr.Gg 0 1 rfl rfl fun I5=>(Tr.Gg 0 2 rfl rfl fun Qz=>(Tr.C8 1 rfl fun Hz=>(Tr.C8 2 rfl fun Za=> ?_)))))
 refine a2 ?_
 refine co rfl (CS (Ib) rfl rfl rfl) ?_
 refine ac ?_
 refine Tr.seq (Tr.re 13 rfl (int_eq (b:=c.own) rfl) ?_)
 refine an ?_ ?_<;>intro h1 q1
 refine ac ?_
 refine CR 10 11 12 rfl (Tr.ret (Fin.AB (Fin.HH rfl (BE.CZ _ _) rfl ?_ rfl ?_ rfl ?_)))
 · refine int_eq ?_;rw [C1 (CO (LM (by assumption)) (by assumption)) (by assumption)];rfl
 · refine bool_eq ?_;rw [C1 (CO (LM (by assumption)) (by assumption)) (by assumption)];rfl
 · refine int_eq ?_;exact (CO (LM (by assumption)) (by assumption)).symm
 have hown:c.own=0:=q1
 refine a2 ?_
 refine Jw 1 2 3 4 5 31 rfl ?_
 refine Tr.cn rfl ?_ ?_<;>intro h2 q2
 refine ac ?_
 refine Tr.ret (Fin.AB (Fin.HH rfl (BE.CZ _ _) rfl ?_ rfl ?_ rfl ?_))
 · refine int_eq ?_;rw [C1 (CO (UB hown (by omega)) (by decide)) (by decide)];rfl
 · refine bool_eq ?_;rw [C1 (CO (UB hown (by omega)) (by decide)) (by decide)];rfl
 · refine int_eq ?_;exact (CO (UB hown (by omega)) (by decide)).symm
 refine ac ?_
 refine an ?_ ?_<;>intro h3 q3
 refine ac ?_
 refine Tr.ret (Fin.AB (Fin.HH rfl (BE.CZ _ _) rfl ?_ rfl ?_ rfl ?_))
 · refine int_eq ?_;rw [C1 (CO (UC hown (by omega) (by omega)) (by decide)) (by decide)];rfl
 · refine bool_eq ?_;rw [C1 (CO (UC hown (by omega) (by omega)) (by decide)) (by decide)];rfl
 · refine int_eq ?_;exact (CO (UC hown (by omega) (by omega)) (by decide)).symm
 refine ac ?_
 refine ag ?_ ?_<;>intro h4 q4
 refine ac ?_
 refine Jw 1 2 3 4 5 43 rfl ?_
 refine ac ?_
 refine Tr.ret (Fin.AB (Fin.HH rfl (BE.CZ _ _) rfl ?_ rfl ?_ rfl ?_))
 · refine int_eq ?_;rw [C1 (CO (LN hown (by omega) (by omega) (by simp [A9.has];omega)) (by decide)) (by decide)];rfl
 · refine bool_eq ?_;rw [C1 (CO (LN hown (by omega) (by omega) (by simp [A9.has];omega)) (by decide)) (by decide)];rfl
 · refine int_eq ?_;exact (CO (LN hown (by omega) (by omega) (by simp [A9.has];omega)) (by decide)).symm
 refine ac ?_
 refine Jw 1 2 3 4 5 43 rfl ?_
 refine Tr.cn rfl ?_ ?_<;>intro h5 q5
 refine ac ?_
 refine Tr.ret (Fin.AB (Fin.HH rfl (BE.CZ _ _) rfl ?_ rfl ?_ rfl ?_))
 · refine int_eq ?_;rw [C1 (CO (LN hown (by omega) (by omega) (by simp [A9.has];omega)) (by decide)) (by decide)];rfl
 · refine bool_eq ?_;rw [C1 (CO (LN hown (by omega) (by omega) (by simp [A9.has];omega)) (by decide)) (by decide)];rfl
 · refine int_eq ?_;exact (CO (LN hown (by omega) (by omega) (by simp [A9.has];omega)) (by decide)).symm
 have Ny:c.has n=true:=by simp [A9.has];omega
 refine a2 ?_
 refine co rfl (JH (fC) rfl rfl rfl rfl) ?_
 refine ac ?_
 refine an ?_ ?_<;>intro h6 q6
 refine ac ?_
 refine CR 10 11 12 rfl (Tr.ret (Fin.AB (Fin.HH rfl (BE.CZ _ _) rfl ?_ rfl ?_ rfl ?_)))
 · refine int_eq ?_;rw [C1 (F3 Ny) (by assumption)];rfl
 · refine bool_eq ?_;rw [C1 (F3 Ny) (by assumption)];rfl
 · refine int_eq ?_;exact (F3 Ny).symm
 have Xu:c.Cw AZ days []=0:=q6
 have hf:=F2 Xu
 have hfn:c.Cw AZ days [n]=0:=by rw [F3 Ny];exact Xu
 refine a2 ?_
 refine co rfl (JH (Vi (by assumption)) rfl rfl rfl rfl) ?_
 refine ac ?_
 refine D7 3 4 5 15 rfl ?_
 refine ac ?_
 refine Tr.block (Tr.A7 [(3,_),(4,_),(5,_),(15,_),(56,_),(57,_)] (gv rfl) (fun k:Nat=>[(58,int ((k:Nat):Int))]) (fun k:Nat=>k≤(c.Be).length∧(c.next n from_ (c.free (AZ.zip days) n)=DM n (max from_ 0) (c.free (AZ.zip days) n) k (c.Be.drop k))) (fun k:Nat=>(c.Be).length-k) 0 (⟨Nat.zero_le _,rfl⟩) ⟨ke rfl,trivial⟩ ?_)
 rintro k ⟨BN,Ab⟩
 refine ac ?_
 refine Tr.seq ?_
 refine Tr.cn rfl ?_ ?_<;>intro h7 q7
 have Af:k<(c.Be).length:=AH h7
 obtain ⟨w,Ad⟩:=at_ Af
 obtain ⟨row,hrow⟩:=at_ (l:=c.EX (AZ.zip days)) (k:=k) (by rw [Nz];exact Af)
 obtain ⟨_,hr2⟩:=Vj hrow
 obtain ⟨hn0,lN⟩:=Nu Ny
 obtain ⟨z,hz⟩:=at_ (l:=row) (k:=n.toNat) (by rw [hr2];simp;have:=Ny;simp [A9.has] at this;omega)
 obtain ⟨Ta,HC⟩:=Zy hr2 hz
 refine ac ?_
 refine ao ?_
 refine tp rfl (AA rfl underlying48 G2 (vl rfl) (vl rfl) (by omega) (by exact AO (by assumption))) ?_
 refine tp rfl (AR rfl NL G2 (vl rfl) rfl rfl) ?_
 refine Tl rfl rfl rfl rfl WT NM (fun b1=> ?_)
 refine tm rfl ?_
 refine sf 0 17 ⟨rfl,rfl,rfl⟩ rfl rfl rfl rfl ?_
 refine ao ?_
 refine Oe 3 4 5 15 16 17 56 57 58 rfl ?_
 refine ac ?_
 refine co rfl (JT rfl (vl rfl) (vl rfl)) ?_
 refine ac ?_
 refine G0 3 4 5 15 16 17 18 56 57 58 rfl ?_
 refine ag ?_ ?_<;>intro h8 q8
 refine ac ?_
 refine cy h8 rfl (JH (Zt) rfl rfl rfl rfl) ?_
 refine ag ?_ ?_<;>intro h9 q9
 refine ac ?_
 refine cy h9 rfl (AA rfl underlying66 K7 (vl rfl) (vl rfl) (by omega) (by exact AO (by assumption))) ?_
 refine ac ?_
 refine cy h9 rfl (AA rfl underlying22 Bh (vl rfl) (vl rfl) (by omega) (by exact AO (by assumption))) ?_
 refine ac ?_
 refine cy h9 rfl (AA rfl underlying22 Bh (vl rfl) (vl rfl) (by omega) (by exact AO (by assumption))) ?_
 refine ac ?_
 refine Oe 3 4 5 15 18 56 57 58 93 rfl ?_
 refine Tr.cn rfl ?_ ?_<;>intro h10 Oa
 refine ac ?_
 refine Tr.ret (Fin.AX (Fin.AB (Fin.AB (Fin.AX (Fin.AB (Fin.HH rfl (BE.CZ _ _) rfl ?_ rfl ?_ rfl ?_))))))
 · refine int_eq ?_;rw [Ic hfn,Ab,N0 hown Ad (by assumption) (by assumption) (by simp only [A9.free,decide_eq_true_eq];omega)];rfl
 · refine bool_eq ?_;rw [Ic hfn,Ab,N0 hown Ad (by assumption) (by assumption) (by simp only [A9.free,decide_eq_true_eq];omega)];rfl
 · refine int_eq ?_;exact hfn.symm
 refine a2 ?_
 exact Fin.AM (k+1) ⟨⟨Af,(Ab.trans (Ie hown Ad (by rintro ⟨a1,a2,a3⟩;simp only [A9.free,decide_eq_true_eq] at a3;omega)))⟩,by omega⟩ ⟨⟨_,rfl,AD k⟩,ke rfl,ke rfl,ke rfl,ke rfl,ke rfl,ke rfl,trivial⟩
 refine ac ?_
 refine Oe 3 4 5 15 18 56 57 58 93 rfl ?_
 refine a2 ?_
 exact Fin.AM (k+1) ⟨⟨Af,(Ab.trans (Ie hown Ad (by rintro ⟨a1,a2,a3⟩;simp only [A9.free,decide_eq_true_eq] at a3;simp_all)))⟩,by omega⟩ ⟨⟨_,rfl,AD k⟩,ke rfl,ke rfl,ke rfl,ke rfl,ke rfl,ke rfl,trivial⟩
 refine ac ?_
 refine Oe 3 4 5 15 18 56 57 58 93 rfl ?_
 refine a2 ?_
 exact Fin.AM (k+1) ⟨⟨Af,(Ab.trans (Ie hown Ad (by rintro ⟨a1,a2,a3⟩;simp only [A9.free,decide_eq_true_eq] at a3;omega)))⟩,by omega⟩ ⟨⟨_,rfl,AD k⟩,ke rfl,ke rfl,ke rfl,ke rfl,ke rfl,ke rfl,trivial⟩
 have BI:k=(c.Be).length:=by have:=AJ h7;omega
 subst BI
 refine a2 ?_
 refine Tr.ret (Fin.HH rfl (BE.CZ _ _) rfl ?_ rfl ?_ rfl ?_)
 · refine int_eq ?_;rw [Ic hfn,Ab,List.drop_length];rfl
 · refine bool_eq ?_;rw [Ic hfn,Ab,List.drop_length];rfl
 · refine int_eq ?_;exact hfn.symm
theorem lO {k:Int}:∀{l:List HX} {j:Nat} {w:HX},Ph l→l[j]? =some w→DL k w=true→idx (DL k) l=j:=by
 intro l j w hp hj hin
 refine (Dx hj hin fun i y hi hy=> ?_).symm
 rw [Bool.eq_false_iff]
 intro hc
 have h1:=Nv hc
 have h2:=Nv hin
 have hij:i<l.length:=by rcases Nat.lt_or_ge i l.length with h|h;exact h;rw [List.getElem?_eq_none h] at hy;cases hy
 have hjl:j<l.length:=by rcases Nat.lt_or_ge j l.length with h|h;exact h;rw [List.getElem?_eq_none h] at hj;cases hj
 have:=List.pairwise_iff_getElem.1 hp i j hij hjl hi
 rw [List.getElem?_eq_getElem hij] at hy
 rw [List.getElem?_eq_getElem hjl] at hj
 simp at hy hj
 rw [hy,hj] at this
 omega
theorem Zz {c:A9} {k:Int} {j:Nat} {w:HX} (h:c.own=0) (hj:c.Be[j]? =some w) (hin:DL k w=true):c.at k=j:=by
 obtain ⟨h1,h2⟩:=G_ h
 exact lO (HA h1 h2) hj hin
theorem Kj {a b:List Int} (h:a.length=b.length) (x y:Int):(a++[x]).zip (b++[y])=a.zip b++[(x,y)]:=by
 rw [List.zip_append h];rfl
theorem Wx {c:A9} {a b:List Int} {t d:Int} (hf:c.Da a b []=0) (PW:a.length<24) (ht:c.has t=true) (hm:c.may t d=true):c.Da (a++[t]) (b++[d]) []=0:=by
 have ho:=FI hf
 have hl:=(Ki hf).1
 have h1:=SH hf
 have h2:=Nx hf
 unfold A9.Da
 rw [if_neg (not_not_intro ho),if_neg (by simp [hl]),if_neg (by simp;omega),if_neg,Kj hl,List.all_append,h2,if_pos (by simp [hm])]
 rw [Bool.not_eq_true,List.any_eq_false]
 intro n hn
 have:c.has n=true:=by
  rw [List.append_nil] at hn
  rcases List.mem_append.1 hn with hn|hn
  · exact h1 n (List.mem_append_left _ hn)
  · rw [List.mem_singleton.1 hn];exact ht
 simp [this]
theorem Wy {c:A9} {a b:List Int} {t d:Int} (hf:c.Cw a b []=0) (PW:a.length<24) (ht:c.has t=true) (hm:c.may t d=true) (hr:c.cnt (a.zip b) ((c.at d).toNat*8+t.toNat)<c.Jl t):c.Cw (a++[t]) (b++[d]) []=0:=by
 have Xu:=F2 hf
 have h1:=Wx Xu PW ht hm
 have ho:=FI Xu
 obtain ⟨h32,h8⟩:=Nt ho
 have hl:=(Ki Xu).1
 unfold A9.Cw
 rw [if_neg (not_not_intro h1),if_neg]
 rintro ⟨i,n,r,hi,hn,hc⟩
 rw [Kj hl,Kh] at hc
 have hn8:n<8:=by
  rcases Nat.lt_or_ge n c.room.length with h|h
  · omega
  · rw [List.getElem?_eq_none h] at hn;cases hn
 have ht8:=Zo ho ht
 have hno:¬c.over (a.zip b):=by
  unfold A9.Cw at hf
  rw [if_neg (not_not_intro Xu)] at hf
  intro hh;rw [if_pos hh] at hf;cases hf
 have hle:(c.cnt (a.zip b) (i*8+n):Int)≤r:=by
  rcases Int.lt_or_le r (c.cnt (a.zip b) (i*8+n):Int) with h|h
  · exact absurd ⟨i,n,r,hi,hn,h⟩ hno
  · exact h
 split at hc
 ·
  rename_i he
  have e1:(c.at d).toNat=i:=by omega
  have e2:t.toNat=n:=by omega
  have:=(Nu ht).2
  rw [e2,hn] at this
  simp at this
  rw [e1,e2] at hr
  omega
 · omega
theorem Z0 {c:A9} (h:c.own=0):c.Cw [] [] []=0:=by
 have hf:c.Da [] [] []=0:=by
  unfold A9.Da
  rw [if_neg (not_not_intro h),if_neg (by simp),if_neg (by simp),if_neg (by simp),if_pos (by rfl)]
 unfold A9.Cw
 rw [if_neg (not_not_intro hf),if_neg]
 rintro ⟨i,n,r,_,hn,hc⟩
 have h2:=(Jm (show c.check c.HY.length=0 from h)).2.1
 rw [List.any_eq_false] at h2
 have:=h2 r (List.mem_of_getElem? hn)
 simp [I3] at this
 simp [A9.cnt] at hc
 omega
end Go.Proofs.YtmpglcehonnpkaaGreat
