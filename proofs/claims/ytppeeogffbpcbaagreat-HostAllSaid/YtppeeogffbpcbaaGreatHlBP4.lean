/-
  Part 4 of the texts that prove this claim, merged.
-/
import Derived.Test.YtppeeogffbpcbaaGreatHlBP3
set_option linter.all false
set_option maxRecDepth 40000
set_option maxHeartbeats 16000000
namespace Go.Proofs.YtppeeogffbpcbaaGreat
open Go Go.RowKit Cp Go.Proofs.Tryz
structure A0 where
 src:Int
 host:List UInt8
 machine:Int
 day:Int
 E0:Int
 kind:Int
 Eh:List UInt8
 BO:Int
 bits:Int
 num:Int
 text:List UInt8
abbrev Ad (f:A0):List Pr:=[int f.src,str f.host,int f.machine,int f.day,int f.E0,int f.kind,str f.Eh,int f.BO,int f.bits,int f.num,str f.text]
abbrev Dq (l:List A0):Pr:=slice 11 (l.map Ad)
structure A0.fits (f:A0):Prop where
 host:f.host.length≤maxLen
 Eh:f.Eh.length≤maxLen
 text:f.text.length≤maxLen
def CU (f:A0):Bool:=decide (f.BO=0∧f.bits=0)&&decide (f.text=[])
def Al (f:A0):Bool:=
 if f.kind=1∨f.kind=8 then decide (B5 f.BO f.bits>0)&&decide (f.num=0)&&decide (f.text=[])
 else if f.kind=2 then CU f&&decide (0≤f.num)&&decide (f.num≤65535)
 else if f.kind=3 then decide (B5 f.BO f.bits>0)&&(C5 f.BO).kind==2&&decide (0≤f.num)&&decide (f.num≤2147483648)&&decide (f.text=[])
 else if f.kind=4∨f.kind=5 then CU f&&decide (1≤f.num)&&decide (f.num≤4)
 else if f.kind=6 then CU f&&decide (0≤f.num)&&decide (f.num≤2147483648)
 else if f.kind=7 then decide (f.BO=0∧f.bits=0)&&decide (f.num=0)&&named f.text
 else false
def D5 (f:A0):Bool:=named f.host&&named f.Eh&&decide (0≤f.machine)&&decide (f.machine≤1099511627776)
def FK (f:A0):Bool:=decide (0≤f.day)&&decide (f.day≤40000)&&decide (1≤f.E0)&&decide (f.E0≤100)
def B2 (f:A0):Bool:=D5 f&&FK f&&decide (1≤f.src)&&decide (f.src≤7)&&Al f
theorem Un {f:A0} (hf:f.fits):A4 prog 226 [agg (Ad f)] (bool (Al f)):=by
 refine fo func226 rfl ⟨rfl,rfl⟩ fun M0 w0=> ?_
 refine ac ?_
 refine DD 1 rfl (Tr.HM [1] [(3,bool (CU f))] (True) ?_ (fun h1=> ?_))
 refine ac ?_
 refine co rfl (Fg rfl (vl rfl) (vl rfl)) (cm rfl ?_)
 refine Ch.cs 8 rfl ?_ ?_<;>intro h2 q2
 refine ac ?_
 exact Fin.AG () (by simp_all) ⟨⟨_,rfl,bool_eq (by simp_all [CU])⟩,ke rfl,trivial⟩
 refine ac ?_
 exact Fin.AG () (by simp_all) ⟨⟨_,rfl,bool_eq (by simp_all [CU])⟩,ke rfl,trivial⟩
 refine ac ?_
 refine ac ?_
 refine Tr.cn rfl ?_ ?_<;>intro h3 q3
 refine ac ?_
 refine Tr.cond rfl (fun _=> ?_) (fun h=>nomatch h3.symm.trans h)
 refine ac ?_
 refine co rfl (Bq (J_) rfl rfl) (cm rfl ?_)
 refine Ch.cs 21 rfl ?_ ?_<;>intro h4 q4
 refine ac ?_
 refine Ch.cs 26 rfl ?_ ?_<;>intro h5 q5
 refine ac ?_
 refine DD 2 rfl ?_
 refine ac ?_
 · refine bool_eq ?_;unfold Al;simp_all
 refine ac ?_
 refine DD 2 rfl ?_
 refine ac ?_
 · refine bool_eq ?_;unfold Al;simp_all
 refine ac ?_
 refine DD 2 rfl ?_
 refine ac ?_
 · refine bool_eq ?_;unfold Al;simp_all;omega
 refine ac ?_
 refine Tr.cn rfl ?_ ?_<;>intro h6 q6
 refine ac ?_
 refine co rfl (Bq (J_) rfl rfl) (cm rfl ?_)
 refine Ch.cs 21 rfl ?_ ?_<;>intro h7 q7
 refine ac ?_
 refine Ch.cs 26 rfl ?_ ?_<;>intro h8 q8
 refine ac ?_
 refine DD 2 rfl ?_
 refine ac ?_
 · refine bool_eq ?_;unfold Al;simp_all
 refine ac ?_
 refine DD 2 rfl ?_
 refine ac ?_
 · refine bool_eq ?_;unfold Al;simp_all
 refine ac ?_
 refine DD 2 rfl ?_
 refine ac ?_
 · refine bool_eq ?_;unfold Al;simp_all;omega
 refine ac ?_
 refine Tr.cn rfl ?_ ?_<;>intro h9 q9
 refine ac ?_
 refine Ch.cs 34 rfl ?_ ?_<;>intro h10 OZ
 refine ac ?_
 refine Ch.cs 39 rfl ?_ ?_<;>intro h11 QX
 refine ac ?_
 refine DD 2 rfl ?_
 refine ac ?_
 · refine bool_eq ?_;unfold Al;simp_all
 refine ac ?_
 refine DD 2 rfl ?_
 refine ac ?_
 · refine bool_eq ?_;unfold Al;simp_all;omega
 refine ac ?_
 refine DD 2 rfl ?_
 refine ac ?_
 · refine bool_eq ?_;unfold Al;simp_all
 refine ac ?_
 refine Tr.cn rfl ?_ ?_<;>intro h12 QY
 refine ac ?_
 refine co rfl (Bq (J_) rfl rfl) (cm rfl ?_)
 refine Ch.cs 49 rfl ?_ ?_<;>intro HW Q_
 refine ac ?_
 refine cy HW rfl (Bq (Pb) rfl rfl) ?_
 refine ac ?_
 refine Ch.cs 56 rfl ?_ ?_<;>intro Pf YV
 refine ac ?_
 refine Ch.cs 61 rfl ?_ ?_<;>intro QZ cr
 refine ac ?_
 refine Ch.cs 66 rfl ?_ ?_<;>intro h16 fI
 refine ac ?_
 refine DD 2 rfl ?_
 refine ac ?_
 · refine bool_eq ?_;unfold Al;simp_all
 refine ac ?_
 refine DD 2 rfl ?_
 refine ac ?_
 · refine bool_eq ?_;unfold Al;simp_all;omega
 refine ac ?_
 refine DD 2 rfl ?_
 refine ac ?_
 · refine bool_eq ?_;unfold Al;simp_all;omega
 refine ac ?_
 refine DD 2 rfl ?_
 refine ac ?_
 · refine bool_eq ?_;unfold Al;simp_all
 refine ac ?_
 refine DD 2 rfl ?_
 refine ac ?_
 · refine bool_eq ?_;unfold Al;simp_all;omega
 refine ac ?_
 refine Ez 1 3 14 71 rfl ?_
 refine Tr.cn rfl ?_ ?_<;>intro Tu ck
 refine ac ?_
 refine Tr.cond rfl (fun _=> ?_) (fun h=>nomatch Tu.symm.trans h)
 refine ac ?_
 refine Ch.cs 75 rfl ?_ ?_<;>intro Tv jB
 refine ac ?_
 refine Ch.cs 80 rfl ?_ ?_<;>intro Zj mJ
 refine ac ?_
 refine DD 2 rfl ?_
 refine ac ?_
 · refine bool_eq ?_;unfold Al;simp_all
 refine ac ?_
 refine DD 2 rfl ?_
 refine ac ?_
 · refine bool_eq ?_;unfold Al;simp_all;omega
 refine ac ?_
 refine DD 2 rfl ?_
 refine ac ?_
 · refine bool_eq ?_;unfold Al;simp_all
 refine ac ?_
 refine Tr.cn rfl ?_ ?_<;>intro N5 jC
 refine ac ?_
 refine Ch.cs 75 rfl ?_ ?_<;>intro cq mK
 refine ac ?_
 refine Ch.cs 80 rfl ?_ ?_<;>intro h22 q22
 refine ac ?_
 refine DD 2 rfl ?_
 refine ac ?_
 · refine bool_eq ?_;unfold Al;simp_all
 refine ac ?_
 refine DD 2 rfl ?_
 refine ac ?_
 · refine bool_eq ?_;unfold Al;simp_all;omega
 refine ac ?_
 refine DD 2 rfl ?_
 refine ac ?_
 · refine bool_eq ?_;unfold Al;simp_all
 refine ac ?_
 refine Tr.cn rfl ?_ ?_<;>intro h23 q23
 refine ac ?_
 refine Ch.cs 88 rfl ?_ ?_<;>intro h24 q24
 refine ac ?_
 refine Ch.cs 93 rfl ?_ ?_<;>intro h25 q25
 refine ac ?_
 refine DD 2 rfl ?_
 refine ac ?_
 · refine bool_eq ?_;unfold Al;simp_all
 refine ac ?_
 refine DD 2 rfl ?_
 refine ac ?_
 · refine bool_eq ?_;unfold Al;simp_all;omega
 refine ac ?_
 refine DD 2 rfl ?_
 refine ac ?_
 · refine bool_eq ?_;unfold Al;simp_all
 refine ac ?_
 refine Tr.cn rfl ?_ ?_<;>intro mM mN
 refine ac ?_
 refine co rfl (Fg rfl (vl rfl) (vl rfl)) (cm rfl ?_)
 refine Ch.cs 104 rfl ?_ ?_<;>intro cv q27
 refine ac ?_
 refine Ch.cs 109 rfl ?_ ?_<;>intro jD q28
 refine ac ?_
 refine cy jD rfl (Bq (I3 hf.text) rfl rfl) ?_
 refine ac ?_
 refine DD 2 rfl ?_
 refine ac ?_
 · refine bool_eq ?_;unfold Al;simp_all
 refine ac ?_
 refine DD 2 rfl ?_
 refine ac ?_
 · refine bool_eq ?_;unfold Al;simp_all
 refine ac ?_
 refine DD 2 rfl ?_
 refine ac ?_
 · refine bool_eq ?_;unfold Al;simp_all
 refine ac ?_
 refine ac ?_
 refine ac ?_
 · refine bool_eq ?_;unfold Al;simp_all
theorem RA {f:A0} (hf:f.fits):A4 prog 194 [agg (Ad f)] (int (if B2 f then 0 else 24)):=by
 refine fo func194 rfl ⟨rfl,rfl⟩ fun M0 w0=> ?_
 refine ac ?_
 refine DD 1 rfl (Tr.HM [1] [(3,bool (D5 f))] (True) ?_ (fun h1=> ?_))
 refine ac ?_
 refine co rfl (Bq (I3 hf.host) rfl rfl) (cm rfl ?_)
 refine Ch.cs 8 rfl ?_ ?_<;>intro h2 q2
 refine ac ?_
 refine cy h2 rfl (Bq (I3 hf.Eh) rfl rfl) ?_
 refine ac ?_
 refine Ch.cs 13 rfl ?_ ?_<;>intro h3 q3
 refine ac ?_
 refine Ch.cs 18 rfl ?_ ?_<;>intro h4 q4
 refine ac ?_
 exact Fin.AG () (by simp_all) ⟨⟨_,rfl,bool_eq (by simp_all [D5])⟩,ke rfl,trivial⟩
 refine ac ?_
 exact Fin.AG () (by simp_all) ⟨⟨_,rfl,bool_eq (by simp_all [D5];omega)⟩,ke rfl,trivial⟩
 refine ac ?_
 exact Fin.AG () (by simp_all) ⟨⟨_,rfl,bool_eq (by simp_all [D5])⟩,ke rfl,trivial⟩
 refine ac ?_
 exact Fin.AG () (by simp_all) ⟨⟨_,rfl,bool_eq (by simp_all [D5])⟩,ke rfl,trivial⟩
 refine CL 1 3 rfl (Tr.HM [1,3] [(4,bool (FK f))] (True) ?_ (fun h5=> ?_))
 refine ac ?_
 refine Ch.cs 26 rfl ?_ ?_<;>intro h6 q6
 refine ac ?_
 refine Ch.cs 31 rfl ?_ ?_<;>intro h7 q7
 refine ac ?_
 refine Ch.cs 36 rfl ?_ ?_<;>intro h8 q8
 refine ac ?_
 exact Fin.AG () (by simp_all) ⟨⟨_,rfl,bool_eq (by simp_all [FK])⟩,ke rfl,ke rfl,trivial⟩
 refine ac ?_
 exact Fin.AG () (by simp_all) ⟨⟨_,rfl,bool_eq (by simp_all [FK];omega)⟩,ke rfl,ke rfl,trivial⟩
 refine ac ?_
 exact Fin.AG () (by simp_all) ⟨⟨_,rfl,bool_eq (by simp_all [FK];omega)⟩,ke rfl,ke rfl,trivial⟩
 refine ac ?_
 exact Fin.AG () (by simp_all) ⟨⟨_,rfl,bool_eq (by simp_all [FK];omega)⟩,ke rfl,ke rfl,trivial⟩
 refine ac ?_
 refine Ch.cs 43 rfl ?_ ?_<;>intro h9 q9
 refine ac ?_
 refine DD 61 rfl ?_
 refine ac ?_
 refine ac ?_
 · refine int_eq ?_;unfold B2;simp_all
 refine ac ?_
 refine Ch.cs 47 rfl ?_ ?_<;>intro h10 OZ
 refine ac ?_
 refine DD 61 rfl ?_
 refine ac ?_
 refine ac ?_
 · refine int_eq ?_;unfold B2;simp_all
 refine ac ?_
 refine Ch.cs 52 rfl ?_ ?_<;>intro h11 QX
 refine ac ?_
 refine DD 61 rfl ?_
 refine ac ?_
 refine ac ?_
 · refine int_eq ?_;unfold B2;simp_all;omega
 refine ac ?_
 refine Ch.cs 57 rfl ?_ ?_<;>intro h12 QY
 refine ac ?_
 refine DD 61 rfl ?_
 refine ac ?_
 refine ac ?_
 · refine int_eq ?_;unfold B2;simp_all;omega
 refine cy h12 rfl (AO rfl BD AW (vl rfl) rfl rfl) (cy h12 rfl (Bq (Un (by assumption)) rfl rfl) ?_)
 refine ac ?_
 refine DD 61 rfl ?_
 refine Tr.cn rfl ?_ ?_<;>intro HW Q_
 refine ac ?_
 refine ac ?_
 · refine int_eq ?_;unfold B2;simp_all
 refine ac ?_
 refine ac ?_
 refine ac ?_
 · refine int_eq ?_;unfold B2;simp_all
theorem NM {f:A0}  :A4 prog 199 [agg (Ad f)] (int (if B2 f then 0 else 24)):=by
 refine fo func199 rfl ⟨rfl,rfl⟩ fun M0 w0=> ?_
 refine ac ?_
 refine ac ?_
 refine Ch.cs 10 rfl ?_ ?_<;>intro h1 q1
 refine ac ?_
 refine CL 1 56 rfl ?_
 refine ac ?_
 refine ac ?_
 · refine int_eq ?_;unfold B2 D5 FK;simp_all;omega
 refine ac ?_
 refine Ch.cs 15 rfl ?_ ?_<;>intro h2 q2
 refine ac ?_
 refine CL 1 56 rfl ?_
 refine ac ?_
 refine ac ?_
 · refine int_eq ?_;unfold B2 D5 FK;simp_all;omega
 refine ac ?_
 refine cy h2 rfl (Bq (FA) rfl rfl) ?_
 refine ac ?_
 refine Ch.cs 21 rfl ?_ ?_<;>intro h3 q3
 refine ac ?_
 refine CL 1 56 rfl ?_
 refine ac ?_
 refine ac ?_
 · refine int_eq ?_;unfold B2 D5 FK;simp_all
 refine ac ?_
 refine Ch.cs 26 rfl ?_ ?_<;>intro h4 q4
 refine ac ?_
 refine CL 1 56 rfl ?_
 refine ac ?_
 refine ac ?_
 · refine int_eq ?_;unfold B2 D5 FK;simp_all;omega
 refine ac ?_
 refine Ch.cs 31 rfl ?_ ?_<;>intro h5 q5
 refine ac ?_
 refine CL 1 56 rfl ?_
 refine ac ?_
 refine ac ?_
 · refine int_eq ?_;unfold B2 D5 FK;simp_all;omega
 refine ac ?_
 refine Ch.cs 36 rfl ?_ ?_<;>intro h6 q6
 refine ac ?_
 refine CL 1 56 rfl ?_
 refine ac ?_
 refine ac ?_
 · refine int_eq ?_;unfold B2 D5 FK;simp_all;omega
 refine ac ?_
 refine Ch.cs 41 rfl ?_ ?_<;>intro h7 q7
 refine ac ?_
 refine CL 1 56 rfl ?_
 refine ac ?_
 refine ac ?_
 · refine int_eq ?_;unfold B2 D5 FK;simp_all;omega
 refine ac ?_
 refine Ch.cs 46 rfl ?_ ?_<;>intro h8 q8
 refine ac ?_
 refine CL 1 56 rfl ?_
 refine ac ?_
 refine ac ?_
 · refine int_eq ?_;unfold B2 D5 FK;simp_all;omega
 refine ac ?_
 refine Ch.cs 51 rfl ?_ ?_<;>intro h9 q9
 refine ac ?_
 refine CL 1 56 rfl ?_
 refine ac ?_
 refine ac ?_
 · refine int_eq ?_;unfold B2 D5 FK;simp_all;omega
 refine ac ?_
 refine cy h9 rfl (Bq (FA) rfl rfl) ?_
 refine ac ?_
 refine CL 1 56 rfl ?_
 refine Tr.cn rfl ?_ ?_<;>intro h10 OZ
 refine ac ?_
 refine ac ?_
 · refine int_eq ?_;unfold B2 D5 FK;simp_all
 refine ac ?_
 refine ac ?_
 refine co rfl (Fg rfl (vl rfl) (vl rfl)) ?_
 refine ac ?_
 refine Ez 1 3 4 5 rfl ?_
 refine ac ?_
 refine Tr.HM [] [(6,bool (Al f))] (True) ?_ (fun h11=> ?_)
 refine ac ?_
 refine ac ?_
 refine Tr.cn rfl ?_ ?_<;>intro h12 QY
 refine ac ?_
 refine Tr.cond rfl (fun _=> ?_) (fun h=>nomatch h12.symm.trans h)
 refine ac ?_
 refine co rfl (Bq (Ic) rfl rfl) (cm rfl ?_)
 refine Ch.cs 75 rfl ?_ ?_<;>intro HW Q_
 refine ac ?_
 refine Ch.cs 78 rfl ?_ ?_<;>intro Pf YV
 refine ac ?_
 exact Fin.AG () (by simp_all) ⟨⟨_,rfl,bool_eq (by unfold Al CU;simp_all)⟩,trivial⟩
 refine ac ?_
 exact Fin.AG () (by simp_all) ⟨⟨_,rfl,bool_eq (by unfold Al CU;simp_all)⟩,trivial⟩
 refine ac ?_
 exact Fin.AG () (by simp_all) ⟨⟨_,rfl,bool_eq (by unfold Al CU;simp_all;omega)⟩,trivial⟩
 refine ac ?_
 refine Tr.cn rfl ?_ ?_<;>intro QZ cr
 refine ac ?_
 refine co rfl (Bq (Ic) rfl rfl) (cm rfl ?_)
 refine Ch.cs 75 rfl ?_ ?_<;>intro h16 fI
 refine ac ?_
 refine Ch.cs 78 rfl ?_ ?_<;>intro Tu ck
 refine ac ?_
 exact Fin.AG () (by simp_all) ⟨⟨_,rfl,bool_eq (by unfold Al CU;simp_all)⟩,trivial⟩
 refine ac ?_
 exact Fin.AG () (by simp_all) ⟨⟨_,rfl,bool_eq (by unfold Al CU;simp_all)⟩,trivial⟩
 refine ac ?_
 exact Fin.AG () (by simp_all) ⟨⟨_,rfl,bool_eq (by unfold Al CU;simp_all;omega)⟩,trivial⟩
 refine ac ?_
 refine Tr.cn rfl ?_ ?_<;>intro Tv jB
 refine ac ?_
 refine Ch.cs 84 rfl ?_ ?_<;>intro Zj mJ
 refine ac ?_
 refine Ch.cs 89 rfl ?_ ?_<;>intro N5 jC
 refine ac ?_
 refine Ch.cs 94 rfl ?_ ?_<;>intro cq mK
 refine ac ?_
 exact Fin.AG () (by simp_all) ⟨⟨_,rfl,bool_eq (by unfold Al CU;simp_all)⟩,trivial⟩
 refine ac ?_
 exact Fin.AG () (by simp_all) ⟨⟨_,rfl,bool_eq (by unfold Al CU;simp_all)⟩,trivial⟩
 refine ac ?_
 exact Fin.AG () (by simp_all) ⟨⟨_,rfl,bool_eq (by unfold Al CU;simp_all;omega)⟩,trivial⟩
 refine ac ?_
 exact Fin.AG () (by simp_all) ⟨⟨_,rfl,bool_eq (by unfold Al CU;simp_all)⟩,trivial⟩
 refine ac ?_
 refine Mi 1 3 4 5 6 68 97 rfl ?_
 refine Tr.cn rfl ?_ ?_<;>intro h22 q22
 refine ac ?_
 refine co rfl (Bq (Gm) rfl rfl) (cm rfl ?_)
 refine Ch.cs 102 rfl ?_ ?_<;>intro h23 q23
 refine ac ?_
 refine Ch.cs 107 rfl ?_ ?_<;>intro h24 q24
 refine ac ?_
 refine Ch.cs 112 rfl ?_ ?_<;>intro h25 q25
 refine ac ?_
 exact Fin.AG () (by simp_all) ⟨⟨_,rfl,bool_eq (by unfold Al CU;simp_all)⟩,trivial⟩
 refine ac ?_
 exact Fin.AG () (by simp_all) ⟨⟨_,rfl,bool_eq (by unfold Al CU;simp_all;omega)⟩,trivial⟩
 refine ac ?_
 exact Fin.AG () (by simp_all) ⟨⟨_,rfl,bool_eq (by unfold Al CU;simp_all;omega)⟩,trivial⟩
 refine ac ?_
 exact Fin.AG () (by simp_all) ⟨⟨_,rfl,bool_eq (by unfold Al CU;simp_all)⟩,trivial⟩
 refine ac ?_
 refine Tr.cn rfl ?_ ?_<;>intro mM mN
 refine ac ?_
 refine Tr.cond rfl (fun _=> ?_) (fun h=>nomatch mM.symm.trans h)
 refine ac ?_
 refine Ch.cs 119 rfl ?_ ?_<;>intro cv q27
 refine ac ?_
 refine Ch.cs 124 rfl ?_ ?_<;>intro jD q28
 refine ac ?_
 refine Ch.cs 129 rfl ?_ ?_<;>intro Uo q29
 refine ac ?_
 exact Fin.AG () (by simp_all) ⟨⟨_,rfl,bool_eq (by unfold Al CU;simp_all)⟩,trivial⟩
 refine ac ?_
 exact Fin.AG () (by simp_all) ⟨⟨_,rfl,bool_eq (by unfold Al CU;simp_all)⟩,trivial⟩
 refine ac ?_
 exact Fin.AG () (by simp_all) ⟨⟨_,rfl,bool_eq (by unfold Al CU;simp_all;omega)⟩,trivial⟩
 refine ac ?_
 exact Fin.AG () (by simp_all) ⟨⟨_,rfl,bool_eq (by unfold Al CU;simp_all)⟩,trivial⟩
 refine ac ?_
 refine Tr.cn rfl ?_ ?_<;>intro h30 q30
 refine ac ?_
 refine Ch.cs 119 rfl ?_ ?_<;>intro h31 q31
 refine ac ?_
 refine Ch.cs 124 rfl ?_ ?_<;>intro h32 q32
 refine ac ?_
 refine Ch.cs 129 rfl ?_ ?_<;>intro h33 q33
 refine ac ?_
 exact Fin.AG () (by simp_all) ⟨⟨_,rfl,bool_eq (by unfold Al CU;simp_all)⟩,trivial⟩
 refine ac ?_
 exact Fin.AG () (by simp_all) ⟨⟨_,rfl,bool_eq (by unfold Al CU;simp_all)⟩,trivial⟩
 refine ac ?_
 exact Fin.AG () (by simp_all) ⟨⟨_,rfl,bool_eq (by unfold Al CU;simp_all;omega)⟩,trivial⟩
 refine ac ?_
 exact Fin.AG () (by simp_all) ⟨⟨_,rfl,bool_eq (by unfold Al CU;simp_all)⟩,trivial⟩
 refine ac ?_
 refine Tr.cn rfl ?_ ?_<;>intro h34 q34
 refine ac ?_
 refine Ch.cs 135 rfl ?_ ?_<;>intro h35 q35
 refine ac ?_
 refine Ch.cs 140 rfl ?_ ?_<;>intro h36 q36
 refine ac ?_
 refine Ch.cs 145 rfl ?_ ?_<;>intro h37 q37
 refine ac ?_
 exact Fin.AG () (by simp_all) ⟨⟨_,rfl,bool_eq (by unfold Al CU;simp_all)⟩,trivial⟩
 refine ac ?_
 exact Fin.AG () (by simp_all) ⟨⟨_,rfl,bool_eq (by unfold Al CU;simp_all)⟩,trivial⟩
 refine ac ?_
 exact Fin.AG () (by simp_all) ⟨⟨_,rfl,bool_eq (by unfold Al CU;simp_all;omega)⟩,trivial⟩
 refine ac ?_
 exact Fin.AG () (by simp_all) ⟨⟨_,rfl,bool_eq (by unfold Al CU;simp_all)⟩,trivial⟩
 refine ac ?_
 refine EM 1 3 4 6 148 rfl ?_
 refine Tr.cn rfl ?_ ?_<;>intro h38 q38
 refine ac ?_
 refine Ch.cs 151 rfl ?_ ?_<;>intro h39 q39
 refine ac ?_
 refine Ch.cs 154 rfl ?_ ?_<;>intro h40 q40
 refine ac ?_
 refine cy h40 rfl (Bq (FA) rfl rfl) ?_
 refine ac ?_
 exact Fin.AG () (by simp_all) ⟨⟨_,rfl,bool_eq (by unfold Al CU;simp_all)⟩,trivial⟩
 refine ac ?_
 exact Fin.AG () (by simp_all) ⟨⟨_,rfl,bool_eq (by unfold Al CU;simp_all)⟩,trivial⟩
 refine ac ?_
 exact Fin.AG () (by simp_all) ⟨⟨_,rfl,bool_eq (by unfold Al CU;simp_all)⟩,trivial⟩
 refine Tr.skip (Fin.block ?_)
 exact Fin.AG () (by simp_all) ⟨⟨_,rfl,bool_eq (by unfold Al CU;simp_all)⟩,trivial⟩
 refine ac ?_
 refine Tr.cn rfl ?_ ?_<;>intro h41 q41
 refine ac ?_
 refine ac ?_
 · refine int_eq ?_;unfold B2 D5 FK;simp_all
 refine ac ?_
 refine ac ?_
 refine ac ?_
 · refine int_eq ?_;unfold B2 D5 FK;simp_all
def IC:List Int→Int
 |[]=>0
 |a::l=>if a=0 then IC l else a
theorem Pg:∀l,mH l=IC l
 |[]=>rfl
 |a::l=>by
  have ih:(l.find? fun x=>x !=0).getD 0=IC l:=Pg l
  show ((a::l).find? fun x=>x !=0).getD 0=if a=0 then IC l else a
  by_cases h:a=0
  · rw [List.find?_cons_of_neg (by simp [h]),if_pos h];exact ih
  · rw [List.find?_cons_of_pos (by simpa using h),if_neg h];rfl
def GH (a b:A0):List Int:=[Lib.compareBytes a.host b.host,CH a.machine b.machine,CH a.day b.day,Lib.compareBytes a.Eh b.Eh,CH a.kind b.kind,CH a.BO b.BO,CH a.bits b.bits,CH a.num b.num,Lib.compareBytes a.text b.text,CH a.src b.src,CH a.E0 b.E0]
def FG (a b:A0):Int:=IC (GH a b)
theorem Zo {a b:List UInt8}  :A4 prog 282 [str a,str b] (int (Lib.compareBytes a b)):=by
 refine fo func282 rfl ⟨rfl,rfl⟩ fun M0 w0=> ?_
 · repeat' first|(refine int_eq ?_;have h9:=SP a b;simp_all)|refine co rfl (eV rfl (vl rfl) (vl rfl)) ?_|refine co rfl (eW rfl (vl rfl) (vl rfl)) ?_|refine ac ?_|(refine Tr.cn rfl ?_ ?_<;>intro h q)
def NN:List Int→List Int→Int
 |a::l,b::m=>if CH a b=0 then NN l m else CH a b
 |_,_=>0
theorem Si {a b:List Int} {k:Nat} {x y:Int} (hx:a[k]? =some x) (hy:b[k]? =some y):NN (a.drop k) (b.drop k)=if CH x y=0 then NN (a.drop (k+1)) (b.drop (k+1)) else CH x y:=by
 rw [drop_cons hx,drop_cons hy];rfl
theorem Ph {a b:List Int} (hl:a.length≤b.length):A4 prog 283 [ints a,ints b] (int (NN a b)):=by
 refine fo func283 rfl ⟨rfl,rfl⟩ fun M0 w0=>(Tr.EC 0 rfl fun Ex=> ?_)
 refine a2 ?_
 refine Tr.block (Tr.BW [(0,_),(1,_)] (LH rfl) (fun k:Nat=>[(5,int ((k:Nat):Int))]) (fun k:Nat=>k≤(a).length∧(NN a b=NN (a.drop k) (b.drop k))) (fun k:Nat=>(a).length-k) 0 (⟨Nat.zero_le _,rfl⟩) ⟨ke rfl,trivial⟩ ?_)
 rintro k ⟨Bk,Ac⟩
 refine an ?_ ?_<;>intro h1 q1
 have Ao:k<(a).length:=AZ h1
 obtain ⟨x,An⟩:=at_ Ao
 obtain ⟨y,hy⟩:=at_ (l:=b) (k:=k) (by omega)
 have hst:=Si An hy
 · repeat' first|(refine int_eq ?_;rw [Ac,hst];unfold CH;(repeat (first|rw [if_pos (by omega)]|rw [if_neg (by omega)])))|(exact Fin.AG (k+1) ⟨⟨Ao,(Ac.trans (hst.trans (if_pos (by rw [Ks];omega))))⟩,by omega⟩ ⟨⟨_,rfl,AS k⟩,ke rfl,ke rfl,trivial⟩)|refine co rfl (AB rfl underlying22 Cg (vl rfl) (vl rfl) (by omega) (by exact Ak (by assumption))) ?_|refine ac ?_|(refine Tr.cn rfl ?_ ?_<;>intro h q)
 have BQ:k=(a).length:=by have:=Aa h1;omega
 subst BQ
 refine a3 ?_
 · refine int_eq ?_;rw [Ac,List.drop_length];cases b<;>rfl
theorem NO {a:Int} {l:List Int} (h:¬a=0):IC (a::l)=a:=if_neg h
theorem Dx {a:Int} {l:List Int} (h:a=0):IC (a::l)=IC l:=if_pos h
theorem Zp (a b c d:Int):NN [a,b] [c,d]=IC [CH a c,CH b d]:=by
 show (if CH a c=0 then (if CH b d=0 then 0 else CH b d) else CH a c)=if CH a c=0 then (if CH b d=0 then 0 else CH b d) else CH a c
 rfl
theorem L4:∀(l m:List Int),IC (l++m)=if IC l=0 then IC m else IC l
 |[],m=>by simp [IC]
 |a::l,m=>by
  have ih:=L4 l m
  show (if a=0 then IC (l++m) else a)=if (if a=0 then IC l else a)=0 then IC m else (if a=0 then IC l else a)
  by_cases h:a=0
  · simp only [h,if_true];exact ih
  · simp [h]
theorem I4 (a b:A0):FG a b=IC [Lib.compareBytes a.host b.host,IC [CH a.machine b.machine,CH a.day b.day],Lib.compareBytes a.Eh b.Eh,IC [CH a.kind b.kind,CH a.BO b.BO,CH a.bits b.bits,CH a.num b.num],Lib.compareBytes a.text b.text,IC [CH a.src b.src,CH a.E0 b.E0]]:=by
 have h:∀(l:List Int) (m n:List Int),IC (m++(IC l::n))=IC (m++(l++n)):=by
  intro l m n
  rw [L4,L4 m,L4 l n];rfl
 unfold FG GH
 have e1:=h [CH a.machine b.machine,CH a.day b.day] [Lib.compareBytes a.host b.host] [Lib.compareBytes a.Eh b.Eh,IC [CH a.kind b.kind,CH a.BO b.BO,CH a.bits b.bits,CH a.num b.num],Lib.compareBytes a.text b.text,IC [CH a.src b.src,CH a.E0 b.E0]]
 have e2:=h [CH a.kind b.kind,CH a.BO b.BO,CH a.bits b.bits,CH a.num b.num] [Lib.compareBytes a.host b.host,CH a.machine b.machine,CH a.day b.day,Lib.compareBytes a.Eh b.Eh] [Lib.compareBytes a.text b.text,IC [CH a.src b.src,CH a.E0 b.E0]]
 have e3:=h [CH a.src b.src,CH a.E0 b.E0] [Lib.compareBytes a.host b.host,CH a.machine b.machine,CH a.day b.day,Lib.compareBytes a.Eh b.Eh,CH a.kind b.kind,CH a.BO b.BO,CH a.bits b.bits,CH a.num b.num,Lib.compareBytes a.text b.text] []
 exact (e1.trans (e2.trans e3)).symm
theorem Jj {a b:A0}  :A4 prog 246 [agg (Ad a),agg (Ad b)] (int (FG a b)):=by
 refine fo func246 rfl ⟨rfl,rfl⟩ fun M0 w0=> ?_
 · repeat' first|(refine int_eq ?_;rw [I4];exact (NO (by assumption)).symm)|(refine int_eq ?_;rw [I4];rw [Dx (by assumption)];exact (NO (by assumption)).symm)|(refine int_eq ?_;rw [I4];rw [Dx (by assumption),Dx (by assumption)];exact (NO (by assumption)).symm)|(refine int_eq ?_;rw [I4];rw [Dx (by assumption),Dx (by assumption),Dx (by assumption)];exact (NO (by assumption)).symm)|(refine int_eq ?_;rw [I4];rw [Dx (by assumption),Dx (by assumption),Dx (by assumption),Dx (by assumption)];exact (NO (by assumption)).symm)|(refine int_eq ?_;rw [I4,Dx (by assumption),Dx (by assumption),Dx (by assumption),Dx (by assumption),Dx (by assumption)];rw [Zp];unfold IC;split<;>simp_all [IC])|refine co rfl (AX rfl (Ph (a:=[a.machine,a.day]) (b:=[b.machine,b.day]) (by simp)) ⟨(Kf rfl),(Kf rfl),trivial⟩) ?_|refine co rfl (AX rfl (Ph (a:=[a.kind,a.BO,a.bits,a.num]) (b:=[b.kind,b.BO,b.bits,b.num]) (by simp)) ⟨(Kf rfl),(Kf rfl),trivial⟩) ?_|refine co rfl (AX rfl (Ph (a:=[a.src,a.E0]) (b:=[b.src,b.E0]) (by simp)) ⟨(Kf rfl),(Kf rfl),trivial⟩) ?_|refine co rfl (Dc (Zo) rfl rfl rfl) ?_|refine ac ?_|(refine Tr.cn rfl ?_ ?_<;>intro h q)
theorem mO {f:A0}  :A4 prog 235 [agg (Ad f)] (str f.host):=by
 refine fo func235 rfl ⟨rfl,rfl⟩ fun M0 w0=> ?_
 refine a3 ?_
 · exact Lr
theorem mP:Entry Tryz.prog 235:=⟨_,Tryz.func235,rfl,rfl⟩
theorem mQ {f:A0}  :A4 prog 236 [agg (Ad f)] (int f.machine):=by
 refine fo func236 rfl ⟨rfl,rfl⟩ fun M0 w0=> ?_
 refine a3 ?_
 · exact Lr
theorem mR:Entry Tryz.prog 236:=⟨_,Tryz.func236,rfl,rfl⟩
theorem mS {f:A0}  :A4 prog 237 [agg (Ad f)] (int f.day):=by
 refine fo func237 rfl ⟨rfl,rfl⟩ fun M0 w0=> ?_
 refine a3 ?_
 · exact Lr
theorem mT:Entry Tryz.prog 237:=⟨_,Tryz.func237,rfl,rfl⟩
theorem mU {f:A0}  :A4 prog 238 [agg (Ad f)] (str f.Eh):=by
 refine fo func238 rfl ⟨rfl,rfl⟩ fun M0 w0=> ?_
 refine a3 ?_
 · exact Lr
theorem mV:Entry Tryz.prog 238:=⟨_,Tryz.func238,rfl,rfl⟩
theorem mW {f:A0}  :A4 prog 239 [agg (Ad f)] (int f.kind):=by
 refine fo func239 rfl ⟨rfl,rfl⟩ fun M0 w0=> ?_
 refine a3 ?_
 · exact Lr
theorem mX:Entry Tryz.prog 239:=⟨_,Tryz.func239,rfl,rfl⟩
theorem mY {f:A0}  :A4 prog 240 [agg (Ad f)] (int f.BO):=by
 refine fo func240 rfl ⟨rfl,rfl⟩ fun M0 w0=> ?_
 refine a3 ?_
 · exact Lr
theorem mZ:Entry Tryz.prog 240:=⟨_,Tryz.func240,rfl,rfl⟩
theorem me {f:A0}  :A4 prog 241 [agg (Ad f)] (int f.bits):=by
 refine fo func241 rfl ⟨rfl,rfl⟩ fun M0 w0=> ?_
 refine a3 ?_
 · exact Lr
theorem mg:Entry Tryz.prog 241:=⟨_,Tryz.func241,rfl,rfl⟩
theorem fJ {f:A0}  :A4 prog 242 [agg (Ad f)] (int f.num):=by
 refine fo func242 rfl ⟨rfl,rfl⟩ fun M0 w0=> ?_
 refine a3 ?_
 · exact Lr
theorem fK:Entry Tryz.prog 242:=⟨_,Tryz.func242,rfl,rfl⟩
theorem fL {f:A0}  :A4 prog 243 [agg (Ad f)] (str f.text):=by
 refine fo func243 rfl ⟨rfl,rfl⟩ fun M0 w0=> ?_
 refine a3 ?_
 · exact Lr
theorem fM:Entry Tryz.prog 243:=⟨_,Tryz.func243,rfl,rfl⟩
theorem fO {f:A0}  :A4 prog 244 [agg (Ad f)] (int f.src):=by
 refine fo func244 rfl ⟨rfl,rfl⟩ fun M0 w0=> ?_
 refine a3 ?_
 · exact Lr
theorem fP:Entry Tryz.prog 244:=⟨_,Tryz.func244,rfl,rfl⟩
theorem fQ {f:A0}  :A4 prog 245 [agg (Ad f)] (int f.E0):=by
 refine fo func245 rfl ⟨rfl,rfl⟩ fun M0 w0=> ?_
 refine a3 ?_
 · exact Lr
theorem fR:Entry Tryz.prog 245:=⟨_,Tryz.func245,rfl,rfl⟩
theorem mh {g:A0→Int} {a b:A0}  :A4 prog 230 [ref [G1 prog (fun f:A0=>[agg (Ad f)]) (fun f=>int (g f))],ref (Ad a),ref (Ad b)] (int (CH (g a) (g b))):=by
 refine fo func230 rfl ⟨rfl,rfl⟩ fun M0 w0=> ?_
 refine a2 ?_
 refine co rfl (BN a rfl (vl rfl) ⟨ke rfl,trivial⟩) ?_
 refine ac ?_
 refine co rfl (BN b rfl (vl rfl) ⟨ke rfl,trivial⟩) (co rfl (Dc (fA) rfl rfl rfl) ?_)
 refine a2 ?_
 · exact Lr
theorem mj:Entry Tryz.prog 230:=⟨_,Tryz.func230,rfl,rfl⟩
theorem mm {g:A0→List UInt8} {a b:A0}  :A4 prog 233 [ref [G1 prog (fun f:A0=>[agg (Ad f)]) (fun f=>str (g f))],ref (Ad a),ref (Ad b)] (int (Lib.compareBytes (g a) (g b))):=by
 refine fo func233 rfl ⟨rfl,rfl⟩ fun M0 w0=> ?_
 refine a2 ?_
 refine co rfl (BN a rfl (vl rfl) ⟨ke rfl,trivial⟩) ?_
 refine ac ?_
 refine co rfl (BN b rfl (vl rfl) ⟨ke rfl,trivial⟩) (co rfl (Dc (fB) rfl rfl rfl) ?_)
 refine a2 ?_
 · exact Lr
theorem mq:Entry Tryz.prog 233:=⟨_,Tryz.func233,rfl,rfl⟩
theorem rV {g:A0→Int} {a b:A0}  :A4 prog 229 [G1 prog (fun f:A0=>[agg (Ad f)]) (fun f=>int (g f)),ref (Ad a),ref (Ad b)] (G1 prog (fun _:Unit=>[]) (fun _=>int (CH (g a) (g b)))):=by
 refine fo func229 rfl ⟨rfl,rfl⟩ fun M0 w0=> ?_
 refine a3 ?_
 · exact Bt mj (fun _=>mh)
theorem rW:Entry Tryz.prog 229:=⟨_,Tryz.func229,rfl,rfl⟩
theorem rX {g:A0→List UInt8} {a b:A0}  :A4 prog 232 [G1 prog (fun f:A0=>[agg (Ad f)]) (fun f=>str (g f)),ref (Ad a),ref (Ad b)] (G1 prog (fun _:Unit=>[]) (fun _=>int (Lib.compareBytes (g a) (g b)))):=by
 refine fo func232 rfl ⟨rfl,rfl⟩ fun M0 w0=> ?_
 refine a3 ?_
 · exact Bt mq (fun _=>mm)
theorem rY:Entry Tryz.prog 232:=⟨_,Tryz.func232,rfl,rfl⟩
theorem Wu {a b:A0} {k:Nat} {x:Int} (hx:(GH a b)[k]? =some x) (h0:¬x=0) (h:∀j y,j<k→(GH a b)[j]? =some y→(y !=0)=false):x=FG a b:=by
 have:=Zg hx h0 h;rw [Pg] at this;exact this
theorem Up {a b:A0} (h:∀j y,j<(GH a b).length→(GH a b)[j]? =some y→(y !=0)=false):0=FG a b:=by
 have:=Wo h;rw [Pg] at this;exact this
theorem Wv {a b:A0}  :A4 prog 197 [agg (Ad a),agg (Ad b)] (int (FG a b)):=by
 refine fo func197 rfl ⟨rfl,rfl⟩ fun M0 w0=> ?_
 refine ac ?_
 refine ac ?_
 refine ac ?_
 refine Tr.seq (Tr.seq (Tr.re 5 rfl (Bt (dom:=fun g:A0→Int=>[G1 prog (fun f:A0=>[agg (Ad f)]) (fun f=>int (g f))]) (res:=fun g=>G1 prog (fun _:Unit=>[]) (fun _=>int (CH (g a) (g b)))) rW (fun g=>rV (g:=g) (a:=a) (b:=b))) (Tr.re 6 rfl (Bt (dom:=fun g:A0→List UInt8=>[G1 prog (fun f:A0=>[agg (Ad f)]) (fun f=>str (g f))]) (res:=fun g=>G1 prog (fun _:Unit=>[]) (fun _=>int (Lib.compareBytes (g a) (g b)))) rY (fun g=>rX (g:=g) (a:=a) (b:=b))) ?_)))
 refine ac ?_
 refine co rfl (BN (fun f:A0=>f.host) rfl (vl rfl) ⟨⟨_,rfl,Bt (dom:=fun f:A0=>[agg (Ad f)]) (res:=fun f=>str f.host) mP (fun f=>mO (f:=f))⟩,trivial⟩) (cm rfl (co rfl (BN (fun f:A0=>f.machine) rfl (vl rfl) ⟨⟨_,rfl,Bt (dom:=fun f:A0=>[agg (Ad f)]) (res:=fun f=>int f.machine) mR (fun f=>mQ (f:=f))⟩,trivial⟩) (cm rfl (co rfl (BN (fun f:A0=>f.day) rfl (vl rfl) ⟨⟨_,rfl,Bt (dom:=fun f:A0=>[agg (Ad f)]) (res:=fun f=>int f.day) mT (fun f=>mS (f:=f))⟩,trivial⟩) (cm rfl (co rfl (BN (fun f:A0=>f.Eh) rfl (vl rfl) ⟨⟨_,rfl,Bt (dom:=fun f:A0=>[agg (Ad f)]) (res:=fun f=>str f.Eh) mV (fun f=>mU (f:=f))⟩,trivial⟩) (cm rfl (co rfl (BN (fun f:A0=>f.kind) rfl (vl rfl) ⟨⟨_,rfl,Bt (dom:=fun f:A0=>[agg (Ad f)]) (res:=fun f=>int f.kind) mX (fun f=>mW (f:=f))⟩,trivial⟩) (cm rfl (co rfl (BN (fun f:A0=>f.BO) rfl (vl rfl) ⟨⟨_,rfl,Bt (dom:=fun f:A0=>[agg (Ad f)]) (res:=fun f=>int f.BO) mZ (fun f=>mY (f:=f))⟩,trivial⟩) (cm rfl (co rfl (BN (fun f:A0=>f.bits) rfl (vl rfl) ⟨⟨_,rfl,Bt (dom:=fun f:A0=>[agg (Ad f)]) (res:=fun f=>int f.bits) mg (fun f=>me (f:=f))⟩,trivial⟩) (cm rfl ?_)))))))))))))
 refine co rfl (BN (fun f:A0=>f.num) rfl (vl rfl) ⟨⟨_,rfl,Bt (dom:=fun f:A0=>[agg (Ad f)]) (res:=fun f=>int f.num) fK (fun f=>fJ (f:=f))⟩,trivial⟩) (cm rfl (co rfl (BN (fun f:A0=>f.text) rfl (vl rfl) ⟨⟨_,rfl,Bt (dom:=fun f:A0=>[agg (Ad f)]) (res:=fun f=>str f.text) fM (fun f=>fL (f:=f))⟩,trivial⟩) (cm rfl (co rfl (BN (fun f:A0=>f.src) rfl (vl rfl) ⟨⟨_,rfl,Bt (dom:=fun f:A0=>[agg (Ad f)]) (res:=fun f=>int f.src) fP (fun f=>fO (f:=f))⟩,trivial⟩) (cm rfl (co rfl (BN (fun f:A0=>f.E0) rfl (vl rfl) ⟨⟨_,rfl,Bt (dom:=fun f:A0=>[agg (Ad f)]) (res:=fun f=>int f.E0) fR (fun f=>fQ (f:=f))⟩,trivial⟩) (co rfl (AM (xs:=[.tmp 13,.tmp 15,.tmp 17,.tmp 19,.tmp 21,.tmp 23,.tmp 25,.tmp 27,.tmp 29,.tmp 31,.tmp 33]) (rows:=[[_],[_],[_],[_],[_],[_],[_],[_],[_],[_],[_]]) rfl rfl underlying258 cL qJ rfl (by decide) ⟨⟨(by exact rfl),(Vo rfl)⟩,⟨⟨(by exact rfl),(Vo rfl)⟩,⟨⟨(by exact rfl),(Vo rfl)⟩,⟨⟨(by exact rfl),(Vo rfl)⟩,⟨⟨(by exact rfl),(Vo rfl)⟩,⟨⟨(by exact rfl),(Vo rfl)⟩,⟨⟨(by exact rfl),(Vo rfl)⟩,⟨⟨(by exact rfl),(Vo rfl)⟩,⟨⟨(by exact rfl),(Vo rfl)⟩,⟨⟨(by exact rfl),(Vo rfl)⟩,⟨⟨(by exact rfl),(Vo rfl)⟩,trivial⟩⟩⟩⟩⟩⟩⟩⟩⟩⟩⟩ (by decide)) ?_)))))))
 refine co rfl (CV rfl underlying258 (Kf rfl)) ?_
 refine ac ?_
 refine Cr 34 35 36 rfl (Tr.block (Tr.re 34 rfl (Pr.le_trans (BT _ _) (Pr.le_of_eq (show _=slice 1 ((GH a b).map fun k=>[G1 prog (fun _:Unit=>[]) (fun _=>int (k))]) from rfl))) (Tr.re 35 rfl (int_eq (b:=(((GH a b).length:Nat):Int)) rfl) ?_)))
 refine Tr.BW [(34,_),(35,_)] (LH rfl) (fun k:Nat=>[(36,int ((k:Nat):Int))]) (fun k:Nat=>k≤(GH a b).length∧(∀j y,j<k→(GH a b)[j]? =some y→(y !=0)=false)) (fun k:Nat=>(GH a b).length-k) 0 (⟨Nat.zero_le _,fun j y hj=>absurd hj (by omega)⟩) ⟨ke rfl,trivial⟩ ?_
 rintro k ⟨Bk,Ac⟩
 refine ac ?_
 refine Tr.seq ?_
 refine Tr.cn rfl ?_ ?_<;>intro h1 q1
 have Ao:k<(GH a b).length:=AZ h1
 obtain ⟨x,An⟩:=at_ Ao
 have hL:k<11:=Ao
 refine ac ?_
 refine Tr.seq (Tr.block (Tr.seq (Tr.B_ (co rfl (AB rfl underlying258 cL (vl rfl) (vl rfl) (by omega) (Ak (f:=fun k=>[G1 prog (fun _:Unit=>[]) (fun _=>int (k))]) An)) ?_))))
 refine ac ?_
 refine ac ?_
 refine co rfl (BN () rfl (vl rfl) trivial) ?_
 refine ac ?_
 refine ac ?_
 refine Tr.cn rfl ?_ ?_<;>intro h2 q2
 refine ac ?_
 refine DD 4 rfl ?_
 refine ac ?_
 · exact int_eq (Wu An (by assumption) Ac)
 refine ac ?_
 refine ac ?_
 exact Fin.AG (k+1) ⟨⟨Ao,D_ (p:=fun y=>y !=0) An (by simpa using by assumption) Ac⟩,by omega⟩ ⟨⟨_,rfl,AS k⟩,ke rfl,ke rfl,trivial⟩
 have BQ:k=(GH a b).length:=by have:=Aa h1;omega
 subst BQ
 refine ac ?_
 refine ac ?_
 refine ac ?_
 · exact int_eq (Up Ac)
theorem Ww:Entry Tryz.prog 197:=⟨_,Tryz.func197,rfl,rfl⟩
def Zq (l:List A0):Prop:=∀(j:Nat) a b,l[j]? =some a→l[j+1]? =some b→FG a b<0
theorem Pj {l:List A0} {f:A0→List Pr} {k:Nat} {x:A0} (h0:0<k) (h:l[k-1]? =some x):(l.map f)[(((k:Nat):Int)-1).toNat]? =some (f x):=by
 rw [show (((k:Nat):Int)-1).toNat=k-1 by omega,List.getElem?_map,h];rfl
def kF (l:List A0) (f:A0):Nat:=(l.reverse.dropWhile fun x=>decide (0<FG x f)).length
def Ft (l:List A0) (f:A0):List A0:=if 0<kF l f∧((l[kF l f-1]?).map fun x=>FG x f)=some 0 then l else l.take (kF l f)++[f]++l.drop (kF l f)
theorem JO {β:Type} {p:β→Bool}:∀{l m:List β},(∀x∈l,p x=true)→(l++m).dropWhile p=m.dropWhile p
 |[],_,_=>rfl
 |a::l,m,h=>by
  rw [List.cons_append,List.dropWhile_cons_of_pos (h a (by simp))]
  exact JO fun x hx=>h x (List.mem_cons_of_mem _ hx)
theorem Wx {l:List A0} {f:A0} {k:Nat} (hk:k≤l.length) (hgt:∀(j:Nat) y,k≤j→l[j]? =some y→0<FG y f) (hle:k=0∨∃x,l[k-1]? =some x∧¬0<FG x f):kF l f=k:=by
 unfold kF
 have h1:l.reverse=(l.drop k).reverse++(l.take k).reverse:=by rw [←List.reverse_append,List.take_append_drop]
 rw [h1,JO (by
  intro x hx
  rw [List.mem_reverse] at hx
  obtain ⟨j,hj⟩:=List.mem_iff_getElem?.1 hx
  rw [List.getElem?_drop] at hj
  simpa using hgt _ x (by omega) hj)]
 rcases hle with h0|⟨x,hx,hn⟩
 · subst h0;simp
 ·
  have Wy:0<k:=by
   rcases Nat.eq_zero_or_pos k with h|h
   ·
    subst h
    rw [show (0:Nat)-1=0 from rfl] at hx
    exact absurd (hgt 0 x (Nat.le_refl _) hx) hn
   · exact h
  have h2:l.take k=l.take (k-1)++[x]:=by
   have:=List.take_add_one (l:=l) (i:=k-1)
   rw [show k-1+1=k by omega,hx] at this
   simpa using this
  rw [h2,List.reverse_append]
  show (List.dropWhile _ (x::(l.take (k-1)).reverse)).length=k
  rw [List.dropWhile_cons_of_neg (by simpa using hn)]
  simp;omega
theorem Uq {l:List A0} {f x:A0} {k:Nat} (h:kF l f=k) (h0:0<k) (hx:l[k-1]? =some x) (he:FG x f=0):Ft l f=l:=by
 unfold Ft;rw [h,if_pos ⟨h0,by rw [hx];simp [he]⟩]
theorem RB {l:List A0} {f:A0} {k:Nat} (h:kF l f=k) (hn:k=0∨∃x,l[k-1]? =some x∧¬FG x f=0):Ft l f=l.take k++[f]++l.drop k:=by
 unfold Ft;rw [h,if_neg]
 rintro ⟨h1,h2⟩
 rcases hn with h3|⟨x,hx,hne⟩
 · omega
 · rw [hx] at h2;simp at h2;exact hne h2
theorem mu {l:List A0} {f:A0} (hl:l.length≤1000):A4 prog 200 [Dq l,agg (Ad f)] (Dq (Ft l f)):=by
 refine A4.of func200 rfl rfl (by exact Nb rfl) fun M0 w0=> ?_
 refine Tr.seq (Tr.B_ (co rfl (Ba rfl (Va rfl)) (cm rfl (Ch.nil (Fin.go (Tr.seq (Tr.B_ (cm rfl (co rfl (Gi rfl underlying92 (vl rfl)) (cm rfl (Ch.nil (Fin.go (Tr.seq (Tr.block ?_))))))))))))))
 refine Tr.BW [(0,_),(3,_)] (LH rfl) (fun k:Nat=>[(5,int ((k:Nat):Int))]) (fun k:Nat=>k≤l.length∧∀(j:Nat) y,k≤j→l[j]? =some y→0<FG y f) (fun k:Nat=>k) l.length (⟨Nat.le_refl _,fun j y h1 h2=>by rw [List.getElem?_eq_none h1] at h2;cases h2⟩) ⟨ke rfl,trivial⟩ ?_
 rintro k ⟨hk,hgt⟩
 refine Tr.seq (Tr.seq (Tr.MT mixed (by kernel_rfl) (cm rfl (co rfl (ki rfl rfl rfl rfl) (cm rfl ?_)))))
 refine Ch.cs 10 rfl ?_ ?_<;>intro h1 q1
 obtain ⟨x,hx⟩:=at_ (l:=l) (k:=k-1) (by omega)
 refine II h1 rfl (II h1 rfl ?_)
 refine cy h1 rfl (KY rfl (vl rfl) (vl rfl) ?hin) ?_;case hin=>unfold GP;omega
 refine cy h1 rfl (AB rfl underlying92 AW (vl rfl) (vl rfl) (by omega) (Pj (by omega) hx)) (cy h1 rfl (AO rfl BD AW (vl rfl) rfl rfl) (cy h1 rfl (AO rfl BD AW (vl rfl) rfl rfl) (cy h1 rfl (AX rfl (Jj) ⟨ke rfl,ke rfl,trivial⟩) (cy h1 rfl (ki rfl rfl rfl rfl) (co rfl (Vf rfl rfl h1 rfl) (Ch.nil (Fin.go (Ez 0 3 5 19 rfl ?_))))))))
 refine Tr.cn rfl ?_ ?_<;>intro h2 q2
 have:=h2
 refine Tr.skip (Fin.go (Tr.block (Tr.B_ (cm rfl (je rfl rfl rfl rfl (by omega) (cm rfl (Ch.nil (Fin.block ?_))))))))
 exact Fin.AG (k-1) ⟨⟨by omega,fun j y h1 h2=>by rcases Nat.eq_or_lt_of_le h1 with h3|h3;(subst h3;rw [hx] at h2;cases h2;omega);exact hgt j y (by omega) h2⟩,by omega⟩ ⟨⟨_,rfl,int_eq (by omega)⟩,ke rfl,ke rfl,trivial⟩
 have:=h2
 refine Tr.exit (Fin.Ai (Fin.Ai (Fin.BA (Fin.go (Tr.seq (Tr.seq (Tr.MT mixed (by kernel_rfl) (cm rfl (co rfl (ki rfl rfl rfl rfl) (cm rfl ?_))))))))))
 refine Ch.cs 24 rfl ?_ ?_<;>intro h3 q3
 obtain ⟨x2,hx2⟩:=at_ (l:=l) (k:=k-1) (by omega)
 refine II h3 rfl (II h3 rfl ?_)
 refine cy h3 rfl (KY rfl (vl rfl) (vl rfl) ?hin) ?_;case hin=>unfold GP;omega
 refine cy h3 rfl (AB rfl underlying92 AW (vl rfl) (vl rfl) (by omega) (Pj (by omega) hx2)) (cy h3 rfl (AO rfl BD AW (vl rfl) rfl rfl) (cy h3 rfl (AO rfl BD AW (vl rfl) rfl rfl) (cy h3 rfl (AX rfl (Jj) ⟨ke rfl,ke rfl,trivial⟩) (cy h3 rfl (ki rfl rfl rfl rfl) (co rfl (Vf rfl rfl h3 rfl) (Ch.nil (Fin.go (Ez 0 3 5 33 rfl ?_))))))))
 refine Tr.cn rfl ?_ ?_<;>intro h4 q4
 refine Tr.seq (Tr.B_ (cm rfl (cm rfl (Ch.nil (Fin.go (Tr.ret (Fin.AJ (Fin.LX rfl (Ct.F5 _ _) rfl ?_))))))))
 · rw [Uq (Wx hk hgt (.inr ⟨x,hx,by omega⟩)) (by omega) hx2 (by assumption)];exact Lr
 refine Tr.skip (Fin.go (Tr.seq (Tr.pad (Tr.Jv mixed [none,none,none,none,some (0,0,true,39),none,none,some (39,0,true,42),none,none,none,some (42,0,true,46),some (46,0,true,4)] (by kernel_rfl) (xo rfl (fun _=>AM (xs:=[]) (rows:=[]) rfl rfl underlying92 AW G2 rfl (by decide) trivial (by decide)) (xm rfl (xm rfl ?_)))))))
 refine xo rfl (fun _=>Cn rfl underlying92 AW (vl rfl) (vl rfl) (by omega) (by simp;omega)) ?_
 refine Cx.ef 0 rfl rfl (by decide) (CN rfl rfl (by decide) rfl underlying92 AW HS G2 rfl (by decide) (Kf rfl) (vl rfl) (by simp;unfold maxLen;omega) (by simp;omega) (Bx (by exact List.Mem.head _) (vl rfl))) ?_
 refine xo rfl (fun _=>AO rfl BD AW (vl rfl) rfl rfl) (xo rfl (fun _=>AM (xs:=[.tmp 40]) (rows:=[_]) rfl rfl underlying92 AW G2 rfl (by decide) ⟨⟨(by exact rfl),(Va rfl)⟩,trivial⟩ (by decide)) ?_)
 refine Cx.ef 0 rfl rfl (by decide) (CN rfl rfl (by decide) rfl underlying92 AW HS G2 rfl (by decide) (vl rfl) (Kf rfl) (by simp;unfold maxLen;omega) (by simp;omega) EL) ?_
 refine xm rfl (xm rfl ?_)
 refine xo rfl (fun _=>B1 rfl underlying92 AW (vl rfl) (vl rfl) (by omega) (by simp;omega)) ?_
 refine Cx.ef 0 rfl rfl (by decide) (CN rfl rfl (by decide) rfl underlying92 AW HS G2 rfl (by decide) (vl rfl) (vl rfl) (by simp;unfold maxLen;omega) (by simp;omega) EL) ?_
 refine Cx.ef 0 rfl rfl (by decide) (E7 rfl rfl (by decide) rfl (vl rfl)) ?_
 refine Cx.nil ⟨rfl,?_⟩
 refine A9.open_ 0 4 rfl rfl (fun v1=> ?_)
 refine A9.done (CB.cons (CB.map _)) (Fin.go (DD 4 rfl (Tr.ret (Fin.LX rfl (Ct.F5 _ _) rfl ?_))))
 · rw [RB (Wx hk hgt (.inr ⟨x,hx,by omega⟩)) (.inr ⟨x2,hx2,by assumption⟩)];exact Pr.le_trans (Ar _ _) (Pr.le_of_eq (by show slice 11 _=slice 11 _;rw [Int.toNat_natCast,List.map_append,List.map_append,List.map_take,List.map_drop,List.nil_append];rfl))
 iterate 8 refine cnt h3 rfl ?_
 refine co rfl (SJ rfl rfl h3 rfl) (Ch.nil (Fin.go (Ez 0 3 5 33 rfl (Tr.cond rfl (fun h=>nomatch h) (fun _=> ?_)))))
 refine Tr.skip (Fin.go (Tr.seq (Tr.pad (Tr.Jv mixed [none,none,none,none,some (0,0,true,39),none,none,some (39,0,true,42),none,none,none,some (42,0,true,46),some (46,0,true,4)] (by kernel_rfl) (xo rfl (fun _=>AM (xs:=[]) (rows:=[]) rfl rfl underlying92 AW G2 rfl (by decide) trivial (by decide)) (xm rfl (xm rfl (xo rfl (fun _=>Cn rfl underlying92 AW (vl rfl) (vl rfl) (by omega) (by omega)) ?_))))))))
 refine Cx.ef 0 rfl rfl (by decide) (CN rfl rfl (by decide) rfl underlying92 AW HS G2 rfl (by decide) (Kf rfl) (vl rfl) (by simp;unfold maxLen;omega) (by simp;omega) (Bx (by exact List.Mem.head _) (vl rfl))) ?_
 refine xo rfl (fun _=>AO rfl BD AW (vl rfl) rfl rfl) (xo rfl (fun _=>AM (xs:=[.tmp 40]) (rows:=[_]) rfl rfl underlying92 AW G2 rfl (by decide) ⟨⟨(by exact rfl),(Va rfl)⟩,trivial⟩ (by decide)) ?_)
 refine Cx.ef 0 rfl rfl (by decide) (CN rfl rfl (by decide) rfl underlying92 AW HS G2 rfl (by decide) (vl rfl) (Kf rfl) (by simp;unfold maxLen;omega) (by simp;omega) EL) ?_
 refine xm rfl (xm rfl (xo rfl (fun _=>B1 rfl underlying92 AW (vl rfl) (vl rfl) (by omega) (by omega)) ?_))
 refine Cx.ef 0 rfl rfl (by decide) (CN rfl rfl (by decide) rfl underlying92 AW HS G2 rfl (by decide) (vl rfl) (vl rfl) (by simp;unfold maxLen;omega) (by simp;omega) EL) ?_
 refine Cx.ef 0 rfl rfl (by decide) (E7 rfl rfl (by decide) rfl (vl rfl)) ?_
 refine Cx.nil ⟨rfl,?_⟩
 refine A9.open_ 0 4 rfl rfl (fun v2=> ?_)
 refine A9.done (CB.cons (CB.map _)) (Fin.go (DD 4 rfl (Tr.ret (Fin.LX rfl (Ct.F5 _ _) rfl ?_))))
 · exfalso;omega
 iterate 8 refine cnt h1 rfl ?_
 refine co rfl (SJ rfl rfl h1 rfl) (Ch.nil (Fin.go (Ez 0 3 5 19 rfl (Tr.cond rfl (fun h=>nomatch h) (fun _=> ?_)))))
 refine Tr.exit (Fin.Ai (Fin.Ai (Fin.BA (Fin.go (Tr.seq (Tr.seq (Tr.MT mixed (by kernel_rfl) (cm rfl (co rfl (ki rfl rfl rfl rfl) (cm rfl ?_))))))))))
 refine Ch.cs 24 rfl ?_ ?_<;>intro h5 q5
 obtain ⟨x2,hx2⟩:=at_ (l:=l) (k:=k-1) (by omega)
 refine II h5 rfl (II h5 rfl ?_)
 refine cy h5 rfl (KY rfl (vl rfl) (vl rfl) ?hin) ?_;case hin=>unfold GP;omega
 refine cy h5 rfl (AB rfl underlying92 AW (vl rfl) (vl rfl) (by omega) (Pj (by omega) hx2)) (cy h5 rfl (AO rfl BD AW (vl rfl) rfl rfl) (cy h5 rfl (AO rfl BD AW (vl rfl) rfl rfl) (cy h5 rfl (AX rfl (Jj) ⟨ke rfl,ke rfl,trivial⟩) (cy h5 rfl (ki rfl rfl rfl rfl) (co rfl (Vf rfl rfl h5 rfl) (Ch.nil (Fin.go (Ez 0 3 5 33 rfl ?_))))))))
 refine Tr.cn rfl ?_ ?_<;>intro h6 q6
 refine Tr.seq (Tr.B_ (cm rfl (cm rfl (Ch.nil (Fin.go (Tr.ret (Fin.AJ (Fin.LX rfl (Ct.F5 _ _) rfl ?_))))))))
 · exfalso;omega
 refine Tr.skip (Fin.go (Tr.seq (Tr.pad (Tr.Jv mixed [none,none,none,none,some (0,0,true,39),none,none,some (39,0,true,42),none,none,none,some (42,0,true,46),some (46,0,true,4)] (by kernel_rfl) (xo rfl (fun _=>AM (xs:=[]) (rows:=[]) rfl rfl underlying92 AW G2 rfl (by decide) trivial (by decide)) (xm rfl (xm rfl (xo rfl (fun _=>Cn rfl underlying92 AW (vl rfl) (vl rfl) (by omega) (by omega)) ?_))))))))
 refine Cx.ef 0 rfl rfl (by decide) (CN rfl rfl (by decide) rfl underlying92 AW HS G2 rfl (by decide) (Kf rfl) (vl rfl) (by simp;unfold maxLen;omega) (by simp;omega) (Bx (by exact List.Mem.head _) (vl rfl))) ?_
 refine xo rfl (fun _=>AO rfl BD AW (vl rfl) rfl rfl) (xo rfl (fun _=>AM (xs:=[.tmp 40]) (rows:=[_]) rfl rfl underlying92 AW G2 rfl (by decide) ⟨⟨(by exact rfl),(Va rfl)⟩,trivial⟩ (by decide)) ?_)
 refine Cx.ef 0 rfl rfl (by decide) (CN rfl rfl (by decide) rfl underlying92 AW HS G2 rfl (by decide) (vl rfl) (Kf rfl) (by simp;unfold maxLen;omega) (by simp;omega) EL) ?_
 refine xm rfl (xm rfl (xo rfl (fun _=>B1 rfl underlying92 AW (vl rfl) (vl rfl) (by omega) (by omega)) ?_))
 refine Cx.ef 0 rfl rfl (by decide) (CN rfl rfl (by decide) rfl underlying92 AW HS G2 rfl (by decide) (vl rfl) (vl rfl) (by simp;unfold maxLen;omega) (by simp;omega) EL) ?_
 refine Cx.ef 0 rfl rfl (by decide) (E7 rfl rfl (by decide) rfl (vl rfl)) ?_
 refine Cx.nil ⟨rfl,?_⟩
 refine A9.open_ 0 4 rfl rfl (fun v3=> ?_)
 refine A9.done (CB.cons (CB.map _)) (Fin.go (DD 4 rfl (Tr.ret (Fin.LX rfl (Ct.F5 _ _) rfl ?_))))
 · exfalso;omega
 iterate 8 refine cnt h5 rfl ?_
 refine co rfl (SJ rfl rfl h5 rfl) (Ch.nil (Fin.go (Ez 0 3 5 33 rfl (Tr.cond rfl (fun h=>nomatch h) (fun _=> ?_)))))
 refine Tr.skip (Fin.go (Tr.seq (Tr.pad (Tr.Jv mixed [none,none,none,none,some (0,0,true,39),none,none,some (39,0,true,42),none,none,none,some (42,0,true,46),some (46,0,true,4)] (by kernel_rfl) (xo rfl (fun _=>AM (xs:=[]) (rows:=[]) rfl rfl underlying92 AW G2 rfl (by decide) trivial (by decide)) (xm rfl (xm rfl (xo rfl (fun _=>Cn rfl underlying92 AW (vl rfl) (vl rfl) (by omega) (by omega)) ?_))))))))
 refine Cx.ef 0 rfl rfl (by decide) (CN rfl rfl (by decide) rfl underlying92 AW HS G2 rfl (by decide) (Kf rfl) (vl rfl) (by simp;unfold maxLen;omega) (by simp;omega) (Bx (by exact List.Mem.head _) (vl rfl))) ?_
 refine xo rfl (fun _=>AO rfl BD AW (vl rfl) rfl rfl) (xo rfl (fun _=>AM (xs:=[.tmp 40]) (rows:=[_]) rfl rfl underlying92 AW G2 rfl (by decide) ⟨⟨(by exact rfl),(Va rfl)⟩,trivial⟩ (by decide)) ?_)
 refine Cx.ef 0 rfl rfl (by decide) (CN rfl rfl (by decide) rfl underlying92 AW HS G2 rfl (by decide) (vl rfl) (Kf rfl) (by simp;unfold maxLen;omega) (by simp;omega) EL) ?_
 refine xm rfl (xm rfl (xo rfl (fun _=>B1 rfl underlying92 AW (vl rfl) (vl rfl) (by omega) (by omega)) ?_))
 refine Cx.ef 0 rfl rfl (by decide) (CN rfl rfl (by decide) rfl underlying92 AW HS G2 rfl (by decide) (vl rfl) (vl rfl) (by simp;unfold maxLen;omega) (by simp;omega) EL) ?_
 refine Cx.ef 0 rfl rfl (by decide) (E7 rfl rfl (by decide) rfl (vl rfl)) ?_
 refine Cx.nil ⟨rfl,?_⟩
 refine A9.open_ 0 4 rfl rfl (fun v4=> ?_)
 refine A9.done (CB.cons (CB.map _)) (Fin.go (DD 4 rfl (Tr.ret (Fin.LX rfl (Ct.F5 _ _) rfl ?_))))
 · rw [RB (Wx hk hgt (.inl (by omega))) (.inl (by omega))];exact Pr.le_trans (Ar _ _) (Pr.le_of_eq (by show slice 11 _=slice 11 _;rw [Int.toNat_natCast,List.map_append,List.map_append,List.map_take,List.map_drop,List.nil_append];rfl))
theorem cw (l:List A0) (f:A0):kF l f≤l.length:=by
 unfold kF
 have:=(List.dropWhile_sublist (l:=l.reverse) (fun x=>decide (0<FG x f))).length_le
 simpa using this
theorem Wz (l:List A0) (f:A0):(Ft l f).length≤l.length+1:=by
 have:=cw l f
 unfold Ft;split
 · omega
 · simp;omega
theorem RC:∀(l acc:List A0),(l.foldl Ft acc).length≤acc.length+l.length
 |[],acc=>by simp
 |f::l,acc=>by
  have h1:=RC l (Ft acc f)
  have h2:=Wz acc f
  rw [List.foldl_cons,List.length_cons];omega
theorem Ob {l:List A0} {k:Nat} {x:A0} (hx:l[k]? =some x):Ft ((l.take k).foldl Ft []) x=(l.take (k+1)).foldl Ft []:=by
 rw [List.take_add_one,hx,List.foldl_append];rfl
theorem Oc (l:List A0) (k:Nat):((l.take k).foldl Ft []).length≤k:=by
 have:=RC (l.take k) []
 have h2:=List.length_take_le k l
 simp at this;omega
theorem Ur {l:List A0} (hc:∀f∈l,B2 f=true) (hl:l.length≤400):A4 prog 157 [Dq l] (Eu [Dq (l.foldl Ft []),int 0]):=by
 refine fo func157 rfl ⟨rfl,rfl⟩ fun M0 w0=> ?_
 refine a2 ?_
 refine Tr.block (Tr.BW [(0,_)] ⟨ke rfl,trivial⟩ (fun k:Nat=>[(4,int ((k:Nat):Int))]) (fun k:Nat=>k≤(l).length) (fun k:Nat=>(l).length-k) 0 (Nat.zero_le _) ⟨ke rfl,trivial⟩ ?_)
 rintro k Bk
 refine an ?_ ?_<;>intro h1 q1
 have Ao:k<(l).length:=AZ h1
 obtain ⟨x,An⟩:=at_ Ao
 · repeat' first|exact absurd (if_pos (hc x (List.mem_of_getElem? An))) q|exact Fin.AG (k+1) ⟨Ao,by omega⟩ ⟨⟨_,rfl,AS k⟩,ke rfl,trivial⟩|refine co rfl (AB rfl underlying92 AW (vl rfl) (vl rfl) (by omega) (by exact Ak (by assumption))) ?_|refine co rfl (AO rfl BD AW (vl rfl) rfl rfl) (co rfl (Bq (NM) rfl rfl) ?_)|refine ac ?_|(refine Tr.cn rfl ?_ ?_<;>intro h q)
 have BQ:k=(l).length:=by have:=Aa h1;omega
 subst BQ
 refine a3 ?_
 refine Tr.block (Tr.BW [(0,_)] ⟨ke rfl,trivial⟩ (fun m:Nat=>[(7,int ((m:Nat):Int)),(6,Dq ((l.take m).foldl Ft []))]) (fun m:Nat=>m≤(l).length) (fun m:Nat=>(l).length-m) 0 (Nat.zero_le _) ⟨ke rfl,⟨_,rfl,AD 11⟩,trivial⟩ ?_)
 rintro m W0
 refine an ?_ ?_<;>intro h3 q3
 have NP:m<(l).length:=AZ h3
 obtain ⟨y,KA⟩:=at_ NP
 · repeat' first|(exfalso;rw [Ob KA] at q;have:=Oc l (m+1);omega)|exact Fin.AG (m+1) ⟨NP,by omega⟩ ⟨⟨_,rfl,AS m⟩,⟨_,rfl,Pr.le_of_eq (by rw [Ob KA])⟩,ke rfl,trivial⟩|refine co rfl (AB rfl underlying92 AW (vl rfl) (vl rfl) (by omega) (by exact Ak (by assumption))) ?_|refine co rfl (AO rfl BD AW (vl rfl) rfl rfl) ?_|(refine co rfl (Dc (mu (l:=(l.take m).foldl Ft []) (f:=y) (by have:=Oc l m;omega)) rfl rfl rfl) ?_)|refine ac ?_|(refine Tr.cn rfl ?_ ?_<;>intro h q)
 have Sj:m=(l).length:=by have:=Aa h3;omega
 subst Sj
 refine a2 ?_
 refine Tr.ret (Fin.Fz rfl (Ct.F5 _ _) rfl ?_ rfl ?_)
 · exact Pr.le_of_eq (by rw [List.take_length])
 · exact Lr
theorem Ey (a b:Int):CH b a= -CH a b:=by unfold CH;by_cases h1:a<b<;>by_cases h2:b<a<;>simp [h1,h2]<;>omega
theorem Tw:∀l:List Int,IC (l.map fun x=> -x)= -IC l
 |[]=>rfl
 |a::l=>by
  have ih:=Tw l
  show (if -a=0 then IC (l.map fun x=> -x) else -a)= -(if a=0 then IC l else a)
  by_cases h:a=0
  · rw [if_pos (by omega),if_pos h,ih]
  · rw [if_neg (by omega),if_neg h]
theorem Us (a b:A0):FG b a= -FG a b:=by
 unfold FG
 rw [←Tw]
 unfold GH
 simp only [List.map_cons,List.map_nil]
 rw [IU a.host b.host,IU a.Eh b.Eh,IU a.text b.text,Ey a.machine,Ey a.day,Ey a.kind,Ey a.BO,Ey a.bits,Ey a.num,Ey a.src,Ey a.E0]
theorem Ig {β:Type} {p:β→Bool}:∀(l:List β),∃m,l=m++l.dropWhile p∧(∀x∈m,p x=true)∧∀y r,l.dropWhile p=y::r→p y=false
 |[]=>⟨[],rfl,by simp,fun y r h=>by cases h⟩
 |a::l=>by
  by_cases h:p a=true
  ·
   obtain ⟨m,h1,h2,h3⟩:=Ig (p:=p) l
   refine ⟨a::m,?_,?_,?_⟩
   · rw [List.dropWhile_cons_of_pos h,List.cons_append,←h1]
   ·
    intro x hx
    rcases List.mem_cons.1 hx with rfl|hx
    · exact h
    · exact h2 x hx
   · intro y r hy;rw [List.dropWhile_cons_of_pos h] at hy;exact h3 y r hy
  ·
   refine ⟨[],?_,by simp,?_⟩
   · rw [List.dropWhile_cons_of_neg h];rfl
   · intro y r hy;rw [List.dropWhile_cons_of_neg h] at hy;injection hy with h1 _;subst h1;simpa using h
theorem Zr (l:List A0) (f:A0):(∀y,l[kF l f]? =some y→0<FG y f)∧(∀x,0<kF l f→l[kF l f-1]? =some x→FG x f≤0):=by
 obtain ⟨m,h1,h2,h3⟩:=Ig (p:=fun x=>decide (0<FG x f)) l.reverse
 have hk:kF l f=(l.reverse.dropWhile fun x=>decide (0<FG x f)).length:=rfl
 generalize l.reverse.dropWhile (fun x=>decide (0<FG x f))=d at*
 have hl:l=d.reverse++m.reverse:=by rw [←List.reverse_append,←h1,List.reverse_reverse]
 refine ⟨fun y hy=> ?_,fun x h0 hx=> ?_⟩
 ·
  rw [hk,hl,List.getElem?_append_right (by simp)] at hy
  have:=h2 y (by have:=List.mem_of_getElem? hy;simpa using this)
  simpa using this
 ·
  cases d with
  |nil=>rw [hk] at h0;cases h0
  |cons y r=>
   have hx2:x=y:=by
    rw [hk,hl,List.getElem?_append_left (by simp)] at hx
    rw [List.reverse_cons,List.getElem?_append_right (by simp)] at hx
    simpa using hx.symm
   have:=h3 y r rfl
   rw [hx2];simpa using this
theorem Zs {l:List A0} (f:A0) (h:Zq l):Zq (Ft l f):=by
 obtain ⟨h1,h2⟩:=Zr l f
 have hk:=cw l f
 unfold Ft
 split
 · exact h
 ·
  rename_i hn
  generalize kF l f=k at*
  have hlen:(l.take k).length=k:=by rw [List.length_take];omega
  intro j a b ha hb
  rw [List.append_assoc] at ha hb
  rcases Nat.lt_trichotomy (j+1) k with hj|hj|hj
  ·
   rw [List.getElem?_append_left (by omega),List.getElem?_take,if_pos (by omega)] at ha
   rw [List.getElem?_append_left (by omega),List.getElem?_take,if_pos (by omega)] at hb
   exact h j a b ha hb
  ·
   rw [List.getElem?_append_left (by omega),List.getElem?_take,if_pos (by omega)] at ha
   rw [List.getElem?_append_right (by omega),hlen,show j+1-k=0 by omega] at hb
   simp at hb;subst hb
   have ha':l[k-1]? =some a:=by rw [show k-1=j by omega];exact ha
   have h3:=h2 a (by omega) ha'
   rcases Int.lt_or_eq_of_le h3 with h4|h4
   · exact h4
   · exact absurd ⟨by omega,by rw [ha'];simp [h4]⟩ hn
  ·
   rcases Nat.eq_or_lt_of_le (Nat.le_of_lt_succ hj) with hj2|hj2
   ·
    rw [List.getElem?_append_right (by omega),hlen,show j-k=0 by omega] at ha
    simp at ha;subst ha
    rw [List.getElem?_append_right (by omega),hlen,show j+1-k=1 by omega] at hb
    simp at hb
    have:=h1 b (by simpa using hb)
    rw [Us b f];omega
   ·
    rw [List.getElem?_append_right (by omega),hlen,show j-k=(j-k-1)+1 by omega] at ha
    rw [List.getElem?_append_right (by omega),hlen,show j+1-k=(j-k)+1 by omega] at hb
    simp at ha hb
    exact h (j-1) a b (by rw [show j-1=k+(j-k-1) by omega];exact ha) (by rw [show j-1+1=k+(j-k) by omega];exact hb)
theorem Zt {l:List A0} {f x:A0} (h:x∈Ft l f):x∈l∨x=f:=by
 unfold Ft at h
 split at h
 · exact .inl h
 ·
  simp only [List.mem_append,List.mem_singleton] at h
  rcases h with (h|h)|h
  · exact .inl (List.mem_of_mem_take h)
  · exact .inr h
  · exact .inl (List.mem_of_mem_drop h)
theorem RD:∀(l acc:List A0),Zq acc→Zq (l.foldl Ft acc)
 |[],_,h=>h
 |f::l,acc,h=>RD l _ (Zs f h)
theorem Zu {a b:Int}  :A4 prog 291 [int a,int b] (bool (decide (a<b))):=by
 refine fo func291 rfl ⟨rfl,rfl⟩ fun M0 w0=> ?_
 · repeat' first|exact absurd h (by decide)|exact Lr|refine co rfl (Bq (Q7) rfl rfl) (cm rfl ?_)|refine ac ?_|(refine Ch.cg rfl rfl rfl ?_ ?_<;>intro h q)
theorem Zv {l:List UInt8} {x:Nat} {y:Int} {hl:x<l.length} (h:(List.range 256).all (fun i=>match l[i]? with|some b=>decide (b.toNat≤8∧(1≤i→2 ^ b.toNat≤2*i))|none=>true)=true) (hx:x<256) (hy:(x:Int)=y):
  0≤IntKind.i64.wrap (IntKind.i64.wrap ((l[x]).toNat:Int))∧IntKind.i64.wrap (IntKind.i64.wrap ((l[x]).toNat:Int))≤8∧(1≤y→((2 ^ (IntKind.i64.wrap (IntKind.i64.wrap ((l[x]).toNat:Int))).toNat:Nat):Int)≤2*y):=by
 subst hy
 have h1:=List.all_eq_true.1 h x (List.mem_range.2 hx)
 rw [List.getElem?_eq_getElem hl] at h1
 have h1:=of_decide_eq_true h1
 have hb:(l[x]).toNat<256:=UInt8.toNat_lt _
 have hw:=IntWalk.i64_in ((l[x]).toNat:Int) ⟨by omega,by omega⟩
 rw [hw,hw,Int.toNat_natCast]
 exact ⟨by omega,by omega,fun hx1=>by have:=h1.2 (by omega);omega⟩
theorem W1 {x:Int} (h0:0≤x) (h1:x<256):A4 prog 279 [is (.int .u64 x)] (ex fun k:Int=>fact (0≤k∧k≤8∧(1≤x→((2 ^ k.toNat:Nat):Int)≤2*x)) (int k)):=by
 refine fo func279 rfl ⟨rfl,rfl⟩ fun M0 w0=> ?_
 have hw:IntKind.u8.wrap x=x:=IntWalk.u8_in x ⟨by omega,by omega⟩
 refine ac ?_
 refine an ?_ ?_<;>intro h1 q1
 exfalso;omega
 refine ac ?_
 refine an ?_ ?_<;>intro h2 q2
 exfalso;omega
 refine ac ?_
 refine an ?_ ?_<;>intro h3 q3
 exfalso;omega
 refine a2 ?_
 refine co rfl (C0 rfl underlying285 underlying5 (vl rfl)) ?_
 refine co rfl (Lu rfl underlying9 (vl rfl) (vl rfl) (by omega) (List.getElem?_eq_getElem (by show _<256;omega))) ?_
 refine co rfl (C0 rfl underlying5 underlying3 (vl rfl)) ?_
 refine ac ?_
 refine DD 2 rfl ?_
 refine ac ?_
 · refine A5 _ (A2 ?_ (Lr));rw [Int.zero_add];refine Zv ?_ (by omega) (by omega);decide+kernel
theorem Pk {x:Int} (h0:0≤x) (h1:x<256):A4 prog 228 [is (.int .u64 x)] (ex fun k:Int=>fact (0≤k∧k≤8∧(1≤x→((2 ^ k.toNat:Nat):Int)≤2*x)) (int k)):=by
 refine fo func228 rfl ⟨rfl,rfl⟩ fun M0 w0=> ?_
 refine a3 ?_
 refine co rfl (Bq (W1 (by omega) (by omega)) rfl rfl) ?_
 refine a2 ?_
 · exact Lr
theorem fS {x:Int} (h0:1≤x) (h1:x<256):A4 prog 295 [int x] (ex fun m:Int=>fact (1≤m∧m≤2*x) (is (.int .u64 m))):=by
 refine fo func295 rfl ⟨rfl,rfl⟩ fun M0 w0=> ?_
 have hw:IntKind.u64.wrap x=x:=IntWalk.u64_in x ⟨by omega,by omega⟩
 refine ac ?_
 refine ap ?_
 refine tp rfl (C0 rfl underlying3 underlying251 (vl rfl)) (tp rfl (Bq (Pk (by omega) (by omega)) rfl rfl) ?_)
 refine TO.ex 5 rfl (fun k=>TO.fact 5 rfl fun hk=> ?_)
 obtain ⟨hk1,hk2,YW⟩:=hk
 refine tp rfl (ZN rfl (vl rfl) (vl rfl) (by omega) (by omega) (YW (by omega))) ?_
 refine ap ?_
 refine ac ?_
 · exact fun M w v ⟨r,h,hv⟩=>⟨r,by rw [hw] at h;exact h,hv⟩
theorem Zw {xb:Nat}  :BE prog 296 [is (.pointer (some ⟨xb,0,none⟩))] (C4 .u64) (AA true xb 294 [C4 .u64]) (fun _=>AA true xb 294 [C4 .u64]):=by
 refine BE.of func296 rfl rfl (by exact Nb rfl) fun M0 w0 S rs M1 w1=> ?_
 refine ac ?_
 refine Tr.seq (Tr.rx ?_)
 refine ay ?_
 refine xo rfl (fun _=>SU (by decide) rfl (vl rfl) (vl rfl) (by decide)) (xo rfl (fun _=>Lw (by decide) rfl (vl rfl) (vl rfl)) ?_)
 refine ay ?_
 refine Cx.nil ⟨by kernel_rfl,?_⟩
 refine A9.done KP (Fin.go (Tr.seq (Tr.rx ?_)))
 refine ay ?_
 refine xo rfl (fun _=>SU (by decide) rfl (vl rfl) (vl rfl) (by decide)) (xo rfl (fun _=>Lw (by decide) rfl (vl rfl) (vl rfl)) ?_)
 refine ay ?_
 refine Cx.nil ⟨by kernel_rfl,?_⟩
 refine A9.done KP (Fin.go (DD 0 rfl (Tr.seq (Tr.rx ?_))))
 refine ay ?_
 refine xo rfl (fun _=>SU (by decide) rfl (vl rfl) (vl rfl) (by decide)) (xo rfl (fun _=>Lw (by decide) rfl (vl rfl) (vl rfl)) ?_)
 refine ay ?_
 refine Cx.nil ⟨by kernel_rfl,?_⟩
 refine A9.done KP (Fin.go ?_)
 refine ac ?_
 refine DD 2 rfl (Tr.ret (Fin.Dz rfl rfl ?_ (fun _ _ _ _=>rfl)))
 · exact Lr
instance:Inhabited A0:=⟨⟨0,[],0,0,0,0,[],0,0,0,[]⟩⟩
theorem Zx {l:List A0} {c:A0×A0→Int} {b0 cap len:Nat} {sp:List Value} {a b:Int} (Kt:l.length=len) (F8:len≤1000000) (hw:Go.Sort.SWO (Cs c)) (h0:0≤a) (hab:a≤b) (hb:b≤len):BE prog 270 [is (.slice (some ⟨b0,0,none⟩) len cap),int a,int b,G1 prog (fun x:A0×A0=>[agg (Ad x.1),agg (Ad x.2)]) (fun x=>int (c x))] (FJ) (AA true b0 96 ((l.map Ad).flatten++sp.map is)) (fun _=>D4 b0 96 Ad (Fp c a b l) (sp.map is)):=by
 refine BE.of func270 rfl rfl (by exact Nb rfl) fun M0 w0 S rs M1 w1=> ?_
 refine ac ?_
 refine Tr.block (Tr.Fl [(0,_),(1,_),(2,_),(3,_)] ⟨ke rfl,ke rfl,ke rfl,ke rfl,trivial⟩ (fun (i:Int) (st:List A0)=>[(8,int i)]) (fun (i:Int) (st:List A0)=>Hp M0 w0 S (AA true b0 96 ((st.map Ad).flatten++sp.map is)::Bc M1 w1::rs)) (fun (i:Int) (st:List A0)=>a<i∧st.length=len∧Go.Sort.insOuter (Cs c) a.toNat b.toNat i.toNat st.toArray=Go.Sort.insertionSort (Cs c) l.toArray a.toNat b.toNat) (fun (i:Int) (st:List A0)=>(b-i).toNat) (a+1) (l)  (⟨by omega,by omega,SV h0⟩) ⟨ke rfl,trivial⟩ (fun _ _ h=>h) ?_)
 rintro i st  ⟨hi1,Nq,IV⟩
 refine an ?_ ?_<;>intro h1 q1
 have hib:i<b:=of_decide_eq_true h1
 refine a2 ?_
 refine Tr.block (Tr.Fl [(0,_),(1,_),(2,_),(3,_),(8,_)] ⟨ke rfl,ke rfl,ke rfl,ke rfl,ke rfl,trivial⟩ (fun (j:Int) (KQ:List A0)=>[(9,int j)]) (fun (j:Int) (KQ:List A0)=>Hp M0 w0 S (AA true b0 96 ((KQ.map Ad).flatten++sp.map is)::Bc M1 w1::rs)) (fun (j:Int) (KQ:List A0)=>(a≤j∧j≤i)∧KQ.length=len∧Go.Sort.insInner (Cs c) a.toNat j.toNat KQ.toArray=Go.Sort.insInner (Cs c) a.toNat i.toNat st.toArray) (fun (j:Int) (KQ:List A0)=>(j-a).toNat) (i) (st)  (⟨⟨by omega,by omega⟩,Nq,rfl⟩) ⟨ke rfl,trivial⟩ (fun _ _ h=>h) ?_)
 rintro j KQ  ⟨⟨ZM,hj2⟩,W2,Sk⟩
 refine ag ?_ ?_<;>intro h2 q2
 refine ac ?_
 refine cy h2 rfl (AH rfl underlying92 AW (vl rfl) (vl rfl) (by omega) (by omega)) (cy h2 rfl (Az 0 rfl (AQ rfl BD AW (vl rfl) (Am (f:=Ad) (fun _=>rfl) (by omega)) rfl)) ?_)
 refine ac ?_
 refine cy h2 rfl (AH rfl underlying92 AW (vl rfl) (vl rfl) (by omega) (by omega)) (cy h2 rfl (Az 0 rfl (AQ rfl BD AW (vl rfl) (Am (f:=Ad) (fun _=>rfl) (by omega)) rfl)) (cy h2 rfl (BN (_,_) rfl (vl rfl) ⟨ke rfl,ke rfl,trivial⟩) ?_))
 refine ac ?_
 refine Mi 0 1 2 3 8 9 34 rfl ?_
 refine Tr.cn rfl ?_ ?_<;>intro h3 q3
 have:=h3
 refine ac ?_
 refine Tr.seq (Tr.block (Tr.rx ?_))
 refine ay ?_
 refine xo rfl (fun _=>AH rfl underlying92 AW (vl rfl) (vl rfl) (by omega) (by omega)) (Ev 0 rfl rfl (AQ rfl BD AW (vl rfl) (Am (f:=Ad) (fun _=>rfl) (by omega)) rfl) ?_)
 refine ay ?_
 refine xo rfl (fun _=>AH rfl underlying92 AW (vl rfl) (vl rfl) (by omega) (by omega)) (Ev 0 rfl rfl (AQ rfl BD AW (vl rfl) (Am (f:=Ad) (fun _=>rfl) (by omega)) rfl) (xo rfl (fun _=>AH rfl underlying92 AW (vl rfl) (vl rfl) (by omega) (by omega)) ?_))
 refine Cx.CT 0 rfl rfl (Ab rfl rfl (vl rfl) (Va rfl) AW rfl (by rw [BU (sz:=11) (fun _=>rfl)];omega) (BP (f:=Ad) (fun _=>rfl) (by omega))) ?_
 refine xo rfl (fun _=>AH rfl underlying92 AW (vl rfl) (vl rfl) (by omega) (by omega)) ?_
 refine Cx.CT 0 rfl rfl (Ab rfl rfl (vl rfl) (Va rfl) AW rfl (by rw [BU (sz:=11) (fun _=>rfl)];simp only [List.length_set];omega) (BP (f:=Ad) (fun _=>rfl) (by simp only [List.length_set];omega))) ?_
 refine Cx.nil ⟨by kernel_rfl,?_⟩
 refine A9.done KP ?_
 refine ac ?_
 refine GS 0 1 2 3 8 9 rfl ?_
 refine ac ?_
 exact Fin.EN (j-1) (_)  (⟨⟨⟨by omega,by omega⟩,by simp only [List.length_set];exact W2,by rw [ej h0 (by omega) rfl (by omega) (by omega) (by assumption)];exact Sk⟩,by omega⟩) ⟨ke rfl,ke rfl,ke rfl,ke rfl,ke rfl,ke rfl,trivial⟩ (fun _ _ h=>h)
 have:=h3
 refine a2 ?_
 have fT:KQ.toArray=Go.Sort.insInner (Cs c) a.toNat j.toNat KQ.toArray:=by exact UY h0 (by omega) rfl (by omega) (by omega) (Int.not_lt.2 (by assumption))
 exact Fin.EN (i+1) (KQ)  (⟨⟨by omega,W2,by rw [←IV,←Tm (by omega) hib,←Sk];exact congrArg _ fT⟩,by omega⟩) ⟨ke rfl,ke rfl,ke rfl,ke rfl,ke rfl,trivial⟩ (fun _ _ h=>h)
 refine ac ?_
 refine Mi 0 1 2 3 8 9 34 rfl ?_
 refine a2 ?_
 have fT:KQ.toArray=Go.Sort.insInner (Cs c) a.toNat j.toNat KQ.toArray:=by exact UX h0 (by omega)
 exact Fin.EN (i+1) (KQ)  (⟨⟨by omega,W2,by rw [←IV,←Tm (by omega) hib,←Sk];exact congrArg _ fT⟩,by omega⟩) ⟨ke rfl,ke rfl,ke rfl,ke rfl,ke rfl,trivial⟩ (fun _ _ h=>h)
 have hib:¬i<b:=of_decide_eq_false h1
 rw [UZ (by omega) hib] at IV
 refine Tr.exit (Fin.Ai (Fin.Ai (Fin.BA ?_)))
 refine Fin.Dn (Fp c a b l) 0 rfl (by unfold Fp;rw [IV];exact Go.Sort.insertionSort_holds hw l.toArray a.toNat b.toNat (by omega) (by simp only [List.size_toArray];omega)) ?_
 exact Fin.Mt rfl
theorem RE {l:List A0} {c:A0×A0→Int} {b0 cap len:Nat} {sp:List Value} {lo hi first:Int} (Kt:l.length=len) (F8:len≤1000000) (h0:0≤lo) (hlo:lo≤len) (hf:0≤first) (hb:first+hi≤len):BE prog 294 [is (.slice (some ⟨b0,0,none⟩) len cap),int lo,int hi,int first,G1 prog (fun x:A0×A0=>[agg (Ad x.1),agg (Ad x.2)]) (fun x=>int (c x))] (FJ) (AA true b0 96 ((l.map Ad).flatten++sp.map is)) (fun _=>D4 b0 96 Ad (M9 c hi first lo l) (sp.map is)):=by
 refine BE.of func294 rfl rfl (by exact Nb rfl) fun M0 w0 S rs M1 w1=> ?_
 refine Tr.seq (Tr.B_ (cm rfl (cm rfl (Ch.nil (Fin.go (Tr.block (Tr.Fl [(0,_),(2,_),(3,_),(4,_)] ⟨ke rfl,ke rfl,ke rfl,ke rfl,trivial⟩ (fun (r:Int) (st:List A0)=>[(10,int r)]) (fun (r:Int) (st:List A0)=>Hp M0 w0 S (AA true b0 96 ((st.map Ad).flatten++sp.map is)::Bc M1 w1::rs)) (fun (r:Int) (st:List A0)=>(0≤r∧r≤1000000)∧st.length=len∧Go.Sort.siftDown (Cs c) hi.toNat first.toNat r.toNat st.toArray=Go.Sort.siftDown (Cs c) hi.toNat first.toNat lo.toNat l.toArray) (fun (r:Int) (st:List A0)=>(hi-r).toNat) (lo) (l)  (⟨⟨by omega,by omega⟩,by omega,rfl⟩) ⟨ke rfl,trivial⟩ (fun _ _ h=>h) ?_)))))))
 rintro r st  ⟨⟨jE,hO⟩,Nq,IV⟩
 refine Tr.block (Tr.seq (Tr.B_ (cm rfl ?_)))
 refine co rfl (KZ rfl (vl rfl) (vl rfl) ?hin) ?_;case hin=>unfold GP;omega
 refine QW rfl rfl rfl rfl (by omega) (cm rfl (Ch.nil (Fin.go (Tr.seq (Tr.seq (Tr.B_ (cm rfl (cm rfl (co rfl (ki rfl rfl rfl rfl) (Ch.nil (Fin.go ?_)))))))))))
 refine Tr.cn rfl ?_ ?_<;>intro h1 q1
 refine Tr.exit (Fin.Ai (Fin.Jt rfl (Fin.Ai (Fin.BA ?_))))
 refine Fin.Dn (M9 c hi first lo l) 0 rfl (⟨by omega,by rw [←IV];exact WM (by omega) (by omega)⟩) ?_
 exact Fin.Mt rfl
 refine Tr.skip (Fin.go (Tr.seq (Tr.seq (Tr.MT mixed (by kernel_rfl) (cm rfl (QW rfl rfl rfl rfl (by omega) (cm rfl (co rfl (ki rfl rfl rfl rfl) (cm rfl ?_)))))))))
 refine Ch.cs 23 rfl ?_ ?_<;>intro h2 q2
 iterate 4 refine II h2 rfl ?_
 refine cy h2 rfl (Cu rfl (vl rfl) (vl rfl) ?hin) ?_;case hin=>unfold GP;omega
 refine cy h2 rfl (AH rfl underlying92 AW (vl rfl) (vl rfl) (by omega) (by omega)) (cy h2 rfl (Az 0 rfl (AQ rfl BD AW (vl rfl) (Am (f:=Ad) (fun _=>rfl) (by omega)) rfl)) (II h2 rfl (II h2 rfl (II h2 rfl ?_))))
 refine cy h2 rfl (Cu rfl (vl rfl) (vl rfl) ?hin) ?_;case hin=>unfold GP;omega
 refine cy h2 rfl (Cu rfl (vl rfl) (vl rfl) ?hin) ?_;case hin=>unfold GP;omega
 refine cy h2 rfl (AH rfl underlying92 AW (vl rfl) (vl rfl) (by omega) (by omega)) (cy h2 rfl (Az 0 rfl (AQ rfl BD AW (vl rfl) (Am (f:=Ad) (fun _=>rfl) (by omega)) rfl)) (cy h2 rfl (BN (_,_) rfl (vl rfl) ⟨ke rfl,ke rfl,trivial⟩) (cy h2 rfl (ki rfl rfl rfl rfl) (co rfl (Vf rfl rfl h2 rfl) (Ch.nil (Fin.go (Mi 0 2 3 4 10 11 40 rfl ?_)))))))
 refine Tr.cn rfl ?_ ?_<;>intro h3 q3
 refine Tr.B_ (cm rfl (QW rfl rfl rfl rfl (by omega) (cm rfl (Ch.nil (Fin.go (Tr.seq (Tr.seq (Tr.MT mixed (by kernel_rfl) ?_))))))))
 iterate 4 refine cm rfl ?_
 refine QW rfl rfl rfl rfl (by omega) (co rfl (AH rfl underlying92 AW (vl rfl) (vl rfl) (by omega) (by omega)) (co rfl (Az 0 rfl (AQ rfl BD AW (vl rfl) (Am (f:=Ad) (fun _=>rfl) (by omega)) rfl)) (cm rfl (cm rfl (cm rfl (QW rfl rfl rfl rfl (by omega) (co rfl (AH rfl underlying92 AW (vl rfl) (vl rfl) (by omega) (by omega)) (co rfl (Az 0 rfl (AQ rfl BD AW (vl rfl) (Am (f:=Ad) (fun _=>rfl) (by omega)) rfl)) (co rfl (BN (_,_) rfl (vl rfl) ⟨ke rfl,ke rfl,trivial⟩) (co rfl (ki rfl rfl rfl rfl) (co rfl (HK rfl (vl rfl)) (Ch.nil (Fin.go ?_)))))))))))))
 refine Mi 0 2 3 4 10 11 58 rfl ?_
 refine Tr.cn rfl ?_ ?_<;>intro h4 q4
 refine Tr.ret (Fin.AJ (Fin.Au (Fin.AJ (Fin.Au ?_))))
 refine Fin.Dn (M9 c hi first lo l) 0 rfl (⟨by omega,by rw [←IV];exact SW jE hf (by omega) (u:=first+(2*r+1)) (v:=first+(2*r+1)+1) rfl rfl (by omega) (by omega) (by assumption) (x:=first+r) (y:=first+(2*r+1+1)) rfl rfl (by omega) (by omega) (Int.not_lt.2 (by assumption))⟩) ?_
 exact Fin.Kl rfl
 refine Tr.skip (Fin.go (Tr.seq (Tr.Jv mixed [none,none,none,none,none,none,none,none,none,none,none,none,none,some (0,0,false,0),none,none,none,none,none,some (0,0,false,0),none,some (0,0,true,0),none,some (0,0,true,0)] (by kernel_rfl) (xm rfl (xm rfl (xm rfl ?_))))))
 refine xo rfl (fun _=>Cu rfl (vl rfl) (vl rfl) ?hin) ?_;case hin=>unfold GP;omega
 refine xm rfl (xm rfl (xm rfl ?_))
 refine xo rfl (fun _=>Cu rfl (vl rfl) (vl rfl) ?hin) ?_;case hin=>unfold GP;omega
 refine xm rfl (xm rfl (xm rfl ?_))
 refine xo rfl (fun _=>Cu rfl (vl rfl) (vl rfl) ?hin) ?_;case hin=>unfold GP;omega
 refine xo rfl (fun _=>AH rfl underlying92 AW (vl rfl) (vl rfl) (by omega) (by omega)) (Ev 0 rfl rfl (AQ rfl BD AW (vl rfl) (Am (f:=Ad) (fun _=>rfl) (by omega)) rfl) (xm rfl (xm rfl (xm rfl ?_))))
 refine xo rfl (fun _=>Cu rfl (vl rfl) (vl rfl) ?hin) ?_;case hin=>unfold GP;omega
 refine xo rfl (fun _=>AH rfl underlying92 AW (vl rfl) (vl rfl) (by omega) (by omega)) (Ev 0 rfl rfl (AQ rfl BD AW (vl rfl) (Am (f:=Ad) (fun _=>rfl) (by omega)) rfl) (xo rfl (fun _=>AH rfl underlying92 AW (vl rfl) (vl rfl) (by omega) (by omega)) ?_))
 refine Cx.CT 0 rfl rfl (Ab rfl rfl (vl rfl) (Va rfl) AW rfl (by rw [BU (sz:=11) (fun _=>rfl)];omega) (BP (f:=Ad) (fun _=>rfl) (by omega))) ?_
 refine xo rfl (fun _=>AH rfl underlying92 AW (vl rfl) (vl rfl) (by omega) (by omega)) ?_
 refine Cx.CT 0 rfl rfl (Ab rfl rfl (vl rfl) (Va rfl) AW rfl (by rw [BU (sz:=11) (fun _=>rfl)];simp only [List.length_set];omega) (BP (f:=Ad) (fun _=>rfl) (by simp only [List.length_set];omega))) ?_
 refine Cx.nil ⟨rfl,?_⟩
 refine A9.done (CB.cons (CB.cons (CB.map _))) (Fin.go (EM 0 2 3 4 11 rfl (Tr.B_ (cm rfl (cm rfl (Ch.nil (Fin.block ?_)))))))
 exact Fin.EN (2*r+1+1) (_)  (⟨⟨⟨by omega,by omega⟩,by simp only [List.length_set];exact Nq,by rw [←IV];exact WO jE hf (by omega) (u:=first+(2*r+1)) (v:=first+(2*r+1)+1) rfl rfl (by omega) (by omega) (by assumption) (by omega) (by omega) (by omega) (by omega) (by assumption)⟩,by omega⟩) ⟨ke rfl,ke rfl,ke rfl,ke rfl,ke rfl,trivial⟩ (fun _ _ h=>h)
 refine Tr.skip (Fin.go (Tr.seq (Tr.seq (Tr.MT mixed (by kernel_rfl) ?_))))
 iterate 4 refine cm rfl ?_
 refine QW rfl rfl rfl rfl (by omega) (co rfl (AH rfl underlying92 AW (vl rfl) (vl rfl) (by omega) (by omega)) (co rfl (Az 0 rfl (AQ rfl BD AW (vl rfl) (Am (f:=Ad) (fun _=>rfl) (by omega)) rfl)) (cm rfl (cm rfl (cm rfl (QW rfl rfl rfl rfl (by omega) (co rfl (AH rfl underlying92 AW (vl rfl) (vl rfl) (by omega) (by omega)) (co rfl (Az 0 rfl (AQ rfl BD AW (vl rfl) (Am (f:=Ad) (fun _=>rfl) (by omega)) rfl)) (co rfl (BN (_,_) rfl (vl rfl) ⟨ke rfl,ke rfl,trivial⟩) (co rfl (ki rfl rfl rfl rfl) (co rfl (HK rfl (vl rfl)) (Ch.nil (Fin.go ?_)))))))))))))
 refine Mi 0 2 3 4 10 11 58 rfl ?_
 refine Tr.cn rfl ?_ ?_<;>intro h5 q5
 refine Tr.ret (Fin.AJ (Fin.Au (Fin.AJ (Fin.Au ?_))))
 refine Fin.Dn (M9 c hi first lo l) 0 rfl (⟨by omega,by rw [←IV];exact Qx jE hf (by omega) (u:=first+(2*r+1)) (v:=first+(2*r+1)+1) rfl rfl (by omega) (by omega) (Int.not_lt.2 (by assumption)) (x:=first+r) (y:=first+(2*r+1)) rfl rfl (by omega) (by omega) (Int.not_lt.2 (by assumption))⟩) ?_
 exact Fin.Kl rfl
 refine Tr.skip (Fin.go (Tr.seq (Tr.Jv mixed [none,none,none,none,none,none,none,none,none,none,none,none,none,some (0,0,false,0),none,none,none,none,none,some (0,0,false,0),none,some (0,0,true,0),none,some (0,0,true,0)] (by kernel_rfl) (xm rfl (xm rfl (xm rfl ?_))))))
 refine xo rfl (fun _=>Cu rfl (vl rfl) (vl rfl) ?hin) ?_;case hin=>unfold GP;omega
 refine xm rfl (xm rfl (xm rfl ?_))
 refine xo rfl (fun _=>Cu rfl (vl rfl) (vl rfl) ?hin) ?_;case hin=>unfold GP;omega
 refine xm rfl (xm rfl (xm rfl ?_))
 refine xo rfl (fun _=>Cu rfl (vl rfl) (vl rfl) ?hin) ?_;case hin=>unfold GP;omega
 refine xo rfl (fun _=>AH rfl underlying92 AW (vl rfl) (vl rfl) (by omega) (by omega)) (Ev 0 rfl rfl (AQ rfl BD AW (vl rfl) (Am (f:=Ad) (fun _=>rfl) (by omega)) rfl) (xm rfl (xm rfl (xm rfl ?_))))
 refine xo rfl (fun _=>Cu rfl (vl rfl) (vl rfl) ?hin) ?_;case hin=>unfold GP;omega
 refine xo rfl (fun _=>AH rfl underlying92 AW (vl rfl) (vl rfl) (by omega) (by omega)) (Ev 0 rfl rfl (AQ rfl BD AW (vl rfl) (Am (f:=Ad) (fun _=>rfl) (by omega)) rfl) (xo rfl (fun _=>AH rfl underlying92 AW (vl rfl) (vl rfl) (by omega) (by omega)) ?_))
 refine Cx.CT 0 rfl rfl (Ab rfl rfl (vl rfl) (Va rfl) AW rfl (by rw [BU (sz:=11) (fun _=>rfl)];omega) (BP (f:=Ad) (fun _=>rfl) (by omega))) ?_
 refine xo rfl (fun _=>AH rfl underlying92 AW (vl rfl) (vl rfl) (by omega) (by omega)) ?_
 refine Cx.CT 0 rfl rfl (Ab rfl rfl (vl rfl) (Va rfl) AW rfl (by rw [BU (sz:=11) (fun _=>rfl)];simp only [List.length_set];omega) (BP (f:=Ad) (fun _=>rfl) (by simp only [List.length_set];omega))) ?_
 refine Cx.nil ⟨rfl,?_⟩
 refine A9.done (CB.cons (CB.cons (CB.map _))) (Fin.go (EM 0 2 3 4 11 rfl (Tr.B_ (cm rfl (cm rfl (Ch.nil (Fin.block ?_)))))))
 exact Fin.EN (2*r+1) (_)  (⟨⟨⟨by omega,by omega⟩,by simp only [List.length_set];exact Nq,by rw [←IV];exact Ub jE hf (by omega) (u:=first+(2*r+1)) (v:=first+(2*r+1)+1) rfl rfl (by omega) (by omega) (Int.not_lt.2 (by assumption)) (by omega) (by omega) (by omega) (by omega) (by assumption)⟩,by omega⟩) ⟨ke rfl,ke rfl,ke rfl,ke rfl,ke rfl,trivial⟩ (fun _ _ h=>h)
 iterate 16 refine cnt h2 rfl ?_
 refine co rfl (SJ rfl rfl h2 rfl) (Ch.nil (Fin.go (Mi 0 2 3 4 10 11 40 rfl (Tr.cond rfl (fun h=>nomatch h) (fun _=> ?_)))))
 refine Tr.skip (Fin.go (Tr.seq (Tr.seq (Tr.MT mixed (by kernel_rfl) ?_))))
 iterate 4 refine cm rfl ?_
 refine QW rfl rfl rfl rfl (by omega) (co rfl (AH rfl underlying92 AW (vl rfl) (vl rfl) (by omega) (by omega)) (co rfl (Az 0 rfl (AQ rfl BD AW (vl rfl) (Am (f:=Ad) (fun _=>rfl) (by omega)) rfl)) (cm rfl (cm rfl (cm rfl (QW rfl rfl rfl rfl (by omega) (co rfl (AH rfl underlying92 AW (vl rfl) (vl rfl) (by omega) (by omega)) (co rfl (Az 0 rfl (AQ rfl BD AW (vl rfl) (Am (f:=Ad) (fun _=>rfl) (by omega)) rfl)) (co rfl (BN (_,_) rfl (vl rfl) ⟨ke rfl,ke rfl,trivial⟩) (co rfl (ki rfl rfl rfl rfl) (co rfl (HK rfl (vl rfl)) (Ch.nil (Fin.go ?_)))))))))))))
 refine Mi 0 2 3 4 10 11 58 rfl ?_
 refine Tr.cn rfl ?_ ?_<;>intro h6 q6
 refine Tr.ret (Fin.AJ (Fin.Au (Fin.AJ (Fin.Au ?_))))
 refine Fin.Dn (M9 c hi first lo l) 0 rfl (⟨by omega,by rw [←IV];exact Qw jE hf (by omega) (by omega) (x:=first+r) (y:=first+(2*r+1)) rfl rfl (by omega) (by omega) (Int.not_lt.2 (by assumption))⟩) ?_
 exact Fin.Kl rfl
 refine Tr.skip (Fin.go (Tr.seq (Tr.Jv mixed [none,none,none,none,none,none,none,none,none,none,none,none,none,some (0,0,false,0),none,none,none,none,none,some (0,0,false,0),none,some (0,0,true,0),none,some (0,0,true,0)] (by kernel_rfl) (xm rfl (xm rfl (xm rfl ?_))))))
 refine xo rfl (fun _=>Cu rfl (vl rfl) (vl rfl) ?hin) ?_;case hin=>unfold GP;omega
 refine xm rfl (xm rfl (xm rfl ?_))
 refine xo rfl (fun _=>Cu rfl (vl rfl) (vl rfl) ?hin) ?_;case hin=>unfold GP;omega
 refine xm rfl (xm rfl (xm rfl ?_))
 refine xo rfl (fun _=>Cu rfl (vl rfl) (vl rfl) ?hin) ?_;case hin=>unfold GP;omega
 refine xo rfl (fun _=>AH rfl underlying92 AW (vl rfl) (vl rfl) (by omega) (by omega)) (Ev 0 rfl rfl (AQ rfl BD AW (vl rfl) (Am (f:=Ad) (fun _=>rfl) (by omega)) rfl) (xm rfl (xm rfl (xm rfl ?_))))
 refine xo rfl (fun _=>Cu rfl (vl rfl) (vl rfl) ?hin) ?_;case hin=>unfold GP;omega
 refine xo rfl (fun _=>AH rfl underlying92 AW (vl rfl) (vl rfl) (by omega) (by omega)) (Ev 0 rfl rfl (AQ rfl BD AW (vl rfl) (Am (f:=Ad) (fun _=>rfl) (by omega)) rfl) (xo rfl (fun _=>AH rfl underlying92 AW (vl rfl) (vl rfl) (by omega) (by omega)) ?_))
 refine Cx.CT 0 rfl rfl (Ab rfl rfl (vl rfl) (Va rfl) AW rfl (by rw [BU (sz:=11) (fun _=>rfl)];omega) (BP (f:=Ad) (fun _=>rfl) (by omega))) ?_
 refine xo rfl (fun _=>AH rfl underlying92 AW (vl rfl) (vl rfl) (by omega) (by omega)) ?_
 refine Cx.CT 0 rfl rfl (Ab rfl rfl (vl rfl) (Va rfl) AW rfl (by rw [BU (sz:=11) (fun _=>rfl)];simp only [List.length_set];omega) (BP (f:=Ad) (fun _=>rfl) (by simp only [List.length_set];omega))) ?_
 refine Cx.nil ⟨rfl,?_⟩
 refine A9.done (CB.cons (CB.cons (CB.map _))) (Fin.go (EM 0 2 3 4 11 rfl (Tr.B_ (cm rfl (cm rfl (Ch.nil (Fin.block ?_)))))))
 exact Fin.EN (2*r+1) (_)  (⟨⟨⟨by omega,by omega⟩,by simp only [List.length_set];exact Nq,by rw [←IV];exact Ua jE hf (by omega) (by omega) (by omega) (by omega) (by omega) (by omega) (by assumption)⟩,by omega⟩) ⟨ke rfl,ke rfl,ke rfl,ke rfl,ke rfl,trivial⟩ (fun _ _ h=>h)
theorem W3 {l:List A0} {c:A0×A0→Int} {b0 cap len:Nat} {sp:List Value} {a b:Int} (Kt:l.length=len) (F8:len≤1000000) (hw:Go.Sort.SWO (Cs c)) (h0:0≤a) (hab:a≤b) (hb:b≤len):BE prog 271 [is (.slice (some ⟨b0,0,none⟩) len cap),int a,int b,G1 prog (fun x:A0×A0=>[agg (Ad x.1),agg (Ad x.2)]) (fun x=>int (c x))] (FJ) (AA true b0 96 ((l.map Ad).flatten++sp.map is)) (fun _=>D4 b0 96 Ad (Fp c a b l) (sp.map is)):=by
 refine BE.of func271 rfl rfl (by exact Nb rfl) fun M0 w0 S rs M1 w1=> ?_
 have hq:IntKind.i64.wrap ((b-a-1).tdiv 2)=(((b.toNat-a.toNat-1)/2:Nat):Int):=Ud (by omega) (by omega) (by omega)
 iterate 4 refine ac ?_
 refine co rfl (FN rfl (vl rfl) (vl rfl) (by omega)) ?_
 refine ac ?_
 refine Tr.block (Tr.Fl [(0,_),(3,_),(8,_),(9,_),(10,_)] ⟨ke rfl,ke rfl,ke rfl,ke rfl,ke rfl,trivial⟩ (fun (i:Int) (st:List A0)=>[(11,int i)]) (fun (i:Int) (st:List A0)=>Hp M0 w0 S (AA true b0 96 ((st.map Ad).flatten++sp.map is)::Bc M1 w1::rs)) (fun (i:Int) (st:List A0)=>(-1≤i∧i≤b-a)∧st.length=len∧Go.Sort.heapBuild (Cs c) (b-a).toNat a.toNat (i+1).toNat st.toArray=Go.Sort.heapBuild (Cs c) (b-a).toNat a.toNat ((b.toNat-a.toNat-1)/2+1) l.toArray) (fun (i:Int) (st:List A0)=>(i+1).toNat) ((((b.toNat-a.toNat-1)/2:Nat):Int)) (l)  (⟨⟨by omega,by omega⟩,by omega,by rw [show ((((b.toNat-a.toNat-1)/2:Nat):Int)+1).toNat=(b.toNat-a.toNat-1)/2+1 by omega]⟩) ⟨⟨_,rfl,int_eq hq⟩,trivial⟩ (fun _ _ h=>h) ?_)
 rintro i st  ⟨⟨hi1,hi2⟩,Nq,IV⟩
 refine an ?_ ?_<;>intro h1 q1
 have hib:0≤i:=of_decide_eq_true h1
 refine ac ?_
 refine ap ?_
 refine TO.FF 0 rfl rfl (by decide) (AV rfl rfl (by decide) rfl (RE (by omega) (by omega) (by omega) (by omega) (by omega) (by omega)) ⟨ke rfl,ke rfl,ke rfl,ke rfl,ke rfl,trivial⟩) (TO.Eg 0 rfl fun t1 Np=> ?_)
 have Ut:=Np.len
 refine ap ?_
 refine GS 0 3 8 9 10 11 rfl ?_
 refine ac ?_
 exact Fin.EN (i-1) (t1)  (⟨⟨⟨by omega,by omega⟩,by omega,by rw [Np.2];exact (WQ hib).trans IV⟩,by omega⟩) ⟨ke rfl,ke rfl,ke rfl,ke rfl,ke rfl,ke rfl,trivial⟩ (fun _ _ h=>h)
 have hib:¬0≤i:=of_decide_eq_false h1
 rw [Uc hib] at IV
 refine a2 ?_
 refine Tr.block (Tr.Fl [(0,_),(3,_),(8,_),(9,_)] ⟨ke rfl,ke rfl,ke rfl,ke rfl,trivial⟩ (fun (i2:Int) (KQ:List A0)=>[(12,int i2)]) (fun (i2:Int) (KQ:List A0)=>Hp M0 w0 S (AA true b0 96 ((KQ.map Ad).flatten++sp.map is)::Bc M1 w1::rs)) (fun (i2:Int) (KQ:List A0)=>(-1≤i2∧i2<b-a)∧KQ.length=len∧Go.Sort.heapPop (Cs c) a.toNat (i2+1).toNat KQ.toArray=Go.Sort.heapPop (Cs c) a.toNat (b-a).toNat st.toArray) (fun (i2:Int) (KQ:List A0)=>(i2+1).toNat) (b-a-1) (st)  (⟨⟨by omega,by omega⟩,by omega,by rw [show (b-a-1+1).toNat=(b-a).toNat by omega]⟩) ⟨ke rfl,trivial⟩ (fun _ _ h=>h) ?_)
 rintro i2 KQ  ⟨⟨ZM,hj2⟩,W2,Sk⟩
 refine an ?_ ?_<;>intro h2 q2
 have fU:0≤i2:=of_decide_eq_true h2
 refine ac ?_
 refine Tr.seq (Tr.block (Tr.seq (Tr.rx ?_)))
 refine ay ?_
 refine xo rfl (fun _=>AH rfl underlying92 AW (vl rfl) (vl rfl) (by omega) (by omega)) (Ev 0 rfl rfl (AQ rfl BD AW (vl rfl) (Am (f:=Ad) (fun _=>rfl) (by omega)) rfl) ?_)
 refine ay ?_
 refine xo rfl (fun _=>AH rfl underlying92 AW (vl rfl) (vl rfl) (by omega) (by omega)) (Ev 0 rfl rfl (AQ rfl BD AW (vl rfl) (Am (f:=Ad) (fun _=>rfl) (by omega)) rfl) (xo rfl (fun _=>AH rfl underlying92 AW (vl rfl) (vl rfl) (by omega) (by omega)) ?_))
 refine Cx.CT 0 rfl rfl (Ab rfl rfl (vl rfl) (Va rfl) AW rfl (by rw [BU (sz:=11) (fun _=>rfl)];omega) (BP (f:=Ad) (fun _=>rfl) (by omega))) ?_
 refine xo rfl (fun _=>AH rfl underlying92 AW (vl rfl) (vl rfl) (by omega) (by omega)) ?_
 refine Cx.CT 0 rfl rfl (Ab rfl rfl (vl rfl) (Va rfl) AW rfl (by rw [BU (sz:=11) (fun _=>rfl)];simp only [List.length_set];omega) (BP (f:=Ad) (fun _=>rfl) (by simp only [List.length_set];omega))) ?_
 refine Cx.nil ⟨by kernel_rfl,?_⟩
 refine A9.done KP (Fin.go (EM 0 3 8 9 12 rfl ?_))
 refine ap ?_
 refine TO.FF 0 rfl rfl (by decide) (AV rfl rfl (by decide) rfl (RE (by simp only [List.length_set];omega) (by omega) (by omega) (by omega) (by omega) (by omega)) ⟨ke rfl,ke rfl,ke rfl,ke rfl,ke rfl,trivial⟩) ?_
 refine TO.Eg 0 rfl fun t2 UW=> ?_
 have fV:=UW.len
 refine ap ?_
 refine ac ?_
 exact Fin.EN (i2-1) (t2)  (⟨⟨⟨by omega,by omega⟩,by simp only [List.length_set] at fV;omega,by rw [UW.2,sw (by omega) (by omega),show (a+i2).toNat=a.toNat+i2.toNat by omega];exact (eo fU).trans Sk⟩,by omega⟩) ⟨ke rfl,ke rfl,ke rfl,ke rfl,ke rfl,trivial⟩ (fun _ _ h=>h)
 have fU:¬0≤i2:=of_decide_eq_false h2
 rw [ZO fU] at Sk
 refine Tr.exit (Fin.Ai (Fin.Ai (Fin.BA ?_)))
 refine Fin.Dn (Fp c a b l) 0 rfl (by unfold Fp;rw [Sk,IV];exact heap_holds hw l.toArray h0 hab (by simp only [List.size_toArray];omega)) ?_
 exact Fin.Mt rfl
theorem Zy {l:List A0} {c:A0×A0→Int} {b0 cap len:Nat} {sp:List Value} {a b:Int} (Kt:l.length=len) (F8:len≤1000000) (h0:0≤a) (hab:a<b) (hb:b≤len):BE prog 274 [is (.slice (some ⟨b0,0,none⟩) len cap),int a,int b,G1 prog (fun x:A0×A0=>[agg (Ad x.1),agg (Ad x.2)]) (fun x=>int (c x))] (FJ) (AA true b0 96 ((l.map Ad).flatten++sp.map is)) (fun _=>D4 b0 96 Ad (Dp a b l) (sp.map is)):=by
 refine BE.of func274 rfl rfl (by exact Nb rfl) fun M0 w0 S rs M1 w1=> ?_
 refine a2 ?_
 refine Tr.block (Tr.IK [(0,_)] ⟨ke rfl,trivial⟩ (fun (i:Int) (j:Int) (st:List A0)=>[(8,int i),(9,int j)]) (fun (i:Int) (j:Int) (st:List A0)=>Hp M0 w0 S (AA true b0 96 ((st.map Ad).flatten++sp.map is)::Bc M1 w1::rs)) (fun (i:Int) (j:Int) (st:List A0)=>(a≤i∧j<b∧ -1≤j∧i≤b)∧st.length=len∧Dp a b l st) (fun (i:Int) (j:Int) (st:List A0)=>(j-i).toNat) (a) (b-1) (l)  (⟨⟨by omega,by omega,by omega,by omega⟩,by omega,Dp.refl _ _ _⟩) ⟨ke rfl,ke rfl,trivial⟩ (fun _ _ h=>h) ?_)
 rintro i j st  ⟨⟨hi1,hi2,hi3,hi4⟩,Nq,IV⟩
 refine an ?_ ?_<;>intro h1 q1
 have hij:i<j:=of_decide_eq_true h1
 refine ac ?_
 refine Tr.block (Tr.seq (Tr.rx ?_))
 refine ay ?_
 refine xo rfl (fun _=>AH rfl underlying92 AW (vl rfl) (vl rfl) (by omega) (by omega)) (Ev 0 rfl rfl (AQ rfl BD AW (vl rfl) (Am (f:=Ad) (fun _=>rfl) (by omega)) rfl) ?_)
 refine ay ?_
 refine xo rfl (fun _=>AH rfl underlying92 AW (vl rfl) (vl rfl) (by omega) (by omega)) (Ev 0 rfl rfl (AQ rfl BD AW (vl rfl) (Am (f:=Ad) (fun _=>rfl) (by omega)) rfl) (xo rfl (fun _=>AH rfl underlying92 AW (vl rfl) (vl rfl) (by omega) (by omega)) ?_))
 refine Cx.CT 0 rfl rfl (Ab rfl rfl (vl rfl) (Va rfl) AW rfl (by rw [BU (sz:=11) (fun _=>rfl)];omega) (BP (f:=Ad) (fun _=>rfl) (by omega))) ?_
 refine xo rfl (fun _=>AH rfl underlying92 AW (vl rfl) (vl rfl) (by omega) (by omega)) ?_
 refine Cx.CT 0 rfl rfl (Ab rfl rfl (vl rfl) (Va rfl) AW rfl (by rw [BU (sz:=11) (fun _=>rfl)];simp only [List.length_set];omega) (BP (f:=Ad) (fun _=>rfl) (by simp only [List.length_set];omega))) ?_
 refine Cx.nil ⟨by kernel_rfl,?_⟩
 refine A9.done KP (Fin.go (Cr 0 8 9 rfl ?_))
 refine a2 ?_
 exact Fin.D7 (i+1) (j-1) (_)  (⟨⟨⟨by omega,by omega,by omega,by omega⟩,by simp only [List.length_set];exact Nq,IV.swap (by omega) (by omega) (by omega) (by omega) (by omega) (by omega) (by omega)⟩,by omega⟩) ⟨ke rfl,ke rfl,ke rfl,trivial⟩ (fun _ _ h=>h)
 have:=h1
 refine Tr.exit (Fin.Ai (Fin.Ai (Fin.BA (Fin.Dn (Dp a b l) 0 rfl (IV) (Fin.Mt rfl)))))
theorem Zz {l:List A0} {c:A0×A0→Int} {b0 cap len:Nat} {sp:List Value} {a b pv:Int} (Kt:l.length=len) (F8:len≤1000000) (h0:0≤a) (hab:a<b) (hb:b≤len) (Np:a≤pv) (UW:pv<b):BE prog 276 [is (.slice (some ⟨b0,0,none⟩) len cap),int a,int b,int pv,G1 prog (fun x:A0×A0=>[agg (Ad x.1),agg (Ad x.2)]) (fun x=>int (c x))] (int ((PE c a b pv l).1:Nat)) (AA true b0 96 ((l.map Ad).flatten++sp.map is)) (fun _=>D4 b0 96 Ad (Qz c a b pv l) (sp.map is)):=by
 refine BE.of func276 rfl rfl (by exact Nb rfl) fun M0 w0 S rs M1 w1=> ?_
 have Lv:a.toNat<l.length:=by omega
 have HJ:pv.toNat<l.length:=by omega
 refine ac ?_
 refine Tr.seq (Tr.rx ?_)
 refine ay ?_
 refine xo rfl (fun _=>AH rfl underlying92 AW (vl rfl) (vl rfl) (by omega) (by omega)) (Ev 0 rfl rfl (AQ rfl BD AW (vl rfl) (Am (f:=Ad) (fun _=>rfl) (by omega)) rfl) ?_)
 refine ay ?_
 refine xo rfl (fun _=>AH rfl underlying92 AW (vl rfl) (vl rfl) (by omega) (by omega)) (Ev 0 rfl rfl (AQ rfl BD AW (vl rfl) (Am (f:=Ad) (fun _=>rfl) (by omega)) rfl) (xo rfl (fun _=>AH rfl underlying92 AW (vl rfl) (vl rfl) (by omega) (by omega)) ?_))
 refine Cx.CT 0 rfl rfl (Ab rfl rfl (vl rfl) (Va rfl) AW rfl (by rw [BU (sz:=11) (fun _=>rfl)];omega) (BP (f:=Ad) (fun _=>rfl) (by omega))) ?_
 refine xo rfl (fun _=>AH rfl underlying92 AW (vl rfl) (vl rfl) (by omega) (by omega)) ?_
 refine Cx.CT 0 rfl rfl (Ab rfl rfl (vl rfl) (Va rfl) AW rfl (by rw [BU (sz:=11) (fun _=>rfl)];simp only [List.length_set];omega) (BP (f:=Ad) (fun _=>rfl) (by simp only [List.length_set];omega))) ?_
 refine Cx.nil ⟨by kernel_rfl,?_⟩
 refine A9.done KP (Fin.go (Ez 0 1 2 4 rfl ?_))
 refine ac ?_
 refine Tr.seq (Tr.block ?_)
 refine Tr.IK [(0,_),(1,_),(4,_)] ⟨ke rfl,ke rfl,ke rfl,trivial⟩ (fun (i:Int) (j:Int) (st:List A0)=>[(11,int i),(12,int j)]) (fun (i:Int) (j:Int) (st:List A0)=>Hp M0 w0 S (AA true b0 96 ((st.map Ad).flatten++sp.map is)::Bc M1 w1::rs)) (fun (i:Int) (j:Int) (st:List A0)=>((a<i∧i≤b)∧a≤j∧j<b)∧st.length=len∧eu c a i j st.toArray=PE c a b pv l) (fun (i:Int) (j:Int) (st:List A0)=>(j-i+2).toNat) (a+1) (b-1) (((l.set a.toNat (l[pv.toNat]'HJ)).set pv.toNat (l[a.toNat]'Lv)))  (⟨⟨⟨by omega,by omega⟩,by omega,by omega⟩,by simp only [List.length_set];exact Kt,WW h0 hab Lv HJ⟩) ⟨ke rfl,ke rfl,trivial⟩ (fun _ _ h=>h) ?_
 rintro i j st  ⟨⟨⟨hi1,hi2⟩,ZM,hj2⟩,Nq,IV⟩
 refine Tr.block (EM 0 1 4 11 12 rfl (Tr.HM [0,1,4,12] [(11,ex fun y:Int=>fact ((i≤y∧y≤b)∧True∧y.toNat=Go.Sort.scanUp (qU c st.toArray a) st.toArray (j).toNat (i).toNat) (int y))] (True) ?_ (fun h1=> ?_)))
 refine Tr.block (Tr.BW [(0,_),(1,_),(4,_),(12,_)] (R7 rfl) (fun y:Int=>[(11,int y)]) (fun y:Int=>(i≤y∧y≤b)∧Go.Sort.scanUp (qU c st.toArray a) st.toArray (j).toNat (y).toNat=Go.Sort.scanUp (qU c st.toArray a) st.toArray (j).toNat (i).toNat) (fun y:Int=>(b-y).toNat) i (⟨⟨by omega,by omega⟩,rfl⟩) ⟨ke rfl,trivial⟩ ?_)
 rintro y ⟨⟨cz,c_⟩,Ih⟩
 refine ag ?_ ?_<;>intro h2 q2
 refine ac ?_
 refine cy h2 rfl (AH rfl underlying92 AW (vl rfl) (vl rfl) (by omega) (by omega)) (cy h2 rfl (Az 0 rfl (AQ rfl BD AW (vl rfl) (Am (f:=Ad) (fun _=>rfl) (by omega)) rfl)) ?_)
 refine ac ?_
 refine cy h2 rfl (AH rfl underlying92 AW (vl rfl) (vl rfl) (by omega) (by omega)) (cy h2 rfl (Az 0 rfl (AQ rfl BD AW (vl rfl) (Am (f:=Ad) (fun _=>rfl) (by omega)) rfl)) (cy h2 rfl (BN (_,_) rfl (vl rfl) ⟨ke rfl,ke rfl,trivial⟩) ?_))
 refine ac ?_
 refine GS 0 1 4 11 12 47 rfl ?_
 refine Tr.cn rfl ?_ ?_<;>intro h3 q3
 have:=h3
 refine a2 ?_
 exact Fin.AG (y+1) ⟨⟨⟨by omega,by omega⟩,by rw [WR (by omega) (by omega) (by omega) (qS (by omega) (by omega) (Int.not_lt.2 (by assumption)))];exact Ih⟩,by omega⟩ (bu rfl)
 have:=h3
 refine Tr.exit (Fin.Ai (Fin.Ai (Fin.BA ?_)))
 exact Fin.AG () trivial ⟨⟨_,rfl,A5 _ (A2 ⟨⟨by omega,by omega⟩,trivial,by rw [←Ih];exact (M5 (by omega) (qT (by omega) (by omega) (by assumption))).symm⟩ (Lr))⟩,ke rfl,ke rfl,ke rfl,ke rfl,trivial⟩
 refine ac ?_
 refine GS 0 1 4 11 12 47 rfl (Tr.cond rfl (fun h=>nomatch h) (fun _=> ?_))
 refine Tr.exit (Fin.Ai (Fin.Ai (Fin.BA ?_)))
 exact Fin.AG () trivial ⟨⟨_,rfl,A5 _ (A2 ⟨⟨by omega,by omega⟩,trivial,by rw [←Ih];exact (M4 (by omega) (by omega)).symm⟩ (Lr))⟩,ke rfl,ke rfl,ke rfl,ke rfl,trivial⟩
 refine Tr.ex 11 rfl (fun i2=>Tr.fact 11 rfl fun fW=> ?_)
 obtain ⟨mw,mz,NQ⟩:=fW
 refine EM 0 1 4 11 12 rfl (Tr.HM [0,1,4,11] [(12,ex fun y:Int=>fact ((a≤y∧y≤j)∧True∧y.toNat=Go.Sort.scanDown (qD c st.toArray a) st.toArray (i2).toNat (j).toNat) (int y))] (True) ?_ (fun h4=> ?_))
 refine Tr.block (Tr.BW [(0,_),(1,_),(4,_),(11,_)] (R7 rfl) (fun y:Int=>[(12,int y)]) (fun y:Int=>(a≤y∧y≤j)∧Go.Sort.scanDown (qD c st.toArray a) st.toArray (i2).toNat (y).toNat=Go.Sort.scanDown (qD c st.toArray a) st.toArray (i2).toNat (j).toNat) (fun y:Int=>(y-a).toNat) j (⟨⟨by omega,by omega⟩,rfl⟩) ⟨ke rfl,trivial⟩ ?_)
 rintro y ⟨⟨dA,dB⟩,Ij⟩
 refine ag ?_ ?_<;>intro h5 q5
 refine ac ?_
 refine cy h5 rfl (AH rfl underlying92 AW (vl rfl) (vl rfl) (by omega) (by omega)) (cy h5 rfl (Az 0 rfl (AQ rfl BD AW (vl rfl) (Am (f:=Ad) (fun _=>rfl) (by omega)) rfl)) ?_)
 refine ac ?_
 refine cy h5 rfl (AH rfl underlying92 AW (vl rfl) (vl rfl) (by omega) (by omega)) (cy h5 rfl (Az 0 rfl (AQ rfl BD AW (vl rfl) (Am (f:=Ad) (fun _=>rfl) (by omega)) rfl)) (cy h5 rfl (BN (_,_) rfl (vl rfl) ⟨ke rfl,ke rfl,trivial⟩) ?_))
 refine ac ?_
 refine GS 0 1 4 11 12 65 rfl ?_
 refine Tr.cn rfl ?_ ?_<;>intro h6 q6
 have:=h6
 refine a2 ?_
 exact Fin.AG (y-1) ⟨⟨⟨by omega,by omega⟩,by rw [WS (by omega) (by omega) (by omega) (qV (by omega) (by omega) (by assumption))];exact Ij⟩,by omega⟩ (bu rfl)
 have:=h6
 refine Tr.exit (Fin.Ai (Fin.Ai (Fin.BA ?_)))
 exact Fin.AG () trivial ⟨⟨_,rfl,A5 _ (A2 ⟨⟨by omega,by omega⟩,trivial,by rw [←Ij];exact (M7 (by omega) (qW (by omega) (by omega) (Int.not_lt.2 (by assumption)))).symm⟩ (Lr))⟩,ke rfl,ke rfl,ke rfl,ke rfl,trivial⟩
 refine ac ?_
 refine GS 0 1 4 11 12 65 rfl (Tr.cond rfl (fun h=>nomatch h) (fun _=> ?_))
 refine Tr.exit (Fin.Ai (Fin.Ai (Fin.BA ?_)))
 exact Fin.AG () trivial ⟨⟨_,rfl,A5 _ (A2 ⟨⟨by omega,by omega⟩,trivial,by rw [←Ij];exact (M6 (by omega) (by omega)).symm⟩ (Lr))⟩,ke rfl,ke rfl,ke rfl,ke rfl,trivial⟩
 refine Tr.ex 12 rfl (fun j2=>Tr.fact 12 rfl fun fX=> ?_)
 obtain ⟨m8,m9,NR⟩:=fX
 refine an ?_ ?_<;>intro h7 q7
 refine a2 ?_
 refine Tr.ret (Fin.Dn (Qz c a b pv l) 0 rfl (⟨by omega,by rw [IV.symm.trans (Qy NQ NR (by omega) (by omega))]⟩) ?_)
 have hE:=IV.symm.trans (Qy NQ NR (by omega) (by omega))
 refine Fin.Dz rfl rfl ?_ (fun _ _ _ _=>rfl)
 · exact int_eq (by rw [hE];show i2=((i2.toNat:Nat):Int);omega)
 refine ac ?_
 refine Tr.seq (Tr.rx ?_)
 refine ay ?_
 refine xo rfl (fun _=>AH rfl underlying92 AW (vl rfl) (vl rfl) (by omega) (by omega)) (Ev 0 rfl rfl (AQ rfl BD AW (vl rfl) (Am (f:=Ad) (fun _=>rfl) (by omega)) rfl) ?_)
 refine ay ?_
 refine xo rfl (fun _=>AH rfl underlying92 AW (vl rfl) (vl rfl) (by omega) (by omega)) (Ev 0 rfl rfl (AQ rfl BD AW (vl rfl) (Am (f:=Ad) (fun _=>rfl) (by omega)) rfl) (xo rfl (fun _=>AH rfl underlying92 AW (vl rfl) (vl rfl) (by omega) (by omega)) ?_))
 refine Cx.CT 0 rfl rfl (Ab rfl rfl (vl rfl) (Va rfl) AW rfl (by rw [BU (sz:=11) (fun _=>rfl)];omega) (BP (f:=Ad) (fun _=>rfl) (by omega))) ?_
 refine xo rfl (fun _=>AH rfl underlying92 AW (vl rfl) (vl rfl) (by omega) (by omega)) ?_
 refine Cx.CT 0 rfl rfl (Ab rfl rfl (vl rfl) (Va rfl) AW rfl (by rw [BU (sz:=11) (fun _=>rfl)];simp only [List.length_set];omega) (BP (f:=Ad) (fun _=>rfl) (by simp only [List.length_set];omega))) ?_
 refine Cx.nil ⟨by kernel_rfl,?_⟩
 refine A9.done KP (Fin.go (EM 0 1 4 11 12 rfl ?_))
 refine a2 ?_
 exact Fin.D7 (i2+1) (j2-1) (_)  (⟨⟨⟨⟨by omega,by omega⟩,by omega,by omega⟩,by simp only [List.length_set];exact Nq,(ew NQ NR (by omega) (by omega) (by omega) (by omega)).trans IV⟩,by omega⟩) ⟨ke rfl,ke rfl,ke rfl,ke rfl,ke rfl,trivial⟩ (fun _ _ h=>h)
theorem RF {l:List A0} {c:A0×A0→Int} {b0 cap len:Nat} {sp:List Value} {a b pv:Int} (Kt:l.length=len) (F8:len≤1000000) (h0:0≤a) (hab:a<b) (hb:b≤len) (Np:a≤pv) (UW:pv<b):BE prog 277 [is (.slice (some ⟨b0,0,none⟩) len cap),int a,int b,int pv,G1 prog (fun x:A0×A0=>[agg (Ad x.1),agg (Ad x.2)]) (fun x=>int (c x))] (ex fun z:Bool=>fact True (Eu [int ((PA c a b pv l).1:Nat),bool z])) (AA true b0 96 ((l.map Ad).flatten++sp.map is)) (fun _=>D4 b0 96 Ad (OQ c a b pv l) (sp.map is)):=by
 refine BE.of func277 rfl rfl (by exact Nb rfl) fun M0 w0 S rs M1 w1=> ?_
 have Lv:a.toNat<l.length:=by omega
 have HJ:pv.toNat<l.length:=by omega
 have hS1:((l.set a.toNat (l[pv.toNat]'HJ)).set pv.toNat (l[a.toNat]'Lv)).length=len:=by simp only [List.length_set];exact Kt
 refine ac ?_
 refine Tr.seq (Tr.rx ?_)
 refine ay ?_
 refine xo rfl (fun _=>AH rfl underlying92 AW (vl rfl) (vl rfl) (by omega) (by omega)) (Ev 0 rfl rfl (AQ rfl BD AW (vl rfl) (Am (f:=Ad) (fun _=>rfl) (by omega)) rfl) ?_)
 refine ay ?_
 refine xo rfl (fun _=>AH rfl underlying92 AW (vl rfl) (vl rfl) (by omega) (by omega)) (Ev 0 rfl rfl (AQ rfl BD AW (vl rfl) (Am (f:=Ad) (fun _=>rfl) (by omega)) rfl) (xo rfl (fun _=>AH rfl underlying92 AW (vl rfl) (vl rfl) (by omega) (by omega)) ?_))
 refine Cx.CT 0 rfl rfl (Ab rfl rfl (vl rfl) (Va rfl) AW rfl (by rw [BU (sz:=11) (fun _=>rfl)];omega) (BP (f:=Ad) (fun _=>rfl) (by omega))) ?_
 refine xo rfl (fun _=>AH rfl underlying92 AW (vl rfl) (vl rfl) (by omega) (by omega)) ?_
 refine Cx.CT 0 rfl rfl (Ab rfl rfl (vl rfl) (Va rfl) AW rfl (by rw [BU (sz:=11) (fun _=>rfl)];simp only [List.length_set];omega) (BP (f:=Ad) (fun _=>rfl) (by simp only [List.length_set];omega))) ?_
 refine Cx.nil ⟨by kernel_rfl,?_⟩
 refine A9.done KP (Fin.go (Ez 0 1 2 4 rfl ?_))
 refine ac ?_
 refine EM 0 1 4 12 13 rfl (Tr.HM [0,1,4,13] [(12,ex fun y:Int=>fact (((a+1)≤y∧y≤b)∧True∧y.toNat=Go.Sort.scanUp (pU c ((l.set a.toNat (l[pv.toNat]'HJ)).set pv.toNat (l[a.toNat]'Lv)).toArray a) ((l.set a.toNat (l[pv.toNat]'HJ)).set pv.toNat (l[a.toNat]'Lv)).toArray ((b-1)).toNat ((a+1)).toNat) (int y))] (True) ?_ (fun h1=> ?_))
 refine Tr.block (Tr.BW [(0,_),(1,_),(4,_),(13,_)] (R7 rfl) (fun y:Int=>[(12,int y)]) (fun y:Int=>((a+1)≤y∧y≤b)∧Go.Sort.scanUp (pU c ((l.set a.toNat (l[pv.toNat]'HJ)).set pv.toNat (l[a.toNat]'Lv)).toArray a) ((l.set a.toNat (l[pv.toNat]'HJ)).set pv.toNat (l[a.toNat]'Lv)).toArray ((b-1)).toNat (y).toNat=Go.Sort.scanUp (pU c ((l.set a.toNat (l[pv.toNat]'HJ)).set pv.toNat (l[a.toNat]'Lv)).toArray a) ((l.set a.toNat (l[pv.toNat]'HJ)).set pv.toNat (l[a.toNat]'Lv)).toArray ((b-1)).toNat ((a+1)).toNat) (fun y:Int=>(b-y).toNat) (a+1) (⟨⟨by omega,by omega⟩,rfl⟩) ⟨ke rfl,trivial⟩ ?_)
 rintro y ⟨⟨cz,c_⟩,Ih⟩
 refine ag ?_ ?_<;>intro h2 q2
 refine ac ?_
 refine cy h2 rfl (AH rfl underlying92 AW (vl rfl) (vl rfl) (by omega) (by omega)) (cy h2 rfl (Az 0 rfl (AQ rfl BD AW (vl rfl) (Am (f:=Ad) (fun _=>rfl) (by omega)) rfl)) ?_)
 refine ac ?_
 refine cy h2 rfl (AH rfl underlying92 AW (vl rfl) (vl rfl) (by omega) (by omega)) (cy h2 rfl (Az 0 rfl (AQ rfl BD AW (vl rfl) (Am (f:=Ad) (fun _=>rfl) (by omega)) rfl)) (cy h2 rfl (BN (_,_) rfl (vl rfl) ⟨ke rfl,ke rfl,trivial⟩) ?_))
 refine ac ?_
 refine GS 0 1 4 12 13 47 rfl ?_
 refine Tr.cn rfl ?_ ?_<;>intro h3 q3
 have:=h3
 refine a2 ?_
 exact Fin.AG (y+1) ⟨⟨⟨by omega,by omega⟩,by rw [WR (by omega) (by omega) (by omega) (kX (by omega) (by omega) (by assumption))];exact Ih⟩,by omega⟩ (bu rfl)
 have:=h3
 refine Tr.exit (Fin.Ai (Fin.Ai (Fin.BA ?_)))
 exact Fin.AG () trivial ⟨⟨_,rfl,A5 _ (A2 ⟨⟨by omega,by omega⟩,trivial,by rw [←Ih];exact (M5 (by omega) (kY (by omega) (by omega) (Int.not_lt.2 (by assumption)))).symm⟩ (Lr))⟩,ke rfl,ke rfl,ke rfl,ke rfl,trivial⟩
 refine ac ?_
 refine GS 0 1 4 12 13 47 rfl (Tr.cond rfl (fun h=>nomatch h) (fun _=> ?_))
 refine Tr.exit (Fin.Ai (Fin.Ai (Fin.BA ?_)))
 exact Fin.AG () trivial ⟨⟨_,rfl,A5 _ (A2 ⟨⟨by omega,by omega⟩,trivial,by rw [←Ih];exact (M4 (by omega) (by omega)).symm⟩ (Lr))⟩,ke rfl,ke rfl,ke rfl,ke rfl,trivial⟩
 refine Tr.ex 12 rfl (fun i1=>Tr.fact 12 rfl fun rZ=> ?_)
 obtain ⟨s8,s9,W4⟩:=rZ
 refine EM 0 1 4 12 13 rfl (Tr.HM [0,1,4,12] [(13,ex fun y:Int=>fact ((a≤y∧y≤(b-1))∧True∧y.toNat=Go.Sort.scanDown (pD c ((l.set a.toNat (l[pv.toNat]'HJ)).set pv.toNat (l[a.toNat]'Lv)).toArray a) ((l.set a.toNat (l[pv.toNat]'HJ)).set pv.toNat (l[a.toNat]'Lv)).toArray (i1).toNat ((b-1)).toNat) (int y))] (True) ?_ (fun h4=> ?_))
 refine Tr.block (Tr.BW [(0,_),(1,_),(4,_),(12,_)] (R7 rfl) (fun y:Int=>[(13,int y)]) (fun y:Int=>(a≤y∧y≤(b-1))∧Go.Sort.scanDown (pD c ((l.set a.toNat (l[pv.toNat]'HJ)).set pv.toNat (l[a.toNat]'Lv)).toArray a) ((l.set a.toNat (l[pv.toNat]'HJ)).set pv.toNat (l[a.toNat]'Lv)).toArray (i1).toNat (y).toNat=Go.Sort.scanDown (pD c ((l.set a.toNat (l[pv.toNat]'HJ)).set pv.toNat (l[a.toNat]'Lv)).toArray a) ((l.set a.toNat (l[pv.toNat]'HJ)).set pv.toNat (l[a.toNat]'Lv)).toArray (i1).toNat ((b-1)).toNat) (fun y:Int=>(y-a).toNat) (b-1) (⟨⟨by omega,by omega⟩,rfl⟩) ⟨ke rfl,trivial⟩ ?_)
 rintro y ⟨⟨dA,dB⟩,Ij⟩
 refine ag ?_ ?_<;>intro h5 q5
 refine ac ?_
 refine cy h5 rfl (AH rfl underlying92 AW (vl rfl) (vl rfl) (by omega) (by omega)) (cy h5 rfl (Az 0 rfl (AQ rfl BD AW (vl rfl) (Am (f:=Ad) (fun _=>rfl) (by omega)) rfl)) ?_)
 refine ac ?_
 refine cy h5 rfl (AH rfl underlying92 AW (vl rfl) (vl rfl) (by omega) (by omega)) (cy h5 rfl (Az 0 rfl (AQ rfl BD AW (vl rfl) (Am (f:=Ad) (fun _=>rfl) (by omega)) rfl)) (cy h5 rfl (BN (_,_) rfl (vl rfl) ⟨ke rfl,ke rfl,trivial⟩) ?_))
 refine ac ?_
 refine GS 0 1 4 12 13 66 rfl ?_
 refine Tr.cn rfl ?_ ?_<;>intro h6 q6
 have:=h6
 refine a2 ?_
 exact Fin.AG (y-1) ⟨⟨⟨by omega,by omega⟩,by rw [WS (by omega) (by omega) (by omega) (kZ (by omega) (by omega) (Int.not_lt.2 (by assumption)))];exact Ij⟩,by omega⟩ (bu rfl)
 have:=h6
 refine Tr.exit (Fin.Ai (Fin.Ai (Fin.BA ?_)))
 exact Fin.AG () trivial ⟨⟨_,rfl,A5 _ (A2 ⟨⟨by omega,by omega⟩,trivial,by rw [←Ij];exact (M7 (by omega) (kf (by omega) (by omega) (by assumption))).symm⟩ (Lr))⟩,ke rfl,ke rfl,ke rfl,ke rfl,trivial⟩
 refine ac ?_
 refine GS 0 1 4 12 13 66 rfl (Tr.cond rfl (fun h=>nomatch h) (fun _=> ?_))
 refine Tr.exit (Fin.Ai (Fin.Ai (Fin.BA ?_)))
 exact Fin.AG () trivial ⟨⟨_,rfl,A5 _ (A2 ⟨⟨by omega,by omega⟩,trivial,by rw [←Ij];exact (M6 (by omega) (by omega)).symm⟩ (Lr))⟩,ke rfl,ke rfl,ke rfl,ke rfl,trivial⟩
 refine Tr.ex 13 rfl (fun j1=>Tr.fact 13 rfl fun rj=> ?_)
 obtain ⟨tC,tD,W5⟩:=rj
 refine an ?_ ?_<;>intro h7 q7
 refine Tr.seq (Tr.rx ?_)
 refine ay ?_
 refine xo rfl (fun _=>AH rfl underlying92 AW (vl rfl) (vl rfl) (by omega) (by omega)) (Ev 0 rfl rfl (AQ rfl BD AW (vl rfl) (Am (f:=Ad) (fun _=>rfl) (by omega)) rfl) ?_)
 refine ay ?_
 refine xo rfl (fun _=>AH rfl underlying92 AW (vl rfl) (vl rfl) (by omega) (by omega)) (Ev 0 rfl rfl (AQ rfl BD AW (vl rfl) (Am (f:=Ad) (fun _=>rfl) (by omega)) rfl) (xo rfl (fun _=>AH rfl underlying92 AW (vl rfl) (vl rfl) (by omega) (by omega)) ?_))
 refine Cx.CT 0 rfl rfl (Ab rfl rfl (vl rfl) (Va rfl) AW rfl (by rw [BU (sz:=11) (fun _=>rfl)];omega) (BP (f:=Ad) (fun _=>rfl) (by omega))) ?_
 refine xo rfl (fun _=>AH rfl underlying92 AW (vl rfl) (vl rfl) (by omega) (by omega)) ?_
 refine Cx.CT 0 rfl rfl (Ab rfl rfl (vl rfl) (Va rfl) AW rfl (by rw [BU (sz:=11) (fun _=>rfl)];simp only [List.length_set];omega) (BP (f:=Ad) (fun _=>rfl) (by simp only [List.length_set];omega))) ?_
 refine Cx.nil ⟨by kernel_rfl,?_⟩
 refine A9.done KP (Fin.go (DD 13 rfl ?_))
 refine ac ?_
 refine Tr.ret (Fin.AJ (Fin.Dn (OQ c a b pv l) 0 rfl (⟨by simp only [List.length_set],(J4 h0 hab Lv HJ (Iz W4 W5 (by omega) (by omega)) (by omega) (by omega)).2⟩) (Fin.JF [] rfl (AL.tmp rfl (Lr)) (AL.tmp rfl (Lr)) ?_)))
 · exact A5 true (A2 trivial (Pr.le_of_eq (by rw [(J4 h0 hab Lv HJ (Iz W4 W5 (by omega) (by omega)) (by omega) (by omega)).1,Int.toNat_of_nonneg (by omega)])))
 refine ac ?_
 refine Tr.seq (Tr.rx ?_)
 refine ay ?_
 refine xo rfl (fun _=>AH rfl underlying92 AW (vl rfl) (vl rfl) (by omega) (by omega)) (Ev 0 rfl rfl (AQ rfl BD AW (vl rfl) (Am (f:=Ad) (fun _=>rfl) (by omega)) rfl) ?_)
 refine ay ?_
 refine xo rfl (fun _=>AH rfl underlying92 AW (vl rfl) (vl rfl) (by omega) (by omega)) (Ev 0 rfl rfl (AQ rfl BD AW (vl rfl) (Am (f:=Ad) (fun _=>rfl) (by omega)) rfl) (xo rfl (fun _=>AH rfl underlying92 AW (vl rfl) (vl rfl) (by omega) (by omega)) ?_))
 refine Cx.CT 0 rfl rfl (Ab rfl rfl (vl rfl) (Va rfl) AW rfl (by rw [BU (sz:=11) (fun _=>rfl)];omega) (BP (f:=Ad) (fun _=>rfl) (by omega))) ?_
 refine xo rfl (fun _=>AH rfl underlying92 AW (vl rfl) (vl rfl) (by omega) (by omega)) ?_
 refine Cx.CT 0 rfl rfl (Ab rfl rfl (vl rfl) (Va rfl) AW rfl (by rw [BU (sz:=11) (fun _=>rfl)];simp only [List.length_set];omega) (BP (f:=Ad) (fun _=>rfl) (by simp only [List.length_set];omega))) ?_
 refine Cx.nil ⟨by kernel_rfl,?_⟩
 refine A9.done KP (Fin.go (EM 0 1 4 12 13 rfl ?_))
 refine a2 ?_
 refine Tr.seq (Tr.block ?_)
 refine Tr.IK [(0,_),(1,_),(4,_)] ⟨ke rfl,ke rfl,ke rfl,trivial⟩ (fun (i:Int) (j:Int) (st:List A0)=>[(12,int i),(13,int j)]) (fun (i:Int) (j:Int) (st:List A0)=>Hp M0 w0 S (AA true b0 96 ((st.map Ad).flatten++sp.map is)::Bc M1 w1::rs)) (fun (i:Int) (j:Int) (st:List A0)=>((a<i∧i≤b)∧a≤j∧j<b)∧st.length=len∧cU c a i j st.toArray=cU c a (a+1) (b-1) ((l.set a.toNat (l[pv.toNat]'HJ)).set pv.toNat (l[a.toNat]'Lv)).toArray) (fun (i:Int) (j:Int) (st:List A0)=>(j-i+2).toNat) (i1+1) (j1-1) (_)  (⟨⟨⟨by omega,by omega⟩,by omega,by omega⟩,by simp only [List.length_set];exact Kt,Tn W4 W5 (by omega) (by omega) (by omega) (by omega)⟩) ⟨ke rfl,ke rfl,trivial⟩ (fun _ _ h=>h) ?_
 rintro i j st  ⟨⟨⟨hi1,hi2⟩,ZM,hj2⟩,Nq,IV⟩
 refine Tr.block (EM 0 1 4 12 13 rfl (Tr.HM [0,1,4,13] [(12,ex fun y:Int=>fact ((i≤y∧y≤b)∧True∧y.toNat=Go.Sort.scanUp (pU c st.toArray a) st.toArray (j).toNat (i).toNat) (int y))] (True) ?_ (fun h8=> ?_)))
 refine Tr.block (Tr.BW [(0,_),(1,_),(4,_),(13,_)] (R7 rfl) (fun y:Int=>[(12,int y)]) (fun y:Int=>(i≤y∧y≤b)∧Go.Sort.scanUp (pU c st.toArray a) st.toArray (j).toNat (y).toNat=Go.Sort.scanUp (pU c st.toArray a) st.toArray (j).toNat (i).toNat) (fun y:Int=>(b-y).toNat) i (⟨⟨by omega,by omega⟩,rfl⟩) ⟨ke rfl,trivial⟩ ?_)
 rintro y ⟨⟨cz,c_⟩,Ih⟩
 refine ag ?_ ?_<;>intro h9 q9
 refine ac ?_
 refine cy h9 rfl (AH rfl underlying92 AW (vl rfl) (vl rfl) (by omega) (by omega)) (cy h9 rfl (Az 0 rfl (AQ rfl BD AW (vl rfl) (Am (f:=Ad) (fun _=>rfl) (by omega)) rfl)) ?_)
 refine ac ?_
 refine cy h9 rfl (AH rfl underlying92 AW (vl rfl) (vl rfl) (by omega) (by omega)) (cy h9 rfl (Az 0 rfl (AQ rfl BD AW (vl rfl) (Am (f:=Ad) (fun _=>rfl) (by omega)) rfl)) (cy h9 rfl (BN (_,_) rfl (vl rfl) ⟨ke rfl,ke rfl,trivial⟩) ?_))
 refine ac ?_
 refine GS 0 1 4 12 13 120 rfl ?_
 refine Tr.cn rfl ?_ ?_<;>intro h10 OZ
 have:=h10
 refine a2 ?_
 exact Fin.AG (y+1) ⟨⟨⟨by omega,by omega⟩,by rw [WR (by omega) (by omega) (by omega) (kX (by omega) (by omega) (by assumption))];exact Ih⟩,by omega⟩ (bu rfl)
 have:=h10
 refine Tr.exit (Fin.Ai (Fin.Ai (Fin.BA ?_)))
 exact Fin.AG () trivial ⟨⟨_,rfl,A5 _ (A2 ⟨⟨by omega,by omega⟩,trivial,by rw [←Ih];exact (M5 (by omega) (kY (by omega) (by omega) (Int.not_lt.2 (by assumption)))).symm⟩ (Lr))⟩,ke rfl,ke rfl,ke rfl,ke rfl,trivial⟩
 refine ac ?_
 refine GS 0 1 4 12 13 120 rfl (Tr.cond rfl (fun h=>nomatch h) (fun _=> ?_))
 refine Tr.exit (Fin.Ai (Fin.Ai (Fin.BA ?_)))
 exact Fin.AG () trivial ⟨⟨_,rfl,A5 _ (A2 ⟨⟨by omega,by omega⟩,trivial,by rw [←Ih];exact (M4 (by omega) (by omega)).symm⟩ (Lr))⟩,ke rfl,ke rfl,ke rfl,ke rfl,trivial⟩
 refine Tr.ex 12 rfl (fun i2=>Tr.fact 12 rfl fun fW=> ?_)
 obtain ⟨mw,mz,NQ⟩:=fW
 refine EM 0 1 4 12 13 rfl (Tr.HM [0,1,4,12] [(13,ex fun y:Int=>fact ((a≤y∧y≤j)∧True∧y.toNat=Go.Sort.scanDown (pD c st.toArray a) st.toArray (i2).toNat (j).toNat) (int y))] (True) ?_ (fun h11=> ?_))
 refine Tr.block (Tr.BW [(0,_),(1,_),(4,_),(12,_)] (R7 rfl) (fun y:Int=>[(13,int y)]) (fun y:Int=>(a≤y∧y≤j)∧Go.Sort.scanDown (pD c st.toArray a) st.toArray (i2).toNat (y).toNat=Go.Sort.scanDown (pD c st.toArray a) st.toArray (i2).toNat (j).toNat) (fun y:Int=>(y-a).toNat) j (⟨⟨by omega,by omega⟩,rfl⟩) ⟨ke rfl,trivial⟩ ?_)
 rintro y ⟨⟨dA,dB⟩,Ij⟩
 refine ag ?_ ?_<;>intro h12 QY
 refine ac ?_
 refine cy h12 rfl (AH rfl underlying92 AW (vl rfl) (vl rfl) (by omega) (by omega)) (cy h12 rfl (Az 0 rfl (AQ rfl BD AW (vl rfl) (Am (f:=Ad) (fun _=>rfl) (by omega)) rfl)) ?_)
 refine ac ?_
 refine cy h12 rfl (AH rfl underlying92 AW (vl rfl) (vl rfl) (by omega) (by omega)) (cy h12 rfl (Az 0 rfl (AQ rfl BD AW (vl rfl) (Am (f:=Ad) (fun _=>rfl) (by omega)) rfl)) (cy h12 rfl (BN (_,_) rfl (vl rfl) ⟨ke rfl,ke rfl,trivial⟩) ?_))
 refine ac ?_
 refine GS 0 1 4 12 13 139 rfl ?_
 refine Tr.cn rfl ?_ ?_<;>intro HW Q_
 have:=HW
 refine a2 ?_
 exact Fin.AG (y-1) ⟨⟨⟨by omega,by omega⟩,by rw [WS (by omega) (by omega) (by omega) (kZ (by omega) (by omega) (Int.not_lt.2 (by assumption)))];exact Ij⟩,by omega⟩ (bu rfl)
 have:=HW
 refine Tr.exit (Fin.Ai (Fin.Ai (Fin.BA ?_)))
 exact Fin.AG () trivial ⟨⟨_,rfl,A5 _ (A2 ⟨⟨by omega,by omega⟩,trivial,by rw [←Ij];exact (M7 (by omega) (kf (by omega) (by omega) (by assumption))).symm⟩ (Lr))⟩,ke rfl,ke rfl,ke rfl,ke rfl,trivial⟩
 refine ac ?_
 refine GS 0 1 4 12 13 139 rfl (Tr.cond rfl (fun h=>nomatch h) (fun _=> ?_))
 refine Tr.exit (Fin.Ai (Fin.Ai (Fin.BA ?_)))
 exact Fin.AG () trivial ⟨⟨_,rfl,A5 _ (A2 ⟨⟨by omega,by omega⟩,trivial,by rw [←Ij];exact (M6 (by omega) (by omega)).symm⟩ (Lr))⟩,ke rfl,ke rfl,ke rfl,ke rfl,trivial⟩
 refine Tr.ex 13 rfl (fun j2=>Tr.fact 13 rfl fun fX=> ?_)
 obtain ⟨m8,m9,NR⟩:=fX
 refine an ?_ ?_<;>intro Pf YV
 refine ac ?_
 refine Tr.seq (Tr.rx ?_)
 refine ay ?_
 refine xo rfl (fun _=>AH rfl underlying92 AW (vl rfl) (vl rfl) (by omega) (by omega)) (Ev 0 rfl rfl (AQ rfl BD AW (vl rfl) (Am (f:=Ad) (fun _=>rfl) (by omega)) rfl) ?_)
 refine ay ?_
 refine xo rfl (fun _=>AH rfl underlying92 AW (vl rfl) (vl rfl) (by omega) (by omega)) (Ev 0 rfl rfl (AQ rfl BD AW (vl rfl) (Am (f:=Ad) (fun _=>rfl) (by omega)) rfl) (xo rfl (fun _=>AH rfl underlying92 AW (vl rfl) (vl rfl) (by omega) (by omega)) ?_))
 refine Cx.CT 0 rfl rfl (Ab rfl rfl (vl rfl) (Va rfl) AW rfl (by rw [BU (sz:=11) (fun _=>rfl)];omega) (BP (f:=Ad) (fun _=>rfl) (by omega))) ?_
 refine xo rfl (fun _=>AH rfl underlying92 AW (vl rfl) (vl rfl) (by omega) (by omega)) ?_
 refine Cx.CT 0 rfl rfl (Ab rfl rfl (vl rfl) (Va rfl) AW rfl (by rw [BU (sz:=11) (fun _=>rfl)];simp only [List.length_set];omega) (BP (f:=Ad) (fun _=>rfl) (by simp only [List.length_set];omega))) ?_
 refine Cx.nil ⟨by kernel_rfl,?_⟩
 refine A9.done KP (Fin.go (DD 13 rfl ?_))
 refine ac ?_
 refine Tr.ret ?_
 refine Fin.Dn (OQ c a b pv l) 0 rfl (⟨by simp only [List.length_set];omega,(J4 h0 hab Lv HJ (IV.symm.trans (Iz NQ NR (by omega) (by omega))) (by omega) (by omega)).2⟩) ?_
 refine Fin.JF [] rfl (AL.tmp rfl (Lr)) (AL.tmp rfl (Lr)) ?_
 · exact A5 false (A2 trivial (Pr.le_of_eq (by rw [(J4 h0 hab Lv HJ (IV.symm.trans (Iz NQ NR (by omega) (by omega))) (by omega) (by omega)).1,Int.toNat_of_nonneg (by omega)])))
 refine ac ?_
 refine Tr.seq (Tr.rx ?_)
 refine ay ?_
 refine xo rfl (fun _=>AH rfl underlying92 AW (vl rfl) (vl rfl) (by omega) (by omega)) (Ev 0 rfl rfl (AQ rfl BD AW (vl rfl) (Am (f:=Ad) (fun _=>rfl) (by omega)) rfl) ?_)
 refine ay ?_
 refine xo rfl (fun _=>AH rfl underlying92 AW (vl rfl) (vl rfl) (by omega) (by omega)) (Ev 0 rfl rfl (AQ rfl BD AW (vl rfl) (Am (f:=Ad) (fun _=>rfl) (by omega)) rfl) (xo rfl (fun _=>AH rfl underlying92 AW (vl rfl) (vl rfl) (by omega) (by omega)) ?_))
 refine Cx.CT 0 rfl rfl (Ab rfl rfl (vl rfl) (Va rfl) AW rfl (by rw [BU (sz:=11) (fun _=>rfl)];omega) (BP (f:=Ad) (fun _=>rfl) (by omega))) ?_
 refine xo rfl (fun _=>AH rfl underlying92 AW (vl rfl) (vl rfl) (by omega) (by omega)) ?_
 refine Cx.CT 0 rfl rfl (Ab rfl rfl (vl rfl) (Va rfl) AW rfl (by rw [BU (sz:=11) (fun _=>rfl)];simp only [List.length_set];omega) (BP (f:=Ad) (fun _=>rfl) (by simp only [List.length_set];omega))) ?_
 refine Cx.nil ⟨by kernel_rfl,?_⟩
 refine A9.done KP (Fin.go (EM 0 1 4 12 13 rfl ?_))
 refine a2 ?_
 exact Fin.D7 (i2+1) (j2-1) (_)  (⟨⟨⟨⟨by omega,by omega⟩,by omega,by omega⟩,by simp only [List.length_set];exact Nq,(Tn NQ NR (by omega) (by omega) (by omega) (by omega)).trans IV⟩,by omega⟩) ⟨ke rfl,ke rfl,ke rfl,ke rfl,ke rfl,trivial⟩ (fun _ _ h=>h)
theorem W6 {l:List A0} {c:A0×A0→Int} {b0 cap len:Nat} {sp:List Value} {a b:Int} (Kt:l.length=len) (F8:len≤1000000) (hw:Go.Sort.SWO (Cs c)) (h0:0≤a) (hab:a<b) (hb:b≤len) (hb5:b<50):BE prog 275 [is (.slice (some ⟨b0,0,none⟩) len cap),int a,int b,G1 prog (fun x:A0×A0=>[agg (Ad x.1),agg (Ad x.2)]) (fun x=>int (c x))] (ex fun z:Bool=>fact (z=true→Go.Sort.SortedIn (Cs c) a.toNat b.toNat l.toArray) (bool z)) (AA true b0 96 ((l.map Ad).flatten++sp.map is)) (fun _=>AA true b0 96 ((l.map Ad).flatten++sp.map is)):=by
 refine BE.of func275 rfl rfl (by exact Nb rfl) fun M0 w0 S rs M1 w1=> ?_
 refine a3 ?_
 refine Tr.block (Tr.Fl [(0,_),(1,_),(2,_),(3,_)] ⟨ke rfl,ke rfl,ke rfl,ke rfl,trivial⟩ (fun (i:Int) (j:Int)=>[(9,int i),(10,int j)]) (fun (i:Int) (j:Int)=>Hp M0 w0 S (AA true b0 96 ((l.map Ad).flatten++sp.map is)::Bc M1 w1::rs)) (fun (i:Int) (j:Int)=>(j=0∧a<i∧i≤b)∧YP c a i l) (fun (i:Int) (j:Int)=>(5-j).toNat) (a+1) (0)  (⟨⟨rfl,by omega,by omega⟩,YP.start a l h0⟩) ⟨ke rfl,ke rfl,trivial⟩ (fun _ _ h=>h) ?_)
 rintro i j  ⟨⟨hj0,hi1,hi2⟩,rq⟩
 refine an ?_ ?_<;>intro h1 q1
 skip
 refine ac ?_
 refine Tr.seq (Tr.block (Tr.seq (Tr.block (Tr.BW [(0,_),(1,_),(2,_),(3,_),(10,_)] (bu rfl) (fun i2:Int=>[(9,int i2)]) (fun i2:Int=>(a<i2∧i2≤b)∧YP c a i2 l) (fun i2:Int=>(b-i2).toNat) i (⟨⟨hi1,hi2⟩,rq⟩) ⟨ke rfl,trivial⟩ ?_))))
 rintro i2 ⟨⟨hi3,hi4⟩,W7⟩
 refine ag ?_ ?_<;>intro h2 q2
 refine ac ?_
 refine cy h2 rfl (AH rfl underlying92 AW (vl rfl) (vl rfl) (by omega) (by omega)) (cy h2 rfl (Az 0 rfl (AQ rfl BD AW (vl rfl) (Am (f:=Ad) (fun _=>rfl) (by omega)) rfl)) ?_)
 refine ac ?_
 refine cy h2 rfl (AH rfl underlying92 AW (vl rfl) (vl rfl) (by omega) (by omega)) (cy h2 rfl (Az 0 rfl (AQ rfl BD AW (vl rfl) (Am (f:=Ad) (fun _=>rfl) (by omega)) rfl)) (cy h2 rfl (BN (_,_) rfl (vl rfl) ⟨ke rfl,ke rfl,trivial⟩) ?_))
 refine ac ?_
 refine Mi 0 1 2 3 9 10 36 rfl ?_
 refine Tr.cn rfl ?_ ?_<;>intro h3 q3
 have:=h3
 refine a2 ?_
 exact Fin.AG (i2+1) ⟨⟨⟨by omega,by omega⟩,W7.go h0 (by omega) rfl (by omega) (by omega) (by assumption)⟩,by omega⟩ (kk6 rfl)
 have:=h3
 refine ac ?_
 refine an ?_ ?_<;>intro h4 q4
 refine ac ?_
 refine Tr.ret (Fin.AJ (Fin.Au (Fin.AJ (Fin.AJ (Fin.Au (Fin.AJ (Fin.Dz rfl rfl ?_ (fun _ _ _ _=>rfl))))))))
 · exact A5 true (A2 (fun _=>by rw [show b=i2 by omega];exact W7.sorted hw) (Lr))
 refine a2 ?_
 refine Mi 0 1 2 3 9 10 45 rfl ?_
 refine Tr.cn rfl ?_ ?_<;>intro h5 q5
 refine ac ?_
 refine Tr.ret (Fin.AJ (Fin.Au (Fin.AJ (Fin.AJ (Fin.Au (Fin.AJ (Fin.Dz rfl rfl ?_ (fun _ _ _ _=>rfl))))))))
 · exact A5 false (A2 (fun h=>nomatch h) (Lr))
 exfalso;omega
 refine ac ?_
 refine Mi 0 1 2 3 9 10 36 rfl ?_
 refine ac ?_
 refine an ?_ ?_<;>intro h6 q6
 refine ac ?_
 refine Tr.ret (Fin.AJ (Fin.Au (Fin.AJ (Fin.AJ (Fin.Au (Fin.AJ (Fin.Dz rfl rfl ?_ (fun _ _ _ _=>rfl))))))))
 · exact A5 true (A2 (fun _=>by rw [show b=i2 by omega];exact W7.sorted hw) (Lr))
 refine a2 ?_
 refine Mi 0 1 2 3 9 10 45 rfl ?_
 refine Tr.cn rfl ?_ ?_<;>intro h7 q7
 refine ac ?_
 refine Tr.ret (Fin.AJ (Fin.Au (Fin.AJ (Fin.AJ (Fin.Au (Fin.AJ (Fin.Dz rfl rfl ?_ (fun _ _ _ _=>rfl))))))))
 · exact A5 false (A2 (fun h=>nomatch h) (Lr))
 exfalso;omega
 have hj5:¬j<5:=of_decide_eq_false h1
 exfalso;omega
theorem NS {sb:Nat} {l:List A0} {c:A0×A0→Int} {b0 cap len:Nat} {sp:List Value} {a b:Int} (Kt:l.length=len) (F8:len≤1000000) (h0:0≤a) (ha:a<len) (h1:0≤b) (hb:b<len):SS prog 302 [is (.slice (some ⟨b0,0,none⟩) len cap),int a,int b,is (.pointer (some ⟨sb,0,none⟩)),G1 prog (fun x:A0×A0=>[agg (Ad x.1),agg (Ad x.2)]) (fun x=>int (c x))] (ex fun z:Int×Int=>fact ((z.1=a∧z.2=b)∨(z.1=b∧z.2=a)) (Eu [int z.1,int z.2])) (AA true sb 3 [C4 .i64]) (AA true sb 3 [C4 .i64]) (AA true b0 96 ((l.map Ad).flatten++sp.map is)):=by
 refine SS.of func302 rfl rfl (by exact Nb rfl) fun M0 w0 S rs M1 w1=> ?_
 refine a2 ?_
 refine co rfl (AH rfl underlying92 AW (vl rfl) (vl rfl) (by omega) (by omega)) (co rfl (Az 2 rfl (AQ rfl BD AW (vl rfl) (Am (f:=Ad) (fun _=>rfl) (by omega)) rfl)) ?_)
 refine ac ?_
 refine co rfl (AH rfl underlying92 AW (vl rfl) (vl rfl) (by omega) (by omega)) (co rfl (Az 2 rfl (AQ rfl BD AW (vl rfl) (Am (f:=Ad) (fun _=>rfl) (by omega)) rfl)) (co rfl (BN (_,_) rfl (vl rfl) ⟨ke rfl,ke rfl,trivial⟩) ?_))
 refine an ?_ ?_<;>intro h1 q1
 refine ap ?_
 refine tp rfl (Lx rfl (vl rfl) (VL.le (vl rfl) (BH _ _))) ?_
 refine ap ?_
 refine CL 1 2 rfl ?_
 refine ac ?_
 refine Tr.ret (Fin.AJ (Fin.JF [] rfl (AL.tmp rfl (Lr)) (AL.tmp rfl (Lr)) ?_))
 · exact A5 (b,a) (A2 (.inr ⟨rfl,rfl⟩) (Lr))
 refine a2 ?_
 refine CL 10 11 rfl (Tr.ret (Fin.JF [] rfl (AL.tmp rfl (Lr)) (AL.tmp rfl (Lr)) ?_))
 · exact A5 (a,b) (A2 (.inl ⟨rfl,rfl⟩) (Lr))
theorem Z0 {sb:Nat} {l:List A0} {c:A0×A0→Int} {b0 cap len:Nat} {sp:List Value} {a b d:Int} (Kt:l.length=len) (F8:len≤1000000) (h0:0≤a) (ha:a<len) (h1:0≤b) (hb:b<len) (h2:0≤d) (hd:d<len):SS prog 298 [is (.slice (some ⟨b0,0,none⟩) len cap),int a,int b,int d,is (.pointer (some ⟨sb,0,none⟩)),G1 prog (fun x:A0×A0=>[agg (Ad x.1),agg (Ad x.2)]) (fun x=>int (c x))] (ex fun z:Int=>fact (z=a∨z=b∨z=d) (int z)) (AA true sb 3 [C4 .i64]) (AA true sb 3 [C4 .i64]) (AA true b0 96 ((l.map Ad).flatten++sp.map is)):=by
 refine SS.of func298 rfl rfl (by exact Nb rfl) fun M0 w0 S rs M1 w1=> ?_
 refine ac ?_
 refine ap ?_
 refine TO.Tk 0 2 rfl rfl (by decide) rfl rfl (by decide) rfl (NS (by omega) (by omega) (by omega) (by omega) (by omega) (by omega)) ⟨ke rfl,ke rfl,ke rfl,ke rfl,ke rfl,trivial⟩ ?_
 refine TO.ex 19 rfl (fun z1=>TO.fact 19 rfl fun JA=> ?_)
 refine ap ?_
 refine ap ?_
 refine TO.Tk 0 2 rfl rfl (by decide) rfl rfl (by decide) rfl (NS (by omega) (by omega) (by omega) (by omega) (by omega) (by omega)) ⟨ke rfl,ke rfl,ke rfl,ke rfl,ke rfl,trivial⟩ ?_
 refine TO.ex 28 rfl (fun z2=>TO.fact 28 rfl fun Vp=> ?_)
 refine ap ?_
 refine EM 0 1 2 4 5 rfl ?_
 refine ap ?_
 refine TO.Tk 0 2 rfl rfl (by decide) rfl rfl (by decide) rfl (NS (by omega) (by omega) (by omega) (by omega) (by omega) (by omega)) ⟨ke rfl,ke rfl,ke rfl,ke rfl,ke rfl,trivial⟩ ?_
 refine TO.ex 37 rfl (fun z3=>TO.fact 37 rfl fun hz3=> ?_)
 refine ap ?_
 refine DD 2 rfl ?_
 refine ac ?_
 refine Tr.ret (Fin.Dz rfl rfl ?_ (fun _ _ _ _=>rfl))
 · exact A5 _ (A2 (by omega) (Lr))
theorem Z1 {l:List A0} {c:A0×A0→Int} {b0 cap len:Nat} {sp:List Value} {a b:Int} (Kt:l.length=len) (F8:len≤1000000) (h0:0≤a) (hab:a<b) (hb:b≤len) (hb5:b<50):BE prog 273 [is (.slice (some ⟨b0,0,none⟩) len cap),int a,int b,G1 prog (fun x:A0×A0=>[agg (Ad x.1),agg (Ad x.2)]) (fun x=>int (c x))] (ex fun z:Int×Int=>fact (a≤z.1∧z.1<b) (Eu [int z.1,int z.2])) (AA true b0 96 ((l.map Ad).flatten++sp.map is)) (fun _=>AA true b0 96 ((l.map Ad).flatten++sp.map is)):=by
 refine BE.of func273 rfl rfl (by exact Nb rfl) fun M0 w0 S rs M1 w1=> ?_
 have hq:=cT (n:=b-a) (by omega) (by omega)
 obtain ⟨hq1,R6,eY⟩:=hq
 refine a2 ?_
 refine Tr.seq (Tr.Ax ?_)
 refine Tl rfl rfl rfl rfl z3 iB (fun b1=> ?_)
 refine ap ?_
 refine ac ?_
 refine co rfl (FN rfl (vl rfl) (vl rfl) (by omega)) ?_
 refine co rfl (KZ rfl (vl rfl) (vl rfl) ?hin) ?_;case hin=>unfold GP;omega
 refine ac ?_
 refine GS 0 1 3 10 11 12 rfl ?_
 refine ac ?_
 refine co rfl (FN rfl (vl rfl) (vl rfl) (by omega)) ?_
 refine co rfl (KZ rfl (vl rfl) (vl rfl) ?hin) ?_;case hin=>unfold GP;omega
 refine a2 ?_
 refine co rfl (FN rfl (vl rfl) (vl rfl) (by omega)) ?_
 refine co rfl (KZ rfl (vl rfl) (vl rfl) ?hin) ?_;case hin=>unfold GP;omega
 refine ac ?_
 refine Mi 0 3 10 11 12 13 14 rfl ?_
 refine an ?_ ?_<;>intro h1 q1
 refine an ?_ ?_<;>intro h2 q2
 exfalso;omega
 refine ac ?_
 refine Tr.YQ 0 [C4 .i64] rfl ⟨BH _ _,trivial⟩ ?_
 refine ap ?_
 refine TO.Tk 0 1 rfl rfl (by decide) rfl rfl (by decide) rfl (Z0 (by omega) (by omega) (by omega) (by omega) (by omega) (by omega) (by omega) (by omega)) ⟨ke rfl,ke rfl,ke rfl,ke rfl,ke rfl,ke rfl,trivial⟩ ?_
 refine TO.ex 54 rfl (fun z1=>TO.fact 54 rfl fun JA=> ?_)
 refine ap ?_
 refine CL 11 13 rfl ?_
 refine ac ?_
 refine Tr.drop 0 (Tr.block (Tr.seq (Tr.ex 55 rfl fun sw=> ?_)))
 refine an ?_ ?_<;>intro h3 q3
 refine ac ?_
 refine Tr.ret (Fin.Au (Fin.JF [] rfl (AL.tmp rfl (Lr)) (AL.tmp rfl (Lr)) ?_))
 · exact A5 (_,_) (A2 ⟨by omega,by omega⟩ (Lr))
 refine an ?_ ?_<;>intro h4 q4
 refine ac ?_
 refine Tr.ret (Fin.Au (Fin.JF [] rfl (AL.tmp rfl (Lr)) (AL.tmp rfl (Lr)) ?_))
 · exact A5 (_,_) (A2 ⟨by omega,by omega⟩ (Lr))
 refine ac ?_
 refine Tr.ret (Fin.Au (Fin.JF [] rfl (AL.tmp rfl (Lr)) (AL.tmp rfl (Lr)) ?_))
 · exact A5 (_,_) (A2 ⟨by omega,by omega⟩ (Lr))
 refine ac ?_
 refine Tr.seq (Tr.YQ 0 [C4 .i64] rfl ⟨BH _ _,trivial⟩ ?_)
 refine ac ?_
 refine Tr.drop 0 (Tr.block (Tr.seq (Tr.ex 55 rfl fun sw=> ?_)))
 refine an ?_ ?_<;>intro h5 q5
 refine ac ?_
 refine CL 8 9 rfl (Tr.ret (Fin.Au (Fin.JF [] rfl (AL.tmp rfl (Lr)) (AL.tmp rfl (Lr)) ?_)))
 · exact A5 (_,_) (A2 ⟨by omega,by omega⟩ (Lr))
 refine ac ?_
 refine CL 13 60 rfl ?_
 refine Tr.cn rfl ?_ ?_<;>intro h6 q6
 refine ac ?_
 refine Tr.ret (Fin.Au (Fin.JF [] rfl (AL.tmp rfl (Lr)) (AL.tmp rfl (Lr)) ?_))
 · exact A5 (_,_) (A2 ⟨by omega,by omega⟩ (Lr))
 refine ac ?_
 refine Tr.ret (Fin.Au (Fin.JF [] rfl (AL.tmp rfl (Lr)) (AL.tmp rfl (Lr)) ?_))
 · exact A5 (_,_) (A2 ⟨by omega,by omega⟩ (Lr))
theorem Z2 {l:List A0} {c:A0×A0→Int} {b0 cap len:Nat} {sp:List Value} {a b:Int} (Kt:l.length=len) (F8:len≤1000000) (h0:0≤a) (hab:a≤b) (hb:b≤len) (hb5:b<50):BE prog 272 [is (.slice (some ⟨b0,0,none⟩) len cap),int a,int b,G1 prog (fun x:A0×A0=>[agg (Ad x.1),agg (Ad x.2)]) (fun x=>int (c x))] (FJ) (AA true b0 96 ((l.map Ad).flatten++sp.map is)) (fun _=>D4 b0 96 Ad (Dp a b l) (sp.map is)):=by
 refine BE.of func272 rfl rfl (by exact Nb rfl) fun M0 w0 S rs M1 w1=> ?_
 have hq:=cT (n:=b-a) (by omega) (by omega)
 obtain ⟨hq1,R6,eY⟩:=hq
 refine ac ?_
 refine an ?_ ?_<;>intro h1 q1
 refine ap ?_
 refine tp rfl (C0 rfl underlying3 underlying294 (vl rfl)) ?_
 refine Tl rfl rfl rfl rfl qM kN (fun b1=> ?_)
 refine ap ?_
 refine Tr.seq (Tr.YQ 0 [C4 .u64] rfl ⟨BH _ _,trivial⟩ ?_)
 refine ap ?_
 refine tp rfl (Bq (fS (by omega) (by omega)) rfl rfl) ?_
 refine TO.ex 21 rfl (fun md=>TO.fact 21 rfl fun hmd=> ?_)
 obtain ⟨tX,tY⟩:=hmd
 have hwm:IntKind.u64.wrap (md-1)=md-1:=IntWalk.u64_in _ ⟨by omega,by omega⟩
 refine ap ?_
 refine ac ?_
 refine co rfl (FN rfl (vl rfl) (vl rfl) (by omega)) ?_
 refine co rfl (KZ rfl (vl rfl) (vl rfl) ?hin) ?_;case hin=>unfold GP;omega
 refine ac ?_
 refine GS 0 1 8 9 10 11 rfl (Tr.block (Tr.Fl [(0,_),(1,_),(8,_),(9,_),(10,_)] ⟨ke rfl,ke rfl,ke rfl,ke rfl,ke rfl,trivial⟩ (fun (i:Int) (st:List A0)=>[(11,int i)]) (fun (i:Int) (st:List A0)=>Hp M0 w0 S (AA true b1 294 [C4 .u64]::AA true b0 96 ((st.map Ad).flatten++sp.map is)::Bc M1 w1::rs)) (fun (i:Int) (st:List A0)=>(a≤i∧i≤b)∧st.length=len∧Dp a b l st) (fun (i:Int) (st:List A0)=>(b-i).toNat) (a+IntKind.i64.wrap ((b-a).tdiv 4)*2-1) (l)  (⟨⟨by omega,by omega⟩,by omega,Dp.refl _ _ _⟩) ⟨ke rfl,trivial⟩ (fun _ _ h=>h) ?_))
 rintro i st  ⟨⟨hi1,hi2⟩,Nq,IV⟩
 refine ac ?_
 refine co rfl (FN rfl (vl rfl) (vl rfl) (by omega)) ?_
 refine co rfl (KZ rfl (vl rfl) (vl rfl) ?hin) ?_;case hin=>unfold GP;omega
 refine ac ?_
 refine Mi 0 1 8 9 10 11 35 rfl ?_
 refine Tr.cn rfl ?_ ?_<;>intro h2 q2
 have:=h2
 refine ac ?_
 refine Tr.seq (Tr.block (Tr.seq (Tr.Ax (TO.FF 0 rfl rfl (by decide) (AV rfl rfl (by decide) rfl (Zw) ⟨ke rfl,trivial⟩) ?_))))
 refine ap ?_
 refine tp rfl (WL rfl (vl rfl) (vl rfl) (by omega) (by omega)) ?_
 refine TO.ex 41 rfl (fun z1=>TO.fact 41 rfl fun JA=> ?_)
 refine tp rfl (Qk rfl underlying251 underlying3 (vl rfl) (by unfold GP;omega)) ?_
 refine ap ?_
 refine Tr.ZP [(0,_),(1,_),(8,_),(9,_),(10,_),(11,_)] ⟨ke rfl,ke rfl,ke rfl,ke rfl,ke rfl,ke rfl,trivial⟩ (fun (ot:Int)=>[(12,int ot)]) (fun (ot:Int)=>Hp M0 w0 S (AA true b1 294 [C4 .u64]::AA true b0 96 ((st.map Ad).flatten++sp.map is)::Bc M1 w1::rs)) (fun (ot:Int)=>0≤ot∧ot<b-a) ?_ ?_
 refine ac ?_
 refine Tc 0 1 8 9 10 11 12 45 rfl ?_
 refine Tr.cn rfl ?_ ?_<;>intro h3 q3
 refine ac ?_
 exact Fin.O8 (_)  (⟨by omega,by omega⟩) ⟨ke rfl,ke rfl,ke rfl,ke rfl,ke rfl,ke rfl,ke rfl,trivial⟩ (fun _ _ h=>h)
 refine Tr.skip (Fin.O8 (_)  (⟨by omega,by omega⟩) ⟨ke rfl,ke rfl,ke rfl,ke rfl,ke rfl,ke rfl,ke rfl,trivial⟩ (fun _ _ h=>h))
 rintro ot  ⟨tZ,td⟩
 refine Tr.rx ?_
 refine ay ?_
 refine xo rfl (fun _=>AH rfl underlying92 AW (vl rfl) (vl rfl) (by omega) (by omega)) (Ev 1 rfl rfl (AQ rfl BD AW (vl rfl) (Am (f:=Ad) (fun _=>rfl) (by omega)) rfl) ?_)
 refine ay ?_
 refine xo rfl (fun _=>AH rfl underlying92 AW (vl rfl) (vl rfl) (by omega) (by omega)) (Ev 1 rfl rfl (AQ rfl BD AW (vl rfl) (Am (f:=Ad) (fun _=>rfl) (by omega)) rfl) (xo rfl (fun _=>AH rfl underlying92 AW (vl rfl) (vl rfl) (by omega) (by omega)) ?_))
 refine Cx.CT 1 rfl rfl (Ab rfl rfl (vl rfl) (Va rfl) AW rfl (by rw [BU (sz:=11) (fun _=>rfl)];omega) (BP (f:=Ad) (fun _=>rfl) (by omega))) ?_
 refine xo rfl (fun _=>AH rfl underlying92 AW (vl rfl) (vl rfl) (by omega) (by omega)) ?_
 refine Cx.CT 1 rfl rfl (Ab rfl rfl (vl rfl) (Va rfl) AW rfl (by rw [BU (sz:=11) (fun _=>rfl)];simp only [List.length_set];omega) (BP (f:=Ad) (fun _=>rfl) (by simp only [List.length_set];omega))) ?_
 refine Cx.nil ⟨by kernel_rfl,?_⟩
 refine A9.done Wd ?_
 refine ac ?_
 refine GS 0 1 8 9 10 11 rfl ?_
 refine ac ?_
 exact Fin.EN (i+1) (_)  (⟨⟨⟨by omega,by omega⟩,by simp only [List.length_set];exact Nq,IV.swap (by omega) (by omega) (by omega) (by omega) (by omega) (by omega) (by omega)⟩,by omega⟩) ⟨ke rfl,ke rfl,ke rfl,ke rfl,ke rfl,ke rfl,trivial⟩ (fun _ _ h=>h)
 have:=h2
 refine Tr.exit (Fin.Ai (Fin.Ai (Fin.BA (Fin.Dn (Dp a b l) 1 rfl (by exact IV) ?_))))
 refine Fin.drop 0 (Fin.Mt rfl)
 refine Tr.skip (Fin.Dn (Dp a b l) 0 rfl (by exact Dp.refl _ _ _) ?_)
 exact Fin.Mt rfl
theorem W8 {l:List A0} {c:A0×A0→Int} {b0 cap len:Nat} {sp:List Value} {a b Vj:Int} (Kt:l.length=len) (F8:len≤1000000) (hw:Go.Sort.SWO (Cs c)) (m_:len<50) (hB:Go.Sort.Below (Cs c) a.toNat b.toNat l.toArray) (h0:0≤a) (hab:a≤b) (hb:b≤len) (Q1:0≤Vj) (hl1:Vj≤100) (m:Nat) (hm:(b-a).toNat<m) (ih:∀{l:List A0} {a b Vj:Int} {sp:List Value},l.length=len→Go.Sort.Below (Cs c) a.toNat b.toNat l.toArray→0≤a→a≤b→b≤len→0≤Vj→Vj≤100→(b-a).toNat+1<m→BE prog 227 [is (.slice (some ⟨b0,0,none⟩) len cap),int a,int b,int Vj,G1 prog (fun x:A0×A0=>[agg (Ad x.1),agg (Ad x.2)]) (fun x=>int (c x))] (FJ) (AA true b0 96 ((l.map Ad).flatten++sp.map is)) (fun _=>D4 b0 96 Ad (Fp c a b l) (sp.map is)))  :BE prog 227 [is (.slice (some ⟨b0,0,none⟩) len cap),int a,int b,int Vj,G1 prog (fun x:A0×A0=>[agg (Ad x.1),agg (Ad x.2)]) (fun x=>int (c x))] (FJ) (AA true b0 96 ((l.map Ad).flatten++sp.map is)) (fun _=>D4 b0 96 Ad (Fp c a b l) (sp.map is)):=by
 refine BE.of func227 rfl rfl (by exact Nb rfl) fun M0 w0 S rs M1 w1=> ?_
 have hls:b.toNat≤l.toArray.size:=by simp only [List.size_toArray];omega
 refine a2 ?_
 refine Tr.block (Tr.Qo [(0,_),(4,_)] ⟨ke rfl,ke rfl,trivial⟩ (fun (a1:Int) (b1:Int) (p:Int×Bool×Bool) (st:List A0)=>[(1,int a1),(2,int b1),(3,int p.1),(10,bool p.2.1),(11,bool p.2.2)]) (fun (a1:Int) (b1:Int) (p:Int×Bool×Bool) (st:List A0)=>Hp M0 w0 S (AA true b0 96 ((st.map Ad).flatten++sp.map is)::Bc M1 w1::rs)) (fun (a1:Int) (b1:Int) (p:Int×Bool×Bool) (st:List A0)=>((a≤a1∧a1≤b1∧b1≤b)∧0≤p.1∧p.1≤100)∧st.length=len∧PS (Cs c) a.toNat b.toNat a1.toNat b1.toNat l.toArray st.toArray) (fun (a1:Int) (b1:Int) (p:Int×Bool×Bool) (st:List A0)=>(b1-a1).toNat) (a) (b) ((Vj,(true,true))) (l)  (⟨⟨⟨by omega,hab,by omega⟩,Q1,hl1⟩,Kt,PS.init (by omega) hB⟩) ⟨ke rfl,ke rfl,ke rfl,ke rfl,ke rfl,trivial⟩ (fun _ _ h=>h) ?_)
 rintro a1 b1 p st  ⟨⟨⟨ha1,ha2,ha3⟩,hpl,fV⟩,Nq,hps⟩
 refine ac ?_
 refine an ?_ ?_<;>intro h1 q1
 refine ap ?_
 refine TO.FF 0 rfl rfl (by decide) (AV rfl rfl (by decide) rfl (Zx (by omega) (by omega) hw (by omega) (by omega) (by omega)) ⟨ke rfl,ke rfl,ke rfl,ke rfl,trivial⟩) (TO.Eg 0 rfl fun t1 Np=> ?_)
 have Ut:=Np.len
 have RG:=(hps.perm hls Np.1).done Np.2
 refine ap ?_
 refine Tr.weak [] trivial (Tr.ret (Fin.AJ (Fin.Au (Fin.AJ (Fin.Au (Fin.Dn (Fp c a b l) 0 rfl (RG) (Fin.Kl rfl)))))))
 refine a2 ?_
 refine dZ 0 1 2 3 4 10 11 12 32 rfl ?_
 refine Tr.cn rfl ?_ ?_<;>intro h2 q2
 refine ap ?_
 refine TO.FF 0 rfl rfl (by decide) (AV rfl rfl (by decide) rfl (W3 (by omega) (by omega) hw (by omega) (by omega) (by omega)) ⟨ke rfl,ke rfl,ke rfl,ke rfl,trivial⟩) (TO.Eg 0 rfl fun t2 UW=> ?_)
 have fV:=UW.len
 have RG:=(hps.perm hls UW.1).done UW.2
 refine ap ?_
 refine Tr.weak [] trivial (Tr.ret (Fin.AJ (Fin.Au (Fin.AJ (Fin.Au (Fin.Dn (Fp c a b l) 0 rfl (RG) (Fin.Kl rfl)))))))
 refine ac ?_
 refine Tr.ZQ [(0,_),(1,_),(2,_),(4,_),(10,_),(11,_),(12,_)] ⟨ke rfl,ke rfl,ke rfl,ke rfl,ke rfl,ke rfl,ke rfl,trivial⟩ (fun (NT:Int) (KQ:List A0)=>[(3,int NT)]) (fun (NT:Int) (KQ:List A0)=>Hp M0 w0 S (AA true b0 96 ((KQ.map Ad).flatten++sp.map is)::Bc M1 w1::rs)) (fun (NT:Int) (KQ:List A0)=>0≤NT∧NT≤100∧KQ.length=len∧PS (Cs c) a.toNat b.toNat a1.toNat b1.toNat l.toArray KQ.toArray) ?_ ?_
 refine an ?_ ?_<;>intro h3 q3
 refine ap ?_
 refine TO.FF 0 rfl rfl (by decide) (AV rfl rfl (by decide) rfl (Z2 (by omega) (by omega) (by omega) (by omega) (by omega) (by omega)) ⟨ke rfl,ke rfl,ke rfl,ke rfl,trivial⟩) (TO.Eg 0 rfl fun t3 hp3=> ?_)
 have tg:=hp3.len
 have hps:=hps.perm hls hp3
 refine ap ?_
 refine Tc 0 1 2 3 4 10 11 12 rfl ?_
 refine ac ?_
 exact Fin.EN (_) (_)  (⟨by omega,by omega,by omega,hps⟩) ⟨ke rfl,ke rfl,ke rfl,ke rfl,ke rfl,ke rfl,ke rfl,ke rfl,trivial⟩ (fun _ _ h=>h)
 refine Tr.skip (Fin.EN (_) (_)  (⟨by omega,by omega,by omega,hps⟩) ⟨ke rfl,ke rfl,ke rfl,ke rfl,ke rfl,ke rfl,ke rfl,ke rfl,trivial⟩ (fun _ _ h=>h))
 rintro NT KQ  ⟨W9,W_,W2,hps⟩
 refine ap ?_
 refine TO.FF 0 rfl rfl (by decide) (AV rfl rfl (by decide) rfl (Z1 (by omega) (by omega) (by omega) (by omega) (by omega) (by omega)) ⟨ke rfl,ke rfl,ke rfl,ke rfl,trivial⟩) ?_
 refine TO.ex 52 rfl (fun z1=>TO.fact 52 rfl fun JA=> ?_)
 obtain ⟨ru,ry⟩:=JA
 refine ap ?_
 refine IJ 0 1 2 3 4 10 11 12 13 14 rfl (Tr.ZR [(0,_),(1,_),(2,_),(3,_),(4,_),(10,_),(11,_),(12,_)] ⟨ke rfl,ke rfl,ke rfl,ke rfl,ke rfl,ke rfl,ke rfl,ke rfl,trivial⟩ (fun (pv:Int) (hint:Int) (dD:List A0)=>[(13,int pv),(14,int hint)]) (fun (pv:Int) (hint:Int) (dD:List A0)=>Hp M0 w0 S (AA true b0 96 ((dD.map Ad).flatten++sp.map is)::Bc M1 w1::rs)) (fun (pv:Int) (hint:Int) (dD:List A0)=>(a1≤pv∧pv<b1)∧dD.length=len∧PS (Cs c) a.toNat b.toNat a1.toNat b1.toNat l.toArray dD.toArray) ?_ ?_)
 refine an ?_ ?_<;>intro h4 q4
 refine ap ?_
 refine TO.FF 0 rfl rfl (by decide) (AV rfl rfl (by decide) rfl (Zy (by omega) (by omega) (by omega) (by omega) (by omega)) ⟨ke rfl,ke rfl,ke rfl,ke rfl,trivial⟩) (TO.Eg 0 rfl fun t5 hp5=> ?_)
 have th:=hp5.len
 have hps:=hps.perm hls hp5
 refine ap ?_
 refine dZ 0 1 2 3 4 10 11 12 13 rfl ?_
 refine ac ?_
 refine dZ 0 1 2 3 4 10 11 12 13 rfl ?_
 refine ac ?_
 exact Fin.D7 (_) (_) (_)  (⟨⟨by omega,by omega⟩,by omega,hps⟩) ⟨ke rfl,ke rfl,ke rfl,ke rfl,ke rfl,ke rfl,ke rfl,ke rfl,ke rfl,ke rfl,trivial⟩ (fun _ _ h=>h)
 refine Tr.skip (Fin.D7 (_) (_) (_)  (⟨⟨by omega,by omega⟩,by omega,hps⟩) ⟨ke rfl,ke rfl,ke rfl,ke rfl,ke rfl,ke rfl,ke rfl,ke rfl,ke rfl,ke rfl,trivial⟩ (fun _ _ h=>h))
 rintro pv hint dD  ⟨⟨ru,ry⟩,tj,hps⟩
 refine IJ 0 1 2 3 4 10 11 12 13 14 rfl (Tr.HM [0,1,2,3,4,10,11,12,13] [] (True) ?_ (fun h5=> ?_))
 refine ag ?_ ?_<;>intro h6 q6
 refine ag ?_ ?_<;>intro h7 q7
 refine ac ?_
 refine IJ 0 1 2 3 4 10 11 12 13 75 rfl ?_
 refine Tr.cn rfl ?_ ?_<;>intro h8 q8
 refine ap ?_
 refine TO.FF 0 rfl rfl (by decide) (AV rfl rfl (by decide) rfl (W6 (by omega) (by omega) hw (by omega) (by omega) (by omega) (by omega)) ⟨ke rfl,ke rfl,ke rfl,ke rfl,trivial⟩) ?_
 refine TO.ex 80 rfl (fun z2=>TO.fact 80 rfl fun Vp=> ?_)
 have QV:=Vp
 refine ap ?_
 refine IJ 0 1 2 3 4 10 11 12 13 80 rfl ?_
 refine Tr.cn rfl ?_ ?_<;>intro h9 q9
 have RG:=hps.done (QV h9)
 refine Tr.ret (Fin.AJ (Fin.Au (Fin.AJ (Fin.Au (Fin.Dn (Fp c a b l) 0 rfl (RG) (Fin.Kl rfl))))))
 refine Tr.skip (Fin.AG () (by simp_all) (kk9 rfl))
 refine Tr.skip (Fin.AG () (by simp_all) (kk9 rfl))
 refine ac ?_
 refine IJ 0 1 2 3 4 10 11 12 13 75 rfl (Tr.cond rfl (fun h=>nomatch h) (fun _=> ?_))
 refine Tr.skip (Fin.AG () (by simp_all) (kk9 rfl))
 refine ac ?_
 refine IJ 0 1 2 3 4 10 11 12 13 75 rfl (Tr.cond rfl (fun h=>nomatch h) (fun _=> ?_))
 refine Tr.skip (Fin.AG () (by simp_all) (kk9 rfl))
 refine ag ?_ ?_<;>intro h10 OZ
 refine ac ?_
 refine cy h10 rfl (AH rfl underlying92 AW (vl rfl) (vl rfl) (by omega) (by omega)) (cy h10 rfl (Az 0 rfl (AQ rfl BD AW (vl rfl) (Am (f:=Ad) (fun _=>rfl) (by omega)) rfl)) ?_)
 refine ac ?_
 refine cy h10 rfl (AH rfl underlying92 AW (vl rfl) (vl rfl) (by omega) (by omega)) (cy h10 rfl (Az 0 rfl (AQ rfl BD AW (vl rfl) (Am (f:=Ad) (fun _=>rfl) (by omega)) rfl)) (cy h10 rfl (BN (_,_) rfl (vl rfl) ⟨ke rfl,ke rfl,trivial⟩) ?_))
 refine ac ?_
 refine IJ 0 1 2 3 4 10 11 12 13 97 rfl ?_
 refine Tr.cn rfl ?_ ?_<;>intro h11 QX
 refine ap ?_
 refine TO.FF 0 rfl rfl (by decide) (AV rfl rfl (by decide) rfl (Zz (by omega) (by omega) (by omega) (by omega) (by omega) (by omega) (by omega)) ⟨ke rfl,ke rfl,ke rfl,ke rfl,ke rfl,trivial⟩) (TO.Eg 0 rfl fun t7 hp7=> ?_)
 have tq:=hp7.len
 obtain ⟨hps,hk1,hk2⟩:=hps.eqL hw hls hp7 (by omega) (by omega) rfl (by omega) (by omega) (by omega) (by omega) (by omega) (by assumption)
 refine ap ?_
 refine Mi 0 2 3 4 10 11 15 rfl ?_
 refine ac ?_
 refine Tr.exit (Fin.Ai (Fin.BA (Fin.E9 (_) (_) ((NT,(_,_))) (_)  (⟨⟨⟨⟨by omega,by omega,by omega⟩,W9,W_⟩,by omega,by exact hps⟩,by omega⟩) ⟨ke rfl,ke rfl,ke rfl,ke rfl,ke rfl,ke rfl,ke rfl,trivial⟩ (fun _ _ h=>h))))
 refine ac ?_
 refine ap ?_
 refine TO.FF 0 rfl rfl (by decide) (AV rfl rfl (by decide) rfl (RF (by omega) (by omega) (by omega) (by omega) (by omega) (by omega) (by omega)) ⟨ke rfl,ke rfl,ke rfl,ke rfl,ke rfl,trivial⟩) ?_
 refine TO.ex 111 rfl (fun z3=>TO.fact 111 rfl fun hz3=> ?_)
 refine TO.Eg 0 rfl fun t8 hp8=> ?_
 have tu:=hp8.len
 obtain ⟨hPm,Uu⟩:=OR hw hp8 (by omega) (by omega) (by omega) (by omega)
 have hps:=hps.perm hls hPm
 have hk1:=Uu.h1
 have hk2:=Uu.h2
 generalize (PA c a1 b1 pv dD).1=k at*
 refine ap ?_
 refine Tc 0 1 2 3 4 12 16 17 rfl ?_
 refine a2 ?_
 refine IJ 0 1 2 3 4 11 12 16 18 19 rfl ?_
 refine ac ?_
 refine co rfl (FN rfl (vl rfl) (vl rfl) (by omega)) ?_
 refine a2 ?_
 refine SK 0 1 2 3 4 11 16 18 19 20 125 rfl ?_
 refine Tr.cn rfl ?_ ?_<;>intro h12 QY
 refine ac ?_
 refine Tc 0 1 2 3 4 10 11 16 rfl ?_
 refine ap ?_
 refine TO.FF 0 rfl rfl (by decide) (AV rfl rfl (by decide) rfl (ih (by omega) (by exact hps.WU (Nat.le_of_lt Uu.h2)) (by omega) (by omega) (by omega) (by omega) (by omega) (by omega)) ⟨ke rfl,ke rfl,ke rfl,ke rfl,ke rfl,trivial⟩) ?_
 refine TO.Eg 0 rfl fun t9 hp9=> ?_
 have tv:=hp9.len
 have hps:=hps.left hw hls Uu hp9.1 hp9.2
 refine ap ?_
 refine Mi 0 2 3 4 10 11 16 rfl ?_
 refine ac ?_
 exact Fin.E9 (_) (_) ((NT,(_,_))) (_)  (⟨⟨⟨⟨by omega,by omega,by omega⟩,W9,W_⟩,by omega,by exact hps⟩,by omega⟩) ⟨ke rfl,ke rfl,ke rfl,ke rfl,ke rfl,ke rfl,ke rfl,trivial⟩ (fun _ _ h=>h)
 refine ac ?_
 refine Tc 0 1 2 3 4 10 11 16 rfl ?_
 refine ap ?_
 refine TO.FF 0 rfl rfl (by decide) (AV rfl rfl (by decide) rfl (ih (by omega) (by exact Uu.WV) (by omega) (by omega) (by omega) (by omega) (by omega) (by omega)) ⟨ke rfl,ke rfl,ke rfl,ke rfl,ke rfl,trivial⟩) ?_
 refine TO.Eg 0 rfl fun t10 fY=> ?_
 have tE:=fY.len
 have hps:=hps.right hw hls Uu fY.1 fY.2
 refine ap ?_
 refine Mi 0 1 3 4 10 11 16 rfl ?_
 refine ac ?_
 exact Fin.E9 (_) (_) ((NT,(_,_))) (_)  (⟨⟨⟨⟨by omega,by omega,by omega⟩,W9,W_⟩,by omega,by exact hps⟩,by omega⟩) ⟨ke rfl,ke rfl,ke rfl,ke rfl,ke rfl,ke rfl,ke rfl,trivial⟩ (fun _ _ h=>h)
 refine ac ?_
 refine IJ 0 1 2 3 4 10 11 12 13 97 rfl ?_
 refine ac ?_
 refine ap ?_
 refine TO.FF 0 rfl rfl (by decide) (AV rfl rfl (by decide) rfl (RF (by omega) (by omega) (by omega) (by omega) (by omega) (by omega) (by omega)) ⟨ke rfl,ke rfl,ke rfl,ke rfl,ke rfl,trivial⟩) ?_
 refine TO.ex 111 rfl (fun z4=>TO.fact 111 rfl fun hz4=> ?_)
 refine TO.Eg 0 rfl fun t11 nA=> ?_
 have tF:=nA.len
 obtain ⟨hPm,Uu⟩:=OR hw nA (by omega) (by omega) (by omega) (by omega)
 have hps:=hps.perm hls hPm
 have hk1:=Uu.h1
 have hk2:=Uu.h2
 generalize (PA c a1 b1 pv dD).1=k at*
 refine ap ?_
 refine Tc 0 1 2 3 4 12 16 17 rfl ?_
 refine a2 ?_
 refine IJ 0 1 2 3 4 11 12 16 18 19 rfl ?_
 refine ac ?_
 refine co rfl (FN rfl (vl rfl) (vl rfl) (by omega)) ?_
 refine a2 ?_
 refine SK 0 1 2 3 4 11 16 18 19 20 125 rfl ?_
 refine Tr.cn rfl ?_ ?_<;>intro HW Q_
 refine ac ?_
 refine Tc 0 1 2 3 4 10 11 16 rfl ?_
 refine ap ?_
 refine TO.FF 0 rfl rfl (by decide) (AV rfl rfl (by decide) rfl (ih (by omega) (by exact hps.WU (Nat.le_of_lt Uu.h2)) (by omega) (by omega) (by omega) (by omega) (by omega) (by omega)) ⟨ke rfl,ke rfl,ke rfl,ke rfl,ke rfl,trivial⟩) ?_
 refine TO.Eg 0 rfl fun t12 fZ=> ?_
 have tH:=fZ.len
 have hps:=hps.left hw hls Uu fZ.1 fZ.2
 refine ap ?_
 refine Mi 0 2 3 4 10 11 16 rfl ?_
 refine ac ?_
 exact Fin.E9 (_) (_) ((NT,(_,_))) (_)  (⟨⟨⟨⟨by omega,by omega,by omega⟩,W9,W_⟩,by omega,by exact hps⟩,by omega⟩) ⟨ke rfl,ke rfl,ke rfl,ke rfl,ke rfl,ke rfl,ke rfl,trivial⟩ (fun _ _ h=>h)
 refine ac ?_
 refine Tc 0 1 2 3 4 10 11 16 rfl ?_
 refine ap ?_
 refine TO.FF 0 rfl rfl (by decide) (AV rfl rfl (by decide) rfl (ih (by omega) (by exact Uu.WV) (by omega) (by omega) (by omega) (by omega) (by omega) (by omega)) ⟨ke rfl,ke rfl,ke rfl,ke rfl,ke rfl,trivial⟩) ?_
 refine TO.Eg 0 rfl fun t13 fc=> ?_
 have tI:=fc.len
 have hps:=hps.right hw hls Uu fc.1 fc.2
 refine ap ?_
 refine Mi 0 1 3 4 10 11 16 rfl ?_
 refine ac ?_
 exact Fin.E9 (_) (_) ((NT,(_,_))) (_)  (⟨⟨⟨⟨by omega,by omega,by omega⟩,W9,W_⟩,by omega,by exact hps⟩,by omega⟩) ⟨ke rfl,ke rfl,ke rfl,ke rfl,ke rfl,ke rfl,ke rfl,trivial⟩ (fun _ _ h=>h)
theorem Tx:∀(m:Nat) {l:List A0} {c:A0×A0→Int} {b0 cap len:Nat} {sp:List Value} {a b Vj:Int},(Kt:l.length=len)→(F8:len≤1000000)→(hw:Go.Sort.SWO (Cs c))→(m_:len<50)→Go.Sort.Below (Cs c) a.toNat b.toNat l.toArray→0≤a→a≤b→b≤len→0≤Vj→Vj≤100→(b-a).toNat<m→BE Tryz.prog 227 [is (.slice (some ⟨b0,0,none⟩) len cap),int a,int b,int Vj,G1 Tryz.prog (fun x:A0×A0=>[agg (Ad x.1),agg (Ad x.2)]) (fun x=>int (c x))] (FJ) (AA true b0 96 ((l.map Ad).flatten++sp.map is)) (fun _=>D4 b0 96 Ad (Fp c a b l) (sp.map is))
 |0,_,_,_,_,_,_,_,_,_,_,_,_,_,_,_,_,_,_,_,h=>absurd h (Nat.not_lt_zero _)
 |m+1,_,_,_,_,_,_,_,_,_,Kt,F8,hw,m_,hB,h0,hab,hb,Q1,hl1,hm=>W8 Kt F8 hw m_ hB h0 hab hb Q1 hl1 (m+1) hm (fun h1 h2 h3 h4 h5 h6 h7 h8=>Tx m h1 F8 hw m_ h2 h3 h4 h5 h6 h7 (by omega))
theorem Z3 {l:List A0} {c:A0×A0→Int} {b0 cap len:Nat} {sp:List Value}  (Kt:l.length=len) (hw:Go.Sort.SWO (Cs c)) (m_:len<50):BE prog 196 [is (.slice (some ⟨b0,0,none⟩) len cap),G1 prog (fun x:A0×A0=>[agg (Ad x.1),agg (Ad x.2)]) (fun x=>int (c x))] (FJ) (AA true b0 96 ((l.map Ad).flatten++sp.map is)) (fun _=>D4 b0 96 Ad (Fp c 0 len l) (sp.map is)):=by
 refine BE.of func196 rfl rfl (by exact Nb rfl) fun M0 w0 S rs M1 w1=> ?_
 have tw:IntKind.u64.wrap ((len:Nat):Int)=len:=IntWalk.u64_in _ ⟨by omega,by omega⟩
 refine ac ?_
 refine co rfl (D9 rfl underlying92 (vl rfl)) ?_
 refine ac ?_
 refine ap ?_
 refine tp rfl (C0 rfl underlying3 underlying251 (vl rfl)) (tp rfl (Bq (Pk (by omega) (by omega)) rfl rfl) ?_)
 refine TO.ex 11 rfl (fun k=>TO.fact 11 rfl fun hk=> ?_)
 obtain ⟨hk1,hk2,YW⟩:=hk
 refine tm rfl (TO.FF 0 rfl rfl (by decide) (AV rfl rfl (by decide) rfl (Tx (len+1) (by omega) (by omega) hw (by omega) (.inl rfl) (by omega) (by omega) (by omega) (by omega) (by omega) (by omega)) ⟨ke rfl,ke rfl,ke rfl,ke rfl,ke rfl,trivial⟩) (TO.Eg 0 rfl fun t1 Np=> ?_))
 have Ut:=Np.len
 refine TO.nil (Fin.Dn (Fp c 0 len l) 0 rfl (Np) (Fin.Mt rfl))
theorem Z4 {rows:List (List Pr)} {b:Int} (hb:b≤1):A4 prog 270 [slice 11 rows,int 0,int b,any] (FJ):=by
 refine fo func270 rfl ⟨rfl,rfl⟩ fun M0 w0=> ?_
 refine ac ?_
 refine Tr.block (Tr.BW [(0,_),(1,_),(2,_),(3,_)] (R7 rfl) (fun i:Int=>[(8,int i)]) (fun i:Int=>i=1) (fun i:Int=>0) 1 (rfl) ⟨ke rfl,trivial⟩ ?_)
 rintro i hi
 refine an ?_ ?_<;>intro h1 q1
 have:=h1
 exfalso;omega
 have:=h1
 refine Tr.exit (Fin.Ai (Fin.Ai (Fin.BA (Fin.kR rfl))))
theorem Z5 {rows:List (List Pr)} {b:Int} (h0:0≤b) (hb:b≤1):A4 prog 227 [slice 11 rows,int 0,int b,any,any] (FJ):=by
 refine fo func227 rfl ⟨rfl,rfl⟩ fun M0 w0=> ?_
 refine a2 ?_
 refine Tr.block (Tr.BW [(0,_),(4,_)] (LH rfl) (fun (u:Unit)=>[(1,int 0),(2,int b)]) (fun (u:Unit)=>True) (fun (u:Unit)=>0) () (trivial) ⟨ke rfl,ke rfl,trivial⟩ ?_)
 rintro u _
 refine ac ?_
 refine an ?_ ?_<;>intro h1 q1
 refine ac ?_
 refine co rfl (kc4 (Z4 (by omega)) rfl rfl rfl rfl rfl) ?_
 refine ac ?_
 refine Tr.weak [] trivial (Tr.ret (Fin.AJ (Fin.Au (Fin.AJ (Fin.Au (Fin.kS rfl))))))
 exfalso;omega
theorem XA {rows:List (List Pr)} (hs:rows.length≤1):A4 prog 196 [slice 11 rows,any] (FJ):=by
 refine fo func196 rfl ⟨rfl,rfl⟩ fun M0 w0=> ?_
 have hw:IntKind.u64.wrap ((rows.length:Nat):Int)=rows.length:=IntWalk.u64_in _ ⟨by omega,by omega⟩
 refine ac ?_
 refine co rfl (CV rfl underlying92 (vl rfl)) ?_
 refine a2 ?_
 refine co rfl (C0 rfl underlying3 underlying251 (vl rfl)) (co rfl (Bq (Pk (by omega) (by omega)) rfl rfl) (cm rfl (co rfl (AX rfl (Z5 (rows:=rows) (b:=(rows.length:Int)) (by omega) (by omega)) ⟨ke rfl,ke rfl,ke rfl,⟨_,rfl,R_ _⟩,⟨_,rfl,R_ _⟩,trivial⟩) (Ch.nil (Fin.kR rfl)))))
structure Nr {α:Type} (c:α→α→Int):Prop where
 swap:∀x y,c y x= -c x y
 tr:∀x y z,c x y<0→c y z<0→c x z<0
 eq:∀x y z,c x y=0→c x z=c y z
theorem Nr.eqr {α:Type} {c:α→α→Int} (h:Nr c) (x y z:α) (e:c y z=0):c x y=c x z:=by
 have h1:=h.eq y z x e
 have h2:=h.swap x y
 have h3:=h.swap x z
 omega
theorem Nr.swo {α:Type} {c:α→α→Int} (h:Nr c):Go.Sort.SWO (Cs fun p:α×α=>c p.1 p.2) where
 irrefl x:=by have:=h.swap x x;exact decide_eq_false (by show ¬c x x<0;omega)
 trans x y z h1 h2:=decide_eq_true (h.tr x y z (of_decide_eq_true h1) (of_decide_eq_true h2))
 ntrans x y z h1 h2:=by
  have h1:¬c x y<0:=of_decide_eq_false h1
  have h2:¬c y z<0:=of_decide_eq_false h2
  refine decide_eq_false (show ¬c x z<0 from fun h3=> ?_)
  have e1:=h.swap x y
  by_cases hxy:c x y=0
  · have:=h.eq x y z hxy;omega
  · have:=h.tr y x z (by omega) h3;omega
theorem Nr.cons {α:Type} {c d:α→α→Int} (h:Nr c) (k:Nr d):Nr (fun x y=>if c x y=0 then d x y else c x y) where
 swap x y:=by
  have h1:=h.swap x y
  have h2:=k.swap x y
  show (if c y x=0 then d y x else c y x)= -(if c x y=0 then d x y else c x y)
  by_cases e:c x y=0
  · rw [if_pos e,if_pos (by omega)];exact h2
  · rw [if_neg e,if_neg (by omega)];exact h1
 tr x y z h1 h2:=by
  show (if c x z=0 then d x z else c x z)<0
  have h1:(if c x y=0 then d x y else c x y)<0:=h1
  have h2:(if c y z=0 then d y z else c y z)<0:=h2
  by_cases e1:c x y=0
  ·
   rw [if_pos e1] at h1
   have e3:=h.eq x y z e1
   by_cases e2:c y z=0
   · rw [if_pos e2] at h2;rw [if_pos (by omega)];exact k.tr x y z h1 h2
   · rw [if_neg e2] at h2;rw [if_neg (by omega)];omega
  ·
   rw [if_neg e1] at h1
   by_cases e2:c y z=0
   ·
    have e3:=h.eqr x y z e2
    rw [if_neg (by omega)];omega
   ·
    rw [if_neg e2] at h2
    have:=h.tr x y z h1 h2
    rw [if_neg (by omega)];exact this
 eq x y z h1:=by
  have h1:(if c x y=0 then d x y else c x y)=0:=h1
  show (if c x z=0 then d x z else c x z)=(if c y z=0 then d y z else c y z)
  by_cases e1:c x y=0
  ·
   rw [if_pos e1] at h1
   rw [h.eq x y z e1,k.eq x y z h1]
  · rw [if_neg e1] at h1;exact absurd h1 e1
theorem Nr.nil {α:Type}:Nr (fun _ _:α=>0):=⟨fun _ _=>rfl,fun _ _ _ h=>absurd h (by decide),fun _ _ _ _=>rfl⟩
theorem Nr.on {α β:Type} {c:β→β→Int} (f:α→β) (h:Nr c):Nr (fun x y=>c (f x) (f y)):=⟨fun x y=>h.swap (f x) (f y),fun x y z=>h.tr (f x) (f y) (f z),fun x y z=>h.eq (f x) (f y) (f z)⟩
theorem Gn:Nr CH:=⟨fun x y=>by unfold CH;by_cases h1:x<y<;>by_cases h2:y<x<;>simp [h1,h2]<;>omega,fun x y z h1 h2=>by unfold CH at*;(repeat (split at h1))<;>(repeat (split at h2))<;>(repeat (split))<;>omega,fun x y z h=>by rw [Ks.1 h]⟩
theorem Z6 (x y:UInt8) (xs ys:List UInt8):Lib.compareBytes (x::xs) (y::ys)<0↔x.toNat<y.toNat∨(x.toNat=y.toNat∧Lib.compareBytes xs ys<0):=by
 rw [Lib.compareBytes]
 by_cases a1:x<y
 ·
  rw [if_pos a1]
  have:=UInt8.lt_iff_toNat_lt.1 a1
  constructor
  · intro _;exact .inl this
  · intro _;decide
 ·
  have b1:¬x.toNat<y.toNat:=fun h=>a1 (UInt8.lt_iff_toNat_lt.2 h)
  rw [if_neg a1]
  by_cases a2:y<x
  ·
   have:=UInt8.lt_iff_toNat_lt.1 a2
   rw [if_pos a2]
   constructor
   · intro h;exact absurd h (by decide)
   · intro h;omega
  ·
   have b2:¬y.toNat<x.toNat:=fun h=>a2 (UInt8.lt_iff_toNat_lt.2 h)
   rw [if_neg a2]
   constructor
   · intro h;exact .inr ⟨by omega,h⟩
   ·
    rintro (h|h)
    · omega
    · exact h.2
theorem KB:∀(a b c:List UInt8),Lib.compareBytes a b<0→Lib.compareBytes b c<0→Lib.compareBytes a c<0
 |[],[],_,h,_=>by simp [Lib.compareBytes] at h
 |[],_::_,[],_,h=>by simp [Lib.compareBytes] at h
 |[],_::_,_::_,_,_=>by simp [Lib.compareBytes]
 |_::_,[],_,h,_=>by simp [Lib.compareBytes] at h
 |_::_,_::_,[],_,h=>by simp [Lib.compareBytes] at h
 |x::xs,y::ys,z::zs,h1,h2=>by
  rw [Z6] at h1 h2 ⊢
  rcases h1 with h1|h1
  ·
   rcases h2 with h2|h2
   · left;omega
   · left;omega
  ·
   rcases h2 with h2|h2
   · left;omega
   · right;exact ⟨by omega,KB xs ys zs h1.2 h2.2⟩
theorem Ku:Nr Lib.compareBytes:=⟨IU,KB,fun x y z h=>by rw [(J3 x y).1 h]⟩
theorem XB (a:Int) (l:List Int):IC (a::l)=if a=0 then IC l else a:=rfl
theorem Ik:Nr FG:=by
 have:=(Ku.on A0.host).cons ((Gn.on A0.machine).cons ((Gn.on A0.day).cons ((Ku.on A0.Eh).cons ((Gn.on A0.kind).cons ((Gn.on A0.BO).cons ((Gn.on A0.bits).cons ((Gn.on A0.num).cons ((Ku.on A0.text).cons ((Gn.on A0.src).cons ((Gn.on A0.E0).cons (Nr.nil (α:=A0))))))))))))
 exact this
def He {α:Type} (c:α→α→Int) (l:List α):Prop:=l.Pairwise fun x y=>c x y≤0
theorem RH {α:Type} {c:α→α→Int} (hc:Nr c) {l m:List α} (hp:l.Perm m) (h1:He c l) (h2:He c m) (h:∀x y,x∈l→y∈l→c x y=0→x=y):l=m:=
 List.Perm.eq_of_pairwise (le:=fun x y=>c x y≤0) (fun a b ha hb h3 h4=>h a b ha (hp.mem_iff.2 hb) (by have:=hc.swap a b;omega)) h1 h2 hp
theorem Sl {α:Type} [Inhabited α] {c:α→α→Int} (hc:Nr c) {l st:List α} (h:Fp (fun p=>c p.1 p.2) 0 (l.length:Nat) l st):st.Perm l∧He c st:=by
 refine ⟨Dp.whole h.1,?_⟩
 have hl:=h.len
 unfold He
 rw [List.pairwise_iff_getElem]
 intro i j hi hj hij
 have h1:=h.2 i j (by simp) hij (by simp;omega)
 have e1:st.toArray[i]! =st[i]:=by simp [hi]
 have e2:st.toArray[j]! =st[j]:=by simp [hj]
 rw [e1,e2] at h1
 have h2:¬c st[j] st[i]<0:=of_decide_eq_false h1
 have:=hc.swap st[i] st[j]
 omega
section
variable {β:Type} [DecidableEq β]
def Sm (acc:List β) (x:β):List β:=if acc.getLast? =some x then acc else acc++[x]
def Lf (l:List β):List β:=l.foldl Sm []
theorem NU {l:List β} {j:Nat} {x:β} (h:l[j]? =some x):Lf (l.take (j+1))=Sm (Lf (l.take j)) x:=by
 unfold Lf;rw [List.take_add_one,h,List.foldl_append];rfl
theorem XC (acc:List β) (x:β):(Sm acc x).getLast? =some x:=by
 unfold Sm;split
 · assumption
 · simp
theorem RI {l:List β} {j:Nat} {y:β} (hj:1≤j) (h:l[j-1]? =some y):(Lf (l.take j)).getLast? =some y:=by
 have:=NU (j:=j-1) h
 rw [show j-1+1=j by omega] at this
 rw [this];exact XC _ _
theorem XD {l:List β} {j:Nat} {x y:β} (hj:1≤j) (hx:l[j]? =some x) (hy:l[j-1]? =some y) (hne:¬x=y):Lf (l.take (j+1))=Lf (l.take j)++[x]:=by
 rw [NU hx];unfold Sm
 rw [if_neg]
 rw [RI hj hy];intro e;injection e with e;exact hne e.symm
theorem RJ {l:List β} {j:Nat} {x y:β} (hj:1≤j) (hx:l[j]? =some x) (hy:l[j-1]? =some y) (he:x=y):Lf (l.take (j+1))=Lf (l.take j):=by
 rw [NU hx];unfold Sm
 rw [if_pos]
 rw [RI hj hy,he]
theorem Kv {l:List β} (h:l.length<2):Lf l=l:=by
 match l,h with
 |[],_=>rfl
 |[x],_=>rfl
theorem Z7 (acc:List β) (x:β):(Sm acc x).length≤acc.length+1:=by unfold Sm;split<;>simp
theorem Pm (l:List β):(Lf l).length≤l.length:=by
 have key:∀(l acc:List β),(l.foldl Sm acc).length≤acc.length+l.length:=by
  intro l
  induction l with
  |nil=>intro acc;simp
  |cons x l ih=>intro acc;have h1:=ih (Sm acc x);have h2:=Z7 acc x;simp only [List.foldl_cons,List.length_cons];omega
 have:=key l []
 unfold Lf;simpa using this
theorem Ty {acc:List β} {a x:β}:x∈Sm acc a↔x∈acc∨x=a:=by
 unfold Sm;split
 ·
  rename_i h
  constructor
  · exact .inl
  ·
   rintro (h1|rfl)
   · exact h1
   · exact List.mem_of_getLast? h
 · simp
theorem Z8 {l:List β} {x:β}:x∈Lf l↔x∈l:=by
 have key:∀(l acc:List β),x∈l.foldl Sm acc↔x∈acc∨x∈l:=by
  intro l
  induction l with
  |nil=>intro acc;simp
  |cons a l ih=>intro acc;rw [List.foldl_cons,ih,Ty,List.mem_cons,or_assoc]
 unfold Lf;rw [key];simp
abbrev Hf (c:β→β→Int) (l:List β):Prop:=l.Pairwise fun x y=>c x y<0
theorem Sn {c:β→β→Int} (hc:Nr c) (he:∀x y,c x y=0→x=y) {l:List β} (h:He c l):Hf c (Lf l):=by
 have key:∀(l acc:List β),Hf c acc→(∀a∈acc,∀x∈l,c a x≤0)→He c l→Hf c (l.foldl Sm acc):=by
  intro l
  induction l with
  |nil=>intro acc h1 _ _;exact h1
  |cons x l ih=>
   intro acc h1 h2 h3
   obtain ⟨h4,h5⟩:=List.pairwise_cons.1 h3
   rw [List.foldl_cons]
   refine ih _ ?_ (fun a ha y hy=> ?_) h5
   ·
    unfold Sm;split
    · exact h1
    ·
     rename_i hl
     unfold Hf
     rw [List.pairwise_append]
     refine ⟨h1,by simp,fun a ha b hb=> ?_⟩
     simp at hb;subst hb
     have hle:=h2 a ha b (by simp)
     rcases Int.lt_or_eq_of_le hle with hlt|heq
     · exact hlt
     ·
      have e:=he _ _ heq
      subst e
      exfalso
      obtain ⟨pre,z,hz⟩:∃pre z,acc=pre++[z]:=by
       rcases List.eq_nil_or_concat acc with rfl|⟨pre,z,hz⟩
       · cases ha
       · exact ⟨pre,z,by simpa using hz⟩
      subst hz
      rcases List.mem_append.1 ha with ha|ha
      ·
       have h6:=(List.pairwise_append.1 h1).2.2 a ha z (by simp)
       have h7:=h2 z (by simp) a (by simp)
       have h8:=hc.swap a z
       have h6:c a z<0:=h6
       omega
      · simp at ha;subst ha;simp at hl
   ·
    rcases Ty.1 ha with ha|rfl
    · exact h2 a ha y (List.mem_cons_of_mem _ hy)
    · exact h4 y hy
 exact key l [] .nil (by simp) h
theorem RK {c:β→β→Int} (hc:Nr c) {l m:List β} (h1:Hf c l) (h2:Hf c m) (h:∀x,x∈l↔x∈m):l=m:=by
 have hn:∀{k:List β},Hf c k→k.Nodup:=fun hk=>hk.imp fun {a b} hab e=>by subst e;have:=hc.swap a a;omega
 have hp:l.Perm m:=(List.perm_ext_iff_of_nodup (hn h1) (hn h2)).2 h
 refine RH hc hp (h1.imp fun h=>Int.le_of_lt h) (h2.imp fun h=>Int.le_of_lt h) fun x y hx hy e=> ?_
 obtain ⟨i,hi,rfl⟩:=List.mem_iff_getElem.1 hx
 obtain ⟨j,hj,rfl⟩:=List.mem_iff_getElem.1 hy
 have hp:=List.pairwise_iff_getElem.1 h1
 rcases Nat.lt_trichotomy i j with hij|hij|hij
 · have:=hp i j hi hj hij;omega
 · subst hij;rfl
 ·
  have:=hp j i hj hi hij
  have h3:=hc.swap l[i] l[j]
  omega
omit [DecidableEq β] in
theorem XE {l:List β} {w:Nat} {u:β} (h:w<l.length):(l.set w u).take (w+1)=l.take w++[u]:=by
 rw [List.take_add_one,List.getElem?_set_self h,List.take_set_of_le (Nat.le_refl _)];rfl
theorem Od {γ:Type} {f:γ→List Pr} {l:List γ} {qs:List Pr} {sz:Nat} {i:Int} {x:γ} (hf:∀x,(f x).length=sz) (h:l[i.toNat]? =some x):((((l.map f).flatten++qs).drop (0+i.toNat*sz)).take sz)=f x:=by
 rw [Nat.zero_add];exact My hf h
theorem Kw {γ:Type} {f:γ→List Pr} {l:List γ} {qs:List Pr} {sz m i:Nat} {x:γ} (hf:∀x,(f x).length=sz) (h:l[m+i]? =some x):((((l.map f).flatten++qs).drop (m*sz+i*sz)).take sz)=f x:=by
 rw [←Nat.add_mul];exact My hf h
end
deriving instance DecidableEq for A0
theorem ff {c:A0→A0→Int} (hc:Nr c) {l:List A0} (h:∀(j:Nat) a b,l[j]? =some a→l[j+1]? =some b→c a b<0):Hf c l:=by
 induction l with
 |nil=>exact .nil
 |cons x l ih=>
  have hl:∀(j:Nat) a b,l[j]? =some a→l[j+1]? =some b→c a b<0:=fun j a b ha hb=>h (j+1) a b (by simpa using ha) (by simpa using hb)
  have ih:=ih hl
  refine List.pairwise_cons.2 ⟨fun y hy=> ?_,ih⟩
  cases l with
  |nil=>cases hy
  |cons z l=>
   have h0:c x z<0:=h 0 x z rfl rfl
   rcases List.mem_cons.1 hy with rfl|hy
   · exact h0
   · exact hc.tr x z y h0 ((List.pairwise_cons.1 ih).1 y hy)
theorem Oe {a b:A0} (h:FG a b=0):a=b:=by
 have hk:∀(l:List Int),IC l=0→∀x∈l,x=0:=by
  intro l
  induction l with
  |nil=>intro _ x hx;cases hx
  |cons y l ih=>
   intro h x hx
   rw [XB] at h
   by_cases hy:y=0
   ·
    rw [if_pos hy] at h
    rcases List.mem_cons.1 hx with rfl|hx
    · exact hy
    · exact ih h x hx
   · rw [if_neg hy] at h;exact absurd h hy
 have:=hk _ h
 unfold GH at this
 simp only [List.mem_cons,List.not_mem_nil,or_false,forall_eq_or_imp,forall_eq,J3,Ks] at this
 obtain ⟨h1,h2,h3,h4,h5,h6,h7,h8,h9,h10,h11⟩:=this
 cases a;cases b;simp_all
theorem XF {l:List A0} {f x:A0}:x∈Ft l f↔x∈l∨x=f:=by
 constructor
 · exact Zt
 ·
  intro h
  unfold Ft
  split
  ·
   rename_i hk
   rcases h with h|rfl
   · exact h
   ·
    obtain ⟨h1,h2⟩:=hk
    rw [Option.map_eq_some_iff] at h2
    obtain ⟨y,hy,e⟩:=h2
    rw [←Oe e];exact List.mem_of_getElem? hy
  ·
   rcases h with h|rfl
   ·
    rw [List.append_assoc,List.mem_append,List.mem_append]
    rw [←List.take_append_drop (kF l f) l] at h
    rcases List.mem_append.1 h with h|h
    · exact .inl h
    · exact .inr (.inr h)
   · simp
abbrev LO (l:List A0):List A0:=l.foldl Ft []
theorem Uv {l:List A0} {x:A0}:x∈LO l↔x∈l:=by
 have key:∀(l acc:List A0),x∈l.foldl Ft acc↔x∈acc∨x∈l:=by
  intro l
  induction l with
  |nil=>intro acc;simp
  |cons a l ih=>intro acc;rw [List.foldl_cons,ih,XF,List.mem_cons,or_assoc]
 rw [key];simp
theorem RL (l:List A0):Hf FG (LO l):=ff Ik (RD l [] (fun j a b h=>by simp at h))
theorem Z9 {l st:List A0} (hp:st.Perm l) (hs:He FG st):Lf st=LO l:=
 RK Ik (Sn Ik (fun _ _=>Oe) hs) (RL l) fun x=>by rw [Z8,Uv];exact hp.mem_iff
theorem fm {x y:A0} (h:x.src=y.src∧x.host=y.host∧x.machine=y.machine∧x.day=y.day∧x.E0=y.E0∧x.kind=y.kind∧x.Eh=y.Eh∧x.BO=y.BO∧x.bits=y.bits∧x.num=y.num∧x.text=y.text):x=y:=by
 cases x;cases y;simp at h;simp [h]
theorem L5 {x y:A0}:x=y↔(x.src=y.src∧x.host=y.host∧x.machine=y.machine∧x.day=y.day∧x.E0=y.E0∧x.kind=y.kind∧x.Eh=y.Eh∧x.BO=y.BO∧x.bits=y.bits∧x.num=y.num∧x.text=y.text):=
 ⟨by rintro rfl;simp,fm⟩
theorem Z_ {l:List A0} {b0 cap len:Nat} {sp:List Value} (Kt:l.length=len) (F8:len≤1000000) (hcap:len≤cap) (hm:cap≤maxLen):BE prog 198 [is (.slice (some ⟨b0,0,none⟩) len cap)] (is (.slice (some ⟨b0,0,none⟩) (Lf l).length cap)) (AA true b0 96 ((l.map Ad).flatten++sp.map is)) (fun _=>AA true b0 96 (((Lf l).map Ad).flatten++((List.replicate (l.length-(Lf l).length) (([.int .i64 0,.string (ByteArray.mk #[]),.int .i64 0,.int .i64 0,.int .i64 0,.int .i64 0,.string (ByteArray.mk #[]),.int .i64 0,.int .i64 0,.int .i64 0,.string (ByteArray.mk #[])]:List Value).map is)).flatten++sp.map is))):=by
 refine BE.of func198 rfl rfl (by exact Nb rfl) fun M0 w0 S rs M1 w1=> ?_
 have hmx:cap≤9223372036854775807:=by unfold maxLen at hm;omega
 refine a2 ?_
 refine co rfl (D9 rfl underlying92 (vl rfl)) ?_
 refine an ?_ ?_<;>intro h1 q1
 refine ac ?_
 refine Tr.ret (Fin.AJ ?_)
 refine Fin.Dz rfl rfl ?_ (fun _ _ _ _=>by rw [Kv (by omega),Nat.sub_self];rfl)
 · refine Pr.le_of_eq ?_;rw [Kv (by omega),Kt]
 refine a2 ?_
 refine Tr.block ?_
 refine Tr.V1 [(0,_)] ⟨ke rfl,trivial⟩ (fun (k:Nat)=>[(3,int ((k:Nat):Int))]) (fun (k:Nat)=>Hp M0 w0 S (AA true b0 96 ((l.map Ad).flatten++sp.map is)::Bc M1 w1::rs)) (fun (k:Nat)=>(1≤k∧k≤len)∧Lf (l.take k)=l.take k) (fun (k:Nat)=>len-k) (1)  (⟨⟨by omega,by omega⟩,Kv (by rw [List.length_take];omega)⟩) ⟨ke rfl,trivial⟩ (fun _ _ h=>h) ?_
 rintro k  ⟨⟨hk1,hk2⟩,jF⟩
 refine ac ?_
 refine co rfl (D9 rfl underlying92 (vl rfl)) ?_
 refine an ?_ ?_<;>intro h2 q2
 have O3:k<len:=by have:=of_decide_eq_true h2;omega
 obtain ⟨x,hx⟩:=at_ (l:=l) (k:=k) (by omega)
 obtain ⟨p,hp⟩:=at_ (l:=l) (k:=k-1) (by omega)
 refine a2 ?_
 refine co rfl (AH rfl underlying92 AW (vl rfl) (vl rfl) (by omega) (by omega)) ?_
 refine co rfl (Az 0 rfl (AQ rfl BD AW (vl rfl) (Od (fun _=>rfl) (by rw [Int.toNat_natCast];exact hx)) rfl)) ?_
 refine ac ?_
 refine co rfl (AH rfl underlying92 AW (vl rfl) (vl rfl) (by omega) (by omega)) ?_
 refine co rfl (Az 0 rfl (AQ rfl BD AW (vl rfl) (Od (fun _=>rfl) (by rw [show ((k:Int)-1).toNat=k-1 by omega];exact hp)) rfl)) ?_
 refine co rfl (Zf rfl (vl rfl) (vl rfl)) ?_
 refine ac ?_
 refine Cr 0 3 25 rfl ?_
 refine Tr.cn rfl ?_ ?_<;>intro h3 q3
 refine ac ?_
 refine co rfl (Bz rfl underlying92 AW (vl rfl) (vl rfl) (by omega) (by omega) (by omega)) ?_
 refine a2 ?_
 refine Tr.block (Tr.IK [(0,_),(4,_)] ⟨ke rfl,ke rfl,trivial⟩ (fun (st:List A0) (w:Nat) (j:Nat)=>[(3,int ((w:Nat):Int)),(5,int ((j:Nat):Int))]) (fun (st:List A0) (w:Nat) (j:Nat)=>Hp M0 w0 S (AA true b0 96 ((st.map Ad).flatten++sp.map is)::Bc M1 w1::rs)) (fun (st:List A0) (w:Nat) (j:Nat)=>(st.length=len∧k≤w∧1≤j∧k+j≤len∧w+1≤k+j)∧st.take w=Lf (l.take (k+j))∧∀i,k+j≤i+1→st[i]? =l[i]?) (fun (st:List A0) (w:Nat) (j:Nat)=>len-(k+j)) (l) (k) (1)  (⟨⟨Kt,Nat.le_refl _,Nat.le_refl _,by omega,by omega⟩,by rw [RJ (by omega) hx hp (L5.2 (by assumption)),jF],fun _ _=>rfl⟩) ⟨ke rfl,ke rfl,trivial⟩ (fun _ _ h=>h) ?_)
 rintro st w j  ⟨⟨Nq,hw1,ZM,hj2,hw2⟩,jV,hst⟩
 refine ac ?_
 refine co rfl (D9 rfl underlying92 (vl rfl)) ?_
 refine an ?_ ?_<;>intro h4 q4
 have hjl:k+j<len:=by have:=of_decide_eq_true h4;omega
 obtain ⟨u,hu⟩:=at_ (l:=l) (k:=k+j) (by omega)
 obtain ⟨v,hv⟩:=at_ (l:=l) (k:=k+j-1) (by omega)
 have hu2:st[k+j]? =some u:=(hst _ (by omega)).trans hu
 have HG:st[k+j-1]? =some v:=(hst _ (by omega)).trans hv
 refine a2 ?_
 refine co rfl (AH rfl underlying92 AW (vl rfl) (vl rfl) (by omega) (by omega)) ?_
 refine co rfl (Az 0 rfl (AQ rfl BD AW (vl rfl) (Kw (fun _=>rfl) (by rw [Int.toNat_natCast,Int.toNat_natCast];exact hu2)) rfl)) ?_
 refine ac ?_
 refine co rfl (AH rfl underlying92 AW (vl rfl) (vl rfl) (by omega) (by omega)) ?_
 refine co rfl (Az 0 rfl (AQ rfl BD AW (vl rfl) (Kw (fun _=>rfl) (by rw [Int.toNat_natCast,show k+((j:Int)-1).toNat=k+j-1 by omega];exact HG)) rfl)) ?_
 refine co rfl (Ts rfl (vl rfl) (vl rfl)) ?_
 refine ac ?_
 refine EM 0 3 4 5 44 rfl ?_
 refine Tr.cn rfl ?_ ?_<;>intro h5 q5
 refine ap ?_
 refine tp rfl (AH rfl underlying92 AW (vl rfl) (vl rfl) (by omega) (by omega)) ?_
 refine TO.rd 0 rfl rfl rfl (by decide) (AQ rfl BD AW (vl rfl) (Kw (fun _=>rfl) (by rw [Int.toNat_natCast,Int.toNat_natCast];exact hu2)) rfl) ?_
 refine tp rfl (AH rfl underlying92 AW (vl rfl) (vl rfl) (by omega) (by omega)) ?_
 refine TO.CT 0 rfl rfl (Ab rfl rfl (vl rfl) (Va rfl) AW rfl (by rw [BU (sz:=11) (fun _=>rfl)];omega) (SQ (f:=Ad) (fun _=>rfl) (by omega))) ?_
 refine ap ?_
 refine ac ?_
 refine Ez 0 3 4 5 rfl ?_
 refine ac ?_
 exact Fin.D7 (st.set w u) (w+1) (j+1)  (⟨⟨⟨by rw [List.length_set];exact Nq,by omega,by omega,by omega,by omega⟩,by rw [XE (by omega),jV];exact (XD (j:=k+j) (by omega) hu hv (fun e=>absurd (L5.1 e) (by assumption))).symm,fun i hi=>by rw [List.getElem?_set_ne (by omega)];exact hst i (by omega)⟩,by omega⟩) ⟨⟨_,rfl,AS w⟩,⟨_,rfl,AS j⟩,ke rfl,ke rfl,trivial⟩ (fun _ _ h=>h)
 refine a2 ?_
 exact Fin.D7 (st) (w) (j+1)  (⟨⟨⟨Nq,by omega,by omega,by omega,by omega⟩,jV.trans (RJ (j:=k+j) (by omega) hu hv (L5.2 (by assumption))).symm,fun i hi=>hst i (by omega)⟩,by omega⟩) ⟨ke rfl,⟨_,rfl,AS j⟩,ke rfl,ke rfl,trivial⟩ (fun _ _ h=>h)
 have hje:k+j=len:=by have:=of_decide_eq_false h4;omega
 have hE:st.take w=Lf l:=by rw [jV,hje,←Kt,List.take_length]
 have hW:(Lf l).length=w:=by rw [←hE,List.length_take];omega
 refine ac ?_
 refine ap ?_
 refine tp rfl (Bz rfl underlying92 AW (vl rfl) (vl rfl) (by omega) (by omega) (by omega)) ?_
 refine TO.CT 0 rfl rfl (Mx rfl rfl underlying92 AW G2 rfl (by decide) (by decide) (vl rfl) (by omega) (by rw [BU (sz:=11) (fun _=>rfl)];omega) (PW (f:=Ad) (sz:=11) (l:=st) (i:=w) (fun _=>rfl) rfl (by omega) (by omega))) ?_
 refine ap ?_
 refine ac ?_
 refine co rfl (Fo rfl underlying92 AW (vl rfl) (vl rfl) (by omega) (by omega) (by omega) (by omega)) ?_
 refine ac ?_
 refine DD 2 rfl (Tr.ret (Fin.Au (Fin.AJ (Fin.AJ (Fin.Au (Fin.AJ (Fin.Dz rfl rfl ?_ (fun _ _ _ _=>by rw [hW,←hE,Kt,←Nq,List.append_assoc]))))))))
 · refine Pr.le_of_eq ?_;rw [hW,Int.toNat_natCast]
 refine a2 ?_
 exact Fin.O8 (k+1)  (⟨⟨⟨by omega,by omega⟩,by rw [XD (by omega) hx hp (fun e=>absurd (L5.1 e) (by assumption)),jF,List.take_add_one,hx];rfl⟩,by omega⟩) ⟨⟨_,rfl,AS k⟩,ke rfl,trivial⟩ (fun _ _ h=>h)
 have hke:k=len:=by have:=of_decide_eq_false h2;omega
 refine a2 ?_
 refine Tr.ret ?_
 refine Fin.Dz rfl rfl ?_ (fun _ _ _ _=>by rw [show Lf l=l by rw [hke,←Kt,List.take_length] at jF;exact jF,Nat.sub_self];rfl)
 · refine Pr.le_of_eq ?_;rw [show Lf l=l by rw [hke,←Kt,List.take_length] at jF;exact jF,Kt]
theorem XG {l:List A0} (h0:l≠[]) (hl:l.length≤100000):BE prog 195 [slice 11 (l.map Ad)] (lens (l.map Ad).length) (Bw) (fun v=>C8 96 11 (l.map Ad) v):=by
 refine BE.of func195 rfl rfl (by exact Nb rfl) fun M0 w0 S rs M1 w1=> ?_
 have hpos:0<l.length:=List.length_pos_iff.2 h0
 refine a2 ?_
 refine co rfl (Ee rfl underlying92 (vl rfl)) ?_
 refine ac ?_
 refine Tr.ex 4 rfl (fun z1=>Tr.fact 4 rfl fun JA=> ?_)
 refine Tr.cn rfl ?_ ?_<;>intro h1 q1
 exfalso;have:=JA h1;simp_all
 refine ac ?_
 refine ap ?_
 refine TO.pad ?_
 refine TO.GR 0 rfl rfl (by decide) (Eo rfl rfl (by decide) rfl underlying92 AW HS G2 rfl (by decide) (by decide) (vl rfl) (vl rfl) (by rw [List.length_map];exact hpos) (by rw [List.length_map];unfold maxLen;omega) (by rw [List.length_map];omega)) (fun v1=> ?_)
 refine ap ?_
 refine Tr.ret (Fin.drop 1 ?_)
 refine Fin.Dz rfl rfl ?_ (by intro _ _ _ h;rw [h.1])
 · exact Ar _ _
theorem XH {l:List A0} (hc:∀f∈l,B2 f=true) (hf:∀f∈l,f.fits) (h0:l≠[]) (hl:l.length<50):A4 prog 153 [Dq l] (Eu [Dq (LO l),int 0]):=by
 refine fo func153 rfl ⟨rfl,rfl⟩ fun M0 w0=> ?_
 refine a2 ?_
 refine Tr.block (Tr.BW [(0,_),(8,_),(9,_)] (OH rfl) (fun k:Nat=>[(10,int ((k:Nat):Int))]) (fun k:Nat=>k≤(l).length) (fun k:Nat=>(l).length-k) 0 (Nat.zero_le _) ⟨ke rfl,trivial⟩ ?_)
 rintro k Bk
 refine ac ?_
 refine Tr.seq ?_
 refine Tr.cn rfl ?_ ?_<;>intro h1 q1
 have Ao:k<(l).length:=AZ h1
 obtain ⟨x,An⟩:=at_ Ao
 have hfx:=hf x (List.mem_of_getElem? An)
 refine ac ?_
 refine Tr.seq (Tr.block (Tr.seq (Tr.Ax (tp rfl (AB rfl underlying92 AW (vl rfl) (vl rfl) (by omega) (by exact Ak (by assumption))) ?_))))
 refine tp rfl (AO rfl BD AW (vl rfl) rfl rfl) ?_
 refine Tl rfl rfl rfl rfl G2 Lc (fun b1=> ?_)
 refine sf 0 5 ⟨rfl,rfl,rfl⟩ rfl rfl rfl rfl ?_
 refine ao ?_
 · repeat' first|exact absurd (if_pos (hc x (List.mem_of_getElem? An))) q|exact Fin.AG (k+1) ⟨Ao,by omega⟩ ⟨⟨_,rfl,AS k⟩,ke rfl,ke rfl,ke rfl,trivial⟩|refine co rfl (Bq (RA (by assumption)) rfl rfl) ?_|refine ac ?_|(refine Tr.cn rfl ?_ ?_<;>intro h q)
 have BQ:k=(l).length:=by have:=Aa h1;omega
 subst BQ
 refine ac ?_
 refine ao ?_
 refine TO.pad ?_
 refine TO.GR 0 rfl rfl (by decide) (Ej rfl rfl (by decide) rfl (XG h0 (by omega)) ⟨ke rfl,trivial⟩) (fun v1=> ?_)
 refine TO.LJ 0 rfl fun b2 LZ sp2 HG hg2 hm2 LM=> ?_
 subst HG
 refine ao ?_
 refine ao ?_
 refine TO.FF 0 rfl rfl (by decide) (AV rfl rfl (by decide) rfl (Z3 (l:=l) (c:=fun p=>FG p.1 p.2) (len:=(l.map Ad).length) (sp:=sp2) (List.length_map ..).symm Ik.swo (by rw [List.length_map];exact hl)) ⟨(Ka rfl),⟨_,rfl,Bt Ww (fun _=>Wv)⟩,trivial⟩) ?_
 refine TO.Eg 0 rfl fun t1 Np=> ?_
 have Ut:=Np.len
 have hsp:=Sl Ik (by simpa using Np)
 have hdn:=Z9 hsp.1 hsp.2
 refine ao ?_
 refine ao ?_
 refine TO.FF 0 rfl rfl (by decide) (AV rfl rfl (by decide) rfl (Z_ (l:=t1) (len:=(l.map Ad).length) (sp:=sp2) (Ut.trans (List.length_map ..).symm) (by rw [List.length_map];omega) hg2 hm2) ⟨(Ka rfl),trivial⟩) ?_
 refine ao ?_
 refine ac ?_
 refine co rfl (D9 rfl underlying92 (vl rfl)) ?_
 refine ac ?_
 refine CL 7 28 rfl ?_
 refine Tr.cn rfl ?_ ?_<;>intro h3 q3
 exfalso;have:=Pm t1;omega
 refine a2 ?_
 refine Tr.ret ?_
 refine Fin.Qu (sz:=11) ((Lf t1).map Ad) 0 2 rfl rfl (Pr.le_of_eq (by rw [List.length_map])) (BF fun _=>rfl) (by have:=Pm t1;simp only [List.length_map] at hg2 ⊢;omega) hm2 (by have hdl:=Pm t1;rw [Ut] at hdl;simp only [List.length_append,List.length_map,LM,Ut];rw [CO (sz:=11) (fun r hr=>by rw [List.eq_of_mem_replicate hr];rfl),List.length_replicate];simp only [List.length_map] at hg2 ⊢;omega) ?_
 refine Fin.Fz rfl (Ct.F5 _ _) rfl ?_ rfl ?_
 · exact Pr.le_trans (Ar _ _) (Pr.le_of_eq (by rw [hdn]))
 · exact Lr
theorem Uw   :A4 prog 195 [Dq []] (Dq []):=by
 refine fo func195 rfl ⟨rfl,rfl⟩ fun M0 w0=> ?_
 refine a2 ?_
 refine co rfl (Ee rfl underlying92 (vl rfl)) ?_
 refine ac ?_
 refine Tr.ex 4 rfl (fun z1=>Tr.fact 4 rfl fun JA=> ?_)
 refine Tr.cn rfl ?_ ?_<;>intro h1 q1
 refine a2 ?_
 · exact AD 11
 refine ac ?_
 refine ap ?_
 refine TO.pad ?_
 refine TO.GR 0 rfl rfl (by decide) (DN rfl rfl rfl rfl underlying92 AW HS G2 (Kf rfl) (vl rfl) (Bx (by exact List.Mem.head _) (vl rfl))) (fun v1=> ?_)
 refine ap ?_
 refine ac ?_
 · exact Ar _ _
theorem XI   :A4 prog 198 [Dq []] (Dq []):=by
 refine fo func198 rfl ⟨rfl,rfl⟩ fun M0 w0=> ?_
 · repeat' first|exact Lr|(exfalso;simp at h)|refine ac ?_|(refine Tr.cn rfl ?_ ?_<;>intro h q)
theorem XJ   :A4 prog 153 [Dq []] (Eu [Dq [],int 0]):=by
 refine fo func153 rfl ⟨rfl,rfl⟩ fun M0 w0=> ?_
 refine a2 ?_
 refine Tr.block (Tr.BW [(0,_),(8,_),(9,_)] (OH rfl) (fun (u:Unit)=>[(10,int 0)]) (fun (u:Unit)=>True) (fun (u:Unit)=>0) () (trivial) ⟨ke rfl,trivial⟩ ?_)
 rintro u _
 refine ac ?_
 refine Tr.seq ?_
 refine Tr.cn rfl ?_ ?_<;>intro h1 q1
 exfalso;simp at h1
 have:=h1
 refine a2 ?_
 refine co rfl (Bq (Uw) rfl rfl) ?_
 refine a2 ?_
 refine co rfl (AX rfl (XA (rows:=[]) (by decide)) ⟨ke rfl,⟨_,rfl,R_ _⟩,trivial⟩) ?_
 refine a2 ?_
 refine co rfl (Bq (XI) rfl rfl) ?_
 refine a2 ?_
 refine CL 7 28 rfl ?_
 refine Tr.cn rfl ?_ ?_<;>intro h2 q2
 exfalso;simp at h2
 refine a2 ?_
 refine Tr.ret (Fin.Fz rfl (Ct.F5 _ _) rfl ?_ rfl ?_)
 · exact Lr
 · exact Lr
theorem aA {l:List A0} (hc:∀f∈l,B2 f=true) (hf:∀f∈l,f.fits) (hl:l.length<50):A4 Tryz.prog 153 [Dq l] (Eu [Dq (LO l),int 0]):=by
 by_cases h:l=[]
 · subst h;exact XJ
 · exact XH hc hf h hl
structure GV where
 Gz:Int
 Hg:List UInt8
 F3:List UInt8
 Lh:Int
 Hy:Int
 BG:Int
 Pn:Int
 KC:Int
 from_:Int
 E2:Int
 auth:Bool
 path:Int
 names:List (List UInt8)
 Ux:Int
 Uy:Int
abbrev RM (l:List (List UInt8)):Pr:=slice 1 (l.map fun t=>[str t])
abbrev C1 (c:GV):List Pr:=[int c.Gz,str c.Hg,str c.F3,int c.Lh,int c.Hy,int c.BG,int c.Pn,int c.KC,int c.from_,int c.E2,bool c.auth,int c.path,RM c.names,int c.Ux,int c.Uy]
abbrev Il (l:List GV):Pr:=slice 15 (l.map C1)
structure GV.fits (c:GV):Prop where
 Hg:c.Hg.length≤maxLen
 F3:c.F3.length≤maxLen
 names:∀s∈c.names,s.length≤maxLen
def Er (n:Int):Bool:=decide (0≤n)&&decide (n≤2147483648)
def Uz (n:Int):Bool:=decide (0≤n)&&decide (n<4294967296)
def Co (o:List UInt8) (c:UInt8):Bool:=decide (97≤c.toNat∧c.toNat≤122)||decide (65≤c.toNat∧c.toNat≤90)||decide (48≤c.toNat∧c.toNat≤57)||decide (0≤Lib.indexByte o c)
def Hz (s:List UInt8):Bool:=s.all (Co [45,95,46])&&decide (1≤s.length∧s.length≤32)
def nameAt (l:List (List UInt8)) (i:Nat):Bool:=named (l[i]?.getD [])&&(decide (i=0)||decide (Lib.compareBytes (l[i-1]?.getD []) (l[i]?.getD [])= -1))
def Es (l:List (List UInt8)):Bool:=allI (nameAt l) l.length&&decide (l.length≤8)
def E4 (BO bits kind:Int):Bool:=decide (B5 BO bits>0)&&(C5 BO).kind==kind
def C9 (c:GV):Bool:=
 (decide (0≤c.Gz)&&decide (c.Gz≤1099511627776)&&named c.Hg&&named c.F3&&Es c.names)&&
 (E4 c.Lh c.Hy 2&&Er c.BG&&E4 c.Pn c.KC 1&&Er c.Ux&&Uz c.Uy)&&
 (decide (0≤c.from_)&&decide (c.from_≤c.E2)&&decide (c.E2≤40000))&&(decide (0≤c.path)&&decide (c.path≤8)&&(c.auth||c.path==0))
def Kx (BO bits id:Int) (l:List GV):Bool:=E4 BO bits 2&&Er id&&decide (l.length≤8)&&l.all C9&&match l with|[]=>true|c::_=>decide (c.Lh=BO∧c.Hy=bits)&&c.BG==id
structure DO where
 BO:Int
 bits:Int
 BG:Int
 chain:List GV
abbrev BC (x:DO):List Pr:=[int x.BO,int x.bits,int x.BG,Il x.chain]
abbrev DC (l:List DO):Pr:=slice 4 (l.map BC)
def DO.fits (x:DO):Prop:=∀c∈x.chain,c.fits
structure BJ where
 name:List UInt8
 least:Int
 most:Int
 AF:List Int
 own:Bool
 ids:List DO
 anchors:List Int
 hashes:List Int
 De:Bool
abbrev Aj (e:BJ):List Pr:=[str e.name,int e.least,int e.most,ints e.AF,bool e.own,DC e.ids,ints e.anchors,ints e.hashes,bool e.De]
structure BJ.fits (e:BJ):Prop where
 name:e.name.length≤maxLen
 ids:∀x∈e.ids,x.fits
def FL (l:List Int) (i:Nat):Bool:=decide (i=0)||decide (l[i-1]?.getD 0<l[i]?.getD 0)
def Po (l:List Int):Bool:=allI (FL l) l.length
def DH (l:List Int) (i:Nat):Bool:=decide (1≤l[i]?.getD 0∧l[i]?.getD 0≤16)&& !((l.take i).any fun x=>l[i]?.getD 0==x)
def Fi (l:List Int):Bool:=allI (DH l) l.length
def H6 (n:Int):Bool:=(C5 n).kind==1
def Tz (x:DO):Bool:=Kx x.BO x.bits x.BG x.chain
def BK (e:BJ):Bool:=
 (Hz e.name&&decide (1≤e.least)&&decide (e.least≤e.most)&&decide (e.most≤4)&&Fi e.AF)&&
 (decide (e.ids.length≤4)&&decide (e.anchors.length≤16)&&Po e.anchors&&Po e.hashes)&&e.ids.all Tz&&e.anchors.all Er&&e.hashes.all H6
theorem aB {β:Type} (p:β→Bool) (l:List β):(l.any fun x=> !p x)= !l.all p:=by
 induction l with
 |nil=>rfl
 |cons a l ih=>rw [List.any_cons,List.all_cons,ih];cases p a<;>rfl
theorem DI {β:Type} {l:List β} {k:Nat} {x d:β} (h:l[k]? =some x):l[k]?.getD d=x:=by rw [h];rfl
theorem fq {s:List UInt8} {c:UInt8}  :A4 prog 264 [str s,is (.int .u8 ((c.toNat:Nat):Int))] (int (Lib.indexByte s c)):=by
 refine fo func264 rfl ⟨rfl,rfl⟩ fun M0 w0=> ?_
 refine a2 ?_
 refine co rfl (Sc rfl func293 (by kernel_rfl) (by kernel_rfl) (by kernel_rfl) (by kernel_rfl) (vl rfl) (vl rfl)) ?_
 refine a2 ?_
 · exact Lr
theorem LP {s:List UInt8} {c:UInt8}  :A4 prog 222 [str s,is (.int .u8 ((c.toNat:Nat):Int))] (int (Lib.indexByte s c)):=by
 refine fo func222 rfl ⟨rfl,rfl⟩ fun M0 w0=> ?_
 refine a2 ?_
 refine co rfl (Dc (fq) rfl rfl rfl) ?_
 refine a2 ?_
 · exact Lr
theorem XK {o:List UInt8} {c:UInt8}  :A4 prog 188 [is (.int .u8 ((c.toNat:Nat):Int)),str o] (bool (Co o c)):=by
 refine fo func188 rfl ⟨rfl,rfl⟩ fun M0 w0=> ?_
 refine ac ?_
 refine ag ?_ ?_<;>intro h1 q1
 refine ag ?_ ?_<;>intro h2 q2
 refine ac ?_
 refine DD 4 rfl ?_
 refine ac ?_
 · refine bool_eq ?_;unfold Co;simp_all;omega
 refine ag ?_ ?_<;>intro h3 q3
 refine ag ?_ ?_<;>intro h4 q4
 refine ac ?_
 refine DD 4 rfl ?_
 refine ac ?_
 · refine bool_eq ?_;unfold Co;simp_all;omega
 refine ag ?_ ?_<;>intro h5 q5
 · repeat' first|(refine bool_eq ?_;unfold Co;simp_all;omega)|refine cy h rfl (Dc (LP) rfl rfl rfl) ?_|refine ac ?_|(refine Ch.cg rfl rfl rfl ?_ ?_<;>intro h q)
 refine ac ?_
 refine cy rfl rfl (Dc (LP) rfl rfl rfl) ?_
 refine ac ?_
 refine DD 4 rfl ?_
 refine ac ?_
 · refine bool_eq ?_;unfold Co;simp_all;omega
 refine ag ?_ ?_<;>intro h7 q7
 · repeat' first|(refine bool_eq ?_;unfold Co;simp_all;omega)|refine cy h rfl (Dc (LP) rfl rfl rfl) ?_|refine ac ?_|(refine Ch.cg rfl rfl rfl ?_ ?_<;>intro h q)
 refine ac ?_
 refine cy rfl rfl (Dc (LP) rfl rfl rfl) ?_
 refine ac ?_
 refine DD 4 rfl ?_
 refine ac ?_
 · refine bool_eq ?_;unfold Co;simp_all;omega
 refine ag ?_ ?_<;>intro h9 q9
 refine ag ?_ ?_<;>intro h10 OZ
 refine ac ?_
 refine DD 4 rfl ?_
 refine ac ?_
 · refine bool_eq ?_;unfold Co;simp_all;omega
 refine ag ?_ ?_<;>intro h11 QX
 · repeat' first|(refine bool_eq ?_;unfold Co;simp_all;omega)|refine cy h rfl (Dc (LP) rfl rfl rfl) ?_|refine ac ?_|(refine Ch.cg rfl rfl rfl ?_ ?_<;>intro h q)
 refine ac ?_
 refine cy rfl rfl (Dc (LP) rfl rfl rfl) ?_
 refine ac ?_
 refine DD 4 rfl ?_
 refine ac ?_
 · refine bool_eq ?_;unfold Co;simp_all;omega
 refine ag ?_ ?_<;>intro HW Q_
 · repeat' first|(refine bool_eq ?_;unfold Co;simp_all;omega)|refine cy h rfl (Dc (LP) rfl rfl rfl) ?_|refine ac ?_|(refine Ch.cg rfl rfl rfl ?_ ?_<;>intro h q)
 refine ac ?_
 refine cy rfl rfl (Dc (LP) rfl rfl rfl) ?_
 refine ac ?_
 refine DD 4 rfl ?_
 refine ac ?_
 · refine bool_eq ?_;unfold Co;simp_all;omega
theorem fu {s:List UInt8} (hs:s.length≤maxLen):A4 prog 142 [str s] (bool (Hz s)):=by
 refine fo func142 rfl ⟨rfl,rfl⟩ fun M0 w0=> ?_
 refine a2 ?_
 refine co rfl (Mp rfl underlying9 underlying198 underlying5 (vl rfl) (by assumption)) ?_
 refine ac ?_
 refine Tr.block (Tr.EC 6 rfl fun hl6=>(Tr.BW [(0,_),(6,_),(7,_)] (OH rfl) (fun k:Nat=>[(8,int ((k:Nat):Int))]) (fun k:Nat=>k≤(s).length∧(∀j y,j<k→s[j]? =some y→(!Co [45,95,46] y)=false)) (fun k:Nat=>(s).length-k) 0 (⟨Nat.zero_le _,fun j y hj=>absurd hj (by omega)⟩) ⟨ke rfl,trivial⟩ ?_))
 rintro k ⟨Bk,Ac⟩
 refine ac ?_
 refine Tr.seq ?_
 refine Tr.cn rfl ?_ ?_<;>intro h1 q1
 have Ao:k<(s).length:=AZ h1
 obtain ⟨c,An⟩:=at_ Ao
 refine ac ?_
 refine Tr.seq (Tr.block (Tr.seq (Tr.B_ (co rfl (AB rfl underlying198 Jz (vl rfl) (vl rfl) (by omega) (by exact Ak (by assumption))) ?_))))
 · repeat' first|(refine bool_eq ?_;unfold Hz;rw [HX (p:=Co [45,95,46]) An (by simp_all)];rfl)|exact Fin.AG (k+1) ⟨⟨Ao,D_ (p:=fun c=> !Co [45,95,46] c) An (by simp_all) Ac⟩,by omega⟩ ⟨⟨_,rfl,AS k⟩,ke rfl,ke rfl,ke rfl,trivial⟩|refine co rfl (Dc (XK) rfl rfl rfl) ?_|refine ac ?_|(refine Tr.cn rfl ?_ ?_<;>intro h q)
 have BQ:k=(s).length:=by have:=Aa h1;omega
 subst BQ
 · repeat' first|(refine bool_eq ?_;unfold Hz;rw [Fh Ac,Bool.true_and];rw [decide_eq_decide];omega)|(refine bool_eq ?_;unfold Hz;rw [Fh Ac,Bool.true_and];symm;rw [decide_eq_false_iff_not];omega)|refine ac ?_|(refine Ch.cg rfl rfl rfl ?_ ?_<;>intro h q)
theorem So {n:Int}  :A4 prog 149 [int n] (bool (Er n)):=by
 refine fo func149 rfl ⟨rfl,rfl⟩ fun M0 w0=> ?_
 refine ac ?_
 refine ac ?_
 refine Ch.cs 5 rfl ?_ ?_<;>intro h1 q1
 refine ac ?_
 refine ac ?_
 · refine bool_eq ?_;unfold Er;simp_all
 refine ac ?_
 refine ac ?_
 · refine bool_eq ?_;unfold Er;simp_all;omega
theorem fy:Entry Tryz.prog 149:=⟨_,Tryz.func149,rfl,rfl⟩
theorem f_ {n:Int}  :A4 prog 269 [int n] (bool (Uz n)):=by
 refine fo func269 rfl ⟨rfl,rfl⟩ fun M0 w0=> ?_
 refine ac ?_
 refine ac ?_
 refine Ch.cs 5 rfl ?_ ?_<;>intro h1 q1
 refine ac ?_
 refine ac ?_
 · refine bool_eq ?_;unfold Uz;simp_all
 refine ac ?_
 refine ac ?_
 · refine bool_eq ?_;unfold Uz;simp_all;omega
theorem dF {BO bits kind:Int}  :A4 prog 268 [agg [int BO,int bits],int kind] (bool (E4 BO bits kind)):=by
 refine fo func268 rfl ⟨rfl,rfl⟩ fun M0 w0=> ?_
 refine ac ?_
 refine ac ?_
 refine co rfl (Bq (J_) rfl rfl) (cm rfl ?_)
 refine Ch.cs 7 rfl ?_ ?_<;>intro h1 q1
 refine ac ?_
 refine cy h1 rfl (Bq (Pb) rfl rfl) ?_
 refine ac ?_
 refine ac ?_
 · refine bool_eq ?_;unfold E4;simp_all
 refine ac ?_
 refine ac ?_
 · refine bool_eq ?_;unfold E4;simp_all;omega
theorem XL {l:List (List UInt8)} (hf:∀s∈l,s.length≤maxLen):A4 prog 267 [RM l] (bool (Es l)):=by
 refine fo func267 rfl ⟨rfl,rfl⟩ fun M0 w0=>(Tr.EC 0 rfl fun Ex=> ?_)
 refine a2 ?_
 refine Tr.block (Tr.BW [(0,_),(5,_),(6,_)] (OH rfl) (fun k:Nat=>[(7,int ((k:Nat):Int))]) (fun k:Nat=>k≤(l).length∧(∀j,j<k→nameAt l j=true)) (fun k:Nat=>(l).length-k) 0 (⟨Nat.zero_le _,fun j hj=>absurd hj (by omega)⟩) ⟨ke rfl,trivial⟩ ?_)
 rintro k ⟨Bk,Ac⟩
 refine ac ?_
 refine Tr.seq ?_
 refine Tr.cn rfl ?_ ?_<;>intro h1 q1
 have Ao:k<(l).length:=AZ h1
 obtain ⟨s,An⟩:=at_ Ao
 have hsf:=hf s (List.mem_of_getElem? An)
 have hg:=DI (d:=[]) An
 refine a2 ?_
 refine co rfl (AB rfl underlying74 JB (vl rfl) (vl rfl) (by omega) (Ak An)) ?_
 refine a2 ?_
 refine co rfl (Bq (I3 hsf) rfl rfl) ?_
 refine ag ?_ ?_<;>intro h2 q2
 refine ac ?_
 refine EM 0 5 6 7 27 rfl ?_
 refine a2 ?_
 · refine bool_eq ?_;unfold Es;rw [IX (p:=nameAt l) (k:=k) (by omega) (by unfold nameAt;rw [hg];simp_all)];rfl
 refine ag ?_ ?_<;>intro h3 q3
 have Wy:0<k:=by simpa using h3
 obtain ⟨y,hy⟩:=at_ (l:=l) (k:=k-1) (by omega)
 have XM:=DI (d:=[]) hy
 · repeat' first|(refine bool_eq ?_;unfold Es;rw [IX (p:=nameAt l) (k:=k) (by omega) (by unfold nameAt;rw [hg,XM];simp_all;omega)];rfl)|(exact Fin.AG (k+1) ⟨⟨Ao,F6 Ac (by unfold nameAt;rw [hg,XM];simp_all)⟩,by omega⟩ ⟨⟨_,rfl,AS k⟩,ke rfl,ke rfl,ke rfl,trivial⟩)|(refine cy h3 rfl (AB rfl underlying74 JB (vl rfl) (vl rfl) (by omega) (by rw [show ((k:Nat):Int)-1=((k-1:Nat):Int) by omega];exact Ak hy)) ?_)|refine cy h3 rfl (Mo rfl (vl rfl) (vl rfl)) ?_|refine ac ?_|(refine Tr.cn rfl ?_ ?_<;>intro h q)
 refine ac ?_
 refine EM 0 5 6 7 27 rfl ?_
 refine a2 ?_
 exact Fin.AG (k+1) ⟨⟨Ao,F6 Ac (by unfold nameAt;rw [hg];simp_all)⟩,by omega⟩ ⟨⟨_,rfl,AS k⟩,ke rfl,ke rfl,ke rfl,trivial⟩
 have BQ:k=(l).length:=by have:=Aa h1;omega
 subst BQ
 refine a3 ?_
 · refine bool_eq ?_;unfold Es;rw [ND Ac,Bool.true_and];simp;omega
theorem XN {c:GV} (hc:c.fits):A4 prog 225 [agg (C1 c)] (bool (C9 c)):=by
 refine fo func225 rfl ⟨rfl,rfl⟩ fun M0 w0=> ?_
 · repeat' first|(refine bool_eq ?_;unfold C9;simp_all;omega)|(refine bool_eq ?_;unfold C9;simp_all)|refine cy h rfl (Bq (I3 hc.Hg) rfl rfl) ?_|refine cy h rfl (Bq (I3 hc.F3) rfl rfl) ?_|refine cy h rfl (Bq (XL hc.names) rfl rfl) ?_|refine co rfl (Dc (dF) rfl rfl rfl) ?_|refine cy h rfl (Dc (dF) rfl rfl rfl) ?_|refine cy h rfl (Bq (f_) rfl rfl) ?_|refine cy h rfl (Bq (So) rfl rfl) ?_|refine ac ?_|(refine Tr.cn rfl ?_ ?_<;>intro h q)|(refine Ch.cg rfl rfl rfl ?_ ?_<;>intro h q)
theorem XO {c:GV} (hc:c.fits):A4 prog 192 [agg (C1 c)] (int (if C9 c then 0 else 9)):=by
 refine fo func192 rfl ⟨rfl,rfl⟩ fun M0 w0=> ?_
 · repeat' first|(refine int_eq ?_;simp_all)|refine co rfl (Bq (XN (by assumption)) rfl rfl) ?_|refine ac ?_|(refine Tr.cn rfl ?_ ?_<;>intro h q)
abbrev Cy:List Pr:=[any,any,any,any,any,any,any,any,any,any,any,any]
abbrev C_:List (List Pr):=[Cy,Cy,Cy,Cy,Cy,Cy,Cy,Cy,Cy,Cy,Cy,Cy,Cy,Cy,Cy,Cy]
theorem gA {q:List Pr} {k o:Nat} (hk:k<16) (ho:o=k*12):(C_.flatten++q)[o]? =some any:=by
 subst ho
 have h:C_[k]? =some Cy:=by
  have hk':k<C_.length:=hk
  rw [List.getElem?_eq_getElem hk']
  have:∀r∈C_,r=Cy:=by intro r hr;simp at hr;exact hr
  rw [this _ (List.getElem_mem hk')]
 have hl:∀r∈C_,r.length=12:=by intro r hr;simp at hr;rw [hr];rfl
 rw [List.getElem?_append_left (by rw [CO hl];show k*12<16*12;omega)]
 exact HU (j:=0) hl h (by omega)
theorem RN {k:Nat} (hk:k<16):C_[k]? =some Cy:=by
 have hk':k<C_.length:=hk
 rw [List.getElem?_eq_getElem hk']
 have:∀r∈C_,r=Cy:=by intro r hr;simp at hr;exact hr
 rw [this _ (List.getElem_mem hk')]
theorem T0:∀r∈C_,r.length=12:=by intro r hr;simp at hr;rw [hr];rfl
theorem U0 {i:Nat} {p:Pr} (h:Cy[i]? =some p):p=any:=by have:=List.mem_of_getElem? h;simp at this;exact this
theorem Cq {ps:List Pr} (h:ps.length=12):Pr.le (agg ps) (agg Cy):=fun M w v ⟨cs,h1,h2,h3⟩=>⟨cs,h1,h2,HL.bZ (by rw [h3.length,h];rfl) fun i p v hp _=>by rw [U0 hp];trivial⟩
def XP (BO bits id:Int) (l:List GV):Bool:=match l with|[]=>true|c::_=>decide (c.Lh=BO∧c.Hy=bits)&&c.BG==id
theorem Of {BO bits id:Int} {l:List GV} (h:l.length=0):XP BO bits id l=true:=by rw [List.eq_nil_of_length_eq_zero h];rfl
theorem KD {BO bits id:Int} {l:List GV} {c:GV} (h:l[0]? =some c):XP BO bits id l=(decide (c.Lh=BO∧c.Hy=bits)&&c.BG==id):=by
 cases l with
 |nil=>simp at h
 |cons a l=>simp at h;subst h;rfl
theorem Cc (BO bits id:Int) (l:List GV):Kx BO bits id l=(E4 BO bits 2&&Er id&&decide (l.length≤8)&&l.all C9&&XP BO bits id l):=rfl
theorem H7 {a b:Int}  :A4 prog 265 [int a,int b] (agg [int a,int b]):=by
 refine fo func265 rfl ⟨rfl,rfl⟩ fun M0 w0=>(Tr.seq (Tr.Ax ?_))
 refine Tl rfl rfl rfl rfl z24 DZ (fun b1=> ?_)
 refine ap ?_
 refine ap ?_
 refine Tr.ret (Fin.CG rfl (AL.cell 0 rfl rfl CM C3 rfl (Lr)) ?_)
 · exact Lr
theorem XQ   :A4 prog 223 [] (slice 12 C_):=by
 refine fo func223 rfl ⟨rfl,rfl⟩ fun M0 w0=> ?_
 refine ac ?_
 refine Tr.seq (Tr.Ax ?_)
 iterate 4 refine tp rfl (Dc (H7) rfl rfl rfl) ?_
 refine tp rfl (As (rows:=[]) rfl Ny DZ trivial rfl) ?_
 refine Tl rfl rfl rfl rfl z24 DZ (fun b1=> ?_)
 refine Tl rfl rfl rfl rfl z24 DZ (fun b2=> ?_)
 refine Tl rfl rfl rfl rfl z24 DZ (fun b3=> ?_)
 refine Tl rfl rfl rfl rfl z24 DZ (fun b4=> ?_)
 refine Tl rfl rfl rfl rfl z24 DZ (fun b5=> ?_)
 refine sf 4 1 ⟨rfl,rfl,rfl⟩ rfl rfl rfl rfl ?_
 refine sf 3 2 ⟨rfl,rfl,rfl⟩ rfl rfl rfl rfl ?_
 refine sf 2 3 ⟨rfl,rfl,rfl⟩ rfl rfl rfl rfl ?_
 refine sf 1 4 ⟨rfl,rfl,rfl⟩ rfl rfl rfl rfl ?_
 refine sf 0 5 ⟨rfl,rfl,rfl⟩ rfl rfl rfl rfl ?_
 refine TO.nil (Fin.go (EM 1 2 3 4 5 rfl (Tr.seq (Tr.Ax ?_))))
 iterate 5 refine tp rfl (Dc (H7) rfl rfl rfl) ?_
 refine Tl rfl rfl rfl rfl z24 DZ (fun b6=> ?_)
 refine Tl rfl rfl rfl rfl z24 DZ (fun b7=> ?_)
 refine Tl rfl rfl rfl rfl z24 DZ (fun b8=> ?_)
 refine Tl rfl rfl rfl rfl z24 DZ (fun b9=> ?_)
 refine Tl rfl rfl rfl rfl z24 DZ (fun b10=> ?_)
 refine sf 4 6 ⟨rfl,rfl,rfl⟩ rfl rfl rfl rfl ?_
 refine sf 3 7 ⟨rfl,rfl,rfl⟩ rfl rfl rfl rfl ?_
 refine sf 2 8 ⟨rfl,rfl,rfl⟩ rfl rfl rfl rfl ?_
 refine sf 1 9 ⟨rfl,rfl,rfl⟩ rfl rfl rfl rfl ?_
 refine sf 0 10 ⟨rfl,rfl,rfl⟩ rfl rfl rfl rfl ?_
 refine TO.nil (Fin.go (IJ 1 2 3 4 5 6 7 8 9 10 rfl (Tr.seq (Tr.Ax ?_))))
 iterate 4 refine tp rfl (Dc (H7) rfl rfl rfl) ?_
 refine Tl rfl rfl rfl rfl z24 DZ (fun b11=> ?_)
 refine Tl rfl rfl rfl rfl z24 DZ (fun b12=> ?_)
 refine Tl rfl rfl rfl rfl z24 DZ (fun b13=> ?_)
 refine Tl rfl rfl rfl rfl z24 DZ (fun b14=> ?_)
 refine sf 3 11 ⟨rfl,rfl,rfl⟩ rfl rfl rfl rfl ?_
 refine sf 2 12 ⟨rfl,rfl,rfl⟩ rfl rfl rfl rfl ?_
 refine sf 1 13 ⟨rfl,rfl,rfl⟩ rfl rfl rfl rfl ?_
 refine sf 0 14 ⟨rfl,rfl,rfl⟩ rfl rfl rfl rfl ?_
 refine TO.nil (Fin.go (jh 1 2 3 4 5 6 7 8 9 10 11 12 13 14 rfl (Tr.seq (Tr.pad (Tr.rx (xo rfl (fun _=>AO rfl CM C3 (vl rfl) rfl rfl) (xo rfl (fun _=>AO rfl CM C3 (vl rfl) rfl rfl) (xo rfl (fun _=>Dc (H7) rfl rfl rfl) (xo rfl (fun _=>AO rfl CM C3 (vl rfl) rfl rfl) (xo rfl (fun _=>oD) (xo rfl (fun _=>AO rfl CM C3 (vl rfl) rfl rfl) (xo rfl (fun _=>AO rfl CM C3 (vl rfl) rfl rfl) (xo rfl (fun _=>Dc (H7) rfl rfl rfl) ?_)))))))))))))
 refine xo rfl (fun _=>AO rfl CM C3 (vl rfl) rfl rfl) (xo rfl (fun _=>oD) ?_)
 iterate 4 refine xo rfl (fun _=>AO rfl CM C3 (vl rfl) rfl rfl) ?_
 refine xo rfl (fun _=>oD) (xo rfl (fun _=>Dc (H7) rfl rfl rfl) (xo rfl (fun _=>AO rfl CM C3 (vl rfl) rfl rfl) (xo rfl (fun _=>AO rfl CM C3 (vl rfl) rfl rfl) (xo rfl (fun _=>AO rfl CM C3 (vl rfl) rfl rfl) (xo rfl (fun _=>oD) (xo rfl (fun _=>Dc (H7) rfl rfl rfl) (xo rfl (fun _=>AO rfl CM C3 (vl rfl) rfl rfl) (xo rfl (fun _=>AO rfl CM C3 (vl rfl) rfl rfl) (xo rfl (fun _=>AO rfl CM C3 (vl rfl) rfl rfl) (xo rfl (fun _=>oD) ?_))))))))))
 iterate 4 refine xo rfl (fun _=>AO rfl CM C3 (vl rfl) rfl rfl) ?_
 refine xo rfl (fun _=>oD) (xo rfl (fun _=>Dc (H7) rfl rfl rfl) (xo rfl (fun _=>AO rfl CM C3 (vl rfl) rfl rfl) (xo rfl (fun _=>AO rfl CM C3 (vl rfl) rfl rfl) (xo rfl (fun _=>AO rfl CM C3 (vl rfl) rfl rfl) (xo rfl (fun _=>oD) ?_)))))
 iterate 4 refine xo rfl (fun _=>AO rfl CM C3 (vl rfl) rfl rfl) ?_
 refine xo rfl (fun _=>oD) (xo rfl (fun _=>AO rfl CM C3 (vl rfl) rfl rfl) (xo rfl (fun _=>AO rfl CM C3 (vl rfl) rfl rfl) (xo rfl (fun _=>Dc (H7) rfl rfl rfl) (xo rfl (fun _=>Dc (H7) rfl rfl rfl) (xo rfl (fun _=>oD) ?_)))))
 iterate 4 refine xo rfl (fun _=>AO rfl CM C3 (vl rfl) rfl rfl) ?_
 refine xo rfl (fun _=>oD) (xo rfl (fun _=>Dc (H7) rfl rfl rfl) (xo rfl (fun _=>AO rfl CM C3 (vl rfl) rfl rfl) (xo rfl (fun _=>AO rfl CM C3 (vl rfl) rfl rfl) (xo rfl (fun _=>AO rfl CM C3 (vl rfl) rfl rfl) (xo rfl (fun _=>oD) ?_)))))
 iterate 4 refine xo rfl (fun _=>AO rfl CM C3 (vl rfl) rfl rfl) ?_
 refine xo rfl (fun _=>oD) ?_
 iterate 4 refine xo rfl (fun _=>AO rfl CM C3 (vl rfl) rfl rfl) ?_
 refine xo rfl (fun _=>oD) ?_
 iterate 4 refine xo rfl (fun _=>AO rfl CM C3 (vl rfl) rfl rfl) ?_
 refine xo rfl (fun _=>oD) ?_
 iterate 4 refine xo rfl (fun _=>AO rfl CM C3 (vl rfl) rfl rfl) ?_
 refine xo rfl (fun _=>oD) (xo rfl (fun _=>Dc (H7) rfl rfl rfl) (xo rfl (fun _=>AO rfl CM C3 (vl rfl) rfl rfl) (xo rfl (fun _=>AO rfl CM C3 (vl rfl) rfl rfl) (xo rfl (fun _=>AO rfl CM C3 (vl rfl) rfl rfl) (xo rfl (fun _=>oD) (Cx.ef 0 rfl rfl (by decide) (Ug (xs:=[.tmp 35,.tmp 40,.tmp 45,.tmp 50,.tmp 55,.tmp 60,.tmp 65,.tmp 70,.tmp 75,.tmp 80,.tmp 85,.tmp 90,.tmp 95,.tmp 100,.tmp 105,.tmp 110]) (rows:=C_) rfl rfl (by decide) rfl rfl underlying205 Fw SO rfl (by decide) ⟨⟨(by exact rfl),VL.le (vl rfl) (Pr.le_trans (Cq rfl) (Ae _))⟩,⟨⟨(by exact rfl),VL.le (vl rfl) (Pr.le_trans (Cq rfl) (Ae _))⟩,⟨⟨(by exact rfl),VL.le (vl rfl) (Pr.le_trans (Cq rfl) (Ae _))⟩,⟨⟨(by exact rfl),VL.le (vl rfl) (Pr.le_trans (Cq rfl) (Ae _))⟩,⟨⟨(by exact rfl),VL.le (vl rfl) (Pr.le_trans (Cq rfl) (Ae _))⟩,⟨⟨(by exact rfl),VL.le (vl rfl) (Pr.le_trans (Cq rfl) (Ae _))⟩,⟨⟨(by exact rfl),VL.le (vl rfl) (Pr.le_trans (Cq rfl) (Ae _))⟩,⟨⟨(by exact rfl),VL.le (vl rfl) (Pr.le_trans (Cq rfl) (Ae _))⟩,⟨⟨(by exact rfl),VL.le (vl rfl) (Pr.le_trans (Cq rfl) (Ae _))⟩,⟨⟨(by exact rfl),VL.le (vl rfl) (Pr.le_trans (Cq rfl) (Ae _))⟩,⟨⟨(by exact rfl),VL.le (vl rfl) (Pr.le_trans (Cq rfl) (Ae _))⟩,⟨⟨(by exact rfl),VL.le (vl rfl) (Pr.le_trans (Cq rfl) (Ae _))⟩,⟨⟨(by exact rfl),VL.le (vl rfl) (Pr.le_trans (Cq rfl) (Ae _))⟩,⟨⟨(by exact rfl),VL.le (vl rfl) (Pr.le_trans (Cq rfl) (Ae _))⟩,⟨⟨(by exact rfl),VL.le (vl rfl) (Pr.le_trans (Cq rfl) (Ae _))⟩,⟨⟨(by exact rfl),VL.le (vl rfl) (Pr.le_trans (Cq rfl) (Ae _))⟩,trivial⟩⟩⟩⟩⟩⟩⟩⟩⟩⟩⟩⟩⟩⟩⟩⟩ (by decide) (by decide)) ?_))))))
 refine Cx.ef 0 rfl rfl (by decide) (E7 rfl rfl (by decide) rfl (vl rfl)) ?_
 refine Cx.nil ⟨by kernel_rfl,?_⟩
 refine A9.open_ 0 15 rfl rfl (fun v1=> ?_)
 refine A9.done al1 (Fin.go (DD 15 rfl (Tr.seq (Tr.seq (Tr.LJ 0 rfl fun b15 tJ t_ rz r5 r6 r7=> ?_)))))
 subst rz
 refine ac ?_
 refine co rfl (D9 rfl underlying205 (Ka rfl)) ?_
 refine ac ?_
 refine Tr.block (Tr.BW [(15,_),(113,_)] (LH rfl) (fun k:Nat=>[(114,int ((k:Nat):Int))]) (fun k:Nat=>k≤(C_.length)) (fun k:Nat=>(C_.length)-k) 0 (Nat.zero_le _) ⟨ke rfl,trivial⟩ ?_)
 rintro k Bk
 refine ac ?_
 refine Tr.seq ?_
 refine Tr.cn rfl ?_ ?_<;>intro h1 q1
 have Ao:k<(C_.length):=AZ h1
 have r8:k<16:=Ao
 refine a2 ?_
 refine Tr.Ax (tm rfl (tm rfl (tm rfl ?_)))
 refine tp rfl (Cu rfl (vl rfl) (vl rfl) ?hin) ?_;case hin=>unfold GP;omega
 refine tp rfl (AH rfl underlying205 Fw (Ka rfl) (vl rfl) (by omega) (by omega)) (tp rfl (AE rfl Y6 (vl rfl)) ?_)
 refine TO.CT 0 rfl rfl (Ab rfl rfl (vl rfl) (VL.le (vl rfl) (ZY _)) Cg rfl (by rw [List.length_append,CO T0];show _≤16*12+_;omega) (ZZ (gA r8 (by omega)))) ?_
 refine TO.nil ?_
 refine a2 ?_
 exact Fin.AG (k+1) ⟨Ao,by omega⟩ ⟨⟨_,rfl,AS k⟩,ke rfl,ke rfl,trivial⟩
 have BQ:k=(C_.length):=by have:=Aa h1;omega
 subst BQ
 refine ac ?_
 refine Tr.seq ?_
 refine Tr.Qu (sz:=12) C_ 0 15 rfl rfl (Dj _ _) T0 r5 r6 (by rw [List.length_map];exact r7) ?_
 refine a2 ?_
 · exact Ar _ _
theorem aC {code:Int}  :A4 prog 189 [int code] (Eu [agg Cy,int (if 1≤code∧code≤16 then 0 else 8)]):=by
 refine fo func189 rfl ⟨rfl,rfl⟩ fun M0 w0=> ?_
 have hL:C_.length=16:=rfl
 refine Tr.seq (Tr.Ax ?_)
 refine Tl rfl rfl rfl rfl SO J0 (fun b1=> ?_)
 refine ap ?_
 refine Tr.seq (Tr.B_ (co rfl (R9 (XQ) rfl) ?_))
 refine ac ?_
 refine ag ?_ ?_<;>intro h1 q1
 refine ac ?_
 refine Tr.cond rfl (fun _=> ?_) (fun h=>nomatch h)
 refine Tr.seq (Tr.Ax (tp rfl (As (rows:=[]) rfl Tg J0 trivial rfl) (TO.AR 0 rfl rfl rfl (vl rfl) (Va rfl) rfl Fw rfl rfl (tm rfl (TO.nil (Fin.go (CL 2 3 rfl (Tr.ret (Fin.AJ (Fin.DK rfl (AL.cell 0 rfl rfl IQ Fw rfl (Lr)) (AL.tmp rfl (Lr)) ?_))))))))))
 · exact A_ ⟨Cq rfl,int_eq (by rw [if_neg];simp_all;omega),trivial⟩
 refine ac ?_
 refine cy h1 rfl (CV rfl underlying205 (vl rfl)) ?_
 refine an ?_ ?_<;>intro h2 q2
 refine ap ?_
 refine CL 2 3 rfl (Tr.ret (Fin.AJ (Fin.DK rfl (AL.cell 0 rfl rfl IQ Fw rfl (Lr)) (AL.tmp rfl (Lr)) ?_)))
 · exact A_ ⟨Cq rfl,int_eq (by rw [if_neg];simp_all),trivial⟩
 have hin:1≤code∧code≤16:=by omega
 refine ac ?_
 refine ap ?_
 refine tp rfl (AB rfl underlying205 Fw (vl rfl) (vl rfl) (by omega) (RN (by omega))) ?_
 refine ap ?_
 refine CL 2 3 rfl (Tr.ret (Fin.DK rfl (AL.cell 0 rfl rfl IQ Fw rfl (Lr)) (AL.tmp rfl (Lr)) ?_))
 · exact A_ ⟨Lr,int_eq (by rw [if_pos hin]),trivial⟩
theorem aD {BO bits id:Int} {l:List GV} (hf:∀c∈l,c.fits):A4 prog 145 [agg [int BO,int bits],int id,Il l] (bool (Kx BO bits id l)):=by
 refine fo func145 rfl ⟨rfl,rfl⟩ fun M0 w0=>(Tr.EC 2 rfl fun nB=> ?_)
 refine a2 ?_
 refine co rfl (Bq (J_) rfl rfl) ?_
 refine ag ?_ ?_<;>intro h1 q1
 refine ac ?_
 refine Ez 1 2 3 27 rfl ?_
 refine a2 ?_
 · refine bool_eq ?_;rw [Cc];unfold E4;simp_all;omega
 refine ac ?_
 refine cy h1 rfl (Bq (Pb) rfl rfl) ?_
 refine ag ?_ ?_<;>intro h2 q2
 refine ac ?_
 refine Ez 1 2 3 27 rfl ?_
 refine a2 ?_
 · refine bool_eq ?_;rw [Cc];unfold E4;simp_all
 refine II h2 rfl (cy h2 rfl (Bq (So) rfl rfl) ?_)
 refine ag ?_ ?_<;>intro h3 q3
 refine ac ?_
 refine Ez 1 2 3 27 rfl ?_
 refine a2 ?_
 · refine bool_eq ?_;rw [Cc];unfold E4;simp_all
 refine ac ?_
 refine Ez 1 2 3 27 rfl ?_
 refine Tr.cn rfl ?_ ?_<;>intro h4 q4
 refine a2 ?_
 · refine bool_eq ?_;rw [Cc];unfold E4;simp_all;omega
 refine a2 ?_
 refine Tr.block (Tr.BW [(1,_),(2,_),(3,_),(28,_),(29,_)] (bu rfl) (fun k:Nat=>[(30,int ((k:Nat):Int))]) (fun k:Nat=>k≤(l).length∧(∀j y,j<k→l[j]? =some y→(!C9 y)=false)) (fun k:Nat=>(l).length-k) 0 (⟨Nat.zero_le _,fun j y hj=>absurd hj (by omega)⟩) ⟨ke rfl,trivial⟩ ?_)
 rintro k ⟨Bk,Ac⟩
 refine ac ?_
 refine Tr.seq ?_
 refine Tr.cn rfl ?_ ?_<;>intro h5 q5
 have Ao:k<(l).length:=AZ h5
 obtain ⟨c,An⟩:=at_ Ao
 have nC:=hf c (List.mem_of_getElem? An)
 refine ac ?_
 refine Tr.seq (Tr.block (Tr.seq (Tr.Ax (tp rfl (AB rfl underlying25 Cw (vl rfl) (vl rfl) (by omega) (by exact Ak (by assumption))) ?_))))
 refine tp rfl (AO rfl Em Cw (vl rfl) rfl rfl) ?_
 refine Tl rfl rfl rfl rfl z131 JI (fun b1=> ?_)
 refine sf 0 8 ⟨rfl,rfl,rfl⟩ rfl rfl rfl rfl ?_
 refine ao ?_
 · repeat' first|(refine bool_eq ?_;rw [Cc];unfold E4;rw [HX (p:=C9) An (by simp_all)];simp)|exact Fin.AG (k+1) ⟨⟨Ao,D_ (p:=fun c=> !C9 c) An (by simp_all) Ac⟩,by omega⟩ ⟨⟨_,rfl,AS k⟩,ke rfl,ke rfl,ke rfl,ke rfl,ke rfl,trivial⟩|refine co rfl (Bq (XO nC) rfl rfl) ?_|refine ac ?_|(refine Tr.cn rfl ?_ ?_<;>intro h q)
 have BQ:k=(l).length:=by have:=Aa h5;omega
 subst BQ
 have hall:=Fh Ac
 refine ac ?_
 refine ag ?_ ?_<;>intro h7 q7
 refine ac ?_
 refine DD 6 rfl ?_
 refine ac ?_
 · refine bool_eq ?_;rw [Cc];unfold E4;rw [hall,Of (by simp_all)];simp_all
 obtain ⟨c0,hc0⟩:=at_ (l:=l) (k:=0) (by have:=h7;simp at this;exact List.length_pos_iff.2 this)
 refine II h7 rfl ?_
 refine cy h7 rfl (AB rfl underlying25 Cw (vl rfl) (vl rfl) (by omega) (Ak (k:=0) hc0)) ?_
 refine ac ?_
 refine cy h7 rfl (Fg rfl (vl rfl) (vl rfl)) (II h7 rfl ?_)
 refine Ch.cs 48 rfl ?_ ?_<;>intro h8 q8
 refine II h8 rfl ?_
 refine cy h8 rfl (AB rfl underlying25 Cw (vl rfl) (vl rfl) (by omega) (Ak (k:=0) hc0)) ?_
 refine ac ?_
 refine DD 6 rfl ?_
 refine ac ?_
 · refine bool_eq ?_;rw [Cc];unfold E4;rw [hall,KD hc0];clear hall Ac hf hc0;simp_all;omega
 refine ac ?_
 refine DD 6 rfl ?_
 refine ac ?_
 · refine bool_eq ?_;rw [Cc];unfold E4;rw [hall,KD hc0];clear hall Ac hf hc0;simp_all
theorem Og {l:List Int}  :A4 prog 144 [ints l] (bool (Po l)):=by
 refine fo func144 rfl ⟨rfl,rfl⟩ fun M0 w0=>(Tr.EC 0 rfl fun Ex=> ?_)
 refine a2 ?_
 refine Tr.block (Tr.BW [(0,_),(5,_)] (LH rfl) (fun k:Nat=>[(6,int ((k:Nat):Int))]) (fun k:Nat=>k≤(l).length∧(∀j,j<k→FL l j=true)) (fun k:Nat=>(l).length-k) 0 (⟨Nat.zero_le _,fun j hj=>absurd hj (by omega)⟩) ⟨ke rfl,trivial⟩ ?_)
 rintro k ⟨Bk,Ac⟩
 refine ac ?_
 refine Tr.seq ?_
 refine Tr.cn rfl ?_ ?_<;>intro h1 q1
 have Ao:k<(l).length:=AZ h1
 obtain ⟨x,An⟩:=at_ Ao
 have hg:=DI (d:=(0:Int)) An
 refine a2 ?_
 refine ag ?_ ?_<;>intro h2 q2
 have Wy:0<k:=by simpa using h2
 obtain ⟨y,hy⟩:=at_ (l:=l) (k:=k-1) (by omega)
 have XM:=DI (d:=(0:Int)) hy
 · repeat' first|(refine bool_eq ?_;unfold Po;exact (IX (p:=FL l) (k:=k) (by omega) (by unfold FL;rw [hg,XM];simp_all;omega)).symm)|(exact Fin.AG (k+1) ⟨⟨Ao,F6 Ac (by unfold FL;rw [hg,XM];simp_all)⟩,by omega⟩ ⟨⟨_,rfl,AS k⟩,ke rfl,ke rfl,trivial⟩)|(refine cy h2 rfl (AB rfl underlying22 Cg (vl rfl) (vl rfl) (by omega) (by rw [show ((k:Nat):Int)-1=((k-1:Nat):Int) by omega];exact Ak hy)) ?_)|refine cy h2 rfl (AB rfl underlying22 Cg (vl rfl) (vl rfl) (by omega) (Ak An)) ?_|refine ac ?_|(refine Tr.cn rfl ?_ ?_<;>intro h q)
 refine ac ?_
 refine Ez 0 5 6 22 rfl ?_
 refine a2 ?_
 exact Fin.AG (k+1) ⟨⟨Ao,F6 Ac (by unfold FL;rw [hg];simp_all)⟩,by omega⟩ ⟨⟨_,rfl,AS k⟩,ke rfl,ke rfl,trivial⟩
 have BQ:k=(l).length:=by have:=Aa h1;omega
 subst BQ
 refine a3 ?_
 · refine bool_eq ?_;unfold Po;exact (ND Ac).symm
theorem gB {n:Int}  :A4 prog 150 [int n] (bool (H6 n)):=by
 refine fo func150 rfl ⟨rfl,rfl⟩ fun M0 w0=> ?_
 refine a2 ?_
 refine co rfl (Bq (Pb) rfl rfl) ?_
 refine a2 ?_
 · exact Lr
theorem e_hash:Entry Tryz.prog 150:=⟨_,Tryz.func150,rfl,rfl⟩
theorem XR {l:List Int}  :A4 prog 143 [ints l] (bool (Fi l)):=by
 refine fo func143 rfl ⟨rfl,rfl⟩ fun M0 w0=>(Tr.EC 0 rfl fun Ex=> ?_)
 refine a2 ?_
 refine Tr.block (Tr.BW [(0,_),(7,_),(8,_)] (OH rfl) (fun k:Nat=>[(9,int ((k:Nat):Int))]) (fun k:Nat=>k≤(l).length∧(∀j,j<k→DH l j=true)) (fun k:Nat=>(l).length-k) 0 (⟨Nat.zero_le _,fun j hj=>absurd hj (by omega)⟩) ⟨ke rfl,trivial⟩ ?_)
 rintro k ⟨Bk,Ac⟩
 refine ac ?_
 refine Tr.seq ?_
 refine Tr.cn rfl ?_ ?_<;>intro h1 q1
 have Ao:k<(l).length:=AZ h1
 obtain ⟨x,An⟩:=at_ Ao
 have hg:=DI (d:=(0:Int)) An
 refine a2 ?_
 refine co rfl (AB rfl underlying22 Cg (vl rfl) (vl rfl) (by omega) (by exact Ak (by assumption))) ?_
 refine ac ?_
 refine ao ?_
 refine tp rfl (Bq (aC) rfl rfl) ?_
 refine ao ?_
 refine Tl rfl rfl rfl rfl SO J0 (fun b1=> ?_)
 refine sf 0 5 ⟨rfl,rfl,rfl⟩ rfl rfl rfl rfl ?_
 refine ao ?_
 refine Mi 0 3 4 6 7 8 9 rfl ?_
 refine ag ?_ ?_<;>intro h2 q2
 have gC:¬(1≤x∧x≤16):=by intro hh;rw [if_pos hh] at h2;exact absurd h2 (by decide)
 refine ac ?_
 refine EM 0 7 8 9 27 rfl ?_
 refine a2 ?_
 · refine bool_eq ?_;unfold Fi;exact (IX (p:=DH l) (k:=k) (by omega) (by unfold DH;rw [hg];rw [decide_eq_false gC];rfl)).symm
 have hin:1≤x∧x≤16:=by refine Decidable.byContradiction fun hh=> ?_;rw [if_neg hh] at h2;exact absurd h2 (by decide)
 refine ac ?_
 refine cy h2 rfl (Cn rfl underlying22 Cg (vl rfl) (vl rfl) (by omega) (by simp;omega)) ?_
 refine II h2 rfl ?_
 · repeat' first|(refine bool_eq ?_;unfold Fi;exact (IX (p:=DH l) (k:=k) (by omega) (by unfold DH;rw [hg];rw [decide_eq_true hin];simp_all)).symm)|(exact Fin.AG (k+1) ⟨⟨Ao,F6 Ac (by unfold DH;rw [hg];rw [decide_eq_true hin];simp_all)⟩,by omega⟩ ⟨⟨_,rfl,AS k⟩,ke rfl,ke rfl,ke rfl,trivial⟩)|refine cy h2 rfl (AX rfl (IZ (l:=l.take k) (v:=x)) ⟨⟨_,rfl,Pr.le_of_eq (by rw [←List.map_take,Int.toNat_natCast])⟩,ke rfl,trivial⟩) ?_|refine ac ?_|(refine Tr.cn rfl ?_ ?_<;>intro h q)
 have BQ:k=(l).length:=by have:=Aa h1;omega
 subst BQ
 refine a3 ?_
 · refine bool_eq ?_;unfold Fi;exact (ND Ac).symm
theorem gD {p:Int→Bool} {n:Int}  :A4 prog 147 [int n,ref [G1 prog (fun x:Int=>[int x]) (fun x=>bool (p x))]] (bool (!p n)):=by
 refine fo func147 rfl ⟨rfl,rfl⟩ fun M0 w0=> ?_
 refine a2 ?_
 refine co rfl (BN n rfl (vl rfl) ⟨ke rfl,trivial⟩) ?_
 refine a2 ?_
 · exact Lr
theorem gE:Entry Tryz.prog 147:=⟨_,Tryz.func147,rfl,rfl⟩
theorem nD {p:Int→Bool}  :A4 prog 146 [G1 prog (fun x:Int=>[int x]) (fun x=>bool (p x))] (G1 prog (fun x:Int=>[int x]) (fun x=>bool (!p x))):=by
 refine fo func146 rfl ⟨rfl,rfl⟩ fun M0 w0=> ?_
 refine a3 ?_
 · exact Bt gE (fun x=>gD (p:=p) (n:=x))
theorem nE:Entry Tryz.prog 146:=⟨_,Tryz.func146,rfl,rfl⟩
theorem C6 {e:BJ} (hf:e.fits):A4 prog 102 [agg (Aj e)] (int (if BK e then 0 else 19)):=by
 refine fo func102 rfl ⟨rfl,rfl⟩ fun M0 w0=> ?_
 refine a2 ?_
 refine co rfl (Bq (fu hf.name) rfl rfl) ?_
 refine ag ?_ ?_<;>intro h1 q1
 refine ac ?_
 refine CL 1 32 rfl ?_
 refine a2 ?_
 · refine int_eq ?_;unfold BK;simp_all
 refine ag ?_ ?_<;>intro h2 q2
 refine ac ?_
 refine CL 1 32 rfl ?_
 refine a2 ?_
 · refine int_eq ?_;unfold BK;simp_all;omega
 refine ag ?_ ?_<;>intro h3 q3
 refine ac ?_
 refine CL 1 32 rfl ?_
 refine a2 ?_
 · refine int_eq ?_;unfold BK;simp_all;omega
 refine ag ?_ ?_<;>intro h4 q4
 refine ac ?_
 refine CL 1 32 rfl ?_
 refine a2 ?_
 · refine int_eq ?_;unfold BK;simp_all;omega
 refine ac ?_
 refine cy h4 rfl (Bq (XR) rfl rfl) ?_
 refine ac ?_
 refine CL 1 32 rfl ?_
 refine Tr.cn rfl ?_ ?_<;>intro h5 q5
 refine a2 ?_
 · refine int_eq ?_;unfold BK;simp_all
 refine ac ?_
 refine ag ?_ ?_<;>intro h6 q6
 refine ac ?_
 refine CL 1 54 rfl ?_
 refine a2 ?_
 · refine int_eq ?_;unfold BK;simp_all;omega
 refine ag ?_ ?_<;>intro h7 q7
 refine ac ?_
 refine CL 1 54 rfl ?_
 refine a2 ?_
 · refine int_eq ?_;unfold BK;simp_all;omega
 refine ac ?_
 refine cy h7 rfl (Bq (Og) rfl rfl) ?_
 refine ag ?_ ?_<;>intro h8 q8
 refine ac ?_
 refine CL 1 54 rfl ?_
 refine a2 ?_
 · refine int_eq ?_;unfold BK;simp_all
 refine ac ?_
 refine cy h8 rfl (Bq (Og) rfl rfl) ?_
 refine ac ?_
 refine CL 1 54 rfl ?_
 refine Tr.cn rfl ?_ ?_<;>intro h9 q9
 refine a2 ?_
 · refine int_eq ?_;unfold BK;simp_all
 refine a2 ?_
 refine Tr.block (Tr.BW [(1,_),(56,_),(57,_)] (OH rfl) (fun k:Nat=>[(58,int ((k:Nat):Int))]) (fun k:Nat=>k≤(e.ids).length∧(∀j y,j<k→e.ids[j]? =some y→(!Tz y)=false)) (fun k:Nat=>(e.ids).length-k) 0 (⟨Nat.zero_le _,fun j y hj=>absurd hj (by omega)⟩) ⟨ke rfl,trivial⟩ ?_)
 rintro k ⟨Bk,Ac⟩
 refine ac ?_
 refine Tr.seq ?_
 refine Tr.cn rfl ?_ ?_<;>intro h10 OZ
 have Ao:k<(e.ids).length:=AZ h10
 obtain ⟨x,An⟩:=at_ Ao
 have hxf:=hf.ids x (List.mem_of_getElem? An)
 refine ac ?_
 refine Tr.seq (Tr.block (Tr.seq (Tr.Ax (tp rfl (AB rfl underlying30 Be (vl rfl) (vl rfl) (by omega) (by exact Ak (by assumption))) ?_))))
 refine tp rfl (AO rfl Ew Be (vl rfl) rfl rfl) ?_
 refine Tl rfl rfl rfl rfl JG IB (fun b1=> ?_)
 refine sf 0 4 ⟨rfl,rfl,rfl⟩ rfl rfl rfl rfl ?_
 refine ao ?_
 · repeat' first|(refine int_eq ?_;unfold BK;rw [HX (p:=Tz) An (by unfold Tz;simp_all)];simp)|(exact Fin.AG (k+1) ⟨⟨Ao,D_ (p:=fun c=> !Tz c) An (by unfold Tz;simp_all) Ac⟩,by omega⟩ ⟨⟨_,rfl,AS k⟩,ke rfl,ke rfl,ke rfl,trivial⟩)|refine co rfl (iI (aD hxf) rfl rfl rfl rfl) ?_|refine ac ?_|(refine Tr.cn rfl ?_ ?_<;>intro h q)
 have BQ:k=(e.ids).length:=by have:=Aa h10;omega
 subst BQ
 have hall:=Fh Ac
 refine a2 ?_
 refine Tr.seq (Tr.seq (Tr.re 5 rfl (Bt (dom:=fun p:Int→Bool=>[G1 prog (fun x:Int=>[int x]) (fun x=>bool (p x))]) (res:=fun p=>G1 prog (fun x:Int=>[int x]) (fun x=>bool (!p x))) nE (fun p=>nD (p:=p))) ?_))
 refine ac ?_
 refine co rfl (BN Er rfl (vl rfl) ⟨⟨_,rfl,Bt (dom:=fun n:Int=>[int n]) (res:=fun n=>bool (Er n)) fy (fun n=>So (n:=n))⟩,trivial⟩) ?_
 refine co rfl (Dc (Hw (l:=e.anchors) (p:=fun n=> !Er n)) rfl rfl rfl) ?_
 refine cm rfl ?_
 · repeat' first|(refine int_eq ?_;unfold BK;rw [if_neg];intro hh;simp only [Bool.and_eq_true] at hh;have g1:=hh.1.2;have g2:=hh.2;clear hh Ac hf hall;simp only [aB,g1,g2,Bool.not_true,Bool.false_eq_true] at*)|(refine int_eq ?_;unfold BK;simp_all;omega)|refine cy h rfl (BN H6 rfl (vl rfl) ⟨⟨_,rfl,Bt (dom:=fun n:Int=>[int n]) (res:=fun n=>bool (H6 n)) e_hash (fun n=>gB (n:=n))⟩,trivial⟩) ?_|refine cy h rfl (Dc (Hw (l:=e.hashes) (p:=fun n=> !H6 n)) rfl rfl rfl) ?_|refine ac ?_|(refine Tr.cn rfl ?_ ?_<;>intro h q)|(refine Ch.cg rfl rfl rfl ?_ ?_<;>intro h q)
theorem KE {β γ:Type} {f:β→γ} {l:List β} (h:l≠[]):0<(l.map f).length:=by rw [List.length_map];exact List.length_pos_iff.2 h
theorem Oh {l:List (Int)} (h0:l≠[]) (hl:l.length≤1000000):BE prog 164 [slice 1 (l.map (fun n:Int=>[int n]))] (lens (l.map (fun n:Int=>[int n])).length) (Bw) (fun v=>C8 3 1 (l.map (fun n:Int=>[int n])) v):=by
 refine BE.of func164 rfl rfl (by exact Nb rfl) fun M0 w0 S rs M1 w1=> ?_
 have hpos:=KE (f:=(fun n:Int=>[int n])) h0
 refine a2 ?_
 refine co rfl (Ee rfl underlying22 (vl rfl)) ?_
 refine ac ?_
 refine Tr.ex 4 rfl (fun z1=>Tr.fact 4 rfl fun JA=> ?_)
 refine Tr.cn rfl ?_ ?_<;>intro h1 q1
 exfalso;have:=JA h1;simp_all
 refine ac ?_
 refine ap ?_
 refine TO.pad ?_
 refine TO.GR 0 rfl rfl (by decide) (Eo rfl rfl (by decide) rfl underlying22 Cg UT z3 rfl (by decide) (by decide) (vl rfl) (vl rfl) hpos (by rw [List.length_map];unfold maxLen;omega) (by rw [List.length_map];omega)) (fun v1=> ?_)
 refine ap ?_
 refine Tr.ret (Fin.drop 1 ?_)
 refine Fin.Dz rfl rfl ?_ (by intro _ _ _ h;rw [h.1])
 · exact Ar _ _
theorem Oi   :A4 prog 164 [slice 1 []] (full 1 []):=by
 refine fo func164 rfl ⟨rfl,rfl⟩ fun M0 w0=> ?_
 refine a2 ?_
 refine co rfl (Ee rfl underlying22 (vl rfl)) ?_
 refine ac ?_
 refine Tr.ex 4 rfl (fun z1=>Tr.fact 4 rfl fun JA=> ?_)
 · repeat' first|exact E8 1|exact Lr|refine co rfl (J9 rfl underlying22 Cg (vl rfl) (vl rfl)) ?_|refine ac ?_|(refine Tr.cn rfl ?_ ?_<;>intro h q)
theorem DP {l:List (Int)} (hl:l.length≤1000000):A4 Tryz.prog 164 [slice 1 (l.map (fun n:Int=>[int n]))] (slice 1 (l.map (fun n:Int=>[int n]))):=by
 by_cases h0:l=[]
 · subst h0;exact A4.le Oi (fun _ _ _ h=>h) (BT _ _)
 · exact (BE.k5 (rows:=(l.map (fun n:Int=>[int n]))) (BF fun _=>rfl) (Oh h0 hl)).pure
theorem Ky {l:List (Int)} (hl:l.length≤1000000):BE Tryz.prog 164 [slice 1 (l.map (fun n:Int=>[int n]))] (lens l.length) Bw (fun v=>Ap 3 1 (l.map (fun n:Int=>[int n])) v):=by
 by_cases h0:l=[]
 · subst h0;exact BE.NB Oi
 ·
  have:=BE.Je (by intro h;exact h0 (by simpa using h)) (Oh h0 hl)
  rwa [List.length_map] at this
theorem U1 {l:List (DO)} (h0:l≠[]) (hl:l.length≤1000000):BE prog 165 [slice 4 (l.map BC)] (lens (l.map BC).length) (Bw) (fun v=>C8 27 4 (l.map BC) v):=by
 refine BE.of func165 rfl rfl (by exact Nb rfl) fun M0 w0 S rs M1 w1=> ?_
 have hpos:=KE (f:=BC) h0
 refine a2 ?_
 refine co rfl (Ee rfl underlying30 (vl rfl)) ?_
 refine ac ?_
 refine Tr.ex 4 rfl (fun z1=>Tr.fact 4 rfl fun JA=> ?_)
 refine Tr.cn rfl ?_ ?_<;>intro h1 q1
 exfalso;have:=JA h1;simp_all
 refine ac ?_
 refine ap ?_
 refine TO.pad ?_
 refine TO.GR 0 rfl rfl (by decide) (Eo rfl rfl (by decide) rfl underlying30 Be Nz JG rfl (by decide) (by decide) (vl rfl) (vl rfl) hpos (by rw [List.length_map];unfold maxLen;omega) (by rw [List.length_map];omega)) (fun v1=> ?_)
 refine ap ?_
 refine Tr.ret (Fin.drop 1 ?_)
 refine Fin.Dz rfl rfl ?_ (by intro _ _ _ h;rw [h.1])
 · exact Ar _ _
theorem U2   :A4 prog 165 [slice 4 []] (full 4 []):=by
 refine fo func165 rfl ⟨rfl,rfl⟩ fun M0 w0=> ?_
 refine a2 ?_
 refine co rfl (Ee rfl underlying30 (vl rfl)) ?_
 refine ac ?_
 refine Tr.ex 4 rfl (fun z1=>Tr.fact 4 rfl fun JA=> ?_)
 · repeat' first|exact E8 4|exact Lr|refine co rfl (J9 rfl underlying30 Be (vl rfl) (vl rfl)) ?_|refine ac ?_|(refine Tr.cn rfl ?_ ?_<;>intro h q)
theorem HC {l:List (DO)} (hl:l.length≤1000000):BE Tryz.prog 165 [slice 4 (l.map BC)] (lens l.length) Bw (fun v=>Ap 27 4 (l.map BC) v):=by
 by_cases h0:l=[]
 · subst h0;exact BE.NB U2
 ·
  have:=BE.Je (by intro h;exact h0 (by simpa using h)) (U1 h0 hl)
  rwa [List.length_map] at this
theorem U3 {l:List (GV)} (h0:l≠[]) (hl:l.length≤925904528640):BE prog 204 [slice 15 (l.map C1)] (lens (l.map C1).length) (Bw) (fun v=>C8 131 15 (l.map C1) v):=by
 refine BE.of func204 rfl rfl (by exact Nb rfl) fun M0 w0 S rs M1 w1=> ?_
 have hpos:=KE (f:=C1) h0
 refine a2 ?_
 refine co rfl (Ee rfl underlying25 (vl rfl)) ?_
 refine ac ?_
 refine Tr.ex 4 rfl (fun z1=>Tr.fact 4 rfl fun JA=> ?_)
 refine Tr.cn rfl ?_ ?_<;>intro h1 q1
 exfalso;have:=JA h1;simp_all
 refine ac ?_
 refine ap ?_
 refine TO.pad ?_
 refine TO.GR 0 rfl rfl (by decide) (Eo rfl rfl (by decide) rfl underlying25 Cw cC z131 rfl (by decide) (by decide) (vl rfl) (vl rfl) hpos (by rw [List.length_map];unfold maxLen;omega) (by rw [List.length_map];omega)) (fun v1=> ?_)
 refine ap ?_
 refine Tr.ret (Fin.drop 1 ?_)
 refine Fin.Dz rfl rfl ?_ (by intro _ _ _ h;rw [h.1])
 · exact Ar _ _
theorem U4   :A4 prog 204 [slice 15 []] (full 15 []):=by
 refine fo func204 rfl ⟨rfl,rfl⟩ fun M0 w0=> ?_
 refine a2 ?_
 refine co rfl (Ee rfl underlying25 (vl rfl)) ?_
 refine ac ?_
 refine Tr.ex 4 rfl (fun z1=>Tr.fact 4 rfl fun JA=> ?_)
 · repeat' first|exact E8 15|exact Lr|refine co rfl (J9 rfl underlying25 Cw (vl rfl) (vl rfl)) ?_|refine ac ?_|(refine Tr.cn rfl ?_ ?_<;>intro h q)
theorem U5 {l:List (GV)} (hl:l.length≤925904528640):BE Tryz.prog 204 [slice 15 (l.map C1)] (lens l.length) Bw (fun v=>Ap 131 15 (l.map C1) v):=by
 by_cases h0:l=[]
 · subst h0;exact BE.NB U4
 ·
  have:=BE.Je (by intro h;exact h0 (by simpa using h)) (U3 h0 hl)
  rwa [List.length_map] at this
theorem U6 {l:List (List UInt8)} (h0:l≠[]) (hl:l.length≤8796093022208):BE prog 205 [slice 1 (l.map (fun t:List UInt8=>[str t]))] (lens (l.map (fun t:List UInt8=>[str t])).length) (Bw) (fun v=>C8 9 1 (l.map (fun t:List UInt8=>[str t])) v):=by
 refine BE.of func205 rfl rfl (by exact Nb rfl) fun M0 w0 S rs M1 w1=> ?_
 have hpos:=KE (f:=(fun t:List UInt8=>[str t])) h0
 refine a2 ?_
 refine co rfl (Ee rfl underlying74 (vl rfl)) ?_
 refine ac ?_
 refine Tr.ex 4 rfl (fun z1=>Tr.fact 4 rfl fun JA=> ?_)
 refine Tr.cn rfl ?_ ?_<;>intro h1 q1
 exfalso;have:=JA h1;simp_all
 refine ac ?_
 refine ap ?_
 refine TO.pad ?_
 refine TO.GR 0 rfl rfl (by decide) (Eo rfl rfl (by decide) rfl underlying74 JB by9 z9 rfl (by decide) (by decide) (vl rfl) (vl rfl) hpos (by rw [List.length_map];unfold maxLen;omega) (by rw [List.length_map];omega)) (fun v1=> ?_)
 refine ap ?_
 refine Tr.ret (Fin.drop 1 ?_)
 refine Fin.Dz rfl rfl ?_ (by intro _ _ _ h;rw [h.1])
 · exact Ar _ _
theorem U7   :A4 prog 205 [slice 1 []] (full 1 []):=by
 refine fo func205 rfl ⟨rfl,rfl⟩ fun M0 w0=> ?_
 refine a2 ?_
 refine co rfl (Ee rfl underlying74 (vl rfl)) ?_
 refine ac ?_
 refine Tr.ex 4 rfl (fun z1=>Tr.fact 4 rfl fun JA=> ?_)
 · repeat' first|exact E8 1|exact Lr|refine co rfl (J9 rfl underlying74 JB (vl rfl) (vl rfl)) ?_|refine ac ?_|(refine Tr.cn rfl ?_ ?_<;>intro h q)
theorem U8 {l:List (List UInt8)} (hl:l.length≤8796093022208):A4 Tryz.prog 205 [slice 1 (l.map (fun t:List UInt8=>[str t]))] (slice 1 (l.map (fun t:List UInt8=>[str t]))):=by
 by_cases h0:l=[]
 · subst h0;exact A4.le U7 (fun _ _ _ h=>h) (BT _ _)
 · exact (BE.k5 (rows:=(l.map (fun t:List UInt8=>[str t]))) (BF fun _=>rfl) (U6 h0 hl)).pure
theorem XS {l:List DO} {p:DO→Bool}  :A4 prog 259 [DC l,G1 prog (fun x:DO=>[agg (BC x)]) (fun x=>bool (p x))] (int (idx p l)):=by
 refine fo func259 rfl ⟨rfl,rfl⟩ fun M0 w0=>(Tr.EC 0 rfl fun Ex=> ?_)
 refine a2 ?_
 refine Tr.block (Tr.BW [(0,_),(1,_),(7,_)] (OH rfl) (fun k:Nat=>[(8,int ((k:Nat):Int))]) (fun k:Nat=>k≤(l).length∧(∀j y,j<k→l[j]? =some y→p y=false)) (fun k:Nat=>(l).length-k) 0 (⟨Nat.zero_le _,fun j y hj=>absurd hj (by omega)⟩) ⟨ke rfl,trivial⟩ ?_)
 rintro k ⟨Bk,Ac⟩
 refine ac ?_
 refine Tr.seq ?_
 refine Tr.cn rfl ?_ ?_<;>intro h1 q1
 have Ao:k<(l).length:=AZ h1
 obtain ⟨x,An⟩:=at_ Ao
 · repeat' first|exact int_eq (F7 An (by assumption) Ac)|exact Fin.AG (k+1) ⟨⟨Ao,D_ An (by assumption) Ac⟩,by omega⟩ ⟨⟨_,rfl,AS k⟩,ke rfl,ke rfl,ke rfl,trivial⟩|refine co rfl (AB rfl underlying30 Be (vl rfl) (vl rfl) (by omega) (by exact Ak (by assumption))) ?_|refine co rfl (AO rfl Ew Be (vl rfl) rfl rfl) (co rfl (BN x rfl (vl rfl) ⟨ke rfl,trivial⟩) ?_)|refine ac ?_|(refine Tr.cn rfl ?_ ?_<;>intro h q)
 have BQ:k=(l).length:=by have:=Aa h1;omega
 subst BQ
 refine a3 ?_
 · exact int_eq (HB Ac)
theorem gF {l:List DO} {p:DO→Bool}  :A4 prog 212 [DC l,G1 prog (fun x:DO=>[agg (BC x)]) (fun x=>bool (p x))] (bool (l.any p)):=by
 refine fo func212 rfl ⟨rfl,rfl⟩ fun M0 w0=> ?_
 refine a2 ?_
 refine co rfl (Dc (XS) rfl rfl rfl) ?_
 refine a2 ?_
 · exact bool_eq (Ly p l)
theorem aE {l:List (Int)} {b0 cap i:Nat} {sp:List Value} (hi:i<l.length) (hl:l.length≤1000000) (hc:l.length≤cap) (hm:cap≤maxLen) (hq:sp.length=(cap-l.length)*1):BE prog 208 [Ay (.slice (some ⟨b0,0,none⟩) l.length cap) (lens l.length),int ((i:Nat):Int),int (((i:Nat):Int)+1)] (lens (l.length-1)) (AA true b0 3 ((l.map (fun n:Int=>[int n])).flatten++sp.map is)) (fun v=>Dw 3 1 ((l.eraseIdx i).map (fun n:Int=>[int n])) v):=by
 refine BE.of func208 rfl rfl (by exact Nb rfl) fun M0 w0 S rs M1 w1=> ?_
 have Im:((l.map (fun n:Int=>[int n])).flatten).length=l.length*1:=by rw [CO (sz:=1) (BF fun _=>rfl),List.length_map]
 have e1:(((i:Nat):Int)+(1:Int)).toNat=i+1:=by omega
 have e2:((i:Nat):Int).toNat=i:=by omega
 refine a2 ?_
 refine co rfl (D9 rfl underlying22 (Ka rfl)) (co rfl (IW rfl underlying22 Cg (Ka rfl) (vl rfl) (vl rfl) (vl rfl) (by omega) (by omega) (by omega) (by omega)) ?_)
 refine ac ?_
 refine an ?_ ?_<;>intro h1 q1
 exfalso;have:=q1;omega
 refine a2 ?_
 refine co rfl (D9 rfl underlying22 (Ka rfl)) ?_
 refine ac ?_
 refine Tr.seq (Tr.Da mixed 6 (by kernel_rfl) (AP.op rfl rfl (by decide) (BL rfl (vl rfl)) (AP.op rfl rfl (by decide) (BL rfl (vl rfl)) (AP.op rfl rfl (by decide) (Fo rfl underlying22 Cg (Ka rfl) (vl rfl) (by omega) (by omega) (by omega) (by omega)) (AP.op rfl rfl (by decide) (BL rfl (vl rfl)) (AP.op rfl rfl (by decide) (BL rfl (vl rfl)) (AP.op rfl rfl (by decide) (JM rfl underlying22 Cg (Ka rfl) (vl rfl) (by omega) (by omega) (by omega)) ?_)))))))
 refine AP.turn _ rfl (by decide) (Tq 0 rfl (NF rfl rfl (by decide) rfl underlying22 Cg (vl rfl) (vl rfl) (by omega) (by rw [List.length_append,Im];omega) (by rw [List.length_append,Im];omega) rfl)) ?_
 refine ac ?_
 refine CL 0 7 rfl ?_
 refine ap ?_
 refine tp rfl (D9 rfl underlying22 (vl rfl)) (tm rfl (tp rfl (J8 rfl underlying22 Cg (vl rfl) (vl rfl) (vl rfl) (by omega) (by omega) (by omega)) ?_))
 refine TO.CT 0 rfl rfl (Mx rfl rfl underlying22 Cg z3 rfl (by decide) (by decide) (vl rfl) (by omega) (by simp only [List.length_append,List.length_take,List.length_drop,List.length_map,Im];omega) rfl) ?_
 refine ap ?_
 refine ac ?_
 refine Tr.ret ?_
 refine Fin.Kn (sz:=1) 0 rfl (rows:=((l.eraseIdx i).map (fun n:Int=>[int n]))) (sp:=[.int .i64 0]++sp) (m:=i+(l.length-(i+1))) ((OV (N:=l.length*1) (a:=i*1) (z:=1) (S:=sp.map is) Im (by omega) (by omega) (by omega) (by omega) (by omega) (by omega) (by omega) (B:=_) rfl).trans (by rw [List.map_append,←OU (f:=(fun n:Int=>[int n])) (sz:=1) (fun _=>rfl),Nat.succ_mul,k6]<;>omega)) (by rw [List.length_map,List.length_eraseIdx,if_pos hi];omega) (by omega) hm (by rw [List.length_append,hq];simp only [List.length_cons,List.length_nil];omega) ?_
 refine Fin.Dz rfl rfl ?_ (by rintro _ _ _ rfl;rfl)
 · rintro _ _ _ rfl;exact ⟨_,_,by congr 1;omega⟩
theorem aF:Entry Tryz.prog 208:=⟨_,Tryz.func208,rfl,rfl⟩
theorem aG {l:List (DO)} {b0 cap i:Nat} {sp:List Value} (hi:i<l.length) (hl:l.length≤1000000) (hc:l.length≤cap) (hm:cap≤maxLen) (hq:sp.length=(cap-l.length)*4):BE prog 214 [Ay (.slice (some ⟨b0,0,none⟩) l.length cap) (lens l.length),int ((i:Nat):Int),int (((i:Nat):Int)+1)] (lens (l.length-1)) (AA true b0 27 ((l.map BC).flatten++sp.map is)) (fun v=>Dw 27 4 ((l.eraseIdx i).map BC) v):=by
 refine BE.of func214 rfl rfl (by exact Nb rfl) fun M0 w0 S rs M1 w1=> ?_
 have Im:((l.map BC).flatten).length=l.length*4:=by rw [CO (sz:=4) (BF fun _=>rfl),List.length_map]
 have e1:(((i:Nat):Int)+(1:Int)).toNat=i+1:=by omega
 have e2:((i:Nat):Int).toNat=i:=by omega
 refine a2 ?_
 refine co rfl (D9 rfl underlying30 (Ka rfl)) (co rfl (IW rfl underlying30 Be (Ka rfl) (vl rfl) (vl rfl) (vl rfl) (by omega) (by omega) (by omega) (by omega)) ?_)
 refine ac ?_
 refine an ?_ ?_<;>intro h1 q1
 exfalso;have:=q1;omega
 refine a2 ?_
 refine co rfl (D9 rfl underlying30 (Ka rfl)) ?_
 refine ac ?_
 refine Tr.seq (Tr.Da mixed 6 (by kernel_rfl) (AP.op rfl rfl (by decide) (BL rfl (vl rfl)) (AP.op rfl rfl (by decide) (BL rfl (vl rfl)) (AP.op rfl rfl (by decide) (Fo rfl underlying30 Be (Ka rfl) (vl rfl) (by omega) (by omega) (by omega) (by omega)) (AP.op rfl rfl (by decide) (BL rfl (vl rfl)) (AP.op rfl rfl (by decide) (BL rfl (vl rfl)) (AP.op rfl rfl (by decide) (JM rfl underlying30 Be (Ka rfl) (vl rfl) (by omega) (by omega) (by omega)) ?_)))))))
 refine AP.turn _ rfl (by decide) (Tq 0 rfl (NF rfl rfl (by decide) rfl underlying30 Be (vl rfl) (vl rfl) (by omega) (by rw [List.length_append,Im];omega) (by rw [List.length_append,Im];omega) rfl)) ?_
 refine ac ?_
 refine CL 0 7 rfl ?_
 refine ap ?_
 refine tp rfl (D9 rfl underlying30 (vl rfl)) (tm rfl (tp rfl (J8 rfl underlying30 Be (vl rfl) (vl rfl) (vl rfl) (by omega) (by omega) (by omega)) ?_))
 refine TO.CT 0 rfl rfl (Mx rfl rfl underlying30 Be JG rfl (by decide) (by decide) (vl rfl) (by omega) (by simp only [List.length_append,List.length_take,List.length_drop,List.length_map,Im];omega) rfl) ?_
 refine ap ?_
 refine ac ?_
 refine Tr.ret ?_
 refine Fin.Kn (sz:=4) 0 rfl (rows:=((l.eraseIdx i).map BC)) (sp:=[.int .i64 0,.int .i64 0,.int .i64 0,.slice none 0 0]++sp) (m:=i+(l.length-(i+1))) ((OV (N:=l.length*4) (a:=i*4) (z:=4) (S:=sp.map is) Im (by omega) (by omega) (by omega) (by omega) (by omega) (by omega) (by omega) (B:=_) rfl).trans (by rw [List.map_append,←OU (f:=BC) (sz:=4) (fun _=>rfl),Nat.succ_mul,k6]<;>omega)) (by rw [List.length_map,List.length_eraseIdx,if_pos hi];omega) (by omega) hm (by rw [List.length_append,hq];simp only [List.length_cons,List.length_nil];omega) ?_
 refine Fin.Dz rfl rfl ?_ (by rintro _ _ _ rfl;rfl)
 · rintro _ _ _ rfl;exact ⟨_,_,by congr 1;omega⟩
theorem aH:Entry Tryz.prog 214:=⟨_,Tryz.func214,rfl,rfl⟩
end Go.Proofs.YtppeeogffbpcbaaGreat
