/-
  Part 5 of the texts that prove this claim, merged.
-/
import Derived.Test.YtppeeogffbpcbaaGreatElDP4
set_option linter.all false
set_option maxRecDepth 40000
set_option maxHeartbeats 16000000
namespace Go.Proofs.YtppeeogffbpcbaaGreat
open Go Go.RowKit Cp Go.Proofs.Tryz
theorem W4 {d:Nat} {w:World} {x0 y0:Int} {x1 y1:Int}:(Op.equalIn (d+2) 129 (.agg #[.int .i64 x0,.int .i64 x1]) (.agg #[.int .i64 y0,.int .i64 y1])).run Tryz.prog w= .ok (decide (x0=y0∧x1=y1)) w:=by
 have h:=mZ (w:=w) (d:=d+1) (xs:= #[.int .i64 x0,.int .i64 x1]) (ys:= #[.int .i64 y0,.int .i64 y1]) Tryz.underlying129 (by kernel_rfl) (Ff (by decide) (Ct CV rfl) (Ct CV rfl) (HU (d:=d+0) Tryz.underlying3) (Ff (by decide) (Ct CV rfl) (Ct CV rfl) (HU (d:=d+0) Tryz.underlying3) (L2)))
 refine h.trans (congrArg (fun b=>Result.ok b w) ?_)
 rw [Bool.eq_iff_iff];simp [and_assoc]
theorem RH {E:Env} {I:Ca} {o:Oper} {u:TypeId} {x y:Operand} {x0 y0:Int} {x1 y1:Int} (ho:o.op= .binOp .eql 129 x y u) (hx:VL E x (agg [is (.int .i64 x0),is (.int .i64 x1)])) (hy:VL E y (agg [is (.int .i64 y0),is (.int .i64 y1)])):Ad Tryz.prog I o E (bool (decide (x0=y0∧x1=y1))):=
 Qk [.int .i64 x0,.int .i64 x1] [.int .i64 y0,.int .i64 y1] ho hx hy (by kernel_rfl) (fun w=>by rw [show Op.equal 129 _ _=Op.equalIn (9998+2) 129 _ _ from rfl];exact W4)
theorem W5 {E:Env} {I:Ca} {o:Oper} {u:TypeId} {x y:Operand} {x0 y0:Int} {x1 y1:Int} (ho:o.op= .binOp .neq 129 x y u) (hx:VL E x (agg [is (.int .i64 x0),is (.int .i64 x1)])) (hy:VL E y (agg [is (.int .i64 y0),is (.int .i64 y1)])):Ad Tryz.prog I o E (bool (!decide (x0=y0∧x1=y1))):=
 J_ [.int .i64 x0,.int .i64 x1] [.int .i64 y0,.int .i64 y1] ho hx hy (by kernel_rfl) (fun w=>by rw [show Op.equal 129 _ _=Op.equalIn (9998+2) 129 _ _ from rfl];exact W4)
deriving instance DecidableEq for FF
deriving instance DecidableEq for Du
deriving instance DecidableEq for A5
deriving instance DecidableEq for BA
theorem E8 {α:Type} {a b:List α} {k:Nat} {x y:α} (ha:a[k]? =some x) (hb:b[k]? =some y) (h:a.take k=b.take k) (e:x=y):a.take (k+1)=b.take (k+1):=by
 rw [List.take_add_one,List.take_add_one,ha,hb,h,e]
theorem HE {α:Type} {a b:List α} {k:Nat} {x y:α} (ha:a[k]? =some x) (hb:b[k]? =some y) (e:¬x=y):¬a=b:=by
 rintro rfl;rw [ha] at hb;cases hb;exact e rfl
theorem E9 {α:Type} {a b:List α} (hl:a.length=b.length) (h:a.take a.length=b.take a.length):a=b:=by
 rw [List.take_length,hl,List.take_length] at h;exact h
theorem SZ {a b:List (Int)}  :A_ prog 82 [ints a,ints b] (bool (decide (a=b))):=by
 refine fo func82 rfl ⟨rfl,rfl⟩ fun M0 w0=>(Tr.Cr 0 rfl fun Dj=>(Tr.Cr 1 rfl fun Fh=> ?_))
 refine ac ?_
 refine an ?_ ?_<;>intro h1 q1
 have hne:¬a.length=b.length:=by simp_all;omega
 refine a2 ?_
 · refine bool_eq ?_;symm;rw [decide_eq_false_iff_not];rintro rfl;exact hne rfl
 have HB:a.length=b.length:=by simp_all;omega
 refine a2 ?_
 refine Tr.block (Tr.BF [(0,_),(1,_)] (Nu rfl) (fun k:Nat=>[(5,int ((k:Nat):Int))]) (fun k:Nat=>k≤(a).length∧(a.take k=b.take k)) (fun k:Nat=>(a).length-k) 0 (⟨Nat.zero_le _,rfl⟩) ⟨ke rfl,trivial⟩ ?_)
 rintro k ⟨BN,AL⟩
 refine an ?_ ?_<;>intro h2 q2
 have Ac:k<(a).length:=AU h2
 obtain ⟨x,Aa⟩:=at_ Ac
 obtain ⟨y,hy⟩:=at_ (l:=b) (k:=k) (by omega)
 · repeat' first|(refine bool_eq ?_;symm;rw [decide_eq_false_iff_not];refine HE Aa hy ?_;rintro rfl;simp_all)|exact Fin.AM (k+1) ⟨⟨Ac,E8 Aa hy AL (by simp_all)⟩,by omega⟩ ⟨⟨_,rfl,AK k⟩,ke rfl,ke rfl,trivial⟩|refine co rfl (AA rfl underlying22 CO (vl rfl) (vl rfl) (by omega) (AX Aa)) ?_|refine co rfl (AA rfl underlying22 CO (vl rfl) (vl rfl) (by omega) (AX hy)) ?_|refine ac ?_|(refine Tr.cn rfl ?_ ?_<;>intro h q)
 have A4:k=(a).length:=by have:=AV h2;omega
 subst A4
 refine a3 ?_
 · refine bool_eq ?_;symm;rw [decide_eq_true_eq];exact E9 HB AL
theorem RI {a b:List (List UInt8)}  :A_ prog 220 [Pf a,Pf b] (bool (decide (a=b))):=by
 refine fo func220 rfl ⟨rfl,rfl⟩ fun M0 w0=>(Tr.Cr 0 rfl fun Dj=>(Tr.Cr 1 rfl fun Fh=> ?_))
 refine ac ?_
 refine an ?_ ?_<;>intro h1 q1
 have hne:¬a.length=b.length:=by simp_all;omega
 refine a2 ?_
 · refine bool_eq ?_;symm;rw [decide_eq_false_iff_not];rintro rfl;exact hne rfl
 have HB:a.length=b.length:=by simp_all;omega
 refine a2 ?_
 refine Tr.block (Tr.BF [(0,_),(1,_)] (Nu rfl) (fun k:Nat=>[(5,int ((k:Nat):Int))]) (fun k:Nat=>k≤(a).length∧(a.take k=b.take k)) (fun k:Nat=>(a).length-k) 0 (⟨Nat.zero_le _,rfl⟩) ⟨ke rfl,trivial⟩ ?_)
 rintro k ⟨BN,AL⟩
 refine an ?_ ?_<;>intro h2 q2
 have Ac:k<(a).length:=AU h2
 obtain ⟨x,Aa⟩:=at_ Ac
 obtain ⟨y,hy⟩:=at_ (l:=b) (k:=k) (by omega)
 · repeat' first|(refine bool_eq ?_;symm;rw [decide_eq_false_iff_not];refine HE Aa hy ?_;rintro rfl;simp_all)|exact Fin.AM (k+1) ⟨⟨Ac,E8 Aa hy AL (by simp_all)⟩,by omega⟩ ⟨⟨_,rfl,AK k⟩,ke rfl,ke rfl,trivial⟩|refine co rfl (AA rfl underlying74 G0 (vl rfl) (vl rfl) (by omega) (AX Aa)) ?_|refine co rfl (AA rfl underlying74 G0 (vl rfl) (vl rfl) (by omega) (AX hy)) ?_|refine ac ?_|(refine Tr.cn rfl ?_ ?_<;>intro h q)
 have A4:k=(a).length:=by have:=AV h2;omega
 subst A4
 refine a3 ?_
 · refine bool_eq ?_;symm;rw [decide_eq_true_eq];exact E9 HB AL
theorem W6 {a b:FF}  :A_ prog 182 [agg (CZ a),agg (CZ b)] (bool (decide (a=b))):=by
 refine fo func182 rfl ⟨rfl,rfl⟩ fun M0 w0=> ?_
 · repeat' first|(refine bool_eq ?_;cases a;cases b;simp_all)|refine cy h rfl (C8 (RI) rfl rfl rfl) ?_|refine cy h rfl (RH rfl (vl rfl) (vl rfl)) ?_|refine cy h rfl (HV rfl (vl rfl) (vl rfl)) ?_|refine ac ?_|(refine Ch.cg rfl rfl rfl ?_ ?_<;>intro h q)
theorem N6 {a b:List (FF)}  :A_ prog 129 [Gh a,Gh b] (bool (decide (a=b))):=by
 refine fo func129 rfl ⟨rfl,rfl⟩ fun M0 w0=>(Tr.Cr 0 rfl fun Dj=>(Tr.Cr 1 rfl fun Fh=> ?_))
 refine ac ?_
 refine an ?_ ?_<;>intro h1 q1
 have hne:¬a.length=b.length:=by simp_all;omega
 refine a2 ?_
 · refine bool_eq ?_;symm;rw [decide_eq_false_iff_not];rintro rfl;exact hne rfl
 have HB:a.length=b.length:=by simp_all;omega
 refine a2 ?_
 refine Tr.block (Tr.BF [(0,_),(1,_)] (Nu rfl) (fun k:Nat=>[(5,int ((k:Nat):Int))]) (fun k:Nat=>k≤(a).length∧(a.take k=b.take k)) (fun k:Nat=>(a).length-k) 0 (⟨Nat.zero_le _,rfl⟩) ⟨ke rfl,trivial⟩ ?_)
 rintro k ⟨BN,AL⟩
 refine an ?_ ?_<;>intro h2 q2
 have Ac:k<(a).length:=AU h2
 obtain ⟨x,Aa⟩:=at_ Ac
 obtain ⟨y,hy⟩:=at_ (l:=b) (k:=k) (by omega)
 · repeat' first|(refine bool_eq ?_;symm;rw [decide_eq_false_iff_not];refine HE Aa hy ?_;rintro rfl;simp_all)|exact Fin.AM (k+1) ⟨⟨Ac,E8 Aa hy AL (by simp_all)⟩,by omega⟩ ⟨⟨_,rfl,AK k⟩,ke rfl,ke rfl,trivial⟩|refine co rfl (AA rfl underlying25 CC (vl rfl) (vl rfl) (by omega) (AX Aa)) ?_|refine co rfl (AA rfl underlying25 CC (vl rfl) (vl rfl) (by omega) (AX hy)) (co rfl (AH rfl Dh CC (vl rfl) rfl rfl) (co rfl (C8 (W6) rfl rfl rfl) ?_))|refine ac ?_|(refine Tr.cn rfl ?_ ?_<;>intro h q)
 have A4:k=(a).length:=by have:=AV h2;omega
 subst A4
 refine a3 ?_
 · refine bool_eq ?_;symm;rw [decide_eq_true_eq];exact E9 HB AL
theorem RJ {a b:List (Du)}  :A_ prog 83 [Eu a,Eu b] (bool (decide (a=b))):=by
 refine fo func83 rfl ⟨rfl,rfl⟩ fun M0 w0=>(Tr.Cr 0 rfl fun Dj=>(Tr.Cr 1 rfl fun Fh=> ?_))
 refine ac ?_
 refine an ?_ ?_<;>intro h1 q1
 have hne:¬a.length=b.length:=by simp_all;omega
 refine a2 ?_
 · refine bool_eq ?_;symm;rw [decide_eq_false_iff_not];rintro rfl;exact hne rfl
 have HB:a.length=b.length:=by simp_all;omega
 refine a2 ?_
 refine Tr.block (Tr.BF [(0,_),(1,_)] (Nu rfl) (fun k:Nat=>[(5,int ((k:Nat):Int))]) (fun k:Nat=>k≤(a).length∧(a.take k=b.take k)) (fun k:Nat=>(a).length-k) 0 (⟨Nat.zero_le _,rfl⟩) ⟨ke rfl,trivial⟩ ?_)
 rintro k ⟨BN,AL⟩
 refine an ?_ ?_<;>intro h2 q2
 have Ac:k<(a).length:=AU h2
 obtain ⟨x,Aa⟩:=at_ Ac
 obtain ⟨y,hy⟩:=at_ (l:=b) (k:=k) (by omega)
 · repeat' first|(refine bool_eq ?_;symm;rw [decide_eq_false_iff_not];refine HE Aa hy ?_;rintro rfl;simp_all)|(exact Fin.AM (k+1) ⟨⟨Ac,E8 Aa hy AL (by cases x;cases y;simp_all)⟩,by omega⟩ ⟨⟨_,rfl,AK k⟩,ke rfl,ke rfl,trivial⟩)|refine co rfl (AA rfl underlying30 BR (vl rfl) (vl rfl) (by omega) (AX Aa)) ?_|refine co rfl (AA rfl underlying30 BR (vl rfl) (vl rfl) (by omega) (AX hy)) ?_|refine co rfl (L4 rfl (vl rfl) (vl rfl)) (cm rfl ?_)|refine cy h rfl (C8 (N6) rfl rfl rfl) ?_|refine cy h rfl (AA rfl underlying30 BR (vl rfl) (vl rfl) (by omega) (AX Aa)) ?_|refine cy h rfl (AA rfl underlying30 BR (vl rfl) (vl rfl) (by omega) (AX hy)) ?_|refine ac ?_|(refine Tr.cn rfl ?_ ?_<;>intro h q)|(refine Ch.cg rfl rfl rfl ?_ ?_<;>intro h q)
 have A4:k=(a).length:=by have:=AV h2;omega
 subst A4
 refine a3 ?_
 · refine bool_eq ?_;symm;rw [decide_eq_true_eq];exact E9 HB AL
theorem W7 {a b:A5}  :A_ prog 22 [agg (Ah a),agg (Ah b)] (bool (decide (a=b))):=by
 refine fo func22 rfl ⟨rfl,rfl⟩ fun M0 w0=> ?_
 · repeat' first|(refine bool_eq ?_;cases a;cases b;simp_all [Bool.beq_eq_decide_eq])|refine cy h rfl (C8 (RJ) rfl rfl rfl) ?_|refine cy h rfl (C8 (SZ) rfl rfl rfl) ?_|refine ac ?_|(refine Ch.cg rfl rfl rfl ?_ ?_<;>intro h q)
theorem Sa {a b:FF} (hn:a.names.length≤8796093022208):A_ prog 130 [agg (CZ a),agg (CZ b)] (bool (decide (a=b))):=by
 refine fo func130 rfl ⟨rfl,rfl⟩ fun M0 w0=> ?_
 refine ac ?_
 refine ag ?_ ?_<;>intro h1 q1
 refine ac ?_
 refine Cg 2 3 89 rfl ?_
 refine a2 ?_
 · refine bool_eq ?_;symm;rw [decide_eq_false_iff_not];rintro rfl;simp_all
 refine ag ?_ ?_<;>intro h2 q2
 refine ac ?_
 refine Cg 2 3 89 rfl ?_
 refine a2 ?_
 · refine bool_eq ?_;symm;rw [decide_eq_false_iff_not];rintro rfl;simp_all
 refine ag ?_ ?_<;>intro h3 q3
 refine ac ?_
 refine Cg 2 3 89 rfl ?_
 refine a2 ?_
 · refine bool_eq ?_;symm;rw [decide_eq_false_iff_not];rintro rfl;simp_all
 refine ac ?_
 refine cy h3 rfl (L4 rfl (vl rfl) (vl rfl)) ?_
 refine ag ?_ ?_<;>intro h4 q4
 refine ac ?_
 refine Cg 2 3 89 rfl ?_
 refine a2 ?_
 · refine bool_eq ?_;symm;rw [decide_eq_false_iff_not];rintro rfl;simp_all
 refine ag ?_ ?_<;>intro h5 q5
 refine ac ?_
 refine Cg 2 3 89 rfl ?_
 refine a2 ?_
 · refine bool_eq ?_;symm;rw [decide_eq_false_iff_not];rintro rfl;simp_all
 refine ac ?_
 refine cy h5 rfl (L4 rfl (vl rfl) (vl rfl)) ?_
 refine ag ?_ ?_<;>intro h6 q6
 refine ac ?_
 refine Cg 2 3 89 rfl ?_
 refine a2 ?_
 · refine bool_eq ?_;symm;rw [decide_eq_false_iff_not];rintro rfl;simp_all
 refine ag ?_ ?_<;>intro h7 q7
 refine ac ?_
 refine Cg 2 3 89 rfl ?_
 refine a2 ?_
 · refine bool_eq ?_;symm;rw [decide_eq_false_iff_not];rintro rfl;simp_all
 refine ag ?_ ?_<;>intro h8 q8
 refine ac ?_
 refine Cg 2 3 89 rfl ?_
 refine a2 ?_
 · refine bool_eq ?_;symm;rw [decide_eq_false_iff_not];rintro rfl;simp_all
 refine ac ?_
 refine cy h8 rfl (Mu rfl underlying4 (vl rfl) (vl rfl)) ?_
 refine ag ?_ ?_<;>intro h9 q9
 refine ac ?_
 refine Cg 2 3 89 rfl ?_
 refine a2 ?_
 · refine bool_eq ?_;symm;rw [decide_eq_false_iff_not];rintro rfl;simp_all
 refine ag ?_ ?_<;>intro h10 PZ
 refine ac ?_
 refine Cg 2 3 89 rfl ?_
 refine a2 ?_
 · refine bool_eq ?_;symm;rw [decide_eq_false_iff_not];rintro rfl;simp_all
 refine ac ?_
 refine cy h10 rfl (W5 rfl (vl rfl) (vl rfl)) ?_
 refine ag ?_ ?_<;>intro h11 Qx
 refine ac ?_
 refine Cg 2 3 89 rfl ?_
 refine a2 ?_
 · refine bool_eq ?_;symm;rw [decide_eq_false_iff_not];rintro rfl;simp_all
 refine ac ?_
 refine Cg 2 3 89 rfl ?_
 refine Tr.cn rfl ?_ ?_<;>intro h12 Sb
 refine a2 ?_
 · refine bool_eq ?_;symm;rw [decide_eq_false_iff_not];rintro rfl;simp_all
 have HB:a.names.length=b.names.length:=by simp_all;omega
 refine a2 ?_
 refine Tr.block (Tr.BF [(2,_),(3,_),(92,_)] (Js rfl) (fun k:Nat=>[(93,int ((k:Nat):Int))]) (fun k:Nat=>k≤(a.names).length∧(a.names.take k=b.names.take k)) (fun k:Nat=>(a.names).length-k) 0 (⟨Nat.zero_le _,rfl⟩) ⟨ke rfl,trivial⟩ ?_)
 rintro k ⟨BN,AL⟩
 refine ac ?_
 refine Tr.seq ?_
 refine Tr.cn rfl ?_ ?_<;>intro H8 Tp
 have Ac:k<(a.names).length:=AU H8
 obtain ⟨x,Aa⟩:=at_ Ac
 obtain ⟨y,hy⟩:=at_ (l:=b.names) (k:=k) (by omega)
 · repeat' first|(refine bool_eq ?_;symm;rw [decide_eq_false_iff_not];rintro rfl;rw [Aa] at hy;cases hy;simp_all)|exact Fin.AM (k+1) ⟨⟨Ac,E8 Aa hy AL (by simp_all)⟩,by omega⟩ ⟨⟨_,rfl,AK k⟩,ke rfl,ke rfl,ke rfl,trivial⟩|refine co rfl (AA rfl underlying74 G0 (vl rfl) (vl rfl) (by omega) (AX Aa)) ?_|refine co rfl (AA rfl underlying74 G0 (vl rfl) (vl rfl) (by omega) (AX hy)) ?_|refine ac ?_|(refine Tr.cn rfl ?_ ?_<;>intro h q)
 have A4:k=(a.names).length:=by have:=AV H8;omega
 subst A4
 refine a3 ?_
 · refine bool_eq ?_;have hnn:=E9 HB AL;clear AL HB;cases a;cases b;simp_all
theorem Sc {a b:Du} (hs:a.small):A_ prog 84 [agg (Az a),agg (Az b)] (bool (decide (a=b))):=by
 refine fo func84 rfl ⟨rfl,rfl⟩ fun M0 w0=> ?_
 have hsc:=hs.chain
 refine a2 ?_
 refine co rfl (L4 rfl (vl rfl) (vl rfl)) (cm rfl ?_)
 refine Ch.cs 11 rfl ?_ ?_<;>intro h1 q1
 refine ac ?_
 refine Cg 2 3 26 rfl ?_
 refine a2 ?_
 · refine bool_eq ?_;symm;rw [decide_eq_false_iff_not];rintro rfl;simp_all
 refine ag ?_ ?_<;>intro h2 q2
 refine ac ?_
 refine Cg 2 3 26 rfl ?_
 refine a2 ?_
 · refine bool_eq ?_;symm;rw [decide_eq_false_iff_not];rintro rfl;simp_all
 refine ac ?_
 refine Cg 2 3 26 rfl ?_
 refine Tr.cn rfl ?_ ?_<;>intro h3 q3
 refine a2 ?_
 · refine bool_eq ?_;symm;rw [decide_eq_false_iff_not];rintro rfl;simp_all
 have HB:a.chain.length=b.chain.length:=by simp_all;omega
 refine a2 ?_
 refine Tr.block (Tr.BF [(2,_),(3,_),(29,_)] (Js rfl) (fun k:Nat=>[(30,int ((k:Nat):Int))]) (fun k:Nat=>k≤(a.chain).length∧(a.chain.take k=b.chain.take k)) (fun k:Nat=>(a.chain).length-k) 0 (⟨Nat.zero_le _,rfl⟩) ⟨ke rfl,trivial⟩ ?_)
 rintro k ⟨BN,AL⟩
 refine ac ?_
 refine Tr.seq ?_
 refine Tr.cn rfl ?_ ?_<;>intro h4 q4
 have Ac:k<(a.chain).length:=AU h4
 obtain ⟨x,Aa⟩:=at_ Ac
 obtain ⟨y,hy⟩:=at_ (l:=b.chain) (k:=k) (by omega)
 have hxn:=hs.names x (List.mem_of_getElem? Aa)
 · repeat' first|(refine bool_eq ?_;symm;rw [decide_eq_false_iff_not];rintro rfl;rw [Aa] at hy;cases hy;simp_all)|exact Fin.AM (k+1) ⟨⟨Ac,E8 Aa hy AL (by simp_all)⟩,by omega⟩ ⟨⟨_,rfl,AK k⟩,ke rfl,ke rfl,ke rfl,trivial⟩|refine co rfl (AA rfl underlying25 CC (vl rfl) (vl rfl) (by omega) (AX Aa)) ?_|refine co rfl (AA rfl underlying25 CC (vl rfl) (vl rfl) (by omega) (AX hy)) (co rfl (AH rfl Dh CC (vl rfl) rfl rfl) (co rfl (C8 (Sa hxn) rfl rfl rfl) ?_))|refine ac ?_|(refine Tr.cn rfl ?_ ?_<;>intro h q)
 have A4:k=(a.chain).length:=by have:=AV h4;omega
 subst A4
 refine a3 ?_
 · refine bool_eq ?_;have hnn:=E9 HB AL;clear AL HB hs;cases a;cases b;simp_all
theorem Ty {k:Int} (hk:1≤k∧k≤12):k=1∨k=2∨k=3∨k=4∨k=5∨k=6∨k=7∨k=8∨k=9∨k=10∨k=11∨k=12:=by omega
theorem RK {e:A5} {c:BA} {f:Int} (hc:Ec c) (h:A6 e c= .error f):f≠0:=by
 rcases Ty hc.1 with hk|hk|hk|hk|hk|hk|hk|hk|hk|hk|hk|hk
 · rw [MC hk] at h;(repeat' (split at h))<;>first|(injection h with h;omega)|(cases h;done)
 · rw [MD hk] at h;(repeat' (split at h))<;>first|(injection h with h;omega)|(cases h;done)
 · rw [ME hk] at h;(repeat' (split at h))<;>first|(injection h with h;omega)|(cases h;done)
 · rw [MF hk] at h;(repeat' (split at h))<;>first|(injection h with h;omega)|(cases h;done)
 · rw [MG hk] at h;(repeat' (split at h))<;>first|(injection h with h;omega)|(cases h;done)
 · rw [MH hk] at h;(repeat' (split at h))<;>first|(injection h with h;omega)|(cases h;done)
 · rw [MI hk] at h;(repeat' (split at h))<;>first|(injection h with h;omega)|(cases h;done)
 · rw [MJ hk] at h;(repeat' (split at h))<;>first|(injection h with h;omega)|(cases h;done)
 · rw [MK hk] at h;(repeat' (split at h))<;>first|(injection h with h;omega)|(cases h;done)
 · rw [KO hk] at h;(repeat' (split at h))<;>first|(injection h with h;omega)|(cases h;done)
 · rw [KP hk] at h;(repeat' (split at h))<;>first|(injection h with h;omega)|(cases h;done)
 · rw [KQ hk] at h;(repeat' (split at h))<;>first|(injection h with h;omega)|(cases h;done)
theorem U0 {e:A5} {c:BA} {x:A5} {b:BA} (h:CR e c=(x,b,0)):Tv e∧Ec c∧A6 e c= .ok (x,b)∧Tv x:=by
 unfold CR at h
 split at h
 · cases h
 next h1=>
 split at h
 · cases h
 next h2=>
 have h1 : B_ e = true := by cases hh : B_ e with
  |true=>rfl
  |false=>exact absurd hh h1
 have h2:Ec c:=Classical.not_not.1 h2
 cases hs:A6 e c with
 |error f=>
  rw [hs] at h
  simp only [Prod.mk.injEq] at h
  exact absurd h.2.2 (RK h2 hs)
 |ok r=>
  obtain ⟨x',b'⟩:=r
  rw [hs] at h
  simp only at h
  split at h
  next h3=>simp only [Prod.mk.injEq,and_true] at h;obtain ⟨rfl,rfl⟩:=h;exact ⟨CE.1 h1,h2,rfl,CE.1 h3⟩
  · cases h
section
variable {α:Type} {p:α→Bool} {l:List α} {a:α} {i:Nat}
end
theorem Sd {l:List Int} (h:FY l=true) {i j:Nat} {n:Int} (hi:l[i]? =some n) (hj:l[j]? =some n):i=j:=by
 unfold FY at h;rw [Bo] at h
 have key:∀{a b:Nat},a<b→l[a]? =some n→l[b]? =some n→False:=by
  intro a b hab ha hb
  have:=h b (A1 hb)
  unfold DZ at this
  rw [Bi hb] at this
  simp only [Bool.and_eq_true,Bool.not_eq_true',List.any_eq_false] at this
  have:=this.2 n (List.mem_of_getElem? (show (l.take b)[a]? =some n by rw [List.getElem?_take,if_pos hab];exact ha))
  simp at this
 rcases Nat.lt_trichotomy i j with h1|h1|h1
 · exact (key h1 hi hj).elim
 · exact h1
 · exact (key h1 hj hi).elim
abbrev Oi:List Pr:=[Ja .u8]
abbrev Tz (m:Nat):Pr:=slice 1 (List.replicate m Oi)
abbrev Eo (B:Nat):Pr:=Cp.ex fun m:Nat=>fact (m≤B) (Tz m)
abbrev RL:Pr:=Cp.ex fun b:Bool=>bool b
abbrev Bg (q:Pr):List Pr:=[Ja .i64,Eo 1000,RL,q]
abbrev Ih (row:List Pr):Pr:=Cp.ex fun m:Nat=>fact (m≤20) (slice 4 (List.replicate m row))
abbrev Jj (D:Nat):Pr:=Cp.ex fun d:Int=>fact (0≤d∧d≤(D:Nat)) (int d)
theorem Ij {r:List Pr} {m k:Nat} (h:k<m):(List.replicate m r)[((k:Nat):Int).toNat]? =some r:=by rw [Int.toNat_natCast,List.getElem?_replicate,if_pos h]
theorem T0 {r:List Pr} {m:Nat}:List.replicate m r++[r]=List.replicate (m+1) r:=by rw [List.replicate_succ']
theorem KR {r:List Pr} {m k:Nat}:List.replicate m r++List.replicate k r=List.replicate (m+k) r:=by rw [List.replicate_append_replicate]
theorem LS.refl:∀l:List Pr,LS l l
 |[]=>trivial
 |_::l=>⟨Pr.le_refl _,LS.refl l⟩
theorem Mv {sz:Nat} {rows Ai:List (List Pr)} (hl:rows.length=Ai.length) (h:∀(i:Nat) r r',rows[i]? =some r→Ai[i]? =some r'→r.length=r'.length∧∀(j:Nat) p p',r[j]? =some p→r'[j]? =some p'→Pr.le p p'):Pr.le (slice sz rows) (slice sz Ai):=by
 rintro M w v ⟨a,cap,h1,h2,h3,h4,h5⟩
 refine ⟨a,cap,by rw [←hl];exact h1,by rw [←hl];exact h2,h3,h4,fun i row hr=> ?_⟩
 have hi:i<rows.length:=by rw [hl];exact A1 hr
 have ij:=List.getElem?_eq_getElem hi
 obtain ⟨g1,g2⟩:=h i _ _ ij hr
 obtain ⟨k1,ad,k2,k3⟩:=h5 i _ ij
 refine ⟨by rw [←g1];exact k1,ad,k2,fun j p' Ns=> ?_⟩
 have hj:j<rows[i].length:=by rw [g1];exact A1 Ns
 have hp:=List.getElem?_eq_getElem hj
 obtain ⟨u,c1,c2,c3,c4⟩:=k3 j _ hp
 exact ⟨u,c1,c2,c3,g2 j _ _ hp Ns _ _ _ c4⟩
theorem U1 {sz:Nat} {rows:List (List Pr)} {r:List Pr} (h:∀q∈rows,q.length=r.length∧∀(j:Nat) p p',q[j]? =some p→r[j]? =some p'→Pr.le p p'):Pr.le (slice sz rows) (slice sz (List.replicate rows.length r)):=
 Mv (by simp) fun i q q' hq hq' => by
  rw [List.getElem?_replicate,if_pos (A1 hq)] at hq'
  cases hq'
  exact h q (List.mem_of_getElem? hq)
theorem Gw {β:Type} {l:List β} {f:β→Int}:Pr.le (slice 1 (l.map fun x=>[is (.int .u8 (f x))])) (Tz l.length):=by
 have:=U1 (sz:=1) (rows:=l.map fun x=>[is (.int .u8 (f x))]) (r:=Oi) (by
  intro q hq
  obtain ⟨x,_,rfl⟩:=List.mem_map.1 hq
  refine ⟨rfl,fun j p p' hp Ns=> ?_⟩
  cases j with
  |zero=>simp at hp Ns;subst hp;subst Ns;exact Cf _ _
  |succ j=>simp at hp)
 rwa [List.length_map] at this
theorem CS {B m:Nat} {p:Pr} (h:m≤B) (hp:Pr.le p (Tz m)):Pr.le p (Eo B):=A9 m (A2 h hp)
theorem A_.Bg {P:Program} {f:FuncId} {row:List Pr} {res:Pr} (h:∀(t:Int) (b:Nat) (n:Bool) (m:Nat),b≤1000→m≤20→A_ P f [agg [int t,Tz b,bool n,slice 4 (List.replicate m row)]] res):A_ P f [agg (Bg (Ih row))] res:=by
 refine ⟨(h 0 0 false 0 (by omega) (by omega)).1,fun M w vs hb hv=> ?_⟩
 match vs,hv with
 |[u0],G_=>
  obtain ⟨⟨cs,rfl,ho,hcs⟩,_⟩:=G_
  match cs,hcs with
  |[c0,c1,c2,c3],hc=>
   obtain ⟨⟨t,h0⟩,⟨b,Rs,h1⟩,⟨n,h2⟩,⟨m,hm1,h3⟩,_⟩:=hc
   exact (h t b n m Rs hm1).2 M w _ hb ⟨⟨_,rfl,ho,h0,h1,h2,h3,trivial⟩,trivial⟩
theorem A_.W8 {P:Program} {f:FuncId} {res:Pr} (h:∀(t:Int) (b:Nat) (n:Bool),b≤1000→A_ P f [agg [int t,Tz b,bool n,slice 4 []]] res):A_ P f [agg [Ja .i64,Eo 1000,RL,slice 4 []]] res:=by
 refine ⟨(h 0 0 false (by omega)).1,fun M w vs hb hv=> ?_⟩
 match vs,hv with
 |[u0],G_=>
  obtain ⟨⟨cs,rfl,ho,hcs⟩,_⟩:=G_
  match cs,hcs with
  |[c0,c1,c2,c3],hc=>
   obtain ⟨⟨t,h0⟩,⟨b,Rs,h1⟩,⟨n,h2⟩,h3,_⟩:=hc
   exact (h t b n Rs).2 M w _ hb ⟨⟨_,rfl,ho,h0,h1,h2,h3,trivial⟩,trivial⟩
theorem eZ {n:Int}  :A_ prog 284 [int n] (bool (decide (1≤n)&&decide (n≤255)&&(n.tmod 32 !=31))):=by
 refine fo func284 rfl ⟨rfl,rfl⟩ fun M0 w0=> ?_
 refine ac ?_
 refine ag ?_ ?_<;>intro h1 q1
 refine ag ?_ ?_<;>intro h2 q2
 refine Gr h2 rfl (cy h2 rfl (O4 rfl (vl rfl) (vl rfl) (by omega)) ?_)
 refine a2 ?_
 · refine bool_eq ?_;simp_all
 refine a2 ?_
 · refine bool_eq ?_;simp_all;omega
 refine a2 ?_
 · refine bool_eq ?_;simp_all;omega
theorem K5 {t:Int} {b:Nat} {n:Bool} {m:Nat} {q:Pr}  (hb:b≤1000) (hm:m≤20) (ih:m=0∨A_ prog 247 [agg (Bg q)] (RL)):A_ prog 247 [agg [int t,Tz b,bool n,slice 4 (List.replicate m (Bg q))]] (RL):=by
 refine fo func247 rfl ⟨rfl,rfl⟩ fun M0 w0=> ?_
 have hlr:(List.replicate m (Bg q)).length=m:=List.length_replicate
 have hlb:(List.replicate b Oi).length=b:=List.length_replicate
 refine a2 ?_
 refine co rfl (B1 (eZ) rfl rfl) ?_
 refine ag ?_ ?_<;>intro h1 q1
 refine ac ?_
 refine B3 1 38 rfl ?_
 refine a2 ?_
 · exact A9 _ (Lr)
 refine ac ?_
 refine cy h1 rfl (Mh rfl (vl rfl) (vl rfl) (by omega)) (cy h1 rfl (O4 rfl (vl rfl) (vl rfl) (by omega)) (cy h1 rfl (ki rfl rfl rfl rfl) (cy h1 rfl (Mu rfl underlying4 (vl rfl) (vl rfl)) ?_)))
 refine ag ?_ ?_<;>intro h2 q2
 refine ac ?_
 refine B3 1 38 rfl ?_
 refine a2 ?_
 · exact A9 _ (Lr)
 refine ag ?_ ?_<;>intro h3 q3
 refine ac ?_
 refine cy h3 rfl (CW rfl underlying198 (vl rfl)) ?_
 refine ag ?_ ?_<;>intro h4 q4
 refine ac ?_
 refine B3 1 38 rfl ?_
 refine a2 ?_
 · exact A9 _ (Lr)
 refine ag ?_ ?_<;>intro h5 q5
 refine ac ?_
 refine cy h5 rfl (CW rfl underlying221 (vl rfl)) ?_
 refine ac ?_
 refine B3 1 38 rfl ?_
 refine Tr.cn rfl ?_ ?_<;>intro h6 q6
 refine a2 ?_
 · exact A9 _ (Lr)
 refine a2 ?_
 refine Tr.block (Tr.BF [(1,_)] ⟨ke rfl,trivial⟩ (fun k:Nat=>[(3,int ((k:Nat):Int))]) (fun k:Nat=>k≤((List.replicate m (Bg q)).length)) (fun k:Nat=>((List.replicate m (Bg q)).length)-k) 0 (Nat.zero_le _) ⟨ke rfl,trivial⟩ ?_)
 rintro k BN
 refine ac ?_
 refine co rfl (CW rfl underlying221 (vl rfl)) ?_
 refine an ?_ ?_<;>intro h7 q7
 have Ac:k<((List.replicate m (Bg q)).length):=AU h7
 have hkm:k<m:=by simpa using Ac
 have ih2:=ih.resolve_left (by omega)
 refine ac ?_
 refine ap ?_
 refine tp rfl (AA rfl underlying221 CX (vl rfl) (vl rfl) (by omega) (Ij hkm)) (tp rfl (AH rfl C9 CX (vl rfl) rfl rfl) (tp rfl (B1 (ih2) rfl rfl) ?_))
 refine TO.ex 51 rfl (fun z51=> ?_)
 refine ap ?_
 · repeat' first|exact A9 _ (Lr)|exact Fin.AM (k+1) ⟨Ac,by omega⟩ ⟨⟨_,rfl,AK k⟩,ke rfl,trivial⟩|refine ac ?_|(refine Tr.cn rfl ?_ ?_<;>intro h q)
 have A4:k=((List.replicate m (Bg q)).length):=by have:=AV h7;omega
 refine a3 ?_
 · exact A9 _ (Lr)
 refine ac ?_
 refine B3 1 38 rfl ?_
 refine a2 ?_
 refine Tr.block (Tr.BF [(1,_)] ⟨ke rfl,trivial⟩ (fun k:Nat=>[(3,int ((k:Nat):Int))]) (fun k:Nat=>k≤((List.replicate m (Bg q)).length)) (fun k:Nat=>((List.replicate m (Bg q)).length)-k) 0 (Nat.zero_le _) ⟨ke rfl,trivial⟩ ?_)
 rintro k BN
 refine ac ?_
 refine co rfl (CW rfl underlying221 (vl rfl)) ?_
 refine an ?_ ?_<;>intro h9 q9
 have Ac:k<((List.replicate m (Bg q)).length):=AU h9
 have hkm:k<m:=by simpa using Ac
 have ih2:=ih.resolve_left (by omega)
 refine ac ?_
 refine ap ?_
 refine tp rfl (AA rfl underlying221 CX (vl rfl) (vl rfl) (by omega) (Ij hkm)) (tp rfl (AH rfl C9 CX (vl rfl) rfl rfl) (tp rfl (B1 (ih2) rfl rfl) ?_))
 refine TO.ex 51 rfl (fun z51=> ?_)
 refine ap ?_
 · repeat' first|exact A9 _ (Lr)|exact Fin.AM (k+1) ⟨Ac,by omega⟩ ⟨⟨_,rfl,AK k⟩,ke rfl,trivial⟩|refine ac ?_|(refine Tr.cn rfl ?_ ?_<;>intro h q)
 have A4:k=((List.replicate m (Bg q)).length):=by have:=AV h9;omega
 refine a3 ?_
 · exact A9 _ (Lr)
 refine ag ?_ ?_<;>intro h11 Qx
 refine ac ?_
 refine cy h11 rfl (CW rfl underlying221 (vl rfl)) ?_
 refine ac ?_
 refine B3 1 38 rfl ?_
 refine Tr.cn rfl ?_ ?_<;>intro h12 Sb
 refine a2 ?_
 · exact A9 _ (Lr)
 refine a2 ?_
 refine Tr.block (Tr.BF [(1,_)] ⟨ke rfl,trivial⟩ (fun k:Nat=>[(3,int ((k:Nat):Int))]) (fun k:Nat=>k≤((List.replicate m (Bg q)).length)) (fun k:Nat=>((List.replicate m (Bg q)).length)-k) 0 (Nat.zero_le _) ⟨ke rfl,trivial⟩ ?_)
 rintro k BN
 refine ac ?_
 refine co rfl (CW rfl underlying221 (vl rfl)) ?_
 refine an ?_ ?_<;>intro H8 Tp
 have Ac:k<((List.replicate m (Bg q)).length):=AU H8
 have hkm:k<m:=by simpa using Ac
 have ih2:=ih.resolve_left (by omega)
 refine ac ?_
 refine ap ?_
 refine tp rfl (AA rfl underlying221 CX (vl rfl) (vl rfl) (by omega) (Ij hkm)) (tp rfl (AH rfl C9 CX (vl rfl) rfl rfl) (tp rfl (B1 (ih2) rfl rfl) ?_))
 refine TO.ex 51 rfl (fun z51=> ?_)
 refine ap ?_
 · repeat' first|exact A9 _ (Lr)|exact Fin.AM (k+1) ⟨Ac,by omega⟩ ⟨⟨_,rfl,AK k⟩,ke rfl,trivial⟩|refine ac ?_|(refine Tr.cn rfl ?_ ?_<;>intro h q)
 have A4:k=((List.replicate m (Bg q)).length):=by have:=AV H8;omega
 refine a3 ?_
 · exact A9 _ (Lr)
 refine ac ?_
 refine B3 1 38 rfl ?_
 refine a2 ?_
 refine Tr.block (Tr.BF [(1,_)] ⟨ke rfl,trivial⟩ (fun k:Nat=>[(3,int ((k:Nat):Int))]) (fun k:Nat=>k≤((List.replicate m (Bg q)).length)) (fun k:Nat=>((List.replicate m (Bg q)).length)-k) 0 (Nat.zero_le _) ⟨ke rfl,trivial⟩ ?_)
 rintro k BN
 refine ac ?_
 refine co rfl (CW rfl underlying221 (vl rfl)) ?_
 refine an ?_ ?_<;>intro N7 YG
 have Ac:k<((List.replicate m (Bg q)).length):=AU N7
 have hkm:k<m:=by simpa using Ac
 have ih2:=ih.resolve_left (by omega)
 refine ac ?_
 refine ap ?_
 refine tp rfl (AA rfl underlying221 CX (vl rfl) (vl rfl) (by omega) (Ij hkm)) (tp rfl (AH rfl C9 CX (vl rfl) rfl rfl) (tp rfl (B1 (ih2) rfl rfl) ?_))
 refine TO.ex 51 rfl (fun z51=> ?_)
 refine ap ?_
 · repeat' first|exact A9 _ (Lr)|exact Fin.AM (k+1) ⟨Ac,by omega⟩ ⟨⟨_,rfl,AK k⟩,ke rfl,trivial⟩|refine ac ?_|(refine Tr.cn rfl ?_ ?_<;>intro h q)
 have A4:k=((List.replicate m (Bg q)).length):=by have:=AV N7;omega
 refine a3 ?_
 · exact A9 _ (Lr)
theorem NZ {t:Int} {b:Nat} {n:Bool} {m:Nat} {q:Pr} {D:Nat}  (hb:b≤1000) (hm:m≤20) (hD:D≤1000) (ih:m=0∨A_ prog 248 [agg (Bg q)] (Jj D)):A_ prog 248 [agg [int t,Tz b,bool n,slice 4 (List.replicate m (Bg q))]] (Jj (D+1)):=by
 refine A_.of func248 rfl rfl (by exact Nb rfl) fun M0 w0=> ?_
 have hlr:(List.replicate m (Bg q)).length=m:=List.length_replicate
 have hlb:(List.replicate b Oi).length=b:=List.length_replicate
 refine Tr.seq (Tr.A3 (co rfl (Bl rfl (Va rfl)) (cm rfl (Ch.nil (Fin.go (Tr.seq (Tr.A3 (cm rfl (Ch.nil (Fin.go (Tr.seq (Tr.seq (Tr.A3 ?_)))))))))))))
 refine cm rfl (Ch.nil (Fin.go (Tr.block (Tr.BF [(1,_)] ⟨ke rfl,trivial⟩ (fun k:Nat=>[(4,int ((k:Nat):Int)),(3,Jj D)]) (fun k:Nat=>k≤((List.replicate m (Bg q)).length)) (fun k:Nat=>((List.replicate m (Bg q)).length)-k) 0 (Nat.zero_le _) ⟨ke rfl,⟨_,rfl,A9 0 (A2 (by omega) (Lr))⟩,trivial⟩ ?_))))
 rintro k BN
 refine Tr.seq (Tr.seq (Tr.A3 (cm rfl (co rfl (JC rfl J9 rfl rfl) (co rfl (E_ rfl PK rfl) (co rfl (CW rfl underlying221 (vl rfl)) (co rfl (ki rfl rfl rfl rfl) (Ch.nil (Fin.go ?_)))))))))
 refine Tr.cn rfl ?_ ?_<;>intro h1 q1
 have Ac:k<((List.replicate m (Bg q)).length):=AU h1
 have hkm:k<m:=by simpa using Ac
 have ih2:=ih.resolve_left (by omega)
 refine Tr.skip (Fin.go (Tr.seq (Tr.block (Tr.Aq (tm rfl ?_)))))
 refine TO.ex 12 rfl (fun z12=>TO.fact 12 rfl fun sJ=> ?_)
 refine tp rfl (JC rfl J9 rfl rfl) (tp rfl (E_ rfl PK rfl) (tm rfl (tp rfl (AA rfl underlying221 CX (vl rfl) (vl rfl) (by omega) (Ij hkm)) (tp rfl (AH rfl C9 CX (vl rfl) rfl rfl) (tp rfl (Ae rfl (ih2) ⟨ke rfl,trivial⟩) ?_)))))
 refine TO.ex 18 rfl (fun z18=>TO.fact 18 rfl fun qg=> ?_)
 refine tp rfl (Vg rfl (vl rfl) (vl rfl)) (tm rfl (TO.nil (Fin.block (Fin.go (Cg 1 3 4 rfl (Tr.A3 (cm rfl (Ly rfl rfl rfl rfl (by omega) (cm rfl (Ch.nil (Fin.AM (k+1) ⟨Ac,by omega⟩ ⟨⟨_,rfl,AK k⟩,⟨_,rfl,A9 _ (A2 (by omega) (Lr))⟩,ke rfl,trivial⟩)))))))))))
 have A4:k=((List.replicate m (Bg q)).length):=by have:=AV h1;omega
 refine Tr.exit (Fin.Ao (Fin.Ao (Fin.BT (Fin.go (Tr.seq (Tr.Aq (tm rfl ?_)))))))
 refine TO.ex 20 rfl (fun z20=>TO.fact 20 rfl fun sK=> ?_)
 refine tp rfl (FI rfl (vl rfl) (vl rfl) ?hin) ?_;case hin=>unfold LK;omega
 refine tm rfl (TO.nil (Fin.go (Tr.ret (Fin.JN rfl (CH.Ep _ _) rfl ?_))))
 · exact A9 _ (A2 (by omega) (Lr))
def Na (n:Nat):Nat:=if h:n=0 then 0 else 1+Na (n/256)
termination_by n
decreasing_by omega
theorem Oj:Na 0=0:=by unfold Na;simp
theorem RM {n:Nat} (h:0<n):Na n=1+Na (n/256):=by conv=>lhs;unfold Na;rw [dif_neg (by omega)]
theorem P6:∀(n:Nat),Na n≤n:=by
 intro n
 induction n using Nat.strongRecOn with
 |_ n ih=>
  rcases Nat.eq_zero_or_pos n with h|h
  · subst h;rw [Oj];omega
  · rw [RM h];have:=ih (n/256) (by omega);omega
def U2 (n:Nat):Nat:=if n<128 then 1 else 1+Na n
theorem T2 (n:Nat):U2 n≤n+1:=by unfold U2;have:=P6 n;split<;>omega
theorem T3 (k:Int):Pr.le (slice 1 [[is (.int .u8 k)]]) (Tz 1):=Gw (l:=[()]) (f:=fun _=>k)
theorem U3 {n:Nat} (hn:n≤100000000):A_ prog 285 [int ((n:Nat):Int)] (Tz (U2 n)):=by
 refine fo func285 rfl ⟨rfl,rfl⟩ fun M0 w0=> ?_
 refine ac ?_
 refine an ?_ ?_<;>intro h1 q1
 refine ac ?_
 refine co rfl (D4 rfl underlying3 underlying5 (vl rfl)) (co rfl (AG (xs:=[.tmp 7]) (rows:=[Oi]) rfl rfl underlying198 J5 z5 rfl (by decide) ⟨⟨(by exact rfl),VL.le (vl rfl) (Pr.le_trans (Cf _ _) (AS _))⟩,trivial⟩ (by decide)) ?_)
 refine a2 ?_
 · refine Pr.le_trans (Au _ _) (Pr.le_of_eq ?_);unfold U2;rw [if_pos (by omega)];rfl
 refine a2 ?_
 refine Tr.seq (Tr.block (Tr.EY 5 1 (Tr.Qd [] trivial (fun (k:Nat) (acc:Nat) v=>[(0,int ((k:Nat):Int)),(3,As v (Tz acc))]) (fun (k:Nat) (acc:Nat) v=>Hp M0 w0 Mg ([BJ 5 1 v])) (fun (k:Nat) (acc:Nat)=>Na k+acc=Na n∧k≤n) (fun (k:Nat) (acc:Nat)=>k) (n) (0) (.slice none 0 0) (⟨by omega,by omega⟩) ⟨ke rfl,⟨_,rfl,Dr rfl⟩,trivial⟩ (fun _ _ h=>h) ?_)))
 rintro k acc v ⟨hk1,hk2⟩
 refine an ?_ ?_<;>intro h2 q2
 have Qz:0<k:=by have:=FX.Gp h2;omega
 have hdg:=RM Qz
 have hle:=P6 n
 refine ac ?_
 refine ap ?_
 refine tp rfl (O4 rfl (vl rfl) (vl rfl) (by omega)) (tp rfl (D4 rfl underlying3 underlying5 (vl rfl)) (tp rfl (AG (xs:=[.tmp 13]) (rows:=[Oi]) rfl rfl underlying198 J5 z5 rfl (by decide) ⟨⟨(by exact rfl),VL.le (vl rfl) (Pr.le_trans (Cf _ _) (AS _))⟩,trivial⟩ (by decide)) ?_))
 refine tm rfl (TO.pad ?_)
 refine TO.Ex 0 rfl rfl (by decide) (DF rfl rfl rfl rfl underlying198 J5 TY z5 (Kf rfl) (Kb rfl) (Bx (by exact List.Mem.head _) (vl rfl))) (fun v1=> ?_)
 refine ap ?_
 refine ac ?_
 refine co rfl (Mh rfl (vl rfl) (vl rfl) (by omega)) ?_
 refine ac ?_
 refine Fin.drop 1 ?_
 exact Fin.Ds (k/256) (acc+1) v1 (⟨⟨by omega,by omega⟩,by omega⟩) ⟨⟨_,rfl,int_eq (by rw [Int.tdiv_eq_ediv_of_nonneg (by omega),Jx (by unfold LK;omega)];omega)⟩,⟨_,rfl,Dc (by rw [show ([Oi]:List (List Pr))=List.replicate 1 Oi from rfl,KR,Nat.add_comm])⟩,trivial⟩ (fun _ _ h=>h)
 have Qz:k=0:=by have:=FX.Gp h2;omega
 subst Qz
 have hle:=P6 n
 rw [Oj] at hk1
 refine ac ?_
 refine ap ?_
 refine tp rfl (CW rfl underlying198 (Kb rfl)) (tp rfl (ki rfl rfl rfl rfl) (tp rfl (D4 rfl underlying3 underlying5 (vl rfl)) (tp rfl (AG (xs:=[.tmp 22]) (rows:=[Oi]) rfl rfl underlying198 J5 z5 rfl (by decide) ⟨⟨(by exact rfl),VL.le (vl rfl) (Pr.le_trans (Cf _ _) (AS _))⟩,trivial⟩ (by decide)) ?_)))
 refine tm rfl (TO.pad ?_)
 refine TO.Ex 0 rfl rfl (by decide) (DF rfl rfl rfl rfl underlying198 J5 TY z5 (Kf rfl) (Kb rfl) (Bx (by exact List.Mem.head _) (vl rfl))) (fun v2=> ?_)
 refine ap ?_
 refine ac ?_
 · refine Pr.le_trans (A7 _ _) (Pr.le_of_eq ?_);unfold U2;rw [if_neg (by omega),show ([Oi]:List (List Pr))=List.replicate 1 Oi from rfl,KR,show acc=Na n by omega]
theorem Se {t:Int} {b:Nat} {n:Bool} {m:Nat} {q:Pr} {B:Nat}  (hb:b≤1000) (hm:m≤20) (hB:B≤1000000) (ih:m=0∨A_ prog 249 [agg (Bg q)] (Eo B)):A_ prog 249 [agg [int t,Tz b,bool n,slice 4 (List.replicate m (Bg q))]] (Eo (2*(1000+20*B)+2)):=by
 refine fo func249 rfl ⟨rfl,rfl⟩ fun M0 w0=> ?_
 have hlr:(List.replicate m (Bg q)).length=m:=List.length_replicate
 have hlb:(List.replicate b Oi).length=b:=List.length_replicate
 refine ac ?_
 refine ap ?_
 refine TO.pad ?_
 refine TO.Ex 0 rfl rfl (by decide) (DF rfl rfl rfl rfl underlying198 J5 TY z5 (Kf rfl) (vl rfl) (Bx (by exact List.Mem.head _) (vl rfl))) (fun v1=> ?_)
 refine ap ?_
 refine ac ?_
 refine Tr.block (Tr.Qd [(1,_)] ⟨ke rfl,trivial⟩ (fun (k:Nat) (acc:Nat) v=>[(4,int ((k:Nat):Int)),(3,As v (Tz acc))]) (fun (k:Nat) (acc:Nat) v=>Hp M0 w0 Mg ([BJ 5 1 v])) (fun (k:Nat) (acc:Nat)=>k≤m∧acc≤b+k*B) (fun (k:Nat) (acc:Nat)=>m-k) (0) (b) v1 (⟨by omega,by omega⟩) ⟨ke rfl,⟨_,rfl,Dc (by simp)⟩,trivial⟩ (fun _ _ h=>h) ?_)
 rintro k acc v ⟨hk1,hk2⟩
 have hkB:k*B≤20*B:=Nat.mul_le_mul_right B (by omega)
 refine ac ?_
 refine co rfl (CW rfl underlying221 (vl rfl)) ?_
 refine an ?_ ?_<;>intro h1 q1
 have hkm:k<m:=by have:=FX.Gp h1;rw [hlr] at this;omega
 have ih2:=ih.resolve_left (by omega)
 refine ac ?_
 refine ap ?_
 refine tp rfl (AA rfl underlying221 CX (vl rfl) (vl rfl) (by omega) (Ij hkm)) (tp rfl (AH rfl C9 CX (vl rfl) rfl rfl) (tp rfl (B1 (ih2) rfl rfl) ?_))
 refine TO.ex 22 rfl (fun z22=>TO.fact 22 rfl fun sL=> ?_)
 refine TO.Ex 0 rfl rfl (by decide) (DF rfl rfl rfl rfl underlying198 J5 TY z5 (Kb rfl) (vl rfl) (B6 (by exact List.Mem.head _) (Ka rfl))) (fun v2=> ?_)
 refine ap ?_
 refine Cg 1 3 4 rfl ?_
 refine ac ?_
 exact Fin.Ds (k+1) (acc+z22) v2 (⟨⟨by omega,by rw [Nat.succ_mul];omega⟩,by omega⟩) ⟨⟨_,rfl,AK k⟩,⟨_,rfl,Dc (by rw [KR])⟩,ke rfl,trivial⟩ (fun _ _ h=>h)
 have hke:k=m:=by have:=FX.Gp h1;rw [hlr] at this;omega
 have HB:=T2 acc
 refine ac ?_
 refine Tr.seq (Tr.pad (Tr.rx ?_))
 refine ay ?_
 refine xo rfl (fun _=>D4 rfl underlying3 underlying5 (vl rfl)) (xo rfl (fun _=>AG (xs:=[.tmp 26]) (rows:=[Oi]) rfl rfl underlying198 J5 z5 rfl (by decide) ⟨⟨(by exact rfl),VL.le (vl rfl) (Pr.le_trans (Cf _ _) (AS _))⟩,trivial⟩ (by decide)) ?_)
 refine xm rfl (xo rfl (fun _=>CW rfl underlying198 (Kb rfl)) ?_)
 refine xo rfl (fun _=>Ae rfl (U3 (n:=acc) (by omega)) ⟨⟨_,rfl,int_eq (by simp)⟩,trivial⟩) ?_
 refine Cx.ef 0 rfl rfl (by decide) (DF rfl rfl rfl rfl underlying198 J5 TY z5 (Kf rfl) (vl rfl) (Bx (by exact List.Mem.head _) (vl rfl))) ?_
 refine xm rfl ?_
 refine Cx.ef 0 rfl rfl (by decide) (DF rfl rfl rfl rfl underlying198 J5 TY z5 (vl rfl) (Kb rfl) UU) ?_
 refine Cx.ef 0 rfl rfl (by decide) (Lx rfl rfl (by decide) rfl (vl rfl)) ?_
 refine Cx.nil ⟨by kernel_rfl,?_⟩
 refine BV.open_ 0 2 rfl rfl (fun v3=> ?_)
 refine BV.done ZS (Fin.go (Es 2 rfl ?_))
 refine ac ?_
 · exact CS (m:=1+U2 acc+acc) (by have:=T2 acc;omega) (Pr.le_trans (A7 _ _) (Pr.le_of_eq (by rw [show ([Oi]:List (List Pr))=List.replicate 1 Oi from rfl,KR,KR])))
theorem U4 {q:Pr} {D B:Nat} (hf:A_ prog 247 [agg (Bg q)] RL) (hd:A_ prog 248 [agg (Bg q)] (Jj D)) (hp:A_ prog 249 [agg (Bg q)] (Eo B)):A_ prog 201 [agg (Bg q)] (Fa [Eo B,Ja .i64]):=by
 refine fo func201 rfl ⟨rfl,rfl⟩ fun M0 w0=> ?_
 refine ac ?_
 refine ap ?_
 refine tp rfl (B1 (hf) rfl rfl) ?_
 refine TO.ex 6 rfl (fun z6=> ?_)
 refine ap ?_
 refine Tr.cn rfl ?_ ?_<;>intro h1 q1
 refine ac ?_
 refine Tr.ret (Fin.AF (Fin.Dz rfl (CH.Ep _ _) rfl ?_ rfl ?_))
 · exact CS (m:=0) (by omega) (AB 1)
 · exact Cf _ _
 refine ac ?_
 refine ap ?_
 refine tp rfl (B1 (hd) rfl rfl) ?_
 refine TO.ex 9 rfl (fun z9=>TO.fact 9 rfl fun hz9=> ?_)
 refine ap ?_
 refine Tr.cn rfl ?_ ?_<;>intro h2 q2
 refine ac ?_
 refine Tr.ret (Fin.AF (Fin.Dz rfl (CH.Ep _ _) rfl ?_ rfl ?_))
 · exact CS (m:=0) (by omega) (AB 1)
 · exact Cf _ _
 refine a2 ?_
 refine co rfl (B1 (hp) rfl rfl) ?_
 refine ac ?_
 refine ap ?_
 refine TO.ex 13 rfl (fun z13=>TO.fact 13 rfl fun sM=> ?_)
 refine tp rfl (CW rfl underlying198 (vl rfl)) ?_
 refine ap ?_
 refine B3 4 15 rfl ?_
 refine Tr.cn rfl ?_ ?_<;>intro h3 q3
 refine ac ?_
 refine Tr.ret (Fin.AF (Fin.Dz rfl (CH.Ep _ _) rfl ?_ rfl ?_))
 · exact CS (m:=0) (by omega) (AB 1)
 · exact Cf _ _
 refine a2 ?_
 refine Tr.ret (Fin.Dz rfl (CH.Ep _ _) rfl ?_ rfl ?_)
 · exact Lr
 · exact Cf _ _
theorem Z5:IntKind.u8.wrap 0=0:=rfl
def JK (x h:Int):Nat:=(2*x).toNat+(if 128≤h then 1 else 0)
theorem GI {x h:Int} {t:Nat} (h0:0≤x) (hc:x≠0∨128≤h) (hi:t+JK x h≤400):(0≤x/256∧t+1+JK (x/256) (IntKind.u8.wrap x)≤400)∧JK (x/256) (IntKind.u8.wrap x)<JK x h:=by
 have key:JK (x/256) (IntKind.u8.wrap x)<JK x h:=by
  unfold JK
  by_cases hx:x=0
  ·
   subst hx
   rw [Z5,if_neg (by omega),if_pos (by omega)];decide
  ·
   have:(if 128≤IntKind.u8.wrap x then 1 else 0)≤1:=by split<;>omega
   have:0≤(if 128≤h then 1 else 0):=by split<;>omega
   omega
 exact ⟨⟨by omega,by omega⟩,key⟩
theorem Gi {P:Program} {I:Ca} {E:Env} {o:Oper} {t u:TypeId} {x y:Operand} {m:Int} (ho:o.op= .binOp .shr t x y u) (hx:VL E x (int m)) (hy:VL E y (is (.int .u64 8))) (h0:0≤m):Ad P I o E (int (m/256)):=
 Ad.same fun M w a he _=>by
  have h1:a.eval x= .int .i64 m:=hx.ev he (by simp [ho,Op.operands])
  have h2:a.eval y= .int .u64 8:=hy.ev he (by simp [ho,Op.operands])
  refine ⟨.int .i64 (m.fdiv 256),?_,congrArg (Value.int .i64) (Int.fdiv_eq_ediv_of_nonneg m (by omega))⟩
  simp only [execOp,ho,h1,h2]
  simp [eqGuard,binOp,Op.shift,IntKind.bits]
abbrev q0:Pr:=slice 4 []
theorem Jk {n:Int} (hn:0≤n∧n≤40000):A_ prog 252 [int n] (agg (Bg q0)):=by
 refine fo func252 rfl ⟨rfl,rfl⟩ fun M0 w0=>(Tr.seq (Tr.Aq ?_))
 refine Tl rfl rfl rfl rfl Kt JH (fun b1=> ?_)
 refine ap ?_
 refine ac ?_
 refine co rfl (D4 rfl underlying3 underlying5 (vl rfl)) ?_
 refine a2 ?_
 refine co rfl (Gi rfl (vl rfl) (vl rfl) (by omega)) ?_
 refine ac ?_
 refine Tr.block ?_
 refine Tr.Qe [(2,_)] ⟨ke rfl,trivial⟩ (fun (x:Int) (h:Int) (t:List Int)=>[(4,int x),(3,slice 1 ((h::t).map fun n=>[is (.int .u8 n)]))]) (fun (x:Int) (h:Int) (t:List Int)=>Hp M0 w0 Mg ([AE true b1 223 (([.int .i64 0,.slice none 0 0,.bool false,.slice none 0 0]:List Value).map is)])) (fun (x:Int) (h:Int) (t:List Int)=>0≤x∧t.length+JK x h≤400) (fun (x:Int) (h:Int) (t:List Int)=>JK x h) (n/256) (IntKind.u8.wrap n) ([])  (⟨by omega,by unfold JK;simp only [List.length_nil];split<;>omega⟩) ⟨ke rfl,⟨_,rfl,Pr.le_trans (Au _ _) (Pr.le_of_eq rfl)⟩,trivial⟩ (fun _ _ h=>h) ?_
 rintro x h t  ⟨hx0,ec⟩
 refine ag ?_ ?_<;>intro h1 q1
 refine ag ?_ ?_<;>intro h2 q2
 refine ac ?_
 refine Fk 2 3 4 35 rfl ?_
 refine ac ?_
 refine ap ?_
 refine tp rfl (D4 rfl underlying3 underlying5 (vl rfl)) ?_
 refine ap ?_
 refine TO.pad ?_
 refine TO.Ex 0 rfl rfl (by decide) (DF rfl rfl rfl rfl underlying198 J5 TY z5 (Kf rfl) (vl rfl) (Bx (by exact List.Mem.head _) (vl rfl))) (fun v1=> ?_)
 refine ap ?_
 refine ac ?_
 refine co rfl (Gi rfl (vl rfl) (vl rfl) (by omega)) ?_
 refine ac ?_
 refine Fin.drop 0 (Fin.Gf (x/256) (IntKind.u8.wrap x) (h::t)  ((GI hx0 (by omega) ec)) ⟨ke rfl,⟨_,rfl,Pr.le_trans (A7 _ _) (Pr.le_of_eq rfl)⟩,ke rfl,trivial⟩ (fun _ _ h=>h))
 refine ag ?_ ?_<;>intro h3 q3
 refine Gr h3 rfl ?_
 refine cy h3 rfl (AA rfl underlying198 J5 (vl rfl) (vl rfl) (by omega) (AX (k:=0) rfl)) ?_
 refine ag ?_ ?_<;>intro h4 q4
 refine ac ?_
 refine Fk 2 3 4 35 rfl ?_
 refine ac ?_
 refine ap ?_
 refine tp rfl (D4 rfl underlying3 underlying5 (vl rfl)) ?_
 refine ap ?_
 refine TO.pad ?_
 refine TO.Ex 0 rfl rfl (by decide) (DF rfl rfl rfl rfl underlying198 J5 TY z5 (Kf rfl) (vl rfl) (Bx (by exact List.Mem.head _) (vl rfl))) (fun v2=> ?_)
 refine ap ?_
 refine ac ?_
 refine co rfl (Gi rfl (vl rfl) (vl rfl) (by omega)) ?_
 refine ac ?_
 refine Fin.drop 0 (Fin.Gf (x/256) (IntKind.u8.wrap x) (h::t)  ((GI hx0 (by omega) ec)) ⟨ke rfl,⟨_,rfl,Pr.le_trans (A7 _ _) (Pr.le_of_eq rfl)⟩,ke rfl,trivial⟩ (fun _ _ h=>h))
 refine ag ?_ ?_<;>intro h5 q5
 refine Gr h5 rfl ?_
 refine cy h5 rfl (AA rfl underlying198 J5 (vl rfl) (vl rfl) (by omega) (AX (k:=0) rfl)) ?_
 refine ac ?_
 refine Fk 2 3 4 35 rfl ?_
 refine Tr.cn rfl ?_ ?_<;>intro h6 q6
 have ej:=h6
 refine ac ?_
 refine ap ?_
 refine tp rfl (D4 rfl underlying3 underlying5 (vl rfl)) ?_
 refine ap ?_
 refine TO.pad ?_
 refine TO.Ex 0 rfl rfl (by decide) (DF rfl rfl rfl rfl underlying198 J5 TY z5 (Kf rfl) (vl rfl) (Bx (by exact List.Mem.head _) (vl rfl))) (fun v3=> ?_)
 refine ap ?_
 refine ac ?_
 refine co rfl (Gi rfl (vl rfl) (vl rfl) (by omega)) ?_
 refine ac ?_
 refine Fin.drop 0 (Fin.Gf (x/256) (IntKind.u8.wrap x) (h::t)  ((GI hx0 (by omega) ec)) ⟨ke rfl,⟨_,rfl,Pr.le_trans (A7 _ _) (Pr.le_of_eq rfl)⟩,ke rfl,trivial⟩ (fun _ _ h=>h))
 have ej:=h6
 refine ac ?_
 refine ap ?_
 refine Tr.ret (Fin.CU rfl (AW.cell 0 rfl rfl C9 CX rfl (Lr)) ?_)
 · exact Ab ⟨Cf _ _,CS (m:=(h::t).length) (by simp only [List.length_cons];omega) Gw,A9 _ (Lr),AB 4,trivial⟩
 refine ac ?_
 refine Fk 2 3 4 35 rfl ?_
 refine ac ?_
 refine ap ?_
 refine Tr.ret (Fin.CU rfl (AW.cell 0 rfl rfl C9 CX rfl (Lr)) ?_)
 · exact Ab ⟨Cf _ _,CS (m:=(h::t).length) (by simp only [List.length_cons];omega) Gw,A9 _ (Lr),AB 4,trivial⟩
 refine ag ?_ ?_<;>intro h7 q7
 refine Gr h7 rfl ?_
 refine cy h7 rfl (AA rfl underlying198 J5 (vl rfl) (vl rfl) (by omega) (AX (k:=0) rfl)) ?_
 refine ac ?_
 refine Fk 2 3 4 35 rfl ?_
 refine Tr.cn rfl ?_ ?_<;>intro h8 q8
 have ej:=h8
 refine ac ?_
 refine ap ?_
 refine tp rfl (D4 rfl underlying3 underlying5 (vl rfl)) ?_
 refine ap ?_
 refine TO.pad ?_
 refine TO.Ex 0 rfl rfl (by decide) (DF rfl rfl rfl rfl underlying198 J5 TY z5 (Kf rfl) (vl rfl) (Bx (by exact List.Mem.head _) (vl rfl))) (fun v4=> ?_)
 refine ap ?_
 refine ac ?_
 refine co rfl (Gi rfl (vl rfl) (vl rfl) (by omega)) ?_
 refine ac ?_
 refine Fin.drop 0 (Fin.Gf (x/256) (IntKind.u8.wrap x) (h::t)  ((GI hx0 (by omega) ec)) ⟨ke rfl,⟨_,rfl,Pr.le_trans (A7 _ _) (Pr.le_of_eq rfl)⟩,ke rfl,trivial⟩ (fun _ _ h=>h))
 have ej:=h8
 refine ac ?_
 refine ap ?_
 refine Tr.ret (Fin.CU rfl (AW.cell 0 rfl rfl C9 CX rfl (Lr)) ?_)
 · exact Ab ⟨Cf _ _,CS (m:=(h::t).length) (by simp only [List.length_cons];omega) Gw,A9 _ (Lr),AB 4,trivial⟩
 refine ac ?_
 refine Fk 2 3 4 35 rfl ?_
 refine ac ?_
 refine ap ?_
 refine Tr.ret (Fin.CU rfl (AW.cell 0 rfl rfl C9 CX rfl (Lr)) ?_)
 · exact Ab ⟨Cf _ _,CS (m:=(h::t).length) (by simp only [List.length_cons];omega) Gw,A9 _ (Lr),AB 4,trivial⟩
 refine ag ?_ ?_<;>intro h9 q9
 refine Gr h9 rfl ?_
 refine cy h9 rfl (AA rfl underlying198 J5 (vl rfl) (vl rfl) (by omega) (AX (k:=0) rfl)) ?_
 refine ag ?_ ?_<;>intro h10 PZ
 refine ac ?_
 refine Fk 2 3 4 35 rfl ?_
 refine ac ?_
 refine ap ?_
 refine tp rfl (D4 rfl underlying3 underlying5 (vl rfl)) ?_
 refine ap ?_
 refine TO.pad ?_
 refine TO.Ex 0 rfl rfl (by decide) (DF rfl rfl rfl rfl underlying198 J5 TY z5 (Kf rfl) (vl rfl) (Bx (by exact List.Mem.head _) (vl rfl))) (fun v5=> ?_)
 refine ap ?_
 refine ac ?_
 refine co rfl (Gi rfl (vl rfl) (vl rfl) (by omega)) ?_
 refine ac ?_
 refine Fin.drop 0 (Fin.Gf (x/256) (IntKind.u8.wrap x) (h::t)  ((GI hx0 (by omega) ec)) ⟨ke rfl,⟨_,rfl,Pr.le_trans (A7 _ _) (Pr.le_of_eq rfl)⟩,ke rfl,trivial⟩ (fun _ _ h=>h))
 refine ag ?_ ?_<;>intro h11 Qx
 refine Gr h11 rfl ?_
 refine cy h11 rfl (AA rfl underlying198 J5 (vl rfl) (vl rfl) (by omega) (AX (k:=0) rfl)) ?_
 refine ac ?_
 refine Fk 2 3 4 35 rfl ?_
 refine Tr.cn rfl ?_ ?_<;>intro h12 Sb
 have ej:=h12
 refine ac ?_
 refine ap ?_
 refine tp rfl (D4 rfl underlying3 underlying5 (vl rfl)) ?_
 refine ap ?_
 refine TO.pad ?_
 refine TO.Ex 0 rfl rfl (by decide) (DF rfl rfl rfl rfl underlying198 J5 TY z5 (Kf rfl) (vl rfl) (Bx (by exact List.Mem.head _) (vl rfl))) (fun v6=> ?_)
 refine ap ?_
 refine ac ?_
 refine co rfl (Gi rfl (vl rfl) (vl rfl) (by omega)) ?_
 refine ac ?_
 refine Fin.drop 0 (Fin.Gf (x/256) (IntKind.u8.wrap x) (h::t)  ((GI hx0 (by omega) ec)) ⟨ke rfl,⟨_,rfl,Pr.le_trans (A7 _ _) (Pr.le_of_eq rfl)⟩,ke rfl,trivial⟩ (fun _ _ h=>h))
 have ej:=h12
 refine ac ?_
 refine ap ?_
 refine Tr.ret (Fin.CU rfl (AW.cell 0 rfl rfl C9 CX rfl (Lr)) ?_)
 · exact Ab ⟨Cf _ _,CS (m:=(h::t).length) (by simp only [List.length_cons];omega) Gw,A9 _ (Lr),AB 4,trivial⟩
 refine ac ?_
 refine Fk 2 3 4 35 rfl ?_
 refine ac ?_
 refine ap ?_
 refine Tr.ret (Fin.CU rfl (AW.cell 0 rfl rfl C9 CX rfl (Lr)) ?_)
 · exact Ab ⟨Cf _ _,CS (m:=(h::t).length) (by simp only [List.length_cons];omega) Gw,A9 _ (Lr),AB 4,trivial⟩
 refine ag ?_ ?_<;>intro H8 Tp
 refine Gr H8 rfl ?_
 refine cy H8 rfl (AA rfl underlying198 J5 (vl rfl) (vl rfl) (by omega) (AX (k:=0) rfl)) ?_
 refine ac ?_
 refine Fk 2 3 4 35 rfl ?_
 refine Tr.cn rfl ?_ ?_<;>intro Jt W9
 have ej:=Jt
 refine ac ?_
 refine ap ?_
 refine tp rfl (D4 rfl underlying3 underlying5 (vl rfl)) ?_
 refine ap ?_
 refine TO.pad ?_
 refine TO.Ex 0 rfl rfl (by decide) (DF rfl rfl rfl rfl underlying198 J5 TY z5 (Kf rfl) (vl rfl) (Bx (by exact List.Mem.head _) (vl rfl))) (fun v7=> ?_)
 refine ap ?_
 refine ac ?_
 refine co rfl (Gi rfl (vl rfl) (vl rfl) (by omega)) ?_
 refine ac ?_
 refine Fin.drop 0 (Fin.Gf (x/256) (IntKind.u8.wrap x) (h::t)  ((GI hx0 (by omega) ec)) ⟨ke rfl,⟨_,rfl,Pr.le_trans (A7 _ _) (Pr.le_of_eq rfl)⟩,ke rfl,trivial⟩ (fun _ _ h=>h))
 have ej:=Jt
 refine ac ?_
 refine ap ?_
 refine Tr.ret (Fin.CU rfl (AW.cell 0 rfl rfl C9 CX rfl (Lr)) ?_)
 · exact Ab ⟨Cf _ _,CS (m:=(h::t).length) (by simp only [List.length_cons];omega) Gw,A9 _ (Lr),AB 4,trivial⟩
 refine ac ?_
 refine Fk 2 3 4 35 rfl ?_
 refine ac ?_
 refine ap ?_
 refine Tr.ret (Fin.CU rfl (AW.cell 0 rfl rfl C9 CX rfl (Lr)) ?_)
 · exact Ab ⟨Cf _ _,CS (m:=(h::t).length) (by simp only [List.length_cons];omega) Gw,A9 _ (Lr),AB 4,trivial⟩
theorem P7 {s:List UInt8} (hs:s.length≤1000):A_ prog 250 [str s] (agg (Bg q0)):=by
 refine fo func250 rfl ⟨rfl,rfl⟩ fun M0 w0=>(Tr.seq (Tr.Aq ?_))
 refine Tl rfl rfl rfl rfl Kt JH (fun b1=> ?_)
 refine ap ?_
 refine ap ?_
 refine tp rfl (M9 rfl underlying9 underlying198 underlying5 (vl rfl) (by unfold maxLen;omega)) ?_
 refine ap ?_
 refine Tr.ret (Fin.CU rfl (AW.cell 0 rfl rfl C9 CX rfl (Lr)) ?_)
 · exact Ab ⟨Cf _ _,CS (m:=s.length) (by omega) (Gw (f:=fun c:UInt8=>((c.toNat:Nat):Int))),A9 _ (Lr),AB 4,trivial⟩
theorem Z6 {b:Bool}  :A_ prog 254 [bool b] (agg (Bg q0)):=by
 refine fo func254 rfl ⟨rfl,rfl⟩ fun M0 w0=>(Tr.seq (Tr.Aq ?_))
 refine Tl rfl rfl rfl rfl Kt JH (fun b1=> ?_)
 refine ap ?_
 refine an ?_ ?_<;>intro h1 q1
 refine ap ?_
 refine tp rfl (Al (rows:=[(0,[_]),(1,[_])]) rfl V8 JH ⟨⟨rfl,(Vo rfl)⟩,⟨⟨rfl,⟨_,rfl,Pr.le_trans (Au _ _) (AS _)⟩⟩,trivial⟩⟩ rfl) ?_
 refine ap ?_
 refine Tr.ret (Fin.AF (Fin.CU rfl (AW.cell 0 rfl rfl C9 CX rfl (Lr)) ?_))
 · exact Ab ⟨Cf _ _,CS (m:=1) (by omega) (T3 _),A9 _ (Lr),AB 4,trivial⟩
 refine ac ?_
 refine ap ?_
 refine tp rfl (Al (rows:=[(0,[_]),(1,[_])]) rfl V8 JH ⟨⟨rfl,(Vo rfl)⟩,⟨⟨rfl,⟨_,rfl,Pr.le_trans (Au _ _) (AS _)⟩⟩,trivial⟩⟩ rfl) ?_
 refine ap ?_
 refine Tr.ret (Fin.CU rfl (AW.cell 0 rfl rfl C9 CX rfl (Lr)) ?_)
 · exact Ab ⟨Cf _ _,CS (m:=1) (by omega) (T3 _),A9 _ (Lr),AB 4,trivial⟩
theorem K6 {m:Nat} {q:Pr} [One q]  (hm:m≤20) (ih:m=0∨A_ prog 286 [q] q):A_ prog 286 [slice 4 (List.replicate m (Bg q))] (slice 4 (List.replicate m (Bg q))):=by
 refine A_.of func286 rfl rfl (by exact Nb rfl) fun M0 w0=> ?_
 have hlr:(List.replicate m (Bg q)).length=m:=List.length_replicate
 refine Tr.seq (Tr.A3 (cm rfl (Ch.nil (Fin.go (Tr.seq (Tr.A3 (cm rfl (Ch.nil (Fin.go (Tr.seq (Tr.seq (Tr.A3 (cm rfl ?_)))))))))))))
 refine Ch.nil (Fin.go (Tr.block (Tr.EY 223 4 (Tr.Gn [(0,_)] ⟨ke rfl,trivial⟩ (fun k v=>[(4,int ((k:Nat):Int)),(3,As v (slice 4 (List.replicate k (Bg q))))]) (fun k v=>Hp M0 w0 Mg ([BJ 223 4 v])) (fun k:Nat=>k≤((List.replicate m (Bg q)).length)) (fun k:Nat=>((List.replicate m (Bg q)).length)-k) 0 (.slice none 0 0) (Nat.zero_le _) ⟨ke rfl,⟨_,rfl,Dr rfl⟩,trivial⟩ (fun _ _ h=>h) ?_))))
 rintro k v BN
 refine Tr.seq (Tr.seq (Tr.A3 (cm rfl (cm rfl (co rfl (CW rfl underlying221 (vl rfl)) (co rfl (ki rfl rfl rfl rfl) (Ch.nil (Fin.go ?_))))))))
 refine Tr.cn rfl ?_ ?_<;>intro h1 q1
 have Ac:k<((List.replicate m (Bg q)).length):=AU h1
 have hkm:k<m:=by simpa using Ac
 have ih2:=ih.resolve_left (by omega)
 refine Tr.skip (Fin.go (Tr.seq (Tr.block (Tr.seq (Tr.Aq (tm rfl (tm rfl (tp rfl (AA rfl underlying221 CX (vl rfl) (vl rfl) (by omega) (Ij hkm)) (tp rfl (AH rfl C9 CX (vl rfl) rfl rfl) ?_)))))))))
 refine Tl rfl rfl rfl rfl Kt JH (fun b1=> ?_)
 refine TO.AY 0 rfl rfl rfl (vl rfl) (Va rfl) rfl CX rfl rfl (TO.nil (Fin.go (Tr.seq (Tr.Aq (tp rfl (AG (xs:=[]) (rows:=[]) rfl rfl underlying198 J5 z5 rfl (by decide) trivial (by decide)) (tp rfl (AD rfl PL (vl rfl)) (TO.rd 0 rfl rfl rfl (by decide) (BL rfl V7 (vl rfl) rfl) ?_)))))))
 refine TO.ex 18 rfl (fun z18=>TO.fact 18 rfl fun qg=> ?_)
 refine TO.pad ?_
 refine TO.Ex 0 rfl rfl (by decide) (DF rfl rfl rfl rfl underlying198 J5 TY z5 (Kf rfl) (vl rfl) (Bx (by exact List.Mem.head _) (vl rfl))) (fun v1=> ?_)
 refine tp rfl (AD rfl PL (vl rfl)) (TO.C7 1 rfl rfl (An rfl rfl (vl rfl) (Vo rfl) jV rfl (by exact Nb rfl) rfl) (TO.nil (Fin.go (Fk 0 3 4 5 rfl (Tr.seq (Tr.Aq (tp rfl (AD rfl J9 (vl rfl)) (TO.rd 1 rfl rfl rfl (by decide) (BL rfl PK (vl rfl) rfl) (tp rfl (Ae rfl (ih2) ⟨ke rfl,trivial⟩) (tp rfl (AD rfl J9 (vl rfl)) (TO.C7 1 rfl rfl (An rfl rfl (vl rfl) (Vo rfl) jX rfl (by exact Nb rfl) rfl) (TO.nil (Fin.go (Tr.Aq ?_))))))))))))))
 refine tm rfl (TO.rd 1 rfl rfl rfl (by decide) (B8 rfl C9 CX (vl rfl) rfl rfl) (tp rfl (AG (xs:=[.tmp 26]) (rows:=[Bg q]) rfl rfl underlying221 CX Kt rfl (by decide) ⟨⟨(by exact rfl),VL.le (vl rfl) (Pr.le_trans (Ab (qs:=Bg q) ⟨Lr,CS (m:=z18) (by omega) (Pr.le_trans (A7 _ _) (Pr.le_of_eq rfl)),Lr,Lr,trivial⟩) (AZ _))⟩,trivial⟩ (by decide)) ?_))
 refine TO.Ex 2 rfl rfl (by decide) (DF rfl rfl rfl rfl underlying221 CX bT Kt (Kb rfl) (Kf rfl) (B6 (by exact List.Mem.head _) (Ka rfl))) (fun v2=> ?_)
 refine tm rfl (TO.nil (Fin.block (Fin.go (Tr.drop 1 (Tr.A3 (cm rfl (Ly rfl rfl rfl rfl (by omega) (cm rfl (Ch.nil (Fin.drop 0 (Fin.Gd (k+1) v2 (⟨Ac,by omega⟩) ⟨⟨_,rfl,AK k⟩,⟨_,rfl,Dc (by rw [T0])⟩,ke rfl,trivial⟩ (fun _ _ h=>h))))))))))))
 have A4:k=((List.replicate m (Bg q)).length):=by have:=AV h1;omega
 refine Tr.exit (Fin.Ao (Fin.Ao (Fin.BT (Fin.go (Tr.seq (Tr.A3 (cm rfl (cm rfl (Ch.nil (Fin.go (Tr.ret (Fin.JN rfl (CH.Ep _ _) rfl ?_))))))))))))
 · exact Pr.le_trans (A7 _ _) (Pr.le_of_eq (by rw [A4,hlr]))
theorem P8 {m:Nat} {q:Pr}  (hm:m≤20) (hc:A_ prog 286 [slice 4 (List.replicate m (Bg q))] (slice 4 (List.replicate m (Bg q)))):A_ prog 251 [slice 4 (List.replicate m (Bg q))] (agg (Bg (Ih (Bg q)))):=by
 refine fo func251 rfl ⟨rfl,rfl⟩ fun M0 w0=>(Tr.seq (Tr.Aq ?_))
 refine Tl rfl rfl rfl rfl Kt JH (fun b1=> ?_)
 refine ap ?_
 refine ap ?_
 refine tp rfl (B1 (hc) rfl rfl) ?_
 refine ap ?_
 refine Tr.ret (Fin.CU rfl (AW.cell 0 rfl rfl C9 CX rfl (Lr)) ?_)
 · exact Ab ⟨Cf _ _,CS (m:=0) (by omega) (AB 1),A9 _ (Lr),A9 m (A2 hm (Lr)),trivial⟩
structure FF.vf (c:FF):Prop where
 s0:0≤c.Gv
 s1:c.Gv≤1099511627776
 Ft:named c.HZ=true
 sub:named c.F3=true
 nm:DA c.names=true
 key:En c.Lk c.Hu 2=true
 k0:0≤c.BX
 k1:c.BX≤2147483648
 hash:En c.Pc c.KI 1=true
 sk0:0≤c.Uf
 sk1:c.Uf≤2147483648
 su0:0≤c.Ug
 su1:c.Ug<4294967296
 f0:0≤c.from_
 ft:c.from_≤c.SM
 t1:c.SM≤40000
 p0:0≤c.path
 p1:c.path≤8
 ap:c.auth=true∨c.path=0
theorem Dl {c:FF} (hv:B9 c=true):c.vf:=by
 simp only [B9,E6,Uh,Bool.and_eq_true,Bool.or_eq_true,decide_eq_true_eq,beq_iff_eq] at hv
 obtain ⟨⟨⟨⟨⟨⟨⟨h1,h2⟩,h3⟩,h4⟩,h5⟩,⟨⟨⟨⟨h6,⟨h7,h8⟩⟩,h9⟩,⟨h10,h11⟩⟩,⟨h12,H8⟩⟩⟩,⟨⟨Jt,N7⟩,h16⟩⟩,⟨⟨NR,NS⟩,Rp⟩⟩:=hv
 exact ⟨h1,h2,h3,h4,h5,h6,h7,h8,h9,h10,h11,h12,H8,Jt,N7,h16,NR,NS,Rp⟩
theorem RN {c:FF} (h:c.vf):B9 c=true:=by
 simp only [B9,E6,Uh,Bool.and_eq_true,Bool.or_eq_true,decide_eq_true_eq,beq_iff_eq]
 exact ⟨⟨⟨⟨⟨⟨⟨h.s0,h.s1⟩,h.Ft⟩,h.sub⟩,h.nm⟩,⟨⟨⟨⟨h.key,⟨h.k0,h.k1⟩⟩,h.hash⟩,⟨h.sk0,h.sk1⟩⟩,⟨h.su0,h.su1⟩⟩⟩,⟨⟨h.f0,h.ft⟩,h.t1⟩⟩,⟨⟨h.p0,h.p1⟩,h.ap⟩⟩
theorem W_ {a b k:Int} (h:En a b k=true):decide (Bw a b>0)=true∧(DT a).kind=k:=by
 unfold En at h;simpa using h
theorem MM {l:List (List UInt8)} {k:Nat} {s:List UInt8} (h:nameAt l k=true) (hs:l[k]? =some s):named s=true:=by
 unfold nameAt at h;rw [hs] at h;simp at h;exact h.1
theorem T4 {l:List (List UInt8)} {k:Nat} {s y:List UInt8} (h:nameAt l k=true) (hs:l[k]? =some s) (hy:l[k-1]? =some y) (hk:0<k):decide (Lib.compareBytes y s= -1)=true:=by
 unfold nameAt at h;rw [hs,hy] at h;simp at h
 rcases h.2 with h2|h2
 · omega
 · simpa using h2
theorem Ol {c:FF} (hv:B9 c=true):A_ prog 159 [agg (CZ c)] (int 0):=by
 refine fo func159 rfl ⟨rfl,rfl⟩ fun M0 w0=> ?_
 obtain ⟨hs0,hs1,RO,hsub,hnm,hkey,Qz,hk1,cA,qh,qi,qj,ql,hf0,hft,ht1,iq,hp1,hap⟩:=Dl hv
 obtain ⟨lF,lG⟩:=W_ hkey
 obtain ⟨hh1,hh2⟩:=W_ cA
 have K7:=hnm
 unfold DA at K7
 rw [Bool.and_eq_true,Bo,decide_eq_true_eq] at K7
 obtain ⟨hall,lH⟩:=K7
 refine ac ?_
 refine ag ?_ ?_<;>intro h1 q1
 exfalso;have:=q1;omega
 refine ag ?_ ?_<;>intro h2 q2
 exfalso;have:=q2;omega
 refine ac ?_
 refine cy h2 rfl (B1 (F0) rfl rfl) ?_
 refine ag ?_ ?_<;>intro h3 q3
 rw [RO] at h3;exact absurd h3 (by decide)
 refine ac ?_
 refine cy h3 rfl (B1 (F0) rfl rfl) ?_
 refine ag ?_ ?_<;>intro h4 q4
 rw [hsub] at h4;exact absurd h4 (by decide)
 refine ac ?_
 refine cy h4 rfl (B1 (Ia) rfl rfl) ?_
 refine ag ?_ ?_<;>intro h5 q5
 rw [lF,lG] at h5;exact absurd h5 (by decide)
 refine ag ?_ ?_<;>intro h6 q6
 exfalso;have:=q6;omega
 refine ac ?_
 refine B3 1 39 rfl ?_
 refine Tr.cn rfl ?_ ?_<;>intro h7 q7
 exfalso;have:=q7;omega
 refine a2 ?_
 refine co rfl (B1 (KF) rfl rfl) ?_
 refine ag ?_ ?_<;>intro h8 q8
 rw [hh1] at h8;exact absurd h8 (by decide)
 refine ac ?_
 refine cy h8 rfl (B1 (L6) rfl rfl) ?_
 refine ag ?_ ?_<;>intro h9 q9
 rw [hh2] at h9;exact absurd h9 (by decide)
 refine ag ?_ ?_<;>intro h10 PZ
 exfalso;have:=PZ;omega
 refine ag ?_ ?_<;>intro h11 Qx
 exfalso;have:=Qx;omega
 refine ac ?_
 refine B3 1 67 rfl ?_
 refine Tr.cn rfl ?_ ?_<;>intro h12 Sb
 exfalso;have:=Sb;omega
 refine ac ?_
 refine ag ?_ ?_<;>intro H8 Tp
 exfalso;have:=Tp;omega
 refine ag ?_ ?_<;>intro Jt W9
 exfalso;have:=W9;omega
 refine ag ?_ ?_<;>intro N7 YG
 refine ag ?_ ?_<;>intro h16 Z7
 exfalso;have:=Z7;simp_all
 refine ac ?_
 refine B3 1 91 rfl ?_
 refine Tr.cn rfl ?_ ?_<;>intro NR YF
 exfalso;have:=YF;omega
 refine a2 ?_
 refine Tr.block (Tr.BF [(1,_)] ⟨ke rfl,trivial⟩ (fun k:Nat=>[(3,int ((k:Nat):Int))]) (fun k:Nat=>k≤(c.names).length) (fun k:Nat=>(c.names).length-k) 0 (Nat.zero_le _) ⟨ke rfl,trivial⟩ ?_)
 rintro k BN
 refine an ?_ ?_<;>intro NS bz
 have Ac:k<(c.names).length:=AU NS
 obtain ⟨s,Aa⟩:=at_ Ac
 have Mz:=hall k (by omega)
 have hna:=MM Mz Aa
 refine a2 ?_
 refine co rfl (AA rfl underlying74 G0 (vl rfl) (vl rfl) (by omega) (AX Aa)) (co rfl (E_ rfl J6 rfl) (co rfl (B1 (F0) rfl rfl) ?_))
 refine ag ?_ ?_<;>intro Rp iD
 exfalso;rw [hna] at Rp;exact absurd Rp (by decide)
 refine ag ?_ ?_<;>intro NT iE
 have H_:0<k:=by simpa using NT
 obtain ⟨y,hy⟩:=at_ (l:=c.names) (k:=k-1) (by omega)
 have hlt:=T4 Mz Aa hy H_
 refine ac ?_
 refine cy NT rfl (AA rfl underlying74 G0 (vl rfl) (vl rfl) (by omega) (by rw [show ((k:Nat):Int)-1=((k-1:Nat):Int) by omega];exact AX hy)) ?_
 refine ac ?_
 refine cy NT rfl (AA rfl underlying74 G0 (vl rfl) (vl rfl) (by omega) (AX Aa)) (cy NT rfl (E_ rfl J6 rfl) (cy NT rfl (JX rfl (vl rfl) (vl rfl)) ?_))
 refine ac ?_
 refine Cg 1 3 123 rfl ?_
 refine Tr.cn rfl ?_ ?_<;>intro Rq k6
 exfalso;rw [hlt] at Rq;exact absurd Rq (by decide)
 refine a2 ?_
 exact Fin.AM (k+1) ⟨Ac,by omega⟩ ⟨⟨_,rfl,AK k⟩,ke rfl,trivial⟩
 refine ac ?_
 refine Cg 1 3 123 rfl ?_
 refine a2 ?_
 exact Fin.AM (k+1) ⟨Ac,by omega⟩ ⟨⟨_,rfl,AK k⟩,ke rfl,trivial⟩
 have A4:k=(c.names).length:=by have:=AV NS;omega
 refine ac ?_
 refine ag ?_ ?_<;>intro nv q22
 exfalso;have:=q22;omega
 refine ag ?_ ?_<;>intro h23 q23
 exfalso;have:=q23;omega
 refine ag ?_ ?_<;>intro h24 q24
 exfalso;have:=q24;omega
 refine ac ?_
 refine Es 145 rfl ?_
 refine Tr.cn rfl ?_ ?_<;>intro h25 q25
 exfalso;have:=q25;omega
 refine a3 ?_
 · exact Lr
 refine ac ?_
 refine B3 1 91 rfl ?_
 refine Tr.cn rfl ?_ ?_<;>intro h26 q26
 exfalso;have:=q26;omega
 refine a2 ?_
 refine Tr.block (Tr.BF [(1,_)] ⟨ke rfl,trivial⟩ (fun k:Nat=>[(3,int ((k:Nat):Int))]) (fun k:Nat=>k≤(c.names).length) (fun k:Nat=>(c.names).length-k) 0 (Nat.zero_le _) ⟨ke rfl,trivial⟩ ?_)
 rintro k BN
 refine an ?_ ?_<;>intro iH q27
 have Ac:k<(c.names).length:=AU iH
 obtain ⟨s,Aa⟩:=at_ Ac
 have Mz:=hall k (by omega)
 have hna:=MM Mz Aa
 refine a2 ?_
 refine co rfl (AA rfl underlying74 G0 (vl rfl) (vl rfl) (by omega) (AX Aa)) (co rfl (E_ rfl J6 rfl) (co rfl (B1 (F0) rfl rfl) ?_))
 refine ag ?_ ?_<;>intro h28 q28
 exfalso;rw [hna] at h28;exact absurd h28 (by decide)
 refine ag ?_ ?_<;>intro Vd q29
 have H_:0<k:=by simpa using Vd
 obtain ⟨y,hy⟩:=at_ (l:=c.names) (k:=k-1) (by omega)
 have hlt:=T4 Mz Aa hy H_
 refine ac ?_
 refine cy Vd rfl (AA rfl underlying74 G0 (vl rfl) (vl rfl) (by omega) (by rw [show ((k:Nat):Int)-1=((k-1:Nat):Int) by omega];exact AX hy)) ?_
 refine ac ?_
 refine cy Vd rfl (AA rfl underlying74 G0 (vl rfl) (vl rfl) (by omega) (AX Aa)) (cy Vd rfl (E_ rfl J6 rfl) (cy Vd rfl (JX rfl (vl rfl) (vl rfl)) ?_))
 refine ac ?_
 refine Cg 1 3 123 rfl ?_
 refine Tr.cn rfl ?_ ?_<;>intro h30 q30
 exfalso;rw [hlt] at h30;exact absurd h30 (by decide)
 refine a2 ?_
 exact Fin.AM (k+1) ⟨Ac,by omega⟩ ⟨⟨_,rfl,AK k⟩,ke rfl,trivial⟩
 refine ac ?_
 refine Cg 1 3 123 rfl ?_
 refine a2 ?_
 exact Fin.AM (k+1) ⟨Ac,by omega⟩ ⟨⟨_,rfl,AK k⟩,ke rfl,trivial⟩
 have A4:k=(c.names).length:=by have:=AV iH;omega
 refine ac ?_
 refine ag ?_ ?_<;>intro h31 q31
 exfalso;have:=q31;omega
 refine ag ?_ ?_<;>intro h32 q32
 exfalso;have:=q32;omega
 refine ag ?_ ?_<;>intro h33 q33
 exfalso;have:=q33;omega
 refine ac ?_
 refine Es 145 rfl ?_
 refine Tr.cn rfl ?_ ?_<;>intro h34 q34
 exfalso;have:=q34;omega
 refine a3 ?_
 · exact Lr
abbrev Z8:Pr:=Cp.ex fun n:Int=>fact (0≤n∧n<4294967296) (is (.int .u32 n))
abbrev lI:Pr:=Cp.ex fun n:Int=>fact (0≤n∧n<4294967296) (int n)
theorem Z9:Pr.le Z8 (Ja .u32):=fun _ _ _ ⟨n,_,h⟩=>⟨n,h⟩
section
variable {P:Program} {I:Ca} {E:Env} {o:Oper}
theorem XA {s t:TypeId} {x:Operand} {k k':IntKind} (ho:o.op= .convert s t x) (hs:P.underlying s=some (.int k)) (ht:P.underlying t=some (.int k')) (hx:VL E x (Ja k)):Ad P I o E (Ja k'):=
 Ad.same fun M w a he _=>by
  obtain ⟨n,h1⟩:=hx.ev he (by simp [ho,Op.operands])
  have h1:a.eval x= .int k n:=h1
  refine ⟨.int k' (k'.wrap n),?_,_,rfl⟩
  simp [execOp,ho,h1,convert,run_underlying hs,run_underlying ht,Conv.intToInt,Sem.run_bind]
theorem Z_ {t u:TypeId} {x y:Operand} (ho:o.op= .binOp .mul t x y u) (hx:VL E x (Ja .u32)) (hy:VL E y (Ja .u32)):Ad P I o E Z8:=
 Ad.same fun M w a he _=>by
  obtain ⟨m,h1⟩:=hx.ev he (by simp [ho,Op.operands])
  obtain ⟨n,h2⟩:=hy.ev he (by simp [ho,Op.operands])
  have h1:a.eval x= .int .u32 m:=h1
  have h2:a.eval y= .int .u32 n:=h2
  refine ⟨.int .u32 (IntKind.u32.wrap (m*n)),by simp [execOp,ho,h1,h2,eqGuard,binOp,Op.intArith],_,?_,rfl⟩
  rw [IntKind.wrap_u32];omega
theorem U5 {s t:TypeId} {x:Operand} (ho:o.op= .convert s t x) (hs:P.underlying s=some (.int .u32)) (ht:P.underlying t=some (.int .i64)) (hx:VL E x Z8):Ad P I o E lI:=
 Ad.same fun M w a he _=>by
  obtain ⟨n,hn,h1⟩:=hx.ev he (by simp [ho,Op.operands])
  have h1:a.eval x= .int .u32 n:=h1
  refine ⟨.int .i64 (IntKind.i64.wrap n),?_,n,hn,by rw [Jx (by unfold LK;omega)];rfl⟩
  simp [execOp,ho,h1,convert,run_underlying hs,run_underlying ht,Conv.intToInt,Sem.run_bind]
end
theorem A_.Ih {P:Program} {f:FuncId} {row:List Pr} (h:∀m,m≤20→A_ P f [slice 4 (List.replicate m row)] (slice 4 (List.replicate m row))):A_ P f [Go.Proofs.YtppeeogffbpcbaaGreat.Ih row] (Go.Proofs.YtppeeogffbpcbaaGreat.Ih row):=by
 refine ⟨(h 0 (by omega)).1,fun M w vs hb hv=> ?_⟩
 match vs,hv with
 |[u0],G_=>
  obtain ⟨⟨m,hm,h0⟩,_⟩:=G_
  exact ((h m hm).2 M w [u0] hb ⟨h0,trivial⟩).mono fun e w' ⟨v,h1,h2,h3⟩=>⟨v,h1,⟨m,hm,h2⟩,h3⟩
theorem A_.Eo {P:Program} {f:FuncId} {B:Nat} {res:Pr} (h:∀m,m≤B→A_ P f [Tz m] res):A_ P f [Go.Proofs.YtppeeogffbpcbaaGreat.Eo B] res:=by
 refine ⟨(h 0 (by omega)).1,fun M w vs hb hv=> ?_⟩
 match vs,hv with
 |[u0],G_=>
  obtain ⟨⟨m,hm,h0⟩,_⟩:=G_
  exact (h m hm).2 M w [u0] hb ⟨h0,trivial⟩
abbrev Ke:Pr:=Ih (Bg q0)
abbrev lJ:Pr:=Ih (Bg Ke)
theorem Lb:Pr.le q0 Ke:=A9 0 (A2 (by omega) (Pr.le_refl _))
theorem rc0:A_ Tryz.prog 286 [q0] q0:=K6 (m:=0) (q:=q0) (by omega) (.inl rfl)
theorem rc1 (m:Nat) (hm:m≤20):A_ Tryz.prog 286 [slice 4 (List.replicate m (Bg q0))] (slice 4 (List.replicate m (Bg q0))):=K6 hm (.inr rc0)
theorem rc2 (m:Nat) (hm:m≤20):A_ Tryz.prog 286 [slice 4 (List.replicate m (Bg Ke))] (slice 4 (List.replicate m (Bg Ke))):=K6 hm (.inr (A_.Ih rc1))
theorem rf0:A_ Tryz.prog 247 [agg (Bg q0)] RL:=A_.W8 fun t b n hb=>K5 (m:=0) (q:=q0) hb (by omega) (.inl rfl)
theorem rf1:A_ Tryz.prog 247 [agg (Bg Ke)] RL:=A_.Bg fun t b n m hb hm=>K5 hb hm (.inr rf0)
theorem rf2:A_ Tryz.prog 247 [agg (Bg lJ)] RL:=A_.Bg fun t b n m hb hm=>K5 hb hm (.inr rf1)
theorem rd0:A_ Tryz.prog 248 [agg (Bg q0)] (Jj 1):=A_.W8 fun t b n hb=>NZ (m:=0) (q:=q0) (D:=0) hb (by omega) (by omega) (.inl rfl)
theorem rd1:A_ Tryz.prog 248 [agg (Bg Ke)] (Jj 2):=A_.Bg fun t b n m hb hm=>NZ hb hm (by omega) (.inr rd0)
theorem rd2:A_ Tryz.prog 248 [agg (Bg lJ)] (Jj 3):=A_.Bg fun t b n m hb hm=>NZ hb hm (by omega) (.inr rd1)
theorem rp0:A_ Tryz.prog 249 [agg (Bg q0)] (Eo 2002):=A_.W8 fun t b n hb=>Se (m:=0) (q:=q0) (B:=0) hb (by omega) (by omega) (.inl rfl)
theorem rp1:A_ Tryz.prog 249 [agg (Bg Ke)] (Eo 82082):=A_.Bg fun t b n m hb hm=>Se (B:=2002) hb hm (by omega) (.inr rp0)
theorem rp2:A_ Tryz.prog 249 [agg (Bg lJ)] (Eo 3285282):=A_.Bg fun t b n m hb hm=>Se (B:=82082) hb hm (by omega) (.inr rp1)
theorem rE2:A_ Tryz.prog 201 [agg (Bg lJ)] (Fa [Eo 3285282,Ja .i64]):=U4 rf2 rd2 rp2
structure FF.Nc (c:FF):Prop where
 Gv:c.Gv≤40000
 BX:c.BX≤40000
 Lk:0≤c.Lk∧c.Lk≤40000
 Hu:0≤c.Hu∧c.Hu≤40000
 Pc:0≤c.Pc∧c.Pc≤40000
 KI:0≤c.KI∧c.KI≤40000
theorem EN {s:List UInt8} (h:named s=true):s.length≤32:=by unfold named at h;simp at h;omega
theorem T5 {a b:Int} (ha:0≤a∧a≤40000) (hb:0≤b∧b≤40000):A_ prog 253 [agg [int a,int b]] (agg (Bg Ke)):=by
 refine fo func253 rfl ⟨rfl,rfl⟩ fun M0 w0=>(Tr.seq (Tr.Aq (tp rfl (Bl rfl (Va rfl)) ?_)))
 refine Tl rfl rfl rfl rfl Kt JH (fun b1=> ?_)
 refine ap ?_
 refine Tr.seq (Tr.rx ?_)
 refine ay ?_
 refine xo rfl (fun _=>B1 (Jk ha) rfl rfl) ?_
 refine ay ?_
 refine xo rfl (fun _=>B1 (Jk hb) rfl rfl) (xo rfl (fun _=>AG (xs:=[.tmp 5,.tmp 8]) (rows:=[_,_]) rfl rfl underlying221 CX Kt rfl (by decide) ⟨⟨(by exact rfl),(Va rfl)⟩,⟨⟨(by exact rfl),(Va rfl)⟩,trivial⟩⟩ (by decide)) ?_)
 refine xo rfl (fun _=>Ae rfl (P8 (m:=2) (q:=q0) (by omega) (rc1 _ (by omega))) ⟨(Kf rfl),trivial⟩) ?_
 refine Cx.C7 0 rfl rfl (An rfl rfl (vl rfl) (Va rfl) CX rfl (by exact Nb rfl) rfl) ?_
 refine Cx.nil ⟨by kernel_rfl,?_⟩
 refine BV.done al1 (Fin.go (Tr.ret (Fin.CU rfl (AW.cell 0 rfl rfl C9 CX rfl (Lr)) ?_)))
 · exact Lr
theorem XB {c:FF} (hv:B9 c=true) (ht:c.Nc):A_ prog 202 [agg (CZ c)] (agg (Bg lJ)):=by
 refine fo func202 rfl ⟨rfl,rfl⟩ fun M0 w0=> ?_
 obtain ⟨hs0,hs1,RO,hsub,hnm,hkey,Qz,hk1,cA,qh,qi,qj,ql,hf0,hft,ht1,iq,hp1,hap⟩:=Dl hv
 obtain ⟨g1,g2,g3,g4,g5,g6⟩:=ht
 have K7:=hnm
 unfold DA at K7
 rw [Bool.and_eq_true,Bo,decide_eq_true_eq] at K7
 obtain ⟨hall,lH⟩:=K7
 have Me:=EN RO
 have Rk:=EN hsub
 refine Tr.seq (Tr.Aq (tp rfl (Bl rfl (Va rfl)) ?_))
 refine Tl rfl rfl rfl rfl Kt JH (fun b1=> ?_)
 refine ap ?_
 refine a2 ?_
 refine Tr.block (Tr.EY 223 4 (Tr.Gn [(1,_),(2,_)] ⟨ke rfl,ke rfl,trivial⟩ (fun k v=>[(4,int ((k:Nat):Int)),(3,As v (slice 4 (List.replicate k (Bg q0))))]) (fun k v=>Hp M0 w0 Mg ([BJ 223 4 v,AE true b1 223 (([.int .i64 0,.slice none 0 0,.bool false,.slice none 0 0]:List Value).map is)])) (fun k:Nat=>k≤(c.names).length) (fun k:Nat=>(c.names).length-k) 0 (.slice none 0 0) (Nat.zero_le _) ⟨ke rfl,⟨_,rfl,Dr rfl⟩,trivial⟩ (fun _ _ h=>h) ?_))
 rintro k v BN
 refine an ?_ ?_<;>intro h1 q1
 have Ac:k<(c.names).length:=AU h1
 obtain ⟨s,Aa⟩:=at_ Ac
 have hsn:=EN (MM (hall k (by omega)) Aa)
 refine ac ?_
 refine ap ?_
 refine tp rfl (AA rfl underlying74 G0 (vl rfl) (vl rfl) (by omega) (by exact AX (by assumption))) ?_
 refine tp rfl (E_ rfl J6 rfl) (tp rfl (B1 (P7 (by omega)) rfl rfl) (tp rfl (AG (xs:=[.tmp 18]) (rows:=[_]) rfl rfl underlying221 CX Kt rfl (by decide) ⟨⟨(by exact rfl),(Va rfl)⟩,trivial⟩ (by decide)) ?_))
 refine TO.Ex 0 rfl rfl (by decide) (DF rfl rfl rfl rfl underlying221 CX bT Kt (Kb rfl) (Kf rfl) (B6 (by exact List.Mem.head _) (Ka rfl))) (fun v1=> ?_)
 refine ap ?_
 refine Fk 1 2 3 4 rfl ?_
 refine ac ?_
 exact Fin.Gd (k+1) v1 (⟨Ac,by omega⟩) ⟨⟨_,rfl,AK k⟩,⟨_,rfl,Dc (by rw [T0])⟩,ke rfl,ke rfl,trivial⟩ (fun _ _ h=>h)
 have A4:k=(c.names).length:=by have:=AV h1;omega
 refine ac ?_
 refine Tr.seq (Tr.rx ?_)
 refine ay ?_
 refine xo rfl (fun _=>B1 (Jk (by omega)) rfl rfl) ?_
 refine ay ?_
 refine xo rfl (fun _=>B1 (P7 (by omega)) rfl rfl) ?_
 refine ay ?_
 refine xo rfl (fun _=>B1 (P7 (by omega)) rfl rfl) ?_
 refine ay ?_
 refine xo rfl (fun _=>B1 (T5 g3 g4) rfl rfl) ?_
 refine ay ?_
 refine xo rfl (fun _=>B1 (Jk (by omega)) rfl rfl) ?_
 refine ay ?_
 refine xo rfl (fun _=>B1 (T5 g5 g6) rfl rfl) ?_
 refine ay ?_
 refine xo rfl (fun _=>B1 (Jk (by omega)) rfl rfl) ?_
 refine ay ?_
 refine xo rfl (fun _=>B1 (Jk (by omega)) rfl rfl) ?_
 refine ay ?_
 refine xo rfl (fun _=>B1 (Z6) rfl rfl) ?_
 refine ay ?_
 refine xo rfl (fun _=>B1 (Jk (by omega)) rfl rfl) (xm rfl ?_)
 refine xo rfl (fun _=>Ae rfl (P8 (m:=c.names.length) (q:=q0) (by omega) (rc1 _ (by omega))) ⟨⟨_,rfl,Pr.le_trans (A7 _ _) (Pr.le_of_eq (by rw [A4]))⟩,trivial⟩) ?_
 refine xo rfl (fun _=>AG (xs:=[.tmp 23,.tmp 26,.tmp 29,.tmp 32,.tmp 35,.tmp 38,.tmp 41,.tmp 44,.tmp 47,.tmp 50,.tmp 52]) (rows:=[Bg Ke,Bg Ke,Bg Ke,Bg Ke,Bg Ke,Bg Ke,Bg Ke,Bg Ke,Bg Ke,Bg Ke,Bg Ke]) rfl rfl underlying221 CX Kt rfl (by decide) ⟨⟨(by exact rfl),VL.le (vl rfl) (Pr.le_trans (Ab (qs:=Bg Ke) ⟨Lr,Lr,Lr,Lb,trivial⟩) (AZ _))⟩,⟨⟨(by exact rfl),VL.le (vl rfl) (Pr.le_trans (Ab (qs:=Bg Ke) ⟨Lr,Lr,Lr,Lb,trivial⟩) (AZ _))⟩,⟨⟨(by exact rfl),VL.le (vl rfl) (Pr.le_trans (Ab (qs:=Bg Ke) ⟨Lr,Lr,Lr,Lb,trivial⟩) (AZ _))⟩,⟨⟨(by exact rfl),VL.le (vl rfl) (AZ _)⟩,⟨⟨(by exact rfl),VL.le (vl rfl) (Pr.le_trans (Ab (qs:=Bg Ke) ⟨Lr,Lr,Lr,Lb,trivial⟩) (AZ _))⟩,⟨⟨(by exact rfl),VL.le (vl rfl) (AZ _)⟩,⟨⟨(by exact rfl),VL.le (vl rfl) (Pr.le_trans (Ab (qs:=Bg Ke) ⟨Lr,Lr,Lr,Lb,trivial⟩) (AZ _))⟩,⟨⟨(by exact rfl),VL.le (vl rfl) (Pr.le_trans (Ab (qs:=Bg Ke) ⟨Lr,Lr,Lr,Lb,trivial⟩) (AZ _))⟩,⟨⟨(by exact rfl),VL.le (vl rfl) (Pr.le_trans (Ab (qs:=Bg Ke) ⟨Lr,Lr,Lr,Lb,trivial⟩) (AZ _))⟩,⟨⟨(by exact rfl),VL.le (vl rfl) (Pr.le_trans (Ab (qs:=Bg Ke) ⟨Lr,Lr,Lr,Lb,trivial⟩) (AZ _))⟩,⟨⟨(by exact rfl),VL.le (vl rfl) (AZ _)⟩,trivial⟩⟩⟩⟩⟩⟩⟩⟩⟩⟩⟩ (by decide)) ?_
 refine xo rfl (fun _=>Ae rfl (P8 (m:=11) (q:=Ke) (by omega) (rc2 _ (by omega))) ⟨(Kf rfl),trivial⟩) ?_
 refine Cx.C7 1 rfl rfl (An rfl rfl (vl rfl) (Va rfl) CX rfl (by exact Nb rfl) rfl) ?_
 refine Cx.nil ⟨by kernel_rfl,?_⟩
 refine BV.done ZS (Fin.go (Es 2 rfl (Tr.ret (Fin.CU rfl (AW.cell 1 rfl rfl C9 CX rfl (Lr)) ?_))))
 · exact Lr
theorem U6 {c:FF} (hv:B9 c=true) (ht:c.Nc):A_ prog 160 [agg (CZ c)] (Fa [Eo 3285282,Ja .i64]):=by
 refine fo func160 rfl ⟨rfl,rfl⟩ fun M0 w0=> ?_
 refine a2 ?_
 refine co rfl (B1 (Ol hv) rfl rfl) ?_
 refine an ?_ ?_<;>intro h1 q1
 exact absurd h1 (by decide)
 refine a2 ?_
 refine co rfl (B1 (XB hv ht) rfl rfl) (co rfl (B1 (rE2) rfl rfl) ?_)
 refine ac ?_
 refine Tr.ret (Fin.Dz rfl (CH.Ep _ _) rfl ?_ rfl ?_)
 · exact Lr
 · exact Lr
theorem aA {m:Nat} (hm:m≤100000000):A_ prog 161 [Tz m] (lI):=by
 refine fo func161 rfl ⟨rfl,rfl⟩ fun M0 w0=> ?_
 have hlr:(List.replicate m Oi).length=m:=List.length_replicate
 refine a3 ?_
 refine Tr.block (Tr.BF [(0,_)] ⟨ke rfl,trivial⟩ (fun k:Nat=>[(4,int ((k:Nat):Int)),(3,Z8)]) (fun k:Nat=>k≤((List.replicate m Oi).length)) (fun k:Nat=>((List.replicate m Oi).length)-k) 0 (Nat.zero_le _) ⟨ke rfl,⟨_,rfl,A9 _ (A2 (by omega) (Lr))⟩,trivial⟩ ?_)
 rintro k BN
 refine ac ?_
 refine co rfl (CW rfl underlying198 (vl rfl)) ?_
 refine an ?_ ?_<;>intro h1 q1
 have Ac:k<((List.replicate m Oi).length):=AU h1
 have hkm:k<m:=by simpa using Ac
 refine a2 ?_
 refine co rfl (AA rfl underlying198 J5 (vl rfl) (vl rfl) (by omega) (Ij hkm)) (co rfl (E_ rfl jF rfl) (co rfl (XA rfl underlying5 underlying225 (vl rfl)) (co rfl (ZH (by decide) rfl (VL.le (vl rfl) Z9) (vl rfl)) (co rfl (Z_ rfl (vl rfl) (VL.le (vl rfl) (Cf _ _))) ?_))))
 refine ac ?_
 refine Cg 0 3 4 rfl ?_
 refine ac ?_
 exact Fin.AM (k+1) ⟨Ac,by omega⟩ ⟨⟨_,rfl,AK k⟩,ke rfl,ke rfl,trivial⟩
 have A4:k=((List.replicate m Oi).length):=by have:=AV h1;omega
 refine a2 ?_
 refine co rfl (U5 rfl underlying225 underlying3 (vl rfl)) ?_
 refine a2 ?_
 · exact Lr
theorem XC {c:FF} (hn:c.names.length≤1000):A_ prog 158 [agg (CZ c)] (agg (CZ c)):=by
 refine fo func158 rfl ⟨rfl,rfl⟩ fun M0 w0=>(Tr.seq (Tr.Aq ?_))
 refine TO.IJ rfl rfl (by decide) rfl (Va rfl) (fun b1=> ?_)
 refine Tl rfl rfl rfl rfl z131 Gg (fun b2=> ?_)
 refine ap ?_
 refine ap ?_
 refine TO.pad ?_
 refine TO.Ex 0 rfl rfl (by decide) (DF rfl rfl rfl rfl underlying74 G0 jG z9 (Kf rfl) (vl rfl) (Bx (by exact List.Mem.head _) (vl rfl))) (fun v1=> ?_)
 refine ap ?_
 refine ap ?_
 refine Tr.drop 2 (Tr.ret (Fin.CU rfl (AW.cell 1 rfl rfl Dh CC rfl (Lr)) ?_))
 · exact Ab ⟨Lr,Lr,Lr,Lr,Lr,Lr,Lr,Lr,Lr,Lr,Lr,Lr,Pr.le_trans (A7 _ _) (Pr.le_of_eq (by simp)),Lr,Lr,trivial⟩
abbrev FO (c:FF) (key s:Int):FF:=⟨c.Gv,c.HZ,c.F3,c.Lk,c.Hu,c.BX,c.Pc,c.KI,c.from_,c.SM,c.auth,c.path,c.names,key,s⟩
theorem Ik {c:FF} {key:Int} (hv:B9 (FO c 0 0)=true) (ht:(FO c 0 0).Nc) (hk:0≤key∧key≤2147483648):A_ prog 111 [agg (CZ c),int key] (Cp.ex fun s:Int=>fact (0≤s∧s<4294967296) (Fa [agg (CZ (FO c key s)),int 0])):=by
 refine A_.of func111 rfl rfl (by exact Nb rfl) fun M0 w0=> ?_
 have hnn:c.names.length≤1000:=by have:=(Dl hv).nm;unfold DA at this;simp at this;omega
 refine Tr.seq (Tr.Aq ?_)
 refine TO.IJ rfl rfl (by decide) rfl (Va rfl) (fun b1=> ?_)
 refine Tl rfl rfl rfl rfl z131 Gg (fun b2=> ?_)
 refine tm rfl (TO.nil (Fin.go (Tr.seq (Tr.Aq (TO.rd 1 rfl rfl rfl (by decide) (B8 rfl Dh CC (vl rfl) rfl rfl) ?_)))))
 refine tp rfl (Ae rfl (XC (c:=c) hnn) ⟨ke rfl,trivial⟩) ?_
 refine TO.AY 1 rfl rfl rfl (vl rfl) (Va rfl) rfl CC rfl rfl (TO.nil (Fin.go (Tr.seq (Tr.Aq (tp rfl (Al (rows:=[]) rfl bM bN trivial rfl) (tp rfl (AD rfl M7 (vl rfl)) (TO.C7 1 rfl rfl (An rfl rfl (vl rfl) (Va rfl) V4 rfl (by exact Nb rfl) rfl) (TO.nil (Fin.go (Tr.seq (Tr.seq (Tr.A3 (co rfl (Bc 1 rfl (B8 rfl Dh CC (vl rfl) rfl rfl)) ?_)))))))))))))
 refine co rfl (Ae rfl (Ol (c:=FO c 0 0) hv) ⟨ke rfl,trivial⟩) ?_
 refine co rfl (ki rfl rfl rfl rfl) (cm rfl ?_)
 refine Ch.cs 15 rfl ?_ ?_<;>intro h1 q1
 exact absurd h1 (by decide)
 refine Gr h1 rfl (cy h1 rfl (ki rfl rfl rfl rfl) (co rfl (JB rfl rfl h1 rfl) (cm rfl ?_)))
 refine Ch.cs 19 rfl ?_ ?_<;>intro h2 q2
 exfalso;have:=q2;omega
 refine Gr h2 rfl (cy h2 rfl (ki rfl rfl rfl rfl) (co rfl (JB rfl rfl h2 rfl) (Ch.nil (Fin.go (Fk 1 2 4 22 rfl ?_)))))
 refine Tr.cn rfl ?_ ?_<;>intro h3 q3
 exfalso;have:=q3;omega
 refine Tr.skip (Fin.go (Tr.seq (Tr.A3 (co rfl (Bc 1 rfl (B8 rfl Dh CC (vl rfl) rfl rfl)) ?_))))
 refine co rfl (Ae rfl (U6 (c:=FO c 0 0) hv ht) ⟨ke rfl,trivial⟩) ?_
 refine cm rfl (co rfl (BI rfl (vl rfl) rfl) (co rfl (BI rfl (vl rfl) rfl) (cm rfl (cm rfl (Ch.nil (Fin.go (Tr.seq (Tr.Aq (tm rfl (tm rfl (tp rfl (Ae rfl (A_.Eo fun m hm=>aA (by omega)) ⟨ke rfl,trivial⟩) ?_)))))))))))
 refine TO.ex 31 rfl (fun z31=>TO.fact 31 rfl fun qm=> ?_)
 refine tp rfl (Al (rows:=[(0,[_]),(1,[_])]) rfl bM bN ⟨⟨rfl,(Vo rfl)⟩,⟨⟨rfl,(Vo rfl)⟩,trivial⟩⟩ rfl) (tp rfl (AD rfl M7 (vl rfl)) (TO.C7 1 rfl rfl (An rfl rfl (vl rfl) (Va rfl) V4 rfl (by exact Nb rfl) rfl) (TO.nil (Fin.go (B3 2 4 rfl (Tr.seq (Tr.Aq (TO.rd 1 rfl rfl rfl (by decide) (B8 rfl Dh CC (vl rfl) rfl rfl) (TO.AY 0 rfl rfl rfl (vl rfl) (Va rfl) rfl CC rfl rfl (tm rfl (TO.nil (Fin.go (Tr.drop 1 (Tr.ret ?_))))))))))))))
 refine Fin.C4 rfl (AW.cell 0 rfl rfl Dh CC rfl (Lr)) (AW.tmp rfl (Lr)) ?_
 · exact A9 z31 (A2 qm (Lr))
abbrev Il (name:List UInt8) (a b id to key s:Int):FF:=⟨id,[114,111,111,116],name,a,b,id,3,0,0,to,false,0,[name],key,s⟩
abbrev FH (name:List UInt8) (a b id to key s:Int):Du:=⟨a,b,id,[Il name a b id to key s]⟩
abbrev XD (name:List UInt8) (a b id to key:Int):Pr:=Cp.ex fun s:Int=>fact (0≤s∧s<4294967296) (agg (Az (FH name a b id to key s)))
theorem T6   :A_ prog 66 [] (agg [int 5,int 2048]):=by
 refine fo func66 rfl ⟨rfl,rfl⟩ fun M0 w0=>(Tr.seq (Tr.Aq ?_))
 refine Tl rfl rfl rfl rfl z24 De (fun b1=> ?_)
 refine ap ?_
 refine ap ?_
 refine Tr.ret (Fin.CU rfl (AW.cell 0 rfl rfl CM DE rfl (Lr)) ?_)
 · exact Lr
theorem lK   :A_ prog 73 [] (agg [int 7,int 256]):=by
 refine fo func73 rfl ⟨rfl,rfl⟩ fun M0 w0=>(Tr.seq (Tr.Aq ?_))
 refine Tl rfl rfl rfl rfl z24 De (fun b1=> ?_)
 refine ap ?_
 refine ap ?_
 refine Tr.ret (Fin.CU rfl (AW.cell 0 rfl rfl CM DE rfl (Lr)) ?_)
 · exact Lr
theorem Nd {name:List UInt8} {a b id to key:Int} (hv:B9 (Il name a b id to 0 0)=true) (ht:(Il name a b id to 0 0).Nc) (hk:0≤key∧key≤2147483648):A_ prog 65 [str name,agg [int a,int b],int id,int key,int to] (XD name a b id to key):=by
 refine fo func65 rfl ⟨rfl,rfl⟩ fun M0 w0=>(Tr.seq (Tr.Aq (tp rfl (Bl rfl (Va rfl)) ?_)))
 refine Tl rfl rfl rfl rfl HP HO (fun b1=> ?_)
 refine ap ?_
 refine ap ?_
 refine tp rfl (Al (rows:=[(0,[_]),(1,[_]),(2,[_]),(3,_),(4,[_]),(5,_),(7,[_]),(10,[_])]) rfl bO Gg ⟨⟨rfl,(Vo rfl)⟩,⟨⟨rfl,(Vo rfl)⟩,⟨⟨rfl,(Vo rfl)⟩,⟨⟨rfl,(Va rfl)⟩,⟨⟨rfl,(Vo rfl)⟩,⟨⟨rfl,(Va rfl)⟩,⟨⟨rfl,(Vo rfl)⟩,⟨⟨rfl,⟨_,rfl,Pr.le_trans (Au _ _) (AS _)⟩⟩,trivial⟩⟩⟩⟩⟩⟩⟩⟩ rfl) (TO.re 20 (agg (CZ (Il name a b id to 0 0))) rfl (Pr.le_of_eq rfl) ?_)
 refine Tl rfl rfl rfl rfl z131 Gg (fun b2=> ?_)
 refine ap ?_
 refine Ej 2 3 6 10 11 rfl ?_
 refine ap ?_
 refine tp rfl (C8 (Ik (c:=Il name a b id to 0 0) hv ht hk) rfl rfl rfl) ?_
 refine TO.ex 24 rfl (fun z24=>TO.fact 24 rfl fun qn=> ?_)
 refine ap ?_
 refine ap ?_
 refine tp rfl (Al (rows:=[(0,_),(1,[_]),(2,[_])]) rfl Ya HO ⟨⟨rfl,(Va rfl)⟩,⟨⟨rfl,(Vo rfl)⟩,⟨⟨rfl,⟨_,rfl,Pr.le_trans (Au _ _) (AS _)⟩⟩,trivial⟩⟩⟩ rfl) ?_
 refine ap ?_
 refine Tr.drop 0 (Es 10 rfl (Tr.ret (Fin.CU rfl (AW.cell 0 rfl rfl E2 BR rfl (Lr)) ?_)))
 · exact A9 z24 (A2 qn (Lr))
def FP (s:DS) (l:List (List UInt8)):List UInt8:=(l[(s.val l.length).toNat]?).getD []
theorem Nf {b:Nat} {s:DS} {l:List (List UInt8)} (hl:l≠[]) (bn:l.length≤1000000000):BG prog 68 [ptr b 0,Pf l] (str (FP s l)) (Cd b s) (fun _=>Cd b s.Aj):=by
 refine BG.of func68 rfl rfl (by exact Nb rfl) fun M0 w0 S rs M1 w1=> ?_
 have SD:1≤(l.length:Int):=by have:=List.length_pos_iff.2 hl;omega
 have hv:=s.B4 SD
 obtain ⟨x,hx⟩:=at_ (l:=l) (k:=(s.val l.length).toNat) (by omega)
 refine ac ?_
 refine ap ?_
 refine TO.Er 0 rfl rfl (by decide) (AQ rfl rfl (by decide) rfl (BD (by omega) (by omega)) ⟨ke rfl,ke rfl,trivial⟩) (tp rfl (AA rfl underlying74 G0 (vl rfl) (vl rfl) (by omega) (DC hx)) ?_)
 refine ap ?_
 refine Tr.ret (Fin.CB [] rfl (AW.tmp rfl (Lr)) ?_ (fun _ _ _ _=>rfl))
 · refine Pr.le_of_eq ?_;unfold FP;rw [hx];rfl
def Et:List (List UInt8):=[[97,112,112],[100,98],[119,101,98]]
def Lt:List (List Int):=[[10,8,2],[8,2],[2,10,8,3]]
def Jl (i:Int):List Int:=(Lt[i.toNat]?).getD []
theorem aB {i:Int} (h:0≤i∧i<3):(Lt.map fun l=>[ints l])[i.toNat]? =some [ints (Jl i)]:=by
 have hl:i.toNat<Lt.length:=by show i.toNat<3;omega
 unfold Jl
 rw [List.getElem?_map,List.getElem?_eq_getElem hl];rfl
theorem RP {i:Int} (h:0≤i∧i<3):Jl i∈Lt:=by
 have hl:i.toNat<Lt.length:=by show i.toNat<3;omega
 unfold Jl
 rw [List.getElem?_eq_getElem hl];exact List.getElem_mem hl
structure Sf (i:Nat) (e:A5):Prop where
 name:Et[i]? =some e.name
 least:e.least=1
 most:e.most=3∨e.most=4
 AJ:e.AJ∈Lt∨∃l∈Lt,e.AJ=14::l
 ids:∃s:Int,(0≤s∧s<4294967296)∧e.ids=[FH e.name 5 2048 (100+(i:Nat)) 901 1 s]
 anchors:e.anchors=[1]
 hashes:e.hashes=[2,3]
def U7 (es:List A5):Prop:=∀(i:Nat) e,es[i]? =some e→Sf i e
theorem RQ {es:List A5} {e:A5} (h:U7 es) (he:Sf es.length e):U7 (es++[e]):=by
 intro i x hx
 rcases Nat.lt_or_ge i es.length with hi|hi
 · rw [List.getElem?_append_left hi] at hx;exact h i x hx
 ·
  rcases Nat.eq_or_lt_of_le hi with hi|hi
  · subst hi;rw [List.getElem?_append_right (Nat.le_refl _),Nat.sub_self] at hx;simp at hx;subst hx;exact he
  · rw [List.getElem?_eq_none (by simp;omega)] at hx;cases hx
theorem P9 {nm:List UInt8} {k:Nat} (h:Et[k]? =some nm) {s:Int} (hs:0≤s∧s<4294967296) {key:Int} (hk:0≤key∧key≤2):B9 (Il nm 5 2048 (100+(k:Nat)) 901 key s)=true:=by
 have hlt:k<3:=A1 h
 have hn:named nm=true:=by
  have hm:=List.mem_of_getElem? h
  revert hm;unfold Et;intro hm;simp at hm
  rcases hm with rfl|rfl|rfl<;>decide
 refine RN ⟨?_,?_,by show named [114,111,111,116]=true;decide,hn,?_,by show En 5 2048 2=true;decide+kernel,?_,?_,by show En 3 0 1=true;decide+kernel,hk.1,?_,hs.1,hs.2,by show (0:Int)≤0;omega,by show (0:Int)≤901;omega,by show (901:Int)≤40000;omega,by show (0:Int)≤0;omega,by show (0:Int)≤8;omega,.inr rfl⟩
 · show 0≤(100:Int)+(k:Nat);omega
 · show (100:Int)+(k:Nat)≤_;omega
 ·
  show DA [nm]=true
  unfold DA;rw [Bool.and_eq_true];refine ⟨Bo.2 fun j hj=> ?_,by simp⟩
  have:j=0:=by simp at hj;omega
  subst this;unfold nameAt;simp [hn]
 · show 0≤(100:Int)+(k:Nat);omega
 · show (100:Int)+(k:Nat)≤_;omega
 · show key≤_;omega
theorem Om {nm:List UInt8} {k:Nat} (h:k<3):(Il nm 5 2048 (100+(k:Nat)) 901 0 0).Nc:=
 ⟨by show (100:Int)+(k:Nat)≤40000;omega,by show (100:Int)+(k:Nat)≤40000;omega,⟨by show (0:Int)≤5;omega,by show (5:Int)≤40000;omega⟩,⟨by show (0:Int)≤2048;omega,by show (2048:Int)≤40000;omega⟩,⟨by show (0:Int)≤3;omega,by show (3:Int)≤40000;omega⟩,⟨by show (0:Int)≤0;omega,by show (0:Int)≤40000;omega⟩⟩
theorem XE {β:Type} {l:List β} {n k:Nat} {x:β} (h:(l.take n)[k]? =some x):l[k]? =some x:=by
 have hlt:=A1 h
 rw [List.length_take] at hlt
 rw [List.getElem?_take,if_pos (by omega)] at h;exact h
theorem XF (i:Int):(Jl i).length≤4:=by
 unfold Jl
 cases h:Lt[i.toNat]? with
 |none=>show 0≤4;omega
 |some l=>
  have hm:=List.mem_of_getElem? h
  show l.length≤4
  unfold Lt at hm;simp at hm
  rcases hm with rfl|rfl|rfl<;>simp
theorem eo (s:DS):s.of [3,3,4]=3∨s.of [3,3,4]=4:=by have:=s.HM (l:=[3,3,4]) (by simp);simp at this;exact this
abbrev lM:List (List Int):=Lt++Lt.map (14:: ·)
theorem Gj {i:Nat} {e:A5} (h:Sf i e):e.AJ∈lM:=by
 rcases h.AJ with h|⟨l,h,h2⟩
 · exact List.mem_append_left _ h
 · rw [h2];exact List.mem_append_right _ (List.mem_map_of_mem h)
theorem MN:∀l∈lM,FY l=true∧l.length≤5:=by decide+kernel
theorem MO:∀n∈Et,Hv n=true∧n.length≤3:=by decide+kernel
theorem aC:[2,3].all Ic=true:=by decide+kernel
theorem aD:En 5 2048 2=true:=by decide+kernel
theorem XG {nm:List UInt8} {k:Nat} {id:Int} (h:Et[k]? =some nm) (hid:id=100+(k:Nat)) {s:Int} (hs:0≤s∧s<4294967296):Ui (FH nm 5 2048 id 901 1 s)=true:=by
 subst hid
 have hk:k<3:=A1 h
 have hv:=P9 h hs (key:=1) (by omega)
 have hk2:E6 (100+(k:Nat))=true:=by unfold E6;simp;omega
 unfold Ui NW;simp only [aD,hk2,List.all_cons,List.all_nil,hv];simp
theorem aE {i:Nat} {e:A5} (h:Sf i e):Tv e:=by
 have hn:=MO _ (List.mem_of_getElem? h.name)
 have hs:=MN _ (Gj h)
 obtain ⟨s,hs1,K1⟩:=h.ids
 have hm:=h.most;have hl:=h.least
 refine ⟨hn.1,by omega,by omega,by omega,hs.1,by rw [K1];simp,by rw [h.anchors];simp,by rw [h.anchors];decide,by rw [h.hashes];decide,?_,by rw [h.anchors];decide,by rw [h.hashes];exact aC⟩
 rw [K1];simp only [List.all_cons,List.all_nil,XG h.name rfl hs1,Bool.and_self]
theorem On {i:Nat} {e:A5} (h:Sf i e):e.fits:=by
 have hn:=MO _ (List.mem_of_getElem? h.name)
 obtain ⟨s,hs1,K1⟩:=h.ids
 refine ⟨by unfold maxLen;omega,fun x hx c hc=> ?_⟩
 rw [K1] at hx;simp at hx;subst hx;simp at hc;subst hc
 exact ⟨by show 4≤maxLen;unfold maxLen;omega,by show e.name.length≤maxLen;unfold maxLen;omega,fun n hn2=>by simp at hn2;subst hn2;unfold maxLen;omega⟩
theorem Ng {i:Nat} {e:A5} (h:Sf i e):e.small:=by
 have hs:=MN _ (Gj h)
 obtain ⟨s,hs1,K1⟩:=h.ids
 refine ⟨by omega,by rw [h.anchors];simp,by rw [h.hashes];simp,by rw [K1];simp,fun x hx=> ?_⟩
 rw [K1] at hx;simp at hx;subst hx
 exact ⟨by simp,fun c hc=>by simp at hc;subst hc;simp⟩
theorem CT:Ay.fits:=fun c hc=>by cases hc
theorem lN {v:Int} (h:0≤v∧v<2):([[int 7,int 256],[int 5,int 2048]]:List (List Pr))[v.toNat]? =some [int (if v=0 then 7 else 5),int (if v=0 then 256 else 2048)]:=by
 have:v=0∨v=1:=by omega
 rcases this with rfl|rfl<;>rfl
theorem lO (v:Int):((if v=0 then 7 else 5:Int)=5∧(if v=0 then 256 else 2048:Int)=2048)∨((if v=0 then 7 else 5:Int)=7∧(if v=0 then 256 else 2048:Int)=256):=by split<;>simp
theorem cB {nm:List UInt8} (h:nm∈Et) {a b id key s:Int} (hab:(a=5∧b=2048)∨(a=7∧b=256)) (hid:0≤id∧id≤1000) (hs:0≤s∧s<4294967296) (hk:0≤key∧key≤2):B9 (Il nm a b id 901 key s)=true:=by
 have hn:named nm=true:=by
  revert h;unfold Et;intro hm;simp at hm
  rcases hm with rfl|rfl|rfl<;>decide
 have hof:En a b 2=true:=by rcases hab with ⟨rfl,rfl⟩|⟨rfl,rfl⟩<;>decide+kernel
 refine RN ⟨?_,?_,by show named [114,111,111,116]=true;decide,hn,?_,hof,?_,?_,by show En 3 0 1=true;decide+kernel,hk.1,?_,hs.1,hs.2,by show (0:Int)≤0;omega,by show (0:Int)≤901;omega,by show (901:Int)≤40000;omega,by show (0:Int)≤0;omega,by show (0:Int)≤8;omega,.inr rfl⟩
 · show 0≤id;omega
 · show id≤_;omega
 ·
  show DA [nm]=true
  unfold DA;rw [Bool.and_eq_true];refine ⟨Bo.2 fun j hj=> ?_,by simp⟩
  have:j=0:=by simp at hj;omega
  subst this;unfold nameAt;simp [hn]
 · show 0≤id;omega
 · show id≤_;omega
 · show key≤_;omega
theorem cC {nm:List UInt8} {a b id:Int} (hab:(a=5∧b=2048)∨(a=7∧b=256)) (hid:0≤id∧id≤1000):(Il nm a b id 901 0 0).Nc:=
 ⟨by show id≤40000;omega,by show id≤40000;omega,⟨by show (0:Int)≤a;omega,by show a≤40000;omega⟩,⟨by show (0:Int)≤b;omega,by show b≤40000;omega⟩,⟨by show (0:Int)≤3;omega,by show (3:Int)≤40000;omega⟩,⟨by show (0:Int)≤0;omega,by show (0:Int)≤40000;omega⟩⟩
structure XH (es:List A5) (c:BA):Prop where
 lo:0≤c.AP
 hi:c.AP<(es.length:Nat)
 kind:1≤c.kind∧c.kind≤12
 fits:c.Bj.fits
 small:c.Bj.small
abbrev RR (nm:List UInt8) (a b id to key:Int):Pr:=Cp.ex fun s:Int=>fact (0≤s∧s<4294967296) (Gh [Il nm a b id to key s])
theorem Nh {nm:List UInt8} {a b id to key:Int}:(XD nm a b id to key).le (Dp [int a,int b,int id,RR nm a b id to key]):=by
 intro M w v ⟨s,hs,hv⟩
 exact (AZ [int a,int b,int id,RR nm a b id to key]) M w v (Ab (ps:=Az (FH nm a b id to key s)) (qs:=[int a,int b,int id,RR nm a b id to key]) ⟨Pr.le_refl _,Pr.le_refl _,Pr.le_refl _,fun M w v h=>⟨s,hs,h⟩,trivial⟩ M w v hv)
theorem Sg {β:Type} {f:β→Pr} {M:Av} {w:World}:∀{ps:List Pr} {cs:List Value},HL M w (ps++[Cp.ex f]) cs→∃s,HL M w (ps++[f s]) cs
 |[],[c],h=>by obtain ⟨⟨s,hs⟩,h2⟩:=h;exact ⟨s,hs,h2⟩
 |[],[],h=>h.elim
 |[],_::_::_,h=>h.2.elim
 |p::ps,[],h=>h.elim
 |p::ps,c::cs,h=>by obtain ⟨s,hs⟩:=Sg (ps:=ps) (cs:=cs) h.2;exact ⟨s,h.1,hs⟩
theorem Ni {φ:Prop} {p0:Pr} {M:Av} {w:World}:∀{ps:List Pr} {cs:List Value},HL M w (ps++[fact φ p0]) cs→HL M w (ps++[p0]) cs
 |[],[c],h=>⟨h.1.2,h.2⟩
 |[],[],h=>h.elim
 |[],_::_::_,h=>h.2.elim
 |p::ps,[],h=>h.elim
 |p::ps,c::cs,h=>⟨h.1,Ni (ps:=ps) (cs:=cs) h.2⟩
theorem XI {es:List A5} {p0 p1 p2 p3:Int} {nm:List UInt8} {a b id key:Int} (h:∀s:Int,XH es ⟨p0,p1,p2,p3,FH nm a b id 901 key s⟩):(agg [int p0,int p1,int p2,int p3,int a,int b,int id,RR nm a b id 901 key]).le (Cp.ex fun c:BA=>fact (XH es c) (agg (Am c))):=by
 intro M w v ⟨cs,h1,h2,h3⟩
 obtain ⟨s,h4⟩:=Sg (ps:=[int p0,int p1,int p2,int p3,int a,int b,int id]) h3
 exact ⟨⟨p0,p1,p2,p3,FH nm a b id 901 key s⟩,h s,cs,h1,h2,Ni (ps:=[int p0,int p1,int p2,int p3,int a,int b,int id]) h4⟩
theorem XJ {nm:List UInt8} (h:nm∈Et) {a b id key s:Int}:(FH nm a b id 901 key s).fits∧(FH nm a b id 901 key s).small:=by
 have hn:=(MO _ h).2
 refine ⟨fun c hc=> ?_,⟨by simp,fun c hc=>by simp at hc;subst hc;simp⟩⟩
 simp at hc;subst hc
 exact ⟨by show 4≤maxLen;unfold maxLen;omega,by show nm.length≤maxLen;unfold maxLen;omega,fun n hn2=>by simp at hn2;subst hn2;unfold maxLen;omega⟩
theorem cE {b:Nat} {s:DS} {es:List A5} {p1 p2:Pr} (hs:U7 es) (hl:1≤es.length∧es.length≤3):BG prog 16 [ptr b 0,agg [slice 9 (es.map Ah),p1,p2]] (Cp.ex fun c:BA=>fact (XH es c) (agg (Am c))) (Cd b s) (fun _=>EZ 101 b):=by
 refine BG.of func16 rfl rfl (by exact Nb rfl) fun M0 w0 S rs M1 w1=> ?_
 have hv:=s.B4 (n:=es.length) (by omega)
 obtain ⟨e,he⟩:=at_ (l:=es) (k:=(s.val es.length).toNat) (by omega)
 have Sh:=hs _ e he
 have hnm:=List.mem_of_getElem? Sh.name
 have k7:=(MN _ (Gj Sh)).2
 obtain ⟨y0,hy0⟩:∃y0,e.ids=[y0]:=by obtain ⟨s_,_,h_⟩:=Sh.ids;exact ⟨_,h_⟩
 have EO:e.ids.length=1:=by rw [hy0];rfl
 have Gz:=s.Aj.B4 (n:=12) (by omega)
 have hv3:=s.Aj.Aj.B4 (n:=16) (by omega)
 have hv4:=s.Aj.Aj.B4 (n:=4) (by omega)
 have hv5:=s.Aj.Aj.B4 (n:=3) (by omega)
 have hv6:=s.Aj.Aj.Aj.B4 (n:=2) (by omega)
 have hv7:=s.Aj.Aj.Aj.Aj.B4 (n:=3) (by omega)
 have hv8:=s.Aj.Aj.Aj.Aj.Aj.B4 (n:=2) (by omega)
 refine Tr.seq (Tr.Aq (tp rfl (Bl rfl (Va rfl)) ?_))
 refine Tl rfl rfl rfl rfl z29 Fo (fun b1=> ?_)
 refine ao ?_
 refine ao ?_
 refine TO.Er 1 rfl rfl (by decide) (AQ rfl rfl (by decide) rfl (BD (by omega) (by omega)) ⟨ke rfl,ke rfl,trivial⟩) ?_
 refine ao ?_
 refine ao ?_
 refine tp rfl (AA rfl underlying37 A8 (vl rfl) (vl rfl) (by omega) (DC he)) (tp rfl (AH rfl BM A8 (vl rfl) rfl rfl) ?_)
 refine Tl rfl rfl rfl rfl z32 Df (fun b2=> ?_)
 refine sf 0 6 ⟨rfl,rfl,rfl⟩ rfl rfl rfl rfl ?_
 refine ao ?_
 refine Fk 0 4 5 6 rfl ?_
 refine ao ?_
 refine TO.Er 1 rfl rfl (by decide) (AQ rfl rfl (by decide) rfl (BD (by omega) (by omega)) ⟨ke rfl,ke rfl,trivial⟩) ?_
 refine ao ?_
 refine Tl rfl rfl rfl rfl z29 Fo (fun b3=> ?_)
 refine TO.AY 0 rfl rfl rfl (vl rfl) (Va rfl) rfl BE rfl rfl ?_
 refine ao ?_
 refine a2 ?_
 refine HH 0 4 6 7 24 25 rfl ?_
 refine Tr.cn rfl ?_ ?_<;>intro h1 q1
 refine Tr.rx (xm rfl (Cx.ef 2 rfl rfl (by decide) (AQ rfl rfl (by decide) rfl (BD (by omega) (by omega)) ⟨ke rfl,ke rfl,trivial⟩) ?_))
 refine ay ?_
 refine Cx.ef 2 rfl rfl (by decide) (AQ rfl rfl (by decide) rfl (BD (by omega) (by omega)) ⟨ke rfl,ke rfl,trivial⟩) ?_
 refine ay ?_
 refine Cx.nil ⟨by kernel_rfl,?_⟩
 refine BV.done I8 ?_
 refine ac ?_
 refine B3 4 7 rfl ?_
 refine ao ?_
 refine TO.AY 1 rfl rfl rfl (vl rfl) (Va rfl) rfl BE rfl rfl ?_
 refine ao ?_
 refine Tr.drop 0 (Tr.ret (Fin.Bn 1 _ rfl rfl (Fin.CB [_] rfl (AW.cell 0 rfl rfl Be BE rfl (Lr)) ?_ (fun _ _ _ _=>rfl))))
 · (refine A9 ⟨_,_,_,_,Ay⟩ (A2 ?_ (Ab ⟨Lr,Lr,Lr,Lr,Lr,Lr,Lr,AB 15,trivial⟩));exact ⟨hv.1,hv.2,⟨by show 1≤1+_;omega,by show 1+_≤12;omega⟩,CT,BK⟩)
 refine an ?_ ?_<;>intro h2 q2
 refine ao ?_
 refine TO.Er 2 rfl rfl (by decide) (AQ rfl rfl (by decide) rfl (BD (by omega) (by omega)) ⟨ke rfl,ke rfl,trivial⟩) ?_
 refine ao ?_
 refine TO.C7 0 rfl rfl (An rfl rfl (vl rfl) (Vo rfl) CO rfl (by exact Nb rfl) rfl) ?_
 refine ao ?_
 refine ao ?_
 refine TO.cases 48 rfl (fun h3=> ?_) (fun h3=> ?_)
 have q3:=FX.Gp h3
 refine TO.SG rfl rfl rfl h3 rfl (by decide) (BQ rfl (vl rfl)) (TO.ZR 2 rfl rfl rfl h3 rfl rfl (by decide) (AQ rfl rfl (by decide) rfl (Ji (by omega) (by omega)) ⟨ke rfl,ke rfl,trivial⟩) (TO.SG rfl rfl rfl h3 rfl (by decide) (IE rfl (vl rfl)) ?_))
 refine ao ?_
 refine Ej 0 4 6 7 52 rfl ?_
 refine Tr.cn rfl ?_ ?_<;>intro h4 q4
 have lP:=s.Aj.Aj.Aj.Aj.B4 (n:=e.AJ.length) (by omega)
 obtain ⟨su,cF⟩:=at_ (l:=e.AJ) (k:=(s.Aj.Aj.Aj.Aj.val e.AJ.length).toNat) (by omega)
 refine Tr.rx ?_
 refine ay ?_
 refine Cx.ef 2 rfl rfl (by decide) (AQ rfl rfl (by decide) rfl (BD (by omega) (by omega)) ⟨ke rfl,ke rfl,trivial⟩) (xo rfl (fun _=>AA rfl underlying22 CO (vl rfl) (vl rfl) (by omega) (DC (f:=fun n:Int=>[int n]) cF)) ?_)
 refine ay ?_
 refine Cx.nil ⟨by kernel_rfl,?_⟩
 refine BV.done I8 ?_
 refine ac ?_
 refine B3 4 7 rfl ?_
 refine ao ?_
 refine TO.AY 1 rfl rfl rfl (vl rfl) (Va rfl) rfl BE rfl rfl ?_
 refine ao ?_
 refine Tr.drop 0 (Tr.ret (Fin.Bn 1 _ rfl rfl (Fin.CB [_] rfl (AW.cell 0 rfl rfl Be BE rfl (Lr)) ?_ (fun _ _ _ _=>rfl))))
 · (refine A9 ⟨_,_,_,_,Ay⟩ (A2 ?_ (Ab ⟨Lr,Lr,Lr,Lr,Lr,Lr,Lr,AB 15,trivial⟩));exact ⟨hv.1,hv.2,⟨by show 1≤1+_;omega,by show 1+_≤12;omega⟩,CT,BK⟩)
 refine ac ?_
 refine ao ?_
 refine TO.AY 1 rfl rfl rfl (vl rfl) (Va rfl) rfl BE rfl rfl ?_
 refine ao ?_
 refine Tr.drop 0 (Tr.ret (Fin.Bn 1 _ rfl rfl (Fin.CB [_] rfl (AW.cell 0 rfl rfl Be BE rfl (Lr)) ?_ (fun _ _ _ _=>rfl))))
 · (refine A9 ⟨_,_,_,_,Ay⟩ (A2 ?_ (Ab ⟨Lr,Lr,Lr,Lr,Lr,Lr,Lr,AB 15,trivial⟩));exact ⟨hv.1,hv.2,⟨by show 1≤1+_;omega,by show 1+_≤12;omega⟩,CT,BK⟩)
 have q3:=FX.Gp h3
 refine TO.OY rfl rfl rfl (Ce h3) rfl (by decide) (TO.OY rfl rfl rfl (Ce h3) rfl (by decide) (TO.OY rfl rfl rfl (Ce h3) rfl (by decide) ?_))
 refine ao ?_
 refine Ej 0 4 6 7 52 rfl ?_
 refine ac ?_
 refine ao ?_
 refine TO.AY 1 rfl rfl rfl (vl rfl) (Va rfl) rfl BE rfl rfl ?_
 refine ao ?_
 refine Tr.drop 0 (Tr.ret (Fin.Bn 1 _ rfl rfl (Fin.CB [_] rfl (AW.cell 0 rfl rfl Be BE rfl (Lr)) ?_ (fun _ _ _ _=>rfl))))
 · (refine A9 ⟨_,_,_,_,Ay⟩ (A2 ?_ (Ab ⟨Lr,Lr,Lr,Lr,Lr,Lr,Lr,AB 15,trivial⟩));exact ⟨hv.1,hv.2,⟨by show 1≤1+_;omega,by show 1+_≤12;omega⟩,CT,BK⟩)
 refine an ?_ ?_<;>intro h5 q5
 refine ac ?_
 refine Tr.cond rfl (fun _=> ?_) (fun h=>nomatch h5.symm.trans h)
 refine ao ?_
 refine TO.Er 2 rfl rfl (by decide) (AQ rfl rfl (by decide) rfl (BD (by omega) (by omega)) ⟨ke rfl,ke rfl,trivial⟩) ?_
 refine ao ?_
 refine TO.C7 0 rfl rfl (An rfl rfl (vl rfl) (Vo rfl) CO rfl (by exact Nb rfl) rfl) ?_
 refine ao ?_
 refine B3 4 7 rfl ?_
 refine ao ?_
 refine TO.AY 1 rfl rfl rfl (vl rfl) (Va rfl) rfl BE rfl rfl ?_
 refine ao ?_
 refine Tr.drop 0 (Tr.ret (Fin.Bn 1 _ rfl rfl (Fin.CB [_] rfl (AW.cell 0 rfl rfl Be BE rfl (Lr)) ?_ (fun _ _ _ _=>rfl))))
 · (refine A9 ⟨_,_,_,_,Ay⟩ (A2 ?_ (Ab ⟨Lr,Lr,Lr,Lr,Lr,Lr,Lr,AB 15,trivial⟩));exact ⟨hv.1,hv.2,⟨by show 1≤1+_;omega,by show 1+_≤12;omega⟩,CT,BK⟩)
 refine an ?_ ?_<;>intro h6 q6
 refine ao ?_
 refine TO.Er 2 rfl rfl (by decide) (AQ rfl rfl (by decide) rfl (BD (by omega) (by omega)) ⟨ke rfl,ke rfl,trivial⟩) ?_
 refine ao ?_
 refine TO.C7 0 rfl rfl (An rfl rfl (vl rfl) (Vo rfl) CO rfl (by exact Nb rfl) rfl) ?_
 refine ao ?_
 refine B3 4 7 rfl ?_
 refine ao ?_
 refine TO.AY 1 rfl rfl rfl (vl rfl) (Va rfl) rfl BE rfl rfl ?_
 refine ao ?_
 refine Tr.drop 0 (Tr.ret (Fin.Bn 1 _ rfl rfl (Fin.CB [_] rfl (AW.cell 0 rfl rfl Be BE rfl (Lr)) ?_ (fun _ _ _ _=>rfl))))
 · (refine A9 ⟨_,_,_,_,Ay⟩ (A2 ?_ (Ab ⟨Lr,Lr,Lr,Lr,Lr,Lr,Lr,AB 15,trivial⟩));exact ⟨hv.1,hv.2,⟨by show 1≤1+_;omega,by show 1+_≤12;omega⟩,CT,BK⟩)
 refine ac ?_
 refine HH 0 4 6 7 24 70 rfl ?_
 refine Tr.cn rfl ?_ ?_<;>intro h7 q7
 refine Tr.rx ?_
 refine ay ?_
 refine Cx.ef 2 rfl rfl (by decide) (AQ rfl rfl (by decide) rfl (BD (by omega) (by omega)) ⟨ke rfl,ke rfl,trivial⟩) ?_
 refine ay ?_
 refine xo rfl (fun _=>Qv (lK) rfl) (xo rfl (fun _=>Qv (T6) rfl) (xo rfl (fun _=>AG (xs:=[.tmp 80,.tmp 81]) (rows:=[_,_]) rfl rfl underlying114 DE z24 rfl (by decide) ⟨⟨(by exact rfl),(Va rfl)⟩,⟨⟨(by exact rfl),(Va rfl)⟩,trivial⟩⟩ (by decide)) ?_))
 refine xm rfl (Cx.ef 2 rfl rfl (by decide) (AQ rfl rfl (by decide) rfl (BD (by omega) (by omega)) ⟨ke rfl,ke rfl,trivial⟩) (xo rfl (fun _=>AA rfl underlying114 DE (Kf rfl) (vl rfl) (by omega) (lN hv6)) ?_))
 refine ay ?_
 refine Cx.ef 2 rfl rfl (by decide) (AQ rfl rfl (by decide) rfl (BD (by omega) (by omega)) ⟨ke rfl,ke rfl,trivial⟩) ?_
 refine ay ?_
 refine Cx.ef 2 rfl rfl (by decide) (AQ rfl rfl (by decide) rfl (BD (by omega) (by omega)) ⟨ke rfl,ke rfl,trivial⟩) ?_
 refine xo rfl (fun _=>FI rfl (vl rfl) (vl rfl) ?hin) ?_;case hin=>unfold LK;omega
 refine xo rfl (fun _=>kc5 (Nd (name:=e.name) (a:=if s.Aj.Aj.Aj.val 2=0 then 7 else 5) (b:=if s.Aj.Aj.Aj.val 2=0 then 256 else 2048) (id:=200+s.Aj.Aj.Aj.Aj.val 3) (to:=901) (key:=1+s.Aj.Aj.Aj.Aj.Aj.val 2) (cB hnm (lO _) (by omega) (by omega) (by omega)) (cC (lO _) (by omega)) (by omega)) rfl rfl rfl rfl rfl rfl) ?_
 refine ay ?_
 refine Cx.C7 0 rfl rfl (An rfl rfl (vl rfl) (VL.le (vl rfl) (Nh)) BR rfl (by exact Nb rfl) rfl) ?_
 refine Cx.nil ⟨by kernel_rfl,?_⟩
 refine BV.done I8 ?_
 refine ac ?_
 refine B3 4 7 rfl ?_
 refine ao ?_
 refine TO.AY 1 rfl rfl rfl (vl rfl) (Va rfl) rfl BE rfl rfl ?_
 refine ao ?_
 refine Tr.drop 0 (Tr.ret (Fin.Bn 1 _ rfl rfl (Fin.CB [_] rfl (AW.cell 0 rfl rfl Be BE rfl (Lr)) ?_ (fun _ _ _ _=>rfl))))
 · exact XI (fun s_=>⟨hv.1,hv.2,⟨by show 1≤1+_;omega,by show 1+_≤12;omega⟩,(XJ hnm).1,(XJ hnm).2⟩)
 refine an ?_ ?_<;>intro h8 q8
 refine ao ?_
 refine TO.Er 2 rfl rfl (by decide) (AQ rfl rfl (by decide) rfl (BD (by omega) (by omega)) ⟨ke rfl,ke rfl,trivial⟩) ?_
 refine ao ?_
 refine TO.C7 0 rfl rfl (An rfl rfl (vl rfl) (Vo rfl) CO rfl (by exact Nb rfl) rfl) ?_
 refine ao ?_
 refine ao ?_
 refine TO.cases 106 rfl (fun h9=> ?_) (fun h9=> ?_)
 have q9:=FX.Gp h9
 refine TO.SG rfl rfl rfl h9 rfl (by decide) (BQ rfl (vl rfl)) (TO.ZR 2 rfl rfl rfl h9 rfl rfl (by decide) (AQ rfl rfl (by decide) rfl (Ji (by omega) (by omega)) ⟨ke rfl,ke rfl,trivial⟩) (TO.SG rfl rfl rfl h9 rfl (by decide) (IE rfl (vl rfl)) ?_))
 refine ao ?_
 refine Ej 0 4 6 7 110 rfl ?_
 refine Tr.cn rfl ?_ ?_<;>intro h10 PZ
 have lP:=s.Aj.Aj.Aj.Aj.B4 (n:=e.ids.length) (by omega)
 obtain ⟨iy,hiy⟩:=at_ (l:=e.ids) (k:=(s.Aj.Aj.Aj.Aj.val e.ids.length).toNat) (by omega)
 refine Tr.rx ?_
 refine ay ?_
 refine Cx.ef 2 rfl rfl (by decide) (AQ rfl rfl (by decide) rfl (BD (by omega) (by omega)) ⟨ke rfl,ke rfl,trivial⟩) (xo rfl (fun _=>AA rfl underlying30 BR (vl rfl) (vl rfl) (by omega) (DC hiy)) ?_)
 refine ay ?_
 refine Cx.nil ⟨by kernel_rfl,?_⟩
 refine BV.done I8 ?_
 refine ac ?_
 refine B3 4 7 rfl ?_
 refine ao ?_
 refine TO.AY 1 rfl rfl rfl (vl rfl) (Va rfl) rfl BE rfl rfl ?_
 refine ao ?_
 refine Tr.drop 0 (Tr.ret (Fin.Bn 1 _ rfl rfl (Fin.CB [_] rfl (AW.cell 0 rfl rfl Be BE rfl (Lr)) ?_ (fun _ _ _ _=>rfl))))
 · (refine A9 ⟨_,_,_,_,Ay⟩ (A2 ?_ (Ab ⟨Lr,Lr,Lr,Lr,Lr,Lr,Lr,AB 15,trivial⟩));exact ⟨hv.1,hv.2,⟨by show 1≤1+_;omega,by show 1+_≤12;omega⟩,CT,BK⟩)
 refine ac ?_
 refine ao ?_
 refine TO.AY 1 rfl rfl rfl (vl rfl) (Va rfl) rfl BE rfl rfl ?_
 refine ao ?_
 refine Tr.drop 0 (Tr.ret (Fin.Bn 1 _ rfl rfl (Fin.CB [_] rfl (AW.cell 0 rfl rfl Be BE rfl (Lr)) ?_ (fun _ _ _ _=>rfl))))
 · (refine A9 ⟨_,_,_,_,Ay⟩ (A2 ?_ (Ab ⟨Lr,Lr,Lr,Lr,Lr,Lr,Lr,AB 15,trivial⟩));exact ⟨hv.1,hv.2,⟨by show 1≤1+_;omega,by show 1+_≤12;omega⟩,CT,BK⟩)
 have q9:=FX.Gp h9
 refine TO.OY rfl rfl rfl (Ce h9) rfl (by decide) (TO.OY rfl rfl rfl (Ce h9) rfl (by decide) (TO.OY rfl rfl rfl (Ce h9) rfl (by decide) ?_))
 refine ao ?_
 refine Ej 0 4 6 7 110 rfl ?_
 refine ac ?_
 refine ao ?_
 refine TO.AY 1 rfl rfl rfl (vl rfl) (Va rfl) rfl BE rfl rfl ?_
 refine ao ?_
 refine Tr.drop 0 (Tr.ret (Fin.Bn 1 _ rfl rfl (Fin.CB [_] rfl (AW.cell 0 rfl rfl Be BE rfl (Lr)) ?_ (fun _ _ _ _=>rfl))))
 · (refine A9 ⟨_,_,_,_,Ay⟩ (A2 ?_ (Ab ⟨Lr,Lr,Lr,Lr,Lr,Lr,Lr,AB 15,trivial⟩));exact ⟨hv.1,hv.2,⟨by show 1≤1+_;omega,by show 1+_≤12;omega⟩,CT,BK⟩)
 refine an ?_ ?_<;>intro h11 Qx
 refine ac ?_
 refine Tr.cond rfl (fun _=> ?_) (fun h=>nomatch h11.symm.trans h)
 refine ao ?_
 refine TO.Er 2 rfl rfl (by decide) (AQ rfl rfl (by decide) rfl (BD (by omega) (by omega)) ⟨ke rfl,ke rfl,trivial⟩) ?_
 refine ao ?_
 refine TO.C7 0 rfl rfl (An rfl rfl (vl rfl) (Vo rfl) CO rfl (by exact Nb rfl) rfl) ?_
 refine ao ?_
 refine B3 4 7 rfl ?_
 refine ao ?_
 refine TO.AY 1 rfl rfl rfl (vl rfl) (Va rfl) rfl BE rfl rfl ?_
 refine ao ?_
 refine Tr.drop 0 (Tr.ret (Fin.Bn 1 _ rfl rfl (Fin.CB [_] rfl (AW.cell 0 rfl rfl Be BE rfl (Lr)) ?_ (fun _ _ _ _=>rfl))))
 · (refine A9 ⟨_,_,_,_,Ay⟩ (A2 ?_ (Ab ⟨Lr,Lr,Lr,Lr,Lr,Lr,Lr,AB 15,trivial⟩));exact ⟨hv.1,hv.2,⟨by show 1≤1+_;omega,by show 1+_≤12;omega⟩,CT,BK⟩)
 refine an ?_ ?_<;>intro h12 Sb
 refine ao ?_
 refine TO.Er 2 rfl rfl (by decide) (AQ rfl rfl (by decide) rfl (BD (by omega) (by omega)) ⟨ke rfl,ke rfl,trivial⟩) ?_
 refine ao ?_
 refine TO.C7 0 rfl rfl (An rfl rfl (vl rfl) (Vo rfl) CO rfl (by exact Nb rfl) rfl) ?_
 refine ao ?_
 refine B3 4 7 rfl ?_
 refine ao ?_
 refine TO.AY 1 rfl rfl rfl (vl rfl) (Va rfl) rfl BE rfl rfl ?_
 refine ao ?_
 refine Tr.drop 0 (Tr.ret (Fin.Bn 1 _ rfl rfl (Fin.CB [_] rfl (AW.cell 0 rfl rfl Be BE rfl (Lr)) ?_ (fun _ _ _ _=>rfl))))
 · (refine A9 ⟨_,_,_,_,Ay⟩ (A2 ?_ (Ab ⟨Lr,Lr,Lr,Lr,Lr,Lr,Lr,AB 15,trivial⟩));exact ⟨hv.1,hv.2,⟨by show 1≤1+_;omega,by show 1+_≤12;omega⟩,CT,BK⟩)
 refine ac ?_
 refine Ej 0 4 7 24 129 rfl ?_
 refine Tr.cn rfl ?_ ?_<;>intro H8 Tp
 refine ac ?_
 refine Tr.cond rfl (fun _=> ?_) (fun h=>nomatch H8.symm.trans h)
 refine ao ?_
 refine TO.Er 2 rfl rfl (by decide) (AQ rfl rfl (by decide) rfl (BD (by omega) (by omega)) ⟨ke rfl,ke rfl,trivial⟩) ?_
 refine ao ?_
 refine TO.C7 0 rfl rfl (An rfl rfl (vl rfl) (Vo rfl) CO rfl (by exact Nb rfl) rfl) ?_
 refine ao ?_
 refine ao ?_
 refine TO.AY 1 rfl rfl rfl (vl rfl) (Va rfl) rfl BE rfl rfl ?_
 refine ao ?_
 refine Tr.drop 0 (Tr.ret (Fin.Bn 1 _ rfl rfl (Fin.CB [_] rfl (AW.cell 0 rfl rfl Be BE rfl (Lr)) ?_ (fun _ _ _ _=>rfl))))
 · (refine A9 ⟨_,_,_,_,Ay⟩ (A2 ?_ (Ab ⟨Lr,Lr,Lr,Lr,Lr,Lr,Lr,AB 15,trivial⟩));exact ⟨hv.1,hv.2,⟨by show 1≤1+_;omega,by show 1+_≤12;omega⟩,CT,BK⟩)
 refine an ?_ ?_<;>intro Jt W9
 refine ao ?_
 refine TO.Er 2 rfl rfl (by decide) (AQ rfl rfl (by decide) rfl (BD (by omega) (by omega)) ⟨ke rfl,ke rfl,trivial⟩) ?_
 refine ao ?_
 refine TO.C7 0 rfl rfl (An rfl rfl (vl rfl) (Vo rfl) CO rfl (by exact Nb rfl) rfl) ?_
 refine ao ?_
 refine ao ?_
 refine TO.AY 1 rfl rfl rfl (vl rfl) (Va rfl) rfl BE rfl rfl ?_
 refine ao ?_
 refine Tr.drop 0 (Tr.ret (Fin.Bn 1 _ rfl rfl (Fin.CB [_] rfl (AW.cell 0 rfl rfl Be BE rfl (Lr)) ?_ (fun _ _ _ _=>rfl))))
 · (refine A9 ⟨_,_,_,_,Ay⟩ (A2 ?_ (Ab ⟨Lr,Lr,Lr,Lr,Lr,Lr,Lr,AB 15,trivial⟩));exact ⟨hv.1,hv.2,⟨by show 1≤1+_;omega,by show 1+_≤12;omega⟩,CT,BK⟩)
 refine an ?_ ?_<;>intro N7 YG
 refine ac ?_
 refine Tr.cond rfl (fun _=> ?_) (fun h=>nomatch N7.symm.trans h)
 refine ao ?_
 refine TO.Er 2 rfl rfl (by decide) (AQ rfl rfl (by decide) rfl (BD (by omega) (by omega)) ⟨ke rfl,ke rfl,trivial⟩) (tp rfl (AD rfl HQ (vl rfl)) (TO.C7 0 rfl rfl (An rfl rfl (vl rfl) (Vo rfl) CO rfl (by exact Nb rfl) rfl) ?_))
 refine ao ?_
 refine ao ?_
 refine TO.AY 1 rfl rfl rfl (vl rfl) (Va rfl) rfl BE rfl rfl ?_
 refine ao ?_
 refine Tr.drop 0 (Tr.ret (Fin.Bn 1 _ rfl rfl (Fin.CB [_] rfl (AW.cell 0 rfl rfl Be BE rfl (Lr)) ?_ (fun _ _ _ _=>rfl))))
 · (refine A9 ⟨_,_,_,_,Ay⟩ (A2 ?_ (Ab ⟨Lr,Lr,Lr,Lr,Lr,Lr,Lr,AB 15,trivial⟩));exact ⟨hv.1,hv.2,⟨by show 1≤1+_;omega,by show 1+_≤12;omega⟩,CT,BK⟩)
 refine an ?_ ?_<;>intro h16 Z7
 refine ao ?_
 refine TO.Er 2 rfl rfl (by decide) (AQ rfl rfl (by decide) rfl (BD (by omega) (by omega)) ⟨ke rfl,ke rfl,trivial⟩) (tp rfl (AD rfl HQ (vl rfl)) (TO.C7 0 rfl rfl (An rfl rfl (vl rfl) (Vo rfl) CO rfl (by exact Nb rfl) rfl) ?_))
 refine ao ?_
 refine B3 4 7 rfl ?_
 refine ao ?_
 refine TO.AY 1 rfl rfl rfl (vl rfl) (Va rfl) rfl BE rfl rfl ?_
 refine ao ?_
 refine Tr.drop 0 (Tr.ret (Fin.Bn 1 _ rfl rfl (Fin.CB [_] rfl (AW.cell 0 rfl rfl Be BE rfl (Lr)) ?_ (fun _ _ _ _=>rfl))))
 · (refine A9 ⟨_,_,_,_,Ay⟩ (A2 ?_ (Ab ⟨Lr,Lr,Lr,Lr,Lr,Lr,Lr,AB 15,trivial⟩));exact ⟨hv.1,hv.2,⟨by show 1≤1+_;omega,by show 1+_≤12;omega⟩,CT,BK⟩)
 refine ac ?_
 refine ao ?_
 refine TO.AY 1 rfl rfl rfl (vl rfl) (Va rfl) rfl BE rfl rfl ?_
 refine ao ?_
 refine Tr.drop 0 (Tr.ret (Fin.Bn 1 _ rfl rfl (Fin.CB [_] rfl (AW.cell 0 rfl rfl Be BE rfl (Lr)) ?_ (fun _ _ _ _=>rfl))))
 · (refine A9 ⟨_,_,_,_,Ay⟩ (A2 ?_ (Ab ⟨Lr,Lr,Lr,Lr,Lr,Lr,Lr,AB 15,trivial⟩));exact ⟨hv.1,hv.2,⟨by show 1≤1+_;omega,by show 1+_≤12;omega⟩,CT,BK⟩)
structure A5.sz (e:A5) (n:Nat):Prop where
 name:e.name.length≤maxLen
 AJ:e.AJ.length≤n
 anchors:e.anchors.length≤n
 hashes:e.hashes.length≤n
 I0:e.ids.length≤n
 ids:∀x∈e.ids,x.fits∧x.small
theorem A5.sz.fits {e:A5} {n:Nat} (h:e.sz n):e.fits:=⟨h.name,fun x hx=>(h.ids x hx).1⟩
theorem A5.sz.small {e:A5} {n:Nat} (h:e.sz n) (hn:n≤1000000):e.small:=⟨by have:=h.AJ;omega,by have:=h.anchors;omega,by have:=h.hashes;omega,by have:=h.I0;omega,fun x hx=>(h.ids x hx).2⟩
theorem A5.sz.le {e:A5} {n m:Nat} (h:e.sz n) (hn:n≤m):e.sz m:=⟨h.name,Nat.le_trans h.AJ hn,Nat.le_trans h.anchors hn,Nat.le_trans h.hashes hn,Nat.le_trans h.I0 hn,h.ids⟩
theorem aF {i:Nat} {e:A5} (h:Sf i e):e.sz 5:=by
 have hs:=MN _ (Gj h)
 have h1:=On h;have h2:=Ng h
 obtain ⟨s,hs1,K1⟩:=h.ids
 exact ⟨h1.name,hs.2,by rw [h.anchors];simp,by rw [h.hashes];simp,by rw [K1];simp,fun x hx=>⟨h1.ids x hx,h2.ids x hx⟩⟩
theorem MP {α:Type} {l:List α} {a:α} {i:Nat}:(l.take i++[a]++l.drop i).length≤l.length+1:=by simp [List.length_take,List.length_drop];omega
theorem MQ {α:Type} {l:List α} {i:Nat}:(l.eraseIdx i).length≤l.length:=by rw [List.length_eraseIdx];split<;>omega
theorem GJ:Ay.fits∧Ay.small:=⟨CT,BK⟩
theorem aG {P:Du→Prop} {l:List Du} {x:Du} {i:Nat} (h:∀y∈l,P y) (hx:P x):∀y∈l.take i++[x]++l.drop i,P y:=by
 intro y hy
 simp only [List.mem_append,List.mem_cons,List.not_mem_nil,or_false] at hy
 rcases hy with (hy|rfl)|hy
 · exact h y (List.mem_of_mem_take hy)
 · exact hx
 · exact h y (List.mem_of_mem_drop hy)
theorem T7 {e:A5} {c:BA} {x:A5} {b:BA} {n:Nat} (hc:Ec c) (h:A6 e c= .ok (x,b)) (hs:e.sz n) (hi:c.Bj.fits∧c.Bj.small):x.sz (n+1)∧b.Bj.fits∧b.Bj.small:=by
 have h1:=hs.AJ;have h2:=hs.anchors;have h3:=hs.hashes;have h4:=hs.I0
 rcases Ty hc.1 with hk|hk|hk|hk|hk|hk|hk|hk|hk|hk|hk|hk
 · rw [MC hk] at h;(repeat' (split at h))<;>first|(cases h;done)|(injection h with h;obtain ⟨rfl,rfl⟩:=Prod.mk.inj h;exact ⟨⟨hs.name,Nat.le_trans MP (by omega),Nat.le_trans h2 (by omega),Nat.le_trans h3 (by omega),Nat.le_trans h4 (by omega),hs.ids⟩,GJ⟩)
 · rw [MD hk] at h;(repeat' (split at h))<;>first|(cases h;done)|(injection h with h;obtain ⟨rfl,rfl⟩:=Prod.mk.inj h;exact ⟨⟨hs.name,Nat.le_trans MQ (by omega),Nat.le_trans h2 (by omega),Nat.le_trans h3 (by omega),Nat.le_trans h4 (by omega),hs.ids⟩,GJ⟩)
 · rw [ME hk] at h;(repeat' (split at h))<;>first|(cases h;done)|(injection h with h;obtain ⟨rfl,rfl⟩:=Prod.mk.inj h;exact ⟨⟨hs.name,Nat.le_trans h1 (by omega),Nat.le_trans h2 (by omega),Nat.le_trans h3 (by omega),Nat.le_trans h4 (by omega),hs.ids⟩,GJ⟩)
 · rw [MF hk] at h;(repeat' (split at h))<;>first|(cases h;done)|(injection h with h;obtain ⟨rfl,rfl⟩:=Prod.mk.inj h;exact ⟨⟨hs.name,Nat.le_trans h1 (by omega),Nat.le_trans h2 (by omega),Nat.le_trans h3 (by omega),Nat.le_trans h4 (by omega),hs.ids⟩,GJ⟩)
 · rw [MG hk] at h;(repeat' (split at h))<;>first|(cases h;done)|(injection h with h;obtain ⟨rfl,rfl⟩:=Prod.mk.inj h;exact ⟨⟨hs.name,Nat.le_trans h1 (by omega),Nat.le_trans h2 (by omega),Nat.le_trans h3 (by omega),Nat.le_trans MP (by omega),aG hs.ids hi⟩,GJ⟩)
 · rw [MH hk] at h;(repeat' (split at h))<;>first|(cases h;done)|(injection h with h;obtain ⟨rfl,rfl⟩:=Prod.mk.inj h;exact ⟨⟨hs.name,Nat.le_trans h1 (by omega),Nat.le_trans h2 (by omega),Nat.le_trans h3 (by omega),Nat.le_trans MQ (by omega),fun y hy=>hs.ids y (List.mem_of_mem_eraseIdx hy)⟩,hs.ids _ (List.mem_of_getElem? (by assumption))⟩)
 · rw [MI hk] at h;(repeat' (split at h))<;>first|(cases h;done)|(injection h with h;obtain ⟨rfl,rfl⟩:=Prod.mk.inj h;exact ⟨⟨hs.name,Nat.le_trans h1 (by omega),Nat.le_trans MP (by omega),Nat.le_trans h3 (by omega),Nat.le_trans h4 (by omega),hs.ids⟩,GJ⟩)
 · rw [MJ hk] at h;(repeat' (split at h))<;>first|(cases h;done)|(injection h with h;obtain ⟨rfl,rfl⟩:=Prod.mk.inj h;exact ⟨⟨hs.name,Nat.le_trans h1 (by omega),Nat.le_trans MQ (by omega),Nat.le_trans h3 (by omega),Nat.le_trans h4 (by omega),hs.ids⟩,GJ⟩)
 · rw [MK hk] at h;(repeat' (split at h))<;>first|(cases h;done)|(injection h with h;obtain ⟨rfl,rfl⟩:=Prod.mk.inj h;exact ⟨⟨hs.name,Nat.le_trans h1 (by omega),Nat.le_trans h2 (by omega),Nat.le_trans MP (by omega),Nat.le_trans h4 (by omega),hs.ids⟩,GJ⟩)
 · rw [KO hk] at h;(repeat' (split at h))<;>first|(cases h;done)|(injection h with h;obtain ⟨rfl,rfl⟩:=Prod.mk.inj h;exact ⟨⟨hs.name,Nat.le_trans h1 (by omega),Nat.le_trans h2 (by omega),Nat.le_trans MQ (by omega),Nat.le_trans h4 (by omega),hs.ids⟩,GJ⟩)
 · rw [KP hk] at h;(repeat' (split at h))<;>first|(cases h;done)|(injection h with h;obtain ⟨rfl,rfl⟩:=Prod.mk.inj h;exact ⟨⟨hs.name,Nat.le_trans h1 (by omega),Nat.le_trans h2 (by omega),Nat.le_trans h3 (by omega),Nat.le_trans h4 (by omega),hs.ids⟩,GJ⟩)
 · rw [KQ hk] at h;(repeat' (split at h))<;>first|(cases h;done)|(injection h with h;obtain ⟨rfl,rfl⟩:=Prod.mk.inj h;exact ⟨⟨hs.name,Nat.le_trans h1 (by omega),Nat.le_trans h2 (by omega),Nat.le_trans h3 (by omega),Nat.le_trans h4 (by omega),hs.ids⟩,GJ⟩)
theorem aH {e:A5} {c:BA} {x:A5} {b:BA} {n:Nat} (h:CR e c=(x,b,0)) (hs:e.sz n) (hi:c.Bj.fits∧c.Bj.small):x.sz (n+1)∧b.Bj.fits∧b.Bj.small:=by
 obtain ⟨_,h2,h3,_⟩:=U0 h
 exact T7 h2 h3 hs hi
def aI (n:Nat):Bool:=decide ((97≤n∧n≤122)∨(65≤n∧n≤90)∨(48≤n∧n≤57)∨n=45∨n=95∨n=46)
theorem Si:∀n∈List.range 256,Cl [45,95,46] (UInt8.ofNat n)=aI n:=by decide+kernel
theorem Oo (c:UInt8):Cl [45,95,46] c=aI c.toNat:=by
 have h:=Si c.toNat (List.mem_range.2 c.toNat_lt)
 rw [UInt8.ofNat_toNat] at h;exact h
theorem XK {s:List UInt8}  :A_ prog 124 [str s] (bool (Hv s)):=by
 refine fo func124 rfl ⟨rfl,rfl⟩ fun M0 w0=> ?_
 refine ac ?_
 refine ag ?_ ?_<;>intro h1 q1
 refine a3 ?_
 · refine bool_eq ?_;unfold Hv;rw [Bool.and_eq_false_iff.2 (.inr (by simp;omega))]
 refine an ?_ ?_<;>intro h2 q2
 refine a2 ?_
 · refine bool_eq ?_;unfold Hv;rw [Bool.and_eq_false_iff.2 (.inr (by simp;omega))]
 refine a2 ?_
 refine Tr.block (Tr.BF [(0,_)] ⟨ke rfl,trivial⟩ (fun k:Nat=>[(3,int ((k:Nat):Int))]) (fun k:Nat=>k≤(s).length∧(∀j y,j<k→s[j]? =some y→(!Cl [45,95,46] y)=false)) (fun k:Nat=>(s).length-k) 0 (⟨Nat.zero_le _,fun j y hj=>absurd hj (by omega)⟩) ⟨ke rfl,trivial⟩ ?_)
 rintro k ⟨BN,AL⟩
 refine an ?_ ?_<;>intro h3 q3
 have Ac:k<(s).length:=AU h3
 obtain ⟨c,Aa⟩:=at_ Ac
 · repeat' first|(refine bool_eq ?_;unfold Hv;rw [HW (p:=Cl [45,95,46]) Aa (by rw [Oo];unfold aI;simp;omega)];rfl)|(exact Fin.AM (k+1) ⟨⟨Ac,DK (p:=fun c=> !Cl [45,95,46] c) Aa (by rw [Oo];unfold aI;simp;omega) AL⟩,by omega⟩ ⟨⟨_,rfl,AK k⟩,ke rfl,trivial⟩)|refine co rfl (PN rfl underlying9 (vl rfl) (vl rfl) (by omega) (PO (by assumption))) ?_|refine ac ?_|(refine Tr.cn rfl ?_ ?_<;>intro h q)|(refine Ch.cg rfl rfl rfl ?_ ?_<;>intro h q)
 have A4:k=(s).length:=by have:=AV h3;omega
 subst A4
 refine a3 ?_
 · refine bool_eq ?_;unfold Hv;rw [E4 AL,Bool.true_and];symm;rw [decide_eq_true_eq];omega
theorem C2 {a b:Int}  :A_ prog 218 [int a,int b] (agg [int a,int b]):=by
 refine fo func218 rfl ⟨rfl,rfl⟩ fun M0 w0=>(Tr.seq (Tr.Aq ?_))
 refine Tl rfl rfl rfl rfl z24 De (fun b1=> ?_)
 refine ap ?_
 refine ap ?_
 refine Tr.ret (Fin.CU rfl (AW.cell 0 rfl rfl CM DE rfl (Lr)) ?_)
 · exact Lr
theorem Cc {a l m x1 y1 x2 y2 x3 y3 x4 y4:Int} {s:List UInt8}  :A_ prog 219 [int a,str s,agg [int x1,int y1],agg [int x2,int y2],agg [int x3,int y3],agg [int x4,int y4],int l,int m] (agg Cq):=by
 refine A_.of func219 rfl rfl (by exact Nb rfl) fun M0 w0=> ?_
 refine Tr.seq (Tr.Aq ?_)
 iterate 4 refine tp rfl (Bl rfl (Va rfl)) ?_
 refine Tl rfl rfl rfl rfl R8 J8 (fun b1=> ?_)
 refine TO.nil (Fin.go (Tr.seq (Tr.Aq (tm rfl (tm rfl ?_)))))
 iterate 4 refine tp rfl (AH rfl CM DE (vl rfl) rfl rfl) ?_
 refine tm rfl (tm rfl (tp rfl (Al (rows:=[(0,[_]),(1,[_]),(2,_),(3,_),(4,_),(5,_),(6,[_]),(7,[_])]) rfl Tf J8 ⟨⟨rfl,(Vo rfl)⟩,⟨⟨rfl,(Vo rfl)⟩,⟨⟨rfl,(Va rfl)⟩,⟨⟨rfl,(Va rfl)⟩,⟨⟨rfl,(Va rfl)⟩,⟨⟨rfl,(Va rfl)⟩,⟨⟨rfl,(Vo rfl)⟩,⟨⟨rfl,(Vo rfl)⟩,trivial⟩⟩⟩⟩⟩⟩⟩⟩ rfl) (TO.re 25 (agg Cq) rfl (Cm rfl) (TO.AY 0 rfl rfl rfl (vl rfl) (Va rfl) rfl Fu rfl rfl (TO.nil (Fin.go (Es 16 rfl (Tr.ret (Fin.CU rfl (AW.cell 0 rfl rfl IQ Fu rfl (Lr)) ?_)))))))))
 · exact Lr
theorem Sj   :A_ prog 179 [] (slice 12 C1):=by
 refine fo func179 rfl ⟨rfl,rfl⟩ fun M0 w0=> ?_
 refine ac ?_
 refine Tr.seq (Tr.Aq (tp rfl (C8 (C2) rfl rfl rfl) (tp rfl (C8 (C2) rfl rfl rfl) (tp rfl (Al (rows:=[]) rfl R4 De trivial rfl) ?_))))
 refine Tl rfl rfl rfl rfl z24 De (fun b1=> ?_)
 refine Tl rfl rfl rfl rfl z24 De (fun b2=> ?_)
 refine Tl rfl rfl rfl rfl z24 De (fun b3=> ?_)
 refine sf 2 1 ⟨rfl,rfl,rfl⟩ rfl rfl rfl rfl ?_
 refine sf 1 2 ⟨rfl,rfl,rfl⟩ rfl rfl rfl rfl ?_
 refine sf 0 3 ⟨rfl,rfl,rfl⟩ rfl rfl rfl rfl ?_
 refine ao ?_
 refine Tr.seq (Tr.Aq (tp rfl (C8 (C2) rfl rfl rfl) (tp rfl (C8 (C2) rfl rfl rfl) ?_)))
 refine Tl rfl rfl rfl rfl z24 De (fun b4=> ?_)
 refine Tl rfl rfl rfl rfl z24 De (fun b5=> ?_)
 refine sf 1 4 ⟨rfl,rfl,rfl⟩ rfl rfl rfl rfl ?_
 refine sf 0 5 ⟨rfl,rfl,rfl⟩ rfl rfl rfl rfl ?_
 refine ao ?_
 refine Ej 1 2 3 4 5 rfl (Tr.seq (Tr.Aq (tp rfl (C8 (C2) rfl rfl rfl) (tp rfl (C8 (C2) rfl rfl rfl) (tp rfl (C8 (C2) rfl rfl rfl) ?_)))))
 refine Tl rfl rfl rfl rfl z24 De (fun b6=> ?_)
 refine Tl rfl rfl rfl rfl z24 De (fun b7=> ?_)
 refine Tl rfl rfl rfl rfl z24 De (fun b8=> ?_)
 refine sf 2 6 ⟨rfl,rfl,rfl⟩ rfl rfl rfl rfl ?_
 refine sf 1 7 ⟨rfl,rfl,rfl⟩ rfl rfl rfl rfl ?_
 refine sf 0 8 ⟨rfl,rfl,rfl⟩ rfl rfl rfl rfl ?_
 refine ao ?_
 refine PB 1 2 3 4 5 6 7 8 rfl (Tr.seq (Tr.Aq ?_))
 iterate 4 refine tp rfl (C8 (C2) rfl rfl rfl) ?_
 refine Tl rfl rfl rfl rfl z24 De (fun b9=> ?_)
 refine Tl rfl rfl rfl rfl z24 De (fun b10=> ?_)
 refine Tl rfl rfl rfl rfl z24 De (fun b11=> ?_)
 refine Tl rfl rfl rfl rfl z24 De (fun b12=> ?_)
 refine sf 3 9 ⟨rfl,rfl,rfl⟩ rfl rfl rfl rfl ?_
 refine sf 2 10 ⟨rfl,rfl,rfl⟩ rfl rfl rfl rfl ?_
 refine sf 1 11 ⟨rfl,rfl,rfl⟩ rfl rfl rfl rfl ?_
 refine sf 0 12 ⟨rfl,rfl,rfl⟩ rfl rfl rfl rfl ?_
 refine ao ?_
 refine oX 1 2 3 4 5 6 7 8 9 10 11 12 rfl (Tr.seq (Tr.Aq (tp rfl (C8 (C2) rfl rfl rfl) (tp rfl (C8 (C2) rfl rfl rfl) ?_))))
 refine Tl rfl rfl rfl rfl z24 De (fun b13=> ?_)
 refine Tl rfl rfl rfl rfl z24 De (fun b14=> ?_)
 refine sf 1 13 ⟨rfl,rfl,rfl⟩ rfl rfl rfl rfl ?_
 refine sf 0 14 ⟨rfl,rfl,rfl⟩ rfl rfl rfl rfl ?_
 refine ao ?_
 refine Mx 1 2 3 4 5 6 7 8 9 10 11 12 13 14 rfl ?_
 refine ac ?_
 refine co rfl (Ae rfl (Cc) ⟨ke rfl,ke rfl,ke rfl,ke rfl,ke rfl,ke rfl,ke rfl,ke rfl,trivial⟩) ?_
 refine ac ?_
 refine co rfl (Ae rfl (Cc) ⟨ke rfl,ke rfl,ke rfl,ke rfl,ke rfl,ke rfl,ke rfl,ke rfl,trivial⟩) ?_
 refine ac ?_
 refine co rfl (Ae rfl (Cc) ⟨ke rfl,ke rfl,ke rfl,ke rfl,ke rfl,ke rfl,ke rfl,ke rfl,trivial⟩) (co rfl (C8 (C2) rfl rfl rfl) (co rfl (C8 (C2) rfl rfl rfl) ?_))
 refine ac ?_
 refine co rfl (Ae rfl (Cc) ⟨ke rfl,ke rfl,ke rfl,ke rfl,ke rfl,ke rfl,ke rfl,ke rfl,trivial⟩) (co rfl (C8 (C2) rfl rfl rfl) ?_)
 refine ac ?_
 refine co rfl (Ae rfl (Cc) ⟨ke rfl,ke rfl,ke rfl,ke rfl,ke rfl,ke rfl,ke rfl,ke rfl,trivial⟩) ?_
 refine ac ?_
 refine co rfl (Ae rfl (Cc) ⟨ke rfl,ke rfl,ke rfl,ke rfl,ke rfl,ke rfl,ke rfl,ke rfl,trivial⟩) (co rfl (C8 (C2) rfl rfl rfl) ?_)
 refine ac ?_
 refine co rfl (Ae rfl (Cc) ⟨ke rfl,ke rfl,ke rfl,ke rfl,ke rfl,ke rfl,ke rfl,ke rfl,trivial⟩) ?_
 refine ac ?_
 refine co rfl (Ae rfl (Cc) ⟨ke rfl,ke rfl,ke rfl,ke rfl,ke rfl,ke rfl,ke rfl,ke rfl,trivial⟩) (co rfl (AH rfl CM DE (vl rfl) rfl rfl) (co rfl (C8 (C2) rfl rfl rfl) (co rfl (C8 (C2) rfl rfl rfl) (co rfl (AH rfl CM DE (vl rfl) rfl rfl) (co rfl (Ae rfl (Cc) ⟨ke rfl,ke rfl,ke rfl,ke rfl,ke rfl,ke rfl,ke rfl,ke rfl,trivial⟩) ?_)))))
 refine ac ?_
 refine co rfl (Ae rfl (Cc) ⟨ke rfl,ke rfl,ke rfl,ke rfl,ke rfl,ke rfl,ke rfl,ke rfl,trivial⟩) (co rfl (C8 (C2) rfl rfl rfl) (co rfl (C8 (C2) rfl rfl rfl) ?_))
 refine ac ?_
 refine co rfl (Ae rfl (Cc) ⟨ke rfl,ke rfl,ke rfl,ke rfl,ke rfl,ke rfl,ke rfl,ke rfl,trivial⟩) ?_
 refine ac ?_
 refine co rfl (Ae rfl (Cc) ⟨ke rfl,ke rfl,ke rfl,ke rfl,ke rfl,ke rfl,ke rfl,ke rfl,trivial⟩) ?_
 refine ac ?_
 refine co rfl (Ae rfl (Cc) ⟨ke rfl,ke rfl,ke rfl,ke rfl,ke rfl,ke rfl,ke rfl,ke rfl,trivial⟩) ?_
 refine ac ?_
 refine co rfl (Ae rfl (Cc) ⟨ke rfl,ke rfl,ke rfl,ke rfl,ke rfl,ke rfl,ke rfl,ke rfl,trivial⟩) ?_
 refine ac ?_
 refine co rfl (Ae rfl (Cc) ⟨ke rfl,ke rfl,ke rfl,ke rfl,ke rfl,ke rfl,ke rfl,ke rfl,trivial⟩) (co rfl (C8 (C2) rfl rfl rfl) ?_)
 refine ac ?_
 refine co rfl (Ae rfl (Cc) ⟨ke rfl,ke rfl,ke rfl,ke rfl,ke rfl,ke rfl,ke rfl,ke rfl,trivial⟩) (co rfl (AG (xs:=[.tmp 33,.tmp 38,.tmp 43,.tmp 48,.tmp 53,.tmp 58,.tmp 63,.tmp 68,.tmp 73,.tmp 78,.tmp 83,.tmp 88,.tmp 93,.tmp 98,.tmp 103,.tmp 108]) (rows:=C1) rfl rfl underlying205 Fu R8 rfl (by decide) ⟨⟨(by exact rfl),VL.le (vl rfl) (AZ _)⟩,⟨⟨(by exact rfl),VL.le (vl rfl) (AZ _)⟩,⟨⟨(by exact rfl),VL.le (vl rfl) (AZ _)⟩,⟨⟨(by exact rfl),VL.le (vl rfl) (AZ _)⟩,⟨⟨(by exact rfl),VL.le (vl rfl) (AZ _)⟩,⟨⟨(by exact rfl),VL.le (vl rfl) (AZ _)⟩,⟨⟨(by exact rfl),VL.le (vl rfl) (AZ _)⟩,⟨⟨(by exact rfl),VL.le (vl rfl) (AZ _)⟩,⟨⟨(by exact rfl),VL.le (vl rfl) (AZ _)⟩,⟨⟨(by exact rfl),VL.le (vl rfl) (AZ _)⟩,⟨⟨(by exact rfl),VL.le (vl rfl) (AZ _)⟩,⟨⟨(by exact rfl),VL.le (vl rfl) (AZ _)⟩,⟨⟨(by exact rfl),VL.le (vl rfl) (AZ _)⟩,⟨⟨(by exact rfl),VL.le (vl rfl) (AZ _)⟩,⟨⟨(by exact rfl),VL.le (vl rfl) (AZ _)⟩,⟨⟨(by exact rfl),VL.le (vl rfl) (AZ _)⟩,trivial⟩⟩⟩⟩⟩⟩⟩⟩⟩⟩⟩⟩⟩⟩⟩⟩ (by decide)) ?_)
 refine ac ?_
 refine Es 0 rfl ?_
 refine ac ?_
 · exact Au _ _
theorem U8 {code:Int}  :A_ prog 125 [int code] (Fa [agg Cq,int (if 1≤code∧code≤16 then 0 else 8)]):=by
 refine fo func125 rfl ⟨rfl,rfl⟩ fun M0 w0=>(Tr.seq (Tr.Aq ?_))
 refine Tl rfl rfl rfl rfl R8 J8 (fun b1=> ?_)
 refine ap ?_
 refine ag ?_ ?_<;>intro h1 q1
 refine ac ?_
 refine Tr.cond rfl (fun _=> ?_) (fun h=>nomatch h)
 refine Tr.seq (Tr.Aq (tp rfl (Al (rows:=[]) rfl Tf J8 trivial rfl) (TO.AY 0 rfl rfl rfl (vl rfl) (Va rfl) rfl Fu rfl rfl (tm rfl (TO.nil (Fin.go (Tr.ret (Fin.AF (Fin.C4 rfl (AW.cell 0 rfl rfl IQ Fu rfl (Lr)) (AW.tmp rfl (Lr)) ?_)))))))))
 · exact BW ⟨Cm rfl,int_eq (by rw [if_neg];simp_all;omega),trivial⟩
 refine an ?_ ?_<;>intro h2 q2
 refine ap ?_
 refine Tr.ret (Fin.AF (Fin.C4 rfl (AW.cell 0 rfl rfl IQ Fu rfl (Lr)) (AW.tmp rfl (Lr)) ?_))
 · exact BW ⟨Cm rfl,int_eq (by rw [if_neg];simp_all),trivial⟩
 have hin:1≤code∧code≤16:=by omega
 refine ac ?_
 refine Tr.seq (Tr.Aq (tp rfl (Qv (Sj) rfl) ?_))
 refine ap ?_
 refine tp rfl (AA rfl underlying205 Fu (vl rfl) (vl rfl) (by omega) (Q0 (by omega))) ?_
 refine ap ?_
 refine B3 2 3 rfl (Tr.ret (Fin.C4 rfl (AW.cell 0 rfl rfl IQ Fu rfl (Lr)) (AW.tmp rfl (Lr)) ?_))
 · exact BW ⟨Lr,int_eq (by rw [if_pos hin]),trivial⟩
theorem XL {l:List Int} {v:Int}  :A_ prog 112 [ints l,int v] (bool (l.any fun x=>v==x)):=by
 refine fo func112 rfl ⟨rfl,rfl⟩ fun M0 w0=>(Tr.Cr 0 rfl fun Dj=> ?_)
 refine a2 ?_
 refine Tr.block (Tr.BF [(0,_),(1,_)] (Nu rfl) (fun k:Nat=>[(5,int ((k:Nat):Int))]) (fun k:Nat=>k≤(l).length∧((l.take k).any (fun x=>v==x)=false)) (fun k:Nat=>(l).length-k) 0 (⟨Nat.zero_le _,rfl⟩) ⟨ke rfl,trivial⟩ ?_)
 rintro k ⟨BN,AL⟩
 refine an ?_ ?_<;>intro h1 q1
 have Ac:k<(l).length:=AU h1
 obtain ⟨x,Aa⟩:=at_ Ac
 · repeat' first|(refine bool_eq ?_;symm;rw [List.any_eq_true];exact ⟨_,List.mem_of_getElem? Aa,by simp_all⟩)|(exact Fin.AM (k+1) ⟨⟨Ac,(by rw [List.take_add_one,Aa,List.any_append,AL];simp;omega)⟩,by omega⟩ ⟨⟨_,rfl,AK k⟩,ke rfl,ke rfl,trivial⟩)|refine co rfl (AA rfl underlying22 CO (vl rfl) (vl rfl) (by omega) (by exact AX (by assumption))) ?_|refine ac ?_|(refine Tr.cn rfl ?_ ?_<;>intro h q)
 have A4:k=(l).length:=by have:=AV h1;omega
 subst A4
 refine a3 ?_
 · refine bool_eq ?_;rw [List.take_length] at AL;exact AL.symm
theorem BS {l:List (List UInt8)}:DA l=true↔(∀j,j<l.length→nameAt l j=true)∧l.length≤8:=by unfold DA;rw [Bool.and_eq_true,Bo,decide_eq_true_eq]
theorem I4 {l:List (List UInt8)} {k:Nat} {s:List UInt8} (hs:l[k]? =some s) (h1:named s=true) (h2:0<k→∃y,l[k-1]? =some y∧Lib.compareBytes y s= -1):nameAt l k=true:=by
 unfold nameAt;rw [hs];simp only [Option.getD_some,h1,Bool.true_and,Bool.or_eq_true,decide_eq_true_eq]
 rcases Nat.eq_zero_or_pos k with h0|h0
 · exact .inl h0
 · obtain ⟨y,hy,hc⟩:=h2 h0;rw [hy];exact .inr hc
theorem Sk {c:FF}  :A_ prog 159 [agg (CZ c)] (int (if B9 c then 0 else 9)):=by
 refine fo func159 rfl ⟨rfl,rfl⟩ fun M0 w0=> ?_
 refine ac ?_
 refine ag ?_ ?_<;>intro h1 q1
 refine ac ?_
 refine B3 1 39 rfl ?_
 refine a2 ?_
 · refine int_eq (if_neg (fun hv=> ?_)).symm;have vf:=Dl hv;obtain ⟨GM,GN,ER,ES,C3,CF,GO,GP,Bk,ET,EU,EV,EW,GQ,GR,GS,GU,GV,GW⟩:=vf;have GX:=(BS.1 C3).2;unfold En at CF Bk;omega
 refine ag ?_ ?_<;>intro h2 q2
 refine ac ?_
 refine B3 1 39 rfl ?_
 refine a2 ?_
 · refine int_eq (if_neg (fun hv=> ?_)).symm;have vf:=Dl hv;obtain ⟨GM,GN,ER,ES,C3,CF,GO,GP,Bk,ET,EU,EV,EW,GQ,GR,GS,GU,GV,GW⟩:=vf;have GX:=(BS.1 C3).2;unfold En at CF Bk;omega
 refine ac ?_
 refine cy h2 rfl (B1 (F0) rfl rfl) ?_
 refine ag ?_ ?_<;>intro h3 q3
 refine ac ?_
 refine B3 1 39 rfl ?_
 refine a2 ?_
 · refine int_eq (if_neg (fun hv=> ?_)).symm;have vf:=Dl hv;obtain ⟨GM,GN,ER,ES,C3,CF,GO,GP,Bk,ET,EU,EV,EW,GQ,GR,GS,GU,GV,GW⟩:=vf;have GX:=(BS.1 C3).2;unfold En at CF Bk;simp_all
 refine ac ?_
 refine cy h3 rfl (B1 (F0) rfl rfl) ?_
 refine ag ?_ ?_<;>intro h4 q4
 refine ac ?_
 refine B3 1 39 rfl ?_
 refine a2 ?_
 · refine int_eq (if_neg (fun hv=> ?_)).symm;have vf:=Dl hv;obtain ⟨GM,GN,ER,ES,C3,CF,GO,GP,Bk,ET,EU,EV,EW,GQ,GR,GS,GU,GV,GW⟩:=vf;have GX:=(BS.1 C3).2;unfold En at CF Bk;simp_all
 refine ac ?_
 refine cy h4 rfl (B1 (Ia) rfl rfl) ?_
 refine ag ?_ ?_<;>intro h5 q5
 refine ac ?_
 refine B3 1 39 rfl ?_
 refine a2 ?_
 · refine int_eq (if_neg (fun hv=> ?_)).symm;have vf:=Dl hv;obtain ⟨GM,GN,ER,ES,C3,CF,GO,GP,Bk,ET,EU,EV,EW,GQ,GR,GS,GU,GV,GW⟩:=vf;have GX:=(BS.1 C3).2;unfold En at CF Bk;simp_all
 refine ag ?_ ?_<;>intro h6 q6
 refine ac ?_
 refine B3 1 39 rfl ?_
 refine a2 ?_
 · refine int_eq (if_neg (fun hv=> ?_)).symm;have vf:=Dl hv;obtain ⟨GM,GN,ER,ES,C3,CF,GO,GP,Bk,ET,EU,EV,EW,GQ,GR,GS,GU,GV,GW⟩:=vf;have GX:=(BS.1 C3).2;unfold En at CF Bk;omega
 refine ac ?_
 refine B3 1 39 rfl ?_
 refine Tr.cn rfl ?_ ?_<;>intro h7 q7
 refine a2 ?_
 · refine int_eq (if_neg (fun hv=> ?_)).symm;have vf:=Dl hv;obtain ⟨GM,GN,ER,ES,C3,CF,GO,GP,Bk,ET,EU,EV,EW,GQ,GR,GS,GU,GV,GW⟩:=vf;have GX:=(BS.1 C3).2;unfold En at CF Bk;omega
 refine a2 ?_
 refine co rfl (B1 (KF) rfl rfl) ?_
 refine ag ?_ ?_<;>intro h8 q8
 refine ac ?_
 refine B3 1 67 rfl ?_
 refine a2 ?_
 · refine int_eq (if_neg (fun hv=> ?_)).symm;have vf:=Dl hv;obtain ⟨GM,GN,ER,ES,C3,CF,GO,GP,Bk,ET,EU,EV,EW,GQ,GR,GS,GU,GV,GW⟩:=vf;have GX:=(BS.1 C3).2;unfold En at CF Bk;simp_all;omega
 refine ac ?_
 refine cy h8 rfl (B1 (L6) rfl rfl) ?_
 refine ag ?_ ?_<;>intro h9 q9
 refine ac ?_
 refine B3 1 67 rfl ?_
 refine a2 ?_
 · refine int_eq (if_neg (fun hv=> ?_)).symm;have vf:=Dl hv;obtain ⟨GM,GN,ER,ES,C3,CF,GO,GP,Bk,ET,EU,EV,EW,GQ,GR,GS,GU,GV,GW⟩:=vf;have GX:=(BS.1 C3).2;unfold En at CF Bk;simp_all
 refine ag ?_ ?_<;>intro h10 PZ
 refine ac ?_
 refine B3 1 67 rfl ?_
 refine a2 ?_
 · refine int_eq (if_neg (fun hv=> ?_)).symm;have vf:=Dl hv;obtain ⟨GM,GN,ER,ES,C3,CF,GO,GP,Bk,ET,EU,EV,EW,GQ,GR,GS,GU,GV,GW⟩:=vf;have GX:=(BS.1 C3).2;unfold En at CF Bk;omega
 refine ag ?_ ?_<;>intro h11 Qx
 refine ac ?_
 refine B3 1 67 rfl ?_
 refine a2 ?_
 · refine int_eq (if_neg (fun hv=> ?_)).symm;have vf:=Dl hv;obtain ⟨GM,GN,ER,ES,C3,CF,GO,GP,Bk,ET,EU,EV,EW,GQ,GR,GS,GU,GV,GW⟩:=vf;have GX:=(BS.1 C3).2;unfold En at CF Bk;omega
 refine ac ?_
 refine B3 1 67 rfl ?_
 refine Tr.cn rfl ?_ ?_<;>intro h12 Sb
 refine a2 ?_
 · refine int_eq (if_neg (fun hv=> ?_)).symm;have vf:=Dl hv;obtain ⟨GM,GN,ER,ES,C3,CF,GO,GP,Bk,ET,EU,EV,EW,GQ,GR,GS,GU,GV,GW⟩:=vf;have GX:=(BS.1 C3).2;unfold En at CF Bk;omega
 refine ac ?_
 refine ag ?_ ?_<;>intro H8 Tp
 refine ac ?_
 refine B3 1 91 rfl ?_
 refine a2 ?_
 · refine int_eq (if_neg (fun hv=> ?_)).symm;have vf:=Dl hv;obtain ⟨GM,GN,ER,ES,C3,CF,GO,GP,Bk,ET,EU,EV,EW,GQ,GR,GS,GU,GV,GW⟩:=vf;have GX:=(BS.1 C3).2;unfold En at CF Bk;omega
 refine ag ?_ ?_<;>intro Jt W9
 refine ac ?_
 refine B3 1 91 rfl ?_
 refine a2 ?_
 · refine int_eq (if_neg (fun hv=> ?_)).symm;have vf:=Dl hv;obtain ⟨GM,GN,ER,ES,C3,CF,GO,GP,Bk,ET,EU,EV,EW,GQ,GR,GS,GU,GV,GW⟩:=vf;have GX:=(BS.1 C3).2;unfold En at CF Bk;omega
 refine ag ?_ ?_<;>intro N7 YG
 refine ag ?_ ?_<;>intro h16 Z7
 refine ac ?_
 refine B3 1 91 rfl ?_
 refine a2 ?_
 · refine int_eq (if_neg (fun hv=> ?_)).symm;have vf:=Dl hv;obtain ⟨GM,GN,ER,ES,C3,CF,GO,GP,Bk,ET,EU,EV,EW,GQ,GR,GS,GU,GV,GW⟩:=vf;have GX:=(BS.1 C3).2;unfold En at CF Bk;simp_all
 refine ac ?_
 refine B3 1 91 rfl ?_
 refine Tr.cn rfl ?_ ?_<;>intro NR YF
 refine a2 ?_
 · refine int_eq (if_neg (fun hv=> ?_)).symm;have vf:=Dl hv;obtain ⟨GM,GN,ER,ES,C3,CF,GO,GP,Bk,ET,EU,EV,EW,GQ,GR,GS,GU,GV,GW⟩:=vf;have GX:=(BS.1 C3).2;unfold En at CF Bk;omega
 refine a2 ?_
 refine Tr.block (Tr.BF [(1,_)] ⟨ke rfl,trivial⟩ (fun k:Nat=>[(3,int ((k:Nat):Int))]) (fun k:Nat=>k≤(c.names).length∧(∀j,j<k→nameAt c.names j=true)) (fun k:Nat=>(c.names).length-k) 0 (⟨Nat.zero_le _,fun j hj=>absurd hj (by omega)⟩) ⟨ke rfl,trivial⟩ ?_)
 rintro k ⟨BN,AL⟩
 refine an ?_ ?_<;>intro NS bz
 have Ac:k<(c.names).length:=AU NS
 obtain ⟨s,Aa⟩:=at_ Ac
 refine a2 ?_
 refine co rfl (AA rfl underlying74 G0 (vl rfl) (vl rfl) (by omega) (AX Aa)) (co rfl (E_ rfl J6 rfl) (co rfl (B1 (F0) rfl rfl) ?_))
 refine ag ?_ ?_<;>intro Rp iD
 refine ac ?_
 refine Cg 1 3 123 rfl ?_
 refine a2 ?_
 · refine int_eq (if_neg (fun hv=> ?_)).symm;have vf:=Dl hv;obtain ⟨GM,GN,ER,ES,C3,CF,GO,GP,Bk,ET,EU,EV,EW,GQ,GR,GS,GU,GV,GW⟩:=vf;have GX:=(BS.1 C3).2;unfold En at CF Bk;have eu:=(BS.1 C3).1 k (by omega);unfold nameAt at eu;simp_all
 refine ag ?_ ?_<;>intro NT iE
 have H_:0<k:=by simpa using NT
 obtain ⟨y,hy⟩:=at_ (l:=c.names) (k:=k-1) (by omega)
 · repeat' first|(refine int_eq (if_neg (fun hv=> ?_)).symm;have vf:=Dl hv;obtain ⟨GM,GN,ER,ES,C3,CF,GO,GP,Bk,ET,EU,EV,EW,GQ,GR,GS,GU,GV,GW⟩:=vf;have GX:=(BS.1 C3).2;unfold En at CF Bk;have eu:=(BS.1 C3).1 k (by omega);unfold nameAt at eu;simp_all)|(exact Fin.AM (k+1) ⟨⟨Ac,(fun j hj=>by rcases Nat.lt_or_eq_of_le (Nat.le_of_lt_succ hj) with h_|h_;exact AL j h_;(subst h_;refine I4 Aa (by simp_all) (fun h0=> ?_);exact ⟨y,hy,by simp_all⟩))⟩,by omega⟩ ⟨⟨_,rfl,AK k⟩,ke rfl,trivial⟩)|(refine cy NT rfl (AA rfl underlying74 G0 (vl rfl) (vl rfl) (by omega) (by rw [show ((k:Nat):Int)-1=((k-1:Nat):Int) by omega];exact AX hy)) ?_)|refine cy NT rfl (AA rfl underlying74 G0 (vl rfl) (vl rfl) (by omega) (AX Aa)) (cy NT rfl (E_ rfl J6 rfl) (cy NT rfl (JX rfl (vl rfl) (vl rfl)) ?_))|refine ac ?_|(refine Tr.cn rfl ?_ ?_<;>intro h q)
 have H_:¬0<k:=by simpa using NT
 refine ac ?_
 refine Cg 1 3 123 rfl ?_
 refine a2 ?_
 exact Fin.AM (k+1) ⟨⟨Ac,(fun j hj=>by rcases Nat.lt_or_eq_of_le (Nat.le_of_lt_succ hj) with h_|h_;exact AL j h_;(subst h_;refine I4 Aa (by simp_all) (fun h0=> ?_);exact absurd h0 H_))⟩,by omega⟩ ⟨⟨_,rfl,AK k⟩,ke rfl,trivial⟩
 have A4:k=(c.names).length:=by have:=AV NS;omega
 subst A4
 · repeat' first|(refine int_eq (if_neg (fun hv=> ?_)).symm;have vf:=Dl hv;obtain ⟨GM,GN,ER,ES,C3,CF,GO,GP,Bk,ET,EU,EV,EW,GQ,GR,GS,GU,GV,GW⟩:=vf;have GX:=(BS.1 C3).2;unfold En at CF Bk;omega)|(refine int_eq (if_pos (RN ⟨by omega,by omega,by simp_all,by simp_all,BS.2 ⟨AL,by omega⟩,by unfold En;simp_all,by omega,by omega,by unfold En;simp_all,by omega,by omega,by omega,by omega,by omega,by omega,by omega,by omega,by omega,by right;omega⟩)).symm)|refine ac ?_|(refine Tr.cn rfl ?_ ?_<;>intro h q)|(refine Ch.cg rfl rfl rfl ?_ ?_<;>intro h q)
 refine ac ?_
 refine B3 1 91 rfl ?_
 refine Tr.cn rfl ?_ ?_<;>intro h26 q26
 refine a2 ?_
 · refine int_eq (if_neg (fun hv=> ?_)).symm;have vf:=Dl hv;obtain ⟨GM,GN,ER,ES,C3,CF,GO,GP,Bk,ET,EU,EV,EW,GQ,GR,GS,GU,GV,GW⟩:=vf;have GX:=(BS.1 C3).2;unfold En at CF Bk;omega
 refine a2 ?_
 refine Tr.block (Tr.BF [(1,_)] ⟨ke rfl,trivial⟩ (fun k:Nat=>[(3,int ((k:Nat):Int))]) (fun k:Nat=>k≤(c.names).length∧(∀j,j<k→nameAt c.names j=true)) (fun k:Nat=>(c.names).length-k) 0 (⟨Nat.zero_le _,fun j hj=>absurd hj (by omega)⟩) ⟨ke rfl,trivial⟩ ?_)
 rintro k ⟨BN,AL⟩
 refine an ?_ ?_<;>intro iH q27
 have Ac:k<(c.names).length:=AU iH
 obtain ⟨s,Aa⟩:=at_ Ac
 refine a2 ?_
 refine co rfl (AA rfl underlying74 G0 (vl rfl) (vl rfl) (by omega) (AX Aa)) (co rfl (E_ rfl J6 rfl) (co rfl (B1 (F0) rfl rfl) ?_))
 refine ag ?_ ?_<;>intro h28 q28
 refine ac ?_
 refine Cg 1 3 123 rfl ?_
 refine a2 ?_
 · refine int_eq (if_neg (fun hv=> ?_)).symm;have vf:=Dl hv;obtain ⟨GM,GN,ER,ES,C3,CF,GO,GP,Bk,ET,EU,EV,EW,GQ,GR,GS,GU,GV,GW⟩:=vf;have GX:=(BS.1 C3).2;unfold En at CF Bk;have eu:=(BS.1 C3).1 k (by omega);unfold nameAt at eu;simp_all
 refine ag ?_ ?_<;>intro Vd q29
 have H_:0<k:=by simpa using Vd
 obtain ⟨y,hy⟩:=at_ (l:=c.names) (k:=k-1) (by omega)
 · repeat' first|(refine int_eq (if_neg (fun hv=> ?_)).symm;have vf:=Dl hv;obtain ⟨GM,GN,ER,ES,C3,CF,GO,GP,Bk,ET,EU,EV,EW,GQ,GR,GS,GU,GV,GW⟩:=vf;have GX:=(BS.1 C3).2;unfold En at CF Bk;have eu:=(BS.1 C3).1 k (by omega);unfold nameAt at eu;simp_all)|(exact Fin.AM (k+1) ⟨⟨Ac,(fun j hj=>by rcases Nat.lt_or_eq_of_le (Nat.le_of_lt_succ hj) with h_|h_;exact AL j h_;(subst h_;refine I4 Aa (by simp_all) (fun h0=> ?_);exact ⟨y,hy,by simp_all⟩))⟩,by omega⟩ ⟨⟨_,rfl,AK k⟩,ke rfl,trivial⟩)|(refine cy Vd rfl (AA rfl underlying74 G0 (vl rfl) (vl rfl) (by omega) (by rw [show ((k:Nat):Int)-1=((k-1:Nat):Int) by omega];exact AX hy)) ?_)|refine cy Vd rfl (AA rfl underlying74 G0 (vl rfl) (vl rfl) (by omega) (AX Aa)) (cy Vd rfl (E_ rfl J6 rfl) (cy Vd rfl (JX rfl (vl rfl) (vl rfl)) ?_))|refine ac ?_|(refine Tr.cn rfl ?_ ?_<;>intro h q)
 have H_:¬0<k:=by simpa using Vd
 refine ac ?_
 refine Cg 1 3 123 rfl ?_
 refine a2 ?_
 exact Fin.AM (k+1) ⟨⟨Ac,(fun j hj=>by rcases Nat.lt_or_eq_of_le (Nat.le_of_lt_succ hj) with h_|h_;exact AL j h_;(subst h_;refine I4 Aa (by simp_all) (fun h0=> ?_);exact absurd h0 H_))⟩,by omega⟩ ⟨⟨_,rfl,AK k⟩,ke rfl,trivial⟩
 have A4:k=(c.names).length:=by have:=AV iH;omega
 subst A4
 · repeat' first|(refine int_eq (if_neg (fun hv=> ?_)).symm;have vf:=Dl hv;obtain ⟨GM,GN,ER,ES,C3,CF,GO,GP,Bk,ET,EU,EV,EW,GQ,GR,GS,GU,GV,GW⟩:=vf;have GX:=(BS.1 C3).2;unfold En at CF Bk;omega)|(refine int_eq (if_pos (RN ⟨by omega,by omega,by simp_all,by simp_all,BS.2 ⟨AL,by omega⟩,by unfold En;simp_all,by omega,by omega,by unfold En;simp_all,by omega,by omega,by omega,by omega,by omega,by omega,by omega,by omega,by omega,by left;simp_all⟩)).symm)|refine ac ?_|(refine Tr.cn rfl ?_ ?_<;>intro h q)|(refine Ch.cg rfl rfl rfl ?_ ?_<;>intro h q)
theorem and1 {a b:Bool} (h:(a&&b)=true):a=true:=by simp at h;exact h.1
theorem ew {a b:Bool} (h:(a&&b)=true):b=true:=by simp at h;exact h.2
theorem XM:∀(n:Nat) (l:List Int),(∀x∈l,1≤x∧x≤(n:Int))→l.Nodup→l.length≤n
 |0,l,h,_=>by
  cases l with
  |nil=>exact Nat.le_refl _
  |cons a l=>have:=h a (List.mem_cons_self ..);omega
 |n+1,l,h,hn=>by
  have ih:=XM n (l.erase ((n:Int)+1)) (fun x hx=>by
   have h1:=h x (List.mem_of_mem_erase hx)
   have h2:=(hn.mem_erase_iff.1 hx).1
   omega) (hn.erase _)
  rw [List.length_erase] at ih
  split at ih<;>omega
theorem FQ {l:List Int} (h:FY l=true):l.length≤16:=by
 refine XM 16 l (fun x hx=> ?_) ?_
 ·
  obtain ⟨j,hj⟩:=List.getElem?_of_mem hx
  have h1:=Bo.1 (show allI (DZ l) l.length=true from h) j (A1 hj)
  unfold DZ at h1;rw [Bi hj] at h1
  have:=and1 h1
  simpa using this
 ·
  refine List.pairwise_iff_getElem.2 fun i j hi hj hij he=> ?_
  have:=Sd h (List.getElem?_eq_getElem hi) (by rw [he];exact List.getElem?_eq_getElem hj)
  omega
theorem XN {p:Int→Bool} {l:List Int} (h:∀j,j<l.length→p (l[j]?.getD 0)=true):l.all p=true:=List.all_eq_true.2 fun x hx=>by
 obtain ⟨j,hj⟩:=List.getElem?_of_mem hx
 have:=h j (A1 hj)
 rw [Bi hj] at this;exact this
theorem U9 {Bp bits id:Int} {l:List FF}  :A_ prog 126 [agg [int Bp,int bits],int id,Gh l] (bool (NW Bp bits id l)):=by
 refine fo func126 rfl ⟨rfl,rfl⟩ fun M0 w0=>(Tr.Cr 2 rfl fun Wl=> ?_)
 refine a2 ?_
 refine co rfl (B1 (Ia) rfl rfl) ?_
 refine ag ?_ ?_<;>intro h1 q1
 refine ac ?_
 refine Fk 1 2 3 23 rfl ?_
 refine a2 ?_
 · refine bool_eq ?_;rw [Cb];unfold En E6;simp_all
 refine ag ?_ ?_<;>intro h2 q2
 refine ac ?_
 refine Fk 1 2 3 23 rfl ?_
 refine a2 ?_
 · refine bool_eq ?_;rw [Cb];unfold En E6;simp_all;omega
 refine ag ?_ ?_<;>intro h3 q3
 refine ac ?_
 refine Fk 1 2 3 23 rfl ?_
 refine a2 ?_
 · refine bool_eq ?_;rw [Cb];unfold En E6;simp_all;omega
 refine ac ?_
 refine Fk 1 2 3 23 rfl ?_
 refine Tr.cn rfl ?_ ?_<;>intro h4 q4
 refine a2 ?_
 · refine bool_eq ?_;rw [Cb];unfold En E6;simp_all;omega
 refine a2 ?_
 refine Tr.block (Tr.BF [(1,_),(2,_),(3,_)] (Js rfl) (fun k:Nat=>[(7,int ((k:Nat):Int))]) (fun k:Nat=>k≤(l).length∧(∀j y,j<k→l[j]? =some y→(!B9 y)=false)) (fun k:Nat=>(l).length-k) 0 (⟨Nat.zero_le _,fun j y hj=>absurd hj (by omega)⟩) ⟨ke rfl,trivial⟩ ?_)
 rintro k ⟨BN,AL⟩
 refine an ?_ ?_<;>intro h5 q5
 have Ac:k<(l).length:=AU h5
 obtain ⟨c,Aa⟩:=at_ Ac
 · repeat' first|(refine bool_eq ?_;rw [Cb];unfold En E6;rw [HW (p:=B9) Aa (by simp_all)];simp)|exact Fin.AM (k+1) ⟨⟨Ac,DK (p:=fun c=> !B9 c) Aa (by simp_all) AL⟩,by omega⟩ ⟨⟨_,rfl,AK k⟩,ke rfl,ke rfl,ke rfl,trivial⟩|refine co rfl (AA rfl underlying25 CC (vl rfl) (vl rfl) (by omega) (AX Aa)) (co rfl (AH rfl Dh CC (vl rfl) rfl rfl) (co rfl (B1 (Sk) rfl rfl) ?_))|refine ac ?_|(refine Tr.cn rfl ?_ ?_<;>intro h q)
 have A4:k=(l).length:=by have:=AV h5;omega
 subst A4
 have hall:=E4 AL
 refine ac ?_
 refine ag ?_ ?_<;>intro h7 q7
 refine ac ?_
 refine Es 6 rfl ?_
 refine ac ?_
 · refine bool_eq ?_;rw [Cb];unfold En E6;rw [hall,Oc (by simp_all)];simp_all
 obtain ⟨c0,hc0⟩:=at_ (l:=l) (k:=0) (by have:=h7;simp at this;exact List.length_pos_iff.2 this)
 refine Gr h7 rfl ?_
 refine cy h7 rfl (AA rfl underlying25 CC (vl rfl) (vl rfl) (by omega) (AX (k:=0) hc0)) ?_
 refine ac ?_
 refine cy h7 rfl (HV rfl (vl rfl) (vl rfl)) (Gr h7 rfl ?_)
 refine Ch.cs 46 rfl ?_ ?_<;>intro h8 q8
 refine Gr h8 rfl ?_
 refine cy h8 rfl (AA rfl underlying25 CC (vl rfl) (vl rfl) (by omega) (AX (k:=0) hc0)) ?_
 refine ac ?_
 refine Es 6 rfl ?_
 refine ac ?_
 · refine bool_eq ?_;rw [Cb];unfold En E6;rw [hall,KJ hc0];clear hall AL hc0;simp_all;omega
 refine ac ?_
 refine Es 6 rfl ?_
 refine ac ?_
 · refine bool_eq ?_;rw [Cb];unfold En E6;rw [hall,KJ hc0];clear hall AL hc0;simp_all
theorem Sl {e:A5} (SS:e.hashes.length≤17592186044416):A_ prog 77 [agg (Ah e)] (int (if B_ e then 0 else 19)):=by
 refine fo func77 rfl ⟨rfl,rfl⟩ fun M0 w0=> ?_
 refine ac ?_
 refine ac ?_
 refine co rfl (B1 (XK) rfl rfl) ?_
 refine ac ?_
 refine Ch.cs 13 rfl ?_ ?_<;>intro h1 q1
 refine ac ?_
 refine B3 1 47 rfl ?_
 refine ac ?_
 refine ac ?_
 · refine int_eq (if_neg (fun hv=> ?_)).symm;have ok:=CE.1 hv;have v1:=ok.name;have v2:=ok.least;have v3:=ok.lm;have v4:=ok.most;have v5:=FQ ok.AJ;have v6:=ok.I0;have v7:=ok.SY;simp_all
 refine ac ?_
 refine Ch.cs 18 rfl ?_ ?_<;>intro h2 q2
 refine ac ?_
 refine B3 1 47 rfl ?_
 refine ac ?_
 refine ac ?_
 · refine int_eq (if_neg (fun hv=> ?_)).symm;have ok:=CE.1 hv;have v1:=ok.name;have v2:=ok.least;have v3:=ok.lm;have v4:=ok.most;have v5:=FQ ok.AJ;have v6:=ok.I0;have v7:=ok.SY;omega
 refine ac ?_
 refine Ch.cs 25 rfl ?_ ?_<;>intro h3 q3
 refine ac ?_
 refine B3 1 47 rfl ?_
 refine ac ?_
 refine ac ?_
 · refine int_eq (if_neg (fun hv=> ?_)).symm;have ok:=CE.1 hv;have v1:=ok.name;have v2:=ok.least;have v3:=ok.lm;have v4:=ok.most;have v5:=FQ ok.AJ;have v6:=ok.I0;have v7:=ok.SY;omega
 refine ac ?_
 refine Ch.cs 30 rfl ?_ ?_<;>intro h4 q4
 refine ac ?_
 refine B3 1 47 rfl ?_
 refine ac ?_
 refine ac ?_
 · refine int_eq (if_neg (fun hv=> ?_)).symm;have ok:=CE.1 hv;have v1:=ok.name;have v2:=ok.least;have v3:=ok.lm;have v4:=ok.most;have v5:=FQ ok.AJ;have v6:=ok.I0;have v7:=ok.SY;omega
 refine ac ?_
 refine Ch.cs 36 rfl ?_ ?_<;>intro h5 q5
 refine ac ?_
 refine B3 1 47 rfl ?_
 refine ac ?_
 refine ac ?_
 · refine int_eq (if_neg (fun hv=> ?_)).symm;have ok:=CE.1 hv;have v1:=ok.name;have v2:=ok.least;have v3:=ok.lm;have v4:=ok.most;have v5:=FQ ok.AJ;have v6:=ok.I0;have v7:=ok.SY;omega
 refine ac ?_
 refine Ch.cs 42 rfl ?_ ?_<;>intro h6 q6
 refine ac ?_
 refine B3 1 47 rfl ?_
 refine ac ?_
 refine ac ?_
 · refine int_eq (if_neg (fun hv=> ?_)).symm;have ok:=CE.1 hv;have v1:=ok.name;have v2:=ok.least;have v3:=ok.lm;have v4:=ok.most;have v5:=FQ ok.AJ;have v6:=ok.I0;have v7:=ok.SY;omega
 refine ac ?_
 refine B3 1 47 rfl ?_
 refine Tr.cn rfl ?_ ?_<;>intro h7 q7
 refine ac ?_
 refine ac ?_
 · refine int_eq (if_neg (fun hv=> ?_)).symm;have ok:=CE.1 hv;have v1:=ok.name;have v2:=ok.least;have v3:=ok.lm;have v4:=ok.most;have v5:=FQ ok.AJ;have v6:=ok.I0;have v7:=ok.SY;omega
 refine ac ?_
 refine ac ?_
 refine Tr.block (Tr.BF [(1,_)] ⟨ke rfl,trivial⟩ (fun i:Nat=>[(3,int ((i:Nat):Int))]) (fun i:Nat=>i≤(e.AJ).length∧(∀j,j<i→DZ e.AJ j=true)) (fun i:Nat=>(e.AJ).length-i) 0 (⟨Nat.zero_le _,fun j hj=>absurd hj (by omega)⟩) ⟨ke rfl,trivial⟩ ?_)
 rintro i ⟨lQ,XO⟩
 refine ac ?_
 refine Tr.cn rfl ?_ ?_<;>intro h8 q8
 have XP:i<(e.AJ).length:=AU h8
 obtain ⟨x,XQ⟩:=at_ XP
 have hg:=Bi (d:=(0:Int)) XQ
 refine ac ?_
 refine ao ?_
 refine tp rfl (AA rfl underlying22 CO (vl rfl) (vl rfl) (by omega) (AX XQ)) (tp rfl (E_ rfl CV rfl) (tp rfl (B1 (U8) rfl rfl) ?_))
 refine ao ?_
 refine Tl rfl rfl rfl rfl R8 J8 (fun b1=> ?_)
 refine sf 0 4 ⟨rfl,rfl,rfl⟩ rfl rfl rfl rfl ?_
 refine ao ?_
 refine Cg 1 3 5 rfl ?_
 refine ac ?_
 refine Ch.cs 66 rfl ?_ ?_<;>intro h9 q9
 have eL:¬(1≤x∧x≤16):=by intro hh;rw [if_pos hh] at h9;exact absurd h9 (by decide)
 refine ac ?_
 refine Cg 1 3 77 rfl ?_
 refine ac ?_
 refine ac ?_
 · refine int_eq (if_neg (fun hv=> ?_)).symm;have ok:=CE.1 hv;have h_:=Bo.1 (show allI (DZ e.AJ) e.AJ.length=true from ok.AJ) i (by omega);unfold DZ at h_;rw [hg] at h_;exact eL (by simpa using and1 h_)
 have hin:1≤x∧x≤16:=by refine Decidable.byContradiction fun hh=> ?_;rw [if_neg hh] at h9;exact absurd h9 (by decide)
 refine ac ?_
 refine cy h9 rfl (El rfl underlying22 CO (vl rfl) (vl rfl) (by omega) (by simp;omega)) ?_
 refine ac ?_
 refine cy h9 rfl (AA rfl underlying22 CO (vl rfl) (vl rfl) (by omega) (AX XQ)) (cy h9 rfl (E_ rfl CV rfl) ?_)
 refine cy h9 rfl (Ae rfl (XL (l:=e.AJ.take i) (v:=x)) ⟨⟨_,rfl,Pr.le_of_eq (by rw [←List.map_take,Int.toNat_natCast])⟩,ke rfl,trivial⟩) ?_
 refine ac ?_
 refine Cg 1 3 77 rfl ?_
 refine Tr.cn rfl ?_ ?_<;>intro h10 PZ
 refine ac ?_
 refine ac ?_
 · refine int_eq (if_neg (fun hv=> ?_)).symm;have ok:=CE.1 hv;have h_:=Bo.1 (show allI (DZ e.AJ) e.AJ.length=true from ok.AJ) i (by omega);unfold DZ at h_;rw [hg] at h_;exact absurd (by assumption:((e.AJ.take i).any fun y=>x==y)=true) (by have h2:=ew h_;rw [Bool.not_eq_true'] at h2;rw [h2];decide)
 refine ac ?_
 refine ac ?_
 exact Fin.AM (i+1) ⟨⟨XP,Bq XO (by unfold DZ;rw [hg];rw [decide_eq_true hin];simp_all)⟩,by omega⟩ ⟨⟨_,rfl,AK i⟩,ke rfl,trivial⟩
 have lR:i=(e.AJ).length:=by have:=AV h8;omega
 subst lR
 refine ac ?_
 refine ac ?_
 refine Tr.block (Tr.BF [(1,_)] ⟨ke rfl,trivial⟩ (fun m:Nat=>[(6,int ((m:Nat):Int))]) (fun m:Nat=>m≤(e.ids).length∧(∀j y,j<m→e.ids[j]? =some y→(!Ui y)=false)) (fun m:Nat=>(e.ids).length-m) 0 (⟨Nat.zero_le _,fun j y hj=>absurd hj (by omega)⟩) ⟨ke rfl,trivial⟩ ?_)
 rintro m ⟨T8,Gx⟩
 refine ac ?_
 refine Tr.cn rfl ?_ ?_<;>intro h11 Qx
 have I9:m<(e.ids).length:=AU h11
 obtain ⟨x,FB⟩:=at_ I9
 refine ac ?_
 refine ac ?_
 refine co rfl (AA rfl underlying30 BR (vl rfl) (vl rfl) (by omega) (AX FB)) ?_
 refine ac ?_
 refine co rfl (AA rfl underlying30 BR (vl rfl) (vl rfl) (by omega) (AX FB)) ?_
 refine ac ?_
 refine co rfl (AA rfl underlying30 BR (vl rfl) (vl rfl) (by omega) (AX FB)) ?_
 refine ac ?_
 refine co rfl (kc3 (U9) rfl rfl rfl rfl) ?_
 refine ac ?_
 refine Cg 1 6 104 rfl ?_
 refine Tr.cn rfl ?_ ?_<;>intro h12 Sb
 refine ac ?_
 refine ac ?_
 · refine int_eq (if_neg (fun hv=> ?_)).symm;have ok:=CE.1 hv;have h_:=List.all_eq_true.1 ok.ids x (List.mem_of_getElem? FB);unfold Ui at h_;simp_all
 refine ac ?_
 refine ac ?_
 exact Fin.AM (m+1) ⟨⟨I9,DK (p:=fun c=> !Ui c) FB (by unfold Ui;simp_all) Gx⟩,by omega⟩ ⟨⟨_,rfl,AK m⟩,ke rfl,trivial⟩
 have P_:m=(e.ids).length:=by have:=AV h11;omega
 subst P_
 have hall:=E4 Gx
 refine ac ?_
 refine ac ?_
 refine Tr.block (Tr.BF [(1,_)] ⟨ke rfl,trivial⟩ (fun o:Nat=>[(7,int ((o:Nat):Int))]) (fun o:Nat=>o≤(e.anchors).length∧(∀j,j<o→(FG e.anchors j&&E6 (e.anchors[j]?.getD 0))=true)) (fun o:Nat=>(e.anchors).length-o) 0 (⟨Nat.zero_le _,fun j hj=>absurd hj (by omega)⟩) ⟨ke rfl,trivial⟩ ?_)
 rintro o ⟨cH,GK⟩
 refine ac ?_
 refine Tr.cn rfl ?_ ?_<;>intro H8 Tp
 have QA:o<(e.anchors).length:=AU H8
 obtain ⟨a,KS⟩:=at_ QA
 have hg:=Bi (d:=(0:Int)) KS
 refine ac ?_
 refine ac ?_
 refine co rfl (AA rfl underlying22 CO (vl rfl) (vl rfl) (by omega) (AX KS)) ?_
 refine ac ?_
 refine Ch.cs 118 rfl ?_ ?_<;>intro Jt W9
 refine ac ?_
 refine Cg 1 7 143 rfl ?_
 refine ac ?_
 refine ac ?_
 · refine int_eq (if_neg (fun hv=> ?_)).symm;have ok:=CE.1 hv;have h_:=List.all_eq_true.1 ok.keys a (List.mem_of_getElem? KS);unfold E6 at h_;simp at h_;omega
 refine ac ?_
 refine cy Jt rfl (AA rfl underlying22 CO (vl rfl) (vl rfl) (by omega) (AX KS)) ?_
 refine ac ?_
 refine Ch.cs 126 rfl ?_ ?_<;>intro N7 YG
 refine ac ?_
 refine Cg 1 7 143 rfl ?_
 refine ac ?_
 refine ac ?_
 · refine int_eq (if_neg (fun hv=> ?_)).symm;have ok:=CE.1 hv;have h_:=List.all_eq_true.1 ok.keys a (List.mem_of_getElem? KS);unfold E6 at h_;simp at h_;omega
 refine ac ?_
 refine Ch.cs 129 rfl ?_ ?_<;>intro h16 Z7
 have Qz:0<o:=by simpa using h16
 obtain ⟨y,hy⟩:=at_ (l:=e.anchors) (k:=o-1) (by omega)
 have IC:=Bi (d:=(0:Int)) hy
 refine ac ?_
 refine cy h16 rfl (AA rfl underlying22 CO (vl rfl) (vl rfl) (by omega) (by rw [show ((o:Nat):Int)-1=((o-1:Nat):Int) by omega];exact AX hy)) ?_
 refine ac ?_
 refine cy h16 rfl (AA rfl underlying22 CO (vl rfl) (vl rfl) (by omega) (AX KS)) ?_
 refine ac ?_
 refine Cg 1 7 143 rfl ?_
 refine Tr.cn rfl ?_ ?_<;>intro NR YF
 refine ac ?_
 refine ac ?_
 · refine int_eq (if_neg (fun hv=> ?_)).symm;have ok:=CE.1 hv;have h_:=Bo.1 (show allI (FG e.anchors) e.anchors.length=true from ok.eX) o (by omega);unfold FG at h_;rw [hg,IC] at h_;simp at h_;omega
 refine ac ?_
 refine ac ?_
 exact Fin.AM (o+1) ⟨⟨QA,(fun j hj=>by rcases Nat.lt_or_eq_of_le (Nat.le_of_lt_succ hj) with h_|h_;exact GK j h_;(subst h_;unfold FG E6;rw [hg];rw [IC];simp_all))⟩,by omega⟩ ⟨⟨_,rfl,AK o⟩,ke rfl,trivial⟩
 have H_:¬0<o:=by simpa using h16
 refine ac ?_
 refine Cg 1 7 143 rfl ?_
 refine ac ?_
 refine ac ?_
 exact Fin.AM (o+1) ⟨⟨QA,(fun j hj=>by rcases Nat.lt_or_eq_of_le (Nat.le_of_lt_succ hj) with h_|h_;exact GK j h_;(subst h_;unfold FG E6;rw [hg];simp_all))⟩,by omega⟩ ⟨⟨_,rfl,AK o⟩,ke rfl,trivial⟩
 have XR:o=(e.anchors).length:=by have:=AV H8;omega
 subst XR
 refine ac ?_
 refine ac ?_
 refine Tr.block (Tr.BF [(1,_)] ⟨ke rfl,trivial⟩ (fun q:Nat=>[(8,int ((q:Nat):Int))]) (fun q:Nat=>q≤(e.hashes).length∧(∀j,j<q→(FG e.hashes j&&Ic (e.hashes[j]?.getD 0))=true)) (fun q:Nat=>(e.hashes).length-q) 0 (⟨Nat.zero_le _,fun j hj=>absurd hj (by omega)⟩) ⟨ke rfl,trivial⟩ ?_)
 rintro q ⟨rj,QB⟩
 refine ac ?_
 refine Tr.cn rfl ?_ ?_<;>intro NS bz
 have ey:q<(e.hashes).length:=AU NS
 obtain ⟨a,aJ⟩:=at_ ey
 have hg:=Bi (d:=(0:Int)) aJ
 refine ac ?_
 refine ac ?_
 refine co rfl (AA rfl underlying22 CO (vl rfl) (vl rfl) (by omega) (AX aJ)) (co rfl (E_ rfl CV rfl) (co rfl (B1 (L6) rfl rfl) ?_))
 refine ac ?_
 refine Ch.cs 158 rfl ?_ ?_<;>intro Rp iD
 refine ac ?_
 refine Cg 1 8 175 rfl ?_
 refine ac ?_
 refine ac ?_
 · refine int_eq (if_neg (fun hv=> ?_)).symm;have ok:=CE.1 hv;have h_:=List.all_eq_true.1 ok.hsh a (List.mem_of_getElem? aJ);unfold Ic at h_;simp_all
 refine ac ?_
 refine Ch.cs 161 rfl ?_ ?_<;>intro NT iE
 have Qz:0<q:=by simpa using NT
 obtain ⟨y,hy⟩:=at_ (l:=e.hashes) (k:=q-1) (by omega)
 have IC:=Bi (d:=(0:Int)) hy
 refine ac ?_
 refine cy NT rfl (AA rfl underlying22 CO (vl rfl) (vl rfl) (by omega) (by rw [show ((q:Nat):Int)-1=((q-1:Nat):Int) by omega];exact AX hy)) ?_
 refine ac ?_
 refine cy NT rfl (AA rfl underlying22 CO (vl rfl) (vl rfl) (by omega) (AX aJ)) ?_
 refine ac ?_
 refine Cg 1 8 175 rfl ?_
 refine Tr.cn rfl ?_ ?_<;>intro Rq k6
 refine ac ?_
 refine ac ?_
 · refine int_eq (if_neg (fun hv=> ?_)).symm;have ok:=CE.1 hv;have h_:=Bo.1 (show allI (FG e.hashes) e.hashes.length=true from ok.hash) q (by omega);unfold FG at h_;rw [hg,IC] at h_;simp at h_;omega
 refine ac ?_
 refine ac ?_
 exact Fin.AM (q+1) ⟨⟨ey,(fun j hj=>by rcases Nat.lt_or_eq_of_le (Nat.le_of_lt_succ hj) with h_|h_;exact QB j h_;(subst h_;unfold FG Ic;rw [hg];rw [IC];simp_all))⟩,by omega⟩ ⟨⟨_,rfl,AK q⟩,ke rfl,trivial⟩
 have H_:¬0<q:=by simpa using NT
 refine ac ?_
 refine Cg 1 8 175 rfl ?_
 refine ac ?_
 refine ac ?_
 exact Fin.AM (q+1) ⟨⟨ey,(fun j hj=>by rcases Nat.lt_or_eq_of_le (Nat.le_of_lt_succ hj) with h_|h_;exact QB j h_;(subst h_;unfold FG Ic;rw [hg];simp_all))⟩,by omega⟩ ⟨⟨_,rfl,AK q⟩,ke rfl,trivial⟩
 have qo:q=(e.hashes).length:=by have:=AV NS;omega
 subst qo
 refine ac ?_
 refine ac ?_
 refine ac ?_
 · refine int_eq (if_pos (CE.2 ⟨by simp_all,by omega,by omega,by omega,Bo.2 XO,by omega,by omega,Bo.2 (fun j hj=>and1 (GK j hj)),Bo.2 (fun j hj=>and1 (QB j hj)),hall,XN (fun j hj=>ew (GK j hj)),XN (fun j hj=>ew (QB j hj))⟩)).symm
theorem K8 {e:A5} (CJ:e.small):A_ Tryz.prog 77 [agg (Ah e)] (int (if B_ e then 0 else 19)):=Sl (by have:=CJ.hashes;omega)
theorem XS {β:Type} {p:β→Bool} {l:List β} {k:Nat} {x:β} (h:l[k]? =some x):idx p (l.take (k+1))=if idx p (l.take k)<0 then (if p x=true then (k:Int) else -1) else idx p (l.take k):=by
 have hk:=A1 h
 rw [List.take_add_one,h]
 have hl:(l.take k).length=k:=by rw [List.length_take];omega
 show idx p (l.take k++[x])=_
 generalize l.take k=a at hl ⊢
 unfold idx
 rw [List.findIdx?_append]
 cases ha:a.findIdx? p with
 |some i=>simp;intro h3;omega
 |none=>cases hp:p x<;>simp [hp,hl]
theorem XT {β:Type} {p:β→Bool} {l:List β} {k:Nat} {x:β} (h:l[k]? =some x):(((l.take (k+1)).countP p:Nat):Int)=((l.take k).countP p:Nat)+(if p x=true then 1 else 0):=by
 rw [List.take_add_one,h]
 show (((l.take k++[x]).countP p:Nat):Int)=_
 rw [List.countP_append,List.countP_singleton];split<;>simp_all
theorem KT {β:Type} {p:β→Bool} {l:List β}:idx p l<0↔l.countP p=0:=by
 unfold idx
 cases h:l.findIdx? p with
 |none=>
  rw [List.findIdx?_eq_none_iff] at h
  simp only [show ((none:Option Nat).map fun n=>(n:Int)).getD (-1)= -1 from rfl]
  constructor
  · intro _;rw [List.countP_eq_zero];intro a ha;rw [h a ha];decide
  · intro _;decide
 |some i=>
  rw [List.findIdx?_eq_some_iff_getElem] at h
  obtain ⟨h1,h2,_⟩:=h
  constructor
  · intro h3;exfalso;revert h3;simp
  · intro h3;rw [List.countP_eq_zero] at h3;exact absurd h2 (h3 _ (List.getElem_mem h1))
theorem ez {β:Type} {p:β→Bool} {l:List β} {k n:Nat} (h:l.length≤n):(l.take k).countP p≤n:=Nat.le_trans List.countP_le_length (Nat.le_trans (by rw [List.length_take];omega) h)
theorem bsX {l:List Int} {n x:Int} {k:Nat} (h:∀(j:Nat) y,j<k→l[j]? =some y→y<n) (hx:l[k]? =some x) (hlt:x<n):∀(j:Nat) y,j<k+1→l[j]? =some y→y<n:=by
 intro j y hj hy
 rcases Nat.lt_or_eq_of_le (Nat.le_of_lt_succ hj) with h1|h1
 · exact h j y h1 hy
 · subst h1;rw [hx] at hy;cases hy;exact hlt
def GL (id:Int) (x:Du):Bool:=x.BX==id
def FC (id:Int) (l:List Du):Int:=((l.countP (GL id):Nat):Int)
theorem FR (id:Int) (l:List Du):A0 id l=idx (GL id) l:=rfl
theorem U_ {id:Int} {l:List Du} {k:Nat} {x:Du} (h:l[k]? =some x):FC id (l.take (k+1))=FC id (l.take k)+(if x.BX=id then 1 else 0):=by
 unfold FC;rw [XT h];unfold GL;simp only [beq_iff_eq]
theorem RS {id:Int} {l:List Du} {k:Nat} {x:Du} (h:l[k]? =some x):A0 id (l.take (k+1))=if FC id (l.take k)=0 then (if x.BX=id then (k:Int) else -1) else A0 id (l.take k):=by
 rw [FR,FR,XS h]
 have:=KT (p:=GL id) (l:=l.take k)
 unfold FC
 by_cases h2:idx (GL id) (l.take k)<0
 ·
  have h4:(((l.take k).countP (GL id):Nat):Int)=0:=by rw [this.1 h2];rfl
  rw [if_pos h2,if_pos h4];unfold GL;simp only [beq_iff_eq]
 · rw [if_neg h2,if_neg (fun h3=>h2 (this.2 (by omega)))]
theorem RT {id:Int} {l:List Du} (h:FC id l=0):A0 id l= -1:=by
 have h2:=(KT (p:=GL id) (l:=l)).2 (by unfold FC at h;omega)
 rw [FR];unfold idx at h2 ⊢
 cases h3:l.findIdx? (GL id) with
 |none=>rfl
 |some i=>rw [h3] at h2;simp at h2;omega
def FD (e:A5) (k:Int):Int×Bool:=if k=3 then (e.most,true) else if k=4 then (e.least,true) else if k=11 then (D8 e.Fq,true) else if k=12 then (D8 e.own,true) else (0,false)
def DQ (e:A5) (k:Int):List Int×Bool×Bool:=
 if k=1∨k=2 then (e.AJ,decide (k=1),true) else if k=7∨k=8 then (e.anchors,decide (k=7),true) else if k=9∨k=10 then (e.hashes,decide (k=9),true) else ([],false,false)
theorem F7 (x:Du):decide (x=Ay)=Oh x:=by
 rw [Bool.eq_iff_iff,decide_eq_true_eq];unfold Oh Ay
 cases x;simp only [Du.mk.injEq,Bool.and_eq_true,decide_eq_true_eq,beq_iff_eq,and_assoc]
 constructor
 · rintro ⟨h1,h2,h3,h4⟩;exact ⟨h1,h2,h3,by simp [h4]⟩
 · rintro ⟨h1,h2,h3,h4⟩;exact ⟨h1,h2,h3,List.eq_nil_of_length_eq_zero (by omega)⟩
theorem Hg {l:List Int} {n:Int}  :A_ prog 78 [ints l,int n] (int (idx (fun y=>n==y) l)):=by
 refine fo func78 rfl ⟨rfl,rfl⟩ fun M0 w0=>(Tr.Cr 0 rfl fun Dj=> ?_)
 refine a2 ?_
 refine Tr.block (Tr.BF [(1,_),(7,_),(8,_)] (Js rfl) (fun k:Nat=>[(9,int ((k:Nat):Int))]) (fun k:Nat=>k≤(l).length∧(∀j y,j<k→l[j]? =some y→(n==y)=false)) (fun k:Nat=>(l).length-k) 0 (⟨Nat.zero_le _,fun j y hj=>absurd hj (by omega)⟩) ⟨ke rfl,trivial⟩ ?_)
 rintro k ⟨BN,AL⟩
 refine ac ?_
 refine Tr.seq ?_
 refine Tr.cn rfl ?_ ?_<;>intro h1 q1
 have Ac:k<(l).length:=AU h1
 obtain ⟨x,Aa⟩:=at_ Ac
 · repeat' first|(exact int_eq (Dy (p:=fun y=>n==y) Aa (by simp;omega) AL))|(exact Fin.AM (k+1) ⟨⟨Ac,DK (p:=fun y=>n==y) Aa (by simp;omega) AL⟩,by omega⟩ ⟨⟨_,rfl,AK k⟩,ke rfl,ke rfl,ke rfl,trivial⟩)|refine co rfl (AA rfl underlying22 CO (vl rfl) (vl rfl) (by omega) (by exact AX (by assumption))) ?_|refine ac ?_|(refine Tr.cn rfl ?_ ?_<;>intro h q)
 have A4:k=(l).length:=by have:=AV h1;omega
 subst A4
 refine a3 ?_
 · exact int_eq (Eh (p:=fun y=>n==y) AL)
theorem K9 {e:A5} {id:Int} (hl:e.ids.length≤1000000):A_ prog 79 [agg (Ah e),int id] (Fa [int (FC id e.ids),int (A0 id e.ids)]):=by
 refine fo func79 rfl ⟨rfl,rfl⟩ fun M0 w0=> ?_
 refine a3 ?_
 refine Tr.block (Tr.BF [(1,_),(11,_),(12,_)] (Js rfl) (fun k:Nat=>[(13,int ((k:Nat):Int)),(6,int (FC id (e.ids.take k))),(7,int (A0 id (e.ids.take k)))]) (fun k:Nat=>k≤(e.ids).length) (fun k:Nat=>(e.ids).length-k) 0 (Nat.zero_le _) ⟨ke rfl,⟨_,rfl,int_eq rfl⟩,⟨_,rfl,int_eq rfl⟩,trivial⟩ ?_)
 rintro k BN
 refine ac ?_
 refine Tr.seq ?_
 refine Tr.cn rfl ?_ ?_<;>intro h1 q1
 have Ac:k<(e.ids).length:=AU h1
 obtain ⟨x,Aa⟩:=at_ Ac
 have hc:=U_ (id:=id) Aa
 have hi:=RS (id:=id) Aa
 have Vr:0≤FC id (e.ids.take k)∧FC id (e.ids.take k)≤1000000:=⟨by unfold FC;omega,by have:=ez (p:=GL id) (k:=k) hl;unfold FC;omega⟩
 have h0:=RT (id:=id) (l:=e.ids.take k)
 refine ac ?_
 refine ao ?_
 refine tp rfl (AA rfl underlying30 BR (vl rfl) (vl rfl) (by omega) (by exact AX (by assumption))) ?_
 refine tp rfl (AH rfl E2 BR (vl rfl) rfl rfl) ?_
 refine Tl rfl rfl rfl rfl HP HO (fun b1=> ?_)
 refine tm rfl ?_
 refine sf 0 9 ⟨rfl,rfl,rfl⟩ rfl rfl rfl rfl ?_
 refine ao ?_
 · repeat' first|exact Fin.AM (k+1) ⟨Ac,by omega⟩ ⟨⟨_,rfl,AK k⟩,⟨_,rfl,int_eq (by simp_all)⟩,⟨_,rfl,int_eq (by simp_all)⟩,ke rfl,ke rfl,ke rfl,trivial⟩|refine ac ?_|(refine Tr.cn rfl ?_ ?_<;>intro h q)
 have A4:k=(e.ids).length:=by have:=AV h1;omega
 subst A4
 rw [List.take_length]
 refine a2 ?_
 refine Tr.ret (Fin.Dz rfl (CH.Ep _ _) rfl ?_ rfl ?_)
 · exact Lr
 · exact Lr
theorem RU {b:Bool}  :A_ prog 128 [bool b] (int (D8 b)):=by
 refine fo func128 rfl ⟨rfl,rfl⟩ fun M0 w0=> ?_
 · repeat' first|exact int_eq (by simp_all [D8])|refine ac ?_|(refine Tr.cn rfl ?_ ?_<;>intro h q)
theorem Sm {e:A5} {k:Int}  :A_ prog 81 [agg (Ah e),int k] (Fa [int (FD e k).1,bool (FD e k).2]):=by
 refine fo func81 rfl ⟨rfl,rfl⟩ fun M0 w0=> ?_
 refine a2 ?_
 refine an ?_ ?_<;>intro h1 q1
 refine ac ?_
 refine Tr.ret (Fin.Ar (Fin.AF (Fin.Dz rfl (CH.Ep _ _) rfl ?_ rfl ?_)))
 · exact int_eq (by simp_all [FD])
 · exact bool_eq (by simp_all [FD])
 refine an ?_ ?_<;>intro h2 q2
 refine ac ?_
 refine Tr.ret (Fin.Ar (Fin.AF (Fin.Dz rfl (CH.Ep _ _) rfl ?_ rfl ?_)))
 · exact int_eq (by simp_all [FD])
 · exact bool_eq (by simp_all [FD])
 refine an ?_ ?_<;>intro h3 q3
 refine ac ?_
 refine co rfl (B1 (RU) rfl rfl) ?_
 refine ac ?_
 refine B3 4 5 rfl (Tr.ret (Fin.Ar (Fin.AF (Fin.Dz rfl (CH.Ep _ _) rfl ?_ rfl ?_))))
 · exact int_eq (by simp_all [FD])
 · exact bool_eq (by simp_all [FD])
 refine an ?_ ?_<;>intro h4 q4
 refine ac ?_
 refine co rfl (B1 (RU) rfl rfl) ?_
 refine ac ?_
 refine B3 4 5 rfl (Tr.ret (Fin.Ar (Fin.AF (Fin.Dz rfl (CH.Ep _ _) rfl ?_ rfl ?_))))
 · exact int_eq (by simp_all [FD])
 · exact bool_eq (by simp_all [FD])
 refine a2 ?_
 refine B3 4 5 rfl (Tr.ret (Fin.Dz rfl (CH.Ep _ _) rfl ?_ rfl ?_))
 · exact int_eq (by simp_all [FD])
 · exact bool_eq (by simp_all [FD])
theorem VA {c:BA} (hcs:c.Bj.small):A_ prog 119 [agg (Am c)] (bool (decide (Ec c))):=by
 refine fo func119 rfl ⟨rfl,rfl⟩ fun M0 w0=> ?_
 refine ac ?_
 refine ac ?_
 refine co rfl (Ae rfl (Sc (a:=c.Bj) (b:=Ay) hcs) ⟨ke rfl,⟨_,rfl,Ab ⟨Lr,Lr,Lr,AB 15,trivial⟩⟩,trivial⟩) ?_
 refine ac ?_
 refine ac ?_
 refine ac ?_
 refine Tr.cn rfl ?_ ?_<;>intro h1 q1
 refine ac ?_
 refine ac ?_
 · refine bool_eq ?_;(try simp only [F7] at*);rw [Bool.eq_iff_iff,decide_eq_true_eq];unfold Ec GH;simp_all
 refine ac ?_
 refine Tr.cn rfl ?_ ?_<;>intro h2 q2
 refine ac ?_
 refine Es 2 rfl ?_
 refine ac ?_
 · refine bool_eq ?_;(try simp only [F7] at*);rw [Bool.eq_iff_iff,decide_eq_true_eq];unfold Ec GH;simp_all
 refine ac ?_
 refine ac ?_
 refine Ch.cs 21 rfl ?_ ?_<;>intro h3 q3
 refine ac ?_
 refine Ch.cs 26 rfl ?_ ?_<;>intro h4 q4
 refine ac ?_
 refine Ch.cs 29 rfl ?_ ?_<;>intro h5 q5
 refine ac ?_
 refine Es 2 rfl ?_
 refine ac ?_
 · refine bool_eq ?_;(try simp only [F7] at*);rw [Bool.eq_iff_iff,decide_eq_true_eq];unfold Ec GH;simp_all
 refine ac ?_
 refine Es 2 rfl ?_
 refine ac ?_
 · refine bool_eq ?_;(try simp only [F7] at*);rw [Bool.eq_iff_iff,decide_eq_true_eq];unfold Ec GH;simp_all
 refine ac ?_
 refine Es 2 rfl ?_
 refine ac ?_
 · refine bool_eq ?_;(try simp only [F7] at*);rw [Bool.eq_iff_iff,decide_eq_true_eq];unfold Ec GH;simp_all;omega
 refine ac ?_
 refine Es 2 rfl ?_
 refine ac ?_
 · refine bool_eq ?_;(try simp only [F7] at*);rw [Bool.eq_iff_iff,decide_eq_true_eq];unfold Ec GH;simp_all;omega
theorem RV {e:A5} {k:Int}  :A_ prog 120 [agg (Ah e),int k] (Fa [ints (DQ e k).1,bool (DQ e k).2.1,bool (DQ e k).2.2]):=by
 refine fo func120 rfl ⟨rfl,rfl⟩ fun M0 w0=> ?_
 refine ac ?_
 refine ac ?_
 refine ac ?_
 refine Tr.cn rfl ?_ ?_<;>intro h1 q1
 refine ac ?_
 refine Tr.cond rfl (fun _=> ?_) (fun h=>nomatch h1.symm.trans h)
 refine ac ?_
 refine Cg 4 5 6 rfl (Tr.ret (Fin.Ar (Fin.AF (Fin.Rr rfl (CH.Ep _ _) rfl ?_ rfl ?_ rfl ?_))))
 · exact Pr.le_of_eq (by simp_all [DQ])
 · exact bool_eq (by simp_all [DQ])
 · exact bool_eq (by simp_all [DQ])
 refine ac ?_
 refine Tr.cn rfl ?_ ?_<;>intro h2 q2
 refine ac ?_
 refine Cg 4 5 6 rfl (Tr.ret (Fin.Ar (Fin.AF (Fin.Rr rfl (CH.Ep _ _) rfl ?_ rfl ?_ rfl ?_))))
 · exact Pr.le_of_eq (by simp_all [DQ])
 · exact bool_eq (by simp_all [DQ])
 · exact bool_eq (by simp_all [DQ])
 refine ac ?_
 refine Tr.cn rfl ?_ ?_<;>intro h3 q3
 refine ac ?_
 refine Tr.cond rfl (fun _=> ?_) (fun h=>nomatch h3.symm.trans h)
 refine ac ?_
 refine Cg 4 5 6 rfl (Tr.ret (Fin.Ar (Fin.AF (Fin.Rr rfl (CH.Ep _ _) rfl ?_ rfl ?_ rfl ?_))))
 · exact Pr.le_of_eq (by simp_all [DQ])
 · exact bool_eq (by simp_all [DQ])
 · exact bool_eq (by simp_all [DQ])
 refine ac ?_
 refine Tr.cn rfl ?_ ?_<;>intro h4 q4
 refine ac ?_
 refine Cg 4 5 6 rfl (Tr.ret (Fin.Ar (Fin.AF (Fin.Rr rfl (CH.Ep _ _) rfl ?_ rfl ?_ rfl ?_))))
 · exact Pr.le_of_eq (by simp_all [DQ])
 · exact bool_eq (by simp_all [DQ])
 · exact bool_eq (by simp_all [DQ])
 refine ac ?_
 refine Fk 1 2 7 22 rfl ?_
 refine Tr.cn rfl ?_ ?_<;>intro h5 q5
 refine ac ?_
 refine Tr.cond rfl (fun _=> ?_) (fun h=>nomatch h5.symm.trans h)
 refine ac ?_
 refine Tr.ret (Fin.Ar (Fin.AF (Fin.Rr rfl (CH.Ep _ _) rfl ?_ rfl ?_ rfl ?_)))
 · exact Pr.le_of_eq (by simp_all [DQ])
 · exact bool_eq (by simp_all [DQ])
 · exact bool_eq (by simp_all [DQ])
 refine ac ?_
 refine Tr.cn rfl ?_ ?_<;>intro h6 q6
 refine ac ?_
 refine Tr.ret (Fin.Ar (Fin.AF (Fin.Rr rfl (CH.Ep _ _) rfl ?_ rfl ?_ rfl ?_)))
 · exact Pr.le_of_eq (by simp_all [DQ])
 · exact bool_eq (by simp_all [DQ])
 · exact bool_eq (by simp_all [DQ])
 refine ac ?_
 refine ac ?_
 refine Tr.ret (Fin.Rr rfl (CH.Ep _ _) rfl ?_ rfl ?_ rfl ?_)
 · exact Pr.le_trans (AB 1) (Pr.le_of_eq (by rw [show (DQ e k).1=[] by simp_all [DQ]];rfl))
 · exact bool_eq (by simp_all [DQ])
 · exact bool_eq (by simp_all [DQ])
theorem K_ {l:List Int} {i:Nat} {n:Int} (hi:i≤l.length) (hl:l.length≤1000000):A_ prog 121 [ints l,int ((i:Nat):Int),int n] (ints (l.take i++[n]++l.drop i)):=by
 refine fo func121 rfl ⟨rfl,rfl⟩ fun M0 w0=> ?_
 have hml:(l.map fun n:Int=>[int n]).length=l.length:=List.length_map _
 refine ac ?_
 refine ap ?_
 refine tp rfl (El rfl underlying22 CO (vl rfl) (vl rfl) (by omega) (by omega)) (TO.pad ?_)
 refine TO.Ex 0 rfl rfl (by decide) (G4 rfl rfl (by decide) rfl underlying22 CO OJ z3 rfl (by decide) ⟨_,rfl,AB _⟩ (vl rfl) (by simp only [List.length_map,List.length_append,List.length_cons,List.length_nil,List.length_take,List.length_drop];unfold maxLen;omega) (by simp only [List.length_map,List.length_append,List.length_cons,List.length_nil,List.length_take,List.length_drop];omega) (Bx (by exact List.Mem.head _) ⟨_,rfl,Ey 1⟩)) (fun v1=> ?_)
 refine ap ?_
 refine ap ?_
 refine TO.Ex 0 rfl rfl (by decide) (DF rfl rfl rfl rfl underlying22 CO OJ z3 (Kb rfl) (Kf rfl) (B6 (by exact List.Mem.head _) (Ka rfl))) (fun v2=> ?_)
 refine ap ?_
 refine ap ?_
 refine tp rfl (DI rfl underlying22 CO (vl rfl) (vl rfl) (by omega) (by omega)) ?_
 refine TO.Ex 0 rfl rfl (by decide) (DF rfl rfl rfl rfl underlying22 CO OJ z3 (Kb rfl) (vl rfl) (B6 (by exact List.Mem.head _) (Ka rfl))) (fun v3=> ?_)
 refine ap ?_
 refine Es 6 rfl ?_
 refine ac ?_
 · exact Pr.le_trans (A7 _ _) (Pr.le_of_eq (by show _=slice 1 ((l.take i++[n]++l.drop i).map fun n=>[int n]);simp [List.map_take,List.map_drop]))
theorem Hh {l:List Int} {i:Nat} (hi:i<l.length) (hl:l.length≤1000000):A_ prog 122 [ints l,int ((i:Nat):Int)] (ints (l.eraseIdx i)):=by
 refine fo func122 rfl ⟨rfl,rfl⟩ fun M0 w0=> ?_
 have hml:(l.map fun n:Int=>[int n]).length=l.length:=List.length_map _
 refine ac ?_
 refine ap ?_
 refine tp rfl (El rfl underlying22 CO (vl rfl) (vl rfl) (by omega) (by omega)) (TO.pad ?_)
 refine TO.Ex 0 rfl rfl (by decide) (G4 rfl rfl (by decide) rfl underlying22 CO OJ z3 rfl (by decide) ⟨_,rfl,AB _⟩ (vl rfl) (by simp only [List.length_map,List.length_append,List.length_cons,List.length_nil,List.length_take,List.length_drop];unfold maxLen;omega) (by simp only [List.length_map,List.length_append,List.length_cons,List.length_nil,List.length_take,List.length_drop];omega) (Bx (by exact List.Mem.head _) ⟨_,rfl,Ey 1⟩)) (fun v1=> ?_)
 refine ap ?_
 refine ap ?_
 refine tp rfl (DI rfl underlying22 CO (vl rfl) (vl rfl) (by omega) (by omega)) ?_
 refine TO.Ex 0 rfl rfl (by decide) (DF rfl rfl rfl rfl underlying22 CO OJ z3 (Kb rfl) (vl rfl) (B6 (by exact List.Mem.head _) (Ka rfl))) (fun v2=> ?_)
 refine ap ?_
 refine ac ?_
 · exact Pr.le_trans (A7 _ _) (Pr.le_of_eq (by rw [List.eraseIdx_eq_take_drop_succ];show _=slice 1 ((l.take i++l.drop (i+1)).map fun n=>[int n]);simp [List.map_take,List.map_drop,show (((i:Nat):Int)+1).toNat=i+1 by omega]))
theorem Lc {l:List Int} {n:Int} (hl:l.length≤1000000):A_ prog 123 [ints l,int n] (ints (K4 l n)):=by
 refine fo func123 rfl ⟨rfl,rfl⟩ fun M0 w0=>(Tr.Cr 0 rfl fun Dj=> ?_)
 refine a2 ?_
 refine Tr.seq (Tr.block (Tr.BF [(0,_),(1,_)] (Nu rfl) (fun k:Nat=>[(5,int ((k:Nat):Int))]) (fun k:Nat=>k≤l.length∧(∀j y,j<k→l[j]? =some y→y<n)) (fun k:Nat=>l.length-k) 0 (⟨Nat.zero_le _,fun j y hj=>absurd hj (by omega)⟩) ⟨ke rfl,trivial⟩ ?_))
 rintro k ⟨BN,hinv⟩
 refine ag ?_ ?_<;>intro h1 q1
 obtain ⟨x,hx⟩:=at_ (l:=l) (k:=k) (by omega)
 refine ac ?_
 refine cy h1 rfl (AA rfl underlying22 CO (vl rfl) (vl rfl) (by omega) (AX hx)) ?_
 refine ac ?_
 refine Fk 0 1 5 17 rfl ?_
 refine Tr.cn rfl ?_ ?_<;>intro h2 q2
 have hq:=h2
 refine a2 ?_
 exact Fin.AM (k+1) ⟨⟨by omega,bsX hinv hx (by simpa using hq)⟩,by omega⟩ ⟨⟨_,rfl,AK k⟩,ke rfl,ke rfl,trivial⟩
 have hp:DB l n=k:=L9 BN hinv (fun y hy=>by have h_:=h2;rw [hx] at hy;cases hy;simpa using h_)
 refine a2 ?_
 refine co rfl (Ae rfl (K_ (l:=l) (i:=DB l n) (L8 _ _) hl) ⟨ke rfl,⟨_,rfl,int_eq (by omega)⟩,ke rfl,trivial⟩) ?_
 refine a2 ?_
 · exact Lr
 have hp:DB l n=k:=L9 BN hinv (fun y hy=>by have:=A1 hy;have:=q1;omega)
 refine ac ?_
 refine Fk 0 1 5 17 rfl ?_
 refine a2 ?_
 refine co rfl (Ae rfl (K_ (l:=l) (i:=DB l n) (L8 _ _) hl) ⟨ke rfl,⟨_,rfl,int_eq (by omega)⟩,ke rfl,trivial⟩) ?_
 refine a2 ?_
 · exact Lr
def Ju (e:A5) (c:BA):Int:=
 if B_ e=false then 19 else if ¬Ec c then 40
 else if c.kind=1∧(c.at_<0∨(e.AJ.length:Int)<c.at_) then 2
 else if c.kind=5∧(c.at_<0∨(e.ids.length:Int)<c.at_) then 2
 else if (c.kind=11∨c.kind=12)∧(c.number≠0∧c.number≠1) then 2
 else if (DQ e c.kind).2.2=true∧decide (0≤idx (fun y=>c.number==y) (DQ e c.kind).1)=(DQ e c.kind).2.1 then 41
 else if (FD e c.kind).2=true∧(FD e c.kind).1=c.number then 41
 else if c.kind=5∧0<FC c.Bj.BX e.ids then 41
 else if c.kind=6∧FC c.number e.ids=0 then 41
 else if c.kind=6∧1<FC c.number e.ids then 5 else 0
theorem QC {l:List Int} (hs:F4 l) {n:Int}:idx (fun y=>n==y) l=if Cs l n=true then ((DB l n:Nat):Int) else -1:=by
 by_cases h:Cs l n=true
 ·
  rw [if_pos h]
  obtain ⟨y,hy⟩:=at_ (He h)
  have lE:y=n:=by have h2:=L_ rfl hy;rw [h] at h2;simpa using h2.symm
  exact (Dy (p:=fun y=>n==y) hy (by simp [lE]) (fun j z hj hz=>by have:=Po hj hz;simp;omega)).symm
 ·
  rw [if_neg h]
  refine (Eh (p:=fun y=>n==y) (fun j z hj hz=> ?_)).symm
  simp only [beq_eq_false_iff_ne,ne_eq]
  intro hn;subst hn
  rcases Nat.lt_trichotomy j (DB l n) with h1|h1|h1
  · have:=Po h1 hz;omega
  · subst h1;exact h (by rw [L_ rfl hz];simp)
  ·
   obtain ⟨y,hy⟩:=at_ (l:=l) (k:=DB l n) (by have:=A1 hz;omega)
   have h2:=Tu hy
   have h3:=Pp hs h1 hy hz
   omega
theorem aK {l:List Du} {n:Int} {x:Du} (h0:¬A0 n l<0) (hx:l[(A0 n l).toNat]? =some x):(1<FC n l)↔((l.drop (A0 n l+1).toNat).any fun x=>x.BX==n)=true:=by
 obtain ⟨y,hy,hp,hlt⟩:=Iz (p:=GL n) (l:=l) (by rw [←FR];omega)
 rw [←FR] at hy hlt
 have hsplit:l=l.take (A0 n l).toNat++y::l.drop ((A0 n l).toNat+1):=by
  rw [List.getElem?_eq_getElem hlt] at hy;cases hy
  rw [List.getElem_cons_drop];exact (List.take_append_drop _ _).symm
 have h1:(l.take (A0 n l).toNat).countP (GL n)=0:=by
  refine KT.1 (Int.not_le.1 fun h2=> ?_)
  obtain ⟨z,hz,hzp,hzl⟩:=Iz h2
  have e1:A0 n l=idx (GL n) (l.take (A0 n l).toNat):=by
   obtain ⟨i,hi⟩:∃i:Nat,idx (GL n) (l.take (A0 n l).toNat)=(i:Int):=⟨_,(Int.toNat_of_nonneg h2).symm⟩
   have h3:((l.take (A0 n l).toNat).findIdx? (GL n))=some i:=by
    unfold idx at hi;cases h4:(l.take (A0 n l).toNat).findIdx? (GL n) with
    |none=>rw [h4] at hi;simp at hi
    |some k=>rw [h4] at hi;rw [show k=i by simp at hi;omega]
   have h5:l.findIdx? (GL n)=some i:=by
    rw [←List.take_append_drop (A0 n l).toNat l,List.findIdx?_append,h3];rfl
   have e2:idx (GL n) l=(i:Int):=by unfold idx;rw [h5]
   exact e2.trans hi.symm
  rw [←e1] at hzl;rw [List.length_take] at hzl;omega
 have h2:l.countP (GL n)=1+(l.drop ((A0 n l).toNat+1)).countP (GL n):=by
  conv=>lhs;rw [hsplit]
  rw [List.countP_append,h1,List.countP_cons,hp];simp;omega
 unfold FC;rw [h2,show (A0 n l+1).toNat=(A0 n l).toNat+1 by omega]
 show _↔(List.any _ (GL n))=true
 rw [List.any_eq_true,←List.countP_pos_iff];omega
theorem aL {l:List Int} {n:Int}:decide (0≤idx (fun y=>n==y) l)=l.any fun y=>n==y:=KE _ _
theorem MR {l:List Int} (hs:F4 l) {n:Int}:decide (0≤idx (fun y=>n==y) l)=Cs l n:=by
 rw [QC hs];cases Cs l n<;>simp
theorem RW {e:A5} {c:BA} (hce:B_ e=true) (hc:Ec c):Ju e c=match A6 e c with| .error f=>f| .ok _=>0:=by
 have ok:=CE.1 hce
 have ha:=Ek ok.eX;have hh:=Ek ok.hash
 have hk:=hc.1
 unfold Ju
 rw [if_neg (by rw [hce];decide),if_neg (not_not_intro hc)]
 have h0:c.kind=1∨c.kind=2∨c.kind=3∨c.kind=4∨c.kind=5∨c.kind=6∨c.kind=7∨c.kind=8∨c.kind=9∨c.kind=10∨c.kind=11∨c.kind=12:=by omega
 rcases h0 with h|h|h|h|h|h|h|h|h|h|h|h
 ·
  rw [MC h];unfold DQ FD;simp only [h]
  by_cases h1:c.at_<0∨(e.AJ.length:Int)<c.at_
  ·
   have h2:¬(0≤c.at_∧c.at_≤(e.AJ.length:Int)):=by omega
   simp [h1,h2]
  ·
   have h2:0≤c.at_∧c.at_≤(e.AJ.length:Int):=by omega
   have h3:=aL (l:=e.AJ) (n:=c.number)
   have h4:(0≤idx (fun y=>c.number==y) e.AJ)↔(e.AJ.any fun y=>c.number==y)=true:=by rw [←h3,decide_eq_true_eq]
   by_cases h5:(e.AJ.any fun y=>c.number==y)=true
   · have h6:=h4.2 h5;simp only [h5];simp [h1,h2,h6]
   ·
    have h6:¬0≤idx (fun y=>c.number==y) e.AJ:=fun h=>h5 (h4.1 h)
    simp only [h5];simp [h1,h2,h6]
 ·
  rw [MD h];unfold DQ FD H9;simp only [h]
  by_cases h1:idx (fun y=>c.number==y) e.AJ<0
  · simp [h1]
  · simp [h1]
 · rw [ME h];unfold DQ FD;simp only [h];by_cases h1:e.most=c.number<;>simp [h1]
 · rw [MF h];unfold DQ FD;simp only [h];by_cases h1:e.least=c.number<;>simp [h1]
 ·
  rw [MG h];unfold DQ FD;simp only [h]
  have e6:=KT (p:=GL c.Bj.BX) (l:=e.ids)
  rw [←FR] at e6
  by_cases h1:c.at_<0∨(e.ids.length:Int)<c.at_
  ·
   have h2:¬(0≤c.at_∧c.at_≤(e.ids.length:Int)):=by omega
   simp [h1,h2]
  ·
   have h3:0≤c.at_∧c.at_≤(e.ids.length:Int):=by omega
   by_cases h2:0≤A0 c.Bj.BX e.ids
   ·
    have:0<FC c.Bj.BX e.ids:=by unfold FC;omega
    simp [h1,h2,h3,this]
   ·
    have:¬0<FC c.Bj.BX e.ids:=by unfold FC;omega
    simp [h1,h2,h3,this]
 ·
  rw [MH h];unfold DQ FD;simp only [h]
  have e6:=KT (p:=GL c.number) (l:=e.ids)
  rw [←FR] at e6
  by_cases h2:A0 c.number e.ids<0
  ·
   have:FC c.number e.ids=0:=by unfold FC;omega
   cases e.ids[(A0 c.number e.ids).toNat]? <;>simp [h2,this]
  ·
   have h3:¬FC c.number e.ids=0:=by unfold FC;omega
   obtain ⟨x,hx,_,_⟩:=Iz (p:=fun x:Du=>x.BX==c.number) (l:=e.ids) (by unfold A0 at h2;omega)
   have hx:e.ids[(A0 c.number e.ids).toNat]? =some x:=hx
   have hd:=aK h2 hx
   rw [hx];simp only [if_neg h2]
   by_cases h4:((e.ids.drop (A0 c.number e.ids+1).toNat).any fun x=>x.BX==c.number)=true
   · have:=hd.2 h4;simp only [h4];simp [h3,this]
   ·
    have:¬1<FC c.number e.ids:=fun h5=>h4 (hd.1 h5)
    simp only [h4];simp [h3,this]
 ·
  rw [MI h];unfold DQ FD;simp only [h]
  have h1:(0≤idx (fun y=>c.number==y) e.anchors)↔Cs e.anchors c.number=true:=by rw [←MR ha,decide_eq_true_eq]
  by_cases h2:Cs e.anchors c.number=true
  · have h3:=h1.2 h2;simp [h2,h3]
  ·
   have h3:¬0≤idx (fun y=>c.number==y) e.anchors:=fun h=>h2 (h1.1 h)
   simp [h2,h3]
 ·
  rw [MJ h];unfold DQ FD;simp only [h]
  have h1:(0≤idx (fun y=>c.number==y) e.anchors)↔Cs e.anchors c.number=true:=by rw [←MR ha,decide_eq_true_eq]
  by_cases h2:Cs e.anchors c.number=true
  · have h3:=h1.2 h2;simp [h2,h3]
  ·
   have h3:¬0≤idx (fun y=>c.number==y) e.anchors:=fun h=>h2 (h1.1 h)
   simp [h2,h3]
 ·
  rw [MK h];unfold DQ FD;simp only [h]
  have h1:(0≤idx (fun y=>c.number==y) e.hashes)↔Cs e.hashes c.number=true:=by rw [←MR hh,decide_eq_true_eq]
  by_cases h2:Cs e.hashes c.number=true
  · have h3:=h1.2 h2;simp [h2,h3]
  ·
   have h3:¬0≤idx (fun y=>c.number==y) e.hashes:=fun h=>h2 (h1.1 h)
   simp [h2,h3]
 ·
  rw [KO h];unfold DQ FD;simp only [h]
  have h1:(0≤idx (fun y=>c.number==y) e.hashes)↔Cs e.hashes c.number=true:=by rw [←MR hh,decide_eq_true_eq]
  by_cases h2:Cs e.hashes c.number=true
  · have h3:=h1.2 h2;simp [h2,h3]
  ·
   have h3:¬0≤idx (fun y=>c.number==y) e.hashes:=fun h=>h2 (h1.1 h)
   simp [h2,h3]
 ·
  rw [KP h];unfold DQ FD;simp only [h]
  by_cases h1:0≤c.number∧c.number≤1
  ·
   have:¬(c.number≠0∧c.number≠1):=by omega
   by_cases h2:D8 e.Fq=c.number<;>simp [this,h1,h2]
  ·
   have:c.number≠0∧c.number≠1:=by omega
   simp [this,h1]
 ·
  rw [KQ h];unfold DQ FD;simp only [h]
  by_cases h1:0≤c.number∧c.number≤1
  ·
   have:¬(c.number≠0∧c.number≠1):=by omega
   by_cases h2:D8 e.own=c.number<;>simp [this,h1,h2]
  ·
   have:c.number≠0∧c.number≠1:=by omega
   simp [this,h1]
theorem aM {e:A5} {c:BA} (h:Ju e c≠0):CR e c=(BZ,BB,Ju e c):=by
 by_cases hce:B_ e=false
 ·
  have:Ju e c=19:=by unfold Ju;rw [if_pos hce]
  rw [this];unfold CR;rw [if_pos hce]
 ·
  by_cases hc:Ec c
  ·
   have hce:B_ e=true:=by simpa using hce
   have hs:=RW hce hc
   cases h2:A6 e c with
   |error f=>rw [h2] at hs;rw [F6 hce hc h2,show Ju e c=f from hs]
   |ok r=>rw [h2] at hs;exact absurd hs h
  ·
   have:Ju e c=40:=by unfold Ju;rw [if_neg hce,if_pos hc]
   rw [this];unfold CR;rw [if_neg hce,if_pos hc]
theorem e7 {e:A5} {c:BA} (h:Ju e c=0):B_ e=true∧Ec c∧∃e2 b,A6 e c= .ok (e2,b):=by
 by_cases hce:B_ e=false
 ·
  have:Ju e c=19:=by unfold Ju;rw [if_pos hce]
  rw [this] at h;cases h
 ·
  by_cases hc:Ec c
  ·
   have hce:B_ e=true:=by simpa using hce
   have hs:=RW hce hc
   cases h2:A6 e c with
   |error f=>
    rw [h2] at hs;rw [h] at hs
    have h3:(0:Int)=f:=hs
    have:=RK hc h2;omega
   |ok r=>exact ⟨hce,hc,r.1,r.2,rfl⟩
  ·
   have:Ju e c=40:=by unfold Ju;rw [if_neg hce,if_pos hc]
   rw [this] at h;cases h
theorem Nj {β γ:Type} {f:β→γ} {l:List β} {k:Nat} {x:β} (h:l[k]? =some x):(l.take k).map f++[f x]=(l.take (k+1)).map f:=by rw [List.take_add_one,h,List.map_append];rfl
theorem Nk {x:Du} (hx:x.small):A_ prog 80 [agg (Az x)] (agg (Az x)):=by
 refine fo func80 rfl ⟨rfl,rfl⟩ fun M0 w0=> ?_
 have hch:=hx.chain
 refine Tr.seq (Tr.Aq (tp rfl (Bl rfl (Va rfl)) ?_))
 refine Tl rfl rfl rfl rfl HP HO (fun b1=> ?_)
 refine ap ?_
 refine ap ?_
 refine Tl rfl rfl rfl rfl HP HO (fun b2=> ?_)
 refine ap ?_
 refine ac ?_
 refine Ej 2 3 12 13 14 rfl (Tr.block (Tr.HN 0 [int x.Bp,int x.bits,int x.BX,As (.slice none 0 0) (slice 15 ((x.chain.take 0).map CZ))] rfl ⟨Lr,Lr,Lr,Dr rfl,trivial⟩ (Tr.EY 131 15 (Tr.Gn [(2,_),(3,_),(12,_),(13,_)] ⟨ke rfl,ke rfl,ke rfl,ke rfl,trivial⟩ (fun k v=>[(14,int ((k:Nat):Int))]) (fun k v=>Hp M0 w0 Mg ([BJ 131 15 v,AE true b2 27 [int x.Bp,int x.bits,int x.BX,As v (slice 15 ((x.chain.take k).map CZ))],AE true b1 27 (([.int .i64 0,.int .i64 0,.int .i64 0,.slice none 0 0]:List Value).map is)])) (fun k:Nat=>k≤(x.chain).length) (fun k:Nat=>(x.chain).length-k) 0 (.slice none 0 0) (Nat.zero_le _) ⟨ke rfl,trivial⟩ (fun _ _ h=>h) ?_))))
 rintro k v BN
 refine ac ?_
 refine Tr.seq ?_
 refine Tr.cn rfl ?_ ?_<;>intro h1 q1
 have Ac:k<(x.chain).length:=AU h1
 obtain ⟨c,Aa⟩:=at_ Ac
 have hcn:=hx.names c (List.mem_of_getElem? Aa)
 refine ac ?_
 refine Tr.seq (Tr.block (Tr.seq (Tr.Aq (tp rfl (AA rfl underlying25 CC (vl rfl) (vl rfl) (by omega) (by exact AX (by assumption))) ?_))))
 refine tp rfl (AH rfl Dh CC (vl rfl) rfl rfl) ?_
 refine Tl rfl rfl rfl rfl z131 Gg (fun b3=> ?_)
 refine ap ?_
 refine ap ?_
 refine tp rfl (Iw rfl underlying74 G0 jG z9 rfl (by decide) (vl rfl) (by simp only [List.length_map];unfold maxLen;omega) (by simp only [List.length_map];omega)) ?_
 refine ap ?_
 refine HH 2 3 5 12 13 14 rfl ?_
 refine ap ?_
 refine TO.Ex 1 rfl rfl (by decide) (DF rfl rfl rfl rfl underlying25 CC Te z131 (Kb rfl) (Kf rfl) (B6 (by exact List.Mem.head _) (Ka rfl))) (fun v1=> ?_)
 refine ap ?_
 refine Tr.drop 0 ?_
 refine ac ?_
 refine Fin.HN 1 [int x.Bp,int x.bits,int x.BX,As v1 (slice 15 ((x.chain.take (k+1)).map CZ))] rfl ⟨Lr,Lr,Lr,Dc (Nj (f:=CZ) Aa),trivial⟩ (Fin.Gd (k+1) v1 (⟨Ac,by omega⟩) ⟨⟨_,rfl,AK k⟩,ke rfl,ke rfl,ke rfl,ke rfl,trivial⟩ (fun _ _ h=>h))
 have A4:k=(x.chain).length:=by have:=AV h1;omega
 subst A4
 refine ac ?_
 refine ap ?_
 refine Tr.ret (Fin.CU rfl (AW.cell 2 rfl rfl E2 BR rfl (Lr)) ?_)
 · exact Ab ⟨Lr,Lr,Lr,Pr.le_trans (A7 _ _) (Pr.le_of_eq (by rw [List.take_length])),trivial⟩
theorem Oq {e:A5} (CJ:e.small):A_ prog 96 [agg (Ah e)] (agg (Ah e)):=by
 refine fo func96 rfl ⟨rfl,rfl⟩ fun M0 w0=> ?_
 have hs1:=CJ.AJ
 have K1:=CJ.anchors
 have SS:=CJ.hashes
 have Uw:=CJ.I0
 refine Tr.seq (Tr.Aq (tp rfl (Bl rfl (Va rfl)) ?_))
 refine Tl rfl rfl rfl rfl z32 Df (fun b1=> ?_)
 refine ao ?_
 refine ao ?_
 refine Tl rfl rfl rfl rfl z32 Df (fun b2=> ?_)
 refine TO.AY 0 rfl rfl rfl (vl rfl) (Va rfl) rfl A8 rfl rfl ?_
 refine ao ?_
 refine Tr.seq (Tr.rx ?_)
 refine ax ?_
 refine xo rfl (fun _=>Iw rfl underlying22 CO OJ z3 rfl (by decide) (vl rfl) (by simp only [List.length_map];unfold maxLen;omega) (by simp only [List.length_map];omega)) ?_
 refine ax ?_
 refine xo rfl (fun _=>Iw rfl underlying22 CO OJ z3 rfl (by decide) (vl rfl) (by simp only [List.length_map];unfold maxLen;omega) (by simp only [List.length_map];omega)) ?_
 refine ax ?_
 refine xo rfl (fun _=>Iw rfl underlying22 CO OJ z3 rfl (by decide) (vl rfl) (by simp only [List.length_map];unfold maxLen;omega) (by simp only [List.length_map];omega)) ?_
 refine xo rfl (fun _=>AD rfl Ea (vl rfl)) (Cx.C7 0 rfl rfl (An rfl rfl (vl rfl) (Vo rfl) Fl rfl (by exact Nb rfl) rfl) (xo rfl (fun _=>AD rfl IL (vl rfl)) (Cx.C7 0 rfl rfl (An rfl rfl (vl rfl) (Vo rfl) Fl rfl (by exact Nb rfl) rfl) (xo rfl (fun _=>AD rfl IM (vl rfl)) (Cx.C7 0 rfl rfl (An rfl rfl (vl rfl) (Vo rfl) Fl rfl (by exact Nb rfl) rfl) ?_)))))
 refine Cx.nil ⟨by kernel_rfl,?_⟩
 refine BV.done ZS (Fin.go (Cg 1 2 3 rfl ?_))
 refine ao ?_
 refine TO.C7 0 rfl rfl (An rfl rfl (vl rfl) (Vo rfl) Li rfl (by exact Nb rfl) rfl) ?_
 refine ao ?_
 refine ac ?_
 refine Tr.block (Tr.HN 0 [str e.name,int e.least,int e.most,ints e.AJ,bool e.own,As (.slice none 0 0) (slice 4 ((e.ids.take 0).map Az)),ints e.anchors,ints e.hashes,bool e.Fq] rfl ⟨Lr,Lr,Lr,Lr,Lr,Dr rfl,Lr,Lr,Lr,trivial⟩ (Tr.EY 27 4 (Tr.Gn [(2,_),(3,_),(21,_),(22,_)] ⟨ke rfl,ke rfl,ke rfl,ke rfl,trivial⟩ (fun k v=>[(23,int ((k:Nat):Int))]) (fun k v=>Hp M0 w0 Mg ([BJ 27 4 v,AE true b2 32 [str e.name,int e.least,int e.most,ints e.AJ,bool e.own,As v (slice 4 ((e.ids.take k).map Az)),ints e.anchors,ints e.hashes,bool e.Fq],AE true b1 32 (([.string (ByteArray.mk #[]),.int .i64 0,.int .i64 0,.slice none 0 0,.bool false,.slice none 0 0,.slice none 0 0,.slice none 0 0,.bool false]:List Value).map is)])) (fun k:Nat=>k≤(e.ids).length) (fun k:Nat=>(e.ids).length-k) 0 (.slice none 0 0) (Nat.zero_le _) ⟨ke rfl,trivial⟩ (fun _ _ h=>h) ?_)))
 rintro k v BN
 refine ac ?_
 refine Tr.seq ?_
 refine Tr.cn rfl ?_ ?_<;>intro h1 q1
 have Ac:k<(e.ids).length:=AU h1
 obtain ⟨x,Aa⟩:=at_ Ac
 have hxs:=CJ.ids x (List.mem_of_getElem? Aa)
 refine ac ?_
 refine Tr.seq (Tr.block (Tr.seq (Tr.Aq (tp rfl (AA rfl underlying30 BR (vl rfl) (vl rfl) (by omega) (by exact AX (by assumption))) ?_))))
 refine tp rfl (AH rfl E2 BR (vl rfl) rfl rfl) ?_
 refine Tl rfl rfl rfl rfl HP HO (fun b3=> ?_)
 refine sf 0 5 ⟨rfl,rfl,rfl⟩ rfl rfl rfl rfl ?_
 refine ao ?_
 refine Tr.pad (Tr.rx ?_)
 refine ax ?_
 refine xo rfl (fun _=>B1 (Nk hxs) rfl rfl) (xo rfl (fun _=>AG (xs:=[.tmp 30]) (rows:=[_]) rfl rfl underlying30 BR HP rfl (by decide) ⟨⟨(by exact rfl),(Va rfl)⟩,trivial⟩ (by decide)) ?_)
 refine Cx.ef 1 rfl rfl (by decide) (DF rfl rfl rfl rfl underlying30 BR J7 HP (Kb rfl) (Kf rfl) (B6 (by exact List.Mem.head _) (Ka rfl))) ?_
 refine xo rfl (fun _=>AD rfl EC (vl rfl)) (Cx.C7 2 rfl rfl (Dd rfl rfl rfl (vl rfl) rfl Li (by exact Nb rfl)) ?_)
 refine Cx.nil ⟨by kernel_rfl,?_⟩
 refine BV.M5 1 2 32 rfl rfl (by decide) rfl (fun v1=> ?_)
 refine BV.done I8 ?_
 refine ac ?_
 refine Tr.drop 0 (Ej 2 3 21 22 23 rfl ?_)
 refine ac ?_
 refine Fin.HN 1 [str e.name,int e.least,int e.most,ints e.AJ,bool e.own,As v1 (slice 4 ((e.ids.take (k+1)).map Az)),ints e.anchors,ints e.hashes,bool e.Fq] rfl ⟨Lr,Lr,Lr,Lr,Lr,Dc (Nj (f:=Az) Aa),Lr,Lr,Lr,trivial⟩ (Fin.Gd (k+1) v1 (⟨Ac,by omega⟩) ⟨⟨_,rfl,AK k⟩,ke rfl,ke rfl,ke rfl,ke rfl,trivial⟩ (fun _ _ h=>h))
 have A4:k=(e.ids).length:=by have:=AV h1;omega
 subst A4
 refine ac ?_
 refine ao ?_
 refine TO.AY 2 rfl rfl rfl (vl rfl) (Va rfl) rfl A8 rfl rfl ?_
 refine ao ?_
 refine Tr.ret (Fin.CU rfl (AW.cell 2 rfl rfl BM A8 rfl (Lr)) ?_)
 · exact Ab ⟨Lr,Lr,Lr,Lr,Lr,Pr.le_trans (A7 _ _) (Pr.le_of_eq (by rw [List.take_length])),Lr,Lr,Lr,trivial⟩
theorem QD {e:A5} {c:BA} (CJ:e.small) (hcs:c.Bj.small):A_ prog 75 [agg (Ah e),agg (Am c)] (int (Ju e c)):=by
 refine fo func75 rfl ⟨rfl,rfl⟩ fun M0 w0=> ?_
 refine ac ?_
 refine ac ?_
 refine co rfl (B1 (K8 CJ) rfl rfl) ?_
 refine ac ?_
 refine Tr.cn rfl ?_ ?_<;>intro h1 q1
 refine ac ?_
 refine ac ?_
 · refine int_eq ?_;unfold Ju;repeat (refine (if_pos ?_).symm;simp_all)
 refine ac ?_
 refine ac ?_
 refine co rfl (B1 (VA (c:=c) hcs) rfl rfl) ?_
 refine ac ?_
 refine Tr.cn rfl ?_ ?_<;>intro h2 q2
 refine ac ?_
 refine ac ?_
 · refine int_eq ?_;unfold Ju;repeat (first|(refine (if_pos ?_).symm;omega)|(refine Eq.trans ?_ (if_neg ?_).symm;rotate_left;focus (simp_all;done)))
 refine ac ?_
 refine B3 2 3 rfl (Tr.Nw [2,3] [] (¬(c.kind=1∧(c.at_<0∨(e.AJ.length:Int)<c.at_))∧¬(c.kind=5∧(c.at_<0∨(e.ids.length:Int)<c.at_))∧¬((c.kind=11∨c.kind=12)∧(c.number≠0∧c.number≠1))) ?_ (fun sN=> ?_))
 refine ac ?_
 refine ac ?_
 refine Tr.cn rfl ?_ ?_<;>intro h4 q4
 refine ac ?_
 refine Ch.cs 27 rfl ?_ ?_<;>intro h5 q5
 refine ac ?_
 refine Cg 2 3 34 rfl ?_
 refine ac ?_
 refine ac ?_
 · refine int_eq ?_;unfold Ju;repeat (first|(refine (if_pos ?_).symm;omega)|(refine Eq.trans ?_ (if_neg ?_).symm;rotate_left;focus (simp_all;done)))
 refine ac ?_
 refine Cg 2 3 34 rfl ?_
 refine Tr.cn rfl ?_ ?_<;>intro h6 q6
 refine ac ?_
 refine ac ?_
 · refine int_eq ?_;unfold Ju;repeat (first|(refine (if_pos ?_).symm;omega)|(refine Eq.trans ?_ (if_neg ?_).symm;rotate_left;focus (simp_all;done)))
 refine Tr.skip (Fin.block (Fin.AM () (by omega) (Nu rfl)))
 refine ac ?_
 refine Tr.cn rfl ?_ ?_<;>intro h7 q7
 refine ac ?_
 refine Ch.cs 40 rfl ?_ ?_<;>intro h8 q8
 refine ac ?_
 refine Cg 2 3 47 rfl ?_
 refine ac ?_
 refine ac ?_
 · refine int_eq ?_;unfold Ju;repeat (first|(refine Eq.trans ?_ (if_neg ?_).symm;rotate_left;focus (omega))|(refine (if_pos ?_).symm;omega)|(refine Eq.trans ?_ (if_neg ?_).symm;rotate_left;focus (simp_all;done)))
 refine ac ?_
 refine Cg 2 3 47 rfl ?_
 refine Tr.cn rfl ?_ ?_<;>intro h9 q9
 refine ac ?_
 refine ac ?_
 · refine int_eq ?_;unfold Ju;repeat (first|(refine Eq.trans ?_ (if_neg ?_).symm;rotate_left;focus (omega))|(refine (if_pos ?_).symm;omega)|(refine Eq.trans ?_ (if_neg ?_).symm;rotate_left;focus (simp_all;done)))
 refine Tr.skip (Fin.block (Fin.AM () (by omega) (Nu rfl)))
 refine ac ?_
 refine Tr.cn rfl ?_ ?_<;>intro h10 PZ
 refine ac ?_
 refine Tr.cond rfl (fun _=> ?_) (fun h=>nomatch h10.symm.trans h)
 refine ac ?_
 refine Ch.cs 54 rfl ?_ ?_<;>intro h11 Qx
 refine ac ?_
 refine Cg 2 3 58 rfl ?_
 refine Tr.cn rfl ?_ ?_<;>intro h12 Sb
 refine ac ?_
 refine ac ?_
 · refine int_eq ?_;unfold Ju;repeat (first|(refine Eq.trans ?_ (if_neg ?_).symm;rotate_left;focus (omega))|(refine (if_pos ?_).symm;omega)|(refine Eq.trans ?_ (if_neg ?_).symm;rotate_left;focus (simp_all;done)))
 refine Tr.skip (Fin.block (Fin.AM () (by omega) (Nu rfl)))
 refine ac ?_
 refine Cg 2 3 58 rfl (Tr.cond rfl (fun h=>nomatch h) (fun _=> ?_))
 refine Tr.skip (Fin.block (Fin.AM () (by omega) (Nu rfl)))
 refine ac ?_
 refine Tr.cn rfl ?_ ?_<;>intro H8 Tp
 refine ac ?_
 refine Ch.cs 54 rfl ?_ ?_<;>intro Jt W9
 refine ac ?_
 refine Cg 2 3 58 rfl ?_
 refine Tr.cn rfl ?_ ?_<;>intro N7 YG
 refine ac ?_
 refine ac ?_
 · refine int_eq ?_;unfold Ju;repeat (first|(refine Eq.trans ?_ (if_neg ?_).symm;rotate_left;focus (omega))|(refine (if_pos ?_).symm;omega)|(refine Eq.trans ?_ (if_neg ?_).symm;rotate_left;focus (simp_all;done)))
 refine Tr.skip (Fin.block (Fin.AM () (by omega) (Nu rfl)))
 refine ac ?_
 refine Cg 2 3 58 rfl (Tr.cond rfl (fun h=>nomatch h) (fun _=> ?_))
 refine Tr.skip (Fin.block (Fin.AM () (by omega) (Nu rfl)))
 refine Tr.skip (Fin.block (Fin.AM () (by omega) (Nu rfl)))
 refine B3 2 3 rfl (Tr.Nw [2,3] [] (¬((DQ e c.kind).2.2=true∧decide (0≤idx (fun y=>c.number==y) (DQ e c.kind).1)=(DQ e c.kind).2.1)) ?_ (fun sO=> ?_))
 refine ac ?_
 refine co rfl (C8 (RV) rfl rfl rfl) ?_
 refine ac ?_
 refine ac ?_
 refine Ch.cs 68 rfl ?_ ?_<;>intro NR YF
 refine ac ?_
 refine cy NR rfl (C8 (Hg) rfl rfl rfl) ?_
 refine ac ?_
 refine Cg 2 3 76 rfl ?_
 refine Tr.cn rfl ?_ ?_<;>intro NS bz
 refine ac ?_
 refine ac ?_
 · refine int_eq ?_;unfold Ju;repeat (first|(refine Eq.trans ?_ (if_neg ?_).symm;rotate_left;focus (omega))|(refine Eq.trans ?_ (if_neg ?_).symm;rotate_left;focus (simp_all;done))|(refine (if_pos ?_).symm;simp_all;done))
 refine Tr.skip (Fin.AM () (by simp_all) (Nu rfl))
 refine ac ?_
 refine Cg 2 3 76 rfl (Tr.cond rfl (fun h=>nomatch h) (fun _=> ?_))
 refine Tr.skip (Fin.AM () (by simp_all) (Nu rfl))
 refine B3 2 3 rfl (Tr.Nw [2,3] [] (¬((FD e c.kind).2=true∧(FD e c.kind).1=c.number)) ?_ (fun hval=> ?_))
 refine ac ?_
 refine co rfl (C8 (Sm) rfl rfl rfl) ?_
 refine ac ?_
 refine ac ?_
 refine Ch.cs 85 rfl ?_ ?_<;>intro NT iE
 refine ac ?_
 refine Cg 2 3 90 rfl ?_
 refine Tr.cn rfl ?_ ?_<;>intro Rq k6
 refine ac ?_
 refine ac ?_
 · refine int_eq ?_;unfold Ju;repeat (first|(refine Eq.trans ?_ (if_neg ?_).symm;rotate_left;focus (omega))|(refine Eq.trans ?_ (if_neg ?_).symm;rotate_left;focus (simp_all;done))|(refine (if_pos ?_).symm;simp_all;done))
 refine Tr.skip (Fin.AM () (by simp_all) (Nu rfl))
 refine ac ?_
 refine Cg 2 3 90 rfl (Tr.cond rfl (fun h=>nomatch h) (fun _=> ?_))
 refine Tr.skip (Fin.AM () (by simp_all) (Nu rfl))
 refine B3 2 3 rfl (Tr.Nw [2,3] [] (¬(c.kind=5∧0<FC c.Bj.BX e.ids)) ?_ (fun eE=> ?_))
 refine ac ?_
 refine Tr.cn rfl ?_ ?_<;>intro h23 q23
 refine ac ?_
 refine co rfl (C8 (K9 CJ.I0) rfl rfl rfl) ?_
 refine ac ?_
 refine Cg 2 3 10 rfl ?_
 refine ac ?_
 refine Tr.cn rfl ?_ ?_<;>intro h24 q24
 refine ac ?_
 refine ac ?_
 · refine int_eq ?_;unfold Ju;repeat (first|(refine Eq.trans ?_ (if_neg ?_).symm;rotate_left;focus (omega))|(refine (if_pos ?_).symm;omega)|(refine Eq.trans ?_ (if_neg ?_).symm;rotate_left;focus (simp_all;done)))
 refine Tr.skip (Fin.AM () (by omega) (Nu rfl))
 refine Tr.skip (Fin.AM () (by omega) (Nu rfl))
 refine ac ?_
 refine Tr.cn rfl ?_ ?_<;>intro h25 q25
 refine ac ?_
 refine co rfl (C8 (K9 CJ.I0) rfl rfl rfl) ?_
 refine ac ?_
 refine Es 12 rfl ?_
 refine ac ?_
 refine Tr.cn rfl ?_ ?_<;>intro h26 q26
 refine ac ?_
 refine ac ?_
 · refine int_eq ?_;unfold Ju;repeat (first|(refine Eq.trans ?_ (if_neg ?_).symm;rotate_left;focus (omega))|(refine (if_pos ?_).symm;omega)|(refine Eq.trans ?_ (if_neg ?_).symm;rotate_left;focus (simp_all;done)))
 refine ac ?_
 refine ac ?_
 refine Tr.cn rfl ?_ ?_<;>intro iH q27
 refine ac ?_
 refine ac ?_
 · refine int_eq ?_;unfold Ju;repeat (first|(refine Eq.trans ?_ (if_neg ?_).symm;rotate_left;focus (omega))|(refine (if_pos ?_).symm;omega)|(refine Eq.trans ?_ (if_neg ?_).symm;rotate_left;focus (simp_all;done)))
 refine ac ?_
 refine ac ?_
 refine ac ?_
 · refine int_eq ?_;unfold Ju;repeat (first|rfl|(refine Eq.trans ?_ (if_neg ?_).symm;rotate_left;focus (omega))|(refine Eq.trans ?_ (if_neg ?_).symm;rotate_left;focus (simp_all;done)))
 refine ac ?_
 refine ac ?_
 refine ac ?_
 · refine int_eq ?_;unfold Ju;repeat (first|rfl|(refine Eq.trans ?_ (if_neg ?_).symm;rotate_left;focus (omega))|(refine Eq.trans ?_ (if_neg ?_).symm;rotate_left;focus (simp_all;done)))
theorem qp {e e2:A5} {c b:BA} (h:c.kind=1) (hs:A6 e c= .ok (e2,b)):(0≤c.at_∧c.at_≤(e.AJ.length:Nat))∧e2={ e with AJ:=e.AJ.take c.at_.toNat++[c.number]++e.AJ.drop c.at_.toNat }∧b=⟨c.AP,2,c.number,0,Ay⟩:=by
 rw [MC h] at hs
 (repeat' (split at hs))<;>first|(cases hs;done)|(injection hs with hs;injection hs with h1 h2;exact ⟨by omega,h1.symm,h2.symm⟩)
theorem qq {e e2:A5} {c b:BA} (h:c.kind=2) (hs:A6 e c= .ok (e2,b)):(0≤H9 e c)∧e2={ e with AJ:=e.AJ.eraseIdx (H9 e c).toNat }∧b=⟨c.AP,1,c.number,H9 e c,Ay⟩:=by
 rw [MD h] at hs
 (repeat' (split at hs))<;>first|(cases hs;done)|(injection hs with hs;injection hs with h1 h2;exact ⟨by omega,h1.symm,h2.symm⟩)
theorem qt {e e2:A5} {c b:BA} (h:c.kind=3) (hs:A6 e c= .ok (e2,b)):e2={ e with most:=c.number }∧b=⟨c.AP,c.kind,e.most,0,Ay⟩:=by
 rw [ME h] at hs
 (repeat' (split at hs))<;>first|(cases hs;done)|(injection hs with hs;injection hs with h1 h2;exact ⟨h1.symm,h2.symm⟩)
theorem qu {e e2:A5} {c b:BA} (h:c.kind=4) (hs:A6 e c= .ok (e2,b)):e2={ e with least:=c.number }∧b=⟨c.AP,c.kind,e.least,0,Ay⟩:=by
 rw [MF h] at hs
 (repeat' (split at hs))<;>first|(cases hs;done)|(injection hs with hs;injection hs with h1 h2;exact ⟨h1.symm,h2.symm⟩)
theorem qv {e e2:A5} {c b:BA} (h:c.kind=5) (hs:A6 e c= .ok (e2,b)):(0≤c.at_∧c.at_≤(e.ids.length:Nat))∧e2={ e with ids:=e.ids.take c.at_.toNat++[c.Bj]++e.ids.drop c.at_.toNat }∧b=⟨c.AP,6,c.Bj.BX,0,Ay⟩:=by
 rw [MG h] at hs
 (repeat' (split at hs))<;>first|(cases hs;done)|(injection hs with hs;injection hs with h1 h2;exact ⟨by omega,h1.symm,h2.symm⟩)
theorem qw {e e2:A5} {c b:BA} (h:c.kind=6) (hs:A6 e c= .ok (e2,b)):∃x,e.ids[(A0 c.number e.ids).toNat]? =some x∧0≤A0 c.number e.ids∧e2={ e with ids:=e.ids.eraseIdx (A0 c.number e.ids).toNat }∧b=⟨c.AP,5,0,A0 c.number e.ids,x⟩:=by
 rw [MH h] at hs
 (repeat' (split at hs))<;>first|(cases hs;done)|(injection hs with hs;injection hs with h1 h2;exact ⟨_,by assumption,by omega,h1.symm,h2.symm⟩)
theorem qx {e e2:A5} {c b:BA} (h:c.kind=7) (hs:A6 e c= .ok (e2,b)):Cs e.anchors c.number=false∧e2={ e with anchors:=K4 e.anchors c.number }∧b=⟨c.AP,8,c.number,0,Ay⟩:=by
 rw [MI h] at hs
 (repeat' (split at hs))<;>first|(cases hs;done)|(injection hs with hs;injection hs with h1 h2;exact ⟨by simp_all,h1.symm,h2.symm⟩)
theorem qy {e e2:A5} {c b:BA} (h:c.kind=8) (hs:A6 e c= .ok (e2,b)):Cs e.anchors c.number=true∧e2={ e with anchors:=e.anchors.eraseIdx (DB e.anchors c.number) }∧b=⟨c.AP,7,c.number,0,Ay⟩:=by
 rw [MJ h] at hs
 (repeat' (split at hs))<;>first|(cases hs;done)|(injection hs with hs;injection hs with h1 h2;exact ⟨by simp_all,h1.symm,h2.symm⟩)
theorem qz {e e2:A5} {c b:BA} (h:c.kind=9) (hs:A6 e c= .ok (e2,b)):Cs e.hashes c.number=false∧e2={ e with hashes:=K4 e.hashes c.number }∧b=⟨c.AP,10,c.number,0,Ay⟩:=by
 rw [MK h] at hs
 (repeat' (split at hs))<;>first|(cases hs;done)|(injection hs with hs;injection hs with h1 h2;exact ⟨by simp_all,h1.symm,h2.symm⟩)
theorem lS {e e2:A5} {c b:BA} (h:c.kind=10) (hs:A6 e c= .ok (e2,b)):Cs e.hashes c.number=true∧e2={ e with hashes:=e.hashes.eraseIdx (DB e.hashes c.number) }∧b=⟨c.AP,9,c.number,0,Ay⟩:=by
 rw [KO h] at hs
 (repeat' (split at hs))<;>first|(cases hs;done)|(injection hs with hs;injection hs with h1 h2;exact ⟨by simp_all,h1.symm,h2.symm⟩)
theorem lT {e e2:A5} {c b:BA} (h:c.kind=11) (hs:A6 e c= .ok (e2,b)):e2={ e with Fq:=(c.number==1) }∧b=⟨c.AP,c.kind,D8 e.Fq,0,Ay⟩:=by
 rw [KP h] at hs
 (repeat' (split at hs))<;>first|(cases hs;done)|(injection hs with hs;injection hs with h1 h2;exact ⟨h1.symm,h2.symm⟩)
theorem lU {e e2:A5} {c b:BA} (h:c.kind=12) (hs:A6 e c= .ok (e2,b)):e2={ e with own:=(c.number==1) }∧b=⟨c.AP,c.kind,D8 e.own,0,Ay⟩:=by
 rw [KQ h] at hs
 (repeat' (split at hs))<;>first|(cases hs;done)|(injection hs with hs;injection hs with h1 h2;exact ⟨h1.symm,h2.symm⟩)
theorem aN {e:A5} {c:BA} (h:0≤H9 e c):(H9 e c).toNat<e.AJ.length:=by obtain ⟨_,_,_,h3⟩:=Iz (p:=fun y=>c.number==y) (l:=e.AJ) h;exact h3
theorem VB {e e2:A5} {c b:BA} (CJ:e.small) (hcs:c.Bj.small) (hce:B_ e=true) (hc:Ec c) (hs:A6 e c= .ok (e2,b)):A_ prog 76 [agg (Ah e),agg (Am c)] (agg (Ah e2)):=by
 refine fo func76 rfl ⟨rfl,rfl⟩ fun M0 w0=> ?_
 have hk:=hc.1
 have ok:=CE.1 hce
 have hs1:=CJ.AJ
 have K1:=CJ.anchors
 have SS:=CJ.hashes
 have Uw:=CJ.I0
 refine Tr.seq (Tr.Aq (tp rfl (Bl rfl (Va rfl)) (tp rfl (Bl rfl (Va rfl)) ?_)))
 refine Tl rfl rfl rfl rfl z32 Df (fun b1=> ?_)
 refine ap ?_
 refine ap ?_
 refine tp rfl (B1 (Oq CJ) rfl rfl) ?_
 refine Tl rfl rfl rfl rfl z32 Df (fun b2=> ?_)
 refine ap ?_
 refine ac ?_
 refine ac ?_
 refine Tr.cn rfl ?_ ?_<;>intro h1 q1
 obtain ⟨hr,rfl,rfl⟩:=qp q1 hs
 refine ap ?_
 refine tp rfl (Ae rfl (K_ (l:=e.AJ) (i:=c.at_.toNat) (by omega) hs1) ⟨ke rfl,⟨_,rfl,int_eq (by omega)⟩,ke rfl,trivial⟩) ?_
 refine ap ?_
 refine B3 4 5 rfl ?_
 refine ap ?_
 refine Tr.drop 0 (Tr.ret (Fin.CU rfl (AW.cell 0 rfl rfl BM A8 rfl (Lr)) ?_))
 · exact Lr
 refine ac ?_
 refine HH 2 3 4 5 13 24 rfl ?_
 refine Tr.cn rfl ?_ ?_<;>intro h2 q2
 obtain ⟨hr,rfl,rfl⟩:=qq q2 hs
 refine Tr.rx ?_
 refine ay ?_
 refine xo rfl (fun _=>C8 (Hg) rfl rfl rfl) ?_
 refine xo rfl (fun _=>Ae rfl (Hh (l:=e.AJ) (i:=(H9 e c).toNat) (aN hr) hs1) ⟨ke rfl,⟨_,rfl,int_eq (show H9 e c=_ by omega)⟩,trivial⟩) ?_
 refine ay ?_
 refine Cx.nil ⟨by kernel_rfl,?_⟩
 refine BV.done ZS ?_
 refine ac ?_
 refine B3 4 5 rfl ?_
 refine ap ?_
 refine Tr.drop 0 (Tr.ret (Fin.CU rfl (AW.cell 0 rfl rfl BM A8 rfl (Lr)) ?_))
 · exact Lr
 refine ac ?_
 refine Tr.cn rfl ?_ ?_<;>intro h3 q3
 obtain ⟨rfl,rfl⟩:=qt q3 hs
 refine ap ?_
 refine ap ?_
 refine Tr.drop 0 (Tr.ret (Fin.CU rfl (AW.cell 0 rfl rfl BM A8 rfl (Lr)) ?_))
 · exact Lr
 refine ac ?_
 refine Tr.cn rfl ?_ ?_<;>intro h4 q4
 obtain ⟨rfl,rfl⟩:=qu q4 hs
 refine ap ?_
 refine ap ?_
 refine Tr.drop 0 (Es 4 rfl (Tr.ret (Fin.CU rfl (AW.cell 0 rfl rfl BM A8 rfl (Lr)) ?_)))
 · exact Lr
 refine ac ?_
 refine Tr.cn rfl ?_ ?_<;>intro h5 q5
 obtain ⟨hr,rfl,rfl⟩:=qv q5 hs
 refine ap ?_
 refine tp rfl (El rfl underlying30 BR (vl rfl) (vl rfl) (by omega) (by simp;omega)) ?_
 refine TO.pad ?_
 refine TO.Ex 0 rfl rfl (by decide) (G4 rfl rfl (by decide) rfl underlying30 BR J7 HP rfl (by decide) ⟨_,rfl,AB _⟩ (vl rfl) (by simp only [List.length_map,List.length_append,List.length_cons,List.length_nil,List.length_take,List.length_drop];unfold maxLen;omega) (by simp only [List.length_map,List.length_append,List.length_cons,List.length_nil,List.length_take,List.length_drop];omega) (Bx (by exact List.Mem.head _) ⟨_,rfl,Ey 1⟩)) (fun v1=> ?_)
 refine ap ?_
 refine Fk 3 4 5 6 rfl ?_
 refine ap ?_
 refine tp rfl (B1 (Nk hcs) rfl rfl) (tp rfl (AG (xs:=[.tmp 56]) (rows:=[_]) rfl rfl underlying30 BR HP rfl (by decide) ⟨⟨(by exact rfl),(Va rfl)⟩,trivial⟩ (by decide)) ?_)
 refine TO.Ex 0 rfl rfl (by decide) (DF rfl rfl rfl rfl underlying30 BR J7 HP (Kb rfl) (Kf rfl) (B6 (by exact List.Mem.head _) (Ka rfl))) (fun v2=> ?_)
 refine ap ?_
 refine ap ?_
 refine tp rfl (DI rfl underlying30 BR (vl rfl) (vl rfl) (by omega) (by simp;omega)) ?_
 refine TO.Ex 0 rfl rfl (by decide) (DF rfl rfl rfl rfl underlying30 BR J7 HP (Kb rfl) (vl rfl) (B6 (by exact List.Mem.head _) (Ka rfl))) (fun v3=> ?_)
 refine ap ?_
 refine B3 4 5 rfl ?_
 refine ap ?_
 refine Tr.drop 1 (Tr.ret (Fin.CU rfl (AW.cell 1 rfl rfl BM A8 rfl (Lr)) ?_))
 · exact Ab ⟨Lr,Lr,Lr,Lr,Lr,Pr.le_trans (A7 _ _) (Pr.le_of_eq (by show _=slice 4 ((e.ids.take c.at_.toNat++[c.Bj]++e.ids.drop c.at_.toNat).map Az);simp [List.map_take,List.map_drop])),Lr,Lr,Lr,trivial⟩
 refine ac ?_
 refine HH 2 3 4 5 13 67 rfl ?_
 refine Tr.cn rfl ?_ ?_<;>intro h6 q6
 obtain ⟨x_,hx_,hr,rfl,rfl⟩:=qw q6 hs
 have hlt:=A1 hx_
 refine ac ?_
 refine co rfl (C8 (K9 Uw) rfl rfl rfl) ?_
 refine ac ?_
 refine Cg 4 5 8 rfl ?_
 refine ap ?_
 refine tp rfl (El rfl underlying30 BR (vl rfl) (vl rfl) (by omega) (by simp;omega)) ?_
 refine TO.pad ?_
 refine TO.Ex 0 rfl rfl (by decide) (G4 rfl rfl (by decide) rfl underlying30 BR J7 HP rfl (by decide) ⟨_,rfl,AB _⟩ (vl rfl) (by simp only [List.length_map,List.length_append,List.length_cons,List.length_nil,List.length_take,List.length_drop];unfold maxLen;omega) (by simp only [List.length_map,List.length_append,List.length_cons,List.length_nil,List.length_take,List.length_drop];omega) (Bx (by exact List.Mem.head _) ⟨_,rfl,Ey 1⟩)) (fun v4=> ?_)
 refine ap ?_
 refine ap ?_
 refine tp rfl (DI rfl underlying30 BR (vl rfl) (vl rfl) (by omega) (by simp;omega)) ?_
 refine TO.Ex 0 rfl rfl (by decide) (DF rfl rfl rfl rfl underlying30 BR J7 HP (Kb rfl) (vl rfl) (B6 (by exact List.Mem.head _) (Ka rfl))) (fun v5=> ?_)
 refine ap ?_
 refine B3 4 5 rfl ?_
 refine ap ?_
 refine Tr.drop 1 (Tr.ret (Fin.CU rfl (AW.cell 1 rfl rfl BM A8 rfl (Lr)) ?_))
 · exact Ab ⟨Lr,Lr,Lr,Lr,Lr,Pr.le_trans (A7 _ _) (Pr.le_of_eq (by show _=slice 4 ((e.ids.eraseIdx (A0 c.number e.ids).toNat).map Az);rw [List.eraseIdx_eq_take_drop_succ,show (A0 c.number e.ids+1).toNat=(A0 c.number e.ids).toNat+1 by omega];simp [List.map_take,List.map_drop])),Lr,Lr,Lr,trivial⟩
 refine ac ?_
 refine Tr.cn rfl ?_ ?_<;>intro h7 q7
 obtain ⟨hr,rfl,rfl⟩:=qx q7 hs
 refine ap ?_
 refine tp rfl (C8 (Lc K1) rfl rfl rfl) ?_
 refine ap ?_
 refine B3 4 5 rfl ?_
 refine ap ?_
 refine Tr.drop 0 (Tr.ret (Fin.CU rfl (AW.cell 0 rfl rfl BM A8 rfl (Lr)) ?_))
 · exact Lr
 refine ac ?_
 refine Tr.cn rfl ?_ ?_<;>intro h8 q8
 obtain ⟨hr,rfl,rfl⟩:=qy q8 hs
 refine Tr.rx ?_
 refine ay ?_
 refine xo rfl (fun _=>C8 (Hg) rfl rfl rfl) ?_
 refine xo rfl (fun _=>Ae rfl (Hh (l:=e.anchors) (i:=DB e.anchors c.number) (He hr) K1) ⟨ke rfl,⟨_,rfl,int_eq (by rw [QC (Ek ok.eX),if_pos hr])⟩,trivial⟩) ?_
 refine ay ?_
 refine Cx.nil ⟨by kernel_rfl,?_⟩
 refine BV.done ZS ?_
 refine ac ?_
 refine B3 4 5 rfl ?_
 refine ap ?_
 refine Tr.drop 0 (Tr.ret (Fin.CU rfl (AW.cell 0 rfl rfl BM A8 rfl (Lr)) ?_))
 · exact Lr
 refine ac ?_
 refine Tr.cn rfl ?_ ?_<;>intro h9 q9
 obtain ⟨hr,rfl,rfl⟩:=qz q9 hs
 refine ap ?_
 refine tp rfl (C8 (Lc SS) rfl rfl rfl) ?_
 refine ap ?_
 refine B3 4 5 rfl ?_
 refine ap ?_
 refine Tr.drop 0 (Tr.ret (Fin.CU rfl (AW.cell 0 rfl rfl BM A8 rfl (Lr)) ?_))
 · exact Lr
 refine ac ?_
 refine HH 2 3 4 5 13 116 rfl ?_
 refine Tr.cn rfl ?_ ?_<;>intro h10 PZ
 obtain ⟨hr,rfl,rfl⟩:=lS PZ hs
 refine Tr.rx ?_
 refine ay ?_
 refine xo rfl (fun _=>C8 (Hg) rfl rfl rfl) ?_
 refine xo rfl (fun _=>Ae rfl (Hh (l:=e.hashes) (i:=DB e.hashes c.number) (He hr) SS) ⟨ke rfl,⟨_,rfl,int_eq (by rw [QC (Ek ok.hash),if_pos hr])⟩,trivial⟩) ?_
 refine ay ?_
 refine Cx.nil ⟨by kernel_rfl,?_⟩
 refine BV.done ZS ?_
 refine ac ?_
 refine B3 4 5 rfl ?_
 refine ap ?_
 refine Tr.drop 0 (Tr.ret (Fin.CU rfl (AW.cell 0 rfl rfl BM A8 rfl (Lr)) ?_))
 · exact Lr
 refine ac ?_
 refine Tr.cn rfl ?_ ?_<;>intro h11 Qx
 obtain ⟨rfl,rfl⟩:=lT Qx hs
 refine ap ?_
 refine ap ?_
 refine Tr.drop 0 (Tr.ret (Fin.CU rfl (AW.cell 0 rfl rfl BM A8 rfl (Lr)) ?_))
 · exact Lr
 refine ac ?_
 refine Tr.cn rfl ?_ ?_<;>intro h12 Sb
 obtain ⟨rfl,rfl⟩:=lU Sb hs
 refine ap ?_
 refine B3 4 5 rfl ?_
 refine ap ?_
 refine Tr.drop 0 (Tr.ret (Fin.CU rfl (AW.cell 0 rfl rfl BM A8 rfl (Lr)) ?_))
 · exact Lr
 exfalso;omega
theorem Sn {e:A5} {c:BA} {n:Nat} (hz:e.sz n) (hn:n≤900000) (hi:c.Bj.fits∧c.Bj.small):A_ prog 19 [agg (Ah e),agg (Am c)] (Fa [agg (Ah (CR e c).1),int (CR e c).2.2]):=by
 refine fo func19 rfl ⟨rfl,rfl⟩ fun M0 w0=> ?_
 have CJ:=hz.small (by omega)
 have hcs:=hi.2
 refine Tr.seq (Tr.Aq (tp rfl (Bl rfl (Va rfl)) (tp rfl (Bl rfl (Va rfl)) ?_)))
 refine Tl rfl rfl rfl rfl z32 Df (fun b1=> ?_)
 refine ao ?_
 refine ac ?_
 refine co rfl (C8 (QD CJ hcs) rfl rfl rfl) ?_
 refine ac ?_
 refine an ?_ ?_<;>intro h1 q1
 have hb:=aM q1
 refine ao ?_
 refine TO.AY 0 rfl rfl rfl (vl rfl) (Va rfl) rfl A8 rfl rfl ?_
 refine ao ?_
 refine B3 4 5 rfl (Tr.ret (Fin.AF (Fin.C4 rfl (AW.cell 0 rfl rfl BM A8 rfl (Lr)) (AW.tmp rfl (Lr)) ?_)))
 refine BW ⟨?_,?_,trivial⟩
 · rw [hb];exact Ab ⟨Lr,Lr,Lr,AB 1,Lr,AB 4,AB 1,AB 1,Lr,trivial⟩
 · exact int_eq (by rw [hb])
 obtain ⟨hce,hc,e2,b,hs⟩:=e7 (e:=e) (c:=c) (by have:=q1;omega)
 have q_:=(T7 hc hs hz hi).1.small (by omega)
 refine ac ?_
 refine ao ?_
 refine tp rfl (C8 (VB CJ hcs hce hc hs) rfl rfl rfl) ?_
 refine Tl rfl rfl rfl rfl z32 Df (fun b2=> ?_)
 refine sf 0 7 ⟨rfl,rfl,rfl⟩ rfl rfl rfl rfl ?_
 refine ao ?_
 refine B3 4 7 rfl ?_
 refine ac ?_
 refine co rfl (B1 (K8 q_) rfl rfl) ?_
 refine an ?_ ?_<;>intro h2 q2
 have hb:=I2 hce hc hs (by have:=q2;cases h_:B_ e2<;>simp_all)
 refine ao ?_
 refine TO.AY 0 rfl rfl rfl (vl rfl) (Va rfl) rfl A8 rfl rfl ?_
 refine ao ?_
 refine Tr.ret (Fin.AF (Fin.C4 rfl (AW.cell 0 rfl rfl BM A8 rfl (Lr)) (AW.tmp rfl (Lr)) ?_))
 refine BW ⟨?_,?_,trivial⟩
 · rw [hb];exact Ab ⟨Lr,Lr,Lr,AB 1,Lr,AB 4,AB 1,AB 1,Lr,trivial⟩
 · exact int_eq (by rw [hb])
 have hb:=HD hce hc hs (by have:=q2;cases h_:B_ e2<;>simp_all)
 refine ac ?_
 refine ao ?_
 refine TO.AY 0 rfl rfl rfl (vl rfl) (Va rfl) rfl A8 rfl rfl ?_
 refine ao ?_
 refine Tr.ret (Fin.C4 rfl (AW.cell 0 rfl rfl BM A8 rfl (Lr)) (AW.tmp rfl (Lr)) ?_)
 refine BW ⟨?_,?_,trivial⟩
 · rw [hb];exact Lr
 · exact int_eq (by rw [hb])
end Go.Proofs.YtppeeogffbpcbaaGreat
