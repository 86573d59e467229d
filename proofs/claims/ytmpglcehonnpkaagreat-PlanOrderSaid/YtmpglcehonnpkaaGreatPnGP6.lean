/-
  Part 6 of the texts that prove this claim, merged.
-/
import Derived.Test.YtmpglcehonnpkaaGreatPnGP5
set_option linter.all false
set_option maxRecDepth 40000
set_option maxHeartbeats 16000000
namespace Go.Proofs.YtmpglcehonnpkaaGreat
open Go Go.RowKit Cp Go.Proofs.Tryz
theorem af {e:C0} {i:Nat} {x:HE} (h:EY e=true) (hx:e.A_[i]? =some x):(0≤x.client∧x.client<(e.BW.length:Nat))∧(0≤x.server∧x.server<(e.BW.length:Nat)):=by
 have h1:=(C7.1 h).ed i (by rcases Nat.lt_or_ge i e.A_.length with h'|h';exact h';rw [List.getElem?_eq_none h'] at hx;cases hx)
 unfold Cz at h1
 rw [hx] at h1
 simp only [Option.getD_some,Bool.and_eq_true,decide_eq_true_eq] at h1
 omega
theorem W_ {e:C0} {i:Int} (hf:e.fits):Az prog 145 [agg (Bw e),int i] (Cp.ex fun z:Bk×Bk×Int=>fact (z.2.2=0→z.1∈e.BW∧z.2.1∈e.BW) (EI [agg (BP z.1),agg (BP z.2.1),int z.2.2])):=by
 refine fo func145 rfl ⟨rfl,rfl⟩ fun M0 w0=>(Tr.seq (Tr.An (tp rfl (BZ rfl (Va rfl)) ?_)))
 refine Tl rfl rfl rfl rfl z70 HR (fun b1=> ?_)
 refine Tl rfl rfl rfl rfl z70 HR (fun b2=> ?_)
 refine ap ?_
 refine ac ?_
 refine co rfl (Ce (DA hf) rfl rfl) ?_
 refine an ?_ ?_<;>intro h1 q1
 refine ap ?_
 refine Tr.ret (Fin.AB (Fin.ES rfl (AP.cell 1 rfl rfl CW B5 rfl (Lr)) (AP.cell 0 rfl rfl CW B5 rfl (Lr)) (AP.tmp rfl (Lr)) ?_))
 · exact AG (DV,DV,_) (AU (fun h=>absurd h (by decide)) (Am ⟨(Ar ⟨Lr,Lr,Lr,AF 1,Lr,AF 4,AF 1,AF 1,Lr,trivial⟩),(Ar ⟨Lr,Lr,Lr,AF 1,Lr,AF 4,AF 1,AF 1,Lr,trivial⟩),Lr,trivial⟩))
 have Qa:EY e=true:=by cases h_:EY e with|true=>rfl|false=>exact absurd h1 (by rw [h_];decide)
 refine ac ?_
 refine ag ?_ ?_<;>intro h2 q2
 refine ac ?_
 refine JV 1 2 4 5 20 rfl (Tr.cond rfl (fun _=> ?_) (fun h=>nomatch h))
 refine Tr.seq (Tr.An (tp rfl (Ai (rows:=[]) rfl ck HR trivial rfl) (tp rfl (Ai (rows:=[]) rfl ck HR trivial rfl) (TO.AK 1 rfl rfl rfl (vl rfl) (Va rfl) rfl B5 rfl rfl (TO.AK 0 rfl rfl rfl (vl rfl) (Va rfl) rfl B5 rfl rfl (tm rfl (TO.nil (Fin.go (Tr.ret (Fin.AB (Fin.ES rfl (AP.cell 1 rfl rfl CW B5 rfl (Lr)) (AP.cell 0 rfl rfl CW B5 rfl (Lr)) (AP.tmp rfl (Lr)) ?_)))))))))))
 · exact AG (DV,DV,_) (AU (fun h=>absurd h (by decide)) (Am ⟨(Ar ⟨Lr,Lr,Lr,AF 1,Lr,AF 4,AF 1,AF 1,Lr,trivial⟩),(Ar ⟨Lr,Lr,Lr,AF 1,Lr,AF 4,AF 1,AF 1,Lr,trivial⟩),Lr,trivial⟩))
 refine ac ?_
 refine JV 1 2 4 5 20 rfl ?_
 refine Tr.cn rfl ?_ ?_<;>intro h3 q3
 refine ap ?_
 refine Tr.ret (Fin.AB (Fin.ES rfl (AP.cell 1 rfl rfl CW B5 rfl (Lr)) (AP.cell 0 rfl rfl CW B5 rfl (Lr)) (AP.tmp rfl (Lr)) ?_))
 · exact AG (DV,DV,_) (AU (fun h=>absurd h (by decide)) (Am ⟨(Ar ⟨Lr,Lr,Lr,AF 1,Lr,AF 4,AF 1,AF 1,Lr,trivial⟩),(Ar ⟨Lr,Lr,Lr,AF 1,Lr,AF 4,AF 1,AF 1,Lr,trivial⟩),Lr,trivial⟩))
 obtain ⟨x,hx⟩:=at_ (l:=e.A_) (k:=i.toNat) (by omega)
 obtain ⟨hxc,hxs⟩:=af Qa hx
 obtain ⟨c,hc⟩:=at_ (l:=e.BW) (k:=x.client.toNat) (by omega)
 obtain ⟨y,hy⟩:=at_ (l:=e.BW) (k:=x.server.toNat) (by omega)
 refine ac ?_
 refine Tr.seq (Tr.rx ?_)
 refine ay ?_
 refine xo rfl (fun _=>AA rfl underlying26 F_ (vl rfl) (vl rfl) (by omega) (BB hx)) ?_
 refine ay ?_
 refine xo rfl (fun _=>AA rfl underlying25 B5 (vl rfl) (vl rfl) (by omega) (BB hc)) ?_
 refine ay ?_
 refine xo rfl (fun _=>AA rfl underlying26 F_ (vl rfl) (vl rfl) (by omega) (BB hx)) ?_
 refine ay ?_
 refine xo rfl (fun _=>AA rfl underlying25 B5 (vl rfl) (vl rfl) (by omega) (BB hy)) ?_
 refine ay ?_
 refine Cx.nil ⟨by kernel_rfl,?_⟩
 refine BQ.done VE (Fin.go (CR 4 5 6 rfl (Tr.ret (Fin.ES rfl (AP.cell 1 rfl rfl CW B5 rfl (Lr)) (AP.cell 0 rfl rfl CW B5 rfl (Lr)) (AP.tmp rfl (Lr)) ?_))))
 · exact AG (c,y,_) (AU (fun _=>⟨List.mem_of_getElem? hc,List.mem_of_getElem? hy⟩) (Lr))
theorem OK {e:C0} {i day:Int} (hf:e.fits):Az prog 133 [agg (Bw e),int i,int day] (Cp.ex fun z:Int×Int×Int=>fact True (EI [agg [int z.1,int z.2.1],int z.2.2])):=by
 refine fo func133 rfl ⟨rfl,rfl⟩ fun M0 w0=>(Tr.seq (Tr.An (tp rfl (BZ rfl (Va rfl)) ?_)))
 refine Tl rfl rfl rfl rfl H8 Ed (fun b1=> ?_)
 refine ao ?_
 refine ao ?_
 refine tp rfl (CS (W_ hf) rfl rfl rfl) ?_
 refine TO.ex 14 rfl (fun z1=>TO.fact 14 rfl fun FM=> ?_)
 refine ao ?_
 refine Tl rfl rfl rfl rfl z70 HR (fun b2=> ?_)
 refine Tl rfl rfl rfl rfl z70 HR (fun b3=> ?_)
 refine sf 1 8 ⟨rfl,rfl,rfl⟩ rfl rfl rfl rfl ?_
 refine sf 0 9 ⟨rfl,rfl,rfl⟩ rfl rfl rfl rfl ?_
 refine ao ?_
 refine JV 2 6 8 9 10 rfl ?_
 refine an ?_ ?_<;>intro h1 q1
 refine ao ?_
 refine TO.AK 0 rfl rfl rfl (vl rfl) (Va rfl) rfl Bm rfl rfl ?_
 refine ao ?_
 refine Tr.ret (Fin.AB (Fin.BD rfl (AP.cell 0 rfl rfl CU Bm rfl (Lr)) (AP.tmp rfl (Lr)) ?_))
 · exact AG (_,_,_) (AU trivial (Lr))
 have hz0:z1.2.2=0:=by have:=q1;omega
 refine ac ?_
 refine ao ?_
 refine tp rfl (JH (Sa (hf.BW _ (FM hz0).1).2 (hf.BW _ (FM hz0).2).2) rfl rfl rfl rfl) ?_
 refine TO.ex 25 rfl (fun z2=>TO.fact 25 rfl fun HC=> ?_)
 refine ao ?_
 refine TO.AK 0 rfl rfl rfl (vl rfl) (Va rfl) rfl Bm rfl rfl ?_
 refine ao ?_
 refine CY 6 7 rfl (Tr.ret (Fin.BD rfl (AP.cell 0 rfl rfl CU Bm rfl (Lr)) (AP.tmp rfl (Lr)) ?_))
 · exact AG (_,_,_) (AU trivial (Lr))
theorem L8 {e:C0} {i from_ LG:Int} (hf:e.fits):Az prog 102 [agg (Bw e),int i,int from_,int LG] (Cp.ex fun z:Int×Int×Int=>fact True (EI [agg [int z.1,int z.2.1],int z.2.2])):=by
 refine fo func102 rfl ⟨rfl,rfl⟩ fun M0 w0=>(Tr.seq (Tr.An (tp rfl (BZ rfl (Va rfl)) ?_)))
 refine Tl rfl rfl rfl rfl H8 Ed (fun b1=> ?_)
 refine ao ?_
 refine ao ?_
 refine tp rfl (JH (OK hf) rfl rfl rfl rfl) ?_
 refine TO.ex 16 rfl (fun z1=>TO.fact 16 rfl fun FM=> ?_)
 refine ao ?_
 refine Tl rfl rfl rfl rfl H8 Ed (fun b2=> ?_)
 refine sf 0 10 ⟨rfl,rfl,rfl⟩ rfl rfl rfl rfl ?_
 refine ao ?_
 refine I_ 1 2 3 4 8 10 11 rfl ?_
 refine an ?_ ?_<;>intro h1 q1
 refine ao ?_
 refine TO.AK 0 rfl rfl rfl (vl rfl) (Va rfl) rfl Bm rfl rfl ?_
 refine ao ?_
 refine Tr.ret (Fin.AB (Fin.BD rfl (AP.cell 0 rfl rfl CU Bm rfl (Lr)) (AP.tmp rfl (Lr)) ?_))
 · exact AG (_,_,_) (AU trivial (Lr))
 refine ac ?_
 refine ao ?_
 refine tp rfl (JH (OK hf) rfl rfl rfl rfl) ?_
 refine TO.ex 27 rfl (fun z2=>TO.fact 27 rfl fun HC=> ?_)
 refine ao ?_
 refine JV 2 3 8 10 11 rfl ?_
 refine an ?_ ?_<;>intro h2 q2
 refine ao ?_
 refine TO.AK 0 rfl rfl rfl (vl rfl) (Va rfl) rfl Bm rfl rfl ?_
 refine ao ?_
 refine Tr.ret (Fin.AB (Fin.BD rfl (AP.cell 0 rfl rfl CU Bm rfl (Lr)) (AP.tmp rfl (Lr)) ?_))
 · exact AG (_,_,_) (AU trivial (Lr))
 refine ac ?_
 refine an ?_ ?_<;>intro h3 q3
 refine ao ?_
 refine TO.AK 0 rfl rfl rfl (vl rfl) (Va rfl) rfl Bm rfl rfl ?_
 refine ao ?_
 refine Tr.ret (Fin.AB (Fin.BD rfl (AP.cell 0 rfl rfl CU Bm rfl (Lr)) (AP.tmp rfl (Lr)) ?_))
 · exact AG (_,_,_) (AU trivial (Lr))
 refine ac ?_
 refine ao ?_
 refine TO.AK 0 rfl rfl rfl (vl rfl) (Va rfl) rfl Bm rfl rfl ?_
 refine ao ?_
 refine Tr.ret (Fin.BD rfl (AP.cell 0 rfl rfl CU Bm rfl (Lr)) (AP.tmp rfl (Lr)) ?_)
 · exact AG (z1.1,z1.2.1,0) (AU trivial (Lr))
abbrev OL:Pr:=slice 7 []
abbrev Ko:Pr:=agg [slice 6 [],slice 2 []]
abbrev Q7:Pr:=agg [slice 1 [],int 0]
theorem L9   :Az prog 44 [Ko] (int 0):=by
 refine Az.of func44 rfl rfl (by exact Nb rfl) fun M0 w0=> ?_
 refine Tr.seq (Tr.AW (co rfl (BZ rfl (Va rfl)) (cm rfl (Ch.nil (Fin.go (Tr.seq (Tr.seq (Tr.AW (co rfl (Kt rfl TQ rfl rfl) (co rfl (DQ rfl YT rfl) (co rfl (Br rfl underlying52 (vl rfl)) (co rfl (ki rfl rfl rfl rfl) (cm rfl ?_)))))))))))))
 refine Ch.cs 9 rfl ?_ ?_<;>intro h1 q1
 iterate 4 refine cnf h1 rfl ?_
 refine co rfl (HK rfl rfl h1 rfl) (Ch.nil (Fin.go (Tr.cond rfl (fun _=> ?_) (fun h=>nomatch h))))
 refine Tr.seq (Tr.AW (cm rfl (Ch.nil (Fin.go (Tr.ret (Fin.AB (Fin.DZ rfl (BE.CZ _ _) rfl ?_)))))))
 · refine int_eq ?_;simp_all
 refine cy h1 rfl (Kt rfl YU rfl rfl) (cy h1 rfl (DQ rfl g_ rfl) (cy h1 rfl (Br rfl underlying53 (vl rfl)) (cy h1 rfl (ki rfl rfl rfl rfl) (co rfl (HM rfl rfl h1 rfl) (Ch.nil (Fin.go ?_))))))
 refine Tr.cn rfl ?_ ?_<;>intro h2 q2
 exact absurd h2 (by decide)
 refine Tr.skip (Fin.go (Tr.seq (Tr.seq (Tr.AW (cm rfl (Ch.nil (Fin.go (Tr.block (Tr.A7 [(1,_)] ⟨ke rfl,trivial⟩ (fun k:Nat=>[(3,int ((k:Nat):Int))]) (fun k:Nat=>k=0) (fun k:Nat=>0) 0 (rfl) ⟨ke rfl,trivial⟩ ?_)))))))))
 rintro k hk0
 refine Tr.seq (Tr.seq (Tr.AW (cm rfl (co rfl (Kt rfl TQ rfl rfl) (co rfl (DQ rfl YT rfl) (co rfl (Br rfl underlying52 (vl rfl)) (co rfl (ki rfl rfl rfl rfl) (Ch.nil (Fin.go ?_)))))))))
 refine Tr.cn rfl ?_ ?_<;>intro h3 q3
 exfalso;have OZ:=D_.Ey h3;subst hk0;simp at OZ
 have RM:=h3
 refine Tr.exit (Fin.AS (Fin.AS (Fin.Ak (Fin.go (Tr.seq (Tr.seq (Tr.AW (cm rfl (Ch.nil (Fin.go (Tr.block (Tr.A7 [(1,_)] ⟨ke rfl,trivial⟩ (fun k:Nat=>[(4,int ((k:Nat):Int))]) (fun k:Nat=>k=0) (fun k:Nat=>0) 0 (rfl) ⟨ke rfl,trivial⟩ ?_))))))))))))
 rintro k hk0
 refine Tr.seq (Tr.seq (Tr.AW (cm rfl (co rfl (Kt rfl YU rfl rfl) (co rfl (DQ rfl g_ rfl) (co rfl (Br rfl underlying53 (vl rfl)) (co rfl (ki rfl rfl rfl rfl) (Ch.nil (Fin.go ?_)))))))))
 refine Tr.cn rfl ?_ ?_<;>intro h4 q4
 exfalso;have OZ:=D_.Ey h4;subst hk0;simp at OZ
 have RM:=h4
 refine Tr.exit (Fin.AS (Fin.AS (Fin.Ak (Fin.go (Tr.seq (Tr.AW (cm rfl (Ch.nil (Fin.go (Tr.ret (Fin.DZ rfl (BE.CZ _ _) rfl ?_)))))))))))
 · exact Lr
theorem Sc {a b p:Int}  :Az prog 167 [Ko,agg [int a,int b],int p] (anyI):=by
 refine fo func167 rfl ⟨rfl,rfl⟩ fun M0 w0=> ?_
 · repeat' first|exact absurd h (by decide)|exact AG _ (Lr)|refine co rfl (Ce (L9) rfl rfl) ?_|refine co rfl (Ce (IL (Bq:=a) (bits:=b)) rfl rfl) ?_|refine ac ?_|(refine Tr.cn rfl ?_ ?_<;>intro h q)|(refine Ch.cg rfl rfl rfl ?_ ?_<;>intro h q)
theorem JM {a b p d:Int}  :Az prog 169 [Ko,agg [int a,int b],int p,int d] (int (-1)):=by
 refine fo func169 rfl ⟨rfl,rfl⟩ fun M0 w0=> ?_
 refine a2 ?_
 refine co rfl (Br rfl underlying52 (vl rfl)) ?_
 refine ac ?_
 refine Tr.block (Tr.A7 [(2,_),(3,_),(4,_),(5,_)] (TN rfl) (fun k:Nat=>[(9,int (-1))]) (fun k:Nat=>True) (fun k:Nat=>0) 0 (trivial) ⟨ke rfl,trivial⟩ ?_)
 rintro k _
 refine an ?_ ?_<;>intro h1 q1
 exact absurd h1 (by decide)
 have RM:=h1
 refine a3 ?_
 · exact Lr
theorem Oq {a b p d:Int}  :Az prog 168 [Ko,agg [int a,int b],int p,int d] (bool true):=by
 refine fo func168 rfl ⟨rfl,rfl⟩ fun M0 w0=> ?_
 · repeat' first|exact Lr|exact absurd h (by decide)|refine co rfl (Yz (JM) rfl rfl rfl rfl rfl) ?_|refine ac ?_|(refine Ch.cg rfl rfl rfl ?_ ?_<;>intro h q)
theorem Ot {a b p d:Int}  :Az prog 154 [Ko,agg [int a,int b],int p,int d] (EI [DW,anyI,anyI]):=by
 refine fo func154 rfl ⟨rfl,rfl⟩ fun M0 w0=> ?_
 refine a2 ?_
 refine co rfl (JH (Sc) rfl rfl rfl rfl) ?_
 refine ac ?_
 refine Tr.seq (Tr.ex 11 rfl fun x11=> ?_)
 refine an ?_ ?_<;>intro h1 q1
 refine ac ?_
 refine CR 8 9 10 rfl (Tr.ret (Fin.AB (Fin.HH rfl (BE.CZ _ _) rfl ?_ rfl ?_ rfl ?_)))
 · exact AG _ (Lr)
 · exact AG _ (Lr)
 · exact AG _ (Lr)
 refine ac ?_
 refine ag ?_ ?_<;>intro h2 q2
 refine ac ?_
 refine JV 2 3 4 5 24 rfl ?_
 refine ac ?_
 refine Tr.ret (Fin.AB (Fin.HH rfl (BE.CZ _ _) rfl ?_ rfl ?_ rfl ?_))
 · exact AG _ (Lr)
 · exact AG _ (Lr)
 · exact AG _ (Lr)
 refine ac ?_
 refine JV 2 3 4 5 24 rfl ?_
 refine Tr.cn rfl ?_ ?_<;>intro h3 q3
 refine ac ?_
 refine Tr.ret (Fin.AB (Fin.HH rfl (BE.CZ _ _) rfl ?_ rfl ?_ rfl ?_))
 · exact AG _ (Lr)
 · exact AG _ (Lr)
 · exact AG _ (Lr)
 refine a2 ?_
 refine co rfl (Yz (Oq) rfl rfl rfl rfl rfl) ?_
 refine ac ?_
 refine co rfl (Yz (JM) rfl rfl rfl rfl rfl) ?_
 refine ac ?_
 refine CR 8 9 10 rfl (Tr.ret (Fin.HH rfl (BE.CZ _ _) rfl ?_ rfl ?_ rfl ?_))
 · exact AG _ (Lr)
 · exact AG _ (Lr)
 · exact AG _ (Lr)
theorem XA   :Az prog 155 [OL] (int 0):=by
 refine fo func155 rfl ⟨rfl,rfl⟩ fun M0 w0=> ?_
 refine a2 ?_
 refine Tr.block (Tr.A7 [(0,_)] ⟨ke rfl,trivial⟩ (fun k:Nat=>[(3,int ((k:Nat):Int))]) (fun k:Nat=>k=0) (fun k:Nat=>0) 0 (rfl) ⟨ke rfl,trivial⟩ ?_)
 rintro k hk0
 refine ac ?_
 refine co rfl (Br rfl underlying88 (vl rfl)) ?_
 refine an ?_ ?_<;>intro h1 q1
 exfalso;have OZ:=D_.Ey h1;subst hk0;simp at OZ
 have RM:=h1
 refine a3 ?_
 · exact Lr
theorem XB {a b p d:Int} {s:List UInt8}  :Az prog 156 [OL,Q7,agg [int a,int b],int p,str s,int d] (bool false):=by
 refine fo func156 rfl ⟨rfl,rfl⟩ fun M0 w0=> ?_
 refine a2 ?_
 refine Tr.block (Tr.A7 [(0,_),(3,_),(4,_),(5,_),(7,_),(8,_)] (gv rfl) (fun k:Nat=>[(13,int ((k:Nat):Int))]) (fun k:Nat=>k=0) (fun k:Nat=>0) 0 (rfl) ⟨ke rfl,trivial⟩ ?_)
 rintro k hk0
 refine ac ?_
 refine co rfl (Br rfl underlying88 (vl rfl)) ?_
 refine an ?_ ?_<;>intro h1 q1
 exfalso;have OZ:=D_.Ey h1;subst hk0;simp at OZ
 have RM:=h1
 refine a3 ?_
 · exact Lr
theorem Ou {a b p d:Int} {s:List UInt8}  :Az prog 148 [Ko,OL,Q7,agg [int a,int b],int p,str s,int d] (EI [DW,anyI]):=by
 refine fo func148 rfl ⟨rfl,rfl⟩ fun M0 w0=> ?_
 refine a2 ?_
 refine co rfl (Yz (Ot) rfl rfl rfl rfl rfl) ?_
 refine ac ?_
 refine Jx 1 4 5 6 9 10 16 18 rfl (Tr.seq (Tr.seq (Tr.ex 18 rfl fun x18=>(Tr.ex 16 rfl fun x16=> ?_))))
 refine an ?_ ?_<;>intro h1 q1
 refine ac ?_
 refine Tr.ret (Fin.AB (Fin.DN rfl (BE.CZ _ _) rfl ?_ rfl ?_))
 · exact AG _ (Lr)
 · exact AG _ (Lr)
 refine a2 ?_
 refine co rfl (Ce (XA) rfl rfl) ?_
 refine a2 ?_
 refine Oe 1 4 5 6 9 10 16 19 35 rfl ?_
 refine Tr.cn rfl ?_ ?_<;>intro h2 q2
 exact absurd h2 (by decide)
 refine ac ?_
 refine ag ?_ ?_<;>intro h3 q3
 refine ac ?_
 refine CY 14 15 rfl (Tr.ret (Fin.DN rfl (BE.CZ _ _) rfl ?_ rfl ?_))
 · exact AG _ (Lr)
 · exact AG _ (Lr)
 refine ac ?_
 refine cy h3 rfl (AQ rfl (XB) ⟨ke rfl,ke rfl,ke rfl,ke rfl,ke rfl,ke rfl,trivial⟩) ?_
 refine ac ?_
 refine CY 14 15 rfl (Tr.ret (Fin.DN rfl (BE.CZ _ _) rfl ?_ rfl ?_))
 · exact AG _ (Lr)
 · exact AG _ (Lr)
theorem UP {e:Bk} {a b d:Int} (he:e.small):Az prog 140 [Ko,OL,Q7,agg (BP e),agg [int a,int b],int d] (EI [DW,anyI]):=by
 refine fo func140 rfl ⟨rfl,rfl⟩ fun M0 w0=> ?_
 refine ac ?_
 refine ap ?_
 refine tp rfl (CS (LV he) rfl rfl rfl) ?_
 refine TO.ex 23 rfl (fun z1=>TO.fact 23 rfl fun FM=> ?_)
 refine ap ?_
 refine I_ 1 5 6 8 9 14 15 rfl ?_
 refine an ?_ ?_<;>intro h1 q1
 refine ac ?_
 refine Tr.ret (Fin.AB (Fin.DN rfl (BE.CZ _ _) rfl ?_ rfl ?_))
 · exact AG _ (Lr)
 · exact AG _ (Lr)
 refine a3 ?_
 refine Tr.block (Tr.A7 [(1,_),(5,_),(6,_),(8,_),(9,_),(14,_)] (gv rfl) (fun k:Nat=>[(17,int ((k:Nat):Int)),(16,DW)]) (fun k:Nat=>k≤(z1.1).length) (fun k:Nat=>(z1.1).length-k) 0 (Nat.zero_le _) ⟨ke rfl,⟨_,rfl,AG _ (Lr)⟩,trivial⟩ ?_)
 rintro k BN
 refine Tr.ex 16 rfl fun x16=> ?_
 refine an ?_ ?_<;>intro h2 q2
 have Af:k<(z1.1).length:=AH h2
 obtain ⟨x,Ad⟩:=at_ Af
 refine a2 ?_
 refine co rfl (AA rfl underlying117 JA (vl rfl) (vl rfl) (by omega) (AO Ad)) ?_
 refine ac ?_
 refine co rfl (AQ rfl (Ou (a:=x.1) (b:=x.2)) ⟨ke rfl,ke rfl,ke rfl,ke rfl,ke rfl,ke rfl,ke rfl,trivial⟩) ?_
 refine ac ?_
 refine G0 1 5 6 8 9 14 16 17 18 19 rfl (Tr.seq (Tr.seq (Tr.ex 19 rfl fun x19=>(Tr.ex 18 rfl fun x18=> ?_))))
 refine an ?_ ?_<;>intro h3 q3
 refine ac ?_
 refine CY 12 13 rfl (Tr.ret (Fin.AB (Fin.AX (Fin.AB (Fin.AB (Fin.AX (Fin.AB (Fin.DN rfl (BE.CZ _ _) rfl ?_ rfl ?_))))))))
 · exact AG _ (Lr)
 · exact AG _ (Lr)
 · repeat' first|exact Fin.AM (k+1) ⟨Af,by omega⟩ ⟨⟨_,rfl,AD k⟩,⟨_,rfl,AG _ (Lr)⟩,ke rfl,ke rfl,ke rfl,ke rfl,ke rfl,ke rfl,trivial⟩|refine ac ?_|(refine Ch.cg rfl rfl rfl ?_ ?_<;>intro h q)
 have BI:k=(z1.1).length:=by have:=AJ h2;omega
 subst BI
 refine a2 ?_
 refine CY 12 13 rfl (Tr.ret (Fin.DN rfl (BE.CZ _ _) rfl ?_ rfl ?_))
 · exact AG _ (Lr)
 · exact AG _ (Lr)
theorem Il {d:Int}  :Az prog 30 [Ko,OL,int d] (anyI):=by
 refine fo func30 rfl ⟨rfl,rfl⟩ fun M0 w0=> ?_
 refine a2 ?_
 refine co rfl (Ce (L9) rfl rfl) ?_
 refine an ?_ ?_<;>intro h1 q1
 exact absurd h1 (by decide)
 refine a2 ?_
 refine co rfl (Br rfl underlying88 (vl rfl)) ?_
 refine ac ?_
 refine Tr.block (Tr.A7 [(2,_),(12,_),(13,_)] (MW rfl) (fun k:Nat=>[(14,int ((k:Nat):Int))]) (fun k:Nat=>k=0) (fun k:Nat=>0) 0 (rfl) ⟨ke rfl,trivial⟩ ?_)
 rintro k hk0
 refine ac ?_
 refine Tr.seq ?_
 refine Tr.cn rfl ?_ ?_<;>intro h2 q2
 exfalso;have OZ:=D_.Ey h2;subst hk0;simp at OZ
 have RM:=h2
 · repeat' first|exact AG _ (Lr)|refine ac ?_|(refine Tr.cn rfl ?_ ?_<;>intro h q)|(refine Ch.cg rfl rfl rfl ?_ ?_<;>intro h q)
abbrev Vv:Pr:=Cp.ex fun z:List (Int×Int)=>fact (z.length≤1000) (uses z)
structure Im (e:C0) (i:Int) (x:HE) (c s:Bk):Prop where
 i0:0≤i
 hx:e.A_[i.toNat]? =some x
 c0:0≤x.client
 s0:0≤x.server
 hc:e.BW[x.client.toNat]? =some c
 hs:e.BW[x.server.toNat]? =some s
 cs:c.small
 ss:s.small
theorem ah {e:C0} {i:Int} (hf:e.fits) (Qa:EY e=true) (h0:0≤i) (hi:i.toNat<e.A_.length):∃x c s,Im e i x c s:=by
 obtain ⟨x,hx⟩:=at_ hi
 obtain ⟨hxc,hxs⟩:=af Qa hx
 obtain ⟨c,hc⟩:=at_ (l:=e.BW) (k:=x.client.toNat) (by omega)
 obtain ⟨y,hy⟩:=at_ (l:=e.BW) (k:=x.server.toNat) (by omega)
 exact ⟨x,c,y,h0,hx,hxc.1,hxs.1,hc,hy,(hf.BW _ (List.mem_of_getElem? hc)).2,(hf.BW _ (List.mem_of_getElem? hy)).2⟩
theorem Im.li {e:C0} {i:Int} {x:HE} {c s:Bk} (h:Im e i x c s):i.toNat<e.A_.length:=by
 have:=h.hx
 rcases Nat.lt_or_ge i.toNat e.A_.length with h'|h'
 · exact h'
 · rw [List.getElem?_eq_none h'] at this;cases this
theorem Im.lc {e:C0} {i:Int} {x:HE} {c s:Bk} (h:Im e i x c s):x.client.toNat<e.BW.length:=by
 have:=h.hc
 rcases Nat.lt_or_ge x.client.toNat e.BW.length with h'|h'
 · exact h'
 · rw [List.getElem?_eq_none h'] at this;cases this
theorem Im.ls {e:C0} {i:Int} {x:HE} {c s:Bk} (h:Im e i x c s):x.server.toNat<e.BW.length:=by
 have:=h.hs
 rcases Nat.lt_or_ge x.server.toNat e.BW.length with h'|h'
 · exact h'
 · rw [List.getElem?_eq_none h'] at this;cases this
theorem Io {e:C0} {i:Int} {x:HE} {c s:Bk} (he:Im e i x c s):Az prog 128 [agg (Bw e),int i] (agg (BP s)):=by
 refine fo func128 rfl ⟨rfl,rfl⟩ fun M0 w0=> ?_
 have e1:=he.i0
 have e2:=he.c0
 have e3:=he.s0
 have e4:=he.li
 have e5:=he.lc
 have e6:=he.ls
 refine Tr.seq (Tr.An (tp rfl (BZ rfl (Va rfl)) ?_))
 refine Tl rfl rfl rfl rfl z70 HR (fun b1=> ?_)
 refine ap ?_
 refine Tr.seq (Tr.rx ?_)
 refine ay ?_
 refine xo rfl (fun _=>AA rfl underlying26 F_ (vl rfl) (vl rfl) (by omega) (BB he.hx)) ?_
 refine ay ?_
 refine xo rfl (fun _=>AA rfl underlying25 B5 (vl rfl) (vl rfl) (by omega) (BB he.hs)) ?_
 refine ay ?_
 refine Cx.nil ⟨by kernel_rfl,?_⟩
 refine BQ.done al1 (Fin.go (Tr.ret (Fin.CJ rfl (AP.cell 0 rfl rfl CW B5 rfl (Lr)) ?_)))
 · exact Lr
theorem L_ {e:C0} {i:Int} {x:HE} {c s:Bk} (he:Im e i x c s):Az prog 141 [agg (Bw e),int i] (Vv):=by
 refine fo func141 rfl ⟨rfl,rfl⟩ fun M0 w0=> ?_
 have e1:=he.i0
 have e2:=he.c0
 have e3:=he.s0
 have e4:=he.li
 have e5:=he.lc
 have e6:=he.ls
 refine ac ?_
 refine ao ?_
 refine tp rfl (AA rfl underlying26 F_ (vl rfl) (vl rfl) (by omega) (BB he.hx)) (tp rfl (AR rfl Rl F_ (vl rfl) rfl rfl) ?_)
 refine Tl rfl rfl rfl rfl jw Ya (fun b1=> ?_)
 refine sf 0 5 ⟨rfl,rfl,rfl⟩ rfl rfl rfl rfl ?_
 refine ao ?_
 refine ac ?_
 refine co rfl (AA rfl underlying25 B5 (vl rfl) (vl rfl) (by omega) (BB he.hc)) ?_
 refine ac ?_
 refine co rfl (AA rfl underlying25 B5 (vl rfl) (vl rfl) (by omega) (BB he.hs)) (co rfl (AR rfl CW B5 (vl rfl) rfl rfl) (co rfl (CS (Sb he.cs he.ss) rfl rfl rfl) ?_))
 refine ac ?_
 refine Eh 4 rfl ?_
 refine ac ?_
 · exact Lr
theorem UQ {a b:Bk} {x y:Int} (ha:a.small) (hb:b.small):Az prog 142 [agg (BP a),agg (BP b),agg [int x,int y]] (DW):=by
 refine fo func142 rfl ⟨rfl,rfl⟩ fun M0 w0=> ?_
 refine ac ?_
 refine ap ?_
 refine tp rfl (CS (LV ha) rfl rfl rfl) ?_
 refine TO.ex 15 rfl (fun z1=>TO.fact 15 rfl fun FM=> ?_)
 refine ap ?_
 refine CR 4 5 7 rfl ?_
 refine ap ?_
 refine tp rfl (CS (LV hb) rfl rfl rfl) ?_
 refine TO.ex 21 rfl (fun z2=>TO.fact 21 rfl fun HC=> ?_)
 refine ap ?_
 refine ac ?_
 refine CR 7 9 28 rfl ?_
 refine Tr.cn rfl ?_ ?_<;>intro h1 q1
 refine a2 ?_
 · exact AG _ (Lr)
 have VS:z1.1.length=z2.1.length:=by have h_:=q1;omega
 refine a2 ?_
 refine Tr.block (Tr.A7 [(7,_),(9,_),(30,_)] (MW rfl) (fun k:Nat=>[(31,int ((k:Nat):Int))]) (fun k:Nat=>k≤(z1.1).length) (fun k:Nat=>(z1.1).length-k) 0 (Nat.zero_le _) ⟨ke rfl,trivial⟩ ?_)
 rintro k BN
 refine ac ?_
 refine Tr.seq ?_
 refine Tr.cn rfl ?_ ?_<;>intro h2 q2
 have Af:k<(z1.1).length:=AH h2
 obtain ⟨x,Ad⟩:=at_ Af
 obtain ⟨y2,lU⟩:=at_ (l:=z2.1) (k:=k) (by omega)
 · repeat' first|exact AG _ (Lr)|exact Fin.AM (k+1) ⟨Af,by omega⟩ ⟨⟨_,rfl,AD k⟩,ke rfl,ke rfl,ke rfl,trivial⟩|refine co rfl (AA rfl underlying117 JA (vl rfl) (vl rfl) (by omega) (AO Ad)) ?_|refine co rfl (AA rfl underlying117 JA (vl rfl) (vl rfl) (by omega) (AO lU)) (co rfl (AR rfl Hu JA (vl rfl) rfl rfl) (co rfl (MY rfl (vl rfl) (vl rfl)) ?_))|refine ac ?_|(refine Tr.cn rfl ?_ ?_<;>intro h q)
 have BI:k=(z1.1).length:=by have:=AJ h2;omega
 subst BI
 refine a3 ?_
 · exact AG _ (Lr)
theorem XC {a b:C0} (ha:a.fits) (hb:b.fits):Az prog 126 [agg (Bw a),agg (Bw b)] (Cp.ex fun z:Int=>fact (z=0→EY a=true∧EY b=true∧a.A_.length=b.A_.length) (int z)):=by
 refine fo func126 rfl ⟨rfl,rfl⟩ fun M0 w0=>(Tr.Gg 0 1 rfl rfl fun I5=>(Tr.Gg 1 1 rfl rfl fun uj=> ?_))
 refine a2 ?_
 refine co rfl (Ce (DA ha) rfl rfl) ?_
 refine ag ?_ ?_<;>intro h1 q1
 refine a3 ?_
 · exact AG _ (AU (fun h_=>absurd h_ (by decide)) (Lr))
 refine cy h1 rfl (AR rfl Cu Ct (vl rfl) rfl rfl) (cy h1 rfl (Ce (DA hb) rfl rfl) ?_)
 refine an ?_ ?_<;>intro h2 q2
 refine a2 ?_
 · exact AG _ (AU (fun h_=>absurd h_ (by decide)) (Lr))
 refine a2 ?_
 refine CR 2 3 20 rfl ?_
 refine Tr.cn rfl ?_ ?_<;>intro h3 q3
 refine a2 ?_
 · exact AG _ (AU (fun h_=>absurd h_ (by decide)) (Lr))
 have VS:a.A_.length=b.A_.length:=by have h_:=q3;omega
 refine a2 ?_
 refine Tr.block (Tr.A7 [(2,_),(3,_),(23,_)] (MW rfl) (fun k:Nat=>[(24,int ((k:Nat):Int))]) (fun k:Nat=>k≤(a.A_).length) (fun k:Nat=>(a.A_).length-k) 0 (Nat.zero_le _) ⟨ke rfl,trivial⟩ ?_)
 rintro k BN
 refine ac ?_
 refine Tr.seq ?_
 refine Tr.cn rfl ?_ ?_<;>intro h4 q4
 have Af:k<(a.A_).length:=AH h4
 obtain ⟨x,Ad⟩:=at_ Af
 obtain ⟨y2,lU⟩:=at_ (l:=b.A_) (k:=k) (by omega)
 · repeat' first|exact AG _ (AU (fun h_=>absurd h_ (by decide)) (Lr))|exact Fin.AM (k+1) ⟨Af,by omega⟩ ⟨⟨_,rfl,AD k⟩,ke rfl,ke rfl,ke rfl,trivial⟩|refine co rfl (AA rfl underlying26 F_ (vl rfl) (vl rfl) (by omega) (AO Ad)) ?_|refine co rfl (AA rfl underlying26 F_ (vl rfl) (vl rfl) (by omega) (AO lU)) (co rfl (AR rfl Rl F_ (vl rfl) rfl rfl) (co rfl (ec rfl (vl rfl) (vl rfl)) ?_))|refine ac ?_|(refine Tr.cn rfl ?_ ?_<;>intro h q)
 have BI:k=(a.A_).length:=by have:=AJ h4;omega
 subst BI
 refine a3 ?_
 · exact AG 0 (AU (fun _=>⟨by simp_all,by simp_all,VS⟩) (Lr))
theorem lq {d:Nat} {w:World} {x0 y0:Int} {x1 y1:Int}:(Op.equalIn (d+2) 165 (.agg #[.int .i64 x0,.int .i64 x1]) (.agg #[.int .i64 y0,.int .i64 y1])).run Tryz.prog w= .ok (decide (x0=y0∧x1=y1)) w:=by
 have h:=eqS (w:=w) (d:=d+1) (xs:= #[.int .i64 x0,.int .i64 x1]) (ys:= #[.int .i64 y0,.int .i64 y1]) Tryz.underlying165 (by kernel_rfl) (ED (by decide) (Bn Bo rfl) (Bn Bo rfl) (FA (d:=d+0) Tryz.underlying3) (ED (by decide) (Bn Bo rfl) (Bn Bo rfl) (FA (d:=d+0) Tryz.underlying3) (KM)))
 refine h.trans (congrArg (fun b=>Result.ok b w) ?_)
 rw [Bool.eq_iff_iff];simp [and_assoc]
theorem aj {E:Env} {I:CT} {o:Oper} {u:TypeId} {x y:Operand} {x0 y0:Int} {x1 y1:Int} (ho:o.op= .binOp .eql 165 x y u) (hx:VL E x (agg [is (.int .i64 x0),is (.int .i64 x1)])) (hy:VL E y (agg [is (.int .i64 y0),is (.int .i64 y1)])):Ac Tryz.prog I o E (bool (decide (x0=y0∧x1=y1))):=
 NS [.int .i64 x0,.int .i64 x1] [.int .i64 y0,.int .i64 y1] ho hx hy (by kernel_rfl) (fun w=>by rw [show Op.equal 165 _ _=Op.equalIn (9998+2) 165 _ _ from rfl];exact lq)
theorem Az.outs {P:Program} {f:FuncId} {p0:Pr} {ps:List Pr} {res:Pr} (h:∀z:List (Int×Int),z.length≤1000→Az P f (p0::uses z::ps) res):Az P f (p0::Go.Proofs.YtmpglcehonnpkaaGreat.Vv::ps) res:=by
 refine ⟨(h [] (Nat.zero_le _)).1,fun M w vs hb hv=> ?_⟩
 match vs,hv with
 |u0::u1::us,⟨h0,⟨z,hz,h1⟩,h2⟩=>exact (h z hz).2 M w (u0::u1::us) hb ⟨h0,h1,h2⟩
section
variable {P:Program} {I:CT} {E:Env} {o:Oper}
theorem lu {t u:TypeId} {x y:Operand} (ho:o.op= .binOp .gtr t x y u) (hx:VL E x (FQ .i64)) (hy:VL E y (FQ .i64)):Ac P I o E DW:=
 Ac.same fun M w a he _=>by
  obtain ⟨m,h1⟩:=hx.ev he (by simp [ho,Op.operands])
  obtain ⟨n,h2⟩:=hy.ev he (by simp [ho,Op.operands])
  have h1:a.eval x= .int .i64 m:=h1
  have h2:a.eval y= .int .i64 n:=h2
  exact ⟨.bool (decide (m>n)),by simp [execOp,ho,h1,h2,eqGuard,binOp,Op.intCmp],_,rfl⟩
end
theorem XD {e:Bk} {all:List (Int×Int)} {d:Int} (he:e.small) (hl:all.length≤1000):Az prog 127 [agg (BP e),uses all,Ko,OL,Q7,int d] (Vv):=by
 refine fo func127 rfl ⟨rfl,rfl⟩ fun M0 w0=> ?_
 refine a3 ?_
 refine Tr.block (Tr.Bs 165 2 (Tr.Cc [(3,_),(5,_),(6,_),(8,_),(10,_),(18,_),(19,_)] ⟨ke rfl,ke rfl,ke rfl,ke rfl,ke rfl,ke rfl,ke rfl,trivial⟩ (fun (o:List (Int×Int)) (k:Nat) u=>[(20,int ((k:Nat):Int)),(13,Ag u (uses o))]) (fun (o:List (Int×Int)) (k:Nat) u=>Hp M0 w0 Eo ([Ap 165 2 u])) (fun (o:List (Int×Int)) (k:Nat)=>k≤all.length∧o.length≤k) (fun (o:List (Int×Int)) (k:Nat)=>all.length-k) ([]) (0) (.slice none 0 0) (⟨Nat.zero_le _,by simp⟩) ⟨ke rfl,⟨_,rfl,BX rfl⟩,trivial⟩ (fun _ _ h=>h) ?_))
 rintro o k u ⟨hk0,bu⟩
 refine ac ?_
 refine Tr.seq ?_
 refine Tr.cn rfl ?_ ?_<;>intro h1 q1
 have hk:k<all.length:=AH h1
 obtain ⟨y,hy⟩:=at_ hk
 refine ac ?_
 refine Tr.seq (Tr.block (Tr.seq (Tr.An (tp rfl (AA rfl underlying234 Bm (vl rfl) (vl rfl) (by omega) (AO hy)) (tp rfl (AR rfl CU Bm (vl rfl) rfl rfl) ?_)))))
 refine Tl rfl rfl rfl rfl H8 Ed (fun b1=> ?_)
 refine sf 0 15 ⟨rfl,rfl,rfl⟩ rfl rfl rfl rfl ?_
 refine ao ?_
 refine G0 3 5 6 8 10 13 15 18 19 20 rfl ?_
 refine ac ?_
 refine co rfl (AQ rfl (UP he) ⟨ke rfl,ke rfl,ke rfl,ke rfl,ke rfl,ke rfl,trivial⟩) ?_
 refine ac ?_
 refine ND 3 5 6 8 10 13 15 16 17 18 19 20 rfl (Tr.seq (Tr.ex 17 rfl fun x17=>(Tr.ex 16 rfl fun x16=> ?_)))
 refine ag ?_ ?_<;>intro h2 q2
 refine ac ?_
 refine EO 3 5 6 8 10 13 15 18 19 20 38 rfl ?_
 refine Tr.cn rfl ?_ ?_<;>intro h3 q3
 refine ao ?_
 refine TO.DP 0 rfl rfl (by decide) (Bl rfl rfl rfl rfl underlying234 Bm U6 H8 (Kb rfl) (Kf rfl) (Aq (by exact List.Mem.head _) (Ka rfl))) (fun v1=> ?_)
 refine ao ?_
 refine Oe 3 5 6 8 10 13 18 19 20 rfl ?_
 refine ac ?_
 exact Fin.BM (o++[(y.1,y.2)]) (k+1) v1 (⟨⟨by omega,by simp;omega⟩,by omega⟩) ⟨⟨_,rfl,AD k⟩,⟨_,rfl,Au (by rw [List.map_append];rfl)⟩,ke rfl,ke rfl,ke rfl,ke rfl,ke rfl,ke rfl,ke rfl,trivial⟩ (fun _ _ h=>h)
 refine a2 ?_
 exact Fin.BM (o) (k+1) u (⟨⟨by omega,by omega⟩,by omega⟩) ⟨⟨_,rfl,AD k⟩,⟨_,rfl,Au rfl⟩,ke rfl,ke rfl,ke rfl,ke rfl,ke rfl,ke rfl,ke rfl,trivial⟩ (fun _ _ h=>h)
 refine ac ?_
 refine EO 3 5 6 8 10 13 15 18 19 20 38 rfl ?_
 refine a2 ?_
 exact Fin.BM (o) (k+1) u (⟨⟨by omega,by omega⟩,by omega⟩) ⟨⟨_,rfl,AD k⟩,⟨_,rfl,Au rfl⟩,ke rfl,ke rfl,ke rfl,ke rfl,ke rfl,ke rfl,ke rfl,trivial⟩ (fun _ _ h=>h)
 have hk:=AJ h1
 refine a3 ?_
 · exact AG _ (AU (by omega) (Ah _ _))
theorem Q8 {a b:C0} {i:Int} {x x2:HE} {c s c2 s2:Bk} (ha:Im a i x c s) (hb:Im b i x2 c2 s2):Az prog 129 [agg (Bw a),agg (Bw b),int i] (Vv):=by
 refine fo func129 rfl ⟨rfl,rfl⟩ fun M0 w0=> ?_
 refine ac ?_
 refine ao ?_
 refine tp rfl (CS (L_ ha) rfl rfl rfl) ?_
 refine TO.ex 16 rfl (fun z1=>TO.fact 16 rfl fun FM=> ?_)
 refine ao ?_
 refine ac ?_
 refine ao ?_
 refine tp rfl (CS (L_ hb) rfl rfl rfl) ?_
 refine TO.ex 19 rfl (fun z2=>TO.fact 19 rfl fun HC=> ?_)
 refine ao ?_
 refine Jx 2 3 4 7 8 19 20 21 rfl (Tr.block (Tr.Bs 165 2 (Tr.Cc [(2,_),(3,_),(4,_),(7,_),(19,_),(20,_)] ⟨ke rfl,ke rfl,ke rfl,ke rfl,ke rfl,ke rfl,trivial⟩ (fun (o:List (Int×Int)) (k:Nat) u=>[(21,int ((k:Nat):Int)),(8,Ag u (uses o))]) (fun (o:List (Int×Int)) (k:Nat) u=>Hp M0 w0 Eo ([Ap 165 2 u])) (fun (o:List (Int×Int)) (k:Nat)=>k≤z2.length∧o.length≤k) (fun (o:List (Int×Int)) (k:Nat)=>z2.length-k) ([]) (0) (.slice none 0 0) (⟨Nat.zero_le _,by simp⟩) ⟨ke rfl,⟨_,rfl,BX rfl⟩,trivial⟩ (fun _ _ h=>h) ?_)))
 rintro o k u ⟨hk0,bu⟩
 refine ac ?_
 refine Tr.seq ?_
 refine Tr.cn rfl ?_ ?_<;>intro h1 q1
 have hk:k<z2.length:=AH h1
 obtain ⟨y,hy⟩:=at_ hk
 refine ac ?_
 refine Tr.seq (Tr.block (Tr.seq (Tr.An (tp rfl (AA rfl underlying234 Bm (vl rfl) (vl rfl) (by omega) (AO hy)) (tp rfl (AR rfl CU Bm (vl rfl) rfl rfl) ?_)))))
 refine Tl rfl rfl rfl rfl H8 Ed (fun b1=> ?_)
 refine sf 0 10 ⟨rfl,rfl,rfl⟩ rfl rfl rfl rfl ?_
 refine ao ?_
 refine Oe 2 3 4 7 8 10 19 20 21 rfl ?_
 refine a2 ?_
 refine Tr.block (Tr.A7 [(2,_),(3,_),(4,_),(7,_),(8,_),(10,_),(19,_),(20,_),(21,_),(25,_),(26,_)] (u9 rfl) (fun m:Nat=>[(27,int ((m:Nat):Int)),(11,DW)]) (fun m:Nat=>m≤(z1).length) (fun m:Nat=>(z1).length-m) 0 (Nat.zero_le _) ⟨ke rfl,⟨_,rfl,AG _ (Lr)⟩,trivial⟩ ?_)
 rintro m Kc
 refine Tr.ex 11 rfl fun x11=> ?_
 refine ac ?_
 refine MF 2 3 4 7 8 10 11 19 20 21 25 26 27 28 rfl (Tr.seq ?_)
 refine Tr.cn rfl ?_ ?_<;>intro h2 q2
 have Dg:m<(z1).length:=AH h2
 obtain ⟨w,Dq⟩:=at_ Dg
 refine ac ?_
 refine J_ 2 3 4 7 8 10 11 19 20 21 25 26 27 rfl (Tr.seq (Tr.block (Tr.seq (Tr.An (tp rfl (AA rfl underlying234 Bm (vl rfl) (vl rfl) (by omega) (AO Dq)) (tp rfl (AR rfl CU Bm (vl rfl) rfl rfl) ?_))))))
 refine Tl rfl rfl rfl rfl H8 Ed (fun b2=> ?_)
 refine sf 0 13 ⟨rfl,rfl,rfl⟩ rfl rfl rfl rfl ?_
 refine ao ?_
 · repeat' first|exact Fin.AM (m+1) ⟨Dg,by omega⟩ ⟨⟨_,rfl,AD m⟩,⟨_,rfl,AG _ (Lr)⟩,ke rfl,ke rfl,ke rfl,ke rfl,ke rfl,ke rfl,ke rfl,ke rfl,ke rfl,ke rfl,ke rfl,trivial⟩|refine cy h rfl (aj rfl (vl rfl) (vl rfl)) ?_|refine ac ?_|(refine Ch.cg rfl rfl rfl ?_ ?_<;>intro h q)
 have IY:m=(z1).length:=by have:=AJ h2;omega
 subst IY
 refine ac ?_
 refine G0 2 3 4 7 8 10 11 19 20 21 rfl ?_
 refine ag ?_ ?_<;>intro h4 q4
 refine ac ?_
 refine G0 2 3 4 7 8 10 19 20 21 50 rfl (Tr.cond rfl (fun _=> ?_) (fun h=>nomatch h))
 refine Tr.An (tm rfl (tp rfl (AR rfl CU Bm (vl rfl) rfl rfl) (tp rfl (AL (xs:=[.tmp 52]) (rows:=[_]) rfl rfl underlying234 Bm H8 rfl (by decide) ⟨⟨(by exact rfl),(Va rfl)⟩,trivial⟩ (by decide)) ?_)))
 refine TO.DP 0 rfl rfl (by decide) (Bl rfl rfl rfl rfl underlying234 Bm U6 H8 (Kb rfl) (Kf rfl) (Aq (by exact List.Mem.head _) (Ka rfl))) (fun v1=> ?_)
 refine ao ?_
 refine Jx 2 3 4 7 8 19 20 21 rfl ?_
 refine ac ?_
 exact Fin.BM (o++[(y.1,y.2)]) (k+1) v1 (⟨⟨by omega,by simp;omega⟩,by omega⟩) ⟨⟨_,rfl,AD k⟩,⟨_,rfl,Au (by rw [List.map_append];rfl)⟩,ke rfl,ke rfl,ke rfl,ke rfl,ke rfl,ke rfl,trivial⟩ (fun _ _ h=>h)
 refine ac ?_
 refine cy h4 rfl (CS (Io ha) rfl rfl rfl) ?_
 refine ac ?_
 refine cy h4 rfl (CS (Io hb) rfl rfl rfl) (cy h4 rfl (AR rfl CU Bm (vl rfl) rfl rfl) (cy h4 rfl (JH (UQ ha.ss hb.ss) rfl rfl rfl rfl) (cy h4 rfl (Hg rfl (vl rfl)) ?_)))
 refine ac ?_
 refine G0 2 3 4 7 8 10 19 20 21 50 rfl (Tr.ex 50 rfl fun xU=> ?_)
 refine Tr.cn rfl ?_ ?_<;>intro h5 q5
 refine ao ?_
 refine TO.DP 0 rfl rfl (by decide) (Bl rfl rfl rfl rfl underlying234 Bm U6 H8 (Kb rfl) (Kf rfl) (Aq (by exact List.Mem.head _) (Ka rfl))) (fun v2=> ?_)
 refine ao ?_
 refine Jx 2 3 4 7 8 19 20 21 rfl ?_
 refine ac ?_
 exact Fin.BM (o++[(y.1,y.2)]) (k+1) v2 (⟨⟨by omega,by simp;omega⟩,by omega⟩) ⟨⟨_,rfl,AD k⟩,⟨_,rfl,Au (by rw [List.map_append];rfl)⟩,ke rfl,ke rfl,ke rfl,ke rfl,ke rfl,ke rfl,trivial⟩ (fun _ _ h=>h)
 refine a2 ?_
 exact Fin.BM (o) (k+1) u (⟨⟨by omega,by omega⟩,by omega⟩) ⟨⟨_,rfl,AD k⟩,⟨_,rfl,Au rfl⟩,ke rfl,ke rfl,ke rfl,ke rfl,ke rfl,ke rfl,trivial⟩ (fun _ _ h=>h)
 have hk:=AJ h1
 refine a3 ?_
 · exact AG _ (AU (by omega) (Ah _ _))
theorem XE {a b:C0} {d:Int} (ha:a.fits) (hb:b.fits):Az prog 100 [agg (Bw a),agg (Bw b),Ko,OL,Q7,int d] (Cp.ex fun z:List Int×Int=>fact (z.1.length≤1000) (EI [ints z.1,int z.2])):=by
 refine fo func100 rfl ⟨rfl,rfl⟩ fun M0 w0=>(Tr.Gg 0 1 rfl rfl fun I5=> ?_)
 refine ac ?_
 refine ap ?_
 refine tp rfl (CS (XC ha hb) rfl rfl rfl) ?_
 refine TO.ex 20 rfl (fun z1=>TO.fact 20 rfl fun FM=> ?_)
 refine ap ?_
 refine ac ?_
 refine Jx 3 5 6 7 8 10 14 22 rfl ?_
 refine Tr.cn rfl ?_ ?_<;>intro h1 q1
 refine ac ?_
 refine Tr.ret (Fin.AB (Fin.BD rfl (AP.tmp rfl (Lr)) (AP.tmp rfl (Lr)) ?_))
 · exact AG ([],_) (AU (Nat.zero_le _) (Am ⟨AF 1,Lr,trivial⟩))
 obtain ⟨hAe,hBe,VS⟩:=FM (by have:=q1;omega)
 have h40:=(C7.1 hAe).ng
 refine a2 ?_
 refine co rfl (JH (Il) rfl rfl rfl rfl) ?_
 refine ac ?_
 refine Tr.seq (Tr.ex 15 rfl fun x15=> ?_)
 refine ac ?_
 refine Jx 3 5 6 7 8 10 15 29 rfl ?_
 refine Tr.cn rfl ?_ ?_<;>intro h2 q2
 refine ac ?_
 refine Tr.ret (Fin.AB (Fin.BD rfl (AP.tmp rfl (Lr)) (AP.tmp rfl (Lr)) ?_))
 · exact AG ([],_) (AU (Nat.zero_le _) (Am ⟨AF 1,Lr,trivial⟩))
 refine a3 ?_
 refine Tr.block (Tr.Bs 3 1 (Tr.Cc [(3,_),(5,_),(6,_),(7,_),(8,_),(10,_),(33,_)] ⟨ke rfl,ke rfl,ke rfl,ke rfl,ke rfl,ke rfl,ke rfl,trivial⟩ (fun (o:List Int) (k:Nat) u=>[(34,int ((k:Nat):Int)),(16,Ag u (ints o))]) (fun (o:List Int) (k:Nat) u=>Hp M0 w0 Eo ([Ap 3 1 u])) (fun (o:List Int) (k:Nat)=>k≤a.A_.length∧o.length≤k) (fun (o:List Int) (k:Nat)=>a.A_.length-k) ([]) (0) (.slice none 0 0) (⟨Nat.zero_le _,by simp⟩) ⟨ke rfl,⟨_,rfl,BX rfl⟩,trivial⟩ (fun _ _ h=>h) ?_))
 rintro o k u ⟨hk0,bu⟩
 refine ac ?_
 refine Tr.seq ?_
 refine Tr.cn rfl ?_ ?_<;>intro h3 q3
 have hk:k<a.A_.length:=AH h3
 obtain ⟨_,_,_,hea⟩:=ah (i:=((k:Nat):Int)) ha hAe (by omega) (by omega)
 obtain ⟨_,_,_,heb⟩:=ah (i:=((k:Nat):Int)) hb hBe (by omega) (by omega)
 refine a3 ?_
 refine co rfl (CS (Io heb) rfl rfl rfl) ?_
 refine ac ?_
 refine co rfl (JH (Q8 hea heb) rfl rfl rfl rfl) ?_
 refine ac ?_
 refine co rfl (AQ rfl (Az.outs fun z hz=>XD heb.ss hz) ⟨ke rfl,ke rfl,ke rfl,ke rfl,ke rfl,ke rfl,trivial⟩) (co rfl (Ac.K5 48 rfl (by decide) fun z=>Ac.opf 48 rfl (by decide) fun _=>Ac.le (Br rfl underlying234 (vl rfl)) (AG _ (Lr))) (co rfl (lu rfl (VL.le (vl rfl) UN) (VL.le (vl rfl) (Bx _ _))) ?_))
 refine ac ?_
 refine EO 3 5 6 7 8 10 16 17 33 34 50 rfl (Tr.ex 50 rfl fun xU=> ?_)
 refine Tr.cn rfl ?_ ?_<;>intro h4 q4
 refine ap ?_
 refine TO.DP 0 rfl rfl (by decide) (Bl rfl rfl rfl rfl underlying22 Bh Iu z3 (Kb rfl) (Kf rfl) (Aq (by exact List.Mem.head _) (Ka rfl))) (fun v1=> ?_)
 refine ap ?_
 refine Oe 3 5 6 7 8 10 16 33 34 rfl ?_
 refine ac ?_
 exact Fin.BM (o++[((k:Nat):Int)]) (k+1) v1 (⟨⟨by omega,by simp;omega⟩,by omega⟩) ⟨⟨_,rfl,AD k⟩,⟨_,rfl,Au (by rw [List.map_append];rfl)⟩,ke rfl,ke rfl,ke rfl,ke rfl,ke rfl,ke rfl,ke rfl,trivial⟩ (fun _ _ h=>h)
 refine a2 ?_
 exact Fin.BM (o) (k+1) u (⟨⟨by omega,by omega⟩,by omega⟩) ⟨⟨_,rfl,AD k⟩,⟨_,rfl,Au rfl⟩,ke rfl,ke rfl,ke rfl,ke rfl,ke rfl,ke rfl,ke rfl,trivial⟩ (fun _ _ h=>h)
 have hk:=AJ h3
 refine a2 ?_
 refine Tr.ret (Fin.BD rfl (AP.tmp rfl (Lr)) (AP.tmp rfl (Lr)) ?_)
 · exact AG (_,_) (AU (show o.length≤1000 by omega) (Am ⟨Ah _ _,Lr,trivial⟩))
end Go.Proofs.YtmpglcehonnpkaaGreat
namespace Cp
open Go Go.RowKit Go.Great
section
variable {P:Program}
end
section
variable {P:Program} {n:Fm} {E:Env} {M0:Av} {w0:World} {S:Nat→Prop} {rs:List As} {Q:Exit→Act→World→Prop} {p0 p1:Pr} {R:Value→As}
end
section
variable {P:Program} {L:Lg P} {n:Fm} {E:Env} {M0:Av} {w0:World} {S:Nat→Prop} {rs:List As} {Q:Exit→Act→World→Prop} {c:Code}
theorem Tr.sX {e:TypeId} {sz:Nat} {rows:List (List Pr)} {p:Pr} (s:Nat) (hs:E.lookup s=some p) (hp:Pr.le p (full sz rows)) (k:∀v,Tr L n ((s,Ag v (slice sz rows))::E) (Hp M0 w0 S (Ap e sz v::rs)) c Q):Tr L n E (Hp M0 w0 S rs) c Q:=by
 intro a w hst
 obtain ⟨M,k1,k2,k3,k4⟩:=hst
 have k4:A8 M0 w0 S rs M w:=k4
 obtain ⟨h1,A,h2⟩:=hp _ _ _ (k3 s p hs)
 refine k (a.tmps.getD s undef) a w ⟨M,k1,k2,fun t q hq=> ?_,A8.J8 k4 ?_ ?_⟩
 ·
  simp only [List.lookup] at hq
  split at hq
  ·
   rename_i e1
   have:t=s:=by simpa using e1
   subst this
   simp only [Option.some.injEq] at hq
   subst hq
   exact ⟨rfl,h1⟩
  · exact k3 t q hq
 ·
  rw [h2]
  show Cy _=none
  cases A with
  |none=>rfl
  |some x=>simp [Cy]
 ·
  intro b m d hv hlt
  rw [h2] at hv
  cases hv
  exact absurd hlt (Nat.lt_irrefl _)
variable {ε:Type}
theorem Vw {f:ε→As}:∀{X:List ε} {k:Nat} {x:ε},X[k]? =some x→(HD (fun x=>[f x]) X)[k]? =some (f x)
 |[],_,_,h=>by simp at h
 |a::X,0,x,h=>by simp at h;subst h;rfl
 |a::X,k+1,x,h=>by
  show (HD (fun x=>[f x]) X)[k]? =_
  exact Vw (by simpa using h)
theorem Fin.fold {x:Exit} {res:ε→List As} (CK:List As) {es:List ε} (y:ε) (Rr:rs=res y++(CK++HD res es)) (k:Fin n E (Hp M0 w0 S (CK++HD res (es++[y]))) Q x):Fin n E (Hp M0 w0 S rs) Q x:=
 Fin.sO (by
  subst Rr
  rw [Rp,←List.append_assoc CK]
  exact List.perm_append_comm) k
theorem Tr.fk {f:ε→Value} {g:ε→Pr} {X:List ε} {p:Pr} (j s:Nat) (hj:rs[j]? =some (aH f g X)) (hs:E.lookup s=some p) (hp:Pr.le p (slice 1 (X.map fun x=>[is (f x)]))) (k:Tr L n ((s,slice 1 (X.map fun x=>[g x]))::E) (Hp M0 w0 S rs) c Q):Tr L n E (Hp M0 w0 S rs) c Q:=by
 intro a w ha
 obtain ⟨M,k1,k2,k3,k4⟩:=ha
 have k4:A8 M0 w0 S rs M w:=k4
 refine k a w ⟨M,k1,k2,fun t q hq=> ?_,k4⟩
 simp only [List.lookup] at hq
 split at hq
 ·
  rename_i e1
  have:t=s:=by simpa using e1
  subst this
  simp only [Option.some.injEq] at hq
  subst hq
  obtain ⟨ad,cap,h1,h2,h3,h4,h5⟩:=hp _ _ _ (k3 t p hs)
  have hall:=(k4.hold _ (List.mem_of_getElem? hj)).1
  refine ⟨ad,cap,by rw [h1];simp,by simpa using h2,h3,h4,fun i row hr=> ?_⟩
  rw [List.getElem?_map] at hr
  cases hx:X[i]? with
  |none=>rw [hx] at hr;cases hr
  |some x=>
   rw [hx] at hr
   simp only [Option.map_some,Option.some.injEq] at hr
   subst hr
   obtain ⟨_,ad2,h6,h7⟩:=h5 i [is (f x)] (by rw [List.getElem?_map,hx];rfl)
   refine ⟨rfl,ad2,h6,fun q r hr=> ?_⟩
   cases q with
   |zero=>
    simp only [List.getElem?_cons_zero,Option.some.injEq] at hr
    subst hr
    obtain ⟨u,h8,h9,h10,h11⟩:=h7 0 _ rfl
    have hu:u=f x:=h11
    exact ⟨u,h8,h9,h10,by rw [hu];exact hall x (List.mem_of_getElem? hx)⟩
   |succ q=>simp at hr
 · exact k3 t q hq
abbrev F5 (e:TypeId) (x:Nat×List Bool):List As:=[AE true x.1 e (x.2.map fun b=>bool b)]
theorem ak {n:Nat}:(List.replicate n (Value.bool false)).map is=(List.replicate n false).map fun b=>bool b:=by rw [List.map_replicate,List.map_replicate]
theorem Tr.fm {e:TypeId} {m:Nat} {X:List (Nat×List Bool)} {p:Pr} (CK:List As) (s:Nat) (Rr:rs=CK++HD (F5 e) X) (hm:m≤maxLen) (hX:∀x∈X,x.2.length=m) (hs:E.lookup s=some p) (hp:Pr.le p (slice 1 (X.map fun x=>[is (RK m x.1)])))
  (k:Tr L n ((s,slice 1 (X.map fun x=>[slice 1 (x.2.map fun b=>[bool b])]))::E) (Hp M0 w0 S (aH (fun x:Nat×List Bool=>RK m x.1) (fun x=>slice 1 (x.2.map fun b=>[bool b])) X::CK)) c Q):Tr L n E (Hp M0 w0 S rs) c Q:=by
 subst Rr
 intro a w hst
 obtain ⟨M,k1,k2,k3,k4⟩:=hst
 have k4:A8 M0 w0 S (CK++HD (F5 e) X) M w:=k4
 obtain ⟨M1,g1,g2,g3⟩:=A8.Qc (w:=w) (Φ:=fun (x:Nat×List Bool) M w=>Row M w ⟨x.1,0,none⟩ 0 (x.2.map fun b=>bool b)) (fun x M M' he h=>Row.st he h) (fun x rs M h=>by
  obtain ⟨M',h1,h2,h3⟩:=A8.U2 h
  exact ⟨M',h2,h1,h3⟩) X _ M k4
 refine Tr.fk (f:=fun x:Nat×List Bool=>RK m x.1) (g:=fun x=>slice 1 (x.2.map fun b=>[bool b])) (X:=X) 0 s rfl hs hp k a w ⟨M1,k1,k2,fun t q hq=>q.st _ _ _ _ _ g1 (k3 t q hq),A8.J8 g2 rfl fun x hx=> ?_⟩
 have hl:=hX x hx
 refine ⟨some ⟨x.1,0,none⟩,m,by rw [List.length_map,hl],by rw [List.length_map,hl];exact Nat.le_refl _,hm,(fun h=>nomatch h),fun i row hr=> ?_⟩
 rw [List.getElem?_map] at hr
 cases hb:x.2[i]? with
 |none=>rw [hb] at hr;cases hr
 |some b=>
  rw [hb] at hr
  simp only [Option.map_some,Option.some.injEq] at hr
  subst hr
  refine ⟨rfl,_,rfl,fun q r hq=> ?_⟩
  cases q with
  |zero=>
   simp only [List.getElem?_cons_zero,Option.some.injEq] at hq
   subst hq
   have:=g3 x hx i (bool b) (by rw [List.getElem?_map,hb];rfl)
   simpa using this
  |succ q=>simp at hq
end
end Cp
namespace Go.Proofs.YtmpglcehonnpkaaGreat
open Go Go.RowKit Cp Go.Proofs.Tryz
def F6 (n:Nat) (m:Nat→Nat→Bool):List (List Bool):=(List.range n).map fun a=>(List.range n).map (m a)
theorem HB (n:Nat) (m:Nat→Nat→Bool):(F6 n m).length=n:=by unfold F6;simp
theorem I7 {n:Nat} (m:Nat→Nat→Bool) {a:Nat} (h:a<n):(F6 n m)[a]? =some ((List.range n).map (m a)):=by
 unfold F6;rw [List.getElem?_map,List.getElem?_range h];rfl
theorem I8 {n:Nat} (m:Nat→Bool) {b:Nat} (h:b<n):((List.range n).map m)[b]? =some (m b):=by
 rw [List.getElem?_map,List.getElem?_range h];rfl
theorem Pw {n:Nat} {m m':Nat→Nat→Bool} (h:Z5 n m m'):F6 n m=F6 n m':=by
 unfold F6
 refine List.map_congr_left fun a ha=>List.map_congr_left fun b hb=>h a b (List.mem_range.1 ha) (List.mem_range.1 hb)
theorem aq {n:Nat} {m:Nat→Nat→Bool} {i j:Nat} (hi:i<n) (hj:j<n):(F6 n m).set i (((List.range n).map (m i)).set j true)=F6 n (Q1 m i j):=by
 apply List.ext_getElem?
 intro a
 rw [List.getElem?_set]
 by_cases h:i=a
 ·
  subst h
  rw [if_pos rfl,if_pos (by rw [HB];exact hi),I7 _ hi]
  congr 1
  apply List.ext_getElem?
  intro b
  rw [List.getElem?_set]
  by_cases h2:j=b
  ·
   subst h2
   rw [if_pos rfl,if_pos (by simpa using hj),I8 _ hj]
   unfold Q1;rw [if_pos ⟨rfl,rfl⟩]
  ·
   rw [if_neg h2]
   rcases Nat.lt_or_ge b n with hb|hb
   · rw [I8 _ hb,I8 _ hb];unfold Q1;rw [if_neg (fun h3=>h2 h3.2.symm)]
   · rw [List.getElem?_eq_none (by simpa using hb),List.getElem?_eq_none (by simpa using hb)]
 ·
  rw [if_neg h]
  rcases Nat.lt_or_ge a n with ha|ha
  ·
   rw [I7 _ ha,I7 _ ha]
   congr 1
   refine List.map_congr_left fun b _=> ?_
   unfold Q1;rw [if_neg (fun h3=>h h3.1.symm)]
  · rw [List.getElem?_eq_none (by rw [HB];exact ha),List.getElem?_eq_none (by rw [HB];exact ha)]
theorem UR {l:List BS} {q:Nat} {r:BS} (h:l[q]? =some r) (h0:0≤r.fst) (h1:0≤r.thn):L4 (l.take (q+1))=Q1 (L4 (l.take q)) r.fst.toNat r.thn.toNat:=by
 funext a b
 have e:l.take (q+1)=l.take q++[r]:=by rw [List.take_add_one,h];rfl
 unfold L4 Q1
 rw [e,List.any_append]
 by_cases hc:a=r.fst.toNat∧b=r.thn.toNat
 ·
  have h2:([r].any fun r=>decide (r.fst=(a:Int))&&decide (r.thn=(b:Int)))=true:=by simp;omega
  rw [if_pos hc,h2,Bool.or_true]
 ·
  have h2:([r].any fun r=>decide (r.fst=(a:Int))&&decide (r.thn=(b:Int)))=false:=by simp;omega
  rw [if_neg hc,h2,Bool.or_false]
theorem XF (n:Nat) (l:List BS):F6 n (L4 (l.take 0))=List.replicate n (List.replicate n false):=by
 unfold F6 L4
 rw [List.eq_replicate_iff]
 refine ⟨by simp,fun b hb=> ?_⟩
 obtain ⟨a,_,rfl⟩:=List.mem_map.1 hb
 rw [List.eq_replicate_iff]
 refine ⟨by simp,fun c hc=> ?_⟩
 obtain ⟨d,_,rfl⟩:=List.mem_map.1 hc
 simp
abbrev slv (n:Nat) (x:Nat×List Bool):Value:=RK n x.1
abbrev xV (n:Nat) (m:Nat→Nat→Bool):Pr:=slice 1 ((F6 n m).map fun row=>[slice 1 (row.map fun b=>[bool b])])
theorem LW {n:Nat} {m:Nat→Nat→Bool} {X:List (Nat×List Bool)} {a:Nat} {x:Nat×List Bool} (hX:X.map (·.2)=F6 n m) (hx:X[a]? =some x) (ha:a<n):x.2=(List.range n).map (m a):=by
 have h:=congrArg (fun l=>l[a]?) hX
 simp only [List.getElem?_map,hx,Option.map_some] at h
 rw [I7 m ha] at h
 simpa using h
theorem Vx {n:Nat} {m:Nat→Nat→Bool} {X:List (Nat×List Bool)} {i j:Nat} {x:Nat×List Bool} (hX:X.map (·.2)=F6 n m) (hx:X[i]? =some x) (hi:i<n) (hj:j<n):(X.set i (x.1,x.2.set j true)).map (·.2)=F6 n (Q1 m i j):=by
 rw [List.map_set,hX,LW hX hx hi];exact aq hi hj
theorem Vy {e:TypeId} {X:List (Nat×List Bool)} {k:Nat} {x:Nat×List Bool} (h:X[k]? =some x):(HD (F5 e) X)[k]? =some (AE true x.1 e (x.2.map fun b=>bool b)):=Vw (f:=fun x:Nat×List Bool=>AE true x.1 e (x.2.map fun b=>bool b)) h
theorem au {n:Nat} {m:Nat→Nat→Bool} {X:List (Nat×List Bool)} {a c:Nat} {x:Nat×List Bool} (hX:X.map (·.2)=F6 n m) (hx:X[a]? =some x) {v:Bool} (ha:a<n) (hc:c<n) (hv:m a c=v):(x.2.map fun b=>bool b)[0+c*1]? =some (bool v):=by
 subst hv
 rw [LW hX hx ha,Nat.zero_add,Nat.mul_one,List.getElem?_map,I8 _ hc];rfl
theorem av {n:Nat} {m:Nat→Nat→Bool} {X:List (Nat×List Bool)} (hX:X.map (·.2)=F6 n m):∀x∈X,x.2.length=n:=fun x hx=>by
 obtain ⟨i,hi⟩:=List.mem_iff_getElem?.1 hx
 have hl:i<n:=by
  have h:=congrArg List.length hX
  rw [List.length_map,HB] at h
  rcases Nat.lt_or_ge i X.length with h'|h'
  · omega
  · rw [List.getElem?_eq_none h'] at hi;cases hi
 rw [LW hX hi hl,List.length_map,List.length_range]
theorem az {n:Nat} {m:Nat→Nat→Bool} {X:List (Nat×List Bool)} (hX:X.map (·.2)=F6 n m):(X.map fun x=>[slice 1 (x.2.map fun b=>[bool b])])=(F6 n m).map fun row=>[slice 1 (row.map fun b=>[bool b])]:=by rw [←hX,List.map_map];rfl
theorem Vz {l:List Bool} {j:Nat} (h:j<l.length):List.take (0+j*1) (l.map fun b=>bool b)++[is (Value.bool true)]++List.drop (0+j*1+1) (l.map fun b=>bool b)=(l.set j true).map fun b=>bool b:=by
 rw [List.map_set,List.set_eq_take_append_cons_drop,if_pos (by simpa using h)];simp
theorem OM {X:List (Nat×List Bool)} {bs:List Nat} {i:Nat} {x:Nat×List Bool} (h:X.map (·.1)=bs) (hx:X[i]? =some x):bs[i]? =some x.1:=by rw [←h,List.getElem?_map,hx];rfl
theorem V0 {X:List (Nat×List Bool)} {bs:List Nat} {i:Nat} {x:Nat×List Bool} {r:List Bool} (h:X.map (·.1)=bs) (hx:X[i]? =some x):(X.set i (x.1,r)).map (·.1)=bs:=by
 have hb:=OM h hx
 rw [List.map_set,h]
 apply List.ext_getElem?
 intro k
 rw [List.getElem?_set]
 split
 · rename_i e;subst e;rw [if_pos (by rcases Nat.lt_or_ge i bs.length with h'|h';exact h';rw [List.getElem?_eq_none h'] at hb;cases hb),hb]
 · rfl
theorem Px {n:Nat} {l:List BS} (hn:n≤24) (hl:l.length≤1000000) (hr:∀r∈l,(0≤r.fst∧r.fst<(n:Nat))∧0≤r.thn∧r.thn<(n:Nat)):Az prog 137 [int ((n:Nat):Int),reqs l] (xV n (Dw l n)):=by
 refine fo func137 rfl ⟨rfl,rfl⟩ fun M0 w0=> ?_
 refine a3 ?_
 refine Tr.block (Tr.Bs 134 1 (Tr.Cc [(0,_),(1,_),(11,_)] ⟨ke rfl,ke rfl,ke rfl,trivial⟩ (fun (X:List (Nat×List Bool)) (k:Nat) u=>[(12,int ((k:Nat):Int)),(5,Ag u (slice 1 (X.map fun x=>[is (slv n x)])))]) (fun (X:List (Nat×List Bool)) (k:Nat) u=>Hp M0 w0 Eo (Ap 134 1 u::HD (F5 4) X)) (fun (X:List (Nat×List Bool)) (k:Nat)=>(k≤n∧X.length=k)∧X.map (·.2)=List.replicate k (List.replicate n false)) (fun (X:List (Nat×List Bool)) (k:Nat)=>n-k) ([]) (0) (.slice none 0 0) (⟨⟨Nat.zero_le _,rfl⟩,rfl⟩) ⟨ke rfl,⟨_,rfl,BX rfl⟩,trivial⟩ (fun _ _ h=>h) ?_))
 rintro X k u ⟨⟨hkn,hXl⟩,hX⟩
 refine ac ?_
 refine Tr.seq ?_
 refine Tr.cn rfl ?_ ?_<;>intro h1 q1
 have hk:k<n:=AH h1
 refine ac ?_
 refine ao ?_
 refine TO.QN rfl rfl (by decide) rfl underlying134 S3 by4 z4 rfl (vl rfl) (vl rfl) (by unfold maxLen;omega) (by omega) (fun b1=> ?_)
 refine tp rfl (AL (xs:=[.tmp 16]) (rows:=[[is (RK n b1)]]) rfl rfl underlying243 Lu pS rfl (by decide) ⟨⟨(by exact rfl),VL.le (vl rfl) (Aj _)⟩,trivial⟩ (by decide)) ?_
 refine TO.DP 1 rfl rfl (by decide) (Bl rfl rfl rfl rfl underlying243 Lu pR pS (Kb rfl) (Kf rfl) (Aq (by exact List.Mem.head _) (Ka rfl))) (fun v1=> ?_)
 refine ao ?_
 refine ac ?_
 refine Fin.iN 0 ((List.replicate n false).map fun b=>bool b) rfl ak (Fin.fold (res:=F5 4) [_] (b1,List.replicate n false) rfl ?_)
 exact Fin.BM (X++[(b1,List.replicate n false)]) (k+1) v1 (⟨⟨⟨by omega,by simp;omega⟩,by rw [List.map_append,hX,List.replicate_succ'];rfl⟩,by omega⟩) ⟨⟨_,rfl,AD k⟩,⟨_,rfl,Au (by rw [List.map_append];rfl)⟩,ke rfl,ke rfl,ke rfl,trivial⟩ (fun _ _ h=>h)
 have hk:=AJ h1
 refine a2 ?_
 refine Tr.block ?_
 obtain ⟨bs,lz⟩:∃bs,X.map (·.1)=bs:=⟨_,rfl⟩
 refine Tr.re 5 rfl (Pr.le_trans (Ah _ _) (Pr.le_of_eq (show _=slice 1 (bs.map fun b=>[is (RK n b)]) by rw [←lz,List.map_map];rfl))) ?_
 refine Tr.drop 0 (Tr.DG [(0,_),(5,_),(20,_),(21,_)] ⟨ke rfl,ke rfl,ke rfl,ke rfl,trivial⟩ (fun (X1:List (Nat×List Bool)) (q:Nat)=>[(22,int ((q:Nat):Int))]) (fun (X1:List (Nat×List Bool)) (q:Nat)=>Hp M0 w0 Eo (HD (F5 4) X1)) (fun (X1:List (Nat×List Bool)) (q:Nat)=>q≤l.length∧(X1.map (·.1)=bs∧X1.map (·.2)=F6 n (L4 (l.take q)))) (fun (X1:List (Nat×List Bool)) (q:Nat)=>l.length-q) (X) (0)  (⟨Nat.zero_le _,lz,by rw [hX,XF,show k=n by omega]⟩) ⟨ke rfl,trivial⟩ (fun _ _ h=>h) ?_)
 rintro X1 q  ⟨hq0,OV,hX1⟩
 refine ac ?_
 refine Tr.seq ?_
 refine Tr.cn rfl ?_ ?_<;>intro h2 q2
 have hq:q<l.length:=AH h2
 obtain ⟨r,fq⟩:=at_ hq
 have XG:=hr r (List.mem_of_getElem? fq)
 have zB:X1.length=n:=by have:=congrArg List.length hX1;rw [List.length_map,HB] at this;exact this
 obtain ⟨x,hx⟩:=at_ (l:=X1) (k:=r.fst.toNat) (by omega)
 have hxl:x.2.length=n:=by rw [LW hX1 hx (by omega),List.length_map,List.length_range]
 refine ac ?_
 refine Tr.seq (Tr.block (Tr.seq (Tr.An (tp rfl (AA rfl underlying31 Bt (vl rfl) (vl rfl) (by omega) (AO fq)) (tp rfl (AR rfl D8 Bt (vl rfl) rfl rfl) ?_)))))
 refine Tl rfl rfl rfl rfl z109 JF (fun b2=> ?_)
 refine sf 0 7 ⟨rfl,rfl,rfl⟩ rfl rfl rfl rfl ?_
 refine ao ?_
 refine Tr.focus [] hx rfl (Tr.rx ?_)
 refine ay ?_
 refine xo rfl (fun _=>AA rfl underlying243 Lu (vl rfl) (vl rfl) (by omega) (BB (OM OV hx))) ?_
 refine ay ?_
 refine xo rfl (fun _=>BV rfl underlying134 S3 (vl rfl) (vl rfl) (by omega) (by omega)) ?_
 refine Cx.Dp 0 rfl rfl (Ay rfl rfl (vl rfl) (Vo rfl) S3 rfl (by rw [List.length_map];omega) rfl) ?_
 refine Cx.nil ⟨by kernel_rfl,?_⟩
 refine BQ.done al1 ?_
 refine ac ?_
 refine JV 0 5 20 21 22 rfl ?_
 refine ac ?_
 refine Fin.iN 0 ((x.2.set r.thn.toNat true).map fun b=>bool b) rfl (Vz (by omega)) (Fin.Qb (res:=F5 4) [] (x.1,x.2.set r.thn.toNat true) (show r.fst.toNat<X1.length by omega) rfl ?_)
 exact Fin.DD (X1.set r.fst.toNat (x.1,x.2.set r.thn.toNat true)) (q+1)  (⟨⟨by omega,V0 OV hx,by rw [UR fq XG.1.1 XG.2.1];exact Vx hX1 hx (by omega) (by omega)⟩,by omega⟩) ⟨⟨_,rfl,AD q⟩,ke rfl,ke rfl,ke rfl,ke rfl,trivial⟩ (fun _ _ h=>h)
 have hq:=AJ h2
 refine a2 ?_
 refine Tr.block ?_
 refine Tr.DG [(0,_),(5,_),(35,_)] ⟨ke rfl,ke rfl,ke rfl,trivial⟩ (fun (X2:List (Nat×List Bool)) (k2:Nat)=>[(36,int ((k2:Nat):Int))]) (fun (X2:List (Nat×List Bool)) (k2:Nat)=>Hp M0 w0 Eo (HD (F5 4) X2)) (fun (X2:List (Nat×List Bool)) (k2:Nat)=>k2≤n∧(X2.map (·.1)=bs∧X2.map (·.2)=F6 n (Dw l k2))) (fun (X2:List (Nat×List Bool)) (k2:Nat)=>n-k2) (X1) (0)  (⟨Nat.zero_le _,OV,by rw [hX1,List.take_of_length_le hq];rfl⟩) ⟨ke rfl,trivial⟩ (fun _ _ h=>h) ?_
 rintro X2 k2  ⟨hk2,RH,hX2⟩
 refine ac ?_
 refine Tr.seq ?_
 refine Tr.cn rfl ?_ ?_<;>intro h3 q3
 have zC:k2<n:=AH h3
 refine a3 ?_
 refine Tr.block ?_
 refine Tr.DG [(0,_),(5,_),(8,_),(35,_),(36,_),(39,_)] ⟨ke rfl,ke rfl,ke rfl,ke rfl,ke rfl,ke rfl,trivial⟩ (fun (X3:List (Nat×List Bool)) (i:Nat)=>[(40,int ((i:Nat):Int))]) (fun (X3:List (Nat×List Bool)) (i:Nat)=>Hp M0 w0 Eo (HD (F5 4) X3)) (fun (X3:List (Nat×List Bool)) (i:Nat)=>i≤n∧(X3.map (·.1)=bs∧X3.map (·.2)=F6 n (He k2 (Dw l k2) i 0))) (fun (X3:List (Nat×List Bool)) (i:Nat)=>n-i) (X2) (0)  (⟨Nat.zero_le _,RH,by rw [sI];exact hX2⟩) ⟨ke rfl,trivial⟩ (fun _ _ h=>h) ?_
 rintro X3 i  ⟨hi0,hb3,hX3⟩
 refine ac ?_
 refine Tr.seq ?_
 refine Tr.cn rfl ?_ ?_<;>intro h4 q4
 have FF:i<n:=AH h4
 refine a3 ?_
 refine Tr.block (Tr.DG [(0,_),(5,_),(8,_),(9,_),(35,_),(36,_),(39,_),(40,_),(43,_)] ⟨ke rfl,ke rfl,ke rfl,ke rfl,ke rfl,ke rfl,ke rfl,ke rfl,ke rfl,trivial⟩ (fun (X4:List (Nat×List Bool)) (j:Nat)=>[(44,int ((j:Nat):Int))]) (fun (X4:List (Nat×List Bool)) (j:Nat)=>Hp M0 w0 Eo (HD (F5 4) X4)) (fun (X4:List (Nat×List Bool)) (j:Nat)=>j≤n∧(X4.map (·.1)=bs∧X4.map (·.2)=F6 n (He k2 (Dw l k2) i j))) (fun (X4:List (Nat×List Bool)) (j:Nat)=>n-j) (X3) (0)  (⟨Nat.zero_le _,hb3,hX3⟩) ⟨ke rfl,trivial⟩ (fun _ _ h=>h) ?_)
 rintro X4 j  ⟨hj0,l5,fu⟩
 refine ac ?_
 refine Tr.seq ?_
 refine Tr.cn rfl ?_ ?_<;>intro h5 q5
 have hjl:j<n:=AH h5
 have zD:X4.length=n:=by have:=congrArg List.length fu;rw [List.length_map,HB] at this;exact this
 obtain ⟨xi,i9⟩:=at_ (l:=X4) (k:=i) (by omega)
 obtain ⟨xk,hxk⟩:=at_ (l:=X4) (k:=k2) (by omega)
 have zE:xi.2.length=n:=by rw [LW fu i9 (by omega),List.length_map,List.length_range]
 have zF:xk.2.length=n:=by rw [LW fu hxk (by omega),List.length_map,List.length_range]
 refine a3 ?_
 refine co rfl (AA rfl underlying243 Lu (vl rfl) (vl rfl) (by omega) (AO (OM l5 i9))) ?_
 refine ac ?_
 refine co rfl (BV rfl underlying134 S3 (vl rfl) (vl rfl) (by omega) (by omega)) ?_
 refine co rfl (Dr i (Vy i9) (B4 rfl YQ (vl rfl) (au (c:=k2) fu i9 (by omega) (by omega) (fE k2 (Dw l k2) i j i)))) ?_
 refine cm rfl ?_
 refine Ch.cs 54 rfl ?_ ?_<;>intro h6 q6
 refine ac ?_
 refine cy h6 rfl (AA rfl underlying243 Lu (vl rfl) (vl rfl) (by omega) (AO (OM l5 hxk))) ?_
 refine ac ?_
 refine cy h6 rfl (BV rfl underlying134 S3 (vl rfl) (vl rfl) (by omega) (by omega)) ?_
 refine cy h6 rfl (Dr k2 (Vy hxk) (B4 rfl YQ (vl rfl) (au (c:=j) fu hxk (by omega) (by omega) (fF k2 (Dw l k2) i j j)))) ?_
 refine ac ?_
 refine ND 0 5 8 9 10 35 36 39 40 43 44 62 rfl ?_
 refine Tr.cn rfl ?_ ?_<;>intro h7 q7
 refine Tr.focus [] i9 rfl ?_
 refine ao ?_
 refine tp rfl (AA rfl underlying243 Lu (vl rfl) (vl rfl) (by omega) (AO (OM l5 i9))) ?_
 refine ao ?_
 refine tp rfl (BV rfl underlying134 S3 (vl rfl) (vl rfl) (by omega) (by omega)) ?_
 refine TO.Dp 0 rfl rfl (Ay rfl rfl (vl rfl) (Vo rfl) S3 rfl (by rw [List.length_map];omega) rfl) ?_
 refine ao ?_
 refine G0 0 5 8 9 35 36 39 40 43 44 rfl ?_
 refine ac ?_
 refine Fin.iN 0 ((xi.2.set j true).map fun b=>bool b) rfl (Vz (by omega)) (Fin.Qb (res:=F5 4) [] (xi.1,xi.2.set j true) (show i<X4.length by omega) rfl ?_)
 exact Fin.DD (X4.set i (xi.1,xi.2.set j true)) (j+1)  (⟨⟨by omega,V0 l5 i9,(by rw [←fG (by assumption) (by assumption)];exact Vx fu i9 (by omega) (by omega))⟩,by omega⟩) ⟨⟨_,rfl,AD j⟩,ke rfl,ke rfl,ke rfl,ke rfl,ke rfl,ke rfl,ke rfl,ke rfl,ke rfl,trivial⟩ (fun _ _ h=>h)
 refine a2 ?_
 exact Fin.DD (X4) (j+1)  (⟨⟨by omega,l5,(by rw [←Z4 (by simp_all)];exact fu)⟩,by omega⟩) ⟨⟨_,rfl,AD j⟩,ke rfl,ke rfl,ke rfl,ke rfl,ke rfl,ke rfl,ke rfl,ke rfl,ke rfl,trivial⟩ (fun _ _ h=>h)
 refine ac ?_
 refine ND 0 5 8 9 10 35 36 39 40 43 44 62 rfl ?_
 refine a2 ?_
 exact Fin.DD (X4) (j+1)  (⟨⟨by omega,l5,(by rw [←Z4 (by simp_all)];exact fu)⟩,by omega⟩) ⟨⟨_,rfl,AD j⟩,ke rfl,ke rfl,ke rfl,ke rfl,ke rfl,ke rfl,ke rfl,ke rfl,ke rfl,trivial⟩ (fun _ _ h=>h)
 have hje:=AJ h5
 refine a2 ?_
 exact Fin.DD (X4) (i+1)  (⟨⟨by omega,l5,by rw [fu,show j=n by omega];exact Pw Z6⟩,by omega⟩) ⟨⟨_,rfl,AD i⟩,ke rfl,ke rfl,ke rfl,ke rfl,ke rfl,ke rfl,trivial⟩ (fun _ _ h=>h)
 have hie:=AJ h4
 refine a2 ?_
 exact Fin.DD (X3) (k2+1)  (⟨⟨by omega,hb3,by rw [hX3,show i=n by omega];exact Pw fH⟩,by omega⟩) ⟨⟨_,rfl,AD k2⟩,ke rfl,ke rfl,ke rfl,trivial⟩ (fun _ _ h=>h)
 have zG:=AJ h3
 refine ac ?_
 refine Tr.seq ?_
 have xW:k2=n:=by omega
 refine Tr.fm (m:=n) (X:=X2) [] 5 rfl (by unfold maxLen;omega) (av hX2) rfl (Pr.le_of_eq (by rw [←RH,List.map_map];rfl)) ?_
 refine Tr.drop 0 ?_
 refine a2 ?_
 · subst xW;exact Pr.le_of_eq (congrArg (slice 1) (az hX2))
theorem US {n:Int} {l:List BS} (hl:l.length≤1000000):Az prog 117 [int n,reqs l] (int (Bf n l)):=by
 refine Az.of func117 rfl rfl (by exact Nb rfl) fun M0 w0=> ?_
 refine Tr.C8 1 rfl fun Hz=>(Tr.seq (Tr.AW (cm rfl (Ch.nil (Fin.go (Tr.seq (Tr.seq (Tr.AW (cm rfl (co rfl (ki rfl rfl rfl rfl) (cm rfl ?_)))))))))))
 refine Ch.cs 12 rfl ?_ ?_<;>intro h1 q1
 refine cnf h1 rfl (cnf h1 rfl (co rfl (HK rfl rfl h1 rfl) (Ch.nil (Fin.go (Tr.cond rfl (fun _=> ?_) (fun h=>nomatch h))))))
 refine Tr.seq (Tr.AW (cm rfl (Ch.nil (Fin.go (Tr.ret (Fin.AB (Fin.DZ rfl (BE.CZ _ _) rfl ?_)))))))
 · exact int_eq (Vt (by omega)).symm
 refine FZ h1 rfl (cy h1 rfl (ki rfl rfl rfl rfl) (co rfl (HM rfl rfl h1 rfl) (Ch.nil (Fin.go ?_))))
 refine Tr.cn rfl ?_ ?_<;>intro h2 q2
 refine Tr.seq (Tr.AW (cm rfl (Ch.nil (Fin.go (Tr.ret (Fin.AB (Fin.DZ rfl (BE.CZ _ _) rfl ?_)))))))
 · exact int_eq (Vt (by omega)).symm
 obtain ⟨N,rfl⟩:∃N:Nat,n=(N:Int):=⟨n.toNat,by omega⟩
 refine Tr.skip (Fin.go (Tr.seq (Tr.seq (Tr.AW (cm rfl (co rfl (BF rfl underlying31 (vl rfl)) (cm rfl (Ch.nil (Fin.go (Tr.block (Tr.A7 [(0,_),(1,_),(16,_),(17,_)] (TN rfl) (fun k:Nat=>[(18,int ((k:Nat):Int))]) (fun k:Nat=>k≤(l).length∧(∀j y,j<k→l[j]? =some y→FV N y=false)) (fun k:Nat=>(l).length-k) 0 (⟨Nat.zero_le _,fun j y hj=>absurd hj (by omega)⟩) ⟨ke rfl,trivial⟩ ?_)))))))))))
 rintro k ⟨BN,Ab⟩
 refine Tr.seq (Tr.AW (co rfl (ki rfl rfl rfl rfl) (Ch.nil (Fin.go (Tr.seq ?_)))))
 refine Tr.cn rfl ?_ ?_<;>intro h3 q3
 have Af:k<(l).length:=AH h3
 obtain ⟨r,Ad⟩:=at_ Af
 refine Tr.skip (Fin.go (Tr.seq (Tr.block (Tr.seq (Tr.An (tp rfl (AA rfl underlying31 Bt (vl rfl) (vl rfl) (by omega) (AO Ad)) (tp rfl (AR rfl D8 Bt (vl rfl) rfl rfl) ?_)))))))
 refine Tl rfl rfl rfl rfl z109 JF (fun b1=> ?_)
 refine TO.AK 0 rfl rfl rfl (vl rfl) (Va rfl) rfl Bt rfl rfl (TO.freeze 0 6 rfl rfl (TO.nil (Fin.go (Tr.seq (Tr.AW (co rfl (Kt rfl KJ rfl rfl) (co rfl (DQ rfl Bo rfl) (co rfl (ki rfl rfl rfl rfl) (cm rfl ?_)))))))))
 refine Ch.cs 25 rfl ?_ ?_<;>intro h4 q4
 refine cnf h4 rfl (cnf h4 rfl (cnf h4 rfl (co rfl (HK rfl rfl h4 rfl) (cm rfl ?_))))
 iterate 4 refine bn rfl rfl ?_
 refine co rfl (HK rfl rfl rfl rfl) (cm rfl ?_)
 iterate 4 refine bn rfl rfl ?_
 refine co rfl (HK rfl rfl rfl rfl) (cm rfl ?_)
 iterate 5 refine bn rfl rfl ?_
 refine co rfl (HK rfl rfl rfl rfl) (Ch.nil (Fin.go (Jw 0 1 16 17 18 48 rfl (Tr.cond rfl (fun _=> ?_) (fun h=>nomatch h)))))
 refine Tr.seq (Tr.AW (cm rfl (Ch.nil (Fin.go (Tr.ret (Fin.AX (Fin.AB (Fin.AB (Fin.AX (Fin.AB (Fin.DZ rfl (BE.CZ _ _) rfl ?_)))))))))))
 · exact int_eq (Ij (by omega) Ad (by unfold FV;rw [decide_eq_true_eq];omega)).symm
 refine cy h4 rfl (Kt rfl KK rfl rfl) (cy h4 rfl (DQ rfl Bo rfl) (cy h4 rfl (ki rfl rfl rfl rfl) (co rfl (HM rfl rfl h4 rfl) (cm rfl ?_))))
 refine Ch.cs 30 rfl ?_ ?_<;>intro h5 q5
 iterate 4 refine cnf h5 rfl ?_
 refine co rfl (HK rfl rfl h5 rfl) (cm rfl ?_)
 iterate 4 refine bn rfl rfl ?_
 refine co rfl (HK rfl rfl rfl rfl) (cm rfl ?_)
 iterate 5 refine bn rfl rfl ?_
 refine co rfl (HK rfl rfl rfl rfl) (Ch.nil (Fin.go (Jw 0 1 16 17 18 48 rfl (Tr.cond rfl (fun _=> ?_) (fun h=>nomatch h)))))
 refine Tr.seq (Tr.AW (cm rfl (Ch.nil (Fin.go (Tr.ret (Fin.AX (Fin.AB (Fin.AB (Fin.AX (Fin.AB (Fin.DZ rfl (BE.CZ _ _) rfl ?_)))))))))))
 · exact int_eq (Ij (by omega) Ad (by unfold FV;rw [decide_eq_true_eq];omega)).symm
 refine cy h5 rfl (Kt rfl KJ rfl rfl) (cy h5 rfl (DQ rfl Bo rfl) (FZ h5 rfl (cy h5 rfl (ki rfl rfl rfl rfl) (co rfl (HM rfl rfl h5 rfl) (cm rfl ?_)))))
 refine Ch.cs 36 rfl ?_ ?_<;>intro h6 q6
 iterate 4 refine cnf h6 rfl ?_
 refine co rfl (HK rfl rfl h6 rfl) (cm rfl ?_)
 iterate 5 refine bn rfl rfl ?_
 refine co rfl (HK rfl rfl rfl rfl) (Ch.nil (Fin.go (Jw 0 1 16 17 18 48 rfl (Tr.cond rfl (fun _=> ?_) (fun h=>nomatch h)))))
 refine Tr.seq (Tr.AW (cm rfl (Ch.nil (Fin.go (Tr.ret (Fin.AX (Fin.AB (Fin.AB (Fin.AX (Fin.AB (Fin.DZ rfl (BE.CZ _ _) rfl ?_)))))))))))
 · exact int_eq (Ij (by omega) Ad (by unfold FV;rw [decide_eq_true_eq];omega)).symm
 refine cy h6 rfl (Kt rfl KK rfl rfl) (cy h6 rfl (DQ rfl Bo rfl) (FZ h6 rfl (cy h6 rfl (ki rfl rfl rfl rfl) (co rfl (HM rfl rfl h6 rfl) (cm rfl ?_)))))
 refine Ch.cs 42 rfl ?_ ?_<;>intro h7 q7
 iterate 5 refine cnf h7 rfl ?_
 refine co rfl (HK rfl rfl h7 rfl) (Ch.nil (Fin.go (Jw 0 1 16 17 18 48 rfl (Tr.cond rfl (fun _=> ?_) (fun h=>nomatch h)))))
 refine Tr.seq (Tr.AW (cm rfl (Ch.nil (Fin.go (Tr.ret (Fin.AX (Fin.AB (Fin.AB (Fin.AX (Fin.AB (Fin.DZ rfl (BE.CZ _ _) rfl ?_)))))))))))
 · exact int_eq (Ij (by omega) Ad (by unfold FV;rw [decide_eq_true_eq];omega)).symm
 refine cy h7 rfl (Kt rfl KJ rfl rfl) (cy h7 rfl (DQ rfl Bo rfl) (cy h7 rfl (Kt rfl KK rfl rfl) (cy h7 rfl (DQ rfl Bo rfl) (cy h7 rfl (ki rfl rfl rfl rfl) (co rfl (HM rfl rfl h7 rfl) (Ch.nil (Fin.go (Jw 0 1 16 17 18 48 rfl ?_))))))))
 refine Tr.cn rfl ?_ ?_<;>intro h8 q8
 refine Tr.seq (Tr.AW (cm rfl (Ch.nil (Fin.go (Tr.ret (Fin.AX (Fin.AB (Fin.AB (Fin.AX (Fin.AB (Fin.DZ rfl (BE.CZ _ _) rfl ?_)))))))))))
 · exact int_eq (Ij (by omega) Ad (by unfold FV;rw [decide_eq_true_eq];omega)).symm
 refine Tr.skip (Fin.block (Fin.go (Tr.AW (GV rfl rfl rfl rfl (by omega) (cm rfl (Ch.nil ?_))))))
 exact Fin.AM (k+1) ⟨⟨Af,EM (p:=FV N) Ad (by unfold FV;rw [decide_eq_false_iff_not];omega) Ab⟩,by omega⟩ ⟨⟨_,rfl,AD k⟩,ke rfl,ke rfl,ke rfl,ke rfl,trivial⟩
 have BI:k=(l).length:=by have:=AJ h3;omega
 subst BI
 have lz:=fV Ab
 have XG:∀r∈l,(0≤r.fst∧r.fst<(N:Nat))∧0≤r.thn∧r.thn<(N:Nat):=fun r hr=>by
  have h_:=lz r hr
  unfold FV at h_;rw [decide_eq_false_iff_not] at h_;omega
 refine Tr.exit (Fin.AS (Fin.AS (Fin.Ak (Fin.go (Tr.seq (Tr.seq (Tr.AW (cm rfl (Ch.nil (Fin.go (Tr.block (Tr.KD [(0,_),(1,_)] ⟨ke rfl,ke rfl,trivial⟩ (fun (i:Nat)=>[(7,int ((i:Nat):Int))]) (fun (i:Nat)=>Hp M0 w0 Eo ([])) (fun (i:Nat)=>(1≤i∧(i≤l.length∨i=1))∧∀(j:Nat) a b,j+1<i→l[j]? =some a→l[j+1]? =some b→Ef a b=true) (fun (i:Nat)=>l.length-i) (1)  (⟨⟨by omega,.inr rfl⟩,fun j a b hj=>absurd hj (by omega)⟩) ⟨ke rfl,trivial⟩ (fun _ _ h=>h) ?_))))))))))))
 rintro i  ⟨⟨hi1,hi2⟩,kL⟩
 refine Tr.seq (Tr.seq (Tr.AW (cm rfl (cm rfl (co rfl (BF rfl underlying31 (vl rfl)) (co rfl (ki rfl rfl rfl rfl) (Ch.nil (Fin.go ?_))))))))
 refine Tr.cn rfl ?_ ?_<;>intro h9 q9
 have FF:i<l.length:=AH h9
 obtain ⟨x,hx⟩:=at_ FF
 obtain ⟨y,hy⟩:=at_ (l:=l) (k:=i-1) (by omega)
 refine Tr.skip (Fin.go (Tr.seq (Tr.block (Tr.seq (Tr.QC mixed (by kernel_rfl) (cm rfl (cm rfl (gq rfl rfl rfl rfl (by omega) ?_))))))))
 refine co rfl (AA rfl underlying31 Bt (vl rfl) (vl rfl) (by omega) (by rw [show ((i:Nat):Int)-1=((i-1:Nat):Int) by omega];exact AO hy)) ?_
 refine co rfl (AR rfl D8 Bt (vl rfl) rfl rfl) (cm rfl (cm rfl (co rfl (AA rfl underlying31 Bt (vl rfl) (vl rfl) (by omega) (AO hx)) (co rfl (AR rfl D8 Bt (vl rfl) rfl rfl) (co rfl (AQ rfl (Pk) ⟨ke rfl,ke rfl,trivial⟩) (co rfl (HI rfl (vl rfl)) (Ch.nil (Fin.go (D7 0 1 7 66 rfl ?_)))))))))
 refine Tr.cn rfl ?_ ?_<;>intro h10 Oa
 refine Tr.seq (Tr.AW (cm rfl (Ch.nil (Fin.go (Tr.ret (Fin.AX (Fin.AB (Fin.AB (Fin.AX (Fin.AB (Fin.DZ rfl (BE.CZ _ _) rfl ?_)))))))))))
 · exact int_eq (fW (by omega) lz (by omega) hy hx (by simp_all)).symm
 refine Tr.skip (Fin.block (Fin.go (Tr.AW (cm rfl (GV rfl rfl rfl rfl (by omega) (cm rfl (Ch.nil ?_)))))))
 exact Fin.KE (i+1)  (⟨⟨⟨by omega,.inl (by omega)⟩,SW hx (fun z _ hz=>by rw [hy] at hz;cases hz;simp_all) kL⟩,by omega⟩) ⟨⟨_,rfl,AD i⟩,ke rfl,ke rfl,trivial⟩ (fun _ _ h=>h)
 have hie:=AJ h9
 have i_:DE l=true:=UM fun j a b hj=>kL j a b (by omega)
 refine Tr.exit (Fin.AS (Fin.AS (Fin.Ak (Fin.go (Tr.seq (Tr.AW (cm rfl (cm rfl ?_))))))))
 refine co rfl (AQ rfl (Px (n:=N) (l:=l) (by omega) hl XG) ⟨ke rfl,ke rfl,trivial⟩) ?_
 refine cm rfl (Ch.nil (Fin.go (Tr.seq (Tr.seq (Tr.AW (cm rfl (cm rfl (Ch.nil (Fin.go (Tr.block (Tr.KD [(8,_),(70,_)] ⟨ke rfl,ke rfl,trivial⟩ (fun (m:Nat)=>[(71,int ((m:Nat):Int))]) (fun (m:Nat)=>Hp M0 w0 Eo ([])) (fun (m:Nat)=>m≤N∧∀i,i<m→Dw l N i i=false) (fun (m:Nat)=>N-m) (0)  (⟨Nat.zero_le _,fun i hi=>absurd hi (by omega)⟩) ⟨ke rfl,trivial⟩ (fun _ _ h=>h) ?_)))))))))))
 rintro m  ⟨hm0,hwn⟩
 refine Tr.seq (Tr.AW (co rfl (ki rfl rfl rfl rfl) (Ch.nil (Fin.go (Tr.seq ?_)))))
 refine Tr.cn rfl ?_ ?_<;>intro h11 PR
 have hm:m<N:=AH h11
 refine Tr.skip (Fin.go (Tr.seq (Tr.block (Tr.seq (Tr.AW (cm rfl (cm rfl (Ch.nil (Fin.go (Tr.seq (Tr.AW (cm rfl (cm rfl ?_)))))))))))))
 refine co rfl (AA rfl underlying243 Lu (vl rfl) (vl rfl) (by omega) (AO (I7 _ hm))) (co rfl (DQ rfl Yf rfl) (cm rfl (co rfl (AA rfl underlying134 S3 (vl rfl) (vl rfl) (by omega) (AO (I8 _ hm))) (co rfl (DQ rfl YQ rfl) (Ch.nil (Fin.go ?_))))))
 refine Tr.cn rfl ?_ ?_<;>intro h12 S6
 refine Tr.seq (Tr.AW (cm rfl (Ch.nil (Fin.go (Eh 4 rfl (Tr.ret (Fin.AX (Fin.AB (Fin.AB (Fin.AX (Fin.AB (Fin.DZ rfl (BE.CZ _ _) rfl ?_))))))))))))
 · exact int_eq (aQ (by omega) lz i_ hm (by assumption)).symm
 refine Tr.skip (Fin.block (Fin.go (Tr.AW (GV rfl rfl rfl rfl (by omega) (cm rfl (Ch.nil ?_))))))
 exact Fin.KE (m+1)  (⟨⟨by omega,fun i hi=>by rcases Nat.lt_or_eq_of_le (Nat.le_of_lt_succ hi) with h_|h_;exact hwn i h_;(subst h_;assumption)⟩,by omega⟩) ⟨⟨_,rfl,AD m⟩,ke rfl,ke rfl,trivial⟩ (fun _ _ h=>h)
 have hme:=AJ h11
 refine Tr.exit (Fin.AS (Fin.AS (Fin.Ak (Fin.go (Tr.seq (Tr.AW (cm rfl (Ch.nil (Fin.go (Tr.ret (Fin.DZ rfl (BE.CZ _ _) rfl ?_)))))))))))
 · exact int_eq (fX (by omega) lz i_ fun i hi=>hwn i (by omega)).symm
theorem Hh {n:Int} {l:List BS} (hl:l.length≤1000000):Az prog 89 [int n,reqs l] (int (Bf n l)):=by
 refine fo func89 rfl ⟨rfl,rfl⟩ fun M0 w0=> ?_
 refine a2 ?_
 refine co rfl (CS (US hl) rfl rfl rfl) ?_
 refine a2 ?_
 · exact Lr
theorem LX {a b:List Int} (hab:a.length≤b.length):Az prog 139 [ints a,ints b] (DW):=by
 refine Az.of func139 rfl rfl (by exact Nb rfl) fun M0 w0=> ?_
 refine Tr.C8 0 rfl fun Et=>(Tr.C8 1 rfl fun Hz=>(Tr.seq (Tr.AW (cm rfl (Ch.nil (Fin.go (Tr.seq (Tr.seq (Tr.AW (cm rfl (co rfl (BF rfl underlying101 (vl rfl)) (cm rfl (Ch.nil (Fin.go ?_))))))))))))))
 refine Tr.block (Tr.A7 [(0,_),(1,_),(7,_)] (MW rfl) (fun k:Nat=>[(8,int ((k:Nat):Int))]) (fun k:Nat=>k≤(a).length) (fun k:Nat=>(a).length-k) 0 (Nat.zero_le _) ⟨ke rfl,trivial⟩ ?_)
 rintro k BN
 refine Tr.seq (Tr.AW (co rfl (ki rfl rfl rfl rfl) (Ch.nil (Fin.go (Tr.seq ?_)))))
 refine Tr.cn rfl ?_ ?_<;>intro h1 q1
 have Af:k<(a).length:=AH h1
 obtain ⟨x,Ad⟩:=at_ Af
 obtain ⟨y,hy⟩:=at_ (l:=b) (k:=k) (by omega)
 refine Tr.skip (Fin.go (Tr.seq (Tr.block (Tr.seq (Tr.AW (cm rfl (cm rfl (Ch.nil (Fin.go (Tr.seq (Tr.QC mixed (by kernel_rfl) (cm rfl (cm rfl ?_)))))))))))))
 refine co rfl (AA rfl underlying101 Bh (vl rfl) (vl rfl) (by omega) (AO Ad)) (co rfl (DQ rfl Bo rfl) (cm rfl (cm rfl (co rfl (AA rfl underlying101 Bh (vl rfl) (vl rfl) (by omega) (AO hy)) (co rfl (DQ rfl Bo rfl) (co rfl (ki rfl rfl rfl rfl) (Ch.nil (Fin.go (Jw 0 1 5 7 8 19 rfl ?_)))))))))
 refine Tr.cn rfl ?_ ?_<;>intro h2 q2
 refine Tr.seq (Tr.QC mixed (by kernel_rfl) (cm rfl (cm rfl (co rfl (AA rfl underlying101 Bh (vl rfl) (vl rfl) (by omega) (AO Ad)) (co rfl (DQ rfl Bo rfl) (cm rfl (cm rfl (co rfl (AA rfl underlying101 Bh (vl rfl) (vl rfl) (by omega) (AO hy)) (co rfl (DQ rfl Bo rfl) (co rfl (ki rfl rfl rfl rfl) (cm rfl (Ch.nil (Fin.go ?_)))))))))))))
 refine Eh 4 rfl (Tr.ret (Fin.AX (Fin.AB (Fin.AB (Fin.AX (Fin.AB (Fin.DZ rfl (BE.CZ _ _) rfl ?_)))))))
 · exact AG _ (Lr)
 refine Tr.skip (Fin.block (Fin.go (Tr.AW (GV rfl rfl rfl rfl (by omega) (cm rfl (Ch.nil (Fin.AM (k+1) ⟨Af,by omega⟩ ⟨⟨_,rfl,AD k⟩,ke rfl,ke rfl,ke rfl,trivial⟩)))))))
 have BI:k=(a).length:=by have:=AJ h1;omega
 refine Tr.exit (Fin.AS (Fin.AS (Fin.Ak (Fin.go (Tr.seq (Tr.AW (cm rfl (Ch.nil (Fin.go (Tr.ret (Fin.DZ rfl (BE.CZ _ _) rfl ?_)))))))))))
 · exact AG _ (Lr)
theorem Py {a b:List Int}  :Az prog 125 [ints a,ints b] (DW):=by
 refine Az.of func125 rfl rfl (by exact Nb rfl) fun M0 w0=> ?_
 refine Tr.C8 0 rfl fun Et=>(Tr.C8 1 rfl fun Hz=>(Tr.seq (Tr.AW (cm rfl (Ch.nil (Fin.go (Tr.seq (Tr.An (tm rfl (tp rfl (BF rfl underlying101 (vl rfl)) (tm rfl (tp rfl (BF rfl underlying101 (vl rfl)) (tp rfl (ki rfl rfl rfl rfl) ?_)))))))))))))
 refine tm rfl ?_
 refine TO.cases 10 rfl (fun h1=> ?_) (fun h1=> ?_)
 have q1:=D_.Ey h1
 refine TO.MM rfl rfl rfl h1 rfl (by decide) (EJ rfl (vl rfl)) (TO.MM rfl rfl rfl h1 rfl (by decide) (EJ rfl (vl rfl)) (TO.MM rfl rfl rfl h1 rfl (by decide) (AQ rfl (LX (by omega)) ⟨ke rfl,ke rfl,trivial⟩) (TO.ex 13 rfl fun z13=>(TO.MM rfl rfl rfl h1 rfl (by decide) (HI rfl (vl rfl)) (tp rfl (HK rfl rfl h1 rfl) (tm rfl ?_))))))
 refine TO.cases 16 rfl (fun h2=> ?_) (fun h2=> ?_)
 have q2:=D_.Ey h2
 refine TO.MM rfl rfl rfl h2 rfl (by decide) (EJ rfl (vl rfl)) (TO.MM rfl rfl rfl h2 rfl (by decide) (EJ rfl (vl rfl)) (TO.MM rfl rfl rfl h2 rfl (by decide) (AQ rfl (LX (by omega)) ⟨ke rfl,ke rfl,trivial⟩) (TO.ex 19 rfl fun z19=>(TO.MM rfl rfl rfl h2 rfl (by decide) (HI rfl (vl rfl)) (tp rfl (HK rfl rfl h2 rfl) (tm rfl (TO.nil (Fin.go (Eh 4 rfl (Tr.ret (Fin.DZ rfl (BE.CZ _ _) rfl ?_)))))))))))
 · exact AG _ (Lr)
 have q2:=D_.Ey h2
 iterate 4 refine TO.RL rfl rfl rfl (BG h2) rfl (by decide) ?_
 refine tp rfl (HM rfl rfl h2 rfl) (tm rfl (TO.nil (Fin.go (Eh 4 rfl (Tr.ret (Fin.DZ rfl (BE.CZ _ _) rfl ?_))))))
 · exact AG _ (Lr)
 have q1:=D_.Ey h1
 iterate 4 refine TO.RL rfl rfl rfl (BG h1) rfl (by decide) ?_
 refine tp rfl (HM rfl rfl h1 rfl) (tm rfl ?_)
 iterate 4 refine TO.RL rfl rfl rfl (BG rfl) rfl (by decide) ?_
 refine tp rfl (HM rfl rfl rfl rfl) (tm rfl (TO.nil (Fin.go (Eh 4 rfl (Tr.ret (Fin.DZ rfl (BE.CZ _ _) rfl ?_))))))
 · exact AG _ (Lr)
theorem Q9 {a b:List Int}  :Az prog 98 [ints a,ints b] (DW):=by
 refine fo func98 rfl ⟨rfl,rfl⟩ fun M0 w0=> ?_
 refine a2 ?_
 refine co rfl (CS (Py) rfl rfl rfl) ?_
 refine a2 ?_
 · exact Lr
abbrev sets (l:List (List Int)):Pr:=slice 1 (l.map fun s=>[ints s])
structure fy (l:List (List Int)) (s:List Int) (z:List (List Int)):Prop where
 mem:∀x∈z,x∈l∨x=s
 le:z.length≤l.length+1
 ge:l.length≤z.length
theorem V1 {l:List (List Int)} {s:List Int} {k:Nat} (hk:k≤l.length):fy l s (l.take k++[s]++l.drop k):=by
 refine ⟨fun x hx=> ?_,by simp;omega,by simp;omega⟩
 simp only [List.mem_append,List.mem_singleton] at hx
 rcases hx with (hx|hx)|hx
 · exact .inl (List.mem_of_mem_take hx)
 · exact .inr hx
 · exact .inl (List.mem_of_mem_drop hx)
theorem f_ {lo hi:Nat} (h:lo+hi≤1000000):IntKind.i64.wrap (((lo:Int)+(hi:Int)).tdiv 2)=(((lo+hi)/2:Nat):Int):=by
 rw [Int.tdiv_eq_ediv_of_nonneg (by omega),GR (by unfold K1;omega)];omega
theorem gA {l:List (List Int)} {s:List Int}:fy l s l:=⟨fun x hx=> .inl hx,by omega,by omega⟩
theorem a_ {l:List (List Int)} {s:List Int} (hl:l.length≤100000) (hs:∀x∈l,x.length=s.length):Az prog 138 [sets l,ints s] (Cp.ex fun z:List (List Int)=>fact (fy l s z) (sets z)):=by
 refine Az.of func138 rfl rfl (by exact Nb rfl) fun M0 w0=> ?_
 refine Tr.C8 0 rfl fun Et=> ?_
 have hml:(l.map fun s=>[ints s]).length=l.length:=List.length_map _
 refine Tr.seq (Tr.AW (cm rfl (Ch.nil (Fin.go (Tr.seq (Tr.AW (cm rfl (co rfl (BF rfl underlying174 (vl rfl)) (cm rfl (cm rfl (Ch.nil (Fin.go (Tr.seq (Tr.block ?_))))))))))))))
 refine Tr.DG [(0,_),(1,_)] ⟨ke rfl,ke rfl,trivial⟩ (fun (lo:Nat) (hi:Nat)=>[(5,int ((lo:Nat):Int)),(6,int ((hi:Nat):Int))]) (fun (lo:Nat) (hi:Nat)=>Hp M0 w0 Eo ([])) (fun (lo:Nat) (hi:Nat)=>lo≤hi∧hi≤l.length) (fun (lo:Nat) (hi:Nat)=>hi-lo) (0) (l.length)  (⟨Nat.zero_le _,Nat.le_refl _⟩) ⟨ke rfl,ke rfl,trivial⟩ (fun _ _ h=>h) ?_
 rintro lo hi  ⟨hlh,hhl⟩
 refine Tr.seq (Tr.seq (Tr.AW (cm rfl (cm rfl (co rfl (ki rfl rfl rfl rfl) (Ch.nil (Fin.go ?_)))))))
 refine Tr.cn rfl ?_ ?_<;>intro h1 q1
 have hlt:lo<hi:=AH h1
 obtain ⟨x,hx⟩:=at_ (l:=l) (k:=(lo+hi)/2) (by omega)
 have hxs:=hs x (List.mem_of_getElem? hx)
 refine Tr.skip (Fin.go (Tr.block (Tr.seq (Tr.AW (cm rfl (cm rfl (GV rfl rfl rfl rfl (by omega) (co rfl (M4 rfl (vl rfl) (vl rfl) (by omega)) (cm rfl (Ch.nil (Fin.go (Tr.seq (Tr.re 7 rfl (int_eq (f_ (by omega))) (Tr.AW ?_))))))))))))))
 refine cm rfl (cm rfl (co rfl (AA rfl underlying174 Dk (vl rfl) (vl rfl) (by omega) (AO hx)) (co rfl (DQ rfl QS rfl) (cm rfl (co rfl (AQ rfl (LX (by omega)) ⟨ke rfl,ke rfl,trivial⟩) (Ch.nil (Fin.go (Jw 0 1 5 6 7 23 rfl (Tr.ex 23 rfl fun zH=> ?_)))))))))
 refine Tr.cn rfl ?_ ?_<;>intro h2 q2
 refine Tr.AW (cm rfl (GV rfl rfl rfl rfl (by omega) (cm rfl (Ch.nil (Fin.block (Fin.DD (((lo+hi)/2+1)) (hi)  (⟨⟨by omega,by omega⟩,by omega⟩) ⟨ke rfl,ke rfl,ke rfl,ke rfl,trivial⟩ (fun _ _ h=>h)))))))
 refine Tr.AW (cm rfl (cm rfl (Ch.nil (Fin.block (Fin.DD (lo) (((lo+hi)/2))  (⟨⟨by omega,by omega⟩,by omega⟩) ⟨ke rfl,ke rfl,ke rfl,ke rfl,trivial⟩ (fun _ _ h=>h))))))
 have hge:=AJ h1
 refine Tr.exit (Fin.AS (Fin.AS (Fin.Ak (Fin.go (Tr.seq (Tr.seq (Tr.An (tm rfl (tm rfl (tp rfl (BF rfl underlying174 (vl rfl)) (tp rfl (ki rfl rfl rfl rfl) (tm rfl ?_))))))))))))
 refine TO.cases 31 rfl (fun h3=> ?_) (fun h3=> ?_)
 have q3:=D_.Ey h3
 obtain ⟨x2,hx2⟩:=at_ (l:=l) (k:=lo) (by omega)
 refine TO.MM rfl rfl rfl h3 rfl (by decide) (EJ rfl (vl rfl)) (TO.MM rfl rfl rfl h3 rfl (by decide) (EJ rfl (vl rfl)) (TO.MM rfl rfl rfl h3 rfl (by decide) (AA rfl underlying174 Dk (vl rfl) (vl rfl) (by omega) (AO hx2)) (TO.MM rfl rfl rfl h3 rfl (by decide) (DQ rfl QS rfl) (TO.MM rfl rfl rfl h3 rfl (by decide) (EJ rfl (vl rfl)) (TO.MM rfl rfl rfl h3 rfl (by decide) (AQ rfl (Py) ⟨ke rfl,ke rfl,trivial⟩) (TO.ex 37 rfl fun z37=>(tp rfl (HK rfl rfl h3 rfl) (TO.nil (Fin.go (D7 0 1 5 38 rfl ?_))))))))))
 refine Tr.cn rfl ?_ ?_<;>intro h4 q4
 refine Tr.seq (Tr.AW (cm rfl (cm rfl (Ch.nil (Fin.go (Tr.ret (Fin.AB (Fin.DZ rfl (BE.CZ _ _) rfl ?_))))))))
 · exact AG _ (AU gA (Lr))
 refine Tr.skip (Fin.go (Tr.seq (Tr.An (tm rfl (tm rfl (tp rfl (C_ rfl underlying174 Dk (vl rfl) (vl rfl) (by omega) (by omega)) (TO.pad ?_)))))))
 refine TO.DP 0 rfl rfl (by decide) (Db rfl rfl (by decide) rfl underlying174 Dk Lt LB rfl (by decide) ⟨_,rfl,AF _⟩ (vl rfl) (by simp only [List.length_map,List.length_append,List.length_cons,List.length_nil,List.length_take,List.length_drop];unfold maxLen;omega) (by simp only [List.length_map,List.length_append,List.length_cons,List.length_nil,List.length_take,List.length_drop];omega) (Ba (by exact List.Mem.head _) ⟨_,rfl,Dt 1⟩)) (fun v1=> ?_)
 refine tm rfl (TO.nil (Fin.go (Tr.seq (Tr.An (tm rfl (tm rfl (tp rfl (AL (xs:=[.tmp 45]) (rows:=[[_]]) rfl rfl underlying174 Dk LB rfl (by decide) ⟨⟨(by exact rfl),(Vo rfl)⟩,trivial⟩ (by decide)) ?_)))))))
 refine TO.DP 0 rfl rfl (by decide) (Bl rfl rfl rfl rfl underlying174 Dk Lt LB (Kb rfl) (Kf rfl) (Aq (by exact List.Mem.head _) (Ka rfl))) (fun v2=> ?_)
 refine tm rfl (TO.nil (Fin.go (CR 0 5 8 rfl (Tr.seq (Tr.An (tm rfl (tm rfl (tm rfl (tp rfl (C5 rfl underlying174 Dk (vl rfl) (vl rfl) (by omega) (by omega)) ?_)))))))))
 refine TO.DP 0 rfl rfl (by decide) (Bl rfl rfl rfl rfl underlying174 Dk Lt LB (Kb rfl) (vl rfl) (Aq (by exact List.Mem.head _) (Ka rfl))) (fun v3=> ?_)
 refine tm rfl (TO.nil (Fin.go (Tr.ret (Fin.DZ rfl (BE.CZ _ _) rfl ?_))))
 · refine AG _ (AU (V1 (k:=lo) (by omega)) (Pr.le_trans (Ah _ _) (Pr.le_of_eq ?_)));show _=slice 1 ((l.take lo++[s]++l.drop lo).map fun s=>[ints s]);simp [List.map_take,List.map_drop]
 have q3:=D_.Ey h3
 iterate 6 refine TO.RL rfl rfl rfl (BG h3) rfl (by decide) ?_
 refine tp rfl (HM rfl rfl h3 rfl) (TO.nil (Fin.go (D7 0 1 5 38 rfl (Tr.cond rfl (fun h=>nomatch h) (fun _=> ?_)))))
 refine Tr.skip (Fin.go (Tr.seq (Tr.An (tm rfl (tm rfl (tp rfl (C_ rfl underlying174 Dk (vl rfl) (vl rfl) (by omega) (by omega)) (TO.pad ?_)))))))
 refine TO.DP 0 rfl rfl (by decide) (Db rfl rfl (by decide) rfl underlying174 Dk Lt LB rfl (by decide) ⟨_,rfl,AF _⟩ (vl rfl) (by simp only [List.length_map,List.length_append,List.length_cons,List.length_nil,List.length_take,List.length_drop];unfold maxLen;omega) (by simp only [List.length_map,List.length_append,List.length_cons,List.length_nil,List.length_take,List.length_drop];omega) (Ba (by exact List.Mem.head _) ⟨_,rfl,Dt 1⟩)) (fun v4=> ?_)
 refine tm rfl (TO.nil (Fin.go (Tr.seq (Tr.An (tm rfl (tm rfl (tp rfl (AL (xs:=[.tmp 45]) (rows:=[[_]]) rfl rfl underlying174 Dk LB rfl (by decide) ⟨⟨(by exact rfl),(Vo rfl)⟩,trivial⟩ (by decide)) ?_)))))))
 refine TO.DP 0 rfl rfl (by decide) (Bl rfl rfl rfl rfl underlying174 Dk Lt LB (Kb rfl) (Kf rfl) (Aq (by exact List.Mem.head _) (Ka rfl))) (fun v5=> ?_)
 refine tm rfl (TO.nil (Fin.go (CR 0 5 8 rfl (Tr.seq (Tr.An (tm rfl (tm rfl (tm rfl (tp rfl (C5 rfl underlying174 Dk (vl rfl) (vl rfl) (by omega) (by omega)) ?_)))))))))
 refine TO.DP 0 rfl rfl (by decide) (Bl rfl rfl rfl rfl underlying174 Dk Lt LB (Kb rfl) (vl rfl) (Aq (by exact List.Mem.head _) (Ka rfl))) (fun v6=> ?_)
 refine tm rfl (TO.nil (Fin.go (Tr.ret (Fin.DZ rfl (BE.CZ _ _) rfl ?_))))
 · refine AG _ (AU (V1 (k:=lo) (by omega)) (Pr.le_trans (Ah _ _) (Pr.le_of_eq ?_)));show _=slice 1 ((l.take lo++[s]++l.drop lo).map fun s=>[ints s]);simp [List.map_take,List.map_drop]
theorem UT {o:List Int} (ho:o.length≤1000):Az prog 35 [ints o] (Cp.ex fun z:List BS=>fact (z.length≤o.length) (reqs z)):=by
 refine Az.of func35 rfl rfl (by exact Nb rfl) fun M0 w0=> ?_
 refine Tr.C8 0 rfl fun Et=>(Tr.seq (Tr.AW (cm rfl (Ch.nil (Fin.go (Tr.seq (Tr.AW (cm rfl (Ch.nil (Fin.go (Tr.seq (Tr.seq (Tr.AW ?_)))))))))))))
 refine cm rfl (Ch.nil (Fin.go (Tr.block (Tr.DG [(0,_)] ⟨ke rfl,trivial⟩ (fun (z:List BS) (i:Nat)=>[(3,reqs z),(4,int ((i:Nat):Int))]) (fun (z:List BS) (i:Nat)=>Hp M0 w0 Eo ([])) (fun (z:List BS) (i:Nat)=>(1≤i∧(i≤o.length∨i=1))∧z.length+1≤i) (fun (z:List BS) (i:Nat)=>o.length-i) ([]) (1)  (⟨⟨by omega,.inr rfl⟩,by simp⟩) ⟨⟨_,rfl,AF 2⟩,ke rfl,trivial⟩ (fun _ _ h=>h) ?_))))
 rintro z i  ⟨⟨hi1,hi2⟩,hzl⟩
 refine Tr.seq (Tr.seq (Tr.AW (cm rfl (cm rfl (co rfl (BF rfl underlying22 (vl rfl)) (co rfl (ki rfl rfl rfl rfl) (Ch.nil (Fin.go ?_))))))))
 refine Tr.cn rfl ?_ ?_<;>intro h1 q1
 have FF:i<o.length:=AH h1
 obtain ⟨x,hx⟩:=at_ FF
 obtain ⟨y,hy⟩:=at_ (l:=o) (k:=i-1) (by omega)
 refine Tr.skip (Fin.go (Tr.seq (Tr.block (Tr.QC mixed (by kernel_rfl) (cm rfl (cm rfl (cm rfl (gq rfl rfl rfl rfl (by omega) ?_))))))))
 refine co rfl (AA rfl underlying22 Bh (vl rfl) (vl rfl) (by omega) (by rw [show ((i:Nat):Int)-1=((i-1:Nat):Int) by omega];exact AO hy)) ?_
 refine co rfl (DQ rfl Bo rfl) (cm rfl (cm rfl (co rfl (AA rfl underlying22 Bh (vl rfl) (vl rfl) (by omega) (AO hx)) (co rfl (DQ rfl Bo rfl) (co rfl (Ai (rows:=[(0,[_]),(1,[_])]) rfl Yc JF ⟨⟨rfl,(Vo rfl)⟩,⟨⟨rfl,(Vo rfl)⟩,trivial⟩⟩ rfl) ?_)))))
 refine co rfl (AQ rfl (N5 (l:=z) (r:=⟨y,x⟩) (by omega)) ⟨ke rfl,ke rfl,trivial⟩) ?_
 refine cm rfl (Ch.nil (Fin.block (Fin.go (CR 0 3 4 rfl (Tr.AW (cm rfl (GV rfl rfl rfl rfl (by omega) (cm rfl (Ch.nil ?_)))))))))
 exact Fin.DD ((E7 z ⟨y,x⟩)) (i+1)  (⟨⟨⟨by omega,.inl (by omega)⟩,by have:=N4 z ⟨y,x⟩;omega⟩,by omega⟩) ⟨ke rfl,⟨_,rfl,AD i⟩,ke rfl,trivial⟩ (fun _ _ h=>h)
 have hie:=AJ h1
 refine Tr.exit (Fin.AS (Fin.AS (Fin.Ak (Fin.go (Tr.seq (Tr.AW (cm rfl (cm rfl (Ch.nil (Fin.go (Tr.ret (Fin.DZ rfl (BE.CZ _ _) rfl ?_))))))))))))
 · exact AG _ (AU (by omega) (Lr))
theorem Pz (n:Nat) (l:List BS):∀k,(Cq n l k).2.length≤k
 |0=>Nat.le_refl _
 |k+1=>by
  have h:=Pz n l k
  rw [Cq]
  split
  · omega
  ·
   rename_i x _
   have h2:=LO (Cq n l k).2 x true
   show (Eg (Cq n l k).2 x true).length≤k+1
   omega
theorem UU {n:Int} {l:List BS} (hl:l.length≤1000000):Az prog 68 [int n,reqs l] (EI [ints (if Bf n l=0 then (Cq n.toNat l n.toNat).1 else []),int (Bf n l)]):=by
 refine fo func68 rfl ⟨rfl,rfl⟩ fun M0 w0=> ?_
 refine a2 ?_
 refine co rfl (CS (Hh hl) rfl rfl rfl) ?_
 refine ac ?_
 refine an ?_ ?_<;>intro h1 q1
 have hv:Bf n l≠0:=by simpa using h1
 refine ac ?_
 refine Tr.ret (Fin.AB (Fin.DN rfl (BE.CZ _ _) rfl ?_ rfl ?_))
 · rw [if_neg hv];exact AF 1
 · exact Lr
 have hv:Bf n l=0:=by simpa using h1
 obtain ⟨N,rfl⟩:∃N:Nat,n=(N:Int):=⟨n.toNat,by have:=(EE hv).1;omega⟩
 have PW:=(EE hv).1
 refine a2 ?_
 refine Tr.seq (Tr.block (Tr.Bs 3 1 (Tr.Rd [(0,_),(1,_)] ⟨ke rfl,ke rfl,trivial⟩ (fun (k:Nat) u=>[(7,ints (Cq N l k).2),(8,Ag u (ints (Cq N l k).1))]) (fun (k:Nat) u=>Hp M0 w0 Eo ([Ap 3 1 u])) (fun (k:Nat)=>k≤N) (fun (k:Nat)=>N-k) (0) (.slice none 0 0) (Nat.zero_le _) ⟨⟨_,rfl,AF 1⟩,⟨_,rfl,BX rfl⟩,trivial⟩ (fun _ _ h=>h) ?_)))
 rintro k u hkN
 have hrow:=Hf hv k (by simpa using hkN)
 rw [Int.toNat_natCast] at hrow
 obtain ⟨XG,hrl⟩:=hrow
 have jA:(Cq N l k).2.length≤100000:=Nat.le_trans (Pz N l k) (by omega)
 refine ac ?_
 refine co rfl (BF rfl underlying101 (Kb rfl)) ?_
 refine an ?_ ?_<;>intro h2 q2
 have hk:k<N:=by have:=D_.Ey h2;omega
 obtain ⟨x,hx0,hst⟩:=SN hv (k:=k) (by simpa using hk)
 rw [Int.toNat_natCast] at hx0 hst
 have sY:=AO (f:=fun n:Int=>[int n]) hx0
 refine a2 ?_
 refine co rfl (Yz (L6 (n:=N) (l:=l) (by omega) (by omega)) rfl rfl rfl rfl rfl) ?_
 refine ac ?_
 refine Tr.pad (Tr.rx ?_)
 refine ay ?_
 refine xo rfl (fun _=>AA rfl underlying101 Bh (vl rfl) (vl rfl) (by omega) sY) (xo rfl (fun _=>DQ rfl Bo rfl) (xo rfl (fun _=>AL (xs:=[.tmp 27]) (rows:=[[_]]) rfl rfl underlying101 Bh z3 rfl (by decide) ⟨⟨(by exact rfl),(Vo rfl)⟩,trivial⟩ (by decide)) ?_))
 refine Cx.ef 1 rfl rfl (by decide) (Bl rfl rfl rfl rfl underlying101 Bh Iu z3 (Kb rfl) (Kf rfl) (Aq (by exact List.Mem.head _) (Ka rfl))) ?_
 refine ay ?_
 refine xo rfl (fun _=>AA rfl underlying101 Bh (vl rfl) (vl rfl) (by omega) sY) (xo rfl (fun _=>DQ rfl Bo rfl) (xo rfl (fun _=>JH (Fj (by omega)) rfl rfl rfl rfl) (Cx.ef 1 rfl rfl (by decide) (QH rfl rfl (by decide) rfl (vl rfl)) (xm rfl ?_))))
 refine Cx.nil ⟨by kernel_rfl,?_⟩
 refine BQ.open_ 1 8 rfl rfl (fun v1=> ?_)
 refine BQ.done VE (Fin.block (Fin.drop 0 ?_))
 exact Fin.U1 (k+1) v1 (⟨by omega,by omega⟩) ⟨⟨_,rfl,Pr.le_of_eq (by rw [hst])⟩,⟨_,rfl,Au (by rw [hst];simp)⟩,ke rfl,ke rfl,trivial⟩ (fun _ _ h=>h)
 have VR:k=N:=by have:=D_.Ey h2;omega
 refine a2 ?_
 refine Tr.ret (Fin.DN rfl (BE.CZ _ _) rfl ?_ rfl ?_)
 · rw [if_pos hv,Int.toNat_natCast,←VR];exact Ah _ _
 · refine int_eq ?_;exact hv.symm
structure JN (n k:Nat) (L:List (List Int)):Prop where
 Q3:∀s∈L,∀x∈s,0≤x∧x<(n:Int)
 len:∀s∈L,s.length=k
theorem Sd {n:Nat} {l:List BS} {s:List Int} {x:Int} (h:x∈F4 n l s true):(0≤x∧x<(n:Int))∧x∉s:=by
 unfold F4 at h
 obtain ⟨i,hi,rfl⟩:=List.mem_map.1 h
 obtain ⟨h1,h2⟩:=List.mem_filter.1 hi
 have h3:=List.mem_range.1 h1
 refine ⟨by omega,fun hc=> ?_⟩
 unfold Q2 at h2
 rw [Bool.and_eq_true] at h2
 have:=FJ.2 hc
 rw [this] at h2
 exact absurd h2.1 (by decide)
theorem JN.put {n k:Nat} {l:List BS} {L z:List (List Int)} {s:List Int} {x:Int} (h:JN n (k+1) L) (hs:s.length=k∧∀y∈s,0≤y∧y<(n:Int)) (hx:x∈F4 n l s true) (hp:fy L (Eg s x true) z):JN n (k+1) z:=by
 have hb:=Sd hx
 refine ⟨fun t ht=> ?_,fun t ht=> ?_⟩
 ·
  rcases hp.mem t ht with h1|rfl
  · exact h.Q3 t h1
  ·
   intro y hy
   rcases Fi.1 hy with rfl|hy
   · exact hb.1
   · exact hs.2 y hy
 ·
  rcases hp.mem t ht with h1|rfl
  · exact h.len t h1
  · rw [Kk hb.2,hs.1]
theorem XH {n k:Nat}:JN n k []:=⟨fun _ h=>(by cases h),fun _ h=>(by cases h)⟩
theorem XI {n:Nat}:JN n 0 [[]]:=⟨fun s h x hx=>(by simp at h;subst h;cases hx),fun s h=>(by simp at h;subst h;rfl)⟩
structure JO (n:Int) (L:List (List Int)):Prop where
 Q3:∀s∈L,∀x∈s,0≤x∧x<n
 len:L.length≤4096
 wid:∀s∈L,s.length≤4096
theorem XJ {n d:Nat} {lv ou nx:List (List Int)} (h1:JN n (d+1) nx) (h2:JO (n:Int) ou) (h3:lv=[]∨d+1≤ou.length) (hl:ou.length+nx.length≤4096) (hy:lv≠[]):((JN n (d+1) nx∧JO (n:Int) (ou++nx))∧(nx=[]∨d+1+1≤(ou++nx).length)∧nx.length≤4096)∧(if nx=[] then 0 else 4097-(ou++nx).length)<(if lv=[] then 0 else 4097-ou.length):=by
 have h4:(ou++nx).length=ou.length+nx.length:=List.length_append
 have h5:=h2.len
 rw [if_neg hy]
 refine ⟨⟨⟨h1,⟨fun s hs=> ?_,by omega,fun s hs=> ?_⟩⟩,?_,by omega⟩,?_⟩
 ·
  rcases List.mem_append.1 hs with hs|hs
  · exact h2.Q3 s hs
  · exact h1.Q3 s hs
 ·
  rcases List.mem_append.1 hs with hs|hs
  · exact h2.wid s hs
  · rw [h1.len s hs];rcases h3 with h3|h3;exact absurd h3 hy;omega
 ·
  cases nx with
  |nil=>exact .inl rfl
  |cons a m=>right;rcases h3 with h3|h3;exact absurd h3 hy;rw [h4,List.length_cons];omega
 ·
  cases nx with
  |nil=>rw [if_pos rfl];omega
  |cons a m=>rw [if_neg (fun h=>by cases h),h4,List.length_cons];rcases h3 with h3|h3;exact absurd h3 hy;omega
theorem XK {n:Int} {l:List BS} (hl:l.length≤1000000):Az prog 124 [int n,reqs l] (Cp.ex fun z:List (List Int)×Int=>fact (JO n z.1) (EI [sets z.1,int z.2])):=by
 refine Az.of func124 rfl rfl (by exact Nb rfl) fun M0 w0=> ?_
 refine Tr.seq (Tr.AW (cm rfl (cm rfl (Ch.nil (Fin.go (Tr.seq (Tr.seq (Tr.AW (cm rfl (cm rfl (co rfl (AQ rfl (Hh hl) ⟨ke rfl,ke rfl,trivial⟩) (cm rfl (Ch.nil (Fin.go ?_))))))))))))))
 refine Tr.seq (Tr.AW (cm rfl (co rfl (ki rfl rfl rfl rfl) (Ch.nil (Fin.go ?_)))))
 refine Tr.cn rfl ?_ ?_<;>intro h1 q1
 refine Tr.seq (Tr.AW (cm rfl (cm rfl (cm rfl (Ch.nil (Fin.go (Tr.ret (Fin.AB (Fin.BD rfl (AP.tmp rfl (Lr)) (AP.tmp rfl (Lr)) ?_)))))))))
 · exact AG ([],_) (AU ⟨fun s h=>(by cases h),(by decide:([]:List (List Int)).length≤4096),fun s h=>(by cases h)⟩ (Am ⟨AF 1,Lr,trivial⟩))
 have hv:Bf n l=0:=by simpa using h1
 obtain ⟨N,rfl⟩:∃N:Nat,n=(N:Int):=⟨n.toNat,by have:=(EE hv).1;omega⟩
 have PW:=(EE hv).1
 refine Tr.skip (Fin.go (Tr.seq (Tr.AW (co rfl (AL (xs:=[.const (.slice none 0 0)]) (rows:=[[ints []]]) rfl rfl underlying174 Dk LB rfl (by decide) ⟨⟨(by exact rfl),VL.le (vl rfl) (Pr.le_trans (AF 1) (Aj _))⟩,trivial⟩ (by decide)) ?_))))
 refine cm rfl (Ch.nil (Fin.go (Tr.seq (Tr.AW (co rfl (AL (xs:=[.const (.slice none 0 0)]) (rows:=[[ints []]]) rfl rfl underlying174 Dk LB rfl (by decide) ⟨⟨(by exact rfl),VL.le (vl rfl) (Pr.le_trans (AF 1) (Aj _))⟩,trivial⟩ (by decide)) ?_)))))
 refine cm rfl (Ch.nil (Fin.go (Tr.seq (Tr.block (Tr.sX (e:=101) (rows:=[[ints []]]) 8 rfl (Lr) (fun v8=> ?_))))))
 refine Tr.Ec [(0,_),(1,_)] ⟨ke rfl,ke rfl,trivial⟩ (fun (lv:List (List Int)) (ou:List (List Int)) (d:Nat) u=>[(7,sets lv),(8,Ag u (sets ou))]) (fun (lv:List (List Int)) (ou:List (List Int)) (d:Nat) u=>Hp M0 w0 Eo ([Ap 101 1 u])) (fun (lv:List (List Int)) (ou:List (List Int)) (d:Nat)=>(JN N d lv∧JO N ou)∧(lv=[]∨d+1≤ou.length)∧lv.length≤4096) (fun (lv:List (List Int)) (ou:List (List Int)) (d:Nat)=>(if lv=[] then 0 else 4097-ou.length)) ([[]]) ([[]]) (0) v8 (⟨⟨XI,⟨fun s h x hx=>(by simp at h;subst h;cases hx),by decide,fun s h=>(by simp at h;subst h;decide)⟩⟩,.inr (by decide),by decide⟩) ⟨⟨_,rfl,Bp 1 _⟩,⟨_,rfl,Au rfl⟩,trivial⟩ (fun _ _ h=>h) ?_
 rintro lv ou d u ⟨⟨hlv,bA⟩,hd,hl4⟩
 refine Tr.seq (Tr.seq (Tr.AW (cm rfl (co rfl (BF rfl underlying174 (vl rfl)) (co rfl (ki rfl rfl rfl rfl) (Ch.nil (Fin.go ?_)))))))
 refine Tr.cn rfl ?_ ?_<;>intro h2 q2
 have hy:lv≠[]:=by have h_:=D_.Ey h2;intro h0;subst h0;simp at h_
 have hd4:d+1≤4096:=by have:=bA.len;rcases hd with hd|hd;exact absurd hd hy;omega
 refine Tr.skip (Fin.go (Tr.block (Tr.seq (Tr.AW (cm rfl (Ch.nil (Fin.go (Tr.seq (Tr.seq (Tr.AW (cm rfl (co rfl (BF rfl underlying174 (vl rfl)) (cm rfl ?_)))))))))))))
 refine Ch.nil (Fin.go (Tr.block ?_))
 refine Tr.DG [(0,_),(1,_),(8,_),(25,_),(26,_)] ⟨ke rfl,ke rfl,ke rfl,ke rfl,ke rfl,trivial⟩ (fun (nx:List (List Int)) (m:Nat)=>[(9,sets nx),(27,int ((m:Nat):Int))]) (fun (nx:List (List Int)) (m:Nat)=>Hp M0 w0 Eo ([Ap 101 1 u])) (fun (nx:List (List Int)) (m:Nat)=>(m≤lv.length∧JN N (d+1) nx)∧ou.length+nx.length≤4096) (fun (nx:List (List Int)) (m:Nat)=>lv.length-m) ([]) (0)  (⟨⟨Nat.zero_le _,XH⟩,by have:=bA.len;simpa using this⟩) ⟨⟨_,rfl,AF 1⟩,ke rfl,trivial⟩ (fun _ _ h=>h) ?_
 rintro nx m  ⟨⟨hm0,hnx⟩,Ta⟩
 refine Tr.seq (Tr.AW (co rfl (ki rfl rfl rfl rfl) (Ch.nil (Fin.go (Tr.seq ?_)))))
 refine Tr.cn rfl ?_ ?_<;>intro h3 q3
 have hml:m<lv.length:=AH h3
 obtain ⟨s,hs⟩:=at_ hml
 have fM:=hlv.len s (List.mem_of_getElem? hs)
 refine Tr.skip (Fin.go (Tr.seq (Tr.block (Tr.seq (Tr.AW (co rfl (AA rfl underlying174 Dk (vl rfl) (vl rfl) (by omega) (AO hs)) (co rfl (DQ rfl QS rfl) (cm rfl (Ch.nil (Fin.go (Tr.seq (Tr.AW (cm rfl ?_)))))))))))))
 refine cm rfl (cm rfl ?_)
 refine co rfl (AQ rfl (L6 (n:=N) (l:=l) (by omega) (by omega)) ⟨ke rfl,ke rfl,ke rfl,ke rfl,trivial⟩) ?_
 refine co rfl (BF rfl underlying101 (vl rfl)) (cm rfl (Ch.nil (Fin.go (EO 0 1 8 9 11 25 26 27 34 35 36 rfl (Tr.block (Tr.DG [(0,_),(1,_),(8,_),(11,_),(25,_),(26,_),(27,_),(34,_),(35,_)] ⟨ke rfl,ke rfl,ke rfl,ke rfl,ke rfl,ke rfl,ke rfl,ke rfl,ke rfl,trivial⟩ (fun (ny:List (List Int)) (q:Nat)=>[(9,sets ny),(36,int ((q:Nat):Int))]) (fun (ny:List (List Int)) (q:Nat)=>Hp M0 w0 Eo ([Ap 101 1 u])) (fun (ny:List (List Int)) (q:Nat)=>(q≤(F4 N l s true).length∧JN N (d+1) ny)∧ou.length+ny.length≤4096) (fun (ny:List (List Int)) (q:Nat)=>(F4 N l s true).length-q) (nx) (0)  (⟨⟨Nat.zero_le _,hnx⟩,Ta⟩) ⟨ke rfl,ke rfl,trivial⟩ (fun _ _ h=>h) ?_))))))
 rintro ny q  ⟨⟨hq0,hny⟩,xX⟩
 refine Tr.seq (Tr.AW (co rfl (ki rfl rfl rfl rfl) (Ch.nil (Fin.go (Tr.seq ?_)))))
 refine Tr.cn rfl ?_ ?_<;>intro h4 q4
 have hql:q<(F4 N l s true).length:=AH h4
 have S4:=SP (n:=N) (l:=l) (s:=s) (add:=true)
 obtain ⟨x,SB⟩:=at_ hql
 refine Tr.skip (Fin.go (Tr.seq (Tr.block (Tr.seq (Tr.AW (co rfl (AA rfl underlying101 Bh (vl rfl) (vl rfl) (by omega) (AO SB)) (co rfl (DQ rfl Bo rfl) (cm rfl (Ch.nil (Fin.go (ND 0 1 8 9 11 13 25 26 27 34 35 36 rfl (Tr.seq (Tr.An ?_)))))))))))))
 refine tm rfl (tm rfl (tm rfl (tp rfl (AQ rfl (Fj (by omega)) ⟨ke rfl,ke rfl,ke rfl,trivial⟩) ?_)))
 refine tp rfl (AQ rfl (a_ (by omega) (fun t ht=>by rw [hny.len t ht,Kk (Sd (List.mem_of_getElem? SB)).2];omega)) ⟨ke rfl,ke rfl,trivial⟩) ?_
 refine TO.ex 44 rfl (fun z1=>TO.fact 44 rfl fun FM=> ?_)
 have hzl:=FM.le
 refine tm rfl (TO.nil (Fin.go (EO 0 1 8 9 11 25 26 27 34 35 36 rfl (Tr.seq (Tr.AW (cm rfl (co rfl (BF rfl underlying174 (Kb rfl)) (cm rfl (co rfl (BF rfl underlying174 (vl rfl)) (GV rfl rfl rfl rfl (by omega) (co rfl (ki rfl rfl rfl rfl) (Ch.nil (Fin.go ?_)))))))))))))
 refine ND 0 1 8 9 11 25 26 27 34 35 36 50 rfl ?_
 refine Tr.cn rfl ?_ ?_<;>intro h5 q5
 refine Tr.seq (Tr.AW (cm rfl (cm rfl (Ch.nil (Fin.go (CY 4 5 rfl (Tr.ret (Fin.AX (Fin.AB (Fin.AB (Fin.AX (Fin.AX (Fin.AB (Fin.AB ?_))))))))))))))
 refine Fin.AX (Fin.AB (Fin.AX (Fin.AB (Fin.AX (Fin.AB (Fin.BD rfl (AP.tmp rfl (Lr)) (AP.tmp rfl (Lr)) ?_))))))
 · exact AG ([],_) (AU ⟨fun s h=>(by cases h),(by decide:([]:List (List Int)).length≤4096),fun s h=>(by cases h)⟩ (Am ⟨AF 1,Lr,trivial⟩))
 refine Tr.skip (Fin.block (Fin.go (Tr.AW (GV rfl rfl rfl rfl (by omega) (cm rfl (Ch.nil (Fin.DD (z1) (q+1)  (⟨⟨⟨by omega,hny.put ⟨fM,hlv.Q3 s (List.mem_of_getElem? hs)⟩ (List.mem_of_getElem? SB) FM⟩,by omega⟩,by omega⟩) ⟨ke rfl,⟨_,rfl,AD q⟩,ke rfl,ke rfl,ke rfl,ke rfl,ke rfl,ke rfl,ke rfl,ke rfl,ke rfl,trivial⟩ (fun _ _ h=>h))))))))
 have hqe:=AJ h4
 refine Tr.exit (Fin.AS (Fin.AS (Fin.Ak (Fin.block (Fin.go (Tr.AW (GV rfl rfl rfl rfl (by omega) (cm rfl (Ch.nil (Fin.DD (ny) (m+1)  (⟨⟨⟨by omega,hny⟩,xX⟩,by omega⟩) ⟨ke rfl,⟨_,rfl,AD m⟩,ke rfl,ke rfl,ke rfl,ke rfl,ke rfl,trivial⟩ (fun _ _ h=>h)))))))))))
 have hme:=AJ h3
 refine Tr.exit (Fin.AS (Fin.AS (Fin.Ak (Fin.go (Tr.An (tm rfl (tm rfl ?_)))))))
 refine TO.DP 0 rfl rfl (by decide) (Bl rfl rfl rfl rfl underlying174 Dk Lt LB (Kb rfl) (vl rfl) (Aq (by exact List.Mem.head _) (Ka rfl))) (fun v1=> ?_)
 refine tm rfl (tm rfl (tm rfl (TO.nil (Fin.block (Fin.DU (nx) (ou++nx) (d+1) v1 (XJ hnx bA hd Ta hy) ⟨ke rfl,⟨_,rfl,Au (by simp)⟩,ke rfl,ke rfl,trivial⟩ (fun _ _ h=>h))))))
 have hy:=h2
 refine Tr.exit (Fin.AS (Fin.AS (Fin.Ak (Fin.go (Tr.seq (Tr.AW (cm rfl (cm rfl (cm rfl (Ch.nil (Fin.go (Tr.ret (Fin.BD rfl (AP.tmp rfl (Lr)) (AP.tmp rfl (Lr)) ?_)))))))))))))
 · exact AG (_,_) (AU bA (Am ⟨Ah _ _,Lr,trivial⟩))
theorem bB {β:Type} {p:β→Bool} {l:List β} {k:Nat} {x:β} (h:l[k]? =some x):idx p (l.take (k+1))=if idx p (l.take k)<0 then (if p x=true then (k:Int) else -1) else idx p (l.take k):=by
 have hk:=A0 h
 rw [List.take_add_one,h]
 have hl:(l.take k).length=k:=by rw [List.length_take];omega
 show idx p (l.take k++[x])=_
 generalize l.take k=a at hl ⊢
 unfold idx
 rw [List.findIdx?_append]
 cases ha:a.findIdx? p with
 |some i=>simp;intro h3;omega
 |none=>cases hp:p x<;>simp [hp,hl]
theorem XL {β:Type} {p:β→Bool} {l:List β} {k:Nat} {x:β} (h:l[k]? =some x):(((l.take (k+1)).countP p:Nat):Int)=((l.take k).countP p:Nat)+(if p x=true then 1 else 0):=by
 rw [List.take_add_one,h]
 show (((l.take k++[x]).countP p:Nat):Int)=_
 rw [List.countP_append,List.countP_singleton];split<;>simp_all
theorem Kq {β:Type} {p:β→Bool} {l:List β}:idx p l<0↔l.countP p=0:=by
 unfold idx
 cases h:l.findIdx? p with
 |none=>
  rw [List.findIdx?_eq_none_iff] at h
  simp only [show ((none:Option Nat).map fun n=>(n:Int)).getD (-1)= -1 from rfl]
  constructor
  · intro _;rw [List.countP_eq_zero];intro a ha;rw [h a ha];decide
  · intro _;decide
 |some i=>
  rw [List.findIdx?_eq_some_iff_getElem] at h
  obtain ⟨h1,h2,_⟩:=h
  constructor
  · intro h3;exfalso;revert h3;simp
  · intro h3;rw [List.countP_eq_zero] at h3;exact absurd h2 (h3 _ (List.getElem_mem h1))
theorem gB {β:Type} {p:β→Bool} {l:List β} {k n:Nat} (h:l.length≤n):(l.take k).countP p≤n:=Nat.le_trans List.countP_le_length (Nat.le_trans (by rw [List.length_take];omega) h)
theorem bsX {l:List Int} {n x:Int} {k:Nat} (h:∀(j:Nat) y,j<k→l[j]? =some y→y<n) (hx:l[k]? =some x) (hlt:x<n):∀(j:Nat) y,j<k+1→l[j]? =some y→y<n:=by
 intro j y hj hy
 rcases Nat.lt_or_eq_of_le (Nat.le_of_lt_succ hj) with h1|h1
 · exact h j y h1 hy
 · subst h1;rw [hx] at hy;cases hy;exact hlt
def F7 (id:Int) (x:H_):Bool:=x.B8==id
def El (id:Int) (l:List H_):Int:=((l.countP (F7 id):Nat):Int)
theorem E8 (id:Int) (l:List H_):BR id l=idx (F7 id) l:=rfl
theorem XM {id:Int} {l:List H_} {k:Nat} {x:H_} (h:l[k]? =some x):El id (l.take (k+1))=El id (l.take k)+(if x.B8=id then 1 else 0):=by
 unfold El;rw [XL h];unfold F7;simp only [beq_iff_eq]
theorem Se {id:Int} {l:List H_} {k:Nat} {x:H_} (h:l[k]? =some x):BR id (l.take (k+1))=if El id (l.take k)=0 then (if x.B8=id then (k:Int) else -1) else BR id (l.take k):=by
 rw [E8,E8,bB h]
 have:=Kq (p:=F7 id) (l:=l.take k)
 unfold El
 by_cases h2:idx (F7 id) (l.take k)<0
 ·
  have h4:(((l.take k).countP (F7 id):Nat):Int)=0:=by rw [this.1 h2];rfl
  rw [if_pos h2,if_pos h4];unfold F7;simp only [beq_iff_eq]
 · rw [if_neg h2,if_neg (fun h3=>h2 (this.2 (by omega)))]
theorem Sf {id:Int} {l:List H_} (h:El id l=0):BR id l= -1:=by
 have h2:=(Kq (p:=F7 id) (l:=l)).2 (by unfold El at h;omega)
 rw [E8];unfold idx at h2 ⊢
 cases h3:l.findIdx? (F7 id) with
 |none=>rfl
 |some i=>rw [h3] at h2;simp at h2;omega
def Em (e:Bk) (k:Int):Int×Bool:=if k=3 then (e.most,true) else if k=4 then (e.least,true) else if k=11 then (JB e.KS,true) else if k=12 then (JB e.own,true) else (0,false)
def DB (e:Bk) (k:Int):List Int×Bool×Bool:=
 if k=1∨k=2 then (e.Ao,decide (k=1),true) else if k=7∨k=8 then (e.anchors,decide (k=7),true) else if k=9∨k=10 then (e.hashes,decide (k=9),true) else ([],false,false)
theorem Fl (x:H_):decide (x=Bc)=VG x:=by
 rw [Bool.eq_iff_iff,decide_eq_true_eq];unfold VG Bc
 cases x;simp only [H_.mk.injEq,Bool.and_eq_true,decide_eq_true_eq,beq_iff_eq,and_assoc]
 constructor
 · rintro ⟨h1,h2,h3,h4⟩;exact ⟨h1,h2,h3,by simp [h4]⟩
 · rintro ⟨h1,h2,h3,h4⟩;exact ⟨h1,h2,h3,List.eq_nil_of_length_eq_zero (by omega)⟩
theorem Hj {l:List Int} {n:Int}  :Az prog 160 [ints l,int n] (int (idx (fun y=>n==y) l)):=by
 refine fo func160 rfl ⟨rfl,rfl⟩ fun M0 w0=>(Tr.C8 0 rfl fun Et=> ?_)
 refine a2 ?_
 refine Tr.block (Tr.A7 [(1,_),(7,_),(8,_)] (MW rfl) (fun k:Nat=>[(9,int ((k:Nat):Int))]) (fun k:Nat=>k≤(l).length∧(∀j y,j<k→l[j]? =some y→(n==y)=false)) (fun k:Nat=>(l).length-k) 0 (⟨Nat.zero_le _,fun j y hj=>absurd hj (by omega)⟩) ⟨ke rfl,trivial⟩ ?_)
 rintro k ⟨BN,Ab⟩
 refine ac ?_
 refine Tr.seq ?_
 refine Tr.cn rfl ?_ ?_<;>intro h1 q1
 have Af:k<(l).length:=AH h1
 obtain ⟨x,Ad⟩:=at_ Af
 · repeat' first|(exact int_eq (Dx (p:=fun y=>n==y) Ad (by simp;omega) Ab))|(exact Fin.AM (k+1) ⟨⟨Af,EM (p:=fun y=>n==y) Ad (by simp;omega) Ab⟩,by omega⟩ ⟨⟨_,rfl,AD k⟩,ke rfl,ke rfl,ke rfl,trivial⟩)|refine co rfl (AA rfl underlying22 Bh (vl rfl) (vl rfl) (by omega) (by exact AO (by assumption))) ?_|refine ac ?_|(refine Tr.cn rfl ?_ ?_<;>intro h q)
 have BI:k=(l).length:=by have:=AJ h1;omega
 subst BI
 refine a3 ?_
 · exact int_eq (G4 (p:=fun y=>n==y) Ab)
theorem LY {e:Bk} {id:Int} (hl:e.ids.length≤1000000):Az prog 162 [agg (BP e),int id] (EI [int (El id e.ids),int (BR id e.ids)]):=by
 refine fo func162 rfl ⟨rfl,rfl⟩ fun M0 w0=> ?_
 refine a3 ?_
 refine Tr.block (Tr.A7 [(1,_),(11,_),(12,_)] (MW rfl) (fun k:Nat=>[(13,int ((k:Nat):Int)),(6,int (El id (e.ids.take k))),(7,int (BR id (e.ids.take k)))]) (fun k:Nat=>k≤(e.ids).length) (fun k:Nat=>(e.ids).length-k) 0 (Nat.zero_le _) ⟨ke rfl,⟨_,rfl,int_eq rfl⟩,⟨_,rfl,int_eq rfl⟩,trivial⟩ ?_)
 rintro k BN
 refine ac ?_
 refine Tr.seq ?_
 refine Tr.cn rfl ?_ ?_<;>intro h1 q1
 have Af:k<(e.ids).length:=AH h1
 obtain ⟨x,Ad⟩:=at_ Af
 have hc:=XM (id:=id) Ad
 have hi:=Se (id:=id) Ad
 have jR:0≤El id (e.ids.take k)∧El id (e.ids.take k)≤1000000:=⟨by unfold El;omega,by have:=gB (p:=F7 id) (k:=k) hl;unfold El;omega⟩
 have h0:=Sf (id:=id) (l:=e.ids.take k)
 refine ac ?_
 refine ao ?_
 refine tp rfl (AA rfl underlying68 E0 (vl rfl) (vl rfl) (by omega) (by exact AO (by assumption))) ?_
 refine tp rfl (AR rfl Rk E0 (vl rfl) rfl rfl) ?_
 refine Tl rfl rfl rfl rfl z75 TS (fun b1=> ?_)
 refine tm rfl ?_
 refine sf 0 9 ⟨rfl,rfl,rfl⟩ rfl rfl rfl rfl ?_
 refine ao ?_
 · repeat' first|exact Fin.AM (k+1) ⟨Af,by omega⟩ ⟨⟨_,rfl,AD k⟩,⟨_,rfl,int_eq (by simp_all)⟩,⟨_,rfl,int_eq (by simp_all)⟩,ke rfl,ke rfl,ke rfl,trivial⟩|refine ac ?_|(refine Tr.cn rfl ?_ ?_<;>intro h q)
 have BI:k=(e.ids).length:=by have:=AJ h1;omega
 subst BI
 rw [List.take_length]
 refine a2 ?_
 refine Tr.ret (Fin.DN rfl (BE.CZ _ _) rfl ?_ rfl ?_)
 · exact Lr
 · exact Lr
theorem Sg {b:Bool}  :Az prog 173 [bool b] (int (JB b)):=by
 refine fo func173 rfl ⟨rfl,rfl⟩ fun M0 w0=> ?_
 · repeat' first|exact int_eq (by simp_all [JB])|refine ac ?_|(refine Tr.cn rfl ?_ ?_<;>intro h q)
theorem UW {e:Bk} {k:Int}  :Az prog 161 [agg (BP e),int k] (EI [int (Em e k).1,bool (Em e k).2]):=by
 refine fo func161 rfl ⟨rfl,rfl⟩ fun M0 w0=> ?_
 refine a2 ?_
 refine an ?_ ?_<;>intro h1 q1
 refine ac ?_
 refine Tr.ret (Fin.AX (Fin.AB (Fin.DN rfl (BE.CZ _ _) rfl ?_ rfl ?_)))
 · exact int_eq (by simp_all [Em])
 · exact bool_eq (by simp_all [Em])
 refine an ?_ ?_<;>intro h2 q2
 refine ac ?_
 refine Tr.ret (Fin.AX (Fin.AB (Fin.DN rfl (BE.CZ _ _) rfl ?_ rfl ?_)))
 · exact int_eq (by simp_all [Em])
 · exact bool_eq (by simp_all [Em])
 refine an ?_ ?_<;>intro h3 q3
 refine ac ?_
 refine co rfl (Ce (Sg) rfl rfl) ?_
 refine ac ?_
 refine CY 4 5 rfl (Tr.ret (Fin.AX (Fin.AB (Fin.DN rfl (BE.CZ _ _) rfl ?_ rfl ?_))))
 · exact int_eq (by simp_all [Em])
 · exact bool_eq (by simp_all [Em])
 refine an ?_ ?_<;>intro h4 q4
 refine ac ?_
 refine co rfl (Ce (Sg) rfl rfl) ?_
 refine ac ?_
 refine CY 4 5 rfl (Tr.ret (Fin.AX (Fin.AB (Fin.DN rfl (BE.CZ _ _) rfl ?_ rfl ?_))))
 · exact int_eq (by simp_all [Em])
 · exact bool_eq (by simp_all [Em])
 refine a2 ?_
 refine CY 4 5 rfl (Tr.ret (Fin.DN rfl (BE.CZ _ _) rfl ?_ rfl ?_))
 · exact int_eq (by simp_all [Em])
 · exact bool_eq (by simp_all [Em])
theorem XN {c:BK} (hcs:c.Ck.small):Az prog 158 [agg (EP c)] (bool (decide (GA c))):=by
 refine fo func158 rfl ⟨rfl,rfl⟩ fun M0 w0=> ?_
 refine ac ?_
 refine ac ?_
 refine co rfl (AQ rfl (Tv (a:=c.Ck) (b:=Bc) hcs) ⟨ke rfl,⟨_,rfl,Ar ⟨Lr,Lr,Lr,AF 15,trivial⟩⟩,trivial⟩) ?_
 refine ac ?_
 refine ac ?_
 refine ac ?_
 refine Tr.cn rfl ?_ ?_<;>intro h1 q1
 refine ac ?_
 refine ac ?_
 · refine bool_eq ?_;(try simp only [Fl] at*);rw [Bool.eq_iff_iff,decide_eq_true_eq];unfold GA Ni;simp_all
 refine ac ?_
 refine Tr.cn rfl ?_ ?_<;>intro h2 q2
 refine ac ?_
 refine Eh 2 rfl ?_
 refine ac ?_
 · refine bool_eq ?_;(try simp only [Fl] at*);rw [Bool.eq_iff_iff,decide_eq_true_eq];unfold GA Ni;simp_all
 refine ac ?_
 refine ac ?_
 refine Ch.cs 21 rfl ?_ ?_<;>intro h3 q3
 refine ac ?_
 refine Ch.cs 26 rfl ?_ ?_<;>intro h4 q4
 refine ac ?_
 refine Ch.cs 29 rfl ?_ ?_<;>intro h5 q5
 refine ac ?_
 refine Eh 2 rfl ?_
 refine ac ?_
 · refine bool_eq ?_;(try simp only [Fl] at*);rw [Bool.eq_iff_iff,decide_eq_true_eq];unfold GA Ni;simp_all
 refine ac ?_
 refine Eh 2 rfl ?_
 refine ac ?_
 · refine bool_eq ?_;(try simp only [Fl] at*);rw [Bool.eq_iff_iff,decide_eq_true_eq];unfold GA Ni;simp_all
 refine ac ?_
 refine Eh 2 rfl ?_
 refine ac ?_
 · refine bool_eq ?_;(try simp only [Fl] at*);rw [Bool.eq_iff_iff,decide_eq_true_eq];unfold GA Ni;simp_all;omega
 refine ac ?_
 refine Eh 2 rfl ?_
 refine ac ?_
 · refine bool_eq ?_;(try simp only [Fl] at*);rw [Bool.eq_iff_iff,decide_eq_true_eq];unfold GA Ni;simp_all;omega
theorem Sh {e:Bk} {k:Int}  :Az prog 159 [agg (BP e),int k] (EI [ints (DB e k).1,bool (DB e k).2.1,bool (DB e k).2.2]):=by
 refine fo func159 rfl ⟨rfl,rfl⟩ fun M0 w0=> ?_
 refine a2 ?_
 refine an ?_ ?_<;>intro h1 q1
 refine ac ?_
 refine Tr.cond rfl (fun _=> ?_) (fun h=>nomatch h1.symm.trans h)
 refine ac ?_
 refine CR 4 5 6 rfl (Tr.ret (Fin.AX (Fin.AB (Fin.HH rfl (BE.CZ _ _) rfl ?_ rfl ?_ rfl ?_))))
 · exact Pr.le_of_eq (by simp_all [DB])
 · exact bool_eq (by simp_all [DB])
 · exact bool_eq (by simp_all [DB])
 refine an ?_ ?_<;>intro h2 q2
 refine ac ?_
 refine CR 4 5 6 rfl (Tr.ret (Fin.AX (Fin.AB (Fin.HH rfl (BE.CZ _ _) rfl ?_ rfl ?_ rfl ?_))))
 · exact Pr.le_of_eq (by simp_all [DB])
 · exact bool_eq (by simp_all [DB])
 · exact bool_eq (by simp_all [DB])
 refine an ?_ ?_<;>intro h3 q3
 refine ac ?_
 refine Tr.cond rfl (fun _=> ?_) (fun h=>nomatch h3.symm.trans h)
 refine ac ?_
 refine CR 4 5 6 rfl (Tr.ret (Fin.AX (Fin.AB (Fin.HH rfl (BE.CZ _ _) rfl ?_ rfl ?_ rfl ?_))))
 · exact Pr.le_of_eq (by simp_all [DB])
 · exact bool_eq (by simp_all [DB])
 · exact bool_eq (by simp_all [DB])
 refine an ?_ ?_<;>intro h4 q4
 refine ac ?_
 refine CR 4 5 6 rfl (Tr.ret (Fin.AX (Fin.AB (Fin.HH rfl (BE.CZ _ _) rfl ?_ rfl ?_ rfl ?_))))
 · exact Pr.le_of_eq (by simp_all [DB])
 · exact bool_eq (by simp_all [DB])
 · exact bool_eq (by simp_all [DB])
 refine ac ?_
 refine D7 1 2 7 22 rfl ?_
 refine Tr.cn rfl ?_ ?_<;>intro h5 q5
 refine ac ?_
 refine Tr.cond rfl (fun _=> ?_) (fun h=>nomatch h5.symm.trans h)
 refine ac ?_
 refine Tr.ret (Fin.AX (Fin.AB (Fin.HH rfl (BE.CZ _ _) rfl ?_ rfl ?_ rfl ?_)))
 · exact Pr.le_of_eq (by simp_all [DB])
 · exact bool_eq (by simp_all [DB])
 · exact bool_eq (by simp_all [DB])
 refine an ?_ ?_<;>intro h6 q6
 refine ac ?_
 refine Tr.ret (Fin.AX (Fin.AB (Fin.HH rfl (BE.CZ _ _) rfl ?_ rfl ?_ rfl ?_)))
 · exact Pr.le_of_eq (by simp_all [DB])
 · exact bool_eq (by simp_all [DB])
 · exact bool_eq (by simp_all [DB])
 refine a2 ?_
 refine Tr.ret (Fin.HH rfl (BE.CZ _ _) rfl ?_ rfl ?_ rfl ?_)
 · exact Pr.le_trans (AF 1) (Pr.le_of_eq (by rw [show (DB e k).1=[] by simp_all [DB]];rfl))
 · exact bool_eq (by simp_all [DB])
 · exact bool_eq (by simp_all [DB])
theorem LZ {l:List Int} {i:Nat} {n:Int} (hi:i≤l.length) (hl:l.length≤1000000):Az prog 163 [ints l,int ((i:Nat):Int),int n] (ints (l.take i++[n]++l.drop i)):=by
 refine fo func163 rfl ⟨rfl,rfl⟩ fun M0 w0=> ?_
 have hml:(l.map fun n:Int=>[int n]).length=l.length:=List.length_map _
 refine ac ?_
 refine ap ?_
 refine tp rfl (C_ rfl underlying22 Bh (vl rfl) (vl rfl) (by omega) (by omega)) (TO.pad ?_)
 refine TO.DP 0 rfl rfl (by decide) (Db rfl rfl (by decide) rfl underlying22 Bh Iu z3 rfl (by decide) ⟨_,rfl,AF _⟩ (vl rfl) (by simp only [List.length_map,List.length_append,List.length_cons,List.length_nil,List.length_take,List.length_drop];unfold maxLen;omega) (by simp only [List.length_map,List.length_append,List.length_cons,List.length_nil,List.length_take,List.length_drop];omega) (Ba (by exact List.Mem.head _) ⟨_,rfl,Dt 1⟩)) (fun v1=> ?_)
 refine ap ?_
 refine ap ?_
 refine TO.DP 0 rfl rfl (by decide) (Bl rfl rfl rfl rfl underlying22 Bh Iu z3 (Kb rfl) (Kf rfl) (Aq (by exact List.Mem.head _) (Ka rfl))) (fun v2=> ?_)
 refine ap ?_
 refine ap ?_
 refine tp rfl (C5 rfl underlying22 Bh (vl rfl) (vl rfl) (by omega) (by omega)) ?_
 refine TO.DP 0 rfl rfl (by decide) (Bl rfl rfl rfl rfl underlying22 Bh Iu z3 (Kb rfl) (vl rfl) (Aq (by exact List.Mem.head _) (Ka rfl))) (fun v3=> ?_)
 refine ap ?_
 refine Eh 6 rfl ?_
 refine ac ?_
 · exact Pr.le_trans (Ah _ _) (Pr.le_of_eq (by show _=slice 1 ((l.take i++[n]++l.drop i).map fun n=>[int n]);simp [List.map_take,List.map_drop]))
theorem Hl {l:List Int} {i:Nat} (hi:i<l.length) (hl:l.length≤1000000):Az prog 164 [ints l,int ((i:Nat):Int)] (ints (l.eraseIdx i)):=by
 refine fo func164 rfl ⟨rfl,rfl⟩ fun M0 w0=> ?_
 have hml:(l.map fun n:Int=>[int n]).length=l.length:=List.length_map _
 refine ac ?_
 refine ap ?_
 refine tp rfl (C_ rfl underlying22 Bh (vl rfl) (vl rfl) (by omega) (by omega)) (TO.pad ?_)
 refine TO.DP 0 rfl rfl (by decide) (Db rfl rfl (by decide) rfl underlying22 Bh Iu z3 rfl (by decide) ⟨_,rfl,AF _⟩ (vl rfl) (by simp only [List.length_map,List.length_append,List.length_cons,List.length_nil,List.length_take,List.length_drop];unfold maxLen;omega) (by simp only [List.length_map,List.length_append,List.length_cons,List.length_nil,List.length_take,List.length_drop];omega) (Ba (by exact List.Mem.head _) ⟨_,rfl,Dt 1⟩)) (fun v1=> ?_)
 refine ap ?_
 refine ap ?_
 refine tp rfl (C5 rfl underlying22 Bh (vl rfl) (vl rfl) (by omega) (by omega)) ?_
 refine TO.DP 0 rfl rfl (by decide) (Bl rfl rfl rfl rfl underlying22 Bh Iu z3 (Kb rfl) (vl rfl) (Aq (by exact List.Mem.head _) (Ka rfl))) (fun v2=> ?_)
 refine ap ?_
 refine ac ?_
 · exact Pr.le_trans (Ah _ _) (Pr.le_of_eq (by rw [List.eraseIdx_eq_take_drop_succ];show _=slice 1 ((l.take i++l.drop (i+1)).map fun n=>[int n]);simp [List.map_take,List.map_drop,show (((i:Nat):Int)+1).toNat=i+1 by omega]))
theorem MA {l:List Int} {n:Int} (hl:l.length≤1000000):Az prog 165 [ints l,int n] (ints (Tk l n)):=by
 refine fo func165 rfl ⟨rfl,rfl⟩ fun M0 w0=>(Tr.C8 0 rfl fun Et=> ?_)
 refine a2 ?_
 refine Tr.seq (Tr.block (Tr.A7 [(0,_),(1,_)] (O9 rfl) (fun k:Nat=>[(5,int ((k:Nat):Int))]) (fun k:Nat=>k≤l.length∧(∀j y,j<k→l[j]? =some y→y<n)) (fun k:Nat=>l.length-k) 0 (⟨Nat.zero_le _,fun j y hj=>absurd hj (by omega)⟩) ⟨ke rfl,trivial⟩ ?_))
 rintro k ⟨BN,hinv⟩
 refine ag ?_ ?_<;>intro h1 q1
 obtain ⟨x,hx⟩:=at_ (l:=l) (k:=k) (by omega)
 refine ac ?_
 refine cy h1 rfl (AA rfl underlying22 Bh (vl rfl) (vl rfl) (by omega) (AO hx)) ?_
 refine ac ?_
 refine D7 0 1 5 17 rfl ?_
 refine Tr.cn rfl ?_ ?_<;>intro h2 q2
 have hq:=h2
 refine a2 ?_
 exact Fin.AM (k+1) ⟨⟨by omega,bsX hinv hx (by simpa using hq)⟩,by omega⟩ ⟨⟨_,rfl,AD k⟩,ke rfl,ke rfl,trivial⟩
 have hp:D9 l n=k:=Qh BN hinv (fun y hy=>by have h_:=h2;rw [hx] at hy;cases hy;simpa using h_)
 refine a2 ?_
 refine co rfl (AQ rfl (LZ (l:=l) (i:=D9 l n) (VI _ _) hl) ⟨ke rfl,⟨_,rfl,int_eq (by omega)⟩,ke rfl,trivial⟩) ?_
 refine a2 ?_
 · exact Lr
 have hp:D9 l n=k:=Qh BN hinv (fun y hy=>by have:=A0 hy;have:=q1;omega)
 refine ac ?_
 refine D7 0 1 5 17 rfl ?_
 refine a2 ?_
 refine co rfl (AQ rfl (LZ (l:=l) (i:=D9 l n) (VI _ _) hl) ⟨ke rfl,⟨_,rfl,int_eq (by omega)⟩,ke rfl,trivial⟩) ?_
 refine a2 ?_
 · exact Lr
def Jy (e:Bk) (c:BK):Int:=
 if FH e=false then 19 else if ¬GA c then 40
 else if c.kind=1∧(c.at_<0∨(e.Ao.length:Int)<c.at_) then 2
 else if c.kind=5∧(c.at_<0∨(e.ids.length:Int)<c.at_) then 2
 else if (c.kind=11∨c.kind=12)∧(c.number≠0∧c.number≠1) then 2
 else if (DB e c.kind).2.2=true∧decide (0≤idx (fun y=>c.number==y) (DB e c.kind).1)=(DB e c.kind).2.1 then 41
 else if (Em e c.kind).2=true∧(Em e c.kind).1=c.number then 41
 else if c.kind=5∧0<El c.Ck.B8 e.ids then 41
 else if c.kind=6∧El c.number e.ids=0 then 41
 else if c.kind=6∧1<El c.number e.ids then 5 else 0
theorem Q_ {l:List Int} (hs:eJ l) {n:Int}:idx (fun y=>n==y) l=if Ek l n=true then ((D9 l n:Nat):Int) else -1:=by
 by_cases h:Ek l n=true
 ·
  rw [if_pos h]
  obtain ⟨y,hy⟩:=at_ (Qj h)
  have hyn:y=n:=by have h2:=VK rfl hy;rw [h] at h2;simpa using h2.symm
  exact (Dx (p:=fun y=>n==y) hy (by simp [hyn]) (fun j z hj hz=>by have:=Qi hj hz;simp;omega)).symm
 ·
  rw [if_neg h]
  refine (G4 (p:=fun y=>n==y) (fun j z hj hz=> ?_)).symm
  simp only [beq_eq_false_iff_ne,ne_eq]
  intro hn;subst hn
  rcases Nat.lt_trichotomy j (D9 l n) with h1|h1|h1
  · have:=Qi h1 hz;omega
  · subst h1;exact h (by rw [VK rfl hz];simp)
  ·
   obtain ⟨y,hy⟩:=at_ (l:=l) (k:=D9 l n) (by have:=A0 hz;omega)
   have h2:=VJ hy
   have h3:=eK hs h1 hy hz
   omega
theorem gC {l:List H_} {n:Int} {x:H_} (h0:¬BR n l<0) (hx:l[(BR n l).toNat]? =some x):(1<El n l)↔((l.drop (BR n l+1).toNat).any fun x=>x.B8==n)=true:=by
 obtain ⟨y,hy,hp,hlt⟩:=MZ (p:=F7 n) (l:=l) (by rw [←E8];omega)
 rw [←E8] at hy hlt
 have hsplit:l=l.take (BR n l).toNat++y::l.drop ((BR n l).toNat+1):=by
  rw [List.getElem?_eq_getElem hlt] at hy;cases hy
  rw [List.getElem_cons_drop];exact (List.take_append_drop _ _).symm
 have h1:(l.take (BR n l).toNat).countP (F7 n)=0:=by
  refine Kq.1 (Int.not_le.1 fun h2=> ?_)
  obtain ⟨z,hz,hzp,hzl⟩:=MZ h2
  have e1:BR n l=idx (F7 n) (l.take (BR n l).toNat):=by
   obtain ⟨i,hi⟩:∃i:Nat,idx (F7 n) (l.take (BR n l).toNat)=(i:Int):=⟨_,(Int.toNat_of_nonneg h2).symm⟩
   have h3:((l.take (BR n l).toNat).findIdx? (F7 n))=some i:=by
    unfold idx at hi;cases h4:(l.take (BR n l).toNat).findIdx? (F7 n) with
    |none=>rw [h4] at hi;simp at hi
    |some k=>rw [h4] at hi;rw [show k=i by simp at hi;omega]
   have h5:l.findIdx? (F7 n)=some i:=by
    rw [←List.take_append_drop (BR n l).toNat l,List.findIdx?_append,h3];rfl
   have e2:idx (F7 n) l=(i:Int):=by unfold idx;rw [h5]
   exact e2.trans hi.symm
  rw [←e1] at hzl;rw [List.length_take] at hzl;omega
 have h2:l.countP (F7 n)=1+(l.drop ((BR n l).toNat+1)).countP (F7 n):=by
  conv=>lhs;rw [hsplit]
  rw [List.countP_append,h1,List.countP_cons,hp];simp;omega
 unfold El;rw [h2,show (BR n l+1).toNat=(BR n l).toNat+1 by omega]
 show _↔(List.any _ (F7 n))=true
 rw [List.any_eq_true,←List.countP_pos_iff];omega
theorem gD {l:List Int} {n:Int}:decide (0≤idx (fun y=>n==y) l)=l.any fun y=>n==y:=U9 _ _
theorem Mr {l:List Int} (hs:eJ l) {n:Int}:decide (0≤idx (fun y=>n==y) l)=Ek l n:=by
 rw [Q_ hs];cases Ek l n<;>simp
theorem Si {e:Bk} {c:BK} (hce:FH e=true) (hc:GA c):Jy e c=match Bj e c with| .error f=>f| .ok _=>0:=by
 have ok:=B6.1 hce
 have ha:=Mb ok.anc;have hh:=Mb ok.hash
 have hk:=hc.1
 unfold Jy
 rw [if_neg (by rw [hce];decide),if_neg (not_not_intro hc)]
 have h0:c.kind=1∨c.kind=2∨c.kind=3∨c.kind=4∨c.kind=5∨c.kind=6∨c.kind=7∨c.kind=8∨c.kind=9∨c.kind=10∨c.kind=11∨c.kind=12:=by omega
 rcases h0 with h|h|h|h|h|h|h|h|h|h|h|h
 ·
  rw [Mc h];unfold DB Em;simp only [h]
  by_cases h1:c.at_<0∨(e.Ao.length:Int)<c.at_
  ·
   have h2:¬(0≤c.at_∧c.at_≤(e.Ao.length:Int)):=by omega
   simp [h1,h2]
  ·
   have h2:0≤c.at_∧c.at_≤(e.Ao.length:Int):=by omega
   have h3:=gD (l:=e.Ao) (n:=c.number)
   have h4:(0≤idx (fun y=>c.number==y) e.Ao)↔(e.Ao.any fun y=>c.number==y)=true:=by rw [←h3,decide_eq_true_eq]
   by_cases h5:(e.Ao.any fun y=>c.number==y)=true
   · have h6:=h4.2 h5;simp only [h5];simp [h1,h2,h6]
   ·
    have h6:¬0≤idx (fun y=>c.number==y) e.Ao:=fun h=>h5 (h4.1 h)
    simp only [h5];simp [h1,h2,h6]
 ·
  rw [Md h];unfold DB Em KU;simp only [h]
  by_cases h1:idx (fun y=>c.number==y) e.Ao<0
  · simp [h1]
  · simp [h1]
 · rw [Me h];unfold DB Em;simp only [h];by_cases h1:e.most=c.number<;>simp [h1]
 · rw [Mf h];unfold DB Em;simp only [h];by_cases h1:e.least=c.number<;>simp [h1]
 ·
  rw [Mg h];unfold DB Em;simp only [h]
  have fB:=Kq (p:=F7 c.Ck.B8) (l:=e.ids)
  rw [←E8] at fB
  by_cases h1:c.at_<0∨(e.ids.length:Int)<c.at_
  ·
   have h2:¬(0≤c.at_∧c.at_≤(e.ids.length:Int)):=by omega
   simp [h1,h2]
  ·
   have h3:0≤c.at_∧c.at_≤(e.ids.length:Int):=by omega
   by_cases h2:0≤BR c.Ck.B8 e.ids
   ·
    have:0<El c.Ck.B8 e.ids:=by unfold El;omega
    simp [h1,h2,h3,this]
   ·
    have:¬0<El c.Ck.B8 e.ids:=by unfold El;omega
    simp [h1,h2,h3,this]
 ·
  rw [Mh h];unfold DB Em;simp only [h]
  have fB:=Kq (p:=F7 c.number) (l:=e.ids)
  rw [←E8] at fB
  by_cases h2:BR c.number e.ids<0
  ·
   have:El c.number e.ids=0:=by unfold El;omega
   cases e.ids[(BR c.number e.ids).toNat]? <;>simp [h2,this]
  ·
   have h3:¬El c.number e.ids=0:=by unfold El;omega
   obtain ⟨x,hx,_,_⟩:=MZ (p:=fun x:H_=>x.B8==c.number) (l:=e.ids) (by unfold BR at h2;omega)
   have hx:e.ids[(BR c.number e.ids).toNat]? =some x:=hx
   have hd:=gC h2 hx
   rw [hx];simp only [if_neg h2]
   by_cases h4:((e.ids.drop (BR c.number e.ids+1).toNat).any fun x=>x.B8==c.number)=true
   · have:=hd.2 h4;simp only [h4];simp [h3,this]
   ·
    have:¬1<El c.number e.ids:=fun h5=>h4 (hd.1 h5)
    simp only [h4];simp [h3,this]
 ·
  rw [Mi h];unfold DB Em;simp only [h]
  have h1:(0≤idx (fun y=>c.number==y) e.anchors)↔Ek e.anchors c.number=true:=by rw [←Mr ha,decide_eq_true_eq]
  by_cases h2:Ek e.anchors c.number=true
  · have h3:=h1.2 h2;simp [h2,h3]
  ·
   have h3:¬0≤idx (fun y=>c.number==y) e.anchors:=fun h=>h2 (h1.1 h)
   simp [h2,h3]
 ·
  rw [Mj h];unfold DB Em;simp only [h]
  have h1:(0≤idx (fun y=>c.number==y) e.anchors)↔Ek e.anchors c.number=true:=by rw [←Mr ha,decide_eq_true_eq]
  by_cases h2:Ek e.anchors c.number=true
  · have h3:=h1.2 h2;simp [h2,h3]
  ·
   have h3:¬0≤idx (fun y=>c.number==y) e.anchors:=fun h=>h2 (h1.1 h)
   simp [h2,h3]
 ·
  rw [Mk h];unfold DB Em;simp only [h]
  have h1:(0≤idx (fun y=>c.number==y) e.hashes)↔Ek e.hashes c.number=true:=by rw [←Mr hh,decide_eq_true_eq]
  by_cases h2:Ek e.hashes c.number=true
  · have h3:=h1.2 h2;simp [h2,h3]
  ·
   have h3:¬0≤idx (fun y=>c.number==y) e.hashes:=fun h=>h2 (h1.1 h)
   simp [h2,h3]
 ·
  rw [KV h];unfold DB Em;simp only [h]
  have h1:(0≤idx (fun y=>c.number==y) e.hashes)↔Ek e.hashes c.number=true:=by rw [←Mr hh,decide_eq_true_eq]
  by_cases h2:Ek e.hashes c.number=true
  · have h3:=h1.2 h2;simp [h2,h3]
  ·
   have h3:¬0≤idx (fun y=>c.number==y) e.hashes:=fun h=>h2 (h1.1 h)
   simp [h2,h3]
 ·
  rw [KW h];unfold DB Em;simp only [h]
  by_cases h1:0≤c.number∧c.number≤1
  ·
   have:¬(c.number≠0∧c.number≠1):=by omega
   by_cases h2:JB e.KS=c.number<;>simp [this,h1,h2]
  ·
   have:c.number≠0∧c.number≠1:=by omega
   simp [this,h1]
 ·
  rw [KY h];unfold DB Em;simp only [h]
  by_cases h1:0≤c.number∧c.number≤1
  ·
   have:¬(c.number≠0∧c.number≠1):=by omega
   by_cases h2:JB e.own=c.number<;>simp [this,h1,h2]
  ·
   have:c.number≠0∧c.number≠1:=by omega
   simp [this,h1]
theorem gE {e:Bk} {c:BK} (h:Jy e c≠0):DR e c=(DV,GZ,Jy e c):=by
 by_cases hce:FH e=false
 ·
  have:Jy e c=19:=by unfold Jy;rw [if_pos hce]
  rw [this];unfold DR;rw [if_pos hce]
 ·
  by_cases hc:GA c
  ·
   have hce:FH e=true:=by simpa using hce
   have hs:=Si hce hc
   cases h2:Bj e c with
   |error f=>rw [h2] at hs;rw [Wb hce hc h2,show Jy e c=f from hs]
   |ok r=>rw [h2] at hs;exact absurd hs h
  ·
   have:Jy e c=40:=by unfold Jy;rw [if_neg hce,if_pos hc]
   rw [this];unfold DR;rw [if_neg hce,if_pos hc]
theorem l6 {e:Bk} {c:BK} (h:Jy e c=0):FH e=true∧GA c∧∃e2 b,Bj e c= .ok (e2,b):=by
 by_cases hce:FH e=false
 ·
  have:Jy e c=19:=by unfold Jy;rw [if_pos hce]
  rw [this] at h;cases h
 ·
  by_cases hc:GA c
  ·
   have hce:FH e=true:=by simpa using hce
   have hs:=Si hce hc
   cases h2:Bj e c with
   |error f=>
    rw [h2] at hs;rw [h] at hs
    have h3:(0:Int)=f:=hs
    have:=SA hc h2;omega
   |ok r=>exact ⟨hce,hc,r.1,r.2,rfl⟩
  ·
   have:Jy e c=40:=by unfold Jy;rw [if_neg hce,if_pos hc]
   rw [this] at h;cases h
theorem ON {β γ:Type} {f:β→γ} {l:List β} {k:Nat} {x:β} (h:l[k]? =some x):(l.take k).map f++[f x]=(l.take (k+1)).map f:=by rw [List.take_add_one,h,List.map_append];rfl
theorem Js {x:H_} (hx:x.small):Az prog 119 [agg (G6 x)] (agg (G6 x)):=by
 refine fo func119 rfl ⟨rfl,rfl⟩ fun M0 w0=> ?_
 have hch:=hx.chain
 refine Tr.seq (Tr.An (tp rfl (BZ rfl (Va rfl)) ?_))
 refine Tl rfl rfl rfl rfl z75 TS (fun b1=> ?_)
 refine ap ?_
 refine ap ?_
 refine Tl rfl rfl rfl rfl z75 TS (fun b2=> ?_)
 refine ap ?_
 refine ac ?_
 refine JV 2 3 12 13 14 rfl (Tr.block (Tr.IC 0 [int x.Bq,int x.bits,int x.B8,Ag (.slice none 0 0) (slice 15 ((x.chain.take 0).map Es))] rfl ⟨Lr,Lr,Lr,BX rfl,trivial⟩ (Tr.Bs 114 15 (Tr.EN [(2,_),(3,_),(12,_),(13,_)] ⟨ke rfl,ke rfl,ke rfl,ke rfl,trivial⟩ (fun k v=>[(14,int ((k:Nat):Int))]) (fun k v=>Hp M0 w0 Eo ([Ap 114 15 v,AE true b2 75 [int x.Bq,int x.bits,int x.B8,Ag v (slice 15 ((x.chain.take k).map Es))],AE true b1 75 (([.int .i64 0,.int .i64 0,.int .i64 0,.slice none 0 0]:List Value).map is)])) (fun k:Nat=>k≤(x.chain).length) (fun k:Nat=>(x.chain).length-k) 0 (.slice none 0 0) (Nat.zero_le _) ⟨ke rfl,trivial⟩ (fun _ _ h=>h) ?_))))
 rintro k v BN
 refine ac ?_
 refine Tr.seq ?_
 refine Tr.cn rfl ?_ ?_<;>intro h1 q1
 have Af:k<(x.chain).length:=AH h1
 obtain ⟨c,Ad⟩:=at_ Af
 have hcn:=hx.names c (List.mem_of_getElem? Ad)
 refine ac ?_
 refine Tr.seq (Tr.block (Tr.seq (Tr.An (tp rfl (AA rfl underlying73 Dl (vl rfl) (vl rfl) (by omega) (by exact AO (by assumption))) ?_))))
 refine tp rfl (AR rfl Gk Dl (vl rfl) rfl rfl) ?_
 refine Tl rfl rfl rfl rfl TX NN (fun b3=> ?_)
 refine ap ?_
 refine ap ?_
 refine tp rfl (HW rfl underlying64 MI by9 z9 rfl (by decide) (vl rfl) (by simp only [List.length_map];unfold maxLen;omega) (by simp only [List.length_map];omega)) ?_
 refine ap ?_
 refine Jw 2 3 5 12 13 14 rfl ?_
 refine ap ?_
 refine TO.DP 1 rfl rfl (by decide) (Bl rfl rfl rfl rfl underlying73 Dl pO TX (Kb rfl) (Kf rfl) (Aq (by exact List.Mem.head _) (Ka rfl))) (fun v1=> ?_)
 refine ap ?_
 refine Tr.drop 0 ?_
 refine ac ?_
 refine Fin.IC 1 [int x.Bq,int x.bits,int x.B8,Ag v1 (slice 15 ((x.chain.take (k+1)).map Es))] rfl ⟨Lr,Lr,Lr,Au (ON (f:=Es) Ad),trivial⟩ (Fin.DC (k+1) v1 (⟨Af,by omega⟩) ⟨⟨_,rfl,AD k⟩,ke rfl,ke rfl,ke rfl,ke rfl,trivial⟩ (fun _ _ h=>h))
 have BI:k=(x.chain).length:=by have:=AJ h1;omega
 subst BI
 refine ac ?_
 refine ap ?_
 refine Tr.ret (Fin.CJ rfl (AP.cell 2 rfl rfl Rk E0 rfl (Lr)) ?_)
 · exact Ar ⟨Lr,Lr,Lr,Pr.le_trans (Ah _ _) (Pr.le_of_eq (by rw [List.take_length])),trivial⟩
theorem UX {c:BK} (hx:c.Ck.small):Az prog 91 [agg (EP c)] (agg (EP c)):=by
 refine fo func91 rfl ⟨rfl,rfl⟩ fun M0 w0=>(Tr.seq (Tr.An ?_))
 refine TO.cM rfl rfl (by decide) rfl (Va rfl) (fun b1=> ?_)
 refine Tl rfl rfl rfl rfl z87 KH (fun b2=> ?_)
 refine ap ?_
 refine ap ?_
 refine tp rfl (Ce (Js (x:=c.Ck) hx) rfl rfl) ?_
 refine ap ?_
 refine ap ?_
 refine Tr.drop 1 (Tr.ret (Fin.CJ rfl (AP.cell 0 rfl rfl Hv DO rfl (Lr)) ?_))
 · exact Lr
theorem P0 {e:Bk} (J5:e.small):Az prog 143 [agg (BP e)] (agg (BP e)):=by
 refine fo func143 rfl ⟨rfl,rfl⟩ fun M0 w0=> ?_
 have hs1:=J5.Ao
 have Rv:=J5.anchors
 have k7:=J5.hashes
 have hs4:=J5.PO
 refine Tr.seq (Tr.An (tp rfl (BZ rfl (Va rfl)) ?_))
 refine Tl rfl rfl rfl rfl z70 HR (fun b1=> ?_)
 refine ao ?_
 refine ao ?_
 refine Tl rfl rfl rfl rfl z70 HR (fun b2=> ?_)
 refine TO.AK 0 rfl rfl rfl (vl rfl) (Va rfl) rfl B5 rfl rfl ?_
 refine ao ?_
 refine Tr.seq (Tr.rx ?_)
 refine ax ?_
 refine xo rfl (fun _=>HW rfl underlying22 Bh Iu z3 rfl (by decide) (vl rfl) (by simp only [List.length_map];unfold maxLen;omega) (by simp only [List.length_map];omega)) ?_
 refine ax ?_
 refine xo rfl (fun _=>HW rfl underlying22 Bh Iu z3 rfl (by decide) (vl rfl) (by simp only [List.length_map];unfold maxLen;omega) (by simp only [List.length_map];omega)) ?_
 refine ax ?_
 refine xo rfl (fun _=>HW rfl underlying22 Bh Iu z3 rfl (by decide) (vl rfl) (by simp only [List.length_map];unfold maxLen;omega) (by simp only [List.length_map];omega)) ?_
 refine xo rfl (fun _=>Ae rfl LA (vl rfl)) (Cx.Dp 0 rfl rfl (Ay rfl rfl (vl rfl) (Vo rfl) K7 rfl (by exact Nb rfl) rfl) (xo rfl (fun _=>Ae rfl YY (vl rfl)) (Cx.Dp 0 rfl rfl (Ay rfl rfl (vl rfl) (Vo rfl) K7 rfl (by exact Nb rfl) rfl) (xo rfl (fun _=>Ae rfl YZ (vl rfl)) (Cx.Dp 0 rfl rfl (Ay rfl rfl (vl rfl) (Vo rfl) K7 rfl (by exact Nb rfl) rfl) ?_)))))
 refine Cx.nil ⟨by kernel_rfl,?_⟩
 refine BQ.done VE (Fin.go (CR 1 2 3 rfl ?_))
 refine ao ?_
 refine TO.Dp 0 rfl rfl (Ay rfl rfl (vl rfl) (Vo rfl) YW rfl (by exact Nb rfl) rfl) ?_
 refine ao ?_
 refine ac ?_
 refine Tr.block (Tr.IC 0 [str e.name,int e.least,int e.most,ints e.Ao,bool e.own,Ag (.slice none 0 0) (slice 4 ((e.ids.take 0).map G6)),ints e.anchors,ints e.hashes,bool e.KS] rfl ⟨Lr,Lr,Lr,Lr,Lr,BX rfl,Lr,Lr,Lr,trivial⟩ (Tr.Bs 75 4 (Tr.EN [(2,_),(3,_),(21,_),(22,_)] ⟨ke rfl,ke rfl,ke rfl,ke rfl,trivial⟩ (fun k v=>[(23,int ((k:Nat):Int))]) (fun k v=>Hp M0 w0 Eo ([Ap 75 4 v,AE true b2 70 [str e.name,int e.least,int e.most,ints e.Ao,bool e.own,Ag v (slice 4 ((e.ids.take k).map G6)),ints e.anchors,ints e.hashes,bool e.KS],AE true b1 70 (([.string (ByteArray.mk #[]),.int .i64 0,.int .i64 0,.slice none 0 0,.bool false,.slice none 0 0,.slice none 0 0,.slice none 0 0,.bool false]:List Value).map is)])) (fun k:Nat=>k≤(e.ids).length) (fun k:Nat=>(e.ids).length-k) 0 (.slice none 0 0) (Nat.zero_le _) ⟨ke rfl,trivial⟩ (fun _ _ h=>h) ?_)))
 rintro k v BN
 refine ac ?_
 refine Tr.seq ?_
 refine Tr.cn rfl ?_ ?_<;>intro h1 q1
 have Af:k<(e.ids).length:=AH h1
 obtain ⟨x,Ad⟩:=at_ Af
 have hxs:=J5.ids x (List.mem_of_getElem? Ad)
 refine ac ?_
 refine Tr.seq (Tr.block (Tr.seq (Tr.An (tp rfl (AA rfl underlying68 E0 (vl rfl) (vl rfl) (by omega) (by exact AO (by assumption))) ?_))))
 refine tp rfl (AR rfl Rk E0 (vl rfl) rfl rfl) ?_
 refine Tl rfl rfl rfl rfl z75 TS (fun b3=> ?_)
 refine sf 0 5 ⟨rfl,rfl,rfl⟩ rfl rfl rfl rfl ?_
 refine ao ?_
 refine Tr.pad (Tr.rx ?_)
 refine ax ?_
 refine xo rfl (fun _=>Ce (Js hxs) rfl rfl) (xo rfl (fun _=>AL (xs:=[.tmp 30]) (rows:=[_]) rfl rfl underlying68 E0 z75 rfl (by decide) ⟨⟨(by exact rfl),(Va rfl)⟩,trivial⟩ (by decide)) ?_)
 refine Cx.ef 1 rfl rfl (by decide) (Bl rfl rfl rfl rfl underlying68 E0 WR z75 (Kb rfl) (Kf rfl) (Aq (by exact List.Mem.head _) (Ka rfl))) ?_
 refine xo rfl (fun _=>Ae rfl NK (vl rfl)) (Cx.Dp 2 rfl rfl (Fg rfl rfl rfl (vl rfl) rfl YW (by exact Nb rfl)) ?_)
 refine Cx.nil ⟨by kernel_rfl,?_⟩
 refine BQ.PB 1 2 32 rfl rfl (by decide) rfl (fun v1=> ?_)
 refine BQ.done al4 ?_
 refine ac ?_
 refine Tr.drop 0 (JV 2 3 21 22 23 rfl ?_)
 refine ac ?_
 refine Fin.IC 1 [str e.name,int e.least,int e.most,ints e.Ao,bool e.own,Ag v1 (slice 4 ((e.ids.take (k+1)).map G6)),ints e.anchors,ints e.hashes,bool e.KS] rfl ⟨Lr,Lr,Lr,Lr,Lr,Au (ON (f:=G6) Ad),Lr,Lr,Lr,trivial⟩ (Fin.DC (k+1) v1 (⟨Af,by omega⟩) ⟨⟨_,rfl,AD k⟩,ke rfl,ke rfl,ke rfl,ke rfl,trivial⟩ (fun _ _ h=>h))
 have BI:k=(e.ids).length:=by have:=AJ h1;omega
 subst BI
 refine ac ?_
 refine ao ?_
 refine TO.AK 2 rfl rfl rfl (vl rfl) (Va rfl) rfl B5 rfl rfl ?_
 refine ao ?_
 refine Tr.ret (Fin.CJ rfl (AP.cell 2 rfl rfl CW B5 rfl (Lr)) ?_)
 · exact Ar ⟨Lr,Lr,Lr,Lr,Lr,Pr.le_trans (Ah _ _) (Pr.le_of_eq (by rw [List.take_length])),Lr,Lr,Lr,trivial⟩
theorem RA {e:Bk} {c:BK} (J5:e.small) (hcs:c.Ck.small):Az prog 150 [agg (BP e),agg (EP c)] (int (Jy e c)):=by
 refine fo func150 rfl ⟨rfl,rfl⟩ fun M0 w0=> ?_
 refine ac ?_
 refine ac ?_
 refine co rfl (Ce (EV J5) rfl rfl) ?_
 refine ac ?_
 refine Tr.cn rfl ?_ ?_<;>intro h1 q1
 refine ac ?_
 refine ac ?_
 · refine int_eq ?_;unfold Jy;repeat (refine (if_pos ?_).symm;simp_all)
 refine ac ?_
 refine ac ?_
 refine co rfl (Ce (XN (c:=c) hcs) rfl rfl) ?_
 refine ac ?_
 refine Tr.cn rfl ?_ ?_<;>intro h2 q2
 refine ac ?_
 refine ac ?_
 · refine int_eq ?_;unfold Jy;repeat (first|(refine (if_pos ?_).symm;omega)|(refine Eq.trans ?_ (if_neg ?_).symm;rotate_left;focus (simp_all;done)))
 refine ac ?_
 refine CY 2 3 rfl (Tr.RT [2,3] [] (¬(c.kind=1∧(c.at_<0∨(e.Ao.length:Int)<c.at_))∧¬(c.kind=5∧(c.at_<0∨(e.ids.length:Int)<c.at_))∧¬((c.kind=11∨c.kind=12)∧(c.number≠0∧c.number≠1))) ?_ (fun zI=> ?_))
 refine ac ?_
 refine ac ?_
 refine Tr.cn rfl ?_ ?_<;>intro h4 q4
 refine ac ?_
 refine Ch.cs 27 rfl ?_ ?_<;>intro h5 q5
 refine ac ?_
 refine CR 2 3 34 rfl ?_
 refine ac ?_
 refine ac ?_
 · refine int_eq ?_;unfold Jy;repeat (first|(refine (if_pos ?_).symm;omega)|(refine Eq.trans ?_ (if_neg ?_).symm;rotate_left;focus (simp_all;done)))
 refine ac ?_
 refine CR 2 3 34 rfl ?_
 refine Tr.cn rfl ?_ ?_<;>intro h6 q6
 refine ac ?_
 refine ac ?_
 · refine int_eq ?_;unfold Jy;repeat (first|(refine (if_pos ?_).symm;omega)|(refine Eq.trans ?_ (if_neg ?_).symm;rotate_left;focus (simp_all;done)))
 refine Tr.skip (Fin.block (Fin.AM () (by omega) (O9 rfl)))
 refine ac ?_
 refine Tr.cn rfl ?_ ?_<;>intro h7 q7
 refine ac ?_
 refine Ch.cs 40 rfl ?_ ?_<;>intro h8 q8
 refine ac ?_
 refine CR 2 3 47 rfl ?_
 refine ac ?_
 refine ac ?_
 · refine int_eq ?_;unfold Jy;repeat (first|(refine Eq.trans ?_ (if_neg ?_).symm;rotate_left;focus (omega))|(refine (if_pos ?_).symm;omega)|(refine Eq.trans ?_ (if_neg ?_).symm;rotate_left;focus (simp_all;done)))
 refine ac ?_
 refine CR 2 3 47 rfl ?_
 refine Tr.cn rfl ?_ ?_<;>intro h9 q9
 refine ac ?_
 refine ac ?_
 · refine int_eq ?_;unfold Jy;repeat (first|(refine Eq.trans ?_ (if_neg ?_).symm;rotate_left;focus (omega))|(refine (if_pos ?_).symm;omega)|(refine Eq.trans ?_ (if_neg ?_).symm;rotate_left;focus (simp_all;done)))
 refine Tr.skip (Fin.block (Fin.AM () (by omega) (O9 rfl)))
 refine ac ?_
 refine Tr.cn rfl ?_ ?_<;>intro h10 Oa
 refine ac ?_
 refine Tr.cond rfl (fun _=> ?_) (fun h=>nomatch h10.symm.trans h)
 refine ac ?_
 refine Ch.cs 54 rfl ?_ ?_<;>intro h11 PR
 refine ac ?_
 refine CR 2 3 58 rfl ?_
 refine Tr.cn rfl ?_ ?_<;>intro h12 S6
 refine ac ?_
 refine ac ?_
 · refine int_eq ?_;unfold Jy;repeat (first|(refine Eq.trans ?_ (if_neg ?_).symm;rotate_left;focus (omega))|(refine (if_pos ?_).symm;omega)|(refine Eq.trans ?_ (if_neg ?_).symm;rotate_left;focus (simp_all;done)))
 refine Tr.skip (Fin.block (Fin.AM () (by omega) (O9 rfl)))
 refine ac ?_
 refine CR 2 3 58 rfl (Tr.cond rfl (fun h=>nomatch h) (fun _=> ?_))
 refine Tr.skip (Fin.block (Fin.AM () (by omega) (O9 rfl)))
 refine ac ?_
 refine Tr.cn rfl ?_ ?_<;>intro MG Xt
 refine ac ?_
 refine Ch.cs 54 rfl ?_ ?_<;>intro Ku eO
 refine ac ?_
 refine CR 2 3 58 rfl ?_
 refine Tr.cn rfl ?_ ?_<;>intro Rf kY
 refine ac ?_
 refine ac ?_
 · refine int_eq ?_;unfold Jy;repeat (first|(refine Eq.trans ?_ (if_neg ?_).symm;rotate_left;focus (omega))|(refine (if_pos ?_).symm;omega)|(refine Eq.trans ?_ (if_neg ?_).symm;rotate_left;focus (simp_all;done)))
 refine Tr.skip (Fin.block (Fin.AM () (by omega) (O9 rfl)))
 refine ac ?_
 refine CR 2 3 58 rfl (Tr.cond rfl (fun h=>nomatch h) (fun _=> ?_))
 refine Tr.skip (Fin.block (Fin.AM () (by omega) (O9 rfl)))
 refine Tr.skip (Fin.block (Fin.AM () (by omega) (O9 rfl)))
 refine CY 2 3 rfl (Tr.RT [2,3] [] (¬((DB e c.kind).2.2=true∧decide (0≤idx (fun y=>c.number==y) (DB e c.kind).1)=(DB e c.kind).2.1)) ?_ (fun zJ=> ?_))
 refine ac ?_
 refine co rfl (CS (Sh) rfl rfl rfl) ?_
 refine ac ?_
 refine ac ?_
 refine Ch.cs 68 rfl ?_ ?_<;>intro MH eG
 refine ac ?_
 refine cy MH rfl (CS (Hj) rfl rfl rfl) ?_
 refine ac ?_
 refine CR 2 3 76 rfl ?_
 refine Tr.cn rfl ?_ ?_<;>intro OX kV
 refine ac ?_
 refine ac ?_
 · refine int_eq ?_;unfold Jy;repeat (first|(refine Eq.trans ?_ (if_neg ?_).symm;rotate_left;focus (omega))|(refine Eq.trans ?_ (if_neg ?_).symm;rotate_left;focus (simp_all;done))|(refine (if_pos ?_).symm;simp_all;done))
 refine Tr.skip (Fin.AM () (by simp_all) (O9 rfl))
 refine ac ?_
 refine CR 2 3 76 rfl (Tr.cond rfl (fun h=>nomatch h) (fun _=> ?_))
 refine Tr.skip (Fin.AM () (by simp_all) (O9 rfl))
 refine CY 2 3 rfl (Tr.RT [2,3] [] (¬((Em e c.kind).2=true∧(Em e c.kind).1=c.number)) ?_ (fun hval=> ?_))
 refine ac ?_
 refine co rfl (CS (UW) rfl rfl rfl) ?_
 refine ac ?_
 refine ac ?_
 refine Ch.cs 85 rfl ?_ ?_<;>intro OY nW
 refine ac ?_
 refine CR 2 3 90 rfl ?_
 refine Tr.cn rfl ?_ ?_<;>intro VH q21
 refine ac ?_
 refine ac ?_
 · refine int_eq ?_;unfold Jy;repeat (first|(refine Eq.trans ?_ (if_neg ?_).symm;rotate_left;focus (omega))|(refine Eq.trans ?_ (if_neg ?_).symm;rotate_left;focus (simp_all;done))|(refine (if_pos ?_).symm;simp_all;done))
 refine Tr.skip (Fin.AM () (by simp_all) (O9 rfl))
 refine ac ?_
 refine CR 2 3 90 rfl (Tr.cond rfl (fun h=>nomatch h) (fun _=> ?_))
 refine Tr.skip (Fin.AM () (by simp_all) (O9 rfl))
 refine CY 2 3 rfl (Tr.RT [2,3] [] (¬(c.kind=5∧0<El c.Ck.B8 e.ids)) ?_ (fun zK=> ?_))
 refine ac ?_
 refine Tr.cn rfl ?_ ?_<;>intro h23 q23
 refine ac ?_
 refine co rfl (CS (LY J5.PO) rfl rfl rfl) ?_
 refine ac ?_
 refine CR 2 3 10 rfl ?_
 refine ac ?_
 refine Tr.cn rfl ?_ ?_<;>intro PW q24
 refine ac ?_
 refine ac ?_
 · refine int_eq ?_;unfold Jy;repeat (first|(refine Eq.trans ?_ (if_neg ?_).symm;rotate_left;focus (omega))|(refine (if_pos ?_).symm;omega)|(refine Eq.trans ?_ (if_neg ?_).symm;rotate_left;focus (simp_all;done)))
 refine Tr.skip (Fin.AM () (by omega) (O9 rfl))
 refine Tr.skip (Fin.AM () (by omega) (O9 rfl))
 refine ac ?_
 refine Tr.cn rfl ?_ ?_<;>intro h25 q25
 refine ac ?_
 refine co rfl (CS (LY J5.PO) rfl rfl rfl) ?_
 refine ac ?_
 refine Eh 12 rfl ?_
 refine ac ?_
 refine Tr.cn rfl ?_ ?_<;>intro h26 q26
 refine ac ?_
 refine ac ?_
 · refine int_eq ?_;unfold Jy;repeat (first|(refine Eq.trans ?_ (if_neg ?_).symm;rotate_left;focus (omega))|(refine (if_pos ?_).symm;omega)|(refine Eq.trans ?_ (if_neg ?_).symm;rotate_left;focus (simp_all;done)))
 refine ac ?_
 refine ac ?_
 refine Tr.cn rfl ?_ ?_<;>intro nX q27
 refine ac ?_
 refine ac ?_
 · refine int_eq ?_;unfold Jy;repeat (first|(refine Eq.trans ?_ (if_neg ?_).symm;rotate_left;focus (omega))|(refine (if_pos ?_).symm;omega)|(refine Eq.trans ?_ (if_neg ?_).symm;rotate_left;focus (simp_all;done)))
 refine ac ?_
 refine ac ?_
 refine ac ?_
 · refine int_eq ?_;unfold Jy;repeat (first|rfl|(refine Eq.trans ?_ (if_neg ?_).symm;rotate_left;focus (omega))|(refine Eq.trans ?_ (if_neg ?_).symm;rotate_left;focus (simp_all;done)))
 refine ac ?_
 refine ac ?_
 refine ac ?_
 · refine int_eq ?_;unfold Jy;repeat (first|rfl|(refine Eq.trans ?_ (if_neg ?_).symm;rotate_left;focus (omega))|(refine Eq.trans ?_ (if_neg ?_).symm;rotate_left;focus (simp_all;done)))
structure Bk.sz (e:Bk) (n:Nat):Prop where
 name:e.name.length≤maxLen
 Ao:e.Ao.length≤n
 anchors:e.anchors.length≤n
 hashes:e.hashes.length≤n
 PO:e.ids.length≤n
 ids:∀x∈e.ids,x.fits∧x.small
theorem Bk.sz.fits {e:Bk} {n:Nat} (h:e.sz n):e.fits:=⟨h.name,fun x hx=>(h.ids x hx).1⟩
theorem Bk.sz.small {e:Bk} {n:Nat} (h:e.sz n) (hn:n≤1000000):e.small:=⟨by have:=h.Ao;omega,by have:=h.anchors;omega,by have:=h.hashes;omega,by have:=h.PO;omega,fun x hx=>(h.ids x hx).2⟩
theorem Bk.sz.le {e:Bk} {n m:Nat} (h:e.sz n) (hn:n≤m):e.sz m:=⟨h.name,Nat.le_trans h.Ao hn,Nat.le_trans h.anchors hn,Nat.le_trans h.hashes hn,Nat.le_trans h.PO hn,h.ids⟩
theorem gF {i:Nat} {e:Bk} (h:Ts i e):e.sz 5:=by
 have hs:=Qp _ (IW h)
 have h1:=PY h;have h2:=Nn h
 obtain ⟨s,hs1,Rv⟩:=h.ids
 exact ⟨h1.name,hs.2,by rw [h.anchors];simp,by rw [h.hashes];simp,by rw [Rv];simp,fun x hx=>⟨h1.ids x hx,h2.ids x hx⟩⟩
theorem Ms {α:Type} {l:List α} {a:α} {i:Nat}:(l.take i++[a]++l.drop i).length≤l.length+1:=by simp [List.length_take,List.length_drop];omega
theorem Mt {α:Type} {l:List α} {i:Nat}:(l.eraseIdx i).length≤l.length:=by rw [List.length_eraseIdx];split<;>omega
theorem F8:Bc.fits∧Bc.small:=⟨ZU,Wc⟩
theorem gG {P:H_→Prop} {l:List H_} {x:H_} {i:Nat} (h:∀y∈l,P y) (hx:P x):∀y∈l.take i++[x]++l.drop i,P y:=by
 intro y hy
 simp only [List.mem_append,List.mem_cons,List.not_mem_nil,or_false] at hy
 rcases hy with (hy|rfl)|hy
 · exact h y (List.mem_of_mem_take hy)
 · exact hx
 · exact h y (List.mem_of_mem_drop hy)
theorem V2 {e:Bk} {c:BK} {x:Bk} {b:BK} {n:Nat} (hc:GA c) (h:Bj e c= .ok (x,b)) (hs:e.sz n) (hi:c.Ck.fits∧c.Ck.small):x.sz (n+1)∧b.Ck.fits∧b.Ck.small:=by
 have h1:=hs.Ao;have h2:=hs.anchors;have h3:=hs.hashes;have h4:=hs.PO
 rcases VY hc.1 with hk|hk|hk|hk|hk|hk|hk|hk|hk|hk|hk|hk
 · rw [Mc hk] at h;(repeat' (split at h))<;>first|(cases h;done)|(injection h with h;obtain ⟨rfl,rfl⟩:=Prod.mk.inj h;exact ⟨⟨hs.name,Nat.le_trans Ms (by omega),Nat.le_trans h2 (by omega),Nat.le_trans h3 (by omega),Nat.le_trans h4 (by omega),hs.ids⟩,F8⟩)
 · rw [Md hk] at h;(repeat' (split at h))<;>first|(cases h;done)|(injection h with h;obtain ⟨rfl,rfl⟩:=Prod.mk.inj h;exact ⟨⟨hs.name,Nat.le_trans Mt (by omega),Nat.le_trans h2 (by omega),Nat.le_trans h3 (by omega),Nat.le_trans h4 (by omega),hs.ids⟩,F8⟩)
 · rw [Me hk] at h;(repeat' (split at h))<;>first|(cases h;done)|(injection h with h;obtain ⟨rfl,rfl⟩:=Prod.mk.inj h;exact ⟨⟨hs.name,Nat.le_trans h1 (by omega),Nat.le_trans h2 (by omega),Nat.le_trans h3 (by omega),Nat.le_trans h4 (by omega),hs.ids⟩,F8⟩)
 · rw [Mf hk] at h;(repeat' (split at h))<;>first|(cases h;done)|(injection h with h;obtain ⟨rfl,rfl⟩:=Prod.mk.inj h;exact ⟨⟨hs.name,Nat.le_trans h1 (by omega),Nat.le_trans h2 (by omega),Nat.le_trans h3 (by omega),Nat.le_trans h4 (by omega),hs.ids⟩,F8⟩)
 · rw [Mg hk] at h;(repeat' (split at h))<;>first|(cases h;done)|(injection h with h;obtain ⟨rfl,rfl⟩:=Prod.mk.inj h;exact ⟨⟨hs.name,Nat.le_trans h1 (by omega),Nat.le_trans h2 (by omega),Nat.le_trans h3 (by omega),Nat.le_trans Ms (by omega),gG hs.ids hi⟩,F8⟩)
 · rw [Mh hk] at h;(repeat' (split at h))<;>first|(cases h;done)|(injection h with h;obtain ⟨rfl,rfl⟩:=Prod.mk.inj h;exact ⟨⟨hs.name,Nat.le_trans h1 (by omega),Nat.le_trans h2 (by omega),Nat.le_trans h3 (by omega),Nat.le_trans Mt (by omega),fun y hy=>hs.ids y (List.mem_of_mem_eraseIdx hy)⟩,hs.ids _ (List.mem_of_getElem? (by assumption))⟩)
 · rw [Mi hk] at h;(repeat' (split at h))<;>first|(cases h;done)|(injection h with h;obtain ⟨rfl,rfl⟩:=Prod.mk.inj h;exact ⟨⟨hs.name,Nat.le_trans h1 (by omega),Nat.le_trans Ms (by omega),Nat.le_trans h3 (by omega),Nat.le_trans h4 (by omega),hs.ids⟩,F8⟩)
 · rw [Mj hk] at h;(repeat' (split at h))<;>first|(cases h;done)|(injection h with h;obtain ⟨rfl,rfl⟩:=Prod.mk.inj h;exact ⟨⟨hs.name,Nat.le_trans h1 (by omega),Nat.le_trans Mt (by omega),Nat.le_trans h3 (by omega),Nat.le_trans h4 (by omega),hs.ids⟩,F8⟩)
 · rw [Mk hk] at h;(repeat' (split at h))<;>first|(cases h;done)|(injection h with h;obtain ⟨rfl,rfl⟩:=Prod.mk.inj h;exact ⟨⟨hs.name,Nat.le_trans h1 (by omega),Nat.le_trans h2 (by omega),Nat.le_trans Ms (by omega),Nat.le_trans h4 (by omega),hs.ids⟩,F8⟩)
 · rw [KV hk] at h;(repeat' (split at h))<;>first|(cases h;done)|(injection h with h;obtain ⟨rfl,rfl⟩:=Prod.mk.inj h;exact ⟨⟨hs.name,Nat.le_trans h1 (by omega),Nat.le_trans h2 (by omega),Nat.le_trans Mt (by omega),Nat.le_trans h4 (by omega),hs.ids⟩,F8⟩)
 · rw [KW hk] at h;(repeat' (split at h))<;>first|(cases h;done)|(injection h with h;obtain ⟨rfl,rfl⟩:=Prod.mk.inj h;exact ⟨⟨hs.name,Nat.le_trans h1 (by omega),Nat.le_trans h2 (by omega),Nat.le_trans h3 (by omega),Nat.le_trans h4 (by omega),hs.ids⟩,F8⟩)
 · rw [KY hk] at h;(repeat' (split at h))<;>first|(cases h;done)|(injection h with h;obtain ⟨rfl,rfl⟩:=Prod.mk.inj h;exact ⟨⟨hs.name,Nat.le_trans h1 (by omega),Nat.le_trans h2 (by omega),Nat.le_trans h3 (by omega),Nat.le_trans h4 (by omega),hs.ids⟩,F8⟩)
theorem gH {e:Bk} {c:BK} {x:Bk} {b:BK} {n:Nat} (h:DR e c=(x,b,0)) (hs:e.sz n) (hi:c.Ck.fits∧c.Ck.small):x.sz (n+1)∧b.Ck.fits∧b.Ck.small:=by
 obtain ⟨_,h2,h3,_⟩:=Wj h
 exact V2 h2 h3 hs hi
structure C0.sz (e:C0) (n:Nat):Prop where
 BW:∀x∈e.BW,x.sz n
 items:∀x∈e.items,x.name.length≤maxLen∧x.links.length≤1000000
 le:e.BW.length≤1000000
 lg:e.A_.length≤1000000
 li:e.items.length≤1000000
theorem C0.sz.fits {e:C0} {n:Nat} (h:e.sz n) (hn:n≤1000000):e.fits:=
 ⟨fun x hx=>⟨(h.BW x hx).fits,(h.BW x hx).small hn⟩,fun x hx=>(h.items x hx).1,by have:=h.le;omega,by have:=h.lg;omega,by have:=h.li;omega⟩
theorem jB {β γ:Type} {f:β→γ} {l:List β} {k:Nat} {x:β} (h:l[k]? =some x):(l.take k).map f++[f x]=(l.take (k+1)).map f:=by rw [List.take_add_one,h,List.map_append];rfl
def JP (l:List Bk) (c:BK):List Bk×Int:=
 if c.AV<0∨((l.length:Nat):Int)≤c.AV then (l,40)
 else match l[c.AV.toNat]? with
  |none=>(l,40)
  |some x=>if (DR x c).2.2=0 then (l.set c.AV.toNat (DR x c).1,0) else (l,(DR x c).2.2)
theorem gI {l:List Bk} {c:BK} (h:c.AV<0∨((l.length:Nat):Int)≤c.AV):JP l c=(l,40):=if_pos h
theorem l9 {l:List Bk} {c:BK} {x:Bk} (h:¬(c.AV<0∨((l.length:Nat):Int)≤c.AV)) (hx:l[c.AV.toNat]? =some x):JP l c=if (DR x c).2.2=0 then (l.set c.AV.toNat (DR x c).1,0) else (l,(DR x c).2.2):=by
 unfold JP;rw [if_neg h,hx]
def La (l:List BK):List Int→List Bk→List Bk×Int
 |[],BW=>(BW,0)
 |i::s,BW=>match l[i.toNat]? with
  |none=>(BW,0)
  |some c=>if (JP BW c).2=0 then La l s (JP BW c).1 else (BW,(JP BW c).2)
def RB (e:C0) (l:List BK) (s:List Int):C0×Int:=
 if EY e=false then (E6,31)
 else if 24<l.length then (E6,3)
 else if FP l.length s=false then (E6,46)
 else if (La l s e.BW).2=0 then (⟨(La l s e.BW).1,e.A_,e.items⟩,0) else (E6,(La l s e.BW).2)
theorem XO {l:List BK} {s:List Int} {BW:List Bk} {k:Nat} {i:Int} {c:BK} (hi:s[k]? =some i) (hc:l[i.toNat]? =some c):La l (s.drop k) BW=if (JP BW c).2=0 then La l (s.drop (k+1)) (JP BW c).1 else (BW,(JP BW c).2):=by
 have hk:=A0 hi
 rw [List.drop_eq_getElem_cons hk]
 rw [List.getElem?_eq_getElem hk] at hi;cases hi
 rw [La];rw [hc]
theorem V3 (l:List Bk) (c:BK):(JP l c).1.length=l.length:=by
 unfold JP;split
 · rfl
 ·
  split
  · rfl
  ·
   split
   · exact List.length_set
   · rfl
theorem bC {l:List Bk} {c:BK} {n:Nat} (hz:∀x∈l,x.sz n) (hi:c.Ck.fits∧c.Ck.small):∀x∈(JP l c).1,x.sz (n+1):=by
 have FM:∀x∈l,x.sz (n+1):=fun x hx=>(hz x hx).le (by omega)
 unfold JP;split
 · exact FM
 ·
  split
  · exact FM
  next x hx=>
  split
  next h0=>
   intro y hy
   rcases List.mem_or_eq_of_mem_set hy with hy|hy
   · exact FM y hy
   ·
    subst hy
    exact (gH (b:=(DR x c).2.1) (by rw [←h0]) (hz x (List.mem_of_getElem? hx)) hi).1
  · exact FM
theorem bD {n:Int} {s:List Int} (h:∀j,j<s.length→setAt n s j=true):∀j,j<s.length→(j:Int)≤s[j]?.getD 0
 |0,hj=>by have:=h 0 hj;unfold setAt at this;simp at this;simp;omega
 |j+1,hj=>by
  have h1:=bD h j (by omega)
  have:=h (j+1) hj
  unfold setAt at this
  simp only [Bool.and_eq_true,Bool.or_eq_true,decide_eq_true_eq,Nat.add_sub_cancel] at this
  omega
theorem V4 {n:Nat} {s:List Int} (h:FP n s=true):s.length≤n:=by
 unfold FP at h;rw [Bv] at h
 rcases Nat.eq_zero_or_pos s.length with hz|hz
 · omega
 ·
  have h1:=bD h (s.length-1) (by omega)
  have h2:=h (s.length-1) (by omega)
  unfold setAt at h2
  simp only [Bool.and_eq_true,decide_eq_true_eq] at h2
  omega
theorem RC {n:Nat} {s:List Int} (h:FP n s=true) {k:Nat} {i:Int} (hi:s[k]? =some i):0≤i∧i<n:=by
 unfold FP at h;rw [Bv] at h
 have h2:=h k (A0 hi)
 unfold setAt at h2
 rw [hi] at h2
 simp only [Option.getD_some,Bool.and_eq_true,decide_eq_true_eq] at h2
 exact h2.1
def P3 (e:C0) (c:BK):C0×Int:=if (JP e.BW c).2=0 then (⟨(JP e.BW c).1,e.A_,e.items⟩,0) else (E6,(JP e.BW c).2)
def RD (x:HE) (l:List BK) (i:Nat):Bool:=(l[i]?).any fun c=>decide (c.AV=x.client∨c.AV=x.server)
def Lb (x:HE) (l:List BK) (k:Nat):List Int:=((List.range k).filter (RD x l)).map fun i:Nat=>(i:Int)
theorem Sj {x:HE} {l:List BK} {k:Nat} (h:RD x l k=true):Lb x l (k+1)=Lb x l k++[(k:Int)]:=by unfold Lb;rw [List.range_succ,List.filter_append,List.map_append];simp [h]
theorem gJ {x:HE} {l:List BK} {k:Nat} (h:RD x l k=false):Lb x l (k+1)=Lb x l k:=by unfold Lb;rw [List.range_succ,List.filter_append,List.map_append];simp [h]
theorem Sk (x:HE) (l:List BK) (k:Nat):(Lb x l k).length≤k:=by unfold Lb;rw [List.length_map];exact Nat.le_trans (List.length_filter_le _ _) (by rw [List.length_range];exact Nat.le_refl _)
def Ho (e:C0) (l:List BK) (k:Int):List Int×Int:=
 if EY e=false then ([],31) else if 24<l.length then ([],3) else if k<0∨((e.A_.length:Nat):Int)≤k then ([],4)
 else (Lb (e.A_[k.toNat]?.getD FW) l l.length,0)
theorem xY {e e2:Bk} {c b:BK} (h:c.kind=1) (hs:Bj e c= .ok (e2,b)):(0≤c.at_∧c.at_≤(e.Ao.length:Nat))∧e2={ e with Ao:=e.Ao.take c.at_.toNat++[c.number]++e.Ao.drop c.at_.toNat }∧b=⟨c.AV,2,c.number,0,Bc⟩:=by
 rw [Mc h] at hs
 (repeat' (split at hs))<;>first|(cases hs;done)|(injection hs with hs;injection hs with h1 h2;exact ⟨by omega,h1.symm,h2.symm⟩)
theorem xZ {e e2:Bk} {c b:BK} (h:c.kind=2) (hs:Bj e c= .ok (e2,b)):(0≤KU e c)∧e2={ e with Ao:=e.Ao.eraseIdx (KU e c).toNat }∧b=⟨c.AV,1,c.number,KU e c,Bc⟩:=by
 rw [Md h] at hs
 (repeat' (split at hs))<;>first|(cases hs;done)|(injection hs with hs;injection hs with h1 h2;exact ⟨by omega,h1.symm,h2.symm⟩)
theorem xd {e e2:Bk} {c b:BK} (h:c.kind=3) (hs:Bj e c= .ok (e2,b)):e2={ e with most:=c.number }∧b=⟨c.AV,c.kind,e.most,0,Bc⟩:=by
 rw [Me h] at hs
 (repeat' (split at hs))<;>first|(cases hs;done)|(injection hs with hs;injection hs with h1 h2;exact ⟨h1.symm,h2.symm⟩)
theorem xe {e e2:Bk} {c b:BK} (h:c.kind=4) (hs:Bj e c= .ok (e2,b)):e2={ e with least:=c.number }∧b=⟨c.AV,c.kind,e.least,0,Bc⟩:=by
 rw [Mf h] at hs
 (repeat' (split at hs))<;>first|(cases hs;done)|(injection hs with hs;injection hs with h1 h2;exact ⟨h1.symm,h2.symm⟩)
theorem xg {e e2:Bk} {c b:BK} (h:c.kind=5) (hs:Bj e c= .ok (e2,b)):(0≤c.at_∧c.at_≤(e.ids.length:Nat))∧e2={ e with ids:=e.ids.take c.at_.toNat++[c.Ck]++e.ids.drop c.at_.toNat }∧b=⟨c.AV,6,c.Ck.B8,0,Bc⟩:=by
 rw [Mg h] at hs
 (repeat' (split at hs))<;>first|(cases hs;done)|(injection hs with hs;injection hs with h1 h2;exact ⟨by omega,h1.symm,h2.symm⟩)
theorem xh {e e2:Bk} {c b:BK} (h:c.kind=6) (hs:Bj e c= .ok (e2,b)):∃x,e.ids[(BR c.number e.ids).toNat]? =some x∧0≤BR c.number e.ids∧e2={ e with ids:=e.ids.eraseIdx (BR c.number e.ids).toNat }∧b=⟨c.AV,5,0,BR c.number e.ids,x⟩:=by
 rw [Mh h] at hs
 (repeat' (split at hs))<;>first|(cases hs;done)|(injection hs with hs;injection hs with h1 h2;exact ⟨_,by assumption,by omega,h1.symm,h2.symm⟩)
theorem xj {e e2:Bk} {c b:BK} (h:c.kind=7) (hs:Bj e c= .ok (e2,b)):Ek e.anchors c.number=false∧e2={ e with anchors:=Tk e.anchors c.number }∧b=⟨c.AV,8,c.number,0,Bc⟩:=by
 rw [Mi h] at hs
 (repeat' (split at hs))<;>first|(cases hs;done)|(injection hs with hs;injection hs with h1 h2;exact ⟨by simp_all,h1.symm,h2.symm⟩)
theorem xl {e e2:Bk} {c b:BK} (h:c.kind=8) (hs:Bj e c= .ok (e2,b)):Ek e.anchors c.number=true∧e2={ e with anchors:=e.anchors.eraseIdx (D9 e.anchors c.number) }∧b=⟨c.AV,7,c.number,0,Bc⟩:=by
 rw [Mj h] at hs
 (repeat' (split at hs))<;>first|(cases hs;done)|(injection hs with hs;injection hs with h1 h2;exact ⟨by simp_all,h1.symm,h2.symm⟩)
theorem xp {e e2:Bk} {c b:BK} (h:c.kind=9) (hs:Bj e c= .ok (e2,b)):Ek e.hashes c.number=false∧e2={ e with hashes:=Tk e.hashes c.number }∧b=⟨c.AV,10,c.number,0,Bc⟩:=by
 rw [Mk h] at hs
 (repeat' (split at hs))<;>first|(cases hs;done)|(injection hs with hs;injection hs with h1 h2;exact ⟨by simp_all,h1.symm,h2.symm⟩)
theorem sZ {e e2:Bk} {c b:BK} (h:c.kind=10) (hs:Bj e c= .ok (e2,b)):Ek e.hashes c.number=true∧e2={ e with hashes:=e.hashes.eraseIdx (D9 e.hashes c.number) }∧b=⟨c.AV,9,c.number,0,Bc⟩:=by
 rw [KV h] at hs
 (repeat' (split at hs))<;>first|(cases hs;done)|(injection hs with hs;injection hs with h1 h2;exact ⟨by simp_all,h1.symm,h2.symm⟩)
theorem sj {e e2:Bk} {c b:BK} (h:c.kind=11) (hs:Bj e c= .ok (e2,b)):e2={ e with KS:=(c.number==1) }∧b=⟨c.AV,c.kind,JB e.KS,0,Bc⟩:=by
 rw [KW h] at hs
 (repeat' (split at hs))<;>first|(cases hs;done)|(injection hs with hs;injection hs with h1 h2;exact ⟨h1.symm,h2.symm⟩)
theorem sk {e e2:Bk} {c b:BK} (h:c.kind=12) (hs:Bj e c= .ok (e2,b)):e2={ e with own:=(c.number==1) }∧b=⟨c.AV,c.kind,JB e.own,0,Bc⟩:=by
 rw [KY h] at hs
 (repeat' (split at hs))<;>first|(cases hs;done)|(injection hs with hs;injection hs with h1 h2;exact ⟨h1.symm,h2.symm⟩)
theorem gK {e:Bk} {c:BK} (h:0≤KU e c):(KU e c).toNat<e.Ao.length:=by obtain ⟨_,_,_,h3⟩:=MZ (p:=fun y=>c.number==y) (l:=e.Ao) h;exact h3
theorem XP {e e2:Bk} {c b:BK} (J5:e.small) (hcs:c.Ck.small) (hce:FH e=true) (hc:GA c) (hs:Bj e c= .ok (e2,b)):Az prog 151 [agg (BP e),agg (EP c)] (agg (BP e2)):=by
 refine fo func151 rfl ⟨rfl,rfl⟩ fun M0 w0=> ?_
 have hk:=hc.1
 have ok:=B6.1 hce
 have hs1:=J5.Ao
 have Rv:=J5.anchors
 have k7:=J5.hashes
 have hs4:=J5.PO
 refine Tr.seq (Tr.An (tp rfl (BZ rfl (Va rfl)) (tp rfl (BZ rfl (Va rfl)) ?_)))
 refine Tl rfl rfl rfl rfl z70 HR (fun b1=> ?_)
 refine ap ?_
 refine ap ?_
 refine tp rfl (Ce (P0 J5) rfl rfl) ?_
 refine Tl rfl rfl rfl rfl z70 HR (fun b2=> ?_)
 refine ap ?_
 refine ac ?_
 refine an ?_ ?_<;>intro h1 q1
 obtain ⟨hr,rfl,rfl⟩:=xY q1 hs
 refine ap ?_
 refine tp rfl (AQ rfl (LZ (l:=e.Ao) (i:=c.at_.toNat) (by omega) hs1) ⟨ke rfl,⟨_,rfl,int_eq (by omega)⟩,ke rfl,trivial⟩) ?_
 refine ap ?_
 refine CY 4 5 rfl ?_
 refine ap ?_
 refine Tr.drop 0 (Tr.ret (Fin.CJ rfl (AP.cell 0 rfl rfl CW B5 rfl (Lr)) ?_))
 · exact Lr
 refine ac ?_
 refine Jw 2 3 4 5 13 24 rfl ?_
 refine Tr.cn rfl ?_ ?_<;>intro h2 q2
 obtain ⟨hr,rfl,rfl⟩:=xZ q2 hs
 refine Tr.rx ?_
 refine ay ?_
 refine xo rfl (fun _=>CS (Hj) rfl rfl rfl) ?_
 refine xo rfl (fun _=>AQ rfl (Hl (l:=e.Ao) (i:=(KU e c).toNat) (gK hr) hs1) ⟨ke rfl,⟨_,rfl,int_eq (show KU e c=_ by omega)⟩,trivial⟩) ?_
 refine ay ?_
 refine Cx.nil ⟨by kernel_rfl,?_⟩
 refine BQ.done VE ?_
 refine ac ?_
 refine CY 4 5 rfl ?_
 refine ap ?_
 refine Tr.drop 0 (Tr.ret (Fin.CJ rfl (AP.cell 0 rfl rfl CW B5 rfl (Lr)) ?_))
 · exact Lr
 refine an ?_ ?_<;>intro h3 q3
 obtain ⟨rfl,rfl⟩:=xd q3 hs
 refine ap ?_
 refine ap ?_
 refine Tr.drop 0 (Tr.ret (Fin.CJ rfl (AP.cell 0 rfl rfl CW B5 rfl (Lr)) ?_))
 · exact Lr
 refine an ?_ ?_<;>intro h4 q4
 obtain ⟨rfl,rfl⟩:=xe q4 hs
 refine ap ?_
 refine ap ?_
 refine Tr.drop 0 (Eh 4 rfl (Tr.ret (Fin.CJ rfl (AP.cell 0 rfl rfl CW B5 rfl (Lr)) ?_)))
 · exact Lr
 refine an ?_ ?_<;>intro h5 q5
 obtain ⟨hr,rfl,rfl⟩:=xg q5 hs
 refine ap ?_
 refine tp rfl (C_ rfl underlying68 E0 (vl rfl) (vl rfl) (by omega) (by simp;omega)) ?_
 refine TO.pad ?_
 refine TO.DP 0 rfl rfl (by decide) (Db rfl rfl (by decide) rfl underlying68 E0 WR z75 rfl (by decide) ⟨_,rfl,AF _⟩ (vl rfl) (by simp only [List.length_map,List.length_append,List.length_cons,List.length_nil,List.length_take,List.length_drop];unfold maxLen;omega) (by simp only [List.length_map,List.length_append,List.length_cons,List.length_nil,List.length_take,List.length_drop];omega) (Ba (by exact List.Mem.head _) ⟨_,rfl,Dt 1⟩)) (fun v1=> ?_)
 refine ap ?_
 refine D7 3 4 5 6 rfl ?_
 refine ap ?_
 refine tp rfl (Ce (Js hcs) rfl rfl) (tp rfl (AL (xs:=[.tmp 56]) (rows:=[_]) rfl rfl underlying68 E0 z75 rfl (by decide) ⟨⟨(by exact rfl),(Va rfl)⟩,trivial⟩ (by decide)) ?_)
 refine TO.DP 0 rfl rfl (by decide) (Bl rfl rfl rfl rfl underlying68 E0 WR z75 (Kb rfl) (Kf rfl) (Aq (by exact List.Mem.head _) (Ka rfl))) (fun v2=> ?_)
 refine ap ?_
 refine ap ?_
 refine tp rfl (C5 rfl underlying68 E0 (vl rfl) (vl rfl) (by omega) (by simp;omega)) ?_
 refine TO.DP 0 rfl rfl (by decide) (Bl rfl rfl rfl rfl underlying68 E0 WR z75 (Kb rfl) (vl rfl) (Aq (by exact List.Mem.head _) (Ka rfl))) (fun v3=> ?_)
 refine ap ?_
 refine CY 4 5 rfl ?_
 refine ap ?_
 refine Tr.drop 1 (Tr.ret (Fin.CJ rfl (AP.cell 1 rfl rfl CW B5 rfl (Lr)) ?_))
 · exact Ar ⟨Lr,Lr,Lr,Lr,Lr,Pr.le_trans (Ah _ _) (Pr.le_of_eq (by show _=slice 4 ((e.ids.take c.at_.toNat++[c.Ck]++e.ids.drop c.at_.toNat).map G6);simp [List.map_take,List.map_drop])),Lr,Lr,Lr,trivial⟩
 refine ac ?_
 refine Jw 2 3 4 5 13 67 rfl ?_
 refine Tr.cn rfl ?_ ?_<;>intro h6 q6
 obtain ⟨x_,hx_,hr,rfl,rfl⟩:=xh q6 hs
 have hlt:=A0 hx_
 refine ac ?_
 refine co rfl (CS (LY hs4) rfl rfl rfl) ?_
 refine ac ?_
 refine CR 4 5 8 rfl ?_
 refine ap ?_
 refine tp rfl (C_ rfl underlying68 E0 (vl rfl) (vl rfl) (by omega) (by simp;omega)) ?_
 refine TO.pad ?_
 refine TO.DP 0 rfl rfl (by decide) (Db rfl rfl (by decide) rfl underlying68 E0 WR z75 rfl (by decide) ⟨_,rfl,AF _⟩ (vl rfl) (by simp only [List.length_map,List.length_append,List.length_cons,List.length_nil,List.length_take,List.length_drop];unfold maxLen;omega) (by simp only [List.length_map,List.length_append,List.length_cons,List.length_nil,List.length_take,List.length_drop];omega) (Ba (by exact List.Mem.head _) ⟨_,rfl,Dt 1⟩)) (fun v4=> ?_)
 refine ap ?_
 refine ap ?_
 refine tp rfl (C5 rfl underlying68 E0 (vl rfl) (vl rfl) (by omega) (by simp;omega)) ?_
 refine TO.DP 0 rfl rfl (by decide) (Bl rfl rfl rfl rfl underlying68 E0 WR z75 (Kb rfl) (vl rfl) (Aq (by exact List.Mem.head _) (Ka rfl))) (fun v5=> ?_)
 refine ap ?_
 refine CY 4 5 rfl ?_
 refine ap ?_
 refine Tr.drop 1 (Tr.ret (Fin.CJ rfl (AP.cell 1 rfl rfl CW B5 rfl (Lr)) ?_))
 · exact Ar ⟨Lr,Lr,Lr,Lr,Lr,Pr.le_trans (Ah _ _) (Pr.le_of_eq (by show _=slice 4 ((e.ids.eraseIdx (BR c.number e.ids).toNat).map G6);rw [List.eraseIdx_eq_take_drop_succ,show (BR c.number e.ids+1).toNat=(BR c.number e.ids).toNat+1 by omega];simp [List.map_take,List.map_drop])),Lr,Lr,Lr,trivial⟩
 refine an ?_ ?_<;>intro h7 q7
 obtain ⟨hr,rfl,rfl⟩:=xj q7 hs
 refine ap ?_
 refine tp rfl (CS (MA Rv) rfl rfl rfl) ?_
 refine ap ?_
 refine CY 4 5 rfl ?_
 refine ap ?_
 refine Tr.drop 0 (Tr.ret (Fin.CJ rfl (AP.cell 0 rfl rfl CW B5 rfl (Lr)) ?_))
 · exact Lr
 refine an ?_ ?_<;>intro h8 q8
 obtain ⟨hr,rfl,rfl⟩:=xl q8 hs
 refine Tr.rx ?_
 refine ay ?_
 refine xo rfl (fun _=>CS (Hj) rfl rfl rfl) ?_
 refine xo rfl (fun _=>AQ rfl (Hl (l:=e.anchors) (i:=D9 e.anchors c.number) (Qj hr) Rv) ⟨ke rfl,⟨_,rfl,int_eq (by rw [Q_ (Mb ok.anc),if_pos hr])⟩,trivial⟩) ?_
 refine ay ?_
 refine Cx.nil ⟨by kernel_rfl,?_⟩
 refine BQ.done VE ?_
 refine ac ?_
 refine CY 4 5 rfl ?_
 refine ap ?_
 refine Tr.drop 0 (Tr.ret (Fin.CJ rfl (AP.cell 0 rfl rfl CW B5 rfl (Lr)) ?_))
 · exact Lr
 refine an ?_ ?_<;>intro h9 q9
 obtain ⟨hr,rfl,rfl⟩:=xp q9 hs
 refine ap ?_
 refine tp rfl (CS (MA k7) rfl rfl rfl) ?_
 refine ap ?_
 refine CY 4 5 rfl ?_
 refine ap ?_
 refine Tr.drop 0 (Tr.ret (Fin.CJ rfl (AP.cell 0 rfl rfl CW B5 rfl (Lr)) ?_))
 · exact Lr
 refine ac ?_
 refine Jw 2 3 4 5 13 116 rfl ?_
 refine Tr.cn rfl ?_ ?_<;>intro h10 Oa
 obtain ⟨hr,rfl,rfl⟩:=sZ Oa hs
 refine Tr.rx ?_
 refine ay ?_
 refine xo rfl (fun _=>CS (Hj) rfl rfl rfl) ?_
 refine xo rfl (fun _=>AQ rfl (Hl (l:=e.hashes) (i:=D9 e.hashes c.number) (Qj hr) k7) ⟨ke rfl,⟨_,rfl,int_eq (by rw [Q_ (Mb ok.hash),if_pos hr])⟩,trivial⟩) ?_
 refine ay ?_
 refine Cx.nil ⟨by kernel_rfl,?_⟩
 refine BQ.done VE ?_
 refine ac ?_
 refine CY 4 5 rfl ?_
 refine ap ?_
 refine Tr.drop 0 (Tr.ret (Fin.CJ rfl (AP.cell 0 rfl rfl CW B5 rfl (Lr)) ?_))
 · exact Lr
 refine an ?_ ?_<;>intro h11 PR
 obtain ⟨rfl,rfl⟩:=sj PR hs
 refine ap ?_
 refine ap ?_
 refine Tr.drop 0 (Tr.ret (Fin.CJ rfl (AP.cell 0 rfl rfl CW B5 rfl (Lr)) ?_))
 · exact Lr
 refine an ?_ ?_<;>intro h12 S6
 obtain ⟨rfl,rfl⟩:=sk S6 hs
 refine ap ?_
 refine CY 4 5 rfl ?_
 refine ap ?_
 refine Tr.drop 0 (Tr.ret (Fin.CJ rfl (AP.cell 0 rfl rfl CW B5 rfl (Lr)) ?_))
 · exact Lr
 exfalso;omega
theorem UY {e:Bk} {c:BK} {n:Nat} (hz:e.sz n) (hn:n≤900000) (hi:c.Ck.fits∧c.Ck.small):Az prog 144 [agg (BP e),agg (EP c)] (EI [agg (BP (DR e c).1),int (DR e c).2.2]):=by
 refine fo func144 rfl ⟨rfl,rfl⟩ fun M0 w0=> ?_
 have J5:=hz.small (by omega)
 have hcs:=hi.2
 refine Tr.seq (Tr.An (tp rfl (BZ rfl (Va rfl)) (tp rfl (BZ rfl (Va rfl)) ?_)))
 refine Tl rfl rfl rfl rfl z70 HR (fun b1=> ?_)
 refine ao ?_
 refine ac ?_
 refine co rfl (CS (RA J5 hcs) rfl rfl rfl) ?_
 refine ac ?_
 refine an ?_ ?_<;>intro h1 q1
 have hb:=gE q1
 refine ao ?_
 refine TO.AK 0 rfl rfl rfl (vl rfl) (Va rfl) rfl B5 rfl rfl ?_
 refine ao ?_
 refine CY 4 5 rfl (Tr.ret (Fin.AB (Fin.BD rfl (AP.cell 0 rfl rfl CW B5 rfl (Lr)) (AP.tmp rfl (Lr)) ?_)))
 refine Am ⟨?_,?_,trivial⟩
 · rw [hb];exact Ar ⟨Lr,Lr,Lr,AF 1,Lr,AF 4,AF 1,AF 1,Lr,trivial⟩
 · exact int_eq (by rw [hb])
 obtain ⟨hce,hc,e2,b,hs⟩:=l6 (e:=e) (c:=c) (by have:=q1;omega)
 have xq:=(V2 hc hs hz hi).1.small (by omega)
 refine ac ?_
 refine ao ?_
 refine tp rfl (CS (XP J5 hcs hce hc hs) rfl rfl rfl) ?_
 refine Tl rfl rfl rfl rfl z70 HR (fun b2=> ?_)
 refine sf 0 7 ⟨rfl,rfl,rfl⟩ rfl rfl rfl rfl ?_
 refine ao ?_
 refine CY 4 7 rfl ?_
 refine ac ?_
 refine co rfl (Ce (EV xq) rfl rfl) ?_
 refine an ?_ ?_<;>intro h2 q2
 have hb:=eL hce hc hs (by have:=q2;cases h_:FH e2<;>simp_all)
 refine ao ?_
 refine TO.AK 0 rfl rfl rfl (vl rfl) (Va rfl) rfl B5 rfl rfl ?_
 refine ao ?_
 refine Tr.ret (Fin.AB (Fin.BD rfl (AP.cell 0 rfl rfl CW B5 rfl (Lr)) (AP.tmp rfl (Lr)) ?_))
 refine Am ⟨?_,?_,trivial⟩
 · rw [hb];exact Ar ⟨Lr,Lr,Lr,AF 1,Lr,AF 4,AF 1,AF 1,Lr,trivial⟩
 · exact int_eq (by rw [hb])
 have hb:=ZK hce hc hs (by have:=q2;cases h_:FH e2<;>simp_all)
 refine ac ?_
 refine ao ?_
 refine TO.AK 0 rfl rfl rfl (vl rfl) (Va rfl) rfl B5 rfl rfl ?_
 refine ao ?_
 refine Tr.ret (Fin.BD rfl (AP.cell 0 rfl rfl CW B5 rfl (Lr)) (AP.tmp rfl (Lr)) ?_)
 refine Am ⟨?_,?_,trivial⟩
 · rw [hb];exact Lr
 · exact int_eq (by rw [hb])
theorem OO {e:C0} {n:Nat} (hz:e.sz n) (hn:n≤1000000):Tg prog 131 [agg (Bw e)] (fun x=>agg [is x,G8 e.A_,Np e.items]) (fun x=>[CN 70 9 (e.BW.map BP) x]):=by
 refine Tg.of func131 rfl rfl (by exact Nb rfl) fun M0 w0 S rs M1 w1=> ?_
 have hl1:=hz.le
 have nU:=hz.lg
 have hl3:=hz.li
 refine Tr.seq (Tr.An (tp rfl (BZ rfl (Va rfl)) ?_))
 refine Tl rfl rfl rfl rfl z29 G1 (fun b1=> ?_)
 refine ao ?_
 refine ao ?_
 refine tp rfl (HW rfl underlying26 F_ pH jw rfl (by decide) (vl rfl) (by simp only [List.length_map,List.length_append,List.length_cons,List.length_nil,List.length_take];unfold maxLen;omega) (by simp only [List.length_map,List.length_append,List.length_cons,List.length_nil,List.length_take];omega)) ?_
 refine tp rfl (oD) ?_
 refine Tl rfl rfl rfl rfl z29 G1 (fun b2=> ?_)
 refine TO.AK 0 rfl rfl rfl (vl rfl) (Va rfl) rfl Ct rfl rfl ?_
 refine ao ?_
 refine ac ?_
 refine Tr.block (Tr.IC 0 [Ag (.slice none 0 0) (lens ((e.BW.take 0).map BP).length),G8 e.A_,is (.slice none 0 0)] rfl ⟨NZ rfl,Lr,Lr,trivial⟩ (Tr.TY 70 9 (Tr.EN [(1,_),(2,_),(3,_),(13,_),(14,_)] ⟨ke rfl,ke rfl,ke rfl,ke rfl,ke rfl,trivial⟩ (fun k v=>[(15,int ((k:Nat):Int))]) (fun k v=>Hp M0 w0 S (Bb 70 9 ((e.BW.take k).map BP) v::AE true b2 29 [Ag v (lens ((e.BW.take k).map BP).length),G8 e.A_,is (.slice none 0 0)]::AE true b1 29 (([.slice none 0 0,.slice none 0 0,.slice none 0 0]:List Value).map is)::At M1 w1::rs)) (fun k:Nat=>k≤(e.BW).length) (fun k:Nat=>(e.BW).length-k) 0 (.slice none 0 0) (Nat.zero_le _) ⟨ke rfl,trivial⟩ (fun _ _ h=>h) ?_)))
 rintro k v BN
 refine ac ?_
 refine Tr.seq ?_
 refine Tr.cn rfl ?_ ?_<;>intro h1 q1
 have Af:k<(e.BW).length:=AH h1
 obtain ⟨x,Ad⟩:=at_ Af
 have hxs:=(hz.BW x (List.mem_of_getElem? Ad)).small hn
 refine ac ?_
 refine Tr.seq (Tr.block (Tr.seq (Tr.An (tp rfl (AA rfl underlying25 B5 (vl rfl) (vl rfl) (by omega) (by exact AO (by assumption))) ?_))))
 refine tp rfl (AR rfl CW B5 (vl rfl) rfl rfl) ?_
 refine Tl rfl rfl rfl rfl z70 HR (fun b3=> ?_)
 refine sf 0 5 ⟨rfl,rfl,rfl⟩ rfl rfl rfl rfl ?_
 refine ao ?_
 refine Tr.pad (Tr.rx ?_)
 refine ax ?_
 refine xo rfl (fun _=>Ce (P0 hxs) rfl rfl) (xo rfl (fun _=>AL (xs:=[.tmp 22]) (rows:=[_]) rfl rfl underlying25 B5 z70 rfl (by decide) ⟨⟨(by exact rfl),(Va rfl)⟩,trivial⟩ (by decide)) ?_)
 refine Cx.ef 1 rfl rfl (by decide) (E2 rfl rfl (by decide) rfl underlying25 B5 jj z70 rfl (by decide) (by decide) (vl rfl) (Kf rfl) (Bu fun _=>rfl) (Nat.zero_lt_succ _) (by simp only [List.length_map,List.length_take,List.length_cons,List.length_nil];unfold maxLen;omega) (by simp only [List.length_map,List.length_take,List.length_cons,List.length_nil];omega)) ?_
 refine xo rfl (fun _=>Ae rfl HQ (vl rfl)) (Cx.Dp 2 rfl rfl (Fg rfl rfl rfl (vl rfl) rfl jY (by exact Nb rfl)) ?_)
 refine Cx.nil ⟨by kernel_rfl,?_⟩
 refine BQ.PB 1 2 24 rfl rfl (by decide) rfl (fun v1=> ?_)
 refine BQ.done al5 ?_
 refine ac ?_
 refine Tr.drop 0 (Jw 1 2 3 13 14 15 rfl ?_)
 refine ac ?_
 refine Fin.IC 1 [Ag v1 (lens ((e.BW.take (k+1)).map BP).length),G8 e.A_,is (.slice none 0 0)] rfl ⟨Cr (by simp only [List.length_map,List.length_append,List.length_take,List.length_cons,List.length_nil];omega),Lr,Lr,trivial⟩ ?_
 rw [jB (f:=BP) Ad]
 exact Fin.DC (k+1) v1 (⟨Af,by omega⟩) ⟨⟨_,rfl,AD k⟩,ke rfl,ke rfl,ke rfl,ke rfl,ke rfl,trivial⟩ (fun _ _ h=>h)
 have BI:k=(e.BW).length:=by have:=AJ h1;omega
 subst BI
 rw [List.take_length]
 refine a2 ?_
 refine Tr.block (Tr.IC 1 [Ag v (lens (e.BW.map BP).length),G8 e.A_,Ag (.slice none 0 0) (Np (e.items.take 0))] rfl ⟨Lr,Lr,BX rfl,trivial⟩ (Tr.Bs 82 5 (Tr.EN [(2,_),(3,_),(28,_),(29,_)] ⟨ke rfl,ke rfl,ke rfl,ke rfl,trivial⟩ (fun m u=>[(30,int ((m:Nat):Int))]) (fun m u=>Hp M0 w0 S (Ap 82 5 u::Bb 70 9 (e.BW.map BP) v::AE true b2 29 [Ag v (lens (e.BW.map BP).length),G8 e.A_,Ag u (Np (e.items.take m))]::AE true b1 29 (([.slice none 0 0,.slice none 0 0,.slice none 0 0]:List Value).map is)::At M1 w1::rs)) (fun m:Nat=>m≤(e.items).length) (fun m:Nat=>(e.items).length-m) 0 (.slice none 0 0) (Nat.zero_le _) ⟨ke rfl,trivial⟩ (fun _ _ h=>h) ?_)))
 rintro m u Kc
 refine ac ?_
 refine Tr.seq ?_
 refine Tr.cn rfl ?_ ?_<;>intro h2 q2
 have Dg:m<(e.items).length:=AH h2
 obtain ⟨y,Dq⟩:=at_ Dg
 have hyl:=(hz.items y (List.mem_of_getElem? Dq)).2
 refine ac ?_
 refine Tr.seq (Tr.block (Tr.seq (Tr.An (tp rfl (AA rfl underlying27 KG (vl rfl) (vl rfl) (by omega) (by exact AO (by assumption))) ?_))))
 refine tp rfl (AR rfl U5 KG (vl rfl) rfl rfl) ?_
 refine Tl rfl rfl rfl rfl cq Yb (fun b4=> ?_)
 refine TO.AK 0 rfl rfl rfl (vl rfl) (Va rfl) rfl KG rfl rfl ?_
 refine ao ?_
 refine ao ?_
 refine tp rfl (HW rfl underlying80 IF iC z119 rfl (by decide) (vl rfl) (by simp only [List.length_map,List.length_append,List.length_cons,List.length_nil,List.length_take];unfold maxLen;omega) (by simp only [List.length_map,List.length_append,List.length_cons,List.length_nil,List.length_take];omega)) ?_
 refine tp rfl (Ae rfl TT (vl rfl)) (TO.Dp 0 rfl rfl (Ay rfl rfl (vl rfl) (Vo rfl) pJ rfl (by exact Nb rfl) rfl) ?_)
 refine ao ?_
 refine Jw 2 3 7 28 29 30 rfl ?_
 refine ao ?_
 refine TO.DP 1 rfl rfl (by decide) (Bl rfl rfl rfl rfl underlying27 KG jz cq (Kb rfl) (Kf rfl) (Aq (by exact List.Mem.head _) (Ka rfl))) (fun v2=> ?_)
 refine tp rfl (Ae rfl K9 (vl rfl)) (TO.Dp 3 rfl rfl (Ay rfl rfl (vl rfl) (Vo rfl) jZ rfl (by exact Nb rfl) rfl) ?_)
 refine ao ?_
 refine Tr.drop 0 ?_
 refine ac ?_
 refine Fin.IC 2 [Ag v (lens (e.BW.map BP).length),G8 e.A_,Ag v2 (Np (e.items.take (m+1)))] rfl ⟨Lr,Lr,Au (jB (f:=VX) Dq),trivial⟩ (Fin.DC (m+1) v2 (⟨Dg,by omega⟩) ⟨⟨_,rfl,AD m⟩,ke rfl,ke rfl,ke rfl,ke rfl,trivial⟩ (fun _ _ h=>h))
 have IY:m=(e.items).length:=by have:=AJ h2;omega
 subst IY
 refine ac ?_
 refine ao ?_
 refine TO.AK 3 rfl rfl rfl (vl rfl) (Va rfl) rfl Ct rfl rfl ?_
 refine ao ?_
 refine Tr.ret (Fin.Nq 1 rfl (Fin.drop 0 (Fin.drop 1 (Fin.Yx (Fin.qH v [_] rfl (AP.cell 0 rfl rfl Cu Ct rfl (Lr)) ?_ (List.Perm.refl _))))))
 · exact Ar ⟨J6 _ _,Lr,Pr.le_trans (Ah _ _) (Pr.le_of_eq (by rw [List.take_length])),trivial⟩
theorem Mu {e:C0} {c:BK} (h:c.AV<0∨((e.BW.length:Nat):Int)≤c.AV):P3 e c=(E6,40):=by unfold P3;rw [gI h];rfl
theorem l_ {e:C0} {c:BK} {x:Bk} (h:¬(c.AV<0∨((e.BW.length:Nat):Int)≤c.AV)) (hx:e.BW[c.AV.toNat]? =some x):P3 e c=if (DR x c).2.2=0 then (⟨e.BW.set c.AV.toNat (DR x c).1,e.A_,e.items⟩,0) else (E6,(DR x c).2.2):=by
 unfold P3;rw [l9 h hx]
 by_cases h0:(DR x c).2.2=0
 · rw [if_pos h0,if_pos h0];rfl
 · rw [if_neg h0,if_neg h0];exact (if_neg h0).symm
theorem UZ {e:C0} {c:BK} {n:Nat} (hz:e.sz n) (hi:c.Ck.fits∧c.Ck.small) (h:(P3 e c).2=0):(P3 e c).1.sz (n+1)∧P3 e c=(⟨(JP e.BW c).1,e.A_,e.items⟩,0):=by
 have h0:(JP e.BW c).2=0:=by
  by_cases h0:(JP e.BW c).2=0
  · exact h0
  · unfold P3 at h;rw [if_neg h0] at h;exact h
 have h1:P3 e c=(⟨(JP e.BW c).1,e.A_,e.items⟩,0):=by unfold P3;rw [if_pos h0]
 rw [h1]
 exact ⟨⟨bC hz.BW hi,hz.items,by show (JP e.BW c).1.length≤_;rw [V3];exact hz.le,hz.lg,hz.li⟩,rfl⟩
theorem gL {e:C0} {c:BK} (h:¬(P3 e c).2=0):¬(JP e.BW c).2=0∧(P3 e c).2=(JP e.BW c).2∧(P3 e c).1=E6:=by
 by_cases h0:(JP e.BW c).2=0
 · exfalso;unfold P3 at h;rw [if_pos h0] at h;exact h rfl
 · unfold P3;rw [if_neg h0];exact ⟨h0,rfl,rfl⟩
theorem XQ {e:C0} {c:BK} {n:Nat} (hz:e.sz n) (hn:n≤900000) (nq:c.Ck.fits∧c.Ck.small):Az prog 132 [agg (Bw e),agg (EP c)] (EI [agg (Bw (P3 e c).1),int (P3 e c).2]):=by
 refine fo func132 rfl ⟨rfl,rfl⟩ fun M0 w0=> ?_
 have zL:=hz.le
 refine Tr.seq (Tr.An (tp rfl (BZ rfl (Va rfl)) (tp rfl (BZ rfl (Va rfl)) ?_)))
 refine Tl rfl rfl rfl rfl z29 G1 (fun b1=> ?_)
 refine ao ?_
 refine ag ?_ ?_<;>intro h1 q1
 refine ac ?_
 refine D7 2 3 4 19 rfl (Tr.cond rfl (fun _=> ?_) (fun h=>nomatch h))
 refine Tr.seq (Tr.An (tp rfl (Ai (rows:=[]) rfl ow G1 trivial rfl) (TO.AK 0 rfl rfl rfl (vl rfl) (Va rfl) rfl Ct rfl rfl ?_)))
 refine ao ?_
 refine Tr.ret (Fin.AB (Fin.BD rfl (AP.cell 0 rfl rfl Cu Ct rfl (Lr)) (AP.tmp rfl (Lr)) ?_))
 refine Am ⟨?_,?_,trivial⟩
 · rw [Mu (e:=e) (c:=c) (by omega)];exact Ar ⟨AF 9,AF 2,AF 5,trivial⟩
 · exact int_eq (by rw [Mu (e:=e) (c:=c) (by omega)])
 refine ac ?_
 refine D7 2 3 4 19 rfl ?_
 refine Tr.cn rfl ?_ ?_<;>intro h2 q2
 refine ao ?_
 refine TO.AK 0 rfl rfl rfl (vl rfl) (Va rfl) rfl Ct rfl rfl ?_
 refine ao ?_
 refine Tr.ret (Fin.AB (Fin.BD rfl (AP.cell 0 rfl rfl Cu Ct rfl (Lr)) (AP.tmp rfl (Lr)) ?_))
 refine Am ⟨?_,?_,trivial⟩
 · rw [Mu (e:=e) (c:=c) (by omega)];exact Ar ⟨AF 9,AF 2,AF 5,trivial⟩
 · exact int_eq (by rw [Mu (e:=e) (c:=c) (by omega)])
 obtain ⟨x,hx⟩:=at_ (l:=e.BW) (k:=c.AV.toNat) (by omega)
 have hA:=l_ (e:=e) (c:=c) (by omega) hx
 have hlt:=A0 hx
 refine ac ?_
 refine Tr.seq (Tr.pad (Tr.rx ?_))
 refine ax ?_
 refine xo rfl (fun _=>AA rfl underlying25 B5 (vl rfl) (vl rfl) (by omega) (BB (f:=BP) hx)) ?_
 refine ax ?_
 refine xo rfl (fun _=>CS (UY (hz.BW x (List.mem_of_getElem? hx)) (by omega) nq) rfl rfl rfl) ?_
 refine ax ?_
 refine Cx.ef 0 rfl rfl (by decide) (CX rfl rfl (by decide) rfl z70 HR) (Cx.Dp 0 rfl rfl (DH rfl rfl rfl rfl (Va rfl) B5 rfl rfl) (xm rfl ?_))
 refine Cx.nil ⟨by kernel_rfl,?_⟩
 refine BQ.open_ 0 6 rfl rfl (fun v1=> ?_)
 refine BQ.done VE (Fin.K5 6 0 _ rfl rfl (fun _=>rfl) (fun b2=> ?_))
 refine Fin.go (JV 2 3 4 6 7 rfl ?_)
 refine an ?_ ?_<;>intro h3 q3
 rw [if_neg (by have:=q3;omega)] at hA
 refine ao ?_
 refine TO.AK 1 rfl rfl rfl (vl rfl) (Va rfl) rfl Ct rfl rfl ?_
 refine ao ?_
 refine Tr.drop 0 (Tr.ret (Fin.AB (Fin.BD rfl (AP.cell 0 rfl rfl Cu Ct rfl (Lr)) (AP.tmp rfl (Lr)) ?_)))
 refine Am ⟨?_,?_,trivial⟩
 · rw [hA];exact Ar ⟨AF 9,AF 2,AF 5,trivial⟩
 · exact int_eq (by rw [hA])
 rw [if_pos (by have:=q3;omega)] at hA
 refine ac ?_
 refine ao ?_
 refine TO.Yy rfl rfl (by decide) rfl (OO hz (by omega)) ⟨ke rfl,trivial⟩ (fun v2=> ?_)
 refine Tl rfl rfl rfl rfl z29 G1 (fun b3=> ?_)
 refine TO.AK 0 rfl rfl rfl (vl rfl) (Va rfl) rfl Ct rfl rfl ?_
 refine ao ?_
 refine ao ?_
 refine tp rfl (Dr 1 rfl (Tf rfl underlying25 B5 (vl rfl) (vl rfl) (by omega) (by rw [List.length_map];omega))) ?_
 refine TO.Dp 1 rfl rfl (Nd rfl rfl (vl rfl) (Va rfl) B5 rfl (Bu fun _=>rfl) (by rw [List.getElem?_map,hx];rfl) (by decide) (show _=(e.BW.set c.AV.toNat (DR x c).1).map BP by rw [List.map_set];rfl)) ?_
 refine ao ?_
 refine Tr.drop 2 (CY 4 8 rfl (Tr.seq (Tr.Lv 0 1 0 rfl rfl (by decide) rfl (Lr) (Bu fun _=>rfl) ?_)))
 refine ao ?_
 refine TO.AK 2 rfl rfl rfl (vl rfl) (Va rfl) rfl Ct rfl rfl ?_
 refine ao ?_
 refine Tr.drop 1 (Tr.ret (Fin.BD rfl (AP.cell 1 rfl rfl Cu Ct rfl (Lr)) (AP.tmp rfl (Lr)) ?_))
 refine Am ⟨?_,?_,trivial⟩
 · rw [hA];exact Lr
 · exact int_eq (by rw [hA])
theorem OP {e:C0} {l:List BK} {s:List Int} {n:Nat} (hz:e.sz n) (hn:n≤800000) (hc:∀c∈l,c.Ck.fits∧c.Ck.small):Az prog 101 [agg (Bw e),slice 8 (l.map EP),ints s] (EI [agg (Bw (RB e l s).1),int (RB e l s).2]):=by
 refine fo func101 rfl ⟨rfl,rfl⟩ fun M0 w0=>(Tr.C8 1 rfl fun Hz=>(Tr.C8 2 rfl fun Za=>(Tr.seq (Tr.An (tp rfl (BZ rfl (Va rfl)) ?_)))))
 refine Tl rfl rfl rfl rfl z29 G1 (fun b1=> ?_)
 refine ap ?_
 refine ac ?_
 refine co rfl (Ce (DA (hz.fits (by omega))) rfl rfl) ?_
 refine an ?_ ?_<;>intro h1 q1
 have hA:RB e l s=(E6,31):=if_pos (by have:=q1;cases h_:EY e<;>simp_all)
 refine ap ?_
 refine Tr.ret (Fin.AB (Fin.BD rfl (AP.cell 0 rfl rfl Cu Ct rfl (Lr)) (AP.tmp rfl (Lr)) ?_))
 refine Am ⟨?_,?_,trivial⟩
 · rw [hA];exact Ar ⟨AF 9,AF 2,AF 5,trivial⟩
 · exact int_eq (by rw [hA])
 have hok:EY e=true:=by have:=q1;cases h_:EY e<;>simp_all
 refine ac ?_
 refine an ?_ ?_<;>intro h2 q2
 have hA:RB e l s=(E6,3):=by unfold RB;rw [if_neg (by simp [hok]),if_pos (by have:=q2;omega)]
 refine ap ?_
 refine Tr.ret (Fin.AB (Fin.BD rfl (AP.cell 0 rfl rfl Cu Ct rfl (Lr)) (AP.tmp rfl (Lr)) ?_))
 refine Am ⟨?_,?_,trivial⟩
 · rw [hA];exact Ar ⟨AF 9,AF 2,AF 5,trivial⟩
 · exact int_eq (by rw [hA])
 have xu:l.length≤24:=by have:=q2;omega
 refine a2 ?_
 refine co rfl (CS (Nr (l:=s) (n:=((l.length:Nat):Int))) rfl rfl rfl) ?_
 refine ac ?_
 refine JV 1 2 3 6 25 rfl ?_
 refine Tr.cn rfl ?_ ?_<;>intro h3 q3
 have hA:RB e l s=(E6,46):=by unfold RB;rw [if_neg (by simp [hok]),if_neg (by omega),if_pos (by simpa using h3)]
 refine ap ?_
 refine Tr.ret (Fin.AB (Fin.BD rfl (AP.cell 0 rfl rfl Cu Ct rfl (Lr)) (AP.tmp rfl (Lr)) ?_))
 refine Am ⟨?_,?_,trivial⟩
 · rw [hA];exact Ar ⟨AF 9,AF 2,AF 5,trivial⟩
 · exact int_eq (by rw [hA])
 have hsb:FP l.length s=true:=by simpa using h3
 have hsn:=V4 hsb
 have hel:=hz.le
 refine ac ?_
 refine ap ?_
 refine TO.Yy rfl rfl (by decide) rfl (OO hz (by omega)) ⟨ke rfl,trivial⟩ (fun v1=> ?_)
 refine Tl rfl rfl rfl rfl z29 G1 (fun b2=> ?_)
 refine ap ?_
 refine Tr.seq (Tr.seq (Tr.Lv 0 1 0 rfl rfl (by decide) rfl (Lr) (Bu fun _=>rfl) ?_))
 refine ac ?_
 refine Tr.drop 1 (Tr.block (Tr.DG [(1,_),(6,_),(8,_),(29,_),(30,_)] ⟨ke rfl,ke rfl,ke rfl,ke rfl,ke rfl,trivial⟩ (fun (m:Nat) (BW:List Bk)=>[(31,int ((m:Nat):Int))]) (fun (m:Nat) (BW:List Bk)=>Hp M0 w0 Eo ([AE true b2 29 (Bw ⟨BW,e.A_,e.items⟩),AE true b1 29 (([.slice none 0 0,.slice none 0 0,.slice none 0 0]:List Value).map is)])) (fun (m:Nat) (BW:List Bk)=>m≤s.length∧(⟨BW,e.A_,e.items⟩:C0).sz (n+m)∧La l (s.drop m) BW=La l s e.BW) (fun (m:Nat) (BW:List Bk)=>s.length-m) (0) (e.BW)  (⟨Nat.zero_le _,hz,rfl⟩) ⟨ke rfl,trivial⟩ (fun _ _ h=>h) ?_))
 rintro m BW  ⟨hm1,iY,hm4⟩
 refine ac ?_
 refine Tr.seq ?_
 refine Tr.cn rfl ?_ ?_<;>intro h4 q4
 have mP:m<s.length:=by have:=D_.Ey h4;omega
 obtain ⟨i,Dq⟩:=at_ mP
 have him:=RC hsb Dq
 obtain ⟨c,Xw⟩:=at_ (l:=l) (k:=i.toNat) (by omega)
 have nq:=hc c (List.mem_of_getElem? Xw)
 have hst:=XO (BW:=BW) Dq Xw
 rw [hm4] at hst
 refine ac ?_
 refine Tr.seq (Tr.block (Tr.seq (Tr.AW (co rfl (AA rfl underlying101 Bh (vl rfl) (vl rfl) (by omega) (AO Dq)) ?_))))
 refine ac ?_
 refine Tr.seq (Tr.pad (Tr.rx ?_))
 refine ax ?_
 refine xo rfl (fun _=>AA rfl underlying30 DO (vl rfl) (vl rfl) (by omega) (BB (f:=EP) Xw)) (xo rfl (fun _=>AR rfl Hv DO (vl rfl) rfl rfl) ?_)
 refine xo rfl (fun _=>CS (XQ (e:=⟨BW,e.A_,e.items⟩) (c:=c) iY (by omega) nq) rfl rfl rfl) ?_
 refine ax ?_
 refine Cx.ef 0 rfl rfl (by decide) (CX rfl rfl (by decide) rfl z29 G1) (Cx.Dp 0 rfl rfl (DH rfl rfl rfl rfl (Va rfl) Ct rfl rfl) (xm rfl ?_))
 refine Cx.nil ⟨by kernel_rfl,?_⟩
 refine BQ.open_ 0 11 rfl rfl (fun v2=> ?_)
 refine BQ.done al3 (Fin.K5 11 0 _ rfl rfl (fun _=>rfl) (fun b3=> ?_))
 refine Fin.go (Jx 1 6 8 11 12 29 30 31 rfl ?_)
 refine an ?_ ?_<;>intro h5 q5
 obtain ⟨mA,h1_,h2_⟩:=gL (e:=⟨BW,e.A_,e.items⟩) (c:=c) (by have:=q5;omega)
 have mA:¬(JP BW c).2=0:=mA
 rw [if_neg mA] at hst
 have hA:RB e l s=(E6,(P3 ⟨BW,e.A_,e.items⟩ c).2):=by unfold RB;rw [if_neg (by simp [hok]),if_neg (by omega),if_neg (by simp [hsb]),hst,h1_];exact if_neg mA
 refine ap ?_
 refine Tr.drop 0 (Tr.ret (Fin.AB (Fin.AX (Fin.AB (Fin.AB (Fin.AX (Fin.AB (Fin.BD rfl (AP.cell 1 rfl rfl Cu Ct rfl (Lr)) (AP.tmp rfl (Lr)) ?_))))))))
 refine Am ⟨?_,?_,trivial⟩
 · rw [hA];exact Ar ⟨AF 9,AF 2,AF 5,trivial⟩
 · exact int_eq (by rw [hA])
 have hs0:(P3 ⟨BW,e.A_,e.items⟩ c).2=0:=by have:=q5;omega
 have hap:(JP BW c).2=0:=by by_cases h0:(JP BW c).2=0;exact h0;(exfalso;unfold P3 at hs0;rw [if_neg (show ¬(JP (⟨BW,e.A_,e.items⟩:C0).BW c).2=0 from h0)] at hs0;exact h0 hs0)
 refine ac ?_
 refine ap ?_
 refine Tr.drop 0 ?_
 refine ac ?_
 refine Fin.iN 0 (Bw ⟨(JP BW c).1,e.A_,e.items⟩) rfl (by rw [(UZ iY nq hs0).2];rfl) ?_
 exact Fin.DD (m+1) ((JP BW c).1)  (⟨⟨by omega,by have h_:=(UZ iY nq hs0).1;rw [(UZ iY nq hs0).2] at h_;rw [show n+(m+1)=n+m+1 by omega];exact h_,by rw [hst,if_pos hap]⟩,by omega⟩) ⟨⟨_,rfl,AD m⟩,ke rfl,ke rfl,ke rfl,ke rfl,ke rfl,trivial⟩ (fun _ _ h=>h)
 obtain rfl:m=s.length:=by have:=D_.Ey h4;omega
 rw [List.drop_length] at hm4
 have hA:RB e l s=(⟨BW,e.A_,e.items⟩,0):=by unfold RB;rw [if_neg (by simp [hok]),if_neg (by omega),if_neg (by simp [hsb]),←hm4];exact if_pos rfl
 refine ac ?_
 refine ap ?_
 refine Tr.ret (Fin.BD rfl (AP.cell 1 rfl rfl Cu Ct rfl (Lr)) (AP.tmp rfl (Lr)) ?_)
 refine Am ⟨?_,?_,trivial⟩
 · rw [hA];exact Lr
 · exact int_eq (by rw [hA])
theorem Ov {e:C0} {l:List BK} {i:Int} {n:Nat} (hz:e.sz n) (hn:n≤800000)  :Az prog 122 [agg (Bw e),slice 8 (l.map EP),int i] (EI [ints (Ho e l i).1,int (Ho e l i).2]):=by
 refine fo func122 rfl ⟨rfl,rfl⟩ fun M0 w0=>(Tr.C8 1 rfl fun Hz=> ?_)
 refine a2 ?_
 refine co rfl (Ce (DA (hz.fits (by omega))) rfl rfl) ?_
 refine an ?_ ?_<;>intro h1 q1
 have hA:Ho e l i=([],31):=if_pos (by have:=q1;cases h_:EY e<;>simp_all)
 refine ac ?_
 refine Tr.ret (Fin.AB (Fin.DN rfl (BE.CZ _ _) rfl ?_ rfl ?_))
 · rw [hA];exact AF 1
 · exact int_eq (by rw [hA])
 have hok:EY e=true:=by have:=q1;cases h_:EY e<;>simp_all
 refine ac ?_
 refine an ?_ ?_<;>intro h2 q2
 have hA:Ho e l i=([],3):=by unfold Ho;rw [if_neg (by simp [hok]),if_pos (by have:=q2;omega)]
 refine ac ?_
 refine Tr.ret (Fin.AB (Fin.DN rfl (BE.CZ _ _) rfl ?_ rfl ?_))
 · rw [hA];exact AF 1
 · exact int_eq (by rw [hA])
 have xu:l.length≤24:=by have:=q2;omega
 refine ac ?_
 refine ag ?_ ?_<;>intro h3 q3
 refine ac ?_
 refine D7 1 2 3 25 rfl ?_
 refine ac ?_
 refine Tr.ret (Fin.AB (Fin.DN rfl (BE.CZ _ _) rfl ?_ rfl ?_))
 · rw [(show Ho e l i=([],4) by unfold Ho;rw [if_neg (by simp [hok]),if_neg (by omega),if_pos (by omega)])];exact AF 1
 · exact int_eq (by rw [(show Ho e l i=([],4) by unfold Ho;rw [if_neg (by simp [hok]),if_neg (by omega),if_pos (by omega)])])
 refine ac ?_
 refine D7 1 2 3 25 rfl ?_
 refine Tr.cn rfl ?_ ?_<;>intro h4 q4
 refine ac ?_
 refine Tr.ret (Fin.AB (Fin.DN rfl (BE.CZ _ _) rfl ?_ rfl ?_))
 · rw [(show Ho e l i=([],4) by unfold Ho;rw [if_neg (by simp [hok]),if_neg (by omega),if_pos (by omega)])];exact AF 1
 · exact int_eq (by rw [(show Ho e l i=([],4) by unfold Ho;rw [if_neg (by simp [hok]),if_neg (by omega),if_pos (by omega)])])
 obtain ⟨g,hg⟩:=at_ (l:=e.A_) (k:=i.toNat) (by omega)
 have hA:Ho e l i=(Lb g l l.length,0):=by unfold Ho;rw [if_neg (by simp [hok]),if_neg (by omega),if_neg (by omega),getD_at hg]
 refine a3 ?_
 refine Tr.block (Tr.Bs 3 1 (Tr.EN [(2,_),(3,_),(26,_),(27,_)] ⟨ke rfl,ke rfl,ke rfl,ke rfl,trivial⟩ (fun k v=>[(28,int ((k:Nat):Int)),(8,Ag v (ints (Lb g l k)))]) (fun k v=>Hp M0 w0 Eo ([Ap 3 1 v])) (fun k:Nat=>k≤(l).length) (fun k:Nat=>(l).length-k) 0 (.slice none 0 0) (Nat.zero_le _) ⟨ke rfl,⟨_,rfl,BX rfl⟩,trivial⟩ (fun _ _ h=>h) ?_))
 rintro k v BN
 refine ac ?_
 refine Tr.seq ?_
 refine Tr.cn rfl ?_ ?_<;>intro h5 q5
 have Af:k<(l).length:=AH h5
 obtain ⟨c,Ad⟩:=at_ Af
 have hrl:=Sk g l k
 refine ac ?_
 refine ao ?_
 refine tp rfl (AA rfl underlying30 DO (vl rfl) (vl rfl) (by omega) (AO Ad)) (tp rfl (AR rfl Hv DO (vl rfl) rfl rfl) ?_)
 refine Tl rfl rfl rfl rfl z87 KH (fun b1=> ?_)
 refine tm rfl ?_
 refine sf 0 10 ⟨rfl,rfl,rfl⟩ rfl rfl rfl rfl ?_
 refine ao ?_
 refine Jx 2 3 8 9 10 26 27 28 rfl ?_
 refine ac ?_
 refine co rfl (AA rfl underlying26 F_ (vl rfl) (vl rfl) (by omega) (BB (f:=ku) hg)) ?_
 refine ag ?_ ?_<;>intro h6 q6
 have hP:RD g l k=true:=by unfold RD;rw [Ad];simp;omega
 refine ac ?_
 refine Jx 2 3 8 9 26 27 28 52 rfl (Tr.cond rfl (fun _=> ?_) (fun h=>nomatch h))
 refine Tr.An (tm rfl (tm rfl (tp rfl (AL (xs:=[.tmp 54]) (rows:=[[_]]) rfl rfl underlying101 Bh z3 rfl (by decide) ⟨⟨(by exact rfl),(Vo rfl)⟩,trivial⟩ (by decide)) ?_)))
 refine TO.DP 0 rfl rfl (by decide) (Bl rfl rfl rfl rfl underlying101 Bh Iu z3 (Kb rfl) (Kf rfl) (Aq (by exact List.Mem.head _) (Ka rfl))) (fun v1=> ?_)
 refine ao ?_
 refine ac ?_
 exact Fin.DC (k+1) v1 (⟨Af,by omega⟩) ⟨⟨_,rfl,AD k⟩,⟨_,rfl,Au (by rw [Sj hP,List.map_append];rfl)⟩,ke rfl,ke rfl,ke rfl,ke rfl,trivial⟩ (fun _ _ h=>h)
 refine ac ?_
 refine cy h6 rfl (AA rfl underlying26 F_ (vl rfl) (vl rfl) (by omega) (BB (f:=ku) hg)) ?_
 refine ac ?_
 refine Jx 2 3 8 9 26 27 28 52 rfl ?_
 refine Tr.cn rfl ?_ ?_<;>intro h7 q7
 have hP:RD g l k=true:=by unfold RD;rw [Ad];simp;omega
 refine ao ?_
 refine TO.DP 0 rfl rfl (by decide) (Bl rfl rfl rfl rfl underlying101 Bh Iu z3 (Kb rfl) (Kf rfl) (Aq (by exact List.Mem.head _) (Ka rfl))) (fun v2=> ?_)
 refine ao ?_
 refine ac ?_
 exact Fin.DC (k+1) v2 (⟨Af,by omega⟩) ⟨⟨_,rfl,AD k⟩,⟨_,rfl,Au (by rw [Sj hP,List.map_append];rfl)⟩,ke rfl,ke rfl,ke rfl,ke rfl,trivial⟩ (fun _ _ h=>h)
 have hP:RD g l k=false:=by unfold RD;rw [Ad];simp;omega
 refine a2 ?_
 exact Fin.DC (k+1) v (⟨Af,by omega⟩) ⟨⟨_,rfl,AD k⟩,⟨_,rfl,Pr.le_of_eq (by rw [gJ hP])⟩,ke rfl,ke rfl,ke rfl,ke rfl,trivial⟩ (fun _ _ h=>h)
 have BI:k=(l).length:=by have:=AJ h5;omega
 subst BI
 refine a2 ?_
 refine Tr.ret (Fin.DN rfl (BE.CZ _ _) rfl ?_ rfl ?_)
 · rw [hA];exact Ah _ _
 · exact int_eq (by rw [hA])
open Classical in
section
variable {e:C0} {c:A9} {l:List BK} {r:List BS} {d:List Int}
end
structure Gq (n:Nat) (r:List BS):Prop where
 up:∀q∈r,(0≤q.fst∧q.fst<q.thn)∧q.thn<n
 srt:DE r=true
theorem Gq.nil (n:Nat):Gq n []:=⟨(fun q h=>by cases h),rfl⟩
theorem Lc (r:List BS) (q:BS):N6 r [q]=E7 (r.foldl E7 []) q:=rfl
theorem Gq.put {n:Nat} {r:List BS} (h:Gq n r) {x y:Int} (h0:0≤x) (h1:x<y) (h2:y<n):Gq n (N6 r [⟨x,y⟩]):=by
 refine ⟨fun q hq=> ?_,?_⟩
 ·
  rw [Lc,SM,Ol] at hq
  rcases hq with rfl|hq|hq
  · exact ⟨⟨h0,h1⟩,h2⟩
  · cases hq
  · exact h.up q hq
 · rw [Lc];exact L5 (LQ r rfl)
theorem Ua (r:List BS) (q:BS):(N6 r [q]).length≤r.length+1:=by
 rw [Lc]
 have h1:=N4 (r.foldl E7 []) q
 have h2:=FD r []
 simp at h2;omega
theorem Gq.valid {n:Nat} {r:List BS} (h:Gq n r) (hn:n≤24):Bf n r=0:=Z9 hn h.up h.srt
theorem gM {b:Nat} {s:DS} {n:Nat} (hn:n≤24):C2 prog 14 [ptr b 0,int ((n:Nat):Int)] (Cp.ex fun r:List BS=>fact (Gq n r∧r.length≤2*n) (reqs r)) (Cv b s) (fun _=>HP 61 b):=by
 refine C2.of func14 rfl rfl (by exact Nb rfl) fun M0 w0 S rs M1 w1=> ?_
 have gl:=s.Cf (n:=2*(n:Int)+1) (by omega)
 refine Tr.seq (Tr.AW (cm rfl (Ch.nil (Fin.go (Tr.seq (Tr.AW (cm rfl (Ch.nil (Fin.go (Tr.seq (Tr.seq (Tr.An (tm rfl ?_)))))))))))))
 refine tm rfl ?_
 refine tp rfl (X7 rfl (vl rfl) (vl rfl) ?hin) ?_;case hin=>unfold K1;omega
 refine tp rfl (Ge rfl (vl rfl) (vl rfl) ?hin) ?_;case hin=>unfold K1;omega
 refine TO.Jv 0 rfl rfl (by decide) (Aw rfl rfl (by decide) rfl (CC (by omega) (by omega)) ⟨ke rfl,ke rfl,trivial⟩) (tm rfl (TO.nil (Fin.go (Tr.block ?_))))
 refine Tr.NI [(0,_),(1,_)] ⟨ke rfl,ke rfl,trivial⟩ (fun (r:List BS) (k:Int) (s2:DS)=>[(6,int k),(5,reqs r)]) (fun (r:List BS) (k:Int) (s2:DS)=>Hp M0 w0 S (Cv b s2::At M1 w1::rs)) (fun (r:List BS) (k:Int) (s2:DS)=>0≤k∧Gq n r∧(r.length:Int)+k≤2*n) (fun (r:List BS) (k:Int) (s2:DS)=>k.toNat) ([]) (s.val (2*(n:Int)+1)) (_)  (⟨by omega,Gq.nil n,by simp;omega⟩) ⟨ke rfl,⟨_,rfl,AF 2⟩,trivial⟩ (fun _ _ h=>h) ?_
 rintro r k s2  ⟨hk0,hN,hrl⟩
 refine Tr.seq (Tr.seq (Tr.AW (cm rfl (co rfl (ki rfl rfl rfl rfl) (cm rfl ?_)))))
 refine Ch.cs 16 rfl ?_ ?_<;>intro h1 q1
 have hkp:k>0:=by simpa using h1
 refine FZ h1 rfl (cy h1 rfl (ki rfl rfl rfl rfl) (co rfl (HK rfl rfl h1 rfl) (Ch.nil (Fin.go ?_))))
 refine Tr.cn rfl ?_ ?_<;>intro h2 q2
 have hn1:((n:Nat):Int)>1:=by simpa using h2
 have Xs:=s2.Cf (n:=(n:Int)) (by omega)
 have Uy:=s2.CE.Cf (n:=(n:Int)) (by omega)
 refine Tr.skip (Fin.go (Tr.seq (Tr.block (Tr.seq (Tr.An (tm rfl (tm rfl (TO.Jv 0 rfl rfl (by decide) (Aw rfl rfl (by decide) rfl (CC (by omega) (by omega)) ⟨ke rfl,ke rfl,trivial⟩) (tm rfl (tm rfl (TO.Jv 0 rfl rfl (by decide) (Aw rfl rfl (by decide) rfl (CC (by omega) (by omega)) ⟨ke rfl,ke rfl,trivial⟩) (tm rfl (tm rfl ?_)))))))))))))
 refine TO.nil (Fin.go (Jw 0 1 5 6 7 8 rfl (Tr.seq (Tr.AW (cm rfl (cm rfl (co rfl (ki rfl rfl rfl rfl) (Ch.nil (Fin.go ?_)))))))))
 refine Tr.cn rfl ?_ ?_<;>intro h3 q3
 refine Tr.AW (cm rfl (cm rfl (cm rfl (co rfl (Ai (rows:=[(0,[_]),(1,[_])]) rfl Yc JF ⟨⟨rfl,(Vo rfl)⟩,⟨⟨rfl,(Vo rfl)⟩,trivial⟩⟩ rfl) (co rfl (AL (xs:=[.tmp 34]) (rows:=[_]) rfl rfl underlying31 Bt z109 rfl (by decide) ⟨⟨(by exact rfl),(Va rfl)⟩,trivial⟩ (by decide)) ?_)))))
 refine co rfl (AQ rfl (UE (a:=r) (b:=[⟨s2.val n,s2.CE.val n⟩]) (by omega) (by simp)) ⟨ke rfl,(Kf rfl),trivial⟩) ?_
 refine cm rfl (Ch.nil (Fin.block (Fin.go (D7 0 1 5 6 rfl (Tr.AW (cm rfl (gq rfl rfl rfl rfl (by omega) (cm rfl (Ch.nil ?_)))))))))
 exact Fin.E_ (N6 r [⟨s2.val n,s2.CE.val n⟩]) (k-1) (_)  (⟨⟨by omega,hN.put (by omega) (by simpa using h3) (by omega),by have:=Ua r ⟨s2.val n,s2.CE.val n⟩;omega⟩,by omega⟩) ⟨ke rfl,ke rfl,ke rfl,ke rfl,trivial⟩ (fun _ _ h=>h)
 refine Tr.skip (Fin.block (Fin.go (Tr.AW (cm rfl (gq rfl rfl rfl rfl (by omega) (cm rfl (Ch.nil (Fin.E_ (r) (k-1) (_)  (⟨⟨by omega,hN,by omega⟩,by omega⟩) ⟨ke rfl,ke rfl,ke rfl,ke rfl,trivial⟩ (fun _ _ h=>h)))))))))
 have:=h2
 refine Tr.exit (Fin.AS (Fin.AS (Fin.Ak (Fin.go (Tr.seq (Tr.AW (cm rfl (cm rfl (Ch.nil (Fin.go (Tr.ret (Fin.Fv 0 _ rfl rfl (Fin.Fx [] rfl (AP.tmp rfl (Lr)) ?_ (fun _ _ _ _=>rfl))))))))))))))
 · exact AG r (AU ⟨hN,by omega⟩ (Lr))
 refine cnt h1 rfl (cnt h1 rfl (co rfl (HM rfl rfl h1 rfl) (Ch.nil (Fin.go (Tr.cond rfl (fun h=>nomatch h) (fun _=> ?_))))))
 refine Tr.exit (Fin.AS (Fin.AS (Fin.Ak (Fin.go (Tr.seq (Tr.AW (cm rfl (cm rfl (Ch.nil (Fin.go (Tr.ret (Fin.Fv 0 _ rfl rfl (Fin.Fx [] rfl (AP.tmp rfl (Lr)) ?_ (fun _ _ _ _=>rfl))))))))))))))
 · exact AG r (AU ⟨hN,by omega⟩ (Lr))
def Kr (e:Bk) (c:BK):Int:=
 if c.kind=7∨c.kind=9 then 0 else if c.kind=5 then 1 else if c.kind=1∨c.kind=12 then 2
 else if c.kind=3 then (if c.number>e.most then 2 else 3) else if c.kind=4 then (if c.number<e.least then 2 else 3) else if c.kind=11 then (if c.number=1 then 2 else 3) else 3
def OQ (a b:Int) (x:HE):Bool:=(decide (x.client=a)&&decide (x.server=b))||(decide (x.client=b)&&decide (x.server=a))
def MB (l:List HE) (a b:Int):Bool:=decide (a=b)||l.any (OQ a b)
theorem bE {l:List HE} {a b:Int} {k:Nat} {x:HE} (hx:l[k]? =some x) (h:OQ a b x=true):MB l a b=true:=by unfold MB;rw [List.any_eq_true.2 ⟨x,List.mem_of_getElem? hx,h⟩,Bool.or_true]
theorem gN {l:List HE} {a b:Int} (h0:a≠b) (h:∀j y,j<l.length→l[j]? =some y→OQ a b y=false):MB l a b=false:=by
 unfold MB
 rw [Bool.or_eq_false_iff,decide_eq_false_iff_not,List.any_eq_false]
 refine ⟨h0,fun y hy=> ?_⟩
 obtain ⟨j,hj⟩:=List.mem_iff_getElem?.1 hy
 rw [h j y (A0 hj) hj];decide
def Sl (l:List BK) (i:Nat):BK:=l[i]?.getD GZ
def Ub (e:C0) (c:BK):Int:=Kr (e.BW[c.AV.toNat]?.getD DV) c
def bF (e:C0) (l:List BK) (i k:Nat):Bool:=MB e.A_ (Sl l i).AV (Sl l k).AV&&decide (Ub e (Sl l i)<Ub e (Sl l k))
def MT (e:C0) (l:List BK) (i n:Nat):List BS:=((List.range n).filter (bF e l i)).map fun k:Nat=>⟨(i:Int),(k:Int)⟩
def Sm (e:C0) (l:List BK) (m:Nat):List BS:=(List.range m).flatMap fun i=>MT e l i l.length
def gO (e:C0) (l:List BK):List BS:=Sm e l l.length
theorem Sn (e:C0) (l:List BK) (i n:Nat):(MT e l i n).length≤n:=by unfold MT;rw [List.length_map];exact Nat.le_trans (List.length_filter_le _ _) (by rw [List.length_range];exact Nat.le_refl _)
theorem P4 (e:C0) (l:List BK) (m:Nat):Sm e l (m+1)=Sm e l m++MT e l m l.length:=by unfold Sm;rw [List.range_succ,List.flatMap_append];simp
theorem OR (e:C0) (l:List BK):∀m,(Sm e l m).length≤m*l.length
 |0=>by simp [Sm]
 |m+1=>by have h1:=OR e l m;have h2:=Sn e l m l.length;rw [P4,List.length_append,Nat.succ_mul];omega
theorem bG {e:C0} {l:List BK} {i k:Nat} (h:bF e l i k=true):MT e l i (k+1)=MT e l i k++[⟨(i:Int),(k:Int)⟩]:=by unfold MT;rw [List.range_succ,List.filter_append,List.map_append];simp [h]
theorem V5 {e:C0} {l:List BK} {i k:Nat} (h:bF e l i k=false):MT e l i (k+1)=MT e l i k:=by unfold MT;rw [List.range_succ,List.filter_append,List.map_append];simp [h]
theorem P5 {e:Bk} {c:BK}  :Az prog 47 [agg (BP e),agg (EP c)] (int (Kr e c)):=by
 refine fo func47 rfl ⟨rfl,rfl⟩ fun M0 w0=> ?_
 refine a2 ?_
 refine an ?_ ?_<;>intro h1 q1
 refine ac ?_
 refine Tr.cond rfl (fun _=> ?_) (fun h=>nomatch h1.symm.trans h)
 refine a2 ?_
 · refine int_eq ?_;unfold Kr;(repeat' split)<;>omega
 refine an ?_ ?_<;>intro h2 q2
 refine a2 ?_
 · refine int_eq ?_;unfold Kr;(repeat' split)<;>omega
 refine an ?_ ?_<;>intro h3 q3
 refine a2 ?_
 · refine int_eq ?_;unfold Kr;(repeat' split)<;>omega
 refine an ?_ ?_<;>intro h4 q4
 refine ac ?_
 refine Tr.cond rfl (fun _=> ?_) (fun h=>nomatch h4.symm.trans h)
 refine ac ?_
 refine Eh 4 rfl ?_
 refine ac ?_
 · refine int_eq ?_;unfold Kr;(repeat' split)<;>omega
 · repeat' first|(refine int_eq ?_;unfold Kr;(repeat' split)<;>omega)|refine ac ?_|(refine Tr.cn rfl ?_ ?_<;>intro h q)
theorem So {e:C0} {a b:Int}  :Az prog 46 [agg (Bw e),int a,int b] (bool (MB e.A_ a b)):=by
 refine fo func46 rfl ⟨rfl,rfl⟩ fun M0 w0=>(Tr.Gg 0 1 rfl rfl fun I5=> ?_)
 refine ac ?_
 refine an ?_ ?_<;>intro h1 q1
 refine a2 ?_
 · refine bool_eq ?_;symm;unfold MB;rw [decide_eq_true (by assumption),Bool.true_or]
 refine a2 ?_
 refine Tr.block (Tr.A7 [(1,_),(2,_),(13,_),(14,_)] (TN rfl) (fun k:Nat=>[(15,int ((k:Nat):Int))]) (fun k:Nat=>k≤(e.A_).length∧(∀j y,j<k→e.A_[j]? =some y→OQ a b y=false)) (fun k:Nat=>(e.A_).length-k) 0 (⟨Nat.zero_le _,fun j y hj=>absurd hj (by omega)⟩) ⟨ke rfl,trivial⟩ ?_)
 rintro k ⟨BN,Ab⟩
 refine ac ?_
 refine Tr.seq ?_
 refine Tr.cn rfl ?_ ?_<;>intro h2 q2
 have Af:k<(e.A_).length:=AH h2
 obtain ⟨x,Ad⟩:=at_ Af
 refine ac ?_
 refine Tr.seq (Tr.block (Tr.seq (Tr.An (tp rfl (AA rfl underlying26 F_ (vl rfl) (vl rfl) (by omega) (AO Ad)) (tp rfl (AR rfl Rl F_ (vl rfl) rfl rfl) ?_)))))
 refine Tl rfl rfl rfl rfl jw Ya (fun b1=> ?_)
 refine sf 0 8 ⟨rfl,rfl,rfl⟩ rfl rfl rfl rfl ?_
 refine ao ?_
 · repeat' first|(refine bool_eq ?_;symm;exact bE Ad (by unfold OQ;simp_all))|(exact Fin.AM (k+1) ⟨⟨Af,EM (p:=OQ a b) Ad (by unfold OQ;simp_all) Ab⟩,by omega⟩ ⟨⟨_,rfl,AD k⟩,ke rfl,ke rfl,ke rfl,ke rfl,trivial⟩)|refine ac ?_|(refine Tr.cn rfl ?_ ?_<;>intro h q)|(refine Ch.cg rfl rfl rfl ?_ ?_<;>intro h q)
 have BI:k=(e.A_).length:=by have:=AJ h2;omega
 subst BI
 refine a3 ?_
 · refine bool_eq ?_;symm;exact gN (by assumption) Ab
theorem Sq {e:C0} {l:List BK} (hf:e.fits) (he:EY e=true) (PW:l.length≤24) (hr:∀c∈l,0≤c.AV∧c.AV<(e.BW.length:Nat)):Az prog 32 [agg (Bw e),ER l] (EI [reqs (gO e l),int 0]):=by
 refine fo func32 rfl ⟨rfl,rfl⟩ fun M0 w0=>(Tr.Gg 0 0 rfl rfl fun I4=> ?_)
 refine a2 ?_
 refine co rfl (Ce (DA hf) rfl rfl) ?_
 refine an ?_ ?_<;>intro h1 q1
 exact absurd h1 (by rw [if_pos he];decide)
 refine ac ?_
 refine an ?_ ?_<;>intro h2 q2
 exfalso;have:=q2;omega
 refine a2 ?_
 refine Tr.block (Tr.A7 [(1,_),(2,_),(19,_),(20,_)] (TN rfl) (fun m:Nat=>[(21,int ((m:Nat):Int))]) (fun m:Nat=>m≤(l).length) (fun m:Nat=>(l).length-m) 0 (Nat.zero_le _) ⟨ke rfl,trivial⟩ ?_)
 rintro m Kc
 refine ac ?_
 refine Tr.seq ?_
 refine Tr.cn rfl ?_ ?_<;>intro h3 q3
 have Dg:m<(l).length:=AH h3
 obtain ⟨x,Dq⟩:=at_ Dg
 have lN:=hr x (List.mem_of_getElem? Dq)
 refine ac ?_
 refine Tr.seq (Tr.block (Tr.seq (Tr.An (tp rfl (AA rfl underlying30 DO (vl rfl) (vl rfl) (by omega) (AO Dq)) (tp rfl (AR rfl Hv DO (vl rfl) rfl rfl) ?_)))))
 refine Tl rfl rfl rfl rfl z87 KH (fun b1=> ?_)
 refine sf 0 7 ⟨rfl,rfl,rfl⟩ rfl rfl rfl rfl ?_
 refine ao ?_
 · repeat' first|(exfalso;have:=hr x (List.mem_of_getElem? Dq);omega)|exact Fin.AM (m+1) ⟨Dg,by omega⟩ ⟨⟨_,rfl,AD m⟩,ke rfl,ke rfl,ke rfl,ke rfl,trivial⟩|refine ac ?_|(refine Tr.cn rfl ?_ ?_<;>intro h q)|(refine Ch.cg rfl rfl rfl ?_ ?_<;>intro h q)
 have IY:m=(l).length:=by have:=AJ h3;omega
 refine a3 ?_
 refine Tr.block (Tr.Bs 109 2 (Tr.EN [(1,_),(2,_),(37,_),(38,_)] ⟨ke rfl,ke rfl,ke rfl,ke rfl,trivial⟩ (fun i v=>[(39,int ((i:Nat):Int)),(8,Ag v (reqs (Sm e l i)))]) (fun i v=>Hp M0 w0 Eo ([Ap 109 2 v])) (fun i:Nat=>i≤(l).length) (fun i:Nat=>(l).length-i) 0 (.slice none 0 0) (Nat.zero_le _) ⟨ke rfl,⟨_,rfl,BX rfl⟩,trivial⟩ (fun _ _ h=>h) ?_))
 rintro i v Zb
 refine ac ?_
 refine Tr.seq ?_
 refine Tr.cn rfl ?_ ?_<;>intro h6 q6
 have LK:i<(l).length:=AH h6
 obtain ⟨x,MO⟩:=at_ LK
 have hri:=hr x (List.mem_of_getElem? MO)
 obtain ⟨ex,hex⟩:=at_ (l:=e.BW) (k:=x.AV.toNat) (by omega)
 have iM:=OR e l i
 have nU:i*l.length≤24*24:=Nat.mul_le_mul (by omega) PW
 refine ac ?_
 refine ao ?_
 refine tp rfl (AA rfl underlying30 DO (vl rfl) (vl rfl) (by omega) (AO MO)) (tp rfl (AR rfl Hv DO (vl rfl) rfl rfl) ?_)
 refine Tl rfl rfl rfl rfl z87 KH (fun b2=> ?_)
 refine tm rfl ?_
 refine sf 0 10 ⟨rfl,rfl,rfl⟩ rfl rfl rfl rfl ?_
 refine ao ?_
 refine Jx 1 2 8 9 10 37 38 39 rfl ?_
 refine ac ?_
 refine Tr.block (Tr.EN [(1,_),(2,_),(9,_),(10,_),(37,_),(38,_),(39,_),(44,_),(45,_)] ⟨ke rfl,ke rfl,ke rfl,ke rfl,ke rfl,ke rfl,ke rfl,ke rfl,ke rfl,trivial⟩ (fun k v=>[(46,int ((k:Nat):Int)),(8,Ag v (reqs (Sm e l i++MT e l i k)))]) (fun k v=>Hp M0 w0 Eo ([Ap 109 2 v])) (fun k:Nat=>k≤(l).length) (fun k:Nat=>(l).length-k) 0 v (Nat.zero_le _) ⟨ke rfl,⟨_,rfl,Au (by simp [MT])⟩,trivial⟩ (fun _ _ h=>h) ?_)
 rintro k v BN
 refine ac ?_
 refine Tr.seq ?_
 refine Tr.cn rfl ?_ ?_<;>intro h7 q7
 have Af:k<(l).length:=AH h7
 obtain ⟨y,Ad⟩:=at_ Af
 have hrk:=hr y (List.mem_of_getElem? Ad)
 obtain ⟨ey,hey⟩:=at_ (l:=e.BW) (k:=y.AV.toNat) (by omega)
 have VS:=Sn e l i k
 have hB:bF e l i k=(MB e.A_ x.AV y.AV&&decide (Kr ex x<Kr ey y)):=by unfold bF Ub Sl;rw [MO,Ad,Option.getD_some,Option.getD_some,hex,hey];rfl
 refine ac ?_
 refine ao ?_
 refine tp rfl (AA rfl underlying30 DO (vl rfl) (vl rfl) (by omega) (AO Ad)) (tp rfl (AR rfl Hv DO (vl rfl) rfl rfl) ?_)
 refine Tl rfl rfl rfl rfl z87 KH (fun b3=> ?_)
 refine tm rfl ?_
 refine sf 0 12 ⟨rfl,rfl,rfl⟩ rfl rfl rfl rfl ?_
 refine ao ?_
 refine J_ 1 2 8 9 10 11 12 37 38 39 44 45 46 rfl ?_
 refine ac ?_
 refine co rfl (JH (So (e:=e) (a:=x.AV) (b:=y.AV)) rfl rfl rfl rfl) ?_
 refine cm rfl ?_
 refine Ch.cs 57 rfl ?_ ?_<;>intro h8 q8
 refine ac ?_
 refine cy h8 rfl (AA rfl underlying25 B5 (vl rfl) (vl rfl) (by omega) (BB hex)) ?_
 refine ac ?_
 refine cy h8 rfl (CS (P5 (e:=ex) (c:=x)) rfl rfl rfl) ?_
 refine ac ?_
 refine cy h8 rfl (AA rfl underlying25 B5 (vl rfl) (vl rfl) (by omega) (BB hey)) ?_
 refine ac ?_
 refine cy h8 rfl (CS (P5 (e:=ey) (c:=y)) rfl rfl rfl) ?_
 refine ac ?_
 refine J_ 1 2 8 9 10 11 37 38 39 44 45 46 75 rfl ?_
 refine Tr.cn rfl ?_ ?_<;>intro h9 q9
 refine ao ?_
 refine TO.DP 0 rfl rfl (by decide) (Bl rfl rfl rfl rfl underlying31 Bt KI z109 (Kb rfl) (Kf rfl) (Aq (by exact List.Mem.head _) (Ka rfl))) (fun v1=> ?_)
 refine ao ?_
 refine EO 1 2 8 9 10 37 38 39 44 45 46 rfl ?_
 refine ac ?_
 exact Fin.DC (k+1) v1 (⟨Af,by omega⟩) ⟨⟨_,rfl,AD k⟩,⟨_,rfl,Au (by rw [bG (by rw [hB,h8,h9];rfl),←List.append_assoc];simp;rfl)⟩,ke rfl,ke rfl,ke rfl,ke rfl,ke rfl,ke rfl,ke rfl,ke rfl,ke rfl,trivial⟩ (fun _ _ h=>h)
 refine a2 ?_
 exact Fin.DC (k+1) v (⟨Af,by omega⟩) ⟨⟨_,rfl,AD k⟩,⟨_,rfl,Au (by rw [V5 (by rw [hB,h8,h9];rfl)])⟩,ke rfl,ke rfl,ke rfl,ke rfl,ke rfl,ke rfl,ke rfl,ke rfl,ke rfl,trivial⟩ (fun _ _ h=>h)
 refine ac ?_
 refine J_ 1 2 8 9 10 11 37 38 39 44 45 46 75 rfl ?_
 refine a2 ?_
 exact Fin.DC (k+1) v (⟨Af,by omega⟩) ⟨⟨_,rfl,AD k⟩,⟨_,rfl,Au (by rw [V5 (by rw [hB,h8];rfl)])⟩,ke rfl,ke rfl,ke rfl,ke rfl,ke rfl,ke rfl,ke rfl,ke rfl,ke rfl,trivial⟩ (fun _ _ h=>h)
 have BI:k=(l).length:=by have:=AJ h7;omega
 subst BI
 refine a2 ?_
 exact Fin.DC (i+1) v (⟨LK,by omega⟩) ⟨⟨_,rfl,AD i⟩,⟨_,rfl,Au (by rw [P4])⟩,ke rfl,ke rfl,ke rfl,ke rfl,trivial⟩ (fun _ _ h=>h)
 have T0:i=(l).length:=by have:=AJ h6;omega
 subst T0
 refine a2 ?_
 refine Tr.ret (Fin.DN rfl (BE.CZ _ _) rfl ?_ rfl ?_)
 · exact Ah _ _
 · exact Lr
def jC (n:Nat):A9:=⟨[⟨0,300,[0]⟩],List.replicate n 0,[24]⟩
theorem mB {n:Nat} (hn:n≤1000):Az prog 13 [int ((n:Nat):Int)] (Jj (jC n)):=by
 refine fo func13 rfl ⟨rfl,rfl⟩ fun M0 w0=>(Tr.seq (Tr.An ?_))
 refine Tl rfl rfl rfl rfl z50 o_ (fun b1=> ?_)
 refine ap ?_
 refine ap ?_
 refine tp rfl (Ai (rows:=[(0,_),(1,[_])]) rfl pN NM ⟨⟨rfl,(Va rfl)⟩,⟨⟨rfl,⟨_,rfl,Pr.le_trans (Bp _ _) (Aj _)⟩⟩,trivial⟩⟩ rfl) ?_
 refine ap ?_
 refine tp rfl (N9 (m:=n) rfl underlying22 Bh Iu z3 rfl (by decide) (by decide) (vl rfl) (vl rfl) (by unfold maxLen;omega) (by omega)) ?_
 refine tp rfl (oI) ?_
 refine tp rfl (Ai (rows:=[(0,[_]),(1,[_]),(2,[_])]) rfl vH o_ ⟨⟨rfl,⟨_,rfl,Pr.le_trans (Bp _ _) (Aj _)⟩⟩,⟨⟨rfl,⟨_,rfl,Pr.le_trans (Pr.le_trans (Bp _ _) (Pr.le_of_eq (show _=slice 1 ((List.replicate n (0:Int)).map fun n=>[int n]) by rw [List.map_replicate];rfl))) (Aj _)⟩⟩,⟨⟨rfl,⟨_,rfl,Pr.le_trans (Bp _ _) (Aj _)⟩⟩,trivial⟩⟩⟩ rfl) ?_
 refine ap ?_
 refine Tr.ret (Fin.CJ rfl (AP.cell 0 rfl rfl Ls Ri rfl (Lr)) ?_)
 · exact Lr
theorem Uc {l:List BK} {r:List BS} {d:List Int} (J5:∀x∈l,x.Ck.small) (hl:l.length≤1000000) (hr:r.length≤1000000) (hd:d.length≤1000000):Tg prog 69 [agg [ER l,reqs r,ints d]] (fun x=>agg [ER l,reqs r,is x]) (fun x=>[CN 3 1 (d.map fun n=>[int n]) x]):=by
 refine Tg.of func69 rfl rfl (by exact Nb rfl) fun M0 w0 S rs M1 w1=>(Tr.Gg 0 0 rfl rfl fun I4=>(Tr.seq (Tr.An (tp rfl (BZ rfl (Va rfl)) ?_))))
 refine Tl rfl rfl rfl rfl z33 Ej (fun b1=> ?_)
 refine ao ?_
 refine Tr.seq (Tr.pad (Tr.pad (Tr.pad (Tr.rx ?_))))
 refine ax ?_
 refine xo rfl (fun _=>HW rfl underlying31 Bt KI z109 rfl (by decide) (vl rfl) (by rw [List.length_map];unfold maxLen;omega) (by rw [List.length_map];omega)) ?_
 refine ax ?_
 refine Cx.ef 0 rfl rfl (by decide) (UJ rfl rfl (by decide) rfl underlying22 Bh Iu z3 rfl (by decide) (by decide) ⟨_,rfl,Dt 1⟩ (vl rfl) (by rw [List.length_map];unfold maxLen;omega) (by rw [List.length_map];omega)) ?_
 refine Cx.ef 1 rfl rfl (by decide) (fQ (d:=12) (s:=11) (p:=fun v=>agg [is (.slice none 0 0),reqs r,Ag v (lens (d.map fun n=>[int n]).length)]) (q:=agg [is (.slice none 0 0),reqs r,lens (d.map fun n=>[int n]).length]) rfl (by decide) (fun _=>Ar ⟨Lr,Lr,Ah _ _,trivial⟩) rfl rfl (by decide) (fun v=>lW rfl rfl (by decide) (fun _=>Ai (rows:=[(1,[_]),(2,[_])]) rfl K_ Ej ⟨⟨rfl,VL.le (vl rfl) (Aj _)⟩,⟨⟨rfl,VL.le (vl rfl) (Aj _)⟩,trivial⟩⟩ rfl))) (Cx.ef 2 rfl rfl (by decide) (CX rfl rfl (by decide) rfl z33 Ej) (Cx.Dp 2 rfl rfl (W0 rfl rfl rfl (by decide) rfl rfl (Aa _) B2 rfl rfl) ?_))
 refine Cx.nil ⟨by kernel_rfl,?_⟩
 refine BQ.pin 11 rfl (fun v11=> ?_)
 refine BQ.pin 12 rfl (fun v12=> ?_)
 refine BQ.pin 3 rfl (fun v3=> ?_)
 refine BQ.xS 0 11 rfl rfl (BQ.sN 1 12 11 rfl rfl rfl (BQ.sN 2 3 12 rfl rfl rfl (BQ.done al5 (Fin.shape 3 (fun b=> .pointer (some ⟨b,0,none⟩)) rfl (fun b9 e9=> ?_)))))
 subst e9
 refine Fin.aL 1 2 rfl rfl (Fin.drop 1 (Fin.go (CR 1 2 3 rfl ?_)))
 refine ac ?_
 refine Tr.block (Tr.IC 1 [Ag (.slice none 0 0) (ER (l.take 0)),reqs r,Ag v11 (lens (d.map fun n=>[int n]).length)] rfl ⟨BX rfl,Lr,Lr,trivial⟩ (Tr.Bs 87 8 (Tr.EN [(2,_),(3,_),(14,_),(15,_)] ⟨ke rfl,ke rfl,ke rfl,ke rfl,trivial⟩ (fun k u=>[(16,int ((k:Nat):Int))]) (fun k u=>Hp M0 w0 S (Ap 87 8 u::CN 3 1 (d.map fun n=>[int n]) v11::AE true b9 33 [Ag u (ER (l.take k)),reqs r,Ag v11 (lens (d.map fun n=>[int n]).length)]::AE true b1 33 (([.slice none 0 0,.slice none 0 0,.slice none 0 0]:List Value).map is)::At M1 w1::rs)) (fun k:Nat=>k≤(l).length) (fun k:Nat=>(l).length-k) 0 (.slice none 0 0) (Nat.zero_le _) ⟨ke rfl,trivial⟩ (fun _ _ h=>h) ?_)))
 rintro k u BN
 refine ac ?_
 refine Tr.seq ?_
 refine Tr.cn rfl ?_ ?_<;>intro h1 q1
 have Af:k<(l).length:=AH h1
 obtain ⟨x,Ad⟩:=at_ Af
 refine ac ?_
 refine Tr.seq (Tr.block (Tr.seq (Tr.An (tp rfl (AA rfl underlying30 DO (vl rfl) (vl rfl) (by omega) (AO Ad)) (tp rfl (AR rfl Hv DO (vl rfl) rfl rfl) ?_)))))
 refine Tl rfl rfl rfl rfl z87 KH (fun b10=> ?_)
 refine sf 0 5 ⟨rfl,rfl,rfl⟩ rfl rfl rfl rfl ?_
 refine ao ?_
 refine Tr.pad (Tr.rx ?_)
 refine ax ?_
 refine xo rfl (fun _=>Ce (UX (c:=x) (J5 x (List.mem_of_getElem? Ad))) rfl rfl) ?_
 refine xo rfl (fun _=>AL (xs:=[.tmp 23]) (rows:=[_]) rfl rfl underlying30 DO z87 rfl (by decide) ⟨⟨(by exact rfl),(Va rfl)⟩,trivial⟩ (by decide)) ?_
 refine Cx.ef 1 rfl rfl (by decide) (Bl rfl rfl rfl rfl underlying30 DO TW z87 (Kb rfl) (Kf rfl) (Aq (by exact List.Mem.head _) (Ka rfl))) ?_
 refine xo rfl (fun _=>Ae rfl TP (vl rfl)) (Cx.Dp 3 rfl rfl (Fg rfl rfl rfl (vl rfl) rfl vF (by exact Nb rfl)) ?_)
 refine Cx.nil ⟨by kernel_rfl,?_⟩
 refine BQ.PB 1 3 25 rfl rfl (by decide) rfl (fun v1=> ?_)
 refine BQ.done al6 ?_
 refine ac ?_
 refine Tr.drop 0 (JV 2 3 14 15 16 rfl ?_)
 refine ac ?_
 refine Fin.IC 2 [Ag v1 (ER (l.take (k+1))),reqs r,Ag v11 (lens (d.map fun n=>[int n]).length)] rfl ⟨Au (by rw [List.take_add_one,Ad,List.map_append];rfl),Lr,Lr,trivial⟩ ?_
 exact Fin.DC (k+1) v1 (⟨Af,by omega⟩) ⟨⟨_,rfl,AD k⟩,ke rfl,ke rfl,ke rfl,ke rfl,trivial⟩ (fun _ _ h=>h)
 have BI:k=(l).length:=by have:=AJ h1;omega
 subst BI
 rw [List.take_length]
 refine ac ?_
 refine ao ?_
 refine TO.AK 3 rfl rfl rfl (vl rfl) (Va rfl) rfl B2 rfl rfl ?_
 refine ao ?_
 refine Tr.ret (Fin.drop 0 (Fin.drop 1 (Fin.Yx (Fin.qH v11 [_] rfl (AP.cell 0 rfl rfl CV B2 rfl (Lr)) ?_ (List.Perm.refl _)))))
 · exact Ar ⟨Ah _ _,Lr,J6 _ _,trivial⟩
end Go.Proofs.YtmpglcehonnpkaaGreat
