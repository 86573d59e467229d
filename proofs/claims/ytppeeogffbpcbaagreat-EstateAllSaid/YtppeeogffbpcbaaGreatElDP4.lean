/-
  Part 4 of the texts that prove this claim, merged.
-/
import Derived.Test.YtppeeogffbpcbaaGreatElDP3
set_option linter.all false
set_option maxRecDepth 40000
set_option maxHeartbeats 16000000
namespace Go.Proofs.YtppeeogffbpcbaaGreat
open Go Go.RowKit Cp Go.Proofs.Tryz
abbrev Cq:List Pr:=[any,any,any,any,any,any,any,any,any,any,any,any]
abbrev C1:List (List Pr):=[Cq,Cq,Cq,Cq,Cq,Cq,Cq,Cq,Cq,Cq,Cq,Cq,Cq,Cq,Cq,Cq]
theorem eJ {q:List Pr} {k o:Nat} (hk:k<16) (ho:o=k*12):(C1.flatten++q)[o]? =some any:=by
 subst ho
 have h:C1[k]? =some Cq:=by
  have hk':k<C1.length:=hk
  rw [List.getElem?_eq_getElem hk']
  have:∀r∈C1,r=Cq:=by intro r hr;simp at hr;exact hr
  rw [this _ (List.getElem_mem hk')]
 have hl:∀r∈C1,r.length=12:=by intro r hr;simp at hr;rw [hr];rfl
 rw [List.getElem?_append_left (by rw [CY hl];show k*12<16*12;omega)]
 exact HT (j:=0) hl h (by omega)
theorem Q0 {k:Nat} (hk:k<16):C1[k]? =some Cq:=by
 have hk':k<C1.length:=hk
 rw [List.getElem?_eq_getElem hk']
 have:∀r∈C1,r=Cq:=by intro r hr;simp at hr;exact hr
 rw [this _ (List.getElem_mem hk')]
theorem Tq:∀r∈C1,r.length=12:=by intro r hr;simp at hr;rw [hr];rfl
theorem Uj {i:Nat} {p:Pr} (h:Cq[i]? =some p):p=any:=by have:=List.mem_of_getElem? h;simp at this;exact this
theorem Cm {ps:List Pr} (h:ps.length=12):Pr.le (agg ps) (agg Cq):=fun M w v ⟨cs,h1,h2,h3⟩=>⟨cs,h1,h2,HL.bD (by rw [h3.length,h];rfl) fun i p v hp _=>by rw [Uj hp];trivial⟩
def Wj (Bp bits id:Int) (l:List FF):Bool:=match l with|[]=>true|c::_=>decide (c.Lk=Bp∧c.Hu=bits)&&c.BX==id
theorem Oc {Bp bits id:Int} {l:List FF} (h:l.length=0):Wj Bp bits id l=true:=by rw [List.eq_nil_of_length_eq_zero h];rfl
theorem KJ {Bp bits id:Int} {l:List FF} {c:FF} (h:l[0]? =some c):Wj Bp bits id l=(decide (c.Lk=Bp∧c.Hu=bits)&&c.BX==id):=by
 cases l with
 |nil=>simp at h
 |cons a l=>simp at h;subst h;rfl
theorem Cb (Bp bits id:Int) (l:List FF):NW Bp bits id l=(En Bp bits 2&&E6 id&&decide (l.length≤8)&&l.all B9&&Wj Bp bits id l):=rfl
theorem Hw {a b:Int}  :A_ prog 265 [int a,int b] (agg [int a,int b]):=by
 refine fo func265 rfl ⟨rfl,rfl⟩ fun M0 w0=>(Tr.seq (Tr.Aq ?_))
 refine Tl rfl rfl rfl rfl z24 De (fun b1=> ?_)
 refine ap ?_
 refine ap ?_
 refine Tr.ret (Fin.CU rfl (AW.cell 0 rfl rfl CM DE rfl (Lr)) ?_)
 · exact Lr
theorem Wk   :A_ prog 223 [] (slice 12 C1):=by
 refine fo func223 rfl ⟨rfl,rfl⟩ fun M0 w0=> ?_
 refine ac ?_
 refine Tr.seq (Tr.Aq ?_)
 iterate 4 refine tp rfl (C8 (Hw) rfl rfl rfl) ?_
 refine tp rfl (Al (rows:=[]) rfl R4 De trivial rfl) ?_
 refine Tl rfl rfl rfl rfl z24 De (fun b1=> ?_)
 refine Tl rfl rfl rfl rfl z24 De (fun b2=> ?_)
 refine Tl rfl rfl rfl rfl z24 De (fun b3=> ?_)
 refine Tl rfl rfl rfl rfl z24 De (fun b4=> ?_)
 refine Tl rfl rfl rfl rfl z24 De (fun b5=> ?_)
 refine sf 4 1 ⟨rfl,rfl,rfl⟩ rfl rfl rfl rfl ?_
 refine sf 3 2 ⟨rfl,rfl,rfl⟩ rfl rfl rfl rfl ?_
 refine sf 2 3 ⟨rfl,rfl,rfl⟩ rfl rfl rfl rfl ?_
 refine sf 1 4 ⟨rfl,rfl,rfl⟩ rfl rfl rfl rfl ?_
 refine sf 0 5 ⟨rfl,rfl,rfl⟩ rfl rfl rfl rfl ?_
 refine TO.nil (Fin.go (Ej 1 2 3 4 5 rfl (Tr.seq (Tr.Aq ?_))))
 iterate 5 refine tp rfl (C8 (Hw) rfl rfl rfl) ?_
 refine Tl rfl rfl rfl rfl z24 De (fun b6=> ?_)
 refine Tl rfl rfl rfl rfl z24 De (fun b7=> ?_)
 refine Tl rfl rfl rfl rfl z24 De (fun b8=> ?_)
 refine Tl rfl rfl rfl rfl z24 De (fun b9=> ?_)
 refine Tl rfl rfl rfl rfl z24 De (fun b10=> ?_)
 refine sf 4 6 ⟨rfl,rfl,rfl⟩ rfl rfl rfl rfl ?_
 refine sf 3 7 ⟨rfl,rfl,rfl⟩ rfl rfl rfl rfl ?_
 refine sf 2 8 ⟨rfl,rfl,rfl⟩ rfl rfl rfl rfl ?_
 refine sf 1 9 ⟨rfl,rfl,rfl⟩ rfl rfl rfl rfl ?_
 refine sf 0 10 ⟨rfl,rfl,rfl⟩ rfl rfl rfl rfl ?_
 refine TO.nil (Fin.go (Nz 1 2 3 4 5 6 7 8 9 10 rfl (Tr.seq (Tr.Aq ?_))))
 iterate 4 refine tp rfl (C8 (Hw) rfl rfl rfl) ?_
 refine Tl rfl rfl rfl rfl z24 De (fun b11=> ?_)
 refine Tl rfl rfl rfl rfl z24 De (fun b12=> ?_)
 refine Tl rfl rfl rfl rfl z24 De (fun b13=> ?_)
 refine Tl rfl rfl rfl rfl z24 De (fun b14=> ?_)
 refine sf 3 11 ⟨rfl,rfl,rfl⟩ rfl rfl rfl rfl ?_
 refine sf 2 12 ⟨rfl,rfl,rfl⟩ rfl rfl rfl rfl ?_
 refine sf 1 13 ⟨rfl,rfl,rfl⟩ rfl rfl rfl rfl ?_
 refine sf 0 14 ⟨rfl,rfl,rfl⟩ rfl rfl rfl rfl ?_
 refine TO.nil (Fin.go (Mx 1 2 3 4 5 6 7 8 9 10 11 12 13 14 rfl (Tr.seq (Tr.pad (Tr.rx (xo rfl (fun _=>AH rfl CM DE (vl rfl) rfl rfl) (xo rfl (fun _=>AH rfl CM DE (vl rfl) rfl rfl) (xo rfl (fun _=>C8 (Hw) rfl rfl rfl) (xo rfl (fun _=>AH rfl CM DE (vl rfl) rfl rfl) (xo rfl (fun _=>oD) (xo rfl (fun _=>AH rfl CM DE (vl rfl) rfl rfl) (xo rfl (fun _=>AH rfl CM DE (vl rfl) rfl rfl) (xo rfl (fun _=>C8 (Hw) rfl rfl rfl) ?_)))))))))))))
 refine xo rfl (fun _=>AH rfl CM DE (vl rfl) rfl rfl) (xo rfl (fun _=>oD) ?_)
 iterate 4 refine xo rfl (fun _=>AH rfl CM DE (vl rfl) rfl rfl) ?_
 refine xo rfl (fun _=>oD) (xo rfl (fun _=>C8 (Hw) rfl rfl rfl) (xo rfl (fun _=>AH rfl CM DE (vl rfl) rfl rfl) (xo rfl (fun _=>AH rfl CM DE (vl rfl) rfl rfl) (xo rfl (fun _=>AH rfl CM DE (vl rfl) rfl rfl) (xo rfl (fun _=>oD) (xo rfl (fun _=>C8 (Hw) rfl rfl rfl) (xo rfl (fun _=>AH rfl CM DE (vl rfl) rfl rfl) (xo rfl (fun _=>AH rfl CM DE (vl rfl) rfl rfl) (xo rfl (fun _=>AH rfl CM DE (vl rfl) rfl rfl) (xo rfl (fun _=>oD) ?_))))))))))
 iterate 4 refine xo rfl (fun _=>AH rfl CM DE (vl rfl) rfl rfl) ?_
 refine xo rfl (fun _=>oD) (xo rfl (fun _=>C8 (Hw) rfl rfl rfl) (xo rfl (fun _=>AH rfl CM DE (vl rfl) rfl rfl) (xo rfl (fun _=>AH rfl CM DE (vl rfl) rfl rfl) (xo rfl (fun _=>AH rfl CM DE (vl rfl) rfl rfl) (xo rfl (fun _=>oD) ?_)))))
 iterate 4 refine xo rfl (fun _=>AH rfl CM DE (vl rfl) rfl rfl) ?_
 refine xo rfl (fun _=>oD) (xo rfl (fun _=>AH rfl CM DE (vl rfl) rfl rfl) (xo rfl (fun _=>AH rfl CM DE (vl rfl) rfl rfl) (xo rfl (fun _=>C8 (Hw) rfl rfl rfl) (xo rfl (fun _=>C8 (Hw) rfl rfl rfl) (xo rfl (fun _=>oD) ?_)))))
 iterate 4 refine xo rfl (fun _=>AH rfl CM DE (vl rfl) rfl rfl) ?_
 refine xo rfl (fun _=>oD) (xo rfl (fun _=>C8 (Hw) rfl rfl rfl) (xo rfl (fun _=>AH rfl CM DE (vl rfl) rfl rfl) (xo rfl (fun _=>AH rfl CM DE (vl rfl) rfl rfl) (xo rfl (fun _=>AH rfl CM DE (vl rfl) rfl rfl) (xo rfl (fun _=>oD) ?_)))))
 iterate 4 refine xo rfl (fun _=>AH rfl CM DE (vl rfl) rfl rfl) ?_
 refine xo rfl (fun _=>oD) ?_
 iterate 4 refine xo rfl (fun _=>AH rfl CM DE (vl rfl) rfl rfl) ?_
 refine xo rfl (fun _=>oD) ?_
 iterate 4 refine xo rfl (fun _=>AH rfl CM DE (vl rfl) rfl rfl) ?_
 refine xo rfl (fun _=>oD) ?_
 iterate 4 refine xo rfl (fun _=>AH rfl CM DE (vl rfl) rfl rfl) ?_
 refine xo rfl (fun _=>oD) (xo rfl (fun _=>C8 (Hw) rfl rfl rfl) (xo rfl (fun _=>AH rfl CM DE (vl rfl) rfl rfl) (xo rfl (fun _=>AH rfl CM DE (vl rfl) rfl rfl) (xo rfl (fun _=>AH rfl CM DE (vl rfl) rfl rfl) (xo rfl (fun _=>oD) (Cx.ef 0 rfl rfl (by decide) (UZ (xs:=[.tmp 35,.tmp 40,.tmp 45,.tmp 50,.tmp 55,.tmp 60,.tmp 65,.tmp 70,.tmp 75,.tmp 80,.tmp 85,.tmp 90,.tmp 95,.tmp 100,.tmp 105,.tmp 110]) (rows:=C1) rfl rfl (by decide) rfl rfl underlying205 Fu R8 rfl (by decide) ⟨⟨(by exact rfl),VL.le (vl rfl) (Pr.le_trans (Cm rfl) (AZ _))⟩,⟨⟨(by exact rfl),VL.le (vl rfl) (Pr.le_trans (Cm rfl) (AZ _))⟩,⟨⟨(by exact rfl),VL.le (vl rfl) (Pr.le_trans (Cm rfl) (AZ _))⟩,⟨⟨(by exact rfl),VL.le (vl rfl) (Pr.le_trans (Cm rfl) (AZ _))⟩,⟨⟨(by exact rfl),VL.le (vl rfl) (Pr.le_trans (Cm rfl) (AZ _))⟩,⟨⟨(by exact rfl),VL.le (vl rfl) (Pr.le_trans (Cm rfl) (AZ _))⟩,⟨⟨(by exact rfl),VL.le (vl rfl) (Pr.le_trans (Cm rfl) (AZ _))⟩,⟨⟨(by exact rfl),VL.le (vl rfl) (Pr.le_trans (Cm rfl) (AZ _))⟩,⟨⟨(by exact rfl),VL.le (vl rfl) (Pr.le_trans (Cm rfl) (AZ _))⟩,⟨⟨(by exact rfl),VL.le (vl rfl) (Pr.le_trans (Cm rfl) (AZ _))⟩,⟨⟨(by exact rfl),VL.le (vl rfl) (Pr.le_trans (Cm rfl) (AZ _))⟩,⟨⟨(by exact rfl),VL.le (vl rfl) (Pr.le_trans (Cm rfl) (AZ _))⟩,⟨⟨(by exact rfl),VL.le (vl rfl) (Pr.le_trans (Cm rfl) (AZ _))⟩,⟨⟨(by exact rfl),VL.le (vl rfl) (Pr.le_trans (Cm rfl) (AZ _))⟩,⟨⟨(by exact rfl),VL.le (vl rfl) (Pr.le_trans (Cm rfl) (AZ _))⟩,⟨⟨(by exact rfl),VL.le (vl rfl) (Pr.le_trans (Cm rfl) (AZ _))⟩,trivial⟩⟩⟩⟩⟩⟩⟩⟩⟩⟩⟩⟩⟩⟩⟩⟩ (by decide) (by decide)) ?_))))))
 refine Cx.ef 0 rfl rfl (by decide) (Lx rfl rfl (by decide) rfl (vl rfl)) ?_
 refine Cx.nil ⟨by kernel_rfl,?_⟩
 refine BV.open_ 0 15 rfl rfl (fun v1=> ?_)
 refine BV.done al1 (Fin.go (Es 15 rfl (Tr.seq (Tr.seq (Tr.M8 0 rfl fun b15 rZ sH qX qY qZ qa=> ?_)))))
 subst qX
 refine ac ?_
 refine co rfl (EJ rfl underlying205 (Ka rfl)) ?_
 refine ac ?_
 refine Tr.block (Tr.BF [(15,_),(113,_)] (Nu rfl) (fun k:Nat=>[(114,int ((k:Nat):Int))]) (fun k:Nat=>k≤(C1.length)) (fun k:Nat=>(C1.length)-k) 0 (Nat.zero_le _) ⟨ke rfl,trivial⟩ ?_)
 rintro k BN
 refine ac ?_
 refine Tr.seq ?_
 refine Tr.cn rfl ?_ ?_<;>intro h1 q1
 have Ac:k<(C1.length):=AU h1
 have qb:k<16:=Ac
 refine a2 ?_
 refine Tr.Aq (tm rfl (tm rfl (tm rfl ?_)))
 refine tp rfl (FI rfl (vl rfl) (vl rfl) ?hin) ?_;case hin=>unfold LK;omega
 refine tp rfl (Fe rfl underlying205 Fu (Ka rfl) (vl rfl) (by omega) (by omega)) (tp rfl (AD rfl Y2 (vl rfl)) ?_)
 refine TO.C7 0 rfl rfl (An rfl rfl (vl rfl) (VL.le (vl rfl) (ZO _)) CO rfl (by rw [List.length_append,CY Tq];show _≤16*12+_;omega) (ZP (eJ qb (by omega)))) ?_
 refine TO.nil ?_
 refine a2 ?_
 exact Fin.AM (k+1) ⟨Ac,by omega⟩ ⟨⟨_,rfl,AK k⟩,ke rfl,ke rfl,trivial⟩
 have A4:k=(C1.length):=by have:=AV h1;omega
 subst A4
 refine ac ?_
 refine Tr.seq ?_
 refine Tr.PU (sz:=12) C1 0 15 rfl rfl (Cy _ _) Tq qY qZ (by rw [List.length_map];exact qa) ?_
 refine a2 ?_
 · exact A7 _ _
theorem Zg {code:Int}  :A_ prog 189 [int code] (Fa [agg Cq,int (if 1≤code∧code≤16 then 0 else 8)]):=by
 refine fo func189 rfl ⟨rfl,rfl⟩ fun M0 w0=> ?_
 have hL:C1.length=16:=rfl
 refine Tr.seq (Tr.Aq ?_)
 refine Tl rfl rfl rfl rfl R8 J8 (fun b1=> ?_)
 refine ap ?_
 refine Tr.seq (Tr.A3 (co rfl (Qv (Wk) rfl) ?_))
 refine ac ?_
 refine ag ?_ ?_<;>intro h1 q1
 refine ac ?_
 refine Tr.cond rfl (fun _=> ?_) (fun h=>nomatch h)
 refine Tr.seq (Tr.Aq (tp rfl (Al (rows:=[]) rfl Tf J8 trivial rfl) (TO.AY 0 rfl rfl rfl (vl rfl) (Va rfl) rfl Fu rfl rfl (tm rfl (TO.nil (Fin.go (B3 2 3 rfl (Tr.ret (Fin.AF (Fin.C4 rfl (AW.cell 0 rfl rfl IQ Fu rfl (Lr)) (AW.tmp rfl (Lr)) ?_))))))))))
 · exact BW ⟨Cm rfl,int_eq (by rw [if_neg];simp_all;omega),trivial⟩
 refine ac ?_
 refine cy h1 rfl (CW rfl underlying205 (vl rfl)) ?_
 refine an ?_ ?_<;>intro h2 q2
 refine ap ?_
 refine B3 2 3 rfl (Tr.ret (Fin.AF (Fin.C4 rfl (AW.cell 0 rfl rfl IQ Fu rfl (Lr)) (AW.tmp rfl (Lr)) ?_)))
 · exact BW ⟨Cm rfl,int_eq (by rw [if_neg];simp_all),trivial⟩
 have hin:1≤code∧code≤16:=by omega
 refine ac ?_
 refine ap ?_
 refine tp rfl (AA rfl underlying205 Fu (vl rfl) (vl rfl) (by omega) (Q0 (by omega))) ?_
 refine ap ?_
 refine B3 2 3 rfl (Tr.ret (Fin.C4 rfl (AW.cell 0 rfl rfl IQ Fu rfl (Lr)) (AW.tmp rfl (Lr)) ?_))
 · exact BW ⟨Lr,int_eq (by rw [if_pos hin]),trivial⟩
theorem Zh {Bp bits id:Int} {l:List FF} (hf:∀c∈l,c.fits):A_ prog 145 [agg [int Bp,int bits],int id,Gh l] (bool (NW Bp bits id l)):=by
 refine fo func145 rfl ⟨rfl,rfl⟩ fun M0 w0=>(Tr.Cr 2 rfl fun Wl=> ?_)
 refine a2 ?_
 refine co rfl (B1 (Pa) rfl rfl) ?_
 refine ag ?_ ?_<;>intro h1 q1
 refine ac ?_
 refine Fk 1 2 3 27 rfl ?_
 refine a2 ?_
 · refine bool_eq ?_;rw [Cb];unfold En;simp_all;omega
 refine ac ?_
 refine cy h1 rfl (B1 (SH) rfl rfl) ?_
 refine ag ?_ ?_<;>intro h2 q2
 refine ac ?_
 refine Fk 1 2 3 27 rfl ?_
 refine a2 ?_
 · refine bool_eq ?_;rw [Cb];unfold En;simp_all
 refine Gr h2 rfl (cy h2 rfl (B1 (SN) rfl rfl) ?_)
 refine ag ?_ ?_<;>intro h3 q3
 refine ac ?_
 refine Fk 1 2 3 27 rfl ?_
 refine a2 ?_
 · refine bool_eq ?_;rw [Cb];unfold En;simp_all
 refine ac ?_
 refine Fk 1 2 3 27 rfl ?_
 refine Tr.cn rfl ?_ ?_<;>intro h4 q4
 refine a2 ?_
 · refine bool_eq ?_;rw [Cb];unfold En;simp_all;omega
 refine a2 ?_
 refine Tr.block (Tr.BF [(1,_),(2,_),(3,_),(28,_),(29,_)] (kk5 rfl) (fun k:Nat=>[(30,int ((k:Nat):Int))]) (fun k:Nat=>k≤(l).length∧(∀j y,j<k→l[j]? =some y→(!B9 y)=false)) (fun k:Nat=>(l).length-k) 0 (⟨Nat.zero_le _,fun j y hj=>absurd hj (by omega)⟩) ⟨ke rfl,trivial⟩ ?_)
 rintro k ⟨BN,AL⟩
 refine ac ?_
 refine Tr.seq ?_
 refine Tr.cn rfl ?_ ?_<;>intro h5 q5
 have Ac:k<(l).length:=AU h5
 obtain ⟨c,Aa⟩:=at_ Ac
 have k8:=hf c (List.mem_of_getElem? Aa)
 refine ac ?_
 refine Tr.seq (Tr.block (Tr.seq (Tr.Aq (tp rfl (AA rfl underlying25 CC (vl rfl) (vl rfl) (by omega) (by exact AX (by assumption))) ?_))))
 refine tp rfl (AH rfl Dh CC (vl rfl) rfl rfl) ?_
 refine Tl rfl rfl rfl rfl z131 Gg (fun b1=> ?_)
 refine sf 0 8 ⟨rfl,rfl,rfl⟩ rfl rfl rfl rfl ?_
 refine ao ?_
 · repeat' first|(refine bool_eq ?_;rw [Cb];unfold En;rw [HW (p:=B9) Aa (by simp_all)];simp)|exact Fin.AM (k+1) ⟨⟨Ac,DK (p:=fun c=> !B9 c) Aa (by simp_all) AL⟩,by omega⟩ ⟨⟨_,rfl,AK k⟩,ke rfl,ke rfl,ke rfl,ke rfl,ke rfl,trivial⟩|refine co rfl (B1 (Wi k8) rfl rfl) ?_|refine ac ?_|(refine Tr.cn rfl ?_ ?_<;>intro h q)
 have A4:k=(l).length:=by have:=AV h5;omega
 subst A4
 have hall:=E4 AL
 refine ac ?_
 refine ag ?_ ?_<;>intro h7 q7
 refine ac ?_
 refine Es 6 rfl ?_
 refine ac ?_
 · refine bool_eq ?_;rw [Cb];unfold En;rw [hall,Oc (by simp_all)];simp_all
 obtain ⟨c0,hc0⟩:=at_ (l:=l) (k:=0) (by have:=h7;simp at this;exact List.length_pos_iff.2 this)
 refine Gr h7 rfl ?_
 refine cy h7 rfl (AA rfl underlying25 CC (vl rfl) (vl rfl) (by omega) (AX (k:=0) hc0)) ?_
 refine ac ?_
 refine cy h7 rfl (HV rfl (vl rfl) (vl rfl)) (Gr h7 rfl ?_)
 refine Ch.cs 48 rfl ?_ ?_<;>intro h8 q8
 refine Gr h8 rfl ?_
 refine cy h8 rfl (AA rfl underlying25 CC (vl rfl) (vl rfl) (by omega) (AX (k:=0) hc0)) ?_
 refine ac ?_
 refine Es 6 rfl ?_
 refine ac ?_
 · refine bool_eq ?_;rw [Cb];unfold En;rw [hall,KJ hc0];clear hall AL hf hc0;simp_all;omega
 refine ac ?_
 refine Es 6 rfl ?_
 refine ac ?_
 · refine bool_eq ?_;rw [Cb];unfold En;rw [hall,KJ hc0];clear hall AL hf hc0;simp_all
theorem Od {l:List Int}  :A_ prog 144 [ints l] (bool (Pg l)):=by
 refine fo func144 rfl ⟨rfl,rfl⟩ fun M0 w0=>(Tr.Cr 0 rfl fun Dj=> ?_)
 refine a2 ?_
 refine Tr.block (Tr.BF [(0,_),(5,_)] (Nu rfl) (fun k:Nat=>[(6,int ((k:Nat):Int))]) (fun k:Nat=>k≤(l).length∧(∀j,j<k→FG l j=true)) (fun k:Nat=>(l).length-k) 0 (⟨Nat.zero_le _,fun j hj=>absurd hj (by omega)⟩) ⟨ke rfl,trivial⟩ ?_)
 rintro k ⟨BN,AL⟩
 refine ac ?_
 refine Tr.seq ?_
 refine Tr.cn rfl ?_ ?_<;>intro h1 q1
 have Ac:k<(l).length:=AU h1
 obtain ⟨x,Aa⟩:=at_ Ac
 have hg:=Bi (d:=(0:Int)) Aa
 refine a2 ?_
 refine ag ?_ ?_<;>intro h2 q2
 have Qz:0<k:=by simpa using h2
 obtain ⟨y,hy⟩:=at_ (l:=l) (k:=k-1) (by omega)
 have IC:=Bi (d:=(0:Int)) hy
 · repeat' first|(refine bool_eq ?_;unfold Pg;exact (C0 (p:=FG l) (k:=k) (by omega) (by unfold FG;rw [hg,IC];simp_all;omega)).symm)|(exact Fin.AM (k+1) ⟨⟨Ac,Bq AL (by unfold FG;rw [hg,IC];simp_all)⟩,by omega⟩ ⟨⟨_,rfl,AK k⟩,ke rfl,ke rfl,trivial⟩)|(refine cy h2 rfl (AA rfl underlying22 CO (vl rfl) (vl rfl) (by omega) (by rw [show ((k:Nat):Int)-1=((k-1:Nat):Int) by omega];exact AX hy)) ?_)|refine cy h2 rfl (AA rfl underlying22 CO (vl rfl) (vl rfl) (by omega) (AX Aa)) ?_|refine ac ?_|(refine Tr.cn rfl ?_ ?_<;>intro h q)
 refine ac ?_
 refine Fk 0 5 6 22 rfl ?_
 refine a2 ?_
 exact Fin.AM (k+1) ⟨⟨Ac,Bq AL (by unfold FG;rw [hg];simp_all)⟩,by omega⟩ ⟨⟨_,rfl,AK k⟩,ke rfl,ke rfl,trivial⟩
 have A4:k=(l).length:=by have:=AV h1;omega
 subst A4
 refine a3 ?_
 · refine bool_eq ?_;unfold Pg;exact (IW AL).symm
theorem eK {n:Int}  :A_ prog 150 [int n] (bool (Ic n)):=by
 refine fo func150 rfl ⟨rfl,rfl⟩ fun M0 w0=> ?_
 refine a2 ?_
 refine co rfl (B1 (SH) rfl rfl) ?_
 refine a2 ?_
 · exact Lr
theorem e_hash:Entry Tryz.prog 150:=⟨_,Tryz.func150,rfl,rfl⟩
theorem Wm {l:List Int}  :A_ prog 143 [ints l] (bool (FY l)):=by
 refine fo func143 rfl ⟨rfl,rfl⟩ fun M0 w0=>(Tr.Cr 0 rfl fun Dj=> ?_)
 refine a2 ?_
 refine Tr.block (Tr.BF [(0,_),(7,_),(8,_)] (Js rfl) (fun k:Nat=>[(9,int ((k:Nat):Int))]) (fun k:Nat=>k≤(l).length∧(∀j,j<k→DZ l j=true)) (fun k:Nat=>(l).length-k) 0 (⟨Nat.zero_le _,fun j hj=>absurd hj (by omega)⟩) ⟨ke rfl,trivial⟩ ?_)
 rintro k ⟨BN,AL⟩
 refine ac ?_
 refine Tr.seq ?_
 refine Tr.cn rfl ?_ ?_<;>intro h1 q1
 have Ac:k<(l).length:=AU h1
 obtain ⟨x,Aa⟩:=at_ Ac
 have hg:=Bi (d:=(0:Int)) Aa
 refine a2 ?_
 refine co rfl (AA rfl underlying22 CO (vl rfl) (vl rfl) (by omega) (by exact AX (by assumption))) ?_
 refine ac ?_
 refine ao ?_
 refine tp rfl (B1 (Zg) rfl rfl) ?_
 refine ao ?_
 refine Tl rfl rfl rfl rfl R8 J8 (fun b1=> ?_)
 refine sf 0 5 ⟨rfl,rfl,rfl⟩ rfl rfl rfl rfl ?_
 refine ao ?_
 refine i7 0 3 4 6 7 8 9 rfl ?_
 refine ag ?_ ?_<;>intro h2 q2
 have eL:¬(1≤x∧x≤16):=by intro hh;rw [if_pos hh] at h2;exact absurd h2 (by decide)
 refine ac ?_
 refine Ej 0 7 8 9 27 rfl ?_
 refine a2 ?_
 · refine bool_eq ?_;unfold FY;exact (C0 (p:=DZ l) (k:=k) (by omega) (by unfold DZ;rw [hg];rw [decide_eq_false eL];rfl)).symm
 have hin:1≤x∧x≤16:=by refine Decidable.byContradiction fun hh=> ?_;rw [if_neg hh] at h2;exact absurd h2 (by decide)
 refine ac ?_
 refine cy h2 rfl (El rfl underlying22 CO (vl rfl) (vl rfl) (by omega) (by simp;omega)) ?_
 refine Gr h2 rfl ?_
 · repeat' first|(refine bool_eq ?_;unfold FY;exact (C0 (p:=DZ l) (k:=k) (by omega) (by unfold DZ;rw [hg];rw [decide_eq_true hin];simp_all)).symm)|(exact Fin.AM (k+1) ⟨⟨Ac,Bq AL (by unfold DZ;rw [hg];rw [decide_eq_true hin];simp_all)⟩,by omega⟩ ⟨⟨_,rfl,AK k⟩,ke rfl,ke rfl,ke rfl,trivial⟩)|refine cy h2 rfl (Ae rfl (IX (l:=l.take k) (v:=x)) ⟨⟨_,rfl,Pr.le_of_eq (by rw [←List.map_take,Int.toNat_natCast])⟩,ke rfl,trivial⟩) ?_|refine ac ?_|(refine Tr.cn rfl ?_ ?_<;>intro h q)
 have A4:k=(l).length:=by have:=AV h1;omega
 subst A4
 refine a3 ?_
 · refine bool_eq ?_;unfold FY;exact (IW AL).symm
theorem eM {p:Int→Bool} {n:Int}  :A_ prog 147 [int n,ref [O0 prog (fun x:Int=>[int x]) (fun x=>bool (p x))]] (bool (!p n)):=by
 refine fo func147 rfl ⟨rfl,rfl⟩ fun M0 w0=> ?_
 refine a2 ?_
 refine co rfl (EA n rfl (vl rfl) ⟨ke rfl,trivial⟩) ?_
 refine a2 ?_
 · exact Lr
theorem eN:Entry Tryz.prog 147:=⟨_,Tryz.func147,rfl,rfl⟩
theorem k9 {p:Int→Bool}  :A_ prog 146 [O0 prog (fun x:Int=>[int x]) (fun x=>bool (p x))] (O0 prog (fun x:Int=>[int x]) (fun x=>bool (!p x))):=by
 refine fo func146 rfl ⟨rfl,rfl⟩ fun M0 w0=> ?_
 refine a3 ?_
 · exact DG eN (fun x=>eM (p:=p) (n:=x))
theorem k_:Entry Tryz.prog 146:=⟨_,Tryz.func146,rfl,rfl⟩
theorem Dk {e:A5} (hf:e.fits):A_ prog 102 [agg (Ah e)] (int (if B_ e then 0 else 19)):=by
 refine fo func102 rfl ⟨rfl,rfl⟩ fun M0 w0=> ?_
 refine a2 ?_
 refine co rfl (B1 (eG hf.name) rfl rfl) ?_
 refine ag ?_ ?_<;>intro h1 q1
 refine ac ?_
 refine B3 1 32 rfl ?_
 refine a2 ?_
 · refine int_eq ?_;unfold B_;simp_all
 refine ag ?_ ?_<;>intro h2 q2
 refine ac ?_
 refine B3 1 32 rfl ?_
 refine a2 ?_
 · refine int_eq ?_;unfold B_;simp_all;omega
 refine ag ?_ ?_<;>intro h3 q3
 refine ac ?_
 refine B3 1 32 rfl ?_
 refine a2 ?_
 · refine int_eq ?_;unfold B_;simp_all;omega
 refine ag ?_ ?_<;>intro h4 q4
 refine ac ?_
 refine B3 1 32 rfl ?_
 refine a2 ?_
 · refine int_eq ?_;unfold B_;simp_all;omega
 refine ac ?_
 refine cy h4 rfl (B1 (Wm) rfl rfl) ?_
 refine ac ?_
 refine B3 1 32 rfl ?_
 refine Tr.cn rfl ?_ ?_<;>intro h5 q5
 refine a2 ?_
 · refine int_eq ?_;unfold B_;simp_all
 refine ac ?_
 refine ag ?_ ?_<;>intro h6 q6
 refine ac ?_
 refine B3 1 54 rfl ?_
 refine a2 ?_
 · refine int_eq ?_;unfold B_;simp_all;omega
 refine ag ?_ ?_<;>intro h7 q7
 refine ac ?_
 refine B3 1 54 rfl ?_
 refine a2 ?_
 · refine int_eq ?_;unfold B_;simp_all;omega
 refine ac ?_
 refine cy h7 rfl (B1 (Od) rfl rfl) ?_
 refine ag ?_ ?_<;>intro h8 q8
 refine ac ?_
 refine B3 1 54 rfl ?_
 refine a2 ?_
 · refine int_eq ?_;unfold B_;simp_all
 refine ac ?_
 refine cy h8 rfl (B1 (Od) rfl rfl) ?_
 refine ac ?_
 refine B3 1 54 rfl ?_
 refine Tr.cn rfl ?_ ?_<;>intro h9 q9
 refine a2 ?_
 · refine int_eq ?_;unfold B_;simp_all
 refine a2 ?_
 refine Tr.block (Tr.BF [(1,_),(56,_),(57,_)] (Js rfl) (fun k:Nat=>[(58,int ((k:Nat):Int))]) (fun k:Nat=>k≤(e.ids).length∧(∀j y,j<k→e.ids[j]? =some y→(!Ui y)=false)) (fun k:Nat=>(e.ids).length-k) 0 (⟨Nat.zero_le _,fun j y hj=>absurd hj (by omega)⟩) ⟨ke rfl,trivial⟩ ?_)
 rintro k ⟨BN,AL⟩
 refine ac ?_
 refine Tr.seq ?_
 refine Tr.cn rfl ?_ ?_<;>intro h10 PZ
 have Ac:k<(e.ids).length:=AU h10
 obtain ⟨x,Aa⟩:=at_ Ac
 have lA:=hf.ids x (List.mem_of_getElem? Aa)
 refine ac ?_
 refine Tr.seq (Tr.block (Tr.seq (Tr.Aq (tp rfl (AA rfl underlying30 BR (vl rfl) (vl rfl) (by omega) (by exact AX (by assumption))) ?_))))
 refine tp rfl (AH rfl E2 BR (vl rfl) rfl rfl) ?_
 refine Tl rfl rfl rfl rfl HP HO (fun b1=> ?_)
 refine sf 0 4 ⟨rfl,rfl,rfl⟩ rfl rfl rfl rfl ?_
 refine ao ?_
 · repeat' first|(refine int_eq ?_;unfold B_;rw [HW (p:=Ui) Aa (by unfold Ui;simp_all)];simp)|(exact Fin.AM (k+1) ⟨⟨Ac,DK (p:=fun c=> !Ui c) Aa (by unfold Ui;simp_all) AL⟩,by omega⟩ ⟨⟨_,rfl,AK k⟩,ke rfl,ke rfl,ke rfl,trivial⟩)|refine co rfl (kc3 (Zh lA) rfl rfl rfl rfl) ?_|refine ac ?_|(refine Tr.cn rfl ?_ ?_<;>intro h q)
 have A4:k=(e.ids).length:=by have:=AV h10;omega
 subst A4
 have hall:=E4 AL
 refine a2 ?_
 refine Tr.seq (Tr.seq (Tr.re 5 rfl (DG (dom:=fun p:Int→Bool=>[O0 prog (fun x:Int=>[int x]) (fun x=>bool (p x))]) (res:=fun p=>O0 prog (fun x:Int=>[int x]) (fun x=>bool (!p x))) k_ (fun p=>k9 (p:=p))) ?_))
 refine ac ?_
 refine co rfl (EA E6 rfl (vl rfl) ⟨⟨_,rfl,DG (dom:=fun n:Int=>[int n]) (res:=fun n=>bool (E6 n)) eH (fun n=>SN (n:=n))⟩,trivial⟩) ?_
 refine co rfl (C8 (Hs (l:=e.anchors) (p:=fun n=> !E6 n)) rfl rfl rfl) ?_
 refine cm rfl ?_
 · repeat' first|(refine int_eq ?_;unfold B_;rw [if_neg];intro hh;simp only [Bool.and_eq_true] at hh;have g1:=hh.1.2;have g2:=hh.2;clear hh AL hf hall;simp only [To,g1,g2,Bool.not_true,Bool.false_eq_true] at*)|(refine int_eq ?_;unfold B_;simp_all;omega)|refine cy h rfl (EA Ic rfl (vl rfl) ⟨⟨_,rfl,DG (dom:=fun n:Int=>[int n]) (res:=fun n=>bool (Ic n)) e_hash (fun n=>eK (n:=n))⟩,trivial⟩) ?_|refine cy h rfl (C8 (Hs (l:=e.hashes) (p:=fun n=> !Ic n)) rfl rfl rfl) ?_|refine ac ?_|(refine Tr.cn rfl ?_ ?_<;>intro h q)|(refine Ch.cg rfl rfl rfl ?_ ?_<;>intro h q)
theorem KK {β γ:Type} {f:β→γ} {l:List β} (h:l≠[]):0<(l.map f).length:=by rw [List.length_map];exact List.length_pos_iff.2 h
theorem Oe {l:List (Int)} (h0:l≠[]) (hl:l.length≤1000000):BG prog 164 [slice 1 (l.map (fun n:Int=>[int n]))] (lens (l.map (fun n:Int=>[int n])).length) (Bm) (fun v=>C_ 3 1 (l.map (fun n:Int=>[int n])) v):=by
 refine BG.of func164 rfl rfl (by exact Nb rfl) fun M0 w0 S rs M1 w1=> ?_
 have hpos:=KK (f:=(fun n:Int=>[int n])) h0
 refine a2 ?_
 refine co rfl (Fc rfl underlying22 (vl rfl)) ?_
 refine ac ?_
 refine Tr.ex 4 rfl (fun z1=>Tr.fact 4 rfl fun Hx=> ?_)
 refine Tr.cn rfl ?_ ?_<;>intro h1 q1
 exfalso;have:=Hx h1;simp_all
 refine ac ?_
 refine ap ?_
 refine TO.pad ?_
 refine TO.Ex 0 rfl rfl (by decide) (FM rfl rfl (by decide) rfl underlying22 CO OJ z3 rfl (by decide) (by decide) (vl rfl) (vl rfl) hpos (by rw [List.length_map];unfold maxLen;omega) (by rw [List.length_map];omega)) (fun v1=> ?_)
 refine ap ?_
 refine Tr.ret (Fin.drop 1 ?_)
 refine Fin.Gc rfl rfl ?_ (by intro _ _ _ h;rw [h.1])
 · exact A7 _ _
theorem Of   :A_ prog 164 [slice 1 []] (full 1 []):=by
 refine fo func164 rfl ⟨rfl,rfl⟩ fun M0 w0=> ?_
 refine a2 ?_
 refine co rfl (Fc rfl underlying22 (vl rfl)) ?_
 refine ac ?_
 refine Tr.ex 4 rfl (fun z1=>Tr.fact 4 rfl fun Hx=> ?_)
 · repeat' first|exact Ey 1|exact Lr|refine co rfl (KD rfl underlying22 CO (vl rfl) (vl rfl)) ?_|refine ac ?_|(refine Tr.cn rfl ?_ ?_<;>intro h q)
theorem DH {l:List (Int)} (hl:l.length≤1000000):A_ Tryz.prog 164 [slice 1 (l.map (fun n:Int=>[int n]))] (slice 1 (l.map (fun n:Int=>[int n]))):=by
 by_cases h0:l=[]
 · subst h0;exact A_.le Of (fun _ _ _ h=>h) (Au _ _)
 · exact (BG.jw (rows:=(l.map (fun n:Int=>[int n]))) (Ak fun _=>rfl) (Oe h0 hl)).pure
theorem K2 {l:List (Int)} (hl:l.length≤1000000):BG Tryz.prog 164 [slice 1 (l.map (fun n:Int=>[int n]))] (lens l.length) Bm (fun v=>Af 3 1 (l.map (fun n:Int=>[int n])) v):=by
 by_cases h0:l=[]
 · subst h0;exact BG.NK Of
 ·
  have:=BG.Jd (by intro h;exact h0 (by simpa using h)) (Oe h0 hl)
  rwa [List.length_map] at this
theorem Uk {l:List (Du)} (h0:l≠[]) (hl:l.length≤1000000):BG prog 165 [slice 4 (l.map Az)] (lens (l.map Az).length) (Bm) (fun v=>C_ 27 4 (l.map Az) v):=by
 refine BG.of func165 rfl rfl (by exact Nb rfl) fun M0 w0 S rs M1 w1=> ?_
 have hpos:=KK (f:=Az) h0
 refine a2 ?_
 refine co rfl (Fc rfl underlying30 (vl rfl)) ?_
 refine ac ?_
 refine Tr.ex 4 rfl (fun z1=>Tr.fact 4 rfl fun Hx=> ?_)
 refine Tr.cn rfl ?_ ?_<;>intro h1 q1
 exfalso;have:=Hx h1;simp_all
 refine ac ?_
 refine ap ?_
 refine TO.pad ?_
 refine TO.Ex 0 rfl rfl (by decide) (FM rfl rfl (by decide) rfl underlying30 BR J7 HP rfl (by decide) (by decide) (vl rfl) (vl rfl) hpos (by rw [List.length_map];unfold maxLen;omega) (by rw [List.length_map];omega)) (fun v1=> ?_)
 refine ap ?_
 refine Tr.ret (Fin.drop 1 ?_)
 refine Fin.Gc rfl rfl ?_ (by intro _ _ _ h;rw [h.1])
 · exact A7 _ _
theorem Ul   :A_ prog 165 [slice 4 []] (full 4 []):=by
 refine fo func165 rfl ⟨rfl,rfl⟩ fun M0 w0=> ?_
 refine a2 ?_
 refine co rfl (Fc rfl underlying30 (vl rfl)) ?_
 refine ac ?_
 refine Tr.ex 4 rfl (fun z1=>Tr.fact 4 rfl fun Hx=> ?_)
 · repeat' first|exact Ey 4|exact Lr|refine co rfl (KD rfl underlying30 BR (vl rfl) (vl rfl)) ?_|refine ac ?_|(refine Tr.cn rfl ?_ ?_<;>intro h q)
theorem HC {l:List (Du)} (hl:l.length≤1000000):BG Tryz.prog 165 [slice 4 (l.map Az)] (lens l.length) Bm (fun v=>Af 27 4 (l.map Az) v):=by
 by_cases h0:l=[]
 · subst h0;exact BG.NK Ul
 ·
  have:=BG.Jd (by intro h;exact h0 (by simpa using h)) (Uk h0 hl)
  rwa [List.length_map] at this
theorem Um {l:List (FF)} (h0:l≠[]) (hl:l.length≤925904528640):BG prog 204 [slice 15 (l.map CZ)] (lens (l.map CZ).length) (Bm) (fun v=>C_ 131 15 (l.map CZ) v):=by
 refine BG.of func204 rfl rfl (by exact Nb rfl) fun M0 w0 S rs M1 w1=> ?_
 have hpos:=KK (f:=CZ) h0
 refine a2 ?_
 refine co rfl (Fc rfl underlying25 (vl rfl)) ?_
 refine ac ?_
 refine Tr.ex 4 rfl (fun z1=>Tr.fact 4 rfl fun Hx=> ?_)
 refine Tr.cn rfl ?_ ?_<;>intro h1 q1
 exfalso;have:=Hx h1;simp_all
 refine ac ?_
 refine ap ?_
 refine TO.pad ?_
 refine TO.Ex 0 rfl rfl (by decide) (FM rfl rfl (by decide) rfl underlying25 CC Te z131 rfl (by decide) (by decide) (vl rfl) (vl rfl) hpos (by rw [List.length_map];unfold maxLen;omega) (by rw [List.length_map];omega)) (fun v1=> ?_)
 refine ap ?_
 refine Tr.ret (Fin.drop 1 ?_)
 refine Fin.Gc rfl rfl ?_ (by intro _ _ _ h;rw [h.1])
 · exact A7 _ _
theorem Un   :A_ prog 204 [slice 15 []] (full 15 []):=by
 refine fo func204 rfl ⟨rfl,rfl⟩ fun M0 w0=> ?_
 refine a2 ?_
 refine co rfl (Fc rfl underlying25 (vl rfl)) ?_
 refine ac ?_
 refine Tr.ex 4 rfl (fun z1=>Tr.fact 4 rfl fun Hx=> ?_)
 · repeat' first|exact Ey 15|exact Lr|refine co rfl (KD rfl underlying25 CC (vl rfl) (vl rfl)) ?_|refine ac ?_|(refine Tr.cn rfl ?_ ?_<;>intro h q)
theorem Uo {l:List (FF)} (hl:l.length≤925904528640):BG Tryz.prog 204 [slice 15 (l.map CZ)] (lens l.length) Bm (fun v=>Af 131 15 (l.map CZ) v):=by
 by_cases h0:l=[]
 · subst h0;exact BG.NK Un
 ·
  have:=BG.Jd (by intro h;exact h0 (by simpa using h)) (Um h0 hl)
  rwa [List.length_map] at this
theorem Up {l:List (List UInt8)} (h0:l≠[]) (hl:l.length≤8796093022208):BG prog 205 [slice 1 (l.map (fun t:List UInt8=>[str t]))] (lens (l.map (fun t:List UInt8=>[str t])).length) (Bm) (fun v=>C_ 9 1 (l.map (fun t:List UInt8=>[str t])) v):=by
 refine BG.of func205 rfl rfl (by exact Nb rfl) fun M0 w0 S rs M1 w1=> ?_
 have hpos:=KK (f:=(fun t:List UInt8=>[str t])) h0
 refine a2 ?_
 refine co rfl (Fc rfl underlying74 (vl rfl)) ?_
 refine ac ?_
 refine Tr.ex 4 rfl (fun z1=>Tr.fact 4 rfl fun Hx=> ?_)
 refine Tr.cn rfl ?_ ?_<;>intro h1 q1
 exfalso;have:=Hx h1;simp_all
 refine ac ?_
 refine ap ?_
 refine TO.pad ?_
 refine TO.Ex 0 rfl rfl (by decide) (FM rfl rfl (by decide) rfl underlying74 G0 jG z9 rfl (by decide) (by decide) (vl rfl) (vl rfl) hpos (by rw [List.length_map];unfold maxLen;omega) (by rw [List.length_map];omega)) (fun v1=> ?_)
 refine ap ?_
 refine Tr.ret (Fin.drop 1 ?_)
 refine Fin.Gc rfl rfl ?_ (by intro _ _ _ h;rw [h.1])
 · exact A7 _ _
theorem Uq   :A_ prog 205 [slice 1 []] (full 1 []):=by
 refine fo func205 rfl ⟨rfl,rfl⟩ fun M0 w0=> ?_
 refine a2 ?_
 refine co rfl (Fc rfl underlying74 (vl rfl)) ?_
 refine ac ?_
 refine Tr.ex 4 rfl (fun z1=>Tr.fact 4 rfl fun Hx=> ?_)
 · repeat' first|exact Ey 1|exact Lr|refine co rfl (KD rfl underlying74 G0 (vl rfl) (vl rfl)) ?_|refine ac ?_|(refine Tr.cn rfl ?_ ?_<;>intro h q)
theorem Ur {l:List (List UInt8)} (hl:l.length≤8796093022208):A_ Tryz.prog 205 [slice 1 (l.map (fun t:List UInt8=>[str t]))] (slice 1 (l.map (fun t:List UInt8=>[str t]))):=by
 by_cases h0:l=[]
 · subst h0;exact A_.le Uq (fun _ _ _ h=>h) (Au _ _)
 · exact (BG.jw (rows:=(l.map (fun t:List UInt8=>[str t]))) (Ak fun _=>rfl) (Up h0 hl)).pure
theorem Wn {l:List Du} {p:Du→Bool}  :A_ prog 259 [Eu l,O0 prog (fun x:Du=>[agg (Az x)]) (fun x=>bool (p x))] (int (idx p l)):=by
 refine fo func259 rfl ⟨rfl,rfl⟩ fun M0 w0=>(Tr.Cr 0 rfl fun Dj=> ?_)
 refine a2 ?_
 refine Tr.block (Tr.BF [(0,_),(1,_),(7,_)] (Js rfl) (fun k:Nat=>[(8,int ((k:Nat):Int))]) (fun k:Nat=>k≤(l).length∧(∀j y,j<k→l[j]? =some y→p y=false)) (fun k:Nat=>(l).length-k) 0 (⟨Nat.zero_le _,fun j y hj=>absurd hj (by omega)⟩) ⟨ke rfl,trivial⟩ ?_)
 rintro k ⟨BN,AL⟩
 refine ac ?_
 refine Tr.seq ?_
 refine Tr.cn rfl ?_ ?_<;>intro h1 q1
 have Ac:k<(l).length:=AU h1
 obtain ⟨x,Aa⟩:=at_ Ac
 · repeat' first|exact int_eq (Dy Aa (by assumption) AL)|exact Fin.AM (k+1) ⟨⟨Ac,DK Aa (by assumption) AL⟩,by omega⟩ ⟨⟨_,rfl,AK k⟩,ke rfl,ke rfl,ke rfl,trivial⟩|refine co rfl (AA rfl underlying30 BR (vl rfl) (vl rfl) (by omega) (by exact AX (by assumption))) ?_|refine co rfl (AH rfl E2 BR (vl rfl) rfl rfl) (co rfl (EA x rfl (vl rfl) ⟨ke rfl,trivial⟩) ?_)|refine ac ?_|(refine Tr.cn rfl ?_ ?_<;>intro h q)
 have A4:k=(l).length:=by have:=AV h1;omega
 subst A4
 refine a3 ?_
 · exact int_eq (Eh AL)
theorem eO {l:List Du} {p:Du→Bool}  :A_ prog 212 [Eu l,O0 prog (fun x:Du=>[agg (Az x)]) (fun x=>bool (p x))] (bool (l.any p)):=by
 refine fo func212 rfl ⟨rfl,rfl⟩ fun M0 w0=> ?_
 refine a2 ?_
 refine co rfl (C8 (Wn) rfl rfl rfl) ?_
 refine a2 ?_
 · exact bool_eq (KE p l)
theorem Zi {l:List (Int)} {b0 cap i:Nat} {sp:List Value} (hi:i<l.length) (hl:l.length≤1000000) (hc:l.length≤cap) (hm:cap≤maxLen) (hq:sp.length=(cap-l.length)*1):BG prog 208 [As (.slice (some ⟨b0,0,none⟩) l.length cap) (lens l.length),int ((i:Nat):Int),int (((i:Nat):Int)+1)] (lens (l.length-1)) (AE true b0 3 ((l.map (fun n:Int=>[int n])).flatten++sp.map is)) (fun v=>B0 3 1 ((l.eraseIdx i).map (fun n:Int=>[int n])) v):=by
 refine BG.of func208 rfl rfl (by exact Nb rfl) fun M0 w0 S rs M1 w1=> ?_
 have Ie:((l.map (fun n:Int=>[int n])).flatten).length=l.length*1:=by rw [CY (sz:=1) (Ak fun _=>rfl),List.length_map]
 have e1:(((i:Nat):Int)+(1:Int)).toNat=i+1:=by omega
 have e2:((i:Nat):Int).toNat=i:=by omega
 refine a2 ?_
 refine co rfl (EJ rfl underlying22 (Ka rfl)) (co rfl (IV rfl underlying22 CO (Ka rfl) (vl rfl) (vl rfl) (vl rfl) (by omega) (by omega) (by omega) (by omega)) ?_)
 refine ac ?_
 refine an ?_ ?_<;>intro h1 q1
 exfalso;have:=q1;omega
 refine a2 ?_
 refine co rfl (EJ rfl underlying22 (Ka rfl)) ?_
 refine ac ?_
 refine Tr.seq (Tr.DN mixed 6 (by kernel_rfl) (AR.op rfl rfl (by decide) (BQ rfl (vl rfl)) (AR.op rfl rfl (by decide) (BQ rfl (vl rfl)) (AR.op rfl rfl (by decide) (Fg rfl underlying22 CO (Ka rfl) (vl rfl) (by omega) (by omega) (by omega) (by omega)) (AR.op rfl rfl (by decide) (BQ rfl (vl rfl)) (AR.op rfl rfl (by decide) (BQ rfl (vl rfl)) (AR.op rfl rfl (by decide) (JJ rfl underlying22 CO (Ka rfl) (vl rfl) (by omega) (by omega) (by omega)) ?_)))))))
 refine AR.turn _ rfl (by decide) (Tk 0 rfl (NL rfl rfl (by decide) rfl underlying22 CO (vl rfl) (vl rfl) (by omega) (by rw [List.length_append,Ie];omega) (by rw [List.length_append,Ie];omega) rfl)) ?_
 refine ac ?_
 refine B3 0 7 rfl ?_
 refine ap ?_
 refine tp rfl (EJ rfl underlying22 (vl rfl)) (tm rfl (tp rfl (KC rfl underlying22 CO (vl rfl) (vl rfl) (vl rfl) (by omega) (by omega) (by omega)) ?_))
 refine TO.C7 0 rfl rfl (Qm rfl rfl underlying22 CO z3 rfl (by decide) (by decide) (vl rfl) (by omega) (by simp only [List.length_append,List.length_take,List.length_drop,List.length_map,Ie];omega) rfl) ?_
 refine ap ?_
 refine ac ?_
 refine Tr.ret ?_
 refine Fin.Kw (sz:=1) 0 rfl (rows:=((l.eraseIdx i).map (fun n:Int=>[int n]))) (sp:=[.int .i64 0]++sp) (m:=i+(l.length-(i+1))) ((OX (N:=l.length*1) (a:=i*1) (z:=1) (S:=sp.map is) Ie (by omega) (by omega) (by omega) (by omega) (by omega) (by omega) (by omega) (B:=_) rfl).trans (by rw [List.map_append,←OW (f:=(fun n:Int=>[int n])) (sz:=1) (fun _=>rfl),Nat.succ_mul,jx]<;>omega)) (by rw [List.length_map,List.length_eraseIdx,if_pos hi];omega) (by omega) hm (by rw [List.length_append,hq];simp only [List.length_cons,List.length_nil];omega) ?_
 refine Fin.Gc rfl rfl ?_ (by rintro _ _ _ rfl;rfl)
 · rintro _ _ _ rfl;exact ⟨_,_,by congr 1;omega⟩
theorem Zj:Entry Tryz.prog 208:=⟨_,Tryz.func208,rfl,rfl⟩
theorem Zk {l:List (Du)} {b0 cap i:Nat} {sp:List Value} (hi:i<l.length) (hl:l.length≤1000000) (hc:l.length≤cap) (hm:cap≤maxLen) (hq:sp.length=(cap-l.length)*4):BG prog 214 [As (.slice (some ⟨b0,0,none⟩) l.length cap) (lens l.length),int ((i:Nat):Int),int (((i:Nat):Int)+1)] (lens (l.length-1)) (AE true b0 27 ((l.map Az).flatten++sp.map is)) (fun v=>B0 27 4 ((l.eraseIdx i).map Az) v):=by
 refine BG.of func214 rfl rfl (by exact Nb rfl) fun M0 w0 S rs M1 w1=> ?_
 have Ie:((l.map Az).flatten).length=l.length*4:=by rw [CY (sz:=4) (Ak fun _=>rfl),List.length_map]
 have e1:(((i:Nat):Int)+(1:Int)).toNat=i+1:=by omega
 have e2:((i:Nat):Int).toNat=i:=by omega
 refine a2 ?_
 refine co rfl (EJ rfl underlying30 (Ka rfl)) (co rfl (IV rfl underlying30 BR (Ka rfl) (vl rfl) (vl rfl) (vl rfl) (by omega) (by omega) (by omega) (by omega)) ?_)
 refine ac ?_
 refine an ?_ ?_<;>intro h1 q1
 exfalso;have:=q1;omega
 refine a2 ?_
 refine co rfl (EJ rfl underlying30 (Ka rfl)) ?_
 refine ac ?_
 refine Tr.seq (Tr.DN mixed 6 (by kernel_rfl) (AR.op rfl rfl (by decide) (BQ rfl (vl rfl)) (AR.op rfl rfl (by decide) (BQ rfl (vl rfl)) (AR.op rfl rfl (by decide) (Fg rfl underlying30 BR (Ka rfl) (vl rfl) (by omega) (by omega) (by omega) (by omega)) (AR.op rfl rfl (by decide) (BQ rfl (vl rfl)) (AR.op rfl rfl (by decide) (BQ rfl (vl rfl)) (AR.op rfl rfl (by decide) (JJ rfl underlying30 BR (Ka rfl) (vl rfl) (by omega) (by omega) (by omega)) ?_)))))))
 refine AR.turn _ rfl (by decide) (Tk 0 rfl (NL rfl rfl (by decide) rfl underlying30 BR (vl rfl) (vl rfl) (by omega) (by rw [List.length_append,Ie];omega) (by rw [List.length_append,Ie];omega) rfl)) ?_
 refine ac ?_
 refine B3 0 7 rfl ?_
 refine ap ?_
 refine tp rfl (EJ rfl underlying30 (vl rfl)) (tm rfl (tp rfl (KC rfl underlying30 BR (vl rfl) (vl rfl) (vl rfl) (by omega) (by omega) (by omega)) ?_))
 refine TO.C7 0 rfl rfl (Qm rfl rfl underlying30 BR HP rfl (by decide) (by decide) (vl rfl) (by omega) (by simp only [List.length_append,List.length_take,List.length_drop,List.length_map,Ie];omega) rfl) ?_
 refine ap ?_
 refine ac ?_
 refine Tr.ret ?_
 refine Fin.Kw (sz:=4) 0 rfl (rows:=((l.eraseIdx i).map Az)) (sp:=[.int .i64 0,.int .i64 0,.int .i64 0,.slice none 0 0]++sp) (m:=i+(l.length-(i+1))) ((OX (N:=l.length*4) (a:=i*4) (z:=4) (S:=sp.map is) Ie (by omega) (by omega) (by omega) (by omega) (by omega) (by omega) (by omega) (B:=_) rfl).trans (by rw [List.map_append,←OW (f:=Az) (sz:=4) (fun _=>rfl),Nat.succ_mul,jx]<;>omega)) (by rw [List.length_map,List.length_eraseIdx,if_pos hi];omega) (by omega) hm (by rw [List.length_append,hq];simp only [List.length_cons,List.length_nil];omega) ?_
 refine Fin.Gc rfl rfl ?_ (by rintro _ _ _ rfl;rfl)
 · rintro _ _ _ rfl;exact ⟨_,_,by congr 1;omega⟩
theorem Zl:Entry Tryz.prog 214:=⟨_,Tryz.func214,rfl,rfl⟩
theorem Zm {l:List (Int)} {x:Int} {b0 cap i:Nat} {sp:List Value} (hi:i≤l.length) (hl:l.length≤1000000) (hc:l.length≤cap) (hm:cap≤maxLen) (hq:sp.length=(cap-l.length)*1):BG prog 258 [As (.slice (some ⟨b0,0,none⟩) l.length cap) (lens l.length),int ((i:Nat):Int),slice 1 [[int x]]] (lens (l.length+1)) (AE true b0 3 ((l.map (fun n:Int=>[int n])).flatten++sp.map is)) (fun v=>B0 3 1 ((l.take i++[x]++l.drop i).map (fun n:Int=>[int n])) v):=by
 refine BG.of func258 rfl rfl (by exact Nb rfl) fun M0 w0 S rs M1 w1=> ?_
 have Gz:([[int x]]:List (List Pr)).flatten.length=1:=rfl
 have G_:([[int x]]:List (List Pr)).length=1:=rfl
 have Ie:((l.map (fun n:Int=>[int n])).flatten).length=l.length*1:=by rw [CY (sz:=1) (Ak fun _=>rfl),List.length_map]
 have e1:(((i:Nat):Int)+(1:Int)).toNat=i+1:=by omega
 have e2:((i:Nat):Int).toNat=i:=by omega
 refine a2 ?_
 refine co rfl (KB rfl underlying22 CO (Ka rfl) (vl rfl) (by omega) (by omega) (by omega)) ?_
 refine a2 ?_
 refine co rfl (CW rfl underlying22 (vl rfl)) ?_
 refine ac ?_
 refine an ?_ ?_<;>intro h1 q1
 simp at h1
 refine a2 ?_
 refine co rfl (EJ rfl underlying22 (Ka rfl)) ?_
 refine a2 ?_
 refine HH 0 1 2 7 8 22 rfl ?_
 refine Tr.cn rfl ?_ ?_<;>intro h2 q2
 refine Tr.seq (Tr.Jb (sz:=1) 0 rfl (rows:=l.map (fun n:Int=>[int n])) (sp:=sp) rfl (by simp) hc hm hq ?_)
 refine ap ?_
 refine TO.Ex 0 rfl rfl (by decide) (EK rfl rfl (by decide) rfl underlying22 CO OJ z3 rfl (by decide) (by decide) (vl rfl) (vl rfl) (Ak fun _=>rfl) (Nat.zero_lt_succ _) (by simp only [List.length_map,List.length_cons,List.length_nil];unfold maxLen;omega) (by simp only [List.length_map,List.length_cons,List.length_nil];omega)) (fun v1=> ?_)
 refine ap ?_
 refine Tr.ret (Fin.AF ?_)
 refine Fin.Gc rfl rfl ?_ (by rintro _ _ _ ⟨rfl,_⟩;rw [show i=l.length by omega,List.take_length,List.drop_length,List.append_nil,List.map_append];rfl)
 · exact Pr.le_trans (A7 _ _) (Pr.le_of_eq (by simp))
 refine a2 ?_
 refine co rfl (Ti rfl underlying22 (Ka rfl)) ?_
 refine an ?_ ?_<;>intro h3 q3
 refine ap ?_
 refine tp rfl (Fg rfl underlying22 CO (Ka rfl) (vl rfl) (by omega) (by omega) (by omega) (by omega)) ?_
 refine ap ?_
 refine TO.pad ?_
 refine TO.bp 0 1 rfl rfl rfl rfl (by decide) rfl underlying22 underlying3 CO OJ z3 rfl (by decide) (by decide) (vl rfl) (vl rfl) (i:=i) (k:=l.length+1-i) (by omega) (by simp only [List.length_append,List.length_take,List.length_drop,List.length_map,Ie,G_,Gz];omega) (by omega) (by omega) (by unfold maxLen;omega) (by omega) (fun b1 eP eR hg1 hm1 hs1=> ?_)
 refine ap ?_
 refine Ej 0 1 2 7 9 rfl (Tr.seq ?_)
 have hsz:eR.length=(eP-i)*1:=by have:=hs1;rw [List.length_take,List.length_append,Ie] at this;omega
 refine Tr.PU (sz:=1) (l.map (fun n:Int=>[int n])) 1 0 rfl rfl (Pr.le_trans (Cy _ _) (Pr.le_of_eq (by simp))) (Ak fun _=>rfl) (by rw [List.length_map];exact hc) hm (by rw [List.length_map,List.length_map];omega) ?_
 refine ap ?_
 refine tp rfl (CA rfl underlying22 CO (vl rfl) (vl rfl) (by omega) (by omega) (by omega)) (tm rfl ?_)
 refine TO.Er 0 rfl rfl (by decide) (G9 rfl rfl rfl underlying22 CO (by decide) (vl rfl) (vl rfl) (by omega) (by omega) (by simp only [List.length_append,List.length_take,List.length_drop,List.length_map,Ie,G_,Gz];omega) rfl) ?_
 refine ap ?_
 refine Tr.seq (Tr.rx ?_)
 refine ay ?_
 refine xo rfl (fun _=>CA rfl underlying22 CO (vl rfl) (vl rfl) (by omega) (by omega) (by omega)) ?_
 refine ay ?_
 refine xo rfl (fun _=>DI rfl underlying22 CO (Kb rfl) (vl rfl) (by omega) (by simp;omega)) ?_
 refine Cx.ef 0 rfl rfl (by decide) (G9 rfl rfl rfl underlying22 CO (by decide) (vl rfl) (vl rfl) (by simp only [List.length_append,List.length_take,List.length_drop,List.length_map,Ie,G_,Gz];omega) (by simp only [List.length_append,List.length_take,List.length_drop,List.length_map,Ie,G_,Gz];omega) (by simp only [List.length_append,List.length_take,List.length_drop,List.length_map,Ie,G_,Gz];omega) rfl) ?_
 refine Cx.nil ⟨by kernel_rfl,?_⟩
 refine BV.done YC (Fin.go (Es 9 rfl ?_))
 refine ac ?_
 refine Tr.ret (Fin.AF ?_)
 refine Fin.Kw (sz:=1) 0 rfl (rows:=((l.take i++[x]++l.drop i).map (fun n:Int=>[int n]))) (sp:=eR.drop ((l.length+1-i)*1)) (m:=i+(l.length+1-i)) (NN (a:=i*1) (z:=1) (Z:=eR.map is) (N:=l.length*1) Ie (by omega) rfl (by rw [List.length_map];omega) (by omega) (by omega) (by omega) (by omega) (by rw [List.length_drop,List.length_map];omega) (by rw [←List.map_drop,GF (f:=(fun n:Int=>[int n])) (sz:=1) (fun _=>rfl),e2]) (by rw [List.map_drop,show (l.length+1-i)*1=l.length*1+1-i*1 by omega,←Iv (f:=(fun n:Int=>[int n])) (sz:=1) (l:=l) (i:=i) (x:=x) (fun _=>rfl)];rfl)) (by simp only [List.length_map,List.length_append,List.length_take,List.length_drop,List.length_cons,List.length_nil];omega) (by omega) hm1 (by rw [List.length_drop];omega) ?_
 refine Fin.drop 1 ?_
 refine Fin.Gc rfl rfl ?_ (by rintro _ _ _ rfl;rfl)
 · rintro _ _ _ rfl;exact ⟨_,_,by congr 1;omega⟩
 refine a2 ?_
 refine co rfl (KA rfl underlying22 CO (Ka rfl) (vl rfl) (by omega) (by omega) (by omega)) ?_
 refine ac ?_
 refine Ej 0 1 2 7 8 rfl ?_
 refine ap ?_
 refine tp rfl (CA rfl underlying22 CO (vl rfl) (vl rfl) (by omega) (by omega) (by omega)) ?_
 refine TO.rd 0 rfl rfl rfl (by decide) (LX (tR:=4) rfl func287 (by kernel_rfl) (by kernel_rfl) (by kernel_rfl) (by kernel_rfl) underlying22 CO (by decide) (vl rfl) (by exact Nat.zero_lt_succ _) (vl rfl) (by simp only [List.length_append,List.length_take,List.length_drop,List.length_map,Ie,G_,Gz];omega)) ?_
 refine ap ?_
 refine Tr.cn rfl ?_ ?_<;>intro h4 q4
 refine Tr.seq (Tr.rx ?_)
 refine ay ?_
 refine xo rfl (fun _=>CA rfl underlying22 CO (vl rfl) (vl rfl) (by omega) (by omega) (by omega)) ?_
 refine ay ?_
 refine xo rfl (fun _=>CA rfl underlying22 CO (vl rfl) (vl rfl) (by omega) (by omega) (by omega)) ?_
 refine Cx.ef 0 rfl rfl (by decide) (Qo (m:=l.length-i) rfl rfl rfl underlying22 CO (vl rfl) (vl rfl) (by show _=min _ _;omega) (by simp only [List.length_append,List.length_take,List.length_drop,List.length_map,Ie,G_,Gz];omega) (by simp only [List.length_append,List.length_take,List.length_drop,List.length_map,Ie,G_,Gz];omega) rfl) ?_
 refine Cx.nil ⟨by kernel_rfl,?_⟩
 refine BV.done ZS (Fin.go (Cg 0 1 2 rfl ?_))
 refine ap ?_
 refine tp rfl (CA rfl underlying22 CO (vl rfl) (vl rfl) (by omega) (by omega) (by omega)) (tm rfl ?_)
 refine TO.Er 0 rfl rfl (by decide) (G9 rfl rfl rfl underlying22 CO (by decide) (vl rfl) (vl rfl) (by omega) (by omega) (by simp only [List.length_append,List.length_take,List.length_drop,List.length_map,Ie,G_,Gz];omega) rfl) ?_
 refine ap ?_
 refine ac ?_
 refine Tr.ret (Fin.AF ?_)
 refine Fin.Kw (sz:=1) 0 rfl (rows:=((l.take i++[x]++l.drop i).map (fun n:Int=>[int n]))) (sp:=sp.drop 1) (m:=l.length+1) (NM (a:=i*1) (z:=1) (S:=sp.map is) (N:=l.length*1) Ie (by omega) rfl (by rw [List.length_map];omega) (by omega) (by omega) (by omega) (by omega) (by omega) (by omega) (by rw [List.map_drop,←Iv (f:=(fun n:Int=>[int n])) (sz:=1) (l:=l) (i:=i) (x:=x) (fun _=>rfl)];rfl)) (by simp only [List.length_map,List.length_append,List.length_take,List.length_drop,List.length_cons,List.length_nil];omega) (by omega) hm (by rw [List.length_drop];omega) ?_
 refine Fin.Gc rfl rfl ?_ (by rintro _ _ _ rfl;rfl)
 · rintro _ _ _ rfl;exact ⟨_,_,by rfl⟩
 exact absurd h4 (by decide)
theorem Zn:Entry Tryz.prog 258:=⟨_,Tryz.func258,rfl,rfl⟩
theorem Zo {x:Int}  :BG prog 258 [full 1 [],int ((0:Nat):Int),slice 1 [[int x]]] (lens 1) (Bm) (fun v=>C_ 3 1 [[int x]] v):=by
 refine BG.of func258 rfl rfl (by exact Nb rfl) fun M0 w0 S rs M1 w1=> ?_
 have G_:([[int x]]:List (List Pr)).length=1:=rfl
 refine a2 ?_
 refine co rfl (DI rfl underlying22 CO (Kf rfl) (vl rfl) (by omega) (by omega)) ?_
 refine a2 ?_
 refine co rfl (CW rfl underlying22 (vl rfl)) ?_
 refine ac ?_
 refine an ?_ ?_<;>intro h1 q1
 simp at h1
 refine a2 ?_
 refine co rfl (CW rfl underlying22 (Kf rfl)) ?_
 refine a2 ?_
 refine HH 0 1 2 7 8 22 rfl ?_
 refine Tr.cn rfl ?_ ?_<;>intro h2 q2
 refine ap ?_
 refine TO.pad ?_
 refine TO.Ex 0 rfl rfl (by decide) (FM rfl rfl (by decide) rfl underlying22 CO OJ z3 rfl (by decide) (by decide) (vl rfl) (vl rfl) (by simp) (by simp;unfold maxLen;omega) (by simp)) (fun v1=> ?_)
 refine ap ?_
 refine Tr.ret (Fin.AF (Fin.drop 1 ?_))
 refine Fin.Gc rfl rfl ?_ (by intro _ _ _ h;rw [h.1])
 · exact Pr.le_trans (A7 _ _) (Lr)
 exact absurd h2 (by decide)
theorem Ph {l:List (Int)} {x:Int} {v:Value} {i:Nat} (hi:i≤l.length) (hl:l.length≤1000000):BG Tryz.prog 258 [is v,int ((i:Nat):Int),slice 1 [[int x]]] (slice 1 ((l.take i++[x]++l.drop i).map (fun n:Int=>[int n]))) (Af 3 1 (l.map (fun n:Int=>[int n])) v) (fun _=>Bm):=by
 refine BG.ZA (e:=3) (m:=l.length+1) (Ak fun _=>rfl) (BG.Iu Zn (fun h0=> ?_) (fun b cap sp hc hm hq=> ?_))
 ·
  have SD:l=[]:=by simpa using h0
  subst SD
  have hi0:i=0:=by simpa using hi
  subst hi0
  exact BG.Jc Zo
 ·
  rw [List.length_map] at hc hq ⊢
  exact Zm hi hl hc hm (by omega)
theorem Pj {l:List (Int)} {v:Value} {i:Nat} (hi:i<l.length) (hl:l.length≤1000000):BG Tryz.prog 208 [is v,int ((i:Nat):Int),int (((i:Nat):Int)+1)] (slice 1 ((l.eraseIdx i).map (fun n:Int=>[int n]))) (Af 3 1 (l.map (fun n:Int=>[int n])) v) (fun _=>Bm):=by
 refine BG.ZA (e:=3) (m:=l.length-1) (Ak fun _=>rfl) (BG.Iu Zj (fun h0=> ?_) (fun b cap sp hc hm hq=> ?_))
 ·
  have SD:l=[]:=by simpa using h0
  subst SD;simp at hi
 ·
  rw [List.length_map] at hc hq ⊢
  exact Zi hi hl hc hm (by omega)
theorem Zp {l:List (Du)} {x:Du} {b0 cap i:Nat} {sp:List Value} (hi:i≤l.length) (hl:l.length≤1000000) (hc:l.length≤cap) (hm:cap≤maxLen) (hq:sp.length=(cap-l.length)*4):BG prog 261 [As (.slice (some ⟨b0,0,none⟩) l.length cap) (lens l.length),int ((i:Nat):Int),slice 4 [Az x]] (lens (l.length+1)) (AE true b0 27 ((l.map Az).flatten++sp.map is)) (fun v=>B0 27 4 ((l.take i++[x]++l.drop i).map Az) v):=by
 refine BG.of func261 rfl rfl (by exact Nb rfl) fun M0 w0 S rs M1 w1=> ?_
 have Gz:([Az x]:List (List Pr)).flatten.length=4:=rfl
 have G_:([Az x]:List (List Pr)).length=1:=rfl
 have Ie:((l.map Az).flatten).length=l.length*4:=by rw [CY (sz:=4) (Ak fun _=>rfl),List.length_map]
 have e1:(((i:Nat):Int)+(1:Int)).toNat=i+1:=by omega
 have e2:((i:Nat):Int).toNat=i:=by omega
 refine a2 ?_
 refine co rfl (KB rfl underlying30 BR (Ka rfl) (vl rfl) (by omega) (by omega) (by omega)) ?_
 refine a2 ?_
 refine co rfl (CW rfl underlying30 (vl rfl)) ?_
 refine ac ?_
 refine an ?_ ?_<;>intro h1 q1
 simp at h1
 refine a2 ?_
 refine co rfl (EJ rfl underlying30 (Ka rfl)) ?_
 refine a2 ?_
 refine HH 0 1 2 7 8 22 rfl ?_
 refine Tr.cn rfl ?_ ?_<;>intro h2 q2
 refine Tr.seq (Tr.Jb (sz:=4) 0 rfl (rows:=l.map Az) (sp:=sp) rfl (by simp) hc hm hq ?_)
 refine ap ?_
 refine TO.Ex 0 rfl rfl (by decide) (EK rfl rfl (by decide) rfl underlying30 BR J7 HP rfl (by decide) (by decide) (vl rfl) (vl rfl) (Ak fun _=>rfl) (Nat.zero_lt_succ _) (by simp only [List.length_map,List.length_cons,List.length_nil];unfold maxLen;omega) (by simp only [List.length_map,List.length_cons,List.length_nil];omega)) (fun v1=> ?_)
 refine ap ?_
 refine Tr.ret (Fin.AF ?_)
 refine Fin.Gc rfl rfl ?_ (by rintro _ _ _ ⟨rfl,_⟩;rw [show i=l.length by omega,List.take_length,List.drop_length,List.append_nil,List.map_append];rfl)
 · exact Pr.le_trans (A7 _ _) (Pr.le_of_eq (by simp))
 refine a2 ?_
 refine co rfl (Ti rfl underlying30 (Ka rfl)) ?_
 refine an ?_ ?_<;>intro h3 q3
 refine ap ?_
 refine tp rfl (Fg rfl underlying30 BR (Ka rfl) (vl rfl) (by omega) (by omega) (by omega) (by omega)) ?_
 refine ap ?_
 refine TO.pad ?_
 refine TO.bp 0 1 rfl rfl rfl rfl (by decide) rfl underlying30 underlying3 BR J7 HP rfl (by decide) (by decide) (vl rfl) (vl rfl) (i:=i) (k:=l.length+1-i) (by omega) (by simp only [List.length_append,List.length_take,List.length_drop,List.length_map,Ie,G_,Gz];omega) (by omega) (by omega) (by unfold maxLen;omega) (by omega) (fun b1 eP eR hg1 hm1 hs1=> ?_)
 refine ap ?_
 refine Ej 0 1 2 7 9 rfl (Tr.seq ?_)
 have hsz:eR.length=(eP-i)*4:=by have:=hs1;rw [List.length_take,List.length_append,Ie] at this;omega
 refine Tr.PU (sz:=4) (l.map Az) 1 0 rfl rfl (Pr.le_trans (Cy _ _) (Pr.le_of_eq (by simp))) (Ak fun _=>rfl) (by rw [List.length_map];exact hc) hm (by rw [List.length_map,List.length_map];omega) ?_
 refine ap ?_
 refine tp rfl (CA rfl underlying30 BR (vl rfl) (vl rfl) (by omega) (by omega) (by omega)) (tm rfl ?_)
 refine TO.Er 0 rfl rfl (by decide) (G9 rfl rfl rfl underlying30 BR (by decide) (vl rfl) (vl rfl) (by omega) (by omega) (by simp only [List.length_append,List.length_take,List.length_drop,List.length_map,Ie,G_,Gz];omega) rfl) ?_
 refine ap ?_
 refine Tr.seq (Tr.rx ?_)
 refine ay ?_
 refine xo rfl (fun _=>CA rfl underlying30 BR (vl rfl) (vl rfl) (by omega) (by omega) (by omega)) ?_
 refine ay ?_
 refine xo rfl (fun _=>DI rfl underlying30 BR (Kb rfl) (vl rfl) (by omega) (by simp;omega)) ?_
 refine Cx.ef 0 rfl rfl (by decide) (G9 rfl rfl rfl underlying30 BR (by decide) (vl rfl) (vl rfl) (by simp only [List.length_append,List.length_take,List.length_drop,List.length_map,Ie,G_,Gz];omega) (by simp only [List.length_append,List.length_take,List.length_drop,List.length_map,Ie,G_,Gz];omega) (by simp only [List.length_append,List.length_take,List.length_drop,List.length_map,Ie,G_,Gz];omega) rfl) ?_
 refine Cx.nil ⟨by kernel_rfl,?_⟩
 refine BV.done YC (Fin.go (Es 9 rfl ?_))
 refine ac ?_
 refine Tr.ret (Fin.AF ?_)
 refine Fin.Kw (sz:=4) 0 rfl (rows:=((l.take i++[x]++l.drop i).map Az)) (sp:=eR.drop ((l.length+1-i)*4)) (m:=i+(l.length+1-i)) (NN (a:=i*4) (z:=4) (Z:=eR.map is) (N:=l.length*4) Ie (by omega) rfl (by rw [List.length_map];omega) (by omega) (by omega) (by omega) (by omega) (by rw [List.length_drop,List.length_map];omega) (by rw [←List.map_drop,GF (f:=Az) (sz:=4) (fun _=>rfl),e2]) (by rw [List.map_drop,show (l.length+1-i)*4=l.length*4+4-i*4 by omega,←Iv (f:=Az) (sz:=4) (l:=l) (i:=i) (x:=x) (fun _=>rfl)];rfl)) (by simp only [List.length_map,List.length_append,List.length_take,List.length_drop,List.length_cons,List.length_nil];omega) (by omega) hm1 (by rw [List.length_drop];omega) ?_
 refine Fin.drop 1 ?_
 refine Fin.Gc rfl rfl ?_ (by rintro _ _ _ rfl;rfl)
 · rintro _ _ _ rfl;exact ⟨_,_,by congr 1;omega⟩
 refine a2 ?_
 refine co rfl (KA rfl underlying30 BR (Ka rfl) (vl rfl) (by omega) (by omega) (by omega)) ?_
 refine ac ?_
 refine Ej 0 1 2 7 8 rfl ?_
 refine ap ?_
 refine tp rfl (CA rfl underlying30 BR (vl rfl) (vl rfl) (by omega) (by omega) (by omega)) ?_
 refine TO.rd 0 rfl rfl rfl (by decide) (LX (tR:=4) rfl func289 (by kernel_rfl) (by kernel_rfl) (by kernel_rfl) (by kernel_rfl) underlying30 BR (by decide) (vl rfl) (by exact Nat.zero_lt_succ _) (vl rfl) (by simp only [List.length_append,List.length_take,List.length_drop,List.length_map,Ie,G_,Gz];omega)) ?_
 refine ap ?_
 refine Tr.cn rfl ?_ ?_<;>intro h4 q4
 refine Tr.seq (Tr.rx ?_)
 refine ay ?_
 refine xo rfl (fun _=>CA rfl underlying30 BR (vl rfl) (vl rfl) (by omega) (by omega) (by omega)) ?_
 refine ay ?_
 refine xo rfl (fun _=>CA rfl underlying30 BR (vl rfl) (vl rfl) (by omega) (by omega) (by omega)) ?_
 refine Cx.ef 0 rfl rfl (by decide) (Qo (m:=l.length-i) rfl rfl rfl underlying30 BR (vl rfl) (vl rfl) (by show _=min _ _;omega) (by simp only [List.length_append,List.length_take,List.length_drop,List.length_map,Ie,G_,Gz];omega) (by simp only [List.length_append,List.length_take,List.length_drop,List.length_map,Ie,G_,Gz];omega) rfl) ?_
 refine Cx.nil ⟨by kernel_rfl,?_⟩
 refine BV.done ZS (Fin.go (Cg 0 1 2 rfl ?_))
 refine ap ?_
 refine tp rfl (CA rfl underlying30 BR (vl rfl) (vl rfl) (by omega) (by omega) (by omega)) (tm rfl ?_)
 refine TO.Er 0 rfl rfl (by decide) (G9 rfl rfl rfl underlying30 BR (by decide) (vl rfl) (vl rfl) (by omega) (by omega) (by simp only [List.length_append,List.length_take,List.length_drop,List.length_map,Ie,G_,Gz];omega) rfl) ?_
 refine ap ?_
 refine ac ?_
 refine Tr.ret (Fin.AF ?_)
 refine Fin.Kw (sz:=4) 0 rfl (rows:=((l.take i++[x]++l.drop i).map Az)) (sp:=sp.drop 4) (m:=l.length+1) (NM (a:=i*4) (z:=4) (S:=sp.map is) (N:=l.length*4) Ie (by omega) rfl (by rw [List.length_map];omega) (by omega) (by omega) (by omega) (by omega) (by omega) (by omega) (by rw [List.map_drop,←Iv (f:=Az) (sz:=4) (l:=l) (i:=i) (x:=x) (fun _=>rfl)];rfl)) (by simp only [List.length_map,List.length_append,List.length_take,List.length_drop,List.length_cons,List.length_nil];omega) (by omega) hm (by rw [List.length_drop];omega) ?_
 refine Fin.Gc rfl rfl ?_ (by rintro _ _ _ rfl;rfl)
 · rintro _ _ _ rfl;exact ⟨_,_,by rfl⟩
 exact absurd h4 (by decide)
theorem Zq:Entry Tryz.prog 261:=⟨_,Tryz.func261,rfl,rfl⟩
theorem Zr {x:Du}  :BG prog 261 [full 4 [],int ((0:Nat):Int),slice 4 [Az x]] (lens 1) (Bm) (fun v=>C_ 27 4 [Az x] v):=by
 refine BG.of func261 rfl rfl (by exact Nb rfl) fun M0 w0 S rs M1 w1=> ?_
 have G_:([Az x]:List (List Pr)).length=1:=rfl
 refine a2 ?_
 refine co rfl (DI rfl underlying30 BR (Kf rfl) (vl rfl) (by omega) (by omega)) ?_
 refine a2 ?_
 refine co rfl (CW rfl underlying30 (vl rfl)) ?_
 refine ac ?_
 refine an ?_ ?_<;>intro h1 q1
 simp at h1
 refine a2 ?_
 refine co rfl (CW rfl underlying30 (Kf rfl)) ?_
 refine a2 ?_
 refine HH 0 1 2 7 8 22 rfl ?_
 refine Tr.cn rfl ?_ ?_<;>intro h2 q2
 refine ap ?_
 refine TO.pad ?_
 refine TO.Ex 0 rfl rfl (by decide) (FM rfl rfl (by decide) rfl underlying30 BR J7 HP rfl (by decide) (by decide) (vl rfl) (vl rfl) (by simp) (by simp;unfold maxLen;omega) (by simp)) (fun v1=> ?_)
 refine ap ?_
 refine Tr.ret (Fin.AF (Fin.drop 1 ?_))
 refine Fin.Gc rfl rfl ?_ (by intro _ _ _ h;rw [h.1])
 · exact Pr.le_trans (A7 _ _) (Lr)
 exact absurd h2 (by decide)
theorem Zs {l:List (Du)} {x:Du} {v:Value} {i:Nat} (hi:i≤l.length) (hl:l.length≤1000000):BG Tryz.prog 261 [is v,int ((i:Nat):Int),slice 4 [Az x]] (slice 4 ((l.take i++[x]++l.drop i).map Az)) (Af 27 4 (l.map Az) v) (fun _=>Bm):=by
 refine BG.ZA (e:=27) (m:=l.length+1) (Ak fun _=>rfl) (BG.Iu Zq (fun h0=> ?_) (fun b cap sp hc hm hq=> ?_))
 ·
  have SD:l=[]:=by simpa using h0
  subst SD
  have hi0:i=0:=by simpa using hi
  subst hi0
  exact BG.Jc Zr
 ·
  rw [List.length_map] at hc hq ⊢
  exact Zp hi hl hc hm (by omega)
theorem Zt {l:List (Du)} {v:Value} {i:Nat} (hi:i<l.length) (hl:l.length≤1000000):BG Tryz.prog 214 [is v,int ((i:Nat):Int),int (((i:Nat):Int)+1)] (slice 4 ((l.eraseIdx i).map Az)) (Af 27 4 (l.map Az) v) (fun _=>Bm):=by
 refine BG.ZA (e:=27) (m:=l.length-1) (Ak fun _=>rfl) (BG.Iu Zl (fun h0=> ?_) (fun b cap sp hc hm hq=> ?_))
 ·
  have SD:l=[]:=by simpa using h0
  subst SD;simp at hi
 ·
  rw [List.length_map] at hc hq ⊢
  exact Zk hi hl hc hm (by omega)
theorem Ts {l:List Int} {x:Int} {v:Value}:BG Tryz.prog 207 [is v,int x] (int (idx (fun y=>x==y) l)) (Af 3 1 (l.map fun n=>[int n]) v) (fun _=>Af 3 1 (l.map fun n=>[int n]) v):=BG.NJ (Ak fun _=>rfl) NO
theorem Pk {l:List Int} {x:Int} {v:Value}:BG Tryz.prog 190 [is v,int x] (bool (l.any fun y=>x==y)) (Af 3 1 (l.map fun n=>[int n]) v) (fun _=>Af 3 1 (l.map fun n=>[int n]) v):=BG.NJ (Ak fun _=>rfl) IX
structure Du.small (x:Du):Prop where
 chain:x.chain.length≤925904528640
 names:∀c∈x.chain,c.names.length≤8796093022208
theorem E7 {x:Du} (hx:x.small):A_ prog 166 [agg (Az x)] (agg (Az x)):=by
 refine fo func166 rfl ⟨rfl,rfl⟩ fun M0 w0=> ?_
 have hch:=hx.chain
 refine Tr.seq (Tr.Aq ?_)
 refine TO.IJ rfl rfl (by decide) rfl (Va rfl) (fun b1=> ?_)
 refine Tl rfl rfl rfl rfl HP HO (fun b2=> ?_)
 refine ao ?_
 refine ao ?_
 refine TO.pad ?_
 refine TO.Ex 0 rfl rfl (by decide) (Ez rfl rfl (by decide) rfl (Uo (l:=x.chain) (by omega)) ⟨ke rfl,trivial⟩) (fun v1=> ?_)
 refine tp rfl (AD rfl R5 (vl rfl)) (TO.C7 2 rfl rfl (An rfl rfl (vl rfl) (Vo rfl) jH rfl (by exact Nb rfl) rfl) ?_)
 refine ao ?_
 refine ac ?_
 refine co rfl (Bc 0 rfl (E3 rfl underlying25 (Ka rfl))) ?_
 refine ac ?_
 refine Tr.block (Tr.re 11 rfl (int_eq (by rw [List.length_map])) (Tr.BF [(1,_),(2,_),(10,_),(11,_)] (VX rfl) (fun k:Nat=>[(12,int ((k:Nat):Int))]) (fun k:Nat=>k≤(x.chain).length) (fun k:Nat=>(x.chain).length-k) 0 (Nat.zero_le _) ⟨ke rfl,trivial⟩ ?_))
 rintro k BN
 refine ac ?_
 refine Tr.seq ?_
 refine Tr.cn rfl ?_ ?_<;>intro h1 q1
 have Ac:k<(x.chain).length:=AU h1
 obtain ⟨c,Aa⟩:=at_ Ac
 have hcn:=hx.names c (List.mem_of_getElem? Aa)
 refine ac ?_
 refine ao ?_
 refine tp rfl (Bc 0 rfl (D1 rfl underlying25 CC (Ka rfl) (vl rfl) (by omega) (by rw [List.length_map];omega))) ?_
 refine tp rfl (Bc 0 rfl (EL rfl Dh CC (vl rfl) (Ak fun _=>rfl) (by rw [Int.toNat_natCast,List.getElem?_map,Aa];rfl))) ?_
 refine Tl rfl rfl rfl rfl z131 Gg (fun b3=> ?_)
 refine tm rfl ?_
 refine sf 0 4 ⟨rfl,rfl,rfl⟩ rfl rfl rfl rfl ?_
 refine ao ?_
 refine Tr.rx ?_
 refine ax ?_
 refine xo rfl (fun _=>B1 (Ur hcn) rfl rfl) ?_
 refine HG 0 rfl rfl (D1 rfl underlying25 CC (Ka rfl) (vl rfl) (by omega) (by rw [List.length_map];omega)) ?_
 refine xo rfl (fun _=>SE rfl Qg (vl rfl)) ?_
 refine Cx.C7 0 rfl rfl (Dt rfl rfl (vl rfl) (Vo rfl) jM rfl (Ak fun _=>rfl) (by rw [Int.toNat_natCast,List.getElem?_map,Aa];rfl) (by decide) (HA (f:=CZ) Aa rfl)) ?_
 refine Cx.nil ⟨by kernel_rfl,?_⟩
 refine BV.done YC ?_
 refine ac ?_
 refine Ej 1 2 10 11 12 rfl ?_
 refine ac ?_
 exact Fin.AM (k+1) ⟨Ac,by omega⟩ ⟨⟨_,rfl,AK k⟩,ke rfl,ke rfl,ke rfl,ke rfl,trivial⟩
 have A4:k=(x.chain).length:=by have:=AV h1;omega
 subst A4
 refine ac ?_
 refine Tr.seq (Tr.Fv 2 0 3 rfl rfl (by decide) rfl (Cy _ _) (Ak fun _=>rfl) ?_)
 refine ao ?_
 refine TO.AY 1 rfl rfl rfl (vl rfl) (Va rfl) rfl BR rfl rfl ?_
 refine ao ?_
 refine Tr.drop 0 (Tr.drop 1 (Tr.ret (Fin.CU rfl (AW.cell 0 rfl rfl E2 BR rfl (Lr)) ?_)))
 · exact Lr
structure BA where
 AP:Int
 kind:Int
 number:Int
 at_:Int
 Bj:Du
abbrev Am (c:BA):List Pr:=[int c.AP,int c.kind,int c.number,int c.at_,int c.Bj.Bp,int c.Bj.bits,int c.Bj.BX,Gh c.Bj.chain]
abbrev NX (c b:BA):List Pr:=[int c.AP,int c.kind,int c.number,int c.at_,int c.Bj.Bp,int c.Bj.bits,int c.Bj.BX,Gh c.Bj.chain,int b.AP,int b.kind,int b.number,int b.at_,int b.Bj.Bp,int b.Bj.bits,int b.Bj.BX,Gh b.Bj.chain]
abbrev Wo (e:A5) (p3 p5 p6 p7:Pr):List Pr:=[str e.name,int e.least,int e.most,p3,bool e.own,p5,p6,p7,bool e.Fq]
abbrev BP (wb ob:Nat) (c b:BA):BO:=AE true wb 159 (ptr ob 0::NX c b)
abbrev Bf (ob:Nat) (e:A5) (p3 p5 p6 p7:Pr):BO:=AE true ob 32 (Wo e p3 p5 p6 p7)
def A0 (key:Int) (l:List Du):Int:=idx (fun x=>x.BX==key) l
theorem Iz {β:Type} {p:β→Bool} {l:List β} (h:0≤idx p l):∃x,l[(idx p l).toNat]? =some x∧p x=true∧(idx p l).toNat<l.length:=by
 unfold idx at*
 cases hf:l.findIdx? p with
 |none=>rw [hf] at h;simp at h
 |some i=>
  rw [List.findIdx?_eq_some_iff_getElem] at hf
  obtain ⟨h1,h2,_⟩:=hf
  refine ⟨l[i],?_,h2,by simpa using h1⟩
  simp
theorem eS {key:Int} {x:Du}  :A_ prog 260 [agg (Az x),ref [int key]] (bool (x.BX==key)):=by
 refine fo func260 rfl ⟨rfl,rfl⟩ fun M0 w0=> ?_
 refine a3 ?_
 · exact Lr
theorem eT:Entry Tryz.prog 260:=⟨_,Tryz.func260,rfl,rfl⟩
theorem eU {e:A5} {key:Int} {YB:List Pr}  :A_ prog 210 [ref (ref (Ah e)::YB),int key] (int (A0 key e.ids)):=by
 refine fo func210 rfl ⟨rfl,rfl⟩ fun M0 w0=> ?_
 refine a2 ?_
 refine co rfl (Ae rfl (Wn (l:=e.ids) (p:=fun x=>x.BX==key)) ⟨ke rfl,⟨_,rfl,DG (dom:=fun x:Du=>[agg (Az x)]) (res:=fun x=>bool (x.BX==key)) eT (fun x=>eS (key:=key) (x:=x))⟩,trivial⟩) ?_
 refine a2 ?_
 · exact Lr
theorem Zu {c b:BA} {x:Du} {q:Pr}  :A_ prog 213 [agg (Az x),ref [ref (q::NX c b)]] (bool (x.BX==c.number)):=by
 refine fo func213 rfl ⟨rfl,rfl⟩ fun M0 w0=> ?_
 refine a3 ?_
 · exact Lr
theorem Zv:Entry Tryz.prog 213:=⟨_,Tryz.func213,rfl,rfl⟩
theorem Og {e:A5} {c b:BA} {wb ob:Nat} {p3 p6 p7:Pr} {v:Value} {key:Int} (h3:p3=ints e.AJ) (h6:p6=ints e.anchors) (h7:p7=ints e.hashes):At Tryz.prog 210 [ptr wb 0,int key] [BP wb ob c b,Bf ob e p3 (is v) p6 p7,Af 27 4 (e.ids.map Az) v] (int (A0 key e.ids)) [BP wb ob c b,Bf ob e p3 (is v) p6 p7,Af 27 4 (e.ids.map Az) v]:=by
 subst h3;subst h6;subst h7
 exact At.look (k:=5) (rows:=Ah e) (sz:=4) rfl (Ak fun _=>rfl) rfl eU
theorem Tt {l:List Du} {c b:BA} {wb ob:Nat} {v:Value} {k:Nat}:At prog 212 [Cp.part 4 v k,fn (.func 213) [ref [ptr wb 0]]] [BP wb ob c b,Af 27 4 (l.map Az) v] (bool ((l.drop k).any fun x=>x.BX==c.number)) [BP wb ob c b,Af 27 4 (l.map Az) v]:=by
 refine At.WG (Ak fun _=>rfl) ?_
 refine A_.le (eO (l:=l.drop k) (p:=fun x=>x.BX==c.number)) ?_ (Lr)
 intro M w vs hv
 match vs,hv with
 |[u0,u1],G_=>
  exact ⟨by have:=G_.1;rw [←List.map_drop] at this;exact this,DG (dom:=fun x:Du=>[agg (Az x)]) (res:=fun x=>bool (x.BX==c.number)) Zv (fun x=>Zu (c:=c) (b:=b) (x:=x)) _ _ _ G_.2.1,trivial⟩
theorem Pm {e:A5} {c b:BA} {wb ob:Nat} {v:Value} {p5 p6 p7:Pr}  (h:(idx (fun y=>c.number==y) e.AJ)<0):At prog 168 [ptr wb 0] [BP wb ob c b,Bf ob e (is v) p5 p6 p7,Af 3 1 (e.AJ.map fun n=>[int n]) v] (int 41) []:=by
 refine At.of func168 rfl rfl (by exact Nb rfl) fun M0 w0 S rs M1 w1=> ?_
 refine ac ?_
 refine Tr.seq (Tr.rx ?_)
 refine ay ?_
 refine Cx.ef 2 rfl rfl (by decide) (AQ rfl rfl (by decide) rfl (Ts) ⟨ke rfl,ke rfl,trivial⟩) (xm rfl ?_)
 refine Cx.nil ⟨by kernel_rfl,?_⟩
 refine BV.done I8 (Fin.go (B3 0 3 rfl ?_))
 refine an ?_ ?_<;>intro h1 q1
 refine ac ?_
 refine Tr.ret (Fin.AF (Fin.drop 0 (Fin.drop 0 (Fin.drop 0 (Fin.CN rfl (AW.tmp rfl (Lr)) ?_ (List.Perm.refl _))))))
 · exact Lr
 exfalso;have:=q1;omega
theorem Pn {e:A5} {c b:BA} {wb ob:Nat} {v:Value} {p5 p6 p7:Pr}  (h:0≤(idx (fun y=>c.number==y) e.AJ)) (hs:e.AJ.length≤1000000):At prog 168 [ptr wb 0] [BP wb ob c b,Bf ob e (is v) p5 p6 p7,Af 3 1 (e.AJ.map fun n=>[int n]) v] (int 0) [BP wb ob c ⟨b.AP,1,c.number,(idx (fun y=>c.number==y) e.AJ),b.Bj⟩,Bf ob e (ints (e.AJ.eraseIdx (idx (fun y=>c.number==y) e.AJ).toNat)) p5 p6 p7]:=by
 refine At.of func168 rfl rfl (by exact Nb rfl) fun M0 w0 S rs M1 w1=> ?_
 obtain ⟨x_,hx_,_,lB⟩:=Iz h
 refine ac ?_
 refine Tr.seq (Tr.rx ?_)
 refine ay ?_
 refine Cx.ef 2 rfl rfl (by decide) (AQ rfl rfl (by decide) rfl (Ts) ⟨ke rfl,ke rfl,trivial⟩) (xm rfl ?_)
 refine Cx.nil ⟨by kernel_rfl,?_⟩
 refine BV.done I8 (Fin.go (B3 0 3 rfl ?_))
 refine an ?_ ?_<;>intro h1 q1
 exfalso;have:=q1;omega
 refine ac ?_
 refine Tr.seq (Tr.rx ?_)
 refine ay ?_
 refine Cx.ef 2 rfl rfl (by decide) (AQ rfl rfl (by decide) rfl (Pj (l:=e.AJ) (i:=(idx (fun y=>c.number==y) e.AJ).toNat) (by omega) hs) ⟨ke rfl,⟨_,rfl,int_eq (by omega)⟩,⟨_,rfl,int_eq (by omega)⟩,trivial⟩) ?_
 refine ay ?_
 refine Cx.nil ⟨by kernel_rfl,?_⟩
 refine BV.done I8 (Fin.go (B3 0 3 rfl ?_))
 refine ap ?_
 refine Tr.weak [] trivial ?_
 refine ac ?_
 refine Tr.ret (Fin.drop 2 (Fin.CN rfl (AW.tmp rfl (Lr)) ?_ (List.Perm.refl _)))
 · exact Lr
theorem Us {e:A5} {x:Du} {at_:Int} {ob:Nat} {v:Value} {p3 p6 p7:Pr}  (hr:¬(0≤at_∧at_≤(e.ids.length:Nat))):At prog 211 [ptr ob 5,int at_,agg (Az x)] [Bf ob e p3 (is v) p6 p7,Af 27 4 (e.ids.map Az) v] (int 2) []:=by
 refine At.of func211 rfl rfl (by exact Nb rfl) fun M0 w0 S rs M1 w1=>(Tr.seq ?_)
 have hml:(e.ids.map Az).length=e.ids.length:=List.length_map _
 refine ac ?_
 refine ag ?_ ?_<;>intro h1 q1
 have hq9:=q1
 refine a2 ?_
 refine Tr.ret (Fin.AF (Fin.drop 0 (Fin.drop 0 (Fin.CN rfl (AW.tmp rfl (Lr)) ?_ (List.Perm.refl _)))))
 · exact Lr
 refine ac ?_
 refine cy h1 rfl (Bc 1 rfl (E3 rfl underlying30 (vl rfl))) ?_
 refine an ?_ ?_<;>intro h2 q2
 refine ac ?_
 refine Tr.ret (Fin.AF (Fin.drop 0 (Fin.drop 0 (Fin.CN rfl (AW.tmp rfl (Lr)) ?_ (List.Perm.refl _)))))
 · exact Lr
 exfalso;simp_all
theorem Q1 {e:A5} {x:Du} {at_:Int} {ob:Nat} {v:Value} {p3 p6 p7:Pr}  (hr:0≤at_∧at_≤(e.ids.length:Nat)) (hl:e.ids.length≤1000000):At prog 211 [ptr ob 5,int at_,agg (Az x)] [Bf ob e p3 (is v) p6 p7,Af 27 4 (e.ids.map Az) v] (int 0) [Bf ob e p3 (Eu (e.ids.take at_.toNat++[x]++e.ids.drop at_.toNat)) p6 p7]:=by
 refine At.of func211 rfl rfl (by exact Nb rfl) fun M0 w0 S rs M1 w1=>(Tr.seq ?_)
 have hml:(e.ids.map Az).length=e.ids.length:=List.length_map _
 refine ac ?_
 refine ag ?_ ?_<;>intro h1 q1
 exfalso;have:=q1;omega
 refine ac ?_
 refine cy h1 rfl (Bc 1 rfl (E3 rfl underlying30 (vl rfl))) ?_
 refine an ?_ ?_<;>intro h2 q2
 exfalso;simp_all;omega
 refine ac ?_
 refine Tr.seq (Tr.rx ?_)
 refine ay ?_
 refine xo rfl (fun _=>AG (xs:=[.tmp 22]) (rows:=[_]) rfl rfl underlying30 BR HP rfl (by decide) ⟨⟨(by exact rfl),(Va rfl)⟩,trivial⟩ (by decide)) ?_
 refine Cx.ef 1 rfl rfl (by decide) (AQ rfl rfl (by decide) rfl (Zs (l:=e.ids) (x:=x) (i:=at_.toNat) (by omega) hl) ⟨ke rfl,⟨_,rfl,int_eq (by omega)⟩,(Kf rfl),trivial⟩) ?_
 refine ay ?_
 refine Cx.nil ⟨by kernel_rfl,?_⟩
 refine BV.done YC (Fin.go (Tr.weak [] trivial ?_))
 refine ac ?_
 refine Tr.ret (Fin.drop 1 (Fin.CN rfl (AW.tmp rfl (Lr)) ?_ (List.Perm.refl _)))
 · exact Lr
theorem At.perm {P:Program} {f:FuncId} {args:List Pr} {pre post post':List BO} {res:Pr} (h:At P f args pre res post) (hp:post.Perm post'):At P f args pre res post':=
 ⟨h.1,fun M0 w0 S rs M w vs hI hv=>(h.2 M0 w0 S rs M w vs hI hv).mono fun _e _w' ⟨v,M',x,h1,h2,h3,h4,h5⟩=>⟨v,M',x,h1,h2,h3,h4,BU.perm (hp.append_right rs) h5⟩⟩
theorem Ut {e:A5} {c b:BA} {wb ob:Nat} {v:Value}  (hx:c.Bj.small) (hr:¬(0≤c.at_∧c.at_≤(e.ids.length:Nat))):At prog 171 [ptr wb 0] [BP wb ob c b,Bf ob e (ints e.AJ) (is v) (ints e.anchors) (ints e.hashes),Af 27 4 (e.ids.map Az) v] (int 2) []:=by
 refine At.of func171 rfl rfl (by exact Nb rfl) fun M0 w0 S rs M1 w1=> ?_
 refine ac ?_
 refine ap ?_
 refine TO.C5 _ rfl rfl (by decide) rfl (Og (e:=e) (c:=c) (b:=b) (key:=c.Bj.BX) rfl rfl rfl) ⟨ke rfl,ke rfl,trivial⟩ ((AO (j:=0) rfl).trans (List.Perm.cons _ ((AO (j:=0) rfl).trans (List.Perm.cons _ ((AO (j:=0) rfl).trans (List.Perm.cons _ (List.Perm.refl _))))))) ?_
 refine ap ?_
 refine Tr.seq (Tr.seq (Tr.DN mixed 17 (by kernel_rfl) (AR.op rfl rfl (by decide) (BQ rfl (vl rfl)) (AR.op rfl rfl (by decide) (Aw rfl (vl rfl)) (AR.op rfl rfl (by decide) (AD rfl HS (vl rfl)) (AR.op rfl rfl (by decide) (Bc 0 rfl (BL rfl JV (vl rfl) rfl)) (AR.op rfl rfl (by decide) (Aw rfl (vl rfl)) (AR.op rfl rfl (by decide) (AD rfl EC (vl rfl)) (AR.op rfl rfl (by decide) (BQ rfl (vl rfl)) (AR.op rfl rfl (by decide) (Aw rfl (vl rfl)) (AR.op rfl rfl (by decide) (AD rfl DY (vl rfl)) (AR.op rfl rfl (by decide) (AD rfl JS (vl rfl)) (AR.op rfl rfl (by decide) (Bc 0 rfl (BL rfl CV (vl rfl) rfl)) ?_)))))))))))))
 refine AR.op rfl rfl (by decide) (BQ rfl (vl rfl)) (AR.op rfl rfl (by decide) (Aw rfl (vl rfl)) (AR.op rfl rfl (by decide) (AD rfl DY (vl rfl)) (AR.op rfl rfl (by decide) (AD rfl Kq (vl rfl)) (AR.op rfl rfl (by decide) (Bc 0 rfl (B8 rfl E2 BR (vl rfl) rfl rfl)) ?_))))
 refine AR.op rfl rfl (by decide) (B1 (E7 (x:=c.Bj) hx) rfl rfl) ?_
 refine AR.turn _ rfl (by decide) (EM _ rfl rfl (Us (e:=e) (x:=c.Bj) (at_:=c.at_) hr) ⟨ke rfl,ke rfl,ke rfl,trivial⟩ ((AO (j:=1) rfl).trans (List.Perm.cons _ ((AO (j:=1) rfl).trans (List.Perm.cons _ (List.Perm.refl _)))))) ?_
 refine ac ?_
 refine Cg 0 3 4 rfl ?_
 refine an ?_ ?_<;>intro h1 q1
 refine ac ?_
 refine Tr.ret (Fin.AF (Fin.drop 0 (Fin.CN rfl (AW.tmp rfl (Lr)) ?_ (List.Perm.refl _))))
 · exact Lr
 exact absurd h1 (by decide)
theorem Uu {e:A5} {c b:BA} {wb ob:Nat} {v:Value}  (hx:c.Bj.small) (hr:0≤c.at_∧c.at_≤(e.ids.length:Nat)) (hl:e.ids.length≤1000000) (h:0≤A0 c.Bj.BX e.ids):At prog 171 [ptr wb 0] [BP wb ob c b,Bf ob e (ints e.AJ) (is v) (ints e.anchors) (ints e.hashes),Af 27 4 (e.ids.map Az) v] (int 41) []:=by
 refine At.of func171 rfl rfl (by exact Nb rfl) fun M0 w0 S rs M1 w1=> ?_
 refine ac ?_
 refine ap ?_
 refine TO.C5 _ rfl rfl (by decide) rfl (Og (e:=e) (c:=c) (b:=b) (key:=c.Bj.BX) rfl rfl rfl) ⟨ke rfl,ke rfl,trivial⟩ ((AO (j:=0) rfl).trans (List.Perm.cons _ ((AO (j:=0) rfl).trans (List.Perm.cons _ ((AO (j:=0) rfl).trans (List.Perm.cons _ (List.Perm.refl _))))))) ?_
 refine ap ?_
 refine Tr.seq (Tr.seq (Tr.DN mixed 17 (by kernel_rfl) (AR.op rfl rfl (by decide) (BQ rfl (vl rfl)) (AR.op rfl rfl (by decide) (Aw rfl (vl rfl)) (AR.op rfl rfl (by decide) (AD rfl HS (vl rfl)) (AR.op rfl rfl (by decide) (Bc 0 rfl (BL rfl JV (vl rfl) rfl)) (AR.op rfl rfl (by decide) (Aw rfl (vl rfl)) (AR.op rfl rfl (by decide) (AD rfl EC (vl rfl)) (AR.op rfl rfl (by decide) (BQ rfl (vl rfl)) (AR.op rfl rfl (by decide) (Aw rfl (vl rfl)) (AR.op rfl rfl (by decide) (AD rfl DY (vl rfl)) (AR.op rfl rfl (by decide) (AD rfl JS (vl rfl)) (AR.op rfl rfl (by decide) (Bc 0 rfl (BL rfl CV (vl rfl) rfl)) ?_)))))))))))))
 refine AR.op rfl rfl (by decide) (BQ rfl (vl rfl)) (AR.op rfl rfl (by decide) (Aw rfl (vl rfl)) (AR.op rfl rfl (by decide) (AD rfl DY (vl rfl)) (AR.op rfl rfl (by decide) (AD rfl Kq (vl rfl)) (AR.op rfl rfl (by decide) (Bc 0 rfl (B8 rfl E2 BR (vl rfl) rfl rfl)) ?_))))
 refine AR.op rfl rfl (by decide) (B1 (E7 (x:=c.Bj) hx) rfl rfl) ?_
 refine AR.turn _ rfl (by decide) (EM _ rfl rfl (Q1 (e:=e) (x:=c.Bj) (at_:=c.at_) hr hl) ⟨ke rfl,ke rfl,ke rfl,trivial⟩ ((AO (j:=1) rfl).trans (List.Perm.cons _ ((AO (j:=1) rfl).trans (List.Perm.cons _ (List.Perm.refl _)))))) ?_
 refine ac ?_
 refine Cg 0 3 4 rfl ?_
 refine an ?_ ?_<;>intro h1 q1
 exact absurd h1 (by decide)
 refine ac ?_
 refine an ?_ ?_<;>intro h2 q2
 refine ac ?_
 refine Tr.ret (Fin.AF (Fin.drop 0 (Fin.drop 0 (Fin.CN rfl (AW.tmp rfl (Lr)) ?_ (List.Perm.refl _)))))
 · exact Lr
 exfalso;have:=q2;omega
theorem Uv {e:A5} {c b:BA} {wb ob:Nat} {v:Value}  (hx:c.Bj.small) (hr:0≤c.at_∧c.at_≤(e.ids.length:Nat)) (hl:e.ids.length≤1000000) (h:A0 c.Bj.BX e.ids<0):At prog 171 [ptr wb 0] [BP wb ob c b,Bf ob e (ints e.AJ) (is v) (ints e.anchors) (ints e.hashes),Af 27 4 (e.ids.map Az) v] (int 0) [Bf ob e (ints e.AJ) (Eu (e.ids.take c.at_.toNat++[c.Bj]++e.ids.drop c.at_.toNat)) (ints e.anchors) (ints e.hashes),BP wb ob c ⟨b.AP,6,c.Bj.BX,b.at_,b.Bj⟩]:=by
 refine At.of func171 rfl rfl (by exact Nb rfl) fun M0 w0 S rs M1 w1=> ?_
 refine ac ?_
 refine ap ?_
 refine TO.C5 _ rfl rfl (by decide) rfl (Og (e:=e) (c:=c) (b:=b) (key:=c.Bj.BX) rfl rfl rfl) ⟨ke rfl,ke rfl,trivial⟩ ((AO (j:=0) rfl).trans (List.Perm.cons _ ((AO (j:=0) rfl).trans (List.Perm.cons _ ((AO (j:=0) rfl).trans (List.Perm.cons _ (List.Perm.refl _))))))) ?_
 refine ap ?_
 refine Tr.seq (Tr.seq (Tr.DN mixed 17 (by kernel_rfl) (AR.op rfl rfl (by decide) (BQ rfl (vl rfl)) (AR.op rfl rfl (by decide) (Aw rfl (vl rfl)) (AR.op rfl rfl (by decide) (AD rfl HS (vl rfl)) (AR.op rfl rfl (by decide) (Bc 0 rfl (BL rfl JV (vl rfl) rfl)) (AR.op rfl rfl (by decide) (Aw rfl (vl rfl)) (AR.op rfl rfl (by decide) (AD rfl EC (vl rfl)) (AR.op rfl rfl (by decide) (BQ rfl (vl rfl)) (AR.op rfl rfl (by decide) (Aw rfl (vl rfl)) (AR.op rfl rfl (by decide) (AD rfl DY (vl rfl)) (AR.op rfl rfl (by decide) (AD rfl JS (vl rfl)) (AR.op rfl rfl (by decide) (Bc 0 rfl (BL rfl CV (vl rfl) rfl)) ?_)))))))))))))
 refine AR.op rfl rfl (by decide) (BQ rfl (vl rfl)) (AR.op rfl rfl (by decide) (Aw rfl (vl rfl)) (AR.op rfl rfl (by decide) (AD rfl DY (vl rfl)) (AR.op rfl rfl (by decide) (AD rfl Kq (vl rfl)) (AR.op rfl rfl (by decide) (Bc 0 rfl (B8 rfl E2 BR (vl rfl) rfl rfl)) ?_))))
 refine AR.op rfl rfl (by decide) (B1 (E7 (x:=c.Bj) hx) rfl rfl) ?_
 refine AR.turn _ rfl (by decide) (EM _ rfl rfl (Q1 (e:=e) (x:=c.Bj) (at_:=c.at_) hr hl) ⟨ke rfl,ke rfl,ke rfl,trivial⟩ ((AO (j:=1) rfl).trans (List.Perm.cons _ ((AO (j:=1) rfl).trans (List.Perm.cons _ (List.Perm.refl _)))))) ?_
 refine ac ?_
 refine Cg 0 3 4 rfl ?_
 refine an ?_ ?_<;>intro h1 q1
 exact absurd h1 (by decide)
 refine ac ?_
 refine an ?_ ?_<;>intro h2 q2
 exfalso;have:=q2;omega
 refine ac ?_
 refine ap ?_
 refine Tr.weak [] trivial ?_
 refine ac ?_
 refine Tr.ret (Fin.CN rfl (AW.tmp rfl (Lr)) ?_ (List.Perm.refl _))
 · exact Lr
theorem SO {e:A5} {c b:BA} {wb ob:Nat} {v:Value} {x:Du}  (h:A0 c.number e.ids<0):At prog 172 [ptr wb 0] [BP wb ob c b,Bf ob e (ints e.AJ) (is v) (ints e.anchors) (ints e.hashes),Af 27 4 (e.ids.map Az) v] (int 41) []:=by
 refine At.of func172 rfl rfl (by exact Nb rfl) fun M0 w0 S rs M1 w1=> ?_
 refine ac ?_
 refine Tr.seq (Tr.DN mixed 6 (by kernel_rfl) (AR.op rfl rfl (by decide) (E_ rfl JU rfl) (AR.op rfl rfl (by decide) (E_ rfl JU rfl) (AR.op rfl rfl (by decide) (Aw rfl (vl rfl)) (AR.op rfl rfl (by decide) (AD rfl DY (vl rfl)) (AR.op rfl rfl (by decide) (AD rfl HQ (vl rfl)) (AR.op rfl rfl (by decide) (Bc 0 rfl (BL rfl CV (vl rfl) rfl)) ?_)))))))
 refine AR.turn _ rfl (by decide) (EM _ rfl rfl (Og (e:=e) (c:=c) (b:=b) (key:=c.number) rfl rfl rfl) ⟨ke rfl,ke rfl,trivial⟩ ((AO (j:=0) rfl).trans (List.Perm.cons _ ((AO (j:=0) rfl).trans (List.Perm.cons _ ((AO (j:=0) rfl).trans (List.Perm.cons _ (List.Perm.refl _)))))))) ?_
 refine ac ?_
 refine an ?_ ?_<;>intro h1 q1
 refine ac ?_
 refine Tr.ret (Fin.AF (Fin.drop 0 (Fin.drop 0 (Fin.drop 0 (Fin.CN rfl (AW.tmp rfl (Lr)) ?_ (List.Perm.refl _))))))
 · exact Lr
 exfalso;have:=q1;omega
theorem SP {e:A5} {c b:BA} {wb ob:Nat} {v:Value} {x:Du}  (h:0≤A0 c.number e.ids) (hx:e.ids[(A0 c.number e.ids).toNat]? =some x) (ht:((e.ids.drop (A0 c.number e.ids+1).toNat).any fun x=>x.BX==c.number)=true) (hl:e.ids.length≤1000000):At prog 172 [ptr wb 0] [BP wb ob c b,Bf ob e (ints e.AJ) (is v) (ints e.anchors) (ints e.hashes),Af 27 4 (e.ids.map Az) v] (int 5) []:=by
 refine At.of func172 rfl rfl (by exact Nb rfl) fun M0 w0 S rs M1 w1=> ?_
 have hlt:=A1 hx
 refine ac ?_
 refine Tr.seq (Tr.DN mixed 6 (by kernel_rfl) (AR.op rfl rfl (by decide) (E_ rfl JU rfl) (AR.op rfl rfl (by decide) (E_ rfl JU rfl) (AR.op rfl rfl (by decide) (Aw rfl (vl rfl)) (AR.op rfl rfl (by decide) (AD rfl DY (vl rfl)) (AR.op rfl rfl (by decide) (AD rfl HQ (vl rfl)) (AR.op rfl rfl (by decide) (Bc 0 rfl (BL rfl CV (vl rfl) rfl)) ?_)))))))
 refine AR.turn _ rfl (by decide) (EM _ rfl rfl (Og (e:=e) (c:=c) (b:=b) (key:=c.number) rfl rfl rfl) ⟨ke rfl,ke rfl,trivial⟩ ((AO (j:=0) rfl).trans (List.Perm.cons _ ((AO (j:=0) rfl).trans (List.Perm.cons _ ((AO (j:=0) rfl).trans (List.Perm.cons _ (List.Perm.refl _)))))))) ?_
 refine ac ?_
 refine an ?_ ?_<;>intro h1 q1
 exfalso;have:=q1;omega
 refine ac ?_
 refine ap ?_
 refine tp rfl (Bc 2 rfl (Tj rfl underlying30 BR (vl rfl) (vl rfl) (by omega) (by rw [List.length_map];omega))) ?_
 refine tp rfl (IG rfl rfl) ?_
 refine TO.C5 _ rfl rfl (by decide) rfl (Tt (l:=e.ids) (c:=c) (b:=b) (k:=(A0 c.number e.ids+1).toNat)) ⟨ke rfl,ke rfl,trivial⟩ ((AO (j:=0) rfl).trans (List.Perm.cons _ ((AO (j:=1) rfl).trans (List.Perm.cons _ (List.Perm.refl _))))) ?_
 refine ap ?_
 refine Cg 1 3 24 rfl ?_
 refine Tr.cn rfl ?_ ?_<;>intro h2 q2
 refine ac ?_
 refine Tr.ret (Fin.AF (Fin.drop 0 (Fin.drop 0 (Fin.drop 0 (Fin.CN rfl (AW.tmp rfl (Lr)) ?_ (List.Perm.refl _))))))
 · exact Lr
 rw [ht] at h2;exact absurd h2 (by decide)
theorem SQ {e:A5} {c b:BA} {wb ob:Nat} {v:Value} {x:Du}  (h:0≤A0 c.number e.ids) (hx:e.ids[(A0 c.number e.ids).toNat]? =some x) (ht:((e.ids.drop (A0 c.number e.ids+1).toNat).any fun x=>x.BX==c.number)=false) (hl:e.ids.length≤1000000):At prog 172 [ptr wb 0] [BP wb ob c b,Bf ob e (ints e.AJ) (is v) (ints e.anchors) (ints e.hashes),Af 27 4 (e.ids.map Az) v] (int 0) [BP wb ob c ⟨b.AP,5,b.number,A0 c.number e.ids,x⟩,Bf ob e (ints e.AJ) (Eu (e.ids.eraseIdx (A0 c.number e.ids).toNat)) (ints e.anchors) (ints e.hashes)]:=by
 refine At.of func172 rfl rfl (by exact Nb rfl) fun M0 w0 S rs M1 w1=> ?_
 have hlt:=A1 hx
 refine ac ?_
 refine Tr.seq (Tr.DN mixed 6 (by kernel_rfl) (AR.op rfl rfl (by decide) (E_ rfl JU rfl) (AR.op rfl rfl (by decide) (E_ rfl JU rfl) (AR.op rfl rfl (by decide) (Aw rfl (vl rfl)) (AR.op rfl rfl (by decide) (AD rfl DY (vl rfl)) (AR.op rfl rfl (by decide) (AD rfl HQ (vl rfl)) (AR.op rfl rfl (by decide) (Bc 0 rfl (BL rfl CV (vl rfl) rfl)) ?_)))))))
 refine AR.turn _ rfl (by decide) (EM _ rfl rfl (Og (e:=e) (c:=c) (b:=b) (key:=c.number) rfl rfl rfl) ⟨ke rfl,ke rfl,trivial⟩ ((AO (j:=0) rfl).trans (List.Perm.cons _ ((AO (j:=0) rfl).trans (List.Perm.cons _ ((AO (j:=0) rfl).trans (List.Perm.cons _ (List.Perm.refl _)))))))) ?_
 refine ac ?_
 refine an ?_ ?_<;>intro h1 q1
 exfalso;have:=q1;omega
 refine ac ?_
 refine ap ?_
 refine tp rfl (Bc 2 rfl (Tj rfl underlying30 BR (vl rfl) (vl rfl) (by omega) (by rw [List.length_map];omega))) ?_
 refine tp rfl (IG rfl rfl) ?_
 refine TO.C5 _ rfl rfl (by decide) rfl (Tt (l:=e.ids) (c:=c) (b:=b) (k:=(A0 c.number e.ids+1).toNat)) ⟨ke rfl,ke rfl,trivial⟩ ((AO (j:=0) rfl).trans (List.Perm.cons _ ((AO (j:=1) rfl).trans (List.Perm.cons _ (List.Perm.refl _))))) ?_
 refine ap ?_
 refine Cg 1 3 24 rfl ?_
 refine Tr.cn rfl ?_ ?_<;>intro h2 q2
 rw [ht] at h2;exact absurd h2 (by decide)
 refine ac ?_
 refine Tr.seq (Tr.rx ?_)
 refine ay ?_
 refine HG 1 rfl rfl (D1 rfl underlying30 BR (vl rfl) (vl rfl) (by omega) (by rw [List.length_map];omega)) ?_
 refine HG 1 rfl rfl (EL rfl E2 BR (vl rfl) (Ak fun _=>rfl) (by rw [List.getElem?_map,hx];rfl)) ?_
 refine ay ?_
 refine Cx.nil ⟨by kernel_rfl,?_⟩
 refine BV.done I8 (Fin.go (B3 1 3 rfl (Tr.seq (Tr.rx ?_))))
 refine ay ?_
 refine Cx.ef 1 rfl rfl (by decide) (AQ rfl rfl (by decide) rfl (Zt (l:=e.ids) (i:=(A0 c.number e.ids).toNat) hlt hl) ⟨ke rfl,⟨_,rfl,int_eq (by omega)⟩,⟨_,rfl,int_eq (by omega)⟩,trivial⟩) ?_
 refine ay ?_
 refine Cx.nil ⟨by kernel_rfl,?_⟩
 refine BV.done I8 (Fin.go (Tr.weak [] trivial ?_))
 refine ac ?_
 refine Tr.ret (Fin.drop 1 (Fin.CN rfl (AW.tmp rfl (Lr)) ?_ (List.Perm.refl _)))
 · exact Lr
def Eb:List Pr:=[is .nilFunc,fn (.func 167) [],fn (.func 168) [],fn (.func 169) [],fn (.func 170) [],fn (.func 171) [],fn (.func 172) [],fn (.func 173) [],fn (.func 174) [],fn (.func 175) [],fn (.func 176) [],fn (.func 177) [],fn (.func 178) []]
def Oh (x:Du):Bool:=decide (x.Bp=0∧x.bits=0)&&x.BX==0&&(((x.chain.length:Nat):Int)==0)
def GH (c:BA):Bool:=if c.kind=1 then Oh c.Bj else if c.kind=5 then c.number==0 else c.at_==0&&Oh c.Bj
structure A5.small (e:A5):Prop where
 AJ:e.AJ.length≤1000000
 anchors:e.anchors.length≤1000000
 hashes:e.hashes.length≤1000000
 I0:e.ids.length≤1000000
 ids:∀x∈e.ids,x.small
theorem KL {c:BA} (hx:c.Bj.small):A_ prog 118 [agg (Am c)] (agg (Am c)):=by
 refine fo func118 rfl ⟨rfl,rfl⟩ fun M0 w0=>(Tr.seq (Tr.Aq ?_))
 refine TO.IJ rfl rfl (by decide) rfl (Va rfl) (fun b1=> ?_)
 refine Tl rfl rfl rfl rfl z29 Fo (fun b2=> ?_)
 refine ap ?_
 refine ap ?_
 refine tp rfl (B1 (E7 (x:=c.Bj) hx) rfl rfl) ?_
 refine ap ?_
 refine ap ?_
 refine Tr.drop 1 (Tr.ret (Fin.CU rfl (AW.cell 0 rfl rfl Be BE rfl (Lr)) ?_))
 · exact Lr
theorem Wp {x:Du}  :A_ prog 163 [agg (Az x)] (bool (Oh x)):=by
 refine fo func163 rfl ⟨rfl,rfl⟩ fun M0 w0=> ?_
 · repeat' first|(refine bool_eq ?_;unfold Oh;simp_all)|refine co rfl (HV rfl (vl rfl) (vl rfl)) (cm rfl ?_)|refine ac ?_|(refine Ch.cg rfl rfl rfl ?_ ?_<;>intro h q)
theorem K3 {c:BA}  :A_ prog 115 [agg (Am c)] (bool (GH c)):=by
 refine fo func115 rfl ⟨rfl,rfl⟩ fun M0 w0=> ?_
 · repeat' first|(refine bool_eq ?_;unfold GH;simp_all)|refine co rfl (B1 (Wp (x:=c.Bj)) rfl rfl) ?_|refine cy h rfl (B1 (Wp (x:=c.Bj)) rfl rfl) ?_|refine ac ?_|(refine Tr.cn rfl ?_ ?_<;>intro h q)|(refine Ch.cg rfl rfl rfl ?_ ?_<;>intro h q)
theorem FZ   :A_ prog 117 [] (agg Eb):=by
 refine fo func117 rfl ⟨rfl,rfl⟩ fun M0 w0=>(Tr.seq (Tr.Aq ?_))
 refine Tl rfl rfl rfl rfl ot bQ (fun b1=> ?_)
 refine ap ?_
 refine ap ?_
 refine Tr.ret (Fin.CU rfl (AW.cell 0 rfl rfl dQ bP rfl (Lr)) ?_)
 · exact Lr
theorem Wq {e:A5} (CJ:e.small):Jf prog 116 [agg (Ah e)] (fun x=>agg (Wo e (ints e.AJ) (is x) (ints e.anchors) (ints e.hashes))) (fun x=>[Af 27 4 (e.ids.map Az) x]):=by
 refine Jf.of func116 rfl rfl (by exact Nb rfl) fun M0 w0 S rs M1 w1=> ?_
 have hs1:=CJ.AJ
 have K1:=CJ.anchors
 have SS:=CJ.hashes
 have Uw:=CJ.I0
 refine Tr.seq (Tr.Aq ?_)
 refine TO.IJ rfl rfl (by decide) rfl (Va rfl) (fun b1=> ?_)
 refine Tl rfl rfl rfl rfl z32 Df (fun b2=> ?_)
 refine ao ?_
 refine Tr.seq (Tr.pad (Tr.rx ?_))
 refine ax ?_
 refine xo rfl (fun _=>B1 (DH (l:=e.AJ) hs1) rfl rfl) ?_
 refine ax ?_
 refine xo rfl (fun _=>B1 (DH (l:=e.anchors) K1) rfl rfl) ?_
 refine ax ?_
 refine xo rfl (fun _=>B1 (DH (l:=e.hashes) SS) rfl rfl) ?_
 refine ax ?_
 refine Cx.ef 0 rfl rfl (by decide) (Ez rfl rfl (by decide) rfl (HC (l:=e.ids) Uw) ⟨ke rfl,trivial⟩) ?_
 refine xo rfl (fun _=>AD rfl Ea (vl rfl)) (Cx.C7 2 rfl rfl (An rfl rfl (vl rfl) (Vo rfl) Fl rfl (by exact Nb rfl) rfl) (xo rfl (fun _=>AD rfl IL (vl rfl)) (Cx.C7 2 rfl rfl (An rfl rfl (vl rfl) (Vo rfl) Fl rfl (by exact Nb rfl) rfl) (xo rfl (fun _=>AD rfl IM (vl rfl)) (Cx.C7 2 rfl rfl (An rfl rfl (vl rfl) (Vo rfl) Fl rfl (by exact Nb rfl) rfl) (xo rfl (fun _=>AD rfl EC (vl rfl)) (Cx.C7 2 rfl rfl (Dd rfl rfl rfl (vl rfl) rfl Li (by exact Nb rfl)) ?_)))))))
 refine Cx.nil ⟨by kernel_rfl,?_⟩
 refine BV.M5 0 2 16 rfl rfl (by decide) rfl (fun v1=> ?_)
 refine BV.done I8 (Fin.go (B3 1 2 rfl ?_))
 refine ac ?_
 refine co rfl (Bc 0 rfl (E3 rfl underlying30 (Ka rfl))) ?_
 refine ac ?_
 refine Tr.block (Tr.re 23 rfl (int_eq (by rw [List.length_map])) (Tr.BF [(1,_),(2,_),(22,_),(23,_)] (VX rfl) (fun k:Nat=>[(24,int ((k:Nat):Int))]) (fun k:Nat=>k≤(e.ids).length) (fun k:Nat=>(e.ids).length-k) 0 (Nat.zero_le _) ⟨ke rfl,trivial⟩ ?_))
 rintro k BN
 refine ac ?_
 refine Tr.seq ?_
 refine Tr.cn rfl ?_ ?_<;>intro h1 q1
 have Ac:k<(e.ids).length:=AU h1
 obtain ⟨x,Aa⟩:=at_ Ac
 have hxs:=CJ.ids x (List.mem_of_getElem? Aa)
 refine ac ?_
 refine ao ?_
 refine tp rfl (Bc 0 rfl (D1 rfl underlying30 BR (Ka rfl) (vl rfl) (by omega) (by rw [List.length_map];omega))) ?_
 refine tp rfl (Bc 0 rfl (EL rfl E2 BR (vl rfl) (Ak fun _=>rfl) (by rw [Int.toNat_natCast,List.getElem?_map,Aa];rfl))) ?_
 refine Tl rfl rfl rfl rfl HP HO (fun b3=> ?_)
 refine tm rfl ?_
 refine sf 0 4 ⟨rfl,rfl,rfl⟩ rfl rfl rfl rfl ?_
 refine ao ?_
 refine Tr.rx ?_
 refine ax ?_
 refine xo rfl (fun _=>B1 (E7 hxs) rfl rfl) ?_
 refine HG 0 rfl rfl (D1 rfl underlying30 BR (Ka rfl) (vl rfl) (by omega) (by rw [List.length_map];omega)) ?_
 refine Cx.C7 0 rfl rfl (Dt rfl rfl (vl rfl) (Va rfl) BR rfl (Ak fun _=>rfl) (by rw [Int.toNat_natCast,List.getElem?_map,Aa];rfl) (by decide) (HA (f:=Az) (q:=0) (m:=4) Aa rfl)) ?_
 refine Cx.nil ⟨by kernel_rfl,?_⟩
 refine BV.done I8 ?_
 refine ac ?_
 refine Ej 1 2 22 23 24 rfl ?_
 refine ac ?_
 exact Fin.AM (k+1) ⟨Ac,by omega⟩ ⟨⟨_,rfl,AK k⟩,ke rfl,ke rfl,ke rfl,ke rfl,trivial⟩
 have A4:k=(e.ids).length:=by have:=AV h1;omega
 subst A4
 refine ac ?_
 refine ao ?_
 refine TO.AY 1 rfl rfl rfl (vl rfl) (Va rfl) rfl A8 rfl rfl ?_
 refine ao ?_
 refine Tr.drop 2 (Tr.ret (Fin.K0 (Fin.Ub v1 [_] rfl (AW.cell 0 rfl rfl BM A8 rfl (Lr)) ?_ (List.Perm.refl _))))
 · exact Ab ⟨Lr,Lr,Lr,Lr,Lr,Cy _ _,Lr,Lr,Lr,trivial⟩
theorem Wr {e:A5} (CJ:e.small):Jf prog 116 [agg (Ah e)] (fun x=>agg (Wo e (is x) (Eu e.ids) (ints e.anchors) (ints e.hashes))) (fun x=>[Af 3 1 (e.AJ.map fun n=>[int n]) x]):=by
 refine Jf.of func116 rfl rfl (by exact Nb rfl) fun M0 w0 S rs M1 w1=> ?_
 have hs1:=CJ.AJ
 have K1:=CJ.anchors
 have SS:=CJ.hashes
 have Uw:=CJ.I0
 refine Tr.seq (Tr.Aq ?_)
 refine TO.IJ rfl rfl (by decide) rfl (Va rfl) (fun b1=> ?_)
 refine Tl rfl rfl rfl rfl z32 Df (fun b2=> ?_)
 refine ao ?_
 refine Tr.seq (Tr.pad (Tr.pad (Tr.rx ?_)))
 refine ax ?_
 refine Cx.ef 0 rfl rfl (by decide) (Ez rfl rfl (by decide) rfl (K2 (l:=e.AJ) hs1) ⟨ke rfl,trivial⟩) ?_
 refine ax ?_
 refine xo rfl (fun _=>B1 (DH (l:=e.anchors) K1) rfl rfl) ?_
 refine ax ?_
 refine xo rfl (fun _=>B1 (DH (l:=e.hashes) SS) rfl rfl) ?_
 refine ax ?_
 refine Cx.ef 1 rfl rfl (by decide) (Ez rfl rfl (by decide) rfl (HC (l:=e.ids) Uw) ⟨ke rfl,trivial⟩) ?_
 refine xo rfl (fun _=>AD rfl Ea (vl rfl)) (Cx.C7 3 rfl rfl (Dd rfl rfl rfl (vl rfl) rfl Fl (by exact Nb rfl)) (xo rfl (fun _=>AD rfl IL (vl rfl)) (Cx.C7 3 rfl rfl (Kz rfl rfl rfl (vl rfl) (Vo rfl) Fl rfl (fun _=>by exact Nat.le_of_ble_eq_true rfl)) (xo rfl (fun _=>AD rfl IM (vl rfl)) (Cx.C7 3 rfl rfl (Kz rfl rfl rfl (vl rfl) (Vo rfl) Fl rfl (fun _=>by exact Nat.le_of_ble_eq_true rfl)) (xo rfl (fun _=>AD rfl EC (vl rfl)) (Cx.C7 3 rfl rfl (Kx rfl rfl rfl (vl rfl) rfl Li (fun _=>by exact Nat.le_of_ble_eq_true rfl)) ?_)))))))
 refine Cx.nil ⟨by kernel_rfl,?_⟩
 refine BV.WD 0 1 3 7 16 rfl rfl rfl (by decide) (by decide) (by decide) (by decide) rfl rfl (fun v1 v2=> ?_)
 refine BV.done ZT (Fin.go (B3 1 2 rfl ?_))
 refine ac ?_
 refine co rfl (Bc 1 rfl (E3 rfl underlying30 (Ka rfl))) ?_
 refine ac ?_
 refine Tr.block (Tr.re 23 rfl (int_eq (by rw [List.length_map])) (Tr.BF [(1,_),(2,_),(22,_),(23,_)] (VX rfl) (fun k:Nat=>[(24,int ((k:Nat):Int))]) (fun k:Nat=>k≤(e.ids).length) (fun k:Nat=>(e.ids).length-k) 0 (Nat.zero_le _) ⟨ke rfl,trivial⟩ ?_))
 rintro k BN
 refine ac ?_
 refine Tr.seq ?_
 refine Tr.cn rfl ?_ ?_<;>intro h1 q1
 have Ac:k<(e.ids).length:=AU h1
 obtain ⟨x,Aa⟩:=at_ Ac
 have hxs:=CJ.ids x (List.mem_of_getElem? Aa)
 refine ac ?_
 refine ao ?_
 refine tp rfl (Bc 1 rfl (D1 rfl underlying30 BR (Ka rfl) (vl rfl) (by omega) (by rw [List.length_map];omega))) ?_
 refine tp rfl (Bc 1 rfl (EL rfl E2 BR (vl rfl) (Ak fun _=>rfl) (by rw [Int.toNat_natCast,List.getElem?_map,Aa];rfl))) ?_
 refine Tl rfl rfl rfl rfl HP HO (fun b3=> ?_)
 refine tm rfl ?_
 refine sf 0 4 ⟨rfl,rfl,rfl⟩ rfl rfl rfl rfl ?_
 refine ao ?_
 refine Tr.rx ?_
 refine ax ?_
 refine xo rfl (fun _=>B1 (E7 hxs) rfl rfl) ?_
 refine HG 1 rfl rfl (D1 rfl underlying30 BR (Ka rfl) (vl rfl) (by omega) (by rw [List.length_map];omega)) ?_
 refine Cx.C7 1 rfl rfl (Dt rfl rfl (vl rfl) (Va rfl) BR rfl (Ak fun _=>rfl) (by rw [Int.toNat_natCast,List.getElem?_map,Aa];rfl) (by decide) (HA (f:=Az) (q:=0) (m:=4) Aa rfl)) ?_
 refine Cx.nil ⟨by kernel_rfl,?_⟩
 refine BV.done ZT ?_
 refine ac ?_
 refine Ej 1 2 22 23 24 rfl ?_
 refine ac ?_
 exact Fin.AM (k+1) ⟨Ac,by omega⟩ ⟨⟨_,rfl,AK k⟩,ke rfl,ke rfl,ke rfl,ke rfl,trivial⟩
 have A4:k=(e.ids).length:=by have:=AV h1;omega
 subst A4
 refine ac ?_
 refine Tr.seq (Tr.Fv 3 1 5 rfl rfl (by decide) rfl (Cy _ _) (Ak fun _=>rfl) ?_)
 refine ao ?_
 refine TO.AY 2 rfl rfl rfl (vl rfl) (Va rfl) rfl A8 rfl rfl ?_
 refine ao ?_
 refine Tr.drop 1 (Tr.drop 2 (Tr.ret (Fin.K0 (Fin.Ub v1 [_] rfl (AW.cell 0 rfl rfl BM A8 rfl (Lr)) ?_ (List.Perm.refl _)))))
 · exact Ab ⟨Lr,Lr,Lr,Cy _ _,Lr,Lr,Lr,Lr,Lr,trivial⟩
def BZ:A5:=⟨[],0,0,[],false,[],[],[],false⟩
def Ay:Du:=⟨0,0,0,[]⟩
def BB:BA:=⟨0,0,0,0,Ay⟩
abbrev Br (c:BA):BA:=⟨c.AP,0,0,0,Ay⟩
abbrev F4 (l:List Int):Prop:=l.Pairwise (· < ·)
def DB (l:List Int) (x:Int):Nat:=(l.takeWhile fun y=>decide (y<x)).length
theorem L8 (l:List Int) (x:Int):DB l x≤l.length:=by
 unfold DB
 have h:=List.takeWhile_append_dropWhile (p:=fun y=>decide (y<x)) (l:=l)
 have:=congrArg List.length h
 rw [List.length_append] at this;omega
theorem L9 {x:Int}:∀{l:List Int} {k:Nat},k≤l.length→(∀(j:Nat) y,j<k→l[j]? =some y→y<x)→(∀y,l[k]? =some y→¬y<x)→DB l x=k
  | [], k, hk, _, _ => by have : k = 0 := by simpa using hk
                          subst this;rfl
  |y::r,0,_,_,h2=>by unfold DB;rw [List.takeWhile_cons_of_neg (by simpa using h2 y rfl)];rfl
  |y::r,k+1,hk,h1,h2=>by
    have ih:=L9 (l:=r) (k:=k) (by simpa using hk) (fun j z hj hz=>h1 (j+1) z (by omega) (by simpa using hz)) (fun z hz=>h2 z (by simpa using hz))
    unfold DB at ih ⊢
    rw [List.takeWhile_cons_of_pos (by simpa using h1 0 y (by omega) rfl),List.length_cons,ih]
theorem Po {x:Int}:∀{l:List Int} {j:Nat} {y:Int},j<DB l x→l[j]? =some y→y<x
 |[],j,y,h,_=>by unfold DB at h;simp at h
 |z::r,j,y,h,hy=>by
  by_cases hz:z<x
  ·
   cases j with
   |zero=>simp at hy;subst hy;exact hz
   |succ j=>
    refine Po (l:=r) (j:=j) ?_ (by simpa using hy)
    unfold DB at h ⊢
    rw [List.takeWhile_cons_of_pos (by simpa using hz),List.length_cons] at h;omega
  · unfold DB at h;rw [List.takeWhile_cons_of_neg (by simpa using hz)] at h;simp at h
theorem Tu {x:Int}:∀{l:List Int} {y:Int},l[DB l x]? =some y→¬y<x
 |[],y,h=>by simp at h
 |z::r,y,h=>by
  by_cases hz:z<x
  ·
   unfold DB at h
   rw [List.takeWhile_cons_of_pos (by simpa using hz),List.length_cons,List.getElem?_cons_succ] at h
   exact Tu (l:=r) h
  · unfold DB at h;rw [List.takeWhile_cons_of_neg (by simpa using hz)] at h;simp at h;subst h;exact hz
abbrev Cs (l:List Int) (x:Int):Bool:=(l[DB l x]?).any (fun y=>decide (y=x))
abbrev K4 (l:List Int) (x:Int):List Int:=l.take (DB l x)++[x]++l.drop (DB l x)
theorem Pp {l:List Int} (hs:F4 l) {j k:Nat} {y z:Int} (hjk:j<k) (hy:l[j]? =some y) (hz:l[k]? =some z):y<z:=by
 have h1:=A1 hy;have h2:=A1 hz
 have:=List.pairwise_iff_getElem.1 hs j k h1 h2 hjk
 rw [List.getElem?_eq_getElem h1] at hy;rw [List.getElem?_eq_getElem h2] at hz
 cases hy;cases hz;exact this
theorem eV {l:List Int} {x:Int} (hs:F4 l) {h:Nat} {y:Int} (hy:l[h]? =some y) (hyx:y<x):∀(k:Nat) z,k<h+1→l[k]? =some z→z<x:=by
 intro k z hk hz
 rcases Nat.lt_or_eq_of_le (Nat.le_of_lt_succ hk) with h1|h1
 · have:=Pp hs h1 hz hy;omega
 · subst h1;rw [hy] at hz;cases hz;exact hyx
theorem eW {l:List Int} {x:Int} (hs:F4 l) {h:Nat} {y:Int} (hy:l[h]? =some y) (hyx:¬y<x):∀(k:Nat) z,h≤k→l[k]? =some z→¬z<x:=by
 intro k z hk hz iG
 rcases Nat.lt_or_eq_of_le hk with h1|h1
 · have:=Pp hs h1 hy hz;omega
 · subst h1;rw [hy] at hz;cases hz;exact hyx iG
theorem Ws {l:List Int} {x:Int} {i:Nat} (hp:DB l x=i) (hi:l.length≤i):Cs l x=false:=by
 unfold Cs;rw [hp,List.getElem?_eq_none hi];rfl
theorem L_ {l:List Int} {x:Int} {i:Nat} {y:Int} (hp:DB l x=i) (hy:l[i]? =some y):Cs l x=decide (y=x):=by
 unfold Cs;rw [hp,hy];rfl
theorem Ek {l:List Int} (h:Pg l=true):F4 l:=by
 unfold Pg at h;rw [Bo] at h
 have h1:∀(d i:Nat) y z,l[i]? =some y→l[i+d+1]? =some z→y<z:=by
  intro d
  induction d with
  |zero=>
   intro i y z hy hz
   have:=h (i+1) (A1 hz)
   unfold FG at this
   rw [Bi (show l[i+1]? =some z from hz),Bi (show l[i+1-1]? =some y from hy)] at this
   simpa using this
  |succ d ih=>
   intro i y z hy hz
   obtain ⟨m,hm⟩:=at_ (l:=l) (k:=i+d+1) (by have:=A1 hz;omega)
   have a1:=ih i y m hy hm
   have:=h (i+(d+1)+1) (A1 hz)
   unfold FG at this
   rw [Bi hz,Bi (show l[i+(d+1)+1-1]? =some m from hm)] at this
   have:m<z:=by simpa using this
   omega
 refine List.pairwise_iff_getElem.2 fun i j hi hj hij=> ?_
 refine h1 (j-i-1) i _ _ (List.getElem?_eq_getElem hi) ?_
 rw [show i+(j-i-1)+1=j by omega];exact List.getElem?_eq_getElem hj
theorem Wt {a:Int}  :A_ prog 280 [int a] (bool false):=by
 refine fo func280 rfl ⟨rfl,rfl⟩ fun M0 w0=> ?_
 refine a3 ?_
 · refine bool_eq ?_;simp_all
theorem Ux {a:Int}  :A_ prog 292 [int a] (bool false):=by
 refine fo func292 rfl ⟨rfl,rfl⟩ fun M0 w0=> ?_
 refine a3 ?_
 · refine bool_eq ?_;simp_all
theorem Zw {a b:Int}  :A_ prog 291 [int a,int b] (bool (decide (a<b))):=by
 refine fo func291 rfl ⟨rfl,rfl⟩ fun M0 w0=> ?_
 · repeat' first|exact absurd h (by decide)|exact Lr|refine co rfl (B1 (Wt) rfl rfl) (cm rfl ?_)|refine ac ?_|(refine Ch.cg rfl rfl rfl ?_ ?_<;>intro h q)
theorem lC {l:List Int} {x:Int} (hs:F4 l) (hl:l.length≤1000000):A_ prog 262 [ints l,int x] (Fa [int ((DB l x:Nat):Int),bool (Cs l x)]):=by
 refine fo func262 rfl ⟨rfl,rfl⟩ fun M0 w0=>(Tr.Cr 0 rfl fun Dj=> ?_)
 refine a3 ?_
 refine Tr.seq (Tr.block ?_)
 refine Tr.IK [(0,_),(1,_),(6,_)] ⟨ke rfl,ke rfl,ke rfl,trivial⟩ (fun (i:Nat) (j:Nat)=>[(7,int ((i:Nat):Int)),(8,int ((j:Nat):Int))]) (fun (i:Nat) (j:Nat)=>Hp M0 w0 Mg ([])) (fun (i:Nat) (j:Nat)=>i≤j∧j≤l.length∧(∀(k:Nat) y,k<i→l[k]? =some y→y<x)∧(∀(k:Nat) y,j≤k→l[k]? =some y→¬y<x)) (fun (i:Nat) (j:Nat)=>j-i) (0) (l.length)  (⟨Nat.zero_le _,Nat.le_refl _,fun k y h=>absurd h (Nat.not_lt_zero _),fun k y h1 h2=>by rw [List.getElem?_eq_none h1] at h2;cases h2⟩) ⟨ke rfl,ke rfl,trivial⟩ (fun _ _ h=>h) ?_
 rintro i j  ⟨hi1,hi2,lD,hi4⟩
 refine an ?_ ?_<;>intro h1 q1
 have hij:i<j:=by have:=of_decide_eq_true h1;omega
 obtain ⟨y,lE⟩:=at_ (l:=l) (k:=(i+j)/2) (by omega)
 have hy:l[((((i:Nat):Int)+((j:Nat):Int))/2).toNat]? =some y:=by rw [show ((((i:Nat):Int)+((j:Nat):Int))/2).toNat=(i+j)/2 by omega];exact lE
 refine a2 ?_
 refine co rfl (WC rfl underlying3 underlying251 (vl rfl) (by omega) (by omega)) (co rfl (ZL rfl (vl rfl) (vl rfl) (by omega)) ?_)
 refine co rfl (Vt rfl underlying251 underlying3 (vl rfl) (by unfold LK;omega)) ?_
 refine ac ?_
 refine HH 0 1 6 7 8 9 rfl ?_
 refine ac ?_
 refine co rfl (AA rfl underlying22 CO (vl rfl) (vl rfl) (by omega) (DC (f:=fun n:Int=>[int n]) hy)) ?_
 refine ac ?_
 refine co rfl (C8 (Zw) rfl rfl rfl) ?_
 refine an ?_ ?_<;>intro h2 q2
 have hlt:=of_decide_eq_true h2
 refine ac ?_
 exact Fin.J4 ((i+j)/2+1) (j)  (⟨⟨by omega,by omega,eV hs lE hlt,hi4⟩,by omega⟩) ⟨⟨_,rfl,int_eq (by omega)⟩,⟨_,rfl,int_eq (by omega)⟩,ke rfl,ke rfl,ke rfl,trivial⟩ (fun _ _ h=>h)
 have hlt:=of_decide_eq_false h2
 refine ac ?_
 exact Fin.J4 (i) ((i+j)/2)  (⟨⟨by omega,by omega,lD,eW hs lE hlt⟩,by omega⟩) ⟨⟨_,rfl,int_eq (by omega)⟩,⟨_,rfl,int_eq (by omega)⟩,ke rfl,ke rfl,ke rfl,trivial⟩ (fun _ _ h=>h)
 obtain rfl:i=j:=(by have:=of_decide_eq_false h1;omega)
 have hp:DB l x=i:=L9 (by omega) lD (fun y hy=>hi4 i y (by omega) hy)
 refine ac ?_
 refine ag ?_ ?_<;>intro h3 q3
 obtain ⟨y,nu⟩:=at_ (l:=l) (k:=i) (by have:=q3;simp at this;omega)
 refine ac ?_
 refine cy h3 rfl (AA rfl underlying22 CO (vl rfl) (vl rfl) (by omega) (DC (f:=fun n:Int=>[int n]) (by rw [Int.toNat_natCast];exact nu))) ?_
 refine ag ?_ ?_<;>intro h4 q4
 refine ac ?_
 refine B3 4 5 rfl (Tr.ret (Fin.Dz rfl (CH.Ep _ _) rfl ?_ rfl ?_))
 · exact int_eq (by rw [hp])
 · refine bool_eq ?_;rw [L_ hp nu];symm;rw [decide_eq_true_eq];simp_all
 refine ac ?_
 refine cy h4 rfl (AA rfl underlying22 CO (vl rfl) (vl rfl) (by omega) (DC (f:=fun n:Int=>[int n]) (by rw [Int.toNat_natCast];exact nu))) ?_
 refine cy h4 rfl (E_ rfl CV rfl) (cy h4 rfl (B1 (Ux) rfl rfl) (Gr h4 rfl ?_))
 refine Ch.cs 48 rfl ?_ ?_<;>intro h5 q5
 exact absurd h5 (by decide)
 refine ac ?_
 refine B3 4 5 rfl (Tr.ret (Fin.Dz rfl (CH.Ep _ _) rfl ?_ rfl ?_))
 · exact int_eq (by rw [hp])
 · refine bool_eq ?_;rw [L_ hp nu];symm;rw [decide_eq_false_iff_not];simp_all
 refine ac ?_
 refine B3 4 5 rfl (Tr.ret (Fin.Dz rfl (CH.Ep _ _) rfl ?_ rfl ?_))
 · exact int_eq (by rw [hp])
 · refine bool_eq ?_;rw [Ws hp (by omega)]
theorem Ig {l:List Int} {x:Int} {v:Value} (hs:F4 l) (hl:l.length≤1000000):BG Tryz.prog 262 [is v,int x] (Fa [int ((DB l x:Nat):Int),bool (Cs l x)]) (Af 3 1 (l.map fun n=>[int n]) v) (fun _=>Af 3 1 (l.map fun n=>[int n]) v):=BG.NJ (Ak fun _=>rfl) (lC hs hl)
theorem Uy {e:A5} {x at_:Int} {ob:Nat} {v:Value} {p5 p6 p7:Pr}  (hr:¬(0≤at_∧at_≤(e.AJ.length:Nat))):At prog 206 [ptr ob 3,int at_,int x] [Bf ob e (is v) p5 p6 p7,Af 3 1 (e.AJ.map fun n=>[int n]) v] (int 2) []:=by
 refine At.of func206 rfl rfl (by exact Nb rfl) fun M0 w0 S rs M1 w1=>(Tr.seq ?_)
 have hml:(e.AJ.map fun n=>[int n]).length=e.AJ.length:=List.length_map _
 refine ac ?_
 refine ag ?_ ?_<;>intro h1 q1
 have hq9:=q1
 refine a2 ?_
 refine Tr.ret (Fin.AF (Fin.drop 0 (Fin.drop 0 (Fin.CN rfl (AW.tmp rfl (Lr)) ?_ (List.Perm.refl _)))))
 · exact Lr
 refine ac ?_
 refine cy h1 rfl (Bc 1 rfl (E3 rfl underlying22 (vl rfl))) ?_
 refine an ?_ ?_<;>intro h2 q2
 refine ac ?_
 refine Tr.ret (Fin.AF (Fin.drop 0 (Fin.drop 0 (Fin.CN rfl (AW.tmp rfl (Lr)) ?_ (List.Perm.refl _)))))
 · exact Lr
 exfalso;simp_all
theorem Q2 {e:A5} {x at_:Int} {ob:Nat} {v:Value} {p5 p6 p7:Pr}  (hr:0≤at_∧at_≤(e.AJ.length:Nat)) (hl:e.AJ.length≤1000000):At prog 206 [ptr ob 3,int at_,int x] [Bf ob e (is v) p5 p6 p7,Af 3 1 (e.AJ.map fun n=>[int n]) v] (int 0) [Bf ob e (ints (e.AJ.take at_.toNat++[x]++e.AJ.drop at_.toNat)) p5 p6 p7]:=by
 refine At.of func206 rfl rfl (by exact Nb rfl) fun M0 w0 S rs M1 w1=>(Tr.seq ?_)
 have hml:(e.AJ.map fun n=>[int n]).length=e.AJ.length:=List.length_map _
 refine ac ?_
 refine ag ?_ ?_<;>intro h1 q1
 exfalso;have:=q1;omega
 refine ac ?_
 refine cy h1 rfl (Bc 1 rfl (E3 rfl underlying22 (vl rfl))) ?_
 refine an ?_ ?_<;>intro h2 q2
 exfalso;simp_all;omega
 refine ac ?_
 refine ap ?_
 refine TO.Er 1 rfl rfl (by decide) (AQ rfl rfl (by decide) rfl (Ph (l:=e.AJ) (x:=x) (i:=at_.toNat) (by omega) hl) ⟨ke rfl,⟨_,rfl,int_eq (by omega)⟩,(Kf rfl),trivial⟩) ?_
 refine ap ?_
 refine Tr.weak [] trivial ?_
 refine ac ?_
 refine Tr.ret (Fin.drop 1 (Fin.CN rfl (AW.tmp rfl (Lr)) ?_ (List.Perm.refl _)))
 · exact Lr
theorem Q3 {e:A5} {c b:BA} {wb ob:Nat} {v:Value} {p5 p6 p7:Pr}  (hr:¬(0≤c.at_∧c.at_≤(e.AJ.length:Nat))):At prog 167 [ptr wb 0] [BP wb ob c b,Bf ob e (is v) p5 p6 p7,Af 3 1 (e.AJ.map fun n=>[int n]) v] (int 2) []:=by
 refine At.of func167 rfl rfl (by exact Nb rfl) fun M0 w0 S rs M1 w1=> ?_
 refine ac ?_
 refine Tr.seq (Tr.rx ?_)
 refine ay ?_
 refine Cx.ef 2 rfl rfl (by decide) (AQ rfl rfl (by decide) rfl (Pk (l:=e.AJ)) ⟨ke rfl,ke rfl,trivial⟩) ?_
 refine xm rfl ?_
 refine Cx.nil ⟨by kernel_rfl,?_⟩
 refine BV.done I8 (Fin.go (B3 0 3 rfl (Tr.seq (Tr.seq (Tr.DN mixed 16 (by kernel_rfl) (AR.op rfl rfl (by decide) (BQ rfl (vl rfl)) (AR.op rfl rfl (by decide) (Aw rfl (vl rfl)) (AR.op rfl rfl (by decide) (AD rfl HS (vl rfl)) (AR.op rfl rfl (by decide) (Bc 0 rfl (BL rfl JV (vl rfl) rfl)) (AR.op rfl rfl (by decide) (Aw rfl (vl rfl)) (AR.op rfl rfl (by decide) (AD rfl Ea (vl rfl)) (AR.op rfl rfl (by decide) (BQ rfl (vl rfl)) (AR.op rfl rfl (by decide) (Aw rfl (vl rfl)) ?_)))))))))))))
 refine AR.op rfl rfl (by decide) (AD rfl DY (vl rfl)) (AR.op rfl rfl (by decide) (AD rfl JS (vl rfl)) (AR.op rfl rfl (by decide) (Bc 0 rfl (BL rfl CV (vl rfl) rfl)) (AR.op rfl rfl (by decide) (BQ rfl (vl rfl)) (AR.op rfl rfl (by decide) (Aw rfl (vl rfl)) (AR.op rfl rfl (by decide) (AD rfl DY (vl rfl)) (AR.op rfl rfl (by decide) (AD rfl HQ (vl rfl)) (AR.op rfl rfl (by decide) (Bc 0 rfl (BL rfl CV (vl rfl) rfl)) ?_)))))))
 refine AR.turn _ rfl (by decide) (EM _ rfl rfl (Uy (e:=e) (x:=c.number) (at_:=c.at_) hr) ⟨ke rfl,ke rfl,ke rfl,trivial⟩ ((AO (j:=1) rfl).trans (List.Perm.cons _ ((AO (j:=1) rfl).trans (List.Perm.cons _ (List.Perm.refl _)))))) ?_
 refine ac ?_
 refine Cg 0 3 4 rfl ?_
 refine an ?_ ?_<;>intro h1 q1
 refine ac ?_
 refine Tr.ret (Fin.AF (Fin.drop 0 (Fin.CN rfl (AW.tmp rfl (Lr)) ?_ (List.Perm.refl _))))
 · exact Lr
 exact absurd h1 (by decide)
theorem Q4 {e:A5} {c b:BA} {wb ob:Nat} {v:Value} {p5 p6 p7:Pr}  (hr:0≤c.at_∧c.at_≤(e.AJ.length:Nat)) (hl:e.AJ.length≤1000000) (h:(e.AJ.any fun y=>c.number==y)=true):At prog 167 [ptr wb 0] [BP wb ob c b,Bf ob e (is v) p5 p6 p7,Af 3 1 (e.AJ.map fun n=>[int n]) v] (int 41) []:=by
 refine At.of func167 rfl rfl (by exact Nb rfl) fun M0 w0 S rs M1 w1=> ?_
 refine ac ?_
 refine Tr.seq (Tr.rx ?_)
 refine ay ?_
 refine Cx.ef 2 rfl rfl (by decide) (AQ rfl rfl (by decide) rfl (Pk (l:=e.AJ)) ⟨ke rfl,ke rfl,trivial⟩) ?_
 refine xm rfl ?_
 refine Cx.nil ⟨by kernel_rfl,?_⟩
 refine BV.done I8 (Fin.go (B3 0 3 rfl (Tr.seq (Tr.seq (Tr.DN mixed 16 (by kernel_rfl) (AR.op rfl rfl (by decide) (BQ rfl (vl rfl)) (AR.op rfl rfl (by decide) (Aw rfl (vl rfl)) (AR.op rfl rfl (by decide) (AD rfl HS (vl rfl)) (AR.op rfl rfl (by decide) (Bc 0 rfl (BL rfl JV (vl rfl) rfl)) (AR.op rfl rfl (by decide) (Aw rfl (vl rfl)) (AR.op rfl rfl (by decide) (AD rfl Ea (vl rfl)) (AR.op rfl rfl (by decide) (BQ rfl (vl rfl)) (AR.op rfl rfl (by decide) (Aw rfl (vl rfl)) ?_)))))))))))))
 refine AR.op rfl rfl (by decide) (AD rfl DY (vl rfl)) (AR.op rfl rfl (by decide) (AD rfl JS (vl rfl)) (AR.op rfl rfl (by decide) (Bc 0 rfl (BL rfl CV (vl rfl) rfl)) (AR.op rfl rfl (by decide) (BQ rfl (vl rfl)) (AR.op rfl rfl (by decide) (Aw rfl (vl rfl)) (AR.op rfl rfl (by decide) (AD rfl DY (vl rfl)) (AR.op rfl rfl (by decide) (AD rfl HQ (vl rfl)) (AR.op rfl rfl (by decide) (Bc 0 rfl (BL rfl CV (vl rfl) rfl)) ?_)))))))
 refine AR.turn _ rfl (by decide) (EM _ rfl rfl (Q2 (e:=e) (x:=c.number) (at_:=c.at_) hr hl) ⟨ke rfl,ke rfl,ke rfl,trivial⟩ ((AO (j:=1) rfl).trans (List.Perm.cons _ ((AO (j:=1) rfl).trans (List.Perm.cons _ (List.Perm.refl _)))))) ?_
 refine ac ?_
 refine Cg 0 3 4 rfl ?_
 refine an ?_ ?_<;>intro h1 q1
 exact absurd h1 (by decide)
 refine ac ?_
 refine an ?_ ?_<;>intro h2 q2
 refine ac ?_
 refine Tr.ret (Fin.AF (Fin.drop 0 (Fin.drop 0 (Fin.CN rfl (AW.tmp rfl (Lr)) ?_ (List.Perm.refl _)))))
 · exact Lr
 rw [h] at h2;exact absurd h2 (by decide)
theorem Q5 {e:A5} {c b:BA} {wb ob:Nat} {v:Value} {p5 p6 p7:Pr}  (hr:0≤c.at_∧c.at_≤(e.AJ.length:Nat)) (hl:e.AJ.length≤1000000) (h:(e.AJ.any fun y=>c.number==y)=false):At prog 167 [ptr wb 0] [BP wb ob c b,Bf ob e (is v) p5 p6 p7,Af 3 1 (e.AJ.map fun n=>[int n]) v] (int 0) [Bf ob e (ints (e.AJ.take c.at_.toNat++[c.number]++e.AJ.drop c.at_.toNat)) p5 p6 p7,BP wb ob c ⟨b.AP,2,c.number,b.at_,b.Bj⟩]:=by
 refine At.of func167 rfl rfl (by exact Nb rfl) fun M0 w0 S rs M1 w1=> ?_
 refine ac ?_
 refine Tr.seq (Tr.rx ?_)
 refine ay ?_
 refine Cx.ef 2 rfl rfl (by decide) (AQ rfl rfl (by decide) rfl (Pk (l:=e.AJ)) ⟨ke rfl,ke rfl,trivial⟩) ?_
 refine xm rfl ?_
 refine Cx.nil ⟨by kernel_rfl,?_⟩
 refine BV.done I8 (Fin.go (B3 0 3 rfl (Tr.seq (Tr.seq (Tr.DN mixed 16 (by kernel_rfl) (AR.op rfl rfl (by decide) (BQ rfl (vl rfl)) (AR.op rfl rfl (by decide) (Aw rfl (vl rfl)) (AR.op rfl rfl (by decide) (AD rfl HS (vl rfl)) (AR.op rfl rfl (by decide) (Bc 0 rfl (BL rfl JV (vl rfl) rfl)) (AR.op rfl rfl (by decide) (Aw rfl (vl rfl)) (AR.op rfl rfl (by decide) (AD rfl Ea (vl rfl)) (AR.op rfl rfl (by decide) (BQ rfl (vl rfl)) (AR.op rfl rfl (by decide) (Aw rfl (vl rfl)) ?_)))))))))))))
 refine AR.op rfl rfl (by decide) (AD rfl DY (vl rfl)) (AR.op rfl rfl (by decide) (AD rfl JS (vl rfl)) (AR.op rfl rfl (by decide) (Bc 0 rfl (BL rfl CV (vl rfl) rfl)) (AR.op rfl rfl (by decide) (BQ rfl (vl rfl)) (AR.op rfl rfl (by decide) (Aw rfl (vl rfl)) (AR.op rfl rfl (by decide) (AD rfl DY (vl rfl)) (AR.op rfl rfl (by decide) (AD rfl HQ (vl rfl)) (AR.op rfl rfl (by decide) (Bc 0 rfl (BL rfl CV (vl rfl) rfl)) ?_)))))))
 refine AR.turn _ rfl (by decide) (EM _ rfl rfl (Q2 (e:=e) (x:=c.number) (at_:=c.at_) hr hl) ⟨ke rfl,ke rfl,ke rfl,trivial⟩ ((AO (j:=1) rfl).trans (List.Perm.cons _ ((AO (j:=1) rfl).trans (List.Perm.cons _ (List.Perm.refl _)))))) ?_
 refine ac ?_
 refine Cg 0 3 4 rfl ?_
 refine an ?_ ?_<;>intro h1 q1
 exact absurd h1 (by decide)
 refine ac ?_
 refine an ?_ ?_<;>intro h2 q2
 rw [h] at h2;exact absurd h2 (by decide)
 refine ac ?_
 refine ap ?_
 refine Tr.weak [] trivial ?_
 refine ac ?_
 refine Tr.ret (Fin.CN rfl (AW.tmp rfl (Lr)) ?_ (List.Perm.refl _))
 · exact Lr
theorem He {l:List Int} {x:Int} (h:Cs l x=true):DB l x<l.length:=by
 by_cases hp:DB l x<l.length
 · exact hp
 · unfold Cs at h;rw [List.getElem?_eq_none (by omega)] at h;cases h
theorem Zx {e:A5} {c b:BA} {wb ob:Nat} {v:Value} {p3 p5 p7:Pr} {bk:Int}  (hs:F4 e.anchors) (hl:e.anchors.length≤1000000) (h:Cs e.anchors c.number=true):At prog 215 [ptr wb 0,ptr ob 6,int bk] [BP wb ob c b,Bf ob e p3 p5 (is v) p7,Af 3 1 (e.anchors.map fun n=>[int n]) v] (int 41) []:=by
 refine At.of func215 rfl rfl (by exact Nb rfl) fun M0 w0 S rs M1 w1=> ?_
 refine ac ?_
 refine Tr.seq (Tr.rx ?_)
 refine ay ?_
 refine Cx.ef 2 rfl rfl (by decide) (AQ rfl rfl (by decide) rfl (Ig (l:=e.anchors) hs hl) ⟨ke rfl,ke rfl,trivial⟩) ?_
 refine ay ?_
 refine Cx.nil ⟨by kernel_rfl,?_⟩
 refine BV.done I8 (Fin.go (Ej 0 1 2 7 8 rfl ?_))
 refine an ?_ ?_<;>intro h1 q1
 refine ac ?_
 refine Tr.ret (Fin.AF (Fin.drop 0 (Fin.drop 0 (Fin.drop 0 (Fin.CN rfl (AW.tmp rfl (Lr)) ?_ (List.Perm.refl _))))))
 · exact Lr
 rw [h] at h1;exact absurd h1 (by decide)
theorem Pq {e:A5} {c b:BA} {wb ob:Nat} {v:Value} {p3 p5 p7:Pr}  (hs:F4 e.anchors) (hl:e.anchors.length≤1000000) (h:Cs e.anchors c.number=true):At prog 173 [ptr wb 0] [BP wb ob c b,Bf ob e p3 p5 (is v) p7,Af 3 1 (e.anchors.map fun n=>[int n]) v] (int 41) []:=by
 refine At.of func173 rfl rfl (by exact Nb rfl) fun M0 w0 S rs M1 w1=> ?_
 refine ac ?_
 refine ap ?_
 refine TO.C5 _ rfl rfl (by decide) rfl (Zx (e:=e) (c:=c) (b:=b) hs hl h) ⟨ke rfl,ke rfl,ke rfl,trivial⟩ ((AO (j:=0) rfl).trans (List.Perm.cons _ ((AO (j:=0) rfl).trans (List.Perm.cons _ ((AO (j:=0) rfl).trans (List.Perm.cons _ (List.Perm.refl _))))))) ?_
 refine ap ?_
 refine Tr.ret (Fin.CN rfl (AW.tmp rfl (Lr)) ?_ (List.Perm.refl _))
 · exact Lr
theorem Zy {e:A5} {c b:BA} {wb ob:Nat} {v:Value} {p3 p5 p7:Pr} {bk:Int}  (hs:F4 e.anchors) (hl:e.anchors.length≤1000000) (h:Cs e.anchors c.number=false):At prog 215 [ptr wb 0,ptr ob 6,int bk] [BP wb ob c b,Bf ob e p3 p5 (is v) p7,Af 3 1 (e.anchors.map fun n=>[int n]) v] (int 0) [BP wb ob c ⟨b.AP,bk,c.number,b.at_,b.Bj⟩,Bf ob e p3 p5 (ints (K4 e.anchors c.number)) p7]:=by
 refine At.of func215 rfl rfl (by exact Nb rfl) fun M0 w0 S rs M1 w1=> ?_
 refine ac ?_
 refine Tr.seq (Tr.rx ?_)
 refine ay ?_
 refine Cx.ef 2 rfl rfl (by decide) (AQ rfl rfl (by decide) rfl (Ig (l:=e.anchors) hs hl) ⟨ke rfl,ke rfl,trivial⟩) ?_
 refine ay ?_
 refine Cx.nil ⟨by kernel_rfl,?_⟩
 refine BV.done I8 (Fin.go (Ej 0 1 2 7 8 rfl ?_))
 refine an ?_ ?_<;>intro h1 q1
 rw [h] at h1;exact absurd h1 (by decide)
 refine ac ?_
 refine Tr.seq (Tr.rx ?_)
 refine ay ?_
 refine xo rfl (fun _=>AG (xs:=[.tmp 31]) (rows:=[[_]]) rfl rfl underlying22 CO z3 rfl (by decide) ⟨⟨(by exact rfl),(Vo rfl)⟩,trivial⟩ (by decide)) ?_
 refine Cx.ef 2 rfl rfl (by decide) (AQ rfl rfl (by decide) rfl (Ph (l:=e.anchors) (x:=c.number) (i:=DB e.anchors c.number) (L8 _ _) hl) ⟨ke rfl,ke rfl,(Kf rfl),trivial⟩) ?_
 refine ay ?_
 refine Cx.nil ⟨by kernel_rfl,?_⟩
 refine BV.done I8 (Fin.go (B3 0 2 rfl ?_))
 refine ap ?_
 refine Tr.weak [] trivial ?_
 refine ac ?_
 refine Tr.ret (Fin.drop 2 (Fin.CN rfl (AW.tmp rfl (Lr)) ?_ (List.Perm.refl _)))
 · exact Lr
theorem Pt {e:A5} {c b:BA} {wb ob:Nat} {v:Value} {p3 p5 p7:Pr}  (hs:F4 e.anchors) (hl:e.anchors.length≤1000000) (h:Cs e.anchors c.number=false):At prog 173 [ptr wb 0] [BP wb ob c b,Bf ob e p3 p5 (is v) p7,Af 3 1 (e.anchors.map fun n=>[int n]) v] (int 0) [BP wb ob c ⟨b.AP,8,c.number,b.at_,b.Bj⟩,Bf ob e p3 p5 (ints (K4 e.anchors c.number)) p7]:=by
 refine At.of func173 rfl rfl (by exact Nb rfl) fun M0 w0 S rs M1 w1=> ?_
 refine ac ?_
 refine ap ?_
 refine TO.C5 _ rfl rfl (by decide) rfl (Zy (e:=e) (c:=c) (b:=b) hs hl h) ⟨ke rfl,ke rfl,ke rfl,trivial⟩ ((AO (j:=0) rfl).trans (List.Perm.cons _ ((AO (j:=0) rfl).trans (List.Perm.cons _ ((AO (j:=0) rfl).trans (List.Perm.cons _ (List.Perm.refl _))))))) ?_
 refine ap ?_
 refine Tr.ret (Fin.CN rfl (AW.tmp rfl (Lr)) ?_ (List.Perm.refl _))
 · exact Lr
theorem Wu {e:A5} {c b:BA} {wb ob:Nat} {v:Value} {p3 p5 p7:Pr} {bk:Int}  (hs:F4 e.anchors) (hl:e.anchors.length≤1000000) (h:Cs e.anchors c.number=false):At prog 216 [ptr wb 0,ptr ob 6,int bk] [BP wb ob c b,Bf ob e p3 p5 (is v) p7,Af 3 1 (e.anchors.map fun n=>[int n]) v] (int 41) []:=by
 refine At.of func216 rfl rfl (by exact Nb rfl) fun M0 w0 S rs M1 w1=> ?_
 refine ac ?_
 refine Tr.seq (Tr.rx ?_)
 refine ay ?_
 refine Cx.ef 2 rfl rfl (by decide) (AQ rfl rfl (by decide) rfl (Ig (l:=e.anchors) hs hl) ⟨ke rfl,ke rfl,trivial⟩) ?_
 refine ay ?_
 refine Cx.nil ⟨by kernel_rfl,?_⟩
 refine BV.done I8 (Fin.go (Ej 0 1 2 7 8 rfl ?_))
 refine an ?_ ?_<;>intro h1 q1
 refine ac ?_
 refine Tr.ret (Fin.AF (Fin.drop 0 (Fin.drop 0 (Fin.drop 0 (Fin.CN rfl (AW.tmp rfl (Lr)) ?_ (List.Perm.refl _))))))
 · exact Lr
 rw [h] at h1;exact absurd h1 (by decide)
theorem N4 {e:A5} {c b:BA} {wb ob:Nat} {v:Value} {p3 p5 p7:Pr}  (hs:F4 e.anchors) (hl:e.anchors.length≤1000000) (h:Cs e.anchors c.number=false):At prog 174 [ptr wb 0] [BP wb ob c b,Bf ob e p3 p5 (is v) p7,Af 3 1 (e.anchors.map fun n=>[int n]) v] (int 41) []:=by
 refine At.of func174 rfl rfl (by exact Nb rfl) fun M0 w0 S rs M1 w1=> ?_
 refine ac ?_
 refine ap ?_
 refine TO.C5 _ rfl rfl (by decide) rfl (Wu (e:=e) (c:=c) (b:=b) hs hl h) ⟨ke rfl,ke rfl,ke rfl,trivial⟩ ((AO (j:=0) rfl).trans (List.Perm.cons _ ((AO (j:=0) rfl).trans (List.Perm.cons _ ((AO (j:=0) rfl).trans (List.Perm.cons _ (List.Perm.refl _))))))) ?_
 refine ap ?_
 refine Tr.ret (Fin.CN rfl (AW.tmp rfl (Lr)) ?_ (List.Perm.refl _))
 · exact Lr
theorem Wv {e:A5} {c b:BA} {wb ob:Nat} {v:Value} {p3 p5 p7:Pr} {bk:Int}  (hs:F4 e.anchors) (hl:e.anchors.length≤1000000) (h:Cs e.anchors c.number=true):At prog 216 [ptr wb 0,ptr ob 6,int bk] [BP wb ob c b,Bf ob e p3 p5 (is v) p7,Af 3 1 (e.anchors.map fun n=>[int n]) v] (int 0) [BP wb ob c ⟨b.AP,bk,c.number,b.at_,b.Bj⟩,Bf ob e p3 p5 (ints (e.anchors.eraseIdx (DB e.anchors c.number))) p7]:=by
 refine At.of func216 rfl rfl (by exact Nb rfl) fun M0 w0 S rs M1 w1=> ?_
 have lB:=He h
 refine ac ?_
 refine Tr.seq (Tr.rx ?_)
 refine ay ?_
 refine Cx.ef 2 rfl rfl (by decide) (AQ rfl rfl (by decide) rfl (Ig (l:=e.anchors) hs hl) ⟨ke rfl,ke rfl,trivial⟩) ?_
 refine ay ?_
 refine Cx.nil ⟨by kernel_rfl,?_⟩
 refine BV.done I8 (Fin.go (Ej 0 1 2 7 8 rfl ?_))
 refine an ?_ ?_<;>intro h1 q1
 rw [h] at h1;exact absurd h1 (by decide)
 refine ac ?_
 refine ap ?_
 refine TO.Er 2 rfl rfl (by decide) (AQ rfl rfl (by decide) rfl (Pj (l:=e.anchors) (i:=DB e.anchors c.number) (He h) hl) ⟨ke rfl,⟨_,rfl,int_eq (by omega)⟩,⟨_,rfl,int_eq (by omega)⟩,trivial⟩) ?_
 refine ap ?_
 refine B3 0 2 rfl ?_
 refine ap ?_
 refine Tr.weak [] trivial ?_
 refine ac ?_
 refine Tr.ret (Fin.drop 2 (Fin.CN rfl (AW.tmp rfl (Lr)) ?_ (List.Perm.refl _)))
 · exact Lr
theorem N5 {e:A5} {c b:BA} {wb ob:Nat} {v:Value} {p3 p5 p7:Pr}  (hs:F4 e.anchors) (hl:e.anchors.length≤1000000) (h:Cs e.anchors c.number=true):At prog 174 [ptr wb 0] [BP wb ob c b,Bf ob e p3 p5 (is v) p7,Af 3 1 (e.anchors.map fun n=>[int n]) v] (int 0) [BP wb ob c ⟨b.AP,7,c.number,b.at_,b.Bj⟩,Bf ob e p3 p5 (ints (e.anchors.eraseIdx (DB e.anchors c.number))) p7]:=by
 refine At.of func174 rfl rfl (by exact Nb rfl) fun M0 w0 S rs M1 w1=> ?_
 refine ac ?_
 refine ap ?_
 refine TO.C5 _ rfl rfl (by decide) rfl (Wv (e:=e) (c:=c) (b:=b) hs hl h) ⟨ke rfl,ke rfl,ke rfl,trivial⟩ ((AO (j:=0) rfl).trans (List.Perm.cons _ ((AO (j:=0) rfl).trans (List.Perm.cons _ ((AO (j:=0) rfl).trans (List.Perm.cons _ (List.Perm.refl _))))))) ?_
 refine ap ?_
 refine Tr.ret (Fin.CN rfl (AW.tmp rfl (Lr)) ?_ (List.Perm.refl _))
 · exact Lr
theorem Zz {e:A5} {c b:BA} {wb ob:Nat} {v:Value} {p3 p5 p6:Pr} {bk:Int}  (hs:F4 e.hashes) (hl:e.hashes.length≤1000000) (h:Cs e.hashes c.number=true):At prog 215 [ptr wb 0,ptr ob 7,int bk] [BP wb ob c b,Bf ob e p3 p5 p6 (is v),Af 3 1 (e.hashes.map fun n=>[int n]) v] (int 41) []:=by
 refine At.of func215 rfl rfl (by exact Nb rfl) fun M0 w0 S rs M1 w1=> ?_
 refine ac ?_
 refine Tr.seq (Tr.rx ?_)
 refine ay ?_
 refine Cx.ef 2 rfl rfl (by decide) (AQ rfl rfl (by decide) rfl (Ig (l:=e.hashes) hs hl) ⟨ke rfl,ke rfl,trivial⟩) ?_
 refine ay ?_
 refine Cx.nil ⟨by kernel_rfl,?_⟩
 refine BV.done I8 (Fin.go (Ej 0 1 2 7 8 rfl ?_))
 refine an ?_ ?_<;>intro h1 q1
 refine ac ?_
 refine Tr.ret (Fin.AF (Fin.drop 0 (Fin.drop 0 (Fin.drop 0 (Fin.CN rfl (AW.tmp rfl (Lr)) ?_ (List.Perm.refl _))))))
 · exact Lr
 rw [h] at h1;exact absurd h1 (by decide)
theorem SU {e:A5} {c b:BA} {wb ob:Nat} {v:Value} {p3 p5 p6:Pr}  (hs:F4 e.hashes) (hl:e.hashes.length≤1000000) (h:Cs e.hashes c.number=true):At prog 175 [ptr wb 0] [BP wb ob c b,Bf ob e p3 p5 p6 (is v),Af 3 1 (e.hashes.map fun n=>[int n]) v] (int 41) []:=by
 refine At.of func175 rfl rfl (by exact Nb rfl) fun M0 w0 S rs M1 w1=> ?_
 refine ac ?_
 refine ap ?_
 refine TO.C5 _ rfl rfl (by decide) rfl (Zz (e:=e) (c:=c) (b:=b) hs hl h) ⟨ke rfl,ke rfl,ke rfl,trivial⟩ ((AO (j:=0) rfl).trans (List.Perm.cons _ ((AO (j:=0) rfl).trans (List.Perm.cons _ ((AO (j:=0) rfl).trans (List.Perm.cons _ (List.Perm.refl _))))))) ?_
 refine ap ?_
 refine Tr.ret (Fin.CN rfl (AW.tmp rfl (Lr)) ?_ (List.Perm.refl _))
 · exact Lr
theorem Z0 {e:A5} {c b:BA} {wb ob:Nat} {v:Value} {p3 p5 p6:Pr} {bk:Int}  (hs:F4 e.hashes) (hl:e.hashes.length≤1000000) (h:Cs e.hashes c.number=false):At prog 215 [ptr wb 0,ptr ob 7,int bk] [BP wb ob c b,Bf ob e p3 p5 p6 (is v),Af 3 1 (e.hashes.map fun n=>[int n]) v] (int 0) [BP wb ob c ⟨b.AP,bk,c.number,b.at_,b.Bj⟩,Bf ob e p3 p5 p6 (ints (K4 e.hashes c.number))]:=by
 refine At.of func215 rfl rfl (by exact Nb rfl) fun M0 w0 S rs M1 w1=> ?_
 refine ac ?_
 refine Tr.seq (Tr.rx ?_)
 refine ay ?_
 refine Cx.ef 2 rfl rfl (by decide) (AQ rfl rfl (by decide) rfl (Ig (l:=e.hashes) hs hl) ⟨ke rfl,ke rfl,trivial⟩) ?_
 refine ay ?_
 refine Cx.nil ⟨by kernel_rfl,?_⟩
 refine BV.done I8 (Fin.go (Ej 0 1 2 7 8 rfl ?_))
 refine an ?_ ?_<;>intro h1 q1
 rw [h] at h1;exact absurd h1 (by decide)
 refine ac ?_
 refine Tr.seq (Tr.rx ?_)
 refine ay ?_
 refine xo rfl (fun _=>AG (xs:=[.tmp 31]) (rows:=[[_]]) rfl rfl underlying22 CO z3 rfl (by decide) ⟨⟨(by exact rfl),(Vo rfl)⟩,trivial⟩ (by decide)) ?_
 refine Cx.ef 2 rfl rfl (by decide) (AQ rfl rfl (by decide) rfl (Ph (l:=e.hashes) (x:=c.number) (i:=DB e.hashes c.number) (L8 _ _) hl) ⟨ke rfl,ke rfl,(Kf rfl),trivial⟩) ?_
 refine ay ?_
 refine Cx.nil ⟨by kernel_rfl,?_⟩
 refine BV.done I8 (Fin.go (B3 0 2 rfl ?_))
 refine ap ?_
 refine Tr.weak [] trivial ?_
 refine ac ?_
 refine Tr.ret (Fin.drop 2 (Fin.CN rfl (AW.tmp rfl (Lr)) ?_ (List.Perm.refl _)))
 · exact Lr
theorem SV {e:A5} {c b:BA} {wb ob:Nat} {v:Value} {p3 p5 p6:Pr}  (hs:F4 e.hashes) (hl:e.hashes.length≤1000000) (h:Cs e.hashes c.number=false):At prog 175 [ptr wb 0] [BP wb ob c b,Bf ob e p3 p5 p6 (is v),Af 3 1 (e.hashes.map fun n=>[int n]) v] (int 0) [BP wb ob c ⟨b.AP,10,c.number,b.at_,b.Bj⟩,Bf ob e p3 p5 p6 (ints (K4 e.hashes c.number))]:=by
 refine At.of func175 rfl rfl (by exact Nb rfl) fun M0 w0 S rs M1 w1=> ?_
 refine ac ?_
 refine ap ?_
 refine TO.C5 _ rfl rfl (by decide) rfl (Z0 (e:=e) (c:=c) (b:=b) hs hl h) ⟨ke rfl,ke rfl,ke rfl,trivial⟩ ((AO (j:=0) rfl).trans (List.Perm.cons _ ((AO (j:=0) rfl).trans (List.Perm.cons _ ((AO (j:=0) rfl).trans (List.Perm.cons _ (List.Perm.refl _))))))) ?_
 refine ap ?_
 refine Tr.ret (Fin.CN rfl (AW.tmp rfl (Lr)) ?_ (List.Perm.refl _))
 · exact Lr
theorem Ww {e:A5} {c b:BA} {wb ob:Nat} {v:Value} {p3 p5 p6:Pr} {bk:Int}  (hs:F4 e.hashes) (hl:e.hashes.length≤1000000) (h:Cs e.hashes c.number=false):At prog 216 [ptr wb 0,ptr ob 7,int bk] [BP wb ob c b,Bf ob e p3 p5 p6 (is v),Af 3 1 (e.hashes.map fun n=>[int n]) v] (int 41) []:=by
 refine At.of func216 rfl rfl (by exact Nb rfl) fun M0 w0 S rs M1 w1=> ?_
 refine ac ?_
 refine Tr.seq (Tr.rx ?_)
 refine ay ?_
 refine Cx.ef 2 rfl rfl (by decide) (AQ rfl rfl (by decide) rfl (Ig (l:=e.hashes) hs hl) ⟨ke rfl,ke rfl,trivial⟩) ?_
 refine ay ?_
 refine Cx.nil ⟨by kernel_rfl,?_⟩
 refine BV.done I8 (Fin.go (Ej 0 1 2 7 8 rfl ?_))
 refine an ?_ ?_<;>intro h1 q1
 refine ac ?_
 refine Tr.ret (Fin.AF (Fin.drop 0 (Fin.drop 0 (Fin.drop 0 (Fin.CN rfl (AW.tmp rfl (Lr)) ?_ (List.Perm.refl _))))))
 · exact Lr
 rw [h] at h1;exact absurd h1 (by decide)
theorem Q6 {e:A5} {c b:BA} {wb ob:Nat} {v:Value} {p3 p5 p6:Pr}  (hs:F4 e.hashes) (hl:e.hashes.length≤1000000) (h:Cs e.hashes c.number=false):At prog 176 [ptr wb 0] [BP wb ob c b,Bf ob e p3 p5 p6 (is v),Af 3 1 (e.hashes.map fun n=>[int n]) v] (int 41) []:=by
 refine At.of func176 rfl rfl (by exact Nb rfl) fun M0 w0 S rs M1 w1=> ?_
 refine ac ?_
 refine ap ?_
 refine TO.C5 _ rfl rfl (by decide) rfl (Ww (e:=e) (c:=c) (b:=b) hs hl h) ⟨ke rfl,ke rfl,ke rfl,trivial⟩ ((AO (j:=0) rfl).trans (List.Perm.cons _ ((AO (j:=0) rfl).trans (List.Perm.cons _ ((AO (j:=0) rfl).trans (List.Perm.cons _ (List.Perm.refl _))))))) ?_
 refine ap ?_
 refine Tr.ret (Fin.CN rfl (AW.tmp rfl (Lr)) ?_ (List.Perm.refl _))
 · exact Lr
theorem Wx {e:A5} {c b:BA} {wb ob:Nat} {v:Value} {p3 p5 p6:Pr} {bk:Int}  (hs:F4 e.hashes) (hl:e.hashes.length≤1000000) (h:Cs e.hashes c.number=true):At prog 216 [ptr wb 0,ptr ob 7,int bk] [BP wb ob c b,Bf ob e p3 p5 p6 (is v),Af 3 1 (e.hashes.map fun n=>[int n]) v] (int 0) [BP wb ob c ⟨b.AP,bk,c.number,b.at_,b.Bj⟩,Bf ob e p3 p5 p6 (ints (e.hashes.eraseIdx (DB e.hashes c.number)))]:=by
 refine At.of func216 rfl rfl (by exact Nb rfl) fun M0 w0 S rs M1 w1=> ?_
 have lB:=He h
 refine ac ?_
 refine Tr.seq (Tr.rx ?_)
 refine ay ?_
 refine Cx.ef 2 rfl rfl (by decide) (AQ rfl rfl (by decide) rfl (Ig (l:=e.hashes) hs hl) ⟨ke rfl,ke rfl,trivial⟩) ?_
 refine ay ?_
 refine Cx.nil ⟨by kernel_rfl,?_⟩
 refine BV.done I8 (Fin.go (Ej 0 1 2 7 8 rfl ?_))
 refine an ?_ ?_<;>intro h1 q1
 rw [h] at h1;exact absurd h1 (by decide)
 refine ac ?_
 refine ap ?_
 refine TO.Er 2 rfl rfl (by decide) (AQ rfl rfl (by decide) rfl (Pj (l:=e.hashes) (i:=DB e.hashes c.number) (He h) hl) ⟨ke rfl,⟨_,rfl,int_eq (by omega)⟩,⟨_,rfl,int_eq (by omega)⟩,trivial⟩) ?_
 refine ap ?_
 refine B3 0 2 rfl ?_
 refine ap ?_
 refine Tr.weak [] trivial ?_
 refine ac ?_
 refine Tr.ret (Fin.drop 2 (Fin.CN rfl (AW.tmp rfl (Lr)) ?_ (List.Perm.refl _)))
 · exact Lr
theorem Q7 {e:A5} {c b:BA} {wb ob:Nat} {v:Value} {p3 p5 p6:Pr}  (hs:F4 e.hashes) (hl:e.hashes.length≤1000000) (h:Cs e.hashes c.number=true):At prog 176 [ptr wb 0] [BP wb ob c b,Bf ob e p3 p5 p6 (is v),Af 3 1 (e.hashes.map fun n=>[int n]) v] (int 0) [BP wb ob c ⟨b.AP,9,c.number,b.at_,b.Bj⟩,Bf ob e p3 p5 p6 (ints (e.hashes.eraseIdx (DB e.hashes c.number)))]:=by
 refine At.of func176 rfl rfl (by exact Nb rfl) fun M0 w0 S rs M1 w1=> ?_
 refine ac ?_
 refine ap ?_
 refine TO.C5 _ rfl rfl (by decide) rfl (Wx (e:=e) (c:=c) (b:=b) hs hl h) ⟨ke rfl,ke rfl,ke rfl,trivial⟩ ((AO (j:=0) rfl).trans (List.Perm.cons _ ((AO (j:=0) rfl).trans (List.Perm.cons _ ((AO (j:=0) rfl).trans (List.Perm.cons _ (List.Perm.refl _))))))) ?_
 refine ap ?_
 refine Tr.ret (Fin.CN rfl (AW.tmp rfl (Lr)) ?_ (List.Perm.refl _))
 · exact Lr
theorem MA {c b:BA} {wb ob cb:Nat} {n:Int}  (h:n=c.number):At prog 209 [ptr wb 0,ptr cb 0] [BP wb ob c b,AE true cb 3 [int n]] (int 41) [BP wb ob c b,AE true cb 3 [int n]]:=by
 refine At.of func209 rfl rfl (by exact Nb rfl) fun M0 w0 S rs M1 w1=> ?_
 refine ac ?_
 refine an ?_ ?_<;>intro h1 q1
 refine ac ?_
 refine Tr.ret (Fin.AF (Fin.CN rfl (AW.tmp rfl (Lr)) ?_ (List.Perm.refl _)))
 · exact Lr
 exfalso;have:=q1;omega
theorem MB {c b:BA} {wb ob cb:Nat} {n:Int}  (h:n≠c.number):At prog 209 [ptr wb 0,ptr cb 0] [BP wb ob c b,AE true cb 3 [int n]] (int 0) [BP wb ob c ⟨b.AP,c.kind,n,b.at_,b.Bj⟩,AE true cb 3 [int c.number]]:=by
 refine At.of func209 rfl rfl (by exact Nb rfl) fun M0 w0 S rs M1 w1=> ?_
 refine ac ?_
 refine an ?_ ?_<;>intro h1 q1
 exfalso;have:=q1;omega
 refine ac ?_
 refine Tr.seq (Tr.rx ?_)
 refine ay ?_
 refine Cx.nil ⟨by kernel_rfl,?_⟩
 refine BV.done YC (Fin.go (B3 0 1 rfl ?_))
 refine ap ?_
 refine ac ?_
 refine Tr.ret (Fin.CN rfl (AW.tmp rfl (Lr)) ?_ (List.Perm.refl _))
 · exact Lr
theorem SW {e:A5} {c b:BA} {wb ob:Nat} {p3 p5 p6 p7:Pr}  (h:e.most=c.number):At prog 209 [ptr wb 0,ptr ob 2] [BP wb ob c b,Bf ob e p3 p5 p6 p7] (int 41) [BP wb ob c b,Bf ob e p3 p5 p6 p7]:=by
 refine At.of func209 rfl rfl (by exact Nb rfl) fun M0 w0 S rs M1 w1=> ?_
 refine ac ?_
 refine an ?_ ?_<;>intro h1 q1
 refine ac ?_
 refine Tr.ret (Fin.AF (Fin.CN rfl (AW.tmp rfl (Lr)) ?_ (List.Perm.refl _)))
 · exact Lr
 exfalso;have:=q1;omega
theorem SX {e:A5} {c b:BA} {wb ob:Nat} {p3 p5 p6 p7:Pr}  (h:e.most≠c.number):At prog 209 [ptr wb 0,ptr ob 2] [BP wb ob c b,Bf ob e p3 p5 p6 p7] (int 0) [BP wb ob c ⟨b.AP,c.kind,e.most,b.at_,b.Bj⟩,Bf ob { e with most:=c.number } p3 p5 p6 p7]:=by
 refine At.of func209 rfl rfl (by exact Nb rfl) fun M0 w0 S rs M1 w1=> ?_
 refine ac ?_
 refine an ?_ ?_<;>intro h1 q1
 exfalso;have:=q1;omega
 refine ac ?_
 refine Tr.seq (Tr.rx ?_)
 refine ay ?_
 refine Cx.nil ⟨by kernel_rfl,?_⟩
 refine BV.done YC (Fin.go (B3 0 1 rfl ?_))
 refine ap ?_
 refine ac ?_
 refine Tr.ret (Fin.CN rfl (AW.tmp rfl (Lr)) ?_ (List.Perm.refl _))
 · exact Lr
theorem Q8 {e:A5} {c b:BA} {wb ob:Nat} {p3 p5 p6 p7:Pr}  (h:e.most=c.number):At prog 169 [ptr wb 0] [BP wb ob c b,Bf ob e p3 p5 p6 p7] (int 41) []:=by
 refine At.of func169 rfl rfl (by exact Nb rfl) fun M0 w0 S rs M1 w1=> ?_
 refine ac ?_
 refine ap ?_
 refine TO.C5 _ rfl rfl (by decide) rfl (SW (e:=e) (c:=c) (b:=b) h) ⟨ke rfl,ke rfl,trivial⟩ ((AO (j:=0) rfl).trans (List.Perm.cons _ ((AO (j:=0) rfl).trans (List.Perm.cons _ (List.Perm.refl _))))) ?_
 refine ap ?_
 refine Tr.ret (Fin.drop 0 (Fin.drop 0 (Fin.CN rfl (AW.tmp rfl (Lr)) ?_ (List.Perm.refl _))))
 · exact Lr
theorem Q9 {e:A5} {c b:BA} {wb ob:Nat} {p3 p5 p6 p7:Pr}  (h:e.most≠c.number):At prog 169 [ptr wb 0] [BP wb ob c b,Bf ob e p3 p5 p6 p7] (int 0) [BP wb ob c ⟨b.AP,c.kind,e.most,b.at_,b.Bj⟩,Bf ob { e with most:=c.number } p3 p5 p6 p7]:=by
 refine At.of func169 rfl rfl (by exact Nb rfl) fun M0 w0 S rs M1 w1=> ?_
 refine ac ?_
 refine ap ?_
 refine TO.C5 _ rfl rfl (by decide) rfl (SX (e:=e) (c:=c) (b:=b) h) ⟨ke rfl,ke rfl,trivial⟩ ((AO (j:=0) rfl).trans (List.Perm.cons _ ((AO (j:=0) rfl).trans (List.Perm.cons _ (List.Perm.refl _))))) ?_
 refine ap ?_
 refine Tr.ret (Fin.CN rfl (AW.tmp rfl (Lr)) ?_ (List.Perm.refl _))
 · exact Lr
theorem Q_ {e:A5} {c b:BA} {wb ob:Nat} {p3 p5 p6 p7:Pr}  (h:e.least=c.number):At prog 209 [ptr wb 0,ptr ob 1] [BP wb ob c b,Bf ob e p3 p5 p6 p7] (int 41) [BP wb ob c b,Bf ob e p3 p5 p6 p7]:=by
 refine At.of func209 rfl rfl (by exact Nb rfl) fun M0 w0 S rs M1 w1=> ?_
 refine ac ?_
 refine an ?_ ?_<;>intro h1 q1
 refine ac ?_
 refine Tr.ret (Fin.AF (Fin.CN rfl (AW.tmp rfl (Lr)) ?_ (List.Perm.refl _)))
 · exact Lr
 exfalso;have:=q1;omega
theorem RA {e:A5} {c b:BA} {wb ob:Nat} {p3 p5 p6 p7:Pr}  (h:e.least≠c.number):At prog 209 [ptr wb 0,ptr ob 1] [BP wb ob c b,Bf ob e p3 p5 p6 p7] (int 0) [BP wb ob c ⟨b.AP,c.kind,e.least,b.at_,b.Bj⟩,Bf ob { e with least:=c.number } p3 p5 p6 p7]:=by
 refine At.of func209 rfl rfl (by exact Nb rfl) fun M0 w0 S rs M1 w1=> ?_
 refine ac ?_
 refine an ?_ ?_<;>intro h1 q1
 exfalso;have:=q1;omega
 refine ac ?_
 refine Tr.seq (Tr.rx ?_)
 refine ay ?_
 refine Cx.nil ⟨by kernel_rfl,?_⟩
 refine BV.done YC (Fin.go (B3 0 1 rfl ?_))
 refine ap ?_
 refine ac ?_
 refine Tr.ret (Fin.CN rfl (AW.tmp rfl (Lr)) ?_ (List.Perm.refl _))
 · exact Lr
theorem Pu {e:A5} {c b:BA} {wb ob:Nat} {p3 p5 p6 p7:Pr}  (h:e.least=c.number):At prog 170 [ptr wb 0] [BP wb ob c b,Bf ob e p3 p5 p6 p7] (int 41) []:=by
 refine At.of func170 rfl rfl (by exact Nb rfl) fun M0 w0 S rs M1 w1=> ?_
 refine ac ?_
 refine ap ?_
 refine TO.C5 _ rfl rfl (by decide) rfl (Q_ (e:=e) (c:=c) (b:=b) h) ⟨ke rfl,ke rfl,trivial⟩ ((AO (j:=0) rfl).trans (List.Perm.cons _ ((AO (j:=0) rfl).trans (List.Perm.cons _ (List.Perm.refl _))))) ?_
 refine ap ?_
 refine Tr.ret (Fin.drop 0 (Fin.drop 0 (Fin.CN rfl (AW.tmp rfl (Lr)) ?_ (List.Perm.refl _))))
 · exact Lr
theorem Pv {e:A5} {c b:BA} {wb ob:Nat} {p3 p5 p6 p7:Pr}  (h:e.least≠c.number):At prog 170 [ptr wb 0] [BP wb ob c b,Bf ob e p3 p5 p6 p7] (int 0) [BP wb ob c ⟨b.AP,c.kind,e.least,b.at_,b.Bj⟩,Bf ob { e with least:=c.number } p3 p5 p6 p7]:=by
 refine At.of func170 rfl rfl (by exact Nb rfl) fun M0 w0 S rs M1 w1=> ?_
 refine ac ?_
 refine ap ?_
 refine TO.C5 _ rfl rfl (by decide) rfl (RA (e:=e) (c:=c) (b:=b) h) ⟨ke rfl,ke rfl,trivial⟩ ((AO (j:=0) rfl).trans (List.Perm.cons _ ((AO (j:=0) rfl).trans (List.Perm.cons _ (List.Perm.refl _))))) ?_
 refine ap ?_
 refine Tr.ret (Fin.CN rfl (AW.tmp rfl (Lr)) ?_ (List.Perm.refl _))
 · exact Lr
abbrev D8 (b:Bool):Int:=if b then 1 else 0
theorem Ll {e:A5} {c b:BA} {wb ob:Nat} {p3 p5 p6 p7:Pr}  (hr:¬(0≤c.number∧c.number≤1)):At prog 217 [ptr wb 0,ptr ob 8] [BP wb ob c b,Bf ob e p3 p5 p6 p7] (int 2) []:=by
 refine At.of func217 rfl rfl (by exact Nb rfl) fun M0 w0 S rs M1 w1=> ?_
 refine ac ?_
 refine ag ?_ ?_<;>intro h1 q1
 have qc:=q1
 refine ac ?_
 refine Cg 0 1 20 rfl ?_
 refine ac ?_
 refine Tr.ret (Fin.AF (Fin.drop 0 (Fin.drop 0 (Fin.CN rfl (AW.tmp rfl (Lr)) ?_ (List.Perm.refl _)))))
 · exact Lr
 refine ac ?_
 refine Cg 0 1 20 rfl ?_
 refine Tr.cn rfl ?_ ?_<;>intro h2 q2
 refine ac ?_
 refine Tr.ret (Fin.AF (Fin.drop 0 (Fin.drop 0 (Fin.CN rfl (AW.tmp rfl (Lr)) ?_ (List.Perm.refl _)))))
 · exact Lr
 exfalso;simp_all
theorem Lm {e:A5} {c b:BA} {wb ob:Nat} {p3 p5 p6 p7:Pr}  (hr:¬(0≤c.number∧c.number≤1)):At prog 177 [ptr wb 0] [BP wb ob c b,Bf ob e p3 p5 p6 p7] (int 2) []:=by
 refine At.of func177 rfl rfl (by exact Nb rfl) fun M0 w0 S rs M1 w1=> ?_
 refine ac ?_
 refine ap ?_
 refine TO.C5 _ rfl rfl (by decide) rfl (Ll (e:=e) (c:=c) (b:=b) hr) ⟨ke rfl,ke rfl,trivial⟩ ((AO (j:=0) rfl).trans (List.Perm.cons _ ((AO (j:=0) rfl).trans (List.Perm.cons _ (List.Perm.refl _))))) ?_
 refine ap ?_
 refine Tr.ret (Fin.CN rfl (AW.tmp rfl (Lr)) ?_ (List.Perm.refl _))
 · exact Lr
theorem Ln {e:A5} {c b:BA} {wb ob:Nat} {p3 p5 p6 p7:Pr} {k:Int}  (hr:0≤c.number∧c.number≤1) (hk:D8 e.Fq=k) (h:k=c.number):At prog 217 [ptr wb 0,ptr ob 8] [BP wb ob c b,Bf ob e p3 p5 p6 p7] (int 41) []:=by
 refine At.of func217 rfl rfl (by exact Nb rfl) fun M0 w0 S rs M1 w1=> ?_
 refine ac ?_
 refine ag ?_ ?_<;>intro h1 q1
 exfalso;have:=q1;omega
 refine ac ?_
 refine Cg 0 1 20 rfl ?_
 refine Tr.cn rfl ?_ ?_<;>intro h2 q2
 exfalso;simp_all;omega
 refine ac ?_
 refine Tr.seq (Tr.Aq ?_)
 refine Tl rfl rfl rfl rfl z3 jE (fun b1=> ?_)
 refine ap ?_
 refine an ?_ ?_<;>intro h3 q3
 obtain rfl:k=1:=by rw [←hk];unfold D8;simp_all
 refine ap ?_
 refine ap ?_
 refine TO.C5 _ rfl rfl (by decide) rfl (MA (c:=c) (b:=b) h) ⟨ke rfl,ke rfl,trivial⟩ ((AO (j:=1) rfl).trans (List.Perm.cons _ ((AO (j:=0) rfl).trans (List.Perm.cons _ (List.Perm.refl _))))) ?_
 refine ap ?_
 refine ap ?_
 refine Tr.drop 1 (Es 6 rfl ?_)
 refine ac ?_
 refine Tr.ret (Fin.drop 0 (Fin.drop 0 (Fin.CN rfl (AW.tmp rfl (Lr)) ?_ (List.Perm.refl _))))
 · exact Lr
 obtain rfl:k=0:=by rw [←hk];unfold D8;simp_all
 refine ac ?_
 refine ap ?_
 refine TO.C5 _ rfl rfl (by decide) rfl (MA (c:=c) (b:=b) h) ⟨ke rfl,ke rfl,trivial⟩ ((AO (j:=1) rfl).trans (List.Perm.cons _ ((AO (j:=0) rfl).trans (List.Perm.cons _ (List.Perm.refl _))))) ?_
 refine ap ?_
 refine ap ?_
 refine Tr.drop 1 (Es 6 rfl ?_)
 refine ac ?_
 refine Tr.ret (Fin.drop 0 (Fin.drop 0 (Fin.CN rfl (AW.tmp rfl (Lr)) ?_ (List.Perm.refl _))))
 · exact Lr
theorem Lp {e:A5} {c b:BA} {wb ob:Nat} {p3 p5 p6 p7:Pr} {k:Int}  (hr:0≤c.number∧c.number≤1) (hk:D8 e.Fq=k) (h:k=c.number):At prog 177 [ptr wb 0] [BP wb ob c b,Bf ob e p3 p5 p6 p7] (int 41) []:=by
 refine At.of func177 rfl rfl (by exact Nb rfl) fun M0 w0 S rs M1 w1=> ?_
 refine ac ?_
 refine ap ?_
 refine TO.C5 _ rfl rfl (by decide) rfl (Ln (e:=e) (c:=c) (b:=b) hr hk h) ⟨ke rfl,ke rfl,trivial⟩ ((AO (j:=0) rfl).trans (List.Perm.cons _ ((AO (j:=0) rfl).trans (List.Perm.cons _ (List.Perm.refl _))))) ?_
 refine ap ?_
 refine Tr.ret (Fin.CN rfl (AW.tmp rfl (Lr)) ?_ (List.Perm.refl _))
 · exact Lr
theorem Lq {e:A5} {c b:BA} {wb ob:Nat} {p3 p5 p6 p7:Pr} {k:Int}  (hr:0≤c.number∧c.number≤1) (hk:D8 e.Fq=k) (h:k≠c.number):At prog 217 [ptr wb 0,ptr ob 8] [BP wb ob c b,Bf ob e p3 p5 p6 p7] (int 0) [BP wb ob c ⟨b.AP,c.kind,k,b.at_,b.Bj⟩,Bf ob { e with Fq:=(c.number==1) } p3 p5 p6 p7]:=by
 refine At.of func217 rfl rfl (by exact Nb rfl) fun M0 w0 S rs M1 w1=> ?_
 refine ac ?_
 refine ag ?_ ?_<;>intro h1 q1
 exfalso;have:=q1;omega
 refine ac ?_
 refine Cg 0 1 20 rfl ?_
 refine Tr.cn rfl ?_ ?_<;>intro h2 q2
 exfalso;simp_all;omega
 refine ac ?_
 refine Tr.seq (Tr.Aq ?_)
 refine Tl rfl rfl rfl rfl z3 jE (fun b1=> ?_)
 refine ap ?_
 refine an ?_ ?_<;>intro h3 q3
 obtain rfl:k=1:=by rw [←hk];unfold D8;simp_all
 refine ap ?_
 refine ap ?_
 refine TO.C5 _ rfl rfl (by decide) rfl (MB (c:=c) (b:=b) h) ⟨ke rfl,ke rfl,trivial⟩ ((AO (j:=1) rfl).trans (List.Perm.cons _ ((AO (j:=0) rfl).trans (List.Perm.cons _ (List.Perm.refl _))))) ?_
 refine ap ?_
 refine ap ?_
 refine Tr.drop 1 (Es 6 rfl ?_)
 refine ac ?_
 refine Tr.ret (Fin.CN rfl (AW.tmp rfl (Lr)) ?_ (List.Perm.refl _))
 · exact Lr
 obtain rfl:k=0:=by rw [←hk];unfold D8;simp_all
 refine ac ?_
 refine ap ?_
 refine TO.C5 _ rfl rfl (by decide) rfl (MB (c:=c) (b:=b) h) ⟨ke rfl,ke rfl,trivial⟩ ((AO (j:=1) rfl).trans (List.Perm.cons _ ((AO (j:=0) rfl).trans (List.Perm.cons _ (List.Perm.refl _))))) ?_
 refine ap ?_
 refine ap ?_
 refine Tr.drop 1 (Es 6 rfl ?_)
 refine ac ?_
 refine Tr.ret (Fin.CN rfl (AW.tmp rfl (Lr)) ?_ (List.Perm.refl _))
 · exact Lr
theorem Ls {e:A5} {c b:BA} {wb ob:Nat} {p3 p5 p6 p7:Pr} {k:Int}  (hr:0≤c.number∧c.number≤1) (hk:D8 e.Fq=k) (h:k≠c.number):At prog 177 [ptr wb 0] [BP wb ob c b,Bf ob e p3 p5 p6 p7] (int 0) [BP wb ob c ⟨b.AP,c.kind,k,b.at_,b.Bj⟩,Bf ob { e with Fq:=(c.number==1) } p3 p5 p6 p7]:=by
 refine At.of func177 rfl rfl (by exact Nb rfl) fun M0 w0 S rs M1 w1=> ?_
 refine ac ?_
 refine ap ?_
 refine TO.C5 _ rfl rfl (by decide) rfl (Lq (e:=e) (c:=c) (b:=b) hr hk h) ⟨ke rfl,ke rfl,trivial⟩ ((AO (j:=0) rfl).trans (List.Perm.cons _ ((AO (j:=0) rfl).trans (List.Perm.cons _ (List.Perm.refl _))))) ?_
 refine ap ?_
 refine Tr.ret (Fin.CN rfl (AW.tmp rfl (Lr)) ?_ (List.Perm.refl _))
 · exact Lr
theorem Pw {e:A5} {c b:BA} {wb ob:Nat} {p3 p5 p6 p7:Pr}  (hr:¬(0≤c.number∧c.number≤1)):At prog 217 [ptr wb 0,ptr ob 4] [BP wb ob c b,Bf ob e p3 p5 p6 p7] (int 2) []:=by
 refine At.of func217 rfl rfl (by exact Nb rfl) fun M0 w0 S rs M1 w1=> ?_
 refine ac ?_
 refine ag ?_ ?_<;>intro h1 q1
 have qc:=q1
 refine ac ?_
 refine Cg 0 1 20 rfl ?_
 refine ac ?_
 refine Tr.ret (Fin.AF (Fin.drop 0 (Fin.drop 0 (Fin.CN rfl (AW.tmp rfl (Lr)) ?_ (List.Perm.refl _)))))
 · exact Lr
 refine ac ?_
 refine Cg 0 1 20 rfl ?_
 refine Tr.cn rfl ?_ ?_<;>intro h2 q2
 refine ac ?_
 refine Tr.ret (Fin.AF (Fin.drop 0 (Fin.drop 0 (Fin.CN rfl (AW.tmp rfl (Lr)) ?_ (List.Perm.refl _)))))
 · exact Lr
 exfalso;simp_all
theorem Px {e:A5} {c b:BA} {wb ob:Nat} {p3 p5 p6 p7:Pr}  (hr:¬(0≤c.number∧c.number≤1)):At prog 178 [ptr wb 0] [BP wb ob c b,Bf ob e p3 p5 p6 p7] (int 2) []:=by
 refine At.of func178 rfl rfl (by exact Nb rfl) fun M0 w0 S rs M1 w1=> ?_
 refine ac ?_
 refine ap ?_
 refine TO.C5 _ rfl rfl (by decide) rfl (Pw (e:=e) (c:=c) (b:=b) hr) ⟨ke rfl,ke rfl,trivial⟩ ((AO (j:=0) rfl).trans (List.Perm.cons _ ((AO (j:=0) rfl).trans (List.Perm.cons _ (List.Perm.refl _))))) ?_
 refine ap ?_
 refine Tr.ret (Fin.CN rfl (AW.tmp rfl (Lr)) ?_ (List.Perm.refl _))
 · exact Lr
theorem Py {e:A5} {c b:BA} {wb ob:Nat} {p3 p5 p6 p7:Pr} {k:Int}  (hr:0≤c.number∧c.number≤1) (hk:D8 e.own=k) (h:k=c.number):At prog 217 [ptr wb 0,ptr ob 4] [BP wb ob c b,Bf ob e p3 p5 p6 p7] (int 41) []:=by
 refine At.of func217 rfl rfl (by exact Nb rfl) fun M0 w0 S rs M1 w1=> ?_
 refine ac ?_
 refine ag ?_ ?_<;>intro h1 q1
 exfalso;have:=q1;omega
 refine ac ?_
 refine Cg 0 1 20 rfl ?_
 refine Tr.cn rfl ?_ ?_<;>intro h2 q2
 exfalso;simp_all;omega
 refine ac ?_
 refine Tr.seq (Tr.Aq ?_)
 refine Tl rfl rfl rfl rfl z3 jE (fun b1=> ?_)
 refine ap ?_
 refine an ?_ ?_<;>intro h3 q3
 obtain rfl:k=1:=by rw [←hk];unfold D8;simp_all
 refine ap ?_
 refine ap ?_
 refine TO.C5 _ rfl rfl (by decide) rfl (MA (c:=c) (b:=b) h) ⟨ke rfl,ke rfl,trivial⟩ ((AO (j:=1) rfl).trans (List.Perm.cons _ ((AO (j:=0) rfl).trans (List.Perm.cons _ (List.Perm.refl _))))) ?_
 refine ap ?_
 refine ap ?_
 refine Tr.drop 1 (Es 6 rfl ?_)
 refine ac ?_
 refine Tr.ret (Fin.drop 0 (Fin.drop 0 (Fin.CN rfl (AW.tmp rfl (Lr)) ?_ (List.Perm.refl _))))
 · exact Lr
 obtain rfl:k=0:=by rw [←hk];unfold D8;simp_all
 refine ac ?_
 refine ap ?_
 refine TO.C5 _ rfl rfl (by decide) rfl (MA (c:=c) (b:=b) h) ⟨ke rfl,ke rfl,trivial⟩ ((AO (j:=1) rfl).trans (List.Perm.cons _ ((AO (j:=0) rfl).trans (List.Perm.cons _ (List.Perm.refl _))))) ?_
 refine ap ?_
 refine ap ?_
 refine Tr.drop 1 (Es 6 rfl ?_)
 refine ac ?_
 refine Tr.ret (Fin.drop 0 (Fin.drop 0 (Fin.CN rfl (AW.tmp rfl (Lr)) ?_ (List.Perm.refl _))))
 · exact Lr
theorem Pz {e:A5} {c b:BA} {wb ob:Nat} {p3 p5 p6 p7:Pr} {k:Int}  (hr:0≤c.number∧c.number≤1) (hk:D8 e.own=k) (h:k=c.number):At prog 178 [ptr wb 0] [BP wb ob c b,Bf ob e p3 p5 p6 p7] (int 41) []:=by
 refine At.of func178 rfl rfl (by exact Nb rfl) fun M0 w0 S rs M1 w1=> ?_
 refine ac ?_
 refine ap ?_
 refine TO.C5 _ rfl rfl (by decide) rfl (Py (e:=e) (c:=c) (b:=b) hr hk h) ⟨ke rfl,ke rfl,trivial⟩ ((AO (j:=0) rfl).trans (List.Perm.cons _ ((AO (j:=0) rfl).trans (List.Perm.cons _ (List.Perm.refl _))))) ?_
 refine ap ?_
 refine Tr.ret (Fin.CN rfl (AW.tmp rfl (Lr)) ?_ (List.Perm.refl _))
 · exact Lr
theorem P0 {e:A5} {c b:BA} {wb ob:Nat} {p3 p5 p6 p7:Pr} {k:Int}  (hr:0≤c.number∧c.number≤1) (hk:D8 e.own=k) (h:k≠c.number):At prog 217 [ptr wb 0,ptr ob 4] [BP wb ob c b,Bf ob e p3 p5 p6 p7] (int 0) [BP wb ob c ⟨b.AP,c.kind,k,b.at_,b.Bj⟩,Bf ob { e with own:=(c.number==1) } p3 p5 p6 p7]:=by
 refine At.of func217 rfl rfl (by exact Nb rfl) fun M0 w0 S rs M1 w1=> ?_
 refine ac ?_
 refine ag ?_ ?_<;>intro h1 q1
 exfalso;have:=q1;omega
 refine ac ?_
 refine Cg 0 1 20 rfl ?_
 refine Tr.cn rfl ?_ ?_<;>intro h2 q2
 exfalso;simp_all;omega
 refine ac ?_
 refine Tr.seq (Tr.Aq ?_)
 refine Tl rfl rfl rfl rfl z3 jE (fun b1=> ?_)
 refine ap ?_
 refine an ?_ ?_<;>intro h3 q3
 obtain rfl:k=1:=by rw [←hk];unfold D8;simp_all
 refine ap ?_
 refine ap ?_
 refine TO.C5 _ rfl rfl (by decide) rfl (MB (c:=c) (b:=b) h) ⟨ke rfl,ke rfl,trivial⟩ ((AO (j:=1) rfl).trans (List.Perm.cons _ ((AO (j:=0) rfl).trans (List.Perm.cons _ (List.Perm.refl _))))) ?_
 refine ap ?_
 refine ap ?_
 refine Tr.drop 1 (Es 6 rfl ?_)
 refine ac ?_
 refine Tr.ret (Fin.CN rfl (AW.tmp rfl (Lr)) ?_ (List.Perm.refl _))
 · exact Lr
 obtain rfl:k=0:=by rw [←hk];unfold D8;simp_all
 refine ac ?_
 refine ap ?_
 refine TO.C5 _ rfl rfl (by decide) rfl (MB (c:=c) (b:=b) h) ⟨ke rfl,ke rfl,trivial⟩ ((AO (j:=1) rfl).trans (List.Perm.cons _ ((AO (j:=0) rfl).trans (List.Perm.cons _ (List.Perm.refl _))))) ?_
 refine ap ?_
 refine ap ?_
 refine Tr.drop 1 (Es 6 rfl ?_)
 refine ac ?_
 refine Tr.ret (Fin.CN rfl (AW.tmp rfl (Lr)) ?_ (List.Perm.refl _))
 · exact Lr
theorem P3 {e:A5} {c b:BA} {wb ob:Nat} {p3 p5 p6 p7:Pr} {k:Int}  (hr:0≤c.number∧c.number≤1) (hk:D8 e.own=k) (h:k≠c.number):At prog 178 [ptr wb 0] [BP wb ob c b,Bf ob e p3 p5 p6 p7] (int 0) [BP wb ob c ⟨b.AP,c.kind,k,b.at_,b.Bj⟩,Bf ob { e with own:=(c.number==1) } p3 p5 p6 p7]:=by
 refine At.of func178 rfl rfl (by exact Nb rfl) fun M0 w0 S rs M1 w1=> ?_
 refine ac ?_
 refine ap ?_
 refine TO.C5 _ rfl rfl (by decide) rfl (P0 (e:=e) (c:=c) (b:=b) hr hk h) ⟨ke rfl,ke rfl,trivial⟩ ((AO (j:=0) rfl).trans (List.Perm.cons _ ((AO (j:=0) rfl).trans (List.Perm.cons _ (List.Perm.refl _))))) ?_
 refine ap ?_
 refine Tr.ret (Fin.CN rfl (AW.tmp rfl (Lr)) ?_ (List.Perm.refl _))
 · exact Lr
theorem Wy {e:A5} (CJ:e.small):Jf prog 116 [agg (Ah e)] (fun x=>agg (Wo e (ints e.AJ) (Eu e.ids) (is x) (ints e.hashes))) (fun x=>[Af 3 1 (e.anchors.map fun n=>[int n]) x]):=by
 refine Jf.of func116 rfl rfl (by exact Nb rfl) fun M0 w0 S rs M1 w1=> ?_
 have hs1:=CJ.AJ
 have K1:=CJ.anchors
 have SS:=CJ.hashes
 have Uw:=CJ.I0
 refine Tr.seq (Tr.Aq ?_)
 refine TO.IJ rfl rfl (by decide) rfl (Va rfl) (fun b1=> ?_)
 refine Tl rfl rfl rfl rfl z32 Df (fun b2=> ?_)
 refine ao ?_
 refine Tr.seq (Tr.pad (Tr.pad (Tr.rx ?_)))
 refine ax ?_
 refine xo rfl (fun _=>B1 (DH (l:=e.AJ) hs1) rfl rfl) ?_
 refine ax ?_
 refine Cx.ef 0 rfl rfl (by decide) (Ez rfl rfl (by decide) rfl (K2 (l:=e.anchors) K1) ⟨ke rfl,trivial⟩) ?_
 refine ax ?_
 refine xo rfl (fun _=>B1 (DH (l:=e.hashes) SS) rfl rfl) ?_
 refine ax ?_
 refine Cx.ef 1 rfl rfl (by decide) (Ez rfl rfl (by decide) rfl (HC (l:=e.ids) Uw) ⟨ke rfl,trivial⟩) ?_
 refine xo rfl (fun _=>AD rfl Ea (vl rfl)) (Cx.C7 3 rfl rfl (An rfl rfl (vl rfl) (Vo rfl) Fl rfl (by exact Nb rfl) rfl) (xo rfl (fun _=>AD rfl IL (vl rfl)) (Cx.C7 3 rfl rfl (Dd rfl rfl rfl (vl rfl) rfl Fl (by exact Nb rfl)) (xo rfl (fun _=>AD rfl IM (vl rfl)) (Cx.C7 3 rfl rfl (Kz rfl rfl rfl (vl rfl) (Vo rfl) Fl rfl (fun _=>by exact Nat.le_of_ble_eq_true rfl)) (xo rfl (fun _=>AD rfl EC (vl rfl)) (Cx.C7 3 rfl rfl (Kx rfl rfl rfl (vl rfl) rfl Li (fun _=>by exact Nat.le_of_ble_eq_true rfl)) ?_)))))))
 refine Cx.nil ⟨by kernel_rfl,?_⟩
 refine BV.WD 0 1 3 10 16 rfl rfl rfl (by decide) (by decide) (by decide) (by decide) rfl rfl (fun v1 v2=> ?_)
 refine BV.done ZT (Fin.go (B3 1 2 rfl ?_))
 refine ac ?_
 refine co rfl (Bc 1 rfl (E3 rfl underlying30 (Ka rfl))) ?_
 refine ac ?_
 refine Tr.block (Tr.re 23 rfl (int_eq (by rw [List.length_map])) (Tr.BF [(1,_),(2,_),(22,_),(23,_)] (VX rfl) (fun k:Nat=>[(24,int ((k:Nat):Int))]) (fun k:Nat=>k≤(e.ids).length) (fun k:Nat=>(e.ids).length-k) 0 (Nat.zero_le _) ⟨ke rfl,trivial⟩ ?_))
 rintro k BN
 refine ac ?_
 refine Tr.seq ?_
 refine Tr.cn rfl ?_ ?_<;>intro h1 q1
 have Ac:k<(e.ids).length:=AU h1
 obtain ⟨x,Aa⟩:=at_ Ac
 have hxs:=CJ.ids x (List.mem_of_getElem? Aa)
 refine ac ?_
 refine ao ?_
 refine tp rfl (Bc 1 rfl (D1 rfl underlying30 BR (Ka rfl) (vl rfl) (by omega) (by rw [List.length_map];omega))) ?_
 refine tp rfl (Bc 1 rfl (EL rfl E2 BR (vl rfl) (Ak fun _=>rfl) (by rw [Int.toNat_natCast,List.getElem?_map,Aa];rfl))) ?_
 refine Tl rfl rfl rfl rfl HP HO (fun b3=> ?_)
 refine tm rfl ?_
 refine sf 0 4 ⟨rfl,rfl,rfl⟩ rfl rfl rfl rfl ?_
 refine ao ?_
 refine Tr.rx ?_
 refine ax ?_
 refine xo rfl (fun _=>B1 (E7 hxs) rfl rfl) ?_
 refine HG 1 rfl rfl (D1 rfl underlying30 BR (Ka rfl) (vl rfl) (by omega) (by rw [List.length_map];omega)) ?_
 refine Cx.C7 1 rfl rfl (Dt rfl rfl (vl rfl) (Va rfl) BR rfl (Ak fun _=>rfl) (by rw [Int.toNat_natCast,List.getElem?_map,Aa];rfl) (by decide) (HA (f:=Az) (q:=0) (m:=4) Aa rfl)) ?_
 refine Cx.nil ⟨by kernel_rfl,?_⟩
 refine BV.done ZT ?_
 refine ac ?_
 refine Ej 1 2 22 23 24 rfl ?_
 refine ac ?_
 exact Fin.AM (k+1) ⟨Ac,by omega⟩ ⟨⟨_,rfl,AK k⟩,ke rfl,ke rfl,ke rfl,ke rfl,trivial⟩
 have A4:k=(e.ids).length:=by have:=AV h1;omega
 subst A4
 refine ac ?_
 refine Tr.seq (Tr.Fv 3 1 5 rfl rfl (by decide) rfl (Cy _ _) (Ak fun _=>rfl) ?_)
 refine ao ?_
 refine TO.AY 2 rfl rfl rfl (vl rfl) (Va rfl) rfl A8 rfl rfl ?_
 refine ao ?_
 refine Tr.drop 1 (Tr.drop 2 (Tr.ret (Fin.K0 (Fin.Ub v1 [_] rfl (AW.cell 0 rfl rfl BM A8 rfl (Lr)) ?_ (List.Perm.refl _)))))
 · exact Ab ⟨Lr,Lr,Lr,Lr,Lr,Lr,Cy _ _,Lr,Lr,trivial⟩
theorem Wz {e:A5} (CJ:e.small):Jf prog 116 [agg (Ah e)] (fun x=>agg (Wo e (ints e.AJ) (Eu e.ids) (ints e.anchors) (is x))) (fun x=>[Af 3 1 (e.hashes.map fun n=>[int n]) x]):=by
 refine Jf.of func116 rfl rfl (by exact Nb rfl) fun M0 w0 S rs M1 w1=> ?_
 have hs1:=CJ.AJ
 have K1:=CJ.anchors
 have SS:=CJ.hashes
 have Uw:=CJ.I0
 refine Tr.seq (Tr.Aq ?_)
 refine TO.IJ rfl rfl (by decide) rfl (Va rfl) (fun b1=> ?_)
 refine Tl rfl rfl rfl rfl z32 Df (fun b2=> ?_)
 refine ao ?_
 refine Tr.seq (Tr.pad (Tr.pad (Tr.rx ?_)))
 refine ax ?_
 refine xo rfl (fun _=>B1 (DH (l:=e.AJ) hs1) rfl rfl) ?_
 refine ax ?_
 refine xo rfl (fun _=>B1 (DH (l:=e.anchors) K1) rfl rfl) ?_
 refine ax ?_
 refine Cx.ef 0 rfl rfl (by decide) (Ez rfl rfl (by decide) rfl (K2 (l:=e.hashes) SS) ⟨ke rfl,trivial⟩) ?_
 refine ax ?_
 refine Cx.ef 1 rfl rfl (by decide) (Ez rfl rfl (by decide) rfl (HC (l:=e.ids) Uw) ⟨ke rfl,trivial⟩) ?_
 refine xo rfl (fun _=>AD rfl Ea (vl rfl)) (Cx.C7 3 rfl rfl (An rfl rfl (vl rfl) (Vo rfl) Fl rfl (by exact Nb rfl) rfl) (xo rfl (fun _=>AD rfl IL (vl rfl)) (Cx.C7 3 rfl rfl (An rfl rfl (vl rfl) (Vo rfl) Fl rfl (by exact Nb rfl) rfl) (xo rfl (fun _=>AD rfl IM (vl rfl)) (Cx.C7 3 rfl rfl (Dd rfl rfl rfl (vl rfl) rfl Fl (by exact Nb rfl)) (xo rfl (fun _=>AD rfl EC (vl rfl)) (Cx.C7 3 rfl rfl (Kx rfl rfl rfl (vl rfl) rfl Li (fun _=>by exact Nat.le_of_ble_eq_true rfl)) ?_)))))))
 refine Cx.nil ⟨by kernel_rfl,?_⟩
 refine BV.WD 0 1 3 13 16 rfl rfl rfl (by decide) (by decide) (by decide) (by decide) rfl rfl (fun v1 v2=> ?_)
 refine BV.done ZT (Fin.go (B3 1 2 rfl ?_))
 refine ac ?_
 refine co rfl (Bc 1 rfl (E3 rfl underlying30 (Ka rfl))) ?_
 refine ac ?_
 refine Tr.block (Tr.re 23 rfl (int_eq (by rw [List.length_map])) (Tr.BF [(1,_),(2,_),(22,_),(23,_)] (VX rfl) (fun k:Nat=>[(24,int ((k:Nat):Int))]) (fun k:Nat=>k≤(e.ids).length) (fun k:Nat=>(e.ids).length-k) 0 (Nat.zero_le _) ⟨ke rfl,trivial⟩ ?_))
 rintro k BN
 refine ac ?_
 refine Tr.seq ?_
 refine Tr.cn rfl ?_ ?_<;>intro h1 q1
 have Ac:k<(e.ids).length:=AU h1
 obtain ⟨x,Aa⟩:=at_ Ac
 have hxs:=CJ.ids x (List.mem_of_getElem? Aa)
 refine ac ?_
 refine ao ?_
 refine tp rfl (Bc 1 rfl (D1 rfl underlying30 BR (Ka rfl) (vl rfl) (by omega) (by rw [List.length_map];omega))) ?_
 refine tp rfl (Bc 1 rfl (EL rfl E2 BR (vl rfl) (Ak fun _=>rfl) (by rw [Int.toNat_natCast,List.getElem?_map,Aa];rfl))) ?_
 refine Tl rfl rfl rfl rfl HP HO (fun b3=> ?_)
 refine tm rfl ?_
 refine sf 0 4 ⟨rfl,rfl,rfl⟩ rfl rfl rfl rfl ?_
 refine ao ?_
 refine Tr.rx ?_
 refine ax ?_
 refine xo rfl (fun _=>B1 (E7 hxs) rfl rfl) ?_
 refine HG 1 rfl rfl (D1 rfl underlying30 BR (Ka rfl) (vl rfl) (by omega) (by rw [List.length_map];omega)) ?_
 refine Cx.C7 1 rfl rfl (Dt rfl rfl (vl rfl) (Va rfl) BR rfl (Ak fun _=>rfl) (by rw [Int.toNat_natCast,List.getElem?_map,Aa];rfl) (by decide) (HA (f:=Az) (q:=0) (m:=4) Aa rfl)) ?_
 refine Cx.nil ⟨by kernel_rfl,?_⟩
 refine BV.done ZT ?_
 refine ac ?_
 refine Ej 1 2 22 23 24 rfl ?_
 refine ac ?_
 exact Fin.AM (k+1) ⟨Ac,by omega⟩ ⟨⟨_,rfl,AK k⟩,ke rfl,ke rfl,ke rfl,ke rfl,trivial⟩
 have A4:k=(e.ids).length:=by have:=AV h1;omega
 subst A4
 refine ac ?_
 refine Tr.seq (Tr.Fv 3 1 5 rfl rfl (by decide) rfl (Cy _ _) (Ak fun _=>rfl) ?_)
 refine ao ?_
 refine TO.AY 2 rfl rfl rfl (vl rfl) (Va rfl) rfl A8 rfl rfl ?_
 refine ao ?_
 refine Tr.drop 1 (Tr.drop 2 (Tr.ret (Fin.K0 (Fin.Ub v1 [_] rfl (AW.cell 0 rfl rfl BM A8 rfl (Lr)) ?_ (List.Perm.refl _)))))
 · exact Ab ⟨Lr,Lr,Lr,Lr,Lr,Lr,Lr,Cy _ _,Lr,trivial⟩
theorem RB {e:A5} (CJ:e.small):A_ prog 116 [agg (Ah e)] (agg (Ah e)):=by
 refine fo func116 rfl ⟨rfl,rfl⟩ fun M0 w0=> ?_
 have hs1:=CJ.AJ
 have K1:=CJ.anchors
 have SS:=CJ.hashes
 have Uw:=CJ.I0
 refine Tr.seq (Tr.Aq ?_)
 refine TO.IJ rfl rfl (by decide) rfl (Va rfl) (fun b1=> ?_)
 refine Tl rfl rfl rfl rfl z32 Df (fun b2=> ?_)
 refine ao ?_
 refine Tr.seq (Tr.pad (Tr.rx ?_))
 refine ax ?_
 refine xo rfl (fun _=>B1 (DH (l:=e.AJ) hs1) rfl rfl) ?_
 refine ax ?_
 refine xo rfl (fun _=>B1 (DH (l:=e.anchors) K1) rfl rfl) ?_
 refine ax ?_
 refine xo rfl (fun _=>B1 (DH (l:=e.hashes) SS) rfl rfl) ?_
 refine ax ?_
 refine Cx.ef 0 rfl rfl (by decide) (Ez rfl rfl (by decide) rfl (HC (l:=e.ids) Uw) ⟨ke rfl,trivial⟩) ?_
 refine xo rfl (fun _=>AD rfl Ea (vl rfl)) (Cx.C7 2 rfl rfl (An rfl rfl (vl rfl) (Vo rfl) Fl rfl (by exact Nb rfl) rfl) (xo rfl (fun _=>AD rfl IL (vl rfl)) (Cx.C7 2 rfl rfl (An rfl rfl (vl rfl) (Vo rfl) Fl rfl (by exact Nb rfl) rfl) (xo rfl (fun _=>AD rfl IM (vl rfl)) (Cx.C7 2 rfl rfl (An rfl rfl (vl rfl) (Vo rfl) Fl rfl (by exact Nb rfl) rfl) (xo rfl (fun _=>AD rfl EC (vl rfl)) (Cx.C7 2 rfl rfl (Dd rfl rfl rfl (vl rfl) rfl Li (by exact Nb rfl)) ?_)))))))
 refine Cx.nil ⟨by kernel_rfl,?_⟩
 refine BV.M5 0 2 16 rfl rfl (by decide) rfl (fun v1=> ?_)
 refine BV.done YC (Fin.go (B3 1 2 rfl ?_))
 refine ac ?_
 refine co rfl (Bc 0 rfl (E3 rfl underlying30 (Ka rfl))) ?_
 refine ac ?_
 refine Tr.block (Tr.re 23 rfl (int_eq (by rw [List.length_map])) (Tr.BF [(1,_),(2,_),(22,_),(23,_)] (VX rfl) (fun k:Nat=>[(24,int ((k:Nat):Int))]) (fun k:Nat=>k≤(e.ids).length) (fun k:Nat=>(e.ids).length-k) 0 (Nat.zero_le _) ⟨ke rfl,trivial⟩ ?_))
 rintro k BN
 refine ac ?_
 refine Tr.seq ?_
 refine Tr.cn rfl ?_ ?_<;>intro h1 q1
 have Ac:k<(e.ids).length:=AU h1
 obtain ⟨x,Aa⟩:=at_ Ac
 have hxs:=CJ.ids x (List.mem_of_getElem? Aa)
 refine ac ?_
 refine ao ?_
 refine tp rfl (Bc 0 rfl (D1 rfl underlying30 BR (Ka rfl) (vl rfl) (by omega) (by rw [List.length_map];omega))) ?_
 refine tp rfl (Bc 0 rfl (EL rfl E2 BR (vl rfl) (Ak fun _=>rfl) (by rw [Int.toNat_natCast,List.getElem?_map,Aa];rfl))) ?_
 refine Tl rfl rfl rfl rfl HP HO (fun b3=> ?_)
 refine tm rfl ?_
 refine sf 0 4 ⟨rfl,rfl,rfl⟩ rfl rfl rfl rfl ?_
 refine ao ?_
 refine Tr.rx ?_
 refine ax ?_
 refine xo rfl (fun _=>B1 (E7 hxs) rfl rfl) ?_
 refine HG 0 rfl rfl (D1 rfl underlying30 BR (Ka rfl) (vl rfl) (by omega) (by rw [List.length_map];omega)) ?_
 refine Cx.C7 0 rfl rfl (Dt rfl rfl (vl rfl) (Va rfl) BR rfl (Ak fun _=>rfl) (by rw [Int.toNat_natCast,List.getElem?_map,Aa];rfl) (by decide) (HA (f:=Az) (q:=0) (m:=4) Aa rfl)) ?_
 refine Cx.nil ⟨by kernel_rfl,?_⟩
 refine BV.done YC ?_
 refine ac ?_
 refine Ej 1 2 22 23 24 rfl ?_
 refine ac ?_
 exact Fin.AM (k+1) ⟨Ac,by omega⟩ ⟨⟨_,rfl,AK k⟩,ke rfl,ke rfl,ke rfl,ke rfl,trivial⟩
 have A4:k=(e.ids).length:=by have:=AV h1;omega
 subst A4
 refine ac ?_
 refine Tr.seq (Tr.Fv 2 0 5 rfl rfl (by decide) rfl (Cy _ _) (Ak fun _=>rfl) ?_)
 refine ao ?_
 refine TO.AY 1 rfl rfl rfl (vl rfl) (Va rfl) rfl A8 rfl rfl ?_
 refine ao ?_
 refine Tr.drop 0 (Tr.drop 1 (Tr.ret (Fin.CU rfl (AW.cell 0 rfl rfl BM A8 rfl (Lr)) ?_)))
 · exact Lr
def CD (e2:A5) (b:BA) (err:Int):A5×BA×Int:=if err≠0 then (BZ,BB,err) else if B_ e2=true then (e2,b,0) else (BZ,BB,18)
theorem RC {e e2:A5} {c b:BA} {fk:Nat} {err:Int} (hf:e.fits) (CJ:e.small) (hce:B_ e=true) (hk:1≤c.kind∧c.kind≤12) (KM:GH c=true) (hkp:Eb[c.kind.toNat]? =some (fn (.func fk) [])) (hbk:b.Bj.small) (N1:e2.fits) (hm:(err≠0∧∀(wb ob:Nat) (v:Value),At prog fk [ptr wb 0] [BP wb ob c (Br c),Bf ob e (ints e.AJ) (is v) (ints e.anchors) (ints e.hashes),Af 27 4 (e.ids.map Az) v] (int err) [])∨(err=0∧∀(wb ob:Nat) (v:Value),At prog fk [ptr wb 0] [BP wb ob c (Br c),Bf ob e (ints e.AJ) (is v) (ints e.anchors) (ints e.hashes),Af 27 4 (e.ids.map Az) v] (int 0) [BP wb ob c b,AE true ob 32 (Ah e2)])):A_ prog 74 [agg (Ah e),agg (Am c)] (Fa [agg (Ah (CD e2 b err).1),agg (Am (CD e2 b err).2.1),int (CD e2 b err).2.2]):=by
 refine fo func74 rfl ⟨rfl,rfl⟩ fun M0 w0=>(Tr.seq (Tr.Aq (tp rfl (Bl rfl (Va rfl)) (tp rfl (Bl rfl (Va rfl)) ?_))))
 refine Tl rfl rfl rfl rfl z32 Df (fun b1=> ?_)
 refine Tl rfl rfl rfl rfl z29 Fo (fun b2=> ?_)
 refine ap ?_
 refine ac ?_
 refine co rfl (B1 (Dk hf) rfl rfl) ?_
 refine an ?_ ?_<;>intro h1 q1
 exfalso;rw [if_pos hce] at h1;exact absurd h1 (by decide)
 refine ac ?_
 refine ag ?_ ?_<;>intro h2 q2
 exfalso;have:=q2;omega
 refine ag ?_ ?_<;>intro h3 q3
 exfalso;have:=q3;omega
 refine cy h3 rfl (AH rfl Be BE (vl rfl) rfl rfl) ?_
 refine cy h3 rfl (B1 (K3 (c:=c)) rfl rfl) ?_
 refine ac ?_
 refine Ej 2 3 4 5 27 rfl ?_
 refine Tr.cn rfl ?_ ?_<;>intro h4 q4
 rw [KM] at h4;exact absurd h4 (by decide)
 refine ac ?_
 refine ap ?_
 refine TO.LY rfl rfl (by decide) rfl (Wq CJ) ⟨ke rfl,trivial⟩ (fun v1=> ?_)
 refine Tl rfl rfl rfl rfl z32 Df (fun b3=> ?_)
 refine ap ?_
 refine ap ?_
 refine TO.IJ rfl rfl (by decide) rfl (Va rfl) (fun b4=> ?_)
 refine ap ?_
 refine Ej 3 4 5 7 8 rfl (Tr.seq (Tr.seq (Tr.dh 0 (ptr b3 0::NX c (Br c)) rfl ⟨Lr,Lr,Lr,Lr,Lr,Lr,Lr,Lr,Lr,Lr,Lr,Lr,Lr,Lr,Lr,Lr,AB 15,trivial⟩ ?_)))
 rcases hm with ⟨he,hm⟩|⟨he,hm⟩
 refine Tr.DN mixed 5 (by kernel_rfl) (AR.op rfl rfl (by decide) (Qv (FZ) rfl) (AR.op rfl rfl (by decide) (JC rfl GD rfl rfl) (AR.op rfl rfl (by decide) (E_ rfl CV rfl) (AR.op rfl rfl (by decide) (Dx rfl underlying161 Gu JG (vl rfl) (vl rfl) (by omega) (by omega) hkp) (AR.op rfl rfl (by decide) (BQ rfl (vl rfl)) ?_)))))
 refine AR.turn _ rfl (by decide) (DO _ rfl rfl (vl rfl) (hm _ _ _) ⟨ke rfl,trivial⟩ ((AO (j:=0) rfl).trans (List.Perm.cons _ ((AO (j:=0) rfl).trans (List.Perm.cons _ ((AO (j:=0) rfl).trans (List.Perm.cons _ (List.Perm.refl _)))))))) ?_
 refine a2 ?_
 refine HH 4 5 7 8 9 45 rfl ?_
 refine Tr.cn rfl ?_ ?_<;>intro h5 q5
 have hX:CD e2 b err=(BZ,BB,err):=if_pos he
 refine ap ?_
 refine Tr.ret (Fin.AF (Fin.E0 rfl (AW.cell 1 rfl rfl BM A8 rfl (Lr)) (AW.cell 0 rfl rfl Be BE rfl (Lr)) (AW.tmp rfl (Lr)) ?_))
 refine BW ⟨?_,?_,?_,trivial⟩
 · rw [hX];exact Ab ⟨Lr,Lr,Lr,AB 1,Lr,AB 4,AB 1,AB 1,Lr,trivial⟩
 · rw [hX];exact Ab ⟨Lr,Lr,Lr,Lr,Lr,Lr,Lr,AB 15,trivial⟩
 · exact int_eq (by rw [hX])
 exfalso;have:=q5;omega
 refine Tr.DN mixed 5 (by kernel_rfl) (AR.op rfl rfl (by decide) (Qv (FZ) rfl) (AR.op rfl rfl (by decide) (JC rfl GD rfl rfl) (AR.op rfl rfl (by decide) (E_ rfl CV rfl) (AR.op rfl rfl (by decide) (Dx rfl underlying161 Gu JG (vl rfl) (vl rfl) (by omega) (by omega) hkp) (AR.op rfl rfl (by decide) (BQ rfl (vl rfl)) ?_)))))
 refine AR.turn _ rfl (by decide) (DO _ rfl rfl (vl rfl) (hm _ _ _) ⟨ke rfl,trivial⟩ ((AO (j:=0) rfl).trans (List.Perm.cons _ ((AO (j:=0) rfl).trans (List.Perm.cons _ ((AO (j:=0) rfl).trans (List.Perm.cons _ (List.Perm.refl _)))))))) ?_
 refine a2 ?_
 refine HH 4 5 7 8 9 45 rfl ?_
 refine Tr.cn rfl ?_ ?_<;>intro h6 q6
 exact absurd h6 (by decide)
 refine a2 ?_
 refine co rfl (B1 (Dk (e:=e2) N1) rfl rfl) ?_
 refine an ?_ ?_<;>intro h7 q7
 have Hf:¬B_ e2=true:=by intro h_;rw [if_pos h_] at h7;exact absurd h7 (by decide)
 have hX:CD e2 b err=(BZ,BB,18):=(if_neg (fun h_=>h_ he)).trans (if_neg Hf)
 refine ap ?_
 refine Tr.ret (Fin.AF (Fin.E0 rfl (AW.cell 3 rfl rfl BM A8 rfl (Lr)) (AW.cell 2 rfl rfl Be BE rfl (Lr)) (AW.tmp rfl (Lr)) ?_))
 refine BW ⟨?_,?_,?_,trivial⟩
 · rw [hX];exact Ab ⟨Lr,Lr,Lr,AB 1,Lr,AB 4,AB 1,AB 1,Lr,trivial⟩
 · rw [hX];exact Ab ⟨Lr,Lr,Lr,Lr,Lr,Lr,Lr,AB 15,trivial⟩
 · exact int_eq (by rw [hX])
 have Hf:B_ e2=true:=Decidable.byContradiction fun h_=>by rw [if_neg h_] at h7;exact absurd h7 (by decide)
 have hX:CD e2 b err=(e2,b,0):=(if_neg (fun h_=>h_ he)).trans (if_pos Hf)
 refine ac ?_
 refine Tr.seq (Tr.rx ?_)
 refine ay ?_
 refine xo rfl (fun _=>B1 (KL (c:=b) hbk) rfl rfl) ?_
 refine ay ?_
 refine Cx.nil ⟨by kernel_rfl,?_⟩
 refine BV.done I8 (Fin.go (Cg 4 5 6 rfl (Tr.ret (Fin.E0 rfl (AW.cell 3 rfl rfl BM A8 rfl (Lr)) (AW.cell 2 rfl rfl Be BE rfl (Lr)) (AW.tmp rfl (Lr)) ?_))))
 refine BW ⟨?_,?_,?_,trivial⟩
 · rw [hX];exact Lr
 · rw [hX];exact Lr
 · exact int_eq (by rw [hX])
theorem RD {e e2:A5} {c b:BA} {fk:Nat} {err:Int} (hf:e.fits) (CJ:e.small) (hce:B_ e=true) (hk:1≤c.kind∧c.kind≤12) (KM:GH c=true) (hkp:Eb[c.kind.toNat]? =some (fn (.func fk) [])) (hbk:b.Bj.small) (N1:e2.fits) (hm:(err≠0∧∀(wb ob:Nat) (v:Value),At prog fk [ptr wb 0] [BP wb ob c (Br c),Bf ob e (is v) (Eu e.ids) (ints e.anchors) (ints e.hashes),Af 3 1 (e.AJ.map fun n=>[int n]) v] (int err) [])∨(err=0∧∀(wb ob:Nat) (v:Value),At prog fk [ptr wb 0] [BP wb ob c (Br c),Bf ob e (is v) (Eu e.ids) (ints e.anchors) (ints e.hashes),Af 3 1 (e.AJ.map fun n=>[int n]) v] (int 0) [BP wb ob c b,AE true ob 32 (Ah e2)])):A_ prog 74 [agg (Ah e),agg (Am c)] (Fa [agg (Ah (CD e2 b err).1),agg (Am (CD e2 b err).2.1),int (CD e2 b err).2.2]):=by
 refine fo func74 rfl ⟨rfl,rfl⟩ fun M0 w0=>(Tr.seq (Tr.Aq (tp rfl (Bl rfl (Va rfl)) (tp rfl (Bl rfl (Va rfl)) ?_))))
 refine Tl rfl rfl rfl rfl z32 Df (fun b1=> ?_)
 refine Tl rfl rfl rfl rfl z29 Fo (fun b2=> ?_)
 refine ap ?_
 refine ac ?_
 refine co rfl (B1 (Dk hf) rfl rfl) ?_
 refine an ?_ ?_<;>intro h1 q1
 exfalso;rw [if_pos hce] at h1;exact absurd h1 (by decide)
 refine ac ?_
 refine ag ?_ ?_<;>intro h2 q2
 exfalso;have:=q2;omega
 refine ag ?_ ?_<;>intro h3 q3
 exfalso;have:=q3;omega
 refine cy h3 rfl (AH rfl Be BE (vl rfl) rfl rfl) ?_
 refine cy h3 rfl (B1 (K3 (c:=c)) rfl rfl) ?_
 refine ac ?_
 refine Ej 2 3 4 5 27 rfl ?_
 refine Tr.cn rfl ?_ ?_<;>intro h4 q4
 rw [KM] at h4;exact absurd h4 (by decide)
 refine ac ?_
 refine ap ?_
 refine TO.LY rfl rfl (by decide) rfl (Wr CJ) ⟨ke rfl,trivial⟩ (fun v1=> ?_)
 refine Tl rfl rfl rfl rfl z32 Df (fun b3=> ?_)
 refine ap ?_
 refine ap ?_
 refine TO.IJ rfl rfl (by decide) rfl (Va rfl) (fun b4=> ?_)
 refine ap ?_
 refine Ej 3 4 5 7 8 rfl (Tr.seq (Tr.seq (Tr.dh 0 (ptr b3 0::NX c (Br c)) rfl ⟨Lr,Lr,Lr,Lr,Lr,Lr,Lr,Lr,Lr,Lr,Lr,Lr,Lr,Lr,Lr,Lr,AB 15,trivial⟩ ?_)))
 rcases hm with ⟨he,hm⟩|⟨he,hm⟩
 refine Tr.DN mixed 5 (by kernel_rfl) (AR.op rfl rfl (by decide) (Qv (FZ) rfl) (AR.op rfl rfl (by decide) (JC rfl GD rfl rfl) (AR.op rfl rfl (by decide) (E_ rfl CV rfl) (AR.op rfl rfl (by decide) (Dx rfl underlying161 Gu JG (vl rfl) (vl rfl) (by omega) (by omega) hkp) (AR.op rfl rfl (by decide) (BQ rfl (vl rfl)) ?_)))))
 refine AR.turn _ rfl (by decide) (DO _ rfl rfl (vl rfl) (hm _ _ _) ⟨ke rfl,trivial⟩ ((AO (j:=0) rfl).trans (List.Perm.cons _ ((AO (j:=0) rfl).trans (List.Perm.cons _ ((AO (j:=0) rfl).trans (List.Perm.cons _ (List.Perm.refl _)))))))) ?_
 refine a2 ?_
 refine HH 4 5 7 8 9 45 rfl ?_
 refine Tr.cn rfl ?_ ?_<;>intro h5 q5
 have hX:CD e2 b err=(BZ,BB,err):=if_pos he
 refine ap ?_
 refine Tr.ret (Fin.AF (Fin.E0 rfl (AW.cell 1 rfl rfl BM A8 rfl (Lr)) (AW.cell 0 rfl rfl Be BE rfl (Lr)) (AW.tmp rfl (Lr)) ?_))
 refine BW ⟨?_,?_,?_,trivial⟩
 · rw [hX];exact Ab ⟨Lr,Lr,Lr,AB 1,Lr,AB 4,AB 1,AB 1,Lr,trivial⟩
 · rw [hX];exact Ab ⟨Lr,Lr,Lr,Lr,Lr,Lr,Lr,AB 15,trivial⟩
 · exact int_eq (by rw [hX])
 exfalso;have:=q5;omega
 refine Tr.DN mixed 5 (by kernel_rfl) (AR.op rfl rfl (by decide) (Qv (FZ) rfl) (AR.op rfl rfl (by decide) (JC rfl GD rfl rfl) (AR.op rfl rfl (by decide) (E_ rfl CV rfl) (AR.op rfl rfl (by decide) (Dx rfl underlying161 Gu JG (vl rfl) (vl rfl) (by omega) (by omega) hkp) (AR.op rfl rfl (by decide) (BQ rfl (vl rfl)) ?_)))))
 refine AR.turn _ rfl (by decide) (DO _ rfl rfl (vl rfl) (hm _ _ _) ⟨ke rfl,trivial⟩ ((AO (j:=0) rfl).trans (List.Perm.cons _ ((AO (j:=0) rfl).trans (List.Perm.cons _ ((AO (j:=0) rfl).trans (List.Perm.cons _ (List.Perm.refl _)))))))) ?_
 refine a2 ?_
 refine HH 4 5 7 8 9 45 rfl ?_
 refine Tr.cn rfl ?_ ?_<;>intro h6 q6
 exact absurd h6 (by decide)
 refine a2 ?_
 refine co rfl (B1 (Dk (e:=e2) N1) rfl rfl) ?_
 refine an ?_ ?_<;>intro h7 q7
 have Hf:¬B_ e2=true:=by intro h_;rw [if_pos h_] at h7;exact absurd h7 (by decide)
 have hX:CD e2 b err=(BZ,BB,18):=(if_neg (fun h_=>h_ he)).trans (if_neg Hf)
 refine ap ?_
 refine Tr.ret (Fin.AF (Fin.E0 rfl (AW.cell 3 rfl rfl BM A8 rfl (Lr)) (AW.cell 2 rfl rfl Be BE rfl (Lr)) (AW.tmp rfl (Lr)) ?_))
 refine BW ⟨?_,?_,?_,trivial⟩
 · rw [hX];exact Ab ⟨Lr,Lr,Lr,AB 1,Lr,AB 4,AB 1,AB 1,Lr,trivial⟩
 · rw [hX];exact Ab ⟨Lr,Lr,Lr,Lr,Lr,Lr,Lr,AB 15,trivial⟩
 · exact int_eq (by rw [hX])
 have Hf:B_ e2=true:=Decidable.byContradiction fun h_=>by rw [if_neg h_] at h7;exact absurd h7 (by decide)
 have hX:CD e2 b err=(e2,b,0):=(if_neg (fun h_=>h_ he)).trans (if_pos Hf)
 refine ac ?_
 refine Tr.seq (Tr.rx ?_)
 refine ay ?_
 refine xo rfl (fun _=>B1 (KL (c:=b) hbk) rfl rfl) ?_
 refine ay ?_
 refine Cx.nil ⟨by kernel_rfl,?_⟩
 refine BV.done I8 (Fin.go (Cg 4 5 6 rfl (Tr.ret (Fin.E0 rfl (AW.cell 3 rfl rfl BM A8 rfl (Lr)) (AW.cell 2 rfl rfl Be BE rfl (Lr)) (AW.tmp rfl (Lr)) ?_))))
 refine BW ⟨?_,?_,?_,trivial⟩
 · rw [hX];exact Lr
 · rw [hX];exact Lr
 · exact int_eq (by rw [hX])
theorem RE {e e2:A5} {c b:BA} {fk:Nat} {err:Int} (hf:e.fits) (CJ:e.small) (hce:B_ e=true) (hk:1≤c.kind∧c.kind≤12) (KM:GH c=true) (hkp:Eb[c.kind.toNat]? =some (fn (.func fk) [])) (hbk:b.Bj.small) (N1:e2.fits) (hm:(err≠0∧∀(wb ob:Nat) (v:Value),At prog fk [ptr wb 0] [BP wb ob c (Br c),Bf ob e (ints e.AJ) (Eu e.ids) (is v) (ints e.hashes),Af 3 1 (e.anchors.map fun n=>[int n]) v] (int err) [])∨(err=0∧∀(wb ob:Nat) (v:Value),At prog fk [ptr wb 0] [BP wb ob c (Br c),Bf ob e (ints e.AJ) (Eu e.ids) (is v) (ints e.hashes),Af 3 1 (e.anchors.map fun n=>[int n]) v] (int 0) [BP wb ob c b,AE true ob 32 (Ah e2)])):A_ prog 74 [agg (Ah e),agg (Am c)] (Fa [agg (Ah (CD e2 b err).1),agg (Am (CD e2 b err).2.1),int (CD e2 b err).2.2]):=by
 refine fo func74 rfl ⟨rfl,rfl⟩ fun M0 w0=>(Tr.seq (Tr.Aq (tp rfl (Bl rfl (Va rfl)) (tp rfl (Bl rfl (Va rfl)) ?_))))
 refine Tl rfl rfl rfl rfl z32 Df (fun b1=> ?_)
 refine Tl rfl rfl rfl rfl z29 Fo (fun b2=> ?_)
 refine ap ?_
 refine ac ?_
 refine co rfl (B1 (Dk hf) rfl rfl) ?_
 refine an ?_ ?_<;>intro h1 q1
 exfalso;rw [if_pos hce] at h1;exact absurd h1 (by decide)
 refine ac ?_
 refine ag ?_ ?_<;>intro h2 q2
 exfalso;have:=q2;omega
 refine ag ?_ ?_<;>intro h3 q3
 exfalso;have:=q3;omega
 refine cy h3 rfl (AH rfl Be BE (vl rfl) rfl rfl) ?_
 refine cy h3 rfl (B1 (K3 (c:=c)) rfl rfl) ?_
 refine ac ?_
 refine Ej 2 3 4 5 27 rfl ?_
 refine Tr.cn rfl ?_ ?_<;>intro h4 q4
 rw [KM] at h4;exact absurd h4 (by decide)
 refine ac ?_
 refine ap ?_
 refine TO.LY rfl rfl (by decide) rfl (Wy CJ) ⟨ke rfl,trivial⟩ (fun v1=> ?_)
 refine Tl rfl rfl rfl rfl z32 Df (fun b3=> ?_)
 refine ap ?_
 refine ap ?_
 refine TO.IJ rfl rfl (by decide) rfl (Va rfl) (fun b4=> ?_)
 refine ap ?_
 refine Ej 3 4 5 7 8 rfl (Tr.seq (Tr.seq (Tr.dh 0 (ptr b3 0::NX c (Br c)) rfl ⟨Lr,Lr,Lr,Lr,Lr,Lr,Lr,Lr,Lr,Lr,Lr,Lr,Lr,Lr,Lr,Lr,AB 15,trivial⟩ ?_)))
 rcases hm with ⟨he,hm⟩|⟨he,hm⟩
 refine Tr.DN mixed 5 (by kernel_rfl) (AR.op rfl rfl (by decide) (Qv (FZ) rfl) (AR.op rfl rfl (by decide) (JC rfl GD rfl rfl) (AR.op rfl rfl (by decide) (E_ rfl CV rfl) (AR.op rfl rfl (by decide) (Dx rfl underlying161 Gu JG (vl rfl) (vl rfl) (by omega) (by omega) hkp) (AR.op rfl rfl (by decide) (BQ rfl (vl rfl)) ?_)))))
 refine AR.turn _ rfl (by decide) (DO _ rfl rfl (vl rfl) (hm _ _ _) ⟨ke rfl,trivial⟩ ((AO (j:=0) rfl).trans (List.Perm.cons _ ((AO (j:=0) rfl).trans (List.Perm.cons _ ((AO (j:=0) rfl).trans (List.Perm.cons _ (List.Perm.refl _)))))))) ?_
 refine a2 ?_
 refine HH 4 5 7 8 9 45 rfl ?_
 refine Tr.cn rfl ?_ ?_<;>intro h5 q5
 have hX:CD e2 b err=(BZ,BB,err):=if_pos he
 refine ap ?_
 refine Tr.ret (Fin.AF (Fin.E0 rfl (AW.cell 1 rfl rfl BM A8 rfl (Lr)) (AW.cell 0 rfl rfl Be BE rfl (Lr)) (AW.tmp rfl (Lr)) ?_))
 refine BW ⟨?_,?_,?_,trivial⟩
 · rw [hX];exact Ab ⟨Lr,Lr,Lr,AB 1,Lr,AB 4,AB 1,AB 1,Lr,trivial⟩
 · rw [hX];exact Ab ⟨Lr,Lr,Lr,Lr,Lr,Lr,Lr,AB 15,trivial⟩
 · exact int_eq (by rw [hX])
 exfalso;have:=q5;omega
 refine Tr.DN mixed 5 (by kernel_rfl) (AR.op rfl rfl (by decide) (Qv (FZ) rfl) (AR.op rfl rfl (by decide) (JC rfl GD rfl rfl) (AR.op rfl rfl (by decide) (E_ rfl CV rfl) (AR.op rfl rfl (by decide) (Dx rfl underlying161 Gu JG (vl rfl) (vl rfl) (by omega) (by omega) hkp) (AR.op rfl rfl (by decide) (BQ rfl (vl rfl)) ?_)))))
 refine AR.turn _ rfl (by decide) (DO _ rfl rfl (vl rfl) (hm _ _ _) ⟨ke rfl,trivial⟩ ((AO (j:=0) rfl).trans (List.Perm.cons _ ((AO (j:=0) rfl).trans (List.Perm.cons _ ((AO (j:=0) rfl).trans (List.Perm.cons _ (List.Perm.refl _)))))))) ?_
 refine a2 ?_
 refine HH 4 5 7 8 9 45 rfl ?_
 refine Tr.cn rfl ?_ ?_<;>intro h6 q6
 exact absurd h6 (by decide)
 refine a2 ?_
 refine co rfl (B1 (Dk (e:=e2) N1) rfl rfl) ?_
 refine an ?_ ?_<;>intro h7 q7
 have Hf:¬B_ e2=true:=by intro h_;rw [if_pos h_] at h7;exact absurd h7 (by decide)
 have hX:CD e2 b err=(BZ,BB,18):=(if_neg (fun h_=>h_ he)).trans (if_neg Hf)
 refine ap ?_
 refine Tr.ret (Fin.AF (Fin.E0 rfl (AW.cell 3 rfl rfl BM A8 rfl (Lr)) (AW.cell 2 rfl rfl Be BE rfl (Lr)) (AW.tmp rfl (Lr)) ?_))
 refine BW ⟨?_,?_,?_,trivial⟩
 · rw [hX];exact Ab ⟨Lr,Lr,Lr,AB 1,Lr,AB 4,AB 1,AB 1,Lr,trivial⟩
 · rw [hX];exact Ab ⟨Lr,Lr,Lr,Lr,Lr,Lr,Lr,AB 15,trivial⟩
 · exact int_eq (by rw [hX])
 have Hf:B_ e2=true:=Decidable.byContradiction fun h_=>by rw [if_neg h_] at h7;exact absurd h7 (by decide)
 have hX:CD e2 b err=(e2,b,0):=(if_neg (fun h_=>h_ he)).trans (if_pos Hf)
 refine ac ?_
 refine Tr.seq (Tr.rx ?_)
 refine ay ?_
 refine xo rfl (fun _=>B1 (KL (c:=b) hbk) rfl rfl) ?_
 refine ay ?_
 refine Cx.nil ⟨by kernel_rfl,?_⟩
 refine BV.done I8 (Fin.go (Cg 4 5 6 rfl (Tr.ret (Fin.E0 rfl (AW.cell 3 rfl rfl BM A8 rfl (Lr)) (AW.cell 2 rfl rfl Be BE rfl (Lr)) (AW.tmp rfl (Lr)) ?_))))
 refine BW ⟨?_,?_,?_,trivial⟩
 · rw [hX];exact Lr
 · rw [hX];exact Lr
 · exact int_eq (by rw [hX])
theorem RF {e e2:A5} {c b:BA} {fk:Nat} {err:Int} (hf:e.fits) (CJ:e.small) (hce:B_ e=true) (hk:1≤c.kind∧c.kind≤12) (KM:GH c=true) (hkp:Eb[c.kind.toNat]? =some (fn (.func fk) [])) (hbk:b.Bj.small) (N1:e2.fits) (hm:(err≠0∧∀(wb ob:Nat) (v:Value),At prog fk [ptr wb 0] [BP wb ob c (Br c),Bf ob e (ints e.AJ) (Eu e.ids) (ints e.anchors) (is v),Af 3 1 (e.hashes.map fun n=>[int n]) v] (int err) [])∨(err=0∧∀(wb ob:Nat) (v:Value),At prog fk [ptr wb 0] [BP wb ob c (Br c),Bf ob e (ints e.AJ) (Eu e.ids) (ints e.anchors) (is v),Af 3 1 (e.hashes.map fun n=>[int n]) v] (int 0) [BP wb ob c b,AE true ob 32 (Ah e2)])):A_ prog 74 [agg (Ah e),agg (Am c)] (Fa [agg (Ah (CD e2 b err).1),agg (Am (CD e2 b err).2.1),int (CD e2 b err).2.2]):=by
 refine fo func74 rfl ⟨rfl,rfl⟩ fun M0 w0=>(Tr.seq (Tr.Aq (tp rfl (Bl rfl (Va rfl)) (tp rfl (Bl rfl (Va rfl)) ?_))))
 refine Tl rfl rfl rfl rfl z32 Df (fun b1=> ?_)
 refine Tl rfl rfl rfl rfl z29 Fo (fun b2=> ?_)
 refine ap ?_
 refine ac ?_
 refine co rfl (B1 (Dk hf) rfl rfl) ?_
 refine an ?_ ?_<;>intro h1 q1
 exfalso;rw [if_pos hce] at h1;exact absurd h1 (by decide)
 refine ac ?_
 refine ag ?_ ?_<;>intro h2 q2
 exfalso;have:=q2;omega
 refine ag ?_ ?_<;>intro h3 q3
 exfalso;have:=q3;omega
 refine cy h3 rfl (AH rfl Be BE (vl rfl) rfl rfl) ?_
 refine cy h3 rfl (B1 (K3 (c:=c)) rfl rfl) ?_
 refine ac ?_
 refine Ej 2 3 4 5 27 rfl ?_
 refine Tr.cn rfl ?_ ?_<;>intro h4 q4
 rw [KM] at h4;exact absurd h4 (by decide)
 refine ac ?_
 refine ap ?_
 refine TO.LY rfl rfl (by decide) rfl (Wz CJ) ⟨ke rfl,trivial⟩ (fun v1=> ?_)
 refine Tl rfl rfl rfl rfl z32 Df (fun b3=> ?_)
 refine ap ?_
 refine ap ?_
 refine TO.IJ rfl rfl (by decide) rfl (Va rfl) (fun b4=> ?_)
 refine ap ?_
 refine Ej 3 4 5 7 8 rfl (Tr.seq (Tr.seq (Tr.dh 0 (ptr b3 0::NX c (Br c)) rfl ⟨Lr,Lr,Lr,Lr,Lr,Lr,Lr,Lr,Lr,Lr,Lr,Lr,Lr,Lr,Lr,Lr,AB 15,trivial⟩ ?_)))
 rcases hm with ⟨he,hm⟩|⟨he,hm⟩
 refine Tr.DN mixed 5 (by kernel_rfl) (AR.op rfl rfl (by decide) (Qv (FZ) rfl) (AR.op rfl rfl (by decide) (JC rfl GD rfl rfl) (AR.op rfl rfl (by decide) (E_ rfl CV rfl) (AR.op rfl rfl (by decide) (Dx rfl underlying161 Gu JG (vl rfl) (vl rfl) (by omega) (by omega) hkp) (AR.op rfl rfl (by decide) (BQ rfl (vl rfl)) ?_)))))
 refine AR.turn _ rfl (by decide) (DO _ rfl rfl (vl rfl) (hm _ _ _) ⟨ke rfl,trivial⟩ ((AO (j:=0) rfl).trans (List.Perm.cons _ ((AO (j:=0) rfl).trans (List.Perm.cons _ ((AO (j:=0) rfl).trans (List.Perm.cons _ (List.Perm.refl _)))))))) ?_
 refine a2 ?_
 refine HH 4 5 7 8 9 45 rfl ?_
 refine Tr.cn rfl ?_ ?_<;>intro h5 q5
 have hX:CD e2 b err=(BZ,BB,err):=if_pos he
 refine ap ?_
 refine Tr.ret (Fin.AF (Fin.E0 rfl (AW.cell 1 rfl rfl BM A8 rfl (Lr)) (AW.cell 0 rfl rfl Be BE rfl (Lr)) (AW.tmp rfl (Lr)) ?_))
 refine BW ⟨?_,?_,?_,trivial⟩
 · rw [hX];exact Ab ⟨Lr,Lr,Lr,AB 1,Lr,AB 4,AB 1,AB 1,Lr,trivial⟩
 · rw [hX];exact Ab ⟨Lr,Lr,Lr,Lr,Lr,Lr,Lr,AB 15,trivial⟩
 · exact int_eq (by rw [hX])
 exfalso;have:=q5;omega
 refine Tr.DN mixed 5 (by kernel_rfl) (AR.op rfl rfl (by decide) (Qv (FZ) rfl) (AR.op rfl rfl (by decide) (JC rfl GD rfl rfl) (AR.op rfl rfl (by decide) (E_ rfl CV rfl) (AR.op rfl rfl (by decide) (Dx rfl underlying161 Gu JG (vl rfl) (vl rfl) (by omega) (by omega) hkp) (AR.op rfl rfl (by decide) (BQ rfl (vl rfl)) ?_)))))
 refine AR.turn _ rfl (by decide) (DO _ rfl rfl (vl rfl) (hm _ _ _) ⟨ke rfl,trivial⟩ ((AO (j:=0) rfl).trans (List.Perm.cons _ ((AO (j:=0) rfl).trans (List.Perm.cons _ ((AO (j:=0) rfl).trans (List.Perm.cons _ (List.Perm.refl _)))))))) ?_
 refine a2 ?_
 refine HH 4 5 7 8 9 45 rfl ?_
 refine Tr.cn rfl ?_ ?_<;>intro h6 q6
 exact absurd h6 (by decide)
 refine a2 ?_
 refine co rfl (B1 (Dk (e:=e2) N1) rfl rfl) ?_
 refine an ?_ ?_<;>intro h7 q7
 have Hf:¬B_ e2=true:=by intro h_;rw [if_pos h_] at h7;exact absurd h7 (by decide)
 have hX:CD e2 b err=(BZ,BB,18):=(if_neg (fun h_=>h_ he)).trans (if_neg Hf)
 refine ap ?_
 refine Tr.ret (Fin.AF (Fin.E0 rfl (AW.cell 3 rfl rfl BM A8 rfl (Lr)) (AW.cell 2 rfl rfl Be BE rfl (Lr)) (AW.tmp rfl (Lr)) ?_))
 refine BW ⟨?_,?_,?_,trivial⟩
 · rw [hX];exact Ab ⟨Lr,Lr,Lr,AB 1,Lr,AB 4,AB 1,AB 1,Lr,trivial⟩
 · rw [hX];exact Ab ⟨Lr,Lr,Lr,Lr,Lr,Lr,Lr,AB 15,trivial⟩
 · exact int_eq (by rw [hX])
 have Hf:B_ e2=true:=Decidable.byContradiction fun h_=>by rw [if_neg h_] at h7;exact absurd h7 (by decide)
 have hX:CD e2 b err=(e2,b,0):=(if_neg (fun h_=>h_ he)).trans (if_pos Hf)
 refine ac ?_
 refine Tr.seq (Tr.rx ?_)
 refine ay ?_
 refine xo rfl (fun _=>B1 (KL (c:=b) hbk) rfl rfl) ?_
 refine ay ?_
 refine Cx.nil ⟨by kernel_rfl,?_⟩
 refine BV.done I8 (Fin.go (Cg 4 5 6 rfl (Tr.ret (Fin.E0 rfl (AW.cell 3 rfl rfl BM A8 rfl (Lr)) (AW.cell 2 rfl rfl Be BE rfl (Lr)) (AW.tmp rfl (Lr)) ?_))))
 refine BW ⟨?_,?_,?_,trivial⟩
 · rw [hX];exact Lr
 · rw [hX];exact Lr
 · exact int_eq (by rw [hX])
theorem RG {e e2:A5} {c b:BA} {fk:Nat} {err:Int} (hf:e.fits) (CJ:e.small) (hce:B_ e=true) (hk:1≤c.kind∧c.kind≤12) (KM:GH c=true) (hkp:Eb[c.kind.toNat]? =some (fn (.func fk) [])) (hbk:b.Bj.small) (N1:e2.fits) (hm:(err≠0∧∀(wb ob:Nat),At prog fk [ptr wb 0] [BP wb ob c (Br c),Bf ob e (ints e.AJ) (Eu e.ids) (ints e.anchors) (ints e.hashes)] (int err) [])∨(err=0∧∀(wb ob:Nat),At prog fk [ptr wb 0] [BP wb ob c (Br c),Bf ob e (ints e.AJ) (Eu e.ids) (ints e.anchors) (ints e.hashes)] (int 0) [BP wb ob c b,AE true ob 32 (Ah e2)])):A_ prog 74 [agg (Ah e),agg (Am c)] (Fa [agg (Ah (CD e2 b err).1),agg (Am (CD e2 b err).2.1),int (CD e2 b err).2.2]):=by
 refine fo func74 rfl ⟨rfl,rfl⟩ fun M0 w0=>(Tr.seq (Tr.Aq (tp rfl (Bl rfl (Va rfl)) (tp rfl (Bl rfl (Va rfl)) ?_))))
 refine Tl rfl rfl rfl rfl z32 Df (fun b1=> ?_)
 refine Tl rfl rfl rfl rfl z29 Fo (fun b2=> ?_)
 refine ap ?_
 refine ac ?_
 refine co rfl (B1 (Dk hf) rfl rfl) ?_
 refine an ?_ ?_<;>intro h1 q1
 exfalso;rw [if_pos hce] at h1;exact absurd h1 (by decide)
 refine ac ?_
 refine ag ?_ ?_<;>intro h2 q2
 exfalso;have:=q2;omega
 refine ag ?_ ?_<;>intro h3 q3
 exfalso;have:=q3;omega
 refine cy h3 rfl (AH rfl Be BE (vl rfl) rfl rfl) ?_
 refine cy h3 rfl (B1 (K3 (c:=c)) rfl rfl) ?_
 refine ac ?_
 refine Ej 2 3 4 5 27 rfl ?_
 refine Tr.cn rfl ?_ ?_<;>intro h4 q4
 rw [KM] at h4;exact absurd h4 (by decide)
 refine ac ?_
 refine ap ?_
 refine tp rfl (B1 (RB CJ) rfl rfl) ?_
 refine Tl rfl rfl rfl rfl z32 Df (fun b3=> ?_)
 refine ap ?_
 refine ap ?_
 refine TO.IJ rfl rfl (by decide) rfl (Va rfl) (fun b4=> ?_)
 refine ap ?_
 refine Ej 3 4 5 7 8 rfl (Tr.seq (Tr.seq (Tr.dh 0 (ptr b3 0::NX c (Br c)) rfl ⟨Lr,Lr,Lr,Lr,Lr,Lr,Lr,Lr,Lr,Lr,Lr,Lr,Lr,Lr,Lr,Lr,AB 15,trivial⟩ ?_)))
 rcases hm with ⟨he,hm⟩|⟨he,hm⟩
 refine Tr.DN mixed 5 (by kernel_rfl) (AR.op rfl rfl (by decide) (Qv (FZ) rfl) (AR.op rfl rfl (by decide) (JC rfl GD rfl rfl) (AR.op rfl rfl (by decide) (E_ rfl CV rfl) (AR.op rfl rfl (by decide) (Dx rfl underlying161 Gu JG (vl rfl) (vl rfl) (by omega) (by omega) hkp) (AR.op rfl rfl (by decide) (BQ rfl (vl rfl)) ?_)))))
 refine AR.turn _ rfl (by decide) (DO _ rfl rfl (vl rfl) (hm _ _) ⟨ke rfl,trivial⟩ ((AO (j:=0) rfl).trans (List.Perm.cons _ ((AO (j:=0) rfl).trans (List.Perm.cons _ (List.Perm.refl _)))))) ?_
 refine a2 ?_
 refine HH 4 5 7 8 9 45 rfl ?_
 refine Tr.cn rfl ?_ ?_<;>intro h5 q5
 have hX:CD e2 b err=(BZ,BB,err):=if_pos he
 refine ap ?_
 refine Tr.ret (Fin.AF (Fin.E0 rfl (AW.cell 1 rfl rfl BM A8 rfl (Lr)) (AW.cell 0 rfl rfl Be BE rfl (Lr)) (AW.tmp rfl (Lr)) ?_))
 refine BW ⟨?_,?_,?_,trivial⟩
 · rw [hX];exact Ab ⟨Lr,Lr,Lr,AB 1,Lr,AB 4,AB 1,AB 1,Lr,trivial⟩
 · rw [hX];exact Ab ⟨Lr,Lr,Lr,Lr,Lr,Lr,Lr,AB 15,trivial⟩
 · exact int_eq (by rw [hX])
 exfalso;have:=q5;omega
 refine Tr.DN mixed 5 (by kernel_rfl) (AR.op rfl rfl (by decide) (Qv (FZ) rfl) (AR.op rfl rfl (by decide) (JC rfl GD rfl rfl) (AR.op rfl rfl (by decide) (E_ rfl CV rfl) (AR.op rfl rfl (by decide) (Dx rfl underlying161 Gu JG (vl rfl) (vl rfl) (by omega) (by omega) hkp) (AR.op rfl rfl (by decide) (BQ rfl (vl rfl)) ?_)))))
 refine AR.turn _ rfl (by decide) (DO _ rfl rfl (vl rfl) (hm _ _) ⟨ke rfl,trivial⟩ ((AO (j:=0) rfl).trans (List.Perm.cons _ ((AO (j:=0) rfl).trans (List.Perm.cons _ (List.Perm.refl _)))))) ?_
 refine a2 ?_
 refine HH 4 5 7 8 9 45 rfl ?_
 refine Tr.cn rfl ?_ ?_<;>intro h6 q6
 exact absurd h6 (by decide)
 refine a2 ?_
 refine co rfl (B1 (Dk (e:=e2) N1) rfl rfl) ?_
 refine an ?_ ?_<;>intro h7 q7
 have Hf:¬B_ e2=true:=by intro h_;rw [if_pos h_] at h7;exact absurd h7 (by decide)
 have hX:CD e2 b err=(BZ,BB,18):=(if_neg (fun h_=>h_ he)).trans (if_neg Hf)
 refine ap ?_
 refine Tr.ret (Fin.AF (Fin.E0 rfl (AW.cell 3 rfl rfl BM A8 rfl (Lr)) (AW.cell 2 rfl rfl Be BE rfl (Lr)) (AW.tmp rfl (Lr)) ?_))
 refine BW ⟨?_,?_,?_,trivial⟩
 · rw [hX];exact Ab ⟨Lr,Lr,Lr,AB 1,Lr,AB 4,AB 1,AB 1,Lr,trivial⟩
 · rw [hX];exact Ab ⟨Lr,Lr,Lr,Lr,Lr,Lr,Lr,AB 15,trivial⟩
 · exact int_eq (by rw [hX])
 have Hf:B_ e2=true:=Decidable.byContradiction fun h_=>by rw [if_neg h_] at h7;exact absurd h7 (by decide)
 have hX:CD e2 b err=(e2,b,0):=(if_neg (fun h_=>h_ he)).trans (if_pos Hf)
 refine ac ?_
 refine Tr.seq (Tr.rx ?_)
 refine ay ?_
 refine xo rfl (fun _=>B1 (KL (c:=b) hbk) rfl rfl) ?_
 refine ay ?_
 refine Cx.nil ⟨by kernel_rfl,?_⟩
 refine BV.done I8 (Fin.go (Cg 4 5 6 rfl (Tr.ret (Fin.E0 rfl (AW.cell 3 rfl rfl BM A8 rfl (Lr)) (AW.cell 2 rfl rfl Be BE rfl (Lr)) (AW.tmp rfl (Lr)) ?_))))
 refine BW ⟨?_,?_,?_,trivial⟩
 · rw [hX];exact Lr
 · rw [hX];exact Lr
 · exact int_eq (by rw [hX])
theorem Z1 {e:A5} {c:BA} (hf:e.fits) (hce:B_ e=false):A_ prog 74 [agg (Ah e),agg (Am c)] (Fa [agg (Ah BZ),agg (Am BB),int 19]):=by
 refine fo func74 rfl ⟨rfl,rfl⟩ fun M0 w0=>(Tr.seq (Tr.Aq (tp rfl (Bl rfl (Va rfl)) (tp rfl (Bl rfl (Va rfl)) ?_))))
 refine Tl rfl rfl rfl rfl z32 Df (fun b1=> ?_)
 refine Tl rfl rfl rfl rfl z29 Fo (fun b2=> ?_)
 refine ap ?_
 refine ac ?_
 refine co rfl (B1 (Dk hf) rfl rfl) ?_
 refine an ?_ ?_<;>intro h1 q1
 refine ap ?_
 refine Tr.ret (Fin.AF (Fin.E0 rfl (AW.cell 1 rfl rfl BM A8 rfl (Lr)) (AW.cell 0 rfl rfl Be BE rfl (Lr)) (AW.tmp rfl (Lr)) ?_))
 refine BW ⟨?_,?_,?_,trivial⟩
 · exact Ab ⟨Lr,Lr,Lr,AB 1,Lr,AB 4,AB 1,AB 1,Lr,trivial⟩
 · exact Ab ⟨Lr,Lr,Lr,Lr,Lr,Lr,Lr,AB 15,trivial⟩
 · exact Lr
 exfalso;rw [if_neg (by rw [hce];decide)] at h1;exact absurd h1 (by decide)
theorem Z2 {e:A5} {c:BA} (hf:e.fits) (hce:B_ e=true) (hk:¬((1≤c.kind∧c.kind≤12)∧GH c=true)):A_ prog 74 [agg (Ah e),agg (Am c)] (Fa [agg (Ah BZ),agg (Am BB),int 40]):=by
 refine fo func74 rfl ⟨rfl,rfl⟩ fun M0 w0=>(Tr.seq (Tr.Aq (tp rfl (Bl rfl (Va rfl)) (tp rfl (Bl rfl (Va rfl)) ?_))))
 refine Tl rfl rfl rfl rfl z32 Df (fun b1=> ?_)
 refine Tl rfl rfl rfl rfl z29 Fo (fun b2=> ?_)
 refine ap ?_
 refine ac ?_
 refine co rfl (B1 (Dk hf) rfl rfl) ?_
 refine an ?_ ?_<;>intro h1 q1
 exfalso;rw [if_pos hce] at h1;exact absurd h1 (by decide)
 refine ac ?_
 refine ag ?_ ?_<;>intro h2 q2
 have sI:=q2
 refine ac ?_
 refine Ej 2 3 4 5 27 rfl (Tr.cond rfl (fun _=> ?_) (fun h=>nomatch h))
 refine Tr.seq (Tr.Aq (tp rfl (Al (rows:=[]) rfl Yc Df trivial rfl) (tp rfl (Al (rows:=[]) rfl PI Fo trivial rfl) (TO.AY 1 rfl rfl rfl (vl rfl) (Va rfl) rfl A8 rfl rfl (TO.AY 0 rfl rfl rfl (vl rfl) (Va rfl) rfl BE rfl rfl (tm rfl (TO.nil (Fin.go (Tr.ret (Fin.AF (Fin.E0 rfl (AW.cell 1 rfl rfl BM A8 rfl (Lr)) (AW.cell 0 rfl rfl Be BE rfl (Lr)) (AW.tmp rfl (Lr)) ?_)))))))))))
 refine BW ⟨?_,?_,?_,trivial⟩
 · exact Ab ⟨Lr,Lr,Lr,AB 1,Lr,AB 4,AB 1,AB 1,Lr,trivial⟩
 · exact Ab ⟨Lr,Lr,Lr,Lr,Lr,Lr,Lr,AB 15,trivial⟩
 · exact Lr
 refine ag ?_ ?_<;>intro h3 q3
 have qd:=q3
 refine ac ?_
 refine Ej 2 3 4 5 27 rfl (Tr.cond rfl (fun _=> ?_) (fun h=>nomatch h))
 refine Tr.seq (Tr.Aq (tp rfl (Al (rows:=[]) rfl Yc Df trivial rfl) (tp rfl (Al (rows:=[]) rfl PI Fo trivial rfl) (TO.AY 1 rfl rfl rfl (vl rfl) (Va rfl) rfl A8 rfl rfl (TO.AY 0 rfl rfl rfl (vl rfl) (Va rfl) rfl BE rfl rfl (tm rfl (TO.nil (Fin.go (Tr.ret (Fin.AF (Fin.E0 rfl (AW.cell 1 rfl rfl BM A8 rfl (Lr)) (AW.cell 0 rfl rfl Be BE rfl (Lr)) (AW.tmp rfl (Lr)) ?_)))))))))))
 refine BW ⟨?_,?_,?_,trivial⟩
 · exact Ab ⟨Lr,Lr,Lr,AB 1,Lr,AB 4,AB 1,AB 1,Lr,trivial⟩
 · exact Ab ⟨Lr,Lr,Lr,Lr,Lr,Lr,Lr,AB 15,trivial⟩
 · exact Lr
 have qd:=q3
 refine cy h3 rfl (AH rfl Be BE (vl rfl) rfl rfl) ?_
 refine cy h3 rfl (B1 (K3 (c:=c)) rfl rfl) ?_
 refine ac ?_
 refine Ej 2 3 4 5 27 rfl ?_
 refine Tr.cn rfl ?_ ?_<;>intro h4 q4
 refine ap ?_
 refine Tr.ret (Fin.AF (Fin.E0 rfl (AW.cell 1 rfl rfl BM A8 rfl (Lr)) (AW.cell 0 rfl rfl Be BE rfl (Lr)) (AW.tmp rfl (Lr)) ?_))
 refine BW ⟨?_,?_,?_,trivial⟩
 · exact Ab ⟨Lr,Lr,Lr,AB 1,Lr,AB 4,AB 1,AB 1,Lr,trivial⟩
 · exact Ab ⟨Lr,Lr,Lr,Lr,Lr,Lr,Lr,AB 15,trivial⟩
 · exact Lr
 exfalso;apply hk;simp_all
abbrev H9 (e:A5) (c:BA):Int:=idx (fun y=>c.number==y) e.AJ
def A6 (e:A5) (c:BA):Except Int (A5×BA):=
 if c.kind = 1 then
  if ¬(0≤c.at_∧c.at_≤(e.AJ.length:Nat)) then .error 2
  else if (e.AJ.any fun y=>c.number==y)=true then .error 41
  else .ok ({ e with AJ:=e.AJ.take c.at_.toNat++[c.number]++e.AJ.drop c.at_.toNat },⟨c.AP,2,c.number,0,Ay⟩)
 else if c.kind = 2 then
  if H9 e c<0 then .error 41 else .ok ({ e with AJ:=e.AJ.eraseIdx (H9 e c).toNat },⟨c.AP,1,c.number,H9 e c,Ay⟩)
 else if c.kind = 3 then
  if e.most=c.number then .error 41 else .ok ({ e with most:=c.number },⟨c.AP,c.kind,e.most,0,Ay⟩)
 else if c.kind = 4 then
  if e.least=c.number then .error 41 else .ok ({ e with least:=c.number },⟨c.AP,c.kind,e.least,0,Ay⟩)
 else if c.kind = 5 then
  if ¬(0≤c.at_∧c.at_≤(e.ids.length:Nat)) then .error 2
  else if 0≤A0 c.Bj.BX e.ids then .error 41
  else .ok ({ e with ids:=e.ids.take c.at_.toNat++[c.Bj]++e.ids.drop c.at_.toNat },⟨c.AP,6,c.Bj.BX,0,Ay⟩)
 else if c.kind = 6 then
  match e.ids[(A0 c.number e.ids).toNat]? with
  |none=> .error 41
  |some x=>
   if A0 c.number e.ids<0 then .error 41
   else if ((e.ids.drop (A0 c.number e.ids+1).toNat).any fun x=>x.BX==c.number)=true then .error 5
   else .ok ({ e with ids:=e.ids.eraseIdx (A0 c.number e.ids).toNat },⟨c.AP,5,0,A0 c.number e.ids,x⟩)
 else if c.kind = 7 then
  if Cs e.anchors c.number=true then .error 41 else .ok ({ e with anchors:=K4 e.anchors c.number },⟨c.AP,8,c.number,0,Ay⟩)
 else if c.kind = 8 then
  if Cs e.anchors c.number=true then .ok ({ e with anchors:=e.anchors.eraseIdx (DB e.anchors c.number) },⟨c.AP,7,c.number,0,Ay⟩) else .error 41
 else if c.kind = 9 then
  if Cs e.hashes c.number=true then .error 41 else .ok ({ e with hashes:=K4 e.hashes c.number },⟨c.AP,10,c.number,0,Ay⟩)
 else if c.kind = 10 then
  if Cs e.hashes c.number=true then .ok ({ e with hashes:=e.hashes.eraseIdx (DB e.hashes c.number) },⟨c.AP,9,c.number,0,Ay⟩) else .error 41
 else if c.kind = 11 then
  if ¬(0≤c.number∧c.number≤1) then .error 2
  else if D8 e.Fq=c.number then .error 41 else .ok ({ e with Fq:=(c.number==1) },⟨c.AP,c.kind,D8 e.Fq,0,Ay⟩)
 else
  if ¬(0≤c.number∧c.number≤1) then .error 2
  else if D8 e.own=c.number then .error 41 else .ok ({ e with own:=(c.number==1) },⟨c.AP,c.kind,D8 e.own,0,Ay⟩)
def Ec (c:BA):Prop:=(1≤c.kind∧c.kind≤12)∧GH c=true
instance (c:BA):Decidable (Ec c):=inferInstanceAs (Decidable (_∧_))
def CR (e:A5) (c:BA):A5×BA×Int:=
 if B_ e=false then (BZ,BB,19)
 else if ¬Ec c then (BZ,BB,40)
 else match A6 e c with
  | .error f=>(BZ,BB,f)
  | .ok (e2,b)=>if B_ e2=true then (e2,b,0) else (BZ,BB,18)
theorem MC {e:A5} {c:BA} (h:c.kind=1):A6 e c=
  (
  if ¬(0≤c.at_∧c.at_≤(e.AJ.length:Nat)) then .error 2
  else if (e.AJ.any fun y=>c.number==y)=true then .error 41
  else .ok ({ e with AJ:=e.AJ.take c.at_.toNat++[c.number]++e.AJ.drop c.at_.toNat },⟨c.AP,2,c.number,0,Ay⟩)):=by
 unfold A6;rw [if_pos h]
theorem MD {e:A5} {c:BA} (h:c.kind=2):A6 e c=
  (
  if H9 e c<0 then .error 41 else .ok ({ e with AJ:=e.AJ.eraseIdx (H9 e c).toNat },⟨c.AP,1,c.number,H9 e c,Ay⟩)):=by
 unfold A6;rw [if_neg (by rw [h];decide)];rw [if_pos h]
theorem ME {e:A5} {c:BA} (h:c.kind=3):A6 e c=
  (
  if e.most=c.number then .error 41 else .ok ({ e with most:=c.number },⟨c.AP,c.kind,e.most,0,Ay⟩)):=by
 unfold A6;rw [if_neg (by rw [h];decide)];rw [if_neg (by rw [h];decide)];rw [if_pos h]
theorem MF {e:A5} {c:BA} (h:c.kind=4):A6 e c=
  (
  if e.least=c.number then .error 41 else .ok ({ e with least:=c.number },⟨c.AP,c.kind,e.least,0,Ay⟩)):=by
 unfold A6;rw [if_neg (by rw [h];decide)];rw [if_neg (by rw [h];decide)];rw [if_neg (by rw [h];decide)];rw [if_pos h]
theorem MG {e:A5} {c:BA} (h:c.kind=5):A6 e c=
  (
  if ¬(0≤c.at_∧c.at_≤(e.ids.length:Nat)) then .error 2
  else if 0≤A0 c.Bj.BX e.ids then .error 41
  else .ok ({ e with ids:=e.ids.take c.at_.toNat++[c.Bj]++e.ids.drop c.at_.toNat },⟨c.AP,6,c.Bj.BX,0,Ay⟩)):=by
 unfold A6;rw [if_neg (by rw [h];decide)];rw [if_neg (by rw [h];decide)];rw [if_neg (by rw [h];decide)];rw [if_neg (by rw [h];decide)];rw [if_pos h]
theorem MH {e:A5} {c:BA} (h:c.kind=6):A6 e c=
  (
  match e.ids[(A0 c.number e.ids).toNat]? with
  |none=> .error 41
  |some x=>
   if A0 c.number e.ids<0 then .error 41
   else if ((e.ids.drop (A0 c.number e.ids+1).toNat).any fun x=>x.BX==c.number)=true then .error 5
   else .ok ({ e with ids:=e.ids.eraseIdx (A0 c.number e.ids).toNat },⟨c.AP,5,0,A0 c.number e.ids,x⟩)):=by
 unfold A6;rw [if_neg (by rw [h];decide)];rw [if_neg (by rw [h];decide)];rw [if_neg (by rw [h];decide)];rw [if_neg (by rw [h];decide)];rw [if_neg (by rw [h];decide)];rw [if_pos h]
theorem MI {e:A5} {c:BA} (h:c.kind=7):A6 e c=
  (
  if Cs e.anchors c.number=true then .error 41 else .ok ({ e with anchors:=K4 e.anchors c.number },⟨c.AP,8,c.number,0,Ay⟩)):=by
 unfold A6;rw [if_neg (by rw [h];decide)];rw [if_neg (by rw [h];decide)];rw [if_neg (by rw [h];decide)];rw [if_neg (by rw [h];decide)];rw [if_neg (by rw [h];decide)];rw [if_neg (by rw [h];decide)];rw [if_pos h]
theorem MJ {e:A5} {c:BA} (h:c.kind=8):A6 e c=
  (
  if Cs e.anchors c.number=true then .ok ({ e with anchors:=e.anchors.eraseIdx (DB e.anchors c.number) },⟨c.AP,7,c.number,0,Ay⟩) else .error 41):=by
 unfold A6;rw [if_neg (by rw [h];decide)];rw [if_neg (by rw [h];decide)];rw [if_neg (by rw [h];decide)];rw [if_neg (by rw [h];decide)];rw [if_neg (by rw [h];decide)];rw [if_neg (by rw [h];decide)];rw [if_neg (by rw [h];decide)];rw [if_pos h]
theorem MK {e:A5} {c:BA} (h:c.kind=9):A6 e c=
  (
  if Cs e.hashes c.number=true then .error 41 else .ok ({ e with hashes:=K4 e.hashes c.number },⟨c.AP,10,c.number,0,Ay⟩)):=by
 unfold A6;rw [if_neg (by rw [h];decide)];rw [if_neg (by rw [h];decide)];rw [if_neg (by rw [h];decide)];rw [if_neg (by rw [h];decide)];rw [if_neg (by rw [h];decide)];rw [if_neg (by rw [h];decide)];rw [if_neg (by rw [h];decide)];rw [if_neg (by rw [h];decide)];rw [if_pos h]
theorem KO {e:A5} {c:BA} (h:c.kind=10):A6 e c=
  (
  if Cs e.hashes c.number=true then .ok ({ e with hashes:=e.hashes.eraseIdx (DB e.hashes c.number) },⟨c.AP,9,c.number,0,Ay⟩) else .error 41):=by
 unfold A6;rw [if_neg (by rw [h];decide)];rw [if_neg (by rw [h];decide)];rw [if_neg (by rw [h];decide)];rw [if_neg (by rw [h];decide)];rw [if_neg (by rw [h];decide)];rw [if_neg (by rw [h];decide)];rw [if_neg (by rw [h];decide)];rw [if_neg (by rw [h];decide)];rw [if_neg (by rw [h];decide)];rw [if_pos h]
theorem KP {e:A5} {c:BA} (h:c.kind=11):A6 e c=
  (
  if ¬(0≤c.number∧c.number≤1) then .error 2
  else if D8 e.Fq=c.number then .error 41 else .ok ({ e with Fq:=(c.number==1) },⟨c.AP,c.kind,D8 e.Fq,0,Ay⟩)):=by
 unfold A6;rw [if_neg (by rw [h];decide)];rw [if_neg (by rw [h];decide)];rw [if_neg (by rw [h];decide)];rw [if_neg (by rw [h];decide)];rw [if_neg (by rw [h];decide)];rw [if_neg (by rw [h];decide)];rw [if_neg (by rw [h];decide)];rw [if_neg (by rw [h];decide)];rw [if_neg (by rw [h];decide)];rw [if_neg (by rw [h];decide)];rw [if_pos h]
theorem KQ {e:A5} {c:BA} (h:c.kind=12):A6 e c=
  (
  if ¬(0≤c.number∧c.number≤1) then .error 2
  else if D8 e.own=c.number then .error 41 else .ok ({ e with own:=(c.number==1) },⟨c.AP,c.kind,D8 e.own,0,Ay⟩)):=by
 unfold A6;rw [if_neg (by rw [h];decide)];rw [if_neg (by rw [h];decide)];rw [if_neg (by rw [h];decide)];rw [if_neg (by rw [h];decide)];rw [if_neg (by rw [h];decide)];rw [if_neg (by rw [h];decide)];rw [if_neg (by rw [h];decide)];rw [if_neg (by rw [h];decide)];rw [if_neg (by rw [h];decide)];rw [if_neg (by rw [h];decide)];rw [if_neg (by rw [h];decide)]
theorem F6 {e:A5} {c:BA} {f:Int} (h:B_ e=true) (hc:Ec c) (hs:A6 e c= .error f):CR e c=(BZ,BB,f):=by
 unfold CR;rw [if_neg (by rw [h];decide),if_neg (fun h=>h hc),hs]
theorem HD {e:A5} {c:BA} {e2:A5} {b:BA} (h:B_ e=true) (hc:Ec c) (hs:A6 e c= .ok (e2,b)) (h2:B_ e2=true):CR e c=(e2,b,0):=by
 unfold CR;rw [if_neg (by rw [h];decide),if_neg (fun h=>h hc),hs];exact if_pos h2
theorem I2 {e:A5} {c:BA} {e2:A5} {b:BA} (h:B_ e=true) (hc:Ec c) (hs:A6 e c= .ok (e2,b)) (h2:B_ e2=false):CR e c=(BZ,BB,18):=by
 unfold CR;rw [if_neg (by rw [h];decide),if_neg (fun h=>h hc),hs];exact if_neg (by rw [h2];decide)
abbrev NY (r:A5×BA×Int):Pr:=Fa [agg (Ah r.1),agg (Am r.2.1),int r.2.2]
structure Tv (e:A5):Prop where
 name:Hv e.name=true
 least:1≤e.least
 lm:e.least≤e.most
 most:e.most≤4
 AJ:FY e.AJ=true
 I0:e.ids.length≤4
 SY:e.anchors.length≤16
 eX:Pg e.anchors=true
 hash:Pg e.hashes=true
 ids:e.ids.all Ui=true
 keys:e.anchors.all E6=true
 hsh:e.hashes.all Ic=true
theorem CE {e:A5}:B_ e=true↔Tv e:=by
 unfold B_;simp only [Bool.and_eq_true,decide_eq_true_eq]
 exact ⟨fun ⟨⟨⟨⟨⟨⟨⟨⟨a,b⟩,c⟩,d⟩,f⟩,⟨⟨⟨g,h⟩,i⟩,j⟩⟩,k⟩,l⟩,m⟩=>⟨a,b,c,d,f,g,h,i,j,k,l,m⟩,fun ⟨a,b,c,d,f,g,h,i,j,k,l,m⟩=>⟨⟨⟨⟨⟨⟨⟨⟨a,b⟩,c⟩,d⟩,f⟩,⟨⟨⟨g,h⟩,i⟩,j⟩⟩,k⟩,l⟩,m⟩⟩
theorem ML {e:A5} {c:BA} {fk:Nat} (hf:e.fits) (CJ:e.small) (hce:B_ e=true) (hc:Ec c) (hkp:Eb[c.kind.toNat]? =some (fn (.func fk) [])) {f:Int} (hs:A6 e c= .error f) (he:f≠0) (hm:∀(wb ob:Nat) (v:Value),At Tryz.prog fk [ptr wb 0] [BP wb ob c (Br c),Bf ob e (ints e.AJ) (is v) (ints e.anchors) (ints e.hashes),Af 27 4 (e.ids.map Az) v] (int f) []):A_ Tryz.prog 74 [agg (Ah e),agg (Am c)] (NY (CR e c)):=by
 have:=RC (e2:=BZ) (b:=BB) hf CJ hce hc.1 hc.2 hkp ⟨by show 0≤_;omega,fun x hx=>by cases hx⟩ ⟨by show 0≤_;omega,fun x hx=>by cases hx⟩ (.inl ⟨he,hm⟩)
 rw [F6 hce hc hs];rwa [show CD BZ BB f=(BZ,BB,f) from if_pos he] at this
theorem W0 {e:A5} {c:BA} {fk:Nat} (hf:e.fits) (CJ:e.small) (hce:B_ e=true) (hc:Ec c) (hkp:Eb[c.kind.toNat]? =some (fn (.func fk) [])) {e2:A5} {b:BA} (hs:A6 e c= .ok (e2,b)) (hbk:b.Bj.small) (N1:e2.fits) (hm:∀(wb ob:Nat) (v:Value),At Tryz.prog fk [ptr wb 0] [BP wb ob c (Br c),Bf ob e (ints e.AJ) (is v) (ints e.anchors) (ints e.hashes),Af 27 4 (e.ids.map Az) v] (int 0) [BP wb ob c b,AE true ob 32 (Ah e2)]):A_ Tryz.prog 74 [agg (Ah e),agg (Am c)] (NY (CR e c)):=by
 have:=RC (err:=0) hf CJ hce hc.1 hc.2 hkp hbk N1 (.inr ⟨rfl,hm⟩)
 cases h2:B_ e2 with
 |true=>rw [HD hce hc hs h2];rwa [show CD e2 b 0=(e2,b,0) from (if_neg (fun h_=>h_ rfl)).trans (if_pos h2)] at this
 |false=>rw [I2 hce hc hs h2];rwa [show CD e2 b 0=(BZ,BB,18) from (if_neg (fun h_=>h_ rfl)).trans (if_neg (by rw [h2];decide))] at this
theorem P4 {e:A5} {c:BA} {fk:Nat} (hf:e.fits) (CJ:e.small) (hce:B_ e=true) (hc:Ec c) (hkp:Eb[c.kind.toNat]? =some (fn (.func fk) [])) {f:Int} (hs:A6 e c= .error f) (he:f≠0) (hm:∀(wb ob:Nat) (v:Value),At Tryz.prog fk [ptr wb 0] [BP wb ob c (Br c),Bf ob e (is v) (Eu e.ids) (ints e.anchors) (ints e.hashes),Af 3 1 (e.AJ.map fun n=>[int n]) v] (int f) []):A_ Tryz.prog 74 [agg (Ah e),agg (Am c)] (NY (CR e c)):=by
 have:=RD (e2:=BZ) (b:=BB) hf CJ hce hc.1 hc.2 hkp ⟨by show 0≤_;omega,fun x hx=>by cases hx⟩ ⟨by show 0≤_;omega,fun x hx=>by cases hx⟩ (.inl ⟨he,hm⟩)
 rw [F6 hce hc hs];rwa [show CD BZ BB f=(BZ,BB,f) from if_pos he] at this
theorem W1 {e:A5} {c:BA} {fk:Nat} (hf:e.fits) (CJ:e.small) (hce:B_ e=true) (hc:Ec c) (hkp:Eb[c.kind.toNat]? =some (fn (.func fk) [])) {e2:A5} {b:BA} (hs:A6 e c= .ok (e2,b)) (hbk:b.Bj.small) (N1:e2.fits) (hm:∀(wb ob:Nat) (v:Value),At Tryz.prog fk [ptr wb 0] [BP wb ob c (Br c),Bf ob e (is v) (Eu e.ids) (ints e.anchors) (ints e.hashes),Af 3 1 (e.AJ.map fun n=>[int n]) v] (int 0) [BP wb ob c b,AE true ob 32 (Ah e2)]):A_ Tryz.prog 74 [agg (Ah e),agg (Am c)] (NY (CR e c)):=by
 have:=RD (err:=0) hf CJ hce hc.1 hc.2 hkp hbk N1 (.inr ⟨rfl,hm⟩)
 cases h2:B_ e2 with
 |true=>rw [HD hce hc hs h2];rwa [show CD e2 b 0=(e2,b,0) from (if_neg (fun h_=>h_ rfl)).trans (if_pos h2)] at this
 |false=>rw [I2 hce hc hs h2];rwa [show CD e2 b 0=(BZ,BB,18) from (if_neg (fun h_=>h_ rfl)).trans (if_neg (by rw [h2];decide))] at this
theorem Tw {e:A5} {c:BA} {fk:Nat} (hf:e.fits) (CJ:e.small) (hce:B_ e=true) (hc:Ec c) (hkp:Eb[c.kind.toNat]? =some (fn (.func fk) [])) {f:Int} (hs:A6 e c= .error f) (he:f≠0) (hm:∀(wb ob:Nat) (v:Value),At Tryz.prog fk [ptr wb 0] [BP wb ob c (Br c),Bf ob e (ints e.AJ) (Eu e.ids) (is v) (ints e.hashes),Af 3 1 (e.anchors.map fun n=>[int n]) v] (int f) []):A_ Tryz.prog 74 [agg (Ah e),agg (Am c)] (NY (CR e c)):=by
 have:=RE (e2:=BZ) (b:=BB) hf CJ hce hc.1 hc.2 hkp ⟨by show 0≤_;omega,fun x hx=>by cases hx⟩ ⟨by show 0≤_;omega,fun x hx=>by cases hx⟩ (.inl ⟨he,hm⟩)
 rw [F6 hce hc hs];rwa [show CD BZ BB f=(BZ,BB,f) from if_pos he] at this
theorem W2 {e:A5} {c:BA} {fk:Nat} (hf:e.fits) (CJ:e.small) (hce:B_ e=true) (hc:Ec c) (hkp:Eb[c.kind.toNat]? =some (fn (.func fk) [])) {e2:A5} {b:BA} (hs:A6 e c= .ok (e2,b)) (hbk:b.Bj.small) (N1:e2.fits) (hm:∀(wb ob:Nat) (v:Value),At Tryz.prog fk [ptr wb 0] [BP wb ob c (Br c),Bf ob e (ints e.AJ) (Eu e.ids) (is v) (ints e.hashes),Af 3 1 (e.anchors.map fun n=>[int n]) v] (int 0) [BP wb ob c b,AE true ob 32 (Ah e2)]):A_ Tryz.prog 74 [agg (Ah e),agg (Am c)] (NY (CR e c)):=by
 have:=RE (err:=0) hf CJ hce hc.1 hc.2 hkp hbk N1 (.inr ⟨rfl,hm⟩)
 cases h2:B_ e2 with
 |true=>rw [HD hce hc hs h2];rwa [show CD e2 b 0=(e2,b,0) from (if_neg (fun h_=>h_ rfl)).trans (if_pos h2)] at this
 |false=>rw [I2 hce hc hs h2];rwa [show CD e2 b 0=(BZ,BB,18) from (if_neg (fun h_=>h_ rfl)).trans (if_neg (by rw [h2];decide))] at this
theorem Tx {e:A5} {c:BA} {fk:Nat} (hf:e.fits) (CJ:e.small) (hce:B_ e=true) (hc:Ec c) (hkp:Eb[c.kind.toNat]? =some (fn (.func fk) [])) {f:Int} (hs:A6 e c= .error f) (he:f≠0) (hm:∀(wb ob:Nat) (v:Value),At Tryz.prog fk [ptr wb 0] [BP wb ob c (Br c),Bf ob e (ints e.AJ) (Eu e.ids) (ints e.anchors) (is v),Af 3 1 (e.hashes.map fun n=>[int n]) v] (int f) []):A_ Tryz.prog 74 [agg (Ah e),agg (Am c)] (NY (CR e c)):=by
 have:=RF (e2:=BZ) (b:=BB) hf CJ hce hc.1 hc.2 hkp ⟨by show 0≤_;omega,fun x hx=>by cases hx⟩ ⟨by show 0≤_;omega,fun x hx=>by cases hx⟩ (.inl ⟨he,hm⟩)
 rw [F6 hce hc hs];rwa [show CD BZ BB f=(BZ,BB,f) from if_pos he] at this
theorem W3 {e:A5} {c:BA} {fk:Nat} (hf:e.fits) (CJ:e.small) (hce:B_ e=true) (hc:Ec c) (hkp:Eb[c.kind.toNat]? =some (fn (.func fk) [])) {e2:A5} {b:BA} (hs:A6 e c= .ok (e2,b)) (hbk:b.Bj.small) (N1:e2.fits) (hm:∀(wb ob:Nat) (v:Value),At Tryz.prog fk [ptr wb 0] [BP wb ob c (Br c),Bf ob e (ints e.AJ) (Eu e.ids) (ints e.anchors) (is v),Af 3 1 (e.hashes.map fun n=>[int n]) v] (int 0) [BP wb ob c b,AE true ob 32 (Ah e2)]):A_ Tryz.prog 74 [agg (Ah e),agg (Am c)] (NY (CR e c)):=by
 have:=RF (err:=0) hf CJ hce hc.1 hc.2 hkp hbk N1 (.inr ⟨rfl,hm⟩)
 cases h2:B_ e2 with
 |true=>rw [HD hce hc hs h2];rwa [show CD e2 b 0=(e2,b,0) from (if_neg (fun h_=>h_ rfl)).trans (if_pos h2)] at this
 |false=>rw [I2 hce hc hs h2];rwa [show CD e2 b 0=(BZ,BB,18) from (if_neg (fun h_=>h_ rfl)).trans (if_neg (by rw [h2];decide))] at this
theorem I3 {e:A5} {c:BA} {fk:Nat} (hf:e.fits) (CJ:e.small) (hce:B_ e=true) (hc:Ec c) (hkp:Eb[c.kind.toNat]? =some (fn (.func fk) [])) {f:Int} (hs:A6 e c= .error f) (he:f≠0) (hm:∀(wb ob:Nat),At Tryz.prog fk [ptr wb 0] [BP wb ob c (Br c),Bf ob e (ints e.AJ) (Eu e.ids) (ints e.anchors) (ints e.hashes)] (int f) []):A_ Tryz.prog 74 [agg (Ah e),agg (Am c)] (NY (CR e c)):=by
 have:=RG (e2:=BZ) (b:=BB) hf CJ hce hc.1 hc.2 hkp ⟨by show 0≤_;omega,fun x hx=>by cases hx⟩ ⟨by show 0≤_;omega,fun x hx=>by cases hx⟩ (.inl ⟨he,hm⟩)
 rw [F6 hce hc hs];rwa [show CD BZ BB f=(BZ,BB,f) from if_pos he] at this
theorem P5 {e:A5} {c:BA} {fk:Nat} (hf:e.fits) (CJ:e.small) (hce:B_ e=true) (hc:Ec c) (hkp:Eb[c.kind.toNat]? =some (fn (.func fk) [])) {e2:A5} {b:BA} (hs:A6 e c= .ok (e2,b)) (hbk:b.Bj.small) (N1:e2.fits) (hm:∀(wb ob:Nat),At Tryz.prog fk [ptr wb 0] [BP wb ob c (Br c),Bf ob e (ints e.AJ) (Eu e.ids) (ints e.anchors) (ints e.hashes)] (int 0) [BP wb ob c b,AE true ob 32 (Ah e2)]):A_ Tryz.prog 74 [agg (Ah e),agg (Am c)] (NY (CR e c)):=by
 have:=RG (err:=0) hf CJ hce hc.1 hc.2 hkp hbk N1 (.inr ⟨rfl,hm⟩)
 cases h2:B_ e2 with
 |true=>rw [HD hce hc hs h2];rwa [show CD e2 b 0=(e2,b,0) from (if_neg (fun h_=>h_ rfl)).trans (if_pos h2)] at this
 |false=>rw [I2 hce hc hs h2];rwa [show CD e2 b 0=(BZ,BB,18) from (if_neg (fun h_=>h_ rfl)).trans (if_neg (by rw [h2];decide))] at this
theorem BK:Ay.small:=⟨by show 0≤_;omega,fun c hc=>by cases hc⟩
theorem Z3 {l:List Du} {x:Du} {i:Nat} (h:∀y∈l,y.fits) (hx:x.fits):∀y∈l.take i++[x]++l.drop i,y.fits:=by
 intro y hy
 simp only [List.mem_append,List.mem_cons,List.not_mem_nil,or_false] at hy
 rcases hy with (hy|rfl)|hy
 · exact h y (List.mem_of_mem_take hy)
 · exact hx
 · exact h y (List.mem_of_mem_drop hy)
theorem Z4 {l:List Du} {i:Nat} (h:∀y∈l,y.fits):∀y∈l.eraseIdx i,y.fits:=fun y hy=>h y (List.mem_of_mem_eraseIdx hy)
theorem eY {e:A5} {c:BA} (hf:e.fits) (CJ:e.small) (k8:c.Bj.fits) (hcs:c.Bj.small):A_ Tryz.prog 74 [agg (Ah e),agg (Am c)] (NY (CR e c)):=by
 cases hce:B_ e with
 |false=>rw [show CR e c=(BZ,BB,19) from if_pos hce];exact Z1 hf hce
 |true=>
 by_cases hc:Ec c
 case neg=>rw [show CR e c=(BZ,BB,40) from (if_neg (by rw [hce];decide)).trans (if_pos hc)];exact Z2 hf hce hc
 have ok:=CE.1 hce
 have hk:=hc.1
 have h0:c.kind=1∨c.kind=2∨c.kind=3∨c.kind=4∨c.kind=5∨c.kind=6∨c.kind=7∨c.kind=8∨c.kind=9∨c.kind=10∨c.kind=11∨c.kind=12:=by omega
 rcases h0 with h1|h2|h3|h4|h5|h6|h7|h8|h9|h10|h11|h12
 ·
  -- kind 1
  by_cases hr:0≤c.at_∧c.at_≤(e.AJ.length:Nat)
  by_cases h:(e.AJ.any fun y=>c.number==y)=true
  · exact P4 hf CJ hce hc (fk:=167) (by rw [h1];rfl) (by unfold A6;rw [if_pos h1];rw [if_neg (fun h=>h hr)];exact if_pos h) (by decide) (fun wb ob v=>Q4 (e:=e) (c:=c) (b:=Br c) hr CJ.AJ h)
  · exact W1 hf CJ hce hc (fk:=167) (e2:={ e with AJ:=e.AJ.take c.at_.toNat++[c.number]++e.AJ.drop c.at_.toNat }) (b:=⟨c.AP,2,c.number,0,Ay⟩) (by rw [h1];rfl) (by unfold A6;rw [if_pos h1];rw [if_neg (fun h=>h hr)];exact if_neg h) BK ⟨hf.name,hf.ids⟩ (fun wb ob v=>At.perm (Q5 (e:=e) (c:=c) (b:=Br c) hr CJ.AJ (Bool.eq_false_iff.2 h)) (List.Perm.swap _ _ _))
  · exact P4 hf CJ hce hc (fk:=167) (by rw [h1];rfl) (by unfold A6;rw [if_pos h1];exact if_pos hr) (by decide) (fun wb ob v=>Q3 (e:=e) (c:=c) (b:=Br c) hr)
 ·
  -- kind 2
  by_cases h:H9 e c<0
  · exact P4 hf CJ hce hc (fk:=168) (by rw [h2];rfl) (by unfold A6;rw [if_neg (by rw [h2];decide)];rw [if_pos h2];exact if_pos h) (by decide) (fun wb ob v=>Pm (e:=e) (c:=c) (b:=Br c) h)
  · exact W1 hf CJ hce hc (fk:=168) (e2:={ e with AJ:=e.AJ.eraseIdx (H9 e c).toNat }) (b:=⟨c.AP,1,c.number,H9 e c,Ay⟩) (by rw [h2];rfl) (by unfold A6;rw [if_neg (by rw [h2];decide)];rw [if_pos h2];exact if_neg h) BK ⟨hf.name,hf.ids⟩ (fun wb ob v=>Pn (e:=e) (c:=c) (b:=Br c) (by unfold H9 at h;omega) CJ.AJ)
 ·
  -- kind 3
  by_cases h:e.most=c.number
  · exact I3 hf CJ hce hc (fk:=169) (by rw [h3];rfl) (by unfold A6;rw [if_neg (by rw [h3];decide)];rw [if_neg (by rw [h3];decide)];rw [if_pos h3];exact if_pos h) (by decide) (fun wb ob=>Q8 (e:=e) (c:=c) (b:=Br c) h)
  · exact P5 hf CJ hce hc (fk:=169) (e2:={ e with most:=c.number }) (b:=⟨c.AP,c.kind,e.most,0,Ay⟩) (by rw [h3];rfl) (by unfold A6;rw [if_neg (by rw [h3];decide)];rw [if_neg (by rw [h3];decide)];rw [if_pos h3];exact if_neg h) BK ⟨hf.name,hf.ids⟩ (fun wb ob=>Q9 (e:=e) (c:=c) (b:=Br c) h)
 ·
  -- kind 4
  by_cases h:e.least=c.number
  · exact I3 hf CJ hce hc (fk:=170) (by rw [h4];rfl) (by unfold A6;rw [if_neg (by rw [h4];decide)];rw [if_neg (by rw [h4];decide)];rw [if_neg (by rw [h4];decide)];rw [if_pos h4];exact if_pos h) (by decide) (fun wb ob=>Pu (e:=e) (c:=c) (b:=Br c) h)
  · exact P5 hf CJ hce hc (fk:=170) (e2:={ e with least:=c.number }) (b:=⟨c.AP,c.kind,e.least,0,Ay⟩) (by rw [h4];rfl) (by unfold A6;rw [if_neg (by rw [h4];decide)];rw [if_neg (by rw [h4];decide)];rw [if_neg (by rw [h4];decide)];rw [if_pos h4];exact if_neg h) BK ⟨hf.name,hf.ids⟩ (fun wb ob=>Pv (e:=e) (c:=c) (b:=Br c) h)
 ·
  -- kind 5
  by_cases hr:0≤c.at_∧c.at_≤(e.ids.length:Nat)
  by_cases h:0≤A0 c.Bj.BX e.ids
  · exact ML hf CJ hce hc (fk:=171) (by rw [h5];rfl) (by unfold A6;rw [if_neg (by rw [h5];decide)];rw [if_neg (by rw [h5];decide)];rw [if_neg (by rw [h5];decide)];rw [if_neg (by rw [h5];decide)];rw [if_pos h5];rw [if_neg (fun h=>h hr)];exact if_pos h) (by decide) (fun wb ob v=>Uu (e:=e) (c:=c) (b:=Br c) hcs hr CJ.I0 h)
  · exact W0 hf CJ hce hc (fk:=171) (e2:={ e with ids:=e.ids.take c.at_.toNat++[c.Bj]++e.ids.drop c.at_.toNat }) (b:=⟨c.AP,6,c.Bj.BX,0,Ay⟩) (by rw [h5];rfl) (by unfold A6;rw [if_neg (by rw [h5];decide)];rw [if_neg (by rw [h5];decide)];rw [if_neg (by rw [h5];decide)];rw [if_neg (by rw [h5];decide)];rw [if_pos h5];rw [if_neg (fun h=>h hr)];exact if_neg h) BK ⟨hf.name,Z3 hf.ids k8⟩ (fun wb ob v=>At.perm (Uv (e:=e) (c:=c) (b:=Br c) hcs hr CJ.I0 (by omega)) (List.Perm.swap _ _ _))
  · exact ML hf CJ hce hc (fk:=171) (by rw [h5];rfl) (by unfold A6;rw [if_neg (by rw [h5];decide)];rw [if_neg (by rw [h5];decide)];rw [if_neg (by rw [h5];decide)];rw [if_neg (by rw [h5];decide)];rw [if_pos h5];exact if_pos hr) (by decide) (fun wb ob v=>Ut (e:=e) (c:=c) (b:=Br c) hcs hr)
 ·
  -- kind 6
  by_cases h:A0 c.number e.ids<0
  · exact ML hf CJ hce hc (fk:=172) (by rw [h6];rfl) (by unfold A6;rw [if_neg (by rw [h6];decide)];rw [if_neg (by rw [h6];decide)];rw [if_neg (by rw [h6];decide)];rw [if_neg (by rw [h6];decide)];rw [if_neg (by rw [h6];decide)];rw [if_pos h6];cases e.ids[(A0 c.number e.ids).toNat]? <;>first|rfl|exact if_pos h) (by decide) (fun wb ob v=>SO (e:=e) (c:=c) (b:=Br c) (x:=Ay) h)
  obtain ⟨x,hx,_,_⟩:=Iz (p:=fun x:Du=>x.BX==c.number) (l:=e.ids) (by unfold A0 at h;omega)
  have hx:e.ids[(A0 c.number e.ids).toNat]? =some x:=hx
  by_cases ht:((e.ids.drop (A0 c.number e.ids+1).toNat).any fun x=>x.BX==c.number)=true
  · exact ML hf CJ hce hc (fk:=172) (by rw [h6];rfl) (by unfold A6;rw [if_neg (by rw [h6];decide)];rw [if_neg (by rw [h6];decide)];rw [if_neg (by rw [h6];decide)];rw [if_neg (by rw [h6];decide)];rw [if_neg (by rw [h6];decide)];rw [if_pos h6];rw [hx];exact (if_neg h).trans (if_pos ht)) (by decide) (fun wb ob v=>SP (e:=e) (c:=c) (b:=Br c) (x:=x) (by omega) hx ht CJ.I0)
  · exact W0 hf CJ hce hc (fk:=172) (e2:={ e with ids:=e.ids.eraseIdx (A0 c.number e.ids).toNat }) (b:=⟨c.AP,5,0,A0 c.number e.ids,x⟩) (by rw [h6];rfl) (by unfold A6;rw [if_neg (by rw [h6];decide)];rw [if_neg (by rw [h6];decide)];rw [if_neg (by rw [h6];decide)];rw [if_neg (by rw [h6];decide)];rw [if_neg (by rw [h6];decide)];rw [if_pos h6];rw [hx];exact (if_neg h).trans (if_neg ht)) (CJ.ids x (List.mem_of_getElem? hx)) ⟨hf.name,Z4 hf.ids⟩ (fun wb ob v=>SQ (e:=e) (c:=c) (b:=Br c) (x:=x) (by omega) hx (Bool.eq_false_iff.2 ht) CJ.I0)
 ·
  -- kind 7
  by_cases h:Cs e.anchors c.number=true
  · exact Tw hf CJ hce hc (fk:=173) (by rw [h7];rfl) (by unfold A6;rw [if_neg (by rw [h7];decide)];rw [if_neg (by rw [h7];decide)];rw [if_neg (by rw [h7];decide)];rw [if_neg (by rw [h7];decide)];rw [if_neg (by rw [h7];decide)];rw [if_neg (by rw [h7];decide)];rw [if_pos h7];exact if_pos h) (by decide) (fun wb ob v=>Pq (e:=e) (c:=c) (b:=Br c) (Ek ok.eX) CJ.anchors h)
  · exact W2 hf CJ hce hc (fk:=173) (e2:={ e with anchors:=K4 e.anchors c.number }) (b:=⟨c.AP,8,c.number,0,Ay⟩) (by rw [h7];rfl) (by unfold A6;rw [if_neg (by rw [h7];decide)];rw [if_neg (by rw [h7];decide)];rw [if_neg (by rw [h7];decide)];rw [if_neg (by rw [h7];decide)];rw [if_neg (by rw [h7];decide)];rw [if_neg (by rw [h7];decide)];rw [if_pos h7];exact if_neg h) BK ⟨hf.name,hf.ids⟩ (fun wb ob v=>Pt (e:=e) (c:=c) (b:=Br c) (Ek ok.eX) CJ.anchors (Bool.eq_false_iff.2 h))
 ·
  -- kind 8
  by_cases h:Cs e.anchors c.number=true
  · exact W2 hf CJ hce hc (fk:=174) (e2:={ e with anchors:=e.anchors.eraseIdx (DB e.anchors c.number) }) (b:=⟨c.AP,7,c.number,0,Ay⟩) (by rw [h8];rfl) (by unfold A6;rw [if_neg (by rw [h8];decide)];rw [if_neg (by rw [h8];decide)];rw [if_neg (by rw [h8];decide)];rw [if_neg (by rw [h8];decide)];rw [if_neg (by rw [h8];decide)];rw [if_neg (by rw [h8];decide)];rw [if_neg (by rw [h8];decide)];rw [if_pos h8];exact if_pos h) BK ⟨hf.name,hf.ids⟩ (fun wb ob v=>N5 (e:=e) (c:=c) (b:=Br c) (Ek ok.eX) CJ.anchors h)
  · exact Tw hf CJ hce hc (fk:=174) (by rw [h8];rfl) (by unfold A6;rw [if_neg (by rw [h8];decide)];rw [if_neg (by rw [h8];decide)];rw [if_neg (by rw [h8];decide)];rw [if_neg (by rw [h8];decide)];rw [if_neg (by rw [h8];decide)];rw [if_neg (by rw [h8];decide)];rw [if_neg (by rw [h8];decide)];rw [if_pos h8];exact if_neg h) (by decide) (fun wb ob v=>N4 (e:=e) (c:=c) (b:=Br c) (Ek ok.eX) CJ.anchors (Bool.eq_false_iff.2 h))
 ·
  -- kind 9
  by_cases h:Cs e.hashes c.number=true
  · exact Tx hf CJ hce hc (fk:=175) (by rw [h9];rfl) (by unfold A6;rw [if_neg (by rw [h9];decide)];rw [if_neg (by rw [h9];decide)];rw [if_neg (by rw [h9];decide)];rw [if_neg (by rw [h9];decide)];rw [if_neg (by rw [h9];decide)];rw [if_neg (by rw [h9];decide)];rw [if_neg (by rw [h9];decide)];rw [if_neg (by rw [h9];decide)];rw [if_pos h9];exact if_pos h) (by decide) (fun wb ob v=>SU (e:=e) (c:=c) (b:=Br c) (Ek ok.hash) CJ.hashes h)
  · exact W3 hf CJ hce hc (fk:=175) (e2:={ e with hashes:=K4 e.hashes c.number }) (b:=⟨c.AP,10,c.number,0,Ay⟩) (by rw [h9];rfl) (by unfold A6;rw [if_neg (by rw [h9];decide)];rw [if_neg (by rw [h9];decide)];rw [if_neg (by rw [h9];decide)];rw [if_neg (by rw [h9];decide)];rw [if_neg (by rw [h9];decide)];rw [if_neg (by rw [h9];decide)];rw [if_neg (by rw [h9];decide)];rw [if_neg (by rw [h9];decide)];rw [if_pos h9];exact if_neg h) BK ⟨hf.name,hf.ids⟩ (fun wb ob v=>SV (e:=e) (c:=c) (b:=Br c) (Ek ok.hash) CJ.hashes (Bool.eq_false_iff.2 h))
 ·
  -- kind 10
  by_cases h:Cs e.hashes c.number=true
  · exact W3 hf CJ hce hc (fk:=176) (e2:={ e with hashes:=e.hashes.eraseIdx (DB e.hashes c.number) }) (b:=⟨c.AP,9,c.number,0,Ay⟩) (by rw [h10];rfl) (by unfold A6;rw [if_neg (by rw [h10];decide)];rw [if_neg (by rw [h10];decide)];rw [if_neg (by rw [h10];decide)];rw [if_neg (by rw [h10];decide)];rw [if_neg (by rw [h10];decide)];rw [if_neg (by rw [h10];decide)];rw [if_neg (by rw [h10];decide)];rw [if_neg (by rw [h10];decide)];rw [if_neg (by rw [h10];decide)];rw [if_pos h10];exact if_pos h) BK ⟨hf.name,hf.ids⟩ (fun wb ob v=>Q7 (e:=e) (c:=c) (b:=Br c) (Ek ok.hash) CJ.hashes h)
  · exact Tx hf CJ hce hc (fk:=176) (by rw [h10];rfl) (by unfold A6;rw [if_neg (by rw [h10];decide)];rw [if_neg (by rw [h10];decide)];rw [if_neg (by rw [h10];decide)];rw [if_neg (by rw [h10];decide)];rw [if_neg (by rw [h10];decide)];rw [if_neg (by rw [h10];decide)];rw [if_neg (by rw [h10];decide)];rw [if_neg (by rw [h10];decide)];rw [if_neg (by rw [h10];decide)];rw [if_pos h10];exact if_neg h) (by decide) (fun wb ob v=>Q6 (e:=e) (c:=c) (b:=Br c) (Ek ok.hash) CJ.hashes (Bool.eq_false_iff.2 h))
 ·
  -- kind 11
  by_cases hr:0≤c.number∧c.number≤1
  by_cases h:D8 e.Fq=c.number
  · exact I3 hf CJ hce hc (fk:=177) (by rw [h11];rfl) (by unfold A6;rw [if_neg (by rw [h11];decide)];rw [if_neg (by rw [h11];decide)];rw [if_neg (by rw [h11];decide)];rw [if_neg (by rw [h11];decide)];rw [if_neg (by rw [h11];decide)];rw [if_neg (by rw [h11];decide)];rw [if_neg (by rw [h11];decide)];rw [if_neg (by rw [h11];decide)];rw [if_neg (by rw [h11];decide)];rw [if_neg (by rw [h11];decide)];rw [if_pos h11];rw [if_neg (fun h=>h hr)];exact if_pos h) (by decide) (fun wb ob=>Lp (e:=e) (c:=c) (b:=Br c) hr rfl h)
  · exact P5 hf CJ hce hc (fk:=177) (e2:={ e with Fq:=(c.number==1) }) (b:=⟨c.AP,c.kind,D8 e.Fq,0,Ay⟩) (by rw [h11];rfl) (by unfold A6;rw [if_neg (by rw [h11];decide)];rw [if_neg (by rw [h11];decide)];rw [if_neg (by rw [h11];decide)];rw [if_neg (by rw [h11];decide)];rw [if_neg (by rw [h11];decide)];rw [if_neg (by rw [h11];decide)];rw [if_neg (by rw [h11];decide)];rw [if_neg (by rw [h11];decide)];rw [if_neg (by rw [h11];decide)];rw [if_neg (by rw [h11];decide)];rw [if_pos h11];rw [if_neg (fun h=>h hr)];exact if_neg h) BK ⟨hf.name,hf.ids⟩ (fun wb ob=>Ls (e:=e) (c:=c) (b:=Br c) hr rfl h)
  · exact I3 hf CJ hce hc (fk:=177) (by rw [h11];rfl) (by unfold A6;rw [if_neg (by rw [h11];decide)];rw [if_neg (by rw [h11];decide)];rw [if_neg (by rw [h11];decide)];rw [if_neg (by rw [h11];decide)];rw [if_neg (by rw [h11];decide)];rw [if_neg (by rw [h11];decide)];rw [if_neg (by rw [h11];decide)];rw [if_neg (by rw [h11];decide)];rw [if_neg (by rw [h11];decide)];rw [if_neg (by rw [h11];decide)];rw [if_pos h11];exact if_pos hr) (by decide) (fun wb ob=>Lm (e:=e) (c:=c) (b:=Br c) hr)
 ·
  -- kind 12
  by_cases hr:0≤c.number∧c.number≤1
  by_cases h:D8 e.own=c.number
  · exact I3 hf CJ hce hc (fk:=178) (by rw [h12];rfl) (by unfold A6;rw [if_neg (by rw [h12];decide)];rw [if_neg (by rw [h12];decide)];rw [if_neg (by rw [h12];decide)];rw [if_neg (by rw [h12];decide)];rw [if_neg (by rw [h12];decide)];rw [if_neg (by rw [h12];decide)];rw [if_neg (by rw [h12];decide)];rw [if_neg (by rw [h12];decide)];rw [if_neg (by rw [h12];decide)];rw [if_neg (by rw [h12];decide)];rw [if_neg (by rw [h12];decide)];rw [if_neg (fun h=>h hr)];exact if_pos h) (by decide) (fun wb ob=>Pz (e:=e) (c:=c) (b:=Br c) hr rfl h)
  · exact P5 hf CJ hce hc (fk:=178) (e2:={ e with own:=(c.number==1) }) (b:=⟨c.AP,c.kind,D8 e.own,0,Ay⟩) (by rw [h12];rfl) (by unfold A6;rw [if_neg (by rw [h12];decide)];rw [if_neg (by rw [h12];decide)];rw [if_neg (by rw [h12];decide)];rw [if_neg (by rw [h12];decide)];rw [if_neg (by rw [h12];decide)];rw [if_neg (by rw [h12];decide)];rw [if_neg (by rw [h12];decide)];rw [if_neg (by rw [h12];decide)];rw [if_neg (by rw [h12];decide)];rw [if_neg (by rw [h12];decide)];rw [if_neg (by rw [h12];decide)];rw [if_neg (fun h=>h hr)];exact if_neg h) BK ⟨hf.name,hf.ids⟩ (fun wb ob=>P3 (e:=e) (c:=c) (b:=Br c) hr rfl h)
  · exact I3 hf CJ hce hc (fk:=178) (by rw [h12];rfl) (by unfold A6;rw [if_neg (by rw [h12];decide)];rw [if_neg (by rw [h12];decide)];rw [if_neg (by rw [h12];decide)];rw [if_neg (by rw [h12];decide)];rw [if_neg (by rw [h12];decide)];rw [if_neg (by rw [h12];decide)];rw [if_neg (by rw [h12];decide)];rw [if_neg (by rw [h12];decide)];rw [if_neg (by rw [h12];decide)];rw [if_neg (by rw [h12];decide)];rw [if_neg (by rw [h12];decide)];exact if_pos hr) (by decide) (fun wb ob=>Px (e:=e) (c:=c) (b:=Br c) hr)
theorem Uz {e:A5} {c:BA} (hf:e.fits) (CJ:e.small) (k8:c.Bj.fits) (hcs:c.Bj.small):A_ prog 18 [agg (Ah e),agg (Am c)] (Fa [agg (Ah (CR e c).1),int (CR e c).2.2]):=by
 refine fo func18 rfl ⟨rfl,rfl⟩ fun M0 w0=>(Tr.seq (Tr.Aq (tp rfl (Bl rfl (Va rfl)) (tp rfl (Bl rfl (Va rfl)) ?_))))
 refine Tl rfl rfl rfl rfl z32 Df (fun b1=> ?_)
 refine ao ?_
 refine ao ?_
 refine tp rfl (C8 (eY hf CJ k8 hcs) rfl rfl rfl) ?_
 refine ao ?_
 refine Tl rfl rfl rfl rfl z32 Df (fun b2=> ?_)
 refine Tl rfl rfl rfl rfl z29 Fo (fun b3=> ?_)
 refine sf 1 6 ⟨rfl,rfl,rfl⟩ rfl rfl rfl rfl ?_
 refine sf 0 7 ⟨rfl,rfl,rfl⟩ rfl rfl rfl rfl ?_
 refine ao ?_
 refine Cg 4 6 8 rfl ?_
 refine ao ?_
 refine TO.AY 0 rfl rfl rfl (vl rfl) (Va rfl) rfl A8 rfl rfl ?_
 refine ao ?_
 refine Tr.ret (Fin.C4 rfl (AW.cell 0 rfl rfl BM A8 rfl (Lr)) (AW.tmp rfl (Lr)) ?_)
 refine BW ⟨?_,?_,trivial⟩
 · exact Lr
 · exact Lr
end Go.Proofs.YtppeeogffbpcbaaGreat
