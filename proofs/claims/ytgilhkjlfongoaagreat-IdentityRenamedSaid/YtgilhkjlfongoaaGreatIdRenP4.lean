/-
  Part 4 of the texts that prove this claim, merged.
-/
import Derived.Test.YtgilhkjlfongoaaGreatIdRenP3
set_option linter.all false
set_option maxRecDepth 40000
set_option maxHeartbeats 16000000
namespace Go.Proofs.YtgilhkjlfongoaaGreat
open Go Go.RowKit Cp Go.Proofs.Tryz
instance:Inhabited AO:=⟨⟨0,[],0,0,0,0,[],0,0,0,[]⟩⟩
theorem Ul {l:List AO} {c:AO×AO→Int} {b0 cap len:Nat} {sp:List Value} {a b:Int} (Dc:l.length=len) (GU:len≤1000000) (hw:Go.Sort.SWO (BM c)) (h0:0≤a) (hab:a≤b) (hb:b≤len):Am prog 164 [is (.slice (some ⟨b0,0,none⟩) len cap),int a,int b,Dh prog (fun x:AO×AO=>[agg (AR x.1),agg (AR x.2)]) (fun x=>int (c x))] (Bx) (AB true b0 26 ((l.map AR).flatten++sp.map is)) (fun _=>BV b0 26 AR (Br c a b l) (sp.map is)):=by
 refine Am.of func164 rfl rfl (by exact Nb rfl) fun M0 w0 S rs M1 w1=> ?_
 refine ac ?_
 refine Tr.block (Tr.Bk [(0,_),(1,_),(2,_),(3,_)] ⟨ke rfl,ke rfl,ke rfl,ke rfl,trivial⟩ (fun (i:Int) (st:List AO)=>[(8,int i)]) (fun (i:Int) (st:List AO)=>Hp M0 w0 S (AB true b0 26 ((st.map AR).flatten++sp.map is)::Aa M1 w1::rs)) (fun (i:Int) (st:List AO)=>a<i∧st.length=len∧Go.Sort.insOuter (BM c) a.toNat b.toNat i.toNat st.toArray=Go.Sort.insertionSort (BM c) l.toArray a.toNat b.toNat) (fun (i:Int) (st:List AO)=>(b-i).toNat) (a+1) (l)  (⟨by omega,by omega,Jl h0⟩) ⟨ke rfl,trivial⟩ (fun _ _ h=>h) ?_)
 rintro i st  ⟨hi1,Fz,Ci⟩
 refine an ?_ ?_<;>intro h1 q1
 have hib:i<b:=of_decide_eq_true h1
 refine a2 ?_
 refine Tr.block (Tr.Bk [(0,_),(1,_),(2,_),(3,_),(8,_)] ⟨ke rfl,ke rfl,ke rfl,ke rfl,ke rfl,trivial⟩ (fun (j:Int) (DE:List AO)=>[(9,int j)]) (fun (j:Int) (DE:List AO)=>Hp M0 w0 S (AB true b0 26 ((DE.map AR).flatten++sp.map is)::Aa M1 w1::rs)) (fun (j:Int) (DE:List AO)=>(a≤j∧j≤i)∧DE.length=len∧Go.Sort.insInner (BM c) a.toNat j.toNat DE.toArray=Go.Sort.insInner (BM c) a.toNat i.toNat st.toArray) (fun (j:Int) (DE:List AO)=>(j-a).toNat) (i) (st)  (⟨⟨by omega,by omega⟩,Fz,rfl⟩) ⟨ke rfl,trivial⟩ (fun _ _ h=>h) ?_)
 rintro j DE  ⟨⟨RC,hj2⟩,J7,Gi⟩
 refine ag ?_ ?_<;>intro h2 q2
 refine ac ?_
 refine cy h2 rfl (AA rfl underlying31 AH (vl rfl) (vl rfl) (by omega) (by omega)) (cy h2 rfl (Ai 0 rfl (AE rfl Ac AH (vl rfl) (AD (f:=AR) (fun _=>rfl) (by omega)) rfl)) ?_)
 refine ac ?_
 refine cy h2 rfl (AA rfl underlying31 AH (vl rfl) (vl rfl) (by omega) (by omega)) (cy h2 rfl (Ai 0 rfl (AE rfl Ac AH (vl rfl) (AD (f:=AR) (fun _=>rfl) (by omega)) rfl)) (cy h2 rfl (Af (_,_) rfl (vl rfl) ⟨ke rfl,ke rfl,trivial⟩) ?_))
 refine ac ?_
 refine E5 0 1 2 3 8 9 34 rfl ?_
 refine Tr.cn rfl ?_ ?_<;>intro h3 q3
 have:=h3
 refine ac ?_
 refine Tr.seq (Tr.block (Tr.rx ?_))
 refine ay ?_
 refine xo rfl (fun _=>AA rfl underlying31 AH (vl rfl) (vl rfl) (by omega) (by omega)) (CA 0 rfl rfl (AE rfl Ac AH (vl rfl) (AD (f:=AR) (fun _=>rfl) (by omega)) rfl) ?_)
 refine ay ?_
 refine xo rfl (fun _=>AA rfl underlying31 AH (vl rfl) (vl rfl) (by omega) (by omega)) (CA 0 rfl rfl (AE rfl Ac AH (vl rfl) (AD (f:=AR) (fun _=>rfl) (by omega)) rfl) (xo rfl (fun _=>AA rfl underlying31 AH (vl rfl) (vl rfl) (by omega) (by omega)) ?_))
 refine Cx.B4 0 rfl rfl (AU rfl rfl (vl rfl) (Va rfl) AH rfl (by rw [AV (sz:=11) (fun _=>rfl)];omega) (AP (f:=AR) (fun _=>rfl) (by omega))) ?_
 refine xo rfl (fun _=>AA rfl underlying31 AH (vl rfl) (vl rfl) (by omega) (by omega)) ?_
 refine Cx.B4 0 rfl rfl (AU rfl rfl (vl rfl) (Va rfl) AH rfl (by rw [AV (sz:=11) (fun _=>rfl)];simp only [List.length_set];omega) (AP (f:=AR) (fun _=>rfl) (by simp only [List.length_set];omega))) ?_
 refine Cx.nil ⟨by kernel_rfl,?_⟩
 refine BT.done IK ?_
 refine ac ?_
 refine D_ 0 1 2 3 8 9 rfl ?_
 refine ac ?_
 exact Fin.BG (j-1) (_)  (⟨⟨⟨by omega,by omega⟩,by simp only [List.length_set];exact J7,by rw [Rt h0 (by omega) rfl (by omega) (by omega) (by assumption)];exact Gi⟩,by omega⟩) ⟨ke rfl,ke rfl,ke rfl,ke rfl,ke rfl,ke rfl,trivial⟩ (fun _ _ h=>h)
 have:=h3
 refine a2 ?_
 have OV:DE.toArray=Go.Sort.insInner (BM c) a.toNat j.toNat DE.toArray:=by exact Kx h0 (by omega) rfl (by omega) (by omega) (Int.not_lt.2 (by assumption))
 exact Fin.BG (i+1) (DE)  (⟨⟨by omega,J7,by rw [←Ci,←I8 (by omega) hib,←Gi];exact congrArg _ OV⟩,by omega⟩) ⟨ke rfl,ke rfl,ke rfl,ke rfl,ke rfl,trivial⟩ (fun _ _ h=>h)
 refine ac ?_
 refine E5 0 1 2 3 8 9 34 rfl ?_
 refine a2 ?_
 have OV:DE.toArray=Go.Sort.insInner (BM c) a.toNat j.toNat DE.toArray:=by exact Kw h0 (by omega)
 exact Fin.BG (i+1) (DE)  (⟨⟨by omega,J7,by rw [←Ci,←I8 (by omega) hib,←Gi];exact congrArg _ OV⟩,by omega⟩) ⟨ke rfl,ke rfl,ke rfl,ke rfl,ke rfl,trivial⟩ (fun _ _ h=>h)
 have hib:¬i<b:=of_decide_eq_false h1
 rw [Ky (by omega) hib] at Ci
 refine Tr.exit (Fin.AG (Fin.AG (Fin.AX ?_)))
 refine Fin.BF (Br c a b l) 0 rfl (by unfold Br;rw [Ci];exact Go.Sort.insertionSort_holds hw l.toArray a.toNat b.toNat (by omega) (by simp only [List.size_toArray];omega)) ?_
 exact Fin.D0 rfl
theorem NJ {l:List AO} {c:AO×AO→Int} {b0 cap len:Nat} {sp:List Value} {lo hi first:Int} (Dc:l.length=len) (GU:len≤1000000) (h0:0≤lo) (hlo:lo≤len) (hf:0≤first) (hb:first+hi≤len):Am prog 197 [is (.slice (some ⟨b0,0,none⟩) len cap),int lo,int hi,int first,Dh prog (fun x:AO×AO=>[agg (AR x.1),agg (AR x.2)]) (fun x=>int (c x))] (Bx) (AB true b0 26 ((l.map AR).flatten++sp.map is)) (fun _=>BV b0 26 AR (FV c hi first lo l) (sp.map is)):=by
 refine Am.of func197 rfl rfl (by exact Nb rfl) fun M0 w0 S rs M1 w1=> ?_
 refine Tr.seq (Tr.BK (cm rfl (cm rfl (Ch.nil (Fin.go (Tr.block (Tr.Bk [(0,_),(2,_),(3,_),(4,_)] ⟨ke rfl,ke rfl,ke rfl,ke rfl,trivial⟩ (fun (r:Int) (st:List AO)=>[(10,int r)]) (fun (r:Int) (st:List AO)=>Hp M0 w0 S (AB true b0 26 ((st.map AR).flatten++sp.map is)::Aa M1 w1::rs)) (fun (r:Int) (st:List AO)=>(0≤r∧r≤1000000)∧st.length=len∧Go.Sort.siftDown (BM c) hi.toNat first.toNat r.toNat st.toArray=Go.Sort.siftDown (BM c) hi.toNat first.toNat lo.toNat l.toArray) (fun (r:Int) (st:List AO)=>(hi-r).toNat) (lo) (l)  (⟨⟨by omega,by omega⟩,by omega,rfl⟩) ⟨ke rfl,trivial⟩ (fun _ _ h=>h) ?_)))))))
 rintro r st  ⟨⟨Qn,Yz⟩,Fz,Ci⟩
 refine Tr.block (Tr.seq (Tr.BK (cm rfl ?_)))
 refine co rfl (DZ rfl (vl rfl) (vl rfl) ?hin) ?_;case hin=>unfold CR;omega
 refine IC rfl rfl rfl rfl (by omega) (cm rfl (Ch.nil (Fin.go (Tr.seq (Tr.seq (Tr.BK (cm rfl (cm rfl (co rfl (ki rfl rfl rfl rfl) (Ch.nil (Fin.go ?_)))))))))))
 refine Tr.cn rfl ?_ ?_<;>intro h1 q1
 refine Tr.exit (Fin.AG (Fin.Fi rfl (Fin.AG (Fin.AX ?_))))
 refine Fin.BF (FV c hi first lo l) 0 rfl (⟨by omega,by rw [←Ci];exact Mt (by omega) (by omega)⟩) ?_
 exact Fin.D0 rfl
 refine Tr.skip (Fin.go (Tr.seq (Tr.seq (Tr.Ic mixed (by kernel_rfl) (cm rfl (IC rfl rfl rfl rfl (by omega) (cm rfl (co rfl (ki rfl rfl rfl rfl) (cm rfl ?_)))))))))
 refine Ch.cs 23 rfl ?_ ?_<;>intro h2 q2
 iterate 4 refine CZ h2 rfl ?_
 refine cy h2 rfl (BE rfl (vl rfl) (vl rfl) ?hin) ?_;case hin=>unfold CR;omega
 refine cy h2 rfl (AA rfl underlying31 AH (vl rfl) (vl rfl) (by omega) (by omega)) (cy h2 rfl (Ai 0 rfl (AE rfl Ac AH (vl rfl) (AD (f:=AR) (fun _=>rfl) (by omega)) rfl)) (CZ h2 rfl (CZ h2 rfl (CZ h2 rfl ?_))))
 refine cy h2 rfl (BE rfl (vl rfl) (vl rfl) ?hin) ?_;case hin=>unfold CR;omega
 refine cy h2 rfl (BE rfl (vl rfl) (vl rfl) ?hin) ?_;case hin=>unfold CR;omega
 refine cy h2 rfl (AA rfl underlying31 AH (vl rfl) (vl rfl) (by omega) (by omega)) (cy h2 rfl (Ai 0 rfl (AE rfl Ac AH (vl rfl) (AD (f:=AR) (fun _=>rfl) (by omega)) rfl)) (cy h2 rfl (Af (_,_) rfl (vl rfl) ⟨ke rfl,ke rfl,trivial⟩) (cy h2 rfl (ki rfl rfl rfl rfl) (co rfl (KV rfl rfl h2 rfl) (Ch.nil (Fin.go (E5 0 2 3 4 10 11 40 rfl ?_)))))))
 refine Tr.cn rfl ?_ ?_<;>intro h3 q3
 refine Tr.BK (cm rfl (IC rfl rfl rfl rfl (by omega) (cm rfl (Ch.nil (Fin.go (Tr.seq (Tr.seq (Tr.Ic mixed (by kernel_rfl) ?_))))))))
 iterate 4 refine cm rfl ?_
 refine IC rfl rfl rfl rfl (by omega) (co rfl (AA rfl underlying31 AH (vl rfl) (vl rfl) (by omega) (by omega)) (co rfl (Ai 0 rfl (AE rfl Ac AH (vl rfl) (AD (f:=AR) (fun _=>rfl) (by omega)) rfl)) (cm rfl (cm rfl (cm rfl (IC rfl rfl rfl rfl (by omega) (co rfl (AA rfl underlying31 AH (vl rfl) (vl rfl) (by omega) (by omega)) (co rfl (Ai 0 rfl (AE rfl Ac AH (vl rfl) (AD (f:=AR) (fun _=>rfl) (by omega)) rfl)) (co rfl (Af (_,_) rfl (vl rfl) ⟨ke rfl,ke rfl,trivial⟩) (co rfl (ki rfl rfl rfl rfl) (co rfl (Ey rfl (vl rfl)) (Ch.nil (Fin.go ?_)))))))))))))
 refine E5 0 2 3 4 10 11 58 rfl ?_
 refine Tr.cn rfl ?_ ?_<;>intro h4 q4
 refine Tr.ret (Fin.AK (Fin.AS (Fin.AK (Fin.AS ?_))))
 refine Fin.BF (FV c hi first lo l) 0 rfl (⟨by omega,by rw [←Ci];exact Jn Qn hf (by omega) (u:=first+(2*r+1)) (v:=first+(2*r+1)+1) rfl rfl (by omega) (by omega) (by assumption) (x:=first+r) (y:=first+(2*r+1+1)) rfl rfl (by omega) (by omega) (Int.not_lt.2 (by assumption))⟩) ?_
 exact Fin.Db rfl
 refine Tr.skip (Fin.go (Tr.seq (Tr.JW mixed [none,none,none,none,none,none,none,none,none,none,none,none,none,some (0,0,false,0),none,none,none,none,none,some (0,0,false,0),none,some (0,0,true,0),none,some (0,0,true,0)] (by kernel_rfl) (xm rfl (xm rfl (xm rfl ?_))))))
 refine xo rfl (fun _=>BE rfl (vl rfl) (vl rfl) ?hin) ?_;case hin=>unfold CR;omega
 refine xm rfl (xm rfl (xm rfl ?_))
 refine xo rfl (fun _=>BE rfl (vl rfl) (vl rfl) ?hin) ?_;case hin=>unfold CR;omega
 refine xm rfl (xm rfl (xm rfl ?_))
 refine xo rfl (fun _=>BE rfl (vl rfl) (vl rfl) ?hin) ?_;case hin=>unfold CR;omega
 refine xo rfl (fun _=>AA rfl underlying31 AH (vl rfl) (vl rfl) (by omega) (by omega)) (CA 0 rfl rfl (AE rfl Ac AH (vl rfl) (AD (f:=AR) (fun _=>rfl) (by omega)) rfl) (xm rfl (xm rfl (xm rfl ?_))))
 refine xo rfl (fun _=>BE rfl (vl rfl) (vl rfl) ?hin) ?_;case hin=>unfold CR;omega
 refine xo rfl (fun _=>AA rfl underlying31 AH (vl rfl) (vl rfl) (by omega) (by omega)) (CA 0 rfl rfl (AE rfl Ac AH (vl rfl) (AD (f:=AR) (fun _=>rfl) (by omega)) rfl) (xo rfl (fun _=>AA rfl underlying31 AH (vl rfl) (vl rfl) (by omega) (by omega)) ?_))
 refine Cx.B4 0 rfl rfl (AU rfl rfl (vl rfl) (Va rfl) AH rfl (by rw [AV (sz:=11) (fun _=>rfl)];omega) (AP (f:=AR) (fun _=>rfl) (by omega))) ?_
 refine xo rfl (fun _=>AA rfl underlying31 AH (vl rfl) (vl rfl) (by omega) (by omega)) ?_
 refine Cx.B4 0 rfl rfl (AU rfl rfl (vl rfl) (Va rfl) AH rfl (by rw [AV (sz:=11) (fun _=>rfl)];simp only [List.length_set];omega) (AP (f:=AR) (fun _=>rfl) (by simp only [List.length_set];omega))) ?_
 refine Cx.nil ⟨rfl,?_⟩
 refine BT.done (B_.cons (B_.cons (B_.map _))) (Fin.go (Dv 0 2 3 4 11 rfl (Tr.BK (cm rfl (cm rfl (Ch.nil (Fin.block ?_)))))))
 exact Fin.BG (2*r+1+1) (_)  (⟨⟨⟨by omega,by omega⟩,by simp only [List.length_set];exact Fz,by rw [←Ci];exact Mu Qn hf (by omega) (u:=first+(2*r+1)) (v:=first+(2*r+1)+1) rfl rfl (by omega) (by omega) (by assumption) (by omega) (by omega) (by omega) (by omega) (by assumption)⟩,by omega⟩) ⟨ke rfl,ke rfl,ke rfl,ke rfl,ke rfl,trivial⟩ (fun _ _ h=>h)
 refine Tr.skip (Fin.go (Tr.seq (Tr.seq (Tr.Ic mixed (by kernel_rfl) ?_))))
 iterate 4 refine cm rfl ?_
 refine IC rfl rfl rfl rfl (by omega) (co rfl (AA rfl underlying31 AH (vl rfl) (vl rfl) (by omega) (by omega)) (co rfl (Ai 0 rfl (AE rfl Ac AH (vl rfl) (AD (f:=AR) (fun _=>rfl) (by omega)) rfl)) (cm rfl (cm rfl (cm rfl (IC rfl rfl rfl rfl (by omega) (co rfl (AA rfl underlying31 AH (vl rfl) (vl rfl) (by omega) (by omega)) (co rfl (Ai 0 rfl (AE rfl Ac AH (vl rfl) (AD (f:=AR) (fun _=>rfl) (by omega)) rfl)) (co rfl (Af (_,_) rfl (vl rfl) ⟨ke rfl,ke rfl,trivial⟩) (co rfl (ki rfl rfl rfl rfl) (co rfl (Ey rfl (vl rfl)) (Ch.nil (Fin.go ?_)))))))))))))
 refine E5 0 2 3 4 10 11 58 rfl ?_
 refine Tr.cn rfl ?_ ?_<;>intro h5 q5
 refine Tr.ret (Fin.AK (Fin.AS (Fin.AK (Fin.AS ?_))))
 refine Fin.BF (FV c hi first lo l) 0 rfl (⟨by omega,by rw [←Ci];exact II Qn hf (by omega) (u:=first+(2*r+1)) (v:=first+(2*r+1)+1) rfl rfl (by omega) (by omega) (Int.not_lt.2 (by assumption)) (x:=first+r) (y:=first+(2*r+1)) rfl rfl (by omega) (by omega) (Int.not_lt.2 (by assumption))⟩) ?_
 exact Fin.Db rfl
 refine Tr.skip (Fin.go (Tr.seq (Tr.JW mixed [none,none,none,none,none,none,none,none,none,none,none,none,none,some (0,0,false,0),none,none,none,none,none,some (0,0,false,0),none,some (0,0,true,0),none,some (0,0,true,0)] (by kernel_rfl) (xm rfl (xm rfl (xm rfl ?_))))))
 refine xo rfl (fun _=>BE rfl (vl rfl) (vl rfl) ?hin) ?_;case hin=>unfold CR;omega
 refine xm rfl (xm rfl (xm rfl ?_))
 refine xo rfl (fun _=>BE rfl (vl rfl) (vl rfl) ?hin) ?_;case hin=>unfold CR;omega
 refine xm rfl (xm rfl (xm rfl ?_))
 refine xo rfl (fun _=>BE rfl (vl rfl) (vl rfl) ?hin) ?_;case hin=>unfold CR;omega
 refine xo rfl (fun _=>AA rfl underlying31 AH (vl rfl) (vl rfl) (by omega) (by omega)) (CA 0 rfl rfl (AE rfl Ac AH (vl rfl) (AD (f:=AR) (fun _=>rfl) (by omega)) rfl) (xm rfl (xm rfl (xm rfl ?_))))
 refine xo rfl (fun _=>BE rfl (vl rfl) (vl rfl) ?hin) ?_;case hin=>unfold CR;omega
 refine xo rfl (fun _=>AA rfl underlying31 AH (vl rfl) (vl rfl) (by omega) (by omega)) (CA 0 rfl rfl (AE rfl Ac AH (vl rfl) (AD (f:=AR) (fun _=>rfl) (by omega)) rfl) (xo rfl (fun _=>AA rfl underlying31 AH (vl rfl) (vl rfl) (by omega) (by omega)) ?_))
 refine Cx.B4 0 rfl rfl (AU rfl rfl (vl rfl) (Va rfl) AH rfl (by rw [AV (sz:=11) (fun _=>rfl)];omega) (AP (f:=AR) (fun _=>rfl) (by omega))) ?_
 refine xo rfl (fun _=>AA rfl underlying31 AH (vl rfl) (vl rfl) (by omega) (by omega)) ?_
 refine Cx.B4 0 rfl rfl (AU rfl rfl (vl rfl) (Va rfl) AH rfl (by rw [AV (sz:=11) (fun _=>rfl)];simp only [List.length_set];omega) (AP (f:=AR) (fun _=>rfl) (by simp only [List.length_set];omega))) ?_
 refine Cx.nil ⟨rfl,?_⟩
 refine BT.done (B_.cons (B_.cons (B_.map _))) (Fin.go (Dv 0 2 3 4 11 rfl (Tr.BK (cm rfl (cm rfl (Ch.nil (Fin.block ?_)))))))
 exact Fin.BG (2*r+1) (_)  (⟨⟨⟨by omega,by omega⟩,by simp only [List.length_set];exact Fz,by rw [←Ci];exact K0 Qn hf (by omega) (u:=first+(2*r+1)) (v:=first+(2*r+1)+1) rfl rfl (by omega) (by omega) (Int.not_lt.2 (by assumption)) (by omega) (by omega) (by omega) (by omega) (by assumption)⟩,by omega⟩) ⟨ke rfl,ke rfl,ke rfl,ke rfl,ke rfl,trivial⟩ (fun _ _ h=>h)
 iterate 16 refine cnt h2 rfl ?_
 refine co rfl (Fb rfl rfl h2 rfl) (Ch.nil (Fin.go (E5 0 2 3 4 10 11 40 rfl (Tr.cond rfl (fun h=>nomatch h) (fun _=> ?_)))))
 refine Tr.skip (Fin.go (Tr.seq (Tr.seq (Tr.Ic mixed (by kernel_rfl) ?_))))
 iterate 4 refine cm rfl ?_
 refine IC rfl rfl rfl rfl (by omega) (co rfl (AA rfl underlying31 AH (vl rfl) (vl rfl) (by omega) (by omega)) (co rfl (Ai 0 rfl (AE rfl Ac AH (vl rfl) (AD (f:=AR) (fun _=>rfl) (by omega)) rfl)) (cm rfl (cm rfl (cm rfl (IC rfl rfl rfl rfl (by omega) (co rfl (AA rfl underlying31 AH (vl rfl) (vl rfl) (by omega) (by omega)) (co rfl (Ai 0 rfl (AE rfl Ac AH (vl rfl) (AD (f:=AR) (fun _=>rfl) (by omega)) rfl)) (co rfl (Af (_,_) rfl (vl rfl) ⟨ke rfl,ke rfl,trivial⟩) (co rfl (ki rfl rfl rfl rfl) (co rfl (Ey rfl (vl rfl)) (Ch.nil (Fin.go ?_)))))))))))))
 refine E5 0 2 3 4 10 11 58 rfl ?_
 refine Tr.cn rfl ?_ ?_<;>intro h6 q6
 refine Tr.ret (Fin.AK (Fin.AS (Fin.AK (Fin.AS ?_))))
 refine Fin.BF (FV c hi first lo l) 0 rfl (⟨by omega,by rw [←Ci];exact IG Qn hf (by omega) (by omega) (x:=first+r) (y:=first+(2*r+1)) rfl rfl (by omega) (by omega) (Int.not_lt.2 (by assumption))⟩) ?_
 exact Fin.Db rfl
 refine Tr.skip (Fin.go (Tr.seq (Tr.JW mixed [none,none,none,none,none,none,none,none,none,none,none,none,none,some (0,0,false,0),none,none,none,none,none,some (0,0,false,0),none,some (0,0,true,0),none,some (0,0,true,0)] (by kernel_rfl) (xm rfl (xm rfl (xm rfl ?_))))))
 refine xo rfl (fun _=>BE rfl (vl rfl) (vl rfl) ?hin) ?_;case hin=>unfold CR;omega
 refine xm rfl (xm rfl (xm rfl ?_))
 refine xo rfl (fun _=>BE rfl (vl rfl) (vl rfl) ?hin) ?_;case hin=>unfold CR;omega
 refine xm rfl (xm rfl (xm rfl ?_))
 refine xo rfl (fun _=>BE rfl (vl rfl) (vl rfl) ?hin) ?_;case hin=>unfold CR;omega
 refine xo rfl (fun _=>AA rfl underlying31 AH (vl rfl) (vl rfl) (by omega) (by omega)) (CA 0 rfl rfl (AE rfl Ac AH (vl rfl) (AD (f:=AR) (fun _=>rfl) (by omega)) rfl) (xm rfl (xm rfl (xm rfl ?_))))
 refine xo rfl (fun _=>BE rfl (vl rfl) (vl rfl) ?hin) ?_;case hin=>unfold CR;omega
 refine xo rfl (fun _=>AA rfl underlying31 AH (vl rfl) (vl rfl) (by omega) (by omega)) (CA 0 rfl rfl (AE rfl Ac AH (vl rfl) (AD (f:=AR) (fun _=>rfl) (by omega)) rfl) (xo rfl (fun _=>AA rfl underlying31 AH (vl rfl) (vl rfl) (by omega) (by omega)) ?_))
 refine Cx.B4 0 rfl rfl (AU rfl rfl (vl rfl) (Va rfl) AH rfl (by rw [AV (sz:=11) (fun _=>rfl)];omega) (AP (f:=AR) (fun _=>rfl) (by omega))) ?_
 refine xo rfl (fun _=>AA rfl underlying31 AH (vl rfl) (vl rfl) (by omega) (by omega)) ?_
 refine Cx.B4 0 rfl rfl (AU rfl rfl (vl rfl) (Va rfl) AH rfl (by rw [AV (sz:=11) (fun _=>rfl)];simp only [List.length_set];omega) (AP (f:=AR) (fun _=>rfl) (by simp only [List.length_set];omega))) ?_
 refine Cx.nil ⟨rfl,?_⟩
 refine BT.done (B_.cons (B_.cons (B_.map _))) (Fin.go (Dv 0 2 3 4 11 rfl (Tr.BK (cm rfl (cm rfl (Ch.nil (Fin.block ?_)))))))
 exact Fin.BG (2*r+1) (_)  (⟨⟨⟨by omega,by omega⟩,by simp only [List.length_set];exact Fz,by rw [←Ci];exact Kz Qn hf (by omega) (by omega) (by omega) (by omega) (by omega) (by omega) (by assumption)⟩,by omega⟩) ⟨ke rfl,ke rfl,ke rfl,ke rfl,ke rfl,trivial⟩ (fun _ _ h=>h)
theorem SZ {l:List AO} {c:AO×AO→Int} {b0 cap len:Nat} {sp:List Value} {a b:Int} (Dc:l.length=len) (GU:len≤1000000) (hw:Go.Sort.SWO (BM c)) (h0:0≤a) (hab:a≤b) (hb:b≤len):Am prog 165 [is (.slice (some ⟨b0,0,none⟩) len cap),int a,int b,Dh prog (fun x:AO×AO=>[agg (AR x.1),agg (AR x.2)]) (fun x=>int (c x))] (Bx) (AB true b0 26 ((l.map AR).flatten++sp.map is)) (fun _=>BV b0 26 AR (Br c a b l) (sp.map is)):=by
 refine Am.of func165 rfl rfl (by exact Nb rfl) fun M0 w0 S rs M1 w1=> ?_
 have hq:IntKind.i64.wrap ((b-a-1).tdiv 2)=(((b.toNat-a.toNat-1)/2:Nat):Int):=K2 (by omega) (by omega) (by omega)
 iterate 4 refine ac ?_
 refine co rfl (CC rfl (vl rfl) (vl rfl) (by omega)) ?_
 refine ac ?_
 refine Tr.block (Tr.Bk [(0,_),(3,_),(8,_),(9,_),(10,_)] ⟨ke rfl,ke rfl,ke rfl,ke rfl,ke rfl,trivial⟩ (fun (i:Int) (st:List AO)=>[(11,int i)]) (fun (i:Int) (st:List AO)=>Hp M0 w0 S (AB true b0 26 ((st.map AR).flatten++sp.map is)::Aa M1 w1::rs)) (fun (i:Int) (st:List AO)=>(-1≤i∧i≤b-a)∧st.length=len∧Go.Sort.heapBuild (BM c) (b-a).toNat a.toNat (i+1).toNat st.toArray=Go.Sort.heapBuild (BM c) (b-a).toNat a.toNat ((b.toNat-a.toNat-1)/2+1) l.toArray) (fun (i:Int) (st:List AO)=>(i+1).toNat) ((((b.toNat-a.toNat-1)/2:Nat):Int)) (l)  (⟨⟨by omega,by omega⟩,by omega,by rw [show ((((b.toNat-a.toNat-1)/2:Nat):Int)+1).toNat=(b.toNat-a.toNat-1)/2+1 by omega]⟩) ⟨⟨_,rfl,int_eq hq⟩,trivial⟩ (fun _ _ h=>h) ?_)
 rintro i st  ⟨⟨hi1,hi2⟩,Fz,Ci⟩
 refine an ?_ ?_<;>intro h1 q1
 have hib:0≤i:=of_decide_eq_true h1
 refine ac ?_
 refine ap ?_
 refine TO.Dn 0 rfl rfl (by decide) (Ah rfl rfl (by decide) rfl (NJ (by omega) (by omega) (by omega) (by omega) (by omega) (by omega)) ⟨ke rfl,ke rfl,ke rfl,ke rfl,ke rfl,trivial⟩) (TO.Bl 0 rfl fun t1 Di=> ?_)
 have Kj:=Di.len
 refine ap ?_
 refine D_ 0 3 8 9 10 11 rfl ?_
 refine ac ?_
 exact Fin.BG (i-1) (t1)  (⟨⟨⟨by omega,by omega⟩,by omega,by rw [Di.2];exact (Mv hib).trans Ci⟩,by omega⟩) ⟨ke rfl,ke rfl,ke rfl,ke rfl,ke rfl,ke rfl,trivial⟩ (fun _ _ h=>h)
 have hib:¬0≤i:=of_decide_eq_false h1
 rw [K1 hib] at Ci
 refine a2 ?_
 refine Tr.block (Tr.Bk [(0,_),(3,_),(8,_),(9,_)] ⟨ke rfl,ke rfl,ke rfl,ke rfl,trivial⟩ (fun (i2:Int) (DE:List AO)=>[(12,int i2)]) (fun (i2:Int) (DE:List AO)=>Hp M0 w0 S (AB true b0 26 ((DE.map AR).flatten++sp.map is)::Aa M1 w1::rs)) (fun (i2:Int) (DE:List AO)=>(-1≤i2∧i2<b-a)∧DE.length=len∧Go.Sort.heapPop (BM c) a.toNat (i2+1).toNat DE.toArray=Go.Sort.heapPop (BM c) a.toNat (b-a).toNat st.toArray) (fun (i2:Int) (DE:List AO)=>(i2+1).toNat) (b-a-1) (st)  (⟨⟨by omega,by omega⟩,by omega,by rw [show (b-a-1+1).toNat=(b-a).toNat by omega]⟩) ⟨ke rfl,trivial⟩ (fun _ _ h=>h) ?_)
 rintro i2 DE  ⟨⟨RC,hj2⟩,J7,Gi⟩
 refine an ?_ ?_<;>intro h2 q2
 have OW:0≤i2:=of_decide_eq_true h2
 refine ac ?_
 refine Tr.seq (Tr.block (Tr.seq (Tr.rx ?_)))
 refine ay ?_
 refine xo rfl (fun _=>AA rfl underlying31 AH (vl rfl) (vl rfl) (by omega) (by omega)) (CA 0 rfl rfl (AE rfl Ac AH (vl rfl) (AD (f:=AR) (fun _=>rfl) (by omega)) rfl) ?_)
 refine ay ?_
 refine xo rfl (fun _=>AA rfl underlying31 AH (vl rfl) (vl rfl) (by omega) (by omega)) (CA 0 rfl rfl (AE rfl Ac AH (vl rfl) (AD (f:=AR) (fun _=>rfl) (by omega)) rfl) (xo rfl (fun _=>AA rfl underlying31 AH (vl rfl) (vl rfl) (by omega) (by omega)) ?_))
 refine Cx.B4 0 rfl rfl (AU rfl rfl (vl rfl) (Va rfl) AH rfl (by rw [AV (sz:=11) (fun _=>rfl)];omega) (AP (f:=AR) (fun _=>rfl) (by omega))) ?_
 refine xo rfl (fun _=>AA rfl underlying31 AH (vl rfl) (vl rfl) (by omega) (by omega)) ?_
 refine Cx.B4 0 rfl rfl (AU rfl rfl (vl rfl) (Va rfl) AH rfl (by rw [AV (sz:=11) (fun _=>rfl)];simp only [List.length_set];omega) (AP (f:=AR) (fun _=>rfl) (by simp only [List.length_set];omega))) ?_
 refine Cx.nil ⟨by kernel_rfl,?_⟩
 refine BT.done IK (Fin.go (Dv 0 3 8 9 12 rfl ?_))
 refine ap ?_
 refine TO.Dn 0 rfl rfl (by decide) (Ah rfl rfl (by decide) rfl (NJ (by simp only [List.length_set];omega) (by omega) (by omega) (by omega) (by omega) (by omega)) ⟨ke rfl,ke rfl,ke rfl,ke rfl,ke rfl,trivial⟩) ?_
 refine TO.Bl 0 rfl fun t2 I7=> ?_
 have OX:=I7.len
 refine ap ?_
 refine ac ?_
 exact Fin.BG (i2-1) (t2)  (⟨⟨⟨by omega,by omega⟩,by simp only [List.length_set] at OX;omega,by rw [I7.2,sw (by omega) (by omega),show (a+i2).toNat=a.toNat+i2.toNat by omega];exact (Rv OW).trans Gi⟩,by omega⟩) ⟨ke rfl,ke rfl,ke rfl,ke rfl,ke rfl,trivial⟩ (fun _ _ h=>h)
 have OW:¬0≤i2:=of_decide_eq_false h2
 rw [PW OW] at Gi
 refine Tr.exit (Fin.AG (Fin.AG (Fin.AX ?_)))
 refine Fin.BF (Br c a b l) 0 rfl (by unfold Br;rw [Gi,Ci];exact heap_holds hw l.toArray h0 hab (by simp only [List.size_toArray];omega)) ?_
 exact Fin.D0 rfl
theorem Um {l:List AO} {c:AO×AO→Int} {b0 cap len:Nat} {sp:List Value} {a b:Int} (Dc:l.length=len) (GU:len≤1000000) (h0:0≤a) (hab:a<b) (hb:b≤len):Am prog 168 [is (.slice (some ⟨b0,0,none⟩) len cap),int a,int b,Dh prog (fun x:AO×AO=>[agg (AR x.1),agg (AR x.2)]) (fun x=>int (c x))] (Bx) (AB true b0 26 ((l.map AR).flatten++sp.map is)) (fun _=>BV b0 26 AR (Bg a b l) (sp.map is)):=by
 refine Am.of func168 rfl rfl (by exact Nb rfl) fun M0 w0 S rs M1 w1=> ?_
 refine a2 ?_
 refine Tr.block (Tr.Dz [(0,_)] ⟨ke rfl,trivial⟩ (fun (i:Int) (j:Int) (st:List AO)=>[(8,int i),(9,int j)]) (fun (i:Int) (j:Int) (st:List AO)=>Hp M0 w0 S (AB true b0 26 ((st.map AR).flatten++sp.map is)::Aa M1 w1::rs)) (fun (i:Int) (j:Int) (st:List AO)=>(a≤i∧j<b∧ -1≤j∧i≤b)∧st.length=len∧Bg a b l st) (fun (i:Int) (j:Int) (st:List AO)=>(j-i).toNat) (a) (b-1) (l)  (⟨⟨by omega,by omega,by omega,by omega⟩,by omega,Bg.refl _ _ _⟩) ⟨ke rfl,ke rfl,trivial⟩ (fun _ _ h=>h) ?_)
 rintro i j st  ⟨⟨hi1,hi2,Un,hi4⟩,Fz,Ci⟩
 refine an ?_ ?_<;>intro h1 q1
 have hij:i<j:=of_decide_eq_true h1
 refine ac ?_
 refine Tr.block (Tr.seq (Tr.rx ?_))
 refine ay ?_
 refine xo rfl (fun _=>AA rfl underlying31 AH (vl rfl) (vl rfl) (by omega) (by omega)) (CA 0 rfl rfl (AE rfl Ac AH (vl rfl) (AD (f:=AR) (fun _=>rfl) (by omega)) rfl) ?_)
 refine ay ?_
 refine xo rfl (fun _=>AA rfl underlying31 AH (vl rfl) (vl rfl) (by omega) (by omega)) (CA 0 rfl rfl (AE rfl Ac AH (vl rfl) (AD (f:=AR) (fun _=>rfl) (by omega)) rfl) (xo rfl (fun _=>AA rfl underlying31 AH (vl rfl) (vl rfl) (by omega) (by omega)) ?_))
 refine Cx.B4 0 rfl rfl (AU rfl rfl (vl rfl) (Va rfl) AH rfl (by rw [AV (sz:=11) (fun _=>rfl)];omega) (AP (f:=AR) (fun _=>rfl) (by omega))) ?_
 refine xo rfl (fun _=>AA rfl underlying31 AH (vl rfl) (vl rfl) (by omega) (by omega)) ?_
 refine Cx.B4 0 rfl rfl (AU rfl rfl (vl rfl) (Va rfl) AH rfl (by rw [AV (sz:=11) (fun _=>rfl)];simp only [List.length_set];omega) (AP (f:=AR) (fun _=>rfl) (by simp only [List.length_set];omega))) ?_
 refine Cx.nil ⟨by kernel_rfl,?_⟩
 refine BT.done IK (Fin.go (Wh 0 8 9 rfl ?_))
 refine a2 ?_
 exact Fin.Ck (i+1) (j-1) (_)  (⟨⟨⟨by omega,by omega,by omega,by omega⟩,by simp only [List.length_set];exact Fz,Ci.swap (by omega) (by omega) (by omega) (by omega) (by omega) (by omega) (by omega)⟩,by omega⟩) ⟨ke rfl,ke rfl,ke rfl,trivial⟩ (fun _ _ h=>h)
 have:=h1
 refine Tr.exit (Fin.AG (Fin.AG (Fin.AX (Fin.BF (Bg a b l) 0 rfl (Ci) (Fin.D0 rfl)))))
theorem Uo {l:List AO} {c:AO×AO→Int} {b0 cap len:Nat} {sp:List Value} {a b pv:Int} (Dc:l.length=len) (GU:len≤1000000) (h0:0≤a) (hab:a<b) (hb:b≤len) (Di:a≤pv) (I7:pv<b):Am prog 170 [is (.slice (some ⟨b0,0,none⟩) len cap),int a,int b,int pv,Dh prog (fun x:AO×AO=>[agg (AR x.1),agg (AR x.2)]) (fun x=>int (c x))] (int ((PE c a b pv l).1:Nat)) (AB true b0 26 ((l.map AR).flatten++sp.map is)) (fun _=>BV b0 26 AR (Jp c a b pv l) (sp.map is)):=by
 refine Am.of func170 rfl rfl (by exact Nb rfl) fun M0 w0 S rs M1 w1=> ?_
 have EB:a.toNat<l.length:=by omega
 have DR:pv.toNat<l.length:=by omega
 refine ac ?_
 refine Tr.seq (Tr.rx ?_)
 refine ay ?_
 refine xo rfl (fun _=>AA rfl underlying31 AH (vl rfl) (vl rfl) (by omega) (by omega)) (CA 0 rfl rfl (AE rfl Ac AH (vl rfl) (AD (f:=AR) (fun _=>rfl) (by omega)) rfl) ?_)
 refine ay ?_
 refine xo rfl (fun _=>AA rfl underlying31 AH (vl rfl) (vl rfl) (by omega) (by omega)) (CA 0 rfl rfl (AE rfl Ac AH (vl rfl) (AD (f:=AR) (fun _=>rfl) (by omega)) rfl) (xo rfl (fun _=>AA rfl underlying31 AH (vl rfl) (vl rfl) (by omega) (by omega)) ?_))
 refine Cx.B4 0 rfl rfl (AU rfl rfl (vl rfl) (Va rfl) AH rfl (by rw [AV (sz:=11) (fun _=>rfl)];omega) (AP (f:=AR) (fun _=>rfl) (by omega))) ?_
 refine xo rfl (fun _=>AA rfl underlying31 AH (vl rfl) (vl rfl) (by omega) (by omega)) ?_
 refine Cx.B4 0 rfl rfl (AU rfl rfl (vl rfl) (Va rfl) AH rfl (by rw [AV (sz:=11) (fun _=>rfl)];simp only [List.length_set];omega) (AP (f:=AR) (fun _=>rfl) (by simp only [List.length_set];omega))) ?_
 refine Cx.nil ⟨by kernel_rfl,?_⟩
 refine BT.done IK (Fin.go (Ks 0 1 2 4 rfl ?_))
 refine ac ?_
 refine Tr.seq (Tr.block ?_)
 refine Tr.Dz [(0,_),(1,_),(4,_)] ⟨ke rfl,ke rfl,ke rfl,trivial⟩ (fun (i:Int) (j:Int) (st:List AO)=>[(11,int i),(12,int j)]) (fun (i:Int) (j:Int) (st:List AO)=>Hp M0 w0 S (AB true b0 26 ((st.map AR).flatten++sp.map is)::Aa M1 w1::rs)) (fun (i:Int) (j:Int) (st:List AO)=>((a<i∧i≤b)∧a≤j∧j<b)∧st.length=len∧WE c a i j st.toArray=PE c a b pv l) (fun (i:Int) (j:Int) (st:List AO)=>(j-i+2).toNat) (a+1) (b-1) (((l.set a.toNat (l[pv.toNat]'DR)).set pv.toNat (l[a.toNat]'EB)))  (⟨⟨⟨by omega,by omega⟩,by omega,by omega⟩,by simp only [List.length_set];exact Dc,Mw h0 hab EB DR⟩) ⟨ke rfl,ke rfl,trivial⟩ (fun _ _ h=>h) ?_
 rintro i j st  ⟨⟨⟨hi1,hi2⟩,RC,hj2⟩,Fz,Ci⟩
 refine Tr.block (Dv 0 1 4 11 12 rfl (Tr.FZ [0,1,4,12] [(11,ex fun y:Int=>fact ((i≤y∧y≤b)∧True∧y.toNat=Go.Sort.scanUp (qU c st.toArray a) st.toArray (j).toNat (i).toNat) (int y))] (True) ?_ (fun h1=> ?_)))
 refine Tr.block (Tr.BX [(0,_),(1,_),(4,_),(12,_)] (PL rfl) (fun y:Int=>[(11,int y)]) (fun y:Int=>(i≤y∧y≤b)∧Go.Sort.scanUp (qU c st.toArray a) st.toArray (j).toNat (y).toNat=Go.Sort.scanUp (qU c st.toArray a) st.toArray (j).toNat (i).toNat) (fun y:Int=>(b-y).toNat) i (⟨⟨by omega,by omega⟩,rfl⟩) ⟨ke rfl,trivial⟩ ?_)
 rintro y ⟨⟨NK,NL⟩,CT⟩
 refine ag ?_ ?_<;>intro h2 q2
 refine ac ?_
 refine cy h2 rfl (AA rfl underlying31 AH (vl rfl) (vl rfl) (by omega) (by omega)) (cy h2 rfl (Ai 0 rfl (AE rfl Ac AH (vl rfl) (AD (f:=AR) (fun _=>rfl) (by omega)) rfl)) ?_)
 refine ac ?_
 refine cy h2 rfl (AA rfl underlying31 AH (vl rfl) (vl rfl) (by omega) (by omega)) (cy h2 rfl (Ai 0 rfl (AE rfl Ac AH (vl rfl) (AD (f:=AR) (fun _=>rfl) (by omega)) rfl)) (cy h2 rfl (Af (_,_) rfl (vl rfl) ⟨ke rfl,ke rfl,trivial⟩) ?_))
 refine ac ?_
 refine D_ 0 1 4 11 12 47 rfl ?_
 refine Tr.cn rfl ?_ ?_<;>intro h3 q3
 have:=h3
 refine a2 ?_
 exact Fin.AF (y+1) ⟨⟨⟨by omega,by omega⟩,by rw [K3 (by omega) (by omega) (by omega) (ZT (by omega) (by omega) (Int.not_lt.2 (by assumption)))];exact CT⟩,by omega⟩ (N9 rfl)
 have:=h3
 refine Tr.exit (Fin.AG (Fin.AG (Fin.AX ?_)))
 exact Fin.AF () trivial ⟨⟨_,rfl,A3 _ (Ae ⟨⟨by omega,by omega⟩,trivial,by rw [←CT];exact (Ek (by omega) (ZU (by omega) (by omega) (by assumption))).symm⟩ (Lr))⟩,ke rfl,ke rfl,ke rfl,ke rfl,trivial⟩
 refine ac ?_
 refine D_ 0 1 4 11 12 47 rfl (Tr.cond rfl (fun h=>nomatch h) (fun _=> ?_))
 refine Tr.exit (Fin.AG (Fin.AG (Fin.AX ?_)))
 exact Fin.AF () trivial ⟨⟨_,rfl,A3 _ (Ae ⟨⟨by omega,by omega⟩,trivial,by rw [←CT];exact (Ej (by omega) (by omega)).symm⟩ (Lr))⟩,ke rfl,ke rfl,ke rfl,ke rfl,trivial⟩
 refine Tr.ex 11 rfl (fun i2=>Tr.fact 11 rfl fun OY=> ?_)
 obtain ⟨Sa,Sb,D4⟩:=OY
 refine Dv 0 1 4 11 12 rfl (Tr.FZ [0,1,4,11] [(12,ex fun y:Int=>fact ((a≤y∧y≤j)∧True∧y.toNat=Go.Sort.scanDown (qD c st.toArray a) st.toArray (i2).toNat (j).toNat) (int y))] (True) ?_ (fun h4=> ?_))
 refine Tr.block (Tr.BX [(0,_),(1,_),(4,_),(11,_)] (PL rfl) (fun y:Int=>[(12,int y)]) (fun y:Int=>(a≤y∧y≤j)∧Go.Sort.scanDown (qD c st.toArray a) st.toArray (i2).toNat (y).toNat=Go.Sort.scanDown (qD c st.toArray a) st.toArray (i2).toNat (j).toNat) (fun y:Int=>(y-a).toNat) j (⟨⟨by omega,by omega⟩,rfl⟩) ⟨ke rfl,trivial⟩ ?_)
 rintro y ⟨⟨NM,NN⟩,CU⟩
 refine ag ?_ ?_<;>intro h5 q5
 refine ac ?_
 refine cy h5 rfl (AA rfl underlying31 AH (vl rfl) (vl rfl) (by omega) (by omega)) (cy h5 rfl (Ai 0 rfl (AE rfl Ac AH (vl rfl) (AD (f:=AR) (fun _=>rfl) (by omega)) rfl)) ?_)
 refine ac ?_
 refine cy h5 rfl (AA rfl underlying31 AH (vl rfl) (vl rfl) (by omega) (by omega)) (cy h5 rfl (Ai 0 rfl (AE rfl Ac AH (vl rfl) (AD (f:=AR) (fun _=>rfl) (by omega)) rfl)) (cy h5 rfl (Af (_,_) rfl (vl rfl) ⟨ke rfl,ke rfl,trivial⟩) ?_))
 refine ac ?_
 refine D_ 0 1 4 11 12 65 rfl ?_
 refine Tr.cn rfl ?_ ?_<;>intro h6 q6
 have:=h6
 refine a2 ?_
 exact Fin.AF (y-1) ⟨⟨⟨by omega,by omega⟩,by rw [K4 (by omega) (by omega) (by omega) (ZV (by omega) (by omega) (by assumption))];exact CU⟩,by omega⟩ (N9 rfl)
 have:=h6
 refine Tr.exit (Fin.AG (Fin.AG (Fin.AX ?_)))
 exact Fin.AF () trivial ⟨⟨_,rfl,A3 _ (Ae ⟨⟨by omega,by omega⟩,trivial,by rw [←CU];exact (Em (by omega) (ZW (by omega) (by omega) (Int.not_lt.2 (by assumption)))).symm⟩ (Lr))⟩,ke rfl,ke rfl,ke rfl,ke rfl,trivial⟩
 refine ac ?_
 refine D_ 0 1 4 11 12 65 rfl (Tr.cond rfl (fun h=>nomatch h) (fun _=> ?_))
 refine Tr.exit (Fin.AG (Fin.AG (Fin.AX ?_)))
 exact Fin.AF () trivial ⟨⟨_,rfl,A3 _ (Ae ⟨⟨by omega,by omega⟩,trivial,by rw [←CU];exact (El (by omega) (by omega)).symm⟩ (Lr))⟩,ke rfl,ke rfl,ke rfl,ke rfl,trivial⟩
 refine Tr.ex 12 rfl (fun j2=>Tr.fact 12 rfl fun OZ=> ?_)
 obtain ⟨Sc,Sd,D5⟩:=OZ
 refine an ?_ ?_<;>intro h7 q7
 refine a2 ?_
 refine Tr.ret (Fin.BF (Jp c a b pv l) 0 rfl (⟨by omega,by rw [Ci.symm.trans (Gx D4 D5 (by omega) (by omega))]⟩) ?_)
 have hE:=Ci.symm.trans (Gx D4 D5 (by omega) (by omega))
 refine Fin.Bw rfl rfl ?_ (fun _ _ _ _=>rfl)
 · exact int_eq (by rw [hE];show i2=((i2.toNat:Nat):Int);omega)
 refine ac ?_
 refine Tr.seq (Tr.rx ?_)
 refine ay ?_
 refine xo rfl (fun _=>AA rfl underlying31 AH (vl rfl) (vl rfl) (by omega) (by omega)) (CA 0 rfl rfl (AE rfl Ac AH (vl rfl) (AD (f:=AR) (fun _=>rfl) (by omega)) rfl) ?_)
 refine ay ?_
 refine xo rfl (fun _=>AA rfl underlying31 AH (vl rfl) (vl rfl) (by omega) (by omega)) (CA 0 rfl rfl (AE rfl Ac AH (vl rfl) (AD (f:=AR) (fun _=>rfl) (by omega)) rfl) (xo rfl (fun _=>AA rfl underlying31 AH (vl rfl) (vl rfl) (by omega) (by omega)) ?_))
 refine Cx.B4 0 rfl rfl (AU rfl rfl (vl rfl) (Va rfl) AH rfl (by rw [AV (sz:=11) (fun _=>rfl)];omega) (AP (f:=AR) (fun _=>rfl) (by omega))) ?_
 refine xo rfl (fun _=>AA rfl underlying31 AH (vl rfl) (vl rfl) (by omega) (by omega)) ?_
 refine Cx.B4 0 rfl rfl (AU rfl rfl (vl rfl) (Va rfl) AH rfl (by rw [AV (sz:=11) (fun _=>rfl)];simp only [List.length_set];omega) (AP (f:=AR) (fun _=>rfl) (by simp only [List.length_set];omega))) ?_
 refine Cx.nil ⟨by kernel_rfl,?_⟩
 refine BT.done IK (Fin.go (Dv 0 1 4 11 12 rfl ?_))
 refine a2 ?_
 exact Fin.Ck (i2+1) (j2-1) (_)  (⟨⟨⟨⟨by omega,by omega⟩,by omega,by omega⟩,by simp only [List.length_set];exact Fz,(Rw D4 D5 (by omega) (by omega) (by omega) (by omega)).trans Ci⟩,by omega⟩) ⟨ke rfl,ke rfl,ke rfl,ke rfl,ke rfl,trivial⟩ (fun _ _ h=>h)
theorem NO {l:List AO} {c:AO×AO→Int} {b0 cap len:Nat} {sp:List Value} {a b pv:Int} (Dc:l.length=len) (GU:len≤1000000) (h0:0≤a) (hab:a<b) (hb:b≤len) (Di:a≤pv) (I7:pv<b):Am prog 171 [is (.slice (some ⟨b0,0,none⟩) len cap),int a,int b,int pv,Dh prog (fun x:AO×AO=>[agg (AR x.1),agg (AR x.2)]) (fun x=>int (c x))] (ex fun z:Bool=>fact True (ER [int ((PA c a b pv l).1:Nat),bool z])) (AB true b0 26 ((l.map AR).flatten++sp.map is)) (fun _=>BV b0 26 AR (Gy c a b pv l) (sp.map is)):=by
 refine Am.of func171 rfl rfl (by exact Nb rfl) fun M0 w0 S rs M1 w1=> ?_
 have EB:a.toNat<l.length:=by omega
 have DR:pv.toNat<l.length:=by omega
 have hS1:((l.set a.toNat (l[pv.toNat]'DR)).set pv.toNat (l[a.toNat]'EB)).length=len:=by simp only [List.length_set];exact Dc
 refine ac ?_
 refine Tr.seq (Tr.rx ?_)
 refine ay ?_
 refine xo rfl (fun _=>AA rfl underlying31 AH (vl rfl) (vl rfl) (by omega) (by omega)) (CA 0 rfl rfl (AE rfl Ac AH (vl rfl) (AD (f:=AR) (fun _=>rfl) (by omega)) rfl) ?_)
 refine ay ?_
 refine xo rfl (fun _=>AA rfl underlying31 AH (vl rfl) (vl rfl) (by omega) (by omega)) (CA 0 rfl rfl (AE rfl Ac AH (vl rfl) (AD (f:=AR) (fun _=>rfl) (by omega)) rfl) (xo rfl (fun _=>AA rfl underlying31 AH (vl rfl) (vl rfl) (by omega) (by omega)) ?_))
 refine Cx.B4 0 rfl rfl (AU rfl rfl (vl rfl) (Va rfl) AH rfl (by rw [AV (sz:=11) (fun _=>rfl)];omega) (AP (f:=AR) (fun _=>rfl) (by omega))) ?_
 refine xo rfl (fun _=>AA rfl underlying31 AH (vl rfl) (vl rfl) (by omega) (by omega)) ?_
 refine Cx.B4 0 rfl rfl (AU rfl rfl (vl rfl) (Va rfl) AH rfl (by rw [AV (sz:=11) (fun _=>rfl)];simp only [List.length_set];omega) (AP (f:=AR) (fun _=>rfl) (by simp only [List.length_set];omega))) ?_
 refine Cx.nil ⟨by kernel_rfl,?_⟩
 refine BT.done IK (Fin.go (Ks 0 1 2 4 rfl ?_))
 refine ac ?_
 refine Dv 0 1 4 12 13 rfl (Tr.FZ [0,1,4,13] [(12,ex fun y:Int=>fact (((a+1)≤y∧y≤b)∧True∧y.toNat=Go.Sort.scanUp (pU c ((l.set a.toNat (l[pv.toNat]'DR)).set pv.toNat (l[a.toNat]'EB)).toArray a) ((l.set a.toNat (l[pv.toNat]'DR)).set pv.toNat (l[a.toNat]'EB)).toArray ((b-1)).toNat ((a+1)).toNat) (int y))] (True) ?_ (fun h1=> ?_))
 refine Tr.block (Tr.BX [(0,_),(1,_),(4,_),(13,_)] (PL rfl) (fun y:Int=>[(12,int y)]) (fun y:Int=>((a+1)≤y∧y≤b)∧Go.Sort.scanUp (pU c ((l.set a.toNat (l[pv.toNat]'DR)).set pv.toNat (l[a.toNat]'EB)).toArray a) ((l.set a.toNat (l[pv.toNat]'DR)).set pv.toNat (l[a.toNat]'EB)).toArray ((b-1)).toNat (y).toNat=Go.Sort.scanUp (pU c ((l.set a.toNat (l[pv.toNat]'DR)).set pv.toNat (l[a.toNat]'EB)).toArray a) ((l.set a.toNat (l[pv.toNat]'DR)).set pv.toNat (l[a.toNat]'EB)).toArray ((b-1)).toNat ((a+1)).toNat) (fun y:Int=>(b-y).toNat) (a+1) (⟨⟨by omega,by omega⟩,rfl⟩) ⟨ke rfl,trivial⟩ ?_)
 rintro y ⟨⟨NK,NL⟩,CT⟩
 refine ag ?_ ?_<;>intro h2 q2
 refine ac ?_
 refine cy h2 rfl (AA rfl underlying31 AH (vl rfl) (vl rfl) (by omega) (by omega)) (cy h2 rfl (Ai 0 rfl (AE rfl Ac AH (vl rfl) (AD (f:=AR) (fun _=>rfl) (by omega)) rfl)) ?_)
 refine ac ?_
 refine cy h2 rfl (AA rfl underlying31 AH (vl rfl) (vl rfl) (by omega) (by omega)) (cy h2 rfl (Ai 0 rfl (AE rfl Ac AH (vl rfl) (AD (f:=AR) (fun _=>rfl) (by omega)) rfl)) (cy h2 rfl (Af (_,_) rfl (vl rfl) ⟨ke rfl,ke rfl,trivial⟩) ?_))
 refine ac ?_
 refine D_ 0 1 4 12 13 47 rfl ?_
 refine Tr.cn rfl ?_ ?_<;>intro h3 q3
 have:=h3
 refine a2 ?_
 exact Fin.AF (y+1) ⟨⟨⟨by omega,by omega⟩,by rw [K3 (by omega) (by omega) (by omega) (UH (by omega) (by omega) (by assumption))];exact CT⟩,by omega⟩ (N9 rfl)
 have:=h3
 refine Tr.exit (Fin.AG (Fin.AG (Fin.AX ?_)))
 exact Fin.AF () trivial ⟨⟨_,rfl,A3 _ (Ae ⟨⟨by omega,by omega⟩,trivial,by rw [←CT];exact (Ek (by omega) (UI (by omega) (by omega) (Int.not_lt.2 (by assumption)))).symm⟩ (Lr))⟩,ke rfl,ke rfl,ke rfl,ke rfl,trivial⟩
 refine ac ?_
 refine D_ 0 1 4 12 13 47 rfl (Tr.cond rfl (fun h=>nomatch h) (fun _=> ?_))
 refine Tr.exit (Fin.AG (Fin.AG (Fin.AX ?_)))
 exact Fin.AF () trivial ⟨⟨_,rfl,A3 _ (Ae ⟨⟨by omega,by omega⟩,trivial,by rw [←CT];exact (Ej (by omega) (by omega)).symm⟩ (Lr))⟩,ke rfl,ke rfl,ke rfl,ke rfl,trivial⟩
 refine Tr.ex 12 rfl (fun i1=>Tr.fact 12 rfl fun Xg=> ?_)
 obtain ⟨aW,aX,J8⟩:=Xg
 refine Dv 0 1 4 12 13 rfl (Tr.FZ [0,1,4,12] [(13,ex fun y:Int=>fact ((a≤y∧y≤(b-1))∧True∧y.toNat=Go.Sort.scanDown (pD c ((l.set a.toNat (l[pv.toNat]'DR)).set pv.toNat (l[a.toNat]'EB)).toArray a) ((l.set a.toNat (l[pv.toNat]'DR)).set pv.toNat (l[a.toNat]'EB)).toArray (i1).toNat ((b-1)).toNat) (int y))] (True) ?_ (fun h4=> ?_))
 refine Tr.block (Tr.BX [(0,_),(1,_),(4,_),(12,_)] (PL rfl) (fun y:Int=>[(13,int y)]) (fun y:Int=>(a≤y∧y≤(b-1))∧Go.Sort.scanDown (pD c ((l.set a.toNat (l[pv.toNat]'DR)).set pv.toNat (l[a.toNat]'EB)).toArray a) ((l.set a.toNat (l[pv.toNat]'DR)).set pv.toNat (l[a.toNat]'EB)).toArray (i1).toNat (y).toNat=Go.Sort.scanDown (pD c ((l.set a.toNat (l[pv.toNat]'DR)).set pv.toNat (l[a.toNat]'EB)).toArray a) ((l.set a.toNat (l[pv.toNat]'DR)).set pv.toNat (l[a.toNat]'EB)).toArray (i1).toNat ((b-1)).toNat) (fun y:Int=>(y-a).toNat) (b-1) (⟨⟨by omega,by omega⟩,rfl⟩) ⟨ke rfl,trivial⟩ ?_)
 rintro y ⟨⟨NM,NN⟩,CU⟩
 refine ag ?_ ?_<;>intro h5 q5
 refine ac ?_
 refine cy h5 rfl (AA rfl underlying31 AH (vl rfl) (vl rfl) (by omega) (by omega)) (cy h5 rfl (Ai 0 rfl (AE rfl Ac AH (vl rfl) (AD (f:=AR) (fun _=>rfl) (by omega)) rfl)) ?_)
 refine ac ?_
 refine cy h5 rfl (AA rfl underlying31 AH (vl rfl) (vl rfl) (by omega) (by omega)) (cy h5 rfl (Ai 0 rfl (AE rfl Ac AH (vl rfl) (AD (f:=AR) (fun _=>rfl) (by omega)) rfl)) (cy h5 rfl (Af (_,_) rfl (vl rfl) ⟨ke rfl,ke rfl,trivial⟩) ?_))
 refine ac ?_
 refine D_ 0 1 4 12 13 66 rfl ?_
 refine Tr.cn rfl ?_ ?_<;>intro h6 q6
 have:=h6
 refine a2 ?_
 exact Fin.AF (y-1) ⟨⟨⟨by omega,by omega⟩,by rw [K4 (by omega) (by omega) (by omega) (UJ (by omega) (by omega) (Int.not_lt.2 (by assumption)))];exact CU⟩,by omega⟩ (N9 rfl)
 have:=h6
 refine Tr.exit (Fin.AG (Fin.AG (Fin.AX ?_)))
 exact Fin.AF () trivial ⟨⟨_,rfl,A3 _ (Ae ⟨⟨by omega,by omega⟩,trivial,by rw [←CU];exact (Em (by omega) (UK (by omega) (by omega) (by assumption))).symm⟩ (Lr))⟩,ke rfl,ke rfl,ke rfl,ke rfl,trivial⟩
 refine ac ?_
 refine D_ 0 1 4 12 13 66 rfl (Tr.cond rfl (fun h=>nomatch h) (fun _=> ?_))
 refine Tr.exit (Fin.AG (Fin.AG (Fin.AX ?_)))
 exact Fin.AF () trivial ⟨⟨_,rfl,A3 _ (Ae ⟨⟨by omega,by omega⟩,trivial,by rw [←CU];exact (El (by omega) (by omega)).symm⟩ (Lr))⟩,ke rfl,ke rfl,ke rfl,ke rfl,trivial⟩
 refine Tr.ex 13 rfl (fun j1=>Tr.fact 13 rfl fun Xh=> ?_)
 obtain ⟨aY,aZ,J9⟩:=Xh
 refine an ?_ ?_<;>intro h7 q7
 refine Tr.seq (Tr.rx ?_)
 refine ay ?_
 refine xo rfl (fun _=>AA rfl underlying31 AH (vl rfl) (vl rfl) (by omega) (by omega)) (CA 0 rfl rfl (AE rfl Ac AH (vl rfl) (AD (f:=AR) (fun _=>rfl) (by omega)) rfl) ?_)
 refine ay ?_
 refine xo rfl (fun _=>AA rfl underlying31 AH (vl rfl) (vl rfl) (by omega) (by omega)) (CA 0 rfl rfl (AE rfl Ac AH (vl rfl) (AD (f:=AR) (fun _=>rfl) (by omega)) rfl) (xo rfl (fun _=>AA rfl underlying31 AH (vl rfl) (vl rfl) (by omega) (by omega)) ?_))
 refine Cx.B4 0 rfl rfl (AU rfl rfl (vl rfl) (Va rfl) AH rfl (by rw [AV (sz:=11) (fun _=>rfl)];omega) (AP (f:=AR) (fun _=>rfl) (by omega))) ?_
 refine xo rfl (fun _=>AA rfl underlying31 AH (vl rfl) (vl rfl) (by omega) (by omega)) ?_
 refine Cx.B4 0 rfl rfl (AU rfl rfl (vl rfl) (Va rfl) AH rfl (by rw [AV (sz:=11) (fun _=>rfl)];simp only [List.length_set];omega) (AP (f:=AR) (fun _=>rfl) (by simp only [List.length_set];omega))) ?_
 refine Cx.nil ⟨by kernel_rfl,?_⟩
 refine BT.done IK (Fin.go (Cc 13 rfl ?_))
 refine ac ?_
 refine Tr.ret (Fin.AK (Fin.BF (Gy c a b pv l) 0 rfl (⟨by simp only [List.length_set],(DV h0 hab EB DR (Ct J8 J9 (by omega) (by omega)) (by omega) (by omega)).2⟩) (Fin.Cs [] rfl (Bc.tmp rfl (Lr)) (Bc.tmp rfl (Lr)) ?_)))
 · exact A3 true (Ae trivial (Pr.le_of_eq (by rw [(DV h0 hab EB DR (Ct J8 J9 (by omega) (by omega)) (by omega) (by omega)).1,Int.toNat_of_nonneg (by omega)])))
 refine ac ?_
 refine Tr.seq (Tr.rx ?_)
 refine ay ?_
 refine xo rfl (fun _=>AA rfl underlying31 AH (vl rfl) (vl rfl) (by omega) (by omega)) (CA 0 rfl rfl (AE rfl Ac AH (vl rfl) (AD (f:=AR) (fun _=>rfl) (by omega)) rfl) ?_)
 refine ay ?_
 refine xo rfl (fun _=>AA rfl underlying31 AH (vl rfl) (vl rfl) (by omega) (by omega)) (CA 0 rfl rfl (AE rfl Ac AH (vl rfl) (AD (f:=AR) (fun _=>rfl) (by omega)) rfl) (xo rfl (fun _=>AA rfl underlying31 AH (vl rfl) (vl rfl) (by omega) (by omega)) ?_))
 refine Cx.B4 0 rfl rfl (AU rfl rfl (vl rfl) (Va rfl) AH rfl (by rw [AV (sz:=11) (fun _=>rfl)];omega) (AP (f:=AR) (fun _=>rfl) (by omega))) ?_
 refine xo rfl (fun _=>AA rfl underlying31 AH (vl rfl) (vl rfl) (by omega) (by omega)) ?_
 refine Cx.B4 0 rfl rfl (AU rfl rfl (vl rfl) (Va rfl) AH rfl (by rw [AV (sz:=11) (fun _=>rfl)];simp only [List.length_set];omega) (AP (f:=AR) (fun _=>rfl) (by simp only [List.length_set];omega))) ?_
 refine Cx.nil ⟨by kernel_rfl,?_⟩
 refine BT.done IK (Fin.go (Dv 0 1 4 12 13 rfl ?_))
 refine a2 ?_
 refine Tr.seq (Tr.block ?_)
 refine Tr.Dz [(0,_),(1,_),(4,_)] ⟨ke rfl,ke rfl,ke rfl,trivial⟩ (fun (i:Int) (j:Int) (st:List AO)=>[(12,int i),(13,int j)]) (fun (i:Int) (j:Int) (st:List AO)=>Hp M0 w0 S (AB true b0 26 ((st.map AR).flatten++sp.map is)::Aa M1 w1::rs)) (fun (i:Int) (j:Int) (st:List AO)=>((a<i∧i≤b)∧a≤j∧j<b)∧st.length=len∧Tj c a i j st.toArray=Tj c a (a+1) (b-1) ((l.set a.toNat (l[pv.toNat]'DR)).set pv.toNat (l[a.toNat]'EB)).toArray) (fun (i:Int) (j:Int) (st:List AO)=>(j-i+2).toNat) (i1+1) (j1-1) (_)  (⟨⟨⟨by omega,by omega⟩,by omega,by omega⟩,by simp only [List.length_set];exact Dc,I9 J8 J9 (by omega) (by omega) (by omega) (by omega)⟩) ⟨ke rfl,ke rfl,trivial⟩ (fun _ _ h=>h) ?_
 rintro i j st  ⟨⟨⟨hi1,hi2⟩,RC,hj2⟩,Fz,Ci⟩
 refine Tr.block (Dv 0 1 4 12 13 rfl (Tr.FZ [0,1,4,13] [(12,ex fun y:Int=>fact ((i≤y∧y≤b)∧True∧y.toNat=Go.Sort.scanUp (pU c st.toArray a) st.toArray (j).toNat (i).toNat) (int y))] (True) ?_ (fun h8=> ?_)))
 refine Tr.block (Tr.BX [(0,_),(1,_),(4,_),(13,_)] (PL rfl) (fun y:Int=>[(12,int y)]) (fun y:Int=>(i≤y∧y≤b)∧Go.Sort.scanUp (pU c st.toArray a) st.toArray (j).toNat (y).toNat=Go.Sort.scanUp (pU c st.toArray a) st.toArray (j).toNat (i).toNat) (fun y:Int=>(b-y).toNat) i (⟨⟨by omega,by omega⟩,rfl⟩) ⟨ke rfl,trivial⟩ ?_)
 rintro y ⟨⟨NK,NL⟩,CT⟩
 refine ag ?_ ?_<;>intro h9 q9
 refine ac ?_
 refine cy h9 rfl (AA rfl underlying31 AH (vl rfl) (vl rfl) (by omega) (by omega)) (cy h9 rfl (Ai 0 rfl (AE rfl Ac AH (vl rfl) (AD (f:=AR) (fun _=>rfl) (by omega)) rfl)) ?_)
 refine ac ?_
 refine cy h9 rfl (AA rfl underlying31 AH (vl rfl) (vl rfl) (by omega) (by omega)) (cy h9 rfl (Ai 0 rfl (AE rfl Ac AH (vl rfl) (AD (f:=AR) (fun _=>rfl) (by omega)) rfl)) (cy h9 rfl (Af (_,_) rfl (vl rfl) ⟨ke rfl,ke rfl,trivial⟩) ?_))
 refine ac ?_
 refine D_ 0 1 4 12 13 120 rfl ?_
 refine Tr.cn rfl ?_ ?_<;>intro h10 UT
 have:=h10
 refine a2 ?_
 exact Fin.AF (y+1) ⟨⟨⟨by omega,by omega⟩,by rw [K3 (by omega) (by omega) (by omega) (UH (by omega) (by omega) (by assumption))];exact CT⟩,by omega⟩ (N9 rfl)
 have:=h10
 refine Tr.exit (Fin.AG (Fin.AG (Fin.AX ?_)))
 exact Fin.AF () trivial ⟨⟨_,rfl,A3 _ (Ae ⟨⟨by omega,by omega⟩,trivial,by rw [←CT];exact (Ek (by omega) (UI (by omega) (by omega) (Int.not_lt.2 (by assumption)))).symm⟩ (Lr))⟩,ke rfl,ke rfl,ke rfl,ke rfl,trivial⟩
 refine ac ?_
 refine D_ 0 1 4 12 13 120 rfl (Tr.cond rfl (fun h=>nomatch h) (fun _=> ?_))
 refine Tr.exit (Fin.AG (Fin.AG (Fin.AX ?_)))
 exact Fin.AF () trivial ⟨⟨_,rfl,A3 _ (Ae ⟨⟨by omega,by omega⟩,trivial,by rw [←CT];exact (Ej (by omega) (by omega)).symm⟩ (Lr))⟩,ke rfl,ke rfl,ke rfl,ke rfl,trivial⟩
 refine Tr.ex 12 rfl (fun i2=>Tr.fact 12 rfl fun OY=> ?_)
 obtain ⟨Sa,Sb,D4⟩:=OY
 refine Dv 0 1 4 12 13 rfl (Tr.FZ [0,1,4,12] [(13,ex fun y:Int=>fact ((a≤y∧y≤j)∧True∧y.toNat=Go.Sort.scanDown (pD c st.toArray a) st.toArray (i2).toNat (j).toNat) (int y))] (True) ?_ (fun h11=> ?_))
 refine Tr.block (Tr.BX [(0,_),(1,_),(4,_),(12,_)] (PL rfl) (fun y:Int=>[(13,int y)]) (fun y:Int=>(a≤y∧y≤j)∧Go.Sort.scanDown (pD c st.toArray a) st.toArray (i2).toNat (y).toNat=Go.Sort.scanDown (pD c st.toArray a) st.toArray (i2).toNat (j).toNat) (fun y:Int=>(y-a).toNat) j (⟨⟨by omega,by omega⟩,rfl⟩) ⟨ke rfl,trivial⟩ ?_)
 rintro y ⟨⟨NM,NN⟩,CU⟩
 refine ag ?_ ?_<;>intro h12 WN
 refine ac ?_
 refine cy h12 rfl (AA rfl underlying31 AH (vl rfl) (vl rfl) (by omega) (by omega)) (cy h12 rfl (Ai 0 rfl (AE rfl Ac AH (vl rfl) (AD (f:=AR) (fun _=>rfl) (by omega)) rfl)) ?_)
 refine ac ?_
 refine cy h12 rfl (AA rfl underlying31 AH (vl rfl) (vl rfl) (by omega) (by omega)) (cy h12 rfl (Ai 0 rfl (AE rfl Ac AH (vl rfl) (AD (f:=AR) (fun _=>rfl) (by omega)) rfl)) (cy h12 rfl (Af (_,_) rfl (vl rfl) ⟨ke rfl,ke rfl,trivial⟩) ?_))
 refine ac ?_
 refine D_ 0 1 4 12 13 139 rfl ?_
 refine Tr.cn rfl ?_ ?_<;>intro Pg XS
 have:=Pg
 refine a2 ?_
 exact Fin.AF (y-1) ⟨⟨⟨by omega,by omega⟩,by rw [K4 (by omega) (by omega) (by omega) (UJ (by omega) (by omega) (Int.not_lt.2 (by assumption)))];exact CU⟩,by omega⟩ (N9 rfl)
 have:=Pg
 refine Tr.exit (Fin.AG (Fin.AG (Fin.AX ?_)))
 exact Fin.AF () trivial ⟨⟨_,rfl,A3 _ (Ae ⟨⟨by omega,by omega⟩,trivial,by rw [←CU];exact (Em (by omega) (UK (by omega) (by omega) (by assumption))).symm⟩ (Lr))⟩,ke rfl,ke rfl,ke rfl,ke rfl,trivial⟩
 refine ac ?_
 refine D_ 0 1 4 12 13 139 rfl (Tr.cond rfl (fun h=>nomatch h) (fun _=> ?_))
 refine Tr.exit (Fin.AG (Fin.AG (Fin.AX ?_)))
 exact Fin.AF () trivial ⟨⟨_,rfl,A3 _ (Ae ⟨⟨by omega,by omega⟩,trivial,by rw [←CU];exact (El (by omega) (by omega)).symm⟩ (Lr))⟩,ke rfl,ke rfl,ke rfl,ke rfl,trivial⟩
 refine Tr.ex 13 rfl (fun j2=>Tr.fact 13 rfl fun OZ=> ?_)
 obtain ⟨Sc,Sd,D5⟩:=OZ
 refine an ?_ ?_<;>intro Pn aA
 refine ac ?_
 refine Tr.seq (Tr.rx ?_)
 refine ay ?_
 refine xo rfl (fun _=>AA rfl underlying31 AH (vl rfl) (vl rfl) (by omega) (by omega)) (CA 0 rfl rfl (AE rfl Ac AH (vl rfl) (AD (f:=AR) (fun _=>rfl) (by omega)) rfl) ?_)
 refine ay ?_
 refine xo rfl (fun _=>AA rfl underlying31 AH (vl rfl) (vl rfl) (by omega) (by omega)) (CA 0 rfl rfl (AE rfl Ac AH (vl rfl) (AD (f:=AR) (fun _=>rfl) (by omega)) rfl) (xo rfl (fun _=>AA rfl underlying31 AH (vl rfl) (vl rfl) (by omega) (by omega)) ?_))
 refine Cx.B4 0 rfl rfl (AU rfl rfl (vl rfl) (Va rfl) AH rfl (by rw [AV (sz:=11) (fun _=>rfl)];omega) (AP (f:=AR) (fun _=>rfl) (by omega))) ?_
 refine xo rfl (fun _=>AA rfl underlying31 AH (vl rfl) (vl rfl) (by omega) (by omega)) ?_
 refine Cx.B4 0 rfl rfl (AU rfl rfl (vl rfl) (Va rfl) AH rfl (by rw [AV (sz:=11) (fun _=>rfl)];simp only [List.length_set];omega) (AP (f:=AR) (fun _=>rfl) (by simp only [List.length_set];omega))) ?_
 refine Cx.nil ⟨by kernel_rfl,?_⟩
 refine BT.done IK (Fin.go (Cc 13 rfl ?_))
 refine ac ?_
 refine Tr.ret ?_
 refine Fin.BF (Gy c a b pv l) 0 rfl (⟨by simp only [List.length_set];omega,(DV h0 hab EB DR (Ci.symm.trans (Ct D4 D5 (by omega) (by omega))) (by omega) (by omega)).2⟩) ?_
 refine Fin.Cs [] rfl (Bc.tmp rfl (Lr)) (Bc.tmp rfl (Lr)) ?_
 · exact A3 false (Ae trivial (Pr.le_of_eq (by rw [(DV h0 hab EB DR (Ci.symm.trans (Ct D4 D5 (by omega) (by omega))) (by omega) (by omega)).1,Int.toNat_of_nonneg (by omega)])))
 refine ac ?_
 refine Tr.seq (Tr.rx ?_)
 refine ay ?_
 refine xo rfl (fun _=>AA rfl underlying31 AH (vl rfl) (vl rfl) (by omega) (by omega)) (CA 0 rfl rfl (AE rfl Ac AH (vl rfl) (AD (f:=AR) (fun _=>rfl) (by omega)) rfl) ?_)
 refine ay ?_
 refine xo rfl (fun _=>AA rfl underlying31 AH (vl rfl) (vl rfl) (by omega) (by omega)) (CA 0 rfl rfl (AE rfl Ac AH (vl rfl) (AD (f:=AR) (fun _=>rfl) (by omega)) rfl) (xo rfl (fun _=>AA rfl underlying31 AH (vl rfl) (vl rfl) (by omega) (by omega)) ?_))
 refine Cx.B4 0 rfl rfl (AU rfl rfl (vl rfl) (Va rfl) AH rfl (by rw [AV (sz:=11) (fun _=>rfl)];omega) (AP (f:=AR) (fun _=>rfl) (by omega))) ?_
 refine xo rfl (fun _=>AA rfl underlying31 AH (vl rfl) (vl rfl) (by omega) (by omega)) ?_
 refine Cx.B4 0 rfl rfl (AU rfl rfl (vl rfl) (Va rfl) AH rfl (by rw [AV (sz:=11) (fun _=>rfl)];simp only [List.length_set];omega) (AP (f:=AR) (fun _=>rfl) (by simp only [List.length_set];omega))) ?_
 refine Cx.nil ⟨by kernel_rfl,?_⟩
 refine BT.done IK (Fin.go (Dv 0 1 4 12 13 rfl ?_))
 refine a2 ?_
 exact Fin.Ck (i2+1) (j2-1) (_)  (⟨⟨⟨⟨by omega,by omega⟩,by omega,by omega⟩,by simp only [List.length_set];exact Fz,(I9 D4 D5 (by omega) (by omega) (by omega) (by omega)).trans Ci⟩,by omega⟩) ⟨ke rfl,ke rfl,ke rfl,ke rfl,ke rfl,trivial⟩ (fun _ _ h=>h)
theorem Se {l:List AO} {c:AO×AO→Int} {b0 cap len:Nat} {sp:List Value} {a b:Int} (Dc:l.length=len) (GU:len≤1000000) (hw:Go.Sort.SWO (BM c)) (h0:0≤a) (hab:a<b) (hb:b≤len) (aa:b<50):Am prog 169 [is (.slice (some ⟨b0,0,none⟩) len cap),int a,int b,Dh prog (fun x:AO×AO=>[agg (AR x.1),agg (AR x.2)]) (fun x=>int (c x))] (ex fun z:Bool=>fact (z=true→Go.Sort.SortedIn (BM c) a.toNat b.toNat l.toArray) (bool z)) (AB true b0 26 ((l.map AR).flatten++sp.map is)) (fun _=>AB true b0 26 ((l.map AR).flatten++sp.map is)):=by
 refine Am.of func169 rfl rfl (by exact Nb rfl) fun M0 w0 S rs M1 w1=> ?_
 refine a3 ?_
 refine Tr.block (Tr.Bk [(0,_),(1,_),(2,_),(3,_)] ⟨ke rfl,ke rfl,ke rfl,ke rfl,trivial⟩ (fun (i:Int) (j:Int)=>[(9,int i),(10,int j)]) (fun (i:Int) (j:Int)=>Hp M0 w0 S (AB true b0 26 ((l.map AR).flatten++sp.map is)::Aa M1 w1::rs)) (fun (i:Int) (j:Int)=>(j=0∧a<i∧i≤b)∧QX c a i l) (fun (i:Int) (j:Int)=>(5-j).toNat) (a+1) (0)  (⟨⟨rfl,by omega,by omega⟩,QX.start a l h0⟩) ⟨ke rfl,ke rfl,trivial⟩ (fun _ _ h=>h) ?_)
 rintro i j  ⟨⟨hj0,hi1,hi2⟩,Xi⟩
 refine an ?_ ?_<;>intro h1 q1
 skip
 refine ac ?_
 refine Tr.seq (Tr.block (Tr.seq (Tr.block (Tr.BX [(0,_),(1,_),(2,_),(3,_),(10,_)] (N9 rfl) (fun i2:Int=>[(9,int i2)]) (fun i2:Int=>(a<i2∧i2≤b)∧QX c a i2 l) (fun i2:Int=>(b-i2).toNat) i (⟨⟨hi1,hi2⟩,Xi⟩) ⟨ke rfl,trivial⟩ ?_))))
 rintro i2 ⟨⟨Un,hi4⟩,J_⟩
 refine ag ?_ ?_<;>intro h2 q2
 refine ac ?_
 refine cy h2 rfl (AA rfl underlying31 AH (vl rfl) (vl rfl) (by omega) (by omega)) (cy h2 rfl (Ai 0 rfl (AE rfl Ac AH (vl rfl) (AD (f:=AR) (fun _=>rfl) (by omega)) rfl)) ?_)
 refine ac ?_
 refine cy h2 rfl (AA rfl underlying31 AH (vl rfl) (vl rfl) (by omega) (by omega)) (cy h2 rfl (Ai 0 rfl (AE rfl Ac AH (vl rfl) (AD (f:=AR) (fun _=>rfl) (by omega)) rfl)) (cy h2 rfl (Af (_,_) rfl (vl rfl) ⟨ke rfl,ke rfl,trivial⟩) ?_))
 refine ac ?_
 refine E5 0 1 2 3 9 10 36 rfl ?_
 refine Tr.cn rfl ?_ ?_<;>intro h3 q3
 have:=h3
 refine a2 ?_
 exact Fin.AF (i2+1) ⟨⟨⟨by omega,by omega⟩,J_.go h0 (by omega) rfl (by omega) (by omega) (by assumption)⟩,by omega⟩ (gj rfl)
 have:=h3
 refine ac ?_
 refine an ?_ ?_<;>intro h4 q4
 refine ac ?_
 refine Tr.ret (Fin.AK (Fin.AS (Fin.AK (Fin.AK (Fin.AS (Fin.AK (Fin.Bw rfl rfl ?_ (fun _ _ _ _=>rfl))))))))
 · exact A3 true (Ae (fun _=>by rw [show b=i2 by omega];exact J_.sorted hw) (Lr))
 refine a2 ?_
 refine E5 0 1 2 3 9 10 45 rfl ?_
 refine Tr.cn rfl ?_ ?_<;>intro h5 q5
 refine ac ?_
 refine Tr.ret (Fin.AK (Fin.AS (Fin.AK (Fin.AK (Fin.AS (Fin.AK (Fin.Bw rfl rfl ?_ (fun _ _ _ _=>rfl))))))))
 · exact A3 false (Ae (fun h=>nomatch h) (Lr))
 exfalso;omega
 refine ac ?_
 refine E5 0 1 2 3 9 10 36 rfl ?_
 refine ac ?_
 refine an ?_ ?_<;>intro h6 q6
 refine ac ?_
 refine Tr.ret (Fin.AK (Fin.AS (Fin.AK (Fin.AK (Fin.AS (Fin.AK (Fin.Bw rfl rfl ?_ (fun _ _ _ _=>rfl))))))))
 · exact A3 true (Ae (fun _=>by rw [show b=i2 by omega];exact J_.sorted hw) (Lr))
 refine a2 ?_
 refine E5 0 1 2 3 9 10 45 rfl ?_
 refine Tr.cn rfl ?_ ?_<;>intro h7 q7
 refine ac ?_
 refine Tr.ret (Fin.AK (Fin.AS (Fin.AK (Fin.AK (Fin.AS (Fin.AK (Fin.Bw rfl rfl ?_ (fun _ _ _ _=>rfl))))))))
 · exact A3 false (Ae (fun h=>nomatch h) (Lr))
 exfalso;omega
 have jy:¬j<5:=of_decide_eq_false h1
 exfalso;omega
theorem KA {sb:Nat} {l:List AO} {c:AO×AO→Int} {b0 cap len:Nat} {sp:List Value} {a b:Int} (Dc:l.length=len) (GU:len≤1000000) (h0:0≤a) (ha:a<len) (h1:0≤b) (hb:b<len):Jk prog 217 [is (.slice (some ⟨b0,0,none⟩) len cap),int a,int b,is (.pointer (some ⟨sb,0,none⟩)),Dh prog (fun x:AO×AO=>[agg (AR x.1),agg (AR x.2)]) (fun x=>int (c x))] (ex fun z:Int×Int=>fact ((z.1=a∧z.2=b)∨(z.1=b∧z.2=a)) (ER [int z.1,int z.2])) (AB true sb 3 [Cq .i64]) (AB true sb 3 [Cq .i64]) (AB true b0 26 ((l.map AR).flatten++sp.map is)):=by
 refine Jk.of func217 rfl rfl (by exact Nb rfl) fun M0 w0 S rs M1 w1=> ?_
 refine a2 ?_
 refine co rfl (AA rfl underlying31 AH (vl rfl) (vl rfl) (by omega) (by omega)) (co rfl (Ai 2 rfl (AE rfl Ac AH (vl rfl) (AD (f:=AR) (fun _=>rfl) (by omega)) rfl)) ?_)
 refine ac ?_
 refine co rfl (AA rfl underlying31 AH (vl rfl) (vl rfl) (by omega) (by omega)) (co rfl (Ai 2 rfl (AE rfl Ac AH (vl rfl) (AD (f:=AR) (fun _=>rfl) (by omega)) rfl)) (co rfl (Af (_,_) rfl (vl rfl) ⟨ke rfl,ke rfl,trivial⟩) ?_))
 refine an ?_ ?_<;>intro h1 q1
 refine ap ?_
 refine tp rfl (PV rfl (vl rfl) (VL.le (vl rfl) (EK _ _))) ?_
 refine ap ?_
 refine Fl 1 2 rfl ?_
 refine ac ?_
 refine Tr.ret (Fin.AK (Fin.Cs [] rfl (Bc.tmp rfl (Lr)) (Bc.tmp rfl (Lr)) ?_))
 · exact A3 (b,a) (Ae (.inr ⟨rfl,rfl⟩) (Lr))
 refine a2 ?_
 refine Fl 10 11 rfl (Tr.ret (Fin.Cs [] rfl (Bc.tmp rfl (Lr)) (Bc.tmp rfl (Lr)) ?_))
 · exact A3 (a,b) (Ae (.inl ⟨rfl,rfl⟩) (Lr))
theorem Up {sb:Nat} {l:List AO} {c:AO×AO→Int} {b0 cap len:Nat} {sp:List Value} {a b d:Int} (Dc:l.length=len) (GU:len≤1000000) (h0:0≤a) (ha:a<len) (h1:0≤b) (hb:b<len) (h2:0≤d) (hd:d<len):Jk prog 199 [is (.slice (some ⟨b0,0,none⟩) len cap),int a,int b,int d,is (.pointer (some ⟨sb,0,none⟩)),Dh prog (fun x:AO×AO=>[agg (AR x.1),agg (AR x.2)]) (fun x=>int (c x))] (ex fun z:Int=>fact (z=a∨z=b∨z=d) (int z)) (AB true sb 3 [Cq .i64]) (AB true sb 3 [Cq .i64]) (AB true b0 26 ((l.map AR).flatten++sp.map is)):=by
 refine Jk.of func199 rfl rfl (by exact Nb rfl) fun M0 w0 S rs M1 w1=> ?_
 refine ac ?_
 refine ap ?_
 refine TO.IF 0 2 rfl rfl (by decide) rfl rfl (by decide) rfl (KA (by omega) (by omega) (by omega) (by omega) (by omega) (by omega)) ⟨ke rfl,ke rfl,ke rfl,ke rfl,ke rfl,trivial⟩ ?_
 refine TO.ex 19 rfl (fun z1=>TO.fact 19 rfl fun MR=> ?_)
 refine ap ?_
 refine ap ?_
 refine TO.IF 0 2 rfl rfl (by decide) rfl rfl (by decide) rfl (KA (by omega) (by omega) (by omega) (by omega) (by omega) (by omega)) ⟨ke rfl,ke rfl,ke rfl,ke rfl,ke rfl,trivial⟩ ?_
 refine TO.ex 28 rfl (fun z2=>TO.fact 28 rfl fun RN=> ?_)
 refine ap ?_
 refine Dv 0 1 2 4 5 rfl ?_
 refine ap ?_
 refine TO.IF 0 2 rfl rfl (by decide) rfl rfl (by decide) rfl (KA (by omega) (by omega) (by omega) (by omega) (by omega) (by omega)) ⟨ke rfl,ke rfl,ke rfl,ke rfl,ke rfl,trivial⟩ ?_
 refine TO.ex 37 rfl (fun z3=>TO.fact 37 rfl fun fU=> ?_)
 refine ap ?_
 refine Cc 2 rfl ?_
 refine ac ?_
 refine Tr.ret (Fin.Bw rfl rfl ?_ (fun _ _ _ _=>rfl))
 · exact A3 _ (Ae (by omega) (Lr))
theorem Uq {l:List AO} {c:AO×AO→Int} {b0 cap len:Nat} {sp:List Value} {a b:Int} (Dc:l.length=len) (GU:len≤1000000) (h0:0≤a) (hab:a<b) (hb:b≤len) (aa:b<50):Am prog 167 [is (.slice (some ⟨b0,0,none⟩) len cap),int a,int b,Dh prog (fun x:AO×AO=>[agg (AR x.1),agg (AR x.2)]) (fun x=>int (c x))] (ex fun z:Int×Int=>fact (a≤z.1∧z.1<b) (ER [int z.1,int z.2])) (AB true b0 26 ((l.map AR).flatten++sp.map is)) (fun _=>AB true b0 26 ((l.map AR).flatten++sp.map is)):=by
 refine Am.of func167 rfl rfl (by exact Nb rfl) fun M0 w0 S rs M1 w1=> ?_
 have hq:=PX (n:=b-a) (by omega) (by omega)
 obtain ⟨hq1,QG,ZN⟩:=hq
 refine a2 ?_
 refine Tr.seq (Tr.Cl ?_)
 refine Tl rfl rfl rfl rfl z3 dW (fun b1=> ?_)
 refine ap ?_
 refine ac ?_
 refine co rfl (CC rfl (vl rfl) (vl rfl) (by omega)) ?_
 refine co rfl (DZ rfl (vl rfl) (vl rfl) ?hin) ?_;case hin=>unfold CR;omega
 refine ac ?_
 refine D_ 0 1 3 10 11 12 rfl ?_
 refine ac ?_
 refine co rfl (CC rfl (vl rfl) (vl rfl) (by omega)) ?_
 refine co rfl (DZ rfl (vl rfl) (vl rfl) ?hin) ?_;case hin=>unfold CR;omega
 refine a2 ?_
 refine co rfl (CC rfl (vl rfl) (vl rfl) (by omega)) ?_
 refine co rfl (DZ rfl (vl rfl) (vl rfl) ?hin) ?_;case hin=>unfold CR;omega
 refine ac ?_
 refine E5 0 3 10 11 12 13 14 rfl ?_
 refine an ?_ ?_<;>intro h1 q1
 refine an ?_ ?_<;>intro h2 q2
 exfalso;omega
 refine ac ?_
 refine Tr.WG 0 [Cq .i64] rfl ⟨EK _ _,trivial⟩ ?_
 refine ap ?_
 refine TO.IF 0 1 rfl rfl (by decide) rfl rfl (by decide) rfl (Up (by omega) (by omega) (by omega) (by omega) (by omega) (by omega) (by omega) (by omega)) ⟨ke rfl,ke rfl,ke rfl,ke rfl,ke rfl,ke rfl,trivial⟩ ?_
 refine TO.ex 54 rfl (fun z1=>TO.fact 54 rfl fun MR=> ?_)
 refine ap ?_
 refine Fl 11 13 rfl ?_
 refine ac ?_
 refine Tr.drop 0 (Tr.block (Tr.seq (Tr.ex 55 rfl fun sw=> ?_)))
 refine an ?_ ?_<;>intro h3 q3
 refine ac ?_
 refine Tr.ret (Fin.AS (Fin.Cs [] rfl (Bc.tmp rfl (Lr)) (Bc.tmp rfl (Lr)) ?_))
 · exact A3 (_,_) (Ae ⟨by omega,by omega⟩ (Lr))
 refine an ?_ ?_<;>intro h4 q4
 refine ac ?_
 refine Tr.ret (Fin.AS (Fin.Cs [] rfl (Bc.tmp rfl (Lr)) (Bc.tmp rfl (Lr)) ?_))
 · exact A3 (_,_) (Ae ⟨by omega,by omega⟩ (Lr))
 refine ac ?_
 refine Tr.ret (Fin.AS (Fin.Cs [] rfl (Bc.tmp rfl (Lr)) (Bc.tmp rfl (Lr)) ?_))
 · exact A3 (_,_) (Ae ⟨by omega,by omega⟩ (Lr))
 refine ac ?_
 refine Tr.seq (Tr.WG 0 [Cq .i64] rfl ⟨EK _ _,trivial⟩ ?_)
 refine ac ?_
 refine Tr.drop 0 (Tr.block (Tr.seq (Tr.ex 55 rfl fun sw=> ?_)))
 refine an ?_ ?_<;>intro h5 q5
 refine ac ?_
 refine Fl 8 9 rfl (Tr.ret (Fin.AS (Fin.Cs [] rfl (Bc.tmp rfl (Lr)) (Bc.tmp rfl (Lr)) ?_)))
 · exact A3 (_,_) (Ae ⟨by omega,by omega⟩ (Lr))
 refine ac ?_
 refine Fl 13 60 rfl ?_
 refine Tr.cn rfl ?_ ?_<;>intro h6 q6
 refine ac ?_
 refine Tr.ret (Fin.AS (Fin.Cs [] rfl (Bc.tmp rfl (Lr)) (Bc.tmp rfl (Lr)) ?_))
 · exact A3 (_,_) (Ae ⟨by omega,by omega⟩ (Lr))
 refine ac ?_
 refine Tr.ret (Fin.AS (Fin.Cs [] rfl (Bc.tmp rfl (Lr)) (Bc.tmp rfl (Lr)) ?_))
 · exact A3 (_,_) (Ae ⟨by omega,by omega⟩ (Lr))
theorem Ur {l:List AO} {c:AO×AO→Int} {b0 cap len:Nat} {sp:List Value} {a b:Int} (Dc:l.length=len) (GU:len≤1000000) (h0:0≤a) (hab:a≤b) (hb:b≤len) (aa:b<50):Am prog 166 [is (.slice (some ⟨b0,0,none⟩) len cap),int a,int b,Dh prog (fun x:AO×AO=>[agg (AR x.1),agg (AR x.2)]) (fun x=>int (c x))] (Bx) (AB true b0 26 ((l.map AR).flatten++sp.map is)) (fun _=>BV b0 26 AR (Bg a b l) (sp.map is)):=by
 refine Am.of func166 rfl rfl (by exact Nb rfl) fun M0 w0 S rs M1 w1=> ?_
 have hq:=PX (n:=b-a) (by omega) (by omega)
 obtain ⟨hq1,QG,ZN⟩:=hq
 refine ac ?_
 refine an ?_ ?_<;>intro h1 q1
 refine ap ?_
 refine tp rfl (C5 rfl underlying3 underlying189 (vl rfl)) ?_
 refine Tl rfl rfl rfl rfl ZE V5 (fun b1=> ?_)
 refine ap ?_
 refine Tr.seq (Tr.WG 0 [Cq .u64] rfl ⟨EK _ _,trivial⟩ ?_)
 refine ap ?_
 refine tp rfl (EC (SY (by omega) (by omega)) rfl rfl) ?_
 refine TO.ex 21 rfl (fun md=>TO.fact 21 rfl fun fV=> ?_)
 obtain ⟨fW,fX⟩:=fV
 have jz:IntKind.u64.wrap (md-1)=md-1:=IntWalk.u64_in _ ⟨by omega,by omega⟩
 refine ap ?_
 refine ac ?_
 refine co rfl (CC rfl (vl rfl) (vl rfl) (by omega)) ?_
 refine co rfl (DZ rfl (vl rfl) (vl rfl) ?hin) ?_;case hin=>unfold CR;omega
 refine ac ?_
 refine D_ 0 1 8 9 10 11 rfl (Tr.block (Tr.Bk [(0,_),(1,_),(8,_),(9,_),(10,_)] ⟨ke rfl,ke rfl,ke rfl,ke rfl,ke rfl,trivial⟩ (fun (i:Int) (st:List AO)=>[(11,int i)]) (fun (i:Int) (st:List AO)=>Hp M0 w0 S (AB true b1 189 [Cq .u64]::AB true b0 26 ((st.map AR).flatten++sp.map is)::Aa M1 w1::rs)) (fun (i:Int) (st:List AO)=>(a≤i∧i≤b)∧st.length=len∧Bg a b l st) (fun (i:Int) (st:List AO)=>(b-i).toNat) (a+IntKind.i64.wrap ((b-a).tdiv 4)*2-1) (l)  (⟨⟨by omega,by omega⟩,by omega,Bg.refl _ _ _⟩) ⟨ke rfl,trivial⟩ (fun _ _ h=>h) ?_))
 rintro i st  ⟨⟨hi1,hi2⟩,Fz,Ci⟩
 refine ac ?_
 refine co rfl (CC rfl (vl rfl) (vl rfl) (by omega)) ?_
 refine co rfl (DZ rfl (vl rfl) (vl rfl) ?hin) ?_;case hin=>unfold CR;omega
 refine ac ?_
 refine E5 0 1 8 9 10 11 35 rfl ?_
 refine Tr.cn rfl ?_ ?_<;>intro h2 q2
 have:=h2
 refine ac ?_
 refine Tr.seq (Tr.block (Tr.seq (Tr.Cl (TO.Dn 0 rfl rfl (by decide) (Ah rfl rfl (by decide) rfl (Pw) ⟨ke rfl,trivial⟩) ?_))))
 refine ap ?_
 refine tp rfl (Ms rfl (vl rfl) (vl rfl) (by omega) (by omega)) ?_
 refine TO.ex 41 rfl (fun z1=>TO.fact 41 rfl fun MR=> ?_)
 refine tp rfl (Bu rfl underlying137 underlying3 (vl rfl) (by unfold CR;omega)) ?_
 refine ap ?_
 refine Tr.PY [(0,_),(1,_),(8,_),(9,_),(10,_),(11,_)] ⟨ke rfl,ke rfl,ke rfl,ke rfl,ke rfl,ke rfl,trivial⟩ (fun (ot:Int)=>[(12,int ot)]) (fun (ot:Int)=>Hp M0 w0 S (AB true b1 189 [Cq .u64]::AB true b0 26 ((st.map AR).flatten++sp.map is)::Aa M1 w1::rs)) (fun (ot:Int)=>0≤ot∧ot<b-a) ?_ ?_
 refine ac ?_
 refine Im 0 1 8 9 10 11 12 45 rfl ?_
 refine Tr.cn rfl ?_ ?_<;>intro h3 q3
 refine ac ?_
 exact Fin.F8 (_)  (⟨by omega,by omega⟩) ⟨ke rfl,ke rfl,ke rfl,ke rfl,ke rfl,ke rfl,ke rfl,trivial⟩ (fun _ _ h=>h)
 refine Tr.skip (Fin.F8 (_)  (⟨by omega,by omega⟩) ⟨ke rfl,ke rfl,ke rfl,ke rfl,ke rfl,ke rfl,ke rfl,trivial⟩ (fun _ _ h=>h))
 rintro ot  ⟨fY,fZ⟩
 refine Tr.rx ?_
 refine ay ?_
 refine xo rfl (fun _=>AA rfl underlying31 AH (vl rfl) (vl rfl) (by omega) (by omega)) (CA 1 rfl rfl (AE rfl Ac AH (vl rfl) (AD (f:=AR) (fun _=>rfl) (by omega)) rfl) ?_)
 refine ay ?_
 refine xo rfl (fun _=>AA rfl underlying31 AH (vl rfl) (vl rfl) (by omega) (by omega)) (CA 1 rfl rfl (AE rfl Ac AH (vl rfl) (AD (f:=AR) (fun _=>rfl) (by omega)) rfl) (xo rfl (fun _=>AA rfl underlying31 AH (vl rfl) (vl rfl) (by omega) (by omega)) ?_))
 refine Cx.B4 1 rfl rfl (AU rfl rfl (vl rfl) (Va rfl) AH rfl (by rw [AV (sz:=11) (fun _=>rfl)];omega) (AP (f:=AR) (fun _=>rfl) (by omega))) ?_
 refine xo rfl (fun _=>AA rfl underlying31 AH (vl rfl) (vl rfl) (by omega) (by omega)) ?_
 refine Cx.B4 1 rfl rfl (AU rfl rfl (vl rfl) (Va rfl) AH rfl (by rw [AV (sz:=11) (fun _=>rfl)];simp only [List.length_set];omega) (AP (f:=AR) (fun _=>rfl) (by simp only [List.length_set];omega))) ?_
 refine Cx.nil ⟨by kernel_rfl,?_⟩
 refine BT.done cA ?_
 refine ac ?_
 refine D_ 0 1 8 9 10 11 rfl ?_
 refine ac ?_
 exact Fin.BG (i+1) (_)  (⟨⟨⟨by omega,by omega⟩,by simp only [List.length_set];exact Fz,Ci.swap (by omega) (by omega) (by omega) (by omega) (by omega) (by omega) (by omega)⟩,by omega⟩) ⟨ke rfl,ke rfl,ke rfl,ke rfl,ke rfl,ke rfl,trivial⟩ (fun _ _ h=>h)
 have:=h2
 refine Tr.exit (Fin.AG (Fin.AG (Fin.AX (Fin.BF (Bg a b l) 1 rfl (by exact Ci) ?_))))
 refine Fin.drop 0 (Fin.D0 rfl)
 refine Tr.skip (Fin.BF (Bg a b l) 0 rfl (by exact Bg.refl _ _ _) ?_)
 exact Fin.D0 rfl
theorem Sf {l:List AO} {c:AO×AO→Int} {b0 cap len:Nat} {sp:List Value} {a b Iq:Int} (Dc:l.length=len) (GU:len≤1000000) (hw:Go.Sort.SWO (BM c)) (Sg:len<50) (hB:Go.Sort.Below (BM c) a.toNat b.toNat l.toArray) (h0:0≤a) (hab:a≤b) (hb:b≤len) (Oa:0≤Iq) (Xj:Iq≤100) (m:Nat) (hm:(b-a).toNat<m) (ih:∀{l:List AO} {a b Iq:Int} {sp:List Value},l.length=len→Go.Sort.Below (BM c) a.toNat b.toNat l.toArray→0≤a→a≤b→b≤len→0≤Iq→Iq≤100→(b-a).toNat+1<m→Am prog 110 [is (.slice (some ⟨b0,0,none⟩) len cap),int a,int b,int Iq,Dh prog (fun x:AO×AO=>[agg (AR x.1),agg (AR x.2)]) (fun x=>int (c x))] (Bx) (AB true b0 26 ((l.map AR).flatten++sp.map is)) (fun _=>BV b0 26 AR (Br c a b l) (sp.map is)))  :Am prog 110 [is (.slice (some ⟨b0,0,none⟩) len cap),int a,int b,int Iq,Dh prog (fun x:AO×AO=>[agg (AR x.1),agg (AR x.2)]) (fun x=>int (c x))] (Bx) (AB true b0 26 ((l.map AR).flatten++sp.map is)) (fun _=>BV b0 26 AR (Br c a b l) (sp.map is)):=by
 refine Am.of func110 rfl rfl (by exact Nb rfl) fun M0 w0 S rs M1 w1=> ?_
 have hls:b.toNat≤l.toArray.size:=by simp only [List.size_toArray];omega
 refine a2 ?_
 refine Tr.block (Tr.Ml [(0,_),(4,_)] ⟨ke rfl,ke rfl,trivial⟩ (fun (a1:Int) (b1:Int) (p:Int×Bool×Bool) (st:List AO)=>[(1,int a1),(2,int b1),(3,int p.1),(10,bool p.2.1),(11,bool p.2.2)]) (fun (a1:Int) (b1:Int) (p:Int×Bool×Bool) (st:List AO)=>Hp M0 w0 S (AB true b0 26 ((st.map AR).flatten++sp.map is)::Aa M1 w1::rs)) (fun (a1:Int) (b1:Int) (p:Int×Bool×Bool) (st:List AO)=>((a≤a1∧a1≤b1∧b1≤b)∧0≤p.1∧p.1≤100)∧st.length=len∧PS (BM c) a.toNat b.toNat a1.toNat b1.toNat l.toArray st.toArray) (fun (a1:Int) (b1:Int) (p:Int×Bool×Bool) (st:List AO)=>(b1-a1).toNat) (a) (b) ((Iq,(true,true))) (l)  (⟨⟨⟨by omega,hab,by omega⟩,Oa,Xj⟩,Dc,PS.init (by omega) hB⟩) ⟨ke rfl,ke rfl,ke rfl,ke rfl,ke rfl,trivial⟩ (fun _ _ h=>h) ?_)
 rintro a1 b1 p st  ⟨⟨⟨j0,j4,j5⟩,YT,OX⟩,Fz,hps⟩
 refine ac ?_
 refine an ?_ ?_<;>intro h1 q1
 refine ap ?_
 refine TO.Dn 0 rfl rfl (by decide) (Ah rfl rfl (by decide) rfl (Ul (by omega) (by omega) hw (by omega) (by omega) (by omega)) ⟨ke rfl,ke rfl,ke rfl,ke rfl,trivial⟩) (TO.Bl 0 rfl fun t1 Di=> ?_)
 have Kj:=Di.len
 have hdone:=(hps.perm hls Di.1).done Di.2
 refine ap ?_
 refine Tr.weak [] trivial (Tr.ret (Fin.AK (Fin.AS (Fin.AK (Fin.AS (Fin.BF (Br c a b l) 0 rfl (hdone) (Fin.Db rfl)))))))
 refine a2 ?_
 refine RB 0 1 2 3 4 10 11 12 32 rfl ?_
 refine Tr.cn rfl ?_ ?_<;>intro h2 q2
 refine ap ?_
 refine TO.Dn 0 rfl rfl (by decide) (Ah rfl rfl (by decide) rfl (SZ (by omega) (by omega) hw (by omega) (by omega) (by omega)) ⟨ke rfl,ke rfl,ke rfl,ke rfl,trivial⟩) (TO.Bl 0 rfl fun t2 I7=> ?_)
 have OX:=I7.len
 have hdone:=(hps.perm hls I7.1).done I7.2
 refine ap ?_
 refine Tr.weak [] trivial (Tr.ret (Fin.AK (Fin.AS (Fin.AK (Fin.AS (Fin.BF (Br c a b l) 0 rfl (hdone) (Fin.Db rfl)))))))
 refine ac ?_
 refine Tr.PZ [(0,_),(1,_),(2,_),(4,_),(10,_),(11,_),(12,_)] ⟨ke rfl,ke rfl,ke rfl,ke rfl,ke rfl,ke rfl,ke rfl,trivial⟩ (fun (D6:Int) (DE:List AO)=>[(3,int D6)]) (fun (D6:Int) (DE:List AO)=>Hp M0 w0 S (AB true b0 26 ((DE.map AR).flatten++sp.map is)::Aa M1 w1::rs)) (fun (D6:Int) (DE:List AO)=>0≤D6∧D6≤100∧DE.length=len∧PS (BM c) a.toNat b.toNat a1.toNat b1.toNat l.toArray DE.toArray) ?_ ?_
 refine an ?_ ?_<;>intro h3 q3
 refine ap ?_
 refine TO.Dn 0 rfl rfl (by decide) (Ah rfl rfl (by decide) rfl (Ur (by omega) (by omega) (by omega) (by omega) (by omega) (by omega)) ⟨ke rfl,ke rfl,ke rfl,ke rfl,trivial⟩) (TO.Bl 0 rfl fun t3 af=> ?_)
 have fc:=af.len
 have hps:=hps.perm hls af
 refine ap ?_
 refine Im 0 1 2 3 4 10 11 12 rfl ?_
 refine ac ?_
 exact Fin.BG (_) (_)  (⟨by omega,by omega,by omega,hps⟩) ⟨ke rfl,ke rfl,ke rfl,ke rfl,ke rfl,ke rfl,ke rfl,ke rfl,trivial⟩ (fun _ _ h=>h)
 refine Tr.skip (Fin.BG (_) (_)  (⟨by omega,by omega,by omega,hps⟩) ⟨ke rfl,ke rfl,ke rfl,ke rfl,ke rfl,ke rfl,ke rfl,ke rfl,trivial⟩ (fun _ _ h=>h))
 rintro D6 DE  ⟨KB,KC,J7,hps⟩
 refine ap ?_
 refine TO.Dn 0 rfl rfl (by decide) (Ah rfl rfl (by decide) rfl (Uq (by omega) (by omega) (by omega) (by omega) (by omega) (by omega)) ⟨ke rfl,ke rfl,ke rfl,ke rfl,trivial⟩) ?_
 refine TO.ex 52 rfl (fun z1=>TO.fact 52 rfl fun MR=> ?_)
 obtain ⟨Xk,Xl⟩:=MR
 refine ap ?_
 refine C6 0 1 2 3 4 10 11 12 13 14 rfl (Tr.Pa [(0,_),(1,_),(2,_),(3,_),(4,_),(10,_),(11,_),(12,_)] ⟨ke rfl,ke rfl,ke rfl,ke rfl,ke rfl,ke rfl,ke rfl,ke rfl,trivial⟩ (fun (pv:Int) (hint:Int) (NP:List AO)=>[(13,int pv),(14,int hint)]) (fun (pv:Int) (hint:Int) (NP:List AO)=>Hp M0 w0 S (AB true b0 26 ((NP.map AR).flatten++sp.map is)::Aa M1 w1::rs)) (fun (pv:Int) (hint:Int) (NP:List AO)=>(a1≤pv∧pv<b1)∧NP.length=len∧PS (BM c) a.toNat b.toNat a1.toNat b1.toNat l.toArray NP.toArray) ?_ ?_)
 refine an ?_ ?_<;>intro h4 q4
 refine ap ?_
 refine TO.Dn 0 rfl rfl (by decide) (Ah rfl rfl (by decide) rfl (Um (by omega) (by omega) (by omega) (by omega) (by omega)) ⟨ke rfl,ke rfl,ke rfl,ke rfl,trivial⟩) (TO.Bl 0 rfl fun t5 ah=> ?_)
 have ff:=ah.len
 have hps:=hps.perm hls ah
 refine ap ?_
 refine RB 0 1 2 3 4 10 11 12 13 rfl ?_
 refine ac ?_
 refine RB 0 1 2 3 4 10 11 12 13 rfl ?_
 refine ac ?_
 exact Fin.Ck (_) (_) (_)  (⟨⟨by omega,by omega⟩,by omega,hps⟩) ⟨ke rfl,ke rfl,ke rfl,ke rfl,ke rfl,ke rfl,ke rfl,ke rfl,ke rfl,ke rfl,trivial⟩ (fun _ _ h=>h)
 refine Tr.skip (Fin.Ck (_) (_) (_)  (⟨⟨by omega,by omega⟩,by omega,hps⟩) ⟨ke rfl,ke rfl,ke rfl,ke rfl,ke rfl,ke rfl,ke rfl,ke rfl,ke rfl,ke rfl,trivial⟩ (fun _ _ h=>h))
 rintro pv hint NP  ⟨⟨Xk,Xl⟩,fk,hps⟩
 refine C6 0 1 2 3 4 10 11 12 13 14 rfl (Tr.FZ [0,1,2,3,4,10,11,12,13] [] (True) ?_ (fun h5=> ?_))
 refine ag ?_ ?_<;>intro h6 q6
 refine ag ?_ ?_<;>intro h7 q7
 refine ac ?_
 refine C6 0 1 2 3 4 10 11 12 13 75 rfl ?_
 refine Tr.cn rfl ?_ ?_<;>intro h8 q8
 refine ap ?_
 refine TO.Dn 0 rfl rfl (by decide) (Ah rfl rfl (by decide) rfl (Se (by omega) (by omega) hw (by omega) (by omega) (by omega) (by omega)) ⟨ke rfl,ke rfl,ke rfl,ke rfl,trivial⟩) ?_
 refine TO.ex 80 rfl (fun z2=>TO.fact 80 rfl fun RN=> ?_)
 have MU:=RN
 refine ap ?_
 refine C6 0 1 2 3 4 10 11 12 13 80 rfl ?_
 refine Tr.cn rfl ?_ ?_<;>intro h9 q9
 have hdone:=hps.done (MU h9)
 refine Tr.ret (Fin.AK (Fin.AS (Fin.AK (Fin.AS (Fin.BF (Br c a b l) 0 rfl (hdone) (Fin.Db rfl))))))
 refine Tr.skip (Fin.AF () (by simp_all) (V1 rfl))
 refine Tr.skip (Fin.AF () (by simp_all) (V1 rfl))
 refine ac ?_
 refine C6 0 1 2 3 4 10 11 12 13 75 rfl (Tr.cond rfl (fun h=>nomatch h) (fun _=> ?_))
 refine Tr.skip (Fin.AF () (by simp_all) (V1 rfl))
 refine ac ?_
 refine C6 0 1 2 3 4 10 11 12 13 75 rfl (Tr.cond rfl (fun h=>nomatch h) (fun _=> ?_))
 refine Tr.skip (Fin.AF () (by simp_all) (V1 rfl))
 refine ag ?_ ?_<;>intro h10 UT
 refine ac ?_
 refine cy h10 rfl (AA rfl underlying31 AH (vl rfl) (vl rfl) (by omega) (by omega)) (cy h10 rfl (Ai 0 rfl (AE rfl Ac AH (vl rfl) (AD (f:=AR) (fun _=>rfl) (by omega)) rfl)) ?_)
 refine ac ?_
 refine cy h10 rfl (AA rfl underlying31 AH (vl rfl) (vl rfl) (by omega) (by omega)) (cy h10 rfl (Ai 0 rfl (AE rfl Ac AH (vl rfl) (AD (f:=AR) (fun _=>rfl) (by omega)) rfl)) (cy h10 rfl (Af (_,_) rfl (vl rfl) ⟨ke rfl,ke rfl,trivial⟩) ?_))
 refine ac ?_
 refine C6 0 1 2 3 4 10 11 12 13 97 rfl ?_
 refine Tr.cn rfl ?_ ?_<;>intro h11 Z_
 refine ap ?_
 refine TO.Dn 0 rfl rfl (by decide) (Ah rfl rfl (by decide) rfl (Uo (by omega) (by omega) (by omega) (by omega) (by omega) (by omega) (by omega)) ⟨ke rfl,ke rfl,ke rfl,ke rfl,ke rfl,trivial⟩) (TO.Bl 0 rfl fun t7 aj=> ?_)
 have fm:=aj.len
 obtain ⟨hps,hk1,hk2⟩:=hps.gv hw hls aj (by omega) (by omega) rfl (by omega) (by omega) (by omega) (by omega) (by omega) (by assumption)
 refine ap ?_
 refine E5 0 2 3 4 10 11 15 rfl ?_
 refine ac ?_
 refine Tr.exit (Fin.AG (Fin.AX (Fin.DP (_) (_) ((D6,(_,_))) (_)  (⟨⟨⟨⟨by omega,by omega,by omega⟩,KB,KC⟩,by omega,by exact hps⟩,by omega⟩) ⟨ke rfl,ke rfl,ke rfl,ke rfl,ke rfl,ke rfl,ke rfl,trivial⟩ (fun _ _ h=>h))))
 refine ac ?_
 refine ap ?_
 refine TO.Dn 0 rfl rfl (by decide) (Ah rfl rfl (by decide) rfl (NO (by omega) (by omega) (by omega) (by omega) (by omega) (by omega) (by omega)) ⟨ke rfl,ke rfl,ke rfl,ke rfl,ke rfl,trivial⟩) ?_
 refine TO.ex 111 rfl (fun z3=>TO.fact 111 rfl fun fU=> ?_)
 refine TO.Bl 0 rfl fun t8 ak=> ?_
 have fq:=ak.len
 obtain ⟨Xm,Hf⟩:=GC hw ak (by omega) (by omega) (by omega) (by omega)
 have hps:=hps.perm hls Xm
 have hk1:=Hf.h1
 have hk2:=Hf.h2
 generalize (PA c a1 b1 pv NP).1=k at*
 refine ap ?_
 refine Im 0 1 2 3 4 12 16 17 rfl ?_
 refine a2 ?_
 refine C6 0 1 2 3 4 11 12 16 18 19 rfl ?_
 refine ac ?_
 refine co rfl (CC rfl (vl rfl) (vl rfl) (by omega)) ?_
 refine a2 ?_
 refine Rb 0 1 2 3 4 11 16 18 19 20 125 rfl ?_
 refine Tr.cn rfl ?_ ?_<;>intro h12 WN
 refine ac ?_
 refine Im 0 1 2 3 4 10 11 16 rfl ?_
 refine ap ?_
 refine TO.Dn 0 rfl rfl (by decide) (Ah rfl rfl (by decide) rfl (ih (by omega) (by exact hps.L1 (Nat.le_of_lt Hf.h2)) (by omega) (by omega) (by omega) (by omega) (by omega) (by omega)) ⟨ke rfl,ke rfl,ke rfl,ke rfl,ke rfl,trivial⟩) ?_
 refine TO.Bl 0 rfl fun t9 Xn=> ?_
 have fu:=Xn.len
 have hps:=hps.left hw hls Hf Xn.1 Xn.2
 refine ap ?_
 refine E5 0 2 3 4 10 11 16 rfl ?_
 refine ac ?_
 exact Fin.DP (_) (_) ((D6,(_,_))) (_)  (⟨⟨⟨⟨by omega,by omega,by omega⟩,KB,KC⟩,by omega,by exact hps⟩,by omega⟩) ⟨ke rfl,ke rfl,ke rfl,ke rfl,ke rfl,ke rfl,ke rfl,trivial⟩ (fun _ _ h=>h)
 refine ac ?_
 refine Im 0 1 2 3 4 10 11 16 rfl ?_
 refine ap ?_
 refine TO.Dn 0 rfl rfl (by decide) (Ah rfl rfl (by decide) rfl (ih (by omega) (by exact Hf.L2) (by omega) (by omega) (by omega) (by omega) (by omega) (by omega)) ⟨ke rfl,ke rfl,ke rfl,ke rfl,ke rfl,trivial⟩) ?_
 refine TO.Bl 0 rfl fun t10 Ob=> ?_
 have aq:=Ob.len
 have hps:=hps.right hw hls Hf Ob.1 Ob.2
 refine ap ?_
 refine E5 0 1 3 4 10 11 16 rfl ?_
 refine ac ?_
 exact Fin.DP (_) (_) ((D6,(_,_))) (_)  (⟨⟨⟨⟨by omega,by omega,by omega⟩,KB,KC⟩,by omega,by exact hps⟩,by omega⟩) ⟨ke rfl,ke rfl,ke rfl,ke rfl,ke rfl,ke rfl,ke rfl,trivial⟩ (fun _ _ h=>h)
 refine ac ?_
 refine C6 0 1 2 3 4 10 11 12 13 97 rfl ?_
 refine ac ?_
 refine ap ?_
 refine TO.Dn 0 rfl rfl (by decide) (Ah rfl rfl (by decide) rfl (NO (by omega) (by omega) (by omega) (by omega) (by omega) (by omega) (by omega)) ⟨ke rfl,ke rfl,ke rfl,ke rfl,ke rfl,trivial⟩) ?_
 refine TO.ex 111 rfl (fun z4=>TO.fact 111 rfl fun j6=> ?_)
 refine TO.Bl 0 rfl fun t11 Sh=> ?_
 have au:=Sh.len
 obtain ⟨Xm,Hf⟩:=GC hw Sh (by omega) (by omega) (by omega) (by omega)
 have hps:=hps.perm hls Xm
 have hk1:=Hf.h1
 have hk2:=Hf.h2
 generalize (PA c a1 b1 pv NP).1=k at*
 refine ap ?_
 refine Im 0 1 2 3 4 12 16 17 rfl ?_
 refine a2 ?_
 refine C6 0 1 2 3 4 11 12 16 18 19 rfl ?_
 refine ac ?_
 refine co rfl (CC rfl (vl rfl) (vl rfl) (by omega)) ?_
 refine a2 ?_
 refine Rb 0 1 2 3 4 11 16 18 19 20 125 rfl ?_
 refine Tr.cn rfl ?_ ?_<;>intro Pg XS
 refine ac ?_
 refine Im 0 1 2 3 4 10 11 16 rfl ?_
 refine ap ?_
 refine TO.Dn 0 rfl rfl (by decide) (Ah rfl rfl (by decide) rfl (ih (by omega) (by exact hps.L1 (Nat.le_of_lt Hf.h2)) (by omega) (by omega) (by omega) (by omega) (by omega) (by omega)) ⟨ke rfl,ke rfl,ke rfl,ke rfl,ke rfl,trivial⟩) ?_
 refine TO.Bl 0 rfl fun t12 Oc=> ?_
 have av:=Oc.len
 have hps:=hps.left hw hls Hf Oc.1 Oc.2
 refine ap ?_
 refine E5 0 2 3 4 10 11 16 rfl ?_
 refine ac ?_
 exact Fin.DP (_) (_) ((D6,(_,_))) (_)  (⟨⟨⟨⟨by omega,by omega,by omega⟩,KB,KC⟩,by omega,by exact hps⟩,by omega⟩) ⟨ke rfl,ke rfl,ke rfl,ke rfl,ke rfl,ke rfl,ke rfl,trivial⟩ (fun _ _ h=>h)
 refine ac ?_
 refine Im 0 1 2 3 4 10 11 16 rfl ?_
 refine ap ?_
 refine TO.Dn 0 rfl rfl (by decide) (Ah rfl rfl (by decide) rfl (ih (by omega) (by exact Hf.L2) (by omega) (by omega) (by omega) (by omega) (by omega) (by omega)) ⟨ke rfl,ke rfl,ke rfl,ke rfl,ke rfl,trivial⟩) ?_
 refine TO.Bl 0 rfl fun t13 Od=> ?_
 have az:=Od.len
 have hps:=hps.right hw hls Hf Od.1 Od.2
 refine ap ?_
 refine E5 0 1 3 4 10 11 16 rfl ?_
 refine ac ?_
 exact Fin.DP (_) (_) ((D6,(_,_))) (_)  (⟨⟨⟨⟨by omega,by omega,by omega⟩,KB,KC⟩,by omega,by exact hps⟩,by omega⟩) ⟨ke rfl,ke rfl,ke rfl,ke rfl,ke rfl,ke rfl,ke rfl,trivial⟩ (fun _ _ h=>h)
theorem Px:∀(m:Nat) {l:List AO} {c:AO×AO→Int} {b0 cap len:Nat} {sp:List Value} {a b Iq:Int},(Dc:l.length=len)→(GU:len≤1000000)→(hw:Go.Sort.SWO (BM c))→(Sg:len<50)→Go.Sort.Below (BM c) a.toNat b.toNat l.toArray→0≤a→a≤b→b≤len→0≤Iq→Iq≤100→(b-a).toNat<m→Am Tryz.prog 110 [is (.slice (some ⟨b0,0,none⟩) len cap),int a,int b,int Iq,Dh Tryz.prog (fun x:AO×AO=>[agg (AR x.1),agg (AR x.2)]) (fun x=>int (c x))] (Bx) (AB true b0 26 ((l.map AR).flatten++sp.map is)) (fun _=>BV b0 26 AR (Br c a b l) (sp.map is))
 |0,_,_,_,_,_,_,_,_,_,_,_,_,_,_,_,_,_,_,_,h=>absurd h (Nat.not_lt_zero _)
 |m+1,_,_,_,_,_,_,_,_,_,Dc,GU,hw,Sg,hB,h0,hab,hb,Oa,Xj,hm=>Sf Dc GU hw Sg hB h0 hab hb Oa Xj (m+1) hm (fun h1 h2 h3 h4 h5 h6 h7 h8=>Px m h1 GU hw Sg h2 h3 h4 h5 h6 h7 (by omega))
theorem Us {l:List AO} {c:AO×AO→Int} {b0 cap len:Nat} {sp:List Value}  (Dc:l.length=len) (hw:Go.Sort.SWO (BM c)) (Sg:len<50):Am prog 69 [is (.slice (some ⟨b0,0,none⟩) len cap),Dh prog (fun x:AO×AO=>[agg (AR x.1),agg (AR x.2)]) (fun x=>int (c x))] (Bx) (AB true b0 26 ((l.map AR).flatten++sp.map is)) (fun _=>BV b0 26 AR (Br c 0 len l) (sp.map is)):=by
 refine Am.of func69 rfl rfl (by exact Nb rfl) fun M0 w0 S rs M1 w1=> ?_
 have fy:IntKind.u64.wrap ((len:Nat):Int)=len:=IntWalk.u64_in _ ⟨by omega,by omega⟩
 refine ac ?_
 refine co rfl (DQ rfl underlying31 (vl rfl)) ?_
 refine ac ?_
 refine ap ?_
 refine tp rfl (C5 rfl underlying3 underlying137 (vl rfl)) (tp rfl (EC (G7 (by omega) (by omega)) rfl rfl) ?_)
 refine TO.ex 11 rfl (fun k=>TO.fact 11 rfl fun hk=> ?_)
 obtain ⟨hk1,hk2,fT⟩:=hk
 refine tm rfl (TO.Dn 0 rfl rfl (by decide) (Ah rfl rfl (by decide) rfl (Px (len+1) (by omega) (by omega) hw (by omega) (.inl rfl) (by omega) (by omega) (by omega) (by omega) (by omega) (by omega)) ⟨ke rfl,ke rfl,ke rfl,ke rfl,ke rfl,trivial⟩) (TO.Bl 0 rfl fun t1 Di=> ?_))
 have Kj:=Di.len
 refine TO.nil (Fin.BF (Br c 0 len l) 0 rfl (Di) (Fin.D0 rfl))
theorem Ut {rows:List (List Pr)} {b:Int} (hb:b≤1):Bb prog 164 [slice 11 rows,int 0,int b,any] (Bx):=by
 refine fo func164 rfl ⟨rfl,rfl⟩ fun M0 w0=> ?_
 refine ac ?_
 refine Tr.block (Tr.BX [(0,_),(1,_),(2,_),(3,_)] (PL rfl) (fun i:Int=>[(8,int i)]) (fun i:Int=>i=1) (fun i:Int=>0) 1 (rfl) ⟨ke rfl,trivial⟩ ?_)
 rintro i hi
 refine an ?_ ?_<;>intro h1 q1
 have:=h1
 exfalso;omega
 have:=h1
 refine Tr.exit (Fin.AG (Fin.AG (Fin.AX (Fin.UA rfl))))
theorem Uu {rows:List (List Pr)} {b:Int} (h0:0≤b) (hb:b≤1):Bb prog 110 [slice 11 rows,int 0,int b,any,any] (Bx):=by
 refine fo func110 rfl ⟨rfl,rfl⟩ fun M0 w0=> ?_
 refine a2 ?_
 refine Tr.block (Tr.BX [(0,_),(4,_)] (YO rfl) (fun (u:Unit)=>[(1,int 0),(2,int b)]) (fun (u:Unit)=>True) (fun (u:Unit)=>0) () (trivial) ⟨ke rfl,ke rfl,trivial⟩ ?_)
 rintro u _
 refine ac ?_
 refine an ?_ ?_<;>intro h1 q1
 refine ac ?_
 refine co rfl (hG (Ut (by omega)) rfl rfl rfl rfl rfl) ?_
 refine ac ?_
 refine Tr.weak [] trivial (Tr.ret (Fin.AK (Fin.AS (Fin.AK (Fin.AS (Fin.WB rfl))))))
 exfalso;omega
theorem Si {rows:List (List Pr)} (hs:rows.length≤1):Bb prog 69 [slice 11 rows,any] (Bx):=by
 refine fo func69 rfl ⟨rfl,rfl⟩ fun M0 w0=> ?_
 have hw:IntKind.u64.wrap ((rows.length:Nat):Int)=rows.length:=IntWalk.u64_in _ ⟨by omega,by omega⟩
 refine ac ?_
 refine co rfl (E2 rfl underlying31 (vl rfl)) ?_
 refine a2 ?_
 refine co rfl (C5 rfl underlying3 underlying137 (vl rfl)) (co rfl (EC (G7 (by omega) (by omega)) rfl rfl) (cm rfl (co rfl (Aq rfl (Uu (rows:=rows) (b:=(rows.length:Int)) (by omega) (by omega)) ⟨ke rfl,ke rfl,ke rfl,⟨_,rfl,JH _⟩,⟨_,rfl,JH _⟩,trivial⟩) (Ch.nil (Fin.UA rfl)))))
structure a_ where
 iS:Int
 DD:List UInt8
 kind:Int
 A7:Int
 bits:Int
 num:Int
 text:List UInt8
 lI:Int
deriving DecidableEq
theorem LH:∀{l m:List Nat},l.Nodup→(∀q∈l,q∈m)→l.length≤m.length
 |[],_,_,_=>Nat.zero_le _
 |a::l,m,hn,h=>by
  have h1:=List.nodup_cons.1 hn
  have h2:=LH (l:=l) (m:=m.erase a) h1.2 (fun q hq=>(List.mem_erase_of_ne (by rintro rfl;exact h1.1 hq)).2 (h q (List.mem_cons_of_mem _ hq)))
  have h3:=List.length_erase_of_mem (h a (by simp))
  have h4:0<m.length:=List.length_pos_of_mem (h a (by simp))
  simp only [List.length_cons];omega
theorem Hg {m:Nat} {l:List Nat} (hn:l.Nodup) (h:∀q∈l,q<m):l.length≤m:=by
 simpa using LH hn (m:=List.range m) (fun q hq=>List.mem_range.2 (h q hq))
theorem Oe {α β:Type} (f:α→Option β) (q:α):[q].filterMap f=(f q).toList:=by
 cases h:f q<;>simp [h]
theorem LI {seen:List Nat} {q m:Nat} (hn:seen.Nodup) (hl:∀x∈seen,x<m) (hq:q∉seen) (j7:q<m):((seen++[q]).Nodup∧∀x∈seen++[q],x<m)∧m-(seen++[q]).length<m-seen.length:=by
 have h1:(seen++[q]).Nodup:=by
  rw [List.nodup_append];exact ⟨hn,by simp,fun a ha b hb=>by simp at hb;subst hb;rintro rfl;exact hq ha⟩
 have h2:∀x∈seen++[q],x<m:=fun x hx=>by
  rcases List.mem_append.1 hx with h|h
  · exact hl x h
  · simp at h;subst h;exact j7
 have h3:=Hg h1 h2
 refine ⟨⟨h1,h2⟩,?_⟩
 simp only [List.length_append,List.length_cons,List.length_nil] at h3 ⊢;omega
theorem Fv {α:Type} {l:List α} {k:Nat} {x:α} (h:l[k]? =some x):k<l.length:=by
 rcases Nat.lt_or_ge k l.length with h'|h'
 · exact h'
 · rw [List.getElem?_eq_none h'] at h;cases h
theorem Uv {α β:Type} (f:α→Option β) {l:List α} {k:Nat} {x:α} (h:l[k]? =some x):(l.take (k+1)).filterMap f=(l.take k).filterMap f++(f x).toList:=by
 rw [List.take_add_one,h,List.filterMap_append];show _++[x].filterMap f=_;rw [Oe]
def Xo (x y:a_):Bool:=decide (x.iS=y.iS∧x.DD=y.DD∧x.kind=y.kind∧x.A7=y.A7∧x.bits=y.bits∧x.num=y.num∧x.text=y.text)
def without (o:List a_) (l:List a_):List a_:=l.filter fun x=> !(o.any (Xo x))
instance:Inhabited a_:=⟨⟨0,[],0,0,0,0,[],0⟩⟩
theorem Qo {m:Nat} {seen:List Nat} (hn:seen.Nodup) (hlt:∀q∈seen,q<m) (hall:∀q,q<m→q∈seen):seen.Perm (List.range m):=by
 rw [List.perm_ext_iff_of_nodup hn List.nodup_range]
 intro q;rw [List.mem_range];exact ⟨hlt q,hall q⟩
theorem Of {α β:Type} (m:List α) (g:α→Option β):((List.range m.length).filterMap fun q=>(m[q]?).bind g)=m.filterMap g:=by
 have key:∀k,k≤m.length→((List.range k).filterMap fun q=>(m[q]?).bind g)=(m.take k).filterMap g:=by
  intro k
  induction k with
  |zero=>intro _;rfl
  |succ k ih=>
   intro hk
   obtain ⟨x,hx⟩:=at_ (l:=m) (k:=k) (by omega)
   rw [List.range_succ,List.filterMap_append,Uv g hx,ih (by omega),Oe,hx];rfl
 rw [key m.length (Nat.le_refl _),List.take_length]
theorem Uw {l:List AO} {b0 cap len:Nat} {sp:List Value} (Dc:l.length=len) (GU:len≤1000000) (hcap:len≤cap) (hm:cap≤maxLen):Am prog 71 [is (.slice (some ⟨b0,0,none⟩) len cap)] (is (.slice (some ⟨b0,0,none⟩) (Ip l).length cap)) (AB true b0 26 ((l.map AR).flatten++sp.map is)) (fun _=>AB true b0 26 (((Ip l).map AR).flatten++((List.replicate (l.length-(Ip l).length) (([.int .i64 0,.string (ByteArray.mk #[]),.int .i64 0,.int .i64 0,.int .i64 0,.int .i64 0,.string (ByteArray.mk #[]),.int .i64 0,.int .i64 0,.int .i64 0,.string (ByteArray.mk #[])]:List Value).map is)).flatten++sp.map is))):=by
 refine Am.of func71 rfl rfl (by exact Nb rfl) fun M0 w0 S rs M1 w1=> ?_
 have Tm:cap≤9223372036854775807:=by unfold maxLen at hm;omega
 refine a2 ?_
 refine co rfl (DQ rfl underlying31 (vl rfl)) ?_
 refine an ?_ ?_<;>intro h1 q1
 refine ac ?_
 refine Tr.ret (Fin.AK ?_)
 refine Fin.Bw rfl rfl ?_ (fun _ _ _ _=>by rw [HZ (by omega),Nat.sub_self];rfl)
 · refine Pr.le_of_eq ?_;rw [HZ (by omega),Dc]
 refine a2 ?_
 refine Tr.block ?_
 refine Tr.Mk [(0,_)] ⟨ke rfl,trivial⟩ (fun (k:Nat)=>[(3,int ((k:Nat):Int))]) (fun (k:Nat)=>Hp M0 w0 S (AB true b0 26 ((l.map AR).flatten++sp.map is)::Aa M1 w1::rs)) (fun (k:Nat)=>(1≤k∧k≤len)∧Ip (l.take k)=l.take k) (fun (k:Nat)=>len-k) (1)  (⟨⟨by omega,by omega⟩,HZ (by rw [List.length_take];omega)⟩) ⟨ke rfl,trivial⟩ (fun _ _ h=>h) ?_
 rintro k  ⟨⟨hk1,hk2⟩,Yd⟩
 refine ac ?_
 refine co rfl (DQ rfl underlying31 (vl rfl)) ?_
 refine an ?_ ?_<;>intro h2 q2
 have GO:k<len:=by have:=of_decide_eq_true h2;omega
 obtain ⟨x,hx⟩:=at_ (l:=l) (k:=k) (by omega)
 obtain ⟨p,hp⟩:=at_ (l:=l) (k:=k-1) (by omega)
 refine a2 ?_
 refine co rfl (AA rfl underlying31 AH (vl rfl) (vl rfl) (by omega) (by omega)) ?_
 refine co rfl (Ai 0 rfl (AE rfl Ac AH (vl rfl) (LC (fun _=>rfl) (by rw [Int.toNat_natCast];exact hx)) rfl)) ?_
 refine ac ?_
 refine co rfl (AA rfl underlying31 AH (vl rfl) (vl rfl) (by omega) (by omega)) ?_
 refine co rfl (Ai 0 rfl (AE rfl Ac AH (vl rfl) (LC (fun _=>rfl) (by rw [show ((k:Int)-1).toNat=k-1 by omega];exact hp)) rfl)) ?_
 refine co rfl (UQ rfl (vl rfl) (vl rfl)) ?_
 refine ac ?_
 refine Wh 0 3 25 rfl ?_
 refine Tr.cn rfl ?_ ?_<;>intro h3 q3
 refine ac ?_
 refine co rfl (A6 rfl underlying31 AH (vl rfl) (vl rfl) (by omega) (by omega) (by omega)) ?_
 refine a2 ?_
 refine Tr.block (Tr.Dz [(0,_),(4,_)] ⟨ke rfl,ke rfl,trivial⟩ (fun (st:List AO) (w:Nat) (j:Nat)=>[(3,int ((w:Nat):Int)),(5,int ((j:Nat):Int))]) (fun (st:List AO) (w:Nat) (j:Nat)=>Hp M0 w0 S (AB true b0 26 ((st.map AR).flatten++sp.map is)::Aa M1 w1::rs)) (fun (st:List AO) (w:Nat) (j:Nat)=>(st.length=len∧k≤w∧1≤j∧k+j≤len∧w+1≤k+j)∧st.take w=Ip (l.take (k+j))∧∀i,k+j≤i+1→st[i]? =l[i]?) (fun (st:List AO) (w:Nat) (j:Nat)=>len-(k+j)) (l) (k) (1)  (⟨⟨Dc,Nat.le_refl _,Nat.le_refl _,by omega,by omega⟩,by rw [NI (by omega) hx hp (JC.2 (by assumption)),Yd],fun _ _=>rfl⟩) ⟨ke rfl,ke rfl,trivial⟩ (fun _ _ h=>h) ?_)
 rintro st w j  ⟨⟨Fz,hw1,RC,hj2,lJ⟩,Yv,hst⟩
 refine ac ?_
 refine co rfl (DQ rfl underlying31 (vl rfl)) ?_
 refine an ?_ ?_<;>intro h4 q4
 have hjl:k+j<len:=by have:=of_decide_eq_true h4;omega
 obtain ⟨u,hu⟩:=at_ (l:=l) (k:=k+j) (by omega)
 obtain ⟨v,hv⟩:=at_ (l:=l) (k:=k+j-1) (by omega)
 have iT:st[k+j]? =some u:=(hst _ (by omega)).trans hu
 have E4:st[k+j-1]? =some v:=(hst _ (by omega)).trans hv
 refine a2 ?_
 refine co rfl (AA rfl underlying31 AH (vl rfl) (vl rfl) (by omega) (by omega)) ?_
 refine co rfl (Ai 0 rfl (AE rfl Ac AH (vl rfl) (He (fun _=>rfl) (by rw [Int.toNat_natCast,Int.toNat_natCast];exact iT)) rfl)) ?_
 refine ac ?_
 refine co rfl (AA rfl underlying31 AH (vl rfl) (vl rfl) (by omega) (by omega)) ?_
 refine co rfl (Ai 0 rfl (AE rfl Ac AH (vl rfl) (He (fun _=>rfl) (by rw [Int.toNat_natCast,show k+((j:Int)-1).toNat=k+j-1 by omega];exact E4)) rfl)) ?_
 refine co rfl (UR rfl (vl rfl) (vl rfl)) ?_
 refine ac ?_
 refine Dv 0 3 4 5 44 rfl ?_
 refine Tr.cn rfl ?_ ?_<;>intro h5 q5
 refine ap ?_
 refine tp rfl (AA rfl underlying31 AH (vl rfl) (vl rfl) (by omega) (by omega)) ?_
 refine TO.rd 0 rfl rfl rfl (by decide) (AE rfl Ac AH (vl rfl) (He (fun _=>rfl) (by rw [Int.toNat_natCast,Int.toNat_natCast];exact iT)) rfl) ?_
 refine tp rfl (AA rfl underlying31 AH (vl rfl) (vl rfl) (by omega) (by omega)) ?_
 refine TO.B4 0 rfl rfl (AU rfl rfl (vl rfl) (Va rfl) AH rfl (by rw [AV (sz:=11) (fun _=>rfl)];omega) (OE (f:=AR) (fun _=>rfl) (by omega))) ?_
 refine ap ?_
 refine ac ?_
 refine Ks 0 3 4 5 rfl ?_
 refine ac ?_
 exact Fin.Ck (st.set w u) (w+1) (j+1)  (⟨⟨⟨by rw [List.length_set];exact Fz,by omega,by omega,by omega,by omega⟩,by rw [SV (by omega),Yv];exact (SU (j:=k+j) (by omega) hu hv (fun e=>absurd (JC.1 e) (by assumption))).symm,fun i hi=>by rw [List.getElem?_set_ne (by omega)];exact hst i (by omega)⟩,by omega⟩) ⟨⟨_,rfl,Ad w⟩,⟨_,rfl,Ad j⟩,ke rfl,ke rfl,trivial⟩ (fun _ _ h=>h)
 refine a2 ?_
 exact Fin.Ck (st) (w) (j+1)  (⟨⟨⟨Fz,by omega,by omega,by omega,by omega⟩,Yv.trans (NI (j:=k+j) (by omega) hu hv (JC.2 (by assumption))).symm,fun i hi=>hst i (by omega)⟩,by omega⟩) ⟨ke rfl,⟨_,rfl,Ad j⟩,ke rfl,ke rfl,trivial⟩ (fun _ _ h=>h)
 have j8:k+j=len:=by have:=of_decide_eq_false h4;omega
 have hE:st.take w=Ip l:=by rw [Yv,j8,←Dc,List.take_length]
 have hW:(Ip l).length=w:=by rw [←hE,List.length_take];omega
 refine ac ?_
 refine ap ?_
 refine tp rfl (A6 rfl underlying31 AH (vl rfl) (vl rfl) (by omega) (by omega) (by omega)) ?_
 refine TO.B4 0 rfl rfl (Rq rfl rfl underlying31 AH E6 rfl (by decide) (by decide) (vl rfl) (by omega) (by rw [AV (sz:=11) (fun _=>rfl)];omega) (Lx (f:=AR) (sz:=11) (l:=st) (i:=w) (fun _=>rfl) rfl (by omega) (by omega))) ?_
 refine ap ?_
 refine ac ?_
 refine co rfl (Fq rfl underlying31 AH (vl rfl) (vl rfl) (by omega) (by omega) (by omega) (by omega)) ?_
 refine ac ?_
 refine Cc 2 rfl (Tr.ret (Fin.AS (Fin.AK (Fin.AK (Fin.AS (Fin.AK (Fin.Bw rfl rfl ?_ (fun _ _ _ _=>by rw [hW,←hE,Dc,←Fz,List.append_assoc]))))))))
 · refine Pr.le_of_eq ?_;rw [hW,Int.toNat_natCast]
 refine a2 ?_
 exact Fin.F8 (k+1)  (⟨⟨⟨by omega,by omega⟩,by rw [SU (by omega) hx hp (fun e=>absurd (JC.1 e) (by assumption)),Yd,List.take_add_one,hx];rfl⟩,by omega⟩) ⟨⟨_,rfl,Ad k⟩,ke rfl,trivial⟩ (fun _ _ h=>h)
 have YS:k=len:=by have:=of_decide_eq_false h2;omega
 refine a2 ?_
 refine Tr.ret ?_
 refine Fin.Bw rfl rfl ?_ (fun _ _ _ _=>by rw [show Ip l=l by rw [YS,←Dc,List.take_length] at Yd;exact Yd,Nat.sub_self];rfl)
 · refine Pr.le_of_eq ?_;rw [show Ip l=l by rw [YS,←Dc,List.take_length] at Yd;exact Yd,Dc]
theorem Sj {l:List AO} (h0:l≠[]) (hl:l.length≤100000):Am prog 68 [slice 11 (l.map AR)] (lens (l.map AR).length) (BP) (fun v=>Co 26 11 (l.map AR) v):=by
 refine Am.of func68 rfl rfl (by exact Nb rfl) fun M0 w0 S rs M1 w1=> ?_
 have hpos:0<l.length:=List.length_pos_iff.2 h0
 refine a2 ?_
 refine co rfl (Mi rfl underlying31 (vl rfl)) ?_
 refine ac ?_
 refine Tr.ex 4 rfl (fun z1=>Tr.fact 4 rfl fun MR=> ?_)
 refine Tr.cn rfl ?_ ?_<;>intro h1 q1
 exfalso;have:=MR h1;simp_all
 refine ac ?_
 refine ap ?_
 refine TO.pad ?_
 refine TO.QK 0 rfl rfl (by decide) (Gd rfl rfl (by decide) rfl underlying31 AH Gu E6 rfl (by decide) (by decide) (vl rfl) (vl rfl) (by rw [List.length_map];exact hpos) (by rw [List.length_map];unfold maxLen;omega) (by rw [List.length_map];omega)) (fun v1=> ?_)
 refine ap ?_
 refine Tr.ret (Fin.drop 1 ?_)
 refine Fin.Bw rfl rfl ?_ (by intro _ _ _ h;rw [h.1])
 · exact Bj _ _
theorem Sk {l:List AO} (hc:∀f∈l,BB f=true) (hf:∀f∈l,f.fits) (h0:l≠[]) (hl:l.length<50):Bb prog 26 [BL l] (ER [BL (LF l),int 0]):=by
 refine fo func26 rfl ⟨rfl,rfl⟩ fun M0 w0=> ?_
 refine a2 ?_
 refine Tr.block (Tr.BX [(0,_),(8,_),(9,_)] (QN rfl) (fun k:Nat=>[(10,int ((k:Nat):Int))]) (fun k:Nat=>k≤(l).length) (fun k:Nat=>(l).length-k) 0 (Nat.zero_le _) ⟨ke rfl,trivial⟩ ?_)
 rintro k DH
 refine ac ?_
 refine Tr.seq ?_
 refine Tr.cn rfl ?_ ?_<;>intro h1 q1
 have A5:k<(l).length:=A_ h1
 obtain ⟨x,A2⟩:=at_ A5
 have lK:=hf x (List.mem_of_getElem? A2)
 refine ac ?_
 refine Tr.seq (Tr.block (Tr.seq (Tr.Cl (tp rfl (AL rfl underlying31 AH (vl rfl) (vl rfl) (by omega) (by exact BN (by assumption))) ?_))))
 refine tp rfl (At rfl Ac AH (vl rfl) rfl rfl) ?_
 refine Tl rfl rfl rfl rfl E6 GZ (fun b1=> ?_)
 refine sf 0 5 ⟨rfl,rfl,rfl⟩ rfl rfl rfl rfl ?_
 refine ao ?_
 · repeat' first|exact absurd (if_pos (hc x (List.mem_of_getElem? A2))) q|exact Fin.AF (k+1) ⟨A5,by omega⟩ ⟨⟨_,rfl,Ad k⟩,ke rfl,ke rfl,ke rfl,trivial⟩|refine co rfl (EC (NB (by assumption)) rfl rfl) ?_|refine ac ?_|(refine Tr.cn rfl ?_ ?_<;>intro h q)
 have CK:k=(l).length:=by have:=BA h1;omega
 subst CK
 refine ac ?_
 refine ao ?_
 refine TO.pad ?_
 refine TO.QK 0 rfl rfl (by decide) (EH rfl rfl (by decide) rfl (Sj h0 (by omega)) ⟨ke rfl,trivial⟩) (fun v1=> ?_)
 refine TO.Je 0 rfl fun b2 Ik iU E4 f_ hm2 j9=> ?_
 subst E4
 refine ao ?_
 refine ao ?_
 refine TO.Dn 0 rfl rfl (by decide) (Ah rfl rfl (by decide) rfl (Us (l:=l) (c:=fun p=>CH p.1 p.2) (len:=(l.map AR).length) (sp:=iU) (List.length_map ..).symm Eo.iR (by rw [List.length_map];exact hl)) ⟨(Ka rfl),⟨_,rfl,BJ SN (fun _=>NC)⟩,trivial⟩) ?_
 refine TO.Bl 0 rfl fun t1 Di=> ?_
 have Kj:=Di.len
 have hsp:=J5 Eo (by simpa using Di)
 have hdn:=Ui hsp.1 hsp.2
 refine ao ?_
 refine ao ?_
 refine TO.Dn 0 rfl rfl (by decide) (Ah rfl rfl (by decide) rfl (Uw (l:=t1) (len:=(l.map AR).length) (sp:=iU) (Kj.trans (List.length_map ..).symm) (by rw [List.length_map];omega) f_ hm2) ⟨(Ka rfl),trivial⟩) ?_
 refine ao ?_
 refine ac ?_
 refine co rfl (DQ rfl underlying31 (vl rfl)) ?_
 refine ac ?_
 refine Fl 7 28 rfl ?_
 refine Tr.cn rfl ?_ ?_<;>intro h3 q3
 exfalso;have:=MB t1;omega
 refine a2 ?_
 refine Tr.ret ?_
 refine Fin.OG (sz:=11) ((Ip t1).map AR) 0 2 rfl rfl (Pr.le_of_eq (by rw [List.length_map])) (BU fun _=>rfl) (by have:=MB t1;simp only [List.length_map] at f_ ⊢;omega) hm2 (by have j_:=MB t1;rw [Kj] at j_;simp only [List.length_append,List.length_map,j9,Kj];rw [Bf (sz:=11) (fun r hr=>by rw [List.eq_of_mem_replicate hr];rfl),List.length_replicate];simp only [List.length_map] at f_ ⊢;omega) ?_
 refine Fin.JM rfl (C1.Ig _ _) rfl ?_ rfl ?_
 · exact Pr.le_trans (Bj _ _) (Pr.le_of_eq (by rw [hdn]))
 · exact Lr
theorem Qp   :Bb prog 68 [BL []] (BL []):=by
 refine fo func68 rfl ⟨rfl,rfl⟩ fun M0 w0=> ?_
 refine a2 ?_
 refine co rfl (Mi rfl underlying31 (vl rfl)) ?_
 refine ac ?_
 refine Tr.ex 4 rfl (fun z1=>Tr.fact 4 rfl fun MR=> ?_)
 refine Tr.cn rfl ?_ ?_<;>intro h1 q1
 refine a2 ?_
 · exact Ag 11
 refine ac ?_
 refine ap ?_
 refine TO.pad ?_
 refine TO.QK 0 rfl rfl (by decide) (XH rfl rfl rfl rfl underlying31 AH Gu E6 (Kf rfl) (vl rfl) (Ed (by exact List.Mem.head _) (vl rfl))) (fun v1=> ?_)
 refine ap ?_
 refine ac ?_
 · exact Bj _ _
theorem Sl   :Bb prog 71 [BL []] (BL []):=by
 refine fo func71 rfl ⟨rfl,rfl⟩ fun M0 w0=> ?_
 · repeat' first|exact Lr|(exfalso;simp at h)|refine ac ?_|(refine Tr.cn rfl ?_ ?_<;>intro h q)
theorem Sm   :Bb prog 26 [BL []] (ER [BL [],int 0]):=by
 refine fo func26 rfl ⟨rfl,rfl⟩ fun M0 w0=> ?_
 refine a2 ?_
 refine Tr.block (Tr.BX [(0,_),(8,_),(9,_)] (QN rfl) (fun (u:Unit)=>[(10,int 0)]) (fun (u:Unit)=>True) (fun (u:Unit)=>0) () (trivial) ⟨ke rfl,trivial⟩ ?_)
 rintro u _
 refine ac ?_
 refine Tr.seq ?_
 refine Tr.cn rfl ?_ ?_<;>intro h1 q1
 exfalso;simp at h1
 have:=h1
 refine a2 ?_
 refine co rfl (EC (Qp) rfl rfl) ?_
 refine a2 ?_
 refine co rfl (Aq rfl (Si (rows:=[]) (by decide)) ⟨ke rfl,⟨_,rfl,JH _⟩,trivial⟩) ?_
 refine a2 ?_
 refine co rfl (EC (Sl) rfl rfl) ?_
 refine a2 ?_
 refine Fl 7 28 rfl ?_
 refine Tr.cn rfl ?_ ?_<;>intro h2 q2
 exfalso;simp at h2
 refine a2 ?_
 refine Tr.ret (Fin.JM rfl (C1.Ig _ _) rfl ?_ rfl ?_)
 · exact Lr
 · exact Lr
theorem Ux {l:List AO} (hc:∀f∈l,BB f=true) (hf:∀f∈l,f.fits) (hl:l.length<50):Bb Tryz.prog 26 [BL l] (ER [BL (LF l),int 0]):=by
 by_cases h:l=[]
 · subst h;exact Sm
 · exact Sk hc hf h hl
def GN (f g:AO):Int:=max (f.day-g.day) (g.day-f.day)
def closer (f g b:AO):Bool:=decide (FE [An (GN f g) (GN f b),An g.day b.day,An g.machine b.machine]<0)
def Dj (f g:AO) (AJ:Int):Bool:=decide (g.machine=0∨¬g.host=f.host∨AJ<GN f g)
def Bm (l:List AO) (f:AO) (AJ:Int):Nat→Int
 |0=> -1
 |k+1=>match l[k]? with
  |none=>Bm l f AJ k
  |some g=>if Dj f g AJ then Bm l f AJ k else if Bm l f AJ k<0 then (k:Nat) else match l[(Bm l f AJ k).toNat]? with
   |none=>(k:Nat)
   |some b=>if closer f g b then (k:Nat) else Bm l f AJ k
abbrev near (l:List AO) (f:AO) (AJ:Int):Int:=Bm l f AJ l.length
theorem FF {l:List AO} {f g:AO} {AJ:Int} {k:Nat} (hg:l[k]? =some g) (h:Dj f g AJ=true):Bm l f AJ (k+1)=Bm l f AJ k:=by
 show (match l[k]? with|none=>_|some g=>_)=_
 rw [hg];exact if_pos h
theorem IU {l:List AO} {f g:AO} {AJ:Int} {k:Nat} (hg:l[k]? =some g) (h:Dj f g AJ=false) (h0:Bm l f AJ k<0):Bm l f AJ (k+1)=(k:Nat):=by
 show (match l[k]? with|none=>_|some g=>_)=_
 rw [hg];show (if Dj f g AJ=true then _ else _)=_
 rw [if_neg (by simp [h]),if_pos h0]
theorem Hh {l:List AO} {f g b:AO} {AJ:Int} {k:Nat} (hg:l[k]? =some g) (h:Dj f g AJ=false) (h0:¬Bm l f AJ k<0) (hb:l[(Bm l f AJ k).toNat]? =some b):Bm l f AJ (k+1)=if closer f g b then ((k:Nat):Int) else Bm l f AJ k:=by
 show (match l[k]? with|none=>_|some g=>_)=_
 rw [hg];show (if Dj f g AJ=true then _ else _)=_
 rw [if_neg (by simp [h]),if_neg h0,hb]
theorem KD (l:List AO) (f:AO) (AJ:Int):∀k,Bm l f AJ k= -1∨(0≤Bm l f AJ k∧(Bm l f AJ k).toNat<k∧∃g,l[(Bm l f AJ k).toNat]? =some g∧Dj f g AJ=false)
 |0=> .inl rfl
 |k+1=>by
  have ih:=KD l f AJ k
  cases hg:l[k]? with
  |none=>
   have e:Bm l f AJ (k+1)=Bm l f AJ k:=by show (match l[k]? with|none=>_|some g=>_)=_;rw [hg]
   rw [e]
   rcases ih with ih|⟨h1,h2,h3⟩
   · exact .inl ih
   · exact .inr ⟨h1,by omega,h3⟩
  |some g=>
   have hk:∀e:Bm l f AJ (k+1)=(k:Nat),Dj f g AJ=false→(Bm l f AJ (k+1)= -1∨(0≤Bm l f AJ (k+1)∧(Bm l f AJ (k+1)).toNat<k+1∧∃g,l[(Bm l f AJ (k+1)).toNat]? =some g∧Dj f g AJ=false)):=by
    intro e hs
    rw [e]
    exact .inr ⟨by omega,by simp,g,by rw [Int.toNat_natCast];exact hg,hs⟩
   have hold:Bm l f AJ (k+1)=Bm l f AJ k→(Bm l f AJ (k+1)= -1∨(0≤Bm l f AJ (k+1)∧(Bm l f AJ (k+1)).toNat<k+1∧∃g,l[(Bm l f AJ (k+1)).toNat]? =some g∧Dj f g AJ=false)):=by
    intro e
    rw [e]
    rcases ih with ih|⟨h1,h2,h3⟩
    · exact .inl ih
    · exact .inr ⟨h1,by omega,h3⟩
   cases hs:Dj f g AJ with
   |true=>exact hold (FF hg hs)
   |false=>
    rcases ih with h1|⟨h1,h2,b,hb,h3⟩
    · exact hk (IU hg hs (by omega)) hs
    ·
     have e:=Hh hg hs (by omega) hb
     cases hc:closer f g b with
     |true=>rw [hc] at e;exact hk e hs
     |false=>rw [hc] at e;exact hold e
def Ew (l:List AO) (AJ:Int) (i:Nat):Int:=match l[i]? with
 |none=>0
 |some f=>if f.machine=0 then (match l[(near l f AJ).toNat]? with|some g=>if near l f AJ<0 then 0 else g.machine|none=>0) else f.machine
theorem Ds {l:List AO} {AJ:Int} {i:Nat} {f:AO} (hf:l[i]? =some f) (h:¬f.machine=0):Ew l AJ i=f.machine:=by
 unfold Ew;rw [hf];exact if_neg h
theorem G8 {l:List AO} {AJ:Int} {i:Nat} {f g:AO} (hf:l[i]? =some f) (h:f.machine=0) (hn:0≤near l f AJ) (hg:l[(near l f AJ).toNat]? =some g):Ew l AJ i=g.machine:=by
 unfold Ew;rw [hf];show (if _ then _ else _)=_
 rw [if_pos h,hg];exact if_neg (by omega)
theorem Hj {l:List AO} {AJ:Int} {i:Nat} {f:AO} (hf:l[i]? =some f) (h:f.machine=0) (hn:near l f AJ<0):Ew l AJ i=0:=by
 unfold Ew;rw [hf];show (if _ then _ else _)=_
 rw [if_pos h];split
 · rw [if_pos hn]
 · rfl
theorem F0 {l:List AO} {f:AO} {AJ:Int} (hn:0≤near l f AJ):(near l f AJ).toNat<l.length∧∃g,l[(near l f AJ).toNat]? =some g∧¬g.machine=0∧g.host=f.host∧GN f g≤AJ:=by
 rcases KD l f AJ l.length with h|⟨h1,h2,g,hg,h3⟩
 ·
  have h:near l f AJ= -1:=h
  omega
 ·
  refine ⟨h2,g,hg,?_⟩
  unfold Dj at h3
  rw [decide_eq_false_iff_not] at h3
  refine ⟨fun e=>h3 (.inl e),Classical.byContradiction fun e=>h3 (.inr (.inl e)),?_⟩
  rcases Int.lt_or_le AJ (GN f g) with h|h
  · exact absurd (.inr (.inr h)) h3
  · exact h
theorem Uy {l:List AO} {AJ:Int} {i:Nat} {f:AO} (hf:l[i]? =some f) (h:¬Ew l AJ i=0):(¬f.machine=0∧Ew l AJ i=f.machine)∨(f.machine=0∧0≤near l f AJ∧∃g,l[(near l f AJ).toNat]? =some g∧g.machine=Ew l AJ i∧¬g.machine=0):=by
 by_cases hm:f.machine=0
 ·
  right
  rcases Int.lt_or_le (near l f AJ) 0 with hn|hn
  · exact absurd (Hj hf hm hn) h
  ·
   obtain ⟨h1,g,hg,h2,_⟩:=F0 hn
   exact ⟨hm,hn,g,hg,(G8 hf hm hn hg).symm,h2⟩
 · exact .inl ⟨hm,Ds hf hm⟩
theorem Sn {l:List AO} {AJ:Int} {i:Nat} {f:AO} (hf:l[i]? =some f) (h:Ew l AJ i=0):f.machine=0∧near l f AJ<0:=by
 by_cases hm:f.machine=0
 ·
  refine ⟨hm,?_⟩
  rcases Int.lt_or_le (near l f AJ) 0 with hn|hn
  · exact hn
  ·
   obtain ⟨h1,g,hg,h2,_⟩:=F0 hn
   rw [G8 hf hm hn hg] at h;exact absurd h h2
 · rw [Ds hf hm] at h;exact absurd h hm
def prevK (l:List AO) (AJ:Int):Nat→Int
 |0=> -1
 |k+1=>if Ew l AJ k=0 then (k:Nat) else prevK l AJ k
theorem F1 (l:List AO) (AJ:Int):∀k,prevK l AJ k= -1∨(0≤prevK l AJ k∧(prevK l AJ k).toNat<k∧Ew l AJ (prevK l AJ k).toNat=0)
 |0=> .inl rfl
 |k+1=>by
  unfold prevK
  split
  · rename_i h;exact .inr ⟨by omega,by simp,by simpa using h⟩
  ·
   rcases F1 l AJ k with h|⟨h1,h2,h3⟩
   · exact .inl h
   · exact .inr ⟨h1,by omega,h3⟩
abbrev FG (l:List AO) (AJ:Int) (p i:Nat):Bool:=match l[p]?,l[i]? with
 |some g,some f=>decide (g.host=f.host∧GN f g≤AJ)
 |_,_=>false
def Aj (l:List AO) (AJ:Int) (i:Nat):Nat:=
 if Ew l AJ i=0 then (if _h:0≤prevK l AJ i∧(prevK l AJ i).toNat<i∧FG l AJ (prevK l AJ i).toNat i=true then Aj l AJ (prevK l AJ i).toNat else i)
 else ((List.range i).find? fun k=>decide (Ew l AJ k=Ew l AJ i)).getD i
termination_by i
decreasing_by omega
theorem IV {l:List AO} {AJ:Int} {i:Nat} (h:Ew l AJ i=0) (hp:0≤prevK l AJ i) (hn:FG l AJ (prevK l AJ i).toNat i=true):Aj l AJ i=Aj l AJ (prevK l AJ i).toNat:=by
 have h2:(prevK l AJ i).toNat<i:=by rcases F1 l AJ i with h1|⟨_,h1,_⟩<;>omega
 rw [Aj,if_pos h,dif_pos ⟨hp,h2,hn⟩]
theorem NQ {l:List AO} {AJ:Int} {i:Nat} (h:Ew l AJ i=0) (hn:¬(0≤prevK l AJ i∧FG l AJ (prevK l AJ i).toNat i=true)):Aj l AJ i=i:=by
 rw [Aj,if_pos h,dif_neg (fun hh=>hn ⟨hh.1,hh.2.2⟩)]
theorem D7 (l:List AO) (AJ:Int):∀i,Aj l AJ i≤i:=by
 intro i
 induction i using Nat.strongRecOn with
 |_ i ih=>
  rw [Aj]
  split
  ·
   split
   · rename_i h;have:=ih _ h.2.1;omega
   · exact Nat.le_refl _
  ·
   cases hf:(List.range i).find? fun k=>decide (Ew l AJ k=Ew l AJ i) with
   |none=>exact Nat.le_refl _
   |some k=>have:=List.mem_range.1 (List.mem_of_find?_eq_some hf);simp;omega
theorem JD {l:List AO} {AJ:Int} {i:Nat} (h:¬Ew l AJ i=0):Ew l AJ (Aj l AJ i)=Ew l AJ i∧∀j,j<Aj l AJ i→¬Ew l AJ j=Ew l AJ i:=by
 rw [Aj,if_neg h]
 cases hf:(List.range i).find? fun k=>decide (Ew l AJ k=Ew l AJ i) with
 |none=>
  rw [List.find?_eq_none] at hf
  exact ⟨rfl,fun j hj e=>hf j (List.mem_range.2 hj) (by simpa using e)⟩
 |some k=>
  rw [List.find?_range_eq_some] at hf
  obtain ⟨h1,h2,h3⟩:=hf
  exact ⟨by simpa using h1,fun j hj=>by simpa using h3 j hj⟩
theorem LJ {l:List AO} {AJ:Int} {i j:Nat} (h:¬Ew l AJ i=0) (e:Ew l AJ j=Ew l AJ i):Aj l AJ j=Aj l AJ i:=by
 obtain ⟨h1,h2⟩:=JD h
 obtain ⟨h3,h4⟩:=JD (i:=j) (by rw [e];exact h)
 rw [e] at h3 h4
 rcases Nat.lt_trichotomy (Aj l AJ j) (Aj l AJ i) with h5|h5|h5
 · exact absurd h3 (h2 _ h5)
 · exact h5
 · exact absurd h1 (h4 _ h5)
def Ca (l:List AO) (m:Int):Nat→Int
 |0=> -1
 |k+1=>if (l[k]?).map (·.machine)=some m then (k:Nat) else Ca l m k
theorem Ep (l:List AO) (m:Int):∀k,Ca l m k= -1∨(0≤Ca l m k∧(Ca l m k).toNat<k∧∃g,l[(Ca l m k).toNat]? =some g∧g.machine=m)
 |0=> .inl rfl
 |k+1=>by
  unfold Ca
  split
  ·
   rename_i h
   rw [Option.map_eq_some_iff] at h
   obtain ⟨g,h1,h2⟩:=h
   exact .inr ⟨by omega,by simp,g,by rw [Int.toNat_natCast];exact h1,h2⟩
  ·
   rcases Ep l m k with h|⟨h1,h2,h3⟩
   · exact .inl h
   · exact .inr ⟨h1,by omega,h3⟩
theorem LK {l:List AO} {m:Int}:∀(k j:Nat) (g:AO),j<k→l[j]? =some g→g.machine=m→(j:Int)≤Ca l m k
 |0,_,_,h,_,_=>absurd h (Nat.not_lt_zero _)
 |k+1,j,g,h,hg,hm=>by
  unfold Ca
  split
  · omega
  ·
   rename_i hk
   have:j<k:=by
    rcases Nat.lt_or_eq_of_le (Nat.le_of_lt_succ h) with h1|h1
    · exact h1
    · rw [h1] at hg;exact absurd (by rw [hg];simp [hm]) hk
   exact LK k j g this hg hm
def Bv (l:List AO) (AJ:Int) (i:Nat):Int:=match l[i]? with
 |none=> -1
 |some f=>if f.machine=0 then (if near l f AJ<0 then (if 0≤prevK l AJ i∧FG l AJ (prevK l AJ i).toNat i=true then prevK l AJ i else -1) else near l f AJ) else Ca l f.machine i
def C9 (R:Nat→Nat) (i k:Nat):Nat→Nat:=fun x=>if R x=max (R i) (R k) then min (R i) (R k) else R x
structure Uz (R:Nat→Nat):Prop where
 le:∀x,R x≤x
 idem:∀x,R (R x)=R x
theorem LL {R:Nat→Nat} (h:Uz R) (i k:Nat):Uz (C9 R i k):=by
 refine ⟨fun x=> ?_,fun x=> ?_⟩
 · unfold C9;have:=h.le x;split<;>omega
 ·
  have hi:=h.idem i
  have hk:=h.idem k
  have hx:=h.idem x
  have hmin:R (min (R i) (R k))=min (R i) (R k):=by rcases Nat.le_total (R i) (R k) with h1|h1;rw [Nat.min_eq_left h1];exact hi;rw [Nat.min_eq_right h1];exact hk
  unfold C9
  by_cases e:R x=max (R i) (R k)
  · rw [if_pos e,hmin];split<;>rfl
  · rw [if_neg e,hx,if_neg e]
theorem Og (R:Nat→Nat) (i k:Nat):C9 R i k i=C9 R i k k:=by
 unfold C9
 rcases Nat.lt_trichotomy (R i) (R k) with h|h|h
 · rw [if_neg (by omega),if_pos (by omega)];omega
 · rw [if_pos (by omega),if_pos (by omega)]
 · rw [if_pos (by omega),if_neg (by omega)];omega
theorem Oh {R:Nat→Nat} {x y:Nat} (h:R x=R y) (i k:Nat):C9 R i k x=C9 R i k y:=by unfold C9;rw [h]
theorem NR {R key:Nat→Nat} (h:∀x y,R x=R y→key x=key y) {i k:Nat} (e:key i=key k):∀x y,C9 R i k x=C9 R i k y→key x=key y:=by
 have hm:∀x,(R x=R i∨R x=R k)→key x=key i:=by
  rintro x (h1|h1)
  · exact h _ _ h1
  · rw [e];exact h _ _ h1
 intro x y hxy
 unfold C9 at hxy
 have h1:max (R i) (R k)=R i∨max (R i) (R k)=R k:=by omega
 have h2:min (R i) (R k)=R i∨min (R i) (R k)=R k:=by omega
 by_cases ex:R x=max (R i) (R k)<;>by_cases ey:R y=max (R i) (R k)
 · rw [hm x (by omega),hm y (by omega)]
 · rw [if_pos ex,if_neg ey] at hxy;rw [hm x (by omega),hm y (by omega)]
 · rw [if_neg ex,if_pos ey] at hxy;rw [hm x (by omega),hm y (by omega)]
 · rw [if_neg ex,if_neg ey] at hxy;exact h _ _ hxy
def RR (l:List AO) (AJ:Int):Nat→Nat→Nat
 |0=>fun x=>x
 |n+1=>if Bv l AJ n<0 then RR l AJ n else C9 (RR l AJ n) n (Bv l AJ n).toNat
theorem MC (l:List AO) (AJ:Int):∀n,Uz (RR l AJ n)
 |0=>⟨fun _=>Nat.le_refl _,fun _=>rfl⟩
 |n+1=>by unfold RR;split;exact MC l AJ n;exact LL (MC l AJ n) _ _
theorem U0 {l:List AO} {AJ:Int} {x y n:Nat} (h:RR l AJ n x=RR l AJ n y):∀m,n≤m→RR l AJ m x=RR l AJ m y:=by
  intro m hm
  induction m with
  | zero => have : n = 0 := by omega
            rw [this] at h;exact h
  |succ m ih=>
    rcases Nat.lt_or_eq_of_le hm with h1|h1
    · unfold RR;split
      · exact ih (by omega)
      · exact Oh (ih (by omega)) _ _
    · rw [←h1];exact h
theorem MD {l:List AO} {AJ:Int} {i n:Nat} (hi:i<n) (he:0≤Bv l AJ i):RR l AJ n i=RR l AJ n (Bv l AJ i).toNat:=by
 refine U0 (n:=i+1) ?_ n hi
 show (if _ then _ else _:Nat→Nat) i=(if _ then _ else _:Nat→Nat) _
 rw [if_neg (by omega)];exact Og _ _ _
theorem Oi {l:List AO} {AJ:Int} {i:Nat} (he:0≤Bv l AJ i):Aj l AJ i=Aj l AJ (Bv l AJ i).toNat:=by
 unfold Bv at he ⊢
 cases hf:l[i]? with
 |none=>rw [hf] at he;exact absurd (show (0:Int)≤ -1 from he) (by decide)
 |some f=>
  rw [hf] at he
  simp only [] at he ⊢
  by_cases hm:f.machine=0
  ·
   rw [if_pos hm] at he ⊢
   by_cases hn:near l f AJ<0
   ·
    rw [if_pos hn] at he ⊢
    by_cases hp:0≤prevK l AJ i∧FG l AJ (prevK l AJ i).toNat i=true
    · rw [if_pos hp];exact IV (Hj hf hm hn) hp.1 hp.2
    · rw [if_neg hp] at he;omega
   ·
    rw [if_neg hn]
    obtain ⟨h1,g,hg,h2,_⟩:=F0 (l:=l) (f:=f) (AJ:=AJ) (by omega)
    have e1:=G8 hf hm (by omega) hg
    have e2:=Ds (AJ:=AJ) hg h2
    exact LJ (by rw [e2];exact h2) (by rw [e1,e2])
  ·
   rw [if_neg hm] at he ⊢
   rcases Ep l f.machine i with h|⟨h1,h2,g,hg,h3⟩
   · omega
   ·
    have e1:=Ds (AJ:=AJ) hf hm
    have e2:=Ds (AJ:=AJ) hg (by rw [h3];exact hm)
    exact LJ (by rw [e2,h3];exact hm) (by rw [e1,e2,h3])
theorem KE (l:List AO) (AJ:Int):∀n x y,RR l AJ n x=RR l AJ n y→Aj l AJ x=Aj l AJ y
 |0,_,_,h=>by have h:_=_:=h;exact congrArg _ h
 |n+1,x,y,h=>by
  unfold RR at h
  split at h
  · exact KE l AJ n x y h
  · exact NR (KE l AJ n) (Oi (by omega)) x y h
theorem KF {l:List AO} {AJ:Int} {i:Nat} {f:AO} (hf:l[i]? =some f) (h:¬f.machine=0):Bv l AJ i=Ca l f.machine i:=by unfold Bv;rw [hf];exact if_neg h
theorem Hl {l:List AO} {AJ:Int} {i:Nat} {f:AO} (hf:l[i]? =some f) (h:f.machine=0) (hn:¬near l f AJ<0):Bv l AJ i=near l f AJ:=by unfold Bv;rw [hf];show (if _ then _ else _)=_;rw [if_pos h,if_neg hn]
theorem Gj {l:List AO} {AJ:Int} {i:Nat} {f:AO} (hf:l[i]? =some f) (h:f.machine=0) (hn:near l f AJ<0):Bv l AJ i=if 0≤prevK l AJ i∧FG l AJ (prevK l AJ i).toNat i=true then prevK l AJ i else -1:=by unfold Bv;rw [hf];show (if _ then _ else _)=_;rw [if_pos h,if_pos hn]
theorem KG {l:List AO} {AJ:Int} {m:Int} (hm:¬m=0):∀j i f g,i<j→l[i]? =some f→l[j]? =some g→f.machine=m→g.machine=m→RR l AJ l.length i=RR l AJ l.length j:=by
 intro j
 induction j using Nat.strongRecOn with
 |_ j ih=>
  intro i f g hij hf hg bA Ye
  have hjl:=(show j<l.length by rcases Nat.lt_or_ge j l.length with h|h;exact h;rw [List.getElem?_eq_none h] at hg;cases hg)
  have he:=KF (AJ:=AJ) hg (by rw [Ye];exact hm)
  have Cy:=LK j i f hij hf (by rw [bA,←Ye])
  rcases Ep l g.machine j with h|⟨h1,h2,u,hu,h3⟩
  · omega
  ·
   have hj:=MD (n:=l.length) hjl (by rw [he];exact h1)
   rw [he] at hj
   rcases Nat.lt_or_eq_of_le (show i≤(Ca l g.machine j).toNat by omega) with h4|h4
   · rw [hj];exact ih _ h2 i f u h4 hf hu bA (by rw [h3,Ye])
   · rw [hj,h4]
theorem NS {l:List AO} {AJ:Int} {m:Int} (hm:¬m=0) {i j:Nat} {f g:AO} (hf:l[i]? =some f) (hg:l[j]? =some g) (bA:f.machine=m) (Ye:g.machine=m):RR l AJ l.length i=RR l AJ l.length j:=by
 rcases Nat.lt_trichotomy i j with h|h|h
 · exact KG hm j i f g h hf hg bA Ye
 · rw [h]
 · exact (KG hm i j g f h hg hf Ye bA).symm
theorem LM {l:List AO} {AJ:Int} {i:Nat} (hi:i<l.length) (h:¬Ew l AJ i=0):∃j g,l[j]? =some g∧g.machine=Ew l AJ i∧RR l AJ l.length i=RR l AJ l.length j:=by
 obtain ⟨f,hf⟩:=at_ hi
 rcases Uy hf h with ⟨h1,h2⟩|⟨h1,h2,g,hg,h3,h4⟩
 · exact ⟨i,f,hf,h2.symm,rfl⟩
 ·
  have he:=Hl (AJ:=AJ) hf h1 (by omega)
  have:=MD (n:=l.length) hi (by rw [he];exact h2)
  rw [he] at this
  exact ⟨_,g,hg,h3,this⟩
theorem Py {l:List AO} {AJ:Int}:∀i,i<l.length→RR l AJ l.length i=RR l AJ l.length (Aj l AJ i):=by
 intro i
 induction i using Nat.strongRecOn with
 |_ i ih=>
  intro hi
  obtain ⟨f,hf⟩:=at_ hi
  by_cases h:Ew l AJ i=0
  ·
   obtain ⟨h1,h2⟩:=Sn hf h
   by_cases hp:0≤prevK l AJ i∧FG l AJ (prevK l AJ i).toNat i=true
   ·
    have he:=Gj hf h1 h2
    rw [if_pos hp] at he
    have h3:=MD (n:=l.length) hi (by rw [he];exact hp.1)
    rw [he] at h3
    have h4:(prevK l AJ i).toNat<i:=by rcases F1 l AJ i with h5|⟨_,h5,_⟩<;>omega
    rw [h3,IV h hp.1 hp.2]
    exact ih _ h4 (by omega)
   · rw [NQ h hp]
  ·
   obtain ⟨h1,_⟩:=JD h
   have hr:=D7 l AJ i
   obtain ⟨j,g,hg,h2,h3⟩:=LM hi h
   obtain ⟨j',g',hg',h4,h5⟩:=LM (l:=l) (AJ:=AJ) (i:=Aj l AJ i) (by omega) (by rw [h1];exact h)
   rw [h3,h5]
   exact NS h hg hg' h2 (by rw [h4,h1])
theorem Pz {l:List AO} {AJ:Int} {i:Nat} (hi:i<l.length):RR l AJ l.length i=Aj l AJ i:=by
 have hr:=MC l AJ l.length
 have h1:=Py (AJ:=AJ) i hi
 have h2:=hr.le (Aj l AJ i)
 have h3:=KE l AJ l.length _ _ (hr.idem i)
 have h4:=D7 l AJ (RR l AJ l.length i)
 omega
theorem Oj {l:List AO} {AJ:Int} {i:Nat} (hi:i<l.length):Aj l AJ (Aj l AJ i)=Aj l AJ i:=by
 have hr:=MC l AJ l.length
 have h1:=D7 l AJ i
 rw [←Pz (l:=l) (AJ:=AJ) (i:=Aj l AJ i) (by omega),←Py i hi,Pz hi]
structure Ir where
 num:Int
 BD:List (List UInt8)
 Az:List Int
 BL:List Int
deriving DecidableEq
section
variable {α:Type}
def DF (c:α→α→Int) (l:List α) (x:α):List α:=match l with
 |[]=>[x]
 |y::r=>if c y x<0 then y::DF c r x else if c y x=0 then y::r else x::y::r
theorem NT {c:α→α→Int} (he:∀x y,c x y=0→x=y) {x z:α}:∀{l:List α},z∈DF c l x↔z∈l∨z=x
 |[]=>by simp [DF]
 |y::r=>by
  unfold DF
  split
  · rw [List.mem_cons,NT he,List.mem_cons,or_assoc]
  ·
   split
   ·
    rename_i h
    constructor
    · exact .inl
    ·
     rintro (h1|rfl)
     · exact h1
     · rw [←he _ _ h];exact List.mem_cons_self ..
   ·
    rw [List.mem_cons]
    constructor
    ·
     rintro (h|h)
     · exact .inr h
     · exact .inl h
    ·
     rintro (h|h)
     · exact .inr h
     · exact .inl h
theorem EM {c:α→α→Int} (hc:HY c) (he:∀x y,c x y=0→x=y) {x:α}:∀{l:List α},l.Pairwise (fun a b=>c a b<0)→(DF c l x).Pairwise (fun a b=>c a b<0)
 |[],_=>by unfold DF;simp
 |y::r,h=>by
  obtain ⟨h1,h2⟩:=List.pairwise_cons.1 h
  unfold DF
  split
  ·
   rename_i hlt
   refine List.pairwise_cons.2 ⟨fun z hz=> ?_,EM hc he h2⟩
   rcases (NT he).1 hz with hz|rfl
   · exact h1 z hz
   · exact hlt
  ·
   split
   · exact h
   ·
    rename_i hn h0
    have hs:=hc.swap y x
    have hxy:c x y<0:=by omega
    refine List.pairwise_cons.2 ⟨fun z hz=> ?_,h⟩
    rcases List.mem_cons.1 hz with rfl|hz
    · exact hxy
    · exact hc.tr x y z hxy (h1 z hz)
theorem G9 (c:α→α→Int) (x:α):∀l:List α,(DF c l x).length≤l.length+1
 |[]=>by simp [DF]
 |y::r=>by
  unfold DF
  have:=G9 c x r
  split
  · simp only [List.length_cons];omega
  · split<;>simp
theorem ME {c:α→α→Int} {x:α}:∀{l:List α} {k:Nat},k≤l.length→(∀(j:Nat) y,j<k→l[j]? =some y→c y x<0)→(∀y,l[k]? =some y→¬c y x<0)→DF c l x=if (l[k]?).any (fun y=>decide (c y x=0)) then l else l.take k++x::l.drop k
 |[],k,hk,_,_=>by
  have:k=0:=by simpa using hk
  subst this;rfl
 |y::r,0,_,_,h2=>by
  have:=h2 y rfl
  unfold DF
  rw [if_neg this]
  show _=if (some y).any _ then _ else _
  by_cases h:c y x=0
  · rw [if_pos h,if_pos (by simp [h])]
  · rw [if_neg h,if_neg (by simp [h])];rfl
 |y::r,k+1,hk,h1,h2=>by
  have h:=h1 0 y (by omega) rfl
  unfold DF
  rw [if_pos h,ME (k:=k) (by simpa using hk) (fun j z hj hz=>h1 (j+1) z (by omega) (by simpa using hz)) (fun z hz=>h2 z (by simpa using hz))]
  rw [List.getElem?_cons_succ]
  split<;>simp
end
abbrev Dd (l:List (List UInt8)) (x:List UInt8):List (List UInt8):=DF Lib.compareBytes l x
abbrev MF (l:List Int) (x:Int):List Int:=DF An l x
def F2 (e:Ir) (f:AO) (i:Int):Ir:=⟨e.num,Dd e.BD f.host,if f.machine=0 then e.Az else MF e.Az f.machine,e.BL++[i]⟩
def CV (l:List AO) (root:Nat→Nat) (r:Nat):Nat→Ir
 |0=>⟨(r:Nat),[],[],[]⟩
 |n+1=>match l[n]? with
  |none=>CV l root r n
  |some f=>if root n=r then F2 (CV l root r n) f (n:Nat) else CV l root r n
def Be (root:Nat→Nat) (n:Nat):List Nat:=(List.range n).filter fun r=>decide (root r=r)
def B8 (l:List AO) (root:Nat→Nat) (n:Nat):List Ir:=(Be root n).map fun r=>CV l root r n
abbrev G_ (l:List AO) (AJ:Int):List Ir:=B8 l (Aj l AJ) l.length
theorem F3 (root:Nat→Nat) (n:Nat):Be root (n+1)=Be root n++if root n=n then [n] else []:=by
 unfold Be
 rw [List.range_succ,List.filter_append]
 congr 1
 by_cases h:root n=n<;>simp [h]
theorem Ho {root:Nat→Nat} {n r:Nat} (h:r∈Be root n):r<n∧root r=r:=by
 unfold Be at h
 rw [List.mem_filter,List.mem_range] at h
 exact ⟨h.1,by simpa using h.2⟩
theorem Ol (root:Nat→Nat) (n:Nat):(Be root n).Pairwise (· < ·):=(List.pairwise_lt_range).filter _
theorem Hq {l:List AO} {root:Nat→Nat} (hle:∀i,root i≤i) {r:Nat}:∀n,n≤r→CV l root r n=⟨(r:Nat),[],[],[]⟩
 |0,_=>rfl
 |n+1,h=>by
  unfold CV
  have:=hle n
  rw [Hq hle n (by omega)]
  split
  · rfl
  · rw [if_neg (by omega)]
theorem KH {l:List AO} {root:Nat→Nat} {r n:Nat} {f:AO} (hf:l[n]? =some f) (h:root n=r):CV l root r (n+1)=F2 (CV l root r n) f (n:Nat):=by
 show (match l[n]? with|none=>_|some f=>_)=_
 rw [hf];exact if_pos h
theorem MG {l:List AO} {root:Nat→Nat} {r n:Nat} (h:¬root n=r):CV l root r (n+1)=CV l root r n:=by
 show (match l[n]? with|none=>_|some f=>_)=_
 split
 · rfl
 · exact if_neg h
theorem B9 {α:Type} {l:List α} {k:Nat} {x:α} (h:l[k]? =some x):k<l.length:=by
 rcases Nat.lt_or_ge k l.length with h'|h'
 · exact h'
 · rw [List.getElem?_eq_none h'] at h;cases h
theorem Om {l:List AO} {root:Nat→Nat} (hle:∀i,root i≤i) {n:Nat} {f:AO} (hf:l[n]? =some f) {k:Nat} (hk:(Be root (n+1))[k]? =some (root n)):
  B8 l root (n+1)=(B8 l root n++if root n=n then [(⟨(n:Nat),[],[],[]⟩:Ir)] else []).set k (F2 (CV l root (root n) n) f (n:Nat)):=by
 have e1:(B8 l root n++if root n=n then [(⟨(n:Nat),[],[],[]⟩:Ir)] else [])=(Be root (n+1)).map fun r=>CV l root r n:=by
  rw [F3,List.map_append]
  unfold B8
  congr 1
  split
  · rw [List.map_singleton,Hq hle n (Nat.le_refl _)]
  · rfl
 rw [e1]
 unfold B8
 refine List.ext_getElem? fun j=> ?_
 rw [List.getElem?_map,List.getElem?_set]
 have GO:=B9 hk
 by_cases hj:k=j
 ·
  subst hj
  rw [if_pos rfl,List.length_map,if_pos GO,hk]
  exact congrArg some (KH hf rfl)
 ·
  rw [if_neg hj,List.getElem?_map]
  cases hr:(Be root (n+1))[j]? with
  |none=>rfl
  |some r=>
   refine congrArg some (MG fun e=> ?_)
   subst e
   have hp:=Ol root (n+1)
   have hjl:=B9 hr
   rw [List.pairwise_iff_getElem] at hp
   rw [List.getElem?_eq_getElem GO] at hk
   rw [List.getElem?_eq_getElem hjl] at hr
   simp only [Option.some.injEq] at hk hr
   rcases Nat.lt_or_gt_of_ne hj with h|h
   · have:=hp k j GO hjl h;omega
   · have:=hp j k hjl GO h;omega
structure UF (p:List Int) (R:Nat→Nat):Prop where
 len:p.length=400
 rep:Uz R
 par:∀x,x<400→∃y:Nat,p[x]? =some (y:Int)∧y≤x∧R y=R x∧(y=x↔R x=x)
theorem UF.join {p:List Int} {R:Nat→Nat} (h:UF p R) {i k:Nat} (hi:i<400) (hk:k<400):UF (p.set (max (R i) (R k)) ((min (R i) (R k):Nat):Int)) (C9 R i k):=by
 have h1:=h.rep.le i
 have h2:=h.rep.le k
 have h3:=h.rep.idem i
 have h4:=h.rep.idem k
 have hmin:R (min (R i) (R k))=min (R i) (R k):=by rcases Nat.le_total (R i) (R k) with h1|h1;rw [Nat.min_eq_left h1];exact h3;rw [Nat.min_eq_right h1];exact h4
 have Cy:R (max (R i) (R k))=max (R i) (R k):=by rcases Nat.le_total (R i) (R k) with h1|h1;rw [Nat.max_eq_right h1];exact h4;rw [Nat.max_eq_left h1];exact h3
 refine ⟨by rw [List.length_set];exact h.len,LL h.rep i k,fun x hx=> ?_⟩
 by_cases e:x=max (R i) (R k)
 ·
  subst e
  refine ⟨min (R i) (R k),List.getElem?_set_self (by rw [h.len];omega),by omega,?_,?_⟩
  · unfold C9;rw [hmin,Cy,if_pos rfl];split<;>rfl
  · unfold C9;rw [Cy,if_pos rfl]
 ·
  obtain ⟨y,hy,h5,h6,h7⟩:=h.par x hx
  refine ⟨y,by rw [List.getElem?_set_ne (by omega)];exact hy,h5,by unfold C9;rw [h6],?_⟩
  have hle:=h.rep.le x
  constructor
  ·
   intro e2
   have hr:=h7.1 e2
   unfold C9;rw [if_neg (by omega)];exact hr
  ·
   intro e2
   unfold C9 at e2
   by_cases hm:R x=max (R i) (R k)
   ·
    rw [if_pos hm] at e2
    rw [←e2,hmin] at hm
    omega
   · rw [if_neg hm] at e2;exact h7.2 e2
def EN (k:Nat):List Int:=(List.range k).map (fun n=>((n:Nat):Int))++List.replicate (400-k) 0
theorem Qq {k:Nat} (hk:k<400):(EN k).set k ((k:Nat):Int)=EN (k+1):=by
 unfold EN
 rw [List.set_append_right _ _ (by simp)]
 simp only [List.length_map,List.length_range,Nat.sub_self]
 rw [show 400-k=(400-(k+1))+1 by omega,List.replicate_succ,List.set_cons_zero,List.range_succ,List.map_append,List.append_assoc];rfl
theorem Hr {k:Nat} (hk:k≤400):(EN k).length=400:=by unfold EN;simp;omega
theorem UF.start:UF (EN 400) (fun x=>x):=
 ⟨Hr (Nat.le_refl _),⟨fun _=>Nat.le_refl _,fun _=>rfl⟩,fun x hx=>⟨x,by unfold EN;rw [List.getElem?_append_left (by simpa using hx),List.getElem?_map,List.getElem?_range hx];rfl,Nat.le_refl _,rfl,by simp⟩⟩
abbrev arr (p:List Int):List Pr:=p.map fun n=>int n
theorem Xp {p:List Int} {i:Nat} {x:Int} (h:p[i]? =some x):(arr p)[i]? =some (int x):=by rw [List.getElem?_map,h];rfl
theorem P3 {p:List Int} {i:Int} {x:Int} (h:p[i.toNat]? =some x):(arr p)[0+i.toNat*1]? =some (int x):=by rw [Nat.zero_add,Nat.mul_one];exact Xp h
theorem P4 {p:List Int} {i:Nat} {x:Int} (h:i<p.length):(arr p).take i++[int x]++(arr p).drop (i+1)=arr (p.set i x):=by
 unfold arr
 rw [List.map_set,List.set_eq_take_append_cons_drop,if_pos (by simpa using h)];simp
theorem IW {l:List AO} {AJ:Int} {i k:Nat} (h:¬Ew l AJ i=0) (hki:k≤i) (hk:Ew l AJ k=Ew l AJ i) (hno:∀j,j<k→¬Ew l AJ j=Ew l AJ i):Aj l AJ i=k:=by
 obtain ⟨h1,h2⟩:=JD h
 rcases Nat.lt_trichotomy (Aj l AJ i) k with h3|h3|h3
 · exact absurd h1 (hno _ h3)
 · exact h3
 · exact absurd hk (h2 _ h3)
def MH (l:List AO):Prop:=∀f∈l,0≤f.day∧f.day≤40000
theorem JE {l:List AO} (h:MH l) {i:Nat} {f:AO} (hf:l[i]? =some f):0≤f.day∧f.day≤40000:=h f (List.mem_of_getElem? hf)
theorem KI {f g:AO} {AJ:Int} (h:g.machine=0∨¬g.host=f.host∨AJ<GN f g):Dj f g AJ=true:=by unfold Dj;simpa using h
theorem MI {f g:AO} {AJ:Int} (h1:¬g.machine=0) (h2:g.host=f.host) (h3:¬AJ<GN f g):Dj f g AJ=false:=by unfold Dj;simp [h1,h2];omega
theorem Qr {l:List AO} {f:AO} {AJ:Int} {k:Nat} (hk:k≤l.length) (h:0≤Bm l f AJ k):(Bm l f AJ k).toNat<l.length∧∃b,l[(Bm l f AJ k).toNat]? =some b:=by
 rcases KD l f AJ k with h1|⟨_,h2,b,hb,_⟩
 · omega
 · exact ⟨by omega,b,hb⟩
abbrev Xq (e:Ir):List Pr:=[int e.num,strs e.BD,ints e.Az,ints e.BL]
abbrev Qs (l:List Ir):Pr:=slice 4 (l.map Xq)
def gA (l:List Ir) (v:Int):Int:=match l.find? (fun e=>e.BL.any fun x=>v==x) with
 |some e=>e.num
 |none=> -1
theorem EJ {α:Type} {p:α→Bool} {l:List α} {k:Nat} {x:α} (hx:l[k]? =some x) (hno:(l.take k).find? p=none) (hp:p x=true):l.find? p=some x:=by
 have hk:=B9 hx
 rw [List.getElem?_eq_getElem hk] at hx
 cases hx
 conv=>lhs;rw [←List.take_append_drop k l,List.drop_eq_getElem_cons hk]
 rw [List.find?_append,hno,List.find?_cons_of_pos hp];rfl
theorem U1 {α:Type} {p:α→Bool} {l:List α} {k:Nat} {x:α} (hx:l[k]? =some x) (hno:(l.take k).find? p=none) (hp:p x=false):(l.take (k+1)).find? p=none:=by
 rw [List.take_add_one,hx,List.find?_append,hno];simp [hp]
theorem NU (l:List AO) (root:Nat→Nat) (r:Nat):∀k,(CV l root r k).BL.length≤k∧(CV l root r k).BD.length≤k∧(CV l root r k).Az.length≤k
 |0=>⟨Nat.zero_le _,Nat.zero_le _,Nat.zero_le _⟩
 |k+1=>by
  obtain ⟨h1,h2,h3⟩:=NU l root r k
  by_cases h:root k=r
  ·
   cases hf:l[k]? with
   |none=>
    have:CV l root r (k+1)=CV l root r k:=by simp only [CV,hf]
    rw [this];omega
   |some f=>
    rw [KH hf h]
    unfold F2
    have h4:(Dd (CV l root r k).BD f.host).length≤_:=G9 Lib.compareBytes f.host (CV l root r k).BD
    have h5:(MF (CV l root r k).Az f.machine).length≤_:=G9 An f.machine (CV l root r k).Az
    refine ⟨by simp;omega,by show (Dd _ _).length≤_;omega,?_⟩
    show (if f.machine=0 then _ else _:List Int).length≤_
    split<;>omega
  · rw [MG h];omega
open Classical in
noncomputable def EY (l:List AO) (AJ:Int):List Ir×Int:=if CS l then (if AJ<0∨4000<AJ then ([],2) else (G_ l AJ,0)) else ([],24)
theorem KJ {l:List AO} {AJ:Int} (h:¬CS l):EY l AJ=([],24):=by unfold EY;rw [if_neg h]
theorem KK {l:List AO} {AJ:Int} (h:CS l) (hg:AJ<0∨4000<AJ):EY l AJ=([],2):=by unfold EY;rw [if_pos h,if_pos hg]
theorem FH {l:List AO} {AJ:Int} (h:CS l) (hg:0≤AJ∧AJ≤4000):EY l AJ=(G_ l AJ,0):=by unfold EY;rw [if_pos h,if_neg (by omega)]
theorem U2 {l:List AO} (h:CS l):MH l:=fun f hf=>by
 have:=h.check f hf
 unfold BB Cu at this
 simp at this;omega
theorem FI {f g:AO} (hf:0≤f.day∧f.day≤40000) (hg:0≤g.day∧g.day≤40000):Bb prog 91 [agg (AR f),agg (AR g)] (int (GN f g)):=by
 refine fo func91 rfl ⟨rfl,rfl⟩ fun M0 w0=> ?_
 refine a2 ?_
 refine co rfl (RK rfl (vl rfl) (vl rfl)) ?_
 refine ac ?_
 refine Cc 4 rfl ?_
 refine ac ?_
 · exact Lr
theorem U3 {l:List AO} {f:AO} {AJ:Int} (hd:MH l) (kC:0≤f.day∧f.day≤40000):Bb prog 90 [BL l,agg (AR f),int AJ] (int (near l f AJ)):=by
 refine fo func90 rfl ⟨rfl,rfl⟩ fun M0 w0=>(Tr.HN 0 rfl fun G4=> ?_)
 refine a3 ?_
 refine Tr.block (Tr.BX [(0,_),(2,_),(4,_),(10,_),(11,_)] (N9 rfl) (fun k:Nat=>[(12,int ((k:Nat):Int)),(7,int (Bm l f AJ k))]) (fun k:Nat=>k≤(l).length) (fun k:Nat=>(l).length-k) 0 (Nat.zero_le _) ⟨ke rfl,ke rfl,trivial⟩ ?_)
 rintro k DH
 refine ac ?_
 refine Tr.seq ?_
 refine Tr.cn rfl ?_ ?_<;>intro h1 q1
 have A5:k<(l).length:=A_ h1
 obtain ⟨g,A2⟩:=at_ A5
 have hgd:=JE hd A2
 refine ac ?_
 refine ao ?_
 refine tp rfl (AL rfl underlying31 AH (vl rfl) (vl rfl) (by omega) (by exact BN (by assumption))) ?_
 refine tp rfl (At rfl Ac AH (vl rfl) rfl rfl) ?_
 refine Tl rfl rfl rfl rfl E6 GZ (fun b1=> ?_)
 refine tm rfl ?_
 refine sf 0 9 ⟨rfl,rfl,rfl⟩ rfl rfl rfl rfl ?_
 refine ao ?_
 refine RB 0 2 4 7 8 9 10 11 12 rfl ?_
 refine ag ?_ ?_<;>intro h2 q2
 refine ac ?_
 refine C6 0 2 4 7 8 9 10 11 12 33 rfl ?_
 refine a2 ?_
 exact Fin.AF (k+1) ⟨A5,by omega⟩ ⟨⟨_,rfl,Ad k⟩,⟨_,rfl,int_eq (by exact (FF A2 (KI (by exact .inl (by assumption)))).symm)⟩,ke rfl,ke rfl,ke rfl,ke rfl,ke rfl,trivial⟩
 refine ag ?_ ?_<;>intro h3 q3
 refine ac ?_
 refine C6 0 2 4 7 8 9 10 11 12 33 rfl ?_
 refine a2 ?_
 exact Fin.AF (k+1) ⟨A5,by omega⟩ ⟨⟨_,rfl,Ad k⟩,⟨_,rfl,int_eq (by exact (FF A2 (KI (by exact .inr (.inl (by assumption))))).symm)⟩,ke rfl,ke rfl,ke rfl,ke rfl,ke rfl,trivial⟩
 refine ac ?_
 refine cy h3 rfl (Jx (FI (by assumption) (by assumption)) rfl rfl rfl) ?_
 refine ac ?_
 refine C6 0 2 4 7 8 9 10 11 12 33 rfl ?_
 refine Tr.cn rfl ?_ ?_<;>intro h4 q4
 refine a2 ?_
 exact Fin.AF (k+1) ⟨A5,by omega⟩ ⟨⟨_,rfl,Ad k⟩,⟨_,rfl,int_eq (by exact (FF A2 (KI (by exact .inr (.inr (by omega))))).symm)⟩,ke rfl,ke rfl,ke rfl,ke rfl,ke rfl,trivial⟩
 refine ac ?_
 refine ag ?_ ?_<;>intro h5 q5
 refine ac ?_
 refine RB 0 2 4 7 8 10 11 12 66 rfl ?_
 refine a2 ?_
 exact Fin.AF (k+1) ⟨A5,by omega⟩ ⟨⟨_,rfl,Ad k⟩,⟨_,rfl,int_eq (by exact (IU A2 (MI (by assumption) (by assumption) (by omega)) (by omega)).symm)⟩,ke rfl,ke rfl,ke rfl,ke rfl,ke rfl,trivial⟩
 obtain ⟨hnk,b,hb⟩:=Qr (by omega) q5
 have hbd:=JE hd hb
 · repeat' first|(exact Fin.AF (k+1) ⟨A5,by omega⟩ ⟨⟨_,rfl,Ad k⟩,⟨_,rfl,int_eq (by rw [Hh A2 (MI (by assumption) (by assumption) (by omega)) (by omega) hb];have kD:=GG [An (GN f g) (GN f b),An g.day b.day,An g.machine b.machine];unfold closer;rw [if_pos (decide_eq_true (by omega))])⟩,ke rfl,ke rfl,ke rfl,ke rfl,ke rfl,trivial⟩)|(exact Fin.AF (k+1) ⟨A5,by omega⟩ ⟨⟨_,rfl,Ad k⟩,⟨_,rfl,int_eq (by rw [Hh A2 (MI (by assumption) (by assumption) (by omega)) (by omega) hb];have kD:=GG [An (GN f g) (GN f b),An g.day b.day,An g.machine b.machine];unfold closer;rw [if_neg (by rw [decide_eq_true_eq];omega)])⟩,ke rfl,ke rfl,ke rfl,ke rfl,ke rfl,trivial⟩)|refine cy h5 rfl (Jx (FI (by assumption) (by assumption)) rfl rfl rfl) ?_|refine cy h5 rfl (AL rfl underlying31 AH (vl rfl) (vl rfl) (by omega) (CD hb)) (cy h5 rfl (At rfl Ac AH (vl rfl) rfl rfl) (cy h5 rfl (Jx (FI (by assumption) (by assumption)) rfl rfl rfl) (cy h5 rfl (Jx (HX) rfl rfl rfl) ?_)))|refine cy h5 rfl (Jx (HX) rfl rfl rfl) ?_|refine cy h5 rfl (Jx (HX) rfl rfl rfl) (cy h5 rfl (Aw (xs:=[.tmp 46,.tmp 54,.tmp 62]) (rows:=[[_],[_],[_]]) rfl rfl underlying22 DB z3 rfl (by decide) ⟨⟨(by exact rfl),(Vo rfl)⟩,⟨⟨(by exact rfl),(Vo rfl)⟩,⟨⟨(by exact rfl),(Vo rfl)⟩,trivial⟩⟩⟩ (by decide)) ?_)|refine cy h5 rfl (Aq rfl (WK (l:=[An (GN f g) (GN f b),An g.day b.day,An g.machine b.machine])) ⟨(Kf rfl),trivial⟩) ?_|refine cy h5 rfl (AL rfl underlying31 AH (vl rfl) (vl rfl) (by omega) (CD hb)) ?_|refine ac ?_|(refine Tr.cn rfl ?_ ?_<;>intro h q)
 have CK:k=(l).length:=by have:=BA h1;omega
 subst CK
 refine a3 ?_
 · exact Lr
open Classical in
noncomputable def FJ (l:List AO) (AJ:Int):Int:=if CS l then (if AJ<0∨4000<AJ then 2 else 0) else 24
theorem So {l:List AO} {AJ:Int} (hf:∀f∈l,f.fits):Bb prog 46 [BL l,int AJ] (int (FJ l AJ)):=by
 refine fo func46 rfl ⟨rfl,rfl⟩ fun M0 w0=> ?_
 haveI:=Classical.propDecidable (CS l)
 · repeat' first|(exact int_eq (by unfold FJ;rw [if_neg (by assumption)]))|(exact int_eq (by unfold FJ;rw [if_pos (by assumption),if_pos (by omega)]))|(exact int_eq (by unfold FJ;rw [if_pos (by assumption),if_neg (by omega)]))|refine co rfl (EC (K_ (by assumption)) rfl rfl) ?_|refine ac ?_|(refine Tr.cn rfl ?_ ?_<;>intro h q)|(refine Ch.cg rfl rfl rfl ?_ ?_<;>intro h q)
theorem bB {l:List Ir} {v:Int}  :Bb prog 24 [Qs l,int v] (int (gA l v)):=by
 refine fo func24 rfl ⟨rfl,rfl⟩ fun M0 w0=>(Tr.HN 0 rfl fun G4=> ?_)
 refine a2 ?_
 refine Tr.block (Tr.BX [(1,_),(7,_),(8,_)] (QN rfl) (fun k:Nat=>[(9,int ((k:Nat):Int))]) (fun k:Nat=>k≤(l).length∧((l.take k).find? (fun e=>e.BL.any fun x=>v==x)=none)) (fun k:Nat=>(l).length-k) 0 (⟨Nat.zero_le _,rfl⟩) ⟨ke rfl,trivial⟩ ?_)
 rintro k ⟨DH,A0⟩
 refine ac ?_
 refine Tr.seq ?_
 refine Tr.cn rfl ?_ ?_<;>intro h1 q1
 have A5:k<(l).length:=A_ h1
 obtain ⟨x,A2⟩:=at_ A5
 refine ac ?_
 refine Tr.seq (Tr.block (Tr.seq (Tr.Cl (tp rfl (AL rfl underlying35 EW (vl rfl) (vl rfl) (by omega) (by exact BN (by assumption))) ?_))))
 refine tp rfl (At rfl V3 EW (vl rfl) rfl rfl) ?_
 refine Tl rfl rfl rfl rfl bq T3 (fun b1=> ?_)
 refine sf 0 6 ⟨rfl,rfl,rfl⟩ rfl rfl rfl rfl ?_
 refine ao ?_
 · repeat' first|(exact int_eq (by unfold gA;rw [EJ A2 A0 (by assumption)]))|exact Fin.AF (k+1) ⟨⟨A5,U1 A2 A0 (by assumption)⟩,by omega⟩ ⟨⟨_,rfl,Ad k⟩,ke rfl,ke rfl,ke rfl,trivial⟩|refine co rfl (Jx (IL) rfl rfl rfl) ?_|refine ac ?_|(refine Tr.cn rfl ?_ ?_<;>intro h q)
 have CK:k=(l).length:=by have:=BA h1;omega
 subst CK
 rw [List.take_length] at A0
 refine a3 ?_
 · exact int_eq (by unfold gA;rw [A0])
theorem On {p:List Int} {a b:Nat} (ha:a<p.length) (hb:b<p.length):(arr p).take (0+(max ((a:Nat):Int) ((b:Nat):Int)).toNat*1)++[int (min ((a:Nat):Int) ((b:Nat):Int))]++(arr p).drop (0+(max ((a:Nat):Int) ((b:Nat):Int)).toNat*1+1)=arr (p.set (max a b) ((min a b:Nat):Int)):=by
 rw [show (max ((a:Nat):Int) ((b:Nat):Int)).toNat=max a b by omega,show min ((a:Nat):Int) ((b:Nat):Int)=((min a b:Nat):Int) by omega,Nat.zero_add,Nat.mul_one]
 exact P4 (by omega)
theorem MJ {p:List Int} {R:Nat→Nat} {i b0:Nat} (hu:UF p R) (hi:i<400):Am prog 48 [is (.pointer (some ⟨b0,0,none⟩)),int ((i:Nat):Int)] (int ((R i:Nat):Int)) (AB true b0 126 (arr p)) (fun _=>AB true b0 126 (arr p)):=by
 refine Am.of func48 rfl rfl (by exact Nb rfl) fun M0 w0 S rs M1 w1=> ?_
 refine ac ?_
 refine Tr.seq (Tr.block (Tr.Mk [(0,_)] ⟨ke rfl,trivial⟩ (fun (x:Nat)=>[(1,int ((x:Nat):Int))]) (fun (x:Nat)=>Hp M0 w0 S (AB true b0 126 (arr p)::Aa M1 w1::rs)) (fun (x:Nat)=>x<400∧R x=R i) (fun (x:Nat)=>x) (i)  (⟨hi,rfl⟩) ⟨ke rfl,trivial⟩ (fun _ _ h=>h) ?_))
 rintro x  ⟨kE,lM⟩
 obtain ⟨y,hy,kG,lN,kH⟩:=hu.par x kE
 refine ac ?_
 refine co rfl (Dp rfl underlying126 DB (vl rfl) (vl rfl) (by omega) (by omega)) ?_
 refine co rfl (Ai 0 rfl (CG rfl CE (vl rfl) (P3 (by rw [Int.toNat_natCast];exact hy)))) ?_
 refine an ?_ ?_<;>intro h1 q1
 have:=h1
 refine a2 ?_
 refine co rfl (Dp rfl underlying126 DB (vl rfl) (vl rfl) (by omega) (by omega)) ?_
 refine co rfl (Ai 0 rfl (CG rfl CE (vl rfl) (P3 (by rw [Int.toNat_natCast];exact hy)))) ?_
 refine ac ?_
 exact Fin.F8 (y)  (⟨⟨by omega,by omega⟩,by omega⟩) ⟨ke rfl,ke rfl,trivial⟩ (fun _ _ h=>h)
 have:=h1
 refine a2 ?_
 refine Tr.ret (Fin.Bw rfl rfl ?_ (fun _ _ _ _=>rfl))
 · exact int_eq (by have:=kH.1 (by omega);omega)
theorem MK {p:List Int} {R:Nat→Nat} {i k b0:Nat} (hu:UF p R) (hi:i<400) (hk:k<400):Am prog 89 [is (.pointer (some ⟨b0,0,none⟩)),int ((i:Nat):Int),int ((k:Nat):Int)] (Bx) (AB true b0 126 (arr p)) (fun _=>AB true b0 126 (arr (p.set (max (R i) (R k)) ((min (R i) (R k):Nat):Int)))):=by
 refine Am.of func89 rfl rfl (by exact Nb rfl) fun M0 w0 S rs M1 w1=> ?_
 have lO:=hu.rep.le i
 have lP:=hu.rep.le k
 have YT:=hu.len
 refine ap ?_
 refine TO.Dn 0 rfl rfl (by decide) (Ah rfl rfl (by decide) rfl (MJ hu hi) ⟨ke rfl,ke rfl,trivial⟩) ?_
 refine ap ?_
 refine TO.Dn 0 rfl rfl (by decide) (Ah rfl rfl (by decide) rfl (MJ hu hk) ⟨ke rfl,ke rfl,trivial⟩) ?_
 refine ap ?_
 refine ap ?_
 refine tp rfl (RK rfl (vl rfl) (vl rfl)) ?_
 refine ap ?_
 refine tp rfl (WZ rfl (vl rfl) (vl rfl)) (tp rfl (Gs rfl (vl rfl)) (tp rfl (Dp rfl underlying126 DB (vl rfl) (vl rfl) (by omega) (by omega)) ?_))
 refine TO.B4 0 rfl rfl (AU rfl rfl (vl rfl) (Vo rfl) DB rfl (by unfold arr;rw [List.length_map,YT];omega) (On (by omega) (by omega))) ?_
 refine TO.nil (Fin.D0 rfl)
abbrev Oo (n:Int):Value:= .int .i64 n
theorem F4:OB Tryz.prog 84 3 3 Oo where
 OC:=Tryz.underlying84
 zero:=fun w=>by kernel_rfl
 eq:=fun a b w=>by
  rw [show Op.equal 3 _ _=Op.equalIn (9998+2) 3 _ _ from rfl]
  exact C7 Tryz.underlying3
 QS:=fun e a w=>by
  show (Instr.checkKey e (9999+1) 3 _).run _ w=_
  exact Lw Tryz.underlying3 w
 Ro:=⟨_,Tryz.underlying3,.inr fun a b=>by simp only [Oo,Instr.sameNow,if_true];congr 1⟩
 bits:=fun a=>by
  show Instr.sameBits (9999+1) (.int _ _) (.int _ _)=true
  simp [Instr.sameBits]
def Is (l:List AO):Nat→List (Int×Int)
 |0=>[]
 |k+1=>match l[k]? with
  |none=>Is l k
  |some f=>if f.machine=0 then Is l k else E9 (Is l k) f.machine (k:Nat)
theorem P5 {l:List AO} {k:Nat} {f:AO} (hf:l[k]? =some f) (h:f.machine=0):Is l (k+1)=Is l k:=by simp only [Is,hf,h,if_true]
theorem NV {l:List AO} {k:Nat} {f:AO} (hf:l[k]? =some f) (h:¬f.machine=0):Is l (k+1)=E9 (Is l k) f.machine (k:Nat):=by simp only [Is,hf,h,if_false]
theorem Sq {κ:Type} [DecidableEq κ] (p:κ×Int) (es:List (κ×Int)) (k:κ) (v:Int):E9 (p::es) k v=if k=p.1 then (k,v)::es else p::E9 es k v:=by
 unfold E9
 rw [List.findIdx?_cons]
 by_cases h:k=p.1
 · simp [h]
 ·
  simp only [h,decide_false,Bool.false_eq_true,if_false]
  cases hf:es.findIdx? fun p=>decide (k=p.1) with
  |none=>simp
  |some i=>simp
theorem KL {κ:Type} [DecidableEq κ] (k k':κ) (v:Int):∀es:List (κ×Int),Cp.look (E9 es k v) k'=if k'=k then some v else Cp.look es k'
 |[]=>by
  unfold E9 Cp.look
  by_cases h:k'=k<;>simp [h]
 |p::es=>by
  have ih:=KL k k' v es
  rw [Sq]
  unfold Cp.look at ih ⊢
  by_cases h:k=p.1
  ·
   rw [if_pos h]
   by_cases h2:k'=k
   · simp [h2]
   ·
    have h3:¬k'=p.1:=by rw [←h];exact h2
    simp [h2,h3]
  ·
   rw [if_neg h]
   by_cases h2:k'=p.1
   ·
    have h3:¬k'=k:=by rintro rfl;exact h h2
    simp [h2,h3]
    intro h4;exact absurd h4.symm h
   · rw [List.find?_cons_of_neg (by simpa using h2),ih,List.find?_cons_of_neg (by simpa using h2)]
theorem NW {l:List AO} {m:Int} (hm:¬m=0):∀k,Cp.look (Is l k) m=if Ca l m k<0 then none else some (Ca l m k)
 |0=>rfl
 |k+1=>by
  have ih:=NW (l:=l) hm k
  have hin:=Ep l m k
  cases hf:l[k]? with
  |none=>simp only [Is,Ca,hf];simpa using ih
  |some f=>
   by_cases h0:f.machine=0
   ·
    rw [P5 hf h0,ih]
    have:¬f.machine=m:=by omega
    simp only [Ca,hf,Option.map_some,Option.some.injEq,this,if_false]
   ·
    rw [NV hf h0,KL,ih]
    by_cases h1:m=f.machine
    ·
     simp only [Ca,hf,Option.map_some,Option.some.injEq,h1.symm,if_true]
     rw [if_neg (by omega)]
    ·
     have:¬f.machine=m:=fun h=>h1 h.symm
     simp only [Ca,hf,Option.map_some,Option.some.injEq,this,if_false]
     rw [if_neg h1]
def Hs (l:List AO) (AJ:Int):Nat→List Int
 |0=>EN 400
 |k+1=>if Bv l AJ k<0 then Hs l AJ k else (Hs l AJ k).set (max (RR l AJ k k) (RR l AJ k (Bv l AJ k).toNat)) ((min (RR l AJ k k) (RR l AJ k (Bv l AJ k).toNat):Nat):Int)
theorem Er {l:List AO} {AJ:Int} {k:Nat} (h:Bv l AJ k<0):Hs l AJ (k+1)=Hs l AJ k:=by show (if _ then _ else _)=_;rw [if_pos h]
theorem GI {l:List AO} {AJ:Int} {k:Nat} (h:¬Bv l AJ k<0):Hs l AJ (k+1)=(Hs l AJ k).set (max (RR l AJ k k) (RR l AJ k (Bv l AJ k).toNat)) ((min (RR l AJ k k) (RR l AJ k (Bv l AJ k).toNat):Nat):Int):=by show (if _ then _ else _)=_;rw [if_neg h]
theorem U4 {l:List AO} {AJ:Int} (hn:l.length≤400) {k:Nat} (hk:k<l.length) (h:¬Bv l AJ k<0):(Bv l AJ k).toNat<400:=by
 obtain ⟨f,hf⟩:=at_ hk
 by_cases h0:f.machine=0
 ·
  by_cases iV:near l f AJ<0
  ·
   rw [Gj hf h0 iV] at h ⊢
   split at h
   ·
    rename_i hc
    rw [if_pos hc]
    rcases F1 l AJ k with h1|⟨_,h2,_⟩<;>omega
   · omega
  ·
   rw [Hl hf h0 iV]
   have:=(F0 (f:=f) (AJ:=AJ) (l:=l) (by omega)).1
   omega
 ·
  rw [KF hf h0]
  rcases Ep l f.machine k with h1|⟨_,h2,_⟩<;>omega
theorem ML {l:List AO} {AJ:Int} (hn:l.length≤400):∀k,k≤l.length→UF (Hs l AJ k) (RR l AJ k)
 |0,_=>UF.start
 |k+1,hk=>by
  have ih:=ML (AJ:=AJ) hn k (by omega)
  by_cases h:Bv l AJ k<0
  · rw [Er h];show UF _ (if _ then _ else _);rw [if_pos h];exact ih
  · rw [GI h];show UF _ (if _ then _ else _);rw [if_neg h];exact ih.join (by omega) (U4 hn (by omega) h)
def Xr (l:List AO) (AJ:Int) (v:Value):Al:=match v with| .pointer (some a)=>AB true a.block 126 (arr (Hs l AJ l.length))|_=>BP
theorem NX {k:Nat} (hk:k<400):(arr (EN k)).take (0+((k:Nat):Int).toNat*1)++[int ((k:Nat):Int)]++(arr (EN k)).drop (0+((k:Nat):Int).toNat*1+1)=arr (EN (k+1)):=by
 rw [Int.toNat_natCast,Nat.zero_add,Nat.mul_one,P4 (by rw [Hr (by omega)];exact hk),Qq hk]
theorem Oq {ks:List Value} (h:ks=List.replicate 400 (.int .i64 0)):ks.map is=arr (EN 0):=by
 subst h;unfold EN arr;rw [List.map_append,List.map_replicate,List.map_replicate];rfl
theorem Sr {l:List AO} {AJ:Int} (hd:MH l) (hn:l.length≤400):Am prog 47 [BL l,int AJ] (ex fun b=>ptr b 0) (BP) (Xr l AJ):=by
 refine Am.of func47 rfl rfl (by exact Nb rfl) fun M0 w0 S rs M1 w1=> ?_
 refine Tr.HN 0 rfl fun G4=> ?_
 refine ac ?_
 refine ao ?_
 refine TO.dO rfl rfl (by decide) rfl (Va rfl) (fun b1=> ?_)
 refine ao ?_
 refine ac ?_
 refine Tr.block ?_
 refine Tr.Gn [(0,_),(1,_),(5,_)] ⟨ke rfl,ke rfl,ke rfl,trivial⟩ (fun k:Nat=>[(16,int ((k:Nat):Int))]) (fun k:Nat=>Hp M0 w0 S ((AB true b1 126 (arr (EN k))::BP::Aa M1 w1::rs))) (fun k:Nat=>k≤(400)) (fun k:Nat=>(400)-k) 0 (Nat.zero_le _) ⟨ke rfl,trivial⟩ ((by rw [←Oq rfl];exact fun _ _ h=>h)) ?_
 rintro k DH
 refine ac ?_
 refine Tr.seq ?_
 refine Tr.cn rfl ?_ ?_<;>intro h1 q1
 have A5:k<(400):=A_ h1
 refine a2 ?_
 refine ao ?_
 refine tp rfl (Dp rfl underlying126 DB (vl rfl) (vl rfl) (by omega) (by omega)) ?_
 refine TO.B4 0 rfl rfl (AU rfl rfl (vl rfl) (Vo rfl) DB rfl (by unfold arr;rw [List.length_map,Hr (by omega)];omega) (NX A5)) ?_
 refine ao ?_
 refine ac ?_
 exact Fin.Vt (k+1) ⟨A5,by omega⟩ ⟨⟨_,rfl,Ad k⟩,ke rfl,ke rfl,ke rfl,trivial⟩ ((by exact fun _ _ h=>h))
 have CK:k=(400):=by have:=BA h1;omega
 subst CK
 refine ac ?_
 refine Tr.seq (Tr.Cl ?_)
 refine TO.WC Oo rfl rfl (by decide) rfl (fun b2=> ?_)
 refine ao ?_
 refine a2 ?_
 refine Tr.block (Tr.Gn [(0,_),(1,_),(5,_),(7,_),(26,_),(27,_)] ⟨ke rfl,ke rfl,ke rfl,ke rfl,ke rfl,ke rfl,trivial⟩ (fun k:Nat=>[(28,int ((k:Nat):Int)),(8,int (prevK l AJ k))]) (fun k:Nat=>Hp M0 w0 S ((GM Oo b2 (Is l k)::AB true b1 126 (arr (Hs l AJ k))::BP::Aa M1 w1::rs))) (fun k:Nat=>k≤(l).length) (fun k:Nat=>(l).length-k) 0 (Nat.zero_le _) ⟨ke rfl,ke rfl,trivial⟩ (fun _ _ h=>h) ?_)
 rintro k DH
 refine ac ?_
 refine Tr.seq ?_
 refine Tr.cn rfl ?_ ?_<;>intro h2 q2
 have A5:k<(l).length:=A_ h2
 obtain ⟨f,A2⟩:=at_ A5
 have hu:=ML (AJ:=AJ) hn k (by omega)
 have kC:=JE hd A2
 refine ac ?_
 refine ao ?_
 refine tp rfl (AL rfl underlying31 AH (vl rfl) (vl rfl) (by omega) (by exact BN (by assumption))) ?_
 refine tp rfl (At rfl Ac AH (vl rfl) rfl rfl) ?_
 refine Tl rfl rfl rfl rfl E6 GZ (fun b3=> ?_)
 refine tm rfl ?_
 refine sf 0 10 ⟨rfl,rfl,rfl⟩ rfl rfl rfl rfl ?_
 refine ao ?_
 refine C6 0 1 5 7 8 9 10 26 27 28 rfl ?_
 refine an ?_ ?_<;>intro h3 q3
 have he:=KF (AJ:=AJ) A2 q3
 have hmo:=Ds (AJ:=AJ) A2 q3
 have hm1:=NV A2 q3
 have Ff:prevK l AJ (k+1)=prevK l AJ k:=if_neg (by rw [hmo];exact q3)
 have hL:=NW (l:=l) q3 k
 have hlin:=Ep l f.machine k
 refine ao ?_
 refine TO.rd 0 rfl rfl rfl (by decide) (QT (f.machine) F4 rfl (vl rfl) (vl rfl) (fun _ _ _ h=>h)) ?_
 refine ao ?_
 refine dR 0 1 5 7 8 9 10 11 12 26 27 28 rfl ?_
 refine an ?_ ?_<;>intro h4 q4
 have Th:¬Ca l f.machine k<0:=by intro hlt;rw [hL,if_pos hlt] at q4;cases q4
 rw [if_neg Th] at hL
 have Di:=GI (l:=l) (AJ:=AJ) (k:=k) (by rw [he];exact Th)
 rw [he] at Di
 refine ao ?_
 refine TO.Dn 1 rfl rfl (by decide) (Ah rfl rfl (by decide) rfl (MK (i:=k) (k:=(Ca l f.machine k).toNat) hu (by omega) (by omega)) ⟨ke rfl,ke rfl,⟨_,rfl,int_eq (by rw [hL];show (Ca l f.machine k:Int)=_;omega)⟩,trivial⟩) ?_
 refine ao ?_
 refine C6 0 1 5 7 8 9 10 26 27 28 rfl ?_
 refine ao ?_
 refine TO.B4 0 rfl rfl (HT (f.machine) F4 rfl rfl rfl (vl rfl) (vl rfl) (fun _ _ _ h=>h) (vl rfl)) ?_
 refine ao ?_
 refine Im 0 1 5 7 8 26 27 28 rfl ?_
 refine a2 ?_
 exact Fin.Vt (k+1) ⟨A5,by omega⟩ ⟨⟨_,rfl,Ad k⟩,⟨_,rfl,int_eq Ff.symm⟩,ke rfl,ke rfl,ke rfl,ke rfl,ke rfl,ke rfl,trivial⟩ ((by rw [hm1,Di];exact fun _ _ h=>h))
 have Th:Ca l f.machine k<0:=by rcases Int.lt_or_le (Ca l f.machine k) 0 with h1|h1;exact h1;(rw [hL,if_neg (by omega)] at q4;cases q4)
 have Di:=Er (l:=l) (AJ:=AJ) (k:=k) (by rw [he];exact Th)
 refine ac ?_
 refine ao ?_
 refine TO.B4 0 rfl rfl (HT (f.machine) F4 rfl rfl rfl (vl rfl) (vl rfl) (fun _ _ _ h=>h) (vl rfl)) ?_
 refine ao ?_
 refine Im 0 1 5 7 8 26 27 28 rfl ?_
 refine a2 ?_
 exact Fin.Vt (k+1) ⟨A5,by omega⟩ ⟨⟨_,rfl,Ad k⟩,⟨_,rfl,int_eq Ff.symm⟩,ke rfl,ke rfl,ke rfl,ke rfl,ke rfl,ke rfl,trivial⟩ ((by rw [hm1,Di];exact fun _ _ h=>h))
 have hm1:=P5 A2 q3
 have hmz:f.machine=0:=q3
 refine a2 ?_
 refine co rfl (je (U3 (by assumption) (by assumption)) rfl rfl rfl rfl) ?_
 refine ac ?_
 refine Rb 0 1 5 7 8 9 10 13 26 27 28 rfl ?_
 refine an ?_ ?_<;>intro h5 q5
 have he:=Hl (AJ:=AJ) A2 hmz (by omega)
 have Di:=GI (l:=l) (AJ:=AJ) (k:=k) (by rw [he];omega)
 rw [he] at Di
 obtain ⟨gY,g,hg,kI,_⟩:=F0 (l:=l) (f:=f) (AJ:=AJ) (by omega)
 have Ff:prevK l AJ (k+1)=prevK l AJ k:=if_neg (by rw [G8 A2 hmz (by omega) hg];exact kI)
 refine ao ?_
 refine TO.Dn 1 rfl rfl (by decide) (Ah rfl rfl (by decide) rfl (MK (i:=k) (k:=(near l f AJ).toNat) hu (by omega) (by omega)) ⟨ke rfl,ke rfl,⟨_,rfl,int_eq (by omega)⟩,trivial⟩) ?_
 refine ao ?_
 refine Im 0 1 5 7 8 26 27 28 rfl ?_
 refine a2 ?_
 exact Fin.Vt (k+1) ⟨A5,by omega⟩ ⟨⟨_,rfl,Ad k⟩,⟨_,rfl,int_eq Ff.symm⟩,ke rfl,ke rfl,ke rfl,ke rfl,ke rfl,ke rfl,trivial⟩ ((by rw [hm1,Di];exact fun _ _ h=>h))
 have he:=Gj (AJ:=AJ) A2 hmz (by omega)
 have Ff:prevK l AJ (k+1)=(k:Nat):=if_pos (Hj A2 hmz (by omega))
 have kJ:=F1 l AJ k
 refine ac ?_
 refine ag ?_ ?_<;>intro h6 q6
 obtain ⟨fb,UN⟩:=at_ (l:=l) (k:=(prevK l AJ k).toNat) (by omega)
 have kK:=JE hd UN
 have gB:FG l AJ (prevK l AJ k).toNat k=decide (fb.host=f.host∧GN f fb≤AJ):=by unfold FG;rw [UN,A2]
 refine ac ?_
 refine cy h6 rfl (AL rfl underlying31 AH (vl rfl) (vl rfl) (by omega) (CD UN)) ?_
 refine ag ?_ ?_<;>intro h7 q7
 refine ac ?_
 refine cy h7 rfl (AL rfl underlying31 AH (vl rfl) (vl rfl) (by omega) (CD UN)) (cy h7 rfl (At rfl Ac AH (vl rfl) rfl rfl) (cy h7 rfl (Jx (FI (by assumption) (by assumption)) rfl rfl rfl) ?_))
 refine ac ?_
 refine C6 0 1 5 7 8 9 26 27 28 83 rfl ?_
 refine Tr.cn rfl ?_ ?_<;>intro h8 q8
 rw [if_pos ⟨by omega,by rw [gB,decide_eq_true_eq];exact ⟨by assumption,by omega⟩⟩] at he
 have Di:=GI (l:=l) (AJ:=AJ) (k:=k) (by rw [he];omega)
 rw [he] at Di
 refine ao ?_
 refine TO.Dn 1 rfl rfl (by decide) (Ah rfl rfl (by decide) rfl (MK (i:=k) (k:=(prevK l AJ k).toNat) hu (by omega) (by omega)) ⟨ke rfl,ke rfl,⟨_,rfl,int_eq (by omega)⟩,trivial⟩) ?_
 refine ao ?_
 refine Im 0 1 5 7 9 26 27 28 rfl ?_
 refine a2 ?_
 exact Fin.Vt (k+1) ⟨A5,by omega⟩ ⟨⟨_,rfl,Ad k⟩,⟨_,rfl,int_eq Ff.symm⟩,ke rfl,ke rfl,ke rfl,ke rfl,ke rfl,ke rfl,trivial⟩ ((by rw [hm1,Di];exact fun _ _ h=>h))
 rw [if_neg (by rintro ⟨h1,h2⟩;rw [gB,decide_eq_true_eq] at h2;omega)] at he
 have Di:=Er (l:=l) (AJ:=AJ) (k:=k) (by rw [he];omega)
 refine a3 ?_
 exact Fin.Vt (k+1) ⟨A5,by omega⟩ ⟨⟨_,rfl,Ad k⟩,⟨_,rfl,int_eq Ff.symm⟩,ke rfl,ke rfl,ke rfl,ke rfl,ke rfl,ke rfl,trivial⟩ ((by rw [hm1,Di];exact fun _ _ h=>h))
 rw [if_neg (by rintro ⟨h1,h2⟩;rw [gB,decide_eq_true_eq] at h2;exact absurd h2.1 (by assumption))] at he
 have Di:=Er (l:=l) (AJ:=AJ) (k:=k) (by rw [he];omega)
 refine ac ?_
 refine C6 0 1 5 7 8 9 26 27 28 83 rfl ?_
 refine a3 ?_
 exact Fin.Vt (k+1) ⟨A5,by omega⟩ ⟨⟨_,rfl,Ad k⟩,⟨_,rfl,int_eq Ff.symm⟩,ke rfl,ke rfl,ke rfl,ke rfl,ke rfl,ke rfl,trivial⟩ ((by rw [hm1,Di];exact fun _ _ h=>h))
 rw [if_neg (by rintro ⟨h1,h2⟩;omega)] at he
 have Di:=Er (l:=l) (AJ:=AJ) (k:=k) (by rw [he];omega)
 refine ac ?_
 refine C6 0 1 5 7 8 9 26 27 28 83 rfl ?_
 refine a3 ?_
 exact Fin.Vt (k+1) ⟨A5,by omega⟩ ⟨⟨_,rfl,Ad k⟩,⟨_,rfl,int_eq Ff.symm⟩,ke rfl,ke rfl,ke rfl,ke rfl,ke rfl,ke rfl,trivial⟩ ((by rw [hm1,Di];exact fun _ _ h=>h))
 have CK:k=(l).length:=by have:=BA h2;omega
 subst CK
 refine a2 ?_
 refine Tr.ret (Fin.drop 2 ?_)
 refine Fin.Y4 [_] rfl (Bc.tmp rfl (Lr)) ?_ (by rintro _ _ _ rfl;rfl)
 · exact A3 b1 (Lr)
section
variable {α:Type} {c:α→α→Int} {l:List α} {x:α}
def De (c:α→α→Int) (l:List α) (x:α):Nat:=(l.takeWhile fun y=>decide (c y x<0)).length
theorem GJ (c:α→α→Int) (l:List α) (x:α):De c l x≤l.length:=by
 unfold De
 have h:=List.takeWhile_append_dropWhile (p:=fun y=>decide (c y x<0)) (l:=l)
 have:=congrArg List.length h
 rw [List.length_append] at this;omega
theorem MM:∀{l:List α} {k:Nat},k≤l.length→(∀(j:Nat) y,j<k→l[j]? =some y→c y x<0)→(∀y,l[k]? =some y→¬c y x<0)→De c l x=k
  | [], k, hk, _, _ => by have : k = 0 := by simpa using hk
                          subst this;rfl
  |y::r,0,_,_,h2=>by unfold De;rw [List.takeWhile_cons_of_neg (by simpa using h2 y rfl)];rfl
  |y::r,k+1,hk,h1,h2=>by
    have ih:=MM (l:=r) (k:=k) (by simpa using hk) (fun j z hj hz=>h1 (j+1) z (by omega) (by simpa using hz)) (fun z hz=>h2 z (by simpa using hz))
    unfold De at ih ⊢
    rw [List.takeWhile_cons_of_pos (by simpa using h1 0 y (by omega) rfl),List.length_cons,ih]
theorem MN:∀{l:List α} {j:Nat} {y:α},j<De c l x→l[j]? =some y→c y x<0
 |[],j,y,h,_=>by unfold De at h;simp at h
 |z::r,j,y,h,hy=>by
  by_cases hz:c z x<0
  ·
   cases j with
   |zero=>simp at hy;subst hy;exact hz
   |succ j=>
    refine MN (l:=r) (j:=j) ?_ (by simpa using hy)
    unfold De at h ⊢
    rw [List.takeWhile_cons_of_pos (by simpa using hz),List.length_cons] at h;omega
  · unfold De at h;rw [List.takeWhile_cons_of_neg (by simpa using hz)] at h;simp at h
theorem MO:∀{l:List α} {y:α},l[De c l x]? =some y→¬c y x<0
 |[],y,h=>by simp at h
 |z::r,y,h=>by
  by_cases hz:c z x<0
  ·
   unfold De at h
   rw [List.takeWhile_cons_of_pos (by simpa using hz),List.length_cons,List.getElem?_cons_succ] at h
   exact MO (l:=r) h
  · unfold De at h;rw [List.takeWhile_cons_of_neg (by simpa using hz)] at h;simp at h;subst h;exact hz
abbrev KM (c:α→α→Int) (l:List α) (x:α):Bool:=(l[De c l x]?).any (fun y=>decide (c y x=0))
theorem NY (h:KM c l x=true):DF c l x=l:=by
 rw [ME (GJ c l x) (fun j y=>MN) (fun y=>MO),if_pos h]
theorem NZ (h:KM c l x=false):DF c l x=l.take (De c l x)++[x]++l.drop (De c l x):=by
 rw [ME (GJ c l x) (fun j y=>MN) (fun y=>MO),if_neg (by unfold KM at h;simp [h])];simp
abbrev Fg (c:α→α→Int) (l:List α):Prop:=l.Pairwise fun a b=>c a b<0
theorem WR (hc:HY c) (hs:Fg c l) {h:Nat} {y:α} (hy:l[h]? =some y) (bC:c y x<0):∀(k:Nat) z,k<h+1→l[k]? =some z→c z x<0:=by
 intro k z hk hz
 rcases Nat.lt_or_eq_of_le (Nat.le_of_lt_succ hk) with h1|h1
 ·
  have GO:=B9 hz
  have bD:=B9 hy
  have:=List.pairwise_iff_getElem.1 hs k h GO bD h1
  rw [List.getElem?_eq_getElem GO] at hz
  rw [List.getElem?_eq_getElem bD] at hy
  simp only [Option.some.injEq] at hz hy
  rw [hz,hy] at this
  exact hc.tr z y x this bC
 · subst h1;rw [hy] at hz;cases hz;exact bC
theorem WS (hc:HY c) (hs:Fg c l) {h:Nat} {y:α} (hy:l[h]? =some y) (bC:¬c y x<0):∀(k:Nat) z,h≤k→l[k]? =some z→¬c z x<0:=by
 intro k z hk hz iW
 rcases Nat.lt_or_eq_of_le hk with h1|h1
 ·
  have GO:=B9 hz
  have bD:=B9 hy
  have:=List.pairwise_iff_getElem.1 hs h k bD GO h1
  rw [List.getElem?_eq_getElem GO] at hz
  rw [List.getElem?_eq_getElem bD] at hy
  simp only [Option.some.injEq] at hz hy
  rw [hz,hy] at this
  exact bC (hc.tr y z x this iW)
 · subst h1;rw [hy] at hz;cases hz;exact bC iW
theorem Na {i:Nat} (hp:De c l x=i) (hi:l.length≤i):KM c l x=false:=by
 unfold KM;rw [hp,List.getElem?_eq_none hi];rfl
theorem JF {i:Nat} {y:α} (hp:De c l x=i) (hy:l[i]? =some y):KM c l x=decide (c y x=0):=by
 unfold KM;rw [hp,hy];rfl
end
theorem Ss {a:List UInt8}  :Bb prog 183 [str a] (bool false):=by
 refine fo func183 rfl ⟨rfl,rfl⟩ fun M0 w0=> ?_
 refine a3 ?_
 · refine bool_eq ?_;simp_all
theorem Qt {a:List UInt8}  :Bb prog 139 [str a] (bool false):=by
 refine fo func139 rfl ⟨rfl,rfl⟩ fun M0 w0=> ?_
 refine a3 ?_
 · refine bool_eq ?_;simp_all
theorem Qu {a:Int}  :Bb prog 143 [int a] (bool false):=by
 refine fo func143 rfl ⟨rfl,rfl⟩ fun M0 w0=> ?_
 refine a3 ?_
 · refine bool_eq ?_;simp_all
theorem U5 {a b:List UInt8}  :Bb prog 138 [str a,str b] (bool (decide (Lib.compareBytes a b= -1))):=by
 refine fo func138 rfl ⟨rfl,rfl⟩ fun M0 w0=> ?_
 refine a2 ?_
 refine co rfl (EC (Ss) rfl rfl) (cm rfl ?_)
 refine Ch.cs 7 rfl ?_ ?_<;>intro h1 q1
 exact absurd h1 (by decide)
 refine ac ?_
 refine cy rfl rfl (Rl rfl (vl rfl) (vl rfl)) ?_
 refine ac ?_
 refine Cc 4 rfl ?_
 refine ac ?_
 · exact Lr
theorem Xs {l:List (List UInt8)} {x:List UInt8} {b0 cap:Nat} {sp:List Value} (hs:Fg Lib.compareBytes l) (hl:l.length≤1000000) (hcap:l.length≤cap):Am prog 92 [Ap (.slice (some ⟨b0,0,none⟩) l.length cap) (lens l.length),str x] (ER [int ((De Lib.compareBytes l x:Nat):Int),bool (KM Lib.compareBytes l x)]) (AB true b0 9 ((l.map (fun t:List UInt8=>[str t])).flatten++sp.map is)) (fun _=>AB true b0 9 ((l.map (fun t:List UInt8=>[str t])).flatten++sp.map is)):=by
 refine Am.of func92 rfl rfl (by exact Nb rfl) fun M0 w0 S rs M1 w1=> ?_
 refine a2 ?_
 refine co rfl (DQ rfl underlying53 (Ka rfl)) ?_
 refine a2 ?_
 refine Tr.seq (Tr.block ?_)
 refine Tr.Bk [(0,_),(1,_),(6,_)] ⟨ke rfl,ke rfl,ke rfl,trivial⟩ (fun (i:Nat) (j:Nat)=>[(7,int ((i:Nat):Int)),(8,int ((j:Nat):Int))]) (fun (i:Nat) (j:Nat)=>Hp M0 w0 S (AB true b0 9 ((l.map (fun t:List UInt8=>[str t])).flatten++sp.map is)::Aa M1 w1::rs)) (fun (i:Nat) (j:Nat)=>i≤j∧j≤l.length∧(∀(k:Nat) y,k<i→l[k]? =some y→Lib.compareBytes y x<0)∧(∀(k:Nat) y,j≤k→l[k]? =some y→¬Lib.compareBytes y x<0)) (fun (i:Nat) (j:Nat)=>j-i) (0) (l.length)  (⟨Nat.zero_le _,Nat.le_refl _,fun k y h=>absurd h (Nat.not_lt_zero _),fun k y h1 h2=>by rw [List.getElem?_eq_none h1] at h2;cases h2⟩) ⟨ke rfl,ke rfl,trivial⟩ (fun _ _ h=>h) ?_
 rintro i j  ⟨hi1,hi2,Un,hi4⟩
 refine an ?_ ?_<;>intro h1 q1
 have hij:i<j:=by have:=of_decide_eq_true h1;omega
 obtain ⟨y,Xt⟩:=at_ (l:=l) (k:=(i+j)/2) (by omega)
 have hy:l[((((i:Nat):Int)+((j:Nat):Int))/2).toNat]? =some y:=by rw [show ((((i:Nat):Int)+((j:Nat):Int))/2).toNat=(i+j)/2 by omega];exact Xt
 refine a2 ?_
 refine co rfl (M4 rfl underlying3 underlying137 (vl rfl) (by omega) (by omega)) (co rfl (Pf rfl (vl rfl) (vl rfl) (by omega)) ?_)
 refine co rfl (Bu rfl underlying137 underlying3 (vl rfl) (by unfold CR;omega)) ?_
 refine ac ?_
 refine D_ 0 1 6 7 8 9 rfl ?_
 refine ac ?_
 refine co rfl (AA rfl underlying53 I5 (Ka rfl) (vl rfl) (by omega) (by omega)) (co rfl (Ai 0 rfl (CG rfl Kg (vl rfl) (Eh (f:=fun t:List UInt8=>[str t]) (fun _=>rfl) (i:=(((i:Nat):Int)+((j:Nat):Int))/2) hy rfl))) (cm rfl (co rfl (Jx (U5) rfl rfl rfl) ?_)))
 refine an ?_ ?_<;>intro h2 q2
 have hlt:=q2
 refine ac ?_
 exact Fin.BG ((i+j)/2+1) (j)  (⟨⟨by omega,by omega,WR DM hs Xt (by have:=Jh y x;omega),hi4⟩,by omega⟩) ⟨⟨_,rfl,int_eq (by omega)⟩,⟨_,rfl,int_eq (by omega)⟩,ke rfl,ke rfl,ke rfl,trivial⟩ (fun _ _ h=>h)
 have hlt:=q2
 refine ac ?_
 exact Fin.BG (i) ((i+j)/2)  (⟨⟨by omega,by omega,Un,WS DM hs Xt (by have:=Jh y x;omega)⟩,by omega⟩) ⟨⟨_,rfl,int_eq (by omega)⟩,⟨_,rfl,int_eq (by omega)⟩,ke rfl,ke rfl,ke rfl,trivial⟩ (fun _ _ h=>h)
 obtain rfl:i=j:=(by have:=of_decide_eq_false h1;omega)
 have hp:De Lib.compareBytes l x=i:=MM (by omega) Un (fun y hy=>hi4 i y (by omega) hy)
 refine ac ?_
 refine ag ?_ ?_<;>intro h3 q3
 obtain ⟨y,U6⟩:=at_ (l:=l) (k:=i) (by omega)
 refine ac ?_
 refine cy h3 rfl (AA rfl underlying53 I5 (Ka rfl) (vl rfl) (by omega) (by omega)) ?_
 refine cy h3 rfl (Ai 0 rfl (CG rfl Kg (vl rfl) (Eh (f:=fun t:List UInt8=>[str t]) (fun _=>rfl) (i:=((i:Nat):Int)) (by rw [Int.toNat_natCast];exact U6) rfl))) ?_
 refine ag ?_ ?_<;>intro h4 q4
 refine ac ?_
 refine Fl 4 5 rfl (Tr.ret (Fin.Kr rfl rfl ?_ rfl ?_))
 · exact int_eq (by rw [hp])
 · refine bool_eq ?_;rw [JF hp U6];symm;rw [decide_eq_true_eq];exact (DU _ _).2 (by simp_all)
 refine ac ?_
 refine cy h4 rfl (AA rfl underlying53 I5 (Ka rfl) (vl rfl) (by omega) (by omega)) ?_
 refine cy h4 rfl (Ai 0 rfl (CG rfl Kg (vl rfl) (Eh (f:=fun t:List UInt8=>[str t]) (fun _=>rfl) (i:=((i:Nat):Int)) (by rw [Int.toNat_natCast];exact U6) rfl))) ?_
 refine cy h4 rfl (EC (Qt) rfl rfl) (CZ h4 rfl ?_)
 refine Ch.cs 48 rfl ?_ ?_<;>intro h5 q5
 exact absurd h5 (by decide)
 refine ac ?_
 refine Fl 4 5 rfl (Tr.ret (Fin.Kr rfl rfl ?_ rfl ?_))
 · exact int_eq (by rw [hp])
 · refine bool_eq ?_;rw [JF hp U6];symm;rw [decide_eq_false_iff_not];intro h0;have:=(DU _ _).1 h0;simp_all
 refine ac ?_
 refine Fl 4 5 rfl (Tr.ret (Fin.Kr rfl rfl ?_ rfl ?_))
 · exact int_eq (by rw [hp])
 · refine bool_eq ?_;rw [Na hp (by omega)]
theorem Xu:Entry Tryz.prog 92:=⟨_,Tryz.func92,rfl,rfl⟩
theorem Xv {x:List UInt8}  :Bb prog 92 [is (.slice none 0 0),str x] (ER [int 0,bool false]):=by
 refine Bb.of func92 rfl rfl (by exact Nb rfl) fun M0 w0=> ?_
 refine Tr.seq (Tr.BK (cm rfl (cm rfl (Ch.nil (Fin.go (Tr.seq (Tr.BK (cm rfl (co rfl (GF rfl underlying53 (vl rfl)) (cm rfl (Ch.nil (Fin.go (Tr.seq (Tr.BK ?_))))))))))))))
 refine cm rfl (cm rfl (cm rfl (Ch.nil (Fin.go (Tr.seq (Tr.block (Tr.BX [(0,_),(1,_),(6,_)] (QN rfl) (fun (u:Unit)=>[(7,int 0),(8,int 0)]) (fun (u:Unit)=>True) (fun (u:Unit)=>0) () (trivial) ⟨ke rfl,ke rfl,trivial⟩ ?_)))))))
 rintro u _
 refine Tr.seq (Tr.seq (Tr.BK (cm rfl (cm rfl (co rfl (ki rfl rfl rfl rfl) (Ch.nil (Fin.go ?_)))))))
 refine Tr.cn rfl ?_ ?_<;>intro h1 q1
 exact absurd h1 (by decide)
 have:=h1
 refine Tr.exit (Fin.AG (Fin.AG (Fin.AX (Fin.go (Tr.seq (Tr.BK (cm rfl (cm rfl (cm rfl (co rfl (ki rfl rfl rfl rfl) (cm rfl ?_)))))))))))
 refine Ch.cs 35 rfl ?_ ?_<;>intro h2 q2
 exact absurd h2 (by decide)
 iterate 7 refine cnt h2 rfl ?_
 iterate 9 refine cu rfl ?_
 refine cnt h2 rfl (co rfl (Fb rfl rfl h2 rfl) (cm rfl (cm rfl (Ch.nil (Fin.go (Fl 4 5 rfl (Tr.ret (Fin.JM rfl (C1.Ig _ _) rfl ?_ rfl ?_))))))))
 · exact Lr
 · exact Lr
theorem bE {l:List (List UInt8)} {x:List UInt8} {v:Value} {p:Pr} (hs:Fg Lib.compareBytes l) (hl:l.length≤1000000):Am Tryz.prog 92 [Ap v p,str x] (ER [int ((De Lib.compareBytes l x:Nat):Int),bool (KM Lib.compareBytes l x)]) (Ak 9 1 (l.map (fun t:List UInt8=>[str t])) v) (fun _=>Ak 9 1 (l.map (fun t:List UInt8=>[str t])) v):=by
 refine Am.Mz Xu (fun h0 _=> ?_) (fun b cap sp _ hc hm hq=> ?_)
 ·
  have Oa:l=[]:=by simpa using h0
  subst Oa;exact Xv
 ·
  rw [List.length_map]
  rw [List.length_map] at hc
  exact Xs hs hl hc
theorem U7 {l:List (List UInt8)} {x:List UInt8} {b0 cap i:Nat} {sp:List Value} (hi:i≤l.length) (hl:l.length≤1000000) (hc:l.length≤cap) (hm:cap≤maxLen) (hq:sp.length=cap-l.length):Am prog 93 [Ap (.slice (some ⟨b0,0,none⟩) l.length cap) (lens l.length),int ((i:Nat):Int),slice 1 [[str x]]] (lens (l.length+1)) (AB true b0 9 ((l.map (fun t:List UInt8=>[str t])).flatten++sp.map is)) (fun v=>Ak 9 1 ((l.take i++[x]++l.drop i).map (fun t:List UInt8=>[str t])) v):=by
 refine Am.of func93 rfl rfl (by exact Nb rfl) fun M0 w0 S rs M1 w1=> ?_
 have E4:([[str x]]:List (List Pr)).flatten.length=1:=rfl
 have Ff:([[str x]]:List (List Pr)).length=1:=rfl
 have It:((l.map (fun t:List UInt8=>[str t])).flatten).length=l.length:=by rw [Bf (sz:=1) (BU fun _=>rfl),List.length_map];omega
 have e1:(((i:Nat):Int)+(1:Int)).toNat=i+1:=by omega
 have e2:((i:Nat):Int).toNat=i:=by omega
 refine a2 ?_
 refine co rfl (G2 rfl underlying53 I5 (Ka rfl) (vl rfl) (by omega) (by omega) (by omega)) ?_
 refine a2 ?_
 refine co rfl (E2 rfl underlying53 (vl rfl)) ?_
 refine ac ?_
 refine an ?_ ?_<;>intro h1 q1
 simp at h1
 refine a2 ?_
 refine co rfl (DQ rfl underlying53 (Ka rfl)) ?_
 refine a2 ?_
 refine D_ 0 1 2 7 8 22 rfl ?_
 refine Tr.cn rfl ?_ ?_<;>intro h2 q2
 refine Tr.seq (Tr.E_ (sz:=1) 0 rfl (rows:=l.map (fun t:List UInt8=>[str t])) (sp:=sp) rfl (by simp) hc hm (by omega) ?_)
 refine ap ?_
 refine TO.QK 0 rfl rfl (by decide) (GA rfl rfl (by decide) rfl underlying53 I5 dY z9 rfl (by decide) (by decide) (vl rfl) (vl rfl) (BU fun _=>rfl) (Nat.zero_lt_succ _) (by simp only [List.length_map,List.length_cons,List.length_nil];unfold maxLen;omega) (by simp only [List.length_map,List.length_cons,List.length_nil];omega)) (fun v1=> ?_)
 refine ap ?_
 refine Tr.ret (Fin.AK ?_)
 refine Fin.Bw rfl rfl ?_ (by rintro _ _ _ ⟨rfl,_⟩;rw [show i=l.length by omega,List.take_length,List.drop_length,List.append_nil,List.map_append];rfl)
 · exact Pr.le_trans (Bj _ _) (Pr.le_of_eq (by simp))
 refine a2 ?_
 refine co rfl (Pc rfl underlying53 (Ka rfl)) ?_
 refine an ?_ ?_<;>intro h3 q3
 refine ap ?_
 refine tp rfl (Fq rfl underlying53 I5 (Ka rfl) (vl rfl) (by omega) (by omega) (by omega) (by omega)) ?_
 refine ap ?_
 refine TO.pad ?_
 refine TO.WH 0 1 rfl rfl rfl rfl (by decide) rfl underlying53 underlying3 I5 dY z9 rfl (by decide) (by decide) (vl rfl) (vl rfl) (i:=i) (k:=l.length+1-i) (by omega) (by simp only [List.length_append,List.length_take,List.length_drop,List.length_map,It,Ff,E4,Nat.mul_one];omega) (by omega) (by omega) (by unfold maxLen;omega) (by omega) (fun b1 Xw Xx kL hm1 hs1=> ?_)
 refine ap ?_
 refine Dv 0 1 2 7 9 rfl (Tr.seq ?_)
 have hsz:Xx.length=Xw-i:=by have:=hs1;rw [List.length_take,List.length_append,It,Nat.mul_one,Nat.mul_one] at this;omega
 refine Tr.OG (sz:=1) (l.map (fun t:List UInt8=>[str t])) 1 0 rfl rfl (Pr.le_trans (JY _ _) (Pr.le_of_eq (by simp))) (BU fun _=>rfl) (by rw [List.length_map];exact hc) hm (by rw [List.length_map,List.length_map];omega) ?_
 refine ap ?_
 refine tp rfl (A6 rfl underlying53 I5 (vl rfl) (vl rfl) (by omega) (by omega) (by omega)) (tm rfl ?_)
 refine TO.Dn 0 rfl rfl (by decide) (En rfl rfl rfl underlying53 I5 (by decide) (vl rfl) (vl rfl) (by omega) (by omega) (by simp only [List.length_append,List.length_take,List.length_drop,List.length_map,It,Ff,E4,Nat.mul_one];omega) rfl) ?_
 refine ap ?_
 refine Tr.seq (Tr.rx ?_)
 refine ay ?_
 refine xo rfl (fun _=>A6 rfl underlying53 I5 (vl rfl) (vl rfl) (by omega) (by omega) (by omega)) ?_
 refine ay ?_
 refine xo rfl (fun _=>B2 rfl underlying53 I5 (Kb rfl) (vl rfl) (by omega) (by simp;omega)) ?_
 refine Cx.ef 0 rfl rfl (by decide) (En rfl rfl rfl underlying53 I5 (by decide) (vl rfl) (vl rfl) (by simp only [List.length_append,List.length_take,List.length_drop,List.length_map,It,Ff,E4,Nat.mul_one];omega) (by simp only [List.length_append,List.length_take,List.length_drop,List.length_map,It,Ff,E4,Nat.mul_one];omega) (by simp only [List.length_append,List.length_take,List.length_drop,List.length_map,It,Ff,E4,Nat.mul_one];omega) rfl) ?_
 refine Cx.nil ⟨by kernel_rfl,?_⟩
 refine BT.done cA (Fin.go (Cc 9 rfl ?_))
 refine ac ?_
 refine Tr.ret (Fin.AK ?_)
 refine Fin.L3 (sz:=1) 0 rfl (rows:=((l.take i++[x]++l.drop i).map (fun t:List UInt8=>[str t]))) (sp:=Xx.drop (l.length+1-i)) (m:=i+(l.length+1-i)) (Ju (i:=i) (Z:=Xx.map is) (n:=l.length) It (by omega) (by rw [List.length_map];omega) (by omega) (by omega) (by omega) (by omega) (by rw [List.length_drop,List.length_map];omega) rfl (by rw [←List.map_drop,FA (f:=fun t:List UInt8=>[str t]) (fun _=>rfl),e2]) (by rw [List.map_drop,←G3 (f:=fun t:List UInt8=>[str t]) (l:=l) (i:=i) (x:=x) (fun _=>rfl) rfl])) (by simp only [List.length_map,List.length_append,List.length_take,List.length_drop,List.length_cons,List.length_nil];omega) (by omega) hm1 (by rw [List.length_drop];omega) ?_
 refine Fin.drop 1 ?_
 refine Fin.Bw rfl rfl ?_ (by rintro _ _ _ rfl;rfl)
 · rintro _ _ _ rfl;exact ⟨_,_,by congr 1;omega⟩
 refine a2 ?_
 refine co rfl (G1 rfl underlying53 I5 (Ka rfl) (vl rfl) (by omega) (by omega) (by omega)) ?_
 refine ac ?_
 refine Dv 0 1 2 7 8 rfl ?_
 refine ap ?_
 refine tp rfl (A6 rfl underlying53 I5 (vl rfl) (vl rfl) (by omega) (by omega) (by omega)) ?_
 refine TO.rd 0 rfl rfl rfl (by decide) (IJ (tR:=4) rfl func140 (by kernel_rfl) (by kernel_rfl) (by kernel_rfl) (by kernel_rfl) underlying53 I5 (by decide) (vl rfl) (by exact Nat.zero_lt_succ _) (vl rfl) (by simp only [List.length_append,List.length_take,List.length_drop,List.length_map,It,Ff,E4,Nat.mul_one];omega)) ?_
 refine ap ?_
 refine Tr.cn rfl ?_ ?_<;>intro h4 q4
 refine Tr.seq (Tr.rx ?_)
 refine ay ?_
 refine xo rfl (fun _=>A6 rfl underlying53 I5 (vl rfl) (vl rfl) (by omega) (by omega) (by omega)) ?_
 refine ay ?_
 refine xo rfl (fun _=>A6 rfl underlying53 I5 (vl rfl) (vl rfl) (by omega) (by omega) (by omega)) ?_
 refine Cx.ef 0 rfl rfl (by decide) (My (m:=l.length-i) rfl rfl rfl underlying53 I5 (vl rfl) (vl rfl) (by show _=min _ _;omega) (by simp only [List.length_append,List.length_take,List.length_drop,List.length_map,It,Ff,E4,Nat.mul_one];omega) (by simp only [List.length_append,List.length_take,List.length_drop,List.length_map,It,Ff,E4,Nat.mul_one];omega) rfl) ?_
 refine Cx.nil ⟨by kernel_rfl,?_⟩
 refine BT.done IK (Fin.go (Wh 0 1 2 rfl ?_))
 refine ap ?_
 refine tp rfl (A6 rfl underlying53 I5 (vl rfl) (vl rfl) (by omega) (by omega) (by omega)) (tm rfl ?_)
 refine TO.Dn 0 rfl rfl (by decide) (En rfl rfl rfl underlying53 I5 (by decide) (vl rfl) (vl rfl) (by omega) (by omega) (by simp only [List.length_append,List.length_take,List.length_drop,List.length_map,It,Ff,E4,Nat.mul_one];omega) rfl) ?_
 refine ap ?_
 refine ac ?_
 refine Tr.ret (Fin.AK ?_)
 refine Fin.L3 (sz:=1) 0 rfl (rows:=((l.take i++[x]++l.drop i).map (fun t:List UInt8=>[str t]))) (sp:=sp.drop 1) (m:=l.length+1) (Jt (i:=i) (S:=sp.map is) (n:=l.length) It (by omega) (by rw [List.length_map];omega) (by omega) (by omega) (by omega) (by omega) (by omega) (by omega) rfl (by rw [List.map_drop,←G3 (f:=fun t:List UInt8=>[str t]) (l:=l) (i:=i) (x:=x) (fun _=>rfl) rfl])) (by simp only [List.length_map,List.length_append,List.length_take,List.length_drop,List.length_cons,List.length_nil];omega) (by omega) hm (by rw [List.length_drop];omega) ?_
 refine Fin.Bw rfl rfl ?_ (by rintro _ _ _ rfl;rfl)
 · rintro _ _ _ rfl;exact ⟨_,_,by rfl⟩
 exact absurd h4 (by decide)
theorem U8:Entry Tryz.prog 93:=⟨_,Tryz.func93,rfl,rfl⟩
theorem U9 {x:List UInt8}  :Am prog 93 [is (.slice none 0 0),int ((0:Nat):Int),slice 1 [[str x]]] (lens 1) (BP) (fun v=>Co 9 1 [[str x]] v):=by
 refine Am.of func93 rfl rfl (by exact Nb rfl) fun M0 w0 S rs M1 w1=> ?_
 have Ff:([[str x]]:List (List Pr)).length=1:=rfl
 refine a2 ?_
 refine co rfl (B2 rfl underlying53 I5 ⟨_,rfl,Ag _⟩ (vl rfl) (by omega) (by omega)) ?_
 refine a2 ?_
 refine co rfl (E2 rfl underlying53 (vl rfl)) ?_
 refine ac ?_
 refine an ?_ ?_<;>intro h1 q1
 simp at h1
 refine a2 ?_
 refine co rfl (GF rfl underlying53 (vl rfl)) ?_
 refine a2 ?_
 refine D_ 0 1 2 7 8 22 rfl ?_
 refine Tr.cn rfl ?_ ?_<;>intro h2 q2
 refine ap ?_
 refine TO.pad ?_
 refine TO.QK 0 rfl rfl (by decide) (Gd rfl rfl (by decide) rfl underlying53 I5 dY z9 rfl (by decide) (by decide) ⟨_,rfl,Jb 1⟩ (vl rfl) (by simp) (by simp;unfold maxLen;omega) (by simp)) (fun v1=> ?_)
 refine ap ?_
 refine Tr.ret (Fin.AK (Fin.drop 1 ?_))
 refine Fin.Bw rfl rfl ?_ (by intro _ _ _ h;rw [h.1])
 · exact Pr.le_trans (Bj _ _) (Lr)
 exact absurd h2 (by decide)
theorem Xy {l:List (List UInt8)} {x:List UInt8} {v:Value} {p:Pr} {i:Nat} (hi:i≤l.length) (hl:l.length≤1000000):Am Tryz.prog 93 [Ap v p,int ((i:Nat):Int),slice 1 [[str x]]] (lens (l.length+1)) (Ak 9 1 (l.map (fun t:List UInt8=>[str t])) v) (fun v=>Ak 9 1 ((l.take i++[x]++l.drop i).map (fun t:List UInt8=>[str t])) v):=by
 refine Am.K6 U8 (fun h0 _=> ?_) (fun b cap sp _ hc hm hq=> ?_)
 ·
  have Oa:l=[]:=by simpa using h0
  subst Oa
  have gC:i=0:=by simpa using hi
  subst gC
  exact Am.Js U9
 ·
  rw [List.length_map] at hc hq ⊢
  exact U7 hi hl hc hm (by omega)
theorem Su {l:List (List UInt8)} {x:List UInt8} {v:Value} (hs:Fg Lib.compareBytes l) (hl:l.length≤1000000):Am prog 49 [Ap v (lens l.length),str x] (lens (DF Lib.compareBytes l x).length) (Ak 9 1 (l.map (fun t:List UInt8=>[str t])) v) (fun v=>Ak 9 1 ((DF Lib.compareBytes l x).map (fun t:List UInt8=>[str t])) v):=by
 refine Am.of func49 rfl rfl (by exact Nb rfl) fun M0 w0 S rs M1 w1=> ?_
 refine ac ?_
 refine ap ?_
 refine TO.Dn 0 rfl rfl (by decide) (Ah rfl rfl (by decide) rfl (bE (l:=l) (x:=x) hs hl) ⟨ke rfl,ke rfl,trivial⟩) ?_
 refine ap ?_
 refine an ?_ ?_<;>intro h1 q1
 have hE:=NY (c:=Lib.compareBytes) (l:=l) (x:=x) h1
 refine ac ?_
 refine Tr.ret (Fin.AK ?_)
 refine Fin.Bw rfl rfl ?_ (by rintro _ _ _ ⟨rfl,_⟩;rw [hE])
 · rw [hE];exact Bj _ _
 have hE:=NZ (c:=Lib.compareBytes) (l:=l) (x:=x) h1
 have hp:=GJ Lib.compareBytes l x
 refine ac ?_
 refine ap ?_
 refine TO.QK 0 rfl rfl (by decide) (EH rfl rfl (by decide) rfl (Xy (l:=l) (x:=x) (i:=De Lib.compareBytes l x) (GJ _ _ _) hl) ⟨ke rfl,ke rfl,(Kf rfl),trivial⟩) (fun v1=> ?_)
 refine ap ?_
 refine Cc 4 rfl (Tr.ret ?_)
 refine Fin.Bw rfl rfl ?_ (by rintro _ _ _ ⟨rfl,_⟩;rw [hE])
 · rw [hE];exact Pr.le_trans (Bj _ _) (Pr.le_of_eq (by congr 1;simp;omega))
theorem Xz {l:List (Int)} {x:Int} {b0 cap:Nat} {sp:List Value} (hs:Fg An l) (hl:l.length≤1000000) (hcap:l.length≤cap):Am prog 94 [Ap (.slice (some ⟨b0,0,none⟩) l.length cap) (lens l.length),int x] (ER [int ((De An l x:Nat):Int),bool (KM An l x)]) (AB true b0 3 ((l.map (fun t:Int=>[int t])).flatten++sp.map is)) (fun _=>AB true b0 3 ((l.map (fun t:Int=>[int t])).flatten++sp.map is)):=by
 refine Am.of func94 rfl rfl (by exact Nb rfl) fun M0 w0 S rs M1 w1=> ?_
 refine a2 ?_
 refine co rfl (DQ rfl underlying22 (Ka rfl)) ?_
 refine a2 ?_
 refine Tr.seq (Tr.block ?_)
 refine Tr.Bk [(0,_),(1,_),(6,_)] ⟨ke rfl,ke rfl,ke rfl,trivial⟩ (fun (i:Nat) (j:Nat)=>[(7,int ((i:Nat):Int)),(8,int ((j:Nat):Int))]) (fun (i:Nat) (j:Nat)=>Hp M0 w0 S (AB true b0 3 ((l.map (fun t:Int=>[int t])).flatten++sp.map is)::Aa M1 w1::rs)) (fun (i:Nat) (j:Nat)=>i≤j∧j≤l.length∧(∀(k:Nat) y,k<i→l[k]? =some y→An y x<0)∧(∀(k:Nat) y,j≤k→l[k]? =some y→¬An y x<0)) (fun (i:Nat) (j:Nat)=>j-i) (0) (l.length)  (⟨Nat.zero_le _,Nat.le_refl _,fun k y h=>absurd h (Nat.not_lt_zero _),fun k y h1 h2=>by rw [List.getElem?_eq_none h1] at h2;cases h2⟩) ⟨ke rfl,ke rfl,trivial⟩ (fun _ _ h=>h) ?_
 rintro i j  ⟨hi1,hi2,Un,hi4⟩
 refine an ?_ ?_<;>intro h1 q1
 have hij:i<j:=by have:=of_decide_eq_true h1;omega
 obtain ⟨y,Xt⟩:=at_ (l:=l) (k:=(i+j)/2) (by omega)
 have hy:l[((((i:Nat):Int)+((j:Nat):Int))/2).toNat]? =some y:=by rw [show ((((i:Nat):Int)+((j:Nat):Int))/2).toNat=(i+j)/2 by omega];exact Xt
 refine a2 ?_
 refine co rfl (M4 rfl underlying3 underlying137 (vl rfl) (by omega) (by omega)) (co rfl (Pf rfl (vl rfl) (vl rfl) (by omega)) ?_)
 refine co rfl (Bu rfl underlying137 underlying3 (vl rfl) (by unfold CR;omega)) ?_
 refine ac ?_
 refine D_ 0 1 6 7 8 9 rfl ?_
 refine ac ?_
 refine co rfl (AA rfl underlying22 DB (Ka rfl) (vl rfl) (by omega) (by omega)) (co rfl (Ai 0 rfl (CG rfl CE (vl rfl) (Eh (f:=fun t:Int=>[int t]) (fun _=>rfl) (i:=(((i:Nat):Int)+((j:Nat):Int))/2) hy rfl))) (cm rfl (co rfl (Jx (Uj) rfl rfl rfl) ?_)))
 refine an ?_ ?_<;>intro h2 q2
 have hlt:=q2
 refine ac ?_
 exact Fin.BG ((i+j)/2+1) (j)  (⟨⟨by omega,by omega,WR CX hs Xt (by unfold An;rw [if_pos (by omega)];omega),hi4⟩,by omega⟩) ⟨⟨_,rfl,int_eq (by omega)⟩,⟨_,rfl,int_eq (by omega)⟩,ke rfl,ke rfl,ke rfl,trivial⟩ (fun _ _ h=>h)
 have hlt:=q2
 refine ac ?_
 exact Fin.BG (i) ((i+j)/2)  (⟨⟨by omega,by omega,Un,WS CX hs Xt (by unfold An;rw [if_neg (by omega)];split<;>omega)⟩,by omega⟩) ⟨⟨_,rfl,int_eq (by omega)⟩,⟨_,rfl,int_eq (by omega)⟩,ke rfl,ke rfl,ke rfl,trivial⟩ (fun _ _ h=>h)
 obtain rfl:i=j:=(by have:=of_decide_eq_false h1;omega)
 have hp:De An l x=i:=MM (by omega) Un (fun y hy=>hi4 i y (by omega) hy)
 refine ac ?_
 refine ag ?_ ?_<;>intro h3 q3
 obtain ⟨y,U6⟩:=at_ (l:=l) (k:=i) (by omega)
 refine ac ?_
 refine cy h3 rfl (AA rfl underlying22 DB (Ka rfl) (vl rfl) (by omega) (by omega)) ?_
 refine cy h3 rfl (Ai 0 rfl (CG rfl CE (vl rfl) (Eh (f:=fun t:Int=>[int t]) (fun _=>rfl) (i:=((i:Nat):Int)) (by rw [Int.toNat_natCast];exact U6) rfl))) ?_
 refine ag ?_ ?_<;>intro h4 q4
 refine ac ?_
 refine Fl 4 5 rfl (Tr.ret (Fin.Kr rfl rfl ?_ rfl ?_))
 · exact int_eq (by rw [hp])
 · refine bool_eq ?_;rw [JF hp U6];symm;rw [decide_eq_true_eq];exact Dw.2 (by simp_all)
 refine ac ?_
 refine cy h4 rfl (AA rfl underlying22 DB (Ka rfl) (vl rfl) (by omega) (by omega)) ?_
 refine cy h4 rfl (Ai 0 rfl (CG rfl CE (vl rfl) (Eh (f:=fun t:Int=>[int t]) (fun _=>rfl) (i:=((i:Nat):Int)) (by rw [Int.toNat_natCast];exact U6) rfl))) ?_
 refine cy h4 rfl (EC (Qu) rfl rfl) (CZ h4 rfl ?_)
 refine Ch.cs 48 rfl ?_ ?_<;>intro h5 q5
 exact absurd h5 (by decide)
 refine ac ?_
 refine Fl 4 5 rfl (Tr.ret (Fin.Kr rfl rfl ?_ rfl ?_))
 · exact int_eq (by rw [hp])
 · refine bool_eq ?_;rw [JF hp U6];symm;rw [decide_eq_false_iff_not];intro h0;have:=Dw.1 h0;simp_all
 refine ac ?_
 refine Fl 4 5 rfl (Tr.ret (Fin.Kr rfl rfl ?_ rfl ?_))
 · exact int_eq (by rw [hp])
 · refine bool_eq ?_;rw [Na hp (by omega)]
theorem X0:Entry Tryz.prog 94:=⟨_,Tryz.func94,rfl,rfl⟩
theorem X2 {x:Int}  :Bb prog 94 [is (.slice none 0 0),int x] (ER [int 0,bool false]):=by
 refine Bb.of func94 rfl rfl (by exact Nb rfl) fun M0 w0=> ?_
 refine Tr.seq (Tr.BK (cm rfl (cm rfl (Ch.nil (Fin.go (Tr.seq (Tr.BK (cm rfl (co rfl (GF rfl underlying22 (vl rfl)) (cm rfl (Ch.nil (Fin.go (Tr.seq (Tr.BK ?_))))))))))))))
 refine cm rfl (cm rfl (cm rfl (Ch.nil (Fin.go (Tr.seq (Tr.block (Tr.BX [(0,_),(1,_),(6,_)] (QN rfl) (fun (u:Unit)=>[(7,int 0),(8,int 0)]) (fun (u:Unit)=>True) (fun (u:Unit)=>0) () (trivial) ⟨ke rfl,ke rfl,trivial⟩ ?_)))))))
 rintro u _
 refine Tr.seq (Tr.seq (Tr.BK (cm rfl (cm rfl (co rfl (ki rfl rfl rfl rfl) (Ch.nil (Fin.go ?_)))))))
 refine Tr.cn rfl ?_ ?_<;>intro h1 q1
 exact absurd h1 (by decide)
 have:=h1
 refine Tr.exit (Fin.AG (Fin.AG (Fin.AX (Fin.go (Tr.seq (Tr.BK (cm rfl (cm rfl (cm rfl (co rfl (ki rfl rfl rfl rfl) (cm rfl ?_)))))))))))
 refine Ch.cs 35 rfl ?_ ?_<;>intro h2 q2
 exact absurd h2 (by decide)
 iterate 7 refine cnt h2 rfl ?_
 iterate 9 refine cu rfl ?_
 refine cnt h2 rfl (co rfl (Fb rfl rfl h2 rfl) (cm rfl (cm rfl (Ch.nil (Fin.go (Fl 4 5 rfl (Tr.ret (Fin.JM rfl (C1.Ig _ _) rfl ?_ rfl ?_))))))))
 · exact Lr
 · exact Lr
theorem bH {l:List (Int)} {x:Int} {v:Value} {p:Pr} (hs:Fg An l) (hl:l.length≤1000000):Am Tryz.prog 94 [Ap v p,int x] (ER [int ((De An l x:Nat):Int),bool (KM An l x)]) (Ak 3 1 (l.map (fun t:Int=>[int t])) v) (fun _=>Ak 3 1 (l.map (fun t:Int=>[int t])) v):=by
 refine Am.Mz X0 (fun h0 _=> ?_) (fun b cap sp _ hc hm hq=> ?_)
 ·
  have Oa:l=[]:=by simpa using h0
  subst Oa;exact X2
 ·
  rw [List.length_map]
  rw [List.length_map] at hc
  exact Xz hs hl hc
theorem U_ {l:List (Int)} {x:Int} {b0 cap i:Nat} {sp:List Value} (hi:i≤l.length) (hl:l.length≤1000000) (hc:l.length≤cap) (hm:cap≤maxLen) (hq:sp.length=cap-l.length):Am prog 95 [Ap (.slice (some ⟨b0,0,none⟩) l.length cap) (lens l.length),int ((i:Nat):Int),slice 1 [[int x]]] (lens (l.length+1)) (AB true b0 3 ((l.map (fun t:Int=>[int t])).flatten++sp.map is)) (fun v=>Ak 3 1 ((l.take i++[x]++l.drop i).map (fun t:Int=>[int t])) v):=by
 refine Am.of func95 rfl rfl (by exact Nb rfl) fun M0 w0 S rs M1 w1=> ?_
 have E4:([[int x]]:List (List Pr)).flatten.length=1:=rfl
 have Ff:([[int x]]:List (List Pr)).length=1:=rfl
 have It:((l.map (fun t:Int=>[int t])).flatten).length=l.length:=by rw [Bf (sz:=1) (BU fun _=>rfl),List.length_map];omega
 have e1:(((i:Nat):Int)+(1:Int)).toNat=i+1:=by omega
 have e2:((i:Nat):Int).toNat=i:=by omega
 refine a2 ?_
 refine co rfl (G2 rfl underlying22 DB (Ka rfl) (vl rfl) (by omega) (by omega) (by omega)) ?_
 refine a2 ?_
 refine co rfl (E2 rfl underlying22 (vl rfl)) ?_
 refine ac ?_
 refine an ?_ ?_<;>intro h1 q1
 simp at h1
 refine a2 ?_
 refine co rfl (DQ rfl underlying22 (Ka rfl)) ?_
 refine a2 ?_
 refine D_ 0 1 2 7 8 22 rfl ?_
 refine Tr.cn rfl ?_ ?_<;>intro h2 q2
 refine Tr.seq (Tr.E_ (sz:=1) 0 rfl (rows:=l.map (fun t:Int=>[int t])) (sp:=sp) rfl (by simp) hc hm (by omega) ?_)
 refine ap ?_
 refine TO.QK 0 rfl rfl (by decide) (GA rfl rfl (by decide) rfl underlying22 DB Y5 z3 rfl (by decide) (by decide) (vl rfl) (vl rfl) (BU fun _=>rfl) (Nat.zero_lt_succ _) (by simp only [List.length_map,List.length_cons,List.length_nil];unfold maxLen;omega) (by simp only [List.length_map,List.length_cons,List.length_nil];omega)) (fun v1=> ?_)
 refine ap ?_
 refine Tr.ret (Fin.AK ?_)
 refine Fin.Bw rfl rfl ?_ (by rintro _ _ _ ⟨rfl,_⟩;rw [show i=l.length by omega,List.take_length,List.drop_length,List.append_nil,List.map_append];rfl)
 · exact Pr.le_trans (Bj _ _) (Pr.le_of_eq (by simp))
 refine a2 ?_
 refine co rfl (Pc rfl underlying22 (Ka rfl)) ?_
 refine an ?_ ?_<;>intro h3 q3
 refine ap ?_
 refine tp rfl (Fq rfl underlying22 DB (Ka rfl) (vl rfl) (by omega) (by omega) (by omega) (by omega)) ?_
 refine ap ?_
 refine TO.pad ?_
 refine TO.WH 0 1 rfl rfl rfl rfl (by decide) rfl underlying22 underlying3 DB Y5 z3 rfl (by decide) (by decide) (vl rfl) (vl rfl) (i:=i) (k:=l.length+1-i) (by omega) (by simp only [List.length_append,List.length_take,List.length_drop,List.length_map,It,Ff,E4,Nat.mul_one];omega) (by omega) (by omega) (by unfold maxLen;omega) (by omega) (fun b1 Xw Xx kL hm1 hs1=> ?_)
 refine ap ?_
 refine Dv 0 1 2 7 9 rfl (Tr.seq ?_)
 have hsz:Xx.length=Xw-i:=by have:=hs1;rw [List.length_take,List.length_append,It,Nat.mul_one,Nat.mul_one] at this;omega
 refine Tr.OG (sz:=1) (l.map (fun t:Int=>[int t])) 1 0 rfl rfl (Pr.le_trans (JY _ _) (Pr.le_of_eq (by simp))) (BU fun _=>rfl) (by rw [List.length_map];exact hc) hm (by rw [List.length_map,List.length_map];omega) ?_
 refine ap ?_
 refine tp rfl (A6 rfl underlying22 DB (vl rfl) (vl rfl) (by omega) (by omega) (by omega)) (tm rfl ?_)
 refine TO.Dn 0 rfl rfl (by decide) (En rfl rfl rfl underlying22 DB (by decide) (vl rfl) (vl rfl) (by omega) (by omega) (by simp only [List.length_append,List.length_take,List.length_drop,List.length_map,It,Ff,E4,Nat.mul_one];omega) rfl) ?_
 refine ap ?_
 refine Tr.seq (Tr.rx ?_)
 refine ay ?_
 refine xo rfl (fun _=>A6 rfl underlying22 DB (vl rfl) (vl rfl) (by omega) (by omega) (by omega)) ?_
 refine ay ?_
 refine xo rfl (fun _=>B2 rfl underlying22 DB (Kb rfl) (vl rfl) (by omega) (by simp;omega)) ?_
 refine Cx.ef 0 rfl rfl (by decide) (En rfl rfl rfl underlying22 DB (by decide) (vl rfl) (vl rfl) (by simp only [List.length_append,List.length_take,List.length_drop,List.length_map,It,Ff,E4,Nat.mul_one];omega) (by simp only [List.length_append,List.length_take,List.length_drop,List.length_map,It,Ff,E4,Nat.mul_one];omega) (by simp only [List.length_append,List.length_take,List.length_drop,List.length_map,It,Ff,E4,Nat.mul_one];omega) rfl) ?_
 refine Cx.nil ⟨by kernel_rfl,?_⟩
 refine BT.done cA (Fin.go (Cc 9 rfl ?_))
 refine ac ?_
 refine Tr.ret (Fin.AK ?_)
 refine Fin.L3 (sz:=1) 0 rfl (rows:=((l.take i++[x]++l.drop i).map (fun t:Int=>[int t]))) (sp:=Xx.drop (l.length+1-i)) (m:=i+(l.length+1-i)) (Ju (i:=i) (Z:=Xx.map is) (n:=l.length) It (by omega) (by rw [List.length_map];omega) (by omega) (by omega) (by omega) (by omega) (by rw [List.length_drop,List.length_map];omega) rfl (by rw [←List.map_drop,FA (f:=fun t:Int=>[int t]) (fun _=>rfl),e2]) (by rw [List.map_drop,←G3 (f:=fun t:Int=>[int t]) (l:=l) (i:=i) (x:=x) (fun _=>rfl) rfl])) (by simp only [List.length_map,List.length_append,List.length_take,List.length_drop,List.length_cons,List.length_nil];omega) (by omega) hm1 (by rw [List.length_drop];omega) ?_
 refine Fin.drop 1 ?_
 refine Fin.Bw rfl rfl ?_ (by rintro _ _ _ rfl;rfl)
 · rintro _ _ _ rfl;exact ⟨_,_,by congr 1;omega⟩
 refine a2 ?_
 refine co rfl (G1 rfl underlying22 DB (Ka rfl) (vl rfl) (by omega) (by omega) (by omega)) ?_
 refine ac ?_
 refine Dv 0 1 2 7 8 rfl ?_
 refine ap ?_
 refine tp rfl (A6 rfl underlying22 DB (vl rfl) (vl rfl) (by omega) (by omega) (by omega)) ?_
 refine TO.rd 0 rfl rfl rfl (by decide) (IJ (tR:=4) rfl func144 (by kernel_rfl) (by kernel_rfl) (by kernel_rfl) (by kernel_rfl) underlying22 DB (by decide) (vl rfl) (by exact Nat.zero_lt_succ _) (vl rfl) (by simp only [List.length_append,List.length_take,List.length_drop,List.length_map,It,Ff,E4,Nat.mul_one];omega)) ?_
 refine ap ?_
 refine Tr.cn rfl ?_ ?_<;>intro h4 q4
 refine Tr.seq (Tr.rx ?_)
 refine ay ?_
 refine xo rfl (fun _=>A6 rfl underlying22 DB (vl rfl) (vl rfl) (by omega) (by omega) (by omega)) ?_
 refine ay ?_
 refine xo rfl (fun _=>A6 rfl underlying22 DB (vl rfl) (vl rfl) (by omega) (by omega) (by omega)) ?_
 refine Cx.ef 0 rfl rfl (by decide) (My (m:=l.length-i) rfl rfl rfl underlying22 DB (vl rfl) (vl rfl) (by show _=min _ _;omega) (by simp only [List.length_append,List.length_take,List.length_drop,List.length_map,It,Ff,E4,Nat.mul_one];omega) (by simp only [List.length_append,List.length_take,List.length_drop,List.length_map,It,Ff,E4,Nat.mul_one];omega) rfl) ?_
 refine Cx.nil ⟨by kernel_rfl,?_⟩
 refine BT.done IK (Fin.go (Wh 0 1 2 rfl ?_))
 refine ap ?_
 refine tp rfl (A6 rfl underlying22 DB (vl rfl) (vl rfl) (by omega) (by omega) (by omega)) (tm rfl ?_)
 refine TO.Dn 0 rfl rfl (by decide) (En rfl rfl rfl underlying22 DB (by decide) (vl rfl) (vl rfl) (by omega) (by omega) (by simp only [List.length_append,List.length_take,List.length_drop,List.length_map,It,Ff,E4,Nat.mul_one];omega) rfl) ?_
 refine ap ?_
 refine ac ?_
 refine Tr.ret (Fin.AK ?_)
 refine Fin.L3 (sz:=1) 0 rfl (rows:=((l.take i++[x]++l.drop i).map (fun t:Int=>[int t]))) (sp:=sp.drop 1) (m:=l.length+1) (Jt (i:=i) (S:=sp.map is) (n:=l.length) It (by omega) (by rw [List.length_map];omega) (by omega) (by omega) (by omega) (by omega) (by omega) (by omega) rfl (by rw [List.map_drop,←G3 (f:=fun t:Int=>[int t]) (l:=l) (i:=i) (x:=x) (fun _=>rfl) rfl])) (by simp only [List.length_map,List.length_append,List.length_take,List.length_drop,List.length_cons,List.length_nil];omega) (by omega) hm (by rw [List.length_drop];omega) ?_
 refine Fin.Bw rfl rfl ?_ (by rintro _ _ _ rfl;rfl)
 · rintro _ _ _ rfl;exact ⟨_,_,by rfl⟩
 exact absurd h4 (by decide)
theorem VA:Entry Tryz.prog 95:=⟨_,Tryz.func95,rfl,rfl⟩
theorem VB {x:Int}  :Am prog 95 [is (.slice none 0 0),int ((0:Nat):Int),slice 1 [[int x]]] (lens 1) (BP) (fun v=>Co 3 1 [[int x]] v):=by
 refine Am.of func95 rfl rfl (by exact Nb rfl) fun M0 w0 S rs M1 w1=> ?_
 have Ff:([[int x]]:List (List Pr)).length=1:=rfl
 refine a2 ?_
 refine co rfl (B2 rfl underlying22 DB ⟨_,rfl,Ag _⟩ (vl rfl) (by omega) (by omega)) ?_
 refine a2 ?_
 refine co rfl (E2 rfl underlying22 (vl rfl)) ?_
 refine ac ?_
 refine an ?_ ?_<;>intro h1 q1
 simp at h1
 refine a2 ?_
 refine co rfl (GF rfl underlying22 (vl rfl)) ?_
 refine a2 ?_
 refine D_ 0 1 2 7 8 22 rfl ?_
 refine Tr.cn rfl ?_ ?_<;>intro h2 q2
 refine ap ?_
 refine TO.pad ?_
 refine TO.QK 0 rfl rfl (by decide) (Gd rfl rfl (by decide) rfl underlying22 DB Y5 z3 rfl (by decide) (by decide) ⟨_,rfl,Jb 1⟩ (vl rfl) (by simp) (by simp;unfold maxLen;omega) (by simp)) (fun v1=> ?_)
 refine ap ?_
 refine Tr.ret (Fin.AK (Fin.drop 1 ?_))
 refine Fin.Bw rfl rfl ?_ (by intro _ _ _ h;rw [h.1])
 · exact Pr.le_trans (Bj _ _) (Lr)
 exact absurd h2 (by decide)
theorem X3 {l:List (Int)} {x:Int} {v:Value} {p:Pr} {i:Nat} (hi:i≤l.length) (hl:l.length≤1000000):Am Tryz.prog 95 [Ap v p,int ((i:Nat):Int),slice 1 [[int x]]] (lens (l.length+1)) (Ak 3 1 (l.map (fun t:Int=>[int t])) v) (fun v=>Ak 3 1 ((l.take i++[x]++l.drop i).map (fun t:Int=>[int t])) v):=by
 refine Am.K6 VA (fun h0 _=> ?_) (fun b cap sp _ hc hm hq=> ?_)
 ·
  have Oa:l=[]:=by simpa using h0
  subst Oa
  have gC:i=0:=by simpa using hi
  subst gC
  exact Am.Js VB
 ·
  rw [List.length_map] at hc hq ⊢
  exact U_ hi hl hc hm (by omega)
theorem X4 {l:List (Int)} {x:Int} {v:Value} (hs:Fg An l) (hl:l.length≤1000000):Am prog 50 [Ap v (lens l.length),int x] (lens (DF An l x).length) (Ak 3 1 (l.map (fun t:Int=>[int t])) v) (fun v=>Ak 3 1 ((DF An l x).map (fun t:Int=>[int t])) v):=by
 refine Am.of func50 rfl rfl (by exact Nb rfl) fun M0 w0 S rs M1 w1=> ?_
 refine ac ?_
 refine ap ?_
 refine TO.Dn 0 rfl rfl (by decide) (Ah rfl rfl (by decide) rfl (bH (l:=l) (x:=x) hs hl) ⟨ke rfl,ke rfl,trivial⟩) ?_
 refine ap ?_
 refine an ?_ ?_<;>intro h1 q1
 have hE:=NY (c:=An) (l:=l) (x:=x) h1
 refine ac ?_
 refine Tr.ret (Fin.AK ?_)
 refine Fin.Bw rfl rfl ?_ (by rintro _ _ _ ⟨rfl,_⟩;rw [hE])
 · rw [hE];exact Bj _ _
 have hE:=NZ (c:=An) (l:=l) (x:=x) h1
 have hp:=GJ An l x
 refine ac ?_
 refine ap ?_
 refine TO.QK 0 rfl rfl (by decide) (EH rfl rfl (by decide) rfl (X3 (l:=l) (x:=x) (i:=De An l x) (GJ _ _ _) hl) ⟨ke rfl,ke rfl,(Kf rfl),trivial⟩) (fun v1=> ?_)
 refine ap ?_
 refine Cc 4 rfl (Tr.ret ?_)
 refine Fin.Bw rfl rfl ?_ (by rintro _ _ _ ⟨rfl,_⟩;rw [hE])
 · rw [hE];exact Pr.le_trans (Bj _ _) (Pr.le_of_eq (by congr 1;simp;omega))
end Go.Proofs.YtgilhkjlfongoaaGreat
