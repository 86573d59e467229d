/-
  RunnerTries: whatever the input, the law of this name returns true and its arguments read as before; the table of trailing zeros is tied to the program. No conditions.
-/
import Derived.Test.YtmocaapoeefgkaaGreatDoorTie
import Derived.Test.YtmocaapoeefgkaaGreatDoorCards
import Derived.LaidMore
import Derived.OpenShut
import Derived.Stop.Joined
import Derived.ProofKit
import Derived.Test.YtmocaapoeefgkaaGreatDoorRcTP8
set_option linter.all false
set_option maxRecDepth 40000
set_option maxHeartbeats 16000000
namespace Go.Proofs.YtmocaapoeefgkaaGreatDoor
open Go Go.RowKit Cp Go.Proofs.Tryz
theorem bL {l:List Ba} {r:List BH} {d:List Int} {day:Int} {st tr:List Int}  :BS prog 27 [agg (FR l r d day st tr true)] (Dy [int 0,bool false]) (CY) (fun _=>CY):=by
 refine BS.of func27 rfl rfl Az fun M0 w0 S rs M1 w1=> ?_
 refine ac ?_
 refine an ?_ ?_<;>intro h1 q1
 refine ac ?_
 refine Tr.ret (Fin.AE (Fin.FC rfl rfl ?_ rfl ?_))
 · exact Lr
 · exact Lr
 exact absurd h1 AB
theorem Wc {l:List Ba} {r:List BH} {d:List Int} {day:Int} {st tr:List Int} {step:Int} {x y z:B7} (Gb:∀x∈l,x.C6.small) (hl:l.length≤1000000) (hr:r.length≤1000000) (hd:d.length≤1000000) (hst:st.length≤1000000) (htr:tr.length≤1000000):BS prog 30 [agg (FR l r d day st tr true),int step,agg (Be x),agg (Be y),agg (Be z)] (Dy [agg (FR l r d day st tr true),int 54]) (CY) (fun _=>CY):=by
 refine BS.of func30 rfl rfl Az fun M0 w0 S rs M1 w1=> ?_
 refine Tr.seq (Tr.Ap ?_)
 iterate 4 refine tp rfl (Bh rfl C3) ?_
 refine Tl rfl rfl rfl rfl z42 Hj (fun b1=> ?_)
 refine ap ?_
 refine ap ?_
 refine tp rfl (Cz (Si Gb hl hr hd hst htr) rfl rfl) ?_
 refine Tl rfl rfl rfl rfl z42 Hj (fun b2=> ?_)
 refine ap ?_
 refine ac ?_
 · repeat' first|exact Lr|exact absurd h AB|refine Tr.drop 0 (Tr.ret (Fin.AR (Fin.AE (Fin.Lf [_] rfl (AL.cell 0 rfl rfl Ej EE rfl Lr) (AL.tmp rfl Lr) ?_))))|refine Ay ⟨?_,?_,trivial⟩|refine ap ?_|(refine Tr.cn rfl ?_ ?_<;>intro h q)
theorem rP {l:List Ba} {r:List BH} {d:List Int} {day:Int} (Gb:∀x∈l,x.C6.small) (hl:l.length≤1000000) (hr:r.length≤1000000) (hd:d.length≤1000000) (hn:newE l r d day=0∧newP l r d day=FR l r d day (List.replicate l.length 0) (List.replicate l.length 0) false):BS Tryz.prog 26 [agg [Da l,reqs r,ints d],int day] (Dy [agg (FR l r d day (List.replicate l.length 0) (List.replicate l.length 0) false),int 0]) CY (fun _=>CY):=by
 have h:=WX (day:=day) Gb hl hr hd
 rw [hn.1,hn.2] at h
 exact h
theorem AAJ (n i:Nat):(List.replicate n (0:Int)).set i 0=List.replicate n 0:=List.ext_getElem? fun j=>by
 rw [List.getElem?_set]
 split
 ·
  rename_i h;subst h
  split
  · rename_i h1;rw [List.getElem?_replicate,if_pos I5]
  · rename_i h1;rw [List.getElem?_eq_none AA]
 · rfl
theorem TR {t:List Int}  :BS prog 6 [ints t] (bool true) (CY) (fun _=>CY):=by
 refine BS.of func6 rfl rfl Az fun M0 w0 S rs M1 w1=> ?_
 refine Tr.Cl 0 rfl fun EH=>(Tr.seq (Tr.Al (cm rfl (Ch.nil (Fin.go (Tr.seq (Tr.seq (Tr.Al (cm rfl (co rfl (AV rfl (tg) ⟨ke rfl,trivial⟩) (co rfl (Fp rfl (vl rfl)) (Ch.nil (Fin.go ?_)))))))))))))
 refine Tr.cn rfl ?_ ?_<;>intro h1 q1
 refine Tr.seq (Tr.Ap (TO.GK 0 rfl rfl AB (Aj rfl rfl AB rfl (WZ) trivial) (tm rfl (TO.nil (Fin.go (Tr.ret (Fin.AE (Fin.ED rfl rfl ?_ (fun _ _ _ _=>rfl)))))))))
 · exact Lr
 have ht4:t.length≤400:=by simpa using h1
 have ht9:t.length≤1000000000:=by omega
 refine Tr.skip (Fin.go (Tr.seq (Tr.Ap (tm rfl (TO.pad ?_)))))
 refine TO.Dl 0 rfl rfl AB (Fu rfl rfl AB rfl (yS (l:=t) ht9) ⟨ke rfl,trivial⟩) (fun v1=> ?_)
 refine TO.Le 33 0 _ rfl rfl (fun _=>rfl) (fun b1=> ?_)
 refine tm rfl (TO.nil (Fin.go (Tr.seq (Tr.Ap (tm rfl (TO.GK 0 rfl rfl AB (Aj rfl rfl AB rfl (zv) ⟨ke rfl,trivial⟩) ?_))))))
 refine TO.ex 36 rfl (fun z1=>TO.fact 36 rfl fun Eh=> ?_)
 refine tm rfl (tp rfl (Am rfl (vl rfl) rfl) (tp rfl (Am rfl (vl rfl) rfl) ?_))
 refine TO.ex 38 rfl (fun p1=>TO.fact 38 rfl fun P0=> ?_)
 refine tp rfl (Am rfl (vl rfl) rfl) ?_
 refine Tl rfl rfl rfl rfl z31 Ia (fun b2=> ?_)
 refine Tl rfl rfl rfl rfl z35 FE (fun b3=> ?_)
 refine TO.AK 1 rfl rfl rfl (vl rfl) (Va rfl) rfl De rfl rfl (TO.freeze 1 4 rfl rfl (TO.AK 0 rfl rfl rfl (vl rfl) (Va rfl) rfl CL rfl rfl (TO.freeze 0 5 rfl rfl (tm rfl (TO.nil (Fin.Tn 0 rfl (fun s1=> ?_)))))))
 refine Fin.go (Ti 4 5 rfl (Tr.seq (Tr.seq (Tr.drop 0 ?_))))
 have hdl:=P0.fit.dl
 have h7:=P0.l7
 have hrl:=P0.rl
 have Gb:∀x∈p1.1,x.C6.small:=fun x hx=>(P0.ok x hx).2
 have hL1:p1.1.length≤1000000:=by omega
 have hL2:p1.2.1.length≤1000000:=by omega
 have hL3:p1.2.2.length≤1000000:=by omega
 have hv:BD ((p1.2.2.length:Nat):Int) p1.2.1=0:=by rw [hdl];exact P0.fit.v
 have hn:=Eh.n2
 obtain ⟨x0,hx0⟩:=at_ (l:=z1.Bu) (k:=0) AA
 obtain ⟨x1,hx1⟩:=at_ (l:=z1.Bu) (k:=1) AA
 have hla:=P0.fit.last
 have hnm:¬x1.name=x0.name:=fun h=>absurd ((Eh.snd 1 x1 hx1).name.trans ((congrArg some h).trans (Eh.snd 0 x0 hx0).name.symm)) AB
 have h10:¬x1=x0:=fun h=>hnm (by rw [h])
 have h1y:¬x1=({x0 with EL:= !x0.EL}:B7):=fun h=>hnm (by rw [h])
 have h0y:¬x0=({x0 with EL:= !x0.EL}:B7):=fun h=>by have h_:=congrArg B7.EL h;cases hb:x0.EL<;>rw [hb] at h_<;>cases h_
 have hzl:(List.replicate p1.1.length (0:Int)).length=p1.1.length:=List.length_replicate
 have hz6:(List.replicate p1.1.length (0:Int)).length≤1000000:=by omega
 have hzd:(List.replicate p1.1.length (0:Int)).length=p1.2.2.length:=by omega
 have hz4:∀x∈(List.replicate p1.1.length (0:Int)),0≤x∧x≤4:=fun x hx=>by rw [List.eq_of_mem_replicate hx];decide
 refine Tr.Al (co rfl (N_ rfl OE rfl rfl) (co rfl (F5 rfl dF rfl) (co rfl (CJ rfl underlying32 (vl rfl)) (co rfl (ki rfl rfl rfl rfl) (Ch.nil (Fin.go ?_))))))
 refine Tr.cn rfl ?_ ?_<;>intro h2 q2
 refine Tr.seq (Tr.Ap (TO.GK 0 rfl rfl AB (Aj rfl rfl AB rfl (WZ) trivial) (tm rfl (TO.nil (Fin.go (Tr.ret (Fin.AE (Fin.ED rfl rfl ?_ (fun _ _ _ _=>rfl)))))))))
 · exact Lr
 have hne:0<p1.1.length:=by have:=q2;omega
 obtain ⟨dz,hdz⟩:=at_ (l:=p1.2.2) (k:=0) AA
 have hd0:0≤Ez p1.2.2:=by have:=P0.fit.days dz (List.mem_of_getElem? hdz);have:=fc (List.mem_of_getElem? hdz);omega
 have hnew:=P0.fit.new (day:=Ez p1.2.2) ⟨hd0,hla⟩
 refine Tr.skip (Fin.go (Tr.seq (Tr.pad (Tr.pad (Tr.pad (Tr.GI mixed [none,none,none,none,none,none,none,none,none,none,none,none,some (0,0,true,7),some (0,1,true,8),some (0,2,true,9),some (7,0,true,7),some (8,1,true,8),some (9,2,true,9)] BV (xo rfl (fun _=>N_ rfl Gv rfl rfl) (xo rfl (fun _=>F5 rfl ND rfl) ?_))))))))
 refine xo rfl (fun _=>AD rfl underlying27 Bw (vl rfl) (vl rfl) AA (AZ (k:=0) hx0)) ?_
 refine xo rfl (fun _=>AM rfl CD Bw (vl rfl) rfl rfl) (xo rfl (fun _=>N_ rfl Gv rfl rfl) (xo rfl (fun _=>F5 rfl ND rfl) ?_))
 refine xo rfl (fun _=>AD rfl underlying27 Bw (vl rfl) (vl rfl) AA (AZ (k:=0) hx0)) ?_
 refine xo rfl (fun _=>AM rfl CD Bw (vl rfl) rfl rfl) (xo rfl (fun _=>N_ rfl Gv rfl rfl) (xo rfl (fun _=>F5 rfl ND rfl) ?_))
 refine xo rfl (fun _=>AD rfl underlying27 Bw (vl rfl) (vl rfl) AA (AZ (k:=1) hx1)) ?_
 refine xo rfl (fun _=>AM rfl CD Bw (vl rfl) rfl rfl) (Cx.ef 0 rfl rfl AB (CA rfl rfl AB rfl z40 Hh) (Cx.ef 1 rfl rfl AB (CA rfl rfl AB rfl z40 Hh) (Cx.ef 2 rfl rfl AB (CA rfl rfl AB rfl z40 Hh) (Cx.DG 0 rfl rfl (Cc rfl rfl rfl rfl (Va rfl) Bw rfl rfl) (Cx.DG 1 rfl rfl (Cc rfl rfl rfl rfl (Va rfl) Bw rfl rfl) (Cx.DG 2 rfl rfl (Cc rfl rfl rfl rfl (Va rfl) Bw rfl rfl) ?_))))))
 refine Cx.nil ⟨rfl,?_⟩
 refine BI.open_ 0 7 rfl rfl (fun v2=> ?_)
 refine BI.open_ 1 8 rfl rfl (fun v3=> ?_)
 refine BI.open_ 2 9 rfl rfl (fun v4=> ?_)
 refine BI.done (At.cons (At.cons (At.cons (At.cons (At.cons (At.map _)))))) (Fin.Le 7 0 _ rfl rfl (fun _=>rfl) (fun b4=> ?_))
 refine Fin.Le 8 1 _ rfl rfl (fun _=>rfl) (fun b5=> ?_)
 refine Fin.Le 9 2 _ rfl rfl (fun _=>rfl) (fun b6=> ?_)
 refine Fin.go (Tj 5 7 8 9 rfl (Tr.seq (Tr.Ap (tp rfl (AW rfl ZO (vl rfl)) (TO.rd 0 rfl rfl rfl AB (A_ rfl XA (vl rfl) rfl) (tp rfl (Fp rfl (vl rfl)) (tp rfl (AW rfl ZO (vl rfl)) (TO.DG 1 rfl rfl (Aw rfl rfl (vl rfl) (Vo rfl) Tp rfl Az rfl) (TO.nil (Fin.go (Tr.seq (Tr.freeze 0 7 rfl rfl (Tr.freeze 0 8 rfl rfl (Tr.freeze 0 9 rfl rfl ?_))))))))))))))
 refine Tr.pad (Tr.GI mixed [none,none,none,some (0,1,true,0),none,none,none,some (0,0,true,10),some (10,0,true,10),none] BV (xo rfl (fun _=>AM rfl C4 CL (vl rfl) rfl rfl) (xo rfl (fun _=>AM rfl C4 CL (vl rfl) rfl rfl) ?_)))
 refine xo rfl (fun _=>AV rfl (jm (l:=p1.2.2)) ⟨ke rfl,trivial⟩) ?_
 refine Cx.ef 1 rfl rfl AB (Aj rfl rfl AB rfl (rP Gb hL1 hL2 hL3 hnew) ⟨ke rfl,ke rfl,trivial⟩) (xm rfl (xo rfl (fun _=>Am rfl (vl rfl) rfl) (xo rfl (fun _=>Am rfl (vl rfl) rfl) (Cx.ef 0 rfl rfl AB (CA rfl rfl AB rfl z42 Hj) (Cx.DG 0 rfl rfl (Cc rfl rfl rfl rfl (Va rfl) EE rfl rfl) (xm rfl ?_))))))
 refine Cx.nil ⟨rfl,?_⟩
 refine BI.open_ 0 10 rfl rfl (fun v5=> ?_)
 refine BI.done (At.cons (At.cons (At.cons (At.map _)))) (Fin.Le 10 0 _ rfl rfl (fun _=>rfl) (fun b7=> ?_))
 refine Fin.go (wk6 5 7 8 9 10 11 rfl (Tr.seq (Tr.Ap (TO.rd 0 rfl rfl rfl AB (B4 rfl Ej EE (vl rfl) rfl rfl) (TO.GK 1 rfl rfl AB (Aj rfl rfl AB rfl (Ue hz6 hzd AA) ⟨ke rfl,trivial⟩) (tm rfl (tp rfl (Am rfl (vl rfl) rfl) (tp rfl (Am rfl (vl rfl) rfl) (tm rfl (tm rfl (TO.nil (Fin.go (Tr.seq (Tr.seq ?_))))))))))))))
 have hnb:Sk (Jy p1.2.2) (G0 p1.2.1 p1.2.2 ((List.replicate p1.1.length (0:Int))) ((List.replicate p1.1.length (0:Int))) (Ez p1.2.2))=true:=by have h_:=bK (r:=p1.2.1) (d:=p1.2.2) (o:=Jy p1.2.2) (day:=(Ez p1.2.2)) hv (fun x hx=>fc hx) (fun i hi=>rM ⟨by omega,by omega⟩) AA;rw [hdl] at h_;exact h_
 obtain ⟨x,hx⟩:∃x,TP (Jy p1.2.2) (G0 p1.2.1 p1.2.2 ((List.replicate p1.1.length (0:Int))) ((List.replicate p1.1.length (0:Int))) (Ez p1.2.2))=x:=⟨_,rfl⟩
 have hxm:=(fZ hnb).2
 rw [hx] at hxm
 have hxd:=(Wb.1 hxm).1
 obtain ⟨hxr,_,_⟩:=Qc hxd
 rw [Ku] at hxd
 have hxl:x.toNat<p1.1.length:=by omega
 have hc1:=List.contains_iff_mem.2 hxm
 refine Tr.re 12 rfl (int_eq hx) ?_
 have AEH:TQ p1.1 p1.2.1 p1.2.2 (Ez p1.2.2) ((List.replicate p1.1.length (0:Int))) ((List.replicate p1.1.length (0:Int))) x x0 ({x0 with EL:= !x0.EL}:B7) x1=FR p1.1 p1.2.1 p1.2.2 (Ez p1.2.2) (List.replicate p1.1.length (0:Int)) ((List.replicate p1.1.length (0:Int)).set x.toNat ((List.replicate p1.1.length (0:Int)).getD x.toNat 0+1)) true:=by unfold TQ;rw [if_pos hc1,if_neg h1y,if_neg h10,decide_eq_false (fun h=>h.elim h1y h10)];rfl
 have hT6:((List.replicate p1.1.length (0:Int)).set x.toNat ((List.replicate p1.1.length (0:Int)).getD x.toNat 0+1)).length≤1000000:=by rw [List.length_set];exact hz6
 have hz0:(List.replicate p1.1.length (0:Int)).set x.toNat 0=(List.replicate p1.1.length (0:Int)):=AAJ _ _
 refine Tr.Al (cm rfl (co rfl (ki rfl rfl rfl rfl) (cm rfl ?_)))
 refine Ch.cs 75 rfl ?_ ?_<;>intro h3 q3
 exact absurd h3 AB
 refine Jz h3 rfl (cy h3 rfl (Fp rfl (vl rfl)) (co rfl (KE rfl rfl h3 rfl) (cm rfl ?_)))
 refine Ch.cs 79 rfl ?_ ?_<;>intro h4 q4
 exact absurd h4 (by rw [hnb];decide)
 refine Jz h4 rfl (cy h4 rfl (ki rfl rfl rfl rfl) (co rfl (KE rfl rfl h4 rfl) (cm rfl ?_)))
 refine Ch.cs 83 rfl ?_ ?_<;>intro h5 q5
 exfalso;have:=q5;omega
 refine Jz h5 rfl (cy h5 rfl (N_ rfl OE rfl rfl) (cy h5 rfl (F5 rfl dF rfl) (cy h5 rfl (CJ rfl underlying32 (vl rfl)) (cy h5 rfl (ki rfl rfl rfl rfl) (co rfl (KE rfl rfl h5 rfl) (Ch.nil (Fin.go (jr 5 7 8 9 10 12 89 rfl ?_))))))))
 refine Tr.cn rfl ?_ ?_<;>intro h6 q6
 exfalso;have:=q6;omega
 refine Tr.skip (Fin.go (Tr.seq (Tr.Ap (TO.rd 0 rfl rfl rfl AB (B4 rfl Ej EE (vl rfl) rfl rfl) (tm rfl (tp rfl (AM rfl CD Bw (vl rfl) rfl rfl) (tp rfl (AM rfl CD Bw (vl rfl) rfl rfl) (tp rfl (AM rfl CD Bw (vl rfl) rfl rfl) ?_))))))))
 refine TO.GK 1 rfl rfl AB (Aj rfl rfl AB rfl (Kv (x:=x0) (y:=({x0 with EL:= !x0.EL}:B7)) (z:=x1) Gb hL1 hL2 hL3 hz6 hz6 hzd hzd hz4) ⟨ke rfl,ke rfl,ke rfl,ke rfl,ke rfl,trivial⟩) ?_
 refine tm rfl (tp rfl (Am rfl (vl rfl) rfl) (TO.re 97 _ rfl (Pr.le_of_eq (congrArg agg AEH)) (tp rfl (Am rfl (vl rfl) rfl) (TO.re 98 _ rfl (int_eq (if_pos hc1)) ?_))))
 refine Tl rfl rfl rfl rfl z42 Hj (fun b8=> ?_)
 refine TO.AK 0 rfl rfl rfl (vl rfl) (Va rfl) rfl EE rfl rfl (TO.freeze 0 14 rfl rfl (tm rfl (TO.nil (Fin.go (jr 5 7 8 10 12 14 15 rfl (Tr.seq (Tr.Ap (tp rfl (AM rfl Ej EE (vl rfl) rfl rfl) (TO.GK 1 rfl rfl AB (Aj rfl rfl AB rfl (bL) ⟨ke rfl,trivial⟩) (tm rfl (tp rfl (Am rfl (vl rfl) rfl) (tp rfl (Am rfl (vl rfl) rfl) (tm rfl ?_)))))))))))))
 refine tm rfl (TO.nil (Fin.go (wk8 5 7 8 10 12 14 15 17 rfl (Tr.seq (Tr.Ap (tp rfl (AM rfl Ej EE (vl rfl) rfl rfl) (tm rfl (tp rfl (AM rfl CD Bw (vl rfl) rfl rfl) (tp rfl (AM rfl CD Bw (vl rfl) rfl rfl) (tp rfl (AM rfl CD Bw (vl rfl) rfl rfl) ?_))))))))))
 refine TO.GK 1 rfl rfl AB (Aj rfl rfl AB rfl (Wc (x:=x0) (y:=({x0 with EL:= !x0.EL}:B7)) (z:=({x0 with EL:= !x0.EL}:B7)) Gb hL1 hL2 hL3 hz6 hT6) ⟨ke rfl,ke rfl,ke rfl,ke rfl,ke rfl,trivial⟩) ?_
 refine tm rfl (tp rfl (Am rfl (vl rfl) rfl) (tp rfl (Am rfl (vl rfl) rfl) ?_))
 refine Tl rfl rfl rfl rfl z42 Hj (fun b9=> ?_)
 refine TO.AK 0 rfl rfl rfl (vl rfl) (Va rfl) rfl EE rfl rfl (TO.freeze 0 18 rfl rfl (tm rfl (TO.nil (Fin.go (wk9 5 7 8 10 12 14 15 17 19 rfl (Tr.seq (Tr.Ap (tp rfl (AM rfl Ej EE (vl rfl) rfl rfl) (tm rfl (TO.GK 1 rfl rfl AB (Aj rfl rfl AB rfl (ji Gb hL1 hL2 hL3 hz6 hT6) ⟨ke rfl,ke rfl,trivial⟩) (tm rfl (tp rfl (Am rfl (vl rfl) rfl) (tp rfl (Am rfl (vl rfl) rfl) ?_)))))))))))))
 refine Tl rfl rfl rfl rfl z42 Hj (fun b10=> ?_)
 refine TO.AK 0 rfl rfl rfl (vl rfl) (Va rfl) rfl EE rfl rfl (TO.freeze 0 20 rfl rfl (tm rfl (TO.nil (Fin.go (VH 5 7 8 10 12 14 15 17 19 21 rfl (Tr.seq (Tr.seq (Tr.Al (cm rfl (co rfl (ki rfl rfl rfl rfl) (cm rfl ?_)))))))))))
 refine Ch.cs 121 rfl ?_ ?_<;>intro h7 q7
 exact absurd h7 AB
 refine cy h7 rfl (N_ rfl lZ rfl rfl) (cy h7 rfl (F5 rfl XA rfl) (cy h7 rfl (Fp rfl (vl rfl)) (co rfl (KE rfl rfl h7 rfl) (cm rfl ?_))))
 refine Ch.cs 126 rfl ?_ ?_<;>intro h8 q8
 exact absurd h8 AB
 refine Jz h8 rfl (co rfl (KE rfl rfl h8 rfl) (cm rfl ?_))
 refine Ch.cs 129 rfl ?_ ?_<;>intro h9 q9
 exact absurd h9 AB
 refine Jz h9 rfl (cy h9 rfl (ki rfl rfl rfl rfl) (co rfl (KE rfl rfl h9 rfl) (cm rfl ?_)))
 refine Ch.cs 133 rfl ?_ ?_<;>intro h10 Sx
 exact absurd h10 AB
 refine Jz h10 rfl (cy h10 rfl (ki rfl rfl rfl rfl) (co rfl (KE rfl rfl h10 rfl) (Ch.nil (Fin.go (wk6 5 7 8 10 12 136 rfl ?_)))))
 refine Tr.cn rfl ?_ ?_<;>intro h11 Ty
 exact absurd h11 AB
 refine Tr.skip (Fin.go (Tr.seq (Tr.seq (Tr.Al (cm rfl (Ch.nil (Fin.go (Tr.block (Tr.HZ 0 (FR p1.1 p1.2.1 p1.2.2 (Ez p1.2.2) ((List.replicate p1.1.length (0:Int)).set x.toNat (0:Int)) ((List.replicate p1.1.length (0:Int)).set x.toNat (((0:Nat)):Int)) false) rfl ⟨Lr,Lr,Lr,Lr,Pr.le_of_eq (congrArg (fun l=>ints l) hz0.symm),Pr.le_of_eq (congrArg (fun l=>ints l) (show _=(List.replicate p1.1.length (0:Int)).set x.toNat (((0:Nat)):Int) from hz0.symm)),Lr,trivial⟩ (Tr.Cy [(5,_),(7,_),(8,_),(10,_),(12,_)] ⟨ke rfl,ke rfl,ke rfl,ke rfl,ke rfl,trivial⟩ (fun (n:Nat) (a:Int)=>[(22,int ((n:Nat):Int))]) (fun (n:Nat) (a:Int)=>Hp M0 w0 S (AF true b7 42 (FR p1.1 p1.2.1 p1.2.2 (Ez p1.2.2) ((List.replicate p1.1.length (0:Int)).set x.toNat a) ((List.replicate p1.1.length (0:Int)).set x.toNat ((n:Nat):Int)) false)::CY::Ak M1 w1::rs)) (fun (n:Nat) (a:Int)=>n≤4∧(a=0∨a=2)) (fun (n:Nat) (a:Int)=>4-n) (0) (0)  (⟨Nat.zero_le _,.inl rfl⟩) ⟨ke rfl,trivial⟩ (fun _ _ h=>h) ?_))))))))))
 rintro n a  ⟨hn0,ha⟩
 have ha1:a≠1:=by omega
 have AAK:((List.replicate p1.1.length (0:Int)).set x.toNat a).length≤1000000:=by rw [List.length_set];exact hz6
 have AEI:((List.replicate p1.1.length (0:Int)).set x.toNat ((n:Nat):Int)).length≤1000000:=by rw [List.length_set];exact hz6
 have AEJ:((List.replicate p1.1.length (0:Int)).set x.toNat a).length=p1.2.2.length:=by rw [List.length_set];exact hzd
 have AAL:((List.replicate p1.1.length (0:Int)).set x.toNat ((n:Nat):Int)).length=p1.2.2.length:=by rw [List.length_set];exact hzd
 have AEK:∀x_∈(List.replicate p1.1.length (0:Int)).set x.toNat ((n:Nat):Int),0≤x_∧x_≤4:=fun x_ hx_=>by rcases List.mem_or_eq_of_mem_set hx_ with h|rfl;exact hz4 _ h;omega
 have hft:=rO (r:=p1.2.1) (d:=p1.2.2) (day:=(Ez p1.2.2)) (a:=a) (t:=((n:Nat):Int)) ha1 hxl hxd
 refine Tr.seq (Tr.seq (Tr.Al (cm rfl (co rfl (ki rfl rfl rfl rfl) (Ch.nil (Fin.go ?_))))))
 refine Tr.cn rfl ?_ ?_<;>intro h12 XY
 have hn4:n<4:=by have:=of_decide_eq_true h12;omega
 have hc2:(G0 p1.2.1 p1.2.2 ((List.replicate p1.1.length (0:Int)).set x.toNat a) ((List.replicate p1.1.length (0:Int)).set x.toNat ((n:Nat):Int)) (Ez p1.2.2)).contains x=true:=List.contains_iff_mem.2 (hft.2 AA)
 have hgd:((List.replicate p1.1.length (0:Int)).set x.toNat ((n:Nat):Int)).getD x.toNat 0=((n:Nat):Int):=by rw [List.getD_eq_getElem?_getD,List.getElem?_set_self AA];rfl
 have AEL:TQ p1.1 p1.2.1 p1.2.2 (Ez p1.2.2) ((List.replicate p1.1.length (0:Int)).set x.toNat a) ((List.replicate p1.1.length (0:Int)).set x.toNat ((n:Nat):Int)) x x0 ({x0 with EL:= !x0.EL}:B7) x0=FR p1.1 p1.2.1 p1.2.2 (Ez p1.2.2) ((List.replicate p1.1.length (0:Int)).set x.toNat 2) ((List.replicate p1.1.length (0:Int)).set x.toNat (((n+1:Nat):Nat):Int)) false:=by unfold TQ;rw [if_pos hc2,if_neg h0y,if_pos rfl,decide_eq_true (Or.inr rfl),List.set_set,List.set_set,hgd];rfl
 have hl2:((List.replicate p1.1.length (0:Int)).set x.toNat 2).length=p1.1.length:=by rw [List.length_set];exact hzl
 have S8:((List.replicate p1.1.length (0:Int)).set x.toNat (2:Int))[x.toNat]? =some 2:=List.getElem?_set_self AA
 have ht2:((List.replicate p1.1.length (0:Int)).set x.toNat (((n+1:Nat):Nat):Int))[x.toNat]? =some (((n+1:Nat):Nat):Int):=List.getElem?_set_self AA
 refine Tr.skip (Fin.go (Tr.seq (Tr.block (Tr.seq (Tr.Ap (TO.rd 0 rfl rfl rfl AB (B4 rfl Ej EE (vl rfl) rfl rfl) (tm rfl (tp rfl (AM rfl CD Bw (vl rfl) rfl rfl) (tp rfl (AM rfl CD Bw (vl rfl) rfl rfl) (tp rfl (AM rfl CD Bw (vl rfl) rfl rfl) ?_))))))))))
 refine TO.GK 1 rfl rfl AB (Aj rfl rfl AB rfl (Kv (x:=x0) (y:=({x0 with EL:= !x0.EL}:B7)) (z:=x0) Gb hL1 hL2 hL3 AAK AEI AAL AEJ AEK) ⟨ke rfl,ke rfl,ke rfl,ke rfl,ke rfl,trivial⟩) ?_
 refine tm rfl (tp rfl (Am rfl (vl rfl) rfl) (TO.re 148 _ rfl (Pr.le_of_eq (congrArg agg AEL)) (tp rfl (Am rfl (vl rfl) rfl) (TO.re 149 _ rfl (int_eq (if_pos hc2)) ?_))))
 refine Tl rfl rfl rfl rfl z42 Hj (fun b11=> ?_)
 refine TO.AK 0 rfl rfl rfl (vl rfl) (Va rfl) rfl EE rfl rfl (TO.freeze 0 23 rfl rfl (tm rfl (TO.nil (Fin.go (wk8 5 7 8 10 12 22 23 24 rfl (Tr.seq (Tr.seq (Tr.Al (cm rfl (co rfl (ki rfl rfl rfl rfl) (cm rfl ?_)))))))))))
 refine Ch.cs 152 rfl ?_ ?_<;>intro J0 dY
 exact absurd J0 AB
 refine cy J0 rfl (N_ rfl RG rfl rfl) (cy J0 rfl (F5 rfl KF rfl) (cy J0 rfl (CJ rfl underlying22 (vl rfl)) (cy J0 rfl (N_ rfl OE rfl rfl) (cy J0 rfl (F5 rfl dF rfl) (cy J0 rfl (CJ rfl underlying32 (vl rfl)) (cy J0 rfl (ki rfl rfl rfl rfl) (co rfl (KE rfl rfl J0 rfl) (cm rfl ?_))))))))
 refine Ch.cs 161 rfl ?_ ?_<;>intro J1 nB
 exfalso;have:=nB;omega
 refine cy J1 rfl (N_ rfl RG rfl rfl) (cy J1 rfl (F5 rfl KF rfl) (Jz J1 rfl (cy J1 rfl (AD rfl underlying22 Bs (vl rfl) (vl rfl) AA (Bf S8)) (cy J1 rfl (F5 rfl Cs rfl) (cy J1 rfl (ki rfl rfl rfl rfl) (co rfl (KE rfl rfl J1 rfl) (cm rfl ?_)))))))
 refine Ch.cs 169 rfl ?_ ?_<;>intro OB q15
 exfalso;have:=q15;omega
 refine cy OB rfl (N_ rfl VN rfl rfl) (cy OB rfl (F5 rfl KF rfl) (Jz OB rfl (cy OB rfl (AD rfl underlying22 Bs (vl rfl) (vl rfl) AA (Bf ht2)) (cy OB rfl (F5 rfl Cs rfl) (Jz OB rfl ?_)))))
 refine cy OB rfl (EO rfl (vl rfl) (vl rfl) ?hin) ?_;case hin=>unfold Mn;omega
 refine cy OB rfl (ki rfl rfl rfl rfl) (co rfl (KE rfl rfl OB rfl) (Ch.nil (Fin.go (wk8 5 7 8 10 12 22 23 178 rfl ?_))))
 refine Tr.cn rfl ?_ ?_<;>intro h16 q16
 exfalso;have:=q16;omega
 refine Tr.skip (Fin.go (Tr.Ap (tp rfl (AM rfl Ej EE (vl rfl) rfl rfl) (TO.AK 0 rfl rfl rfl (vl rfl) (Va rfl) rfl EE rfl rfl (TO.nil (Fin.block (Fin.go (Tr.Al (cm rfl (Mz rfl rfl rfl rfl AA (cm rfl (Ch.nil (Fin.Cu (n+1) (2)  (⟨⟨by omega,.inr rfl⟩,by omega⟩) ⟨⟨_,rfl,AG n⟩,ke rfl,ke rfl,ke rfl,ke rfl,ke rfl,trivial⟩ (fun _ _ h=>h))))))))))))))
 have hn4:n=4:=by have:=of_decide_eq_false h12;omega
 have AEM:x∉G0 p1.2.1 p1.2.2 ((List.replicate p1.1.length (0:Int)).set x.toNat a) ((List.replicate p1.1.length (0:Int)).set x.toNat ((n:Nat):Int)) (Ez p1.2.2):=fun h=>by have:=hft.1 h;omega
 have hc3:¬(G0 p1.2.1 p1.2.2 ((List.replicate p1.1.length (0:Int)).set x.toNat a) ((List.replicate p1.1.length (0:Int)).set x.toNat ((n:Nat):Int)) (Ez p1.2.2)).contains x=true:=fun h=>AEM (List.contains_iff_mem.1 h)
 have AEN:TQ p1.1 p1.2.1 p1.2.2 (Ez p1.2.2) ((List.replicate p1.1.length (0:Int)).set x.toNat a) ((List.replicate p1.1.length (0:Int)).set x.toNat ((n:Nat):Int)) x x0 ({x0 with EL:= !x0.EL}:B7) ({x0 with EL:= !x0.EL}:B7)=FR p1.1 p1.2.1 p1.2.2 (Ez p1.2.2) ((List.replicate p1.1.length (0:Int)).set x.toNat a) ((List.replicate p1.1.length (0:Int)).set x.toNat ((n:Nat):Int)) false:=if_neg hc3
 refine Tr.exit (Fin.Ac (Fin.Ac (Fin.A0 (Fin.go (Tr.seq (Tr.Ap (TO.rd 0 rfl rfl rfl AB (B4 rfl Ej EE (vl rfl) rfl rfl) (TO.GK 1 rfl rfl AB (Aj rfl rfl AB rfl (Ue AAK AAL AA) ⟨ke rfl,trivial⟩) (tm rfl (tp rfl (Am rfl (vl rfl) rfl) (tp rfl (Am rfl (vl rfl) rfl) (tm rfl (tm rfl ?_)))))))))))))
 refine TO.nil (Fin.go (wk6 7 8 10 12 13 25 rfl (Tr.seq (Tr.Ap (TO.rd 0 rfl rfl rfl AB (B4 rfl Ej EE (vl rfl) rfl rfl) (tm rfl (tp rfl (AM rfl CD Bw (vl rfl) rfl rfl) (tp rfl (AM rfl CD Bw (vl rfl) rfl rfl) (tp rfl (AM rfl CD Bw (vl rfl) rfl rfl) ?_)))))))))
 refine TO.GK 1 rfl rfl AB (Aj rfl rfl AB rfl (Kv (x:=x0) (y:=({x0 with EL:= !x0.EL}:B7)) (z:=({x0 with EL:= !x0.EL}:B7)) Gb hL1 hL2 hL3 AAK AEI AAL AEJ AEK) ⟨ke rfl,ke rfl,ke rfl,ke rfl,ke rfl,trivial⟩) ?_
 refine tm rfl (tp rfl (Am rfl (vl rfl) rfl) (TO.re 192 _ rfl (Pr.le_of_eq (congrArg agg AEN)) (tp rfl (Am rfl (vl rfl) rfl) (TO.re 193 _ rfl (int_eq (if_neg hc3)) ?_))))
 refine Tl rfl rfl rfl rfl z42 Hj (fun b12=> ?_)
 refine TO.AK 0 rfl rfl rfl (vl rfl) (Va rfl) rfl EE rfl rfl (TO.freeze 0 26 rfl rfl (tm rfl (TO.nil (Fin.go (Tj 12 13 25 27 rfl (Tr.seq (Tr.Ap (tm rfl (tp rfl (Fp rfl (vl rfl)) (tm rfl ?_))))))))))
 refine TO.cases 196 rfl (fun Jg=> ?_) (fun Jg=> ?_)
 have m8:=DH.Dp Jg
 refine TO.Rc rfl rfl rfl (IU Jg) rfl AB (TO.Rc rfl rfl rfl (IU Jg) rfl AB (TO.Rc rfl rfl rfl (IU Jg) rfl AB (tp rfl (Nt rfl rfl Jg rfl) (tm rfl (TO.HP rfl rfl rfl rfl rfl AB (BQ rfl (vl rfl)) (TO.HP rfl rfl rfl rfl rfl AB (ki rfl rfl rfl rfl) (tp rfl (Nt rfl rfl rfl rfl) (tm rfl ?_))))))))
 refine TO.cases 205 rfl (fun NB=> ?_) (fun NB=> ?_)
 have q18:=DH.Dp NB
 refine TO.Zc 1 rfl rfl rfl NB rfl rfl AB (Aj rfl rfl AB rfl (WZ) trivial) (tp rfl (Nt rfl rfl NB rfl) (tm rfl (TO.nil (Fin.go (Nu 2 rfl (Tr.ret (Fin.drop 0 (Fin.ED rfl rfl ?_ (fun _ _ _ _=>rfl)))))))))
 · exact Lr
 have q18:=DH.Dp NB
 exact absurd NB AB
 have m8:=DH.Dp Jg
 refine TO.HP rfl rfl rfl Jg rfl AB (BQ rfl (vl rfl)) (TO.HP rfl rfl rfl Jg rfl AB (BQ rfl (vl rfl)) (TO.HP rfl rfl rfl Jg rfl AB (ki rfl rfl rfl rfl) (tp rfl (KE rfl rfl Jg rfl) (tm rfl ?_))))
 refine TO.cases 201 rfl (fun Wg=> ?_) (fun Wg=> ?_)
 have q19:=DH.Dp Wg
 refine TO.HP rfl rfl rfl Wg rfl AB (BQ rfl (vl rfl)) (TO.HP rfl rfl rfl Wg rfl AB (ki rfl rfl rfl rfl) (tp rfl (Nt rfl rfl Wg rfl) (tm rfl ?_)))
 refine TO.cases 205 rfl (fun NQ=> ?_) (fun NQ=> ?_)
 have q20:=DH.Dp NQ
 refine TO.Zc 1 rfl rfl rfl NQ rfl rfl AB (Aj rfl rfl AB rfl (WZ) trivial) (tp rfl (Nt rfl rfl NQ rfl) (tm rfl (TO.nil (Fin.go (Nu 2 rfl (Tr.ret (Fin.drop 0 (Fin.ED rfl rfl ?_ (fun _ _ _ _=>rfl)))))))))
 · exact Lr
 have q20:=DH.Dp NQ
 exact absurd NQ AB
 have q19:=DH.Dp Wg
 exact (AEM (by have h_:=(fZ (by simpa using Jg)).2;rwa [show TP (Jy p1.2.2) (G0 p1.2.1 p1.2.2 ((List.replicate p1.1.length (0:Int)).set x.toNat a) ((List.replicate p1.1.length (0:Int)).set x.toNat ((n:Nat):Int)) (Ez p1.2.2))=x by simpa using Wg] at h_)).elim
end Go.Proofs.YtmocaapoeefgkaaGreatDoor
namespace Go.Proofs.YtmocaapoeefgkaaGreatDoor
open Go Go.RowKit Cp Go.ChangeShapes Go.WideShapes Go.ChangeAt Go.Proofs.Tryz
theorem AHZ : Tryz.prog.globalNamed "math/bits.deBruijn32tab" = some 0 := by kernel_rfl
theorem AHa:(Tryz.prog.globals[0]?).map (·.type)=some 255:=by kernel_rfl
theorem rQ (os : Os) (args : Array Value) : laidMetH Tryz.prog [("math/bits.deBruijn32tab", Rows.laid_math_bits_deBruijn32tab)] ((World.doorLaid Tryz.prog 14 os).forCall (fun _ _ => 0) ⟨#[], args, []⟩).memory :=
 laidMetH_of_parts3 (fuel:=33) (laidMet_of_run' 33 BV BV) BV BV
theorem AAM {W : World} (h : laidMetH Tryz.prog [("math/bits.deBruijn32tab", Rows.laid_math_bits_deBruijn32tab)] W) : CY.h noM W := by
 rw [MakeChecks.laidMetH_plain _ _ _ BV] at h
 obtain ⟨ps,⟨g0,t0,cs0,f0,p0,q0,hg0,ht0,cr,hd0,_⟩,_⟩:=h
 obtain rfl:=Option.some.inj (AHZ.symm.trans hg0)
 obtain rfl:=Option.some.inj (AHa.symm.trans ht0)
 obtain ⟨xs,m,rfl,hx,hlen,hn,hel⟩:=DataW.trod_array Tryz.underlying255 hd0
 have c1:Tryz.prog.cellsOf 5=1:=by kernel_rfl
 have hx1:Rows.laid_math_bits_deBruijn32tab=DataW.agg (xs.map (·.1)):=(Prod.mk.inj hx).1
 have hx2:xs.map (·.1)=Xy.map fun n:Nat=>DataW.lit (.int .u8 (n:Int)):=by
  have h3:(Rows.laid_math_bits_deBruijn32tab:DataW Unit)=DataW.agg (Xy.map fun n:Nat=>DataW.lit (.int .u8 (n:Int))):=rfl
  exact (DataW.agg.inj (hx1.symm.trans h3))
 intro j n hj
 refine ⟨?_,fun h=>h⟩
 have AHb:j<32:=by
  rcases Nat.lt_or_ge j 32 with h|h
  · exact h
  · rw [List.getElem?_eq_none h] at hj;cases hj
 have h4:=hel j AHb
 rw [c1,Nat.mul_one] at h4
 obtain ⟨y,hy⟩:=at_ (l:=xs) (k:=j) AA
 rw [hy] at h4
 obtain ⟨k,e1,e2,_⟩:=DataW.trod_int Tryz.underlying5 h4
 have h5:(xs.map (·.1))[j]? =some (DataW.lit (.int .u8 (n:Int))):=by rw [hx2,List.getElem?_map,hj];rfl
 rw [List.getElem?_map,hy] at h5
 have hk:k=(n:Int):=by
  have h6:y.1=DataW.lit (.int .u8 (n:Int)):=Option.some.inj h5
  rw [e2] at h6
  simpa using h6
 have h7:=World.var?_cell hg0 cr j
 have h8:cs0.toList[j]? =some (.int .u8 k):=by
  have h9:=congrArg (fun l:List Value=>l[0]?) e1
  simpa using h9
 rw [hk] at h8
 have h10:cs0[j]? =some (.int .u8 (n:Int)):=by rw [←Array.getElem?_toList];exact h8
 rw [h10] at h7
 exact h7
theorem Ma (os:Os) (started:os.Started) (H:Type) (enc:TypeId×Value→H):
  ReturnsInHanded {} Tryz.checked os 6 .any (fun w args => (Rows.runnerTriesSpec.pre enc Tryz.prog Tryz.f6 [] false w args ∧ laidMetH Tryz.prog [("math/bits.deBruijn32tab", Rows.laid_math_bits_deBruijn32tab)] w) ∧ sizedMet enc Tryz.prog Tryz.f6 (OpenSpec.ofChange Rows.runnerTriesSpec) false w args) (Rows.runnerTriesSpec.post enc Tryz.prog Tryz.f6 false true false false) := by
 refine returnsInHanded_of_change_and (C := Tryz.checked) (X := fun w _ => laidMetH Tryz.prog [("math/bits.deBruijn32tab", Rows.laid_math_bits_deBruijn32tab)] w) (fun _ _ _ hh h => h.of_heap hh) AGn started BV Tryz.func6
  (ChangeSpec.witness_shaped (enc := enc) (C := Tryz.checked) (os := os) (X := fun w _ => laidMetH Tryz.prog [("math/bits.deBruijn32tab", Rows.laid_math_bits_deBruijn32tab)] w) false (World.doorLaid Tryz.prog 14 os) #[.slice none 0 0] 8 rfl (World.shaped_of_RefB BV BV) BV BV BV (rQ os _)) ?_
 intro W base args ds gs before AEO hW AIs _ hL _
 have hval:∀(j:Nat) t v,Tryz.f6.params[j]? =some t→args[j]? =some v→Value.okWide Tryz.prog W .any base t v:=AEO
 have hW':=hW
 obtain ⟨p,q,hA0,hV,hpq,hfz,hnd⟩:=hW
 have hA:DataW.TrodAll enc Tryz.prog W 0 (fun _=>true) true Tryz.f6.params.toList args.toList ds p:=hA0
 have hA':=hA
 rw [Tryz.params6] at hA hval
 obtain ⟨v0,d0,rfl,rfl,h0⟩:=trodAll_one hA'
 obtain ⟨rfl,rfl⟩:=trodVars_none hV
 obtain ⟨a0,_,e0⟩:=r9 (Zd Tryz.underlying22 Tryz.underlying3 BV) h0 (by obtain ⟨_,_,_,rfl⟩:=okWide_slice Tryz.underlying22 (hval 0 22 v0 rfl rfl);rfl)
 refine (BS.vG (TR) rfl W [v0] (AAM hL) ⟨e0,trivial⟩).mono fun e W' ⟨v,he,hv,hb⟩=> ?_
 subst he
 obtain rfl:v= .bool true:=hv
 exact ⟨_,rfl,lJ mg BV rfl Tryz.underlying4 rfl hA' (by rw [hpq];simp) hW' rfl hb⟩
theorem Mb:(Rows.runnerTriesRow.inPlace==Tryz.pinned.checked.prog.inPlace 6)=true:=by kernel_rfl
theorem Mc:(Rows.runnerTriesRow.unfollowed==Tryz.pinned.checked.prog.unfollowed 6)=true:=by kernel_rfl
theorem Md:(Rows.runnerTriesRow.recurses==Tryz.pinned.checked.prog.recurses 6)=true:=by kernel_rfl
theorem Me:(Rows.runnerTriesRow.named==Tryz.pinned.checked.prog.varsNamed 6)=true:=by kernel_rfl
theorem Nr:joinedFacts Tryz.pinned.checked.prog 6 Tryz.f6 Rows.runnerTriesSpec Rows.runnerTriesRow=true:=by
 unfold joinedFacts
 rw [Mb,Mc,Md,Me]
 kernel_rfl
theorem runnerTries_holds:Rows.RunnerTriesSaid:=
 OpenClaim.holds_of_wide 6 Tryz.f6 rfl rfl rfl rfl rfl rfl rfl ⟨rfl, rfl, rfl, rfl, rfl⟩ rfl rfl rfl rfl rfl BV Tryz.func6 Nr
  (of_decide_eq_true BV) (by unfold Func.isWrapper;first|(rw [if_pos (by decide+kernel)];kernel_rfl)|(rw [if_neg (by decide+kernel)];exact ⟨rfl,rfl⟩))
  (fun os started H enc _=>Ma os started H enc)
theorem Sl:Rows.runnerTriesRow.wfByText (OpenSpec.ofChange Rows.runnerTriesSpec)=true:=by kernel_rfl
theorem Sm:Tryz.pinned.checked.prog.mainIs=some (Rows.runnerTriesCard.stood.harness.1,Rows.runnerTriesCard.stood.harness.2.toList):=by kernel_rfl
theorem Sn : Tryz.prog.funcNamed "cipherplan/cipherplanlaw37.RunnerTries" = some 6 := by kernel_rfl
theorem So:false=Tryz.pinned.checked.prog.looks []:=by kernel_rfl
theorem Sq:false=Rows.runnerTriesRow.goesBy Tryz.pinned.checked.prog:=by kernel_rfl
theorem Sr:([22].all fun u=> !Tryz.prog.wantsStandIn u)=true:=by kernel_rfl
theorem runnerTries_card_holds:Rows.RunnerTriesCardSaid:=
 Claim7.holds_tied_plain_at .later [] [.data] true Rows.runnerTriesCard.stood.harness false runnerTries_holds (fun _ h => by cases h) Sl (fun _ h => by cases h) runnerTries_row_tie rfl ⟨rfl, rfl⟩ Sm rfl
  (fun f fn hf hfn=>by
   obtain rfl:f=6:=Option.some.inj (Sn.symm.trans hf)|>.symm
   obtain rfl:fn=Tryz.f6:=(Option.some.inj (Tryz.func6.symm.trans hfn)).symm
   exact ⟨So,fun j t ht=>by
    rw [Tryz.params6] at ht
    have hm:t∈[22]:=by simpa using Array.mem_of_getElem? ht
    exact (show Tryz.prog.wantsStandIn t=false by simpa using List.all_eq_true.1 Sr t hm)⟩)
  Sq
end Go.Proofs.YtmocaapoeefgkaaGreatDoor
