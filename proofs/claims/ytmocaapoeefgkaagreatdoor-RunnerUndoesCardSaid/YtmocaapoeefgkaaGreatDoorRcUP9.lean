/-
  RunnerUndoes: whatever the input, the law of this name returns true and its arguments read as before; the table of trailing zeros is tied to the program. No conditions.
-/
import Derived.Test.YtmocaapoeefgkaaGreatDoorTie
import Derived.Test.YtmocaapoeefgkaaGreatDoorCards
import Derived.LaidMore
import Derived.OpenShut
import Derived.Stop.Joined
import Derived.ProofKit
import Derived.Test.YtmocaapoeefgkaaGreatDoorRcUP8
set_option linter.all false
set_option maxRecDepth 40000
set_option maxHeartbeats 16000000
namespace Go.Proofs.YtmocaapoeefgkaaGreatDoor
open Go Go.RowKit Cp Go.Proofs.Tryz
theorem jT {l:List BX} {r:List BC} {d:List Int} {day:Int} (F0:∀x∈l,x.Cy.small) (hl:l.length≤1000000) (hr:r.length≤1000000) (hd:d.length≤1000000) (hn:newE l r d day=0∧newP l r d day=FR l r d day (List.replicate l.length 0) (List.replicate l.length 0) false):BG Tryz.prog 14 [agg [C9 l,reqs r,ints d],int day] (Dz [agg (FR l r d day (List.replicate l.length 0) (List.replicate l.length 0) false),int 0]):=by
 have h:=qi (day:=day) F0 hl hr hd
 rw [hn.1,hn.2] at h
 exact h
theorem qm {m:Nat} {l:List BX} {r:List BC} {d st tr:List Int} {day:Int} (hf:MQ m l r d) (Z1:st.length=l.length) (htl:tr.length=l.length) (h3:∀x∈st,0≤x∧x≤3) (h4:∀x∈tr,0≤x∧x≤4) (hD:Fv d.length r (BP st)) (hd:0≤day∧day≤40000):O_ l.length r d day st tr=true:=by
 have hs:DH ((l.length:Nat):Int) (BP st)=true:=by rw [←hf.dl];exact hD.set
 obtain ⟨h1,h2⟩:=UB (n:=((l.length:Nat):Int)) hf.v hs
 have hm:∀(m:Int) (L:List Int),(∀x∈L,0≤x∧x≤m)→Fl m L=false:=fun m L hL=>by
  unfold Fl
  rw [List.any_eq_false]
  intro x hx
  have:=hL x hx
  unfold IF
  rw [decide_eq_true_eq];omega
 exact E3.2 ⟨⟨⟨hf.l24,hf.dl⟩,Z1,htl⟩,⟨⟨hf.in_,by unfold IF;rw [decide_eq_false_iff_not];omega⟩,hm 3 st h3,hm 4 tr h4⟩,h1,by rw [h2];exact hD.cl⟩
def qn (r:List BC) (d st:List Int) (day i:Int):List Int:=if (Kh r d st st day).contains i=true then st.set i.toNat 1 else st
theorem G0.rep {l:List BX} {r:List BC} {d st:List Int} {day i:Int} {x y:CA} (hv:BF (d.length:Nat) r=0) (h:G0 r d st):G0 r d (qn r d st day i)∧aq l r d day st st i x y y=FR l r d day (qn r d st day i) (qn r d st day i) false:=by
 unfold qn aq
 by_cases hc:(Kh r d st st day).contains i=true
 ·
  have hm:=List.contains_iff_mem.1 hc
  rw [h.tri] at hm
  have hn:=h.next hv hm
  rw [if_pos hc,if_pos hc,if_pos rfl,decide_eq_true (Or.inl rfl),hn.2.1]
  exact ⟨hn.1,rfl⟩
 · rw [if_neg hc,if_neg hc];exact ⟨h,rfl⟩
theorem NS (l:List Int) (v:Int):Gn l v=l.contains v:=NQ l v
theorem Se {t:List Int}  :Bj prog 3 [ints t] (bool true) (EI) (fun _=>EI):=by
 refine Bj.of func3 rfl rfl Ao fun M0 w0 S rs M1 w1=> ?_
 refine Tr.Cm 0 rfl fun EJ=>(Tr.seq (Tr.Aj (cm rfl (Ch.nil (Fin.go (Tr.seq (Tr.seq (Tr.Aj (cm rfl (co rfl (AR rfl (sn) ⟨ke rfl,trivial⟩) (co rfl (HB rfl (vl rfl)) (Ch.nil (Fin.go ?_)))))))))))))
 refine Tr.cn rfl ?_ ?_<;>intro h1 q1
 refine Tr.seq (Tr.An (TO.IP 0 rfl rfl AB (Aq rfl rfl AB rfl (qW) trivial) (tm rfl (TO.nil (Fin.go (Tr.ret (Fin.AE (Fin.E7 rfl rfl ?_ (fun _ _ _ _=>rfl)))))))))
 · exact Lr
 have ht4:t.length≤400:=by simpa using h1
 have ht9:t.length≤1000000000:=by omega
 refine Tr.skip (Fin.go (Tr.seq (Tr.An (tm rfl (TO.pad ?_)))))
 refine TO.DT 0 rfl rfl AB (GS rfl rfl AB rfl (xu (l:=t) ht9) ⟨ke rfl,trivial⟩) (fun v1=> ?_)
 refine TO.LX 26 0 _ rfl rfl (fun _=>rfl) (fun b1=> ?_)
 refine tm rfl (TO.nil (Fin.go (Tr.seq (Tr.An (tm rfl (TO.IP 0 rfl rfl AB (Aq rfl rfl AB rfl (zK) ⟨ke rfl,trivial⟩) ?_))))))
 refine TO.ex 29 rfl (fun z1=>TO.fact 29 rfl fun Ef=> ?_)
 refine tm rfl (tp rfl (Ap rfl (vl rfl) rfl) (tp rfl (Ap rfl (vl rfl) rfl) ?_))
 refine TO.ex 31 rfl (fun p1=>TO.fact 31 rfl fun ZQ=> ?_)
 refine tp rfl (Ap rfl (vl rfl) rfl) ?_
 refine Tl rfl rfl rfl rfl z31 IW (fun b2=> ?_)
 refine Tl rfl rfl rfl rfl z35 E9 (fun b3=> ?_)
 refine TO.AK 1 rfl rfl rfl (vl rfl) (Va rfl) rfl De rfl rfl (TO.freeze 1 4 rfl rfl (TO.AK 0 rfl rfl rfl (vl rfl) (Va rfl) rfl CG rfl rfl (TO.freeze 0 5 rfl rfl (tm rfl (TO.nil (Fin.TW 0 rfl (fun s1=> ?_)))))))
 refine Fin.go (GU 3 4 5 rfl (Tr.seq ?_))
 have OI:=ZQ.fit.dl
 have h7:=ZQ.l7
 have hrl:=ZQ.rl
 have F0:∀x∈p1.1,x.Cy.small:=fun x hx=>(ZQ.ok x hx).2
 have hL1:p1.1.length≤1000000:=by omega
 have hL2:p1.2.1.length≤1000000:=by omega
 have hL3:p1.2.2.length≤1000000:=by omega
 have hv:BF ((p1.2.2.length:Nat):Int) p1.2.1=0:=by rw [OI];exact ZQ.fit.v
 have hn:=Ef.n2
 obtain ⟨x0,hx0⟩:=at_ (l:=z1.Bv) (k:=0) AA
 have hla:=ZQ.fit.last
 have hM:0≤(max 0 (FN p1.2.2))∧(max 0 (FN p1.2.2))≤40000:=by omega
 have hnew:=ZQ.fit.new (day:=(max 0 (FN p1.2.2))) hM
 refine Tr.pad (Tr.pad (Tr.GA mixed [none,none,none,none,none,none,none,none,some (0,0,true,7),some (0,1,true,8),some (7,0,true,7),some (8,1,true,8)] BS (xo rfl (fun _=>NT rfl HI rfl rfl) (xo rfl (fun _=>Fw rfl Oa rfl) ?_))))
 refine xo rfl (fun _=>AD rfl underlying27 CE (vl rfl) (vl rfl) AA (AX (k:=0) hx0)) ?_
 refine xo rfl (fun _=>AP rfl Ci CE (vl rfl) rfl rfl) (xo rfl (fun _=>NT rfl HI rfl rfl) (xo rfl (fun _=>Fw rfl Oa rfl) ?_))
 refine xo rfl (fun _=>AD rfl underlying27 CE (vl rfl) (vl rfl) AA (AX (k:=0) hx0)) ?_
 refine xo rfl (fun _=>AP rfl Ci CE (vl rfl) rfl rfl) (Cx.ef 0 rfl rfl AB (CC rfl rfl AB rfl z40 H9) (Cx.ef 1 rfl rfl AB (CC rfl rfl AB rfl z40 H9) (Cx.DP 0 rfl rfl (CZ rfl rfl rfl rfl (Va rfl) CE rfl rfl) (Cx.DP 1 rfl rfl (CZ rfl rfl rfl rfl (Va rfl) CE rfl rfl) ?_))))
 refine Cx.nil ⟨rfl,?_⟩
 refine BE.open_ 0 7 rfl rfl (fun v2=> ?_)
 refine BE.open_ 1 8 rfl rfl (fun v3=> ?_)
 refine BE.done (As.cons (As.cons (As.cons (As.cons (As.cons (As.map _)))))) (Fin.LX 7 0 _ rfl rfl (fun _=>rfl) (fun b4=> ?_))
 refine Fin.LX 8 1 _ rfl rfl (fun _=>rfl) (fun b5=> ?_)
 refine Fin.go (So 3 5 7 8 rfl (Tr.seq (Tr.An (tp rfl (AW rfl ZD (vl rfl)) (TO.rd 0 rfl rfl rfl AB (BI rfl ZA (vl rfl) rfl) (tp rfl (HB rfl (vl rfl)) (tp rfl (AW rfl ZD (vl rfl)) (TO.DP 1 rfl rfl (A0 rfl rfl (vl rfl) (Vo rfl) Ta rfl Ao rfl) (TO.nil (Fin.go (Tr.seq (Tr.freeze 0 7 rfl rfl (Tr.freeze 0 8 rfl rfl (Tr.pad ?_))))))))))))))
 refine Tr.GA mixed [none,none,none,none,none,none,none,none,some (0,0,true,9),some (9,0,true,9),none] BS (xo rfl (fun _=>AP rfl Cn CG (vl rfl) rfl rfl) (xo rfl (fun _=>AP rfl Cn CG (vl rfl) rfl rfl) ?_))
 refine xo rfl (fun _=>AR rfl (jP (l:=p1.2.2)) ⟨ke rfl,trivial⟩) ?_
 refine xo rfl (fun _=>Jz rfl (vl rfl) (vl rfl)) (xo rfl (fun _=>AR rfl (jT F0 hL1 hL2 hL3 hnew) ⟨ke rfl,ke rfl,trivial⟩) (xm rfl (xo rfl (fun _=>Ap rfl (vl rfl) rfl) (xo rfl (fun _=>Ap rfl (vl rfl) rfl) (Cx.ef 0 rfl rfl AB (CC rfl rfl AB rfl z42 HJ) (Cx.DP 0 rfl rfl (CZ rfl rfl rfl rfl (Va rfl) DV rfl rfl) (xm rfl ?_)))))))
 refine Cx.nil ⟨rfl,?_⟩
 refine BE.open_ 0 9 rfl rfl (fun v4=> ?_)
 refine BE.done (As.cons (As.cons (As.cons (As.cons (As.map _))))) (Fin.LX 9 0 _ rfl rfl (fun _=>rfl) (fun b6=> ?_))
 refine Fin.go (wk5 3 5 7 8 9 rfl (Tr.seq (Tr.seq (Tr.An (tm rfl (tp rfl (NT rfl Ly rfl rfl) (tp rfl (Fw rfl Wq rfl) (tp rfl (CB rfl underlying32 (vl rfl)) ?_))))))))
 refine tp rfl (Ek rfl (vl rfl) (vl rfl) ?hin) ?_;case hin=>unfold Ni;omega
 refine TO.IP 1 rfl rfl AB (Aq rfl rfl AB rfl (CV AA AA) ⟨ke rfl,ke rfl,trivial⟩) (tm rfl (TO.nil (Fin.go (Tr.block ?_))))
 have hvi:=s1.C7 (n:=((p1.1.length:Nat):Int)+1) AA
 refine Tr.drop 1 ?_
 refine Tr.DD [(5,_),(7,_),(8,_),(9,_)] ⟨ke rfl,ke rfl,ke rfl,ke rfl,trivial⟩ (fun (k:Int) (st:List Int)=>[(11,int k)]) (fun (k:Int) (st:List Int)=>Hp M0 w0 S (AF true b6 42 (FR p1.1 p1.2.1 p1.2.2 (max 0 (FN p1.2.2)) st st false)::EI::Al M1 w1::rs)) (fun (k:Int) (st:List Int)=>0≤k∧k≤100∧G0 p1.2.1 p1.2.2 st) (fun (k:Int) (st:List Int)=>k.toNat) (_) ((List.replicate p1.1.length (0:Int)))  (⟨by omega,by omega,by rw [←OI];exact G0.zero _ _⟩) ⟨ke rfl,trivial⟩ (fun _ _ h=>h) ?_
 rintro k st  ⟨hk0,hk1,hR⟩
 have vJ:=hR.sl
 have hs5:st.length≤100000:=by omega
 have qo:st.length≤1000000:=by omega
 have vK:st.length=p1.1.length:=by omega
 have hsk:=OP st
 refine Tr.seq (Tr.seq (Tr.Aj (cm rfl (co rfl (ki rfl rfl rfl rfl) (Ch.nil (Fin.go ?_))))))
 refine Tr.cn rfl ?_ ?_<;>intro h2 q2
 have hkp:0<k:=of_decide_eq_true h2
 refine Tr.skip (Fin.go (Tr.seq (Tr.block (Tr.seq (Tr.Aj (co rfl (Cg 0 rfl (B0 rfl EC DV (vl rfl) rfl rfl)) (co rfl (AR rfl (jS OI hL1 hL2 hs5 vJ) ⟨ke rfl,trivial⟩) (cm rfl (co rfl (Ap rfl (vl rfl) rfl) (co rfl (Ap rfl (vl rfl) rfl) (cm rfl (cm rfl (Ch.nil (Fin.go ?_))))))))))))))
 refine wk6 5 7 8 9 11 12 rfl ?_
 obtain ⟨x,hx⟩:∃x,jM (NP p1.2.2) (Kh p1.2.1 p1.2.2 st st (max 0 (FN p1.2.2)))=x:=⟨_,rfl⟩
 have hrp:=hR.rep (l:=p1.1) (day:=(max 0 (FN p1.2.2))) (i:=x) (x:=x0) (y:=({x0 with Ia:= !x0.Ia}:CA)) hv
 refine Tr.re 12 rfl (int_eq hx) (Tr.An (TO.rd 0 rfl rfl rfl AB (B0 rfl EC DV (vl rfl) rfl rfl) (tm rfl (tp rfl (AP rfl Ci CE (vl rfl) rfl rfl) (tp rfl (AP rfl Ci CE (vl rfl) rfl rfl) (tp rfl (AP rfl Ci CE (vl rfl) rfl rfl) ?_))))))
 refine tp rfl (AR rfl (YQ (x:=x0) (y:=({x0 with Ia:= !x0.Ia}:CA)) (z:=({x0 with Ia:= !x0.Ia}:CA)) F0 OI hL1 hL2 hs5 vJ vJ (fun x hx=>by have:=hR.s01 x hx;omega)) ⟨ke rfl,ke rfl,ke rfl,ke rfl,ke rfl,trivial⟩) ?_
 refine tm rfl (tp rfl (Ap rfl (vl rfl) rfl) (TO.re 75 _ rfl (Pr.le_of_eq (congrArg agg hrp.2)) (tp rfl (Ap rfl (vl rfl) rfl) (TO.AK 0 rfl rfl rfl (vl rfl) (Va rfl) rfl DV rfl rfl (TO.nil (Fin.block (Fin.go (wk5 5 7 8 9 11 rfl (Tr.Aj (cm rfl (csu rfl rfl rfl rfl AA (cm rfl (Ch.nil (Fin.DK (k-1) (qn p1.2.1 p1.2.2 st (max 0 (FN p1.2.2)) x)  (⟨⟨by omega,by omega,hrp.1⟩,by omega⟩) ⟨⟨_,rfl,int_eq AA⟩,ke rfl,ke rfl,ke rfl,ke rfl,trivial⟩ (fun _ _ h=>h)))))))))))))))
 have hkn:=of_decide_eq_false h2
 refine Tr.exit (Fin.Ac (Fin.Ac (Fin.A7 (Fin.go (Tr.seq (Tr.Y0 mixed BS (co rfl (NT rfl Ly rfl rfl) (co rfl (Fw rfl Wq rfl) (co rfl (CB rfl underlying32 (vl rfl)) (co rfl (NT rfl lA rfl rfl) (co rfl (Fw rfl vQ rfl) (co rfl (Cg 0 rfl (B0 rfl EC DV (vl rfl) rfl rfl)) (co rfl (AR rfl (OQ qo) ⟨ke rfl,trivial⟩) ?_)))))))))))))
 refine co rfl (AR rfl (Sb (n:=((p1.1.length:Nat):Int)) (l:=p1.2.1) (s:=BP st) hL2 AA) ⟨ke rfl,ke rfl,ke rfl,trivial⟩) ?_
 refine cm rfl (co rfl (Ap rfl (vl rfl) rfl) (co rfl (Ap rfl (vl rfl) rfl) (cm rfl (cm rfl (Ch.nil (Fin.go (So 5 9 14 15 rfl (Tr.seq (Tr.seq ?_)))))))))
 have haz:E2 ((p1.1.length:Nat):Int) p1.2.1 (BP st)=0:=eW ZQ.fit.v (by rw [←OI];exact hR.done.set) hR.cl
 refine Tr.re 15 rfl (int_eq haz) (Tr.Aj (cm rfl (co rfl (ki rfl rfl rfl rfl) (Ch.nil (Fin.go ?_)))))
 refine Tr.cn rfl ?_ ?_<;>intro h3 q3
 exact absurd h3 AB
 refine Tr.skip (Fin.go (Tr.seq (Tr.seq (Tr.Aj (co rfl (NT rfl Ly rfl rfl) (co rfl (Fw rfl Wq rfl) (co rfl (CB rfl underlying32 (vl rfl)) (cm rfl (Ch.nil (Fin.go (Tr.block (Tr.BH [(5,_),(9,_),(14,_),(92,_)] (kk4 rfl) (fun k:Nat=>[(93,int ((k:Nat):Int))]) (fun k:Nat=>k≤(p1.1).length) (fun k:Nat=>(p1.1).length-k) 0 (Nat.zero_le _) ⟨ke rfl,trivial⟩ ?_))))))))))))
 rintro k BU
 refine Tr.seq (Tr.Aj (co rfl (ki rfl rfl rfl rfl) (Ch.nil (Fin.go (Tr.seq ?_)))))
 refine Tr.cn rfl ?_ ?_<;>intro h4 q4
 have Af:k<(p1.1).length:=AH h4
 obtain ⟨c,Ah⟩:=at_ Af
 refine Tr.skip (Fin.go (Tr.seq (Tr.block (Tr.seq (Tr.Aj (cm rfl (cm rfl (Ch.nil (Fin.go (Tr.seq ?_))))))))))
 by_cases hin:(HZ ((p1.1.length:Nat):Int) p1.2.1 (BP st)).contains ((k:Nat):Int)=true
 have hrm:=fR hin
 obtain ⟨hu1,hu2⟩:=qj (r:=p1.2.1) (d:=p1.2.2) (st:=st) (day:=(max 0 (FN p1.2.2))) (i:=k) (a:=3) hv vJ hR.cl (fun x hx=>by have:=vE hx;omega) AB (by rw [OI];exact hrm.2)
 have U8:k<st.length:=by omega
 have hs3:(st.set ((k:Nat):Int).toNat 3)[k]? =some 3:=List.getElem?_set_self U8
 have ht3:(st.set ((k:Nat):Int).toNat 0)[k]? =some 0:=List.getElem?_set_self U8
 have hl3:(st.set ((k:Nat):Int).toNat 3).length=p1.1.length:=by rw [List.length_set];omega
 have hlt:(st.set ((k:Nat):Int).toNat 0).length=p1.1.length:=by rw [List.length_set];omega
 have ADS:(st.set ((k:Nat):Int).toNat 3).length≤1000000:=by omega
 have AHu:=OP (st.set ((k:Nat):Int).toNat 3)
 have hok:O_ p1.1.length p1.2.1 p1.2.2 (max 0 (FN p1.2.2)) (st.set ((k:Nat):Int).toNat 3) (st.set ((k:Nat):Int).toNat 0)=true:=qm ZQ.fit hl3 hlt (fun y hy=>by rcases List.mem_or_eq_of_mem_set hy with h|rfl;(have:=hR.s01 y h;omega);omega) (fun y hy=>by rcases List.mem_or_eq_of_mem_set hy with h|rfl;(have:=hR.s01 y h;omega);omega) hu1 hM
 have hde:aj p1.2.1 p1.2.2 (BP (st.set ((k:Nat):Int).toNat 3))=0:=(hu1.due hv).1
 have N5:Gn (ID p1.2.1 p1.2.2 (BP (st.set ((k:Nat):Int).toNat 3)) (max 0 (FN p1.2.2))) ((k:Nat):Int)=true:=C3.2 hu2
 refine Tr.An (TO.rd 0 rfl rfl rfl AB (B0 rfl EC DV (vl rfl) rfl rfl) (tm rfl (TO.IP 1 rfl rfl AB (Aq rfl rfl AB rfl (US F0 hL1 hL2 hL3 qo qo vK vK) ⟨ke rfl,ke rfl,trivial⟩) (tm rfl (tp rfl (Ap rfl (vl rfl) rfl) (TO.re 100 _ rfl (Pr.le_of_eq (congrArg agg (show ql p1.1 p1.2.1 p1.2.2 (max 0 (FN p1.2.2)) st st ((k:Nat):Int)=FR p1.1 p1.2.1 p1.2.2 (max 0 (FN p1.2.2)) (st.set ((k:Nat):Int).toNat 3) (st.set ((k:Nat):Int).toNat 0) false from if_pos hin))) (tp rfl (Ap rfl (vl rfl) rfl) (TO.re 101 _ rfl (int_eq (if_pos hin)) ?_))))))))
 refine Tl rfl rfl rfl rfl z42 HJ (fun b7=> ?_)
 refine TO.AK 0 rfl rfl rfl (vl rfl) (Va rfl) rfl DV rfl rfl (TO.freeze 0 17 rfl rfl (tm rfl (TO.nil (Fin.go (wk8 5 9 14 16 17 18 92 93 rfl (Tr.seq (Tr.seq (Tr.Aj (cm rfl (co rfl (ki rfl rfl rfl rfl) (cm rfl (cm rfl (co rfl (AR rfl (Fq) ⟨ke rfl,ke rfl,trivial⟩) ?_)))))))))))))
 refine co rfl (Qy rfl underlying4 (vl rfl) (vl rfl)) (cm rfl ?_)
 refine Ch.cs 108 rfl ?_ ?_<;>intro h5 q5
 exact absurd h5 (by rw [NS,hin];decide)
 refine LR h5 rfl (cy h5 rfl (ki rfl rfl rfl rfl) (LR h5 rfl ?_))
 refine Ch.cs 111 rfl ?_ ?_<;>intro h6 q6
 exact absurd h6 AB
 refine cnt h6 rfl (cnt h6 rfl (cy h5 rfl (LS rfl rfl h6 rfl) (co rfl (LS rfl rfl h5 rfl) (Ch.nil (Fin.go (kZ 5 9 14 16 17 18 92 93 115 rfl (Tr.cond rfl (fun h=>nomatch h) (fun _=> ?_))))))))
 refine Tr.skip (Fin.go (Tr.seq (Tr.seq (Tr.Aj (cm rfl (co rfl (ki rfl rfl rfl rfl) (Ch.nil (Fin.go ?_))))))))
 refine Tr.cn rfl ?_ ?_<;>intro h7 q7
 exact absurd h7 AB
 refine Tr.skip (Fin.go (Tr.seq (Tr.Y0 mixed BS (co rfl (AP rfl Cn CG (vl rfl) rfl rfl) (co rfl (AP rfl EC DV (vl rfl) rfl rfl) (co rfl (AR rfl (Sa ADS) ⟨ke rfl,trivial⟩) (co rfl (NT rfl ZG rfl rfl) (co rfl (Fw rfl C8 rfl) ?_))))))))
 refine co rfl (AR rfl (YO (s:=BP (st.set ((k:Nat):Int).toNat 3)) (day:=(max 0 (FN p1.2.2))) OI hL1 hL2 AA) ⟨ke rfl,ke rfl,ke rfl,trivial⟩) ?_
 refine cm rfl (co rfl (Ap rfl (vl rfl) rfl) (co rfl (Ap rfl (vl rfl) rfl) (cm rfl (cm rfl (Ch.nil (Fin.go (kZ 5 9 14 16 17 19 20 92 93 rfl (Tr.seq (Tr.re 20 rfl (int_eq hde) (Tr.An (tp rfl (NT rfl Q7 rfl rfl) (tp rfl (Fw rfl J6 rfl) (tp rfl (CB rfl underlying22 (vl rfl)) ?_)))))))))))))
 refine tp rfl (NT rfl Ly rfl rfl) (tp rfl (Fw rfl Wq rfl) (tp rfl (CB rfl underlying32 (vl rfl)) (tp rfl (ki rfl rfl rfl rfl) (tm rfl ?_))))
 refine TO.cases 134 rfl (fun h8=> ?_) (fun h8=> ?_)
 have q8:=DU.D9 h8
 exfalso;have:=q8;omega
 have q8:=DU.D9 h8
 refine TO.Fx rfl rfl rfl h8 rfl AB (NT rfl Q7 rfl rfl) (TO.Fx rfl rfl rfl h8 rfl AB (Fw rfl J6 rfl) (TO.Fx rfl rfl rfl h8 rfl AB (BQ rfl (vl rfl)) (TO.Fx rfl rfl rfl h8 rfl AB (AD rfl underlying22 Bt (vl rfl) (vl rfl) AA (AX hs3)) (TO.Fx rfl rfl rfl h8 rfl AB (Fw rfl C8 rfl) (TO.Fx rfl rfl rfl h8 rfl AB (ki rfl rfl rfl rfl) (tp rfl (LS rfl rfl h8 rfl) (tm rfl ?_)))))))
 refine TO.cases 142 rfl (fun h9=> ?_) (fun h9=> ?_)
 have q9:=DU.D9 h9
 exfalso;have:=q9;omega
 have q9:=DU.D9 h9
 refine TO.Fx rfl rfl rfl h9 rfl AB (NT rfl VG rfl rfl) (TO.Fx rfl rfl rfl h9 rfl AB (Fw rfl J6 rfl) (TO.Fx rfl rfl rfl h9 rfl AB (BQ rfl (vl rfl)) (TO.Fx rfl rfl rfl h9 rfl AB (AD rfl underlying22 Bt (vl rfl) (vl rfl) AA (AX ht3)) (TO.Fx rfl rfl rfl h9 rfl AB (Fw rfl C8 rfl) (TO.Fx rfl rfl rfl h9 rfl AB (ki rfl rfl rfl rfl) (tp rfl (LS rfl rfl h9 rfl) (tm rfl ?_)))))))
 refine TO.cases 150 rfl (fun h10=> ?_) (fun h10=> ?_)
 have P7:=DU.D9 h10
 exfalso;have:=P7;omega
 have P7:=DU.D9 h10
 refine TO.Fx rfl rfl rfl h10 rfl AB (BQ rfl (vl rfl)) (TO.Fx rfl rfl rfl h10 rfl AB (ki rfl rfl rfl rfl) (tp rfl (LS rfl rfl h10 rfl) (tm rfl ?_)))
 refine TO.cases 154 rfl (fun h11=> ?_) (fun h11=> ?_)
 have Sx:=DU.D9 h11
 exact absurd h11 AB
 have Sx:=DU.D9 h11
 refine TO.Fx rfl rfl rfl h11 rfl AB (BQ rfl (vl rfl)) (TO.Fx rfl rfl rfl h11 rfl AB (BQ rfl (vl rfl)) (TO.Fx rfl rfl rfl h11 rfl AB (AR rfl (Fq) ⟨ke rfl,ke rfl,trivial⟩) (TO.Fx rfl rfl rfl h11 rfl AB (HB rfl (vl rfl)) (tp rfl (LS rfl rfl h11 rfl) (tm rfl ?_)))))
 refine TO.cases 160 rfl (fun h12=> ?_) (fun h12=> ?_)
 have WT:=DU.D9 h12
 exact absurd h12 (by rw [N5];decide)
 have WT:=DU.D9 h12
 refine TO.Fx rfl rfl rfl h12 rfl AB (AP rfl EC DV (vl rfl) rfl rfl) (TO.lZ 1 rfl rfl rfl h12 rfl rfl AB (Aq rfl rfl AB rfl (OO ADS) ⟨ke rfl,trivial⟩) (TO.Fx rfl rfl rfl h12 rfl AB (ki rfl rfl rfl rfl) (tp rfl (LS rfl rfl h12 rfl) (TO.nil (Fin.go (wk6 5 9 14 92 93 164 rfl ?_))))))
 refine Tr.cn rfl ?_ ?_<;>intro NU dI
 exact absurd NU (by rw [if_pos hok];decide)
 refine Tr.skip (Fin.block (Fin.go (Tr.Aj (MV rfl rfl rfl rfl AA (cm rfl (Ch.nil (Fin.AL (k+1) ⟨Af,by omega⟩ ⟨⟨_,rfl,AG k⟩,ke rfl,ke rfl,ke rfl,ke rfl,trivial⟩)))))))
 refine Tr.An (TO.rd 0 rfl rfl rfl AB (B0 rfl EC DV (vl rfl) rfl rfl) (tm rfl (TO.IP 1 rfl rfl AB (Aq rfl rfl AB rfl (US F0 hL1 hL2 hL3 qo qo vK vK) ⟨ke rfl,ke rfl,trivial⟩) (tm rfl (tp rfl (Ap rfl (vl rfl) rfl) (TO.re 100 _ rfl (Pr.le_of_eq (congrArg agg (show ql p1.1 p1.2.1 p1.2.2 (max 0 (FN p1.2.2)) st st ((k:Nat):Int)=FR p1.1 p1.2.1 p1.2.2 (max 0 (FN p1.2.2)) st st false from if_neg hin))) (tp rfl (Ap rfl (vl rfl) rfl) (TO.re 101 _ rfl (int_eq (if_neg hin)) ?_))))))))
 refine Tl rfl rfl rfl rfl z42 HJ (fun b8=> ?_)
 refine TO.AK 0 rfl rfl rfl (vl rfl) (Va rfl) rfl DV rfl rfl (TO.freeze 0 17 rfl rfl (tm rfl (TO.nil (Fin.go (wk8 5 9 14 16 17 18 92 93 rfl (Tr.seq (Tr.seq (Tr.Aj (cm rfl (co rfl (ki rfl rfl rfl rfl) (cm rfl (cm rfl (co rfl (AR rfl (Fq) ⟨ke rfl,ke rfl,trivial⟩) ?_)))))))))))))
 refine co rfl (Qy rfl underlying4 (vl rfl) (vl rfl)) (cm rfl ?_)
 refine Ch.cs 108 rfl ?_ ?_<;>intro J5 q14
 exact absurd J5 (by rw [NS,Bool.eq_false_iff.2 hin];decide)
 refine LR J5 rfl (cy J5 rfl (ki rfl rfl rfl rfl) (LR J5 rfl ?_))
 refine Ch.cs 111 rfl ?_ ?_<;>intro Sh q15
 refine LR Sh rfl (cy Sh rfl (ki rfl rfl rfl rfl) (cy J5 rfl (Pk rfl rfl Sh rfl) (co rfl (LS rfl rfl J5 rfl) (Ch.nil (Fin.go (kZ 5 9 14 16 17 18 92 93 115 rfl ?_))))))
 refine Tr.cn rfl ?_ ?_<;>intro h16 q16
 exact absurd h16 AB
 refine Tr.skip (Fin.go (Tr.seq (Tr.seq (Tr.Aj (cm rfl (co rfl (ki rfl rfl rfl rfl) (Ch.nil (Fin.go ?_))))))))
 refine Tr.cn rfl ?_ ?_<;>intro Nr q17
 refine Tr.exit (Fin.Ac (Fin.A7 (Fin.go (Tr.Aj (MV rfl rfl rfl rfl AA (cm rfl (Ch.nil (Fin.AL (k+1) ⟨Af,by omega⟩ ⟨⟨_,rfl,AG k⟩,ke rfl,ke rfl,ke rfl,ke rfl,trivial⟩))))))))
 exact absurd Nr AB
 exact absurd Sh AB
 have BK:k=(p1.1).length:=by have:=AJ h4;omega
 refine Tr.exit (Fin.Ac (Fin.Ac (Fin.A7 (Fin.go (Tr.seq (Tr.An (TO.IP 1 rfl rfl AB (Aq rfl rfl AB rfl (qW) trivial) (tm rfl (TO.nil (Fin.go (Tr.ret (Fin.drop 0 (Fin.E7 rfl rfl ?_ (fun _ _ _ _=>rfl))))))))))))))
 · exact Lr
end Go.Proofs.YtmocaapoeefgkaaGreatDoor
namespace Go.Proofs.YtmocaapoeefgkaaGreatDoor
open Go Go.RowKit Cp Go.ChangeShapes Go.WideShapes Go.ChangeAt Go.Proofs.Tryz
theorem AGf : Tryz.prog.globalNamed "math/bits.deBruijn32tab" = some 0 := by kernel_rfl
theorem AGg:(Tryz.prog.globals[0]?).map (·.type)=some 255:=by kernel_rfl
theorem qp (os : Os) (args : Array Value) : laidMetH Tryz.prog [("math/bits.deBruijn32tab", Rows.laid_math_bits_deBruijn32tab)] ((World.doorLaid Tryz.prog 14 os).forCall (fun _ _ => 0) ⟨#[], args, []⟩).memory :=
 laidMetH_of_parts3 (fuel:=33) (laidMet_of_run' 33 BS BS) BS BS
theorem zR {W : World} (h : laidMetH Tryz.prog [("math/bits.deBruijn32tab", Rows.laid_math_bits_deBruijn32tab)] W) : EI.h noM W := by
 rw [MakeChecks.laidMetH_plain _ _ _ BS] at h
 obtain ⟨ps,⟨g0,t0,cs0,f0,p0,q0,hg0,ht0,cJ,hd0,_⟩,_⟩:=h
 obtain rfl:=Option.some.inj (AGf.symm.trans hg0)
 obtain rfl:=Option.some.inj (AGg.symm.trans ht0)
 obtain ⟨xs,m,rfl,hx,hlen,hn,hel⟩:=DataW.trod_array Tryz.underlying255 hd0
 have c1:Tryz.prog.cellsOf 5=1:=by kernel_rfl
 have hx1:Rows.laid_math_bits_deBruijn32tab=DataW.agg (xs.map (·.1)):=(Prod.mk.inj hx).1
 have hx2:xs.map (·.1)=Xj.map fun n:Nat=>DataW.lit (.int .u8 (n:Int)):=by
  have h3:(Rows.laid_math_bits_deBruijn32tab:DataW Unit)=DataW.agg (Xj.map fun n:Nat=>DataW.lit (.int .u8 (n:Int))):=rfl
  exact (DataW.agg.inj (hx1.symm.trans h3))
 intro j n hj
 refine ⟨?_,fun h=>h⟩
 have AGh:j<32:=by
  rcases Nat.lt_or_ge j 32 with h|h
  · exact h
  · rw [List.getElem?_eq_none h] at hj;cases hj
 have h4:=hel j AGh
 rw [c1,Nat.mul_one] at h4
 obtain ⟨y,hy⟩:=at_ (l:=xs) (k:=j) AA
 rw [hy] at h4
 obtain ⟨k,e1,e2,_⟩:=DataW.trod_int Tryz.underlying5 h4
 have h5:(xs.map (·.1))[j]? =some (DataW.lit (.int .u8 (n:Int))):=by rw [hx2,List.getElem?_map,hj];rfl
 rw [List.getElem?_map,hy] at h5
 have hk:k=(n:Int):=by
  have h6:y.1=DataW.lit (.int .u8 (n:Int)):=Option.some.inj h5
  rw [e2] at h6
  simpa using h6
 have h7:=World.var?_cell hg0 cJ j
 have h8:cs0.toList[j]? =some (.int .u8 k):=by
  have h9:=congrArg (fun l:List Value=>l[0]?) e1
  simpa using h9
 rw [hk] at h8
 have h10:cs0[j]? =some (.int .u8 (n:Int)):=by rw [←Array.getElem?_toList];exact h8
 rw [h10] at h7
 exact h7
theorem LL (os:Os) (started:os.Started) (H:Type) (enc:TypeId×Value→H):
  ReturnsInHanded {} Tryz.checked os 3 .any (fun w args => (Rows.runnerUndoesSpec.pre enc Tryz.prog Tryz.f3 [] false w args ∧ laidMetH Tryz.prog [("math/bits.deBruijn32tab", Rows.laid_math_bits_deBruijn32tab)] w) ∧ sizedMet enc Tryz.prog Tryz.f3 (OpenSpec.ofChange Rows.runnerUndoesSpec) false w args) (Rows.runnerUndoesSpec.post enc Tryz.prog Tryz.f3 false true false false) := by
 refine returnsInHanded_of_change_and (C := Tryz.checked) (X := fun w _ => laidMetH Tryz.prog [("math/bits.deBruijn32tab", Rows.laid_math_bits_deBruijn32tab)] w) (fun _ _ _ hh h => h.of_heap hh) AFt started BS Tryz.func3
  (ChangeSpec.witness_shaped (enc := enc) (C := Tryz.checked) (os := os) (X := fun w _ => laidMetH Tryz.prog [("math/bits.deBruijn32tab", Rows.laid_math_bits_deBruijn32tab)] w) false (World.doorLaid Tryz.prog 14 os) #[.slice none 0 0] 8 rfl (World.shaped_of_RefB BS BS) BS BS BS (qp os _)) ?_
 intro W base args ds gs before ADT hW AHv _ hL _
 have hval:∀(j:Nat) t v,Tryz.f3.params[j]? =some t→args[j]? =some v→Value.okWide Tryz.prog W .any base t v:=ADT
 have hW':=hW
 obtain ⟨p,q,hA0,hV,hpq,hfz,hnd⟩:=hW
 have hA:DataW.TrodAll enc Tryz.prog W 0 (fun _=>true) true Tryz.f3.params.toList args.toList ds p:=hA0
 have hA':=hA
 rw [Tryz.params3] at hA hval
 obtain ⟨v0,d0,rfl,rfl,h0⟩:=trodAll_one hA'
 obtain ⟨rfl,rfl⟩:=trodVars_none hV
 obtain ⟨a0,_,e0⟩:=rH (ZT Tryz.underlying22 Tryz.underlying3 BS) h0 (by obtain ⟨_,_,_,rfl⟩:=okWide_slice Tryz.underlying22 (hval 0 22 v0 rfl rfl);rfl)
 refine (Bj.uV (Se) rfl W [v0] (zR hL) ⟨e0,trivial⟩).mono fun e W' ⟨v,he,hv,hb⟩=> ?_
 subst he
 obtain rfl:v= .bool true:=hv
 exact ⟨_,rfl,kj mC BS rfl Tryz.underlying4 rfl hA' (by rw [hpq];simp) hW' rfl hb⟩
theorem LM:(Rows.runnerUndoesRow.inPlace==Tryz.pinned.checked.prog.inPlace 3)=true:=by kernel_rfl
theorem LN:(Rows.runnerUndoesRow.unfollowed==Tryz.pinned.checked.prog.unfollowed 3)=true:=by kernel_rfl
theorem LO:(Rows.runnerUndoesRow.recurses==Tryz.pinned.checked.prog.recurses 3)=true:=by kernel_rfl
theorem LP:(Rows.runnerUndoesRow.named==Tryz.pinned.checked.prog.varsNamed 3)=true:=by kernel_rfl
theorem MU:joinedFacts Tryz.pinned.checked.prog 3 Tryz.f3 Rows.runnerUndoesSpec Rows.runnerUndoesRow=true:=by
 unfold joinedFacts
 rw [LM,LN,LO,LP]
 kernel_rfl
theorem runnerUndoes_holds:Rows.RunnerUndoesSaid:=
 OpenClaim.holds_of_wide 3 Tryz.f3 rfl rfl rfl rfl rfl rfl rfl ⟨rfl, rfl, rfl, rfl, rfl⟩ rfl rfl rfl rfl rfl BS Tryz.func3 MU
  (of_decide_eq_true BS) (by unfold Func.isWrapper;first|(rw [if_pos (by decide+kernel)];kernel_rfl)|(rw [if_neg (by decide+kernel)];exact ⟨rfl,rfl⟩))
  (fun os started H enc _=>LL os started H enc)
theorem PC:Rows.runnerUndoesRow.wfByText (OpenSpec.ofChange Rows.runnerUndoesSpec)=true:=by kernel_rfl
theorem PD:Tryz.pinned.checked.prog.mainIs=some (Rows.runnerUndoesCard.stood.harness.1,Rows.runnerUndoesCard.stood.harness.2.toList):=by kernel_rfl
theorem PF : Tryz.prog.funcNamed "cipherplan/cipherplanlaw37.RunnerUndoes" = some 3 := by kernel_rfl
theorem PG:false=Tryz.pinned.checked.prog.looks []:=by kernel_rfl
theorem PI:false=Rows.runnerUndoesRow.goesBy Tryz.pinned.checked.prog:=by kernel_rfl
theorem PJ:([22].all fun u=> !Tryz.prog.wantsStandIn u)=true:=by kernel_rfl
theorem runnerUndoes_card_holds:Rows.RunnerUndoesCardSaid:=
 Claim7.holds_tied_plain_at .later [] [.data] true Rows.runnerUndoesCard.stood.harness false runnerUndoes_holds (fun _ h => by cases h) PC (fun _ h => by cases h) runnerUndoes_row_tie rfl ⟨rfl, rfl⟩ PD rfl
  (fun f fn hf hfn=>by
   obtain rfl:f=3:=Option.some.inj (PF.symm.trans hf)|>.symm
   obtain rfl:fn=Tryz.f3:=(Option.some.inj (Tryz.func3.symm.trans hfn)).symm
   exact ⟨PG,fun j t ht=>by
    rw [Tryz.params3] at ht
    have hm:t∈[22]:=by simpa using Array.mem_of_getElem? ht
    exact (show Tryz.prog.wantsStandIn t=false by simpa using List.all_eq_true.1 PJ t hm)⟩)
  PI
end Go.Proofs.YtmocaapoeefgkaaGreatDoor
