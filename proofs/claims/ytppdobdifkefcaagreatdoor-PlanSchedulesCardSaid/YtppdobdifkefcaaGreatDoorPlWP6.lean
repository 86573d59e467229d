/-
  PlanSchedules: whatever the input, the law of this name returns true and its arguments read as before; the table of trailing zeros is tied to the program. No conditions.
-/
import Derived.Test.YtppdobdifkefcaaGreatDoorTie
import Derived.Test.YtppdobdifkefcaaGreatDoorCards
import Derived.LaidMore
import Derived.OpenShut
import Derived.Stop.Joined
import Derived.ProofKit
import Derived.Test.YtppdobdifkefcaaGreatDoorPlWP5
set_option linter.all false
set_option maxRecDepth 40000
set_option maxHeartbeats 16000000
namespace Go.Proofs.YtppdobdifkefcaaGreatDoor
open Go Go.RowKit Cp Go.Proofs.Tryz
abbrev Gh (l:List Cb):Pr:=slice 8 (l.map Io)
def IG (c:Ao) (x:Cb):Bool:=decide (x.Bm<0)||decide (x.Bm≥c.FF.length)
def F2 (c:Ao) (x:Cb):Int:=c.FF.getD x.Bm.toNat 0
def C7 (c:Ao) (l:List Cb):Int:=if 24<l.length then 3 else if l.any (IG c) then 40 else 0
def I4 (c:Ao) (l:List Cb):List Int:=if C7 c l=0 then l.map (F2 c) else []
open Classical in
noncomputable def C0 (e:IL) (c:Ao) (l:List Cb):Int:=if Kt e=false then 31 else if c.check (e.EK.length:Nat)≠0 then c.check (e.EK.length:Nat) else C7 c l
noncomputable def Ss (e:IL) (c:Ao) (l:List Cb):List Int:=if C0 e c l=0 then l.map (F2 c) else []
theorem Re {c:Ao} {l:List Cb} (h:24<l.length):C7 c l=3:=by unfold C7;rw [if_pos h]
theorem II {c:Ao} {l:List Cb} {k:Nat} {x:Cb} (h:¬24<l.length) (hx:l[k]? =some x) (hb:IG c x=true):C7 c l=40:=by unfold C7;rw [if_neg h,if_pos (List.any_eq_true.2 ⟨x,List.mem_of_getElem? hx,hb⟩)]
theorem M9 {c:Ao} {l:List Cb} (h:¬24<l.length) (hb:∀j y,j<l.length→l[j]? =some y→IG c y=false):C7 c l=0:=by
 unfold C7;rw [if_neg h,if_neg]
 rw [Bool.not_eq_true,List.any_eq_false]
 intro y hy
 obtain ⟨j,hj⟩:=List.mem_iff_getElem?.1 hy
 rw [hb j y (by rcases Nat.lt_or_ge j l.length with h2|h2;exact h2;rw [List.getElem?_eq_none h2] at hj;cases hj) hj];decide
theorem LC {c:Ao} {l:List Cb} {e:Int} (h:C7 c l=e) (he:e≠0):I4 c l=[]:=by unfold I4;rw [if_neg (by rw [h];exact he)]
theorem Vw {c:Ao} {l:List Cb} (h:C7 c l=0):I4 c l=l.map (F2 c):=by unfold I4;rw [if_pos h]
theorem ZC {c:Ao} {x:Cb} (h:0≤x.Bm∧x.Bm<c.FF.length):c.FF[x.Bm.toNat]? =some (F2 c x):=by
 unfold F2;rw [List.getD_eq_getElem?_getD,List.getElem?_eq_getElem (by omega)];rfl
theorem Vx {c:Ao} {l:List Cb} {k:Nat} {x:Cb} (h:l[k]? =some x):(((l.take k).map (F2 c)).map fun n=>[int n])++[[int (F2 c x)]]=((l.take (k+1)).map (F2 c)).map fun n=>[int n]:=by
 rw [List.take_add_one,h,List.map_append,List.map_append];rfl
def je (l:List Int):Int:=l.foldl max (-1)
theorem Vy {c:Ao} {l:List Cb}  :A7 prog 37 [HH c,Gh l] (IM [ints (I4 c l),int (C7 c l)]):=by
 refine fo func37 rfl ⟨rfl,rfl⟩ fun M0 w0=>(Tr.EF 1 rfl fun Ns=>(Tr.IY 0 1 rfl rfl fun Xr=> ?_))
 refine ac ?_
 refine an ?_ ?_<;>intro h1 q1
 refine ac ?_
 refine Tr.ret (Fin.AE (Fin.EO rfl (Cq.HN _ _) rfl ?_ rfl ?_))
 · rw [LC (Re (by omega)) (by decide)];exact AL 1
 · refine int_eq ?_;exact (Re (by omega)).symm
 refine a3 ?_
 refine Tr.block (Tr.Cs 3 1 (Tr.MQ [(2,_),(12,_),(13,_)] ⟨ke rfl,ke rfl,ke rfl,trivial⟩ (fun k v=>[(14,int ((k:Nat):Int)),(6,AZ v (ints ((l.take k).map (F2 c))))]) (fun k v=>Hp M0 w0 Ot ([As 3 1 v])) (fun k:Nat=>k≤(l).length∧(∀j y,j<k→l[j]? =some y→IG c y=false)) (fun k:Nat=>(l).length-k) 0 (.slice none 0 0) (⟨Nat.zero_le _,fun j y hj=>absurd hj (by omega)⟩) ⟨ke rfl,⟨_,rfl,CR rfl⟩,trivial⟩ (fun _ _ h=>h) ?_))
 rintro k v ⟨BO,AJ⟩
 refine ac ?_
 refine Tr.seq ?_
 refine Tr.cn rfl ?_ ?_<;>intro h2 q2
 have Ad:k<(l).length:=AQ h2
 obtain ⟨x,Ac⟩:=at_ Ad
 refine ac ?_
 refine Tr.seq (Tr.block (Tr.seq (Tr.Az (tp rfl (AA rfl underlying37 Dg (vl rfl) (vl rfl) (by omega) (Ah Ac)) (tp rfl (AM rfl Lh Dg (vl rfl) rfl rfl) ?_)))))
 refine Tl rfl rfl rfl rfl Om Ma (fun b1=> ?_)
 refine sf 0 8 ⟨rfl,rfl,rfl⟩ rfl rfl rfl rfl ?_
 refine ao ?_
 refine ag ?_ ?_<;>intro h3 q3
 refine ac ?_
 refine S1 2 6 8 12 13 14 28 rfl ?_
 refine ac ?_
 refine Tr.ret (Fin.AE (Fin.Ae (Fin.AE (Fin.AE (Fin.Ae (Fin.AE (Fin.EO rfl (Cq.HN _ _) rfl ?_ rfl ?_)))))))
 · rw [LC (II (by omega) Ac (by unfold IG;simp;omega)) (by decide)];exact AL 1
 · refine int_eq ?_;exact (II (by omega) Ac (by unfold IG;simp;omega)).symm
 refine ac ?_
 refine S1 2 6 8 12 13 14 28 rfl ?_
 refine Tr.cn rfl ?_ ?_<;>intro h4 q4
 refine ac ?_
 refine Tr.ret (Fin.AE (Fin.Ae (Fin.AE (Fin.AE (Fin.Ae (Fin.AE (Fin.EO rfl (Cq.HN _ _) rfl ?_ rfl ?_)))))))
 · rw [LC (II (by omega) Ac (by unfold IG;simp;omega)) (by decide)];exact AL 1
 · refine int_eq ?_;exact (II (by omega) Ac (by unfold IG;simp;omega)).symm
 have htm:=ZC (c:=c) (x:=x) (by omega)
 refine ac ?_
 refine ao ?_
 refine tp rfl (AA rfl underlying22 C8 (vl rfl) (vl rfl) (by omega) (Ck htm)) ?_
 refine ao ?_
 refine TO.Es 0 rfl rfl (by decide) (Cg rfl rfl rfl rfl underlying22 C8 V9 z3 (Kb rfl) (Kf rfl) (Bk (by exact List.Mem.head _) (Ka rfl))) (fun v1=> ?_)
 refine ao ?_
 refine JD 2 6 12 13 14 rfl ?_
 refine ac ?_
 exact Fin.Qi (k+1) v1 (⟨⟨Ad,Cm (p:=IG c) Ac (by unfold IG;simp;omega) AJ⟩,by omega⟩) ⟨⟨_,rfl,AF k⟩,⟨_,rfl,Ce (Vx Ac)⟩,ke rfl,ke rfl,ke rfl,trivial⟩ (fun _ _ h=>h)
 have BF:k=(l).length:=by have:=AR h2;omega
 subst BF
 refine a2 ?_
 refine Tr.ret (Fin.EO rfl (Cq.HN _ _) rfl ?_ rfl ?_)
 · rw [Vw (M9 (by omega) AJ)];exact Pr.le_trans (Aj _ _) (Pr.le_of_eq (by rw [List.take_length]))
 · refine int_eq ?_;exact (M9 (by omega) AJ).symm
theorem Od {e:IL} {c:Ao} {l:List Cb} (hf:e.fits):A7 prog 30 [agg (L1 e),HH c,Gh l] (IM [ints (Ss e c l),int (C0 e c l)]):=by
 refine fo func30 rfl ⟨rfl,rfl⟩ fun M0 w0=>(Tr.IY 0 0 rfl rfl fun Jk=> ?_)
 refine a2 ?_
 refine co rfl (Ca (Ur hf) rfl rfl) ?_
 refine an ?_ ?_<;>intro h1 q1
 have hb:Kt e=false:=by cases h_:Kt e with|false=>rfl|true=>exact absurd h1 (by rw [h_];decide)
 have VO:C0 e c l=31:=by unfold C0;rw [if_pos hb]
 refine ac ?_
 refine Tr.ret (Fin.AE (Fin.EO rfl (Cq.HN _ _) rfl ?_ rfl ?_))
 · refine Pr.le_trans (AL 1) (Pr.le_of_eq ?_);unfold Ss;rw [if_neg (by rw [VO];decide)];rfl
 · refine int_eq ?_;exact VO.symm
 have hb:¬Kt e=false:=by intro h_;rw [h_] at h1;exact absurd h1 (by decide)
 refine a2 ?_
 refine co rfl (EB (RH (c:=c) (m:=((e.EK.length:Nat):Int))) rfl rfl rfl) ?_
 refine a2 ?_
 refine FO 2 4 8 18 rfl ?_
 refine Tr.cn rfl ?_ ?_<;>intro h2 q2
 have VO:C0 e c l=c.check ((e.EK.length:Nat):Int):=by unfold C0;rw [if_neg hb,if_pos (by simpa using h2)]
 refine ac ?_
 refine Tr.ret (Fin.AE (Fin.EO rfl (Cq.HN _ _) rfl ?_ rfl ?_))
 · refine Pr.le_trans (AL 1) (Pr.le_of_eq ?_);unfold Ss;rw [if_neg (by rw [VO];simp_all)];rfl
 · refine int_eq ?_;exact VO.symm
 have VO:C0 e c l=C7 c l:=by unfold C0;rw [if_neg hb,if_neg (by simpa using h2)]
 refine a2 ?_
 refine co rfl (EB (Vy (c:=c) (l:=l)) rfl rfl rfl) ?_
 refine ac ?_
 refine Tr.ret (Fin.EO rfl (Cq.HN _ _) rfl ?_ rfl ?_)
 · refine Pr.le_of_eq ?_;unfold Ss I4;rw [VO]
 · refine int_eq ?_;exact VO.symm
theorem Rf {p q:Pr} [One p] [One q] {l:List Int}  :A7 prog 19 [agg [p,q,ints l]] (int (je l)):=by
 refine fo func19 rfl ⟨rfl,rfl⟩ fun M0 w0=>(Tr.IY 0 2 rfl rfl fun RI=> ?_)
 refine a3 ?_
 refine Tr.block (Tr.BK [(7,_),(8,_)] (cX rfl) (fun k:Nat=>[(9,int ((k:Nat):Int)),(3,int ((l.take k).foldl max (-1)))]) (fun k:Nat=>k≤(l).length) (fun k:Nat=>(l).length-k) 0 (Nat.zero_le _) ⟨ke rfl,ke rfl,trivial⟩ ?_)
 rintro k BO
 refine ac ?_
 refine Tr.seq ?_
 refine Tr.cn rfl ?_ ?_<;>intro h1 q1
 have Ad:k<(l).length:=AQ h1
 obtain ⟨x,Ac⟩:=at_ Ad
 refine ac ?_
 refine Tr.seq (Tr.block (Tr.seq (Tr.Ai (co rfl (AA rfl underlying22 C8 (vl rfl) (vl rfl) (by omega) (Ah Ac)) ?_))))
 refine a2 ?_
 refine co rfl (Jy rfl (vl rfl) (vl rfl)) ?_
 refine a2 ?_
 exact Fin.AP (k+1) ⟨Ad,by omega⟩ ⟨⟨_,rfl,AF k⟩,⟨_,rfl,int_eq (by rw [List.take_add_one,Ac,List.foldl_append];rfl)⟩,ke rfl,ke rfl,trivial⟩
 have BF:k=(l).length:=by have:=AR h1;omega
 subst BF
 rw [List.take_length]
 refine a3 ?_
 · exact Lr
theorem Su {l:List BG} (h0:l≠[]) (hl:l.length≤1000000):A9 prog 49 [reqs l] (lens (l.map Iy).length) (BA) (fun v=>CC 49 2 (l.map Iy) v):=by
 refine A9.of func49 rfl rfl (by exact Nb rfl) fun M0 w0 S rs M1 w1=> ?_
 have hpos:=Hw (f:=Iy) h0
 refine a2 ?_
 refine co rfl (DY rfl underlying39 (vl rfl)) ?_
 refine ac ?_
 refine Tr.ex 4 rfl (fun z1=>Tr.fact 4 rfl fun Gj=> ?_)
 refine Tr.cn rfl ?_ ?_<;>intro h1 q1
 exfalso;have:=Gj h1;simp_all
 refine ac ?_
 refine ap ?_
 refine TO.pad ?_
 refine TO.Es 0 rfl rfl (by decide) (FU rfl rfl (by decide) rfl underlying39 CT O_ z49 rfl (by decide) (by decide) (vl rfl) (vl rfl) hpos (by rw [List.length_map];unfold maxLen;omega) (by rw [List.length_map];omega)) (fun v1=> ?_)
 refine ap ?_
 refine Tr.ret (Fin.drop 1 ?_)
 refine Fin.D7 rfl rfl ?_ (by intro _ _ _ h;rw [h.1])
 · exact Aj _ _
theorem Sv   :A7 prog 49 [slice 2 []] (full 2 []):=by
 refine fo func49 rfl ⟨rfl,rfl⟩ fun M0 w0=> ?_
 refine a2 ?_
 refine co rfl (DY rfl underlying39 (vl rfl)) ?_
 refine ac ?_
 refine Tr.ex 4 rfl (fun z1=>Tr.fact 4 rfl fun Gj=> ?_)
 · repeat' first|exact ES 2|exact Lr|refine co rfl (Hu rfl underlying39 CT (vl rfl) (vl rfl)) ?_|refine ac ?_|(refine Tr.cn rfl ?_ ?_<;>intro h q)
theorem Sw {l:List BG} (hl:l.length≤1000000):A7 Tryz.prog 49 [reqs l] (reqs l):=by
 by_cases h0:l=[]
 · subst h0;exact A7.le Sv (fun _ _ _ h=>h) (Al _ _)
 · exact (A9.gC (rows:=l.map Iy) (BQ fun _=>rfl) (Su h0 hl)).pure
theorem Vz {l:List Cb} {r:List BG} {d:List Int} (YU:∀x∈l,x.JX.small) (hl:l.length≤1000000) (hr:r.length≤1000000) (hd:d.length≤1000000):T5 prog 32 [agg [Gh l,reqs r,ints d]] (fun x=>agg [Gh l,reqs r,is x]) (fun x=>[Bl 3 1 (d.map fun n=>[int n]) x]):=by
 refine T5.of func32 rfl rfl (by exact Nb rfl) fun M0 w0 S rs M1 w1=>(Tr.IY 0 0 rfl rfl fun Jk=>(Tr.seq (Tr.Az (tp rfl (Dq rfl (Va rfl)) ?_))))
 refine Tl rfl rfl rfl rfl z42 LM (fun b1=> ?_)
 refine ao ?_
 refine Tr.seq (Tr.pad (Tr.pad (Tr.pad (Tr.rx ?_))))
 refine ax ?_
 refine xo rfl (fun _=>Ca (Sw hr) rfl rfl) ?_
 refine ax ?_
 refine Cx.ef 0 rfl rfl (by decide) (GS rfl rfl (by decide) rfl (R_ (l:=d) hd) ⟨ke rfl,trivial⟩) ?_
 refine Cx.ef 1 rfl rfl (by decide) (YJ (d:=12) (s:=11) (p:=fun v=>agg [is (.slice none 0 0),reqs r,AZ v (lens d.length)]) (q:=agg [is (.slice none 0 0),reqs r,lens d.length]) rfl (by decide) (fun _=>A_ ⟨Lr,Lr,Aj _ _,trivial⟩) rfl rfl (by decide) (fun v=>Vj rfl rfl (by decide) (fun _=>Ab (rows:=[(1,[_]),(2,[_])]) rfl Tg LM ⟨⟨rfl,VL.le (vl rfl) (AD _)⟩,⟨⟨rfl,VL.le (vl rfl) (AD _)⟩,trivial⟩⟩ rfl))) (Cx.ef 2 rfl rfl (by decide) (Il rfl rfl (by decide) rfl z42 LM) (Cx.E3 2 rfl rfl (Sr rfl rfl rfl (by decide) rfl rfl (AV _) F6 rfl rfl) ?_))
 refine Cx.nil ⟨by kernel_rfl,?_⟩
 refine BH.bp 11 rfl (fun v11=> ?_)
 refine BH.bp 12 rfl (fun v12=> ?_)
 refine BH.bp 3 rfl (fun v3=> ?_)
 refine BH.bq 0 11 rfl rfl (BH.bt 1 12 11 rfl rfl rfl (BH.bt 2 3 12 rfl rfl rfl (BH.done al5 (Fin.shape 3 (fun b=> .pointer (some ⟨b,0,none⟩)) rfl (fun b9 e9=> ?_)))))
 subst e9
 refine Fin.Vv 1 2 rfl rfl (Fin.drop 1 (Fin.go (O6 1 2 3 rfl ?_)))
 refine ac ?_
 refine Tr.block (Tr.HO 1 [AZ (.slice none 0 0) (Gh (l.take 0)),reqs r,AZ v11 (lens d.length)] rfl ⟨CR rfl,Lr,Lr,trivial⟩ (Tr.Cs 62 8 (Tr.MQ [(2,_),(3,_),(14,_),(15,_)] ⟨ke rfl,ke rfl,ke rfl,ke rfl,trivial⟩ (fun k u=>[(16,int ((k:Nat):Int))]) (fun k u=>Hp M0 w0 S (As 62 8 u::Bl 3 1 (d.map fun n=>[int n]) v11::AB true b9 42 [AZ u (Gh (l.take k)),reqs r,AZ v11 (lens d.length)]::AB true b1 42 (([.slice none 0 0,.slice none 0 0,.slice none 0 0]:List Value).map is)::AX M1 w1::rs)) (fun k:Nat=>k≤(l).length) (fun k:Nat=>(l).length-k) 0 (.slice none 0 0) (Nat.zero_le _) ⟨ke rfl,trivial⟩ (fun _ _ h=>h) ?_)))
 rintro k u BO
 refine ac ?_
 refine Tr.seq ?_
 refine Tr.cn rfl ?_ ?_<;>intro h1 q1
 have Ad:k<(l).length:=AQ h1
 obtain ⟨x,Ac⟩:=at_ Ad
 refine ac ?_
 refine Tr.seq (Tr.block (Tr.seq (Tr.Az (tp rfl (AA rfl underlying37 Dg (vl rfl) (vl rfl) (by omega) (Ah Ac)) (tp rfl (AM rfl Lh Dg (vl rfl) rfl rfl) ?_)))))
 refine Tl rfl rfl rfl rfl Om Ma (fun b10=> ?_)
 refine sf 0 5 ⟨rfl,rfl,rfl⟩ rfl rfl rfl rfl ?_
 refine ao ?_
 refine Tr.pad (Tr.rx ?_)
 refine ax ?_
 refine xo rfl (fun _=>Ca (XO (c:=x) (YU x (List.mem_of_getElem? Ac))) rfl rfl) ?_
 refine xo rfl (fun _=>AG (xs:=[.tmp 23]) (rows:=[_]) rfl rfl underlying37 Dg Om rfl (by decide) ⟨⟨(by exact rfl),(Va rfl)⟩,trivial⟩ (by decide)) ?_
 refine Cx.ef 1 rfl rfl (by decide) (Cg rfl rfl rfl rfl underlying37 Dg PB Om (Kb rfl) (Kf rfl) (Bk (by exact List.Mem.head _) (Ka rfl))) ?_
 refine xo rfl (fun _=>AO rfl KH (vl rfl)) (Cx.E3 3 rfl rfl (FB rfl rfl rfl (vl rfl) rfl mH (by exact Nb rfl)) ?_)
 refine Cx.nil ⟨by kernel_rfl,?_⟩
 refine BH.NV 1 3 25 rfl rfl (by decide) rfl (fun v1=> ?_)
 refine BH.done al6 ?_
 refine ac ?_
 refine Tr.drop 0 (JD 2 3 14 15 16 rfl ?_)
 refine ac ?_
 refine Fin.HO 2 [AZ v1 (Gh (l.take (k+1))),reqs r,AZ v11 (lens d.length)] rfl ⟨Ce (by rw [List.take_add_one,Ac,List.map_append];rfl),Lr,Lr,trivial⟩ ?_
 exact Fin.Qi (k+1) v1 (⟨Ad,by omega⟩) ⟨⟨_,rfl,AF k⟩,ke rfl,ke rfl,ke rfl,ke rfl,trivial⟩ (fun _ _ h=>h)
 have BF:k=(l).length:=by have:=AR h1;omega
 subst BF
 rw [List.take_length]
 refine ac ?_
 refine ao ?_
 refine TO.At 3 rfl rfl rfl (vl rfl) (Va rfl) rfl F6 rfl rfl ?_
 refine ao ?_
 refine Tr.ret (Fin.drop 0 (Fin.drop 1 (Fin.aE (Fin.mw v11 [_] rfl (BE.cell 0 rfl rfl JG F6 rfl (Lr)) ?_ (List.Perm.refl _)))))
 · exact A_ ⟨Aj _ _,Lr,D6 _ _,trivial⟩
noncomputable def IJ (c:Ao) (l:List Cb) (r:List BG) (fr:Int):Option (List Int×List Int×List Int):=IC c r (l.map (F2 c)) fr l.length (BM l.length r l.length).1
open Classical in
noncomputable def EY (e:IL) (c:Ao) (l:List Cb) (r:List BG) (fr:Int):Int:=if C0 e c l≠0 then C0 e c l else if Ar (l.length:Nat) r≠0 then Ar (l.length:Nat) r else match IJ c l r fr with|none=>51|some _=>0
noncomputable def Oe (c:Ao) (l:List Cb) (r:List BG) (fr:Int):List Int:=match IJ c l r fr with|none=>[]|some p=>p.1
open Classical in
noncomputable def QL (e:IL) (c:Ao) (l:List Cb) (r:List BG) (fr:Int):List Cb:=if EY e c l r fr=0 then l else []
open Classical in
noncomputable def QM (e:IL) (c:Ao) (l:List Cb) (r:List BG) (fr:Int):List BG:=if EY e c l r fr=0 then r else []
open Classical in
noncomputable def QN (e:IL) (c:Ao) (l:List Cb) (r:List BG) (fr:Int):List Int:=if EY e c l r fr=0 then Oe c l r fr else []
noncomputable abbrev V0 (e:IL) (c:Ao) (l:List Cb) (r:List BG) (fr:Int):List Pr:=[Gh (QL e c l r fr),reqs (QM e c l r fr),ints (QN e c l r fr)]
section
variable {e:IL} {c:Ao} {l:List Cb} {r:List BG} {fr:Int}
theorem V1 (h:C0 e c l=0):Kt e=true∧c.check (e.EK.length:Nat)=0∧C7 c l=0:=by
 unfold C0 at h
 cases hb:Kt e with
 |false=>rw [if_pos hb] at h;cases h
 |true=>
  rw [if_neg (by rw [hb];decide)] at h
  by_cases hc:c.check (e.EK.length:Nat)=0
  · rw [if_neg (not_not_intro hc)] at h;exact ⟨rfl,hc,h⟩
  · rw [if_pos hc] at h;exact absurd h hc
theorem ZD (h:C0 e c l=0):Ss e c l=l.map (F2 c):=by unfold Ss;rw [if_pos h]
theorem MG {n:Int} (h:c.check n=0):c.own=0∧(c.FF.length:Int)=n∧∀t∈c.FF,c.has t=true:=by
 have h':=h
 unfold Ao.check at h
 split at h
 · cases h
 ·
  split at h
  · cases h
  ·
   split at h
   · cases h
   ·
    split at h
    · cases h
    ·
     split at h
     · cases h
     ·
      split at h
      · cases h
      ·
       rename_i _ _ _ _ _ h6
       rw [not_or,Classical.not_not,Bool.not_eq_true,List.any_eq_false] at h6
       refine ⟨by unfold Ao.own;rw [h6.1];exact h',h6.1,fun t ht=>by simpa using h6.2 t ht⟩
theorem Of (h:C7 c l=0):l.length≤24∧∀x∈l,IG c x=false:=by
 unfold C7 at h
 by_cases h1:24<l.length
 · rw [if_pos h1] at h;cases h
 ·
  rw [if_neg h1] at h
  refine ⟨by omega,fun x hx=> ?_⟩
  cases hb:IG c x with
  |false=>rfl
  |true=>rw [if_pos (List.any_eq_true.2 ⟨x,hx,hb⟩)] at h;cases h
theorem Rh (h:C7 c l=0) (ht:∀t∈c.FF,c.has t=true):∀x∈l.map (F2 c),c.has x=true:=fun x hx=>by
 obtain ⟨y,hy,rfl⟩:=List.mem_map.1 hx
 have hb:=(Of h).2 y hy
 unfold IG at hb
 rw [Bool.or_eq_false_iff,decide_eq_false_iff_not,decide_eq_false_iff_not] at hb
 exact ht _ (List.mem_of_getElem? (ZC (by omega)))
theorem ZE (h:C0 e c l≠0):EY e c l r fr=C0 e c l:=by unfold EY;rw [if_pos h]
theorem ZF (h:C0 e c l=0) (hv:Ar (l.length:Nat) r≠0):EY e c l r fr=Ar (l.length:Nat) r:=by unfold EY;rw [if_neg (not_not_intro h),if_pos hv]
theorem LD (h:C0 e c l=0) (hv:Ar (l.length:Nat) r=0) (hs:IJ c l r fr=none):EY e c l r fr=51:=by unfold EY;rw [if_neg (not_not_intro h),if_neg (not_not_intro hv),hs]
theorem V2 {p:List Int×List Int×List Int} (h:C0 e c l=0) (hv:Ar (l.length:Nat) r=0) (hs:IJ c l r fr=some p):EY e c l r fr=0:=by unfold EY;rw [if_neg (not_not_intro h),if_neg (not_not_intro hv),hs]
theorem Og (h:EY e c l r fr≠0):QL e c l r fr=[]∧QM e c l r fr=[]∧QN e c l r fr=[]:=by unfold QL QM QN;rw [if_neg h,if_neg h,if_neg h];exact ⟨rfl,rfl,rfl⟩
theorem Oh (h:EY e c l r fr=0):QL e c l r fr=l∧QM e c l r fr=r∧QN e c l r fr=Oe c l r fr:=by unfold QL QM QN;rw [if_pos h,if_pos h,if_pos h];exact ⟨rfl,rfl,rfl⟩
theorem M_ {k:Int} (h:EY e c l r fr=k) (hk:k≠0):Pr.le (agg [is (.slice none 0 0),is (.slice none 0 0),is (.slice none 0 0)]) (agg (V0 e c l r fr)):=by
 obtain ⟨h1,h2,h3⟩:=Og (e:=e) (c:=c) (l:=l) (r:=r) (fr:=fr) (by rw [h];exact hk)
 unfold V0;rw [h1,h2,h3];exact A_ ⟨AL 8,AL 2,AL 1,trivial⟩
theorem YK {d b y:List Int} (h:EY e c l r fr=0) (hs:IJ c l r fr=some (d,b,y)):Pr.le (agg [Gh l,reqs r,ints d]) (agg (V0 e c l r fr)):=by
 obtain ⟨h1,h2,h3⟩:=Oh h
 unfold V0;rw [h1,h2,h3];unfold Oe;rw [hs];exact Pr.le_refl _
theorem YL (h:EY e c l r fr=0):C0 e c l=0∧Ar (l.length:Nat) r=0∧∃d b y,IJ c l r fr=some (d,b,y)∧Oe c l r fr=d:=by
 unfold EY at h
 by_cases h1:C0 e c l=0
 ·
  rw [if_neg (not_not_intro h1)] at h
  by_cases h2:Ar (l.length:Nat) r=0
  ·
   rw [if_neg (not_not_intro h2)] at h
   refine ⟨h1,h2,?_⟩
   unfold Oe
   cases hs:IJ c l r fr with
   |none=>rw [hs] at h;cases h
   |some p=>exact ⟨p.1,p.2.1,p.2.2,rfl,rfl⟩
  · rw [if_pos h2] at h;exact absurd h h2
 · rw [if_pos h1] at h;exact absurd h h1
theorem LF {q:BG} {m:Nat} {d:List Int} {i:Int} (h:r[m]? =some q):De (r.take (m+1)) d i fr=if q.thn=i then max (De (r.take m) d i fr) (d.getD q.fst.toNat 0+1) else De (r.take m) d i fr:=by
 unfold De;rw [List.take_add_one,h,List.foldl_append];rfl
theorem En {l:List Int} {i:Nat} (h:i<l.length):l[i]? =some (l.getD i 0):=by rw [List.getD_eq_getElem?_getD,List.getElem?_eq_getElem h];rfl
end
theorem Oi {e:IL} {c:Ao} {l:List Cb} {r:List BG} {fr:Int} (hf:e.fits) (YU:∀x∈l,x.JX.small) (hrl:r.length≤1000000):A9 prog 12 [agg (L1 e),HH c,Gh l,reqs r,int fr] (IM [agg (V0 e c l r fr),int (EY e c l r fr)]) (Dh) (fun _=>Dh):=by
 refine A9.of func12 rfl rfl (by exact Nb rfl) fun M0 w0 S rs M1 w1=> ?_
 refine Tr.EF 3 rfl fun qO=>(Tr.seq (Tr.Az (tp rfl (Dq rfl (Va rfl)) (tp rfl (Dq rfl (Va rfl)) ?_))))
 refine Tl rfl rfl rfl rfl z42 LM (fun b1=> ?_)
 refine ao ?_
 refine ac ?_
 refine co rfl (nS (Od (e:=e) (c:=c) (l:=l) hf) rfl rfl rfl rfl) ?_
 refine ac ?_
 refine S1 2 3 4 6 10 12 13 rfl ?_
 refine an ?_ ?_<;>intro h1 q1
 have hb:C0 e c l≠0:=by simpa using h1
 refine ao ?_
 refine TO.At 0 rfl rfl rfl (vl rfl) (Va rfl) rfl F6 rfl rfl ?_
 refine ao ?_
 refine Tr.ret (Fin.AE (Fin.NU [_] rfl (BE.cell 0 rfl rfl JG F6 rfl (Lr)) (BE.tmp rfl (Lr)) ?_))
 refine ET ⟨?_,?_,trivial⟩
 · exact M_ (ZE hb) hb
 · refine int_eq ?_;exact (ZE hb).symm
 have hb:C0 e c l=0:=by simpa using h1
 obtain ⟨mo,dx,hte⟩:=V1 hb
 obtain ⟨how,lH,hth⟩:=MG dx
 have Ko:=(Of hte).1
 have Xx:=Rh hte hth
 obtain ⟨T,hT⟩:∃T,l.map (F2 c)=T:=⟨_,rfl⟩
 have hTl:T.length=l.length:=by rw [←hT,List.length_map]
 rw [hT] at Xx
 refine Tr.re 12 rfl (Pr.le_of_eq (by rw [ZD hb,hT])) ?_
 refine ac ?_
 refine ao ?_
 refine TO.E8 1 rfl rfl (by decide) (AY rfl rfl (by decide) rfl (Vs (n:=((l.length:Nat):Int)) (l:=r)) ⟨ke rfl,ke rfl,trivial⟩) ?_
 refine ao ?_
 refine Rs 2 3 4 6 10 12 13 14 rfl ?_
 refine an ?_ ?_<;>intro h2 q2
 have hv:Ar (l.length:Nat) r≠0:=by simpa using h2
 refine ao ?_
 refine TO.At 0 rfl rfl rfl (vl rfl) (Va rfl) rfl F6 rfl rfl ?_
 refine ao ?_
 refine Tr.ret (Fin.AE (Fin.NU [_] rfl (BE.cell 0 rfl rfl JG F6 rfl (Lr)) (BE.tmp rfl (Lr)) ?_))
 refine ET ⟨?_,?_,trivial⟩
 · exact M_ (ZF hb hv) hv
 · refine int_eq ?_;exact (ZF hb hv).symm
 have hv:Ar (l.length:Nat) r=0:=by simpa using h2
 obtain ⟨row,hrow⟩:∃row,(BM l.length r l.length).1=row:=⟨_,rfl⟩
 obtain ⟨hrr,pU⟩:=Dz hv l.length (by simp)
 rw [Int.toNat_natCast,hrow] at hrr pU
 have hrq:∀q∈r,(0≤q.fst∧q.fst<l.length)∧0≤q.thn∧q.fst≠q.thn:=fun q hq=>by
  have h_:=(Cy hv).2.1 q hq
  unfold Cv at h_;rw [decide_eq_false_iff_not] at h_;omega
 refine Tr.re 14 rfl (Pr.le_of_eq (by rw [if_pos hv,Int.toNat_natCast,hrow])) ?_
 refine ac ?_
 refine ao ?_
 refine tp rfl (OP (m:=l.length) rfl underlying22 C8 V9 z3 rfl (by decide) (by decide) (vl rfl) (vl rfl) (by unfold maxLen;omega) (by omega)) ?_
 refine tp rfl (Ab (rows:=[(0,[_]),(1,[_]),(2,[_])]) rfl Tg LM ⟨⟨rfl,(Vo rfl)⟩,⟨⟨rfl,(Vo rfl)⟩,⟨⟨rfl,⟨_,rfl,Pr.le_trans (Pr.le_trans (Al _ _) (Pr.le_of_eq (show _=slice 1 ((List.replicate l.length (0:Int)).map fun n=>[int n]) by rw [List.map_replicate];rfl))) (AD _)⟩⟩,trivial⟩⟩⟩ rfl) ?_
 refine TO.gF rfl rfl (by decide) rfl (Vz (d:=List.replicate l.length 0) YU (by omega) hrl (by rw [List.length_replicate];omega)) ⟨ke rfl,trivial⟩ (fun v1=> ?_)
 refine Tl rfl rfl rfl rfl z42 LM (fun b2=> ?_)
 refine TO.At 0 rfl rfl rfl (vl rfl) (Va rfl) rfl F6 rfl rfl ?_
 refine ao ?_
 refine S1 3 4 6 10 12 14 15 rfl ?_
 refine a2 ?_
 refine Tr.block (Tr.Cs 3 1 (Tr.Cs 3 1 (Tr.Ta [(3,_),(4,_),(6,_),(10,_),(12,_),(15,_),(55,_),(56,_)] ⟨ke rfl,ke rfl,ke rfl,ke rfl,ke rfl,ke rfl,ke rfl,ke rfl,trivial⟩ (fun (dy:List Int) (b:List Int) (y:List Int) (k:Nat) u u2=>[(57,int ((k:Nat):Int)),(16,AZ u (ints b)),(17,AZ u2 (ints y))]) (fun (dy:List Int) (b:List Int) (y:List Int) (k:Nat) u u2=>Hp M0 w0 S (As 3 1 u2::As 3 1 u::AB true b2 42 [Gh l,reqs r,is v1]::Bl 3 1 (dy.map fun n=>[int n]) v1::AB true b1 42 (([.slice none 0 0,.slice none 0 0,.slice none 0 0]:List Value).map is)::Dh::AX M1 w1::rs)) (fun (dy:List Int) (b:List Int) (y:List Int) (k:Nat)=>k≤row.length∧IC c r T fr l.length (row.take k)=some (dy,b,y)) (fun (dy:List Int) (b:List Int) (y:List Int) (k:Nat)=>row.length-k) (List.replicate l.length 0) ([]) ([]) (0) (.slice none 0 0) (.slice none 0 0) (⟨Nat.zero_le _,rfl⟩) ⟨ke rfl,⟨_,rfl,CR rfl⟩,⟨_,rfl,CR rfl⟩,trivial⟩ (fun _ _ h=>h) ?_)))
 rintro dy b y k u u2 ⟨hk0,hsc⟩
 have hS:=K7.run (k:=k) hrr (fun q hq=>by have:=hrq q hq;omega) Ko how (fun i h1 h2=>Xx _ (List.mem_of_getElem? (En (l:=T) (i:=i.toNat) (by omega)))) hk0 hsc
 have dz:=hS.len
 have Qt:b.length=k:=by rw [hS.hb,List.length_map,List.length_take];omega
 have lM:y.length=k:=by rw [hS.hd,List.length_map,List.length_take];omega
 refine ac ?_
 refine Tr.seq ?_
 refine Tr.cn rfl ?_ ?_<;>intro h3 q3
 have hk:k<row.length:=AQ h3
 obtain ⟨i,hi⟩:=at_ hk
 have VJ:=hrr.bM i (List.mem_of_getElem? hi)
 have hti:T[i.toNat]? =some (NG T i):=En (by omega)
 refine ac ?_
 refine Tr.seq (Tr.block (Tr.seq (Tr.Ai (co rfl (AA rfl underlying91 C8 (vl rfl) (vl rfl) (by omega) (Ah hi)) ?_))))
 refine ac ?_
 refine l6 3 4 6 10 12 15 16 17 19 55 56 57 rfl ?_
 refine ac ?_
 refine WU 3 4 6 10 12 15 16 17 19 20 55 56 57 rfl ?_
 refine ac ?_
 refine WV 3 4 6 10 12 15 16 17 19 20 55 56 57 62 63 64 rfl (Tr.block (Tr.BK [(3,_),(4,_),(6,_),(10,_),(12,_),(15,_),(16,_),(17,_),(19,_),(55,_),(56,_),(57,_),(62,_),(63,_)] (mA rfl) (fun m:Nat=>[(64,int ((m:Nat):Int)),(20,int (De (r.take m) dy i fr))]) (fun m:Nat=>m≤(r).length) (fun m:Nat=>(r).length-m) 0 (Nat.zero_le _) ⟨ke rfl,ke rfl,trivial⟩ ?_))
 rintro m U_
 refine ac ?_
 refine eT 3 4 6 10 12 15 16 17 19 20 55 56 57 62 63 64 65 rfl (Tr.seq ?_)
 refine Tr.cn rfl ?_ ?_<;>intro h4 q4
 have JZ:m<(r).length:=AQ h4
 obtain ⟨q,HJ⟩:=at_ JZ
 refine ac ?_
 refine WV 3 4 6 10 12 15 16 17 19 20 55 56 57 62 63 64 rfl (Tr.seq (Tr.block (Tr.seq (Tr.Az (tp rfl (AA rfl underlying39 CT (vl rfl) (vl rfl) (by omega) (Ah HJ)) (tp rfl (AM rfl Gl CT (vl rfl) rfl rfl) ?_))))))
 refine Tl rfl rfl rfl rfl z49 MW (fun b3=> ?_)
 refine sf 0 22 ⟨rfl,rfl,rfl⟩ rfl rfl rfl rfl ?_
 refine ao ?_
 refine eT 3 4 6 10 12 15 16 17 19 20 22 55 56 57 62 63 64 rfl ?_
 refine ac ?_
 refine l9 3 4 6 10 12 15 16 17 19 20 22 55 56 57 62 63 64 71 rfl ?_
 refine Tr.cn rfl ?_ ?_<;>intro h5 q5
 have hqr:=hrq q (List.mem_of_getElem? HJ)
 have hz:=En (l:=dy) (i:=q.fst.toNat) (by have:=hS.len;omega)
 have hzb:=hS.lJ _ (List.mem_of_getElem? hz)
 refine ac ?_
 refine co rfl (CH 3 rfl (Mk rfl underlying22 C8 (vl rfl) (vl rfl) (by omega) (by rw [List.length_map];omega))) ?_
 refine co rfl (CH 3 rfl (P3 rfl C6 (vl rfl) (BQ fun _=>rfl) (by rw [List.getElem?_map,hz];rfl) rfl)) ?_
 refine O5 rfl rfl rfl rfl (by omega) (co rfl (Jy rfl (vl rfl) (vl rfl)) ?_)
 refine ac ?_
 refine WV 3 4 6 10 12 15 16 17 19 20 55 56 57 62 63 64 rfl ?_
 refine ac ?_
 exact Fin.AP (m+1) ⟨JZ,by omega⟩ ⟨⟨_,rfl,AF m⟩,⟨_,rfl,int_eq (by rw [LF HJ,if_pos (by simpa using h5)])⟩,ke rfl,ke rfl,ke rfl,ke rfl,ke rfl,ke rfl,ke rfl,ke rfl,ke rfl,ke rfl,ke rfl,ke rfl,ke rfl,ke rfl,trivial⟩
 refine ac ?_
 refine WV 3 4 6 10 12 15 16 17 19 20 55 56 57 62 63 64 rfl ?_
 refine ac ?_
 exact Fin.AP (m+1) ⟨JZ,by omega⟩ ⟨⟨_,rfl,AF m⟩,⟨_,rfl,int_eq (by rw [LF HJ,if_neg (by simpa using h5)])⟩,ke rfl,ke rfl,ke rfl,ke rfl,ke rfl,ke rfl,ke rfl,ke rfl,ke rfl,ke rfl,ke rfl,ke rfl,ke rfl,ke rfl,trivial⟩
 have Sc:m=(r).length:=by have:=AR h4;omega
 subst Sc
 rw [List.take_length]
 refine ac ?_
 refine WU 3 4 6 10 12 15 16 17 19 20 55 56 57 rfl ?_
 refine ac ?_
 refine co rfl (AA rfl underlying22 C8 (vl rfl) (vl rfl) (by omega) (Ck hti)) ?_
 refine ac ?_
 refine co rfl (Ag rfl (Pq (c:=c) (AW:=b) (days:=y) (n:=NG T i) (from_:=De r dy i fr)) ⟨ke rfl,(Kb rfl),(Kb rfl),ke rfl,ke rfl,trivial⟩) ?_
 refine ac ?_
 refine l7 3 4 6 10 12 15 16 17 19 23 24 25 55 56 57 rfl ?_
 refine ag ?_ ?_<;>intro h6 q6
 have hno:c.early b y (NG T i) (De r dy i fr)=none:=by unfold Ao.early;rw [if_neg (by simpa using h6)]
 refine ac ?_
 refine ZV 3 4 6 10 12 15 16 17 19 23 55 56 57 100 rfl (Tr.cond rfl (fun _=> ?_) (fun h=>nomatch h))
 refine Tr.seq (Tr.Az (tp rfl (Ab (rows:=[]) rfl Tg LM trivial rfl) (TO.At 4 rfl rfl rfl (vl rfl) (Va rfl) rfl F6 rfl rfl ?_)))
 refine ao ?_
 refine EZ 10 11 rfl (Tr.ret (Fin.AE (Fin.Ae (Fin.AE (Fin.AE (Fin.Ae (Fin.AE (Fin.NU [_,_,_,_,_] rfl (BE.cell 4 rfl rfl JG F6 rfl (Lr)) (BE.tmp rfl (Lr)) ?_))))))))
 refine ET ⟨?_,?_,trivial⟩
 · exact M_ (LD hb hv (by unfold IJ;rw [hT,hrow];exact Gb hi hsc hno)) (by decide)
 · refine int_eq ?_;exact (LD hb hv (by unfold IJ;rw [hT,hrow];exact Gb hi hsc hno)).symm
 refine ac ?_
 refine ZV 3 4 6 10 12 15 16 17 19 23 55 56 57 100 rfl ?_
 refine Tr.cn rfl ?_ ?_<;>intro h7 q7
 have hno:c.early b y (NG T i) (De r dy i fr)=none:=by simpa using h7
 refine ao ?_
 refine TO.At 4 rfl rfl rfl (vl rfl) (Va rfl) rfl F6 rfl rfl ?_
 refine ao ?_
 refine EZ 10 11 rfl (Tr.ret (Fin.AE (Fin.Ae (Fin.AE (Fin.AE (Fin.Ae (Fin.AE (Fin.NU [_,_,_,_,_] rfl (BE.cell 4 rfl rfl JG F6 rfl (Lr)) (BE.tmp rfl (Lr)) ?_))))))))
 refine ET ⟨?_,?_,trivial⟩
 · exact M_ (LD hb hv (by unfold IJ;rw [hT,hrow];exact Gb hi hsc hno)) (by decide)
 · refine int_eq ?_;exact (LD hb hv (by unfold IJ;rw [hT,hrow];exact Gb hi hsc hno)).symm
 obtain ⟨x,hx⟩:∃x,c.early b y (NG T i) (De r dy i fr)=some x:=Option.isSome_iff_exists.1 (by simpa using h7)
 have hdi:=En (l:=dy) (i:=i.toNat) (by have:=hS.len;omega)
 refine Tr.re 23 rfl (int_eq (by rw [hx])) ?_
 refine ac ?_
 refine WU 3 4 6 10 12 15 16 17 19 23 55 56 57 rfl ?_
 refine ao ?_
 refine tp rfl (CH 3 rfl (Mk rfl underlying22 C8 (vl rfl) (vl rfl) (by omega) (by rw [List.length_map];omega))) ?_
 refine TO.E3 3 rfl rfl (Ke rfl rfl (vl rfl) (Vo rfl) C8 rfl (BQ fun _=>rfl) (by rw [List.getElem?_map,hdi];rfl) (by decide) (show _=(dy.set i.toNat x).map _ by rw [List.map_set];rfl)) ?_
 refine ao ?_
 refine WU 3 4 6 10 12 15 16 17 19 23 55 56 57 rfl ?_
 refine ao ?_
 refine tp rfl (AA rfl underlying22 C8 (vl rfl) (vl rfl) (by omega) (Ck hti)) ?_
 refine ao ?_
 refine TO.Es 1 rfl rfl (by decide) (Cg rfl rfl rfl rfl underlying22 C8 V9 z3 (Kb rfl) (Kf rfl) (Bk (by exact List.Mem.head _) (Ka rfl))) (fun v2=> ?_)
 refine ao ?_
 refine TO.Es 0 rfl rfl (by decide) (Cg rfl rfl rfl rfl underlying22 C8 V9 z3 (Kb rfl) (Kf rfl) (Bk (by exact List.Mem.head _) (Ka rfl))) (fun v3=> ?_)
 refine ao ?_
 refine HY 3 4 6 10 12 15 16 17 55 56 57 rfl ?_
 refine ac ?_
 exact Fin.WY (dy.set i.toNat x) (b++[NG T i]) (y++[x]) (k+1) v2 v3 (⟨⟨hk,Xy hi hsc hx⟩,by omega⟩) ⟨⟨_,rfl,AF k⟩,⟨_,rfl,Ce (by rw [List.map_append];rfl)⟩,⟨_,rfl,Ce (by rw [List.map_append];rfl)⟩,ke rfl,ke rfl,ke rfl,ke rfl,ke rfl,ke rfl,ke rfl,ke rfl,trivial⟩ (fun _ _ h=>h)
 have hkr:k=row.length:=by have:=AR h3;omega
 rw [hkr,List.take_length] at hsc
 have hsr:IJ c l r fr=some (dy,b,y):=by unfold IJ;rw [hT,hrow];exact hsc
 refine ac ?_
 refine Tr.seq (Tr.KZ 2 3 2 rfl rfl (by decide) rfl (Lr) (BQ fun _=>rfl) ?_)
 refine ao ?_
 refine TO.At 4 rfl rfl rfl (vl rfl) (Va rfl) rfl F6 rfl rfl ?_
 refine ao ?_
 refine EZ 10 11 rfl (Tr.ret (Fin.NU [_,_,_,_,_] rfl (BE.cell 4 rfl rfl JG F6 rfl (Lr)) (BE.tmp rfl (Lr)) ?_))
 refine ET ⟨?_,?_,trivial⟩
 · exact YK (V2 hb hv hsr) hsr
 · refine int_eq ?_;exact (V2 hb hv hsr).symm
def Oj (d:List Int) (q:BG):Bool:=decide (d.getD q.fst.toNat 0≥d.getD q.thn.toNat 0)
open Classical in
noncomputable def Ja (e:IL) (c:Ao) (l:List Cb) (r:List BG) (d:List Int):Int:=if C0 e c l≠0 then C0 e c l else if d.length≠l.length then 49 else if Ar (l.length:Nat) r≠0 then Ar (l.length:Nat) r else if r.any (Oj d) then 44 else c.Be (l.map (F2 c)) d []
section
variable {e:IL} {c:Ao} {l:List Cb} {r:List BG} {d:List Int}
theorem jf (h:C0 e c l≠0):Ja e c l r d=C0 e c l:=by unfold Ja;rw [if_pos h]
theorem cJ (h:C0 e c l=0) (h2:d.length≠l.length):Ja e c l r d=49:=by unfold Ja;rw [if_neg (not_not_intro h),if_pos h2]
theorem jg (h:C0 e c l=0) (h2:d.length=l.length) (h3:Ar (l.length:Nat) r≠0):Ja e c l r d=Ar (l.length:Nat) r:=by unfold Ja;rw [if_neg (not_not_intro h),if_neg (not_not_intro h2),if_pos h3]
theorem cL (h:C0 e c l=0) (h2:d.length=l.length) (h3:Ar (l.length:Nat) r=0) (h4:r.any (Oj d)=true):Ja e c l r d=44:=by unfold Ja;rw [if_neg (not_not_intro h),if_neg (not_not_intro h2),if_neg (not_not_intro h3),if_pos h4]
theorem ZG (h:C0 e c l=0) (h2:d.length=l.length) (h3:Ar (l.length:Nat) r=0) (h4:∀q∈r,Oj d q=false):Ja e c l r d=c.Be (l.map (F2 c)) d []:=by
 unfold Ja;rw [if_neg (not_not_intro h),if_neg (not_not_intro h2),if_neg (not_not_intro h3),if_neg]
 rw [Bool.not_eq_true,List.any_eq_false];exact fun q hq=>by rw [h4 q hq];decide
theorem Sx {fr:Int} (h:EY e c l r fr=0):Y6 c r (l.map (F2 c)) (Oe c l r fr) fr l.length∧Ja e c l r (Oe c l r fr)=0:=by
 obtain ⟨h1,h2,d,b,y,h3,h4⟩:=YL h
 obtain ⟨mo,dx,hte⟩:=V1 h1
 obtain ⟨how,lH,hth⟩:=MG dx
 have hok:=bO (t:=l.map (F2 c)) (fr:=fr) h2 how (by rw [List.length_map]) (Rh hte hth) h3
 rw [h4]
 refine ⟨hok,?_⟩
 rw [ZG h1 hok.len h2 (fun q hq=> ?_)]
 · exact hok.fit
 · unfold Oj;rw [decide_eq_false_iff_not];have:=hok.ord q hq;omega
end
structure E2 (n:Nat) (r:List BG):Prop where
 up:∀q∈r,(0≤q.fst∧q.fst<q.thn)∧q.thn<n
 srt:CW r=true
theorem E2.nil (n:Nat):E2 n []:=⟨(fun q h=>by cases h),rfl⟩
theorem I5 (r:List BG) (q:BG):K8 r [q]=D_ (r.foldl D_ []) q:=rfl
theorem E2.put {n:Nat} {r:List BG} (h:E2 n r) {x y:Int} (h0:0≤x) (h1:x<y) (h2:y<n):E2 n (K8 r [⟨x,y⟩]):=by
 refine ⟨fun q hq=> ?_,?_⟩
 ·
  rw [I5,OM,LR] at hq
  rcases hq with rfl|hq|hq
  · exact ⟨⟨h0,h1⟩,h2⟩
  · cases hq
  · exact h.up q hq
 · rw [I5];exact JO (Iz r rfl)
theorem QO (r:List BG) (q:BG):(K8 r [q]).length≤r.length+1:=by
 rw [I5]
 have h1:=OL (r.foldl D_ []) q
 have h2:=D5 r []
 simp at h2;omega
theorem E2.valid {n:Nat} {r:List BG} (h:E2 n r) (hn:n≤24):Ar n r=0:=VI hn h.up h.srt
theorem Sy {α:Type} {a b:List α} {k:Nat} {x:α} (hx:a[k]? =some x) (hy:b[k]? =some x) (h:∀j,j<k→a[j]? =b[j]?):∀j,j<k+1→a[j]? =b[j]? :=fun j hj=>by
 by_cases hjk:j=k
 · subst hjk;rw [hx,hy]
 · exact h j (by omega)
theorem V3 {α:Type} {a b:List α} (hl:a.length=b.length) (h:∀j,j<a.length→a[j]? =b[j]?):a=b:=List.ext_getElem? fun j=>by
 rcases Nat.lt_or_ge j a.length with h2|h2
 · exact h j h2
 · rw [List.getElem?_eq_none h2,List.getElem?_eq_none (by omega)]
theorem V4 {e:IL} {c:Ao} {l:List Cb} {r:List BG} {d:List Int} (hf:e.fits):A9 Tryz.prog 13 [agg (L1 e),HH c,agg [Gh l,reqs r,ints d]] (int (Ja e c l r d)) (Dh) (fun _=>Dh):=by
 refine A9.of Tryz.func13 rfl rfl (by exact Nat.le_of_ble_eq_true rfl) fun M0 w0 S rs M1 w1=> ?_
 refine Tr.IY 2 0 rfl rfl fun lO=> ?_
 refine Tr.IY 2 1 rfl rfl fun lP=> ?_
 refine Tr.IY 2 2 rfl rfl fun lQ=> ?_
 refine Tr.seq ?_
 refine Tr.Ai ?_
 refine Ch.op rfl rfl (by decide) (Dq rfl (VL.le (vl rfl) (AV _))) ?_
 refine Ch.op rfl rfl (by decide) (Dq rfl (VL.le (vl rfl) (AV _))) ?_
 refine Ch.op rfl rfl (by decide) (Dq rfl (VL.le (vl rfl) (AV _))) ?_
 refine Ch.op rfl rfl (by decide) (BS rfl (vl rfl)) ?_
 refine Ch.nil ?_
 refine Fin.go ?_
 refine Tr.seq ?_
 refine Tr.Ai ?_
 refine Ch.op rfl rfl (by decide) (AM rfl Hh JV (vl rfl) rfl rfl) ?_
 refine Ch.op rfl rfl (by decide) (AM rfl Lf O9 (vl rfl) rfl rfl) ?_
 refine Ch.op rfl rfl (by decide) (BC rfl KH (vl rfl) rfl) ?_
 refine Ch.op rfl rfl (by decide) (BU rfl Qo (vl rfl)) ?_
 refine Ch.op rfl rfl (by decide) (Ag rfl (Od (e:=e) (c:=c) (l:=l) hf) ⟨⟨_,rfl,Pr.le_refl _⟩,⟨_,rfl,Pr.le_refl _⟩,⟨_,rfl,Pr.le_refl _⟩,trivial⟩) ?_
 refine Ch.op rfl rfl (by decide) (Aw rfl (vl rfl)) ?_
 refine Ch.op rfl rfl (by decide) (DK rfl (vl rfl) rfl) ?_
 refine Ch.op rfl rfl (by decide) (DK rfl (vl rfl) rfl) ?_
 refine Ch.op rfl rfl (by decide) (BS rfl (vl rfl)) ?_
 refine Ch.op rfl rfl (by decide) (BS rfl (vl rfl)) ?_
 refine Ch.nil ?_
 refine Fin.go ?_
 refine Tr.weak [(4,_),(5,_),(7,_),(8,_)] ⟨⟨_,rfl,Pr.le_refl _⟩,⟨_,rfl,Pr.le_refl _⟩,⟨_,rfl,Pr.le_refl _⟩,⟨_,rfl,Pr.le_refl _⟩,trivial⟩ ?_
 refine Tr.seq ?_
 refine Tr.seq ?_
 refine Tr.Ai ?_
 refine Ch.op rfl rfl (by decide) (Aw rfl (vl rfl)) ?_
 refine Ch.op rfl rfl (by decide) (ok_int rfl (vl rfl) (vl rfl) rfl) ?_
 refine Ch.nil ?_
 refine Fin.go ?_
 refine Tr.cond rfl (fun h1=> ?_) (fun h1=> ?_)
 ·
  have q1:=C5.Di h1
  have hb:C0 e c l≠0:=by simpa using h1
  refine Tr.seq ?_
  refine Tr.Ai ?_
  refine Ch.op rfl rfl (by decide) (Aw rfl (vl rfl)) ?_
  refine Ch.op rfl rfl (by decide) (BS rfl (vl rfl)) ?_
  refine Ch.nil ?_
  refine Fin.go ?_
  refine Tr.ret ?_
  refine Fin.AE ?_
  refine Fin.D7 rfl rfl ?_ (fun _ _ _ _=>rfl)
  · refine int_eq ?_;exact (jf hb).symm
 ·
  have q1:=C5.Di h1
  have hb:C0 e c l=0:=by simpa using h1
  refine Tr.re 7 rfl (Pr.le_of_eq (by rw [ZD hb])) ?_
  refine Tr.skip ?_
  refine Fin.go ?_
  refine Tr.seq ?_
  refine Tr.seq ?_
  refine Tr.Ai ?_
  refine Ch.op rfl rfl (by decide) (BC rfl Ew (vl rfl) rfl) ?_
  refine Ch.op rfl rfl (by decide) (BU rfl Ee (vl rfl)) ?_
  first
   |refine Ch.op rfl rfl (by decide) (B6 rfl Tryz.underlying22 (vl rfl)) ?_
   |refine Ch.op rfl rfl (by decide) (Br rfl Tryz.underlying22 (vl rfl)) ?_
  refine Ch.op rfl rfl (by decide) (BC rfl KH (vl rfl) rfl) ?_
  refine Ch.op rfl rfl (by decide) (BU rfl Qo (vl rfl)) ?_
  first
   |refine Ch.op rfl rfl (by decide) (B6 rfl Tryz.underlying37 (vl rfl)) ?_
   |refine Ch.op rfl rfl (by decide) (Br rfl Tryz.underlying37 (vl rfl)) ?_
  refine Ch.op rfl rfl (by decide) (ok_int rfl (vl rfl) (vl rfl) rfl) ?_
  refine Ch.nil ?_
  refine Fin.go ?_
  refine Tr.cond rfl (fun h2=> ?_) (fun h2=> ?_)
  ·
   have q2:=C5.Di h2
   have dz:d.length≠l.length:=by have:=q2;omega
   refine Tr.seq ?_
   refine Tr.Ai ?_
   refine Ch.op rfl rfl (by decide) (BS rfl (vl rfl)) ?_
   refine Ch.nil ?_
   refine Fin.go ?_
   refine Tr.weak [(6,_)] ⟨⟨_,rfl,Pr.le_refl _⟩,trivial⟩ ?_
   refine Tr.ret ?_
   refine Fin.AE ?_
   refine Fin.D7 rfl rfl ?_ (fun _ _ _ _=>rfl)
   · refine int_eq ?_;exact (cJ hb dz).symm
  ·
   have q2:=C5.Di h2
   have dz:d.length=l.length:=by have:=q2;omega
   refine Tr.skip ?_
   refine Fin.go ?_
   refine Tr.seq ?_
   refine Tr.seq ?_
   refine Tr.Az ?_
   refine TO.op rfl rfl (by decide) (BC rfl KH (vl rfl) rfl) ?_
   refine TO.op rfl rfl (by decide) (BU rfl Qo (vl rfl)) ?_
   first
    |refine TO.op rfl rfl (by decide) (B6 rfl Tryz.underlying37 (vl rfl)) ?_
    |refine TO.op rfl rfl (by decide) (Br rfl Tryz.underlying37 (vl rfl)) ?_
   refine TO.op rfl rfl (by decide) (BC rfl MV (vl rfl) rfl) ?_
   refine TO.op rfl rfl (by decide) (BU rfl Qp (vl rfl)) ?_
   refine TO.E8 0 rfl rfl (by decide) (AY rfl rfl (by decide) rfl (Vt (n:=((l.length:Nat):Int)) (l:=r)) ⟨⟨_,rfl,Pr.le_refl _⟩,⟨_,rfl,Pr.le_refl _⟩,trivial⟩) ?_
   refine TO.op rfl rfl (by decide) (BS rfl (vl rfl)) ?_
   refine TO.nil ?_
   refine Fin.go ?_
   refine Tr.weak [(4,_),(5,_),(7,_),(9,_)] ⟨⟨_,rfl,Pr.le_refl _⟩,⟨_,rfl,Pr.le_refl _⟩,⟨_,rfl,Pr.le_refl _⟩,⟨_,rfl,Pr.le_refl _⟩,trivial⟩ ?_
   refine Tr.seq ?_
   refine Tr.Ai ?_
   refine Ch.op rfl rfl (by decide) (Aw rfl (vl rfl)) ?_
   refine Ch.op rfl rfl (by decide) (ok_int rfl (vl rfl) (vl rfl) rfl) ?_
   refine Ch.nil ?_
   refine Fin.go ?_
   refine Tr.cond rfl (fun h3=> ?_) (fun h3=> ?_)
   ·
    have q3:=C5.Di h3
    have hv:Ar (l.length:Nat) r≠0:=by simpa using h3
    refine Tr.seq ?_
    refine Tr.Ai ?_
    refine Ch.op rfl rfl (by decide) (Aw rfl (vl rfl)) ?_
    refine Ch.op rfl rfl (by decide) (BS rfl (vl rfl)) ?_
    refine Ch.nil ?_
    refine Fin.go ?_
    refine Tr.ret ?_
    refine Fin.AE ?_
    refine Fin.D7 rfl rfl ?_ (fun _ _ _ _=>rfl)
    · refine int_eq ?_;exact (jg hb dz hv).symm
   ·
    have q3:=C5.Di h3
    have hv:Ar (l.length:Nat) r=0:=by simpa using h3
    refine Tr.skip ?_
    refine Fin.go ?_
    refine Tr.seq ?_
    refine Tr.seq ?_
    refine Tr.Ai ?_
    refine Ch.op rfl rfl (by decide) (BC rfl MV (vl rfl) rfl) ?_
    refine Ch.op rfl rfl (by decide) (BU rfl Qp (vl rfl)) ?_
    first
     |refine Ch.op rfl rfl (by decide) (B6 rfl Tryz.underlying39 (vl rfl)) ?_
     |refine Ch.op rfl rfl (by decide) (Br rfl Tryz.underlying39 (vl rfl)) ?_
    refine Ch.op rfl rfl (by decide) (Aw rfl (vl rfl)) ?_
    refine Ch.nil ?_
    refine Fin.go ?_
    refine Tr.block ?_
    refine Tr.BK [(4,_),(5,_),(7,_),(40,_),(41,_)] ⟨⟨_,rfl,Pr.le_refl _⟩,⟨_,rfl,Pr.le_refl _⟩,⟨_,rfl,Pr.le_refl _⟩,⟨_,rfl,Pr.le_refl _⟩,⟨_,rfl,Pr.le_refl _⟩,trivial⟩ (fun k:Nat=>[(42,int ((k:Nat):Int))]) (fun k:Nat=>k≤(r).length∧(∀j y,j<k→r[j]? =some y→Oj d y=false)) (fun k:Nat=>(r).length-k) 0 (⟨Nat.zero_le _,fun j y hj=>absurd hj (by omega)⟩) ⟨⟨_,rfl,Pr.le_refl _⟩,trivial⟩ ?_
    rintro k ⟨BO,AJ⟩
    refine Tr.seq ?_
    refine Tr.Ai ?_
    refine Ch.op rfl rfl (by decide) (ok_int rfl (vl rfl) (vl rfl) rfl) ?_
    refine Ch.nil ?_
    refine Fin.go ?_
    refine Tr.seq ?_
    refine Tr.cond rfl (fun h4=> ?_) (fun h4=> ?_)
    ·
     have q4:=C5.Di h4
     have Ad:k<(r).length:=AQ h4
     obtain ⟨q,Ac⟩:=at_ Ad
     have jh:=(Cy hv).2.1 q (List.mem_of_getElem? Ac)
     unfold Cv at jh
     rw [decide_eq_false_iff_not] at jh
     have Gj:=En (l:=d) (i:=q.fst.toNat) (by omega)
     have TH:=En (l:=d) (i:=q.thn.toNat) (by omega)
     refine Tr.skip ?_
     refine Fin.go ?_
     refine Tr.seq ?_
     refine Tr.block ?_
     refine Tr.seq ?_
     refine Tr.Az ?_
     refine TO.op rfl rfl (by decide) (AA rfl Tryz.underlying39 CT (vl rfl) (vl rfl) (by omega) (Ah Ac)) ?_
     refine TO.op rfl rfl (by decide) (AM rfl Gl CT (vl rfl) rfl rfl) ?_
     refine TO.alloc rfl rfl (by decide) rfl z49 MW (fun b1=> ?_)
     refine TO.At 0 rfl rfl rfl (vl rfl) (VL.le (vl rfl) (AV _)) rfl CT rfl rfl ?_
     refine TO.freeze 0 11 rfl rfl ?_
     refine TO.nil ?_
     refine Fin.go ?_
     refine Tr.seq ?_
     refine Tr.ZH mixed (by kernel_rfl) ?_
     refine Ch.op rfl rfl (by decide) (BC rfl Ew (vl rfl) rfl) ?_
     refine Ch.op rfl rfl (by decide) (BU rfl Ee (vl rfl)) ?_
     refine Ch.op rfl rfl (by decide) (BC rfl MX (vl rfl) rfl) ?_
     refine Ch.op rfl rfl (by decide) (BU rfl C6 (vl rfl)) ?_
     refine Ch.op rfl rfl (by decide) (AA rfl Tryz.underlying22 C8 (vl rfl) (vl rfl) (by omega) (Ck Gj)) ?_
     refine Ch.op rfl rfl (by decide) (BU rfl C6 (vl rfl)) ?_
     refine Ch.op rfl rfl (by decide) (BC rfl Ew (vl rfl) rfl) ?_
     refine Ch.op rfl rfl (by decide) (BU rfl Ee (vl rfl)) ?_
     refine Ch.op rfl rfl (by decide) (BC rfl MY (vl rfl) rfl) ?_
     refine Ch.op rfl rfl (by decide) (BU rfl C6 (vl rfl)) ?_
     refine Ch.op rfl rfl (by decide) (AA rfl Tryz.underlying22 C8 (vl rfl) (vl rfl) (by omega) (Ck TH)) ?_
     refine Ch.op rfl rfl (by decide) (BU rfl C6 (vl rfl)) ?_
     refine Ch.op rfl rfl (by decide) (ok_int rfl (vl rfl) (vl rfl) rfl) ?_
     refine Ch.nil ?_
     refine Fin.go ?_
     refine Tr.weak [(4,_),(5,_),(7,_),(40,_),(41,_),(42,_),(58,_)] ⟨⟨_,rfl,Pr.le_refl _⟩,⟨_,rfl,Pr.le_refl _⟩,⟨_,rfl,Pr.le_refl _⟩,⟨_,rfl,Pr.le_refl _⟩,⟨_,rfl,Pr.le_refl _⟩,⟨_,rfl,Pr.le_refl _⟩,⟨_,rfl,Pr.le_refl _⟩,trivial⟩ ?_
     refine Tr.cond rfl (fun h5=> ?_) (fun h5=> ?_)
     ·
      have q5:=C5.Di h5
      refine Tr.seq ?_
      refine Tr.Ai ?_
      refine Ch.op rfl rfl (by decide) (BS rfl (vl rfl)) ?_
      refine Ch.nil ?_
      refine Fin.go ?_
      refine Tr.ret ?_
      refine Fin.Ae ?_
      refine Fin.AE ?_
      refine Fin.AE ?_
      refine Fin.Ae ?_
      refine Fin.AE ?_
      refine Fin.D7 rfl rfl ?_ (fun _ _ _ _=>rfl)
      · refine int_eq ?_;exact (cL hb dz hv (List.any_eq_true.2 ⟨q,List.mem_of_getElem? Ac,by unfold Oj;assumption⟩)).symm
     ·
      have q5:=C5.Di h5
      refine Tr.skip ?_
      refine Fin.block ?_
      refine Fin.go ?_
      refine Tr.Ai ?_
      first
       |(refine Ch.op rfl rfl (by decide) (C4 rfl (vl rfl) (vl rfl) ?hin) ?_;case hin=>unfold HS;omega)
       |refine Ch.op rfl rfl (by decide) (ok_int rfl (vl rfl) (vl rfl) rfl) ?_
      refine Ch.op rfl rfl (by decide) (Aw rfl (vl rfl)) ?_
      refine Ch.nil ?_
      exact Fin.AP (k+1) ⟨⟨Ad,Cm (p:=Oj d) Ac (by unfold Oj;assumption) AJ⟩,by omega⟩ ⟨⟨_,rfl,AF k⟩,⟨_,rfl,Pr.le_refl _⟩,⟨_,rfl,Pr.le_refl _⟩,⟨_,rfl,Pr.le_refl _⟩,⟨_,rfl,Pr.le_refl _⟩,⟨_,rfl,Pr.le_refl _⟩,trivial⟩
    ·
     have q4:=C5.Di h4
     have BF:k=(r).length:=by have:=AR h4;omega
     subst BF
     refine Tr.exit ?_
     refine Fin.AU ?_
     refine Fin.AU ?_
     refine Fin.Am ?_
     refine Fin.go ?_
     refine Tr.seq ?_
     refine Tr.Ai ?_
     refine Ch.op rfl rfl (by decide) (AM rfl Lf O9 (vl rfl) rfl rfl) ?_
     refine Ch.op rfl rfl (by decide) (Aw rfl (vl rfl)) ?_
     refine Ch.op rfl rfl (by decide) (BC rfl Ew (vl rfl) rfl) ?_
     refine Ch.op rfl rfl (by decide) (BU rfl Ee (vl rfl)) ?_
     refine Ch.op rfl rfl (by decide) (Ag rfl (bJ (c:=c) (AW:=l.map (F2 c)) (days:=d)) ⟨⟨_,rfl,Pr.le_refl _⟩,⟨_,rfl,Pr.le_refl _⟩,⟨_,rfl,Pr.le_refl _⟩,trivial⟩) ?_
     refine Ch.op rfl rfl (by decide) (BS rfl (vl rfl)) ?_
     refine Ch.nil ?_
     refine Fin.go ?_
     refine Tr.ret ?_
     refine Fin.D7 rfl rfl ?_ (fun _ _ _ _=>rfl)
     ·
      refine int_eq ?_;exact (ZG hb dz hv (fun q hq=>by
      obtain ⟨j,hj⟩:=List.mem_iff_getElem?.1 hq
      exact AJ j q (BR hj) hj)).symm
theorem YM {b:Nat} {s:DS} {n:Nat} (hn:n≤24):A9 prog 11 [ptr b 0,int ((n:Nat):Int)] (Cp.ex fun r:List BG=>fact (E2 n r∧r.length≤2*n) (reqs r)) (Bx b s) (fun _=>FP 66 b):=by
 refine A9.of func11 rfl rfl (by exact Nb rfl) fun M0 w0 S rs M1 w1=> ?_
 have Qg:=s.Ba (n:=2*(n:Int)+1) (by omega)
 refine Tr.seq (Tr.Ai (cm rfl (Ch.nil (Fin.go (Tr.seq (Tr.Ai (cm rfl (Ch.nil (Fin.go (Tr.seq (Tr.seq (Tr.Az (tm rfl ?_)))))))))))))
 refine tm rfl ?_
 refine tp rfl (ZJ rfl (vl rfl) (vl rfl) ?hin) ?_;case hin=>unfold HS;omega
 refine tp rfl (C4 rfl (vl rfl) (vl rfl) ?hin) ?_;case hin=>unfold HS;omega
 refine TO.E8 0 rfl rfl (by decide) (AY rfl rfl (by decide) rfl (BJ (by omega) (by omega)) ⟨ke rfl,ke rfl,trivial⟩) (tm rfl (TO.nil (Fin.go (Tr.block ?_))))
 refine Tr.KD [(0,_),(1,_)] ⟨ke rfl,ke rfl,trivial⟩ (fun (r:List BG) (k:Int) (s2:DS)=>[(6,int k),(5,reqs r)]) (fun (r:List BG) (k:Int) (s2:DS)=>Hp M0 w0 S (Bx b s2::AX M1 w1::rs)) (fun (r:List BG) (k:Int) (s2:DS)=>0≤k∧E2 n r∧(r.length:Int)+k≤2*n) (fun (r:List BG) (k:Int) (s2:DS)=>k.toNat) ([]) (s.val (2*(n:Int)+1)) (_)  (⟨by omega,E2.nil n,by simp;omega⟩) ⟨ke rfl,⟨_,rfl,AL 2⟩,trivial⟩ (fun _ _ h=>h) ?_
 rintro r k s2  ⟨hk0,hN,hrl⟩
 refine Tr.seq (Tr.seq (Tr.Ai (cm rfl (co rfl (ki rfl rfl rfl rfl) (cm rfl ?_)))))
 refine Ch.cs 16 rfl ?_ ?_<;>intro h1 q1
 have hkp:k>0:=by simpa using h1
 refine Lb h1 rfl (cy h1 rfl (ki rfl rfl rfl rfl) (co rfl (Qj rfl rfl h1 rfl) (Ch.nil (Fin.go ?_))))
 refine Tr.cn rfl ?_ ?_<;>intro h2 q2
 have hn1:((n:Nat):Int)>1:=by simpa using h2
 have XV:=s2.Ba (n:=(n:Int)) (by omega)
 have S0:=s2.BN.Ba (n:=(n:Int)) (by omega)
 refine Tr.skip (Fin.go (Tr.seq (Tr.block (Tr.seq (Tr.Az (tm rfl (tm rfl (TO.E8 0 rfl rfl (by decide) (AY rfl rfl (by decide) rfl (BJ (by omega) (by omega)) ⟨ke rfl,ke rfl,trivial⟩) (tm rfl (tm rfl (TO.E8 0 rfl rfl (by decide) (AY rfl rfl (by decide) rfl (BJ (by omega) (by omega)) ⟨ke rfl,ke rfl,trivial⟩) (tm rfl (tm rfl ?_)))))))))))))
 refine TO.nil (Fin.go (O7 0 1 5 6 7 8 rfl (Tr.seq (Tr.Ai (cm rfl (cm rfl (co rfl (ki rfl rfl rfl rfl) (Ch.nil (Fin.go ?_)))))))))
 refine Tr.cn rfl ?_ ?_<;>intro h3 q3
 refine Tr.Ai (cm rfl (cm rfl (cm rfl (co rfl (Ab (rows:=[(0,[_]),(1,[_])]) rfl mI MW ⟨⟨rfl,(Vo rfl)⟩,⟨⟨rfl,(Vo rfl)⟩,trivial⟩⟩ rfl) (co rfl (AG (xs:=[.tmp 34]) (rows:=[_]) rfl rfl underlying39 CT z49 rfl (by decide) ⟨⟨(by exact rfl),(Va rfl)⟩,trivial⟩ (by decide)) ?_)))))
 refine co rfl (Ag rfl (Pz (a:=r) (b:=[⟨s2.val n,s2.BN.val n⟩]) (by omega) (by simp)) ⟨ke rfl,(Kf rfl),trivial⟩) ?_
 refine cm rfl (Ch.nil (Fin.block (Fin.go (FO 0 1 5 6 rfl (Tr.Ai (cm rfl (cW rfl rfl rfl rfl (by omega) (cm rfl (Ch.nil ?_)))))))))
 exact Fin.D4 (K8 r [⟨s2.val n,s2.BN.val n⟩]) (k-1) (_)  (⟨⟨by omega,hN.put (by omega) (by simpa using h3) (by omega),by have:=QO r ⟨s2.val n,s2.BN.val n⟩;omega⟩,by omega⟩) ⟨ke rfl,ke rfl,ke rfl,ke rfl,trivial⟩ (fun _ _ h=>h)
 refine Tr.skip (Fin.block (Fin.go (Tr.Ai (cm rfl (cW rfl rfl rfl rfl (by omega) (cm rfl (Ch.nil (Fin.D4 (r) (k-1) (_)  (⟨⟨by omega,hN,by omega⟩,by omega⟩) ⟨ke rfl,ke rfl,ke rfl,ke rfl,trivial⟩ (fun _ _ h=>h)))))))))
 have:=h2
 refine Tr.exit (Fin.AU (Fin.AU (Fin.Am (Fin.go (Tr.seq (Tr.Ai (cm rfl (cm rfl (Ch.nil (Fin.go (Tr.ret (Fin.Ev 0 _ rfl rfl (Fin.ED [] rfl (BE.tmp rfl (Lr)) ?_ (fun _ _ _ _=>rfl))))))))))))))
 · exact BW r (CS ⟨hN,by omega⟩ (Lr))
 refine cnt h1 rfl (cnt h1 rfl (co rfl (ND rfl rfl h1 rfl) (Ch.nil (Fin.go (Tr.cond rfl (fun h=>nomatch h) (fun _=> ?_))))))
 refine Tr.exit (Fin.AU (Fin.AU (Fin.Am (Fin.go (Tr.seq (Tr.Ai (cm rfl (cm rfl (Ch.nil (Fin.go (Tr.ret (Fin.Ev 0 _ rfl rfl (Fin.ED [] rfl (BE.tmp rfl (Lr)) ?_ (fun _ _ _ _=>rfl))))))))))))))
 · exact BW r (CS ⟨hN,by omega⟩ (Lr))
theorem Sz {a b:List BG}  :A7 prog 14 [reqs a,reqs b] (bool (decide (a=b))):=by
 refine fo func14 rfl ⟨rfl,rfl⟩ fun M0 w0=>(Tr.EF 0 rfl fun Fp=>(Tr.EF 1 rfl fun Ns=> ?_))
 refine ac ?_
 refine an ?_ ?_<;>intro h1 q1
 refine a2 ?_
 · refine bool_eq ?_;symm;rw [decide_eq_false_iff_not];intro h_;subst h_;omega
 refine a2 ?_
 refine Tr.block (Tr.BK [(0,_),(1,_),(12,_)] (LK rfl) (fun k:Nat=>[(13,int ((k:Nat):Int))]) (fun k:Nat=>k≤(a).length∧(∀j,j<k→a[j]? =b[j]?)) (fun k:Nat=>(a).length-k) 0 (⟨Nat.zero_le _,fun j hj=>absurd hj (by omega)⟩) ⟨ke rfl,trivial⟩ ?_)
 rintro k ⟨BO,AJ⟩
 refine ac ?_
 refine Tr.seq ?_
 refine Tr.cn rfl ?_ ?_<;>intro h2 q2
 have Ad:k<(a).length:=AQ h2
 obtain ⟨x,Ac⟩:=at_ Ad
 obtain ⟨y,hy⟩:=at_ (l:=b) (k:=k) (by omega)
 · repeat' first|(refine bool_eq ?_;symm;rw [decide_eq_false_iff_not];intro h_;subst h_;rw [Ac] at hy;cases hy;simp_all)|(exact Fin.AP (k+1) ⟨⟨Ad,Sy Ac (by rw [hy];congr 1;cases x;cases y;simp_all) AJ⟩,by omega⟩ ⟨⟨_,rfl,AF k⟩,ke rfl,ke rfl,ke rfl,trivial⟩)|refine co rfl (AA rfl underlying39 CT (vl rfl) (vl rfl) (by omega) (Ah Ac)) ?_|refine co rfl (AA rfl underlying39 CT (vl rfl) (vl rfl) (by omega) (Ah hy)) (co rfl (AM rfl Gl CT (vl rfl) rfl rfl) (co rfl (X0 rfl (vl rfl) (vl rfl)) ?_))|refine ac ?_|(refine Tr.cn rfl ?_ ?_<;>intro h q)
 have BF:k=(a).length:=by have:=AR h2;omega
 subst BF
 refine a3 ?_
 · refine bool_eq ?_;symm;rw [decide_eq_true_eq];exact V3 (by omega) AJ
theorem QS   :A7 prog 6 [] (bool true):=by
 refine fo func6 rfl ⟨rfl,rfl⟩ fun M0 w0=> ?_
 · repeat' first|exact bool_eq (by decide)|exact absurd h (by decide)|refine co rfl (Ag rfl (Rf (l:=[])) ⟨⟨_,rfl,A_ (ps:=[is (.slice none 0 0),is (.slice none 0 0),is (.slice none 0 0)]) ⟨Lr,Lr,AL 1,trivial⟩⟩,trivial⟩) ?_|refine cy h rfl (OP (m:=2) rfl underlying37 Dg PB Om rfl (by decide) (by decide) ⟨_,rfl,int_eq rfl⟩ ⟨_,rfl,int_eq rfl⟩ (by decide) (by decide)) ?_|refine cy h rfl (oI) ?_|refine cy h rfl (Ab (rows:=[(0,[_]),(2,[_])]) rfl Tg LM ⟨⟨rfl,(Vo rfl)⟩,⟨⟨rfl,⟨_,rfl,Pr.le_trans (Al _ _) (AD _)⟩⟩,trivial⟩⟩ rfl) ?_|refine cy h rfl (Ca (Rf (l:=[3,1])) rfl rfl) ?_|refine ac ?_|(refine Ch.cg rfl rfl rfl ?_ ?_<;>intro h q)
theorem YN {e:IL} {c:Ao} {l:List Cb} (he:L4 e) (hc:Mz c e.EK.length) (hl:bF e.EK l):C0 e c l=0:=by
 have Ko:=hl.len
 unfold C0
 rw [if_neg (by rw [he.ok];decide),if_neg]
 ·
  refine M9 (by omega) fun j y _ hy=> ?_
  have:=hl.any y (List.mem_of_getElem? hy)
  have h1:=this.lo
  have h2:=this.hi
  have h3:=hc.FF
  unfold IG
  rw [Bool.or_eq_false_iff,decide_eq_false_iff_not,decide_eq_false_iff_not]
  omega
 ·
  refine not_not_intro ?_
  have h3:=hc.FF
  have h4:=hc.own
  unfold Ao.own at h4
  rw [h3] at h4;exact h4
theorem YO {e:IL} {c:Ao} {l:List Cb} {r:List BG} {fr:Int} (hb:C0 e c l=0) (hv:Ar (l.length:Nat) r=0) (h:EY e c l r fr≠0):EY e c l r fr=51:=by
 cases hs:IJ c l r fr with
 |none=>exact LD hb hv hs
 |some p=>exact absurd (V2 hb hv hs) h
theorem Jb {t:List Int} {f:Int} (hf:0≤f∧f<256):A9 prog 3 [ints t,is (.int .u8 f)] (bool true) (Dh) (fun _=>Dh):=by
 refine A9.of func3 rfl rfl (by exact Nb rfl) fun M0 w0 S rs M1 w1=> ?_
 have hft:0≤f.tmod 20∧f.tmod 20<20:=by rw [Int.tmod_eq_emod_of_nonneg hf.1];omega
 refine Tr.seq (Tr.Ai (cm rfl (Ch.nil (Fin.go (Tr.seq (Tr.seq (Tr.Ai (cm rfl (co rfl (Ag rfl (XQ) ⟨ke rfl,trivial⟩) (co rfl (ML rfl (vl rfl)) (Ch.nil (Fin.go ?_))))))))))))
 refine Tr.cn rfl ?_ ?_<;>intro h1 q1
 refine Tr.seq (Tr.Ai (co rfl (Ag rfl (QS) trivial) (cm rfl (Ch.nil (Fin.go (Tr.ret (Fin.AE (Fin.D7 rfl rfl ?_ (fun _ _ _ _=>rfl)))))))))
 · exact Lr
 have ht4:t.length≤400:=by simpa using h1
 have ht9:t.length≤1000000000:=by omega
 refine Tr.skip (Fin.go (Tr.seq (Tr.Az (tm rfl (TO.pad ?_)))))
 refine TO.Es 0 rfl rfl (by decide) (GS rfl rfl (by decide) rfl (aY (l:=t) ht9) ⟨ke rfl,trivial⟩) (fun v1=> ?_)
 refine TO.Rt 21 0 _ rfl rfl (fun _=>rfl) (fun b1=> ?_)
 refine tm rfl (TO.nil (Fin.go (Tr.seq (Tr.Az (tm rfl (TO.E8 0 rfl rfl (by decide) (AY rfl rfl (by decide) rfl (Uu) ⟨ke rfl,trivial⟩) ?_))))))
 refine TO.ex 23 rfl (fun z1=>TO.fact 23 rfl fun Gj=> ?_)
 have hn2:=Gj.n2
 have hn3:=Gj.n3
 refine Tl rfl rfl rfl rfl z31 ZZ (fun b2=> ?_)
 refine TO.At 0 rfl rfl rfl (vl rfl) (Va rfl) rfl JV rfl rfl (TO.freeze 0 6 rfl rfl (TO.nil (Fin.Le 0 rfl (fun s1=> ?_))))
 refine Fin.go (Tr.seq (Tr.Az (tm rfl (tp rfl (NN rfl G4 rfl rfl) (tp rfl (G0 rfl NX rfl) (tp rfl (B6 rfl underlying27 (vl rfl)) ?_))))))
 refine TO.E8 0 rfl rfl (by decide) (AY rfl rfl (by decide) rfl (Pu (n:=z1.EK.length) (by omega)) ⟨ke rfl,ke rfl,trivial⟩) ?_
 refine TO.ex 28 rfl (fun z2=>TO.fact 28 rfl fun TH=> ?_)
 refine Tl rfl rfl rfl rfl z35 Wb (fun b3=> ?_)
 refine TO.At 0 rfl rfl rfl (vl rfl) (Va rfl) rfl O9 rfl rfl (TO.freeze 0 7 rfl rfl (TO.nil (Fin.Le 0 rfl (fun s2=> ?_))))
 refine Fin.go (FO 1 5 6 7 rfl (Tr.seq (Tr.Az (tm rfl (tp rfl (AM rfl Hh JV (vl rfl) rfl rfl) (TO.E8 0 rfl rfl (by decide) (AY rfl rfl (by decide) rfl (Xo Gj.snd ⟨by omega,by omega⟩) ⟨ke rfl,ke rfl,trivial⟩) ?_))))))
 refine TO.ex 31 rfl (fun z3=>TO.fact 31 rfl fun hz3=> ?_)
 have h7:=hz3.len
 refine tm rfl (TO.nil (Fin.Le 0 rfl (fun s3=> ?_)))
 refine Fin.go (Tr.seq (Tr.Az (tm rfl (tm rfl (tp rfl (B6 rfl underlying37 (vl rfl)) ?_)))))
 refine TO.E8 0 rfl rfl (by decide) (AY rfl rfl (by decide) rfl (YM (n:=z3.length) (by omega)) ⟨ke rfl,ke rfl,trivial⟩) ?_
 refine TO.ex 35 rfl (fun z4=>TO.fact 35 rfl fun hz4=> ?_)
 have hb:=YN Gj TH hz3
 have hv:Ar (z3.length:Nat) z4=0:=hz4.1.valid (by omega)
 refine tm rfl (TO.nil (Fin.Le 0 rfl (fun s4=> ?_)))
 refine Fin.go (Tr.seq (Tr.Az (tp rfl (AM rfl Hh JV (vl rfl) rfl rfl) (tp rfl (AM rfl Lf O9 (vl rfl) rfl rfl) (tm rfl (tm rfl (tm rfl (tp rfl (IX rfl (vl rfl) (vl rfl) (by omega)) ?_))))))))
 refine tp rfl (J8 rfl underlying5 underlying3 (vl rfl) (by unfold HS;omega)) ?_
 refine TO.E8 1 rfl rfl (by decide) (AY rfl rfl (by decide) rfl (Oi (e:=z1) (c:=z2) (l:=z3) (r:=z4) (fr:=f.tmod 20) Gj.fits (fun x hx=>(hz3.any x hx).small) (by have:=hz4.2;omega)) ⟨ke rfl,ke rfl,ke rfl,ke rfl,ke rfl,trivial⟩) ?_
 refine tm rfl (tp rfl (DK rfl (vl rfl) rfl) (tp rfl (DK rfl (vl rfl) rfl) ?_))
 refine Tl rfl rfl rfl rfl z42 LM (fun b4=> ?_)
 refine TO.At 0 rfl rfl rfl (vl rfl) (Va rfl) rfl F6 rfl rfl (TO.freeze 0 10 rfl rfl (tm rfl (TO.nil (Fin.go (S1 1 6 7 8 9 10 11 rfl (Tr.seq (Tr.seq (Tr.Ai (cm rfl (co rfl (ki rfl rfl rfl rfl) (Ch.nil (Fin.go ?_))))))))))))
 refine Tr.cn rfl ?_ ?_<;>intro h2 q2
 have he:EY z1 z2 z3 z4 (f.tmod 20)=51:=YO hb hv (by simpa using h2)
 obtain ⟨h1_,h2_,lR⟩:=Og (e:=z1) (c:=z2) (l:=z3) (r:=z4) (fr:=f.tmod 20) (by rw [he];decide)
 refine Tr.re 11 rfl (int_eq he) (Tr.re 10 rfl (Pr.le_of_eq (show ref [Gh (QL z1 z2 z3 z4 (f.tmod 20)),reqs (QM z1 z2 z3 z4 (f.tmod 20)),ints (QN z1 z2 z3 z4 (f.tmod 20))]=ref [Gh [],reqs [],ints []] by rw [h1_,h2_,lR])) (Tr.seq (Tr.Ai (cm rfl (co rfl (ki rfl rfl rfl rfl) (cm rfl ?_))))))
 refine Ch.cs 51 rfl ?_ ?_<;>intro h3 q3
 refine cy h3 rfl (NN rfl Ew rfl rfl) (cy h3 rfl (G0 rfl Ee rfl) (cy h3 rfl (B6 rfl underlying22 (vl rfl)) (cy h3 rfl (ki rfl rfl rfl rfl) (co rfl (Qj rfl rfl h3 rfl) (cm rfl ?_)))))
 refine Ch.cs 57 rfl ?_ ?_<;>intro h4 q4
 refine cy h4 rfl (Ag rfl (QS) trivial) (co rfl (Qj rfl rfl h4 rfl) (cm rfl (Ch.nil (Fin.go (Fl 4 rfl (Tr.ret (Fin.AE (Fin.drop 0 (Fin.D7 rfl rfl ?_ (fun _ _ _ _=>rfl))))))))))
 · exact Lr
 exact absurd h4 (by decide)
 exact absurd h3 (by decide)
 have he:EY z1 z2 z3 z4 (f.tmod 20)=0:=by simpa using h2
 obtain ⟨h1_,h2_,lR⟩:=Oh he
 obtain ⟨hok,dx⟩:=Sx he
 obtain ⟨D,hD⟩:∃D,Oe z2 z3 z4 (f.tmod 20)=D:=⟨_,rfl⟩
 rw [hD] at hok dx lR
 have hDl:=hok.len
 refine Tr.re 10 rfl (Pr.le_of_eq (show ref [Gh (QL z1 z2 z3 z4 (f.tmod 20)),reqs (QM z1 z2 z3 z4 (f.tmod 20)),ints (QN z1 z2 z3 z4 (f.tmod 20))]=ref [Gh z3,reqs z4,ints D] by rw [h1_,h2_,lR])) (Tr.skip (Fin.go (Tr.seq (Tr.seq (Tr.Az (tp rfl (AM rfl Hh JV (vl rfl) rfl rfl) (tp rfl (AM rfl Lf O9 (vl rfl) rfl rfl) (tp rfl (AM rfl JG F6 (vl rfl) rfl rfl) ?_))))))))
 refine TO.E8 1 rfl rfl (by decide) (AY rfl rfl (by decide) rfl (V4 (e:=z1) (c:=z2) (l:=z3) (r:=z4) (d:=D) Gj.fits) ⟨ke rfl,ke rfl,ke rfl,trivial⟩) ?_
 refine tp rfl (ki rfl rfl rfl rfl) (tm rfl ?_)
 refine TO.cases 65 rfl (fun h5=> ?_) (fun h5=> ?_)
 have q5:=C5.Di h5
 exact absurd h5 (by rw [dx];decide)
 have q5:=C5.Di h5
 refine TO.LG rfl rfl rfl h5 rfl (by decide) (NN rfl Ew rfl rfl) (TO.LG rfl rfl rfl h5 rfl (by decide) (G0 rfl Ee rfl) (TO.LG rfl rfl rfl h5 rfl (by decide) (B6 rfl underlying22 (vl rfl)) (TO.LG rfl rfl rfl h5 rfl (by decide) (Aw rfl (vl rfl)) (TO.LG rfl rfl rfl h5 rfl (by decide) (B6 rfl underlying37 (vl rfl)) (TO.LG rfl rfl rfl h5 rfl (by decide) (ki rfl rfl rfl rfl) (tp rfl (ND rfl rfl h5 rfl) (tm rfl ?_)))))))
 refine TO.cases 73 rfl (fun h6=> ?_) (fun h6=> ?_)
 have q6:=C5.Di h6
 exfalso;have:=q6;omega
 have q6:=C5.Di h6
 refine TO.LG rfl rfl rfl h6 rfl (by decide) (NN rfl MV rfl rfl) (TO.LG rfl rfl rfl h6 rfl (by decide) (G0 rfl Qp rfl) (TO.LG rfl rfl rfl h6 rfl (by decide) (Aw rfl (vl rfl)) ?_))
 refine TO.LG rfl rfl rfl h6 rfl (by decide) (Ag rfl (Sz (a:=z4) (b:=z4)) ⟨ke rfl,ke rfl,trivial⟩) ?_
 refine TO.LG rfl rfl rfl h6 rfl (by decide) (ML rfl (vl rfl)) (tp rfl (ND rfl rfl h6 rfl) (TO.nil (Fin.go (FO 1 9 10 79 rfl ?_))))
 refine Tr.cn rfl ?_ ?_<;>intro h7 q7
 exact absurd h7 (by simp)
 refine Tr.skip (Fin.go (Tr.seq (Tr.seq (Tr.Ai (co rfl (NN rfl Ew rfl rfl) (co rfl (G0 rfl Ee rfl) (co rfl (B6 rfl underlying22 (vl rfl)) (cm rfl (Ch.nil (Fin.go (Tr.block (Tr.BK [(1,_),(9,_),(10,_),(81,_),(82,_)] (l_ rfl) (fun k:Nat=>[(83,int ((k:Nat):Int))]) (fun k:Nat=>k≤(D).length) (fun k:Nat=>(D).length-k) 0 (Nat.zero_le _) ⟨ke rfl,trivial⟩ ?_))))))))))))
 rintro k BO
 refine Tr.seq (Tr.Ai (co rfl (ki rfl rfl rfl rfl) (Ch.nil (Fin.go (Tr.seq ?_)))))
 refine Tr.cn rfl ?_ ?_<;>intro h8 q8
 have Ad:k<(D).length:=AQ h8
 obtain ⟨x,Ac⟩:=at_ Ad
 refine Tr.skip (Fin.go (Tr.seq (Tr.block (Tr.seq (Tr.Ai (co rfl (AA rfl underlying22 C8 (vl rfl) (vl rfl) (by omega) (Ah Ac)) (co rfl (G0 rfl C6 rfl) (cm rfl (Ch.nil (Fin.go (Tr.seq (Tr.Ai (cm rfl ?_)))))))))))))
 refine cm rfl (co rfl (IX rfl (vl rfl) (vl rfl) (by omega)) ?_)
 refine co rfl (J8 rfl underlying5 underlying3 (vl rfl) (by unfold HS;omega)) ?_
 refine co rfl (ki rfl rfl rfl rfl) (Ch.nil (Fin.go (S1 1 9 10 81 82 83 91 rfl ?_)))
 refine Tr.cn rfl ?_ ?_<;>intro h9 q9
 exfalso;have:=hok.ge x (List.mem_of_getElem? Ac);have:=q9;omega
 refine Tr.skip (Fin.block (Fin.go (Tr.Ai (O5 rfl rfl rfl rfl (by omega) (cm rfl (Ch.nil (Fin.AP (k+1) ⟨Ad,by omega⟩ ⟨⟨_,rfl,AF k⟩,ke rfl,ke rfl,ke rfl,ke rfl,ke rfl,trivial⟩)))))))
 have BF:k=(D).length:=by have:=AR h8;omega
 refine Tr.exit (Fin.AU (Fin.AU (Fin.Am (Fin.go (Tr.seq (Tr.seq (Tr.Ai (cm rfl (co rfl (B6 rfl underlying39 (vl rfl)) (cm rfl (Ch.nil (Fin.go (Tr.block (Tr.BK [(10,_),(93,_),(94,_)] (LK rfl) (fun m:Nat=>[(95,int ((m:Nat):Int))]) (fun m:Nat=>m≤(z4).length) (fun m:Nat=>(z4).length-m) 0 (Nat.zero_le _) ⟨ke rfl,trivial⟩ ?_))))))))))))))
 rintro m U_
 refine Tr.seq (Tr.Ai (co rfl (ki rfl rfl rfl rfl) (Ch.nil (Fin.go (Tr.seq ?_)))))
 refine Tr.cn rfl ?_ ?_<;>intro h10 S6
 have JZ:m<(z4).length:=AQ h10
 obtain ⟨q,HJ⟩:=at_ JZ
 have jh:=(Cy hv).2.1 q (List.mem_of_getElem? HJ)
 unfold Cv at jh
 rw [decide_eq_false_iff_not] at jh
 have hz5:=En (l:=D) (i:=q.fst.toNat) (by omega)
 have hz6:=En (l:=D) (i:=q.thn.toNat) (by omega)
 refine Tr.skip (Fin.go (Tr.seq (Tr.block (Tr.seq (Tr.Az (tp rfl (AA rfl underlying39 CT (vl rfl) (vl rfl) (by omega) (Ah HJ)) (tp rfl (AM rfl Gl CT (vl rfl) rfl rfl) ?_)))))))
 refine Tl rfl rfl rfl rfl z49 MW (fun b5=> ?_)
 refine TO.At 0 rfl rfl rfl (vl rfl) (Va rfl) rfl CT rfl rfl (TO.freeze 0 15 rfl rfl (TO.nil (Fin.go (Tr.seq (Tr.ZH mixed (by kernel_rfl) (co rfl (NN rfl Ew rfl rfl) (co rfl (G0 rfl Ee rfl) (co rfl (NN rfl MX rfl rfl) (co rfl (G0 rfl C6 rfl) (co rfl (AA rfl underlying22 C8 (vl rfl) (vl rfl) (by omega) (Ck hz5)) (co rfl (G0 rfl C6 rfl) (co rfl (NN rfl Ew rfl rfl) (co rfl (G0 rfl Ee rfl) ?_)))))))))))))
 refine co rfl (NN rfl MY rfl rfl) (co rfl (G0 rfl C6 rfl) (co rfl (AA rfl underlying22 C8 (vl rfl) (vl rfl) (by omega) (Ck hz6)) (co rfl (G0 rfl C6 rfl) (co rfl (ki rfl rfl rfl rfl) (Ch.nil (Fin.go (JD 10 93 94 95 111 rfl ?_)))))))
 refine Tr.cn rfl ?_ ?_<;>intro h11 WB
 exfalso;have:=hok.ord q (List.mem_of_getElem? HJ);have:=WB;omega
 refine Tr.skip (Fin.block (Fin.go (Tr.Ai (O5 rfl rfl rfl rfl (by omega) (cm rfl (Ch.nil (Fin.AP (m+1) ⟨JZ,by omega⟩ ⟨⟨_,rfl,AF m⟩,ke rfl,ke rfl,ke rfl,trivial⟩)))))))
 have Sc:m=(z4).length:=by have:=AR h10;omega
 refine Tr.exit (Fin.AU (Fin.AU (Fin.Am (Fin.go (Tr.seq (Tr.Ai (co rfl (Ag rfl (QS) trivial) (cm rfl (Ch.nil (Fin.go (Tr.ret (Fin.drop 0 (Fin.D7 rfl rfl ?_ (fun _ _ _ _=>rfl))))))))))))))
 · exact Lr
end Go.Proofs.YtppdobdifkefcaaGreatDoor
namespace Cp
open Go Go.RowKit Go.Great
section
variable {P:Program}
theorem A9.YP {f:FuncId} {args:List Pr} {res:Pr} {r:Aa} (h:A9 P f args res r (fun _=>r)) (hb:r.blk=none) (W:World) (vs:List Value) (hr:r.h V8 W) (hv:HL V8 W args vs):
  Calls P f vs.toArray W fun e w'=>∃v,e= .returned v∧res.h V8 w' v∧Below W.heap.size W w':=by
 refine (h.2 V8 W Ot [] V8 W vs ((An.begin (ZW W)).Gz (r:=r) hb hr) hv).mono ?_
 rintro e w' ⟨v,M',rfl,h2,h3,h4⟩
 exact ⟨v,rfl,res.st _ _ _ _ _ (Ext.less h4.m) h2,h4.below⟩
end
end Cp
namespace Go.Proofs.YtppdobdifkefcaaGreatDoor
open Go Go.RowKit Cp Go.ChangeShapes Go.WideShapes Go.ChangeAt Go.Proofs.Tryz
theorem pV : Tryz.prog.globalNamed "math/bits.deBruijn32tab" = some 0 := by kernel_rfl
theorem pW:(Tryz.prog.globals[0]?).map (·.type)=some 151:=by kernel_rfl
theorem V5 (os : Os) (args : Array Value) : laidMetH Tryz.prog [("math/bits.deBruijn32tab", Rows.laid_math_bits_deBruijn32tab)] ((World.doorLaid Tryz.prog 14 os).forCall (fun _ _ => 0) ⟨#[], args, []⟩).memory :=
 laidMetH_of_parts3 (fuel:=33) (laidMet_of_run' 33 (by kernel_rfl) (by kernel_rfl)) (by kernel_rfl) (by kernel_rfl)
theorem cM {W : World} (h : laidMetH Tryz.prog [("math/bits.deBruijn32tab", Rows.laid_math_bits_deBruijn32tab)] W) : Dh.h V8 W := by
 rw [MakeChecks.laidMetH_plain _ _ _ (by kernel_rfl)] at h
 obtain ⟨ps,⟨g0,t0,cs0,f0,p0,q0,av,ht0,Qg,hd0,_⟩,_⟩:=h
 obtain rfl:=Option.some.inj (pV.symm.trans av)
 obtain rfl:=Option.some.inj (pW.symm.trans ht0)
 obtain ⟨xs,m,rfl,hx,hlen,hn,hel⟩:=DataW.trod_array Tryz.underlying151 hd0
 have c1:Tryz.prog.cellsOf 5=1:=by kernel_rfl
 have hx1:Rows.laid_math_bits_deBruijn32tab=DataW.agg (xs.map (·.1)):=(Prod.mk.inj hx).1
 have hx2:xs.map (·.1)=OV.map fun n:Nat=>DataW.lit (.int .u8 (n:Int)):=by
  have h3:(Rows.laid_math_bits_deBruijn32tab:DataW Unit)=DataW.agg (OV.map fun n:Nat=>DataW.lit (.int .u8 (n:Int))):=rfl
  exact (DataW.agg.inj (hx1.symm.trans h3))
 intro j n hj
 refine ⟨?_,fun h=>h⟩
 have pX:j<32:=by
  rcases Nat.lt_or_ge j 32 with h|h
  · exact h
  · rw [List.getElem?_eq_none h] at hj;cases hj
 have h4:=hel j pX
 rw [c1,Nat.mul_one] at h4
 obtain ⟨y,hy⟩:=at_ (l:=xs) (k:=j) (by omega)
 rw [hy] at h4
 obtain ⟨k,e1,e2,_⟩:=DataW.trod_int Tryz.underlying5 h4
 have h5:(xs.map (·.1))[j]? =some (DataW.lit (.int .u8 (n:Int))):=by rw [hx2,List.getElem?_map,hj];rfl
 rw [List.getElem?_map,hy] at h5
 have hk:k=(n:Int):=by
  have h6:y.1=DataW.lit (.int .u8 (n:Int)):=Option.some.inj h5
  rw [e2] at h6
  simpa using h6
 have h7:=World.var?_cell av Qg j
 have h8:cs0.toList[j]? =some (.int .u8 k):=by
  have h9:=congrArg (fun l:List Value=>l[0]?) e1
  simpa using h9
 rw [hk] at h8
 have h10:cs0[j]? =some (.int .u8 (n:Int)):=by rw [←Array.getElem?_toList];exact h8
 rw [h10] at h7
 exact h7
theorem GM (os:Os) (started:os.Started) (H:Type) (enc:TypeId×Value→H):
  ReturnsInHanded {} Tryz.checked os 3 .any (fun w args => (Rows.planSchedulesSpec.pre enc Tryz.prog Tryz.f3 [] false w args ∧ laidMetH Tryz.prog [("math/bits.deBruijn32tab", Rows.laid_math_bits_deBruijn32tab)] w) ∧ sizedMet enc Tryz.prog Tryz.f3 (OpenSpec.ofChange Rows.planSchedulesSpec) false w args) (Rows.planSchedulesSpec.post enc Tryz.prog Tryz.f3 false true false false) := by
 refine returnsInHanded_of_change_and (C := Tryz.checked) (X := fun w _ => laidMetH Tryz.prog [("math/bits.deBruijn32tab", Rows.laid_math_bits_deBruijn32tab)] w) (fun _ _ _ hh h => h.of_heap hh) oQ started (by kernel_rfl) Tryz.func3
  (ChangeSpec.witness_shaped (enc := enc) (C := Tryz.checked) (os := os) (X := fun w _ => laidMetH Tryz.prog [("math/bits.deBruijn32tab", Rows.laid_math_bits_deBruijn32tab)] w) false (World.doorLaid Tryz.prog 14 os) #[.slice none 0 0, .int .u8 0] 8 rfl (World.shaped_of_RefB (by kernel_rfl) (by kernel_rfl)) (by kernel_rfl) (by kernel_rfl) (by kernel_rfl) (V5 os _)) ?_
 intro W base args ds gs before ji hW qq _ hL _
 have hval:∀(j:Nat) t v,Tryz.f3.params[j]? =some t→args[j]? =some v→Value.okWide Tryz.prog W .any base t v:=ji
 have hW':=hW
 obtain ⟨p,q,hA0,hV,hpq,hfz,hnd⟩:=hW
 have hA:DataW.TrodAll enc Tryz.prog W 0 (fun _=>true) true Tryz.f3.params.toList args.toList ds p:=hA0
 have V7:=hA
 rw [Tryz.params3] at hA hval
 obtain ⟨v0,v1,d0,d1,p0,p1,rfl,rfl,hp,h0,h1⟩:=trodAll_two V7
 obtain ⟨rfl,rfl⟩:=trodVars_none hV
 obtain ⟨a0,_,e0⟩:=Qk (PL Tryz.underlying22 Tryz.underlying3 (by kernel_rfl)) h0 (by obtain ⟨_,_,_,rfl⟩:=okWide_slice Tryz.underlying22 (hval 0 22 v0 rfl rfl);rfl)
 obtain ⟨a1,hf,e1⟩:=Qk (Ld Tryz.underlying5) h1 (by obtain ⟨_,rfl⟩:=okWide_int Tryz.underlying5 (hval 1 5 v1 rfl rfl);rfl)
 refine (A9.YP (Jb (u8_in hf)) rfl W [v0,v1] (cM hL) ⟨e0,e1,trivial⟩).mono fun e W' ⟨v,he,hv,hb⟩=> ?_
 subst he
 obtain rfl:v= .bool true:=hv
 exact ⟨_,rfl,TW UJ (by kernel_rfl) rfl Tryz.underlying4 rfl V7 (by rw [hpq];simp) hW' rfl hb⟩
theorem GN:(Rows.planSchedulesRow.inPlace==Tryz.pinned.checked.prog.inPlace 3)=true:=by kernel_rfl
theorem GO:(Rows.planSchedulesRow.unfollowed==Tryz.pinned.checked.prog.unfollowed 3)=true:=by kernel_rfl
theorem GP:(Rows.planSchedulesRow.recurses==Tryz.pinned.checked.prog.recurses 3)=true:=by kernel_rfl
theorem GQ:(Rows.planSchedulesRow.named==Tryz.pinned.checked.prog.varsNamed 3)=true:=by kernel_rfl
theorem Gi:joinedFacts Tryz.pinned.checked.prog 3 Tryz.f3 Rows.planSchedulesSpec Rows.planSchedulesRow=true:=by
 unfold joinedFacts
 rw [GN,GO,GP,GQ]
 kernel_rfl
theorem planSchedules_holds:Rows.PlanSchedulesSaid:=
 OpenClaim.holds_of_wide 3 Tryz.f3 rfl rfl rfl rfl rfl rfl rfl ⟨rfl, rfl, rfl, rfl, rfl⟩ rfl rfl rfl rfl rfl (by kernel_rfl) Tryz.func3 Gi
  (of_decide_eq_true (by kernel_rfl)) (by unfold Func.isWrapper;first|(rw [if_pos (by decide+kernel)];kernel_rfl)|(rw [if_neg (by decide+kernel)];exact ⟨rfl,rfl⟩))
  (fun os started H enc _=>GM os started H enc)
theorem planSchedules_card_holds:Rows.PlanSchedulesCardSaid:=
 Claim7.holds_tied_plain_at .later [] [.data] true Rows.planSchedulesCard.stood.harness false planSchedules_holds (fun _ h => by cases h) (by kernel_rfl) (fun _ h => by cases h) planSchedules_row_tie rfl ⟨rfl, rfl⟩ (by kernel_rfl) rfl
  (fun f fn hf hfn=>by
   obtain rfl : f = 3 := Option.some.inj ((show Tryz.prog.funcNamed "cipherplan/cipherplanlaw31.PlanSchedules" = some 3 by kernel_rfl).symm.trans hf) |>.symm
   obtain rfl:fn=Tryz.f3:=(Option.some.inj (Tryz.func3.symm.trans hfn)).symm
   exact ⟨by kernel_rfl, fun j t ht => by
    rw [Tryz.params3] at ht
    have hm:t∈[22,5]:=by simpa using Array.mem_of_getElem? ht
    have hall:([22,5].all fun u=> !Tryz.prog.wantsStandIn u)=true:=by kernel_rfl
    exact (show Tryz.prog.wantsStandIn t=false by simpa using List.all_eq_true.1 hall t hm)⟩)
  (by kernel_rfl)
end Go.Proofs.YtppdobdifkefcaaGreatDoor
