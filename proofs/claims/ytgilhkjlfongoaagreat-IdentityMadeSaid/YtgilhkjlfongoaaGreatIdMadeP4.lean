/-
  Part 4 of the texts that prove this claim, merged.
-/
import Derived.Test.YtgilhkjlfongoaaGreatIdMadeP3
set_option linter.all false
set_option maxRecDepth 40000
set_option maxHeartbeats 16000000
namespace Go.Proofs.YtgilhkjlfongoaaGreat
open Go Go.RowKit Cp Go.Proofs.Tryz
def JP (s:DS) (l:List (List UInt8)):List UInt8:=(l[(s.val l.length).toNat]?).getD []
theorem K3 (s:DS) {l:List (List UInt8)} (h:l≠[]):JP s l∈l:=by
 have h0:1≤(l.length:Int):=by
  have:=List.length_pos_iff.2 h
  omega
 have:=s.C7 h0
 unfold JP
 rw [List.getElem?_eq_getElem (by omega)]
 exact List.getElem_mem _
abbrev strs (l:List (List UInt8)):Pr:=slice 1 (l.map fun t=>[str t])
structure Qq (f:AO):Prop where
 check:BB f=true
 fits:f.fits
 day:0≤f.day∧f.day<12
structure Te (l:List AO) (m:Nat):Prop where
 norm:B_ l
 fits:∀f∈l,f.fits
 len:l.length≤m
 day:∀f∈l,0≤f.day∧f.day<12
theorem Rl {t:List UInt8} (h:t∈[[97],[98],[99]]):named t=true∧t.length≤maxLen:=by
 simp only [List.mem_cons,List.not_mem_nil,or_false] at h
 rcases h with rfl|rfl|rfl<;>exact ⟨by decide,by decide⟩
theorem Tf {t:List UInt8} (h:t∈[[115],[116]]):named t=true∧t.length≤maxLen:=by
 simp only [List.mem_cons,List.not_mem_nil,or_false] at h
 rcases h with rfl|rfl<;>exact ⟨by decide,by decide⟩
theorem Tg {t:List UInt8} (h:t∈[[97],[98]]):named t=true∧t.length≤maxLen:=by
 simp only [List.mem_cons,List.not_mem_nil,or_false] at h
 rcases h with rfl|rfl<;>exact ⟨by decide,by decide⟩
theorem Eu {f:AO} (h1:1≤f.src∧f.src≤7) (h2:named f.host=true) (h3:0≤f.machine∧f.machine≤3) (h4:0≤f.day∧f.day<12) (h5:1≤f.Cm∧f.Cm≤100) (h6:named f.CV=true) (h7:AP f=true)
  (l1:f.host.length≤maxLen) (l2:f.CV.length≤maxLen) (l3:f.text.length≤maxLen):Qq f:=by
 refine ⟨?_,⟨l1,l2,l3⟩,h4⟩
 unfold BB CW DE
 rw [h2,h6,h7]
 simp;omega
theorem Rm {β:Type} {p:β→Prop} {l:List β} {x:β} (h:∀y∈l,p y) (hx:p x):∀y∈l++[x],p y:=by
 intro y hy
 rcases List.mem_append.1 hy with hy|hy
 · exact h y hy
 · rw [List.mem_singleton.1 hy];exact hx
theorem Rn {l:List AO} {m:Nat} (h:∀f∈l,Qq f) (hm:l.length≤m∧l.length≤400):Te (l.foldl Ci []) m:=by
 have hmem:∀f∈l.foldl Ci [],f∈l:=fun f hf=>by rcases K2 l [] hf with h1|h1;exact absurd h1 (by simp);exact h1
 have hlen:=IB l []
 simp at hlen
 exact ⟨Qp (fun f hf=>(h f hf).check) hm.2,fun f hf=>(h f (hmem f hf)).fits,by omega,fun f hf=>(h f (hmem f hf)).day⟩
def PU:List (Int×Int):=[(1,0),(2,0),(5,1024),(14,128)]
theorem Qr:∀u∈PU,BQ u.1 u.2>0:=by decide
theorem Ju {b:Nat} {s:DS} {l:List (List UInt8)} (hl:l≠[]) (eC:l.length≤1000000000):A5 prog 16 [ptr b 0,strs l] (str (JP s l)) (HF b s) (fun _=>HF b s.DR):=by
 refine A5.of func16 rfl rfl (by exact Nb rfl) fun M0 w0 S rs M1 w1=> ?_
 have PT:1≤(l.length:Int):=by have:=List.length_pos_iff.2 hl;omega
 have hv:=s.C7 PT
 obtain ⟨x,hx⟩:=at_ (l:=l) (k:=(s.val l.length).toNat) (by omega)
 refine ac ?_
 refine ap ?_
 refine TO.DZ 0 rfl rfl (by decide) (Ab rfl rfl (by decide) rfl (CF (by omega) (by omega)) ⟨ke rfl,ke rfl,trivial⟩) (tp rfl (AB rfl underlying53 Da (vl rfl) (vl rfl) (by omega) (CC hx)) ?_)
 refine ap ?_
 refine Tr.ret (Fin.EN [] rfl (Bc.tmp rfl (Lr)) ?_ (fun _ _ _ _=>rfl))
 · refine str_eq ?_;unfold JP;rw [hx];rfl
theorem L2 {b:Nat} {s:DS}  :A5 prog 11 [ptr b 0] (ex fun f:AO=>fact (Qq f) (agg (BA f))) (HF b s) (fun _=>HK 80 b):=by
 refine A5.of func11 rfl rfl (by exact Nb rfl) fun M0 w0 S rs M1 w1=> ?_
 refine Tr.seq (Tr.Cq ?_)
 refine Tl rfl rfl rfl rfl Di Hq (fun b1=> ?_)
 refine ap ?_
 refine Tr.seq ?_
 have f1:=s.C7 (n:=7) (by omega)
 have f2:=Rl (K3 (s.DR) (l:=[[97],[98],[99]]) (by simp))
 have f3:=(s.DR.DR).Ox (l:=[0,1,2,0,3]) (by simp)
 have f4:=(s.DR.DR.DR).C7 (n:=12) (by omega)
 have f5:=(s.DR.DR.DR.DR).Ox (l:=[90,50,100,1]) (by simp)
 have f6:=(s.DR.DR.DR.DR.DR).C7 (n:=8) (by omega)
 have f7:=Tf (K3 (s.DR.DR.DR.DR.DR.DR) (l:=[[115],[116]]) (by simp))
 refine ap ?_
 refine TO.DZ 1 rfl rfl (by decide) (Ab rfl rfl (by decide) rfl (CF (by omega) (by omega)) ⟨ke rfl,ke rfl,trivial⟩) ?_
 refine ap ?_
 refine TO.DZ 1 rfl rfl (by decide) (Ab rfl rfl (by decide) rfl (Ju (l:=[[97],[98],[99]]) (by simp) (by simp)) ⟨ke rfl,(Kf rfl),trivial⟩) ?_
 refine ap ?_
 refine TO.DZ 1 rfl rfl (by decide) (Ab rfl rfl (by decide) rfl (Td (l:=[0,1,2,0,3]) (by simp) (by simp)) ⟨ke rfl,(Kf rfl),trivial⟩) ?_
 refine tm rfl (TO.DZ 1 rfl rfl (by decide) (Ab rfl rfl (by decide) rfl (CF (by omega) (by omega)) ⟨ke rfl,ke rfl,trivial⟩) ?_)
 refine ap ?_
 refine TO.DZ 1 rfl rfl (by decide) (Ab rfl rfl (by decide) rfl (Td (l:=[90,50,100,1]) (by simp) (by simp)) ⟨ke rfl,(Kf rfl),trivial⟩) ?_
 refine tm rfl (TO.DZ 1 rfl rfl (by decide) (Ab rfl rfl (by decide) rfl (CF (by omega) (by omega)) ⟨ke rfl,ke rfl,trivial⟩) ?_)
 refine ap ?_
 refine TO.DZ 1 rfl rfl (by decide) (Ab rfl rfl (by decide) rfl (Ju (l:=[[115],[116]]) (by simp) (by simp)) ⟨ke rfl,(Kf rfl),trivial⟩) ?_
 refine tp rfl (oD) ?_
 refine Tl rfl rfl rfl rfl Di Hq (fun b2=> ?_)
 refine ap ?_
 refine Ur 0 2 3 rfl (Tr.seq (Tr.seq ?_))
 generalize s.DR.DR.DR.DR.DR.DR.DR=s7
 generalize s.val 7=src at f1 ⊢
 generalize JP (s.DR) [[97],[98],[99]]=host at f2 ⊢
 generalize (s.DR.DR).of [0,1,2,0,3]=Bv at f3 ⊢
 generalize (s.DR.DR.DR).val 12=day at f4 ⊢
 generalize (s.DR.DR.DR.DR).of [90,50,100,1]=Cm at f5 ⊢
 generalize (s.DR.DR.DR.DR.DR).val 8=kd at f6 ⊢
 generalize JP (s.DR.DR.DR.DR.DR.DR) [[115],[116]]=CV at f7 ⊢
 have g3:0≤Bv∧Bv≤3:=by simp at f3;omega
 have g5:1≤Cm∧Cm≤100:=by simp at f5;omega
 refine Tr.Jn 0 [int (1+src),str host,int Bv,int day,int Cm,int (1+kd),str CV,int 0,int 0,int 0,str []] rfl ⟨Lr,Lr,Lr,Lr,Lr,Lr,Lr,Lr,Lr,Lr,Lr,trivial⟩ ?_
 refine ac ?_
 refine an ?_ ?_<;>intro h1 q1
 refine ac ?_
 refine Tr.cond rfl (fun _=> ?_) (fun h=>nomatch h1.symm.trans h)
 have f8:=s7.C7 (n:=4) (by omega)
 obtain ⟨u,hu⟩:=at_ (l:=PU) (k:=(s7.val 4).toNat) (by have:PU.length=4:=rfl;omega)
 have iR:=Qr u (List.mem_of_getElem? hu)
 refine ap ?_
 refine TO.DZ 2 rfl rfl (by decide) (Ab rfl rfl (by decide) rfl (CF (by omega) (by omega)) ⟨ke rfl,ke rfl,trivial⟩) (tp rfl (AB rfl underlying76 Xr (Kf rfl) (vl rfl) (by omega) (CC (l:=PU) (f:=fun p:Int×Int=>[int p.1,int p.2]) hu)) ?_)
 refine ap ?_
 refine F8 2 3 rfl (Tr.seq (Tr.Jn 0 [int (1+src),str host,int Bv,int day,int Cm,int (1+kd),str CV,int u.1,int u.2,int 0,str []] rfl ⟨Lr,Lr,Lr,Lr,Lr,Lr,Lr,Lr,Lr,Lr,Lr,trivial⟩ ?_))
 refine ap ?_
 refine Tr.drop 0 (Tr.ret (Fin.EM 1 _ rfl rfl (Fin.EN [_] rfl (Bc.cell 0 rfl rfl BI AY rfl (Lr)) ?_ (fun _ _ _ _=>rfl))))
 · refine Bm (AO.mk _ _ _ _ _ _ _ _ _ _ _) (A8 ?_ (Lr));exact Eu (by show 1≤1+src∧1+src≤7;omega) f2.1 g3 f4 g5 f7.1 (by unfold AP;rw [if_pos (by simp;omega)];simp [iR]) f2.2 f7.2 (by show (0:Nat)≤_;omega)
 refine an ?_ ?_<;>intro h2 q2
 have f8:=s7.C7 (n:=4) (by omega)
 obtain ⟨u,hu⟩:=at_ (l:=PU) (k:=(s7.val 4).toNat) (by have:PU.length=4:=rfl;omega)
 have iR:=Qr u (List.mem_of_getElem? hu)
 refine ap ?_
 refine TO.DZ 2 rfl rfl (by decide) (Ab rfl rfl (by decide) rfl (CF (by omega) (by omega)) ⟨ke rfl,ke rfl,trivial⟩) (tp rfl (AB rfl underlying76 Xr (Kf rfl) (vl rfl) (by omega) (CC (l:=PU) (f:=fun p:Int×Int=>[int p.1,int p.2]) hu)) ?_)
 refine ap ?_
 refine F8 2 3 rfl (Tr.seq (Tr.Jn 0 [int (1+src),str host,int Bv,int day,int Cm,int (1+kd),str CV,int u.1,int u.2,int 0,str []] rfl ⟨Lr,Lr,Lr,Lr,Lr,Lr,Lr,Lr,Lr,Lr,Lr,trivial⟩ ?_))
 refine ap ?_
 refine Tr.drop 0 (Tr.ret (Fin.EM 1 _ rfl rfl (Fin.EN [_] rfl (Bc.cell 0 rfl rfl BI AY rfl (Lr)) ?_ (fun _ _ _ _=>rfl))))
 · refine Bm (AO.mk _ _ _ _ _ _ _ _ _ _ _) (A8 ?_ (Lr));exact Eu (by show 1≤1+src∧1+src≤7;omega) f2.1 g3 f4 g5 f7.1 (by unfold AP;rw [if_pos (by simp;omega)];simp [iR]) f2.2 f7.2 (by show (0:Nat)≤_;omega)
 refine an ?_ ?_<;>intro h3 q3
 have f8:=s7.C7 (n:=5) (by omega)
 refine ap ?_
 refine TO.DZ 2 rfl rfl (by decide) (Ab rfl rfl (by decide) rfl (CF (by omega) (by omega)) ⟨ke rfl,ke rfl,trivial⟩) ?_
 refine ap ?_
 refine F8 2 3 rfl (Tr.seq (Tr.Jn 0 [int (1+src),str host,int Bv,int day,int Cm,int (1+kd),str CV,int 0,int 0,int (1+s7.val 5),str []] rfl ⟨Lr,Lr,Lr,Lr,Lr,Lr,Lr,Lr,Lr,Lr,Lr,trivial⟩ ?_))
 generalize s7.val 5=nv at f8 ⊢
 refine ap ?_
 refine Tr.drop 0 (Tr.ret (Fin.EM 1 _ rfl rfl (Fin.EN [_] rfl (Bc.cell 0 rfl rfl BI AY rfl (Lr)) ?_ (fun _ _ _ _=>rfl))))
 · refine Bm (AO.mk _ _ _ _ _ _ _ _ _ _ _) (A8 ?_ (Lr));exact Eu (by show 1≤1+src∧1+src≤7;omega) f2.1 g3 f4 g5 f7.1 (by unfold AP Bj;rw [if_neg (by simp;omega),if_pos (by simp;omega)];simp;omega) f2.2 f7.2 (by show (0:Nat)≤_;omega)
 refine an ?_ ?_<;>intro h4 q4
 have f8:=s7.Ox (l:=[1024,2048]) (by simp)
 have f9:=s7.DR.C7 (n:=3) (by omega)
 refine ap ?_
 refine TO.DZ 2 rfl rfl (by decide) (Ab rfl rfl (by decide) rfl (Td (l:=[1024,2048]) (by simp) (by simp)) ⟨ke rfl,(Kf rfl),trivial⟩) ?_
 refine ap ?_
 refine TO.DZ 2 rfl rfl (by decide) (Ab rfl rfl (by decide) rfl (CF (by omega) (by omega)) ⟨ke rfl,ke rfl,trivial⟩) ?_
 refine ap ?_
 refine F8 2 3 rfl (Tr.seq (Tr.Jn 0 [int (1+src),str host,int Bv,int day,int Cm,int (1+kd),str CV,int 5,int (s7.of [1024,2048]),int (100+s7.DR.val 3),str []] rfl ⟨Lr,Lr,Lr,Lr,Lr,Lr,Lr,Lr,Lr,Lr,Lr,trivial⟩ ?_))
 generalize s7.of [1024,2048]=bt at f8 ⊢
 generalize s7.DR.val 3=nv at f9 ⊢
 refine ap ?_
 refine Tr.drop 0 (Tr.ret (Fin.EM 1 _ rfl rfl (Fin.EN [_] rfl (Bc.cell 0 rfl rfl BI AY rfl (Lr)) ?_ (fun _ _ _ _=>rfl))))
 · refine Bm (AO.mk _ _ _ _ _ _ _ _ _ _ _) (A8 ?_ (Lr));exact Eu (by show 1≤1+src∧1+src≤7;omega) f2.1 g3 f4 g5 f7.1 (by unfold AP;rw [if_neg (by simp;omega),if_neg (by simp;omega),if_pos (by simp;omega)];simp at f8;rcases f8 with h|h<;>rw [h]<;>simp [show BQ 5 1024>0 by decide,show BQ 5 2048>0 by decide,show (CO 5).kind=2 by rfl]<;>omega) f2.2 f7.2 (by show (0:Nat)≤_;omega)
 refine ac ?_
 refine HJ 0 2 3 26 57 rfl ?_
 refine Tr.cn rfl ?_ ?_<;>intro h5 q5
 refine ac ?_
 refine Tr.cond rfl (fun _=> ?_) (fun h=>nomatch h5.symm.trans h)
 have f8:=s7.C7 (n:=4) (by omega)
 refine ap ?_
 refine TO.DZ 2 rfl rfl (by decide) (Ab rfl rfl (by decide) rfl (CF (by omega) (by omega)) ⟨ke rfl,ke rfl,trivial⟩) ?_
 refine ap ?_
 refine Tr.seq (Tr.Jn 0 [int (1+src),str host,int Bv,int day,int Cm,int (1+kd),str CV,int 0,int 0,int (1+s7.val 4),str []] rfl ⟨Lr,Lr,Lr,Lr,Lr,Lr,Lr,Lr,Lr,Lr,Lr,trivial⟩ ?_)
 generalize s7.val 4=nv at f8 ⊢
 refine ap ?_
 refine Tr.drop 0 (Tr.ret (Fin.EM 1 _ rfl rfl (Fin.EN [_] rfl (Bc.cell 0 rfl rfl BI AY rfl (Lr)) ?_ (fun _ _ _ _=>rfl))))
 · refine Bm (AO.mk _ _ _ _ _ _ _ _ _ _ _) (A8 ?_ (Lr));exact Eu (by show 1≤1+src∧1+src≤7;omega) f2.1 g3 f4 g5 f7.1 (by unfold AP Bj;rw [if_neg (by simp;omega),if_neg (by simp;omega),if_neg (by simp;omega),if_pos (by simp;omega)];simp;omega) f2.2 f7.2 (by show (0:Nat)≤_;omega)
 refine an ?_ ?_<;>intro h6 q6
 have f8:=s7.C7 (n:=4) (by omega)
 refine ap ?_
 refine TO.DZ 2 rfl rfl (by decide) (Ab rfl rfl (by decide) rfl (CF (by omega) (by omega)) ⟨ke rfl,ke rfl,trivial⟩) ?_
 refine ap ?_
 refine Tr.seq (Tr.Jn 0 [int (1+src),str host,int Bv,int day,int Cm,int (1+kd),str CV,int 0,int 0,int (1+s7.val 4),str []] rfl ⟨Lr,Lr,Lr,Lr,Lr,Lr,Lr,Lr,Lr,Lr,Lr,trivial⟩ ?_)
 generalize s7.val 4=nv at f8 ⊢
 refine ap ?_
 refine Tr.drop 0 (Tr.ret (Fin.EM 1 _ rfl rfl (Fin.EN [_] rfl (Bc.cell 0 rfl rfl BI AY rfl (Lr)) ?_ (fun _ _ _ _=>rfl))))
 · refine Bm (AO.mk _ _ _ _ _ _ _ _ _ _ _) (A8 ?_ (Lr));exact Eu (by show 1≤1+src∧1+src≤7;omega) f2.1 g3 f4 g5 f7.1 (by unfold AP Bj;rw [if_neg (by simp;omega),if_neg (by simp;omega),if_neg (by simp;omega),if_pos (by simp;omega)];simp;omega) f2.2 f7.2 (by show (0:Nat)≤_;omega)
 refine an ?_ ?_<;>intro h7 q7
 have f8:=s7.C7 (n:=3) (by omega)
 refine ap ?_
 refine TO.DZ 2 rfl rfl (by decide) (Ab rfl rfl (by decide) rfl (CF (by omega) (by omega)) ⟨ke rfl,ke rfl,trivial⟩) ?_
 refine ap ?_
 refine Tr.seq (Tr.Jn 0 [int (1+src),str host,int Bv,int day,int Cm,int (1+kd),str CV,int 0,int 0,int (s7.val 3),str []] rfl ⟨Lr,Lr,Lr,Lr,Lr,Lr,Lr,Lr,Lr,Lr,Lr,trivial⟩ ?_)
 generalize s7.val 3=nv at f8 ⊢
 refine ap ?_
 refine Tr.drop 0 (Tr.ret (Fin.EM 1 _ rfl rfl (Fin.EN [_] rfl (Bc.cell 0 rfl rfl BI AY rfl (Lr)) ?_ (fun _ _ _ _=>rfl))))
 · refine Bm (AO.mk _ _ _ _ _ _ _ _ _ _ _) (A8 ?_ (Lr));exact Eu (by show 1≤1+src∧1+src≤7;omega) f2.1 g3 f4 g5 f7.1 (by unfold AP Bj;rw [if_neg (by simp;omega),if_neg (by simp;omega),if_neg (by simp;omega),if_neg (by simp;omega),if_pos (by simp;omega)];simp;omega) f2.2 f7.2 (by show (0:Nat)≤_;omega)
 refine Tr.seq ?_
 skip
 refine an ?_ ?_<;>intro h8 q8
 have f8:=Tg (K3 s7 (l:=[[97],[98]]) (by simp))
 refine ap ?_
 refine TO.DZ 2 rfl rfl (by decide) (Ab rfl rfl (by decide) rfl (Ju (l:=[[97],[98]]) (by simp) (by simp)) ⟨ke rfl,(Kf rfl),trivial⟩) ?_
 refine ap ?_
 refine F8 2 3 rfl (Tr.seq (Tr.Jn 0 [int (1+src),str host,int Bv,int day,int Cm,int (1+kd),str CV,int 0,int 0,int 0,str (JP s7 [[97],[98]])] rfl ⟨Lr,Lr,Lr,Lr,Lr,Lr,Lr,Lr,Lr,Lr,Lr,trivial⟩ ?_))
 generalize JP s7 [[97],[98]]=tx at f8 ⊢
 refine ap ?_
 refine Tr.drop 0 (Tr.ret (Fin.EM 1 _ rfl rfl (Fin.EN [_] rfl (Bc.cell 0 rfl rfl BI AY rfl (Lr)) ?_ (fun _ _ _ _=>rfl))))
 · refine Bm (AO.mk _ _ _ _ _ _ _ _ _ _ _) (A8 ?_ (Lr));exact Eu (by show 1≤1+src∧1+src≤7;omega) f2.1 g3 f4 g5 f7.1 (by unfold AP;rw [if_neg (by simp;omega),if_neg (by simp;omega),if_neg (by simp;omega),if_neg (by simp;omega),if_neg (by simp;omega),if_pos (by simp;omega)];simp [f8.1]) f2.2 f7.2 f8.2
 refine ac ?_
 refine Tr.seq (Tr.Jn 0 [int (1+src),str host,int Bv,int day,int Cm,int (1+kd),str CV,int 0,int 0,int 0,str []] rfl ⟨Lr,Lr,Lr,Lr,Lr,Lr,Lr,Lr,Lr,Lr,Lr,trivial⟩ ?_)
 refine ap ?_
 refine Tr.drop 0 (Tr.ret (Fin.EM 1 _ rfl rfl (Fin.EN [_] rfl (Bc.cell 0 rfl rfl BI AY rfl (Lr)) ?_ (fun _ _ _ _=>rfl))))
 · exfalso;omega
structure Jd {α:Type} (c:α→α→Int):Prop where
 swap:∀x y,c y x= -c x y
 tr:∀x y z,c x y<0→c y z<0→c x z<0
 eq:∀x y z,c x y=0→c x z=c y z
theorem Jd.j9 {α:Type} {c:α→α→Int} (h:Jd c) (x y z:α) (e:c y z=0):c x y=c x z:=by
 have h1:=h.eq y z x e
 have h2:=h.swap x y
 have h3:=h.swap x z
 omega
theorem Jd.mG {α:Type} {c:α→α→Int} (h:Jd c):Go.Sort.SWO (Bs fun p:α×α=>c p.1 p.2) where
 irrefl x:=by have:=h.swap x x;exact decide_eq_false (by show ¬c x x<0;omega)
 trans x y z h1 h2:=decide_eq_true (h.tr x y z (of_decide_eq_true h1) (of_decide_eq_true h2))
 ntrans x y z h1 h2:=by
  have h1:¬c x y<0:=of_decide_eq_false h1
  have h2:¬c y z<0:=of_decide_eq_false h2
  refine decide_eq_false (show ¬c x z<0 from fun h3=> ?_)
  have e1:=h.swap x y
  by_cases hxy:c x y=0
  · have:=h.eq x y z hxy;omega
  · have:=h.tr y x z (by omega) h3;omega
theorem Jd.cons {α:Type} {c d:α→α→Int} (h:Jd c) (k:Jd d):Jd (fun x y=>if c x y=0 then d x y else c x y) where
 swap x y:=by
  have h1:=h.swap x y
  have h2:=k.swap x y
  show (if c y x=0 then d y x else c y x)= -(if c x y=0 then d x y else c x y)
  by_cases e:c x y=0
  · rw [if_pos e,if_pos (by omega)];exact h2
  · rw [if_neg e,if_neg (by omega)];exact h1
 tr x y z h1 h2:=by
  show (if c x z=0 then d x z else c x z)<0
  have h1:(if c x y=0 then d x y else c x y)<0:=h1
  have h2:(if c y z=0 then d y z else c y z)<0:=h2
  by_cases e1:c x y=0
  ·
   rw [if_pos e1] at h1
   have e3:=h.eq x y z e1
   by_cases e2:c y z=0
   · rw [if_pos e2] at h2;rw [if_pos (by omega)];exact k.tr x y z h1 h2
   · rw [if_neg e2] at h2;rw [if_neg (by omega)];omega
  ·
   rw [if_neg e1] at h1
   by_cases e2:c y z=0
   ·
    have e3:=h.j9 x y z e2
    rw [if_neg (by omega)];omega
   ·
    rw [if_neg e2] at h2
    have:=h.tr x y z h1 h2
    rw [if_neg (by omega)];exact this
 eq x y z h1:=by
  have h1:(if c x y=0 then d x y else c x y)=0:=h1
  show (if c x z=0 then d x z else c x z)=(if c y z=0 then d y z else c y z)
  by_cases e1:c x y=0
  ·
   rw [if_pos e1] at h1
   rw [h.eq x y z e1,k.eq x y z h1]
  · rw [if_neg e1] at h1;exact absurd h1 e1
theorem Jd.nil {α:Type}:Jd (fun _ _:α=>0):=⟨fun _ _=>rfl,fun _ _ _ h=>absurd h (by decide),fun _ _ _ _=>rfl⟩
theorem Jd.on {α β:Type} {c:β→β→Int} (f:α→β) (h:Jd c):Jd (fun x y=>c (f x) (f y)):=⟨fun x y=>h.swap (f x) (f y),fun x y z=>h.tr (f x) (f y) (f z),fun x y z=>h.eq (f x) (f y) (f z)⟩
theorem Cs:Jd An:=⟨fun x y=>by unfold An;by_cases h1:x<y<;>by_cases h2:y<x<;>simp [h1,h2]<;>omega,fun x y z h1 h2=>by unfold An at*;(repeat (split at h1))<;>(repeat (split at h2))<;>(repeat (split))<;>omega,fun x y z h=>by rw [Cf.1 h]⟩
theorem Vs (x y:UInt8) (xs ys:List UInt8):Lib.compareBytes (x::xs) (y::ys)<0↔x.toNat<y.toNat∨(x.toNat=y.toNat∧Lib.compareBytes xs ys<0):=by
 rw [Lib.compareBytes]
 by_cases a1:x<y
 ·
  rw [if_pos a1]
  have:=UInt8.lt_iff_toNat_lt.1 a1
  constructor
  · intro _;exact .inl this
  · intro _;decide
 ·
  have b1:¬x.toNat<y.toNat:=fun h=>a1 (UInt8.lt_iff_toNat_lt.2 h)
  rw [if_neg a1]
  by_cases a2:y<x
  ·
   have:=UInt8.lt_iff_toNat_lt.1 a2
   rw [if_pos a2]
   constructor
   · intro h;exact absurd h (by decide)
   · intro h;omega
  ·
   have b2:¬y.toNat<x.toNat:=fun h=>a2 (UInt8.lt_iff_toNat_lt.2 h)
   rw [if_neg a2]
   constructor
   · intro h;exact .inr ⟨by omega,h⟩
   ·
    rintro (h|h)
    · omega
    · exact h.2
theorem IC:∀(a b c:List UInt8),Lib.compareBytes a b<0→Lib.compareBytes b c<0→Lib.compareBytes a c<0
 |[],[],_,h,_=>by simp [Lib.compareBytes] at h
 |[],_::_,[],_,h=>by simp [Lib.compareBytes] at h
 |[],_::_,_::_,_,_=>by simp [Lib.compareBytes]
 |_::_,[],_,h,_=>by simp [Lib.compareBytes] at h
 |_::_,_::_,[],_,h=>by simp [Lib.compareBytes] at h
 |x::xs,y::ys,z::zs,h1,h2=>by
  rw [Vs] at h1 h2 ⊢
  rcases h1 with h1|h1
  ·
   rcases h2 with h2|h2
   · left;omega
   · left;omega
  ·
   rcases h2 with h2|h2
   · left;omega
   · right;exact ⟨by omega,IC xs ys zs h1.2 h2.2⟩
theorem Dk:Jd Lib.compareBytes:=⟨EP,IC,fun x y z h=>by rw [(CK x y).1 h]⟩
theorem K4 (a:Int) (l:List Int):FY (a::l)=if a=0 then FY l else a:=rfl
theorem Th:Jd DT:=by
 have:=(Dk.on AO.host).cons ((Cs.on AO.machine).cons ((Cs.on AO.day).cons ((Dk.on AO.CV).cons ((Cs.on AO.kind).cons ((Cs.on AO.BL).cons ((Cs.on AO.bits).cons ((Cs.on AO.num).cons ((Dk.on AO.text).cons ((Cs.on AO.src).cons ((Cs.on AO.Cm).cons (Jd.nil (α:=AO))))))))))))
 exact this
def ID {α:Type} (c:α→α→Int) (l:List α):Prop:=l.Pairwise fun x y=>c x y≤0
theorem N8 {α:Type} {c:α→α→Int} (hc:Jd c) {l m:List α} (hp:l.Perm m) (h1:ID c l) (h2:ID c m) (h:∀x y,x∈l→y∈l→c x y=0→x=y):l=m:=
 List.Perm.eq_of_pairwise (le:=fun x y=>c x y≤0) (fun a b ha hb h3 h4=>h a b ha (hp.mem_iff.2 hb) (by have:=hc.swap a b;omega)) h1 h2 hp
theorem PV {α:Type} [Inhabited α] {c:α→α→Int} (hc:Jd c) {l st:List α} (h:De (fun p=>c p.1 p.2) 0 (l.length:Nat) l st):st.Perm l∧ID c st:=by
 refine ⟨CM.whole h.1,?_⟩
 have hl:=h.len
 unfold ID
 rw [List.pairwise_iff_getElem]
 intro i j hi hj hij
 have h1:=h.2 i j (by simp) hij (by simp;omega)
 have e1:st.toArray[i]! =st[i]:=by simp [hi]
 have e2:st.toArray[j]! =st[j]:=by simp [hj]
 rw [e1,e2] at h1
 have h2:¬c st[j] st[i]<0:=of_decide_eq_false h1
 have:=hc.swap st[i] st[j]
 omega
section
variable {β:Type} [DecidableEq β]
abbrev Yj (c:β→β→Int) (l:List β):Prop:=l.Pairwise fun x y=>c x y<0
end
deriving instance DecidableEq for AO
theorem Yk {c:AO→AO→Int} (hc:Jd c) {l:List AO} (h:∀(j:Nat) a b,l[j]? =some a→l[j+1]? =some b→c a b<0):Yj c l:=by
 induction l with
 |nil=>exact .nil
 |cons x l ih=>
  have hl:∀(j:Nat) a b,l[j]? =some a→l[j+1]? =some b→c a b<0:=fun j a b ha hb=>h (j+1) a b (by simpa using ha) (by simpa using hb)
  have ih:=ih hl
  refine List.pairwise_cons.2 ⟨fun y hy=> ?_,ih⟩
  cases l with
  |nil=>cases hy
  |cons z l=>
   have h0:c x z<0:=h 0 x z rfl rfl
   rcases List.mem_cons.1 hy with rfl|hy
   · exact h0
   · exact hc.tr x z y h0 ((List.pairwise_cons.1 ih).1 y hy)
theorem HR {l:List AO} (h:Jc l) {i j:Nat} {f g:AO} (hf:l[i]? =some f) (hg:l[j]? =some g) (hij:i<j):DT f g<0:=by
 have hi:=(List.getElem?_eq_some_iff.1 hf).1
 have hj:=(List.getElem?_eq_some_iff.1 hg).1
 have:=List.pairwise_iff_getElem.1 (Yk Th h) i j hi hj hij
 rw [List.getElem?_eq_getElem hi] at hf
 rw [List.getElem?_eq_getElem hj] at hg
 simp only [Option.some.injEq] at hf hg
 rw [←hf,←hg];exact this
theorem Vt {a b:Int}  :Be prog 142 [int a,int b] (bool (decide (a<b))):=by
 refine fo func142 rfl ⟨rfl,rfl⟩ fun M0 w0=> ?_
 · repeat' first|exact absurd h (by decide)|exact Lr|refine co rfl (Eh (N1) rfl rfl) (cm rfl ?_)|refine ac ?_|(refine Ch.cg rfl rfl rfl ?_ ?_<;>intro h q)
def mH (own:List Int) (m:Nat):Prop:=∀i∈own,0≤i∧i<(m:Int)
instance (own:List Int) (m:Nat):Decidable (mH own m):=inferInstanceAs (Decidable (∀i∈own,0≤i∧i<(m:Int)))
theorem A8 {φ:Prop} {p q:Pr} (h:φ) (hl:Pr.le p q):Pr.le p (fact φ q):=fun _ _ _ hp=>⟨h,hl _ _ _ hp⟩
theorem Vu {l:List UInt8} {x:Nat} {y:Int} {hl:x<l.length} (h:(List.range 256).all (fun i=>match l[i]? with|some b=>decide (b.toNat≤8∧(1≤i→2 ^ b.toNat≤2*i))|none=>true)=true) (hx:x<256) (hy:(x:Int)=y):
  0≤IntKind.i64.wrap (IntKind.i64.wrap ((l[x]).toNat:Int))∧IntKind.i64.wrap (IntKind.i64.wrap ((l[x]).toNat:Int))≤8∧(1≤y→((2 ^ (IntKind.i64.wrap (IntKind.i64.wrap ((l[x]).toNat:Int))).toNat:Nat):Int)≤2*y):=by
 subst hy
 have h1:=List.all_eq_true.1 h x (List.mem_range.2 hx)
 rw [List.getElem?_eq_getElem hl] at h1
 have h1:=of_decide_eq_true h1
 have hb:(l[x]).toNat<256:=UInt8.toNat_lt _
 have hw:=IntWalk.i64_in ((l[x]).toNat:Int) ⟨by omega,by omega⟩
 rw [hw,hw,Int.toNat_natCast]
 exact ⟨by omega,by omega,fun hx1=>by have:=h1.2 (by omega);omega⟩
theorem Ti {x:Int} (h0:0≤x) (h1:x<256):Be prog 159 [is (.int .u64 x)] (ex fun k:Int=>fact (0≤k∧k≤8∧(1≤x→((2 ^ k.toNat:Nat):Int)≤2*x)) (int k)):=by
 refine fo func159 rfl ⟨rfl,rfl⟩ fun M0 w0=> ?_
 have hw:IntKind.u8.wrap x=x:=IntWalk.u8_in x ⟨by omega,by omega⟩
 refine ac ?_
 refine an ?_ ?_<;>intro h1 q1
 exfalso;omega
 refine ac ?_
 refine an ?_ ?_<;>intro h2 q2
 exfalso;omega
 refine ac ?_
 refine an ?_ ?_<;>intro h3 q3
 exfalso;omega
 refine a2 ?_
 refine co rfl (Er rfl underlying174 underlying5 (vl rfl)) ?_
 refine co rfl (Ml rfl underlying9 (vl rfl) (vl rfl) (by omega) (List.getElem?_eq_getElem (by show _<256;omega))) ?_
 refine co rfl (Er rfl underlying5 underlying3 (vl rfl)) ?_
 refine ac ?_
 refine Cg 2 rfl ?_
 refine ac ?_
 · refine Bm _ (A8 ?_ (Lr));rw [Int.zero_add];refine Vu ?_ (by omega) (by omega);decide+kernel
theorem M6 {x:Int} (h0:0≤x) (h1:x<256):Be prog 100 [is (.int .u64 x)] (ex fun k:Int=>fact (0≤k∧k≤8∧(1≤x→((2 ^ k.toNat:Nat):Int)≤2*x)) (int k)):=by
 refine fo func100 rfl ⟨rfl,rfl⟩ fun M0 w0=> ?_
 refine a3 ?_
 refine co rfl (Eh (Ti (by omega) (by omega)) rfl rfl) ?_
 refine a2 ?_
 · exact Lr
theorem Yl {x:Int} (h0:1≤x) (h1:x<256):Be prog 187 [int x] (ex fun m:Int=>fact (1≤m∧m≤2*x) (is (.int .u64 m))):=by
 refine fo func187 rfl ⟨rfl,rfl⟩ fun M0 w0=> ?_
 have hw:IntKind.u64.wrap x=x:=IntWalk.u64_in x ⟨by omega,by omega⟩
 refine ac ?_
 refine ap ?_
 refine tp rfl (Er rfl underlying3 underlying137 (vl rfl)) (tp rfl (Eh (M6 (by omega) (by omega)) rfl rfl) ?_)
 refine TO.ex 5 rfl (fun k=>TO.fact 5 rfl fun hk=> ?_)
 obtain ⟨hk1,hk2,j_⟩:=hk
 refine tp rfl (VQ rfl (vl rfl) (vl rfl) (by omega) (by omega) (j_ (by omega))) ?_
 refine ap ?_
 refine ac ?_
 · exact fun M w v ⟨r,h,hv⟩=>⟨r,by rw [hw] at h;exact h,hv⟩
theorem Vv {xb:Nat}  :A5 prog 188 [is (.pointer (some ⟨xb,0,none⟩))] (Ef .u64) (AA true xb 189 [Ef .u64]) (fun _=>AA true xb 189 [Ef .u64]):=by
 refine A5.of func188 rfl rfl (by exact Nb rfl) fun M0 w0 S rs M1 w1=> ?_
 refine ac ?_
 refine Tr.seq (Tr.rx ?_)
 refine ay ?_
 refine xo rfl (fun _=>PC (by decide) rfl (vl rfl) (vl rfl) (by decide)) (xo rfl (fun _=>Mq (by decide) rfl (vl rfl) (vl rfl)) ?_)
 refine ay ?_
 refine Cx.nil ⟨by kernel_rfl,?_⟩
 refine BJ.done Oe (Fin.go (Tr.seq (Tr.rx ?_)))
 refine ay ?_
 refine xo rfl (fun _=>PC (by decide) rfl (vl rfl) (vl rfl) (by decide)) (xo rfl (fun _=>Mq (by decide) rfl (vl rfl) (vl rfl)) ?_)
 refine ay ?_
 refine Cx.nil ⟨by kernel_rfl,?_⟩
 refine BJ.done Oe (Fin.go (Cg 0 rfl (Tr.seq (Tr.rx ?_))))
 refine ay ?_
 refine xo rfl (fun _=>PC (by decide) rfl (vl rfl) (vl rfl) (by decide)) (xo rfl (fun _=>Mq (by decide) rfl (vl rfl) (vl rfl)) ?_)
 refine ay ?_
 refine Cx.nil ⟨by kernel_rfl,?_⟩
 refine BJ.done Oe (Fin.go ?_)
 refine ac ?_
 refine Cg 2 rfl (Tr.ret (Fin.CI rfl rfl ?_ (fun _ _ _ _=>rfl)))
 · exact Lr
instance:Inhabited AO:=⟨⟨0,[],0,0,0,0,[],0,0,0,[]⟩⟩
structure ck where
 kC:Int
 CV:List UInt8
 kind:Int
 BL:Int
 bits:Int
 num:Int
 text:List UInt8
 n_:Int
deriving DecidableEq
theorem L3:∀{l m:List Nat},l.Nodup→(∀q∈l,q∈m)→l.length≤m.length
 |[],_,_,_=>Nat.zero_le _
 |a::l,m,hn,h=>by
  have h1:=List.nodup_cons.1 hn
  have h2:=L3 (l:=l) (m:=m.erase a) h1.2 (fun q hq=>(List.mem_erase_of_ne (by rintro rfl;exact h1.1 hq)).2 (h q (List.mem_cons_of_mem _ hq)))
  have h3:=List.length_erase_of_mem (h a (by simp))
  have h4:0<m.length:=List.length_pos_of_mem (h a (by simp))
  simp only [List.length_cons];omega
theorem Iv {m:Nat} {l:List Nat} (hn:l.Nodup) (h:∀q∈l,q<m):l.length≤m:=by
 simpa using L3 hn (m:=List.range m) (fun q hq=>List.mem_range.2 (h q hq))
theorem PW {α β:Type} (f:α→Option β) (q:α):[q].filterMap f=(f q).toList:=by
 cases h:f q<;>simp [h]
theorem L4 {seen:List Nat} {q m:Nat} (hn:seen.Nodup) (hl:∀x∈seen,x<m) (hq:q∉seen) (mI:q<m):((seen++[q]).Nodup∧∀x∈seen++[q],x<m)∧m-(seen++[q]).length<m-seen.length:=by
 have h1:(seen++[q]).Nodup:=by
  rw [List.nodup_append];exact ⟨hn,by simp,fun a ha b hb=>by simp at hb;subst hb;rintro rfl;exact hq ha⟩
 have h2:∀x∈seen++[q],x<m:=fun x hx=>by
  rcases List.mem_append.1 hx with h|h
  · exact hl x h
  · simp at h;subst h;exact mI
 have h3:=Iv h1 h2
 refine ⟨⟨h1,h2⟩,?_⟩
 simp only [List.length_append,List.length_cons,List.length_nil] at h3 ⊢;omega
theorem CD {α:Type} {l:List α} {k:Nat} {x:α} (h:l[k]? =some x):k<l.length:=by
 rcases Nat.lt_or_ge k l.length with h'|h'
 · exact h'
 · rw [List.getElem?_eq_none h'] at h;cases h
theorem Vw {α β:Type} (f:α→Option β) {l:List α} {k:Nat} {x:α} (h:l[k]? =some x):(l.take (k+1)).filterMap f=(l.take k).filterMap f++(f x).toList:=by
 rw [List.take_add_one,h,List.filterMap_append];show _++[x].filterMap f=_;rw [PW]
def Ym (x y:ck):Bool:=decide (x.kC=y.kC∧x.CV=y.CV∧x.kind=y.kind∧x.BL=y.BL∧x.bits=y.bits∧x.num=y.num∧x.text=y.text)
def without (o:List ck) (l:List ck):List ck:=l.filter fun x=> !(o.any (Ym x))
instance:Inhabited ck:=⟨⟨0,[],0,0,0,0,[],0⟩⟩
theorem Ro {m:Nat} {seen:List Nat} (hn:seen.Nodup) (hlt:∀q∈seen,q<m) (hall:∀q,q<m→q∈seen):seen.Perm (List.range m):=by
 rw [List.perm_ext_iff_of_nodup hn List.nodup_range]
 intro q;rw [List.mem_range];exact ⟨hlt q,hall q⟩
theorem PX {α β:Type} (m:List α) (g:α→Option β):((List.range m.length).filterMap fun q=>(m[q]?).bind g)=m.filterMap g:=by
 have key:∀k,k≤m.length→((List.range k).filterMap fun q=>(m[q]?).bind g)=(m.take k).filterMap g:=by
  intro k
  induction k with
  |zero=>intro _;rfl
  |succ k ih=>
   intro hk
   obtain ⟨x,hx⟩:=at_ (l:=m) (k:=k) (by omega)
   rw [List.range_succ,List.filterMap_append,Vw g hx,ih (by omega),PW,hx];rfl
 rw [key m.length (Nat.le_refl _),List.take_length]
def DK (f g:AO):Int:=max (f.day-g.day) (g.day-f.day)
def closer (f g b:AO):Bool:=decide (FY [An (DK f g) (DK f b),An g.day b.day,An g.machine b.machine]<0)
def D5 (f g:AO) (AE:Int):Bool:=decide (g.machine=0∨¬g.host=f.host∨AE<DK f g)
def Bo (l:List AO) (f:AO) (AE:Int):Nat→Int
 |0=> -1
 |k+1=>match l[k]? with
  |none=>Bo l f AE k
  |some g=>if D5 f g AE then Bo l f AE k else if Bo l f AE k<0 then (k:Nat) else match l[(Bo l f AE k).toNat]? with
   |none=>(k:Nat)
   |some b=>if closer f g b then (k:Nat) else Bo l f AE k
abbrev near (l:List AO) (f:AO) (AE:Int):Int:=Bo l f AE l.length
theorem C_ {l:List AO} {f g:AO} {AE:Int} {k:Nat} (hg:l[k]? =some g) (h:D5 f g AE=true):Bo l f AE (k+1)=Bo l f AE k:=by
 show (match l[k]? with|none=>_|some g=>_)=_
 rw [hg];exact if_pos h
theorem GP {l:List AO} {f g:AO} {AE:Int} {k:Nat} (hg:l[k]? =some g) (h:D5 f g AE=false) (h0:Bo l f AE k<0):Bo l f AE (k+1)=(k:Nat):=by
 show (match l[k]? with|none=>_|some g=>_)=_
 rw [hg];show (if D5 f g AE=true then _ else _)=_
 rw [if_neg (by simp [h]),if_pos h0]
theorem Gu {l:List AO} {f g b:AO} {AE:Int} {k:Nat} (hg:l[k]? =some g) (h:D5 f g AE=false) (h0:¬Bo l f AE k<0) (hb:l[(Bo l f AE k).toNat]? =some b):Bo l f AE (k+1)=if closer f g b then ((k:Nat):Int) else Bo l f AE k:=by
 show (match l[k]? with|none=>_|some g=>_)=_
 rw [hg];show (if D5 f g AE=true then _ else _)=_
 rw [if_neg (by simp [h]),if_neg h0,hb]
theorem K5 (l:List AO) (f:AO) (AE:Int):∀k,Bo l f AE k= -1∨(0≤Bo l f AE k∧(Bo l f AE k).toNat<k∧∃g,l[(Bo l f AE k).toNat]? =some g∧D5 f g AE=false)
 |0=> .inl rfl
 |k+1=>by
  have ih:=K5 l f AE k
  cases hg:l[k]? with
  |none=>
   have e:Bo l f AE (k+1)=Bo l f AE k:=by show (match l[k]? with|none=>_|some g=>_)=_;rw [hg]
   rw [e]
   rcases ih with ih|⟨h1,h2,h3⟩
   · exact .inl ih
   · exact .inr ⟨h1,by omega,h3⟩
  |some g=>
   have hk:∀e:Bo l f AE (k+1)=(k:Nat),D5 f g AE=false→(Bo l f AE (k+1)= -1∨(0≤Bo l f AE (k+1)∧(Bo l f AE (k+1)).toNat<k+1∧∃g,l[(Bo l f AE (k+1)).toNat]? =some g∧D5 f g AE=false)):=by
    intro e hs
    rw [e]
    exact .inr ⟨by omega,by simp,g,by rw [Int.toNat_natCast];exact hg,hs⟩
   have hold:Bo l f AE (k+1)=Bo l f AE k→(Bo l f AE (k+1)= -1∨(0≤Bo l f AE (k+1)∧(Bo l f AE (k+1)).toNat<k+1∧∃g,l[(Bo l f AE (k+1)).toNat]? =some g∧D5 f g AE=false)):=by
    intro e
    rw [e]
    rcases ih with ih|⟨h1,h2,h3⟩
    · exact .inl ih
    · exact .inr ⟨h1,by omega,h3⟩
   cases hs:D5 f g AE with
   |true=>exact hold (C_ hg hs)
   |false=>
    rcases ih with h1|⟨h1,h2,b,hb,h3⟩
    · exact hk (GP hg hs (by omega)) hs
    ·
     have e:=Gu hg hs (by omega) hb
     cases hc:closer f g b with
     |true=>rw [hc] at e;exact hk e hs
     |false=>rw [hc] at e;exact hold e
def ET (l:List AO) (AE:Int) (i:Nat):Int:=match l[i]? with
 |none=>0
 |some f=>if f.machine=0 then (match l[(near l f AE).toNat]? with|some g=>if near l f AE<0 then 0 else g.machine|none=>0) else f.machine
theorem Ev {l:List AO} {AE:Int} {i:Nat} {f:AO} (hf:l[i]? =some f) (h:¬f.machine=0):ET l AE i=f.machine:=by
 unfold ET;rw [hf];exact if_neg h
theorem FQ {l:List AO} {AE:Int} {i:Nat} {f g:AO} (hf:l[i]? =some f) (h:f.machine=0) (hn:0≤near l f AE) (hg:l[(near l f AE).toNat]? =some g):ET l AE i=g.machine:=by
 unfold ET;rw [hf];show (if _ then _ else _)=_
 rw [if_pos h,hg];exact if_neg (by omega)
theorem EF {l:List AO} {AE:Int} {i:Nat} {f:AO} (hf:l[i]? =some f) (h:f.machine=0) (hn:near l f AE<0):ET l AE i=0:=by
 unfold ET;rw [hf];show (if _ then _ else _)=_
 rw [if_pos h];split
 · rw [if_pos hn]
 · rfl
theorem EU {l:List AO} {f:AO} {AE:Int} (hn:0≤near l f AE):(near l f AE).toNat<l.length∧∃g,l[(near l f AE).toNat]? =some g∧¬g.machine=0∧g.host=f.host∧DK f g≤AE:=by
 rcases K5 l f AE l.length with h|⟨h1,h2,g,hg,h3⟩
 ·
  have h:near l f AE= -1:=h
  omega
 ·
  refine ⟨h2,g,hg,?_⟩
  unfold D5 at h3
  rw [decide_eq_false_iff_not] at h3
  refine ⟨fun e=>h3 (.inl e),Classical.byContradiction fun e=>h3 (.inr (.inl e)),?_⟩
  rcases Int.lt_or_le AE (DK f g) with h|h
  · exact absurd (.inr (.inr h)) h3
  · exact h
theorem Vx {l:List AO} {AE:Int} {i:Nat} {f:AO} (hf:l[i]? =some f) (h:¬ET l AE i=0):(¬f.machine=0∧ET l AE i=f.machine)∨(f.machine=0∧0≤near l f AE∧∃g,l[(near l f AE).toNat]? =some g∧g.machine=ET l AE i∧¬g.machine=0):=by
 by_cases hm:f.machine=0
 ·
  right
  rcases Int.lt_or_le (near l f AE) 0 with hn|hn
  · exact absurd (EF hf hm hn) h
  ·
   obtain ⟨h1,g,hg,h2,_⟩:=EU hn
   exact ⟨hm,hn,g,hg,(FQ hf hm hn hg).symm,h2⟩
 · exact .inl ⟨hm,Ev hf hm⟩
theorem EV {l:List AO} {AE:Int} {i:Nat} {f:AO} (hf:l[i]? =some f) (h:ET l AE i=0):f.machine=0∧near l f AE<0:=by
 by_cases hm:f.machine=0
 ·
  refine ⟨hm,?_⟩
  rcases Int.lt_or_le (near l f AE) 0 with hn|hn
  · exact hn
  ·
   obtain ⟨h1,g,hg,h2,_⟩:=EU hn
   rw [FQ hf hm hn hg] at h;exact absurd h h2
 · rw [Ev hf hm] at h;exact absurd h hm
def prevK (l:List AO) (AE:Int):Nat→Int
 |0=> -1
 |k+1=>if ET l AE k=0 then (k:Nat) else prevK l AE k
theorem EW (l:List AO) (AE:Int):∀k,prevK l AE k= -1∨(0≤prevK l AE k∧(prevK l AE k).toNat<k∧ET l AE (prevK l AE k).toNat=0)
 |0=> .inl rfl
 |k+1=>by
  unfold prevK
  split
  · rename_i h;exact .inr ⟨by omega,by simp,by simpa using h⟩
  ·
   rcases EW l AE k with h|⟨h1,h2,h3⟩
   · exact .inl h
   · exact .inr ⟨h1,by omega,h3⟩
theorem L5 {l:List AO} {AE:Int}:∀k j,j<k→ET l AE j=0→(j:Int)≤prevK l AE k
 |0,_,h,_=>absurd h (Nat.not_lt_zero _)
 |k+1,j,h,hj=>by
  unfold prevK
  split
  · omega
  ·
   rename_i hk
   have:j<k:=by
    rcases Nat.lt_or_eq_of_le (Nat.le_of_lt_succ h) with h1|h1
    · exact h1
    · rw [h1] at hj;exact absurd hj hk
   exact L5 k j this hj
abbrev E8 (l:List AO) (AE:Int) (p i:Nat):Bool:=match l[p]?,l[i]? with
 |some g,some f=>decide (g.host=f.host∧DK f g≤AE)
 |_,_=>false
def AR (l:List AO) (AE:Int) (i:Nat):Nat:=
 if ET l AE i=0 then (if _h:0≤prevK l AE i∧(prevK l AE i).toNat<i∧E8 l AE (prevK l AE i).toNat i=true then AR l AE (prevK l AE i).toNat else i)
 else ((List.range i).find? fun k=>decide (ET l AE k=ET l AE i)).getD i
termination_by i
decreasing_by omega
theorem GQ {l:List AO} {AE:Int} {i:Nat} (h:ET l AE i=0) (hp:0≤prevK l AE i) (hn:E8 l AE (prevK l AE i).toNat i=true):AR l AE i=AR l AE (prevK l AE i).toNat:=by
 have h2:(prevK l AE i).toNat<i:=by rcases EW l AE i with h1|⟨_,h1,_⟩<;>omega
 rw [AR,if_pos h,dif_pos ⟨hp,h2,hn⟩]
theorem GR {l:List AO} {AE:Int} {i:Nat} (h:ET l AE i=0) (hn:¬(0≤prevK l AE i∧E8 l AE (prevK l AE i).toNat i=true)):AR l AE i=i:=by
 rw [AR,if_pos h,dif_neg (fun hh=>hn ⟨hh.1,hh.2.2⟩)]
theorem EX (l:List AO) (AE:Int):∀i,AR l AE i≤i:=by
 intro i
 induction i using Nat.strongRecOn with
 |_ i ih=>
  rw [AR]
  split
  ·
   split
   · rename_i h;have:=ih _ h.2.1;omega
   · exact Nat.le_refl _
  ·
   cases hf:(List.range i).find? fun k=>decide (ET l AE k=ET l AE i) with
   |none=>exact Nat.le_refl _
   |some k=>have:=List.mem_range.1 (List.mem_of_find?_eq_some hf);simp;omega
theorem Jv {l:List AO} {AE:Int} {i:Nat} (h:¬ET l AE i=0):ET l AE (AR l AE i)=ET l AE i∧∀j,j<AR l AE i→¬ET l AE j=ET l AE i:=by
 rw [AR,if_neg h]
 cases hf:(List.range i).find? fun k=>decide (ET l AE k=ET l AE i) with
 |none=>
  rw [List.find?_eq_none] at hf
  exact ⟨rfl,fun j hj e=>hf j (List.mem_range.2 hj) (by simpa using e)⟩
 |some k=>
  rw [List.find?_range_eq_some] at hf
  obtain ⟨h1,h2,h3⟩:=hf
  exact ⟨by simpa using h1,fun j hj=>by simpa using h3 j hj⟩
theorem L6 {l:List AO} {AE:Int} {i j:Nat} (h:¬ET l AE i=0) (e:ET l AE j=ET l AE i):AR l AE j=AR l AE i:=by
 obtain ⟨h1,h2⟩:=Jv h
 obtain ⟨h3,h4⟩:=Jv (i:=j) (by rw [e];exact h)
 rw [e] at h3 h4
 rcases Nat.lt_trichotomy (AR l AE j) (AR l AE i) with h5|h5|h5
 · exact absurd h3 (h2 _ h5)
 · exact h5
 · exact absurd h1 (h4 _ h5)
def Cv (l:List AO) (m:Int):Nat→Int
 |0=> -1
 |k+1=>if (l[k]?).map (·.machine)=some m then (k:Nat) else Cv l m k
theorem FR (l:List AO) (m:Int):∀k,Cv l m k= -1∨(0≤Cv l m k∧(Cv l m k).toNat<k∧∃g,l[(Cv l m k).toNat]? =some g∧g.machine=m)
 |0=> .inl rfl
 |k+1=>by
  unfold Cv
  split
  ·
   rename_i h
   rw [Option.map_eq_some_iff] at h
   obtain ⟨g,h1,h2⟩:=h
   exact .inr ⟨by omega,by simp,g,by rw [Int.toNat_natCast];exact h1,h2⟩
  ·
   rcases FR l m k with h|⟨h1,h2,h3⟩
   · exact .inl h
   · exact .inr ⟨h1,by omega,h3⟩
theorem L7 {l:List AO} {m:Int}:∀(k j:Nat) (g:AO),j<k→l[j]? =some g→g.machine=m→(j:Int)≤Cv l m k
 |0,_,_,h,_,_=>absurd h (Nat.not_lt_zero _)
 |k+1,j,g,h,hg,hm=>by
  unfold Cv
  split
  · omega
  ·
   rename_i hk
   have:j<k:=by
    rcases Nat.lt_or_eq_of_le (Nat.le_of_lt_succ h) with h1|h1
    · exact h1
    · rw [h1] at hg;exact absurd (by rw [hg];simp [hm]) hk
   exact L7 k j g this hg hm
def CA (l:List AO) (AE:Int) (i:Nat):Int:=match l[i]? with
 |none=> -1
 |some f=>if f.machine=0 then (if near l f AE<0 then (if 0≤prevK l AE i∧E8 l AE (prevK l AE i).toNat i=true then prevK l AE i else -1) else near l f AE) else Cv l f.machine i
def DU (R:Nat→Nat) (i k:Nat):Nat→Nat:=fun x=>if R x=max (R i) (R k) then min (R i) (R k) else R x
structure Vy (R:Nat→Nat):Prop where
 le:∀x,R x≤x
 idem:∀x,R (R x)=R x
theorem L8 {R:Nat→Nat} (h:Vy R) (i k:Nat):Vy (DU R i k):=by
 refine ⟨fun x=> ?_,fun x=> ?_⟩
 · unfold DU;have:=h.le x;split<;>omega
 ·
  have hi:=h.idem i
  have hk:=h.idem k
  have hx:=h.idem x
  have hmin:R (min (R i) (R k))=min (R i) (R k):=by rcases Nat.le_total (R i) (R k) with h1|h1;rw [Nat.min_eq_left h1];exact hi;rw [Nat.min_eq_right h1];exact hk
  unfold DU
  by_cases e:R x=max (R i) (R k)
  · rw [if_pos e,hmin];split<;>rfl
  · rw [if_neg e,hx,if_neg e]
theorem PY (R:Nat→Nat) (i k:Nat):DU R i k i=DU R i k k:=by
 unfold DU
 rcases Nat.lt_trichotomy (R i) (R k) with h|h|h
 · rw [if_neg (by omega),if_pos (by omega)];omega
 · rw [if_pos (by omega),if_pos (by omega)]
 · rw [if_pos (by omega),if_neg (by omega)];omega
theorem PZ {R:Nat→Nat} {x y:Nat} (h:R x=R y) (i k:Nat):DU R i k x=DU R i k y:=by unfold DU;rw [h]
theorem N9 {R key:Nat→Nat} (h:∀x y,R x=R y→key x=key y) {i k:Nat} (e:key i=key k):∀x y,DU R i k x=DU R i k y→key x=key y:=by
 have hm:∀x,(R x=R i∨R x=R k)→key x=key i:=by
  rintro x (h1|h1)
  · exact h _ _ h1
  · rw [e];exact h _ _ h1
 intro x y hxy
 unfold DU at hxy
 have h1:max (R i) (R k)=R i∨max (R i) (R k)=R k:=by omega
 have h2:min (R i) (R k)=R i∨min (R i) (R k)=R k:=by omega
 by_cases ex:R x=max (R i) (R k)<;>by_cases ey:R y=max (R i) (R k)
 · rw [hm x (by omega),hm y (by omega)]
 · rw [if_pos ex,if_neg ey] at hxy;rw [hm x (by omega),hm y (by omega)]
 · rw [if_neg ex,if_pos ey] at hxy;rw [hm x (by omega),hm y (by omega)]
 · rw [if_neg ex,if_neg ey] at hxy;exact h _ _ hxy
def RR (l:List AO) (AE:Int):Nat→Nat→Nat
 |0=>fun x=>x
 |n+1=>if CA l AE n<0 then RR l AE n else DU (RR l AE n) n (CA l AE n).toNat
theorem M7 (l:List AO) (AE:Int):∀n,Vy (RR l AE n)
 |0=>⟨fun _=>Nat.le_refl _,fun _=>rfl⟩
 |n+1=>by unfold RR;split;exact M7 l AE n;exact L8 (M7 l AE n) _ _
theorem Vz {l:List AO} {AE:Int} {x y n:Nat} (h:RR l AE n x=RR l AE n y):∀m,n≤m→RR l AE m x=RR l AE m y:=by
  intro m hm
  induction m with
  | zero => have : n = 0 := by omega
            rw [this] at h;exact h
  |succ m ih=>
    rcases Nat.lt_or_eq_of_le hm with h1|h1
    · unfold RR;split
      · exact ih (by omega)
      · exact PZ (ih (by omega)) _ _
    · rw [←h1];exact h
theorem M8 {l:List AO} {AE:Int} {i n:Nat} (hi:i<n) (he:0≤CA l AE i):RR l AE n i=RR l AE n (CA l AE i).toNat:=by
 refine Vz (n:=i+1) ?_ n hi
 show (if _ then _ else _:Nat→Nat) i=(if _ then _ else _:Nat→Nat) _
 rw [if_neg (by omega)];exact PY _ _ _
theorem Pa {l:List AO} {AE:Int} {i:Nat} (he:0≤CA l AE i):AR l AE i=AR l AE (CA l AE i).toNat:=by
 unfold CA at he ⊢
 cases hf:l[i]? with
 |none=>rw [hf] at he;exact absurd (show (0:Int)≤ -1 from he) (by decide)
 |some f=>
  rw [hf] at he
  simp only [] at he ⊢
  by_cases hm:f.machine=0
  ·
   rw [if_pos hm] at he ⊢
   by_cases hn:near l f AE<0
   ·
    rw [if_pos hn] at he ⊢
    by_cases hp:0≤prevK l AE i∧E8 l AE (prevK l AE i).toNat i=true
    · rw [if_pos hp];exact GQ (EF hf hm hn) hp.1 hp.2
    · rw [if_neg hp] at he;omega
   ·
    rw [if_neg hn]
    obtain ⟨h1,g,hg,h2,_⟩:=EU (l:=l) (f:=f) (AE:=AE) (by omega)
    have e1:=FQ hf hm (by omega) hg
    have e2:=Ev (AE:=AE) hg h2
    exact L6 (by rw [e2];exact h2) (by rw [e1,e2])
  ·
   rw [if_neg hm] at he ⊢
   rcases FR l f.machine i with h|⟨h1,h2,g,hg,h3⟩
   · omega
   ·
    have e1:=Ev (AE:=AE) hf hm
    have e2:=Ev (AE:=AE) hg (by rw [h3];exact hm)
    exact L6 (by rw [e2,h3];exact hm) (by rw [e1,e2,h3])
theorem K6 (l:List AO) (AE:Int):∀n x y,RR l AE n x=RR l AE n y→AR l AE x=AR l AE y
 |0,_,_,h=>by have h:_=_:=h;exact congrArg _ h
 |n+1,x,y,h=>by
  unfold RR at h
  split at h
  · exact K6 l AE n x y h
  · exact N9 (K6 l AE n) (Pa (by omega)) x y h
theorem K7 {l:List AO} {AE:Int} {i:Nat} {f:AO} (hf:l[i]? =some f) (h:¬f.machine=0):CA l AE i=Cv l f.machine i:=by unfold CA;rw [hf];exact if_neg h
theorem Iw {l:List AO} {AE:Int} {i:Nat} {f:AO} (hf:l[i]? =some f) (h:f.machine=0) (hn:¬near l f AE<0):CA l AE i=near l f AE:=by unfold CA;rw [hf];show (if _ then _ else _)=_;rw [if_pos h,if_neg hn]
theorem HS {l:List AO} {AE:Int} {i:Nat} {f:AO} (hf:l[i]? =some f) (h:f.machine=0) (hn:near l f AE<0):CA l AE i=if 0≤prevK l AE i∧E8 l AE (prevK l AE i).toNat i=true then prevK l AE i else -1:=by unfold CA;rw [hf];show (if _ then _ else _)=_;rw [if_pos h,if_pos hn]
theorem K8 {l:List AO} {AE:Int} {m:Int} (hm:¬m=0):∀j i f g,i<j→l[i]? =some f→l[j]? =some g→f.machine=m→g.machine=m→RR l AE l.length i=RR l AE l.length j:=by
 intro j
 induction j using Nat.strongRecOn with
 |_ j ih=>
  intro i f g hij hf hg cq Ze
  have hjl:=(show j<l.length by rcases Nat.lt_or_ge j l.length with h|h;exact h;rw [List.getElem?_eq_none h] at hg;cases hg)
  have he:=K7 (AE:=AE) hg (by rw [Ze];exact hm)
  have CY:=L7 j i f hij hf (by rw [cq,←Ze])
  rcases FR l g.machine j with h|⟨h1,h2,u,hu,h3⟩
  · omega
  ·
   have hj:=M8 (n:=l.length) hjl (by rw [he];exact h1)
   rw [he] at hj
   rcases Nat.lt_or_eq_of_le (show i≤(Cv l g.machine j).toNat by omega) with h4|h4
   · rw [hj];exact ih _ h2 i f u h4 hf hu cq (by rw [h3,Ze])
   · rw [hj,h4]
theorem N_ {l:List AO} {AE:Int} {m:Int} (hm:¬m=0) {i j:Nat} {f g:AO} (hf:l[i]? =some f) (hg:l[j]? =some g) (cq:f.machine=m) (Ze:g.machine=m):RR l AE l.length i=RR l AE l.length j:=by
 rcases Nat.lt_trichotomy i j with h|h|h
 · exact K8 hm j i f g h hf hg cq Ze
 · rw [h]
 · exact (K8 hm i j g f h hg hf Ze cq).symm
theorem L9 {l:List AO} {AE:Int} {i:Nat} (hi:i<l.length) (h:¬ET l AE i=0):∃j g,l[j]? =some g∧g.machine=ET l AE i∧RR l AE l.length i=RR l AE l.length j:=by
 obtain ⟨f,hf⟩:=at_ hi
 rcases Vx hf h with ⟨h1,h2⟩|⟨h1,h2,g,hg,h3,h4⟩
 · exact ⟨i,f,hf,h2.symm,rfl⟩
 ·
  have he:=Iw (AE:=AE) hf h1 (by omega)
  have:=M8 (n:=l.length) hi (by rw [he];exact h2)
  rw [he] at this
  exact ⟨_,g,hg,h3,this⟩
theorem Qs {l:List AO} {AE:Int}:∀i,i<l.length→RR l AE l.length i=RR l AE l.length (AR l AE i):=by
 intro i
 induction i using Nat.strongRecOn with
 |_ i ih=>
  intro hi
  obtain ⟨f,hf⟩:=at_ hi
  by_cases h:ET l AE i=0
  ·
   obtain ⟨h1,h2⟩:=EV hf h
   by_cases hp:0≤prevK l AE i∧E8 l AE (prevK l AE i).toNat i=true
   ·
    have he:=HS hf h1 h2
    rw [if_pos hp] at he
    have h3:=M8 (n:=l.length) hi (by rw [he];exact hp.1)
    rw [he] at h3
    have h4:(prevK l AE i).toNat<i:=by rcases EW l AE i with h5|⟨_,h5,_⟩<;>omega
    rw [h3,GQ h hp.1 hp.2]
    exact ih _ h4 (by omega)
   · rw [GR h hp]
  ·
   obtain ⟨h1,_⟩:=Jv h
   have hr:=EX l AE i
   obtain ⟨j,g,hg,h2,h3⟩:=L9 hi h
   obtain ⟨j',g',hg',h4,h5⟩:=L9 (l:=l) (AE:=AE) (i:=AR l AE i) (by omega) (by rw [h1];exact h)
   rw [h3,h5]
   exact N_ h hg hg' h2 (by rw [h4,h1])
theorem Qt {l:List AO} {AE:Int} {i:Nat} (hi:i<l.length):RR l AE l.length i=AR l AE i:=by
 have hr:=M7 l AE l.length
 have h1:=Qs (AE:=AE) i hi
 have h2:=hr.le (AR l AE i)
 have h3:=K6 l AE l.length _ _ (hr.idem i)
 have h4:=EX l AE (RR l AE l.length i)
 omega
theorem Pb {l:List AO} {AE:Int} {i:Nat} (hi:i<l.length):AR l AE (AR l AE i)=AR l AE i:=by
 have hr:=M7 l AE l.length
 have h1:=EX l AE i
 rw [←Qt (l:=l) (AE:=AE) (i:=AR l AE i) (by omega),←Qs i hi,Qt hi]
structure GS where
 num:Int
 A7:List (List UInt8)
 As:List Int
 BC:List Int
deriving DecidableEq
section
variable {α:Type}
def Cn (c:α→α→Int) (l:List α) (x:α):List α:=match l with
 |[]=>[x]
 |y::r=>if c y x<0 then y::Cn c r x else if c y x=0 then y::r else x::y::r
theorem OA {c:α→α→Int} (he:∀x y,c x y=0→x=y) {x z:α}:∀{l:List α},z∈Cn c l x↔z∈l∨z=x
 |[]=>by simp [Cn]
 |y::r=>by
  unfold Cn
  split
  · rw [List.mem_cons,OA he,List.mem_cons,or_assoc]
  ·
   split
   ·
    rename_i h
    constructor
    · exact .inl
    ·
     rintro (h1|rfl)
     · exact h1
     · rw [←he _ _ h];exact List.mem_cons_self ..
   ·
    rw [List.mem_cons]
    constructor
    ·
     rintro (h|h)
     · exact .inr h
     · exact .inl h
    ·
     rintro (h|h)
     · exact .inr h
     · exact .inl h
theorem Ew {c:α→α→Int} (hc:Jd c) (he:∀x y,c x y=0→x=y) {x:α}:∀{l:List α},l.Pairwise (fun a b=>c a b<0)→(Cn c l x).Pairwise (fun a b=>c a b<0)
 |[],_=>by unfold Cn;simp
 |y::r,h=>by
  obtain ⟨h1,h2⟩:=List.pairwise_cons.1 h
  unfold Cn
  split
  ·
   rename_i hlt
   refine List.pairwise_cons.2 ⟨fun z hz=> ?_,Ew hc he h2⟩
   rcases (OA he).1 hz with hz|rfl
   · exact h1 z hz
   · exact hlt
  ·
   split
   · exact h
   ·
    rename_i hn h0
    have hs:=hc.swap y x
    have hxy:c x y<0:=by omega
    refine List.pairwise_cons.2 ⟨fun z hz=> ?_,h⟩
    rcases List.mem_cons.1 hz with rfl|hz
    · exact hxy
    · exact hc.tr x y z hxy (h1 z hz)
theorem GU (c:α→α→Int) (x:α):∀l:List α,(Cn c l x).length≤l.length+1
 |[]=>by simp [Cn]
 |y::r=>by
  unfold Cn
  have:=GU c x r
  split
  · simp only [List.length_cons];omega
  · split<;>simp
theorem Gv {c:α→α→Int} {x:α}:∀{l:List α} {k:Nat},k≤l.length→(∀(j:Nat) y,j<k→l[j]? =some y→c y x<0)→(∀y,l[k]? =some y→¬c y x<0)→Cn c l x=if (l[k]?).any (fun y=>decide (c y x=0)) then l else l.take k++x::l.drop k
 |[],k,hk,_,_=>by
  have:k=0:=by simpa using hk
  subst this;rfl
 |y::r,0,_,_,h2=>by
  have:=h2 y rfl
  unfold Cn
  rw [if_neg this]
  show _=if (some y).any _ then _ else _
  by_cases h:c y x=0
  · rw [if_pos h,if_pos (by simp [h])]
  · rw [if_neg h,if_neg (by simp [h])];rfl
 |y::r,k+1,hk,h1,h2=>by
  have h:=h1 0 y (by omega) rfl
  unfold Cn
  rw [if_pos h,Gv (k:=k) (by simpa using hk) (fun j z hj hz=>h1 (j+1) z (by omega) (by simpa using hz)) (fun z hz=>h2 z (by simpa using hz))]
  rw [List.getElem?_cons_succ]
  split<;>simp
end
abbrev Ej (l:List (List UInt8)) (x:List UInt8):List (List UInt8):=Cn Lib.compareBytes l x
abbrev K9 (l:List Int) (x:Int):List Int:=Cn An l x
def DV (e:GS) (f:AO) (i:Int):GS:=⟨e.num,Ej e.A7 f.host,if f.machine=0 then e.As else K9 e.As f.machine,e.BC++[i]⟩
def Ba (l:List AO) (root:Nat→Nat) (r:Nat):Nat→GS
 |0=>⟨(r:Nat),[],[],[]⟩
 |n+1=>match l[n]? with
  |none=>Ba l root r n
  |some f=>if root n=r then DV (Ba l root r n) f (n:Nat) else Ba l root r n
def Bi (root:Nat→Nat) (n:Nat):List Nat:=(List.range n).filter fun r=>decide (root r=r)
def CR (l:List AO) (root:Nat→Nat) (n:Nat):List GS:=(Bi root n).map fun r=>Ba l root r n
abbrev IE (l:List AO) (AE:Int):List GS:=CR l (AR l AE) l.length
theorem Dw (root:Nat→Nat) (n:Nat):Bi root (n+1)=Bi root n++if root n=n then [n] else []:=by
 unfold Bi
 rw [List.range_succ,List.filter_append]
 congr 1
 by_cases h:root n=n<;>simp [h]
theorem Iy {root:Nat→Nat} {n r:Nat} (h:r∈Bi root n):r<n∧root r=r:=by
 unfold Bi at h
 rw [List.mem_filter,List.mem_range] at h
 exact ⟨h.1,by simpa using h.2⟩
theorem K_ (root:Nat→Nat) (n:Nat):(Bi root n).Pairwise (· < ·):=(List.pairwise_lt_range).filter _
theorem Gw {l:List AO} {root:Nat→Nat} (hle:∀i,root i≤i) {r:Nat}:∀n,n≤r→Ba l root r n=⟨(r:Nat),[],[],[]⟩
 |0,_=>rfl
 |n+1,h=>by
  unfold Ba
  have:=hle n
  rw [Gw hle n (by omega)]
  split
  · rfl
  · rw [if_neg (by omega)]
theorem FT {l:List AO} {root:Nat→Nat} {r n:Nat} {f:AO} (hf:l[n]? =some f) (h:root n=r):Ba l root r (n+1)=DV (Ba l root r n) f (n:Nat):=by
 show (match l[n]? with|none=>_|some f=>_)=_
 rw [hf];exact if_pos h
theorem Gx {l:List AO} {root:Nat→Nat} {r n:Nat} (h:¬root n=r):Ba l root r (n+1)=Ba l root r n:=by
 show (match l[n]? with|none=>_|some f=>_)=_
 split
 · rfl
 · exact if_neg h
theorem IF (l:List AO) (root:Nat→Nat) (r:Nat):∀n,(Ba l root r n).num=(r:Nat)
 |0=>rfl
 |n+1=>by
  unfold Ba
  split
  · exact IF l root r n
  ·
   split
   · exact IF l root r n
   · exact IF l root r n
theorem Bh {α:Type} {l:List α} {k:Nat} {x:α} (h:l[k]? =some x):k<l.length:=by
 rcases Nat.lt_or_ge k l.length with h'|h'
 · exact h'
 · rw [List.getElem?_eq_none h'] at h;cases h
theorem Pc {l:List AO} {root:Nat→Nat} (hle:∀i,root i≤i) {n:Nat} {f:AO} (hf:l[n]? =some f) {k:Nat} (hk:(Bi root (n+1))[k]? =some (root n)):
  CR l root (n+1)=(CR l root n++if root n=n then [(⟨(n:Nat),[],[],[]⟩:GS)] else []).set k (DV (Ba l root (root n) n) f (n:Nat)):=by
 have e1:(CR l root n++if root n=n then [(⟨(n:Nat),[],[],[]⟩:GS)] else [])=(Bi root (n+1)).map fun r=>Ba l root r n:=by
  rw [Dw,List.map_append]
  unfold CR
  congr 1
  split
  · rw [List.map_singleton,Gw hle n (Nat.le_refl _)]
  · rfl
 rw [e1]
 unfold CR
 refine List.ext_getElem? fun j=> ?_
 rw [List.getElem?_map,List.getElem?_set]
 have GJ:=Bh hk
 by_cases hj:k=j
 ·
  subst hj
  rw [if_pos rfl,List.length_map,if_pos GJ,hk]
  exact congrArg some (FT hf rfl)
 ·
  rw [if_neg hj,List.getElem?_map]
  cases hr:(Bi root (n+1))[j]? with
  |none=>rfl
  |some r=>
   refine congrArg some (Gx fun e=> ?_)
   subst e
   have hp:=K_ root (n+1)
   have hjl:=Bh hr
   rw [List.pairwise_iff_getElem] at hp
   rw [List.getElem?_eq_getElem GJ] at hk
   rw [List.getElem?_eq_getElem hjl] at hr
   simp only [Option.some.injEq] at hk hr
   rcases Nat.lt_or_gt_of_ne hj with h|h
   · have:=hp k j GJ hjl h;omega
   · have:=hp j k hjl GJ h;omega
structure UF (p:List Int) (R:Nat→Nat):Prop where
 len:p.length=400
 rep:Vy R
 par:∀x,x<400→∃y:Nat,p[x]? =some (y:Int)∧y≤x∧R y=R x∧(y=x↔R x=x)
theorem UF.join {p:List Int} {R:Nat→Nat} (h:UF p R) {i k:Nat} (hi:i<400) (hk:k<400):UF (p.set (max (R i) (R k)) ((min (R i) (R k):Nat):Int)) (DU R i k):=by
 have h1:=h.rep.le i
 have h2:=h.rep.le k
 have h3:=h.rep.idem i
 have h4:=h.rep.idem k
 have hmin:R (min (R i) (R k))=min (R i) (R k):=by rcases Nat.le_total (R i) (R k) with h1|h1;rw [Nat.min_eq_left h1];exact h3;rw [Nat.min_eq_right h1];exact h4
 have CY:R (max (R i) (R k))=max (R i) (R k):=by rcases Nat.le_total (R i) (R k) with h1|h1;rw [Nat.max_eq_right h1];exact h4;rw [Nat.max_eq_left h1];exact h3
 refine ⟨by rw [List.length_set];exact h.len,L8 h.rep i k,fun x hx=> ?_⟩
 by_cases e:x=max (R i) (R k)
 ·
  subst e
  refine ⟨min (R i) (R k),List.getElem?_set_self (by rw [h.len];omega),by omega,?_,?_⟩
  · unfold DU;rw [hmin,CY,if_pos rfl];split<;>rfl
  · unfold DU;rw [CY,if_pos rfl]
 ·
  obtain ⟨y,hy,h5,h6,h7⟩:=h.par x hx
  refine ⟨y,by rw [List.getElem?_set_ne (by omega)];exact hy,h5,by unfold DU;rw [h6],?_⟩
  have hle:=h.rep.le x
  constructor
  ·
   intro e2
   have hr:=h7.1 e2
   unfold DU;rw [if_neg (by omega)];exact hr
  ·
   intro e2
   unfold DU at e2
   by_cases hm:R x=max (R i) (R k)
   ·
    rw [if_pos hm] at e2
    rw [←e2,hmin] at hm
    omega
   · rw [if_neg hm] at e2;exact h7.2 e2
def Ex (k:Nat):List Int:=(List.range k).map (fun n=>((n:Nat):Int))++List.replicate (400-k) 0
theorem Rp {k:Nat} (hk:k<400):(Ex k).set k ((k:Nat):Int)=Ex (k+1):=by
 unfold Ex
 rw [List.set_append_right _ _ (by simp)]
 simp only [List.length_map,List.length_range,Nat.sub_self]
 rw [show 400-k=(400-(k+1))+1 by omega,List.replicate_succ,List.set_cons_zero,List.range_succ,List.map_append,List.append_assoc];rfl
theorem Iz {k:Nat} (hk:k≤400):(Ex k).length=400:=by unfold Ex;simp;omega
theorem UF.start:UF (Ex 400) (fun x=>x):=
 ⟨Iz (Nat.le_refl _),⟨fun _=>Nat.le_refl _,fun _=>rfl⟩,fun x hx=>⟨x,by unfold Ex;rw [List.getElem?_append_left (by simpa using hx),List.getElem?_map,List.getElem?_range hx];rfl,Nat.le_refl _,rfl,by simp⟩⟩
abbrev arr (p:List Int):List Pr:=p.map fun n=>int n
theorem Yn {p:List Int} {i:Nat} {x:Int} (h:p[i]? =some x):(arr p)[i]? =some (int x):=by rw [List.getElem?_map,h];rfl
theorem M9 {p:List Int} {i:Int} {x:Int} (h:p[i.toNat]? =some x):(arr p)[0+i.toNat*1]? =some (int x):=by rw [Nat.zero_add,Nat.mul_one];exact Yn h
theorem M_ {p:List Int} {i:Nat} {x:Int} (h:i<p.length):(arr p).take i++[int x]++(arr p).drop (i+1)=arr (p.set i x):=by
 unfold arr
 rw [List.map_set,List.set_eq_take_append_cons_drop,if_pos (by simpa using h)];simp
theorem I0 {a b:AO} (h:DT a b<0):Lib.compareBytes a.host b.host≤0∧(a.host=b.host→An a.machine b.machine≤0∧(a.machine=b.machine→An a.day b.day≤0)):=by
 have h:FY (D4 a b)<0:=h
 unfold D4 at h
 rw [K4,K4,K4] at h
 refine ⟨?_,fun e=>⟨?_,fun e2=> ?_⟩⟩
 · split at h<;>omega
 ·
  rw [if_pos ((CK _ _).2 e)] at h
  split at h<;>omega
 ·
  rw [if_pos ((CK _ _).2 e),if_pos (Cf.2 e2)] at h
  split at h<;>omega
theorem V0 {a b:Int} (h:An a b≤0):a≤b:=by
 unfold An at h
 by_cases h1:a<b
 · omega
 ·
  rw [if_neg h1] at h
  by_cases h2:b<a
  · rw [if_pos h2] at h;omega
  · omega
theorem Tj {l:List AO} (hl:Jc l) {j k:Nat} {f g:AO} (hf:l[j]? =some f) (hg:l[k]? =some g) (hjk:j<k) (hh:f.host=g.host) (hm:f.machine=g.machine):f.day≤g.day:=
 V0 (((I0 (HR hl hf hg hjk)).2 hh).2 hm)
theorem Pf {l:List AO} (hl:Jc l) {i j k:Nat} {e f g:AO} (he:l[i]? =some e) (hf:l[j]? =some f) (hg:l[k]? =some g) (hij:i<j) (hjk:j<k) (hh:e.host=g.host):f.host=g.host:=by
 have h1:=(I0 (HR hl he hf hij)).1
 have h2:=(I0 (HR hl hf hg hjk)).1
 have hs:=EP f.host e.host
 rw [hh] at h1 hs
 have hs:=EP f.host g.host
 exact (CK _ _).1 (by omega)
theorem L_ {l:List AO} {AE:Int} {i:Nat} {f:AO} (hf:l[i]? =some f):ET l AE i=0↔(f.machine=0∧near l f AE<0):=⟨EV hf,fun h=>EF hf h.1 h.2⟩
theorem JQ {l:List AO} {AE:Int} (hl:Jc l) {i k:Nat} {f g:AO} (hf:l[i]? =some f) (hg:l[k]? =some g) (hi:ET l AE i=0) (hki:k<i) (hk:ET l AE k=0) (hh:g.host=f.host) (hno:∀j,k<j→j<i→∀e,l[j]? =some e→¬(e.host=f.host∧ET l AE j=0)):
  AR l AE i=if f.day-g.day≤AE then AR l AE k else i:=by
 have CY:=L5 i k hki hk
 have CS:=Bh hf
 have hp:prevK l AE i=(k:Nat):=by
  rcases EW l AE i with h|⟨h1,h2,h3⟩
  · omega
  ·
   rcases Nat.lt_or_eq_of_le (show k≤(prevK l AE i).toNat by omega) with h4|h4
   ·
    exfalso
    obtain ⟨e,he⟩:=at_ (l:=l) (k:=(prevK l AE i).toNat) (by omega)
    exact hno _ h4 h2 e he ⟨Pf hl hg he hf h4 h2 hh,h3⟩
   · omega
 have hd:=Tj hl hg hf hki hh (by rw [(EV hg hk).1,(EV hf hi).1])
 have hdist:DK f g=f.day-g.day:=by unfold DK;omega
 have hn:E8 l AE (prevK l AE i).toNat i=decide (f.day-g.day≤AE):=by
  rw [hp]
  show (match l[((k:Nat):Int).toNat]?,l[i]? with|some g,some f=>_|_,_=>_)=_
  rw [Int.toNat_natCast,hg,hf]
  show decide (g.host=f.host∧DK f g≤AE)=_
  rw [hdist,decide_eq_decide]
  exact ⟨fun h=>h.2,fun h=>⟨hh,h⟩⟩
 by_cases iS:f.day-g.day≤AE
 · rw [if_pos iS,GQ hi (by omega) (by rw [hn];simpa using iS),hp,Int.toNat_natCast]
 · rw [if_neg iS,GR hi (by rw [hn];simp;omega)]
theorem Pg {l:List AO} {AE:Int} {i:Nat} {f:AO} (hf:l[i]? =some f) (hi:ET l AE i=0) (hno:∀j,j<i→∀e,l[j]? =some e→¬(e.host=f.host∧ET l AE j=0)):AR l AE i=i:=by
 refine GR hi ?_
 rintro ⟨h1,h2⟩
 have CS:=Bh hf
 rcases EW l AE i with h|⟨_,h3,h4⟩
 · omega
 ·
  obtain ⟨e,he⟩:=at_ (l:=l) (k:=(prevK l AE i).toNat) (by omega)
  have h2':(match l[(prevK l AE i).toNat]?,l[i]? with|some g,some f=>decide (g.host=f.host∧DK f g≤AE)|_,_=>false)=true:=h2
  rw [he,hf] at h2'
  exact hno _ h3 e he ⟨(of_decide_eq_true h2').1,h4⟩
theorem GV {l:List AO} {AE:Int} {i k:Nat} (h:¬ET l AE i=0) (hki:k≤i) (hk:ET l AE k=ET l AE i) (hno:∀j,j<k→¬ET l AE j=ET l AE i):AR l AE i=k:=by
 obtain ⟨h1,h2⟩:=Jv h
 rcases Nat.lt_trichotomy (AR l AE i) k with h3|h3|h3
 · exact absurd h1 (hno _ h3)
 · exact h3
 · exact absurd hk (h2 _ h3)
theorem I2 {f:AO} (h:¬(if BB f then (0:Int) else 24)=0):BB f=false:=by
 cases hc:BB f with
 |false=>rfl
 |true=>rw [hc] at h;exact absurd rfl h
theorem HT {f:AO} (h:(if BB f then (0:Int) else 24)=0):BB f=true:=by
 cases hc:BB f with
 |true=>rfl
 |false=>rw [hc] at h;cases h
def HU (l:List AO):Prop:=∀f∈l,0≤f.day∧f.day≤40000
theorem EB {l:List AO} (h:HU l) {i:Nat} {f:AO} (hf:l[i]? =some f):0≤f.day∧f.day≤40000:=h f (List.mem_of_getElem? hf)
theorem FU {f g:AO} {AE:Int} (h:g.machine=0∨¬g.host=f.host∨AE<DK f g):D5 f g AE=true:=by unfold D5;simpa using h
theorem IG {f g:AO} {AE:Int} (h1:¬g.machine=0) (h2:g.host=f.host) (h3:¬AE<DK f g):D5 f g AE=false:=by unfold D5;simp [h1,h2];omega
theorem MA {l:List AO} {f:AO} {AE:Int} {k:Nat} (hk:k≤l.length) (h:0≤Bo l f AE k):(Bo l f AE k).toNat<l.length∧∃b,l[(Bo l f AE k).toNat]? =some b:=by
 rcases K5 l f AE k with h1|⟨_,h2,b,hb,_⟩
 · omega
 · exact ⟨by omega,b,hb⟩
theorem Ph {f g b:AO}:closer f g b=true↔(DK f g<DK f b∨DK f g=DK f b∧(g.day<b.day∨g.day=b.day∧g.machine<b.machine)):=by
 unfold closer
 rw [decide_eq_true_eq]
 have e:∀a b c:Int,FY [a,b,c]=if a=0 then (if b=0 then (if c=0 then 0 else c) else b) else a:=fun a b c=>rfl
 rw [e];unfold An
 (repeat' split)<;>omega
theorem Tk {a b:Int} (ha:0≤a∧a≤40000) (hb:0≤b∧b≤40000):Be prog 148 [int a,int b] (int (max (a-b) (b-a))):=by
 refine fo func148 rfl ⟨rfl,rfl⟩ fun M0 w0=> ?_
 refine a2 ?_
 refine co rfl (Oh rfl (vl rfl) (vl rfl)) ?_
 refine a2 ?_
 · exact Lr
theorem Tm {f g b:AO} (hf:0≤f.day∧f.day≤40000) (hg:0≤g.day∧g.day≤40000) (hb:0≤b.day∧b.day≤40000):Be prog 149 [agg (BA g),agg (BA b),int f.day] (bool (closer f g b)):=by
 refine fo func149 rfl ⟨rfl,rfl⟩ fun M0 w0=> ?_
 have e1:DK f g=max (g.day-f.day) (f.day-g.day):=by unfold DK;omega
 have e2:DK f b=max (b.day-f.day) (f.day-b.day):=by unfold DK;omega
 · repeat' first|(refine bool_eq ?_;rw [Bool.eq_iff_iff,Ph,decide_eq_true_eq];rw [←e1,←e2] at*;omega)|refine co rfl (F3 (Tk (by assumption) (by assumption)) rfl rfl rfl) ?_|refine ac ?_|(refine Tr.cn rfl ?_ ?_<;>intro h q)
theorem I3 {l:List AO} {i:Nat} {f:AO} {AE:Int} (hd:HU l) (hi:l[i]? =some f):Be prog 97 [BC l,int ((i:Nat):Int),int AE] (int (near l f AE)):=by
 refine fo func97 rfl ⟨rfl,rfl⟩ fun M0 w0=>(Tr.Db 0 rfl fun DD=> ?_)
 have iT:=EB hd hi
 refine a3 ?_
 refine Tr.block (Tr.BV [(0,_),(1,_),(2,_)] (RI rfl) (fun k:Nat=>[(8,int ((k:Nat):Int)),(7,int (Bo l f AE k))]) (fun k:Nat=>k≤(l).length) (fun k:Nat=>(l).length-k) 0 (Nat.zero_le _) ⟨ke rfl,ke rfl,trivial⟩ ?_)
 rintro k CN
 refine an ?_ ?_<;>intro h1 q1
 have Au:k<(l).length:=Af h1
 obtain ⟨g,Ae⟩:=at_ Au
 have hgd:=EB hd Ae
 have e1:DK f g=max (g.day-f.day) (f.day-g.day):=by unfold DK;omega
 refine a2 ?_
 refine co rfl (AB rfl underlying31 AY (vl rfl) (vl rfl) (by omega) (by exact AZ (by assumption))) ?_
 refine ag ?_ ?_<;>intro h2 q2
 refine ac ?_
 refine FK 0 1 2 7 8 48 rfl ?_
 refine a2 ?_
 exact Fin.AF (k+1) ⟨Au,by omega⟩ ⟨⟨_,rfl,AM k⟩,⟨_,rfl,int_eq (by exact (C_ Ae (FU (by exact .inl (by assumption)))).symm)⟩,ke rfl,ke rfl,ke rfl,trivial⟩
 refine ac ?_
 refine cy h2 rfl (AB rfl underlying31 AY (vl rfl) (vl rfl) (by omega) (by exact AZ (by assumption))) ?_
 refine ac ?_
 refine cy h2 rfl (AB rfl underlying31 AY (vl rfl) (vl rfl) (by omega) (AZ hi)) ?_
 refine ag ?_ ?_<;>intro h3 q3
 refine ac ?_
 refine FK 0 1 2 7 8 48 rfl ?_
 refine a2 ?_
 exact Fin.AF (k+1) ⟨Au,by omega⟩ ⟨⟨_,rfl,AM k⟩,⟨_,rfl,int_eq (by exact (C_ Ae (FU (by exact .inr (.inl (by assumption))))).symm)⟩,ke rfl,ke rfl,ke rfl,trivial⟩
 refine ac ?_
 refine cy h3 rfl (AB rfl underlying31 AY (vl rfl) (vl rfl) (by omega) (by exact AZ (by assumption))) ?_
 refine ac ?_
 refine cy h3 rfl (AB rfl underlying31 AY (vl rfl) (vl rfl) (by omega) (AZ hi)) ?_
 refine ac ?_
 refine cy h3 rfl (F3 (Tk (by assumption) (by assumption)) rfl rfl rfl) ?_
 refine ac ?_
 refine FK 0 1 2 7 8 48 rfl ?_
 refine Tr.cn rfl ?_ ?_<;>intro h4 q4
 refine a2 ?_
 exact Fin.AF (k+1) ⟨Au,by omega⟩ ⟨⟨_,rfl,AM k⟩,⟨_,rfl,int_eq (by exact (C_ Ae (FU (by exact .inr (.inr (by omega))))).symm)⟩,ke rfl,ke rfl,ke rfl,trivial⟩
 refine ac ?_
 refine ag ?_ ?_<;>intro h5 q5
 refine ac ?_
 refine FK 0 1 2 7 8 66 rfl ?_
 refine a2 ?_
 exact Fin.AF (k+1) ⟨Au,by omega⟩ ⟨⟨_,rfl,AM k⟩,⟨_,rfl,int_eq (by exact (GP Ae (IG (by assumption) (by assumption) (by omega)) (by omega)).symm)⟩,ke rfl,ke rfl,ke rfl,trivial⟩
 obtain ⟨hnk,b,hb⟩:=MA (by omega) q5
 have hbd:=EB hd hb
 · repeat' first|(exact Fin.AF (k+1) ⟨Au,by omega⟩ ⟨⟨_,rfl,AM k⟩,⟨_,rfl,int_eq (by rw [Gu Ae (IG (by assumption) (by assumption) (by omega)) (by omega) hb];simp_all)⟩,ke rfl,ke rfl,ke rfl,trivial⟩)|refine cy h5 rfl (AB rfl underlying31 AY (vl rfl) (vl rfl) (by omega) (by exact AZ (by assumption))) ?_|refine cy h5 rfl (AB rfl underlying31 AY (vl rfl) (vl rfl) (by omega) (CC hb)) ?_|refine cy h5 rfl (AB rfl underlying31 AY (vl rfl) (vl rfl) (by omega) (AZ hi)) ?_|refine cy h5 rfl (eH (Tm (by assumption) (by assumption) (by assumption)) rfl rfl rfl rfl) ?_|refine ac ?_|(refine Tr.cn rfl ?_ ?_<;>intro h q)
 have Bn:k=(l).length:=by have:=Ag h1;omega
 subst Bn
 refine a3 ?_
 · exact Lr
theorem JR {l:List AO} [Decidable (B_ l)]:Be prog 51 [BC l] (bool (decide (B_ l))):=by
 refine fo func51 rfl ⟨rfl,rfl⟩ fun M0 w0=>(Tr.Db 0 rfl fun DD=> ?_)
 refine ac ?_
 refine an ?_ ?_<;>intro h1 q1
 refine a2 ?_
 · refine bool_eq ?_;symm;rw [decide_eq_false_iff_not];intro hn;have:=hn.len;omega
 refine a2 ?_
 refine Tr.block (Tr.BV [(0,_)] ⟨ke rfl,trivial⟩ (fun k:Nat=>[(3,int ((k:Nat):Int))]) (fun k:Nat=>k≤(l).length∧(TW l k∧N6 l k)) (fun k:Nat=>(l).length-k) 0 (⟨Nat.zero_le _,⟨fun j y hj=>absurd hj (by omega),fun j a b hj=>absurd hj (by omega)⟩⟩) ⟨ke rfl,trivial⟩ ?_)
 rintro k ⟨CN,Ac⟩
 refine an ?_ ?_<;>intro h2 q2
 have Au:k<(l).length:=Af h2
 obtain ⟨x,Ae⟩:=at_ Au
 refine a2 ?_
 refine co rfl (AB rfl underlying31 AY (vl rfl) (vl rfl) (by omega) (by exact AZ (by assumption))) ?_
 refine co rfl (Ap rfl BI AY (vl rfl) rfl rfl) (co rfl (Eh (Fq) rfl rfl) ?_)
 refine ag ?_ ?_<;>intro h3 q3
 have hc:=I2 q3
 refine ac ?_
 refine Ur 0 3 35 rfl ?_
 refine a2 ?_
 · refine bool_eq ?_;symm;rw [decide_eq_false_iff_not];intro hn;have:=hn.check x (List.mem_of_getElem? Ae);rw [hc] at this;cases this
 have hc:=HT q3
 refine ag ?_ ?_<;>intro h4 q4
 obtain ⟨p,hp⟩:=at_ (l:=l) (k:=k-1) (by omega)
 · repeat' first|(refine bool_eq ?_;symm;rw [decide_eq_false_iff_not];intro hn;have:=hn.iO (k-1) p x hp (by rw [show k-1+1=k by omega];exact Ae);omega)|(exact Fin.AF (k+1) ⟨⟨Au,⟨Jt Ae hc Ac.1,H9 Ae (by intro y h0 hy;rw [hp] at hy;cases hy;omega) Ac.2⟩⟩,by omega⟩ ⟨⟨_,rfl,AM k⟩,ke rfl,trivial⟩)|refine cy h4 rfl (AB rfl underlying31 AY (vl rfl) (vl rfl) (by omega) (H_ (by omega) hp)) ?_|refine cy h4 rfl (AB rfl underlying31 AY (vl rfl) (vl rfl) (by omega) (by exact AZ (by assumption))) ?_|refine cy h4 rfl (Ap rfl BI AY (vl rfl) rfl rfl) (cy h4 rfl (F3 (C9) rfl rfl rfl) ?_)|refine ac ?_|(refine Tr.cn rfl ?_ ?_<;>intro h q)
 refine ac ?_
 refine Ur 0 3 35 rfl ?_
 refine a2 ?_
 exact Fin.AF (k+1) ⟨⟨Au,⟨Jt Ae hc Ac.1,H9 Ae (by intro y h0 hy;omega) Ac.2⟩⟩,by omega⟩ ⟨⟨_,rfl,AM k⟩,ke rfl,trivial⟩
 have Bn:k=(l).length:=by have:=Ag h2;omega
 subst Bn
 refine a3 ?_
 · refine bool_eq ?_;symm;rw [decide_eq_true_eq];exact ⟨TX Ac.1,Qn Ac.2,by omega⟩
theorem Qu {α:Type} {a b:List α} {k:Nat} {x y:α} (ha:a[k]? =some x) (hb:b[k]? =some y) (h:a.take k=b.take k) (e:x=y):a.take (k+1)=b.take (k+1):=by
 rw [List.take_add_one,List.take_add_one,ha,hb,h,e]
theorem Qv {α:Type} {a b:List α} {k:Nat} {x y:α} (ha:a[k]? =some x) (hb:b[k]? =some y) (e:¬x=y):¬a=b:=by
 rintro rfl;rw [ha] at hb;cases hb;exact e rfl
theorem Qw {α:Type} {a b:List α} (hl:a.length=b.length) (h:a.take a.length=b.take a.length):a=b:=by
 rw [List.take_length,hl,List.take_length] at h;exact h
theorem OB {α:Type} {c:α→α→Int} (hz:∀x y,c x y=0↔x=y) {l:List α} {x:α} {k:Nat} (hk:k≤l.length) (hlt:∀(j:Nat) y,j<k→l[j]? =some y→c y x<0) (hx:l[k]? =some x):Cn c l x=l:=by
 have h0:c x x=0:=(hz x x).2 rfl
 rw [Gv hk hlt (fun y hy=>by rw [hx] at hy;cases hy;omega),hx]
 simp [h0]
theorem Jw {α:Type} {c:α→α→Int} (hz:∀x y,c x y=0↔x=y) {l:List α} {x:α} {k:Nat} (hk:k≤l.length) (hlt:∀(j:Nat) y,j<k→l[j]? =some y→c y x<0) (h:∀y,l[k]? =some y→¬c y x<0∧¬y=x):Cn c l x=l.take k++[x]++l.drop k:=by
 rw [Gv hk hlt (fun y hy=>(h y hy).1)]
 cases hy:l[k]? with
 |none=>simp
 |some y=>
  have h1:¬c y x=0:=fun h0=>(h y hy).2 ((hz _ _).1 h0)
  simp [h1]
theorem Tn {l:List Int} {v:Int}  :Be prog 67 [ints l,int v] (bool (l.any fun x=>v==x)):=by
 refine fo func67 rfl ⟨rfl,rfl⟩ fun M0 w0=>(Tr.Db 0 rfl fun DD=> ?_)
 refine a2 ?_
 refine Tr.block (Tr.BV [(0,_),(1,_)] (Ow rfl) (fun k:Nat=>[(5,int ((k:Nat):Int))]) (fun k:Nat=>k≤(l).length∧((l.take k).any (fun x=>v==x)=false)) (fun k:Nat=>(l).length-k) 0 (⟨Nat.zero_le _,rfl⟩) ⟨ke rfl,trivial⟩ ?_)
 rintro k ⟨CN,Ac⟩
 refine an ?_ ?_<;>intro h1 q1
 have Au:k<(l).length:=Af h1
 obtain ⟨x,Ae⟩:=at_ Au
 · repeat' first|(refine bool_eq ?_;symm;rw [List.any_eq_true];exact ⟨_,List.mem_of_getElem? Ae,by simp_all⟩)|(exact Fin.AF (k+1) ⟨⟨Au,(by rw [List.take_add_one,Ae,List.any_append,Ac];simp;omega)⟩,by omega⟩ ⟨⟨_,rfl,AM k⟩,ke rfl,ke rfl,trivial⟩)|refine co rfl (AB rfl underlying22 B7 (vl rfl) (vl rfl) (by omega) (by exact AZ (by assumption))) ?_|refine ac ?_|(refine Tr.cn rfl ?_ ?_<;>intro h q)
 have Bn:k=(l).length:=by have:=Ag h1;omega
 subst Bn
 refine a3 ?_
 · refine bool_eq ?_;rw [List.take_length] at Ac;exact Ac.symm
theorem HV {a b:List (Int)}  :Be prog 23 [ints a,ints b] (bool (decide (a=b))):=by
 refine fo func23 rfl ⟨rfl,rfl⟩ fun M0 w0=>(Tr.Db 0 rfl fun DD=>(Tr.Db 1 rfl fun N2=> ?_))
 refine ac ?_
 refine an ?_ ?_<;>intro h1 q1
 have hne:¬a.length=b.length:=by simp_all;omega
 refine a2 ?_
 · refine bool_eq ?_;symm;rw [decide_eq_false_iff_not];rintro rfl;exact hne rfl
 have Jx:a.length=b.length:=by simp_all;omega
 refine a2 ?_
 refine Tr.block (Tr.BV [(0,_),(1,_)] (Ow rfl) (fun k:Nat=>[(5,int ((k:Nat):Int))]) (fun k:Nat=>k≤(a).length∧(a.take k=b.take k)) (fun k:Nat=>(a).length-k) 0 (⟨Nat.zero_le _,rfl⟩) ⟨ke rfl,trivial⟩ ?_)
 rintro k ⟨CN,Ac⟩
 refine an ?_ ?_<;>intro h2 q2
 have Au:k<(a).length:=Af h2
 obtain ⟨x,Ae⟩:=at_ Au
 obtain ⟨y,hy⟩:=at_ (l:=b) (k:=k) (by omega)
 · repeat' first|(refine bool_eq ?_;symm;rw [decide_eq_false_iff_not];refine Qv Ae hy ?_;intro hc;simp_all)|exact Fin.AF (k+1) ⟨⟨Au,Qu Ae hy Ac (by simp_all)⟩,by omega⟩ ⟨⟨_,rfl,AM k⟩,ke rfl,ke rfl,trivial⟩|refine co rfl (AB rfl underlying22 B7 (vl rfl) (vl rfl) (by omega) (AZ Ae)) ?_|refine co rfl (AB rfl underlying22 B7 (vl rfl) (vl rfl) (by omega) (AZ hy)) ?_|refine ac ?_|(refine Tr.cn rfl ?_ ?_<;>intro h q)
 have Bn:k=(a).length:=by have:=Ag h2;omega
 subst Bn
 refine a3 ?_
 · refine bool_eq ?_;symm;rw [decide_eq_true_eq];exact Qw Jx Ac
theorem JS {a b:List (List UInt8)}  :Be prog 65 [strs a,strs b] (bool (decide (a=b))):=by
 refine fo func65 rfl ⟨rfl,rfl⟩ fun M0 w0=>(Tr.Db 0 rfl fun DD=>(Tr.Db 1 rfl fun N2=> ?_))
 refine ac ?_
 refine an ?_ ?_<;>intro h1 q1
 have hne:¬a.length=b.length:=by simp_all;omega
 refine a2 ?_
 · refine bool_eq ?_;symm;rw [decide_eq_false_iff_not];rintro rfl;exact hne rfl
 have Jx:a.length=b.length:=by simp_all;omega
 refine a2 ?_
 refine Tr.block (Tr.BV [(0,_),(1,_)] (Ow rfl) (fun k:Nat=>[(5,int ((k:Nat):Int))]) (fun k:Nat=>k≤(a).length∧(a.take k=b.take k)) (fun k:Nat=>(a).length-k) 0 (⟨Nat.zero_le _,rfl⟩) ⟨ke rfl,trivial⟩ ?_)
 rintro k ⟨CN,Ac⟩
 refine an ?_ ?_<;>intro h2 q2
 have Au:k<(a).length:=Af h2
 obtain ⟨x,Ae⟩:=at_ Au
 obtain ⟨y,hy⟩:=at_ (l:=b) (k:=k) (by omega)
 · repeat' first|(refine bool_eq ?_;symm;rw [decide_eq_false_iff_not];refine Qv Ae hy ?_;intro hc;simp_all)|exact Fin.AF (k+1) ⟨⟨Au,Qu Ae hy Ac (by simp_all)⟩,by omega⟩ ⟨⟨_,rfl,AM k⟩,ke rfl,ke rfl,trivial⟩|refine co rfl (AB rfl underlying53 Da (vl rfl) (vl rfl) (by omega) (AZ Ae)) ?_|refine co rfl (AB rfl underlying53 Da (vl rfl) (vl rfl) (by omega) (AZ hy)) ?_|refine ac ?_|(refine Tr.cn rfl ?_ ?_<;>intro h q)
 have Bn:k=(a).length:=by have:=Ag h2;omega
 subst Bn
 refine a3 ?_
 · refine bool_eq ?_;symm;rw [decide_eq_true_eq];exact Qw Jx Ac
theorem Ey {l:List (Int)} {x:Int} (hl:l.length≤1000000):Be prog 54 [ints l,int x] (ints (Cn An l x)):=by
 refine Be.of func54 rfl rfl (by exact Nb rfl) fun M0 w0=> ?_
 refine Tr.seq (Tr.A0 (cm rfl (Ch.nil (Fin.go (Tr.seq (Tr.A0 (cm rfl (Ch.nil (Fin.go (Tr.seq (Tr.block (Tr.BV [(0,_),(1,_)] (Ow rfl) (fun k:Nat=>[(5,int ((k:Nat):Int))]) (fun k:Nat=>k≤l.length∧∀(j:Nat) y,j<k→l[j]? =some y→An y x<0) (fun k:Nat=>l.length-k) 0 (⟨Nat.zero_le _,fun j y h=>absurd h (by omega)⟩) ⟨ke rfl,trivial⟩ ?_))))))))))))
 rintro k ⟨hk,hlt⟩
 refine Tr.seq (Tr.seq (Tr.A0 (cm rfl (cm rfl (co rfl (Co rfl underlying22 (vl rfl)) (co rfl (ki rfl rfl rfl rfl) (cm rfl ?_)))))))
 refine Ch.cs 10 rfl ?_ ?_<;>intro h1 q1
 obtain ⟨y,hy⟩:=at_ (l:=l) (k:=k) (by omega)
 refine Dh h1 rfl (Dh h1 rfl (cy h1 rfl (AB rfl underlying22 B7 (vl rfl) (vl rfl) (by omega) (AZ hy)) (cy h1 rfl (U9 rfl Cr rfl) (Dh h1 rfl (cy h1 rfl (ki rfl rfl rfl rfl) (co rfl (NM rfl rfl h1 rfl) (Ch.nil (Fin.go (FB 0 1 5 17 rfl ?_)))))))))
 refine Tr.cn rfl ?_ ?_<;>intro h2 q2
 have:=h2
 refine Tr.skip (Fin.go (Tr.block (Tr.A0 (cm rfl (SD rfl rfl rfl rfl (by omega) (cm rfl (Ch.nil (Fin.block ?_))))))))
 exact Fin.AF (k+1) ⟨⟨by omega,fun j w h1 h2=>by rcases Nat.lt_or_eq_of_le (show j≤k by omega) with h3|h3;exact hlt j w h3 h2;(subst h3;rw [hy] at h2;cases h2;unfold An;rw [if_pos (by omega)];omega)⟩,by omega⟩ ⟨⟨_,rfl,AM k⟩,ke rfl,ke rfl,trivial⟩
 have:=h2
 refine Tr.exit (Fin.AK (Fin.AK (Fin.Aa (Fin.go (Tr.seq (Tr.seq (Tr.A0 (cm rfl (cm rfl (co rfl (Co rfl underlying22 (vl rfl)) (co rfl (ki rfl rfl rfl rfl) (cm rfl ?_))))))))))))
 refine Ch.cs 24 rfl ?_ ?_<;>intro h3 q3
 obtain ⟨z,hz⟩:=at_ (l:=l) (k:=k) (by omega)
 refine Dh h3 rfl (Dh h3 rfl (cy h3 rfl (AB rfl underlying22 B7 (vl rfl) (vl rfl) (by omega) (AZ hz)) (cy h3 rfl (U9 rfl Cr rfl) (Dh h3 rfl (cy h3 rfl (ki rfl rfl rfl rfl) (co rfl (NM rfl rfl h3 rfl) (Ch.nil (Fin.go (FB 0 1 5 31 rfl ?_)))))))))
 refine Tr.cn rfl ?_ ?_<;>intro h4 q4
 refine Tr.seq (Tr.A0 (cm rfl (cm rfl (Ch.nil (Fin.go (Tr.ret (Fin.AJ (Fin.EI rfl (Bq.D3 _ _) rfl ?_))))))))
 · rw [OB (fun _ _=>Cf) hk hlt (by rw [hz];congr 1)];exact Lr
 refine Tr.skip (Fin.go (Tr.seq (Tr.pad (Tr.EL mixed [none,none,none,none,some (0,0,true,37),none,none,some (37,0,true,40),none,none,none,some (40,0,true,44),some (44,0,true,4)] (by kernel_rfl) (xo rfl (fun _=>AH (xs:=[]) (rows:=[]) rfl rfl underlying22 B7 z3 rfl (by decide) trivial (by decide)) (xm rfl (xm rfl ?_)))))))
 refine xo rfl (fun _=>BM rfl underlying22 B7 (vl rfl) (vl rfl) (by omega) (by simp;omega)) ?_
 refine Cx.ef 0 rfl rfl (by decide) (Ah rfl rfl (by decide) rfl underlying22 B7 Mh z3 rfl (by decide) (Kf rfl) (vl rfl) (by simp;unfold maxLen;omega) (by simp;omega) (CB (by exact List.Mem.head _) (vl rfl))) ?_
 refine xm rfl (xo rfl (fun _=>AH (xs:=[.tmp 38]) (rows:=[[_]]) rfl rfl underlying22 B7 z3 rfl (by decide) ⟨⟨(by exact rfl),(Vo rfl)⟩,trivial⟩ (by decide)) ?_)
 refine Cx.ef 0 rfl rfl (by decide) (Ah rfl rfl (by decide) rfl underlying22 B7 Mh z3 rfl (by decide) (vl rfl) (Kf rfl) (by simp;unfold maxLen;omega) (by simp;omega) BF) ?_
 refine xm rfl (xm rfl ?_)
 refine xo rfl (fun _=>At rfl underlying22 B7 (vl rfl) (vl rfl) (by omega) (by simp;omega)) ?_
 refine Cx.ef 0 rfl rfl (by decide) (Ah rfl rfl (by decide) rfl underlying22 B7 Mh z3 rfl (by decide) (vl rfl) (vl rfl) (by simp;unfold maxLen;omega) (by simp;omega) BF) ?_
 refine Cx.ef 0 rfl rfl (by decide) (B6 rfl rfl (by decide) rfl (vl rfl)) ?_
 refine Cx.nil ⟨rfl,?_⟩
 refine BJ.open_ 0 4 rfl rfl (fun v1=> ?_)
 refine BJ.done (BS.cons (BS.map _)) (Fin.go (Cg 4 rfl (Tr.ret (Fin.EI rfl (Bq.D3 _ _) rfl ?_))))
 · rw [Jw (fun _ _=>Cf) hk hlt (fun w hw=>by obtain rfl:z=y:=(by rw [hz] at hy;exact Option.some.inj hy);obtain rfl:z=w:=(by rw [hz] at hw;exact Option.some.inj hw);exact ⟨by unfold An;rw [if_neg (by omega)];split<;>omega,by assumption⟩)];exact Pr.le_trans (BP _ _) (Pr.le_of_eq (by show slice 1 _=slice 1 _;rw [Int.toNat_natCast,List.map_append,List.map_append,List.map_take,List.map_drop,List.nil_append];rfl))
 iterate 6 refine cnt h3 rfl ?_
 refine co rfl (KP rfl rfl h3 rfl) (Ch.nil (Fin.go (FB 0 1 5 31 rfl (Tr.cond rfl (fun h=>nomatch h) (fun _=> ?_)))))
 refine Tr.skip (Fin.go (Tr.seq (Tr.pad (Tr.EL mixed [none,none,none,none,some (0,0,true,37),none,none,some (37,0,true,40),none,none,none,some (40,0,true,44),some (44,0,true,4)] (by kernel_rfl) (xo rfl (fun _=>AH (xs:=[]) (rows:=[]) rfl rfl underlying22 B7 z3 rfl (by decide) trivial (by decide)) (xm rfl (xm rfl (xo rfl (fun _=>BM rfl underlying22 B7 (vl rfl) (vl rfl) (by omega) (by omega)) ?_))))))))
 refine Cx.ef 0 rfl rfl (by decide) (Ah rfl rfl (by decide) rfl underlying22 B7 Mh z3 rfl (by decide) (Kf rfl) (vl rfl) (by simp;unfold maxLen;omega) (by simp;omega) (CB (by exact List.Mem.head _) (vl rfl))) ?_
 refine xm rfl (xo rfl (fun _=>AH (xs:=[.tmp 38]) (rows:=[[_]]) rfl rfl underlying22 B7 z3 rfl (by decide) ⟨⟨(by exact rfl),(Vo rfl)⟩,trivial⟩ (by decide)) ?_)
 refine Cx.ef 0 rfl rfl (by decide) (Ah rfl rfl (by decide) rfl underlying22 B7 Mh z3 rfl (by decide) (vl rfl) (Kf rfl) (by simp;unfold maxLen;omega) (by simp;omega) BF) ?_
 refine xm rfl (xm rfl (xo rfl (fun _=>At rfl underlying22 B7 (vl rfl) (vl rfl) (by omega) (by omega)) ?_))
 refine Cx.ef 0 rfl rfl (by decide) (Ah rfl rfl (by decide) rfl underlying22 B7 Mh z3 rfl (by decide) (vl rfl) (vl rfl) (by simp;unfold maxLen;omega) (by simp;omega) BF) ?_
 refine Cx.ef 0 rfl rfl (by decide) (B6 rfl rfl (by decide) rfl (vl rfl)) ?_
 refine Cx.nil ⟨rfl,?_⟩
 refine BJ.open_ 0 4 rfl rfl (fun v2=> ?_)
 refine BJ.done (BS.cons (BS.map _)) (Fin.go (Cg 4 rfl (Tr.ret (Fin.EI rfl (Bq.D3 _ _) rfl ?_))))
 · exfalso;omega
 iterate 6 refine cnt h1 rfl ?_
 refine co rfl (KP rfl rfl h1 rfl) (Ch.nil (Fin.go (FB 0 1 5 17 rfl (Tr.cond rfl (fun h=>nomatch h) (fun _=> ?_)))))
 refine Tr.exit (Fin.AK (Fin.AK (Fin.Aa (Fin.go (Tr.seq (Tr.seq (Tr.A0 (cm rfl (cm rfl (co rfl (Co rfl underlying22 (vl rfl)) (co rfl (ki rfl rfl rfl rfl) (cm rfl ?_))))))))))))
 refine Ch.cs 24 rfl ?_ ?_<;>intro h5 q5
 obtain ⟨z,hz⟩:=at_ (l:=l) (k:=k) (by omega)
 refine Dh h5 rfl (Dh h5 rfl (cy h5 rfl (AB rfl underlying22 B7 (vl rfl) (vl rfl) (by omega) (AZ hz)) (cy h5 rfl (U9 rfl Cr rfl) (Dh h5 rfl (cy h5 rfl (ki rfl rfl rfl rfl) (co rfl (NM rfl rfl h5 rfl) (Ch.nil (Fin.go (FB 0 1 5 31 rfl ?_)))))))))
 refine Tr.cn rfl ?_ ?_<;>intro h6 q6
 refine Tr.seq (Tr.A0 (cm rfl (cm rfl (Ch.nil (Fin.go (Tr.ret (Fin.AJ (Fin.EI rfl (Bq.D3 _ _) rfl ?_))))))))
 · exfalso;omega
 refine Tr.skip (Fin.go (Tr.seq (Tr.pad (Tr.EL mixed [none,none,none,none,some (0,0,true,37),none,none,some (37,0,true,40),none,none,none,some (40,0,true,44),some (44,0,true,4)] (by kernel_rfl) (xo rfl (fun _=>AH (xs:=[]) (rows:=[]) rfl rfl underlying22 B7 z3 rfl (by decide) trivial (by decide)) (xm rfl (xm rfl (xo rfl (fun _=>BM rfl underlying22 B7 (vl rfl) (vl rfl) (by omega) (by omega)) ?_))))))))
 refine Cx.ef 0 rfl rfl (by decide) (Ah rfl rfl (by decide) rfl underlying22 B7 Mh z3 rfl (by decide) (Kf rfl) (vl rfl) (by simp;unfold maxLen;omega) (by simp;omega) (CB (by exact List.Mem.head _) (vl rfl))) ?_
 refine xm rfl (xo rfl (fun _=>AH (xs:=[.tmp 38]) (rows:=[[_]]) rfl rfl underlying22 B7 z3 rfl (by decide) ⟨⟨(by exact rfl),(Vo rfl)⟩,trivial⟩ (by decide)) ?_)
 refine Cx.ef 0 rfl rfl (by decide) (Ah rfl rfl (by decide) rfl underlying22 B7 Mh z3 rfl (by decide) (vl rfl) (Kf rfl) (by simp;unfold maxLen;omega) (by simp;omega) BF) ?_
 refine xm rfl (xm rfl (xo rfl (fun _=>At rfl underlying22 B7 (vl rfl) (vl rfl) (by omega) (by omega)) ?_))
 refine Cx.ef 0 rfl rfl (by decide) (Ah rfl rfl (by decide) rfl underlying22 B7 Mh z3 rfl (by decide) (vl rfl) (vl rfl) (by simp;unfold maxLen;omega) (by simp;omega) BF) ?_
 refine Cx.ef 0 rfl rfl (by decide) (B6 rfl rfl (by decide) rfl (vl rfl)) ?_
 refine Cx.nil ⟨rfl,?_⟩
 refine BJ.open_ 0 4 rfl rfl (fun v3=> ?_)
 refine BJ.done (BS.cons (BS.map _)) (Fin.go (Cg 4 rfl (Tr.ret (Fin.EI rfl (Bq.D3 _ _) rfl ?_))))
 · exfalso;omega
 iterate 6 refine cnt h5 rfl ?_
 refine co rfl (KP rfl rfl h5 rfl) (Ch.nil (Fin.go (FB 0 1 5 31 rfl (Tr.cond rfl (fun h=>nomatch h) (fun _=> ?_)))))
 refine Tr.skip (Fin.go (Tr.seq (Tr.pad (Tr.EL mixed [none,none,none,none,some (0,0,true,37),none,none,some (37,0,true,40),none,none,none,some (40,0,true,44),some (44,0,true,4)] (by kernel_rfl) (xo rfl (fun _=>AH (xs:=[]) (rows:=[]) rfl rfl underlying22 B7 z3 rfl (by decide) trivial (by decide)) (xm rfl (xm rfl ?_)))))))
 refine xo rfl (fun _=>BM rfl underlying22 B7 (vl rfl) (vl rfl) (by omega) (by simp;omega)) ?_
 refine Cx.ef 0 rfl rfl (by decide) (Ah rfl rfl (by decide) rfl underlying22 B7 Mh z3 rfl (by decide) (Kf rfl) (vl rfl) (by simp;unfold maxLen;omega) (by simp;omega) (CB (by exact List.Mem.head _) (vl rfl))) ?_
 refine xm rfl (xo rfl (fun _=>AH (xs:=[.tmp 38]) (rows:=[[_]]) rfl rfl underlying22 B7 z3 rfl (by decide) ⟨⟨(by exact rfl),(Vo rfl)⟩,trivial⟩ (by decide)) ?_)
 refine Cx.ef 0 rfl rfl (by decide) (Ah rfl rfl (by decide) rfl underlying22 B7 Mh z3 rfl (by decide) (vl rfl) (Kf rfl) (by simp;unfold maxLen;omega) (by simp;omega) BF) ?_
 refine xm rfl (xm rfl ?_)
 refine xo rfl (fun _=>At rfl underlying22 B7 (vl rfl) (vl rfl) (by omega) (by simp;omega)) ?_
 refine Cx.ef 0 rfl rfl (by decide) (Ah rfl rfl (by decide) rfl underlying22 B7 Mh z3 rfl (by decide) (vl rfl) (vl rfl) (by simp;unfold maxLen;omega) (by simp;omega) BF) ?_
 refine Cx.ef 0 rfl rfl (by decide) (B6 rfl rfl (by decide) rfl (vl rfl)) ?_
 refine Cx.nil ⟨rfl,?_⟩
 refine BJ.open_ 0 4 rfl rfl (fun v4=> ?_)
 refine BJ.done (BS.cons (BS.map _)) (Fin.go (Cg 4 rfl (Tr.ret (Fin.EI rfl (Bq.D3 _ _) rfl ?_))))
 · rw [Jw (fun _ _=>Cf) hk hlt (fun w hw=>by rw [List.getElem?_eq_none (by omega)] at hw;cases hw)];exact Pr.le_trans (BP _ _) (Pr.le_of_eq (by show slice 1 _=slice 1 _;rw [Int.toNat_natCast,List.map_append,List.map_append,List.map_take,List.map_drop,List.nil_append];rfl))
theorem MB {l:List (List UInt8)} {x:List UInt8} (hl:l.length≤1000000):Be prog 53 [strs l,str x] (strs (Cn Lib.compareBytes l x)):=by
 refine Be.of func53 rfl rfl (by exact Nb rfl) fun M0 w0=> ?_
 refine Tr.seq (Tr.A0 (cm rfl (Ch.nil (Fin.go (Tr.seq (Tr.A0 (cm rfl (Ch.nil (Fin.go (Tr.seq (Tr.block (Tr.BV [(0,_),(1,_)] (Ow rfl) (fun k:Nat=>[(5,int ((k:Nat):Int))]) (fun k:Nat=>k≤l.length∧∀(j:Nat) y,j<k→l[j]? =some y→Lib.compareBytes y x<0) (fun k:Nat=>l.length-k) 0 (⟨Nat.zero_le _,fun j y h=>absurd h (by omega)⟩) ⟨ke rfl,trivial⟩ ?_))))))))))))
 rintro k ⟨hk,hlt⟩
 refine Tr.seq (Tr.seq (Tr.A0 (cm rfl (cm rfl (co rfl (Co rfl underlying53 (vl rfl)) (co rfl (ki rfl rfl rfl rfl) (cm rfl ?_)))))))
 refine Ch.cs 10 rfl ?_ ?_<;>intro h1 q1
 obtain ⟨y,hy⟩:=at_ (l:=l) (k:=k) (by omega)
 refine Dh h1 rfl (Dh h1 rfl (cy h1 rfl (AB rfl underlying53 Da (vl rfl) (vl rfl) (by omega) (AZ hy)) (cy h1 rfl (U9 rfl Nc rfl) (Dh h1 rfl (cy h1 rfl (O5 rfl (vl rfl) (vl rfl)) (co rfl (NM rfl rfl h1 rfl) (Ch.nil (Fin.go (FB 0 1 5 17 rfl ?_)))))))))
 refine Tr.cn rfl ?_ ?_<;>intro h2 q2
 have:=h2
 refine Tr.skip (Fin.go (Tr.block (Tr.A0 (cm rfl (SD rfl rfl rfl rfl (by omega) (cm rfl (Ch.nil (Fin.block ?_))))))))
 exact Fin.AF (k+1) ⟨⟨by omega,fun j w h1 h2=>by rcases Nat.lt_or_eq_of_le (show j≤k by omega) with h3|h3;exact hlt j w h3 h2;(subst h3;rw [hy] at h2;cases h2;omega)⟩,by omega⟩ ⟨⟨_,rfl,AM k⟩,ke rfl,ke rfl,trivial⟩
 have:=h2
 refine Tr.exit (Fin.AK (Fin.AK (Fin.Aa (Fin.go (Tr.seq (Tr.seq (Tr.A0 (cm rfl (cm rfl (co rfl (Co rfl underlying53 (vl rfl)) (co rfl (ki rfl rfl rfl rfl) (cm rfl ?_))))))))))))
 refine Ch.cs 24 rfl ?_ ?_<;>intro h3 q3
 obtain ⟨z,hz⟩:=at_ (l:=l) (k:=k) (by omega)
 refine Dh h3 rfl (Dh h3 rfl (cy h3 rfl (AB rfl underlying53 Da (vl rfl) (vl rfl) (by omega) (AZ hz)) (cy h3 rfl (U9 rfl Nc rfl) (Dh h3 rfl (cy h3 rfl (O4 rfl (vl rfl) (vl rfl)) (co rfl (NM rfl rfl h3 rfl) (Ch.nil (Fin.go (FB 0 1 5 31 rfl ?_)))))))))
 refine Tr.cn rfl ?_ ?_<;>intro h4 q4
 refine Tr.seq (Tr.A0 (cm rfl (cm rfl (Ch.nil (Fin.go (Tr.ret (Fin.AJ (Fin.EI rfl (Bq.D3 _ _) rfl ?_))))))))
 · rw [OB CK hk hlt (by rw [hz];congr 1)];exact Lr
 refine Tr.skip (Fin.go (Tr.seq (Tr.pad (Tr.EL mixed [none,none,none,none,some (0,0,true,37),none,none,some (37,0,true,40),none,none,none,some (40,0,true,44),some (44,0,true,4)] (by kernel_rfl) (xo rfl (fun _=>AH (xs:=[]) (rows:=[]) rfl rfl underlying53 Da z9 rfl (by decide) trivial (by decide)) (xm rfl (xm rfl ?_)))))))
 refine xo rfl (fun _=>BM rfl underlying53 Da (vl rfl) (vl rfl) (by omega) (by simp;omega)) ?_
 refine Cx.ef 0 rfl rfl (by decide) (Ah rfl rfl (by decide) rfl underlying53 Da Oy z9 rfl (by decide) (Kf rfl) (vl rfl) (by simp;unfold maxLen;omega) (by simp;omega) (CB (by exact List.Mem.head _) (vl rfl))) ?_
 refine xm rfl (xo rfl (fun _=>AH (xs:=[.tmp 38]) (rows:=[[_]]) rfl rfl underlying53 Da z9 rfl (by decide) ⟨⟨(by exact rfl),(Vo rfl)⟩,trivial⟩ (by decide)) ?_)
 refine Cx.ef 0 rfl rfl (by decide) (Ah rfl rfl (by decide) rfl underlying53 Da Oy z9 rfl (by decide) (vl rfl) (Kf rfl) (by simp;unfold maxLen;omega) (by simp;omega) BF) ?_
 refine xm rfl (xm rfl ?_)
 refine xo rfl (fun _=>At rfl underlying53 Da (vl rfl) (vl rfl) (by omega) (by simp;omega)) ?_
 refine Cx.ef 0 rfl rfl (by decide) (Ah rfl rfl (by decide) rfl underlying53 Da Oy z9 rfl (by decide) (vl rfl) (vl rfl) (by simp;unfold maxLen;omega) (by simp;omega) BF) ?_
 refine Cx.ef 0 rfl rfl (by decide) (B6 rfl rfl (by decide) rfl (vl rfl)) ?_
 refine Cx.nil ⟨rfl,?_⟩
 refine BJ.open_ 0 4 rfl rfl (fun v1=> ?_)
 refine BJ.done (BS.cons (BS.map _)) (Fin.go (Cg 4 rfl (Tr.ret (Fin.EI rfl (Bq.D3 _ _) rfl ?_))))
 · rw [Jw CK hk hlt (fun w hw=>by obtain rfl:z=y:=(by rw [hz] at hy;exact Option.some.inj hy);obtain rfl:z=w:=(by rw [hz] at hw;exact Option.some.inj hw);exact ⟨by have:=Il z x;omega,by assumption⟩)];exact Pr.le_trans (BP _ _) (Pr.le_of_eq (by show slice 1 _=slice 1 _;rw [Int.toNat_natCast,List.map_append,List.map_append,List.map_take,List.map_drop,List.nil_append];rfl))
 iterate 6 refine cnt h3 rfl ?_
 refine co rfl (KP rfl rfl h3 rfl) (Ch.nil (Fin.go (FB 0 1 5 31 rfl (Tr.cond rfl (fun h=>nomatch h) (fun _=> ?_)))))
 refine Tr.skip (Fin.go (Tr.seq (Tr.pad (Tr.EL mixed [none,none,none,none,some (0,0,true,37),none,none,some (37,0,true,40),none,none,none,some (40,0,true,44),some (44,0,true,4)] (by kernel_rfl) (xo rfl (fun _=>AH (xs:=[]) (rows:=[]) rfl rfl underlying53 Da z9 rfl (by decide) trivial (by decide)) (xm rfl (xm rfl (xo rfl (fun _=>BM rfl underlying53 Da (vl rfl) (vl rfl) (by omega) (by omega)) ?_))))))))
 refine Cx.ef 0 rfl rfl (by decide) (Ah rfl rfl (by decide) rfl underlying53 Da Oy z9 rfl (by decide) (Kf rfl) (vl rfl) (by simp;unfold maxLen;omega) (by simp;omega) (CB (by exact List.Mem.head _) (vl rfl))) ?_
 refine xm rfl (xo rfl (fun _=>AH (xs:=[.tmp 38]) (rows:=[[_]]) rfl rfl underlying53 Da z9 rfl (by decide) ⟨⟨(by exact rfl),(Vo rfl)⟩,trivial⟩ (by decide)) ?_)
 refine Cx.ef 0 rfl rfl (by decide) (Ah rfl rfl (by decide) rfl underlying53 Da Oy z9 rfl (by decide) (vl rfl) (Kf rfl) (by simp;unfold maxLen;omega) (by simp;omega) BF) ?_
 refine xm rfl (xm rfl (xo rfl (fun _=>At rfl underlying53 Da (vl rfl) (vl rfl) (by omega) (by omega)) ?_))
 refine Cx.ef 0 rfl rfl (by decide) (Ah rfl rfl (by decide) rfl underlying53 Da Oy z9 rfl (by decide) (vl rfl) (vl rfl) (by simp;unfold maxLen;omega) (by simp;omega) BF) ?_
 refine Cx.ef 0 rfl rfl (by decide) (B6 rfl rfl (by decide) rfl (vl rfl)) ?_
 refine Cx.nil ⟨rfl,?_⟩
 refine BJ.open_ 0 4 rfl rfl (fun v2=> ?_)
 refine BJ.done (BS.cons (BS.map _)) (Fin.go (Cg 4 rfl (Tr.ret (Fin.EI rfl (Bq.D3 _ _) rfl ?_))))
 · exfalso;omega
 iterate 6 refine cnt h1 rfl ?_
 refine co rfl (KP rfl rfl h1 rfl) (Ch.nil (Fin.go (FB 0 1 5 17 rfl (Tr.cond rfl (fun h=>nomatch h) (fun _=> ?_)))))
 refine Tr.exit (Fin.AK (Fin.AK (Fin.Aa (Fin.go (Tr.seq (Tr.seq (Tr.A0 (cm rfl (cm rfl (co rfl (Co rfl underlying53 (vl rfl)) (co rfl (ki rfl rfl rfl rfl) (cm rfl ?_))))))))))))
 refine Ch.cs 24 rfl ?_ ?_<;>intro h5 q5
 obtain ⟨z,hz⟩:=at_ (l:=l) (k:=k) (by omega)
 refine Dh h5 rfl (Dh h5 rfl (cy h5 rfl (AB rfl underlying53 Da (vl rfl) (vl rfl) (by omega) (AZ hz)) (cy h5 rfl (U9 rfl Nc rfl) (Dh h5 rfl (cy h5 rfl (O4 rfl (vl rfl) (vl rfl)) (co rfl (NM rfl rfl h5 rfl) (Ch.nil (Fin.go (FB 0 1 5 31 rfl ?_)))))))))
 refine Tr.cn rfl ?_ ?_<;>intro h6 q6
 refine Tr.seq (Tr.A0 (cm rfl (cm rfl (Ch.nil (Fin.go (Tr.ret (Fin.AJ (Fin.EI rfl (Bq.D3 _ _) rfl ?_))))))))
 · exfalso;omega
 refine Tr.skip (Fin.go (Tr.seq (Tr.pad (Tr.EL mixed [none,none,none,none,some (0,0,true,37),none,none,some (37,0,true,40),none,none,none,some (40,0,true,44),some (44,0,true,4)] (by kernel_rfl) (xo rfl (fun _=>AH (xs:=[]) (rows:=[]) rfl rfl underlying53 Da z9 rfl (by decide) trivial (by decide)) (xm rfl (xm rfl (xo rfl (fun _=>BM rfl underlying53 Da (vl rfl) (vl rfl) (by omega) (by omega)) ?_))))))))
 refine Cx.ef 0 rfl rfl (by decide) (Ah rfl rfl (by decide) rfl underlying53 Da Oy z9 rfl (by decide) (Kf rfl) (vl rfl) (by simp;unfold maxLen;omega) (by simp;omega) (CB (by exact List.Mem.head _) (vl rfl))) ?_
 refine xm rfl (xo rfl (fun _=>AH (xs:=[.tmp 38]) (rows:=[[_]]) rfl rfl underlying53 Da z9 rfl (by decide) ⟨⟨(by exact rfl),(Vo rfl)⟩,trivial⟩ (by decide)) ?_)
 refine Cx.ef 0 rfl rfl (by decide) (Ah rfl rfl (by decide) rfl underlying53 Da Oy z9 rfl (by decide) (vl rfl) (Kf rfl) (by simp;unfold maxLen;omega) (by simp;omega) BF) ?_
 refine xm rfl (xm rfl (xo rfl (fun _=>At rfl underlying53 Da (vl rfl) (vl rfl) (by omega) (by omega)) ?_))
 refine Cx.ef 0 rfl rfl (by decide) (Ah rfl rfl (by decide) rfl underlying53 Da Oy z9 rfl (by decide) (vl rfl) (vl rfl) (by simp;unfold maxLen;omega) (by simp;omega) BF) ?_
 refine Cx.ef 0 rfl rfl (by decide) (B6 rfl rfl (by decide) rfl (vl rfl)) ?_
 refine Cx.nil ⟨rfl,?_⟩
 refine BJ.open_ 0 4 rfl rfl (fun v3=> ?_)
 refine BJ.done (BS.cons (BS.map _)) (Fin.go (Cg 4 rfl (Tr.ret (Fin.EI rfl (Bq.D3 _ _) rfl ?_))))
 · exfalso;omega
 iterate 6 refine cnt h5 rfl ?_
 refine co rfl (KP rfl rfl h5 rfl) (Ch.nil (Fin.go (FB 0 1 5 31 rfl (Tr.cond rfl (fun h=>nomatch h) (fun _=> ?_)))))
 refine Tr.skip (Fin.go (Tr.seq (Tr.pad (Tr.EL mixed [none,none,none,none,some (0,0,true,37),none,none,some (37,0,true,40),none,none,none,some (40,0,true,44),some (44,0,true,4)] (by kernel_rfl) (xo rfl (fun _=>AH (xs:=[]) (rows:=[]) rfl rfl underlying53 Da z9 rfl (by decide) trivial (by decide)) (xm rfl (xm rfl ?_)))))))
 refine xo rfl (fun _=>BM rfl underlying53 Da (vl rfl) (vl rfl) (by omega) (by simp;omega)) ?_
 refine Cx.ef 0 rfl rfl (by decide) (Ah rfl rfl (by decide) rfl underlying53 Da Oy z9 rfl (by decide) (Kf rfl) (vl rfl) (by simp;unfold maxLen;omega) (by simp;omega) (CB (by exact List.Mem.head _) (vl rfl))) ?_
 refine xm rfl (xo rfl (fun _=>AH (xs:=[.tmp 38]) (rows:=[[_]]) rfl rfl underlying53 Da z9 rfl (by decide) ⟨⟨(by exact rfl),(Vo rfl)⟩,trivial⟩ (by decide)) ?_)
 refine Cx.ef 0 rfl rfl (by decide) (Ah rfl rfl (by decide) rfl underlying53 Da Oy z9 rfl (by decide) (vl rfl) (Kf rfl) (by simp;unfold maxLen;omega) (by simp;omega) BF) ?_
 refine xm rfl (xm rfl ?_)
 refine xo rfl (fun _=>At rfl underlying53 Da (vl rfl) (vl rfl) (by omega) (by simp;omega)) ?_
 refine Cx.ef 0 rfl rfl (by decide) (Ah rfl rfl (by decide) rfl underlying53 Da Oy z9 rfl (by decide) (vl rfl) (vl rfl) (by simp;unfold maxLen;omega) (by simp;omega) BF) ?_
 refine Cx.ef 0 rfl rfl (by decide) (B6 rfl rfl (by decide) rfl (vl rfl)) ?_
 refine Cx.nil ⟨rfl,?_⟩
 refine BJ.open_ 0 4 rfl rfl (fun v4=> ?_)
 refine BJ.done (BS.cons (BS.map _)) (Fin.go (Cg 4 rfl (Tr.ret (Fin.EI rfl (Bq.D3 _ _) rfl ?_))))
 · rw [Jw CK hk hlt (fun w hw=>by rw [List.getElem?_eq_none (by omega)] at hw;cases hw)];exact Pr.le_trans (BP _ _) (Pr.le_of_eq (by show slice 1 _=slice 1 _;rw [Int.toNat_natCast,List.map_append,List.map_append,List.map_take,List.map_drop,List.nil_append];rfl))
theorem HW {l:List AO} {p:List Int} {i b0 n:Nat} {f:AO} {m AE:Int} (hd:HU l) (hl:Jc l) (hi:l[i]? =some f) (hm:ET l AE i=m) (ZT:p.length=n) (hp:∀(j:Nat),j<i→p[j]? =some ((AR l AE j:Nat):Int)) (hn:n=l.length) (hn2:n≤1000000):A5 prog 98 [BC l,is (.slice (some ⟨b0,0,none⟩) n n),int ((i:Nat):Int),int m,int AE] (int (AR l AE i:Nat)) (AA true b0 3 (arr p)) (fun _=>AA true b0 3 (arr p)):=by
 refine A5.of func98 rfl rfl (by exact Nb rfl) fun M0 w0 S rs M1 w1=> ?_
 have CS:=Bh hi
 have iT:=EB hd hi
 refine ac ?_
 refine an ?_ ?_<;>intro h1 q1
 refine ac ?_
 refine Tr.block (Tr.BV [(0,_),(2,_),(3,_),(4,_)] (Sd rfl) (fun k:Nat=>[(11,int ((k:Nat):Int))]) (fun k:Nat=>k≤i∧∀j,j<k→¬ET l AE j=m) (fun k:Nat=>i-k) 0 (⟨Nat.zero_le _,fun j h=>absurd h (by omega)⟩) ⟨ke rfl,trivial⟩ ?_)
 rintro k ⟨hk,hno⟩
 refine an ?_ ?_<;>intro h2 q2
 have hki:k<i:=by have:=of_decide_eq_true h2;omega
 obtain ⟨x,hx⟩:=at_ (l:=l) (k:=k) (by omega)
 refine a2 ?_
 refine co rfl (AB rfl underlying31 AY (vl rfl) (vl rfl) (by omega) (by exact AZ (by assumption))) ?_
 refine ac ?_
 refine FK 0 2 3 4 11 12 rfl ?_
 refine an ?_ ?_<;>intro h3 q3
 refine ac ?_
 refine co rfl (eH (I3 (i:=k) hd hx) rfl rfl rfl rfl) ?_
 refine a2 ?_
 refine LZ 0 2 3 4 11 12 13 34 rfl ?_
 refine Tr.cn rfl ?_ ?_<;>intro h4 q4
 obtain ⟨dZ,g,hg,iU,mJ,hgd⟩:=EU (f:=x) (AE:=AE) q4
 have hmk:=FQ hx (by assumption) q4 hg
 refine ac ?_
 refine co rfl (AB rfl underlying31 AY (vl rfl) (vl rfl) (by omega) (by exact AZ (by assumption))) ?_
 refine ac ?_
 refine FK 0 2 3 4 11 12 rfl ?_
 refine an ?_ ?_<;>intro h5 q5
 refine ac ?_
 refine Tr.ret (Fin.Ad (Fin.AJ (Fin.AJ (Fin.Ad (Fin.AJ (Fin.AJ (Fin.CI rfl rfl ?_ (fun _ _ _ _=>rfl))))))))
 · exact int_eq (by rw [GV (k:=k) (by rw [hm];assumption) (by omega) (by rw [hmk,hm];assumption) (fun j h=>by rw [hm];exact hno j h)])
 refine a2 ?_
 exact Fin.AF (k+1) ⟨⟨by omega,fun j h=>by rcases Nat.lt_or_eq_of_le (show j≤k by omega) with h3|h3;exact hno j h3;(subst h3;rw [hmk];omega)⟩,by omega⟩ ⟨⟨_,rfl,AM k⟩,ke rfl,ke rfl,ke rfl,ke rfl,trivial⟩
 have hmk:=EF hx (by assumption) (by omega)
 refine ac ?_
 refine an ?_ ?_<;>intro h6 q6
 refine ac ?_
 refine Tr.ret (Fin.Ad (Fin.AJ (Fin.AJ (Fin.Ad (Fin.AJ (Fin.AJ (Fin.CI rfl rfl ?_ (fun _ _ _ _=>rfl))))))))
 · exfalso;omega
 refine a2 ?_
 exact Fin.AF (k+1) ⟨⟨by omega,fun j h=>by rcases Nat.lt_or_eq_of_le (show j≤k by omega) with h3|h3;exact hno j h3;(subst h3;rw [hmk];omega)⟩,by omega⟩ ⟨⟨_,rfl,AM k⟩,ke rfl,ke rfl,ke rfl,ke rfl,trivial⟩
 have hmk:=Ev (AE:=AE) hx q3
 refine ac ?_
 refine an ?_ ?_<;>intro h7 q7
 refine ac ?_
 refine Tr.ret (Fin.Ad (Fin.AJ (Fin.AJ (Fin.Ad (Fin.AJ (Fin.AJ (Fin.CI rfl rfl ?_ (fun _ _ _ _=>rfl))))))))
 · exact int_eq (by rw [GV (k:=k) (by rw [hm];assumption) (by omega) (by rw [hmk,hm];assumption) (fun j h=>by rw [hm];exact hno j h)])
 refine a2 ?_
 exact Fin.AF (k+1) ⟨⟨by omega,fun j h=>by rcases Nat.lt_or_eq_of_le (show j≤k by omega) with h3|h3;exact hno j h3;(subst h3;rw [hmk];omega)⟩,by omega⟩ ⟨⟨_,rfl,AM k⟩,ke rfl,ke rfl,ke rfl,ke rfl,trivial⟩
 have:=h2
 refine a2 ?_
 refine Tr.ret (Fin.AJ (Fin.CI rfl rfl ?_ (fun _ _ _ _=>rfl)))
 · exact int_eq (by rw [GV (k:=i) (by rw [hm];assumption) (Nat.le_refl _) rfl (fun j h=>by rw [hm];exact hno j (by omega))])
 refine a2 ?_
 refine Tr.block (Tr.BV [(0,_),(1,_),(2,_),(4,_)] (Sd rfl) (fun k:Int=>[(14,int (k:Int))]) (fun k:Int=> -1≤k∧k<i∧∀(j:Nat),k<j→j<i→∀e,l[j]? =some e→¬(e.host=f.host∧ET l AE j=0)) (fun k:Int=>(k+1).toNat) ((i:Int)-1) (⟨by omega,by omega,fun j h1 h2=>absurd h2 (by omega)⟩) ⟨ke rfl,trivial⟩ ?_)
 rintro k ⟨hk1,hk2,hno⟩
 refine an ?_ ?_<;>intro h8 q8
 have iP:0≤k:=of_decide_eq_true h8
 obtain ⟨x,hx⟩:=at_ (l:=l) (k:=k.toNat) (by omega)
 have oG:=EB hd hx
 refine a2 ?_
 refine co rfl (AB rfl underlying31 AY (vl rfl) (vl rfl) (by omega) (CC hx)) ?_
 refine ac ?_
 refine co rfl (AB rfl underlying31 AY (vl rfl) (vl rfl) (by omega) (AZ hi)) ?_
 refine ag ?_ ?_<;>intro h9 q9
 refine ac ?_
 refine cy h9 rfl (AB rfl underlying31 AY (vl rfl) (vl rfl) (by omega) (CC hx)) ?_
 refine ag ?_ ?_<;>intro h10 XK
 refine ac ?_
 refine cy h10 rfl (Ai rfl (I3 (i:=k.toNat) hd hx) ⟨ke rfl,⟨_,rfl,int_eq (by omega)⟩,ke rfl,trivial⟩) ?_
 refine ac ?_
 refine FK 0 1 2 4 14 76 rfl ?_
 refine Tr.cn rfl ?_ ?_<;>intro h11 Zd
 refine ac ?_
 refine co rfl (AB rfl underlying31 AY (vl rfl) (vl rfl) (by omega) (AZ hi)) ?_
 refine ac ?_
 refine co rfl (AB rfl underlying31 AY (vl rfl) (vl rfl) (by omega) (CC hx)) ?_
 refine ac ?_
 refine FB 1 2 14 89 rfl ?_
 refine Tr.cn rfl ?_ ?_<;>intro h12 YY
 refine ac ?_
 refine co rfl (AD rfl underlying22 B7 (vl rfl) (vl rfl) (by omega) (by omega)) (co rfl (Ay 0 rfl (B2 rfl Cr (vl rfl) (M9 (hp _ (by omega))))) ?_)
 refine ac ?_
 refine Tr.ret (Fin.AJ (Fin.Ad (Fin.AJ (Fin.AJ (Fin.Ad (Fin.AJ (Fin.CI rfl rfl ?_ (fun _ _ _ _=>rfl))))))))
 · exact int_eq (by rw [JQ hl hi hx (by rw [hm];assumption) (by omega) ((L_ hx).2 ⟨by assumption,by assumption⟩) (by assumption) (fun j h1 h2=>hno j (by omega) h2),if_pos (by omega)])
 refine a2 ?_
 refine Tr.ret (Fin.Ad (Fin.AJ (Fin.AJ (Fin.Ad (Fin.AJ (Fin.CI rfl rfl ?_ (fun _ _ _ _=>rfl)))))))
 · exact int_eq (by rw [JQ hl hi hx (by rw [hm];assumption) (by omega) ((L_ hx).2 ⟨by assumption,by assumption⟩) (by assumption) (fun j h1 h2=>hno j (by omega) h2),if_neg (by omega)])
 refine a2 ?_
 exact Fin.AF (k-1) ⟨⟨by omega,by omega,fun j h1 h2 e he=>by by_cases hj:k<j;exact hno j hj h2 e he;(obtain rfl:j=k.toNat:=(by omega);rw [hx] at he;cases he;rintro ⟨ha,hb⟩;have hc:=EV hx hb;omega)⟩,by omega⟩ (SE rfl)
 refine ac ?_
 refine FK 0 1 2 4 14 76 rfl ?_
 refine a2 ?_
 exact Fin.AF (k-1) ⟨⟨by omega,by omega,fun j h1 h2 e he=>by by_cases hj:k<j;exact hno j hj h2 e he;(obtain rfl:j=k.toNat:=(by omega);rw [hx] at he;cases he;rintro ⟨ha,hb⟩;have hc:=EV hx hb;exact absurd hc.1 (by assumption))⟩,by omega⟩ (SE rfl)
 refine ac ?_
 refine FK 0 1 2 4 14 76 rfl ?_
 refine a2 ?_
 exact Fin.AF (k-1) ⟨⟨by omega,by omega,fun j h1 h2 e he=>by by_cases hj:k<j;exact hno j hj h2 e he;(obtain rfl:j=k.toNat:=(by omega);rw [hx] at he;cases he;rintro ⟨ha,hb⟩;have hc:=EV hx hb;exact absurd ha (by assumption))⟩,by omega⟩ (SE rfl)
 have:=h8
 refine a2 ?_
 refine Tr.ret (Fin.CI rfl rfl ?_ (fun _ _ _ _=>rfl))
 · exact int_eq (by rw [Pg hi (by rw [hm];assumption) (fun j h=>hno j (by omega) h)])
def Eg (g:Nat→Int) (z:Int) (n k:Nat):List Int:=(List.range k).map g++List.replicate (n-k) z
theorem Dx {g:Nat→Int} {z:Int} {n k:Nat} (h:k≤n):(Eg g z n k).length=n:=by unfold Eg;simp;omega
theorem MC (g:Nat→Int) (z:Int) (n:Nat):Eg g z n 0=List.replicate n z:=by unfold Eg;simp
theorem MD (g:Nat→Int) (z:Int) (n:Nat):Eg g z n n=(List.range n).map g:=by unfold Eg;simp
theorem NA {g:Nat→Int} {z:Int} {n k j:Nat} (h:j<k):(Eg g z n k)[j]? =some (g j):=by
 unfold Eg
 rw [List.getElem?_append_left (by simpa using h),List.getElem?_map,List.getElem?_range h];rfl
theorem To {g:Nat→Int} {z:Int} {n k:Nat} (h:k<n):(Eg g z n k).set k (g k)=Eg g z n (k+1):=by
 unfold Eg
 rw [show n-k=n-(k+1)+1 by omega,List.replicate_succ,List.set_append_right _ _ (by simp),List.range_succ]
 simp
theorem Ft {g:Nat→Int} {z:Int} {n k:Nat} (h:k<n):(arr (Eg g z n k)).take (0+((k:Nat):Int).toNat*1)++[int (g k)]++(arr (Eg g z n k)).drop (0+((k:Nat):Int).toNat*1+1)=arr (Eg g z n (k+1)):=by
 rw [Int.toNat_natCast,Nat.zero_add,Nat.mul_one,M_ (by rw [Dx (by omega)];exact h),To h]
theorem V1 (n:Nat):(List.replicate n (Value.int .i64 0)).map is=arr (List.replicate n 0):=by unfold arr;simp [List.map_replicate]
theorem Tp (p:List Int):arr p=(p.map fun n=>[int n]).flatten:=by unfold arr;induction p<;>simp_all
abbrev I4 (l:List AO) (AE:Int):List Int:=(List.range l.length).map fun k=>((AR l AE k:Nat):Int)
theorem Rq {l:List AO} {AE:Int} (hd:HU l) (hl:Jc l) (hn:l.length≤1000000):Be prog 52 [BC l,int AE] (ints (I4 l AE)):=by
 refine fo func52 rfl ⟨rfl,rfl⟩ fun M0 w0=>(Tr.Db 0 rfl fun DD=> ?_)
 refine ac ?_
 refine ap ?_
 refine TO.VD rfl rfl (by decide) rfl underlying22 B7 Mh z3 rfl (vl rfl) (vl rfl) (by unfold maxLen;omega) (by omega) (fun b1=> ?_)
 refine ap ?_
 refine ac ?_
 refine Tr.block ?_
 refine Tr.F0 [(0,_),(1,_),(5,_)] ⟨ke rfl,ke rfl,ke rfl,trivial⟩ (fun k:Nat=>[(6,int ((k:Nat):Int))]) (fun k:Nat=>Hp M0 w0 J9 ([AA true b1 3 (arr (Eg (fun _=> -1) 0 l.length k))])) (fun k:Nat=>k≤(l).length) (fun k:Nat=>(l).length-k) 0 (Nat.zero_le _) ⟨ke rfl,trivial⟩ ((by rw [V1,MC];exact fun _ _ h=>h)) ?_
 rintro k CN
 refine an ?_ ?_<;>intro h1 q1
 have Au:k<(l).length:=Af h1
 obtain ⟨y,Ae⟩:=at_ Au
 refine ac ?_
 refine ap ?_
 refine tp rfl (AD rfl underlying22 B7 (vl rfl) (vl rfl) (by omega) (by omega)) ?_
 refine TO.DP 0 rfl rfl (Ar rfl rfl (vl rfl) (Vo rfl) B7 rfl (by unfold arr;rw [List.length_map,Dx (by omega)];omega) (Ft (g:=fun _=> -1) (by omega))) ?_
 refine ap ?_
 refine ac ?_
 exact Fin.SA (k+1) ⟨Au,by omega⟩ ⟨⟨_,rfl,AM k⟩,ke rfl,ke rfl,ke rfl,trivial⟩ (fun _ _ h=>h)
 have Bn:k=(l).length:=by have:=Ag h1;omega
 subst Bn
 refine a2 ?_
 refine Tr.block ?_
 refine Tr.F0 [(0,_),(1,_),(5,_)] ⟨ke rfl,ke rfl,ke rfl,trivial⟩ (fun k2:Nat=>[(7,int ((k2:Nat):Int))]) (fun k2:Nat=>Hp M0 w0 J9 ([AA true b1 3 (arr (Eg (fun j=>((AR l AE j:Nat):Int)) (-1) l.length k2))])) (fun k2:Nat=>k2≤(l).length) (fun k2:Nat=>(l).length-k2) 0 (Nat.zero_le _) ⟨ke rfl,trivial⟩ ((by rw [MD,MC,List.map_const',List.length_range];exact fun _ _ h=>h)) ?_
 rintro k2 iV
 refine an ?_ ?_<;>intro h2 q2
 have Qx:k2<(l).length:=Af h2
 obtain ⟨x,LA⟩:=at_ Qx
 refine a2 ?_
 refine co rfl (AB rfl underlying31 AY (vl rfl) (vl rfl) (by omega) (by exact AZ (by assumption))) ?_
 refine ac ?_
 refine HJ 0 1 5 7 8 rfl ?_
 refine an ?_ ?_<;>intro h3 q3
 refine ac ?_
 refine co rfl (eH (I3 hd LA) rfl rfl rfl rfl) ?_
 refine a2 ?_
 refine JJ 0 1 5 7 8 9 40 rfl ?_
 refine Tr.cn rfl ?_ ?_<;>intro h4 q4
 obtain ⟨dZ,g,hg,iU,mJ,hgd⟩:=EU (f:=x) (AE:=AE) q4
 have hmk:=FQ LA (by assumption) q4 hg
 refine ac ?_
 refine co rfl (AB rfl underlying31 AY (vl rfl) (vl rfl) (by omega) (by exact AZ (by assumption))) ?_
 refine ac ?_
 refine ap ?_
 refine TO.DZ 0 rfl rfl (by decide) (Ab rfl rfl (by decide) rfl (HW (p:=(Eg (fun j=>((AR l AE j:Nat):Int)) (-1) l.length k2)) hd hl LA hmk (Dx (by omega)) (fun j hj=>NA hj) rfl hn) ⟨ke rfl,ke rfl,ke rfl,⟨_,rfl,int_eq (by omega)⟩,ke rfl,trivial⟩) ?_
 refine tp rfl (AD rfl underlying22 B7 (vl rfl) (vl rfl) (by omega) (by omega)) ?_
 refine TO.DP 0 rfl rfl (Ar rfl rfl (vl rfl) (Vo rfl) B7 rfl (by unfold arr;rw [List.length_map,Dx (by omega)];omega) (Ft (g:=fun j=>((AR l AE j:Nat):Int)) (by omega))) ?_
 refine ap ?_
 refine FB 0 1 5 7 rfl ?_
 refine ac ?_
 exact Fin.SA (k2+1) ⟨Qx,by omega⟩ ⟨⟨_,rfl,AM k2⟩,ke rfl,ke rfl,ke rfl,trivial⟩ (fun _ _ h=>h)
 have hmk:=EF LA (by assumption) (by omega)
 refine ac ?_
 refine ap ?_
 refine TO.DZ 0 rfl rfl (by decide) (Ab rfl rfl (by decide) rfl (HW (p:=(Eg (fun j=>((AR l AE j:Nat):Int)) (-1) l.length k2)) hd hl LA hmk (Dx (by omega)) (fun j hj=>NA hj) rfl hn) ⟨ke rfl,ke rfl,ke rfl,⟨_,rfl,int_eq (by omega)⟩,ke rfl,trivial⟩) ?_
 refine tp rfl (AD rfl underlying22 B7 (vl rfl) (vl rfl) (by omega) (by omega)) ?_
 refine TO.DP 0 rfl rfl (Ar rfl rfl (vl rfl) (Vo rfl) B7 rfl (by unfold arr;rw [List.length_map,Dx (by omega)];omega) (Ft (g:=fun j=>((AR l AE j:Nat):Int)) (by omega))) ?_
 refine ap ?_
 refine FB 0 1 5 7 rfl ?_
 refine ac ?_
 exact Fin.SA (k2+1) ⟨Qx,by omega⟩ ⟨⟨_,rfl,AM k2⟩,ke rfl,ke rfl,ke rfl,trivial⟩ (fun _ _ h=>h)
 have hmk:=Ev (AE:=AE) LA q3
 refine ac ?_
 refine ap ?_
 refine TO.DZ 0 rfl rfl (by decide) (Ab rfl rfl (by decide) rfl (HW (p:=(Eg (fun j=>((AR l AE j:Nat):Int)) (-1) l.length k2)) hd hl LA hmk (Dx (by omega)) (fun j hj=>NA hj) rfl hn) ⟨ke rfl,ke rfl,ke rfl,⟨_,rfl,int_eq (by omega)⟩,ke rfl,trivial⟩) ?_
 refine tp rfl (AD rfl underlying22 B7 (vl rfl) (vl rfl) (by omega) (by omega)) ?_
 refine TO.DP 0 rfl rfl (Ar rfl rfl (vl rfl) (Vo rfl) B7 rfl (by unfold arr;rw [List.length_map,Dx (by omega)];omega) (Ft (g:=fun j=>((AR l AE j:Nat):Int)) (by omega))) ?_
 refine ap ?_
 refine FB 0 1 5 7 rfl ?_
 refine ac ?_
 exact Fin.SA (k2+1) ⟨Qx,by omega⟩ ⟨⟨_,rfl,AM k2⟩,ke rfl,ke rfl,ke rfl,trivial⟩ (fun _ _ h=>h)
 have cr:k2=(l).length:=by have:=Ag h2;omega
 subst cr
 rw [MD,Tp,←List.append_nil (List.flatten _)]
 refine a2 ?_
 refine Tr.ret ?_
 refine Fin.O9 (sz:=1) (cap:=l.length) ((I4 l AE).map fun n=>[int n]) 0 4 rfl rfl (Pr.le_of_eq (by simp)) (Aj fun _=>rfl) (by simp) (by unfold maxLen;omega) (by simp) ?_
 refine Fin.EI rfl (Bq.D3 _ _) rfl ?_
 · exact BP _ _
abbrev V2 (e:GS):List Pr:=[int e.num,strs e.A7,ints e.As,ints e.BC]
abbrev Lc (l:List GS):Pr:=slice 4 (l.map V2)
def Zf (l:List GS) (v:Int):Int:=match l.find? (fun e=>e.BC.any fun x=>v==x) with
 |some e=>e.num
 |none=> -1
theorem D9 {α:Type} {p:α→Bool} {l:List α} {k:Nat} {x:α} (hx:l[k]? =some x) (hno:(l.take k).find? p=none) (hp:p x=true):l.find? p=some x:=by
 have hk:=Bh hx
 rw [List.getElem?_eq_getElem hk] at hx
 cases hx
 conv=>lhs;rw [←List.take_append_drop k l,List.drop_eq_getElem_cons hk]
 rw [List.find?_append,hno,List.find?_cons_of_pos hp];rfl
theorem Qy {α:Type} {p:α→Bool} {l:List α} {k:Nat} {x:α} (hx:l[k]? =some x) (hno:(l.take k).find? p=none) (hp:p x=false):(l.take (k+1)).find? p=none:=by
 rw [List.take_add_one,hx,List.find?_append,hno];simp [hp]
theorem Tq {a b:GS}:a=b↔(a.num=b.num∧a.A7=b.A7∧a.As=b.As∧a.BC=b.BC):=by
 cases a;cases b;simp
theorem V3 {l:List GS} {v:Int}  :Be prog 25 [Lc l,int v] (int (Zf l v)):=by
 refine fo func25 rfl ⟨rfl,rfl⟩ fun M0 w0=>(Tr.Db 0 rfl fun DD=> ?_)
 refine a2 ?_
 refine Tr.block (Tr.BV [(0,_),(1,_)] (Ow rfl) (fun k:Nat=>[(5,int ((k:Nat):Int))]) (fun k:Nat=>k≤(l).length∧((l.take k).find? (fun e=>e.BC.any fun x=>v==x)=none)) (fun k:Nat=>(l).length-k) 0 (⟨Nat.zero_le _,rfl⟩) ⟨ke rfl,trivial⟩ ?_)
 rintro k ⟨CN,Ac⟩
 refine an ?_ ?_<;>intro h1 q1
 have Au:k<(l).length:=Af h1
 obtain ⟨x,Ae⟩:=at_ Au
 · repeat' first|(exact int_eq (by unfold Zf;rw [D9 Ae Ac (by assumption)]))|exact Fin.AF (k+1) ⟨⟨Au,Qy Ae Ac (by assumption)⟩,by omega⟩ ⟨⟨_,rfl,AM k⟩,ke rfl,ke rfl,trivial⟩|refine co rfl (F3 (Tn) rfl rfl rfl) ?_|refine co rfl (AB rfl underlying35 EO (vl rfl) (vl rfl) (by omega) (by exact AZ (by assumption))) ?_|refine ac ?_|(refine Tr.cn rfl ?_ ?_<;>intro h q)
 have Bn:k=(l).length:=by have:=Ag h1;omega
 subst Bn
 rw [List.take_length] at Ac
 refine a3 ?_
 · exact int_eq (by unfold Zf;rw [Ac])
theorem Rr {a b:List GS}  :Be prog 21 [Lc a,Lc b] (bool (decide (a=b))):=by
 refine fo func21 rfl ⟨rfl,rfl⟩ fun M0 w0=>(Tr.Db 0 rfl fun DD=>(Tr.Db 1 rfl fun N2=> ?_))
 refine ac ?_
 refine an ?_ ?_<;>intro h1 q1
 have hne:¬a.length=b.length:=by simp_all;omega
 refine a2 ?_
 · refine bool_eq ?_;symm;rw [decide_eq_false_iff_not];rintro rfl;exact hne rfl
 have Jx:a.length=b.length:=by simp_all;omega
 refine a2 ?_
 refine Tr.block (Tr.BV [(0,_),(1,_)] (Ow rfl) (fun k:Nat=>[(5,int ((k:Nat):Int))]) (fun k:Nat=>k≤(a).length∧(a.take k=b.take k)) (fun k:Nat=>(a).length-k) 0 (⟨Nat.zero_le _,rfl⟩) ⟨ke rfl,trivial⟩ ?_)
 rintro k ⟨CN,Ac⟩
 refine an ?_ ?_<;>intro h2 q2
 have Au:k<(a).length:=Af h2
 obtain ⟨x,Ae⟩:=at_ Au
 obtain ⟨y,hy⟩:=at_ (l:=b) (k:=k) (by omega)
 · repeat' first|(refine bool_eq ?_;symm;rw [decide_eq_false_iff_not];refine Qv Ae hy ?_;rw [Tq];intro hc;simp_all)|(exact Fin.AF (k+1) ⟨⟨Au,Qu Ae hy Ac (by rw [Tq];simp_all)⟩,by omega⟩ ⟨⟨_,rfl,AM k⟩,ke rfl,ke rfl,trivial⟩)|refine co rfl (AB rfl underlying35 EO (vl rfl) (vl rfl) (by omega) (AZ Ae)) ?_|refine co rfl (AB rfl underlying35 EO (vl rfl) (vl rfl) (by omega) (AZ hy)) ?_|refine cy h rfl (F3 (JS) rfl rfl rfl) ?_|refine cy h rfl (F3 (HV) rfl rfl rfl) ?_|refine cy h rfl (AB rfl underlying35 EO (vl rfl) (vl rfl) (by omega) (AZ Ae)) ?_|refine cy h rfl (AB rfl underlying35 EO (vl rfl) (vl rfl) (by omega) (AZ hy)) ?_|refine ac ?_|(refine Tr.cn rfl ?_ ?_<;>intro h q)|(refine Ch.cg rfl rfl rfl ?_ ?_<;>intro h q)
 have Bn:k=(a).length:=by have:=Ag h2;omega
 subst Bn
 refine a3 ?_
 · refine bool_eq ?_;symm;rw [decide_eq_true_eq];exact Qw Jx Ac
def Fu (l:List AO) (AE:Int) (i:Nat):List GS:=(Bi (AR l AE) i).map fun r=>Ba l (AR l AE) r l.length
theorem LB {l:List AO} {AE:Int} {i:Nat} (h:AR l AE i=i):Fu l AE (i+1)=Fu l AE i++[Ba l (AR l AE) i l.length]:=by
 unfold Fu;rw [Dw,if_pos h,List.map_append];rfl
theorem ME {l:List AO} {AE:Int} {i:Nat} (h:¬AR l AE i=i):Fu l AE (i+1)=Fu l AE i:=by
 unfold Fu;rw [Dw,if_neg h,List.append_nil]
theorem Pj (l:List AO) (AE:Int) (i:Nat):(Fu l AE i).length≤i:=by
 unfold Fu Bi
 rw [List.length_map]
 exact Nat.le_trans (List.length_filter_le _ _) (by simp)
theorem II (l:List AO) (root:Nat→Nat) (r:Nat):∀k,(Ba l root r k).BC.length≤k∧(Ba l root r k).A7.length≤k∧(Ba l root r k).As.length≤k
 |0=>⟨Nat.zero_le _,Nat.zero_le _,Nat.zero_le _⟩
 |k+1=>by
  obtain ⟨h1,h2,h3⟩:=II l root r k
  by_cases h:root k=r
  ·
   cases hf:l[k]? with
   |none=>
    have:Ba l root r (k+1)=Ba l root r k:=by simp only [Ba,hf]
    rw [this];omega
   |some f=>
    rw [FT hf h]
    unfold DV
    have h4:(Ej (Ba l root r k).A7 f.host).length≤_:=GU Lib.compareBytes f.host (Ba l root r k).A7
    have h5:(K9 (Ba l root r k).As f.machine).length≤_:=GU An f.machine (Ba l root r k).As
    refine ⟨by simp;omega,by show (Ej _ _).length≤_;omega,?_⟩
    show (if f.machine=0 then _ else _:List Int).length≤_
    split<;>omega
  · rw [Gx h];omega
open Classical in
noncomputable def Bg (l:List AO) (AE:Int):List GS×Int:=if B_ l then (if AE<0∨4000<AE then ([],2) else (IE l AE,0)) else ([],24)
theorem GW {l:List AO} {AE:Int} (h:¬B_ l):Bg l AE=([],24):=by unfold Bg;rw [if_neg h]
theorem EY {l:List AO} {AE:Int} (h:B_ l) (hg:AE<0∨4000<AE):Bg l AE=([],2):=by unfold Bg;rw [if_pos h,if_pos hg]
theorem Fv {l:List AO} {AE:Int} (h:B_ l) (hg:0≤AE∧AE≤4000):Bg l AE=(IE l AE,0):=by unfold Bg;rw [if_pos h,if_neg (by omega)]
theorem Qz {l:List AO} (h:B_ l):HU l:=fun f hf=>by
 have:=h.check f hf
 unfold BB DE at this
 simp at this;omega
theorem MF {l:List AO} {AE:Int} {k:Nat} (h:k<l.length):(I4 l AE)[k]? =some ((AR l AE k:Nat):Int):=by
 unfold I4;rw [List.getElem?_map,List.getElem?_range h];rfl
theorem Pk (l:List AO) (AE:Int):(I4 l AE).length=l.length:=by simp [I4]
theorem E9 {l:List AO} {AE:Int}  :Be Tryz.prog 13 [BC l,int AE] (FZ [Lc (Bg l AE).1,int (Bg l AE).2]):=by
  refine Be.of Tryz.func13 rfl rfl (by exact Nat.le_of_ble_eq_true rfl) fun M0 w0=> ?_
  haveI:=Classical.propDecidable (B_ l)
  refine Tr.seq ?_
  refine Tr.A0 ?_
  refine Ch.op rfl rfl (by decide) (BH rfl (vl rfl)) ?_
  refine Ch.op rfl rfl (by decide) (BH rfl (vl rfl)) ?_
  refine Ch.nil ?_
  refine Fin.go ?_
  refine Tr.seq ?_
  refine Tr.seq ?_
  refine Tr.A0 ?_
  refine Ch.op rfl rfl (by decide) (BE rfl (vl rfl)) ?_
  refine Ch.op rfl rfl (by decide) (Ai rfl (JR) ⟨⟨_,rfl,Pr.le_refl _⟩,trivial⟩) ?_
  refine Ch.op rfl rfl (by decide) (E0 rfl (vl rfl)) ?_
  refine Ch.nil ?_
  refine Fin.go ?_
  refine Tr.cond rfl (fun h1=> ?_) (fun h1=> ?_)
  ·
    have q1:=GL.Jl h1
    have hN:¬B_ l:=by simpa using h1
    refine Tr.seq ?_
    refine Tr.A0 ?_
    refine Ch.op rfl rfl (by decide) (BH rfl (vl rfl)) ?_
    refine Ch.op rfl rfl (by decide) (BH rfl (vl rfl)) ?_
    refine Ch.nil ?_
    refine Fin.go ?_
    refine Tr.ret ?_
    refine Fin.AJ ?_
    refine Fin.EJ rfl (Bq.D3 _ _) rfl ?_ rfl ?_
    · rw [GW hN];exact AX 4
    · rw [GW hN];exact Pr.le_refl _
  ·
    have q1:=GL.Jl h1
    have hN:B_ l:=by simpa using h1
    have hlen:=hN.len
    have hrl:=Pk l AE
    refine Tr.skip ?_
    refine Fin.go ?_
    refine Tr.seq ?_
    refine Tr.seq ?_
    refine Tr.A0 ?_
    refine Ch.op rfl rfl (by decide) (BE rfl (vl rfl)) ?_
    refine Ch.op rfl rfl (by decide) (ok_int rfl (vl rfl) (vl rfl) rfl) ?_
    refine Ch.op rfl rfl (by decide) (BE rfl (vl rfl)) ?_
    refine Ch.cases 16 rfl (fun h2=> ?_) (fun h2=> ?_)
    ·
      have q2:=GL.Jl h2
      refine Ch.no rfl rfl rfl (KC h2) rfl (by decide) ?_
      refine Ch.no rfl rfl rfl (KC h2) rfl (by decide) ?_
      refine Ch.op rfl rfl (by decide) (Gd rfl (vl rfl) h2 (vl rfl)) ?_
      refine Ch.nil ?_
      refine Fin.go ?_
      refine Tr.cond rfl (fun _=> ?_) (fun h=>nomatch h)
      refine Tr.seq ?_
      refine Tr.A0 ?_
      refine Ch.op rfl rfl (by decide) (BH rfl (vl rfl)) ?_
      refine Ch.op rfl rfl (by decide) (BH rfl (vl rfl)) ?_
      refine Ch.nil ?_
      refine Fin.go ?_
      refine Tr.ret ?_
      refine Fin.AJ ?_
      refine Fin.EJ rfl (Bq.D3 _ _) rfl ?_ rfl ?_
      · rw [EY hN (by omega)];exact AX 4
      · rw [EY hN (by omega)];exact Pr.le_refl _
    ·
      have q2:=GL.Jl h2
      refine Ch.yes rfl rfl rfl h2 rfl (by decide) (BE rfl (vl rfl)) ?_
      refine Ch.yes rfl rfl rfl h2 rfl (by decide) (ok_int rfl (vl rfl) (vl rfl) rfl) ?_
      refine Ch.op rfl rfl (by decide) (Ge rfl (vl rfl) h2 (vl rfl)) ?_
      refine Ch.nil ?_
      refine Fin.go ?_
      refine Tr.cond rfl (fun h3=> ?_) (fun h3=> ?_)
      ·
        have q3:=GL.Jl h3
        refine Tr.seq ?_
        refine Tr.A0 ?_
        refine Ch.op rfl rfl (by decide) (BH rfl (vl rfl)) ?_
        refine Ch.op rfl rfl (by decide) (BH rfl (vl rfl)) ?_
        refine Ch.nil ?_
        refine Fin.go ?_
        refine Tr.ret ?_
        refine Fin.AJ ?_
        refine Fin.EJ rfl (Bq.D3 _ _) rfl ?_ rfl ?_
        · rw [EY hN (by omega)];exact AX 4
        · rw [EY hN (by omega)];exact Pr.le_refl _
      ·
        have q3:=GL.Jl h3
        refine Tr.skip ?_
        refine Fin.go ?_
        refine Tr.seq ?_
        refine Tr.A0 ?_
        refine Ch.op rfl rfl (by decide) (BE rfl (vl rfl)) ?_
        refine Ch.op rfl rfl (by decide) (BE rfl (vl rfl)) ?_
        refine Ch.op rfl rfl (by decide) (Ai rfl (Rq (Qz hN) hN.iO (by omega)) ⟨⟨_,rfl,Pr.le_refl _⟩,⟨_,rfl,Pr.le_refl _⟩,trivial⟩) ?_
        refine Ch.op rfl rfl (by decide) (BH rfl (vl rfl)) ?_
        refine Ch.nil ?_
        refine Fin.go ?_
        refine Tr.weak [(0,_),(6,_)] ⟨⟨_,rfl,Pr.le_refl _⟩,⟨_,rfl,Pr.le_refl _⟩,trivial⟩ ?_
        refine Tr.seq ?_
        refine Tr.A0 ?_
        refine Ch.op rfl rfl (by decide) (BH rfl (vl rfl)) ?_
        refine Ch.nil ?_
        refine Fin.go ?_
        refine Tr.seq ?_
        refine Tr.seq ?_
        refine Tr.A0 ?_
        refine Ch.op rfl rfl (by decide) (BH rfl (vl rfl)) ?_
        refine Ch.nil ?_
        refine Fin.go ?_
        refine Tr.block ?_
        refine Tr.Ih 55 4 ?_
        refine Tr.Oq [(0,_),(6,_)] ⟨⟨_,rfl,Pr.le_refl _⟩,⟨_,rfl,Pr.le_refl _⟩,trivial⟩ (fun i v=>[(8,int ((i:Nat):Int)),(7,Aq v (Lc (Fu l AE i)))]) (fun i v=>Hp M0 w0 J9 ([BR 55 4 v])) (fun i:Nat=>i≤(l).length) (fun i:Nat=>(l).length-i) 0 (.slice none 0 0) (Nat.zero_le _) ⟨⟨_,rfl,Pr.le_refl _⟩,⟨_,rfl,Gh rfl⟩,trivial⟩ (fun _ _ h=>h) ?_
        rintro i v Ts
        refine Tr.seq ?_
        refine Tr.seq ?_
        refine Tr.A0 ?_
        refine Ch.op rfl rfl (by decide) (BE rfl (vl rfl)) ?_
        refine Ch.op rfl rfl (by decide) (BE rfl (vl rfl)) ?_
        first
          |refine Ch.op rfl rfl (by decide) (Co rfl Tryz.underlying31 (vl rfl)) ?_
          |refine Ch.op rfl rfl (by decide) (E2 rfl Tryz.underlying31 (vl rfl)) ?_
        refine Ch.op rfl rfl (by decide) (ok_int rfl (vl rfl) (vl rfl) rfl) ?_
        refine Ch.nil ?_
        refine Fin.go ?_
        refine Tr.cond rfl (fun h4=> ?_) (fun h4=> ?_)
        ·
          have q4:=GL.Jl h4
          have IJ:i<(l).length:=Af h4
          obtain ⟨f,Ek⟩:=at_ IJ
          have je:=Pj l AE i
          refine Tr.skip ?_
          refine Fin.go ?_
          refine Tr.seq ?_
          refine Tr.block ?_
          refine Tr.seq ?_
          refine Tr.seq ?_
          refine Tr.A0 ?_
          refine Ch.op rfl rfl (by decide) (BE rfl (vl rfl)) ?_
          refine Ch.op rfl rfl (by decide) (BE rfl (vl rfl)) ?_
          refine Ch.op rfl rfl (by decide) (AB rfl Tryz.underlying22 B7 (vl rfl) (vl rfl) (by omega) (AZ (MF IJ))) ?_
          refine Ch.op rfl rfl (by decide) (Du rfl Cr (vl rfl)) ?_
          refine Ch.op rfl rfl (by decide) (BE rfl (vl rfl)) ?_
          refine Ch.op rfl rfl (by decide) (ok_int rfl (vl rfl) (vl rfl) rfl) ?_
          refine Ch.nil ?_
          refine Fin.go ?_
          refine Tr.weak [(0,_),(6,_),(7,_),(8,_),(34,_)] ⟨⟨_,rfl,Pr.le_refl _⟩,⟨_,rfl,Pr.le_refl _⟩,⟨_,rfl,Pr.le_refl _⟩,⟨_,rfl,Pr.le_refl _⟩,⟨_,rfl,Pr.le_refl _⟩,trivial⟩ ?_
          refine Tr.cond rfl (fun h5=> ?_) (fun h5=> ?_)
          ·
            have q5:=GL.Jl h5
            refine Tr.exit ?_
            refine Fin.AK ?_
            refine Fin.Aa ?_
            refine Fin.go ?_
            refine Tr.A0 ?_
            refine Ch.op rfl rfl (by decide) (BE rfl (vl rfl)) ?_
            first
              |(refine Ch.op rfl rfl (by decide) (B9 rfl (vl rfl) (vl rfl) ?hin) ?_;case hin=>unfold Em;omega)
              |refine Ch.op rfl rfl (by decide) (ok_int rfl (vl rfl) (vl rfl) rfl) ?_
            refine Ch.op rfl rfl (by decide) (BH rfl (vl rfl)) ?_
            refine Ch.nil ?_
            exact Fin.Lm (i+1) v (⟨IJ,by omega⟩) ⟨⟨_,rfl,AM i⟩,⟨_,rfl,E4 (by first|rw [ME (by omega)]|(rw [LB (by omega),List.map_append];rfl))⟩,⟨_,rfl,Pr.le_refl _⟩,⟨_,rfl,Pr.le_refl _⟩,trivial⟩ (fun _ _ h=>h)
          ·
            have q5:=GL.Jl h5
            refine Tr.skip ?_
            refine Fin.go ?_
            refine Tr.seq ?_
            refine Tr.Cq ?_
            refine TO.op rfl rfl (by decide) (BE rfl (vl rfl)) ?_
            refine TO.op rfl rfl (by decide) (BK (rows:=[(0,[_])]) rfl aG RJ ⟨⟨rfl,(VL.le (vl rfl) (AL _))⟩,trivial⟩ rfl) ?_
            refine TO.alloc rfl rfl (by decide) rfl X2 RJ (fun b1=> ?_)
            refine TO.DB 0 rfl rfl rfl (vl rfl) (VL.le (vl rfl) (Df _)) rfl EO rfl rfl ?_
            refine TO.nil ?_
            refine Fin.go ?_
            refine Tr.seq ?_
            refine Tr.seq ?_
            refine Tr.A0 ?_
            refine Ch.op rfl rfl (by decide) (BE rfl (vl rfl)) ?_
            refine Ch.op rfl rfl (by decide) (BH rfl (vl rfl)) ?_
            refine Ch.nil ?_
            refine Fin.go ?_
            refine Tr.block ?_
            have hent:=Gw (l:=l) (EX l AE) (r:=i) i (Nat.le_refl _)
            refine Tr.Jn 0 [int ((i:Nat):Int),strs (Ba l (AR l AE) i i).A7,ints (Ba l (AR l AE) i i).As,Aq (.slice none 0 0) (ints (Ba l (AR l AE) i i).BC)] rfl ⟨Pr.le_refl _,by rw [hent];exact AX 1,by rw [hent];exact AX 1,by rw [hent];exact Gh rfl,trivial⟩ ?_
            refine Tr.Ih 3 1 ?_
            refine Tr.NY [(0,_),(6,_),(7,_),(8,_),(9,_)] ⟨⟨_,rfl,Pr.le_refl _⟩,⟨_,rfl,Pr.le_refl _⟩,⟨_,rfl,Pr.le_refl _⟩,⟨_,rfl,Pr.le_refl _⟩,⟨_,rfl,Pr.le_refl _⟩,trivial⟩ (fun (k:Nat) w=>[(10,int ((k:Nat):Int))]) (fun (k:Nat) w=>Hp M0 w0 J9 ([BR 3 1 w,AA true b1 55 [int ((i:Nat):Int),strs (Ba l (AR l AE) i k).A7,ints (Ba l (AR l AE) i k).As,Aq w (ints (Ba l (AR l AE) i k).BC)],BR 55 4 v])) (fun (k:Nat)=>i≤k∧k≤l.length) (fun (k:Nat)=>l.length-k) (i) (.slice none 0 0) (⟨Nat.le_refl _,by omega⟩) ⟨⟨_,rfl,Pr.le_refl _⟩,trivial⟩ (fun _ _ h=>h) ?_
            rintro k w ⟨hik,mK⟩
            refine Tr.seq ?_
            refine Tr.seq ?_
            refine Tr.A0 ?_
            refine Ch.op rfl rfl (by decide) (BE rfl (vl rfl)) ?_
            refine Ch.op rfl rfl (by decide) (BE rfl (vl rfl)) ?_
            first
              |refine Ch.op rfl rfl (by decide) (Co rfl Tryz.underlying31 (vl rfl)) ?_
              |refine Ch.op rfl rfl (by decide) (E2 rfl Tryz.underlying31 (vl rfl)) ?_
            refine Ch.op rfl rfl (by decide) (ok_int rfl (vl rfl) (vl rfl) rfl) ?_
            refine Ch.nil ?_
            refine Fin.go ?_
            refine Tr.cond rfl (fun h6=> ?_) (fun h6=> ?_)
            ·
              have q6:=GL.Jl h6
              have GJ:k<l.length:=Af h6
              obtain ⟨x,hx⟩:=at_ GJ
              have oH:=II l (AR l AE) i k
              refine Tr.skip ?_
              refine Fin.go ?_
              refine Tr.seq ?_
              refine Tr.block ?_
              refine Tr.seq ?_
              refine Tr.seq ?_
              refine Tr.A0 ?_
              refine Ch.op rfl rfl (by decide) (BE rfl (vl rfl)) ?_
              refine Ch.op rfl rfl (by decide) (BE rfl (vl rfl)) ?_
              refine Ch.op rfl rfl (by decide) (AB rfl Tryz.underlying22 B7 (vl rfl) (vl rfl) (by omega) (AZ (MF GJ))) ?_
              refine Ch.op rfl rfl (by decide) (Du rfl Cr (vl rfl)) ?_
              refine Ch.op rfl rfl (by decide) (BE rfl (vl rfl)) ?_
              refine Ch.op rfl rfl (by decide) (ok_int rfl (vl rfl) (vl rfl) rfl) ?_
              refine Ch.nil ?_
              refine Fin.go ?_
              refine Tr.weak [(0,_),(6,_),(7,_),(8,_),(9,_),(10,_),(49,_)] ⟨⟨_,rfl,Pr.le_refl _⟩,⟨_,rfl,Pr.le_refl _⟩,⟨_,rfl,Pr.le_refl _⟩,⟨_,rfl,Pr.le_refl _⟩,⟨_,rfl,Pr.le_refl _⟩,⟨_,rfl,Pr.le_refl _⟩,⟨_,rfl,Pr.le_refl _⟩,trivial⟩ ?_
              refine Tr.cond rfl (fun h7=> ?_) (fun h7=> ?_)
              ·
                have q7:=GL.Jl h7
                refine Tr.exit ?_
                refine Fin.AK ?_
                refine Fin.Aa ?_
                refine Fin.go ?_
                refine Tr.A0 ?_
                refine Ch.op rfl rfl (by decide) (BE rfl (vl rfl)) ?_
                first
                  |(refine Ch.op rfl rfl (by decide) (B9 rfl (vl rfl) (vl rfl) ?hin) ?_;case hin=>unfold Em;omega)
                  |refine Ch.op rfl rfl (by decide) (ok_int rfl (vl rfl) (vl rfl) rfl) ?_
                refine Ch.op rfl rfl (by decide) (BH rfl (vl rfl)) ?_
                refine Ch.nil ?_
                first
                  | (have hst := Gx (l := l) (root := AR l AE) (r := i) (n := k) (by omega)
                     refine Fin.Jn 1 [int ((i:Nat):Int),strs (Ba l (AR l AE) i (k+1)).A7,ints (Ba l (AR l AE) i (k+1)).As,Aq _ (ints (Ba l (AR l AE) i (k+1)).BC)] rfl ⟨Pr.le_refl _,by rw [hst];exact Pr.le_refl _,by rw [hst];exact Pr.le_refl _,by rw [hst];exact Pr.le_refl _,trivial⟩ ?_)
                  | (have hst := FT (root := AR l AE) (r := i) hx (by omega)
                     refine Fin.Jn 1 [int ((i:Nat):Int),strs (Ba l (AR l AE) i (k+1)).A7,ints (Ba l (AR l AE) i (k+1)).As,Aq _ (ints (Ba l (AR l AE) i (k+1)).BC)] rfl ⟨Pr.le_refl _,by rw [hst];exact Pr.le_refl _,by rw [hst];unfold DV;first|(rw [if_pos (by assumption)];exact Pr.le_refl _)|(rw [if_neg (by assumption)];exact Pr.le_refl _),E4 (by rw [hst];unfold DV;simp),trivial⟩ ?_)
                exact Fin.Fe (k+1) w (⟨⟨by omega,by omega⟩,by omega⟩) ⟨⟨_,rfl,AM k⟩,⟨_,rfl,Pr.le_refl _⟩,⟨_,rfl,Pr.le_refl _⟩,⟨_,rfl,Pr.le_refl _⟩,⟨_,rfl,Pr.le_refl _⟩,⟨_,rfl,Pr.le_refl _⟩,trivial⟩ (fun _ _ h=>h)
              ·
                have q7:=GL.Jl h7
                refine Tr.skip ?_
                refine Fin.go ?_
                refine Tr.seq ?_
                refine Tr.Cq ?_
                refine TO.op rfl rfl (by decide) (Br rfl O1 (vl rfl)) ?_
                refine TO.rd 1 rfl rfl rfl (by decide) (B2 rfl Nd (vl rfl) rfl) ?_
                refine TO.op rfl rfl (by decide) (BE rfl (vl rfl)) ?_
                refine TO.op rfl rfl (by decide) (AH (xs:=[.tmp 52]) (rows:=[[_]]) rfl rfl Tryz.underlying22 B7 z3 rfl (by decide) ⟨⟨(by exact rfl),(VL.le (vl rfl) (AL _))⟩,trivial⟩ (by decide)) ?_
                refine TO.On 0 rfl rfl (by decide) (Ah rfl rfl (by decide) rfl Tryz.underlying22 B7 Mh z3 rfl (by decide) ⟨_,rfl,BP _ _⟩ ⟨_,rfl,BO _ _⟩ (by simp only [List.length_map,List.length_append,List.length_cons,List.length_nil];unfold maxLen;omega) (by simp only [List.length_map,List.length_append,List.length_cons,List.length_nil];omega) (Gg (by exact List.Mem.head _) ⟨_,rfl,DO _ _⟩)) (fun v1=> ?_)
                refine TO.op rfl rfl (by decide) (Br rfl O1 (vl rfl)) ?_
                refine TO.DP 1 rfl rfl (Ar rfl rfl (vl rfl) (VL.le (vl rfl) (AL _)) VE rfl (by exact Nat.le_of_ble_eq_true rfl) rfl) ?_
                refine TO.nil ?_
                refine Fin.go ?_
                refine Tr.seq ?_
                refine Tr.EL mixed [none,some (0,1,false,0),none,none,none,none,none,none,none,some (0,1,true,0)] (by kernel_rfl) ?_
                refine Cx.op rfl rfl (by decide) (fun _=>Br rfl Oz (vl rfl)) ?_
                refine Cx.rd 1 rfl rfl rfl (by decide) (B2 rfl QX (vl rfl) rfl) ?_
                refine Cx.op rfl rfl (by decide) (fun _=>BE rfl (vl rfl)) ?_
                refine Cx.op rfl rfl (by decide) (fun _=>BE rfl (vl rfl)) ?_
                refine Cx.op rfl rfl (by decide) (fun _=>AB rfl Tryz.underlying31 AY (vl rfl) (vl rfl) (by omega) (AZ hx)) ?_
                refine Cx.op rfl rfl (by decide) (fun _=>D7 rfl Sn (vl rfl) rfl) ?_
                refine Cx.op rfl rfl (by decide) (fun _=>Du rfl Nc (vl rfl)) ?_
                refine Cx.op rfl rfl (by decide) (fun _=>Ai rfl (MB (by omega)) ⟨⟨_,rfl,Pr.le_refl _⟩,⟨_,rfl,Pr.le_refl _⟩,trivial⟩) ?_
                refine Cx.op rfl rfl (by decide) (fun _=>Br rfl Oz (vl rfl)) ?_
                refine Cx.DP 1 rfl rfl (Ar rfl rfl (vl rfl) (VL.le (vl rfl) (AL _)) X0 rfl (by exact Nat.le_of_ble_eq_true rfl) rfl) ?_
                refine Cx.nil ⟨rfl,?_⟩
                refine BJ.done (BS.cons (BS.cons (BS.cons (BS.map _)))) ?_
                refine Fin.go ?_
                refine Tr.weak [(0,_),(6,_),(7,_),(8,_),(9,_),(10,_)] ⟨⟨_,rfl,Pr.le_refl _⟩,⟨_,rfl,Pr.le_refl _⟩,⟨_,rfl,Pr.le_refl _⟩,⟨_,rfl,Pr.le_refl _⟩,⟨_,rfl,Pr.le_refl _⟩,⟨_,rfl,Pr.le_refl _⟩,trivial⟩ ?_
                refine Tr.seq ?_
                refine Tr.A0 ?_
                refine Ch.op rfl rfl (by decide) (BE rfl (vl rfl)) ?_
                refine Ch.op rfl rfl (by decide) (BE rfl (vl rfl)) ?_
                refine Ch.op rfl rfl (by decide) (AB rfl Tryz.underlying31 AY (vl rfl) (vl rfl) (by omega) (AZ hx)) ?_
                refine Ch.op rfl rfl (by decide) (D7 rfl Mi (vl rfl) rfl) ?_
                refine Ch.op rfl rfl (by decide) (Du rfl Cr (vl rfl)) ?_
                refine Ch.op rfl rfl (by decide) (ok_int rfl (vl rfl) (vl rfl) rfl) ?_
                refine Ch.nil ?_
                refine Fin.go ?_
                refine Tr.cond rfl (fun h8=> ?_) (fun h8=> ?_)
                ·
                  have q8:=GL.Jl h8
                  refine Tr.EL mixed [none,some (0,1,false,0),none,none,none,none,none,none,none,some (0,1,true,0)] (by kernel_rfl) ?_
                  refine Cx.op rfl rfl (by decide) (fun _=>Br rfl O0 (vl rfl)) ?_
                  refine Cx.rd 1 rfl rfl rfl (by decide) (B2 rfl Nd (vl rfl) rfl) ?_
                  refine Cx.op rfl rfl (by decide) (fun _=>BE rfl (vl rfl)) ?_
                  refine Cx.op rfl rfl (by decide) (fun _=>BE rfl (vl rfl)) ?_
                  refine Cx.op rfl rfl (by decide) (fun _=>AB rfl Tryz.underlying31 AY (vl rfl) (vl rfl) (by omega) (AZ hx)) ?_
                  refine Cx.op rfl rfl (by decide) (fun _=>D7 rfl Mi (vl rfl) rfl) ?_
                  refine Cx.op rfl rfl (by decide) (fun _=>Du rfl Cr (vl rfl)) ?_
                  refine Cx.op rfl rfl (by decide) (fun _=>Ai rfl (Ey (by omega)) ⟨⟨_,rfl,Pr.le_refl _⟩,⟨_,rfl,Pr.le_refl _⟩,trivial⟩) ?_
                  refine Cx.op rfl rfl (by decide) (fun _=>Br rfl O0 (vl rfl)) ?_
                  refine Cx.DP 1 rfl rfl (Ar rfl rfl (vl rfl) (VL.le (vl rfl) (AL _)) VE rfl (by exact Nat.le_of_ble_eq_true rfl) rfl) ?_
                  refine Cx.nil ⟨rfl,?_⟩
                  refine BJ.done (BS.cons (BS.cons (BS.cons (BS.map _)))) ?_
                  refine Fin.block ?_
                  refine Fin.go ?_
                  refine Tr.weak [(0,_),(6,_),(7,_),(8,_),(9,_),(10,_)] ⟨⟨_,rfl,Pr.le_refl _⟩,⟨_,rfl,Pr.le_refl _⟩,⟨_,rfl,Pr.le_refl _⟩,⟨_,rfl,Pr.le_refl _⟩,⟨_,rfl,Pr.le_refl _⟩,⟨_,rfl,Pr.le_refl _⟩,trivial⟩ ?_
                  refine Tr.A0 ?_
                  refine Ch.op rfl rfl (by decide) (BE rfl (vl rfl)) ?_
                  first
                    |(refine Ch.op rfl rfl (by decide) (B9 rfl (vl rfl) (vl rfl) ?hin) ?_;case hin=>unfold Em;omega)
                    |refine Ch.op rfl rfl (by decide) (ok_int rfl (vl rfl) (vl rfl) rfl) ?_
                  refine Ch.op rfl rfl (by decide) (BH rfl (vl rfl)) ?_
                  refine Ch.nil ?_
                  first
                    | (have hst := Gx (l := l) (root := AR l AE) (r := i) (n := k) (by omega)
                       refine Fin.Jn 1 [int ((i:Nat):Int),strs (Ba l (AR l AE) i (k+1)).A7,ints (Ba l (AR l AE) i (k+1)).As,Aq _ (ints (Ba l (AR l AE) i (k+1)).BC)] rfl ⟨Pr.le_refl _,by rw [hst];exact Pr.le_refl _,by rw [hst];exact Pr.le_refl _,by rw [hst];exact Pr.le_refl _,trivial⟩ ?_)
                    | (have hst := FT (root := AR l AE) (r := i) hx (by omega)
                       refine Fin.Jn 1 [int ((i:Nat):Int),strs (Ba l (AR l AE) i (k+1)).A7,ints (Ba l (AR l AE) i (k+1)).As,Aq _ (ints (Ba l (AR l AE) i (k+1)).BC)] rfl ⟨Pr.le_refl _,by rw [hst];exact Pr.le_refl _,by rw [hst];unfold DV;first|(rw [if_pos (by assumption)];exact Pr.le_refl _)|(rw [if_neg (by assumption)];exact Pr.le_refl _),E4 (by rw [hst];unfold DV;simp),trivial⟩ ?_)
                  exact Fin.Fe (k+1) v1 (⟨⟨by omega,by omega⟩,by omega⟩) ⟨⟨_,rfl,AM k⟩,⟨_,rfl,Pr.le_refl _⟩,⟨_,rfl,Pr.le_refl _⟩,⟨_,rfl,Pr.le_refl _⟩,⟨_,rfl,Pr.le_refl _⟩,⟨_,rfl,Pr.le_refl _⟩,trivial⟩ (fun _ _ h=>h)
                ·
                  have q8:=GL.Jl h8
                  refine Tr.skip ?_
                  refine Fin.block ?_
                  refine Fin.go ?_
                  refine Tr.A0 ?_
                  refine Ch.op rfl rfl (by decide) (BE rfl (vl rfl)) ?_
                  first
                    |(refine Ch.op rfl rfl (by decide) (B9 rfl (vl rfl) (vl rfl) ?hin) ?_;case hin=>unfold Em;omega)
                    |refine Ch.op rfl rfl (by decide) (ok_int rfl (vl rfl) (vl rfl) rfl) ?_
                  refine Ch.op rfl rfl (by decide) (BH rfl (vl rfl)) ?_
                  refine Ch.nil ?_
                  first
                    | (have hst := Gx (l := l) (root := AR l AE) (r := i) (n := k) (by omega)
                       refine Fin.Jn 1 [int ((i:Nat):Int),strs (Ba l (AR l AE) i (k+1)).A7,ints (Ba l (AR l AE) i (k+1)).As,Aq _ (ints (Ba l (AR l AE) i (k+1)).BC)] rfl ⟨Pr.le_refl _,by rw [hst];exact Pr.le_refl _,by rw [hst];exact Pr.le_refl _,by rw [hst];exact Pr.le_refl _,trivial⟩ ?_)
                    | (have hst := FT (root := AR l AE) (r := i) hx (by omega)
                       refine Fin.Jn 1 [int ((i:Nat):Int),strs (Ba l (AR l AE) i (k+1)).A7,ints (Ba l (AR l AE) i (k+1)).As,Aq _ (ints (Ba l (AR l AE) i (k+1)).BC)] rfl ⟨Pr.le_refl _,by rw [hst];exact Pr.le_refl _,by rw [hst];unfold DV;first|(rw [if_pos (by assumption)];exact Pr.le_refl _)|(rw [if_neg (by assumption)];exact Pr.le_refl _),E4 (by rw [hst];unfold DV;simp),trivial⟩ ?_)
                  exact Fin.Fe (k+1) v1 (⟨⟨by omega,by omega⟩,by omega⟩) ⟨⟨_,rfl,AM k⟩,⟨_,rfl,Pr.le_refl _⟩,⟨_,rfl,Pr.le_refl _⟩,⟨_,rfl,Pr.le_refl _⟩,⟨_,rfl,Pr.le_refl _⟩,⟨_,rfl,Pr.le_refl _⟩,trivial⟩ (fun _ _ h=>h)
            ·
              have q6:=GL.Jl h6
              obtain rfl:k=l.length:=(by have:=Ag h6;omega)
              refine Tr.exit ?_
              refine Fin.AK ?_
              refine Fin.AK ?_
              refine Fin.Aa ?_
              refine Fin.go ?_
              refine Tr.Jn 1 (V2 (Ba l (AR l AE) i l.length)) rfl ⟨int_eq (IF _ _ _ _).symm,Pr.le_refl _,Pr.le_refl _,BP _ _,trivial⟩ ?_
              refine Tr.Cq ?_
              refine TO.op rfl rfl (by decide) (BE rfl (vl rfl)) ?_
              refine TO.rd 1 rfl rfl rfl (by decide) (AW rfl Sr EO (vl rfl) rfl rfl) ?_
              refine TO.op rfl rfl (by decide) (AH (xs:=[.tmp 81]) (rows:=[_]) rfl rfl Tryz.underlying35 EO X2 rfl (by decide) ⟨⟨(by exact rfl),(VL.le (vl rfl) (Df _))⟩,trivial⟩ (by decide)) ?_
              refine TO.On 2 rfl rfl (by decide) (Ah rfl rfl (by decide) rfl Tryz.underlying35 EO aF X2 rfl (by decide) ⟨_,rfl,BP _ _⟩ ⟨_,rfl,BO _ _⟩ (by simp only [List.length_map,List.length_append,List.length_cons,List.length_nil];unfold maxLen;omega) (by simp only [List.length_map,List.length_append,List.length_cons,List.length_nil];omega) (Gg (by exact List.Mem.head _) ⟨_,rfl,DO _ _⟩)) (fun v2=> ?_)
              refine TO.op rfl rfl (by decide) (BH rfl (vl rfl)) ?_
              refine TO.nil ?_
              refine Fin.block ?_
              refine Fin.go ?_
              refine Tr.weak [(0,_),(6,_),(7,_),(8,_)] ⟨⟨_,rfl,Pr.le_refl _⟩,⟨_,rfl,Pr.le_refl _⟩,⟨_,rfl,Pr.le_refl _⟩,⟨_,rfl,Pr.le_refl _⟩,trivial⟩ ?_
              refine Tr.A0 ?_
              refine Ch.op rfl rfl (by decide) (BE rfl (vl rfl)) ?_
              first
                |(refine Ch.op rfl rfl (by decide) (B9 rfl (vl rfl) (vl rfl) ?hin) ?_;case hin=>unfold Em;omega)
                |refine Ch.op rfl rfl (by decide) (ok_int rfl (vl rfl) (vl rfl) rfl) ?_
              refine Ch.op rfl rfl (by decide) (BH rfl (vl rfl)) ?_
              refine Ch.nil ?_
              refine Fin.drop 0 ?_
              refine Fin.drop 0 ?_
              exact Fin.Lm (i+1) v2 (⟨IJ,by omega⟩) ⟨⟨_,rfl,AM i⟩,⟨_,rfl,E4 (by first|rw [ME (by omega)]|(rw [LB (by omega),List.map_append];rfl))⟩,⟨_,rfl,Pr.le_refl _⟩,⟨_,rfl,Pr.le_refl _⟩,trivial⟩ (fun _ _ h=>h)
        ·
          have q4:=GL.Jl h4
          have Pm:i=(l).length:=by have:=Ag h4;omega
          subst Pm
          refine Tr.exit ?_
          refine Fin.AK ?_
          refine Fin.AK ?_
          refine Fin.Aa ?_
          refine Fin.go ?_
          refine Tr.seq ?_
          refine Tr.A0 ?_
          refine Ch.op rfl rfl (by decide) (BE rfl (vl rfl)) ?_
          refine Ch.op rfl rfl (by decide) (BH rfl (vl rfl)) ?_
          refine Ch.op rfl rfl (by decide) (BH rfl (vl rfl)) ?_
          refine Ch.nil ?_
          refine Fin.go ?_
          refine Tr.ret ?_
          refine Fin.EJ rfl (Bq.D3 _ _) rfl ?_ rfl ?_
          · rw [Fv hN (by omega)];exact BP _ _
          · rw [Fv hN (by omega)];exact Pr.le_refl _
theorem Fw {f g:AO} (hf:0≤f.day∧f.day≤40000) (hg:0≤g.day∧g.day≤40000):Be prog 91 [agg (BA f),agg (BA g)] (int (DK f g)):=by
 refine fo func91 rfl ⟨rfl,rfl⟩ fun M0 w0=> ?_
 refine a2 ?_
 refine co rfl (Oh rfl (vl rfl) (vl rfl)) ?_
 refine ac ?_
 refine Cg 4 rfl ?_
 refine ac ?_
 · exact Lr
theorem V4 {l:List AO} {f:AO} {AE:Int} (hd:HU l) (iT:0≤f.day∧f.day≤40000):Be prog 90 [BC l,agg (BA f),int AE] (int (near l f AE)):=by
 refine fo func90 rfl ⟨rfl,rfl⟩ fun M0 w0=>(Tr.Db 0 rfl fun DD=> ?_)
 refine a3 ?_
 refine Tr.block (Tr.BV [(0,_),(2,_),(4,_),(10,_),(11,_)] (SE rfl) (fun k:Nat=>[(12,int ((k:Nat):Int)),(7,int (Bo l f AE k))]) (fun k:Nat=>k≤(l).length) (fun k:Nat=>(l).length-k) 0 (Nat.zero_le _) ⟨ke rfl,ke rfl,trivial⟩ ?_)
 rintro k CN
 refine ac ?_
 refine Tr.seq ?_
 refine Tr.cn rfl ?_ ?_<;>intro h1 q1
 have Au:k<(l).length:=Af h1
 obtain ⟨g,Ae⟩:=at_ Au
 have hgd:=EB hd Ae
 refine ac ?_
 refine ao ?_
 refine tp rfl (AB rfl underlying31 AY (vl rfl) (vl rfl) (by omega) (by exact AZ (by assumption))) ?_
 refine tp rfl (Ap rfl BI AY (vl rfl) rfl rfl) ?_
 refine Tl rfl rfl rfl rfl Di Hq (fun b1=> ?_)
 refine tm rfl ?_
 refine sf 0 9 ⟨rfl,rfl,rfl⟩ rfl rfl rfl rfl ?_
 refine ao ?_
 refine Xk 0 2 4 7 8 9 10 11 12 rfl ?_
 refine ag ?_ ?_<;>intro h2 q2
 refine ac ?_
 refine FL 0 2 4 7 8 9 10 11 12 33 rfl ?_
 refine a2 ?_
 exact Fin.AF (k+1) ⟨Au,by omega⟩ ⟨⟨_,rfl,AM k⟩,⟨_,rfl,int_eq (by exact (C_ Ae (FU (by exact .inl (by assumption)))).symm)⟩,ke rfl,ke rfl,ke rfl,ke rfl,ke rfl,trivial⟩
 refine ag ?_ ?_<;>intro h3 q3
 refine ac ?_
 refine FL 0 2 4 7 8 9 10 11 12 33 rfl ?_
 refine a2 ?_
 exact Fin.AF (k+1) ⟨Au,by omega⟩ ⟨⟨_,rfl,AM k⟩,⟨_,rfl,int_eq (by exact (C_ Ae (FU (by exact .inr (.inl (by assumption))))).symm)⟩,ke rfl,ke rfl,ke rfl,ke rfl,ke rfl,trivial⟩
 refine ac ?_
 refine cy h3 rfl (F3 (Fw (by assumption) (by assumption)) rfl rfl rfl) ?_
 refine ac ?_
 refine FL 0 2 4 7 8 9 10 11 12 33 rfl ?_
 refine Tr.cn rfl ?_ ?_<;>intro h4 q4
 refine a2 ?_
 exact Fin.AF (k+1) ⟨Au,by omega⟩ ⟨⟨_,rfl,AM k⟩,⟨_,rfl,int_eq (by exact (C_ Ae (FU (by exact .inr (.inr (by omega))))).symm)⟩,ke rfl,ke rfl,ke rfl,ke rfl,ke rfl,trivial⟩
 refine ac ?_
 refine ag ?_ ?_<;>intro h5 q5
 refine ac ?_
 refine Xk 0 2 4 7 8 10 11 12 66 rfl ?_
 refine a2 ?_
 exact Fin.AF (k+1) ⟨Au,by omega⟩ ⟨⟨_,rfl,AM k⟩,⟨_,rfl,int_eq (by exact (GP Ae (IG (by assumption) (by assumption) (by omega)) (by omega)).symm)⟩,ke rfl,ke rfl,ke rfl,ke rfl,ke rfl,trivial⟩
 obtain ⟨hnk,b,hb⟩:=MA (by omega) q5
 have hbd:=EB hd hb
 · repeat' first|(exact Fin.AF (k+1) ⟨Au,by omega⟩ ⟨⟨_,rfl,AM k⟩,⟨_,rfl,int_eq (by rw [Gu Ae (IG (by assumption) (by assumption) (by omega)) (by omega) hb];have mL:=Gq [An (DK f g) (DK f b),An g.day b.day,An g.machine b.machine];unfold closer;rw [if_pos (decide_eq_true (by omega))])⟩,ke rfl,ke rfl,ke rfl,ke rfl,ke rfl,trivial⟩)|(exact Fin.AF (k+1) ⟨Au,by omega⟩ ⟨⟨_,rfl,AM k⟩,⟨_,rfl,int_eq (by rw [Gu Ae (IG (by assumption) (by assumption) (by omega)) (by omega) hb];have mL:=Gq [An (DK f g) (DK f b),An g.day b.day,An g.machine b.machine];unfold closer;rw [if_neg (by rw [decide_eq_true_eq];omega)])⟩,ke rfl,ke rfl,ke rfl,ke rfl,ke rfl,trivial⟩)|refine cy h5 rfl (F3 (Fw (by assumption) (by assumption)) rfl rfl rfl) ?_|refine cy h5 rfl (AB rfl underlying31 AY (vl rfl) (vl rfl) (by omega) (CC hb)) (cy h5 rfl (Ap rfl BI AY (vl rfl) rfl rfl) (cy h5 rfl (F3 (Fw (by assumption) (by assumption)) rfl rfl rfl) (cy h5 rfl (F3 (Iu) rfl rfl rfl) ?_)))|refine cy h5 rfl (F3 (Iu) rfl rfl rfl) ?_|refine cy h5 rfl (F3 (Iu) rfl rfl rfl) (cy h5 rfl (AH (xs:=[.tmp 46,.tmp 54,.tmp 62]) (rows:=[[_],[_],[_]]) rfl rfl underlying22 B7 z3 rfl (by decide) ⟨⟨(by exact rfl),(Vo rfl)⟩,⟨⟨(by exact rfl),(Vo rfl)⟩,⟨⟨(by exact rfl),(Vo rfl)⟩,trivial⟩⟩⟩ (by decide)) ?_)|refine cy h5 rfl (Ai rfl (XJ (l:=[An (DK f g) (DK f b),An g.day b.day,An g.machine b.machine])) ⟨(Kf rfl),trivial⟩) ?_|refine cy h5 rfl (AB rfl underlying31 AY (vl rfl) (vl rfl) (by omega) (CC hb)) ?_|refine ac ?_|(refine Tr.cn rfl ?_ ?_<;>intro h q)
 have Bn:k=(l).length:=by have:=Ag h1;omega
 subst Bn
 refine a3 ?_
 · exact Lr
open Classical in
noncomputable def Fx (l:List AO) (AE:Int):Int:=if B_ l then (if AE<0∨4000<AE then 2 else 0) else 24
theorem Tt {l:List AO} {AE:Int} (hf:∀f∈l,f.fits):Be prog 46 [BC l,int AE] (int (Fx l AE)):=by
 refine fo func46 rfl ⟨rfl,rfl⟩ fun M0 w0=> ?_
 haveI:=Classical.propDecidable (B_ l)
 · repeat' first|(exact int_eq (by unfold Fx;rw [if_neg (by assumption)]))|(exact int_eq (by unfold Fx;rw [if_pos (by assumption),if_pos (by omega)]))|(exact int_eq (by unfold Fx;rw [if_pos (by assumption),if_neg (by omega)]))|refine co rfl (Eh (Ly (by assumption)) rfl rfl) ?_|refine ac ?_|(refine Tr.cn rfl ?_ ?_<;>intro h q)|(refine Ch.cg rfl rfl rfl ?_ ?_<;>intro h q)
theorem XM {l:List GS} {v:Int}  :Be prog 24 [Lc l,int v] (int (Zf l v)):=by
 refine fo func24 rfl ⟨rfl,rfl⟩ fun M0 w0=>(Tr.Db 0 rfl fun DD=> ?_)
 refine a2 ?_
 refine Tr.block (Tr.BV [(1,_),(7,_),(8,_)] (RI rfl) (fun k:Nat=>[(9,int ((k:Nat):Int))]) (fun k:Nat=>k≤(l).length∧((l.take k).find? (fun e=>e.BC.any fun x=>v==x)=none)) (fun k:Nat=>(l).length-k) 0 (⟨Nat.zero_le _,rfl⟩) ⟨ke rfl,trivial⟩ ?_)
 rintro k ⟨CN,Ac⟩
 refine ac ?_
 refine Tr.seq ?_
 refine Tr.cn rfl ?_ ?_<;>intro h1 q1
 have Au:k<(l).length:=Af h1
 obtain ⟨x,Ae⟩:=at_ Au
 refine ac ?_
 refine Tr.seq (Tr.block (Tr.seq (Tr.Cq (tp rfl (AB rfl underlying35 EO (vl rfl) (vl rfl) (by omega) (by exact AZ (by assumption))) ?_))))
 refine tp rfl (Ap rfl Sr EO (vl rfl) rfl rfl) ?_
 refine Tl rfl rfl rfl rfl X2 RJ (fun b1=> ?_)
 refine sf 0 6 ⟨rfl,rfl,rfl⟩ rfl rfl rfl rfl ?_
 refine ao ?_
 · repeat' first|(exact int_eq (by unfold Zf;rw [D9 Ae Ac (by assumption)]))|exact Fin.AF (k+1) ⟨⟨Au,Qy Ae Ac (by assumption)⟩,by omega⟩ ⟨⟨_,rfl,AM k⟩,ke rfl,ke rfl,ke rfl,trivial⟩|refine co rfl (F3 (JO) rfl rfl rfl) ?_|refine ac ?_|(refine Tr.cn rfl ?_ ?_<;>intro h q)
 have Bn:k=(l).length:=by have:=Ag h1;omega
 subst Bn
 rw [List.take_length] at Ac
 refine a3 ?_
 · exact int_eq (by unfold Zf;rw [Ac])
theorem Pn {p:List Int} {a b:Nat} (ha:a<p.length) (hb:b<p.length):(arr p).take (0+(max ((a:Nat):Int) ((b:Nat):Int)).toNat*1)++[int (min ((a:Nat):Int) ((b:Nat):Int))]++(arr p).drop (0+(max ((a:Nat):Int) ((b:Nat):Int)).toNat*1+1)=arr (p.set (max a b) ((min a b:Nat):Int)):=by
 rw [show (max ((a:Nat):Int) ((b:Nat):Int)).toNat=max a b by omega,show min ((a:Nat):Int) ((b:Nat):Int)=((min a b:Nat):Int) by omega,Nat.zero_add,Nat.mul_one]
 exact M_ (by omega)
theorem NB {p:List Int} {R:Nat→Nat} {i b0:Nat} (hu:UF p R) (hi:i<400):A5 prog 48 [is (.pointer (some ⟨b0,0,none⟩)),int ((i:Nat):Int)] (int ((R i:Nat):Int)) (AA true b0 126 (arr p)) (fun _=>AA true b0 126 (arr p)):=by
 refine A5.of func48 rfl rfl (by exact Nb rfl) fun M0 w0 S rs M1 w1=> ?_
 refine ac ?_
 refine Tr.seq (Tr.block (Tr.Sh [(0,_)] ⟨ke rfl,trivial⟩ (fun (x:Nat)=>[(1,int ((x:Nat):Int))]) (fun (x:Nat)=>Hp M0 w0 S (AA true b0 126 (arr p)::Ak M1 w1::rs)) (fun (x:Nat)=>x<400∧R x=R i) (fun (x:Nat)=>x) (i)  (⟨hi,rfl⟩) ⟨ke rfl,trivial⟩ (fun _ _ h=>h) ?_))
 rintro x  ⟨mM,oJ⟩
 obtain ⟨y,hy,mN,oK,mO⟩:=hu.par x mM
 refine ac ?_
 refine co rfl (D8 rfl underlying126 B7 (vl rfl) (vl rfl) (by omega) (by omega)) ?_
 refine co rfl (Ay 0 rfl (B2 rfl Cr (vl rfl) (M9 (by rw [Int.toNat_natCast];exact hy)))) ?_
 refine an ?_ ?_<;>intro h1 q1
 have:=h1
 refine a2 ?_
 refine co rfl (D8 rfl underlying126 B7 (vl rfl) (vl rfl) (by omega) (by omega)) ?_
 refine co rfl (Ay 0 rfl (B2 rfl Cr (vl rfl) (M9 (by rw [Int.toNat_natCast];exact hy)))) ?_
 refine ac ?_
 exact Fin.Ds (y)  (⟨⟨by omega,by omega⟩,by omega⟩) ⟨ke rfl,ke rfl,trivial⟩ (fun _ _ h=>h)
 have:=h1
 refine a2 ?_
 refine Tr.ret (Fin.CI rfl rfl ?_ (fun _ _ _ _=>rfl))
 · exact int_eq (by have:=mO.1 (by omega);omega)
theorem NC {p:List Int} {R:Nat→Nat} {i k b0:Nat} (hu:UF p R) (hi:i<400) (hk:k<400):A5 prog 89 [is (.pointer (some ⟨b0,0,none⟩)),int ((i:Nat):Int),int ((k:Nat):Int)] (Dd) (AA true b0 126 (arr p)) (fun _=>AA true b0 126 (arr (p.set (max (R i) (R k)) ((min (R i) (R k):Nat):Int)))):=by
 refine A5.of func89 rfl rfl (by exact Nb rfl) fun M0 w0 S rs M1 w1=> ?_
 have oQ:=hu.rep.le i
 have oV:=hu.rep.le k
 have ZT:=hu.len
 refine ap ?_
 refine TO.DZ 0 rfl rfl (by decide) (Ab rfl rfl (by decide) rfl (NB hu hi) ⟨ke rfl,ke rfl,trivial⟩) ?_
 refine ap ?_
 refine TO.DZ 0 rfl rfl (by decide) (Ab rfl rfl (by decide) rfl (NB hu hk) ⟨ke rfl,ke rfl,trivial⟩) ?_
 refine ap ?_
 refine ap ?_
 refine tp rfl (Oh rfl (vl rfl) (vl rfl)) ?_
 refine ap ?_
 refine tp rfl (Xb rfl (vl rfl) (vl rfl)) (tp rfl (Hg rfl (vl rfl)) (tp rfl (D8 rfl underlying126 B7 (vl rfl) (vl rfl) (by omega) (by omega)) ?_))
 refine TO.DP 0 rfl rfl (Ar rfl rfl (vl rfl) (Vo rfl) B7 rfl (by unfold arr;rw [List.length_map,ZT];omega) (Pn (by omega) (by omega))) ?_
 refine TO.nil (Fin.JK rfl)
abbrev Po (n:Int):Value:= .int .i64 n
theorem GX:O6 Tryz.prog 84 3 3 Po where
 O7:=Tryz.underlying84
 zero:=fun w=>by kernel_rfl
 eq:=fun a b w=>by
  rw [show Op.equal 3 _ _=Op.equalIn (9998+2) 3 _ _ from rfl]
  exact Hs Tryz.underlying3
 RL:=fun e a w=>by
  show (Instr.checkKey e (9999+1) 3 _).run _ w=_
  exact Mn Tryz.underlying3 w
 Sw:=⟨_,Tryz.underlying3,.inr fun a b=>by simp only [Po,Instr.sameNow,if_true];congr 1⟩
 bits:=fun a=>by
  show Instr.sameBits (9999+1) (.int _ _) (.int _ _)=true
  simp [Instr.sameBits]
def Je (l:List AO):Nat→List (Int×Int)
 |0=>[]
 |k+1=>match l[k]? with
  |none=>Je l k
  |some f=>if f.machine=0 then Je l k else Fh (Je l k) f.machine (k:Nat)
theorem Q0 {l:List AO} {k:Nat} {f:AO} (hf:l[k]? =some f) (h:f.machine=0):Je l (k+1)=Je l k:=by simp only [Je,hf,h,if_true]
theorem OC {l:List AO} {k:Nat} {f:AO} (hf:l[k]? =some f) (h:¬f.machine=0):Je l (k+1)=Fh (Je l k) f.machine (k:Nat):=by simp only [Je,hf,h,if_false]
theorem Tu {κ:Type} [DecidableEq κ] (p:κ×Int) (es:List (κ×Int)) (k:κ) (v:Int):Fh (p::es) k v=if k=p.1 then (k,v)::es else p::Fh es k v:=by
 unfold Fh
 rw [List.findIdx?_cons]
 by_cases h:k=p.1
 · simp [h]
 ·
  simp only [h,decide_false,Bool.false_eq_true,if_false]
  cases hf:es.findIdx? fun p=>decide (k=p.1) with
  |none=>simp
  |some i=>simp
theorem LC {κ:Type} [DecidableEq κ] (k k':κ) (v:Int):∀es:List (κ×Int),Cp.look (Fh es k v) k'=if k'=k then some v else Cp.look es k'
 |[]=>by
  unfold Fh Cp.look
  by_cases h:k'=k<;>simp [h]
 |p::es=>by
  have ih:=LC k k' v es
  rw [Tu]
  unfold Cp.look at ih ⊢
  by_cases h:k=p.1
  ·
   rw [if_pos h]
   by_cases h2:k'=k
   · simp [h2]
   ·
    have h3:¬k'=p.1:=by rw [←h];exact h2
    simp [h2,h3]
  ·
   rw [if_neg h]
   by_cases h2:k'=p.1
   ·
    have h3:¬k'=k:=by rintro rfl;exact h h2
    simp [h2,h3]
    intro h4;exact absurd h4.symm h
   · rw [List.find?_cons_of_neg (by simpa using h2),ih,List.find?_cons_of_neg (by simpa using h2)]
theorem OD {l:List AO} {m:Int} (hm:¬m=0):∀k,Cp.look (Je l k) m=if Cv l m k<0 then none else some (Cv l m k)
 |0=>rfl
 |k+1=>by
  have ih:=OD (l:=l) hm k
  have hin:=FR l m k
  cases hf:l[k]? with
  |none=>simp only [Je,Cv,hf];simpa using ih
  |some f=>
   by_cases h0:f.machine=0
   ·
    rw [Q0 hf h0,ih]
    have:¬f.machine=m:=by omega
    simp only [Cv,hf,Option.map_some,Option.some.injEq,this,if_false]
   ·
    rw [OC hf h0,LC,ih]
    by_cases h1:m=f.machine
    ·
     simp only [Cv,hf,Option.map_some,Option.some.injEq,h1.symm,if_true]
     rw [if_neg (by omega)]
    ·
     have:¬f.machine=m:=fun h=>h1 h.symm
     simp only [Cv,hf,Option.map_some,Option.some.injEq,this,if_false]
     rw [if_neg h1]
def I5 (l:List AO) (AE:Int):Nat→List Int
 |0=>Ex 400
 |k+1=>if CA l AE k<0 then I5 l AE k else (I5 l AE k).set (max (RR l AE k k) (RR l AE k (CA l AE k).toNat)) ((min (RR l AE k k) (RR l AE k (CA l AE k).toNat):Nat):Int)
theorem FV {l:List AO} {AE:Int} {k:Nat} (h:CA l AE k<0):I5 l AE (k+1)=I5 l AE k:=by show (if _ then _ else _)=_;rw [if_pos h]
theorem Gy {l:List AO} {AE:Int} {k:Nat} (h:¬CA l AE k<0):I5 l AE (k+1)=(I5 l AE k).set (max (RR l AE k k) (RR l AE k (CA l AE k).toNat)) ((min (RR l AE k k) (RR l AE k (CA l AE k).toNat):Nat):Int):=by show (if _ then _ else _)=_;rw [if_neg h]
theorem V5 {l:List AO} {AE:Int} (hn:l.length≤400) {k:Nat} (hk:k<l.length) (h:¬CA l AE k<0):(CA l AE k).toNat<400:=by
 obtain ⟨f,hf⟩:=at_ hk
 by_cases h0:f.machine=0
 ·
  by_cases kD:near l f AE<0
  ·
   rw [HS hf h0 kD] at h ⊢
   split at h
   ·
    rename_i hc
    rw [if_pos hc]
    rcases EW l AE k with h1|⟨_,h2,_⟩<;>omega
   · omega
  ·
   rw [Iw hf h0 kD]
   have:=(EU (f:=f) (AE:=AE) (l:=l) (by omega)).1
   omega
 ·
  rw [K7 hf h0]
  rcases FR l f.machine k with h1|⟨_,h2,_⟩<;>omega
theorem ND {l:List AO} {AE:Int} (hn:l.length≤400):∀k,k≤l.length→UF (I5 l AE k) (RR l AE k)
 |0,_=>UF.start
 |k+1,hk=>by
  have ih:=ND (AE:=AE) hn k (by omega)
  by_cases h:CA l AE k<0
  · rw [FV h];show UF _ (if _ then _ else _);rw [if_pos h];exact ih
  · rw [Gy h];show UF _ (if _ then _ else _);rw [if_neg h];exact ih.join (by omega) (V5 hn (by omega) h)
def Yo (l:List AO) (AE:Int) (v:Value):Ao:=match v with| .pointer (some a)=>AA true a.block 126 (arr (I5 l AE l.length))|_=>BT
theorem OE {k:Nat} (hk:k<400):(arr (Ex k)).take (0+((k:Nat):Int).toNat*1)++[int ((k:Nat):Int)]++(arr (Ex k)).drop (0+((k:Nat):Int).toNat*1+1)=arr (Ex (k+1)):=by
 rw [Int.toNat_natCast,Nat.zero_add,Nat.mul_one,M_ (by rw [Iz (by omega)];exact hk),Rp hk]
theorem Pp {ks:List Value} (h:ks=List.replicate 400 (.int .i64 0)):ks.map is=arr (Ex 0):=by
 subst h;unfold Ex arr;rw [List.map_append,List.map_replicate,List.map_replicate];rfl
theorem Tv {l:List AO} {AE:Int} (hd:HU l) (hn:l.length≤400):A5 prog 47 [BC l,int AE] (ex fun b=>ptr b 0) (BT) (Yo l AE):=by
 refine A5.of func47 rfl rfl (by exact Nb rfl) fun M0 w0 S rs M1 w1=> ?_
 refine Tr.Db 0 rfl fun DD=> ?_
 refine ac ?_
 refine ao ?_
 refine TO.Z1 rfl rfl (by decide) rfl (Va rfl) (fun b1=> ?_)
 refine ao ?_
 refine ac ?_
 refine Tr.block ?_
 refine Tr.F0 [(0,_),(1,_),(5,_)] ⟨ke rfl,ke rfl,ke rfl,trivial⟩ (fun k:Nat=>[(16,int ((k:Nat):Int))]) (fun k:Nat=>Hp M0 w0 S ((AA true b1 126 (arr (Ex k))::BT::Ak M1 w1::rs))) (fun k:Nat=>k≤(400)) (fun k:Nat=>(400)-k) 0 (Nat.zero_le _) ⟨ke rfl,trivial⟩ ((by rw [←Pp rfl];exact fun _ _ h=>h)) ?_
 rintro k CN
 refine ac ?_
 refine Tr.seq ?_
 refine Tr.cn rfl ?_ ?_<;>intro h1 q1
 have Au:k<(400):=Af h1
 refine a2 ?_
 refine ao ?_
 refine tp rfl (D8 rfl underlying126 B7 (vl rfl) (vl rfl) (by omega) (by omega)) ?_
 refine TO.DP 0 rfl rfl (Ar rfl rfl (vl rfl) (Vo rfl) B7 rfl (by unfold arr;rw [List.length_map,Iz (by omega)];omega) (OE Au)) ?_
 refine ao ?_
 refine ac ?_
 exact Fin.SA (k+1) ⟨Au,by omega⟩ ⟨⟨_,rfl,AM k⟩,ke rfl,ke rfl,ke rfl,trivial⟩ ((by exact fun _ _ h=>h))
 have Bn:k=(400):=by have:=Ag h1;omega
 subst Bn
 refine ac ?_
 refine Tr.seq (Tr.Cq ?_)
 refine TO.XE Po rfl rfl (by decide) rfl (fun b2=> ?_)
 refine ao ?_
 refine a2 ?_
 refine Tr.block (Tr.F0 [(0,_),(1,_),(5,_),(7,_),(26,_),(27,_)] ⟨ke rfl,ke rfl,ke rfl,ke rfl,ke rfl,ke rfl,trivial⟩ (fun k:Nat=>[(28,int ((k:Nat):Int)),(8,int (prevK l AE k))]) (fun k:Nat=>Hp M0 w0 S ((G3 Po b2 (Je l k)::AA true b1 126 (arr (I5 l AE k))::BT::Ak M1 w1::rs))) (fun k:Nat=>k≤(l).length) (fun k:Nat=>(l).length-k) 0 (Nat.zero_le _) ⟨ke rfl,ke rfl,trivial⟩ (fun _ _ h=>h) ?_)
 rintro k CN
 refine ac ?_
 refine Tr.seq ?_
 refine Tr.cn rfl ?_ ?_<;>intro h2 q2
 have Au:k<(l).length:=Af h2
 obtain ⟨f,Ae⟩:=at_ Au
 have hu:=ND (AE:=AE) hn k (by omega)
 have iT:=EB hd Ae
 refine ac ?_
 refine ao ?_
 refine tp rfl (AB rfl underlying31 AY (vl rfl) (vl rfl) (by omega) (by exact AZ (by assumption))) ?_
 refine tp rfl (Ap rfl BI AY (vl rfl) rfl rfl) ?_
 refine Tl rfl rfl rfl rfl Di Hq (fun b3=> ?_)
 refine tm rfl ?_
 refine sf 0 10 ⟨rfl,rfl,rfl⟩ rfl rfl rfl rfl ?_
 refine ao ?_
 refine FL 0 1 5 7 8 9 10 26 27 28 rfl ?_
 refine an ?_ ?_<;>intro h3 q3
 have he:=K7 (AE:=AE) Ae q3
 have hmo:=Ev (AE:=AE) Ae q3
 have hm1:=OC Ae q3
 have FX:prevK l AE (k+1)=prevK l AE k:=if_neg (by rw [hmo];exact q3)
 have hL:=OD (l:=l) q3 k
 have hlin:=FR l f.machine k
 refine ao ?_
 refine TO.rd 0 rfl rfl rfl (by decide) (RM (f.machine) GX rfl (vl rfl) (vl rfl) (fun _ _ _ h=>h)) ?_
 refine ao ?_
 refine Z3 0 1 5 7 8 9 10 11 12 26 27 28 rfl ?_
 refine an ?_ ?_<;>intro h4 q4
 have Uq:¬Cv l f.machine k<0:=by intro hlt;rw [hL,if_pos hlt] at q4;cases q4
 rw [if_neg Uq] at hL
 have F_:=Gy (l:=l) (AE:=AE) (k:=k) (by rw [he];exact Uq)
 rw [he] at F_
 refine ao ?_
 refine TO.DZ 1 rfl rfl (by decide) (Ab rfl rfl (by decide) rfl (NC (i:=k) (k:=(Cv l f.machine k).toNat) hu (by omega) (by omega)) ⟨ke rfl,ke rfl,⟨_,rfl,int_eq (by rw [hL];show (Cv l f.machine k:Int)=_;omega)⟩,trivial⟩) ?_
 refine ao ?_
 refine FL 0 1 5 7 8 9 10 26 27 28 rfl ?_
 refine ao ?_
 refine TO.DP 0 rfl rfl (Im (f.machine) GX rfl rfl rfl (vl rfl) (vl rfl) (fun _ _ _ h=>h) (vl rfl)) ?_
 refine ao ?_
 refine LZ 0 1 5 7 8 26 27 28 rfl ?_
 refine a2 ?_
 exact Fin.SA (k+1) ⟨Au,by omega⟩ ⟨⟨_,rfl,AM k⟩,⟨_,rfl,int_eq FX.symm⟩,ke rfl,ke rfl,ke rfl,ke rfl,ke rfl,ke rfl,trivial⟩ ((by rw [hm1,F_];exact fun _ _ h=>h))
 have Uq:Cv l f.machine k<0:=by rcases Int.lt_or_le (Cv l f.machine k) 0 with h1|h1;exact h1;(rw [hL,if_neg (by omega)] at q4;cases q4)
 have F_:=FV (l:=l) (AE:=AE) (k:=k) (by rw [he];exact Uq)
 refine ac ?_
 refine ao ?_
 refine TO.DP 0 rfl rfl (Im (f.machine) GX rfl rfl rfl (vl rfl) (vl rfl) (fun _ _ _ h=>h) (vl rfl)) ?_
 refine ao ?_
 refine LZ 0 1 5 7 8 26 27 28 rfl ?_
 refine a2 ?_
 exact Fin.SA (k+1) ⟨Au,by omega⟩ ⟨⟨_,rfl,AM k⟩,⟨_,rfl,int_eq FX.symm⟩,ke rfl,ke rfl,ke rfl,ke rfl,ke rfl,ke rfl,trivial⟩ ((by rw [hm1,F_];exact fun _ _ h=>h))
 have hm1:=Q0 Ae q3
 have hmz:f.machine=0:=q3
 refine a2 ?_
 refine co rfl (eH (V4 (by assumption) (by assumption)) rfl rfl rfl rfl) ?_
 refine ac ?_
 refine Xl 0 1 5 7 8 9 10 13 26 27 28 rfl ?_
 refine an ?_ ?_<;>intro h5 q5
 have he:=Iw (AE:=AE) Ae hmz (by omega)
 have F_:=Gy (l:=l) (AE:=AE) (k:=k) (by rw [he];omega)
 rw [he] at F_
 obtain ⟨dZ,g,hg,iU,_⟩:=EU (l:=l) (f:=f) (AE:=AE) (by omega)
 have FX:prevK l AE (k+1)=prevK l AE k:=if_neg (by rw [FQ Ae hmz (by omega) hg];exact iU)
 refine ao ?_
 refine TO.DZ 1 rfl rfl (by decide) (Ab rfl rfl (by decide) rfl (NC (i:=k) (k:=(near l f AE).toNat) hu (by omega) (by omega)) ⟨ke rfl,ke rfl,⟨_,rfl,int_eq (by omega)⟩,trivial⟩) ?_
 refine ao ?_
 refine LZ 0 1 5 7 8 26 27 28 rfl ?_
 refine a2 ?_
 exact Fin.SA (k+1) ⟨Au,by omega⟩ ⟨⟨_,rfl,AM k⟩,⟨_,rfl,int_eq FX.symm⟩,ke rfl,ke rfl,ke rfl,ke rfl,ke rfl,ke rfl,trivial⟩ ((by rw [hm1,F_];exact fun _ _ h=>h))
 have he:=HS (AE:=AE) Ae hmz (by omega)
 have FX:prevK l AE (k+1)=(k:Nat):=if_pos (EF Ae hmz (by omega))
 have mP:=EW l AE k
 refine ac ?_
 refine ag ?_ ?_<;>intro h6 q6
 obtain ⟨fb,VX⟩:=at_ (l:=l) (k:=(prevK l AE k).toNat) (by omega)
 have mQ:=EB hd VX
 have iW:E8 l AE (prevK l AE k).toNat k=decide (fb.host=f.host∧DK f fb≤AE):=by unfold E8;rw [VX,Ae]
 refine ac ?_
 refine cy h6 rfl (AB rfl underlying31 AY (vl rfl) (vl rfl) (by omega) (CC VX)) ?_
 refine ag ?_ ?_<;>intro h7 q7
 refine ac ?_
 refine cy h7 rfl (AB rfl underlying31 AY (vl rfl) (vl rfl) (by omega) (CC VX)) (cy h7 rfl (Ap rfl BI AY (vl rfl) rfl rfl) (cy h7 rfl (F3 (Fw (by assumption) (by assumption)) rfl rfl rfl) ?_))
 refine ac ?_
 refine FL 0 1 5 7 8 9 26 27 28 83 rfl ?_
 refine Tr.cn rfl ?_ ?_<;>intro h8 q8
 rw [if_pos ⟨by omega,by rw [iW,decide_eq_true_eq];exact ⟨by assumption,by omega⟩⟩] at he
 have F_:=Gy (l:=l) (AE:=AE) (k:=k) (by rw [he];omega)
 rw [he] at F_
 refine ao ?_
 refine TO.DZ 1 rfl rfl (by decide) (Ab rfl rfl (by decide) rfl (NC (i:=k) (k:=(prevK l AE k).toNat) hu (by omega) (by omega)) ⟨ke rfl,ke rfl,⟨_,rfl,int_eq (by omega)⟩,trivial⟩) ?_
 refine ao ?_
 refine LZ 0 1 5 7 9 26 27 28 rfl ?_
 refine a2 ?_
 exact Fin.SA (k+1) ⟨Au,by omega⟩ ⟨⟨_,rfl,AM k⟩,⟨_,rfl,int_eq FX.symm⟩,ke rfl,ke rfl,ke rfl,ke rfl,ke rfl,ke rfl,trivial⟩ ((by rw [hm1,F_];exact fun _ _ h=>h))
 rw [if_neg (by rintro ⟨h1,h2⟩;rw [iW,decide_eq_true_eq] at h2;omega)] at he
 have F_:=FV (l:=l) (AE:=AE) (k:=k) (by rw [he];omega)
 refine a3 ?_
 exact Fin.SA (k+1) ⟨Au,by omega⟩ ⟨⟨_,rfl,AM k⟩,⟨_,rfl,int_eq FX.symm⟩,ke rfl,ke rfl,ke rfl,ke rfl,ke rfl,ke rfl,trivial⟩ ((by rw [hm1,F_];exact fun _ _ h=>h))
 rw [if_neg (by rintro ⟨h1,h2⟩;rw [iW,decide_eq_true_eq] at h2;exact absurd h2.1 (by assumption))] at he
 have F_:=FV (l:=l) (AE:=AE) (k:=k) (by rw [he];omega)
 refine ac ?_
 refine FL 0 1 5 7 8 9 26 27 28 83 rfl ?_
 refine a3 ?_
 exact Fin.SA (k+1) ⟨Au,by omega⟩ ⟨⟨_,rfl,AM k⟩,⟨_,rfl,int_eq FX.symm⟩,ke rfl,ke rfl,ke rfl,ke rfl,ke rfl,ke rfl,trivial⟩ ((by rw [hm1,F_];exact fun _ _ h=>h))
 rw [if_neg (by rintro ⟨h1,h2⟩;omega)] at he
 have F_:=FV (l:=l) (AE:=AE) (k:=k) (by rw [he];omega)
 refine ac ?_
 refine FL 0 1 5 7 8 9 26 27 28 83 rfl ?_
 refine a3 ?_
 exact Fin.SA (k+1) ⟨Au,by omega⟩ ⟨⟨_,rfl,AM k⟩,⟨_,rfl,int_eq FX.symm⟩,ke rfl,ke rfl,ke rfl,ke rfl,ke rfl,ke rfl,trivial⟩ ((by rw [hm1,F_];exact fun _ _ h=>h))
 have Bn:k=(l).length:=by have:=Ag h2;omega
 subst Bn
 refine a2 ?_
 refine Tr.ret (Fin.drop 2 ?_)
 refine Fin.EN [_] rfl (Bc.tmp rfl (Lr)) ?_ (by rintro _ _ _ rfl;rfl)
 · exact Bm b1 (Lr)
end Go.Proofs.YtgilhkjlfongoaaGreat
