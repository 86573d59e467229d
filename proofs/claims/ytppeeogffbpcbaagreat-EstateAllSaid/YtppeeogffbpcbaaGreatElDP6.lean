/-
  Part 6 of the texts that prove this claim, merged.
-/
import Derived.Test.YtppeeogffbpcbaaGreatElDP5
set_option linter.all false
set_option maxRecDepth 40000
set_option maxHeartbeats 16000000
namespace Go.Proofs.YtppeeogffbpcbaaGreat
open Go Go.RowKit Cp Go.Proofs.Tryz
abbrev KU (Ft su:List UInt8) (a c id sg:Int) (au:Bool) (sr h fr SM pa:Int) (nm:List (List UInt8)) (key s:Int):FF:=⟨sr,Ft,su,a,c,id,h,0,fr,SM,au,pa,nm,key,s⟩
abbrev rA:Pr:=Cp.ex fun c:FF=>fact (B9 c=true) (agg (CZ c))
structure nw (Ft su:List UInt8) (a c id sg:Int):Prop where
 Ft:named Ft=true
 su:DA [su,su++[120]]=true
 key:En a c 2=true
 a:0≤a∧a≤40000
 c:0≤c∧c≤40000
 id:0≤id∧id≤40000
 sg:0≤sg∧sg≤40000
theorem KV {su t:List UInt8} (h:DA [su,t]=true):named su=true∧DA [su]=true:=by
 unfold DA at h
 rw [Bool.and_eq_true] at h
 have h0:=Bo.1 h.1 0 (by simp)
 have h1:named su=true:=by unfold nameAt at h0;simp at h0;exact h0
 refine ⟨h1,?_⟩
 unfold DA;rw [Bool.and_eq_true]
 refine ⟨Bo.2 fun j hj=> ?_,by simp⟩
 have:j=0:=by simp at hj;omega
 subst this;unfold nameAt;simp [h1]
theorem RX {h:Int} (hh:h∈[3,2,4,1]):En h 0 1=true∧0≤h∧h≤40000:=by
 simp at hh;rcases hh with rfl|rfl|rfl|rfl<;>exact ⟨by decide+kernel,by omega,by omega⟩
theorem Fi {Ft su:List UInt8} {a c id sg:Int} (hm:nw Ft su a c id sg) {au:Bool} {sr h fr SM pa key s:Int} {nm:List (List UInt8)} (So:0≤sr∧sr<1000) (hh:h∈[3,2,4,1]) (hfr:fr∈[0,5,10]) (hto:SM∈[1000,100,50,20]) (hpa:0≤pa∧pa≤3) (hau:au=true∨pa=0) (hnm:nm=[su]∨nm=[su,su++[120]]) (hk:0≤key∧key≤2147483648) (hs:0≤s∧s<4294967296):
  B9 (KU Ft su a c id sg au sr h fr SM pa nm key s)=true:=by
 have h1:=KV hm.su
 have hi:=hm.id
 simp at hfr hto
 refine RN ⟨So.1,by show sr≤_;omega,hm.Ft,h1.1,?_,hm.key,hi.1,by show id≤_;omega,(RX hh).1,hk.1,hk.2,hs.1,hs.2,by show 0≤fr;omega,by show fr≤SM;omega,by show SM≤_;omega,hpa.1,by show pa≤_;omega,hau⟩
 rcases hnm with rfl|rfl
 · exact h1.2
 · exact hm.su
theorem MS {Ft su:List UInt8} {a c id sg:Int} (hm:nw Ft su a c id sg) {au:Bool} {sr h fr SM pa key s:Int} {nm:List (List UInt8)} (So:0≤sr∧sr<1000) (hh:h∈[3,2,4,1]):(KU Ft su a c id sg au sr h fr SM pa nm key s).Nc:=
 ⟨by show sr≤_;omega,hm.id.2,hm.a,hm.c,(RX hh).2,by show (0:Int)≤0∧(0:Int)≤40000;omega⟩
theorem RY {b:Nat} {s:DS} {Ft su:List UInt8} {a c id sg:Int} {au:Bool} (hm:nw Ft su a c id sg):BG prog 114 [ptr b 0,str Ft,str su,agg [int a,int c],int id,int sg,bool au] (rA) (Cd b s) (fun _=>EZ 101 b):=by
 refine BG.of func114 rfl rfl (by exact Nb rfl) fun M0 w0 S rs M1 w1=> ?_
 have So:=s.B4 (n:=1000) (by omega)
 have hh:=s.Aj.HM (l:=[3,2,4,1]) (by simp)
 have hfr:=s.Aj.Aj.HM (l:=[0,5,10]) (by simp)
 have hto:=s.Aj.Aj.Aj.HM (l:=[1000,100,50,20]) (by simp)
 have hpp:=s.Aj.Aj.Aj.Aj.HM (l:=[3,0,1]) (by simp)
 have hpa:0≤s.Aj.Aj.Aj.Aj.of [3,0,1]∧s.Aj.Aj.Aj.Aj.of [3,0,1]≤3:=by simp at hpp;omega
 have VC:0≤sg∧sg≤2147483648:=⟨hm.sg.1,by have:=hm.sg.2;omega⟩
 refine Tr.seq (Tr.Aq (tp rfl (Bl rfl (Va rfl)) ?_))
 refine Tl rfl rfl rfl rfl z131 Gg (fun b1=> ?_)
 refine ap ?_
 refine Tr.seq (Tr.pad (Tr.rx (xm rfl (Cx.ef 2 rfl rfl (by decide) (AQ rfl rfl (by decide) rfl (BD (by omega) (by omega)) ⟨ke rfl,ke rfl,trivial⟩) ?_))))
 refine ax ?_
 refine xo rfl (fun _=>oI) ?_
 refine Cx.ef 2 rfl rfl (by decide) (AQ rfl rfl (by decide) rfl (Fw (l:=[3,2,4,1]) (by simp) (by simp)) ⟨ke rfl,(Kf rfl),trivial⟩) ?_
 refine ax ?_
 refine xo rfl (fun _=>oI) ?_
 refine Cx.ef 2 rfl rfl (by decide) (AQ rfl rfl (by decide) rfl (Fw (l:=[0,5,10]) (by simp) (by simp)) ⟨ke rfl,(Kf rfl),trivial⟩) ?_
 refine xm rfl (xo rfl (fun _=>oI) ?_)
 refine Cx.ef 2 rfl rfl (by decide) (AQ rfl rfl (by decide) rfl (Fw (l:=[1000,100,50,20]) (by simp) (by simp)) ⟨ke rfl,(Kf rfl),trivial⟩) ?_
 refine xm rfl (xo rfl (fun _=>Al (qs:=[int (s.val 1000),str Ft,str su,int a,int c,int id,int (s.Aj.of [3,2,4,1]),int 0,int (s.Aj.Aj.of [0,5,10]),int (s.Aj.Aj.Aj.of [1000,100,50,20]),bool au,int 0,is (.slice none 0 0),int 0,int 0]) (rows:=[(0,[_]),(1,[_]),(2,[_]),(3,_),(4,[_]),(5,_),(6,[_]),(7,[_]),(8,[_])]) rfl bO Gg ⟨⟨rfl,(Vo rfl)⟩,⟨⟨rfl,(Vo rfl)⟩,⟨⟨rfl,(Vo rfl)⟩,⟨⟨rfl,(Va rfl)⟩,⟨⟨rfl,(Vo rfl)⟩,⟨⟨rfl,(Va rfl)⟩,⟨⟨rfl,(Vo rfl)⟩,⟨⟨rfl,(Vo rfl)⟩,⟨⟨rfl,(Vo rfl)⟩,trivial⟩⟩⟩⟩⟩⟩⟩⟩⟩ (by kernel_rfl)) (Cx.ef 0 rfl rfl (by decide) (G7 rfl rfl (by decide) rfl z131 Gg) (Cx.C7 0 rfl rfl (G8 rfl rfl rfl rfl (Va rfl) CC rfl rfl) ?_)))
 refine Cx.nil ⟨by kernel_rfl,?_⟩
 refine BV.open_ 0 15 rfl rfl (fun v1=> ?_)
 refine BV.done I8 (Fin.R3 15 0 _ rfl rfl (fun _=>rfl) (fun b2=> ?_))
 refine Fin.go (HH 0 2 5 6 14 15 rfl (Tr.seq (Tr.seq (Tr.Ro 0 [int (s.val 1000),str Ft,str su,int a,int c,int id,int (s.Aj.of [3,2,4,1]),int 0,int (s.Aj.Aj.of [0,5,10]),int (s.Aj.Aj.Aj.of [1000,100,50,20]),bool au,int 0,is (.slice none 0 0),int 0,int 0] rfl (by kernel_rfl) ?_))))
 refine an ?_ ?_<;>intro h1 q1
 refine Tr.Ro 0 [int (s.val 1000),str Ft,str su,int a,int c,int id,int (s.Aj.of [3,2,4,1]),int 0,int (s.Aj.Aj.of [0,5,10]),int (s.Aj.Aj.Aj.of [1000,100,50,20]),bool au,int 0,is (.slice none 0 0),int 0,int 0] rfl (by kernel_rfl) ?_
 refine ap ?_
 refine TO.Er 2 rfl rfl (by decide) (AQ rfl rfl (by decide) rfl (Fw (l:=[3,0,1]) (by simp) (by simp)) ⟨ke rfl,(Kf rfl),trivial⟩) ?_
 refine ap ?_
 refine Tr.seq (Tr.Ro 0 [int (s.val 1000),str Ft,str su,int a,int c,int id,int (s.Aj.of [3,2,4,1]),int 0,int (s.Aj.Aj.of [0,5,10]),int (s.Aj.Aj.Aj.of [1000,100,50,20]),bool au,int (s.Aj.Aj.Aj.Aj.of [3,0,1]),is (.slice none 0 0),int 0,int 0] rfl (by kernel_rfl) ?_)
 refine ap ?_
 refine Ej 0 2 5 14 15 rfl (Tr.seq (Tr.seq (Tr.Ro 0 [int (s.val 1000),str Ft,str su,int a,int c,int id,int (s.Aj.of [3,2,4,1]),int 0,int (s.Aj.Aj.of [0,5,10]),int (s.Aj.Aj.Aj.of [1000,100,50,20]),bool au,int (s.Aj.Aj.Aj.Aj.of [3,0,1]),full 1 [[str su]],int 0,int 0] rfl (by kernel_rfl) ?_)))
 refine ap ?_
 refine TO.Er 2 rfl rfl (by decide) (AQ rfl rfl (by decide) rfl (Ji (by omega) (by omega)) ⟨ke rfl,ke rfl,trivial⟩) ?_
 refine ap ?_
 refine Tr.cn rfl ?_ ?_<;>intro h2 q2
 refine Tr.Ro 0 [int (s.val 1000),str Ft,str su,int a,int c,int id,int (s.Aj.of [3,2,4,1]),int 0,int (s.Aj.Aj.of [0,5,10]),int (s.Aj.Aj.Aj.of [1000,100,50,20]),bool au,int (s.Aj.Aj.Aj.Aj.of [3,0,1]),full 1 [[str su]],int 0,int 0] rfl (by kernel_rfl) ?_
 refine ap ?_
 refine tp rfl (WZ rfl (vl rfl) (vl rfl) (by have:=EN (KV hm.su).1;simp only [List.length_cons,List.length_nil];unfold maxLen;omega)) ?_
 refine tp rfl (AG (xs:=[.tmp 47]) (rows:=[[_]]) rfl rfl underlying74 G0 z9 rfl (by decide) ⟨⟨(by exact rfl),(Vo rfl)⟩,trivial⟩ (by decide)) ?_
 refine tp rfl (Iy rfl underlying74 G0 jG z9 rfl (by decide) (vl rfl) (Kf rfl) (by simp only [List.length_append,List.length_cons,List.length_nil];unfold maxLen;omega) (by simp only [List.length_append,List.length_cons,List.length_nil];omega)) ?_
 refine ap ?_
 refine Cg 5 14 15 rfl (Tr.seq (Tr.Ro 0 [int (s.val 1000),str Ft,str su,int a,int c,int id,int (s.Aj.of [3,2,4,1]),int 0,int (s.Aj.Aj.of [0,5,10]),int (s.Aj.Aj.Aj.of [1000,100,50,20]),bool au,int (s.Aj.Aj.Aj.Aj.of [3,0,1]),slice 1 ([[str su]]++[[str (su++[120])]]),int 0,int 0] rfl (by kernel_rfl) ?_))
 have hv:B9 (FO (KU Ft su a c id sg au (s.val 1000) (s.Aj.of [3,2,4,1]) (s.Aj.Aj.of [0,5,10]) (s.Aj.Aj.Aj.of [1000,100,50,20]) (s.Aj.Aj.Aj.Aj.of [3,0,1]) [su,su++[120]] 0 0) 0 0)=true:=Fi hm So hh hfr hto hpa (.inl h1) (.inr rfl) (key:=0) (s:=0) (by omega) (by omega)
 have ht:(FO (KU Ft su a c id sg au (s.val 1000) (s.Aj.of [3,2,4,1]) (s.Aj.Aj.of [0,5,10]) (s.Aj.Aj.Aj.of [1000,100,50,20]) (s.Aj.Aj.Aj.Aj.of [3,0,1]) [su,su++[120]] 0 0) 0 0).Nc:=MS hm So hh
 refine Tr.HN 0 (CZ (KU Ft su a c id sg au (s.val 1000) (s.Aj.of [3,2,4,1]) (s.Aj.Aj.of [0,5,10]) (s.Aj.Aj.Aj.of [1000,100,50,20]) (s.Aj.Aj.Aj.Aj.of [3,0,1]) [su,su++[120]] 0 0)) rfl ⟨Lr,Lr,Lr,Lr,Lr,Lr,Lr,Lr,Lr,Lr,Lr,Lr,Lr,Lr,Lr,trivial⟩ ?_
 refine ap ?_
 refine tp rfl (C8 (Ik (key:=sg) hv ht VC) rfl rfl rfl) ?_
 refine TO.ex 54 rfl (fun Rm=>TO.fact 54 rfl fun Nl=> ?_)
 refine ap ?_
 refine ap ?_
 refine Tr.drop 0 (Tr.ret (Fin.Bn 1 _ rfl rfl (Fin.CB [_] rfl (AW.cell 0 rfl rfl Dh CC rfl (Lr)) ?_ (fun _ _ _ _=>rfl))))
 · exact A9 _ (A2 (Fi hm So hh hfr hto hpa (.inl h1) (.inr rfl) VC Nl) (Lr))
 refine ac ?_
 refine Tr.seq (Tr.Ro 0 [int (s.val 1000),str Ft,str su,int a,int c,int id,int (s.Aj.of [3,2,4,1]),int 0,int (s.Aj.Aj.of [0,5,10]),int (s.Aj.Aj.Aj.of [1000,100,50,20]),bool au,int (s.Aj.Aj.Aj.Aj.of [3,0,1]),full 1 [[str su]],int 0,int 0] rfl (by kernel_rfl) ?_)
 have hv:B9 (FO (KU Ft su a c id sg au (s.val 1000) (s.Aj.of [3,2,4,1]) (s.Aj.Aj.of [0,5,10]) (s.Aj.Aj.Aj.of [1000,100,50,20]) (s.Aj.Aj.Aj.Aj.of [3,0,1]) [su] 0 0) 0 0)=true:=Fi hm So hh hfr hto hpa (.inl h1) (.inl rfl) (key:=0) (s:=0) (by omega) (by omega)
 have ht:(FO (KU Ft su a c id sg au (s.val 1000) (s.Aj.of [3,2,4,1]) (s.Aj.Aj.of [0,5,10]) (s.Aj.Aj.Aj.of [1000,100,50,20]) (s.Aj.Aj.Aj.Aj.of [3,0,1]) [su] 0 0) 0 0).Nc:=MS hm So hh
 refine Tr.HN 0 (CZ (KU Ft su a c id sg au (s.val 1000) (s.Aj.of [3,2,4,1]) (s.Aj.Aj.of [0,5,10]) (s.Aj.Aj.Aj.of [1000,100,50,20]) (s.Aj.Aj.Aj.Aj.of [3,0,1]) [su] 0 0)) rfl ⟨Lr,Lr,Lr,Lr,Lr,Lr,Lr,Lr,Lr,Lr,Lr,Lr,Au _ _,Lr,Lr,trivial⟩ ?_
 refine ap ?_
 refine tp rfl (C8 (Ik (key:=sg) hv ht VC) rfl rfl rfl) ?_
 refine TO.ex 54 rfl (fun Rm=>TO.fact 54 rfl fun Nl=> ?_)
 refine ap ?_
 refine ap ?_
 refine Tr.drop 0 (Es 14 rfl (Tr.ret (Fin.Bn 1 _ rfl rfl (Fin.CB [_] rfl (AW.cell 0 rfl rfl Dh CC rfl (Lr)) ?_ (fun _ _ _ _=>rfl)))))
 · exact A9 _ (A2 (Fi hm So hh hfr hto hpa (.inl h1) (.inl rfl) VC Nl) (Lr))
 refine ac ?_
 refine Tr.seq (Tr.Ro 0 [int (s.val 1000),str Ft,str su,int a,int c,int id,int (s.Aj.of [3,2,4,1]),int 0,int (s.Aj.Aj.of [0,5,10]),int (s.Aj.Aj.Aj.of [1000,100,50,20]),bool au,int 0,is (.slice none 0 0),int 0,int 0] rfl (by kernel_rfl) ?_)
 refine ap ?_
 refine Tr.seq (Tr.seq (Tr.Ro 0 [int (s.val 1000),str Ft,str su,int a,int c,int id,int (s.Aj.of [3,2,4,1]),int 0,int (s.Aj.Aj.of [0,5,10]),int (s.Aj.Aj.Aj.of [1000,100,50,20]),bool au,int 0,full 1 [[str su]],int 0,int 0] rfl (by kernel_rfl) ?_))
 refine ap ?_
 refine TO.Er 2 rfl rfl (by decide) (AQ rfl rfl (by decide) rfl (Ji (by omega) (by omega)) ⟨ke rfl,ke rfl,trivial⟩) ?_
 refine ap ?_
 refine Tr.cn rfl ?_ ?_<;>intro h3 q3
 refine Tr.Ro 0 [int (s.val 1000),str Ft,str su,int a,int c,int id,int (s.Aj.of [3,2,4,1]),int 0,int (s.Aj.Aj.of [0,5,10]),int (s.Aj.Aj.Aj.of [1000,100,50,20]),bool au,int 0,full 1 [[str su]],int 0,int 0] rfl (by kernel_rfl) ?_
 refine ap ?_
 refine tp rfl (WZ rfl (vl rfl) (vl rfl) (by have:=EN (KV hm.su).1;simp only [List.length_cons,List.length_nil];unfold maxLen;omega)) ?_
 refine tp rfl (AG (xs:=[.tmp 47]) (rows:=[[_]]) rfl rfl underlying74 G0 z9 rfl (by decide) ⟨⟨(by exact rfl),(Vo rfl)⟩,trivial⟩ (by decide)) ?_
 refine tp rfl (Iy rfl underlying74 G0 jG z9 rfl (by decide) (vl rfl) (Kf rfl) (by simp only [List.length_append,List.length_cons,List.length_nil];unfold maxLen;omega) (by simp only [List.length_append,List.length_cons,List.length_nil];omega)) ?_
 refine ap ?_
 refine Cg 5 14 15 rfl (Tr.seq (Tr.Ro 0 [int (s.val 1000),str Ft,str su,int a,int c,int id,int (s.Aj.of [3,2,4,1]),int 0,int (s.Aj.Aj.of [0,5,10]),int (s.Aj.Aj.Aj.of [1000,100,50,20]),bool au,int 0,slice 1 ([[str su]]++[[str (su++[120])]]),int 0,int 0] rfl (by kernel_rfl) ?_))
 have hv:B9 (FO (KU Ft su a c id sg au (s.val 1000) (s.Aj.of [3,2,4,1]) (s.Aj.Aj.of [0,5,10]) (s.Aj.Aj.Aj.of [1000,100,50,20]) 0 [su,su++[120]] 0 0) 0 0)=true:=Fi hm So hh hfr hto (pa:=0) (by omega) (.inr rfl) (.inr rfl) (key:=0) (s:=0) (by omega) (by omega)
 have ht:(FO (KU Ft su a c id sg au (s.val 1000) (s.Aj.of [3,2,4,1]) (s.Aj.Aj.of [0,5,10]) (s.Aj.Aj.Aj.of [1000,100,50,20]) 0 [su,su++[120]] 0 0) 0 0).Nc:=MS hm So hh
 refine Tr.HN 0 (CZ (KU Ft su a c id sg au (s.val 1000) (s.Aj.of [3,2,4,1]) (s.Aj.Aj.of [0,5,10]) (s.Aj.Aj.Aj.of [1000,100,50,20]) 0 [su,su++[120]] 0 0)) rfl ⟨Lr,Lr,Lr,Lr,Lr,Lr,Lr,Lr,Lr,Lr,Lr,Lr,Lr,Lr,Lr,trivial⟩ ?_
 refine ap ?_
 refine tp rfl (C8 (Ik (key:=sg) hv ht VC) rfl rfl rfl) ?_
 refine TO.ex 54 rfl (fun Rm=>TO.fact 54 rfl fun Nl=> ?_)
 refine ap ?_
 refine ap ?_
 refine Tr.drop 0 (Tr.ret (Fin.Bn 1 _ rfl rfl (Fin.CB [_] rfl (AW.cell 0 rfl rfl Dh CC rfl (Lr)) ?_ (fun _ _ _ _=>rfl))))
 · exact A9 _ (A2 (Fi hm So hh hfr hto (pa:=0) (by omega) (.inr rfl) (.inr rfl) VC Nl) (Lr))
 refine ac ?_
 refine Tr.seq (Tr.Ro 0 [int (s.val 1000),str Ft,str su,int a,int c,int id,int (s.Aj.of [3,2,4,1]),int 0,int (s.Aj.Aj.of [0,5,10]),int (s.Aj.Aj.Aj.of [1000,100,50,20]),bool au,int 0,full 1 [[str su]],int 0,int 0] rfl (by kernel_rfl) ?_)
 have hv:B9 (FO (KU Ft su a c id sg au (s.val 1000) (s.Aj.of [3,2,4,1]) (s.Aj.Aj.of [0,5,10]) (s.Aj.Aj.Aj.of [1000,100,50,20]) 0 [su] 0 0) 0 0)=true:=Fi hm So hh hfr hto (pa:=0) (by omega) (.inr rfl) (.inl rfl) (key:=0) (s:=0) (by omega) (by omega)
 have ht:(FO (KU Ft su a c id sg au (s.val 1000) (s.Aj.of [3,2,4,1]) (s.Aj.Aj.of [0,5,10]) (s.Aj.Aj.Aj.of [1000,100,50,20]) 0 [su] 0 0) 0 0).Nc:=MS hm So hh
 refine Tr.HN 0 (CZ (KU Ft su a c id sg au (s.val 1000) (s.Aj.of [3,2,4,1]) (s.Aj.Aj.of [0,5,10]) (s.Aj.Aj.Aj.of [1000,100,50,20]) 0 [su] 0 0)) rfl ⟨Lr,Lr,Lr,Lr,Lr,Lr,Lr,Lr,Lr,Lr,Lr,Lr,Au _ _,Lr,Lr,trivial⟩ ?_
 refine ap ?_
 refine tp rfl (C8 (Ik (key:=sg) hv ht VC) rfl rfl rfl) ?_
 refine TO.ex 54 rfl (fun Rm=>TO.fact 54 rfl fun Nl=> ?_)
 refine ap ?_
 refine B3 14 15 rfl ?_
 refine ap ?_
 refine Tr.drop 0 (Tr.ret (Fin.Bn 1 _ rfl rfl (Fin.CB [_] rfl (AW.cell 0 rfl rfl Dh CC rfl (Lr)) ?_ (fun _ _ _ _=>rfl))))
 · exact A9 _ (A2 (Fi hm So hh hfr hto (pa:=0) (by omega) (.inr rfl) (.inl rfl) VC Nl) (Lr))
abbrev e8:Pr:=Cp.ex fun l:List FF=>fact (l.length≤3∧∀c∈l,B9 c=true) (Gh l)
def XU:List (List UInt8):=[[99,97],[99,98],[99,99]]
theorem XV {su:List UInt8} (h:su∈XU):DA [su,su++[120]]=true:=by
 unfold XU at h;simp at h;rcases h with rfl|rfl|rfl<;>decide+kernel
theorem T9:En 5 2048 2=true:=by decide+kernel
theorem aO {Ft su:List UInt8} {id sg:Int} (hi:named Ft=true) (h:su∈XU) (hid:0≤id∧id≤40000) (VC:0≤sg∧sg≤40000):nw Ft su 5 2048 id sg:=⟨hi,XV h,T9,by omega,by omega,hid,VC⟩
theorem VD {b:Nat} {s:DS} {nm:List UInt8} {a c id:Int} (hn:DA [nm,nm++[120]]=true) (hk:En a c 2=true) (ha:0≤a∧a≤40000) (hc:0≤c∧c≤40000) (hid:0≤id∧id≤40000):BG prog 72 [ptr b 0,str nm,agg [int a,int c],int id] (e8) (Cd b s) (fun _=>EZ 101 b):=by
 refine BG.of func72 rfl rfl (by exact Nb rfl) fun M0 w0 S rs M1 w1=> ?_
 have hof:=s.HM (l:=[1,0,2]) (by simp)
 simp at hof
 have G_:=s.Aj.B4 (n:=2) (by omega)
 refine Tr.seq (Tr.A3 (co rfl (Bl rfl (Va rfl)) (cm rfl (Ch.nil (Fin.go (Tr.seq (Tr.Aq (tm rfl (tp rfl (AG (xs:=[.const (.int .i64 (1)),.const (.int .i64 (0)),.const (.int .i64 (2))]) (rows:=[[_],[_],[_]]) rfl rfl underlying22 CO z3 rfl (by decide) ⟨⟨(by exact rfl),(Vo rfl)⟩,⟨⟨(by exact rfl),(Vo rfl)⟩,⟨⟨(by exact rfl),(Vo rfl)⟩,trivial⟩⟩⟩ (by decide)) ?_)))))))))
 refine TO.Er 0 rfl rfl (by decide) (AQ rfl rfl (by decide) rfl (Fw (l:=[1,0,2]) (by simp) (by simp)) ⟨ke rfl,(Kf rfl),trivial⟩) ?_
 refine tm rfl (TO.nil (Fin.go (Tr.seq (Tr.Aq (tm rfl (TO.Er 0 rfl rfl (by decide) (AQ rfl rfl (by decide) rfl (BD (by omega) (by omega)) ⟨ke rfl,ke rfl,trivial⟩) ?_))))))
 refine tp rfl (FI rfl (vl rfl) (vl rfl) ?hin) ?_;case hin=>unfold LK;omega
 refine tm rfl (tm rfl (TO.nil (Fin.go (Tr.seq (Tr.A3 (cm rfl (Ch.nil (Fin.go (Tr.seq (Tr.seq (Tr.A3 (cm rfl (Ch.nil (Fin.go ?_))))))))))))))
 refine Tr.block ?_
 refine Tr.Vz [(0,_),(1,_),(3,_),(6,_),(9,_)] ⟨ke rfl,ke rfl,ke rfl,ke rfl,ke rfl,trivial⟩ (fun (ab:List FF) (sg:Int) (Ft:List UInt8) (s2:DS)=>[(13,int ((ab.length:Nat):Int)),(12,Gh ab),(10,int sg),(11,str Ft)]) (fun (ab:List FF) (sg:Int) (Ft:List UInt8) (s2:DS)=>Hp M0 w0 S (Cd b s2::Bv M1 w1::rs)) (fun (ab:List FF) (sg:Int) (Ft:List UInt8) (s2:DS)=>ab.length≤2∧(∀c∈ab,B9 c=true)∧named Ft=true∧(0≤sg∧sg≤40000)) (fun (ab:List FF) (sg:Int) (Ft:List UInt8) (s2:DS)=>2-ab.length) ([]) (_) (_) (_)  (⟨by show 0≤2;omega,fun c h=>by simp at h,by decide,by omega⟩) ⟨ke rfl,⟨_,rfl,AB 15⟩,ke rfl,ke rfl,trivial⟩ (fun _ _ h=>h) ?_
 rintro ab sg Ft s2  ⟨hk1,aP,RO,VC⟩
 refine Tr.seq (Tr.seq (Tr.A3 (cm rfl (cm rfl (co rfl (ki rfl rfl rfl rfl) (Ch.nil (Fin.go ?_)))))))
 refine Tr.cn rfl ?_ ?_<;>intro h1 q1
 have hlt:((ab.length:Nat):Int)<s.of [1,0,2]:=of_decide_eq_true h1
 obtain ⟨su,cF⟩:=at_ (l:=XU) (k:=ab.length) (by show _<3;omega)
 refine Tr.skip (Fin.go (Tr.seq (Tr.block (Tr.seq (Tr.A3 (co rfl (AG (xs:=[.const (.string ⟨[99,97].toArray⟩),.const (.string ⟨[99,98].toArray⟩),.const (.string ⟨[99,99].toArray⟩)]) (rows:=[[_],[_],[_]]) rfl rfl underlying74 G0 z9 rfl (by decide) ⟨⟨(by exact rfl),(Vo rfl)⟩,⟨⟨(by exact rfl),(Vo rfl)⟩,⟨⟨(by exact rfl),(Vo rfl)⟩,trivial⟩⟩⟩ (by decide)) ?_))))))
 refine cm rfl ?_
 refine co rfl (AA rfl underlying74 G0 (Kf rfl) (vl rfl) (by omega) (show (XU.map fun t=>[str t])[_]? =_ from AX cF)) ?_
 refine co rfl (E_ rfl J6 rfl) (cm rfl (Ch.nil (Fin.go (Nz 0 1 3 6 9 10 11 12 13 14 rfl (Tr.seq (Tr.Aq (tm rfl (tm rfl (tm rfl (tp rfl (Al (rows:=[(0,[_]),(1,[_])]) rfl R4 De ⟨⟨rfl,(Vo rfl)⟩,⟨⟨rfl,(Vo rfl)⟩,trivial⟩⟩ rfl) (tm rfl ?_)))))))))))
 refine tp rfl (FI rfl (vl rfl) (vl rfl) ?hin) ?_;case hin=>unfold LK;omega
 refine tm rfl ?_
 refine TO.Er 0 rfl rfl (by decide) (AQ rfl rfl (by decide) rfl (RY (aO RO (List.mem_of_getElem? cF) (by omega) VC)) ⟨ke rfl,ke rfl,ke rfl,ke rfl,ke rfl,ke rfl,ke rfl,trivial⟩) ?_
 refine TO.ex 38 rfl (fun z1=>TO.fact 38 rfl fun Hx=> ?_)
 refine Tl rfl rfl rfl rfl z131 Gg (fun b1=> ?_)
 refine TO.AY 0 rfl rfl rfl (vl rfl) (Va rfl) rfl CC rfl rfl (TO.freeze 0 15 rfl rfl (TO.nil (Fin.JE 0 rfl (fun s1=> ?_))))
 refine Fin.go (gH 0 1 3 6 9 12 13 14 15 rfl (Tr.seq (Tr.A3 (co rfl (AH rfl Dh CC (vl rfl) rfl rfl) (co rfl (AG (xs:=[.tmp 39]) (rows:=[_]) rfl rfl underlying25 CC z131 rfl (by decide) ⟨⟨(by exact rfl),(Va rfl)⟩,trivial⟩ (by decide)) ?_)))))
 refine cm rfl ?_
 refine co rfl (Iy rfl underlying25 CC Te z131 rfl (by decide) (vl rfl) (vl rfl) (by simp only [List.length_map,List.length_cons,List.length_nil,List.length_append];unfold maxLen;omega) (by simp only [List.length_map,List.length_cons,List.length_nil,List.length_append];omega)) ?_
 refine cm rfl (Ch.nil (Fin.go (PB 0 1 3 6 9 12 13 14 rfl (Tr.A3 (cm rfl (Ly rfl rfl rfl rfl (by omega) (cm rfl (cm rfl (cm rfl (Ch.nil (Fin.block (Fin.go (Tr.A3 ?_)))))))))))))
 refine cm rfl (Ly rfl rfl rfl rfl (by omega) (cm rfl (Ch.nil ?_)))
 exact Fin.YW (z1::ab) (11+(ab.length:Nat)) (su) (_)  (⟨⟨by simp;omega,fun c hc=>(List.mem_cons.1 hc).elim (fun h=>h ▸ Hx) (aP c),(KV (XV (List.mem_of_getElem? cF))).1,by omega⟩,by simp;omega⟩) ⟨⟨_,rfl,AK ab.length⟩,ke rfl,ke rfl,ke rfl,ke rfl,ke rfl,ke rfl,ke rfl,ke rfl,trivial⟩ (fun _ _ h=>h)
 refine Tr.exit (Fin.Ao (Fin.Ao (Fin.BT (Fin.go (Tr.seq (Tr.Aq (tm rfl (tm rfl (tm rfl (tp rfl (AH rfl CM DE (vl rfl) rfl rfl) (tm rfl (tm rfl (TO.Er 0 rfl rfl (by decide) (AQ rfl rfl (by decide) rfl (RY ⟨RO,hn,hk,ha,hc,hid,VC⟩) ⟨ke rfl,ke rfl,ke rfl,ke rfl,ke rfl,ke rfl,ke rfl,trivial⟩) ?_)))))))))))))
 refine TO.ex 52 rfl (fun z2=>TO.fact 52 rfl fun YL=> ?_)
 refine tp rfl (AG (xs:=[.tmp 52]) (rows:=[_]) rfl rfl underlying25 CC z131 rfl (by decide) ⟨⟨(by exact rfl),(Va rfl)⟩,trivial⟩ (by decide)) ?_
 refine tm rfl ?_
 refine tp rfl (Iy rfl underlying25 CC Te z131 rfl (by decide) (vl rfl) (vl rfl) (by simp only [List.length_map,List.length_cons,List.length_nil,List.length_append];unfold maxLen;omega) (by simp only [List.length_map,List.length_cons,List.length_nil,List.length_append];omega)) ?_
 refine tm rfl (TO.nil (Fin.JE 0 rfl (fun s2=> ?_)))
 refine Fin.go (Es 8 rfl (Tr.ret (Fin.Bn 0 _ rfl rfl (Fin.CB [] rfl (AW.tmp rfl (Lr)) ?_ (fun _ _ _ _=>rfl)))))
 · exact A9 (z2::ab) (A2 ⟨by simp;omega,fun c hc=>(List.mem_cons.1 hc).elim (fun h=>h ▸ YL) (aP c)⟩ (Lr))
theorem Sq {β:Type} {sz:Nat} {f:β→List Pr} {l:List β} {x:β}:slice sz ([]++l.map f++[f x])=slice sz ((l++[x]).map f):=by rw [List.map_append];rfl
structure e9 (e x:A5):Prop where
 sz:x.sz 2000
 same:x.name=e.name∨x.least=e.least
theorem XW {s:DS} {l:List (List UInt8)} (h:l≠[]):FP s l∈l:=by
 have SD:1≤(l.length:Int):=by have:=List.length_pos_iff.2 h;omega
 have hv:=s.B4 SD
 obtain ⟨x,hx⟩:=at_ (l:=l) (k:=(s.val l.length).toNat) (by omega)
 unfold FP;rw [hx];exact List.mem_of_getElem? hx
theorem RZ {c:FF} (h:B9 c=true):c.fits∧c.names.length≤8:=by
 obtain ⟨_,_,RO,hsub,hnm,_⟩:=Dl h
 have h1:=EN RO;have h2:=EN hsub
 unfold DA at hnm;rw [Bool.and_eq_true] at hnm
 refine ⟨⟨by unfold maxLen;omega,by unfold maxLen;omega,fun t ht=> ?_⟩,by simpa using hnm.2⟩
 obtain ⟨i,hi,rfl⟩:=List.mem_iff_getElem.1 ht
 have:=Bo.1 hnm.1 i hi
 have:=EN (MM this (List.getElem?_eq_getElem hi))
 unfold maxLen;omega
theorem Ra {l:List FF} (h:l.length≤3∧∀c∈l,B9 c=true) {a c id:Int}:(⟨a,c,id,l⟩:Du).fits∧(⟨a,c,id,l⟩:Du).small:=
 ⟨fun c hc=>(RZ (h.2 c hc)).1,by show l.length≤_;omega,fun c hc=>by have:=(RZ (h.2 c hc)).2;omega⟩
theorem Rb {e:A5} {y:Du} (hy:y.fits∧y.small) (hs:e.sz 1000):e9 e { e with ids:=e.ids++[y] }:=
 ⟨⟨hs.name, Nat.le_trans hs.AJ (by omega), Nat.le_trans hs.anchors (by omega), Nat.le_trans hs.hashes (by omega), by show (e.ids ++ [y]).length ≤ _; have := hs.I0; simp; omega, fun x hx => by
  rcases List.mem_append.1 hx with hx|hx
  · exact hs.ids x hx
  · simp at hx;subst hx;exact hy⟩,.inl rfl⟩
theorem aQ {b:Nat} {s:DS} {e:A5} (hs:e.sz 1000) (hm:0≤e.most∧e.most≤1000):BG prog 15 [ptr b 0,agg (Ah e)] (Cp.ex fun x:A5=>fact (e9 e x) (agg (Ah x))) (Cd b s) (fun _=>EZ 101 b):=by
 refine BG.of func15 rfl rfl (by exact Nb rfl) fun M0 w0 S rs M1 w1=> ?_
 have cF:=hs.AJ
 have EO:=hs.I0
 have hv:=s.B4 (n:=8) (by omega)
 have hwm:=XW (s:=s.Aj) (l:=[[],[97,32,98],[120]]) (by simp)
 have hwl:(FP s.Aj [[],[97,32,98],[120]]).length≤3:=by simp at hwm;rcases hwm with h|h|h<;>rw [h]<;>simp
 refine Tr.seq (Tr.Aq ?_)
 refine TO.IJ rfl rfl (by decide) rfl (Va rfl) (fun b1=> ?_)
 refine Tl rfl rfl rfl rfl z32 Df (fun b2=> ?_)
 refine TO.nil (Fin.go (Tr.seq (Tr.seq (Tr.Aq (tm rfl (TO.Er 2 rfl rfl (by decide) (AQ rfl rfl (by decide) rfl (BD (by omega) (by omega)) ⟨ke rfl,ke rfl,trivial⟩) (TO.nil (Fin.go (Tr.block (Tr.seq (Tr.A3 (co rfl (ki rfl rfl rfl rfl) (cm rfl ?_)))))))))))))
 refine Ch.nil (Fin.go ?_)
 refine Tr.cn rfl ?_ ?_<;>intro h1 q1
 refine Tr.Aq (tm rfl (tp rfl (AG (xs:=[.const (.string ⟨[].toArray⟩),.const (.string ⟨[97,32,98].toArray⟩),.const (.string ⟨[120].toArray⟩)]) (rows:=[[_],[_],[_]]) rfl rfl underlying74 G0 z9 rfl (by decide) ⟨⟨(by exact rfl),(Vo rfl)⟩,⟨⟨(by exact rfl),(Vo rfl)⟩,⟨⟨(by exact rfl),(Vo rfl)⟩,trivial⟩⟩⟩ (by decide)) ?_))
 refine TO.Er 2 rfl rfl (by decide) (AQ rfl rfl (by decide) rfl (Nf (l:=[[],[97,32,98],[120]]) (by simp) (by simp)) ⟨ke rfl,(Kf rfl),trivial⟩) ?_
 refine tp rfl (AD rfl R6 (vl rfl)) (TO.C7 1 rfl rfl (An rfl rfl (vl rfl) (Vo rfl) G0 rfl (by exact Nb rfl) rfl) (TO.nil (Fin.block (Fin.go (Tr.seq (Tr.Aq (TO.rd 1 rfl rfl rfl (by decide) (B8 rfl BM A8 (vl rfl) rfl rfl) (TO.AY 0 rfl rfl rfl (vl rfl) (Va rfl) rfl A8 rfl rfl (TO.nil (Fin.go (Tr.drop 1 (Tr.ret (Fin.Bn 1 _ rfl rfl (Fin.CB [_] rfl (AW.cell 0 rfl rfl BM A8 rfl (Lr)) ?_ (fun _ _ _ _=>rfl)))))))))))))))
 · exact A9 { e with name:=FP s.Aj [[],[97,32,98],[120]] } (A2 ⟨⟨(by show (FP _ _).length≤_;unfold maxLen;omega),Nat.le_trans hs.AJ (by omega),Nat.le_trans hs.anchors (by omega),Nat.le_trans hs.hashes (by omega),Nat.le_trans hs.I0 (by omega),hs.ids⟩,.inr rfl⟩ (Lr))
 refine Tr.seq (Tr.A3 (co rfl (ki rfl rfl rfl rfl) (cm rfl (Ch.nil (Fin.go ?_)))))
 refine Tr.cn rfl ?_ ?_<;>intro h2 q2
 refine Tr.Aq (tm rfl (tp rfl (AD rfl M6 (vl rfl)) (TO.rd 1 rfl rfl rfl (by decide) (BL rfl CV (vl rfl) rfl) ?_)))
 refine tp rfl (FI rfl (vl rfl) (vl rfl) ?hin) ?_;case hin=>unfold LK;omega
 refine tp rfl (AG (xs:=[.const (.int .i64 (0)),.const (.int .i64 (5)),.tmp 30]) (rows:=[[_],[_],[_]]) rfl rfl underlying22 CO z3 rfl (by decide) ⟨⟨(by exact rfl),(Vo rfl)⟩,⟨⟨(by exact rfl),(Vo rfl)⟩,⟨⟨(by exact rfl),(Vo rfl)⟩,trivial⟩⟩⟩ (by decide)) ?_
 refine TO.Er 2 rfl rfl (by decide) (AQ rfl rfl (by decide) rfl (Fw (l:=[0,5,e.most+1]) (by simp) (by simp)) ⟨ke rfl,(Kf rfl),trivial⟩) ?_
 refine tp rfl (AD rfl V1 (vl rfl)) (TO.C7 1 rfl rfl (An rfl rfl (vl rfl) (Vo rfl) CO rfl (by exact Nb rfl) rfl) (TO.nil (Fin.block (Fin.go (B3 3 4 rfl (Tr.seq (Tr.Aq (TO.rd 1 rfl rfl rfl (by decide) (B8 rfl BM A8 (vl rfl) rfl rfl) (TO.AY 0 rfl rfl rfl (vl rfl) (Va rfl) rfl A8 rfl rfl (TO.nil (Fin.go (Tr.drop 1 (Tr.ret (Fin.Bn 1 _ rfl rfl ?_))))))))))))))
 refine Fin.CB [_] rfl (AW.cell 0 rfl rfl BM A8 rfl (Lr)) ?_ (fun _ _ _ _=>rfl)
 · exact A9 { e with least:=s.Aj.of [0,5,e.most+1] } (A2 ⟨⟨hs.name,Nat.le_trans hs.AJ (by omega),Nat.le_trans hs.anchors (by omega),Nat.le_trans hs.hashes (by omega),Nat.le_trans hs.I0 (by omega),hs.ids⟩,.inl rfl⟩ (Lr))
 refine Tr.seq (Tr.A3 (co rfl (ki rfl rfl rfl rfl) (cm rfl (Ch.nil (Fin.go ?_)))))
 refine Tr.cn rfl ?_ ?_<;>intro h3 q3
 refine Tr.Aq (tm rfl (tp rfl (AG (xs:=[.const (.int .i64 (5)),.const (.int .i64 (0))]) (rows:=[[_],[_]]) rfl rfl underlying22 CO z3 rfl (by decide) ⟨⟨(by exact rfl),(Vo rfl)⟩,⟨⟨(by exact rfl),(Vo rfl)⟩,trivial⟩⟩ (by decide)) ?_))
 refine TO.Er 2 rfl rfl (by decide) (AQ rfl rfl (by decide) rfl (Fw (l:=[5,0]) (by simp) (by simp)) ⟨ke rfl,(Kf rfl),trivial⟩) ?_
 refine tp rfl (AD rfl M6 (vl rfl)) (TO.C7 1 rfl rfl (An rfl rfl (vl rfl) (Vo rfl) CO rfl (by exact Nb rfl) rfl) (TO.nil (Fin.block (Fin.go (B3 3 4 rfl (Tr.seq (Tr.Aq (TO.rd 1 rfl rfl rfl (by decide) (B8 rfl BM A8 (vl rfl) rfl rfl) (TO.AY 0 rfl rfl rfl (vl rfl) (Va rfl) rfl A8 rfl rfl (TO.nil (Fin.go (Tr.drop 1 (Tr.ret (Fin.Bn 1 _ rfl rfl ?_))))))))))))))
 refine Fin.CB [_] rfl (AW.cell 0 rfl rfl BM A8 rfl (Lr)) ?_ (fun _ _ _ _=>rfl)
 · exact A9 { e with most:=s.Aj.of [5,0] } (A2 ⟨⟨hs.name,Nat.le_trans hs.AJ (by omega),Nat.le_trans hs.anchors (by omega),Nat.le_trans hs.hashes (by omega),Nat.le_trans hs.I0 (by omega),hs.ids⟩,.inl rfl⟩ (Lr))
 refine Tr.seq (Tr.A3 (co rfl (ki rfl rfl rfl rfl) (cm rfl (Ch.nil (Fin.go ?_)))))
 refine Tr.cn rfl ?_ ?_<;>intro h4 q4
 refine Tr.Aq (tp rfl (AG (xs:=[]) (rows:=[]) rfl rfl underlying22 CO z3 rfl (by decide) trivial (by decide)) (tp rfl (AD rfl Ea (vl rfl)) (TO.rd 1 rfl rfl rfl (by decide) (BL rfl OK (vl rfl) rfl) (TO.pad ?_))))
 refine TO.Ex 0 rfl rfl (by decide) (DF rfl rfl rfl rfl underlying22 CO OJ z3 (Kf rfl) (vl rfl) (Bx (by exact List.Mem.head _) (vl rfl))) (fun v1=> ?_)
 refine tm rfl (tp rfl (AG (xs:=[.const (.int .i64 (17)),.const (.int .i64 (0)),.const (.int .i64 (3)),.const (.int .i64 (3))]) (rows:=[[_],[_],[_],[_]]) rfl rfl underlying22 CO z3 rfl (by decide) ⟨⟨(by exact rfl),(Vo rfl)⟩,⟨⟨(by exact rfl),(Vo rfl)⟩,⟨⟨(by exact rfl),(Vo rfl)⟩,⟨⟨(by exact rfl),(Vo rfl)⟩,trivial⟩⟩⟩⟩ (by decide)) ?_)
 refine TO.Er 3 rfl rfl (by decide) (AQ rfl rfl (by decide) rfl (Fw (l:=[17,0,3,3]) (by simp) (by simp)) ⟨ke rfl,(Kf rfl),trivial⟩) ?_
 refine tp rfl (AG (xs:=[.tmp 48]) (rows:=[[_]]) rfl rfl underlying22 CO z3 rfl (by decide) ⟨⟨(by exact rfl),(Vo rfl)⟩,trivial⟩ (by decide)) ?_
 refine TO.Ex 0 rfl rfl (by decide) (DF rfl rfl rfl rfl underlying22 CO OJ z3 (Kb rfl) (Kf rfl) (B6 (by exact List.Mem.head _) (Ka rfl))) (fun v2=> ?_)
 refine tp rfl (AD rfl Ea (vl rfl)) (TO.C7 2 rfl rfl (An rfl rfl (vl rfl) (Vo rfl) Fl rfl (by exact Nb rfl) rfl) (TO.nil (Fin.block (Fin.go (B3 3 4 rfl (Tr.seq (Tr.Aq (TO.rd 2 rfl rfl rfl (by decide) (B8 rfl BM A8 (vl rfl) rfl rfl) (TO.AY 1 rfl rfl rfl (vl rfl) (Va rfl) rfl A8 rfl rfl (TO.nil (Fin.go (Tr.drop 2 (Tr.ret (Fin.Bn 2 _ rfl rfl ?_))))))))))))))
 refine Fin.CB [_,_] rfl (AW.cell 1 rfl rfl BM A8 rfl (Lr)) ?_ (fun _ _ _ _=>rfl)
 · exact A9 { e with AJ:=e.AJ++[s.Aj.of [17,0,3,3]] } (A2 ⟨⟨hs.name,(by show (e.AJ++[_]).length≤_;simp;omega),Nat.le_trans hs.anchors (by omega),Nat.le_trans hs.hashes (by omega),Nat.le_trans hs.I0 (by omega),hs.ids⟩,.inl rfl⟩ (Ab ⟨Lr,Lr,Lr,Pr.le_trans (A7 _ _) (Pr.le_of_eq (Sq (f:=fun n:Int=>[int n]))),Lr,Lr,Lr,Lr,Lr,trivial⟩))
 refine Tr.seq (Tr.A3 (co rfl (ki rfl rfl rfl rfl) (cm rfl (Ch.nil (Fin.go (Ej 0 3 4 6 52 rfl ?_))))))
 refine Tr.cn rfl ?_ ?_<;>intro h5 q5
 refine Tr.Aq (tp rfl (AG (xs:=[.const (.int .i64 (2)),.const (.int .i64 (1))]) (rows:=[[_],[_]]) rfl rfl underlying22 CO z3 rfl (by decide) ⟨⟨(by exact rfl),(Vo rfl)⟩,⟨⟨(by exact rfl),(Vo rfl)⟩,trivial⟩⟩ (by decide)) ?_)
 refine tp rfl (AD rfl IL (vl rfl)) (TO.C7 1 rfl rfl (An rfl rfl (vl rfl) (Vo rfl) Fl rfl (by exact Nb rfl) rfl) (TO.nil (Fin.block (Fin.go (Tr.seq (Tr.Aq (TO.rd 1 rfl rfl rfl (by decide) (B8 rfl BM A8 (vl rfl) rfl rfl) (TO.AY 0 rfl rfl rfl (vl rfl) (Va rfl) rfl A8 rfl rfl (TO.nil (Fin.go (Tr.drop 1 (Tr.ret (Fin.Bn 1 _ rfl rfl (Fin.CB [_] rfl (AW.cell 0 rfl rfl BM A8 rfl (Lr)) ?_ (fun _ _ _ _=>rfl)))))))))))))))
 · exact A9 { e with anchors:=[2,1] } (A2 ⟨⟨hs.name,Nat.le_trans hs.AJ (by omega),(by show 2≤_;omega),Nat.le_trans hs.hashes (by omega),Nat.le_trans hs.I0 (by omega),hs.ids⟩,.inl rfl⟩ (Ab ⟨Lr,Lr,Lr,Lr,Lr,Lr,Au _ _,Lr,Lr,trivial⟩))
 refine Tr.seq (Tr.A3 (co rfl (ki rfl rfl rfl rfl) (cm rfl (Ch.nil (Fin.go ?_)))))
 refine Tr.cn rfl ?_ ?_<;>intro h6 q6
 refine Tr.Aq (tm rfl (tp rfl (AG (xs:=[.const (.int .i64 (5)),.const (.int .i64 (3)),.const (.int .i64 (0))]) (rows:=[[_],[_],[_]]) rfl rfl underlying22 CO z3 rfl (by decide) ⟨⟨(by exact rfl),(Vo rfl)⟩,⟨⟨(by exact rfl),(Vo rfl)⟩,⟨⟨(by exact rfl),(Vo rfl)⟩,trivial⟩⟩⟩ (by decide)) ?_))
 refine TO.Er 2 rfl rfl (by decide) (AQ rfl rfl (by decide) rfl (Fw (l:=[5,3,0]) (by simp) (by simp)) ⟨ke rfl,(Kf rfl),trivial⟩) ?_
 refine tp rfl (AG (xs:=[.tmp 60]) (rows:=[[_]]) rfl rfl underlying22 CO z3 rfl (by decide) ⟨⟨(by exact rfl),(Vo rfl)⟩,trivial⟩ (by decide)) ?_
 refine tp rfl (AD rfl IM (vl rfl)) (TO.C7 1 rfl rfl (An rfl rfl (vl rfl) (Vo rfl) Fl rfl (by exact Nb rfl) rfl) (TO.nil (Fin.block (Fin.go (Tr.seq (Tr.Aq (TO.rd 1 rfl rfl rfl (by decide) (B8 rfl BM A8 (vl rfl) rfl rfl) (TO.AY 0 rfl rfl rfl (vl rfl) (Va rfl) rfl A8 rfl rfl (TO.nil (Fin.go (Tr.drop 1 (Tr.ret (Fin.Bn 1 _ rfl rfl (Fin.CB [_] rfl (AW.cell 0 rfl rfl BM A8 rfl (Lr)) ?_ (fun _ _ _ _=>rfl)))))))))))))))
 · exact A9 { e with hashes:=[s.Aj.of [5,3,0]] } (A2 ⟨⟨hs.name,Nat.le_trans hs.AJ (by omega),Nat.le_trans hs.anchors (by omega),(by show 1≤_;omega),Nat.le_trans hs.I0 (by omega),hs.ids⟩,.inl rfl⟩ (Ab ⟨Lr,Lr,Lr,Lr,Lr,Lr,Lr,Au _ _,Lr,trivial⟩))
 refine Tr.seq (Tr.A3 (co rfl (ki rfl rfl rfl rfl) (cm rfl (Ch.nil (Fin.go ?_)))))
 refine Tr.cn rfl ?_ ?_<;>intro h7 q7
 refine Tr.Aq (tp rfl (AG (xs:=[]) (rows:=[]) rfl rfl underlying30 BR HP rfl (by decide) trivial (by decide)) (tp rfl (AD rfl EC (vl rfl)) (TO.rd 1 rfl rfl rfl (by decide) (BL rfl Ta (vl rfl) rfl) (TO.pad ?_))))
 refine TO.Ex 0 rfl rfl (by decide) (DF rfl rfl rfl rfl underlying30 BR J7 HP (Kf rfl) (vl rfl) (Bx (by exact List.Mem.head _) (vl rfl))) (fun v3=> ?_)
 refine tp rfl (Al (rows:=[(0,[_])]) rfl R4 De ⟨⟨rfl,(Vo rfl)⟩,trivial⟩ rfl) (tp rfl (Al (rows:=[(0,_)]) rfl Ya HO ⟨⟨rfl,(Va rfl)⟩,trivial⟩ rfl) (tp rfl (AG (xs:=[.tmp 70]) (rows:=[Az ⟨1,0,0,[]⟩]) rfl rfl underlying30 BR HP rfl (by decide) ⟨⟨(by exact rfl),VL.le (vl rfl) (Pr.le_trans (Ab (qs:=Az ⟨1,0,0,[]⟩) ⟨Lr,Lr,Lr,AB 15,trivial⟩) (AZ _))⟩,trivial⟩ (by decide)) ?_))
 refine TO.Ex 0 rfl rfl (by decide) (DF rfl rfl rfl rfl underlying30 BR J7 HP (Kb rfl) (Kf rfl) (B6 (by exact List.Mem.head _) (Ka rfl))) (fun v4=> ?_)
 refine tp rfl (AD rfl EC (vl rfl)) (TO.C7 2 rfl rfl (An rfl rfl (vl rfl) (Vo rfl) Li rfl (by exact Nb rfl) rfl) (TO.nil (Fin.block (Fin.go (B3 3 4 rfl (Tr.seq (Tr.Aq (TO.rd 2 rfl rfl rfl (by decide) (B8 rfl BM A8 (vl rfl) rfl rfl) (TO.AY 1 rfl rfl rfl (vl rfl) (Va rfl) rfl A8 rfl rfl (TO.nil (Fin.go (Tr.drop 2 (Tr.ret (Fin.Bn 2 _ rfl rfl ?_))))))))))))))
 refine Fin.CB [_,_] rfl (AW.cell 1 rfl rfl BM A8 rfl (Lr)) ?_ (fun _ _ _ _=>rfl)
 · exact A9 { e with ids:=e.ids++[⟨1,0,0,[]⟩] } (A2 (Rb (Ra ⟨by simp,fun c h=>by simp at h⟩) hs) (Ab ⟨Lr,Lr,Lr,Lr,Lr,Pr.le_trans (A7 _ _) (Pr.le_of_eq (Sq (f:=Az))),Lr,Lr,Lr,trivial⟩))
 refine Tr.Aq (tp rfl (AG (xs:=[]) (rows:=[]) rfl rfl underlying30 BR HP rfl (by decide) trivial (by decide)) (tp rfl (AD rfl EC (vl rfl)) (TO.rd 1 rfl rfl rfl (by decide) (BL rfl Ta (vl rfl) rfl) (TO.pad ?_))))
 refine TO.Ex 0 rfl rfl (by decide) (DF rfl rfl rfl rfl underlying30 BR J7 HP (Kf rfl) (vl rfl) (Bx (by exact List.Mem.head _) (vl rfl))) (fun v5=> ?_)
 refine tp rfl (Al (rows:=[(0,[_]),(1,[_])]) rfl R4 De ⟨⟨rfl,(Vo rfl)⟩,⟨⟨rfl,(Vo rfl)⟩,trivial⟩⟩ rfl) (tm rfl (tp rfl (Al (rows:=[(0,[_]),(1,[_])]) rfl R4 De ⟨⟨rfl,(Vo rfl)⟩,⟨⟨rfl,(Vo rfl)⟩,trivial⟩⟩ rfl) (TO.Er 3 rfl rfl (by decide) (AQ rfl rfl (by decide) rfl (VD (by decide+kernel) T9 (by omega) (by omega) (by omega)) ⟨ke rfl,ke rfl,ke rfl,ke rfl,trivial⟩) ?_)))
 refine TO.ex 14 rfl (fun z1=>TO.fact 14 rfl fun Hx=> ?_)
 refine tp rfl (Al (rows:=[(0,_),(1,[_]),(2,[_])]) rfl Ya HO ⟨⟨rfl,(Va rfl)⟩,⟨⟨rfl,(Vo rfl)⟩,⟨⟨rfl,(Vo rfl)⟩,trivial⟩⟩⟩ rfl) (tp rfl (AG (xs:=[.tmp 15]) (rows:=[Az ⟨5,2048,7,z1⟩]) rfl rfl underlying30 BR HP rfl (by decide) ⟨⟨(by exact rfl),VL.le (vl rfl) (Pr.le_trans (Pr.le_of_eq (show agg _=agg (Az ⟨5,2048,7,z1⟩) from rfl)) (AZ _))⟩,trivial⟩ (by decide)) ?_)
 refine TO.Ex 0 rfl rfl (by decide) (DF rfl rfl rfl rfl underlying30 BR J7 HP (Kb rfl) (Kf rfl) (B6 (by exact List.Mem.head _) (Ka rfl))) (fun v6=> ?_)
 refine tp rfl (AD rfl EC (vl rfl)) (TO.C7 2 rfl rfl (An rfl rfl (vl rfl) (Vo rfl) Li rfl (by exact Nb rfl) rfl) (TO.nil (Fin.JE 3 rfl (fun s1=> ?_))))
 refine Fin.block (Fin.go (B3 3 4 rfl (Tr.seq (Tr.Aq (TO.rd 2 rfl rfl rfl (by decide) (B8 rfl BM A8 (vl rfl) rfl rfl) (TO.AY 1 rfl rfl rfl (vl rfl) (Va rfl) rfl A8 rfl rfl (TO.nil (Fin.go (Tr.drop 2 (Tr.ret (Fin.Bn 2 _ rfl rfl (Fin.CB [_,_] rfl (AW.cell 1 rfl rfl BM A8 rfl (Lr)) ?_ (fun _ _ _ _=>rfl)))))))))))))
 · exact A9 { e with ids:=e.ids++[⟨5,2048,7,z1⟩] } (A2 (Rb (Ra Hx) hs) (Ab ⟨Lr,Lr,Lr,Lr,Lr,Pr.le_trans (A7 _ _) (Pr.le_of_eq (Sq (f:=Az))),Lr,Lr,Lr,trivial⟩))
theorem XX:B9 (Il [97,112,112] 5 2048 7 50 0 0)=true:=by decide+kernel
structure e_ (c x:BA):Prop where
 fits:x.Bj.fits
 small:x.Bj.small
theorem KW {c x:BA} (h:x.Bj=c.Bj) (hi:c.Bj.fits∧c.Bj.small):e_ c x:=⟨h ▸ hi.1,h ▸ hi.2⟩
theorem VE {p0 p1 p2 p3:Int} {nm:List UInt8} (hn:nm∈Et) {c:BA} {a b id to key:Int}:(agg [int p0,int p1,int p2,int p3,int a,int b,int id,RR nm a b id to key]).le (Cp.ex fun x:BA=>fact (e_ c x) (agg (Am x))):=by
 intro M w v ⟨cs,h1,h2,h3⟩
 obtain ⟨s,h4⟩:=Sg (ps:=[int p0,int p1,int p2,int p3,int a,int b,int id]) h3
 refine ⟨⟨p0,p1,p2,p3,FH nm a b id to key s⟩,⟨?_,?_⟩,cs,h1,h2,Ni (ps:=[int p0,int p1,int p2,int p3,int a,int b,int id]) h4⟩
 ·
  intro d hd;simp at hd;subst hd
  have hn:=(MO _ hn).2
  exact ⟨by show 4≤maxLen;unfold maxLen;omega,by show nm.length≤maxLen;unfold maxLen;omega,fun n hn2=>by simp at hn2;subst hn2;unfold maxLen;omega⟩
 · exact ⟨by simp,fun d hd=>by simp at hd;subst hd;simp⟩
theorem T_ {b:Nat} {s:DS} {c:BA} (hi:c.Bj.fits∧c.Bj.small):BG prog 17 [ptr b 0,agg (Am c)] (Cp.ex fun x:BA=>fact (e_ c x) (agg (Am x))) (Cd b s) (fun _=>EZ 101 b):=by
 refine BG.of func17 rfl rfl (by exact Nb rfl) fun M0 w0 S rs M1 w1=> ?_
 have hv:=s.Aj.B4 (n:=15) (by omega)
 refine Tr.seq (Tr.Aq ?_)
 refine TO.IJ rfl rfl (by decide) rfl (Va rfl) (fun b1=> ?_)
 refine Tl rfl rfl rfl rfl z29 Fo (fun b2=> ?_)
 refine ap ?_
 refine ap ?_
 refine TO.Er 2 rfl rfl (by decide) (AQ rfl rfl (by decide) rfl (BD (by omega) (by omega)) ⟨ke rfl,ke rfl,trivial⟩) ?_
 refine ap ?_
 refine an ?_ ?_<;>intro h1 q1
 refine ap ?_
 refine TO.Er 2 rfl rfl (by decide) (AQ rfl rfl (by decide) rfl (BD (by omega) (by omega)) ⟨ke rfl,ke rfl,trivial⟩) ?_
 refine ap ?_
 refine ap ?_
 refine Tr.drop 1 (Tr.ret (Fin.Bn 1 _ rfl rfl (Fin.CB [_] rfl (AW.cell 0 rfl rfl Be BE rfl (Lr)) ?_ (fun _ _ _ _=>rfl))))
 · exact A9 { c with kind:=s.Aj.val 15-1 } (A2 (KW rfl hi) (Lr))
 refine an ?_ ?_<;>intro h2 q2
 refine ap ?_
 refine TO.Er 2 rfl rfl (by decide) (AQ rfl rfl (by decide) rfl (Fw (l:=[0,-1,17,70000,2]) (by simp) (by simp)) ⟨ke rfl,(Kf rfl),trivial⟩) ?_
 refine ap ?_
 refine ap ?_
 refine Tr.drop 1 (Es 4 rfl (Tr.ret (Fin.Bn 1 _ rfl rfl (Fin.CB [_] rfl (AW.cell 0 rfl rfl Be BE rfl (Lr)) ?_ (fun _ _ _ _=>rfl)))))
 · exact A9 { c with number:=s.Aj.of [0,-1,17,70000,2] } (A2 (KW rfl hi) (Lr))
 refine an ?_ ?_<;>intro h3 q3
 refine ap ?_
 refine TO.Er 2 rfl rfl (by decide) (AQ rfl rfl (by decide) rfl (Fw (l:=[-1,1,99]) (by simp) (by simp)) ⟨ke rfl,(Kf rfl),trivial⟩) ?_
 refine ap ?_
 refine B3 3 4 rfl ?_
 refine ap ?_
 refine Tr.drop 1 (Tr.ret (Fin.Bn 1 _ rfl rfl (Fin.CB [_] rfl (AW.cell 0 rfl rfl Be BE rfl (Lr)) ?_ (fun _ _ _ _=>rfl))))
 · exact A9 { c with at_:=s.Aj.of [-1,1,99] } (A2 (KW rfl hi) (Lr))
 refine an ?_ ?_<;>intro h4 q4
 refine Tr.Aq (tp rfl (Qv (T6) rfl) ?_)
 refine tp rfl (kc5 (Nd (name:=[97,112,112]) (a:=5) (b:=2048) (id:=7) (to:=50) (key:=1) XX ⟨by show (7:Int)≤40000;omega,by show (7:Int)≤40000;omega,by show (0:Int)≤5∧(5:Int)≤40000;omega,by show (0:Int)≤2048∧(2048:Int)≤40000;omega,by show (0:Int)≤3∧(3:Int)≤40000;omega,by show (0:Int)≤0∧(0:Int)≤40000;omega⟩ (by omega)) rfl rfl rfl rfl rfl rfl) ?_
 refine tp rfl (AD rfl Kq (vl rfl)) (TO.C7 1 rfl rfl (An rfl rfl (vl rfl) (VL.le (vl rfl) (Nh)) BR rfl (by exact Nb rfl) rfl) ?_)
 refine ap ?_
 refine B3 3 4 rfl ?_
 refine ap ?_
 refine Tr.drop 1 (Tr.ret (Fin.Bn 1 _ rfl rfl (Fin.CB [_] rfl (AW.cell 0 rfl rfl Be BE rfl (Lr)) ?_ (fun _ _ _ _=>rfl))))
 · exact VE (by decide)
 refine ac ?_
 refine Fk 0 3 4 30 rfl ?_
 refine Tr.cn rfl ?_ ?_<;>intro h5 q5
 refine ap ?_
 refine TO.Er 2 rfl rfl (by decide) (AQ rfl rfl (by decide) rfl (Fw (l:=[-1,9,0]) (by simp) (by simp)) ⟨ke rfl,(Kf rfl),trivial⟩) ?_
 refine ap ?_
 refine ap ?_
 refine Tr.drop 1 (Tr.ret (Fin.Bn 1 _ rfl rfl (Fin.CB [_] rfl (AW.cell 0 rfl rfl Be BE rfl (Lr)) ?_ (fun _ _ _ _=>rfl))))
 · exact A9 { c with AP:=s.Aj.of [-1,9,0] } (A2 (KW rfl hi) (Lr))
 refine ac ?_
 refine ap ?_
 refine Tr.drop 1 (Tr.ret (Fin.Bn 1 _ rfl rfl (Fin.CB [_] rfl (AW.cell 0 rfl rfl Be BE rfl (Lr)) ?_ (fun _ _ _ _=>rfl))))
 · exact A9 c (A2 (KW rfl hi) (Lr))
theorem XY {a b:List (Int)}  :A_ prog 138 [ints a,ints b] (bool (decide (a=b))):=by
 refine fo func138 rfl ⟨rfl,rfl⟩ fun M0 w0=>(Tr.Cr 0 rfl fun Dj=>(Tr.Cr 1 rfl fun Fh=> ?_))
 refine ac ?_
 refine an ?_ ?_<;>intro h1 q1
 have hne:¬a.length=b.length:=by simp_all;omega
 refine a2 ?_
 · refine bool_eq ?_;symm;rw [decide_eq_false_iff_not];rintro rfl;exact hne rfl
 have HB:a.length=b.length:=by simp_all;omega
 refine a2 ?_
 refine Tr.block (Tr.BF [(0,_),(1,_),(12,_)] (Js rfl) (fun k:Nat=>[(13,int ((k:Nat):Int))]) (fun k:Nat=>k≤(a).length∧(a.take k=b.take k)) (fun k:Nat=>(a).length-k) 0 (⟨Nat.zero_le _,rfl⟩) ⟨ke rfl,trivial⟩ ?_)
 rintro k ⟨BN,AL⟩
 refine ac ?_
 refine Tr.seq ?_
 refine Tr.cn rfl ?_ ?_<;>intro h2 q2
 have Ac:k<(a).length:=AU h2
 obtain ⟨x,Aa⟩:=at_ Ac
 obtain ⟨y,hy⟩:=at_ (l:=b) (k:=k) (by omega)
 · repeat' first|(refine bool_eq ?_;symm;rw [decide_eq_false_iff_not];refine HE Aa hy ?_;rintro rfl;simp_all)|exact Fin.AM (k+1) ⟨⟨Ac,E8 Aa hy AL (by simp_all)⟩,by omega⟩ ⟨⟨_,rfl,AK k⟩,ke rfl,ke rfl,ke rfl,trivial⟩|refine co rfl (AA rfl underlying22 CO (vl rfl) (vl rfl) (by omega) (AX Aa)) ?_|refine co rfl (AA rfl underlying22 CO (vl rfl) (vl rfl) (by omega) (AX hy)) ?_|refine ac ?_|(refine Tr.cn rfl ?_ ?_<;>intro h q)
 have A4:k=(a).length:=by have:=AV h2;omega
 subst A4
 refine a3 ?_
 · refine bool_eq ?_;symm;rw [decide_eq_true_eq];exact E9 HB AL
theorem fA {a b:List (List UInt8)}  :A_ prog 131 [Pf a,Pf b] (bool (decide (a=b))):=by
 refine fo func131 rfl ⟨rfl,rfl⟩ fun M0 w0=>(Tr.Cr 0 rfl fun Dj=>(Tr.Cr 1 rfl fun Fh=> ?_))
 refine ac ?_
 refine an ?_ ?_<;>intro h1 q1
 have hne:¬a.length=b.length:=by simp_all;omega
 refine a2 ?_
 · refine bool_eq ?_;symm;rw [decide_eq_false_iff_not];rintro rfl;exact hne rfl
 have HB:a.length=b.length:=by simp_all;omega
 refine a2 ?_
 refine Tr.block (Tr.BF [(0,_),(1,_),(12,_)] (Js rfl) (fun k:Nat=>[(13,int ((k:Nat):Int))]) (fun k:Nat=>k≤(a).length∧(a.take k=b.take k)) (fun k:Nat=>(a).length-k) 0 (⟨Nat.zero_le _,rfl⟩) ⟨ke rfl,trivial⟩ ?_)
 rintro k ⟨BN,AL⟩
 refine ac ?_
 refine Tr.seq ?_
 refine Tr.cn rfl ?_ ?_<;>intro h2 q2
 have Ac:k<(a).length:=AU h2
 obtain ⟨x,Aa⟩:=at_ Ac
 obtain ⟨y,hy⟩:=at_ (l:=b) (k:=k) (by omega)
 · repeat' first|(refine bool_eq ?_;symm;rw [decide_eq_false_iff_not];refine HE Aa hy ?_;rintro rfl;simp_all)|exact Fin.AM (k+1) ⟨⟨Ac,E8 Aa hy AL (by simp_all)⟩,by omega⟩ ⟨⟨_,rfl,AK k⟩,ke rfl,ke rfl,ke rfl,trivial⟩|refine co rfl (AA rfl underlying74 G0 (vl rfl) (vl rfl) (by omega) (AX Aa)) ?_|refine co rfl (AA rfl underlying74 G0 (vl rfl) (vl rfl) (by omega) (AX hy)) ?_|refine ac ?_|(refine Tr.cn rfl ?_ ?_<;>intro h q)
 have A4:k=(a).length:=by have:=AV h2;omega
 subst A4
 refine a3 ?_
 · refine bool_eq ?_;symm;rw [decide_eq_true_eq];exact E9 HB AL
abbrev fB (l:List A5):Pr:=slice 9 (l.map Ah)
theorem aR {a b:FF}  :A_ prog 137 [agg (CZ a),agg (CZ b)] (bool (decide (a=b))):=by
 refine fo func137 rfl ⟨rfl,rfl⟩ fun M0 w0=> ?_
 refine ac ?_
 refine B3 2 3 rfl (Tr.Nw [2,3] [(5,bool (decide (a.Gv=b.Gv∧a.HZ=b.HZ∧a.F3=b.F3∧a.names=b.names)))] (True) ?_ (fun h1=> ?_))
 · repeat' first|exact Fin.AM () (by simp_all) ⟨⟨_,rfl,bool_eq (by simp_all)⟩,ke rfl,ke rfl,trivial⟩|refine cy h rfl (C8 (fA) rfl rfl rfl) ?_|refine ac ?_|(refine Ch.cg rfl rfl rfl ?_ ?_<;>intro h q)
 refine Cg 2 3 5 rfl (Tr.Nw [2,3,5] [(6,bool (decide (a.Lk=b.Lk∧a.Hu=b.Hu∧a.BX=b.BX∧a.Pc=b.Pc∧a.KI=b.KI∧a.Uf=b.Uf∧a.Ug=b.Ug)))] (True) ?_ (fun h5=> ?_))
 · repeat' first|exact Fin.AM () (by simp_all) ⟨⟨_,rfl,bool_eq (by simp_all)⟩,ke rfl,ke rfl,ke rfl,trivial⟩|refine co rfl (HV rfl (vl rfl) (vl rfl)) (cm rfl ?_)|refine cy h rfl (HV rfl (vl rfl) (vl rfl)) ?_|refine cy h rfl (RH rfl (vl rfl) (vl rfl)) ?_|refine ac ?_|(refine Ch.cg rfl rfl rfl ?_ ?_<;>intro h q)
 · repeat' first|(refine bool_eq ?_;cases a;cases b;simp_all [Bool.beq_eq_decide_eq])|refine ac ?_|(refine Ch.cg rfl rfl rfl ?_ ?_<;>intro h q)
theorem aS:Entry Tryz.prog 137:=⟨_,Tryz.func137,rfl,rfl⟩
theorem fC {a b:List FF}  :A_ prog 85 [Gh a,Gh b,O0 prog (fun p:FF×FF=>[agg (CZ p.1),agg (CZ p.2)]) (fun p=>bool (decide (p.1=p.2)))] (bool (decide (a=b))):=by
 refine fo func85 rfl ⟨rfl,rfl⟩ fun M0 w0=>(Tr.Cr 0 rfl fun Dj=>(Tr.Cr 1 rfl fun Fh=> ?_))
 refine ac ?_
 refine an ?_ ?_<;>intro h1 q1
 have hne:¬a.length=b.length:=by simp_all;omega
 refine a2 ?_
 · refine bool_eq ?_;symm;rw [decide_eq_false_iff_not];rintro rfl;exact hne rfl
 have HB:a.length=b.length:=by simp_all;omega
 refine a2 ?_
 refine Tr.block (Tr.BF [(1,_),(2,_),(15,_),(16,_)] (VX rfl) (fun k:Nat=>[(17,int ((k:Nat):Int))]) (fun k:Nat=>k≤(a).length∧(a.take k=b.take k)) (fun k:Nat=>(a).length-k) 0 (⟨Nat.zero_le _,rfl⟩) ⟨ke rfl,trivial⟩ ?_)
 rintro k ⟨BN,AL⟩
 refine ac ?_
 refine Tr.seq ?_
 refine Tr.cn rfl ?_ ?_<;>intro h2 q2
 have Ac:k<(a).length:=AU h2
 obtain ⟨x,Aa⟩:=at_ Ac
 obtain ⟨y,hy⟩:=at_ (l:=b) (k:=k) (by omega)
 refine ac ?_
 refine ao ?_
 refine tp rfl (AA rfl underlying25 CC (vl rfl) (vl rfl) (by omega) (AX Aa)) (tp rfl (AH rfl Dh CC (vl rfl) rfl rfl) ?_)
 refine Tl rfl rfl rfl rfl z131 Gg (fun b1=> ?_)
 refine tm rfl ?_
 refine sf 0 8 ⟨rfl,rfl,rfl⟩ rfl rfl rfl rfl ?_
 refine ao ?_
 refine ao ?_
 refine tp rfl (AA rfl underlying25 CC (vl rfl) (vl rfl) (by omega) (AX hy)) (tp rfl (AH rfl Dh CC (vl rfl) rfl rfl) ?_)
 refine Tl rfl rfl rfl rfl z131 Gg (fun b2=> ?_)
 refine sf 0 9 ⟨rfl,rfl,rfl⟩ rfl rfl rfl rfl ?_
 refine ao ?_
 · repeat' first|(refine bool_eq ?_;symm;rw [decide_eq_false_iff_not];refine HE Aa hy ?_;rintro rfl;simp_all)|exact Fin.AM (k+1) ⟨⟨Ac,E8 Aa hy AL (by simp_all)⟩,by omega⟩ ⟨⟨_,rfl,AK k⟩,ke rfl,ke rfl,ke rfl,ke rfl,trivial⟩|refine co rfl (EA (x,y) rfl (vl rfl) ⟨ke rfl,ke rfl,trivial⟩) ?_|refine ac ?_|(refine Tr.cn rfl ?_ ?_<;>intro h q)
 have A4:k=(a).length:=by have:=AV h2;omega
 subst A4
 refine a3 ?_
 · refine bool_eq ?_;symm;rw [decide_eq_true_eq];exact E9 HB AL
theorem lV {a b:Du}  :A_ prog 136 [agg (Az a),agg (Az b)] (bool (decide (a=b))):=by
 refine fo func136 rfl ⟨rfl,rfl⟩ fun M0 w0=> ?_
 · repeat' first|(refine bool_eq ?_;cases a;cases b;simp_all [Bool.beq_eq_decide_eq])|refine co rfl (HV rfl (vl rfl) (vl rfl)) (cm rfl ?_)|refine cy h rfl (Ae rfl (fC) ⟨ke rfl,ke rfl,⟨_,rfl,DG (dom:=fun p:FF×FF=>[agg (CZ p.1),agg (CZ p.2)]) (res:=fun p=>bool (decide (p.1=p.2))) aS (fun p=>aR (a:=p.1) (b:=p.2))⟩,trivial⟩) ?_|refine ac ?_|(refine Ch.cg rfl rfl rfl ?_ ?_<;>intro h q)
theorem lW:Entry Tryz.prog 136:=⟨_,Tryz.func136,rfl,rfl⟩
theorem fD {a b:List Du}  :A_ prog 139 [Eu a,Eu b,O0 prog (fun p:Du×Du=>[agg (Az p.1),agg (Az p.2)]) (fun p=>bool (decide (p.1=p.2)))] (bool (decide (a=b))):=by
 refine fo func139 rfl ⟨rfl,rfl⟩ fun M0 w0=>(Tr.Cr 0 rfl fun Dj=>(Tr.Cr 1 rfl fun Fh=> ?_))
 refine ac ?_
 refine an ?_ ?_<;>intro h1 q1
 have hne:¬a.length=b.length:=by simp_all;omega
 refine a2 ?_
 · refine bool_eq ?_;symm;rw [decide_eq_false_iff_not];rintro rfl;exact hne rfl
 have HB:a.length=b.length:=by simp_all;omega
 refine a2 ?_
 refine Tr.block (Tr.BF [(1,_),(2,_),(15,_),(16,_)] (VX rfl) (fun k:Nat=>[(17,int ((k:Nat):Int))]) (fun k:Nat=>k≤(a).length∧(a.take k=b.take k)) (fun k:Nat=>(a).length-k) 0 (⟨Nat.zero_le _,rfl⟩) ⟨ke rfl,trivial⟩ ?_)
 rintro k ⟨BN,AL⟩
 refine ac ?_
 refine Tr.seq ?_
 refine Tr.cn rfl ?_ ?_<;>intro h2 q2
 have Ac:k<(a).length:=AU h2
 obtain ⟨x,Aa⟩:=at_ Ac
 obtain ⟨y,hy⟩:=at_ (l:=b) (k:=k) (by omega)
 refine ac ?_
 refine ao ?_
 refine tp rfl (AA rfl underlying30 BR (vl rfl) (vl rfl) (by omega) (AX Aa)) (tp rfl (AH rfl E2 BR (vl rfl) rfl rfl) ?_)
 refine Tl rfl rfl rfl rfl HP HO (fun b1=> ?_)
 refine tm rfl ?_
 refine sf 0 8 ⟨rfl,rfl,rfl⟩ rfl rfl rfl rfl ?_
 refine ao ?_
 refine ao ?_
 refine tp rfl (AA rfl underlying30 BR (vl rfl) (vl rfl) (by omega) (AX hy)) (tp rfl (AH rfl E2 BR (vl rfl) rfl rfl) ?_)
 refine Tl rfl rfl rfl rfl HP HO (fun b2=> ?_)
 refine sf 0 9 ⟨rfl,rfl,rfl⟩ rfl rfl rfl rfl ?_
 refine ao ?_
 · repeat' first|(refine bool_eq ?_;symm;rw [decide_eq_false_iff_not];refine HE Aa hy ?_;rintro rfl;simp_all)|exact Fin.AM (k+1) ⟨⟨Ac,E8 Aa hy AL (by simp_all)⟩,by omega⟩ ⟨⟨_,rfl,AK k⟩,ke rfl,ke rfl,ke rfl,ke rfl,trivial⟩|refine co rfl (EA (x,y) rfl (vl rfl) ⟨ke rfl,ke rfl,trivial⟩) ?_|refine ac ?_|(refine Tr.cn rfl ?_ ?_<;>intro h q)
 have A4:k=(a).length:=by have:=AV h2;omega
 subst A4
 refine a3 ?_
 · refine bool_eq ?_;symm;rw [decide_eq_true_eq];exact E9 HB AL
theorem aT {a b:A5}  :A_ prog 91 [agg (Ah a),agg (Ah b)] (bool (decide (a=b))):=by
 refine fo func91 rfl ⟨rfl,rfl⟩ fun M0 w0=> ?_
 refine a2 ?_
 refine Cg 2 3 5 rfl (Tr.Nw [2,3,5] [(6,bool (decide (a.AJ=b.AJ∧a.anchors=b.anchors∧a.hashes=b.hashes)))] (True) ?_ (fun h1=> ?_))
 · repeat' first|exact Fin.AM () (by simp_all) ⟨⟨_,rfl,bool_eq (by simp_all)⟩,ke rfl,ke rfl,ke rfl,trivial⟩|refine co rfl (C8 (XY) rfl rfl rfl) (cm rfl ?_)|refine cy h rfl (C8 (XY) rfl rfl rfl) ?_|refine ac ?_|(refine Ch.cg rfl rfl rfl ?_ ?_<;>intro h q)
 · repeat' first|(refine bool_eq ?_;cases a;cases b;simp_all [Bool.beq_eq_decide_eq])|refine cy h rfl (Ae rfl (fD) ⟨ke rfl,ke rfl,⟨_,rfl,DG (dom:=fun p:Du×Du=>[agg (Az p.1),agg (Az p.2)]) (res:=fun p=>bool (decide (p.1=p.2))) lW (fun p=>lV (a:=p.1) (b:=p.2))⟩,trivial⟩) ?_|refine ac ?_|(refine Ch.cg rfl rfl rfl ?_ ?_<;>intro h q)
theorem aU:Entry Tryz.prog 91:=⟨_,Tryz.func91,rfl,rfl⟩
theorem fE {a b:List A5}  :A_ prog 90 [fB a,fB b,O0 prog (fun p:A5×A5=>[agg (Ah p.1),agg (Ah p.2)]) (fun p=>bool (decide (p.1=p.2)))] (bool (decide (a=b))):=by
 refine fo func90 rfl ⟨rfl,rfl⟩ fun M0 w0=>(Tr.Cr 0 rfl fun Dj=>(Tr.Cr 1 rfl fun Fh=> ?_))
 refine ac ?_
 refine an ?_ ?_<;>intro h1 q1
 have hne:¬a.length=b.length:=by simp_all;omega
 refine a2 ?_
 · refine bool_eq ?_;symm;rw [decide_eq_false_iff_not];rintro rfl;exact hne rfl
 have HB:a.length=b.length:=by simp_all;omega
 refine a2 ?_
 refine Tr.block (Tr.BF [(1,_),(2,_),(15,_),(16,_)] (VX rfl) (fun k:Nat=>[(17,int ((k:Nat):Int))]) (fun k:Nat=>k≤(a).length∧(a.take k=b.take k)) (fun k:Nat=>(a).length-k) 0 (⟨Nat.zero_le _,rfl⟩) ⟨ke rfl,trivial⟩ ?_)
 rintro k ⟨BN,AL⟩
 refine ac ?_
 refine Tr.seq ?_
 refine Tr.cn rfl ?_ ?_<;>intro h2 q2
 have Ac:k<(a).length:=AU h2
 obtain ⟨x,Aa⟩:=at_ Ac
 obtain ⟨y,hy⟩:=at_ (l:=b) (k:=k) (by omega)
 refine ac ?_
 refine ao ?_
 refine tp rfl (AA rfl underlying37 A8 (vl rfl) (vl rfl) (by omega) (AX Aa)) (tp rfl (AH rfl BM A8 (vl rfl) rfl rfl) ?_)
 refine Tl rfl rfl rfl rfl z32 Df (fun b1=> ?_)
 refine tm rfl ?_
 refine sf 0 8 ⟨rfl,rfl,rfl⟩ rfl rfl rfl rfl ?_
 refine ao ?_
 refine ao ?_
 refine tp rfl (AA rfl underlying37 A8 (vl rfl) (vl rfl) (by omega) (AX hy)) (tp rfl (AH rfl BM A8 (vl rfl) rfl rfl) ?_)
 refine Tl rfl rfl rfl rfl z32 Df (fun b2=> ?_)
 refine sf 0 9 ⟨rfl,rfl,rfl⟩ rfl rfl rfl rfl ?_
 refine ao ?_
 · repeat' first|(refine bool_eq ?_;symm;rw [decide_eq_false_iff_not];refine HE Aa hy ?_;rintro rfl;simp_all)|exact Fin.AM (k+1) ⟨⟨Ac,E8 Aa hy AL (by simp_all)⟩,by omega⟩ ⟨⟨_,rfl,AK k⟩,ke rfl,ke rfl,ke rfl,ke rfl,trivial⟩|refine co rfl (EA (x,y) rfl (vl rfl) ⟨ke rfl,ke rfl,trivial⟩) ?_|refine ac ?_|(refine Tr.cn rfl ?_ ?_<;>intro h q)
 have A4:k=(a).length:=by have:=AV h2;omega
 subst A4
 refine a3 ?_
 · refine bool_eq ?_;symm;rw [decide_eq_true_eq];exact E9 HB AL
structure iI where
 ep:A5
 cI:List A5
deriving DecidableEq
structure iI.small (h:iI):Prop where
 ep:h.ep.small
 len:h.cI.length≤1000000
 cI:∀e∈h.cI,e.small
structure ny where
 src:Int
 host:List UInt8
 machine:Int
 day:Int
 sP:Int
 kind:Int
 lX:List UInt8
 Bp:Int
 bits:Int
 num:Int
 text:List UInt8
structure ny.fits (f:ny):Prop where
 host:f.host.length≤maxLen
 lX:f.lX.length≤maxLen
 text:f.text.length≤maxLen
instance:Inhabited ny:=⟨⟨0,[],0,0,0,0,[],0,0,0,[]⟩⟩
structure XZ {α:Type} (c:α→α→Int):Prop where
 swap:∀x y,c y x= -c x y
 tr:∀x y z,c x y<0→c y z<0→c x z<0
 eq:∀x y z,c x y=0→c x z=c y z
theorem XZ.eqr {α:Type} {c:α→α→Int} (h:XZ c) (x y z:α) (e:c y z=0):c x y=c x z:=by
 have h1:=h.eq y z x e
 have h2:=h.swap x y
 have h3:=h.swap x z
 omega
theorem XZ.cons {α:Type} {c d:α→α→Int} (h:XZ c) (k:XZ d):XZ (fun x y=>if c x y=0 then d x y else c x y) where
 swap x y:=by
  have h1:=h.swap x y
  have h2:=k.swap x y
  show (if c y x=0 then d y x else c y x)= -(if c x y=0 then d x y else c x y)
  by_cases e:c x y=0
  · rw [if_pos e,if_pos (by omega)];exact h2
  · rw [if_neg e,if_neg (by omega)];exact h1
 tr x y z h1 h2:=by
  show (if c x z=0 then d x z else c x z)<0
  have h1:(if c x y=0 then d x y else c x y)<0:=h1
  have h2:(if c y z=0 then d y z else c y z)<0:=h2
  by_cases e1:c x y=0
  ·
   rw [if_pos e1] at h1
   have e3:=h.eq x y z e1
   by_cases e2:c y z=0
   · rw [if_pos e2] at h2;rw [if_pos (by omega)];exact k.tr x y z h1 h2
   · rw [if_neg e2] at h2;rw [if_neg (by omega)];omega
  ·
   rw [if_neg e1] at h1
   by_cases e2:c y z=0
   ·
    have e3:=h.eqr x y z e2
    rw [if_neg (by omega)];omega
   ·
    rw [if_neg e2] at h2
    have:=h.tr x y z h1 h2
    rw [if_neg (by omega)];exact this
 eq x y z h1:=by
  have h1:(if c x y=0 then d x y else c x y)=0:=h1
  show (if c x z=0 then d x z else c x z)=(if c y z=0 then d y z else c y z)
  by_cases e1:c x y=0
  ·
   rw [if_pos e1] at h1
   rw [h.eq x y z e1,k.eq x y z h1]
  · rw [if_neg e1] at h1;exact absurd h1 e1
theorem XZ.nil {α:Type}:XZ (fun _ _:α=>0):=⟨fun _ _=>rfl,fun _ _ _ h=>absurd h (by decide),fun _ _ _ _=>rfl⟩
theorem XZ.on {α β:Type} {c:β→β→Int} (f:α→β) (h:XZ c):XZ (fun x y=>c (f x) (f y)):=⟨fun x y=>h.swap (f x) (f y),fun x y z=>h.tr (f x) (f y) (f z),fun x y z=>h.eq (f x) (f y) (f z)⟩
section
variable {β:Type} [DecidableEq β]
end
deriving instance DecidableEq for ny
theorem hs0 {e:A5} (h:e.small):(⟨e,[]⟩:iI).small:=⟨h,by show 0≤_;omega,fun x hx=>by cases hx⟩
structure Sr (e x:A5):Prop where
 least:e.least=x.least
 most:e.most=x.most
 AJ:∀n,n∈e.AJ↔n∈x.AJ
 ids:∀a b k,(∃y∈e.ids,y.Bp=a∧y.bits=b∧y.BX=k)↔∃y∈x.ids,y.Bp=a∧y.bits=b∧y.BX=k
 anchors:∀n,n∈e.anchors↔n∈x.anchors
 hashes:∀n,n∈e.hashes↔n∈x.hashes
theorem Sr.symm {e x:A5} (h:Sr e x):Sr x e:=⟨h.least.symm,h.most.symm,fun n=>(h.AJ n).symm,fun a b k=>(h.ids a b k).symm,fun n=>(h.anchors n).symm,fun n=>(h.hashes n).symm⟩
structure lY (h:iI) (n:Nat):Prop where
 ep:h.ep.sz n
 len:h.cI.length≤24
 cI:∀e∈h.cI,e.sz n
theorem lY.small {h:iI} {n:Nat} (k:lY h n) (hn:n≤1000000):h.small:=⟨k.ep.small hn,by have:=k.len;omega,fun e he=>(k.cI e he).small hn⟩
theorem lY.le {h:iI} {n m:Nat} (k:lY h n) (hn:n≤m):lY h m:=⟨k.ep.le hn,k.len,fun e he=>(k.cI e he).le hn⟩
def Xa (n:Nat):List Pr:=[Cp.ex fun s:List UInt8=>fact (s.length≤maxLen) (str s),Cp.ex fun i:Int=>int i,Cp.ex fun i:Int=>int i,Cp.ex fun l:List Int=>fact (l.length≤n) (ints l),Cp.ex fun b:Bool=>bool b,
 Cp.ex fun l:List Du=>fact (l.length≤n∧∀x∈l,x.fits∧x.small) (Eu l),Cp.ex fun l:List Int=>fact (l.length≤n) (ints l),Cp.ex fun l:List Int=>fact (l.length≤n) (ints l),Cp.ex fun b:Bool=>bool b]
theorem aV {e:A5} {n:Nat} (h:e.sz n):Pr.le (agg (Ah e)) (agg (Xa n)):=
 Ab ⟨A9 e.name (A2 h.name (Pr.le_refl _)),A9 e.least (Pr.le_refl _),A9 e.most (Pr.le_refl _),A9 e.AJ (A2 h.AJ (Pr.le_refl _)),A9 e.own (Pr.le_refl _),A9 e.ids (A2 ⟨h.I0,h.ids⟩ (Pr.le_refl _)),A9 e.anchors (A2 h.anchors (Pr.le_refl _)),A9 e.hashes (A2 h.hashes (Pr.le_refl _)),A9 e.Fq (Pr.le_refl _),trivial⟩
structure QL where
 Bp:Int
 bits:Int
 day:Int
 deriving DecidableEq
abbrev rB (x:QL):List Pr:=[int x.Bp,int x.bits,int x.day]
abbrev Ss (l:List QL):Pr:=slice 3 (l.map rB)
structure Im where
 name:List UInt8
 kind:Int
 F5:Int
 links:List QL
 Jm:Int
 deriving DecidableEq
abbrev EE (x:Im):List Pr:=[str x.name,int x.kind,int x.F5,Ss x.links,int x.Jm]
abbrev GY (l:List Im):Pr:=slice 5 (l.map EE)
structure Jv where
 client:Int
 server:Int
 deriving DecidableEq
abbrev aW (x:Jv):List Pr:=[int x.client,int x.server]
abbrev EF (l:List Jv):Pr:=slice 2 (l.map aW)
abbrev EG:QL:=⟨0,0,0⟩
abbrev Fj:Jv:=⟨0,0⟩
def Dm (l:List QL) (i:Nat):Bool:=decide (Bw (l[i]?.getD EG).Bp (l[i]?.getD EG).bits>0)&&decide (0≤(l[i]?.getD EG).day)&&decide ((l[i]?.getD EG).day≤40000)&&(decide (i=0)||decide ((l[i-1]?.getD EG).day<(l[i]?.getD EG).day))
def Fx (x:Im):Bool:=(named x.name&&decide (x.kind=1∨x.kind=2)&&decide (1≤x.F5)&&decide (x.F5≤4)&&decide (1≤x.links.length)&&decide (x.links.length≤8))&&allI (Dm x.links) x.links.length&&(decide ((x.links[0]?.getD EG).day≤x.Jm)&&decide (x.Jm≤40000))
structure lZ (x:Im):Prop where
 name:named x.name=true
 kind:x.kind=1∨x.kind=2
 p1:1≤x.F5
 p4:x.F5≤4
 l1:1≤x.links.length
 l8:x.links.length≤8
 aX:∀j,j<x.links.length→Dm x.links j=true
 u0:(x.links[0]?.getD EG).day≤x.Jm
 u1:x.Jm≤40000
theorem Ba {x:Im}:Fx x=true↔lZ x:=by
 unfold Fx
 simp only [Bool.and_eq_true,decide_eq_true_eq,Bo]
 exact ⟨fun ⟨⟨⟨⟨⟨⟨⟨h1,h2⟩,h3⟩,h4⟩,h5⟩,h6⟩,h7⟩,h8,h9⟩=>⟨h1,h2,h3,h4,h5,h6,h7,h8,h9⟩,fun h=>⟨⟨⟨⟨⟨⟨⟨h.name,h.kind⟩,h.p1⟩,h.p4⟩,h.l1⟩,h.l8⟩,h.aX⟩,h.u0,h.u1⟩⟩
def Bs (n:Nat) (l:List Jv) (i:Nat):Bool:=(decide (0≤(l[i]?.getD Fj).client∧(l[i]?.getD Fj).client<n)&&decide (0≤(l[i]?.getD Fj).server∧(l[i]?.getD Fj).server<n)&&decide ((l[i]?.getD Fj).client≠(l[i]?.getD Fj).server))&&(decide (i=0)||decide ((l[i-1]?.getD Fj).client<(l[i]?.getD Fj).client∨((l[i-1]?.getD Fj).client=(l[i]?.getD Fj).client∧(l[i-1]?.getD Fj).server<(l[i]?.getD Fj).server)))
def FT (n:Nat) (l:List Jv):Bool:=allI (Bs n l) l.length&&decide (l.length≤40)
theorem VF {x:Im} (hx:x.name.length≤maxLen):A_ prog 134 [agg (EE x)] (int (if Fx x then 0 else 30)):=by
 refine fo func134 rfl ⟨rfl,rfl⟩ fun M0 w0=> ?_
 refine ac ?_
 refine Es 1 rfl (Tr.Nw [1] [(3,bool (decide (x.kind=1∨x.kind=2)))] (True) ?_ (fun h1=> ?_))
 refine ac ?_
 refine Ch.cs 9 rfl ?_ ?_<;>intro h2 q2
 refine ac ?_
 exact Fin.AM () trivial ⟨⟨_,rfl,bool_eq (by simp_all [Bool.beq_eq_decide_eq])⟩,ke rfl,trivial⟩
 refine ac ?_
 exact Fin.AM () trivial ⟨⟨_,rfl,bool_eq (by simp_all [Bool.beq_eq_decide_eq])⟩,ke rfl,trivial⟩
 refine B3 1 3 rfl (Tr.Nw [1] [] ((named x.name=true∧(x.kind=1∨x.kind=2)∧1≤x.F5∧x.F5≤4)∧1≤x.links.length∧x.links.length≤8) ?_ (fun hpre=> ?_))
 refine ac ?_
 refine co rfl (B1 (L5 hx) rfl rfl) ?_
 refine ac ?_
 refine Ch.cs 18 rfl ?_ ?_<;>intro h4 q4
 refine ac ?_
 refine B3 1 43 rfl ?_
 refine ac ?_
 refine ac ?_
 · refine int_eq (if_neg (fun hv=> ?_)).symm;have ok:=Ba.1 hv;have o1:=ok.name;have o2:=ok.kind;have o3:=ok.p1;have o4:=ok.p4;have o5:=ok.l1;have o6:=ok.l8;have o7:=ok.u0;have o8:=ok.u1;(simp_all)
 refine ac ?_
 refine Ch.cs 22 rfl ?_ ?_<;>intro h5 q5
 refine ac ?_
 refine B3 1 43 rfl ?_
 refine ac ?_
 refine ac ?_
 · refine int_eq (if_neg (fun hv=> ?_)).symm;have ok:=Ba.1 hv;have o1:=ok.name;have o2:=ok.kind;have o3:=ok.p1;have o4:=ok.p4;have o5:=ok.l1;have o6:=ok.l8;have o7:=ok.u0;have o8:=ok.u1;(omega)
 refine ac ?_
 refine Ch.cs 27 rfl ?_ ?_<;>intro h6 q6
 refine ac ?_
 refine B3 1 43 rfl ?_
 refine ac ?_
 refine ac ?_
 · refine int_eq (if_neg (fun hv=> ?_)).symm;have ok:=Ba.1 hv;have o1:=ok.name;have o2:=ok.kind;have o3:=ok.p1;have o4:=ok.p4;have o5:=ok.l1;have o6:=ok.l8;have o7:=ok.u0;have o8:=ok.u1;(omega)
 refine ac ?_
 refine Ch.cs 32 rfl ?_ ?_<;>intro h7 q7
 refine ac ?_
 refine B3 1 43 rfl ?_
 refine ac ?_
 refine ac ?_
 · refine int_eq (if_neg (fun hv=> ?_)).symm;have ok:=Ba.1 hv;have o1:=ok.name;have o2:=ok.kind;have o3:=ok.p1;have o4:=ok.p4;have o5:=ok.l1;have o6:=ok.l8;have o7:=ok.u0;have o8:=ok.u1;(omega)
 refine ac ?_
 refine Ch.cs 38 rfl ?_ ?_<;>intro h8 q8
 refine ac ?_
 refine B3 1 43 rfl ?_
 refine ac ?_
 refine ac ?_
 · refine int_eq (if_neg (fun hv=> ?_)).symm;have ok:=Ba.1 hv;have o1:=ok.name;have o2:=ok.kind;have o3:=ok.p1;have o4:=ok.p4;have o5:=ok.l1;have o6:=ok.l8;have o7:=ok.u0;have o8:=ok.u1;(omega)
 refine ac ?_
 refine B3 1 43 rfl ?_
 refine Tr.cn rfl ?_ ?_<;>intro h9 q9
 refine ac ?_
 refine ac ?_
 · refine int_eq (if_neg (fun hv=> ?_)).symm;have ok:=Ba.1 hv;have o1:=ok.name;have o2:=ok.kind;have o3:=ok.p1;have o4:=ok.p4;have o5:=ok.l1;have o6:=ok.l8;have o7:=ok.u0;have o8:=ok.u1;(omega)
 refine Tr.skip (Fin.AM () ⟨⟨by simp_all,by simp_all,by omega,by omega⟩,by omega,by omega⟩ ⟨ke rfl,trivial⟩)
 obtain ⟨⟨hq1,QS,ZD,hq4⟩,hq5,hq6⟩:=hpre
 obtain ⟨c0,hc0⟩:=at_ (l:=x.links) (k:=0) (by omega)
 have YA:=Bi (d:=EG) hc0
 refine ac ?_
 refine Tr.block (Tr.BF [(1,_),(45,_),(46,_)] (Js rfl) (fun k:Nat=>[(47,int ((k:Nat):Int))]) (fun k:Nat=>k≤(x.links).length∧(∀j,j<k→Dm x.links j=true)) (fun k:Nat=>(x.links).length-k) 0 (⟨Nat.zero_le _,fun j hj=>absurd hj (by omega)⟩) ⟨ke rfl,trivial⟩ ?_)
 rintro k ⟨BN,AL⟩
 refine ac ?_
 refine Tr.seq ?_
 refine Tr.cn rfl ?_ ?_<;>intro h10 PZ
 have Ac:k<(x.links).length:=AU h10
 obtain ⟨c,Aa⟩:=at_ Ac
 have hg:=Bi (d:=EG) Aa
 refine ac ?_
 refine ao ?_
 refine tp rfl (AA rfl underlying105 EP (vl rfl) (vl rfl) (by omega) (AX Aa)) (tp rfl (AH rfl PJ EP (vl rfl) rfl rfl) ?_)
 refine Tl rfl rfl rfl rfl z152 V6 (fun b1=> ?_)
 refine tm rfl ?_
 refine sf 0 5 ⟨rfl,rfl,rfl⟩ rfl rfl rfl rfl ?_
 refine ao ?_
 refine ac ?_
 refine co rfl (B1 (Pa) rfl rfl) ?_
 refine ac ?_
 refine Ch.cs 56 rfl ?_ ?_<;>intro h11 Qx
 refine ac ?_
 refine Ej 1 45 46 47 81 rfl ?_
 refine ac ?_
 refine ac ?_
 · refine int_eq (if_neg (fun hv=> ?_)).symm;have ok:=Ba.1 hv;have o1:=ok.name;have o2:=ok.kind;have o3:=ok.p1;have o4:=ok.p4;have o5:=ok.l1;have o6:=ok.l8;have o7:=ok.u0;have o8:=ok.u1;(have h_:=ok.aX k (by omega);unfold Dm at h_;rw [hg] at h_;simp_all;omega)
 refine ac ?_
 refine Ch.cs 61 rfl ?_ ?_<;>intro h12 Sb
 refine ac ?_
 refine Ej 1 45 46 47 81 rfl ?_
 refine ac ?_
 refine ac ?_
 · refine int_eq (if_neg (fun hv=> ?_)).symm;have ok:=Ba.1 hv;have o1:=ok.name;have o2:=ok.kind;have o3:=ok.p1;have o4:=ok.p4;have o5:=ok.l1;have o6:=ok.l8;have o7:=ok.u0;have o8:=ok.u1;(have h_:=ok.aX k (by omega);unfold Dm at h_;rw [hg] at h_;simp_all;omega)
 refine ac ?_
 refine Ch.cs 66 rfl ?_ ?_<;>intro H8 Tp
 refine ac ?_
 refine Ej 1 45 46 47 81 rfl ?_
 refine ac ?_
 refine ac ?_
 · refine int_eq (if_neg (fun hv=> ?_)).symm;have ok:=Ba.1 hv;have o1:=ok.name;have o2:=ok.kind;have o3:=ok.p1;have o4:=ok.p4;have o5:=ok.l1;have o6:=ok.l8;have o7:=ok.u0;have o8:=ok.u1;(have h_:=ok.aX k (by omega);unfold Dm at h_;rw [hg] at h_;simp_all;omega)
 refine ac ?_
 refine Ch.cs 69 rfl ?_ ?_<;>intro Jt W9
 have Qz:0<k:=by simpa using Jt
 obtain ⟨y,hy⟩:=at_ (l:=x.links) (k:=k-1) (by omega)
 have IC:=Bi (d:=EG) hy
 refine ac ?_
 refine cy Jt rfl (AA rfl underlying105 EP (vl rfl) (vl rfl) (by omega) (by rw [show ((k:Nat):Int)-1=((k-1:Nat):Int) by omega];exact AX hy)) ?_
 refine ac ?_
 refine Ej 1 45 46 47 81 rfl ?_
 refine Tr.cn rfl ?_ ?_<;>intro N7 YG
 refine ac ?_
 refine ac ?_
 · refine int_eq (if_neg (fun hv=> ?_)).symm;have ok:=Ba.1 hv;have o1:=ok.name;have o2:=ok.kind;have o3:=ok.p1;have o4:=ok.p4;have o5:=ok.l1;have o6:=ok.l8;have o7:=ok.u0;have o8:=ok.u1;(have h_:=ok.aX k (by omega);unfold Dm at h_;rw [hg,IC] at h_;simp_all;omega)
 refine ac ?_
 refine ac ?_
 exact Fin.AM (k+1) ⟨⟨Ac,Bq AL (by unfold Dm;rw [hg,IC];simp_all)⟩,by omega⟩ ⟨⟨_,rfl,AK k⟩,ke rfl,ke rfl,ke rfl,trivial⟩
 have H_:¬0<k:=by simpa using Jt
 refine ac ?_
 refine Ej 1 45 46 47 81 rfl ?_
 refine ac ?_
 refine ac ?_
 exact Fin.AM (k+1) ⟨⟨Ac,Bq AL (by unfold Dm;rw [hg];simp_all)⟩,by omega⟩ ⟨⟨_,rfl,AK k⟩,ke rfl,ke rfl,ke rfl,trivial⟩
 have A4:k=(x.links).length:=by have:=AV h10;omega
 subst A4
 refine ac ?_
 refine ac ?_
 refine co rfl (AA rfl underlying105 EP (vl rfl) (vl rfl) (by omega) (AX (k:=0) hc0)) ?_
 refine ac ?_
 refine Ch.cs 91 rfl ?_ ?_<;>intro h16 Z7
 refine ac ?_
 refine Es 95 rfl ?_
 refine ac ?_
 refine ac ?_
 · refine int_eq (if_neg (fun hv=> ?_)).symm;have ok:=Ba.1 hv;have o1:=ok.name;have o2:=ok.kind;have o3:=ok.p1;have o4:=ok.p4;have o5:=ok.l1;have o6:=ok.l8;have o7:=ok.u0;have o8:=ok.u1;(simp_all;omega)
 refine ac ?_
 refine Es 95 rfl ?_
 refine Tr.cn rfl ?_ ?_<;>intro NR YF
 refine ac ?_
 refine ac ?_
 · refine int_eq (if_neg (fun hv=> ?_)).symm;have ok:=Ba.1 hv;have o1:=ok.name;have o2:=ok.kind;have o3:=ok.p1;have o4:=ok.p4;have o5:=ok.l1;have o6:=ok.l8;have o7:=ok.u0;have o8:=ok.u1;(omega)
 refine ac ?_
 refine ac ?_
 refine ac ?_
 · refine int_eq (if_pos (Ba.2 ⟨hq1,QS,ZD,hq4,hq5,hq6,AL,by rw [YA];omega,by omega⟩)).symm
theorem Su {x:Im}  :A_ prog 141 [agg (EE x)] (int (if Fx x then 0 else 30)):=by
 refine fo func141 rfl ⟨rfl,rfl⟩ fun M0 w0=> ?_
 refine ac ?_
 refine Es 1 rfl (Tr.Nw [1] [] ((named x.name=true∧(x.kind=1∨x.kind=2)∧1≤x.F5∧x.F5≤4)∧1≤x.links.length∧x.links.length≤8∧(x.links[0]?.getD EG).day≤x.Jm∧x.Jm≤40000) ?_ (fun hpre=> ?_))
 refine ac ?_
 refine co rfl (B1 (F0) rfl rfl) ?_
 refine ag ?_ ?_<;>intro h2 q2
 refine ac ?_
 refine B3 1 54 rfl ?_
 refine a2 ?_
 · refine int_eq (if_neg (fun hv=> ?_)).symm;have ok:=Ba.1 hv;have o1:=ok.name;have o2:=ok.kind;have o3:=ok.p1;have o4:=ok.p4;have o5:=ok.l1;have o6:=ok.l8;have o7:=ok.u0;have o8:=ok.u1;(simp_all)
 refine ag ?_ ?_<;>intro h3 q3
 refine ag ?_ ?_<;>intro h4 q4
 refine ac ?_
 refine B3 1 54 rfl ?_
 refine a2 ?_
 · refine int_eq (if_neg (fun hv=> ?_)).symm;have ok:=Ba.1 hv;have o1:=ok.name;have o2:=ok.kind;have o3:=ok.p1;have o4:=ok.p4;have o5:=ok.l1;have o6:=ok.l8;have o7:=ok.u0;have o8:=ok.u1;(omega)
 refine ag ?_ ?_<;>intro h5 q5
 refine ac ?_
 refine B3 1 54 rfl ?_
 refine a2 ?_
 · refine int_eq (if_neg (fun hv=> ?_)).symm;have ok:=Ba.1 hv;have o1:=ok.name;have o2:=ok.kind;have o3:=ok.p1;have o4:=ok.p4;have o5:=ok.l1;have o6:=ok.l8;have o7:=ok.u0;have o8:=ok.u1;(omega)
 refine ag ?_ ?_<;>intro h6 q6
 refine ac ?_
 refine B3 1 54 rfl ?_
 refine a2 ?_
 · refine int_eq (if_neg (fun hv=> ?_)).symm;have ok:=Ba.1 hv;have o1:=ok.name;have o2:=ok.kind;have o3:=ok.p1;have o4:=ok.p4;have o5:=ok.l1;have o6:=ok.l8;have o7:=ok.u0;have o8:=ok.u1;(omega)
 refine ag ?_ ?_<;>intro h7 q7
 refine ac ?_
 refine B3 1 54 rfl ?_
 refine a2 ?_
 · refine int_eq (if_neg (fun hv=> ?_)).symm;have ok:=Ba.1 hv;have o1:=ok.name;have o2:=ok.kind;have o3:=ok.p1;have o4:=ok.p4;have o5:=ok.l1;have o6:=ok.l8;have o7:=ok.u0;have o8:=ok.u1;(omega)
 refine ag ?_ ?_<;>intro h8 q8
 refine ac ?_
 refine B3 1 54 rfl ?_
 refine a2 ?_
 · refine int_eq (if_neg (fun hv=> ?_)).symm;have ok:=Ba.1 hv;have o1:=ok.name;have o2:=ok.kind;have o3:=ok.p1;have o4:=ok.p4;have o5:=ok.l1;have o6:=ok.l8;have o7:=ok.u0;have o8:=ok.u1;(omega)
 refine ag ?_ ?_<;>intro h9 q9
 refine ac ?_
 refine B3 1 54 rfl ?_
 refine a2 ?_
 · refine int_eq (if_neg (fun hv=> ?_)).symm;have ok:=Ba.1 hv;have o1:=ok.name;have o2:=ok.kind;have o3:=ok.p1;have o4:=ok.p4;have o5:=ok.l1;have o6:=ok.l8;have o7:=ok.u0;have o8:=ok.u1;(omega)
 obtain ⟨c0,hc0⟩:=at_ (l:=x.links) (k:=0) (by omega)
 have YA:=Bi (d:=EG) hc0
 refine ac ?_
 refine cy h9 rfl (AA rfl underlying105 EP (vl rfl) (vl rfl) (by omega) (AX (k:=0) hc0)) ?_
 refine ac ?_
 refine B3 1 54 rfl ?_
 refine Tr.cn rfl ?_ ?_<;>intro h10 PZ
 refine a2 ?_
 · refine int_eq (if_neg (fun hv=> ?_)).symm;have ok:=Ba.1 hv;have o1:=ok.name;have o2:=ok.kind;have o3:=ok.p1;have o4:=ok.p4;have o5:=ok.l1;have o6:=ok.l8;have o7:=ok.u0;have o8:=ok.u1;(simp_all;omega)
 refine Tr.skip ?_
 exact Fin.AM () ⟨⟨by simp_all,by omega,by omega,by omega⟩,by omega,by omega,by rw [YA];omega,by omega⟩ ⟨ke rfl,trivial⟩
 refine ag ?_ ?_<;>intro h11 Qx
 refine ac ?_
 refine B3 1 54 rfl ?_
 refine a2 ?_
 · refine int_eq (if_neg (fun hv=> ?_)).symm;have ok:=Ba.1 hv;have o1:=ok.name;have o2:=ok.kind;have o3:=ok.p1;have o4:=ok.p4;have o5:=ok.l1;have o6:=ok.l8;have o7:=ok.u0;have o8:=ok.u1;(omega)
 refine ag ?_ ?_<;>intro h12 Sb
 refine ac ?_
 refine B3 1 54 rfl ?_
 refine a2 ?_
 · refine int_eq (if_neg (fun hv=> ?_)).symm;have ok:=Ba.1 hv;have o1:=ok.name;have o2:=ok.kind;have o3:=ok.p1;have o4:=ok.p4;have o5:=ok.l1;have o6:=ok.l8;have o7:=ok.u0;have o8:=ok.u1;(omega)
 refine ag ?_ ?_<;>intro H8 Tp
 refine ac ?_
 refine B3 1 54 rfl ?_
 refine a2 ?_
 · refine int_eq (if_neg (fun hv=> ?_)).symm;have ok:=Ba.1 hv;have o1:=ok.name;have o2:=ok.kind;have o3:=ok.p1;have o4:=ok.p4;have o5:=ok.l1;have o6:=ok.l8;have o7:=ok.u0;have o8:=ok.u1;(omega)
 refine ag ?_ ?_<;>intro Jt W9
 refine ac ?_
 refine B3 1 54 rfl ?_
 refine a2 ?_
 · refine int_eq (if_neg (fun hv=> ?_)).symm;have ok:=Ba.1 hv;have o1:=ok.name;have o2:=ok.kind;have o3:=ok.p1;have o4:=ok.p4;have o5:=ok.l1;have o6:=ok.l8;have o7:=ok.u0;have o8:=ok.u1;(omega)
 refine ag ?_ ?_<;>intro N7 YG
 refine ac ?_
 refine B3 1 54 rfl ?_
 refine a2 ?_
 · refine int_eq (if_neg (fun hv=> ?_)).symm;have ok:=Ba.1 hv;have o1:=ok.name;have o2:=ok.kind;have o3:=ok.p1;have o4:=ok.p4;have o5:=ok.l1;have o6:=ok.l8;have o7:=ok.u0;have o8:=ok.u1;(omega)
 obtain ⟨c0,hc0⟩:=at_ (l:=x.links) (k:=0) (by omega)
 have YA:=Bi (d:=EG) hc0
 refine ac ?_
 refine cy N7 rfl (AA rfl underlying105 EP (vl rfl) (vl rfl) (by omega) (AX (k:=0) hc0)) ?_
 refine ac ?_
 refine B3 1 54 rfl ?_
 refine Tr.cn rfl ?_ ?_<;>intro h16 Z7
 refine a2 ?_
 · refine int_eq (if_neg (fun hv=> ?_)).symm;have ok:=Ba.1 hv;have o1:=ok.name;have o2:=ok.kind;have o3:=ok.p1;have o4:=ok.p4;have o5:=ok.l1;have o6:=ok.l8;have o7:=ok.u0;have o8:=ok.u1;(simp_all;omega)
 refine Tr.skip ?_
 exact Fin.AM () ⟨⟨by simp_all,by omega,by omega,by omega⟩,by omega,by omega,by rw [YA];omega,by omega⟩ ⟨ke rfl,trivial⟩
 obtain ⟨⟨hq1,QS,ZD,hq4⟩,hq5,hq6,hq7,hq8⟩:=hpre
 refine ac ?_
 refine Tr.block (Tr.BF [(1,_)] ⟨ke rfl,trivial⟩ (fun k:Nat=>[(3,int ((k:Nat):Int))]) (fun k:Nat=>k≤(x.links).length∧(∀j,j<k→Dm x.links j=true)) (fun k:Nat=>(x.links).length-k) 0 (⟨Nat.zero_le _,fun j hj=>absurd hj (by omega)⟩) ⟨ke rfl,trivial⟩ ?_)
 rintro k ⟨BN,AL⟩
 refine an ?_ ?_<;>intro NR YF
 have Ac:k<(x.links).length:=AU NR
 obtain ⟨c,Aa⟩:=at_ Ac
 have hg:=Bi (d:=EG) Aa
 refine a2 ?_
 refine co rfl (AA rfl underlying105 EP (vl rfl) (vl rfl) (by omega) (AX Aa)) ?_
 refine ac ?_
 refine co rfl (B1 (KF) rfl rfl) ?_
 refine ag ?_ ?_<;>intro NS bz
 refine ac ?_
 refine Cg 1 3 107 rfl ?_
 refine a2 ?_
 · refine int_eq (if_neg (fun hv=> ?_)).symm;have ok:=Ba.1 hv;have o1:=ok.name;have o2:=ok.kind;have o3:=ok.p1;have o4:=ok.p4;have o5:=ok.l1;have o6:=ok.l8;have o7:=ok.u0;have o8:=ok.u1;(have h_:=ok.aX k (by omega);unfold Dm at h_;rw [hg] at h_;simp_all;omega)
 refine ac ?_
 refine cy NS rfl (AA rfl underlying105 EP (vl rfl) (vl rfl) (by omega) (AX Aa)) ?_
 refine ag ?_ ?_<;>intro Rp iD
 refine ac ?_
 refine Cg 1 3 107 rfl ?_
 refine a2 ?_
 · refine int_eq (if_neg (fun hv=> ?_)).symm;have ok:=Ba.1 hv;have o1:=ok.name;have o2:=ok.kind;have o3:=ok.p1;have o4:=ok.p4;have o5:=ok.l1;have o6:=ok.l8;have o7:=ok.u0;have o8:=ok.u1;(have h_:=ok.aX k (by omega);unfold Dm at h_;rw [hg] at h_;simp_all;omega)
 refine ac ?_
 refine cy Rp rfl (AA rfl underlying105 EP (vl rfl) (vl rfl) (by omega) (AX Aa)) ?_
 refine ag ?_ ?_<;>intro NT iE
 refine ac ?_
 refine Cg 1 3 107 rfl ?_
 refine a2 ?_
 · refine int_eq (if_neg (fun hv=> ?_)).symm;have ok:=Ba.1 hv;have o1:=ok.name;have o2:=ok.kind;have o3:=ok.p1;have o4:=ok.p4;have o5:=ok.l1;have o6:=ok.l8;have o7:=ok.u0;have o8:=ok.u1;(have h_:=ok.aX k (by omega);unfold Dm at h_;rw [hg] at h_;simp_all;omega)
 refine ag ?_ ?_<;>intro Rq k6
 have Qz:0<k:=by simpa using Rq
 obtain ⟨y,hy⟩:=at_ (l:=x.links) (k:=k-1) (by omega)
 have IC:=Bi (d:=EG) hy
 · repeat' first|(refine int_eq (if_neg (fun hv=> ?_)).symm;have ok:=Ba.1 hv;have o1:=ok.name;have o2:=ok.kind;have o3:=ok.p1;have o4:=ok.p4;have o5:=ok.l1;have o6:=ok.l8;have o7:=ok.u0;have o8:=ok.u1;(have h_:=ok.aX k (by omega);unfold Dm at h_;rw [hg,IC] at h_;simp_all;omega))|(exact Fin.AM (k+1) ⟨⟨Ac,Bq AL (by unfold Dm;rw [hg,IC];simp_all)⟩,by omega⟩ ⟨⟨_,rfl,AK k⟩,ke rfl,trivial⟩)|(refine cy Rq rfl (AA rfl underlying105 EP (vl rfl) (vl rfl) (by omega) (by rw [show ((k:Nat):Int)-1=((k-1:Nat):Int) by omega];exact AX hy)) ?_)|refine cy Rq rfl (AA rfl underlying105 EP (vl rfl) (vl rfl) (by omega) (AX Aa)) ?_|refine ac ?_|(refine Tr.cn rfl ?_ ?_<;>intro h q)
 have H_:¬0<k:=by simpa using Rq
 refine ac ?_
 refine Cg 1 3 107 rfl ?_
 refine a2 ?_
 exact Fin.AM (k+1) ⟨⟨Ac,Bq AL (by unfold Dm;rw [hg];simp_all)⟩,by omega⟩ ⟨⟨_,rfl,AK k⟩,ke rfl,trivial⟩
 have A4:k=(x.links).length:=by have:=AV NR;omega
 subst A4
 refine a3 ?_
 · refine int_eq (if_pos (Ba.2 ⟨hq1,QS,ZD,hq4,hq5,hq6,AL,by omega,by omega⟩)).symm
theorem Xb {l:List Jv} {n:Nat}  :A_ prog 135 [EF l,int ((n:Nat):Int)] (bool (FT n l)):=by
 refine A_.of func135 rfl rfl (by exact Nb rfl) fun M0 w0=> ?_
 refine Tr.Cr 0 rfl fun Dj=>(Tr.seq (Tr.A3 (cm rfl (Ch.nil (Fin.go (Tr.seq (Tr.seq (Tr.A3 (cm rfl (co rfl (Ew rfl underlying38 (vl rfl)) (cm rfl (Ch.nil (Fin.go (Tr.block ?_))))))))))))))
 refine Tr.BF [(0,_),(1,_),(7,_),(8,_)] (VX rfl) (fun k:Nat=>[(9,int ((k:Nat):Int))]) (fun k:Nat=>k≤(l).length∧(∀j,j<k→Bs n l j=true)) (fun k:Nat=>(l).length-k) 0 (⟨Nat.zero_le _,fun j hj=>absurd hj (by omega)⟩) ⟨ke rfl,trivial⟩ ?_
 rintro k ⟨BN,AL⟩
 refine Tr.seq (Tr.A3 (co rfl (ki rfl rfl rfl rfl) (Ch.nil (Fin.go (Tr.seq ?_)))))
 refine Tr.cn rfl ?_ ?_<;>intro h1 q1
 have Ac:k<(l).length:=AU h1
 obtain ⟨c,Aa⟩:=at_ Ac
 have hg:=Bi (d:=Fj) Aa
 refine Tr.skip (Fin.go (Tr.seq (Tr.block (Tr.seq (Tr.Aq (tm rfl (tp rfl (AA rfl underlying38 FL (vl rfl) (vl rfl) (by omega) (AX Aa)) (tp rfl (AH rfl OM FL (vl rfl) rfl rfl) ?_))))))))
 refine Tl rfl rfl rfl rfl Yg R7 (fun b1=> ?_)
 refine tm rfl (TO.AY 0 rfl rfl rfl (vl rfl) (Va rfl) rfl FL rfl rfl (TO.freeze 0 6 rfl rfl (TO.nil (Fin.go (Tr.seq (Tr.seq (Tr.A3 (co rfl (JC rfl IP rfl rfl) (co rfl (E_ rfl CV rfl) (co rfl (ki rfl rfl rfl rfl) (cm rfl ?_)))))))))))
 refine Ch.cs 17 rfl ?_ ?_<;>intro h2 q2
 iterate 4 refine cnf h2 rfl ?_
 refine co rfl (JQ rfl rfl h2 rfl) (cm rfl (VW rfl rfl (VW rfl rfl (VW rfl rfl (co rfl (JQ rfl rfl rfl rfl) (cm rfl ?_))))))
 iterate 4 refine VW rfl rfl ?_
 refine co rfl (JQ rfl rfl rfl rfl) (cm rfl ?_)
 iterate 5 refine VW rfl rfl ?_
 refine co rfl (JQ rfl rfl rfl rfl) (Ch.nil (Fin.go (PB 0 1 5 6 7 8 9 40 rfl (Tr.cond rfl (fun _=> ?_) (fun h=>nomatch h)))))
 refine Tr.seq (Tr.A3 (cm rfl (Ch.nil (Fin.go (Tr.ret (Fin.AF (Fin.Ar (Fin.AF (Fin.AF (Fin.Ar (Fin.AF (Fin.JN rfl (CH.Ep _ _) rfl ?_))))))))))))
 · refine bool_eq ?_;unfold FT;rw [C0 (p:=Bs n l) (k:=k) (by omega) (by unfold Bs;rw [hg];simp_all;omega)];rfl
 refine cy h2 rfl (JC rfl IP rfl rfl) (cy h2 rfl (E_ rfl CV rfl) (Gr h2 rfl (cy h2 rfl (ki rfl rfl rfl rfl) (co rfl (JB rfl rfl h2 rfl) (cm rfl ?_)))))
 refine Ch.cs 23 rfl ?_ ?_<;>intro h3 q3
 refine cnf h3 rfl (cnf h3 rfl (cnf h3 rfl (co rfl (JQ rfl rfl h3 rfl) (cm rfl ?_))))
 iterate 4 refine VW rfl rfl ?_
 refine co rfl (JQ rfl rfl rfl rfl) (cm rfl ?_)
 iterate 5 refine VW rfl rfl ?_
 refine co rfl (JQ rfl rfl rfl rfl) (Ch.nil (Fin.go (PB 0 1 5 6 7 8 9 40 rfl (Tr.cond rfl (fun _=> ?_) (fun h=>nomatch h)))))
 refine Tr.seq (Tr.A3 (cm rfl (Ch.nil (Fin.go (Tr.ret (Fin.AF (Fin.Ar (Fin.AF (Fin.AF (Fin.Ar (Fin.AF (Fin.JN rfl (CH.Ep _ _) rfl ?_))))))))))))
 · refine bool_eq ?_;unfold FT;rw [C0 (p:=Bs n l) (k:=k) (by omega) (by unfold Bs;rw [hg];simp_all;omega)];rfl
 refine cy h3 rfl (JC rfl Ks rfl rfl) (cy h3 rfl (E_ rfl CV rfl) (cy h3 rfl (ki rfl rfl rfl rfl) (co rfl (JB rfl rfl h3 rfl) (cm rfl ?_))))
 refine Ch.cs 28 rfl ?_ ?_<;>intro h4 q4
 iterate 4 refine cnf h4 rfl ?_
 refine co rfl (JQ rfl rfl h4 rfl) (cm rfl ?_)
 iterate 5 refine VW rfl rfl ?_
 refine co rfl (JQ rfl rfl rfl rfl) (Ch.nil (Fin.go (PB 0 1 5 6 7 8 9 40 rfl (Tr.cond rfl (fun _=> ?_) (fun h=>nomatch h)))))
 refine Tr.seq (Tr.A3 (cm rfl (Ch.nil (Fin.go (Tr.ret (Fin.AF (Fin.Ar (Fin.AF (Fin.AF (Fin.Ar (Fin.AF (Fin.JN rfl (CH.Ep _ _) rfl ?_))))))))))))
 · refine bool_eq ?_;unfold FT;rw [C0 (p:=Bs n l) (k:=k) (by omega) (by unfold Bs;rw [hg];simp_all;omega)];rfl
 refine cy h4 rfl (JC rfl Ks rfl rfl) (cy h4 rfl (E_ rfl CV rfl) (Gr h4 rfl (cy h4 rfl (ki rfl rfl rfl rfl) (co rfl (JB rfl rfl h4 rfl) (cm rfl ?_)))))
 refine Ch.cs 34 rfl ?_ ?_<;>intro h5 q5
 iterate 5 refine cnf h5 rfl ?_
 refine co rfl (JQ rfl rfl h5 rfl) (Ch.nil (Fin.go (PB 0 1 5 6 7 8 9 40 rfl (Tr.cond rfl (fun _=> ?_) (fun h=>nomatch h)))))
 refine Tr.seq (Tr.A3 (cm rfl (Ch.nil (Fin.go (Tr.ret (Fin.AF (Fin.Ar (Fin.AF (Fin.AF (Fin.Ar (Fin.AF (Fin.JN rfl (CH.Ep _ _) rfl ?_))))))))))))
 · refine bool_eq ?_;unfold FT;rw [C0 (p:=Bs n l) (k:=k) (by omega) (by unfold Bs;rw [hg];simp_all;omega)];rfl
 refine cy h5 rfl (JC rfl IP rfl rfl) (cy h5 rfl (E_ rfl CV rfl) (cy h5 rfl (JC rfl Ks rfl rfl) (cy h5 rfl (E_ rfl CV rfl) (cy h5 rfl (ki rfl rfl rfl rfl) (co rfl (JB rfl rfl h5 rfl) (Ch.nil (Fin.go (PB 0 1 5 6 7 8 9 40 rfl ?_))))))))
 refine Tr.cn rfl ?_ ?_<;>intro h6 q6
 refine Tr.seq (Tr.A3 (cm rfl (Ch.nil (Fin.go (Tr.ret (Fin.AF (Fin.Ar (Fin.AF (Fin.AF (Fin.Ar (Fin.AF (Fin.JN rfl (CH.Ep _ _) rfl ?_))))))))))))
 · refine bool_eq ?_;unfold FT;rw [C0 (p:=Bs n l) (k:=k) (by omega) (by unfold Bs;rw [hg];simp_all)];rfl
 refine Tr.skip (Fin.go (Tr.seq (Tr.Vf mixed (by kernel_rfl) (cm rfl (co rfl (ki rfl rfl rfl rfl) (cm rfl ?_))))))
 refine Ch.cs 43 rfl ?_ ?_<;>intro h7 q7
 have Qz:0<k:=by simpa using h7
 obtain ⟨y,hy⟩:=at_ (l:=l) (k:=k-1) (by omega)
 have IC:=Bi (d:=Fj) hy
 refine Gr h7 rfl (Gr h7 rfl ?_)
 refine cy h7 rfl (JO rfl (vl rfl) (vl rfl) ?hin) ?_;case hin=>unfold LK;omega
 refine cy h7 rfl (AA rfl underlying38 FL (vl rfl) (vl rfl) (by omega) (by rw [show ((k:Nat):Int)-1=((k-1:Nat):Int) by omega];exact AX hy)) ?_
 refine cy h7 rfl (JC rfl IP rfl rfl) (cy h7 rfl (E_ rfl CV rfl) (cy h7 rfl (JC rfl IP rfl rfl) (cy h7 rfl (E_ rfl CV rfl) (cy h7 rfl (ki rfl rfl rfl rfl) (Gr h7 rfl ?_)))))
 refine Ch.cs 53 rfl ?_ ?_<;>intro h8 q8
 iterate 10 refine cnf h8 rfl ?_
 iterate 9 refine cu rfl ?_
 refine cnf h8 rfl (cy h7 rfl (JQ rfl rfl h8 rfl) (co rfl (JQ rfl rfl h7 rfl) (Ch.nil (Fin.go (HH 0 1 7 8 9 75 rfl (Tr.cond rfl (fun _=> ?_) (fun h=>nomatch h)))))))
 refine Tr.seq (Tr.A3 (cm rfl (Ch.nil (Fin.go (Tr.ret (Fin.Ar (Fin.AF (Fin.AF (Fin.Ar (Fin.AF (Fin.JN rfl (CH.Ep _ _) rfl ?_)))))))))))
 · refine bool_eq ?_;unfold FT;rw [C0 (p:=Bs n l) (k:=k) (by omega) (by unfold Bs;rw [hg,IC];simp_all;omega)];rfl
 refine Gr h8 rfl (Gr h8 rfl ?_)
 refine cy h8 rfl (JO rfl (vl rfl) (vl rfl) ?hin) ?_;case hin=>unfold LK;omega
 refine cy h8 rfl (AA rfl underlying38 FL (vl rfl) (vl rfl) (by omega) (by rw [show ((k:Nat):Int)-1=((k-1:Nat):Int) by omega];exact AX hy)) ?_
 refine cy h8 rfl (JC rfl IP rfl rfl) (cy h8 rfl (E_ rfl CV rfl) (cy h8 rfl (JC rfl IP rfl rfl) (cy h8 rfl (E_ rfl CV rfl) (cy h8 rfl (ki rfl rfl rfl rfl) (Gr h8 rfl ?_)))))
 refine Ch.cs 63 rfl ?_ ?_<;>intro h9 q9
 refine Gr h9 rfl (Gr h9 rfl ?_)
 refine cy h9 rfl (JO rfl (vl rfl) (vl rfl) ?hin) ?_;case hin=>unfold LK;omega
 refine cy h9 rfl (AA rfl underlying38 FL (vl rfl) (vl rfl) (by omega) (by rw [show ((k:Nat):Int)-1=((k-1:Nat):Int) by omega];exact AX hy)) ?_
 refine cy h9 rfl (JC rfl Ks rfl rfl) (cy h9 rfl (E_ rfl CV rfl) (cy h9 rfl (JC rfl Ks rfl rfl) (cy h9 rfl (E_ rfl CV rfl) (cy h9 rfl (ki rfl rfl rfl rfl) (cy h8 rfl (JQ rfl rfl h9 rfl) (cy h7 rfl (JB rfl rfl h8 rfl) (co rfl (JQ rfl rfl h7 rfl) (Ch.nil (Fin.go (HH 0 1 7 8 9 75 rfl ?_))))))))))
 refine Tr.cn rfl ?_ ?_<;>intro h10 PZ
 refine Tr.seq (Tr.A3 (cm rfl (Ch.nil (Fin.go (Tr.ret (Fin.Ar (Fin.AF (Fin.AF (Fin.Ar (Fin.AF (Fin.JN rfl (CH.Ep _ _) rfl ?_)))))))))))
 · refine bool_eq ?_;unfold FT;rw [C0 (p:=Bs n l) (k:=k) (by omega) (by unfold Bs;rw [hg,IC];simp_all;omega)];rfl
 refine Tr.skip (Fin.block (Fin.go (Tr.A3 (Ly rfl rfl rfl rfl (by omega) (cm rfl (Ch.nil ?_))))))
 exact Fin.AM (k+1) ⟨⟨Ac,Bq AL (by unfold Bs;rw [hg,IC];simp_all)⟩,by omega⟩ ⟨⟨_,rfl,AK k⟩,ke rfl,ke rfl,ke rfl,ke rfl,trivial⟩
 iterate 9 refine cnt h9 rfl ?_
 refine cy h8 rfl (JB rfl rfl h9 rfl) (cy h7 rfl (JB rfl rfl h8 rfl) (co rfl (JQ rfl rfl h7 rfl) (Ch.nil (Fin.go (HH 0 1 7 8 9 75 rfl (Tr.cond rfl (fun h=>nomatch h) (fun _=> ?_)))))))
 refine Tr.skip (Fin.block (Fin.go (Tr.A3 (Ly rfl rfl rfl rfl (by omega) (cm rfl (Ch.nil ?_))))))
 exact Fin.AM (k+1) ⟨⟨Ac,Bq AL (by unfold Bs;rw [hg,IC];simp_all;omega)⟩,by omega⟩ ⟨⟨_,rfl,AK k⟩,ke rfl,ke rfl,ke rfl,ke rfl,trivial⟩
 have H_:¬0<k:=by simpa using h7
 iterate 10 refine cnt h7 rfl ?_
 iterate 20 refine cu rfl ?_
 refine cnt h7 rfl (co rfl (JB rfl rfl h7 rfl) (Ch.nil (Fin.go (HH 0 1 7 8 9 75 rfl (Tr.cond rfl (fun h=>nomatch h) (fun _=> ?_))))))
 refine Tr.skip (Fin.block (Fin.go (Tr.A3 (Ly rfl rfl rfl rfl (by omega) (cm rfl (Ch.nil ?_))))))
 exact Fin.AM (k+1) ⟨⟨Ac,Bq AL (by unfold Bs;rw [hg];simp_all)⟩,by omega⟩ ⟨⟨_,rfl,AK k⟩,ke rfl,ke rfl,ke rfl,ke rfl,trivial⟩
 have A4:k=(l).length:=by have:=AV h1;omega
 subst A4
 refine Tr.exit (Fin.Ao (Fin.Ao (Fin.BT (Fin.go (Tr.seq (Tr.A3 (cm rfl (co rfl (Ew rfl underlying38 (vl rfl)) (co rfl (ki rfl rfl rfl rfl) (cm rfl (Ch.nil (Fin.go (Tr.ret (Fin.JN rfl (CH.Ep _ _) rfl ?_))))))))))))))
 · refine bool_eq ?_;unfold FT;rw [IW AL,Bool.true_and,decide_eq_decide];omega
structure DR where
 BC:List A5
 BH:List Jv
 items:List Im
 deriving DecidableEq
abbrev CG (e:DR):List Pr:=[fB e.BC,EF e.BH,GY e.items]
abbrev Bt:DR:=⟨[],[],[]⟩
structure DR.fits (e:DR):Prop where
 BC:∀x∈e.BC,x.fits∧x.small
 items:∀x∈e.items,x.name.length≤maxLen
 le:e.BC.length≤1000000000000
 lg:e.BH.length≤1000000000000
 li:e.items.length≤1000000000000
def LA (l:List A5) (i:Nat):Bool:=B_ (l[i]?.getD BZ)&&(decide (i=0)||decide (Lib.compareBytes (l[i-1]?.getD BZ).name (l[i]?.getD BZ).name= -1))
def D9 (e:DR):Bool:=(allI (LA e.BC) e.BC.length&&decide (e.BC.length≤16))&&FT e.BC.length e.BH&&(e.items.all Fx&&decide (e.items.length≤30))
structure cJ (e:DR):Prop where
 ep:∀j,j<e.BC.length→LA e.BC j=true
 cL:e.BC.length≤16
 ed:∀j,j<e.BH.length→Bs e.BC.length e.BH j=true
 aY:e.BH.length≤40
 it:e.items.all Fx=true
 cM:e.items.length≤30
theorem Cn {e:DR}:D9 e=true↔cJ e:=by
 unfold D9 FT
 simp only [Bool.and_eq_true,decide_eq_true_eq,Bo]
 exact ⟨fun ⟨⟨⟨h1,h2⟩,h3,h4⟩,h5,h6⟩=>⟨h1,h2,h3,h4,h5,h6⟩,fun h=>⟨⟨⟨h.ep,h.cL⟩,h.ed,h.aY⟩,h.it,h.cM⟩⟩
theorem FU {e:DR} (h:cJ e):FT e.BC.length e.BH=true:=by unfold FT;simp only [Bool.and_eq_true,decide_eq_true_eq,Bo];exact ⟨h.ed,h.aY⟩
theorem fF {x:Im} (hx:x.name.length≤maxLen):A_ prog 133 [agg (EE x)] (bool (!Fx x)):=by
 refine fo func133 rfl ⟨rfl,rfl⟩ fun M0 w0=> ?_
 refine a2 ?_
 refine co rfl (B1 (VF hx) rfl rfl) ?_
 refine a2 ?_
 · refine bool_eq ?_;cases h_:Fx x<;>simp_all
theorem fG:Entry Tryz.prog 133:=⟨_,Tryz.func133,rfl,rfl⟩
theorem aZ {α:Type} {g:α→Im} {l:List α} {p:α→Bool}  :A_ prog 183 [slice 5 (l.map fun x=>EE (g x)),O0 prog (fun x:α=>[agg (EE (g x))]) (fun x=>bool (p x))] (int (idx p l)):=by
 refine fo func183 rfl ⟨rfl,rfl⟩ fun M0 w0=>(Tr.Cr 0 rfl fun Dj=> ?_)
 refine a2 ?_
 refine Tr.block (Tr.BF [(0,_),(1,_),(7,_)] (Js rfl) (fun k:Nat=>[(8,int ((k:Nat):Int))]) (fun k:Nat=>k≤(l).length∧(∀j y,j<k→l[j]? =some y→p y=false)) (fun k:Nat=>(l).length-k) 0 (⟨Nat.zero_le _,fun j y hj=>absurd hj (by omega)⟩) ⟨ke rfl,trivial⟩ ?_)
 rintro k ⟨BN,AL⟩
 refine ac ?_
 refine Tr.seq ?_
 refine Tr.cn rfl ?_ ?_<;>intro h1 q1
 have Ac:k<(l).length:=AU h1
 obtain ⟨x,Aa⟩:=at_ Ac
 · repeat' first|exact int_eq (Dy Aa (by assumption) AL)|exact Fin.AM (k+1) ⟨⟨Ac,DK Aa (by assumption) AL⟩,by omega⟩ ⟨⟨_,rfl,AK k⟩,ke rfl,ke rfl,ke rfl,trivial⟩|refine co rfl (AA rfl underlying39 Dg (vl rfl) (vl rfl) (by omega) (by exact AX (by assumption))) ?_|refine co rfl (AH rfl HR Dg (vl rfl) rfl rfl) (co rfl (EA x rfl (vl rfl) ⟨ke rfl,trivial⟩) ?_)|refine ac ?_|(refine Tr.cn rfl ?_ ?_<;>intro h q)
 have A4:k=(l).length:=by have:=AV h1;omega
 subst A4
 refine a3 ?_
 · exact int_eq (Eh AL)
theorem aa {α:Type} {g:α→A5} {l:List α} {p:α→Bool}  :A_ prog 100 [slice 9 (l.map fun x=>Ah (g x)),O0 prog (fun x:α=>[agg (Ah (g x))]) (fun x=>bool (p x))] (int (idx p l)):=by
 refine fo func100 rfl ⟨rfl,rfl⟩ fun M0 w0=>(Tr.Cr 0 rfl fun Dj=> ?_)
 refine a2 ?_
 refine Tr.block (Tr.BF [(0,_),(1,_),(7,_)] (Js rfl) (fun k:Nat=>[(8,int ((k:Nat):Int))]) (fun k:Nat=>k≤(l).length∧(∀j y,j<k→l[j]? =some y→p y=false)) (fun k:Nat=>(l).length-k) 0 (⟨Nat.zero_le _,fun j y hj=>absurd hj (by omega)⟩) ⟨ke rfl,trivial⟩ ?_)
 rintro k ⟨BN,AL⟩
 refine ac ?_
 refine Tr.seq ?_
 refine Tr.cn rfl ?_ ?_<;>intro h1 q1
 have Ac:k<(l).length:=AU h1
 obtain ⟨x,Aa⟩:=at_ Ac
 · repeat' first|exact int_eq (Dy Aa (by assumption) AL)|exact Fin.AM (k+1) ⟨⟨Ac,DK Aa (by assumption) AL⟩,by omega⟩ ⟨⟨_,rfl,AK k⟩,ke rfl,ke rfl,ke rfl,trivial⟩|refine co rfl (AA rfl underlying37 A8 (vl rfl) (vl rfl) (by omega) (by exact AX (by assumption))) ?_|refine co rfl (AH rfl BM A8 (vl rfl) rfl rfl) (co rfl (EA x rfl (vl rfl) ⟨ke rfl,trivial⟩) ?_)|refine ac ?_|(refine Tr.cn rfl ?_ ?_<;>intro h q)
 have A4:k=(l).length:=by have:=AV h1;omega
 subst A4
 refine a3 ?_
 · exact int_eq (Eh AL)
theorem af {α:Type} {g:α→Im} {l:List α} {p:α→Bool}  :A_ prog 132 [slice 5 (l.map fun x=>EE (g x)),O0 prog (fun x:α=>[agg (EE (g x))]) (fun x=>bool (p x))] (bool (l.any p)):=by
 refine fo func132 rfl ⟨rfl,rfl⟩ fun M0 w0=> ?_
 refine a2 ?_
 refine co rfl (C8 (aZ) rfl rfl rfl) ?_
 refine a2 ?_
 · exact bool_eq (KE p l)
theorem Sv {l:List Im} (h:∀x∈l,x.name.length≤maxLen):∃m:List {x:Im//x.name.length≤maxLen},(m.map fun x=>EE x.1)=l.map EE∧(m.any fun x=> !Fx x.1)= !l.all Fx:=by
 refine ⟨l.attach.map fun x=>⟨x.1,h x.1 x.2⟩,?_,?_⟩
 · rw [List.map_map];exact List.attach_map_val (f:=EE) ▸ rfl
 ·
  rw [←To,List.any_map]
  show (l.attach.any fun x=> !Fx x.1)=_
  rw [Bool.eq_iff_iff];simp
theorem Nn {e:DR} (hf:e.fits):A_ prog 87 [agg (CG e)] (int (if D9 e then 0 else 31)):=by
 refine fo func87 rfl ⟨rfl,rfl⟩ fun M0 w0=> ?_
 have n5:=hf.le
 have bn:=hf.lg
 have fH:=hf.li
 obtain ⟨mi,rC,ck⟩:=Sv hf.items
 refine ac ?_
 refine ac ?_
 refine Tr.block (Tr.BF [(1,_),(7,_),(8,_)] (Js rfl) (fun k:Nat=>[(9,int ((k:Nat):Int))]) (fun k:Nat=>k≤(e.BC).length∧(∀j,j<k→LA e.BC j=true)) (fun k:Nat=>(e.BC).length-k) 0 (⟨Nat.zero_le _,fun j hj=>absurd hj (by omega)⟩) ⟨ke rfl,trivial⟩ ?_)
 rintro k ⟨BN,AL⟩
 refine ac ?_
 refine Tr.seq ?_
 refine Tr.cn rfl ?_ ?_<;>intro h1 q1
 have Ac:k<(e.BC).length:=AU h1
 obtain ⟨x,Aa⟩:=at_ Ac
 have hg:=Bi (d:=BZ) Aa
 have lA:=hf.BC x (List.mem_of_getElem? Aa)
 refine ac ?_
 refine ao ?_
 refine tp rfl (AA rfl underlying37 A8 (vl rfl) (vl rfl) (by omega) (AX Aa)) (tp rfl (AH rfl BM A8 (vl rfl) rfl rfl) ?_)
 refine Tl rfl rfl rfl rfl z32 Df (fun b1=> ?_)
 refine tm rfl ?_
 refine sf 0 4 ⟨rfl,rfl,rfl⟩ rfl rfl rfl rfl ?_
 refine ao ?_
 refine ac ?_
 refine co rfl (B1 (Dk lA.1) rfl rfl) ?_
 refine ac ?_
 refine Ch.cs 17 rfl ?_ ?_<;>intro h2 q2
 refine ac ?_
 refine Ej 1 7 8 9 32 rfl ?_
 refine ac ?_
 refine ac ?_
 · refine int_eq (if_neg (fun hv=> ?_)).symm;have ok:=Cn.1 hv;(have h_:=ok.ep k (by omega);unfold LA at h_;rw [hg] at h_;simp_all)
 refine ac ?_
 refine Ch.cs 20 rfl ?_ ?_<;>intro h3 q3
 have Qz:0<k:=by simpa using h3
 obtain ⟨y,hy⟩:=at_ (l:=e.BC) (k:=k-1) (by omega)
 have IC:=Bi (d:=BZ) hy
 refine ac ?_
 refine cy h3 rfl (AA rfl underlying37 A8 (vl rfl) (vl rfl) (by omega) (by rw [show ((k:Nat):Int)-1=((k-1:Nat):Int) by omega];exact AX hy)) ?_
 refine ac ?_
 refine cy h3 rfl (JX rfl (vl rfl) (vl rfl)) ?_
 refine ac ?_
 refine Ej 1 7 8 9 32 rfl ?_
 refine Tr.cn rfl ?_ ?_<;>intro h4 q4
 refine ac ?_
 refine ac ?_
 · refine int_eq (if_neg (fun hv=> ?_)).symm;have ok:=Cn.1 hv;(have h_:=ok.ep k (by omega);unfold LA at h_;rw [hg,IC] at h_;simp_all)
 refine ac ?_
 refine ac ?_
 exact Fin.AM (k+1) ⟨⟨Ac,Bq AL (by unfold LA;rw [hg,IC];simp_all)⟩,by omega⟩ ⟨⟨_,rfl,AK k⟩,ke rfl,ke rfl,ke rfl,trivial⟩
 have H_:¬0<k:=by simpa using h3
 refine ac ?_
 refine Ej 1 7 8 9 32 rfl ?_
 refine ac ?_
 refine ac ?_
 exact Fin.AM (k+1) ⟨⟨Ac,Bq AL (by unfold LA;rw [hg];simp_all)⟩,by omega⟩ ⟨⟨_,rfl,AK k⟩,ke rfl,ke rfl,ke rfl,trivial⟩
 have A4:k=(e.BC).length:=by have:=AV h1;omega
 subst A4
 have Xc:=AL
 refine ac ?_
 refine ac ?_
 refine co rfl (Ae rfl (af (g:=fun x:{x:Im//x.name.length≤maxLen}=>x.1) (l:=mi) (p:=fun x=> !Fx x.1)) ⟨⟨_,rfl,Pr.le_of_eq (by rw [rC])⟩,⟨_,rfl,DG (dom:=fun x:{x:Im//x.name.length≤maxLen}=>[agg (EE x.1)]) (res:=fun x=>bool (!Fx x.1)) fG (fun x=>fF x.2)⟩,trivial⟩) ?_
 refine ac ?_
 refine ac ?_
 refine Ch.cs 38 rfl ?_ ?_<;>intro h5 q5
 refine ac ?_
 refine Es 58 rfl ?_
 refine ac ?_
 refine ac ?_
 · refine int_eq (if_neg (fun hv=> ?_)).symm;have ok:=Cn.1 hv;(have o1:=ok.cL;have o2:=ok.aY;have o3:=ok.cM;have o4:=ok.it;have o5:=FU ok;simp_all)
 refine ac ?_
 refine Ch.cs 44 rfl ?_ ?_<;>intro h6 q6
 refine ac ?_
 refine Es 58 rfl ?_
 refine ac ?_
 refine ac ?_
 · refine int_eq (if_neg (fun hv=> ?_)).symm;have ok:=Cn.1 hv;(have o1:=ok.cL;have o2:=ok.aY;have o3:=ok.cM;have o4:=ok.it;have o5:=FU ok;omega)
 refine ac ?_
 refine Ch.cs 50 rfl ?_ ?_<;>intro h7 q7
 refine ac ?_
 refine Es 58 rfl ?_
 refine ac ?_
 refine ac ?_
 · refine int_eq (if_neg (fun hv=> ?_)).symm;have ok:=Cn.1 hv;(have o1:=ok.cL;have o2:=ok.aY;have o3:=ok.cM;have o4:=ok.it;have o5:=FU ok;omega)
 refine ac ?_
 refine cy h7 rfl (C8 (Xb (l:=e.BH) (n:=e.BC.length)) rfl rfl rfl) ?_
 refine ac ?_
 refine Es 58 rfl ?_
 refine Tr.cn rfl ?_ ?_<;>intro h8 q8
 refine ac ?_
 refine ac ?_
 · refine int_eq (if_neg (fun hv=> ?_)).symm;have ok:=Cn.1 hv;(have o1:=ok.cL;have o2:=ok.aY;have o3:=ok.cM;have o4:=ok.it;have o5:=FU ok;simp_all)
 refine ac ?_
 refine ac ?_
 refine ac ?_
 · refine int_eq (if_pos ?_).symm;unfold D9;simp_all [Bo];omega
theorem Hj {e:DR} (hf:e.fits):A_ prog 97 [agg (CG e)] (int (if D9 e then 0 else 31)):=by
 refine fo func97 rfl ⟨rfl,rfl⟩ fun M0 w0=> ?_
 have n5:=hf.le
 have bn:=hf.lg
 have fH:=hf.li
 refine ac ?_
 refine ac ?_
 refine Ch.cs 11 rfl ?_ ?_<;>intro h1 q1
 refine ac ?_
 refine B3 1 22 rfl ?_
 refine ac ?_
 refine ac ?_
 · refine int_eq (if_neg (fun hv=> ?_)).symm;have ok:=Cn.1 hv;(have o1:=ok.cL;have o2:=ok.aY;have o3:=ok.cM;have o4:=ok.it;have o5:=FU ok;omega)
 refine ac ?_
 refine Ch.cs 17 rfl ?_ ?_<;>intro h2 q2
 refine ac ?_
 refine B3 1 22 rfl ?_
 refine ac ?_
 refine ac ?_
 · refine int_eq (if_neg (fun hv=> ?_)).symm;have ok:=Cn.1 hv;(have o1:=ok.cL;have o2:=ok.aY;have o3:=ok.cM;have o4:=ok.it;have o5:=FU ok;omega)
 refine ac ?_
 refine B3 1 22 rfl ?_
 refine Tr.cn rfl ?_ ?_<;>intro h3 q3
 refine ac ?_
 refine ac ?_
 · refine int_eq (if_neg (fun hv=> ?_)).symm;have ok:=Cn.1 hv;(have o1:=ok.cL;have o2:=ok.aY;have o3:=ok.cM;have o4:=ok.it;have o5:=FU ok;omega)
 refine ac ?_
 refine ac ?_
 refine Tr.block (Tr.BF [(1,_)] ⟨ke rfl,trivial⟩ (fun k:Nat=>[(3,int ((k:Nat):Int))]) (fun k:Nat=>k≤(e.BC).length∧(∀j,j<k→LA e.BC j=true)) (fun k:Nat=>(e.BC).length-k) 0 (⟨Nat.zero_le _,fun j hj=>absurd hj (by omega)⟩) ⟨ke rfl,trivial⟩ ?_)
 rintro k ⟨BN,AL⟩
 refine ac ?_
 refine Tr.cn rfl ?_ ?_<;>intro h4 q4
 have Ac:k<(e.BC).length:=AU h4
 obtain ⟨x,Aa⟩:=at_ Ac
 have hg:=Bi (d:=BZ) Aa
 have lA:=hf.BC x (List.mem_of_getElem? Aa)
 refine ac ?_
 refine ac ?_
 refine co rfl (AA rfl underlying37 A8 (vl rfl) (vl rfl) (by omega) (AX Aa)) (co rfl (AH rfl BM A8 (vl rfl) rfl rfl) (co rfl (B1 (K8 lA.2) rfl rfl) ?_))
 refine ac ?_
 refine Ch.cs 37 rfl ?_ ?_<;>intro h5 q5
 refine ac ?_
 refine Cg 1 3 56 rfl ?_
 refine ac ?_
 refine ac ?_
 · refine int_eq (if_neg (fun hv=> ?_)).symm;have ok:=Cn.1 hv;(have h_:=ok.ep k (by omega);unfold LA at h_;rw [hg] at h_;simp_all)
 refine ac ?_
 refine Ch.cs 40 rfl ?_ ?_<;>intro h6 q6
 have Qz:0<k:=by simpa using h6
 obtain ⟨y,hy⟩:=at_ (l:=e.BC) (k:=k-1) (by omega)
 have IC:=Bi (d:=BZ) hy
 refine ac ?_
 refine cy h6 rfl (AA rfl underlying37 A8 (vl rfl) (vl rfl) (by omega) (by rw [show ((k:Nat):Int)-1=((k-1:Nat):Int) by omega];exact AX hy)) ?_
 refine ac ?_
 refine cy h6 rfl (AA rfl underlying37 A8 (vl rfl) (vl rfl) (by omega) (AX Aa)) ?_
 refine ac ?_
 refine cy h6 rfl (JX rfl (vl rfl) (vl rfl)) ?_
 refine ac ?_
 refine Cg 1 3 56 rfl ?_
 refine Tr.cn rfl ?_ ?_<;>intro h7 q7
 refine ac ?_
 refine ac ?_
 · refine int_eq (if_neg (fun hv=> ?_)).symm;have ok:=Cn.1 hv;(have h_:=ok.ep k (by omega);unfold LA at h_;rw [hg,IC] at h_;simp_all)
 refine ac ?_
 refine ac ?_
 exact Fin.AM (k+1) ⟨⟨Ac,Bq AL (by unfold LA;rw [hg,IC];simp_all)⟩,by omega⟩ ⟨⟨_,rfl,AK k⟩,ke rfl,trivial⟩
 have H_:¬0<k:=by simpa using h6
 refine ac ?_
 refine Cg 1 3 56 rfl ?_
 refine ac ?_
 refine ac ?_
 exact Fin.AM (k+1) ⟨⟨Ac,Bq AL (by unfold LA;rw [hg];simp_all)⟩,by omega⟩ ⟨⟨_,rfl,AK k⟩,ke rfl,trivial⟩
 have A4:k=(e.BC).length:=by have:=AV h4;omega
 subst A4
 have Xc:=AL
 refine ac ?_
 refine ac ?_
 refine Tr.block (Tr.BF [(1,_)] ⟨ke rfl,trivial⟩ (fun m:Nat=>[(4,int ((m:Nat):Int))]) (fun m:Nat=>m≤(e.BH).length∧(∀j,j<m→Bs e.BC.length e.BH j=true)) (fun m:Nat=>(e.BH).length-m) 0 (⟨Nat.zero_le _,fun j hj=>absurd hj (by omega)⟩) ⟨ke rfl,trivial⟩ ?_)
 rintro m ⟨T8,Gx⟩
 refine ac ?_
 refine Tr.cn rfl ?_ ?_<;>intro h8 q8
 have I9:m<(e.BH).length:=AU h8
 obtain ⟨c,FB⟩:=at_ I9
 have hg:=Bi (d:=Fj) FB
 refine ac ?_
 refine ao ?_
 refine tp rfl (AA rfl underlying38 FL (vl rfl) (vl rfl) (by omega) (AX FB)) (tp rfl (AH rfl OM FL (vl rfl) rfl rfl) ?_)
 refine Tl rfl rfl rfl rfl Yg R7 (fun b1=> ?_)
 refine sf 0 5 ⟨rfl,rfl,rfl⟩ rfl rfl rfl rfl ?_
 refine ao ?_
 refine Cg 1 4 5 rfl ?_
 refine ac ?_
 refine Ch.cs 72 rfl ?_ ?_<;>intro h9 q9
 refine ac ?_
 refine Fk 1 4 5 99 rfl ?_
 refine ac ?_
 refine ac ?_
 · refine int_eq (if_neg (fun hv=> ?_)).symm;have ok:=Cn.1 hv;(have h_:=ok.ed m (by omega);unfold Bs at h_;rw [hg] at h_;simp_all;omega)
 refine ac ?_
 refine Ch.cs 80 rfl ?_ ?_<;>intro h10 PZ
 refine ac ?_
 refine Fk 1 4 5 99 rfl ?_
 refine ac ?_
 refine ac ?_
 · refine int_eq (if_neg (fun hv=> ?_)).symm;have ok:=Cn.1 hv;(have h_:=ok.ed m (by omega);unfold Bs at h_;rw [hg] at h_;simp_all;omega)
 refine ac ?_
 refine Ch.cs 85 rfl ?_ ?_<;>intro h11 Qx
 refine ac ?_
 refine Fk 1 4 5 99 rfl ?_
 refine ac ?_
 refine ac ?_
 · refine int_eq (if_neg (fun hv=> ?_)).symm;have ok:=Cn.1 hv;(have h_:=ok.ed m (by omega);unfold Bs at h_;rw [hg] at h_;simp_all;omega)
 refine ac ?_
 refine Ch.cs 93 rfl ?_ ?_<;>intro h12 Sb
 refine ac ?_
 refine Fk 1 4 5 99 rfl ?_
 refine ac ?_
 refine ac ?_
 · refine int_eq (if_neg (fun hv=> ?_)).symm;have ok:=Cn.1 hv;(have h_:=ok.ed m (by omega);unfold Bs at h_;rw [hg] at h_;simp_all;omega)
 refine ac ?_
 refine Fk 1 4 5 99 rfl ?_
 refine Tr.cn rfl ?_ ?_<;>intro H8 Tp
 refine ac ?_
 refine ac ?_
 · refine int_eq (if_neg (fun hv=> ?_)).symm;have ok:=Cn.1 hv;(have h_:=ok.ed m (by omega);unfold Bs at h_;rw [hg] at h_;simp_all)
 refine ac ?_
 refine ac ?_
 refine Ch.cs 102 rfl ?_ ?_<;>intro Jt W9
 have Qz:0<m:=by simpa using Jt
 obtain ⟨y,hy⟩:=at_ (l:=e.BH) (k:=m-1) (by omega)
 have IC:=Bi (d:=Fj) hy
 refine ac ?_
 refine cy Jt rfl (AA rfl underlying38 FL (vl rfl) (vl rfl) (by omega) (by rw [show ((m:Nat):Int)-1=((m-1:Nat):Int) by omega];exact AX hy)) ?_
 refine ac ?_
 refine Ch.cs 113 rfl ?_ ?_<;>intro N7 YG
 refine ac ?_
 refine Cg 1 4 137 rfl ?_
 refine ac ?_
 refine ac ?_
 · refine int_eq (if_neg (fun hv=> ?_)).symm;have ok:=Cn.1 hv;(have h_:=ok.ed m (by omega);unfold Bs at h_;rw [hg,IC] at h_;simp_all;omega)
 refine ac ?_
 refine cy N7 rfl (AA rfl underlying38 FL (vl rfl) (vl rfl) (by omega) (by rw [show ((m:Nat):Int)-1=((m-1:Nat):Int) by omega];exact AX hy)) ?_
 refine ac ?_
 refine Ch.cs 124 rfl ?_ ?_<;>intro h16 Z7
 refine ac ?_
 refine cy h16 rfl (AA rfl underlying38 FL (vl rfl) (vl rfl) (by omega) (by rw [show ((m:Nat):Int)-1=((m-1:Nat):Int) by omega];exact AX hy)) ?_
 refine ac ?_
 refine Cg 1 4 137 rfl ?_
 refine Tr.cn rfl ?_ ?_<;>intro NR YF
 refine ac ?_
 refine ac ?_
 · refine int_eq (if_neg (fun hv=> ?_)).symm;have ok:=Cn.1 hv;(have h_:=ok.ed m (by omega);unfold Bs at h_;rw [hg,IC] at h_;simp_all;omega)
 refine ac ?_
 refine ac ?_
 exact Fin.AM (m+1) ⟨⟨I9,Bq Gx (by unfold Bs;rw [hg,IC];simp_all)⟩,by omega⟩ ⟨⟨_,rfl,AK m⟩,ke rfl,trivial⟩
 refine ac ?_
 refine Cg 1 4 137 rfl ?_
 refine ac ?_
 refine ac ?_
 exact Fin.AM (m+1) ⟨⟨I9,Bq Gx (by unfold Bs;rw [hg,IC];simp_all;omega)⟩,by omega⟩ ⟨⟨_,rfl,AK m⟩,ke rfl,trivial⟩
 have H_:¬0<m:=by simpa using Jt
 refine ac ?_
 refine Cg 1 4 137 rfl ?_
 refine ac ?_
 refine ac ?_
 exact Fin.AM (m+1) ⟨⟨I9,Bq Gx (by unfold Bs;rw [hg];simp_all)⟩,by omega⟩ ⟨⟨_,rfl,AK m⟩,ke rfl,trivial⟩
 have P_:m=(e.BH).length:=by have:=AV h8;omega
 subst P_
 refine ac ?_
 refine ac ?_
 refine Tr.block (Tr.BF [(1,_)] ⟨ke rfl,trivial⟩ (fun o:Nat=>[(6,int ((o:Nat):Int))]) (fun o:Nat=>o≤(e.items).length∧(∀j y,j<o→e.items[j]? =some y→(!Fx y)=false)) (fun o:Nat=>(e.items).length-o) 0 (⟨Nat.zero_le _,fun j y hj=>absurd hj (by omega)⟩) ⟨ke rfl,trivial⟩ ?_)
 rintro o ⟨cH,GK⟩
 refine ac ?_
 refine Tr.cn rfl ?_ ?_<;>intro NS bz
 have QA:o<(e.items).length:=AU NS
 obtain ⟨x,KS⟩:=at_ QA
 refine ac ?_
 refine ac ?_
 refine co rfl (AA rfl underlying39 Dg (vl rfl) (vl rfl) (by omega) (AX KS)) (co rfl (AH rfl HR Dg (vl rfl) rfl rfl) (co rfl (B1 (Su) rfl rfl) ?_))
 refine ac ?_
 refine Cg 1 6 151 rfl ?_
 refine Tr.cn rfl ?_ ?_<;>intro Rp iD
 refine ac ?_
 refine ac ?_
 · refine int_eq (if_neg (fun hv=> ?_)).symm;have ok:=Cn.1 hv;(have h_:=List.all_eq_true.1 ok.it x (List.mem_of_getElem? KS);simp_all)
 refine ac ?_
 refine ac ?_
 exact Fin.AM (o+1) ⟨⟨QA,DK (p:=fun c=> !Fx c) KS (by simp_all) GK⟩,by omega⟩ ⟨⟨_,rfl,AK o⟩,ke rfl,trivial⟩
 have XR:o=(e.items).length:=by have:=AV NS;omega
 subst XR
 have hall:=E4 GK
 refine ac ?_
 refine ac ?_
 refine ac ?_
 · refine int_eq (if_pos (Cn.2 ⟨Xc,by omega,Gx,by omega,hall,by omega⟩)).symm
theorem ld {d:Nat} {w:World} {x0 y0:Int} {x1 y1:Int}:(Op.equalIn (d+2) 80 (.agg #[.int .i64 x0,.int .i64 x1]) (.agg #[.int .i64 y0,.int .i64 y1])).run Tryz.prog w= .ok (decide (x0=y0∧x1=y1)) w:=by
 have h:=mZ (w:=w) (d:=d+1) (xs:= #[.int .i64 x0,.int .i64 x1]) (ys:= #[.int .i64 y0,.int .i64 y1]) Tryz.underlying80 (by kernel_rfl) (Ff (by decide) (Ct CV rfl) (Ct CV rfl) (HU (d:=d+0) Tryz.underlying3) (Ff (by decide) (Ct CV rfl) (Ct CV rfl) (HU (d:=d+0) Tryz.underlying3) (L2)))
 refine h.trans (congrArg (fun b=>Result.ok b w) ?_)
 rw [Bool.eq_iff_iff];simp [and_assoc]
theorem UA {E:Env} {I:Ca} {o:Oper} {u:TypeId} {x y:Operand} {x0 y0:Int} {x1 y1:Int} (ho:o.op= .binOp .neq 80 x y u) (hx:VL E x (agg [is (.int .i64 x0),is (.int .i64 x1)])) (hy:VL E y (agg [is (.int .i64 y0),is (.int .i64 y1)])):Ad Tryz.prog I o E (bool (!decide (x0=y0∧x1=y1))):=
 J_ [.int .i64 x0,.int .i64 x1] [.int .i64 y0,.int .i64 y1] ho hx hy (by kernel_rfl) (fun w=>by rw [show Op.equal 80 _ _=Op.equalIn (9998+2) 80 _ _ from rfl];exact ld)
theorem fI {d:Nat} {w:World} {x0 y0:Int} {x1 y1:Int} {x2 y2:Int}:(Op.equalIn (d+3) 152 (.agg #[.int .i64 x0,.int .i64 x1,.int .i64 x2]) (.agg #[.int .i64 y0,.int .i64 y1,.int .i64 y2])).run Tryz.prog w= .ok (decide (x0=y0∧x1=y1∧x2=y2)) w:=by
 have h:=mZ (w:=w) (d:=d+2) (xs:= #[.int .i64 x0,.int .i64 x1,.int .i64 x2]) (ys:= #[.int .i64 y0,.int .i64 y1,.int .i64 y2]) Tryz.underlying152 (by kernel_rfl) (Ff (by decide) (Ql CM DE rfl) (Ql CM DE rfl) (WU (d:=d+0) (w:=w)) (Ff (by decide) (Ct CV rfl) (Ct CV rfl) (HU (d:=d+1) Tryz.underlying3) (L2)))
 refine h.trans (congrArg (fun b=>Result.ok b w) ?_)
 rw [Bool.eq_iff_iff];simp [and_assoc]
theorem Rc {E:Env} {I:Ca} {o:Oper} {u:TypeId} {x y:Operand} {x0 y0:Int} {x1 y1:Int} {x2 y2:Int} (ho:o.op= .binOp .neq 152 x y u) (hx:VL E x (agg [is (.int .i64 x0),is (.int .i64 x1),is (.int .i64 x2)])) (hy:VL E y (agg [is (.int .i64 y0),is (.int .i64 y1),is (.int .i64 y2)])):Ad Tryz.prog I o E (bool (!decide (x0=y0∧x1=y1∧x2=y2))):=
 J_ [.int .i64 x0,.int .i64 x1,.int .i64 x2] [.int .i64 y0,.int .i64 y1,.int .i64 y2] ho hx hy (by kernel_rfl) (fun w=>by rw [show Op.equal 152 _ _=Op.equalIn (9997+3) 152 _ _ from rfl];exact fI)
theorem fJ {a b:List (Jv)}  :A_ prog 92 [EF a,EF b] (bool (decide (a=b))):=by
 refine fo func92 rfl ⟨rfl,rfl⟩ fun M0 w0=>(Tr.Cr 0 rfl fun Dj=>(Tr.Cr 1 rfl fun Fh=> ?_))
 refine ac ?_
 refine an ?_ ?_<;>intro h1 q1
 have hne:¬a.length=b.length:=by simp_all;omega
 refine a2 ?_
 · refine bool_eq ?_;symm;rw [decide_eq_false_iff_not];rintro rfl;exact hne rfl
 have HB:a.length=b.length:=by simp_all;omega
 refine a2 ?_
 refine Tr.block (Tr.BF [(0,_),(1,_),(12,_)] (Js rfl) (fun k:Nat=>[(13,int ((k:Nat):Int))]) (fun k:Nat=>k≤(a).length∧(a.take k=b.take k)) (fun k:Nat=>(a).length-k) 0 (⟨Nat.zero_le _,rfl⟩) ⟨ke rfl,trivial⟩ ?_)
 rintro k ⟨BN,AL⟩
 refine ac ?_
 refine Tr.seq ?_
 refine Tr.cn rfl ?_ ?_<;>intro h2 q2
 have Ac:k<(a).length:=AU h2
 obtain ⟨x,Aa⟩:=at_ Ac
 obtain ⟨y,hy⟩:=at_ (l:=b) (k:=k) (by omega)
 · repeat' first|(refine bool_eq ?_;symm;rw [decide_eq_false_iff_not];refine HE Aa hy ?_;rintro rfl;simp_all)|(exact Fin.AM (k+1) ⟨⟨Ac,E8 Aa hy AL (by cases x;cases y;simp_all)⟩,by omega⟩ ⟨⟨_,rfl,AK k⟩,ke rfl,ke rfl,ke rfl,trivial⟩)|refine co rfl (AA rfl underlying38 FL (vl rfl) (vl rfl) (by omega) (AX Aa)) ?_|refine co rfl (AA rfl underlying38 FL (vl rfl) (vl rfl) (by omega) (AX hy)) (co rfl (AH rfl OM FL (vl rfl) rfl rfl) (co rfl (UA rfl (vl rfl) (vl rfl)) ?_))|refine ac ?_|(refine Tr.cn rfl ?_ ?_<;>intro h q)
 have A4:k=(a).length:=by have:=AV h2;omega
 subst A4
 refine a3 ?_
 · refine bool_eq ?_;symm;rw [decide_eq_true_eq];exact E9 HB AL
theorem fK {a b:List (QL)}  :A_ prog 140 [Ss a,Ss b] (bool (decide (a=b))):=by
 refine fo func140 rfl ⟨rfl,rfl⟩ fun M0 w0=>(Tr.Cr 0 rfl fun Dj=>(Tr.Cr 1 rfl fun Fh=> ?_))
 refine ac ?_
 refine an ?_ ?_<;>intro h1 q1
 have hne:¬a.length=b.length:=by simp_all;omega
 refine a2 ?_
 · refine bool_eq ?_;symm;rw [decide_eq_false_iff_not];rintro rfl;exact hne rfl
 have HB:a.length=b.length:=by simp_all;omega
 refine a2 ?_
 refine Tr.block (Tr.BF [(0,_),(1,_),(12,_)] (Js rfl) (fun k:Nat=>[(13,int ((k:Nat):Int))]) (fun k:Nat=>k≤(a).length∧(a.take k=b.take k)) (fun k:Nat=>(a).length-k) 0 (⟨Nat.zero_le _,rfl⟩) ⟨ke rfl,trivial⟩ ?_)
 rintro k ⟨BN,AL⟩
 refine ac ?_
 refine Tr.seq ?_
 refine Tr.cn rfl ?_ ?_<;>intro h2 q2
 have Ac:k<(a).length:=AU h2
 obtain ⟨x,Aa⟩:=at_ Ac
 obtain ⟨y,hy⟩:=at_ (l:=b) (k:=k) (by omega)
 · repeat' first|(refine bool_eq ?_;symm;rw [decide_eq_false_iff_not];refine HE Aa hy ?_;rintro rfl;simp_all)|(exact Fin.AM (k+1) ⟨⟨Ac,E8 Aa hy AL (by cases x;cases y;simp_all)⟩,by omega⟩ ⟨⟨_,rfl,AK k⟩,ke rfl,ke rfl,ke rfl,trivial⟩)|refine co rfl (AA rfl underlying105 EP (vl rfl) (vl rfl) (by omega) (AX Aa)) ?_|refine co rfl (AA rfl underlying105 EP (vl rfl) (vl rfl) (by omega) (AX hy)) (co rfl (AH rfl PJ EP (vl rfl) rfl rfl) (co rfl (Rc rfl (vl rfl) (vl rfl)) ?_))|refine ac ?_|(refine Tr.cn rfl ?_ ?_<;>intro h q)
 have A4:k=(a).length:=by have:=AV h2;omega
 subst A4
 refine a3 ?_
 · refine bool_eq ?_;symm;rw [decide_eq_true_eq];exact E9 HB AL
theorem Sw {a b:Im}  :A_ prog 94 [agg (EE a),agg (EE b)] (bool (decide (a=b))):=by
 refine fo func94 rfl ⟨rfl,rfl⟩ fun M0 w0=> ?_
 · repeat' first|(refine bool_eq ?_;cases a;cases b;simp_all [Bool.beq_eq_decide_eq])|refine cy h rfl (C8 (fK) rfl rfl rfl) ?_|refine ac ?_|(refine Ch.cg rfl rfl rfl ?_ ?_<;>intro h q)
theorem Sx:Entry Tryz.prog 94:=⟨_,Tryz.func94,rfl,rfl⟩
theorem ah {a b:List Im}  :A_ prog 93 [GY a,GY b,O0 prog (fun p:Im×Im=>[agg (EE p.1),agg (EE p.2)]) (fun p=>bool (decide (p.1=p.2)))] (bool (decide (a=b))):=by
 refine fo func93 rfl ⟨rfl,rfl⟩ fun M0 w0=>(Tr.Cr 0 rfl fun Dj=>(Tr.Cr 1 rfl fun Fh=> ?_))
 refine ac ?_
 refine an ?_ ?_<;>intro h1 q1
 have hne:¬a.length=b.length:=by simp_all;omega
 refine a2 ?_
 · refine bool_eq ?_;symm;rw [decide_eq_false_iff_not];rintro rfl;exact hne rfl
 have HB:a.length=b.length:=by simp_all;omega
 refine a2 ?_
 refine Tr.block (Tr.BF [(1,_),(2,_),(15,_),(16,_)] (VX rfl) (fun k:Nat=>[(17,int ((k:Nat):Int))]) (fun k:Nat=>k≤(a).length∧(a.take k=b.take k)) (fun k:Nat=>(a).length-k) 0 (⟨Nat.zero_le _,rfl⟩) ⟨ke rfl,trivial⟩ ?_)
 rintro k ⟨BN,AL⟩
 refine ac ?_
 refine Tr.seq ?_
 refine Tr.cn rfl ?_ ?_<;>intro h2 q2
 have Ac:k<(a).length:=AU h2
 obtain ⟨x,Aa⟩:=at_ Ac
 obtain ⟨y,hy⟩:=at_ (l:=b) (k:=k) (by omega)
 refine ac ?_
 refine ao ?_
 refine tp rfl (AA rfl underlying39 Dg (vl rfl) (vl rfl) (by omega) (AX Aa)) (tp rfl (AH rfl HR Dg (vl rfl) rfl rfl) ?_)
 refine Tl rfl rfl rfl rfl z107 LW (fun b1=> ?_)
 refine tm rfl ?_
 refine sf 0 8 ⟨rfl,rfl,rfl⟩ rfl rfl rfl rfl ?_
 refine ao ?_
 refine ao ?_
 refine tp rfl (AA rfl underlying39 Dg (vl rfl) (vl rfl) (by omega) (AX hy)) (tp rfl (AH rfl HR Dg (vl rfl) rfl rfl) ?_)
 refine Tl rfl rfl rfl rfl z107 LW (fun b2=> ?_)
 refine sf 0 9 ⟨rfl,rfl,rfl⟩ rfl rfl rfl rfl ?_
 refine ao ?_
 · repeat' first|(refine bool_eq ?_;symm;rw [decide_eq_false_iff_not];refine HE Aa hy ?_;rintro rfl;simp_all)|exact Fin.AM (k+1) ⟨⟨Ac,E8 Aa hy AL (by simp_all)⟩,by omega⟩ ⟨⟨_,rfl,AK k⟩,ke rfl,ke rfl,ke rfl,ke rfl,trivial⟩|refine co rfl (EA (x,y) rfl (vl rfl) ⟨ke rfl,ke rfl,trivial⟩) ?_|refine ac ?_|(refine Tr.cn rfl ?_ ?_<;>intro h q)
 have A4:k=(a).length:=by have:=AV h2;omega
 subst A4
 refine a3 ?_
 · refine bool_eq ?_;symm;rw [decide_eq_true_eq];exact E9 HB AL
theorem KY {a b:DR}  :A_ prog 32 [agg (CG a),agg (CG b)] (bool (decide (a=b))):=by
 refine fo func32 rfl ⟨rfl,rfl⟩ fun M0 w0=> ?_
 refine a2 ?_
 refine co rfl (Ae rfl (fE) ⟨ke rfl,ke rfl,⟨_,rfl,DG (dom:=fun p:A5×A5=>[agg (Ah p.1),agg (Ah p.2)]) (res:=fun p=>bool (decide (p.1=p.2))) aU (fun p=>aT (a:=p.1) (b:=p.2))⟩,trivial⟩) ?_
 refine cm rfl ?_
 · repeat' first|(refine bool_eq ?_;cases a;cases b;simp_all [Bool.beq_eq_decide_eq])|refine cy h rfl (C8 (fJ) rfl rfl rfl) ?_|refine cy h rfl (Ae rfl (ah) ⟨ke rfl,ke rfl,⟨_,rfl,DG (dom:=fun p:Im×Im=>[agg (EE p.1),agg (EE p.2)]) (res:=fun p=>bool (decide (p.1=p.2))) Sx (fun p=>Sw (a:=p.1) (b:=p.2))⟩,trivial⟩) ?_|refine ac ?_|(refine Ch.cg rfl rfl rfl ?_ ?_<;>intro h q)
theorem N8 {a b:Im} (hl:a.links.length≤1000000000000):A_ prog 95 [agg (EE a),agg (EE b)] (bool (decide (a=b))):=by
 refine fo func95 rfl ⟨rfl,rfl⟩ fun M0 w0=> ?_
 refine ac ?_
 refine ag ?_ ?_<;>intro h1 q1
 refine ac ?_
 refine Cg 2 3 40 rfl ?_
 refine a2 ?_
 · refine bool_eq ?_;symm;rw [decide_eq_false_iff_not];rintro rfl;simp_all
 refine ag ?_ ?_<;>intro h2 q2
 refine ac ?_
 refine Cg 2 3 40 rfl ?_
 refine a2 ?_
 · refine bool_eq ?_;symm;rw [decide_eq_false_iff_not];rintro rfl;simp_all
 refine ag ?_ ?_<;>intro h3 q3
 refine ac ?_
 refine Cg 2 3 40 rfl ?_
 refine a2 ?_
 · refine bool_eq ?_;symm;rw [decide_eq_false_iff_not];rintro rfl;simp_all
 refine ag ?_ ?_<;>intro h4 q4
 refine ac ?_
 refine Cg 2 3 40 rfl ?_
 refine a2 ?_
 · refine bool_eq ?_;symm;rw [decide_eq_false_iff_not];rintro rfl;simp_all
 refine ac ?_
 refine Cg 2 3 40 rfl ?_
 refine Tr.cn rfl ?_ ?_<;>intro h5 q5
 refine a2 ?_
 · refine bool_eq ?_;symm;rw [decide_eq_false_iff_not];rintro rfl;simp_all
 have HB:a.links.length=b.links.length:=by simp_all;omega
 refine a2 ?_
 refine Tr.block (Tr.BF [(2,_),(3,_),(43,_)] (Js rfl) (fun k:Nat=>[(44,int ((k:Nat):Int))]) (fun k:Nat=>k≤(a.links).length∧(a.links.take k=b.links.take k)) (fun k:Nat=>(a.links).length-k) 0 (⟨Nat.zero_le _,rfl⟩) ⟨ke rfl,trivial⟩ ?_)
 rintro k ⟨BN,AL⟩
 refine ac ?_
 refine Tr.seq ?_
 refine Tr.cn rfl ?_ ?_<;>intro h6 q6
 have Ac:k<(a.links).length:=AU h6
 obtain ⟨x,Aa⟩:=at_ Ac
 obtain ⟨y,hy⟩:=at_ (l:=b.links) (k:=k) (by omega)
 · repeat' first|(refine bool_eq ?_;symm;rw [decide_eq_false_iff_not];rintro rfl;simp_all)|(exact Fin.AM (k+1) ⟨⟨Ac,E8 Aa hy AL (by cases x;cases y;simp_all)⟩,by omega⟩ ⟨⟨_,rfl,AK k⟩,ke rfl,ke rfl,ke rfl,trivial⟩)|refine co rfl (AA rfl underlying105 EP (vl rfl) (vl rfl) (by omega) (AX Aa)) ?_|refine co rfl (AA rfl underlying105 EP (vl rfl) (vl rfl) (by omega) (AX hy)) (co rfl (AH rfl PJ EP (vl rfl) rfl rfl) (co rfl (Rc rfl (vl rfl) (vl rfl)) ?_))|refine ac ?_|(refine Tr.cn rfl ?_ ?_<;>intro h q)
 have A4:k=(a.links).length:=by have:=AV h6;omega
 subst A4
 refine a3 ?_
 · refine bool_eq ?_;have hnn:=E9 HB AL;clear AL HB hl;cases a;cases b;simp_all
theorem I5 {a b:DR} (n5:a.BC.length≤1000000000000) (bn:a.BH.length≤1000000000000) (fH:a.items.length≤1000000000000) (Me:∀x∈a.items,x.links.length≤1000000000000):A_ prog 34 [agg (CG a),agg (CG b)] (bool (decide (a=b))):=by
 refine fo func34 rfl ⟨rfl,rfl⟩ fun M0 w0=> ?_
 refine ac ?_
 refine ag ?_ ?_<;>intro h1 q1
 refine ac ?_
 refine Cg 2 3 32 rfl ?_
 refine a2 ?_
 · refine bool_eq ?_;symm;rw [decide_eq_false_iff_not];rintro rfl;simp_all
 refine ag ?_ ?_<;>intro h2 q2
 refine ac ?_
 refine Cg 2 3 32 rfl ?_
 refine a2 ?_
 · refine bool_eq ?_;symm;rw [decide_eq_false_iff_not];rintro rfl;simp_all
 refine ac ?_
 refine Cg 2 3 32 rfl ?_
 refine Tr.cn rfl ?_ ?_<;>intro h3 q3
 refine a2 ?_
 · refine bool_eq ?_;symm;rw [decide_eq_false_iff_not];rintro rfl;simp_all
 have HB:a.BC.length=b.BC.length∧a.BH.length=b.BH.length∧a.items.length=b.items.length:=by simp_all;omega
 obtain ⟨rD,sQ,sS⟩:=HB
 refine a2 ?_
 refine Tr.block (Tr.BF [(2,_),(3,_),(35,_)] (Js rfl) (fun k:Nat=>[(36,int ((k:Nat):Int))]) (fun k:Nat=>k≤(a.BC).length∧(a.BC.take k=b.BC.take k)) (fun k:Nat=>(a.BC).length-k) 0 (⟨Nat.zero_le _,rfl⟩) ⟨ke rfl,trivial⟩ ?_)
 rintro k ⟨BN,AL⟩
 refine ac ?_
 refine Tr.seq ?_
 refine Tr.cn rfl ?_ ?_<;>intro h4 q4
 have Ac:k<(a.BC).length:=AU h4
 obtain ⟨x,Aa⟩:=at_ Ac
 obtain ⟨y,hy⟩:=at_ (l:=b.BC) (k:=k) (by omega)
 · repeat' first|(refine bool_eq ?_;symm;rw [decide_eq_false_iff_not];rintro rfl;simp_all)|exact Fin.AM (k+1) ⟨⟨Ac,E8 Aa hy AL (by simp_all)⟩,by omega⟩ ⟨⟨_,rfl,AK k⟩,ke rfl,ke rfl,ke rfl,trivial⟩|refine co rfl (AA rfl underlying37 A8 (vl rfl) (vl rfl) (by omega) (AX Aa)) ?_|refine co rfl (AA rfl underlying37 A8 (vl rfl) (vl rfl) (by omega) (AX hy)) (co rfl (AH rfl BM A8 (vl rfl) rfl rfl) (co rfl (C8 (W7) rfl rfl rfl) ?_))|refine ac ?_|(refine Tr.cn rfl ?_ ?_<;>intro h q)
 have A4:k=(a.BC).length:=by have:=AV h4;omega
 subst A4
 have hnk:=E9 (by omega) AL
 refine a2 ?_
 refine Tr.block (Tr.BF [(2,_),(3,_),(54,_)] (Js rfl) (fun m:Nat=>[(55,int ((m:Nat):Int))]) (fun m:Nat=>m≤(a.BH).length∧(a.BH.take m=b.BH.take m)) (fun m:Nat=>(a.BH).length-m) 0 (⟨Nat.zero_le _,rfl⟩) ⟨ke rfl,trivial⟩ ?_)
 rintro m ⟨T8,Gx⟩
 refine ac ?_
 refine Tr.seq ?_
 refine Tr.cn rfl ?_ ?_<;>intro h6 q6
 have I9:m<(a.BH).length:=AU h6
 obtain ⟨x,FB⟩:=at_ I9
 obtain ⟨y,hy⟩:=at_ (l:=b.BH) (k:=m) (by omega)
 · repeat' first|(refine bool_eq ?_;symm;rw [decide_eq_false_iff_not];rintro rfl;simp_all)|(exact Fin.AM (m+1) ⟨⟨I9,E8 FB hy Gx (by cases x;cases y;simp_all)⟩,by omega⟩ ⟨⟨_,rfl,AK m⟩,ke rfl,ke rfl,ke rfl,trivial⟩)|refine co rfl (AA rfl underlying38 FL (vl rfl) (vl rfl) (by omega) (AX FB)) ?_|refine co rfl (AA rfl underlying38 FL (vl rfl) (vl rfl) (by omega) (AX hy)) (co rfl (AH rfl OM FL (vl rfl) rfl rfl) (co rfl (UA rfl (vl rfl) (vl rfl)) ?_))|refine ac ?_|(refine Tr.cn rfl ?_ ?_<;>intro h q)
 have P_:m=(a.BH).length:=by have:=AV h6;omega
 subst P_
 have hnm:=E9 (by omega) Gx
 refine a2 ?_
 refine Tr.block (Tr.BF [(2,_),(3,_),(72,_)] (Js rfl) (fun o:Nat=>[(73,int ((o:Nat):Int))]) (fun o:Nat=>o≤(a.items).length∧(a.items.take o=b.items.take o)) (fun o:Nat=>(a.items).length-o) 0 (⟨Nat.zero_le _,rfl⟩) ⟨ke rfl,trivial⟩ ?_)
 rintro o ⟨cH,GK⟩
 refine ac ?_
 refine Tr.seq ?_
 refine Tr.cn rfl ?_ ?_<;>intro h8 q8
 have QA:o<(a.items).length:=AU h8
 obtain ⟨x,KS⟩:=at_ QA
 obtain ⟨y,hy⟩:=at_ (l:=b.items) (k:=o) (by omega)
 have hxl:=Me x (List.mem_of_getElem? KS)
 · repeat' first|(refine bool_eq ?_;symm;rw [decide_eq_false_iff_not];rintro rfl;simp_all)|exact Fin.AM (o+1) ⟨⟨QA,E8 KS hy GK (by simp_all)⟩,by omega⟩ ⟨⟨_,rfl,AK o⟩,ke rfl,ke rfl,ke rfl,trivial⟩|refine co rfl (AA rfl underlying39 Dg (vl rfl) (vl rfl) (by omega) (AX KS)) ?_|refine co rfl (AA rfl underlying39 Dg (vl rfl) (vl rfl) (by omega) (AX hy)) (co rfl (AH rfl HR Dg (vl rfl) rfl rfl) (co rfl (C8 (N8 hxl) rfl rfl rfl) ?_))|refine ac ?_|(refine Tr.cn rfl ?_ ?_<;>intro h q)
 have XR:o=(a.items).length:=by have:=AV h8;omega
 subst XR
 have hno:=E9 (by omega) GK
 refine a3 ?_
 · refine bool_eq ?_;clear GK;cases a;cases b;simp_all
def FV (n:List UInt8) (x:A5):Bool:=decide (x.name=n)
def QE (n:List UInt8) (l:List A5):Int:=idx (FV n) l
theorem Xd {x:A5} {n:List UInt8}  :A_ prog 101 [agg (Ah x),ref [str n]] (bool (FV n x)):=by
 refine fo func101 rfl ⟨rfl,rfl⟩ fun M0 w0=> ?_
 refine a3 ?_
 · exact Lr
theorem Xe:Entry Tryz.prog 101:=⟨_,Tryz.func101,rfl,rfl⟩
theorem Ot {e:DR} {n:List UInt8}  :A_ prog 44 [agg (CG e),str n] (Fa [int (max (QE n e.BC) 0),bool (decide (0≤QE n e.BC))]):=by
 refine fo func44 rfl ⟨rfl,rfl⟩ fun M0 w0=> ?_
 refine a2 ?_
 refine co rfl (Ae rfl (aa (g:=fun x:A5=>x) (l:=e.BC) (p:=FV n)) ⟨ke rfl,⟨_,rfl,DG (dom:=fun x:A5=>[agg (Ah x)]) (res:=fun x=>bool (FV n x)) Xe (fun x=>Xd (n:=n) (x:=x))⟩,trivial⟩) ?_
 refine a2 ?_
 refine co rfl (Vg rfl (vl rfl) (vl rfl)) ?_
 refine ac ?_
 refine B3 4 5 rfl (Tr.ret (Fin.Dz rfl (CH.Ep _ _) rfl ?_ rfl ?_))
 · exact Lr
 · exact bool_eq (by unfold QE;simp)
theorem Sy {e:DR} {n:List UInt8} (hl:e.BC.length≤1000000000000):A_ prog 45 [agg (CG e),str n] (Fa [int (max (QE n e.BC) 0),bool (decide (0≤QE n e.BC))]):=by
 refine fo func45 rfl ⟨rfl,rfl⟩ fun M0 w0=> ?_
 refine a2 ?_
 refine Tr.block (Tr.BF [(1,_),(9,_),(10,_)] (Js rfl) (fun k:Nat=>[(11,int ((k:Nat):Int))]) (fun k:Nat=>k≤(e.BC).length∧(∀j y,j<k→e.BC[j]? =some y→FV n y=false)) (fun k:Nat=>(e.BC).length-k) 0 (⟨Nat.zero_le _,fun j y hj=>absurd hj (by omega)⟩) ⟨ke rfl,trivial⟩ ?_)
 rintro k ⟨BN,AL⟩
 refine ac ?_
 refine Tr.seq ?_
 refine Tr.cn rfl ?_ ?_<;>intro h1 q1
 have Ac:k<(e.BC).length:=AU h1
 obtain ⟨x,Aa⟩:=at_ Ac
 refine ac ?_
 refine ao ?_
 refine tp rfl (AA rfl underlying37 A8 (vl rfl) (vl rfl) (by omega) (AX Aa)) (tp rfl (AH rfl BM A8 (vl rfl) rfl rfl) ?_)
 refine Tl rfl rfl rfl rfl z32 Df (fun b1=> ?_)
 refine tm rfl ?_
 refine sf 0 7 ⟨rfl,rfl,rfl⟩ rfl rfl rfl rfl ?_
 refine ao ?_
 refine ac ?_
 refine HH 1 6 9 10 11 19 rfl ?_
 refine Tr.cn rfl ?_ ?_<;>intro h2 q2
 refine ac ?_
 refine Tr.ret (Fin.Ar (Fin.AF (Fin.AF (Fin.Ar (Fin.AF (Fin.Dz rfl (CH.Ep _ _) rfl ?_ rfl ?_))))))
 · exact int_eq (by have h_:=Dy (p:=FV n) Aa (by unfold FV;simp_all) AL;unfold QE;rw [←h_];omega)
 · exact bool_eq (by have h_:=Dy (p:=FV n) Aa (by unfold FV;simp_all) AL;unfold QE;rw [←h_];simp)
 refine a2 ?_
 exact Fin.AM (k+1) ⟨⟨Ac,DK (p:=FV n) Aa (by unfold FV;simp_all) AL⟩,by omega⟩ ⟨⟨_,rfl,AK k⟩,ke rfl,ke rfl,ke rfl,trivial⟩
 have A4:k=(e.BC).length:=by have:=AV h1;omega
 subst A4
 refine a2 ?_
 refine Tr.ret (Fin.Dz rfl (CH.Ep _ _) rfl ?_ rfl ?_)
 · exact int_eq (by have h_:=Eh (p:=FV n) AL;unfold QE;rw [←h_];rfl)
 · exact bool_eq (by have h_:=Eh (p:=FV n) AL;unfold QE;rw [←h_];rfl)
def setAt (n:Int) (l:List Int) (i:Nat):Bool:=decide (0≤l[i]?.getD 0)&&decide (l[i]?.getD 0<n)&&(decide (i=0)||decide (l[i-1]?.getD 0<l[i]?.getD 0))
def Eg (n:Int) (l:List Int):Bool:=allI (setAt n l) l.length
theorem Sz {l:List Int} {n:Int}  :A_ prog 99 [ints l,int n] (bool (Eg n l)):=by
 refine fo func99 rfl ⟨rfl,rfl⟩ fun M0 w0=>(Tr.Cr 0 rfl fun Dj=> ?_)
 refine a2 ?_
 refine Tr.block (Tr.BF [(0,_),(1,_),(7,_),(8,_)] (VX rfl) (fun k:Nat=>[(9,int ((k:Nat):Int))]) (fun k:Nat=>k≤(l).length∧(∀j,j<k→setAt n l j=true)) (fun k:Nat=>(l).length-k) 0 (⟨Nat.zero_le _,fun j hj=>absurd hj (by omega)⟩) ⟨ke rfl,trivial⟩ ?_)
 rintro k ⟨BN,AL⟩
 refine ac ?_
 refine Tr.seq ?_
 refine Tr.cn rfl ?_ ?_<;>intro h1 q1
 have Ac:k<(l).length:=AU h1
 obtain ⟨x,Aa⟩:=at_ Ac
 have hg:=Bi (d:=(0:Int)) Aa
 refine a2 ?_
 refine co rfl (AA rfl underlying59 CO (vl rfl) (vl rfl) (by omega) (AX Aa)) ?_
 refine ac ?_
 refine ag ?_ ?_<;>intro h2 q2
 refine ac ?_
 refine HH 0 1 7 8 9 33 rfl ?_
 refine a2 ?_
 · refine bool_eq ?_;unfold Eg;rw [C0 (p:=setAt n l) (k:=k) (by omega) (by unfold setAt;rw [hg];simp_all;omega)]
 refine ag ?_ ?_<;>intro h3 q3
 refine ac ?_
 refine HH 0 1 7 8 9 33 rfl ?_
 refine a2 ?_
 · refine bool_eq ?_;unfold Eg;rw [C0 (p:=setAt n l) (k:=k) (by omega) (by unfold setAt;rw [hg];simp_all;omega)]
 refine ag ?_ ?_<;>intro h4 q4
 have Qz:0<k:=by simpa using h4
 obtain ⟨y,hy⟩:=at_ (l:=l) (k:=k-1) (by omega)
 have IC:=Bi (d:=(0:Int)) hy
 · repeat' first|(refine bool_eq ?_;unfold Eg;rw [C0 (p:=setAt n l) (k:=k) (by omega) (by unfold setAt;rw [hg,IC];simp_all;omega)])|(exact Fin.AM (k+1) ⟨⟨Ac,Bq AL (by unfold setAt;rw [hg,IC];simp_all)⟩,by omega⟩ ⟨⟨_,rfl,AK k⟩,ke rfl,ke rfl,ke rfl,ke rfl,trivial⟩)|(refine cy h4 rfl (AA rfl underlying59 CO (vl rfl) (vl rfl) (by omega) (by rw [show ((k:Nat):Int)-1=((k-1:Nat):Int) by omega];exact AX hy)) ?_)|refine ac ?_|(refine Tr.cn rfl ?_ ?_<;>intro h q)
 have H_:¬0<k:=by simpa using h4
 refine ac ?_
 refine HH 0 1 7 8 9 33 rfl ?_
 refine a2 ?_
 exact Fin.AM (k+1) ⟨⟨Ac,Bq AL (by unfold setAt;rw [hg];simp_all)⟩,by omega⟩ ⟨⟨_,rfl,AK k⟩,ke rfl,ke rfl,ke rfl,ke rfl,trivial⟩
 have A4:k=(l).length:=by have:=AV h1;omega
 subst A4
 refine a3 ?_
 · refine bool_eq ?_;unfold Eg;rw [IW AL]
theorem UB {l:List Int} {v:Int}  :A_ prog 47 [ints l,int v] (bool (l.any fun x=>v==x)):=by
 refine fo func47 rfl ⟨rfl,rfl⟩ fun M0 w0=>(Tr.Cr 0 rfl fun Dj=> ?_)
 refine a2 ?_
 refine Tr.block (Tr.BF [(1,_),(7,_),(8,_)] (Js rfl) (fun k:Nat=>[(9,int ((k:Nat):Int))]) (fun k:Nat=>k≤(l).length∧((l.take k).any (fun x=>v==x)=false)) (fun k:Nat=>(l).length-k) 0 (⟨Nat.zero_le _,rfl⟩) ⟨ke rfl,trivial⟩ ?_)
 rintro k ⟨BN,AL⟩
 refine ac ?_
 refine Tr.seq ?_
 refine Tr.cn rfl ?_ ?_<;>intro h1 q1
 have Ac:k<(l).length:=AU h1
 obtain ⟨x,Aa⟩:=at_ Ac
 refine ac ?_
 refine Tr.seq (Tr.block (Tr.seq (Tr.A3 (co rfl (AA rfl underlying22 CO (vl rfl) (vl rfl) (by omega) (AX Aa)) ?_))))
 · repeat' first|(refine bool_eq ?_;symm;rw [List.any_eq_true];exact ⟨_,List.mem_of_getElem? Aa,by simp_all⟩)|(exact Fin.AM (k+1) ⟨⟨Ac,(by rw [List.take_add_one,Aa,List.any_append,AL];simp;omega)⟩,by omega⟩ ⟨⟨_,rfl,AK k⟩,ke rfl,ke rfl,ke rfl,trivial⟩)|refine ac ?_|(refine Tr.cn rfl ?_ ?_<;>intro h q)
 have A4:k=(l).length:=by have:=AV h1;omega
 subst A4
 refine a3 ?_
 · refine bool_eq ?_;rw [List.take_length] at AL;exact AL.symm
structure DR.sz (e:DR) (n:Nat):Prop where
 BC:∀x∈e.BC,x.sz n
 items:∀x∈e.items,x.name.length≤maxLen∧x.links.length≤1000000
 le:e.BC.length≤1000000
 lg:e.BH.length≤1000000
 li:e.items.length≤1000000
theorem DR.sz.fits {e:DR} {n:Nat} (h:e.sz n) (hn:n≤1000000):e.fits:=
 ⟨fun x hx=>⟨(h.BC x hx).fits,(h.BC x hx).small hn⟩,fun x hx=>(h.items x hx).1,by have:=h.le;omega,by have:=h.lg;omega,by have:=h.li;omega⟩
theorem DR.sz.cN {e:DR} {n m:Nat} (h:e.sz n) (hn:n≤m):e.sz m:=⟨fun x hx=>(h.BC x hx).le hn,h.items,h.le,h.lg,h.li⟩
theorem UC {β γ:Type} {f:β→γ} {l:List β} {k:Nat} {x:β} (h:l[k]? =some x):(l.take k).map f++[f x]=(l.take (k+1)).map f:=by rw [List.take_add_one,h,List.map_append];rfl
theorem VG {e:DR} {n:Nat} (hz:e.sz n) (hn:n≤1000000):Jf prog 88 [agg (CG e)] (fun x=>agg [is x,EF e.BH,GY e.items]) (fun x=>[Af 32 9 (e.BC.map Ah) x]):=by
 refine Jf.of func88 rfl rfl (by exact Nb rfl) fun M0 w0 S rs M1 w1=> ?_
 have n5:=hz.le
 have bn:=hz.lg
 have fH:=hz.li
 refine Tr.seq (Tr.Aq (tp rfl (Bl rfl (Va rfl)) ?_))
 refine Tl rfl rfl rfl rfl z41 Ef (fun b1=> ?_)
 refine ao ?_
 refine ao ?_
 refine tp rfl (Iy rfl underlying38 FL dM Yg rfl (by decide) (vl rfl) (vl rfl) (by simp only [List.length_map,List.length_append,List.length_cons,List.length_nil,List.length_take];unfold maxLen;omega) (by simp only [List.length_map,List.length_append,List.length_cons,List.length_nil,List.length_take];omega)) ?_
 refine tp rfl (oD) ?_
 refine Tl rfl rfl rfl rfl z41 Ef (fun b2=> ?_)
 refine TO.AY 0 rfl rfl rfl (vl rfl) (Va rfl) rfl Bz rfl rfl ?_
 refine ao ?_
 refine ac ?_
 refine HH 1 2 3 14 15 16 rfl (Tr.block (Tr.HN 0 [As (.slice none 0 0) (lens ((e.BC.take 0).map Ah).length),EF e.BH,is (.slice none 0 0)] rfl ⟨NG rfl,Pr.le_of_eq rfl,Lr,trivial⟩ (Tr.R9 32 9 (Tr.Gn [(1,_),(2,_),(3,_),(14,_),(15,_)] ⟨ke rfl,ke rfl,ke rfl,ke rfl,ke rfl,trivial⟩ (fun k v=>[(16,int ((k:Nat):Int))]) (fun k v=>Hp M0 w0 S (B0 32 9 ((e.BC.take k).map Ah) v::AE true b2 41 [As v (lens ((e.BC.take k).map Ah).length),EF e.BH,is (.slice none 0 0)]::AE true b1 41 (([.slice none 0 0,.slice none 0 0,.slice none 0 0]:List Value).map is)::Bv M1 w1::rs)) (fun k:Nat=>k≤(e.BC).length) (fun k:Nat=>(e.BC).length-k) 0 (.slice none 0 0) (Nat.zero_le _) ⟨ke rfl,trivial⟩ (fun _ _ h=>h) ?_))))
 rintro k v BN
 refine ac ?_
 refine Tr.seq ?_
 refine Tr.cn rfl ?_ ?_<;>intro h1 q1
 have Ac:k<(e.BC).length:=AU h1
 obtain ⟨x,Aa⟩:=at_ Ac
 have hxs:=(hz.BC x (List.mem_of_getElem? Aa)).small hn
 refine ac ?_
 refine Tr.seq (Tr.block (Tr.seq (Tr.Aq (tp rfl (AA rfl underlying37 A8 (vl rfl) (vl rfl) (by omega) (by exact AX (by assumption))) ?_))))
 refine tp rfl (AH rfl BM A8 (vl rfl) rfl rfl) ?_
 refine Tl rfl rfl rfl rfl z32 Df (fun b3=> ?_)
 refine sf 0 5 ⟨rfl,rfl,rfl⟩ rfl rfl rfl rfl ?_
 refine ao ?_
 refine Tr.pad (Tr.rx ?_)
 refine ax ?_
 refine xo rfl (fun _=>B1 (RB hxs) rfl rfl) (xo rfl (fun _=>AG (xs:=[.tmp 23]) (rows:=[_]) rfl rfl underlying37 A8 z32 rfl (by decide) ⟨⟨(by exact rfl),(Va rfl)⟩,trivial⟩ (by decide)) ?_)
 refine Cx.ef 1 rfl rfl (by decide) (EK rfl rfl (by decide) rfl underlying37 A8 Yb z32 rfl (by decide) (by decide) (vl rfl) (Kf rfl) (Ak fun _=>rfl) (Nat.zero_lt_succ _) (by simp only [List.length_map,List.length_take,List.length_cons,List.length_nil];unfold maxLen;omega) (by simp only [List.length_map,List.length_take,List.length_cons,List.length_nil];omega)) ?_
 refine xo rfl (fun _=>AD rfl Gt (vl rfl)) (Cx.C7 2 rfl rfl (Dd rfl rfl rfl (vl rfl) rfl Yd (by exact Nb rfl)) ?_)
 refine Cx.nil ⟨by kernel_rfl,?_⟩
 refine BV.M5 1 2 25 rfl rfl (by decide) rfl (fun v1=> ?_)
 refine BV.done ZT ?_
 refine ac ?_
 refine Tr.drop 0 (HH 1 2 3 14 15 16 rfl ?_)
 refine ac ?_
 refine Fin.HN 1 [As v1 (lens ((e.BC.take (k+1)).map Ah).length),EF e.BH,is (.slice none 0 0)] rfl ⟨DD (by simp only [List.length_map,List.length_append,List.length_take,List.length_cons,List.length_nil];omega),Lr,Lr,trivial⟩ ?_
 rw [UC (f:=Ah) Aa]
 exact Fin.Gd (k+1) v1 (⟨Ac,by omega⟩) ⟨⟨_,rfl,AK k⟩,ke rfl,ke rfl,ke rfl,ke rfl,ke rfl,trivial⟩ (fun _ _ h=>h)
 have A4:k=(e.BC).length:=by have:=AV h1;omega
 subst A4
 rw [List.take_length]
 refine a2 ?_
 refine Tr.block (Tr.HN 1 [As v (lens (e.BC.map Ah).length),EF e.BH,As (.slice none 0 0) (GY (e.items.take 0))] rfl ⟨Lr,Lr,Dr rfl,trivial⟩ (Tr.EY 107 5 (Tr.Gn [(2,_),(3,_),(29,_),(30,_)] ⟨ke rfl,ke rfl,ke rfl,ke rfl,trivial⟩ (fun m u=>[(31,int ((m:Nat):Int))]) (fun m u=>Hp M0 w0 S (BJ 107 5 u::B0 32 9 (e.BC.map Ah) v::AE true b2 41 [As v (lens (e.BC.map Ah).length),EF e.BH,As u (GY (e.items.take m))]::AE true b1 41 (([.slice none 0 0,.slice none 0 0,.slice none 0 0]:List Value).map is)::Bv M1 w1::rs)) (fun m:Nat=>m≤(e.items).length) (fun m:Nat=>(e.items).length-m) 0 (.slice none 0 0) (Nat.zero_le _) ⟨ke rfl,trivial⟩ (fun _ _ h=>h) ?_)))
 rintro m u T8
 refine ac ?_
 refine Tr.seq ?_
 refine Tr.cn rfl ?_ ?_<;>intro h2 q2
 have I9:m<(e.items).length:=AU h2
 obtain ⟨y,FB⟩:=at_ I9
 have hyl:=(hz.items y (List.mem_of_getElem? FB)).2
 refine ac ?_
 refine Tr.seq (Tr.block (Tr.seq (Tr.Aq (tp rfl (AA rfl underlying39 Dg (vl rfl) (vl rfl) (by omega) (by exact AX (by assumption))) ?_))))
 refine tp rfl (AH rfl HR Dg (vl rfl) rfl rfl) ?_
 refine Tl rfl rfl rfl rfl z107 LW (fun b4=> ?_)
 refine TO.AY 0 rfl rfl rfl (vl rfl) (Va rfl) rfl Dg rfl rfl ?_
 refine ao ?_
 refine ao ?_
 refine tp rfl (Iy rfl underlying105 EP V5 z152 rfl (by decide) (vl rfl) (vl rfl) (by simp only [List.length_map,List.length_append,List.length_cons,List.length_nil,List.length_take];unfold maxLen;omega) (by simp only [List.length_map,List.length_append,List.length_cons,List.length_nil,List.length_take];omega)) ?_
 refine tp rfl (AD rfl L1 (vl rfl)) (TO.C7 0 rfl rfl (An rfl rfl (vl rfl) (Vo rfl) V3 rfl (by exact Nb rfl) rfl) ?_)
 refine ao ?_
 refine HH 2 3 7 29 30 31 rfl ?_
 refine ao ?_
 refine TO.Ex 1 rfl rfl (by decide) (DF rfl rfl rfl rfl underlying39 Dg Td z107 (Kb rfl) (Kf rfl) (B6 (by exact List.Mem.head _) (Ka rfl))) (fun v2=> ?_)
 refine tp rfl (AD rfl JT (vl rfl)) (TO.C7 3 rfl rfl (An rfl rfl (vl rfl) (Vo rfl) Ye rfl (by exact Nb rfl) rfl) ?_)
 refine ao ?_
 refine Tr.drop 0 ?_
 refine ac ?_
 refine Fin.HN 2 [As v (lens (e.BC.map Ah).length),EF e.BH,As v2 (GY (e.items.take (m+1)))] rfl ⟨Lr,Lr,Dc (UC (f:=EE) FB),trivial⟩ (Fin.Gd (m+1) v2 (⟨I9,by omega⟩) ⟨⟨_,rfl,AK m⟩,ke rfl,ke rfl,ke rfl,ke rfl,trivial⟩ (fun _ _ h=>h))
 have P_:m=(e.items).length:=by have:=AV h2;omega
 subst P_
 refine ac ?_
 refine ao ?_
 refine TO.AY 3 rfl rfl rfl (vl rfl) (Va rfl) rfl Bz rfl rfl ?_
 refine ao ?_
 refine Tr.ret (Fin.Ob 1 rfl (Fin.drop 0 (Fin.drop 1 (Fin.K0 (Fin.Ub v [_] rfl (AW.cell 0 rfl rfl Bu Bz rfl (Lr)) ?_ (List.Perm.refl _))))))
 · exact Ab ⟨Cy _ _,Lr,Pr.le_trans (A7 _ _) (Pr.le_of_eq (by rw [List.take_length])),trivial⟩
def FE (l:List A5) (c:BA):List A5×Int:=
 if c.AP<0∨((l.length:Nat):Int)≤c.AP then (l,40)
 else match l[c.AP.toNat]? with
  |none=>(l,40)
  |some x=>if (CR x c).2.2=0 then (l.set c.AP.toNat (CR x c).1,0) else (l,(CR x c).2.2)
theorem MT {l:List A5} {c:BA} (h:c.AP<0∨((l.length:Nat):Int)≤c.AP):FE l c=(l,40):=if_pos h
theorem Xf {l:List A5} {c:BA} {x:A5} (h:¬(c.AP<0∨((l.length:Nat):Int)≤c.AP)) (hx:l[c.AP.toNat]? =some x):FE l c=if (CR x c).2.2=0 then (l.set c.AP.toNat (CR x c).1,0) else (l,(CR x c).2.2):=by
 unfold FE;rw [if_neg h,hx]
theorem VH {l:List A5} {c:BA} {n eb:Nat} {v:Value} {p1 p2:Pr} (hz:∀x∈l,x.sz n) (hn:n≤900000) (hl:l.length≤1000000) (hc:c.Bj.fits∧c.Bj.small):At prog 89 [ptr eb 0,agg (Am c)] [AE true eb 41 [is v,p1,p2],Af 32 9 (l.map Ah) v] (int (FE l c).2) [AE true eb 41 [is v,p1,p2],Af 32 9 ((FE l c).1.map Ah) v]:=by
 refine At.of func89 rfl rfl (by exact Nb rfl) fun M0 w0 S rs M1 w1=>(Tr.seq ?_)
 have hml:(l.map Ah).length=l.length:=List.length_map _
 refine ac ?_
 refine ag ?_ ?_<;>intro h1 q1
 refine ac ?_
 refine Cg 0 3 19 rfl ?_
 refine ac ?_
 refine Tr.ret (Fin.AF ?_)
 rw [MT (l:=l) (c:=c) (by omega)]
 refine Fin.CN rfl (AW.tmp rfl (Lr)) ?_ (List.Perm.refl _)
 · exact Lr
 refine ac ?_
 refine cy h1 rfl (Bc 1 rfl (E3 rfl underlying37 (vl rfl))) ?_
 refine ac ?_
 refine Cg 0 3 19 rfl ?_
 refine Tr.cn rfl ?_ ?_<;>intro h2 q2
 have hA:=MT (l:=l) (c:=c) (by omega)
 refine ac ?_
 refine Tr.ret (Fin.AF ?_)
 rw [hA]
 refine Fin.CN rfl (AW.tmp rfl (Lr)) ?_ (List.Perm.refl _)
 · exact Lr
 obtain ⟨x,hx⟩:=at_ (l:=l) (k:=c.AP.toNat) (by omega)
 have hA:=Xf (l:=l) (c:=c) (by omega) hx
 have hlt:=A1 hx
 refine ac ?_
 refine Tr.seq (Tr.pad (Tr.rx ?_))
 refine ax ?_
 refine HG 2 rfl rfl (D1 rfl underlying37 A8 (vl rfl) (vl rfl) (by omega) (by rw [List.length_map];omega)) ?_
 refine HG 2 rfl rfl (EL rfl BM A8 (vl rfl) (Ak fun _=>rfl) (by rw [List.getElem?_map,hx];rfl)) ?_
 refine xo rfl (fun _=>AH rfl Be BE (vl rfl) rfl rfl) ?_
 refine xo rfl (fun _=>C8 (Uz (hz x (List.mem_of_getElem? hx)).fits ((hz x (List.mem_of_getElem? hx)).small (by omega)) hc.1 hc.2) rfl rfl rfl) ?_
 refine ax ?_
 refine Cx.ef 0 rfl rfl (by decide) (G7 rfl rfl (by decide) rfl z32 Df) (Cx.C7 0 rfl rfl (G8 rfl rfl rfl rfl (Va rfl) A8 rfl rfl) (xm rfl ?_))
 refine Cx.nil ⟨by kernel_rfl,?_⟩
 refine BV.open_ 0 5 rfl rfl (fun v1=> ?_)
 refine BV.done I8 (Fin.R3 5 0 _ rfl rfl (fun _=>rfl) (fun b1=> ?_))
 refine Fin.go (Fk 0 3 5 6 rfl ?_)
 refine an ?_ ?_<;>intro h3 q3
 rw [if_pos (by have:=q3;omega)] at hA
 refine Tr.rx ?_
 refine ax ?_
 refine HG 2 rfl rfl (D1 rfl underlying37 A8 (vl rfl) (vl rfl) (by omega) (by rw [List.length_map];omega)) ?_
 refine Cx.C7 2 rfl rfl (Dt rfl rfl (vl rfl) (Va rfl) A8 rfl (Ak fun _=>rfl) (by rw [List.getElem?_map,hx];rfl) (by decide) (show _=(l.set c.AP.toNat (CR x c).1).map Ah by rw [List.map_set];rfl)) ?_
 refine Cx.nil ⟨by kernel_rfl,?_⟩
 refine BV.done I8 (Fin.go (Tr.drop 0 (Es 6 rfl ?_)))
 refine ac ?_
 refine Tr.ret ?_
 rw [hA]
 refine Fin.CN rfl (AW.tmp rfl (Lr)) ?_ (List.Perm.refl _)
 · refine int_eq ?_;simp_all
 rw [if_neg (by have:=q3;omega)] at hA
 refine ac ?_
 refine Tr.drop 0 ?_
 refine ac ?_
 refine Tr.ret ?_
 rw [hA]
 refine Fin.CN rfl (AW.tmp rfl (Lr)) ?_ (List.Perm.refl _)
 · exact Lr
def Io (l:List BA):List Int→List A5→List A5×Int
 |[],BC=>(BC,0)
 |i::s,BC=>match l[i.toNat]? with
  |none=>(BC,0)
  |some c=>if (FE BC c).2=0 then Io l s (FE BC c).1 else (BC,(FE BC c).2)
def HF (e:DR) (l:List BA) (s:List Int):DR×Int:=
 if D9 e=false then (Bt,31)
 else if 24<l.length then (Bt,3)
 else if Eg l.length s=false then (Bt,46)
 else if (Io l s e.BC).2=0 then (⟨(Io l s e.BC).1,e.BH,e.items⟩,0) else (Bt,(Io l s e.BC).2)
theorem Ou {l:List BA} {s:List Int} {BC:List A5} {k:Nat} {i:Int} {c:BA} (hi:s[k]? =some i) (hc:l[i.toNat]? =some c):Io l (s.drop k) BC=if (FE BC c).2=0 then Io l (s.drop (k+1)) (FE BC c).1 else (BC,(FE BC c).2):=by
 have hk:=A1 hi
 rw [List.drop_eq_getElem_cons hk]
 rw [List.getElem?_eq_getElem hk] at hi;cases hi
 rw [Io];rw [hc]
theorem QF (l:List A5) (c:BA):(FE l c).1.length=l.length:=by
 unfold FE;split
 · rfl
 ·
  split
  · rfl
  ·
   split
   · exact List.length_set
   · rfl
theorem S0 {l:List A5} {c:BA} {n:Nat} (hz:∀x∈l,x.sz n) (hi:c.Bj.fits∧c.Bj.small):∀x∈(FE l c).1,x.sz (n+1):=by
 have Hx:∀x∈l,x.sz (n+1):=fun x hx=>(hz x hx).le (by omega)
 unfold FE;split
 · exact Hx
 ·
  split
  · exact Hx
  next x hx=>
  split
  next h0=>
   intro y hy
   rcases List.mem_or_eq_of_mem_set hy with hy|hy
   · exact Hx y hy
   ·
    subst hy
    exact (aH (b:=(CR x c).2.1) (by rw [←h0]) (hz x (List.mem_of_getElem? hx)) hi).1
  · exact Hx
def Ov (s:List Int) (k:Nat):Int:=if k=0 then -1 else s[k-1]?.getD 0
theorem S1 {s:List Int} {k:Nat} {i:Int} (h:s[k]? =some i):Ov s (k+1)=i:=by unfold Ov;rw [if_neg (by omega),Nat.add_sub_cancel,h];rfl
theorem Np {n:Int} {s:List Int} {k:Nat} {i:Int} (h:∀j,j<k→setAt n s j=true) (hi:s[k]? =some i):setAt n s k= !(decide (i≤Ov s k)||decide (n≤i)):=by
 have hk:=A1 hi
 unfold setAt Ov
 rw [hi,Option.getD_some]
 rcases Nat.eq_zero_or_pos k with hz|hz
 · subst hz;rw [Bool.eq_iff_iff];simp;omega
 ·
  have h1:=h (k-1) (by omega)
  unfold setAt at h1
  simp only [Bool.and_eq_true,decide_eq_true_eq] at h1
  rw [if_neg (by omega),Bool.eq_iff_iff];simp;omega
theorem MU {n:Int} {s:List Int} {k:Nat} {i:Int} (h:∀j,j<k→setAt n s j=true) (hi:s[k]? =some i) (hb:i≤Ov s k∨n≤i):Eg n s=false:=
 C0 (p:=setAt n s) (k:=k) (A1 hi) (by rw [Np h hi];simp;omega)
theorem Xg {n:Int} {s:List Int} (h:∀j,j<s.length→setAt n s j=true):∀j,j<s.length→(j:Int)≤s[j]?.getD 0
 |0,hj=>by have:=h 0 hj;unfold setAt at this;simp at this;simp;omega
 |j+1,hj=>by
  have h1:=Xg h j (by omega)
  have:=h (j+1) hj
  unfold setAt at this
  simp only [Bool.and_eq_true,Bool.or_eq_true,decide_eq_true_eq,Nat.add_sub_cancel] at this
  omega
theorem QG {n:Nat} {s:List Int} (h:Eg n s=true):s.length≤n:=by
 unfold Eg at h;rw [Bo] at h
 rcases Nat.eq_zero_or_pos s.length with hz|hz
 · omega
 ·
  have h1:=Xg h (s.length-1) (by omega)
  have h2:=h (s.length-1) (by omega)
  unfold setAt at h2
  simp only [Bool.and_eq_true,decide_eq_true_eq] at h2
  omega
theorem UD {n:Nat} {s:List Int} (h:Eg n s=true) {k:Nat} {i:Int} (hi:s[k]? =some i):0≤i∧i<n:=by
 unfold Eg at h;rw [Bo] at h
 have h2:=h k (A1 hi)
 unfold setAt at h2
 rw [hi] at h2
 simp only [Option.getD_some,Bool.and_eq_true,decide_eq_true_eq] at h2
 exact h2.1
theorem I6 {e:DR} {l:List BA} {s:List Int} {n:Nat} (hz:e.sz n) (hn:n≤800000) (hc:∀c∈l,c.Bj.fits∧c.Bj.small):A_ prog 31 [agg (CG e),slice 8 (l.map Am),ints s] (Fa [agg (CG (HF e l s).1),int (HF e l s).2]):=by
 refine fo func31 rfl ⟨rfl,rfl⟩ fun M0 w0=>(Tr.Cr 1 rfl fun Fh=>(Tr.Cr 2 rfl fun Wl=>(Tr.seq (Tr.Aq (tp rfl (Bl rfl (Va rfl)) ?_)))))
 refine Tl rfl rfl rfl rfl z41 Ef (fun b1=> ?_)
 refine ap ?_
 refine ac ?_
 refine co rfl (B1 (Nn (hz.fits (by omega))) rfl rfl) ?_
 refine an ?_ ?_<;>intro h1 q1
 have hA:HF e l s=(Bt,31):=if_pos (by have:=q1;cases h_:D9 e<;>simp_all)
 refine ap ?_
 refine Tr.ret (Fin.Ar (Fin.AF (Fin.C4 rfl (AW.cell 0 rfl rfl Bu Bz rfl (Lr)) (AW.tmp rfl (Lr)) ?_)))
 refine BW ⟨?_,?_,trivial⟩
 · rw [hA];exact Ab ⟨AB 9,AB 2,AB 5,trivial⟩
 · exact int_eq (by rw [hA])
 have hok:D9 e=true:=by have:=q1;cases h_:D9 e<;>simp_all
 refine an ?_ ?_<;>intro h2 q2
 have hA:HF e l s=(Bt,3):=by unfold HF;rw [if_neg (by simp [hok]),if_pos (by have:=q2;omega)]
 refine ap ?_
 refine B3 6 7 rfl (Tr.ret (Fin.Ar (Fin.AF (Fin.C4 rfl (AW.cell 0 rfl rfl Bu Bz rfl (Lr)) (AW.tmp rfl (Lr)) ?_))))
 refine BW ⟨?_,?_,trivial⟩
 · rw [hA];exact Ab ⟨AB 9,AB 2,AB 5,trivial⟩
 · exact int_eq (by rw [hA])
 have fL:l.length≤24:=by have:=q2;omega
 refine a3 ?_
 refine PB 1 2 3 6 8 25 26 27 rfl (Tr.block (Tr.BF [(1,_),(2,_),(3,_),(6,_),(25,_),(26,_)] (kk6 rfl) (fun k:Nat=>[(27,int ((k:Nat):Int)),(8,int (Ov s k))]) (fun k:Nat=>k≤(s).length∧(∀j,j<k→setAt l.length s j=true)) (fun k:Nat=>(s).length-k) 0 (⟨Nat.zero_le _,fun j hj=>absurd hj (by omega)⟩) ⟨ke rfl,⟨_,rfl,int_eq rfl⟩,trivial⟩ ?_))
 rintro k ⟨BN,AL⟩
 refine ac ?_
 refine Tr.seq ?_
 refine Tr.cn rfl ?_ ?_<;>intro h3 q3
 have Ac:k<(s).length:=AU h3
 obtain ⟨i,Aa⟩:=at_ Ac
 have k7:=Np AL Aa
 refine ac ?_
 refine Tr.seq (Tr.block (Tr.seq (Tr.A3 (co rfl (AA rfl underlying59 CO (vl rfl) (vl rfl) (by omega) (AX Aa)) ?_))))
 refine ac ?_
 refine ag ?_ ?_<;>intro h4 q4
 refine ac ?_
 refine gH 1 2 3 6 10 25 26 27 39 rfl (Tr.cond rfl (fun _=> ?_) (fun h=>nomatch h))
 refine Tr.seq (Tr.Aq (tp rfl (Al (rows:=[]) rfl Yf Ef trivial rfl) (TO.AY 0 rfl rfl rfl (vl rfl) (Va rfl) rfl Bz rfl rfl (tm rfl (TO.nil (Fin.go (Tr.ret (Fin.AF (Fin.Ar (Fin.AF (Fin.AF (Fin.Ar (Fin.AF (Fin.C4 rfl (AW.cell 0 rfl rfl Bu Bz rfl (Lr)) (AW.tmp rfl (Lr)) ?_))))))))))))))
 refine BW ⟨?_,?_,trivial⟩
 · rw [(show HF e l s=(Bt,46) by unfold HF;rw [if_neg (by simp [hok]),if_neg (by omega),if_pos (MU AL Aa (by omega))])];exact Ab ⟨AB 9,AB 2,AB 5,trivial⟩
 · exact int_eq (by rw [(show HF e l s=(Bt,46) by unfold HF;rw [if_neg (by simp [hok]),if_neg (by omega),if_pos (MU AL Aa (by omega))])])
 refine ac ?_
 refine gH 1 2 3 6 10 25 26 27 39 rfl ?_
 refine Tr.cn rfl ?_ ?_<;>intro h5 q5
 refine ap ?_
 refine Tr.ret (Fin.AF (Fin.Ar (Fin.AF (Fin.AF (Fin.Ar (Fin.AF (Fin.C4 rfl (AW.cell 0 rfl rfl Bu Bz rfl (Lr)) (AW.tmp rfl (Lr)) ?_)))))))
 refine BW ⟨?_,?_,trivial⟩
 · rw [(show HF e l s=(Bt,46) by unfold HF;rw [if_neg (by simp [hok]),if_neg (by omega),if_pos (MU AL Aa (by omega))])];exact Ab ⟨AB 9,AB 2,AB 5,trivial⟩
 · exact int_eq (by rw [(show HF e l s=(Bt,46) by unfold HF;rw [if_neg (by simp [hok]),if_neg (by omega),if_pos (MU AL Aa (by omega))])])
 refine a3 ?_
 exact Fin.AM (k+1) ⟨⟨Ac,Bq AL (by rw [k7];simp;omega)⟩,by omega⟩ ⟨⟨_,rfl,AK k⟩,⟨_,rfl,int_eq (by rw [S1 Aa])⟩,ke rfl,ke rfl,ke rfl,ke rfl,ke rfl,ke rfl,trivial⟩
 have A4:k=(s).length:=by have:=AV h3;omega
 subst A4
 have hsb:Eg l.length s=true:=Bo.2 AL
 have hsn:=QG hsb
 have hel:=hz.le
 refine ac ?_
 refine ap ?_
 refine TO.LY rfl rfl (by decide) rfl (VG hz (by omega)) ⟨ke rfl,trivial⟩ (fun v1=> ?_)
 refine Tl rfl rfl rfl rfl z41 Ef (fun b2=> ?_)
 refine ap ?_
 refine ac ?_
 refine HH 1 6 11 45 46 47 rfl (Tr.block (Tr.IK [(1,_),(6,_),(11,_),(45,_),(46,_)] ⟨ke rfl,ke rfl,ke rfl,ke rfl,ke rfl,trivial⟩ (fun (m:Nat) (BC:List A5)=>[(47,int ((m:Nat):Int))]) (fun (m:Nat) (BC:List A5)=>Hp M0 w0 Mg ([AE true b2 41 [is v1,EF e.BH,GY e.items],Af 32 9 (BC.map Ah) v1,AE true b1 41 (([.slice none 0 0,.slice none 0 0,.slice none 0 0]:List Value).map is)])) (fun (m:Nat) (BC:List A5)=>m≤s.length∧(∀x∈BC,x.sz (n+m))∧BC.length=e.BC.length∧Io l (s.drop m) BC=Io l s e.BC) (fun (m:Nat) (BC:List A5)=>s.length-m) (0) (e.BC)  (⟨Nat.zero_le _,hz.BC,rfl,rfl⟩) ⟨ke rfl,trivial⟩ (fun _ _ h=>h) ?_))
 rintro m BC  ⟨hm1,Sh,hm3,fM⟩
 refine ac ?_
 refine Tr.seq ?_
 refine Tr.cn rfl ?_ ?_<;>intro h6 q6
 have bG:m<s.length:=by have:=FX.Gp h6;omega
 obtain ⟨i,FB⟩:=at_ bG
 have iV:=UD hsb FB
 obtain ⟨c,aj⟩:=at_ (l:=l) (k:=i.toNat) (by omega)
 have QH:=hc c (List.mem_of_getElem? aj)
 have hst:=Ou (BC:=BC) FB aj
 rw [fM] at hst
 refine ac ?_
 refine Tr.seq (Tr.block (Tr.seq (Tr.A3 (co rfl (AA rfl underlying59 CO (vl rfl) (vl rfl) (by omega) (AX FB)) ?_))))
 refine ac ?_
 refine ap ?_
 refine tp rfl (AA rfl underlying47 BE (vl rfl) (vl rfl) (by omega) (DC (f:=Am) aj)) (tp rfl (AH rfl Be BE (vl rfl) rfl rfl) ?_)
 refine TO.C5 _ rfl rfl (by decide) rfl (VH (l:=BC) (c:=c) Sh (by omega) (by omega) QH) ⟨ke rfl,ke rfl,trivial⟩ ((AO (j:=0) rfl).trans (List.Perm.cons _ ((AO (j:=0) rfl).trans (List.Perm.cons _ (List.Perm.refl _))))) ?_
 refine ap ?_
 refine i7 1 6 11 14 45 46 47 rfl ?_
 refine an ?_ ?_<;>intro h7 q7
 have cO:¬(FE BC c).2=0:=by have:=q7;omega
 rw [if_neg cO] at hst
 have hA:HF e l s=(Bt,(FE BC c).2):=by unfold HF;rw [if_neg (by simp [hok]),if_neg (by omega),if_neg (by simp [hsb]),hst];exact if_neg cO
 refine ap ?_
 refine Tr.ret (Fin.Ar (Fin.AF (Fin.AF (Fin.Ar (Fin.AF (Fin.C4 rfl (AW.cell 2 rfl rfl Bu Bz rfl (Lr)) (AW.tmp rfl (Lr)) ?_))))))
 refine BW ⟨?_,?_,trivial⟩
 · rw [hA];exact Ab ⟨AB 9,AB 2,AB 5,trivial⟩
 · exact int_eq (by rw [hA])
 have cO:=q7
 refine a2 ?_
 exact Fin.J4 (m+1) ((FE BC c).1)  (⟨⟨by omega,by have:=S0 (c:=c) Sh QH;rw [show n+(m+1)=n+m+1 by omega];exact this,by rw [QF];exact hm3,by rw [hst,if_pos (by omega)]⟩,by omega⟩) ⟨⟨_,rfl,AK m⟩,ke rfl,ke rfl,ke rfl,ke rfl,ke rfl,trivial⟩ (fun _ _ h=>h)
 obtain rfl:m=s.length:=by have:=FX.Gp h6;omega
 rw [List.drop_length] at fM
 have hA:HF e l s=(⟨BC,e.BH,e.items⟩,0):=by unfold HF;rw [if_neg (by simp [hok]),if_neg (by omega),if_neg (by simp [hsb]),←fM];exact if_pos rfl
 refine ac ?_
 refine Tr.seq (Tr.Fv 0 1 0 rfl rfl (by decide) rfl (Lr) (Ak fun _=>rfl) ?_)
 refine ap ?_
 refine Tr.ret (Fin.C4 rfl (AW.cell 2 rfl rfl Bu Bz rfl (Lr)) (AW.tmp rfl (Lr)) ?_)
 refine BW ⟨?_,?_,trivial⟩
 · rw [hA];exact Lr
 · exact int_eq (by rw [hA])
theorem rE:Eg ((1:Nat):Int) [0]=true:=by decide
theorem lf:Eg ((2:Nat):Int) [0,1]=true:=by decide
def Gk (e:DR) (c:BA):DR×Int:=if (FE e.BC c).2=0 then (⟨(FE e.BC c).1,e.BH,e.items⟩,0) else (Bt,(FE e.BC c).2)
def I_ (e:DR) (c:BA):DR×Int:=if D9 e=false then (Bt,31) else Gk e c
theorem Xh (c:BA) (BC:List A5):Io [c] [0] BC=if (FE BC c).2=0 then ((FE BC c).1,0) else (BC,(FE BC c).2):=rfl
theorem Xi (e:DR) (c:BA):HF e [c] [0]=I_ e c:=by
 unfold HF I_
 by_cases h:D9 e=false
 · rw [if_pos h,if_pos h]
 ·
  rw [if_neg h,if_neg h,if_neg (by simp),if_neg (by show ¬Eg ((1:Nat):Int) [0]=false;rw [rE];decide),Xh]
  unfold Gk
  by_cases h2:(FE e.BC c).2=0
  · rw [if_pos h2,if_pos rfl,if_pos h2]
  · rw [if_neg h2,if_neg h2,if_neg h2]
def Hl (a b:BA) (BC:List A5):List A5×Int:=if (FE BC a).2=0 then (if (FE (FE BC a).1 b).2=0 then ((FE (FE BC a).1 b).1,0) else ((FE BC a).1,(FE (FE BC a).1 b).2)) else (BC,(FE BC a).2)
theorem Xj (a b:BA) (BC:List A5):Io [a,b] [0,1] BC=Hl a b BC:=rfl
theorem fN (e:DR) (a b:BA) (h:D9 e=true):HF e [a,b] [0,1]=if (Hl a b e.BC).2=0 then (⟨(Hl a b e.BC).1,e.BH,e.items⟩,0) else (Bt,(Hl a b e.BC).2):=by
 unfold HF
 rw [if_neg (by simp [h]),if_neg (by simp),if_neg (by show ¬Eg ((2:Nat):Int) [0,1]=false;rw [lf];decide),Xj]
theorem UE (e:DR) (a b:BA) (h:D9 e=true):(HF e [a,b] [0,1]).2=(Hl a b e.BC).2∧((Hl a b e.BC).2=0→(HF e [a,b] [0,1]).1=⟨(Hl a b e.BC).1,e.BH,e.items⟩):=by
 rw [fN e a b h]
 by_cases h0:(Hl a b e.BC).2=0
 · rw [if_pos h0];exact ⟨h0.symm,fun _=>rfl⟩
 · rw [if_neg h0];exact ⟨rfl,fun h=>absurd h h0⟩
def N9 (e:DR) (a b:BA):Bool:=decide ((Hl a b e.BC).2=0∧(Hl b a e.BC).2=0∧(Hl a b e.BC).1=(Hl b a e.BC).1)
def Nq (e:DR) (a b:BA):Bool×Int:=if D9 e=false then (false,31) else (N9 e a b,0)
def Jn (x:Jv) (l:List BA) (i:Nat):Bool:=(l[i]?).any fun c=>decide (c.AP=x.client∨c.AP=x.server)
def LB (x:Jv) (l:List BA) (k:Nat):List Int:=((List.range k).filter (Jn x l)).map fun i:Nat=>(i:Int)
theorem KZ {x:Jv} {l:List BA} {k:Nat} (h:Jn x l k=true):LB x l (k+1)=LB x l k++[(k:Int)]:=by unfold LB;rw [List.range_succ,List.filter_append,List.map_append];simp [h]
theorem UF {x:Jv} {l:List BA} {k:Nat} (h:Jn x l k=false):LB x l (k+1)=LB x l k:=by unfold LB;rw [List.range_succ,List.filter_append,List.map_append];simp [h]
theorem Rd (x:Jv) (l:List BA) (k:Nat):(LB x l k).length≤k:=by unfold LB;rw [List.length_map];exact Nat.le_trans (List.length_filter_le _ _) (by rw [List.length_range];exact Nat.le_refl _)
def EH (e:DR) (l:List BA) (k:Int):List Int×Int:=
 if D9 e=false then ([],31) else if 24<l.length then ([],3) else if k<0∨((e.BH.length:Nat):Int)≤k then ([],4)
 else (LB (e.BH[k.toNat]?.getD Fj) l l.length,0)
theorem Ow {e:DR} {c:BA} {n:Nat} (hz:e.sz n) (hn:n≤800000) (QH:c.Bj.fits∧c.Bj.small):A_ prog 33 [agg (CG e),agg (Am c)] (Fa [agg (CG (I_ e c).1),int (I_ e c).2]):=by
 refine fo func33 rfl ⟨rfl,rfl⟩ fun M0 w0=>(Tr.seq (Tr.Aq (tp rfl (Bl rfl (Va rfl)) (tp rfl (Bl rfl (Va rfl)) ?_))))
 refine Tl rfl rfl rfl rfl z41 Ef (fun b1=> ?_)
 refine ap ?_
 refine ap ?_
 refine tp rfl (Ae rfl (I6 (e:=e) (l:=[c]) (s:=[0]) hz hn (fun x hx=>by simp at hx;subst hx;exact QH)) ⟨ke rfl,⟨_,rfl,Pr.le_trans (Au _ _) (Pr.le_of_eq (show _=slice 8 (([c]:List BA).map Am) from rfl))⟩,⟨_,rfl,Pr.le_trans (Au _ _) (Pr.le_of_eq (show _=ints [0] from rfl))⟩,trivial⟩) ?_
 refine ap ?_
 refine Tr.ret (Fin.C4 rfl (AW.cell 0 rfl rfl Bu Bz rfl (Lr)) (AW.tmp rfl (Lr)) ?_)
 refine BW ⟨?_,?_,trivial⟩
 · rw [←Xi];exact Lr
 · exact int_eq (by rw [Xi])
theorem Re {e:DR} {a b:BA} {n:Nat} (hz:e.sz n) (hn:n≤800000) (hai:a.Bj.fits∧a.Bj.small) (ZE:b.Bj.fits∧b.Bj.small):A_ prog 38 [agg (CG e),agg (Am a),agg (Am b)] (Fa [bool (Nq e a b).1,int (Nq e a b).2]):=by
 refine fo func38 rfl ⟨rfl,rfl⟩ fun M0 w0=> ?_
 refine a2 ?_
 refine co rfl (B1 (Nn (hz.fits (by omega))) rfl rfl) ?_
 refine an ?_ ?_<;>intro h1 q1
 have hA:Nq e a b=(false,31):=if_pos (by have:=q1;cases h_:D9 e<;>simp_all)
 refine ac ?_
 refine Tr.ret (Fin.AF (Fin.Dz rfl (CH.Ep _ _) rfl ?_ rfl ?_))
 · exact bool_eq (by rw [hA])
 · exact int_eq (by rw [hA])
 have hok:D9 e=true:=by have:=q1;cases h_:D9 e<;>simp_all
 have hA:Nq e a b=(N9 e a b,0):=if_neg (by simp [hok])
 obtain ⟨hs1,K1⟩:=UE e a b hok
 obtain ⟨SS,Uw⟩:=UE e b a hok
 refine ac ?_
 refine ao ?_
 refine tp rfl (Ae rfl (I6 (e:=e) (l:=[a,b]) (s:=[0,1]) hz hn (fun x hx=>by simp at hx;rcases hx with rfl|rfl;exact hai;exact ZE)) ⟨ke rfl,⟨_,rfl,Pr.le_trans (Au _ _) (Pr.le_of_eq (show _=slice 8 (([a,b]:List BA).map Am) from rfl))⟩,⟨_,rfl,Pr.le_trans (Au _ _) (Pr.le_of_eq (show _=ints [0,1] from rfl))⟩,trivial⟩) ?_
 refine ao ?_
 refine Tl rfl rfl rfl rfl z41 Ef (fun b1=> ?_)
 refine sf 0 8 ⟨rfl,rfl,rfl⟩ rfl rfl rfl rfl ?_
 refine ao ?_
 refine Ej 3 4 5 8 9 rfl ?_
 refine ao ?_
 refine tp rfl (Ae rfl (I6 (e:=e) (l:=[b,a]) (s:=[0,1]) hz hn (fun x hx=>by simp at hx;rcases hx with rfl|rfl;exact ZE;exact hai)) ⟨ke rfl,⟨_,rfl,Pr.le_trans (Au _ _) (Pr.le_of_eq (show _=slice 8 (([b,a]:List BA).map Am) from rfl))⟩,⟨_,rfl,Pr.le_trans (Au _ _) (Pr.le_of_eq (show _=ints [0,1] from rfl))⟩,trivial⟩) ?_
 refine ao ?_
 refine Tl rfl rfl rfl rfl z41 Ef (fun b2=> ?_)
 refine sf 0 10 ⟨rfl,rfl,rfl⟩ rfl rfl rfl rfl ?_
 refine ao ?_
 refine Fk 8 9 10 11 rfl ?_
 refine ag ?_ ?_<;>intro h2 q2
 refine ag ?_ ?_<;>intro h3 q3
 refine ac ?_
 refine cy h3 rfl (C8 (KY) rfl rfl rfl) ?_
 refine ac ?_
 refine B3 6 7 rfl (Tr.ret (Fin.Dz rfl (CH.Ep _ _) rfl ?_ rfl ?_))
 · refine bool_eq ?_;rw [hA];unfold N9;simp_all
 · exact int_eq (by rw [hA])
 refine ac ?_
 refine B3 6 7 rfl (Tr.ret (Fin.Dz rfl (CH.Ep _ _) rfl ?_ rfl ?_))
 · refine bool_eq ?_;rw [hA];unfold N9;simp_all
 · exact int_eq (by rw [hA])
 refine ac ?_
 refine B3 6 7 rfl (Tr.ret (Fin.Dz rfl (CH.Ep _ _) rfl ?_ rfl ?_))
 · refine bool_eq ?_;rw [hA];unfold N9;simp_all
 · exact int_eq (by rw [hA])
theorem QI {e:DR} {l:List BA} {i:Int} {n:Nat} (hz:e.sz n) (hn:n≤800000)  :A_ prog 41 [agg (CG e),slice 8 (l.map Am),int i] (Fa [ints (EH e l i).1,int (EH e l i).2]):=by
 refine fo func41 rfl ⟨rfl,rfl⟩ fun M0 w0=>(Tr.Cr 1 rfl fun Fh=> ?_)
 refine a2 ?_
 refine co rfl (B1 (Nn (hz.fits (by omega))) rfl rfl) ?_
 refine an ?_ ?_<;>intro h1 q1
 have hA:EH e l i=([],31):=if_pos (by have:=q1;cases h_:D9 e<;>simp_all)
 refine ac ?_
 refine Tr.ret (Fin.Ar (Fin.AF (Fin.Dz rfl (CH.Ep _ _) rfl ?_ rfl ?_)))
 · rw [hA];exact AB 1
 · exact int_eq (by rw [hA])
 have hok:D9 e=true:=by have:=q1;cases h_:D9 e<;>simp_all
 refine an ?_ ?_<;>intro h2 q2
 have hA:EH e l i=([],3):=by unfold EH;rw [if_neg (by simp [hok]),if_pos (by have:=q2;omega)]
 refine ac ?_
 refine Tr.ret (Fin.Ar (Fin.AF (Fin.Dz rfl (CH.Ep _ _) rfl ?_ rfl ?_)))
 · rw [hA];exact AB 1
 · exact int_eq (by rw [hA])
 have fL:l.length≤24:=by have:=q2;omega
 refine ag ?_ ?_<;>intro h3 q3
 refine ac ?_
 refine Fk 1 2 3 20 rfl ?_
 refine ac ?_
 refine Tr.ret (Fin.Ar (Fin.AF (Fin.Dz rfl (CH.Ep _ _) rfl ?_ rfl ?_)))
 · rw [(show EH e l i=([],4) by unfold EH;rw [if_neg (by simp [hok]),if_neg (by omega),if_pos (by omega)])];exact AB 1
 · exact int_eq (by rw [(show EH e l i=([],4) by unfold EH;rw [if_neg (by simp [hok]),if_neg (by omega),if_pos (by omega)])])
 refine ac ?_
 refine Fk 1 2 3 20 rfl ?_
 refine Tr.cn rfl ?_ ?_<;>intro h4 q4
 refine ac ?_
 refine Tr.ret (Fin.Ar (Fin.AF (Fin.Dz rfl (CH.Ep _ _) rfl ?_ rfl ?_)))
 · rw [(show EH e l i=([],4) by unfold EH;rw [if_neg (by simp [hok]),if_neg (by omega),if_pos (by omega)])];exact AB 1
 · exact int_eq (by rw [(show EH e l i=([],4) by unfold EH;rw [if_neg (by simp [hok]),if_neg (by omega),if_pos (by omega)])])
 obtain ⟨g,hg⟩:=at_ (l:=e.BH) (k:=i.toNat) (by omega)
 have hA:EH e l i=(LB g l l.length,0):=by unfold EH;rw [if_neg (by simp [hok]),if_neg (by omega),if_neg (by omega),Bi hg]
 refine a3 ?_
 refine Tr.block (Tr.EY 3 1 (Tr.Gn [(2,_),(3,_),(30,_),(31,_)] ⟨ke rfl,ke rfl,ke rfl,ke rfl,trivial⟩ (fun k v=>[(32,int ((k:Nat):Int)),(8,As v (ints (LB g l k)))]) (fun k v=>Hp M0 w0 Mg ([BJ 3 1 v])) (fun k:Nat=>k≤(l).length) (fun k:Nat=>(l).length-k) 0 (.slice none 0 0) (Nat.zero_le _) ⟨ke rfl,⟨_,rfl,Dr rfl⟩,trivial⟩ (fun _ _ h=>h) ?_))
 rintro k v BN
 refine ac ?_
 refine Tr.seq ?_
 refine Tr.cn rfl ?_ ?_<;>intro h5 q5
 have Ac:k<(l).length:=AU h5
 obtain ⟨c,Aa⟩:=at_ Ac
 have hrl:=Rd g l k
 refine ac ?_
 refine ao ?_
 refine tp rfl (AA rfl underlying47 BE (vl rfl) (vl rfl) (by omega) (AX Aa)) (tp rfl (AH rfl Be BE (vl rfl) rfl rfl) ?_)
 refine Tl rfl rfl rfl rfl z29 Fo (fun b1=> ?_)
 refine tm rfl ?_
 refine sf 0 10 ⟨rfl,rfl,rfl⟩ rfl rfl rfl rfl ?_
 refine ao ?_
 refine PB 2 3 8 9 10 30 31 32 rfl ?_
 refine ao ?_
 refine tp rfl (AA rfl underlying38 FL (vl rfl) (vl rfl) (by omega) (DC (f:=aW) hg)) (tp rfl (AH rfl OM FL (vl rfl) rfl rfl) ?_)
 refine Tl rfl rfl rfl rfl Yg R7 (fun b2=> ?_)
 refine sf 0 11 ⟨rfl,rfl,rfl⟩ rfl rfl rfl rfl ?_
 refine ao ?_
 refine gH 2 3 8 9 10 11 30 31 32 rfl ?_
 refine ag ?_ ?_<;>intro h6 q6
 have hP:Jn g l k=true:=by unfold Jn;rw [Aa];simp;omega
 refine ac ?_
 refine PB 2 3 8 9 30 31 32 53 rfl (Tr.cond rfl (fun _=> ?_) (fun h=>nomatch h))
 refine Tr.Aq (tm rfl (tm rfl (tp rfl (AG (xs:=[.tmp 55]) (rows:=[[_]]) rfl rfl underlying59 CO z3 rfl (by decide) ⟨⟨(by exact rfl),(Vo rfl)⟩,trivial⟩ (by decide)) ?_)))
 refine TO.Ex 0 rfl rfl (by decide) (DF rfl rfl rfl rfl underlying59 CO OJ z3 (Kb rfl) (Kf rfl) (B6 (by exact List.Mem.head _) (Ka rfl))) (fun v1=> ?_)
 refine ao ?_
 refine ac ?_
 exact Fin.Gd (k+1) v1 (⟨Ac,by omega⟩) ⟨⟨_,rfl,AK k⟩,⟨_,rfl,Dc (by rw [KZ hP,List.map_append];rfl)⟩,ke rfl,ke rfl,ke rfl,ke rfl,trivial⟩ (fun _ _ h=>h)
 refine ac ?_
 refine PB 2 3 8 9 30 31 32 53 rfl ?_
 refine Tr.cn rfl ?_ ?_<;>intro h7 q7
 have hP:Jn g l k=true:=by unfold Jn;rw [Aa];simp;omega
 refine ao ?_
 refine TO.Ex 0 rfl rfl (by decide) (DF rfl rfl rfl rfl underlying59 CO OJ z3 (Kb rfl) (Kf rfl) (B6 (by exact List.Mem.head _) (Ka rfl))) (fun v2=> ?_)
 refine ao ?_
 refine ac ?_
 exact Fin.Gd (k+1) v2 (⟨Ac,by omega⟩) ⟨⟨_,rfl,AK k⟩,⟨_,rfl,Dc (by rw [KZ hP,List.map_append];rfl)⟩,ke rfl,ke rfl,ke rfl,ke rfl,trivial⟩ (fun _ _ h=>h)
 have hP:Jn g l k=false:=by unfold Jn;rw [Aa];simp;omega
 refine a2 ?_
 exact Fin.Gd (k+1) v (⟨Ac,by omega⟩) ⟨⟨_,rfl,AK k⟩,⟨_,rfl,Pr.le_of_eq (by rw [UF hP])⟩,ke rfl,ke rfl,ke rfl,ke rfl,trivial⟩ (fun _ _ h=>h)
 have A4:k=(l).length:=by have:=AV h5;omega
 subst A4
 refine a2 ?_
 refine Tr.ret (Fin.Dz rfl (CH.Ep _ _) rfl ?_ rfl ?_)
 · rw [hA];exact A7 _ _
 · exact int_eq (by rw [hA])
theorem Jo {e:DR} {n:Nat} (hz:e.sz n) (hn:n≤1000000):Jf prog 35 [agg (CG e)] (fun x=>agg [is x,EF e.BH,GY e.items]) (fun x=>[Af 32 9 (e.BC.map Ah) x]):=by
 refine Jf.of func35 rfl rfl (by exact Nb rfl) fun M0 w0 S rs M1 w1=> ?_
 have n5:=hz.le
 have bn:=hz.lg
 have fH:=hz.li
 refine Tr.seq (Tr.Aq (tp rfl (Bl rfl (Va rfl)) ?_))
 refine Tl rfl rfl rfl rfl z41 Ef (fun b1=> ?_)
 refine ao ?_
 refine ao ?_
 refine tp rfl (Iw rfl underlying38 FL dM Yg rfl (by decide) (vl rfl) (by simp only [List.length_map,List.length_append,List.length_cons,List.length_nil,List.length_take];unfold maxLen;omega) (by simp only [List.length_map,List.length_append,List.length_cons,List.length_nil,List.length_take];omega)) ?_
 refine tp rfl (oD) ?_
 refine Tl rfl rfl rfl rfl z41 Ef (fun b2=> ?_)
 refine TO.AY 0 rfl rfl rfl (vl rfl) (Va rfl) rfl Bz rfl rfl ?_
 refine ao ?_
 refine ac ?_
 refine Tr.block (Tr.HN 0 [As (.slice none 0 0) (lens ((e.BC.take 0).map Ah).length),EF e.BH,is (.slice none 0 0)] rfl ⟨NG rfl,Lr,Lr,trivial⟩ (Tr.R9 32 9 (Tr.Gn [(1,_),(2,_),(3,_),(13,_),(14,_)] ⟨ke rfl,ke rfl,ke rfl,ke rfl,ke rfl,trivial⟩ (fun k v=>[(15,int ((k:Nat):Int))]) (fun k v=>Hp M0 w0 S (B0 32 9 ((e.BC.take k).map Ah) v::AE true b2 41 [As v (lens ((e.BC.take k).map Ah).length),EF e.BH,is (.slice none 0 0)]::AE true b1 41 (([.slice none 0 0,.slice none 0 0,.slice none 0 0]:List Value).map is)::Bv M1 w1::rs)) (fun k:Nat=>k≤(e.BC).length) (fun k:Nat=>(e.BC).length-k) 0 (.slice none 0 0) (Nat.zero_le _) ⟨ke rfl,trivial⟩ (fun _ _ h=>h) ?_)))
 rintro k v BN
 refine ac ?_
 refine Tr.seq ?_
 refine Tr.cn rfl ?_ ?_<;>intro h1 q1
 have Ac:k<(e.BC).length:=AU h1
 obtain ⟨x,Aa⟩:=at_ Ac
 have hxs:=(hz.BC x (List.mem_of_getElem? Aa)).small hn
 refine ac ?_
 refine Tr.seq (Tr.block (Tr.seq (Tr.Aq (tp rfl (AA rfl underlying37 A8 (vl rfl) (vl rfl) (by omega) (by exact AX (by assumption))) ?_))))
 refine tp rfl (AH rfl BM A8 (vl rfl) rfl rfl) ?_
 refine Tl rfl rfl rfl rfl z32 Df (fun b3=> ?_)
 refine sf 0 5 ⟨rfl,rfl,rfl⟩ rfl rfl rfl rfl ?_
 refine ao ?_
 refine Tr.pad (Tr.rx ?_)
 refine ax ?_
 refine xo rfl (fun _=>B1 (Oq hxs) rfl rfl) (xo rfl (fun _=>AG (xs:=[.tmp 22]) (rows:=[_]) rfl rfl underlying37 A8 z32 rfl (by decide) ⟨⟨(by exact rfl),(Va rfl)⟩,trivial⟩ (by decide)) ?_)
 refine Cx.ef 1 rfl rfl (by decide) (EK rfl rfl (by decide) rfl underlying37 A8 Yb z32 rfl (by decide) (by decide) (vl rfl) (Kf rfl) (Ak fun _=>rfl) (Nat.zero_lt_succ _) (by simp only [List.length_map,List.length_take,List.length_cons,List.length_nil];unfold maxLen;omega) (by simp only [List.length_map,List.length_take,List.length_cons,List.length_nil];omega)) ?_
 refine xo rfl (fun _=>AD rfl Gt (vl rfl)) (Cx.C7 2 rfl rfl (Dd rfl rfl rfl (vl rfl) rfl Yd (by exact Nb rfl)) ?_)
 refine Cx.nil ⟨by kernel_rfl,?_⟩
 refine BV.M5 1 2 24 rfl rfl (by decide) rfl (fun v1=> ?_)
 refine BV.done ZT ?_
 refine ac ?_
 refine Tr.drop 0 (HH 1 2 3 13 14 15 rfl ?_)
 refine ac ?_
 refine Fin.HN 1 [As v1 (lens ((e.BC.take (k+1)).map Ah).length),EF e.BH,is (.slice none 0 0)] rfl ⟨DD (by simp only [List.length_map,List.length_append,List.length_take,List.length_cons,List.length_nil];omega),Lr,Lr,trivial⟩ ?_
 rw [UC (f:=Ah) Aa]
 exact Fin.Gd (k+1) v1 (⟨Ac,by omega⟩) ⟨⟨_,rfl,AK k⟩,ke rfl,ke rfl,ke rfl,ke rfl,ke rfl,trivial⟩ (fun _ _ h=>h)
 have A4:k=(e.BC).length:=by have:=AV h1;omega
 subst A4
 rw [List.take_length]
 refine a2 ?_
 refine Tr.block (Tr.HN 1 [As v (lens (e.BC.map Ah).length),EF e.BH,As (.slice none 0 0) (GY (e.items.take 0))] rfl ⟨Lr,Lr,Dr rfl,trivial⟩ (Tr.EY 107 5 (Tr.Gn [(2,_),(3,_),(28,_),(29,_)] ⟨ke rfl,ke rfl,ke rfl,ke rfl,trivial⟩ (fun m u=>[(30,int ((m:Nat):Int))]) (fun m u=>Hp M0 w0 S (BJ 107 5 u::B0 32 9 (e.BC.map Ah) v::AE true b2 41 [As v (lens (e.BC.map Ah).length),EF e.BH,As u (GY (e.items.take m))]::AE true b1 41 (([.slice none 0 0,.slice none 0 0,.slice none 0 0]:List Value).map is)::Bv M1 w1::rs)) (fun m:Nat=>m≤(e.items).length) (fun m:Nat=>(e.items).length-m) 0 (.slice none 0 0) (Nat.zero_le _) ⟨ke rfl,trivial⟩ (fun _ _ h=>h) ?_)))
 rintro m u T8
 refine ac ?_
 refine Tr.seq ?_
 refine Tr.cn rfl ?_ ?_<;>intro h2 q2
 have I9:m<(e.items).length:=AU h2
 obtain ⟨y,FB⟩:=at_ I9
 have hyl:=(hz.items y (List.mem_of_getElem? FB)).2
 refine ac ?_
 refine Tr.seq (Tr.block (Tr.seq (Tr.Aq (tp rfl (AA rfl underlying39 Dg (vl rfl) (vl rfl) (by omega) (by exact AX (by assumption))) ?_))))
 refine tp rfl (AH rfl HR Dg (vl rfl) rfl rfl) ?_
 refine Tl rfl rfl rfl rfl z107 LW (fun b4=> ?_)
 refine TO.AY 0 rfl rfl rfl (vl rfl) (Va rfl) rfl Dg rfl rfl ?_
 refine ao ?_
 refine ao ?_
 refine tp rfl (Iw rfl underlying105 EP V5 z152 rfl (by decide) (vl rfl) (by simp only [List.length_map,List.length_append,List.length_cons,List.length_nil,List.length_take];unfold maxLen;omega) (by simp only [List.length_map,List.length_append,List.length_cons,List.length_nil,List.length_take];omega)) ?_
 refine tp rfl (AD rfl L1 (vl rfl)) (TO.C7 0 rfl rfl (An rfl rfl (vl rfl) (Vo rfl) V3 rfl (by exact Nb rfl) rfl) ?_)
 refine ao ?_
 refine HH 2 3 7 28 29 30 rfl ?_
 refine ao ?_
 refine TO.Ex 1 rfl rfl (by decide) (DF rfl rfl rfl rfl underlying39 Dg Td z107 (Kb rfl) (Kf rfl) (B6 (by exact List.Mem.head _) (Ka rfl))) (fun v2=> ?_)
 refine tp rfl (AD rfl JT (vl rfl)) (TO.C7 3 rfl rfl (An rfl rfl (vl rfl) (Vo rfl) Ye rfl (by exact Nb rfl) rfl) ?_)
 refine ao ?_
 refine Tr.drop 0 ?_
 refine ac ?_
 refine Fin.HN 2 [As v (lens (e.BC.map Ah).length),EF e.BH,As v2 (GY (e.items.take (m+1)))] rfl ⟨Lr,Lr,Dc (UC (f:=EE) FB),trivial⟩ (Fin.Gd (m+1) v2 (⟨I9,by omega⟩) ⟨⟨_,rfl,AK m⟩,ke rfl,ke rfl,ke rfl,ke rfl,trivial⟩ (fun _ _ h=>h))
 have P_:m=(e.items).length:=by have:=AV h2;omega
 subst P_
 refine ac ?_
 refine ao ?_
 refine TO.AY 3 rfl rfl rfl (vl rfl) (Va rfl) rfl Bz rfl rfl ?_
 refine ao ?_
 refine Tr.ret (Fin.Ob 1 rfl (Fin.drop 0 (Fin.drop 1 (Fin.K0 (Fin.Ub v [_] rfl (AW.cell 0 rfl rfl Bu Bz rfl (Lr)) ?_ (List.Perm.refl _))))))
 · exact Ab ⟨Cy _ _,Lr,Pr.le_trans (A7 _ _) (Pr.le_of_eq (by rw [List.take_length])),trivial⟩
theorem MV {e:DR} {c:BA} (h:c.AP<0∨((e.BC.length:Nat):Int)≤c.AP):Gk e c=(Bt,40):=by unfold Gk;rw [MT h];rfl
theorem fO {e:DR} {c:BA} {x:A5} (h:¬(c.AP<0∨((e.BC.length:Nat):Int)≤c.AP)) (hx:e.BC[c.AP.toNat]? =some x):Gk e c=if (CR x c).2.2=0 then (⟨e.BC.set c.AP.toNat (CR x c).1,e.BH,e.items⟩,0) else (Bt,(CR x c).2.2):=by
 unfold Gk;rw [Xf h hx]
 by_cases h0:(CR x c).2.2=0
 · rw [if_pos h0,if_pos h0];rfl
 · rw [if_neg h0,if_neg h0];exact (if_neg h0).symm
theorem Jp {e:DR} {c:BA} {n:Nat} (hz:e.sz n) (hi:c.Bj.fits∧c.Bj.small) (h:(Gk e c).2=0):(Gk e c).1.sz (n+1)∧Gk e c=(⟨(FE e.BC c).1,e.BH,e.items⟩,0):=by
 have h0:(FE e.BC c).2=0:=by
  by_cases h0:(FE e.BC c).2=0
  · exact h0
  · unfold Gk at h;rw [if_neg h0] at h;exact h
 have h1:Gk e c=(⟨(FE e.BC c).1,e.BH,e.items⟩,0):=by unfold Gk;rw [if_pos h0]
 rw [h1]
 exact ⟨⟨S0 hz.BC hi,hz.items,by show (FE e.BC c).1.length≤_;rw [QF];exact hz.le,hz.lg,hz.li⟩,rfl⟩
theorem UG {e:DR} {c:BA} (h:¬(Gk e c).2=0):¬(FE e.BC c).2=0∧(Gk e c).2=(FE e.BC c).2∧(Gk e c).1=Bt:=by
 by_cases h0:(FE e.BC c).2=0
 · exfalso;unfold Gk at h;rw [if_pos h0] at h;exact h rfl
 · unfold Gk;rw [if_neg h0];exact ⟨h0,rfl,rfl⟩
theorem F8 {e:DR} {c:BA} {n:Nat} (hz:e.sz n) (hn:n≤900000) (QH:c.Bj.fits∧c.Bj.small):A_ prog 98 [agg (CG e),agg (Am c)] (Fa [agg (CG (Gk e c).1),int (Gk e c).2]):=by
 refine fo func98 rfl ⟨rfl,rfl⟩ fun M0 w0=> ?_
 have rD:=hz.le
 refine Tr.seq (Tr.Aq (tp rfl (Bl rfl (Va rfl)) (tp rfl (Bl rfl (Va rfl)) ?_)))
 refine Tl rfl rfl rfl rfl z41 Ef (fun b1=> ?_)
 refine ao ?_
 refine ag ?_ ?_<;>intro h1 q1
 refine ac ?_
 refine Fk 2 3 4 19 rfl (Tr.cond rfl (fun _=> ?_) (fun h=>nomatch h))
 refine Tr.seq (Tr.Aq (tp rfl (Al (rows:=[]) rfl Yf Ef trivial rfl) (TO.AY 0 rfl rfl rfl (vl rfl) (Va rfl) rfl Bz rfl rfl ?_)))
 refine ao ?_
 refine Tr.ret (Fin.AF (Fin.C4 rfl (AW.cell 0 rfl rfl Bu Bz rfl (Lr)) (AW.tmp rfl (Lr)) ?_))
 refine BW ⟨?_,?_,trivial⟩
 · rw [MV (e:=e) (c:=c) (by omega)];exact Ab ⟨AB 9,AB 2,AB 5,trivial⟩
 · exact int_eq (by rw [MV (e:=e) (c:=c) (by omega)])
 refine ac ?_
 refine Fk 2 3 4 19 rfl ?_
 refine Tr.cn rfl ?_ ?_<;>intro h2 q2
 refine ao ?_
 refine TO.AY 0 rfl rfl rfl (vl rfl) (Va rfl) rfl Bz rfl rfl ?_
 refine ao ?_
 refine Tr.ret (Fin.AF (Fin.C4 rfl (AW.cell 0 rfl rfl Bu Bz rfl (Lr)) (AW.tmp rfl (Lr)) ?_))
 refine BW ⟨?_,?_,trivial⟩
 · rw [MV (e:=e) (c:=c) (by omega)];exact Ab ⟨AB 9,AB 2,AB 5,trivial⟩
 · exact int_eq (by rw [MV (e:=e) (c:=c) (by omega)])
 obtain ⟨x,hx⟩:=at_ (l:=e.BC) (k:=c.AP.toNat) (by omega)
 have hA:=fO (e:=e) (c:=c) (by omega) hx
 have hlt:=A1 hx
 refine ac ?_
 refine Tr.seq (Tr.pad (Tr.rx ?_))
 refine ax ?_
 refine xo rfl (fun _=>AA rfl underlying37 A8 (vl rfl) (vl rfl) (by omega) (DC (f:=Ah) hx)) ?_
 refine ax ?_
 refine xo rfl (fun _=>C8 (Sn (hz.BC x (List.mem_of_getElem? hx)) (by omega) QH) rfl rfl rfl) ?_
 refine ax ?_
 refine Cx.ef 0 rfl rfl (by decide) (G7 rfl rfl (by decide) rfl z32 Df) (Cx.C7 0 rfl rfl (G8 rfl rfl rfl rfl (Va rfl) A8 rfl rfl) (xm rfl ?_))
 refine Cx.nil ⟨by kernel_rfl,?_⟩
 refine BV.open_ 0 6 rfl rfl (fun v1=> ?_)
 refine BV.done ZS (Fin.R3 6 0 _ rfl rfl (fun _=>rfl) (fun b2=> ?_))
 refine Fin.go (Ej 2 3 4 6 7 rfl ?_)
 refine an ?_ ?_<;>intro h3 q3
 rw [if_neg (by have:=q3;omega)] at hA
 refine ao ?_
 refine TO.AY 1 rfl rfl rfl (vl rfl) (Va rfl) rfl Bz rfl rfl ?_
 refine ao ?_
 refine Tr.drop 0 (Tr.ret (Fin.AF (Fin.C4 rfl (AW.cell 0 rfl rfl Bu Bz rfl (Lr)) (AW.tmp rfl (Lr)) ?_)))
 refine BW ⟨?_,?_,trivial⟩
 · rw [hA];exact Ab ⟨AB 9,AB 2,AB 5,trivial⟩
 · exact int_eq (by rw [hA])
 rw [if_pos (by have:=q3;omega)] at hA
 refine ac ?_
 refine ao ?_
 refine TO.LY rfl rfl (by decide) rfl (Jo hz (by omega)) ⟨ke rfl,trivial⟩ (fun v2=> ?_)
 refine Tl rfl rfl rfl rfl z41 Ef (fun b3=> ?_)
 refine TO.AY 0 rfl rfl rfl (vl rfl) (Va rfl) rfl Bz rfl rfl ?_
 refine ao ?_
 refine ao ?_
 refine tp rfl (Bc 1 rfl (D1 rfl underlying37 A8 (vl rfl) (vl rfl) (by omega) (by rw [List.length_map];omega))) ?_
 refine TO.C7 1 rfl rfl (Dt rfl rfl (vl rfl) (Va rfl) A8 rfl (Ak fun _=>rfl) (by rw [List.getElem?_map,hx];rfl) (by decide) (show _=(e.BC.set c.AP.toNat (CR x c).1).map Ah by rw [List.map_set];rfl)) ?_
 refine ao ?_
 refine Tr.drop 2 (B3 4 8 rfl (Tr.seq (Tr.Fv 0 1 0 rfl rfl (by decide) rfl (Lr) (Ak fun _=>rfl) ?_)))
 refine ao ?_
 refine TO.AY 2 rfl rfl rfl (vl rfl) (Va rfl) rfl Bz rfl rfl ?_
 refine ao ?_
 refine Tr.drop 1 (Tr.ret (Fin.C4 rfl (AW.cell 1 rfl rfl Bu Bz rfl (Lr)) (AW.tmp rfl (Lr)) ?_))
 refine BW ⟨?_,?_,trivial⟩
 · rw [hA];exact Lr
 · exact int_eq (by rw [hA])
theorem S2 {e:DR} {c:BA} {n:Nat} (hz:e.sz n) (hn:n≤800000) (QH:c.Bj.fits∧c.Bj.small):A_ prog 37 [agg (CG e),agg (Am c)] (Fa [agg (CG (I_ e c).1),int (I_ e c).2]):=by
 refine fo func37 rfl ⟨rfl,rfl⟩ fun M0 w0=>(Tr.seq (Tr.Aq (tp rfl (Bl rfl (Va rfl)) (tp rfl (Bl rfl (Va rfl)) ?_))))
 refine Tl rfl rfl rfl rfl z41 Ef (fun b1=> ?_)
 refine ap ?_
 refine ac ?_
 refine co rfl (B1 (Hj (hz.fits (by omega))) rfl rfl) ?_
 refine an ?_ ?_<;>intro h1 q1
 have hA:I_ e c=(Bt,31):=if_pos (by have:=q1;cases h_:D9 e<;>simp_all)
 refine ap ?_
 refine Tr.ret (Fin.AF (Fin.C4 rfl (AW.cell 0 rfl rfl Bu Bz rfl (Lr)) (AW.tmp rfl (Lr)) ?_))
 refine BW ⟨?_,?_,trivial⟩
 · rw [hA];exact Ab ⟨AB 9,AB 2,AB 5,trivial⟩
 · exact int_eq (by rw [hA])
 have hA:I_ e c=Gk e c:=if_neg (by have:=q1;cases h_:D9 e<;>simp_all)
 refine ac ?_
 refine ap ?_
 refine tp rfl (C8 (F8 hz (by omega) QH) rfl rfl rfl) ?_
 refine ap ?_
 refine B3 4 5 rfl (Tr.ret (Fin.C4 rfl (AW.cell 0 rfl rfl Bu Bz rfl (Lr)) (AW.tmp rfl (Lr)) ?_))
 refine BW ⟨?_,?_,trivial⟩
 · rw [hA];exact Lr
 · exact int_eq (by rw [hA])
theorem S3 {e:DR} {l:List BA} {s:List Int} {n:Nat} (hz:e.sz n) (hn:n≤800000) (hc:∀c∈l,c.Bj.fits∧c.Bj.small):A_ prog 40 [agg (CG e),slice 8 (l.map Am),ints s] (Fa [agg (CG (HF e l s).1),int (HF e l s).2]):=by
 refine fo func40 rfl ⟨rfl,rfl⟩ fun M0 w0=>(Tr.Cr 1 rfl fun Fh=>(Tr.Cr 2 rfl fun Wl=>(Tr.seq (Tr.Aq (tp rfl (Bl rfl (Va rfl)) ?_)))))
 refine Tl rfl rfl rfl rfl z41 Ef (fun b1=> ?_)
 refine ap ?_
 refine ac ?_
 refine co rfl (B1 (Hj (hz.fits (by omega))) rfl rfl) ?_
 refine an ?_ ?_<;>intro h1 q1
 have hA:HF e l s=(Bt,31):=if_pos (by have:=q1;cases h_:D9 e<;>simp_all)
 refine ap ?_
 refine Tr.ret (Fin.AF (Fin.C4 rfl (AW.cell 0 rfl rfl Bu Bz rfl (Lr)) (AW.tmp rfl (Lr)) ?_))
 refine BW ⟨?_,?_,trivial⟩
 · rw [hA];exact Ab ⟨AB 9,AB 2,AB 5,trivial⟩
 · exact int_eq (by rw [hA])
 have hok:D9 e=true:=by have:=q1;cases h_:D9 e<;>simp_all
 refine ac ?_
 refine an ?_ ?_<;>intro h2 q2
 have hA:HF e l s=(Bt,3):=by unfold HF;rw [if_neg (by simp [hok]),if_pos (by have:=q2;omega)]
 refine ap ?_
 refine Tr.ret (Fin.AF (Fin.C4 rfl (AW.cell 0 rfl rfl Bu Bz rfl (Lr)) (AW.tmp rfl (Lr)) ?_))
 refine BW ⟨?_,?_,trivial⟩
 · rw [hA];exact Ab ⟨AB 9,AB 2,AB 5,trivial⟩
 · exact int_eq (by rw [hA])
 have fL:l.length≤24:=by have:=q2;omega
 refine a2 ?_
 refine co rfl (C8 (Sz (l:=s) (n:=((l.length:Nat):Int))) rfl rfl rfl) ?_
 refine ac ?_
 refine Ej 1 2 3 6 25 rfl ?_
 refine Tr.cn rfl ?_ ?_<;>intro h3 q3
 have hA:HF e l s=(Bt,46):=by unfold HF;rw [if_neg (by simp [hok]),if_neg (by omega),if_pos (by simpa using h3)]
 refine ap ?_
 refine Tr.ret (Fin.AF (Fin.C4 rfl (AW.cell 0 rfl rfl Bu Bz rfl (Lr)) (AW.tmp rfl (Lr)) ?_))
 refine BW ⟨?_,?_,trivial⟩
 · rw [hA];exact Ab ⟨AB 9,AB 2,AB 5,trivial⟩
 · exact int_eq (by rw [hA])
 have hsb:Eg l.length s=true:=by simpa using h3
 have hsn:=QG hsb
 have hel:=hz.le
 refine ac ?_
 refine ap ?_
 refine TO.LY rfl rfl (by decide) rfl (Jo hz (by omega)) ⟨ke rfl,trivial⟩ (fun v1=> ?_)
 refine Tl rfl rfl rfl rfl z41 Ef (fun b2=> ?_)
 refine ap ?_
 refine Tr.seq (Tr.seq (Tr.Fv 0 1 0 rfl rfl (by decide) rfl (Lr) (Ak fun _=>rfl) ?_))
 refine ac ?_
 refine Tr.drop 1 (Tr.block (Tr.IK [(1,_),(6,_),(8,_),(29,_),(30,_)] ⟨ke rfl,ke rfl,ke rfl,ke rfl,ke rfl,trivial⟩ (fun (m:Nat) (BC:List A5)=>[(31,int ((m:Nat):Int))]) (fun (m:Nat) (BC:List A5)=>Hp M0 w0 Mg ([AE true b2 41 (CG ⟨BC,e.BH,e.items⟩),AE true b1 41 (([.slice none 0 0,.slice none 0 0,.slice none 0 0]:List Value).map is)])) (fun (m:Nat) (BC:List A5)=>m≤s.length∧(⟨BC,e.BH,e.items⟩:DR).sz (n+m)∧Io l (s.drop m) BC=Io l s e.BC) (fun (m:Nat) (BC:List A5)=>s.length-m) (0) (e.BC)  (⟨Nat.zero_le _,hz,rfl⟩) ⟨ke rfl,trivial⟩ (fun _ _ h=>h) ?_))
 rintro m BC  ⟨hm1,Sh,fM⟩
 refine ac ?_
 refine Tr.seq ?_
 refine Tr.cn rfl ?_ ?_<;>intro h4 q4
 have bG:m<s.length:=by have:=FX.Gp h4;omega
 obtain ⟨i,FB⟩:=at_ bG
 have iV:=UD hsb FB
 obtain ⟨c,aj⟩:=at_ (l:=l) (k:=i.toNat) (by omega)
 have QH:=hc c (List.mem_of_getElem? aj)
 have hst:=Ou (BC:=BC) FB aj
 rw [fM] at hst
 refine ac ?_
 refine Tr.seq (Tr.block (Tr.seq (Tr.A3 (co rfl (AA rfl underlying59 CO (vl rfl) (vl rfl) (by omega) (AX FB)) ?_))))
 refine ac ?_
 refine Tr.seq (Tr.pad (Tr.rx ?_))
 refine ax ?_
 refine xo rfl (fun _=>AA rfl underlying47 BE (vl rfl) (vl rfl) (by omega) (DC (f:=Am) aj)) (xo rfl (fun _=>AH rfl Be BE (vl rfl) rfl rfl) ?_)
 refine xo rfl (fun _=>C8 (F8 (e:=⟨BC,e.BH,e.items⟩) (c:=c) Sh (by omega) QH) rfl rfl rfl) ?_
 refine ax ?_
 refine Cx.ef 0 rfl rfl (by decide) (G7 rfl rfl (by decide) rfl z41 Ef) (Cx.C7 0 rfl rfl (G8 rfl rfl rfl rfl (Va rfl) Bz rfl rfl) (xm rfl ?_))
 refine Cx.nil ⟨by kernel_rfl,?_⟩
 refine BV.open_ 0 11 rfl rfl (fun v2=> ?_)
 refine BV.done YC (Fin.R3 11 0 _ rfl rfl (fun _=>rfl) (fun b3=> ?_))
 refine Fin.go (PB 1 6 8 11 12 29 30 31 rfl ?_)
 refine an ?_ ?_<;>intro h5 q5
 obtain ⟨cO,h1_,h2_⟩:=UG (e:=⟨BC,e.BH,e.items⟩) (c:=c) (by have:=q5;omega)
 have cO:¬(FE BC c).2=0:=cO
 rw [if_neg cO] at hst
 have hA:HF e l s=(Bt,(Gk ⟨BC,e.BH,e.items⟩ c).2):=by unfold HF;rw [if_neg (by simp [hok]),if_neg (by omega),if_neg (by simp [hsb]),hst,h1_];exact if_neg cO
 refine ap ?_
 refine Tr.drop 0 (Tr.ret (Fin.AF (Fin.Ar (Fin.AF (Fin.AF (Fin.Ar (Fin.AF (Fin.C4 rfl (AW.cell 1 rfl rfl Bu Bz rfl (Lr)) (AW.tmp rfl (Lr)) ?_))))))))
 refine BW ⟨?_,?_,trivial⟩
 · rw [hA];exact Ab ⟨AB 9,AB 2,AB 5,trivial⟩
 · exact int_eq (by rw [hA])
 have hs0:(Gk ⟨BC,e.BH,e.items⟩ c).2=0:=by have:=q5;omega
 have hap:(FE BC c).2=0:=by by_cases h0:(FE BC c).2=0;exact h0;(exfalso;unfold Gk at hs0;rw [if_neg (show ¬(FE (⟨BC,e.BH,e.items⟩:DR).BC c).2=0 from h0)] at hs0;exact h0 hs0)
 refine ac ?_
 refine ap ?_
 refine Tr.drop 0 ?_
 refine ac ?_
 refine Fin.Ro 0 (CG ⟨(FE BC c).1,e.BH,e.items⟩) rfl (by rw [(Jp Sh QH hs0).2];rfl) ?_
 exact Fin.J4 (m+1) ((FE BC c).1)  (⟨⟨by omega,by have h_:=(Jp Sh QH hs0).1;rw [(Jp Sh QH hs0).2] at h_;rw [show n+(m+1)=n+m+1 by omega];exact h_,by rw [hst,if_pos hap]⟩,by omega⟩) ⟨⟨_,rfl,AK m⟩,ke rfl,ke rfl,ke rfl,ke rfl,ke rfl,trivial⟩ (fun _ _ h=>h)
 obtain rfl:m=s.length:=by have:=FX.Gp h4;omega
 rw [List.drop_length] at fM
 have hA:HF e l s=(⟨BC,e.BH,e.items⟩,0):=by unfold HF;rw [if_neg (by simp [hok]),if_neg (by omega),if_neg (by simp [hsb]),←fM];exact if_pos rfl
 refine ac ?_
 refine ap ?_
 refine Tr.ret (Fin.C4 rfl (AW.cell 1 rfl rfl Bu Bz rfl (Lr)) (AW.tmp rfl (Lr)) ?_)
 refine BW ⟨?_,?_,trivial⟩
 · rw [hA];exact Lr
 · exact int_eq (by rw [hA])
structure DR.big (e:DR):Prop where
 cN:e.BC.length≤1000000000000
 lp:e.BH.length≤1000000000000
 lq:e.items.length≤1000000000000
 lu:∀x∈e.items,x.links.length≤1000000000000
theorem fP {e:DR} {n:Nat} (h:e.sz n):e.big:=⟨by have:=h.le;omega,by have:=h.lg;omega,by have:=h.li;omega,fun x hx=>by have:=(h.items x hx).2;omega⟩
theorem MW {e:DR} {a b:BA} (h:(Hl a b e.BC).2≠0∨(Hl b a e.BC).2≠0):N9 e a b=false:=by unfold N9;rw [decide_eq_false_iff_not];rintro ⟨h1,h2,_⟩;rcases h with h|h<;>contradiction
theorem UH {e:DR} {a b:BA} (h:(Gk e a).2=0):(Gk (Gk e a).1 b).2=(Hl a b e.BC).2∧((Gk (Gk e a).1 b).2=0→(Gk (Gk e a).1 b).1=⟨(Hl a b e.BC).1,e.BH,e.items⟩):=by
 have h0:(FE e.BC a).2=0:=by
  by_cases h0:(FE e.BC a).2=0
  · exact h0
  · exfalso;unfold Gk at h;rw [if_neg h0] at h;exact h0 h
 have h1:(Gk e a).1=⟨(FE e.BC a).1,e.BH,e.items⟩:=by unfold Gk;rw [if_pos h0]
 rw [h1]
 unfold Gk Hl
 rw [if_pos h0]
 show (if (FE (FE e.BC a).1 b).2=0 then _ else _:DR×Int).2=_∧_
 by_cases h2:(FE (FE e.BC a).1 b).2=0
 · rw [if_pos h2,if_pos h2];exact ⟨rfl,fun _=>rfl⟩
 · rw [if_neg h2,if_neg h2];exact ⟨rfl,fun h=>absurd h h2⟩
theorem UI {e:DR} {a b:BA} (h:(Gk e a).2≠0):(Hl a b e.BC).2≠0:=by
 obtain ⟨h0,_,_⟩:=UG h
 unfold Hl;rw [if_neg h0];exact h0
theorem QJ {e:DR} {a b:BA} {n:Nat} (hz:e.sz n) (hn:n≤800000) (hai:a.Bj.fits∧a.Bj.small) (ZE:b.Bj.fits∧b.Bj.small):A_ prog 39 [agg (CG e),agg (Am a),agg (Am b)] (Fa [bool (Nq e a b).1,int (Nq e a b).2]):=by
 refine fo func39 rfl ⟨rfl,rfl⟩ fun M0 w0=> ?_
 refine a2 ?_
 refine co rfl (B1 (Hj (hz.fits (by omega))) rfl rfl) ?_
 refine an ?_ ?_<;>intro h1 q1
 have hA:Nq e a b=(false,31):=if_pos (by have:=q1;cases h_:D9 e<;>simp_all)
 refine ac ?_
 refine Tr.ret (Fin.AF (Fin.Dz rfl (CH.Ep _ _) rfl ?_ rfl ?_))
 · exact bool_eq (by rw [hA])
 · exact int_eq (by rw [hA])
 have hok:D9 e=true:=by have:=q1;cases h_:D9 e<;>simp_all
 have hA:Nq e a b=(N9 e a b,0):=if_neg (by simp [hok])
 refine ac ?_
 refine ap ?_
 refine tp rfl (C8 (F8 (c:=a) hz (by omega) hai) rfl rfl rfl) ?_
 refine ap ?_
 refine Tl rfl rfl rfl rfl z41 Ef (fun b1=> ?_)
 refine ap ?_
 refine Ej 3 4 5 8 9 rfl ?_
 refine an ?_ ?_<;>intro h2 q2
 refine ac ?_
 refine Tr.drop 0 (Tr.ret (Fin.AF (Fin.Dz rfl (CH.Ep _ _) rfl ?_ rfl ?_)))
 · exact bool_eq (by rw [hA];exact (MW (.inl (UI (by omega)))).symm)
 · exact int_eq (by rw [hA])
 have ha0:(Gk e a).2=0:=by have:=q2;omega
 have hza:=(Jp hz hai ha0).1
 obtain ⟨hab,rF⟩:=UH (b:=b) ha0
 refine ac ?_
 refine ap ?_
 refine tp rfl (C8 (F8 (c:=b) hza (by omega) ZE) rfl rfl rfl) ?_
 refine ap ?_
 refine Ej 3 4 5 8 9 rfl ?_
 refine an ?_ ?_<;>intro h3 q3
 refine ac ?_
 refine Tr.drop 0 (Tr.ret (Fin.AF (Fin.Dz rfl (CH.Ep _ _) rfl ?_ rfl ?_)))
 · exact bool_eq (by rw [hA];exact (MW (.inl (by omega))).symm)
 · exact int_eq (by rw [hA])
 have lz:(Gk (Gk e a).1 b).2=0:=by have:=q3;omega
 have iG:=fP (Jp hza ZE lz).1
 refine ac ?_
 refine ap ?_
 refine tp rfl (C8 (F8 (c:=b) hz (by omega) ZE) rfl rfl rfl) ?_
 refine ap ?_
 refine Tl rfl rfl rfl rfl z41 Ef (fun b2=> ?_)
 refine ap ?_
 refine Fk 4 8 9 10 rfl ?_
 refine an ?_ ?_<;>intro h4 q4
 refine ac ?_
 refine Tr.drop 0 (Tr.drop 0 (Tr.ret (Fin.AF (Fin.Dz rfl (CH.Ep _ _) rfl ?_ rfl ?_))))
 · exact bool_eq (by rw [hA];exact (MW (.inr (UI (by omega)))).symm)
 · exact int_eq (by rw [hA])
 have hb0:(Gk e b).2=0:=by have:=q4;omega
 have hzb:=(Jp hz ZE hb0).1
 obtain ⟨hba,rG⟩:=UH (b:=a) hb0
 refine ac ?_
 refine ap ?_
 refine tp rfl (C8 (F8 (c:=a) hzb (by omega) hai) rfl rfl rfl) ?_
 refine ap ?_
 refine ac ?_
 refine Cg 8 10 45 rfl ?_
 refine Tr.cn rfl ?_ ?_<;>intro h5 q5
 refine ac ?_
 refine Tr.drop 0 (Tr.drop 0 (Tr.ret (Fin.AF (Fin.Dz rfl (CH.Ep _ _) rfl ?_ rfl ?_))))
 · exact bool_eq (by rw [hA];exact (MW (.inr (by omega))).symm)
 · exact int_eq (by rw [hA])
 have rH:(Gk (Gk e b).1 a).2=0:=by have:=q5;omega
 refine a2 ?_
 refine co rfl (C8 (I5 iG.cN iG.lp iG.lq iG.lu) rfl rfl rfl) ?_
 refine ac ?_
 refine Tr.drop 0 (Tr.drop 0 (Tr.ret (Fin.Dz rfl (CH.Ep _ _) rfl ?_ rfl ?_)))
 · refine bool_eq ?_;rw [hA,rF lz,rG rH];show _=N9 e a b;unfold N9;rw [decide_eq_decide];exact ⟨fun h=>⟨by omega,by omega,(DR.mk.inj h).1⟩,fun h=>by rw [h.2.2]⟩
 · exact int_eq (by rw [hA])
theorem N_ {e:DR} {l:List BA} {i:Int} {n:Nat} (hz:e.sz n) (hn:n≤800000)  :A_ prog 42 [agg (CG e),slice 8 (l.map Am),int i] (Fa [ints (EH e l i).1,int (EH e l i).2]):=by
 refine fo func42 rfl ⟨rfl,rfl⟩ fun M0 w0=>(Tr.Cr 1 rfl fun Fh=> ?_)
 refine a2 ?_
 refine co rfl (B1 (Hj (hz.fits (by omega))) rfl rfl) ?_
 refine an ?_ ?_<;>intro h1 q1
 have hA:EH e l i=([],31):=if_pos (by have:=q1;cases h_:D9 e<;>simp_all)
 refine ac ?_
 refine Tr.ret (Fin.AF (Fin.Dz rfl (CH.Ep _ _) rfl ?_ rfl ?_))
 · rw [hA];exact AB 1
 · exact int_eq (by rw [hA])
 have hok:D9 e=true:=by have:=q1;cases h_:D9 e<;>simp_all
 refine ac ?_
 refine an ?_ ?_<;>intro h2 q2
 have hA:EH e l i=([],3):=by unfold EH;rw [if_neg (by simp [hok]),if_pos (by have:=q2;omega)]
 refine ac ?_
 refine Tr.ret (Fin.AF (Fin.Dz rfl (CH.Ep _ _) rfl ?_ rfl ?_))
 · rw [hA];exact AB 1
 · exact int_eq (by rw [hA])
 have fL:l.length≤24:=by have:=q2;omega
 refine ac ?_
 refine ag ?_ ?_<;>intro h3 q3
 refine ac ?_
 refine Fk 1 2 3 25 rfl ?_
 refine ac ?_
 refine Tr.ret (Fin.AF (Fin.Dz rfl (CH.Ep _ _) rfl ?_ rfl ?_))
 · rw [(show EH e l i=([],4) by unfold EH;rw [if_neg (by simp [hok]),if_neg (by omega),if_pos (by omega)])];exact AB 1
 · exact int_eq (by rw [(show EH e l i=([],4) by unfold EH;rw [if_neg (by simp [hok]),if_neg (by omega),if_pos (by omega)])])
 refine ac ?_
 refine Fk 1 2 3 25 rfl ?_
 refine Tr.cn rfl ?_ ?_<;>intro h4 q4
 refine ac ?_
 refine Tr.ret (Fin.AF (Fin.Dz rfl (CH.Ep _ _) rfl ?_ rfl ?_))
 · rw [(show EH e l i=([],4) by unfold EH;rw [if_neg (by simp [hok]),if_neg (by omega),if_pos (by omega)])];exact AB 1
 · exact int_eq (by rw [(show EH e l i=([],4) by unfold EH;rw [if_neg (by simp [hok]),if_neg (by omega),if_pos (by omega)])])
 obtain ⟨g,hg⟩:=at_ (l:=e.BH) (k:=i.toNat) (by omega)
 have hA:EH e l i=(LB g l l.length,0):=by unfold EH;rw [if_neg (by simp [hok]),if_neg (by omega),if_neg (by omega),Bi hg]
 refine a3 ?_
 refine Tr.block (Tr.EY 3 1 (Tr.Gn [(2,_),(3,_),(26,_),(27,_)] ⟨ke rfl,ke rfl,ke rfl,ke rfl,trivial⟩ (fun k v=>[(28,int ((k:Nat):Int)),(8,As v (ints (LB g l k)))]) (fun k v=>Hp M0 w0 Mg ([BJ 3 1 v])) (fun k:Nat=>k≤(l).length) (fun k:Nat=>(l).length-k) 0 (.slice none 0 0) (Nat.zero_le _) ⟨ke rfl,⟨_,rfl,Dr rfl⟩,trivial⟩ (fun _ _ h=>h) ?_))
 rintro k v BN
 refine ac ?_
 refine Tr.seq ?_
 refine Tr.cn rfl ?_ ?_<;>intro h5 q5
 have Ac:k<(l).length:=AU h5
 obtain ⟨c,Aa⟩:=at_ Ac
 have hrl:=Rd g l k
 refine ac ?_
 refine ao ?_
 refine tp rfl (AA rfl underlying47 BE (vl rfl) (vl rfl) (by omega) (AX Aa)) (tp rfl (AH rfl Be BE (vl rfl) rfl rfl) ?_)
 refine Tl rfl rfl rfl rfl z29 Fo (fun b1=> ?_)
 refine tm rfl ?_
 refine sf 0 10 ⟨rfl,rfl,rfl⟩ rfl rfl rfl rfl ?_
 refine ao ?_
 refine PB 2 3 8 9 10 26 27 28 rfl ?_
 refine ac ?_
 refine co rfl (AA rfl underlying38 FL (vl rfl) (vl rfl) (by omega) (DC (f:=aW) hg)) ?_
 refine ag ?_ ?_<;>intro h6 q6
 have hP:Jn g l k=true:=by unfold Jn;rw [Aa];simp;omega
 refine ac ?_
 refine PB 2 3 8 9 26 27 28 52 rfl (Tr.cond rfl (fun _=> ?_) (fun h=>nomatch h))
 refine Tr.Aq (tm rfl (tm rfl (tp rfl (AG (xs:=[.tmp 54]) (rows:=[[_]]) rfl rfl underlying59 CO z3 rfl (by decide) ⟨⟨(by exact rfl),(Vo rfl)⟩,trivial⟩ (by decide)) ?_)))
 refine TO.Ex 0 rfl rfl (by decide) (DF rfl rfl rfl rfl underlying59 CO OJ z3 (Kb rfl) (Kf rfl) (B6 (by exact List.Mem.head _) (Ka rfl))) (fun v1=> ?_)
 refine ao ?_
 refine ac ?_
 exact Fin.Gd (k+1) v1 (⟨Ac,by omega⟩) ⟨⟨_,rfl,AK k⟩,⟨_,rfl,Dc (by rw [KZ hP,List.map_append];rfl)⟩,ke rfl,ke rfl,ke rfl,ke rfl,trivial⟩ (fun _ _ h=>h)
 refine ac ?_
 refine cy h6 rfl (AA rfl underlying38 FL (vl rfl) (vl rfl) (by omega) (DC (f:=aW) hg)) ?_
 refine ac ?_
 refine PB 2 3 8 9 26 27 28 52 rfl ?_
 refine Tr.cn rfl ?_ ?_<;>intro h7 q7
 have hP:Jn g l k=true:=by unfold Jn;rw [Aa];simp;omega
 refine ao ?_
 refine TO.Ex 0 rfl rfl (by decide) (DF rfl rfl rfl rfl underlying59 CO OJ z3 (Kb rfl) (Kf rfl) (B6 (by exact List.Mem.head _) (Ka rfl))) (fun v2=> ?_)
 refine ao ?_
 refine ac ?_
 exact Fin.Gd (k+1) v2 (⟨Ac,by omega⟩) ⟨⟨_,rfl,AK k⟩,⟨_,rfl,Dc (by rw [KZ hP,List.map_append];rfl)⟩,ke rfl,ke rfl,ke rfl,ke rfl,trivial⟩ (fun _ _ h=>h)
 have hP:Jn g l k=false:=by unfold Jn;rw [Aa];simp;omega
 refine a2 ?_
 exact Fin.Gd (k+1) v (⟨Ac,by omega⟩) ⟨⟨_,rfl,AK k⟩,⟨_,rfl,Pr.le_of_eq (by rw [UF hP])⟩,ke rfl,ke rfl,ke rfl,ke rfl,trivial⟩ (fun _ _ h=>h)
 have A4:k=(l).length:=by have:=AV h5;omega
 subst A4
 refine a2 ?_
 refine Tr.ret (Fin.Dz rfl (CH.Ep _ _) rfl ?_ rfl ?_)
 · rw [hA];exact A7 _ _
 · exact int_eq (by rw [hA])
structure ChS (l:List FF):Prop where
 fits:∀c∈l,c.fits
 small:(⟨0,0,0,l⟩:Du).small
abbrev chE:Pr:=Cp.ex fun l:List FF=>fact (ChS l) (Gh l)
abbrev Dn (c:BA):List Pr:=[int c.AP,int c.kind,int c.number,int c.at_,int c.Bj.Bp,int c.Bj.bits,int c.Bj.BX,chE]
structure ak (es:List A5) (c:BA):Prop where
 lo:0≤c.AP
 hi:c.AP<(es.length:Nat)
 kind:1≤c.kind∧c.kind≤12
def Gy (es:List A5) (l:List BA):Prop:=∀c∈l,ak es c
theorem Gy.snoc {es:List A5} {l:List BA} {c:BA} (h:Gy es l) (hc:ak es c):Gy es (l++[c]):=by
 intro x hx
 rcases List.mem_append.1 hx with hx|hx
 · exact h x hx
 · simp at hx;subst hx;exact hc
theorem Gy.two {es:List A5} {l:List BA} {c d:BA} (h:Gy es l) (hc:ak es c) (hd:ak es d):Gy es (l++[c,d]):=by
 intro x hx
 rcases List.mem_append.1 hx with hx|hx
 · exact h x hx
 · simp at hx;rcases hx with rfl|rfl;exact hc;exact hd
theorem Gy.perm {es:List A5} {l m:List BA} (hp:m.Perm l) (h:Gy es l):Gy es m:=fun c hc=>h c (hp.mem_iff.1 hc)
theorem Gy.take {es:List A5} {l:List BA} {n:Nat} (h:Gy es l):Gy es (l.take n):=fun c hc=>h c (List.mem_of_mem_take hc)
theorem aq:ChS []:=⟨(fun c h=>by cases h),⟨by show 0≤_;omega,(fun c hc=>by cases hc)⟩⟩
theorem Kc:Pr.le (is (.slice none 0 0)) chE:=A9 [] (A2 aq (AB 15))
theorem av {nm:List UInt8} (h:nm∈Et) {a b id key:Int}:Pr.le (RR nm a b id 901 key) chE:=by
 rintro M w v ⟨s,hs,hv⟩
 have hf:=XJ (a:=a) (b:=b) (id:=id) (key:=key) (s:=s) h
 exact ⟨_,⟨hf.1,⟨hf.2.chain,hf.2.names⟩⟩,hv⟩
theorem Xk {nm:List UInt8} {a b id to key:Int}:(XD nm a b id to key).le (agg [int a,int b,int id,RR nm a b id to key]):=by
 rintro M w v ⟨s,hs,hv⟩
 exact Ab (ps:=Az (FH nm a b id to key s)) (qs:=[int a,int b,int id,RR nm a b id to key]) ⟨Pr.le_refl _,Pr.le_refl _,Pr.le_refl _,fun M w v h=>⟨s,hs,h⟩,trivial⟩ M w v hv
theorem Xl (c:BA) (M:Av) (w:World) (ad:Addr) (n:Nat) (h:Row M w ad n (Dn c)):∃b:BA,(b.AP=c.AP∧b.kind=c.kind∧b.number=c.number∧b.at_=c.at_∧ChS b.Bj.chain)∧Row M w ad n (Am b):=by
 obtain ⟨ch,h1⟩:=Za (ps:=[int c.AP,int c.kind,int c.number,int c.at_,int c.Bj.Bp,int c.Bj.bits,int c.Bj.BX]) h
 obtain ⟨h2,h3⟩:=Ue (ps:=[int c.AP,int c.kind,int c.number,int c.at_,int c.Bj.Bp,int c.Bj.bits,int c.Bj.BX]) h1
 exact ⟨⟨c.AP,c.kind,c.number,c.at_,⟨c.Bj.Bp,c.Bj.bits,c.Bj.BX,ch⟩⟩,⟨rfl,rfl,rfl,rfl,h2⟩,h3⟩
structure fQ (es:List A5) (l:List BA):Prop where
 len:l.length≤7
 any:∀c∈l,XH es c
theorem fR {es:List A5} {ms:List BA} (h:Gy es ms) (hl:ms.length≤7):Pr.le (slice 8 (ms.map Dn)) (Cp.ex fun l:List BA=>fact (fQ es l) (slice 8 (l.map Am))):=by
 intro M w v hv
 obtain ⟨l,⟨h1,h2⟩,h3⟩:=NV Xl (fun _=>rfl) (fun _=>rfl) ms M w v hv
 refine ⟨l,⟨by omega,fun c hc=> ?_⟩,h3⟩
 obtain ⟨i,hi⟩:=List.getElem?_of_mem hc
 obtain ⟨a,ha⟩:=at_ (l:=ms) (k:=i) (by have:=A1 hi;omega)
 obtain ⟨g1,g2,g3,g4,g5⟩:=h2 i a c ha hi
 have hm:=h a (List.mem_of_getElem? ha)
 exact ⟨by rw [g1];exact hm.lo,by rw [g1];exact hm.hi,by rw [g2];exact hm.kind,g5.fits,⟨g5.small.chain,g5.small.names⟩⟩
structure Lu (n:Int) (k:Nat) (l:List Int):Prop where
 at_:∀j,j<l.length→setAt n l j=true
 lt:∀x∈l,x<(k:Int)
 len:l.length≤k
theorem Lu.nil (n:Int) (k:Nat):Lu n k []:=⟨fun j hj=>by simp at hj,fun x hx=>by simp at hx,by simp⟩
theorem Lu.step {n:Int} {k:Nat} {l:List Int} (h:Lu n k l):Lu n (k+1) l:=⟨h.at_,fun x hx=>by have:=h.lt x hx;omega,by have:=h.len;omega⟩
theorem Lu.snoc {n:Int} {k:Nat} {l:List Int} (h:Lu n k l) (hk:(k:Int)<n):Lu n (k+1) (l++[(k:Int)]):=by
 refine ⟨fun j hj=> ?_,fun x hx=> ?_,by have:=h.len;simp;omega⟩
 ·
  rw [List.length_append] at hj;simp at hj
  rcases Nat.lt_or_ge j l.length with hl|hl
  ·
   have:=h.at_ j hl
   unfold setAt at this ⊢
   rw [List.getElem?_append_left hl,List.getElem?_append_left (show j-1<l.length by omega)];exact this
  ·
   have:j=l.length:=by omega
   subst this
   unfold setAt
   rw [List.getElem?_append_right (Nat.le_refl _),Nat.sub_self]
   rcases Nat.eq_zero_or_pos l.length with hz|hz
   ·
    obtain rfl:=List.eq_nil_of_length_eq_zero hz
    simp;omega
   ·
    obtain ⟨y,hy⟩:=Cp.at_ (l:=l) (k:=l.length-1) (by omega)
    rw [List.getElem?_append_left (show l.length-1<l.length by omega),hy]
    have:=h.lt y (List.mem_of_getElem? hy)
    simp;omega
 ·
  rcases List.mem_append.1 hx with hx|hx
  · have:=h.lt x hx;omega
  · simp at hx;subst hx;omega
theorem Lu.set {n:Int} {k:Nat} {l:List Int} (h:Lu n k l):Eg n l=true:=Bo.2 h.at_
theorem UJ {b:Nat} {s:DS} {n:Int} (hn:n≤1000000):BG prog 30 [ptr b 0,int n] (Cp.ex fun l:List Int=>fact (Eg n l=true) (ints l)) (Cd b s) (fun _=>EZ 101 b):=by
 refine BG.of func30 rfl rfl (by exact Nb rfl) fun M0 w0 S rs M1 w1=> ?_
 refine Tr.seq (Tr.A3 (cm rfl (Ch.nil (Fin.go (Tr.seq (Tr.A3 (cm rfl (Ch.nil (Fin.go (Tr.seq (Tr.seq (Tr.A3 (cm rfl ?_)))))))))))))
 refine Ch.nil (Fin.go (Tr.block (Tr.EY 3 1 (Tr.GC [(0,_),(1,_)] ⟨ke rfl,ke rfl,trivial⟩ (fun (k:Nat) (l:List Int) (s2:DS) v=>[(6,int ((k:Nat):Int)),(5,As v (ints l))]) (fun (k:Nat) (l:List Int) (s2:DS) v=>Hp M0 w0 S (BJ 3 1 v::Cd b s2::Bv M1 w1::rs)) (fun (k:Nat) (l:List Int) (s2:DS)=>Lu n k l) (fun (k:Nat) (l:List Int) (s2:DS)=>(n-(k:Nat)).toNat) (0) ([]) (_) (.slice none 0 0) (Lu.nil _ _) ⟨ke rfl,⟨_,rfl,Dr rfl⟩,trivial⟩ (fun _ _ h=>h) ?_))))
 rintro k l s2 v hI
 refine Tr.seq (Tr.seq (Tr.A3 (cm rfl (cm rfl (co rfl (ki rfl rfl rfl rfl) (Ch.nil (Fin.go ?_)))))))
 refine Tr.cn rfl ?_ ?_<;>intro h1 q1
 have hkn:((k:Nat):Int)<n:=FX.Gp h1
 have HB:=hI.len
 refine Tr.skip (Fin.go (Tr.seq (Tr.block (Tr.seq (Tr.Aq (tm rfl (TO.Er 1 rfl rfl (by decide) (AQ rfl rfl (by decide) rfl (BD (by omega) (by omega)) ⟨ke rfl,ke rfl,trivial⟩) (tp rfl (ki rfl rfl rfl rfl) (TO.nil (Fin.go ?_))))))))))
 refine Tr.cn rfl ?_ ?_<;>intro h2 q2
 refine Tr.Aq (tm rfl (tm rfl (tp rfl (AG (xs:=[.tmp 16]) (rows:=[[_]]) rfl rfl underlying59 CO z3 rfl (by decide) ⟨⟨(by exact rfl),(Vo rfl)⟩,trivial⟩ (by decide)) ?_)))
 refine TO.Ex 0 rfl rfl (by decide) (DF rfl rfl rfl rfl underlying59 CO OJ z3 (Kb rfl) (Kf rfl) (B6 (by exact List.Mem.head _) (Ka rfl))) (fun v1=> ?_)
 refine tm rfl (TO.nil (Fin.block (Fin.go (Fk 0 1 5 6 rfl (Tr.A3 (cm rfl (Ly rfl rfl rfl rfl (by omega) (cm rfl (Ch.nil ?_)))))))))
 exact Fin.D5 (k+1) (l++[((k:Nat):Int)]) (_) v1 (⟨hI.snoc hkn,by omega⟩) ⟨⟨_,rfl,AK k⟩,⟨_,rfl,Dc (by rw [List.map_append];rfl)⟩,ke rfl,ke rfl,trivial⟩ (fun _ _ h=>h)
 refine Tr.skip (Fin.block (Fin.go (Tr.A3 (cm rfl (Ly rfl rfl rfl rfl (by omega) (cm rfl (Ch.nil (Fin.D5 (k+1) (l) (_) v (⟨hI.step,by omega⟩) ⟨⟨_,rfl,AK k⟩,ke rfl,ke rfl,ke rfl,trivial⟩ (fun _ _ h=>h)))))))))
 have:=h1
 refine Tr.exit (Fin.Ao (Fin.Ao (Fin.BT (Fin.go (Tr.seq (Tr.A3 (cm rfl (cm rfl (Ch.nil (Fin.go (Tr.ret (Fin.Bn 1 _ rfl rfl (Fin.CB [_] rfl (AW.tmp rfl (Lr)) ?_ (fun _ _ _ _=>rfl))))))))))))))
 · exact A9 l (A2 hI.set (A7 _ _))
end Go.Proofs.YtppeeogffbpcbaaGreat
