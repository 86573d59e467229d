/-
  IdentityRenamed: whatever the input, the law of this name returns true and its arguments read as before. No conditions.
-/
import Derived.Test.YtgilhkjlfongoaaGreatIdRenP5
set_option linter.all false
set_option maxRecDepth 40000
set_option maxHeartbeats 16000000
namespace Go.Proofs.YtgilhkjlfongoaaGreat
open Go Go.RowKit Cp Go.ChangeShapes Go.WideShapes Go.ChangeAt Go.Proofs.Tryz
abbrev Cd:List UInt8:=[111,108,100]
abbrev Ev:List UInt8:=[110,101,119]
abbrev rA (a:Int):AO:=⟨3,Cd,7,a,50,4,[115],0,0,2,[]⟩
abbrev rB (d:Int):AO:=⟨3,Ev,7,d,50,4,[115],0,0,2,[]⟩
abbrev rC (a:Int):AO:=⟨3,Cd,8,a+300,50,4,[115],0,0,2,[]⟩
abbrev Cz (a d:Int):List AO:=[rB d,rA a,rC a]
theorem Hw {f:AO} (h1:Bz f=true) (h2:AY f=true) (h3:1≤f.src∧f.src≤7) (h4:0≤f.day∧f.day≤40000) (h5:1≤f.DW∧f.DW≤100):BB f=true:=by
 unfold BB Cu;simp [h1,h2,h3,h4,h5]
theorem La {a d:Int} (ha:0≤a∧a<256) (hd:0≤d∧d≤40000):∀f∈[rA a,rB d,rC a],BB f=true:=by
 intro f hf
 simp only [List.mem_cons,List.not_mem_nil,or_false] at hf
 rcases hf with rfl|rfl|rfl
 · exact Hw (by show Bz (rA 0)=true;decide+kernel) (by rfl) ⟨by show (1:Int)≤3;decide,by show (3:Int)≤7;decide⟩ ⟨ha.1,by show a≤40000;omega⟩ ⟨by show (1:Int)≤50;decide,by show (50:Int)≤100;decide⟩
 · exact Hw (by show Bz (rB 0)=true;decide+kernel) (by rfl) ⟨by show (1:Int)≤3;decide,by show (3:Int)≤7;decide⟩ hd ⟨by show (1:Int)≤50;decide,by show (50:Int)≤100;decide⟩
 · exact Hw (by show Bz (rC 0)=true;decide+kernel) (by rfl) ⟨by show (1:Int)≤3;decide,by show (3:Int)≤7;decide⟩ ⟨by show 0≤a+300;omega,by show a+300≤40000;omega⟩ ⟨by show (1:Int)≤50;decide,by show (50:Int)≤100;decide⟩
theorem Nr (a d:Int):∀f∈[rA a,rB d,rC a],f.fits:=by
 intro f hf
 simp only [List.mem_cons,List.not_mem_nil,or_false] at hf
 rcases hf with rfl|rfl|rfl<;>exact ⟨by simp [maxLen],by simp [maxLen],by simp [maxLen]⟩
theorem QA {a d:Int} {f:AO}:f∈Cz a d↔f∈[rA a,rB d,rC a]:=by
 simp only [List.mem_cons,List.not_mem_nil,or_false]
 constructor<;>rintro (h|h|h)<;>simp [h]
theorem Tc {f g:AO} (h:Lib.compareBytes f.host g.host= -1):CH f g<0:=by
 unfold CH DY;rw [G6,h,if_neg (by decide)];decide
theorem Vq {f g:AO} (h:Lib.compareBytes f.host g.host=0) (h2:An f.machine g.machine= -1):CH f g<0:=by
 unfold CH DY;rw [G6,h,if_pos rfl,G6,h2,if_neg (by decide)];decide
theorem O2 (a d:Int):D3 CH (Cz a d):=by
 have h1:CH (rB d) (rA a)<0:=Tc (by show Lib.compareBytes Ev Cd= -1;decide)
 have h2:CH (rB d) (rC a)<0:=Tc (by show Lib.compareBytes Ev Cd= -1;decide)
 have h3:CH (rA a) (rC a)<0:=Vq (by show Lib.compareBytes Cd Cd=0;decide) (by show An 7 8= -1;decide)
 unfold D3
 simp only [List.pairwise_cons,List.mem_cons,List.not_mem_nil,or_false]
 exact ⟨fun x hx=>by rcases hx with rfl|rfl<;>assumption,fun x hx=>by subst hx;exact h3,fun x hx=>hx.elim,List.Pairwise.nil⟩
theorem Ns (a d:Int):LF [rA a,rB d,rC a]=Cz a d:=IP Eo (IQ _) (O2 a d) fun x=>LG.trans QA.symm
theorem GK {a d:Int} (ha:0≤a∧a<256) (hd:0≤d∧d≤40000):CS (Cz a d):=by
 have:=Pu (La ha hd) (by simp)
 rwa [show ([rA a,rB d,rC a]:List AO).foldl C8 []=Cz a d from Ns a d] at this
theorem GL (a d:Int):∀f∈Cz a d,f.fits:=fun f hf=>Nr a d f (QA.1 hf)
theorem Td (a d AJ:Int):Ew (Cz a d) AJ 0=7:=Ds (f:=rB d) rfl (by show ¬(7:Int)=0;decide)
theorem O3 (a d AJ:Int):Ew (Cz a d) AJ 1=7:=Ds (f:=rA a) rfl (by show ¬(7:Int)=0;decide)
theorem O4 (a d AJ:Int):Ew (Cz a d) AJ 2=8:=Ds (f:=rC a) rfl (by show ¬(8:Int)=0;decide)
theorem Te (a d AJ:Int):∀i,i<3→Aj (Cz a d) AJ i=if i=2 then 2 else 0
 |0,_=>Nat.le_zero.1 (D7 _ _ 0)
 |1,_=>IW (k:=0) (by rw [O3];decide) (by decide) (by rw [Td,O3]) (fun j h=>absurd h (Nat.not_lt_zero _))
 | 2, _ => IW (k := 2) (by rw [O4]; decide) (by decide) rfl (fun j h => by
   rcases Nat.lt_or_ge j 1 with h1|h1
   ·
    obtain rfl:j=0:=by omega
    rw [Td,O4];decide
   ·
    obtain rfl:j=1:=by omega
    rw [O3,O4];decide)
 |n+3,h=>absurd h (by omega)
abbrev Iw:List Ir:=[⟨0,[Ev,Cd],[7],[0,1]⟩,⟨2,[Cd],[8],[2]⟩]
theorem Nt (a d AJ:Int):G_ (Cz a d) AJ=Iw:=by
 show B8 _ _ 3=_
 rw [IX _ 3 (Te a d AJ)]
 rfl
theorem Q7 (a d AJ:Int):F5 (Cz a d) Iw (HB Cd a)=[0]:=by
 have h0:HA (Cz a d) (HB Cd a) 0=false:=by show (decide (Ev=Cd)&&decide (d=a))=false;rw [show decide (Ev=Cd)=false by decide];rfl
 have h1:HA (Cz a d) (HB Cd a) 1=true:=by show (decide (Cd=Cd)&&decide (a=a))=true;simp
 have h2:HA (Cz a d) (HB Cd a) 2=false:=by show (decide (Cd=Cd)&&decide (a+300=a))=false;simp;omega
 unfold F5
 simp [h0,h1,h2]
theorem Nu (a d:Int):(Cz a d).foldl DN []=if d=a then [⟨7,a,[Ev,Cd]⟩,⟨8,a+300,[Cd]⟩] else [⟨7,d,[Ev]⟩,⟨7,a,[Cd]⟩,⟨8,a+300,[Cd]⟩]:=by
 have i1:Dd [] Ev=[Ev]:=rfl
 have i2:Dd [Ev] Cd=[Ev,Cd]:=by rfl
 have i3:Dd [] Cd=[Cd]:=rfl
 have e1:DN [] (rB d)=[⟨7,d,[Ev]⟩]:=by
  rw [Eu (by show ¬(7:Int)=0;decide)]
  simp only [Es,FK,Dg,CN,FX,List.any_nil,Bool.false_eq_true,if_false,List.nil_append,List.map_cons,List.map_nil,and_self,decide_true,if_true,i1]
 show DN (DN (DN [] (rB d)) (rA a)) (rC a)=_
 rw [e1]
 by_cases h:d=a
 ·
  subst h
  have e2:DN [⟨7,d,[Ev]⟩] (rA d)=[⟨7,d,[Ev,Cd]⟩]:=by
   rw [Eu (by show ¬(7:Int)=0;decide)]
   simp only [Es,FK,Dg,CN,FX,List.any_cons,List.any_nil,List.map_cons,List.map_nil,and_self,decide_true,if_true,Bool.true_or,i2]
  rw [e2,if_pos rfl,Eu (by show ¬(8:Int)=0;decide)]
  have k1:CN (rC d) ⟨7,d,[Ev,Cd]⟩=false:=by unfold CN;rw [decide_eq_false_iff_not];rintro ⟨h1,_⟩;exact absurd h1 (by show ¬(7:Int)=8;decide)
  have k2:CN (rC d) (HC (rC d))=true:=by unfold CN;simp
  simp only [Es,FK,Dg,List.any_cons,List.any_nil,k1,k2,Bool.or_self,Bool.false_eq_true,if_false,if_true,List.map_cons,List.map_nil,List.cons_append,List.nil_append,FX,i3]
 ·
  have k0:CN (rA a) ⟨7,d,[Ev]⟩=false:=by unfold CN;rw [decide_eq_false_iff_not];rintro ⟨_,h1⟩;exact h h1
  have k3:CN (rA a) (HC (rA a))=true:=by unfold CN;simp
  have e2:DN [⟨7,d,[Ev]⟩] (rA a)=[⟨7,d,[Ev]⟩,⟨7,a,[Cd]⟩]:=by
   rw [Eu (by show ¬(7:Int)=0;decide)]
   simp only [Es,FK,Dg,List.any_cons,List.any_nil,k0,k3,Bool.or_self,Bool.false_eq_true,if_false,if_true,List.map_cons,List.map_nil,List.cons_append,List.nil_append,FX,i3]
  rw [e2,if_neg h,Eu (by show ¬(8:Int)=0;decide)]
  have k1:∀(e:Int) (t:List (List UInt8)),CN (rC a) ⟨7,e,t⟩=false:=fun e t=>by unfold CN;rw [decide_eq_false_iff_not];rintro ⟨h1,_⟩;exact absurd h1 (by show ¬(7:Int)=8;decide)
  have k2:CN (rC a) (HC (rC a))=true:=by unfold CN;simp
  simp only [Es,FK,Dg,List.any_cons,List.any_nil,k1,k2,Bool.or_self,Bool.false_eq_true,if_false,if_true,List.map_cons,List.map_nil,List.cons_append,List.nil_append,FX,i3]
abbrev Vr (a:Int):Ax:=⟨7,a,[Ev,Cd]⟩
theorem Tf (a:Int):Ot (Cz a a)=[Vr a]:=by
 have h:=(Et (Cz a a) [] [] (List.Perm.refl _)).filter D9
 rw [Nu,if_pos rfl] at h
 exact List.perm_singleton.1 h.symm
theorem Tg {a d:Int} (hd:¬d=a):Ot (Cz a d)=[]:=by
 have h:=(Et (Cz a d) [] [] (List.Perm.refl _)).filter D9
 rw [Nu,if_neg hd] at h
 exact List.perm_nil.1 h.symm
theorem Lb {a d:Int} (ha:0≤a∧a<256) (hd:0≤d∧d≤40000):Bb Tryz.prog 26 [BL [rA a,rB d,rC a]] (ER [BL (Cz a d),int 0]):=by
 have:=Ux (l:=[rA a,rB d,rC a]) (La ha hd) (Nr a d) (by simp);rwa [Ns] at this
theorem Nv {a d AJ:Int} (ha:0≤a∧a<256) (hd:0≤d∧d≤40000) (hg:0≤AJ∧AJ≤4000):Bb Tryz.prog 12 [BL (Cz a d),int AJ] (ER [Qs Iw,int 0]):=by
 have:=EO (l:=Cz a d) (AJ:=AJ) (GL a d);rwa [FH (GK ha hd) hg,Nt] at this
theorem Q8 {a:Int} (ha:0≤a∧a<256):Bb Tryz.prog 14 [BL (Cz a a)] (ER [X9 [Vr a],int 0]):=by
 have:=LZ (l:=Cz a a) (GL a a) (by simp);rwa [JG (GK ha (by omega)),Tf] at this
theorem Q9 {a d:Int} (ha:0≤a∧a<256) (hd:0≤d∧d≤40000) (h:¬d=a):Bb Tryz.prog 14 [BL (Cz a d)] (ER [X9 [],int 0]):=by
 have:=LZ (l:=Cz a d) (GL a d) (by simp);rwa [JG (GK ha hd),Tg h] at this
theorem Nw {a d AJ:Int} (ha:0≤a∧a<256) (hd:0≤d∧d≤40000) (hg:0≤AJ∧AJ≤4000):Bb Tryz.prog 17 [BL (Cz a d),int AJ,str Cd,int a] (ER [ints [0],int 0]):=by
 have:=TC (l:=Cz a d) (AJ:=AJ) (day:=a) (host:=Cd) (GL a d)
 have e:Hu (Cz a d) AJ Cd a=([0],0):=by
  unfold Hu
  rw [FH (GK ha hd) hg,if_pos rfl,Nt,Q7 _ _ AJ]
 rwa [e] at this
theorem QB {k:Nat} {x:Ir} (h:Iw[k]? =some x):∃m,x.Az=[m]∧(m=7∧x.BD.length=2∨m=8∧x.BD.length=1):=by
 have hm:=List.mem_of_getElem? h
 simp only [List.mem_cons,List.not_mem_nil,or_false] at hm
 rcases hm with rfl|rfl
 · exact ⟨7,rfl,.inl ⟨rfl,rfl⟩⟩
 · exact ⟨8,rfl,.inr ⟨rfl,rfl⟩⟩
theorem HF {a b g:Int} {c:Bool} (ha:0≤a∧a<256) (hb:0≤b∧b<256) (hg:0≤g∧g<256):Bb prog 4 [is (.int .u8 a),is (.int .u8 b),is (.int .u8 g),bool c] (bool true):=by
 refine Bb.of func4 rfl rfl (by exact Nb rfl) fun M0 w0=> ?_
 refine Tr.seq (Tr.BK (cm rfl (Ch.nil (Fin.go (Tr.seq (Tr.Cl (tm rfl ?_)))))))
 refine tp rfl (Bu rfl underlying5 underlying3 (vl rfl) (by unfold CR;omega)) ?_
 refine tp rfl (A8 (rows:=[(0,[_]),(1,[_]),(2,[_]),(3,[_]),(4,[_]),(5,[_]),(6,[_]),(8,[_])]) rfl Y7 GZ ⟨⟨rfl,(Vo rfl)⟩,⟨⟨rfl,(Vo rfl)⟩,⟨⟨rfl,(Vo rfl)⟩,⟨⟨rfl,(Vo rfl)⟩,⟨⟨rfl,(Vo rfl)⟩,⟨⟨rfl,(Vo rfl)⟩,⟨⟨rfl,(Vo rfl)⟩,⟨⟨rfl,(Vo rfl)⟩,trivial⟩⟩⟩⟩⟩⟩⟩⟩ rfl) ?_
 refine Tl rfl rfl rfl rfl E6 GZ (fun b1=> ?_)
 refine TO.CW 0 rfl rfl rfl (vl rfl) (Va rfl) rfl AH rfl rfl (TO.freeze 0 9 rfl rfl (TO.nil (Fin.go (Tr.seq (Tr.Cl (tp rfl (At rfl Ac AH (vl rfl) rfl rfl) ?_))))))
 refine Tl rfl rfl rfl rfl E6 GZ (fun b2=> ?_)
 refine TO.CW 0 rfl rfl rfl (vl rfl) (Va rfl) rfl AH rfl rfl (TO.nil (Fin.go (Tr.seq (Tr.Cl (tm rfl ?_)))))
 refine tp rfl (Bu rfl underlying5 underlying3 (vl rfl) (by unfold CR;omega)) ?_
 refine tp rfl (BE rfl (vl rfl) (vl rfl) ?hin) ?_;case hin=>unfold CR;omega
 refine tm rfl ?_
 refine tp rfl (Bu rfl underlying5 underlying3 (vl rfl) (by unfold CR;omega)) ?_
 refine tp rfl (BE rfl (vl rfl) (vl rfl) ?hin) ?_;case hin=>unfold CR;omega
 refine tp rfl (BW rfl Rj (vl rfl)) (TO.B4 0 rfl rfl (AU rfl rfl (vl rfl) (Vo rfl) I5 rfl (by exact Nb rfl) rfl) (tp rfl (BW rfl Ga (vl rfl)) (TO.B4 0 rfl rfl (AU rfl rfl (vl rfl) (Vo rfl) DB rfl (by exact Nb rfl) rfl) (TO.nil (Fin.go (Dv 0 2 3 9 10 rfl (Tr.seq (Tr.seq ?_))))))))
 cases c
 refine Tr.BK (cm rfl (Ch.nil (Fin.go ?_)))
 refine Tr.cn rfl ?_ ?_<;>intro h1 q1
 exact absurd h1 (by decide)
 refine Tr.skip (Fin.go (Tr.seq (Tr.XE 0 (AR (rB (a+1+b))) rfl rfl (Tr.Cl (tp rfl (At rfl Ac AH (vl rfl) rfl rfl) ?_)))))
 refine Tl rfl rfl rfl rfl E6 GZ (fun b3=> ?_)
 refine TO.CW 0 rfl rfl rfl (vl rfl) (Va rfl) rfl AH rfl rfl (TO.nil (Fin.go (Tr.seq (Tr.Cl (tm rfl ?_)))))
 refine tp rfl (Bu rfl underlying5 underlying3 (vl rfl) (by unfold CR;omega)) ?_
 refine tp rfl (BE rfl (vl rfl) (vl rfl) ?hin) ?_;case hin=>unfold CR;omega
 refine tp rfl (BW rfl Lq (vl rfl)) (TO.B4 0 rfl rfl (AU rfl rfl (vl rfl) (Vo rfl) DB rfl (by exact Nb rfl) rfl) (tp rfl (BW rfl Ga (vl rfl)) (TO.B4 0 rfl rfl (AU rfl rfl (vl rfl) (Vo rfl) DB rfl (by exact Nb rfl) rfl) (TO.nil (Fin.go (D_ 0 2 3 9 10 11 rfl (Tr.seq (Tr.XE 0 (AR (rC a)) rfl rfl (Tr.BK (co rfl (At rfl Ac AH (vl rfl) rfl rfl) (co rfl (Ai 1 rfl (AE rfl Ac AH (vl rfl) rfl rfl)) (co rfl (Ai 0 rfl (AE rfl Ac AH (vl rfl) rfl rfl)) (co rfl (Aw (xs:=[.tmp 44,.tmp 45,.tmp 46]) (rows:=[_,_,_]) rfl rfl underlying31 AH E6 rfl (by decide) ⟨⟨(by exact rfl),(Va rfl)⟩,⟨⟨(by exact rfl),(Va rfl)⟩,⟨⟨(by exact rfl),(Va rfl)⟩,trivial⟩⟩⟩ (by decide)) ?_)))))))))))))
 refine co rfl (Aq rfl (Lb (a:=a) (d:=(a+1+b)) ha (by omega)) ⟨(Kf rfl),trivial⟩) ?_
 refine cm rfl (co rfl (Ay rfl (vl rfl) rfl) (co rfl (Ay rfl (vl rfl) rfl) (cm rfl (cm rfl (Ch.nil (Fin.go (Tr.drop 0 (Tr.drop 0 (Dv 0 2 3 12 13 rfl (Tr.seq (Tr.BK (cm rfl (cm rfl ?_)))))))))))))
 refine co rfl (Bu rfl underlying5 underlying3 (vl rfl) (by unfold CR;omega)) ?_
 refine co rfl (Aq rfl (Nv (a:=a) (d:=(a+1+b)) (AJ:=g) ha (by omega) (by omega)) ⟨ke rfl,ke rfl,trivial⟩) ?_
 refine cm rfl (co rfl (Ay rfl (vl rfl) rfl) (co rfl (Ay rfl (vl rfl) rfl) (cm rfl (cm rfl (Ch.nil (Fin.go (E5 0 2 3 12 13 14 15 rfl (Tr.seq (Tr.BK (cm rfl ?_))))))))))
 refine co rfl (Aq rfl (Q9 (a:=a) (d:=a+1+b) ha (by omega) (by omega)) ⟨ke rfl,trivial⟩) ?_
 refine cm rfl (co rfl (Ay rfl (vl rfl) rfl) (co rfl (Ay rfl (vl rfl) rfl) (cm rfl (cm rfl (Ch.nil (Fin.go (RB 0 2 3 12 13 14 15 16 17 rfl (Tr.seq (Tr.BK (cm rfl (cm rfl ?_)))))))))))
 refine co rfl (Bu rfl underlying5 underlying3 (vl rfl) (by unfold CR;omega)) ?_
 refine cm rfl ?_
 refine co rfl (Bu rfl underlying5 underlying3 (vl rfl) (by unfold CR;omega)) ?_
 refine co rfl (Aq rfl (Nw (a:=a) (d:=(a+1+b)) (AJ:=g) ha (by omega) (by omega)) ⟨ke rfl,ke rfl,ke rfl,ke rfl,trivial⟩) ?_
 refine cm rfl (co rfl (Ay rfl (vl rfl) rfl) (co rfl (Ay rfl (vl rfl) rfl) (cm rfl (cm rfl (Ch.nil (Fin.go (Im 3 13 14 15 16 17 18 19 rfl (Tr.seq (Tr.seq (Tr.BK (cm rfl (co rfl (ki rfl rfl rfl rfl) (cm rfl ?_)))))))))))))
 refine Ch.cs 74 rfl ?_ ?_<;>intro h2 q2
 exfalso;simp at h2
 refine CZ h2 rfl (cy h2 rfl (ki rfl rfl rfl rfl) (co rfl (Fb rfl rfl h2 rfl) (cm rfl ?_)))
 refine Ch.cs 78 rfl ?_ ?_<;>intro h3 q3
 exfalso;simp at h3
 refine CZ h3 rfl (cy h3 rfl (ki rfl rfl rfl rfl) (co rfl (Fb rfl rfl h3 rfl) (cm rfl ?_)))
 refine Ch.cs 82 rfl ?_ ?_<;>intro h4 q4
 exfalso;simp at h4
 refine CZ h4 rfl (cy h4 rfl (ki rfl rfl rfl rfl) (co rfl (Fb rfl rfl h4 rfl) (cm rfl ?_)))
 refine Ch.cs 86 rfl ?_ ?_<;>intro h5 q5
 exfalso;simp at h5
 refine CZ h5 rfl (cy h5 rfl (Bi rfl underlying35 (vl rfl)) (cy h5 rfl (ki rfl rfl rfl rfl) (co rfl (Fb rfl rfl h5 rfl) (cm rfl ?_))))
 refine Ch.cs 91 rfl ?_ ?_<;>intro h6 q6
 exfalso;simp at h6
 refine CZ h6 rfl (cy h6 rfl (Bi rfl underlying22 (vl rfl)) (cy h6 rfl (ki rfl rfl rfl rfl) (co rfl (Fb rfl rfl h6 rfl) (Ch.nil (Fin.go (Ks 3 14 16 95 rfl ?_))))))
 refine Tr.cn rfl ?_ ?_<;>intro h7 q7
 exfalso;simp at h7
 refine Tr.skip (Fin.go (Tr.seq (Tr.seq (Tr.BK (cm rfl (Ch.nil (Fin.go (Tr.block (Tr.BX [(3,_),(14,_),(16,_)] (QN rfl) (fun k:Nat=>[(20,int ((k:Nat):Int))]) (fun k:Nat=>k≤(Iw).length) (fun k:Nat=>(Iw).length-k) 0 (Nat.zero_le _) ⟨ke rfl,trivial⟩ ?_)))))))))
 rintro k DH
 refine Tr.seq (Tr.seq (Tr.BK (cm rfl (cm rfl (co rfl (Bi rfl underlying35 (vl rfl)) (co rfl (ki rfl rfl rfl rfl) (Ch.nil (Fin.go ?_))))))))
 refine Tr.cn rfl ?_ ?_<;>intro h8 q8
 have A5:k<(Iw).length:=A_ h8
 obtain ⟨x,A2⟩:=at_ A5
 obtain ⟨m,Tm,RU⟩:=QB A2
 refine Tr.skip (Fin.go (Tr.seq (Tr.block (Tr.seq (Tr.BK (cm rfl (cm rfl (co rfl (AL rfl underlying35 EW (vl rfl) (vl rfl) (by omega) (BN A2)) (co rfl (Mj rfl E7 rfl rfl) (co rfl (I2 rfl Fo rfl) (co rfl (Bi rfl underlying22 (vl rfl)) (co rfl (ki rfl rfl rfl rfl) (cm rfl ?_)))))))))))))
 refine Ch.cs 109 rfl ?_ ?_<;>intro h9 q9
 exfalso;rw [Tm] at h9;simp at h9
 refine CZ h9 rfl (CZ h9 rfl (cy h9 rfl (AL rfl underlying35 EW (vl rfl) (vl rfl) (by omega) (BN A2)) (cy h9 rfl (Mj rfl E7 rfl rfl) (cy h9 rfl (I2 rfl Fo rfl) ?_))))
 refine cy h9 rfl (AL rfl underlying22 DB (vl rfl) (vl rfl) (by omega) (CD (x:=m) (by rw [Tm];rfl))) ?_
 refine cy h9 rfl (I2 rfl CE rfl) (cy h9 rfl (ki rfl rfl rfl rfl) (CZ h9 rfl ?_))
 refine Ch.cs 118 rfl ?_ ?_<;>intro h10 UT
 have kZ:=UT
 refine CZ h10 rfl (CZ h10 rfl (cy h10 rfl (AL rfl underlying35 EW (vl rfl) (vl rfl) (by omega) (BN A2)) (cy h10 rfl (Mj rfl Gb rfl rfl) (cy h10 rfl (I2 rfl ID rfl) (cy h10 rfl (Bi rfl underlying53 (vl rfl)) (cy h10 rfl (ki rfl rfl rfl rfl) (cy h9 rfl (KV rfl rfl h10 rfl) (co rfl (Fb rfl rfl h9 rfl) (cm rfl ?_)))))))))
 refine Ch.cs 128 rfl ?_ ?_<;>intro h11 Z_
 exfalso;omega
 refine CZ h11 rfl (CZ h11 rfl (cy h11 rfl (AL rfl underlying35 EW (vl rfl) (vl rfl) (by omega) (BN A2)) (cy h11 rfl (Mj rfl E7 rfl rfl) (cy h11 rfl (I2 rfl Fo rfl) ?_))))
 refine cy h11 rfl (AL rfl underlying22 DB (vl rfl) (vl rfl) (by omega) (CD (x:=m) (by rw [Tm];rfl))) ?_
 refine cy h11 rfl (I2 rfl CE rfl) (cy h11 rfl (ki rfl rfl rfl rfl) (CZ h11 rfl ?_))
 refine Ch.cs 137 rfl ?_ ?_<;>intro h12 WN
 have gP:=WN
 refine CZ h12 rfl (CZ h12 rfl (cy h12 rfl (AL rfl underlying35 EW (vl rfl) (vl rfl) (by omega) (BN A2)) (cy h12 rfl (Mj rfl Gb rfl rfl) (cy h12 rfl (I2 rfl ID rfl) (cy h12 rfl (Bi rfl underlying53 (vl rfl)) (cy h12 rfl (ki rfl rfl rfl rfl) (cy h11 rfl (KV rfl rfl h12 rfl) (co rfl (Fb rfl rfl h11 rfl) (Ch.nil (Fin.go (Dv 3 14 16 20 146 rfl ?_)))))))))))
 refine Tr.cn rfl ?_ ?_<;>intro Pg XS
 exfalso;omega
 refine Tr.skip (Fin.block (Fin.go (Tr.BK (cm rfl (IC rfl rfl rfl rfl (by omega) (cm rfl (Ch.nil (Fin.AF (k+1) ⟨A5,by omega⟩ ⟨⟨_,rfl,Ad k⟩,ke rfl,ke rfl,ke rfl,trivial⟩))))))))
 iterate 7 refine cnt h12 rfl ?_
 refine cy h11 rfl (Fb rfl rfl h12 rfl) (co rfl (Fb rfl rfl h11 rfl) (Ch.nil (Fin.go (Dv 3 14 16 20 146 rfl (Tr.cond rfl (fun h=>nomatch h) (fun _=> ?_))))))
 refine Tr.skip (Fin.block (Fin.go (Tr.BK (cm rfl (IC rfl rfl rfl rfl (by omega) (cm rfl (Ch.nil (Fin.AF (k+1) ⟨A5,by omega⟩ ⟨⟨_,rfl,Ad k⟩,ke rfl,ke rfl,ke rfl,trivial⟩))))))))
 iterate 7 refine cnt h10 rfl ?_
 refine cy h9 rfl (Fb rfl rfl h10 rfl) (co rfl (Fb rfl rfl h9 rfl) (cm rfl (CZ rfl rfl (CZ rfl rfl (cy rfl rfl (AL rfl underlying35 EW (vl rfl) (vl rfl) (by omega) (BN A2)) (cy rfl rfl (Mj rfl E7 rfl rfl) (cy rfl rfl (I2 rfl Fo rfl) ?_)))))))
 refine cy rfl rfl (AL rfl underlying22 DB (vl rfl) (vl rfl) (by omega) (CD (x:=m) (by rw [Tm];rfl))) ?_
 refine cy rfl rfl (I2 rfl CE rfl) (cy rfl rfl (ki rfl rfl rfl rfl) (CZ rfl rfl ?_))
 refine Ch.cs 137 rfl ?_ ?_<;>intro Pn aA
 have gP:=aA
 refine CZ Pn rfl (CZ Pn rfl (cy Pn rfl (AL rfl underlying35 EW (vl rfl) (vl rfl) (by omega) (BN A2)) (cy Pn rfl (Mj rfl Gb rfl rfl) (cy Pn rfl (I2 rfl ID rfl) (cy Pn rfl (Bi rfl underlying53 (vl rfl)) (cy Pn rfl (ki rfl rfl rfl rfl) (cy rfl rfl (KV rfl rfl Pn rfl) (co rfl (Fb rfl rfl rfl rfl) (Ch.nil (Fin.go (Dv 3 14 16 20 146 rfl ?_)))))))))))
 refine Tr.cn rfl ?_ ?_<;>intro iF iG
 exfalso;omega
 refine Tr.skip (Fin.block (Fin.go (Tr.BK (cm rfl (IC rfl rfl rfl rfl (by omega) (cm rfl (Ch.nil (Fin.AF (k+1) ⟨A5,by omega⟩ ⟨⟨_,rfl,Ad k⟩,ke rfl,ke rfl,ke rfl,trivial⟩))))))))
 iterate 7 refine cnt Pn rfl ?_
 refine cy rfl rfl (Fb rfl rfl Pn rfl) (co rfl (Fb rfl rfl rfl rfl) (Ch.nil (Fin.go (Dv 3 14 16 20 146 rfl (Tr.cond rfl (fun h=>nomatch h) (fun _=> ?_))))))
 refine Tr.skip (Fin.block (Fin.go (Tr.BK (cm rfl (IC rfl rfl rfl rfl (by omega) (cm rfl (Ch.nil (Fin.AF (k+1) ⟨A5,by omega⟩ ⟨⟨_,rfl,Ad k⟩,ke rfl,ke rfl,ke rfl,trivial⟩))))))))
 have CK:k=(Iw).length:=by have:=BA h8;omega
 subst CK
 refine Tr.exit (Fin.AG (Fin.AG (Fin.AX (Fin.go (Tr.seq (Tr.BK (cm rfl (co rfl (Bi rfl underlying39 (vl rfl)) (co rfl (ki rfl rfl rfl rfl) (cm rfl (co rfl (N5 rfl underlying4 (vl rfl) (vl rfl)) (cm rfl ?_))))))))))))
 refine Ch.cs 152 rfl ?_ ?_<;>intro h16 iH
 refine CZ h16 rfl (cy h16 rfl (Ey rfl (vl rfl)) (CZ h16 rfl ?_))
 refine Ch.cs 155 rfl ?_ ?_<;>intro WL fH
 iterate 7 refine cnf WL rfl ?_
 iterate 5 refine cu rfl ?_
 refine cnf WL rfl (cy h16 rfl (KV rfl rfl WL rfl) (co rfl (KV rfl rfl h16 rfl) (cm rfl (cy rfl rfl (Aq rfl (LP) trivial) (co rfl (KV rfl rfl rfl rfl) (cm rfl (Ch.nil (Fin.go (Cc 8 rfl (Tr.ret (Fin.KY rfl (C1.Ig _ _) rfl ?_)))))))))))
 · exact Lr
 exfalso;simp at WL
 exfalso;simp at h16
 refine Tr.BK (cm rfl (Ch.nil (Fin.go ?_)))
 refine Tr.cn rfl ?_ ?_<;>intro cY fI
 refine Tr.Cl (tp rfl (Mj rfl Ga rfl rfl) (tp rfl (I2 rfl CE rfl) (tp rfl (BW rfl Ga (vl rfl)) (TO.B4 0 rfl rfl (AU rfl rfl (vl rfl) (Vo rfl) DB rfl (by exact Nb rfl) rfl) (TO.nil (Fin.go (Tr.seq (Tr.XE 0 (AR (rB a)) rfl rfl (Tr.Cl (tp rfl (At rfl Ac AH (vl rfl) rfl rfl) ?_))))))))))
 refine Tl rfl rfl rfl rfl E6 GZ (fun b4=> ?_)
 refine TO.CW 0 rfl rfl rfl (vl rfl) (Va rfl) rfl AH rfl rfl (TO.nil (Fin.go (Tr.seq (Tr.Cl (tm rfl ?_)))))
 refine tp rfl (Bu rfl underlying5 underlying3 (vl rfl) (by unfold CR;omega)) ?_
 refine tp rfl (BE rfl (vl rfl) (vl rfl) ?hin) ?_;case hin=>unfold CR;omega
 refine tp rfl (BW rfl Lq (vl rfl)) (TO.B4 0 rfl rfl (AU rfl rfl (vl rfl) (Vo rfl) DB rfl (by exact Nb rfl) rfl) (tp rfl (BW rfl Ga (vl rfl)) (TO.B4 0 rfl rfl (AU rfl rfl (vl rfl) (Vo rfl) DB rfl (by exact Nb rfl) rfl) (TO.nil (Fin.go (D_ 0 2 3 9 10 11 rfl (Tr.seq (Tr.XE 0 (AR (rC a)) rfl rfl (Tr.BK (co rfl (At rfl Ac AH (vl rfl) rfl rfl) (co rfl (Ai 1 rfl (AE rfl Ac AH (vl rfl) rfl rfl)) (co rfl (Ai 0 rfl (AE rfl Ac AH (vl rfl) rfl rfl)) (co rfl (Aw (xs:=[.tmp 44,.tmp 45,.tmp 46]) (rows:=[_,_,_]) rfl rfl underlying31 AH E6 rfl (by decide) ⟨⟨(by exact rfl),(Va rfl)⟩,⟨⟨(by exact rfl),(Va rfl)⟩,⟨⟨(by exact rfl),(Va rfl)⟩,trivial⟩⟩⟩ (by decide)) ?_)))))))))))))
 refine co rfl (Aq rfl (Lb (a:=a) (d:=a) ha (by omega)) ⟨(Kf rfl),trivial⟩) ?_
 refine cm rfl (co rfl (Ay rfl (vl rfl) rfl) (co rfl (Ay rfl (vl rfl) rfl) (cm rfl (cm rfl (Ch.nil (Fin.go (Tr.drop 0 (Tr.drop 0 (Dv 0 2 3 12 13 rfl (Tr.seq (Tr.BK (cm rfl (cm rfl ?_)))))))))))))
 refine co rfl (Bu rfl underlying5 underlying3 (vl rfl) (by unfold CR;omega)) ?_
 refine co rfl (Aq rfl (Nv (a:=a) (d:=a) (AJ:=g) ha (by omega) (by omega)) ⟨ke rfl,ke rfl,trivial⟩) ?_
 refine cm rfl (co rfl (Ay rfl (vl rfl) rfl) (co rfl (Ay rfl (vl rfl) rfl) (cm rfl (cm rfl (Ch.nil (Fin.go (E5 0 2 3 12 13 14 15 rfl (Tr.seq (Tr.BK (cm rfl ?_))))))))))
 refine co rfl (Aq rfl (Q8 (a:=a) ha) ⟨ke rfl,trivial⟩) ?_
 refine cm rfl (co rfl (Ay rfl (vl rfl) rfl) (co rfl (Ay rfl (vl rfl) rfl) (cm rfl (cm rfl (Ch.nil (Fin.go (RB 0 2 3 12 13 14 15 16 17 rfl (Tr.seq (Tr.BK (cm rfl (cm rfl ?_)))))))))))
 refine co rfl (Bu rfl underlying5 underlying3 (vl rfl) (by unfold CR;omega)) ?_
 refine cm rfl ?_
 refine co rfl (Bu rfl underlying5 underlying3 (vl rfl) (by unfold CR;omega)) ?_
 refine co rfl (Aq rfl (Nw (a:=a) (d:=a) (AJ:=g) ha (by omega) (by omega)) ⟨ke rfl,ke rfl,ke rfl,ke rfl,trivial⟩) ?_
 refine cm rfl (co rfl (Ay rfl (vl rfl) rfl) (co rfl (Ay rfl (vl rfl) rfl) (cm rfl (cm rfl (Ch.nil (Fin.go (Im 3 13 14 15 16 17 18 19 rfl (Tr.seq (Tr.seq (Tr.BK (cm rfl (co rfl (ki rfl rfl rfl rfl) (cm rfl ?_)))))))))))))
 refine Ch.cs 74 rfl ?_ ?_<;>intro XP fJ
 exfalso;simp at XP
 refine CZ XP rfl (cy XP rfl (ki rfl rfl rfl rfl) (co rfl (Fb rfl rfl XP rfl) (cm rfl ?_)))
 refine Ch.cs 78 rfl ?_ ?_<;>intro XQ fK
 exfalso;simp at XQ
 refine CZ XQ rfl (cy XQ rfl (ki rfl rfl rfl rfl) (co rfl (Fb rfl rfl XQ rfl) (cm rfl ?_)))
 refine Ch.cs 82 rfl ?_ ?_<;>intro WM fL
 exfalso;simp at WM
 refine CZ WM rfl (cy WM rfl (ki rfl rfl rfl rfl) (co rfl (Fb rfl rfl WM rfl) (cm rfl ?_)))
 refine Ch.cs 86 rfl ?_ ?_<;>intro XT iI
 exfalso;simp at XT
 refine CZ XT rfl (cy XT rfl (Bi rfl underlying35 (vl rfl)) (cy XT rfl (ki rfl rfl rfl rfl) (co rfl (Fb rfl rfl XT rfl) (cm rfl ?_))))
 refine Ch.cs 91 rfl ?_ ?_<;>intro h23 iJ
 exfalso;simp at h23
 refine CZ h23 rfl (cy h23 rfl (Bi rfl underlying22 (vl rfl)) (cy h23 rfl (ki rfl rfl rfl rfl) (co rfl (Fb rfl rfl h23 rfl) (Ch.nil (Fin.go (Ks 3 14 16 95 rfl ?_))))))
 refine Tr.cn rfl ?_ ?_<;>intro fM iK
 exfalso;simp at fM
 refine Tr.skip (Fin.go (Tr.seq (Tr.seq (Tr.BK (cm rfl (Ch.nil (Fin.go (Tr.block (Tr.BX [(3,_),(14,_),(16,_)] (QN rfl) (fun k:Nat=>[(20,int ((k:Nat):Int))]) (fun k:Nat=>k≤(Iw).length) (fun k:Nat=>(Iw).length-k) 0 (Nat.zero_le _) ⟨ke rfl,trivial⟩ ?_)))))))))
 rintro k DH
 refine Tr.seq (Tr.seq (Tr.BK (cm rfl (cm rfl (co rfl (Bi rfl underlying35 (vl rfl)) (co rfl (ki rfl rfl rfl rfl) (Ch.nil (Fin.go ?_))))))))
 refine Tr.cn rfl ?_ ?_<;>intro cZ iL
 have A5:k<(Iw).length:=A_ cZ
 obtain ⟨x,A2⟩:=at_ A5
 obtain ⟨m,Tm,RU⟩:=QB A2
 refine Tr.skip (Fin.go (Tr.seq (Tr.block (Tr.seq (Tr.BK (cm rfl (cm rfl (co rfl (AL rfl underlying35 EW (vl rfl) (vl rfl) (by omega) (BN A2)) (co rfl (Mj rfl E7 rfl rfl) (co rfl (I2 rfl Fo rfl) (co rfl (Bi rfl underlying22 (vl rfl)) (co rfl (ki rfl rfl rfl rfl) (cm rfl ?_)))))))))))))
 refine Ch.cs 109 rfl ?_ ?_<;>intro MV iM
 exfalso;rw [Tm] at MV;simp at MV
 refine CZ MV rfl (CZ MV rfl (cy MV rfl (AL rfl underlying35 EW (vl rfl) (vl rfl) (by omega) (BN A2)) (cy MV rfl (Mj rfl E7 rfl rfl) (cy MV rfl (I2 rfl Fo rfl) ?_))))
 refine cy MV rfl (AL rfl underlying22 DB (vl rfl) (vl rfl) (by omega) (CD (x:=m) (by rw [Tm];rfl))) ?_
 refine cy MV rfl (I2 rfl CE rfl) (cy MV rfl (ki rfl rfl rfl rfl) (CZ MV rfl ?_))
 refine Ch.cs 118 rfl ?_ ?_<;>intro RG fN
 have kZ:=fN
 refine CZ RG rfl (CZ RG rfl (cy RG rfl (AL rfl underlying35 EW (vl rfl) (vl rfl) (by omega) (BN A2)) (cy RG rfl (Mj rfl Gb rfl rfl) (cy RG rfl (I2 rfl ID rfl) (cy RG rfl (Bi rfl underlying53 (vl rfl)) (cy RG rfl (ki rfl rfl rfl rfl) (cy MV rfl (KV rfl rfl RG rfl) (co rfl (Fb rfl rfl MV rfl) (cm rfl ?_)))))))))
 refine Ch.cs 128 rfl ?_ ?_<;>intro Nx iN
 exfalso;omega
 refine CZ Nx rfl (CZ Nx rfl (cy Nx rfl (AL rfl underlying35 EW (vl rfl) (vl rfl) (by omega) (BN A2)) (cy Nx rfl (Mj rfl E7 rfl rfl) (cy Nx rfl (I2 rfl Fo rfl) ?_))))
 refine cy Nx rfl (AL rfl underlying22 DB (vl rfl) (vl rfl) (by omega) (CD (x:=m) (by rw [Tm];rfl))) ?_
 refine cy Nx rfl (I2 rfl CE rfl) (cy Nx rfl (ki rfl rfl rfl rfl) (CZ Nx rfl ?_))
 refine Ch.cs 137 rfl ?_ ?_<;>intro SJ iO
 have gP:=iO
 refine CZ SJ rfl (CZ SJ rfl (cy SJ rfl (AL rfl underlying35 EW (vl rfl) (vl rfl) (by omega) (BN A2)) (cy SJ rfl (Mj rfl Gb rfl rfl) (cy SJ rfl (I2 rfl ID rfl) (cy SJ rfl (Bi rfl underlying53 (vl rfl)) (cy SJ rfl (ki rfl rfl rfl rfl) (cy Nx rfl (KV rfl rfl SJ rfl) (co rfl (Fb rfl rfl Nx rfl) (Ch.nil (Fin.go (Dv 3 14 16 20 146 rfl ?_)))))))))))
 refine Tr.cn rfl ?_ ?_<;>intro jk jl
 exfalso;omega
 refine Tr.skip (Fin.block (Fin.go (Tr.BK (cm rfl (IC rfl rfl rfl rfl (by omega) (cm rfl (Ch.nil (Fin.AF (k+1) ⟨A5,by omega⟩ ⟨⟨_,rfl,Ad k⟩,ke rfl,ke rfl,ke rfl,trivial⟩))))))))
 iterate 7 refine cnt SJ rfl ?_
 refine cy Nx rfl (Fb rfl rfl SJ rfl) (co rfl (Fb rfl rfl Nx rfl) (Ch.nil (Fin.go (Dv 3 14 16 20 146 rfl (Tr.cond rfl (fun h=>nomatch h) (fun _=> ?_))))))
 refine Tr.skip (Fin.block (Fin.go (Tr.BK (cm rfl (IC rfl rfl rfl rfl (by omega) (cm rfl (Ch.nil (Fin.AF (k+1) ⟨A5,by omega⟩ ⟨⟨_,rfl,Ad k⟩,ke rfl,ke rfl,ke rfl,trivial⟩))))))))
 iterate 7 refine cnt RG rfl ?_
 refine cy MV rfl (Fb rfl rfl RG rfl) (co rfl (Fb rfl rfl MV rfl) (cm rfl (CZ rfl rfl (CZ rfl rfl (cy rfl rfl (AL rfl underlying35 EW (vl rfl) (vl rfl) (by omega) (BN A2)) (cy rfl rfl (Mj rfl E7 rfl rfl) (cy rfl rfl (I2 rfl Fo rfl) ?_)))))))
 refine cy rfl rfl (AL rfl underlying22 DB (vl rfl) (vl rfl) (by omega) (CD (x:=m) (by rw [Tm];rfl))) ?_
 refine cy rfl rfl (I2 rfl CE rfl) (cy rfl rfl (ki rfl rfl rfl rfl) (CZ rfl rfl ?_))
 refine Ch.cs 137 rfl ?_ ?_<;>intro SK iP
 have gP:=iP
 refine CZ SK rfl (CZ SK rfl (cy SK rfl (AL rfl underlying35 EW (vl rfl) (vl rfl) (by omega) (BN A2)) (cy SK rfl (Mj rfl Gb rfl rfl) (cy SK rfl (I2 rfl ID rfl) (cy SK rfl (Bi rfl underlying53 (vl rfl)) (cy SK rfl (ki rfl rfl rfl rfl) (cy rfl rfl (KV rfl rfl SK rfl) (co rfl (Fb rfl rfl rfl rfl) (Ch.nil (Fin.go (Dv 3 14 16 20 146 rfl ?_)))))))))))
 refine Tr.cn rfl ?_ ?_<;>intro h32 jm
 exfalso;omega
 refine Tr.skip (Fin.block (Fin.go (Tr.BK (cm rfl (IC rfl rfl rfl rfl (by omega) (cm rfl (Ch.nil (Fin.AF (k+1) ⟨A5,by omega⟩ ⟨⟨_,rfl,Ad k⟩,ke rfl,ke rfl,ke rfl,trivial⟩))))))))
 iterate 7 refine cnt SK rfl ?_
 refine cy rfl rfl (Fb rfl rfl SK rfl) (co rfl (Fb rfl rfl rfl rfl) (Ch.nil (Fin.go (Dv 3 14 16 20 146 rfl (Tr.cond rfl (fun h=>nomatch h) (fun _=> ?_))))))
 refine Tr.skip (Fin.block (Fin.go (Tr.BK (cm rfl (IC rfl rfl rfl rfl (by omega) (cm rfl (Ch.nil (Fin.AF (k+1) ⟨A5,by omega⟩ ⟨⟨_,rfl,Ad k⟩,ke rfl,ke rfl,ke rfl,trivial⟩))))))))
 have CK:k=(Iw).length:=by have:=BA cZ;omega
 subst CK
 refine Tr.exit (Fin.AG (Fin.AG (Fin.AX (Fin.go (Tr.seq (Tr.BK (cm rfl (co rfl (Bi rfl underlying39 (vl rfl)) (co rfl (ki rfl rfl rfl rfl) (cm rfl (co rfl (N5 rfl underlying4 (vl rfl) (vl rfl)) (cm rfl ?_))))))))))))
 refine Ch.cs 152 rfl ?_ ?_<;>intro XU jo
 refine CZ XU rfl (cy XU rfl (Ey rfl (vl rfl)) (CZ XU rfl ?_))
 refine Ch.cs 155 rfl ?_ ?_<;>intro SL jq
 exfalso;simp at SL
 refine CZ SL rfl ?_
 refine cy SL rfl (AL rfl underlying39 AZ (vl rfl) (vl rfl) (by omega) (CD (x:=Vr a) rfl)) ?_
 refine cy SL rfl (Mj rfl Wx rfl rfl) (cy SL rfl (I2 rfl ID rfl) (cy SL rfl (Bi rfl underlying53 (vl rfl)) (cy SL rfl (ki rfl rfl rfl rfl) (CZ SL rfl ?_))))
 refine Ch.cs 162 rfl ?_ ?_<;>intro WO jr
 refine CZ WO rfl ?_
 refine cy WO rfl (AL rfl underlying39 AZ (vl rfl) (vl rfl) (by omega) (CD (x:=Vr a) rfl)) ?_
 refine cy WO rfl (Mj rfl Rk rfl rfl) (cy WO rfl (I2 rfl CE rfl) (cy WO rfl (ki rfl rfl rfl rfl) (cy SL rfl (KV rfl rfl WO rfl) (cy XU rfl (Fb rfl rfl SL rfl) (co rfl (KV rfl rfl XU rfl) (cm rfl ?_))))))
 refine Ch.cs 171 rfl ?_ ?_<;>intro cj jt
 refine cy cj rfl (Aq rfl (LP) trivial) (co rfl (KV rfl rfl cj rfl) (cm rfl (Ch.nil (Fin.go (Cc 8 rfl (Tr.ret (Fin.KY rfl (C1.Ig _ _) rfl ?_)))))))
 · exact Lr
 exfalso;simp at cj
 exfalso;simp at WO
 exfalso;simp at XU
 exact absurd cY (by decide)
theorem FO (os:Os) (started:os.Started) (H:Type) (enc:TypeId×Value→H):
  ReturnsInHanded {} Tryz.checked os 4 .any (Rows.identityRenamedSpec.pre6 enc Tryz.prog Tryz.f4 Rows.identityRenamedRow.domain false) (Rows.identityRenamedSpec.post enc Tryz.prog Tryz.f4 false true false false):=by
 refine returnsInHanded_of_change (C := Tryz.checked) gE started (by kernel_rfl) Tryz.func4
  (ChangeSpec.witness6 (enc:=enc) (C:=Tryz.checked) false ⟨#[],#[.int .u8 0,.int .u8 0,.int .u8 0,.bool false],[]⟩ 8 (by kernel_rfl) (by kernel_rfl) (by kernel_rfl) (by kernel_rfl)) ?_
 intro W base args ds gs before bP hW kf _
 have hval:∀(j:Nat) t v,Tryz.f4.params[j]? =some t→args[j]? =some v→Value.okWide Tryz.prog W .any base t v:=bP
 have kg:=hW
 obtain ⟨p,q,kj,hV,hpq,hfz,hnd⟩:=hW
 have hA:DataW.TrodAll enc Tryz.prog W 0 (fun _=>true) true Tryz.f4.params.toList args.toList ds p:=kj
 have RV:=hA
 rw [Tryz.params4] at hA hval
 obtain ⟨v0,v1,v2,v3,d0,d1,d2,d3,p0,p1,p2,p3,rfl,rfl,hp,h0,h1,h2,h3⟩:=trodAll_four hA
 obtain ⟨rfl,rfl⟩:=trodVars_none hV
 obtain ⟨a0,dM,e0⟩:=I3 (HQ Tryz.underlying5) h0 (by obtain ⟨_,rfl⟩:=okWide_int Tryz.underlying5 (hval 0 5 v0 rfl rfl);rfl)
 obtain ⟨a1,ko,e1⟩:=I3 (HQ Tryz.underlying5) h1 (by obtain ⟨_,rfl⟩:=okWide_int Tryz.underlying5 (hval 1 5 v1 rfl rfl);rfl)
 obtain ⟨a2,Yz,e2⟩:=I3 (HQ Tryz.underlying5) h2 (by obtain ⟨_,rfl⟩:=okWide_int Tryz.underlying5 (hval 2 5 v2 rfl rfl);rfl)
 obtain ⟨a3,lR,e3⟩:=I3 (N_ Tryz.underlying4) h3 (by obtain ⟨_,rfl⟩:=okWide_bool Tryz.underlying4 (hval 3 4 v3 rfl rfl);rfl)
 refine ((HF (u8_in dM) (u8_in ko) (u8_in Yz)).2 bn W [v0,v1,v2,v3] (Wi W) ⟨e0,e1,e2,e3,trivial⟩).mono fun e W' ⟨v,he,hv,hb⟩=> ?_
 subst he
 obtain rfl:v= .bool true:=hv
 exact ⟨_,rfl,Rc S5 (by kernel_rfl) rfl Tryz.underlying4 rfl RV (by rw [hpq];simp) kg rfl hb⟩
theorem FP:(Rows.identityRenamedRow.inPlace==Tryz.pinned.checked.prog.inPlace 4)=true:=by kernel_rfl
theorem FQ:(Rows.identityRenamedRow.unfollowed==Tryz.pinned.checked.prog.unfollowed 4)=true:=by kernel_rfl
theorem FR:(Rows.identityRenamedRow.recurses==Tryz.pinned.checked.prog.recurses 4)=true:=by kernel_rfl
theorem FT:(Rows.identityRenamedRow.named==Tryz.pinned.checked.prog.varsNamed 4)=true:=by kernel_rfl
theorem Fh:joinedFacts Tryz.pinned.checked.prog 4 Tryz.f4 Rows.identityRenamedSpec Rows.identityRenamedRow=true:=by
 unfold joinedFacts
 rw [FP,FQ,FR,FT]
 kernel_rfl
theorem identityRenamed_holds:Rows.IdentityRenamedSaid:=
 OpenClaim.holds_of_wide 4 Tryz.f4 rfl rfl rfl rfl rfl rfl rfl ⟨rfl, rfl, rfl, rfl, rfl⟩ rfl rfl rfl rfl rfl (by kernel_rfl) Tryz.func4 Fh
  (of_decide_eq_true (by kernel_rfl)) (by unfold Func.isWrapper;first|(rw [if_pos (by decide+kernel)];kernel_rfl)|(rw [if_neg (by decide+kernel)];exact ⟨rfl,rfl⟩))
  (fun os started H enc _=>FO os started H enc)
end Go.Proofs.YtgilhkjlfongoaaGreat
