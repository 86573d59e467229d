/-
  Part 1 of the texts that prove this claim, merged.
-/
import Derived.WalkKit
import Derived.WalkSpells
import Derived.WalkLawsBesides
import Derived.KernelRfl
import Derived.Great.BuildSlice
import Derived.Great.FillDense
import Derived.Lib.SliceRun
import Derived.ChangeArms
import Derived.OpenShut
import Derived.ChangeSame
import Derived.RowKit
import Derived.ProofKit
set_option linter.all false
set_option maxRecDepth 40000
set_option maxHeartbeats 16000000
theorem AA{p:Prop}(h:p:=by omega):p:=h
theorem AB{p:Prop}(h:p:=by decide):p:=h
theorem Am{p:Prop}(h:p:=by simp[ho,Op.operands]):p:=h
theorem G1{p:Prop}(h:p:=by refine int_eq (if_neg (fun hv=>?_)).symm;have ok:=Fz.1 hv;have o1:=ok.name;have o2:=ok.kind;have o3:=ok.p1;have o4:=ok.p4;have o5:=ok.l1;have o6:=ok.l8;have o7:=ok.u0;have o8:=ok.u1;(omega)):p:=h
theorem HB{p:Prop}(h:p:=by rw[eZ Ad];unfold De;first|(simp_all;done)|(split<;>simp_all<;>omega)|(repeat (any_goals split))<;>first|(simp_all;done)|(exfalso;omega)|(exfalso;simp_all;omega)):p:=h
theorem Ag{p:Prop}(h:p:=by exact Nb rfl):p:=h
theorem J5{p:Prop}(h:p:=by refine int_eq (if_neg (fun hv=>?_)).symm;have vf:=Ik hv;obtain⟨YP,YQ,Qq,Qr,Jy,HX,YR,YS,FY,Qs,Qt,Qu,Qv,YT,YU,YV,YW,YX,YY⟩:=vf;have YZ:=(Dg.1 Jy).2;unfold IQ at HX FY;omega):p:=h
theorem Ab{p:Prop}(h:p:=by exact rfl):p:=h
theorem GR{p:Prop}(h:p:=by simp only[List.length_append,List.length_take,List.length_drop,List.length_map,aI,O2,PZ];omega):p:=h
theorem F0{p:Prop}(h:p:=by simp only[List.length_append,List.length_map,List.length_cons,List.length_nil,List.length_take];unfold maxLen;omega):p:=h
theorem CB{p:Prop}(h:p:=by simp[ho,Op.operands,Call.operands]):p:=h
theorem N4{p:Prop}(h:p:=by refine int_eq (if_neg (fun hv=>?_)).symm;have ok:=Fz.1 hv;have o1:=ok.name;have o2:=ok.kind;have o3:=ok.p1;have o4:=ok.p4;have o5:=ok.l1;have o6:=ok.l8;have o7:=ok.u0;have o8:=ok.u1;(have h_:=ok.lnk k (by omega);unfold FZ at h_;rw[hg]at h_;simp_all;omega)):p:=h
theorem F1{p:Prop}(h:p:=by simp only[List.length_append,List.length_map,List.length_cons,List.length_nil,List.length_take];omega):p:=h
theorem Lz{p:Prop}(h:p:=by refine int_eq ?_;unfold YI;repeat (first|(refine Eq.trans ?_ (if_neg ?_).symm;rotate_left;focus (omega))|(refine(if_pos ?_).symm;omega)|(refine Eq.trans ?_ (if_neg ?_).symm;rotate_left;focus (simp_all;done)))):p:=h
theorem BW{p:Prop}(h:p:=by exact List.Mem.head _):p:=h
theorem IU{p:Prop}(h:p:=by simp only[List.length_map,List.length_append,List.length_cons,List.length_nil,List.length_take,List.length_drop];unfold maxLen;omega):p:=h
theorem IV{p:Prop}(h:p:=by simp only[List.length_map,List.length_append,List.length_cons,List.length_nil,List.length_take,List.length_drop];omega):p:=h
theorem Qw{p:Prop}(h:p:=by refine int_eq (if_neg (fun hv=>?_)).symm;have vf:=Ik hv;obtain⟨YP,YQ,Qq,Qr,Jy,HX,YR,YS,FY,Qs,Qt,Qu,Qv,YT,YU,YV,YW,YX,YY⟩:=vf;have YZ:=(Dg.1 Jy).2;unfold IQ at HX FY;simp_all):p:=h
theorem N5{p:Prop}(h:p:=by refine int_eq (if_neg (fun hv=>?_)).symm;have ok:=DR.1 hv;have v1:=ok.name;have v2:=ok.least;have v3:=ok.lm;have v4:=ok.most;have v5:=S2 ok.AR;have v6:=ok.SY;have v7:=ok.AAx;omega):p:=h
theorem Cg{p:Prop}(h:p:=by rw[List.length_map];omega):p:=h
theorem J6{p:Prop}(h:p:=by exact Az ⟨Eh _ _,GX (m:=(h::t).length) (by simp only[List.length_cons];omega) Ya,Co _ Lr,AH 4,trivial⟩):p:=h
theorem F2{p:Prop}(h:p:=by rw[show((k:Nat):Int)-1=((k-1:Nat):Int)by omega];exact Ap hy):p:=h
theorem J7{p:Prop}(h:p:=by simp only[List.length_map,List.length_append,List.length_cons,List.length_nil,List.length_take];unfold maxLen;omega):p:=h
theorem Fa{p:Prop}(h:p:=by refine bool_eq ?_;symm;rw[decide_eq_false_iff_not];rintro rfl;simp_all):p:=h
theorem Ai{p:Prop}(h:p:=by simp):p:=h
theorem IW{p:Prop}(h:p:=by rw[hX];exact Az ⟨Lr,Lr,Lr,AH 1,Lr,AH 4,AH 1,AH 1,Lr,trivial⟩):p:=h
theorem N6{p:Prop}(h:p:=by have hN:=Qx (c:=c) (e:=e) (su:=su) (day:=day) (most:=most) hr (by omega);exact BU ⟨Pr.le_of_eq (by rw[hN];rfl),int_eq (by rw[hN]),trivial⟩):p:=h
theorem GY{p:Prop}(h:p:=by exact BU ⟨Pr.le_of_eq (by rw[hN];rfl),int_eq (by rw[hN]),trivial⟩):p:=h
theorem jH{p:Prop}(h:p:=by have hX:=aJ (s:=s) (BB:=BB) (.inr (by omega));have hN:=Kx (s:=s) (BB:=BB) hb (by omega);exact BU ⟨Pr.le_trans (Az (qs:=As BO) ⟨Lr,Lr,Lr,AH 1,Lr,AH 4,AH 1,AH 1,Lr,trivial⟩) (Pr.le_of_eq (by rw[hX])),Pr.le_trans (Az (qs:=As BO) ⟨Lr,Lr,Lr,AH 1,Lr,AH 4,AH 1,AH 1,Lr,trivial⟩) (Pr.le_of_eq (by rw[hX])),int_eq hN.symm,trivial⟩):p:=h
theorem J8{p:Prop}(h:p:=by simp only[List.length_map,List.length_append,List.length_cons,List.length_nil,List.length_take];omega):p:=h
theorem BQ{p:Prop}(h:p:=by kernel_rfl):p:=h
theorem jI{p:Prop}(h:p:=by repeat' first|(refine int_eq ?_;rw[Mp (by omega)];have hb:bits=160\/bits=224\/bits=256\/bits=384\/bits=521:=(by omega);rcases hb with rfl|rfl|rfl|rfl|rfl<;>rfl)|(refine int_eq ?_;rw[Mp (by omega),if_neg (by simp[S3];omega)])|refine co rfl (N7 rfl vq vq (by omega)) ?_|refine ac ?_|(refine Tr.cn rfl ?_ ?_<;>intro h q)|(refine Ch.cg rfl rfl rfl ?_ ?_<;>intro h q)):p:=h
theorem DZ{p:Prop}(h:p:=by exact Ap (by assumption)):p:=h
theorem Qy{p:Prop}(h:p:=by refine int_eq (if_neg (fun hv=>?_)).symm;have ok:=F3.1 hv;(have o1:=ok.e16;have o2:=ok.e40;have o3:=ok.i30;have o4:=ok.it;have o5:=S4 ok;omega)):p:=h
theorem L1{p:Prop}(h:p:=by simp only[List.length_map,List.length_append,List.length_take,List.length_cons,List.length_nil];omega):p:=h
theorem Cs{p:Prop}(h:p:=by assumption):p:=h
theorem IX{p:Prop}(h:p:=by exact BU ⟨Pr.le_of_eq (by rw[hN]<;>rfl),int_eq (by rw[hN]),trivial⟩):p:=h
theorem UI{p:Prop}(h:p:=by repeat' first|(refine bool_eq ?_;unfold FR;simp_all;omega)|refine cy h rfl (CG (WQ) rfl rfl rfl) ?_|refine ac ?_|(refine Ch.cg rfl rfl rfl ?_ ?_<;>intro h q)):p:=h
theorem J9{p:Prop}(h:p:=by simp only[List.length_map,List.length_cons,List.length_nil];unfold maxLen;omega):p:=h
theorem UJ{p:Prop}(h:p:=by repeat' first|exact Co _ Lr|exact Fin.AP (k+1) ⟨Ae,by omega⟩ ⟨⟨_,rfl,AK k⟩,kz⟩|refine ac ?_|(refine Tr.cn rfl ?_ ?_<;>intro h q)):p:=h
theorem G_{p:Prop}(h:p:=by rw[Int.toNat_natCast,List.getElem?_map,Ad];rfl):p:=h
theorem jJ{p:Prop}(h:p:=by refine int_eq (if_neg (fun hv=>?_)).symm;have vf:=Ik hv;obtain⟨YP,YQ,Qq,Qr,Jy,HX,YR,YS,FY,Qs,Qt,Qu,Qv,YT,YU,YV,YW,YX,YY⟩:=vf;have YZ:=(Dg.1 Jy).2;unfold IQ at HX FY;have hn_:=(Dg.1 Jy).1 k (by omega);unfold nameAt at hn_;simp_all):p:=h
theorem IY{p:Prop}(h:p:=by rw[hX];exact Az ⟨Lr,Lr,Lr,Lr,Lr,Lr,Lr,AH 15,trivial⟩):p:=h
theorem Qz{p:Prop}(h:p:=by simp only[List.length_map,List.length_append,List.length_take,List.length_cons,List.length_nil];unfold maxLen;omega):p:=h
theorem Cc{p:Prop}(h:p:=by rw[h12];decide):p:=h
theorem Yb{p:Prop}(h:p:=by refine int_eq (if_neg (fun hv=>?_)).symm;have ok:=Fz.1 hv;have o1:=ok.name;have o2:=ok.kind;have o3:=ok.p1;have o4:=ok.p4;have o5:=ok.l1;have o6:=ok.l8;have o7:=ok.u0;have o8:=ok.u1;(simp_all;omega)):p:=h
theorem Ci{p:Prop}(h:p:=by simp;omega):p:=h
theorem J_{p:Prop}(h:p:=by simp only[List.length_map,List.length_cons,List.length_nil];omega):p:=h
theorem N8{p:Prop}(h:p:=by refine int_eq ?_;unfold HI;(repeat (first|rw[if_pos (by omega)]|rw[if_neg (by omega)]))):p:=h
theorem Ct{p:Prop}(h:p:=by rw[h11];decide):p:=h
theorem UK{p:Prop}(h:p:=by refine int_eq (if_neg (fun hv=>?_)).symm;have ok:=F3.1 hv;(have h_:=ok.ed m (by omega);unfold DO at h_;rw[hg]at h_;simp_all;omega)):p:=h
theorem jK{p:Prop}(h:p:=by repeat' first|(exfalso;have:=q;omega)|(refine bool_eq ?_;unfold S5;simp_all)|refine cy h rfl (AD rfl underlying76 DD vq vq (by omega) (Ap hc)) ?_|refine ac ?_|(refine Tr.cn rfl ?_ ?_<;>intro h q)|(refine Ch.cg rfl rfl rfl ?_ ?_<;>intro h q)):p:=h
theorem jL{p:Prop}(h:p:=by exact Co ⟨es,iZ,its⟩ (EG ⟨by show 2<=es.length;omega,by show es.length<=3;omega,hk3,by show ∀k,k<iZ.length->DO es.length iZ k=true;rw[hk2,ia];exact AAy,AAz,AA0,hqi,by show its.length<=2;omega⟩ (Az ⟨Lr,Lr,A0 _ _,trivial⟩))):p:=h
theorem jM{p:Prop}(h:p:=by repeat' first|(refine bool_eq ?_;exact(wB (A7 Ad) (by simp_all)).symm)|(exact Fin.AP (k+1) ⟨⟨Ae,(by rw[jN,AW];simp_all)⟩,by omega⟩ ⟨⟨_,rfl,AK k⟩,kz⟩)|refine ac ?_|(refine Tr.cn rfl ?_ ?_<;>intro h q)):p:=h
theorem KA{p:Prop}(h:p:=by rw[hA];exact Az ⟨AH 9,AH 2,AH 5,trivial⟩):p:=h
theorem UL{p:Prop}(h:p:=by simp only[List.length_map,List.length_append,List.length_take,List.length_drop,List.length_cons,List.length_nil];omega):p:=h
theorem UM{p:Prop}(h:p:=by refine bool_eq ?_;unfold JH;rw[EW (p:=DO n l) (k:=k) (by omega) (by unfold DO;rw[hg];simp_all;omega)];rfl):p:=h
theorem Yc{p:Prop}(h:p:=by exact Pr.le_trans (A0 _ _) (Pr.le_of_eq (by unfold C8;first|(simp_all;done)|(rw[if_pos (by simp_all)];show _=slice 1 _;rw[List.map_append];rfl)))):p:=h
theorem CU{p:Prop}(h:p:=by simp_all):p:=h
theorem Q0{p:Prop}(h:p:=by refine int_eq ?_;unfold O3;(repeat (first|rw[if_pos (by omega)]|rw[if_neg (by omega)]))):p:=h
theorem jO{p:Prop}(h:p:=by refine int_eq ?_;unfold YI;repeat (first|(refine Eq.trans ?_ (if_neg ?_).symm;rotate_left;focus (omega))|(refine Eq.trans ?_ (if_neg ?_).symm;rotate_left;focus (simp_all;done))|(refine(if_pos ?_).symm;simp_all;done))):p:=h
theorem AE8{p:Prop}(h:p:=by unfold Il;rw[decide_eq_true_eq];omega):p:=h
theorem UN{p:Prop}(h:p:=by refine bool_eq ?_;(try simp only[S6]at*);rw[Bool.eq_iff_iff,decide_eq_true_eq];unfold F4 KB;simp_all):p:=h
theorem Yd{p:Prop}(h:p:=by refine int_eq ?_;unfold YI;repeat (first|(refine(if_pos ?_).symm;omega)|(refine Eq.trans ?_ (if_neg ?_).symm;rotate_left;focus (simp_all;done)))):p:=h
theorem Q1{p:Prop}(h:p:=by refine int_eq ?_;exact(WR h24 Ad (by unfold Il;rw[decide_eq_true_eq];omega)).symm):p:=h
theorem Q2{p:Prop}(h:p:=by exact KC (WR h24 Ad (by unfold Il;rw[decide_eq_true_eq];omega)) (by decide)):p:=h
theorem Fb{p:Prop}(h:p:=by first|assumption|rfl):p:=h
theorem jP{p:Prop}(h:p:=by exact BU ⟨by unfold Jz KD;rw[if_neg (by simp;omega)];exact Az ⟨Lr,Co [] Lr,Lr,Lr,Lr,Lr,Lr,Lr,Lr,Lr,Lr,Lr,trivial⟩,int_eq (by unfold KD;rw[if_neg (by simp;omega)]),trivial⟩):p:=h
theorem jQ{p:Prop}(h:p:=by refine int_eq (if_neg (fun hv=>?_)).symm;have ok:=Fz.1 hv;have o1:=ok.name;have o2:=ok.kind;have o3:=ok.p1;have o4:=ok.p4;have o5:=ok.l1;have o6:=ok.l8;have o7:=ok.u0;have o8:=ok.u1;(simp_all)):p:=h
theorem jR{p:Prop}(h:p:=by exact BU ⟨by unfold Jz KD;rw[if_neg (by simp;omega)];exact Az ⟨Lr,Co _ Lr,Lr,Lr,Lr,Lr,Lr,Lr,Lr,Lr,Lr,Lr,trivial⟩,int_eq (by unfold KD;rw[if_neg (by simp;omega)]),trivial⟩):p:=h
theorem jS{p:Prop}(h:p:=by rw[(show HY e l s=(CN,46)by unfold HY;rw[if_neg (by simp[hok]),if_neg (by omega),if_pos (Ky AW Ad (by omega))])];exact Az ⟨AH 9,AH 2,AH 5,trivial⟩):p:=h
theorem F5{p:Prop}(h:p:=by exact bool_eq (by simp_all [G2])):p:=h
theorem jT{p:Prop}(h:p:=by refine int_eq ?_;unfold YI;repeat (first|rfl|(refine Eq.trans ?_ (if_neg ?_).symm;rotate_left;focus (omega))|(refine Eq.trans ?_ (if_neg ?_).symm;rotate_left;focus (simp_all;done)))):p:=h
theorem AE9{p:Prop}(h:p:=by simp_all [G2]):p:=h
theorem jU{p:Prop}(h:p:=by refine BU ⟨?_,bool_eq (by symm;rw[decide_eq_false_iff_not];omega),trivial⟩;unfold Dh;rw[if_neg (by omega)];exact Az ⟨Lr,Lr,Lr,AH 1,AH 1,trivial⟩):p:=h
theorem AE_{p:Prop}(h:p:=by unfold C8;first|(simp_all;done)|(rw[if_pos (by simp_all)];show _=slice 1 _;rw[List.map_append];rfl)):p:=h
theorem UO{p:Prop}(h:p:=by exact Az ⟨Lr,Lr,Lr,AH 1,Lr,AH 4,AH 1,AH 1,Lr,trivial⟩):p:=h
theorem Ee{p:Prop}(h:p:=by rw[h10];decide):p:=h
theorem N9{p:Prop}(h:p:=by rw[if_neg hm,if_neg (Ne.symm hm),Array.getD_eq_getD_getElem?]):p:=h
theorem N_{p:Prop}(h:p:=by rw[show(t==s)=false by simpa using ht]at hq;exact he t q hq):p:=h
theorem wC{p:Prop}(h:p:=by rw[hN]):p:=h
theorem IZ{p:Prop}(h:p:=by rw[hsz];exact hn):p:=h
theorem jV{p:Prop}(h:p:=by refine int_eq (if_neg (fun hv=>?_)).symm;have ok:=DR.1 hv;have h_:=List.all_eq_true.1 ok.keys a (List.mem_of_getElem? UP);unfold G3 at h_;simp at h_;omega):p:=h
theorem wD{p:Prop}(h:p:=by rw[hN];rfl):p:=h
theorem jW{p:Prop}(h:p:=by refine int_eq (if_neg (fun hv=>?_)).symm;have ok:=F3.1 hv;(have o1:=ok.e16;have o2:=ok.e40;have o3:=ok.i30;have o4:=ok.it;have o5:=S4 ok;simp_all)):p:=h
theorem AFA{p:Prop}(h:p:=by simp only[List.length_cons];omega):p:=h
theorem jX{p:Prop}(h:p:=by repeat' first|exact FK 1|exact Lr|refine co rfl (KE rfl underlying22 C4 vq vq) ?_|refine ac ?_|(refine Tr.cn rfl ?_ ?_<;>intro h q)):p:=h
theorem Fc{p:Prop}(h:p:=by simpa using h):p:=h
theorem jY{p:Prop}(h:p:=by exact int_eq (by rw[(show HY e l s=(CN,46)by unfold HY;rw[if_neg (by simp[hok]),if_neg (by omega),if_pos (Ky AW Ad (by omega))])])):p:=h
theorem jZ{p:Prop}(h:p:=by refine int_eq (if_neg (fun hv=>?_)).symm;have ok:=F3.1 hv;(have h_:=ok.ed m (by omega);unfold DO at h_;rw[hg,Le]at h_;simp_all;omega)):p:=h
theorem L2{p:Prop}(h:p:=by refine bool_eq ?_;unfold FR;simp_all;omega):p:=h
theorem AFB{p:Prop}(h:p:=by rw[(show HY e l s=(CN,46)by unfold HY;rw[if_neg (by simp[hok]),if_neg (by omega),if_pos (Ky AW Ad (by omega))])]):p:=h
theorem jc{p:Prop}(h:p:=by rw[List.length_append,Cw (sz:=8) (Ar fun _=>rfl),List.length_map,List.length_map,List.length_map,List.length_drop];omega):p:=h
theorem FE{p:Prop}(h:p:=by rw[h9];decide):p:=h
theorem UQ{p:Prop}(h:p:=by exact Az ⟨Lr,Pr.le_of_eq (by subst q1;rfl),Lr,AH 4,trivial⟩):p:=h
theorem jd{p:Prop}(h:p:=by refine int_eq (if_neg (fun hv=>?_)).symm;have ok:=F3.1 hv;(have h_:=ok.ep k (by omega);unfold Q3 at h_;rw[hg,Le]at h_;simp_all)):p:=h
theorem UR{p:Prop}(h:p:=by subst hs;simp at hp;subst hp;rw[hd,B6 (by rw[hsz];exact hn)];rfl):p:=h
theorem Fe{p:Prop}(h:p:=by exact int_eq (by rw[hX])):p:=h
theorem Ff{p:Prop}(h:p:=by rw[h6];decide):p:=h
theorem aK{p:Prop}(h:p:=by rintro _ _ _ ⟨rfl,_⟩;rw[show i=l.length by omega,List.take_length,List.drop_length,List.append_nil,List.map_append];rfl):p:=h
theorem aL{p:Prop}(h:p:=by refine int_eq (if_neg (fun hv=>?_)).symm;have ok:=F3.1 hv;(have h_:=ok.ep k (by omega);unfold Q3 at h_;rw[hg]at h_;simp_all)):p:=h
theorem aM{p:Prop}(h:p:=by rw[BA,List.take_of_length_le (by rw[List.length_map];omega),List.take_of_length_le (by rw[List.length_map];omega)]):p:=h
theorem aN{p:Prop}(h:p:=by refine bool_eq ?_;unfold JH;rw[EW (p:=DO n l) (k:=k) (by omega) (by unfold DO;rw[hg,Le];simp_all;omega)];rfl):p:=h
theorem Gq{p:Prop}(h:p:=by refine bool_eq ?_;simp_all;omega):p:=h
theorem H7{p:Prop}(h:p:=by rw[List.length_drop];omega):p:=h
theorem Ej{p:Prop}(h:p:=by rw[h8];decide):p:=h
theorem US{p:Prop}(h:p:=by exact BD.perm (List.Perm.swap _ _ _) (BD.JI hI (r:=Ao M w) rfl (Ext.refl _ _))):p:=h
theorem UT{p:Prop}(h:p:=by exact BD.perm List.perm_middle.symm (BD.JI hI (r:=Ao M w) rfl (Ext.refl _ _))):p:=h
theorem aO{p:Prop}(h:p:=by refine bool_eq ?_;(try simp only[S6]at*);rw[Bool.eq_iff_iff,decide_eq_true_eq];unfold F4 KB;simp_all;omega):p:=h
theorem aP{p:Prop}(h:p:=by have hN:=Q4 (su:=su) hr hg (by omega);exact BU ⟨Pr.le_of_eq (by rw[hN];rfl),int_eq (by rw[hN]),trivial⟩):p:=h
theorem UU{p:Prop}(h:p:=by rw[show((m:Nat):Int)-1=((m-1:Nat):Int)by omega];exact Ap hy):p:=h
theorem aQ{p:Prop}(h:p:=by refine bool_eq ?_;unfold D6;rw[EW (p:=setAt n l) (k:=k) (by omega) (by unfold setAt;rw[hg];simp_all;omega)]):p:=h
theorem aR{p:Prop}(h:p:=by rw[Ek L 0 E k q r hk (by simpa using h5) hd F6,Ek L 0 E k q r hk (by simpa using hpre k h6) hd F6]):p:=h
theorem JJ{p:Prop}(h:p:=by rw[List.length_take];omega):p:=h
theorem aS{p:Prop}(h:p:=by rw[hX]):p:=h
theorem Pt{p:Prop}(h:p:=by exact Az ⟨Lr,Lr,Lr,Lr,Lr,Lr,Lr,AH 15,trivial⟩):p:=h
theorem Pu{p:Prop}(h:p:=by rw[←hex];exact Az ⟨Lr,Lr,Lr,AH 4,trivial⟩):p:=h
theorem aT{p:Prop}(h:p:=by refine bool_eq ?_;rw[hK,←Dv Ad (by unfold Mq;simp_all) AW];symm;rw[decide_eq_true_eq];omega):p:=h
theorem aU{p:Prop}(h:p:=by exact Az ⟨Cy _ _,Lr,Pr.le_trans (A0 _ _) (Pr.le_of_eq (by rw[List.take_length])),trivial⟩):p:=h
theorem FT{p:Prop}(h:p:=by refine int_eq ?_;simp_all):p:=h
theorem FU{p:Prop}(h:p:=by rw[h5];decide):p:=h
theorem FV{p:Prop}(h:p:=by rw[h7];decide):p:=h
theorem aV{p:Prop}(h:p:=by rw[show rdB n l=0#32 from if_neg (by rw[Ky (n:=(n:Int)) AW Ad (by omega)];decide)];exact WS):p:=h
theorem aW{p:Prop}(h:p:=by simp only[List.length_map,List.length_take,List.length_cons,List.length_nil];unfold maxLen;omega):p:=h
theorem Pv{p:Prop}(h:p:=by simp only[List.length_map];unfold maxLen;omega):p:=h
theorem F7{p:Prop}(h:p:=by refine bool_eq ?_;simp_all):p:=h
theorem HJ{p:Prop}(h:p:=by unfold maxLen;omega):p:=h
theorem El{p:Prop}(h:p:=by have:=UW hc;omega):p:=h
theorem UX{p:Prop}(h:p:=by show d∈((l.toArray[j]?).bind (·.dst)).toList;rw[hj];simp):p:=h
theorem ADo{p:Prop}(h:p:=by rw[hN]<;>rfl):p:=h
theorem aX{p:Prop}(h:p:=by rw[show(s==d)=false by simpa using hs]at hq;rw[hd,Ba hs];exact q.st _ _ _ _ _ h3 (he s q hq)):p:=h
theorem aY{p:Prop}(h:p:=by rw[←List.append_assoc,←List.flatten_append,←List.map_append,List.take_append_drop]):p:=h
theorem HK{p:Prop}(h:p:=by rw[Ms];exact hn):p:=h
theorem F8{p:Prop}(h:p:=by exact int_eq (by rw[hA])):p:=h
theorem F9{p:Prop}(h:p:=by simpa using hj):p:=h
theorem F_{p:Prop}(h:p:=by simpa using hx):p:=h
theorem aZ{p:Prop}(h:p:=by exact Az ⟨Eh _ _,GX (m:=1) (by omega) (pV _),Co _ Lr,AH 4,trivial⟩):p:=h
theorem aa{p:Prop}(h:p:=by simp only[List.length_append,List.length_take,List.length_drop,List.length_map,aI];omega):p:=h
theorem af{p:Prop}(h:p:=by rw[UY (e:=e) (c:=c) (by omega)];exact Az ⟨AH 9,AH 2,AH 5,trivial⟩):p:=h
theorem ah{p:Prop}(h:p:=by exact Az ⟨Lr,Pr.le_of_eq (by unfold Ye O4;rw[List.map_map];rfl),Lr,AH 4,trivial⟩):p:=h
theorem Kz{p:Prop}(h:p:=by exact Pr.le_of_eq (by simp_all [G2])):p:=h
theorem ADp{p:Prop}(h:p:=by simp_all [Ia]):p:=h
theorem aj{p:Prop}(h:p:=by rw[hb];exact Az ⟨Lr,Lr,Lr,AH 1,Lr,AH 4,AH 1,AH 1,Lr,trivial⟩):p:=h
theorem ak{p:Prop}(h:p:=by subst hcs;simp only[beq_self_eq_true,Option.some.injEq]at hz;subst hz;exact⟨rfl,g3 c p hs⟩):p:=h
theorem UZ{p:Prop}(h:p:=by refine bool_eq ?_;rw[List.take_length]at AW;exact AW.symm):p:=h
theorem aq{p:Prop}(h:p:=by subst ht;simp only[beq_self_eq_true,Option.some.injEq]at hq;subst hq;exact⟨rfl,h3 t p hs⟩):p:=h
theorem Mt{p:Prop}(h:p:=by refine int_eq ?_;unfold B5;simp_all;omega):p:=h
theorem Ua{p:Prop}(h:p:=by unfold Em;rw[hg];rw[decide_eq_true hin];simp_all):p:=h
theorem Pw{p:Prop}(h:p:=by rw[List.length_map];unfold maxLen;omega):p:=h
theorem au{p:Prop}(h:p:=by simp only[List.length_map,List.length_take,List.length_cons,List.length_nil];omega):p:=h
theorem av{p:Prop}(h:p:=by unfold DO;rw[hg,Le];simp_all;omega):p:=h
theorem Mu{p:Prop}(h:p:=by exact congrArg List.length hout):p:=h
theorem az{p:Prop}(h:p:=by exact BU ⟨Pr.le_of_eq (by rw[hN]<;>rfl),int_eq (by rw[hN];have:=je;omega),trivial⟩):p:=h
theorem a_{p:Prop}(h:p:=by rw[GZ (x:=WU s) (by rw[List.getElem?_map,Ad];rfl),List.map_append];rfl):p:=h
theorem ADq{p:Prop}(h:p:=by unfold KD;rw[if_neg (by simp;omega)]):p:=h
theorem Ub{p:Prop}(h:p:=by refine bool_eq ?_;rw[DK];unfold IQ G3;simp_all;omega):p:=h
theorem Px{p:Prop}(h:p:=by rintro _ _ _ rfl;exact⟨_,_,by congr 1;omega⟩):p:=h
theorem K0{p:Prop}(h:p:=by rw[List.map_append];rfl):p:=h
theorem JK{p:Prop}(h:p:=by refine bool_eq ?_;exact hw.symm):p:=h
theorem JL{p:Prop}(h:p:=by rintro _ _ _ rfl;rfl):p:=h
theorem JM{p:Prop}(h:p:=by rw[List.length_map]):p:=h
theorem Mv{p:Prop}(h:p:=by rw[List.getElem?_map,hx];rfl):p:=h
theorem bA{p:Prop}(h:p:=by rw[List.length_append,hq];simp only[List.length_cons,List.length_nil];omega):p:=h
theorem Gr{p:Prop}(h:p:=by rw[h];decide):p:=h
theorem bB{p:Prop}(h:p:=by exact BU ⟨Lr,int_eq (by unfold KD;rw[if_pos (decide_eq_true hin)]),trivial⟩):p:=h
theorem ADr{p:Prop}(h:p:=by unfold DO;rw[hg];simp_all;omega):p:=h
theorem Mw{p:Prop}(h:p:=by rw[List.map_append];exact h):p:=h
theorem Py{p:Prop}(h:p:=by refine int_eq ?_;exact Uc (by omega)):p:=h
theorem H8{p:Prop}(h:p:=by unfold Sb;omega):p:=h
theorem bC{p:Prop}(h:p:=by have h_:=(Im (l:=l) (show m<=32 by omega)).2 i x Sc i;simp_all):p:=h
theorem K1{p:Prop}(h:p:=by intro _ _ _ h;rw[h.1]):p:=h
theorem bD{p:Prop}(h:p:=by refine bool_eq ?_;unfold named;rw[Bool.and_eq_false_iff.2 (.inr (by simp;omega))]):p:=h
theorem bE{p:Prop}(h:p:=by refine bool_eq ?_;unfold KF;rw[Bool.and_eq_false_iff.2 (.inr (by simp;omega))]):p:=h
theorem bF{p:Prop}(h:p:=by rw[show 7-(k+1)=6-k by omega];exact(jf hdg (by omega)).symm):p:=h
theorem Pz{p:Prop}(h:p:=by rw[List.length_append,aI];omega):p:=h
theorem P0{p:Prop}(h:p:=by simp only[List.length_map];omega):p:=h
theorem JN{p:Prop}(h:p:=by simp[hok]):p:=h
theorem Mx{p:Prop}(h:p:=by exact h6 c (List.mem_of_mem_take hc)):p:=h
theorem bG{p:Prop}(h:p:=by refine int_eq ?_;rw[hK];exact Dv Ad (by unfold Mq;simp_all) AW):p:=h
theorem bH{p:Prop}(h:p:=by exact hw.ntrans _ _ _ (up' j hjk (by omega)) (hw.asym (lo' i (by omega) hik))):p:=h
theorem bI{p:Prop}(h:p:=by exact BU ⟨Da rfl,int_eq (by rw[if_neg];simp_all;omega),trivial⟩):p:=h
theorem bJ{p:Prop}(h:p:=by subst hs;simp at hq;subst hq;rw[hd,B6 (by rw[hsz];exact hn)];exact h2):p:=h
theorem H9{p:Prop}(h:p:=by have:=q3;omega):p:=h
theorem H_{p:Prop}(h:p:=by simpa using h1):p:=h
theorem My{p:Prop}(h:p:=by exact Nat.zero_lt_succ _):p:=h
theorem Ud{p:Prop}(h:p:=by rw[Nat.zero_add,Io];split;rfl;exact hlk):p:=h
theorem K2{p:Prop}(h:p:=by exact int_eq (HZ AW)):p:=h
theorem bK{p:Prop}(h:p:=by refine bool_eq ?_;exact(Ky (n:=(n:Int)) AW Ad (by omega)).symm):p:=h
theorem Mz{p:Prop}(h:p:=by exact bool_eq (by simp_all [Ia])):p:=h
theorem bL{p:Prop}(h:p:=by rw[List.take_add_one,Ad,List.any_append,AW];simp;omega):p:=h
theorem bM{p:Prop}(h:p:=by exact BU ⟨Da rfl,int_eq (by rw[if_neg];simp_all),trivial⟩):p:=h
theorem M4{p:Prop}(h:p:=by exact int_eq (by simp_all [Ia])):p:=h
theorem P3{p:Prop}(h:p:=by refine bool_eq ?_;unfold Eu;simp_all):p:=h
theorem bN{p:Prop}(h:p:=by exact h j p (by rw[List.getElem?_append_left hj]at hp ⊢;exact hp)):p:=h
theorem bO{p:Prop}(h:p:=by rw[List.length_map,List.length_eraseIdx,if_pos hi];omega):p:=h
theorem P4{p:Prop}(h:p:=by unfold maxLen at GA;omega):p:=h
theorem JO{p:Prop}(h:p:=by rw[h2];decide):p:=h
theorem JP{p:Prop}(h:p:=by simpa using hb):p:=h
theorem Ue{p:Prop}(h:p:=by exact GX (m:=0) (by omega) (AH 1)):p:=h
theorem Uf{p:Prop}(h:p:=by exact q.st _ _ _ _ _ (Ext.below hb) (he s q hq)):p:=h
theorem P5{p:Prop}(h:p:=by refine int_eq ?_;unfold B5;simp_all):p:=h
theorem ADs{p:Prop}(h:p:=by rw[Ky (n:=(n:Int)) AW Ad (by omega)];decide):p:=h
theorem M6{p:Prop}(h:p:=by exact EG hdf (bool_eq hbf)):p:=h
theorem pW{p:Prop}(h:p:=by unfold Mq;simp_all):p:=h
theorem Ug{p:Prop}(h:p:=by intro h;exact h0 (by simpa using h)):p:=h
theorem bP{p:Prop}(h:p:=by intro r hr;obtain⟨s,_,rfl⟩:=List.mem_map.1 hr;rfl):p:=h
theorem K3{p:Prop}(h:p:=by simp[Slot.list]):p:=h
theorem K4{p:Prop}(h:p:=by simp_all<;>omega):p:=h
theorem ADt{p:Prop}(h:p:=by rw[List.getElem?_append_left hj]at hp ⊢;exact hp):p:=h
theorem ADu{p:Prop}(h:p:=by rw[hA]):p:=h
theorem P6{p:Prop}(h:p:=by refine bool_eq ?_;rw[hw];simp_all):p:=h
theorem K5{p:Prop}(h:p:=by have:=q2;omega):p:=h
theorem K6{p:Prop}(h:p:=by rw[h4];decide):p:=h
theorem K7{p:Prop}(h:p:=by simpa using hz):p:=h
theorem Uh{p:Prop}(h:p:=by unfold DO;rw[hg];simp_all):p:=h
theorem JQ{p:Prop}(h:p:=by rw[hk];rfl):p:=h
theorem IA{p:Prop}(h:p:=by exact int_eq hC.symm):p:=h
theorem bQ{p:Prop}(h:p:=by rw[List.take_length]):p:=h
theorem ADv{p:Prop}(h:p:=by unfold KD;rw[if_pos (decide_eq_true hin)]):p:=h
theorem P7{p:Prop}(h:p:=by refine bool_eq ?_;exfalso;omega):p:=h
theorem HM{p:Prop}(h:p:=by exact A0 _ _):p:=h
theorem K8{p:Prop}(h:p:=by have:=h.bd _ _ hx;omega):p:=h
theorem Ui{p:Prop}(h:p:=by rw[Nat.zero_add,Io];simp):p:=h
theorem Uj{p:Prop}(h:p:=by exact Co _ (EG (by omega) Lr)):p:=h
theorem M7{p:Prop}(h:p:=by have:=q1;omega):p:=h
theorem M8{p:Prop}(h:p:=by simpa using h2):p:=h
theorem Gs{p:Prop}(h:p:=by rw[hX];exact Lr):p:=h
theorem Uk{p:Prop}(h:p:=by intro a n c hv;cases hv):p:=h
theorem Ul{p:Prop}(h:p:=by rw[hn];exact hdn s hds):p:=h
theorem Um{p:Prop}(h:p:=by rw[ec];simp_all):p:=h
theorem P8{p:Prop}(h:p:=by exact bool_eq (M9 p l)):p:=h
theorem P9{p:Prop}(h:p:=by simp[okc];omega):p:=h
theorem HN{p:Prop}(h:p:=by exact Co _ Lr):p:=h
theorem P_{p:Prop}(h:p:=by rw[h3];decide):p:=h
theorem QA{p:Prop}(h:p:=by rw[h_];decide):p:=h
theorem JR{p:Prop}(h:p:=by rw[e]):p:=h
theorem DL{p:Prop}(h:p:=by exact hm hx):p:=h
namespace Cp
open Go Go.RowKit
abbrev Av:=Nat->Nat->Prop
def Obj.plain:Obj->Bool
 | .cells ..=>false
 |_=>true
structure Ext(M:Av)(w:World)(M':Av)(w':World):Prop where
 size:w.heap.size<=w'.heap.size
 keep:∀(a:Addr) v,w.cell? a=some v->¬M a.block a.off->¬M' a.block a.off/\w'.cell? a=some v
 obj:∀b o,w.heap[b]? =some o->Obj.plain o=true->¬M b 0->¬M' b 0/\w'.heap[b]? =some o
theorem Ext.refl(M:Av)(w:World):Ext M w M w:=⟨Nat.le_refl _,fun _ _ h hm=>⟨hm,h⟩,fun _ _ h _ hm=>⟨hm,h⟩⟩
theorem Ext.trans{M M1 M2:Av}{w w1 w2:World}(h:Ext M w M1 w1)(k:Ext M1 w1 M2 w2):Ext M w M2 w2:=
 ⟨Nat.le_trans h.size k.size,fun a v hc hm=>by
  obtain⟨h1,h2⟩:=h.keep a v hc hm;exact k.keep a v h2 h1,fun b o ho hp hm=>by
  obtain⟨h1,h2⟩:=h.obj b o ho hp hm
  exact k.obj b o h2 hp h1⟩
theorem UW{w:World}{a:Addr}{v:Value}(h:w.cell? a=some v):a.block<w.heap.size:=by
 unfold World.cell? at h;rcases Nat.lt_or_ge a.block w.heap.size with h1|h1
 .exact h1
 .rw[Array.getElem?_eq_none h1]at h;cases h
theorem Ext.below{M:Av}{w w':World}(h:Below w.heap.size w w'):Ext M w M w':=
 ⟨h.size, fun a v hc hm => ⟨hm, by rw[World.cell?_of_block (w := w) (h.block a.block (UW hc))]; exact hc⟩, fun b o ho _ hm => ⟨hm, by
  rw[h.block b (by rcases Nat.lt_or_ge b w.heap.size with h1|h1;exact h1;rw[Array.getElem?_eq_none h1]at ho;cases ho)];exact ho⟩⟩
theorem Ext.less{M M':Av}{w:World}(h:∀b o,M' b o->M b o):Ext M w M' w:=⟨Nat.le_refl _,fun _ _ hc hm=>⟨fun h'=>hm (h _ _ h'),hc⟩,fun _ _ ho _ hm=>⟨fun h'=>hm (h _ _ h'),ho⟩⟩
theorem O5{a b c:World}(h:Below a.heap.size a b)(k:Below b.heap.size b c):Below a.heap.size a c:=
 h.trans (k.mono h.size)
theorem Ga(a:Addr)(n:Nat):(a.add n).block=a.block:=by unfold Addr.add;split<;>rfl
theorem K9(a:Addr)(n:Nat):(a.add n).off=a.off+n:=by
 unfold Addr.add;split
 .rename_i h;rw[h];rfl
 .rfl
theorem add_add(a:Addr)(i j:Nat):(a.add i).add j=a.add (i+j):=by
 unfold Addr.add
 by_cases hi:i=0<;>by_cases hj:j=0<;>simp[hi,hj,Nat.add_assoc]
structure Pr where
 h:Av->World->Value->Prop
 st:∀M w M' w' v,Ext M w M' w'->h M w v->h M' w' v
namespace Pr
def le(q p:Pr):Prop:=∀M w v,q.h M w v->p.h M w v
theorem le_refl(p:Pr):le p p:=fun _ _ _ h=>h
theorem le_trans{p q r:Pr}(h:le p q)(k:le q r):le p r:=fun M w v x=>k M w v (h M w v x)
theorem le_of_eq{p q:Pr}(h:p=q):le p q:=h ▸ le_refl p
end Pr
def is(u:Value):Pr:=⟨fun _ _ v=>v=u,fun _ _ _ _ _ _ h=>h⟩
def any:Pr:=⟨fun _ _ _=>True,fun _ _ _ _ _ _ h=>h⟩
abbrev int(n:Int):Pr:=is (.int .i64 n)
abbrev bool(b:Bool):Pr:=is (.bool b)
theorem FF(p:Pr):Pr.le p any:=fun _ _ _ _=>trivial
theorem int_eq{a b:Int}(h:a=b):Pr.le (int a) (int b):=Pr.le_of_eq (by rw[h])
theorem bool_eq{a b:Bool}(h:a=b):Pr.le (bool a) (bool b):=Pr.le_of_eq (by rw[h])
def HL(M:Av)(w:World):List Pr->List Value->Prop
 |[],[]=>True
 |p::ps,v::vs=>p.h M w v/\HL M w ps vs
 |_,_=>False
theorem HL.st{M M':Av}{w w':World}(he:Ext M w M' w'):∀{ps:List Pr} {vs:List Value},HL M w ps vs->HL M' w' ps vs
 |[],[],_=>trivial
 |[],_::_,h=>h.elim
 |_::_,[],h=>h.elim
 |p::_,_::_,h=>⟨p.st _ _ _ _ _ he h.1,HL.st he h.2⟩
theorem HL.length{M:Av}{w:World}:∀{ps:List Pr} {vs:List Value},HL M w ps vs->vs.length=ps.length
 |[],[],_=>rfl
 |[],_::_,h=>h.elim
 |_::_,[],h=>h.elim
 |_::_,_::_,h=>by simp[HL.length h.2]
theorem HL.at_{M:Av}{w:World}:∀{ps:List Pr} {vs:List Value},HL M w ps vs->∀(i:Nat) (p:Pr),ps[i]? =some p->∃v,vs[i]? =some v/\p.h M w v
 |[],[],_,_,_,hp=>by simp at hp
 |[],_::_,h,_,_,_=>h.elim
 |_::_,[],h,_,_,_=>h.elim
 |_::_,_::_,h,0,p,hp=>by simp at hp;subst hp;exact⟨_,rfl,h.1⟩
 |_::_,_::_,h,i+1,p,hp=>by simpa using HL.at_ h.2 i p (by simpa using hp)
theorem HL.app{M:Av}{w:World}:∀{ps qs:List Pr} {vs us:List Value},HL M w ps vs->HL M w qs us->HL M w (ps++qs) (vs++us)
 |[],_,[],_,_,k=>k
 |[],_,_::_,_,h,_=>h.elim
 |_::_,_,[],_,h,_=>h.elim
 |_::_,_,_::_,_,h,k=>⟨h.1,HL.app h.2 k⟩
theorem HL.uz{M:Av}{w:World}:∀{ps:List Pr} {vs:List Value},vs.length=ps.length->(∀(i:Nat) (p:Pr) (v:Value),ps[i]? =some p->vs[i]? =some v->p.h M w v)->HL M w ps vs
 |[],[],_,_=>trivial
 |[],_::_,h,_=>by simp at h
 |_::_,[],h,_=>by simp at h
 |_::_,_::_,h,k=>⟨k 0 _ _ rfl rfl,HL.uz Fc fun i p v hp hv=>k (i+1) p v (by simpa using hp) (by simpa using hv)⟩
def Row(M:Av)(w:World)(ad:Addr)(n:Nat)(ps:List Pr):Prop:=∀j p,ps[j]? =some p->∃u,w.cell? (ad.add (n+j))=some u/\¬M ad.block (ad.off+(n+j))/\u.oneCell'=true/\p.h M w u
theorem Row.st{M M':Av}{w w':World}(he:Ext M w M' w'){ad:Addr}{n:Nat}{ps:List Pr}(h:Row M w ad n ps):Row M' w' ad n ps:=
 fun j p hp=>by
  obtain⟨u,hc,hm,h1c,hu⟩:=h j p hp;obtain⟨h1,h2⟩:=he.keep _ _ hc (by rw[Ga,K9];exact hm);rw[Ga,K9]at h1;exact⟨u,h2,h1,h1c,p.st _ _ _ _ _ he hu⟩
def slice(sz:Nat)(rows:List (List Pr)):Pr where
 h M w v:=∃(a:Option Addr) (cap:Nat),v= .slice a rows.length cap/\rows.length<=cap/\cap<=maxLen/\(a=none->cap=0)/\
  ∀i row,rows[i]? =some row->row.length=sz/\∃ad,a=some ad/\Row M w ad (i*sz) row
 st M w M' w' v he h:=by
  obtain⟨a,cap,h1,h2,h3,h4,h5⟩:=h;refine⟨a,cap,h1,h2,h3,h4,fun i row hr=>?_⟩;obtain⟨hl,ad,h6,h9⟩:=h5 i row hr;exact⟨hl,ad,h6,h9.st he⟩
def full(sz:Nat)(rows:List (List Pr)):Pr where
 h M w v:=(slice sz rows).h M w v/\∃a,v= .slice a rows.length rows.length
 st _M _w _M' _w' _v he h:=⟨(slice sz rows).st _ _ _ _ _ he h.1,h.2⟩
theorem A_(sz:Nat)(rows:List (List Pr)):Pr.le (full sz rows) (slice sz rows):=fun _ _ _ h=>h.1
def ref(ps:List Pr):Pr where
 h M w v:=∃ad,v= .pointer (some ad)/\Row M w ad 0 ps
 st M w M' w' v he h:=by
  obtain⟨ad,h1,h4⟩:=h;exact⟨ad,h1,h4.st he⟩
def agg(ps:List Pr):Pr where
 h M w v:=∃cs:List Value,v= .agg cs.toArray/\(∀c∈cs,c.oneCell'=true)/\HL M w ps cs
 st M w M' w' v he h:=by
  obtain⟨cs,h1,h0,h2⟩:=h;exact⟨cs,h1,h0,h2.st he⟩
def EB(ps:List Pr):Pr where
 h M w v:=∃cs:List Value,v= .tuple cs.toArray/\HL M w ps cs
 st M w M' w' v he h:=by
  obtain⟨cs,h1,h2⟩:=h;exact⟨cs,h1,h2.st he⟩
def fn(f:Fn)(caps:List Pr):Pr where
 h M w v:=∃cs:List Value,v= .func f #[] cs.toArray/\HL M w caps cs
 st M w M' w' v he h:=by
  obtain⟨cs,h1,h2⟩:=h;exact⟨cs,h1,h2.st he⟩
def ex{α:Type}(p:α->Pr):Pr where
 h M w v:=∃x,(p x).h M w v
 st _M _w _M' _w' _v he h:=let ⟨x,hx⟩:=h;⟨x,(p x).st _ _ _ _ _ he hx⟩
def fact(φ:Prop)(p:Pr):Pr where
 h M w v:=φ/\p.h M w v
 st _M _w _M' _w' _v he h:=⟨h.1,p.st _ _ _ _ _ he h.2⟩
def Bd(M:Av)(w:World):Prop:=∀b o,M b o->b<w.heap.size
def Entry (P : Program) (f : FuncId) : Prop := ∃ g : Func, P.funcs[f]? = some g ∧ (g.name == "runtime.NumGoroutine") = false ∧ g.body.isNone = false
def Aq(P:Program)(f:FuncId)(args:List Pr)(res:Pr):Prop:=Entry P f/\∀M w vs,Bd M w->HL M w args vs->
 Calls P f vs.toArray w fun e w'=>∃v,e= .returned v/\res.h M w' v/\Below w.heap.size w w'
theorem Aq.le{P:Program}{f:FuncId}{args args':List Pr}{res res':Pr}(h:Aq P f args res)(ha:∀M w vs,HL M w args' vs->HL M w args vs)(hr:Pr.le res res'):Aq P f args' res':=
 ⟨h.1,fun M w vs hb hv=>(h.2 M w vs hb (ha M w vs hv)).mono fun _e _w' ⟨v,h1,h2,h3⟩=>⟨v,h1,hr _ _ _ h2,h3⟩⟩
def S7{α:Type}(P:Program)(dom:α->List Pr)(res:α->Pr):Pr where
 h M w v:=∃f fs caps,v= .func (.func f) fs caps/\Entry P f/\∀M' w',Ext M w M' w'->Bd M' w'->∀x vs,HL M' w' (dom x) vs->
  Calls P f (fs++vs.toArray++caps) w' fun e w''=>∃u,e= .returned u/\(res x).h M' w'' u/\Below w'.heap.size w' w''
 st M w M' w' v he h:=by
  obtain⟨f,fs,caps,h1,h2,h3⟩:=h;exact⟨f,fs,caps,h1,h2,fun M2 w2 he2=>h3 M2 w2 (he.trans he2)⟩
theorem DM{α:Type}{P:Program}{f:FuncId}{caps:List Pr}{dom:α->List Pr}{res:α->Pr}(he:Entry P f)(h:∀x,Aq P f (dom x++caps) (res x)):Pr.le (fn (.func f) caps) (S7 P dom res):=by
 rintro M w v ⟨cs,rfl,hc⟩;refine⟨f,#[],cs.toArray,rfl,he,fun M' w' hx hb x vs hv=>?_⟩;have:=(h x).2 M' w' (vs++cs) hb (hv.app (hc.st hx))
 simpa using this
def fnB(f:FuncId)(p:Pr):Pr where
 h M w v:=∃u:Value,v= .func (.func f) #[u] #[]/\p.h M w u
 st M w M' w' v he h:=by
  obtain⟨u,h1,h2⟩:=h;exact⟨u,h1,p.st _ _ _ _ _ he h2⟩
theorem L3{α:Type}{P:Program}{f:FuncId}{p:Pr}{dom:α->List Pr}{res:α->Pr}(he:Entry P f)(h:∀x,Aq P f (p::dom x) (res x)):Pr.le (fnB f p) (S7 P dom res):=by
 rintro M w v ⟨u,rfl,hu⟩;refine⟨f,#[u],#[],rfl,he,fun M' w' hx hb x vs hv=>?_⟩;have:=(h x).2 M' w' (u::vs) hb ⟨p.st _ _ _ _ _ hx hu,hv⟩
 simpa using this
abbrev Env:=List (Nat×Pr)
structure Cj where
 h:Av->World->Prop
 st:∀M w w',Below w.heap.size w w'->h M w->h M w'
 bd:∀M w,h M w->Bd M w
variable{I:Cj}{E:Env}
def Fo(M:Av)(w:World)(E:Env)(a:Act):Prop:=∀s p,E.lookup s=some p->p.h M w (a.tmps.getD s undef)
structure Fm where
 sz:Nat
 df:List Deferred
instance:Coe Nat Fm:=⟨fun n=>⟨n,[]⟩⟩
instance:CoeOut Fm Nat:=⟨Fm.sz⟩
def St(n:Fm)(E:Env)(I:Cj)(a:Act)(w:World):Prop:=∃M,a.tmps.size=n.sz/\a.defers=n.df/\Fo M w E a/\I.h M w
def wpS(P:Program)(ops:Array Oper)(Q:Exit->Act->World->Prop):List Nat->Act->World->Prop
 |[],a,w=>Q .normal a w
 |i::rest,a,w=>match ops[i]? with
  |none=>wpS P ops Q rest a w
  |some o=>if Region.wanted o (yielded ops a.tmps)then o.wp P a w (wpS P ops Q rest) Q else wpS P ops Q rest (a.put o.dst undef) w
def calm(l:List Oper):Bool:=l.all fun o=>match o.op with
 | .defer _=>false
 |_=>true
def O6(P:Program)(ops:Array Oper)(Q:Exit->Act->World->Prop)(i:Nat)(K:Act->World->Prop)(a:Act)(w:World):Prop:=
 match ops[i]? with
 |none=>K a w
 |some o=>if Region.wanted o (yielded ops a.tmps)then o.wp P a w K Q else K (a.put o.dst undef) w
def JS(P:Program)(md:Region.Mode)(ops:Array Oper)(Q:Exit->Act->World->Prop):Nat->Array Bool->Act->World->Prop
 |0,listed,a,w=>Region.ready md ops listed=[]/\Q .normal a w
 |fuel+1,listed,a,w=>
  (Region.ready md ops listed=[]->Q .normal a w)/\
  ∀i∈Region.ready md ops listed,O6 P ops Q i (JS P md ops Q fuel (listed.setIfInBounds i true)) a w
structure Lg(P:Program) where
 wp:Code->(Exit->Act->World->Prop)->Act->World->Prop
 mono:∀{c:Code} {Q Q':Exit->Act->World->Prop} {a:Act} {w:World},(∀e a w,Q e a w->Q' e a w)->wp c Q a w->wp c Q' a w
 skip:∀{Q:Exit->Act->World->Prop} {a:Act} {w:World},Q .normal a w->wp .skip Q a w
 ret:∀{Q:Exit->Act->World->Prop} {a:Act} {w:World},Q .ret a w->wp .ret Q a w
 exit:∀{Q:Exit->Act->World->Prop} {a:Act} {w:World} {id:Nat},Q (.exit id) a w->wp (.exit id) Q a w
 seq:∀{x y:Code} {Q:Exit->Act->World->Prop} {a:Act} {w:World},wp x (Exit.then (wp y Q) Q) a w->wp (.seq x y) Q a w
 block:∀{id:Nat} {c:Code} {Q:Exit->Act->World->Prop} {a:Act} {w:World},wp c (Exit.inBlock id Q) a w->wp (.block id c) Q a w
 cond:∀{c:Operand} {x y:Code} {Q:Exit->Act->World->Prop} {a:Act} {w:World} {t:Bool},a.eval c= .bool t->(t=true->wp x Q a w)->(t=false->wp y Q a w)->wp (.cond c x y) Q a w
 loop:∀{c:Code} {Q:Exit->Act->World->Prop} {α:Type} (μ:α->Nat) (R:α->Act->World->Prop),(∀x a w,R x a w->wp c (Exit.then (fun a' w'=>∃y,μ y<μ x/\R y a' w') Q) a w)->∀x a w,R x a w->wp (.loop c) Q a w
 region:∀{id:Nat} {l:List Oper} {Q:Exit->Act->World->Prop} {a:Act} {w:World},calm l=true->wpS P l.toArray Q (List.range' 0 l.length) a w->wp (.region id l.toArray false) Q a w
 draw:∀{id:Nat} {l:List Oper} {Q:Exit->Act->World->Prop} {a:Act} {w:World},calm l=true->P.follows .mixedOrders=true->JS P .any l.toArray Q l.toArray.size (Array.replicate l.toArray.size false) a { w with drawn:=w.drawn+1 }->wp (.region id l.toArray true) Q a w
theorem ej{P:Program}{ops:Array Oper}{Q:Exit->Act->World->Prop}{i:Nat}{K K':Act->World->Prop}{a:Act}{w:World}(hK:∀a w,K a w->K' a w)(h:O6 P ops Q i K a w):wpOp P ops Q i K' a w:=by
 unfold O6 at h;unfold wpOp;cases ho:ops[i]? with
 |none=>rw[ho]at h;exact hK _ _ h
 |some o=>
  rw[ho]at h
  dsimp only at h ⊢
  split
  next hw=>rw[if_pos hw]at h;exact .inl (Oper.wp_mono hK h)
  next hw=>rw[if_neg hw]at h;exact hK _ _ h
theorem Q5{P:Program}{md:Region.Mode}{ops:Array Oper}{Q:Exit->Act->World->Prop}:∀(fuel:Nat) (listed:Array Bool) (a:Act) (w:World),JS P md ops Q fuel listed a w->wpAny P md ops Q fuel listed a w
 |0,_,_,_,h=>h
 |fuel+1,_,_,_,h=>⟨h.1,fun i hi=>ej (Q5 fuel _) (h.2 i hi)⟩
theorem Q6{P:Program}{ops:Array Oper}{Q:Exit->Act->World->Prop}:∀(l:List Nat) (a:Act) (w:World),wpS P ops Q l a w->wpOps P ops Q l a w
 |[],_,_,h=>h
 |i::l,a,w,h=>by
  have ih:=Q6 (P:=P) (ops:=ops) (Q:=Q) l;unfold wpS at h;unfold wpOps;cases ho:ops[i]? with
  |none=>rw[ho]at h;exact ih a w h
  |some o=>
   rw[ho]at h
   dsimp only at h ⊢
   split
   next hw=>rw[if_pos hw]at h;exact .inl (Oper.wp_mono ih h)
   next hw=>rw[if_neg hw]at h;exact ih _ _ h
theorem jg{P:Program}{c:Code}{Q:Exit->Act->World->Prop}{α:Type}(μ:α->Nat)(R:α->Act->World->Prop)(round:∀x a w,R x a w->c.wp P (Exit.then (fun a' w'=>∃y,μ y<μ x/\R y a' w') Q) a w)(x:α)(a:Act)(w:World)(hx:R x a w):(Code.loop c).wp P Q a w:=by
 intro b k cs
 have key:∀m x a w,μ x=m->R x a w->∃e a' w',Q e a' w'/\Arrives P (lone (b.at a (.code c:: .inLoop c::k)) cs w) b k cs e a' w':=by
  intro m
  induction m using Nat.strongRecOn with
  |_ m ih=>
   intro x a w hm hx;obtain⟨e,a₁,w₁,hq,Ip⟩:=round x a w hx b (.inLoop c::k) cs;cases e with
   |normal=>
    obtain⟨y,hlt,hy⟩:=hq;obtain⟨e₂,a₂,w₂,jh,Un⟩:=ih (μ y) (hm ▸ hlt) y a₁ w₁ rfl hy;exact⟨e₂,a₂,w₂,jh,.of_steps (Steps.trans Ip (.one step_inLoop)) Un⟩
   |exit id=>exact⟨_,a₁,w₁,hq,.pass (x:= .inLoop c) rfl (fun _ _=> .inl Ai) Ip⟩
   |goto l=>exact⟨_,a₁,w₁,hq,.pass (x:= .inLoop c) rfl (fun _ _=> .inl Ai) Ip⟩
   |ret=>exact⟨_,a₁,w₁,hq,.pass (x:= .inLoop c) rfl (fun _ _=> .inl Ai) Ip⟩
   |panic ch=>exact⟨_,a₁,w₁,hq,.pass (x:= .inLoop c) rfl (fun _ _=> .inl Ai) Ip⟩
   |outgrown=>exact⟨_,a₁,w₁,hq,.pass (x:= .inLoop c) rfl (fun _ _=> .inl Ai) Ip⟩
 obtain⟨e,a',w',hq,Ip⟩:=key _ x a w rfl hx;exact⟨e,a',w',hq,.of_steps (.one step_loop) Ip⟩
@[reducible] def YJ(P:Program):Lg P where
 wp c Q a w:=c.wp P Q a w
 mono hq h:=wp_mono h hq
 skip h:=wp_skip h
 ret h:=wp_ret h
 exit h:=wp_exit h
 seq h:=wp_seq h
 block h:=wp_block h
 cond hc ht hf:=wp_cond_split hc ht hf
 loop:=jg
 region _ h:=wp_region (by have:=Q6 _ _ _ h;simpa[List.range_eq_range']using this)
 draw _ hm h:=wp_region_any hm (Q5 _ _ _ _ h)
def Tr{P:Program}(L:Lg P)(n:Fm)(E:Env)(I:Cj)(c:Code)(Q:Exit->Act->World->Prop):Prop:=∀a w,St n E I a w->L.wp c Q a w
def DT(E:Env):Operand->Option Pr
 | .tmp s=>E.lookup s
 | .const v=>some (is v)
 | .func f=>some (fn (.func f) [])
 | .global g=>some (is (.pointer (some ⟨g,0,none⟩)))
theorem DT.eval{M:Av}{w:World}{a:Act}(h:Fo M w E a){x:Operand}{p:Pr}(hx:DT E x=some p):p.h M w (a.eval x):=by
 cases x with
 |tmp s=>exact h s p hx
 |const v=>simp only[DT,Option.some.injEq]at hx;subst hx;rfl
 |global g=>simp only[DT,Option.some.injEq]at hx;subst hx;rfl
 |func f=>simp only[DT,Option.some.injEq]at hx;subst hx;exact⟨[],rfl,trivial⟩
def Fx(E:Env):List Operand->List Pr->Prop
 |[],[]=>True
 |x::xs,p::ps=>(∃q,DT E x=some q/\Pr.le q p)/\Fx E xs ps
 |_,_=>False
theorem Fx.eval{M:Av}{w:World}{E:Env}{a:Act}(h:Fo M w E a):∀{xs:List Operand} {ps:List Pr},Fx E xs ps->HL M w ps (xs.map a.eval)
 |[],[],_=>trivial
 |[],_::_,hh=>hh.elim
 |_::_,[],hh=>hh.elim
 |_::_,_::_,hh=>let ⟨_q,hq,hl⟩:=hh.1;⟨hl _ _ _ (DT.eval h hq),Fx.eval h hh.2⟩
def looks(o:Oper):List Nat:=o.op.operands.toList.filterMap fun| .tmp t=>some t|_=>none
def C2(M:Av)(w:World)(E:Env)(o:Oper)(a:Act):Prop:=∀s p,s∈looks o->E.lookup s=some p->p.h M w (a.tmps.getD s undef)
theorem DT.En{M:Av}{w:World}{o:Oper}{a:Act}(h:C2 M w E o a){x:Operand}{p:Pr}(hm:x∈o.op.operands.toList)(hx:DT E x=some p):p.h M w (a.eval x):=by
 cases x with
 |tmp s=>exact h s p (List.mem_filterMap.2 ⟨_,hm,rfl⟩) hx
 |const v=>simp only[DT,Option.some.injEq]at hx;subst hx;rfl
 |global g=>simp only[DT,Option.some.injEq]at hx;subst hx;rfl
 |func f=>simp only[DT,Option.some.injEq]at hx;subst hx;exact⟨[],rfl,trivial⟩
theorem Fx.En{M:Av}{w:World}{E:Env}{o:Oper}{a:Act}(h:C2 M w E o a):∀{xs:List Operand} {ps:List Pr},(∀x∈xs,x∈o.op.operands.toList)->Fx E xs ps->HL M w ps (xs.map a.eval)
 |[],[],_,_=>trivial
 |[],_::_,_,hh=>hh.elim
 |_::_,[],_,hh=>hh.elim
 |_::_,_::_,hm,hh=>let ⟨q,hq,hl⟩:=hh.1;⟨hl _ _ _ (DT.En h (hm _ Ai) hq),Fx.En h (fun x hx=>hm x (by simp[hx])) hh.2⟩
def bR(P:Program)(M:Av)(w:World)(p:Pr):Result Next->Prop
 | .ok (.value v) w'=>p.h M w' v/\Below w.heap.size w w'
 | .ok .skip w'=>p.h M w' undef/\Below w.heap.size w w'
 | .ok (.enter f args) w'=>Below w.heap.size w w'/\Calls P f args w' fun e w''=>∃v,e= .returned v/\p.h M w'' v/\Below w'.heap.size w' w''
 |_=>False
def Af(P:Program)(I:Cj)(o:Oper)(E:Env)(p:Pr):Prop:=
 ∀M w (a:Act),C2 M w E o a->I.h M w->bR P M w p ((execOp a.eval o).run P w)
def upd(o:Oper)(p:Pr)(E:Env):Env:=match o.dst with|some d=>(d,p)::E|none=>E
def bS:Option Bool->Pr
 |some b=>bool b
 |none=>is undef
def ig(P:Program)(I:Cj)(ops:Array Oper)(o:Oper)(E:Env)(p:Pr):Prop:=
 match o.guard with
 |none=>Af P I o E p
 |some (j,want)=>∃(d:Nat) (b:Option Bool),(ops[j]?).bind (·.dst)=some d/\E.lookup d=some (bS b)/\(b=some want->Af P I o E p)/\(b≠some want->p=is undef)
def Ch(P:Program)(n:Fm)(I:Cj)(ops:Array Oper):List Oper->Env->(Env->Prop)->Prop
 |[],E,K=>K E
 |o::r,E,K=>∃p,ig P I ops o E p/\(∀d,o.dst=some d->d<n)/\Ch P n I ops r (upd o p E) K
theorem Ch.nil{P:Program}{n:Fm}{ops:Array Oper}{K:Env->Prop}(h:K E):Ch P n I ops [] E K:=h
theorem Ch.op{P:Program}{n:Fm}{ops:Array Oper}{o:Oper}{r:List Oper}{K:Env->Prop}{d:Nat}{p:Pr}(hg:o.guard=none)(hd:o.dst=some d)(hn:d<n)(h:Af P I o E p)(k:Ch P n I ops r ((d,p)::E) K):Ch P n I ops (o::r) E K:=
 ⟨p,by unfold ig;rw[hg];exact h,fun d' hd'=>by rw[hd]at hd';cases hd';exact hn,by unfold upd;rw[hd];exact k⟩
theorem Ch.yes{P:Program}{n:Fm}{ops:Array Oper}{o:Oper}{r:List Oper}{K:Env->Prop}{d g j:Nat}{b want:Bool}{p:Pr}(hg:o.guard=some (j,want))(hj:(ops[j]?).bind (·.dst)=some g)(hb:E.lookup g=some (bool b))(OA:b=want)(hd:o.dst=some d)(hn:d<n)(h:Af P I o E p)(k:Ch P n I ops r ((d,p)::E) K):Ch P n I ops (o::r) E K:=
 ⟨p,by unfold ig;rw[hg];exact⟨g,some b,hj,hb,fun _=>h,fun hne=>absurd (congrArg some OA) hne⟩,fun d' hd'=>by rw[hd]at hd';cases hd';exact hn,by unfold upd;rw[hd];exact k⟩
theorem Ch.no{P:Program}{n:Fm}{ops:Array Oper}{o:Oper}{r:List Oper}{K:Env->Prop}{d g j:Nat}{b want:Bool}(hg:o.guard=some (j,want))(hj:(ops[j]?).bind (·.dst)=some g)(hb:E.lookup g=some (bool b))(OA:b≠want)(hd:o.dst=some d)(hn:d<n)(k:Ch P n I ops r ((d,is undef)::E) K):Ch P n I ops (o::r) E K:=
 ⟨is undef,by unfold ig;rw[hg];exact⟨g,some b,hj,hb,fun he=>absurd (Option.some.inj he) OA,fun _=>rfl⟩,fun d' hd'=>by rw[hd]at hd';cases hd';exact hn,by unfold upd;rw[hd];exact k⟩
theorem Ch.un{P:Program}{n:Fm}{ops:Array Oper}{o:Oper}{r:List Oper}{K:Env->Prop}{d g j:Nat}{want:Bool}(hg:o.guard=some (j,want))(hj:(ops[j]?).bind (·.dst)=some g)(hb:E.lookup g=some (is undef))(hd:o.dst=some d)(hn:d<n)(k:Ch P n I ops r ((d,is undef)::E) K):Ch P n I ops (o::r) E K:=
 ⟨is undef,by unfold ig;rw[hg];exact⟨g,none,hj,hb,fun he=>(by cases he),fun _=>rfl⟩,fun d' hd'=>by rw[hd]at hd';cases hd';exact hn,by unfold upd;rw[hd];exact k⟩
theorem CC(a:Act)(dst:Option Tmp)(v:Value):(a.put dst v).tmps.size=a.tmps.size:=by cases dst<;>simp[Act.put]
theorem put_defers(a:Act)(dst:Option Tmp)(v:Value):(a.put dst v).defers=a.defers:=by cases dst<;>rfl
theorem B6{a:Act}{d:Nat}{v:Value}(h:d<a.tmps.size):(a.put (some d) v).tmps.getD d undef=v:=by simp[Act.put,Array.getD_eq_getD_getElem?,h]
theorem Ba{a:Act}{d s:Nat}{v:Value}(h:s≠d):(a.put (some d) v).tmps.getD s undef=a.tmps.getD s undef:=by
 simp[Act.put,Array.getD_eq_getD_getElem?,Ne.symm h]
theorem Fo.put{M:Av}{w w':World}{a:Act}{o:Oper}{p:Pr}{v:Value}(h:Fo M w E a)(hb:Below w.heap.size w w')(hp:p.h M w' v)(hn:∀d,o.dst=some d->d<a.tmps.size):
  Fo M w' (upd o p E) (a.put o.dst v):=by
 intro s q hq;unfold upd at hq;cases hd:o.dst with
 |none=>rw[hd]at hq;exact q.st _ _ _ _ _ (Ext.below hb) (h s q hq)
 |some d=>
  rw[hd]at hq;simp only[List.lookup]at hq
  by_cases hs:s=d
  .
   subst hs;simp only[beq_self_eq_true,Option.some.injEq]at hq;subst hq;rw[B6 (hn _ hd)];exact hp
  .
   rw[show(s==d)=false by simpa using hs]at hq;rw[Ba hs];exact q.st _ _ _ _ _ (Ext.below hb) (h s q hq)
end Cp
namespace Cp
open Go Go.RowKit
variable{a:Act}{ops:Array Oper}{xs:Array Operand}{ts:Array TypeId}{M:Av}{new:Bool}{f:FuncId}{rows:List (List Pr)}{ps qs:List Pr}{zs:List Value}{d i id j k m:Nat}{o:Oper}{x:Operand}{p:Pr}{T:TypeId}{v:Value}{w w0:World}
section
variable{P:Program}{L:Lg P}{n:Fm}{fz:Nat}{I:Cj}
theorem He{next:Act->World->Prop}{Q:Exit->Act->World->Prop}{r:Result Next}(h:bR P M w p r)(k:∀v w',p.h M w' v->Below w.heap.size w w'->next (a.put o.dst v) w'):o.upon P a next Q r:=by
 cases r with
 |halt x w'=>exact h.elim
 |ok x w'=>
  cases x<;>first|exact h.elim|skip
  case value v=>exact k _ _ h.1 h.2
  case skip=>exact k _ _ h.1 h.2
  case enter f args=>
   obtain⟨h1,h2⟩:=h;refine h2.mono ?_;rintro e w'' ⟨v,rfl,h3,h4⟩;exact k _ _ h3 (O5 h1 h4)
theorem Cq{E:Env}(h:Fo M w E a):C2 M w E o a:=fun s p _ hp=>h s p hp
theorem G4{y:Nat->Option Bool}(h:o.guard=none):Region.wanted o y=true:=by simp[Region.wanted,h]
theorem IB{y:Nat->Option Bool}{want:Bool}{b:Option Bool}(h:o.guard=some (j,want))(hy:y j=b):Region.wanted o y=(b==some want):=by
 simp[Region.wanted,h,hy]
theorem Uo{t:Array Value}{b:Bool}(hj:(ops[j]?).bind (·.dst)=some d)(hd:d<t.size)(h:t.getD d undef= .bool b):yielded ops t j=some b:=by
 have h1:t[d]? =some (.bool b):=by
  rw[Array.getElem?_eq_getElem hd];rw[Array.getD_eq_getD_getElem?,Array.getElem?_eq_getElem hd]at h
  simpa using h
 have h2:((ops[j]?).bind (·.dst)).bind (t[·]?)=some (.bool b):=by rw[hj];exact h1
 unfold yielded;rw[h2]
theorem JT{t:Array Value}{b:Option Bool}(hj:(ops[j]?).bind (·.dst)=some d)(h:(bS b).h M w (t.getD d undef)):yielded ops t j=b:=by
 rcases Nat.lt_or_ge d t.size with hd|hd
 .
  cases b with
  |some b=>exact Uo hj hd h
  |none=>
   have h0:t.getD d undef=undef:=h
   have h1:t[d]? =some undef:=by
    rw[Array.getElem?_eq_getElem hd];rw[Array.getD_eq_getD_getElem?,Array.getElem?_eq_getElem hd]at h0
    simpa using h0
   have h2:((ops[j]?).bind (·.dst)).bind (t[·]?)=some undef:=by rw[hj];exact h1
   unfold yielded;rw[h2];rfl
 .
  have h1:t[d]? =none:=Array.getElem?_eq_none hd;have h2:((ops[j]?).bind (·.dst)).bind (t[·]?)=none:=by rw[hj];exact h1
  have h3:yielded ops t j=none:=by unfold yielded;rw[h2]
  rw[h3];cases b with
  |none=>rfl
  |some b=>
   have h4:t.getD d undef= .bool b:=h;rw[Array.getD_eq_getD_getElem?,h1]at h4;cases h4
theorem K_{E:Env}{K:Act->World->Prop}{Q:Exit->Act->World->Prop}(hg:ig P I ops o E p)(he:C2 M w E o a)(hgu:∀j want d q,o.guard=some (j,want)->(ops[j]?).bind (·.dst)=some d->E.lookup d=some q->q.h M w (a.tmps.getD d undef))(hI:I.h M w)(k:∀v w',p.h M w' v->Below w.heap.size w w'->K (a.put o.dst v) w'):
  if Region.wanted o (yielded ops a.tmps)then o.wp P a w K Q else K (a.put o.dst undef) w:=by
 unfold ig at hg;cases hgd:o.guard with
 |none=>
  rw[hgd]at hg;rw[if_pos (G4 hgd)];exact(He (hg M w a he hI) k)
 |some g=>
  obtain⟨j,want⟩:=g;rw[hgd]at hg;obtain⟨d,b,hj,hd,hyes,hno⟩:=hg;have h1:=hgu j want d _ hgd hj hd;have hy:=JT (b:=b) hj h1;rw[IB hgd hy]
  by_cases hb:b=some want
  .
   rw[if_pos JP];exact(He (hyes hb M w a he hI) k)
  .
   rw[if_neg JP];have:=hno hb;subst this;exact k _ _ rfl (Below.refl _ _)
theorem OB{ops:Array Oper}{Q:Exit->Act->World->Prop}:∀(l:List Oper) (k:Nat) (E:Env),(∀j,l[j]? =ops[k+j]?)->
  Ch P n I ops l E (fun E'=>∀a w,St n E' I a w->Q .normal a w)->∀a w,St n E I a w->wpS P ops Q (List.range' k l.length) a w
 |[],k,E,_,h,a,w,hs=>h a w hs
 |o::l,k,E,hl,h,a,w,hs=>by
  have h0:ops[k]? =some o:=by simpa using(hl 0).symm
  obtain⟨p,hg,hd,hr⟩:=h;obtain⟨M,hn,hdf,he,hI⟩:=hs;simp only[List.length_cons,List.range'_succ,wpS,h0];refine K_ hg (Cq he) (fun j want d q hgd hj hq=>he d q hq) hI ?_
  .
   intro v w' hp hb;refine OB l (k+1) _ (fun j=>by have:=hl (j+1);simpa[Nat.add_assoc,Nat.add_comm 1 j]using this) hr _ _ ⟨M,?_,?_,?_,I.st _ _ _ hb hI⟩
   .rw[CC];exact hn
   .rw[put_defers];exact hdf
   .exact he.put hb hp (fun d h=>by rw[hn];exact hd d h)
theorem Tr.pX{l:List Oper}{E:Env}{Q:Exit->Act->World->Prop}(h:Ch P n I l.toArray l E (fun E'=>∀a w,St n E' I a w->Q .normal a w))(hc:calm l=true):Tr L n E I (.region id l.toArray false) Q:=
 fun a w hs=>L.region hc (OB l 0 E Ai h a w hs)
def BB(o:Oper)(k:Nat):Bool:=o.after.any fun e=>Region.binds .any e&&e.on==k
def seen(ops:Array Oper)(o:Oper):List Nat:=looks o++(match o.guard with|some (g,_)=>((ops[g]?).bind (·.dst)).toList|none=>[])
def L4(l:List Oper):Bool:=
 l.zipIdx.all fun(o,i)=>
  (o.after.all fun e=> !Region.binds .any e||decide (e.on<i))&&
  l.zipIdx.all fun(q,k)=>k==i||match q.dst with
   |none=>true
   |some s=>o.dst !=some s&&(!(seen l.toArray o).contains s||(decide (k<i)&&BB o k)||(decide (i<k)&&BB q i))
def cur(sel:Nat->Bool):Nat->List (Oper×Pr)->Env->Env
 |_,[],E=>E
 |k,(o,p)::L,E=>cur sel (k+1) L (if sel k then upd o p E else E)
theorem CV{sel:Nat->Bool}{s:Nat}:∀(L:List (Oper×Pr)) (k:Nat) (E:Env),(∀j o p,L[j]? =some (o,p)->sel (k+j)=true->o.dst≠some s)->(cur sel k L E).lookup s=E.lookup s
 |[],_,_,_=>rfl
 |(o,p)::L,k,E,h=>by
  unfold cur;rw[CV L (k+1) _ (fun j o' p' hj hs=>h (j+1) o' p' F9 (by rwa [Nat.add_assoc,Nat.add_comm 1 j]at hs))]
  by_cases hs:sel k=true
  .
   rw[if_pos hs];have hne:=h 0 o p rfl hs;unfold upd;cases hd:o.dst with
   |none=>rfl
   |some d=>
    simp only[List.lookup];rw[hd]at hne;rw[show(s==d)=false by simp;intro e;exact hne JR]
  .rw[if_neg hs]
theorem Ek{sel:Nat->Bool}{s:Nat}:∀(L:List (Oper×Pr)) (k:Nat) (E:Env) (i:Nat) (o:Oper) (p:Pr),L[i]? =some (o,p)->sel (k+i)=true->o.dst=some s->
  (∀j o' p',L[j]? =some (o',p')->j≠i->o'.dst≠some s)->(cur sel k L E).lookup s=some p
 |[],_,_,i,_,_,h,_,_,_=>by simp at h
 |(o',p')::L,k,E,0,o,p,h,hs,hd,hu=>by
  simp only[List.getElem?_cons_zero,Option.some.injEq,Prod.mk.injEq]at h;obtain⟨rfl,rfl⟩:=h;unfold cur;rw[CV L (k+1) _ (fun j o2 p2 hj _=>hu (j+1) o2 p2 F9 AA)];rw[if_pos (by simpa using hs)];unfold upd;rw[hd];simp[List.lookup]
 |(o',p')::L,k,E,i+1,o,p,h,hs,hd,hu=>by
  unfold cur;exact Ek L (k+1) _ i o p Fc (by rwa [Nat.add_assoc,Nat.add_comm 1 i]) hd (fun j o2 p2 hj hne=>hu (j+1) o2 p2 F9 AA)
theorem Up{ops:Array Oper}{K:Env->Prop}:∀(l:List Oper) (k:Nat) (E:Env),Ch P n I ops l E K->∃L:List (Oper×Pr),L.map (·.1)=l/\
  (∀j o p,L[j]? =some (o,p)->ig P I ops o (cur (fun i=>decide (i<k+j)) k L E) p/\∀d,o.dst=some d->d<n)/\K (cur (fun _=>true) k L E)
 |[],k,E,h=>⟨[],rfl,fun j o p hj=>by simp at hj,h⟩
 |o::l,k,E,h=>by
  obtain⟨p,hg,hd,hr⟩:=h;obtain⟨L,h1,h2,h3⟩:=Up l (k+1) _ hr;refine⟨(o,p)::L,by simp[h1],fun j o' p' hj=>?_,by unfold cur;simpa using h3⟩;cases j with
  |zero=>
   simp only[List.getElem?_cons_zero,Option.some.injEq,Prod.mk.injEq]at hj;obtain⟨rfl,rfl⟩:=hj;refine⟨?_,hd⟩;unfold cur;rw[if_neg Ai]
   have hc:cur (fun i=>decide (i<k+0)) (k+1) L E=E:=by
    have:∀(L:List (Oper×Pr)) (m:Nat) (E:Env),k<=m->cur (fun i=>decide (i<k+0)) m L E=E:=by
     intro L
     induction L with
     |nil=>intros;rfl
     |cons x L ih=>intro m E hm;obtain⟨o,p⟩:=x;unfold cur;rw[if_neg Ci];exact ih _ _ AA
    exact this L (k+1) E AA
   rw[hc];exact hg
  |succ j=>
   have:=h2 j o' p' F9;unfold cur;rw[if_pos Ai];rw[show k+(j+1)=k+1+j by omega];exact this
theorem count_set{l:List Bool}(h:l[i]? =some false):(l.set i true).count false+1=l.count false:=by grind
structure DJ(n:Fm)(I:Cj)(L:List (Oper×Pr))(E:Env)(listed:Array Bool)(a:Act)(w:World):Prop where
 size:listed.size=L.length
 down:∀(i k:Nat) o p,L[i]? =some (o,p)->listed.getD i false=true->BB o k=true->listed.getD k false=true
 st:∃M,a.tmps.size=n.sz/\a.defers=n.df/\Fo M w (cur (fun i=>listed.getD i false) 0 L E) a/\I.h M w
theorem OC:BB o k=true↔∃e∈o.after,Region.binds .any e=true/\e.on=k:=by
 simp[BB,Array.any_eq_true,Array.mem_iff_getElem];constructor
 .rintro⟨i,hi,h1,h2⟩;exact⟨_,⟨i,hi,rfl⟩,h1,h2⟩
 .rintro⟨e,⟨i,hi,rfl⟩,h1,h2⟩;exact⟨i,hi,h1,h2⟩
theorem Tr.pY{Lo:Lg P}(hm:P.follows .mixedOrders=true){l:List Oper}{E:Env}{Q:Exit->Act->World->Prop}(hB:L4 l=true)(h:Ch P n I l.toArray l E (fun E'=>∀a w,St n E' I a w->Q .normal a w))(hc:calm l=true):Tr Lo n E I (.region id l.toArray true) Q:=by
 intro a w hs;obtain⟨L,h1,h2,h3⟩:=Up l 0 E h;have hlen:L.length=l.length:=by rw[←h1];simp
 have hL:∀(i:Nat) o,l.toArray[i]? =some o->∃p,L[i]? =some (o,p):=by grind
 have hL':∀(i:Nat) o p,L[i]? =some (o,p)->l[i]? =some o:=by grind
 -- what the check says
 have YK:∀(i:Nat) o,l[i]? =some o->(∀e∈o.after,Region.binds .any e=true->e.on<i)/\
   ∀(k:Nat) q s,l[k]? =some q->k≠i->q.dst=some s->o.dst≠some s/\(s∈seen l.toArray o->(k<i/\BB o k=true)\/(i<k/\BB q i=true)):=by
  intro i o ho;unfold L4 at hB;rw[List.all_eq_true]at hB;have hb:=hB (o,i) (by rw[List.mem_zipIdx_iff_getElem?];exact ho);simp only[Bool.and_eq_true]at hb;refine⟨fun e he hbd=>?_,fun k q s hk hne hd=>?_⟩
  .
   have:=Array.all_eq_true_iff_forall_mem.1 hb.1 e he;rw[hbd]at this;simpa using this
  .
   have:=List.all_eq_true.1 hb.2 (q,k) (by rw[List.mem_zipIdx_iff_getElem?];exact hk);simp only[hd,Bool.or_eq_true,Bool.and_eq_true]at this;rcases this with h|h
   .grind
   .grind
 refine Lo.draw hc hm ?_
 -- the induction
 have key:∀(fuel:Nat) (listed:Array Bool) (a:Act) (w:World),listed.toList.count false<=fuel->DJ n I L E listed a w->JS P .any l.toArray Q fuel listed a w:=by
  intro fuel
  -- all are listed where nothing is ready
  have fin:∀(listed:Array Bool) (a:Act) (w:World),DJ n I L E listed a w->(∀i,i<L.length->listed.getD i false=true)->Q .normal a w:=by
   intro listed a w hJ hall;obtain⟨M,hn,hdf,he,hI⟩:=hJ.st;refine h3 a w ⟨M,hn,hdf,?_,hI⟩
   have:cur (fun i=>listed.getD i false) 0 L E=cur (fun _=>true) 0 L E:=by
    have:∀(L':List (Oper×Pr)) (k:Nat) (E:Env),k+L'.length<=L.length->cur (fun i=>listed.getD i false) k L' E=cur (fun _=>true) k L' E:=by
     intro L'
     induction L' with
     |nil=>intros;rfl
     |cons x L' ih=>
      intro k E hk;obtain⟨o,p⟩:=x;simp only[List.length_cons]at hk;unfold cur;rw[hall k AA,ih _ _ AA]
    exact this L 0 E AA
   rwa [this]at he
  have Iq:∀(listed:Array Bool) (a:Act) (w:World),DJ n I L E listed a w->Region.ready .any l.toArray listed=[]->∀i,i<L.length->listed.getD i false=true:=by
   intro listed a w hJ hr i
   induction i using Nat.strongRecOn with
   |_ i ih=>
    intro hi;cases QB:listed.getD i false with
    |true=>rfl
    |false=>
     exfalso;have FC:i<l.length:=by omega
     have hmem:i∈Region.ready .any l.toArray listed:=by
      refine mem_ready.2 ⟨?_,l[i],by simp[FC],fun e he hb=>?_⟩
      .
       have:i<listed.size:=by rw[hJ.size];exact hi
       rw[Array.getD_eq_getD_getElem?,Array.getElem?_eq_getElem this]at QB ⊢
       simpa using QB
      .grind
     rw[hr]at hmem;cases hmem
  induction fuel with
  |zero=>
   intro listed a w hc hJ
   have hall:∀i,i<L.length->listed.getD i false=true:=by
    intro i hi;have hsz:=hJ.size;have h0:false∉listed.toList:=by grind
    cases QB:listed.getD i false with
    |true=>rfl
    |false=>
     exfalso;have:i<listed.size:=by omega
     rw[Array.getD_eq_getD_getElem?,Array.getElem?_eq_getElem this]at QB
     apply h0
     simp at QB;rw[←QB];exact Array.getElem_mem_toList this
   refine⟨?_,fin listed a w hJ hall⟩;cases hr:Region.ready .any l.toArray listed with
   |nil=>rfl
   |cons i r=>
    exfalso;have hi:i∈Region.ready .any l.toArray listed:=by rw[hr];simp
    obtain⟨hu,o,ho,_⟩:=mem_ready.1 hi;obtain⟨p,hp⟩:=hL i o ho;have FC:i<L.length:=by grind
    have h5:=hall i FC;have:i<listed.size:=by rw[hJ.size];exact FC
    rw[Array.getD_eq_getD_getElem?,Array.getElem?_eq_getElem this]at hu h5;simp at hu h5;rw[hu]at h5;cases h5
  |succ fuel ih=>
   intro listed a w hc hJ;refine⟨fun hr=>fin listed a w hJ (Iq listed a w hJ hr),fun i hi=>?_⟩;obtain⟨hu,o,ho,hall⟩:=mem_ready.1 hi;obtain⟨p,hp⟩:=hL i o ho;have ho':l[i]? =some o:=hL' i o p hp;have FC:i<L.length:=by grind
   have his:i<listed.size:=by rw[hJ.size];exact FC
   have LV:listed.getD i false=false:=by grind
   have hpre:∀k,BB o k=true->listed.getD k false=true:=by
    intro k hk;obtain⟨e,he,hb,rfl⟩:=OC.1 hk;exact hall e he hb
   obtain⟨hg,hdn⟩:=h2 i o p hp;rw[Nat.zero_add]at hg;obtain⟨M,hn,hdf,he,hI⟩:=hJ.st
   -- what is looked at reads as in the wE order
   have hsame:∀s,s∈seen l.toArray o->(cur (fun j=>decide (j<i)) 0 L E).lookup s=(cur (fun j=>listed.getD j false) 0 L E).lookup s:=by
    intro s hs
    by_cases hw:∃k q r,L[k]? =some (q,r)/\k≠i/\q.dst=some s
    .
     obtain⟨k,q,r,hk,hki,hd⟩:=hw;have F6:∀(j:Nat) o' p',L[j]? =some (o',p')->j≠k->o'.dst≠some s:=by grind
     rcases((YK i o ho').2 k q s (hL' k q r hk) hki hd).2 hs with⟨h5,h6⟩|⟨h5,h6⟩
     .exact aR
     .
      have hnk:listed.getD k false=false:=by
       cases hlk:listed.getD k false with
       |false=>rfl
       |true=>have:=hJ.down k i q r hk hlk h6;rw[LV]at this;cases this
      rw[CV L 0 E,CV L 0 E]
      .grind
      .grind
    .
     rw[CV L 0 E,CV L 0 E]
     .grind
     .grind
   unfold O6;rw[ho];refine K_ hg (fun s q hs hq=>?_) (fun j want d q hgd hj hq=>?_) hI ?_
   .
    rw[hsame s (by unfold seen;simp[hs])]at hq;exact he s q hq
   .
    have hds:d∈seen l.toArray o:=by unfold seen;rw[hgd];exact List.mem_append.2 (.inr UX)
    rw[hsame d hds]at hq;exact he d q hq
   .
    intro v w' Yf hb;refine ih _ _ _ ?_ ⟨by simpa using hJ.size,?_,M,by rw[CC];exact hn,by rw[put_defers];exact hdf,?_,I.st _ _ _ hb hI⟩
    .
     have h7:listed.toList[i]? =some false:=by
      rw[Array.getElem?_toList,Array.getElem?_eq_getElem his];rw[Array.getD_eq_getD_getElem?,Array.getElem?_eq_getElem his]at LV
      simpa using LV
     have h8:=count_set h7;rw[Array.toList_setIfInBounds];omega
    .
     intro j k o' p' hj WI hek
     have Io:∀m,(listed.setIfInBounds i true).getD m false=(if m=i then true else listed.getD m false):=by
      intro m;rw[Array.getD_eq_getD_getElem?,Array.getElem?_setIfInBounds]
      by_cases hm:i=m
      .subst hm;simp[his]
      .exact N9
     rw[Io]at WI ⊢
     by_cases hki:k=i
     .simp[hki]
     .
      rw[if_neg hki]
      by_cases hji:j=i
      .grind
      .
       rw[if_neg hji]at WI;exact hJ.down j k o' p' hj WI hek
    .
     -- the WV
     intro s q hq
     have Io:∀m,(listed.setIfInBounds i true).getD m false=(if m=i then true else listed.getD m false):=by
      intro m;rw[Array.getD_eq_getD_getElem?,Array.getElem?_setIfInBounds]
      by_cases hm:i=m
      .subst hm;simp[his]
      .exact N9
     by_cases hds:o.dst=some s
     .
      rw[Ek L 0 E i o p hp Ui hds
       (fun j o' p' hj hji=>((YK j o' (hL' j o' p' hj)).2 i o s ho' (Ne.symm hji) hds).1)]at hq
      cases hq;rw[hds,B6 Ul];exact Yf
     .
      have WW:(cur (fun j=>listed.getD j false) 0 L E).lookup s=some q:=by
       rw[←hq]
       by_cases hw:∃k q r,L[k]? =some (q,r)/\q.dst=some s/\listed.getD k false=true
       .
        obtain⟨k,q',r,hk,hd,hlk⟩:=hw;have F6:∀(j:Nat) o' p',L[j]? =some (o',p')->j≠k->o'.dst≠some s:=by grind
        rw[Ek L 0 E k q' r hk (by simpa using hlk) hd F6,Ek L 0 E k q' r hk Ud hd F6]
       .
        rw[CV L 0 E,CV L 0 E]
        .grind
        .grind
      have hv:=he s q WW
      have:(a.put o.dst v).tmps.getD s undef=a.tmps.getD s undef:=by
       cases hd:o.dst with
       |none=>rfl
       |some d=>exact Ba (fun e=>hds (by rw[hd,e]))
      rw[this];exact q.st _ _ _ _ _ (Ext.below hb) hv
 refine key l.length _ a _ ?_ ⟨by simp[hlen],?_,?_⟩
 .simp[List.count_replicate]
 .
  intro i k o p hp hl;exfalso;rw[Array.getD_eq_getD_getElem?,Array.getElem?_replicate]at hl
  split at hl<;>simp at hl
 .
  obtain⟨M,hn,hdf,he,hI⟩:=hs;have hb:Below w.heap.size w { w with drawn:=w.drawn+1 }:=⟨rfl,rfl,rfl,Nat.le_refl _,fun _ _=>rfl⟩;refine⟨M,hn,hdf,?_,I.st _ _ _ hb hI⟩;intro s q hq;rw[CV L 0 E]at hq
  .exact Uf
  .
   intro j o p hj hsel;exfalso;rw[Array.getD_eq_getD_getElem?,Array.getElem?_replicate]at hsel
   split at hsel<;>simp at hsel
end
section
variable{P:Program}{L:Lg P}{n:Fm}{fz:Nat}{E:Env}{I:Cj}{Q:Exit->Act->World->Prop}
def Fin(n:Fm)(E:Env)(I:Cj)(Q:Exit->Act->World->Prop)(e:Exit):Prop:=∀a w,St n E I a w->Q e a w
theorem Tr.seq{x y:Code}(h:Tr L n E I x (Exit.then (L.wp y Q) Q)):Tr L n E I (.seq x y) Q:=fun a w hs=>L.seq (h a w hs)
theorem Tr.Bo{l:List Oper}(h:Ch P n I l.toArray l E (fun E'=>Fin n E' I Q .normal))(hc:calm l=true:=by with_unfolding_all rfl):Tr L n E I (.region id l.toArray false) Q:=Tr.pX h hc
theorem Tr.AFC(hm:P.follows .mixedOrders=true){l:List Oper}(hB:L4 l=true)(h:Ch P n I l.toArray l E (fun E'=>Fin n E' I Q .normal))(hc:calm l=true:=by with_unfolding_all rfl):Tr L n E I (.region id l.toArray true) Q:=Tr.pY hm hB h hc
theorem Fin.go{y:Code}(h:Tr L n E I y Q):Fin n E I (Exit.then (L.wp y Q) Q) .normal:=h
theorem Fin.AF{K:Act->World->Prop}(h:Fin n E I Q .ret):Fin n E I (Exit.then K Q) .ret:=h
theorem Fin.BF{K:Act->World->Prop}(h:Fin n E I Q (.exit id)):Fin n E I (Exit.then K Q) (.exit id):=h
theorem Fin.block(h:Fin n E I Q .normal):Fin n E I (Exit.inBlock id Q) .normal:=h
theorem Fin.Ak(h:Fin n E I Q .ret):Fin n E I (Exit.inBlock id Q) .ret:=h
theorem Fin.B1(h:Fin n E I Q .normal):Fin n E I (Exit.inBlock id Q) (.exit id):=fun a w hs=>by
 show(if id=id then Q .normal a w else Q (.exit id) a w);rw[if_pos rfl];exact h a w hs
theorem Fin.Q7{id':Nat}(hne:Nat.beq id' id=false)(h:Fin n E I Q (.exit id')):Fin n E I (Exit.inBlock id Q) (.exit id'):=fun a w hs=>by
 show(if id'=id then Q .normal a w else Q (.exit id') a w);rw[if_neg (Nat.ne_of_beq_eq_false hne)];exact h a w hs
theorem Tr.skip(h:Fin n E I Q .normal):Tr L n E I .skip Q:=fun a w hs=>L.skip (h a w hs)
theorem Tr.ret(h:Fin n E I Q .ret):Tr L n E I .ret Q:=fun a w hs=>L.ret (h a w hs)
theorem Tr.exit(h:Fin n E I Q (.exit id)):Tr L n E I (.exit id) Q:=fun a w hs=>L.exit (h a w hs)
theorem Tr.block{c:Code}(h:Tr L n E I c (Exit.inBlock id Q)):Tr L n E I (.block id c) Q:=fun a w hs=>L.block (h a w hs)
theorem Tr.cond{c:Operand}{x y:Code}{b:Bool}(hc:DT E c=some (bool b))(ht:b=true->Tr L n E I x Q)(hf:b=false->Tr L n E I y Q):Tr L n E I (.cond c x y) Q:=by
 intro a w hs;obtain⟨M,h1,h2,h3,h4⟩:=hs;have hv:a.eval c= .bool b:=DT.eval h3 hc;exact L.cond hv (fun h=>ht h a w ⟨M,h1,h2,h3,h4⟩) (fun h=>hf h a w ⟨M,h1,h2,h3,h4⟩)
def C6(E:Env):Env->Prop
 |[]=>True
 |(s,p)::r=>(∃q,E.lookup s=some q/\Pr.le q p)/\C6 E r
theorem C6.spec:∀{E1:Env},C6 E E1->∀s p,E1.lookup s=some p->∃q,E.lookup s=some q/\Pr.le q p
 |[],_,s,p,h=>by simp at h
 |(t,q)::r,hh,s,p,h=>by
  simp only[List.lookup]at h
  by_cases hs:s=t
  .
   subst hs;simp only[beq_self_eq_true,Option.some.injEq]at h;subst h;exact hh.1
  .
   rw[show(s==t)=false by simpa using hs]at h;exact C6.spec hh.2 s p h
theorem St.sub{E1:Env}{I1:Cj}(hs:C6 E E1)(hI:∀M w,I.h M w->I1.h M w)(h:St n E I a w):St n E1 I1 a w:=by
 obtain⟨M,h1,h2,h3,h4⟩:=h;refine⟨M,h1,h2,fun s p hp=>?_,hI M w h4⟩;obtain⟨q,hq,hl⟩:=hs.spec s p hp;exact hl _ _ _ (h3 s q hq)
theorem Tr.weak(E1:Env){c:Code}(hs:C6 E E1)(h:Tr L n E1 I c Q):Tr L n E I c Q:=fun a w hw=>h a w (hw.sub hs fun _ _ h=>h)
theorem Fin.weak(E1:Env){e:Exit}(hs:C6 E E1)(h:Fin n E1 I Q e):Fin n E I Q e:=fun a w hw=>h a w (hw.sub hs fun _ _ h=>h)
theorem Tr.cut{α:Type}(E1:α->Env)(I1:α->Cj)(C:α->Prop){x y:Code}(h:Tr L n E I x (Exit.then (fun a w=>∃i,C i/\St n (E1 i) (I1 i) a w) Q))
  (k:∀i,C i->Tr L n (E1 i) (I1 i) y Q):Tr L n E I (.seq x y) Q:=by
 intro a w hs;refine L.seq (L.mono ?_ (h a w hs));intro e a' w' hq;cases e with
 |normal=>obtain⟨i,hi,hst⟩:=hq;exact k i hi a' w' hst
 |_=>exact hq
theorem Tr.AFD(E1:Env)(φ:Prop){x y:Code}(h:Tr L n E I x (Exit.then (fun a w=>∃_:Unit,φ/\St n E1 I a w) Q))(k:φ->Tr L n E1 I y Q):Tr L n E I (.seq x y) Q:=
 Tr.cut (fun _:Unit=>E1) (fun _=>I) (fun _=>φ) h (fun _=>k)
theorem Fin.AP{α:Type}{E1:α->Env}{C:α->Prop}(i:α)(hC:C i)(hs:C6 E (E1 i)):
  Fin n E I (Exit.then (fun a w=>∃i,C i/\St n (E1 i) I a w) Q) .normal:=fun _ _ hst=>⟨i,hC,hst.sub hs fun _ _ h=>h⟩
theorem Tr.loop{α:Type}(Ei:α->Env)(Ii:α->Cj)(C:α->Prop)(μ:α->Nat){c:Code}(x0:α)(h0:C x0)(hs:C6 E (Ei x0))(hI:∀M w,I.h M w->(Ii x0).h M w)
  (round:∀x,C x->Tr L n (Ei x) (Ii x) c (Exit.then (fun a w=>∃y,(C y/\μ y<μ x)/\St n (Ei y) (Ii y) a w) Q)):Tr L n E I (.loop c) Q:=by
 intro a w hst;refine L.loop μ (fun x a w=>C x/\St n (Ei x) (Ii x) a w) (fun x a w hx=>L.mono (fun e a w h=>?_) (round x hx.1 a w hx.2)) x0 a w ⟨h0,hst.sub hs hI⟩;cases e with
 |normal=>obtain⟨y,⟨h1,h2⟩,h3⟩:=h;exact⟨y,h2,h1,h3⟩
 |_=>exact h
theorem Tr.AA1{α:Type}(Ei:α->Env)(C:α->Prop)(μ:α->Nat){c:Code}(x0:α)(h0:C x0)(hs:C6 E (Ei x0))
  (round:∀x,C x->Tr L n (Ei x) I c (Exit.then (fun a w=>∃y,(C y/\μ y<μ x)/\St n (Ei y) I a w) Q)):Tr L n E I (.loop c) Q:=
 Tr.loop Ei (fun _=>I) C μ x0 h0 hs (fun _ _ h=>h) round
structure Ay where
 blk:Option Nat
 new:Bool
 h:Av->World->Prop
 st:∀M w M' w',Ext M w M' w'->(∀b,blk=some b->w'.heap[b]? =w.heap[b]? /\∀o,M b o->M' b o)->h M w->h M' w'
structure BD(M0:Av)(w0:World)(S:Nat->Prop)(rs:List Ay)(M:Av)(w:World):Prop where
 m0:Bd M0 w0
 m:∀b o,M0 b o->M b o
 os:w.os=w0.os
 tape:w.tape=w0.tape
 output:w.output=w0.output
 size:w0.heap.size<=w.heap.size
 block:∀k,k<w0.heap.size->¬S k->w.heap[k]? =w0.heap[k]?
 bd:Bd M w
 hold:∀r∈rs,r.h M w/\∀b,r.blk=some b->b<w.heap.size/\(if r.new then w0.heap.size<=b else S b)
 nd:List.Pairwise (fun r r':Ay=>∀b,r.blk=some b->r'.blk≠some b) rs
def Hp(M0:Av)(w0:World)(S:Nat->Prop)(rs:List Ay):Cj where
 h:=BD M0 w0 S rs
 st M w w' hb h:=⟨h.m0,h.m,hb.os.trans h.os,hb.tape.trans h.tape,hb.output.trans h.output,Nat.le_trans h.size hb.size,
  fun k hk hs=>(hb.block k (Nat.lt_of_lt_of_le hk h.size)).trans (h.block k hk hs),fun b o hm=>Nat.lt_of_lt_of_le (h.bd b o hm) hb.size,
  fun r hr=>by
   obtain⟨h1,h2⟩:=h.hold r hr
   exact⟨r.st _ _ _ _ (Ext.below hb) (fun b hbk=>⟨hb.block b (h2 b hbk).1,fun _ x=>x⟩) h1,fun b hbk=>⟨Nat.lt_of_lt_of_le (h2 b hbk).1 hb.size,(h2 b hbk).2⟩⟩,h.nd⟩
 bd _ _ h:=h.bd
abbrev Ju:Nat->Prop:=fun _=>False
abbrev Bse(M0:Av)(w0:World):Cj:=Hp M0 w0 Ju []
theorem BD.begin{M0:Av}(h:Bd M0 w0):BD M0 w0 Ju [] M0 w0:=
 ⟨h,fun _ _ h=>h,rfl,rfl,rfl,Nat.le_refl _,fun _ _ _=>rfl,h,fun _ h=>by simp at h,.nil⟩
theorem BD.below{M0:Av}{rs:List Ay}(h:BD M0 w0 Ju rs M w):Below w0.heap.size w0 w:=
 ⟨h.os,h.tape,h.output,h.size,fun k hk=>h.block k hk (fun h=>h)⟩
def Sd(M0:Av)(w0:World)(res:Pr)(e:Ending)(w':World):Prop:=∃v,e= .returned v/\res.h M0 w' v/\Below w0.heap.size w0 w'
def L5:Nat->List Pr->Env
 |_,[]=>[]
 |k,p::r=>(k,p)::L5 (k+1) r
theorem O7:∀(ps:List Pr) (k s:Nat) (p:Pr),(L5 k ps).lookup s=some p->k<=s/\ps[s-k]? =some p
 |[],k,s,p,h=>by simp[L5]at h
 |q::ps,k,s,p,h=>by
  simp only[L5,List.lookup]at h
  by_cases hs:s=k
  .subst hs;simp at h;subst h;simp
  .
   rw[show(s==k)=false by simpa using hs]at h;obtain⟨h1,h2⟩:=O7 ps (k+1) s p h;refine⟨by omega,?_⟩;rw[show s-k=(s-(k+1))+1 by omega];simpa using h2
theorem Gb{vs:List Value}(h:HL M w ps vs):Fo M w (L5 0 ps) { tmps:=vs.toArray++Array.replicate m undef,defers:=[] }:=by
 intro s p hp;obtain⟨_,h2⟩:=O7 ps 0 s p hp;obtain⟨v,hv,hh⟩:=h.at_ s p M8;have hlt:s<vs.length:=by rcases Nat.lt_or_ge s vs.length with h1|h1;exact h1;rw[List.getElem?_eq_none h1]at hv;cases hv
 have:(vs.toArray++Array.replicate m undef).getD s undef=v:=by
  rw[Array.getD_eq_getD_getElem?,Array.getElem?_append_left (by simpa using hlt)];simp[hv]
 rw[this];exact hh
theorem Aq.of {g : Func} {c : Code} {res : Pr} (hf : P.funcs[f]? = some g) (hb : g.body = some c) (hname : (g.name == "runtime.NumGoroutine") = false) (hlen : ps.length ≤ g.ntmps) (h : ∀ M0 w0, Tr (YJ P) g.ntmps (L5 0 ps) (Bse M0 w0) c (bodyPost P g (Sd M0 w0 res))) : Aq P f ps res := by
 refine⟨⟨g,hf,hname,by rw[hb];rfl⟩,fun M w vs hbd hv=>?_⟩;refine calls_of_wp hf hb (h M w _ _ ⟨M,?_,rfl,Gb hv,BD.begin hbd⟩);have:=hv.length;simp[this];omega
theorem O8{g:Func}{t:Tmp}(h:g.results= #[.tmp t])(tmps:Array Value)(w:World):(results g tmps).run P w= .ok (tmps.getD t undef) w:=by simp[results,h]
theorem O9{g:Func}{t u:Tmp}(h:g.results= #[.tmp t,.tmp u])(tmps:Array Value)(w:World):(results g tmps).run P w= .ok (.tuple #[tmps.getD t undef,tmps.getD u undef]) w:=by simp[results,h]
theorem Se{g:Func}{t u v:Tmp}(h:g.results= #[.tmp t,.tmp u,.tmp v])(tmps:Array Value)(w:World):(results g tmps).run P w= .ok (.tuple #[tmps.getD t undef,tmps.getD u undef,tmps.getD v undef]) w:=by simp[results,h]
def CL(I:Cj)(M0:Av)(w0:World):Prop:=∀M w,I.h M w->(∀b o,M0 b o->M b o)/\Below w0.heap.size w0 w
theorem CL.Eo(M0:Av)(w0:World){rs:List Ay}:CL (Hp M0 w0 Ju rs) M0 w0:=fun _ _ h=>⟨h.m,h.below⟩
theorem Fin.WX{g:Func}{t:Tmp}{M0:Av}{q:Pr}(hr:g.results= #[.tmp t])(hI:CL I M0 w0)(h:E.lookup t=some q)(hl:Pr.le q p):
  Fin ⟨fz,[]⟩ E I (bodyPost P g (Sd M0 w0 p)) .ret:=by
 rintro a w ⟨M,_,hd,he,hi⟩;obtain⟨h1,h2⟩:=hI M w hi;exact⟨hd,_,O8 hr _ _,_,rfl,p.st _ _ _ _ _ (Ext.less h1) (hl _ _ _ (he _ _ h)),h2⟩
theorem Fin.C_{g:Func}{t u:Tmp}{M0:Av}{q p' q':Pr}(hr:g.results= #[.tmp t,.tmp u])(hI:CL I M0 w0)(h:E.lookup t=some q)(hl:Pr.le q p)(h':E.lookup u=some q')(hl':Pr.le q' p'):
  Fin ⟨fz,[]⟩ E I (bodyPost P g (Sd M0 w0 (EB [p,p']))) .ret:=by
 rintro a w ⟨M,_,hd,he,hi⟩;obtain⟨h1,h2⟩:=hI M w hi;exact⟨hd,_,O9 hr _ _,_,rfl,⟨[_,_],rfl,p.st _ _ _ _ _ (Ext.less h1) (hl _ _ _ (he _ _ h)),p'.st _ _ _ _ _ (Ext.less h1) (hl' _ _ _ (he _ _ h')),trivial⟩,h2⟩
theorem Fin.Yg{g:Func}{t u v:Tmp}{M0:Av}{q p' q' p'' q'':Pr}(hr:g.results= #[.tmp t,.tmp u,.tmp v])(hI:CL I M0 w0)(h:E.lookup t=some q)(hl:Pr.le q p)(h':E.lookup u=some q')(hl':Pr.le q' p')(h'':E.lookup v=some q'')(AFE:Pr.le q'' p''):Fin ⟨fz,[]⟩ E I (bodyPost P g (Sd M0 w0 (EB [p,p',p'']))) .ret:=by
 rintro a w ⟨M,_,hd,he,hi⟩;obtain⟨h1,h2⟩:=hI M w hi;exact⟨hd,_,Se hr _ _,_,rfl,⟨[_,_,_],rfl,p.st _ _ _ _ _ (Ext.less h1) (hl _ _ _ (he _ _ h)),p'.st _ _ _ _ _ (Ext.less h1) (hl' _ _ _ (he _ _ h')),p''.st _ _ _ _ _ (Ext.less h1) (AFE _ _ _ (he _ _ h'')),trivial⟩,h2⟩
end
section
variable{P:Program}{L:Lg P}{E:Env}{I:Cj}{o:Oper}
def VL(E:Env)(x:Operand)(p:Pr):Prop:=∃q,DT E x=some q/\Pr.le q p
theorem vl(h:DT E x=some p):VL E x p:=⟨p,h,Pr.le_refl p⟩
theorem VL.le{q:Pr}(h:VL E x q)(hl:Pr.le q p):VL E x p:=let ⟨r,h1,h2⟩:=h;⟨r,h1,Pr.le_trans h2 hl⟩
theorem VL.ev(hx:VL E x p)(he:C2 M w E o a)(hm:x∈o.op.operands.toList):p.h M w (a.eval x):=
 let ⟨_,h1,h2⟩:=hx;h2 _ _ _ (DT.En he hm h1)
theorem Af.val(h:∀M w (a:Act),C2 M w E o a->I.h M w->∃v w',(execOp a.eval o).run P w= .ok (.value v) w'/\p.h M w' v/\Below w.heap.size w w'):Af P I o E p:=by
 intro M w a he hI;obtain⟨v,w',h1,h2,h3⟩:=h M w a he hI;rw[h1];exact⟨h2,h3⟩
theorem Af.same(h:∀M w (a:Act),C2 M w E o a->I.h M w->∃v,(execOp a.eval o).run P w= .ok (.value v) w/\p.h M w v):Af P I o E p:=
 Af.val fun M w a he hI=>let ⟨v,h1,h2⟩:=h M w a he hI;⟨v,w,h1,h2,Below.refl _ _⟩
theorem Af.le{q:Pr}(h:Af P I o E q)(hl:Pr.le q p):Af P I o E p:=by
 intro M w a he hI;have:=h M w a he hI
 generalize (execOp a.eval o).run P w=r at this
 cases r with
 |halt x w'=>exact this
 |ok x w'=>
  cases x<;>first|exact this|skip
  case value v=>exact⟨hl _ _ _ this.1,this.2⟩
  case skip=>exact⟨hl _ _ _ this.1,this.2⟩
  case enter f args=>exact⟨this.1,this.2.mono fun e w'' ⟨v,h1,h2,h3⟩=>⟨v,h1,hl _ _ _ h2,h3⟩⟩
theorem BX(ho:o.op= .move x)(hx:VL E x p):Af P I o E p:=
 Af.same fun M w a he _=>⟨a.eval x,by simp[execOp,ho],hx.ev he Am⟩
theorem Ir(ho:o.op= .assign x)(hx:VL E x p):Af P I o E p:=
 Af.same fun M w a he _=>⟨a.eval x,by simp[execOp,ho],hx.ev he Am⟩
theorem OD{c y:Operand}{b:Bool}(ho:o.op= .pick c x y)(hc:VL E c (bool b))(hb:b=true)(hx:VL E x p):Af P I o E p:=
 Af.same fun M w a he _=>by
  have h1:a.eval c= .bool b:=hc.ev he Am;subst hb;exact⟨a.eval x,by simp[execOp,ho,h1,asBool],hx.ev he Am⟩
theorem OE{c y:Operand}{b:Bool}(ho:o.op= .pick c x y)(hc:VL E c (bool b))(hb:b=false)(hx:VL E y p):Af P I o E p:=
 Af.same fun M w a he _=>by
  have h1:a.eval c= .bool b:=hc.ev he Am;subst hb;exact⟨a.eval y,by simp[execOp,ho,h1,asBool],hx.ev he Am⟩
def WY(op:BinOp)(k:IntKind)(m n:Int):Option Value:=
 match op with
 | .add=>some (.int k (k.wrap (m+n)))
 | .sub=>some (.int k (k.wrap (m-n)))
 | .mul=>some (.int k (k.wrap (m*n)))
 | .eql=>some (.bool (m==n))
 | .neq=>some (.bool (m !=n))
 | .lss=>some (.bool (decide (m<n)))
 | .leq=>some (.bool (decide (m<=n)))
 | .gtr=>some (.bool (decide (m>n)))
 | .geq=>some (.bool (decide (m≥n)))
 |_=>none
theorem eo{op:BinOp}{k:IntKind}{m n:Int}{r:Value}(h:WY op k m n=some r)(t:TypeId)(x y:Operand)(w:World):
  (do eqGuard op t x y (.int k m) (.int k n);binOp op t (.int k m) (.int k n)).run P w= .ok r w:=by
 cases op<;>simp[WY]at h<;>subst h<;>simp[eqGuard,binOp,Op.intArith,Op.intCmp]
theorem ok_int{op:BinOp}{t u:TypeId}{y:Operand}{k:IntKind}{m n:Int}{r:Value}(ho:o.op= .binOp op t x y u)(hx:VL E x (is (.int k m)))(hy:VL E y (is (.int k n)))(hr:WY op k m n=some r):Af P I o E (is r):=
 Af.same fun M w a he _=>by
  have h1:a.eval x= .int k m:=hx.ev he Am;have h2:a.eval y= .int k n:=hy.ev he Am;refine⟨r,?_,rfl⟩;simp only[execOp,ho,h1,h2];rw[Sem.run_bind,eo hr];rfl
def Sb(z:Int):Prop:= -9223372036854775808<=z/\z<=9223372036854775807
theorem Gt{z:Int}(h:Sb z):IntKind.i64.wrap z=z:=IntWalk.i64_in z ⟨h.1,h.2⟩
theorem Hf{t u:TypeId}{y:Operand}{m n:Int}(ho:o.op= .binOp .add t x y u)(hx:VL E x (int m))(hy:VL E y (int n))(hr:Sb (m+n)):Af P I o E (int (m+n)):=by
 have:=ok_int (P:=P) (I:=I) ho hx hy rfl;rwa [Gt hr]at this
theorem Uq{t u:TypeId}{y:Operand}{m n:Int}(ho:o.op= .binOp .sub t x y u)(hx:VL E x (int m))(hy:VL E y (int n))(hr:Sb (m-n)):Af P I o E (int (m-n)):=by
 have:=ok_int (P:=P) (I:=I) ho hx hy rfl;rwa [Gt hr]at this
theorem wF{t u:TypeId}{y:Operand}{m n:Int}(ho:o.op= .binOp .mul t x y u)(hx:VL E x (int m))(hy:VL E y (int n))(hr:Sb (m*n)):Af P I o E (int (m*n)):=by
 have:=ok_int (P:=P) (I:=I) ho hx hy rfl;rwa [Gt hr]at this
theorem L6{t u:TypeId}{y:Operand}{k:IntKind}{m n:Int}(ho:o.op= .binOp .rem t x y u)(hx:VL E x (is (.int k m)))(hy:VL E y (is (.int k n)))(hn:n≠0):Af P I o E (is (.int k (m.tmod n))):=
 Af.same fun M w a he _=>by
  have h1:a.eval x= .int k m:=hx.ev he Am;have h2:a.eval y= .int k n:=hy.ev he Am;exact⟨_,by simp[execOp,ho,h1,h2,eqGuard,binOp,Op.intDiv,hn],rfl⟩
theorem N7{t u:TypeId}{y:Operand}{k:IntKind}{m n:Int}(ho:o.op= .binOp .quo t x y u)(hx:VL E x (is (.int k m)))(hy:VL E y (is (.int k n)))(hn:n≠0):Af P I o E (is (.int k (k.wrap (m.tdiv n)))):=
 Af.same fun M w a he _=>by
  have h1:a.eval x= .int k m:=hx.ev he Am;have h2:a.eval y= .int k n:=hy.ev he Am;exact⟨_,by simp[execOp,ho,h1,h2,eqGuard,binOp,Op.intDiv,hn],rfl⟩
theorem KG{t:TypeId}{b:Bool}(ho:o.op= .unOp .not t x)(hx:VL E x (bool b)):Af P I o E (bool (!b)):=
 Af.same fun M w a he _=>by
  have h1:a.eval x= .bool b:=hx.ev he Am;exact⟨_,by simp[execOp,ho,h1,Op.unary],rfl⟩
theorem Ur{y:Operand}{m n:Int}(ho:o.op= .call { callee:= .builtin .max,args:= #[x,y],argTypes:=ts })(hx:VL E x (int m))(hy:VL E y (int n)):Af P I o E (int (max m n)):=
 Af.same fun M w a he _=>by
  have h1:a.eval x= .int .i64 m:=hx.ev he CB;have h2:a.eval y= .int .i64 n:=hy.ev he CB;refine⟨.int .i64 (max m n),?_,rfl⟩;simp[execOp,ho,resolve,invoke,builtin,Builtin.max_,Builtin.max2,h1,h2];omega
theorem Yh{y:Operand}{m n:Int}(ho:o.op= .call { callee:= .builtin .min,args:= #[x,y],argTypes:=ts })(hx:VL E x (int m))(hy:VL E y (int n)):Af P I o E (int (min m n)):=
 Af.same fun M w a he _=>by
  have h1:a.eval x= .int .i64 m:=hx.ev he CB;have h2:a.eval y= .int .i64 n:=hy.ev he CB;refine⟨.int .i64 (min m n),?_,rfl⟩;simp[execOp,ho,resolve,invoke,builtin,Builtin.min_,Builtin.min2,h1,h2];omega
def EC(P:Program)(t:TypeId):Bool:=match P.underlying t with|some (.struct _)|some (.array _ _)=>false|some _=>true|none=>false
def FG(P:Program)(t:TypeId):Bool:=match P.underlying t with|some (.struct _)|some (.array _ _)=>true|_=>false
def Aw(P:Program)(t:TypeId):Option Nat:=(P.info? t).map (·.size)
theorem EZ{t:TypeId}(h:EC P t=true)(w:World):(isAgg t).run P w= .ok false w:=by
 unfold EC at h;cases hu:P.underlying t with
 |none=>rw[hu]at h;cases h
 |some d=>rw[hu]at h;cases d<;>first|(cases h;done)|simp[isAgg,run_underlying hu]
theorem FL{t:TypeId}(h:FG P t=true)(w:World):(isAgg t).run P w= .ok true w:=by
 unfold FG at h;cases hu:P.underlying t with
 |none=>rw[hu]at h;cases h
 |some d=>rw[hu]at h;cases d<;>first|(cases h;done)|simp[isAgg,run_underlying hu]
theorem Bz{t:TypeId}{n:Nat}(h:Aw P t=some n)(w:World):(Go.sizeOf t).run P w= .ok n w:=by
 unfold Aw at h;cases hi:P.info? t with
 |none=>rw[hi]at h;simp at h
 |some i=>rw[hi]at h;simp at h;simp[Go.sizeOf,typeInfo,hi,h]
theorem Row.list{M:Av}{w:World}{ad:Addr}{n:Nat}:∀{ps:List Pr},Row M w ad n ps->∃cs:List Value,HL M w ps cs/\(∀(j:Nat) v,cs[j]? =some v->w.cell? (ad.add (n+j))=some v)/\∀c∈cs,c.oneCell'=true
 |[],_=>⟨[],trivial,fun _ _ h=>by simp at h,fun _ h=>by simp at h⟩
 |p::ps,h=>by
  obtain⟨u,hc,_,hu1,hu⟩:=h 0 p rfl
  obtain⟨cs,h1,h2,h3⟩:=Row.list (n:=n+1) (ps:=ps) (M:=M) (w:=w) (ad:=ad) (fun j q hq=>by
   have:=h (j+1) q (by simpa using hq)
   rwa [show n+(j+1)=n+1+j by omega]at this)
  refine⟨u::cs,⟨hu,h1⟩,fun j v hv=>?_,fun c hc=>by rcases List.mem_cons.1 hc with rfl|hc;exact hu1;exact h3 c hc⟩;cases j with
  |zero=>simp at hv;subst hv;simpa using hc
  |succ j=>have:=h2 j v (by simpa using hv);rwa [show n+(j+1)=n+1+j by omega]
theorem Q8{t:TypeId}(ho:o.op= .load t x)(ht:EC P t=true)(hx:VL E x (ref (p::ps))):Af P I o E p:=
 Af.same fun M w a he _=>by
  obtain⟨ad,h1,h2⟩:=hx.ev he Am;obtain⟨u,hc,_,_,hu⟩:=h2 0 p rfl;refine⟨u,?_,hu⟩;have hc':w.cell? ad=some u:=by simpa[Addr.add]using hc
  simp[execOp,ho,h1,Instr.loadAt,Instr.sureAddr,loadVar,EZ ht,hc']
theorem AO{t:TypeId}(ho:o.op= .load t x)(ht:FG P t=true)(hz:Aw P t=some m)(hx:VL E x (ref ps))(hq:ps.take m=qs)(hm:qs.length=m):Af P I o E (agg qs):=
 Af.same fun M w a he _=>by
  obtain⟨ad,h1,h2⟩:=hx.ev he Am;have h3:Row M w ad 0 qs:=fun j p hp=>h2 j p (by rw[←hq,List.getElem?_take]at hp;split at hp;exact hp;cases hp);obtain⟨cs,h4,h5,h6⟩:=h3.list;have hl:cs.length=m:=by rw[h4.length,hm]
  refine⟨.agg cs.toArray,?_,cs,rfl,h6,h4⟩;have:=run_loadCells_list (P:=P) w ad cs (fun j v hv=>by simpa using h5 j v hv);rw[hl]at this;simp[execOp,ho,h1,Instr.loadAt,Instr.sureAddr,loadVar,FL ht,Bz hz,this]
theorem Row.drop{ad:Addr}(h:Row M w ad 0 ps):Row M w (ad.add k) 0 (ps.drop k):=by
 intro j p hp;rw[List.getElem?_drop]at hp;obtain⟨u,hc,hm,h1,hu⟩:=h (k+j) p hp;refine⟨u,by rw[add_add];simpa using hc,?_,h1,hu⟩;rw[Ga,K9]
 rwa [show ad.off+k+(0+j)=ad.off+(0+(k+j))by omega]
def Ah(P:Program)(s:TypeId)(f:Nat):Option Nat:=
 match P.underlying s with
 |some (.struct fs)=>match fs[f]? with
  |some fd=>match Aw P fd.type with
   |some (_+1)=>some fd.offset
   |_=>none
  |none=>none
 |_=>none
theorem KH{s:TypeId}{f:Nat}(h:Ah P s f=some k)(ad:Addr)(w:World):(Instr.fieldAt s (.pointer (some ad)) f).run P w= .ok (.pointer (some (ad.add k))) w:=by
 unfold Ah at h;cases hu:P.underlying s with
 |none=>rw[hu]at h;cases h
 |some d=>
  rw[hu]at h;cases d with
  |struct fs=>
   simp only at h;cases hf:fs[f]? with
   |none=>rw[hf]at h;cases h
   |some fd=>
    rw[hf]at h;simp only at h;cases hz:Aw P fd.type with
    |none=>rw[hz]at h;cases h
    |some m=>
     rw[hz]at h;cases m with
     |zero=>cases h
     |succ m=>
      simp only[Option.some.injEq]at h;subst h;simp[Instr.fieldAt,run_underlying hu,hf,Instr.sureAddr,fieldPlace,Bz hz]
  |_=>cases h
theorem M_{s:TypeId}{f:Nat}(ho:o.op= .fieldAddr s x f)(hk:Ah P s f=some k)(hx:VL E x (ref ps))(hq:ps.drop k=qs):Af P I o E (ref qs):=
 Af.same fun M w a he _=>by
  obtain⟨ad,h1,h2⟩:=hx.ev he Am;refine⟨.pointer (some (ad.add k)),?_,ad.add k,rfl,by rw[←hq];exact h2.drop⟩;simp[execOp,ho,h1,KH hk]
theorem Pa(ho:o.op= .nilCheck x)(hx:VL E x (ref ps)):Af P I o E (ref ps):=
 Af.same fun M w a he _=>by
  have h0:=hx.ev he Am;obtain⟨ad,h1,h2⟩:=h0;exact⟨.pointer (some ad),by simp[execOp,ho,h1],ad,rfl,h2⟩
theorem Q9{caps:List Pr}(ho:o.op= .nilCheck x)(hx:VL E x (fn (.func f) caps)):Af P I o E (fn (.func f) caps):=
 Af.same fun M w a he _=>by
  obtain⟨cs,h1,h2⟩:=hx.ev he Am;exact⟨_,by simp[execOp,ho,h1],cs,rfl,h2⟩
class One(p:Pr):Prop where
 one:∀M w v,p.h M w v->v.cells= #[v]/\v.oneCell'=true
instance ADw (k:IntKind)(n:Int):One (is (.int k n)):=⟨by rintro M w v rfl;exact⟨rfl,rfl⟩⟩
instance AA2 (b:Bool):One (is (.bool b)):=⟨by rintro M w v rfl;exact⟨rfl,rfl⟩⟩
instance ADx (s:ByteArray):One (is (.string s)):=⟨by rintro M w v rfl;exact⟨rfl,rfl⟩⟩
instance pZ (a:Option Addr):One (is (.pointer a)):=⟨by rintro M w v rfl;exact⟨rfl,rfl⟩⟩
instance ADy (a:Option Addr)(n c:Nat):One (is (.slice a n c)):=⟨by rintro M w v rfl;exact⟨rfl,rfl⟩⟩
instance z7 (sz:Nat)(rows:List (List Pr)):One (slice sz rows):=⟨by rintro M w v ⟨a,c,rfl,_⟩;exact⟨rfl,rfl⟩⟩
instance AA3 (sz:Nat)(rows:List (List Pr)):One (full sz rows):=⟨by rintro M w v ⟨_,a,rfl⟩;exact⟨rfl,rfl⟩⟩
instance pg (ps:List Pr):One (ref ps):=⟨by rintro M w v ⟨a,rfl,_⟩;exact⟨rfl,rfl⟩⟩
instance AFF (f:Fn)(ps:List Pr):One (fn f ps):=⟨by rintro M w v ⟨a,rfl,_⟩;exact⟨rfl,rfl⟩⟩
instance ADz (f:FuncId)(p:Pr):One (fnB f p):=⟨by rintro M w v ⟨a,rfl,_⟩;exact⟨rfl,rfl⟩⟩
instance AD0 {α:Type}(dom:α->List Pr)(res:α->Pr):One (S7 P dom res):=⟨by rintro M w v ⟨f,d,c,rfl,_⟩;exact⟨rfl,rfl⟩⟩
instance AA4 (φ:Prop)(p:Pr)[One p]:One (fact φ p):=⟨fun M w v h=>One.one M w v h.2⟩
instance AFG {α:Type}(p:α->Pr)[∀x,One (p x)]:One (ex p):=⟨fun M w v ⟨x,h⟩=>One.one (p:=p x) M w v h⟩
def D7(ps:List Pr):Pr where
 h M w v:=HL M w ps v.cells.toList/\∀c∈v.cells.toList,c.oneCell'=true
 st _M _w _M' _w' _v he h:=⟨HL.st he h.1,h.2⟩
theorem AV(p:Pr)[One p]:Pr.le p (D7 [p]):=by
 intro M w v hv;obtain⟨h1,h2⟩:=One.one (p:=p) M w v hv;show HL M w [p] v.cells.toList/\_;rw[h1];exact⟨⟨hv,trivial⟩,by simpa using h2⟩
theorem AJ(ps:List Pr):Pr.le (agg ps) (D7 ps):=by
 rintro M w v ⟨cs,rfl,h0,h⟩;simpa[D7,Value.cells]using⟨h,h0⟩
theorem Q_{cs:Array Value}{t:TypeId}(j:Nat):(w.alloc (.cells cs t)).cell? ⟨w.heap.size,j,none⟩=cs[j]? :=by simp_all
theorem pq{cs:List Value}{t:TypeId}(hb:Bd M w)(h:HL M w ps cs)(h1:∀c∈cs,c.oneCell'=true):Row M (w.alloc (.cells cs.toArray t)) ⟨w.heap.size,0,none⟩ 0 ps:=by
 intro j p hp;obtain⟨v,hv,hh⟩:=h.at_ j p hp;refine⟨v,?_,?_,h1 v (List.mem_of_getElem? hv),p.st _ _ _ _ _ (Ext.below ((Below.refl _ _).alloc (Nat.le_refl _) _)) hh⟩
 .
  rw[show Addr.add ⟨w.heap.size,0,none⟩ (0+j)=⟨w.heap.size,j,none⟩by unfold Addr.add;split<;>simp_all];rw[Q_];simp[hv]
 .intro hm;have:=hb _ _ hm;simp at this
theorem BE{t:TypeId}(ho:o.op= .box t x)(hx:VL E x (D7 ps)):Af P I o E (ref ps):=
 Af.val fun M w a he hI=>by
  obtain⟨h1,h2⟩:=hx.ev he Am;refine⟨.pointer (some ⟨w.heap.size,0,none⟩),w.alloc (.cells (a.eval x).cells t),?_,⟨_,rfl,?_⟩,(Below.refl _ _).alloc (Nat.le_refl _) _⟩
  .simp[execOp,ho,Instr.box,newVar,newRow]
  .simpa using pq (t:=t) (I.bd _ _ hI) h1 h2
theorem FM(xs:Array Operand)(g:Operand->Value):xs.map g=(xs.toList.map g).toArray:=by cases xs;simp
theorem BJ{t:TypeId}{e:TypeId}{sz:Nat}(ho:o.op= .call { callee:= .builtin .len,args:= #[x],argTypes:= #[t] })(ht:P.underlying t=some (.slice e))(hx:VL E x (slice sz rows)):
  Af P I o E (int rows.length):=
 Af.same fun M w a he _=>by
  obtain⟨ad,cap,h1,h2,h3,_⟩:=hx.ev he CB;exact⟨.int .i64 rows.length,by simp[execOp,ho,resolve,invoke,builtin,Builtin.len_,h1,run_underlying ht,goInt],rfl⟩
theorem Gu{t:TypeId}{e:TypeId}{sz:Nat}{β:Type}{f:β->List Pr}{l:List β}(ho:o.op= .call { callee:= .builtin .len,args:= #[x],argTypes:= #[t] })(ht:P.underlying t=some (.slice e))(hx:VL E x (slice sz (l.map f))):
  Af P I o E (int l.length):=by have:=BJ (P:=P) (I:=I) ho ht hx;rwa [List.length_map]at this
theorem AD{t e:TypeId}{y:Operand}{k:IntKind}{i:Int}{sz:Nat}{row:List Pr}(ho:o.op= .indexAddr t x y)(ht:P.underlying t=some (.slice e))(hz:Aw P e=some sz)(hx:VL E x (slice sz rows))(hy:VL E y (is (.int k i)))(h0:0<=i)(hr:rows[i.toNat]? =some row):Af P I o E (ref row):=
 Af.same fun M w a he _=>by
  obtain⟨ad,cap,h1,h2,h3,_,h4⟩:=hx.ev he Am;have h5:a.eval y= .int k i:=hy.ev he Am;obtain⟨_,b,rfl,h6⟩:=h4 _ _ hr;have hlt:i.toNat<rows.length:=by rcases Nat.lt_or_ge i.toNat rows.length with h|h;exact h;rw[List.getElem?_eq_none h]at hr;cases hr
  refine⟨.pointer (some (b.add (i.toNat*sz))),?_,_,rfl,?_⟩
  .simp[execOp,ho,h1,h5,Instr.indexAt,asIntOf,run_underlying ht,Bz hz,h0,show i<(rows.length:Int)by omega]
  .
   intro j p hp;obtain⟨u,hc,hm,h1,hu⟩:=h6 j p hp;exact⟨u,by rw[add_add];simpa using hc,by rw[Ga,K9];simpa[Nat.add_assoc]using hm,h1,hu⟩
def S8(E:Env):List Operand->Option (List Pr)
 |[]=>some []
 |x::xs=>match DT E x,S8 E xs with
  |some p,some ps=>some (p::ps)
  |_,_=>none
theorem RA:∀{xs:List Operand} {ps:List Pr},S8 E xs=some ps->Fx E xs ps
 |[],ps,h=>by simp[S8]at h;subst h;trivial
 |x::xs,ps,h=>by
  unfold S8 at h;cases hx:DT E x with
  |none=>rw[hx]at h;simp at h
  |some p=>
   cases hy:S8 E xs with
   |none=>rw[hx,hy]at h;simp at h
   |some qs=>rw[hx,hy]at h;simp at h;subst h;exact⟨⟨p,hx,Pr.le_refl p⟩,RA hy⟩
theorem Fp{f:Fn}{caps:Array Operand}(ho:o.op= .makeFunc f #[] caps)(hc':S8 E caps.toList=some ps):Af P I o E (fn f ps):=
 Af.same fun M w a he _=>by
  have hc:=RA hc';have h1:=Fx.En (o:=o) he (xs:=caps.toList) (fun x hx=>by simpa[ho,Op.operands]using hx) hc;exact⟨.func f #[] (caps.toList.map a.eval).toArray,by simp[execOp,ho,Instr.makeFunc,FM caps],_,rfl,h1⟩
theorem Yi(ho:o.op= .extract x k)(hx:VL E x (EB ps))(hp:ps[k]? =some p):Af P I o E p:=
 Af.same fun M w a he _=>by
  obtain⟨cs,h1,h2⟩:=hx.ev he Am;obtain⟨v,hv,hh⟩:=h2.at_ k p hp;exact⟨v,by simp[execOp,ho,h1,Instr.extract,hv],hh⟩
theorem RB(ho:o.op= .makeFunc (.func f) #[x] #[])(hx:VL E x p):Af P I o E (fnB f p):=
 Af.same fun M w a he _=>⟨.func (.func f) #[a.eval x] #[],by simp[execOp,ho,Instr.makeFunc],_,rfl,hx.ev he Am⟩
theorem Cz(h:Entry P f)(args:Array Value)(w:World):(callFunc f args).run P w= .ok (.enter f args) w:=by
 obtain⟨g,h1,h2,h3⟩:=h
 have h2' : g.name ≠ "runtime.NumGoroutine" := by simpa using h2
 have h3':¬g.body=none:=by intro hh;rw[hh]at h3;cases h3
 simp[callFunc,h1,h2',h3']
theorem Aa{res:Pr}(ho:o.op= .call { callee:= .value (.func f),args:=xs,argTypes:=ts })(hf:Aq P f ps res)(hv:Fx E xs.toList ps):Af P I o E res:=by
 intro M w a he hI;have h1:=Fx.En (o:=o) he (xs:=xs.toList) (fun x hx=>by simp[ho,Op.operands,Call.operands];exact .inr F_) hv
 have hrun:(execOp a.eval o).run P w= .ok (.enter f (xs.toList.map a.eval).toArray) w:=by
  simp[execOp,ho,resolve,Deferred.ofValue,Act.eval,invoke,Cz hf.1,FM xs]
 rw[hrun];exact⟨Below.refl _ _,hf.2 M w _ (I.bd _ _ hI) h1⟩
theorem GC{α:Type}{dom:α->List Pr}{res:α->Pr}(x:α){f:Operand}(ho:o.op= .call { callee:= .value f,args:=xs,argTypes:=ts })(hf:VL E f (S7 P dom res))(hv:Fx E xs.toList (dom x)):Af P I o E (res x):=by
 intro M w a he hI;have h1:=Fx.En (o:=o) he (xs:=xs.toList) (fun x hx=>by simp[ho,Op.operands,Call.operands];exact .inr F_) hv;obtain⟨g,fs,caps,h2,h3,h4⟩:=hf.ev he CB
 have hrun:(execOp a.eval o).run P w= .ok (.enter g (fs++(xs.toList.map a.eval).toArray++caps)) w:=by
  simp[execOp,ho,resolve,Deferred.ofValue,h2,invoke,Cz h3,FM xs]
 rw[hrun];exact⟨Below.refl _ _,h4 M w (Ext.refl _ _) (I.bd _ _ hI) x _ h1⟩
end
section
variable{P:Program}{L:Lg P}{n:Fm}{fz:Nat}{E:Env}{I:Cj}{Q:Exit->Act->World->Prop}
theorem Ch.cases{l:List Oper}{K:Env->Prop}(g:Nat){b:Bool}(_hb:E.lookup g=some (bool b))(ht:b=true->Ch P n I ops l E K)(hf:b=false->Ch P n I ops l E K):Ch P n I ops l E K:=by
 cases b
 .exact hf rfl
 .exact ht rfl
theorem EH{b:Bool}(h:b=false):b≠true:=by rw[h];decide
theorem WZ{b:Bool}(h:b=true):b≠false:=by rw[h];decide
def Wa:List Nat->Env->Env
 |[],_=>[]
 |s::r,E=>match E.lookup s with
  |some p=>(s,p)::Wa r E
  |none=>Wa r E
theorem NA:∀{A B:Env},C6 E A->C6 E B->C6 E (A++B)
 |[],_,_,h=>h
 |(_,_)::_,_,h,k=>⟨h.1,NA h.2 k⟩
theorem Tr.Sf(ks:List Nat)(F:Env)(φ:Prop){x y:Code}(h:Tr L n E I x (Exit.then (fun a w=>∃_:Unit,φ/\St n (F++Wa ks E) I a w) Q))(k:φ->Tr L n (F++Wa ks E) I y Q):Tr L n E I (.seq x y) Q:=
 Tr.AFD (F++Wa ks E) φ h k
theorem Tr.BV{α:Type}(K:Env)(hK:C6 E K)(F:α->Env)(C:α->Prop)(μ:α->Nat){c:Code}(x0:α)(h0:C x0)(hs:C6 E (F x0))
  (round:∀x,C x->Tr L n (F x++K) I c (Exit.then (fun a w=>∃y,(C y/\μ y<μ x)/\St n (F y++K) I a w) Q)):Tr L n E I (.loop c) Q:=
 Tr.AA1 (fun x=>F x++K) C μ x0 h0 (NA hs hK) round
theorem Tr.O_{α:Type}(K:Env)(hK:C6 E K)(F:α->Env)(Ii:α->Cj)(C:α->Prop)(μ:α->Nat){c:Code}(x0:α)(h0:C x0)(hs:C6 E (F x0))(hI:∀M w,I.h M w->(Ii x0).h M w)
  (round:∀x,C x->Tr L n (F x++K) (Ii x) c (Exit.then (fun a w=>∃y,(C y/\μ y<μ x)/\St n (F y++K) (Ii y) a w) Q)):Tr L n E I (.loop c) Q:=
 Tr.loop (fun x=>F x++K) Ii C μ x0 h0 (NA hs hK) hI round
theorem ji{sz:Nat}(h:(slice sz rows).h M w v):rows.length<=9223372036854775807:=by
 obtain⟨a,cap,_,h1,h2,_⟩:=h;unfold maxLen at h2;omega
theorem Tr.Dr(s:Nat){sz:Nat}{β:Type}{f:β->List Pr}{l:List β}{c:Code}(hs:E.lookup s=some (slice sz (l.map f)))(h:l.length<=9223372036854775807->Tr L n E I c Q):Tr L n E I c Q:=by
 intro a w hst;have:=hst;obtain⟨M,_,_,he,_⟩:=this;have h1:=ji (he s _ hs);rw[List.length_map]at h1;exact h h1 a w hst
theorem Tr.Wb(s j:Nat){sz:Nat}{β:Type}{f:β->List Pr}{l:List β}{c:Code}(hs:E.lookup s=some (agg ps))(hj:ps[j]? =some (slice sz (l.map f)))(h:l.length<=9223372036854775807->Tr L n E I c Q):Tr L n E I c Q:=by
 intro a w hst;have:=hst;obtain⟨M,_,_,he,_⟩:=this;obtain⟨cs,_,_,h2⟩:=he s _ hs;obtain⟨v,_,h3⟩:=h2.at_ j _ hj;have h1:=ji h3;rw[List.length_map]at h1;exact h h1 a w hst
theorem Tr.fact(s:Nat){φ:Prop}{c:Code}(hs:E.lookup s=some (Cp.fact φ p))(h:φ->Tr L n ((s,p)::E) I c Q):Tr L n E I c Q:=by
 intro a w hst;obtain⟨M,h1,h2,he,h4⟩:=hst;obtain⟨h5,h6⟩:=he s _ hs;refine h h5 a w ⟨M,h1,h2,?_,h4⟩;intro t q hq;simp only[List.lookup]at hq
 by_cases ht:t=s
 .subst ht;simp at hq;subst hq;exact h6
 .exact N_
theorem Tr.ex(s:Nat){α:Type}{p:α->Pr}{c:Code}(hs:E.lookup s=some (Cp.ex p))(h:∀x,Tr L n ((s,p x)::E) I c Q):Tr L n E I c Q:=by
 intro a w hst;obtain⟨M,h1,h2,he,h4⟩:=hst;obtain⟨x,h6⟩:=he s _ hs;refine h x a w ⟨M,h1,h2,?_,h4⟩;intro t q hq;simp only[List.lookup]at hq
 by_cases ht:t=s
 .subst ht;simp at hq;subst hq;exact h6
 .exact N_
theorem at_{β:Type}{l:List β}(h:k<l.length):∃x,l[k]? =some x:=⟨l[k],List.getElem?_eq_getElem h⟩
theorem Ap{β:Type}{f:β->List Pr}{l:List β}{x:β}(h:l[k]? =some x):(l.map f)[((k:Nat):Int).toNat]? =some (f x):=by
 rw[Int.toNat_natCast,List.getElem?_map,h];rfl
theorem CS{β:Type}{f:β->List Pr}{l:List β}{i:Int}{x:β}(h:l[i.toNat]? =some x):(l.map f)[i.toNat]? =some (f x):=by
 rw[List.getElem?_map,h];rfl
theorem jj{β:Type}{f:β->List Pr}{l:List β}{x:β}(hk:0<k)(h:l[k-1]? =some x):(l.map f)[((k:Nat)-1:Int).toNat]? =some (f x):=by simp_all
theorem AQ{a b:Nat}(h:decide ((a:Int)<(b:Int))=true):a<b:=by simpa using h
theorem AU{a b:Nat}(h:decide ((a:Int)<(b:Int))=false):b<=a:=by simp at h;omega
theorem AK(k:Nat):Pr.le (int ((k:Int)+1)) (int ((k+1:Nat):Int)):=int_eq AA
end
section
variable{P:Program}{L:Lg P}{n:Fm}{fz:Nat}{E:Env}{I:Cj}{Q:Exit->Act->World->Prop}{ops:Array Oper}{o:Oper}{r l:List Oper}
def TO(P:Program)(n:Fm)(ops:Array Oper)(l:List Oper)(E:Env)(I:Cj)(Q:Exit->Act->World->Prop):Prop:=
 ∀k,(∀j,l[j]? =ops[k+j]?)->∀a w,St n E I a w->wpS P ops Q (List.range' k l.length) a w
theorem Tr.At(h : TO P n l.toArray l E I Q)(hc : calm l = true := by with_unfolding_all rfl) : Tr L n E I (.region id l.toArray false) Q :=
 fun a w hs=>L.region hc (h 0 Ai a w hs)
theorem TO.nil(h:Fin n E I Q .normal):TO P n ops [] E I Q:=fun _ _ a w hs=>h a w hs
theorem TO.ch(h:Ch P n I ops l E (fun E'=>Fin n E' I Q .normal)):TO P n ops l E I Q:=fun k hl a w hs=>OB l k E hl h a w hs
theorem TO.conv{E':Env}{I':Cj}(h:∀a w,St n E I a w->St n E' I' a w)(k:TO P n ops l E' I' Q):TO P n ops l E I Q:=fun m hl a w hs=>k m hl a w (h a w hs)
theorem Tr.conv{E':Env}{I':Cj}{c:Code}(h:∀a w,St n E I a w->St n E' I' a w)(k:Tr L n E' I' c Q):Tr L n E I c Q:=fun a w hs=>k a w (h a w hs)
theorem Fin.conv{E':Env}{I':Cj}{e:Exit}(h:∀a w,St n E I a w->St n E' I' a w)(k:Fin n E' I' Q e):Fin n E I Q e:=fun a w hs=>k a w (h a w hs)
theorem TO.bT(hg:o.guard=none)(h:∀(K:Act->World->Prop) M w (a:Act),a.tmps.size=n.sz->a.defers=n.df->Fo M w E a->I.h M w->
  (∀E' I' a' w',TO P n ops r E' I' Q->St n E' I' a' w'->K a' w')->o.wp P a w K Q):TO P n ops (o::r) E I Q:=by
 intro k hl a w hs;have h0:ops[k]? =some o:=by simpa using(hl 0).symm
 obtain⟨M,hn,hd,he,hI⟩:=hs;simp only[List.length_cons,List.range'_succ,wpS,h0];rw[if_pos (G4 hg)];exact(h _ M w a hn hd he hI fun E' I' a' w' hT hst=>hT (k+1) (fun j=>by have:=hl (j+1);simpa[Nat.add_assoc,Nat.add_comm 1 j]using this) a' w' hst)
theorem TO.op(hg:o.guard=none)(hd:o.dst=some d)(hn:d<n)(h:Af P I o E p)(k:TO P n ops r ((d,p)::E) I Q):TO P n ops (o::r) E I Q:=
 TO.bT hg fun K M w a h1 h2 h3 h4 hK=>by
  refine He (h M w a (Cq h3) h4) fun v w' hv hb=>hK _ _ _ _ k ⟨M,?_,?_,?_,I.st _ _ _ hb h4⟩
  .rw[CC];exact h1
  .rw[put_defers];exact h2
  .
   have:=h3.put (o:=o) (p:=p) hb hv (fun d' hd'=>by rw[hd]at hd';cases hd';rw[h1];exact hn);unfold upd at this;rw[hd]at this;rw[hd];exact this
theorem TO.val{K:Act->World->Prop}{w':World}(hrun:(execOp a.eval o).run P w= .ok (.value v) w')(h:K (a.put o.dst v) w'):o.wp P a w K Q:=by
 unfold Oper.wp;rw[hrun];exact h
theorem TO.skp{K:Act->World->Prop}{w':World}(hrun:(execOp a.eval o).run P w= .ok .skip w')(h:K (a.put o.dst undef) w'):o.wp P a w K Q:=by
 unfold Oper.wp;rw[hrun];exact h
def AE(new:Bool)(b:Nat)(T:TypeId)(ps:List Pr):Ay where
 blk:=some b
 new:=new
 h M w:=(∀o,M b o)/\∃cs:List Value,w.heap[b]? =some (.cells cs.toArray T (0,0))/\HL M w ps cs/\∀c∈cs,c.oneCell'=true
 st M w M' w' he hk h:=by
  obtain⟨h1,h2⟩:=hk b rfl;obtain⟨h3,cs,h4,h5,h6⟩:=h;exact⟨fun o=>h2 o (h3 o),cs,h1.trans h4,h5.st he,h6⟩
variable{M0:Av}{w0:World}{S:Nat->Prop}{rs:List Ay}
def BZ(P:Program)(t:TypeId):Option (List Value):=match P.info? t with|some i=>i.zero.map (·.cells.toList)|none=>none
theorem Wc{t:TypeId}(h:BZ P t=some zs)(w:World):∃z:Value,(zeroValue t).run P w= .ok z w/\z.cells.toList=zs:=by
 unfold BZ at h;cases hi:P.info? t with
 |none=>rw[hi]at h;cases h
 |some i=>
  rw[hi]at h;simp only[Option.map_eq_some_iff]at h;obtain⟨z,hz,h⟩:=h;exact⟨z,by simp[zeroValue,typeInfo,hi,hz],h⟩
theorem NB(M:Av)(w:World):∀(zs:List Value),HL M w (zs.map is) zs
 |[]=>trivial
 |_::r=>⟨rfl,NB M w r⟩
theorem BD.add{cs:List Value}(h:BD M0 w0 S rs M w)(hc:HL M w ps cs)(h1:∀c∈cs,c.oneCell'=true):
  BD M0 w0 S (AE true w.heap.size T ps::rs) (fun b o=>M b o\/b=w.heap.size) (w.alloc (.cells cs.toArray T))/\
  Ext M w (fun b o=>M b o\/b=w.heap.size) (w.alloc (.cells cs.toArray T)):=by
 have hb:Below w.heap.size w (w.alloc (.cells cs.toArray T)):=(Below.refl _ _).alloc (Nat.le_refl _) _;have hsz:(w.alloc (.cells cs.toArray T)).heap.size=w.heap.size+1:=by simp
 have he:Ext M w (fun b o=>M b o\/b=w.heap.size) (w.alloc (.cells cs.toArray T)):=by
  have h2:=Ext.below (M:=M) hb;refine⟨h2.size,fun a v hc hm=>⟨fun hx=>?_,(h2.keep a v hc hm).2⟩,fun b o ho hp hm=>⟨fun hx=>?_,(h2.obj b o ho hp hm).2⟩⟩
  .
   rcases hx with hx|hx
   .exact DL
   .exact El
  .grind
 have hI:=(Hp M0 w0 S rs).st _ _ _ hb h;refine⟨⟨hI.m0,fun b o hm=> .inl (hI.m b o hm),hI.os,hI.tape,hI.output,hI.size,hI.block,fun b o hm=>?_,fun r hr=>?_,?_⟩,he⟩
 .
  rcases hm with hm|hm
  .exact hI.bd b o hm
  .omega
 .
  rcases List.mem_cons.1 hr with rfl|hr
  .
   refine⟨⟨fun o=> .inr rfl,cs,heap_alloc_new w _,hc.st he,h1⟩,fun b hbk=>?_⟩;simp only[AE,Option.some.injEq]at hbk;subst hbk;exact⟨by omega,by simp[AE];exact h.size⟩
  .
   obtain⟨h3,h4⟩:=h.hold r hr;exact⟨r.st _ _ _ _ he (fun b hbk=>⟨hb.block b (h4 b hbk).1,fun _ x=> .inl x⟩) h3,fun b hbk=>⟨by have:=(h4 b hbk).1;omega,(h4 b hbk).2⟩⟩
 .
  refine List.Pairwise.cons (fun r hr b hbk Ef=>?_) h.nd;simp only[AE,Option.some.injEq]at hbk;have:=((h.hold r hr).2 b Ef).1;omega
theorem TO.alloc(hg:o.guard=none)(hd:o.dst=some d)(hn:d<n)(ho:o.op= .alloc T)(hz:BZ P T=some zs)(h1':zs.all (·.oneCell')=true)(k:∀b,TO P n ops r ((d,is (.pointer (some ⟨b,0,none⟩)))::E) (Hp M0 w0 S (AE true b T (zs.map is)::rs)) Q):TO P n ops (o::r) E (Hp M0 w0 S rs) Q:=
 TO.bT hg fun K M w a hsz hdf he hI hK=>by
  have h1:∀c∈zs,c.oneCell'=true:=fun c hc=>List.all_eq_true.1 h1' c hc;obtain⟨z,JG,Wd⟩:=Wc hz w;refine TO.val (v:= .pointer (some ⟨w.heap.size,0,none⟩)) (w':=w.alloc (.cells zs.toArray T)) ?_ ?_
  .simp[execOp,ho,Instr.alloc,JG,newVar,newRow,←Wd]
  .
   obtain⟨h2,h3⟩:=BD.add (T:=T) hI (NB M w zs) h1;refine hK _ _ _ _ (k w.heap.size) ⟨_,by rw[CC];exact hsz,by rw[put_defers];exact hdf,?_,h2⟩;intro s p hp;simp only[List.lookup]at hp
   by_cases hs:s=d
   .exact UR
   .
    rw[show(s==d)=false by simpa using hs]at hp;rw[hd,Ba hs];exact p.st _ _ _ _ _ h3 (he s p hp)
theorem BD.write{b:Nat}{cs:List Value}(h:BD M0 w0 S rs M w)(hi:rs[i]? =some (AE new b T ps))(hc:HL M w qs cs)(h1:∀c∈cs,c.oneCell'=true):
  BD M0 w0 S (rs.set i (AE new b T qs)) M (w.setRow b cs.toArray)/\Ext M w M (w.setRow b cs.toArray):=by
 have FC:i<rs.length:=by grind
 obtain⟨⟨hm,cs0,hh,_,_⟩,pJ⟩:=h.hold _ (List.mem_of_getElem? hi);obtain⟨hlt,hnew⟩:=pJ b rfl
 have he:Ext M w M (w.setRow b cs.toArray):=by
  refine⟨by simp,fun a v hc hma=>⟨hma,?_⟩,fun k o' ho hp hmk=>⟨hmk,?_⟩⟩
  .rw[cell_setRow_other _ _ _ _ (fun hb=>hma (by rw[hb];exact hm _))];exact hc
  .
   by_cases hkb:k=b
   .grind
   .rw[setRow_other _ _ _ _ hkb];exact ho
 refine⟨⟨h.m0,h.m,h.os,h.tape,h.output,by simpa using h.size,fun k hk hs=>?_,fun b' o' hm'=>by simpa using h.bd b' o' hm',fun r hr=>?_,?_⟩,he⟩
 .
  by_cases hkb:k=b
  .grind
  .rw[setRow_other _ _ _ _ hkb];exact h.block k hk hs
 .
  obtain⟨j,hj,rfl⟩:=List.mem_iff_getElem.1 hr;rw[List.getElem_set]
  split
  .
   refine⟨⟨hm,cs,setRow_heap w b _ _ T _ hh,hc.st he,h1⟩,fun b' hb'=>?_⟩;simp only[AE,Option.some.injEq]at hb';subst hb';exact⟨by simpa using hlt,hnew⟩
  .
   rename_i hne
   have hjl:j<rs.length:=by simpa using hj
   have hjm:rs[j]∈rs:=List.getElem_mem hjl;obtain⟨h3,h4⟩:=h.hold _ hjm
   have hd:∀b',(rs[j]).blk=some b'->b'≠b:=by
    intro b' hb' e;subst e
    have hib:(rs[i]).blk=some b':=by
     have:rs[i]=AE new b' T ps:=by grind
     rw[this];rfl
    rcases Nat.lt_or_gt_of_ne hne with hlt'|hlt'
    .exact List.pairwise_iff_getElem.1 h.nd i j FC hjl hlt' b' hib hb'
    .exact List.pairwise_iff_getElem.1 h.nd j i hjl FC hlt' b' hb' hib
   exact⟨(rs[j]).st _ _ _ _ he (fun b' hb'=>⟨setRow_other _ _ _ _ (hd b' hb'),fun _ x=>x⟩) h3,fun b' hb'=>by simpa using h4 b' hb'⟩
 .
  have hb : ∀ j (hj : j < rs.length), ((rs.set i (AE new b T qs))[j]'(by simpa using hj)).blk = (rs[j]).blk := by
   intro j hj;rw[List.getElem_set]
   split
   .
    rename_i e
    subst e;rw[List.getElem?_eq_getElem FC]at hi;simp only[Option.some.injEq]at hi;rw[hi];rfl
   .rfl
  rw[List.pairwise_iff_getElem];intro j k hj hk hjk b' N0 bU;rw[hb j F9]at N0;rw[hb k (by simpa using hk)]at bU;exact List.pairwise_iff_getElem.1 h.nd j k F9 (by simpa using hk) hjk b' N0 bU
theorem HL.take{M:Av}{w:World}:∀{ps:List Pr} {vs:List Value} (k:Nat),HL M w ps vs->HL M w (ps.take k) (vs.take k)
 |_,_,0,_=>trivial
 |[],[],_+1,_=>trivial
 |[],_::_,_+1,h=>h.elim
 |_::_,[],_+1,h=>h.elim
 |_::_,_::_,k+1,h=>⟨h.1,HL.take k h.2⟩
theorem HL.drop{M:Av}{w:World}:∀{ps:List Pr} {vs:List Value} (k:Nat),HL M w ps vs->HL M w (ps.drop k) (vs.drop k)
 |_,_,0,h=>h
 |[],[],_+1,_=>trivial
 |[],_::_,_+1,h=>h.elim
 |_::_,[],_+1,h=>h.elim
 |_::_,_::_,k+1,h=>HL.drop k h.2
theorem TO.store{t:TypeId}{y:Operand}{b off:Nat}(i:Nat)(hg:o.guard=none)(hd:o.dst=none)(ho:o.op= .store t x y)(hx:VL E x (is (.pointer (some ⟨b,off,none⟩))))(hy:VL E y (D7 qs))(hi:rs[i]? =some (AE new b T ps))(hz:Aw P t=some m)(hm:qs.length=m)(hl:off+m<=ps.length)(k:TO P n ops r E (Hp M0 w0 S (rs.set i (AE new b T (ps.take off++qs++ps.drop (off+m))))) Q):TO P n ops (o::r) E (Hp M0 w0 S rs) Q:=
 TO.bT hg fun K M w a hsz hdf he hI hK=>by
  have h1:a.eval x= .pointer (some ⟨b,off,none⟩):=hx.ev (o:=o) (Cq he) Am;obtain⟨h2,h3⟩:=hy.ev (o:=o) (Cq he) (show y∈o.op.operands.toList by simp[ho,Op.operands]);obtain⟨⟨_,cs,h4,h5,h6⟩,_⟩:=BD.hold hI _ (List.mem_of_getElem? hi);have pK:=h5.length;have h2l:=h2.length;have hcells:(a.eval y).cells.size=m:=by rw[←hm,←h2l];simp
  have hrun:(storeCells ⟨b,off,none⟩ (a.eval y).cells.toList 0).run P w= .ok () (w.setRow b (cs.take off++(a.eval y).cells.toList++cs.drop (off+m)).toArray):=by
   have:=run_storeCells_at (P:=P) b off T (a.eval y).cells.toList 0 cs.toArray w h4 Ci h3
   simpa[hcells]using this
  refine TO.skp (w':=w.setRow b (cs.take off++(a.eval y).cells.toList++cs.drop (off+m)).toArray) ?_ ?_
  .simp[execOp,ho,h1,Instr.storeAt,Instr.sureAddr,storeVar,Bz hz,hcells,hrun]
  .
   obtain⟨h7, h8⟩ := BD.write (qs := ps.take off ++ qs ++ ps.drop (off + m)) (cs := cs.take off ++ (a.eval y).cells.toList ++ cs.drop (off + m)) hI hi ((((h5.take off).app h2)).app (h5.drop (off + m)))
    (fun c hc=>by
     simp only[List.mem_append]at hc;rcases hc with(hc|hc)|hc
     .exact Mx
     .exact h3 c hc
     .exact h6 c (List.mem_of_mem_drop hc))
   refine hK _ _ _ _ k ⟨M,by rw[CC];exact hsz,by rw[put_defers];exact hdf,?_,h7⟩;intro s p hp;rw[hd];exact p.st _ _ _ _ _ h8 (he s p hp)
theorem TO.Ac{t:TypeId}{y:Operand}{b:Nat}(i:Nat)(hg:o.guard=none)(hd:o.dst=none)(ho:o.op= .store t x y)(hx:VL E x (is (.pointer (some ⟨b,0,none⟩))))(hy:VL E y (D7 qs))(hi:rs[i]? =some (AE new b T ps))(hz:Aw P t=some m)(hm:qs.length=m)(hl:ps.length=m)(k:TO P n ops r E (Hp M0 w0 S (rs.set i (AE new b T qs))) Q):TO P n ops (o::r) E (Hp M0 w0 S rs) Q:=by grind [TO.store]
theorem St.freeze{b:Nat}(i s:Nat)(hi:rs[i]? =some (AE true b T ps))(hs:E.lookup s=some (is (.pointer (some ⟨b,0,none⟩))))(h:St n E (Hp M0 w0 S rs) a w):St n ((s,ref ps)::E) (Hp M0 w0 S (rs.eraseIdx i)) a w:=by
 obtain⟨M,h1,h2,h3,h4⟩:=h;have h4:BD M0 w0 S rs M w:=h4;have FC:i<rs.length:=by grind
 have hig:rs[i]=AE true b T ps:=by grind
 obtain⟨⟨hm,cs,hh,hc,hone⟩,pJ⟩:=h4.hold _ (List.mem_of_getElem? hi);obtain⟨hlt,hnew⟩:=pJ b rfl;have hnew:w0.heap.size<=b:=by simpa[AE]using hnew
 have he:Ext M w (fun b' o=>M b' o/\b'≠b) w:=Ext.less fun _ _ h=>h.1
 have hd:∀j (hj:j<rs.length),j≠i->∀b',(rs[j]).blk=some b'->b'≠b:=by
  intro j hj hne b' hb' e;subst e;rcases Nat.lt_or_gt_of_ne hne with hlt'|hlt'
  .exact List.pairwise_iff_getElem.1 h4.nd j i hj FC hlt' b' hb' (by rw[hig];rfl)
  .exact List.pairwise_iff_getElem.1 h4.nd i j FC hj hlt' b' (by rw[hig];rfl) hb'
 refine⟨fun b' o=>M b' o/\b'≠b,h1,h2,?_,⟨h4.m0,fun b' o' hm'=>⟨h4.m b' o' hm',fun e=>?_⟩,h4.os,h4.tape,h4.output,h4.size,h4.block,fun b' o' hm'=>h4.bd b' o' hm'.1,fun r hr=>?_,?_⟩⟩
 .
  intro t p hp;simp only[List.lookup]at hp
  by_cases ht:t=s
  .
   subst ht;simp at hp;subst hp;refine⟨⟨b,0,none⟩,h3 t _ hs,fun j p hp=>?_⟩;obtain⟨u,hu,jk⟩:=hc.at_ j p hp;refine⟨u,?_,fun hx=>hx.2 rfl,hone u (List.mem_of_getElem? hu),p.st _ _ _ _ _ he jk⟩;rw[show Addr.add ⟨b,0,none⟩ (0+j)=⟨b,j,none⟩by unfold Addr.add;split<;>simp_all];simp[World.cell?,hh,hu]
  .
   rw[show(t==s)=false by simpa using ht]at hp;exact p.st _ _ _ _ _ he (h3 t p hp)
 .
  subst e;have:=h4.m0 _ _ hm';omega
 .
  rw[List.mem_iff_getElem]at hr;obtain⟨j,hj,rfl⟩:=hr;have hmem:(rs.eraseIdx i)[j]∈rs.eraseIdx i:=List.getElem_mem hj;have hjj:∃(j':Nat) (hj':j'<rs.length),j'≠i/\(rs.eraseIdx i)[j]=rs[j']:=by grind
  obtain⟨j',hj',hne,heq⟩:=hjj;rw[heq];obtain⟨h5,h6⟩:=h4.hold _ (List.getElem_mem hj');exact⟨(rs[j']).st _ _ _ _ he (fun b' hb'=>⟨rfl,fun o' hmo=>⟨hmo,hd j' hj' hne b' hb'⟩⟩) h5,h6⟩
 .exact List.Pairwise.sublist (List.eraseIdx_sublist rs i) h4.nd
theorem TO.freeze{b:Nat}(i s:Nat)(hi:rs[i]? =some (AE true b T ps))(hs:E.lookup s=some (is (.pointer (some ⟨b,0,none⟩))))(k:TO P n ops l ((s,ref ps)::E) (Hp M0 w0 S (rs.eraseIdx i)) Q):TO P n ops l E (Hp M0 w0 S rs) Q:=TO.conv (fun _ _ h=>h.freeze i s hi hs) k
theorem Tr.freeze{c:Code}{b:Nat}(i s:Nat)(hi:rs[i]? =some (AE true b T ps))(hs:E.lookup s=some (is (.pointer (some ⟨b,0,none⟩))))(k:Tr L n ((s,ref ps)::E) (Hp M0 w0 S (rs.eraseIdx i)) c Q):Tr L n E (Hp M0 w0 S rs) c Q:=Tr.conv (fun _ _ h=>h.freeze i s hi hs) k
theorem Fin.freeze{e:Exit}{b:Nat}(i s:Nat)(hi:rs[i]? =some (AE true b T ps))(hs:E.lookup s=some (is (.pointer (some ⟨b,0,none⟩))))(k:Fin n ((s,ref ps)::E) (Hp M0 w0 S (rs.eraseIdx i)) Q e):Fin n E (Hp M0 w0 S rs) Q e:=Fin.conv (fun _ _ h=>h.freeze i s hi hs) k
end
section
variable{P:Program}{L:Lg P}{n:Fm}{fz:Nat}{E:Env}{I:Cj}{Q:Exit->Act->World->Prop}{M0:Av}{w0:World}{S:Nat->Prop}
inductive Slot where
 |one (s:Nat)
 |two (s t:Nat)
 |three (s t u:Nat)
deriving DecidableEq
instance:Coe Nat Slot:=⟨Slot.one⟩
instance (n:Nat):OfNat Slot n:=⟨Slot.one n⟩
def Slot.list:Slot->List Nat
 | .one s=>[s]
 | .two s t=>[s,t]
 | .three s t u=>[s,t,u]
def Slot.val(a:Act):Slot->Value
 | .one s=>a.tmps.getD s undef
 | .two s t=> .tuple #[a.tmps.getD s undef,a.tmps.getD t undef]
 | .three s t u=> .tuple #[a.tmps.getD s undef,a.tmps.getD t undef,a.tmps.getD u undef]
structure SR where
 s:Slot
 f:Value->Ay
def SR.at_(a:Act)(R:SR):Ay:=R.f (R.s.val a)
def SR.c(r:Ay):SR:=⟨0,fun _=>r⟩
def Bb:Ay:=⟨none,true,fun _ _=>True,fun _ _ _ _ _ _ _=>trivial⟩
inductive Kind where
 |pure
 |rd (j:Nat) (R:SR)
 |ef (j:Nat) (R R':SR)
structure X where
 o:Oper
 p:Pr
 k:Kind
def Ew(P:Program)(M0:Av)(w0:World)(S:Nat->Prop)(o:Oper)(a:Act)(M:Av)(w:World)(p:Pr)(j:Nat)(R':SR)(rs:List Ay):Result Next->Prop
 | .ok (.value v) w'=>∃M',p.h M' w' v/\Ext M w M' w'/\BD M0 w0 S (rs.set j (R'.at_ (a.put o.dst v))) M' w'
 | .ok .skip w'=>∃M',p.h M' w' undef/\Ext M w M' w'/\BD M0 w0 S (rs.set j (R'.at_ (a.put o.dst undef))) M' w'
 | .ok (.enter f args) w'=>Calls P f args w' fun e w''=>∃v M',e= .returned v/\p.h M' w'' v/\Ext M w M' w''/\BD M0 w0 S (rs.set j (R'.at_ (a.put o.dst v))) M' w''
 |_=>False
def JU(P:Program)(M0:Av)(w0:World)(S:Nat->Prop)(j:Nat)(R:SR)(o:Oper)(E:Env)(p:Pr):Prop:=
 ∀M w (a:Act) rs,C2 M w E o a->BD M0 w0 S rs M w->rs[j]? =some (R.at_ a)->bR P M w p ((execOp a.eval o).run P w)
def D8(P:Program)(M0:Av)(w0:World)(S:Nat->Prop)(n:Fm)(j:Nat)(R R':SR)(o:Oper)(E:Env)(p:Pr):Prop:=
 o.guard=none/\∀M w (a:Act) rs,a.tmps.size=n.sz->C2 M w E o a->BD M0 w0 S rs M w->rs[j]? =some (R.at_ a)->Ew P M0 w0 S o a M w p j R' rs ((execOp a.eval o).run P w)
def XOK(P:Program)(M0:Av)(w0:World)(S:Nat->Prop)(n:Fm)(ops:Array Oper)(E:Env)(rs:List SR)(x:X):Prop:=
 match x.k with
 | .pure=>match x.o.guard with
  |none=>∀I:Cj,Af P I x.o E x.p
  |some (j,want)=>∃(d:Nat) (b:Option Bool),(ops[j]?).bind (·.dst)=some d/\E.lookup d=some (bS b)/\(b=some want->∀I:Cj,Af P I x.o E x.p)/\(b≠some want->x.p=is undef)
 | .rd i R=>rs[i]? =some R/\match x.o.guard with
  |none=>JU P M0 w0 S i R x.o E x.p
  |some (j,want)=>∃(d:Nat) (b:Option Bool),(ops[j]?).bind (·.dst)=some d/\E.lookup d=some (bS b)/\(b=some want->JU P M0 w0 S i R x.o E x.p)/\(b≠some want->x.p=is undef)
 | .ef i R R'=>rs[i]? =some R/\D8 P M0 w0 S n i R R' x.o E x.p
def OG(k:Kind)(rs:List SR):List SR:=match k with| .ef j _ R'=>rs.set j R'|_=>rs
def Cx(P:Program)(M0:Av)(w0:World)(S:Nat->Prop)(n:Fm)(ops:Array Oper):List Oper->Env->List SR->(List X->Env->List SR->Prop)->Prop
 |[],E,rs,K=>K [] E rs
 |o::r,E,rs,K=>∃p k,XOK P M0 w0 S n ops E rs ⟨o,p,k⟩/\(∀d,o.dst=some d->d<n)/\Cx P M0 w0 S n ops r (upd o p E) (OG k rs) (fun L E' rs'=>K (⟨o,p,k⟩::L) E' rs')
def Yj(acc:List Nat)(o:Oper):Nat:=o.after.toList.foldl (fun s e=>if Region.binds .any e then s|||(1<<<e.on)|||acc.getD e.on 0 else s) 0
def RC:List Nat->List Oper->List Nat
 |acc,[]=>acc
 |acc,o::r=>RC (acc++[Yj acc o]) r
def Us(l:List Oper):List Nat:=RC [] l
theorem We(acc:List Nat)(k:Nat):∀(es:List Edge) (s:Nat),(es.foldl (fun s e=>if Region.binds .any e then s|||(1<<<e.on)|||acc.getD e.on 0 else s) s).testBit k=true->
  s.testBit k=true\/∃e∈es,Region.binds .any e=true/\(e.on=k\/(acc.getD e.on 0).testBit k=true)
 |[],s,h=> .inl h
 |e::es,s,h=>by
  rcases We acc k es _ h with h1|⟨e',he',h1⟩
  .
   dsimp only at h1
   by_cases hb:Region.binds .any e=true
   .
    rw[if_pos hb]at h1;simp only[Nat.testBit_or,Bool.or_eq_true]at h1;rcases h1 with(h1|h1)|h1
    .exact .inl h1
    .
     refine .inr ⟨e,by simp,hb,.inl ?_⟩;rw[Nat.one_shiftLeft,Nat.testBit_two_pow]at h1
     simpa using h1
    .exact .inr ⟨e,by simp,hb,.inr h1⟩
   .rw[if_neg hb]at h1;exact .inl h1
  .exact .inr ⟨e',by simp[he'],h1⟩
theorem PB(D:Nat->Prop)(l:List Oper)(PC:∀(j:Nat) o,l[j]? =some o->D j->∀e∈o.after,Region.binds .any e=true->D e.on):
  ∀(r:List Oper) (acc:List Nat) (pre:List Oper),l=pre++r->acc.length=pre.length->
   (∀(i:Nat) o,i<acc.length->l[i]? =some o->(∀e∈o.after,Region.binds .any e=true->D e.on)->∀k,(acc.getD i 0).testBit k=true->D k)->
   ∀(i:Nat) o,l[i]? =some o->(∀e∈o.after,Region.binds .any e=true->D e.on)->∀k,((RC acc r).getD i 0).testBit k=true->D k
 |[],acc,pre,hl,ha,h,i,o,ho,hp,k,hk=>by
  unfold RC at hk;refine h i o ?_ ho hp k hk;rcases Nat.lt_or_ge i acc.length with h1|h1
  .exact h1
  .rw[List.getD_eq_getElem?_getD,List.getElem?_eq_none h1]at hk;simp at hk
 |q::r,acc,pre,hl,ha,h,i,o,ho,hp,k,hk=>by
  unfold RC at hk;refine PB D l PC r (acc++[Yj acc q]) (pre++[q]) (by simp[hl]) (by simp[ha]) ?_ i o ho hp k hk;intro i' o' hi' ho' hp' k' hk'
  by_cases hlt:i'<acc.length
  .
   refine h i' o' hlt ho' hp' k' ?_
   rwa [List.getD_eq_getElem?_getD,List.getElem?_append_left hlt,←List.getD_eq_getElem?_getD]at hk'
  .
   have hie:i'=acc.length:=by simp at hi';omega
   subst hie;rw[List.getD_eq_getElem?_getD,List.getElem?_append_right (Nat.le_refl _)]at hk';simp only[Nat.sub_self,List.getElem?_cons_zero,Option.getD_some]at hk'
   have hq:o'=q:=by
    rw[hl,ha,List.getElem?_append_right (Nat.le_refl _)]at ho'
    simpa using ho'.symm
   subst hq;unfold Yj at hk';rcases We acc k' _ _ hk' with h1|⟨e,he,hb,h1⟩
   .simp at h1
   .
    have hD:=hp' e (by simpa using he) hb;rcases h1 with h1|h1
    .rw[←h1];exact hD
    .
     have hel:e.on<acc.length:=by
      rcases Nat.lt_or_ge e.on acc.length with h2|h2
      .exact h2
      .rw[List.getD_eq_getElem?_getD,List.getElem?_eq_none h2]at h1;simp at h1
     have hlen:e.on<l.length:=by rw[hl];simp;omega
     exact h e.on l[e.on] hel (List.getElem?_eq_getElem hlen) (fun e' he' hb'=>PC e.on _ (List.getElem?_eq_getElem hlen) hD e' he' hb') k' h1
theorem LA(D:Nat->Prop)(l:List Oper)(PC:∀(j:Nat) o,l[j]? =some o->D j->∀e∈o.after,Region.binds .any e=true->D e.on)
  (i:Nat) (o:Oper) (ho:l[i]? =some o) (hp:∀e∈o.after,Region.binds .any e=true->D e.on) (k:Nat) (hk:((Us l).getD i 0).testBit k=true):D k:=
 PB D l PC l [] [] rfl rfl (fun i o h=>absurd h Ai) i o ho hp k hk
def Kind.slots:Kind->List Nat
 | .pure=>[]
 | .rd _ R=>R.s.list
 | .ef _ R _=>R.s.list
def Kind.res:Kind->Option Nat
 | .pure=>none
 | .rd j _=>some j
 | .ef j _ _=>some j
def Kind.wr:Kind->Option Nat
 | .ef j _ _=>some j
 |_=>none
abbrev KN:=Option (Slot×Nat×Bool×Slot)
def Kind.L7:Kind->KN
 | .pure=>none
 | .rd j R=>some (R.s,j,false,0)
 | .ef j R R'=>some (R.s,j,true,R'.s)
def RD(ops:Array Oper)(o:Oper)(k:KN):List Nat:=seen ops o++(match k with|some (s,_)=>s.list|none=>[])
def IC(b:List Nat)(i k:Nat):Bool:=(decide (k<i)&&(b.getD i 0).testBit k)||(decide (i<k)&&(b.getD k 0).testBit i)
def QC(l:List Oper)(ks:List KN):Bool:=
  let b:=Us l
  (l.zip ks).zipIdx.all fun((o,k),i)=>
    (o.after.all fun e=> !Region.binds .any e||decide (e.on<i))&&
    (l.zip ks).zipIdx.all fun((q, kq), m) => m == i ||
      ((match q.dst with
        |none=>true
        |some s=>o.dst !=some s&&(!(RD l.toArray o k).contains s||IC b i m))&&
       (match k,kq with
        |some (_,j,_,_),some (_,j',true,_s')=>j !=j'||IC b i m
        |_,_=>true)&&
       (match kq with
        |some (_,_,true,s')=>(s'.list.all fun t=>o.dst !=some t)||(decide (i<m)&&IC b i m)
        |_=>true))
def Ib(sel:Nat->Bool):Nat->List X->Env->Env
 |_,[],E=>E
 |k,x::L,E=>Ib sel (k+1) L (if sel k then upd x.o x.p E else E)
theorem Is(sel:Nat->Bool):∀(L:List X) (k:Nat) (E:Env),Ib sel k L E=cur sel k (L.map fun x=>(x.o,x.p)) E
 |[],_,_=>rfl
 |x::L,k,E=>by unfold Ib;rw[Is sel L];rfl
def DU(sel:Nat->Bool):Nat->List X->List SR->List SR
 |_,[],rs=>rs
 |k,x::L,rs=>DU sel (k+1) L (if sel k then OG x.k rs else rs)
theorem PD(k:Kind)(rs:List SR):(OG k rs).length=rs.length:=by cases k<;>simp[OG]
theorem ID(sel:Nat->Bool):∀(L:List X) (k:Nat) (rs:List SR),(DU sel k L rs).length=rs.length
 |[],_,_=>rfl
 |x::L,k,rs=>by unfold DU;rw[ID sel L];split;exact PD _ _;rfl
theorem Yk{k:Kind}{rs:List SR}(h:k.wr≠some j):(OG k rs)[j]? =rs[j]? :=by
 cases k with
 |ef i R R'=>simp only[OG];rw[List.getElem?_set_ne (fun e=>h (by rw[←e];rfl))]
 |_=>rfl
theorem Gc{sel wG:Nat->Bool}{j:Nat}:∀(L:List X) (k:Nat) (rs rs':List SR),rs.length=rs'.length->rs[j]? =rs'[j]? ->(∀i x,L[i]? =some x->x.k.wr=some j->sel (k+i)=wG (k+i))->
  (DU sel k L rs)[j]? =(DU wG k L rs')[j]?
 |[],_,_,_,_,h,_=>h
 |x::L,k,rs,rs',hl,h,hs=>by
  unfold DU;have hlen:∀(b:Bool) (r:List SR),(if b then OG x.k r else r).length=r.length:=by intro b r;cases b;rfl;exact PD _ _
  refine Gc L (k+1) _ _ (by rw[hlen,hlen,hl]) ?_ (fun i y hy hw=>by have:=hs (i+1) y (by simpa using hy) hw;rwa [show k+(i+1)=k+1+i by omega]at this)
  by_cases hw:x.k.wr=some j
  .
   have:=hs 0 x rfl hw;simp only[Nat.add_zero]at this;rw[this];cases wG k with
   |false=>simpa using h
   |true=>
    simp only[if_true];cases hk:x.k with
    |ef i R R'=>
     rw[hk]at hw;simp only[Kind.wr,Option.some.injEq]at hw;subst hw;simp only[OG];rw[List.getElem?_set,List.getElem?_set,hl,if_pos rfl,if_pos rfl]
    |_=>rw[hk]at hw;cases hw
  .
   have h1:∀(b:Bool) (r:List SR),(if b then OG x.k r else r)[j]? =r[j]? :=by intro b r;cases b;rfl;exact Yk hw
   rw[h1,h1,h]
theorem pz(L:List X)(i:Nat):∀(k:Nat) (rs:List SR) (x:X),L[i]? =some x->DU (fun m=>decide (m<k+(i+1))) k L rs=OG x.k (DU (fun m=>decide (m<k+i)) k L rs):=by
 induction L generalizing i with
 |nil=>intro k rs x h;simp at h
 |cons y L ih=>
  intro k rs x h
  have stop:∀(L:List X) (m:Nat) (rs:List SR) (b:Nat),b<=m->DU (fun i=>decide (i<b)) m L rs=rs:=by
   intro L
   induction L with
   |nil=>intros;rfl
   |cons z L ih2=>intro m rs b hb;unfold DU;rw[if_neg Ci];exact ih2 _ _ _ AA
  cases i with
  |zero=>
   simp only[List.getElem?_cons_zero,Option.some.injEq]at h;subst h;unfold DU;rw[if_pos Ai,if_neg Ai,stop L _ _ _ AA,stop L _ _ _ AA]
  |succ i=>
   unfold DU;rw[if_pos Ai,if_pos Ai];have:=ih i (k+1) (OG y.k rs) x Fc;rw[show k+(i+1+1)=k+1+(i+1)by omega,show k+(i+1)=k+1+i by omega];exact this
theorem S9{sel:Nat->Bool}{j:Nat}{R:SR}:∀(L:List X) (k:Nat) (rs:List SR),(DU sel k L rs)[j]? =some R->rs[j]? =some R\/∃m x R0,L[m]? =some x/\sel (k+m)=true/\x.k= .ef j R0 R
 |[],_,_,h=> .inl h
 |x::L,k,rs,h=>by
  unfold DU at h;rcases S9 L (k+1) _ h with h1|⟨m,y,R0,hm,hs,hk⟩
  .
   by_cases hsel:sel k=true
   .
    rw[if_pos hsel]at h1;cases hk:x.k with
    |ef i R1 R'=>
     rw[hk]at h1;simp only[OG]at h1;rw[List.getElem?_set]at h1
     split at h1
     .
      rename_i he
      subst he
      split at h1
      .
       simp only[Option.some.injEq]at h1;subst h1;exact .inr ⟨0,x,R1,rfl,by simpa using hsel,hk⟩
      .cases h1
     .exact .inl h1
    |_=>rw[hk]at h1;exact .inl h1
   .rw[if_neg hsel]at h1;exact .inl h1
  .exact .inr ⟨m+1,y,R0,by simpa using hm,by rwa [show k+(m+1)=k+1+m by omega],hk⟩
def StX(n:Fm)(M0:Av)(w0:World)(S:Nat->Prop)(E:Env)(rs:List SR)(a:Act)(w:World):Prop:=
 ∃M,a.tmps.size=n.sz/\a.defers=n.df/\Fo M w E a/\BD M0 w0 S (rs.map (·.at_ a)) M w
def BG(n:Fm)(M0:Av)(w0:World)(S:Nat->Prop)(E:Env)(rs:List SR)(Q:Exit->Act->World->Prop):Prop:=∀a w,StX n M0 w0 S E rs a w->Q .normal a w
theorem Ut{ops:Array Oper}{K:List X->Env->List SR->Prop}:∀(l:List Oper) (k:Nat) (E:Env) (rs:List SR),Cx P M0 w0 S n ops l E rs K->∃L:List X,L.map (·.o)=l/\
  (∀(j:Nat) x,L[j]? =some x->XOK P M0 w0 S n ops (Ib (fun i=>decide (i<k+j)) k L E) (DU (fun i=>decide (i<k+j)) k L rs) x/\∀d,x.o.dst=some d->d<n)/\
  K L (Ib (fun _=>true) k L E) (DU (fun _=>true) k L rs)
 |[],k,E,rs,h=>⟨[],rfl,fun j x hj=>by simp at hj,h⟩
 |o::l,k,E,rs,h=>by
  obtain⟨p,kd,hg,hd,hr⟩:=h;obtain⟨L,h1,h2,h3⟩:=Ut l (k+1) _ _ hr;refine⟨⟨o,p,kd⟩::L,by simp[h1],fun j x hj=>?_,by unfold Ib DU;simpa using h3⟩
  have AA5:∀(L:List X) (m:Nat) (E:Env) (b:Nat),b<=m->Ib (fun i=>decide (i<b)) m L E=E:=by
   intro L
   induction L with
   |nil=>intros;rfl
   |cons z L ih2=>intro m E b hb;unfold Ib;rw[if_neg Ci];exact ih2 _ _ _ AA
  have AA6:∀(L:List X) (m:Nat) (rs:List SR) (b:Nat),b<=m->DU (fun i=>decide (i<b)) m L rs=rs:=by
   intro L
   induction L with
   |nil=>intros;rfl
   |cons z L ih2=>intro m rs b hb;unfold DU;rw[if_neg Ci];exact ih2 _ _ _ AA
  cases j with
  |zero=>
   simp only[List.getElem?_cons_zero,Option.some.injEq]at hj;subst hj;refine⟨?_,hd⟩;unfold Ib DU;rw[if_neg Ai,if_neg Ai,AA5 _ _ _ _ AA,AA6 _ _ _ _ AA];exact hg
  |succ j=>
   have:=h2 j x F9;unfold Ib DU;rw[if_pos Ai,if_pos Ai,show k+(j+1)=k+1+j by omega];exact this
theorem wH{d:Option Tmp}{R:SR}(h:∀t∈R.s.list,d≠some t):R.at_ (a.put d v)=R.at_ a:=by
 unfold SR.at_;cases d with
 |none=>rfl
 |some d=>
  cases hs:R.s with
  |one s=>
   rw[hs]at h;unfold Slot.val;dsimp only;rw[Ba (fun e=>h s K3 JR)]
  |two s t=>
   rw[hs]at h;unfold Slot.val;dsimp only;rw[Ba (fun e=>h s K3 JR),Ba (fun e=>h t K3 JR)]
  |three s t u=>
   rw[hs]at h;unfold Slot.val;dsimp only;rw[Ba (fun e=>h s K3 JR),Ba (fun e=>h t K3 JR),Ba (fun e=>h u K3 JR)]
theorem AFH(a:Act)(r:Ay):(SR.c r).at_ a=r:=rfl
theorem S_{K:Act->World->Prop}{Q:Exit->Act->World->Prop}(h:bR P M w p ((execOp a.eval o).run P w))(k:∀v w',p.h M w' v->Below w.heap.size w w'->K (a.put o.dst v) w'):o.wp P a w K Q:=He h k
theorem LB{K:Act->World->Prop}{Q:Exit->Act->World->Prop}{R':SR}{rs:List Ay}(h:Ew P M0 w0 S o a M w p j R' rs ((execOp a.eval o).run P w))(k:∀v w' M',p.h M' w' v->Ext M w M' w'->BD M0 w0 S (rs.set j (R'.at_ (a.put o.dst v))) M' w'->K (a.put o.dst v) w'):o.wp P a w K Q:=by
 unfold Oper.wp
 generalize (execOp a.eval o).run P w=r at h
 cases r with
 |halt x w'=>exact h.elim
 |ok x w'=>
  cases x<;>first|exact h.elim|skip
  case value v=>obtain⟨M',h1,h2,h3⟩:=h;exact k _ _ _ h1 h2 h3
  case skip=>obtain⟨M',h1,h2,h3⟩:=h;exact k _ _ _ h1 h2 h3
  case enter f args=>
   refine h.mono ?_;rintro e w'' ⟨v,M',rfl,h1,h2,h3⟩;exact k _ _ _ h1 h2 h3
end
section
variable{P:Program}{L:Lg P}{n:Fm}{fz:Nat}{M0:Av}{w0:World}{S:Nat->Prop}
structure DX(n:Fm)(M0:Av)(w0:World)(S:Nat->Prop)(L:List X)(E:Env)(rs:List SR)(listed:Array Bool)(a:Act)(w:World):Prop where
 size:listed.size=L.length
 down:∀(i:Nat) x,L[i]? =some x->listed.getD i false=true->∀e∈x.o.after,Region.binds .any e=true->listed.getD e.on false=true
 st:StX n M0 w0 S (Ib (fun i=>listed.getD i false) 0 L E) (DU (fun i=>listed.getD i false) 0 L rs) a w
theorem Uu{l:List Oper}{ks:List KN}(hB:QC l ks=true){k:KN}(hi:(l.zip ks)[i]? =some (o,k)):
  (∀e∈o.after,Region.binds .any e=true->e.on<i)/\∀(m:Nat) q kq,(l.zip ks)[m]? =some (q,kq)->m≠i->
   (∀s,q.dst=some s->o.dst≠some s/\(s∈RD l.toArray o k->IC (Us l) i m=true))/\
   (∀s j w s' c s'',k=some (s,j,w,s')->kq=some (c,j,true,s'')->IC (Us l) i m=true)/\
   (∀c j s',kq=some (c,j,true,s')->(∀t∈s'.list,o.dst≠some t)\/(i<m/\IC (Us l) i m=true)):=by
 unfold QC at hB;rw[List.all_eq_true]at hB;have hb:=hB ((o,k),i) (by rw[List.mem_zipIdx_iff_getElem?];exact hi);simp only[Bool.and_eq_true]at hb;refine⟨fun e he hbd=>?_,fun m q kq hm hne=>?_⟩
 .
  have:=Array.all_eq_true_iff_forall_mem.1 hb.1 e he;rw[hbd]at this;simpa using this
 .
  have:=List.all_eq_true.1 hb.2 ((q,kq),m) (by rw[List.mem_zipIdx_iff_getElem?];exact hm);simp only[Bool.or_eq_true,Bool.and_eq_true]at this;rcases this with h|⟨⟨h1,h2⟩,h3⟩
  .exact absurd Fc hne
  .
   refine⟨fun s hs=>?_,fun s j w s' c s'' hk hkq=>?_,fun c j s' hkq=>?_⟩
   .
    rw[hs]at h1;simp only[Bool.and_eq_true,Bool.or_eq_true]at h1;refine⟨by simpa using h1.1,fun hmem=>?_⟩;rcases h1.2 with h|h
    .
     have hc:(RD l.toArray o k).contains s=true:=by simpa using hmem
     rw[hc]at h;cases h
    .exact h
   .
    subst hk;subst hkq
    simpa using h2
   .
    subst hkq
    simpa using h3
theorem Tr.Yl{Lo : Lg P}(hm : P.follows .mixedOrders = true){l : List Oper}{E : Env}{It : List Ay}{Q : Exit -> Act -> World -> Prop}(ks : List KN)(hB : QC l ks = true)(h : Cx P M0 w0 S n l.toArray l E (It.map SR.c) (fun L E' rs' => L.map (·.k.L7) = ks /\ BG n M0 w0 S E' rs' Q))(hc : calm l = true := by with_unfolding_all rfl) : Tr Lo n E (Hp M0 w0 S It) (.region id l.toArray true) Q := by
 intro a w hs;obtain⟨L,h1,h2,hks,h3⟩:=Ut l 0 E _ h;have hlen:L.length=l.length:=by rw[←h1];simp
 have hz:∀(i:Nat) x,L[i]? =some x->(l.zip ks)[i]? =some (x.o,x.k.L7):=by
  intro i x hx;rw[←h1,←hks,List.getElem?_zip_eq_some];simp[List.getElem?_map,hx]
 have hL:∀(i:Nat) o,l.toArray[i]? =some o->∃x,L[i]? =some x/\x.o=o:=by
  intro i o ho;have:l[i]? =some o:=by simpa using ho
  rw[←h1,List.getElem?_map]at this;cases hx:L[i]? with
  |none=>rw[hx]at this;simp at this
  |some x=>rw[hx]at this;simp at this;exact⟨x,rfl,this⟩
 have hL':∀(i:Nat) x,L[i]? =some x->l[i]? =some x.o:=by
  intro i x hi;rw[←h1,List.getElem?_map,hi];rfl
 have YK:=fun(i:Nat) x (hx:L[i]? =some x)=>Uu hB (hz i x hx);refine Lo.draw hc hm ?_
 have hlt:∀(i:Nat) x,L[i]? =some x->i<L.length:=by
  intro i x hx;rcases Nat.lt_or_ge i L.length with h|h
  .exact h
  .rw[List.getElem?_eq_none h]at hx;cases hx
 have key:∀(fuel:Nat) (listed:Array Bool) (a:Act) (w:World),listed.toList.count false<=fuel->DX n M0 w0 S L E (It.map SR.c) listed a w->JS P .any l.toArray Q fuel listed a w:=by
  intro fuel
  have fin:∀(listed:Array Bool) (a:Act) (w:World),DX n M0 w0 S L E (It.map SR.c) listed a w->(∀i,i<L.length->listed.getD i false=true)->Q .normal a w:=by
   intro listed a w hJ hall
   have hx:∀(L':List X) (k:Nat) (E:Env) (rs:List SR),k+L'.length<=L.length->Ib (fun i=>listed.getD i false) k L' E=Ib (fun _=>true) k L' E/\DU (fun i=>listed.getD i false) k L' rs=DU (fun _=>true) k L' rs:=by
    intro L'
    induction L' with
    |nil=>intros;exact⟨rfl,rfl⟩
    |cons x L' ih=>
     intro k E rs hk;simp only[List.length_cons]at hk;unfold Ib DU;rw[hall k AA];exact ih _ _ _ AA
   have hst:=hJ.st;rw[(hx L 0 E (It.map SR.c) AA).1,(hx L 0 E (It.map SR.c) AA).2]at hst;exact h3 a w hst
  have Iq:∀(listed:Array Bool) (a:Act) (w:World),DX n M0 w0 S L E (It.map SR.c) listed a w->Region.ready .any l.toArray listed=[]->∀i,i<L.length->listed.getD i false=true:=by
   intro listed a w hJ hr i
   induction i using Nat.strongRecOn with
   |_ i ih=>
    intro hi;cases QB:listed.getD i false with
    |true=>rfl
    |false=>
     exfalso;have FC:i<l.length:=by omega
     obtain⟨x,hx,hxo⟩:=hL i l[i] (by simp[FC])
     have hmem:i∈Region.ready .any l.toArray listed:=by
      refine mem_ready.2 ⟨?_,l[i],by simp[FC],fun e he hb=>?_⟩
      .
       have:i<listed.size:=by rw[hJ.size];exact hi
       rw[Array.getD_eq_getD_getElem?,Array.getElem?_eq_getElem this]at QB ⊢
       simpa using QB
      .
       have:=(YK i x hx).1 e (by rw[hxo];exact he) hb;exact ih e.on this AA
     rw[hr]at hmem;cases hmem
  induction fuel with
  |zero=>
   intro listed a w hc hJ
   have hall:∀i,i<L.length->listed.getD i false=true:=by
    intro i hi;have hsz:=hJ.size
    have h0:false∉listed.toList:=by
     have:listed.toList.count false=0:=by omega
     exact List.count_eq_zero.1 this
    cases QB:listed.getD i false with
    |true=>rfl
    |false=>
     exfalso;have:i<listed.size:=by omega
     rw[Array.getD_eq_getD_getElem?,Array.getElem?_eq_getElem this]at QB
     apply h0
     simp at QB;rw[←QB];exact Array.getElem_mem_toList this
   refine⟨?_,fin listed a w hJ hall⟩;cases hr:Region.ready .any l.toArray listed with
   |nil=>rfl
   |cons i r=>
    exfalso;have hi:i∈Region.ready .any l.toArray listed:=by rw[hr];simp
    obtain⟨hu,o,ho,_⟩:=mem_ready.1 hi;obtain⟨x,hx,_⟩:=hL i o ho;have FC:=hlt i x hx;have h5:=hall i FC;have:i<listed.size:=by rw[hJ.size];exact FC
    rw[Array.getD_eq_getD_getElem?,Array.getElem?_eq_getElem this]at hu h5;simp at hu h5;rw[hu]at h5;cases h5
  |succ fuel ih=>
   intro listed a w hc hJ;refine⟨fun hr=>fin listed a w hJ (Iq listed a w hJ hr),fun i hi=>?_⟩;obtain⟨hu,o,ho,hall⟩:=mem_ready.1 hi;obtain⟨x,hx,rfl⟩:=hL i o ho;have FC:=hlt i x hx;have his:i<listed.size:=by rw[hJ.size];exact FC
   have LV:listed.getD i false=false:=by
    rw[Array.getD_eq_getD_getElem?,Array.getElem?_eq_getElem his]at hu ⊢;simpa using hu
   have Ym:∀(j:Nat) o,l[j]? =some o->listed.getD j false=true->∀e∈o.after,Region.binds .any e=true->listed.getD e.on false=true:=by
    intro j o' ho' WI;obtain⟨y,hy,rfl⟩:=hL j o' (by simpa using ho');exact hJ.down j y hy WI
   -- what stands before i is listed; what stands behind it is not
   have wI:∀m,IC (Us l) i m=true->(listed.getD m false=decide (m<i)):=by
    intro m hb;unfold IC at hb;simp only[Bool.or_eq_true,Bool.and_eq_true,decide_eq_true_eq]at hb;rcases hb with⟨TC,jl⟩|⟨pL,jl⟩
    .
     rw[LA (fun j=>listed.getD j false=true) l Ym i x.o (hL' i x hx) hall m jl]
     simpa using TC
    .
     have hn:listed.getD m false=false:=by
      cases hlm:listed.getD m false with
      |false=>rfl
      |true=>
       have hml:m<L.length:=by
        rcases Nat.lt_or_ge m L.length with h|h
        .exact h
        .rw[Array.getD_eq_getD_getElem?,Array.getElem?_eq_none (by rw[hJ.size];exact h)]at hlm;cases hlm
       have hmo:l[m]? =some L[m].o:=hL' m L[m] (List.getElem?_eq_getElem hml);have:=LA (fun j=>listed.getD j false=true) l Ym m _ hmo (Ym m _ hmo hlm) i jl;rw[LV]at this;cases this
     rw[hn];simp;omega
   obtain⟨J0,hdn⟩:=h2 i x hx;rw[Nat.zero_add]at J0;obtain⟨M,hn,hdf,he,hI⟩:=hJ.st
   have hsame:∀s,s∈RD l.toArray x.o x.k.L7->(Ib (fun j=>decide (j<i)) 0 L E).lookup s=(Ib (fun j=>listed.getD j false) 0 L E).lookup s:=by
    intro s hs;rw[Is,Is]
    by_cases hw:∃m y,L[m]? =some y/\m≠i/\y.o.dst=some s
    .
     obtain⟨m,y,hm',TC,hd⟩:=hw
     have F6:∀(j:Nat) o' p',(L.map fun x=>(x.o,x.p))[j]? =some (o',p')->j≠m->o'.dst≠some s:=by
      intro j o' p' hj hjm;rw[List.getElem?_map]at hj;cases WJ:L[j]? with
      |none=>rw[WJ]at hj;cases hj
      |some z=>
       rw[WJ]at hj;simp only[Option.map_some,Option.some.injEq,Prod.mk.injEq]at hj;rw[←hj.1];exact(((YK j z WJ).2 m y.o y.k.L7 (hz m y hm') (Ne.symm hjm)).1 s hd).1
     have hb:=(((YK i x hx).2 m y.o y.k.L7 (hz m y hm') TC).1 s hd).2 hs;have hsel:=wI m hb;have hmm:(L.map fun x=>(x.o,x.p))[m]? =some (y.o,y.p):=by rw[List.getElem?_map,hm'];rfl
     by_cases wJ:m<i
     .rw[Ek _ 0 E m _ _ hmm (by simpa using wJ) hd F6,Ek _ 0 E m _ _ hmm (by rw[Nat.zero_add,hsel];simpa using wJ) hd F6]
     .
      rw[CV,CV]
      .
       intro j o' p' hj bV hd'
       by_cases hjm:j=m
       .subst hjm;rw[Nat.zero_add,hsel]at bV;simp at bV;omega
       .exact F6 j o' p' hj hjm hd'
      .
       intro j o' p' hj bV hd'
       by_cases hjm:j=m
       .subst hjm;simp at bV;omega
       .exact F6 j o' p' hj hjm hd'
    .
     have hno:∀(j:Nat) o' p',(L.map fun x=>(x.o,x.p))[j]? =some (o',p')->j≠i->o'.dst≠some s:=by
      intro j o' p' hj hji hd';rw[List.getElem?_map]at hj;cases WJ:L[j]? with
      |none=>rw[WJ]at hj;cases hj
      |some z=>
       rw[WJ]at hj;simp only[Option.map_some,Option.some.injEq,Prod.mk.injEq]at hj;exact hw ⟨j,z,WJ,hji,by rw[hj.1];exact hd'⟩
     rw[CV,CV]
     .
      intro j o' p' hj hsel hd'
      by_cases hji:j=i
      .subst hji;rw[Nat.zero_add,LV]at hsel;cases hsel
      .exact hno j o' p' hj hji hd'
     .
      intro j o' p' hj hsel hd'
      by_cases hji:j=i
      .subst hji;simp at hsel
      .exact hno j o' p' hj hji hd'
   have hwr:∀(m:Nat) y j,L[m]? =some y->y.k.wr=some j->x.k.res=some j->m≠i->listed.getD m false=decide (m<i):=by
    intro m y j hm' bW hxr TC;refine wI m (((YK i x hx).2 m y.o y.k.L7 (hz m y hm') TC).2.1 ?_ ?_ ?_ ?_ ?_ ?_ ?_ ?_)
    .exact(match x.k with| .pure=>0| .rd _ R=>R.s| .ef _ R _=>R.s)
    .exact j
    .exact(match x.k with| .ef ..=>true|_=>false)
    .exact(match x.k with| .ef _ _ R'=>R'.s|_=>0)
    .exact(match y.k with| .ef _ R _=>R.s|_=>0)
    .exact(match y.k with| .ef _ _ R'=>R'.s|_=>0)
    .cases hk:x.k<;>rw[hk]at hxr<;>simp[Kind.res]at hxr<;>subst hxr<;>simp[Kind.L7]
    .cases hk:y.k<;>rw[hk]at bW<;>simp[Kind.wr]at bW;subst bW;simp[Kind.L7]
   have hres:∀j,x.k.res=some j->(DU (fun m=>decide (m<i)) 0 L (It.map SR.c))[j]? =(DU (fun m=>listed.getD m false) 0 L (It.map SR.c))[j]? :=by
    intro j hj;refine Gc L 0 _ _ rfl rfl fun m y hm' bW=>?_;rw[Nat.zero_add]
    by_cases TC:m=i
    .subst TC;rw[LV];simp
    .rw[hwr m y j hm' bW hj TC]
   have Yn:C2 M w (Ib (fun j=>decide (j<i)) 0 L E) x.o a:=fun s q hs hq=>by
    rw[hsame s (by unfold RD seen;simp[hs])]at hq;exact he s q hq
   have hgu:∀j want d q,x.o.guard=some (j,want)->(l.toArray[j]?).bind (·.dst)=some d->(Ib (fun j=>decide (j<i)) 0 L E).lookup d=some q->q.h M w (a.tmps.getD d undef):=by
    intro j want d q hgd hj hq
    have hds:d∈RD l.toArray x.o x.k.L7:=by
     unfold RD seen;rw[hgd];exact List.mem_append.2 (.inl (List.mem_append.2 (.inr UX)))
    rw[hsame d hds]at hq;exact he d q hq
   have Io:∀m,(listed.setIfInBounds i true).getD m false=(if m=i then true else listed.getD m false):=by
    intro m;rw[Array.getD_eq_getD_getElem?,Array.getElem?_setIfInBounds]
    by_cases hm:i=m
    .subst hm;simp[his]
    .exact N9
   have jm:(listed.setIfInBounds i true).toList.count false<=fuel:=by
    have h7:listed.toList[i]? =some false:=by
     rw[Array.getElem?_toList,Array.getElem?_eq_getElem his];rw[Array.getD_eq_getD_getElem?,Array.getElem?_eq_getElem his]at LV
     simpa using LV
    have h8:=count_set h7;rw[Array.toList_setIfInBounds];omega
   have jo:∀(j:Nat) y,L[j]? =some y->(listed.setIfInBounds i true).getD j false=true->∀e∈y.o.after,Region.binds .any e=true->(listed.setIfInBounds i true).getD e.on false=true:=by
    intro j y hj WI e he' hb;rw[Io]at WI ⊢
    by_cases hki:e.on=i
    .simp[hki]
    .
     rw[if_neg hki]
     by_cases hji:j=i
     .
      subst hji;rw[hx]at hj;cases hj;exact hall e he' hb
     .
      rw[if_neg hji]at WI;exact hJ.down j y hj WI e he' hb
   have u5:∀(v:Value) (M':Av) (w':World),x.p.h M' w' v->Ext M w M' w'->Fo M' w' (Ib (fun j=>(listed.setIfInBounds i true).getD j false) 0 L E) (a.put x.o.dst v):=by
    intro v M' w' Yf EN s q hq;have hxm:(L.map fun x=>(x.o,x.p))[i]? =some (x.o,x.p):=by rw[List.getElem?_map,hx];rfl
    have bX:∀(j:Nat) o' p',(L.map fun x=>(x.o,x.p))[j]? =some (o',p')->∃y,L[j]? =some y/\y.o=o'/\y.p=p':=by
     intro j o' p' hj;rw[List.getElem?_map]at hj;cases WJ:L[j]? with
     |none=>rw[WJ]at hj;cases hj
     |some z=>
      rw[WJ]at hj;simp only[Option.map_some,Option.some.injEq,Prod.mk.injEq]at hj;exact⟨z,rfl,hj.1,hj.2⟩
    rw[Is]at hq
    by_cases hds:x.o.dst=some s
    .
     rw[Ek _ 0 E i _ _ hxm Ui hds
      (fun j o' p' hj hji=>by
       obtain⟨y,hy,rfl,_⟩:=bX j o' p' hj
       exact(((YK j y hy).2 i x.o x.k.L7 (hz i x hx) (Ne.symm hji)).1 s hds).1)]at hq
     cases hq;rw[hds,B6 Ul];exact Yf
    .
     have WW:(Ib (fun j=>listed.getD j false) 0 L E).lookup s=some q:=by
      rw[Is,←hq]
      by_cases hw:∃k y,L[k]? =some y/\y.o.dst=some s/\listed.getD k false=true
      .
       obtain⟨k,y,hk,hd,hlk⟩:=hw;have hkm:(L.map fun x=>(x.o,x.p))[k]? =some (y.o,y.p):=by rw[List.getElem?_map,hk];rfl
       have F6:∀(j:Nat) o' p',(L.map fun x=>(x.o,x.p))[j]? =some (o',p')->j≠k->o'.dst≠some s:=by
        intro j o' p' hj hjk;obtain⟨z,WJ,rfl,_⟩:=bX j o' p' hj;exact(((YK j z WJ).2 k y.o y.k.L7 (hz k y hk) (Ne.symm hjk)).1 s hd).1
       rw[Ek _ 0 E k _ _ hkm (by simpa using hlk) hd F6,Ek _ 0 E k _ _ hkm Ud hd F6]
      .
       rw[CV,CV]
       .
        intro j o' p' hj hsel hd';obtain⟨z,WJ,rfl,_⟩:=bX j o' p' hj;rw[Nat.zero_add,Io]at hsel
        by_cases hji:j=i
        .subst hji;rw[hx]at WJ;cases WJ;exact hds hd'
        .rw[if_neg hji]at hsel;exact hw ⟨j,z,WJ,hd',hsel⟩
       .
        intro j o' p' hj hsel hd';obtain⟨z,WJ,rfl,_⟩:=bX j o' p' hj;rw[Nat.zero_add]at hsel;exact hw ⟨j,z,WJ,hd',hsel⟩
     have hv:=he s q WW
     have:(a.put x.o.dst v).tmps.getD s undef=a.tmps.getD s undef:=by
      cases hd:x.o.dst with
      |none=>rfl
      |some d=>exact Ba (fun e=>hds (by rw[hd,e]))
     rw[this];exact q.st _ _ _ _ _ EN hv
   -- words on z8 do not AHO on the slot that is written now
   have AA7:∀(v:Value) (R:SR) (j:Nat),(DU (fun m=>listed.getD m false) 0 L (It.map SR.c))[j]? =some R->R.at_ (a.put x.o.dst v)=R.at_ a:=by
    intro v R j hR;rcases S9 L 0 _ hR with h|⟨m,y,R0,hm',Cb,hyk⟩
    .
     rw[List.getElem?_map]at h;cases hr:It[j]? with
     |none=>rw[hr]at h;cases h
     |some r=>rw[hr]at h;simp at h;subst h;rfl
    .
     rw[Nat.zero_add]at Cb;have TC:m≠i:=by intro e;subst e;rw[LV]at Cb;cases Cb
     refine wH ?_;rcases((YK i x hx).2 m y.o y.k.L7 (hz m y hm') TC).2.2 R0.s j R.s (by rw[hyk];rfl)with h|⟨h,h'⟩
     .exact h
     .
      have:=wI m h';rw[Cb]at this;simp at this;omega
   have JV:x.k.wr=none->∀v w',x.p.h M w' v->Below w.heap.size w w'->JS P .any l.toArray Q fuel (listed.setIfInBounds i true) (a.put x.o.dst v) w':=by
    intro hnw v w' Yf hb;refine ih _ _ _ jm ⟨by simpa using hJ.size,jo,M,by rw[CC];exact hn,by rw[put_defers];exact hdf,u5 v M w' Yf (Ext.below hb),?_⟩;have QD:=(Hp M0 w0 S _).st _ _ _ hb hI
    have heq:(DU (fun j=>(listed.setIfInBounds i true).getD j false) 0 L (It.map SR.c)).map (·.at_ (a.put x.o.dst v))=(DU (fun i=>listed.getD i false) 0 L (It.map SR.c)).map (·.at_ a):=by
     apply List.ext_getElem?
     intro j;rw[List.getElem?_map,List.getElem?_map]
     have:(DU (fun j=>(listed.setIfInBounds i true).getD j false) 0 L (It.map SR.c))[j]? =(DU (fun i=>listed.getD i false) 0 L (It.map SR.c))[j]? :=by
      refine Gc L 0 _ _ rfl rfl fun m y hm' bW=>?_;rw[Nat.zero_add,Io]
      by_cases TC:m=i
      .subst TC;rw[hx]at hm';cases hm';rw[hnw]at bW;cases bW
      .rw[if_neg TC]
     rw[this];cases hR:(DU (fun i=>listed.getD i false) 0 L (It.map SR.c))[j]? with
     |none=>rfl
     |some R=>simp only[Option.map_some];rw[AA7 v R j hR]
    rw[heq];exact QD
   unfold O6;rw[ho];simp only[];unfold XOK at J0;cases hk:x.k with
   |pure=>
    rw[hk]at J0;refine K_ (I:=Hp M0 w0 S _) (E:=Ib (fun j=>decide (j<i)) 0 L E) (p:=x.p) ?_ Yn hgu hI (JV JQ);unfold ig;cases hgd:x.o.guard with
    |none=>rw[hgd]at J0;exact J0 _
    |some g=>
     obtain⟨j,want⟩:=g;rw[hgd]at J0;obtain⟨d,b,h5,h6,h7,h8⟩:=J0;exact⟨d,b,h5,h6,fun hb=>h7 hb _,h8⟩
   |rd j R=>
    rw[hk]at J0;obtain⟨hRj,J0⟩:=J0;rw[hres j JQ]at hRj;have p_:((DU (fun i=>listed.getD i false) 0 L (It.map SR.c)).map (·.at_ a))[j]? =some (R.at_ a):=by rw[List.getElem?_map,hRj];rfl
    cases hgd:x.o.guard with
    |none=>
     rw[hgd]at J0;rw[if_pos (G4 hgd)];exact S_ (J0 M w a _ Yn hI p_) (JV JQ)
    |some g=>
     obtain⟨j',want⟩:=g;rw[hgd]at J0;obtain⟨d,b,h5,h6,h7,h8⟩:=J0;have h9:=hgu j' want d _ hgd h5 h6;rw[IB hgd (JT (b:=b) h5 h9)]
     by_cases hb:b=some want
     .
      rw[if_pos JP];exact S_ (h7 hb M w a _ Yn hI p_) (JV JQ)
     .
      rw[if_neg JP];refine JV JQ undef w ?_ (Below.refl _ _);have:=h8 hb;rw[this];rfl
   |ef j R R'=>
    rw[hk]at J0;obtain⟨hRj,hgd,J0⟩:=J0
    have hjl:j<It.length:=by
     have h9:j<(DU (fun m=>decide (m<i)) 0 L (It.map SR.c)).length:=by
      rcases Nat.lt_or_ge j (DU (fun m=>decide (m<i)) 0 L (It.map SR.c)).length with h|h
      .exact h
      .rw[List.getElem?_eq_none h]at hRj;cases hRj
     rwa [ID,List.length_map]at h9
    have AHP:=hRj;rw[hres j JQ]at hRj;have p_:((DU (fun i=>listed.getD i false) 0 L (It.map SR.c)).map (·.at_ a))[j]? =some (R.at_ a):=by rw[List.getElem?_map,hRj];rfl
    rw[if_pos (G4 hgd)];refine(LB (J0 M w a _ hn Yn hI p_) fun v w' M' Yf EN QD=>?_);refine ih _ _ _ jm ⟨by simpa using hJ.size,jo,M',by rw[CC];exact hn,by rw[put_defers];exact hdf,u5 v M' w' Yf EN,?_⟩
    have heq:(DU (fun j=>(listed.setIfInBounds i true).getD j false) 0 L (It.map SR.c)).map (·.at_ (a.put x.o.dst v))=((DU (fun i=>listed.getD i false) 0 L (It.map SR.c)).map (·.at_ a)).set j (R'.at_ (a.put x.o.dst v)):=by
     apply List.ext_getElem?
     intro j';rw[List.getElem?_map]
     by_cases hjj:j'=j
     .
      subst hjj
      have h9:(DU (fun m=>(listed.setIfInBounds i true).getD m false) 0 L (It.map SR.c))[j']? =some R':=by
       have h10:(DU (fun m=>(listed.setIfInBounds i true).getD m false) 0 L (It.map SR.c))[j']? =(DU (fun m=>decide (m<0+(i+1))) 0 L (It.map SR.c))[j']? :=by
        refine Gc L 0 _ _ rfl rfl fun m y hm' bW=>?_;rw[Nat.zero_add,Io]
        by_cases TC:m=i
        .subst TC;simp
        .
         rw[if_neg TC,hwr m y j' hm' bW JQ TC];have:(m<i)↔(m<0+(i+1)):=by omega
         simp only[this]
       rw[h10,pz L i 0 _ x hx,hk];simp only[OG];rw[List.getElem?_set,if_pos rfl,if_pos (by rw[ID,List.length_map];exact hjl)]
      rw[h9,List.getElem?_set,if_pos rfl,if_pos (by rw[List.length_map,ID,List.length_map];exact hjl)];rfl
     .
      rw[List.getElem?_set_ne (Ne.symm hjj),List.getElem?_map]
      have h10:(DU (fun m=>(listed.setIfInBounds i true).getD m false) 0 L (It.map SR.c))[j']? =(DU (fun m=>listed.getD m false) 0 L (It.map SR.c))[j']? :=by
       refine Gc L 0 _ _ rfl rfl fun m y hm' bW=>?_;rw[Nat.zero_add,Io]
       by_cases TC:m=i
       .
        subst TC;rw[hx]at hm';cases hm';rw[hk]at bW;simp only[Kind.wr,Option.some.injEq]at bW;exact absurd bW.symm hjj
       .rw[if_neg TC]
      rw[h10];cases hR:(DU (fun m=>listed.getD m false) 0 L (It.map SR.c))[j']? with
      |none=>rfl
      |some R2=>simp only[Option.map_some];rw[AA7 v R2 j' hR]
    rw[heq];exact QD
 refine key l.length _ a _ ?_ ⟨by simp[hlen],?_,?_⟩
 .simp[List.count_replicate]
 .
  intro i x hx hl;exfalso;rw[Array.getD_eq_getD_getElem?,Array.getElem?_replicate]at hl
  split at hl<;>simp at hl
 .
  obtain⟨M,hn,hdf,he,hI⟩:=hs;have hb:Below w.heap.size w { w with drawn:=w.drawn+1 }:=⟨rfl,rfl,rfl,Nat.le_refl _,fun _ _=>rfl⟩
  have hnone:∀m,(Array.replicate l.toArray.size false).getD m false=false:=by
   intro m;rw[Array.getD_eq_getD_getElem?,Array.getElem?_replicate]
   split<;>rfl
  refine⟨M,hn,hdf,?_,?_⟩
  .
   intro s q hq;rw[Is,CV]at hq
   .exact Uf
   .
    intro j o p hj hsel;rw[Nat.zero_add,hnone]at hsel;cases hsel
  .
   have QD:=(Hp M0 w0 S It).st _ _ _ hb hI
   have heq:(DU (fun i=>(Array.replicate l.toArray.size false).getD i false) 0 L (It.map SR.c)).map (·.at_ a)=It:=by
    apply List.ext_getElem?
    intro j
    have h9:(DU (fun i=>(Array.replicate l.toArray.size false).getD i false) 0 L (It.map SR.c))[j]? =(DU (fun i=>decide (i<0)) 0 L (It.map SR.c))[j]? :=
     Gc L 0 _ _ rfl rfl fun m y _ _=>by rw[Nat.zero_add,hnone];simp
    have h10:∀(L:List X) (m:Nat) (rs:List SR),DU (fun i=>decide (i<0)) m L rs=rs:=by
     intro L
     induction L with
     |nil=>intros;rfl
     |cons z L ih2=>intro m rs;unfold DU;rw[if_neg Ai];exact ih2 _ _
    rw[List.getElem?_map,h9,h10,List.getElem?_map];cases It[j]? <;>rfl
   rw[heq];exact QD
end
section
variable{P:Program}{L:Lg P}{n:Fm}{fz:Nat}{M0:Av}{w0:World}{S:Nat->Prop}{rs:List Ay}
def D9:Value->Option Nat
 | .slice (some a) n c=>if n<c then some a.block else none
 |_=>none
def Bc(e:TypeId)(sz:Nat)(v:Value):Ay where
 blk:=D9 v
 new:=true
 h M w:=∀a n c,v= .slice (some a) n c->n<c->(∃xs,w.ownsRow 0 e sz v n xs)/\∀o,n*sz<=o->M a.block o
 st M w M' w' he hk h a n c hv hn:=by
  subst hv;obtain⟨⟨xs,h1⟩,h2⟩:=h a n c rfl hn;obtain⟨hh,hm⟩:=hk a.block (by simp[D9,hn]);refine⟨⟨xs,?_⟩,fun o ho=>hm o (h2 o ho)⟩;obtain⟨h3,h4⟩:=h1;refine⟨h3,?_⟩;rcases h4 with h4|⟨g,cap,cur,hv,h5,h6,h7⟩
  .exact .inl h4
  .
   have ha:a=⟨g,0,none⟩:=by injection hv with h;injection h
   subst ha;exact .inr ⟨g,cap,cur,hv,h5,hh.trans h6,h7⟩
theorem BD.keeps(h:BD M0 w0 S rs M w){r:Ay}(hi:rs[i]? =some r){r':Ay}(hj:rs[j]? =some r')(hne:j≠i):∀b,r.blk=some b->r'.blk≠some b:=by
 intro b hb hb';have FC:i<rs.length:=by rcases Nat.lt_or_ge i rs.length with h|h;exact h;rw[List.getElem?_eq_none h]at hi;cases hi
 have hjl:j<rs.length:=by rcases Nat.lt_or_ge j rs.length with h|h;exact h;rw[List.getElem?_eq_none h]at hj;cases hj
 rw[List.getElem?_eq_getElem FC]at hi;rw[List.getElem?_eq_getElem hjl]at hj;simp only[Option.some.injEq]at hi hj;rcases Nat.lt_or_gt_of_ne hne with hlt|hlt
 .exact List.pairwise_iff_getElem.1 h.nd j i hjl FC hlt b (by rw[hj];exact hb') (by rw[hi];exact hb)
 .exact List.pairwise_iff_getElem.1 h.nd i j FC hjl hlt b (by rw[hi];exact hb) (by rw[hj];exact hb')
theorem BD.replace{M':Av}{w':World}{r r':Ay}(h:BD M0 w0 S rs M w)(hi:rs[i]? =some r)(he:Ext M w M' w')(hos:w'.os=w.os)(AA8:w'.tape=w.tape)(hout:w'.output=w.output)(jq:∀k,k<w.heap.size->r.blk≠some k->w'.heap[k]? =w.heap[k]?)(hrn:r.new=true)(hM:∀b o,M b o->r.blk≠some b->M' b o)(hbd:Bd M' w')(hr':r'.h M' w')(hnew:r'.new=true)(qA:∀b,r'.blk=some b->b<w'.heap.size/\(r.blk=some b\/w.heap.size<=b)):BD M0 w0 S (rs.set i r') M' w':=by
 have hmem:=List.mem_of_getElem? hi;have hold:=h.hold r hmem;have hge:∀b,r.blk=some b->w0.heap.size<=b:=fun b hb=>by have:=(hold.2 b hb).2;rw[hrn]at this;simpa using this
 refine⟨h.m0,fun b o hm=>hM b o (h.m b o hm) (fun e=>?_),hos.trans h.os,AA8.trans h.tape,hout.trans h.output,Nat.le_trans h.size he.size,fun k hk hs=>?_,hbd,fun q hq=>?_,?_⟩
 .
  have:=hge b e;have:=h.m0 b o hm;omega
 .
  refine(jq k (Nat.lt_of_lt_of_le hk h.size) (fun e=>?_)).trans (h.block k hk hs);have:=hge k e;omega
 .
  obtain⟨j,hj,rfl⟩:=List.mem_iff_getElem.1 hq;have hjl:j<rs.length:=by simpa using hj
  rw[List.getElem_set]
  by_cases hij:i=j
  .
   rw[if_pos hij];refine⟨hr',fun b hb=>⟨(qA b hb).1,?_⟩⟩;rw[hnew];simp only[if_true];rcases(qA b hb).2 with h1|h1
   .exact hge b h1
   .exact Nat.le_trans h.size h1
  .
   rw[if_neg hij];have hne:=hij;obtain⟨h3,h4⟩:=h.hold _ (List.getElem_mem hjl);have hk:=h.keeps hi (List.getElem?_eq_getElem hjl) (Ne.symm hne);exact⟨(rs[j]).st _ _ _ _ he (fun b hb=>⟨jq b (h4 b hb).1 (fun e=>hk b e hb),fun o hm=>hM b o hm (fun e=>hk b e hb)⟩) h3,fun b hb=>⟨Nat.lt_of_lt_of_le (h4 b hb).1 he.size,(h4 b hb).2⟩⟩
 .
  rw[List.pairwise_iff_getElem];intro j k hj hk hjk b N0 bU;have hjl:j<rs.length:=by simpa using hj
  have YL:k<rs.length:=by simpa using hk
  rw[List.getElem_set]at N0 bU
  split at N0<;>split at bU
  .omega
  .
   rename_i e1 e2
   subst e1;rcases(qA b N0).2 with h1|h1
   .exact h.keeps hi (List.getElem?_eq_getElem YL) (Ne.symm e2) b h1 bU
   .
    have:=((h.hold _ (List.getElem_mem YL)).2 b bU).1;omega
  .
   rename_i e1 e2
   subst e2;rcases(qA b bU).2 with h1|h1
   .exact h.keeps hi (List.getElem?_eq_getElem hjl) (Ne.symm e1) b h1 N0
   .
    have:=((h.hold _ (List.getElem_mem hjl)).2 b N0).1;omega
  .exact List.pairwise_iff_getElem.1 h.nd j k hjl YL hjk b N0 bU
def Flat(M:Av)(w:World)(sz:Nat)(rows:List (List Pr))(news:List Value):Prop:=
 news.length=rows.length*sz/\(∀u∈news,u.oneCell'=true)/\∀(i:Nat) row,rows[i]? =some row->row.length=sz/\∀(j:Nat) p,row[j]? =some p->∃u,news[i*sz+j]? =some u/\p.h M w u
theorem Flat.st{M':Av}{w':World}{sz:Nat}{news:List Value}(he:Ext M w M' w')(h:Flat M w sz rows news):Flat M' w' sz rows news:=
 ⟨h.1,h.2.1,fun i row hr=>⟨(h.2.2 i row hr).1,fun j p hp=>let ⟨u,hu,hh⟩:=(h.2.2 i row hr).2 j p hp;⟨u,hu,p.st _ _ _ _ _ he hh⟩⟩⟩
theorem Flat.app{sz:Nat}{rows':List (List Pr)}{xs ys:List Value}(h:Flat M w sz rows xs)(h':Flat M w sz rows' ys):Flat M w sz (rows++rows') (xs++ys):=by
 refine⟨by rw[List.length_append,List.length_append,h.1,h'.1,Nat.add_mul],fun u hu=>?_,fun i row hr=>?_⟩
 .
  rcases List.mem_append.1 hu with hu|hu
  .exact h.2.1 u hu
  .exact h'.2.1 u hu
 .
  rw[List.getElem?_append]at hr
  split at hr
  .
   rename_i hlt
   obtain⟨h1,h2⟩:=h.2.2 i row hr;refine⟨h1,fun j p hp=>?_⟩;obtain⟨u,hu,hh⟩:=h2 j p hp;have hlt':i*sz+j<xs.length:=by rcases Nat.lt_or_ge (i*sz+j) xs.length with h|h;exact h;rw[List.getElem?_eq_none h]at hu;cases hu
   exact⟨u,by rw[List.getElem?_append_left hlt'];exact hu,hh⟩
  .
   rename_i hge
   obtain⟨h1,h2⟩:=h'.2.2 _ row hr;refine⟨h1,fun j p hp=>?_⟩;obtain⟨u,hu,hh⟩:=h2 j p hp;refine⟨u,?_,hh⟩;have hmul:rows.length*sz<=i*sz:=Nat.mul_le_mul_right sz AA;rw[List.getElem?_append_right (by rw[h.1];omega),h.1];rw[Nat.sub_mul]at hu
   rwa [show i*sz+j-rows.length*sz=i*sz-rows.length*sz+j by omega]
theorem Fg{sz:Nat}{ad:Addr}{c:Nat}(hsz:0<sz)(h:(slice sz rows).h M w (.slice (some ad) rows.length c)):
  ∃news,Flat M w sz rows news/\(∀(j:Nat) u,news[j]? =some u->w.cell? (ad.add j)=some u/\¬M ad.block (ad.off+j)):=by
 obtain⟨a,cap,hv,_,_,_,hr⟩:=h;have ha:a=some ad:=by injection hv with h;exact h.symm
 subst ha
 have hcell:∀k,k<rows.length*sz->∃u,w.cell? (ad.add k)=some u/\¬M ad.block (ad.off+k)/\u.oneCell'=true:=by
  intro k hk;have hi:k/sz<rows.length:=Nat.div_lt_of_lt_mul (by rw[Nat.mul_comm];exact hk);obtain⟨h1,b,hb,h2⟩:=hr (k/sz) _ (List.getElem?_eq_getElem hi)
  injection hb with hb
  subst hb;have hj:k % sz<rows[k/sz].length:=by rw[h1];exact Nat.mod_lt _ hsz
  obtain⟨u,h3,h4,h5,_⟩:=h2 (k % sz) _ (List.getElem?_eq_getElem hj);have:k/sz*sz+k % sz=k:=by rw[Nat.mul_comm];exact Nat.div_add_mod k sz
  rw[this]at h3 h4;exact⟨u,h3,h4,h5⟩
 refine⟨(List.range (rows.length*sz)).map fun k=>(w.cell? (ad.add k)).getD undef,⟨by simp,fun u hu=>?_,fun i row hi=>?_⟩,fun j u hu=>?_⟩
 .
  obtain⟨k,hk,rfl⟩:=List.mem_map.1 hu;obtain⟨u,h1,_,h2⟩:=hcell k (List.mem_range.1 hk);rw[h1];exact h2
 .
  obtain⟨h1,b,hb,h2⟩:=hr i row hi
  injection hb with hb
  subst hb;refine⟨h1,fun j p hp=>?_⟩;obtain⟨u,h3,_,_,h4⟩:=h2 j p hp;have hjl:j<sz:=by rw[←h1];rcases Nat.lt_or_ge j row.length with h|h;exact h;rw[List.getElem?_eq_none h]at hp;cases hp
  have FC:i<rows.length:=by rcases Nat.lt_or_ge i rows.length with h|h;exact h;rw[List.getElem?_eq_none h]at hi;cases hi
  have hlt:i*sz+j<rows.length*sz:=by
   have:(i+1)*sz<=rows.length*sz:=Nat.mul_le_mul_right sz FC;rw[Nat.add_mul]at this;omega
  exact⟨u,by rw[List.getElem?_map,List.getElem?_range hlt];simp[h3],h4⟩
 .
  rw[List.getElem?_map]at hu;cases hk:(List.range (rows.length*sz))[j]? with
  |none=>rw[hk]at hu;cases hu
  |some k=>
   rw[hk]at hu;simp only[Option.map_some,Option.some.injEq]at hu
   have hjk:k=j/\j<rows.length*sz:=by
    rw[List.getElem?_eq_some_iff]at hk;obtain⟨h1,h2⟩:=hk;simp at h1 h2;omega
   obtain⟨rfl,hlt⟩:=hjk;obtain⟨u',h1,h2,_⟩:=hcell k hlt;rw[h1]at hu;simp at hu;subst hu;exact⟨h1,h2⟩
theorem FN{sz:Nat}{news:List Value}{g c:Nat}(h:Flat M w sz rows news)(hc:rows.length<=c)(hm:c<=maxLen)(hcell:∀(j:Nat) u,news[j]? =some u->w.cell? ⟨g,j,none⟩=some u/\¬M g j):(slice sz rows).h M w (.slice (some ⟨g,0,none⟩) rows.length c):=by
 refine⟨_,c,rfl,hc,hm,fun h=>(by cases h),fun i row hi=>?_⟩;obtain⟨h1,h2⟩:=h.2.2 i row hi;refine⟨h1,_,rfl,fun j p hp=>?_⟩;obtain⟨u,hu,hh⟩:=h2 j p hp;obtain⟨h3,h4⟩:=hcell _ u hu;refine⟨u,?_,by simpa using h4,h.2.1 u (List.mem_of_getElem? hu),hh⟩;rw[show Addr.add ⟨g,0,none⟩ (i*sz+j)=⟨g,i*sz+j,none⟩by unfold Addr.add;split<;>simp_all];exact h3
def CW(P:Program)(t:TypeId):Option Nat:=(P.info? t).map (·.bytes)
theorem HA{t ty e:TypeId}{A:Option Addr}{n c c':Nat}{A':Option Addr}{sz:Nat}(ht:P.underlying t=some (.slice e))(hz:Aw P e=some sz)(hn:n<=c)(w:World):
  (Builtin.append_ #[t,t] ty #[.slice A n c,.slice A' 0 c']).run P w= .ok (.slice A n c) w:=by
 unfold Aw at hz;cases hi:P.info? e with
 |none=>rw[hi]at hz;cases hz
 |some i=>
  cases A<;>cases A'<;>simp[Builtin.append_,run_underlying ht,Go.sizeOf,typeInfo,hi,Builtin.lenOf,Builtin.firstCells,hn,storeCells,loadCells,loadCellsFrom]
theorem RE{t ty e:TypeId}{sz bytes:Nat}{rows':List (List Pr)}{u:Value}{r:Ay}(ht:P.underlying t=some (.slice e))(hz:Aw P e=some sz)(hby:CW P e=some bytes)(Dw:BZ P e=some zs)(hzl:zs.length=sz)(hsz:0<sz)(h:BD M0 w0 S rs M w)(hj:rs[j]? =some r)(hr:r=Bc e sz v\/(r=Bb/\D9 v=none))(hv:(slice sz rows).h M w v)(hu:(slice sz rows').h M w u)(GA:rows.length+rows'.length<=maxLen)(hfit:(rows.length+rows'.length)*bytes<=140737488355328):
  ∃v' w' M',(Builtin.append_ #[t,t] ty #[v,u]).run P w= .ok v' w'/\(slice sz (rows++rows')).h M' w' v'/\Ext M w M' w'/\BD M0 w0 S (rs.set j (Bc e sz v')) M' w':=by
 have hz0:=hz;unfold Aw at hz;unfold CW at hby;unfold BZ at Dw;cases hi:P.info? e with
 |none=>rw[hi]at hz;cases hz
 |some i=>
  rw[hi]at hz hby Dw;simp only[Option.map_some,Option.some.injEq,Option.map_eq_some_iff]at hz hby Dw;obtain⟨z,WK,Dw⟩:=Dw;have Uv:z.cells.size=sz:=by rw[←hzl,←Dw];simp
  have hrn:r.new=true:=by rcases hr with rfl|⟨rfl,_⟩<;>rfl
  have AG3:∀b,r.blk=some b->D9 v=some b:=by intro b hb;rcases hr with rfl|⟨rfl,_⟩;exact hb;cases hb
  obtain⟨A,c,rfl,hnc,hcm,hA,hrows⟩:=hv;obtain⟨A',c',rfl,bY,Uw,ij,Fh⟩:=hu;have jr:(slice sz rows).h M w (.slice A rows.length c):=⟨A,c,rfl,hnc,hcm,hA,hrows⟩;have LV:(slice sz rows').h M w (.slice A' rows'.length c'):=⟨A',c',rfl,bY,Uw,ij,Fh⟩;rcases Nat.eq_zero_or_pos rows'.length with hm|hm
  .
   have:rows'=[]:=List.eq_nil_of_length_eq_zero hm;subst this;refine⟨_,w,M,HA ht hz0 hnc w,by simpa using jr,Ext.refl _ _,?_⟩;refine h.replace hj (Ext.refl _ _) rfl rfl rfl (fun _ _ _=>rfl) hrn (fun _ _ hm _=>hm) h.bd ?_ rfl (fun b hb=>?_)
   .
    rcases hr with rfl|⟨rfl,hnb⟩
    .exact(h.hold _ (List.mem_of_getElem? hj)).1
    .
     intro a n' c2 PZ hlt;exfalso
     injection PZ with h1 h2 h3
     subst h1;subst h2;subst h3;simp[D9,hlt]at hnb
   .
    rcases hr with rfl|⟨rfl,hnb⟩
    .exact⟨((h.hold _ (List.mem_of_getElem? hj)).2 b hb).1,.inl hb⟩
    .
     exfalso;have hb':D9 (.slice A rows.length c)=some b:=hb;rw[hnb]at hb';cases hb'
  .
   -- z_ is AA9: the source has an address
   obtain⟨OH,rfl⟩:∃OH,A'=some OH:=by
    obtain⟨_,b,hb,_⟩:=Fh 0 _ (List.getElem?_eq_getElem hm);exact⟨b,hb⟩
   obtain⟨news,RF,Yo⟩:=Fg hsz LV;have qB:rows.length+rows'.length<=9223372036854775807:=by unfold maxLen at GA;exact GA
   -- the new block
   have grown:∀(olds:List Value) (oc:Nat),Flat M w sz rows olds->oc<rows.length+rows'.length->
     (Builtin.append_ #[t, t] ty #[.slice A rows.length c, .slice (some OH) rows'.length c']).run P w = .ok (.slice (some ⟨w.heap.size, 0, none⟩) (rows.length + rows'.length) (grownCap w (rows.length + rows'.length) oc e))
      (w.drew.alloc (.cells (olds.toArray++news.toArray++Builtin.zeroCells z.cells (grownCap w (rows.length+rows'.length) oc e-(rows.length+rows'.length))) e))->
     ∃v' w' M',(Builtin.append_ #[t,t] ty #[.slice A rows.length c,.slice (some OH) rows'.length c']).run P w= .ok v' w'/\(slice sz (rows++rows')).h M' w' v'/\Ext M w M' w'/\BD M0 w0 S (rs.set j (Bc e sz v')) M' w':=by
    intro olds oc hfl hoc hrun
    generalize hcap:grownCap w (rows.length+rows'.length) oc e=cap at hrun
    have hge:rows.length+rows'.length<=cap:=by rw[←hcap];exact grownCap_ge _ _ _ _
    have hle:cap<=maxLen:=by rw[←hcap];exact grownCap_le_maxLen _ _ _ _ GA
    generalize Sg:Builtin.zeroCells z.cells (cap-(rows.length+rows'.length))=zc at hrun
    have hzs:zc.size=(cap-(rows.length+rows'.length))*sz:=by rw[←Sg,size_zeroCells,Uv]
    refine⟨_,_,fun b o=>M b o\/(b=w.heap.size/\(rows.length+rows'.length)*sz<=o),hrun,?_,?_,?_⟩
    .
     have EN:Ext M w (fun b o=>M b o\/(b=w.heap.size/\(rows.length+rows'.length)*sz<=o)) (w.drew.alloc (.cells (olds.toArray++news.toArray++zc) e)):=by
      have hb:Below w.heap.size w (w.drew.alloc (.cells (olds.toArray++news.toArray++zc) e)):=((Below.refl _ _).drew).alloc (Nat.le_refl _) _;have h2:=Ext.below (M:=M) hb;refine⟨h2.size,fun a v hc hm=>⟨fun hx=>?_,(h2.keep a v hc hm).2⟩,fun b o ho hp hm=>⟨fun hx=>?_,(h2.obj b o ho hp hm).2⟩⟩
      .
       rcases hx with hx|⟨hx,_⟩
       .exact DL
       .exact El
      .
       rcases hx with hx|⟨hx,_⟩
       .exact DL
       .subst hx;simp at ho
     have := FN (g := w.heap.size) (c := cap) ((hfl.app RF).st EN) (by simpa using hge) hle (fun k u hk => by
      refine⟨?_,fun hx=>?_⟩
      .
       have hh:(w.drew.alloc (.cells (olds.toArray++news.toArray++zc) e)).heap[w.heap.size]? =some (.cells (olds.toArray++news.toArray++zc) e (0,0)):=heap_alloc_new w.drew _;have YL:k<(olds++news).length:=by rcases Nat.lt_or_ge k (olds++news).length with h|h;exact h;rw[List.getElem?_eq_none h]at hk;cases hk
       simp only[World.cell?,hh];have hk2:k<(olds.toArray++news.toArray).size:=by simpa using YL
       rw[if_neg Ai,Array.getElem?_append_left hk2]
       simpa using hk
      .
       rcases hx with hx|⟨_,hx⟩
       .exact K8
       .
        have YL:k<(olds++news).length:=by rcases Nat.lt_or_ge k (olds++news).length with h|h;exact h;rw[List.getElem?_eq_none h]at hk;cases hk
        rw[List.length_append,hfl.1,RF.1,←Nat.add_mul]at YL
        omega)
     simpa using this
    .
     have hb:Below w.heap.size w (w.drew.alloc (.cells (olds.toArray++news.toArray++zc) e)):=((Below.refl _ _).drew).alloc (Nat.le_refl _) _;have h2:=Ext.below (M:=M) hb;refine⟨h2.size,fun a v hc hm=>⟨fun hx=>?_,(h2.keep a v hc hm).2⟩,fun b o ho hp hm=>⟨fun hx=>?_,(h2.obj b o ho hp hm).2⟩⟩
     .
      rcases hx with hx|⟨hx,_⟩
      .exact DL
      .exact El
     .
      rcases hx with hx|⟨hx,_⟩
      .exact DL
      .subst hx;simp at ho
    .
     have hb:Below w.heap.size w (w.drew.alloc (.cells (olds.toArray++news.toArray++zc) e)):=((Below.refl _ _).drew).alloc (Nat.le_refl _) _;have h2:=Ext.below (M:=M) hb;refine h.replace hj ⟨h2.size,fun a v hc hm=>⟨fun hx=>?_,(h2.keep a v hc hm).2⟩,fun b o ho hp hm=>⟨fun hx=>?_,(h2.obj b o ho hp hm).2⟩⟩ hb.os hb.tape hb.output (fun k hk _=>hb.block k hk) hrn (fun b o hm _=> .inl hm) (fun b o hx=>?_) ?_ rfl (fun b hbk=>?_)
     .
      rcases hx with hx|⟨hx,_⟩
      .exact DL
      .exact El
     .
      rcases hx with hx|⟨hx,_⟩
      .exact DL
      .subst hx;simp at ho
     .
      have hs1:(w.drew.alloc (.cells (olds.toArray++news.toArray++zc) e)).heap.size=w.heap.size+1:=by simp
      rcases hx with hx|⟨hx,_⟩
      .exact K8
      .omega
     .
      intro a n' c2 PZ hlt
      injection PZ with e1 e2 e3
      injection e1 with e1
      subst e1;subst e2;subst e3;refine⟨⟨olds++news,by rw[List.length_append,hfl.1,RF.1,Nat.add_mul],.inr ⟨w.heap.size,cap,olds.toArray++news.toArray++zc,rfl,Nat.zero_le _,heap_alloc_new w.drew _,hge,hle,?_,?_⟩⟩,fun o ho=> .inr ⟨rfl,ho⟩⟩
      .
       simp only[Array.size_append,List.size_toArray,hzs,hfl.1,RF.1,←Nat.add_mul]
       congr 1;omega
      .
       simp only[Array.toList_append];rw[←show(olds++news).length=(rows.length+rows'.length)*sz by rw[List.length_append,hfl.1,RF.1,Nat.add_mul]];exact List.take_left
     .
      have Ef:D9 (.slice (some ⟨w.heap.size,0,none⟩) (rows.length+rows'.length) cap)=some b:=hbk;simp only[D9]at Ef
      split at Ef
      .
       simp at Ef;subst Ef;exact⟨by simp,.inr (Nat.le_refl _)⟩
      .cases Ef
   by_cases hroom:rows.length+rows'.length<=c
   .
    -- in place
    have hlt:rows.length<c:=by omega
    obtain⟨a,rfl⟩:∃a,A=some a:=by
     cases A with
     |none=>have:=hA rfl;omega
     |some a=>exact⟨a,rfl⟩
    have hre:r=Bc e sz (.slice (some a) rows.length c):=by
     rcases hr with rfl|⟨rfl,hnb⟩
     .rfl
     .simp[D9,hlt]at hnb
    obtain⟨⟨xs,hown⟩,hspare⟩:=by
     have:=(h.hold r (List.mem_of_getElem? hj)).1;rw[hre]at this;exact this a _ _ rfl hlt
    obtain⟨g,cap,cur,PZ,_,hh,_,_,hcs,htk⟩:∃g cap cur,Value.slice (some a) rows.length c= .slice (some ⟨g,0,none⟩) rows.length cap/\0<=g/\w.heap[g]? =some (.cells cur e (0,0))/\rows.length<=cap/\cap<=maxLen/\cur.size=cap*sz/\cur.toList.take (rows.length*sz)=xs:=by
     rcases hown.2 with⟨h1,_⟩|h1
     .injection h1 with h1;cases h1
     .exact h1
    injection PZ with e1 _ e3
    injection e1 with e1
    subst e1;subst e3;obtain⟨w',hrun,u6,hgrow⟩:=run_append_fits (P:=P) w 0 t ty e i sz ht hi hz g rows.length c xs hown OH rows'.length c' news RF.1 (fun k u hk=>(Yo k u hk).1) RF.2.1 hroom;obtain⟨olds,hfl,hcell⟩:=Fg hsz jr
    obtain⟨cur',hh',AHQ,AFI⟩:∃cur',w'.heap[g]? =some (.cells cur' e (0,0))/\cur'.size=c*sz/\cur'.toList.take ((rows.length+rows'.length)*sz)=xs++news:=by
     rcases u6.2 with⟨h1,_⟩|⟨g2,RG,AFJ,h1,_,h2,_,_,h3,h4⟩
     .injection h1 with h1;cases h1
     .
      injection h1 with e1 _ e3
      injection e1 with e1
      injection e1 with e1
      subst e1;subst e3;exact⟨AFJ,h2,h3,h4⟩
    have jt:∀k u,(xs++news)[k]? =some u->w'.cell? ⟨g,k,none⟩=some u:=by
     intro k u hk;simp only[World.cell?,hh'];rw[if_neg Ai,←Array.getElem?_toList];rw[←AFI,List.getElem?_take]at hk
     split at hk
     .exact hk
     .cases hk
    have Wf:∀k u,xs[k]? =some u->w.cell? ⟨g,k,none⟩=some u:=by
     intro k u hk;simp only[World.cell?,hh];rw[if_neg Ai,←Array.getElem?_toList];rw[←htk,List.getElem?_take]at hk
     split at hk
     .exact hk
     .cases hk
    have hxs:xs.length=rows.length*sz:=hown.1
    have hoe:olds=xs:=by
     apply List.ext_getElem?
     intro k
     by_cases hk:k<rows.length*sz
     .
      have h1:k<olds.length:=by rw[hfl.1];exact hk
      have h2:k<xs.length:=by rw[hxs];exact hk
      have h3:=(hcell k _ (List.getElem?_eq_getElem h1)).1;rw[show Addr.add ⟨g,0,none⟩ k=⟨g,k,none⟩by unfold Addr.add;split<;>simp_all]at h3;have h4:=Wf k _ (List.getElem?_eq_getElem h2);rw[h3]at h4;rw[List.getElem?_eq_getElem h1,List.getElem?_eq_getElem h2];exact h4
     .rw[List.getElem?_eq_none (by rw[hfl.1];omega),List.getElem?_eq_none (by rw[hxs];omega)]
    subst hoe
    have EN:Ext M w (fun b o=>M b o/\¬(b=g/\o<(rows.length+rows'.length)*sz)) w':=by
     refine⟨hgrow.size,fun ad v hc hm=>⟨fun hx=>hm hx.1,?_⟩,fun b o ho hp hm=>⟨fun hx=>hm hx.1,?_⟩⟩
     .
      by_cases hb:ad.block=g
      .
       have AG4:ad.spot=none:=by
        unfold World.cell? at hc;rw[hb,hh]at hc;simp only[]at hc;cases hs:ad.spot with
        |none=>rfl
        |some s=>rw[hs]at hc;simp at hc
       have AA_:ad.off<rows.length*sz:=by
        rcases Nat.lt_or_ge ad.off (rows.length*sz)with h1|h1
        .exact h1
        .exact absurd (by rw[hb];exact hspare _ h1) hm
       have had:ad=⟨g,ad.off,none⟩:=by cases ad;simp_all
       have h2:ad.off<olds.length:=by rw[hfl.1];exact AA_
       have h4:=Wf ad.off _ (List.getElem?_eq_getElem h2);rw[←had,hc]at h4;have h5:=jt ad.off _ (by rw[List.getElem?_append_left h2];exact List.getElem?_eq_getElem h2);rw[←had]at h5;rw[h5,←h4]
      .rw[World.cell?_of_block (w:=w) (hgrow.block ad.block (UW hc) (fun e=>hb (by injection e)))];exact hc
     .
      by_cases hb:b=g
      .subst hb;rw[hh]at ho;cases ho;cases hp
      .rw[hgrow.block b (by rcases Nat.lt_or_ge b w.heap.size with h|h;exact h;rw[Array.getElem?_eq_none h]at ho;cases ho) (fun e=>hb (by injection e))];exact ho
    have hgl:g<w.heap.size:=by rcases Nat.lt_or_ge g w.heap.size with h|h;exact h;rw[Array.getElem?_eq_none h]at hh;cases hh
    refine⟨_,w',_,hrun,?_,EN,?_⟩
    .
     have := FN (g := g) (c := c) ((hfl.app RF).st EN) (by simpa using hroom) hcm (fun k u hk => ⟨jt k u hk, fun hx => hx.2 ⟨rfl, by
      have YL:k<(olds++news).length:=by rcases Nat.lt_or_ge k (olds++news).length with h|h;exact h;rw[List.getElem?_eq_none h]at hk;cases hk
      rw[List.length_append,hfl.1,RF.1,←Nat.add_mul]at YL
      exact YL⟩⟩)
     simpa using this
    .
     have hrb:r.blk=some g:=by rw[hre];simp[Bc,D9,hlt]
     refine h.replace hj EN hgrow.os hgrow.tape hgrow.output (fun k hk hne=>hgrow.block k hk (fun e=>hne (by rw[hrb];exact e.symm))) hrn (fun b o hm hne=>⟨hm,fun hx=>hne (by rw[hrb,hx.1])⟩) (fun b o hx=>Nat.lt_of_lt_of_le (h.bd b o hx.1) hgrow.size) ?_ rfl (fun b hbk=>?_)
     .
      intro a n' c2 PZ AA_
      injection PZ with e1 e2 e3
      injection e1 with e1
      subst e1;subst e2;subst e3;refine⟨⟨_,u6⟩,fun o ho=>⟨hspare o (Nat.le_trans (Nat.mul_le_mul_right sz AA) ho),fun hx=>by omega⟩⟩
     .
      have Ef:D9 (.slice (some ⟨g,0,none⟩) (rows.length+rows'.length) c)=some b:=hbk;simp only[D9]at Ef
      split at Ef
      .
       simp at Ef;subst Ef;exact⟨Nat.lt_of_lt_of_le hgl hgrow.size,.inl hrb⟩
      .cases Ef
   .
    -- a new block
    cases A with
    |none=>
     have h0:rows.length=0:=by have:=hA rfl;omega
     have:rows=[]:=List.eq_nil_of_length_eq_zero h0;subst this;have hc0:c=0:=hA rfl;subst hc0;have hrun:=run_append_nil (P:=P) w t ty e i z ht hi WK OH rows'.length c' news (by rw[hz];exact RF.1) (fun k u hk=>(Yo k u hk).1) hm (by simp at qB;omega) (by rw[hby];simp at hfit;omega);refine grown [] 0 ⟨by simp,fun _ h=>by simp at h,fun i row h=>by simp at h⟩ (by simpa using hm) ?_
     simpa using hrun
    |some a=>
     obtain⟨olds,hfl,hcell⟩:=Fg hsz jr;have hns:Builtin.nextslicecap (rows.length+rows'.length) c<=2*(rows.length+rows'.length):=nextslicecap_le AA
     have hrun := run_append_grow (P := P) w t ty e i z ht hi WK a rows.length c olds (by rw[hz]; exact hfl.1) (fun k u hk => (hcell k u hk).1) OH rows'.length c' news (by rw[hz]; exact RF.1) (fun k u hk => (Yo k u hk).1) AA AA
      (by rw[hby];have:=Nat.mul_le_mul_right bytes hns;rw[Nat.mul_assoc]at this;omega)
     exact grown olds c hfl AA hrun
end
section
variable{P:Program}{L:Lg P}{n:Fm}{fz:Nat}{E:Env}{M0:Av}{w0:World}{S:Nat->Prop}{o:Oper}{r:List Oper}{ops:Array Oper}{rs:List SR}{K:List X->Env->List SR->Prop}
def Aj(v:Value)(p:Pr):Pr where
 h M w u:=u=v/\p.h M w u
 st _M _w _M' _w' _u he h:=⟨h.1,p.st _ _ _ _ _ he h.2⟩
theorem A0(v:Value)(p:Pr):Pr.le (Aj v p) p:=fun _ _ _ h=>h.2
theorem Cy(v:Value)(p:Pr):Pr.le (Aj v p) (is v):=fun _ _ _ h=>h.1
instance AAA (v:Value)(p:Pr)[One p]:One (Aj v p):=⟨fun M w u h=>One.one (p:=p) M w u h.2⟩
theorem Cx.nil(h:K [] E rs):Cx P M0 w0 S n ops [] E rs K:=h
theorem Cx.op(hg:o.guard=none)(hd:o.dst=some d)(hn:d<n)(h:∀I:Cj,Af P I o E p)(k:Cx P M0 w0 S n ops r ((d,p)::E) rs (fun L E' rs'=>K (⟨o,p,.pure⟩::L) E' rs')):Cx P M0 w0 S n ops (o::r) E rs K:=
 ⟨p,.pure,by unfold XOK;simp only[hg];exact h,fun d' hd'=>by rw[hd]at hd';cases hd';exact hn,by unfold upd;rw[hd];exact k⟩
theorem Cx.yes{g:Nat}{b want:Bool}(hg:o.guard=some (j,want))(hj:(ops[j]?).bind (·.dst)=some g)(hb:E.lookup g=some (bool b))(OA:b=want)(hd:o.dst=some d)(hn:d<n)(h:∀I:Cj,Af P I o E p)(k:Cx P M0 w0 S n ops r ((d,p)::E) rs (fun L E' rs'=>K (⟨o,p,.pure⟩::L) E' rs')):Cx P M0 w0 S n ops (o::r) E rs K:=
 ⟨p,.pure,by unfold XOK;simp only[hg];exact⟨g,some b,hj,hb,fun _=>h,fun hne=>absurd (congrArg some OA) hne⟩,fun d' hd'=>by rw[hd]at hd';cases hd';exact hn,by unfold upd;rw[hd];exact k⟩
theorem Cx.no{g:Nat}{b want:Bool}(hg:o.guard=some (j,want))(hj:(ops[j]?).bind (·.dst)=some g)(hb:E.lookup g=some (bool b))(OA:b≠want)(hd:o.dst=some d)(hn:d<n)(k:Cx P M0 w0 S n ops r ((d,is undef)::E) rs (fun L E' rs'=>K (⟨o,is undef,.pure⟩::L) E' rs')):Cx P M0 w0 S n ops (o::r) E rs K:=
 ⟨is undef,.pure,by unfold XOK;simp only[hg];exact⟨g,some b,hj,hb,fun he=>absurd (Option.some.inj he) OA,fun _=>trivial⟩,fun d' hd'=>by rw[hd]at hd';cases hd';exact hn,by unfold upd;rw[hd];exact k⟩
theorem Cx.cases(g:Nat){b:Bool}{l:List Oper}(_hb:E.lookup g=some (bool b))(ht:b=true->Cx P M0 w0 S n ops l E rs K)(hf:b=false->Cx P M0 w0 S n ops l E rs K):Cx P M0 w0 S n ops l E rs K:=by
 cases b
 .exact hf rfl
 .exact ht rfl
theorem Cx.rd(j:Nat){R:SR}(hR:rs[j]? =some R)(hg:o.guard=none)(hd:o.dst=some d)(hn:d<n)(h:JU P M0 w0 S j R o E p)(k:Cx P M0 w0 S n ops r ((d,p)::E) rs (fun L E' rs'=>K (⟨o,p,.rd j R⟩::L) E' rs')):Cx P M0 w0 S n ops (o::r) E rs K:=
 ⟨p,.rd j R,by unfold XOK;simp only[hg];exact⟨hR,h⟩,fun d' hd'=>by rw[hd]at hd';cases hd';exact hn,by unfold upd;rw[hd];exact k⟩
theorem Cx.ef(j:Nat){R R':SR}(hR:rs[j]? =some R)(hd:o.dst=some d)(hn:d<n)(h:D8 P M0 w0 S n j R R' o E p)(k:Cx P M0 w0 S n ops r ((d,p)::E) (rs.set j R') (fun L E' rs'=>K (⟨o,p,.ef j R R'⟩::L) E' rs')):Cx P M0 w0 S n ops (o::r) E rs K:=
 ⟨p,.ef j R R',by unfold XOK;exact⟨hR,h⟩,fun d' hd'=>by rw[hd]at hd';cases hd';exact hn,by unfold upd;rw[hd];exact k⟩
theorem Cx.ED(j:Nat){R R':SR}(hR:rs[j]? =some R)(hd:o.dst=none)(h:D8 P M0 w0 S n j R R' o E p)(k:Cx P M0 w0 S n ops r E (rs.set j R') (fun L E' rs'=>K (⟨o,p,.ef j R R'⟩::L) E' rs')):Cx P M0 w0 S n ops (o::r) E rs K:=
 ⟨p,.ef j R R',by unfold XOK;exact⟨hR,h⟩,(fun d' hd'=>by rw[hd]at hd';cases hd'),(by unfold upd;rw[hd];exact k)⟩
inductive Cu:List SR->List Ay->Prop where
 |map (rs:List Ay):Cu (rs.map SR.c) rs
 |cons {r:Ay} {l:List SR} {m:List Ay} (h:Cu l m):Cu (SR.c r::l) (r::m)
theorem Cu.at_{l:List SR}{m:List Ay}(h:Cu l m)(a:Act):l.map (·.at_ a)=m:=by
 induction h with
 |map rs=>rw[List.map_map];exact List.map_id'' (fun r=>rfl) rs
 |cons h ih=>simp[ih,AFH]
theorem BG.done{Q:Exit->Act->World->Prop}{It:List Ay}(h:Cu rs It)(k:Fin n E (Hp M0 w0 S It) Q .normal):BG n M0 w0 S E rs Q:=by
 rintro a w ⟨M,h1,h2,h3,h4⟩;rw[h.at_ a]at h4;exact k a w ⟨M,h1,h2,h3,h4⟩
theorem BG.open_{Q:Exit->Act->World->Prop}(j s:Nat){f:Value->Ay}(hR:rs[j]? =some ⟨s,f⟩)(hs:E.lookup s=some p)(k:∀v,BG n M0 w0 S ((s,Aj v p)::E) (rs.set j (SR.c (f v))) Q):BG n M0 w0 S E rs Q:=by
 rintro a w ⟨M,h1,h2,h3,h4⟩;refine k (a.tmps.getD s undef) a w ⟨M,h1,h2,?_,?_⟩
 .
  intro t q hq;simp only[List.lookup]at hq
  by_cases ht:t=s
  .exact aq
  .rw[show(t==s)=false by simpa using ht]at hq;exact h3 t q hq
 .
  have:(rs.set j (SR.c (f (a.tmps.getD s undef)))).map (·.at_ a)=rs.map (·.at_ a):=by
   rw[List.map_set]
   apply List.ext_getElem?
   intro i;rw[List.getElem?_set]
   by_cases hij:j=i
   .
    subst hij;rw[if_pos rfl]
    split
    .rw[List.getElem?_map,hR];rfl
    .
     rename_i hge
     rw[List.getElem?_eq_none AA]
   .rw[if_neg hij]
  rw[this];exact h4
theorem BD.perm{rs rs':List Ay}(hp:rs.Perm rs')(h:BD M0 w0 S rs M w):BD M0 w0 S rs' M w:=
 ⟨h.m0,h.m,h.os,h.tape,h.output,h.size,h.block,h.bd,fun r hr=>h.hold r (hp.mem_iff.2 hr),
  (hp.pairwise_iff (fun{_x _y} hxy b h1 h2=>hxy b h2 h1)).1 h.nd⟩
theorem AM{rs:List Ay}{r:Ay}(hj:rs[j]? =some r):rs.Perm (r::rs.eraseIdx j):=by
 have hl:j<rs.length:=by rcases Nat.lt_or_ge j rs.length with h|h;exact h;rw[List.getElem?_eq_none h]at hj;cases hj
 rw[List.getElem?_eq_getElem hl]at hj;simp only[Option.some.injEq]at hj;rw[←hj]
 clear hj
 induction rs generalizing j with
 |nil=>simp at hl
 |cons a rs ih=>
  cases j with
  |zero=>simp
  |succ j=>
   simp only[List.getElem_cons_succ,List.eraseIdx_cons_succ];exact((ih (by simpa using hl)).cons a).trans (List.Perm.swap _ _ _)
theorem NC{rs:List Ay}{r:Ay}(hl:j<rs.length):(r::rs.eraseIdx j).Perm (rs.set j r):=by
 have h1:(rs.set j r)[j]? =some r:=by rw[List.getElem?_set,if_pos rfl,if_pos hl]
 have h2:=AM h1;rw[List.eraseIdx_set_eq]at h2;exact h2.symm
theorem BD.Hg{rs:List Ay}{r:Ay}(h:BD M0 w0 S (r::rs) M w):BD M0 w0 S rs M w:=
 ⟨h.m0,h.m,h.os,h.tape,h.output,h.size,h.block,h.bd,fun q hq=>h.hold q (List.mem_cons_of_mem _ hq),(List.pairwise_cons.1 h.nd).2⟩
theorem BD.JI{rs:List Ay}{r:Ay}(h:BD M0 w0 S rs M w)(hb:r.blk=none)(hh:r.h M w):BD M0 w0 S (r::rs) M w:=
 ⟨h.m0,h.m,h.os,h.tape,h.output,h.size,h.block,h.bd,fun q hq=>by
  rcases List.mem_cons.1 hq with rfl|hq
  .exact⟨hh,fun b hb'=>by rw[hb]at hb';cases hb'⟩
  .exact h.hold q hq,List.Pairwise.cons (fun q _ b hb'=>by rw[hb]at hb';cases hb') h.nd⟩
theorem St.pad{rs:List Ay}(h:St n E (Hp M0 w0 S rs) a w):St n E (Hp M0 w0 S (Bb::rs)) a w:=
 let ⟨M,h1,h2,h3,h4⟩:=h;⟨M,h1,h2,h3,BD.JI h4 rfl trivial⟩
theorem St.drop{rs:List Ay}(i:Nat)(h:St n E (Hp M0 w0 S rs) a w):St n E (Hp M0 w0 S (rs.eraseIdx i)) a w:=by
 obtain⟨M,h1,h2,h3,h4⟩:=h;refine⟨M,h1,h2,h3,?_⟩;show BD M0 w0 S (rs.eraseIdx i) M w
 by_cases hi:i<rs.length
 .exact(BD.perm (AM (List.getElem?_eq_getElem hi)) h4).Hg
 .rw[List.eraseIdx_of_length_le AA];exact h4
theorem Tr.pad{Q:Exit->Act->World->Prop}{c:Code}{rs:List Ay}(h:Tr L n E (Hp M0 w0 S (Bb::rs)) c Q):Tr L n E (Hp M0 w0 S rs) c Q:=Tr.conv (fun _ _ hs=>hs.pad) h
theorem Tr.drop{Q:Exit->Act->World->Prop}{c:Code}{rs:List Ay}(i:Nat)(h:Tr L n E (Hp M0 w0 S (rs.eraseIdx i)) c Q):Tr L n E (Hp M0 w0 S rs) c Q:=Tr.conv (fun _ _ hs=>hs.drop i) h
theorem Fin.drop{Q:Exit->Act->World->Prop}{e:Exit}{rs:List Ay}(i:Nat)(h:Fin n E (Hp M0 w0 S (rs.eraseIdx i)) Q e):Fin n E (Hp M0 w0 S rs) Q e:=Fin.conv (fun _ _ hs=>hs.drop i) h
theorem TO.pad{Q:Exit->Act->World->Prop}{rs:List Ay}(h:TO P n ops r E (Hp M0 w0 S (Bb::rs)) Q):TO P n ops r E (Hp M0 w0 S rs) Q:=TO.conv (fun _ _ hs=>hs.pad) h
theorem TO.drop{Q:Exit->Act->World->Prop}{rs:List Ay}(i:Nat)(h:TO P n ops r E (Hp M0 w0 S (rs.eraseIdx i)) Q):TO P n ops r E (Hp M0 w0 S rs) Q:=TO.conv (fun _ _ hs=>hs.drop i) h
theorem TO.LC{Q:Exit->Act->World->Prop}{rs:List Ay}(j:Nat){R:Ay}{R':Ay}(hR:rs[j]? =some R)(hd:o.dst=some d)(hn:d<n)(h:D8 P M0 w0 S n j (SR.c R) (SR.c R') o E p)(k:TO P n ops r ((d,p)::E) (Hp M0 w0 S (rs.set j R')) Q):TO P n ops (o::r) E (Hp M0 w0 S rs) Q:=
 TO.bT h.1 fun K M w a hsz hdf he hI hK => LB (h.2 M w a rs hsz (Cq he) hI hR) fun v w' M' hv hx QD => hK _ _ _ _ k ⟨M', by rw[CC]; exact hsz, by rw[put_defers]; exact hdf, by
  intro s q hq;simp only[List.lookup]at hq
  by_cases hs:s=d
  .subst hs;simp at hq;subst hq;rw[hd,B6 IZ];exact hv
  .rw[show(s==d)=false by simpa using hs]at hq;rw[hd,Ba hs];exact q.st _ _ _ _ _ hx (he s q hq),QD⟩
theorem TO.EV{Q:Exit->Act->World->Prop}{rs:List Ay}(j:Nat){R:Ay}{f:Value->Ay}(hR:rs[j]? =some R)(hd:o.dst=some d)(hn:d<n)(h:D8 P M0 w0 S n j (SR.c R) ⟨d,f⟩ o E p)(k:∀v,TO P n ops r ((d,Aj v p)::E) (Hp M0 w0 S (rs.set j (f v))) Q):TO P n ops (o::r) E (Hp M0 w0 S rs) Q:=
 TO.bT h.1 fun K M w a hsz hdf he hI hK => LB (h.2 M w a rs hsz (Cq he) hI hR) fun v w' M' hv hx QD => hK _ _ _ _ (k v) ⟨M', by rw[CC]; exact hsz, by rw[put_defers]; exact hdf, by
  intro s q hq;simp only[List.lookup]at hq
  by_cases hs:s=d
  .subst hs;simp at hq;subst hq;rw[hd,B6 IZ];exact⟨rfl,hv⟩
  .rw[show(s==d)=false by simpa using hs]at hq;rw[hd,Ba hs];exact q.st _ _ _ _ _ hx (he s q hq),by
  have:(SR.at_ (a.put o.dst v) ⟨d,f⟩)=f v:=by unfold SR.at_ Slot.val;dsimp only;rw[hd,B6 IZ]
  rw[this]at QD;exact QD⟩
theorem TO.ED{Q:Exit->Act->World->Prop}{rs:List Ay}(j:Nat){R:Ay}{R':Ay}(hR:rs[j]? =some R)(hd:o.dst=none)(h:D8 P M0 w0 S n j (SR.c R) (SR.c R') o E p)(k:TO P n ops r E (Hp M0 w0 S (rs.set j R')) Q):TO P n ops (o::r) E (Hp M0 w0 S rs) Q:=
 TO.bT h.1 fun K M w a hsz hdf he hI hK => LB (h.2 M w a rs hsz (Cq he) hI hR) fun v w' M' hv hx QD => hK _ _ _ _ k ⟨M', by rw[CC]; exact hsz, by rw[put_defers]; exact hdf, by
  intro s q hq;rw[hd];exact q.st _ _ _ _ _ hx (he s q hq),QD⟩
theorem TO.rd{Q:Exit->Act->World->Prop}{rs:List Ay}(j:Nat){R:Ay}(hR:rs[j]? =some R)(hg:o.guard=none)(hd:o.dst=some d)(hn:d<n)(h:JU P M0 w0 S j (SR.c R) o E p)(k:TO P n ops r ((d,p)::E) (Hp M0 w0 S rs) Q):TO P n ops (o::r) E (Hp M0 w0 S rs) Q:=
 TO.op hg hd hn (I:=Hp M0 w0 S rs) (fun M w a he hI=>h M w a rs he hI hR) k
theorem Bi{rs:List Ay}(j:Nat){R:Ay}(hR:rs[j]? =some R)(h:JU P M0 w0 S j (SR.c R) o E p):Af P (Hp M0 w0 S rs) o E p:=fun M w a he hI=>h M w a rs he hI hR
abbrev ptr(b off:Nat):Pr:=is (.pointer (some ⟨b,off,none⟩))
theorem DE(b off k:Nat):Addr.add ⟨b,off,none⟩ k=⟨b,off+k,none⟩:=by unfold Addr.add;split<;>simp_all
section
variable{I:Cj}
theorem AG{s:TypeId}{f b off:Nat}(ho:o.op= .fieldAddr s x f)(hk:Ah P s f=some k)(hx:VL E x (ptr b off)):Af P I o E (ptr b (off+k)):=
 Af.same fun M w a he _=>by
  have h1:a.eval x=_:=hx.ev he Am;refine⟨.pointer (some ⟨b,off+k,none⟩),?_,rfl⟩;simp[execOp,ho,h1,KH hk,DE]
theorem A8{b off:Nat}(ho:o.op= .nilCheck x)(hx:VL E x (ptr b off)):Af P I o E (ptr b off):=
 Af.same fun M w a he _=>by
  have h1:a.eval x=_:=hx.ev he Am;exact⟨_,by simp[execOp,ho,h1],rfl⟩
theorem PF{t e:TypeId}{y:Operand}{k:IntKind}{i:Int}{len sz:Nat}(ho:o.op= .indexAddr t x y)(ht:P.underlying t=some (.array len e))(hz:Aw P e=some sz)(hx:VL E x (ref ps))(hy:VL E y (is (.int k i)))(h0:0<=i)(hl:i<len)(hq:ps.drop (i.toNat*sz)=qs):Af P I o E (ref qs):=
 Af.same fun M w a he _=>by
  obtain⟨ad,h1,h2⟩:=hx.ev he Am;have h5:a.eval y= .int k i:=hy.ev he Am;refine⟨.pointer (some (ad.add (i.toNat*sz))),?_,_,rfl,by rw[←hq];exact h2.drop⟩;simp[execOp,ho,h1,h5,Instr.indexAt,asIntOf,run_underlying ht,Bz hz,h0,hl,Instr.sureAddr]
theorem RH{t:TypeId}(ho:o.op= .load t x)(ht:EC P t=true)(hx:VL E x (ref ps))(hp:ps[0]? =some p):Af P I o E p:=by
 cases ps with
 |nil=>simp at hp
 |cons q ps=>simp at hp;subst hp;exact Q8 ho ht hx
end
theorem A9{t:TypeId}{b off:Nat}(ho:o.op= .load t x)(ht:EC P t=true)(hx:VL E x (ptr b off))(hp:ps[off]? =some p):JU P M0 w0 S j (SR.c (AE new b T ps)) o E p:=by
 intro M w a rs he hI hj;have h1:a.eval x=_:=hx.ev he Am;obtain⟨⟨_,cs,h4,h5,_⟩,_⟩:=hI.hold _ (List.mem_of_getElem? hj);obtain⟨v,hv,hh⟩:=h5.at_ off p hp;have hc:w.cell? ⟨b,off,none⟩=some v:=by simp[World.cell?,h4,hv]
 have hrun:(execOp a.eval o).run P w= .ok (.value v) w:=by simp[execOp,ho,h1,Instr.loadAt,Instr.sureAddr,loadVar,EZ ht,hc]
 rw[hrun];exact⟨hh,Below.refl _ _⟩
theorem Di{t:TypeId}{b off:Nat}(ho:o.op= .load t x)(ht:FG P t=true)(hz:Aw P t=some m)(hx:VL E x (ptr b off))(hq:(ps.drop off).take m=qs)(hm:qs.length=m):
  JU P M0 w0 S j (SR.c (AE new b T ps)) o E (agg qs):=by
 intro M w a rs he hI hj;have h1:a.eval x=_:=hx.ev he Am;obtain⟨⟨_,cs,h4,h5,h6⟩,_⟩:=hI.hold _ (List.mem_of_getElem? hj);have h7:HL M w qs ((cs.drop off).take m):=by rw[←hq];exact(h5.drop off).take m
 have hl:((cs.drop off).take m).length=m:=by rw[h7.length,hm]
 have hrun:(loadCells ⟨b,off,none⟩ m).run P w= .ok ((cs.drop off).take m).toArray w:=by
  have:=run_loadCells_list (P:=P) w ⟨b,off,none⟩ ((cs.drop off).take m) (fun k v hv=>by
   rw[DE];rw[List.getElem?_take]at hv
   split at hv
   .rw[List.getElem?_drop]at hv;simp[World.cell?,h4,hv]
   .cases hv)
  rwa [hl]at this
 have DV:(execOp a.eval o).run P w= .ok (.value (.agg ((cs.drop off).take m).toArray)) w:=by simp[execOp,ho,h1,Instr.loadAt,Instr.sureAddr,loadVar,FL ht,Bz hz,hrun]
 rw[DV];exact⟨⟨_,rfl,fun c hc=>h6 c (List.mem_of_mem_drop (List.mem_of_mem_take hc)),h7⟩,Below.refl _ _⟩
theorem BP{t:TypeId}{y:Operand}{b off:Nat}{ps':List Pr}(hg:o.guard=none)(ho:o.op= .store t x y)(hx:VL E x (ptr b off))(hy:VL E y (D7 qs))(hz:Aw P t=some m)(hm:qs.length=m)(hl:off+m<=ps.length)(hps:ps.take off++qs++ps.drop (off+m)=ps'):D8 P M0 w0 S n j (SR.c (AE new b T ps)) (SR.c (AE new b T ps')) o E any:=by
 refine⟨hg,fun M w a rs hsz he hI hj=>?_⟩;have h1:a.eval x= .pointer (some ⟨b,off,none⟩):=hx.ev he Am;obtain⟨h2,h3⟩:=hy.ev he (show y∈o.op.operands.toList by simp[ho,Op.operands]);obtain⟨⟨_,cs,h4,h5,h6⟩,_⟩:=hI.hold _ (List.mem_of_getElem? hj);have pK:=h5.length;have h2l:=h2.length;have hcells:(a.eval y).cells.size=m:=by rw[←hm,←h2l];simp
 have hrun:(storeCells ⟨b,off,none⟩ (a.eval y).cells.toList 0).run P w= .ok () (w.setRow b (cs.take off++(a.eval y).cells.toList++cs.drop (off+m)).toArray):=by
  have:=run_storeCells_at (P:=P) b off T (a.eval y).cells.toList 0 cs.toArray w h4 Ci h3
  simpa[hcells]using this
 have DV:(execOp a.eval o).run P w= .ok .skip (w.setRow b (cs.take off++(a.eval y).cells.toList++cs.drop (off+m)).toArray):=by
  simp[execOp,ho,h1,Instr.storeAt,Instr.sureAddr,storeVar,Bz hz,hcells,hrun]
 rw[DV]
 obtain⟨h7, h8⟩ := BD.write (qs := ps') (cs := cs.take off ++ (a.eval y).cells.toList ++ cs.drop (off + m)) hI hj (by rw[← hps]; exact(((h5.take off).app h2)).app (h5.drop (off + m)))
  (fun c hc=>by
   simp only[List.mem_append]at hc;rcases hc with(hc|hc)|hc
   .exact Mx
   .exact h3 c hc
   .exact h6 c (List.mem_of_mem_drop hc))
 exact⟨M,trivial,h8,h7⟩
theorem Bp{t e:TypeId}{y:Operand}{sz bytes:Nat}{rows':List (List Pr)}{R:SR}(hg:o.guard=none)(hd:o.dst=some d)(hn:d<n)(ho:o.op= .call { callee:= .builtin .append,args:= #[x,y],argTypes:= #[t,t] })(ht:P.underlying t=some (.slice e))(hz:Aw P e=some sz)(hby:CW P e=some bytes)(Dw:BZ P e=some zs)(hzl:zs.length=sz)(hsz:0<sz)(hx:VL E x (slice sz rows))(hy:VL E y (slice sz rows'))(GA:rows.length+rows'.length<=maxLen)(hfit:(rows.length+rows'.length)*bytes<=140737488355328)(hR:∀M w (a:Act),C2 M w E o a->R.at_ a=Bc e sz (a.eval x)\/(R.at_ a=Bb/\D9 (a.eval x)=none)):D8 P M0 w0 S n j R ⟨d,Bc e sz⟩ o E (slice sz (rows++rows')):=by
 refine⟨hg,fun M w a rs Ms he hI hj=>?_⟩;have h1:=hx.ev he CB;have h2:=hy.ev he CB;obtain⟨v',w',M',hrun,h3,h4,h5⟩:=RE (ty:=o.type) ht hz hby Dw hzl hsz hI hj (hR M w a he) h1 h2 GA hfit;have DV:(execOp a.eval o).run P w= .ok (.value v') w':=by simp[execOp,ho,resolve,invoke,builtin,hrun]
 rw[DV];refine⟨M',h3,h4,?_⟩;have:(SR.at_ (a.put o.dst v') ⟨d,Bc e sz⟩)=Bc e sz v':=by unfold SR.at_ Slot.val;dsimp only;rw[hd,B6 HK]
 rw[this];exact h5
theorem ND{x:Nat}{f:Value->Ay}(hg:o.guard=none)(hd:o.dst=some d)(hn:d<n)(ho:o.op= .assign (.tmp x))(hx:VL E (.tmp x) p):D8 P M0 w0 S n j ⟨x,f⟩ ⟨d,f⟩ o E p:=by
 refine⟨hg,fun M w a rs hsz he hI hj=>?_⟩;have h1:=hx.ev he Am;have hrun:(execOp a.eval o).run P w= .ok (.value (a.eval (.tmp x))) w:=by simp[execOp,ho]
 rw[hrun];refine⟨M,h1,Ext.refl _ _,?_⟩;have:(SR.at_ (a.put o.dst (a.eval (.tmp x))) ⟨d,f⟩)=SR.at_ a ⟨x,f⟩:=by unfold SR.at_ Slot.val;dsimp only;rw[hd,B6 IZ];rfl
 rw[this];have hjl:j<rs.length:=by rcases Nat.lt_or_ge j rs.length with h|h;exact h;rw[List.getElem?_eq_none h]at hj;cases hj
 have:rs.set j (SR.at_ a ⟨x,f⟩)=rs:=by
  apply List.ext_getElem?
  intro i;rw[List.getElem?_set]
  by_cases e:j=i
  .subst e;rw[if_pos rfl,if_pos hjl,hj]
  .rw[if_neg e]
 rw[this];exact hI
theorem TD{e:TypeId}{sz s:Nat}:∀(M:Av) (w:World) (a:Act),C2 M w E o a->SR.at_ a ⟨s,Bc e sz⟩=Bc e sz (a.eval (.tmp s))\/(SR.at_ a ⟨s,Bc e sz⟩=Bb/\D9 (a.eval (.tmp s))=none):=fun _ _ _ _=> .inl rfl
theorem CA{e:TypeId}{sz:Nat}(hm:x∈o.op.operands.toList)(hx:VL E x (is v)):∀(M:Av) (w:World) (a:Act),C2 M w E o a->SR.at_ a (SR.c (Bc e sz v))=Bc e sz (a.eval x)\/(SR.at_ a (SR.c (Bc e sz v))=Bb/\D9 (a.eval x)=none):=by
 intro M w a he;have h1:a.eval x=v:=hx.ev he hm;rw[h1];exact .inl rfl
theorem Bv{e:TypeId}{sz sz':Nat}(hm:x∈o.op.operands.toList)(hx:VL E x (full sz' rows)):∀(M:Av) (w:World) (a:Act),C2 M w E o a->SR.at_ a (SR.c Bb)=Bc e sz (a.eval x)\/(SR.at_ a (SR.c Bb)=Bb/\D9 (a.eval x)=none):=by
 intro M w a he;obtain⟨_,A,h1⟩:=hx.ev he hm;refine .inr ⟨rfl,?_⟩;rw[h1];cases A<;>simp[D9]
theorem FK(sz:Nat):Pr.le (is (.slice none 0 0)) (full sz []):=by
 rintro M w v rfl;exact⟨⟨none,0,rfl,Nat.le_refl _,Nat.zero_le _,fun _=>rfl,fun i row h=>by simp at h⟩,none,rfl⟩
theorem AH(sz:Nat):Pr.le (is (.slice none 0 0)) (slice sz []):=Pr.le_trans (FK sz) (A_ sz [])
def Ao(M1:Av)(w1:World):Ay:=⟨none,true,fun M w=>Ext M1 w1 M w,fun _ _ _ _ he _ h=>h.trans he⟩
def BM(P:Program)(f:FuncId)(args:List Pr)(res:Pr)(r:Ay)(r':Value->Ay):Prop:=Entry P f/\∀M0 w0 S rs M w vs,BD M0 w0 S (r::rs) M w->HL M w args vs->
 Calls P f vs.toArray w fun e w'=>∃v M',e= .returned v/\res.h M' w' v/\Ext M w M' w'/\BD M0 w0 S (r' v::rs) M' w'
def RI(M0:Av)(w0:World)(S:Nat->Prop)(rs:List Ay)(M1:Av)(w1:World)(res:Pr)(r':Value->Ay)(e:Ending)(w':World):Prop:=∃v M',e= .returned v/\res.h M' w' v/\Ext M1 w1 M' w'/\BD M0 w0 S (r' v::rs) M' w'
theorem BM.of {g : Func} {c : Code} {res : Pr} {R : Ay} {R' : Value → Ay} (hf : P.funcs[f]? = some g) (hb : g.body = some c) (hname : (g.name == "runtime.NumGoroutine") = false) (hlen : ps.length ≤ g.ntmps) (h : ∀ M0 w0 S rs M1 w1, Tr (YJ P) g.ntmps (L5 0 ps) (Hp M0 w0 S (R :: Ao M1 w1 :: rs)) c (bodyPost P g (RI M0 w0 S rs M1 w1 res R'))) : BM P f ps res R R' := by
 refine⟨⟨g,hf,hname,by rw[hb];rfl⟩,fun M0 w0 S rs M w vs hI hv=>?_⟩;refine calls_of_wp hf hb (h M0 w0 S rs M w _ _ ⟨M,?_,rfl,Gb hv,?_⟩)
 .
  have:=hv.length;simp[this];omega
 .exact US
theorem EI{res:Pr}{R0:Ay}{R':Value->Ay}(hg:o.guard=none)(hd:o.dst=some d)(hn:d<n)(ho:o.op= .call { callee:= .value (.func f),args:=xs,argTypes:=ts })(hf:BM P f ps res R0 R')(hv:Fx E xs.toList ps):D8 P M0 w0 S n j (SR.c R0) ⟨d,R'⟩ o E res:=by
 refine⟨hg,fun M w a rs hsz he hI hj=>?_⟩;have h1:=Fx.En (o:=o) he (xs:=xs.toList) (fun x hx=>by simp[ho,Op.operands,Call.operands];exact .inr F_) hv
 have hrun:(execOp a.eval o).run P w= .ok (.enter f (xs.toList.map a.eval).toArray) w:=by
  simp[execOp,ho,resolve,Deferred.ofValue,Act.eval,invoke,Cz hf.1,FM xs]
 rw[hrun];have hj':rs[j]? =some R0:=hj;have hjl:j<rs.length:=by rcases Nat.lt_or_ge j rs.length with h|h;exact h;rw[List.getElem?_eq_none h]at hj';cases hj'
 refine(hf.2 M0 w0 S (rs.eraseIdx j) M w _ (BD.perm (AM hj') hI) h1).mono ?_;rintro e w' ⟨v,M',rfl,h2,h3,h4⟩;refine⟨v,M',rfl,h2,h3,?_⟩;have:(SR.at_ (a.put o.dst v) ⟨d,R'⟩)=R' v:=by unfold SR.at_ Slot.val;dsimp only;rw[hd,B6 IZ]
 rw[this];exact BD.perm (NC hjl) h4
theorem Au{res:Pr}{R0 R1:Ay}(hg:o.guard=none)(hd:o.dst=some d)(hn:d<n)(ho:o.op= .call { callee:= .value (.func f),args:=xs,argTypes:=ts })(hf:BM P f ps res R0 (fun _=>R1))(hv:Fx E xs.toList ps):D8 P M0 w0 S n j (SR.c R0) (SR.c R1) o E res:=by
 obtain⟨h1,h2⟩:=EI (j:=j) (M0:=M0) (w0:=w0) (S:=S) hg hd hn ho hf hv;exact⟨h1,fun M w a rs hsz he hI hj=>h2 M w a rs hsz he hI hj⟩
end
end Cp
namespace Cp
open Go Go.RowKit Go.Great
variable{a:Act}{parts:Array (Nat×Operand)}{ops:Array Oper}{M:Av}{new:Bool}{rows:List (List Pr)}{r:List Oper}{ps qs:List Pr}{zs:List Value}{d i:Nat}{o:Oper}{x:Operand}{p p3 p5 p6 p7:Pr}{T:TypeId}{v:Value}{w w0:World}
section
variable{P:Program}{L:Lg P}{E:Env}{I:Cj}{o:Oper}
theorem Ex{t e:TypeId}{u:TypeId}{sz:Nat}(ho:o.op= .binOp .eql t x (.const (.slice none 0 0)) u)(ht:P.underlying t=some (.slice e))(hx:VL E x (slice sz rows)):
  Af P I o E (ex fun b:Bool=>fact (b=true->rows=[]) (bool b)):=
 Af.same fun M w a he _=>by
  obtain⟨A,c,h1,h2,_,h3,_⟩:=hx.ev he Am;refine⟨.bool A.isNone,?_,A.isNone,?_,rfl⟩
  .
   have h5:a.eval (.const (.slice none 0 0))= .slice none 0 0:=rfl;simp only[execOp,ho,h1,h5];simp[eqGuard,Lib.run_eql_slice_nil w t e A _ _ _ _ ht]
  .
   intro hA;cases A with
   |none=>have:=h3 rfl;exact List.eq_nil_of_length_eq_zero AA
   |some a=>cases hA
def Sh(E:Env)(sz:Nat):List Operand->List (List Pr)->Prop
 |[],[]=>True
 |x::xs,row::rows=>(row.length=sz/\VL E x (D7 row))/\Sh E sz xs rows
 |_,_=>False
theorem Sh.ev{M:Av}{w:World}{a:Act}{sz:Nat}(he:C2 M w E o a):∀{xs:List Operand} {rows:List (List Pr)},(∀x∈xs,x∈o.op.operands.toList)->Sh E sz xs rows->
  xs.length=rows.length/\(∀x∈xs,(a.eval x).cells.size=sz)/\Flat M w sz rows ((xs.map a.eval).flatMap fun v=>v.cells.toList)
 |[],[],_,_=>⟨rfl,fun _ h=>by simp at h,by simp,fun _ h=>by simp at h,fun _ _ h=>by simp at h⟩
 |[],_::_,_,h=>h.elim
 |_::_,[],_,h=>h.elim
 |x::xs,row::rows,hm,h=>by
  obtain⟨⟨hl,hx⟩,hr⟩:=h;obtain⟨h1,h2,h3⟩:=Sh.ev he (fun y hy=>hm y (by simp[hy])) hr;obtain⟨h4,h5⟩:=hx.ev he (hm x Ai);have hsz:(a.eval x).cells.size=sz:=by rw[←hl,←h4.length];simp
  refine⟨by simp[h1],fun y hy=>by rcases List.mem_cons.1 hy with rfl|hy;exact hsz;exact h2 y hy,?_⟩
  have h0 : Flat M w sz [row] (a.eval x).cells.toList := ⟨by simp[hsz], h5, fun i r hi => by
   cases i with
   |zero=>simp at hi;subst hi;exact⟨hl,fun j p hp=>by simpa using h4.at_ j p hp⟩
   |succ i=>simp at hi⟩
  simpa using h0.app h3
theorem AX{t e:TypeId}{sz:Nat}{xs:List Operand}(ho:o.op= .buildSlice t xs.length parts)(hp:parts.toList=(xs.zipIdx 0).map fun x=>(x.2,x.1))(ht:P.underlying t=some (.slice e))(hz:Aw P e=some sz)(Dw:BZ P e=some zs)(hzl:zs.length=sz)(hsz:0<sz)(hx:Sh E sz xs rows)(hsmall:xs.length*sz<=16777216):Af P I o E (full sz rows):=
 Af.val fun M w a he hI=>by
  have wK:∀x∈xs,x∈o.op.operands.toList:=by
   intro x hx;simp only[ho,Op.operands,List.mem_map];obtain⟨i,hi,rfl⟩:=List.mem_iff_getElem.1 hx;exact⟨(i,xs[i]),by rw[hp];exact List.mem_map.2 ⟨(xs[i],i),by rw[List.mem_zipIdx_iff_getElem?];simp[hi],rfl⟩,rfl⟩
  obtain⟨h1,h2,h3⟩:=hx.ev he wK;have hz0:=hz;unfold Aw at hz;unfold BZ at Dw;cases hi:P.info? e with
  |none=>rw[hi]at hz;cases hz
  |some i=>
   rw[hi]at hz Dw;simp only[Option.map_some,Option.some.injEq,Option.map_eq_some_iff]at hz Dw;obtain⟨z,WK,Dw⟩:=Dw;have Uv:z.cells.size=sz:=by rw[←hzl,←Dw];simp
   have hparts:(parts.map fun(i,x)=>(i,a.eval x)).toList=((xs.map a.eval).zipIdx 0).map fun x=>(x.2,x.1):=by
    rw[Array.toList_map,hp,List.map_map,List.zipIdx_map,List.map_map];rfl
   by_cases h0:xs.length=0
   .
    have hx0:xs=[]:=List.eq_nil_of_length_eq_zero h0;subst hx0;have hr0:rows=[]:=List.eq_nil_of_length_eq_zero h1.symm;subst hr0;refine⟨.slice (some ⟨w.heap.size,0,none⟩) 0 0,w.alloc (.cells #[] e),?_,⟨⟨_,0,rfl,Nat.le_refl _,Nat.zero_le _,fun _=>rfl,fun i row h=>by simp at h⟩,_,rfl⟩,(Below.refl _ _).alloc (Nat.le_refl _) _⟩;have eu:parts= #[]:=by cases parts;simp at hp;simp[hp]
    have he0:(Array.map (fun _=>(default:Value)) (Array.range 0))= #[]:=by simp
    simp[execOp,ho,eu,Instr.buildSlice,run_underlying ht,Go.sizeOf,typeInfo,hi,Instr.fill,newRow];exact congrArg (fun c=>w.alloc (Obj.cells c e)) he0
   .
    have ju := fill_whole (s := i.size) (by rw[hz]; exact hsz) (xs.map a.eval) ((Array.range (xs.length * i.size)).map (z.cells[· % z.cells.size]!)) (fun v hv => by
     obtain⟨x,hx,rfl⟩:=List.mem_map.1 hv
     rw[hz];exact h2 x hx) Ai
    have hpos:¬xs.length*i.size=0:=by rw[hz];exact Nat.ne_of_gt (Nat.mul_pos AA hsz)
    have hrun:=run_buildSlice (P:=P) w t e xs.length (parts.map fun(i,x)=>(i,a.eval x)) _ i z ht hi WK (by rw[hz];omega) hpos (by rw[hparts];exact ju);refine⟨.slice (some ⟨w.heap.size,0,none⟩) xs.length xs.length,w.alloc (.cells ((xs.map a.eval).flatMap fun v=>v.cells.toList).toArray e),by simp[execOp,ho,hrun],?_,(Below.refl _ _).alloc (Nat.le_refl _) _⟩;have hb:Below w.heap.size w (w.alloc (.cells ((xs.map a.eval).flatMap fun v=>v.cells.toList).toArray e)):=(Below.refl _ _).alloc (Nat.le_refl _) _
    have hlen:rows.length<=maxLen:=by
     have:xs.length*1<=xs.length*sz:=Nat.mul_le_mul_left _ hsz;unfold maxLen;omega
    rw[h1];refine⟨FN (h3.st (Ext.below hb)) (Nat.le_refl _) hlen (fun k u hk=>⟨?_,fun hx=>?_⟩),_,rfl⟩
    .rw[Q_];simpa using hk
    .have:=I.bd _ _ hI _ _ hx;omega
def Ux(cells:List Pr)(off:Nat)(row:List Pr):List Pr:=cells.take off++row++cells.drop (off+row.length)
def TE(place:Nat->Option (Nat×Nat))(cells:List Pr):List (Nat×List Pr)->Option (List Pr)
 |[]=>some cells
 |(i,row)::rest=>match place i with
  |none=>none
  |some (off,size)=>if row.length=size/\off+row.length<=cells.length then TE place (Ux cells off row) rest else none
def Yp(E:Env):List (Nat×Operand)->List (Nat×List Pr)->Prop
 |[],[]=>True
 |(i,x)::xs,(j,row)::rows=>(i=j/\VL E x (D7 row))/\Yp E xs rows
 |_,_=>False
theorem bZ{M:Av}{w:World}{a:Act}(he:C2 M w E o a){place:Nat->Option (Nat×Nat)}:∀{xs:List (Nat×Operand)} {rows:List (Nat×List Pr)} {cps:List Pr} {cells:Array Value} {qs:List Pr},(∀x∈xs,x.2∈o.op.operands.toList)->Yp E xs rows->
  HL M w cps cells.toList->(∀c∈cells.toList,c.oneCell'=true)->TE place cps rows=some qs->
  ∃r:Array Value,Instr.fill place cells (xs.map fun x=>(x.1,a.eval x.2))=some r/\HL M w qs r.toList/\∀c∈r.toList,c.oneCell'=true
 |[],[],cps,cells,qs,_,_,hc,h1,hq=>by
  simp only[TE,Option.some.injEq]at hq;subst hq;exact⟨cells,rfl,hc,h1⟩
 |[],_::_,_,_,_,_,h,_,_,_=>h.elim
 |_::_,[],_,_,_,_,h,_,_,_=>h.elim
 |(i,x)::xs,(j,row)::rows,cps,cells,qs,hm,h,hc,h1,hq=>by
  obtain⟨⟨rfl,hx⟩,hr⟩:=h;obtain⟨h4,h5⟩:=hx.ev he (hm (i,x) Ai);have hvl:(a.eval x).cells.size=row.length:=by rw[←h4.length];simp
  have ew:cells.size=cps.length:=by rw[←hc.length];simp
  unfold TE at hq;cases hp:place i with
  |none=>rw[hp]at hq;cases hq
  |some os=>
   obtain⟨off,size⟩:=os;rw[hp]at hq;simp only at hq
   split at hq
   .
    rename_i ABA
    obtain⟨hc1,hc2⟩:=ABA;have hfs:=foldl_set off (a.eval x).cells.toList 0 cells
    generalize hr':((a.eval x).cells.toList.zipIdx 0).foldl (fun cs (x:Value×Nat)=>cs.setIfInBounds (off+x.2) x.1) cells=r at hfs
    obtain⟨hs,hk⟩:=hfs
    have hrl:r.toList=cells.toList.take off++(a.eval x).cells.toList++cells.toList.drop (off+row.length):=by
     apply List.ext_getElem?
     intro k;rw[Array.getElem?_toList,hk k];simp only[Nat.add_zero,Array.length_toList,hvl]
     by_cases h6:k<off
     .rw[if_neg AA,List.append_assoc,List.getElem?_append_left Ci,List.getElem?_take,if_pos h6,Array.getElem?_toList]
     .
      by_cases h7:k<off+row.length
      .
       rw[if_pos AA,List.append_assoc,List.getElem?_append_right Ci,List.getElem?_append_left Ci]
       congr 1;simp;omega
      .
       rw[if_neg AA,List.getElem?_append_right Ci,List.getElem?_drop,Array.getElem?_toList]
       congr 1;simp;omega
    have hcs:HL M w (Ux cps off row) r.toList:=by
     rw[hrl];unfold Ux;exact((hc.take off).app h4).app (hc.drop _)
    have h1':∀c∈r.toList,c.oneCell'=true:=by
     intro c hmem;rw[hrl]at hmem;simp only[List.mem_append]at hmem;rcases hmem with(hmem|hmem)|hmem
     .exact h1 c (List.mem_of_mem_take hmem)
     .exact h5 c hmem
     .exact h1 c (List.mem_of_mem_drop hmem)
    obtain⟨r2,hr2,h8,h9⟩:=bZ he (fun y hy=>hm y (by simp[hy])) hr hcs h1' hq;refine⟨r2,?_,h8,h9⟩;simp only[List.map_cons,Instr.fill,hp];rw[if_neg (by simp[hvl,ew];omega)];rw[←hr2,←hr']
    congr 1
    rw[←Array.foldl_toList];simp[Array.toList_zipIdx]
   .cases hq
theorem Al{t:TypeId}{place:Nat->Option (Nat×Nat)}{rows:List (Nat×List Pr)}(ho:o.op= .build t parts)(hb:∀ps,P.built t ps=Instr.fill place zs.toArray ps)(JG:zs.all (·.oneCell')=true)(hx:Yp E parts.toList rows)(hq:TE place (zs.map is) rows=some qs):Af P I o E (agg qs):=
 Af.same fun M w a he _=>by
  obtain⟨r,hr,h1,h2⟩:=bZ (cells:=zs.toArray) he (fun x hx=>by simp only[ho,Op.operands,List.mem_map];exact⟨x,hx,rfl⟩) hx (by simpa using NB M w zs) (by simpa using fun c hc=>List.all_eq_true.1 JG c hc) hq;have hrun:=run_build (P:=P) w t (parts.map fun(i,x)=>(i,a.eval x)) r (by rw[hb,←hr];congr 1;simp);exact⟨.agg r,by simp[execOp,ho,hrun],r.toList,by simp,h2,h1⟩
end
section
variable{P:Program}{L:Lg P}{n:Fm}{fz:Nat}{E:Env}{I:Cj}{M0:Av}{w0:World}{S:Nat->Prop}{rs:List Ay}
def NF{α:Type}(new:Bool)(b:Nat)(T:TypeId)(φ:α->Prop)(g:α->List Pr):Ay where
 blk:=some b
 new:=new
 h M w:=∃x,φ x/\(AE new b T (g x)).h M w
 st _M _w _M' _w' he hk h:=let ⟨x,h1,h2⟩:=h;⟨x,h1,(AE new b T (g x)).st _ _ _ _ he hk h2⟩
theorem BD.DF{r r':Ay}(h:BD M0 w0 S rs M w)(hi:rs[i]? =some r)(hb:r'.blk=r.blk)(hn:r'.new=r.new)(hh:r'.h M w):BD M0 w0 S (rs.set i r') M w:=by
 have FC:i<rs.length:=by grind
 have h1:=BD.perm (AM hi) h;refine BD.perm (NC FC) ⟨h1.m0,h1.m,h1.os,h1.tape,h1.output,h1.size,h1.block,h1.bd,fun q hq=>?_,?_⟩
 .
  rcases List.mem_cons.1 hq with rfl|hq
  .exact⟨hh,fun b hbk=>by rw[hn];exact(h1.hold r Ai).2 b (by rw[←hb];exact hbk)⟩
  .exact h1.hold q (by simp[hq])
 .
  obtain⟨h2,h3⟩:=List.pairwise_cons.1 h1.nd;exact List.Pairwise.cons (fun q hq b hbk=>h2 q hq b (by rw[←hb];exact hbk)) h3
theorem Tr.ABB{α:Type}{Q:Exit->Act->World->Prop}{c:Code}(i:Nat){b:Nat}{φ:α->Prop}{g:α->List Pr}(hi:rs[i]? =some (NF new b T φ g))(k:∀x,φ x->Tr L n E (Hp M0 w0 S (rs.set i (AE new b T (g x)))) c Q):
  Tr L n E (Hp M0 w0 S rs) c Q:=by
 rintro a w ⟨M,h1,h2,h3,h4⟩;have h4:BD M0 w0 S rs M w:=h4;obtain⟨x,hx,hh⟩:=(h4.hold _ (List.mem_of_getElem? hi)).1;exact k x hx a w ⟨M,h1,h2,h3,h4.DF hi rfl rfl hh⟩
theorem St.OI{α:Type}(i:Nat){b:Nat}{φ:α->Prop}{g:α->List Pr}(x:α)(hφ:φ x)(hi:rs[i]? =some (AE new b T ps))(hg:ps=g x)(h:St n E (Hp M0 w0 S rs) a w):St n E (Hp M0 w0 S (rs.set i (NF new b T φ g))) a w:=by
 obtain⟨M,h1,h2,h3,h4⟩:=h;have h4:BD M0 w0 S rs M w:=h4;subst hg;exact⟨M,h1,h2,h3,h4.DF hi rfl rfl ⟨x,hφ,(h4.hold _ (List.mem_of_getElem? hi)).1⟩⟩
theorem Tr.OI{α:Type}{Q:Exit->Act->World->Prop}{c:Code}(i:Nat){b:Nat}(φ:α->Prop)(g:α->List Pr)(x:α)(hφ:φ x)(hi:rs[i]? =some (AE new b T ps))(hg:ps=g x)(k:Tr L n E (Hp M0 w0 S (rs.set i (NF new b T φ g))) c Q):Tr L n E (Hp M0 w0 S rs) c Q:=Tr.conv (fun _ _ h=>h.OI i x hφ hi hg) k
theorem Fin.OI{α:Type}{Q:Exit->Act->World->Prop}{e:Exit}(i:Nat){b:Nat}(φ:α->Prop)(g:α->List Pr)(x:α)(hφ:φ x)(hi:rs[i]? =some (AE new b T ps))(hg:ps=g x)(k:Fin n E (Hp M0 w0 S (rs.set i (NF new b T φ g))) Q e):Fin n E (Hp M0 w0 S rs) Q e:=Fin.conv (fun _ _ h=>h.OI i x hφ hi hg) k
theorem Tr.Dt{Q:Exit->Act->World->Prop}{c:Code}(e:TypeId)(sz:Nat)(k:Tr L n E (Hp M0 w0 S (Bc e sz (.slice none 0 0)::rs)) c Q):Tr L n E (Hp M0 w0 S rs) c Q:=
 Tr.conv (fun _ _ ⟨M,h1,h2,h3,h4⟩=>⟨M,h1,h2,h3,BD.JI h4 rfl Uk⟩) k
theorem Fin.Dt{Q:Exit->Act->World->Prop}{ex:Exit}(e:TypeId)(sz:Nat)(k:Fin n E (Hp M0 w0 S (Bc e sz (.slice none 0 0)::rs)) Q ex):Fin n E (Hp M0 w0 S rs) Q ex:=
 Fin.conv (fun _ _ ⟨M,h1,h2,h3,h4⟩=>⟨M,h1,h2,h3,BD.JI h4 rfl Uk⟩) k
theorem Tr.re{Q:Exit->Act->World->Prop}{c:Code}(s:Nat){q:Pr}(hs:E.lookup s=some q)(hl:Pr.le q p)(k:Tr L n ((s,p)::E) I c Q):Tr L n E I c Q:=by
 intro a w hst;obtain⟨M,h1,h2,he,h4⟩:=hst;refine k a w ⟨M,h1,h2,?_,h4⟩;intro t q' hq;simp only[List.lookup]at hq
 by_cases ht:t=s
 .subst ht;simp at hq;subst hq;exact hl _ _ _ (he t q hs)
 .rw[show(t==s)=false by simpa using ht]at hq;exact he t q' hq
theorem TO.Iu{Q:Exit->Act->World->Prop}(hg:o.guard=none)(hd:o.dst=some d)(hn:d<n)(ho:o.op= .box T x)(hx:VL E x (D7 ps))(k:∀b,TO P n ops r ((d,ptr b 0)::E) (Hp M0 w0 S (AE true b T ps::rs)) Q):TO P n ops (o::r) E (Hp M0 w0 S rs) Q:=
 TO.bT hg fun K M w a hsz hdf he hI hK=>by
  obtain⟨h1,h2⟩:=hx.ev (o:=o) (Cq he) Am;refine TO.val (v:= .pointer (some ⟨w.heap.size,0,none⟩)) (w':=w.alloc (.cells (a.eval x).cells T)) ?_ ?_
  .simp[execOp,ho,Instr.box,newVar,newRow]
  .
   obtain⟨h3,h4⟩:=BD.add (T:=T) hI h1 h2;have hw:(a.eval x).cells.toList.toArray=(a.eval x).cells:=by simp
   rw[hw]at h3 h4;refine hK _ _ _ _ (k w.heap.size) ⟨_,by rw[CC];exact hsz,by rw[put_defers];exact hdf,?_,h3⟩;intro s p hp;simp only[List.lookup]at hp
   by_cases hs:s=d
   .exact UR
   .
    rw[show(s==d)=false by simpa using hs]at hp;rw[hd,Ba hs];exact p.st _ _ _ _ _ h4 (he s p hp)
theorem TO.ex{Q:Exit->Act->World->Prop}{l:List Oper}(s:Nat){α:Type}{p:α->Pr}(hs:E.lookup s=some (Cp.ex p))(h:∀x,TO P n ops l ((s,p x)::E) I Q):TO P n ops l E I Q:=by
 intro k hl a w hst;obtain⟨M,h1,h2,he,h4⟩:=hst;obtain⟨x,h6⟩:=he s _ hs;refine h x k hl a w ⟨M,h1,h2,?_,h4⟩;intro t q hq;simp only[List.lookup]at hq
 by_cases ht:t=s
 .grind
 .exact N_
theorem TO.fact{Q:Exit->Act->World->Prop}{l:List Oper}(s:Nat){φ:Prop}(hs:E.lookup s=some (Cp.fact φ p))(h:φ->TO P n ops l ((s,p)::E) I Q):TO P n ops l E I Q:=by
 intro k hl a w hst;obtain⟨M,h1,h2,he,h4⟩:=hst;obtain⟨h5,h6⟩:=he s _ hs;refine h h5 k hl a w ⟨M,h1,h2,?_,h4⟩;intro t q hq;simp only[List.lookup]at hq
 by_cases ht:t=s
 .grind
 .exact N_
variable{rs':List Ay}{M1:Av}{w1:World}{g:Func}
theorem qC{r:Ay}(h:BD M0 w0 S (r::Ao M1 w1::rs) M w):Ext M1 w1 M w/\BD M0 w0 S (r::rs) M w:=
 ⟨(h.hold (Ao M1 w1) Ai).1,(BD.perm (List.Perm.swap _ _ _) h).Hg⟩
theorem Fin.Ey{t:Tmp}{R':Value->Ay}{r:Ay}{q:Pr}(hr:g.results= #[.tmp t])(h:E.lookup t=some q)(hl:Pr.le q p)(hR:∀M w v,q.h M w v->R' v=r):
  Fin ⟨fz,[]⟩ E (Hp M0 w0 S (r::Ao M1 w1::rs)) (bodyPost P g (RI M0 w0 S rs M1 w1 p R')) .ret:=by
 rintro a w ⟨M,_,hd,he,hi⟩;obtain⟨h1,h2⟩:=qC hi;have hq:=he _ _ h;exact⟨hd,_,O8 hr _ _,_,M,rfl,hl _ _ _ hq,h1,by rw[hR _ _ _ hq];exact h2⟩
theorem Fin.IE{t u:Tmp}{r:Ay}{q p' q':Pr}(hr:g.results= #[.tmp t,.tmp u])(h:E.lookup t=some q)(hl:Pr.le q p)(h':E.lookup u=some q')(hl':Pr.le q' p'):
  Fin ⟨fz,[]⟩ E (Hp M0 w0 S (r::Ao M1 w1::rs)) (bodyPost P g (RI M0 w0 S rs M1 w1 (EB [p,p']) (fun _=>r))) .ret:=by
 rintro a w ⟨M,_,hd,he,hi⟩;obtain⟨h1,h2⟩:=qC hi;exact⟨hd,_,O9 hr _ _,_,M,rfl,⟨[_,_],rfl,hl _ _ _ (he _ _ h),hl' _ _ _ (he _ _ h'),trivial⟩,h1,h2⟩
theorem jv{t:TypeId}{m b:Nat}(ht:FG P t=true)(hz:Aw P t=some m)(hm:ps.length=m)(h:(AE new b T ps).h M w):∃v,(loadVar t ⟨b,0,none⟩).run P w= .ok v w/\(agg ps).h M w v:=by
 obtain⟨_,cs,h4,h5,h6⟩:=h;have hl:cs.length=m:=by rw[h5.length,hm]
 have hrun:(loadCells ⟨b,0,none⟩ m).run P w= .ok cs.toArray w:=by
  have:=run_loadCells_list (P:=P) w ⟨b,0,none⟩ cs (fun k v hv=>by
   rw[DE];simp[World.cell?,h4,hv])
  rwa [hl]at this
 exact⟨.agg cs.toArray,by simp[loadVar,FL ht,Bz hz,hrun],cs,rfl,h6,h5⟩
end
section
variable{P:Program}{L:Lg P}{E:Env}{I:Cj}{o:Oper}
theorem wL{t u:TypeId}{y:Operand}{b c:Bool}(ho:o.op= .binOp .eql t x y u)(ht:P.underlying t=some .bool)(hx:VL E x (bool b))(hy:VL E y (bool c)):Af P I o E (bool (b==c)):=
 Af.same fun M w a he _=>by
  have h1:a.eval x= .bool b:=hx.ev he Am;have h2:a.eval y= .bool c:=hy.ev he Am;exact⟨_,by simp[execOp,ho,h1,h2,eqGuard,binOp,Op.equal,Op.maxDepth,run_equalIn_bool,ht],rfl⟩
theorem Uy{t u:TypeId}{y:Operand}{b c:Bool}(ho:o.op= .binOp .neq t x y u)(ht:P.underlying t=some .bool)(hx:VL E x (bool b))(hy:VL E y (bool c)):Af P I o E (bool (b !=c)):=
 Af.same fun M w a he _=>by
  have h1:a.eval x= .bool b:=hx.ev he Am;have h2:a.eval y= .bool c:=hy.ev he Am;exact⟨_,by simp[execOp,ho,h1,h2,eqGuard,binOp,Op.equal,Op.maxDepth,run_equalIn_bool,ht];cases b<;>cases c<;>rfl,rfl⟩
theorem B9{s t:TypeId}{k k':IntKind}{n:Int}(ho:o.op= .convert s t x)(hs:P.underlying s=some (.int k))(ht:P.underlying t=some (.int k'))(hx:VL E x (is (.int k n))):Af P I o E (is (.int k' (k'.wrap n))):=
 Af.same fun M w a he _=>by
  have h1:a.eval x= .int k n:=hx.ev he Am;refine⟨_,?_,rfl⟩;simp[execOp,ho,h1,convert,run_underlying hs,run_underlying ht,Conv.intToInt,Sem.run_bind]
theorem Wg{s t:TypeId}{k:IntKind}{n:Int}(ho:o.op= .convert s t x)(hs:P.underlying s=some (.int k))(ht:P.underlying t=some (.int .i64))(hx:VL E x (is (.int k n)))(hn:Sb n):Af P I o E (int n):=by
 have:=B9 (P:=P) (I:=I) ho hs ht hx
 rwa [Gt hn]at this
end
section
variable{P:Program}{L:Lg P}{n:Fm}{fz:Nat}{E:Env}{I:Cj}{Q:Exit->Act->World->Prop}
theorem Tr.post{c:Code}{Q Q':Exit->Act->World->Prop}(h:Tr L n E I c Q)(hq:∀e a w,Q e a w->Q' e a w):Tr L n E I c Q':=fun a w hs=>L.mono hq (h a w hs)
theorem Tr.Ez{α:Type}(K:Env)(hK:C6 E K)(F:α->Value->Env)(Ii:α->Value->Cj)(C:α->Prop)(μ:α->Nat){c:Code}(x0:α)(v0:Value)(h0:C x0)(hs:C6 E (F x0 v0))(hI:∀M w,I.h M w->(Ii x0 v0).h M w)
  (round:∀x v,C x->Tr L n (F x v++K) (Ii x v) c (Exit.then (fun a w=>∃y u,(C y/\μ y<μ x)/\St n (F y u++K) (Ii y u) a w) Q)):Tr L n E I (.loop c) Q:=
 Tr.O_ K hK (fun y:α×Value=>F y.1 y.2) (fun y=>Ii y.1 y.2) (fun y=>C y.1) (fun y=>μ y.1) (x0,v0) h0 hs hI fun y hy=>
  Tr.post (round y.1 y.2 hy) fun e a w h=>by
   cases e<;>first|exact h|(obtain⟨z,u,h1,h2⟩:=h;exact⟨(z,u),h1,h2⟩)
theorem Fin.EX{α:Type}{E1:α->Value->Env}{I1:α->Value->Cj}{C:α->Prop}(i:α)(v:Value)(hC:C i)(hs:C6 E (E1 i v))(hI:∀M w,I.h M w->(I1 i v).h M w):
  Fin n E I (Exit.then (fun a w=>∃i v,C i/\St n (E1 i v) (I1 i v) a w) Q) .normal:=fun _ _ hst=>⟨i,v,hC,hst.sub hs hI⟩
theorem DA{sz:Nat}(h:rows=[]):Pr.le (is (.slice none 0 0)) (Aj (.slice none 0 0) (slice sz rows)):=by
 subst h;exact fun M w v hv=>⟨hv,AH sz M w v hv⟩
theorem CZ{sz:Nat}{rows':List (List Pr)}(h:rows=rows'):Pr.le (Aj v (slice sz rows)) (Aj v (slice sz rows')):=by
 subst h;exact Pr.le_refl _
def Hh:List Pr->List Pr->Prop
 |[],[]=>True
 |p::ps,q::qs=>Pr.le p q/\Hh ps qs
 |_,_=>False
theorem Hh.hl{M:Av}{w:World}:∀{ps qs:List Pr} {vs:List Value},Hh ps qs->HL M w ps vs->HL M w qs vs
 |[],[],_,_,h=>h
 |_p::_ps,_q::_qs,[],_,h=>h.elim
 |_p::_ps,_q::_qs,_v::_vs,⟨h1,h2⟩,⟨h3,h4⟩=>⟨h1 _ _ _ h3,h2.hl h4⟩
 |[],_::_,_,h,_=>h.elim
 |_::_,[],_,h,_=>h.elim
theorem Hh.len:∀{ps qs:List Pr},Hh ps qs->ps.length=qs.length
 |[],[],_=>rfl
 |p::ps,q::qs,⟨_,h⟩=>by simp[h.len]
 |[],_::_,h=>h.elim
 |_::_,[],h=>h.elim
theorem Hh.at_:∀{ps qs:List Pr},Hh ps qs->∀(i:Nat) q,qs[i]? =some q->∃p,ps[i]? =some p/\Pr.le p q
 |[],[],_,i,q,h=>by simp at h
 |p::ps,q::qs,⟨h1,h2⟩,0,q',h=>by simp at h;subst h;exact⟨p,rfl,h1⟩
 |p::ps,q::qs,⟨h1,h2⟩,i+1,q',h=>by simpa using h2.at_ i q' Fc
 |[],_::_,h,_,_,_=>h.elim
 |_::_,[],h,_,_,_=>h.elim
theorem Hh.rfl':∀(ps:List Pr),Hh ps ps
 |[]=>trivial
 |_::ps=>⟨Pr.le_refl _,Hh.rfl' ps⟩
theorem Az(h:Hh ps qs):Pr.le (agg ps) (agg qs):=fun _M _w _v ⟨cs,h1,h2,h3⟩=>⟨cs,h1,h2,h.hl h3⟩
theorem BU(h:Hh ps qs):Pr.le (EB ps) (EB qs):=fun _M _w _v ⟨cs,h1,h2⟩=>⟨cs,h1,h.hl h2⟩
def LeR:List (List Pr)->List (List Pr)->Prop
 |[],[]=>True
 |p::ps,q::qs=>Hh p q/\LeR ps qs
 |_,_=>False
theorem LeR.len:∀{ps qs:List (List Pr)},LeR ps qs->ps.length=qs.length
 |[],[],_=>rfl
 |p::ps,q::qs,⟨_,h⟩=>by simp[h.len]
 |[],_::_,h=>h.elim
 |_::_,[],h=>h.elim
theorem LeR.at_:∀{ps qs:List (List Pr)},LeR ps qs->∀(i:Nat) q,qs[i]? =some q->∃p,ps[i]? =some p/\Hh p q
 |[],[],_,i,q,h=>by simp at h
 |p::ps,q::qs,⟨h1,h2⟩,0,q',h=>by simp at h;subst h;exact⟨p,rfl,h1⟩
 |p::ps,q::qs,⟨h1,h2⟩,i+1,q',h=>by simpa using h2.at_ i q' Fc
 |[],_::_,h,_,_,_=>h.elim
 |_::_,[],h,_,_,_=>h.elim
theorem Wh{sz:Nat}{ps qs:List (List Pr)}(h:LeR ps qs):Pr.le (slice sz ps) (slice sz qs):=fun M w v ⟨a,cap,h1,h2,h3,h4,h5⟩=>by
 rw[h.len]at h1 h2;refine⟨a,cap,h1,h2,h3,h4,fun i row hr=>?_⟩;obtain⟨p,hp,hl⟩:=h.at_ i row hr;obtain⟨h6,ad,h7,h8⟩:=h5 i p hp;refine⟨by rw[←hl.len];exact h6,ad,h7,fun j q hq=>?_⟩;obtain⟨p',hp',hl'⟩:=hl.at_ j q hq;obtain⟨u,h9,h10,h11,h12⟩:=h8 j p' hp';exact⟨u,h9,h10,h11,hl' _ _ _ h12⟩
class Fy(b v:Bool)(p:outParam Prop):Prop where
 HC:b=v->p
instance (priority:=10) AD1 (b v:Bool):Fy b v (b=v):=⟨id⟩
instance (priority:=100) AG5 (p:Prop)[Decidable p]:Fy (decide p) true p:=⟨of_decide_eq_true⟩
instance (priority:=100) AG6 (p:Prop)[Decidable p]:Fy (decide p) false (¬p):=⟨of_decide_eq_false⟩
instance (priority:=200) AFK (a b:Int):Fy (decide (a<b)) false (b<=a):=⟨fun h=>by simpa using h⟩
instance (priority:=200) AFL (a b:Int):Fy (decide (a<=b)) false (b<a):=⟨fun h=>by simpa using h⟩
instance (priority:=200) AD2 (a b:Int):Fy (a==b) true (a=b):=⟨fun h=>by simpa using h⟩
instance (priority:=200) AD3 (a b:Int):Fy (a==b) false (¬a=b):=⟨fun h=>by simpa using h⟩
instance (priority:=200) AD4 (a b:Int):Fy (a !=b) true (¬a=b):=⟨fun h=>by simpa using h⟩
instance (priority:=200) AD5 (a b:Int):Fy (a !=b) false (a=b):=⟨fun h=>by simpa using h⟩
end
theorem ke{f:Option Pr}(h:f=some p):∃q,f=some q/\Pr.le q p:=⟨p,h,Pr.le_refl p⟩
theorem Gd{a b:Nat}(h:Nat.blt a b=true):a<b:=by simpa[Nat.blt_eq]using h
section
variable{P:Program}{L:Lg P}{n:Fm}{fz:Nat}{I:Cj}{ops:Array Oper}{o:Oper}{r:List Oper}{E:Env}{K:Env->Prop}{d g j:Nat}{b want:Bool}{p:Pr}{x:Operand}{Q:Exit->Act->World->Prop}
theorem Ch.oo(hg:o.guard=none)(hd:o.dst=some d)(hn:Nat.blt d n=true)(h:Af P I o E p)(k:Ch P n I ops r ((d,p)::E) K):Ch P n I ops (o::r) E K:=Ch.op hg hd (Gd hn) h k
theorem Ch.as(hg:o.guard=none)(hd:o.dst=some d)(hn:Nat.blt d n=true)(ho:o.op= .assign x)(hx:DT E x=some p)(k:Ch P n I ops r ((d,p)::E) K):Ch P n I ops (o::r) E K:=Ch.op hg hd (Gd hn) (Ir ho (vl hx)) k
theorem Ch.y(OA:b=want)(hg:o.guard=some (j,want))(hj:(ops[j]?).bind (·.dst)=some g)(hb:E.lookup g=some (bool b))(hd:o.dst=some d)(hn:Nat.blt d n=true)(h:Af P I o E p)(k:Ch P n I ops r ((d,p)::E) K):Ch P n I ops (o::r) E K:=Ch.yes hg hj hb OA hd (Gd hn) h k
theorem Ch.nd(hg:o.guard=some (j,want))(hj:(ops[j]?).bind (·.dst)=some g)(hb:E.lookup g=some (bool b))(OA:(b !=want)=true)(hd:o.dst=some d)(hn:Nat.blt d n=true)(k:Ch P n I ops r ((d,is undef)::E) K):Ch P n I ops (o::r) E K:=Ch.no hg hj hb (by simpa using OA) hd (Gd hn) k
theorem Ch.u(hg:o.guard=some (j,want))(hj:(ops[j]?).bind (·.dst)=some g)(hb:E.lookup g=some (is undef))(hd:o.dst=some d)(hn:Nat.blt d n=true)(k:Ch P n I ops r ((d,is undef)::E) K):Ch P n I ops (o::r) E K:=Ch.un hg hj hb hd (Gd hn) k
theorem Ch.cs{l:List Oper}(g:Nat){pt pf:Prop}[ht:Fy b true pt][hf:Fy b false pf](hb:E.lookup g=some (bool b))(k:b=true->pt->Ch P n I ops l E K)(k':b=false->pf->Ch P n I ops l E K):Ch P n I ops l E K:=Ch.cases g hb (fun h=>k h (ht.HC h)) (fun h=>k' h (hf.HC h))
theorem Tr.cn{c:Operand}{y z:Code}{pt pf:Prop}[ht:Fy b true pt][hf:Fy b false pf](hc:DT E c=some (bool b))(k:b=true->pt->Tr L n E I y Q)(k':b=false->pf->Tr L n E I z Q):Tr L n E I (.cond c y z) Q:=Tr.cond hc (fun h=>k h (ht.HC h)) (fun h=>k' h (hf.HC h))
theorem TO.oo(hg:o.guard=none)(hd:o.dst=some d)(hn:Nat.blt d n=true)(h:Af P I o E p)(k:TO P n ops r ((d,p)::E) I Q):TO P n ops (o::r) E I Q:=TO.op hg hd (Gd hn) h k
theorem TO.as(hg:o.guard=none)(hd:o.dst=some d)(hn:Nat.blt d n=true)(ho:o.op= .assign x)(hx:DT E x=some p)(k:TO P n ops r ((d,p)::E) I Q):TO P n ops (o::r) E I Q:=TO.op hg hd (Gd hn) (Ir ho (vl hx)) k
theorem Cx.oo{M0:Av}{S:Nat->Prop}{rs:List SR}{K:List X->Env->List SR->Prop}(hg:o.guard=none)(hd:o.dst=some d)(hn:Nat.blt d n=true)(h:∀I:Cj,Af P I o E p)(k:Cx P M0 w0 S n ops r ((d,p)::E) rs (fun L E' rs'=>K (⟨o,p,.pure⟩::L) E' rs')):Cx P M0 w0 S n ops (o::r) E rs K:=Cx.op hg hd (Gd hn) h k
def plD(n:Nat)(o:Oper):Option Nat:=match o.guard,o.dst with|none,some d=>bif Nat.blt d n then some d else none|_,_=>none
def plM(n:Fm)(E:Env)(o:Oper):Option (Nat×Pr):=match plD n o,o.op with|some d,.move x=>(DT E x).map (Prod.mk d)|some d,.assign x=>(DT E x).map (Prod.mk d)|_,_=>none
def plG(n:Fm)(E:Env)(ops:Array Oper)(o:Oper):Option (Nat×Bool×Option Pr):=match o.guard,o.dst with|some (j,w),some d=>bif Nat.blt d n then((ops[j]?).bind (·.dst)).map (fun g=>(d,w,E.lookup g))else none|_,_=>none
def wM(n:Fm)(E:Env)(ops:Array Oper)(o:Oper):Option (Nat×Bool×Option Pr×Option Pr):=match plG n E ops o,o.op with|some (d,w,b),.move x=>some (d,w,b,DT E x)|_,_=>none
theorem Iv(h:plD n o=some d):o.guard=none/\o.dst=some d/\d<n:=by
 unfold plD at h;split at h
 .
  rename_i d' hg hd;cases hb:Nat.blt d' n<;>rw[hb]at h<;>simp only[cond_true,cond_false]at h
  .cases h
  .cases h;exact⟨hg,hd,Gd hb⟩
 .cases h
theorem RJ(h:plM n E o=some (d,p)):(o.guard=none/\o.dst=some d/\d<n)/\((∃x,o.op= .move x/\DT E x=some p)\/∃x,o.op= .assign x/\DT E x=some p):=by
 unfold plM at h;split at h
 .rename_i d' x hd ho;cases hx:DT E x<;>rw[hx]at h<;>simp only[Option.map_none,Option.map_some]at h<;>cases h;exact⟨Iv hd,.inl ⟨x,ho,hx⟩⟩
 .rename_i d' x hd ho;cases hx:DT E x<;>rw[hx]at h<;>simp only[Option.map_none,Option.map_some]at h<;>cases h;exact⟨Iv hd,.inr ⟨x,ho,hx⟩⟩
 .cases h
theorem Iw{q:Option Pr}(h:plG n E ops o=some (d,want,q)):∃j g,o.guard=some (j,want)/\(ops[j]?).bind (·.dst)=some g/\E.lookup g=q/\o.dst=some d/\d<n:=by
 unfold plG at h;split at h
 .
  rename_i j w d' hg hd;cases hb:Nat.blt d' n<;>rw[hb]at h<;>simp only[cond_true,cond_false]at h
  .cases h
  .cases hj:(ops[j]?).bind (·.dst)<;>rw[hj]at h<;>simp only[Option.map_none,Option.map_some]at h<;>cases h;exact⟨j,_,hg,hj,rfl,hd,Gd hb⟩
 .cases h
theorem ey{q r:Option Pr}(h:wM n E ops o=some (d,want,q,r)):plG n E ops o=some (d,want,q)/\∃x,o.op= .move x/\DT E x=r:=by grind [wM]
theorem Yq{I:Cj}(h:(∃x,o.op= .move x/\DT E x=some p)\/∃x,o.op= .assign x/\DT E x=some p):Af P I o E p:=by grind [BX,vl,Ir]
theorem cm(h:plM n E o=some (d,p))(k:Ch P n I ops r ((d,p)::E) K):Ch P n I ops (o::r) E K:=let ⟨⟨h1,h2,h3⟩,h4⟩:=RJ h;Ch.op h1 h2 h3 (Yq h4) k
theorem tm(h:plM n E o=some (d,p))(k:TO P n ops r ((d,p)::E) I Q):TO P n ops (o::r) E I Q:=let ⟨⟨h1,h2,h3⟩,h4⟩:=RJ h;TO.op h1 h2 h3 (Yq h4) k
theorem xm{M0:Av}{S:Nat->Prop}{rs:List SR}{K:List X->Env->List SR->Prop}(h:plM n E o=some (d,p))(k:Cx P M0 w0 S n ops r ((d,p)::E) rs (fun L E' rs'=>K (⟨o,p,.pure⟩::L) E' rs')):Cx P M0 w0 S n ops (o::r) E rs K:=let ⟨⟨h1,h2,h3⟩,h4⟩:=RJ h;Cx.op h1 h2 h3 (fun _=>Yq h4) k
theorem co(h:plD n o=some d)(ho:Af P I o E p)(k:Ch P n I ops r ((d,p)::E) K):Ch P n I ops (o::r) E K:=let ⟨h1,h2,h3⟩:=Iv h;Ch.op h1 h2 h3 ho k
theorem tp(h:plD n o=some d)(ho:Af P I o E p)(k:TO P n ops r ((d,p)::E) I Q):TO P n ops (o::r) E I Q:=let ⟨h1,h2,h3⟩:=Iv h;TO.op h1 h2 h3 ho k
theorem xo{M0:Av}{S:Nat->Prop}{rs:List SR}{K:List X->Env->List SR->Prop}(h:plD n o=some d)(ho:∀I:Cj,Af P I o E p)(k:Cx P M0 w0 S n ops r ((d,p)::E) rs (fun L E' rs'=>K (⟨o,p,.pure⟩::L) E' rs')):Cx P M0 w0 S n ops (o::r) E rs K:=let ⟨h1,h2,h3⟩:=Iv h;Cx.op h1 h2 h3 ho k
theorem Jv{M0:Av}{S:Nat->Prop}{rs:List SR}{K:List X->Env->List SR->Prop}(j:Nat){R:SR}(hR:rs[j]? =some R)(h:plD n o=some d)(ho:JU P M0 w0 S j R o E p)(k:Cx P M0 w0 S n ops r ((d,p)::E) rs (fun L E' rs'=>K (⟨o,p,.rd j R⟩::L) E' rs')):Cx P M0 w0 S n ops (o::r) E rs K:=let ⟨h1,h2,h3⟩:=Iv h;Cx.rd j hR h1 h2 h3 ho k
theorem cy(OA:b=want)(h:plG n E ops o=some (d,want,some (bool b)))(ho:Af P I o E p)(k:Ch P n I ops r ((d,p)::E) K):Ch P n I ops (o::r) E K:=by grind [Iw,Ch.yes]
theorem JW(OA:b=want)(h:wM n E ops o=some (d,want,some (bool b),some p))(k:Ch P n I ops r ((d,p)::E) K):Ch P n I ops (o::r) E K:=let ⟨h0,_,ho,hx⟩:=ey h;let ⟨_,_,h1,h2,h3,h4,h5⟩:=Iw h0;Ch.yes h1 h2 h3 OA h4 h5 (BX ho (vl hx)) k
theorem cnt(OA:b=false)(h:plG n E ops o=some (d,true,some (bool b)))(k:Ch P n I ops r ((d,is undef)::E) K):Ch P n I ops (o::r) E K:=let ⟨_,_,h1,h2,h3,h4,h5⟩:=Iw h;Ch.no h1 h2 h3 (EH OA) h4 h5 k
theorem cnf(OA:b=true)(h:plG n E ops o=some (d,false,some (bool b)))(k:Ch P n I ops r ((d,is undef)::E) K):Ch P n I ops (o::r) E K:=let ⟨_,_,h1,h2,h3,h4,h5⟩:=Iw h;Ch.no h1 h2 h3 (WZ OA) h4 h5 k
theorem cnd(h:plG n E ops o=some (d,want,some (bool b)))(OA:(b !=want)=true)(k:Ch P n I ops r ((d,is undef)::E) K):Ch P n I ops (o::r) E K:=by grind [Iw,Ch.no]
theorem cu(h:plG n E ops o=some (d,want,some (is undef)))(k:Ch P n I ops r ((d,is undef)::E) K):Ch P n I ops (o::r) E K:=by grind [Iw,Ch.un]
theorem WL{t u:TypeId}{y:Operand}{m z:Int}(h:plD n o=some d)(ho:o.op= .binOp .add t x y u)(hx:DT E x=some (int m))(hy:DT E y=some (int z))(hr: -9223372036854775808<=m+z/\m+z<=9223372036854775807)(k:Ch P n I ops r ((d,int (m+z))::E) K):Ch P n I ops (o::r) E K:=co h (Hf ho (vl hx) (vl hy) hr) k
theorem csu{t u:TypeId}{y:Operand}{m z:Int}(h:plD n o=some d)(ho:o.op= .binOp .sub t x y u)(hx:DT E x=some (int m))(hy:DT E y=some (int z))(hr: -9223372036854775808<=m-z/\m-z<=9223372036854775807)(k:Ch P n I ops r ((d,int (m-z))::E) K):Ch P n I ops (o::r) E K:=co h (Uq ho (vl hx) (vl hy) hr) k
theorem ki{I:Cj}{op:BinOp}{t u:TypeId}{y:Operand}{k:IntKind}{m z:Int}{r:Value}(ho:o.op= .binOp op t x y u)(hx:DT E x=some (is (.int k m)))(hy:DT E y=some (is (.int k z)))(hr:WY op k m z=some r):Af P I o E (is r):=ok_int ho (vl hx) (vl hy) hr
theorem Uz{I:Cj}{y z:Operand}(ho:o.op= .pick x y z)(hc:DT E x=some (bool b))(hb:b=true)(hx:DT E y=some p):Af P I o E p:=OD ho (vl hc) hb (vl hx)
theorem SZ{I:Cj}{y z:Operand}(ho:o.op= .pick x y z)(hc:DT E x=some (bool b))(hb:b=false)(hx:DT E z=some p):Af P I o E p:=OE ho (vl hc) hb (vl hx)
theorem FO{I:Cj}{t:TypeId}(ho:o.op= .load t x)(ht:EC P t=true)(hx:DT E x=some (ref (p::ps))):Af P I o E p:=Q8 ho ht (vl hx)
theorem Lf{I:Cj}{s:TypeId}{f k:Nat}(ho:o.op= .fieldAddr s x f)(hk:Ah P s f=some k)(hx:DT E x=some (ref ps))(hq:ps.drop k=qs):Af P I o E (ref qs):=M_ ho hk (vl hx) hq
def sel(E:Env):List Nat->Option (List Pr)
 |[]=>some []
 |k::ks=>match E.lookup k,sel E ks with|some p,some ps=>some (p::ps)|_,_=>none
theorem U0:∀{ks:List Nat} {ps:List Pr},sel E ks=some ps->C6 E (ks.zip ps)
 |[],_,h=>by cases h;trivial
 |k::ks,ps,h=>by
  unfold sel at h;split at h
  .rename_i p qs h1 h2;cases h;exact⟨ke h1,U0 h2⟩
  .cases h
theorem Tr.ws{c:Code}{ks:List Nat}(h:sel E ks=some ps)(k:Tr L n (ks.zip ps) I c Q):Tr L n E I c Q:=Tr.weak _ (U0 h) k
def jw(E:Env):List Nat->Env->Option Env
 |[],a=>some a
 |k::ks,a=>match E.lookup k with|some p=>jw E ks ((k,p)::a)|none=>none
theorem Wi:∀{ks:List Nat} {a F:Env},jw E ks a=some F->C6 E a->C6 E F
 |[],_,_,h,ha=>by cases h;exact ha
 |k::ks,a,F,h,ha=>by
  unfold jw at h;split at h
  .rename_i p h1;exact Wi h ⟨ke h1,ha⟩
  .cases h
theorem kk{F:Env}(ks:List Nat)(h:jw E ks []=some F):C6 E F:=Wi h trivial
theorem wk{c:Code}{F:Env}(ks:List Nat)(h:jw E ks []=some F)(k:Tr L n F I c Q):Tr L n E I c Q:=Tr.weak _ (kk ks h) k
theorem vq{x:Operand}{p:Pr}(h:DT E x=some p:=by exact rfl):VL E x p:=vl h
theorem kq{f:Option Pr}{p:Pr}(h:f=some p:=by exact rfl):∃q,f=some q/\Pr.le q p:=ke h
theorem kz{p:Prop}(h:p:=by repeat' first|exact trivial|refine⟨ke rfl,?_⟩):p:=h
theorem Yr{I:Cj}{op:BinOp}{t u:TypeId}{y:Operand}{k:IntKind}{m z:Int}{r:Value}(ho:o.op= .binOp op t x y u:=by exact rfl)(hx:DT E x=some (is (.int k m)):=by exact rfl)(hy:DT E y=some (is (.int k z)):=by exact rfl)(hr:WY op k m z=some r:=by exact rfl):Af P I o E (is r):=ki ho hx hy hr
theorem wk1{c:Code}{p0:Pr}(a0:Nat)(h:sel E [a0]=some [p0])(k:Tr L n [(a0,p0)] I c Q):Tr L n E I c Q:=Tr.ws h k
theorem wk2{c:Code}{p0 p1:Pr}(a0 a1:Nat)(h:sel E [a0,a1]=some [p0,p1])(k:Tr L n [(a0,p0),(a1,p1)] I c Q):Tr L n E I c Q:=Tr.ws h k
theorem wk3{c:Code}{p0 p1 p2:Pr}(a0 a1 a2:Nat)(h:sel E [a0,a1,a2]=some [p0,p1,p2])(k:Tr L n [(a0,p0),(a1,p1),(a2,p2)] I c Q):Tr L n E I c Q:=Tr.ws h k
theorem wk4{c:Code}{p0 p1 p2:Pr}(a0 a1 a2 a3:Nat)(h:sel E [a0,a1,a2,a3]=some [p0,p1,p2,p3])(k:Tr L n [(a0,p0),(a1,p1),(a2,p2),(a3,p3)] I c Q):Tr L n E I c Q:=Tr.ws h k
theorem wk5{c:Code}{p0 p1 p2 p4:Pr}(a0 a1 a2 a3 a4:Nat)(h:sel E [a0,a1,a2,a3,a4]=some [p0,p1,p2,p3,p4])(k:Tr L n [(a0,p0),(a1,p1),(a2,p2),(a3,p3),(a4,p4)] I c Q):Tr L n E I c Q:=Tr.ws h k
theorem wk6{c:Code}{p0 p1 p2 p4:Pr}(a0 a1 a2 a3 a4 a5:Nat)(h:sel E [a0,a1,a2,a3,a4,a5]=some [p0,p1,p2,p3,p4,p5])(k:Tr L n [(a0,p0),(a1,p1),(a2,p2),(a3,p3),(a4,p4),(a5,p5)] I c Q):Tr L n E I c Q:=Tr.ws h k
theorem wk7{c:Code}{p0 p1 p2 p4:Pr}(a0 a1 a2 a3 a4 a5 a6:Nat)(h:sel E [a0,a1,a2,a3,a4,a5,a6]=some [p0,p1,p2,p3,p4,p5,p6])(k:Tr L n [(a0,p0),(a1,p1),(a2,p2),(a3,p3),(a4,p4),(a5,p5),(a6,p6)] I c Q):Tr L n E I c Q:=Tr.ws h k
theorem wk8{c:Code}{p0 p1 p2 p4:Pr}(a0 a1 a2 a3 a4 a5 a6 a7:Nat)(h:sel E [a0,a1,a2,a3,a4,a5,a6,a7]=some [p0,p1,p2,p3,p4,p5,p6,p7])(k:Tr L n [(a0,p0),(a1,p1),(a2,p2),(a3,p3),(a4,p4),(a5,p5),(a6,p6),(a7,p7)] I c Q):Tr L n E I c Q:=Tr.ws h k
theorem wk9{c:Code}{p0 p1 p2 p4 p8:Pr}(a0 a1 a2 a3 a4 a5 a6 a7 a8:Nat)(h:sel E [a0,a1,a2,a3,a4,a5,a6,a7,a8]=some [p0,p1,p2,p3,p4,p5,p6,p7,p8])(k:Tr L n [(a0,p0),(a1,p1),(a2,p2),(a3,p3),(a4,p4),(a5,p5),(a6,p6),(a7,p7),(a8,p8)] I c Q):Tr L n E I c Q:=Tr.ws h k
theorem jx{c:Code}{p0 p1 p2 p4 p8 p9:Pr}(a0 a1 a2 a3 a4 a5 a6 a7 a8 a9:Nat)(h:sel E [a0,a1,a2,a3,a4,a5,a6,a7,a8,a9]=some [p0,p1,p2,p3,p4,p5,p6,p7,p8,p9])(k:Tr L n [(a0,p0),(a1,p1),(a2,p2),(a3,p3),(a4,p4),(a5,p5),(a6,p6),(a7,p7),(a8,p8),(a9,p9)] I c Q):Tr L n E I c Q:=Tr.ws h k
theorem Pb{c:Code}{p0 p1 p2 p4 p8 p9 p10:Pr}(a0 a1 a2 a3 a4 a5 a6 a7 a8 a9 a10:Nat)(h:sel E [a0,a1,a2,a3,a4,a5,a6,a7,a8,a9,a10]=some [p0,p1,p2,p3,p4,p5,p6,p7,p8,p9,p10])(k:Tr L n [(a0,p0),(a1,p1),(a2,p2),(a3,p3),(a4,p4),(a5,p5),(a6,p6),(a7,p7),(a8,p8),(a9,p9),(a10,p10)] I c Q):Tr L n E I c Q:=Tr.ws h k
theorem ez{p0 p1:Pr}{a0 a1:Nat}(h:sel E [a0,a1]=some [p0,p1]):C6 E [(a0,p0),(a1,p1)]:=U0 h
end
end Cp
namespace Cp
open Go Go.RowKit Go.Great Go.ChangeShapes Go.WideShapes
variable{P:Program}{v:Value}{w:World}
def pM:Av:=fun _ _=>False
theorem wN(w:World):Bd pM w:=fun _ _ h=>h.elim
def NG(P:Program)(t:TypeId){α:Type}(ok:α->Prop)(f:α->List Pr):Prop:=
 ∀(H:Type) (enc:TypeId×Value->H) (w:World) (fuel:Nat) (cs:List Value) (x:DataW H×List MemPlace),DataW.trod enc P w 0 (fun _=>true) true fuel t cs=some x->∃a,ok a/\HL pM w (f a) cs/\∀c∈cs,c.oneCell'=true
theorem NG.map{t:TypeId}{α β:Type}{ok:α->Prop}{f:α->List Pr}{ok':β->Prop}{f':β->List Pr}(h:NG P t ok f)(g:α->β)(h1:∀a,ok a->ok' (g a))(h2:∀a,f' (g a)=f a):NG P t ok' f':=by
 intro H enc w fuel cs x hx;obtain⟨a,h3,h4,h5⟩:=h H enc w fuel cs x hx;exact⟨g a,h1 a h3,by rw[h2];exact h4,h5⟩
theorem e7{t:TypeId}{k:IntKind}(ht:P.underlying t=some (.int k)):NG P t (fun n:Int=>(Lit.int k n).wf=true) (fun n=>[is (.int k n)]):=by
 intro H enc w fuel cs x hx;obtain⟨n,rfl,_,hw⟩:=DataW.trod_int ht hx;exact⟨n,hw,⟨rfl,trivial⟩,by simp[Value.oneCell']⟩
theorem HL.len{M:Av}{w:World}:∀{ps:List Pr} {vs:List Value},HL M w ps vs->ps.length=vs.length
 |[],[],_=>rfl
 |p::ps,v::vs,h=>by simp[HL.len h.2]
 |[],_::_,h=>h.elim
 |_::_,[],h=>h.elim
theorem HL.nth{M:Av}{w:World}:∀{ps:List Pr} {vs:List Value} (j:Nat) (p:Pr),HL M w ps vs->ps[j]? =some p->∃v,vs[j]? =some v/\p.h M w v
 |p::ps,v::vs,0,q,h,hj=>by simp at hj;subst hj;exact⟨v,rfl,h.1⟩
 |p::ps,v::vs,j+1,q,h,hj=>by simpa using HL.nth j q h.2 F9
 |[],[],_,_,_,hj=>by simp at hj
 |[],_::_,_,_,h,_=>h.elim
 |_::_,[],_,_,h,_=>h.elim
theorem RK{H:Type}{enc:TypeId×Value->H}{P:Program}{w:World}{e:TypeId}{α:Type}{ok:α->Prop}{f:α->List Pr}(he:NG P e ok f){sz:Nat}(hc:P.cellsOf e=sz){a:Addr}{m:Nat}:
  ∀(len:Nat),(∀i,i<len->∃y,(w.cells? 0 (a.add (i*sz)) sz).bind (DataW.trod enc P w 0 (fun _=>true) true m e)=some y)->
   ∃l:List α,l.length=len/\(∀z∈l,ok z)/\∀(i:Nat) z,l[i]? =some z->(f z).length=sz/\Row pM w a (i*sz) (f z)
 |0,_=>⟨[],rfl,by simp,by simp⟩
 |len+1,h=>by
  obtain⟨l,h1,h2,h3⟩:=RK he hc len (fun i hi=>h i AA);obtain⟨y,hy⟩:=h len AA;obtain⟨cs,hcs,hy⟩:=Option.bind_eq_some_iff.1 hy;obtain⟨z,hz,hl,h1c⟩:=he H enc w m cs y hy;obtain⟨_,hlen,hat⟩:=World.cells?_some hcs;refine⟨l++[z],by simp[h1],?_,fun i u hu=>?_⟩
  .
   intro u hu;rcases List.mem_append.1 hu with hu|hu
   .exact h2 u hu
   .rw[List.mem_singleton.1 hu];exact hz
  .
   rcases Nat.lt_trichotomy i len with hi|hi|hi
   .
    rw[List.getElem?_append_left AA]at hu;exact h3 i u hu
   .
    subst hi;rw[List.getElem?_append_right AA,h1]at hu;simp at hu;subst hu;have hfl:(f z).length=sz:=by rw[hl.len,hlen]
    refine⟨hfl,fun j p hp=>?_⟩;obtain⟨v,hv,Yf⟩:=hl.nth j p hp
    have hj:j<sz:=by
     rcases Nat.lt_or_ge j (f z).length with h'|h'
     .omega
     .rw[List.getElem?_eq_none h']at hp;cases hp
    refine⟨v,?_,fun hf=>hf,h1c v (List.mem_of_getElem? hv),Yf⟩;rw[←hv,←hat j hj];rw[add_add]
   .rw[List.getElem?_eq_none (by simp[h1];omega)]at hu;cases hu
theorem Wj{t e:TypeId}{α:Type}{ok:α->Prop}{f:α->List Pr}{sz:Nat}(ht:P.underlying t=some (.slice e))(hc:P.cellsOf e=sz)(he:NG P e ok f):
  NG P t (fun l:List α=>(∀z∈l,ok z)/\l.length<=maxLen) (fun l=>[slice sz (l.map f)]):=by
 intro H enc w fuel cs x hx;rcases DataW.trod_slice ht hx with⟨rfl,_⟩|⟨a,len,cap,elems,rest,n,rfl,rfl,_,_,hl,hm,hel,hat,_⟩
 .exact⟨[],⟨by simp,by simp⟩,⟨⟨none,0,rfl,by simp,by simp,fun _=>rfl,by simp⟩,trivial⟩,by simp[Value.oneCell']⟩
 .
  obtain⟨l,h1,h2,h3⟩:=RK (H:=H) (enc:=enc) (w:=w) (a:=a) (m:=n) he hc len (fun i hi=>by
   have:=hat i hi;rw[hc]at this;rw[this,List.getElem?_eq_getElem AA]
   exact⟨_,rfl⟩)
  refine⟨l,⟨h2,by omega⟩,⟨⟨some a,cap,by simp[h1],by simp;omega,hm,by simp,fun i row hr=>?_⟩,trivial⟩,by simp[Value.oneCell']⟩;rw[List.getElem?_map]at hr;cases hz:l[i]? with
  |none=>rw[hz]at hr;cases hr
  |some z=>
   rw[hz]at hr;simp at hr;subst hr;obtain⟨h4,h5⟩:=h3 i z hz;exact⟨h4,a,rfl,h5⟩
theorem qD{H:Type}{enc:TypeId×Value->H}{t:TypeId}{α:Type}{ok:α->Prop}{p:α->Pr}(ho:NG P t ok (fun a=>[p a])){d:DataW H}{ps:List MemPlace}(h:DataW.Trod enc P w 0 (fun _=>true) true t v d ps)(hv:v.cells= #[v]):
  ∃a,ok a/\(p a).h pM w v:=by
 obtain⟨fuel,hf⟩:=h;obtain⟨a,h1,h2,_⟩:=ho _ _ _ _ _ _ hf;rw[hv]at h2;exact⟨a,h1,h2.1⟩
theorem Lh{H:Type}{enc:TypeId×Value->H}{P:Program}(hl:laidOutB P=true){W W':World}(hb:Below W.heap.size W W'):
  ∀{ts:List TypeId} {vs:List Value} {ds:List (DataW H)} {ps:List MemPlace},ts.all (fun t=>P.readableRec t&&decide (t<P.types.size))=true->DataW.TrodAll enc P W 0 (fun _=>true) true ts vs ds ps->(∀x∈ps,x.block<W.heap.size)->
   DataW.TrodAll enc P W' 0 (fun b=>decide (b<W.heap.size)) true ts vs ds ps
 |[],vs,ds,ps,_,h,_=>by
  obtain⟨rfl,rfl,rfl⟩:=trodAll_nil h;rfl
 |t::ts,vs,ds,ps,hr,h,hlt=>by
  obtain⟨v,vs',d,ds',p,q,rfl,rfl,rfl,h1,h2⟩:=trodAll_cons h;simp only[List.all_cons,Bool.and_eq_true,decide_eq_true_eq]at hr;exact⟨p,q,Below.trod hl hr.1.1 hr.1.2 h1 hb (fun x hx=>hlt x (List.mem_append_left _ hx)),Lh hl hb (by simpa using hr.2) h2 (fun x hx=>hlt x (List.mem_append_right _ hx)),rfl⟩
theorem jy{H:Type}{enc:TypeId×Value->H}{fn:Func}{s:ChangeSpec}{W W':World}{args:Array Value}{ds gs:List (DataW H)}{before p:List MemPlace}{tb:TypeId}(hl:laidOutB P=true)(hr:fn.params.toList.all (fun t=>P.readableRec t&&decide (t<P.types.size))=true)(hres:fn.resultTypes= #[tb])(hb:P.underlying tb=some .bool)(hs:s.vars=[])(hA:DataW.TrodAll enc P W 0 (fun _=>true) true fn.params.toList args.toList ds p)(hp:before=p)(hW:DataW.Whole enc P fn.params.toList s.vars false W args.toList ds gs before)(hf:s.fn H (ds++gs)={ results:=[.lit (.bool true)],args:=ds })(jz:Below W.heap.size W W'):s.post enc P fn false true false false W args (.bool true) W':=by
 subst hp;refine⟨ds,gs,before,[],before,[],hW,?_,?_,?_,jz.frame _,fun h=>by cases h⟩
 .rw[hf,hres];exact trodAll_mk1 (shut_bool hb _)
 .rw[hf];exact Lh hl jz hr hA (fun x hx=>by simpa using hW.lt x hx)
 .rw[hf,hs];rfl
end Cp
