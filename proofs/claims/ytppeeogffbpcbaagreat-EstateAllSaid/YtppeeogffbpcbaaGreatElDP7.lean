/-
  The law: what changes and sets of changes make of an estate, or the error.
-/
import Derived.Test.YtppeeogffbpcbaaGreatRows
import Derived.Test.YtppeeogffbpcbaaGreatElDP6
set_option linter.all false
set_option maxRecDepth 40000
set_option maxHeartbeats 16000000
namespace Go.Proofs.YtppeeogffbpcbaaGreat
open Go Go.RowKit Cp Go.Proofs.Tryz
def iJ:List (Int×Int):=[(2,0),(1,0),(5,2048),(16,128),(3,0),(15,168)]
def UK (v:Int):Int×Int:=iJ[v.toNat]?.getD (2,0)
theorem l5 {v:Int} (h:0≤v∧v<6):(iJ.map fun u=>[int u.1,int u.2])[v.toNat]? =some [int (UK v).1,int (UK v).2]:=by
 have hl:v.toNat<iJ.length:=by show v.toNat<6;omega
 unfold UK;rw [List.getElem?_map,List.getElem?_eq_getElem hl];rfl
theorem fS:∀u∈iJ,Bw u.1 u.2>0:=by decide+kernel
theorem cQ (v:Int):Bw (UK v).1 (UK v).2>0:=by
 unfold UK
 cases h:iJ[v.toNat]? with
 |none=>decide+kernel
 |some u=>exact fS u (List.mem_of_getElem? h)
def Jq:Nat→DS→Int→List QL→List QL×Int×DS
 |0,s,day,l=>(l,day,s)
 |k+1,s,day,l=>Jq k s.Aj.Aj (day+1+s.Aj.of [5,30,0,100]) (l++[⟨(UK (s.val 6)).1,(UK (s.val 6)).2,day⟩])
abbrev D2 (s:DS):List QL×Int×DS:=Jq (1+s.Aj.Aj.Aj.val 3).toNat s.Aj.Aj.Aj.Aj (s.Aj.Aj.val 20) []
def Ox (s:DS) (name:List UInt8):Im:=⟨name,1+s.val 2,1+s.Aj.val 4,(D2 s).1,((D2 s).1[0]?.getD EG).day+(D2 s).2.2.of [50,300,0,3000]⟩
def l6 (s:DS):DS:=(D2 s).2.2.Aj
structure VI (l:List QL) (day:Int):Prop where
 lo:0≤day
 hi:day≤20+101*(l.length:Nat)
 at_:∀j,j<l.length→Dm l j=true
 lt:∀x∈l,x.day<day
theorem Rf {l:List QL} {day d:Int} {u:Int×Int} (h:VI l day) (h3:l.length≤3) (hu:Bw u.1 u.2>0) (hd:0≤d∧d≤100):VI (l++[⟨u.1,u.2,day⟩]) (day+1+d):=by
 have h0:=h.lo;have h1:=h.hi
 refine ⟨by omega,by rw [List.length_append];simp;omega,fun j hj=> ?_,fun x hx=> ?_⟩
 ·
  rw [List.length_append] at hj;simp at hj
  rcases Nat.lt_or_ge j l.length with hl|hl
  ·
   have:=h.at_ j hl
   unfold Dm at this ⊢
   rw [List.getElem?_append_left hl,List.getElem?_append_left (show j-1<l.length by omega)];exact this
  ·
   have:j=l.length:=by omega
   subst this
   unfold Dm
   rw [List.getElem?_append_right (Nat.le_refl _),Nat.sub_self]
   rcases Nat.eq_zero_or_pos l.length with hz|hz
   ·
    obtain rfl:=List.eq_nil_of_length_eq_zero hz
    simp [hu];simp at h1;omega
   ·
    obtain ⟨y,hy⟩:=at_ (l:=l) (k:=l.length-1) (by omega)
    rw [List.getElem?_append_left (show l.length-1<l.length by omega),hy]
    have:=h.lt y (List.mem_of_getElem? hy)
    simp [hu];omega
 ·
  rcases List.mem_append.1 hx with hx|hx
  · have:=h.lt x hx;omega
  · simp at hx;subst hx;show day<_;omega
theorem S4 (s:DS):0≤s.of [5,30,0,100]∧s.of [5,30,0,100]≤100:=by have:=s.HM (l:=[5,30,0,100]) (by simp);simp at this;omega
theorem Xm (s:DS):0≤s.of [50,300,0,3000]∧s.of [50,300,0,3000]≤3000:=by have:=s.HM (l:=[50,300,0,3000]) (by simp);simp at this;omega
theorem Oy:∀(k:Nat) (s:DS) (day:Int) (l:List QL),VI l day→l.length+k≤3→VI (Jq k s day l).1 (Jq k s day l).2.1∧(Jq k s day l).1.length=l.length+k
 |0,s,day,l,h,_=>⟨h,rfl⟩
 |k+1,s,day,l,h,hk=>by
  have:=Oy k s.Aj.Aj (day+1+s.Aj.of [5,30,0,100]) (l++[⟨(UK (s.val 6)).1,(UK (s.val 6)).2,day⟩]) (Rf h (by omega) (cQ _) (S4 _)) (by simp;omega)
  refine ⟨this.1,?_⟩
  show (Jq k _ _ _).1.length=_
  rw [this.2];simp;omega
structure S5 (x:Im):Prop where
 ok:Fx x=true
 name:x.name.length≤32
 links:x.links.length≤3
theorem UL {s:DS} {name:List UInt8} (hn:named name=true):S5 (Ox s name):=by
 have h2:=s.B4 (n:=2) (by omega)
 have h4:=s.Aj.B4 (n:=4) (by omega)
 have NT:=s.Aj.Aj.B4 (n:=20) (by omega)
 have h3:=s.Aj.Aj.Aj.B4 (n:=3) (by omega)
 have hI:VI [] (s.Aj.Aj.val 20):=⟨by omega,by simp;omega,fun j hj=>by simp at hj,fun x hx=>by simp at hx⟩
 obtain ⟨hL,hl⟩:=Oy (1+s.Aj.Aj.Aj.val 3).toNat s.Aj.Aj.Aj.Aj (s.Aj.Aj.val 20) [] hI (by simp;omega)
 simp only [List.length_nil,Nat.zero_add] at hl
 have hlen:(D2 s).1.length=(1+s.Aj.Aj.Aj.val 3).toNat:=hl
 have hu:=Xm (D2 s).2.2
 obtain ⟨c,hc⟩:=at_ (l:=(D2 s).1) (k:=0) (by omega)
 have hg:=Bi (d:=EG) hc
 have hc1:=hL.lt c (List.mem_of_getElem? hc)
 have hc2:=hL.hi
 refine ⟨Ba.2 ⟨hn,?_,?_,?_,?_,?_,hL.at_,?_,?_⟩,EN hn,?_⟩
 · show 1+s.val 2=1∨1+s.val 2=2;omega
 · show 1≤1+s.Aj.val 4;omega
 · show 1+s.Aj.val 4≤4;omega
 · show 1≤(D2 s).1.length;omega
 · show (D2 s).1.length≤8;omega
 · show ((D2 s).1[0]?.getD EG).day≤((D2 s).1[0]?.getD EG).day+_;omega
 · show ((D2 s).1[0]?.getD EG).day+_≤40000;rw [hg];omega
 · show (D2 s).1.length≤3;omega
theorem UM {b:Nat} {s:DS} {name:List UInt8}  :BG prog 67 [ptr b 0,str name] (agg (EE (Ox s name))) (Cd b s) (fun _=>Cd b (l6 s)):=by
 refine BG.of func67 rfl rfl (by exact Nb rfl) fun M0 w0 S rs M1 w1=> ?_
 have Gz:=s.B4 (n:=2) (by omega)
 have hv4:=s.Aj.B4 (n:=4) (by omega)
 have sU:=s.Aj.Aj.B4 (n:=20) (by omega)
 have hv3:=s.Aj.Aj.Aj.B4 (n:=3) (by omega)
 refine Tr.seq (Tr.Aq ?_)
 refine Tl rfl rfl rfl rfl z107 LW (fun b1=> ?_)
 refine ao ?_
 refine ao ?_
 refine TO.Er 1 rfl rfl (by decide) (AQ rfl rfl (by decide) rfl (BD (by omega) (by omega)) ⟨ke rfl,ke rfl,trivial⟩) ?_
 refine ao ?_
 refine TO.Er 1 rfl rfl (by decide) (AQ rfl rfl (by decide) rfl (BD (by omega) (by omega)) ⟨ke rfl,ke rfl,trivial⟩) ?_
 refine ao ?_
 refine Tl rfl rfl rfl rfl z107 LW (fun b2=> ?_)
 refine TO.AY 0 rfl rfl rfl (vl rfl) (Va rfl) rfl Dg rfl rfl ?_
 refine ao ?_
 refine ao ?_
 refine TO.Er 2 rfl rfl (by decide) (AQ rfl rfl (by decide) rfl (BD (by omega) (by omega)) ⟨ke rfl,ke rfl,trivial⟩) ?_
 refine ao ?_
 refine Fk 0 4 5 6 rfl ?_
 refine ao ?_
 refine TO.Er 2 rfl rfl (by decide) (AQ rfl rfl (by decide) rfl (BD (by omega) (by omega)) ⟨ke rfl,ke rfl,trivial⟩) ?_
 refine ao ?_
 refine Tr.block (Tr.HN 0 [str name,int (1+s.val 2),int (1+s.Aj.val 4),As (.slice none 0 0) (Ss []),is (.int .i64 0)] rfl ⟨Lr,Lr,Lr,Dr rfl,Lr,trivial⟩ (Tr.EY 152 3 ?_))
 refine Tr.V0 [(0,_),(4,_),(5,_)] ⟨ke rfl,ke rfl,ke rfl,trivial⟩ (fun (k:Int) (day:Int) (l:List QL) (s2:DS) v=>[(7,int k),(6,int day)]) (fun (k:Int) (day:Int) (l:List QL) (s2:DS) v=>Hp M0 w0 S (BJ 152 3 v::AE true b2 107 [str name,int (1+s.val 2),int (1+s.Aj.val 4),As v (Ss l),is (.int .i64 0)]::AE true b1 107 (([.string (ByteArray.mk #[]),.int .i64 0,.int .i64 0,.slice none 0 0,.int .i64 0]:List Value).map is)::Cd b s2::Bv M1 w1::rs)) (fun (k:Int) (day:Int) (l:List QL) (s2:DS)=>(0≤k∧k+l.length≤3∧1≤k+l.length∧VI l day)∧Jq k.toNat s2 day l=D2 s) (fun (k:Int) (day:Int) (l:List QL) (s2:DS)=>k.toNat) (_) (_) ([]) (_) (.slice none 0 0) (⟨⟨by omega,by simp;omega,by simp;omega,⟨by omega,by simp;omega,fun j hj=>by simp at hj,fun x hx=>by simp at hx⟩⟩,rfl⟩) ⟨ke rfl,ke rfl,trivial⟩ (fun _ _ h=>h) ?_
 rintro k day l s2 v ⟨⟨Qz,hk1,hk2,hL⟩,hR⟩
 have hL0:=hL.lo
 have hL1:=hL.hi
 have hof:=S4 s2.Aj
 refine an ?_ ?_<;>intro h1 q1
 have aP:0<k:=of_decide_eq_true h1
 have hv6:=s2.B4 (n:=6) (by omega)
 refine ac ?_
 refine ao ?_
 refine TO.Er 3 rfl rfl (by decide) (AQ rfl rfl (by decide) rfl (BD (by omega) (by omega)) ⟨ke rfl,ke rfl,trivial⟩) ?_
 refine tp rfl (AA rfl underlying114 DE (Kf rfl) (vl rfl) (by omega) (show (iJ.map fun u=>[int u.1,int u.2])[_]? =_ from l5 hv6)) ?_
 refine tp rfl (AH rfl CM DE (vl rfl) rfl rfl) ?_
 refine Tl rfl rfl rfl rfl z24 De (fun b3=> ?_)
 refine sf 0 8 ⟨rfl,rfl,rfl⟩ rfl rfl rfl rfl ?_
 refine ao ?_
 refine HH 0 4 5 6 7 8 rfl ?_
 refine ao ?_
 refine TO.Ex 0 rfl rfl (by decide) (DF rfl rfl rfl rfl underlying105 EP V5 z152 (Kb rfl) (Kf rfl) (B6 (by exact List.Mem.head _) (Ka rfl))) (fun v1=> ?_)
 refine tp rfl (AD rfl L1 (vl rfl)) (TO.C7 1 rfl rfl (An rfl rfl (vl rfl) (Vo rfl) V3 rfl (by exact Nb rfl) rfl) ?_)
 refine ao ?_
 refine Ej 0 4 5 6 7 rfl ?_
 refine ao ?_
 refine TO.Er 3 rfl rfl (by decide) (AQ rfl rfl (by decide) rfl (Fw (l:=[5,30,0,100]) (by simp) (by simp)) ⟨ke rfl,(Kf rfl),trivial⟩) ?_
 refine ao ?_
 refine ac ?_
 refine Fin.HN 1 [str name,int (1+s.val 2),int (1+s.Aj.val 4),As v1 (Ss (l++[(⟨(UK (s2.val 6)).1,(UK (s2.val 6)).2,day⟩:QL)])),is (.int .i64 0)] rfl ⟨Lr,Lr,Lr,Dc (by rw [List.map_append];rfl),Lr,trivial⟩ ?_
 exact Fin.YX (k-1) (_) (l++[(⟨(UK (s2.val 6)).1,(UK (s2.val 6)).2,day⟩:QL)]) (_) v1 (⟨⟨⟨by omega,by simp;omega,by simp;omega,Rf hL (by omega) (cQ _) (S4 _)⟩,by rw [←hR,show k.toNat=(k-1).toNat+1 by omega];rfl⟩,by omega⟩) ⟨⟨_,rfl,int_eq (by omega)⟩,⟨_,rfl,int_eq (by omega)⟩,ke rfl,ke rfl,ke rfl,trivial⟩ (fun _ _ h=>h)
 have aP:¬0<k:=of_decide_eq_false h1
 obtain rfl:k=0:=by omega
 obtain ⟨c0,hc0⟩:=at_ (l:=l) (k:=0) (by omega)
 have YA:=Bi (d:=EG) hc0
 have sV:=hL.lt c0 (List.mem_of_getElem? hc0)
 have sW:0≤c0.day:=by have h_:=hL.at_ 0 (A1 hc0);unfold Dm at h_;rw [YA] at h_;simp at h_;omega
 have sX:=Xm s2
 have hR1:(D2 s).1=l:=by rw [←hR];rfl
 obtain rfl:s2=(D2 s).2.2:=by rw [←hR];rfl
 refine ac ?_
 refine Tr.seq (Tr.rx ?_)
 refine ay ?_
 refine xo rfl (fun _=>AA rfl underlying105 EP (Kb rfl) (vl rfl) (by omega) (AX (k:=0) hc0)) ?_
 refine ay ?_
 refine xo rfl (fun _=>oI) ?_
 refine Cx.ef 3 rfl rfl (by decide) (AQ rfl rfl (by decide) rfl (Fw (l:=[50,300,0,3000]) (by simp) (by simp)) ⟨ke rfl,(Kf rfl),trivial⟩) ?_
 refine ay ?_
 refine Cx.nil ⟨by kernel_rfl,?_⟩
 refine BV.done ZT (Fin.go (B3 4 5 rfl ?_))
 refine ao ?_
 refine TO.AY 2 rfl rfl rfl (vl rfl) (Va rfl) rfl Dg rfl rfl ?_
 refine ao ?_
 refine Tr.ret (Fin.CB [_,_,_] rfl (AW.cell 2 rfl rfl HR Dg rfl (Lr)) ?_ (fun _ _ _ _=>rfl))
 · exact Ab ⟨Lr,Lr,Lr,Pr.le_trans (A7 _ _) (Pr.le_of_eq (by show _=Ss (D2 s).1;rw [hR1])),int_eq (by show _=((D2 s).1[0]?.getD EG).day+_;rw [hR1,YA]),trivial⟩
structure S6 (n:Nat) (i j:Int) (l:List Jv):Prop where
 at_:∀k,k<l.length→Bs n l k=true
 lt:∀g∈l,g.client<i∨(g.client=i∧g.server<j)
theorem S6.nil (n:Nat) (i j:Int):S6 n i j []:=⟨fun k hk=>by simp at hk,fun g hg=>by simp at hg⟩
theorem S6.step {n:Nat} {i j:Int} {l:List Jv} (h:S6 n i j l):S6 n i (j+1) l:=⟨h.at_,fun g hg=>by have:=h.lt g hg;omega⟩
theorem S6.row {n:Nat} {i j:Int} {l:List Jv} (h:S6 n i j l):S6 n (i+1) 0 l:=⟨h.at_,fun g hg=>by have:=h.lt g hg;omega⟩
theorem S6.snoc {n:Nat} {i j:Int} {l:List Jv} (h:S6 n i j l) (hi:0≤i∧i<n) (hj:0≤j∧j<n) (hn:i≠j):S6 n i (j+1) (l++[⟨i,j⟩]):=by
 refine ⟨fun k hk=> ?_,fun g hg=> ?_⟩
 ·
  rw [List.length_append] at hk;simp at hk
  rcases Nat.lt_or_ge k l.length with hl|hl
  ·
   have:=h.at_ k hl
   unfold Bs at this ⊢
   rw [List.getElem?_append_left hl,List.getElem?_append_left (show k-1<l.length by omega)];exact this
  ·
   have:k=l.length:=by omega
   subst this
   unfold Bs
   rw [List.getElem?_append_right (Nat.le_refl _),Nat.sub_self]
   rcases Nat.eq_zero_or_pos l.length with hz|hz
   ·
    obtain rfl:=List.eq_nil_of_length_eq_zero hz
    simp;omega
   ·
    obtain ⟨y,hy⟩:=Cp.at_ (l:=l) (k:=l.length-1) (by omega)
    rw [List.getElem?_append_left (show l.length-1<l.length by omega),hy]
    have:=h.lt y (List.mem_of_getElem? hy)
    simp;omega
 ·
  rcases List.mem_append.1 hg with hg|hg
  · have:=h.lt g hg;omega
  · simp at hg;subst hg;right;exact ⟨rfl,by show j<j+1;omega⟩
theorem Xn:∀i,i<2→Lib.compareBytes (Et[i]?.getD []) (Et[i+1]?.getD [])= -1:=by decide+kernel
structure Nr (e:DR):Prop where
 n2:2≤e.BC.length
 n3:e.BC.length≤3
 snd:U7 e.BC
 ed:∀k,k<e.BH.length→Bs e.BC.length e.BH k=true
 g1:1≤e.BH.length
 g3:e.BH.length≤3
 it:∀x∈e.items,S5 x
 i2:e.items.length≤2
theorem Nr.ok {e:DR} (h:Nr e):D9 e=true:=by
 have h3:=h.n3;have g3:=h.g3;have i2:=h.i2
 refine Cn.2 ⟨fun j hj=> ?_,by omega,h.ed,by omega,List.all_eq_true.2 fun x hx=>(h.it x hx).ok,by omega⟩
 obtain ⟨x,hx⟩:=at_ hj
 have hs:=h.snd j x hx
 unfold LA
 rw [hx,Option.getD_some,CE.2 (aE hs),Bool.true_and,Bool.or_eq_true,decide_eq_true_eq,decide_eq_true_eq]
 rcases Nat.eq_zero_or_pos j with hz|hz
 · exact .inl hz
 ·
  right
  obtain ⟨y,hy⟩:=at_ (l:=e.BC) (k:=j-1) (by omega)
  have K1:=h.snd _ y hy
  rw [hy,Option.getD_some]
  have:=Xn (j-1) (by omega)
  rw [K1.name,show j-1+1=j by omega,hs.name] at this
  exact this
theorem Nr.fits {e:DR} (h:Nr e):e.fits:=by
 have h3:=h.n3;have g3:=h.g3;have i2:=h.i2
 refine ⟨fun x hx=> ?_,fun x hx=>by have:=(h.it x hx).name;unfold maxLen;omega,by omega,by omega,by omega⟩
 obtain ⟨i,hi⟩:=List.getElem?_of_mem hx
 exact ⟨On (h.snd i x hi),Ng (h.snd i x hi)⟩
abbrev Jr:List UInt8:=[98,97,99,107,117,112]
abbrev S7:List UInt8:=[100,101,101,100]
theorem UN (s:DS):named (FP s [Jr,S7])=true:=by
 have h:=s.B4 (n:=2) (by omega)
 unfold FP
 have:s.val (([Jr,S7]:List (List UInt8)).length:Nat)=0∨s.val (([Jr,S7]:List (List UInt8)).length:Nat)=1:=by show s.val 2=0∨s.val 2=1;omega
 rcases this with h|h<;>rw [h]<;>decide
theorem Rh {l:List Im} {y:Im} (h:∀x∈l,S5 x) (hy:S5 y):∀x∈l++[y],S5 x:=by
 intro x hx
 rcases List.mem_append.1 hx with hx|hx
 · exact h x hx
 · simp at hx;subst hx;exact hy
theorem Xo {b:Nat} {s:DS}  :BG prog 13 [ptr b 0] (Cp.ex fun e:DR=>fact (Nr e) (agg (CG e))) (Cd b s) (fun _=>EZ 101 b):=by
 refine BG.of func13 rfl rfl (by exact Nb rfl) fun M0 w0 S rs M1 w1=> ?_
 have Gz:=s.B4 (n:=2) (by omega)
 have NC:(Et.take (2+s.val 2).toNat).length=(2+s.val 2).toNat:=by rw [List.length_take];show min _ 3=_;omega
 refine Tr.seq (Tr.Aq ?_)
 refine Tl rfl rfl rfl rfl z41 Ef (fun b1=> ?_)
 refine TO.nil (Fin.go (Tr.seq (Tr.Aq ?_)))
 refine Tl rfl rfl rfl rfl z41 Ef (fun b2=> ?_)
 refine TO.nil (Fin.go (Tr.seq (Tr.Aq (tp rfl (AG (xs:=[.const (.string ⟨[97,112,112].toArray⟩),.const (.string ⟨[100,98].toArray⟩),.const (.string ⟨[119,101,98].toArray⟩)]) (rows:=[[_],[_],[_]]) rfl rfl underlying74 G0 z9 rfl (by decide) ⟨⟨(by exact rfl),(Vo rfl)⟩,⟨⟨(by exact rfl),(Vo rfl)⟩,⟨⟨(by exact rfl),(Vo rfl)⟩,trivial⟩⟩⟩ (by decide)) ?_))))
 refine tm rfl (TO.Er 2 rfl rfl (by decide) (AQ rfl rfl (by decide) rfl (BD (by omega) (by omega)) ⟨ke rfl,ke rfl,trivial⟩) ?_)
 refine tp rfl (FI rfl (vl rfl) (vl rfl) ?hin) ?_;case hin=>unfold LK;omega
 refine tp rfl (El rfl underlying74 G0 (Kf rfl) (vl rfl) (by omega) (by simp;omega)) ?_
 refine tm rfl (TO.nil (Fin.go (Tr.seq (Tr.seq (Tr.A3 (cm rfl (co rfl (CW rfl underlying74 (vl rfl)) (cm rfl (Ch.nil (Fin.go (Tr.block ?_)))))))))))
 refine Tr.re 16 rfl (Pr.le_of_eq (by show slice 1 (List.take _ (Et.map fun t=>[str t]))=_;rw [←List.map_take]):Pr.le _ (Pf (Et.take (2+s.val 2).toNat))) ?_
 refine Tr.re 17 rfl (int_eq (by simp;rfl):Pr.le _ (int (((Et.take (2+s.val 2).toNat).length:Nat):Int))) ?_
 refine Tr.HN 0 [As (.slice none 0 0) (slice 9 (([]:List A5).map Ah)),is (.slice none 0 0),is (.slice none 0 0)] rfl ⟨Dr rfl,Lr,Lr,trivial⟩ (Tr.EY 32 9 (Tr.GC [(0,_),(2,_),(3,_),(4,_),(16,_),(17,_)] ⟨ke rfl,ke rfl,ke rfl,ke rfl,ke rfl,ke rfl,trivial⟩ (fun (k:Nat) (es:List A5) (s2:DS) v=>[(18,int ((k:Nat):Int))]) (fun (k:Nat) (es:List A5) (s2:DS) v=>Hp M0 w0 S (BJ 32 9 v::AE true b2 41 [As v (slice 9 (es.map Ah)),is (.slice none 0 0),is (.slice none 0 0)]::AE true b1 41 (([.slice none 0 0,.slice none 0 0,.slice none 0 0]:List Value).map is)::Cd b s2::Bv M1 w1::rs)) (fun (k:Nat) (es:List A5) (s2:DS)=>k≤(2+s.val 2).toNat∧es.length=k∧U7 es) (fun (k:Nat) (es:List A5) (s2:DS)=>(2+s.val 2).toNat-k) (0) ([]) (_) (.slice none 0 0) (⟨by omega,rfl,fun i e h=>by simp at h⟩) ⟨ke rfl,trivial⟩ (fun _ _ h=>h) ?_))
 rintro k es s2 v ⟨hk1,hk2,aP⟩
 refine Tr.seq (Tr.A3 (co rfl (ki rfl rfl rfl rfl) (Ch.nil (Fin.go (Tr.seq ?_)))))
 refine Tr.cn rfl ?_ ?_<;>intro h1 q1
 have hkn:k<(2+s.val 2).toNat:=by have:=FX.Gp h1;rw [NC] at this;omega
 obtain ⟨nm,hnm⟩:=at_ (l:=Et.take (2+s.val 2).toNat) (k:=k) (by omega)
 have K7:Et[k]? =some nm:=XE hnm
 have mj:=XF (s2.Aj.val 3)
 have sY:k<3:=A1 K7
 have hvs:=s2.Aj.B4 (n:=3) (by omega)
 have hof:=eo s2
 refine Tr.skip (Fin.go (Tr.seq (Tr.block (Tr.seq (Tr.A3 (cm rfl (co rfl (AA rfl underlying74 G0 (vl rfl) (vl rfl) (by omega) (AX hnm)) (co rfl (E_ rfl J6 rfl) (cm rfl (cm rfl (Ch.nil (Fin.go (Tr.seq (Tr.pad ?_))))))))))))))
 refine Tr.QY mixed [none,none,none,some (0,4,true,0),none,none,none,none,none,some (0,4,true,0),none,none,none,some (0,4,true,0),none,none,none,some (0,4,true,0),none,some (0,0,true,7),some (7,0,true,7)] (by kernel_rfl) (xm rfl (xm rfl (xo rfl (fun _=>AG (xs:=[.const (.int .i64 (3)),.const (.int .i64 (3)),.const (.int .i64 (4))]) (rows:=[[_],[_],[_]]) rfl rfl underlying22 CO z3 rfl (by decide) ⟨⟨(by exact rfl),(Vo rfl)⟩,⟨⟨(by exact rfl),(Vo rfl)⟩,⟨⟨(by exact rfl),(Vo rfl)⟩,trivial⟩⟩⟩ (by decide)) ?_)))
 refine Cx.ef 4 rfl rfl (by decide) (AQ rfl rfl (by decide) rfl (Fw (l:=[3,3,4]) (by simp) (by simp)) ⟨ke rfl,(Kf rfl),trivial⟩) ?_
 refine xo rfl (fun _=>AG (xs:=[.const (.int .i64 (10)),.const (.int .i64 (8)),.const (.int .i64 (2))]) (rows:=[[_],[_],[_]]) rfl rfl underlying22 CO z3 rfl (by decide) ⟨⟨(by exact rfl),(Vo rfl)⟩,⟨⟨(by exact rfl),(Vo rfl)⟩,⟨⟨(by exact rfl),(Vo rfl)⟩,trivial⟩⟩⟩ (by decide)) ?_
 refine xo rfl (fun _=>AG (xs:=[.const (.int .i64 (8)),.const (.int .i64 (2))]) (rows:=[[_],[_]]) rfl rfl underlying22 CO z3 rfl (by decide) ⟨⟨(by exact rfl),(Vo rfl)⟩,⟨⟨(by exact rfl),(Vo rfl)⟩,trivial⟩⟩ (by decide)) ?_
 refine xo rfl (fun _=>AG (xs:=[.const (.int .i64 (2)),.const (.int .i64 (10)),.const (.int .i64 (8)),.const (.int .i64 (3))]) (rows:=[[_],[_],[_],[_]]) rfl rfl underlying22 CO z3 rfl (by decide) ⟨⟨(by exact rfl),(Vo rfl)⟩,⟨⟨(by exact rfl),(Vo rfl)⟩,⟨⟨(by exact rfl),(Vo rfl)⟩,⟨⟨(by exact rfl),(Vo rfl)⟩,trivial⟩⟩⟩⟩ (by decide)) ?_
 refine xo rfl (fun _=>AG (xs:=[.tmp 27,.tmp 28,.tmp 29]) (rows:=[[_],[_],[_]]) rfl rfl underlying102 Fl z22 rfl (by decide) ⟨⟨(by exact rfl),⟨_,rfl,Pr.le_trans (Au _ _) (AS _)⟩⟩,⟨⟨(by exact rfl),⟨_,rfl,Pr.le_trans (Au _ _) (AS _)⟩⟩,⟨⟨(by exact rfl),⟨_,rfl,Pr.le_trans (Au _ _) (AS _)⟩⟩,trivial⟩⟩⟩ (by decide)) ?_
 refine xm rfl (Cx.ef 4 rfl rfl (by decide) (AQ rfl rfl (by decide) rfl (BD (by omega) (by omega)) ⟨ke rfl,ke rfl,trivial⟩) ?_)
 refine xo rfl (fun _=>AA rfl underlying102 Fl (Kf rfl) (vl rfl) (by omega) (show (Lt.map fun l=>[ints l])[_]? =_ from aB hvs)) ?_
 refine xo rfl (fun _=>E_ rfl OK rfl) (xm rfl (Cx.ef 4 rfl rfl (by decide) (AQ rfl rfl (by decide) rfl (Ji (by omega) (by omega)) ⟨ke rfl,ke rfl,trivial⟩) (xo rfl (fun _=>AG (xs:=[.const (.int .i64 (1))]) (rows:=[[_]]) rfl rfl underlying22 CO z3 rfl (by decide) ⟨⟨(by exact rfl),(Vo rfl)⟩,trivial⟩ (by decide)) ?_)))
 refine xo rfl (fun _=>AG (xs:=[.const (.int .i64 (2)),.const (.int .i64 (3))]) (rows:=[[_],[_]]) rfl rfl underlying22 CO z3 rfl (by decide) ⟨⟨(by exact rfl),(Vo rfl)⟩,⟨⟨(by exact rfl),(Vo rfl)⟩,trivial⟩⟩ (by decide)) ?_
 refine xm rfl (Cx.ef 4 rfl rfl (by decide) (AQ rfl rfl (by decide) rfl (Ji (by omega) (by omega)) ⟨ke rfl,ke rfl,trivial⟩) (xo rfl (fun _=>Al (rows:=[(0,[_]),(1,[_]),(2,[_]),(3,[_]),(4,[_]),(6,[_]),(7,[_]),(8,[_])]) rfl Yc Df ⟨⟨rfl,(Vo rfl)⟩,⟨⟨rfl,(Vo rfl)⟩,⟨⟨rfl,(Vo rfl)⟩,⟨⟨rfl,(Vo rfl)⟩,⟨⟨rfl,(Vo rfl)⟩,⟨⟨rfl,⟨_,rfl,Pr.le_trans (Au _ _) (AS _)⟩⟩,⟨⟨rfl,⟨_,rfl,Pr.le_trans (Au _ _) (AS _)⟩⟩,⟨⟨rfl,(Vo rfl)⟩,trivial⟩⟩⟩⟩⟩⟩⟩⟩ rfl) (Cx.ef 0 rfl rfl (by decide) (G7 rfl rfl (by decide) rfl z32 Df) (Cx.C7 0 rfl rfl (G8 rfl rfl rfl rfl (Va rfl) A8 rfl rfl) ?_))))
 refine Cx.nil ⟨rfl,?_⟩
 refine BV.open_ 0 7 rfl rfl (fun v1=> ?_)
 refine BV.done (Ck.cons (Ck.cons (Ck.cons (Ck.cons (Ck.cons (Ck.cons (Ck.map _))))))) (Fin.R3 7 0 _ rfl rfl (fun _=>rfl) (fun b3=> ?_))
 refine Fin.go (Nz 0 2 3 4 5 6 7 16 17 18 rfl (Tr.seq (Tr.seq (Tr.HN 0 [str nm,int 1,int (s2.of [3,3,4]),ints (Jl (s2.Aj.val 3)),bool (s2.Aj.Aj.val 2==2-1),is (.slice none 0 0),ints [1],ints [2,3],bool (s2.Aj.Aj.Aj.val 3==3-1)] rfl ⟨Lr,Lr,Lr,Lr,Lr,Lr,Lr,Lr,Lr,trivial⟩ (Tr.A3 (co rfl (AD rfl M6 (vl rfl)) (co rfl (Bc 0 rfl (BL rfl CV (vl rfl) rfl)) (co rfl (ki rfl rfl rfl rfl) (Ch.nil (Fin.go ?_))))))))))
 refine Tr.cn rfl ?_ ?_<;>intro h2 q2
 refine Tr.Aq (tp rfl (AG (xs:=[.const (.int .i64 (14))]) (rows:=[[_]]) rfl rfl underlying22 CO z3 rfl (by decide) ⟨⟨(by exact rfl),(Vo rfl)⟩,trivial⟩ (by decide)) ?_)
 refine tp rfl (AD rfl Ea (vl rfl)) (TO.rd 0 rfl rfl rfl (by decide) (BL rfl OK (vl rfl) rfl) (TO.pad ?_))
 refine TO.Ex 0 rfl rfl (by decide) (DF rfl rfl rfl rfl underlying22 CO OJ z3 (Kf rfl) (vl rfl) (Bx (by exact List.Mem.head _) (vl rfl))) (fun v2=> ?_)
 refine tp rfl (AD rfl Ea (vl rfl)) (TO.C7 1 rfl rfl (An rfl rfl (vl rfl) (Vo rfl) Fl rfl (by exact Nb rfl) rfl) (TO.nil (Fin.go (Nz 0 2 3 4 5 6 7 16 17 18 rfl (Tr.seq (Tr.Aq (tm rfl (tp rfl (Ae rfl (T6) trivial) (tm rfl ?_)))))))))
 refine tp rfl (FI rfl (vl rfl) (vl rfl) ?hin) ?_;case hin=>unfold LK;omega
 refine tp rfl (Ae rfl (Nd (name:=nm) (a:=5) (b:=2048) (id:=100+(k:Nat)) (to:=901) (key:=1) (P9 K7 (by omega) (by omega)) (Om (by omega)) (by omega)) ⟨ke rfl,ke rfl,ke rfl,ke rfl,ke rfl,trivial⟩) ?_
 refine TO.ex 54 rfl (fun Rm=>TO.fact 54 rfl fun Nl=> ?_)
 refine tp rfl (AG (xs:=[.tmp 54]) (rows:=[_]) rfl rfl underlying30 BR HP rfl (by decide) ⟨⟨(by exact rfl),(Va rfl)⟩,trivial⟩ (by decide)) ?_
 refine tp rfl (AD rfl EC (vl rfl)) (TO.C7 1 rfl rfl (An rfl rfl (vl rfl) (Vo rfl) Li rfl (by exact Nb rfl) rfl) (TO.nil (Fin.go (PB 0 2 3 4 7 16 17 18 rfl (Tr.Aq (tp rfl (AD rfl Gt (vl rfl)) (TO.rd 3 rfl rfl rfl (by decide) (BL rfl OL (vl rfl) rfl) (TO.rd 1 rfl rfl rfl (by decide) (B8 rfl BM A8 (vl rfl) rfl rfl) (tp rfl (AG (xs:=[.tmp 59]) (rows:=[Ah (⟨nm,1,s2.of [3,3,4],14::Jl (s2.Aj.val 3),(s2.Aj.Aj.val 2==2-1),[FH nm 5 2048 (100+(k:Nat)) 901 1 Rm],[1],[2,3],(s2.Aj.Aj.Aj.val 3==3-1)⟩:A5)]) rfl rfl underlying37 A8 z32 rfl (by decide) ⟨⟨(by exact rfl),VL.le (vl rfl) (Pr.le_trans (Ab (qs:=Ah (⟨nm,1,s2.of [3,3,4],14::Jl (s2.Aj.val 3),(s2.Aj.Aj.val 2==2-1),[FH nm 5 2048 (100+(k:Nat)) 901 1 Rm],[1],[2,3],(s2.Aj.Aj.Aj.val 3==3-1)⟩:A5)) ⟨Lr,Lr,Lr,Pr.le_trans (A7 _ _) (Pr.le_of_eq rfl),Lr,Au _ _,Lr,Lr,Lr,trivial⟩) (AZ _))⟩,trivial⟩ (by decide)) ?_)))))))))
 refine TO.Ex 2 rfl rfl (by decide) (DF rfl rfl rfl rfl underlying37 A8 Yb z32 (Kb rfl) (Kf rfl) (B6 (by exact List.Mem.head _) (Ka rfl))) (fun v3=> ?_)
 refine tp rfl (AD rfl Gt (vl rfl)) (TO.C7 3 rfl rfl (An rfl rfl (vl rfl) (Vo rfl) Yd rfl (by exact Nb rfl) rfl) (TO.nil (Fin.block (Fin.go (Tr.drop 1 (i7 0 2 3 4 16 17 18 rfl (Tr.A3 (Ly rfl rfl rfl rfl (by omega) (cm rfl (Ch.nil ?_))))))))))
 refine Fin.HN 2 [As v3 (slice 9 ((es++[(⟨nm,1,s2.of [3,3,4],14::Jl (s2.Aj.val 3),(s2.Aj.Aj.val 2==2-1),[FH nm 5 2048 (100+(k:Nat)) 901 1 Rm],[1],[2,3],(s2.Aj.Aj.Aj.val 3==3-1)⟩:A5)]).map Ah)),is (.slice none 0 0),is (.slice none 0 0)] rfl ⟨Dc (by rw [List.map_append];rfl),Lr,Lr,trivial⟩ ?_
 refine Fin.drop 0 ?_
 exact Fin.D5 (k+1) (es++[(⟨nm,1,s2.of [3,3,4],14::Jl (s2.Aj.val 3),(s2.Aj.Aj.val 2==2-1),[FH nm 5 2048 (100+(k:Nat)) 901 1 Rm],[1],[2,3],(s2.Aj.Aj.Aj.val 3==3-1)⟩:A5)]) (_) v3 (⟨⟨by omega,by rw [List.length_append,hk2];rfl,RQ aP ⟨by rw [hk2];exact K7,rfl,hof,.inr ⟨_,RP hvs,rfl⟩,⟨Rm,Nl,by rw [hk2]⟩,rfl,rfl⟩⟩,by omega⟩) ⟨⟨_,rfl,AK k⟩,ke rfl,ke rfl,ke rfl,ke rfl,ke rfl,ke rfl,trivial⟩ (fun _ _ h=>h)
 refine Tr.skip (Fin.go (Tr.seq (Tr.Aq (tm rfl (tp rfl (Ae rfl (T6) trivial) (tm rfl ?_))))))
 refine tp rfl (FI rfl (vl rfl) (vl rfl) ?hin) ?_;case hin=>unfold LK;omega
 refine tp rfl (Ae rfl (Nd (name:=nm) (a:=5) (b:=2048) (id:=100+(k:Nat)) (to:=901) (key:=1) (P9 K7 (by omega) (by omega)) (Om (by omega)) (by omega)) ⟨ke rfl,ke rfl,ke rfl,ke rfl,ke rfl,trivial⟩) ?_
 refine TO.ex 54 rfl (fun Rm=>TO.fact 54 rfl fun Nl=> ?_)
 refine tp rfl (AG (xs:=[.tmp 54]) (rows:=[_]) rfl rfl underlying30 BR HP rfl (by decide) ⟨⟨(by exact rfl),(Va rfl)⟩,trivial⟩ (by decide)) ?_
 refine tp rfl (AD rfl EC (vl rfl)) (TO.C7 0 rfl rfl (An rfl rfl (vl rfl) (Vo rfl) Li rfl (by exact Nb rfl) rfl) (TO.nil (Fin.go (PB 0 2 3 4 7 16 17 18 rfl (Tr.Aq (tp rfl (AD rfl Gt (vl rfl)) (TO.rd 2 rfl rfl rfl (by decide) (BL rfl OL (vl rfl) rfl) (TO.rd 0 rfl rfl rfl (by decide) (B8 rfl BM A8 (vl rfl) rfl rfl) (tp rfl (AG (xs:=[.tmp 59]) (rows:=[Ah (⟨nm,1,s2.of [3,3,4],Jl (s2.Aj.val 3),(s2.Aj.Aj.val 2==2-1),[FH nm 5 2048 (100+(k:Nat)) 901 1 Rm],[1],[2,3],(s2.Aj.Aj.Aj.val 3==3-1)⟩:A5)]) rfl rfl underlying37 A8 z32 rfl (by decide) ⟨⟨(by exact rfl),VL.le (vl rfl) (Pr.le_trans (Ab (qs:=Ah (⟨nm,1,s2.of [3,3,4],Jl (s2.Aj.val 3),(s2.Aj.Aj.val 2==2-1),[FH nm 5 2048 (100+(k:Nat)) 901 1 Rm],[1],[2,3],(s2.Aj.Aj.Aj.val 3==3-1)⟩:A5)) ⟨Lr,Lr,Lr,Lr,Lr,Au _ _,Lr,Lr,Lr,trivial⟩) (AZ _))⟩,trivial⟩ (by decide)) ?_)))))))))
 refine TO.Ex 1 rfl rfl (by decide) (DF rfl rfl rfl rfl underlying37 A8 Yb z32 (Kb rfl) (Kf rfl) (B6 (by exact List.Mem.head _) (Ka rfl))) (fun v4=> ?_)
 refine tp rfl (AD rfl Gt (vl rfl)) (TO.C7 2 rfl rfl (An rfl rfl (vl rfl) (Vo rfl) Yd rfl (by exact Nb rfl) rfl) (TO.nil (Fin.block (Fin.go (Tr.drop 0 (i7 0 2 3 4 16 17 18 rfl (Tr.A3 (Ly rfl rfl rfl rfl (by omega) (cm rfl (Ch.nil ?_))))))))))
 refine Fin.HN 1 [As v4 (slice 9 ((es++[(⟨nm,1,s2.of [3,3,4],Jl (s2.Aj.val 3),(s2.Aj.Aj.val 2==2-1),[FH nm 5 2048 (100+(k:Nat)) 901 1 Rm],[1],[2,3],(s2.Aj.Aj.Aj.val 3==3-1)⟩:A5)]).map Ah)),is (.slice none 0 0),is (.slice none 0 0)] rfl ⟨Dc (by rw [List.map_append];rfl),Lr,Lr,trivial⟩ ?_
 exact Fin.D5 (k+1) (es++[(⟨nm,1,s2.of [3,3,4],Jl (s2.Aj.val 3),(s2.Aj.Aj.val 2==2-1),[FH nm 5 2048 (100+(k:Nat)) 901 1 Rm],[1],[2,3],(s2.Aj.Aj.Aj.val 3==3-1)⟩:A5)]) (_) v4 (⟨⟨by omega,by rw [List.length_append,hk2];rfl,RQ aP ⟨by rw [hk2];exact K7,rfl,hof,.inl (RP hvs),⟨Rm,Nl,by rw [hk2]⟩,rfl,rfl⟩⟩,by omega⟩) ⟨⟨_,rfl,AK k⟩,ke rfl,ke rfl,ke rfl,ke rfl,ke rfl,ke rfl,trivial⟩ (fun _ _ h=>h)
 have hke:k=(2+s.val 2).toNat:=by have:=FX.Gp h1;rw [NC] at this;omega
 refine Tr.exit (Fin.Ao (Fin.Ao (Fin.BT (Fin.go (Tr.seq (Tr.seq (Tr.HN 1 [slice 9 (es.map Ah),is (.slice none 0 0),is (.slice none 0 0)] rfl ⟨A7 _ _,Lr,Lr,trivial⟩ (Tr.drop 0 (Tr.A3 (cm rfl (co rfl (CW rfl underlying74 (vl rfl)) (cm rfl (Ch.nil (Fin.go ?_))))))))))))))
 refine Tr.block ?_
 refine Tr.re 65 rfl (int_eq (by simp;rfl):Pr.le _ (int (((Et.take (2+s.val 2).toNat).length:Nat):Int))) ?_
 refine Tr.HN 0 [slice 9 (es.map Ah),As (.slice none 0 0) (EF []),is (.slice none 0 0)] rfl ⟨Lr,Dr rfl,Lr,trivial⟩ (Tr.EY 80 2 (Tr.GC [(0,_),(2,_),(3,_),(4,_),(65,_)] ⟨ke rfl,ke rfl,ke rfl,ke rfl,ke rfl,trivial⟩ (fun (i:Nat) (gs:List Jv) (s3:DS) w=>[(66,int ((i:Nat):Int))]) (fun (i:Nat) (gs:List Jv) (s3:DS) w=>Hp M0 w0 S (BJ 80 2 w::AE true b2 41 [slice 9 (es.map Ah),As w (EF gs),is (.slice none 0 0)]::AE true b1 41 (([.slice none 0 0,.slice none 0 0,.slice none 0 0]:List Value).map is)::Cd b s3::Bv M1 w1::rs)) (fun (i:Nat) (gs:List Jv) (s3:DS)=>i≤(2+s.val 2).toNat∧gs.length≤3∧S6 (2+s.val 2).toNat i 0 gs) (fun (i:Nat) (gs:List Jv) (s3:DS)=>(2+s.val 2).toNat-i) (0) ([]) (_) (.slice none 0 0) (⟨by omega,by simp,S6.nil _ _ _⟩) ⟨ke rfl,trivial⟩ (fun _ _ h=>h) ?_))
 rintro i gs s3 w ⟨hi1,hi2,lD⟩
 refine Tr.seq (Tr.A3 (co rfl (ki rfl rfl rfl rfl) (Ch.nil (Fin.go (Tr.seq ?_)))))
 refine Tr.cn rfl ?_ ?_<;>intro h3 q3
 have hin:i<(2+s.val 2).toNat:=by have:=FX.Gp h3;rw [NC] at this;omega
 refine Tr.skip (Fin.go (Tr.seq (Tr.block (Tr.seq (Tr.A3 (cm rfl (cm rfl (Ch.nil (Fin.go (Tr.seq (Tr.A3 (cm rfl (co rfl (CW rfl underlying74 (vl rfl)) ?_)))))))))))))
 refine cm rfl (Ch.nil (Fin.go (Tr.block ?_)))
 refine Tr.re 70 rfl (int_eq (by simp;rfl):Pr.le _ (int (((Et.take (2+s.val 2).toNat).length:Nat):Int))) ?_
 refine Tr.GC [(0,_),(2,_),(3,_),(4,_),(8,_),(65,_),(66,_),(70,_)] ⟨ke rfl,ke rfl,ke rfl,ke rfl,ke rfl,ke rfl,ke rfl,ke rfl,trivial⟩ (fun (j:Nat) (VJ:List Jv) (s4:DS) u=>[(71,int ((j:Nat):Int))]) (fun (j:Nat) (VJ:List Jv) (s4:DS) u=>Hp M0 w0 S (BJ 80 2 u::AE true b2 41 [slice 9 (es.map Ah),As u (EF VJ),is (.slice none 0 0)]::AE true b1 41 (([.slice none 0 0,.slice none 0 0,.slice none 0 0]:List Value).map is)::Cd b s4::Bv M1 w1::rs)) (fun (j:Nat) (VJ:List Jv) (s4:DS)=>j≤(2+s.val 2).toNat∧VJ.length≤3∧S6 (2+s.val 2).toNat i j VJ) (fun (j:Nat) (VJ:List Jv) (s4:DS)=>(2+s.val 2).toNat-j) (0) (gs) (_) w (⟨by omega,hi2,lD⟩) ⟨ke rfl,trivial⟩ (fun _ _ h=>h) ?_
 rintro j VJ s4 u ⟨mg,hj2,l7⟩
 refine Tr.seq (Tr.A3 (co rfl (ki rfl rfl rfl rfl) (Ch.nil (Fin.go (Tr.seq ?_)))))
 refine Tr.cn rfl ?_ ?_<;>intro h4 q4
 have hjn:j<(2+s.val 2).toNat:=by have:=FX.Gp h4;rw [NC] at this;omega
 refine Tr.skip (Fin.go (Tr.seq (Tr.block (Tr.seq (Tr.A3 (cm rfl (cm rfl (Ch.nil (Fin.go (Tr.seq (Tr.Aq (tm rfl (tm rfl ?_)))))))))))))
 refine tp rfl (ki rfl rfl rfl rfl) (tm rfl ?_)
 refine TO.cases 77 rfl (fun h5=> ?_) (fun h5=> ?_)
 have q5:=FX.Gp h5
 refine TO.SG rfl rfl rfl h5 rfl (by decide) (BQ rfl (vl rfl)) (TO.ZR 3 rfl rfl rfl h5 rfl rfl (by decide) (AQ rfl rfl (by decide) rfl (BD (by omega) (by omega)) ⟨ke rfl,ke rfl,trivial⟩) (TO.SG rfl rfl rfl h5 rfl (by decide) (ki rfl rfl rfl rfl) (tp rfl (JQ rfl rfl h5 rfl) (tm rfl ?_))))
 refine TO.cases 82 rfl (fun h6=> ?_) (fun h6=> ?_)
 have q6:=FX.Gp h6
 refine TO.SG rfl rfl rfl h6 rfl (by decide) (AD rfl Kr (vl rfl)) (TO.SG rfl rfl rfl h6 rfl (by decide) (Bc 1 rfl (BL rfl Tc (vl rfl) rfl)) (TO.SG rfl rfl rfl h6 rfl (by decide) (Ew rfl underlying38 (Kb rfl)) (TO.SG rfl rfl rfl h6 rfl (by decide) (ki rfl rfl rfl rfl) (tp rfl (JQ rfl rfl h6 rfl) (TO.nil (Fin.go (Lh 0 2 3 4 8 9 65 66 70 71 87 rfl ?_)))))))
 refine Tr.cn rfl ?_ ?_<;>intro h7 q7
 refine Tr.Aq (tp rfl (AD rfl Kr (vl rfl)) (TO.rd 1 rfl rfl rfl (by decide) (BL rfl Tc (vl rfl) rfl) (tm rfl (tm rfl (tp rfl (Al (rows:=[(0,[_]),(1,[_])]) rfl dN R7 ⟨⟨rfl,(Vo rfl)⟩,⟨⟨rfl,(Vo rfl)⟩,trivial⟩⟩ rfl) (tp rfl (AG (xs:=[.tmp 92]) (rows:=[_]) rfl rfl underlying38 FL Yg rfl (by decide) ⟨⟨(by exact rfl),(Va rfl)⟩,trivial⟩ (by decide)) ?_))))))
 refine TO.Ex 0 rfl rfl (by decide) (DF rfl rfl rfl rfl underlying38 FL dM Yg (Kb rfl) (Kf rfl) (B6 (by exact List.Mem.head _) (Ka rfl))) (fun v5=> ?_)
 refine tp rfl (AD rfl Kr (vl rfl)) (TO.C7 1 rfl rfl (An rfl rfl (vl rfl) (Vo rfl) jI rfl (by exact Nb rfl) rfl) (TO.nil (Fin.block (Fin.go (gH 0 2 3 4 8 65 66 70 71 rfl (Tr.A3 (Ly rfl rfl rfl rfl (by omega) (cm rfl (Ch.nil ?_)))))))))
 refine Fin.HN 1 [slice 9 (es.map Ah),As v5 (EF (VJ++[(⟨((i:Nat):Int),((j:Nat):Int)⟩:Jv)])),is (.slice none 0 0)] rfl ⟨Lr,Dc (by rw [List.map_append];rfl),Lr,trivial⟩ ?_
 exact Fin.D5 (j+1) (VJ++[(⟨((i:Nat):Int),((j:Nat):Int)⟩:Jv)]) (_) v5 (⟨⟨by omega,by simp;omega,l7.snoc ⟨by omega,by omega⟩ ⟨by omega,by omega⟩ (by omega)⟩,by omega⟩) ⟨⟨_,rfl,AK j⟩,ke rfl,ke rfl,ke rfl,ke rfl,ke rfl,ke rfl,ke rfl,ke rfl,trivial⟩ (fun _ _ h=>h)
 refine Tr.skip (Fin.block (Fin.go (Tr.A3 (Ly rfl rfl rfl rfl (by omega) (cm rfl (Ch.nil (Fin.D5 (j+1) (VJ) (_) u (⟨⟨by omega,hj2,l7.step⟩,by omega⟩) ⟨⟨_,rfl,AK j⟩,ke rfl,ke rfl,ke rfl,ke rfl,ke rfl,ke rfl,ke rfl,ke rfl,trivial⟩ (fun _ _ h=>h))))))))
 have q6:=FX.Gp h6
 iterate 4 refine TO.OY rfl rfl rfl (Ce h6) rfl (by decide) ?_
 refine tp rfl (JB rfl rfl h6 rfl) (TO.nil (Fin.go (Lh 0 2 3 4 8 9 65 66 70 71 87 rfl (Tr.cond rfl (fun h=>nomatch h) (fun _=> ?_)))))
 refine Tr.skip (Fin.block (Fin.go (Tr.A3 (Ly rfl rfl rfl rfl (by omega) (cm rfl (Ch.nil (Fin.D5 (j+1) (VJ) (_) u (⟨⟨by omega,hj2,l7.step⟩,by omega⟩) ⟨⟨_,rfl,AK j⟩,ke rfl,ke rfl,ke rfl,ke rfl,ke rfl,ke rfl,ke rfl,ke rfl,trivial⟩ (fun _ _ h=>h))))))))
 have q5:=FX.Gp h5
 refine TO.OY rfl rfl rfl (Ce h5) rfl (by decide) (TO.OY rfl rfl rfl (Ce h5) rfl (by decide) (TO.OY rfl rfl rfl (Ce h5) rfl (by decide) (tp rfl (JB rfl rfl h5 rfl) (tm rfl ?_))))
 iterate 4 refine TO.OY rfl rfl rfl (Ce rfl) rfl (by decide) ?_
 refine tp rfl (JB rfl rfl rfl rfl) (TO.nil (Fin.go (Lh 0 2 3 4 8 9 65 66 70 71 87 rfl (Tr.cond rfl (fun h=>nomatch h) (fun _=> ?_)))))
 refine Tr.skip (Fin.block (Fin.go (Tr.A3 (Ly rfl rfl rfl rfl (by omega) (cm rfl (Ch.nil (Fin.D5 (j+1) (VJ) (_) u (⟨⟨by omega,hj2,l7.step⟩,by omega⟩) ⟨⟨_,rfl,AK j⟩,ke rfl,ke rfl,ke rfl,ke rfl,ke rfl,ke rfl,ke rfl,ke rfl,trivial⟩ (fun _ _ h=>h))))))))
 have hje:j=(2+s.val 2).toNat:=by have:=FX.Gp h4;rw [NC] at this;omega
 refine Tr.exit (Fin.Ao (Fin.Ao (Fin.BT (Fin.block (Fin.go (Tr.A3 (Ly rfl rfl rfl rfl (by omega) (cm rfl (Ch.nil (Fin.D5 (i+1) (VJ) (_) u (⟨⟨by omega,hj2,l7.row⟩,by omega⟩) ⟨⟨_,rfl,AK i⟩,ke rfl,ke rfl,ke rfl,ke rfl,ke rfl,trivial⟩ (fun _ _ h=>h)))))))))))
 have hie:i=(2+s.val 2).toNat:=by have:=FX.Gp h3;rw [NC] at this;omega
 refine Tr.exit (Fin.Ao (Fin.Ao (Fin.BT (Fin.go (Tr.seq (Tr.seq (Tr.A3 (co rfl (AD rfl Kr (vl rfl)) (co rfl (Bc 1 rfl (BL rfl Tc (vl rfl) rfl)) (co rfl (Ew rfl underlying38 (Kb rfl)) (co rfl (ki rfl rfl rfl rfl) (Ch.nil (Fin.go ?_)))))))))))))
 refine Tr.cn rfl ?_ ?_<;>intro h8 q8
 refine Tr.Aq (tp rfl (Al (rows:=[(0,[_]),(1,[_])]) rfl dN R7 ⟨⟨rfl,(Vo rfl)⟩,⟨⟨rfl,(Vo rfl)⟩,trivial⟩⟩ rfl) (tp rfl (AG (xs:=[.tmp 102]) (rows:=[_]) rfl rfl underlying38 FL Yg rfl (by decide) ⟨⟨(by exact rfl),(Va rfl)⟩,trivial⟩ (by decide)) ?_))
 refine tp rfl (AD rfl Kr (vl rfl)) (TO.C7 1 rfl rfl (An rfl rfl (vl rfl) (Vo rfl) jI rfl (by exact Nb rfl) rfl) (TO.nil (Fin.go (Cg 0 2 3 rfl (Tr.seq (Tr.seq ?_))))))
 have lP:=s3.B4 (n:=3) (by omega)
 obtain ⟨S8,hge,fT,fU,fV⟩:∃l:List Jv,l=[⟨0,1⟩]∧(∀k,k<l.length→Bs (2+s.val 2).toNat l k=true)∧1≤l.length∧l.length≤3:=⟨_,rfl,((S6.nil (2+s.val 2).toNat 0 1).snoc ⟨by omega,by omega⟩ ⟨by omega,by omega⟩ (by omega)).at_,by simp,by simp⟩
 refine Tr.HN 1 [slice 9 (es.map Ah),EF S8,is (.slice none 0 0)] rfl ⟨Lr,Pr.le_trans (Au _ _) (Pr.le_of_eq (by rw [hge];rfl)),Lr,trivial⟩ ?_
 refine Tr.drop 0 (Tr.Aq (tm rfl (TO.Er 2 rfl rfl (by decide) (AQ rfl rfl (by decide) rfl (BD (by omega) (by omega)) ⟨ke rfl,ke rfl,trivial⟩) (tm rfl (TO.nil (Fin.go (Tr.block (Tr.HN 0 [slice 9 (es.map Ah),EF S8,As (.slice none 0 0) (GY [])] rfl ⟨Lr,Lr,Dr rfl,trivial⟩ (Tr.EY 107 5 ?_)))))))))
 refine Tr.GC [(0,_),(2,_),(3,_)] ⟨ke rfl,ke rfl,ke rfl,trivial⟩ (fun (q:Int) (its:List Im) (s5:DS) x=>[(10,int q)]) (fun (q:Int) (its:List Im) (s5:DS) x=>Hp M0 w0 S (BJ 107 5 x::AE true b2 41 [slice 9 (es.map Ah),EF S8,As x (GY its)]::AE true b1 41 (([.slice none 0 0,.slice none 0 0,.slice none 0 0]:List Value).map is)::Cd b s5::Bv M1 w1::rs)) (fun (q:Int) (its:List Im) (s5:DS)=>0≤q∧q+its.length≤2∧∀x∈its,S5 x) (fun (q:Int) (its:List Im) (s5:DS)=>q.toNat) (_) ([]) (_) (.slice none 0 0) (⟨by omega,by simp;omega,fun x h=>by simp at h⟩) ⟨ke rfl,trivial⟩ (fun _ _ h=>h) ?_
 rintro q its s5 x ⟨hq1,QS,hqi⟩
 refine Tr.seq (Tr.seq (Tr.A3 (cm rfl (co rfl (ki rfl rfl rfl rfl) (Ch.nil (Fin.go ?_))))))
 refine Tr.cn rfl ?_ ?_<;>intro h9 q9
 have ZD:0<q:=of_decide_eq_true h9
 refine Tr.skip (Fin.go (Tr.seq (Tr.block (Tr.pad (Tr.QY mixed [none,some (0,2,false,0),none,none,none,some (0,4,true,0),some (0,4,true,0),none,some (0,1,true,119),none,some (0,2,true,119)] (by kernel_rfl) (xo rfl (fun _=>AD rfl JT (vl rfl)) (HG 2 rfl rfl (BL rfl V2 (vl rfl) rfl) (xm rfl (xm rfl (xo rfl (fun _=>AG (xs:=[.const (.string ⟨[98,97,99,107,117,112].toArray⟩),.const (.string ⟨[100,101,101,100].toArray⟩)]) (rows:=[[_],[_]]) rfl rfl underlying74 G0 z9 rfl (by decide) ⟨⟨(by exact rfl),(Vo rfl)⟩,⟨⟨(by exact rfl),(Vo rfl)⟩,trivial⟩⟩ (by decide)) ?_))))))))))
 refine Cx.ef 4 rfl rfl (by decide) (AQ rfl rfl (by decide) rfl (Nf (l:=[[98,97,99,107,117,112],[100,101,101,100]]) (by simp) (by simp)) ⟨ke rfl,(Kf rfl),trivial⟩) ?_
 refine Cx.ef 4 rfl rfl (by decide) (AQ rfl rfl (by decide) rfl (UM) ⟨ke rfl,ke rfl,trivial⟩) (xo rfl (fun _=>AG (xs:=[.tmp 117]) (rows:=[_]) rfl rfl underlying39 Dg z107 rfl (by decide) ⟨⟨(by exact rfl),(Va rfl)⟩,trivial⟩ (by decide)) ?_)
 refine Cx.ef 1 rfl rfl (by decide) (DF rfl rfl rfl rfl underlying39 Dg Td z107 (Kb rfl) (Kf rfl) (B6 (by exact List.Mem.head _) (Ka rfl))) ?_
 refine xo rfl (fun _=>AD rfl JT (vl rfl)) (Cx.C7 2 rfl rfl (Dd rfl rfl rfl (vl rfl) rfl Ye (by exact Nb rfl)) ?_)
 refine Cx.nil ⟨rfl,?_⟩
 refine BV.M5 1 2 119 rfl rfl (by decide) rfl (fun v6=> ?_)
 refine BV.done (Ck.cons (Ck.cons (Ck.cons (Ck.cons (Ck.cons (Ck.cons (Ck.map _))))))) (Fin.block (Fin.go (Tr.drop 0 (Fk 0 2 3 10 rfl (Tr.A3 (cm rfl (mX rfl rfl rfl rfl (by omega) (cm rfl (Ch.nil ?_)))))))))
 refine Fin.HN 1 [slice 9 (es.map Ah),EF S8,As v6 (GY (its++[(Ox s5.Aj (FP s5 [Jr,S7]))]))] rfl ⟨Lr,Lr,Dc (by rw [List.map_append];rfl),trivial⟩ ?_
 exact Fin.D5 (q-1) (its++[(Ox s5.Aj (FP s5 [Jr,S7]))]) (_) v6 (⟨⟨by omega,by simp;omega,Rh hqi (UL (UN s5))⟩,by omega⟩) ⟨⟨_,rfl,int_eq (by omega)⟩,ke rfl,ke rfl,ke rfl,trivial⟩ (fun _ _ h=>h)
 have ZD:¬0<q:=of_decide_eq_false h9
 refine Tr.exit (Fin.Ao (Fin.Ao (Fin.BT (Fin.go (Tr.seq (Tr.Aq (TO.rd 1 rfl rfl rfl (by decide) (B8 rfl Bu Bz (vl rfl) rfl rfl) (TO.AY 2 rfl rfl rfl (vl rfl) (Va rfl) rfl Bz rfl rfl (TO.nil (Fin.go (Tr.ret (Fin.Bn 3 _ rfl rfl (Fin.CB [_,_,_] rfl (AW.cell 2 rfl rfl Bu Bz rfl (Lr)) ?_ (fun _ _ _ _=>rfl))))))))))))))
 · exact A9 ⟨es,S8,its⟩ (A2 ⟨by show 2≤es.length;omega,by show es.length≤3;omega,aP,by show ∀k,k<S8.length→Bs es.length S8 k=true;rw [hk2,hke];exact fT,fU,fV,hqi,by show its.length≤2;omega⟩ (Ab ⟨Lr,Lr,A7 _ _,trivial⟩))
 refine Tr.skip (Fin.go (Tr.seq (Tr.seq ?_)))
 have lP:=s3.B4 (n:=3) (by omega)
 obtain ⟨S8,hge,fT,fU,fV⟩:∃l:List Jv,l=gs∧(∀k,k<l.length→Bs (2+s.val 2).toNat l k=true)∧1≤l.length∧l.length≤3:=⟨_,rfl,lD.at_,by have h_:=h8;simp at h_;exact List.length_pos_iff.2 h_,hi2⟩
 refine Tr.HN 1 [slice 9 (es.map Ah),EF S8,is (.slice none 0 0)] rfl ⟨Lr,Pr.le_trans (A7 _ _) (Pr.le_of_eq (by rw [hge])),Lr,trivial⟩ (Tr.drop 0 (Tr.Aq (tm rfl (TO.Er 2 rfl rfl (by decide) (AQ rfl rfl (by decide) rfl (BD (by omega) (by omega)) ⟨ke rfl,ke rfl,trivial⟩) (tm rfl (TO.nil (Fin.go (Fk 0 2 3 10 rfl (Tr.block (Tr.HN 0 [slice 9 (es.map Ah),EF S8,As (.slice none 0 0) (GY [])] rfl ⟨Lr,Lr,Dr rfl,trivial⟩ (Tr.EY 107 5 ?_)))))))))))
 refine Tr.GC [(0,_),(2,_),(3,_)] ⟨ke rfl,ke rfl,ke rfl,trivial⟩ (fun (q:Int) (its:List Im) (s5:DS) x=>[(10,int q)]) (fun (q:Int) (its:List Im) (s5:DS) x=>Hp M0 w0 S (BJ 107 5 x::AE true b2 41 [slice 9 (es.map Ah),EF S8,As x (GY its)]::AE true b1 41 (([.slice none 0 0,.slice none 0 0,.slice none 0 0]:List Value).map is)::Cd b s5::Bv M1 w1::rs)) (fun (q:Int) (its:List Im) (s5:DS)=>0≤q∧q+its.length≤2∧∀x∈its,S5 x) (fun (q:Int) (its:List Im) (s5:DS)=>q.toNat) (_) ([]) (_) (.slice none 0 0) (⟨by omega,by simp;omega,fun x h=>by simp at h⟩) ⟨ke rfl,trivial⟩ (fun _ _ h=>h) ?_
 rintro q its s5 x ⟨hq1,QS,hqi⟩
 refine Tr.seq (Tr.seq (Tr.A3 (cm rfl (co rfl (ki rfl rfl rfl rfl) (Ch.nil (Fin.go ?_))))))
 refine Tr.cn rfl ?_ ?_<;>intro h10 PZ
 have ZD:0<q:=of_decide_eq_true h10
 refine Tr.skip (Fin.go (Tr.seq (Tr.block (Tr.pad (Tr.QY mixed [none,some (0,2,false,0),none,none,none,some (0,4,true,0),some (0,4,true,0),none,some (0,1,true,119),none,some (0,2,true,119)] (by kernel_rfl) (xo rfl (fun _=>AD rfl JT (vl rfl)) (HG 2 rfl rfl (BL rfl V2 (vl rfl) rfl) (xm rfl (xm rfl (xo rfl (fun _=>AG (xs:=[.const (.string ⟨[98,97,99,107,117,112].toArray⟩),.const (.string ⟨[100,101,101,100].toArray⟩)]) (rows:=[[_],[_]]) rfl rfl underlying74 G0 z9 rfl (by decide) ⟨⟨(by exact rfl),(Vo rfl)⟩,⟨⟨(by exact rfl),(Vo rfl)⟩,trivial⟩⟩ (by decide)) ?_))))))))))
 refine Cx.ef 4 rfl rfl (by decide) (AQ rfl rfl (by decide) rfl (Nf (l:=[[98,97,99,107,117,112],[100,101,101,100]]) (by simp) (by simp)) ⟨ke rfl,(Kf rfl),trivial⟩) ?_
 refine Cx.ef 4 rfl rfl (by decide) (AQ rfl rfl (by decide) rfl (UM) ⟨ke rfl,ke rfl,trivial⟩) (xo rfl (fun _=>AG (xs:=[.tmp 117]) (rows:=[_]) rfl rfl underlying39 Dg z107 rfl (by decide) ⟨⟨(by exact rfl),(Va rfl)⟩,trivial⟩ (by decide)) ?_)
 refine Cx.ef 1 rfl rfl (by decide) (DF rfl rfl rfl rfl underlying39 Dg Td z107 (Kb rfl) (Kf rfl) (B6 (by exact List.Mem.head _) (Ka rfl))) ?_
 refine xo rfl (fun _=>AD rfl JT (vl rfl)) (Cx.C7 2 rfl rfl (Dd rfl rfl rfl (vl rfl) rfl Ye (by exact Nb rfl)) ?_)
 refine Cx.nil ⟨rfl,?_⟩
 refine BV.M5 1 2 119 rfl rfl (by decide) rfl (fun v7=> ?_)
 refine BV.done (Ck.cons (Ck.cons (Ck.cons (Ck.cons (Ck.cons (Ck.cons (Ck.map _))))))) (Fin.block (Fin.go (Tr.drop 0 (Fk 0 2 3 10 rfl (Tr.A3 (cm rfl (mX rfl rfl rfl rfl (by omega) (cm rfl (Ch.nil ?_)))))))))
 refine Fin.HN 1 [slice 9 (es.map Ah),EF S8,As v7 (GY (its++[(Ox s5.Aj (FP s5 [Jr,S7]))]))] rfl ⟨Lr,Lr,Dc (by rw [List.map_append];rfl),trivial⟩ ?_
 exact Fin.D5 (q-1) (its++[(Ox s5.Aj (FP s5 [Jr,S7]))]) (_) v7 (⟨⟨by omega,by simp;omega,Rh hqi (UL (UN s5))⟩,by omega⟩) ⟨⟨_,rfl,int_eq (by omega)⟩,ke rfl,ke rfl,ke rfl,trivial⟩ (fun _ _ h=>h)
 have ZD:¬0<q:=of_decide_eq_false h10
 refine Tr.exit (Fin.Ao (Fin.Ao (Fin.BT (Fin.go (Tr.seq (Tr.Aq (TO.rd 1 rfl rfl rfl (by decide) (B8 rfl Bu Bz (vl rfl) rfl rfl) (TO.AY 2 rfl rfl rfl (vl rfl) (Va rfl) rfl Bz rfl rfl (TO.nil (Fin.go (Tr.ret (Fin.Bn 3 _ rfl rfl (Fin.CB [_,_,_] rfl (AW.cell 2 rfl rfl Bu Bz rfl (Lr)) ?_ (fun _ _ _ _=>rfl))))))))))))))
 · exact A9 ⟨es,S8,its⟩ (A2 ⟨by show 2≤es.length;omega,by show es.length≤3;omega,aP,by show ∀k,k<S8.length→Bs es.length S8 k=true;rw [hk2,hke];exact fT,fU,fV,hqi,by show its.length≤2;omega⟩ (Ab ⟨Lr,Lr,A7 _ _,trivial⟩))
theorem Xp {l:List BA} {n:Nat} (hc:∀c∈l,c.Bj.fits∧c.Bj.small):∀(s:List Int) (BC:List A5),(∀x∈BC,x.sz n)→(∀x∈(Io l s BC).1,x.sz (n+s.length))∧(Io l s BC).1.length=BC.length
 |[],BC,h=>⟨h,rfl⟩
 |i::s,BC,h=>by
  rw [Io]
  split
  · exact ⟨fun x hx=>(h x hx).le (by omega),rfl⟩
  next c aj=>
  by_cases ha:(FE BC c).2=0
  ·
   rw [if_pos ha]
   have:=Xp (n:=n+1) hc s (FE BC c).1 (S0 h (hc c (List.mem_of_getElem? aj)))
   rw [QF] at this
   exact ⟨fun x hx=>by rw [List.length_cons,show n+(s.length+1)=n+1+s.length by omega];exact this.1 x hx,this.2⟩
  · rw [if_neg ha];exact ⟨fun x hx=>(h x hx).le (by omega),rfl⟩
theorem l9 {e:DR} {l:List BA} {s:List Int} {n:Nat} (hz:e.sz n) (hc:∀c∈l,c.Bj.fits∧c.Bj.small):(HF e l s).1.sz (n+s.length):=by
 have h0:Bt.sz (n+s.length):=⟨(fun x hx=>by cases hx),(fun x hx=>by cases hx),Nat.zero_le _,Nat.zero_le _,Nat.zero_le _⟩
 obtain ⟨h1,h2⟩:=Xp hc s e.BC hz.BC
 unfold HF
 repeat' split
 · exact h0
 · exact h0
 · exact h0
 · exact ⟨h1,hz.items,by show (Io l s e.BC).1.length≤_;rw [h2];exact hz.le,hz.lg,hz.li⟩
 · exact h0
theorem Nr.sz {e:DR} (h:Nr e):e.sz 5:=by
 have h3:=h.n3;have g3:=h.g3;have i2:=h.i2
 refine ⟨fun x hx=> ?_,fun x hx=>⟨by have:=(h.it x hx).name;unfold maxLen;omega,by have:=(h.it x hx).links;omega⟩,by omega,by omega,by omega⟩
 obtain ⟨i,hi⟩:=List.getElem?_of_mem hx
 exact aF (h.snd i x hi)
theorem VK:Bt.sz 0:=⟨(fun x hx=>by cases hx),(fun x hx=>by cases hx),Nat.zero_le _,Nat.zero_le _,Nat.zero_le _⟩
theorem VM:D9 Bt=true:=by decide
theorem Xq (c:BA) (h:c.AP=0):I_ Bt c=(Bt,40):=by
 unfold I_;rw [if_neg (by rw [VM];decide)];unfold Gk;rw [MT (.inr (by rw [h];exact Int.le_refl _))];rfl
theorem az {e:DR} {c:BA} {n:Nat} {x:DR} {f:Int} (h:I_ e c=(x,f)) (hz:e.sz n) (hn:n≤800000) (hc:c.Bj.fits∧c.Bj.small):A_ Tryz.prog 33 [agg (CG e),agg (Am c)] (Fa [agg (CG x),int f]):=by
 have:=Ow (e:=e) (c:=c) hz hn hc;rw [h] at this;exact this
theorem I7   :A_ prog 28 [] (bool true):=by
 refine fo func28 rfl ⟨rfl,rfl⟩ fun M0 w0=> ?_
 refine a2 ?_
 refine co rfl (Ae rfl (Ot (e:=Bt) (n:=[97,112,112])) ⟨⟨_,rfl,Ab ⟨AB 9,AB 2,AB 5,trivial⟩⟩,ke rfl,trivial⟩) ?_
 refine ac ?_
 refine ao ?_
 refine tp rfl (Ae rfl (az (e:=Bt) (c:=⟨0,1,0,0,Ay⟩) (Xq _ rfl) VK (by omega) ⟨CT,BK⟩) ⟨⟨_,rfl,Ab ⟨AB 9,AB 2,AB 5,trivial⟩⟩,⟨_,rfl,Ab ⟨Lr,Lr,Lr,Lr,Lr,Lr,Lr,AB 15,trivial⟩⟩,trivial⟩) ?_
 refine ao ?_
 refine Tl rfl rfl rfl rfl z41 Ef (fun b1=> ?_)
 refine sf 0 3 ⟨rfl,rfl,rfl⟩ rfl rfl rfl rfl ?_
 refine ao ?_
 · repeat' first|exact bool_eq (by decide)|exact absurd h (by decide)|refine cy h rfl (Ae rfl (KY (a:=Bt) (b:=Bt)) ⟨⟨_,rfl,Ab ⟨AB 9,AB 2,AB 5,trivial⟩⟩,⟨_,rfl,Ab ⟨AB 9,AB 2,AB 5,trivial⟩⟩,trivial⟩) ?_|refine cy h rfl (Al (rows:=[(1,[_])]) rfl Yf Ef ⟨⟨rfl,⟨_,rfl,Pr.le_trans (Au _ _) (AS _)⟩⟩,trivial⟩ rfl) ?_|refine cy h rfl (Ae rfl (KY (a:=Bt) (b:=⟨[],[⟨0,1⟩],[]⟩)) ⟨⟨_,rfl,Ab ⟨AB 9,AB 2,AB 5,trivial⟩⟩,⟨_,rfl,Ab ⟨AB 9,Pr.le_of_eq rfl,AB 5,trivial⟩⟩,trivial⟩) ?_|refine ac ?_|(refine Ch.cg rfl rfl rfl ?_ ?_<;>intro h q)
abbrev l_ (es:List A5) (v:Value):Pr:=Cp.ex fun l:List BA=>fact (fQ es l) (As v (slice 8 (l.map Am)))
theorem MX {es:List A5} {ms:List BA} {v:Value} (h:Gy es ms) (hl:ms.length≤7):Pr.le (As v (slice 8 (ms.map Dn))) (l_ es v):=by
 intro M w u hv
 obtain ⟨l,h1,h2⟩:=fR h hl M w u hv.2
 exact ⟨l,h1,hv.1,h2⟩
theorem Xr {b:Nat} {s:DS} {e:DR} (hs:U7 e.BC) (hl:1≤e.BC.length∧e.BC.length≤3):N2 (α:=Value) prog 29 [ptr b 0,agg (CG e)] [Cd b s] (fun _=>True) (fun v:Value=>l_ e.BC v) (fun v=>[BJ 29 8 v,EZ 101 b]):=by
 refine N2.of func29 rfl rfl (by exact Nb rfl) fun M0 w0 S rs M1 w1=>(Tr.seq (Tr.A3 (co rfl (Bl rfl (Va rfl)) (cm rfl (Ch.nil (Fin.go (Tr.seq (Tr.A3 (cm rfl (Ch.nil (Fin.go (Tr.seq (Tr.Aq ?_)))))))))))))
 refine tm rfl (TO.Er 0 rfl rfl (by decide) (AQ rfl rfl (by decide) rfl (BD (by omega) (by omega)) ⟨ke rfl,ke rfl,trivial⟩) (tp rfl (ki rfl rfl rfl rfl) (tm rfl (TO.Er 0 rfl rfl (by decide) (AQ rfl rfl (by decide) rfl (BD (by omega) (by omega)) ⟨ke rfl,ke rfl,trivial⟩) (tp rfl (ki rfl rfl rfl rfl) (tm rfl (TO.Er 0 rfl rfl (by decide) (AQ rfl rfl (by decide) rfl (BD (by omega) (by omega)) ⟨ke rfl,ke rfl,trivial⟩) (tp rfl (ki rfl rfl rfl rfl) (tm rfl (tm rfl (tm rfl (TO.nil (Fin.go ?_)))))))))))))
 refine HH 0 3 5 6 7 8 rfl (Tr.seq (Tr.seq (Tr.A3 (co rfl (JC rfl Gt rfl rfl) (co rfl (E_ rfl OL rfl) (co rfl (Ew rfl underlying37 (vl rfl)) (cm rfl (Ch.nil (Fin.go (Tr.block (Tr.R9 29 8 (Tr.GC [(0,_),(6,_),(7,_),(8,_),(23,_),(24,_)] ⟨ke rfl,ke rfl,ke rfl,ke rfl,ke rfl,ke rfl,trivial⟩ (fun (k:Nat) (ms:List BA) (s2:DS) v=>[(25,int ((k:Nat):Int)),(5,As v (lens (ms.map Dn).length))]) (fun (k:Nat) (ms:List BA) (s2:DS) v=>Hp M0 w0 S (B0 29 8 (ms.map Dn) v::Cd b s2::Bv M1 w1::rs)) (fun (k:Nat) (ms:List BA) (s2:DS)=>k≤e.BC.length∧ms.length≤6*k∧Gy e.BC ms) (fun (k:Nat) (ms:List BA) (s2:DS)=>e.BC.length-k) (0) ([]) (_) (.slice none 0 0) (⟨Nat.zero_le _,by simp,fun c hc=>by simp at hc⟩) ⟨ke rfl,⟨_,rfl,NG (by rfl)⟩,trivial⟩ (fun _ _ h=>h) ?_))))))))))))
 rintro k ms s2 v ⟨hk1,rq,Oz⟩
 refine Tr.seq (Tr.A3 (co rfl (ki rfl rfl rfl rfl) (Ch.nil (Fin.go (Tr.seq ?_)))))
 refine Tr.cn rfl ?_ ?_<;>intro h1 q1
 have Ac:k<e.BC.length:=by have:=FX.Gp h1;omega
 obtain ⟨x,Aa⟩:=at_ Ac
 have Sh:=hs k x Aa
 have hnm:=List.mem_of_getElem? Sh.name
 refine Tr.skip (Fin.go (Tr.seq (Tr.block (Tr.seq (Tr.Aq (tm rfl (tp rfl (AA rfl underlying37 A8 (vl rfl) (vl rfl) (by omega) (AX Aa)) (tp rfl (AH rfl BM A8 (vl rfl) rfl rfl) ?_))))))))
 refine Tl rfl rfl rfl rfl z32 Df (fun b1=> ?_)
 refine tm rfl (TO.AY 0 rfl rfl rfl (vl rfl) (Va rfl) rfl A8 rfl rfl (TO.freeze 0 10 rfl rfl (TO.nil (Fin.go (Nz 0 5 6 7 8 9 10 23 24 25 rfl (Tr.L3 [(0,_),(6,_),(7,_),(8,_),(9,_),(10,_),(23,_),(24,_),(25,_)] ⟨ke rfl,ke rfl,ke rfl,ke rfl,ke rfl,ke rfl,ke rfl,ke rfl,ke rfl,trivial⟩ (fun (m1:List BA) (s3:DS) v1=>[(5,As v1 (lens (m1.map Dn).length))]) (fun (m1:List BA) (s3:DS) v1=>Hp M0 w0 S (B0 29 8 (m1.map Dn) v1::Cd b s3::Bv M1 w1::rs)) (fun (m1:List BA) (s3:DS)=>m1.length≤6*k+1∧Gy e.BC m1) ?_ ?_))))))
 refine Tr.seq (Tr.A3 (cm rfl (cm rfl ?_)))
 refine Ch.cs 31 rfl ?_ ?_<;>intro h2 q2
 refine cy h2 rfl (JC rfl Ea rfl rfl) (cy h2 rfl (E_ rfl OK rfl) (cy h2 rfl (Ae rfl (UB) ⟨ke rfl,ke rfl,trivial⟩) (cy h2 rfl (IE rfl (vl rfl)) (co rfl (JQ rfl rfl h2 rfl) (Ch.nil (Fin.go (Lh 0 5 6 7 8 9 10 23 24 25 36 rfl ?_)))))))
 refine Tr.cn rfl ?_ ?_<;>intro h3 q3
 have Gz:=s2.B4 (n:=2) (by omega)
 refine Tr.Aq (tm rfl (tm rfl (tm rfl (TO.Er 1 rfl rfl (by decide) (AQ rfl rfl (by decide) rfl (BD (by omega) (by omega)) ⟨ke rfl,ke rfl,trivial⟩) (tp rfl (Al (rows:=[(0,[_]),(1,[_]),(2,[_]),(3,[_])]) rfl PI Fo ⟨⟨rfl,(Vo rfl)⟩,⟨⟨rfl,(Vo rfl)⟩,⟨⟨rfl,(Vo rfl)⟩,⟨⟨rfl,(Vo rfl)⟩,trivial⟩⟩⟩⟩ rfl) (tp rfl (AG (xs:=[.tmp 41]) (rows:=[Dn ⟨((k:Nat):Int),1,12,s2.val 2,⟨0,0,0,[]⟩⟩]) rfl rfl underlying47 BE z29 rfl (by decide) ⟨⟨(by exact rfl),VL.le (vl rfl) (Pr.le_trans (Ab (qs:=Dn _) ⟨Lr,Lr,Lr,Lr,Lr,Lr,Lr,Kc,trivial⟩) (AZ _))⟩,trivial⟩ (by decide)) ?_))))))
 refine TO.Ex 0 rfl rfl (by decide) (EK rfl rfl (by decide) rfl underlying47 BE Qf z29 rfl (by decide) (by decide) (vl rfl) (Kf rfl) (Ak fun _=>rfl) (Nat.zero_lt_succ _) (by simp only [List.length_map,List.length_cons,List.length_nil];unfold maxLen;omega) (by simp only [List.length_map,List.length_cons,List.length_nil];omega)) (fun v1=> ?_)
 refine tm rfl (TO.nil ?_)
 exact Fin.Ds (ms++[⟨((k:Nat):Int),1,12,s2.val 2,⟨0,0,0,[]⟩⟩]) (_) v1 (⟨by simp;omega,Oz.snoc ⟨by show 0≤((k:Nat):Int);omega,by show ((k:Nat):Int)<_;omega,by dsimp only;omega⟩⟩) ⟨⟨_,rfl,DD (by simp)⟩,ke rfl,ke rfl,ke rfl,ke rfl,ke rfl,ke rfl,ke rfl,ke rfl,ke rfl,trivial⟩ (fun _ _ h=>(by rw [List.map_append];exact h))
 refine Tr.skip (Fin.Ds (ms) (_) v (⟨by omega,Oz⟩) ⟨⟨_,rfl,DD (by simp)⟩,ke rfl,ke rfl,ke rfl,ke rfl,ke rfl,ke rfl,ke rfl,ke rfl,ke rfl,trivial⟩ (fun _ _ h=>h))
 iterate 4 refine cnt h2 rfl ?_
 refine co rfl (JB rfl rfl h2 rfl) (Ch.nil (Fin.go (Lh 0 5 6 7 8 9 10 23 24 25 36 rfl (Tr.cond rfl (fun h=>nomatch h) (fun _=> ?_)))))
 refine Tr.skip (Fin.Ds (ms) (_) v (⟨by omega,Oz⟩) ⟨⟨_,rfl,DD (by simp)⟩,ke rfl,ke rfl,ke rfl,ke rfl,ke rfl,ke rfl,ke rfl,ke rfl,ke rfl,trivial⟩ (fun _ _ h=>h))
 rintro m1 s3 v1 ⟨ru,Xs⟩
 refine Tr.L3 [(0,_),(6,_),(7,_),(8,_),(9,_),(10,_),(23,_),(24,_),(25,_)] ⟨ke rfl,ke rfl,ke rfl,ke rfl,ke rfl,ke rfl,ke rfl,ke rfl,ke rfl,trivial⟩ (fun (m2:List BA) (s4:DS) v2=>[(5,As v2 (lens (m2.map Dn).length))]) (fun (m2:List BA) (s4:DS) v2=>Hp M0 w0 S (B0 29 8 (m2.map Dn) v2::Cd b s4::Bv M1 w1::rs)) (fun (m2:List BA) (s4:DS)=>m2.length≤6*k+2∧Gy e.BC m2) ?_ ?_
 refine Tr.seq (Tr.A3 (cm rfl (cm rfl ?_)))
 refine Ch.cs 45 rfl ?_ ?_<;>intro h4 q4
 refine Gr h4 rfl (cy h4 rfl (ki rfl rfl rfl rfl) (co rfl (JQ rfl rfl h4 rfl) (Ch.nil (Fin.go (Lh 0 5 6 7 8 9 10 23 24 25 48 rfl ?_)))))
 refine Tr.cn rfl ?_ ?_<;>intro h5 q5
 refine Tr.Aq (tm rfl (tm rfl (tp rfl (Al (rows:=[(0,[_]),(1,[_]),(2,[_])]) rfl PI Fo ⟨⟨rfl,(Vo rfl)⟩,⟨⟨rfl,(Vo rfl)⟩,⟨⟨rfl,(Vo rfl)⟩,trivial⟩⟩⟩ rfl) (tp rfl (AG (xs:=[.tmp 51]) (rows:=[Dn ⟨((k:Nat):Int),7,2,0,⟨0,0,0,[]⟩⟩]) rfl rfl underlying47 BE z29 rfl (by decide) ⟨⟨(by exact rfl),VL.le (vl rfl) (Pr.le_trans (Ab (qs:=Dn _) ⟨Lr,Lr,Lr,Lr,Lr,Lr,Lr,Kc,trivial⟩) (AZ _))⟩,trivial⟩ (by decide)) ?_))))
 refine TO.Ex 0 rfl rfl (by decide) (EK rfl rfl (by decide) rfl underlying47 BE Qf z29 rfl (by decide) (by decide) (vl rfl) (Kf rfl) (Ak fun _=>rfl) (Nat.zero_lt_succ _) (by simp only [List.length_map,List.length_cons,List.length_nil];unfold maxLen;omega) (by simp only [List.length_map,List.length_cons,List.length_nil];omega)) (fun v2=> ?_)
 refine tm rfl (TO.nil ?_)
 exact Fin.Ds (m1++[⟨((k:Nat):Int),7,2,0,⟨0,0,0,[]⟩⟩]) (_) v2 (⟨by simp;omega,Xs.snoc ⟨by show 0≤((k:Nat):Int);omega,by show ((k:Nat):Int)<_;omega,by dsimp only;omega⟩⟩) ⟨⟨_,rfl,DD (by simp)⟩,ke rfl,ke rfl,ke rfl,ke rfl,ke rfl,ke rfl,ke rfl,ke rfl,ke rfl,trivial⟩ (fun _ _ h=>(by rw [List.map_append];exact h))
 refine Tr.skip (Fin.Ds (m1) (_) v1 (⟨by omega,Xs⟩) ⟨⟨_,rfl,DD (by simp)⟩,ke rfl,ke rfl,ke rfl,ke rfl,ke rfl,ke rfl,ke rfl,ke rfl,ke rfl,trivial⟩ (fun _ _ h=>h))
 refine cnt h4 rfl (cnt h4 rfl (co rfl (JB rfl rfl h4 rfl) (Ch.nil (Fin.go (Lh 0 5 6 7 8 9 10 23 24 25 48 rfl (Tr.cond rfl (fun h=>nomatch h) (fun _=> ?_)))))))
 refine Tr.skip (Fin.Ds (m1) (_) v1 (⟨by omega,Xs⟩) ⟨⟨_,rfl,DD (by simp)⟩,ke rfl,ke rfl,ke rfl,ke rfl,ke rfl,ke rfl,ke rfl,ke rfl,ke rfl,trivial⟩ (fun _ _ h=>h))
 rintro m2 s4 v2 ⟨ry,Xt⟩
 refine Tr.L3 [(0,_),(6,_),(7,_),(8,_),(9,_),(10,_),(23,_),(24,_),(25,_)] ⟨ke rfl,ke rfl,ke rfl,ke rfl,ke rfl,ke rfl,ke rfl,ke rfl,ke rfl,trivial⟩ (fun (m3:List BA) (s5:DS) v3=>[(5,As v3 (lens (m3.map Dn).length))]) (fun (m3:List BA) (s5:DS) v3=>Hp M0 w0 S (B0 29 8 (m3.map Dn) v3::Cd b s5::Bv M1 w1::rs)) (fun (m3:List BA) (s5:DS)=>m3.length≤6*k+3∧Gy e.BC m3) ?_ ?_
 refine Tr.seq (Tr.A3 (cm rfl (cm rfl ?_)))
 refine Ch.cs 55 rfl ?_ ?_<;>intro h6 q6
 refine Gr h6 rfl (cy h6 rfl (ki rfl rfl rfl rfl) (co rfl (JQ rfl rfl h6 rfl) (Ch.nil (Fin.go (Lh 0 5 6 7 8 9 10 23 24 25 58 rfl ?_)))))
 refine Tr.cn rfl ?_ ?_<;>intro h7 q7
 have hof:=s4.HM (l:=[2,1]) (by simp)
 simp at hof
 refine Tr.pad (Tr.QY mixed [none,none,none,none,none,none,none,some (0,2,true,0),none,none,none,none,none,none,some (0,1,true,73),some (73,1,true,5)] (by kernel_rfl) (xm rfl (xm rfl (xo rfl (fun _=>JC rfl R6 rfl rfl) (xo rfl (fun _=>E_ rfl J6 rfl) (xo rfl (fun _=>Ae rfl (lK) trivial) (xm rfl (xo rfl (fun _=>AG (xs:=[.const (.int .i64 (2)),.const (.int .i64 (1))]) (rows:=[[_],[_]]) rfl rfl underlying22 CO z3 rfl (by decide) ⟨⟨(by exact rfl),(Vo rfl)⟩,⟨⟨(by exact rfl),(Vo rfl)⟩,trivial⟩⟩ (by decide)) ?_))))))))
 refine Cx.ef 2 rfl rfl (by decide) (AQ rfl rfl (by decide) rfl (Fw (l:=[2,1]) (by simp) (by simp)) ⟨ke rfl,(Kf rfl),trivial⟩) ?_
 refine xo rfl (fun _=>Ae rfl (Nd (name:=x.name) (a:=7) (b:=256) (id:=201) (to:=901) (key:=s4.of [2,1]) (cB hnm (.inr ⟨rfl,rfl⟩) (by omega) (by omega) (by omega)) (cC (.inr ⟨rfl,rfl⟩) (by omega)) (by omega)) ⟨ke rfl,ke rfl,ke rfl,ke rfl,ke rfl,trivial⟩) ?_
 refine xo rfl (fun _=>JC rfl EC rfl rfl) (xo rfl (fun _=>E_ rfl Ta rfl) (xo rfl (fun _=>Ew rfl underlying30 (vl rfl)) (xo rfl (fun _=>Al (rows:=[(0,[_]),(1,[_]),(4,_),(3,[_])]) rfl PI Fo ⟨⟨rfl,(Vo rfl)⟩,⟨⟨rfl,(Vo rfl)⟩,⟨⟨rfl,⟨_,rfl,Pr.le_trans (Xk) (AZ _)⟩⟩,⟨⟨rfl,(Vo rfl)⟩,trivial⟩⟩⟩⟩ rfl) (xo rfl (fun _=>AG (xs:=[.tmp 71]) (rows:=[Dn ⟨((k:Nat):Int),5,0,((x.ids.length:Nat):Int),⟨7,256,201,[]⟩⟩]) rfl rfl underlying47 BE z29 rfl (by decide) ⟨⟨(by exact rfl),VL.le (vl rfl) (Pr.le_trans (Ab (qs:=Dn _) ⟨Lr,Lr,Lr,Lr,Lr,Lr,Lr,av hnm,trivial⟩) (AZ _))⟩,trivial⟩ (by decide)) ?_))))
 refine Cx.ef 1 rfl rfl (by decide) (EK rfl rfl (by decide) rfl underlying47 BE Qf z29 rfl (by decide) (by decide) (vl rfl) (Kf rfl) (Ak fun _=>rfl) (Nat.zero_lt_succ _) (by simp only [List.length_map,List.length_cons,List.length_nil];unfold maxLen;omega) (by simp only [List.length_map,List.length_cons,List.length_nil];omega)) ?_
 refine Cx.ef 1 rfl rfl (by decide) (Lx rfl rfl (by decide) rfl (vl rfl)) ?_
 refine Cx.nil ⟨rfl,?_⟩
 refine BV.open_ 1 5 rfl rfl (fun v3=> ?_)
 refine BV.done (Ck.cons (Ck.cons (Ck.cons (Ck.cons (Ck.map _))))) (Fin.drop 0 ?_)
 exact Fin.Ds (m2++[⟨((k:Nat):Int),5,0,((x.ids.length:Nat):Int),⟨7,256,201,[]⟩⟩]) (_) v3 (⟨by simp;omega,Xt.snoc ⟨by show 0≤((k:Nat):Int);omega,by show ((k:Nat):Int)<_;omega,by dsimp only;omega⟩⟩) ⟨⟨_,rfl,DD (by simp)⟩,ke rfl,ke rfl,ke rfl,ke rfl,ke rfl,ke rfl,ke rfl,ke rfl,ke rfl,trivial⟩ (fun _ _ h=>(by rw [List.map_append];exact h))
 refine Tr.skip (Fin.Ds (m2) (_) v2 (⟨by omega,Xt⟩) ⟨⟨_,rfl,DD (by simp)⟩,ke rfl,ke rfl,ke rfl,ke rfl,ke rfl,ke rfl,ke rfl,ke rfl,ke rfl,trivial⟩ (fun _ _ h=>h))
 refine cnt h6 rfl (cnt h6 rfl (co rfl (JB rfl rfl h6 rfl) (Ch.nil (Fin.go (Lh 0 5 6 7 8 9 10 23 24 25 58 rfl (Tr.cond rfl (fun h=>nomatch h) (fun _=> ?_)))))))
 refine Tr.skip (Fin.Ds (m2) (_) v2 (⟨by omega,Xt⟩) ⟨⟨_,rfl,DD (by simp)⟩,ke rfl,ke rfl,ke rfl,ke rfl,ke rfl,ke rfl,ke rfl,ke rfl,ke rfl,trivial⟩ (fun _ _ h=>h))
 rintro m3 s5 v3 ⟨rz,UO⟩
 refine Tr.L3 [(0,_),(6,_),(7,_),(8,_),(9,_),(10,_),(23,_),(24,_),(25,_)] ⟨ke rfl,ke rfl,ke rfl,ke rfl,ke rfl,ke rfl,ke rfl,ke rfl,ke rfl,trivial⟩ (fun (m4:List BA) (s6:DS) v4=>[(5,As v4 (lens (m4.map Dn).length))]) (fun (m4:List BA) (s6:DS) v4=>Hp M0 w0 S (B0 29 8 (m4.map Dn) v4::Cd b s6::Bv M1 w1::rs)) (fun (m4:List BA) (s6:DS)=>m4.length≤6*k+4∧Gy e.BC m4) ?_ ?_
 refine Tr.seq (Tr.Aq (tm rfl (tm rfl ?_)))
 refine TO.cases 75 rfl (fun h8=> ?_) (fun h8=> ?_)
 have q8:=FX.Gp h8
 refine TO.SG rfl rfl rfl h8 rfl (by decide) (JC rfl Ea rfl rfl) (TO.SG rfl rfl rfl h8 rfl (by decide) (E_ rfl OK rfl) (TO.SG rfl rfl rfl h8 rfl (by decide) (Ae rfl (UB) ⟨ke rfl,ke rfl,trivial⟩) (tp rfl (JQ rfl rfl h8 rfl) (tm rfl ?_))))
 refine TO.cases 80 rfl (fun h9=> ?_) (fun h9=> ?_)
 have q9:=FX.Gp h9
 refine TO.SG rfl rfl rfl h9 rfl (by decide) (BQ rfl (vl rfl)) (TO.ZR 1 rfl rfl rfl h9 rfl rfl (by decide) (AQ rfl rfl (by decide) rfl (BD (by omega) (by omega)) ⟨ke rfl,ke rfl,trivial⟩) (TO.SG rfl rfl rfl h9 rfl (by decide) (ki rfl rfl rfl rfl) (tp rfl (JQ rfl rfl h9 rfl) (TO.nil (Fin.go (Lh 0 5 6 7 8 9 10 23 24 25 84 rfl ?_))))))
 refine Tr.cn rfl ?_ ?_<;>intro h10 PZ
 refine Tr.Aq (tm rfl (tm rfl (tp rfl (Al (rows:=[(0,[_]),(1,[_]),(2,[_])]) rfl PI Fo ⟨⟨rfl,(Vo rfl)⟩,⟨⟨rfl,(Vo rfl)⟩,⟨⟨rfl,(Vo rfl)⟩,trivial⟩⟩⟩ rfl) (tp rfl (AG (xs:=[.tmp 87]) (rows:=[Dn ⟨((k:Nat):Int),2,2,0,⟨0,0,0,[]⟩⟩]) rfl rfl underlying47 BE z29 rfl (by decide) ⟨⟨(by exact rfl),VL.le (vl rfl) (Pr.le_trans (Ab (qs:=Dn _) ⟨Lr,Lr,Lr,Lr,Lr,Lr,Lr,Kc,trivial⟩) (AZ _))⟩,trivial⟩ (by decide)) ?_))))
 refine TO.Ex 0 rfl rfl (by decide) (EK rfl rfl (by decide) rfl underlying47 BE Qf z29 rfl (by decide) (by decide) (vl rfl) (Kf rfl) (Ak fun _=>rfl) (Nat.zero_lt_succ _) (by simp only [List.length_map,List.length_cons,List.length_nil];unfold maxLen;omega) (by simp only [List.length_map,List.length_cons,List.length_nil];omega)) (fun v4=> ?_)
 refine tm rfl (TO.nil ?_)
 exact Fin.Ds (m3++[⟨((k:Nat):Int),2,2,0,⟨0,0,0,[]⟩⟩]) (_) v4 (⟨by simp;omega,UO.snoc ⟨by show 0≤((k:Nat):Int);omega,by show ((k:Nat):Int)<_;omega,by dsimp only;omega⟩⟩) ⟨⟨_,rfl,DD (by simp)⟩,ke rfl,ke rfl,ke rfl,ke rfl,ke rfl,ke rfl,ke rfl,ke rfl,ke rfl,trivial⟩ (fun _ _ h=>(by rw [List.map_append];exact h))
 refine Tr.skip (Fin.Ds (m3) (_) v3 (⟨by omega,UO⟩) ⟨⟨_,rfl,DD (by simp)⟩,ke rfl,ke rfl,ke rfl,ke rfl,ke rfl,ke rfl,ke rfl,ke rfl,ke rfl,trivial⟩ (fun _ _ h=>h))
 have q9:=FX.Gp h9
 refine TO.OY rfl rfl rfl (Ce h9) rfl (by decide) (TO.OY rfl rfl rfl (Ce h9) rfl (by decide) (TO.OY rfl rfl rfl (Ce h9) rfl (by decide) (tp rfl (JB rfl rfl h9 rfl) (TO.nil (Fin.go (Lh 0 5 6 7 8 9 10 23 24 25 84 rfl (Tr.cond rfl (fun h=>nomatch h) (fun _=> ?_))))))))
 refine Tr.skip (Fin.Ds (m3) (_) v3 (⟨by omega,UO⟩) ⟨⟨_,rfl,DD (by simp)⟩,ke rfl,ke rfl,ke rfl,ke rfl,ke rfl,ke rfl,ke rfl,ke rfl,ke rfl,trivial⟩ (fun _ _ h=>h))
 have q8:=FX.Gp h8
 refine TO.OY rfl rfl rfl (Ce h8) rfl (by decide) (TO.OY rfl rfl rfl (Ce h8) rfl (by decide) (TO.OY rfl rfl rfl (Ce h8) rfl (by decide) (tp rfl (JB rfl rfl h8 rfl) (tm rfl (TO.OY rfl rfl rfl (Ce rfl) rfl (by decide) (TO.OY rfl rfl rfl (Ce rfl) rfl (by decide) (TO.OY rfl rfl rfl (Ce rfl) rfl (by decide) (tp rfl (JB rfl rfl rfl rfl) (TO.nil (Fin.go (Lh 0 5 6 7 8 9 10 23 24 25 84 rfl (Tr.cond rfl (fun h=>nomatch h) (fun _=> ?_)))))))))))))
 refine Tr.skip (Fin.Ds (m3) (_) v3 (⟨by omega,UO⟩) ⟨⟨_,rfl,DD (by simp)⟩,ke rfl,ke rfl,ke rfl,ke rfl,ke rfl,ke rfl,ke rfl,ke rfl,ke rfl,trivial⟩ (fun _ _ h=>h))
 rintro m4 s6 v4 ⟨r5,Xu⟩
 refine Tr.seq (Tr.A3 (cm rfl (cm rfl ?_)))
 refine Ch.cs 91 rfl ?_ ?_<;>intro h11 Qx
 refine cy h11 rfl (JC rfl M6 rfl rfl) (cy h11 rfl (E_ rfl CV rfl) (cy h11 rfl (ki rfl rfl rfl rfl) (co rfl (JQ rfl rfl h11 rfl) (Ch.nil (Fin.go (Nz 0 5 6 7 8 9 23 24 25 95 rfl ?_))))))
 refine Tr.cn rfl ?_ ?_<;>intro h12 Sb
 refine Tr.Aq (tm rfl (tm rfl (tp rfl (Al (rows:=[(0,[_]),(1,[_]),(2,[_])]) rfl PI Fo ⟨⟨rfl,(Vo rfl)⟩,⟨⟨rfl,(Vo rfl)⟩,⟨⟨rfl,(Vo rfl)⟩,trivial⟩⟩⟩ rfl) (tm rfl (tp rfl (Al (rows:=[(0,[_]),(1,[_]),(2,[_])]) rfl PI Fo ⟨⟨rfl,(Vo rfl)⟩,⟨⟨rfl,(Vo rfl)⟩,⟨⟨rfl,(Vo rfl)⟩,trivial⟩⟩⟩ rfl) (tp rfl (AG (xs:=[.tmp 98,.tmp 100]) (rows:=[Dn ⟨((k:Nat):Int),3,4,0,⟨0,0,0,[]⟩⟩,Dn ⟨((k:Nat):Int),1,14,0,⟨0,0,0,[]⟩⟩]) rfl rfl underlying47 BE z29 rfl (by decide) ⟨⟨(by exact rfl),VL.le (vl rfl) (Pr.le_trans (Ab (qs:=Dn _) ⟨Lr,Lr,Lr,Lr,Lr,Lr,Lr,Kc,trivial⟩) (AZ _))⟩,⟨⟨(by exact rfl),VL.le (vl rfl) (Pr.le_trans (Ab (qs:=Dn _) ⟨Lr,Lr,Lr,Lr,Lr,Lr,Lr,Kc,trivial⟩) (AZ _))⟩,trivial⟩⟩ (by decide)) ?_))))))
 refine TO.Ex 0 rfl rfl (by decide) (EK rfl rfl (by decide) rfl underlying47 BE Qf z29 rfl (by decide) (by decide) (vl rfl) (Kf rfl) (Ak fun _=>rfl) (Nat.zero_lt_succ _) (by simp only [List.length_map,List.length_cons,List.length_nil];unfold maxLen;omega) (by simp only [List.length_map,List.length_cons,List.length_nil];omega)) (fun v5=> ?_)
 refine tm rfl (TO.nil (Fin.block (Fin.go (PB 0 5 6 7 8 23 24 25 rfl (Tr.A3 (Ly rfl rfl rfl rfl (by omega) (cm rfl (Ch.nil ?_))))))))
 exact Fin.D5 (k+1) (m4++[⟨((k:Nat):Int),3,4,0,⟨0,0,0,[]⟩⟩,⟨((k:Nat):Int),1,14,0,⟨0,0,0,[]⟩⟩]) (_) v5 (⟨⟨by omega,by simp;omega,Xu.two ⟨by show 0≤((k:Nat):Int);omega,by show ((k:Nat):Int)<_;omega,by dsimp only;omega⟩ ⟨by show 0≤((k:Nat):Int);omega,by show ((k:Nat):Int)<_;omega,by dsimp only;omega⟩⟩,by omega⟩) ⟨⟨_,rfl,AK k⟩,⟨_,rfl,DD (by simp)⟩,ke rfl,ke rfl,ke rfl,ke rfl,ke rfl,ke rfl,trivial⟩ (fun _ _ h=>(by rw [List.map_append];exact h))
 refine Tr.skip (Fin.block (Fin.go (Tr.A3 (Ly rfl rfl rfl rfl (by omega) (cm rfl (Ch.nil (Fin.D5 (k+1) (m4) (_) v4 (⟨⟨by omega,by omega,Xu⟩,by omega⟩) ⟨⟨_,rfl,AK k⟩,⟨_,rfl,DD (by simp)⟩,ke rfl,ke rfl,ke rfl,ke rfl,ke rfl,ke rfl,trivial⟩ (fun _ _ h=>h))))))))
 refine cnt h11 rfl (cnt h11 rfl (cnt h11 rfl (co rfl (JB rfl rfl h11 rfl) (Ch.nil (Fin.go (Nz 0 5 6 7 8 9 23 24 25 95 rfl (Tr.cond rfl (fun h=>nomatch h) (fun _=> ?_))))))))
 refine Tr.skip (Fin.block (Fin.go (Tr.A3 (Ly rfl rfl rfl rfl (by omega) (cm rfl (Ch.nil (Fin.D5 (k+1) (m4) (_) v4 (⟨⟨by omega,by omega,Xu⟩,by omega⟩) ⟨⟨_,rfl,AK k⟩,⟨_,rfl,DD (by simp)⟩,ke rfl,ke rfl,ke rfl,ke rfl,ke rfl,ke rfl,trivial⟩ (fun _ _ h=>h))))))))
 have:=h1
 refine Tr.exit (Fin.Ao (Fin.Ao (Fin.BT (Fin.go (Tr.seq (Tr.block ?_))))))
 rcases Nat.eq_zero_or_pos ms.length with h0|h0
 refine Tr.BF [(0,_)] ⟨ke rfl,trivial⟩ (fun _=>[(5,As v (lens (ms.map Dn).length))]) (fun _=>True) (fun _=>0) () (trivial) ⟨ke rfl,trivial⟩ ?_
 rintro _ _
 refine Tr.seq (Tr.seq (Tr.A3 (cm rfl (co rfl (Qp rfl underlying47 (Kb rfl)) (co rfl (ki rfl rfl rfl rfl) (Ch.nil (Fin.go ?_)))))))
 refine Tr.cn rfl ?_ ?_<;>intro H8 Tp
 exfalso;have h_:=FX.Gp H8;rw [List.length_map] at h_;omega
 have:=H8
 refine Tr.exit (Fin.Ao (Fin.Ao (Fin.BT (Fin.go (Tr.seq (Tr.seq ?_))))))
 have hv4:=s2.B4 (n:=4) (by omega)
 refine Tr.Aq (tm rfl (TO.Er 1 rfl rfl (by decide) (AQ rfl rfl (by decide) rfl (BD (by omega) (by omega)) ⟨ke rfl,ke rfl,trivial⟩) (tm rfl (TO.nil (Fin.go (Tr.block (Tr.IK [(0,_)] ⟨ke rfl,trivial⟩ (fun (q:Int) (s9:DS)=>[(11,int q),(5,As v (lens (ms.map Dn).length))]) (fun (q:Int) (s9:DS)=>Hp M0 w0 S (B0 29 8 (ms.map Dn) v::Cd b s9::Bv M1 w1::rs)) (fun (q:Int) (s9:DS)=>True) (fun (q:Int) (s9:DS)=>q.toNat) (_) (_)  (trivial) ⟨ke rfl,ke rfl,trivial⟩ (fun _ _ h=>h) ?_)))))))
 rintro q s9  _
 refine Tr.seq (Tr.seq (Tr.A3 (cm rfl (co rfl (ki rfl rfl rfl rfl) (cm rfl ?_)))))
 refine Ch.cs 116 rfl ?_ ?_<;>intro Jt W9
 refine Gr Jt rfl (cy Jt rfl (Qp rfl underlying47 (Kb rfl)) (cy Jt rfl (ki rfl rfl rfl rfl) (co rfl (JQ rfl rfl Jt rfl) (Ch.nil (Fin.go ?_)))))
 refine Tr.cn rfl ?_ ?_<;>intro N7 YG
 exfalso;have h_:=FX.Gp N7;rw [List.length_map] at h_;omega
 have:=N7
 refine Tr.exit (Fin.Ao (Fin.Ao (Fin.BT (Fin.go (Tr.seq (Tr.ZJ 0 5 rfl rfl (Ak fun _=>rfl) (Tr.A3 (cm rfl (cm rfl (Ch.nil (Fin.go (Tr.ret (Fin.Bn 1 _ rfl rfl (Fin.Qq (_) rfl (AW.tmp rfl (Lr)) trivial ?_ (List.Perm.refl _)))))))))))))))
 · exact (MX Oz (by omega))
 refine cnt Jt rfl (cnt Jt rfl (cnt Jt rfl (co rfl (JB rfl rfl Jt rfl) (Ch.nil (Fin.go (Tr.cond rfl (fun h=>nomatch h) (fun _=> ?_)))))))
 refine Tr.exit (Fin.Ao (Fin.Ao (Fin.BT (Fin.go (Tr.seq (Tr.ZJ 0 5 rfl rfl (Ak fun _=>rfl) (Tr.A3 (cm rfl (cm rfl (Ch.nil (Fin.go (Tr.ret (Fin.Bn 1 _ rfl rfl (Fin.Qq (_) rfl (AW.tmp rfl (Lr)) trivial ?_ (List.Perm.refl _)))))))))))))))
 · exact (MX Oz (by omega))
 refine Tr.jo (sz:=8) 0 rfl (by intro h_;simp at h_;rw [h_] at h0;simp at h0) fun b9 mA n7 lP hg9 hm9 hs9=> ?_
 subst lP
 rw [List.length_map] at hg9 hs9
 refine Tr.Qc [(0,_)] ⟨ke rfl,trivial⟩ (fun (m:Nat)=>[(5,is (.slice (some ⟨b9,0,none⟩) m mA))]) (fun (m:Nat)=>Hp M0 w0 S (AE true b9 29 ((ms.map Dn).flatten++n7.map is)::Cd b s2::Bv M1 w1::rs)) (fun (m:Nat)=>1≤m∧m≤ms.length) (fun (m:Nat)=>m) (ms.length)  (⟨h0,Nat.le_refl _⟩) ⟨⟨_,rfl,Pr.le_trans (Cy _ _) (Pr.le_of_eq (by rw [List.length_map]))⟩,trivial⟩ (fun _ _ h=>h) ?_
 rintro m  ⟨hm1,hm2⟩
 refine Tr.seq (Tr.seq (Tr.A3 (cm rfl (co rfl (EJ rfl underlying47 (vl rfl)) (co rfl (ki rfl rfl rfl rfl) (Ch.nil (Fin.go ?_)))))))
 refine Tr.cn rfl ?_ ?_<;>intro h16 Z7
 have hm7:7<m:=by have:=FX.Gp h16;omega
 refine Tr.skip (Fin.go (Tr.block (Tr.A3 (cm rfl (cm rfl (co rfl (EJ rfl underlying47 (vl rfl)) (mX rfl rfl rfl rfl (by omega) (co rfl (Fg rfl underlying47 BE (vl rfl) (vl rfl) (by omega) (by omega) (by omega) (by omega)) (cm rfl (Ch.nil (Fin.block ?_)))))))))))
 exact Fin.Lz (m-1)  (⟨⟨by omega,by omega⟩,by omega⟩) ⟨⟨_,rfl,Pr.le_of_eq (by congr 2;omega)⟩,ke rfl,trivial⟩ (fun _ _ h=>h)
 have hm7:m≤7:=by have:=FX.Gp h16;omega
 refine Tr.exit (Fin.Ao (Fin.Ao (Fin.BT (Fin.go (Tr.seq (Tr.seq ?_))))))
 have hv4:=s2.B4 (n:=4) (by omega)
 refine Tr.Aq (tm rfl (TO.Er 1 rfl rfl (by decide) (AQ rfl rfl (by decide) rfl (BD (by omega) (by omega)) ⟨ke rfl,ke rfl,trivial⟩) (tm rfl (TO.nil (Fin.go (Tr.block (Tr.Qe [(0,_)] ⟨ke rfl,trivial⟩ (fun (q:Int) (ns:List BA) (s9:DS)=>[(11,int q),(5,is (.slice (some ⟨b9,0,none⟩) m mA))]) (fun (q:Int) (ns:List BA) (s9:DS)=>Hp M0 w0 S (AE true b9 29 ((ns.map Dn).flatten++n7.map is)::Cd b s9::Bv M1 w1::rs)) (fun (q:Int) (ns:List BA) (s9:DS)=>(ns.length=ms.length∧q≤3)∧Gy e.BC ns) (fun (q:Int) (ns:List BA) (s9:DS)=>q.toNat) (_) (ms) (_)  (⟨⟨rfl,by omega⟩,Oz⟩) ⟨ke rfl,ke rfl,trivial⟩ (fun _ _ h=>h) ?_)))))))
 rintro q ns s9  ⟨⟨hn1,hn3⟩,hn2⟩
 refine Tr.seq (Tr.seq (Tr.A3 (cm rfl (co rfl (ki rfl rfl rfl rfl) (cm rfl ?_)))))
 refine Ch.cs 116 rfl ?_ ?_<;>intro NR YF
 refine Gr NR rfl (cy NR rfl (EJ rfl underlying47 (vl rfl)) (cy NR rfl (ki rfl rfl rfl rfl) (co rfl (JQ rfl rfl NR rfl) (Ch.nil (Fin.go ?_)))))
 refine Tr.cn rfl ?_ ?_<;>intro NS bz
 have hq1:=FX.Gp NS
 refine Tr.skip (Fin.go (Tr.seq (Tr.block (Tr.seq ?_))))
 have hvm:=s9.B4 (n:=((m:Nat):Int)-1) (by omega)
 refine Tr.Aq (tm rfl (tm rfl (tp rfl (EJ rfl underlying47 (vl rfl)) ?_)))
 refine tp rfl (JO rfl (vl rfl) (vl rfl) ?hin) ?_;case hin=>unfold LK;omega
 refine TO.Er 1 rfl rfl (by decide) (AQ rfl rfl (by decide) rfl (BD (by omega) (by omega)) ⟨ke rfl,ke rfl,trivial⟩) (tm rfl (TO.nil (Fin.go (Fk 0 5 11 12 rfl (Tr.QY mixed [none,none,none,none,none,none,none,none,none,some (0,0,false,0),none,none,none,some (0,0,false,0),none,some (0,0,true,0),none,some (0,0,true,0)] (by kernel_rfl) ?_)))))
 iterate 4 refine xm rfl ?_
 refine xo rfl (fun _=>FI rfl (vl rfl) (vl rfl) ?hin) ?_;case hin=>unfold LK;omega
 refine xm rfl (xm rfl ?_)
 refine xo rfl (fun _=>FI rfl (vl rfl) (vl rfl) ?hin) ?_;case hin=>unfold LK;omega
 refine xo rfl (fun _=>Fe rfl underlying47 BE (vl rfl) (vl rfl) (by omega) (by omega)) (HG 0 rfl rfl (B8 rfl Be BE (vl rfl) (OS (f:=Dn) (fun _=>rfl) (by omega)) rfl) (xm rfl (xm rfl (xo rfl (fun _=>Fe rfl underlying47 BE (vl rfl) (vl rfl) (by omega) (by omega)) (HG 0 rfl rfl (B8 rfl Be BE (vl rfl) (OS (f:=Dn) (fun _=>rfl) (by omega)) rfl) (xo rfl (fun _=>Fe rfl underlying47 BE (vl rfl) (vl rfl) (by omega) (by omega)) ?_))))))
 refine Cx.C7 0 rfl rfl (An rfl rfl (vl rfl) (Va rfl) BE rfl (by rw [OQ (sz:=8) (fun _=>rfl)];omega) (ND (f:=Dn) (fun _=>rfl) (by omega))) ?_
 refine xo rfl (fun _=>Fe rfl underlying47 BE (vl rfl) (vl rfl) (by omega) (by omega)) ?_
 refine Cx.C7 0 rfl rfl (An rfl rfl (vl rfl) (Va rfl) BE rfl (by rw [OQ (sz:=8) (fun _=>rfl)];simp only [List.length_set];omega) (ND (f:=Dn) (fun _=>rfl) (by simp only [List.length_set];omega))) ?_
 refine Cx.nil ⟨rfl,?_⟩
 refine BV.done (Ck.cons (Ck.cons (Ck.cons (Ck.map _)))) (Fin.block (Fin.go (Cg 0 5 11 rfl (Tr.A3 (cm rfl (mX rfl rfl rfl rfl (by omega) (cm rfl (Ch.nil (Fin.Gf (q-1) (_) (_)  (⟨⟨⟨(NF (by omega) (by omega)).length_eq.trans hn1,by omega⟩,Gy.perm (NF (by omega) (by omega)) hn2⟩,by omega⟩) ⟨⟨_,rfl,int_eq (by omega)⟩,ke rfl,ke rfl,trivial⟩ (fun _ _ h=>h))))))))))
 have:=NS
 refine Tr.exit (Fin.Ao (Fin.Ao (Fin.BT (Fin.go (Tr.seq (Tr.Ro 0 (((ns.take m).map Dn).flatten++(((ns.drop m).map Dn).flatten++n7.map is)) rfl (by rw [←List.append_assoc,←List.flatten_append,←List.map_append,List.take_append_drop]) ?_))))))
 have hnt:(ns.take m).length=m:=by rw [List.length_take];omega
 refine Tr.PU (sz:=8) ((ns.take m).map Dn) 0 5 rfl rfl (Pr.le_of_eq (by rw [List.length_map,hnt])) (Ak fun _=>rfl) (by rw [List.length_map];omega) hm9 (by rw [List.length_append,CY (sz:=8) (Ak fun _=>rfl),List.length_map,List.length_map,List.length_map,List.length_drop];omega) ?_
 refine Tr.A3 (cm rfl (cm rfl (Ch.nil (Fin.go (Tr.ret (Fin.Bn 1 _ rfl rfl (Fin.Qq (_) rfl (AW.tmp rfl (Lr)) trivial ?_ (List.Perm.refl _))))))))
 · exact (MX hn2.take (by omega))
 refine cnt NR rfl (cnt NR rfl (cnt NR rfl (co rfl (JB rfl rfl NR rfl) (Ch.nil (Fin.go (Tr.cond rfl (fun h=>nomatch h) (fun _=> ?_)))))))
 refine Tr.exit (Fin.Ao (Fin.Ao (Fin.BT (Fin.go (Tr.seq (Tr.Ro 0 (((ns.take m).map Dn).flatten++(((ns.drop m).map Dn).flatten++n7.map is)) rfl (by rw [←List.append_assoc,←List.flatten_append,←List.map_append,List.take_append_drop]) ?_))))))
 have hnt:(ns.take m).length=m:=by rw [List.length_take];omega
 refine Tr.PU (sz:=8) ((ns.take m).map Dn) 0 5 rfl rfl (Pr.le_of_eq (by rw [List.length_map,hnt])) (Ak fun _=>rfl) (by rw [List.length_map];omega) hm9 (by rw [List.length_append,CY (sz:=8) (Ak fun _=>rfl),List.length_map,List.length_map,List.length_map,List.length_drop];omega) ?_
 refine Tr.A3 (cm rfl (cm rfl (Ch.nil (Fin.go (Tr.ret (Fin.Bn 1 _ rfl rfl (Fin.Qq (_) rfl (AW.tmp rfl (Lr)) trivial ?_ (List.Perm.refl _))))))))
 · exact (MX hn2.take (by omega))
theorem S9:Em Tryz.prog 9 (fun s:List UInt8=>s.length≤maxLen) (fun s=>[str s]):=((HK Tryz.underlying9).w).map (fun s=>s.data.toList) (fun s h=>h) (fun _=>rfl)
theorem S_:Em Tryz.prog 131 (fun c:FF=>c.fits∧c.names.length≤8796093022208) CZ:=
 (DP Tryz.underlying131 (by kernel_rfl) (Ax (c := 1) rfl (by kernel_rfl) ((B5 Tryz.underlying3).w) (Ax (c := 1) rfl (by kernel_rfl) ((HK Tryz.underlying9).w) (Ax (c := 1) rfl (by kernel_rfl) ((HK Tryz.underlying9).w) (Ax (c := 2) rfl (by kernel_rfl) (DP Tryz.underlying24 (by kernel_rfl) (Ax (c := 1) rfl (by kernel_rfl) ((B5 Tryz.underlying3).w) (Ax (c := 1) rfl (by kernel_rfl) ((B5 Tryz.underlying3).w) (ED _ _)))) (Ax (c := 1) rfl (by kernel_rfl) ((B5 Tryz.underlying3).w) (Ax (c := 2) rfl (by kernel_rfl) (DP Tryz.underlying24 (by kernel_rfl) (Ax (c := 1) rfl (by kernel_rfl) ((B5 Tryz.underlying3).w) (Ax (c := 1) rfl (by kernel_rfl) ((B5 Tryz.underlying3).w) (ED _ _)))) (Ax (c := 1) rfl (by kernel_rfl) ((B5 Tryz.underlying3).w) (Ax (c := 1) rfl (by kernel_rfl) ((B5 Tryz.underlying3).w) (Ax (c := 1) rfl (by kernel_rfl) ((Rz Tryz.underlying4).w) (Ax (c := 1) rfl (by kernel_rfl) ((B5 Tryz.underlying3).w) (Ax (c := 1) rfl (by kernel_rfl) (KG (b := 16) Tryz.underlying74 (by kernel_rfl) (by kernel_rfl) S9) (Ax (c := 2) rfl (by kernel_rfl) (DP Tryz.underlying129 (by kernel_rfl) (Ax (c := 1) rfl (by kernel_rfl) ((B5 Tryz.underlying3).w) (Ax (c := 1) rfl (by kernel_rfl) ((B5 Tryz.underlying3).w) (ED _ _)))) (ED _ _)))))))))))))).map (fun z => (⟨z.1, z.2.1.data.toList, z.2.2.1.data.toList, z.2.2.2.1.1, z.2.2.2.1.2.1, z.2.2.2.2.1, z.2.2.2.2.2.1.1, z.2.2.2.2.2.1.2.1, z.2.2.2.2.2.2.1, z.2.2.2.2.2.2.2.1, z.2.2.2.2.2.2.2.2.1, z.2.2.2.2.2.2.2.2.2.1, z.2.2.2.2.2.2.2.2.2.2.1, z.2.2.2.2.2.2.2.2.2.2.2.1.1, z.2.2.2.2.2.2.2.2.2.2.2.1.2.1⟩ : FF))
  (fun z h=>⟨⟨h.2.1,h.2.2.1,h.2.2.2.2.2.2.2.2.2.2.1.1⟩,by have h1:=h.2.2.2.2.2.2.2.2.2.2.1.2.2;show z.2.2.2.2.2.2.2.2.2.2.1.length≤_;unfold reachBytes at h1;omega⟩) (fun _=>rfl)
theorem TC:Em Tryz.prog 27 (fun x:Du=>x.fits∧x.small) Az:=
 (DP Tryz.underlying27 (by kernel_rfl) (Ax (c:=2) rfl (by kernel_rfl) (DP Tryz.underlying24 (by kernel_rfl) (Ax (c:=1) rfl (by kernel_rfl) ((B5 Tryz.underlying3).w) (Ax (c:=1) rfl (by kernel_rfl) ((B5 Tryz.underlying3).w) (ED _ _)))) (Ax (c:=1) rfl (by kernel_rfl) ((B5 Tryz.underlying3).w) (Ax (c:=1) rfl (by kernel_rfl) (KG (b:=152) Tryz.underlying25 (by kernel_rfl) (by kernel_rfl) S_) (ED _ _))))).map (fun z=>(⟨z.1.1,z.1.2.1,z.2.1,z.2.2.1⟩:Du)) (fun z h=>⟨fun c hc=>(h.2.2.1.1 c hc).1,⟨by have h1:=h.2.2.1.2.2;show z.2.2.1.length≤_;unfold reachBytes at h1;omega,fun c hc=>(h.2.2.1.1 c hc).2⟩⟩) (fun _=>rfl)
theorem TD:Em Tryz.prog 29 (fun c:BA=>c.Bj.fits∧c.Bj.small) Am:=
 (DP Tryz.underlying29 (by kernel_rfl) (Ax (c:=1) rfl (by kernel_rfl) ((B5 Tryz.underlying3).w) (Ax (c:=1) rfl (by kernel_rfl) ((B5 Tryz.underlying3).w) (Ax (c:=1) rfl (by kernel_rfl) ((B5 Tryz.underlying3).w) (Ax (c:=1) rfl (by kernel_rfl) ((B5 Tryz.underlying3).w) (Ax (c:=4) rfl (by kernel_rfl) (TC) (ED _ _))))))).map (fun z=>(⟨z.1,z.2.1,z.2.2.1,z.2.2.2.1,z.2.2.2.2.1⟩:BA)) (fun z h=>h.2.2.2.2.1) (fun _=>rfl)
end Go.Proofs.YtppeeogffbpcbaaGreat
namespace Go.Proofs.YtppeeogffbpcbaaGreat
open Go Go.RowKit Cp Go.ChangeShapes Go.WideShapes Go.ChangeAt Go.Proofs.Tryz
theorem Xv {b:Nat} {s:DS} {es:List A5}:BG Tryz.prog 17 [ptr b 0,Cp.ex fun c:BA=>fact (XH es c) (agg (Am c))] (Cp.ex fun x:BA=>fact (x.Bj.fits∧x.Bj.small) (agg (Am x))) (Cd b s) (fun _=>EZ 101 b):=
 ⟨(T_ (b:=b) (s:=s) (c:=BB) ⟨CT,BK⟩).1,fun M0 w0 S rs M w vs hb hv=>by
  match vs,hv with
  |[u0,u1],hv=>
   obtain ⟨h0,⟨c,hc,h1⟩,_⟩:=hv
   exact ((T_ (b:=b) (s:=s) (c:=c) ⟨hc.fits,hc.small⟩).2 M0 w0 S rs M w [u0,u1] hb ⟨h0,h1,trivial⟩).mono fun _ _ ⟨v,M',g1,⟨x,hx,g2⟩,g3,g4⟩=>⟨v,M',g1,⟨x,⟨hx.fits,hx.small⟩,g2⟩,g3,g4⟩⟩
def fW (es os:List A5):Prop:=(∀x∈os,x.sz 2000)∧os.length=es.length
abbrev VN (es:List A5):Pr:=Cp.ex fun os:List A5=>fact (fW es os) (slice 9 (os.map Ah))
theorem Xw {x:A5}:Pr.le (Cp.ex fun y:A5=>fact (e9 x y) (agg (Ah y))) (agg (Xa 2000)):=fun M w v ⟨_,h,g⟩=>aV h.sz M w v g
theorem Ri {n:Int} {l:List Int} (h:Eg n l=true):l.length≤n.toNat:=by
 by_cases hn:n<0
 ·
  rcases Nat.eq_zero_or_pos l.length with h0|h0
  · omega
  ·
   have:=Bo.1 h 0 h0
   unfold setAt at this
   obtain ⟨y,hy⟩:=at_ (l:=l) (k:=0) h0
   rw [hy] at this;simp at this;omega
 ·
  have:=QG (s:=l) (n:=n.toNat) (by rw [Int.toNat_of_nonneg (by omega)];exact h)
  omega
theorem VO {v:Value} {α:Type} {φ:α→Prop} {f:α→Pr}:Pr.le (As v (Cp.ex fun x=>fact (φ x) (f x))) (Cp.ex fun x=>fact (φ x) (As v (f x))):=fun _ _ _ ⟨h1,x,h2,h3⟩=>⟨x,h2,h1,h3⟩
def n8 (l m:List BA):Prop:=m.length=l.length+2∧∀c∈m,c.Bj.fits∧c.Bj.small
theorem n8.of {es:List A5} {l:List BA} (h:fQ es l) {c1 c2:BA} (h1:c1.Bj.fits∧c1.Bj.small) (h2:c2.Bj.fits∧c2.Bj.small):n8 l (l++[c1,c2]):=by
 refine ⟨by simp,fun c hc=> ?_⟩
 rcases List.mem_append.1 hc with hc|hc
 · exact ⟨(h.any c hc).fits,(h.any c hc).small⟩
 · simp at hc;rcases hc with rfl|rfl;exact h1;exact h2
def Xx:Option A5→List Pr
 |none=>Xa 2000
 |some x=>Ah x
def isO:Option A5→A5→Prop
 |none,b=>b.sz 2000
 |some x,b=>b=x
theorem VP (a:Option A5) (M:Av) (w:World) (ad:Addr) (n:Nat) (h2:Row M w ad n (Xx a)):∃b:A5,isO a b∧Row M w ad n (Ah b):=by
 match a,h2 with
 |some x,h2=>exact ⟨x,rfl,h2⟩
 |none,h2=>
  obtain ⟨u0,a0,b0,c0,nm,hnm,d0⟩:=h2 0 _ rfl
  obtain ⟨u1,a1,b1,c1,le,d1⟩:=h2 1 _ rfl
  obtain ⟨u2,a2,b2,c2,mo,d2⟩:=h2 2 _ rfl
  obtain ⟨u3,a3,b3,c3,su,cF,d3⟩:=h2 3 _ rfl
  obtain ⟨u4,a4,b4,c4,ow,d4⟩:=h2 4 _ rfl
  obtain ⟨u5,a5,b5,c5,il,EO,d5⟩:=h2 5 _ rfl
  obtain ⟨u6,a6,b6,c6,an_,han,d6⟩:=h2 6 _ rfl
  obtain ⟨u7,a7,b7,c7,ha,hha,d7⟩:=h2 7 _ rfl
  obtain ⟨u8,a8,b8,c8,fa,d8⟩:=h2 8 _ rfl
  refine ⟨⟨nm,le,mo,su,ow,il,an_,ha,fa⟩,⟨hnm,cF,han,hha,EO.1,EO.2⟩,fun j p hp=> ?_⟩
  match j,hp with
  |0,hp=>cases hp;exact ⟨u0,a0,b0,c0,d0⟩
  |1,hp=>cases hp;exact ⟨u1,a1,b1,c1,d1⟩
  |2,hp=>cases hp;exact ⟨u2,a2,b2,c2,d2⟩
  |3,hp=>cases hp;exact ⟨u3,a3,b3,c3,d3⟩
  |4,hp=>cases hp;exact ⟨u4,a4,b4,c4,d4⟩
  |5,hp=>cases hp;exact ⟨u5,a5,b5,c5,d5⟩
  |6,hp=>cases hp;exact ⟨u6,a6,b6,c6,d6⟩
  |7,hp=>cases hp;exact ⟨u7,a7,b7,c7,d7⟩
  |8,hp=>cases hp;exact ⟨u8,a8,b8,c8,d8⟩
  |k+9,hp=>exact absurd hp (by simp)
theorem VQ (a:Option A5):(Xx a).length=9:=by cases a<;>rfl
theorem Xy {es:List A5} (h:∀x∈es,x.sz 2000):Pr.le (slice 9 (es.map Ah)) (VN es):=A9 es (A2 ⟨h,rfl⟩ (Pr.le_refl _))
theorem a_ {es:List A5} (h:∀x∈es,x.sz 2000):Pr.le (slice 9 ((es.map Ah).set 0 (Xa 2000))) (VN es):=by
 have he:(es.map Ah).set 0 (Xa 2000)=((es.map some).set 0 none).map Xx:=by
  rw [List.map_set,List.map_map];rfl
 rw [he]
 intro M w v hv
 obtain ⟨l,⟨h1,h2⟩,h3⟩:=NV (g:=Ah) VP VQ (fun _=>rfl) _ M w v hv
 rw [List.length_set,List.length_map] at h1
 refine ⟨l,⟨fun x hx=> ?_,h1⟩,h3⟩
 obtain ⟨i,hi⟩:=List.getElem?_of_mem hx
 have EO:i<es.length:=by have:=A1 hi;omega
 obtain ⟨y,hy⟩:=at_ EO
 cases i with
 |zero=>exact h2 0 none x (by rw [List.getElem?_set_self (by rw [List.length_map];exact EO)]) hi
 |succ i=>
  have hxy:x=y:=h2 (i+1) (some y) x (by rw [List.getElem?_set_ne (by omega),List.getElem?_map,hy];rfl) hi
  rw [hxy];exact h y (List.mem_of_getElem? hy)
theorem Xz {es:List A5} {g:List Jv} {i:List Im}:Pr.le (ref [VN es,EF g,GY i]) (Cp.ex fun os:List A5=>fact (fW es os) (ref (CG ⟨os,g,i⟩))):=by
 rintro M w v ⟨ad,h1,h2⟩
 obtain ⟨u0,a0,b0,c0,os,hos,d0⟩:=h2 0 _ rfl
 refine ⟨os,hos,ad,h1,fun j p hp=> ?_⟩
 match j,hp with
 |0,hp=>cases hp;exact ⟨u0,a0,b0,c0,d0⟩
 |1,hp=>cases hp;exact h2 1 _ rfl
 |2,hp=>cases hp;exact h2 2 _ rfl
 |k+3,hp=>exact absurd hp (by simp)
theorem fX {e:DR} {os:List A5} {n:Nat} (h:e.sz n) (hn:n≤2000) (ho:fW e.BC os):DR.sz ⟨os,e.BH,e.items⟩ 2000:=
 ⟨ho.1,h.items,by show os.length≤1000000;rw [ho.2];exact h.le,h.lg,h.li⟩
theorem fY {e:DR} {c:BA} {e2:DR} {f:Int} {n:Nat} (h:I_ e c=(e2,f)) (hz:e.sz n) (hn:n≤800000) (hi:c.Bj.fits∧c.Bj.small):A_ Tryz.prog 33 [agg (CG e),agg (Am c)] (Fa [agg (CG e2),int f]):=by
 have:=Ow (e:=e) (c:=c) hz hn hi;rw [h] at this;exact this
theorem X0 {e:DR} {c:BA} {e2:DR} {f:Int} {n:Nat} (h:I_ e c=(e2,f)) (hz:e.sz n) (hn:n≤800000) (hi:c.Bj.fits∧c.Bj.small):A_ Tryz.prog 37 [agg (CG e),agg (Am c)] (Fa [agg (CG e2),int f]):=by
 have:=S2 (e:=e) (c:=c) hz hn hi;rw [h] at this;exact this
theorem X1 {e:DR} {l:List BA} {s:List Int} {e2:DR} {f:Int} {n:Nat} (h:HF e l s=(e2,f)) (hz:e.sz n) (hn:n≤800000) (hc:∀c∈l,c.Bj.fits∧c.Bj.small):A_ Tryz.prog 31 [agg (CG e),slice 8 (l.map Am),ints s] (Fa [agg (CG e2),int f]):=by
 have:=I6 (e:=e) (l:=l) (s:=s) hz hn hc;rw [h] at this;exact this
theorem X2 {e:DR} {l:List BA} {s:List Int} {e2:DR} {f:Int} {n:Nat} (h:HF e l s=(e2,f)) (hz:e.sz n) (hn:n≤800000) (hc:∀c∈l,c.Bj.fits∧c.Bj.small):A_ Tryz.prog 40 [agg (CG e),slice 8 (l.map Am),ints s] (Fa [agg (CG e2),int f]):=by
 have:=S3 (e:=e) (l:=l) (s:=s) hz hn hc;rw [h] at this;exact this
theorem VR {a b:List Int}  :A_ prog 43 [ints a,ints b] (bool (decide (a=b))):=by
 refine fo func43 rfl ⟨rfl,rfl⟩ fun M0 w0=>(Tr.Cr 0 rfl fun Dj=>(Tr.Cr 1 rfl fun Fh=> ?_))
 refine ac ?_
 refine an ?_ ?_<;>intro h1 q1
 have hne:¬a.length=b.length:=by simp_all;omega
 refine a2 ?_
 · refine bool_eq ?_;symm;rw [decide_eq_false_iff_not];rintro rfl;exact hne rfl
 have HB:a.length=b.length:=by simp_all;omega
 refine a2 ?_
 refine Tr.block (Tr.BF [(0,_),(1,_),(12,_)] (Js rfl) (fun k:Nat=>[(13,int ((k:Nat):Int))]) (fun k:Nat=>k≤(a).length∧(a.take k=b.take k)) (fun k:Nat=>(a).length-k) 0 (⟨Nat.zero_le _,rfl⟩) ⟨ke rfl,trivial⟩ ?_)
 rintro k ⟨BN,AL⟩
 refine ac ?_
 refine Tr.seq ?_
 refine Tr.cn rfl ?_ ?_<;>intro h2 q2
 have Ac:k<(a).length:=AU h2
 obtain ⟨x,Aa⟩:=at_ Ac
 obtain ⟨y,hy⟩:=at_ (l:=b) (k:=k) (by omega)
 · repeat' first|(refine bool_eq ?_;symm;rw [decide_eq_false_iff_not];refine HE Aa hy ?_;rintro rfl;simp_all)|exact Fin.AM (k+1) ⟨⟨Ac,E8 Aa hy AL (by simp_all)⟩,by omega⟩ ⟨⟨_,rfl,AK k⟩,ke rfl,ke rfl,ke rfl,trivial⟩|refine co rfl (AA rfl underlying59 CO (vl rfl) (vl rfl) (by omega) (AX Aa)) ?_|refine co rfl (AA rfl underlying59 CO (vl rfl) (vl rfl) (by omega) (AX hy)) ?_|refine ac ?_|(refine Tr.cn rfl ?_ ?_<;>intro h q)
 have A4:k=(a).length:=by have:=AV h2;omega
 subst A4
 refine a3 ?_
 · refine bool_eq ?_;symm;rw [decide_eq_true_eq];exact E9 HB AL
structure DR.rI (e:DR):Prop where
 cN:e.BC.length≤1000000000000
 lp:e.BH.length≤1000000000000
 lq:e.items.length≤1000000000000
 lu:∀x∈e.items,x.links.length≤1000000000000
theorem UP {e:DR} {n:Nat} (h:e.sz n):e.rI:=⟨by have:=h.le;omega,by have:=h.lg;omega,by have:=h.li;omega,fun x hx=>by have:=(h.items x hx).2;omega⟩
theorem X3 {n:Nat}:Bt.sz n:=⟨fun x hx=>by simp [Bt] at hx,fun x hx=>by simp [Bt] at hx,by simp [Bt],by simp [Bt],by simp [Bt]⟩
theorem fZ {e:DR} {c:BA} {n:Nat} (hz:e.sz n) (hi:c.Bj.fits∧c.Bj.small):(I_ e c).1.sz (n+1):=by
 unfold I_
 split
 · exact X3
 ·
  by_cases h:(Gk e c).2=0
  · exact (Jp hz hi h).1
  ·
   unfold Gk at h ⊢
   split at h
   · exact absurd rfl h
   · next h2=>rw [if_neg h2];exact X3
theorem X4 {e:DR} {a b:BA} {n:Nat} {r:Bool} {f:Int} (h:Nq e a b=(r,f)) (hz:e.sz n) (hn:n≤800000) (ha:a.Bj.fits∧a.Bj.small) (hb:b.Bj.fits∧b.Bj.small):A_ Tryz.prog 38 [agg (CG e),agg (Am a),agg (Am b)] (Fa [bool r,int f]):=by
 have:=Re (e:=e) (a:=a) (b:=b) hz hn ha hb;rw [h] at this;exact this
theorem VS {e:DR} {a b:BA} {n:Nat} {r:Bool} {f:Int} (h:Nq e a b=(r,f)) (hz:e.sz n) (hn:n≤800000) (ha:a.Bj.fits∧a.Bj.small) (hb:b.Bj.fits∧b.Bj.small):A_ Tryz.prog 39 [agg (CG e),agg (Am a),agg (Am b)] (Fa [bool r,int f]):=by
 have:=QJ (e:=e) (a:=a) (b:=b) hz hn ha hb;rw [h] at this;exact this
theorem X5 {e:DR} {l:List BA} {i:Int} {n:Nat} {r:List Int} {f:Int} (h:EH e l i=(r,f)) (hz:e.sz n) (hn:n≤800000):A_ Tryz.prog 41 [agg (CG e),slice 8 (l.map Am),int i] (Fa [ints r,int f]):=by
 have:=QI (e:=e) (l:=l) (i:=i) hz hn;rw [h] at this;exact this
theorem bA {e:DR} {l:List BA} {i:Int} {n:Nat} {r:List Int} {f:Int} (h:EH e l i=(r,f)) (hz:e.sz n) (hn:n≤800000):A_ Tryz.prog 42 [agg (CG e),slice 8 (l.map Am),int i] (Fa [ints r,int f]):=by
 have:=N_ (e:=e) (l:=l) (i:=i) hz hn;rw [h] at this;exact this
theorem UQ {p q:List Pr} (h:LS p q):∀m,cw (List.replicate m p) (List.replicate m q)
 |0=>trivial
 |m+1=>⟨h,UQ h m⟩
theorem VT:Pr.le (slice 8 (List.replicate 25 [is (.int .i64 0),is (.int .i64 0),is (.int .i64 0),is (.int .i64 0),is (.int .i64 0),is (.int .i64 0),is (.int .i64 0),is (.slice none 0 0)])) (slice 8 ((List.replicate 25 BB).map Am)):=by
 have h:LS [is (.int .i64 0),is (.int .i64 0),is (.int .i64 0),is (.int .i64 0),is (.int .i64 0),is (.int .i64 0),is (.int .i64 0),is (.slice none 0 0)] (Am BB):=⟨Pr.le_refl _,Pr.le_refl _,Pr.le_refl _,Pr.le_refl _,Pr.le_refl _,Pr.le_refl _,Pr.le_refl _,AB 15,trivial⟩
 exact Pr.le_trans (Cp.Mv (sz:=8) (UQ h 25)) (Pr.le_of_eq (by rw [List.map_replicate]))
theorem bB {e:DR} (h:D9 e=true):HF e (List.replicate 25 BB) []=(Bt,3):=by
 unfold HF;rw [if_neg (by simp [h]),if_pos (by simp)]
theorem X6 {e:DR} (h:D9 e=true):EH e (List.replicate 25 BB) 0=([],3):=by
 unfold EH;rw [if_neg (by simp [h]),if_pos (by simp)]
theorem X7:∀c∈List.replicate 25 BB,c.Bj.fits∧c.Bj.small:=fun c hc=>by
 rw [List.eq_of_mem_replicate hc];exact ⟨CT,BK⟩
theorem Rj {t:List Int} {raw:BA} {sq:List Int} {JL:Int} (rJ:raw.Bj.fits∧raw.Bj.small):A_ prog 6 [ints t,agg (Am raw),ints sq,int JL] (bool true):=by
 refine A_.of func6 rfl rfl (by exact Nb rfl) fun M0 w0=> ?_
 refine Tr.seq (Tr.A3 (co rfl (Bl rfl (Va rfl)) (cm rfl (Ch.nil (Fin.go (Tr.seq (Tr.seq (Tr.A3 (cm rfl (co rfl (Ae rfl (ZV) ⟨ke rfl,trivial⟩) (co rfl (IE rfl (vl rfl)) (cm rfl ?_))))))))))))
 refine Ch.cs 51 rfl ?_ ?_<;>intro h1 q1
 iterate 5 refine cnf h1 rfl ?_
 refine co rfl (JQ rfl rfl h1 rfl) (cm rfl (VW rfl rfl (VW rfl rfl (VW rfl rfl (co rfl (JQ rfl rfl rfl rfl) (Ch.nil (Fin.go (Ej 0 2 3 5 62 rfl (Tr.cond rfl (fun _=> ?_) (fun h=>nomatch h))))))))))
 refine Tr.seq (Tr.A3 (co rfl (Ae rfl (I7) trivial) (cm rfl (Ch.nil (Fin.go (Tr.ret (Fin.AF (Fin.JN rfl (CH.Ep _ _) rfl ?_))))))))
 · exact Lr
 refine cy h1 rfl (JC rfl Kq rfl rfl) (cy h1 rfl (JC rfl R5 rfl rfl) (cy h1 rfl (E_ rfl bL rfl) (cy h1 rfl (Ew rfl underlying25 (vl rfl)) (cy h1 rfl (ki rfl rfl rfl rfl) (co rfl (JB rfl rfl h1 rfl) (cm rfl ?_))))))
 refine Ch.cs 58 rfl ?_ ?_<;>intro h2 q2
 refine cnf h2 rfl (cnf h2 rfl (cnf h2 rfl (co rfl (JQ rfl rfl h2 rfl) (Ch.nil (Fin.go (Ej 0 2 3 5 62 rfl (Tr.cond rfl (fun _=> ?_) (fun h=>nomatch h))))))))
 refine Tr.seq (Tr.A3 (co rfl (Ae rfl (I7) trivial) (cm rfl (Ch.nil (Fin.go (Tr.ret (Fin.AF (Fin.JN rfl (CH.Ep _ _) rfl ?_))))))))
 · exact Lr
 refine Gr h2 rfl (cy h2 rfl (Ew rfl underlying22 (vl rfl)) (cy h2 rfl (ki rfl rfl rfl rfl) (co rfl (JB rfl rfl h2 rfl) (Ch.nil (Fin.go (Ej 0 2 3 5 62 rfl ?_))))))
 refine Tr.cn rfl ?_ ?_<;>intro h3 q3
 refine Tr.seq (Tr.A3 (co rfl (Ae rfl (I7) trivial) (cm rfl (Ch.nil (Fin.go (Tr.ret (Fin.AF (Fin.JN rfl (CH.Ep _ _) rfl ?_))))))))
 · exact Lr
 have hq_:=q3
 have ht4:t.length≤400:=by simp_all
 have ht9:t.length≤1000000000:=by omega
 have sZ:sq.length≤60:=by omega
 refine Tr.skip (Fin.go (Tr.seq (Tr.Aq (tm rfl (TO.pad ?_)))))
 refine TO.Ex 0 rfl rfl (by decide) (Ez rfl rfl (by decide) rfl (dy (l:=t) ht9) ⟨ke rfl,trivial⟩) (fun v1=> ?_)
 refine TO.R3 65 0 _ rfl rfl (fun _=>rfl) (fun b1=> ?_)
 refine tm rfl (TO.nil (Fin.go (Tr.seq (Tr.Aq (tm rfl (TO.Er 0 rfl rfl (by decide) (AQ rfl rfl (by decide) rfl (Xo) ⟨ke rfl,trivial⟩) ?_))))))
 refine TO.ex 67 rfl (fun z1=>TO.fact 67 rfl fun Hx=> ?_)
 have fc:=Hx.sz
 have hok:=Hx.ok
 have hn2:=Hx.n2
 have hn3:=Hx.n3
 have mB:=(fc.cN (m:=2000) (by omega)).BC
 obtain ⟨e0,bC⟩:=at_ (l:=z1.BC) (k:=0) (by omega)
 have Sh:=fc.BC _ (List.mem_of_getElem? bC)
 have hmo:0≤e0.most∧e0.most≤1000:=by have:=(Hx.snd 0 e0 bC).most;omega
 refine Tl rfl rfl rfl rfl z41 Ef (fun b2=> ?_)
 refine TO.AY 0 rfl rfl rfl (vl rfl) (Va rfl) rfl Bz rfl rfl (TO.freeze 0 10 rfl rfl (TO.nil (Fin.JE 0 rfl (fun s1=> ?_))))
 refine Fin.go (Tr.seq (Tr.Aq (tm rfl (tp rfl (AH rfl Bu Bz (vl rfl) rfl rfl) ?_))))
 refine TO.NH _ rfl rfl (by decide) rfl (Xr Hx.snd ⟨by omega,by omega⟩) ⟨ke rfl,ke rfl,trivial⟩ ((AO (j:=0) rfl).trans (List.Perm.cons _ (List.Perm.refl _))) (fun x2 _=> ?_)
 refine TO.ex 70 rfl fun m0=>(TO.fact 70 rfl fun hm0=> ?_)
 have hm7:=hm0.len
 refine tm rfl (TO.nil (Fin.JE 1 rfl (fun s2=> ?_)))
 refine Fin.go (HH 2 3 5 9 10 11 rfl (Tr.seq (Tr.pad (Tr.QY mixed [none,none,none,some (0,2,true,0),none,none,none,some (0,2,true,0),some (0,2,true,0),none,some (0,1,true,81),some (81,1,true,11)] (by kernel_rfl) (xm rfl (xm rfl (xo rfl (fun _=>AH rfl Bu Bz (vl rfl) rfl rfl) ?_)))))))
 refine Cx.ef 2 rfl rfl (by decide) (AQ rfl rfl (by decide) rfl (cE (es:=z1.BC) Hx.snd ⟨by omega,by omega⟩) ⟨ke rfl,ke rfl,trivial⟩) ?_
 refine xm rfl (xm rfl (xo rfl (fun _=>AH rfl Bu Bz (vl rfl) rfl rfl) ?_))
 refine Cx.ef 2 rfl rfl (by decide) (AQ rfl rfl (by decide) rfl (BG.exd fun s_=>cE (es:=z1.BC) Hx.snd ⟨by omega,by omega⟩) ⟨ke rfl,ke rfl,trivial⟩) ?_
 refine Cx.ef 2 rfl rfl (by decide) (AQ rfl rfl (by decide) rfl (BG.exd fun s_=>Xv (es:=z1.BC)) ⟨ke rfl,ke rfl,trivial⟩) ?_
 refine xo rfl (fun _=>Ad.R3 74 rfl (by decide) fun c1=>Ad.iF 74 rfl (by decide) fun h1=>Ad.R3 79 rfl (by decide) fun c2=>Ad.iF 79 rfl (by decide) fun h2=>Ad.le (AG (xs:=[.tmp 74,.tmp 79]) (rows:=[Am c1,Am c2]) rfl rfl underlying47 BE z29 rfl (by decide) ⟨⟨(by exact rfl),VL.le (vl rfl) (AZ _)⟩,⟨⟨(by exact rfl),VL.le (vl rfl) (AZ _)⟩,trivial⟩⟩ (by decide)) ((A9 c1 (A9 c2 (A2 ⟨⟨h1.fits,h1.small⟩,h2⟩ (Au _ _))):Pr.le _ (Cp.ex fun c1:BA=>Cp.ex fun c2:BA=>fact ((c1.Bj.fits∧c1.Bj.small)∧(c2.Bj.fits∧c2.Bj.small)) (slice 8 [Am c1,Am c2]))))) ?_
 refine Cx.ef 1 rfl rfl (by decide) (DU.R3 80 rfl rfl (by decide) fun c1=>DU.R3 80 rfl rfl (by decide) fun c2=>DU.iF 80 rfl rfl (by decide) fun h12=>DU.le (DF rfl rfl rfl rfl underlying47 BE Qf z29 (Kb rfl) (ke rfl) (B6 (by exact List.Mem.head _) (Ka rfl))) (A9 (m0++[c1,c2]) (A2 (n8.of hm0 h12.1 h12.2) (Pr.le_of_eq (by rw [List.map_append];rfl))):Pr.le _ (Cp.ex fun m:List BA=>fact (n8 m0 m) (slice 8 (m.map Am))))) ?_
 refine Cx.ef 1 rfl rfl (by decide) (Lx rfl rfl (by decide) rfl (vl rfl)) ?_
 refine Cx.nil ⟨rfl,?_⟩
 refine BV.open_ 1 11 rfl rfl (fun v3=> ?_)
 refine BV.done (Ck.cons (Ck.cons (Ck.cons (Ck.map _)))) (Fin.JE 2 rfl (fun s3=> ?_))
 refine Fin.go (Tr.drop 0 (HH 2 3 5 9 10 11 rfl (Tr.seq (Tr.re 11 rfl VO (Tr.ex 11 rfl fun l3=>(Tr.fact 11 rfl fun fH=> ?_))))))
 have X8:=fH.2
 have sj:=fH.1
 obtain ⟨c0,hc0⟩:=at_ (l:=l3) (k:=0) (by omega)
 have mC:=X8 c0 (List.mem_of_getElem? hc0)
 refine Tr.Aq (tp rfl (AH rfl Bu Bz (vl rfl) rfl rfl) ?_)
 refine TO.LY rfl rfl (by decide) rfl (Jo fc (by omega)) ⟨ke rfl,trivial⟩ (fun v4=> ?_)
 refine Tl rfl rfl rfl rfl z41 Ef (fun b3=> ?_)
 refine TO.AY 0 rfl rfl rfl (vl rfl) (Va rfl) rfl Bz rfl rfl (TO.nil (Fin.go (Tr.ZI [(2,_),(3,_),(5,_),(9,_),(10,_),(11,_),(12,_)] ⟨ke rfl,ke rfl,ke rfl,ke rfl,ke rfl,ke rfl,ke rfl,trivial⟩ (fun (s9:DS)=>[]) (fun (s9:DS)=>Hp M0 w0 Mg ([AE true b3 41 [VN z1.BC,EF z1.BH,GY z1.items],Bm,BJ 29 8 v3,Cd b1 s9])) (fun (s9:DS)=>True) ?_ ?_)))
 refine Tr.seq (Tr.Aq (tm rfl (TO.Er 3 rfl rfl (by decide) (AQ rfl rfl (by decide) rfl (Ji (by omega) (by omega)) ⟨ke rfl,ke rfl,trivial⟩) (TO.nil (Fin.go ?_)))))
 refine Tr.cn rfl ?_ ?_<;>intro h4 q4
 refine Tr.QY mixed [none,some (0,0,false,0),none,none,some (0,0,false,0),some (0,1,false,0),some (0,1,false,0),some (0,3,true,0),some (0,1,false,0),some (0,1,true,0)] (by kernel_rfl) (xo rfl (fun _=>AD rfl Gt (vl rfl)) (HG 0 rfl rfl (BL rfl OL (vl rfl) rfl) (xm rfl (xo rfl (fun _=>AD rfl Gt (vl rfl)) (HG 0 rfl rfl (BL rfl OL (vl rfl) rfl) ?_)))))
 refine HG 1 rfl rfl (D1 rfl underlying37 A8 (vl rfl) (vl rfl) (by omega) (by rw [List.length_map];omega)) ?_
 refine HG 1 rfl rfl (EL rfl BM A8 (vl rfl) (Ak fun _=>rfl) (by rw [show (Int.toNat 0)=0 from rfl,List.getElem?_map,bC];rfl)) ?_
 refine Cx.ef 3 rfl rfl (by decide) (AQ rfl rfl (by decide) rfl (aQ (Sh.le (by omega)) hmo) ⟨ke rfl,ke rfl,trivial⟩) ?_
 refine HG 1 rfl rfl (D1 rfl underlying37 A8 (vl rfl) (vl rfl) (by omega) (by rw [List.length_map];omega)) ?_
 refine Cx.C7 1 rfl rfl (Dt rfl rfl (vl rfl) ⟨_,rfl,Pr.le_trans (Xw) (AZ _)⟩ A8 rfl (Ak fun _=>rfl) (by rw [show (Int.toNat 0)=0 from rfl,List.getElem?_map,bC];rfl) (by decide) rfl) ?_
 refine Cx.nil ⟨rfl,?_⟩
 refine BV.done (Ck.cons (Ck.cons (Ck.cons (Ck.cons (Ck.map _))))) (Fin.JE 3 rfl (fun s4=> ?_))
 refine Fin.Fv 0 1 0 rfl rfl (by decide) rfl (Lr) (by intro r hr;rcases List.mem_or_eq_of_mem_set hr with hr|rfl;exact Ak (f:=Ah) (fun _=>rfl) r hr;rfl) ?_
 refine Fin.HN 0 [VN z1.BC,EF z1.BH,GY z1.items] rfl ⟨a_ mB,Lr,Lr,trivial⟩ (Fin.Lz (_)  (trivial) ⟨ke rfl,ke rfl,ke rfl,ke rfl,ke rfl,ke rfl,ke rfl,trivial⟩ (fun _ _ h=>h))
 refine Tr.skip (Fin.Fv 0 1 0 rfl rfl (by decide) rfl (Lr) (Ak fun _=>rfl) (Fin.HN 0 [VN z1.BC,EF z1.BH,GY z1.items] rfl ⟨Xy mB,Lr,Lr,trivial⟩ (Fin.Lz (_)  (trivial) ⟨ke rfl,ke rfl,ke rfl,ke rfl,ke rfl,ke rfl,ke rfl,trivial⟩ (fun _ _ h=>h))))
 rintro s9  _
 refine Tr.seq (Tr.seq (Tr.freeze 0 12 rfl rfl (Tr.re 12 rfl Xz (Tr.ex 12 rfl fun os=>(Tr.fact 12 rfl fun hos=> ?_)))))
 have hoz:=fX fc (by omega) hos
 refine Tr.A3 (co rfl (AH rfl Bu Bz (vl rfl) rfl rfl) (co rfl (AH rfl Bu Bz (vl rfl) rfl rfl) (co rfl (AG (xs:=[.tmp 95,.tmp 96]) (rows:=[_,_]) rfl rfl underlying67 Bz z41 rfl (by decide) ⟨⟨(by exact rfl),(Va rfl)⟩,⟨⟨(by exact rfl),(Va rfl)⟩,trivial⟩⟩ (by decide)) ?_)))
 refine co rfl (CW rfl underlying67 (Kf rfl)) (cm rfl (Ch.nil (Fin.go (Tr.drop 0 (Tr.block ?_)))))
 obtain ⟨iK,ff,mD⟩:∃l:List DR,l=[z1,⟨os,z1.BH,z1.items⟩]∧∀x∈l,x.sz 2000:=⟨_,rfl,by intro x hx;simp at hx;rcases hx with rfl|rfl;exact fc.cN (by omega);exact hoz⟩
 refine Tr.re 97 rfl (Pr.le_trans (Au _ _) (Pr.le_of_eq (by rw [ff];rfl)):Pr.le _ (slice 3 (iK.map CG))) ?_
 have r6:iK.length=2:=(by rw [ff];rfl)
 refine Tr.re 98 rfl (int_eq (by rw [ff];rfl):Pr.le _ (int ((iK.length:Nat):Int))) ?_
 refine Tr.IK [(2,_),(3,_),(5,_),(9,_),(10,_),(11,_),(97,_),(98,_)] ⟨ke rfl,ke rfl,ke rfl,ke rfl,ke rfl,ke rfl,ke rfl,ke rfl,trivial⟩ (fun (k:Nat) (t2:DS)=>[(99,int ((k:Nat):Int))]) (fun (k:Nat) (t2:DS)=>Hp M0 w0 Mg ([BJ 29 8 v3,Cd b1 t2])) (fun (k:Nat) (t2:DS)=>k≤iK.length) (fun (k:Nat) (t2:DS)=>iK.length-k) (0) (_)  (Nat.zero_le _) ⟨ke rfl,trivial⟩ (fun _ _ h=>h) ?_
 rintro k t2  hk1
 refine Tr.seq (Tr.A3 (co rfl (ki rfl rfl rfl rfl) (Ch.nil (Fin.go (Tr.seq ?_)))))
 refine Tr.cn rfl ?_ ?_<;>intro h5 q5
 have Ac:k<iK.length:=by have:=FX.Gp h5;omega
 obtain ⟨x,Aa⟩:=at_ Ac
 have hxz:=mD x (List.mem_of_getElem? Aa)
 refine Tr.skip (Fin.go (Tr.seq (Tr.block (Tr.seq (Tr.Aq (tp rfl (AA rfl underlying67 Bz (vl rfl) (vl rfl) (by omega) (DC (f:=CG) Aa)) (tp rfl (AH rfl Bu Bz (vl rfl) rfl rfl) ?_)))))))
 refine Tl rfl rfl rfl rfl z41 Ef (fun b4=> ?_)
 refine TO.AY 0 rfl rfl rfl (vl rfl) (Va rfl) rfl Bz rfl rfl (TO.freeze 0 14 rfl rfl (TO.nil (Fin.go (Nz 2 3 5 9 10 11 14 97 98 99 rfl (Tr.seq (Tr.seq (Tr.Aq (tm rfl (tp rfl (AH rfl Be BE (vl rfl) rfl rfl) (tp rfl (AG (xs:=[.tmp 104]) (rows:=[_]) rfl rfl underlying47 BE z29 rfl (by decide) ⟨⟨(by exact rfl),(Va rfl)⟩,trivial⟩ (by decide)) ?_))))))))))
 refine TO.Ex 0 rfl rfl (by decide) (Zc rfl rfl (by decide) rfl underlying47 BE Qf z29 rfl (by decide) (vl rfl) (Kf rfl) (by rw [List.length_map];omega) (Nat.zero_lt_succ _) (by simp only [List.length_map,List.length_cons,List.length_nil];unfold maxLen;omega) (by simp only [List.length_map,List.length_cons,List.length_nil];omega)) (fun v5=> ?_)
 refine tp rfl (Bc 0 rfl (Zd rfl underlying47 (Ka rfl))) (tm rfl (TO.nil (Fin.go (PC 2 3 5 9 10 11 14 97 98 99 106 107 108 rfl (Tr.block (Tr.re 107 rfl (int_eq (by simp):Pr.le _ (int ((l3.length+1:Nat):Int))) (Tr.Qc [(2,_),(3,_),(5,_),(9,_),(10,_),(11,_),(14,_),(97,_),(98,_),(99,_),(106,_),(107,_)] ⟨ke rfl,ke rfl,ke rfl,ke rfl,ke rfl,ke rfl,ke rfl,ke rfl,ke rfl,ke rfl,ke rfl,ke rfl,trivial⟩ (fun (m:Nat)=>[(108,int ((m:Nat):Int))]) (fun (m:Nat)=>Hp M0 w0 Mg ([E5 29 8 (l3.map Am++[Am raw]) v3 v5,Cd b1 t2])) (fun (m:Nat)=>m≤l3.length+1) (fun (m:Nat)=>l3.length+1-m) (0)  (Nat.zero_le _) ⟨ke rfl,trivial⟩ (fun _ _ h=>h) ?_)))))))
 rintro m  hm1
 refine Tr.seq (Tr.A3 (co rfl (ki rfl rfl rfl rfl) (Ch.nil (Fin.go (Mx 2 3 5 9 10 11 14 97 98 99 106 107 108 109 rfl (Tr.seq ?_))))))
 refine Tr.cn rfl ?_ ?_<;>intro h6 q6
 have fm:m<(l3++[raw]).length:=by have:=FX.Gp h6;rw [List.length_append];simp;omega
 obtain ⟨c,FB⟩:=at_ fm
 have QH:c.Bj.fits∧c.Bj.small:=by
  rcases List.mem_append.1 (List.mem_of_getElem? FB) with h|h
  · exact X8 c h
  · simp at h;subst h;exact rJ
 obtain ⟨a2,f2,hr⟩:∃a f,I_ x c=(a,f):=⟨_,_,rfl⟩
 obtain ⟨u2,g2,hcm⟩:∃a f,Nq x c c0=(a,f):=⟨_,_,rfl⟩
 have n9:=UP (by have:=fZ hxz QH;rw [hr] at this;exact this)
 rw [List.length_append] at fm
 simp only [List.length_cons,List.length_nil] at fm
 refine Tr.skip (Fin.go (PC 2 3 5 9 10 11 14 97 98 99 106 107 108 rfl (Tr.seq (Tr.block (Tr.seq (Tr.Aq ?_))))))
 refine tp rfl (Bc 0 rfl (Ze rfl underlying47 BE (Ka rfl) (vl rfl) (by omega) (by simp only [List.length_append,List.length_map,List.length_cons,List.length_nil];omega))) ?_
 refine tp rfl (Bc 0 rfl (SL rfl Be BE (vl rfl) (by rw [show l3.map Am++[Am raw]=(l3++[raw]).map Am by rw [List.map_append];rfl];exact AX FB))) ?_
 refine Tl rfl rfl rfl rfl z29 Fo (fun b5=> ?_)
 refine TO.AY 0 rfl rfl rfl (vl rfl) (Va rfl) rfl BE rfl rfl (TO.freeze 0 16 rfl rfl (TO.nil (Fin.go (Mx 2 3 5 9 10 11 14 16 97 98 99 106 107 108 rfl (Tr.seq (Tr.Aq (tp rfl (AH rfl Bu Bz (vl rfl) rfl rfl) (tp rfl (AH rfl Be BE (vl rfl) rfl rfl) (tp rfl (Ae rfl (fY hr hxz (by omega) QH) ⟨ke rfl,ke rfl,trivial⟩) (tm rfl (tp rfl (BI rfl (vl rfl) rfl) (tp rfl (BI rfl (vl rfl) rfl) ?_))))))))))))
 refine Tl rfl rfl rfl rfl z41 Ef (fun b6=> ?_)
 refine TO.AY 0 rfl rfl rfl (vl rfl) (Va rfl) rfl Bz rfl rfl (TO.freeze 0 17 rfl rfl (tm rfl (TO.nil (Fin.go (c_ 2 3 5 9 10 11 14 16 17 18 97 98 99 106 107 108 rfl (Tr.seq (Tr.Aq (tp rfl (AH rfl Bu Bz (vl rfl) rfl rfl) (tp rfl (AH rfl Be BE (vl rfl) rfl rfl) (tp rfl (Ae rfl (X0 hr hxz (by omega) QH) ⟨ke rfl,ke rfl,trivial⟩) (tm rfl (tp rfl (BI rfl (vl rfl) rfl) (tp rfl (BI rfl (vl rfl) rfl) ?_)))))))))))))
 refine Tl rfl rfl rfl rfl z41 Ef (fun b7=> ?_)
 refine TO.AY 0 rfl rfl rfl (vl rfl) (Va rfl) rfl Bz rfl rfl (TO.freeze 0 19 rfl rfl (tm rfl (TO.nil (Fin.go (oY 2 3 5 9 10 11 14 16 17 18 19 20 97 98 99 106 107 108 rfl (Tr.seq (Tr.Vf mixed (by kernel_rfl) (co rfl (AH rfl Bu Bz (vl rfl) rfl rfl) (co rfl (AH rfl Be BE (vl rfl) rfl rfl) (cm rfl (co rfl (AA rfl underlying47 BE (Kb rfl) (vl rfl) (by omega) (DC (f:=Am) (i:=0) hc0)) (co rfl (AH rfl Be BE (vl rfl) rfl rfl) (co rfl (Ae rfl (X4 hcm hxz (by omega) QH mC) ⟨ke rfl,ke rfl,ke rfl,trivial⟩) ?_)))))))))))))
 refine cm rfl (co rfl (BI rfl (vl rfl) rfl) (co rfl (BI rfl (vl rfl) rfl) (cm rfl (cm rfl (Ch.nil (Fin.go (oZ 2 3 5 9 10 11 14 16 17 18 19 20 21 22 97 98 99 106 107 108 rfl (Tr.seq (Tr.Vf mixed (by kernel_rfl) (co rfl (AH rfl Bu Bz (vl rfl) rfl rfl) (co rfl (AH rfl Be BE (vl rfl) rfl rfl) (cm rfl (co rfl (AA rfl underlying47 BE (Kb rfl) (vl rfl) (by omega) (by exact AX (by assumption))) ?_)))))))))))))
 refine co rfl (AH rfl Be BE (vl rfl) rfl rfl) (co rfl (Ae rfl (VS hcm hxz (by omega) QH mC) ⟨ke rfl,ke rfl,ke rfl,trivial⟩) (cm rfl (co rfl (BI rfl (vl rfl) rfl) (co rfl (BI rfl (vl rfl) rfl) (cm rfl (cm rfl (Ch.nil (Fin.go (oa 2 3 5 9 10 11 14 17 18 19 20 21 22 23 24 97 98 99 106 107 108 rfl (Tr.seq (Tr.A3 (cm rfl (cm rfl ?_)))))))))))))
 refine co rfl (ki rfl rfl rfl rfl) (cm rfl ?_)
 refine Ch.cs 145 rfl ?_ ?_<;>intro h7 q7
 exfalso;simp at h7
 refine cy h7 rfl (AH rfl Bu Bz (vl rfl) rfl rfl) (cy h7 rfl (AH rfl Bu Bz (vl rfl) rfl rfl) ?_)
 refine cy h7 rfl (Ae rfl (I5 (a:=a2) (b:=a2) n9.cN n9.lp n9.lq n9.lu) ⟨ke rfl,ke rfl,trivial⟩) ?_
 refine cy h7 rfl (IE rfl (vl rfl)) (co rfl (JB rfl rfl h7 rfl) (cm rfl ?_))
 refine Ch.cs 151 rfl ?_ ?_<;>intro h8 q8
 exfalso;simp at h8
 refine Gr h8 rfl (Gr h8 rfl (cy h8 rfl (Mu rfl underlying4 (vl rfl) (vl rfl)) (co rfl (JB rfl rfl h8 rfl) (cm rfl ?_))))
 refine Ch.cs 156 rfl ?_ ?_<;>intro h9 q9
 exfalso;simp at h9
 refine Gr h9 rfl (Gr h9 rfl (cy h9 rfl (ki rfl rfl rfl rfl) (co rfl (JB rfl rfl h9 rfl) (Ch.nil (Fin.go (Mx 2 3 5 9 10 11 14 97 98 99 106 107 108 160 rfl ?_))))))
 refine Tr.cn rfl ?_ ?_<;>intro h10 PZ
 exfalso;simp at h10
 refine Tr.skip (Fin.block (Fin.go (PC 2 3 5 9 10 11 14 97 98 99 106 107 108 rfl (Tr.A3 (Ly rfl rfl rfl rfl (by omega) (cm rfl (Ch.nil (Fin.Lz (m+1)  (⟨by omega,by omega⟩) ⟨⟨_,rfl,AK m⟩,ke rfl,ke rfl,ke rfl,ke rfl,ke rfl,ke rfl,ke rfl,ke rfl,ke rfl,ke rfl,ke rfl,ke rfl,trivial⟩ (fun _ _ h=>h)))))))))
 have:=h6
 refine Tr.exit (Fin.Ao (Fin.Ao (Fin.BT (Fin.go (Nz 2 3 5 9 10 11 14 97 98 99 rfl (Tr.seq (Tr.seq (Tr.Qy 0 rfl (Tr.Aq (tm rfl (tm rfl (tp rfl (Ew rfl underlying47 (Kb rfl)) ?_))))))))))))
 refine TO.Er 1 rfl rfl (by decide) (AQ rfl rfl (by decide) rfl (UJ (n:=((l3.length:Nat):Int)) (by omega)) ⟨ke rfl,ke rfl,trivial⟩) ?_
 refine TO.ex 165 rfl (fun z2=>TO.fact 165 rfl fun YL=> ?_)
 obtain ⟨st1,rfl⟩:∃x,x=z2:=⟨_,rfl⟩
 have sk:=Ri YL
 refine tm rfl (tm rfl (tm rfl (tp rfl (Ew rfl underlying47 (Kb rfl)) ?_)))
 refine tp rfl (JO rfl (vl rfl) (vl rfl) ?hin) ?_;case hin=>unfold LK;omega
 refine TO.Er 1 rfl rfl (by decide) (AQ rfl rfl (by decide) rfl (BG.exd fun s_=>UJ (n:=((l3.length:Nat):Int)-2) (by omega)) ⟨ke rfl,ke rfl,trivial⟩) ?_
 refine TO.ex 171 rfl (fun z3=>TO.fact 171 rfl fun hz3=> ?_)
 obtain ⟨st2,rfl⟩:∃x,x=z3:=⟨_,rfl⟩
 have sn:=Ri hz3
 refine tp rfl (AG (xs:=[.tmp 165,.tmp 166,.tmp 171,.const (.slice none 0 0)]) (rows:=[[ints st1],[ints sq],[ints st2],[ints []]]) rfl rfl underlying70 jJ z59 rfl (by decide) ⟨⟨(by exact rfl),VL.le (vl rfl) (AS _)⟩,⟨⟨(by exact rfl),VL.le (vl rfl) (AS _)⟩,⟨⟨(by exact rfl),VL.le (vl rfl) (AS _)⟩,⟨⟨(by exact rfl),VL.le (vl rfl) (Pr.le_trans (AB 1) (AS _))⟩,trivial⟩⟩⟩⟩ (by decide)) ?_
 refine tp rfl (CW rfl underlying70 (Kf rfl)) (tm rfl (TO.nil (Fin.JE 1 rfl (fun s5=> ?_))))
 refine Fin.go (PC 2 3 5 9 10 11 14 97 98 99 172 173 174 rfl (Tr.block ?_))
 obtain ⟨fq,fu,mE⟩:∃l:List (List Int),l=[st1,sq,st2,[]]∧∀x∈l,x.length≤1000:=⟨_,rfl,by intro x hx;simp at hx;rcases hx with rfl|rfl|rfl|rfl;omega;omega;omega;simp⟩
 refine Tr.re 172 rfl (Pr.le_trans (Au _ _) (Pr.le_of_eq (by rw [fu];rfl)):Pr.le _ (slice 1 (fq.map fun l=>[ints l]))) ?_
 have r7:fq.length=4:=(by rw [fu];rfl)
 refine Tr.re 173 rfl (int_eq (by rw [fu];rfl):Pr.le _ (int ((fq.length:Nat):Int))) ?_
 refine Tr.BF [(2,_),(3,_),(5,_),(9,_),(10,_),(11,_),(14,_),(97,_),(98,_),(99,_),(172,_),(173,_)] (jD rfl) (fun j:Nat=>[(174,int ((j:Nat):Int))]) (fun j:Nat=>j≤(fq).length) (fun j:Nat=>(fq).length-j) 0 (Nat.zero_le _) ⟨ke rfl,trivial⟩ ?_
 rintro j r8
 refine Tr.seq (Tr.A3 (co rfl (ki rfl rfl rfl rfl) (Ch.nil (Fin.go (Mx 2 3 5 9 10 11 14 97 98 99 172 173 174 175 rfl (Tr.seq ?_))))))
 refine Tr.cn rfl ?_ ?_<;>intro h11 Qx
 have mF:j<(fq).length:=AU h11
 obtain ⟨y,mG⟩:=at_ mF
 have hyl:=mE y (List.mem_of_getElem? mG)
 obtain ⟨a3,f3,hS⟩:∃a f,HF x l3 y=(a,f):=⟨_,_,rfl⟩
 have cR:=UP (by have:=l9 (l:=l3) (s:=y) hxz X8;rw [hS] at this;exact this)
 refine Tr.skip (Fin.go (PC 2 3 5 9 10 11 14 97 98 99 172 173 174 rfl (Tr.seq (Tr.block (Tr.seq (Tr.A3 (co rfl (AA rfl underlying70 jJ (vl rfl) (vl rfl) (by omega) (AX mG)) (co rfl (E_ rfl jK rfl) (cm rfl (Ch.nil (Fin.go (Mx 2 3 5 9 10 11 14 26 97 98 99 172 173 174 rfl (Tr.seq (Tr.Aq ?_))))))))))))))
 refine tp rfl (AH rfl Bu Bz (vl rfl) rfl rfl) (tm rfl (tm rfl (tp rfl (Ae rfl (X1 hS hxz (by omega) X8) ⟨ke rfl,(Kb rfl),ke rfl,trivial⟩) (tm rfl (tp rfl (BI rfl (vl rfl) rfl) (tp rfl (BI rfl (vl rfl) rfl) ?_))))))
 refine Tl rfl rfl rfl rfl z41 Ef (fun b8=> ?_)
 refine TO.AY 0 rfl rfl rfl (vl rfl) (Va rfl) rfl Bz rfl rfl (TO.freeze 0 27 rfl rfl (tm rfl (TO.nil (Fin.go (c_ 2 3 5 9 10 11 14 26 27 28 97 98 99 172 173 174 rfl (Tr.seq (Tr.Aq (tp rfl (AH rfl Bu Bz (vl rfl) rfl rfl) (tm rfl (tm rfl (tp rfl (Ae rfl (X2 hS hxz (by omega) X8) ⟨ke rfl,(Kb rfl),ke rfl,trivial⟩) (tm rfl (tp rfl (BI rfl (vl rfl) rfl) ?_)))))))))))))
 refine tp rfl (BI rfl (vl rfl) rfl) ?_
 refine Tl rfl rfl rfl rfl z41 Ef (fun b9=> ?_)
 refine TO.AY 0 rfl rfl rfl (vl rfl) (Va rfl) rfl Bz rfl rfl (TO.freeze 0 29 rfl rfl (tm rfl (TO.nil (Fin.go (i9 2 3 5 9 10 11 14 27 28 29 30 97 98 99 172 173 174 rfl (Tr.seq (Tr.Vf mixed (by kernel_rfl) (cm rfl (cm rfl (co rfl (ki rfl rfl rfl rfl) (cm rfl ?_)))))))))))
 refine Ch.cs 195 rfl ?_ ?_<;>intro h12 Sb
 exfalso;simp at h12
 refine cy h12 rfl (AH rfl Bu Bz (vl rfl) rfl rfl) (cy h12 rfl (AH rfl Bu Bz (vl rfl) rfl rfl) ?_)
 refine cy h12 rfl (Ae rfl (I5 (a:=a3) (b:=a3) cR.cN cR.lp cR.lq cR.lu) ⟨ke rfl,ke rfl,trivial⟩) ?_
 refine cy h12 rfl (IE rfl (vl rfl)) (co rfl (JB rfl rfl h12 rfl) (cm rfl ?_))
 refine Ch.cs 201 rfl ?_ ?_<;>intro H8 Tp
 exfalso;simp at H8
 refine cy H8 rfl (AH rfl Bu Bz (vl rfl) rfl rfl) (cy H8 rfl (AH rfl Bu Bz (vl rfl) rfl rfl) (cy H8 rfl (Ae rfl (KY) ⟨ke rfl,ke rfl,trivial⟩) (cy H8 rfl (AH rfl Bu Bz (vl rfl) rfl rfl) (cy H8 rfl (AH rfl Bu Bz (vl rfl) rfl rfl) ?_))))
 refine cy H8 rfl (Ae rfl (I5 (a:=a3) (b:=z1) cR.cN cR.lp cR.lq cR.lu) ⟨ke rfl,ke rfl,trivial⟩) ?_
 refine cy H8 rfl (Mu rfl underlying4 (vl rfl) (vl rfl)) (co rfl (JB rfl rfl H8 rfl) (Ch.nil (Fin.go (Mx 2 3 5 9 10 11 14 97 98 99 172 173 174 209 rfl ?_))))
 refine Tr.cn rfl ?_ ?_<;>intro Jt W9
 exfalso;simp at Jt
 refine Tr.skip (Fin.block (Fin.go (PC 2 3 5 9 10 11 14 97 98 99 172 173 174 rfl (Tr.A3 (Ly rfl rfl rfl rfl (by omega) (cm rfl (Ch.nil (Fin.AM (j+1) ⟨mF,by omega⟩ ⟨⟨_,rfl,AK j⟩,ke rfl,ke rfl,ke rfl,ke rfl,ke rfl,ke rfl,ke rfl,ke rfl,ke rfl,ke rfl,ke rfl,ke rfl,trivial⟩))))))))
 have sv:j=(fq).length:=by have:=AV h11;omega
 refine Tr.exit (Fin.Ao (Fin.Ao (Fin.BT (Fin.go (Nz 2 3 5 9 10 11 14 97 98 99 rfl (Tr.seq (Tr.A3 (cm rfl (co rfl (AG (xs:=[.tmp 211,.const (.int .i64 (0)),.const (.int .i64 (1)),.const (.int .i64 (2))]) (rows:=[[_],[_],[_],[_]]) rfl rfl underlying22 CO z3 rfl (by decide) ⟨⟨(by exact rfl),(Vo rfl)⟩,⟨⟨(by exact rfl),(Vo rfl)⟩,⟨⟨(by exact rfl),(Vo rfl)⟩,⟨⟨(by exact rfl),(Vo rfl)⟩,trivial⟩⟩⟩⟩ (by decide)) ?_)))))))))
 refine co rfl (CW rfl underlying22 (Kf rfl)) (cm rfl (Ch.nil (Fin.go (PC 2 3 5 9 10 11 14 97 98 99 212 213 214 rfl (Tr.block ?_)))))
 obtain ⟨fy,f_,_⟩:∃l:List Int,l=[JL,0,1,2]∧True:=⟨_,rfl,trivial⟩
 refine Tr.re 212 rfl (Pr.le_trans (Au _ _) (Pr.le_of_eq (by rw [f_];rfl)):Pr.le _ (ints fy)) ?_
 have r9:fy.length=4:=(by rw [f_];rfl)
 refine Tr.re 213 rfl (int_eq (by rw [f_];rfl):Pr.le _ (int ((fy.length:Nat):Int))) ?_
 refine Tr.BF [(2,_),(3,_),(5,_),(9,_),(10,_),(11,_),(14,_),(97,_),(98,_),(99,_),(212,_),(213,_)] (jD rfl) (fun i:Nat=>[(214,int ((i:Nat):Int))]) (fun i:Nat=>i≤(fy).length) (fun i:Nat=>(fy).length-i) 0 (Nat.zero_le _) ⟨ke rfl,trivial⟩ ?_
 rintro i lQ
 refine Tr.seq (Tr.A3 (co rfl (ki rfl rfl rfl rfl) (Ch.nil (Fin.go (Mx 2 3 5 9 10 11 14 97 98 99 212 213 214 215 rfl (Tr.seq ?_))))))
 refine Tr.cn rfl ?_ ?_<;>intro N7 YG
 have XP:i<(fy).length:=AU N7
 obtain ⟨q,XQ⟩:=at_ XP
 obtain ⟨r4,f4,mH⟩:∃r f,EH x l3 q=(r,f):=⟨_,_,rfl⟩
 refine Tr.skip (Fin.go (PC 2 3 5 9 10 11 14 97 98 99 212 213 214 rfl (Tr.seq (Tr.block (Tr.seq (Tr.A3 (co rfl (AA rfl underlying22 CO (vl rfl) (vl rfl) (by omega) (AX XQ)) (co rfl (E_ rfl CV rfl) (cm rfl (Ch.nil (Fin.go (Mx 2 3 5 9 10 11 14 32 97 98 99 212 213 214 rfl (Tr.seq (Tr.A3 ?_))))))))))))))
 refine co rfl (AH rfl Bu Bz (vl rfl) rfl rfl) (cm rfl (cm rfl (co rfl (Ae rfl (X5 mH hxz (by omega)) ⟨ke rfl,(Kb rfl),ke rfl,trivial⟩) (cm rfl (co rfl (BI rfl (vl rfl) rfl) (co rfl (BI rfl (vl rfl) rfl) (cm rfl (cm rfl (Ch.nil (Fin.go (c_ 2 3 5 9 10 11 14 32 33 34 97 98 99 212 213 214 rfl (Tr.seq (Tr.A3 ?_)))))))))))))
 refine co rfl (AH rfl Bu Bz (vl rfl) rfl rfl) (cm rfl (cm rfl (co rfl (Ae rfl (bA mH hxz (by omega)) ⟨ke rfl,(Kb rfl),ke rfl,trivial⟩) (cm rfl (co rfl (BI rfl (vl rfl) rfl) (co rfl (BI rfl (vl rfl) rfl) (cm rfl (cm rfl (Ch.nil (Fin.go (i9 2 3 5 9 10 11 14 33 34 35 36 97 98 99 212 213 214 rfl (Tr.seq (Tr.A3 ?_)))))))))))))
 refine cm rfl (cm rfl (co rfl (ki rfl rfl rfl rfl) (cm rfl ?_)))
 refine Ch.cs 235 rfl ?_ ?_<;>intro h16 Z7
 exfalso;simp at h16
 refine Gr h16 rfl (Gr h16 rfl (cy h16 rfl (Ae rfl (VR) ⟨ke rfl,ke rfl,trivial⟩) (cy h16 rfl (IE rfl (vl rfl)) (co rfl (JB rfl rfl h16 rfl) (Ch.nil (Fin.go (Mx 2 3 5 9 10 11 14 97 98 99 212 213 214 240 rfl ?_)))))))
 refine Tr.cn rfl ?_ ?_<;>intro NR YF
 exfalso;simp at NR
 refine Tr.skip (Fin.block (Fin.go (PC 2 3 5 9 10 11 14 97 98 99 212 213 214 rfl (Tr.A3 (Ly rfl rfl rfl rfl (by omega) (cm rfl (Ch.nil (Fin.AM (i+1) ⟨XP,by omega⟩ ⟨⟨_,rfl,AK i⟩,ke rfl,ke rfl,ke rfl,ke rfl,ke rfl,ke rfl,ke rfl,ke rfl,ke rfl,ke rfl,ke rfl,ke rfl,trivial⟩))))))))
 have lR:i=(fy).length:=by have:=AV N7;omega
 refine Tr.exit (Fin.Ao (Fin.Ao (Fin.BT (Fin.block (Fin.go (gH 2 3 5 9 10 11 97 98 99 rfl (Tr.A3 (Ly rfl rfl rfl rfl (by omega) (cm rfl (Ch.nil (Fin.J4 (k+1) (_)  (⟨by omega,by omega⟩) ⟨⟨_,rfl,AK k⟩,ke rfl,ke rfl,ke rfl,ke rfl,ke rfl,ke rfl,ke rfl,ke rfl,trivial⟩ (fun _ _ h=>h))))))))))))
 have:=h5
 refine Tr.exit (Fin.Ao (Fin.Ao (Fin.BT (Fin.go (Tr.seq (Tr.seq (Tr.A3 (co rfl (AG (xs:=[.const (.string ⟨[97,112,112].toArray⟩),.const (.string ⟨[100,98].toArray⟩),.const (.string ⟨[119,101,98].toArray⟩),.const (.string ⟨[120].toArray⟩)]) (rows:=[[_],[_],[_],[_]]) rfl rfl underlying74 G0 z9 rfl (by decide) ⟨⟨(by exact rfl),(Vo rfl)⟩,⟨⟨(by exact rfl),(Vo rfl)⟩,⟨⟨(by exact rfl),(Vo rfl)⟩,⟨⟨(by exact rfl),(Vo rfl)⟩,trivial⟩⟩⟩⟩ (by decide)) ?_))))))))
 refine co rfl (CW rfl underlying74 (Kf rfl)) (cm rfl (Ch.nil (Fin.go (Tr.block ?_))))
 obtain ⟨gA,gB,_⟩:∃l:List (List UInt8),l=[[97,112,112],[100,98],[119,101,98],[120]]∧True:=⟨_,rfl,trivial⟩
 refine Tr.re 243 rfl (Pr.le_trans (Au _ _) (Pr.le_of_eq (by rw [gB];rfl)):Pr.le _ (Pf gA)) ?_
 have r_:gA.length=4:=(by rw [gB];rfl)
 refine Tr.re 244 rfl (int_eq (by rw [gB];rfl):Pr.le _ (int ((gA.length:Nat):Int))) ?_
 refine Tr.BF [(10,_),(243,_),(244,_)] (Js rfl) (fun p:Nat=>[(245,int ((p:Nat):Int))]) (fun p:Nat=>p≤(gA).length) (fun p:Nat=>(gA).length-p) 0 (Nat.zero_le _) ⟨ke rfl,trivial⟩ ?_
 rintro p sA
 refine Tr.seq (Tr.A3 (co rfl (ki rfl rfl rfl rfl) (Ch.nil (Fin.go (Tr.seq ?_)))))
 refine Tr.cn rfl ?_ ?_<;>intro NS bz
 have mI:p<(gA).length:=AU NS
 obtain ⟨nx,rK⟩:=at_ mI
 refine Tr.skip (Fin.go (Tr.seq (Tr.block (Tr.seq (Tr.A3 (co rfl (AA rfl underlying74 G0 (vl rfl) (vl rfl) (by omega) (AX rK)) (co rfl (E_ rfl J6 rfl) (cm rfl (Ch.nil (Fin.go (Tr.seq (Tr.A3 (co rfl (AH rfl Bu Bz (vl rfl) rfl rfl) ?_)))))))))))))
 refine cm rfl ?_
 refine co rfl (Ae rfl (Ot (e:=z1) (n:=nx)) ⟨ke rfl,ke rfl,trivial⟩) ?_
 refine cm rfl (co rfl (BI rfl (vl rfl) rfl) (co rfl (BI rfl (vl rfl) rfl) (cm rfl (cm rfl (Ch.nil (Fin.go (i7 10 38 39 40 243 244 245 rfl (Tr.seq (Tr.A3 (co rfl (AH rfl Bu Bz (vl rfl) rfl rfl) (cm rfl ?_)))))))))))
 refine co rfl (Ae rfl (Sy (e:=z1) (n:=nx) (by omega)) ⟨ke rfl,ke rfl,trivial⟩) ?_
 refine cm rfl (co rfl (BI rfl (vl rfl) rfl) (co rfl (BI rfl (vl rfl) rfl) (cm rfl (cm rfl (Ch.nil (Fin.go (PB 10 39 40 41 42 243 244 245 rfl (Tr.seq (Tr.A3 (cm rfl (cm rfl (co rfl (ki rfl rfl rfl rfl) (cm rfl ?_)))))))))))))
 refine Ch.cs 264 rfl ?_ ?_<;>intro Rp iD
 exfalso;simp at Rp
 refine Gr Rp rfl (Gr Rp rfl (cy Rp rfl (Mu rfl underlying4 (vl rfl) (vl rfl)) (co rfl (JB rfl rfl Rp rfl) (Ch.nil (Fin.go (Ej 10 243 244 245 268 rfl ?_))))))
 refine Tr.cn rfl ?_ ?_<;>intro NT iE
 exfalso;simp at NT
 refine Tr.skip (Fin.block (Fin.go (Tr.A3 (Ly rfl rfl rfl rfl (by omega) (cm rfl (Ch.nil (Fin.AM (p+1) ⟨mI,by omega⟩ ⟨⟨_,rfl,AK p⟩,ke rfl,ke rfl,ke rfl,trivial⟩)))))))
 have sx:p=(gA).length:=by have:=AV NS;omega
 refine Tr.exit (Fin.Ao (Fin.Ao (Fin.BT (Fin.go (Tr.seq (Tr.A3 ?_))))))
 refine co rfl (We (m:=25) rfl underlying47 BE Qf z29 rfl (by decide) (by decide) ⟨_,rfl,int_eq rfl⟩ ⟨_,rfl,int_eq rfl⟩ (by decide) (by decide)) ?_
 refine cm rfl (Ch.nil (Fin.go (Tr.seq (Tr.re 43 rfl (Pr.le_trans (Au _ _) VT) ?_))))
 have hSm:=bB hok
 have hrm:=X6 hok
 refine Tr.Aq (tp rfl (AH rfl Bu Bz (vl rfl) rfl rfl) (tm rfl (tp rfl (Ae rfl (X1 hSm fc (by omega) X7) ⟨ke rfl,ke rfl,⟨_,rfl,AB _⟩,trivial⟩) (tm rfl (tp rfl (BI rfl (vl rfl) rfl) (tp rfl (BI rfl (vl rfl) rfl) ?_))))))
 refine Tl rfl rfl rfl rfl z41 Ef (fun b10=> ?_)
 refine TO.AY 0 rfl rfl rfl (vl rfl) (Va rfl) rfl Bz rfl rfl (TO.freeze 0 44 rfl rfl (tm rfl (TO.nil (Fin.go (Cg 10 43 45 rfl (Tr.seq (Tr.A3 (co rfl (AH rfl Bu Bz (vl rfl) rfl rfl) (cm rfl (co rfl (Ae rfl (X5 hrm fc (by omega)) ⟨ke rfl,ke rfl,ke rfl,trivial⟩) (cm rfl (co rfl (BI rfl (vl rfl) rfl) (co rfl (BI rfl (vl rfl) rfl) ?_)))))))))))))
 refine cm rfl (cm rfl (Ch.nil (Fin.go (Tr.seq (Tr.A3 (cm rfl (co rfl (ki rfl rfl rfl rfl) (cm rfl ?_))))))))
 refine Ch.cs 285 rfl ?_ ?_<;>intro Rq k6
 refine Gr Rq rfl (cy Rq rfl (ki rfl rfl rfl rfl) (co rfl (JQ rfl rfl Rq rfl) (cm rfl ?_)))
 refine Ch.cs 289 rfl ?_ ?_<;>intro nv q22
 refine cy nv rfl (Ae rfl (I7) trivial) (co rfl (JQ rfl rfl nv rfl) (cm rfl (Ch.nil (Fin.go (Es 8 rfl (Tr.ret (Fin.JN rfl (CH.Ep _ _) rfl ?_)))))))
 · exact Lr
 exfalso;simp at nv
 exfalso;simp at Rq
theorem LC (os:Os) (started:os.Started) (H:Type) (enc:TypeId×Value→H):
  ReturnsInHanded {} Tryz.checked os 6 .any (Rows.estateAllSpec.pre6 enc Tryz.prog Tryz.f6 Rows.estateAllRow.domain false) (Rows.estateAllSpec.post enc Tryz.prog Tryz.f6 false true false false):=by
 refine returnsInHanded_of_change_shaped (C := Tryz.checked) qV started (by kernel_rfl) Tryz.func6
  (ChangeSpec.witness6 (enc:=enc) (C:=Tryz.checked) false ⟨#[],#[.slice none 0 0,.agg #[.int .i64 0,.int .i64 0,.int .i64 0,.int .i64 0,.int .i64 0,.int .i64 0,.int .i64 0,.slice none 0 0],.slice none 0 0,.int .i64 0],[]⟩ 8 (by kernel_rfl) (by kernel_rfl) (by kernel_rfl) (by kernel_rfl)) ?_
 intro W base args ds gs before mJ hW sy n_ _ _
 have hval:∀(j:Nat) t v,Tryz.f6.params[j]? =some t→args[j]? =some v→Value.okWide Tryz.prog W .any base t v:=mJ
 have hW':=hW
 obtain ⟨p,q,hA0,hV,hpq,hfz,hnd⟩:=hW
 have hA:DataW.TrodAll enc Tryz.prog W 0 (fun _=>true) true Tryz.f6.params.toList args.toList ds p:=hA0
 have UT:=hA
 rw [Tryz.params6] at hA hval
 obtain ⟨v0,v1,v2,v3,d0,d1,d2,d3,p0,p1,p2,p3,rfl,rfl,hp,h0,h1,h2,h3⟩:=trodAll_four hA
 obtain ⟨rfl,rfl⟩:=trodVars_none hV
 obtain ⟨a0,ij,e0⟩:=NU ((NP Tryz.underlying22 Tryz.underlying3 (by kernel_rfl)).w) h0 (KH n_ (i:=0) (by kernel_rfl) rfl) (by obtain ⟨_,_,_,rfl⟩:=okWide_slice Tryz.underlying22 (hval 0 22 v0 rfl rfl);rfl)
 obtain ⟨a1,hr1,e1⟩:=Wb (TD) h1 (KH n_ (i:=1) (by kernel_rfl) rfl) (by obtain ⟨cs,rfl,_⟩:=okWide_struct Tryz.underlying29 (hval 1 29 v1 rfl rfl);exact ⟨_,rfl⟩)
 obtain ⟨a2,hr2,e2⟩:=NU ((NP Tryz.underlying22 Tryz.underlying3 (by kernel_rfl)).w) h2 (KH n_ (i:=2) (by kernel_rfl) rfl) (by obtain ⟨_,_,_,rfl⟩:=okWide_slice Tryz.underlying22 (hval 2 22 v2 rfl rfl);rfl)
 obtain ⟨a3,hr3,e3⟩:=NU ((B5 Tryz.underlying3).w) h3 (KH n_ (i:=3) (by kernel_rfl) rfl) (by obtain ⟨_,rfl⟩:=okWide_int Tryz.underlying3 (hval 3 3 v3 rfl rfl);rfl)
 refine ((Rj hr1).2 YU W [v0,v1,v2,v3] (dA W) ⟨e0,e1,e2,e3,trivial⟩).mono fun e W' ⟨v,he,hv,hb⟩=> ?_
 subst he
 obtain rfl:v= .bool true:=hv
 exact ⟨_,rfl,Vw WS (by kernel_rfl) rfl Tryz.underlying4 rfl UT (by rw [hpq];simp) hW' rfl hb⟩
theorem LD:(Rows.estateAllRow.inPlace==Tryz.pinned.checked.prog.inPlace 6)=true:=by kernel_rfl
theorem LF:(Rows.estateAllRow.unfollowed==Tryz.pinned.checked.prog.unfollowed 6)=true:=by kernel_rfl
theorem LG:(Rows.estateAllRow.recurses==Tryz.pinned.checked.prog.recurses 6)=true:=by kernel_rfl
theorem LH:(Rows.estateAllRow.named==Tryz.pinned.checked.prog.varsNamed 6)=true:=by kernel_rfl
theorem Lv:joinedFacts Tryz.pinned.checked.prog 6 Tryz.f6 Rows.estateAllSpec Rows.estateAllRow=true:=by
 unfold joinedFacts
 rw [LD,LF,LG,LH]
 kernel_rfl
theorem estateAll_holds:Rows.EstateAllSaid:=
 OpenClaim.holds_of_wide 6 Tryz.f6 rfl rfl rfl rfl rfl rfl rfl ⟨rfl, rfl, rfl, rfl, rfl⟩ rfl rfl rfl rfl rfl (by kernel_rfl) Tryz.func6 Lv
  (of_decide_eq_true (by kernel_rfl)) (by unfold Func.isWrapper;first|(rw [if_pos (by decide+kernel)];kernel_rfl)|(rw [if_neg (by decide+kernel)];exact ⟨rfl,rfl⟩))
  (fun os started H enc _=>LC os started H enc)
end Go.Proofs.YtppeeogffbpcbaaGreat
