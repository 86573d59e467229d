/-
  AssetMade: whatever the input, the law of this name returns true and its arguments read as before. No conditions.
-/
import Derived.RangeFuncFrom
import Derived.RangeFuncLeaves
import Derived.OrdersIn
import Derived.Test.YtgilhkjlfongoaaGreatRows
import Derived.Test.YtgilhkjlfongoaaGreatAsMadeP5
set_option linter.all false
set_option maxRecDepth 40000
set_option maxHeartbeats 16000000
namespace Go.Proofs.YtgilhkjlfongoaaGreat
open Go Go.RowKit Cp Go.Proofs.Tryz
def Pc {n:Nat} (l:List Int) (h:EX l n):List (FJ n):=l.attach.map fun x=>⟨x.1,h x.1 x.2⟩
theorem IE {n:Nat} {l:List Int} (h:EX l n):vals (Pc l h)=l:=by
 unfold vals Pc
 rw [List.map_map]
 exact List.attach_map_subtype_val l
abbrev Bx {n:Nat} (own:List Int) (h:EX own n):List (FJ n):=Pc (B8 own) (GH.2 h)
theorem TE {n:Nat} {own:List Int} (h:EX own n):(Bx own h).map DR=(B8 own).map fun t:Int=>[int t]:=by
 rw [←Sn,IE]
theorem Vy {n:Nat} {own:List Int} (h:EX own n):(Bx own h).length≤own.length:=by
 unfold Bx Pc
 rw [List.length_map,List.length_attach]
 exact NB own
theorem R3 {n:Nat} {own:List Int} (h:EX own n) (h0:own≠[]):Bx own h≠[]:=by
 intro h1
 have h2:B8 own=[]:=by rw [←IE (GH.2 h)];show vals (Bx own h)=[];rw [h1];rfl
 cases own with
 |nil=>exact h0 rfl
 |cons a r=>
  have:=(C6 (a::r) a).2 (List.mem_cons_self ..)
  rw [h2] at this;cases this
theorem Pf {n:Nat} {own:List Int} (h:EX own n) (x:FJ n):x∈Bx own h↔x.1∈own:=by
 unfold Bx Pc
 rw [List.mem_map]
 constructor
 · rintro ⟨y,_,rfl⟩;exact (C6 own y.1).1 y.2
 · intro hx;exact ⟨⟨x.1,(C6 own x.1).2 hx⟩,List.mem_attach _ _,rfl⟩
theorem Pg {n:Nat} {own:List Int} (h:EX own n):(Bx own h).Pairwise fun x y=>x.1<y.1:=by
 have h1:(vals (Bx own h)).Pairwise fun a b=>Ar a b<0:=by rw [IE];exact GG own
 unfold vals at h1
 rw [List.pairwise_map] at h1
 exact h1.imp fun {x y} h=>by
  unfold Ar at h
  split at h
  · assumption
  · split at h<;>omega
def DH (f g:Ac):Bool:=decide (f.day=g.day)&&decide (Ay f=Ay g)&&B3 f g
def Gf (l:List Ac) (own:List Int) (c:Int) (a:Nat):Bool:=own.any (fun y=>y==((a:Nat):Int))&&match l[a]? with|some f=>decide (c≤f.B5)|none=>false
def NG (l:List Ac) (a b:Nat):Bool:=match l[a]?,l[b]? with|some f,some g=>DH f g|_,_=>false
def Ej (l:List Ac) (own:List Int) (c:Int) (a k:Nat):List (Int×Int):=((List.range k).filter fun b=>decide (a<b)&&Gf l own c a&&Gf l own c b&&NG l a b).map fun b=>(((a:Nat):Int),((b:Nat):Int))
def EI (l:List Ac) (own:List Int) (c:Int) (k:Nat):List (Int×Int):=(List.range k).flatMap fun a=>Ej l own c a l.length
theorem Ph (l:List Ac) (own:List Int) (c:Int) (a k:Nat):Ej l own c a (k+1)=Ej l own c a k++if decide (a<k)&&Gf l own c a&&Gf l own c k&&NG l a k then [(((a:Nat):Int),((k:Nat):Int))] else []:=by
 unfold Ej
 rw [List.range_succ,List.filter_append,List.map_append]
 congr 1
 cases h:(decide (a<k)&&Gf l own c a&&Gf l own c k&&NG l a k) with
 |true=>rw [List.filter_cons_of_pos (p:=fun b=>decide (a<b)&&Gf l own c a&&Gf l own c b&&NG l a b) h];rfl
 |false=>rw [List.filter_cons_of_neg (p:=fun b=>decide (a<b)&&Gf l own c a&&Gf l own c b&&NG l a b) (by rw [h];decide)];rfl
theorem N8 (l:List Ac) (own:List Int) (c:Int) (a:Nat):Ej l own c a (a+1)=[]:=by
 unfold Ej
 rw [List.filter_eq_nil_iff.2,List.map_nil]
 intro b hb
 rw [List.mem_range] at hb
 rw [decide_eq_false (show ¬a<b by omega)]
 simp
theorem HD (l:List Ac) (own:List Int) (c:Int) (k:Nat):EI l own c (k+1)=EI l own c k++Ej l own c k l.length:=by
 unfold EI;rw [List.range_succ,List.flatMap_append];simp
theorem Lw (l:List Ac) (own:List Int) (c:Int) (a k:Nat):(Ej l own c a k).length≤k:=by
 unfold Ej;rw [List.length_map]
 exact Nat.le_trans (List.length_filter_le _ _) (by rw [List.length_range];exact Nat.le_refl _)
theorem Lx (l:List Ac) (own:List Int) (c:Int):∀k,(EI l own c k).length≤k*l.length
 |0=>Nat.zero_le _
 |k+1=>by
  have ih:=Lx l own c k
  have h2:=Lw l own c k l.length
  rw [HD,List.length_append,Nat.succ_mul];omega
def JV (l:List Ac):List (FJ l.length)→List (Int×Int)
 |[]=>[]
 |i::r=>It l i r++JV l r
theorem Ly {l:List Ac} {kept:List (FJ l.length)}:∀k,k≤kept.length→Hg l kept k++JV l (kept.drop k)=JV l kept
 |0,_=>by rw [List.drop_zero];rfl
 |k+1,h=>by
  obtain ⟨i,hi⟩:=at_ (l:=kept) (k:=k) (by omega)
  have ih:=Ly (l:=l) (kept:=kept) k (by omega)
  rw [O9 hi,List.append_assoc,←ih,Nw hi];rfl
theorem Gg {α β:Type} {f g:α→List β}:∀{l:List α},(∀a∈l,f a=g a)→l.flatMap f=l.flatMap g
 |[],_=>rfl
 |a::r,h=>by rw [List.flatMap_cons,List.flatMap_cons,h a (List.mem_cons_self ..),Gg fun b hb=>h b (List.mem_cons_of_mem _ hb)]
theorem Lz {l:List Ac}:∀{K:List (FJ l.length)},K.Pairwise (fun x y=>x.1<y.1)→JV l K=K.flatMap fun i=>(K.filter fun x=>decide (i.1<x.1)&&D6 l i x).map fun x=>(i.1,x.1)
 |[],_=>rfl
 |i::r,h=>by
  obtain ⟨h1,h2⟩:=List.pairwise_cons.1 h
  show It l i r++JV l r=_
  rw [Lz h2,List.flatMap_cons]
  congr 1
  ·
   rw [List.filter_cons_of_neg (by simp)]
   unfold It
   congr 1
   refine List.filter_congr fun x hx=> ?_
   rw [decide_eq_true (h1 x hx),Bool.true_and]
  ·
   refine Gg fun j hj=> ?_
   rw [List.filter_cons_of_neg (by rw [decide_eq_false (by have:=h1 j hj;omega)];simp)]
theorem J2 {α β:Type} (p:α→Bool) (g:α→List β):∀K:List α,(K.filter p).flatMap g=K.flatMap fun a=>if p a then g a else []
 |[]=>rfl
 |a::r=>by
  rw [List.flatMap_cons,←J2 p g r]
  cases h:p a with
  |true=>rw [List.filter_cons_of_pos h,List.flatMap_cons];rfl
  |false=>rw [List.filter_cons_of_neg (by rw [h];decide)];rfl
abbrev HX {n:Nat} (x:FJ n):Nat:=x.1.toNat
theorem Pj {l:List Ac} {own:List Int} {c:Int} (h:EX own l.length):(B7 l c (Bx own h)).map HX=(List.range l.length).filter (Gf l own c):=by
 have hA:((B7 l c (Bx own h)).map HX).Pairwise (· < ·):=by
  rw [List.pairwise_map]
  exact ((Pg h).filter _).imp fun {x y} hxy=>by have:=x.2;have:=y.2;unfold HX;omega
 have hB:((List.range l.length).filter (Gf l own c)).Pairwise (· < ·):=List.pairwise_lt_range.filter _
 refine List.Perm.eq_of_pairwise (le:=(· < ·)) (fun a b _ _ h1 h2=>by omega) hA hB ?_
 refine (List.perm_ext_iff_of_nodup (hA.imp fun h=>by omega) (hB.imp fun h=>by omega)).2 fun a=> ?_
 rw [List.mem_map,List.mem_filter,List.mem_range]
 constructor
 ·
  rintro ⟨x,hx,rfl⟩
  unfold B7 at hx
  rw [List.mem_filter,Pf] at hx
  have hx2:=x.2
  refine ⟨by unfold HX;omega,?_⟩
  unfold Gf
  rw [Bool.and_eq_true,List.any_eq_true]
  refine ⟨⟨x.1,hx.1,by unfold HX;rw [beq_iff_eq];omega⟩,?_⟩
  rw [FB l x]
  have:=hx.2
  simp only [Bool.not_eq_true',decide_eq_false_iff_not] at this
  show decide _=true
  rw [decide_eq_true_eq];omega
 ·
  rintro ⟨h1,h2⟩
  unfold Gf at h2
  rw [Bool.and_eq_true,List.any_eq_true] at h2
  obtain ⟨⟨y,hy,kf⟩,h3⟩:=h2
  have kf:y=((a:Nat):Int):=beq_iff_eq.1 kf
  subst kf
  have hp:=h _ hy
  refine ⟨⟨((a:Nat):Int),hp⟩,?_,Int.toNat_natCast a⟩
  unfold B7
  rw [List.mem_filter,Pf]
  refine ⟨hy,?_⟩
  have hf:=FB l ⟨((a:Nat):Int),hp⟩
  rw [show (⟨((a:Nat):Int),hp⟩:FJ l.length).1.toNat=a from Int.toNat_natCast a] at hf
  rw [hf] at h3
  simp only [decide_eq_true_eq] at h3
  simp only [Bool.not_eq_true',decide_eq_false_iff_not];omega
theorem TG {l:List Ac} (i k:FJ l.length):D6 l i k=NG l (HX i) (HX k):=by
 unfold D6 NG HX
 rw [FB l i,FB l k]
 show _=DH (Is l i) (Is l k)
 unfold DH
 rw [←Bool.and_assoc,Bool.and_comm (decide (Ay _=Ay _))]
theorem YJ {l:List Ac} {own:List Int} {c:Int} (h:EX own l.length):Hg l (B7 l c (Bx own h)) (B7 l c (Bx own h)).length=EI l own c l.length:=by
 have h1:=Ly (l:=l) (kept:=B7 l c (Bx own h)) _ (Nat.le_refl _)
 rw [List.drop_length,show JV l []=[] from rfl,List.append_nil] at h1
 rw [h1,Lz (K:=B7 l c (Bx own h)) (show (B7 l c (Bx own h)).Pairwise _ from (Pg h).filter _)]
 have h2:∀g:Nat→Bool,∀i:FJ l.length,((B7 l c (Bx own h)).filter fun x=>g (HX x)).map (fun x=>(i.1,x.1))=(((List.range l.length).filter (Gf l own c)).filter g).map fun b=>(i.1,((b:Nat):Int)):=fun g i=>by
  rw [←Pj h,List.filter_map,List.map_map]
  refine List.map_congr_left fun x _=> ?_
  have:=x.2
  show (i.1,x.1)=(i.1,((x.1.toNat:Nat):Int))
  rw [Int.toNat_of_nonneg this.1]
 have h3:(B7 l c (Bx own h)).flatMap (fun i=>((B7 l c (Bx own h)).filter fun x=>decide (i.1<x.1)&&D6 l i x).map fun x=>(i.1,x.1))=((B7 l c (Bx own h)).map HX).flatMap fun a=>(((List.range l.length).filter (Gf l own c)).filter fun b=>decide (a<b)&&NG l a b).map fun b=>(((a:Nat):Int),((b:Nat):Int)):=by
  rw [List.flatMap_map]
  refine Gg fun i _=> ?_
  have hi:=i.2
  have e:((B7 l c (Bx own h)).filter fun x=>decide (i.1<x.1)&&D6 l i x)=(B7 l c (Bx own h)).filter fun x=>(fun b=>decide (HX i<b)&&NG l (HX i) b) (HX x):=by
   refine List.filter_congr fun x _=> ?_
   have:=x.2
   rw [TG]
   congr 1
   rw [decide_eq_decide];unfold HX;omega
  rw [e,h2 (fun b=>decide (HX i<b)&&NG l (HX i) b) i]
  refine List.map_congr_left fun b _=> ?_
  show (i.1,_)=(((i.1.toNat:Nat):Int),_)
  rw [Int.toNat_of_nonneg hi.1]
 rw [h3,Pj h,J2]
 unfold EI Ej
 refine Gg fun a _=> ?_
 rw [List.filter_filter]
 cases hk:Gf l own c a with
 |true=>
  rw [if_pos rfl]
  congr 1
  refine List.filter_congr fun b _=> ?_
  cases decide (a<b)<;>cases Gf l own c b<;>cases NG l a b<;>rfl
 |false=>
  rw [if_neg (by decide),List.filter_eq_nil_iff.2]
  · rfl
  · intro b _;simp
theorem kg (k:Nat) (sp:List Value):(List.replicate k [int 0]).flatten++sp.map is=(List.replicate k (Value.int .i64 0)++sp).map is:=by
 rw [List.map_append,List.map_replicate]
 congr 1
 induction k with
 |zero=>rfl
 |succ k ih=>rw [List.replicate_succ,List.flatten_cons,ih,List.replicate_succ];rfl
theorem Pk {l:List Ac} {n:Int} {own:List Int} (hi:EX own l.length) (h0:own≠[]) (hs:own.length<50):BQ prog 72 [Bu l,Dm n own] (DT [lens ((Bx own hi).map DR).length,bool true]) (Bz) (fun v=>DZ 3 1 ((Bx own hi).map DR) (H7 v)):=by
 refine BQ.of func72 rfl rfl (by exact Nb rfl) fun M0 w0 S rs M1 w1=> ?_
 refine Tr.D9 0 rfl fun Dg=> ?_
 refine ac ?_
 refine ap ?_
 refine TO.pad ?_
 refine TO.MK 0 rfl rfl (by decide) (HH rfl rfl (by decide) rfl (NC h0 (by omega)) ⟨ke rfl,trivial⟩) (fun v1=> ?_)
 refine TO.He 0 rfl fun b1 N0 U_ TW L5 hm1 hs1=> ?_
 subst TW
 refine ap ?_
 refine ap ?_
 refine TO.DB 0 rfl rfl (by decide) (AU rfl rfl (by decide) rfl (PU (l:=own) (c:=fun p=>Ar p.1 p.2) (len:=(own.map (fun t:Int=>[int t])).length) (sp:=U_) (fun _ _=>rfl) (List.length_map ..).symm CO.kC (by rw [List.length_map];exact hs)) ⟨(Ka rfl),trivial⟩) ?_
 refine TO.B9 0 rfl fun t1 Fo=> ?_
 have HW:=Fo.len
 have hsp:=H_ CO (by rw [List.length_map] at Fo;exact Fo)
 have hdn:=PW hsp.1 hsp.2
 have kZ:=Fc t1
 have mC:(GJ t1).map (fun t:Int=>[int t])=(Bx own hi).map DR:=by rw [hdn,TE]
 have iP:=congrArg List.length mC
 rw [List.length_map,List.length_map] at iP
 have nu:0<(Bx own hi).length:=List.length_pos_iff.2 (R3 hi h0)
 obtain ⟨a,ha0⟩:=at_ (l:=Bx own hi) (k:=0) nu
 obtain ⟨z,hz⟩:=at_ (l:=Bx own hi) (k:=(Bx own hi).length-1) (by omega)
 have hap:=a.2
 have hzp:=z.2
 refine ap ?_
 refine ap ?_
 refine TO.DB 0 rfl rfl (by decide) (AU rfl rfl (by decide) rfl (PV (l:=t1) (len:=(own.map (fun t:Int=>[int t])).length) (sp:=U_) (HW.trans (List.length_map ..).symm) (by rw [List.length_map];omega) L5 hm1) ⟨(Ka rfl),trivial⟩) ?_
 refine ap ?_
 refine Tr.seq ?_
 refine Tr.jH 0 (((Bx own hi).map DR).flatten++(List.replicate (t1.length-(GJ t1).length) (Value.int .i64 0)++U_).map is) rfl (by rw [mC];congr 1;exact kg _ _) ?_
 have bQ:((Bx own hi).map DR).length≤N0:=by rw [List.length_map] at L5 ⊢;omega
 have ew:(List.replicate (t1.length-(GJ t1).length) (Value.int .i64 0)++U_).length=(N0-((Bx own hi).map DR).length)*1:=by rw [List.length_append,List.length_replicate,hs1,List.length_map,List.length_map];rw [List.length_map] at L5;omega
 have hm2:=hm1
 have YT:((Bx own hi).map DR).length=(Bx own hi).length:=List.length_map ..
 refine Tr.re 6 (p:=is (.slice (some ⟨b1,0,none⟩) ((Bx own hi).map DR).length N0)) rfl (Pr.le_of_eq (by rw [List.length_map,iP])) ?_
 refine ac ?_
 refine co rfl (Dz rfl underlying22 (vl rfl)) ?_
 refine ag ?_ ?_<;>intro h1 q1
 exfalso;omega
 refine DL h1 rfl (cy h1 rfl (AA rfl underlying22 A4 (vl rfl) (vl rfl) (by omega) (by omega)) (cy h1 rfl (As 0 rfl (AS rfl Au (vl rfl) (E9 (f:=DR) (x:=a) (fun _=>rfl) ha0 rfl))) ?_))
 refine ag ?_ ?_<;>intro h2 q2
 refine ac ?_
 refine cy h2 rfl (Dz rfl underlying22 (vl rfl)) ?_
 refine cy h2 rfl (Ff rfl (vl rfl) (vl rfl) ?hin) ?_;case hin=>unfold C7;omega
 refine cy h2 rfl (AA rfl underlying22 A4 (vl rfl) (vl rfl) (by omega) (by omega)) ?_
 refine cy h2 rfl (As 0 rfl (AS rfl Au (vl rfl) (E9 (f:=DR) (x:=z) (fun _=>rfl) (by rw [show ((((Bx own hi).map DR).length:Int)-1).toNat=(Bx own hi).length-1 by omega];exact hz) rfl))) ?_
 refine ac ?_
 refine EK 4 5 rfl (Tr.ret (Fin.drop 1 (Fin.Zd 0 rfl bQ hm2 ew (Fin.dF rfl rfl ?_ (Lr) rfl ?_))))
 · exact fun _ _ _ h=>⟨_,_,h⟩
 · refine bool_eq ?_;simp;omega
 exfalso;omega
theorem Vz {l:List Ac} {n c:Int} {own:List Int} (hN:BO l) (hf:∀f∈l,f.fits) (hc:1≤c∧c≤100) (hi:EX own l.length) (h0:own≠[]) (hs:own.length<50):BT Tryz.prog 34 [Bu l,Dm n own,int c] (DT [HA (EI l own c l.length),int 0]):=by
  refine BT.of Tryz.func34 rfl rfl (by exact Nat.le_of_ble_eq_true rfl) fun M0 w0=> ?_
  haveI:=Classical.propDecidable (BO l)
  have iN:=hN.len
  obtain ⟨ij,iq⟩:=hc
  have hDl:=Vy hi
  have nw:=R3 hi h0
  have nx:=YJ (c:=c) hi
  refine Tr.seq ?_
  refine Tr.Ax ?_
  refine Ch.op rfl rfl (by decide) (E0 rfl (VL.le (vl rfl) (AO _))) ?_
  refine Ch.op rfl rfl (by decide) (E0 rfl (VL.le (vl rfl) (DC _))) ?_
  refine Ch.op rfl rfl (by decide) (E0 rfl (VL.le (vl rfl) (AO _))) ?_
  refine Ch.op rfl rfl (by decide) (A3 rfl (vl rfl)) ?_
  refine Ch.op rfl rfl (by decide) (A3 rfl (vl rfl)) ?_
  refine Ch.nil ?_
  refine Fin.go ?_
  refine Tr.seq ?_
  refine Tr.CA ?_
  refine TO.op rfl rfl (by decide) (Bo rfl IP (vl rfl)) ?_
  refine TO.op rfl rfl (by decide) (Ad rfl Gj GR (vl rfl) rfl rfl) ?_
  refine TO.pad ?_
  refine TO.MK 0 rfl rfl (by decide) (HH rfl rfl (by decide) rfl (Pk (own:=own) hi h0 hs) ⟨⟨_,rfl,Pr.le_refl _⟩,⟨_,rfl,Pr.le_refl _⟩,trivial⟩) (fun v1=> ?_)
  refine TO.dG 18 0 rfl rfl (fun a1=> ?_)
  refine TO.He 0 rfl fun b1 N0 U_ TW L5 hm1 hs1=> ?_
  subst TW
  refine TO.op rfl rfl (by decide) (Al rfl (vl rfl)) ?_
  refine TO.op rfl rfl (by decide) (At rfl (vl rfl) rfl) ?_
  refine TO.op rfl rfl (by decide) (At rfl (vl rfl) rfl) ?_
  refine TO.op rfl rfl (by decide) (A3 rfl (vl rfl)) ?_
  refine TO.op rfl rfl (by decide) (A3 rfl (vl rfl)) ?_
  refine TO.nil ?_
  refine Fin.go ?_
  refine Tr.seq ?_
  refine Tr.block ?_
  refine Tr.seq ?_
  refine Tr.Ax ?_
  refine Ch.op rfl rfl (by decide) (Bo rfl IP (vl rfl)) ?_
  refine Ch.op rfl rfl (by decide) (Ah rfl (C4 (by assumption)) ⟨⟨_,rfl,Pr.le_refl _⟩,trivial⟩) ?_
  refine Ch.op rfl rfl (by decide) (Dt rfl (vl rfl)) ?_
  refine Ch.op rfl rfl (by decide) (A3 rfl (vl rfl)) ?_
  refine Ch.nil ?_
  refine Fin.go ?_
  refine Tr.weak [(3,_),(5,_),(8,_),(9,_),(21,_)] ⟨⟨_,rfl,Pr.le_refl _⟩,⟨_,rfl,Pr.le_refl _⟩,⟨_,rfl,Pr.le_refl _⟩,⟨_,rfl,Pr.le_refl _⟩,⟨_,rfl,Pr.le_refl _⟩,trivial⟩ ?_
  refine Tr.cond rfl (fun h1=> ?_) (fun h1=> ?_)
  ·
    have q1:=EC.FW h1
    exfalso;simp_all
  ·
    have q1:=EC.FW h1
    refine Tr.seq ?_
    refine Tr.Ax ?_
    refine Ch.op rfl rfl (by decide) (Bo rfl Au (vl rfl)) ?_
    refine Ch.op rfl rfl (by decide) (ok_int rfl (vl rfl) (vl rfl) rfl) ?_
    refine Ch.op rfl rfl (by decide) (Al rfl (vl rfl)) ?_
    refine Ch.cases 28 rfl (fun h2=> ?_) (fun h2=> ?_)
    ·
      have q2:=EC.FW h2
      exfalso;omega
    ·
      have q2:=EC.FW h2
      refine Ch.yes rfl rfl rfl h2 rfl (by decide) (Bo rfl Au (vl rfl)) ?_
      refine Ch.yes rfl rfl rfl h2 rfl (by decide) (ok_int rfl (vl rfl) (vl rfl) rfl) ?_
      refine Ch.op rfl rfl (by decide) (Dd rfl (vl rfl) h2 (vl rfl)) ?_
      refine Ch.op rfl rfl (by decide) (A3 rfl (vl rfl)) ?_
      refine Ch.nil ?_
      refine Fin.go ?_
      refine Tr.cond rfl (fun h3=> ?_) (fun h3=> ?_)
      ·
        have q3:=EC.FW h3
        exfalso;omega
      ·
        have q3:=EC.FW h3
        refine Tr.seq ?_
        refine Tr.Ax ?_
        refine Ch.op rfl rfl (by decide) (Al rfl (vl rfl)) ?_
        refine Ch.op rfl rfl (by decide) (Dt rfl (vl rfl)) ?_
        refine Ch.op rfl rfl (by decide) (A3 rfl (vl rfl)) ?_
        refine Ch.nil ?_
        refine Fin.go ?_
        refine Tr.weak [(3,_),(5,_),(8,_),(32,_)] ⟨⟨_,rfl,Pr.le_refl _⟩,⟨_,rfl,Pr.le_refl _⟩,⟨_,rfl,Pr.le_refl _⟩,⟨_,rfl,Pr.le_refl _⟩,trivial⟩ ?_
        refine Tr.cond rfl (fun h4=> ?_) (fun h4=> ?_)
        ·
          have q4:=EC.FW h4
          exfalso;simp_all
        ·
          have q4:=EC.FW h4
          refine Tr.skip ?_
          refine Fin.block ?_
          refine Fin.go ?_
          refine Tr.seq ?_
          refine Tr.CA ?_
          refine TO.op rfl rfl (by decide) (Al rfl (vl rfl)) ?_
          refine TO.op rfl rfl (by decide) (FR rfl rfl) ?_
          refine TO.DB 0 rfl rfl (by decide) (AU rfl rfl (by decide) rfl (So (l:=Bx own hi) (p:=fun x=>decide ((Is l x).B5<c)) (sp:=U_) nw L5 hm1 hs1) ⟨⟨_,rfl,ET _ _⟩,⟨_,rfl,Bi Rs (fun x=>Rr (l:=l) (c:=c) (x:=x))⟩,trivial⟩) ?_
          refine TO.op rfl rfl (by decide) (A3 rfl (vl rfl)) ?_
          refine TO.nil ?_
          refine Fin.go ?_
          refine Tr.seq ?_
          have JB:=VI l c (Bx own hi)
          have mD:((B7 l c (Bx own hi)).map DR).length≤N0:=by rw [List.length_map] at L5 ⊢;omega
          refine Tr.K3 (sz:=1) ((B7 l c (Bx own hi)).map DR) 0 8 rfl rfl (Pr.le_refl _) (A8 fun _=>rfl) mD hm1 (by rw [List.length_map] at hs1 mD ⊢;rw [List.length_append,List.length_map,hs1,Bt (sz:=1) (fun r hr=>by rw [List.eq_of_mem_replicate hr];rfl),List.length_replicate];show ((Bx own hi).length-(B7 l c (Bx own hi)).length)*1+_=_;rw [List.length_map] at L5;omega) ?_
          refine Tr.Ax ?_
          refine Ch.op rfl rfl (by decide) (A3 rfl (vl rfl)) ?_
          refine Ch.nil ?_
          refine Fin.go ?_
          refine Tr.seq ?_
          refine Tr.seq ?_
          refine Tr.Ax ?_
          refine Ch.op rfl rfl (by decide) (Al rfl (vl rfl)) ?_
          first
            |refine Ch.op rfl rfl (by decide) (CV rfl Tryz.underlying22 ⟨_,rfl,BL _ _⟩) ?_
            |refine Ch.op rfl rfl (by decide) (Gw rfl Tryz.underlying22 ⟨_,rfl,BL _ _⟩) ?_
          refine Ch.op rfl rfl (by decide) (Al rfl (vl rfl)) ?_
          refine Ch.nil ?_
          refine Fin.go ?_
          refine Tr.block ?_
          refine Tr.GP 121 2 ?_
          refine Tr.Hq [(3,_),(8,_),(38,_),(39,_)] ⟨⟨_,rfl,Pr.le_refl _⟩,⟨_,rfl,Pr.le_refl _⟩,⟨_,rfl,Pr.le_refl _⟩,⟨_,rfl,Pr.le_refl _⟩,trivial⟩ (fun k v=>[(40,int ((k:Nat):Int)),(10,BB v (HA (Hg l (B7 l c (Bx own hi)) k)))]) (fun k v=>Hp M0 w0 Je ([BX 121 2 v,BX 3 1 (.slice (some ⟨b1,0,none⟩) ((B7 l c (Bx own hi)).map DR).length N0)])) (fun k:Nat=>k≤((B7 l c (Bx own hi))).length) (fun k:Nat=>((B7 l c (Bx own hi))).length-k) 0 (.slice none 0 0) (Nat.zero_le _) ⟨⟨_,rfl,Pr.le_refl _⟩,⟨_,rfl,FV rfl⟩,trivial⟩ (fun _ _ h=>h) ?_
          rintro k v Cb
          refine Tr.seq ?_
          refine Tr.Ax ?_
          refine Ch.op rfl rfl (by decide) (ok_int rfl (vl rfl) (vl rfl) rfl) ?_
          refine Ch.nil ?_
          refine Fin.go ?_
          refine Tr.seq ?_
          refine Tr.cond rfl (fun h5=> ?_) (fun h5=> ?_)
          ·
            have q5:=EC.FW h5
            have Az:k<((B7 l c (Bx own hi))).length:=Ak h5
            obtain ⟨i,A7⟩:=at_ Az
            have hip:=i.2
            have bz:=Mu l (B7 l c (Bx own hi)) k
            have hkk:k*(B7 l c (Bx own hi)).length≤50*50:=Nat.mul_le_mul (by omega) (by omega)
            refine Tr.skip ?_
            refine Fin.go ?_
            refine Tr.seq ?_
            refine Tr.block ?_
            refine Tr.seq ?_
            refine Tr.Ax ?_
            refine Ch.op rfl rfl (by decide) (Al rfl (vl rfl)) ?_
            refine Ch.op rfl rfl (by decide) (AB rfl Tryz.underlying22 A4 ⟨_,rfl,BL _ _⟩ (vl rfl) (by omega) (Am A7)) ?_
            refine Ch.op rfl rfl (by decide) (Bo rfl Au (vl rfl)) ?_
            refine Ch.op rfl rfl (by decide) (A3 rfl (vl rfl)) ?_
            refine Ch.op rfl rfl (by decide) (A3 rfl (vl rfl)) ?_
            refine Ch.nil ?_
            refine Fin.go ?_
            refine Tr.seq ?_
            refine Tr.Ax ?_
            refine Ch.op rfl rfl (by decide) (Al rfl (vl rfl)) ?_
            refine Ch.op rfl rfl (by decide) (Al rfl (vl rfl)) ?_
            first
              |(refine Ch.op rfl rfl (by decide) (BR rfl (vl rfl) (vl rfl) ?hin) ?_;case hin=>unfold C7;omega)
              |refine Ch.op rfl rfl (by decide) (ok_int rfl (vl rfl) (vl rfl) rfl) ?_
            refine Ch.op rfl rfl (by decide) (BH rfl Tryz.underlying22 A4 ⟨_,rfl,BL _ _⟩ (vl rfl) (by omega) (by first|omega|(simp;omega))) ?_
            first
              |refine Ch.op rfl rfl (by decide) (CV rfl Tryz.underlying22 (vl rfl)) ?_
              |refine Ch.op rfl rfl (by decide) (Gw rfl Tryz.underlying22 (vl rfl)) ?_
            refine Ch.op rfl rfl (by decide) (Al rfl (vl rfl)) ?_
            refine Ch.nil ?_
            refine Fin.go ?_
            refine Tr.weak [(3,_),(8,_),(10,_),(12,_),(38,_),(39,_),(40,_),(48,_),(49,_),(50,_)] ⟨⟨_,rfl,Pr.le_refl _⟩,⟨_,rfl,Pr.le_refl _⟩,⟨_,rfl,Pr.le_refl _⟩,⟨_,rfl,Pr.le_refl _⟩,⟨_,rfl,Pr.le_refl _⟩,⟨_,rfl,Pr.le_refl _⟩,⟨_,rfl,Pr.le_refl _⟩,⟨_,rfl,Pr.le_refl _⟩,⟨_,rfl,Pr.le_refl _⟩,⟨_,rfl,Pr.le_refl _⟩,trivial⟩ ?_
            refine Tr.block ?_
            refine Tr.re 48 rfl (Pr.le_of_eq (Sr _ _)) ?_
            refine Tr.re 49 rfl (int_eq (VJ _ _)) ?_
            refine Tr.Hq [(3,_),(8,_),(12,_),(38,_),(39,_),(40,_),(48,_),(49,_)] ⟨⟨_,rfl,Pr.le_refl _⟩,⟨_,rfl,Pr.le_refl _⟩,⟨_,rfl,Pr.le_refl _⟩,⟨_,rfl,Pr.le_refl _⟩,⟨_,rfl,Pr.le_refl _⟩,⟨_,rfl,Pr.le_refl _⟩,⟨_,rfl,Pr.le_refl _⟩,⟨_,rfl,Pr.le_refl _⟩,trivial⟩ (fun j u=>[(50,int ((j:Nat):Int)),(10,BB u (HA (Hg l (B7 l c (Bx own hi)) k++It l i (((B7 l c (Bx own hi)).drop (k+1)).take j))))]) (fun j u=>Hp M0 w0 Je ([BX 121 2 u,BX 3 1 (.slice (some ⟨b1,0,none⟩) ((B7 l c (Bx own hi)).map DR).length N0)])) (fun j:Nat=>j≤(((B7 l c (Bx own hi)).drop (k+1))).length) (fun j:Nat=>(((B7 l c (Bx own hi)).drop (k+1))).length-j) 0 v (Nat.zero_le _) ⟨⟨_,rfl,Pr.le_refl _⟩,⟨_,rfl,Bs (by simp [It])⟩,trivial⟩ (fun _ _ h=>h) ?_
            rintro j u e_
            refine Tr.seq ?_
            refine Tr.Ax ?_
            refine Ch.op rfl rfl (by decide) (ok_int rfl (vl rfl) (vl rfl) rfl) ?_
            refine Ch.nil ?_
            refine Fin.go ?_
            refine Tr.seq ?_
            refine Tr.cond rfl (fun h6=> ?_) (fun h6=> ?_)
            ·
              have q6:=EC.FW h6
              have O6:j<(((B7 l c (Bx own hi)).drop (k+1))).length:=Ak h6
              obtain ⟨y,Xm⟩:=at_ O6
              have bS:((B7 l c (Bx own hi)).drop (k+1)).length≤50:=by simp;omega
              have hyp:=y.2
              have hct:=O_ l i (((B7 l c (Bx own hi)).drop (k+1)).take j)
              have ny:(((B7 l c (Bx own hi)).drop (k+1)).take j).length≤50:=by simp;omega
              have hst:=Sq (i:=i) Xm
              refine Tr.skip ?_
              refine Fin.go ?_
              refine Tr.seq ?_
              refine Tr.block ?_
              refine Tr.seq ?_
              refine Tr.Ax ?_
              refine Ch.op rfl rfl (by decide) (AB rfl Tryz.underlying22 A4 (vl rfl) (vl rfl) (by omega) (Am Xm)) ?_
              refine Ch.op rfl rfl (by decide) (Bo rfl Au (vl rfl)) ?_
              refine Ch.op rfl rfl (by decide) (A3 rfl (vl rfl)) ?_
              refine Ch.nil ?_
              refine Fin.go ?_
              refine Tr.weak [(3,_),(8,_),(10,_),(12,_),(14,_),(38,_),(39,_),(40,_),(48,_),(49,_),(50,_)] ⟨⟨_,rfl,Pr.le_refl _⟩,⟨_,rfl,Pr.le_refl _⟩,⟨_,rfl,Pr.le_refl _⟩,⟨_,rfl,Pr.le_refl _⟩,⟨_,rfl,Pr.le_refl _⟩,⟨_,rfl,Pr.le_refl _⟩,⟨_,rfl,Pr.le_refl _⟩,⟨_,rfl,Pr.le_refl _⟩,⟨_,rfl,Pr.le_refl _⟩,⟨_,rfl,Pr.le_refl _⟩,⟨_,rfl,Pr.le_refl _⟩,trivial⟩ ?_
              refine Tr.seq ?_
              refine Tr.HT mixed (by kernel_rfl) ?_
              refine Ch.op rfl rfl (by decide) (Bo rfl IP (vl rfl)) ?_
              refine Ch.op rfl rfl (by decide) (Al rfl (vl rfl)) ?_
              refine Ch.op rfl rfl (by decide) (AB rfl Tryz.underlying31 AY (vl rfl) (vl rfl) (by omega) (A_ (FB l i))) ?_
              refine Ch.op rfl rfl (by decide) (Ad rfl BE AY (vl rfl) rfl rfl) ?_
              refine Ch.op rfl rfl (by decide) (Ah rfl (C5) ⟨⟨_,rfl,Pr.le_refl _⟩,trivial⟩) ?_
              refine Ch.op rfl rfl (by decide) (Bo rfl IP (vl rfl)) ?_
              refine Ch.op rfl rfl (by decide) (Al rfl (vl rfl)) ?_
              refine Ch.op rfl rfl (by decide) (AB rfl Tryz.underlying31 AY (vl rfl) (vl rfl) (by omega) (A_ (FB l y))) ?_
              refine Ch.op rfl rfl (by decide) (Ad rfl BE AY (vl rfl) rfl rfl) ?_
              refine Ch.op rfl rfl (by decide) (Ah rfl (C5) ⟨⟨_,rfl,Pr.le_refl _⟩,trivial⟩) ?_
              refine Ch.op rfl rfl (by decide) (UY rfl (vl rfl) (vl rfl)) ?_
              refine Ch.op rfl rfl (by decide) (Al rfl (vl rfl)) ?_
              refine Ch.cases 65 rfl (fun h7=> ?_) (fun h7=> ?_)
              ·
                have q7:=EC.FW h7
                refine Ch.yes rfl rfl rfl h7 rfl (by decide) (Bo rfl IP (vl rfl)) ?_
                refine Ch.yes rfl rfl rfl h7 rfl (by decide) (Al rfl (vl rfl)) ?_
                refine Ch.yes rfl rfl rfl h7 rfl (by decide) (AB rfl Tryz.underlying31 AY (vl rfl) (vl rfl) (by omega) (A_ (FB l i))) ?_
                refine Ch.yes rfl rfl rfl h7 rfl (by decide) (Ct rfl NU (vl rfl) rfl) ?_
                refine Ch.yes rfl rfl rfl h7 rfl (by decide) (Bo rfl Au (vl rfl)) ?_
                refine Ch.yes rfl rfl rfl h7 rfl (by decide) (Bo rfl IP (vl rfl)) ?_
                refine Ch.yes rfl rfl rfl h7 rfl (by decide) (Al rfl (vl rfl)) ?_
                refine Ch.yes rfl rfl rfl h7 rfl (by decide) (AB rfl Tryz.underlying31 AY (vl rfl) (vl rfl) (by omega) (A_ (FB l y))) ?_
                refine Ch.yes rfl rfl rfl h7 rfl (by decide) (Ct rfl NU (vl rfl) rfl) ?_
                refine Ch.yes rfl rfl rfl h7 rfl (by decide) (Bo rfl Au (vl rfl)) ?_
                refine Ch.yes rfl rfl rfl h7 rfl (by decide) (ok_int rfl (vl rfl) (vl rfl) rfl) ?_
                refine Ch.op rfl rfl (by decide) (Fw rfl (vl rfl) h7 (vl rfl)) ?_
                refine Ch.op rfl rfl (by decide) (Al rfl (vl rfl)) ?_
                refine Ch.cases 78 rfl (fun h8=> ?_) (fun h8=> ?_)
                ·
                  have q8:=EC.FW h8
                  refine Ch.yes rfl rfl rfl h8 rfl (by decide) (Bo rfl IP (vl rfl)) ?_
                  refine Ch.yes rfl rfl rfl h8 rfl (by decide) (Al rfl (vl rfl)) ?_
                  refine Ch.yes rfl rfl rfl h8 rfl (by decide) (AB rfl Tryz.underlying31 AY (vl rfl) (vl rfl) (by omega) (A_ (FB l i))) ?_
                  refine Ch.yes rfl rfl rfl h8 rfl (by decide) (Ad rfl BE AY (vl rfl) rfl rfl) ?_
                  refine Ch.yes rfl rfl rfl h8 rfl (by decide) (Bo rfl IP (vl rfl)) ?_
                  refine Ch.yes rfl rfl rfl h8 rfl (by decide) (Al rfl (vl rfl)) ?_
                  refine Ch.yes rfl rfl rfl h8 rfl (by decide) (AB rfl Tryz.underlying31 AY (vl rfl) (vl rfl) (by omega) (A_ (FB l y))) ?_
                  refine Ch.yes rfl rfl rfl h8 rfl (by decide) (Ad rfl BE AY (vl rfl) rfl rfl) ?_
                  refine Ch.yes rfl rfl rfl h8 rfl (by decide) (Ah rfl (VK) ⟨⟨_,rfl,Pr.le_refl _⟩,⟨_,rfl,Pr.le_refl _⟩,trivial⟩) ?_
                  refine Ch.op rfl rfl (by decide) (Fw rfl (vl rfl) h8 (vl rfl)) ?_
                  refine Ch.nil ?_
                  refine Fin.go ?_
                  refine Tr.weak [(3,_),(8,_),(10,_),(12,_),(14,_),(38,_),(39,_),(40,_),(48,_),(49,_),(50,_),(88,_)] ⟨⟨_,rfl,Pr.le_refl _⟩,⟨_,rfl,Pr.le_refl _⟩,⟨_,rfl,Pr.le_refl _⟩,⟨_,rfl,Pr.le_refl _⟩,⟨_,rfl,Pr.le_refl _⟩,⟨_,rfl,Pr.le_refl _⟩,⟨_,rfl,Pr.le_refl _⟩,⟨_,rfl,Pr.le_refl _⟩,⟨_,rfl,Pr.le_refl _⟩,⟨_,rfl,Pr.le_refl _⟩,⟨_,rfl,Pr.le_refl _⟩,⟨_,rfl,Pr.le_refl _⟩,trivial⟩ ?_
                  refine Tr.cond rfl (fun h9=> ?_) (fun h9=> ?_)
                  ·
                    have q9:=EC.FW h9
                    refine Tr.CA ?_
                    refine TO.op rfl rfl (by decide) (Al rfl (vl rfl)) ?_
                    refine TO.op rfl rfl (by decide) (Al rfl (vl rfl)) ?_
                    refine TO.op rfl rfl (by decide) (Al rfl (vl rfl)) ?_
                    refine TO.op rfl rfl (by decide) (BS (rows:=[(0,[_]),(1,[_])]) rfl Ya T8 ⟨⟨rfl,(VL.le (vl rfl) (AO _))⟩,⟨⟨rfl,(VL.le (vl rfl) (AO _))⟩,trivial⟩⟩ rfl) ?_
                    refine TO.op rfl rfl (by decide) (AM (xs:=[.tmp 92]) (rows:=[_]) rfl rfl Tryz.underlying66 Kx W0 rfl (by decide) ⟨⟨(by exact rfl),(VL.le (vl rfl) (DC _))⟩,trivial⟩ (by decide)) ?_
                    refine TO.MK 0 rfl rfl (by decide) (An rfl rfl (by decide) rfl Tryz.underlying66 Kx YZ W0 rfl (by decide) ⟨_,rfl,BL _ _⟩ ⟨_,rfl,Bh _ _⟩ (by simp only [List.length_map,List.length_append,List.length_cons,List.length_nil];unfold maxLen;omega) (by simp only [List.length_map,List.length_append,List.length_cons,List.length_nil];omega) (GO (by exact List.Mem.head _) ⟨_,rfl,ET _ _⟩)) (fun v2=> ?_)
                    refine TO.op rfl rfl (by decide) (A3 rfl (vl rfl)) ?_
                    refine TO.nil ?_
                    refine Fin.block ?_
                    refine Fin.go ?_
                    refine Tr.weak [(3,_),(8,_),(10,_),(12,_),(38,_),(39,_),(40,_),(48,_),(49,_),(50,_)] ⟨⟨_,rfl,Pr.le_refl _⟩,⟨_,rfl,Pr.le_refl _⟩,⟨_,rfl,Pr.le_refl _⟩,⟨_,rfl,Pr.le_refl _⟩,⟨_,rfl,Pr.le_refl _⟩,⟨_,rfl,Pr.le_refl _⟩,⟨_,rfl,Pr.le_refl _⟩,⟨_,rfl,Pr.le_refl _⟩,⟨_,rfl,Pr.le_refl _⟩,⟨_,rfl,Pr.le_refl _⟩,trivial⟩ ?_
                    refine Tr.Ax ?_
                    first
                      |(refine Ch.op rfl rfl (by decide) (BR rfl (vl rfl) (vl rfl) ?hin) ?_;case hin=>unfold C7;omega)
                      |refine Ch.op rfl rfl (by decide) (ok_int rfl (vl rfl) (vl rfl) rfl) ?_
                    refine Ch.op rfl rfl (by decide) (Al rfl (vl rfl)) ?_
                    refine Ch.nil ?_
                    first
                      | (have JW : D6 l i y = true := by (rw [Dk]; simp_all; done)
                         rw [JW] at hst)
                      | (have JW : D6 l i y = false := by (rw [← Bool.not_eq_true, Dk]; simp_all; done)
                         rw [JW] at hst)
                    exact Fin.DP (j+1) v2 (⟨O6,by omega⟩) ⟨⟨_,rfl,AJ j⟩,⟨_,rfl,Bs (by rw [hst];first|(simp;done)|(rw [if_pos rfl];simp only [List.map_append,List.append_assoc];rfl))⟩,⟨_,rfl,Pr.le_refl _⟩,⟨_,rfl,Pr.le_refl _⟩,⟨_,rfl,Pr.le_refl _⟩,⟨_,rfl,Pr.le_refl _⟩,⟨_,rfl,Pr.le_refl _⟩,⟨_,rfl,Pr.le_refl _⟩,⟨_,rfl,Pr.le_refl _⟩,⟨_,rfl,Pr.le_refl _⟩,trivial⟩ (fun _ _ h=>h)
                  ·
                    have q9:=EC.FW h9
                    refine Tr.skip ?_
                    refine Fin.block ?_
                    refine Fin.go ?_
                    refine Tr.Ax ?_
                    first
                      |(refine Ch.op rfl rfl (by decide) (BR rfl (vl rfl) (vl rfl) ?hin) ?_;case hin=>unfold C7;omega)
                      |refine Ch.op rfl rfl (by decide) (ok_int rfl (vl rfl) (vl rfl) rfl) ?_
                    refine Ch.op rfl rfl (by decide) (Al rfl (vl rfl)) ?_
                    refine Ch.nil ?_
                    first
                      | (have JW : D6 l i y = true := by (rw [Dk]; simp_all; done)
                         rw [JW] at hst)
                      | (have JW : D6 l i y = false := by (rw [← Bool.not_eq_true, Dk]; simp_all; done)
                         rw [JW] at hst)
                    exact Fin.DP (j+1) u (⟨O6,by omega⟩) ⟨⟨_,rfl,AJ j⟩,⟨_,rfl,Bs (by rw [hst];first|(simp;done)|(rw [if_pos rfl];simp only [List.map_append,List.append_assoc];rfl))⟩,⟨_,rfl,Pr.le_refl _⟩,⟨_,rfl,Pr.le_refl _⟩,⟨_,rfl,Pr.le_refl _⟩,⟨_,rfl,Pr.le_refl _⟩,⟨_,rfl,Pr.le_refl _⟩,⟨_,rfl,Pr.le_refl _⟩,⟨_,rfl,Pr.le_refl _⟩,⟨_,rfl,Pr.le_refl _⟩,trivial⟩ (fun _ _ h=>h)
                ·
                  have q8:=EC.FW h8
                  refine Ch.no rfl rfl rfl (Bv h8) rfl (by decide) ?_
                  refine Ch.no rfl rfl rfl (Bv h8) rfl (by decide) ?_
                  refine Ch.no rfl rfl rfl (Bv h8) rfl (by decide) ?_
                  refine Ch.no rfl rfl rfl (Bv h8) rfl (by decide) ?_
                  refine Ch.no rfl rfl rfl (Bv h8) rfl (by decide) ?_
                  refine Ch.no rfl rfl rfl (Bv h8) rfl (by decide) ?_
                  refine Ch.no rfl rfl rfl (Bv h8) rfl (by decide) ?_
                  refine Ch.no rfl rfl rfl (Bv h8) rfl (by decide) ?_
                  refine Ch.no rfl rfl rfl (Bv h8) rfl (by decide) ?_
                  refine Ch.op rfl rfl (by decide) (Dd rfl (vl rfl) h8 (vl rfl)) ?_
                  refine Ch.nil ?_
                  refine Fin.go ?_
                  refine Tr.weak [(3,_),(8,_),(10,_),(12,_),(14,_),(38,_),(39,_),(40,_),(48,_),(49,_),(50,_),(88,_)] ⟨⟨_,rfl,Pr.le_refl _⟩,⟨_,rfl,Pr.le_refl _⟩,⟨_,rfl,Pr.le_refl _⟩,⟨_,rfl,Pr.le_refl _⟩,⟨_,rfl,Pr.le_refl _⟩,⟨_,rfl,Pr.le_refl _⟩,⟨_,rfl,Pr.le_refl _⟩,⟨_,rfl,Pr.le_refl _⟩,⟨_,rfl,Pr.le_refl _⟩,⟨_,rfl,Pr.le_refl _⟩,⟨_,rfl,Pr.le_refl _⟩,⟨_,rfl,Pr.le_refl _⟩,trivial⟩ ?_
                  refine Tr.cond rfl (fun h=>nomatch h) (fun _=> ?_)
                  refine Tr.skip ?_
                  refine Fin.block ?_
                  refine Fin.go ?_
                  refine Tr.Ax ?_
                  first
                    |(refine Ch.op rfl rfl (by decide) (BR rfl (vl rfl) (vl rfl) ?hin) ?_;case hin=>unfold C7;omega)
                    |refine Ch.op rfl rfl (by decide) (ok_int rfl (vl rfl) (vl rfl) rfl) ?_
                  refine Ch.op rfl rfl (by decide) (Al rfl (vl rfl)) ?_
                  refine Ch.nil ?_
                  first
                    | (have JW : D6 l i y = true := by (rw [Dk]; simp_all; done)
                       rw [JW] at hst)
                    | (have JW : D6 l i y = false := by (rw [← Bool.not_eq_true, Dk]; simp_all; done)
                       rw [JW] at hst)
                  exact Fin.DP (j+1) u (⟨O6,by omega⟩) ⟨⟨_,rfl,AJ j⟩,⟨_,rfl,Bs (by rw [hst];first|(simp;done)|(rw [if_pos rfl];simp only [List.map_append,List.append_assoc];rfl))⟩,⟨_,rfl,Pr.le_refl _⟩,⟨_,rfl,Pr.le_refl _⟩,⟨_,rfl,Pr.le_refl _⟩,⟨_,rfl,Pr.le_refl _⟩,⟨_,rfl,Pr.le_refl _⟩,⟨_,rfl,Pr.le_refl _⟩,⟨_,rfl,Pr.le_refl _⟩,⟨_,rfl,Pr.le_refl _⟩,trivial⟩ (fun _ _ h=>h)
              ·
                have q7:=EC.FW h7
                refine Ch.no rfl rfl rfl (Bv h7) rfl (by decide) ?_
                refine Ch.no rfl rfl rfl (Bv h7) rfl (by decide) ?_
                refine Ch.no rfl rfl rfl (Bv h7) rfl (by decide) ?_
                refine Ch.no rfl rfl rfl (Bv h7) rfl (by decide) ?_
                refine Ch.no rfl rfl rfl (Bv h7) rfl (by decide) ?_
                refine Ch.no rfl rfl rfl (Bv h7) rfl (by decide) ?_
                refine Ch.no rfl rfl rfl (Bv h7) rfl (by decide) ?_
                refine Ch.no rfl rfl rfl (Bv h7) rfl (by decide) ?_
                refine Ch.no rfl rfl rfl (Bv h7) rfl (by decide) ?_
                refine Ch.no rfl rfl rfl (Bv h7) rfl (by decide) ?_
                refine Ch.no rfl rfl rfl (Bv h7) rfl (by decide) ?_
                refine Ch.op rfl rfl (by decide) (Dd rfl (vl rfl) h7 (vl rfl)) ?_
                refine Ch.op rfl rfl (by decide) (Al rfl (vl rfl)) ?_
                refine Ch.no rfl rfl rfl (by decide) rfl (by decide) ?_
                refine Ch.no rfl rfl rfl (by decide) rfl (by decide) ?_
                refine Ch.no rfl rfl rfl (by decide) rfl (by decide) ?_
                refine Ch.no rfl rfl rfl (by decide) rfl (by decide) ?_
                refine Ch.no rfl rfl rfl (by decide) rfl (by decide) ?_
                refine Ch.no rfl rfl rfl (by decide) rfl (by decide) ?_
                refine Ch.no rfl rfl rfl (by decide) rfl (by decide) ?_
                refine Ch.no rfl rfl rfl (by decide) rfl (by decide) ?_
                refine Ch.no rfl rfl rfl (by decide) rfl (by decide) ?_
                refine Ch.op rfl rfl (by decide) (Dd rfl (vl rfl) rfl (vl rfl)) ?_
                refine Ch.nil ?_
                refine Fin.go ?_
                refine Tr.weak [(3,_),(8,_),(10,_),(12,_),(14,_),(38,_),(39,_),(40,_),(48,_),(49,_),(50,_),(88,_)] ⟨⟨_,rfl,Pr.le_refl _⟩,⟨_,rfl,Pr.le_refl _⟩,⟨_,rfl,Pr.le_refl _⟩,⟨_,rfl,Pr.le_refl _⟩,⟨_,rfl,Pr.le_refl _⟩,⟨_,rfl,Pr.le_refl _⟩,⟨_,rfl,Pr.le_refl _⟩,⟨_,rfl,Pr.le_refl _⟩,⟨_,rfl,Pr.le_refl _⟩,⟨_,rfl,Pr.le_refl _⟩,⟨_,rfl,Pr.le_refl _⟩,⟨_,rfl,Pr.le_refl _⟩,trivial⟩ ?_
                refine Tr.cond rfl (fun h=>nomatch h) (fun _=> ?_)
                refine Tr.skip ?_
                refine Fin.block ?_
                refine Fin.go ?_
                refine Tr.Ax ?_
                first
                  |(refine Ch.op rfl rfl (by decide) (BR rfl (vl rfl) (vl rfl) ?hin) ?_;case hin=>unfold C7;omega)
                  |refine Ch.op rfl rfl (by decide) (ok_int rfl (vl rfl) (vl rfl) rfl) ?_
                refine Ch.op rfl rfl (by decide) (Al rfl (vl rfl)) ?_
                refine Ch.nil ?_
                first
                  | (have JW : D6 l i y = true := by (rw [Dk]; simp_all; done)
                     rw [JW] at hst)
                  | (have JW : D6 l i y = false := by (rw [← Bool.not_eq_true, Dk]; simp_all; done)
                     rw [JW] at hst)
                exact Fin.DP (j+1) u (⟨O6,by omega⟩) ⟨⟨_,rfl,AJ j⟩,⟨_,rfl,Bs (by rw [hst];first|(simp;done)|(rw [if_pos rfl];simp only [List.map_append,List.append_assoc];rfl))⟩,⟨_,rfl,Pr.le_refl _⟩,⟨_,rfl,Pr.le_refl _⟩,⟨_,rfl,Pr.le_refl _⟩,⟨_,rfl,Pr.le_refl _⟩,⟨_,rfl,Pr.le_refl _⟩,⟨_,rfl,Pr.le_refl _⟩,⟨_,rfl,Pr.le_refl _⟩,⟨_,rfl,Pr.le_refl _⟩,trivial⟩ (fun _ _ h=>h)
            ·
              have q6:=EC.FW h6
              have Z4:j=(((B7 l c (Bx own hi)).drop (k+1))).length:=by have:=Ao h6;omega
              subst Z4
              rw [List.take_length]
              refine Tr.exit ?_
              refine Fin.AG ?_
              refine Fin.AG ?_
              refine Fin.AP ?_
              refine Fin.block ?_
              refine Fin.go ?_
              refine Tr.Ax ?_
              first
                |(refine Ch.op rfl rfl (by decide) (BR rfl (vl rfl) (vl rfl) ?hin) ?_;case hin=>unfold C7;omega)
                |refine Ch.op rfl rfl (by decide) (ok_int rfl (vl rfl) (vl rfl) rfl) ?_
              refine Ch.op rfl rfl (by decide) (Al rfl (vl rfl)) ?_
              refine Ch.nil ?_
              exact Fin.DP (k+1) u (⟨Az,by omega⟩) ⟨⟨_,rfl,AJ k⟩,⟨_,rfl,Bs (by rw [O9 A7])⟩,⟨_,rfl,Pr.le_refl _⟩,⟨_,rfl,Pr.le_refl _⟩,⟨_,rfl,Pr.le_refl _⟩,⟨_,rfl,Pr.le_refl _⟩,trivial⟩ (fun _ _ h=>h)
          ·
            have q5:=EC.FW h5
            have B2:k=((B7 l c (Bx own hi))).length:=by have:=Ao h5;omega
            subst B2
            refine Tr.exit ?_
            refine Fin.AG ?_
            refine Fin.AG ?_
            refine Fin.AP ?_
            refine Fin.go ?_
            refine Tr.seq ?_
            refine Tr.Ax ?_
            refine Ch.op rfl rfl (by decide) (Al rfl (vl rfl)) ?_
            refine Ch.op rfl rfl (by decide) (A3 rfl (vl rfl)) ?_
            refine Ch.op rfl rfl (by decide) (A3 rfl (vl rfl)) ?_
            refine Ch.nil ?_
            refine Fin.go ?_
            refine Tr.ret ?_
            refine Fin.Cq rfl (Ba.Cz _ _) rfl ?_ rfl ?_
            · exact Pr.le_trans (BL _ _) (Pr.le_of_eq (by rw [nx]))
            · first|exact Pr.le_refl _|(refine int_eq ?_;simp_all;done)|(refine bool_eq ?_;simp_all;done)|(refine bool_eq ?_;simp_all;omega)|(refine int_eq ?_;omega)
theorem aO {d:Nat} {w:World} {x0 y0:Int} {x1 y1:Int}:(Op.equalIn (d+2) 121 (.agg #[.int .i64 x0,.int .i64 x1]) (.agg #[.int .i64 y0,.int .i64 y1])).run Tryz.prog w= .ok (decide (x0=y0∧x1=y1)) w:=by
 have h:=cv (w:=w) (d:=d+1) (xs:= #[.int .i64 x0,.int .i64 x1]) (ys:= #[.int .i64 y0,.int .i64 y1]) Tryz.underlying121 (by kernel_rfl) (Be (by decide) (Ag Au rfl) (Ag Au rfl) (Ck (d:=d+0) Tryz.underlying3) (Be (by decide) (Ag Au rfl) (Ag Au rfl) (Ck (d:=d+0) Tryz.underlying3) (IW)))
 refine h.trans (congrArg (fun b=>Result.ok b w) ?_)
 rw [Bool.eq_iff_iff];simp [and_assoc]
theorem V0 {E:Env} {I:CL} {o:Oper} {u:TypeId} {x y:Operand} {x0 y0:Int} {x1 y1:Int} (ho:o.op= .binOp .neq 121 x y u) (hx:VL E x (agg [is (.int .i64 x0),is (.int .i64 x1)])) (hy:VL E y (agg [is (.int .i64 y0),is (.int .i64 y1)])):Ab Tryz.prog I o E (bool (!decide (x0=y0∧x1=y1))):=
 IV [.int .i64 x0,.int .i64 x1] [.int .i64 y0,.int .i64 y1] ho hx hy (by kernel_rfl) (fun w=>by rw [show Op.equal 121 _ _=Op.equalIn (9998+2) 121 _ _ from rfl];exact aO)
abbrev I2 (p:List Bool):List Pr:=p.map bool
def D4 (own:List Int) (n k:Nat):List Bool:=(List.range n).map fun j=>(own.take k).any fun y=>y==((j:Nat):Int)
theorem Dl (own:List Int) (n k:Nat):(D4 own n k).length=n:=by unfold D4;rw [List.length_map,List.length_range]
theorem Qv (own:List Int) (n:Nat):(List.replicate n (Value.bool false)).map is=I2 (D4 own n 0):=by
 unfold I2 D4
 rw [List.map_map,List.map_replicate]
 symm;rw [List.eq_replicate_iff]
 exact ⟨by simp,fun b hb=>by rw [List.mem_map] at hb;obtain ⟨j,_,rfl⟩:=hb;rfl⟩
theorem HE {own:List Int} {n k j:Nat} (h:j<n):(D4 own n k)[j]? =some ((own.take k).any fun y=>y==((j:Nat):Int)):=by
 unfold D4;rw [List.getElem?_map,List.getElem?_range h];rfl
theorem Pm {own:List Int} {n k:Nat} {a:Int} (ha:own[k]? =some a) (h0:0≤a) (hn:a<(n:Int)):(I2 (D4 own n k)).take (0+a.toNat*1)++[bool true]++(I2 (D4 own n k)).drop (0+a.toNat*1+1)=I2 (D4 own n (k+1)):=by
 rw [Nat.zero_add,Nat.mul_one]
 have e1:(I2 (D4 own n k)).take a.toNat++[bool true]++(I2 (D4 own n k)).drop (a.toNat+1)=(I2 (D4 own n k)).set a.toNat (bool true):=by
  rw [List.set_eq_take_append_cons_drop,if_pos (by unfold I2;rw [List.length_map,Dl];omega)];simp
 rw [e1]
 unfold I2
 rw [←List.map_set]
 congr 1
 refine List.ext_getElem? fun j=> ?_
 rw [List.getElem?_set]
 by_cases hj:a.toNat=j
 ·
  rw [if_pos hj,if_pos (by rw [Dl];omega),HE (by omega),D3 _ ha]
  rw [show (a==((j:Nat):Int))=true by rw [beq_iff_eq];omega,Bool.or_true]
 ·
  rw [if_neg hj]
  rcases Nat.lt_or_ge j n with h1|h1
  · rw [HE h1,HE h1,D3 _ ha,show (a==((j:Nat):Int))=false by rw [beq_eq_false_iff_ne];omega,Bool.or_false]
  · rw [List.getElem?_eq_none (by rw [Dl];exact h1),List.getElem?_eq_none (by rw [Dl];exact h1)]
theorem TH (p:List Bool):I2 p=(p.map fun b=>[Cp.bool b]).flatten:=by unfold I2;induction p<;>simp_all
theorem JX {l:List Ac} {own:List Int} {c:Int} {a:Nat} {f:Ac} (h:l[a]? =some f):Gf l own c a=(own.any (fun y=>y==((a:Nat):Int))&&decide (c≤f.B5)):=by unfold Gf;rw [h]
theorem V1 {l:List Ac} {a b:Nat} {f g:Ac} (h:l[a]? =some f) (h2:l[b]? =some g):NG l a b=DH f g:=by unfold NG;rw [h,h2]
theorem Qw {f g:Ac}  :BT prog 85 [agg (BZ f),agg (BZ g)] (bool (DH f g)):=by
 refine fo func85 rfl ⟨rfl,rfl⟩ fun M0 w0=> ?_
 refine ac ?_
 refine ac ?_
 refine Ch.cs 10 rfl ?_ ?_<;>intro h1 q1
 have hag:DH f g=false:=by unfold DH;rw [decide_eq_false (by assumption)];rfl
 refine ac ?_
 refine Py 2 3 16 rfl ?_
 refine ac ?_
 refine ac ?_
 · refine bool_eq ?_;exact hag.symm
 have n5:f.day=g.day:=q1
 refine cy h1 rfl (Ad rfl BE AY (vl rfl) rfl rfl) (cy h1 rfl (Cr (Iw) rfl rfl) (cy h1 rfl (Ad rfl BE AY (vl rfl) rfl rfl) (cy h1 rfl (Cr (Iw) rfl rfl) (cy h1 rfl (XL rfl (vl rfl) (vl rfl)) ?_))))
 refine ac ?_
 refine Py 2 3 16 rfl ?_
 refine Tr.cn rfl ?_ ?_<;>intro h2 q2
 have hag:DH f g=false:=by unfold DH;rw [decide_eq_false (show ¬Ay f=Ay g from fun h9=>by have h8:=h2;rw [Bool.not_eq_true'] at h8;exact of_decide_eq_false h8 (by rw [h9];exact Rh.1 rfl)),Bool.and_false];rfl
 refine ac ?_
 refine ac ?_
 · refine bool_eq ?_;exact hag.symm
 have WR:Ay f=Ay g:=Mz (QT (of_decide_eq_true (by have h8:=h2;rw [Bool.not_eq_false'] at h8;exact h8)))
 have hag:DH f g=B3 f g:=by unfold DH;rw [decide_eq_true n5,decide_eq_true WR];rfl
 refine ac ?_
 refine ac ?_
 refine Tr.cn rfl ?_ ?_<;>intro h3 q3
 refine ac ?_
 refine ac ?_
 · refine bool_eq ?_;rw [hag];unfold B3;simp_all
 refine ac ?_
 refine ac ?_
 refine ac ?_
 refine Tr.cn rfl ?_ ?_<;>intro h4 q4
 refine ac ?_
 refine Tr.cond rfl (fun _=> ?_) (fun h=>nomatch h4.symm.trans h)
 refine ac ?_
 refine co rfl (GV rfl (vl rfl) (vl rfl)) (cm rfl ?_)
 refine Ch.cs 33 rfl ?_ ?_<;>intro h5 q5
 refine ac ?_
 refine CM 4 rfl ?_
 refine ac ?_
 · refine bool_eq ?_;rw [hag];unfold B3;simp_all
 refine ac ?_
 refine CM 4 rfl ?_
 refine ac ?_
 · refine bool_eq ?_;rw [hag];unfold B3;rw [Bool.eq_iff_iff];simp_all
 refine ac ?_
 refine Dp 2 3 23 24 rfl ?_
 refine Tr.cn rfl ?_ ?_<;>intro h6 q6
 refine ac ?_
 refine Tr.cond rfl (fun _=> ?_) (fun h=>nomatch h6.symm.trans h)
 refine ac ?_
 refine co rfl (GV rfl (vl rfl) (vl rfl)) (cm rfl ?_)
 refine Ch.cs 33 rfl ?_ ?_<;>intro h7 q7
 refine ac ?_
 refine CM 4 rfl ?_
 refine ac ?_
 · refine bool_eq ?_;rw [hag];unfold B3;simp_all
 refine ac ?_
 refine CM 4 rfl ?_
 refine ac ?_
 · refine bool_eq ?_;rw [hag];unfold B3;rw [Bool.eq_iff_iff];simp_all
 refine ac ?_
 refine Tr.cn rfl ?_ ?_<;>intro h8 q8
 refine ac ?_
 refine co rfl (GV rfl (vl rfl) (vl rfl)) (cm rfl ?_)
 refine Ch.cs 33 rfl ?_ ?_<;>intro h9 q9
 refine ac ?_
 refine CM 4 rfl ?_
 refine ac ?_
 · refine bool_eq ?_;rw [hag];unfold B3;simp_all
 refine ac ?_
 refine CM 4 rfl ?_
 refine ac ?_
 · refine bool_eq ?_;rw [hag];unfold B3;rw [Bool.eq_iff_iff];simp_all
 refine ac ?_
 refine ac ?_
 refine ac ?_
 · refine bool_eq ?_;rw [hag];unfold B3;simp_all
theorem V2 {a b:List (Int×Int)}  :BT prog 37 [HA a,HA b] (bool (decide (a=b))):=by
 refine fo func37 rfl ⟨rfl,rfl⟩ fun M0 w0=>(Tr.D9 0 rfl fun Dg=>(Tr.D9 1 rfl fun RZ=> ?_))
 refine ac ?_
 refine an ?_ ?_<;>intro h1 q1
 have hne:¬a.length=b.length:=by simp_all;omega
 refine a2 ?_
 · refine bool_eq ?_;symm;rw [decide_eq_false_iff_not];rintro rfl;exact hne rfl
 have Gn:a.length=b.length:=by simp_all;omega
 refine a2 ?_
 refine Tr.block (Tr.BU [(0,_),(1,_)] (RC rfl) (fun k:Nat=>[(5,int ((k:Nat):Int))]) (fun k:Nat=>k≤(a).length∧(a.take k=b.take k)) (fun k:Nat=>(a).length-k) 0 (⟨Nat.zero_le _,rfl⟩) ⟨ke rfl,trivial⟩ ?_)
 rintro k ⟨Cb,Ap⟩
 refine an ?_ ?_<;>intro h2 q2
 have Az:k<(a).length:=Ak h2
 obtain ⟨x,A7⟩:=at_ Az
 obtain ⟨y,hy⟩:=at_ (l:=b) (k:=k) (by omega)
 · repeat' first|(refine bool_eq ?_;symm;rw [decide_eq_false_iff_not];refine Ny A7 hy ?_;rw [Prod.ext_iff];intro hc;simp_all)|(exact Fin.AE (k+1) ⟨⟨Az,LS A7 hy Ap (by rw [Prod.ext_iff];simp_all)⟩,by omega⟩ ⟨⟨_,rfl,AJ k⟩,ke rfl,ke rfl,trivial⟩)|refine co rfl (AB rfl underlying66 Kx (vl rfl) (vl rfl) (by omega) (Am A7)) ?_|refine co rfl (AB rfl underlying66 Kx (vl rfl) (vl rfl) (by omega) (Am hy)) (co rfl (Ad rfl T7 Kx (vl rfl) rfl rfl) (co rfl (V0 rfl (vl rfl) (vl rfl)) ?_))|refine ac ?_|(refine Tr.cn rfl ?_ ?_<;>intro h q)
 have B2:k=(a).length:=by have:=Ao h2;omega
 subst B2
 refine a3 ?_
 · refine bool_eq ?_;symm;rw [decide_eq_true_eq];exact LU Gn Ap
theorem V3 {l:List Ac} {n c:Int} {own:List Int} (hN:BO l) (hc:1≤c∧c≤100) (hi:EX own l.length) (hs:own.length≤1000):BT prog 35 [Bu l,Dm n own,int c] (DT [HA (EI l own c l.length),int 0]):=by
 refine fo func35 rfl ⟨rfl,rfl⟩ fun M0 w0=> ?_
 haveI:=Classical.propDecidable (BO l)
 have iN:=hN.len
 obtain ⟨ij,iq⟩:=hc
 refine a2 ?_
 refine co rfl (Cr (Cd) rfl rfl) ?_
 refine an ?_ ?_<;>intro h1 q1
 exfalso;simp_all
 refine ac ?_
 refine ag ?_ ?_<;>intro h2 q2
 exfalso;omega
 refine an ?_ ?_<;>intro h3 q3
 exfalso;omega
 refine a2 ?_
 refine co rfl (EE (HS hs) rfl rfl rfl) ?_
 refine ac ?_
 refine Dp 0 2 4 8 rfl ?_
 refine an ?_ ?_<;>intro h4 q4
 exact absurd (if_pos hi) q4
 refine ac ?_
 refine ap ?_
 refine TO.RG rfl rfl (by decide) rfl underlying122 cI mZ z4 rfl (vl rfl) (vl rfl) (by unfold maxLen;omega) (by omega) (fun b1=> ?_)
 refine ap ?_
 refine ac ?_
 refine Tr.block ?_
 refine Tr.Fy [(0,_),(2,_),(4,_),(9,_)] ⟨ke rfl,ke rfl,ke rfl,ke rfl,trivial⟩ (fun k:Nat=>[(10,int ((k:Nat):Int))]) (fun k:Nat=>Hp M0 w0 Je ([AD true b1 4 (I2 (D4 own l.length k))])) (fun k:Nat=>k≤(own).length) (fun k:Nat=>(own).length-k) 0 (Nat.zero_le _) ⟨ke rfl,trivial⟩ ((by rw [←Qv];exact fun _ _ h=>h)) ?_
 rintro k Cb
 refine an ?_ ?_<;>intro h5 q5
 have Az:k<(own).length:=Ak h5
 obtain ⟨y,A7⟩:=at_ Az
 have iO:=hi y (List.mem_of_getElem? A7)
 refine ac ?_
 refine ap ?_
 refine tp rfl (AB rfl underlying22 A4 (vl rfl) (vl rfl) (by omega) (Am A7)) (tp rfl (L4 rfl Au rfl) (tp rfl (AA rfl underlying122 cI (vl rfl) (vl rfl) (by omega) (by omega)) ?_))
 refine TO.CY 0 rfl rfl (AW rfl rfl (vl rfl) (Vo rfl) cI rfl (by unfold I2;rw [List.length_map,Dl];omega) (Pm A7 iO.1 iO.2)) ?_
 refine ap ?_
 refine EL 0 2 4 9 10 rfl ?_
 refine ac ?_
 exact Fin.NL (k+1) ⟨Az,by omega⟩ ⟨⟨_,rfl,AJ k⟩,ke rfl,ke rfl,ke rfl,ke rfl,trivial⟩ (fun _ _ h=>h)
 have B2:k=(own).length:=by have:=Ao h5;omega
 subst B2
 refine ac ?_
 refine Tr.seq ?_
 refine Tr.jH 0 (((D4 own l.length own.length).map fun b=>[Cp.bool b]).flatten++([]:List Value).map is) rfl (by rw [TH];exact (List.append_nil _).symm) ?_
 refine Tr.K3 (sz:=1) (cap:=l.length) ((D4 own l.length own.length).map fun b=>[Cp.bool b]) 0 9 rfl rfl (Pr.le_of_eq (by rw [List.length_map,Dl])) (A8 fun _=>rfl) (by rw [List.length_map,Dl];exact Nat.le_refl _) (by unfold maxLen;omega) (by simp [Dl]) ?_
 refine a2 ?_
 refine Tr.block (Tr.GP 121 2 (Tr.Hq [(0,_),(2,_),(9,_)] ⟨ke rfl,ke rfl,ke rfl,trivial⟩ (fun a v=>[(12,int ((a:Nat):Int)),(11,BB v (HA (EI l own c a)))]) (fun a v=>Hp M0 w0 Je ([BX 121 2 v,BX 4 1 (.slice (some ⟨b1,0,none⟩) ((D4 own l.length own.length).map fun b=>[Cp.bool b]).length l.length)])) (fun a:Nat=>a≤(l).length) (fun a:Nat=>(l).length-a) 0 (.slice none 0 0) (Nat.zero_le _) ⟨ke rfl,⟨_,rfl,FV rfl⟩,trivial⟩ (fun _ _ h=>h) ?_))
 rintro a v mE
 refine an ?_ ?_<;>intro h6 q6
 have aP:a<(l).length:=Ak h6
 obtain ⟨f,Qx⟩:=at_ aP
 have l8:=Lx l own c a
 have n7:a*l.length≤400*400:=Nat.mul_le_mul (by omega) (by omega)
 have hma:(D4 own l.length own.length)[a]? =some (own.any fun y=>y==((a:Nat):Int)):=by rw [HE aP,List.take_length]
 refine a2 ?_
 refine Tr.block (Tr.Gy [(0,_),(2,_),(9,_),(12,_)] ⟨ke rfl,ke rfl,ke rfl,ke rfl,trivial⟩ (fun (b:Nat) u=>[(13,int ((b:Nat):Int)),(11,BB u (HA (EI l own c a++Ej l own c a b)))]) (fun (b:Nat) u=>Hp M0 w0 Je ([BX 121 2 u,BX 4 1 (.slice (some ⟨b1,0,none⟩) ((D4 own l.length own.length).map fun b=>[Cp.bool b]).length l.length)])) (fun (b:Nat)=>a<b∧b≤l.length) (fun (b:Nat)=>l.length-b) (a+1) v (⟨by omega,by omega⟩) ⟨⟨_,rfl,int_eq (by omega)⟩,⟨_,rfl,Bs (by rw [N8,List.append_nil])⟩,trivial⟩ (fun _ _ h=>h) ?_)
 rintro b u ⟨hab,aj⟩
 refine an ?_ ?_<;>intro h7 q7
 have Q7:b<l.length:=Ak h7
 obtain ⟨g,hg⟩:=at_ Q7
 have Dn:=Lw l own c a b
 have hmb:(D4 own l.length own.length)[b]? =some (own.any fun y=>y==((b:Nat):Int)):=by rw [HE Q7,List.take_length]
 have hst:=Ph l own c a b
 refine a2 ?_
 refine co rfl (AB rfl underlying122 cI (Kb rfl) (vl rfl) (by omega) (Am hma)) ?_
 refine ag ?_ ?_<;>intro h8 q8
 have mF:=h8
 refine ac ?_
 refine cy h8 rfl (AB rfl underlying122 cI (Kb rfl) (vl rfl) (by omega) (Am hmb)) ?_
 refine ag ?_ ?_<;>intro h9 q9
 have hib:=h9
 refine ac ?_
 refine cy h9 rfl (AB rfl underlying31 AY (vl rfl) (vl rfl) (by omega) (Am Qx)) ?_
 refine ag ?_ ?_<;>intro h10 SQ
 have n8:Gf l own c a=true:=by rw [JX Qx,mF,decide_eq_true (show c≤f.B5 by omega)];rfl
 refine ac ?_
 refine cy h10 rfl (AB rfl underlying31 AY (vl rfl) (vl rfl) (by omega) (Am hg)) ?_
 refine ag ?_ ?_<;>intro h11 WV
 have n9:Gf l own c b=true:=by rw [JX hg,hib,decide_eq_true (show c≤g.B5 by omega)];rfl
 refine ac ?_
 refine cy h11 rfl (AB rfl underlying31 AY (vl rfl) (vl rfl) (by omega) (Am Qx)) ?_
 refine ac ?_
 refine cy h11 rfl (AB rfl underlying31 AY (vl rfl) (vl rfl) (by omega) (Am hg)) (cy h11 rfl (Ad rfl BE AY (vl rfl) rfl rfl) (cy h11 rfl (EE (Qw) rfl rfl rfl) ?_))
 refine ac ?_
 refine Ea 0 2 9 11 12 13 98 rfl ?_
 refine Tr.cn rfl ?_ ?_<;>intro h12 SV
 have JW:(decide (a<b)&&Gf l own c a&&Gf l own c b&&NG l a b)=true:=by rw [decide_eq_true hab,n8,n9,V1 Qx hg,h12];rfl
 refine ap ?_
 refine TO.MK 0 rfl rfl (by decide) (Oh rfl rfl rfl rfl underlying66 Kx YZ W0 (Kb rfl) (Kf rfl) (GO (by exact List.Mem.head _) (Ka rfl))) (fun v1=> ?_)
 refine ap ?_
 refine EZ 0 2 9 11 12 13 rfl ?_
 refine ac ?_
 exact Fin.C9 (b+1) v1 (⟨⟨by omega,by omega⟩,by omega⟩) ⟨⟨_,rfl,AJ b⟩,⟨_,rfl,Bs (by rw [hst,JW];rw [if_pos rfl];simp only [List.map_append,List.append_assoc];rfl)⟩,ke rfl,ke rfl,ke rfl,ke rfl,trivial⟩ (fun _ _ h=>h)
 have hno:NG l a b=false:=by rw [V1 Qx hg,h12]
 have JW:(decide (a<b)&&Gf l own c a&&Gf l own c b&&NG l a b)=false:=by rw [hno,Bool.and_false]
 refine a2 ?_
 exact Fin.C9 (b+1) u (⟨⟨by omega,by omega⟩,by omega⟩) ⟨⟨_,rfl,AJ b⟩,⟨_,rfl,Bs (by rw [hst,JW];rw [if_neg (by decide),List.append_nil])⟩,ke rfl,ke rfl,ke rfl,ke rfl,trivial⟩ (fun _ _ h=>h)
 have hno:Gf l own c b=false:=by rw [JX hg,hib,decide_eq_false (show ¬c≤g.B5 by omega)];rfl
 have JW:(decide (a<b)&&Gf l own c a&&Gf l own c b&&NG l a b)=false:=by rw [hno];simp
 refine ac ?_
 refine Ea 0 2 9 11 12 13 98 rfl ?_
 refine a2 ?_
 exact Fin.C9 (b+1) u (⟨⟨by omega,by omega⟩,by omega⟩) ⟨⟨_,rfl,AJ b⟩,⟨_,rfl,Bs (by rw [hst,JW];rw [if_neg (by decide),List.append_nil])⟩,ke rfl,ke rfl,ke rfl,ke rfl,trivial⟩ (fun _ _ h=>h)
 have hno:Gf l own c a=false:=by rw [JX Qx,mF,decide_eq_false (show ¬c≤f.B5 by omega)];rfl
 have JW:(decide (a<b)&&Gf l own c a&&Gf l own c b&&NG l a b)=false:=by rw [hno];simp
 refine ac ?_
 refine Ea 0 2 9 11 12 13 98 rfl ?_
 refine a2 ?_
 exact Fin.C9 (b+1) u (⟨⟨by omega,by omega⟩,by omega⟩) ⟨⟨_,rfl,AJ b⟩,⟨_,rfl,Bs (by rw [hst,JW];rw [if_neg (by decide),List.append_nil])⟩,ke rfl,ke rfl,ke rfl,ke rfl,trivial⟩ (fun _ _ h=>h)
 have hno:Gf l own c b=false:=by rw [JX hg,h9];rfl
 have JW:(decide (a<b)&&Gf l own c a&&Gf l own c b&&NG l a b)=false:=by rw [hno];simp
 refine ac ?_
 refine Ea 0 2 9 11 12 13 98 rfl ?_
 refine a2 ?_
 exact Fin.C9 (b+1) u (⟨⟨by omega,by omega⟩,by omega⟩) ⟨⟨_,rfl,AJ b⟩,⟨_,rfl,Bs (by rw [hst,JW];rw [if_neg (by decide),List.append_nil])⟩,ke rfl,ke rfl,ke rfl,ke rfl,trivial⟩ (fun _ _ h=>h)
 have hno:Gf l own c a=false:=by rw [JX Qx,h8];rfl
 have JW:(decide (a<b)&&Gf l own c a&&Gf l own c b&&NG l a b)=false:=by rw [hno];simp
 refine ac ?_
 refine Ea 0 2 9 11 12 13 98 rfl ?_
 refine a2 ?_
 exact Fin.C9 (b+1) u (⟨⟨by omega,by omega⟩,by omega⟩) ⟨⟨_,rfl,AJ b⟩,⟨_,rfl,Bs (by rw [hst,JW];rw [if_neg (by decide),List.append_nil])⟩,ke rfl,ke rfl,ke rfl,ke rfl,trivial⟩ (fun _ _ h=>h)
 obtain rfl:b=l.length:=(by have:=Ao h7;omega)
 refine a2 ?_
 exact Fin.DP (a+1) u (⟨aP,by omega⟩) ⟨⟨_,rfl,AJ a⟩,⟨_,rfl,Bs (by rw [HD])⟩,ke rfl,ke rfl,ke rfl,trivial⟩ (fun _ _ h=>h)
 have kj:a=(l).length:=by have:=Ao h6;omega
 subst kj
 refine a2 ?_
 refine Tr.ret (Fin.Cq rfl (Ba.Cz _ _) rfl ?_ rfl ?_)
 · exact Pr.le_trans (BL _ _) (Lr)
 · exact Lr
open Classical in
noncomputable def KA (l:List Ac) (own:List Int) (c:Int):List (Int×Int)×Int:=if BO l then (if c<1∨100<c then ([],2) else if EX own l.length then (EI l own c l.length,0) else ([],4)) else ([],24)
theorem Pn {l:List Ac} {c:Int} {own:List Int} (h:¬BO l):KA l own c=([],24):=by unfold KA;rw [if_neg h]
theorem Po {l:List Ac} {c:Int} {own:List Int} (h:BO l) (h2:c<1∨100<c):KA l own c=([],2):=by unfold KA;rw [if_pos h,if_pos h2]
theorem Pp {l:List Ac} {c:Int} {own:List Int} (h:BO l) (h2:¬(c<1∨100<c)) (h3:¬EX own l.length):KA l own c=([],4):=by unfold KA;rw [if_pos h,if_neg h2,if_neg h3]
theorem R4 {l:List Ac} {c:Int} {own:List Int} (h:BO l) (h2:¬(c<1∨100<c)) (h3:EX own l.length):KA l own c=(EI l own c l.length,0):=by unfold KA;rw [if_pos h,if_neg h2,if_pos h3]
theorem NH (l:List Ac) (c:Int):∀k,EI l [] c k=[]
 |0=>rfl
 |k+1=>by
  rw [HD,NH l c k]
  unfold Ej
  rw [List.filter_eq_nil_iff.2]
  · rfl
  ·
   intro b _
   have:Gf l [] c k=false:=rfl
   rw [this];simp
theorem fW {l:List Ac} {n c:Int} {own:List Int} (hN:¬BO l) (hf:∀f∈l,f.fits) (hs:own.length<50):BT prog 34 [Bu l,Dm n own,int c] (DT [HA [],int 24]):=by
 refine fo func34 rfl ⟨rfl,rfl⟩ fun M0 w0=> ?_
 haveI:=Classical.propDecidable (BO l)
 refine a2 ?_
 refine co rfl (EE (Dc hs) rfl rfl rfl) ?_
 refine a2 ?_
 refine co rfl (Cr (C4 (by assumption)) rfl rfl) ?_
 refine ac ?_
 refine EL 3 5 8 9 21 rfl ?_
 refine Tr.cn rfl ?_ ?_<;>intro h1 q1
 refine ac ?_
 refine Tr.ret (Fin.AK (Fin.AF (Fin.Cq rfl (Ba.Cz _ _) rfl ?_ rfl ?_)))
 · exact AZ 2
 · exact Lr
 exfalso;simp_all
theorem fX {l:List Ac} {n c:Int} {own:List Int} (hN:BO l) (hf:∀f∈l,f.fits) (hs:own.length<50) (hr:c<1∨100<c):BT prog 34 [Bu l,Dm n own,int c] (DT [HA [],int 2]):=by
 refine fo func34 rfl ⟨rfl,rfl⟩ fun M0 w0=> ?_
 haveI:=Classical.propDecidable (BO l)
 refine a2 ?_
 refine co rfl (EE (Dc hs) rfl rfl rfl) ?_
 refine a2 ?_
 refine co rfl (Cr (C4 (by assumption)) rfl rfl) ?_
 refine ac ?_
 refine EL 3 5 8 9 21 rfl ?_
 refine Tr.cn rfl ?_ ?_<;>intro h1 q1
 exfalso;simp_all
 refine ag ?_ ?_<;>intro h2 q2
 refine a2 ?_
 refine EK 6 7 rfl (Tr.ret (Fin.AK (Fin.AF (Fin.Cq rfl (Ba.Cz _ _) rfl ?_ rfl ?_))))
 · exact AZ 2
 · exact Lr
 refine an ?_ ?_<;>intro h3 q3
 refine ac ?_
 refine EK 6 7 rfl (Tr.ret (Fin.AK (Fin.AF (Fin.Cq rfl (Ba.Cz _ _) rfl ?_ rfl ?_))))
 · exact AZ 2
 · exact Lr
 exfalso;omega
theorem fY {l:List Ac} {n c:Int} {own:List Int} (hN:BO l) (hf:∀f∈l,f.fits) (hs:own.length<50) (hr:¬(c<1∨100<c)) (hi:¬EX own l.length):BT prog 34 [Bu l,Dm n own,int c] (DT [HA [],int 4]):=by
 refine fo func34 rfl ⟨rfl,rfl⟩ fun M0 w0=> ?_
 haveI:=Classical.propDecidable (BO l)
 refine a2 ?_
 refine co rfl (EE (Dc hs) rfl rfl rfl) ?_
 refine a2 ?_
 refine co rfl (Cr (C4 (by assumption)) rfl rfl) ?_
 refine ac ?_
 refine EL 3 5 8 9 21 rfl ?_
 refine Tr.cn rfl ?_ ?_<;>intro h1 q1
 exfalso;simp_all
 refine ag ?_ ?_<;>intro h2 q2
 exfalso;omega
 refine an ?_ ?_<;>intro h3 q3
 exfalso;omega
 refine ac ?_
 refine Dp 3 5 8 32 rfl ?_
 refine Tr.cn rfl ?_ ?_<;>intro h4 q4
 refine ac ?_
 refine Tr.ret (Fin.AK (Fin.AF (Fin.Cq rfl (Ba.Cz _ _) rfl ?_ rfl ?_)))
 · exact AZ 2
 · exact Lr
 exfalso;simp_all
theorem V4 {l:List Ac} {n c:Int} {own:List Int} (hN:¬BO l):BT prog 35 [Bu l,Dm n own,int c] (DT [HA [],int 24]):=by
 refine fo func35 rfl ⟨rfl,rfl⟩ fun M0 w0=> ?_
 haveI:=Classical.propDecidable (BO l)
 refine a2 ?_
 refine co rfl (Cr (Cd) rfl rfl) ?_
 refine an ?_ ?_<;>intro h1 q1
 refine ac ?_
 refine Tr.ret (Fin.AF (Fin.Cq rfl (Ba.Cz _ _) rfl ?_ rfl ?_))
 · exact AZ 2
 · exact Lr
 exfalso;simp_all
theorem V5 {l:List Ac} {n c:Int} {own:List Int} (hN:BO l) (hr:c<1∨100<c):BT prog 35 [Bu l,Dm n own,int c] (DT [HA [],int 2]):=by
 refine fo func35 rfl ⟨rfl,rfl⟩ fun M0 w0=> ?_
 haveI:=Classical.propDecidable (BO l)
 refine a2 ?_
 refine co rfl (Cr (Cd) rfl rfl) ?_
 refine an ?_ ?_<;>intro h1 q1
 exfalso;simp_all
 refine ac ?_
 refine ag ?_ ?_<;>intro h2 q2
 refine a2 ?_
 refine EK 6 7 rfl (Tr.ret (Fin.AF (Fin.Cq rfl (Ba.Cz _ _) rfl ?_ rfl ?_)))
 · exact AZ 2
 · exact Lr
 refine an ?_ ?_<;>intro h3 q3
 refine ac ?_
 refine EK 6 7 rfl (Tr.ret (Fin.AF (Fin.Cq rfl (Ba.Cz _ _) rfl ?_ rfl ?_)))
 · exact AZ 2
 · exact Lr
 exfalso;omega
theorem V6 {l:List Ac} {n c:Int} {own:List Int} (hN:BO l) (hs:own.length≤1000) (hr:¬(c<1∨100<c)) (hi:¬EX own l.length):BT prog 35 [Bu l,Dm n own,int c] (DT [HA [],int 4]):=by
 refine fo func35 rfl ⟨rfl,rfl⟩ fun M0 w0=> ?_
 haveI:=Classical.propDecidable (BO l)
 refine a2 ?_
 refine co rfl (Cr (Cd) rfl rfl) ?_
 refine an ?_ ?_<;>intro h1 q1
 exfalso;simp_all
 refine ac ?_
 refine ag ?_ ?_<;>intro h2 q2
 exfalso;omega
 refine an ?_ ?_<;>intro h3 q3
 exfalso;omega
 refine a2 ?_
 refine co rfl (EE (HS hs) rfl rfl rfl) ?_
 refine ac ?_
 refine Dp 0 2 4 8 rfl ?_
 refine an ?_ ?_<;>intro h4 q4
 refine ac ?_
 refine Tr.ret (Fin.AF (Fin.Cq rfl (Ba.Cz _ _) rfl ?_ rfl ?_))
 · exact AZ 2
 · refine int_eq ?_;rw [if_neg hi]
 exact absurd q4 (by rw [if_neg hi];decide)
theorem YK {l:List Ac} {n c:Int} {own:List Int} (hf:∀f∈l,f.fits) (hs:own.length<50):BT Tryz.prog 34 [Bu l,Dm n own,int c] (DT [HA (KA l own c).1,int (KA l own c).2]):=by
 by_cases hN:BO l
 ·
  by_cases hr:c<1∨100<c
  · rw [Po hN hr];exact fX hN hf hs hr
  ·
   by_cases hi:EX own l.length
   ·
    rw [R4 hN hr hi]
    by_cases h0:own=[]
    · subst h0;rw [NH];exact Xu hN hf ⟨by omega,by omega⟩
    · exact Vz hN hf ⟨by omega,by omega⟩ hi h0 hs
   · rw [Pp hN hr hi];exact fY hN hf hs hr hi
 · rw [Pn hN];exact fW hN hf hs
theorem V7 {l:List Ac} {n c:Int} {own:List Int} (hs:own.length<50):BT Tryz.prog 35 [Bu l,Dm n own,int c] (DT [HA (KA l own c).1,int (KA l own c).2]):=by
 by_cases hN:BO l
 ·
  by_cases hr:c<1∨100<c
  · rw [Po hN hr];exact V5 hN hr
  ·
   by_cases hi:EX own l.length
   · rw [R4 hN hr hi];exact V3 hN ⟨by omega,by omega⟩ hi (by omega)
   · rw [Pp hN hr hi];exact V6 hN (by omega) hr hi
 · rw [Pn hN];exact V4 hN
end Go.Proofs.YtgilhkjlfongoaaGreat
namespace Cp
open Go Go.RowKit
theorem TO.RF {P:Program} {n:Fm} {E:Env} {M0:Av} {w0:World} {S:Nat→Prop} {rs:List A0} {ops:Array Oper} {r:List Oper} {Q:Exit→Act→World→Prop} (i:Nat) {T:TypeId} {b:Nat} (hi:rs[i]? =some (Hs T b)) (k:∀s,TO P n ops r E (Hp M0 w0 S (rs.set i (ON T b s))) Q):TO P n ops r E (Hp M0 w0 S rs) Q:=by
 rintro m hl a w ⟨M,h1,h2,h3,h4⟩
 have h4:A1 M0 w0 S rs M w:=h4
 obtain ⟨x,hx,hh⟩:=(h4.hold _ (List.mem_of_getElem? hi)).1
 exact k x m hl a w ⟨M,h1,h2,h3,h4.CZ hi rfl rfl hh⟩
theorem Ab.ah {P:Program} {E:Env} {I:CL} {o:Oper} {p:Pr} (s:Nat) {α:Type} {f:α→Pr} (hs:E.lookup s=some (Cp.ex f)) (hm:s∈looks o) (h:∀x,Ab P I o ((s,f x)::E) p):Ab P I o E p:=by
 intro M w a he hI
 obtain ⟨x,hx⟩:=he s _ hm hs
 refine h x M w a (fun t q ht hq=> ?_) hI
 simp only [List.lookup] at hq
 by_cases hts:t=s
 · subst hts;simp at hq;subst hq;exact hx
 · rw [show (t==s)=false by simpa using hts] at hq;exact he t q ht hq
end Cp
namespace Cp
open Go Go.RowKit Go.Great
section
variable {P:Program} {L:Lg P} {n:Fm} {fz:Nat} {E:Env} {M0:Av} {w0:World} {S:Nat→Prop} {rs:List A0}
theorem A1.Pq {i:Nat} {r r':A0} {M:Av} {w:World} (h:A1 M0 w0 S rs M w) (hi:rs[i]? =some r) (hb:∀b,r'.D8=some b→r.D8=some b) (hn:r'.new=r.new) (hh:r'.h M w):A1 M0 w0 S (rs.set i r') M w:=by
 have Dn:i<rs.length:=by rcases Nat.lt_or_ge i rs.length with h|h;exact h;rw [List.getElem?_eq_none h] at hi;cases hi
 have h1:=A1.perm (Dx hi) h
 refine A1.perm (Gx Dn) ⟨h1.m0,h1.m,h1.os,h1.tape,h1.output,h1.size,h1.block,h1.bd,fun q hq=> ?_,?_⟩
 ·
  rcases List.mem_cons.1 hq with rfl|hq
  · exact ⟨hh,fun b hbk=>by rw [hn];exact (h1.hold r (by simp)).2 b (hb b hbk)⟩
  · exact h1.hold q (by simp [hq])
 ·
  obtain ⟨h2,h3⟩:=List.pairwise_cons.1 h1.nd
  exact List.Pairwise.cons (fun q hq b hbk=>h2 q hq b (hb b hbk)) h3
theorem A1.Eo {j:Nat} {e:TypeId} {sz:Nat} {rows:List (List Pr)} {v:Value} {M:Av} {w:World} (h:A1 M0 w0 S rs M w) (hj:rs[j]? =some (Bc e sz rows v)):A1 M0 w0 S (rs.set j (BA e sz rows v)) M w:=by
 rcases (h.hold _ (List.mem_of_getElem? hj)).1 with ⟨h1,h2⟩|⟨b,cap,sp,h1,h2,h3,h4,h5⟩
 ·
  subst h2
  exact h.Pq hj (fun b hb=>by cases hb) rfl (.inl ⟨h1,_,rfl⟩)
 ·
  subst h1
  cases cap with
  |zero=>
   have hr:rows=[]:=List.eq_nil_of_length_eq_zero (by omega)
   subst hr
   exact h.Pq hj (fun b hb=>by cases hb) rfl (.inl ⟨rfl,_,rfl⟩)
  |succ c=>exact h.Pq hj (fun b hb=>hb) rfl (.inr ⟨b,c,sp,rfl,h2,h3,h4,h5⟩)
theorem Fin.Eo {Q:Exit→Act→World→Prop} {x:Exit} {e:TypeId} {sz:Nat} {rows:List (List Pr)} {v:Value} (j:Nat) (hj:rs[j]? =some (Bc e sz rows v)) (k:Fin n E (Hp M0 w0 S (rs.set j (BA e sz rows v))) Q x):Fin n E (Hp M0 w0 S rs) Q x:=
 Fin.conv (fun a w hs=>by
  obtain ⟨M,h1,h2,h3,h4⟩:=hs
  have h4:A1 M0 w0 S rs M w:=h4
  exact ⟨M,h1,h2,h3,h4.Eo hj⟩) k
theorem Tr.Eo {Q:Exit→Act→World→Prop} {c:Code} {e:TypeId} {sz:Nat} {rows:List (List Pr)} {v:Value} (j:Nat) (hj:rs[j]? =some (Bc e sz rows v)) (k:Tr L n E (Hp M0 w0 S (rs.set j (BA e sz rows v))) c Q):Tr L n E (Hp M0 w0 S rs) c Q:=
 Tr.conv (fun _ _ ⟨M,h1,h2,h3,h4⟩=>⟨M,h1,h2,h3,A1.Eo h4 hj⟩) k
end
end Cp
namespace Cp
open Go Go.RowKit
end Cp
namespace Cp
open Go Go.RowKit Go.Great
section
variable {P:Program} {L:Lg P} {n:Fm} {fz:Nat} {E:Env} {M0:Av} {w0:World} {S:Nat→Prop} {rs:List A0} {o:Oper} {g:Func} {M1:Av} {w1:World}
end
section
variable {P:Program} {L:Lg P} {n:Fm} {fz:Nat} {E:Env} {M0:Av} {w0:World} {S:Nat→Prop} {rs:List A0}
end
end Cp
namespace Cp
open Go Go.RowKit
abbrev Fe (ρ:Option Nat):Fence:={ Fence.wide with round:=ρ }
section
variable {P:Program} {ρ:Option Nat}
def J3 (o:Oper):Bool:=match o.op with
 | .defer _=>false
 |_=>true
theorem Yx {o:Oper} {a:Act} {w:World} {K K':Act→World→Prop} {Q:Exit→Act→World→Prop} (hc:J3 o=true) (hK:∀a w,K a w→K' a w) (h:o.wp P a w K Q):o.wpIn (Fe ρ) 0 P a w K' Q:=by
 refine ⟨fun _ _=>trivial,?_⟩
 rw [Oper.semAt_eq _ _ _ (fun c hh=>by unfold J3 at hc;rw [hh] at hc;cases hc)]
 unfold Oper.wp at h
 generalize (execOp a.eval o).run P w=r at h ⊢
 cases r with
 |halt x w'=>cases x<;>first|exact h|exact h.elim
 |ok x w'=>
  cases x<;>first|exact h.elim|skip
  case value v=>exact hK _ _ h
  case skip=>exact hK _ _ h
  case defer d=>exact hK _ _ h
  case enter f args=>exact ⟨fun hh=>(by cases hh),callsIn_wide.2 (h.mono fun e w'' hr=>by cases e<;>first|exact hK _ _ hr|exact hr)⟩
  case row row args=>
   refine ⟨fun hh=>(by cases hh),fun c cs _=> ?_⟩
   obtain ⟨v,w2,h1,h2⟩:=h c cs
   exact ⟨v,w2,hK _ _ h1,stepsIn_wide.2 h2⟩
theorem V8 {ops:Array Oper} {Q:Exit→Act→World→Prop} (hc:∀(i:Nat) o,ops[i]? =some o→J3 o=true):∀(l:List Nat) (a:Act) (w:World),wpS P ops Q l a w→wpOpsIn (Fe ρ) 0 P ops Q l a w
 |[],_,_,h=>h
 |i::l,a,w,h=>by
  have ih:=V8 (Q:=Q) hc l
  unfold wpS at h
  unfold wpOpsIn
  cases ho:ops[i]? with
  |none=>rw [ho] at h;exact ih a w h
  |some o=>
   rw [ho] at h
   dsimp only at h ⊢
   split
   next hw=>rw [if_pos hw] at h;exact Yx (hc i o ho) ih h
   next hw=>rw [if_neg hw] at h;exact ⟨fun _ _=>trivial,ih _ _ h⟩
theorem aQ {ops:Array Oper} {Q:Exit→Act→World→Prop} (hc:∀(i:Nat) o,ops[i]? =some o→J3 o=true) {i:Nat} {K K':Act→World→Prop} {a:Act} {w:World} (hK:∀a w,K a w→K' a w) (h:KZ P ops Q i K a w):wpOpIn (Fe ρ) 0 P ops Q i K' a w:=by
 unfold KZ at h
 unfold wpOpIn
 cases ho:ops[i]? with
 |none=>rw [ho] at h;exact hK _ _ h
 |some o=>
  rw [ho] at h
  dsimp only at h ⊢
  split
  next hw=>rw [if_pos hw] at h;exact Yx (hc i o ho) hK h
  next hw=>rw [if_neg hw] at h;exact ⟨fun _ _=>trivial,hK _ _ h⟩
theorem V9 {ops:Array Oper} {md:Region.Mode} {Q:Exit→Act→World→Prop} (hc:∀(i:Nat) o,ops[i]? =some o→J3 o=true):∀(fuel:Nat) (listed:Array Bool) (a:Act) (w:World),Hl P md ops Q fuel listed a w→wpAnyIn (Fe ρ) 0 P md ops Q fuel listed a w
 |0,_,_,_,h=>h
 |fuel+1,_,_,_,h=>⟨h.1,fun i hi=>aQ hc (V9 hc fuel _) (h.2 i hi)⟩
theorem YL {l:List Oper} (hc:calm l=true):∀(i:Nat) o,l.toArray[i]? =some o→J3 o=true:=fun i o ho=>by
 have hm:o∈l:=List.mem_of_getElem? (by simpa using ho)
 have:=List.all_eq_true.1 hc o hm
 unfold J3;revert this;cases o.op<;>simp
theorem YM {c:Code} {Q:Exit→Act→World→Prop} {α:Type} (μ:α→Nat) (R:α→Act→World→Prop) (round:∀x a w,R x a w→c.wpIn (Fe ρ) 0 P (Exit.then (fun a' w'=>∃y,μ y<μ x∧R y a' w') Q) a w) (x:α) (a:Act) (w:World) (hx:R x a w):(Code.loop c).wpIn (Fe ρ) 0 P Q a w:=by
 intro b k cs hro hb hr
 have key:∀m x a w,μ x=m→R x a w→∃e a' w',Q e a' w'∧ArrivesIn (Machine.fenced P (Fe ρ)) P (lone (b.atR a (.code c:: .inLoop c::k)) cs w) b k cs e a' w':=by
  intro m
  induction m using Nat.strongRecOn with
  |_ m ih=>
   intro x a w hm hx
   obtain ⟨e,a₁,w₁,hq,Fv⟩:=round x a w hx b (.inLoop c::k) cs hro hb hr
   cases e with
   |normal=>
    obtain ⟨y,hlt,hy⟩:=hq
    obtain ⟨e₂,a₂,w₂,Tf,NI⟩:=ih (μ y) (hm ▸ hlt) y a₁ w₁ rfl hy
    exact ⟨e₂,a₂,w₂,Tf,.of_steps (StepsIn.trans Fv (.one (fenced_calm hb hr rfl) stepR_inLoop)) NI⟩
   |exit id=>exact ⟨_,a₁,w₁,hq,.pass (x:= .inLoop c) rfl (fun _ _=> .inl (by simp)) Fv⟩
   |goto l=>exact ⟨_,a₁,w₁,hq,.pass (x:= .inLoop c) rfl (fun _ _=> .inl (by simp)) Fv⟩
   |ret=>exact ⟨_,a₁,w₁,hq,.pass (x:= .inLoop c) rfl (fun _ _=> .inl (by simp)) Fv⟩
   |panic ch=>exact ⟨_,a₁,w₁,hq,.pass (x:= .inLoop c) rfl (fun _ _=> .inl (by simp)) Fv⟩
   |outgrown=>exact ⟨_,a₁,w₁,hq,.pass (x:= .inLoop c) rfl (fun _ _=> .inl (by simp)) Fv⟩
 obtain ⟨e,a',w',hq,Fv⟩:=key _ x a w rfl hx
 exact ⟨e,a',w',hq,.of_steps (.one (fenced_calm hb hr rfl) stepR_loop) Fv⟩
@[reducible] def ko (P:Program) (ρ:Option Nat):Lg P where
 wp c Q a w:=c.wpIn (Fe ρ) 0 P Q a w
 mono hq h:=wpIn_mono h hq
 skip h:=wpIn_skip h
 ret h:=wpIn_ret h
 exit h:=wpIn_exit h
 seq h:=wpIn_seq h
 block h:=wpIn_block h
 cond hc ht hf:=wpIn_cond_split hc ht hf
 loop:=YM
 region {id l Q a w} hc h:=wpIn_region (V8 (fun i o ho=>by
  have hm:o∈l:=List.mem_of_getElem? (by simpa using ho)
  have:=List.all_eq_true.1 hc o hm
  unfold J3;revert this;cases o.op<;>simp) _ _ _ (by simpa [List.range_eq_range'] using h))
 draw hc hm h:=wpIn_region_any hm (V9 (YL hc) _ _ _ _ h)
end
end Cp
namespace Cp
open Go Go.RowKit Go.Great
section
variable {P:Program} {L:Lg P} {n:Fm} {fz:Nat} {E:Env} {M0:Av} {w0:World} {S:Nat→Prop} {rs:List A0} {o:Oper}
end
end Cp
namespace Cp
open Go Go.RowKit
theorem CT.ah {M:Av} {w:World} {E:Env} {o:Oper} {a:Act} (s:Nat) {α:Type} {f:α→Pr} (hs:E.lookup s=some (Cp.ex f)) (hm:s∈looks o) (he:CT M w E o a):∃x,CT M w ((s,f x)::E) o a:=by
 obtain ⟨x,hx⟩:=he s _ hm hs
 refine ⟨x,fun t q ht hq=> ?_⟩
 simp only [List.lookup] at hq
 by_cases hts:t=s
 · subst hts;simp at hq;subst hq;exact hx
 · rw [show (t==s)=false by simpa using hts] at hq;exact he t q ht hq
section
variable {P:Program} {M0:Av} {w0:World} {S:Nat→Prop} {n:Fm} {j:Nat} {R R':SR} {E:Env} {o:Oper}
theorem Du.ah {p:Pr} (s:Nat) {α:Type} {f:α→Pr} (hg:o.guard=none) (hs:E.lookup s=some (Cp.ex f)) (hm:s∈looks o) (h:∀x,Du P M0 w0 S n j R R' o ((s,f x)::E) p):Du P M0 w0 S n j R R' o E p:=
 ⟨hg,fun M w a rs hsz he hI hj=>by obtain ⟨x,hx⟩:=he.ah s hs hm;exact (h x).2 M w a rs hsz hx hI hj⟩
theorem Du.le {p q:Pr} (h:Du P M0 w0 S n j R R' o E p) (hl:Pr.le p q):Du P M0 w0 S n j R R' o E q:=by
 refine ⟨h.1,fun M w a rs hsz he hI hj=> ?_⟩
 have this:=h.2 M w a rs hsz he hI hj
 generalize (execOp a.eval o).run P w=r at this ⊢
 unfold NM at this
 split at this
 · obtain ⟨M',h1,h2,h3⟩:=this;exact ⟨M',hl _ _ _ h1,h2,h3⟩
 · obtain ⟨M',h1,h2,h3⟩:=this;exact ⟨M',hl _ _ _ h1,h2,h3⟩
 · exact Calls.mono this fun _ _ ⟨v,M',h0,h1,h2,h3⟩=>⟨v,M',h0,hl _ _ _ h1,h2,h3⟩
 · exact this.elim
end
section
variable {P:Program} {L:Lg P} {n:Fm} {E:Env} {M0:Av} {w0:World} {S:Nat→Prop} {rs:List A0}
theorem Fin.Jt {Q:Exit→Act→World→Prop} {x:Exit} (i j k:Nat) {sz b:Nat} {new:Bool} {T e:TypeId} {ps:List Pr} {rows:List (List Pr)} {v:Value} {p:Pr} (hi:rs[i]? =some (AD new b T ps)) (hj:rs[j]? =some (BA e sz rows v)) (hij:j≠i) (hk:ps[k]? =some p) (hp:Pr.le p (is v)) (hl:∀r∈rows,r.length=sz)
  (kk:Fin n E (Hp M0 w0 S ((rs.set j Bz).set i (AD new b T (ps.set k (slice sz rows))))) Q x):Fin n E (Hp M0 w0 S rs) Q x:=Fin.conv (fun _ _ hs=>hs.Jt hi hj hij hk hp hl) kk
end
section
variable {P:Program} {M0:Av} {w0:World} {S:Nat→Prop} {rs:List A0}
def BN (b:Nat) (x:Obj):A0 where
 D8:=some b
 new:=true
 h M w:=(∀o,M b o)∧w.heap[b]? =some x
 st M w M' w' _ hk h:=by
  obtain ⟨h1,h2⟩:=hk b rfl
  exact ⟨fun o=>h2 o (h.1 o),h1.trans h.2⟩
theorem A1.V_ {M:Av} {w:World} (h:A1 M0 w0 S rs M w) (x:Obj):
  A1 M0 w0 S (BN w.heap.size x::rs) (fun b o=>M b o∨b=w.heap.size) (w.alloc x)∧Ext M w (fun b o=>M b o∨b=w.heap.size) (w.alloc x):=by
 have hb:Below w.heap.size w (w.alloc x):=(Below.refl _ _).alloc (Nat.le_refl _) _
 have hsz:(w.alloc x).heap.size=w.heap.size+1:=by simp
 have he:Ext M w (fun b o=>M b o∨b=w.heap.size) (w.alloc x):=by
  have h2:=Ext.below (M:=M) hb
  refine ⟨h2.size,fun a v hc hm=>⟨fun hx=> ?_,(h2.keep a v hc hm).2⟩,fun b o ho hp hm=>⟨fun hx=> ?_,(h2.obj b o ho hp hm).2⟩⟩
  ·
   rcases hx with hx|hx
   · exact hm hx
   · have:=Dq hc;omega
  ·
   rcases hx with hx|hx
   · exact hm hx
   · subst hx;simp at ho
 have hI:=(Hp M0 w0 S rs).st _ _ _ hb h
 refine ⟨⟨hI.m0,fun b o hm=> .inl (hI.m b o hm),hI.os,hI.tape,hI.output,hI.size,hI.block,fun b o hm=> ?_,fun r hr=> ?_,?_⟩,he⟩
 ·
  rcases hm with hm|hm
  · exact hI.bd b o hm
  · omega
 ·
  rcases List.mem_cons.1 hr with rfl|hr
  ·
   refine ⟨⟨fun o=> .inr rfl,heap_alloc_new w _⟩,fun b hbk=> ?_⟩
   simp only [BN,Option.some.injEq] at hbk
   subst hbk
   exact ⟨by omega,by simp [BN];exact h.size⟩
  ·
   obtain ⟨h3,h4⟩:=h.hold r hr
   exact ⟨r.st _ _ _ _ he (fun b hbk=>⟨hb.block b (h4 b hbk).1,fun _ x=> .inl x⟩) h3,fun b hbk=>⟨by have:=(h4 b hbk).1;omega,(h4 b hbk).2⟩⟩
 ·
  refine List.pairwise_cons.2 ⟨fun r hr b TQ Q7=> ?_,hI.nd⟩
  simp only [BN,Option.some.injEq] at TQ
  subst TQ
  have:=((h.hold r hr).2 _ Q7).1
  omega
theorem A1.putObj {M:Av} {w:World} {j b:Nat} {x:Obj} (y:Obj) (h:A1 M0 w0 S rs M w) (hj:rs[j]? =some (BN b x)):A1 M0 w0 S (rs.set j (BN b y)) M (w.putObj b y)∧Ext M w M (w.putObj b y):=by
 obtain ⟨⟨hM,hx⟩,hbk⟩:=h.hold _ (List.mem_of_getElem? hj)
 have hlt:b<w.heap.size:=(hbk b rfl).1
 have hsz:(w.putObj b y).heap.size=w.heap.size:=by simp [World.putObj]
 have he:Ext M w M (w.putObj b y):=by
  refine ⟨by omega,fun a v hc hm=>⟨hm,?_⟩,fun k o ho _ hm=>⟨hm,?_⟩⟩
  ·
   have hne:a.block≠b:=fun e=>hm (e ▸ hM _)
   rw [World.cell?_of_block (w:=w) (World.putObj_heap_other hne)];exact hc
  ·
   have hne:k≠b:=fun e=>hm (e ▸ hM _)
   exact (World.putObj_heap_other hne).trans ho
 refine ⟨h.replace hj he rfl rfl rfl (fun k _ hne=>World.putObj_heap_other (fun e=>hne (by rw [e];rfl))) rfl (fun _ _ hm _=>hm) (fun b' o hm=>by have:=h.bd b' o hm;omega) ⟨hM,World.putObj_heap_same hlt⟩ rfl (fun b' hb'=>⟨?_,.inl hb'⟩),he⟩
 simp only [BN,Option.some.injEq] at hb'
 subst hb';omega
end
def fZ (P:Program) (gf:Nat) (lb:Array Value) {α:Type} (enc:α→Value) (xs:List α) (own:List α→List A0):Prop:=
 ∀M0 w0 S (l:Nat) (β:Type) (R Rx:List α→β→List A0),
  (∀pre x d M w,(pre++[x])<+:xs→A1 M0 w0 S (own (pre++[x])++R pre d) M w→YieldAt (Fe none) 0 P l #[enc x] w fun e w'=>∃M' d',Ext M w M' w'∧
   ((e= .returned (.bool true)∧A1 M0 w0 S (own (pre++[x])++R (pre++[x]) d') M' w')∨(e= .returned (.bool false)∧A1 M0 w0 S (own (pre++[x])++Rx (pre++[x]) d') M' w')))→
  ∀d M w,A1 M0 w0 S (own []++R [] d) M w→CallsIn (Fe none) 0 P gf (#[.func (.yield l) #[] #[]]++lb) w fun e w'=>(∃v,e= .returned v)∧∃M' d',Ext M w M' w'∧
   (A1 M0 w0 S (own xs++R xs d') M' w'∨∃pre,pre<+:xs∧A1 M0 w0 S (own pre++Rx pre d') M' w')
def YN (M0:Av) (w0:World) (S:Nat→Prop) {β:Type} (rs:β→List A0) (rx:Code→β→List A0):Exit→Act→World→Prop
 | .normal,_,w=>∃d M,A1 M0 w0 S (rs d) M w
 | .ret,_,w=>∃d M,A1 M0 w0 S (rx .ret d) M w
 | .exit id,_,w=>∃d M,A1 M0 w0 S (rx (.exit id) d) M w
 | .goto t,_,w=>∃d M,A1 M0 w0 S (rx (.goto t) d) M w
 | .panic _,_,_=>False
 | .outgrown,_,_=>False
section
variable {P:Program} {M0:Av} {w0:World} {S:Nat→Prop} {rs:List A0}
theorem Tr.range {Q:Exit→Act→World→Prop} {n:Fm} {E:Env} {α β:Type} {p gf:Nat} {g:Operand} {lb:Array Value} {enc:α→Value} {xs:List α} {own:List α→List A0} {assign body:Code} (E':α→Env) (R:List α→β→List A0) (Rx:Code→List α→β→List A0) (d0:β)
  (n_:fZ P gf lb enc xs own) (eg:∀args w,(callFunc gf args).run P w= .ok (.enter gf args) w) (hg:VL E g (is (.func (.func gf) #[] lb))) (Yn:rs.Perm (own []++R [] d0))
  (hassign:∀l D rec M1 w1 pre x d,(pre++[x])<+:xs→∀a,a.tmps.size=n.sz→Ek M1 w1 E a→∀M w,A1 M0 w0 S (own (pre++[x])++(BN l rec::BN D (.deferred (some []))::Ai M1 w1::R pre d)) M w→
   assign.wpIn (Fe (some l)) 0 P (Exit.then (St ⟨n.sz,[]⟩ (E' x) (Hp M0 w0 S (own (pre++[x])++(BN l rec::BN D (.deferred (some []))::Ai M1 w1::R pre d)))) (fun _ _ _=>False)) { tmps:=a.tmps.setIfInBounds p (enc x),defers:=[] } w)
  (hbody : ∀ l D rec M1 w1 pre x d, (pre ++ [x]) <+: xs → Tr (ko P (some l)) ⟨n.sz, []⟩ (E' x) (Hp M0 w0 S (own (pre ++ [x]) ++ (BN l rec :: BN D (.deferred (some [])) :: Ai M1 w1 :: R pre d))) body
   (YN M0 w0 S (fun d=>own (pre++[x])++(BN l rec::BN D (.deferred (some []))::Ai M1 w1::R (pre++[x]) d)) (fun c d=>own (pre++[x])++(BN l rec::BN D (.deferred (some []))::Ai M1 w1::Rx c (pre++[x]) d))))
  (hdone:∀l D rec M1 w1 d,Fin ⟨n.sz,{ target:= .collected D,args:= #[] }::n.df⟩ E (Hp M0 w0 S (own xs++(BN l rec::BN D (.deferred (some []))::Ai M1 w1::R xs d))) Q .normal)
  (hstop:∀l D rec M1 w1 c pre d,pre<+:xs→Tr (ko P none) ⟨n.sz,{ target:= .collected D,args:= #[] }::n.df⟩ E (Hp M0 w0 S (own pre++(BN l rec::BN D (.deferred (some []))::Ai M1 w1::Rx c pre d))) c Q):
  Tr (ko P none) n E (Hp M0 w0 S rs) (.rangeFunc g #[p] assign body) Q:=by
 intro a w ⟨M,hsz,hdf,hE,hI⟩
 have hI:A1 M0 w0 S rs M w:=hI
 refine wpIn_rangeFunc ?_
 intro fn hfn
 obtain ⟨rec,Qy⟩:∃rec:LoopState→Option Code→Loop,rec=fun st pe=>{ state:=st,pending:=pe,fn,tmps:=a.tmps,params:= #[p],assign,body,defers:=w.heap.size }:=⟨_,rfl⟩
 -- what is held ahead of the call
 have oG:=A1.perm Yn hI
 obtain ⟨bT,e3⟩:=oG.V_ (.deferred (some []))
 obtain ⟨Yy,e4⟩:=bT.V_ (.loop (rec .ready none))
 obtain ⟨W1,mG⟩:∃W1,(w.alloc (.deferred (some []))).alloc (.loop (rec .ready none))=W1:=⟨_,rfl⟩
 have hs1:(w.alloc (.deferred (some []))).heap.size=w.heap.size+1:=by simp
 rw [mG,hs1] at Yy e4
 obtain ⟨M1,oH⟩:∃M1:Av,M1=(fun b o=>(M b o∨b=w.heap.size)∨b=w.heap.size+1):=⟨_,rfl⟩
 rw [←oH] at Yy e4
 have e1:Ext M w M1 W1:=e3.trans e4
 obtain ⟨l,hl⟩:∃l,l=w.heap.size+1:=⟨_,rfl⟩
 obtain ⟨D,hD⟩:∃D,D=w.heap.size:=⟨_,rfl⟩
 rw [←hl] at Yy
 rw [←hD] at Yy
 have fc:Ek M1 W1 E a:=fun s q hq=>q.st _ _ _ _ _ e1 (hE s q hq)
 have hI5:A1 M0 w0 S (own []++(BN l (.loop (rec .ready none))::BN D (.deferred (some []))::Ai M1 W1::R [] d0)) M1 W1:=by
  refine A1.perm ?_ (A1.L8 Yy (r:=Ai M1 W1) rfl (Ext.refl _ _))
  refine List.Perm.trans (l₂:=(BN l (.loop (rec .ready none))::BN D (.deferred (some []))::Ai M1 W1::R [] d0)++own []) ?_ List.perm_append_comm
  refine (List.Perm.swap _ _ _).trans (List.Perm.cons _ ((List.Perm.swap _ _ _).trans (List.Perm.cons _ (List.Perm.cons _ List.perm_append_comm))))
 have ix:∀(os:List A0) (r:A0) (tl:List A0),(os++r::tl)[os.length]? =some r:=fun os r tl=>by simp
 have sx:∀(os:List A0) (r r':A0) (tl:List A0),(os++r::tl).set os.length r'=os++r'::tl:=fun os r r' tl=>by simp
 have mH:∀(os:List A0) (r1 r2 r:A0) (tl:List A0),(os++r1::r2::r::tl)[os.length+2]? =some r:=fun os r1 r2 r tl=>by
  rw [List.getElem?_append_right (by omega)];simp
 have mI:∀(os:List A0) (r1 r2 r r':A0) (tl:List A0),(os++r1::r2::r::tl).set (os.length+2) r'=os++r1::r2::r'::tl:=fun os r1 r2 r r' tl=>by
  rw [List.set_append_right _ _ (by omega)];simp
 have kr:=hdone;have ku:=hstop
 refine ⟨l,[{ target:= .collected D,args:= #[] }],W1,{ target:= .fn (.func gf) lb,args:= #[.func (.yield l) #[] #[]] },W1,gf,#[.func (.yield l) #[] #[]]++lb,W1,?_,?_,fun _ _=>trivial,?_,fun h=>(by cases h),?_⟩
 · rw [hl,hD,←mG,Qy];exact run_enterLoop_outer _ _ _ _ _
 ·
  have hv:a.eval g= .func (.func gf) #[] lb:=by
   obtain ⟨q,h1,h2⟩:=hg
   exact h2 _ _ _ (Ce.eval hE h1)
  simp only [resolve,hv]
  simp [go_sem]
 · simp [invoke,go_sem,eg]
 ·
  refine (n_ M0 w0 S l (Code × β) (fun pre cd => BN l (.loop (rec .ready none)) :: BN D (.deferred (some [])) :: Ai M1 W1 :: R pre cd.2)
   (fun pre cd=>BN l (.loop (rec .done (some cd.1)))::BN D (.deferred (some []))::Ai M1 W1::Rx cd.1 pre cd.2) ?_ (.skip,d0) M1 W1 hI5).mono ?_
  ·
   rintro pre x ⟨c0,d⟩ M2 W2 hpre hI
   have Zc:W2.heap[l]? =some (.loop (rec .ready none)):=(hI.hold (BN l (.loop (rec .ready none))) (by simp)).1.2
   have hx2:Ext M1 W1 M2 W2:=(hI.hold (Ai M1 W1) (by simp)).1
   have hy:=run_yield (P:=P) (args:= #[enc x]) Zc (by rw [Qy];rfl)
   have KG:A1 M0 w0 S (own (pre++[x])++(BN l (.loop (rec .ready none))::BN D (.deferred (some []))::Ai M2 W2::R pre d)) M2 W2:=by
    have:=hI.CZ (r':=Ai M2 W2) (mH _ _ _ _ _) rfl rfl (Ext.refl _ _)
    rwa [mI] at this
   have hy2:(Instr.yield l #[enc x]).run P W2= .ok (.round l fn (a.tmps.setIfInBounds p (enc x)) assign body) W2:=by
    rw [hy,Qy];simp
   have ha:=hassign l D _ M2 W2 pre x d hpre a hsz (fun s q hq=>q.st _ _ _ _ _ hx2 (fc s q hq)) M2 W2 KG
   refine ⟨fn,_,assign,body,hy2,roundIn_of_wpIn (F:=Fe none) trivial (wpIn_mono (F:=(Fe none).inRound l) ha ?_)⟩
   intro e a3 W3 hq
   cases e with
   |normal=>
    obtain ⟨M3,hs3,hd3,hE3,bT⟩:=hq
    have bT:A1 M0 w0 S (own (pre++[x])++(BN l (.loop (rec .ready none))::BN D (.deferred (some []))::Ai M2 W2::R pre d)) M3 W3:=bT
    have hl3:W3.heap[l]? =some (.loop (rec .ready none)):=(bT.hold (BN l (.loop (rec .ready none))) (by simp)).1.2
    obtain ⟨Yy,e4⟩:=bT.putObj (.loop { rec .ready none with state:= .busy }) (ix _ _ _)
    rw [sx] at Yy
    refine ⟨_,run_beginRound hl3 (by rw [Qy]),?_⟩
    refine wpIn_mono (F:=(Fe none).inRound l) (hbody l D _ M2 W2 pre x d hpre a3 _ ⟨M3,hs3,hd3,fun s q hq=>q.st _ _ _ _ _ e4 (hE3 s q hq),Yy⟩) ?_
    have fin:∀(jump:Option Code) (tl:List A0) (W5:World) (M5:Av),A1 M0 w0 S (own (pre++[x])++(BN l (.loop { rec .ready none with state:= .busy })::BN D (.deferred (some []))::Ai M2 W2::tl)) M5 W5→
      ∃w6,(Instr.endRound l jump).run P W5= .ok (.bool jump.isNone) w6∧Ext M2 W2 M5 w6∧A1 M0 w0 S (own (pre++[x])++(BN l (.loop (rec (if jump.isNone then .ready else .done) jump))::BN D (.deferred (some []))::Ai M1 W1::tl)) M5 w6:=by
     intro jump tl W5 M5 h5
     have k6:W5.heap[l]? =some (.loop { rec .ready none with state:= .busy }):=(h5.hold (BN l (.loop { rec .ready none with state:= .busy })) (by simp)).1.2
     have mJ:Ext M2 W2 M5 W5:=(h5.hold (Ai M2 W2) (by simp)).1
     obtain ⟨h6,e6⟩:=h5.putObj (.loop { rec .ready none with state:=if jump.isNone then .ready else .done,pending:=jump }) (ix _ _ _)
     rw [sx] at h6
     have h7:=h6.CZ (r':=Ai M1 W1) (mH _ _ _ _ _) rfl rfl (hx2.trans (mJ.trans e6))
     rw [mI] at h7
     refine ⟨_,run_endRound jump k6,mJ.trans e6,?_⟩
     rw [Qy] at h7 ⊢
     exact h7
    intro e5 a5 W5 hp
    cases e5 with
    |normal=>
     obtain ⟨d5,M5,h5⟩:=hp
     obtain ⟨w6,g1,g2,g3⟩:=fin none _ _ _ h5
     exact ⟨_,_,g1,M5,(.skip,d5),g2,.inl ⟨rfl,g3⟩⟩
    |ret=>
     obtain ⟨d5,M5,h5⟩:=hp
     obtain ⟨w6,g1,g2,g3⟩:=fin (some .ret) _ _ _ h5
     exact ⟨_,_,g1,M5,(.ret,d5),g2,.inr ⟨rfl,g3⟩⟩
    |exit id=>
     obtain ⟨d5,M5,h5⟩:=hp
     obtain ⟨w6,g1,g2,g3⟩:=fin (some (.exit id)) _ _ _ h5
     exact ⟨_,_,g1,M5,(.exit id,d5),g2,.inr ⟨rfl,g3⟩⟩
    |goto t=>
     obtain ⟨d5,M5,h5⟩:=hp
     obtain ⟨w6,g1,g2,g3⟩:=fin (some (.goto t)) _ _ _ h5
     exact ⟨_,_,g1,M5,(.goto t,d5),g2,.inr ⟨rfl,g3⟩⟩
    |panic ch=>exact hp.elim
    |outgrown=>exact hp.elim
   |exit id=>exact hq.elim
   |goto t=>exact hq.elim
   |ret=>exact hq.elim
   |panic ch=>exact hq.elim
   |outgrown=>exact hq.elim
  ·
   rintro e W2 ⟨⟨v,rfl⟩,M2,⟨c2,d2⟩,hx2,h2⟩
   have hend:∀(os tl:List A0) (st:LoopState) (pe:Option Code),st≠ .busy→A1 M0 w0 S (os++(BN l (.loop (rec st pe))::BN D (.deferred (some []))::Ai M1 W1::tl)) M2 W2→
     ∃w6,(Instr.endLoop l).run P W2= .ok pe w6∧Ext M2 W2 M2 w6∧A1 M0 w0 S (os++(BN l (.loop { rec st pe with state:= .exhausted })::BN D (.deferred (some []))::Ai M1 W1::tl)) M2 w6:=by
    intro os tl st pe hst h5
    have k6:W2.heap[l]? =some (.loop (rec st pe)):=(h5.hold (BN l (.loop (rec st pe))) (by simp)).1.2
    obtain ⟨h6,e6⟩:=h5.putObj (.loop { rec st pe with state:= .exhausted }) (ix _ _ _)
    rw [sx] at h6
    have:=run_endLoop (P:=P) k6 (by rw [Qy];exact hst)
    refine ⟨_,?_,e6,h6⟩
    rw [this,Qy]
   rcases h2 with h2|⟨pre,hpre,h2⟩
   ·
    obtain ⟨w6,g1,g2,g3⟩:=hend _ _ _ _ (by simp) h2
    exact ⟨none,w6,g1,hdone l D _ M1 W1 d2 _ _ ⟨M2,hsz,by show _::a.defers=_;rw [hdf],fun s q hq=>q.st _ _ _ _ _ g2 (q.st _ _ _ _ _ hx2 (fc s q hq)),g3⟩⟩
   ·
    obtain ⟨w6,g1,g2,g3⟩:=hend _ _ _ _ (by simp) h2
    exact ⟨some c2,w6,g1,hstop l D _ M1 W1 c2 pre d2 hpre _ _ ⟨M2,hsz,by show _::a.defers=_;rw [hdf],fun s q hq=>q.st _ _ _ _ _ g2 (q.st _ _ _ _ _ hx2 (fc s q hq)),g3⟩⟩
end
section
variable {P:Program} {M0:Av} {w0:World} {S:Nat→Prop} {rs:List A0}
end
section
variable {P:Program}
end
end Cp
namespace Cp
open Go Go.RowKit Go.Great
section
variable {P:Program} {L:Lg P} {n:Fm} {z0:Value} {fz:Nat} {E:Env} {M0:Av} {w0:World} {S:Nat→Prop} {rs:List A0} {o:Oper} {κ:Type} [DecidableEq κ] {enc:κ→Value}
variable {Q:Exit→Act→World→Prop} {ops:Array Oper} {r:List Oper}
end
section
variable {P:Program} {L:Lg P} {n:Fm} {E:Env} {M0:Av} {w0:World} {S:Nat→Prop} {rs:List A0} {ε:Type} {res:ε→List A0} {Q:Exit→Act→World→Prop} {c:Code} {X:List ε} {f:ε→Value} {g:ε→Pr}
end
section
variable {P:Program} {L:Lg P} {n:Fm} {E:Env} {M0:Av} {w0:World} {S:Nat→Prop} {rs:List A0} {o:Oper} {Q:Exit→Act→World→Prop} {c:Code}
theorem KY {α:Type} {f:α→List Pr} {l:List α} {j:Nat} {x:α} (h:l[j]? =some x):(l.map f)[((j:Nat):Int).toNat]? =some (f x):=by rw [Int.toNat_natCast,List.getElem?_map,h];rfl
theorem Tr.JY {e:TypeId} {sz:Nat} {rows:List (List Pr)} {v:Value} {p:Pr} (j s:Nat) (hj:rs[j]? =some (BA e sz rows v)) (hl:∀r∈rows,r.length=sz) (hs:E.lookup s=some p) (hp:Pr.le p (is v)) (k:Tr L n ((s,slice sz rows)::E) (Hp M0 w0 S (rs.set j Bz)) c Q):Tr L n E (Hp M0 w0 S rs) c Q:=by
 intro a w ha
 obtain ⟨M,k1,k2,k3,k4⟩:=ha
 have k4:A1 M0 w0 S rs M w:=k4
 obtain ⟨M1,h1,h2,h3⟩:=k4.Zg hj hl
 refine k a w ⟨M1,k1,k2,fun t q hq=> ?_,h2⟩
 simp only [List.lookup] at hq
 split at hq
 ·
  rename_i e1
  have:t=s:=by simpa using e1
  subst this
  simp only [Option.some.injEq] at hq
  subst hq
  have h4:_=v:=hp _ _ _ (k3 t p hs)
  rw [h4];exact h3
 · exact q.st _ _ _ _ _ h1 (k3 t q hq)
theorem Tr.WX {e:TypeId} {sz:Nat} {rows:List (List Pr)} {v:Value} (j:Nat) (Af:List (List Pr)) (hj:rs[j]? =some (BA e sz rows v)) (h:rows=Af) (k:Tr L n E (Hp M0 w0 S (rs.set j (BA e sz Af v))) c Q):Tr L n E (Hp M0 w0 S rs) c Q:=by
 subst h
 have e1:rs.set j (BA e sz rows v)=rs:=by
  apply List.ext_getElem?
  intro i
  rw [List.getElem?_set]
  split
  · rename_i hij;subst hij;first|exact hj.symm|(rw [if_pos (CD hj)];exact hj.symm)
  · rfl
 rwa [e1] at k
theorem Fin.WX {x:Exit} {e:TypeId} {sz:Nat} {rows:List (List Pr)} {v:Value} (j:Nat) (Af:List (List Pr)) (hj:rs[j]? =some (BA e sz rows v)) (h:rows=Af) (k:Fin n E (Hp M0 w0 S (rs.set j (BA e sz Af v))) Q x):Fin n E (Hp M0 w0 S rs) Q x:=by
 subst h
 have e1:rs.set j (BA e sz rows v)=rs:=by
  apply List.ext_getElem?
  intro i
  rw [List.getElem?_set]
  split
  · rename_i hij;subst hij;first|exact hj.symm|(rw [if_pos (CD hj)];exact hj.symm)
  · rfl
 rwa [e1] at k
theorem R5 {M:Av} {w:World} {t ty e:TypeId} {sz bytes:Nat} {zs:List Value} {rows Af:List (List Pr)} {v u:Value} {j:Nat} (ht:P.underlying t=some (.slice e)) (hz:BJ P e=some sz) (hby:CH P e=some bytes) (DU:Br P e=some zs) (hzl:zs.length=sz) (hone:zs.all (·.oneCell')=true) (hsz:0<sz)
  (h:A1 M0 w0 S rs M w) (hj:rs[j]? =some (BA e sz rows v)) (hl:∀r∈rows,r.length=sz) (hu:(slice sz Af).h M w u) (Dw:rows.length+Af.length≤maxLen) (hfit:(rows.length+Af.length)*bytes≤140737488355328):
  ∃v' w' M',(Builtin.append_ #[t,t] ty #[v,u]).run P w= .ok v' w'∧(lens (rows.length+Af.length)).h M' w' v'∧Ext M w M' w'∧A1 M0 w0 S (rs.set j (BA e sz (rows++Af) v')) M' w':=by
 have hjl:=CD hj
 rcases Nat.eq_zero_or_pos Af.length with h0|h0
 ·
  have gH:Af=[]:=List.eq_nil_of_length_eq_zero h0
  subst gH
  obtain ⟨A',c',hu,_⟩:=hu
  have hv:∃A c,v= .slice A rows.length c∧rows.length≤c:=by
   rcases (h.hold _ (List.mem_of_getElem? hj)).1 with ⟨rfl,A,rfl⟩|⟨b,cap,sp,rfl,h2,_⟩
   · exact ⟨A,0,rfl,Nat.le_refl _⟩
   · exact ⟨_,_,rfl,h2⟩
  obtain ⟨A,c,TW,SE⟩:=hv
  have hrun:=Gi (P:=P) (ty:=ty) (A:=A) (A':=A') (n:=rows.length) (c:=c) (c':=c') ht hz SE w
  refine ⟨v,w,M,by rw [hu,TW];exact hrun,⟨A,c,by rw [TW];rfl⟩,Ext.refl _ _,?_⟩
  rw [List.append_nil]
  have hse:rs.set j (BA e sz rows v)=rs:=by
   apply List.ext_getElem?
   intro i
   rw [List.getElem?_set]
   split
   · rename_i hij;subst hij;first|exact hj.symm|(rw [if_pos hjl];exact hj.symm)
   · rfl
  rw [hse];exact h
 ·
  rcases (h.hold _ (List.mem_of_getElem? hj)).1 with ⟨rfl,A,rfl⟩|⟨b,cap,sp,rfl,h2,h3,h4,h5⟩
  ·
   have h1:=h.blank hj
   obtain ⟨v',w',M',hrun,g1,g2,g3⟩:=OU A (ty:=ty) ht hz hby DU hzl hone hsz h1 (List.getElem?_set_self hjl) hu h0 (by simpa using Dw) (by simpa using hfit)
   rw [List.set_set] at g3
   have g4:=g3.CZ (r':=Bc e sz ([]++Af) v') (List.getElem?_set_self hjl) rfl rfl (.inr (g3.hold _ (List.mem_of_getElem? (List.getElem?_set_self hjl))).1)
   rw [List.set_set] at g4
   have g5:=A1.Eo g4 (List.getElem?_set_self hjl)
   rw [List.set_set] at g5
   exact ⟨v',w',M',hrun,by simpa using g1,g2,g5⟩
  ·
   have h6:=h.Pq (r':=Bc e sz rows (.slice (some ⟨b,0,none⟩) rows.length (cap+1))) hj (fun b hb=>hb) rfl (.inr ⟨b,cap+1,sp,rfl,h2,h3,h4,h5⟩)
   obtain ⟨v',w',M',hrun,g1,g2,g3⟩:=RO (ty:=ty) ht hz hby DU hzl hone hsz h6 (List.getElem?_set_self hjl) hl hu h0 Dw hfit
   rw [List.set_set] at g3
   have g5:=A1.Eo g3 (List.getElem?_set_self hjl)
   rw [List.set_set] at g5
   exact ⟨v',w',M',hrun,g1,g2,g5⟩
theorem FI {t e:TypeId} {x y:Operand} {sz' sz bytes d:Nat} {zs:List Value} {rows:List (List Pr)} {j:Nat} (hg:o.guard=none) (hd:o.dst=some d) (hn:d<n) (ho:o.op= .call { callee:= .builtin .append,args:= #[x,y],argTypes:= #[t,t] })
  (ht:P.underlying t=some (.slice e)) (hz:BJ P e=some sz) (hby:CH P e=some bytes) (DU:Br P e=some zs) (hzl:zs.length=sz) (hone:zs.all (·.oneCell')=true) (hsz:0<sz)
  (hx:VL E x (full sz' [])) (hy:VL E y (slice sz rows)) (Dw:rows.length≤maxLen) (hfit:rows.length*bytes≤140737488355328):Du P M0 w0 S n j (SR.c Bz) ⟨d,BA e sz rows⟩ o E (lens rows.length):=by
 refine ⟨hg,fun M w a rs L9 he hI hj=> ?_⟩
 have h2:=hy.ev he (by simp [ho,Op.operands,Call.operands])
 obtain ⟨_,A,h1⟩:=hx.ev he (by simp [ho,Op.operands,Call.operands])
 simp only [List.length_nil] at h1
 have hj':rs[j]? =some Bz:=hj
 have hjl:=CD hj'
 have h3:=hI.Pq (r':=BA e sz [] (.slice A 0 0)) hj' (fun b hb=>by cases A<;>cases hb) rfl (.inl ⟨rfl,A,rfl⟩)
 obtain ⟨v',w',M',hrun,g1,g2,g3⟩:=R5 (ty:=o.type) ht hz hby DU hzl hone hsz h3 (List.getElem?_set_self hjl) (fun r hr=>by cases hr) h2 (by simpa using Dw) (by simpa using hfit)
 rw [List.set_set] at g3
 have DO:(execOp a.eval o).run P w= .ok (.value v') w':=by simp [execOp,ho,resolve,invoke,builtin,h1,hrun]
 rw [DO]
 refine ⟨M',by simpa using g1,g2,?_⟩
 have:(SR.at_ (a.put o.dst v') ⟨d,BA e sz rows⟩)=BA e sz rows v':=by unfold SR.at_ Slot.val;dsimp only;rw [hd,Bf (by rw [L9];exact hn)]
 rw [this];exact g3
theorem Cy {t e:TypeId} {s:Tmp} {y:Operand} {sz bytes d:Nat} {zs:List Value} {rows Af:List (List Pr)} {j:Nat} (hg:o.guard=none) (hd:o.dst=some d) (hn:d<n) (ho:o.op= .call { callee:= .builtin .append,args:= #[.tmp s,y],argTypes:= #[t,t] })
  (ht:P.underlying t=some (.slice e)) (hz:BJ P e=some sz) (hby:CH P e=some bytes) (DU:Br P e=some zs) (hzl:zs.length=sz) (hone:zs.all (·.oneCell')=true) (hsz:0<sz)
  (hy:VL E y (slice sz Af)) (hl:∀r∈rows,r.length=sz) (Dw:rows.length+Af.length≤maxLen) (hfit:(rows.length+Af.length)*bytes≤140737488355328):Du P M0 w0 S n j ⟨s,BA e sz rows⟩ ⟨d,BA e sz (rows++Af)⟩ o E (lens (rows.length+Af.length)):=by
 refine ⟨hg,fun M w a rs L9 he hI hj=> ?_⟩
 have h2:=hy.ev he (by simp [ho,Op.operands,Call.operands])
 have hj':rs[j]? =some (BA e sz rows (a.eval (.tmp s))):=hj
 obtain ⟨v',w',M',hrun,g1,g2,g3⟩:=R5 (ty:=o.type) ht hz hby DU hzl hone hsz hI hj' hl h2 Dw hfit
 have DO:(execOp a.eval o).run P w= .ok (.value v') w':=by simp [execOp,ho,resolve,invoke,builtin,hrun]
 rw [DO]
 refine ⟨M',g1,g2,?_⟩
 have:(SR.at_ (a.put o.dst v') ⟨d,BA e sz (rows++Af)⟩)=BA e sz (rows++Af) v':=by unfold SR.at_ Slot.val;dsimp only;rw [hd,Bf (by rw [L9];exact hn)]
 rw [this];exact g3
end
section
variable {P:Program} {L:Lg P} {n:Fm} {E:Env} {M0:Av} {w0:World} {S:Nat→Prop} {rs:List A0} {o:Oper} {Q:Exit→Act→World→Prop} {c:Code} {r:List Oper} {ops:Array Oper}
def ff (r:A0):Prop:=∀M M2 w,(∀b o,M b o→M2 b o)→r.h M w→r.h M2 w
def Pt (ps:List Pr):Prop:=∀p∈ps,Gt p
theorem HL.free {ps:List Pr} {cs:List Value} {M M2:Av} {w:World} (hf:Pt ps) (h:HL M w ps cs):HL M2 w ps cs:=
 OO h.length fun k p hk=>by
  obtain ⟨u,hu,Y6⟩:=h.at_ k p hk
  exact ⟨u,hu,(hf p (List.mem_of_getElem? hk)).free _ _ _ _ Y6⟩
theorem WA {new:Bool} {b:Nat} {T:TypeId} {ps:List Pr} (hf:Pt ps):ff (AD new b T ps):=fun _ _ _ hs h=>by
 obtain ⟨h1,cs,h2,h3,h4⟩:=h
 exact ⟨fun o=>hs _ _ (h1 o),cs,h2,h3.free hf,h4⟩
theorem Qz {rows:List (List Pr)} {sp:List Value} (h:∀r∈rows,Pt r):Pt (rows.flatten++sp.map is):=fun p hp=>by
 rcases List.mem_append.1 hp with hp|hp
 ·
  obtain ⟨r,hr,hp⟩:=List.mem_flatten.1 hp
  exact h r hr p hp
 ·
  rw [List.mem_map] at hp
  obtain ⟨v,_,rfl⟩:=hp
  infer_instance
theorem WB {e:TypeId} {sz:Nat} {rows:List (List Pr)} {v:Value} (h:∀r∈rows,Pt r):ff (Bc e sz rows v):=fun M M2 w hs hh=>by
 rcases hh with h1|⟨b,cap,sp,h1,h2,h3,h4,h5⟩
 · exact .inl h1
 · exact .inr ⟨b,cap,sp,h1,h2,h3,h4,WA (Qz h) M M2 w hs h5⟩
theorem TO.perm {rs':List A0} (hp:rs.Perm rs') (k:TO P n ops r E (Hp M0 w0 S rs') Q):TO P n ops r E (Hp M0 w0 S rs) Q:=TO.conv (fun _ _ hs=>hs.perm hp) k
theorem Fin.fk {x:Exit} {ε:Type} {res:ε→List A0} {es:List ε} (Oe tail:List A0) (y:ε) (Yn:rs=res y++(Oe++(Nf res es++tail))) (k:Fin n E (Hp M0 w0 S (Oe++(Nf res (es++[y])++tail))) Q x):Fin n E (Hp M0 w0 S rs) Q x:=
 Fin.perm (by
  subst Yn
  rw [UJ]
  refine List.perm_append_comm.trans ?_
  rw [List.append_assoc,List.append_assoc]
  refine List.Perm.append_left _ ?_
  rw [List.append_assoc]
  exact List.Perm.append_left _ List.perm_append_comm) k
end
end Cp
namespace Go.Proofs.YtgilhkjlfongoaaGreat
open Go Go.RowKit Cp Go.Proofs.Tryz
structure GI where
 e:Z9
 w:Value
abbrev L1 (x:GI):List Pr:=[int x.e.num,strs x.e.GD,ints x.e.Cc,BB x.w (lens x.e.Bu.length)]
abbrev I3 (x:GI):List A0:=[Bc 3 1 (x.e.Bu.map fun n=>[int n]) x.w]
theorem TI {l:List Ac} {Aq:Int} (hN:BO l) (hg:0≤Aq∧Aq≤4000):Gu (α:=List GI×Value) Tryz.prog 13 [Bu l,int Aq] [] (fun _=>True) (fun x:List GI×Value=>fact (x.1.map (·.e)=La l Aq) (DT [is x.2,int 0])) (fun x=>Bc 55 4 (x.1.map L1) x.2::Nf I3 x.1):=by
  refine Gu.of Tryz.func13 rfl rfl (by exact Nat.le_of_ble_eq_true rfl) fun M0 w0 S rs M1 w1=> ?_
  haveI:=Classical.propDecidable (BO l)
  have hlen:=hN.len
  have hrl:=Qs l Aq
  obtain ⟨L5,bQ⟩:=hg
  refine Tr.seq ?_
  refine Tr.Ax ?_
  refine Ch.op rfl rfl (by decide) (A3 rfl (vl rfl)) ?_
  refine Ch.op rfl rfl (by decide) (A3 rfl (vl rfl)) ?_
  refine Ch.nil ?_
  refine Fin.go ?_
  refine Tr.seq ?_
  refine Tr.seq ?_
  refine Tr.Ax ?_
  refine Ch.op rfl rfl (by decide) (Al rfl (vl rfl)) ?_
  refine Ch.op rfl rfl (by decide) (Ah rfl (Cd) ⟨⟨_,rfl,Pr.le_refl _⟩,trivial⟩) ?_
  refine Ch.op rfl rfl (by decide) (Dt rfl (vl rfl)) ?_
  refine Ch.nil ?_
  refine Fin.go ?_
  refine Tr.cond rfl (fun h1=> ?_) (fun h1=> ?_)
  ·
    have q1:=EC.FW h1
    exfalso;simp_all
  ·
    have q1:=EC.FW h1
    refine Tr.skip ?_
    refine Fin.go ?_
    refine Tr.seq ?_
    refine Tr.seq ?_
    refine Tr.Ax ?_
    refine Ch.op rfl rfl (by decide) (Al rfl (vl rfl)) ?_
    refine Ch.op rfl rfl (by decide) (ok_int rfl (vl rfl) (vl rfl) rfl) ?_
    refine Ch.op rfl rfl (by decide) (Al rfl (vl rfl)) ?_
    refine Ch.cases 16 rfl (fun h2=> ?_) (fun h2=> ?_)
    ·
      have q2:=EC.FW h2
      exfalso;omega
    ·
      have q2:=EC.FW h2
      refine Ch.yes rfl rfl rfl h2 rfl (by decide) (Al rfl (vl rfl)) ?_
      refine Ch.yes rfl rfl rfl h2 rfl (by decide) (ok_int rfl (vl rfl) (vl rfl) rfl) ?_
      refine Ch.op rfl rfl (by decide) (Dd rfl (vl rfl) h2 (vl rfl)) ?_
      refine Ch.nil ?_
      refine Fin.go ?_
      refine Tr.cond rfl (fun h3=> ?_) (fun h3=> ?_)
      ·
        have q3:=EC.FW h3
        exfalso;omega
      ·
        have q3:=EC.FW h3
        refine Tr.skip ?_
        refine Fin.go ?_
        refine Tr.seq ?_
        refine Tr.Ax ?_
        refine Ch.op rfl rfl (by decide) (Al rfl (vl rfl)) ?_
        refine Ch.op rfl rfl (by decide) (Al rfl (vl rfl)) ?_
        refine Ch.op rfl rfl (by decide) (Ah rfl (S1 (YD hN) hN.j9 (by omega)) ⟨⟨_,rfl,Pr.le_refl _⟩,⟨_,rfl,Pr.le_refl _⟩,trivial⟩) ?_
        refine Ch.op rfl rfl (by decide) (A3 rfl (vl rfl)) ?_
        refine Ch.nil ?_
        refine Fin.go ?_
        refine Tr.weak [(0,_),(6,_)] ⟨⟨_,rfl,Pr.le_refl _⟩,⟨_,rfl,Pr.le_refl _⟩,trivial⟩ ?_
        refine Tr.seq ?_
        refine Tr.Ax ?_
        refine Ch.op rfl rfl (by decide) (A3 rfl (vl rfl)) ?_
        refine Ch.nil ?_
        refine Fin.go ?_
        refine Tr.seq ?_
        refine Tr.seq ?_
        refine Tr.Ax ?_
        refine Ch.op rfl rfl (by decide) (A3 rfl (vl rfl)) ?_
        refine Ch.nil ?_
        refine Fin.go ?_
        refine Tr.block ?_
        refine Tr.K4 55 4 ?_
        refine Tr.Ty [(0,_),(6,_)] ⟨⟨_,rfl,Pr.le_refl _⟩,⟨_,rfl,Pr.le_refl _⟩,trivial⟩ (fun (i:Nat) (X:List GI) v=>[(8,int ((i:Nat):Int)),(7,BB v (lens ((X.map L1)).length))]) (fun (i:Nat) (X:List GI) v=>Hp M0 w0 S (Bc 55 4 ((X.map L1)) v::(Nf I3 X++Ai M1 w1::rs))) (fun (i:Nat) (X:List GI)=>i≤l.length∧X.map (·.e)=FG l Aq i) (fun (i:Nat) (X:List GI)=>l.length-i) (0) ([]) (.slice none 0 0) (⟨Nat.zero_le _,rfl⟩) ⟨⟨_,rfl,Pr.le_refl _⟩,⟨_,rfl,Ib (by rfl)⟩,trivial⟩ (fun _ _ h=>h) ?_
        rintro i X v ⟨Dn,hX⟩
        refine Tr.seq ?_
        refine Tr.seq ?_
        refine Tr.Ax ?_
        refine Ch.op rfl rfl (by decide) (Al rfl (vl rfl)) ?_
        refine Ch.op rfl rfl (by decide) (Al rfl (vl rfl)) ?_
        first
          |refine Ch.op rfl rfl (by decide) (CV rfl Tryz.underlying31 (vl rfl)) ?_
          |refine Ch.op rfl rfl (by decide) (Gw rfl Tryz.underlying31 (vl rfl)) ?_
        refine Ch.op rfl rfl (by decide) (ok_int rfl (vl rfl) (vl rfl) rfl) ?_
        refine Ch.nil ?_
        refine Fin.go ?_
        refine Tr.cond rfl (fun h4=> ?_) (fun h4=> ?_)
        ·
          have q4:=EC.FW h4
          have fm:i<l.length:=Ak h4
          obtain ⟨f,oJ⟩:=at_ fm
          have htl:=Lp l Aq i
          have iP:X.length≤i:=by have h9:=congrArg List.length hX;rw [List.length_map] at h9;omega
          refine Tr.skip ?_
          refine Fin.go ?_
          refine Tr.seq ?_
          refine Tr.block ?_
          refine Tr.seq ?_
          refine Tr.seq ?_
          refine Tr.Ax ?_
          refine Ch.op rfl rfl (by decide) (Al rfl (vl rfl)) ?_
          refine Ch.op rfl rfl (by decide) (Al rfl (vl rfl)) ?_
          refine Ch.op rfl rfl (by decide) (AB rfl Tryz.underlying22 A4 (vl rfl) (vl rfl) (by omega) (Am (M9 fm))) ?_
          refine Ch.op rfl rfl (by decide) (Bo rfl Au (vl rfl)) ?_
          refine Ch.op rfl rfl (by decide) (Al rfl (vl rfl)) ?_
          refine Ch.op rfl rfl (by decide) (ok_int rfl (vl rfl) (vl rfl) rfl) ?_
          refine Ch.nil ?_
          refine Fin.go ?_
          refine Tr.weak [(0,_),(6,_),(7,_),(8,_),(34,_)] ⟨⟨_,rfl,Pr.le_refl _⟩,⟨_,rfl,Pr.le_refl _⟩,⟨_,rfl,Pr.le_refl _⟩,⟨_,rfl,Pr.le_refl _⟩,⟨_,rfl,Pr.le_refl _⟩,trivial⟩ ?_
          refine Tr.cond rfl (fun h5=> ?_) (fun h5=> ?_)
          ·
            have q5:=EC.FW h5
            refine Tr.exit ?_
            refine Fin.AG ?_
            refine Fin.AP ?_
            refine Fin.go ?_
            refine Tr.Ax ?_
            refine Ch.op rfl rfl (by decide) (Al rfl (vl rfl)) ?_
            first
              |(refine Ch.op rfl rfl (by decide) (BR rfl (vl rfl) (vl rfl) ?hin) ?_;case hin=>unfold C7;omega)
              |refine Ch.op rfl rfl (by decide) (ok_int rfl (vl rfl) (vl rfl) rfl) ?_
            refine Ch.op rfl rfl (by decide) (A3 rfl (vl rfl)) ?_
            refine Ch.nil ?_
            exact Fin.RD (i+1) (X) v (⟨⟨by omega,by first|(rw [M8 (by omega)];exact hX)|(rw [Ln (by omega),List.map_append,hX];rfl)⟩,by omega⟩) ⟨⟨_,rfl,AJ i⟩,⟨_,rfl,D0 (by simp)⟩,⟨_,rfl,Pr.le_refl _⟩,⟨_,rfl,Pr.le_refl _⟩,trivial⟩ (fun _ _ h=>h)
          ·
            have q5:=EC.FW h5
            refine Tr.skip ?_
            refine Fin.go ?_
            refine Tr.seq ?_
            refine Tr.CA ?_
            refine TO.op rfl rfl (by decide) (Al rfl (vl rfl)) ?_
            refine TO.op rfl rfl (by decide) (BS (rows:=[(0,[_])]) rfl cO QA ⟨⟨rfl,(VL.le (vl rfl) (AO _))⟩,trivial⟩ rfl) ?_
            refine TO.alloc rfl rfl (by decide) rfl ZP QA (fun b1=> ?_)
            refine TO.DK 0 rfl rfl rfl (vl rfl) (VL.le (vl rfl) (DC _)) rfl GR rfl rfl ?_
            refine TO.nil ?_
            refine Fin.go ?_
            refine Tr.seq ?_
            refine Tr.seq ?_
            refine Tr.Ax ?_
            refine Ch.op rfl rfl (by decide) (Al rfl (vl rfl)) ?_
            refine Ch.op rfl rfl (by decide) (A3 rfl (vl rfl)) ?_
            refine Ch.nil ?_
            refine Fin.go ?_
            refine Tr.block ?_
            have hent:=Mx (l:=l) (VM l Aq) (r:=i) i (Nat.le_refl _)
            refine Tr.Fj 0 [int ((i:Nat):Int),strs (CF l (A5 l Aq) i i).GD,ints (CF l (A5 l Aq) i i).Cc,BB (.slice none 0 0) (lens (CF l (A5 l Aq) i i).Bu.length)] rfl ⟨Pr.le_refl _,by rw [hent];exact AZ 1,by rw [hent];exact AZ 1,by rw [hent];exact Ib rfl,trivial⟩ ?_
            refine Tr.K4 3 1 ?_
            refine Tr.Gy [(0,_),(6,_),(7,_),(8,_),(9,_)] ⟨⟨_,rfl,Pr.le_refl _⟩,⟨_,rfl,Pr.le_refl _⟩,⟨_,rfl,Pr.le_refl _⟩,⟨_,rfl,Pr.le_refl _⟩,⟨_,rfl,Pr.le_refl _⟩,trivial⟩ (fun (k:Nat) w=>[(10,int ((k:Nat):Int))]) (fun (k:Nat) w=>Hp M0 w0 S (Bc 3 1 (((CF l (A5 l Aq) i k).Bu.map fun n=>[int n])) w::AD true b1 55 [int ((i:Nat):Int),strs (CF l (A5 l Aq) i k).GD,ints (CF l (A5 l Aq) i k).Cc,BB w (lens (CF l (A5 l Aq) i k).Bu.length)]::Bc 55 4 ((X.map L1)) v::(Nf I3 X++Ai M1 w1::rs))) (fun (k:Nat)=>i≤k∧k≤l.length) (fun (k:Nat)=>l.length-k) (i) (.slice none 0 0) (⟨Nat.le_refl _,by omega⟩) ⟨⟨_,rfl,Pr.le_refl _⟩,trivial⟩ ((fun _ _ h=>EW (by rw [hent];rfl) h)) ?_
            rintro k w ⟨hik,oK⟩
            refine Tr.seq ?_
            refine Tr.seq ?_
            refine Tr.Ax ?_
            refine Ch.op rfl rfl (by decide) (Al rfl (vl rfl)) ?_
            refine Ch.op rfl rfl (by decide) (Al rfl (vl rfl)) ?_
            first
              |refine Ch.op rfl rfl (by decide) (CV rfl Tryz.underlying31 (vl rfl)) ?_
              |refine Ch.op rfl rfl (by decide) (Gw rfl Tryz.underlying31 (vl rfl)) ?_
            refine Ch.op rfl rfl (by decide) (ok_int rfl (vl rfl) (vl rfl) rfl) ?_
            refine Ch.nil ?_
            refine Fin.go ?_
            refine Tr.cond rfl (fun h6=> ?_) (fun h6=> ?_)
            ·
              have q6:=EC.FW h6
              have JB:k<l.length:=Ak h6
              obtain ⟨x,hx⟩:=at_ JB
              have hEl:=Lq l (A5 l Aq) i k
              refine Tr.skip ?_
              refine Fin.go ?_
              refine Tr.seq ?_
              refine Tr.block ?_
              refine Tr.seq ?_
              refine Tr.seq ?_
              refine Tr.Ax ?_
              refine Ch.op rfl rfl (by decide) (Al rfl (vl rfl)) ?_
              refine Ch.op rfl rfl (by decide) (Al rfl (vl rfl)) ?_
              refine Ch.op rfl rfl (by decide) (AB rfl Tryz.underlying22 A4 (vl rfl) (vl rfl) (by omega) (Am (M9 JB))) ?_
              refine Ch.op rfl rfl (by decide) (Bo rfl Au (vl rfl)) ?_
              refine Ch.op rfl rfl (by decide) (Al rfl (vl rfl)) ?_
              refine Ch.op rfl rfl (by decide) (ok_int rfl (vl rfl) (vl rfl) rfl) ?_
              refine Ch.nil ?_
              refine Fin.go ?_
              refine Tr.weak [(0,_),(6,_),(7,_),(8,_),(9,_),(10,_),(49,_)] ⟨⟨_,rfl,Pr.le_refl _⟩,⟨_,rfl,Pr.le_refl _⟩,⟨_,rfl,Pr.le_refl _⟩,⟨_,rfl,Pr.le_refl _⟩,⟨_,rfl,Pr.le_refl _⟩,⟨_,rfl,Pr.le_refl _⟩,⟨_,rfl,Pr.le_refl _⟩,trivial⟩ ?_
              refine Tr.cond rfl (fun h7=> ?_) (fun h7=> ?_)
              ·
                have q7:=EC.FW h7
                refine Tr.exit ?_
                refine Fin.AG ?_
                refine Fin.AP ?_
                refine Fin.go ?_
                refine Tr.Ax ?_
                refine Ch.op rfl rfl (by decide) (Al rfl (vl rfl)) ?_
                first
                  |(refine Ch.op rfl rfl (by decide) (BR rfl (vl rfl) (vl rfl) ?hin) ?_;case hin=>unfold C7;omega)
                  |refine Ch.op rfl rfl (by decide) (ok_int rfl (vl rfl) (vl rfl) rfl) ?_
                refine Ch.op rfl rfl (by decide) (A3 rfl (vl rfl)) ?_
                refine Ch.nil ?_
                first
                  | (have hst := Gc (l := l) (root := A5 l Aq) (r := i) (n := k) (by omega)
                     refine Fin.Fj 1 [int ((i:Nat):Int),strs (CF l (A5 l Aq) i (k+1)).GD,ints (CF l (A5 l Aq) i (k+1)).Cc,BB _ (lens (CF l (A5 l Aq) i (k+1)).Bu.length)] rfl ⟨Pr.le_refl _,by rw [hst];exact Pr.le_refl _,by rw [hst];exact Pr.le_refl _,by rw [hst];exact Pr.le_refl _,trivial⟩ ?_)
                  | (have hst := FC (root := A5 l Aq) (r := i) hx (by omega)
                     refine Fin.Fj 1 [int ((i:Nat):Int),strs (CF l (A5 l Aq) i (k+1)).GD,ints (CF l (A5 l Aq) i (k+1)).Cc,BB _ (lens (CF l (A5 l Aq) i (k+1)).Bu.length)] rfl ⟨Pr.le_refl _,by rw [hst];exact Pr.le_refl _,by rw [hst];unfold Eh;first|(rw [if_pos (by assumption)];exact Pr.le_refl _)|(rw [if_neg (by assumption)];exact Pr.le_refl _),D0 (by rw [hst];unfold Eh;simp),trivial⟩ ?_)
                exact Fin.C9 (k+1) w (⟨⟨by omega,by omega⟩,by omega⟩) ⟨⟨_,rfl,AJ k⟩,⟨_,rfl,Pr.le_refl _⟩,⟨_,rfl,Pr.le_refl _⟩,⟨_,rfl,Pr.le_refl _⟩,⟨_,rfl,Pr.le_refl _⟩,⟨_,rfl,Pr.le_refl _⟩,trivial⟩ (fun _ _ h=>EW (by first|(rw [FC (root:=A5 l Aq) (r:=i) hx (by omega)];unfold Eh;simp;done)|rw [Gc (l:=l) (root:=A5 l Aq) (r:=i) (n:=k) (by omega)]) h)
              ·
                have q7:=EC.FW h7
                refine Tr.skip ?_
                refine Fin.go ?_
                refine Tr.seq ?_
                refine Tr.CA ?_
                refine TO.op rfl rfl (by decide) (Bb rfl Gz (vl rfl)) ?_
                refine TO.rd 1 rfl rfl rfl (by decide) (AS rfl MP (vl rfl) rfl) ?_
                refine TO.op rfl rfl (by decide) (Al rfl (vl rfl)) ?_
                refine TO.op rfl rfl (by decide) (AM (xs:=[.tmp 52]) (rows:=[[_]]) rfl rfl Tryz.underlying22 A4 z3 rfl (by decide) ⟨⟨(by exact rfl),(VL.le (vl rfl) (AO _))⟩,trivial⟩ (by decide)) ?_
                refine TO.MK 0 rfl rfl (by decide) (F3 rfl rfl (by decide) rfl Tryz.underlying22 A4 MO z3 rfl (by decide) (by decide) (vl rfl) ⟨_,rfl,Bh _ _⟩ (A8 fun _=>rfl) (Nat.zero_lt_succ _) (by simp only [List.length_map,List.length_cons,List.length_nil];unfold maxLen;omega) (by simp only [List.length_map,List.length_cons,List.length_nil];omega)) (fun v1=> ?_)
                refine TO.op rfl rfl (by decide) (Bb rfl Gz (vl rfl)) ?_
                refine TO.CY 1 rfl rfl (AW rfl rfl (vl rfl) (VL.le (vl rfl) (AO _)) T2 rfl (by exact Nat.le_of_ble_eq_true rfl) rfl) ?_
                refine TO.nil ?_
                refine Fin.go ?_
                refine Tr.seq ?_
                refine Tr.Dv mixed [none,some (0,1,false,0),none,none,none,none,none,none,none,some (0,1,true,0)] (by kernel_rfl) ?_
                refine Cx.op rfl rfl (by decide) (fun _=>Bb rfl T4 (vl rfl)) ?_
                refine Cx.rd 1 rfl rfl rfl (by decide) (AS rfl cN (vl rfl) rfl) ?_
                refine Cx.op rfl rfl (by decide) (fun _=>Al rfl (vl rfl)) ?_
                refine Cx.op rfl rfl (by decide) (fun _=>Al rfl (vl rfl)) ?_
                refine Cx.op rfl rfl (by decide) (fun _=>AB rfl Tryz.underlying31 AY (vl rfl) (vl rfl) (by omega) (Am hx)) ?_
                refine Cx.op rfl rfl (by decide) (fun _=>Ct rfl T3 (vl rfl) rfl) ?_
                refine Cx.op rfl rfl (by decide) (fun _=>Bo rfl Fk (vl rfl)) ?_
                refine Cx.op rfl rfl (by decide) (fun _=>Ah rfl (S0 (by omega)) ⟨⟨_,rfl,Pr.le_refl _⟩,⟨_,rfl,Pr.le_refl _⟩,trivial⟩) ?_
                refine Cx.op rfl rfl (by decide) (fun _=>Bb rfl T4 (vl rfl)) ?_
                refine Cx.CY 1 rfl rfl (AW rfl rfl (vl rfl) (VL.le (vl rfl) (AO _)) i9 rfl (by exact Nat.le_of_ble_eq_true rfl) rfl) ?_
                refine Cx.nil ⟨rfl,?_⟩
                refine BP.done (BG.cons (BG.cons (BG.cons (BG.map _)))) ?_
                refine Fin.go ?_
                refine Tr.weak [(0,_),(6,_),(7,_),(8,_),(9,_),(10,_)] ⟨⟨_,rfl,Pr.le_refl _⟩,⟨_,rfl,Pr.le_refl _⟩,⟨_,rfl,Pr.le_refl _⟩,⟨_,rfl,Pr.le_refl _⟩,⟨_,rfl,Pr.le_refl _⟩,⟨_,rfl,Pr.le_refl _⟩,trivial⟩ ?_
                refine Tr.seq ?_
                refine Tr.Ax ?_
                refine Ch.op rfl rfl (by decide) (Al rfl (vl rfl)) ?_
                refine Ch.op rfl rfl (by decide) (Al rfl (vl rfl)) ?_
                refine Ch.op rfl rfl (by decide) (AB rfl Tryz.underlying31 AY (vl rfl) (vl rfl) (by omega) (Am hx)) ?_
                refine Ch.op rfl rfl (by decide) (Ct rfl P_ (vl rfl) rfl) ?_
                refine Ch.op rfl rfl (by decide) (Bo rfl Au (vl rfl)) ?_
                refine Ch.op rfl rfl (by decide) (ok_int rfl (vl rfl) (vl rfl) rfl) ?_
                refine Ch.nil ?_
                refine Fin.go ?_
                refine Tr.cond rfl (fun h8=> ?_) (fun h8=> ?_)
                ·
                  have q8:=EC.FW h8
                  refine Tr.Dv mixed [none,some (0,1,false,0),none,none,none,none,none,none,none,some (0,1,true,0)] (by kernel_rfl) ?_
                  refine Cx.op rfl rfl (by decide) (fun _=>Bb rfl T5 (vl rfl)) ?_
                  refine Cx.rd 1 rfl rfl rfl (by decide) (AS rfl MP (vl rfl) rfl) ?_
                  refine Cx.op rfl rfl (by decide) (fun _=>Al rfl (vl rfl)) ?_
                  refine Cx.op rfl rfl (by decide) (fun _=>Al rfl (vl rfl)) ?_
                  refine Cx.op rfl rfl (by decide) (fun _=>AB rfl Tryz.underlying31 AY (vl rfl) (vl rfl) (by omega) (Am hx)) ?_
                  refine Cx.op rfl rfl (by decide) (fun _=>Ct rfl P_ (vl rfl) rfl) ?_
                  refine Cx.op rfl rfl (by decide) (fun _=>Bo rfl Au (vl rfl)) ?_
                  refine Cx.op rfl rfl (by decide) (fun _=>Ah rfl (PO (by omega)) ⟨⟨_,rfl,Pr.le_refl _⟩,⟨_,rfl,Pr.le_refl _⟩,trivial⟩) ?_
                  refine Cx.op rfl rfl (by decide) (fun _=>Bb rfl T5 (vl rfl)) ?_
                  refine Cx.CY 1 rfl rfl (AW rfl rfl (vl rfl) (VL.le (vl rfl) (AO _)) T2 rfl (by exact Nat.le_of_ble_eq_true rfl) rfl) ?_
                  refine Cx.nil ⟨rfl,?_⟩
                  refine BP.done (BG.cons (BG.cons (BG.cons (BG.map _)))) ?_
                  refine Fin.block ?_
                  refine Fin.go ?_
                  refine Tr.weak [(0,_),(6,_),(7,_),(8,_),(9,_),(10,_)] ⟨⟨_,rfl,Pr.le_refl _⟩,⟨_,rfl,Pr.le_refl _⟩,⟨_,rfl,Pr.le_refl _⟩,⟨_,rfl,Pr.le_refl _⟩,⟨_,rfl,Pr.le_refl _⟩,⟨_,rfl,Pr.le_refl _⟩,trivial⟩ ?_
                  refine Tr.Ax ?_
                  refine Ch.op rfl rfl (by decide) (Al rfl (vl rfl)) ?_
                  first
                    |(refine Ch.op rfl rfl (by decide) (BR rfl (vl rfl) (vl rfl) ?hin) ?_;case hin=>unfold C7;omega)
                    |refine Ch.op rfl rfl (by decide) (ok_int rfl (vl rfl) (vl rfl) rfl) ?_
                  refine Ch.op rfl rfl (by decide) (A3 rfl (vl rfl)) ?_
                  refine Ch.nil ?_
                  first
                    | (have hst := Gc (l := l) (root := A5 l Aq) (r := i) (n := k) (by omega)
                       refine Fin.Fj 1 [int ((i:Nat):Int),strs (CF l (A5 l Aq) i (k+1)).GD,ints (CF l (A5 l Aq) i (k+1)).Cc,BB _ (lens (CF l (A5 l Aq) i (k+1)).Bu.length)] rfl ⟨Pr.le_refl _,by rw [hst];exact Pr.le_refl _,by rw [hst];exact Pr.le_refl _,by rw [hst];exact Pr.le_refl _,trivial⟩ ?_)
                    | (have hst := FC (root := A5 l Aq) (r := i) hx (by omega)
                       refine Fin.Fj 1 [int ((i:Nat):Int),strs (CF l (A5 l Aq) i (k+1)).GD,ints (CF l (A5 l Aq) i (k+1)).Cc,BB _ (lens (CF l (A5 l Aq) i (k+1)).Bu.length)] rfl ⟨Pr.le_refl _,by rw [hst];exact Pr.le_refl _,by rw [hst];unfold Eh;first|(rw [if_pos (by assumption)];exact Pr.le_refl _)|(rw [if_neg (by assumption)];exact Pr.le_refl _),D0 (by rw [hst];unfold Eh;simp),trivial⟩ ?_)
                  exact Fin.C9 (k+1) v1 (⟨⟨by omega,by omega⟩,by omega⟩) ⟨⟨_,rfl,AJ k⟩,⟨_,rfl,Pr.le_refl _⟩,⟨_,rfl,Pr.le_refl _⟩,⟨_,rfl,Pr.le_refl _⟩,⟨_,rfl,Pr.le_refl _⟩,⟨_,rfl,Pr.le_refl _⟩,trivial⟩ (fun _ _ h=>EW (by first|(rw [FC (root:=A5 l Aq) (r:=i) hx (by omega)];unfold Eh;simp;done)|rw [Gc (l:=l) (root:=A5 l Aq) (r:=i) (n:=k) (by omega)]) h)
                ·
                  have q8:=EC.FW h8
                  refine Tr.skip ?_
                  refine Fin.block ?_
                  refine Fin.go ?_
                  refine Tr.Ax ?_
                  refine Ch.op rfl rfl (by decide) (Al rfl (vl rfl)) ?_
                  first
                    |(refine Ch.op rfl rfl (by decide) (BR rfl (vl rfl) (vl rfl) ?hin) ?_;case hin=>unfold C7;omega)
                    |refine Ch.op rfl rfl (by decide) (ok_int rfl (vl rfl) (vl rfl) rfl) ?_
                  refine Ch.op rfl rfl (by decide) (A3 rfl (vl rfl)) ?_
                  refine Ch.nil ?_
                  first
                    | (have hst := Gc (l := l) (root := A5 l Aq) (r := i) (n := k) (by omega)
                       refine Fin.Fj 1 [int ((i:Nat):Int),strs (CF l (A5 l Aq) i (k+1)).GD,ints (CF l (A5 l Aq) i (k+1)).Cc,BB _ (lens (CF l (A5 l Aq) i (k+1)).Bu.length)] rfl ⟨Pr.le_refl _,by rw [hst];exact Pr.le_refl _,by rw [hst];exact Pr.le_refl _,by rw [hst];exact Pr.le_refl _,trivial⟩ ?_)
                    | (have hst := FC (root := A5 l Aq) (r := i) hx (by omega)
                       refine Fin.Fj 1 [int ((i:Nat):Int),strs (CF l (A5 l Aq) i (k+1)).GD,ints (CF l (A5 l Aq) i (k+1)).Cc,BB _ (lens (CF l (A5 l Aq) i (k+1)).Bu.length)] rfl ⟨Pr.le_refl _,by rw [hst];exact Pr.le_refl _,by rw [hst];unfold Eh;first|(rw [if_pos (by assumption)];exact Pr.le_refl _)|(rw [if_neg (by assumption)];exact Pr.le_refl _),D0 (by rw [hst];unfold Eh;simp),trivial⟩ ?_)
                  exact Fin.C9 (k+1) v1 (⟨⟨by omega,by omega⟩,by omega⟩) ⟨⟨_,rfl,AJ k⟩,⟨_,rfl,Pr.le_refl _⟩,⟨_,rfl,Pr.le_refl _⟩,⟨_,rfl,Pr.le_refl _⟩,⟨_,rfl,Pr.le_refl _⟩,⟨_,rfl,Pr.le_refl _⟩,trivial⟩ (fun _ _ h=>EW (by first|(rw [FC (root:=A5 l Aq) (r:=i) hx (by omega)];unfold Eh;simp;done)|rw [Gc (l:=l) (root:=A5 l Aq) (r:=i) (n:=k) (by omega)]) h)
            ·
              have q6:=EC.FW h6
              obtain rfl:k=l.length:=(by have:=Ao h6;omega)
              refine Tr.exit ?_
              refine Fin.AG ?_
              refine Fin.AG ?_
              refine Fin.AP ?_
              refine Fin.go ?_
              refine Tr.Fj 1 (L1 ⟨CF l (A5 l Aq) i l.length,w⟩) rfl ⟨int_eq (KU _ _ _ _).symm,Pr.le_refl _,Pr.le_refl _,Pr.le_refl _,trivial⟩ ?_
              refine Tr.CA ?_
              refine TO.op rfl rfl (by decide) (Al rfl (vl rfl)) ?_
              refine TO.rd 1 rfl rfl rfl (by decide) (Ae rfl Gj GR (vl rfl) rfl rfl) ?_
              refine TO.op rfl rfl (by decide) (AM (xs:=[.tmp 81]) (rows:=[_]) rfl rfl Tryz.underlying35 GR ZP rfl (by decide) ⟨⟨(by exact rfl),(VL.le (vl rfl) (DC _))⟩,trivial⟩ (by decide)) ?_
              refine TO.MK 2 rfl rfl (by decide) (F3 rfl rfl (by decide) rfl Tryz.underlying35 GR i_ ZP rfl (by decide) (by decide) (vl rfl) ⟨_,rfl,Bh _ _⟩ (A8 fun _=>rfl) (Nat.zero_lt_succ _) (by simp only [List.length_map,List.length_cons,List.length_nil];unfold maxLen;omega) (by simp only [List.length_map,List.length_cons,List.length_nil];omega)) (fun v2=> ?_)
              refine TO.op rfl rfl (by decide) (A3 rfl (vl rfl)) ?_
              refine TO.nil ?_
              refine Fin.block ?_
              refine Fin.go ?_
              refine Tr.weak [(0,_),(6,_),(7,_),(8,_)] ⟨⟨_,rfl,Pr.le_refl _⟩,⟨_,rfl,Pr.le_refl _⟩,⟨_,rfl,Pr.le_refl _⟩,⟨_,rfl,Pr.le_refl _⟩,trivial⟩ ?_
              refine Tr.Ax ?_
              refine Ch.op rfl rfl (by decide) (Al rfl (vl rfl)) ?_
              first
                |(refine Ch.op rfl rfl (by decide) (BR rfl (vl rfl) (vl rfl) ?hin) ?_;case hin=>unfold C7;omega)
                |refine Ch.op rfl rfl (by decide) (ok_int rfl (vl rfl) (vl rfl) rfl) ?_
              refine Ch.op rfl rfl (by decide) (A3 rfl (vl rfl)) ?_
              refine Ch.nil ?_
              refine Fin.drop 1 ?_
              refine Fin.fk (res:=I3) [_] (Ai M1 w1::rs) (⟨CF l (A5 l Aq) i l.length,w⟩:GI) rfl ?_
              exact Fin.RD (i+1) (X++[(⟨CF l (A5 l Aq) i l.length,w⟩:GI)]) v2 (⟨⟨by omega,by first|(rw [M8 (by omega)];exact hX)|(rw [Ln (by omega),List.map_append,hX];rfl)⟩,by omega⟩) ⟨⟨_,rfl,AJ i⟩,⟨_,rfl,D0 (by simp)⟩,⟨_,rfl,Pr.le_refl _⟩,⟨_,rfl,Pr.le_refl _⟩,trivial⟩ (fun _ _ h=>EW (by rw [List.map_append];rfl) h)
        ·
          have q4:=EC.FW h4
          obtain rfl:i=l.length:=(by have:=Ao h4;omega)
          refine Tr.exit ?_
          refine Fin.AG ?_
          refine Fin.AG ?_
          refine Fin.AP ?_
          refine Fin.go ?_
          refine Tr.seq ?_
          refine Tr.Ax ?_
          refine Ch.op rfl rfl (by decide) (Al rfl (vl rfl)) ?_
          refine Ch.op rfl rfl (by decide) (A3 rfl (vl rfl)) ?_
          refine Ch.op rfl rfl (by decide) (A3 rfl (vl rfl)) ?_
          refine Ch.nil ?_
          refine Fin.go ?_
          refine Tr.ret ?_
          refine Fin.Yo ((X,v)) rfl (A6.tmp rfl (Pr.le_refl _)) (A6.tmp rfl (Pr.le_refl _)) trivial ?_ (List.Perm.refl _)
          · exact Aj hX (NS ⟨ET _ _,Pr.le_refl _,trivial⟩)
end Go.Proofs.YtgilhkjlfongoaaGreat
namespace Cp
open Go Go.RowKit Go.Great
section
variable {P:Program} {L:Lg P} {n:Fm} {E:Env} {M0:Av} {w0:World} {S:Nat→Prop} {rs:List A0} {o:Oper} {Q:Exit→Act→World→Prop} {c:Code} {r:List Oper} {ops:Array Oper}
instance fq:Gt any:=⟨fun _ _ _ _ _=>trivial⟩
instance aR (v:Value) (p:Pr) [h9:Gt p]:Gt (BB v p):=⟨fun _ _ _ _ h=>⟨h.1,h9.free _ _ _ _ h.2⟩⟩
def Yz (w:World) (q:A0):A0:=⟨q.D8,q.new,fun _ w'=>∀b,q.D8=some b→w'.heap[b]? =w.heap[b]?,fun _ _ _ _ _ hk h b hb=>(hk b hb).1.trans (h b hb)⟩
theorem WC {us bs:List A0} (h:us.map (·.D8)=bs.map (·.D8)) (k:us.Pairwise fun r r':A0=>∀b,r.D8=some b→r'.D8≠some b):bs.Pairwise fun r r':A0=>∀b,r.D8=some b→r'.D8≠some b:=by
 have e1:∀l:List A0,(l.Pairwise fun r r':A0=>∀b,r.D8=some b→r'.D8≠some b)↔(l.map (·.D8)).Pairwise fun p q:Option Nat=>∀b,p=some b→q≠some b:=fun l=>by rw [List.pairwise_map]
 rw [e1] at k ⊢
 rw [←h];exact k
theorem WD {e:TypeId} {sz j:Nat} {rows:List (List Pr)} {v:Value} {M M1:Av} {w:World} (hI:A1 M0 w0 S rs M w) (hj:rs[j]? =some (BA e sz rows v)) (hl:∀q∈rows,q.length=sz) (he:Ext M w M1 w) (hx:∀b o,M1 b o→∀q∈rs,q.D8≠some b):(slice sz rows).h M1 w v:=by
 have hm:=List.mem_of_getElem? hj
 rcases (hI.hold _ hm).1 with ⟨rfl,A,rfl⟩|⟨b,cap,spare,rfl,hnc,hcm,hsp,SL⟩
 · exact LC sz A M1 w
 ·
  obtain ⟨hM,cs,hh,hcs,hone⟩:=SL
  exact DN ((HL.flat hl hcs hone).st he) hnc hcm fun k u hk=>by
   have JB:k<rows.length*sz:=by rw [←(HL.flat hl hcs hone).1];rcases Nat.lt_or_ge k (cs.take (rows.length*sz)).length with h|h;exact h;rw [List.getElem?_eq_none h] at hk;cases hk
   rw [List.getElem?_take,if_pos JB] at hk
   exact ⟨by simp [World.cell?,hh,hk],fun hx2=>hx _ _ hx2 _ hm rfl⟩
theorem A1.k7 {α:Type} {C:α→Prop} {f:FuncId} {ps:List Pr} {post J4:α→List A0} {res res2:α→Pr} {M:Av} {w:World} {vs:List Value} (hf:Gu P f ps [] C res post)
  (hI:A1 M0 w0 S rs M w) (hn:rs.all (·.new)=true) (hpost:∀x M0 w0 S rs M w,A1 M0 w0 S (post x++rs) M w→A1 M0 w0 S (J4 x++rs) M w) (aS:∀x,∀q∈J4 x,ff q)
  (hres:∀x M M2 w u,(res x).h M w u→(res2 x).h M2 w u) (hv:∀M1,Ext M w M1 w→(∀b o,M1 b o→∀q∈rs,q.D8≠some b)→HL M1 w ps vs):
  Calls P f vs.toArray w fun e' w'=>∃u M' x,e'= .returned u∧C x∧(res2 x).h M' w' u∧Ext M w M' w'∧A1 M0 w0 S (J4 x++rs) M' w':=by
 have hb:∀q∈rs,∀b,q.D8=some b→b<w.heap.size∧w0.heap.size≤b:=fun q hq b hb=>by
  obtain ⟨h1,h2⟩:=(hI.hold q hq).2 b hb
  rw [if_pos (List.all_eq_true.1 hn q hq)] at h2
  exact ⟨h1,h2⟩
 have he:Ext M w (fun b o=>M b o∧∀q∈rs,q.D8≠some b) w:=Ext.less fun _ _ h=>h.1
 have jG:A1 M0 w0 S (rs.map (Yz w)) (fun b o=>M b o∧∀q∈rs,q.D8≠some b) w:=by
  refine ⟨hI.m0,fun b o hm=>⟨hI.m b o hm,fun q hq e1=>by have h1:=hI.m0 b o hm;have h2:=(hb q hq b e1).2;omega⟩,hI.os,hI.tape,hI.output,hI.size,hI.block,fun b o hm=>hI.bd b o hm.1,fun q hq=> ?_,?_⟩
  ·
   rw [List.mem_map] at hq
   obtain ⟨q,hq,rfl⟩:=hq
   exact ⟨fun _ _=>rfl,(hI.hold q hq).2⟩
  · exact WC (by rw [List.map_map];rfl) hI.nd
 refine (hf.2 M0 w0 S (rs.map (Yz w)) _ w vs jG (hv _ he fun _ _ h=>h.2)).mono ?_
 rintro e' w' ⟨u,M',x,rfl,hC,h2,h3,h4⟩
 have h5:=hpost x _ _ _ _ _ _ h4
 have k8:∀q∈rs,∀b,q.D8=some b→w'.heap[b]? =w.heap[b]? :=fun q hq=>(h5.hold _ (List.mem_append_right _ (List.mem_map_of_mem hq))).1
 have hE:Ext M w (fun b o=>M' b o∨(M b o∧∃q∈rs,q.D8=some b)) w':=⟨h3.size,fun a q hc hm=>by
  obtain ⟨k1,k2⟩:=h3.keep a q hc (fun h=>hm h.1)
  exact ⟨fun h=>h.elim k1 fun h=>hm h.1,k2⟩,fun b x ho hp hm=>by
  obtain ⟨k1,k2⟩:=h3.obj b x ho hp (fun h=>hm h.1)
  exact ⟨fun h=>h.elim k1 fun h=>hm h.1,k2⟩⟩
 refine ⟨u,_,x,rfl,hC,hres x _ _ _ _ h2,hE,⟨h5.m0,fun b o hm=> .inl (h5.m b o hm),h5.os,h5.tape,h5.output,h5.size,h5.block,fun b o hm=> ?_,fun q hq=> ?_,?_⟩⟩
 ·
  rcases hm with hm|⟨hm,_⟩
  · exact h5.bd b o hm
  · exact Nat.lt_of_lt_of_le (hI.bd b o hm) h3.size
 ·
  rcases List.mem_append.1 hq with hq|hq
  ·
   obtain ⟨k1,k2⟩:=h5.hold q (List.mem_append_left _ hq)
   exact ⟨aS x q hq _ _ _ (fun _ _ h=> .inl h) k1,k2⟩
  ·
   refine ⟨q.st _ _ _ _ hE (fun b hb=>⟨k8 q hq b hb,fun o hm=> .inr ⟨hm,q,hq,hb⟩⟩) (hI.hold q hq).1,fun b hb=> ?_⟩
   obtain ⟨k1,k2⟩:=(hI.hold q hq).2 b hb
   exact ⟨Nat.lt_of_lt_of_le k1 h3.size,k2⟩
 · exact WC (by rw [List.map_append,List.map_append,List.map_map];rfl) h5.nd
theorem TO.WE {α:Type} {C:α→Prop} {f:FuncId} {xs:Array Operand} {ts:Array TypeId} {ps:List Pr} {post J4:α→List A0} {res res2:α→Pr} {e:TypeId} {sz d:Nat} {rows:List (List Pr)} {v:Value} {p0:Pr} (s0 j:Nat) (hg:o.guard=none) (hd:o.dst=some d) (hn:d<n) (ho:o.op= .call { callee:= .value (.func f),args:=xs,argTypes:=ts }) (hf:Gu P f ps [] C res post)
  (hj:rs[j]? =some (BA e sz rows v)) (hl:∀q∈rows,q.length=sz) (hs:E.lookup s0=some p0) (ig:Pr.le p0 (is v)) (hv:FK ((s0,slice sz rows)::E) xs.toList ps) (hnew:rs.all (·.new)=true) (hpost:∀x M0 w0 S rs M w,A1 M0 w0 S (post x++rs) M w→A1 M0 w0 S (J4 x++rs) M w) (aS:∀x,∀q∈J4 x,ff q)
  (hres:∀x M M2 w u,(res x).h M w u→(res2 x).h M2 w u) (k:∀x,C x→TO P n ops r ((d,res2 x)::E) (Hp M0 w0 S (J4 x++rs)) Q):TO P n ops (o::r) E (Hp M0 w0 S rs) Q:=
 TO.Pz hg fun K M w a hsz hdf he hI hK=>by
  have hI:A1 M0 w0 S rs M w:=hI
  have hrun:(execOp a.eval o).run P w= .ok (.enter f (xs.toList.map a.eval).toArray) w:=by
   simp [execOp,ho,resolve,Deferred.ofValue,Act.eval,invoke,Cu hf.1,ES xs]
  unfold Oper.wp
  rw [hrun]
  refine (A1.k7 hf hI hnew hpost aS hres fun M1 hE hx=> ?_).mono ?_
  ·
   have fc:∀t q,((s0,slice sz rows)::E).lookup t=some q→q.h M1 w (a.tmps.getD t undef):=fun t q hq=>by
    simp only [List.lookup] at hq
    split at hq
    ·
     rename_i e1
     have:t=s0:=by simpa using e1
     subst this
     simp only [Option.some.injEq] at hq
     subst hq
     have h4:_=v:=ig _ _ _ (he t p0 hs)
     rw [h4];exact WD hI hj hl hE hx
    · exact q.st _ _ _ _ _ hE (he t q hq)
   exact FK.Dr (o:=o) (Bq fc) (xs:=xs.toList) (fun x hx=>by simp [ho,Op.operands,Call.operands];exact .inr (by simpa using hx)) hv
  rintro e' w' ⟨u,M',x,rfl,hC,h2,h3,h4⟩
  refine hK _ _ _ _ (k x hC) ⟨M',by rw [Bn];exact hsz,by rw [put_defers];exact hdf,?_,h4⟩
  intro s q hq
  simp only [List.lookup] at hq
  by_cases hs:s=d
  · subst hs;simp at hq;subst hq;rw [hd,Bf (by rw [hsz];exact hn)];exact h2
  · rw [show (s==d)=false by simpa using hs] at hq;rw [hd,Bm hs];exact q.st _ _ _ _ _ h3 (he s q hq)
theorem Tr.YO {e:TypeId} {sz:Nat} {rows:List (List Pr)} {v:Value} {p:Pr} (j s:Nat) (hj:rs[j]? =some (BA e sz rows v)) (hs:E.lookup s=some p) (hp:Pr.le p (is v)) (k:Tr L n ((s,BB v (lens rows.length))::E) (Hp M0 w0 S rs) c Q):Tr L n E (Hp M0 w0 S rs) c Q:=by
 intro a w ha
 obtain ⟨M,k1,k2,k3,k4⟩:=ha
 have k4:A1 M0 w0 S rs M w:=k4
 refine k a w ⟨M,k1,k2,fun t q hq=> ?_,k4⟩
 simp only [List.lookup] at hq
 split at hq
 ·
  rename_i e1
  have:t=s:=by simpa using e1
  subst this
  simp only [Option.some.injEq] at hq
  subst hq
  have h4:_=v:=hp _ _ _ (k3 t p hs)
  refine ⟨h4,?_⟩
  rw [h4]
  rcases (k4.hold _ (List.mem_of_getElem? hj)).1 with ⟨h3,A,h5⟩|⟨b,cap,sp,h3,_⟩
  · subst h3;exact ⟨_,_,h5⟩
  · exact ⟨_,_,h3⟩
 · exact k3 t q hq
theorem R6 {β:Type} {f g:β→List Pr} (h:∀x,I6 (f x) (g x)) (qs:List Pr):∀l:List β,I6 ((l.map f).flatten++qs) ((l.map g).flatten++qs)
 |[]=>I6.rfl' qs
 |x::l=>by
  rw [List.map_cons,List.map_cons,List.flatten_cons,List.flatten_cons,List.append_assoc,List.append_assoc]
  exact R7 (h x) (R6 h qs l)
where R7:∀{us bs cs ds:List Pr},I6 us bs→I6 cs ds→I6 (us++cs) (bs++ds)
 |[],[],_,_,_,h=>h
 |_::_,_::_,_,_,⟨h1,h2⟩,h=>⟨h1,R7 h2 h⟩
 |[],_::_,_,_,h,_=>h.elim
 |_::_,[],_,_,h,_=>h.elim
theorem Q0 {β:Type} {f g:β→List Pr} (h:∀x,I6 (f x) (g x)) {l:List β} {e:TypeId} {sz:Nat} {v:Value} {M:Av} {w:World} (k:A1 M0 w0 S (Bc e sz (l.map f) v::rs) M w):A1 M0 w0 S (Bc e sz (l.map g) v::rs) M w:=
 A1.CZ (i:=0) k rfl rfl rfl (by
  rcases (k.hold _ (List.mem_cons_self ..)).1 with ⟨h1,h2⟩|⟨b,cap,sp,h1,h2,h3,h4,h5,cs,h6,h7,h8⟩
  · exact .inl ⟨by rw [List.map_eq_nil_iff] at h1 ⊢;exact h1,h2⟩
  ·
   rw [List.length_map] at h1 h2 h4
   exact .inr ⟨b,cap,sp,by rw [List.length_map];exact h1,by rw [List.length_map];exact h2,h3,by rw [List.length_map];exact h4,h5,cs,h6,(R6 h _ l).hl h7,h8⟩)
end
end Cp
namespace Go.Proofs.YtgilhkjlfongoaaGreat
open Go Go.RowKit Cp Go.Proofs.Tryz
theorem Y0 {m:Nat}:(((DM m).map fun n=>[int n])).length=m:=by rw [List.length_map,EH]
theorem TJ {m0:Nat} (hl:m0≤1000):XJ prog 28 [lens m0] (fun x:Value=>agg [int 0,any,any,BB x (lens m0)]) (fun x=>[Bc 3 1 ((DM m0).map fun n=>[int n]) x]):=by
 refine XJ.of func28 rfl rfl (by exact Nb rfl) fun M0 w0 S rs M1 w1=>(Tr.seq (Tr.CA ?_))
 refine Tl rfl rfl rfl rfl ZP QA (fun b1=> ?_)
 refine ap ?_
 refine Tr.seq (Tr.CA ?_)
 refine Tl rfl rfl rfl rfl ZP QA (fun b2=> ?_)
 refine ap ?_
 refine ac ?_
 refine Tr.block (Tr.Fj 0 [is (.int .i64 0),is (.slice none 0 0),is (.slice none 0 0),BB (.slice none 0 0) (lens ((DM 0).map fun n=>[int n]).length)] rfl ⟨Lr,Lr,Lr,Ib rfl,trivial⟩ (Tr.K4 3 1 (Tr.Gy [(0,_),(2,_),(3,_)] ⟨ke rfl,ke rfl,ke rfl,trivial⟩ (fun (m:Nat) v=>[(4,int ((m:Nat):Int))]) (fun (m:Nat) v=>Hp M0 w0 S (Bc 3 1 (((DM m).map fun n=>[int n])) v::AD true b2 55 [is (.int .i64 0),is (.slice none 0 0),is (.slice none 0 0),BB v (lens ((DM m).map fun n=>[int n]).length)]::AD true b1 55 [is (.int .i64 0),is (.slice none 0 0),is (.slice none 0 0),is (.slice none 0 0)]::Ai M1 w1::rs)) (fun (m:Nat)=>m≤m0) (fun (m:Nat)=>m0-m) (0) (.slice none 0 0) (Nat.zero_le _) ⟨ke rfl,trivial⟩ (fun _ _ h=>h) ?_)))
 rintro m v hml
 refine ac ?_
 refine co rfl (UK rfl underlying31 (vl rfl)) ?_
 refine an ?_ ?_<;>intro h1 q1
 have oQ:m<m0:=Ak h1
 have dH:=EH m
 refine ac ?_
 refine ap ?_
 refine TO.MK 0 rfl rfl (by decide) (F3 rfl rfl (by decide) rfl underlying22 A4 MO z3 rfl (by decide) (by decide) (vl rfl) (Kf rfl) (A8 fun _=>rfl) (Nat.zero_lt_succ _) (by simp only [List.length_map,List.length_cons,List.length_nil];unfold maxLen;omega) (by simp only [List.length_map,List.length_cons,List.length_nil];omega)) (fun v1=> ?_)
 refine ap ?_
 refine Dp 0 2 3 4 rfl ?_
 refine ac ?_
 refine Fin.Fj 1 [is (.int .i64 0),is (.slice none 0 0),is (.slice none 0 0),BB v1 (lens ((DM (m+1)).map fun n=>[int n]).length)] rfl ⟨Lr,Lr,Lr,D0 (by rw [Y0];simp [EH]),trivial⟩ ?_
 exact Fin.C9 (m+1) v1 (⟨by omega,by omega⟩) ⟨⟨_,rfl,AJ m⟩,ke rfl,ke rfl,ke rfl,trivial⟩ (fun _ _ h=>EW (PB m) h)
 have hme:m=m0:=by have:=Ao h1;omega
 subst hme
 refine ac ?_
 refine ap ?_
 refine Tr.ret (Fin.drop 1 (Fin.Zh (Fin.jI v [_] rfl (A6.cell 0 rfl rfl Gj GR rfl (Lr)) ?_ (List.Perm.refl _))))
 · exact JD ⟨Lr,Cs _,Cs _,fun _ _ _ h=>⟨h.1,by have:=h.2;rwa [Y0] at this⟩,trivial⟩
theorem L2 {α:Type} {f:α→List Pr} {l:List α} {k:Nat} {x:α} (h0:0<k) (h:l[k-1]? =some x):(l.map f)[(((k:Nat):Int)-1).toNat]? =some (f x):=by
 rw [show (((k:Nat):Int)-1).toNat=k-1 by omega,List.getElem?_map,h];rfl
theorem I4 {l:List Ac} {k:Nat}:∀r∈(l.map BZ).take k,r.length=11:=fun r hr=>A8 (f:=BZ) (fun _=>rfl) r (List.mem_of_mem_take hr)
theorem I5 {l:List Ac} {k:Nat} {y:Ac}:∀r∈(l.map BZ).take k++[BZ y],r.length=11:=fun r hr=>by
 rcases List.mem_append.1 hr with h9|h9
 · exact I4 r h9
 · rw [List.mem_singleton] at h9;subst h9;rfl
theorem aT {l:List Ac} {f:Ac} {v:Value} (hl:l.length≤1000):Gu (α:=Value) prog 88 [is v,agg (BZ f)] [BA 26 11 ((l).map BZ) v] (fun _=>True) (fun x:Value=>is x) (fun x=>[BA 26 11 ((C8 l f).map BZ) x]):=by
 refine Gu.of func88 rfl rfl (by exact Nb rfl) fun M0 w0 S rs M1 w1=> ?_
 have hml:(l.map BZ).length=l.length:=List.length_map ..
 refine Tr.seq (Tr.Ax (co rfl (E0 rfl (Va rfl)) (cm rfl (Ch.nil (Fin.go (Tr.seq (Tr.Ax (cm rfl (co rfl (As 0 rfl (KP rfl underlying31 (vl rfl))) (cm rfl (Ch.nil (Fin.go (Tr.seq (Tr.block ?_))))))))))))))
 refine Tr.BU [(0,_),(3,_)] (RC rfl) (fun k:Nat=>[(5,int ((k:Nat):Int))]) (fun k:Nat=>k≤l.length∧∀(j:Nat) y,k≤j→l[j]? =some y→0<D1 y f) (fun k:Nat=>k) l.length (⟨Nat.le_refl _,fun j y h1 h2=>by rw [List.getElem?_eq_none h1] at h2;cases h2⟩) ⟨⟨_,rfl,int_eq (by rw [hml])⟩,trivial⟩ ?_
 rintro k ⟨hk,hgt⟩
 refine Tr.seq (Tr.seq (Tr.HT mixed (by kernel_rfl) (cm rfl (co rfl (ki rfl rfl rfl rfl) (cm rfl ?_)))))
 refine Ch.cs 10 rfl ?_ ?_<;>intro h1 q1
 obtain ⟨x,hx⟩:=at_ (l:=l) (k:=k-1) (by omega)
 refine DL h1 rfl (DL h1 rfl ?_)
 refine cy h1 rfl (Ff rfl (vl rfl) (vl rfl) ?hin) ?_;case hin=>unfold C7;omega
 refine cy h1 rfl (As 0 rfl (H8 rfl underlying31 AY (vl rfl) (vl rfl) (by omega) (by rw [List.length_map];omega))) ?_
 refine cy h1 rfl (As 0 rfl (F9 rfl BE AY (vl rfl) (A8 fun _=>rfl) (L2 (by omega) hx))) (cy h1 rfl (Ad rfl BE AY (vl rfl) rfl rfl) (cy h1 rfl (Ah rfl (Db) ⟨ke rfl,ke rfl,trivial⟩) (cy h1 rfl (ki rfl rfl rfl rfl) (co rfl (GQ rfl rfl h1 rfl) (Ch.nil (Fin.go (Dp 0 3 5 19 rfl ?_)))))))
 refine Tr.cn rfl ?_ ?_<;>intro h2 q2
 have:=h2
 refine Tr.skip (Fin.go (Tr.block (Tr.Ax (cm rfl (gP rfl rfl rfl rfl (by omega) (cm rfl (Ch.nil (Fin.block ?_))))))))
 exact Fin.AE (k-1) ⟨⟨by omega,fun j y h1 h2=>by rcases Nat.eq_or_lt_of_le h1 with h3|h3;(subst h3;rw [hx] at h2;cases h2;omega);exact hgt j y (by omega) h2⟩,by omega⟩ ⟨⟨_,rfl,int_eq (by omega)⟩,ke rfl,ke rfl,trivial⟩
 have:=h2
 refine Tr.exit (Fin.AG (Fin.AG (Fin.AP (Fin.go (Tr.seq (Tr.seq (Tr.HT mixed (by kernel_rfl) (cm rfl (co rfl (ki rfl rfl rfl rfl) (cm rfl ?_))))))))))
 refine Ch.cs 24 rfl ?_ ?_<;>intro h3 q3
 obtain ⟨x2,hx2⟩:=at_ (l:=l) (k:=k-1) (by omega)
 refine DL h3 rfl (DL h3 rfl ?_)
 refine cy h3 rfl (Ff rfl (vl rfl) (vl rfl) ?hin) ?_;case hin=>unfold C7;omega
 refine cy h3 rfl (As 0 rfl (H8 rfl underlying31 AY (vl rfl) (vl rfl) (by omega) (by rw [List.length_map];omega))) ?_
 refine cy h3 rfl (As 0 rfl (F9 rfl BE AY (vl rfl) (A8 fun _=>rfl) (L2 (by omega) hx2))) (cy h3 rfl (Ad rfl BE AY (vl rfl) rfl rfl) (cy h3 rfl (Ah rfl (Db) ⟨ke rfl,ke rfl,trivial⟩) (cy h3 rfl (ki rfl rfl rfl rfl) (co rfl (GQ rfl rfl h3 rfl) (Ch.nil (Fin.go (Dp 0 3 5 33 rfl ?_)))))))
 refine Tr.cn rfl ?_ ?_<;>intro h4 q4
 refine Tr.seq (Tr.Ax (cm rfl (cm rfl (Ch.nil (Fin.go (Tr.ret (Fin.AF (Fin.WX 0 ((C8 l f).map BZ) rfl (by rw [Ml (Mk hk hgt (.inr ⟨x,hx,by omega⟩)) (by omega) hx2 (by assumption)]) (Fin.LB (_) rfl (A6.tmp rfl (Lr)) trivial ?_ (List.Perm.refl _))))))))))
 · exact Lr
 refine Tr.skip (Fin.go (Tr.seq (Tr.JY 0 0 rfl (A8 fun _=>rfl) rfl (Lr) (Tr.Dv mixed [none,none,none,none,some (0,0,true,39),none,none,some (39,0,true,42),none,none,none,some (42,0,true,46),some (46,0,true,4)] (by kernel_rfl) (xo rfl (fun _=>AM (xs:=[]) (rows:=[]) rfl rfl underlying31 AY EO rfl (by decide) trivial (by decide)) (xm rfl (xm rfl ?_)))))))
 refine xo rfl (fun _=>Bj rfl underlying31 AY (vl rfl) (vl rfl) (by omega) (by rw [List.length_map];omega)) ?_
 refine Cx.ef 0 rfl rfl (by decide) (FI rfl rfl (by decide) rfl underlying31 AY Eb EO rfl (by decide) (by decide) (vl rfl) (vl rfl) (by simp only [List.length_append,List.length_take,List.length_drop,List.length_map,List.length_cons,List.length_nil];unfold maxLen;omega) (by simp only [List.length_append,List.length_take,List.length_drop,List.length_map,List.length_cons,List.length_nil];omega)) ?_
 refine xo rfl (fun _=>Ad rfl BE AY (vl rfl) rfl rfl) (xo rfl (fun _=>AM (xs:=[.tmp 40]) (rows:=[_]) rfl rfl underlying31 AY EO rfl (by decide) ⟨⟨(by exact rfl),(Va rfl)⟩,trivial⟩ (by decide)) ?_)
 refine Cx.ef 0 rfl rfl (by decide) (Cy rfl rfl (by decide) rfl underlying31 AY Eb EO rfl (by decide) (by decide) (Kf rfl) I4 (by simp only [List.length_append,List.length_take,List.length_drop,List.length_map,List.length_cons,List.length_nil];unfold maxLen;omega) (by simp only [List.length_append,List.length_take,List.length_drop,List.length_map,List.length_cons,List.length_nil];omega)) ?_
 refine xm rfl (xm rfl ?_)
 refine xo rfl (fun _=>BH rfl underlying31 AY (vl rfl) (vl rfl) (by omega) (by rw [List.length_map];omega)) ?_
 refine Cx.ef 0 rfl rfl (by decide) (Cy rfl rfl (by decide) rfl underlying31 AY Eb EO rfl (by decide) (by decide) (vl rfl) I5 (by simp only [List.length_append,List.length_take,List.length_drop,List.length_map,List.length_cons,List.length_nil];unfold maxLen;omega) (by simp only [List.length_append,List.length_take,List.length_drop,List.length_map,List.length_cons,List.length_nil];omega)) ?_
 refine Cx.ef 0 rfl rfl (by decide) (CW rfl rfl (by decide) rfl (vl rfl)) ?_
 refine Cx.nil ⟨rfl,?_⟩
 refine BP.open_ 0 4 rfl rfl (fun v1=> ?_)
 refine BP.done (BG.cons (BG.cons (BG.map _))) (Fin.go (CM 4 rfl (Tr.ret ?_)))
 refine Fin.WX 0 ((C8 l f).map BZ) rfl (by rw [Ij (Mk hk hgt (.inr ⟨x,hx,by omega⟩)) (.inr ⟨x2,hx2,by assumption⟩),Int.toNat_natCast,List.map_append,List.map_append,List.map_take,List.map_drop];rfl) ?_
 refine Fin.LB (_) rfl (A6.tmp rfl (Lr)) trivial ?_ (List.Perm.refl _)
 · exact ET _ _
 iterate 8 refine cnt h3 rfl ?_
 refine co rfl (JE rfl rfl h3 rfl) (Ch.nil (Fin.go (Dp 0 3 5 33 rfl (Tr.cond rfl (fun h=>nomatch h) (fun _=> ?_)))))
 refine Tr.skip (Fin.go (Tr.seq (Tr.JY 0 0 rfl (A8 fun _=>rfl) rfl (Lr) (Tr.Dv mixed [none,none,none,none,some (0,0,true,39),none,none,some (39,0,true,42),none,none,none,some (42,0,true,46),some (46,0,true,4)] (by kernel_rfl) (xo rfl (fun _=>AM (xs:=[]) (rows:=[]) rfl rfl underlying31 AY EO rfl (by decide) trivial (by decide)) (xm rfl (xm rfl ?_)))))))
 refine xo rfl (fun _=>Bj rfl underlying31 AY (vl rfl) (vl rfl) (by omega) (by rw [List.length_map];omega)) ?_
 refine Cx.ef 0 rfl rfl (by decide) (FI rfl rfl (by decide) rfl underlying31 AY Eb EO rfl (by decide) (by decide) (vl rfl) (vl rfl) (by simp only [List.length_append,List.length_take,List.length_drop,List.length_map,List.length_cons,List.length_nil];unfold maxLen;omega) (by simp only [List.length_append,List.length_take,List.length_drop,List.length_map,List.length_cons,List.length_nil];omega)) ?_
 refine xo rfl (fun _=>Ad rfl BE AY (vl rfl) rfl rfl) (xo rfl (fun _=>AM (xs:=[.tmp 40]) (rows:=[_]) rfl rfl underlying31 AY EO rfl (by decide) ⟨⟨(by exact rfl),(Va rfl)⟩,trivial⟩ (by decide)) ?_)
 refine Cx.ef 0 rfl rfl (by decide) (Cy rfl rfl (by decide) rfl underlying31 AY Eb EO rfl (by decide) (by decide) (Kf rfl) I4 (by simp only [List.length_append,List.length_take,List.length_drop,List.length_map,List.length_cons,List.length_nil];unfold maxLen;omega) (by simp only [List.length_append,List.length_take,List.length_drop,List.length_map,List.length_cons,List.length_nil];omega)) ?_
 refine xm rfl (xm rfl ?_)
 refine xo rfl (fun _=>BH rfl underlying31 AY (vl rfl) (vl rfl) (by omega) (by rw [List.length_map];omega)) ?_
 refine Cx.ef 0 rfl rfl (by decide) (Cy rfl rfl (by decide) rfl underlying31 AY Eb EO rfl (by decide) (by decide) (vl rfl) I5 (by simp only [List.length_append,List.length_take,List.length_drop,List.length_map,List.length_cons,List.length_nil];unfold maxLen;omega) (by simp only [List.length_append,List.length_take,List.length_drop,List.length_map,List.length_cons,List.length_nil];omega)) ?_
 refine Cx.ef 0 rfl rfl (by decide) (CW rfl rfl (by decide) rfl (vl rfl)) ?_
 refine Cx.nil ⟨rfl,?_⟩
 refine BP.open_ 0 4 rfl rfl (fun v2=> ?_)
 refine BP.done (BG.cons (BG.cons (BG.map _))) (Fin.go (CM 4 rfl (Tr.ret ?_)))
 refine Fin.WX 0 ((C8 l f).map BZ) rfl (by exfalso;omega) ?_
 refine Fin.LB (_) rfl (A6.tmp rfl (Lr)) trivial ?_ (List.Perm.refl _)
 · exact ET _ _
 iterate 8 refine cnt h1 rfl ?_
 refine co rfl (JE rfl rfl h1 rfl) (Ch.nil (Fin.go (Dp 0 3 5 19 rfl (Tr.cond rfl (fun h=>nomatch h) (fun _=> ?_)))))
 refine Tr.exit (Fin.AG (Fin.AG (Fin.AP (Fin.go (Tr.seq (Tr.seq (Tr.HT mixed (by kernel_rfl) (cm rfl (co rfl (ki rfl rfl rfl rfl) (cm rfl ?_))))))))))
 refine Ch.cs 24 rfl ?_ ?_<;>intro h5 q5
 obtain ⟨x2,hx2⟩:=at_ (l:=l) (k:=k-1) (by omega)
 refine DL h5 rfl (DL h5 rfl ?_)
 refine cy h5 rfl (Ff rfl (vl rfl) (vl rfl) ?hin) ?_;case hin=>unfold C7;omega
 refine cy h5 rfl (As 0 rfl (H8 rfl underlying31 AY (vl rfl) (vl rfl) (by omega) (by rw [List.length_map];omega))) ?_
 refine cy h5 rfl (As 0 rfl (F9 rfl BE AY (vl rfl) (A8 fun _=>rfl) (L2 (by omega) hx2))) (cy h5 rfl (Ad rfl BE AY (vl rfl) rfl rfl) (cy h5 rfl (Ah rfl (Db) ⟨ke rfl,ke rfl,trivial⟩) (cy h5 rfl (ki rfl rfl rfl rfl) (co rfl (GQ rfl rfl h5 rfl) (Ch.nil (Fin.go (Dp 0 3 5 33 rfl ?_)))))))
 refine Tr.cn rfl ?_ ?_<;>intro h6 q6
 refine Tr.seq (Tr.Ax (cm rfl (cm rfl (Ch.nil (Fin.go (Tr.ret (Fin.AF ?_)))))))
 refine Fin.WX 0 ((C8 l f).map BZ) rfl (by exfalso;omega) ?_
 refine Fin.LB (_) rfl (A6.tmp rfl (Lr)) trivial ?_ (List.Perm.refl _)
 · exact Lr
 refine Tr.skip (Fin.go (Tr.seq (Tr.JY 0 0 rfl (A8 fun _=>rfl) rfl (Lr) (Tr.Dv mixed [none,none,none,none,some (0,0,true,39),none,none,some (39,0,true,42),none,none,none,some (42,0,true,46),some (46,0,true,4)] (by kernel_rfl) (xo rfl (fun _=>AM (xs:=[]) (rows:=[]) rfl rfl underlying31 AY EO rfl (by decide) trivial (by decide)) (xm rfl (xm rfl ?_)))))))
 refine xo rfl (fun _=>Bj rfl underlying31 AY (vl rfl) (vl rfl) (by omega) (by rw [List.length_map];omega)) ?_
 refine Cx.ef 0 rfl rfl (by decide) (FI rfl rfl (by decide) rfl underlying31 AY Eb EO rfl (by decide) (by decide) (vl rfl) (vl rfl) (by simp only [List.length_append,List.length_take,List.length_drop,List.length_map,List.length_cons,List.length_nil];unfold maxLen;omega) (by simp only [List.length_append,List.length_take,List.length_drop,List.length_map,List.length_cons,List.length_nil];omega)) ?_
 refine xo rfl (fun _=>Ad rfl BE AY (vl rfl) rfl rfl) (xo rfl (fun _=>AM (xs:=[.tmp 40]) (rows:=[_]) rfl rfl underlying31 AY EO rfl (by decide) ⟨⟨(by exact rfl),(Va rfl)⟩,trivial⟩ (by decide)) ?_)
 refine Cx.ef 0 rfl rfl (by decide) (Cy rfl rfl (by decide) rfl underlying31 AY Eb EO rfl (by decide) (by decide) (Kf rfl) I4 (by simp only [List.length_append,List.length_take,List.length_drop,List.length_map,List.length_cons,List.length_nil];unfold maxLen;omega) (by simp only [List.length_append,List.length_take,List.length_drop,List.length_map,List.length_cons,List.length_nil];omega)) ?_
 refine xm rfl (xm rfl ?_)
 refine xo rfl (fun _=>BH rfl underlying31 AY (vl rfl) (vl rfl) (by omega) (by rw [List.length_map];omega)) ?_
 refine Cx.ef 0 rfl rfl (by decide) (Cy rfl rfl (by decide) rfl underlying31 AY Eb EO rfl (by decide) (by decide) (vl rfl) I5 (by simp only [List.length_append,List.length_take,List.length_drop,List.length_map,List.length_cons,List.length_nil];unfold maxLen;omega) (by simp only [List.length_append,List.length_take,List.length_drop,List.length_map,List.length_cons,List.length_nil];omega)) ?_
 refine Cx.ef 0 rfl rfl (by decide) (CW rfl rfl (by decide) rfl (vl rfl)) ?_
 refine Cx.nil ⟨rfl,?_⟩
 refine BP.open_ 0 4 rfl rfl (fun v3=> ?_)
 refine BP.done (BG.cons (BG.cons (BG.map _))) (Fin.go (CM 4 rfl (Tr.ret ?_)))
 refine Fin.WX 0 ((C8 l f).map BZ) rfl (by exfalso;omega) ?_
 refine Fin.LB (_) rfl (A6.tmp rfl (Lr)) trivial ?_ (List.Perm.refl _)
 · exact ET _ _
 iterate 8 refine cnt h5 rfl ?_
 refine co rfl (JE rfl rfl h5 rfl) (Ch.nil (Fin.go (Dp 0 3 5 33 rfl (Tr.cond rfl (fun h=>nomatch h) (fun _=> ?_)))))
 refine Tr.skip (Fin.go (Tr.seq (Tr.JY 0 0 rfl (A8 fun _=>rfl) rfl (Lr) (Tr.Dv mixed [none,none,none,none,some (0,0,true,39),none,none,some (39,0,true,42),none,none,none,some (42,0,true,46),some (46,0,true,4)] (by kernel_rfl) (xo rfl (fun _=>AM (xs:=[]) (rows:=[]) rfl rfl underlying31 AY EO rfl (by decide) trivial (by decide)) (xm rfl (xm rfl ?_)))))))
 refine xo rfl (fun _=>Bj rfl underlying31 AY (vl rfl) (vl rfl) (by omega) (by rw [List.length_map];omega)) ?_
 refine Cx.ef 0 rfl rfl (by decide) (FI rfl rfl (by decide) rfl underlying31 AY Eb EO rfl (by decide) (by decide) (vl rfl) (vl rfl) (by simp only [List.length_append,List.length_take,List.length_drop,List.length_map,List.length_cons,List.length_nil];unfold maxLen;omega) (by simp only [List.length_append,List.length_take,List.length_drop,List.length_map,List.length_cons,List.length_nil];omega)) ?_
 refine xo rfl (fun _=>Ad rfl BE AY (vl rfl) rfl rfl) (xo rfl (fun _=>AM (xs:=[.tmp 40]) (rows:=[_]) rfl rfl underlying31 AY EO rfl (by decide) ⟨⟨(by exact rfl),(Va rfl)⟩,trivial⟩ (by decide)) ?_)
 refine Cx.ef 0 rfl rfl (by decide) (Cy rfl rfl (by decide) rfl underlying31 AY Eb EO rfl (by decide) (by decide) (Kf rfl) I4 (by simp only [List.length_append,List.length_take,List.length_drop,List.length_map,List.length_cons,List.length_nil];unfold maxLen;omega) (by simp only [List.length_append,List.length_take,List.length_drop,List.length_map,List.length_cons,List.length_nil];omega)) ?_
 refine xm rfl (xm rfl ?_)
 refine xo rfl (fun _=>BH rfl underlying31 AY (vl rfl) (vl rfl) (by omega) (by rw [List.length_map];omega)) ?_
 refine Cx.ef 0 rfl rfl (by decide) (Cy rfl rfl (by decide) rfl underlying31 AY Eb EO rfl (by decide) (by decide) (vl rfl) I5 (by simp only [List.length_append,List.length_take,List.length_drop,List.length_map,List.length_cons,List.length_nil];unfold maxLen;omega) (by simp only [List.length_append,List.length_take,List.length_drop,List.length_map,List.length_cons,List.length_nil];omega)) ?_
 refine Cx.ef 0 rfl rfl (by decide) (CW rfl rfl (by decide) rfl (vl rfl)) ?_
 refine Cx.nil ⟨rfl,?_⟩
 refine BP.open_ 0 4 rfl rfl (fun v4=> ?_)
 refine BP.done (BG.cons (BG.cons (BG.map _))) (Fin.go (CM 4 rfl (Tr.ret ?_)))
 refine Fin.WX 0 ((C8 l f).map BZ) rfl (by rw [Ij (Mk hk hgt (.inl (by omega))) (.inl (by omega)),Int.toNat_natCast,List.map_append,List.map_append,List.map_take,List.map_drop];rfl) ?_
 refine Fin.LB (_) rfl (A6.tmp rfl (Lr)) trivial ?_ (List.Perm.refl _)
 · exact ET _ _
theorem Q1 {l:List Ac} (hc:∀f∈l,BV f=true) (hl:l.length≤400):Gu (α:=Value) prog 45 [Bu l] [] (fun _=>True) (fun x:Value=>DT [is x,int 0]) (fun x=>[BA 26 11 ((l.foldl C8 []).map BZ) x]):=by
 refine Gu.of func45 rfl rfl (by exact Nb rfl) fun M0 w0 S rs M1 w1=>(Tr.D9 0 rfl fun Dg=> ?_)
 refine a2 ?_
 refine Tr.block (Tr.BU [(0,_)] ⟨ke rfl,trivial⟩ (fun k:Nat=>[(4,int ((k:Nat):Int))]) (fun k:Nat=>k≤(l).length) (fun k:Nat=>(l).length-k) 0 (Nat.zero_le _) ⟨ke rfl,trivial⟩ ?_)
 rintro k Cb
 refine an ?_ ?_<;>intro h1 q1
 have Az:k<(l).length:=Ak h1
 obtain ⟨x,A7⟩:=at_ Az
 · repeat' first|exact absurd (if_pos (hc x (List.mem_of_getElem? A7))) q|exact Fin.AE (k+1) ⟨Az,by omega⟩ ⟨⟨_,rfl,AJ k⟩,ke rfl,trivial⟩|refine co rfl (AB rfl underlying31 AY (vl rfl) (vl rfl) (by omega) (by exact Am (by assumption))) ?_|refine co rfl (Ad rfl BE AY (vl rfl) rfl rfl) (co rfl (Cr (H9) rfl rfl) ?_)|refine ac ?_|(refine Tr.cn rfl ?_ ?_<;>intro h q)
 have B2:k=(l).length:=by have:=Ao h1;omega
 subst B2
 refine a3 ?_
 refine Tr.block (Tr.K4 26 11 (Tr.Eo 0 rfl (Tr.CU [(0,_)] ⟨ke rfl,trivial⟩ (fun (m:Nat) (v:Value)=>[(7,int ((m:Nat):Int)),(6,is v)]) (fun (m:Nat) (v:Value)=>Hp M0 w0 S (BA 26 11 (((l.take m).foldl C8 []).map BZ) v::Ai M1 w1::rs)) (fun (m:Nat) (v:Value)=>m≤l.length) (fun (m:Nat) (v:Value)=>l.length-m) (0) ((.slice none 0 0))  (Nat.zero_le _) ⟨ke rfl,ke rfl,trivial⟩ (fun _ _ h=>h) ?_)))
 rintro m v  hml
 refine an ?_ ?_<;>intro h3 q3
 have XU:m<l.length:=Ak h3
 obtain ⟨y,Um⟩:=at_ XU
 refine ac ?_
 refine ap ?_
 refine tp rfl (AB rfl underlying31 AY (vl rfl) (vl rfl) (by omega) (by exact Am (by assumption))) ?_
 refine tp rfl (Ad rfl BE AY (vl rfl) rfl rfl) ?_
 refine TO.Mh _ rfl rfl (by decide) rfl (aT (l:=(l.take m).foldl C8 []) (f:=y) (v:=v) (by have:=HQ l m;omega)) ⟨ke rfl,ke rfl,trivial⟩ ((Dx (j:=0) rfl).trans (List.Perm.cons _ (List.Perm.refl _))) (fun x1 _=> ?_)
 refine ap ?_
 · repeat' first|(exfalso;rw [List.length_map,HP Um] at q;have:=HQ l (m+1);omega)|(exact Fin.BW (m+1) (x1)  (⟨by omega,by omega⟩) ⟨⟨_,rfl,AJ m⟩,ke rfl,ke rfl,trivial⟩ (fun _ _ h=>by rw [←HP Um];exact h))|refine co rfl (As 0 rfl (KP rfl underlying31 (vl rfl))) ?_|refine ac ?_|(refine Tr.cn rfl ?_ ?_<;>intro h q)
 obtain rfl:m=l.length:=(by have:=Ao h3;omega)
 rw [List.take_length]
 refine a2 ?_
 refine Tr.ret (Fin.Yo (_) rfl (A6.tmp rfl (Lr)) (A6.tmp rfl (Lr)) trivial ?_ (List.Perm.refl _))
 · exact Lr
theorem Pu {b:Nat} {s:DS} {m:Nat} (hm:m≤100):Gu (α:=List Ac×Value) prog 9 [ptr b 0,int ((m:Nat):Int)] [F_ b s] (fun _=>True) (fun x:List Ac×Value=>fact (Un x.1 m) (is x.2)) (fun x=>[BA 26 11 ((x.1).map BZ) x.2,Hs 80 b]):=by
 refine Gu.of func9 rfl rfl (by exact Nb rfl) fun M0 w0 S rs M1 w1=>(Tr.seq (Tr.Ax (cm rfl (Ch.nil (Fin.go (Tr.seq (Tr.Ax (cm rfl (Ch.nil (Fin.go (Tr.seq (Tr.seq (Tr.CA ?_)))))))))))))
 refine tm rfl (tm rfl ?_)
 refine tp rfl (BR rfl (vl rfl) (vl rfl) ?hin) ?_;case hin=>unfold C7;omega
 refine TO.DB 0 rfl rfl (by decide) (AU rfl rfl (by decide) rfl (CN (by omega) (by omega)) ⟨ke rfl,ke rfl,trivial⟩) (tm rfl (TO.nil (Fin.go (Tr.block ?_))))
 have hv:=s.DD (n:=(m:Int)+1) (by omega)
 refine Tr.GP 26 11 ?_
 refine Tr.Tz [(0,_)] ⟨ke rfl,trivial⟩ (fun (l:List Ac) (k:Int) (s2:DS) u=>[(6,int k),(5,BB u (Bu l))]) (fun (l:List Ac) (k:Int) (s2:DS) u=>Hp M0 w0 S (BX 26 11 u::F_ b s2::Ai M1 w1::rs)) (fun (l:List Ac) (k:Int) (s2:DS)=>0≤k∧l.length+k≤m∧∀f∈l,Rd f) (fun (l:List Ac) (k:Int) (s2:DS)=>k.toNat) ([]) (_) (_) (.slice none 0 0) (⟨by omega,by simp;omega,by simp⟩) ⟨ke rfl,⟨_,rfl,FV (by simp)⟩,trivial⟩ (fun _ _ h=>h) ?_
 rintro l k s2 u ⟨hk,hkm,hl⟩
 refine Tr.seq (Tr.seq (Tr.Ax (cm rfl (co rfl (ki rfl rfl rfl rfl) (Ch.nil (Fin.go ?_))))))
 refine Tr.cn rfl ?_ ?_<;>intro h1 q1
 have j_:k>0:=of_decide_eq_true h1
 refine Tr.skip (Fin.go (Tr.seq (Tr.block (Tr.CA (tm rfl (tm rfl (TO.DB 1 rfl rfl (by decide) (AU rfl rfl (by decide) rfl (Se) ⟨ke rfl,trivial⟩) ?_)))))))
 refine TO.ex 19 rfl (fun z1=>TO.fact 19 rfl fun KD=> ?_)
 refine tp rfl (AM (xs:=[.tmp 19]) (rows:=[_]) rfl rfl underlying31 AY EO rfl (by decide) ⟨⟨(by exact rfl),(Va rfl)⟩,trivial⟩ (by decide)) ?_
 refine TO.MK 0 rfl rfl (by decide) (Oh rfl rfl rfl rfl underlying31 AY Eb EO (Kb rfl) (Kf rfl) (GO (by exact List.Mem.head _) (Ka rfl))) (fun v1=> ?_)
 refine tm rfl (TO.nil (Fin.RF 1 rfl (fun s1=> ?_)))
 refine Fin.block (Fin.go (Tr.Ax (cm rfl (gP rfl rfl rfl rfl (by omega) (cm rfl (Ch.nil ?_))))))
 exact Fin.Wn (l++[z1]) (k-1) (_) v1 (⟨⟨by omega,by simp;omega,Sc hl KD⟩,by omega⟩) ⟨ke rfl,⟨_,rfl,Bs (by rw [List.map_append];rfl)⟩,ke rfl,trivial⟩ (fun _ _ h=>h)
 have j_:¬k>0:=of_decide_eq_false h1
 refine Tr.exit (Fin.AG (Fin.AG (Fin.AP (Fin.go (Tr.seq (Tr.CA (tm rfl ?_)))))))
 refine TO.Mh _ rfl rfl (by decide) rfl (Q1 (l:=l) (fun f hf=>(hl f hf).check) (by omega)) ⟨(Kb rfl),trivial⟩ (List.Perm.refl _) (fun x2 _=> ?_)
 refine tm rfl (tp rfl (At rfl (vl rfl) rfl) (tp rfl (At rfl (vl rfl) rfl) (tm rfl (tm rfl (TO.nil (Fin.go (Tr.seq (Tr.Ax (cm rfl (cm rfl (Ch.nil (Fin.go (CM 4 rfl (Tr.ret ?_))))))))))))))
 refine Fin.E3 2 _ rfl rfl (Fin.drop 1 (Fin.LB ((l.foldl C8 [],x2)) rfl (A6.tmp rfl (Lr)) trivial ?_ (List.Perm.refl _)))
 · exact Aj (Sd hl (by omega)) (Lr)
end Go.Proofs.YtgilhkjlfongoaaGreat
namespace Go.Proofs.YtgilhkjlfongoaaGreat
open Go Go.RowKit Cp Go.ChangeShapes Go.WideShapes Go.ChangeAt Go.Proofs.Tryz
theorem k9:ownKnob Tryz.prog.godebug=none:=by kernel_rfl
theorem WG:laidOutB Tryz.prog=true:=by kernel_rfl
theorem u8_in {n:Int} (h:(Lit.int .u8 n).wf=true):0≤n∧n<256:=by
 simp only [Lit.wf,Bool.and_eq_true,decide_eq_true_eq] at h
 have h1:IntKind.u8.min=0:=rfl
 have h2:IntKind.u8.max=255:=rfl
 omega
theorem i64_in {n:Int} (h:(Lit.int .i64 n).wf=true):C7 n:=by
 simp only [Lit.wf,Bool.and_eq_true,decide_eq_true_eq] at h
 have h1:IntKind.i64.min= -9223372036854775808:=rfl
 have h2:IntKind.i64.max=9223372036854775807:=rfl
 unfold C7;omega
theorem Q2 {P:Program} {t e:TypeId} (ht:P.underlying t=some (.slice e)) (he:P.underlying e=some (.int .i64)) (hc:P.cellsOf e=1):IL P t (fun l:List Int=>l.length≤maxLen∧∀n∈l,C7 n) (fun l=>[ints l]):=
 (OL ht hc (HI he)).map id (fun _ h=>⟨h.2,fun n hn=>i64_in (h.1 n hn)⟩) (fun _=>rfl)
structure k_ where
 en:Int
 ow:List Int
 w:Value
 Y:List GI
structure lA where
 t:Int
 o:Int
 c:Int
 xs:List Ac
 ow:List Int
 w:Value
abbrev WH (x:GI):List Pr:=[int x.e.num,any,any,BB x.w (lens x.e.Bu.length)]
abbrev YP (x:List GI×Value):List A0:=Bc 55 4 (x.1.map WH) x.2::Nf I3 x.1
theorem YQ (x:List GI×Value):∀q∈YP x,ff q:=fun q hq=>by
 rcases List.mem_cons.1 hq with rfl|hq
 ·
  refine WB fun r hr=> ?_
  rw [List.mem_map] at hr
  obtain ⟨y,_,rfl⟩:=hr
  intro p hp
  simp only [List.mem_cons,List.not_mem_nil,or_false] at hp
  rcases hp with rfl|rfl|rfl|rfl<;>infer_instance
 ·
  obtain ⟨y,_,hq⟩:=List.mem_flatMap.1 hq
  rw [List.mem_singleton] at hq
  subst hq
  refine WB fun r hr=> ?_
  rw [List.mem_map] at hr
  obtain ⟨y,_,rfl⟩:=hr
  intro p hp
  rw [List.mem_singleton] at hp
  subst hp;infer_instance
theorem TK (x:List GI×Value) (M0:Av) (w0:World) (S:Nat→Prop) (rs:List A0) (M:Av) (w:World) (h:A1 M0 w0 S ((Bc 55 4 (x.1.map L1) x.2::Nf I3 x.1)++rs) M w):A1 M0 w0 S (YP x++rs) M w:=
 Q0 (f:=L1) (g:=WH) (fun _=>⟨Pr.le_refl _,Cs _,Cs _,Pr.le_refl _,trivial⟩) h
theorem WI (l:List Ac) (Aq:Int) (x:List GI×Value) (M M2:Av) (w:World) (u:Value) (h:(fact (x.1.map (·.e)=La l Aq) (DT [is x.2,int 0])).h M w u):(fact (x.1.map (·.e)=La l Aq) (DT [is x.2,int 0])).h M2 w u:=⟨h.1,(SN _ _).free _ _ _ _ h.2⟩
theorem TL (X:List GI) (v:Value) (rs:List A0):(YP (X,v)++rs).Perm (Bc 55 4 (X.map WH) v::(rs++Nf I3 X)):=List.Perm.cons _ List.perm_append_comm
theorem aU (s:DS):0≤s.val 5∧s.val 5≤4000:=by have:=s.DD (n:=5) (by omega);omega
theorem WJ {l:List Ac} {Aq:Int} {X:List GI} {y:GI} {k:Nat} (h:X.map (·.e)=La l Aq) (hy:X[k]? =some y):y.e.Bu.length≤l.length:=by
 have h1:y.e∈La l Aq:=by rw [←h];exact List.mem_map_of_mem (List.mem_of_getElem? hy)
 have h1:y.e∈FG l Aq l.length:=h1
 unfold FG at h1
 rw [List.mem_map] at h1
 obtain ⟨r,_,h2⟩:=h1
 rw [←h2]
 exact (Lq _ _ _ _).1
theorem TN {l:List Ac} {Aq:Int} {X:List GI} (h:X.map (·.e)=La l Aq):X.length≤l.length:=by
 have h8:=congrArg List.length h
 rw [List.length_map] at h8
 rw [h8]
 exact Lp l Aq l.length
theorem TP {l:List Ac} {n t o:Int} {own:List Int} (h:own.length≤45):(I0 l n own t o).1.length≤100000:=by
 unfold I0
 split
 ·
  split
  · exact Nat.zero_le _
  ·
   split
   · have:=Lt l n own t o own.length;show (DG l n own t o own.length).length≤_;omega
   · exact Nat.zero_le _
 · exact Nat.zero_le _
theorem WK {l:List Ac} {j:Nat} {y z:Ac}:(l.map BZ).set ((j:Nat):Int).toNat ((BZ y).take 0++BZ z++(BZ y).drop (0+11))=(l.set j z).map BZ:=by
 rw [Int.toNat_natCast,List.map_set];rfl
theorem Pv {l:List Ac} {j:Nat} {y:Ac} (h:∀f∈l,f.fits) (hy:y.fits):∀f∈l.set j y,f.fits:=fun f hf=>by
 rcases List.mem_or_eq_of_mem_set hf with h1|h1
 · exact h f h1
 · rw [h1];exact hy
theorem WL {l:List Int} {n:Int}:(l.map fun n=>[int n])++[[int n]]=(l++[n]).map fun n=>[int n]:=by rw [List.map_append];rfl
theorem YR {l:List Int}:(l.map fun n=>[int n])++(l.map fun n=>[int n])=(l++l).map fun n=>[int n]:=by rw [List.map_append]
theorem L3 (l:List Int):∀r∈(l.map fun n=>[int n]),r.length=1:=A8 fun _=>rfl
theorem Pw {t:List Int} {day age odd:Int}  :BT prog 5 [ints t,int day,int age,int odd] (bool true):=by
 refine BT.of func5 rfl rfl (by exact Nb rfl) fun M0 w0=> ?_
 refine Tr.seq (Tr.Ax (cm rfl (Ch.nil (Fin.go (Tr.seq (Tr.seq (Tr.Ax (cm rfl (co rfl (Ah rfl (XZ) ⟨ke rfl,trivial⟩) (co rfl (Dt rfl (vl rfl)) (Ch.nil (Fin.go ?_))))))))))))
 refine Tr.cn rfl ?_ ?_<;>intro h1 q1
 refine Tr.seq (Tr.Ax (co rfl (Ah rfl (Rq) trivial) (cm rfl (Ch.nil (Fin.go (Tr.ret (Fin.AF (Fin.DI rfl (Ba.Cz _ _) rfl ?_))))))))
 · exact Lr
 have ht4:t.length≤400:=by simpa using h1
 have ht9:t.length≤1000000000:=by omega
 refine Tr.skip (Fin.go (Tr.seq (Tr.CA (tm rfl (TO.pad ?_)))))
 refine TO.MK 0 rfl rfl (by decide) (HH rfl rfl (by decide) rfl (Z1 (l:=t) ht9) ⟨ke rfl,trivial⟩) (fun v1=> ?_)
 refine TO.ah 41 0 _ rfl rfl (fun _=>rfl) (fun b1=> ?_)
 refine tm rfl (TO.nil (Fin.go (Tr.seq (Tr.CA (tm rfl ?_)))))
 refine TO.Mh _ rfl rfl (by decide) rfl (Pu (m:=20) (by omega)) ⟨ke rfl,ke rfl,trivial⟩ ((Dx (j:=0) rfl).trans (List.Perm.cons _ (List.Perm.refl _))) (fun x2 _=> ?_)
 obtain ⟨z,zv⟩:=x2
 refine TO.fact 43 rfl fun hz=> ?_
 have hzl:z.length≤20:=hz.len
 refine tm rfl (TO.nil (Fin.RF 1 rfl (fun s1=> ?_)))
 refine Fin.go (Tr.seq (Tr.WX 0 (z.map BZ) rfl rfl (Tr.CA (tm rfl (tm rfl (TO.DB 1 rfl rfl (by decide) (AU rfl rfl (by decide) rfl (CN (by omega) (by omega)) ⟨ke rfl,ke rfl,trivial⟩) ?_))))))
 refine TO.WE (res2:=fun x=>fact (x.1.map (·.e)=La z _) (DT [is x.2,int 0])) (J4:=YP) 45 0 rfl rfl (by decide) rfl (TI (l:=z) hz.norm (aU _)) rfl (A8 fun _=>rfl) rfl (Lr) ⟨(vl rfl),(vl rfl),trivial⟩ rfl TK YQ (WI z _) (fun x1 _=> ?_)
 obtain ⟨X,xv⟩:=x1
 refine TO.fact 48 rfl fun hX=>(TO.perm (TL X xv _) (tm rfl (tp rfl (At rfl (vl rfl) rfl) (tp rfl (At rfl (vl rfl) rfl) (tm rfl (tm rfl (TO.nil (Fin.go (EZ 1 2 3 9 10 11 rfl (Tr.seq (Tr.Eo 0 rfl (Tr.JY 0 11 rfl (A8 fun _=>rfl) rfl (Lr) (Tr.YO 1 10 rfl rfl (Lr) (Tr.CA ?_))))))))))))))
 refine tm rfl ?_
 refine TO.Mh _ rfl rfl (by decide) rfl (TJ (m0:=z.length) (by omega)) ⟨⟨_,rfl,(fun _ _ _ h=>by have:=h.2;rwa [List.length_map] at this)⟩,trivial⟩ (List.Perm.refl _) (fun x3 _=> ?_)
 refine Tl rfl rfl rfl rfl ZP QA (fun b2=> ?_)
 refine TO.DK 0 rfl rfl rfl (vl rfl) (Va rfl) rfl GR rfl rfl (TO.nil (Fin.go (Tr.Fj 0 [int 0,any,any,BB x3 (lens (DM z.length).length)] rfl ⟨Lr,Lr,Lr,D0 (by rw [EH]),trivial⟩ (Tr.KO [(1,_),(2,_),(3,_),(9,_),(10,_),(13,_)] ⟨ke rfl,ke rfl,ke rfl,ke rfl,ke rfl,ke rfl,trivial⟩ (fun (q:k_) (s9:DS)=>[]) (fun (q:k_) (s9:DS)=>Hp M0 w0 Je (AD true b2 55 [int q.en,any,any,BB q.w (lens q.ow.length)]::Bc 3 1 ((q.ow).map fun n=>[int n]) q.w::Bz::BA 26 11 ((z).map BZ) zv::F_ b1 s9::Nf I3 q.Y)) (fun (q:k_) (s9:DS)=>q.ow.length≤20) ?_ ?_))))
 refine Tr.seq (Tr.CA (tm rfl (tp rfl (CV rfl underlying35 (vl rfl)) (tp rfl (ki rfl rfl rfl rfl) (tm rfl ?_)))))
 refine TO.cases 56 rfl (fun h2=> ?_) (fun h2=> ?_)
 have q2:=EC.FW h2
 refine TO.mw rfl rfl rfl h2 rfl (by decide) (Al rfl (vl rfl)) (TO.jJ 4 rfl rfl rfl h2 rfl rfl (by decide) (AU rfl rfl (by decide) rfl (Z0 (by omega) (by omega)) ⟨ke rfl,ke rfl,trivial⟩) (tp rfl (GQ rfl rfl h2 rfl) (TO.nil (Fin.go (HU 1 2 3 9 10 11 13 59 rfl ?_)))))
 refine Tr.cn rfl ?_ ?_<;>intro h3 q3
 have hXz:X.length≤20:=Nat.le_trans (TN hX) hzl
 have iP:0<X.length:=by omega
 have hvi:=DS.DD s1.C3.C3 (n:=X.length) (by omega)
 obtain ⟨y,hy⟩:=at_ (l:=X) (k:=(DS.val s1.C3.C3 X.length).toNat) (by omega)
 refine Tr.focus [_,_,_,_,_] hy rfl (Tr.drop 2 (Tr.perm (List.Perm.swap _ _ _) (Tr.CA (tm rfl (tm rfl (tm rfl (tp rfl (CV rfl underlying35 (vl rfl)) (TO.DB 4 rfl rfl (by decide) (AU rfl rfl (by decide) rfl (CN (by omega) (by omega)) ⟨ke rfl,ke rfl,trivial⟩) (tp rfl (AB rfl underlying35 GR (vl rfl) (vl rfl) (by omega) (by exact Am (by assumption))) ?_)))))))))
 refine tp rfl (Ad rfl Gj GR (vl rfl) rfl rfl) (TO.DK 0 rfl rfl rfl (vl rfl) (Va rfl) rfl GR rfl rfl (TO.nil (Fin.BW (⟨y.e.num,y.e.Bu,y.w,X.eraseIdx _⟩) (_)  (Nat.le_trans (WJ hX hy) hzl) ⟨ke rfl,ke rfl,ke rfl,ke rfl,ke rfl,ke rfl,trivial⟩ (fun _ _ h=>h))))
 refine Tr.skip ?_
 exact Fin.BW (⟨0,DM z.length,x3,X⟩) (_)  (by show (DM z.length).length≤_;rw [EH];exact hzl) ⟨ke rfl,ke rfl,ke rfl,ke rfl,ke rfl,ke rfl,trivial⟩ (fun _ _ h=>h)
 have q2:=EC.FW h2
 refine TO.lW rfl rfl rfl (Bv h2) rfl (by decide) (TO.lW rfl rfl rfl (Bv h2) rfl (by decide) (tp rfl (JE rfl rfl h2 rfl) (TO.nil (Fin.go (HU 1 2 3 9 10 11 13 59 rfl (Tr.cond rfl (fun h=>nomatch h) (fun _=> ?_)))))))
 refine Tr.skip ?_
 exact Fin.BW (⟨0,DM z.length,x3,X⟩) (_)  (by show (DM z.length).length≤_;rw [EH];exact hzl) ⟨ke rfl,ke rfl,ke rfl,ke rfl,ke rfl,ke rfl,trivial⟩ (fun _ _ h=>h)
 rintro q s9  hqo
 refine Tr.seq (Tr.CA (tm rfl (TO.DB 4 rfl rfl (by decide) (AU rfl rfl (by decide) rfl (CN (by omega) (by omega)) ⟨ke rfl,ke rfl,trivial⟩) (tm rfl (tp rfl (AM (xs:=[.const (.int .i64 (100)),.const (.int .i64 (3)),.const (.int .i64 (0)),.const (.int .i64 (6))]) (rows:=[[_],[_],[_],[_]]) rfl rfl underlying22 A4 z3 rfl (by decide) ⟨⟨(by exact rfl),(Vo rfl)⟩,⟨⟨(by exact rfl),(Vo rfl)⟩,⟨⟨(by exact rfl),(Vo rfl)⟩,⟨⟨(by exact rfl),(Vo rfl)⟩,trivial⟩⟩⟩⟩ (by decide)) ?_)))))
 refine TO.DB 4 rfl rfl (by decide) (AU rfl rfl (by decide) rfl (Mm (l:=[100,3,0,6]) (by simp) (by simp)) ⟨ke rfl,(Kf rfl),trivial⟩) ?_
 refine tm rfl (tp rfl (AM (xs:=[.const (.int .i64 (50)),.const (.int .i64 (1)),.const (.int .i64 (91))]) (rows:=[[_],[_],[_]]) rfl rfl underlying22 A4 z3 rfl (by decide) ⟨⟨(by exact rfl),(Vo rfl)⟩,⟨⟨(by exact rfl),(Vo rfl)⟩,⟨⟨(by exact rfl),(Vo rfl)⟩,trivial⟩⟩⟩ (by decide)) ?_)
 refine TO.DB 4 rfl rfl (by decide) (AU rfl rfl (by decide) rfl (Mm (l:=[50,1,91]) (by simp) (by simp)) ⟨ke rfl,(Kf rfl),trivial⟩) ?_
 refine tm rfl (tm rfl (tm rfl (TO.nil (Fin.go (N_ 1 2 3 9 10 13 14 15 16 rfl (Tr.KO [(9,_),(10,_),(13,_)] ⟨ke rfl,ke rfl,ke rfl,trivial⟩ (fun (p:lA) (s9:DS)=>[(14,int p.t),(15,int p.o),(16,int p.c)]) (fun (p:lA) (s9:DS)=>Hp M0 w0 Je (AD true b2 55 [int q.en,any,any,BB p.w (lens p.ow.length)]::BA 3 1 ((p.ow).map fun n=>[int n]) p.w::Bz::BA 26 11 ((p.xs).map BZ) zv::F_ b1 s9::Nf I3 q.Y)) (fun (p:lA) (s9:DS)=>(∀f∈p.xs,f.fits)∧p.ow.length≤45) ?_ ?_))))))
 refine Tr.seq (Tr.Ax (cm rfl (co rfl (Ah rfl (Ys (by omega) (by omega)) ⟨ke rfl,ke rfl,trivial⟩) (Ch.nil (Fin.go (Tr.block (Tr.seq (Tr.Ax (co rfl (ki rfl rfl rfl rfl) (cm rfl (Ch.nil (Fin.go ?_))))))))))))
 refine Tr.cn rfl ?_ ?_<;>intro h4 q4
 refine Tr.Ax (cm rfl (cm rfl (Ch.nil (Fin.block (Fin.Eo 1 rfl ?_)))))
 exact Fin.BW (⟨_,_,_,z,q.ow,q.w⟩) (_)  (⟨hz.fits,by show List.length (q.ow)≤45;omega⟩) ⟨ke rfl,ke rfl,ke rfl,ke rfl,ke rfl,ke rfl,trivial⟩ (fun _ _ h=>h)
 refine Tr.seq (Tr.Ax (co rfl (ki rfl rfl rfl rfl) (cm rfl (Ch.nil (Fin.go (FM 1 2 9 10 13 14 15 16 76 80 rfl ?_))))))
 refine Tr.cn rfl ?_ ?_<;>intro h5 q5
 refine Tr.Ax (cm rfl (cm rfl (Ch.nil (Fin.block (Fin.Eo 1 rfl ?_)))))
 exact Fin.BW (⟨_,_,_,z,q.ow,q.w⟩) (_)  (⟨hz.fits,by show List.length (q.ow)≤45;omega⟩) ⟨ke rfl,ke rfl,ke rfl,ke rfl,ke rfl,ke rfl,trivial⟩ (fun _ _ h=>h)
 refine Tr.seq (Tr.Ax (co rfl (ki rfl rfl rfl rfl) (cm rfl (Ch.nil (Fin.go ?_)))))
 refine Tr.cn rfl ?_ ?_<;>intro h6 q6
 refine Tr.Ax (cm rfl (cm rfl (Ch.nil (Fin.block (Fin.Eo 1 rfl ?_)))))
 exact Fin.BW (⟨_,_,_,z,q.ow,q.w⟩) (_)  (⟨hz.fits,by show List.length (q.ow)≤45;omega⟩) ⟨ke rfl,ke rfl,ke rfl,ke rfl,ke rfl,ke rfl,trivial⟩ (fun _ _ h=>h)
 refine Tr.seq (Tr.Ax (co rfl (ki rfl rfl rfl rfl) (cm rfl (Ch.nil (Fin.go (HU 9 10 13 14 15 16 76 86 rfl ?_))))))
 refine Tr.cn rfl ?_ ?_<;>intro h7 q7
 refine Tr.pad (Tr.Dv mixed [none,some (0,1,false,0),none,none,some (0,4,false,0),none,some (0,5,true,0),none,some (0,2,true,96),none,some (0,1,true,96)] (by kernel_rfl) (xo rfl (fun _=>Bb rfl Gz (vl rfl)) (C0 1 rfl rfl (AS rfl MP (vl rfl) rfl) (xm rfl (xm rfl (C0 4 rfl rfl (KP rfl underlying31 (Ka rfl)) (xo rfl (fun _=>AM (xs:=[.const (.int .i64 (-1)),.tmp 92]) (rows:=[[_],[_]]) rfl rfl underlying22 A4 z3 rfl (by decide) ⟨⟨(by exact rfl),(Vo rfl)⟩,⟨⟨(by exact rfl),(Vo rfl)⟩,trivial⟩⟩ (by decide)) ?_)))))))
 refine Cx.ef 5 rfl rfl (by decide) (AU rfl rfl (by decide) rfl (Mm (l:=[-1,(((z.map BZ).length:Nat):Int)]) (by simp) (by simp)) ⟨ke rfl,(Kf rfl),trivial⟩) ?_
 refine xo rfl (fun _=>AM (xs:=[.tmp 94]) (rows:=[[_]]) rfl rfl underlying22 A4 z3 rfl (by decide) ⟨⟨(by exact rfl),(Vo rfl)⟩,trivial⟩ (by decide)) ?_
 refine Cx.ef 2 rfl rfl (by decide) (F3 rfl rfl (by decide) rfl underlying22 A4 MO z3 rfl (by decide) (by decide) (vl rfl) (Kf rfl) (A8 fun _=>rfl) (Nat.zero_lt_succ _) (by simp only [List.length_map,List.length_cons,List.length_nil];unfold maxLen;omega) (by simp only [List.length_map,List.length_cons,List.length_nil];omega)) ?_
 refine xo rfl (fun _=>Bb rfl Gz (vl rfl)) (Cx.CY 1 rfl rfl (MN rfl rfl rfl (vl rfl) rfl T2 (by exact Nb rfl)) ?_)
 refine Cx.nil ⟨rfl,?_⟩
 refine BP.YY 2 1 96 rfl rfl (by decide) rfl (fun v4=> ?_)
 refine BP.done (BG.cons (BG.cons (BG.cons (BG.cons (BG.cons (BG.cons (BG.map _))))))) (Fin.block (Fin.Eo 2 rfl (Fin.WX 2 ((q.ow++[s9.C3.C3.C3.of [-1,(((z.map BZ).length:Nat):Int)]]).map fun n=>[int n]) rfl WL (Fin.Fj 1 [int q.en,any,any,BB v4 (lens (q.ow++[s9.C3.C3.C3.of [-1,(((z.map BZ).length:Nat):Int)]]).length)] rfl ⟨Lr,Lr,Lr,D0 (by simp),trivial⟩ (Fin.drop 0 ?_)))))
 exact Fin.BW (⟨_,_,_,z,q.ow++[s9.C3.C3.C3.of [-1,(((z.map BZ).length:Nat):Int)]],v4⟩) (_)  (⟨hz.fits,by show List.length (q.ow++[s9.C3.C3.C3.of [-1,(((z.map BZ).length:Nat):Int)]])≤45;simp;omega⟩) ⟨ke rfl,ke rfl,ke rfl,ke rfl,ke rfl,ke rfl,trivial⟩ (fun _ _ h=>h)
 refine Tr.seq (Tr.Ax (co rfl (ki rfl rfl rfl rfl) (cm rfl (Ch.nil (Fin.go ?_)))))
 refine Tr.cn rfl ?_ ?_<;>intro h8 q8
 refine Tr.seq (Tr.Ax (cm rfl (co rfl (As 3 rfl (KP rfl underlying31 (Ka rfl))) (co rfl (ki rfl rfl rfl rfl) (Ch.nil (Fin.go ?_))))))
 refine Tr.cn rfl ?_ ?_<;>intro h9 q9
 have Tj:1<z.length:=by have:=q9;rw [List.length_map] at this;omega
 obtain ⟨a0,h0⟩:=at_ (l:=z) (k:=0) (by omega)
 obtain ⟨a1,h1⟩:=at_ (l:=z) (k:=1) Tj
 have h1s:(z.set 0 a1)[1]? =some a1:=by rw [List.getElem?_set,if_neg (by decide)];exact h1
 have Gp:(z.set 0 a1).length=z.length:=List.length_set ..
 refine Tr.Dv mixed [none,none,none,some (0,3,false,0),some (0,3,false,0),none,some (0,3,false,0),some (0,3,false,0),some (0,3,false,0),some (0,3,true,0),some (0,3,false,0),some (0,3,true,0)] (by kernel_rfl) (xm rfl (xm rfl (xm rfl ?_)))
 refine C0 3 rfl rfl (H8 rfl underlying31 AY (Ka rfl) (vl rfl) (by omega) (by rw [List.length_map];omega)) ?_
 refine C0 3 rfl rfl (F9 rfl BE AY (vl rfl) (A8 fun _=>rfl) (KY (j:=1) h1)) ?_
 refine xm rfl ?_
 refine C0 3 rfl rfl (H8 rfl underlying31 AY (Ka rfl) (vl rfl) (by omega) (by rw [List.length_map];omega)) ?_
 refine C0 3 rfl rfl (F9 rfl BE AY (vl rfl) (A8 fun _=>rfl) (KY (j:=0) h0)) ?_
 refine C0 3 rfl rfl (H8 rfl underlying31 AY (Ka rfl) (vl rfl) (by omega) (by rw [List.length_map];omega)) ?_
 refine Cx.CY 3 rfl rfl (LD rfl rfl (vl rfl) (Va rfl) AY rfl (A8 fun _=>rfl) (KY (j:=0) h0) (by decide) (WK (j:=0))) ?_
 refine C0 3 rfl rfl (H8 rfl underlying31 AY (Ka rfl) (vl rfl) (by omega) (by rw [List.length_map];omega)) ?_
 refine Cx.CY 3 rfl rfl (LD rfl rfl (vl rfl) (Va rfl) AY rfl (A8 fun _=>rfl) (KY (j:=1) h1s) (by decide) (WK (j:=1))) ?_
 refine Cx.nil ⟨rfl,?_⟩
 refine BP.done (BG.cons (BG.cons (BG.cons (BG.cons (BG.cons (BG.map _)))))) (Fin.block (Fin.Eo 1 rfl ?_))
 exact Fin.BW (⟨_,_,_,((z.set 0 a1).set 1 a0),q.ow,q.w⟩) (_)  (⟨Pv (Pv hz.fits (hz.fits a1 (List.mem_of_getElem? h1))) (hz.fits a0 (List.mem_of_getElem? h0)),by show List.length (q.ow)≤45;omega⟩) ⟨ke rfl,ke rfl,ke rfl,ke rfl,ke rfl,ke rfl,trivial⟩ (fun _ _ h=>h)
 refine Tr.skip (Fin.block (Fin.Eo 1 rfl ?_))
 exact Fin.BW (⟨_,_,_,z,q.ow,q.w⟩) (_)  (⟨hz.fits,by show List.length (q.ow)≤45;omega⟩) ⟨ke rfl,ke rfl,ke rfl,ke rfl,ke rfl,ke rfl,trivial⟩ (fun _ _ h=>h)
 refine Tr.seq (Tr.Ax (co rfl (ki rfl rfl rfl rfl) (cm rfl (Ch.nil (Fin.go ?_)))))
 refine Tr.cn rfl ?_ ?_<;>intro h10 SQ
 refine Tr.Eo 1 rfl (Tr.Jt 0 1 3 rfl rfl (by decide) rfl (fun _ _ _ h=>h.1) (L3 _) (Tr.Dv mixed [none,none,some (0,0,false,0),some (0,1,true,118),none,some (0,0,false,0),some (118,1,true,121),none,some (0,0,true,121)] (by kernel_rfl) (xo rfl (fun _=>AM (xs:=[]) (rows:=[]) rfl rfl underlying22 A4 z3 rfl (by decide) trivial (by decide)) (xo rfl (fun _=>Bb rfl Gz (vl rfl)) (C0 0 rfl rfl (AS rfl MP (vl rfl) rfl) ?_)))))
 refine Cx.ef 1 rfl rfl (by decide) (FI rfl rfl (by decide) rfl underlying22 A4 MO z3 rfl (by decide) (by decide) (vl rfl) (vl rfl) (by simp;unfold maxLen;omega) (by simp;omega)) ?_
 refine xo rfl (fun _=>Bb rfl Gz (vl rfl)) (C0 0 rfl rfl (AS rfl MP (vl rfl) rfl) ?_)
 refine Cx.ef 1 rfl rfl (by decide) (Cy rfl rfl (by decide) rfl underlying22 A4 MO z3 rfl (by decide) (by decide) (vl rfl) (L3 _) (by simp;unfold maxLen;omega) (by simp;omega)) ?_
 refine xo rfl (fun _=>Bb rfl Gz (vl rfl)) (Cx.CY 0 rfl rfl (MN rfl rfl rfl (vl rfl) rfl T2 (by exact Nb rfl)) ?_)
 refine Cx.nil ⟨rfl,?_⟩
 refine BP.YY 1 0 121 rfl rfl (by decide) rfl (fun v5=> ?_)
 refine BP.done (BG.cons (BG.cons (BG.cons (BG.cons (BG.cons (BG.map _)))))) (Fin.block (Fin.WX 1 ((q.ow++q.ow).map fun n=>[int n]) rfl YR (Fin.Fj 0 [int q.en,any,any,BB v5 (lens (q.ow++q.ow).length)] rfl ⟨Lr,Lr,Lr,D0 (by simp),trivial⟩ ?_)))
 exact Fin.BW (⟨_,_,_,z,q.ow++q.ow,v5⟩) (_)  (⟨hz.fits,by show List.length (q.ow++q.ow)≤45;simp;omega⟩) ⟨ke rfl,ke rfl,ke rfl,ke rfl,ke rfl,ke rfl,trivial⟩ (fun _ _ h=>h)
 refine Tr.skip (Fin.block (Fin.Eo 1 rfl ?_))
 exact Fin.BW (⟨_,_,_,z,q.ow,q.w⟩) (_)  (⟨hz.fits,by show List.length (q.ow)≤45;omega⟩) ⟨ke rfl,ke rfl,ke rfl,ke rfl,ke rfl,ke rfl,trivial⟩ (fun _ _ h=>h)
 rintro p s9  ⟨hpf,bU⟩
 refine Tr.JY 3 10 rfl (A8 fun _=>rfl) rfl (fun _ _ _ h=>h.1) (Tr.Jt 0 1 3 rfl rfl (by decide) rfl (fun _ _ _ h=>h.1) (L3 _) (Tr.seq (Tr.Ax (cm rfl (co rfl (As 0 rfl (Ae rfl Gj GR (vl rfl) rfl rfl)) (cm rfl (cm rfl ?_)))))))
 refine co rfl (Ah rfl (Vx (l:=p.xs) (own:=p.ow) hpf (by omega)) ⟨ke rfl,ke rfl,ke rfl,ke rfl,trivial⟩) ?_
 refine cm rfl (co rfl (At rfl (vl rfl) rfl) (co rfl (At rfl (vl rfl) rfl) (cm rfl (cm rfl (Ch.nil (Fin.go (HU 9 10 13 14 15 16 17 18 rfl (Tr.seq (Tr.Ax (cm rfl (co rfl (As 0 rfl (Ae rfl Gj GR (vl rfl) rfl rfl)) (cm rfl (cm rfl ?_)))))))))))))
 refine co rfl (Ah rfl (NF (l:=p.xs) (own:=p.ow) (by omega)) ⟨ke rfl,ke rfl,ke rfl,ke rfl,trivial⟩) ?_
 refine cm rfl (co rfl (At rfl (vl rfl) rfl) (co rfl (At rfl (vl rfl) rfl) (cm rfl (cm rfl (Ch.nil (Fin.go (HU 9 10 13 16 17 18 19 20 rfl (Tr.seq (Tr.Ax (cm rfl (co rfl (As 0 rfl (Ae rfl Gj GR (vl rfl) rfl rfl)) (cm rfl ?_))))))))))))
 refine co rfl (Ah rfl (YK (l:=p.xs) (own:=p.ow) hpf (by omega)) ⟨ke rfl,ke rfl,ke rfl,trivial⟩) ?_
 refine cm rfl (co rfl (At rfl (vl rfl) rfl) (co rfl (At rfl (vl rfl) rfl) (cm rfl (cm rfl (Ch.nil (Fin.go (FM 9 10 13 16 17 18 19 20 21 22 rfl (Tr.seq (Tr.Ax (cm rfl (co rfl (As 0 rfl (Ae rfl Gj GR (vl rfl) rfl rfl)) (cm rfl ?_))))))))))))
 refine co rfl (Ah rfl (V7 (l:=p.xs) (own:=p.ow) (by omega)) ⟨ke rfl,ke rfl,ke rfl,trivial⟩) ?_
 refine cm rfl (co rfl (At rfl (vl rfl) rfl) (co rfl (At rfl (vl rfl) rfl) (cm rfl (cm rfl (Ch.nil (Fin.go (Hr 9 10 13 17 18 19 20 21 22 23 24 rfl (Tr.seq (Tr.seq (Tr.Ax (cm rfl (cm rfl (co rfl (ki rfl rfl rfl rfl) ?_)))))))))))))
 refine cm rfl ?_
 refine Ch.cs 156 rfl ?_ ?_<;>intro h11 WV
 exfalso;simp at h11
 refine DL h11 rfl (DL h11 rfl (cy h11 rfl (ki rfl rfl rfl rfl) (co rfl (JE rfl rfl h11 rfl) (cm rfl ?_))))
 refine Ch.cs 161 rfl ?_ ?_<;>intro h12 SV
 exfalso;simp at h12
 refine DL h12 rfl (DL h12 rfl (cy h12 rfl (Ah rfl (Nz) ⟨ke rfl,ke rfl,trivial⟩) (cy h12 rfl (Dt rfl (vl rfl)) (co rfl (JE rfl rfl h12 rfl) (cm rfl ?_)))))
 refine Ch.cs 167 rfl ?_ ?_<;>intro I7 Ud
 exfalso;simp at I7
 refine DL I7 rfl (DL I7 rfl (cy I7 rfl (Ah rfl (V2) ⟨ke rfl,ke rfl,trivial⟩) (cy I7 rfl (Dt rfl (vl rfl)) (co rfl (JE rfl rfl I7 rfl) (Ch.nil (Fin.go (EL 9 10 13 19 172 rfl ?_)))))))
 refine Tr.cn rfl ?_ ?_<;>intro Ue Zq
 exfalso;simp at Ue
 refine Tr.skip (Fin.go (Tr.seq (Tr.Dv mixed [none,some (0,0,false,0),none,some (0,4,true,0),none,none,none,none,none,none] (by kernel_rfl) (xm rfl (C0 0 rfl rfl (Ae rfl Gj GR (vl rfl) rfl rfl) (xm rfl (Cx.ef 4 rfl rfl (by decide) (AU rfl rfl (by decide) rfl (CN (by omega) (by omega)) ⟨ke rfl,ke rfl,trivial⟩) ?_)))))))
 refine xo rfl (fun _=>Ah rfl (NF (l:=p.xs) (own:=p.ow) (by omega)) ⟨ke rfl,ke rfl,ke rfl,ke rfl,trivial⟩) ?_
 refine xm rfl (xo rfl (fun _=>At rfl (vl rfl) rfl) (xo rfl (fun _=>At rfl (vl rfl) rfl) (xm rfl (xm rfl ?_))))
 refine Cx.nil ⟨rfl,?_⟩
 refine BP.done (BG.cons (BG.cons (BG.cons (BG.cons (BG.cons (BG.map _)))))) (Fin.go (Tr.drop 0 (Py 9 19 25 rfl (Tr.seq (Tr.Ax (cm rfl (cm rfl (co rfl (Ah rfl (Sk (TP bU) (TP bU)) ⟨ke rfl,ke rfl,trivial⟩) (cm rfl (co rfl (At rfl (vl rfl) rfl) (co rfl (At rfl (vl rfl) rfl) (cm rfl (cm rfl ?_)))))))))))))
 refine Ch.nil (Fin.go (Tr.seq (Tr.Ax (cm rfl (cm rfl (co rfl (Ah rfl (Qa (TP bU) (TP bU)) ⟨ke rfl,ke rfl,trivial⟩) (cm rfl (co rfl (At rfl (vl rfl) rfl) (co rfl (At rfl (vl rfl) rfl) (cm rfl (cm rfl (Ch.nil (Fin.go ?_)))))))))))))
 refine EZ 9 19 27 28 29 30 rfl (Tr.seq (Tr.CA (tm rfl (TO.DB 3 rfl rfl (by decide) (AU rfl rfl (by decide) rfl (CN (by omega) (by omega)) ⟨ke rfl,ke rfl,trivial⟩) (tp rfl (ki rfl rfl rfl rfl) (tm rfl (TO.nil (Fin.go (Tr.seq (Tr.Ax (cm rfl (cm rfl (co rfl (Ah rfl (U5) ⟨ke rfl,ke rfl,ke rfl,trivial⟩) ?_)))))))))))))
 refine cm rfl (co rfl (At rfl (vl rfl) rfl) (co rfl (At rfl (vl rfl) rfl) (cm rfl (cm rfl (Ch.nil (Fin.go (HU 19 27 28 29 30 31 32 33 rfl (Tr.seq (Tr.Ax (cm rfl (cm rfl (co rfl (Ah rfl (Sg) ⟨ke rfl,ke rfl,ke rfl,trivial⟩) (cm rfl ?_)))))))))))))
 refine co rfl (At rfl (vl rfl) rfl) (co rfl (At rfl (vl rfl) rfl) (cm rfl (cm rfl (Ch.nil (Fin.go (N_ 19 27 28 29 30 32 33 34 35 rfl (Tr.seq (Tr.Ax (cm rfl (cm rfl (co rfl (Ah rfl (Nz) ⟨ke rfl,ke rfl,trivial⟩) (cm rfl ?_))))))))))))
 refine Ch.cs 211 rfl ?_ ?_<;>intro WW j0
 refine DL WW rfl (DL WW rfl (cy WW rfl (Ah rfl (Nz) ⟨ke rfl,ke rfl,trivial⟩) (co rfl (GQ rfl rfl WW rfl) (cm rfl ?_))))
 refine Ch.cs 216 rfl ?_ ?_<;>intro h16 j4
 refine DL h16 rfl (cy h16 rfl (Ah rfl (U4 (TP bU)) ⟨ke rfl,ke rfl,trivial⟩) (DL h16 rfl (cy h16 rfl (Ah rfl (Xk (TP bU)) ⟨ke rfl,ke rfl,trivial⟩) (cy h16 rfl (Ah rfl (QW) ⟨ke rfl,ke rfl,trivial⟩) (co rfl (GQ rfl rfl h16 rfl) (cm rfl ?_))))))
 refine Ch.cs 223 rfl ?_ ?_<;>intro Ta iK
 refine DL Ta rfl (DL Ta rfl (cy Ta rfl (ki rfl rfl rfl rfl) (co rfl (GQ rfl rfl Ta rfl) (cm rfl ?_))))
 refine Ch.cs 228 rfl ?_ ?_<;>intro Tc iL
 refine DL Tc rfl (DL Tc rfl (cy Tc rfl (Tt rfl underlying4 (vl rfl) (vl rfl)) (co rfl (GQ rfl rfl Tc rfl) (cm rfl ?_))))
 refine Ch.cs 233 rfl ?_ ?_<;>intro XO iM
 refine cy XO rfl (Ah rfl (Rq) trivial) (co rfl (GQ rfl rfl XO rfl) (cm rfl (Ch.nil (Fin.go (CM 8 rfl (Tr.ret (Fin.DI rfl (Ba.Cz _ _) rfl ?_)))))))
 · exact Lr
 exfalso;simp at XO
 exfalso;simp at Tc
 exfalso;simp at Ta
 exfalso;simp at h16
 exfalso;simp at WW
theorem JZ (os:Os) (started:os.Started) (H:Type) (enc:TypeId×Value→H):
  ReturnsInHanded {} Tryz.checked os 5 .any (Rows.assetMadeSpec.pre6 enc Tryz.prog Tryz.f5 Rows.assetMadeRow.domain false) (Rows.assetMadeSpec.post enc Tryz.prog Tryz.f5 false true false false):=by
 refine returnsInHanded_of_change (C := Tryz.checked) k9 started (by kernel_rfl) Tryz.func5
  (ChangeSpec.witness6 (enc:=enc) (C:=Tryz.checked) false ⟨#[],#[.slice none 0 0,.int .i64 0,.int .i64 0,.int .i64 0],[]⟩ 8 (by kernel_rfl) (by kernel_rfl) (by kernel_rfl) (by kernel_rfl)) ?_
 intro W base args ds gs before fu hW oV _
 have hval:∀(j:Nat) t v,Tryz.f5.params[j]? =some t→args[j]? =some v→Value.okWide Tryz.prog W .any base t v:=fu
 have hW':=hW
 obtain ⟨p,q,hA0,hV,hpq,hfz,hnd⟩:=hW
 have hA:DataW.TrodAll enc Tryz.prog W 0 (fun _=>true) true Tryz.f5.params.toList args.toList ds p:=hA0
 have Wi:=hA
 rw [Tryz.params5] at hA hval
 obtain ⟨v0,v1,v2,v3,d0,d1,d2,d3,p0,p1,p2,p3,rfl,rfl,hp,h0,h1,h2,h3⟩:=trodAll_four hA
 obtain ⟨rfl,rfl⟩:=trodVars_none hV
 obtain ⟨a0,gH,e0⟩:=KI (Q2 Tryz.underlying22 Tryz.underlying3 (by kernel_rfl)) h0 (by obtain ⟨_,_,_,rfl⟩:=okWide_slice Tryz.underlying22 (hval 0 22 v0 rfl rfl);rfl)
 obtain ⟨a1,hr1,e1⟩:=KI (HI Tryz.underlying3) h1 (by obtain ⟨_,rfl⟩:=okWide_int Tryz.underlying3 (hval 1 3 v1 rfl rfl);rfl)
 obtain ⟨a2,gI,e2⟩:=KI (HI Tryz.underlying3) h2 (by obtain ⟨_,rfl⟩:=okWide_int Tryz.underlying3 (hval 2 3 v2 rfl rfl);rfl)
 obtain ⟨a3,hr3,e3⟩:=KI (HI Tryz.underlying3) h3 (by obtain ⟨_,rfl⟩:=okWide_int Tryz.underlying3 (hval 3 3 v3 rfl rfl);rfl)
 refine ((Pw).2 cE W [v0,v1,v2,v3] (ZF W) ⟨e0,e1,e2,e3,trivial⟩).mono fun e W' ⟨v,he,hv,hb⟩=> ?_
 subst he
 obtain rfl:v= .bool true:=hv
 exact ⟨_,rfl,Tu WG (by kernel_rfl) rfl Tryz.underlying4 rfl Wi (by rw [hpq];simp) hW' rfl hb⟩
theorem Ja:(Rows.assetMadeRow.inPlace==Tryz.pinned.checked.prog.inPlace 5)=true:=by kernel_rfl
theorem Jb:(Rows.assetMadeRow.unfollowed==Tryz.pinned.checked.prog.unfollowed 5)=true:=by kernel_rfl
theorem Jc:(Rows.assetMadeRow.recurses==Tryz.pinned.checked.prog.recurses 5)=true:=by kernel_rfl
theorem Jd:(Rows.assetMadeRow.named==Tryz.pinned.checked.prog.varsNamed 5)=true:=by kernel_rfl
theorem KB:joinedFacts Tryz.pinned.checked.prog 5 Tryz.f5 Rows.assetMadeSpec Rows.assetMadeRow=true:=by
 unfold joinedFacts
 rw [Ja,Jb,Jc,Jd]
 kernel_rfl
theorem assetMade_holds:Rows.AssetMadeSaid:=
 OpenClaim.holds_of_wide 5 Tryz.f5 rfl rfl rfl rfl rfl rfl rfl ⟨rfl, rfl, rfl, rfl, rfl⟩ rfl rfl rfl rfl rfl (by kernel_rfl) Tryz.func5 KB
  (of_decide_eq_true (by kernel_rfl)) (by unfold Func.isWrapper;first|(rw [if_pos (by decide+kernel)];kernel_rfl)|(rw [if_neg (by decide+kernel)];exact ⟨rfl,rfl⟩))
  (fun os started H enc _=>JZ os started H enc)
end Go.Proofs.YtgilhkjlfongoaaGreat
