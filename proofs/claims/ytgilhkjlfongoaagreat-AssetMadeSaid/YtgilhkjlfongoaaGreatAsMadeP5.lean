/-
  Part 5 of the texts that prove this claim, merged.
-/
import Derived.Test.YtgilhkjlfongoaaGreatAsMadeP4
set_option linter.all false
set_option maxRecDepth 40000
set_option maxHeartbeats 16000000
namespace Go.Proofs.YtgilhkjlfongoaaGreat
open Go Go.RowKit Cp Go.Proofs.Tryz
theorem Sy {f:Ac} (h:¬(if BV f then (0:Int) else 24)=0):BV f=false:=by
 cases hc:BV f with
 |false=>rfl
 |true=>rw [hc] at h;exact absurd rfl h
theorem Qq {f:Ac} (h:(if BV f then (0:Int) else 24)=0):BV f=true:=by
 cases hc:BV f with
 |true=>rfl
 |false=>rw [hc] at h;cases h
def Lk (l:List Ac):Prop:=∀f∈l,0≤f.day∧f.day≤40000
theorem Iy {l:List Ac} (h:Lk l) {i:Nat} {f:Ac} (hf:l[i]? =some f):0≤f.day∧f.day≤40000:=h f (List.mem_of_getElem? hf)
theorem Ll {f g:Ac} {Aq:Int} (h:g.machine=0∨¬g.host=f.host∨Aq<FO f g):Em f g Aq=true:=by unfold Em;simpa using h
theorem Rw {f g:Ac} {Aq:Int} (h1:¬g.machine=0) (h2:g.host=f.host) (h3:¬Aq<FO f g):Em f g Aq=false:=by unfold Em;simp [h1,h2];omega
theorem Sz {l:List Ac} {f:Ac} {Aq:Int} {k:Nat} (hk:k≤l.length) (h:0≤CE l f Aq k):(CE l f Aq k).toNat<l.length∧∃b,l[(CE l f Aq k).toNat]? =some b:=by
 rcases LW l f Aq k with h1|⟨_,h2,b,hb,_⟩
 · omega
 · exact ⟨by omega,b,hb⟩
theorem Qr {f g b:Ac}:closer f g b=true↔(FO f g<FO f b∨FO f g=FO f b∧(g.day<b.day∨g.day=b.day∧g.machine<b.machine)):=by
 unfold closer
 rw [decide_eq_true_eq]
 have e:∀a b c:Int,Fq [a,b,c]=if a=0 then (if b=0 then (if c=0 then 0 else c) else b) else a:=fun a b c=>rfl
 rw [e];unfold Ar
 (repeat' split)<;>omega
theorem Ve {a b:Int} (ha:0≤a∧a≤40000) (hb:0≤b∧b≤40000):BT prog 148 [int a,int b] (int (max (a-b) (b-a))):=by
 refine fo func148 rfl ⟨rfl,rfl⟩ fun M0 w0=> ?_
 refine a2 ?_
 refine co rfl (Y4 rfl (vl rfl) (vl rfl)) ?_
 refine a2 ?_
 · exact Lr
theorem Vf {f g b:Ac} (hf:0≤f.day∧f.day≤40000) (hg:0≤g.day∧g.day≤40000) (hb:0≤b.day∧b.day≤40000):BT prog 149 [agg (BZ g),agg (BZ b),int f.day] (bool (closer f g b)):=by
 refine fo func149 rfl ⟨rfl,rfl⟩ fun M0 w0=> ?_
 have e1:FO f g=max (g.day-f.day) (f.day-g.day):=by unfold FO;omega
 have e2:FO f b=max (b.day-f.day) (f.day-b.day):=by unfold FO;omega
 · repeat' first|(refine bool_eq ?_;rw [Bool.eq_iff_iff,Qr,decide_eq_true_eq];rw [←e1,←e2] at*;omega)|refine co rfl (EE (Ve (by assumption) (by assumption)) rfl rfl rfl) ?_|refine ac ?_|(refine Tr.cn rfl ?_ ?_<;>intro h q)
theorem JS {l:List Ac} {i:Nat} {f:Ac} {Aq:Int} (hd:Lk l) (hi:l[i]? =some f):BT prog 97 [Bu l,int ((i:Nat):Int),int Aq] (int (near l f Aq)):=by
 refine fo func97 rfl ⟨rfl,rfl⟩ fun M0 w0=>(Tr.D9 0 rfl fun Dg=> ?_)
 have ni:=Iy hd hi
 refine a3 ?_
 refine Tr.block (Tr.BU [(0,_),(1,_),(2,_)] (OK rfl) (fun k:Nat=>[(8,int ((k:Nat):Int)),(7,int (CE l f Aq k))]) (fun k:Nat=>k≤(l).length) (fun k:Nat=>(l).length-k) 0 (Nat.zero_le _) ⟨ke rfl,ke rfl,trivial⟩ ?_)
 rintro k Cb
 refine an ?_ ?_<;>intro h1 q1
 have Az:k<(l).length:=Ak h1
 obtain ⟨g,A7⟩:=at_ Az
 have hgd:=Iy hd A7
 have e1:FO f g=max (g.day-f.day) (f.day-g.day):=by unfold FO;omega
 refine a2 ?_
 refine co rfl (AB rfl underlying31 AY (vl rfl) (vl rfl) (by omega) (by exact Am (by assumption))) ?_
 refine ag ?_ ?_<;>intro h2 q2
 refine ac ?_
 refine EZ 0 1 2 7 8 48 rfl ?_
 refine a2 ?_
 exact Fin.AE (k+1) ⟨Az,by omega⟩ ⟨⟨_,rfl,AJ k⟩,⟨_,rfl,int_eq (by exact (Gb A7 (Ll (by exact .inl (by assumption)))).symm)⟩,ke rfl,ke rfl,ke rfl,trivial⟩
 refine ac ?_
 refine cy h2 rfl (AB rfl underlying31 AY (vl rfl) (vl rfl) (by omega) (by exact Am (by assumption))) ?_
 refine ac ?_
 refine cy h2 rfl (AB rfl underlying31 AY (vl rfl) (vl rfl) (by omega) (Am hi)) ?_
 refine ag ?_ ?_<;>intro h3 q3
 refine ac ?_
 refine EZ 0 1 2 7 8 48 rfl ?_
 refine a2 ?_
 exact Fin.AE (k+1) ⟨Az,by omega⟩ ⟨⟨_,rfl,AJ k⟩,⟨_,rfl,int_eq (by exact (Gb A7 (Ll (by exact .inr (.inl (by assumption))))).symm)⟩,ke rfl,ke rfl,ke rfl,trivial⟩
 refine ac ?_
 refine cy h3 rfl (AB rfl underlying31 AY (vl rfl) (vl rfl) (by omega) (by exact Am (by assumption))) ?_
 refine ac ?_
 refine cy h3 rfl (AB rfl underlying31 AY (vl rfl) (vl rfl) (by omega) (Am hi)) ?_
 refine ac ?_
 refine cy h3 rfl (EE (Ve (by assumption) (by assumption)) rfl rfl rfl) ?_
 refine ac ?_
 refine EZ 0 1 2 7 8 48 rfl ?_
 refine Tr.cn rfl ?_ ?_<;>intro h4 q4
 refine a2 ?_
 exact Fin.AE (k+1) ⟨Az,by omega⟩ ⟨⟨_,rfl,AJ k⟩,⟨_,rfl,int_eq (by exact (Gb A7 (Ll (by exact .inr (.inr (by omega))))).symm)⟩,ke rfl,ke rfl,ke rfl,trivial⟩
 refine ac ?_
 refine ag ?_ ?_<;>intro h5 q5
 refine ac ?_
 refine EZ 0 1 2 7 8 66 rfl ?_
 refine a2 ?_
 exact Fin.AE (k+1) ⟨Az,by omega⟩ ⟨⟨_,rfl,AJ k⟩,⟨_,rfl,int_eq (by exact (Jw A7 (Rw (by assumption) (by assumption) (by omega)) (by omega)).symm)⟩,ke rfl,ke rfl,ke rfl,trivial⟩
 obtain ⟨hnk,b,hb⟩:=Sz (by omega) q5
 have hbd:=Iy hd hb
 · repeat' first|(exact Fin.AE (k+1) ⟨Az,by omega⟩ ⟨⟨_,rfl,AJ k⟩,⟨_,rfl,int_eq (by rw [Mv A7 (Rw (by assumption) (by assumption) (by omega)) (by omega) hb];simp_all)⟩,ke rfl,ke rfl,ke rfl,trivial⟩)|refine cy h5 rfl (AB rfl underlying31 AY (vl rfl) (vl rfl) (by omega) (by exact Am (by assumption))) ?_|refine cy h5 rfl (AB rfl underlying31 AY (vl rfl) (vl rfl) (by omega) (A_ hb)) ?_|refine cy h5 rfl (AB rfl underlying31 AY (vl rfl) (vl rfl) (by omega) (Am hi)) ?_|refine cy h5 rfl (av (Vf (by assumption) (by assumption) (by assumption)) rfl rfl rfl rfl) ?_|refine ac ?_|(refine Tr.cn rfl ?_ ?_<;>intro h q)
 have B2:k=(l).length:=by have:=Ao h1;omega
 subst B2
 refine a3 ?_
 · exact Lr
theorem Cd {l:List Ac} [Decidable (BO l)]:BT prog 51 [Bu l] (bool (decide (BO l))):=by
 refine fo func51 rfl ⟨rfl,rfl⟩ fun M0 w0=>(Tr.D9 0 rfl fun Dg=> ?_)
 refine ac ?_
 refine an ?_ ?_<;>intro h1 q1
 refine a2 ?_
 · refine bool_eq ?_;symm;rw [decide_eq_false_iff_not];intro hn;have:=hn.len;omega
 refine a2 ?_
 refine Tr.block (Tr.BU [(0,_)] ⟨ke rfl,trivial⟩ (fun k:Nat=>[(3,int ((k:Nat):Int))]) (fun k:Nat=>k≤(l).length∧(Ui l k∧Ot l k)) (fun k:Nat=>(l).length-k) 0 (⟨Nat.zero_le _,⟨fun j y hj=>absurd hj (by omega),fun j a b hj=>absurd hj (by omega)⟩⟩) ⟨ke rfl,trivial⟩ ?_)
 rintro k ⟨Cb,Ap⟩
 refine an ?_ ?_<;>intro h2 q2
 have Az:k<(l).length:=Ak h2
 obtain ⟨x,A7⟩:=at_ Az
 refine a2 ?_
 refine co rfl (AB rfl underlying31 AY (vl rfl) (vl rfl) (by omega) (by exact Am (by assumption))) ?_
 refine co rfl (Ad rfl BE AY (vl rfl) rfl rfl) (co rfl (Cr (H9) rfl rfl) ?_)
 refine ag ?_ ?_<;>intro h3 q3
 have hc:=Sy q3
 refine ac ?_
 refine Py 0 3 35 rfl ?_
 refine a2 ?_
 · refine bool_eq ?_;symm;rw [decide_eq_false_iff_not];intro hn;have:=hn.check x (List.mem_of_getElem? A7);rw [hc] at this;cases this
 have hc:=Qq q3
 refine ag ?_ ?_<;>intro h4 q4
 obtain ⟨p,hp⟩:=at_ (l:=l) (k:=k-1) (by omega)
 · repeat' first|(refine bool_eq ?_;symm;rw [decide_eq_false_iff_not];intro hn;have:=hn.j9 (k-1) p x hp (by rw [show k-1+1=k by omega];exact A7);omega)|(exact Fin.AE (k+1) ⟨⟨Az,⟨KS A7 hc Ap.1,Ig A7 (by intro y h0 hy;rw [hp] at hy;cases hy;omega) Ap.2⟩⟩,by omega⟩ ⟨⟨_,rfl,AJ k⟩,ke rfl,trivial⟩)|refine cy h4 rfl (AB rfl underlying31 AY (vl rfl) (vl rfl) (by omega) (Ih (by omega) hp)) ?_|refine cy h4 rfl (AB rfl underlying31 AY (vl rfl) (vl rfl) (by omega) (by exact Am (by assumption))) ?_|refine cy h4 rfl (Ad rfl BE AY (vl rfl) rfl rfl) (cy h4 rfl (EE (Db) rfl rfl rfl) ?_)|refine ac ?_|(refine Tr.cn rfl ?_ ?_<;>intro h q)
 refine ac ?_
 refine Py 0 3 35 rfl ?_
 refine a2 ?_
 exact Fin.AE (k+1) ⟨⟨Az,⟨KS A7 hc Ap.1,Ig A7 (by intro y h0 hy;omega) Ap.2⟩⟩,by omega⟩ ⟨⟨_,rfl,AJ k⟩,ke rfl,trivial⟩
 have B2:k=(l).length:=by have:=Ao h2;omega
 subst B2
 refine a3 ?_
 · refine bool_eq ?_;symm;rw [decide_eq_true_eq];exact ⟨Uj Ap.1,Ra Ap.2,by omega⟩
theorem PN {α:Type} {c:α→α→Int} (hz:∀x y,c x y=0↔x=y) {l:List α} {x:α} {k:Nat} (hk:k≤l.length) (hlt:∀(j:Nat) y,j<k→l[j]? =some y→c y x<0) (hx:l[k]? =some x):Eg c l x=l:=by
 have h0:c x x=0:=(hz x x).2 rfl
 rw [N3 hk hlt (fun y hy=>by rw [hx] at hy;cases hy;omega),hx]
 simp [h0]
theorem KW {α:Type} {c:α→α→Int} (hz:∀x y,c x y=0↔x=y) {l:List α} {x:α} {k:Nat} (hk:k≤l.length) (hlt:∀(j:Nat) y,j<k→l[j]? =some y→c y x<0) (h:∀y,l[k]? =some y→¬c y x<0∧¬y=x):Eg c l x=l.take k++[x]++l.drop k:=by
 rw [N3 hk hlt (fun y hy=>(h y hy).1)]
 cases hy:l[k]? with
 |none=>simp
 |some y=>
  have h1:¬c y x=0:=fun h0=>(h y hy).2 ((hz _ _).1 h0)
  simp [h1]
theorem PO {l:List (Int)} {x:Int} (hl:l.length≤1000000):BT prog 54 [ints l,int x] (ints (Eg Ar l x)):=by
 refine BT.of func54 rfl rfl (by exact Nb rfl) fun M0 w0=> ?_
 refine Tr.seq (Tr.Ax (cm rfl (Ch.nil (Fin.go (Tr.seq (Tr.Ax (cm rfl (Ch.nil (Fin.go (Tr.seq (Tr.block (Tr.BU [(0,_),(1,_)] (RC rfl) (fun k:Nat=>[(5,int ((k:Nat):Int))]) (fun k:Nat=>k≤l.length∧∀(j:Nat) y,j<k→l[j]? =some y→Ar y x<0) (fun k:Nat=>l.length-k) 0 (⟨Nat.zero_le _,fun j y h=>absurd h (by omega)⟩) ⟨ke rfl,trivial⟩ ?_))))))))))))
 rintro k ⟨hk,hlt⟩
 refine Tr.seq (Tr.seq (Tr.Ax (cm rfl (cm rfl (co rfl (CV rfl underlying22 (vl rfl)) (co rfl (ki rfl rfl rfl rfl) (cm rfl ?_)))))))
 refine Ch.cs 10 rfl ?_ ?_<;>intro h1 q1
 obtain ⟨y,hy⟩:=at_ (l:=l) (k:=k) (by omega)
 refine DL h1 rfl (DL h1 rfl (cy h1 rfl (AB rfl underlying22 A4 (vl rfl) (vl rfl) (by omega) (Am hy)) (cy h1 rfl (L4 rfl Au rfl) (DL h1 rfl (cy h1 rfl (ki rfl rfl rfl rfl) (co rfl (GQ rfl rfl h1 rfl) (Ch.nil (Fin.go (Dp 0 1 5 17 rfl ?_)))))))))
 refine Tr.cn rfl ?_ ?_<;>intro h2 q2
 have:=h2
 refine Tr.skip (Fin.go (Tr.block (Tr.Ax (cm rfl (MM rfl rfl rfl rfl (by omega) (cm rfl (Ch.nil (Fin.block ?_))))))))
 exact Fin.AE (k+1) ⟨⟨by omega,fun j w h1 h2=>by rcases Nat.lt_or_eq_of_le (show j≤k by omega) with h3|h3;exact hlt j w h3 h2;(subst h3;rw [hy] at h2;cases h2;unfold Ar;rw [if_pos (by omega)];omega)⟩,by omega⟩ ⟨⟨_,rfl,AJ k⟩,ke rfl,ke rfl,trivial⟩
 have:=h2
 refine Tr.exit (Fin.AG (Fin.AG (Fin.AP (Fin.go (Tr.seq (Tr.seq (Tr.Ax (cm rfl (cm rfl (co rfl (CV rfl underlying22 (vl rfl)) (co rfl (ki rfl rfl rfl rfl) (cm rfl ?_))))))))))))
 refine Ch.cs 24 rfl ?_ ?_<;>intro h3 q3
 obtain ⟨z,hz⟩:=at_ (l:=l) (k:=k) (by omega)
 refine DL h3 rfl (DL h3 rfl (cy h3 rfl (AB rfl underlying22 A4 (vl rfl) (vl rfl) (by omega) (Am hz)) (cy h3 rfl (L4 rfl Au rfl) (DL h3 rfl (cy h3 rfl (ki rfl rfl rfl rfl) (co rfl (GQ rfl rfl h3 rfl) (Ch.nil (Fin.go (Dp 0 1 5 31 rfl ?_)))))))))
 refine Tr.cn rfl ?_ ?_<;>intro h4 q4
 refine Tr.seq (Tr.Ax (cm rfl (cm rfl (Ch.nil (Fin.go (Tr.ret (Fin.AF (Fin.DI rfl (Ba.Cz _ _) rfl ?_))))))))
 · rw [PN (fun _ _=>BK) hk hlt (by rw [hz];congr 1)];exact Lr
 refine Tr.skip (Fin.go (Tr.seq (Tr.pad (Tr.Dv mixed [none,none,none,none,some (0,0,true,37),none,none,some (37,0,true,40),none,none,none,some (40,0,true,44),some (44,0,true,4)] (by kernel_rfl) (xo rfl (fun _=>AM (xs:=[]) (rows:=[]) rfl rfl underlying22 A4 z3 rfl (by decide) trivial (by decide)) (xm rfl (xm rfl ?_)))))))
 refine xo rfl (fun _=>Bj rfl underlying22 A4 (vl rfl) (vl rfl) (by omega) (by simp;omega)) ?_
 refine Cx.ef 0 rfl rfl (by decide) (An rfl rfl (by decide) rfl underlying22 A4 MO z3 rfl (by decide) (Kf rfl) (vl rfl) (by simp;unfold maxLen;omega) (by simp;omega) (B4 (by exact List.Mem.head _) (vl rfl))) ?_
 refine xm rfl (xo rfl (fun _=>AM (xs:=[.tmp 38]) (rows:=[[_]]) rfl rfl underlying22 A4 z3 rfl (by decide) ⟨⟨(by exact rfl),(Vo rfl)⟩,trivial⟩ (by decide)) ?_)
 refine Cx.ef 0 rfl rfl (by decide) (An rfl rfl (by decide) rfl underlying22 A4 MO z3 rfl (by decide) (vl rfl) (Kf rfl) (by simp;unfold maxLen;omega) (by simp;omega) BC) ?_
 refine xm rfl (xm rfl ?_)
 refine xo rfl (fun _=>BH rfl underlying22 A4 (vl rfl) (vl rfl) (by omega) (by simp;omega)) ?_
 refine Cx.ef 0 rfl rfl (by decide) (An rfl rfl (by decide) rfl underlying22 A4 MO z3 rfl (by decide) (vl rfl) (vl rfl) (by simp;unfold maxLen;omega) (by simp;omega) BC) ?_
 refine Cx.ef 0 rfl rfl (by decide) (CW rfl rfl (by decide) rfl (vl rfl)) ?_
 refine Cx.nil ⟨rfl,?_⟩
 refine BP.open_ 0 4 rfl rfl (fun v1=> ?_)
 refine BP.done (BG.cons (BG.map _)) (Fin.go (CM 4 rfl (Tr.ret (Fin.DI rfl (Ba.Cz _ _) rfl ?_))))
 · rw [KW (fun _ _=>BK) hk hlt (fun w hw=>by obtain rfl:z=y:=(by rw [hz] at hy;exact Option.some.inj hy);obtain rfl:z=w:=(by rw [hz] at hw;exact Option.some.inj hw);exact ⟨by unfold Ar;rw [if_neg (by omega)];split<;>omega,by assumption⟩)];exact Pr.le_trans (BL _ _) (Pr.le_of_eq (by show slice 1 _=slice 1 _;rw [Int.toNat_natCast,List.map_append,List.map_append,List.map_take,List.map_drop,List.nil_append];rfl))
 iterate 6 refine cnt h3 rfl ?_
 refine co rfl (JE rfl rfl h3 rfl) (Ch.nil (Fin.go (Dp 0 1 5 31 rfl (Tr.cond rfl (fun h=>nomatch h) (fun _=> ?_)))))
 refine Tr.skip (Fin.go (Tr.seq (Tr.pad (Tr.Dv mixed [none,none,none,none,some (0,0,true,37),none,none,some (37,0,true,40),none,none,none,some (40,0,true,44),some (44,0,true,4)] (by kernel_rfl) (xo rfl (fun _=>AM (xs:=[]) (rows:=[]) rfl rfl underlying22 A4 z3 rfl (by decide) trivial (by decide)) (xm rfl (xm rfl (xo rfl (fun _=>Bj rfl underlying22 A4 (vl rfl) (vl rfl) (by omega) (by omega)) ?_))))))))
 refine Cx.ef 0 rfl rfl (by decide) (An rfl rfl (by decide) rfl underlying22 A4 MO z3 rfl (by decide) (Kf rfl) (vl rfl) (by simp;unfold maxLen;omega) (by simp;omega) (B4 (by exact List.Mem.head _) (vl rfl))) ?_
 refine xm rfl (xo rfl (fun _=>AM (xs:=[.tmp 38]) (rows:=[[_]]) rfl rfl underlying22 A4 z3 rfl (by decide) ⟨⟨(by exact rfl),(Vo rfl)⟩,trivial⟩ (by decide)) ?_)
 refine Cx.ef 0 rfl rfl (by decide) (An rfl rfl (by decide) rfl underlying22 A4 MO z3 rfl (by decide) (vl rfl) (Kf rfl) (by simp;unfold maxLen;omega) (by simp;omega) BC) ?_
 refine xm rfl (xm rfl (xo rfl (fun _=>BH rfl underlying22 A4 (vl rfl) (vl rfl) (by omega) (by omega)) ?_))
 refine Cx.ef 0 rfl rfl (by decide) (An rfl rfl (by decide) rfl underlying22 A4 MO z3 rfl (by decide) (vl rfl) (vl rfl) (by simp;unfold maxLen;omega) (by simp;omega) BC) ?_
 refine Cx.ef 0 rfl rfl (by decide) (CW rfl rfl (by decide) rfl (vl rfl)) ?_
 refine Cx.nil ⟨rfl,?_⟩
 refine BP.open_ 0 4 rfl rfl (fun v2=> ?_)
 refine BP.done (BG.cons (BG.map _)) (Fin.go (CM 4 rfl (Tr.ret (Fin.DI rfl (Ba.Cz _ _) rfl ?_))))
 · exfalso;omega
 iterate 6 refine cnt h1 rfl ?_
 refine co rfl (JE rfl rfl h1 rfl) (Ch.nil (Fin.go (Dp 0 1 5 17 rfl (Tr.cond rfl (fun h=>nomatch h) (fun _=> ?_)))))
 refine Tr.exit (Fin.AG (Fin.AG (Fin.AP (Fin.go (Tr.seq (Tr.seq (Tr.Ax (cm rfl (cm rfl (co rfl (CV rfl underlying22 (vl rfl)) (co rfl (ki rfl rfl rfl rfl) (cm rfl ?_))))))))))))
 refine Ch.cs 24 rfl ?_ ?_<;>intro h5 q5
 obtain ⟨z,hz⟩:=at_ (l:=l) (k:=k) (by omega)
 refine DL h5 rfl (DL h5 rfl (cy h5 rfl (AB rfl underlying22 A4 (vl rfl) (vl rfl) (by omega) (Am hz)) (cy h5 rfl (L4 rfl Au rfl) (DL h5 rfl (cy h5 rfl (ki rfl rfl rfl rfl) (co rfl (GQ rfl rfl h5 rfl) (Ch.nil (Fin.go (Dp 0 1 5 31 rfl ?_)))))))))
 refine Tr.cn rfl ?_ ?_<;>intro h6 q6
 refine Tr.seq (Tr.Ax (cm rfl (cm rfl (Ch.nil (Fin.go (Tr.ret (Fin.AF (Fin.DI rfl (Ba.Cz _ _) rfl ?_))))))))
 · exfalso;omega
 refine Tr.skip (Fin.go (Tr.seq (Tr.pad (Tr.Dv mixed [none,none,none,none,some (0,0,true,37),none,none,some (37,0,true,40),none,none,none,some (40,0,true,44),some (44,0,true,4)] (by kernel_rfl) (xo rfl (fun _=>AM (xs:=[]) (rows:=[]) rfl rfl underlying22 A4 z3 rfl (by decide) trivial (by decide)) (xm rfl (xm rfl (xo rfl (fun _=>Bj rfl underlying22 A4 (vl rfl) (vl rfl) (by omega) (by omega)) ?_))))))))
 refine Cx.ef 0 rfl rfl (by decide) (An rfl rfl (by decide) rfl underlying22 A4 MO z3 rfl (by decide) (Kf rfl) (vl rfl) (by simp;unfold maxLen;omega) (by simp;omega) (B4 (by exact List.Mem.head _) (vl rfl))) ?_
 refine xm rfl (xo rfl (fun _=>AM (xs:=[.tmp 38]) (rows:=[[_]]) rfl rfl underlying22 A4 z3 rfl (by decide) ⟨⟨(by exact rfl),(Vo rfl)⟩,trivial⟩ (by decide)) ?_)
 refine Cx.ef 0 rfl rfl (by decide) (An rfl rfl (by decide) rfl underlying22 A4 MO z3 rfl (by decide) (vl rfl) (Kf rfl) (by simp;unfold maxLen;omega) (by simp;omega) BC) ?_
 refine xm rfl (xm rfl (xo rfl (fun _=>BH rfl underlying22 A4 (vl rfl) (vl rfl) (by omega) (by omega)) ?_))
 refine Cx.ef 0 rfl rfl (by decide) (An rfl rfl (by decide) rfl underlying22 A4 MO z3 rfl (by decide) (vl rfl) (vl rfl) (by simp;unfold maxLen;omega) (by simp;omega) BC) ?_
 refine Cx.ef 0 rfl rfl (by decide) (CW rfl rfl (by decide) rfl (vl rfl)) ?_
 refine Cx.nil ⟨rfl,?_⟩
 refine BP.open_ 0 4 rfl rfl (fun v3=> ?_)
 refine BP.done (BG.cons (BG.map _)) (Fin.go (CM 4 rfl (Tr.ret (Fin.DI rfl (Ba.Cz _ _) rfl ?_))))
 · exfalso;omega
 iterate 6 refine cnt h5 rfl ?_
 refine co rfl (JE rfl rfl h5 rfl) (Ch.nil (Fin.go (Dp 0 1 5 31 rfl (Tr.cond rfl (fun h=>nomatch h) (fun _=> ?_)))))
 refine Tr.skip (Fin.go (Tr.seq (Tr.pad (Tr.Dv mixed [none,none,none,none,some (0,0,true,37),none,none,some (37,0,true,40),none,none,none,some (40,0,true,44),some (44,0,true,4)] (by kernel_rfl) (xo rfl (fun _=>AM (xs:=[]) (rows:=[]) rfl rfl underlying22 A4 z3 rfl (by decide) trivial (by decide)) (xm rfl (xm rfl ?_)))))))
 refine xo rfl (fun _=>Bj rfl underlying22 A4 (vl rfl) (vl rfl) (by omega) (by simp;omega)) ?_
 refine Cx.ef 0 rfl rfl (by decide) (An rfl rfl (by decide) rfl underlying22 A4 MO z3 rfl (by decide) (Kf rfl) (vl rfl) (by simp;unfold maxLen;omega) (by simp;omega) (B4 (by exact List.Mem.head _) (vl rfl))) ?_
 refine xm rfl (xo rfl (fun _=>AM (xs:=[.tmp 38]) (rows:=[[_]]) rfl rfl underlying22 A4 z3 rfl (by decide) ⟨⟨(by exact rfl),(Vo rfl)⟩,trivial⟩ (by decide)) ?_)
 refine Cx.ef 0 rfl rfl (by decide) (An rfl rfl (by decide) rfl underlying22 A4 MO z3 rfl (by decide) (vl rfl) (Kf rfl) (by simp;unfold maxLen;omega) (by simp;omega) BC) ?_
 refine xm rfl (xm rfl ?_)
 refine xo rfl (fun _=>BH rfl underlying22 A4 (vl rfl) (vl rfl) (by omega) (by simp;omega)) ?_
 refine Cx.ef 0 rfl rfl (by decide) (An rfl rfl (by decide) rfl underlying22 A4 MO z3 rfl (by decide) (vl rfl) (vl rfl) (by simp;unfold maxLen;omega) (by simp;omega) BC) ?_
 refine Cx.ef 0 rfl rfl (by decide) (CW rfl rfl (by decide) rfl (vl rfl)) ?_
 refine Cx.nil ⟨rfl,?_⟩
 refine BP.open_ 0 4 rfl rfl (fun v4=> ?_)
 refine BP.done (BG.cons (BG.map _)) (Fin.go (CM 4 rfl (Tr.ret (Fin.DI rfl (Ba.Cz _ _) rfl ?_))))
 · rw [KW (fun _ _=>BK) hk hlt (fun w hw=>by rw [List.getElem?_eq_none (by omega)] at hw;cases hw)];exact Pr.le_trans (BL _ _) (Pr.le_of_eq (by show slice 1 _=slice 1 _;rw [Int.toNat_natCast,List.map_append,List.map_append,List.map_take,List.map_drop,List.nil_append];rfl))
theorem S0 {l:List (List UInt8)} {x:List UInt8} (hl:l.length≤1000000):BT prog 53 [strs l,str x] (strs (Eg Lib.compareBytes l x)):=by
 refine BT.of func53 rfl rfl (by exact Nb rfl) fun M0 w0=> ?_
 refine Tr.seq (Tr.Ax (cm rfl (Ch.nil (Fin.go (Tr.seq (Tr.Ax (cm rfl (Ch.nil (Fin.go (Tr.seq (Tr.block (Tr.BU [(0,_),(1,_)] (RC rfl) (fun k:Nat=>[(5,int ((k:Nat):Int))]) (fun k:Nat=>k≤l.length∧∀(j:Nat) y,j<k→l[j]? =some y→Lib.compareBytes y x<0) (fun k:Nat=>l.length-k) 0 (⟨Nat.zero_le _,fun j y h=>absurd h (by omega)⟩) ⟨ke rfl,trivial⟩ ?_))))))))))))
 rintro k ⟨hk,hlt⟩
 refine Tr.seq (Tr.seq (Tr.Ax (cm rfl (cm rfl (co rfl (CV rfl underlying53 (vl rfl)) (co rfl (ki rfl rfl rfl rfl) (cm rfl ?_)))))))
 refine Ch.cs 10 rfl ?_ ?_<;>intro h1 q1
 obtain ⟨y,hy⟩:=at_ (l:=l) (k:=k) (by omega)
 refine DL h1 rfl (DL h1 rfl (cy h1 rfl (AB rfl underlying53 HV (vl rfl) (vl rfl) (by omega) (Am hy)) (cy h1 rfl (L4 rfl Fk rfl) (DL h1 rfl (cy h1 rfl (QC rfl (vl rfl) (vl rfl)) (co rfl (GQ rfl rfl h1 rfl) (Ch.nil (Fin.go (Dp 0 1 5 17 rfl ?_)))))))))
 refine Tr.cn rfl ?_ ?_<;>intro h2 q2
 have:=h2
 refine Tr.skip (Fin.go (Tr.block (Tr.Ax (cm rfl (MM rfl rfl rfl rfl (by omega) (cm rfl (Ch.nil (Fin.block ?_))))))))
 exact Fin.AE (k+1) ⟨⟨by omega,fun j w h1 h2=>by rcases Nat.lt_or_eq_of_le (show j≤k by omega) with h3|h3;exact hlt j w h3 h2;(subst h3;rw [hy] at h2;cases h2;omega)⟩,by omega⟩ ⟨⟨_,rfl,AJ k⟩,ke rfl,ke rfl,trivial⟩
 have:=h2
 refine Tr.exit (Fin.AG (Fin.AG (Fin.AP (Fin.go (Tr.seq (Tr.seq (Tr.Ax (cm rfl (cm rfl (co rfl (CV rfl underlying53 (vl rfl)) (co rfl (ki rfl rfl rfl rfl) (cm rfl ?_))))))))))))
 refine Ch.cs 24 rfl ?_ ?_<;>intro h3 q3
 obtain ⟨z,hz⟩:=at_ (l:=l) (k:=k) (by omega)
 refine DL h3 rfl (DL h3 rfl (cy h3 rfl (AB rfl underlying53 HV (vl rfl) (vl rfl) (by omega) (Am hz)) (cy h3 rfl (L4 rfl Fk rfl) (DL h3 rfl (cy h3 rfl (QB rfl (vl rfl) (vl rfl)) (co rfl (GQ rfl rfl h3 rfl) (Ch.nil (Fin.go (Dp 0 1 5 31 rfl ?_)))))))))
 refine Tr.cn rfl ?_ ?_<;>intro h4 q4
 refine Tr.seq (Tr.Ax (cm rfl (cm rfl (Ch.nil (Fin.go (Tr.ret (Fin.AF (Fin.DI rfl (Ba.Cz _ _) rfl ?_))))))))
 · rw [PN CB hk hlt (by rw [hz];congr 1)];exact Lr
 refine Tr.skip (Fin.go (Tr.seq (Tr.pad (Tr.Dv mixed [none,none,none,none,some (0,0,true,37),none,none,some (37,0,true,40),none,none,none,some (40,0,true,44),some (44,0,true,4)] (by kernel_rfl) (xo rfl (fun _=>AM (xs:=[]) (rows:=[]) rfl rfl underlying53 HV z9 rfl (by decide) trivial (by decide)) (xm rfl (xm rfl ?_)))))))
 refine xo rfl (fun _=>Bj rfl underlying53 HV (vl rfl) (vl rfl) (by omega) (by simp;omega)) ?_
 refine Cx.ef 0 rfl rfl (by decide) (An rfl rfl (by decide) rfl underlying53 HV TS z9 rfl (by decide) (Kf rfl) (vl rfl) (by simp;unfold maxLen;omega) (by simp;omega) (B4 (by exact List.Mem.head _) (vl rfl))) ?_
 refine xm rfl (xo rfl (fun _=>AM (xs:=[.tmp 38]) (rows:=[[_]]) rfl rfl underlying53 HV z9 rfl (by decide) ⟨⟨(by exact rfl),(Vo rfl)⟩,trivial⟩ (by decide)) ?_)
 refine Cx.ef 0 rfl rfl (by decide) (An rfl rfl (by decide) rfl underlying53 HV TS z9 rfl (by decide) (vl rfl) (Kf rfl) (by simp;unfold maxLen;omega) (by simp;omega) BC) ?_
 refine xm rfl (xm rfl ?_)
 refine xo rfl (fun _=>BH rfl underlying53 HV (vl rfl) (vl rfl) (by omega) (by simp;omega)) ?_
 refine Cx.ef 0 rfl rfl (by decide) (An rfl rfl (by decide) rfl underlying53 HV TS z9 rfl (by decide) (vl rfl) (vl rfl) (by simp;unfold maxLen;omega) (by simp;omega) BC) ?_
 refine Cx.ef 0 rfl rfl (by decide) (CW rfl rfl (by decide) rfl (vl rfl)) ?_
 refine Cx.nil ⟨rfl,?_⟩
 refine BP.open_ 0 4 rfl rfl (fun v1=> ?_)
 refine BP.done (BG.cons (BG.map _)) (Fin.go (CM 4 rfl (Tr.ret (Fin.DI rfl (Ba.Cz _ _) rfl ?_))))
 · rw [KW CB hk hlt (fun w hw=>by obtain rfl:z=y:=(by rw [hz] at hy;exact Option.some.inj hy);obtain rfl:z=w:=(by rw [hz] at hw;exact Option.some.inj hw);exact ⟨by have:=JH z x;omega,by assumption⟩)];exact Pr.le_trans (BL _ _) (Pr.le_of_eq (by show slice 1 _=slice 1 _;rw [Int.toNat_natCast,List.map_append,List.map_append,List.map_take,List.map_drop,List.nil_append];rfl))
 iterate 6 refine cnt h3 rfl ?_
 refine co rfl (JE rfl rfl h3 rfl) (Ch.nil (Fin.go (Dp 0 1 5 31 rfl (Tr.cond rfl (fun h=>nomatch h) (fun _=> ?_)))))
 refine Tr.skip (Fin.go (Tr.seq (Tr.pad (Tr.Dv mixed [none,none,none,none,some (0,0,true,37),none,none,some (37,0,true,40),none,none,none,some (40,0,true,44),some (44,0,true,4)] (by kernel_rfl) (xo rfl (fun _=>AM (xs:=[]) (rows:=[]) rfl rfl underlying53 HV z9 rfl (by decide) trivial (by decide)) (xm rfl (xm rfl (xo rfl (fun _=>Bj rfl underlying53 HV (vl rfl) (vl rfl) (by omega) (by omega)) ?_))))))))
 refine Cx.ef 0 rfl rfl (by decide) (An rfl rfl (by decide) rfl underlying53 HV TS z9 rfl (by decide) (Kf rfl) (vl rfl) (by simp;unfold maxLen;omega) (by simp;omega) (B4 (by exact List.Mem.head _) (vl rfl))) ?_
 refine xm rfl (xo rfl (fun _=>AM (xs:=[.tmp 38]) (rows:=[[_]]) rfl rfl underlying53 HV z9 rfl (by decide) ⟨⟨(by exact rfl),(Vo rfl)⟩,trivial⟩ (by decide)) ?_)
 refine Cx.ef 0 rfl rfl (by decide) (An rfl rfl (by decide) rfl underlying53 HV TS z9 rfl (by decide) (vl rfl) (Kf rfl) (by simp;unfold maxLen;omega) (by simp;omega) BC) ?_
 refine xm rfl (xm rfl (xo rfl (fun _=>BH rfl underlying53 HV (vl rfl) (vl rfl) (by omega) (by omega)) ?_))
 refine Cx.ef 0 rfl rfl (by decide) (An rfl rfl (by decide) rfl underlying53 HV TS z9 rfl (by decide) (vl rfl) (vl rfl) (by simp;unfold maxLen;omega) (by simp;omega) BC) ?_
 refine Cx.ef 0 rfl rfl (by decide) (CW rfl rfl (by decide) rfl (vl rfl)) ?_
 refine Cx.nil ⟨rfl,?_⟩
 refine BP.open_ 0 4 rfl rfl (fun v2=> ?_)
 refine BP.done (BG.cons (BG.map _)) (Fin.go (CM 4 rfl (Tr.ret (Fin.DI rfl (Ba.Cz _ _) rfl ?_))))
 · exfalso;omega
 iterate 6 refine cnt h1 rfl ?_
 refine co rfl (JE rfl rfl h1 rfl) (Ch.nil (Fin.go (Dp 0 1 5 17 rfl (Tr.cond rfl (fun h=>nomatch h) (fun _=> ?_)))))
 refine Tr.exit (Fin.AG (Fin.AG (Fin.AP (Fin.go (Tr.seq (Tr.seq (Tr.Ax (cm rfl (cm rfl (co rfl (CV rfl underlying53 (vl rfl)) (co rfl (ki rfl rfl rfl rfl) (cm rfl ?_))))))))))))
 refine Ch.cs 24 rfl ?_ ?_<;>intro h5 q5
 obtain ⟨z,hz⟩:=at_ (l:=l) (k:=k) (by omega)
 refine DL h5 rfl (DL h5 rfl (cy h5 rfl (AB rfl underlying53 HV (vl rfl) (vl rfl) (by omega) (Am hz)) (cy h5 rfl (L4 rfl Fk rfl) (DL h5 rfl (cy h5 rfl (QB rfl (vl rfl) (vl rfl)) (co rfl (GQ rfl rfl h5 rfl) (Ch.nil (Fin.go (Dp 0 1 5 31 rfl ?_)))))))))
 refine Tr.cn rfl ?_ ?_<;>intro h6 q6
 refine Tr.seq (Tr.Ax (cm rfl (cm rfl (Ch.nil (Fin.go (Tr.ret (Fin.AF (Fin.DI rfl (Ba.Cz _ _) rfl ?_))))))))
 · exfalso;omega
 refine Tr.skip (Fin.go (Tr.seq (Tr.pad (Tr.Dv mixed [none,none,none,none,some (0,0,true,37),none,none,some (37,0,true,40),none,none,none,some (40,0,true,44),some (44,0,true,4)] (by kernel_rfl) (xo rfl (fun _=>AM (xs:=[]) (rows:=[]) rfl rfl underlying53 HV z9 rfl (by decide) trivial (by decide)) (xm rfl (xm rfl (xo rfl (fun _=>Bj rfl underlying53 HV (vl rfl) (vl rfl) (by omega) (by omega)) ?_))))))))
 refine Cx.ef 0 rfl rfl (by decide) (An rfl rfl (by decide) rfl underlying53 HV TS z9 rfl (by decide) (Kf rfl) (vl rfl) (by simp;unfold maxLen;omega) (by simp;omega) (B4 (by exact List.Mem.head _) (vl rfl))) ?_
 refine xm rfl (xo rfl (fun _=>AM (xs:=[.tmp 38]) (rows:=[[_]]) rfl rfl underlying53 HV z9 rfl (by decide) ⟨⟨(by exact rfl),(Vo rfl)⟩,trivial⟩ (by decide)) ?_)
 refine Cx.ef 0 rfl rfl (by decide) (An rfl rfl (by decide) rfl underlying53 HV TS z9 rfl (by decide) (vl rfl) (Kf rfl) (by simp;unfold maxLen;omega) (by simp;omega) BC) ?_
 refine xm rfl (xm rfl (xo rfl (fun _=>BH rfl underlying53 HV (vl rfl) (vl rfl) (by omega) (by omega)) ?_))
 refine Cx.ef 0 rfl rfl (by decide) (An rfl rfl (by decide) rfl underlying53 HV TS z9 rfl (by decide) (vl rfl) (vl rfl) (by simp;unfold maxLen;omega) (by simp;omega) BC) ?_
 refine Cx.ef 0 rfl rfl (by decide) (CW rfl rfl (by decide) rfl (vl rfl)) ?_
 refine Cx.nil ⟨rfl,?_⟩
 refine BP.open_ 0 4 rfl rfl (fun v3=> ?_)
 refine BP.done (BG.cons (BG.map _)) (Fin.go (CM 4 rfl (Tr.ret (Fin.DI rfl (Ba.Cz _ _) rfl ?_))))
 · exfalso;omega
 iterate 6 refine cnt h5 rfl ?_
 refine co rfl (JE rfl rfl h5 rfl) (Ch.nil (Fin.go (Dp 0 1 5 31 rfl (Tr.cond rfl (fun h=>nomatch h) (fun _=> ?_)))))
 refine Tr.skip (Fin.go (Tr.seq (Tr.pad (Tr.Dv mixed [none,none,none,none,some (0,0,true,37),none,none,some (37,0,true,40),none,none,none,some (40,0,true,44),some (44,0,true,4)] (by kernel_rfl) (xo rfl (fun _=>AM (xs:=[]) (rows:=[]) rfl rfl underlying53 HV z9 rfl (by decide) trivial (by decide)) (xm rfl (xm rfl ?_)))))))
 refine xo rfl (fun _=>Bj rfl underlying53 HV (vl rfl) (vl rfl) (by omega) (by simp;omega)) ?_
 refine Cx.ef 0 rfl rfl (by decide) (An rfl rfl (by decide) rfl underlying53 HV TS z9 rfl (by decide) (Kf rfl) (vl rfl) (by simp;unfold maxLen;omega) (by simp;omega) (B4 (by exact List.Mem.head _) (vl rfl))) ?_
 refine xm rfl (xo rfl (fun _=>AM (xs:=[.tmp 38]) (rows:=[[_]]) rfl rfl underlying53 HV z9 rfl (by decide) ⟨⟨(by exact rfl),(Vo rfl)⟩,trivial⟩ (by decide)) ?_)
 refine Cx.ef 0 rfl rfl (by decide) (An rfl rfl (by decide) rfl underlying53 HV TS z9 rfl (by decide) (vl rfl) (Kf rfl) (by simp;unfold maxLen;omega) (by simp;omega) BC) ?_
 refine xm rfl (xm rfl ?_)
 refine xo rfl (fun _=>BH rfl underlying53 HV (vl rfl) (vl rfl) (by omega) (by simp;omega)) ?_
 refine Cx.ef 0 rfl rfl (by decide) (An rfl rfl (by decide) rfl underlying53 HV TS z9 rfl (by decide) (vl rfl) (vl rfl) (by simp;unfold maxLen;omega) (by simp;omega) BC) ?_
 refine Cx.ef 0 rfl rfl (by decide) (CW rfl rfl (by decide) rfl (vl rfl)) ?_
 refine Cx.nil ⟨rfl,?_⟩
 refine BP.open_ 0 4 rfl rfl (fun v4=> ?_)
 refine BP.done (BG.cons (BG.map _)) (Fin.go (CM 4 rfl (Tr.ret (Fin.DI rfl (Ba.Cz _ _) rfl ?_))))
 · rw [KW CB hk hlt (fun w hw=>by rw [List.getElem?_eq_none (by omega)] at hw;cases hw)];exact Pr.le_trans (BL _ _) (Pr.le_of_eq (by show slice 1 _=slice 1 _;rw [Int.toNat_natCast,List.map_append,List.map_append,List.map_take,List.map_drop,List.nil_append];rfl))
theorem IC {l:List Ac} {p:List Int} {i b0 n:Nat} {f:Ac} {m Aq:Int} (hd:Lk l) (hl:J8 l) (hi:l[i]? =some f) (hm:Gq l Aq i=m) (WR:p.length=n) (hp:∀(j:Nat),j<i→p[j]? =some ((A5 l Aq j:Nat):Int)) (hn:n=l.length) (hn2:n≤1000000):BQ prog 98 [Bu l,is (.slice (some ⟨b0,0,none⟩) n n),int ((i:Nat):Int),int m,int Aq] (int (A5 l Aq i:Nat)) (AD true b0 3 (arr p)) (fun _=>AD true b0 3 (arr p)):=by
 refine BQ.of func98 rfl rfl (by exact Nb rfl) fun M0 w0 S rs M1 w1=> ?_
 have Dn:=Ew hi
 have ni:=Iy hd hi
 refine ac ?_
 refine an ?_ ?_<;>intro h1 q1
 refine ac ?_
 refine Tr.block (Tr.BU [(0,_),(2,_),(3,_),(4,_)] (KH rfl) (fun k:Nat=>[(11,int ((k:Nat):Int))]) (fun k:Nat=>k≤i∧∀j,j<k→¬Gq l Aq j=m) (fun k:Nat=>i-k) 0 (⟨Nat.zero_le _,fun j h=>absurd h (by omega)⟩) ⟨ke rfl,trivial⟩ ?_)
 rintro k ⟨hk,hno⟩
 refine an ?_ ?_<;>intro h2 q2
 have hki:k<i:=by have:=of_decide_eq_true h2;omega
 obtain ⟨x,hx⟩:=at_ (l:=l) (k:=k) (by omega)
 refine a2 ?_
 refine co rfl (AB rfl underlying31 AY (vl rfl) (vl rfl) (by omega) (by exact Am (by assumption))) ?_
 refine ac ?_
 refine EZ 0 2 3 4 11 12 rfl ?_
 refine an ?_ ?_<;>intro h3 q3
 refine ac ?_
 refine co rfl (av (JS (i:=k) hd hx) rfl rfl rfl rfl) ?_
 refine a2 ?_
 refine HU 0 2 3 4 11 12 13 34 rfl ?_
 refine Tr.cn rfl ?_ ?_<;>intro h4 q4
 obtain ⟨iZ,g,hg,fT,nj,hgd⟩:=LY (f:=x) (Aq:=Aq) q4
 have hmk:=LX hx (by assumption) q4 hg
 refine ac ?_
 refine co rfl (AB rfl underlying31 AY (vl rfl) (vl rfl) (by omega) (by exact Am (by assumption))) ?_
 refine ac ?_
 refine EZ 0 2 3 4 11 12 rfl ?_
 refine an ?_ ?_<;>intro h5 q5
 refine ac ?_
 refine Tr.ret (Fin.AK (Fin.AF (Fin.AF (Fin.AK (Fin.AF (Fin.AF (Fin.Ca rfl rfl ?_ (fun _ _ _ _=>rfl))))))))
 · exact int_eq (by rw [HB (k:=k) (by rw [hm];assumption) (by omega) (by rw [hmk,hm];assumption) (fun j h=>by rw [hm];exact hno j h)])
 refine a2 ?_
 exact Fin.AE (k+1) ⟨⟨by omega,fun j h=>by rcases Nat.lt_or_eq_of_le (show j≤k by omega) with h3|h3;exact hno j h3;(subst h3;rw [hmk];omega)⟩,by omega⟩ ⟨⟨_,rfl,AJ k⟩,ke rfl,ke rfl,ke rfl,ke rfl,trivial⟩
 have hmk:=JN hx (by assumption) (by omega)
 refine ac ?_
 refine an ?_ ?_<;>intro h6 q6
 refine ac ?_
 refine Tr.ret (Fin.AK (Fin.AF (Fin.AF (Fin.AK (Fin.AF (Fin.AF (Fin.Ca rfl rfl ?_ (fun _ _ _ _=>rfl))))))))
 · exfalso;omega
 refine a2 ?_
 exact Fin.AE (k+1) ⟨⟨by omega,fun j h=>by rcases Nat.lt_or_eq_of_le (show j≤k by omega) with h3|h3;exact hno j h3;(subst h3;rw [hmk];omega)⟩,by omega⟩ ⟨⟨_,rfl,AJ k⟩,ke rfl,ke rfl,ke rfl,ke rfl,trivial⟩
 have hmk:=N1 (Aq:=Aq) hx q3
 refine ac ?_
 refine an ?_ ?_<;>intro h7 q7
 refine ac ?_
 refine Tr.ret (Fin.AK (Fin.AF (Fin.AF (Fin.AK (Fin.AF (Fin.AF (Fin.Ca rfl rfl ?_ (fun _ _ _ _=>rfl))))))))
 · exact int_eq (by rw [HB (k:=k) (by rw [hm];assumption) (by omega) (by rw [hmk,hm];assumption) (fun j h=>by rw [hm];exact hno j h)])
 refine a2 ?_
 exact Fin.AE (k+1) ⟨⟨by omega,fun j h=>by rcases Nat.lt_or_eq_of_le (show j≤k by omega) with h3|h3;exact hno j h3;(subst h3;rw [hmk];omega)⟩,by omega⟩ ⟨⟨_,rfl,AJ k⟩,ke rfl,ke rfl,ke rfl,ke rfl,trivial⟩
 have:=h2
 refine a2 ?_
 refine Tr.ret (Fin.AF (Fin.Ca rfl rfl ?_ (fun _ _ _ _=>rfl)))
 · exact int_eq (by rw [HB (k:=i) (by rw [hm];assumption) (Nat.le_refl _) rfl (fun j h=>by rw [hm];exact hno j (by omega))])
 refine a2 ?_
 refine Tr.block (Tr.BU [(0,_),(1,_),(2,_),(4,_)] (KH rfl) (fun k:Int=>[(14,int (k:Int))]) (fun k:Int=> -1≤k∧k<i∧∀(j:Nat),k<j→j<i→∀e,l[j]? =some e→¬(e.host=f.host∧Gq l Aq j=0)) (fun k:Int=>(k+1).toNat) ((i:Int)-1) (⟨by omega,by omega,fun j h1 h2=>absurd h2 (by omega)⟩) ⟨ke rfl,trivial⟩ ?_)
 rintro k ⟨hk1,hk2,hno⟩
 refine an ?_ ?_<;>intro h8 q8
 have j_:0≤k:=of_decide_eq_true h8
 obtain ⟨x,hx⟩:=at_ (l:=l) (k:=k.toNat) (by omega)
 have hxd:=Iy hd hx
 refine a2 ?_
 refine co rfl (AB rfl underlying31 AY (vl rfl) (vl rfl) (by omega) (A_ hx)) ?_
 refine ac ?_
 refine co rfl (AB rfl underlying31 AY (vl rfl) (vl rfl) (by omega) (Am hi)) ?_
 refine ag ?_ ?_<;>intro h9 q9
 refine ac ?_
 refine cy h9 rfl (AB rfl underlying31 AY (vl rfl) (vl rfl) (by omega) (A_ hx)) ?_
 refine ag ?_ ?_<;>intro h10 SQ
 refine ac ?_
 refine cy h10 rfl (Ah rfl (JS (i:=k.toNat) hd hx) ⟨ke rfl,⟨_,rfl,int_eq (by omega)⟩,ke rfl,trivial⟩) ?_
 refine ac ?_
 refine EZ 0 1 2 4 14 76 rfl ?_
 refine Tr.cn rfl ?_ ?_<;>intro h11 WV
 refine ac ?_
 refine co rfl (AB rfl underlying31 AY (vl rfl) (vl rfl) (by omega) (Am hi)) ?_
 refine ac ?_
 refine co rfl (AB rfl underlying31 AY (vl rfl) (vl rfl) (by omega) (A_ hx)) ?_
 refine ac ?_
 refine Dp 1 2 14 89 rfl ?_
 refine Tr.cn rfl ?_ ?_<;>intro h12 SV
 refine ac ?_
 refine co rfl (AA rfl underlying22 A4 (vl rfl) (vl rfl) (by omega) (by omega)) (co rfl (As 0 rfl (AS rfl Au (vl rfl) (Xw (hp _ (by omega))))) ?_)
 refine ac ?_
 refine Tr.ret (Fin.AF (Fin.AK (Fin.AF (Fin.AF (Fin.AK (Fin.AF (Fin.Ca rfl rfl ?_ (fun _ _ _ _=>rfl))))))))
 · exact int_eq (by rw [J0 hl hi hx (by rw [hm];assumption) (by omega) ((M4 hx).2 ⟨by assumption,by assumption⟩) (by assumption) (fun j h1 h2=>hno j (by omega) h2),if_pos (by omega)])
 refine a2 ?_
 refine Tr.ret (Fin.AK (Fin.AF (Fin.AF (Fin.AK (Fin.AF (Fin.Ca rfl rfl ?_ (fun _ _ _ _=>rfl)))))))
 · exact int_eq (by rw [J0 hl hi hx (by rw [hm];assumption) (by omega) ((M4 hx).2 ⟨by assumption,by assumption⟩) (by assumption) (fun j h1 h2=>hno j (by omega) h2),if_neg (by omega)])
 refine a2 ?_
 exact Fin.AE (k-1) ⟨⟨by omega,by omega,fun j h1 h2 e he=>by by_cases hj:k<j;exact hno j hj h2 e he;(obtain rfl:j=k.toNat:=(by omega);rw [hx] at he;cases he;rintro ⟨ha,hb⟩;have hc:=GC hx hb;omega)⟩,by omega⟩ (TR rfl)
 refine ac ?_
 refine EZ 0 1 2 4 14 76 rfl ?_
 refine a2 ?_
 exact Fin.AE (k-1) ⟨⟨by omega,by omega,fun j h1 h2 e he=>by by_cases hj:k<j;exact hno j hj h2 e he;(obtain rfl:j=k.toNat:=(by omega);rw [hx] at he;cases he;rintro ⟨ha,hb⟩;have hc:=GC hx hb;exact absurd hc.1 (by assumption))⟩,by omega⟩ (TR rfl)
 refine ac ?_
 refine EZ 0 1 2 4 14 76 rfl ?_
 refine a2 ?_
 exact Fin.AE (k-1) ⟨⟨by omega,by omega,fun j h1 h2 e he=>by by_cases hj:k<j;exact hno j hj h2 e he;(obtain rfl:j=k.toNat:=(by omega);rw [hx] at he;cases he;rintro ⟨ha,hb⟩;have hc:=GC hx hb;exact absurd ha (by assumption))⟩,by omega⟩ (TR rfl)
 have:=h8
 refine a2 ?_
 refine Tr.ret (Fin.Ca rfl rfl ?_ (fun _ _ _ _=>rfl))
 · exact int_eq (by rw [Qp hi (by rw [hm];assumption) (fun j h=>hno j (by omega) h)])
def E_ (g:Nat→Int) (z:Int) (n k:Nat):List Int:=(List.range k).map g++List.replicate (n-k) z
theorem EY {g:Nat→Int} {z:Int} {n k:Nat} (h:k≤n):(E_ g z n k).length=n:=by unfold E_;simp;omega
theorem M6 (g:Nat→Int) (z:Int) (n:Nat):E_ g z n 0=List.replicate n z:=by unfold E_;simp
theorem M7 (g:Nat→Int) (z:Int) (n:Nat):E_ g z n n=(List.range n).map g:=by unfold E_;simp
theorem N4 {g:Nat→Int} {z:Int} {n k j:Nat} (h:j<k):(E_ g z n k)[j]? =some (g j):=by
 unfold E_
 rw [List.getElem?_append_left (by simpa using h),List.getElem?_map,List.getElem?_range h];rfl
theorem Vg {g:Nat→Int} {z:Int} {n k:Nat} (h:k<n):(E_ g z n k).set k (g k)=E_ g z n (k+1):=by
 unfold E_
 rw [show n-k=n-(k+1)+1 by omega,List.replicate_succ,List.set_append_right _ _ (by simp),List.range_succ]
 simp
theorem Gd {g:Nat→Int} {z:Int} {n k:Nat} (h:k<n):(arr (E_ g z n k)).take (0+((k:Nat):Int).toNat*1)++[int (g k)]++(arr (E_ g z n k)).drop (0+((k:Nat):Int).toNat*1+1)=arr (E_ g z n (k+1)):=by
 rw [Int.toNat_natCast,Nat.zero_add,Nat.mul_one,Xx (by rw [EY (by omega)];exact h),Vg h]
theorem YC (n:Nat):(List.replicate n (Value.int .i64 0)).map is=arr (List.replicate n 0):=by unfold arr;simp [List.map_replicate]
theorem Vh (p:List Int):arr p=(p.map fun n=>[int n]).flatten:=by unfold arr;induction p<;>simp_all
abbrev JT (l:List Ac) (Aq:Int):List Int:=(List.range l.length).map fun k=>((A5 l Aq k:Nat):Int)
theorem S1 {l:List Ac} {Aq:Int} (hd:Lk l) (hl:J8 l) (hn:l.length≤1000000):BT prog 52 [Bu l,int Aq] (ints (JT l Aq)):=by
 refine fo func52 rfl ⟨rfl,rfl⟩ fun M0 w0=>(Tr.D9 0 rfl fun Dg=> ?_)
 refine ac ?_
 refine ap ?_
 refine TO.RG rfl rfl (by decide) rfl underlying22 A4 MO z3 rfl (vl rfl) (vl rfl) (by unfold maxLen;omega) (by omega) (fun b1=> ?_)
 refine ap ?_
 refine ac ?_
 refine Tr.block ?_
 refine Tr.Fy [(0,_),(1,_),(5,_)] ⟨ke rfl,ke rfl,ke rfl,trivial⟩ (fun k:Nat=>[(6,int ((k:Nat):Int))]) (fun k:Nat=>Hp M0 w0 Je ([AD true b1 3 (arr (E_ (fun _=> -1) 0 l.length k))])) (fun k:Nat=>k≤(l).length) (fun k:Nat=>(l).length-k) 0 (Nat.zero_le _) ⟨ke rfl,trivial⟩ ((by rw [YC,M6];exact fun _ _ h=>h)) ?_
 rintro k Cb
 refine an ?_ ?_<;>intro h1 q1
 have Az:k<(l).length:=Ak h1
 obtain ⟨y,A7⟩:=at_ Az
 refine ac ?_
 refine ap ?_
 refine tp rfl (AA rfl underlying22 A4 (vl rfl) (vl rfl) (by omega) (by omega)) ?_
 refine TO.CY 0 rfl rfl (AW rfl rfl (vl rfl) (Vo rfl) A4 rfl (by unfold arr;rw [List.length_map,EY (by omega)];omega) (Gd (g:=fun _=> -1) (by omega))) ?_
 refine ap ?_
 refine ac ?_
 exact Fin.NL (k+1) ⟨Az,by omega⟩ ⟨⟨_,rfl,AJ k⟩,ke rfl,ke rfl,ke rfl,trivial⟩ (fun _ _ h=>h)
 have B2:k=(l).length:=by have:=Ao h1;omega
 subst B2
 refine a2 ?_
 refine Tr.block ?_
 refine Tr.Fy [(0,_),(1,_),(5,_)] ⟨ke rfl,ke rfl,ke rfl,trivial⟩ (fun k2:Nat=>[(7,int ((k2:Nat):Int))]) (fun k2:Nat=>Hp M0 w0 Je ([AD true b1 3 (arr (E_ (fun j=>((A5 l Aq j:Nat):Int)) (-1) l.length k2))])) (fun k2:Nat=>k2≤(l).length) (fun k2:Nat=>(l).length-k2) 0 (Nat.zero_le _) ⟨ke rfl,trivial⟩ ((by rw [M7,M6,List.map_const',List.length_range];exact fun _ _ h=>h)) ?_
 rintro k2 kX
 refine an ?_ ?_<;>intro h2 q2
 have Ry:k2<(l).length:=Ak h2
 obtain ⟨x,Lm⟩:=at_ Ry
 refine a2 ?_
 refine co rfl (AB rfl underlying31 AY (vl rfl) (vl rfl) (by omega) (by exact Am (by assumption))) ?_
 refine ac ?_
 refine EL 0 1 5 7 8 rfl ?_
 refine an ?_ ?_<;>intro h3 q3
 refine ac ?_
 refine co rfl (av (JS hd Lm) rfl rfl rfl rfl) ?_
 refine a2 ?_
 refine Ea 0 1 5 7 8 9 40 rfl ?_
 refine Tr.cn rfl ?_ ?_<;>intro h4 q4
 obtain ⟨iZ,g,hg,fT,nj,hgd⟩:=LY (f:=x) (Aq:=Aq) q4
 have hmk:=LX Lm (by assumption) q4 hg
 refine ac ?_
 refine co rfl (AB rfl underlying31 AY (vl rfl) (vl rfl) (by omega) (by exact Am (by assumption))) ?_
 refine ac ?_
 refine ap ?_
 refine TO.DB 0 rfl rfl (by decide) (AU rfl rfl (by decide) rfl (IC (p:=(E_ (fun j=>((A5 l Aq j:Nat):Int)) (-1) l.length k2)) hd hl Lm hmk (EY (by omega)) (fun j hj=>N4 hj) rfl hn) ⟨ke rfl,ke rfl,ke rfl,⟨_,rfl,int_eq (by omega)⟩,ke rfl,trivial⟩) ?_
 refine tp rfl (AA rfl underlying22 A4 (vl rfl) (vl rfl) (by omega) (by omega)) ?_
 refine TO.CY 0 rfl rfl (AW rfl rfl (vl rfl) (Vo rfl) A4 rfl (by unfold arr;rw [List.length_map,EY (by omega)];omega) (Gd (g:=fun j=>((A5 l Aq j:Nat):Int)) (by omega))) ?_
 refine ap ?_
 refine Dp 0 1 5 7 rfl ?_
 refine ac ?_
 exact Fin.NL (k2+1) ⟨Ry,by omega⟩ ⟨⟨_,rfl,AJ k2⟩,ke rfl,ke rfl,ke rfl,trivial⟩ (fun _ _ h=>h)
 have hmk:=JN Lm (by assumption) (by omega)
 refine ac ?_
 refine ap ?_
 refine TO.DB 0 rfl rfl (by decide) (AU rfl rfl (by decide) rfl (IC (p:=(E_ (fun j=>((A5 l Aq j:Nat):Int)) (-1) l.length k2)) hd hl Lm hmk (EY (by omega)) (fun j hj=>N4 hj) rfl hn) ⟨ke rfl,ke rfl,ke rfl,⟨_,rfl,int_eq (by omega)⟩,ke rfl,trivial⟩) ?_
 refine tp rfl (AA rfl underlying22 A4 (vl rfl) (vl rfl) (by omega) (by omega)) ?_
 refine TO.CY 0 rfl rfl (AW rfl rfl (vl rfl) (Vo rfl) A4 rfl (by unfold arr;rw [List.length_map,EY (by omega)];omega) (Gd (g:=fun j=>((A5 l Aq j:Nat):Int)) (by omega))) ?_
 refine ap ?_
 refine Dp 0 1 5 7 rfl ?_
 refine ac ?_
 exact Fin.NL (k2+1) ⟨Ry,by omega⟩ ⟨⟨_,rfl,AJ k2⟩,ke rfl,ke rfl,ke rfl,trivial⟩ (fun _ _ h=>h)
 have hmk:=N1 (Aq:=Aq) Lm q3
 refine ac ?_
 refine ap ?_
 refine TO.DB 0 rfl rfl (by decide) (AU rfl rfl (by decide) rfl (IC (p:=(E_ (fun j=>((A5 l Aq j:Nat):Int)) (-1) l.length k2)) hd hl Lm hmk (EY (by omega)) (fun j hj=>N4 hj) rfl hn) ⟨ke rfl,ke rfl,ke rfl,⟨_,rfl,int_eq (by omega)⟩,ke rfl,trivial⟩) ?_
 refine tp rfl (AA rfl underlying22 A4 (vl rfl) (vl rfl) (by omega) (by omega)) ?_
 refine TO.CY 0 rfl rfl (AW rfl rfl (vl rfl) (Vo rfl) A4 rfl (by unfold arr;rw [List.length_map,EY (by omega)];omega) (Gd (g:=fun j=>((A5 l Aq j:Nat):Int)) (by omega))) ?_
 refine ap ?_
 refine Dp 0 1 5 7 rfl ?_
 refine ac ?_
 exact Fin.NL (k2+1) ⟨Ry,by omega⟩ ⟨⟨_,rfl,AJ k2⟩,ke rfl,ke rfl,ke rfl,trivial⟩ (fun _ _ h=>h)
 have fU:k2=(l).length:=by have:=Ao h2;omega
 subst fU
 rw [M7,Vh,←List.append_nil (List.flatten _)]
 refine a2 ?_
 refine Tr.ret ?_
 refine Fin.K3 (sz:=1) (cap:=l.length) ((JT l Aq).map fun n=>[int n]) 0 4 rfl rfl (Pr.le_of_eq (by simp)) (A8 fun _=>rfl) (by simp) (by unfold maxLen;omega) (by simp) ?_
 refine Fin.DI rfl (Ba.Cz _ _) rfl ?_
 · exact BL _ _
theorem NW {α:Type} {p:α→Bool} {l:List α} {k:Nat} {x:α} (hx:l[k]? =some x) (hno:(l.take k).find? p=none) (hp:p x=true):l.find? p=some x:=by
 have hk:=Ew hx
 rw [List.getElem?_eq_getElem hk] at hx
 cases hx
 conv=>lhs;rw [←List.take_append_drop k l,List.drop_eq_getElem_cons hk]
 rw [List.find?_append,hno,List.find?_cons_of_pos hp];rfl
def FG (l:List Ac) (Aq:Int) (i:Nat):List Z9:=(JO (A5 l Aq) i).map fun r=>CF l (A5 l Aq) r l.length
theorem Ln {l:List Ac} {Aq:Int} {i:Nat} (h:A5 l Aq i=i):FG l Aq (i+1)=FG l Aq i++[CF l (A5 l Aq) i l.length]:=by
 unfold FG;rw [Jz,if_pos h,List.map_append];rfl
theorem M8 {l:List Ac} {Aq:Int} {i:Nat} (h:¬A5 l Aq i=i):FG l Aq (i+1)=FG l Aq i:=by
 unfold FG;rw [Jz,if_neg h,List.append_nil]
theorem Lp (l:List Ac) (Aq:Int) (i:Nat):(FG l Aq i).length≤i:=by
 unfold FG JO
 rw [List.length_map]
 exact Nat.le_trans (List.length_filter_le _ _) (by simp)
theorem Lq (l:List Ac) (root:Nat→Nat) (r:Nat):∀k,(CF l root r k).Bu.length≤k∧(CF l root r k).GD.length≤k∧(CF l root r k).Cc.length≤k
 |0=>⟨Nat.zero_le _,Nat.zero_le _,Nat.zero_le _⟩
 |k+1=>by
  obtain ⟨h1,h2,h3⟩:=Lq l root r k
  by_cases h:root k=r
  ·
   cases hf:l[k]? with
   |none=>
    have:CF l root r (k+1)=CF l root r k:=by simp only [CF,hf]
    rw [this];omega
   |some f=>
    rw [FC hf h]
    unfold Eh
    have h4:(Z_ (CF l root r k).GD f.host).length≤_:=Iv Lib.compareBytes f.host (CF l root r k).GD
    have h5:(fD (CF l root r k).Cc f.machine).length≤_:=Iv Ar f.machine (CF l root r k).Cc
    refine ⟨by simp;omega,by show (Z_ _ _).length≤_;omega,?_⟩
    show (if f.machine=0 then _ else _:List Int).length≤_
    split<;>omega
  · rw [Gc h];omega
open Classical in
theorem YD {l:List Ac} (h:BO l):Lk l:=fun f hf=>by
 have:=h.check f hf
 unfold BV Dh at this
 simp at this;omega
theorem M9 {l:List Ac} {Aq:Int} {k:Nat} (h:k<l.length):(JT l Aq)[k]? =some ((A5 l Aq k:Nat):Int):=by
 unfold JT;rw [List.getElem?_map,List.getElem?_range h];rfl
theorem Qs (l:List Ac) (Aq:Int):(JT l Aq).length=l.length:=by simp [JT]
section
variable {α:Type} {c:α→α→Int}
def Ls (c:α→α→Int):List α→α→List α
 |[],x=>[x]
 |y::r,x=>if c x y<0 then x::y::r else y::Ls c r x
theorem GF {x:α}:∀l:List α,(Ls c l x).Perm (x::l)
 |[]=>List.Perm.refl _
 |y::r=>by
  unfold Ls;split
  · exact List.Perm.refl _
  · exact ((GF r).cons y).trans (List.Perm.swap x y r)
theorem Vi {x:α} (l:List α):(Ls c l x).length=l.length+1:=(GF l).length_eq
theorem J1 (hc:JJ c) {x:α}:∀{l:List α},DV c l→DV c (Ls c l x)
 |[],_=>List.pairwise_singleton _ _
 |y::r,h=>by
  obtain ⟨h1,h2⟩:=List.pairwise_cons.1 h
  unfold Ls;split
  ·
   rename_i hlt
   refine List.pairwise_cons.2 ⟨fun z hz=> ?_,h⟩
   rcases List.mem_cons.1 hz with rfl|hz
   · omega
   ·
    have hyz:=h1 z hz
    rcases Int.lt_or_eq_of_le hyz with h3|h3
    · exact Int.le_of_lt (hc.tr _ _ _ hlt h3)
    · have:=hc.kB x y z h3;omega
  ·
   rename_i hge
   refine List.pairwise_cons.2 ⟨fun z hz=> ?_,J1 hc h2⟩
   rcases List.mem_cons.1 ((GF r).mem_iff.1 hz) with rfl|hz
   · have:=hc.swap y z;omega
   · exact h1 z hz
theorem N5 (hc:JJ c) {x:α}:∀{l:List α} {k:Nat},DV c l→k≤l.length→(∀(j:Nat) y,k≤j→l[j]? =some y→c x y<0)→(k=0∨∃z,l[k-1]? =some z∧¬c x z<0)→Ls c l x=l.take k++[x]++l.drop k
 |[],k,_,hk,_,_=>by
  obtain rfl:k=0:=by simpa using hk
  rfl
 |y::r,0,_,_,h1,_=>by
  unfold Ls;rw [if_pos (h1 0 y (Nat.le_refl _) rfl)];rfl
 |y::r,k+1,hs,hk,h1,h2=>by
  obtain ⟨h3,h4⟩:=List.pairwise_cons.1 hs
  have hz:¬c x y<0:=by
   rcases h2 with h2|⟨z,hz,hn⟩
   · omega
   ·
    intro hlt
    rw [Nat.add_sub_cancel] at hz
    rcases List.mem_cons.1 (List.mem_of_getElem? hz) with rfl|hm
    · exact hn hlt
    ·
     have hyz:=h3 z hm
     rcases Int.lt_or_eq_of_le hyz with h5|h5
     · exact hn (hc.tr _ _ _ hlt h5)
     · have:=hc.kB x y z h5;omega
  unfold Ls
  rw [if_neg hz,N5 hc h4 (by simpa using hk) (fun j w hj hw=>h1 (j+1) w (by omega) (by simpa using hw)) ?_]
  · rfl
  ·
   rcases Nat.eq_zero_or_pos k with h0|h0
   · exact .inl h0
   ·
    rcases h2 with h2|⟨z,hz,hn⟩
    · omega
    ·
     refine .inr ⟨z,?_,hn⟩
     rw [show k+1-1=(k-1)+1 by omega,List.getElem?_cons_succ] at hz
     exact hz
end
def Et (f g:Ac) (a b:Int):Bool:=if f.day=g.day then (if f.B5=g.B5 then decide (a<b) else decide (f.B5>g.B5)) else decide (f.day>g.day)
def FH (l:List Ac) (t o:Int) (f:Ac) (a b:Int):Bool:=match l[b.toNat]? with
 |some g=>decide (g.day≤t)&&decide (t-o≤g.day)&&decide (Ay g=Ay f)&&Et g f b a
 |none=>false
theorem PR {l:List Ac} {t o:Int} {f g:Ac} {a b:Int} (h:l[b.toNat]? =some g):FH l t o f a b=(decide (g.day≤t)&&decide (t-o≤g.day)&&decide (Ay g=Ay f)&&Et g f b a):=by unfold FH;rw [h]
def CR (l:List Ac) (own:List Int) (t o:Int) (k:Nat) (a:Int) (f:Ac):Bool:=decide (f.day≤t)&&decide (t-o≤f.day)&&decide (¬f.kind=8)&& !(own.any (FH l t o f a))&& !((own.take k).any fun y=>y==a)
abbrev Hj (n a:Int) (f:Ac):BF:=⟨n,f.BM,f.kind,f.BI,f.bits,f.num,f.text,a⟩
def DG (l:List Ac) (n:Int) (own:List Int) (t o:Int):Nat→List BF
 |0=>[]
 |k+1=>match own[k]? with
  |none=>DG l n own t o k
  |some a=>match l[a.toNat]? with
   |none=>DG l n own t o k
   |some f=>if CR l own t o k a f then Ls En (DG l n own t o k) (Hj n a f) else DG l n own t o k
theorem N6 {l:List Ac} {n:Int} {own:List Int} {t o:Int} {k:Nat} {a:Int} {f:Ac} (ha:own[k]? =some a) (hf:l[a.toNat]? =some f):DG l n own t o (k+1)=if CR l own t o k a f then Ls En (DG l n own t o k) (Hj n a f) else DG l n own t o k:=by
 show (match own[k]? with|none=>_|some a=>_)=_
 rw [ha];show (match l[a.toNat]? with|none=>_|some f=>_)=_
 rw [hf]
theorem HC (l:List Ac) (n:Int) (own:List Int) (t o:Int):∀k,DV En (DG l n own t o k)
 |0=>List.Pairwise.nil
 |k+1=>by
  have ih:=HC l n own t o k
  unfold DG;split
  · exact ih
  ·
   split
   · exact ih
   ·
    split
    · exact J1 Ex ih
    · exact ih
theorem Lt (l:List Ac) (n:Int) (own:List Int) (t o:Int):∀k,(DG l n own t o k).length≤k
 |0=>Nat.le_refl _
 |k+1=>by
  have ih:=Lt l n own t o k
  unfold DG;split
  · omega
  ·
   split
   · omega
   ·
    split
    · rw [Vi];omega
    · omega
theorem YE {α:Type} {f:α→List Pr} {l:List α} {k:Nat} {x:α} (h0:0<k) (h:l[k-1]? =some x):(l.map f)[(((k:Nat):Int)-1).toNat]? =some (f x):=by
 rw [show (((k:Nat):Int)-1).toNat=k-1 by omega,List.getElem?_map,h];rfl
theorem S2 {l:List Ac} {a b:Int} {f g:Ac} (ha0:0≤a) (hb0:0≤b) (hf:l[a.toNat]? =some f) (hg:l[b.toNat]? =some g):BT prog 78 [Bu l,int a,int b] (bool (Et f g a b)):=by
 refine fo func78 rfl ⟨rfl,rfl⟩ fun M0 w0=> ?_
 · repeat' first|(exact bool_eq (by unfold Et;rw [if_neg (by assumption)]))|(exact bool_eq (by unfold Et;rw [if_pos (by assumption),if_neg (by assumption)]))|(exact bool_eq (by unfold Et;rw [if_pos (by assumption),if_pos (by assumption)]))|refine co rfl (AB rfl underlying31 AY (vl rfl) (vl rfl) (by omega) (A_ hf)) ?_|refine co rfl (AB rfl underlying31 AY (vl rfl) (vl rfl) (by omega) (A_ hg)) ?_|refine ac ?_|(refine Tr.cn rfl ?_ ?_<;>intro h q)
theorem Vj {l:List Int} {i:Nat} {a:Int} (hi:l[i]? =some a):BT prog 79 [ints l,int ((i:Nat):Int)] (bool ((l.take i).any fun y=>y==a)):=by
 refine fo func79 rfl ⟨rfl,rfl⟩ fun M0 w0=>(Tr.D9 0 rfl fun Dg=> ?_)
 have Dn:=CD hi
 refine a2 ?_
 refine Tr.block (Tr.BU [(0,_),(1,_)] (RC rfl) (fun k:Nat=>[(5,int ((k:Nat):Int))]) (fun k:Nat=>k≤i∧(l.take k).any (fun y=>y==a)=false) (fun k:Nat=>i-k) 0 (⟨Nat.zero_le _,rfl⟩) ⟨ke rfl,trivial⟩ ?_)
 rintro k ⟨hk,hno⟩
 refine an ?_ ?_<;>intro h1 q1
 have hki:k<i:=by have:=of_decide_eq_true h1;omega
 obtain ⟨x,hx⟩:=at_ (l:=l) (k:=k) (by omega)
 · repeat' first|(refine bool_eq ?_;symm;rw [List.any_eq_true];exact ⟨x,List.mem_of_getElem? (by rw [List.getElem?_take,if_pos hki];exact hx),beq_iff_eq.2 (by assumption)⟩)|(exact Fin.AE (k+1) ⟨⟨by omega,by rw [D3 _ hx,hno,Bool.false_or];exact beq_eq_false_iff_ne.2 (by assumption)⟩,by omega⟩ ⟨⟨_,rfl,AJ k⟩,ke rfl,ke rfl,trivial⟩)|refine co rfl (AB rfl underlying22 A4 (vl rfl) (vl rfl) (by omega) (Am hx)) ?_|refine co rfl (AB rfl underlying22 A4 (vl rfl) (vl rfl) (by omega) (Am hi)) ?_|refine ac ?_|(refine Tr.cn rfl ?_ ?_<;>intro h q)
 obtain rfl:k=i:=(by have:=of_decide_eq_false h1;omega)
 refine a3 ?_
 · exact bool_eq hno.symm
theorem YF {l:List Ac} {n a:Int} {f:Ac} (ha0:0≤a) (hf:l[a.toNat]? =some f):BT prog 80 [Bu l,int n,int a] (agg (AL (Hj n a f))):=by
 refine fo func80 rfl ⟨rfl,rfl⟩ fun M0 w0=>(Tr.seq (Tr.CA ?_))
 refine Tl rfl rfl rfl rfl FN Kw (fun b1=> ?_)
 refine ap ?_
 refine Tr.seq (Tr.rx ?_)
 refine ay ?_
 refine xo rfl (fun _=>AB rfl underlying31 AY (vl rfl) (vl rfl) (by omega) (A_ hf)) ?_
 refine ay ?_
 refine xo rfl (fun _=>AB rfl underlying31 AY (vl rfl) (vl rfl) (by omega) (A_ hf)) ?_
 refine ay ?_
 refine xo rfl (fun _=>AB rfl underlying31 AY (vl rfl) (vl rfl) (by omega) (A_ hf)) ?_
 refine ay ?_
 refine xo rfl (fun _=>AB rfl underlying31 AY (vl rfl) (vl rfl) (by omega) (A_ hf)) ?_
 refine ay ?_
 refine xo rfl (fun _=>AB rfl underlying31 AY (vl rfl) (vl rfl) (by omega) (A_ hf)) ?_
 refine ay ?_
 refine Cx.nil ⟨by kernel_rfl,?_⟩
 refine BP.done nA (Fin.go (CM 6 rfl (Tr.ret (Fin.FX rfl (A6.cell 0 rfl rfl Aw AH rfl (Lr)) ?_))))
 · exact Lr
theorem YG {a b:BF}  :BT prog 81 [agg (AL a),agg (AL b)] (bool (decide (En a b<0))):=by
 refine fo func81 rfl ⟨rfl,rfl⟩ fun M0 w0=> ?_
 · repeat' first|(refine bool_eq ?_;unfold En;rw [Bg,if_neg (fun h0=>absurd ((CB _ _).1 h0) (by assumption)),decide_eq_decide];have:=JH a.BM b.BM;omega)|(refine bool_eq ?_;unfold En;rw [Bg,if_pos ((CB _ _).2 (by assumption)),Bg,if_neg (fun h0=>absurd (BK.1 h0) (by assumption)),decide_eq_decide];unfold Ar;(repeat' split)<;>omega)|(refine bool_eq ?_;unfold En;rw [Bg,if_pos ((CB _ _).2 (by assumption)),Bg,if_pos (BK.2 (by assumption)),Bg,if_neg (fun h0=>absurd (BK.1 h0) (by assumption)),decide_eq_decide];unfold Ar;(repeat' split)<;>omega)|(refine bool_eq ?_;unfold En;rw [Bg,if_pos ((CB _ _).2 (by assumption)),Bg,if_pos (BK.2 (by assumption)),Bg,if_pos (BK.2 (by assumption)),Bg,if_neg (fun h0=>absurd (BK.1 h0) (by assumption)),decide_eq_decide];unfold Ar;(repeat' split)<;>omega)|(refine bool_eq ?_;unfold En;rw [Bg,if_pos ((CB _ _).2 (by assumption)),Bg,if_pos (BK.2 (by assumption)),Bg,if_pos (BK.2 (by assumption)),Bg,if_pos (BK.2 (by assumption)),Bg,if_neg (fun h0=>absurd (BK.1 h0) (by assumption)),decide_eq_decide];unfold Ar;(repeat' split)<;>omega)|(refine bool_eq ?_;unfold En;rw [Bg,if_pos ((CB _ _).2 (by assumption)),Bg,if_pos (BK.2 (by assumption)),Bg,if_pos (BK.2 (by assumption)),Bg,if_pos (BK.2 (by assumption)),Bg,if_pos (BK.2 (by assumption)),Bg,Xc,decide_eq_decide];have:=JH a.text b.text;split<;>omega)|refine co rfl (QC rfl (vl rfl) (vl rfl)) ?_|refine ac ?_|(refine Tr.cn rfl ?_ ?_<;>intro h q)
theorem HS {l:List Ac} {n:Int} {own:List Int} (hs:own.length≤1000):BT prog 76 [Bu l,Dm n own] (int (if EX own l.length then 0 else 4)):=by
 refine fo func76 rfl ⟨rfl,rfl⟩ fun M0 w0=>(Tr.D9 0 rfl fun Dg=> ?_)
 refine a2 ?_
 refine Tr.block (Tr.BU [(0,_),(3,_)] (RC rfl) (fun k:Nat=>[(5,int ((k:Nat):Int))]) (fun k:Nat=>k≤(own).length∧(EX (own.take k) l.length)) (fun k:Nat=>(own).length-k) 0 (⟨Nat.zero_le _,fun i hi=>by simp at hi⟩) ⟨ke rfl,trivial⟩ ?_)
 rintro k ⟨Cb,Ap⟩
 refine an ?_ ?_<;>intro h1 q1
 have Az:k<(own).length:=Ak h1
 obtain ⟨a,A7⟩:=at_ Az
 · repeat' first|(refine int_eq ?_;rw [if_neg];intro hc;have:=hc a (List.mem_of_getElem? A7);omega)|(exact Fin.AE (k+1) ⟨⟨Az,fun i hi=>by rw [List.take_add_one,A7] at hi;simp at hi;rcases hi with hi|rfl;exact Ap i hi;exact ⟨by omega,by omega⟩⟩,by omega⟩ ⟨⟨_,rfl,AJ k⟩,ke rfl,ke rfl,trivial⟩)|refine co rfl (AB rfl underlying22 A4 (vl rfl) (vl rfl) (by omega) (by exact Am (by assumption))) ?_|refine cy h rfl (AB rfl underlying22 A4 (vl rfl) (vl rfl) (by omega) (by exact Am (by assumption))) ?_|refine ac ?_|(refine Tr.cn rfl ?_ ?_<;>intro h q)|(refine Ch.cg rfl rfl rfl ?_ ?_<;>intro h q)
 have B2:k=(own).length:=by have:=Ao h1;omega
 subst B2
 rw [List.take_length] at Ap
 refine a3 ?_
 · refine int_eq ?_;rw [if_pos Ap]
theorem Vk {l:List Ac} {n t o:Int} {own:List Int} (hN:BO l) (ht:0≤t∧t≤40000) (ho:0≤o∧o≤4000) (hi:EX own l.length) (hs:own.length≤1000):BT prog 33 [Bu l,Dm n own,int t,int o] (DT [CI (DG l n own t o own.length),int 0]):=by
 refine fo func33 rfl ⟨rfl,rfl⟩ fun M0 w0=> ?_
 haveI:=Classical.propDecidable (BO l)
 obtain ⟨ht1,ht2⟩:=ht
 obtain ⟨gW,l7⟩:=ho
 refine a2 ?_
 refine co rfl (Cr (Cd) rfl rfl) ?_
 refine an ?_ ?_<;>intro h1 q1
 exfalso;simp_all
 refine ac ?_
 refine ag ?_ ?_<;>intro h2 q2
 exfalso;omega
 refine ag ?_ ?_<;>intro h3 q3
 exfalso;omega
 refine ag ?_ ?_<;>intro h4 q4
 exfalso;omega
 refine ac ?_
 refine EL 0 2 3 5 35 rfl ?_
 refine Tr.cn rfl ?_ ?_<;>intro h5 q5
 exfalso;omega
 refine a2 ?_
 refine co rfl (EE (HS (by omega)) rfl rfl rfl) ?_
 refine ac ?_
 refine an ?_ ?_<;>intro h6 q6
 exact absurd (if_pos hi) q6
 refine a3 ?_
 refine Tr.block (Tr.GP 110 8 (Tr.Hq [(0,_),(2,_),(3,_),(5,_)] ⟨ke rfl,ke rfl,ke rfl,ke rfl,trivial⟩ (fun k v=>[(12,int ((k:Nat):Int)),(11,BB v (CI (DG l n own t o k)))]) (fun k v=>Hp M0 w0 Je ([BX 110 8 v])) (fun k:Nat=>k≤(own).length) (fun k:Nat=>(own).length-k) 0 (.slice none 0 0) (Nat.zero_le _) ⟨ke rfl,⟨_,rfl,FV rfl⟩,trivial⟩ (fun _ _ h=>h) ?_))
 rintro k v Cb
 refine an ?_ ?_<;>intro h7 q7
 have Az:k<(own).length:=Ak h7
 obtain ⟨a,A7⟩:=at_ Az
 have hai:=hi a (List.mem_of_getElem? A7)
 obtain ⟨f,hf⟩:=at_ (l:=l) (k:=a.toNat) (by omega)
 have hst:=N6 (n:=n) (t:=t) (o:=o) A7 hf
 have hrl:=Lt l n own t o k
 have Yn:=HC l n own t o k
 refine a2 ?_
 refine co rfl (AB rfl underlying22 A4 (vl rfl) (vl rfl) (by omega) (Am A7)) ?_
 refine ac ?_
 refine Ea 0 2 3 5 11 12 13 rfl ?_
 refine ac ?_
 refine co rfl (AB rfl underlying31 AY (vl rfl) (vl rfl) (by omega) (A_ hf)) ?_
 refine ag ?_ ?_<;>intro h8 q8
 have Td:CR l own t o k a f=false:=by unfold CR;rw [decide_eq_false (show ¬f.day≤t by omega)];rfl
 refine ac ?_
 refine HU 0 2 3 5 11 12 13 79 rfl ?_
 refine a2 ?_
 exact Fin.DP (k+1) v (⟨Az,by omega⟩) ⟨⟨_,rfl,AJ k⟩,⟨_,rfl,Bs (by rw [hst,Td,if_neg (by decide)])⟩,ke rfl,ke rfl,ke rfl,ke rfl,trivial⟩ (fun _ _ h=>h)
 refine ac ?_
 refine cy h8 rfl (AB rfl underlying31 AY (vl rfl) (vl rfl) (by omega) (A_ hf)) ?_
 refine ag ?_ ?_<;>intro h9 q9
 have Td:CR l own t o k a f=false:=by unfold CR;rw [decide_eq_false (show ¬t-o≤f.day by omega),Bool.and_false];rfl
 refine ac ?_
 refine HU 0 2 3 5 11 12 13 79 rfl ?_
 refine a2 ?_
 exact Fin.DP (k+1) v (⟨Az,by omega⟩) ⟨⟨_,rfl,AJ k⟩,⟨_,rfl,Bs (by rw [hst,Td,if_neg (by decide)])⟩,ke rfl,ke rfl,ke rfl,ke rfl,trivial⟩ (fun _ _ h=>h)
 refine ac ?_
 refine cy h9 rfl (AB rfl underlying31 AY (vl rfl) (vl rfl) (by omega) (A_ hf)) ?_
 refine ac ?_
 refine HU 0 2 3 5 11 12 13 79 rfl ?_
 refine Tr.cn rfl ?_ ?_<;>intro h10 SQ
 have Td:CR l own t o k a f=false:=by unfold CR;rw [decide_eq_false (show ¬¬f.kind=8 by omega),Bool.and_false];rfl
 refine a2 ?_
 exact Fin.DP (k+1) v (⟨Az,by omega⟩) ⟨⟨_,rfl,AJ k⟩,⟨_,rfl,Bs (by rw [hst,Td,if_neg (by decide)])⟩,ke rfl,ke rfl,ke rfl,ke rfl,trivial⟩ (fun _ _ h=>h)
 refine a3 ?_
 refine Tr.block (Tr.BU [(0,_),(2,_),(3,_),(5,_),(11,_),(12,_),(13,_)] (lO rfl) (fun q:Nat=>[(15,int ((q:Nat):Int)),(14,bool (!((own.take q).any (FH l t o f a))))]) (fun q:Nat=>q≤(own).length) (fun q:Nat=>(own).length-q) 0 (Nat.zero_le _) ⟨ke rfl,ke rfl,trivial⟩ ?_)
 rintro q l_
 refine ac ?_
 refine FM 0 2 3 5 11 12 13 14 15 84 rfl ?_
 refine Tr.cn rfl ?_ ?_<;>intro h11 WV
 have S3:q<(own).length:=Ak h11
 obtain ⟨b,Qt⟩:=at_ S3
 have lS:=hi b (List.mem_of_getElem? Qt)
 obtain ⟨g,hg⟩:=at_ (l:=l) (k:=b.toNat) (by omega)
 have fV:=PR (t:=t) (o:=o) (f:=f) (a:=a) hg
 refine a2 ?_
 refine co rfl (AB rfl underlying22 A4 (vl rfl) (vl rfl) (by omega) (Am Qt)) ?_
 refine ac ?_
 refine FM 0 2 3 5 11 12 13 14 15 16 rfl ?_
 refine ac ?_
 refine co rfl (AB rfl underlying31 AY (vl rfl) (vl rfl) (by omega) (A_ hg)) ?_
 refine ag ?_ ?_<;>intro h12 SV
 have e1:g.day≤t:=SV
 refine ac ?_
 refine cy h12 rfl (AB rfl underlying31 AY (vl rfl) (vl rfl) (by omega) (A_ hg)) ?_
 refine ag ?_ ?_<;>intro I7 Ud
 have e2:t-o≤g.day:=Ud
 refine ac ?_
 refine cy I7 rfl (AB rfl underlying31 AY (vl rfl) (vl rfl) (by omega) (A_ hg)) (cy I7 rfl (Ad rfl BE AY (vl rfl) rfl rfl) (cy I7 rfl (Cr (Iw) rfl rfl) ?_))
 refine ac ?_
 refine cy I7 rfl (AB rfl underlying31 AY (vl rfl) (vl rfl) (by omega) (A_ hf)) (cy I7 rfl (Ad rfl BE AY (vl rfl) rfl rfl) (cy I7 rfl (Cr (Iw) rfl rfl) (cy I7 rfl (XK rfl (vl rfl) (vl rfl)) ?_)))
 refine ag ?_ ?_<;>intro Ue Zq
 have e3:Ay g=Ay f:=Mz (QT (of_decide_eq_true Ue))
 refine ac ?_
 refine cy Ue rfl (av (S2 (f:=g) (g:=f) (by omega) (by omega) hg hf) rfl rfl rfl rfl) ?_
 refine ac ?_
 refine FM 0 2 3 5 11 12 13 14 15 128 rfl ?_
 refine Tr.cn rfl ?_ ?_<;>intro WW j0
 have nk:FH l t o f a b=true:=by rw [fV,decide_eq_true e1,decide_eq_true e2,decide_eq_true e3,WW];rfl
 refine a2 ?_
 exact Fin.AE (q+1) ⟨S3,by omega⟩ ⟨⟨_,rfl,AJ q⟩,⟨_,rfl,bool_eq (by rw [D3 _ Qt];rw [nk,Bool.or_true];rfl)⟩,ke rfl,ke rfl,ke rfl,ke rfl,ke rfl,ke rfl,ke rfl,trivial⟩
 have aL:FH l t o f a b=false:=by rw [fV,decide_eq_true e1,decide_eq_true e2,decide_eq_true e3,WW];rfl
 refine a2 ?_
 exact Fin.AE (q+1) ⟨S3,by omega⟩ ⟨⟨_,rfl,AJ q⟩,⟨_,rfl,bool_eq (by rw [D3 _ Qt];rw [aL,Bool.or_false])⟩,ke rfl,ke rfl,ke rfl,ke rfl,ke rfl,ke rfl,ke rfl,trivial⟩
 have aL:FH l t o f a b=false:=by rw [fV,decide_eq_false (show ¬Ay g=Ay f from fun h9=>of_decide_eq_false Ue (by rw [h9];exact Rh.1 rfl)),Bool.and_false];rfl
 refine ac ?_
 refine FM 0 2 3 5 11 12 13 14 15 128 rfl ?_
 refine a2 ?_
 exact Fin.AE (q+1) ⟨S3,by omega⟩ ⟨⟨_,rfl,AJ q⟩,⟨_,rfl,bool_eq (by rw [D3 _ Qt];rw [aL,Bool.or_false])⟩,ke rfl,ke rfl,ke rfl,ke rfl,ke rfl,ke rfl,ke rfl,trivial⟩
 have aL:FH l t o f a b=false:=by rw [fV,decide_eq_false (show ¬t-o≤g.day by omega),Bool.and_false];rfl
 refine ac ?_
 refine FM 0 2 3 5 11 12 13 14 15 128 rfl ?_
 refine a2 ?_
 exact Fin.AE (q+1) ⟨S3,by omega⟩ ⟨⟨_,rfl,AJ q⟩,⟨_,rfl,bool_eq (by rw [D3 _ Qt];rw [aL,Bool.or_false])⟩,ke rfl,ke rfl,ke rfl,ke rfl,ke rfl,ke rfl,ke rfl,trivial⟩
 have aL:FH l t o f a b=false:=by rw [fV,decide_eq_false (show ¬g.day≤t by omega)];rfl
 refine ac ?_
 refine FM 0 2 3 5 11 12 13 14 15 128 rfl ?_
 refine a2 ?_
 exact Fin.AE (q+1) ⟨S3,by omega⟩ ⟨⟨_,rfl,AJ q⟩,⟨_,rfl,bool_eq (by rw [D3 _ Qt];rw [aL,Bool.or_false])⟩,ke rfl,ke rfl,ke rfl,ke rfl,ke rfl,ke rfl,ke rfl,trivial⟩
 have kY:q=(own).length:=by have:=Ao h11;omega
 subst kY
 rw [List.take_length]
 refine ac ?_
 refine ag ?_ ?_<;>intro h16 j4
 have aM:own.any (FH l t o f a)=true:=by simpa using h16
 have Td:CR l own t o k a f=false:=by unfold CR;rw [aM,Bool.not_true,Bool.and_false];rfl
 refine ac ?_
 refine HU 0 2 3 5 11 12 13 136 rfl ?_
 refine a2 ?_
 exact Fin.DP (k+1) v (⟨Az,by omega⟩) ⟨⟨_,rfl,AJ k⟩,⟨_,rfl,Bs (by rw [hst,Td,if_neg (by decide)])⟩,ke rfl,ke rfl,ke rfl,ke rfl,trivial⟩ (fun _ _ h=>h)
 have aM:own.any (FH l t o f a)=false:=by simpa using h16
 refine ac ?_
 refine cy h16 rfl (EE (Vj A7) rfl rfl rfl) ?_
 refine ac ?_
 refine HU 0 2 3 5 11 12 13 136 rfl ?_
 refine Tr.cn rfl ?_ ?_<;>intro Ta iK
 have Td:CR l own t o k a f=false:=by unfold CR;rw [Ta,Bool.not_true,Bool.and_false]
 refine a2 ?_
 exact Fin.DP (k+1) v (⟨Az,by omega⟩) ⟨⟨_,rfl,AJ k⟩,⟨_,rfl,Bs (by rw [hst,Td,if_neg (by decide)])⟩,ke rfl,ke rfl,ke rfl,ke rfl,trivial⟩ (fun _ _ h=>h)
 have Td:CR l own t o k a f=true:=by unfold CR;rw [decide_eq_true (show f.day≤t by omega),decide_eq_true (show t-o≤f.day by omega),decide_eq_true (show ¬f.kind=8 by omega),aM,Ta];rfl
 refine ac ?_
 refine ao ?_
 refine tp rfl (av (YF (f:=f) (by omega) hf) rfl rfl rfl rfl) ?_
 refine Tl rfl rfl rfl rfl FN Kw (fun b1=> ?_)
 refine sf 0 17 ⟨rfl,rfl,rfl⟩ rfl rfl rfl rfl ?_
 refine ao ?_
 refine Ea 0 2 3 5 11 12 17 rfl ?_
 refine ac ?_
 refine co rfl (CV rfl underlying63 (Kb rfl)) ?_
 refine ac ?_
 refine Tr.seq (Tr.block ?_)
 refine Tr.BU [(0,_),(2,_),(3,_),(5,_),(11,_),(12,_),(17,_)] (lO rfl) (fun p:Nat=>[(18,int ((p:Nat):Int))]) (fun p:Nat=>p≤(DG l n own t o k).length∧∀(j:Nat) y,p≤j→(DG l n own t o k)[j]? =some y→En (Hj n a f) y<0) (fun p:Nat=>p) (DG l n own t o k).length (⟨Nat.le_refl _,fun j y h1 h2=>by rw [List.getElem?_eq_none h1] at h2;cases h2⟩) ⟨⟨_,rfl,int_eq (by simp)⟩,trivial⟩ ?_
 rintro p ⟨Fo,Jq⟩
 refine ag ?_ ?_<;>intro Tc iL
 obtain ⟨y,hy⟩:=at_ (l:=DG l n own t o k) (k:=p-1) (by omega)
 refine ac ?_
 refine cy Tc rfl (AB rfl underlying63 AH (Kb rfl) (vl rfl) (by omega) (YE (by omega) hy)) (cy Tc rfl (Ad rfl Aw AH (vl rfl) rfl rfl) (cy Tc rfl (EE (YG) rfl rfl rfl) ?_))
 refine ac ?_
 refine N_ 0 2 3 5 11 12 17 18 154 rfl ?_
 refine Tr.cn rfl ?_ ?_<;>intro XO iM
 have:=XO
 refine a2 ?_
 exact Fin.AE (p-1) ⟨⟨by omega,fun j w h1 h2=>by rcases Nat.eq_or_lt_of_le h1 with h3|h3;(subst h3;rw [hy] at h2;cases h2;assumption);exact Jq j w (by omega) h2⟩,by omega⟩ ⟨⟨_,rfl,int_eq (by omega)⟩,ke rfl,ke rfl,ke rfl,ke rfl,ke rfl,ke rfl,ke rfl,trivial⟩
 have:=XO
 refine ac ?_
 refine Tr.pad (Tr.rx (xo rfl (fun _=>AM (xs:=[]) (rows:=[]) rfl rfl underlying63 AH FN rfl (by decide) trivial (by decide)) ?_))
 refine ay ?_
 refine xo rfl (fun _=>Bj rfl underlying63 AH (Kb rfl) (vl rfl) (by omega) (by simp;omega)) ?_
 refine Cx.ef 0 rfl rfl (by decide) (An rfl rfl (by decide) rfl underlying63 AH G0 FN rfl (by decide) (Kf rfl) (vl rfl) (by simp;unfold maxLen;omega) (by simp;omega) (B4 (by exact List.Mem.head _) (vl rfl))) ?_
 refine xo rfl (fun _=>Ad rfl Aw AH (vl rfl) rfl rfl) (xo rfl (fun _=>AM (xs:=[.tmp 162]) (rows:=[_]) rfl rfl underlying63 AH FN rfl (by decide) ⟨⟨(by exact rfl),(Va rfl)⟩,trivial⟩ (by decide)) ?_)
 refine Cx.ef 0 rfl rfl (by decide) (An rfl rfl (by decide) rfl underlying63 AH G0 FN rfl (by decide) (vl rfl) (Kf rfl) (by simp;unfold maxLen;omega) (by simp;omega) BC) ?_
 refine ay ?_
 refine xo rfl (fun _=>BH rfl underlying63 AH (Kb rfl) (vl rfl) (by omega) (by simp;omega)) ?_
 refine Cx.ef 0 rfl rfl (by decide) (An rfl rfl (by decide) rfl underlying63 AH G0 FN rfl (by decide) (vl rfl) (vl rfl) (by simp;unfold maxLen;omega) (by simp;omega) BC) ?_
 refine Cx.ef 0 rfl rfl (by decide) (CW rfl rfl (by decide) rfl (vl rfl)) ?_
 refine Cx.nil ⟨by kernel_rfl,?_⟩
 refine BP.open_ 0 11 rfl rfl (fun v1=> ?_)
 refine BP.done Ic ?_
 refine ac ?_
 refine EZ 0 2 3 5 11 12 rfl ?_
 refine ac ?_
 refine Fin.drop 1 ?_
 exact Fin.DP (k+1) v1 (⟨Az,by omega⟩) ⟨⟨_,rfl,AJ k⟩,⟨_,rfl,Bs (by rw [hst,Td,if_pos rfl,N5 Ex Yn Fo Jq (by exact .inr ⟨y,hy,by omega⟩)];rw [Int.toNat_natCast,List.map_append,List.map_append,List.map_take,List.map_drop,List.nil_append];rfl)⟩,ke rfl,ke rfl,ke rfl,ke rfl,trivial⟩ (fun _ _ h=>h)
 refine ac ?_
 refine N_ 0 2 3 5 11 12 17 18 154 rfl ?_
 refine ac ?_
 refine Tr.pad (Tr.rx (xo rfl (fun _=>AM (xs:=[]) (rows:=[]) rfl rfl underlying63 AH FN rfl (by decide) trivial (by decide)) ?_))
 refine ay ?_
 refine xo rfl (fun _=>Bj rfl underlying63 AH (Kb rfl) (vl rfl) (by omega) (by omega)) ?_
 refine Cx.ef 0 rfl rfl (by decide) (An rfl rfl (by decide) rfl underlying63 AH G0 FN rfl (by decide) (Kf rfl) (vl rfl) (by simp;unfold maxLen;omega) (by simp;omega) (B4 (by exact List.Mem.head _) (vl rfl))) ?_
 refine xo rfl (fun _=>Ad rfl Aw AH (vl rfl) rfl rfl) (xo rfl (fun _=>AM (xs:=[.tmp 162]) (rows:=[_]) rfl rfl underlying63 AH FN rfl (by decide) ⟨⟨(by exact rfl),(Va rfl)⟩,trivial⟩ (by decide)) ?_)
 refine Cx.ef 0 rfl rfl (by decide) (An rfl rfl (by decide) rfl underlying63 AH G0 FN rfl (by decide) (vl rfl) (Kf rfl) (by simp;unfold maxLen;omega) (by simp;omega) BC) ?_
 refine ay ?_
 refine xo rfl (fun _=>BH rfl underlying63 AH (Kb rfl) (vl rfl) (by omega) (by omega)) ?_
 refine Cx.ef 0 rfl rfl (by decide) (An rfl rfl (by decide) rfl underlying63 AH G0 FN rfl (by decide) (vl rfl) (vl rfl) (by simp;unfold maxLen;omega) (by simp;omega) BC) ?_
 refine Cx.ef 0 rfl rfl (by decide) (CW rfl rfl (by decide) rfl (vl rfl)) ?_
 refine Cx.nil ⟨by kernel_rfl,?_⟩
 refine BP.open_ 0 11 rfl rfl (fun v2=> ?_)
 refine BP.done Ic ?_
 refine ac ?_
 refine EZ 0 2 3 5 11 12 rfl ?_
 refine ac ?_
 refine Fin.drop 1 ?_
 exact Fin.DP (k+1) v2 (⟨Az,by omega⟩) ⟨⟨_,rfl,AJ k⟩,⟨_,rfl,Bs (by rw [hst,Td,if_pos rfl,N5 Ex Yn Fo Jq (by exact .inl (by omega))];rw [Int.toNat_natCast,List.map_append,List.map_append,List.map_take,List.map_drop,List.nil_append];rfl)⟩,ke rfl,ke rfl,ke rfl,ke rfl,trivial⟩ (fun _ _ h=>h)
 have B2:k=(own).length:=by have:=Ao h7;omega
 subst B2
 refine a2 ?_
 refine EK 8 9 rfl (Tr.ret (Fin.Cq rfl (Ba.Cz _ _) rfl ?_ rfl ?_))
 · exact Pr.le_trans (BL _ _) (Lr)
 · exact Lr
section
variable {α:Type} {c:α→α→Int} {l:List α} {x:α}
abbrev Vl (c:α→α→Int) (l:List α):Prop:=l.Pairwise fun a b=>c a b<0
end
theorem CG {a b:Int} {c:Int×Int→Int} (hc:∀x y,c (x,y)=Ar x y):BT prog 142 [int a,int b] (bool (decide (c (a,b)<0))):=by
 refine fo func142 rfl ⟨rfl,rfl⟩ fun M0 w0=> ?_
 · repeat' first|exact absurd h (by decide)|(refine bool_eq ?_;rw [decide_eq_decide,hc];unfold Ar;split<;>(try split)<;>omega)|refine co rfl (Cr (LF) rfl rfl) (cm rfl ?_)|refine ac ?_|(refine Ch.cg rfl rfl rfl ?_ ?_<;>intro h q)
theorem Vm {l:List (Int)} {c:Int×Int→Int} {b0 cap len:Nat} {sp:List Value} {a b:Int} (hc:∀x y,c (x,y)=Ar x y) (Ep:l.length=len) (Gn:len≤1000000) (hw:Go.Sort.SWO (Bp c)) (h0:0≤a) (hab:a≤b) (hb:b≤len):BQ prog 201 [is (.slice (some ⟨b0,0,none⟩) len cap),int a,int b] (CC) (AD true b0 3 ((l.map (fun t:Int=>[int t])).flatten++sp.map is)) (fun _=>Bw b0 3 (fun t:Int=>[int t]) (CS c a b l) (sp.map is)):=by
 refine BQ.of func201 rfl rfl (by exact Nb rfl) fun M0 w0 S rs M1 w1=> ?_
 refine ac ?_
 refine Tr.block (Tr.CU [(0,_),(1,_),(2,_)] ⟨ke rfl,ke rfl,ke rfl,trivial⟩ (fun (i:Int) (st:List (Int))=>[(6,int i)]) (fun (i:Int) (st:List (Int))=>Hp M0 w0 S (AD true b0 3 ((st.map (fun t:Int=>[int t])).flatten++sp.map is)::Ai M1 w1::rs)) (fun (i:Int) (st:List (Int))=>a<i∧st.length=len∧Go.Sort.insOuter (Bp c) a.toNat b.toNat i.toNat st.toArray=Go.Sort.insertionSort (Bp c) l.toArray a.toNat b.toNat) (fun (i:Int) (st:List (Int))=>(b-i).toNat) (a+1) (l)  (⟨by omega,by omega,K6 h0⟩) ⟨ke rfl,trivial⟩ (fun _ _ h=>h) ?_)
 rintro i st  ⟨hi1,Gp,DQ⟩
 refine an ?_ ?_<;>intro h1 q1
 have hib:i<b:=of_decide_eq_true h1
 refine a2 ?_
 refine Tr.block (Tr.CU [(0,_),(1,_),(2,_),(6,_)] ⟨ke rfl,ke rfl,ke rfl,ke rfl,trivial⟩ (fun (j:Int) (D5:List (Int))=>[(7,int j)]) (fun (j:Int) (D5:List (Int))=>Hp M0 w0 S (AD true b0 3 ((D5.map (fun t:Int=>[int t])).flatten++sp.map is)::Ai M1 w1::rs)) (fun (j:Int) (D5:List (Int))=>(a≤j∧j≤i)∧D5.length=len∧Go.Sort.insInner (Bp c) a.toNat j.toNat D5.toArray=Go.Sort.insInner (Bp c) a.toNat i.toNat st.toArray) (fun (j:Int) (D5:List (Int))=>(j-a).toNat) (i) (st)  (⟨⟨by omega,by omega⟩,Gp,rfl⟩) ⟨ke rfl,trivial⟩ (fun _ _ h=>h) ?_)
 rintro j D5  ⟨⟨TT,hj2⟩,Lb,IB⟩
 refine ag ?_ ?_<;>intro h2 q2
 refine ac ?_
 refine cy h2 rfl (AA rfl underlying22 A4 (vl rfl) (vl rfl) (by omega) (by omega)) (cy h2 rfl (As 0 rfl (AS rfl Au (vl rfl) (AR (g:=(fun t:Int=>int t)) (by omega)))) ?_)
 refine ac ?_
 refine cy h2 rfl (AA rfl underlying22 A4 (vl rfl) (vl rfl) (by omega) (by omega)) (cy h2 rfl (As 0 rfl (AS rfl Au (vl rfl) (AR (g:=(fun t:Int=>int t)) (by omega)))) (cy h2 rfl (EE (CG hc) rfl rfl rfl) ?_))
 refine ac ?_
 refine EZ 0 1 2 6 7 30 rfl ?_
 refine Tr.cn rfl ?_ ?_<;>intro h3 q3
 have:=h3
 refine ac ?_
 refine Tr.seq (Tr.block (Tr.rx ?_))
 refine ay ?_
 refine xo rfl (fun _=>AA rfl underlying22 A4 (vl rfl) (vl rfl) (by omega) (by omega)) (C0 0 rfl rfl (AS rfl Au (vl rfl) (AR (g:=(fun t:Int=>int t)) (by omega))) ?_)
 refine ay ?_
 refine xo rfl (fun _=>AA rfl underlying22 A4 (vl rfl) (vl rfl) (by omega) (by omega)) (C0 0 rfl rfl (AS rfl Au (vl rfl) (AR (g:=(fun t:Int=>int t)) (by omega))) (xo rfl (fun _=>AA rfl underlying22 A4 (vl rfl) (vl rfl) (by omega) (by omega)) ?_))
 refine Cx.CY 0 rfl rfl (AW rfl rfl (vl rfl) (Vo rfl) A4 rfl (by rw [AV (sz:=1) (fun _=>rfl)];omega) (AQ (f:=(fun t:Int=>[int t])) (fun _=>rfl) (by omega))) ?_
 refine xo rfl (fun _=>AA rfl underlying22 A4 (vl rfl) (vl rfl) (by omega) (by omega)) ?_
 refine Cx.CY 0 rfl rfl (AW rfl rfl (vl rfl) (Vo rfl) A4 rfl (by rw [AV (sz:=1) (fun _=>rfl)];simp only [List.length_set];omega) (AQ (f:=(fun t:Int=>[int t])) (fun _=>rfl) (by simp only [List.length_set];omega))) ?_
 refine Cx.nil ⟨by kernel_rfl,?_⟩
 refine BP.done Ic ?_
 refine ac ?_
 refine EL 0 1 2 6 7 rfl ?_
 refine ac ?_
 exact Fin.BW (j-1) (_)  (⟨⟨⟨by omega,by omega⟩,by simp only [List.length_set];exact Lb,by rw [UD h0 (by omega) rfl (by omega) (by omega) (by assumption)];exact IB⟩,by omega⟩) ⟨ke rfl,ke rfl,ke rfl,ke rfl,ke rfl,trivial⟩ (fun _ _ h=>h)
 have:=h3
 refine a2 ?_
 have Qd:D5.toArray=Go.Sort.insInner (Bp c) a.toNat j.toNat D5.toArray:=by exact MV h0 (by omega) rfl (by omega) (by omega) (Int.not_lt.2 (by assumption))
 exact Fin.BW (i+1) (D5)  (⟨⟨by omega,Lb,by rw [←DQ,←KL (by omega) hib,←IB];exact congrArg _ Qd⟩,by omega⟩) ⟨ke rfl,ke rfl,ke rfl,ke rfl,trivial⟩ (fun _ _ h=>h)
 refine ac ?_
 refine EZ 0 1 2 6 7 30 rfl ?_
 refine a2 ?_
 have Qd:D5.toArray=Go.Sort.insInner (Bp c) a.toNat j.toNat D5.toArray:=by exact MU h0 (by omega)
 exact Fin.BW (i+1) (D5)  (⟨⟨by omega,Lb,by rw [←DQ,←KL (by omega) hib,←IB];exact congrArg _ Qd⟩,by omega⟩) ⟨ke rfl,ke rfl,ke rfl,ke rfl,trivial⟩ (fun _ _ h=>h)
 have hib:¬i<b:=of_decide_eq_false h1
 rw [MW (by omega) hib] at DQ
 refine Tr.exit (Fin.AG (Fin.AG (Fin.AP ?_)))
 refine Fin.Bl (CS c a b l) 0 rfl (by unfold CS;rw [DQ];exact Go.Sort.insertionSort_holds hw l.toArray a.toNat b.toNat (by omega) (by simp only [List.size_toArray];omega)) ?_
 exact Fin.FY rfl
theorem M_ {l:List (Int)} {c:Int×Int→Int} {b0 cap len:Nat} {sp:List Value} {lo hi first:Int} (hc:∀x y,c (x,y)=Ar x y) (Ep:l.length=len) (Gn:len≤1000000) (h0:0≤lo) (hlo:lo≤len) (hf:0≤first) (hb:first+hi≤len):BQ prog 218 [is (.slice (some ⟨b0,0,none⟩) len cap),int lo,int hi,int first] (CC) (AD true b0 3 ((l.map (fun t:Int=>[int t])).flatten++sp.map is)) (fun _=>Bw b0 3 (fun t:Int=>[int t]) (Gl c hi first lo l) (sp.map is)):=by
 refine BQ.of func218 rfl rfl (by exact Nb rfl) fun M0 w0 S rs M1 w1=> ?_
 refine Tr.seq (Tr.Ax (cm rfl (cm rfl (Ch.nil (Fin.go (Tr.block (Tr.CU [(0,_),(2,_),(3,_)] ⟨ke rfl,ke rfl,ke rfl,trivial⟩ (fun (r:Int) (st:List (Int))=>[(8,int r)]) (fun (r:Int) (st:List (Int))=>Hp M0 w0 S (AD true b0 3 ((st.map (fun t:Int=>[int t])).flatten++sp.map is)::Ai M1 w1::rs)) (fun (r:Int) (st:List (Int))=>(0≤r∧r≤1000000)∧st.length=len∧Go.Sort.siftDown (Bp c) hi.toNat first.toNat r.toNat st.toArray=Go.Sort.siftDown (Bp c) hi.toNat first.toNat lo.toNat l.toArray) (fun (r:Int) (st:List (Int))=>(hi-r).toNat) (lo) (l)  (⟨⟨by omega,by omega⟩,by omega,rfl⟩) ⟨ke rfl,trivial⟩ (fun _ _ h=>h) ?_)))))))
 rintro r st  ⟨⟨Su,gI⟩,Gp,DQ⟩
 refine Tr.block (Tr.seq (Tr.Ax (cm rfl ?_)))
 refine co rfl (DW rfl (vl rfl) (vl rfl) ?hin) ?_;case hin=>unfold C7;omega
 refine MM rfl rfl rfl rfl (by omega) (cm rfl (Ch.nil (Fin.go (Tr.seq (Tr.seq (Tr.Ax (cm rfl (cm rfl (co rfl (ki rfl rfl rfl rfl) (Ch.nil (Fin.go ?_)))))))))))
 refine Tr.cn rfl ?_ ?_<;>intro h1 q1
 refine Tr.exit (Fin.AG (Fin.Gv rfl (Fin.AG (Fin.AP ?_))))
 refine Fin.Bl (Gl c hi first lo l) 0 rfl (⟨by omega,by rw [←DQ];exact Oa (by omega) (by omega)⟩) ?_
 exact Fin.FY rfl
 refine Tr.skip (Fin.go (Tr.seq (Tr.seq (Tr.HT mixed (by kernel_rfl) (cm rfl (MM rfl rfl rfl rfl (by omega) (cm rfl (co rfl (ki rfl rfl rfl rfl) (cm rfl ?_)))))))))
 refine Ch.cs 21 rfl ?_ ?_<;>intro h2 q2
 refine DL h2 rfl (DL h2 rfl (DL h2 rfl ?_))
 refine cy h2 rfl (BR rfl (vl rfl) (vl rfl) ?hin) ?_;case hin=>unfold C7;omega
 refine cy h2 rfl (AA rfl underlying22 A4 (vl rfl) (vl rfl) (by omega) (by omega)) (cy h2 rfl (As 0 rfl (AS rfl Au (vl rfl) (AR (g:=(fun t:Int=>int t)) (by omega)))) (DL h2 rfl (DL h2 rfl (DL h2 rfl ?_))))
 refine cy h2 rfl (BR rfl (vl rfl) (vl rfl) ?hin) ?_;case hin=>unfold C7;omega
 refine cy h2 rfl (BR rfl (vl rfl) (vl rfl) ?hin) ?_;case hin=>unfold C7;omega
 refine cy h2 rfl (AA rfl underlying22 A4 (vl rfl) (vl rfl) (by omega) (by omega)) (cy h2 rfl (As 0 rfl (AS rfl Au (vl rfl) (AR (g:=(fun t:Int=>int t)) (by omega)))) (cy h2 rfl (Ah rfl (CG hc) ⟨ke rfl,ke rfl,trivial⟩) (co rfl (GQ rfl rfl h2 rfl) (Ch.nil (Fin.go (EZ 0 2 3 8 9 36 rfl ?_))))))
 refine Tr.cn rfl ?_ ?_<;>intro h3 q3
 refine Tr.Ax (cm rfl (MM rfl rfl rfl rfl (by omega) (cm rfl (Ch.nil (Fin.go (Tr.seq (Tr.seq (Tr.HT mixed (by kernel_rfl) (cm rfl (cm rfl (cm rfl (MM rfl rfl rfl rfl (by omega) (co rfl (AA rfl underlying22 A4 (vl rfl) (vl rfl) (by omega) (by omega)) ?_)))))))))))))
 refine co rfl (As 0 rfl (AS rfl Au (vl rfl) (AR (g:=(fun t:Int=>int t)) (by omega)))) (cm rfl (cm rfl (cm rfl (MM rfl rfl rfl rfl (by omega) (co rfl (AA rfl underlying22 A4 (vl rfl) (vl rfl) (by omega) (by omega)) (co rfl (As 0 rfl (AS rfl Au (vl rfl) (AR (g:=(fun t:Int=>int t)) (by omega)))) (co rfl (Ah rfl (CG hc) ⟨ke rfl,ke rfl,trivial⟩) (co rfl (Dt rfl (vl rfl)) (Ch.nil (Fin.go (EZ 0 2 3 8 9 52 rfl ?_)))))))))))
 refine Tr.cn rfl ?_ ?_<;>intro h4 q4
 refine Tr.ret (Fin.AF (Fin.AK (Fin.AF (Fin.AK ?_))))
 refine Fin.Bl (Gl c hi first lo l) 0 rfl (⟨by omega,by rw [←DQ];exact K8 Su hf (by omega) (u:=first+(2*r+1)) (v:=first+(2*r+1)+1) rfl rfl (by omega) (by omega) (by assumption) (x:=first+r) (y:=first+(2*r+1+1)) rfl rfl (by omega) (by omega) (Int.not_lt.2 (by assumption))⟩) ?_
 exact Fin.Ef rfl
 refine Tr.skip (Fin.go (Tr.seq (Tr.Dv mixed [none,none,none,none,none,none,none,none,none,none,none,none,none,some (0,0,false,0),none,none,none,none,none,some (0,0,false,0),none,some (0,0,true,0),none,some (0,0,true,0)] (by kernel_rfl) (xm rfl (xm rfl (xm rfl ?_))))))
 refine xo rfl (fun _=>BR rfl (vl rfl) (vl rfl) ?hin) ?_;case hin=>unfold C7;omega
 refine xm rfl (xm rfl (xm rfl ?_))
 refine xo rfl (fun _=>BR rfl (vl rfl) (vl rfl) ?hin) ?_;case hin=>unfold C7;omega
 refine xm rfl (xm rfl (xm rfl ?_))
 refine xo rfl (fun _=>BR rfl (vl rfl) (vl rfl) ?hin) ?_;case hin=>unfold C7;omega
 refine xo rfl (fun _=>AA rfl underlying22 A4 (vl rfl) (vl rfl) (by omega) (by omega)) (C0 0 rfl rfl (AS rfl Au (vl rfl) (AR (g:=(fun t:Int=>int t)) (by omega))) (xm rfl (xm rfl (xm rfl ?_))))
 refine xo rfl (fun _=>BR rfl (vl rfl) (vl rfl) ?hin) ?_;case hin=>unfold C7;omega
 refine xo rfl (fun _=>AA rfl underlying22 A4 (vl rfl) (vl rfl) (by omega) (by omega)) (C0 0 rfl rfl (AS rfl Au (vl rfl) (AR (g:=(fun t:Int=>int t)) (by omega))) (xo rfl (fun _=>AA rfl underlying22 A4 (vl rfl) (vl rfl) (by omega) (by omega)) ?_))
 refine Cx.CY 0 rfl rfl (AW rfl rfl (vl rfl) (Vo rfl) A4 rfl (by rw [AV (sz:=1) (fun _=>rfl)];omega) (AQ (f:=(fun t:Int=>[int t])) (fun _=>rfl) (by omega))) ?_
 refine xo rfl (fun _=>AA rfl underlying22 A4 (vl rfl) (vl rfl) (by omega) (by omega)) ?_
 refine Cx.CY 0 rfl rfl (AW rfl rfl (vl rfl) (Vo rfl) A4 rfl (by rw [AV (sz:=1) (fun _=>rfl)];simp only [List.length_set];omega) (AQ (f:=(fun t:Int=>[int t])) (fun _=>rfl) (by simp only [List.length_set];omega))) ?_
 refine Cx.nil ⟨rfl,?_⟩
 refine BP.done (BG.cons (BG.cons (BG.map _))) (Fin.go (Dp 0 2 3 9 rfl (Tr.Ax (cm rfl (cm rfl (Ch.nil (Fin.block ?_)))))))
 exact Fin.BW (2*r+1+1) (_)  (⟨⟨⟨by omega,by omega⟩,by simp only [List.length_set];exact Gp,by rw [←DQ];exact Ob Su hf (by omega) (u:=first+(2*r+1)) (v:=first+(2*r+1)+1) rfl rfl (by omega) (by omega) (by assumption) (by omega) (by omega) (by omega) (by omega) (by assumption)⟩,by omega⟩) ⟨ke rfl,ke rfl,ke rfl,ke rfl,trivial⟩ (fun _ _ h=>h)
 refine Tr.skip (Fin.go (Tr.seq (Tr.seq (Tr.HT mixed (by kernel_rfl) (cm rfl (cm rfl (cm rfl (MM rfl rfl rfl rfl (by omega) (co rfl (AA rfl underlying22 A4 (vl rfl) (vl rfl) (by omega) (by omega)) (co rfl (As 0 rfl (AS rfl Au (vl rfl) (AR (g:=(fun t:Int=>int t)) (by omega)))) (cm rfl (cm rfl (cm rfl ?_)))))))))))))
 refine MM rfl rfl rfl rfl (by omega) (co rfl (AA rfl underlying22 A4 (vl rfl) (vl rfl) (by omega) (by omega)) (co rfl (As 0 rfl (AS rfl Au (vl rfl) (AR (g:=(fun t:Int=>int t)) (by omega)))) (co rfl (Ah rfl (CG hc) ⟨ke rfl,ke rfl,trivial⟩) (co rfl (Dt rfl (vl rfl)) (Ch.nil (Fin.go (EZ 0 2 3 8 9 52 rfl ?_)))))))
 refine Tr.cn rfl ?_ ?_<;>intro h5 q5
 refine Tr.ret (Fin.AF (Fin.AK (Fin.AF (Fin.AK ?_))))
 refine Fin.Bl (Gl c hi first lo l) 0 rfl (⟨by omega,by rw [←DQ];exact Js Su hf (by omega) (u:=first+(2*r+1)) (v:=first+(2*r+1)+1) rfl rfl (by omega) (by omega) (Int.not_lt.2 (by assumption)) (x:=first+r) (y:=first+(2*r+1)) rfl rfl (by omega) (by omega) (Int.not_lt.2 (by assumption))⟩) ?_
 exact Fin.Ef rfl
 refine Tr.skip (Fin.go (Tr.seq (Tr.Dv mixed [none,none,none,none,none,none,none,none,none,none,none,none,none,some (0,0,false,0),none,none,none,none,none,some (0,0,false,0),none,some (0,0,true,0),none,some (0,0,true,0)] (by kernel_rfl) (xm rfl (xm rfl (xm rfl ?_))))))
 refine xo rfl (fun _=>BR rfl (vl rfl) (vl rfl) ?hin) ?_;case hin=>unfold C7;omega
 refine xm rfl (xm rfl (xm rfl ?_))
 refine xo rfl (fun _=>BR rfl (vl rfl) (vl rfl) ?hin) ?_;case hin=>unfold C7;omega
 refine xm rfl (xm rfl (xm rfl ?_))
 refine xo rfl (fun _=>BR rfl (vl rfl) (vl rfl) ?hin) ?_;case hin=>unfold C7;omega
 refine xo rfl (fun _=>AA rfl underlying22 A4 (vl rfl) (vl rfl) (by omega) (by omega)) (C0 0 rfl rfl (AS rfl Au (vl rfl) (AR (g:=(fun t:Int=>int t)) (by omega))) (xm rfl (xm rfl (xm rfl ?_))))
 refine xo rfl (fun _=>BR rfl (vl rfl) (vl rfl) ?hin) ?_;case hin=>unfold C7;omega
 refine xo rfl (fun _=>AA rfl underlying22 A4 (vl rfl) (vl rfl) (by omega) (by omega)) (C0 0 rfl rfl (AS rfl Au (vl rfl) (AR (g:=(fun t:Int=>int t)) (by omega))) (xo rfl (fun _=>AA rfl underlying22 A4 (vl rfl) (vl rfl) (by omega) (by omega)) ?_))
 refine Cx.CY 0 rfl rfl (AW rfl rfl (vl rfl) (Vo rfl) A4 rfl (by rw [AV (sz:=1) (fun _=>rfl)];omega) (AQ (f:=(fun t:Int=>[int t])) (fun _=>rfl) (by omega))) ?_
 refine xo rfl (fun _=>AA rfl underlying22 A4 (vl rfl) (vl rfl) (by omega) (by omega)) ?_
 refine Cx.CY 0 rfl rfl (AW rfl rfl (vl rfl) (Vo rfl) A4 rfl (by rw [AV (sz:=1) (fun _=>rfl)];simp only [List.length_set];omega) (AQ (f:=(fun t:Int=>[int t])) (fun _=>rfl) (by simp only [List.length_set];omega))) ?_
 refine Cx.nil ⟨rfl,?_⟩
 refine BP.done (BG.cons (BG.cons (BG.map _))) (Fin.go (Dp 0 2 3 9 rfl (Tr.Ax (cm rfl (cm rfl (Ch.nil (Fin.block ?_)))))))
 exact Fin.BW (2*r+1) (_)  (⟨⟨⟨by omega,by omega⟩,by simp only [List.length_set];exact Gp,by rw [←DQ];exact MY Su hf (by omega) (u:=first+(2*r+1)) (v:=first+(2*r+1)+1) rfl rfl (by omega) (by omega) (Int.not_lt.2 (by assumption)) (by omega) (by omega) (by omega) (by omega) (by assumption)⟩,by omega⟩) ⟨ke rfl,ke rfl,ke rfl,ke rfl,trivial⟩ (fun _ _ h=>h)
 iterate 14 refine cnt h2 rfl ?_
 refine co rfl (JE rfl rfl h2 rfl) (Ch.nil (Fin.go (EZ 0 2 3 8 9 36 rfl (Tr.cond rfl (fun h=>nomatch h) (fun _=> ?_)))))
 refine Tr.skip (Fin.go (Tr.seq (Tr.seq (Tr.HT mixed (by kernel_rfl) (cm rfl (cm rfl (cm rfl (MM rfl rfl rfl rfl (by omega) (co rfl (AA rfl underlying22 A4 (vl rfl) (vl rfl) (by omega) (by omega)) (co rfl (As 0 rfl (AS rfl Au (vl rfl) (AR (g:=(fun t:Int=>int t)) (by omega)))) (cm rfl (cm rfl (cm rfl ?_)))))))))))))
 refine MM rfl rfl rfl rfl (by omega) (co rfl (AA rfl underlying22 A4 (vl rfl) (vl rfl) (by omega) (by omega)) (co rfl (As 0 rfl (AS rfl Au (vl rfl) (AR (g:=(fun t:Int=>int t)) (by omega)))) (co rfl (Ah rfl (CG hc) ⟨ke rfl,ke rfl,trivial⟩) (co rfl (Dt rfl (vl rfl)) (Ch.nil (Fin.go (EZ 0 2 3 8 9 52 rfl ?_)))))))
 refine Tr.cn rfl ?_ ?_<;>intro h6 q6
 refine Tr.ret (Fin.AF (Fin.AK (Fin.AF (Fin.AK ?_))))
 refine Fin.Bl (Gl c hi first lo l) 0 rfl (⟨by omega,by rw [←DQ];exact Jr Su hf (by omega) (by omega) (x:=first+r) (y:=first+(2*r+1)) rfl rfl (by omega) (by omega) (Int.not_lt.2 (by assumption))⟩) ?_
 exact Fin.Ef rfl
 refine Tr.skip (Fin.go (Tr.seq (Tr.Dv mixed [none,none,none,none,none,none,none,none,none,none,none,none,none,some (0,0,false,0),none,none,none,none,none,some (0,0,false,0),none,some (0,0,true,0),none,some (0,0,true,0)] (by kernel_rfl) (xm rfl (xm rfl (xm rfl ?_))))))
 refine xo rfl (fun _=>BR rfl (vl rfl) (vl rfl) ?hin) ?_;case hin=>unfold C7;omega
 refine xm rfl (xm rfl (xm rfl ?_))
 refine xo rfl (fun _=>BR rfl (vl rfl) (vl rfl) ?hin) ?_;case hin=>unfold C7;omega
 refine xm rfl (xm rfl (xm rfl ?_))
 refine xo rfl (fun _=>BR rfl (vl rfl) (vl rfl) ?hin) ?_;case hin=>unfold C7;omega
 refine xo rfl (fun _=>AA rfl underlying22 A4 (vl rfl) (vl rfl) (by omega) (by omega)) (C0 0 rfl rfl (AS rfl Au (vl rfl) (AR (g:=(fun t:Int=>int t)) (by omega))) (xm rfl (xm rfl (xm rfl ?_))))
 refine xo rfl (fun _=>BR rfl (vl rfl) (vl rfl) ?hin) ?_;case hin=>unfold C7;omega
 refine xo rfl (fun _=>AA rfl underlying22 A4 (vl rfl) (vl rfl) (by omega) (by omega)) (C0 0 rfl rfl (AS rfl Au (vl rfl) (AR (g:=(fun t:Int=>int t)) (by omega))) (xo rfl (fun _=>AA rfl underlying22 A4 (vl rfl) (vl rfl) (by omega) (by omega)) ?_))
 refine Cx.CY 0 rfl rfl (AW rfl rfl (vl rfl) (Vo rfl) A4 rfl (by rw [AV (sz:=1) (fun _=>rfl)];omega) (AQ (f:=(fun t:Int=>[int t])) (fun _=>rfl) (by omega))) ?_
 refine xo rfl (fun _=>AA rfl underlying22 A4 (vl rfl) (vl rfl) (by omega) (by omega)) ?_
 refine Cx.CY 0 rfl rfl (AW rfl rfl (vl rfl) (Vo rfl) A4 rfl (by rw [AV (sz:=1) (fun _=>rfl)];simp only [List.length_set];omega) (AQ (f:=(fun t:Int=>[int t])) (fun _=>rfl) (by simp only [List.length_set];omega))) ?_
 refine Cx.nil ⟨rfl,?_⟩
 refine BP.done (BG.cons (BG.cons (BG.map _))) (Fin.go (Dp 0 2 3 9 rfl (Tr.Ax (cm rfl (cm rfl (Ch.nil (Fin.block ?_)))))))
 exact Fin.BW (2*r+1) (_)  (⟨⟨⟨by omega,by omega⟩,by simp only [List.length_set];exact Gp,by rw [←DQ];exact MX Su hf (by omega) (by omega) (by omega) (by omega) (by omega) (by omega) (by assumption)⟩,by omega⟩) ⟨ke rfl,ke rfl,ke rfl,ke rfl,trivial⟩ (fun _ _ h=>h)
theorem S4 {l:List (Int)} {c:Int×Int→Int} {b0 cap len:Nat} {sp:List Value} {a b:Int} (hc:∀x y,c (x,y)=Ar x y) (Ep:l.length=len) (Gn:len≤1000000) (hw:Go.Sort.SWO (Bp c)) (h0:0≤a) (hab:a≤b) (hb:b≤len):BQ prog 202 [is (.slice (some ⟨b0,0,none⟩) len cap),int a,int b] (CC) (AD true b0 3 ((l.map (fun t:Int=>[int t])).flatten++sp.map is)) (fun _=>Bw b0 3 (fun t:Int=>[int t]) (CS c a b l) (sp.map is)):=by
 refine BQ.of func202 rfl rfl (by exact Nb rfl) fun M0 w0 S rs M1 w1=> ?_
 have hq:IntKind.i64.wrap ((b-a-1).tdiv 2)=(((b.toNat-a.toNat-1)/2:Nat):Int):=Md (by omega) (by omega) (by omega)
 iterate 4 refine ac ?_
 refine co rfl (CX rfl (vl rfl) (vl rfl) (by omega)) ?_
 refine ac ?_
 refine Tr.block (Tr.CU [(0,_),(6,_),(7,_),(8,_)] ⟨ke rfl,ke rfl,ke rfl,ke rfl,trivial⟩ (fun (i:Int) (st:List (Int))=>[(9,int i)]) (fun (i:Int) (st:List (Int))=>Hp M0 w0 S (AD true b0 3 ((st.map (fun t:Int=>[int t])).flatten++sp.map is)::Ai M1 w1::rs)) (fun (i:Int) (st:List (Int))=>(-1≤i∧i≤b-a)∧st.length=len∧Go.Sort.heapBuild (Bp c) (b-a).toNat a.toNat (i+1).toNat st.toArray=Go.Sort.heapBuild (Bp c) (b-a).toNat a.toNat ((b.toNat-a.toNat-1)/2+1) l.toArray) (fun (i:Int) (st:List (Int))=>(i+1).toNat) ((((b.toNat-a.toNat-1)/2:Nat):Int)) (l)  (⟨⟨by omega,by omega⟩,by omega,by rw [show ((((b.toNat-a.toNat-1)/2:Nat):Int)+1).toNat=(b.toNat-a.toNat-1)/2+1 by omega]⟩) ⟨⟨_,rfl,int_eq hq⟩,trivial⟩ (fun _ _ h=>h) ?_)
 rintro i st  ⟨⟨hi1,hi2⟩,Gp,DQ⟩
 refine an ?_ ?_<;>intro h1 q1
 have hib:0≤i:=of_decide_eq_true h1
 refine ac ?_
 refine ap ?_
 refine TO.DB 0 rfl rfl (by decide) (AU rfl rfl (by decide) rfl (M_ hc (by omega) (by omega) (by omega) (by omega) (by omega) (by omega)) ⟨ke rfl,ke rfl,ke rfl,ke rfl,trivial⟩) (TO.B9 0 rfl fun t1 Fo=> ?_)
 have HW:=Fo.len
 refine ap ?_
 refine ac ?_
 exact Fin.BW (i-1) (t1)  (⟨⟨⟨by omega,by omega⟩,by omega,by rw [Fo.2];exact (Oc hib).trans DQ⟩,by omega⟩) ⟨ke rfl,ke rfl,ke rfl,ke rfl,ke rfl,trivial⟩ (fun _ _ h=>h)
 have hib:¬0≤i:=of_decide_eq_false h1
 rw [MZ hib] at DQ
 refine a2 ?_
 refine Tr.block (Tr.CU [(0,_),(6,_),(7,_)] ⟨ke rfl,ke rfl,ke rfl,trivial⟩ (fun (i2:Int) (D5:List (Int))=>[(10,int i2)]) (fun (i2:Int) (D5:List (Int))=>Hp M0 w0 S (AD true b0 3 ((D5.map (fun t:Int=>[int t])).flatten++sp.map is)::Ai M1 w1::rs)) (fun (i2:Int) (D5:List (Int))=>(-1≤i2∧i2<b-a)∧D5.length=len∧Go.Sort.heapPop (Bp c) a.toNat (i2+1).toNat D5.toArray=Go.Sort.heapPop (Bp c) a.toNat (b-a).toNat st.toArray) (fun (i2:Int) (D5:List (Int))=>(i2+1).toNat) (b-a-1) (st)  (⟨⟨by omega,by omega⟩,by omega,by rw [show (b-a-1+1).toNat=(b-a).toNat by omega]⟩) ⟨ke rfl,trivial⟩ (fun _ _ h=>h) ?_)
 rintro i2 D5  ⟨⟨TT,hj2⟩,Lb,IB⟩
 refine an ?_ ?_<;>intro h2 q2
 have Qe:0≤i2:=of_decide_eq_true h2
 refine ac ?_
 refine Tr.seq (Tr.block (Tr.seq (Tr.rx ?_)))
 refine ay ?_
 refine xo rfl (fun _=>AA rfl underlying22 A4 (vl rfl) (vl rfl) (by omega) (by omega)) (C0 0 rfl rfl (AS rfl Au (vl rfl) (AR (g:=(fun t:Int=>int t)) (by omega))) ?_)
 refine ay ?_
 refine xo rfl (fun _=>AA rfl underlying22 A4 (vl rfl) (vl rfl) (by omega) (by omega)) (C0 0 rfl rfl (AS rfl Au (vl rfl) (AR (g:=(fun t:Int=>int t)) (by omega))) (xo rfl (fun _=>AA rfl underlying22 A4 (vl rfl) (vl rfl) (by omega) (by omega)) ?_))
 refine Cx.CY 0 rfl rfl (AW rfl rfl (vl rfl) (Vo rfl) A4 rfl (by rw [AV (sz:=1) (fun _=>rfl)];omega) (AQ (f:=(fun t:Int=>[int t])) (fun _=>rfl) (by omega))) ?_
 refine xo rfl (fun _=>AA rfl underlying22 A4 (vl rfl) (vl rfl) (by omega) (by omega)) ?_
 refine Cx.CY 0 rfl rfl (AW rfl rfl (vl rfl) (Vo rfl) A4 rfl (by rw [AV (sz:=1) (fun _=>rfl)];simp only [List.length_set];omega) (AQ (f:=(fun t:Int=>[int t])) (fun _=>rfl) (by simp only [List.length_set];omega))) ?_
 refine Cx.nil ⟨by kernel_rfl,?_⟩
 refine BP.done Ic (Fin.go (Dp 0 6 7 10 rfl ?_))
 refine ap ?_
 refine TO.DB 0 rfl rfl (by decide) (AU rfl rfl (by decide) rfl (M_ hc (by simp only [List.length_set];omega) (by omega) (by omega) (by omega) (by omega) (by omega)) ⟨ke rfl,ke rfl,ke rfl,ke rfl,trivial⟩) ?_
 refine TO.B9 0 rfl fun t2 Jq=> ?_
 have Qf:=Jq.len
 refine ap ?_
 refine ac ?_
 exact Fin.BW (i2-1) (t2)  (⟨⟨⟨by omega,by omega⟩,by simp only [List.length_set] at Qf;omega,by rw [Jq.2,sw (by omega) (by omega),show (a+i2).toNat=a.toNat+i2.toNat by omega];exact (UE Qe).trans IB⟩,by omega⟩) ⟨ke rfl,ke rfl,ke rfl,ke rfl,trivial⟩ (fun _ _ h=>h)
 have Qe:¬0≤i2:=of_decide_eq_false h2
 rw [RR Qe] at IB
 refine Tr.exit (Fin.AG (Fin.AG (Fin.AP ?_)))
 refine Fin.Bl (CS c a b l) 0 rfl (by unfold CS;rw [IB,DQ];exact heap_holds hw l.toArray h0 hab (by simp only [List.size_toArray];omega)) ?_
 exact Fin.FY rfl
theorem Vn {l:List (Int)} {c:Int×Int→Int} {b0 cap len:Nat} {sp:List Value} {a b:Int} (hc:∀x y,c (x,y)=Ar x y) (Ep:l.length=len) (Gn:len≤1000000) (h0:0≤a) (hab:a<b) (hb:b≤len):BQ prog 205 [is (.slice (some ⟨b0,0,none⟩) len cap),int a,int b] (CC) (AD true b0 3 ((l.map (fun t:Int=>[int t])).flatten++sp.map is)) (fun _=>Bw b0 3 (fun t:Int=>[int t]) (B6 a b l) (sp.map is)):=by
 refine BQ.of func205 rfl rfl (by exact Nb rfl) fun M0 w0 S rs M1 w1=> ?_
 refine a2 ?_
 refine Tr.block (Tr.Dy [(0,_)] ⟨ke rfl,trivial⟩ (fun (i:Int) (j:Int) (st:List (Int))=>[(6,int i),(7,int j)]) (fun (i:Int) (j:Int) (st:List (Int))=>Hp M0 w0 S (AD true b0 3 ((st.map (fun t:Int=>[int t])).flatten++sp.map is)::Ai M1 w1::rs)) (fun (i:Int) (j:Int) (st:List (Int))=>(a≤i∧j<b∧ -1≤j∧i≤b)∧st.length=len∧B6 a b l st) (fun (i:Int) (j:Int) (st:List (Int))=>(j-i).toNat) (a) (b-1) (l)  (⟨⟨by omega,by omega,by omega,by omega⟩,by omega,B6.refl _ _ _⟩) ⟨ke rfl,ke rfl,trivial⟩ (fun _ _ h=>h) ?_)
 rintro i j st  ⟨⟨hi1,hi2,kJ,hi4⟩,Gp,DQ⟩
 refine an ?_ ?_<;>intro h1 q1
 have hij:i<j:=of_decide_eq_true h1
 refine ac ?_
 refine Tr.block (Tr.seq (Tr.rx ?_))
 refine ay ?_
 refine xo rfl (fun _=>AA rfl underlying22 A4 (vl rfl) (vl rfl) (by omega) (by omega)) (C0 0 rfl rfl (AS rfl Au (vl rfl) (AR (g:=(fun t:Int=>int t)) (by omega))) ?_)
 refine ay ?_
 refine xo rfl (fun _=>AA rfl underlying22 A4 (vl rfl) (vl rfl) (by omega) (by omega)) (C0 0 rfl rfl (AS rfl Au (vl rfl) (AR (g:=(fun t:Int=>int t)) (by omega))) (xo rfl (fun _=>AA rfl underlying22 A4 (vl rfl) (vl rfl) (by omega) (by omega)) ?_))
 refine Cx.CY 0 rfl rfl (AW rfl rfl (vl rfl) (Vo rfl) A4 rfl (by rw [AV (sz:=1) (fun _=>rfl)];omega) (AQ (f:=(fun t:Int=>[int t])) (fun _=>rfl) (by omega))) ?_
 refine xo rfl (fun _=>AA rfl underlying22 A4 (vl rfl) (vl rfl) (by omega) (by omega)) ?_
 refine Cx.CY 0 rfl rfl (AW rfl rfl (vl rfl) (Vo rfl) A4 rfl (by rw [AV (sz:=1) (fun _=>rfl)];simp only [List.length_set];omega) (AQ (f:=(fun t:Int=>[int t])) (fun _=>rfl) (by simp only [List.length_set];omega))) ?_
 refine Cx.nil ⟨by kernel_rfl,?_⟩
 refine BP.done Ic (Fin.go (Py 0 6 7 rfl ?_))
 refine a2 ?_
 exact Fin.Cj (i+1) (j-1) (_)  (⟨⟨⟨by omega,by omega,by omega,by omega⟩,by simp only [List.length_set];exact Gp,DQ.swap (by omega) (by omega) (by omega) (by omega) (by omega) (by omega) (by omega)⟩,by omega⟩) ⟨ke rfl,ke rfl,ke rfl,trivial⟩ (fun _ _ h=>h)
 have:=h1
 refine Tr.exit (Fin.AG (Fin.AG (Fin.AP (Fin.Bl (B6 a b l) 0 rfl (DQ) (Fin.FY rfl)))))
theorem Vp {l:List (Int)} {c:Int×Int→Int} {b0 cap len:Nat} {sp:List Value} {a b pv:Int} (hc:∀x y,c (x,y)=Ar x y) (Ep:l.length=len) (Gn:len≤1000000) (h0:0≤a) (hab:a<b) (hb:b≤len) (Fo:a≤pv) (Jq:pv<b):BQ prog 207 [is (.slice (some ⟨b0,0,none⟩) len cap),int a,int b,int pv] (int ((PE c a b pv l).1:Nat)) (AD true b0 3 ((l.map (fun t:Int=>[int t])).flatten++sp.map is)) (fun _=>Bw b0 3 (fun t:Int=>[int t]) (K_ c a b pv l) (sp.map is)):=by
 refine BQ.of func207 rfl rfl (by exact Nb rfl) fun M0 w0 S rs M1 w1=> ?_
 have E8:a.toNat<l.length:=by omega
 have D7:pv.toNat<l.length:=by omega
 refine ac ?_
 refine Tr.seq (Tr.rx ?_)
 refine ay ?_
 refine xo rfl (fun _=>AA rfl underlying22 A4 (vl rfl) (vl rfl) (by omega) (by omega)) (C0 0 rfl rfl (AS rfl Au (vl rfl) (AR (g:=(fun t:Int=>int t)) (by omega))) ?_)
 refine ay ?_
 refine xo rfl (fun _=>AA rfl underlying22 A4 (vl rfl) (vl rfl) (by omega) (by omega)) (C0 0 rfl rfl (AS rfl Au (vl rfl) (AR (g:=(fun t:Int=>int t)) (by omega))) (xo rfl (fun _=>AA rfl underlying22 A4 (vl rfl) (vl rfl) (by omega) (by omega)) ?_))
 refine Cx.CY 0 rfl rfl (AW rfl rfl (vl rfl) (Vo rfl) A4 rfl (by rw [AV (sz:=1) (fun _=>rfl)];omega) (AQ (f:=(fun t:Int=>[int t])) (fun _=>rfl) (by omega))) ?_
 refine xo rfl (fun _=>AA rfl underlying22 A4 (vl rfl) (vl rfl) (by omega) (by omega)) ?_
 refine Cx.CY 0 rfl rfl (AW rfl rfl (vl rfl) (Vo rfl) A4 rfl (by rw [AV (sz:=1) (fun _=>rfl)];simp only [List.length_set];omega) (AQ (f:=(fun t:Int=>[int t])) (fun _=>rfl) (by simp only [List.length_set];omega))) ?_
 refine Cx.nil ⟨by kernel_rfl,?_⟩
 refine BP.done Ic (Fin.go (Py 0 1 2 rfl ?_))
 refine ac ?_
 refine Tr.seq (Tr.block ?_)
 refine Tr.Dy [(0,_),(1,_)] ⟨ke rfl,ke rfl,trivial⟩ (fun (i:Int) (j:Int) (st:List (Int))=>[(9,int i),(10,int j)]) (fun (i:Int) (j:Int) (st:List (Int))=>Hp M0 w0 S (AD true b0 3 ((st.map (fun t:Int=>[int t])).flatten++sp.map is)::Ai M1 w1::rs)) (fun (i:Int) (j:Int) (st:List (Int))=>((a<i∧i≤b)∧a≤j∧j<b)∧st.length=len∧Yl c a i j st.toArray=PE c a b pv l) (fun (i:Int) (j:Int) (st:List (Int))=>(j-i+2).toNat) (a+1) (b-1) (((l.set a.toNat (l[pv.toNat]'D7)).set pv.toNat (l[a.toNat]'E8)))  (⟨⟨⟨by omega,by omega⟩,by omega,by omega⟩,by simp only [List.length_set];exact Ep,Od h0 hab E8 D7⟩) ⟨ke rfl,ke rfl,trivial⟩ (fun _ _ h=>h) ?_
 rintro i j st  ⟨⟨⟨hi1,hi2⟩,TT,hj2⟩,Gp,DQ⟩
 refine Tr.block (Dp 0 1 9 10 rfl (Tr.Gr [0,1,10] [(9,ex fun y:Int=>fact ((i≤y∧y≤b)∧True∧y.toNat=Go.Sort.scanUp (qU c st.toArray a) st.toArray (j).toNat (i).toNat) (int y))] (True) ?_ (fun h1=> ?_)))
 refine Tr.block (Tr.BU [(0,_),(1,_),(10,_)] (OK rfl) (fun y:Int=>[(9,int y)]) (fun y:Int=>(i≤y∧y≤b)∧Go.Sort.scanUp (qU c st.toArray a) st.toArray (j).toNat (y).toNat=Go.Sort.scanUp (qU c st.toArray a) st.toArray (j).toNat (i).toNat) (fun y:Int=>(b-y).toNat) i (⟨⟨by omega,by omega⟩,rfl⟩) ⟨ke rfl,trivial⟩ ?_)
 rintro y ⟨⟨PF,PG⟩,DE⟩
 refine ag ?_ ?_<;>intro h2 q2
 refine ac ?_
 refine cy h2 rfl (AA rfl underlying22 A4 (vl rfl) (vl rfl) (by omega) (by omega)) (cy h2 rfl (As 0 rfl (AS rfl Au (vl rfl) (AR (g:=(fun t:Int=>int t)) (by omega)))) ?_)
 refine ac ?_
 refine cy h2 rfl (AA rfl underlying22 A4 (vl rfl) (vl rfl) (by omega) (by omega)) (cy h2 rfl (As 0 rfl (AS rfl Au (vl rfl) (AR (g:=(fun t:Int=>int t)) (by omega)))) (cy h2 rfl (EE (CG hc) rfl rfl rfl) ?_))
 refine ac ?_
 refine EL 0 1 9 10 43 rfl ?_
 refine Tr.cn rfl ?_ ?_<;>intro h3 q3
 have:=h3
 refine a2 ?_
 exact Fin.AE (y+1) ⟨⟨⟨by omega,by omega⟩,by rw [Me (by omega) (by omega) (by omega) (dL (by omega) (by omega) (Int.not_lt.2 (by assumption)))];exact DE⟩,by omega⟩ (KH rfl)
 have:=h3
 refine Tr.exit (Fin.AG (Fin.AG (Fin.AP ?_)))
 exact Fin.AE () trivial ⟨⟨_,rfl,BD _ (Aj ⟨⟨by omega,by omega⟩,trivial,by rw [←DE];exact (F5 (by omega) (dM (by omega) (by omega) (by assumption))).symm⟩ (Lr))⟩,ke rfl,ke rfl,ke rfl,trivial⟩
 refine ac ?_
 refine EL 0 1 9 10 43 rfl (Tr.cond rfl (fun h=>nomatch h) (fun _=> ?_))
 refine Tr.exit (Fin.AG (Fin.AG (Fin.AP ?_)))
 exact Fin.AE () trivial ⟨⟨_,rfl,BD _ (Aj ⟨⟨by omega,by omega⟩,trivial,by rw [←DE];exact (F4 (by omega) (by omega)).symm⟩ (Lr))⟩,ke rfl,ke rfl,ke rfl,trivial⟩
 refine Tr.ex 9 rfl (fun i2=>Tr.fact 9 rfl fun Qg=> ?_)
 obtain ⟨VQ,VR,FD⟩:=Qg
 refine Dp 0 1 9 10 rfl (Tr.Gr [0,1,9] [(10,ex fun y:Int=>fact ((a≤y∧y≤j)∧True∧y.toNat=Go.Sort.scanDown (qD c st.toArray a) st.toArray (i2).toNat (j).toNat) (int y))] (True) ?_ (fun h4=> ?_))
 refine Tr.block (Tr.BU [(0,_),(1,_),(9,_)] (OK rfl) (fun y:Int=>[(10,int y)]) (fun y:Int=>(a≤y∧y≤j)∧Go.Sort.scanDown (qD c st.toArray a) st.toArray (i2).toNat (y).toNat=Go.Sort.scanDown (qD c st.toArray a) st.toArray (i2).toNat (j).toNat) (fun y:Int=>(y-a).toNat) j (⟨⟨by omega,by omega⟩,rfl⟩) ⟨ke rfl,trivial⟩ ?_)
 rintro y ⟨⟨PI,PJ⟩,DF⟩
 refine ag ?_ ?_<;>intro h5 q5
 refine ac ?_
 refine cy h5 rfl (AA rfl underlying22 A4 (vl rfl) (vl rfl) (by omega) (by omega)) (cy h5 rfl (As 0 rfl (AS rfl Au (vl rfl) (AR (g:=(fun t:Int=>int t)) (by omega)))) ?_)
 refine ac ?_
 refine cy h5 rfl (AA rfl underlying22 A4 (vl rfl) (vl rfl) (by omega) (by omega)) (cy h5 rfl (As 0 rfl (AS rfl Au (vl rfl) (AR (g:=(fun t:Int=>int t)) (by omega)))) (cy h5 rfl (EE (CG hc) rfl rfl rfl) ?_))
 refine ac ?_
 refine EL 0 1 9 10 59 rfl ?_
 refine Tr.cn rfl ?_ ?_<;>intro h6 q6
 have:=h6
 refine a2 ?_
 exact Fin.AE (y-1) ⟨⟨⟨by omega,by omega⟩,by rw [Mf (by omega) (by omega) (by omega) (dN (by omega) (by omega) (by assumption))];exact DF⟩,by omega⟩ (KH rfl)
 have:=h6
 refine Tr.exit (Fin.AG (Fin.AG (Fin.AP ?_)))
 exact Fin.AE () trivial ⟨⟨_,rfl,BD _ (Aj ⟨⟨by omega,by omega⟩,trivial,by rw [←DF];exact (F7 (by omega) (dO (by omega) (by omega) (Int.not_lt.2 (by assumption)))).symm⟩ (Lr))⟩,ke rfl,ke rfl,ke rfl,trivial⟩
 refine ac ?_
 refine EL 0 1 9 10 59 rfl (Tr.cond rfl (fun h=>nomatch h) (fun _=> ?_))
 refine Tr.exit (Fin.AG (Fin.AG (Fin.AP ?_)))
 exact Fin.AE () trivial ⟨⟨_,rfl,BD _ (Aj ⟨⟨by omega,by omega⟩,trivial,by rw [←DF];exact (F6 (by omega) (by omega)).symm⟩ (Lr))⟩,ke rfl,ke rfl,ke rfl,trivial⟩
 refine Tr.ex 10 rfl (fun j2=>Tr.fact 10 rfl fun Qh=> ?_)
 obtain ⟨VS,VT,FE⟩:=Qh
 refine an ?_ ?_<;>intro h7 q7
 refine a2 ?_
 refine Tr.ret (Fin.Bl (K_ c a b pv l) 0 rfl (⟨by omega,by rw [DQ.symm.trans (IZ FD FE (by omega) (by omega))]⟩) ?_)
 have hE:=DQ.symm.trans (IZ FD FE (by omega) (by omega))
 refine Fin.Ca rfl rfl ?_ (fun _ _ _ _=>rfl)
 · exact int_eq (by rw [hE];show i2=((i2.toNat:Nat):Int);omega)
 refine ac ?_
 refine Tr.seq (Tr.rx ?_)
 refine ay ?_
 refine xo rfl (fun _=>AA rfl underlying22 A4 (vl rfl) (vl rfl) (by omega) (by omega)) (C0 0 rfl rfl (AS rfl Au (vl rfl) (AR (g:=(fun t:Int=>int t)) (by omega))) ?_)
 refine ay ?_
 refine xo rfl (fun _=>AA rfl underlying22 A4 (vl rfl) (vl rfl) (by omega) (by omega)) (C0 0 rfl rfl (AS rfl Au (vl rfl) (AR (g:=(fun t:Int=>int t)) (by omega))) (xo rfl (fun _=>AA rfl underlying22 A4 (vl rfl) (vl rfl) (by omega) (by omega)) ?_))
 refine Cx.CY 0 rfl rfl (AW rfl rfl (vl rfl) (Vo rfl) A4 rfl (by rw [AV (sz:=1) (fun _=>rfl)];omega) (AQ (f:=(fun t:Int=>[int t])) (fun _=>rfl) (by omega))) ?_
 refine xo rfl (fun _=>AA rfl underlying22 A4 (vl rfl) (vl rfl) (by omega) (by omega)) ?_
 refine Cx.CY 0 rfl rfl (AW rfl rfl (vl rfl) (Vo rfl) A4 rfl (by rw [AV (sz:=1) (fun _=>rfl)];simp only [List.length_set];omega) (AQ (f:=(fun t:Int=>[int t])) (fun _=>rfl) (by simp only [List.length_set];omega))) ?_
 refine Cx.nil ⟨by kernel_rfl,?_⟩
 refine BP.done Ic (Fin.go (Dp 0 1 9 10 rfl ?_))
 refine a2 ?_
 exact Fin.Cj (i2+1) (j2-1) (_)  (⟨⟨⟨⟨by omega,by omega⟩,by omega,by omega⟩,by simp only [List.length_set];exact Gp,(UG FD FE (by omega) (by omega) (by omega) (by omega)).trans DQ⟩,by omega⟩) ⟨ke rfl,ke rfl,ke rfl,ke rfl,trivial⟩ (fun _ _ h=>h)
theorem NA {l:List (Int)} {c:Int×Int→Int} {b0 cap len:Nat} {sp:List Value} {a b pv:Int} (hc:∀x y,c (x,y)=Ar x y) (Ep:l.length=len) (Gn:len≤1000000) (h0:0≤a) (hab:a<b) (hb:b≤len) (Fo:a≤pv) (Jq:pv<b):BQ prog 208 [is (.slice (some ⟨b0,0,none⟩) len cap),int a,int b,int pv] (ex fun z:Bool=>fact True (DT [int ((PA c a b pv l).1:Nat),bool z])) (AD true b0 3 ((l.map (fun t:Int=>[int t])).flatten++sp.map is)) (fun _=>Bw b0 3 (fun t:Int=>[int t]) (Ia c a b pv l) (sp.map is)):=by
 refine BQ.of func208 rfl rfl (by exact Nb rfl) fun M0 w0 S rs M1 w1=> ?_
 have E8:a.toNat<l.length:=by omega
 have D7:pv.toNat<l.length:=by omega
 have hS1:((l.set a.toNat (l[pv.toNat]'D7)).set pv.toNat (l[a.toNat]'E8)).length=len:=by simp only [List.length_set];exact Ep
 refine ac ?_
 refine Tr.seq (Tr.rx ?_)
 refine ay ?_
 refine xo rfl (fun _=>AA rfl underlying22 A4 (vl rfl) (vl rfl) (by omega) (by omega)) (C0 0 rfl rfl (AS rfl Au (vl rfl) (AR (g:=(fun t:Int=>int t)) (by omega))) ?_)
 refine ay ?_
 refine xo rfl (fun _=>AA rfl underlying22 A4 (vl rfl) (vl rfl) (by omega) (by omega)) (C0 0 rfl rfl (AS rfl Au (vl rfl) (AR (g:=(fun t:Int=>int t)) (by omega))) (xo rfl (fun _=>AA rfl underlying22 A4 (vl rfl) (vl rfl) (by omega) (by omega)) ?_))
 refine Cx.CY 0 rfl rfl (AW rfl rfl (vl rfl) (Vo rfl) A4 rfl (by rw [AV (sz:=1) (fun _=>rfl)];omega) (AQ (f:=(fun t:Int=>[int t])) (fun _=>rfl) (by omega))) ?_
 refine xo rfl (fun _=>AA rfl underlying22 A4 (vl rfl) (vl rfl) (by omega) (by omega)) ?_
 refine Cx.CY 0 rfl rfl (AW rfl rfl (vl rfl) (Vo rfl) A4 rfl (by rw [AV (sz:=1) (fun _=>rfl)];simp only [List.length_set];omega) (AQ (f:=(fun t:Int=>[int t])) (fun _=>rfl) (by simp only [List.length_set];omega))) ?_
 refine Cx.nil ⟨by kernel_rfl,?_⟩
 refine BP.done Ic (Fin.go (Py 0 1 2 rfl ?_))
 refine ac ?_
 refine Dp 0 1 10 11 rfl (Tr.Gr [0,1,11] [(10,ex fun y:Int=>fact (((a+1)≤y∧y≤b)∧True∧y.toNat=Go.Sort.scanUp (pU c ((l.set a.toNat (l[pv.toNat]'D7)).set pv.toNat (l[a.toNat]'E8)).toArray a) ((l.set a.toNat (l[pv.toNat]'D7)).set pv.toNat (l[a.toNat]'E8)).toArray ((b-1)).toNat ((a+1)).toNat) (int y))] (True) ?_ (fun h1=> ?_))
 refine Tr.block (Tr.BU [(0,_),(1,_),(11,_)] (OK rfl) (fun y:Int=>[(10,int y)]) (fun y:Int=>((a+1)≤y∧y≤b)∧Go.Sort.scanUp (pU c ((l.set a.toNat (l[pv.toNat]'D7)).set pv.toNat (l[a.toNat]'E8)).toArray a) ((l.set a.toNat (l[pv.toNat]'D7)).set pv.toNat (l[a.toNat]'E8)).toArray ((b-1)).toNat (y).toNat=Go.Sort.scanUp (pU c ((l.set a.toNat (l[pv.toNat]'D7)).set pv.toNat (l[a.toNat]'E8)).toArray a) ((l.set a.toNat (l[pv.toNat]'D7)).set pv.toNat (l[a.toNat]'E8)).toArray ((b-1)).toNat ((a+1)).toNat) (fun y:Int=>(b-y).toNat) (a+1) (⟨⟨by omega,by omega⟩,rfl⟩) ⟨ke rfl,trivial⟩ ?_)
 rintro y ⟨⟨PF,PG⟩,DE⟩
 refine ag ?_ ?_<;>intro h2 q2
 refine ac ?_
 refine cy h2 rfl (AA rfl underlying22 A4 (vl rfl) (vl rfl) (by omega) (by omega)) (cy h2 rfl (As 0 rfl (AS rfl Au (vl rfl) (AR (g:=(fun t:Int=>int t)) (by omega)))) ?_)
 refine ac ?_
 refine cy h2 rfl (AA rfl underlying22 A4 (vl rfl) (vl rfl) (by omega) (by omega)) (cy h2 rfl (As 0 rfl (AS rfl Au (vl rfl) (AR (g:=(fun t:Int=>int t)) (by omega)))) (cy h2 rfl (EE (CG hc) rfl rfl rfl) ?_))
 refine ac ?_
 refine EL 0 1 10 11 43 rfl ?_
 refine Tr.cn rfl ?_ ?_<;>intro h3 q3
 have:=h3
 refine a2 ?_
 exact Fin.AE (y+1) ⟨⟨⟨by omega,by omega⟩,by rw [Me (by omega) (by omega) (by omega) (XE (by omega) (by omega) (by assumption))];exact DE⟩,by omega⟩ (KH rfl)
 have:=h3
 refine Tr.exit (Fin.AG (Fin.AG (Fin.AP ?_)))
 exact Fin.AE () trivial ⟨⟨_,rfl,BD _ (Aj ⟨⟨by omega,by omega⟩,trivial,by rw [←DE];exact (F5 (by omega) (XF (by omega) (by omega) (Int.not_lt.2 (by assumption)))).symm⟩ (Lr))⟩,ke rfl,ke rfl,ke rfl,trivial⟩
 refine ac ?_
 refine EL 0 1 10 11 43 rfl (Tr.cond rfl (fun h=>nomatch h) (fun _=> ?_))
 refine Tr.exit (Fin.AG (Fin.AG (Fin.AP ?_)))
 exact Fin.AE () trivial ⟨⟨_,rfl,BD _ (Aj ⟨⟨by omega,by omega⟩,trivial,by rw [←DE];exact (F4 (by omega) (by omega)).symm⟩ (Lr))⟩,ke rfl,ke rfl,ke rfl,trivial⟩
 refine Tr.ex 10 rfl (fun i1=>Tr.fact 10 rfl fun aB=> ?_)
 obtain ⟨fF,fG,Lc⟩:=aB
 refine Dp 0 1 10 11 rfl (Tr.Gr [0,1,10] [(11,ex fun y:Int=>fact ((a≤y∧y≤(b-1))∧True∧y.toNat=Go.Sort.scanDown (pD c ((l.set a.toNat (l[pv.toNat]'D7)).set pv.toNat (l[a.toNat]'E8)).toArray a) ((l.set a.toNat (l[pv.toNat]'D7)).set pv.toNat (l[a.toNat]'E8)).toArray (i1).toNat ((b-1)).toNat) (int y))] (True) ?_ (fun h4=> ?_))
 refine Tr.block (Tr.BU [(0,_),(1,_),(10,_)] (OK rfl) (fun y:Int=>[(11,int y)]) (fun y:Int=>(a≤y∧y≤(b-1))∧Go.Sort.scanDown (pD c ((l.set a.toNat (l[pv.toNat]'D7)).set pv.toNat (l[a.toNat]'E8)).toArray a) ((l.set a.toNat (l[pv.toNat]'D7)).set pv.toNat (l[a.toNat]'E8)).toArray (i1).toNat (y).toNat=Go.Sort.scanDown (pD c ((l.set a.toNat (l[pv.toNat]'D7)).set pv.toNat (l[a.toNat]'E8)).toArray a) ((l.set a.toNat (l[pv.toNat]'D7)).set pv.toNat (l[a.toNat]'E8)).toArray (i1).toNat ((b-1)).toNat) (fun y:Int=>(y-a).toNat) (b-1) (⟨⟨by omega,by omega⟩,rfl⟩) ⟨ke rfl,trivial⟩ ?_)
 rintro y ⟨⟨PI,PJ⟩,DF⟩
 refine ag ?_ ?_<;>intro h5 q5
 refine ac ?_
 refine cy h5 rfl (AA rfl underlying22 A4 (vl rfl) (vl rfl) (by omega) (by omega)) (cy h5 rfl (As 0 rfl (AS rfl Au (vl rfl) (AR (g:=(fun t:Int=>int t)) (by omega)))) ?_)
 refine ac ?_
 refine cy h5 rfl (AA rfl underlying22 A4 (vl rfl) (vl rfl) (by omega) (by omega)) (cy h5 rfl (As 0 rfl (AS rfl Au (vl rfl) (AR (g:=(fun t:Int=>int t)) (by omega)))) (cy h5 rfl (EE (CG hc) rfl rfl rfl) ?_))
 refine ac ?_
 refine EL 0 1 10 11 60 rfl ?_
 refine Tr.cn rfl ?_ ?_<;>intro h6 q6
 have:=h6
 refine a2 ?_
 exact Fin.AE (y-1) ⟨⟨⟨by omega,by omega⟩,by rw [Mf (by omega) (by omega) (by omega) (XG (by omega) (by omega) (Int.not_lt.2 (by assumption)))];exact DF⟩,by omega⟩ (KH rfl)
 have:=h6
 refine Tr.exit (Fin.AG (Fin.AG (Fin.AP ?_)))
 exact Fin.AE () trivial ⟨⟨_,rfl,BD _ (Aj ⟨⟨by omega,by omega⟩,trivial,by rw [←DF];exact (F7 (by omega) (XH (by omega) (by omega) (by assumption))).symm⟩ (Lr))⟩,ke rfl,ke rfl,ke rfl,trivial⟩
 refine ac ?_
 refine EL 0 1 10 11 60 rfl (Tr.cond rfl (fun h=>nomatch h) (fun _=> ?_))
 refine Tr.exit (Fin.AG (Fin.AG (Fin.AP ?_)))
 exact Fin.AE () trivial ⟨⟨_,rfl,BD _ (Aj ⟨⟨by omega,by omega⟩,trivial,by rw [←DF];exact (F6 (by omega) (by omega)).symm⟩ (Lr))⟩,ke rfl,ke rfl,ke rfl,trivial⟩
 refine Tr.ex 11 rfl (fun j1=>Tr.fact 11 rfl fun aC=> ?_)
 obtain ⟨fH,fI,Ld⟩:=aC
 refine an ?_ ?_<;>intro h7 q7
 refine Tr.seq (Tr.rx ?_)
 refine ay ?_
 refine xo rfl (fun _=>AA rfl underlying22 A4 (vl rfl) (vl rfl) (by omega) (by omega)) (C0 0 rfl rfl (AS rfl Au (vl rfl) (AR (g:=(fun t:Int=>int t)) (by omega))) ?_)
 refine ay ?_
 refine xo rfl (fun _=>AA rfl underlying22 A4 (vl rfl) (vl rfl) (by omega) (by omega)) (C0 0 rfl rfl (AS rfl Au (vl rfl) (AR (g:=(fun t:Int=>int t)) (by omega))) (xo rfl (fun _=>AA rfl underlying22 A4 (vl rfl) (vl rfl) (by omega) (by omega)) ?_))
 refine Cx.CY 0 rfl rfl (AW rfl rfl (vl rfl) (Vo rfl) A4 rfl (by rw [AV (sz:=1) (fun _=>rfl)];omega) (AQ (f:=(fun t:Int=>[int t])) (fun _=>rfl) (by omega))) ?_
 refine xo rfl (fun _=>AA rfl underlying22 A4 (vl rfl) (vl rfl) (by omega) (by omega)) ?_
 refine Cx.CY 0 rfl rfl (AW rfl rfl (vl rfl) (Vo rfl) A4 rfl (by rw [AV (sz:=1) (fun _=>rfl)];simp only [List.length_set];omega) (AQ (f:=(fun t:Int=>[int t])) (fun _=>rfl) (by simp only [List.length_set];omega))) ?_
 refine Cx.nil ⟨by kernel_rfl,?_⟩
 refine BP.done Ic (Fin.go (CM 11 rfl ?_))
 refine ac ?_
 refine Tr.ret (Fin.AF (Fin.Bl (Ia c a b pv l) 0 rfl (⟨by simp only [List.length_set],(EV h0 hab E8 D7 (Df Lc Ld (by omega) (by omega)) (by omega) (by omega)).2⟩) (Fin.De [] rfl (A6.tmp rfl (Lr)) (A6.tmp rfl (Lr)) ?_)))
 · exact BD true (Aj trivial (Pr.le_of_eq (by rw [(EV h0 hab E8 D7 (Df Lc Ld (by omega) (by omega)) (by omega) (by omega)).1,Int.toNat_of_nonneg (by omega)])))
 refine ac ?_
 refine Tr.seq (Tr.rx ?_)
 refine ay ?_
 refine xo rfl (fun _=>AA rfl underlying22 A4 (vl rfl) (vl rfl) (by omega) (by omega)) (C0 0 rfl rfl (AS rfl Au (vl rfl) (AR (g:=(fun t:Int=>int t)) (by omega))) ?_)
 refine ay ?_
 refine xo rfl (fun _=>AA rfl underlying22 A4 (vl rfl) (vl rfl) (by omega) (by omega)) (C0 0 rfl rfl (AS rfl Au (vl rfl) (AR (g:=(fun t:Int=>int t)) (by omega))) (xo rfl (fun _=>AA rfl underlying22 A4 (vl rfl) (vl rfl) (by omega) (by omega)) ?_))
 refine Cx.CY 0 rfl rfl (AW rfl rfl (vl rfl) (Vo rfl) A4 rfl (by rw [AV (sz:=1) (fun _=>rfl)];omega) (AQ (f:=(fun t:Int=>[int t])) (fun _=>rfl) (by omega))) ?_
 refine xo rfl (fun _=>AA rfl underlying22 A4 (vl rfl) (vl rfl) (by omega) (by omega)) ?_
 refine Cx.CY 0 rfl rfl (AW rfl rfl (vl rfl) (Vo rfl) A4 rfl (by rw [AV (sz:=1) (fun _=>rfl)];simp only [List.length_set];omega) (AQ (f:=(fun t:Int=>[int t])) (fun _=>rfl) (by simp only [List.length_set];omega))) ?_
 refine Cx.nil ⟨by kernel_rfl,?_⟩
 refine BP.done Ic (Fin.go (Dp 0 1 10 11 rfl ?_))
 refine a2 ?_
 refine Tr.seq (Tr.block ?_)
 refine Tr.Dy [(0,_),(1,_)] ⟨ke rfl,ke rfl,trivial⟩ (fun (i:Int) (j:Int) (st:List (Int))=>[(10,int i),(11,int j)]) (fun (i:Int) (j:Int) (st:List (Int))=>Hp M0 w0 S (AD true b0 3 ((st.map (fun t:Int=>[int t])).flatten++sp.map is)::Ai M1 w1::rs)) (fun (i:Int) (j:Int) (st:List (Int))=>((a<i∧i≤b)∧a≤j∧j<b)∧st.length=len∧WQ c a i j st.toArray=WQ c a (a+1) (b-1) ((l.set a.toNat (l[pv.toNat]'D7)).set pv.toNat (l[a.toNat]'E8)).toArray) (fun (i:Int) (j:Int) (st:List (Int))=>(j-i+2).toNat) (i1+1) (j1-1) (_)  (⟨⟨⟨by omega,by omega⟩,by omega,by omega⟩,by simp only [List.length_set];exact Ep,KM Lc Ld (by omega) (by omega) (by omega) (by omega)⟩) ⟨ke rfl,ke rfl,trivial⟩ (fun _ _ h=>h) ?_
 rintro i j st  ⟨⟨⟨hi1,hi2⟩,TT,hj2⟩,Gp,DQ⟩
 refine Tr.block (Dp 0 1 10 11 rfl (Tr.Gr [0,1,11] [(10,ex fun y:Int=>fact ((i≤y∧y≤b)∧True∧y.toNat=Go.Sort.scanUp (pU c st.toArray a) st.toArray (j).toNat (i).toNat) (int y))] (True) ?_ (fun h8=> ?_)))
 refine Tr.block (Tr.BU [(0,_),(1,_),(11,_)] (OK rfl) (fun y:Int=>[(10,int y)]) (fun y:Int=>(i≤y∧y≤b)∧Go.Sort.scanUp (pU c st.toArray a) st.toArray (j).toNat (y).toNat=Go.Sort.scanUp (pU c st.toArray a) st.toArray (j).toNat (i).toNat) (fun y:Int=>(b-y).toNat) i (⟨⟨by omega,by omega⟩,rfl⟩) ⟨ke rfl,trivial⟩ ?_)
 rintro y ⟨⟨PF,PG⟩,DE⟩
 refine ag ?_ ?_<;>intro h9 q9
 refine ac ?_
 refine cy h9 rfl (AA rfl underlying22 A4 (vl rfl) (vl rfl) (by omega) (by omega)) (cy h9 rfl (As 0 rfl (AS rfl Au (vl rfl) (AR (g:=(fun t:Int=>int t)) (by omega)))) ?_)
 refine ac ?_
 refine cy h9 rfl (AA rfl underlying22 A4 (vl rfl) (vl rfl) (by omega) (by omega)) (cy h9 rfl (As 0 rfl (AS rfl Au (vl rfl) (AR (g:=(fun t:Int=>int t)) (by omega)))) (cy h9 rfl (EE (CG hc) rfl rfl rfl) ?_))
 refine ac ?_
 refine EL 0 1 10 11 112 rfl ?_
 refine Tr.cn rfl ?_ ?_<;>intro h10 SQ
 have:=h10
 refine a2 ?_
 exact Fin.AE (y+1) ⟨⟨⟨by omega,by omega⟩,by rw [Me (by omega) (by omega) (by omega) (XE (by omega) (by omega) (by assumption))];exact DE⟩,by omega⟩ (KH rfl)
 have:=h10
 refine Tr.exit (Fin.AG (Fin.AG (Fin.AP ?_)))
 exact Fin.AE () trivial ⟨⟨_,rfl,BD _ (Aj ⟨⟨by omega,by omega⟩,trivial,by rw [←DE];exact (F5 (by omega) (XF (by omega) (by omega) (Int.not_lt.2 (by assumption)))).symm⟩ (Lr))⟩,ke rfl,ke rfl,ke rfl,trivial⟩
 refine ac ?_
 refine EL 0 1 10 11 112 rfl (Tr.cond rfl (fun h=>nomatch h) (fun _=> ?_))
 refine Tr.exit (Fin.AG (Fin.AG (Fin.AP ?_)))
 exact Fin.AE () trivial ⟨⟨_,rfl,BD _ (Aj ⟨⟨by omega,by omega⟩,trivial,by rw [←DE];exact (F4 (by omega) (by omega)).symm⟩ (Lr))⟩,ke rfl,ke rfl,ke rfl,trivial⟩
 refine Tr.ex 10 rfl (fun i2=>Tr.fact 10 rfl fun Qg=> ?_)
 obtain ⟨VQ,VR,FD⟩:=Qg
 refine Dp 0 1 10 11 rfl (Tr.Gr [0,1,10] [(11,ex fun y:Int=>fact ((a≤y∧y≤j)∧True∧y.toNat=Go.Sort.scanDown (pD c st.toArray a) st.toArray (i2).toNat (j).toNat) (int y))] (True) ?_ (fun h11=> ?_))
 refine Tr.block (Tr.BU [(0,_),(1,_),(10,_)] (OK rfl) (fun y:Int=>[(11,int y)]) (fun y:Int=>(a≤y∧y≤j)∧Go.Sort.scanDown (pD c st.toArray a) st.toArray (i2).toNat (y).toNat=Go.Sort.scanDown (pD c st.toArray a) st.toArray (i2).toNat (j).toNat) (fun y:Int=>(y-a).toNat) j (⟨⟨by omega,by omega⟩,rfl⟩) ⟨ke rfl,trivial⟩ ?_)
 rintro y ⟨⟨PI,PJ⟩,DF⟩
 refine ag ?_ ?_<;>intro h12 SV
 refine ac ?_
 refine cy h12 rfl (AA rfl underlying22 A4 (vl rfl) (vl rfl) (by omega) (by omega)) (cy h12 rfl (As 0 rfl (AS rfl Au (vl rfl) (AR (g:=(fun t:Int=>int t)) (by omega)))) ?_)
 refine ac ?_
 refine cy h12 rfl (AA rfl underlying22 A4 (vl rfl) (vl rfl) (by omega) (by omega)) (cy h12 rfl (As 0 rfl (AS rfl Au (vl rfl) (AR (g:=(fun t:Int=>int t)) (by omega)))) (cy h12 rfl (EE (CG hc) rfl rfl rfl) ?_))
 refine ac ?_
 refine EL 0 1 10 11 129 rfl ?_
 refine Tr.cn rfl ?_ ?_<;>intro I7 Ud
 have:=I7
 refine a2 ?_
 exact Fin.AE (y-1) ⟨⟨⟨by omega,by omega⟩,by rw [Mf (by omega) (by omega) (by omega) (XG (by omega) (by omega) (Int.not_lt.2 (by assumption)))];exact DF⟩,by omega⟩ (KH rfl)
 have:=I7
 refine Tr.exit (Fin.AG (Fin.AG (Fin.AP ?_)))
 exact Fin.AE () trivial ⟨⟨_,rfl,BD _ (Aj ⟨⟨by omega,by omega⟩,trivial,by rw [←DF];exact (F7 (by omega) (XH (by omega) (by omega) (by assumption))).symm⟩ (Lr))⟩,ke rfl,ke rfl,ke rfl,trivial⟩
 refine ac ?_
 refine EL 0 1 10 11 129 rfl (Tr.cond rfl (fun h=>nomatch h) (fun _=> ?_))
 refine Tr.exit (Fin.AG (Fin.AG (Fin.AP ?_)))
 exact Fin.AE () trivial ⟨⟨_,rfl,BD _ (Aj ⟨⟨by omega,by omega⟩,trivial,by rw [←DF];exact (F6 (by omega) (by omega)).symm⟩ (Lr))⟩,ke rfl,ke rfl,ke rfl,trivial⟩
 refine Tr.ex 11 rfl (fun j2=>Tr.fact 11 rfl fun Qh=> ?_)
 obtain ⟨VS,VT,FE⟩:=Qh
 refine an ?_ ?_<;>intro Ue Zq
 refine ac ?_
 refine Tr.seq (Tr.rx ?_)
 refine ay ?_
 refine xo rfl (fun _=>AA rfl underlying22 A4 (vl rfl) (vl rfl) (by omega) (by omega)) (C0 0 rfl rfl (AS rfl Au (vl rfl) (AR (g:=(fun t:Int=>int t)) (by omega))) ?_)
 refine ay ?_
 refine xo rfl (fun _=>AA rfl underlying22 A4 (vl rfl) (vl rfl) (by omega) (by omega)) (C0 0 rfl rfl (AS rfl Au (vl rfl) (AR (g:=(fun t:Int=>int t)) (by omega))) (xo rfl (fun _=>AA rfl underlying22 A4 (vl rfl) (vl rfl) (by omega) (by omega)) ?_))
 refine Cx.CY 0 rfl rfl (AW rfl rfl (vl rfl) (Vo rfl) A4 rfl (by rw [AV (sz:=1) (fun _=>rfl)];omega) (AQ (f:=(fun t:Int=>[int t])) (fun _=>rfl) (by omega))) ?_
 refine xo rfl (fun _=>AA rfl underlying22 A4 (vl rfl) (vl rfl) (by omega) (by omega)) ?_
 refine Cx.CY 0 rfl rfl (AW rfl rfl (vl rfl) (Vo rfl) A4 rfl (by rw [AV (sz:=1) (fun _=>rfl)];simp only [List.length_set];omega) (AQ (f:=(fun t:Int=>[int t])) (fun _=>rfl) (by simp only [List.length_set];omega))) ?_
 refine Cx.nil ⟨by kernel_rfl,?_⟩
 refine BP.done Ic (Fin.go (CM 11 rfl ?_))
 refine ac ?_
 refine Tr.ret ?_
 refine Fin.Bl (Ia c a b pv l) 0 rfl (⟨by simp only [List.length_set];omega,(EV h0 hab E8 D7 (DQ.symm.trans (Df FD FE (by omega) (by omega))) (by omega) (by omega)).2⟩) ?_
 refine Fin.De [] rfl (A6.tmp rfl (Lr)) (A6.tmp rfl (Lr)) ?_
 · exact BD false (Aj trivial (Pr.le_of_eq (by rw [(EV h0 hab E8 D7 (DQ.symm.trans (Df FD FE (by omega) (by omega))) (by omega) (by omega)).1,Int.toNat_of_nonneg (by omega)])))
 refine ac ?_
 refine Tr.seq (Tr.rx ?_)
 refine ay ?_
 refine xo rfl (fun _=>AA rfl underlying22 A4 (vl rfl) (vl rfl) (by omega) (by omega)) (C0 0 rfl rfl (AS rfl Au (vl rfl) (AR (g:=(fun t:Int=>int t)) (by omega))) ?_)
 refine ay ?_
 refine xo rfl (fun _=>AA rfl underlying22 A4 (vl rfl) (vl rfl) (by omega) (by omega)) (C0 0 rfl rfl (AS rfl Au (vl rfl) (AR (g:=(fun t:Int=>int t)) (by omega))) (xo rfl (fun _=>AA rfl underlying22 A4 (vl rfl) (vl rfl) (by omega) (by omega)) ?_))
 refine Cx.CY 0 rfl rfl (AW rfl rfl (vl rfl) (Vo rfl) A4 rfl (by rw [AV (sz:=1) (fun _=>rfl)];omega) (AQ (f:=(fun t:Int=>[int t])) (fun _=>rfl) (by omega))) ?_
 refine xo rfl (fun _=>AA rfl underlying22 A4 (vl rfl) (vl rfl) (by omega) (by omega)) ?_
 refine Cx.CY 0 rfl rfl (AW rfl rfl (vl rfl) (Vo rfl) A4 rfl (by rw [AV (sz:=1) (fun _=>rfl)];simp only [List.length_set];omega) (AQ (f:=(fun t:Int=>[int t])) (fun _=>rfl) (by simp only [List.length_set];omega))) ?_
 refine Cx.nil ⟨by kernel_rfl,?_⟩
 refine BP.done Ic (Fin.go (Dp 0 1 10 11 rfl ?_))
 refine a2 ?_
 exact Fin.Cj (i2+1) (j2-1) (_)  (⟨⟨⟨⟨by omega,by omega⟩,by omega,by omega⟩,by simp only [List.length_set];exact Gp,(KM FD FE (by omega) (by omega) (by omega) (by omega)).trans DQ⟩,by omega⟩) ⟨ke rfl,ke rfl,ke rfl,ke rfl,trivial⟩ (fun _ _ h=>h)
theorem S5 {l:List (Int)} {c:Int×Int→Int} {b0 cap len:Nat} {sp:List Value} {a b:Int} (hc:∀x y,c (x,y)=Ar x y) (Ep:l.length=len) (Gn:len≤1000000) (hw:Go.Sort.SWO (Bp c)) (h0:0≤a) (hab:a<b) (hb:b≤len) (fJ:b<50):BQ prog 206 [is (.slice (some ⟨b0,0,none⟩) len cap),int a,int b] (ex fun z:Bool=>fact (z=true→Go.Sort.SortedIn (Bp c) a.toNat b.toNat l.toArray) (bool z)) (AD true b0 3 ((l.map (fun t:Int=>[int t])).flatten++sp.map is)) (fun _=>AD true b0 3 ((l.map (fun t:Int=>[int t])).flatten++sp.map is)):=by
 refine BQ.of func206 rfl rfl (by exact Nb rfl) fun M0 w0 S rs M1 w1=> ?_
 refine a3 ?_
 refine Tr.block (Tr.CU [(0,_),(1,_),(2,_)] ⟨ke rfl,ke rfl,ke rfl,trivial⟩ (fun (i:Int) (j:Int)=>[(7,int i),(8,int j)]) (fun (i:Int) (j:Int)=>Hp M0 w0 S (AD true b0 3 ((l.map (fun t:Int=>[int t])).flatten++sp.map is)::Ai M1 w1::rs)) (fun (i:Int) (j:Int)=>(j=0∧a<i∧i≤b)∧SM c a i l) (fun (i:Int) (j:Int)=>(5-j).toNat) (a+1) (0)  (⟨⟨rfl,by omega,by omega⟩,SM.start a l h0⟩) ⟨ke rfl,ke rfl,trivial⟩ (fun _ _ h=>h) ?_)
 rintro i j  ⟨⟨hj0,hi1,hi2⟩,aD⟩
 refine an ?_ ?_<;>intro h1 q1
 skip
 refine ac ?_
 refine Tr.seq (Tr.block (Tr.seq (Tr.block (Tr.BU [(0,_),(1,_),(2,_),(8,_)] (KH rfl) (fun i2:Int=>[(7,int i2)]) (fun i2:Int=>(a<i2∧i2≤b)∧SM c a i2 l) (fun i2:Int=>(b-i2).toNat) i (⟨⟨hi1,hi2⟩,aD⟩) ⟨ke rfl,trivial⟩ ?_))))
 rintro i2 ⟨⟨kJ,hi4⟩,Le⟩
 refine ag ?_ ?_<;>intro h2 q2
 refine ac ?_
 refine cy h2 rfl (AA rfl underlying22 A4 (vl rfl) (vl rfl) (by omega) (by omega)) (cy h2 rfl (As 0 rfl (AS rfl Au (vl rfl) (AR (g:=(fun t:Int=>int t)) (by omega)))) ?_)
 refine ac ?_
 refine cy h2 rfl (AA rfl underlying22 A4 (vl rfl) (vl rfl) (by omega) (by omega)) (cy h2 rfl (As 0 rfl (AS rfl Au (vl rfl) (AR (g:=(fun t:Int=>int t)) (by omega)))) (cy h2 rfl (EE (CG hc) rfl rfl rfl) ?_))
 refine ac ?_
 refine EZ 0 1 2 7 8 32 rfl ?_
 refine Tr.cn rfl ?_ ?_<;>intro h3 q3
 have:=h3
 refine a2 ?_
 exact Fin.AE (i2+1) ⟨⟨⟨by omega,by omega⟩,Le.go h0 (by omega) rfl (by omega) (by omega) (by assumption)⟩,by omega⟩ (TR rfl)
 have:=h3
 refine ac ?_
 refine an ?_ ?_<;>intro h4 q4
 refine ac ?_
 refine Tr.ret (Fin.AF (Fin.AK (Fin.AF (Fin.AF (Fin.AK (Fin.AF (Fin.Ca rfl rfl ?_ (fun _ _ _ _=>rfl))))))))
 · exact BD true (Aj (fun _=>by rw [show b=i2 by omega];exact Le.sorted hw) (Lr))
 refine ac ?_
 refine an ?_ ?_<;>intro h5 q5
 refine ac ?_
 refine CM 6 rfl (Tr.ret (Fin.AF (Fin.AK (Fin.AF (Fin.AF (Fin.AK (Fin.AF (Fin.Ca rfl rfl ?_ (fun _ _ _ _=>rfl)))))))))
 · exact BD false (Aj (fun h=>nomatch h) (Lr))
 exfalso;omega
 refine ac ?_
 refine EZ 0 1 2 7 8 32 rfl ?_
 refine ac ?_
 refine an ?_ ?_<;>intro h6 q6
 refine ac ?_
 refine Tr.ret (Fin.AF (Fin.AK (Fin.AF (Fin.AF (Fin.AK (Fin.AF (Fin.Ca rfl rfl ?_ (fun _ _ _ _=>rfl))))))))
 · exact BD true (Aj (fun _=>by rw [show b=i2 by omega];exact Le.sorted hw) (Lr))
 refine ac ?_
 refine an ?_ ?_<;>intro h7 q7
 refine ac ?_
 refine CM 6 rfl (Tr.ret (Fin.AF (Fin.AK (Fin.AF (Fin.AF (Fin.AK (Fin.AF (Fin.Ca rfl rfl ?_ (fun _ _ _ _=>rfl)))))))))
 · exact BD false (Aj (fun h=>nomatch h) (Lr))
 exfalso;omega
 have nU:¬j<5:=of_decide_eq_false h1
 exfalso;omega
theorem JU {sb:Nat} {l:List (Int)} {c:Int×Int→Int} {b0 cap len:Nat} {sp:List Value} {a b:Int} (hc:∀x y,c (x,y)=Ar x y) (Ep:l.length=len) (Gn:len≤1000000) (h0:0≤a) (ha:a<len) (h1:0≤b) (hb:b<len):K5 prog 222 [is (.slice (some ⟨b0,0,none⟩) len cap),int a,int b,is (.pointer (some ⟨sb,0,none⟩))] (ex fun z:Int×Int=>fact ((z.1=a∧z.2=b)∨(z.1=b∧z.2=a)) (DT [int z.1,int z.2])) (AD true sb 3 [Da .i64]) (AD true sb 3 [Da .i64]) (AD true b0 3 ((l.map (fun t:Int=>[int t])).flatten++sp.map is)):=by
 refine K5.of func222 rfl rfl (by exact Nb rfl) fun M0 w0 S rs M1 w1=> ?_
 refine a2 ?_
 refine co rfl (AA rfl underlying22 A4 (vl rfl) (vl rfl) (by omega) (by omega)) (co rfl (As 2 rfl (AS rfl Au (vl rfl) (AR (g:=(fun t:Int=>int t)) (by omega)))) ?_)
 refine ac ?_
 refine co rfl (AA rfl underlying22 A4 (vl rfl) (vl rfl) (by omega) (by omega)) (co rfl (As 2 rfl (AS rfl Au (vl rfl) (AR (g:=(fun t:Int=>int t)) (by omega)))) (co rfl (EE (CG hc) rfl rfl rfl) ?_))
 refine an ?_ ?_<;>intro h1 q1
 refine ap ?_
 refine tp rfl (RP rfl (vl rfl) (VL.le (vl rfl) (FZ _ _))) ?_
 refine ap ?_
 refine EK 1 2 rfl ?_
 refine ac ?_
 refine Tr.ret (Fin.AF (Fin.De [] rfl (A6.tmp rfl (Lr)) (A6.tmp rfl (Lr)) ?_))
 · exact BD (b,a) (Aj (.inr ⟨rfl,rfl⟩) (Lr))
 refine a2 ?_
 refine EK 8 9 rfl (Tr.ret (Fin.De [] rfl (A6.tmp rfl (Lr)) (A6.tmp rfl (Lr)) ?_))
 · exact BD (a,b) (Aj (.inl ⟨rfl,rfl⟩) (Lr))
theorem Vq {sb:Nat} {l:List (Int)} {c:Int×Int→Int} {b0 cap len:Nat} {sp:List Value} {a b d:Int} (hc:∀x y,c (x,y)=Ar x y) (Ep:l.length=len) (Gn:len≤1000000) (h0:0≤a) (ha:a<len) (h1:0≤b) (hb:b<len) (h2:0≤d) (hd:d<len):K5 prog 220 [is (.slice (some ⟨b0,0,none⟩) len cap),int a,int b,int d,is (.pointer (some ⟨sb,0,none⟩))] (ex fun z:Int=>fact (z=a∨z=b∨z=d) (int z)) (AD true sb 3 [Da .i64]) (AD true sb 3 [Da .i64]) (AD true b0 3 ((l.map (fun t:Int=>[int t])).flatten++sp.map is)):=by
 refine K5.of func220 rfl rfl (by exact Nb rfl) fun M0 w0 S rs M1 w1=> ?_
 refine ac ?_
 refine ap ?_
 refine TO.Jp 0 2 rfl rfl (by decide) rfl rfl (by decide) rfl (JU hc (by omega) (by omega) (by omega) (by omega) (by omega) (by omega)) ⟨ke rfl,ke rfl,ke rfl,ke rfl,trivial⟩ ?_
 refine TO.ex 16 rfl (fun z1=>TO.fact 16 rfl fun KD=> ?_)
 refine ap ?_
 refine ap ?_
 refine TO.Jp 0 2 rfl rfl (by decide) rfl rfl (by decide) rfl (JU hc (by omega) (by omega) (by omega) (by omega) (by omega) (by omega)) ⟨ke rfl,ke rfl,ke rfl,ke rfl,trivial⟩ ?_
 refine TO.ex 24 rfl (fun z2=>TO.fact 24 rfl fun Tj=> ?_)
 refine ap ?_
 refine Dp 0 1 2 4 rfl ?_
 refine ap ?_
 refine TO.Jp 0 2 rfl rfl (by decide) rfl rfl (by decide) rfl (JU hc (by omega) (by omega) (by omega) (by omega) (by omega) (by omega)) ⟨ke rfl,ke rfl,ke rfl,ke rfl,trivial⟩ ?_
 refine TO.ex 32 rfl (fun z3=>TO.fact 32 rfl fun kK=> ?_)
 refine ap ?_
 refine CM 2 rfl ?_
 refine ac ?_
 refine Tr.ret (Fin.Ca rfl rfl ?_ (fun _ _ _ _=>rfl))
 · exact BD _ (Aj (by omega) (Lr))
theorem Vr {l:List (Int)} {c:Int×Int→Int} {b0 cap len:Nat} {sp:List Value} {a b:Int} (hc:∀x y,c (x,y)=Ar x y) (Ep:l.length=len) (Gn:len≤1000000) (h0:0≤a) (hab:a<b) (hb:b≤len) (fJ:b<50):BQ prog 204 [is (.slice (some ⟨b0,0,none⟩) len cap),int a,int b] (ex fun z:Int×Int=>fact (a≤z.1∧z.1<b) (DT [int z.1,int z.2])) (AD true b0 3 ((l.map (fun t:Int=>[int t])).flatten++sp.map is)) (fun _=>AD true b0 3 ((l.map (fun t:Int=>[int t])).flatten++sp.map is)):=by
 refine BQ.of func204 rfl rfl (by exact Nb rfl) fun M0 w0 S rs M1 w1=> ?_
 have hq:=RS (n:=b-a) (by omega) (by omega)
 obtain ⟨hq1,SB,dA⟩:=hq
 refine a2 ?_
 refine Tr.seq (Tr.CA ?_)
 refine Tl rfl rfl rfl rfl z3 gU (fun b1=> ?_)
 refine ap ?_
 refine ac ?_
 refine co rfl (CX rfl (vl rfl) (vl rfl) (by omega)) ?_
 refine co rfl (DW rfl (vl rfl) (vl rfl) ?hin) ?_;case hin=>unfold C7;omega
 refine ac ?_
 refine EL 0 1 8 9 10 rfl ?_
 refine ac ?_
 refine co rfl (CX rfl (vl rfl) (vl rfl) (by omega)) ?_
 refine co rfl (DW rfl (vl rfl) (vl rfl) ?hin) ?_;case hin=>unfold C7;omega
 refine a2 ?_
 refine co rfl (CX rfl (vl rfl) (vl rfl) (by omega)) ?_
 refine co rfl (DW rfl (vl rfl) (vl rfl) ?hin) ?_;case hin=>unfold C7;omega
 refine ac ?_
 refine EZ 0 8 9 10 11 12 rfl ?_
 refine an ?_ ?_<;>intro h1 q1
 refine an ?_ ?_<;>intro h2 q2
 exfalso;omega
 refine ac ?_
 refine Tr.Ym 0 [Da .i64] rfl ⟨FZ _ _,trivial⟩ ?_
 refine ap ?_
 refine TO.Jp 0 1 rfl rfl (by decide) rfl rfl (by decide) rfl (Vq hc (by omega) (by omega) (by omega) (by omega) (by omega) (by omega) (by omega) (by omega)) ⟨ke rfl,ke rfl,ke rfl,ke rfl,ke rfl,trivial⟩ ?_
 refine TO.ex 48 rfl (fun z1=>TO.fact 48 rfl fun KD=> ?_)
 refine ap ?_
 refine EK 9 11 rfl ?_
 refine ac ?_
 refine Tr.drop 0 (Tr.block (Tr.seq (Tr.ex 49 rfl fun sw=> ?_)))
 refine an ?_ ?_<;>intro h3 q3
 refine ac ?_
 refine Tr.ret (Fin.AK (Fin.De [] rfl (A6.tmp rfl (Lr)) (A6.tmp rfl (Lr)) ?_))
 · exact BD (_,_) (Aj ⟨by omega,by omega⟩ (Lr))
 refine an ?_ ?_<;>intro h4 q4
 refine ac ?_
 refine Tr.ret (Fin.AK (Fin.De [] rfl (A6.tmp rfl (Lr)) (A6.tmp rfl (Lr)) ?_))
 · exact BD (_,_) (Aj ⟨by omega,by omega⟩ (Lr))
 refine ac ?_
 refine Tr.ret (Fin.AK (Fin.De [] rfl (A6.tmp rfl (Lr)) (A6.tmp rfl (Lr)) ?_))
 · exact BD (_,_) (Aj ⟨by omega,by omega⟩ (Lr))
 refine ac ?_
 refine Tr.seq (Tr.Ym 0 [Da .i64] rfl ⟨FZ _ _,trivial⟩ ?_)
 refine ac ?_
 refine Tr.drop 0 (Tr.block (Tr.seq (Tr.ex 49 rfl fun sw=> ?_)))
 refine an ?_ ?_<;>intro h5 q5
 refine ac ?_
 refine EK 6 7 rfl (Tr.ret (Fin.AK (Fin.De [] rfl (A6.tmp rfl (Lr)) (A6.tmp rfl (Lr)) ?_)))
 · exact BD (_,_) (Aj ⟨by omega,by omega⟩ (Lr))
 refine an ?_ ?_<;>intro h6 q6
 refine ac ?_
 refine EK 6 7 rfl (Tr.ret (Fin.AK (Fin.De [] rfl (A6.tmp rfl (Lr)) (A6.tmp rfl (Lr)) ?_)))
 · exact BD (_,_) (Aj ⟨by omega,by omega⟩ (Lr))
 refine ac ?_
 refine EK 6 7 rfl (Tr.ret (Fin.AK (Fin.De [] rfl (A6.tmp rfl (Lr)) (A6.tmp rfl (Lr)) ?_)))
 · exact BD (_,_) (Aj ⟨by omega,by omega⟩ (Lr))
theorem Vs {l:List (Int)} {c:Int×Int→Int} {b0 cap len:Nat} {sp:List Value} {a b:Int} (hc:∀x y,c (x,y)=Ar x y) (Ep:l.length=len) (Gn:len≤1000000) (h0:0≤a) (hab:a≤b) (hb:b≤len) (fJ:b<50):BQ prog 203 [is (.slice (some ⟨b0,0,none⟩) len cap),int a,int b] (CC) (AD true b0 3 ((l.map (fun t:Int=>[int t])).flatten++sp.map is)) (fun _=>Bw b0 3 (fun t:Int=>[int t]) (B6 a b l) (sp.map is)):=by
 refine BQ.of func203 rfl rfl (by exact Nb rfl) fun M0 w0 S rs M1 w1=> ?_
 have hq:=RS (n:=b-a) (by omega) (by omega)
 obtain ⟨hq1,SB,dA⟩:=hq
 refine ac ?_
 refine an ?_ ?_<;>intro h1 q1
 refine ap ?_
 refine tp rfl (Ci rfl underlying3 underlying189 (vl rfl)) ?_
 refine Tl rfl rfl rfl rfl cV Yc (fun b1=> ?_)
 refine ap ?_
 refine Tr.seq (Tr.Ym 0 [Da .u64] rfl ⟨FZ _ _,trivial⟩ ?_)
 refine ap ?_
 refine tp rfl (Cr (VO (by omega) (by omega)) rfl rfl) ?_
 refine TO.ex 19 rfl (fun md=>TO.fact 19 rfl fun kL=> ?_)
 obtain ⟨kM,kN⟩:=kL
 have nV:IntKind.u64.wrap (md-1)=md-1:=IntWalk.u64_in _ ⟨by omega,by omega⟩
 refine ap ?_
 refine ac ?_
 refine co rfl (CX rfl (vl rfl) (vl rfl) (by omega)) ?_
 refine co rfl (DW rfl (vl rfl) (vl rfl) ?hin) ?_;case hin=>unfold C7;omega
 refine ac ?_
 refine EZ 0 1 6 7 8 9 rfl (Tr.block (Tr.CU [(0,_),(1,_),(6,_),(7,_),(8,_)] ⟨ke rfl,ke rfl,ke rfl,ke rfl,ke rfl,trivial⟩ (fun (i:Int) (st:List (Int))=>[(9,int i)]) (fun (i:Int) (st:List (Int))=>Hp M0 w0 S (AD true b1 189 [Da .u64]::AD true b0 3 ((st.map (fun t:Int=>[int t])).flatten++sp.map is)::Ai M1 w1::rs)) (fun (i:Int) (st:List (Int))=>(a≤i∧i≤b)∧st.length=len∧B6 a b l st) (fun (i:Int) (st:List (Int))=>(b-i).toNat) (a+IntKind.i64.wrap ((b-a).tdiv 4)*2-1) (l)  (⟨⟨by omega,by omega⟩,by omega,B6.refl _ _ _⟩) ⟨ke rfl,trivial⟩ (fun _ _ h=>h) ?_))
 rintro i st  ⟨⟨hi1,hi2⟩,Gp,DQ⟩
 refine ac ?_
 refine co rfl (CX rfl (vl rfl) (vl rfl) (by omega)) ?_
 refine co rfl (DW rfl (vl rfl) (vl rfl) ?hin) ?_;case hin=>unfold C7;omega
 refine ac ?_
 refine Ea 0 1 6 7 8 9 33 rfl ?_
 refine Tr.cn rfl ?_ ?_<;>intro h2 q2
 have:=h2
 refine ac ?_
 refine Tr.seq (Tr.block (Tr.seq (Tr.CA (TO.DB 0 rfl rfl (by decide) (AU rfl rfl (by decide) rfl (Ru) ⟨ke rfl,trivial⟩) ?_))))
 refine ap ?_
 refine tp rfl (OZ rfl (vl rfl) (vl rfl) (by omega) (by omega)) ?_
 refine TO.ex 39 rfl (fun z1=>TO.fact 39 rfl fun KD=> ?_)
 refine tp rfl (OI rfl underlying137 underlying3 (vl rfl) (by unfold C7;omega)) ?_
 refine ap ?_
 refine Tr.RT [(0,_),(1,_),(6,_),(7,_),(8,_),(9,_)] ⟨ke rfl,ke rfl,ke rfl,ke rfl,ke rfl,ke rfl,trivial⟩ (fun (ot:Int)=>[(10,int ot)]) (fun (ot:Int)=>Hp M0 w0 S (AD true b1 189 [Da .u64]::AD true b0 3 ((st.map (fun t:Int=>[int t])).flatten++sp.map is)::Ai M1 w1::rs)) (fun (ot:Int)=>0≤ot∧ot<b-a) ?_ ?_
 refine ac ?_
 refine HU 0 1 6 7 8 9 10 43 rfl ?_
 refine Tr.cn rfl ?_ ?_<;>intro h3 q3
 refine ac ?_
 exact Fin.IM (_)  (⟨by omega,by omega⟩) ⟨ke rfl,ke rfl,ke rfl,ke rfl,ke rfl,ke rfl,ke rfl,trivial⟩ (fun _ _ h=>h)
 refine Tr.skip (Fin.IM (_)  (⟨by omega,by omega⟩) ⟨ke rfl,ke rfl,ke rfl,ke rfl,ke rfl,ke rfl,ke rfl,trivial⟩ (fun _ _ h=>h))
 rintro ot  ⟨kO,kP⟩
 refine Tr.rx ?_
 refine ay ?_
 refine xo rfl (fun _=>AA rfl underlying22 A4 (vl rfl) (vl rfl) (by omega) (by omega)) (C0 1 rfl rfl (AS rfl Au (vl rfl) (AR (g:=(fun t:Int=>int t)) (by omega))) ?_)
 refine ay ?_
 refine xo rfl (fun _=>AA rfl underlying22 A4 (vl rfl) (vl rfl) (by omega) (by omega)) (C0 1 rfl rfl (AS rfl Au (vl rfl) (AR (g:=(fun t:Int=>int t)) (by omega))) (xo rfl (fun _=>AA rfl underlying22 A4 (vl rfl) (vl rfl) (by omega) (by omega)) ?_))
 refine Cx.CY 1 rfl rfl (AW rfl rfl (vl rfl) (Vo rfl) A4 rfl (by rw [AV (sz:=1) (fun _=>rfl)];omega) (AQ (f:=(fun t:Int=>[int t])) (fun _=>rfl) (by omega))) ?_
 refine xo rfl (fun _=>AA rfl underlying22 A4 (vl rfl) (vl rfl) (by omega) (by omega)) ?_
 refine Cx.CY 1 rfl rfl (AW rfl rfl (vl rfl) (Vo rfl) A4 rfl (by rw [AV (sz:=1) (fun _=>rfl)];simp only [List.length_set];omega) (AQ (f:=(fun t:Int=>[int t])) (fun _=>rfl) (by simp only [List.length_set];omega))) ?_
 refine Cx.nil ⟨by kernel_rfl,?_⟩
 refine BP.done lZ ?_
 refine ac ?_
 refine EZ 0 1 6 7 8 9 rfl ?_
 refine ac ?_
 exact Fin.BW (i+1) (_)  (⟨⟨⟨by omega,by omega⟩,by simp only [List.length_set];exact Gp,DQ.swap (by omega) (by omega) (by omega) (by omega) (by omega) (by omega) (by omega)⟩,by omega⟩) ⟨ke rfl,ke rfl,ke rfl,ke rfl,ke rfl,ke rfl,trivial⟩ (fun _ _ h=>h)
 have:=h2
 refine Tr.exit (Fin.AG (Fin.AG (Fin.AP (Fin.Bl (B6 a b l) 1 rfl (by exact DQ) ?_))))
 refine Fin.drop 0 (Fin.FY rfl)
 refine Tr.skip (Fin.Bl (B6 a b l) 0 rfl (by exact B6.refl _ _ _) ?_)
 exact Fin.FY rfl
theorem S6 {l:List (Int)} {c:Int×Int→Int} {b0 cap len:Nat} {sp:List Value} {a b JM:Int} (hc:∀x y,c (x,y)=Ar x y) (Ep:l.length=len) (Gn:len≤1000000) (hw:Go.Sort.SWO (Bp c)) (VW:len<50) (hB:Go.Sort.Below (Bp c) a.toNat b.toNat l.toArray) (h0:0≤a) (hab:a≤b) (hb:b≤len) (Sa:0≤JM) (aE:JM≤100) (m:Nat) (hm:(b-a).toNat<m) (ih:∀{l:List (Int)} {a b JM:Int} {sp:List Value},l.length=len→Go.Sort.Below (Bp c) a.toNat b.toNat l.toArray→0≤a→a≤b→b≤len→0≤JM→JM≤100→(b-a).toNat+1<m→BQ prog 173 [is (.slice (some ⟨b0,0,none⟩) len cap),int a,int b,int JM] (CC) (AD true b0 3 ((l.map (fun t:Int=>[int t])).flatten++sp.map is)) (fun _=>Bw b0 3 (fun t:Int=>[int t]) (CS c a b l) (sp.map is)))  :BQ prog 173 [is (.slice (some ⟨b0,0,none⟩) len cap),int a,int b,int JM] (CC) (AD true b0 3 ((l.map (fun t:Int=>[int t])).flatten++sp.map is)) (fun _=>Bw b0 3 (fun t:Int=>[int t]) (CS c a b l) (sp.map is)):=by
 refine BQ.of func173 rfl rfl (by exact Nb rfl) fun M0 w0 S rs M1 w1=> ?_
 have hls:b.toNat≤l.toArray.size:=by simp only [List.size_toArray];omega
 refine a2 ?_
 refine Tr.block (Tr.OM [(0,_)] ⟨ke rfl,trivial⟩ (fun (a1:Int) (b1:Int) (p:Int×Bool×Bool) (st:List (Int))=>[(1,int a1),(2,int b1),(3,int p.1),(8,bool p.2.1),(9,bool p.2.2)]) (fun (a1:Int) (b1:Int) (p:Int×Bool×Bool) (st:List (Int))=>Hp M0 w0 S (AD true b0 3 ((st.map (fun t:Int=>[int t])).flatten++sp.map is)::Ai M1 w1::rs)) (fun (a1:Int) (b1:Int) (p:Int×Bool×Bool) (st:List (Int))=>((a≤a1∧a1≤b1∧b1≤b)∧0≤p.1∧p.1≤100)∧st.length=len∧PS (Bp c) a.toNat b.toNat a1.toNat b1.toNat l.toArray st.toArray) (fun (a1:Int) (b1:Int) (p:Int×Bool×Bool) (st:List (Int))=>(b1-a1).toNat) (a) (b) ((JM,(true,true))) (l)  (⟨⟨⟨by omega,hab,by omega⟩,Sa,aE⟩,Ep,PS.init (by omega) hB⟩) ⟨ke rfl,ke rfl,ke rfl,ke rfl,ke rfl,trivial⟩ (fun _ _ h=>h) ?_)
 rintro a1 b1 p st  ⟨⟨⟨nW,nX,nY⟩,WR,Qf⟩,Gp,hps⟩
 refine ac ?_
 refine an ?_ ?_<;>intro h1 q1
 refine ap ?_
 refine TO.DB 0 rfl rfl (by decide) (AU rfl rfl (by decide) rfl (Vm hc (by omega) (by omega) hw (by omega) (by omega) (by omega)) ⟨ke rfl,ke rfl,ke rfl,trivial⟩) (TO.B9 0 rfl fun t1 Fo=> ?_)
 have HW:=Fo.len
 have hdone:=(hps.perm hls Fo.1).done Fo.2
 refine ap ?_
 refine Tr.weak [] trivial (Tr.ret (Fin.AF (Fin.AK (Fin.AF (Fin.AK (Fin.Bl (CS c a b l) 0 rfl (hdone) (Fin.Ef rfl)))))))
 refine a2 ?_
 refine HU 0 1 2 3 8 9 10 29 rfl ?_
 refine Tr.cn rfl ?_ ?_<;>intro h2 q2
 refine ap ?_
 refine TO.DB 0 rfl rfl (by decide) (AU rfl rfl (by decide) rfl (S4 hc (by omega) (by omega) hw (by omega) (by omega) (by omega)) ⟨ke rfl,ke rfl,ke rfl,trivial⟩) (TO.B9 0 rfl fun t2 Jq=> ?_)
 have Qf:=Jq.len
 have hdone:=(hps.perm hls Jq.1).done Jq.2
 refine ap ?_
 refine Tr.ret (Fin.AF (Fin.AK (Fin.AF (Fin.AK (Fin.Bl (CS c a b l) 0 rfl (hdone) (Fin.Ef rfl))))))
 refine ac ?_
 refine Tr.KO [(0,_),(1,_),(2,_),(8,_),(9,_),(10,_)] ⟨ke rfl,ke rfl,ke rfl,ke rfl,ke rfl,ke rfl,trivial⟩ (fun (FF:Int) (D5:List (Int))=>[(3,int FF)]) (fun (FF:Int) (D5:List (Int))=>Hp M0 w0 S (AD true b0 3 ((D5.map (fun t:Int=>[int t])).flatten++sp.map is)::Ai M1 w1::rs)) (fun (FF:Int) (D5:List (Int))=>0≤FF∧FF≤100∧D5.length=len∧PS (Bp c) a.toNat b.toNat a1.toNat b1.toNat l.toArray D5.toArray) ?_ ?_
 refine an ?_ ?_<;>intro h3 q3
 refine ap ?_
 refine TO.DB 0 rfl rfl (by decide) (AU rfl rfl (by decide) rfl (Vs hc (by omega) (by omega) (by omega) (by omega) (by omega) (by omega)) ⟨ke rfl,ke rfl,ke rfl,trivial⟩) (TO.B9 0 rfl fun t3 fK=> ?_)
 have kQ:=fK.len
 have hps:=hps.perm hls fK
 refine ap ?_
 refine Ea 0 1 2 3 8 9 10 rfl ?_
 refine ac ?_
 exact Fin.BW (_) (_)  (⟨by omega,by omega,by omega,hps⟩) ⟨ke rfl,ke rfl,ke rfl,ke rfl,ke rfl,ke rfl,ke rfl,trivial⟩ (fun _ _ h=>h)
 refine Tr.skip (Fin.BW (_) (_)  (⟨by omega,by omega,by omega,hps⟩) ⟨ke rfl,ke rfl,ke rfl,ke rfl,ke rfl,ke rfl,ke rfl,trivial⟩ (fun _ _ h=>h))
 rintro FF D5  ⟨Lh,Li,Lb,hps⟩
 refine ap ?_
 refine TO.DB 0 rfl rfl (by decide) (AU rfl rfl (by decide) rfl (Vr hc (by omega) (by omega) (by omega) (by omega) (by omega) (by omega)) ⟨ke rfl,ke rfl,ke rfl,trivial⟩) ?_
 refine TO.ex 46 rfl (fun z1=>TO.fact 46 rfl fun KD=> ?_)
 obtain ⟨aH,aI⟩:=KD
 refine ap ?_
 refine N_ 0 1 2 3 8 9 10 11 12 rfl (Tr.RU [(0,_),(1,_),(2,_),(3,_),(8,_),(9,_),(10,_)] ⟨ke rfl,ke rfl,ke rfl,ke rfl,ke rfl,ke rfl,ke rfl,trivial⟩ (fun (pv:Int) (hint:Int) (PL:List (Int))=>[(11,int pv),(12,int hint)]) (fun (pv:Int) (hint:Int) (PL:List (Int))=>Hp M0 w0 S (AD true b0 3 ((PL.map (fun t:Int=>[int t])).flatten++sp.map is)::Ai M1 w1::rs)) (fun (pv:Int) (hint:Int) (PL:List (Int))=>(a1≤pv∧pv<b1)∧PL.length=len∧PS (Bp c) a.toNat b.toNat a1.toNat b1.toNat l.toArray PL.toArray) ?_ ?_)
 refine an ?_ ?_<;>intro h4 q4
 refine ap ?_
 refine TO.DB 0 rfl rfl (by decide) (AU rfl rfl (by decide) rfl (Vn hc (by omega) (by omega) (by omega) (by omega) (by omega)) ⟨ke rfl,ke rfl,ke rfl,trivial⟩) (TO.B9 0 rfl fun t5 fL=> ?_)
 have kR:=fL.len
 have hps:=hps.perm hls fL
 refine ap ?_
 refine HU 0 1 2 3 8 9 10 11 rfl ?_
 refine ac ?_
 refine HU 0 1 2 3 8 9 10 11 rfl ?_
 refine ac ?_
 exact Fin.Cj (_) (_) (_)  (⟨⟨by omega,by omega⟩,by omega,hps⟩) ⟨ke rfl,ke rfl,ke rfl,ke rfl,ke rfl,ke rfl,ke rfl,ke rfl,ke rfl,trivial⟩ (fun _ _ h=>h)
 refine Tr.skip (Fin.Cj (_) (_) (_)  (⟨⟨by omega,by omega⟩,by omega,hps⟩) ⟨ke rfl,ke rfl,ke rfl,ke rfl,ke rfl,ke rfl,ke rfl,ke rfl,ke rfl,trivial⟩ (fun _ _ h=>h))
 rintro pv hint PL  ⟨⟨aH,aI⟩,kS,hps⟩
 refine N_ 0 1 2 3 8 9 10 11 12 rfl (Tr.Gr [0,1,2,3,8,9,10,11] [] (True) ?_ (fun h5=> ?_))
 refine ag ?_ ?_<;>intro h6 q6
 refine ag ?_ ?_<;>intro h7 q7
 refine ac ?_
 refine N_ 0 1 2 3 8 9 10 11 68 rfl ?_
 refine Tr.cn rfl ?_ ?_<;>intro h8 q8
 refine ap ?_
 refine TO.DB 0 rfl rfl (by decide) (AU rfl rfl (by decide) rfl (S5 hc (by omega) (by omega) hw (by omega) (by omega) (by omega) (by omega)) ⟨ke rfl,ke rfl,ke rfl,trivial⟩) ?_
 refine TO.ex 72 rfl (fun z2=>TO.fact 72 rfl fun Tj=> ?_)
 have Px:=Tj
 refine ap ?_
 refine Tr.cn rfl ?_ ?_<;>intro h9 q9
 have hdone:=hps.done (Px h9)
 refine Tr.ret (Fin.AF (Fin.AK (Fin.AF (Fin.AK (Fin.Bl (CS c a b l) 0 rfl (hdone) (Fin.Ef rfl))))))
 refine Tr.skip (Fin.AE () (by simp_all) (gQ rfl))
 refine Tr.skip (Fin.AE () (by simp_all) (gQ rfl))
 refine ac ?_
 refine N_ 0 1 2 3 8 9 10 11 68 rfl (Tr.cond rfl (fun h=>nomatch h) (fun _=> ?_))
 refine Tr.skip (Fin.AE () (by simp_all) (gQ rfl))
 refine ac ?_
 refine N_ 0 1 2 3 8 9 10 11 68 rfl (Tr.cond rfl (fun h=>nomatch h) (fun _=> ?_))
 refine Tr.skip (Fin.AE () (by simp_all) (gQ rfl))
 refine ag ?_ ?_<;>intro h10 SQ
 refine ac ?_
 refine cy h10 rfl (AA rfl underlying22 A4 (vl rfl) (vl rfl) (by omega) (by omega)) (cy h10 rfl (As 0 rfl (AS rfl Au (vl rfl) (AR (g:=(fun t:Int=>int t)) (by omega)))) ?_)
 refine ac ?_
 refine cy h10 rfl (AA rfl underlying22 A4 (vl rfl) (vl rfl) (by omega) (by omega)) (cy h10 rfl (As 0 rfl (AS rfl Au (vl rfl) (AR (g:=(fun t:Int=>int t)) (by omega)))) (cy h10 rfl (EE (CG hc) rfl rfl rfl) ?_))
 refine ac ?_
 refine N_ 0 1 2 3 8 9 10 11 87 rfl ?_
 refine Tr.cn rfl ?_ ?_<;>intro h11 WV
 refine ap ?_
 refine TO.DB 0 rfl rfl (by decide) (AU rfl rfl (by decide) rfl (Vp hc (by omega) (by omega) (by omega) (by omega) (by omega) (by omega) (by omega)) ⟨ke rfl,ke rfl,ke rfl,ke rfl,trivial⟩) (TO.B9 0 rfl fun t7 fM=> ?_)
 have kT:=fM.len
 obtain ⟨hps,hk1,hk2⟩:=hps.lU hw hls fM (by omega) (by omega) rfl (by omega) (by omega) (by omega) (by omega) (by omega) (by assumption)
 refine ap ?_
 refine EZ 0 2 3 8 9 13 rfl ?_
 refine ac ?_
 refine Tr.exit (Fin.AG (Fin.AP (Fin.EN (_) (_) ((FF,(_,_))) (_)  (⟨⟨⟨⟨by omega,by omega,by omega⟩,Lh,Li⟩,by omega,by exact hps⟩,by omega⟩) ⟨ke rfl,ke rfl,ke rfl,ke rfl,ke rfl,ke rfl,trivial⟩ (fun _ _ h=>h))))
 refine ac ?_
 refine ap ?_
 refine TO.DB 0 rfl rfl (by decide) (AU rfl rfl (by decide) rfl (NA hc (by omega) (by omega) (by omega) (by omega) (by omega) (by omega) (by omega)) ⟨ke rfl,ke rfl,ke rfl,ke rfl,trivial⟩) ?_
 refine TO.ex 99 rfl (fun z3=>TO.fact 99 rfl fun kK=> ?_)
 refine TO.B9 0 rfl fun t8 fN=> ?_
 have kU:=fN.len
 obtain ⟨aJ,JP⟩:=HM hw fN (by omega) (by omega) (by omega) (by omega)
 have hps:=hps.perm hls aJ
 have hk1:=JP.h1
 have hk2:=JP.h2
 generalize (PA c a1 b1 pv PL).1=k at*
 refine ap ?_
 refine Ea 0 1 2 3 10 14 15 rfl ?_
 refine a2 ?_
 refine N_ 0 1 2 3 9 10 14 16 17 rfl ?_
 refine ac ?_
 refine co rfl (CX rfl (vl rfl) (vl rfl) (by omega)) ?_
 refine a2 ?_
 refine FM 0 1 2 3 9 14 16 17 18 113 rfl ?_
 refine Tr.cn rfl ?_ ?_<;>intro h12 SV
 refine ac ?_
 refine Ea 0 1 2 3 8 9 14 rfl ?_
 refine ap ?_
 refine TO.DB 0 rfl rfl (by decide) (AU rfl rfl (by decide) rfl (ih (by omega) (by exact hps.Nc (Nat.le_of_lt JP.h2)) (by omega) (by omega) (by omega) (by omega) (by omega) (by omega)) ⟨ke rfl,ke rfl,ke rfl,ke rfl,trivial⟩) ?_
 refine TO.B9 0 rfl fun t9 aK=> ?_
 have kV:=aK.len
 have hps:=hps.left hw hls JP aK.1 aK.2
 refine ap ?_
 refine ac ?_
 exact Fin.EN (_) (_) ((FF,(_,_))) (_)  (⟨⟨⟨⟨by omega,by omega,by omega⟩,Lh,Li⟩,by omega,by exact hps⟩,by omega⟩) ⟨ke rfl,ke rfl,ke rfl,ke rfl,ke rfl,ke rfl,trivial⟩ (fun _ _ h=>h)
 refine ac ?_
 refine Ea 0 1 2 3 8 9 14 rfl ?_
 refine ap ?_
 refine TO.DB 0 rfl rfl (by decide) (AU rfl rfl (by decide) rfl (ih (by omega) (by exact JP.Nd) (by omega) (by omega) (by omega) (by omega) (by omega) (by omega)) ⟨ke rfl,ke rfl,ke rfl,ke rfl,trivial⟩) ?_
 refine TO.B9 0 rfl fun t10 Qi=> ?_
 have fO:=Qi.len
 have hps:=hps.right hw hls JP Qi.1 Qi.2
 refine ap ?_
 refine ac ?_
 exact Fin.EN (_) (_) ((FF,(_,_))) (_)  (⟨⟨⟨⟨by omega,by omega,by omega⟩,Lh,Li⟩,by omega,by exact hps⟩,by omega⟩) ⟨ke rfl,ke rfl,ke rfl,ke rfl,ke rfl,ke rfl,trivial⟩ (fun _ _ h=>h)
 refine ac ?_
 refine N_ 0 1 2 3 8 9 10 11 87 rfl ?_
 refine ac ?_
 refine ap ?_
 refine TO.DB 0 rfl rfl (by decide) (AU rfl rfl (by decide) rfl (NA hc (by omega) (by omega) (by omega) (by omega) (by omega) (by omega) (by omega)) ⟨ke rfl,ke rfl,ke rfl,ke rfl,trivial⟩) ?_
 refine TO.ex 99 rfl (fun z4=>TO.fact 99 rfl fun nZ=> ?_)
 refine TO.B9 0 rfl fun t11 VX=> ?_
 have fP:=VX.len
 obtain ⟨aJ,JP⟩:=HM hw VX (by omega) (by omega) (by omega) (by omega)
 have hps:=hps.perm hls aJ
 have hk1:=JP.h1
 have hk2:=JP.h2
 generalize (PA c a1 b1 pv PL).1=k at*
 refine ap ?_
 refine Ea 0 1 2 3 10 14 15 rfl ?_
 refine a2 ?_
 refine N_ 0 1 2 3 9 10 14 16 17 rfl ?_
 refine ac ?_
 refine co rfl (CX rfl (vl rfl) (vl rfl) (by omega)) ?_
 refine a2 ?_
 refine FM 0 1 2 3 9 14 16 17 18 113 rfl ?_
 refine Tr.cn rfl ?_ ?_<;>intro I7 Ud
 refine ac ?_
 refine Ea 0 1 2 3 8 9 14 rfl ?_
 refine ap ?_
 refine TO.DB 0 rfl rfl (by decide) (AU rfl rfl (by decide) rfl (ih (by omega) (by exact hps.Nc (Nat.le_of_lt JP.h2)) (by omega) (by omega) (by omega) (by omega) (by omega) (by omega)) ⟨ke rfl,ke rfl,ke rfl,ke rfl,trivial⟩) ?_
 refine TO.B9 0 rfl fun t12 Qj=> ?_
 have fQ:=Qj.len
 have hps:=hps.left hw hls JP Qj.1 Qj.2
 refine ap ?_
 refine ac ?_
 exact Fin.EN (_) (_) ((FF,(_,_))) (_)  (⟨⟨⟨⟨by omega,by omega,by omega⟩,Lh,Li⟩,by omega,by exact hps⟩,by omega⟩) ⟨ke rfl,ke rfl,ke rfl,ke rfl,ke rfl,ke rfl,trivial⟩ (fun _ _ h=>h)
 refine ac ?_
 refine Ea 0 1 2 3 8 9 14 rfl ?_
 refine ap ?_
 refine TO.DB 0 rfl rfl (by decide) (AU rfl rfl (by decide) rfl (ih (by omega) (by exact JP.Nd) (by omega) (by omega) (by omega) (by omega) (by omega) (by omega)) ⟨ke rfl,ke rfl,ke rfl,ke rfl,trivial⟩) ?_
 refine TO.B9 0 rfl fun t13 Qk=> ?_
 have fR:=Qk.len
 have hps:=hps.right hw hls JP Qk.1 Qk.2
 refine ap ?_
 refine ac ?_
 exact Fin.EN (_) (_) ((FF,(_,_))) (_)  (⟨⟨⟨⟨by omega,by omega,by omega⟩,Lh,Li⟩,by omega,by exact hps⟩,by omega⟩) ⟨ke rfl,ke rfl,ke rfl,ke rfl,ke rfl,ke rfl,trivial⟩ (fun _ _ h=>h)
theorem PT:∀(m:Nat) {l:List (Int)} {c:Int×Int→Int} {b0 cap len:Nat} {sp:List Value} {a b JM:Int},(hc:∀x y,c (x,y)=Ar x y)→(Ep:l.length=len)→(Gn:len≤1000000)→(hw:Go.Sort.SWO (Bp c))→(VW:len<50)→Go.Sort.Below (Bp c) a.toNat b.toNat l.toArray→0≤a→a≤b→b≤len→0≤JM→JM≤100→(b-a).toNat<m→BQ Tryz.prog 173 [is (.slice (some ⟨b0,0,none⟩) len cap),int a,int b,int JM] (CC) (AD true b0 3 ((l.map (fun t:Int=>[int t])).flatten++sp.map is)) (fun _=>Bw b0 3 (fun t:Int=>[int t]) (CS c a b l) (sp.map is))
 |0,_,_,_,_,_,_,_,_,_,_,_,_,_,_,_,_,_,_,_,_,h=>absurd h (Nat.not_lt_zero _)
 |m+1,_,_,_,_,_,_,_,_,_,hc,Ep,Gn,hw,VW,hB,h0,hab,hb,Sa,aE,hm=>S6 hc Ep Gn hw VW hB h0 hab hb Sa aE (m+1) hm (fun h1 h2 h3 h4 h5 h6 h7 h8=>PT m hc h1 Gn hw VW h2 h3 h4 h5 h6 h7 (by omega))
theorem PU {l:List (Int)} {c:Int×Int→Int} {b0 cap len:Nat} {sp:List Value}  (hc:∀x y,c (x,y)=Ar x y) (Ep:l.length=len) (hw:Go.Sort.SWO (Bp c)) (VW:len<50):BQ prog 128 [is (.slice (some ⟨b0,0,none⟩) len cap)] (CC) (AD true b0 3 ((l.map (fun t:Int=>[int t])).flatten++sp.map is)) (fun _=>Bw b0 3 (fun t:Int=>[int t]) (CS c 0 len l) (sp.map is)):=by
 refine BQ.of func128 rfl rfl (by exact Nb rfl) fun M0 w0 S rs M1 w1=> ?_
 have kW:IntKind.u64.wrap ((len:Nat):Int)=len:=IntWalk.u64_in _ ⟨by omega,by omega⟩
 refine ac ?_
 refine co rfl (Dz rfl underlying22 (vl rfl)) ?_
 refine ac ?_
 refine ap ?_
 refine tp rfl (Ci rfl underlying3 underlying137 (vl rfl)) (tp rfl (Cr (KV (by omega) (by omega)) rfl rfl) ?_)
 refine TO.ex 9 rfl (fun k=>TO.fact 9 rfl fun hk=> ?_)
 obtain ⟨hk1,hk2,kI⟩:=hk
 refine TO.DB 0 rfl rfl (by decide) (AU rfl rfl (by decide) rfl (PT (len+1) hc (by omega) (by omega) hw (by omega) (.inl rfl) (by omega) (by omega) (by omega) (by omega) (by omega) (by omega)) ⟨ke rfl,ke rfl,ke rfl,ke rfl,trivial⟩) (TO.B9 0 rfl fun t1 Fo=> ?_)
 have HW:=Fo.len
 refine TO.nil (Fin.Bl (CS c 0 len l) 0 rfl (Fo) (Fin.FY rfl))
theorem PV {l:List (Int)} {b0 cap len:Nat} {sp:List Value} (Ep:l.length=len) (Gn:len≤1000000) (hcap:len≤cap) (hm:cap≤maxLen):BQ prog 129 [is (.slice (some ⟨b0,0,none⟩) len cap)] (is (.slice (some ⟨b0,0,none⟩) (GJ l).length cap)) (AD true b0 3 ((l.map (fun t:Int=>[int t])).flatten++sp.map is)) (fun _=>AD true b0 3 (((GJ l).map (fun t:Int=>[int t])).flatten++((List.replicate (l.length-(GJ l).length) (([.int .i64 0]:List Value).map is)).flatten++sp.map is))):=by
 refine BQ.of func129 rfl rfl (by exact Nb rfl) fun M0 w0 S rs M1 w1=> ?_
 have l9:cap≤9223372036854775807:=by unfold maxLen at hm;omega
 refine a2 ?_
 refine co rfl (Dz rfl underlying22 (vl rfl)) ?_
 refine an ?_ ?_<;>intro h1 q1
 refine ac ?_
 refine Tr.ret (Fin.AF ?_)
 refine Fin.Ca rfl rfl ?_ (fun _ _ _ _=>by rw [JK (by omega),Nat.sub_self];rfl)
 · refine Pr.le_of_eq ?_;rw [JK (by omega),Ep]
 refine a2 ?_
 refine Tr.block ?_
 refine Tr.Tw [(0,_)] ⟨ke rfl,trivial⟩ (fun (k:Nat)=>[(3,int ((k:Nat):Int))]) (fun (k:Nat)=>Hp M0 w0 S (AD true b0 3 ((l.map (fun t:Int=>[int t])).flatten++sp.map is)::Ai M1 w1::rs)) (fun (k:Nat)=>(1≤k∧k≤len)∧GJ (l.take k)=l.take k) (fun (k:Nat)=>len-k) (1)  (⟨⟨by omega,by omega⟩,JK (by rw [List.length_take];omega)⟩) ⟨ke rfl,trivial⟩ (fun _ _ h=>h) ?_
 rintro k  ⟨⟨hk1,hk2⟩,bR⟩
 refine ac ?_
 refine co rfl (Dz rfl underlying22 (vl rfl)) ?_
 refine an ?_ ?_<;>intro h2 q2
 have JB:k<len:=by have:=of_decide_eq_true h2;omega
 obtain ⟨x,hx⟩:=at_ (l:=l) (k:=k) (by omega)
 obtain ⟨p,hp⟩:=at_ (l:=l) (k:=k-1) (by omega)
 refine a2 ?_
 refine co rfl (AA rfl underlying22 A4 (vl rfl) (vl rfl) (by omega) (by omega)) (co rfl (As 0 rfl (AS rfl Au (vl rfl) (F8 (g:=fun t:Int=>int t) (k:=k) (by omega) hx))) ?_)
 refine ac ?_
 refine co rfl (AA rfl underlying22 A4 (vl rfl) (vl rfl) (by omega) (by omega)) (co rfl (As 0 rfl (AS rfl Au (vl rfl) (F8 (g:=fun t:Int=>int t) (k:=k-1) (by omega) hp))) ?_)
 refine ac ?_
 refine Py 0 3 25 rfl ?_
 refine Tr.cn rfl ?_ ?_<;>intro h3 q3
 refine ac ?_
 refine co rfl (ER rfl underlying22 A4 (vl rfl) (vl rfl) (by omega) (by omega) (by omega)) ?_
 refine a2 ?_
 refine Tr.block (Tr.Dy [(0,_),(4,_)] ⟨ke rfl,ke rfl,trivial⟩ (fun (st:List (Int)) (w:Nat) (j:Nat)=>[(3,int ((w:Nat):Int)),(5,int ((j:Nat):Int))]) (fun (st:List (Int)) (w:Nat) (j:Nat)=>Hp M0 w0 S (AD true b0 3 ((st.map (fun t:Int=>[int t])).flatten++sp.map is)::Ai M1 w1::rs)) (fun (st:List (Int)) (w:Nat) (j:Nat)=>(st.length=len∧k≤w∧1≤j∧k+j≤len∧w+1≤k+j)∧st.take w=GJ (l.take (k+j))∧∀i,k+j≤i+1→st[i]? =l[i]?) (fun (st:List (Int)) (w:Nat) (j:Nat)=>len-(k+j)) (l) (k) (1)  (⟨⟨Ep,Nat.le_refl _,Nat.le_refl _,by omega,by omega⟩,by rw [Ow (by omega) hx hp (Iff.rfl.2 (by assumption)),bR],fun _ _=>rfl⟩) ⟨ke rfl,ke rfl,trivial⟩ (fun _ _ h=>h) ?_)
 rintro st w j  ⟨⟨Gp,hw1,TT,hj2,hw2⟩,ZD,hst⟩
 refine ac ?_
 refine co rfl (Dz rfl underlying22 (vl rfl)) ?_
 refine an ?_ ?_<;>intro h4 q4
 have hjl:k+j<len:=by have:=of_decide_eq_true h4;omega
 obtain ⟨u,hu⟩:=at_ (l:=l) (k:=k+j) (by omega)
 obtain ⟨v,hv⟩:=at_ (l:=l) (k:=k+j-1) (by omega)
 have bP:st[k+j]? =some u:=(hst _ (by omega)).trans hu
 have SE:st[k+j-1]? =some v:=(hst _ (by omega)).trans hv
 refine a2 ?_
 refine co rfl (AA rfl underlying22 A4 (vl rfl) (vl rfl) (by omega) (by omega)) (co rfl (As 0 rfl (AS rfl Au (vl rfl) (F8 (g:=fun t:Int=>int t) (k:=k+j) (by omega) bP))) ?_)
 refine ac ?_
 refine co rfl (AA rfl underlying22 A4 (vl rfl) (vl rfl) (by omega) (by omega)) (co rfl (As 0 rfl (AS rfl Au (vl rfl) (F8 (g:=fun t:Int=>int t) (k:=k+j-1) (by omega) SE))) ?_)
 refine ac ?_
 refine EL 0 3 4 5 44 rfl ?_
 refine Tr.cn rfl ?_ ?_<;>intro h5 q5
 refine ap ?_
 refine tp rfl (AA rfl underlying22 A4 (vl rfl) (vl rfl) (by omega) (by omega)) (TO.rd 0 rfl rfl rfl (by decide) (AS rfl Au (vl rfl) (F8 (g:=fun t:Int=>int t) (k:=k+j) (by omega) bP)) (tp rfl (AA rfl underlying22 A4 (vl rfl) (vl rfl) (by omega) (by omega)) ?_))
 refine TO.CY 0 rfl rfl (AW rfl rfl (vl rfl) (Vo rfl) A4 rfl (by rw [AV (sz:=1) (fun _=>rfl)];omega) (H6 (f:=(fun t:Int=>[int t])) (fun _=>rfl) (by omega))) ?_
 refine ap ?_
 refine ac ?_
 refine Dp 0 3 4 5 rfl ?_
 refine ac ?_
 exact Fin.Cj (st.set w u) (w+1) (j+1)  (⟨⟨⟨by rw [List.length_set];exact Gp,by omega,by omega,by omega,by omega⟩,by rw [Ut (by omega),ZD];exact (Us (j:=k+j) (by omega) hu hv (fun e=>absurd (Iff.rfl.1 e) (by assumption))).symm,fun i hi=>by rw [List.getElem?_set_ne (by omega)];exact hst i (by omega)⟩,by omega⟩) ⟨⟨_,rfl,AJ w⟩,⟨_,rfl,AJ j⟩,ke rfl,ke rfl,trivial⟩ (fun _ _ h=>h)
 refine a2 ?_
 exact Fin.Cj (st) (w) (j+1)  (⟨⟨⟨Gp,by omega,by omega,by omega,by omega⟩,ZD.trans (Ow (j:=k+j) (by omega) hu hv (Iff.rfl.2 (by assumption))).symm,fun i hi=>hst i (by omega)⟩,by omega⟩) ⟨ke rfl,⟨_,rfl,AJ j⟩,ke rfl,ke rfl,trivial⟩ (fun _ _ h=>h)
 have fA:k+j=len:=by have:=of_decide_eq_false h4;omega
 have hE:st.take w=GJ l:=by rw [ZD,fA,←Ep,List.take_length]
 have hW:(GJ l).length=w:=by rw [←hE,List.length_take];omega
 refine ac ?_
 refine ap ?_
 refine tp rfl (ER rfl underlying22 A4 (vl rfl) (vl rfl) (by omega) (by omega) (by omega)) ?_
 refine TO.CY 0 rfl rfl (K2 rfl rfl underlying22 A4 z3 rfl (by decide) (by decide) (vl rfl) (by omega) (by rw [AV (sz:=1) (fun _=>rfl)];omega) (IY (f:=(fun t:Int=>[int t])) (sz:=1) (l:=st) (i:=w) (fun _=>rfl) rfl (by omega) (by omega))) ?_
 refine ap ?_
 refine ac ?_
 refine co rfl (G3 rfl underlying22 A4 (vl rfl) (vl rfl) (by omega) (by omega) (by omega) (by omega)) ?_
 refine ac ?_
 refine CM 2 rfl (Tr.ret (Fin.AK (Fin.AF (Fin.AF (Fin.AK (Fin.AF (Fin.Ca rfl rfl ?_ (fun _ _ _ _=>by rw [hW,←hE,Ep,←Gp,List.append_assoc]))))))))
 · refine Pr.le_of_eq ?_;rw [hW,Int.toNat_natCast]
 refine a2 ?_
 exact Fin.IM (k+1)  (⟨⟨⟨by omega,by omega⟩,by rw [Us (by omega) hx hp (fun e=>absurd (Iff.rfl.1 e) (by assumption)),bR,List.take_add_one,hx];rfl⟩,by omega⟩) ⟨⟨_,rfl,AJ k⟩,ke rfl,trivial⟩ (fun _ _ h=>h)
 have gY:k=len:=by have:=of_decide_eq_false h2;omega
 refine a2 ?_
 refine Tr.ret ?_
 refine Fin.Ca rfl rfl ?_ (fun _ _ _ _=>by rw [show GJ l=l by rw [gY,←Ep,List.take_length] at bR;exact bR,Nat.sub_self];rfl)
 · refine Pr.le_of_eq ?_;rw [show GJ l=l by rw [gY,←Ep,List.take_length] at bR;exact bR,Ep]
def B8 (l:List (Int)):List (Int):=l.foldl (fun acc x=>Eg Ar acc x) []
theorem ID:∀(l acc:List (Int)),Vl Ar acc→Vl Ar (l.foldl (fun acc x=>Eg Ar acc x) acc)∧∀z,z∈l.foldl (fun acc x=>Eg Ar acc x) acc↔z∈acc∨z∈l
 |[],acc,h=>⟨h,fun z=>by simp⟩
 |x::l,acc,h=>by
  obtain ⟨h1,h2⟩:=ID l (Eg Ar acc x) (Jy CO (fun a b e=>BK.1 e) h)
  refine ⟨h1,fun z=> ?_⟩
  show z∈l.foldl _ _↔_
  rw [h2,LZ (fun a b e=>BK.1 e),List.mem_cons,or_assoc]
theorem GG (l:List (Int)):Vl Ar (B8 l):=(ID l [] List.Pairwise.nil).1
theorem C6 (l:List (Int)) (z:Int):z∈B8 l↔z∈l:=by rw [B8,(ID l [] List.Pairwise.nil).2];simp
theorem PW {l st:List (Int)} (hp:st.Perm l) (hs:DV Ar st):GJ st=B8 l:=
 Ox CO (QS CO (fun a b e=>BK.1 e) hs) (GG l) fun x=>by rw [Xe,C6];exact hp.mem_iff
theorem aN {l:List Int} (h:Vl Ar l):KT l:=by
 intro i a b ha hb
 have hp:=List.pairwise_iff_getElem.1 h
 have h1:=Ew ha
 have h2:=Ew hb
 have:=hp i (i+1) h1 h2 (by omega)
 rw [List.getElem?_eq_getElem h1] at ha
 rw [List.getElem?_eq_getElem h2] at hb
 cases ha;cases hb
 unfold Ar at this
 split at this
 · assumption
 · split at this<;>omega
theorem S7 (l:List Int):KT (B8 l):=aN (GG l)
theorem GH {l:List Int} {n:Nat}:EX (B8 l) n↔EX l n:=⟨fun h i hi=>h i ((C6 l i).2 hi),fun h i hi=>h i ((C6 l i).1 hi)⟩
theorem NB (l:List Int):(B8 l).length≤l.length:=by
 have key:∀(l acc:List Int),(l.foldl (fun acc x=>Eg Ar acc x) acc).length≤acc.length+l.length:=by
  intro l
  induction l with
  |nil=>intro acc;simp
  |cons x l ih=>
   intro acc
   have h1:=ih (Eg Ar acc x)
   have h2:=Iv Ar x acc
   rw [List.foldl_cons,List.length_cons];omega
 have:=key l []
 unfold B8;simpa using this
theorem NC {l:List Int} (h0:l≠[]) (hl:l.length≤100000):BQ prog 127 [ints l] (lens (l.map (fun t:Int=>[int t])).length) (Bz) (fun v=>DZ 3 1 (l.map (fun t:Int=>[int t])) v):=by
 refine BQ.of func127 rfl rfl (by exact Nb rfl) fun M0 w0 S rs M1 w1=> ?_
 have hpos:0<l.length:=List.length_pos_iff.2 h0
 refine a2 ?_
 refine co rfl (IJ rfl underlying22 (vl rfl)) ?_
 refine ac ?_
 refine Tr.ex 4 rfl (fun z1=>Tr.fact 4 rfl fun KD=> ?_)
 refine Tr.cn rfl ?_ ?_<;>intro h1 q1
 exfalso;have:=KD h1;simp_all
 refine ac ?_
 refine ap ?_
 refine TO.pad ?_
 refine TO.MK 0 rfl rfl (by decide) (K1 rfl rfl (by decide) rfl underlying22 A4 MO z3 rfl (by decide) (by decide) (vl rfl) (vl rfl) (by rw [List.length_map];exact hpos) (by rw [List.length_map];unfold maxLen;omega) (by rw [List.length_map];omega)) (fun v1=> ?_)
 refine ap ?_
 refine Tr.ret (Fin.drop 1 ?_)
 refine Fin.Ca rfl rfl ?_ (by intro _ _ _ h;rw [h.1])
 · exact BL _ _
theorem Qu {l:List Ac} {n:Int} {own:List Int} (h0:own≠[]) (hs:own.length<50):BT prog 72 [Bu l,Dm n own] (DT [ints (B8 own),bool (decide (EX own l.length))]):=by
 refine fo func72 rfl ⟨rfl,rfl⟩ fun M0 w0=>(Tr.D9 0 rfl fun Dg=> ?_)
 refine ac ?_
 refine ap ?_
 refine TO.pad ?_
 refine TO.MK 0 rfl rfl (by decide) (HH rfl rfl (by decide) rfl (NC h0 (by omega)) ⟨ke rfl,trivial⟩) (fun v1=> ?_)
 refine TO.He 0 rfl fun b1 N0 U_ TW L5 hm1 hs1=> ?_
 subst TW
 refine ap ?_
 refine ap ?_
 refine TO.DB 0 rfl rfl (by decide) (AU rfl rfl (by decide) rfl (PU (l:=own) (c:=fun p=>Ar p.1 p.2) (len:=(own.map (fun t:Int=>[int t])).length) (sp:=U_) (fun _ _=>rfl) (List.length_map ..).symm CO.kC (by rw [List.length_map];exact hs)) ⟨(Ka rfl),trivial⟩) ?_
 refine TO.B9 0 rfl fun t1 Fo=> ?_
 have HW:=Fo.len
 have hsp:=H_ CO (by rw [List.length_map] at Fo;exact Fo)
 have hdn:=PW hsp.1 hsp.2
 have nq:KT (GJ t1):=by rw [hdn];exact S7 _
 have mA:∀m,EX (GJ t1) m↔EX own m:=fun m=>by rw [hdn];exact GH
 have kZ:=Fc t1
 refine ap ?_
 refine ap ?_
 refine TO.DB 0 rfl rfl (by decide) (AU rfl rfl (by decide) rfl (PV (l:=t1) (len:=(own.map (fun t:Int=>[int t])).length) (sp:=U_) (HW.trans (List.length_map ..).symm) (by rw [List.length_map];omega) L5 hm1) ⟨(Ka rfl),trivial⟩) ?_
 refine ap ?_
 refine ac ?_
 refine co rfl (Dz rfl underlying22 (vl rfl)) ?_
 refine ag ?_ ?_<;>intro h1 q1
 have hpos:(GJ t1).length=0:=by omega
 refine ac ?_
 refine EK 4 5 rfl (Tr.ret ?_)
 refine Fin.K3 (sz:=1) ((GJ t1).map (fun t:Int=>[int t])) 0 4 rfl rfl (Pr.le_of_eq (by rw [List.length_map])) (A8 fun _=>rfl) (by have:=Fc t1;simp only [List.length_map] at L5 ⊢;omega) hm1 (by have bS:=Fc t1;rw [HW] at bS;simp only [List.length_append,List.length_map,hs1,HW];rw [Bt (sz:=1) (fun r hr=>by rw [List.eq_of_mem_replicate hr];rfl),List.length_replicate];simp only [List.length_map] at L5 ⊢;omega) ?_
 refine Fin.Cq rfl (Ba.Cz _ _) rfl ?_ rfl ?_
 · exact Pr.le_trans (BL _ _) (Pr.le_of_eq (by rw [hdn]))
 · refine bool_eq ?_;symm;rw [decide_eq_true_eq,←mA];intro i hi;have hn:GJ t1=[]:=List.eq_nil_of_length_eq_zero hpos;rw [hn] at hi;cases hi
 have hpos:0<(GJ t1).length:=by omega
 obtain ⟨a,ha0⟩:=at_ (l:=GJ t1) (k:=0) hpos
 obtain ⟨z,hz⟩:=at_ (l:=GJ t1) (k:=(GJ t1).length-1) (by omega)
 have hiff:=Ns nq (m:=l.length) ha0 hz
 rw [mA] at hiff
 refine DL h1 rfl (cy h1 rfl (AA rfl underlying22 A4 (vl rfl) (vl rfl) (by omega) (by omega)) (cy h1 rfl (As 0 rfl (AS rfl Au (vl rfl) (E9 (f:=(fun t:Int=>[int t])) (x:=a) (fun _=>rfl) ha0 rfl))) ?_))
 refine ag ?_ ?_<;>intro h2 q2
 refine ac ?_
 refine cy h2 rfl (Dz rfl underlying22 (vl rfl)) ?_
 refine cy h2 rfl (Ff rfl (vl rfl) (vl rfl) ?hin) ?_;case hin=>unfold C7;omega
 refine cy h2 rfl (AA rfl underlying22 A4 (vl rfl) (vl rfl) (by omega) (by omega)) ?_
 refine cy h2 rfl (As 0 rfl (AS rfl Au (vl rfl) (E9 (f:=(fun t:Int=>[int t])) (x:=z) (fun _=>rfl) (by rw [show (((GJ t1).length:Int)-1).toNat=(GJ t1).length-1 by omega];exact hz) rfl))) ?_
 refine ac ?_
 refine EK 4 5 rfl (Tr.ret ?_)
 refine Fin.K3 (sz:=1) ((GJ t1).map (fun t:Int=>[int t])) 0 4 rfl rfl (Pr.le_of_eq (by rw [List.length_map])) (A8 fun _=>rfl) (by have:=Fc t1;simp only [List.length_map] at L5 ⊢;omega) hm1 (by have bS:=Fc t1;rw [HW] at bS;simp only [List.length_append,List.length_map,hs1,HW];rw [Bt (sz:=1) (fun r hr=>by rw [List.eq_of_mem_replicate hr];rfl),List.length_replicate];simp only [List.length_map] at L5 ⊢;omega) ?_
 refine Fin.Cq rfl (Ba.Cz _ _) rfl ?_ rfl ?_
 · exact Pr.le_trans (BL _ _) (Pr.le_of_eq (by rw [hdn]))
 · refine bool_eq ?_;rw [decide_eq_decide,hiff];omega
 refine ac ?_
 refine EK 4 5 rfl (Tr.ret ?_)
 refine Fin.K3 (sz:=1) ((GJ t1).map (fun t:Int=>[int t])) 0 4 rfl rfl (Pr.le_of_eq (by rw [List.length_map])) (A8 fun _=>rfl) (by have:=Fc t1;simp only [List.length_map] at L5 ⊢;omega) hm1 (by have bS:=Fc t1;rw [HW] at bS;simp only [List.length_append,List.length_map,hs1,HW];rw [Bt (sz:=1) (fun r hr=>by rw [List.eq_of_mem_replicate hr];rfl),List.length_replicate];simp only [List.length_map] at L5 ⊢;omega) ?_
 refine Fin.Cq rfl (Ba.Cz _ _) rfl ?_ rfl ?_
 · exact Pr.le_trans (BL _ _) (Pr.le_of_eq (by rw [hdn]))
 · refine bool_eq ?_;symm;rw [decide_eq_false_iff_not,hiff];omega
theorem Dc {l:List Ac} {n:Int} {own:List Int} (hs:own.length<50):BT Tryz.prog 72 [Bu l,Dm n own] (DT [ints (B8 own),bool (decide (EX own l.length))]):=by
 by_cases h:own=[]
 ·
  subst h
  exact Mo (own:=[]) (fun i a b h=>by simp at h) (by decide)
 · exact Qu h hs
theorem PX {a:Int}:∀{own:List Int},a∈own→∃j,own[j]? =some a∧((own.take j).any fun y=>y==a)=false
 |[],h=>by simp at h
 |b::r,h=>by
  by_cases hb:b=a
  · exact ⟨0,by rw [hb];rfl,rfl⟩
  ·
   rcases List.mem_cons.1 h with h1|h1
   · exact absurd h1.symm hb
   ·
    obtain ⟨j,h2,h3⟩:=PX h1
    exact ⟨j+1,by rw [List.getElem?_cons_succ];exact h2,by rw [List.take_succ_cons,List.any_cons,h3,beq_eq_false_iff_ne.2 hb];rfl⟩
theorem Ge {f g:Ac} {a b:Int}:Et g f b a=false↔¬better g f∧(¬better f g→a≤b):=by
 unfold Et better
 by_cases h1:g.day=f.day
 ·
  rw [if_pos h1]
  by_cases h2:g.B5=f.B5
  · rw [if_pos h2,decide_eq_false_iff_not];omega
  · rw [if_neg h2,decide_eq_false_iff_not];omega
 · rw [if_neg h1,decide_eq_false_iff_not];omega
theorem Iz {l:List Ac} {t o:Int} {own:List Int} {f:Ac} {a:Int}:own.any (FH l t o f a)=false↔∀b∈own,∀g,l[b.toNat]? =some g→Vb t o g→Ay g=Ay f→Et g f b a=false:=by
 rw [List.any_eq_false]
 constructor
 ·
  intro h b hb g hg hin hp
  have:=h b hb
  rw [PR hg,decide_eq_true (show g.day≤t by unfold Vb at hin;omega),decide_eq_true (show t-o≤g.day by unfold Vb at hin;omega),decide_eq_true hp] at this
  simpa using this
 ·
  intro h b hb h1
  unfold FH at h1
  split at h1
  ·
   rename_i g hg
   simp only [Bool.and_eq_true,decide_eq_true_eq] at h1
   have:=h b hb g hg (by unfold Vb;omega) h1.1.2
   rw [this] at h1;exact absurd h1.2 (by decide)
  · cases h1
theorem Lu {l:List Ac} {own:List Int} {t o:Int} {k:Nat} {a:Int} {f:Ac}:CR l own t o k a f=true↔Vb t o f∧¬f.kind=8∧own.any (FH l t o f a)=false∧((own.take k).any fun y=>y==a)=false:=by
 unfold CR Vb
 simp only [Bool.and_eq_true,decide_eq_true_eq,Bool.not_eq_true']
 constructor
 · rintro ⟨⟨⟨⟨h1,h2⟩,h3⟩,h4⟩,h5⟩;exact ⟨by omega,h3,h4,h5⟩
 · rintro ⟨h1,h3,h4,h5⟩;exact ⟨⟨⟨⟨by omega,by omega⟩,h3⟩,h4⟩,h5⟩
def YH (l:List Ac) (n:Int) (own:List Int) (t o:Int) (x:BF):Prop:=∃a f,a∈own∧l[a.toNat]? =some f∧Vb t o f∧¬f.kind=8∧own.any (FH l t o f a)=false∧x=Hj n a f
theorem N7 {l:List Ac} {n t o:Int} {own:List Int} {x:BF}:∀{k:Nat},x∈DG l n own t o k↔∃j a f,j<k∧own[j]? =some a∧l[a.toNat]? =some f∧CR l own t o j a f=true∧x=Hj n a f
 |0=>by simp [DG]
 |k+1=>by
  have ih:=N7 (l:=l) (n:=n) (t:=t) (o:=o) (own:=own) (x:=x) (k:=k)
  have up:(∃j a f,j<k∧own[j]? =some a∧l[a.toNat]? =some f∧CR l own t o j a f=true∧x=Hj n a f)→∃j a f,j<k+1∧own[j]? =some a∧l[a.toNat]? =some f∧CR l own t o j a f=true∧x=Hj n a f:=fun ⟨j,a,f,h1,h2⟩=>⟨j,a,f,by omega,h2⟩
  have down:(∀a f,own[k]? =some a→l[a.toNat]? =some f→¬CR l own t o k a f=true)→(∃j a f,j<k+1∧own[j]? =some a∧l[a.toNat]? =some f∧CR l own t o j a f=true∧x=Hj n a f)→∃j a f,j<k∧own[j]? =some a∧l[a.toNat]? =some f∧CR l own t o j a f=true∧x=Hj n a f:=fun hn ⟨j,a,f,h1,h2,h3,h4,h5⟩=>by
   rcases Nat.lt_or_eq_of_le (Nat.le_of_lt_succ h1) with h6|h6
   · exact ⟨j,a,f,h6,h2,h3,h4,h5⟩
   · subst h6;exact absurd h4 (hn a f h2 h3)
  cases ha:own[k]? with
  |none=>
   have e:DG l n own t o (k+1)=DG l n own t o k:=by show (match own[k]? with|none=>_|some a=>_)=_;rw [ha]
   rw [e,ih]
   exact ⟨up,down fun a f h=>by rw [ha] at h;cases h⟩
  |some a=>
   cases hf:l[a.toNat]? with
   |none=>
    have e:DG l n own t o (k+1)=DG l n own t o k:=by show (match own[k]? with|none=>_|some a=>_)=_;rw [ha];show (match l[a.toNat]? with|none=>_|some f=>_)=_;rw [hf]
    rw [e,ih]
    exact ⟨up,down fun b f h h2=>by rw [ha] at h;cases h;rw [hf] at h2;cases h2⟩
   |some f=>
    rw [N6 ha hf]
    by_cases hg:CR l own t o k a f=true
    ·
     rw [if_pos hg,(GF _).mem_iff,List.mem_cons,ih]
     constructor
     ·
      rintro (h|h)
      · exact ⟨k,a,f,by omega,ha,hf,hg,h⟩
      · exact up h
     ·
      rintro ⟨j,b,g,h1,h2,h3,h4,h5⟩
      rcases Nat.lt_or_eq_of_le (Nat.le_of_lt_succ h1) with h6|h6
      · exact .inr ⟨j,b,g,h6,h2,h3,h4,h5⟩
      ·
       subst h6
       rw [ha] at h2;cases h2;rw [hf] at h3;cases h3
       exact .inl h5
    ·
     rw [if_neg hg,ih]
     exact ⟨up,down fun b g h h2=>by rw [ha] at h;cases h;rw [hf] at h2;cases h2;exact hg⟩
theorem Lv {l:List Ac} {n t o:Int} {own:List Int} {x:BF}:x∈DG l n own t o own.length↔YH l n own t o x:=by
 rw [N7]
 constructor
 ·
  rintro ⟨j,a,f,_,h2,h3,h4,h5⟩
  obtain ⟨g1,g2,g3,_⟩:=Lu.1 h4
  exact ⟨a,f,List.mem_of_getElem? h2,h3,g1,g2,g3,h5⟩
 ·
  rintro ⟨a,f,h1,h2,h3,h4,h5,h6⟩
  obtain ⟨j,g1,g2⟩:=PX h1
  exact ⟨j,a,f,CD g1,g1,h2,Lu.2 ⟨h3,h4,h5,g2⟩,h6⟩
theorem ND (l:List Ac) (n:Int) (own:List Int) (t o:Int):∀k,(DG l n own t o k).Nodup
 |0=>List.Pairwise.nil
 |k+1=>by
  have ih:=ND l n own t o k
  cases ha:own[k]? with
  |none=>
   have e:DG l n own t o (k+1)=DG l n own t o k:=by show (match own[k]? with|none=>_|some a=>_)=_;rw [ha]
   rw [e];exact ih
  |some a=>
   cases hf:l[a.toNat]? with
   |none=>
    have e:DG l n own t o (k+1)=DG l n own t o k:=by show (match own[k]? with|none=>_|some a=>_)=_;rw [ha];show (match l[a.toNat]? with|none=>_|some f=>_)=_;rw [hf]
    rw [e];exact ih
   |some f=>
    rw [N6 ha hf]
    by_cases hg:CR l own t o k a f=true
    ·
     rw [if_pos hg,(GF _).nodup_iff,List.nodup_cons]
     refine ⟨fun hm=> ?_,ih⟩
     obtain ⟨j,b,g,h1,h2,h3,h4,h5⟩:=N7.1 hm
     have hab:a=b:=congrArg BF.Uz h5
     subst hab
     have h6:=(Lu.1 hg).2.2.2
     rw [List.any_eq_false] at h6
     exact h6 a (List.mem_of_getElem? (by rw [List.getElem?_take,if_pos h1];exact h2)) (beq_iff_eq.2 rfl)
    · rw [if_neg hg];exact ih
theorem Yw {l:List Int} (h:Vl Ar l):l.Pairwise (· ≤ ·):=h.imp fun {a b} h=>by
 unfold Ar at h
 split at h
 · omega
 · split at h<;>omega
theorem Vt {l:List Ac} {n t o:Int} {own:List Int} (hi:EX own l.length) {x:BF}:x∈((Co l (B8 own) t o).filterMap fun p=>Cg l n p.2)↔YH l n own t o x:=by
 have hi':=GH.2 hi
 have hp:=Yw (GG own)
 constructor
 ·
  intro hx
  obtain ⟨f,h1,h2,h3,h4,h5,_,h7⟩:=YA hi' hp hx
  refine ⟨x.Uz,f,(C6 _ _).1 h1,h2,h4,h3,Iz.2 fun b hb g hg hin WR=>Ge.2 (h7 b ((C6 _ _).2 hb) g hg hin WR),h5⟩
 ·
  rintro ⟨a,f,h1,h2,h3,h4,h5,rfl⟩
  have hd:=Lj (t:=t) (o:=o) hi' hp
  obtain ⟨p,mB,e1,f1,Yv,h6,h7⟩:=hd.best a ((C6 _ _).2 h1) f h2 h3
  obtain ⟨g1,g,hg,e2,hin⟩:=hd.val p mB
  rw [Yv] at hg;cases hg
  have h8:=Ge.1 (Iz.1 h5 p.2 ((C6 _ _).1 g1) f1 Yv hin (by rw [e2,e1]))
  have h9:=h7 h8.1
  have h10:=h8.2 h6
  have hpa:p.2=a:=by omega
  refine List.mem_filterMap.2 ⟨p,mB,?_⟩
  rw [hpa]
  exact Ip h2 h4
theorem S8 {l:List Ac} {n t o:Int} {own:List Int} (hi:EX own l.length):((Co l (B8 own) t o).filterMap fun p=>Cg l n p.2).Nodup:=by
 have hd:=Lj (t:=t) (o:=o) (GH.2 hi) (Yw (GG own))
 have h1:(Co l (B8 own) t o).Pairwise fun p q=>¬p.2=q.2:=List.Pairwise.imp_of_mem (fun {p q} hp hq h e=>by
  obtain ⟨_,f,hf,e1,_⟩:=hd.val p hp
  obtain ⟨_,g,hg,e2,_⟩:=hd.val q hq
  rw [e,hg] at hf;cases hf
  exact h (by rw [←e1,←e2])) hd.keys
 refine List.Pairwise.filterMap _ (fun p q h x hx y hy e=>h ?_) h1
 unfold Cg at hx hy
 cases hp:l[p.2.toNat]? with
 |none=>rw [hp] at hx;cases hx
 |some f=>
  cases hq:l[q.2.toNat]? with
  |none=>rw [hq] at hy;cases hy
  |some g=>
   rw [hp] at hx;rw [hq] at hy
   simp only at hx hy
   split at hx
   · cases hx
   ·
    split at hy
    · cases hy
    ·
     cases hx;cases hy
     exact congrArg BF.Uz e
theorem PY:∀{l:List Int},Fq l=0→∀c∈l,c=0
 |[],_,c,h=>by simp at h
 |a::l,h,c,hc=>by
  rw [Bg] at h
  by_cases ha:a=0
  ·
   rw [if_pos ha] at h
   rcases List.mem_cons.1 hc with rfl|hc
   · exact ha
   · exact PY h c hc
  · rw [if_neg ha] at h;exact absurd h ha
theorem YI {l:List Ac} {n t o:Int} {own:List Int} {x y:BF} (hx:YH l n own t o x) (hy:YH l n own t o y) (h:En x y=0):x=y:=by
 obtain ⟨a,f,h1,h2,h3,_,h5,rfl⟩:=hx
 obtain ⟨b,g,k1,k2,k3,_,k5,rfl⟩:=hy
 have hz:=PY (l:=[Lib.compareBytes f.BM g.BM,Ar f.kind g.kind,Ar f.BI g.BI,Ar f.bits g.bits,Ar f.num g.num,Lib.compareBytes f.text g.text]) h
 have e1:=(CB _ _).1 (hz _ (by simp:Lib.compareBytes f.BM g.BM∈_))
 have e2:=BK.1 (hz _ (by simp:Ar f.kind g.kind∈_))
 have e3:=BK.1 (hz _ (by simp:Ar f.BI g.BI∈_))
 have e4:=BK.1 (hz _ (by simp:Ar f.bits g.bits∈_))
 have e5:=BK.1 (hz _ (by simp:Ar f.num g.num∈_))
 have e6:=(CB _ _).1 (hz _ (by simp:Lib.compareBytes f.text g.text∈_))
 have hp:Ay g=Ay f:=by unfold Ay;rw [e1,e2,e3,e4,e5,e6]
 have q1:=Ge.1 (Iz.1 h5 b k1 g k2 k3 hp)
 have q2:=Ge.1 (Iz.1 k5 a h1 f h2 h3 hp.symm)
 have q3:=q1.2 q2.1
 have q4:=q2.2 q1.1
 have hab:a=b:=by omega
 subst hab
 rw [h2] at k2;cases k2;rfl
theorem facts_eq {l:List Ac} {n t o:Int} {own:List Int} {st:List BF} (hi:EX own l.length) (hp:st.Perm ((Co l (B8 own) t o).filterMap fun p=>Cg l n p.2)) (hs:DV En st):st=DG l n own t o own.length:=by
 have h1:st.Perm (DG l n own t o own.length):=hp.trans ((List.perm_ext_iff_of_nodup (S8 hi) (ND _ _ _ _ _ _)).2 fun x=>(Vt hi).trans Lv.symm)
 exact Jv Ex h1 hs (HC _ _ _ _ _ _) fun x y hx hy e=>YI (Lv.1 (h1.mem_iff.1 hx)) (Lv.1 (h1.mem_iff.1 hy)) e
open Classical in
noncomputable def I0 (l:List Ac) (n:Int) (own:List Int) (t o:Int):List BF×Int:=if BO l then (if t<0∨40000<t∨o<0∨4000<o then ([],2) else if EX own l.length then (DG l n own t o own.length,0) else ([],4)) else ([],24)
theorem PZ {l:List Ac} {n t o:Int} {own:List Int} (h:¬BO l):I0 l n own t o=([],24):=by unfold I0;rw [if_neg h]
theorem Pa {l:List Ac} {n t o:Int} {own:List Int} (h:BO l) (h2:t<0∨40000<t∨o<0∨4000<o):I0 l n own t o=([],2):=by unfold I0;rw [if_pos h,if_pos h2]
theorem Pb {l:List Ac} {n t o:Int} {own:List Int} (h:BO l) (h2:¬(t<0∨40000<t∨o<0∨4000<o)) (h3:¬EX own l.length):I0 l n own t o=([],4):=by unfold I0;rw [if_pos h,if_neg h2,if_neg h3]
theorem Rz {l:List Ac} {n t o:Int} {own:List Int} (h:BO l) (h2:¬(t<0∨40000<t∨o<0∨4000<o)) (h3:EX own l.length):I0 l n own t o=(DG l n own t o own.length,0):=by unfold I0;rw [if_pos h,if_neg h2,if_pos h3]
theorem S9 {l:List Ac} {n t o:Int} {own:List Int} (hN:BO l) (hf:∀f∈l,f.fits) (ht:0≤t∧t≤40000) (ho:0≤o∧o≤4000) (hi:EX own l.length) (hs:own.length<50):BT prog 32 [Bu l,Dm n own,int t,int o] (DT [CI (DG l n own t o own.length),int 0]):=by
 refine fo func32 rfl ⟨rfl,rfl⟩ fun M0 w0=> ?_
 have E8:=NB own
 have hi2:EX (B8 own) l.length:=GH.2 hi
 have hml:(Co l (B8 own) t o).length<50:=Nat.lt_of_le_of_lt (X8 ..) (by omega)
 haveI:=Classical.propDecidable (BO l)
 obtain ⟨ht1,ht2⟩:=ht
 obtain ⟨gW,l7⟩:=ho
 have iN:=hN.len
 refine a2 ?_
 refine co rfl (EE (Dc hs) rfl rfl rfl) ?_
 refine a2 ?_
 refine co rfl (Cr (C4 (by assumption)) rfl rfl) ?_
 refine ac ?_
 refine Ea 0 2 3 5 10 11 28 rfl ?_
 refine Tr.cn rfl ?_ ?_<;>intro h1 q1
 exfalso;simp_all
 refine ag ?_ ?_<;>intro h2 q2
 exfalso;omega
 refine ag ?_ ?_<;>intro h3 q3
 exfalso;omega
 refine ag ?_ ?_<;>intro h4 q4
 exfalso;omega
 refine ac ?_
 refine Ea 0 2 3 5 10 11 32 rfl ?_
 refine Tr.cn rfl ?_ ?_<;>intro h5 q5
 exfalso;omega
 refine an ?_ ?_<;>intro h6 q6
 exfalso;simp_all
 refine ac ?_
 refine Tr.seq (Tr.CA ?_)
 refine TO.Yj Im rfl rfl (by decide) rfl (fun b1=> ?_)
 refine ao ?_
 refine ac ?_
 refine HU 0 2 3 5 12 51 52 53 rfl (Tr.block (Tr.Fy [(0,_),(2,_),(3,_),(5,_),(12,_),(51,_),(52,_)] ⟨ke rfl,ke rfl,ke rfl,ke rfl,ke rfl,ke rfl,ke rfl,trivial⟩ (fun k:Nat=>[(53,int ((k:Nat):Int))]) (fun k:Nat=>Hp M0 w0 Je ([G2 Im b1 (Co l ((B8 own).take k) t o)])) (fun k:Nat=>k≤((B8 own)).length) (fun k:Nat=>((B8 own)).length-k) 0 (Nat.zero_le _) ⟨ke rfl,trivial⟩ (fun _ _ h=>h) ?_))
 rintro k Cb
 refine ac ?_
 refine Tr.seq ?_
 refine Tr.cn rfl ?_ ?_<;>intro h7 q7
 have Az:k<((B8 own)).length:=Ak h7
 obtain ⟨i,A7⟩:=at_ Az
 have iO:=hi2 i (List.mem_of_getElem? A7)
 obtain ⟨f,O3⟩:=at_ (l:=l) (k:=i.toNat) (by omega)
 have hstep:=O1 (l:=l) (t:=t) (o:=o) A7
 refine ac ?_
 refine Tr.seq (Tr.block (Tr.seq (Tr.Ax (co rfl (AB rfl underlying22 A4 (vl rfl) (vl rfl) (by omega) (Am A7)) ?_))))
 refine ac ?_
 refine ao ?_
 refine tp rfl (AB rfl underlying31 AY (vl rfl) (vl rfl) (by omega) (A_ O3)) (tp rfl (Ad rfl BE AY (vl rfl) rfl rfl) ?_)
 refine Tl rfl rfl rfl rfl EO JG (fun b2=> ?_)
 refine sf 0 15 ⟨rfl,rfl,rfl⟩ rfl rfl rfl rfl ?_
 refine ao ?_
 refine FM 0 2 3 5 12 14 15 51 52 53 rfl ?_
 refine ag ?_ ?_<;>intro h8 q8
 refine ac ?_
 refine Hr 0 2 3 5 12 14 15 51 52 53 72 rfl ?_
 refine a2 ?_
 rw [G8 O3 (by omega)] at hstep
 exact Fin.NL (k+1) ⟨Az,by omega⟩ ⟨⟨_,rfl,AJ k⟩,ke rfl,ke rfl,ke rfl,ke rfl,ke rfl,ke rfl,ke rfl,trivial⟩ (fun _ _ h=>by rw [hstep];exact h)
 refine ac ?_
 refine Hr 0 2 3 5 12 14 15 51 52 53 72 rfl ?_
 refine Tr.cn rfl ?_ ?_<;>intro h9 q9
 refine a2 ?_
 rw [G8 O3 (by omega)] at hstep
 exact Fin.NL (k+1) ⟨Az,by omega⟩ ⟨⟨_,rfl,AJ k⟩,ke rfl,ke rfl,ke rfl,ke rfl,ke rfl,ke rfl,ke rfl,trivial⟩ (fun _ _ h=>by rw [hstep];exact h)
 refine ac ?_
 refine ao ?_
 refine tp rfl (Cr (C5) rfl rfl) (TO.rd 0 rfl rfl rfl (by decide) (MR (Ay f) Cf rfl (vl rfl) (vl rfl) (fun _ _ _ h=>Ec h)) ?_)
 refine ao ?_
 refine cC 0 2 3 5 12 14 15 16 17 51 52 53 rfl ?_
 refine ag ?_ ?_<;>intro h10 SQ
 have QV:(Cp.look (Co l ((B8 own).take k) t o) (Ay f)).isSome=false:=by simpa using h10
 refine ac ?_
 refine Hr 0 2 3 5 12 14 15 51 52 53 111 rfl (Tr.cond rfl (fun _=> ?_) (fun h=>nomatch h))
 refine Tr.CA (tm rfl (tp rfl (Ad rfl BE AY (vl rfl) rfl rfl) (tp rfl (Cr (C5) rfl rfl) (tm rfl (TO.CY 0 rfl rfl (Eu (Ay f) Cf rfl rfl rfl (vl rfl) (vl rfl) (fun _ _ _ h=>Ec h) (vl rfl)) ?_)))))
 refine ao ?_
 refine HU 0 2 3 5 12 51 52 53 rfl ?_
 refine ac ?_
 rw [LP O3 (by omega) QV] at hstep
 exact Fin.NL (k+1) ⟨Az,by omega⟩ ⟨⟨_,rfl,AJ k⟩,ke rfl,ke rfl,ke rfl,ke rfl,ke rfl,ke rfl,ke rfl,trivial⟩ (fun _ _ h=>by rw [hstep];exact h)
 have hsome:(Cp.look (Co l ((B8 own).take k) t o) (Ay f)).isSome=true:=by simpa using h10
 have Y7:=Rj (Ri (t:=t) (o:=o) k hi2) hsome
 obtain ⟨g,hg⟩:=at_ (l:=l) (k:=((Cp.look (Co l ((B8 own).take k) t o) (Ay f)).getD 0).toNat) (by omega)
 refine ac ?_
 refine cy h10 rfl (AB rfl underlying31 AY (vl rfl) (vl rfl) (by omega) (A_ hg)) ?_
 refine ag ?_ ?_<;>intro h11 WV
 refine ac ?_
 refine Hr 0 2 3 5 12 14 15 51 52 53 111 rfl (Tr.cond rfl (fun _=> ?_) (fun h=>nomatch h))
 refine Tr.CA (tm rfl (tp rfl (Ad rfl BE AY (vl rfl) rfl rfl) (tp rfl (Cr (C5) rfl rfl) (tm rfl (TO.CY 0 rfl rfl (Eu (Ay f) Cf rfl rfl rfl (vl rfl) (vl rfl) (fun _ _ _ h=>Ec h) (vl rfl)) ?_)))))
 refine ao ?_
 refine HU 0 2 3 5 12 51 52 53 rfl ?_
 refine ac ?_
 rw [D2 O3 (by omega) hsome hg,if_pos (by unfold better;omega)] at hstep
 exact Fin.NL (k+1) ⟨Az,by omega⟩ ⟨⟨_,rfl,AJ k⟩,ke rfl,ke rfl,ke rfl,ke rfl,ke rfl,ke rfl,ke rfl,trivial⟩ (fun _ _ h=>by rw [hstep];exact h)
 refine ac ?_
 refine cy h11 rfl (AB rfl underlying31 AY (vl rfl) (vl rfl) (by omega) (A_ hg)) ?_
 refine ag ?_ ?_<;>intro h12 SV
 refine ac ?_
 refine cy h12 rfl (AB rfl underlying31 AY (vl rfl) (vl rfl) (by omega) (A_ hg)) ?_
 refine ac ?_
 refine Hr 0 2 3 5 12 14 15 51 52 53 111 rfl ?_
 refine Tr.cn rfl ?_ ?_<;>intro I7 Ud
 refine ao ?_
 refine tp rfl (Cr (C5) rfl rfl) (tm rfl (TO.CY 0 rfl rfl (Eu (Ay f) Cf rfl rfl rfl (vl rfl) (vl rfl) (fun _ _ _ h=>Ec h) (vl rfl)) ?_))
 refine ao ?_
 refine HU 0 2 3 5 12 51 52 53 rfl ?_
 refine ac ?_
 rw [D2 O3 (by omega) hsome hg,if_pos (by unfold better;omega)] at hstep
 exact Fin.NL (k+1) ⟨Az,by omega⟩ ⟨⟨_,rfl,AJ k⟩,ke rfl,ke rfl,ke rfl,ke rfl,ke rfl,ke rfl,ke rfl,trivial⟩ (fun _ _ h=>by rw [hstep];exact h)
 refine a2 ?_
 rw [D2 O3 (by omega) hsome hg,if_neg (by unfold better;omega)] at hstep
 exact Fin.NL (k+1) ⟨Az,by omega⟩ ⟨⟨_,rfl,AJ k⟩,ke rfl,ke rfl,ke rfl,ke rfl,ke rfl,ke rfl,ke rfl,trivial⟩ (fun _ _ h=>by rw [hstep];exact h)
 refine ac ?_
 refine Hr 0 2 3 5 12 14 15 51 52 53 111 rfl ?_
 refine a2 ?_
 rw [D2 O3 (by omega) hsome hg,if_neg (by unfold better;omega)] at hstep
 exact Fin.NL (k+1) ⟨Az,by omega⟩ ⟨⟨_,rfl,AJ k⟩,ke rfl,ke rfl,ke rfl,ke rfl,ke rfl,ke rfl,ke rfl,trivial⟩ (fun _ _ h=>by rw [hstep];exact h)
 have B2:k=((B8 own)).length:=by have:=Ao h7;omega
 subst B2
 rw [List.take_length]
 refine a2 ?_
 refine ao ?_
 refine TO.range Cf rfl rfl (by decide) rfl (vl rfl) (show _=some (G2 Im _ _) from rfl:_[0]? =_) (fun b3=> ?_)
 refine ao ?_
 refine Tr.block (Tr.K4 110 8 (Tr.Gy [(0,_),(5,_),(118,_)] ⟨ke rfl,ke rfl,ke rfl,trivial⟩ (fun (seen:List Nat) v=>[(18,BB v (lens ((MD l n (Co l (B8 own) t o) seen).map AL).length))]) (fun (seen:List Nat) v=>Hp M0 w0 Je ([Bc 110 8 ((MD l n (Co l (B8 own) t o) seen).map AL) v,Jo b3 b1 (Co l (B8 own) t o).length seen,G2 Im b1 (Co l (B8 own) t o)])) (fun (seen:List Nat)=>seen.Nodup∧∀q∈seen,q<(Co l (B8 own) t o).length) (fun (seen:List Nat)=>(Co l (B8 own) t o).length-seen.length) ([]) (.slice none 0 0) (⟨List.nodup_nil,fun q hq=>by cases hq⟩) ⟨⟨_,rfl,Ib (by rfl)⟩,trivial⟩ (fun _ _ h=>h) ?_))
 rintro seen v ⟨hnd,hlt⟩
 refine Tr.seq (Tr.CA ?_)
 refine TO.next (i:=1) (j:=2) rfl rfl (by decide) rfl (vl rfl) rfl rfl (fun U2=> ?_) (fun q1 p1 hq1 hn1=> ?_)
 refine ao ?_
 refine ac ?_
 refine ao ?_
 refine TO.DB 0 rfl rfl (by decide) (AU rfl rfl (by decide) rfl (VZ (c:=fun p=>En p.1 p.2) Ex.kC (Nat.lt_of_le_of_lt (Nat.le_trans (Io ..) (Ev hnd hlt)) hml)) ⟨(Ka rfl),⟨_,rfl,Bi Qn (fun _=>Qm)⟩,trivial⟩) ?_
 refine TO.UH 0 18 rfl rfl (fun _=>rfl) (fun t1 Fo=> ?_)
 have HW:=Fo.len
 have hsp:=H_ Ex Fo
 have hst:t1.Perm ((Co l (B8 own) t o).filterMap fun p=>Cg l n p.2):=hsp.1.trans (Sw hnd hlt U2)
 have nr:=facts_eq hi hst hsp.2
 refine ao ?_
 refine ac ?_
 refine Tr.ret (Fin.Cq rfl (Ba.Cz _ _) rfl ?_ rfl ?_)
 · exact Pr.le_trans (BL _ _) (Pr.le_of_eq (by rw [nr]))
 · exact Lr
 refine ao ?_
 refine ac ?_
 refine Tr.block (Tr.seq ?_)
 have hin:=(Nt (l:=l) (t:=t) (o:=o) (B8 own) [] (by intro p hp;simp at hp) hi2) p1 (List.mem_of_getElem? hq1)
 obtain ⟨g,hg⟩:=at_ (l:=l) (k:=p1.2.toNat) (by omega)
 have hof:=Mq l n (Co l (B8 own) t o) seen q1
 rw [hq1] at hof
 have l8:=Nat.le_trans (Io l n (Co l (B8 own) t o) seen) (Ev hnd hlt)
 refine Tr.CA ?_
 refine TO.entry (i:=1) (j:=2) rfl rfl (by decide) rfl (vl rfl) rfl rfl hq1 ?_
 refine ao ?_
 refine ao ?_
 refine tp rfl (AB rfl underlying31 AY (vl rfl) (vl rfl) (by omega) (A_ hg)) (tp rfl (Ad rfl BE AY (vl rfl) rfl rfl) ?_)
 refine Tl rfl rfl rfl rfl EO JG (fun b4=> ?_)
 refine sf 0 21 ⟨rfl,rfl,rfl⟩ rfl rfl rfl rfl ?_
 refine ao ?_
 refine EZ 0 5 18 20 21 118 rfl ?_
 refine an ?_ ?_<;>intro Ue Zq
 refine ao ?_
 refine TO.MK 0 rfl rfl (by decide) (F3 rfl rfl (by decide) rfl underlying63 AH G0 FN rfl (by decide) (by decide) (vl rfl) (Kf rfl) (A8 fun _=>rfl) (Nat.zero_lt_succ _) (by simp only [List.length_map,List.length_cons,List.length_nil];unfold maxLen;omega) (by simp only [List.length_map,List.length_cons,List.length_nil];omega)) (fun v1=> ?_)
 refine ao ?_
 rw [show ((some p1).bind fun p=>Cg l n p.2)=_ from Ip hg (by omega)] at hof
 exact Fin.C9 (seen++[q1]) v1 (HR hnd hlt hn1 (CD hq1)) ⟨⟨_,rfl,D0 (by rw [hof,List.map_append,List.length_append];rfl)⟩,ke rfl,ke rfl,ke rfl,trivial⟩ (fun _ _ h=>EW (by rw [hof,List.map_append];rfl) h)
 refine Tr.skip (Fin.block ?_)
 rw [show ((some p1).bind fun p=>Cg l n p.2)=_ from Nu hg (by omega)] at hof
 exact Fin.C9 (seen++[q1]) v (HR hnd hlt hn1 (CD hq1)) ⟨⟨_,rfl,D0 (by rw [hof,List.map_append,List.length_append];rfl)⟩,ke rfl,ke rfl,ke rfl,trivial⟩ (fun _ _ h=>EW (by rw [hof,List.map_append];simp) h)
theorem Vu {l:List Ac} {n t o:Int} {own:List Int} (hN:¬BO l) (hf:∀f∈l,f.fits) (hs:own.length<50):BT prog 32 [Bu l,Dm n own,int t,int o] (DT [CI [],int 24]):=by
 refine fo func32 rfl ⟨rfl,rfl⟩ fun M0 w0=> ?_
 haveI:=Classical.propDecidable (BO l)
 refine a2 ?_
 refine co rfl (EE (Dc hs) rfl rfl rfl) ?_
 refine a2 ?_
 refine co rfl (Cr (C4 (by assumption)) rfl rfl) ?_
 refine ac ?_
 refine Ea 0 2 3 5 10 11 28 rfl ?_
 refine Tr.cn rfl ?_ ?_<;>intro h1 q1
 refine ac ?_
 refine Tr.ret (Fin.AK (Fin.AF (Fin.Cq rfl (Ba.Cz _ _) rfl ?_ rfl ?_)))
 · exact AZ 8
 · exact Lr
 exfalso;simp_all
theorem Vv {l:List Ac} {n t o:Int} {own:List Int} (hN:BO l) (hf:∀f∈l,f.fits) (hs:own.length<50) (hr:t<0∨40000<t∨o<0∨4000<o):BT prog 32 [Bu l,Dm n own,int t,int o] (DT [CI [],int 2]):=by
 refine fo func32 rfl ⟨rfl,rfl⟩ fun M0 w0=> ?_
 haveI:=Classical.propDecidable (BO l)
 refine a2 ?_
 refine co rfl (EE (Dc hs) rfl rfl rfl) ?_
 refine a2 ?_
 refine co rfl (Cr (C4 (by assumption)) rfl rfl) ?_
 refine ac ?_
 refine Ea 0 2 3 5 10 11 28 rfl ?_
 refine Tr.cn rfl ?_ ?_<;>intro h1 q1
 exfalso;simp_all
 refine ag ?_ ?_<;>intro h2 q2
 refine ac ?_
 refine Ea 0 2 3 5 10 11 32 rfl ?_
 refine ac ?_
 refine Tr.ret (Fin.AK (Fin.AF (Fin.Cq rfl (Ba.Cz _ _) rfl ?_ rfl ?_)))
 · exact AZ 8
 · exact Lr
 refine ag ?_ ?_<;>intro h3 q3
 refine ac ?_
 refine Ea 0 2 3 5 10 11 32 rfl ?_
 refine ac ?_
 refine Tr.ret (Fin.AK (Fin.AF (Fin.Cq rfl (Ba.Cz _ _) rfl ?_ rfl ?_)))
 · exact AZ 8
 · exact Lr
 refine ag ?_ ?_<;>intro h4 q4
 refine ac ?_
 refine Ea 0 2 3 5 10 11 32 rfl ?_
 refine ac ?_
 refine Tr.ret (Fin.AK (Fin.AF (Fin.Cq rfl (Ba.Cz _ _) rfl ?_ rfl ?_)))
 · exact AZ 8
 · exact Lr
 refine ac ?_
 refine Ea 0 2 3 5 10 11 32 rfl ?_
 refine Tr.cn rfl ?_ ?_<;>intro h5 q5
 refine ac ?_
 refine Tr.ret (Fin.AK (Fin.AF (Fin.Cq rfl (Ba.Cz _ _) rfl ?_ rfl ?_)))
 · exact AZ 8
 · exact Lr
 exfalso;omega
theorem Vw {l:List Ac} {n t o:Int} {own:List Int} (hN:BO l) (hf:∀f∈l,f.fits) (hs:own.length<50) (hr:¬(t<0∨40000<t∨o<0∨4000<o)) (hi:¬EX own l.length):BT prog 32 [Bu l,Dm n own,int t,int o] (DT [CI [],int 4]):=by
 refine fo func32 rfl ⟨rfl,rfl⟩ fun M0 w0=> ?_
 haveI:=Classical.propDecidable (BO l)
 refine a2 ?_
 refine co rfl (EE (Dc hs) rfl rfl rfl) ?_
 refine a2 ?_
 refine co rfl (Cr (C4 (by assumption)) rfl rfl) ?_
 refine ac ?_
 refine Ea 0 2 3 5 10 11 28 rfl ?_
 refine Tr.cn rfl ?_ ?_<;>intro h1 q1
 exfalso;simp_all
 refine ag ?_ ?_<;>intro h2 q2
 exfalso;omega
 refine ag ?_ ?_<;>intro h3 q3
 exfalso;omega
 refine ag ?_ ?_<;>intro h4 q4
 exfalso;omega
 refine ac ?_
 refine Ea 0 2 3 5 10 11 32 rfl ?_
 refine Tr.cn rfl ?_ ?_<;>intro h5 q5
 exfalso;omega
 refine an ?_ ?_<;>intro h6 q6
 refine ac ?_
 refine Tr.ret (Fin.AK (Fin.AF (Fin.Cq rfl (Ba.Cz _ _) rfl ?_ rfl ?_)))
 · exact AZ 8
 · exact Lr
 exfalso;simp_all
theorem S_ {l:List Ac} {n t o:Int} {own:List Int} (hN:¬BO l):BT prog 33 [Bu l,Dm n own,int t,int o] (DT [CI [],int 24]):=by
 refine fo func33 rfl ⟨rfl,rfl⟩ fun M0 w0=> ?_
 haveI:=Classical.propDecidable (BO l)
 refine a2 ?_
 refine co rfl (Cr (Cd) rfl rfl) ?_
 refine an ?_ ?_<;>intro h1 q1
 refine ac ?_
 refine Tr.ret (Fin.AF (Fin.Cq rfl (Ba.Cz _ _) rfl ?_ rfl ?_))
 · exact AZ 8
 · exact Lr
 exfalso;simp_all
theorem TC {l:List Ac} {n t o:Int} {own:List Int} (hN:BO l) (hr:t<0∨40000<t∨o<0∨4000<o):BT prog 33 [Bu l,Dm n own,int t,int o] (DT [CI [],int 2]):=by
 refine fo func33 rfl ⟨rfl,rfl⟩ fun M0 w0=> ?_
 haveI:=Classical.propDecidable (BO l)
 refine a2 ?_
 refine co rfl (Cr (Cd) rfl rfl) ?_
 refine an ?_ ?_<;>intro h1 q1
 exfalso;simp_all
 refine ac ?_
 refine ag ?_ ?_<;>intro h2 q2
 refine ac ?_
 refine EL 0 2 3 5 35 rfl ?_
 refine ac ?_
 refine Tr.ret (Fin.AF (Fin.Cq rfl (Ba.Cz _ _) rfl ?_ rfl ?_))
 · exact AZ 8
 · exact Lr
 refine ag ?_ ?_<;>intro h3 q3
 refine ac ?_
 refine EL 0 2 3 5 35 rfl ?_
 refine ac ?_
 refine Tr.ret (Fin.AF (Fin.Cq rfl (Ba.Cz _ _) rfl ?_ rfl ?_))
 · exact AZ 8
 · exact Lr
 refine ag ?_ ?_<;>intro h4 q4
 refine ac ?_
 refine EL 0 2 3 5 35 rfl ?_
 refine ac ?_
 refine Tr.ret (Fin.AF (Fin.Cq rfl (Ba.Cz _ _) rfl ?_ rfl ?_))
 · exact AZ 8
 · exact Lr
 refine ac ?_
 refine EL 0 2 3 5 35 rfl ?_
 refine Tr.cn rfl ?_ ?_<;>intro h5 q5
 refine ac ?_
 refine Tr.ret (Fin.AF (Fin.Cq rfl (Ba.Cz _ _) rfl ?_ rfl ?_))
 · exact AZ 8
 · exact Lr
 exfalso;omega
theorem TD {l:List Ac} {n t o:Int} {own:List Int} (hN:BO l) (hs:own.length≤1000) (hr:¬(t<0∨40000<t∨o<0∨4000<o)) (hi:¬EX own l.length):BT prog 33 [Bu l,Dm n own,int t,int o] (DT [CI [],int 4]):=by
 refine fo func33 rfl ⟨rfl,rfl⟩ fun M0 w0=> ?_
 haveI:=Classical.propDecidable (BO l)
 refine a2 ?_
 refine co rfl (Cr (Cd) rfl rfl) ?_
 refine an ?_ ?_<;>intro h1 q1
 exfalso;simp_all
 refine ac ?_
 refine ag ?_ ?_<;>intro h2 q2
 exfalso;omega
 refine ag ?_ ?_<;>intro h3 q3
 exfalso;omega
 refine ag ?_ ?_<;>intro h4 q4
 exfalso;omega
 refine ac ?_
 refine EL 0 2 3 5 35 rfl ?_
 refine Tr.cn rfl ?_ ?_<;>intro h5 q5
 exfalso;omega
 refine a2 ?_
 refine co rfl (EE (HS (by omega)) rfl rfl rfl) ?_
 refine ac ?_
 refine an ?_ ?_<;>intro h6 q6
 refine ac ?_
 refine EK 8 9 rfl (Tr.ret (Fin.AF (Fin.Cq rfl (Ba.Cz _ _) rfl ?_ rfl ?_)))
 · exact AZ 8
 · refine int_eq ?_;rw [if_neg hi]
 exact absurd q6 (by rw [if_neg hi];decide)
theorem Vx {l:List Ac} {n t o:Int} {own:List Int} (hf:∀f∈l,f.fits) (hs:own.length<50):BT Tryz.prog 32 [Bu l,Dm n own,int t,int o] (DT [CI (I0 l n own t o).1,int (I0 l n own t o).2]):=by
 by_cases hN:BO l
 ·
  by_cases hr:t<0∨40000<t∨o<0∨4000<o
  · rw [Pa hN hr];exact Vv hN hf hs hr
  ·
   by_cases hi:EX own l.length
   · rw [Rz hN hr hi];exact S9 hN hf ⟨by omega,by omega⟩ ⟨by omega,by omega⟩ hi hs
   · rw [Pb hN hr hi];exact Vw hN hf hs hr hi
 · rw [PZ hN];exact Vu hN hf hs
theorem NF {l:List Ac} {n t o:Int} {own:List Int} (hs:own.length<50):BT Tryz.prog 33 [Bu l,Dm n own,int t,int o] (DT [CI (I0 l n own t o).1,int (I0 l n own t o).2]):=by
 by_cases hN:BO l
 ·
  by_cases hr:t<0∨40000<t∨o<0∨4000<o
  · rw [Pa hN hr];exact TC hN hr
  ·
   by_cases hi:EX own l.length
   · rw [Rz hN hr hi];exact Vk hN ⟨by omega,by omega⟩ ⟨by omega,by omega⟩ hi (by omega)
   · rw [Pb hN hr hi];exact TD hN (by omega) hr hi
 · rw [PZ hN];exact S_ hN
end Go.Proofs.YtgilhkjlfongoaaGreat
