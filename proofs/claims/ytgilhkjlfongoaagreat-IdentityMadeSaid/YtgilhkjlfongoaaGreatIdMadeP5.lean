/-
  Part 5 of the texts that prove this claim, merged.
-/
import Derived.Test.YtgilhkjlfongoaaGreatRows
import Derived.RangeFuncFrom
import Derived.RangeFuncLeaves
import Derived.OrdersIn
import Derived.Test.YtgilhkjlfongoaaGreatIdMadeP4
set_option linter.all false
set_option maxRecDepth 40000
set_option maxHeartbeats 16000000
namespace Go.Proofs.YtgilhkjlfongoaaGreat
open Go Go.RowKit Cp Go.Proofs.Tryz
section
variable {α:Type} {c:α→α→Int} {l:List α} {x:α}
def D1 (c:α→α→Int) (l:List α) (x:α):Nat:=(l.takeWhile fun y=>decide (c y x<0)).length
theorem Gz (c:α→α→Int) (l:List α) (x:α):D1 c l x≤l.length:=by
 unfold D1
 have h:=List.takeWhile_append_dropWhile (p:=fun y=>decide (c y x<0)) (l:=l)
 have:=congrArg List.length h
 rw [List.length_append] at this;omega
theorem NF:∀{l:List α} {k:Nat},k≤l.length→(∀(j:Nat) y,j<k→l[j]? =some y→c y x<0)→(∀y,l[k]? =some y→¬c y x<0)→D1 c l x=k
  | [], k, hk, _, _ => by have : k = 0 := by simpa using hk
                          subst this;rfl
  |y::r,0,_,_,h2=>by unfold D1;rw [List.takeWhile_cons_of_neg (by simpa using h2 y rfl)];rfl
  |y::r,k+1,hk,h1,h2=>by
    have ih:=NF (l:=r) (k:=k) (by simpa using hk) (fun j z hj hz=>h1 (j+1) z (by omega) (by simpa using hz)) (fun z hz=>h2 z (by simpa using hz))
    unfold D1 at ih ⊢
    rw [List.takeWhile_cons_of_pos (by simpa using h1 0 y (by omega) rfl),List.length_cons,ih]
theorem NG:∀{l:List α} {j:Nat} {y:α},j<D1 c l x→l[j]? =some y→c y x<0
 |[],j,y,h,_=>by unfold D1 at h;simp at h
 |z::r,j,y,h,hy=>by
  by_cases hz:c z x<0
  ·
   cases j with
   |zero=>simp at hy;subst hy;exact hz
   |succ j=>
    refine NG (l:=r) (j:=j) ?_ (by simpa using hy)
    unfold D1 at h ⊢
    rw [List.takeWhile_cons_of_pos (by simpa using hz),List.length_cons] at h;omega
  · unfold D1 at h;rw [List.takeWhile_cons_of_neg (by simpa using hz)] at h;simp at h
theorem NH:∀{l:List α} {y:α},l[D1 c l x]? =some y→¬c y x<0
 |[],y,h=>by simp at h
 |z::r,y,h=>by
  by_cases hz:c z x<0
  ·
   unfold D1 at h
   rw [List.takeWhile_cons_of_pos (by simpa using hz),List.length_cons,List.getElem?_cons_succ] at h
   exact NH (l:=r) h
  · unfold D1 at h;rw [List.takeWhile_cons_of_neg (by simpa using hz)] at h;simp at h;subst h;exact hz
abbrev LD (c:α→α→Int) (l:List α) (x:α):Bool:=(l[D1 c l x]?).any (fun y=>decide (c y x=0))
theorem OG (h:LD c l x=true):Cn c l x=l:=by
 rw [Gv (Gz c l x) (fun j y=>NG) (fun y=>NH),if_pos h]
theorem OH (h:LD c l x=false):Cn c l x=l.take (D1 c l x)++[x]++l.drop (D1 c l x):=by
 rw [Gv (Gz c l x) (fun j y=>NG) (fun y=>NH),if_neg (by unfold LD at h;simp [h])];simp
abbrev GC (c:α→α→Int) (l:List α):Prop:=l.Pairwise fun a b=>c a b<0
theorem XN (hc:Jd c) (hs:GC c l) {h:Nat} {y:α} (hy:l[h]? =some y) (cv:c y x<0):∀(k:Nat) z,k<h+1→l[k]? =some z→c z x<0:=by
 intro k z hk hz
 rcases Nat.lt_or_eq_of_le (Nat.le_of_lt_succ hk) with h1|h1
 ·
  have GJ:=Bh hz
  have Yp:=Bh hy
  have:=List.pairwise_iff_getElem.1 hs k h GJ Yp h1
  rw [List.getElem?_eq_getElem GJ] at hz
  rw [List.getElem?_eq_getElem Yp] at hy
  simp only [Option.some.injEq] at hz hy
  rw [hz,hy] at this
  exact hc.tr z y x this cv
 · subst h1;rw [hy] at hz;cases hz;exact cv
theorem XO (hc:Jd c) (hs:GC c l) {h:Nat} {y:α} (hy:l[h]? =some y) (cv:¬c y x<0):∀(k:Nat) z,h≤k→l[k]? =some z→¬c z x<0:=by
 intro k z hk hz kE
 rcases Nat.lt_or_eq_of_le hk with h1|h1
 ·
  have GJ:=Bh hz
  have Yp:=Bh hy
  have:=List.pairwise_iff_getElem.1 hs h k Yp GJ h1
  rw [List.getElem?_eq_getElem GJ] at hz
  rw [List.getElem?_eq_getElem Yp] at hy
  simp only [Option.some.injEq] at hz hy
  rw [hz,hy] at this
  exact cv (hc.tr y z x this kE)
 · subst h1;rw [hy] at hz;cases hz;exact cv kE
theorem OI {i:Nat} (hp:D1 c l x=i) (hi:l.length≤i):LD c l x=false:=by
 unfold LD;rw [hp,List.getElem?_eq_none hi];rfl
theorem Jy {i:Nat} {y:α} (hp:D1 c l x=i) (hy:l[i]? =some y):LD c l x=decide (c y x=0):=by
 unfold LD;rw [hp,hy];rfl
end
theorem Tw {a:List UInt8}  :Be prog 183 [str a] (bool false):=by
 refine fo func183 rfl ⟨rfl,rfl⟩ fun M0 w0=> ?_
 refine a3 ?_
 · refine bool_eq ?_;simp_all
theorem Rs {a:List UInt8}  :Be prog 139 [str a] (bool false):=by
 refine fo func139 rfl ⟨rfl,rfl⟩ fun M0 w0=> ?_
 refine a3 ?_
 · refine bool_eq ?_;simp_all
theorem Rt {a:Int}  :Be prog 143 [int a] (bool false):=by
 refine fo func143 rfl ⟨rfl,rfl⟩ fun M0 w0=> ?_
 refine a3 ?_
 · refine bool_eq ?_;simp_all
theorem V6 {a b:List UInt8}  :Be prog 138 [str a,str b] (bool (decide (Lib.compareBytes a b= -1))):=by
 refine fo func138 rfl ⟨rfl,rfl⟩ fun M0 w0=> ?_
 refine a2 ?_
 refine co rfl (Eh (Tw) rfl rfl) (cm rfl ?_)
 refine Ch.cs 7 rfl ?_ ?_<;>intro h1 q1
 exact absurd h1 (by decide)
 refine ac ?_
 refine cy rfl rfl (O5 rfl (vl rfl) (vl rfl)) ?_
 refine ac ?_
 refine Cg 4 rfl ?_
 refine ac ?_
 · exact Lr
theorem Yq {l:List (List UInt8)} {x:List UInt8} {b0 cap:Nat} {sp:List Value} (hs:GC Lib.compareBytes l) (hl:l.length≤1000000) (hcap:l.length≤cap):A5 prog 92 [Aq (.slice (some ⟨b0,0,none⟩) l.length cap) (lens l.length),str x] (FZ [int ((D1 Lib.compareBytes l x:Nat):Int),bool (LD Lib.compareBytes l x)]) (AA true b0 9 ((l.map (fun t:List UInt8=>[str t])).flatten++sp.map is)) (fun _=>AA true b0 9 ((l.map (fun t:List UInt8=>[str t])).flatten++sp.map is)):=by
 refine A5.of func92 rfl rfl (by exact Nb rfl) fun M0 w0 S rs M1 w1=> ?_
 refine a2 ?_
 refine co rfl (Hv rfl underlying53 (Ka rfl)) ?_
 refine a2 ?_
 refine Tr.seq (Tr.block ?_)
 refine Tr.Ca [(0,_),(1,_),(6,_)] ⟨ke rfl,ke rfl,ke rfl,trivial⟩ (fun (i:Nat) (j:Nat)=>[(7,int ((i:Nat):Int)),(8,int ((j:Nat):Int))]) (fun (i:Nat) (j:Nat)=>Hp M0 w0 S (AA true b0 9 ((l.map (fun t:List UInt8=>[str t])).flatten++sp.map is)::Ak M1 w1::rs)) (fun (i:Nat) (j:Nat)=>i≤j∧j≤l.length∧(∀(k:Nat) y,k<i→l[k]? =some y→Lib.compareBytes y x<0)∧(∀(k:Nat) y,j≤k→l[k]? =some y→¬Lib.compareBytes y x<0)) (fun (i:Nat) (j:Nat)=>j-i) (0) (l.length)  (⟨Nat.zero_le _,Nat.le_refl _,fun k y h=>absurd h (Nat.not_lt_zero _),fun k y h1 h2=>by rw [List.getElem?_eq_none h1] at h2;cases h2⟩) ⟨ke rfl,ke rfl,trivial⟩ (fun _ _ h=>h) ?_
 rintro i j  ⟨hi1,hi2,Yr,hi4⟩
 refine an ?_ ?_<;>intro h1 q1
 have hij:i<j:=by have:=of_decide_eq_true h1;omega
 obtain ⟨y,Ys⟩:=at_ (l:=l) (k:=(i+j)/2) (by omega)
 have hy:l[((((i:Nat):Int)+((j:Nat):Int))/2).toNat]? =some y:=by rw [show ((((i:Nat):Int)+((j:Nat):Int))/2).toNat=(i+j)/2 by omega];exact Ys
 refine a2 ?_
 refine co rfl (Nu rfl underlying3 underlying137 (vl rfl) (by omega) (by omega)) (co rfl (Qi rfl (vl rfl) (vl rfl) (by omega)) ?_)
 refine co rfl (KM rfl underlying137 underlying3 (vl rfl) (by unfold Em;omega)) ?_
 refine ac ?_
 refine FK 0 1 6 7 8 9 rfl ?_
 refine ac ?_
 refine co rfl (AD rfl underlying53 Da (Ka rfl) (vl rfl) (by omega) (by omega)) (co rfl (Ay 0 rfl (B2 rfl Nc (vl rfl) (FN (f:=fun t:List UInt8=>[str t]) (fun _=>rfl) (i:=(((i:Nat):Int)+((j:Nat):Int))/2) hy rfl))) (cm rfl (co rfl (F3 (V6) rfl rfl rfl) ?_)))
 refine an ?_ ?_<;>intro h2 q2
 have hlt:=q2
 refine ac ?_
 exact Fin.Bw ((i+j)/2+1) (j)  (⟨⟨by omega,by omega,XN Dk hs Ys (by have:=Il y x;omega),hi4⟩,by omega⟩) ⟨⟨_,rfl,int_eq (by omega)⟩,⟨_,rfl,int_eq (by omega)⟩,ke rfl,ke rfl,ke rfl,trivial⟩ (fun _ _ h=>h)
 have hlt:=q2
 refine ac ?_
 exact Fin.Bw (i) ((i+j)/2)  (⟨⟨by omega,by omega,Yr,XO Dk hs Ys (by have:=Il y x;omega)⟩,by omega⟩) ⟨⟨_,rfl,int_eq (by omega)⟩,⟨_,rfl,int_eq (by omega)⟩,ke rfl,ke rfl,ke rfl,trivial⟩ (fun _ _ h=>h)
 obtain rfl:i=j:=(by have:=of_decide_eq_false h1;omega)
 have hp:D1 Lib.compareBytes l x=i:=NF (by omega) Yr (fun y hy=>hi4 i y (by omega) hy)
 refine ac ?_
 refine ag ?_ ?_<;>intro h3 q3
 obtain ⟨y,V7⟩:=at_ (l:=l) (k:=i) (by omega)
 refine ac ?_
 refine cy h3 rfl (AD rfl underlying53 Da (Ka rfl) (vl rfl) (by omega) (by omega)) ?_
 refine cy h3 rfl (Ay 0 rfl (B2 rfl Nc (vl rfl) (FN (f:=fun t:List UInt8=>[str t]) (fun _=>rfl) (i:=((i:Nat):Int)) (by rw [Int.toNat_natCast];exact V7) rfl))) ?_
 refine ag ?_ ?_<;>intro h4 q4
 refine ac ?_
 refine F8 4 5 rfl (Tr.ret (Fin.Ll rfl rfl ?_ rfl ?_))
 · exact int_eq (by rw [hp])
 · refine bool_eq ?_;rw [Jy hp V7];symm;rw [decide_eq_true_eq];exact (CK _ _).2 (by simp_all)
 refine ac ?_
 refine cy h4 rfl (AD rfl underlying53 Da (Ka rfl) (vl rfl) (by omega) (by omega)) ?_
 refine cy h4 rfl (Ay 0 rfl (B2 rfl Nc (vl rfl) (FN (f:=fun t:List UInt8=>[str t]) (fun _=>rfl) (i:=((i:Nat):Int)) (by rw [Int.toNat_natCast];exact V7) rfl))) ?_
 refine cy h4 rfl (Eh (Rs) rfl rfl) (Dh h4 rfl ?_)
 refine Ch.cs 48 rfl ?_ ?_<;>intro h5 q5
 exact absurd h5 (by decide)
 refine ac ?_
 refine F8 4 5 rfl (Tr.ret (Fin.Ll rfl rfl ?_ rfl ?_))
 · exact int_eq (by rw [hp])
 · refine bool_eq ?_;rw [Jy hp V7];symm;rw [decide_eq_false_iff_not];intro h0;have:=(CK _ _).1 h0;simp_all
 refine ac ?_
 refine F8 4 5 rfl (Tr.ret (Fin.Ll rfl rfl ?_ rfl ?_))
 · exact int_eq (by rw [hp])
 · refine bool_eq ?_;rw [OI hp (by omega)]
theorem Yt:Entry Tryz.prog 92:=⟨_,Tryz.func92,rfl,rfl⟩
theorem Yu {x:List UInt8}  :Be prog 92 [is (.slice none 0 0),str x] (FZ [int 0,bool false]):=by
 refine Be.of func92 rfl rfl (by exact Nb rfl) fun M0 w0=> ?_
 refine Tr.seq (Tr.A0 (cm rfl (cm rfl (Ch.nil (Fin.go (Tr.seq (Tr.A0 (cm rfl (co rfl (Gn rfl underlying53 (vl rfl)) (cm rfl (Ch.nil (Fin.go (Tr.seq (Tr.A0 ?_))))))))))))))
 refine cm rfl (cm rfl (cm rfl (Ch.nil (Fin.go (Tr.seq (Tr.block (Tr.BV [(0,_),(1,_),(6,_)] (RI rfl) (fun (u:Unit)=>[(7,int 0),(8,int 0)]) (fun (u:Unit)=>True) (fun (u:Unit)=>0) () (trivial) ⟨ke rfl,ke rfl,trivial⟩ ?_)))))))
 rintro u _
 refine Tr.seq (Tr.seq (Tr.A0 (cm rfl (cm rfl (co rfl (ki rfl rfl rfl rfl) (Ch.nil (Fin.go ?_)))))))
 refine Tr.cn rfl ?_ ?_<;>intro h1 q1
 exact absurd h1 (by decide)
 have:=h1
 refine Tr.exit (Fin.AK (Fin.AK (Fin.Aa (Fin.go (Tr.seq (Tr.A0 (cm rfl (cm rfl (cm rfl (co rfl (ki rfl rfl rfl rfl) (cm rfl ?_)))))))))))
 refine Ch.cs 35 rfl ?_ ?_<;>intro h2 q2
 exact absurd h2 (by decide)
 iterate 7 refine cnt h2 rfl ?_
 iterate 9 refine cu rfl ?_
 refine cnt h2 rfl (co rfl (KP rfl rfl h2 rfl) (cm rfl (cm rfl (Ch.nil (Fin.go (F8 4 5 rfl (Tr.ret (Fin.EJ rfl (Bq.D3 _ _) rfl ?_ rfl ?_))))))))
 · exact Lr
 · exact Lr
theorem cw {l:List (List UInt8)} {x:List UInt8} {v:Value} {p:Pr} (hs:GC Lib.compareBytes l) (hl:l.length≤1000000):A5 Tryz.prog 92 [Aq v p,str x] (FZ [int ((D1 Lib.compareBytes l x:Nat):Int),bool (LD Lib.compareBytes l x)]) (Al 9 1 (l.map (fun t:List UInt8=>[str t])) v) (fun _=>Al 9 1 (l.map (fun t:List UInt8=>[str t])) v):=by
 refine A5.Nt Yt (fun h0 _=> ?_) (fun b cap sp _ hc hm hq=> ?_)
 ·
  have PT:l=[]:=by simpa using h0
  subst PT;exact Yu
 ·
  rw [List.length_map]
  rw [List.length_map] at hc
  exact Yq hs hl hc
theorem V8 {l:List (List UInt8)} {x:List UInt8} {b0 cap i:Nat} {sp:List Value} (hi:i≤l.length) (hl:l.length≤1000000) (hc:l.length≤cap) (hm:cap≤maxLen) (hq:sp.length=cap-l.length):A5 prog 93 [Aq (.slice (some ⟨b0,0,none⟩) l.length cap) (lens l.length),int ((i:Nat):Int),slice 1 [[str x]]] (lens (l.length+1)) (AA true b0 9 ((l.map (fun t:List UInt8=>[str t])).flatten++sp.map is)) (fun v=>Al 9 1 ((l.take i++[x]++l.drop i).map (fun t:List UInt8=>[str t])) v):=by
 refine A5.of func93 rfl rfl (by exact Nb rfl) fun M0 w0 S rs M1 w1=> ?_
 have F7:([[str x]]:List (List Pr)).flatten.length=1:=rfl
 have FX:([[str x]]:List (List Pr)).length=1:=rfl
 have Jf:((l.map (fun t:List UInt8=>[str t])).flatten).length=l.length:=by rw [Bu (sz:=1) (Aj fun _=>rfl),List.length_map];omega
 have e1:(((i:Nat):Int)+(1:Int)).toNat=i+1:=by omega
 have e2:((i:Nat):Int).toNat=i:=by omega
 refine a2 ?_
 refine co rfl (H6 rfl underlying53 Da (Ka rfl) (vl rfl) (by omega) (by omega) (by omega)) ?_
 refine a2 ?_
 refine co rfl (E2 rfl underlying53 (vl rfl)) ?_
 refine ac ?_
 refine an ?_ ?_<;>intro h1 q1
 simp at h1
 refine a2 ?_
 refine co rfl (Hv rfl underlying53 (Ka rfl)) ?_
 refine a2 ?_
 refine FK 0 1 2 7 8 22 rfl ?_
 refine Tr.cn rfl ?_ ?_<;>intro h2 q2
 refine Tr.seq (Tr.Fi (sz:=1) 0 rfl (rows:=l.map (fun t:List UInt8=>[str t])) (sp:=sp) rfl (by simp) hc hm (by omega) ?_)
 refine ap ?_
 refine TO.On 0 rfl rfl (by decide) (Gj rfl rfl (by decide) rfl underlying53 Da Oy z9 rfl (by decide) (by decide) (vl rfl) (vl rfl) (Aj fun _=>rfl) (Nat.zero_lt_succ _) (by simp only [List.length_map,List.length_cons,List.length_nil];unfold maxLen;omega) (by simp only [List.length_map,List.length_cons,List.length_nil];omega)) (fun v1=> ?_)
 refine ap ?_
 refine Tr.ret (Fin.AJ ?_)
 refine Fin.CI rfl rfl ?_ (by rintro _ _ _ ⟨rfl,_⟩;rw [show i=l.length by omega,List.take_length,List.drop_length,List.append_nil,List.map_append];rfl)
 · exact Pr.le_trans (BP _ _) (Pr.le_of_eq (by simp))
 refine a2 ?_
 refine co rfl (Qh rfl underlying53 (Ka rfl)) ?_
 refine an ?_ ?_<;>intro h3 q3
 refine ap ?_
 refine tp rfl (JM rfl underlying53 Da (Ka rfl) (vl rfl) (by omega) (by omega) (by omega) (by omega)) ?_
 refine ap ?_
 refine TO.pad ?_
 refine TO.XI 0 1 rfl rfl rfl rfl (by decide) rfl underlying53 underlying3 Da Oy z9 rfl (by decide) (by decide) (vl rfl) (vl rfl) (i:=i) (k:=l.length+1-i) (by omega) (by simp only [List.length_append,List.length_take,List.length_drop,List.length_map,Jf,FX,F7,Nat.mul_one];omega) (by omega) (by omega) (by unfold maxLen;omega) (by omega) (fun b1 Yv Yw mR hm1 hs1=> ?_)
 refine ap ?_
 refine HJ 0 1 2 7 9 rfl (Tr.seq ?_)
 have hsz:Yw.length=Yv-i:=by have:=hs1;rw [List.length_take,List.length_append,Jf,Nat.mul_one,Nat.mul_one] at this;omega
 refine Tr.O9 (sz:=1) (l.map (fun t:List UInt8=>[str t])) 1 0 rfl rfl (Pr.le_trans (DO _ _) (Pr.le_of_eq (by simp))) (Aj fun _=>rfl) (by rw [List.length_map];exact hc) hm (by rw [List.length_map,List.length_map];omega) ?_
 refine ap ?_
 refine tp rfl (BU rfl underlying53 Da (vl rfl) (vl rfl) (by omega) (by omega) (by omega)) (tm rfl ?_)
 refine TO.DZ 0 rfl rfl (by decide) (FO rfl rfl rfl underlying53 Da (by decide) (vl rfl) (vl rfl) (by omega) (by omega) (by simp only [List.length_append,List.length_take,List.length_drop,List.length_map,Jf,FX,F7,Nat.mul_one];omega) rfl) ?_
 refine ap ?_
 refine Tr.seq (Tr.rx ?_)
 refine ay ?_
 refine xo rfl (fun _=>BU rfl underlying53 Da (vl rfl) (vl rfl) (by omega) (by omega) (by omega)) ?_
 refine ay ?_
 refine xo rfl (fun _=>At rfl underlying53 Da (Kb rfl) (vl rfl) (by omega) (by simp;omega)) ?_
 refine Cx.ef 0 rfl rfl (by decide) (FO rfl rfl rfl underlying53 Da (by decide) (vl rfl) (vl rfl) (by simp only [List.length_append,List.length_take,List.length_drop,List.length_map,Jf,FX,F7,Nat.mul_one];omega) (by simp only [List.length_append,List.length_take,List.length_drop,List.length_map,Jf,FX,F7,Nat.mul_one];omega) (by simp only [List.length_append,List.length_take,List.length_drop,List.length_map,Jf,FX,F7,Nat.mul_one];omega) rfl) ?_
 refine Cx.nil ⟨by kernel_rfl,?_⟩
 refine BJ.done gr (Fin.go (Cg 9 rfl ?_))
 refine ac ?_
 refine Tr.ret (Fin.AJ ?_)
 refine Fin.Ms (sz:=1) 0 rfl (rows:=((l.take i++[x]++l.drop i).map (fun t:List UInt8=>[str t]))) (sp:=Yw.drop (l.length+1-i)) (m:=i+(l.length+1-i)) (Kt (i:=i) (Z:=Yw.map is) (n:=l.length) Jf (by omega) (by rw [List.length_map];omega) (by omega) (by omega) (by omega) (by omega) (by rw [List.length_drop,List.length_map];omega) rfl (by rw [←List.map_drop,Fj (f:=fun t:List UInt8=>[str t]) (fun _=>rfl),e2]) (by rw [List.map_drop,←H7 (f:=fun t:List UInt8=>[str t]) (l:=l) (i:=i) (x:=x) (fun _=>rfl) rfl])) (by simp only [List.length_map,List.length_append,List.length_take,List.length_drop,List.length_cons,List.length_nil];omega) (by omega) hm1 (by rw [List.length_drop];omega) ?_
 refine Fin.drop 1 ?_
 refine Fin.CI rfl rfl ?_ (by rintro _ _ _ rfl;rfl)
 · rintro _ _ _ rfl;exact ⟨_,_,by congr 1;omega⟩
 refine a2 ?_
 refine co rfl (Hz rfl underlying53 Da (Ka rfl) (vl rfl) (by omega) (by omega) (by omega)) ?_
 refine ac ?_
 refine HJ 0 1 2 7 8 rfl ?_
 refine ap ?_
 refine tp rfl (BU rfl underlying53 Da (vl rfl) (vl rfl) (by omega) (by omega) (by omega)) ?_
 refine TO.rd 0 rfl rfl rfl (by decide) (JN (tR:=4) rfl func140 (by kernel_rfl) (by kernel_rfl) (by kernel_rfl) (by kernel_rfl) underlying53 Da (by decide) (vl rfl) (by exact Nat.zero_lt_succ _) (vl rfl) (by simp only [List.length_append,List.length_take,List.length_drop,List.length_map,Jf,FX,F7,Nat.mul_one];omega)) ?_
 refine ap ?_
 refine Tr.cn rfl ?_ ?_<;>intro h4 q4
 refine Tr.seq (Tr.rx ?_)
 refine ay ?_
 refine xo rfl (fun _=>BU rfl underlying53 Da (vl rfl) (vl rfl) (by omega) (by omega) (by omega)) ?_
 refine ay ?_
 refine xo rfl (fun _=>BU rfl underlying53 Da (vl rfl) (vl rfl) (by omega) (by omega) (by omega)) ?_
 refine Cx.ef 0 rfl rfl (by decide) (Ns (m:=l.length-i) rfl rfl rfl underlying53 Da (vl rfl) (vl rfl) (by show _=min _ _;omega) (by simp only [List.length_append,List.length_take,List.length_drop,List.length_map,Jf,FX,F7,Nat.mul_one];omega) (by simp only [List.length_append,List.length_take,List.length_drop,List.length_map,Jf,FX,F7,Nat.mul_one];omega) rfl) ?_
 refine Cx.nil ⟨by kernel_rfl,?_⟩
 refine BJ.done Oe (Fin.go (Ur 0 1 2 rfl ?_))
 refine ap ?_
 refine tp rfl (BU rfl underlying53 Da (vl rfl) (vl rfl) (by omega) (by omega) (by omega)) (tm rfl ?_)
 refine TO.DZ 0 rfl rfl (by decide) (FO rfl rfl rfl underlying53 Da (by decide) (vl rfl) (vl rfl) (by omega) (by omega) (by simp only [List.length_append,List.length_take,List.length_drop,List.length_map,Jf,FX,F7,Nat.mul_one];omega) rfl) ?_
 refine ap ?_
 refine ac ?_
 refine Tr.ret (Fin.AJ ?_)
 refine Fin.Ms (sz:=1) 0 rfl (rows:=((l.take i++[x]++l.drop i).map (fun t:List UInt8=>[str t]))) (sp:=sp.drop 1) (m:=l.length+1) (Ks (i:=i) (S:=sp.map is) (n:=l.length) Jf (by omega) (by rw [List.length_map];omega) (by omega) (by omega) (by omega) (by omega) (by omega) (by omega) rfl (by rw [List.map_drop,←H7 (f:=fun t:List UInt8=>[str t]) (l:=l) (i:=i) (x:=x) (fun _=>rfl) rfl])) (by simp only [List.length_map,List.length_append,List.length_take,List.length_drop,List.length_cons,List.length_nil];omega) (by omega) hm (by rw [List.length_drop];omega) ?_
 refine Fin.CI rfl rfl ?_ (by rintro _ _ _ rfl;rfl)
 · rintro _ _ _ rfl;exact ⟨_,_,by rfl⟩
 exact absurd h4 (by decide)
theorem V9:Entry Tryz.prog 93:=⟨_,Tryz.func93,rfl,rfl⟩
theorem V_ {x:List UInt8}  :A5 prog 93 [is (.slice none 0 0),int ((0:Nat):Int),slice 1 [[str x]]] (lens 1) (BT) (fun v=>E6 9 1 [[str x]] v):=by
 refine A5.of func93 rfl rfl (by exact Nb rfl) fun M0 w0 S rs M1 w1=> ?_
 have FX:([[str x]]:List (List Pr)).length=1:=rfl
 refine a2 ?_
 refine co rfl (At rfl underlying53 Da ⟨_,rfl,AX _⟩ (vl rfl) (by omega) (by omega)) ?_
 refine a2 ?_
 refine co rfl (E2 rfl underlying53 (vl rfl)) ?_
 refine ac ?_
 refine an ?_ ?_<;>intro h1 q1
 simp at h1
 refine a2 ?_
 refine co rfl (Gn rfl underlying53 (vl rfl)) ?_
 refine a2 ?_
 refine FK 0 1 2 7 8 22 rfl ?_
 refine Tr.cn rfl ?_ ?_<;>intro h2 q2
 refine ap ?_
 refine TO.pad ?_
 refine TO.On 0 rfl rfl (by decide) (Ke rfl rfl (by decide) rfl underlying53 Da Oy z9 rfl (by decide) (by decide) ⟨_,rfl,KL 1⟩ (vl rfl) (by simp) (by simp;unfold maxLen;omega) (by simp)) (fun v1=> ?_)
 refine ap ?_
 refine Tr.ret (Fin.AJ (Fin.drop 1 ?_))
 refine Fin.CI rfl rfl ?_ (by intro _ _ _ h;rw [h.1])
 · exact Pr.le_trans (BP _ _) (Lr)
 exact absurd h2 (by decide)
theorem Yx {l:List (List UInt8)} {x:List UInt8} {v:Value} {p:Pr} {i:Nat} (hi:i≤l.length) (hl:l.length≤1000000):A5 Tryz.prog 93 [Aq v p,int ((i:Nat):Int),slice 1 [[str x]]] (lens (l.length+1)) (Al 9 1 (l.map (fun t:List UInt8=>[str t])) v) (fun v=>Al 9 1 ((l.take i++[x]++l.drop i).map (fun t:List UInt8=>[str t])) v):=by
 refine A5.Lu V9 (fun h0 _=> ?_) (fun b cap sp _ hc hm hq=> ?_)
 ·
  have PT:l=[]:=by simpa using h0
  subst PT
  have iX:i=0:=by simpa using hi
  subst iX
  exact A5.Kr V_
 ·
  rw [List.length_map] at hc hq ⊢
  exact V8 hi hl hc hm (by omega)
theorem Tx {l:List (List UInt8)} {x:List UInt8} {v:Value} (hs:GC Lib.compareBytes l) (hl:l.length≤1000000):A5 prog 49 [Aq v (lens l.length),str x] (lens (Cn Lib.compareBytes l x).length) (Al 9 1 (l.map (fun t:List UInt8=>[str t])) v) (fun v=>Al 9 1 ((Cn Lib.compareBytes l x).map (fun t:List UInt8=>[str t])) v):=by
 refine A5.of func49 rfl rfl (by exact Nb rfl) fun M0 w0 S rs M1 w1=> ?_
 refine ac ?_
 refine ap ?_
 refine TO.DZ 0 rfl rfl (by decide) (Ab rfl rfl (by decide) rfl (cw (l:=l) (x:=x) hs hl) ⟨ke rfl,ke rfl,trivial⟩) ?_
 refine ap ?_
 refine an ?_ ?_<;>intro h1 q1
 have hE:=OG (c:=Lib.compareBytes) (l:=l) (x:=x) h1
 refine ac ?_
 refine Tr.ret (Fin.AJ ?_)
 refine Fin.CI rfl rfl ?_ (by rintro _ _ _ ⟨rfl,_⟩;rw [hE])
 · rw [hE];exact BP _ _
 have hE:=OH (c:=Lib.compareBytes) (l:=l) (x:=x) h1
 have hp:=Gz Lib.compareBytes l x
 refine ac ?_
 refine ap ?_
 refine TO.On 0 rfl rfl (by decide) (Ep rfl rfl (by decide) rfl (Yx (l:=l) (x:=x) (i:=D1 Lib.compareBytes l x) (Gz _ _ _) hl) ⟨ke rfl,ke rfl,(Kf rfl),trivial⟩) (fun v1=> ?_)
 refine ap ?_
 refine Cg 4 rfl (Tr.ret ?_)
 refine Fin.CI rfl rfl ?_ (by rintro _ _ _ ⟨rfl,_⟩;rw [hE])
 · rw [hE];exact Pr.le_trans (BP _ _) (Pr.le_of_eq (by congr 1;simp;omega))
theorem Yy {l:List (Int)} {x:Int} {b0 cap:Nat} {sp:List Value} (hs:GC An l) (hl:l.length≤1000000) (hcap:l.length≤cap):A5 prog 94 [Aq (.slice (some ⟨b0,0,none⟩) l.length cap) (lens l.length),int x] (FZ [int ((D1 An l x:Nat):Int),bool (LD An l x)]) (AA true b0 3 ((l.map (fun t:Int=>[int t])).flatten++sp.map is)) (fun _=>AA true b0 3 ((l.map (fun t:Int=>[int t])).flatten++sp.map is)):=by
 refine A5.of func94 rfl rfl (by exact Nb rfl) fun M0 w0 S rs M1 w1=> ?_
 refine a2 ?_
 refine co rfl (Hv rfl underlying22 (Ka rfl)) ?_
 refine a2 ?_
 refine Tr.seq (Tr.block ?_)
 refine Tr.Ca [(0,_),(1,_),(6,_)] ⟨ke rfl,ke rfl,ke rfl,trivial⟩ (fun (i:Nat) (j:Nat)=>[(7,int ((i:Nat):Int)),(8,int ((j:Nat):Int))]) (fun (i:Nat) (j:Nat)=>Hp M0 w0 S (AA true b0 3 ((l.map (fun t:Int=>[int t])).flatten++sp.map is)::Ak M1 w1::rs)) (fun (i:Nat) (j:Nat)=>i≤j∧j≤l.length∧(∀(k:Nat) y,k<i→l[k]? =some y→An y x<0)∧(∀(k:Nat) y,j≤k→l[k]? =some y→¬An y x<0)) (fun (i:Nat) (j:Nat)=>j-i) (0) (l.length)  (⟨Nat.zero_le _,Nat.le_refl _,fun k y h=>absurd h (Nat.not_lt_zero _),fun k y h1 h2=>by rw [List.getElem?_eq_none h1] at h2;cases h2⟩) ⟨ke rfl,ke rfl,trivial⟩ (fun _ _ h=>h) ?_
 rintro i j  ⟨hi1,hi2,Yr,hi4⟩
 refine an ?_ ?_<;>intro h1 q1
 have hij:i<j:=by have:=of_decide_eq_true h1;omega
 obtain ⟨y,Ys⟩:=at_ (l:=l) (k:=(i+j)/2) (by omega)
 have hy:l[((((i:Nat):Int)+((j:Nat):Int))/2).toNat]? =some y:=by rw [show ((((i:Nat):Int)+((j:Nat):Int))/2).toNat=(i+j)/2 by omega];exact Ys
 refine a2 ?_
 refine co rfl (Nu rfl underlying3 underlying137 (vl rfl) (by omega) (by omega)) (co rfl (Qi rfl (vl rfl) (vl rfl) (by omega)) ?_)
 refine co rfl (KM rfl underlying137 underlying3 (vl rfl) (by unfold Em;omega)) ?_
 refine ac ?_
 refine FK 0 1 6 7 8 9 rfl ?_
 refine ac ?_
 refine co rfl (AD rfl underlying22 B7 (Ka rfl) (vl rfl) (by omega) (by omega)) (co rfl (Ay 0 rfl (B2 rfl Cr (vl rfl) (FN (f:=fun t:Int=>[int t]) (fun _=>rfl) (i:=(((i:Nat):Int)+((j:Nat):Int))/2) hy rfl))) (cm rfl (co rfl (F3 (Vt) rfl rfl rfl) ?_)))
 refine an ?_ ?_<;>intro h2 q2
 have hlt:=q2
 refine ac ?_
 exact Fin.Bw ((i+j)/2+1) (j)  (⟨⟨by omega,by omega,XN Cs hs Ys (by unfold An;rw [if_pos (by omega)];omega),hi4⟩,by omega⟩) ⟨⟨_,rfl,int_eq (by omega)⟩,⟨_,rfl,int_eq (by omega)⟩,ke rfl,ke rfl,ke rfl,trivial⟩ (fun _ _ h=>h)
 have hlt:=q2
 refine ac ?_
 exact Fin.Bw (i) ((i+j)/2)  (⟨⟨by omega,by omega,Yr,XO Cs hs Ys (by unfold An;rw [if_neg (by omega)];split<;>omega)⟩,by omega⟩) ⟨⟨_,rfl,int_eq (by omega)⟩,⟨_,rfl,int_eq (by omega)⟩,ke rfl,ke rfl,ke rfl,trivial⟩ (fun _ _ h=>h)
 obtain rfl:i=j:=(by have:=of_decide_eq_false h1;omega)
 have hp:D1 An l x=i:=NF (by omega) Yr (fun y hy=>hi4 i y (by omega) hy)
 refine ac ?_
 refine ag ?_ ?_<;>intro h3 q3
 obtain ⟨y,V7⟩:=at_ (l:=l) (k:=i) (by omega)
 refine ac ?_
 refine cy h3 rfl (AD rfl underlying22 B7 (Ka rfl) (vl rfl) (by omega) (by omega)) ?_
 refine cy h3 rfl (Ay 0 rfl (B2 rfl Cr (vl rfl) (FN (f:=fun t:Int=>[int t]) (fun _=>rfl) (i:=((i:Nat):Int)) (by rw [Int.toNat_natCast];exact V7) rfl))) ?_
 refine ag ?_ ?_<;>intro h4 q4
 refine ac ?_
 refine F8 4 5 rfl (Tr.ret (Fin.Ll rfl rfl ?_ rfl ?_))
 · exact int_eq (by rw [hp])
 · refine bool_eq ?_;rw [Jy hp V7];symm;rw [decide_eq_true_eq];exact Cf.2 (by simp_all)
 refine ac ?_
 refine cy h4 rfl (AD rfl underlying22 B7 (Ka rfl) (vl rfl) (by omega) (by omega)) ?_
 refine cy h4 rfl (Ay 0 rfl (B2 rfl Cr (vl rfl) (FN (f:=fun t:Int=>[int t]) (fun _=>rfl) (i:=((i:Nat):Int)) (by rw [Int.toNat_natCast];exact V7) rfl))) ?_
 refine cy h4 rfl (Eh (Rt) rfl rfl) (Dh h4 rfl ?_)
 refine Ch.cs 48 rfl ?_ ?_<;>intro h5 q5
 exact absurd h5 (by decide)
 refine ac ?_
 refine F8 4 5 rfl (Tr.ret (Fin.Ll rfl rfl ?_ rfl ?_))
 · exact int_eq (by rw [hp])
 · refine bool_eq ?_;rw [Jy hp V7];symm;rw [decide_eq_false_iff_not];intro h0;have:=Cf.1 h0;simp_all
 refine ac ?_
 refine F8 4 5 rfl (Tr.ret (Fin.Ll rfl rfl ?_ rfl ?_))
 · exact int_eq (by rw [hp])
 · refine bool_eq ?_;rw [OI hp (by omega)]
theorem Yz:Entry Tryz.prog 94:=⟨_,Tryz.func94,rfl,rfl⟩
theorem Y0 {x:Int}  :Be prog 94 [is (.slice none 0 0),int x] (FZ [int 0,bool false]):=by
 refine Be.of func94 rfl rfl (by exact Nb rfl) fun M0 w0=> ?_
 refine Tr.seq (Tr.A0 (cm rfl (cm rfl (Ch.nil (Fin.go (Tr.seq (Tr.A0 (cm rfl (co rfl (Gn rfl underlying22 (vl rfl)) (cm rfl (Ch.nil (Fin.go (Tr.seq (Tr.A0 ?_))))))))))))))
 refine cm rfl (cm rfl (cm rfl (Ch.nil (Fin.go (Tr.seq (Tr.block (Tr.BV [(0,_),(1,_),(6,_)] (RI rfl) (fun (u:Unit)=>[(7,int 0),(8,int 0)]) (fun (u:Unit)=>True) (fun (u:Unit)=>0) () (trivial) ⟨ke rfl,ke rfl,trivial⟩ ?_)))))))
 rintro u _
 refine Tr.seq (Tr.seq (Tr.A0 (cm rfl (cm rfl (co rfl (ki rfl rfl rfl rfl) (Ch.nil (Fin.go ?_)))))))
 refine Tr.cn rfl ?_ ?_<;>intro h1 q1
 exact absurd h1 (by decide)
 have:=h1
 refine Tr.exit (Fin.AK (Fin.AK (Fin.Aa (Fin.go (Tr.seq (Tr.A0 (cm rfl (cm rfl (cm rfl (co rfl (ki rfl rfl rfl rfl) (cm rfl ?_)))))))))))
 refine Ch.cs 35 rfl ?_ ?_<;>intro h2 q2
 exact absurd h2 (by decide)
 iterate 7 refine cnt h2 rfl ?_
 iterate 9 refine cu rfl ?_
 refine cnt h2 rfl (co rfl (KP rfl rfl h2 rfl) (cm rfl (cm rfl (Ch.nil (Fin.go (F8 4 5 rfl (Tr.ret (Fin.EJ rfl (Bq.D3 _ _) rfl ?_ rfl ?_))))))))
 · exact Lr
 · exact Lr
theorem cx {l:List (Int)} {x:Int} {v:Value} {p:Pr} (hs:GC An l) (hl:l.length≤1000000):A5 Tryz.prog 94 [Aq v p,int x] (FZ [int ((D1 An l x:Nat):Int),bool (LD An l x)]) (Al 3 1 (l.map (fun t:Int=>[int t])) v) (fun _=>Al 3 1 (l.map (fun t:Int=>[int t])) v):=by
 refine A5.Nt Yz (fun h0 _=> ?_) (fun b cap sp _ hc hm hq=> ?_)
 ·
  have PT:l=[]:=by simpa using h0
  subst PT;exact Y0
 ·
  rw [List.length_map]
  rw [List.length_map] at hc
  exact Yy hs hl hc
theorem WA {l:List (Int)} {x:Int} {b0 cap i:Nat} {sp:List Value} (hi:i≤l.length) (hl:l.length≤1000000) (hc:l.length≤cap) (hm:cap≤maxLen) (hq:sp.length=cap-l.length):A5 prog 95 [Aq (.slice (some ⟨b0,0,none⟩) l.length cap) (lens l.length),int ((i:Nat):Int),slice 1 [[int x]]] (lens (l.length+1)) (AA true b0 3 ((l.map (fun t:Int=>[int t])).flatten++sp.map is)) (fun v=>Al 3 1 ((l.take i++[x]++l.drop i).map (fun t:Int=>[int t])) v):=by
 refine A5.of func95 rfl rfl (by exact Nb rfl) fun M0 w0 S rs M1 w1=> ?_
 have F7:([[int x]]:List (List Pr)).flatten.length=1:=rfl
 have FX:([[int x]]:List (List Pr)).length=1:=rfl
 have Jf:((l.map (fun t:Int=>[int t])).flatten).length=l.length:=by rw [Bu (sz:=1) (Aj fun _=>rfl),List.length_map];omega
 have e1:(((i:Nat):Int)+(1:Int)).toNat=i+1:=by omega
 have e2:((i:Nat):Int).toNat=i:=by omega
 refine a2 ?_
 refine co rfl (H6 rfl underlying22 B7 (Ka rfl) (vl rfl) (by omega) (by omega) (by omega)) ?_
 refine a2 ?_
 refine co rfl (E2 rfl underlying22 (vl rfl)) ?_
 refine ac ?_
 refine an ?_ ?_<;>intro h1 q1
 simp at h1
 refine a2 ?_
 refine co rfl (Hv rfl underlying22 (Ka rfl)) ?_
 refine a2 ?_
 refine FK 0 1 2 7 8 22 rfl ?_
 refine Tr.cn rfl ?_ ?_<;>intro h2 q2
 refine Tr.seq (Tr.Fi (sz:=1) 0 rfl (rows:=l.map (fun t:Int=>[int t])) (sp:=sp) rfl (by simp) hc hm (by omega) ?_)
 refine ap ?_
 refine TO.On 0 rfl rfl (by decide) (Gj rfl rfl (by decide) rfl underlying22 B7 Mh z3 rfl (by decide) (by decide) (vl rfl) (vl rfl) (Aj fun _=>rfl) (Nat.zero_lt_succ _) (by simp only [List.length_map,List.length_cons,List.length_nil];unfold maxLen;omega) (by simp only [List.length_map,List.length_cons,List.length_nil];omega)) (fun v1=> ?_)
 refine ap ?_
 refine Tr.ret (Fin.AJ ?_)
 refine Fin.CI rfl rfl ?_ (by rintro _ _ _ ⟨rfl,_⟩;rw [show i=l.length by omega,List.take_length,List.drop_length,List.append_nil,List.map_append];rfl)
 · exact Pr.le_trans (BP _ _) (Pr.le_of_eq (by simp))
 refine a2 ?_
 refine co rfl (Qh rfl underlying22 (Ka rfl)) ?_
 refine an ?_ ?_<;>intro h3 q3
 refine ap ?_
 refine tp rfl (JM rfl underlying22 B7 (Ka rfl) (vl rfl) (by omega) (by omega) (by omega) (by omega)) ?_
 refine ap ?_
 refine TO.pad ?_
 refine TO.XI 0 1 rfl rfl rfl rfl (by decide) rfl underlying22 underlying3 B7 Mh z3 rfl (by decide) (by decide) (vl rfl) (vl rfl) (i:=i) (k:=l.length+1-i) (by omega) (by simp only [List.length_append,List.length_take,List.length_drop,List.length_map,Jf,FX,F7,Nat.mul_one];omega) (by omega) (by omega) (by unfold maxLen;omega) (by omega) (fun b1 Yv Yw mR hm1 hs1=> ?_)
 refine ap ?_
 refine HJ 0 1 2 7 9 rfl (Tr.seq ?_)
 have hsz:Yw.length=Yv-i:=by have:=hs1;rw [List.length_take,List.length_append,Jf,Nat.mul_one,Nat.mul_one] at this;omega
 refine Tr.O9 (sz:=1) (l.map (fun t:Int=>[int t])) 1 0 rfl rfl (Pr.le_trans (DO _ _) (Pr.le_of_eq (by simp))) (Aj fun _=>rfl) (by rw [List.length_map];exact hc) hm (by rw [List.length_map,List.length_map];omega) ?_
 refine ap ?_
 refine tp rfl (BU rfl underlying22 B7 (vl rfl) (vl rfl) (by omega) (by omega) (by omega)) (tm rfl ?_)
 refine TO.DZ 0 rfl rfl (by decide) (FO rfl rfl rfl underlying22 B7 (by decide) (vl rfl) (vl rfl) (by omega) (by omega) (by simp only [List.length_append,List.length_take,List.length_drop,List.length_map,Jf,FX,F7,Nat.mul_one];omega) rfl) ?_
 refine ap ?_
 refine Tr.seq (Tr.rx ?_)
 refine ay ?_
 refine xo rfl (fun _=>BU rfl underlying22 B7 (vl rfl) (vl rfl) (by omega) (by omega) (by omega)) ?_
 refine ay ?_
 refine xo rfl (fun _=>At rfl underlying22 B7 (Kb rfl) (vl rfl) (by omega) (by simp;omega)) ?_
 refine Cx.ef 0 rfl rfl (by decide) (FO rfl rfl rfl underlying22 B7 (by decide) (vl rfl) (vl rfl) (by simp only [List.length_append,List.length_take,List.length_drop,List.length_map,Jf,FX,F7,Nat.mul_one];omega) (by simp only [List.length_append,List.length_take,List.length_drop,List.length_map,Jf,FX,F7,Nat.mul_one];omega) (by simp only [List.length_append,List.length_take,List.length_drop,List.length_map,Jf,FX,F7,Nat.mul_one];omega) rfl) ?_
 refine Cx.nil ⟨by kernel_rfl,?_⟩
 refine BJ.done gr (Fin.go (Cg 9 rfl ?_))
 refine ac ?_
 refine Tr.ret (Fin.AJ ?_)
 refine Fin.Ms (sz:=1) 0 rfl (rows:=((l.take i++[x]++l.drop i).map (fun t:Int=>[int t]))) (sp:=Yw.drop (l.length+1-i)) (m:=i+(l.length+1-i)) (Kt (i:=i) (Z:=Yw.map is) (n:=l.length) Jf (by omega) (by rw [List.length_map];omega) (by omega) (by omega) (by omega) (by omega) (by rw [List.length_drop,List.length_map];omega) rfl (by rw [←List.map_drop,Fj (f:=fun t:Int=>[int t]) (fun _=>rfl),e2]) (by rw [List.map_drop,←H7 (f:=fun t:Int=>[int t]) (l:=l) (i:=i) (x:=x) (fun _=>rfl) rfl])) (by simp only [List.length_map,List.length_append,List.length_take,List.length_drop,List.length_cons,List.length_nil];omega) (by omega) hm1 (by rw [List.length_drop];omega) ?_
 refine Fin.drop 1 ?_
 refine Fin.CI rfl rfl ?_ (by rintro _ _ _ rfl;rfl)
 · rintro _ _ _ rfl;exact ⟨_,_,by congr 1;omega⟩
 refine a2 ?_
 refine co rfl (Hz rfl underlying22 B7 (Ka rfl) (vl rfl) (by omega) (by omega) (by omega)) ?_
 refine ac ?_
 refine HJ 0 1 2 7 8 rfl ?_
 refine ap ?_
 refine tp rfl (BU rfl underlying22 B7 (vl rfl) (vl rfl) (by omega) (by omega) (by omega)) ?_
 refine TO.rd 0 rfl rfl rfl (by decide) (JN (tR:=4) rfl func144 (by kernel_rfl) (by kernel_rfl) (by kernel_rfl) (by kernel_rfl) underlying22 B7 (by decide) (vl rfl) (by exact Nat.zero_lt_succ _) (vl rfl) (by simp only [List.length_append,List.length_take,List.length_drop,List.length_map,Jf,FX,F7,Nat.mul_one];omega)) ?_
 refine ap ?_
 refine Tr.cn rfl ?_ ?_<;>intro h4 q4
 refine Tr.seq (Tr.rx ?_)
 refine ay ?_
 refine xo rfl (fun _=>BU rfl underlying22 B7 (vl rfl) (vl rfl) (by omega) (by omega) (by omega)) ?_
 refine ay ?_
 refine xo rfl (fun _=>BU rfl underlying22 B7 (vl rfl) (vl rfl) (by omega) (by omega) (by omega)) ?_
 refine Cx.ef 0 rfl rfl (by decide) (Ns (m:=l.length-i) rfl rfl rfl underlying22 B7 (vl rfl) (vl rfl) (by show _=min _ _;omega) (by simp only [List.length_append,List.length_take,List.length_drop,List.length_map,Jf,FX,F7,Nat.mul_one];omega) (by simp only [List.length_append,List.length_take,List.length_drop,List.length_map,Jf,FX,F7,Nat.mul_one];omega) rfl) ?_
 refine Cx.nil ⟨by kernel_rfl,?_⟩
 refine BJ.done Oe (Fin.go (Ur 0 1 2 rfl ?_))
 refine ap ?_
 refine tp rfl (BU rfl underlying22 B7 (vl rfl) (vl rfl) (by omega) (by omega) (by omega)) (tm rfl ?_)
 refine TO.DZ 0 rfl rfl (by decide) (FO rfl rfl rfl underlying22 B7 (by decide) (vl rfl) (vl rfl) (by omega) (by omega) (by simp only [List.length_append,List.length_take,List.length_drop,List.length_map,Jf,FX,F7,Nat.mul_one];omega) rfl) ?_
 refine ap ?_
 refine ac ?_
 refine Tr.ret (Fin.AJ ?_)
 refine Fin.Ms (sz:=1) 0 rfl (rows:=((l.take i++[x]++l.drop i).map (fun t:Int=>[int t]))) (sp:=sp.drop 1) (m:=l.length+1) (Ks (i:=i) (S:=sp.map is) (n:=l.length) Jf (by omega) (by rw [List.length_map];omega) (by omega) (by omega) (by omega) (by omega) (by omega) (by omega) rfl (by rw [List.map_drop,←H7 (f:=fun t:Int=>[int t]) (l:=l) (i:=i) (x:=x) (fun _=>rfl) rfl])) (by simp only [List.length_map,List.length_append,List.length_take,List.length_drop,List.length_cons,List.length_nil];omega) (by omega) hm (by rw [List.length_drop];omega) ?_
 refine Fin.CI rfl rfl ?_ (by rintro _ _ _ rfl;rfl)
 · rintro _ _ _ rfl;exact ⟨_,_,by rfl⟩
 exact absurd h4 (by decide)
theorem WB:Entry Tryz.prog 95:=⟨_,Tryz.func95,rfl,rfl⟩
theorem WC {x:Int}  :A5 prog 95 [is (.slice none 0 0),int ((0:Nat):Int),slice 1 [[int x]]] (lens 1) (BT) (fun v=>E6 3 1 [[int x]] v):=by
 refine A5.of func95 rfl rfl (by exact Nb rfl) fun M0 w0 S rs M1 w1=> ?_
 have FX:([[int x]]:List (List Pr)).length=1:=rfl
 refine a2 ?_
 refine co rfl (At rfl underlying22 B7 ⟨_,rfl,AX _⟩ (vl rfl) (by omega) (by omega)) ?_
 refine a2 ?_
 refine co rfl (E2 rfl underlying22 (vl rfl)) ?_
 refine ac ?_
 refine an ?_ ?_<;>intro h1 q1
 simp at h1
 refine a2 ?_
 refine co rfl (Gn rfl underlying22 (vl rfl)) ?_
 refine a2 ?_
 refine FK 0 1 2 7 8 22 rfl ?_
 refine Tr.cn rfl ?_ ?_<;>intro h2 q2
 refine ap ?_
 refine TO.pad ?_
 refine TO.On 0 rfl rfl (by decide) (Ke rfl rfl (by decide) rfl underlying22 B7 Mh z3 rfl (by decide) (by decide) ⟨_,rfl,KL 1⟩ (vl rfl) (by simp) (by simp;unfold maxLen;omega) (by simp)) (fun v1=> ?_)
 refine ap ?_
 refine Tr.ret (Fin.AJ (Fin.drop 1 ?_))
 refine Fin.CI rfl rfl ?_ (by intro _ _ _ h;rw [h.1])
 · exact Pr.le_trans (BP _ _) (Lr)
 exact absurd h2 (by decide)
theorem Y1 {l:List (Int)} {x:Int} {v:Value} {p:Pr} {i:Nat} (hi:i≤l.length) (hl:l.length≤1000000):A5 Tryz.prog 95 [Aq v p,int ((i:Nat):Int),slice 1 [[int x]]] (lens (l.length+1)) (Al 3 1 (l.map (fun t:Int=>[int t])) v) (fun v=>Al 3 1 ((l.take i++[x]++l.drop i).map (fun t:Int=>[int t])) v):=by
 refine A5.Lu WB (fun h0 _=> ?_) (fun b cap sp _ hc hm hq=> ?_)
 ·
  have PT:l=[]:=by simpa using h0
  subst PT
  have iX:i=0:=by simpa using hi
  subst iX
  exact A5.Kr WC
 ·
  rw [List.length_map] at hc hq ⊢
  exact WA hi hl hc hm (by omega)
theorem Y2 {l:List (Int)} {x:Int} {v:Value} (hs:GC An l) (hl:l.length≤1000000):A5 prog 50 [Aq v (lens l.length),int x] (lens (Cn An l x).length) (Al 3 1 (l.map (fun t:Int=>[int t])) v) (fun v=>Al 3 1 ((Cn An l x).map (fun t:Int=>[int t])) v):=by
 refine A5.of func50 rfl rfl (by exact Nb rfl) fun M0 w0 S rs M1 w1=> ?_
 refine ac ?_
 refine ap ?_
 refine TO.DZ 0 rfl rfl (by decide) (Ab rfl rfl (by decide) rfl (cx (l:=l) (x:=x) hs hl) ⟨ke rfl,ke rfl,trivial⟩) ?_
 refine ap ?_
 refine an ?_ ?_<;>intro h1 q1
 have hE:=OG (c:=An) (l:=l) (x:=x) h1
 refine ac ?_
 refine Tr.ret (Fin.AJ ?_)
 refine Fin.CI rfl rfl ?_ (by rintro _ _ _ ⟨rfl,_⟩;rw [hE])
 · rw [hE];exact BP _ _
 have hE:=OH (c:=An) (l:=l) (x:=x) h1
 have hp:=Gz An l x
 refine ac ?_
 refine ap ?_
 refine TO.On 0 rfl rfl (by decide) (Ep rfl rfl (by decide) rfl (Y1 (l:=l) (x:=x) (i:=D1 An l x) (Gz _ _ _) hl) ⟨ke rfl,ke rfl,(Kf rfl),trivial⟩) (fun v1=> ?_)
 refine ap ?_
 refine Cg 4 rfl (Tr.ret ?_)
 refine Fin.CI rfl rfl ?_ (by rintro _ _ _ ⟨rfl,_⟩;rw [hE])
 · rw [hE];exact Pr.le_trans (BP _ _) (Pr.le_of_eq (by congr 1;simp;omega))
structure D2 where
 e:GS
 vh:Value
 vm:Value
 vf:Value
abbrev Dc (x:D2):List Pr:=[int x.e.num,Aq x.vh (lens x.e.A7.length),Aq x.vm (lens x.e.As.length),Aq x.vf (ints x.e.BC)]
def OJ (x:D2):List Ao:=[Al 9 1 (x.e.A7.map fun t=>[str t]) x.vh,Al 3 1 (x.e.As.map fun t=>[int t]) x.vm,BR 3 1 x.vf]
theorem DW (x:D2):(Dc x).length=4:=rfl
def Ty (k:Nat):D2:=⟨⟨(k:Nat),[],[],[]⟩,.slice none 0 0,.slice none 0 0,.slice none 0 0⟩
theorem Tz (k:Nat):∀r∈OJ (Ty k),r.Ee=none∧∀M w,r.h M w:=by
 intro r hr
 unfold OJ Ty at hr
 simp only [List.mem_cons,List.not_mem_nil,or_false] at hr
 rcases hr with rfl|rfl|rfl
 · exact ⟨rfl,fun M w=> .inl ⟨rfl,rfl⟩⟩
 · exact ⟨rfl,fun M w=> .inl ⟨rfl,rfl⟩⟩
 · exact ⟨rfl,fun M w a n c hv=>by cases hv⟩
theorem T0 (k:Nat):Pr.le (full 4 [[int ((k:Nat):Int),is (.slice none 0 0),is (.slice none 0 0),is (.slice none 0 0)]]) (slice 4 [Dc (Ty k)]):=
 Pr.le_trans (BO _ _) (NW ⟨⟨Pr.le_refl _,Hx rfl,Hx rfl,Gh rfl,trivial⟩,trivial⟩)
def T2 (x:D2) (M:Av) (w:World):Prop:=(strs x.e.A7).h M w x.vh∧(ints x.e.As).h M w x.vm
theorem WD (x:D2) (M M':Av) (w:World) (h:Ext M w M' w) (hp:T2 x M w):T2 x M' w:=⟨(strs x.e.A7).st _ _ _ _ _ h hp.1,(ints x.e.As).st _ _ _ _ _ h hp.2⟩
theorem T3 {M0:Av} {w0:World} {S:Nat→Prop} (x:D2) (rs:List Ao) (M:Av) (w:World) (h:Am M0 w0 S (OJ x++rs) M w):∃M',Ext M w M' w∧Am M0 w0 S rs M' w∧T2 x M' w:=by
 obtain ⟨M1,h1,h2,h3⟩:=Am.RP (j:=0) h rfl (Aj fun _=>rfl)
 obtain ⟨M2,h4,h5,h6⟩:=Am.RP (j:=1) h2 rfl (Aj fun _=>rfl)
 exact ⟨M2,h1.trans h4,((h5.G9).G9).G9,(slice 1 _).st _ _ _ _ _ h4 h3,h6⟩
abbrev cz (x:D2):List Pr:=V2 x.e
theorem T4 (x:D2) (M:Av) (w:World) (vs:List Value) (hp:T2 x M w) (h:HL M w (Dc x) vs):HL M w (cz x) vs:=by
 match vs,h with
 |[a,b,c,d],h=>
  obtain ⟨h1,h2,h3,h4,_⟩:=h
  obtain rfl:b=x.vh:=h2.1
  obtain rfl:c=x.vm:=h3.1
  exact ⟨h1,hp.1,hp.2,h4.2,trivial⟩
def T5 (l:List AO) (AE:Int):Nat→List (Int×Int)
 |0=>[]
 |k+1=>if AR l AE k=k then Fh (T5 l AE k) ((AR l AE k:Nat):Int) ((CR l (AR l AE) k).length:Nat) else T5 l AE k
theorem Q1 {l:List AO} {AE:Int} {k:Nat} (h:AR l AE k=k):T5 l AE (k+1)=Fh (T5 l AE k) ((AR l AE k:Nat):Int) ((CR l (AR l AE) k).length:Nat):=if_pos h
theorem T6 {l:List AO} {AE:Int} {k:Nat} (h:¬AR l AE k=k):T5 l AE (k+1)=T5 l AE k:=if_neg h
theorem I6 (l:List AO) (root:Nat→Nat) (n:Nat):(CR l root n).length=(Bi root n).length:=by unfold CR;rw [List.length_map]
theorem MG (root:Nat→Nat) (n:Nat):(Bi root n).length≤n:=by unfold Bi;have:=List.length_filter_le (fun r=>decide (root r=r)) (List.range n);rw [List.length_range] at this;exact this
theorem LF {l:List AO} {AE:Int}:∀(k j r:Nat),(Bi (AR l AE) k)[j]? =some r→Cp.look (T5 l AE k) ((r:Nat):Int)=some ((j:Nat):Int)
 |0,j,r,h=>by simp [Bi] at h
 |k+1,j,r,h=>by
  rw [Dw] at h
  by_cases hr:AR l AE k=k
  ·
   rw [if_pos hr] at h
   rw [Q1 hr,LC,hr]
   rcases Nat.lt_or_ge j (Bi (AR l AE) k).length with hj|hj
   ·
    rw [List.getElem?_append_left hj] at h
    have:=(Iy (List.mem_of_getElem? h)).1
    rw [if_neg (by omega)]
    exact LF k j r h
   ·
    rw [List.getElem?_append_right hj] at h
    have hjl:j-(Bi (AR l AE) k).length=0:=by
     rcases Nat.eq_zero_or_pos (j-(Bi (AR l AE) k).length) with h0|h0
     · exact h0
     · rw [List.getElem?_eq_none (by simp;omega)] at h;cases h
    rw [hjl] at h
    simp only [List.getElem?_cons_zero,Option.some.injEq] at h
    subst h
    rw [if_pos rfl,I6,show (Bi (AR l AE) k).length=j by omega]
  ·
   rw [if_neg hr,List.append_nil] at h
   rw [T6 hr]
   exact LF k j r h
theorem WE {l:List AO} {AE:Int} {k:Nat} (hk:k<l.length):∃i:Nat,(Bi (AR l AE) (k+1))[i]? =some (AR l AE k)∧Cp.look (T5 l AE (k+1)) ((AR l AE k:Nat):Int)=some ((i:Nat):Int):=by
 have hm:AR l AE k∈Bi (AR l AE) (k+1):=by
  unfold Bi
  rw [List.mem_filter,List.mem_range]
  exact ⟨Nat.lt_succ_of_le (EX l AE k),by simpa using Pb hk⟩
 obtain ⟨i,hi⟩:=List.mem_iff_getElem?.1 hm
 exact ⟨i,hi,LF _ _ _ hi⟩
theorem Ru (l:List AO) {root:Nat→Nat} (hle:∀i,root i≤i) (n:Nat):(CR l root n++if root n=n then [(⟨(n:Nat),[],[],[]⟩:GS)] else [])=(Bi root (n+1)).map fun r=>Ba l root r n:=by
 rw [Dw,List.map_append]
 unfold CR
 congr 1
 split
 · rw [List.map_singleton,Gw hle n (Nat.le_refl _)]
 · rfl
theorem WG {l:List AO} {AE:Int} {k i:Nat} {X:List D2} (hX:X.map (·.e)=CR l (AR l AE) k++if AR l AE k=k then [(⟨(k:Nat),[],[],[]⟩:GS)] else []) (hi:(Bi (AR l AE) (k+1))[i]? =some (AR l AE k)):∃x,X[i]? =some x∧x.e=Ba l (AR l AE) (AR l AE k) k:=by
 rw [Ru l (EX l AE)] at hX
 have h1:(X.map (·.e))[i]? =some (Ba l (AR l AE) (AR l AE k) k):=by rw [hX,List.getElem?_map,hi];rfl
 rw [List.getElem?_map,Option.map_eq_some_iff] at h1
 exact h1
theorem MH {l:List AO} {AE:Int} {k i:Nat} {f:AO} {X:List D2} {x y:D2} (hf:l[k]? =some f) (hX:X.map (·.e)=CR l (AR l AE) k++if AR l AE k=k then [(⟨(k:Nat),[],[],[]⟩:GS)] else []) (hi:(Bi (AR l AE) (k+1))[i]? =some (AR l AE k)) (hx:x.e=Ba l (AR l AE) (AR l AE k) k) (hy:y.e=DV x.e f (k:Nat)):(X.set i y).map (·.e)=CR l (AR l AE) (k+1):=by
 rw [Pc (EX l AE) hf hi,List.map_set,hX,hy,hx]
theorem Q2 (l:List AO) (root:Nat→Nat) (r:Nat):∀n,GC Lib.compareBytes (Ba l root r n).A7∧GC An (Ba l root r n).As
 |0=>⟨List.Pairwise.nil,List.Pairwise.nil⟩
 |n+1=>by
  have ih:=Q2 l root r n
  unfold Ba
  split
  · exact ih
  ·
   split
   ·
    unfold DV
    refine ⟨Ew Dk (fun x y h=>(CK x y).1 h) ih.1,?_⟩
    show GC An (if _ then _ else _)
    split
    · exact ih.2
    · exact Ew Cs (fun x y h=>Cf.1 h) ih.2
   · exact ih
theorem WH {ps:List Pr} {p:Pr} {off:Nat} (h:off<ps.length):(ps.take off++[p]++ps.drop (off+1)).length=ps.length:=by
 rw [List.length_append,List.length_append,List.length_take,List.length_drop,List.length_singleton];omega
theorem WI {X:List D2} {x:D2} {i off1 off2:Nat} {f:AO} {k:Int} {v u:Value} {qs:List Pr} (hx:X[i]? =some x) (h1:off1=i*4+1) (h2:off2=i*4+3) {ps1:List Pr} (hp:ps1=(((X.map Dc).flatten++qs).take off1++[Aq v (lens (Ej x.e.A7 f.host).length)]++((X.map Dc).flatten++qs).drop (off1+1))):
  ps1.take off2++[Aq u (slice 1 ((x.e.BC.map fun n=>[int n])++[[int k]]))]++ps1.drop (off2+1)=((X.set i ⟨⟨x.e.num,Ej x.e.A7 f.host,x.e.As,x.e.BC++[k]⟩,v,x.vm,u⟩).map Dc).flatten++qs:=by
 subst h1 h2
 have CS:=Bh hx
 have e1:=HO (f:=Dc) (qs:=qs) (y:=⟨⟨x.e.num,Ej x.e.A7 f.host,x.e.As,x.e.BC⟩,v,x.vm,x.vf⟩) DW hx (show 1<4 by decide) (p:=Aq v (lens (Ej x.e.A7 f.host).length)) rfl
 rw [e1] at hp
 subst hp
 have e2:=HO (f:=Dc) (qs:=qs) (l:=X.set i ⟨⟨x.e.num,Ej x.e.A7 f.host,x.e.As,x.e.BC⟩,v,x.vm,x.vf⟩) (i:=i) (y:=⟨⟨x.e.num,Ej x.e.A7 f.host,x.e.As,x.e.BC++[k]⟩,v,x.vm,u⟩) DW (by rw [List.getElem?_set,if_pos rfl,if_pos CS]) (show 3<4 by decide) (p:=Aq u (slice 1 ((x.e.BC.map fun n=>[int n])++[[int k]]))) (by show [_,_,_,Aq u _]=[_,_,_,Aq u (ints (x.e.BC++[k]))];unfold ints;rw [List.map_append];rfl)
 rw [e2,List.set_set]
theorem WJ {X:List D2} {x:D2} {i off:Nat} {m:Int} {v:Value} {qs:List Pr} (hx:X[i]? =some x) (h1:off=i*4+2):
  ((X.map Dc).flatten++qs).take off++[Aq v (lens (K9 x.e.As m).length)]++((X.map Dc).flatten++qs).drop (off+1)=((X.set i ⟨⟨x.e.num,x.e.A7,K9 x.e.As m,x.e.BC⟩,x.vh,v,x.vf⟩).map Dc).flatten++qs:=by
 subst h1
 exact HO (f:=Dc) (qs:=qs) (y:=⟨⟨x.e.num,x.e.A7,K9 x.e.As m,x.e.BC⟩,x.vh,v,x.vf⟩) DW hx (show 2<4 by decide) (p:=Aq v (lens (K9 x.e.As m).length)) rfl
theorem T7 {l:List AO} {AE:Int} (h:¬Fx l AE=0):Bg l AE=([],Fx l AE):=by
 unfold Fx at h ⊢
 by_cases hN:B_ l
 ·
  rw [if_pos hN] at h ⊢
  by_cases hg:AE<0∨4000<AE
  ·
   rw [if_pos hg] at h ⊢
   exact Prod.ext (by rw [EY hN hg]) (by rw [EY hN hg])
  · rw [if_neg hg] at h;exact absurd rfl h
 ·
  rw [if_neg hN] at h ⊢
  exact Prod.ext (by rw [GW hN]) (by rw [GW hN])
theorem Rv {l:List AO} {AE:Int} (h:Fx l AE=0):B_ l∧¬(AE<0∨4000<AE):=by
 unfold Fx at h
 by_cases hN:B_ l
 ·
  rw [if_pos hN] at h
  by_cases hg:AE<0∨4000<AE
  · rw [if_pos hg] at h;cases h
  · exact ⟨hN,hg⟩
 · rw [if_neg hN] at h;cases h
theorem T8 {l:List AO} {AE:Int} {k b0:Nat} (hn:l.length≤400) (hk:k<l.length):A5 Tryz.prog 48 [is (.pointer (some ⟨b0,0,none⟩)),int ((k:Nat):Int)] (int ((AR l AE k:Nat):Int)) (AA true b0 126 (arr (I5 l AE l.length))) (fun _=>AA true b0 126 (arr (I5 l AE l.length))):=by
 rw [←Qt hk]
 exact NB (ND hn l.length (Nat.le_refl _)) (by omega)
theorem Dy {l:List AO} {AE:Int} (hf:∀f∈l,f.fits):Be prog 12 [BC l,int AE] (FZ [Lc (Bg l AE).1,int (Bg l AE).2]):=by
 refine fo func12 rfl ⟨rfl,rfl⟩ fun M0 w0=>(Tr.Db 0 rfl fun DD=> ?_)
 refine a2 ?_
 refine co rfl (F3 (Tt (by assumption)) rfl rfl rfl) ?_
 refine ac ?_
 refine an ?_ ?_<;>intro h1 q1
 have hR:=T7 (l:=l) (AE:=AE) q1
 refine ac ?_
 refine Tr.ret (Fin.AJ (Fin.EJ rfl (Bq.D3 _ _) rfl ?_ rfl ?_))
 · rw [hR];exact AX 4
 · rw [hR];exact Lr
 obtain ⟨hN,hg⟩:=Rv (l:=l) (AE:=AE) q1
 have hd:=Qz hN
 have hlen:=hN.len
 have hn:l.length≤400:=by omega
 refine ac ?_
 refine ao ?_
 refine TO.pad ?_
 refine TO.On 0 rfl rfl (by decide) (Ep rfl rfl (by decide) rfl (Tv hd hn) ⟨ke rfl,ke rfl,trivial⟩) (fun v1=> ?_)
 refine TO.Xq 22 0 _ rfl rfl (fun _=>rfl) (fun b1=> ?_)
 refine ao ?_
 refine ac ?_
 refine Tr.seq (Tr.Cq ?_)
 refine TO.XE Po rfl rfl (by decide) rfl (fun b2=> ?_)
 refine ao ?_
 refine FB 0 7 8 9 rfl ?_
 refine ac ?_
 refine Tr.block (Tr.Mo 55 4 (Tr.Sj [(7,_),(9,_),(24,_),(25,_)] ⟨ke rfl,ke rfl,ke rfl,ke rfl,trivial⟩ (fun (k:Nat) (X:List D2) v=>[(26,int ((k:Nat):Int)),(8,Aq v (lens ((X.map Dc)).length))]) (fun (k:Nat) (X:List D2) v=>Hp M0 w0 J9 (Al 55 4 ((X.map Dc)) v::G3 Po b2 (T5 l AE k)::AA true b1 126 (arr (I5 l AE l.length))::GA OJ X)) (fun (k:Nat) (X:List D2)=>k≤l.length∧X.map (·.e)=CR l (AR l AE) k) (fun (k:Nat) (X:List D2)=>l.length-k) (0) ([]) (.slice none 0 0) (⟨Nat.zero_le _,rfl⟩) ⟨ke rfl,⟨_,rfl,Hx (by rfl)⟩,trivial⟩ (fun _ _ h=>h) ?_))
 rintro k X v ⟨GJ,Zg⟩
 refine ac ?_
 refine Tr.seq ?_
 refine Tr.cn rfl ?_ ?_<;>intro h2 q2
 have Au:k<l.length:=Af h2
 obtain ⟨f,Ae⟩:=at_ Au
 have oW:X.length≤k:=by have h9:=congrArg List.length Zg;rw [List.length_map,I6] at h9;have:=MG (AR l AE) k;omega
 refine ac ?_
 refine ao ?_
 refine tp rfl (AB rfl underlying31 AY (vl rfl) (vl rfl) (by omega) (by exact AZ (by assumption))) ?_
 refine tp rfl (Ap rfl BI AY (vl rfl) rfl rfl) ?_
 refine Tl rfl rfl rfl rfl Di Hq (fun b3=> ?_)
 refine tm rfl ?_
 refine sf 0 11 ⟨rfl,rfl,rfl⟩ rfl rfl rfl rfl ?_
 refine ao ?_
 refine LZ 7 8 9 10 11 24 25 26 rfl ?_
 refine ao ?_
 refine TO.DZ 2 rfl rfl (by decide) (Ab rfl rfl (by decide) rfl (T8 hn Au) ⟨ke rfl,ke rfl,trivial⟩) ?_
 refine ao ?_
 refine Tr.VS [(7,_),(9,_),(10,_),(11,_),(12,_),(24,_),(25,_),(26,_)] ⟨ke rfl,ke rfl,ke rfl,ke rfl,ke rfl,ke rfl,ke rfl,ke rfl,trivial⟩ (fun (X:List D2) v=>[(8,Aq v (lens ((X.map Dc)).length))]) (fun (X:List D2) v=>Hp M0 w0 J9 (Al 55 4 ((X.map Dc)) v::G3 Po b2 (T5 l AE (k+1))::AA true b1 126 (arr (I5 l AE l.length))::GA OJ X)) (fun (X:List D2)=>X.map (·.e)=CR l (AR l AE) k++if AR l AE k=k then [(⟨(k:Nat),[],[],[]⟩:GS)] else []) ?_ ?_
 refine ac ?_
 refine FL 7 8 9 10 11 12 24 25 26 36 rfl ?_
 refine Tr.cn rfl ?_ ?_<;>intro h3 q3
 have hr:AR l AE k=k:=by have:=q3;omega
 refine ao ?_
 refine tp rfl (TC rfl underlying35 (Kb rfl)) (TO.DP 1 rfl rfl (Im (((AR l AE k:Nat):Int)) GX rfl rfl rfl (vl rfl) (vl rfl) (fun _ _ _ h=>h) (vl rfl)) ?_)
 refine ao ?_
 refine Xk 7 8 9 10 11 12 24 25 26 rfl ?_
 refine ao ?_
 refine TO.On 0 rfl rfl (by decide) (Gj rfl rfl (by decide) rfl underlying35 EO aF X2 rfl (by decide) (by decide) (vl rfl) ⟨_,rfl,T0 k⟩ (Aj fun _=>rfl) (Nat.zero_lt_succ _) (by simp only [List.length_map,List.length_cons,List.length_nil];unfold maxLen;omega) (by simp only [List.length_map,List.length_cons,List.length_nil];omega)) (fun v2=> ?_)
 refine ao ?_
 have XP:(X.map Dc).length=(CR l (AR l AE) k).length:=by rw [List.length_map,←Zg,List.length_map]
 refine Fin.Mt (res:=OJ) [_,_,_] (Ty k) rfl (Tz k) ?_
 exact Fin.Fe (X++[Ty k]) v2 ((by rw [if_pos hr,List.map_append,Zg];rfl)) ⟨⟨_,rfl,Gm (by simp)⟩,ke rfl,ke rfl,ke rfl,ke rfl,ke rfl,ke rfl,ke rfl,ke rfl,trivial⟩ ((by rw [Q1 hr,←XP,List.map_append];exact fun _ _ h=>h))
 have hr:¬AR l AE k=k:=by have:=q3;omega
 refine Tr.skip ?_
 have XP:(X.map Dc).length=(CR l (AR l AE) k).length:=by rw [List.length_map,←Zg,List.length_map]
 exact Fin.Fe (X) v ((by rw [if_neg hr,Zg,List.append_nil])) ⟨⟨_,rfl,Gm (by simp)⟩,ke rfl,ke rfl,ke rfl,ke rfl,ke rfl,ke rfl,ke rfl,ke rfl,trivial⟩ ((by rw [T6 hr];exact fun _ _ h=>h))
 rintro X v hX
 refine Tr.seq ?_
 obtain ⟨i,hir,CS⟩:=WE (AE:=AE) Au
 obtain ⟨x,hx,Zh⟩:=WG hX hir
 have c_:i<X.length:=Bh hx
 have eu:(X.map Dc).length=X.length:=List.length_map ..
 have hlk:(Cp.look (T5 l AE (k+1)) ((AR l AE k:Nat):Int)).getD 0=((i:Nat):Int):=by rw [CS];rfl
 refine Tr.av (sz:=4) 0 rfl (by intro h0;rw [h0] at eu;simp at eu;omega) fun b4 Rw ew mS kG kH ez=> ?_
 subst mS
 have W4:((X.map Dc).flatten++ew.map is).length=Rw*4:=by rw [List.length_append,Bu (sz:=4) (Aj DW),List.length_map,List.length_map,ez,←Nat.add_mul];congr 1;omega
 have Y3:=Q2 l (AR l AE) (AR l AE k) k
 have hel:=II l (AR l AE) (AR l AE k) k
 rw [←Zh] at Y3 hel
 have hmul:i*4+4≤Rw*4:=by have:=Nat.mul_le_mul_right 4 (show i+1≤Rw by omega);omega
 refine ao ?_
 refine TO.rd 1 rfl rfl rfl (by decide) (PI (((AR l AE k:Nat):Int)) GX rfl (vl rfl) (vl rfl) (fun _ _ _ h=>h)) (tp rfl (AD rfl underlying35 EO (Ka rfl) (vl rfl) (by omega) (by omega)) ?_)
 refine ao ?_
 refine Xk 7 8 9 10 11 13 24 25 26 rfl (Tr.seq (Tr.weak [(13,ptr b4 (i*4)),(7,_),(8,_),(9,_),(10,_),(11,_),(24,_),(25,_),(26,_)] ⟨⟨_,rfl,Pr.le_of_eq (by rw [hlk,Int.toNat_natCast,Nat.zero_add])⟩,ke rfl,ke rfl,ke rfl,ke rfl,ke rfl,ke rfl,ke rfl,ke rfl,trivial⟩ (Tr.focus [_,_,_] hx rfl (Tr.pad (Tr.rx ?_)))))
 refine ax ?_
 refine DI 4 rfl rfl (B2 rfl QX (vl rfl) ((Ir DW hx (by decide)).trans rfl)) ?_
 refine ax ?_
 refine Cx.ef 1 rfl rfl (by decide) (Ep rfl rfl (by decide) rfl (Tx (l:=x.e.A7) (x:=f.host) Y3.1 (by omega)) ⟨ke rfl,ke rfl,trivial⟩) ?_
 refine ax ?_
 refine DI 4 rfl rfl (B2 rfl Nd (vl rfl) ((Ir DW hx (by decide)).trans rfl)) (xm rfl (xo rfl (fun _=>AH (xs:=[.tmp 64]) (rows:=[[_]]) rfl rfl underlying22 B7 z3 rfl (by decide) ⟨⟨(by exact rfl),(Vo rfl)⟩,trivial⟩ (by decide)) ?_))
 refine Cx.ef 3 rfl rfl (by decide) (Vb rfl rfl rfl rfl underlying22 B7 Mh z3 (Kb rfl) (Kf rfl) (Gg (by exact List.Mem.head _) (Ka rfl))) ?_
 refine ax ?_
 refine Cx.DP 4 rfl rfl (Ik rfl rfl rfl (vl rfl) rfl X0 (by rw [W4];omega)) ?_
 refine ax ?_
 refine Cx.DP 4 rfl rfl (Rb rfl rfl rfl (vl rfl) rfl VE (fun v=>by rw [WH (by rw [W4];omega),W4];omega)) ?_
 refine Cx.nil ⟨by kernel_rfl,?_⟩
 refine BJ.bB 1 3 4 59 66 rfl rfl rfl (by decide) (by decide) (by decide) (by decide) rfl rfl (fun v3 v4=> ?_)
 refine BJ.done lp (Fin.go (Tr.drop 0 (LZ 7 8 9 11 13 24 25 26 rfl (Tr.seq (Tr.gM 3 (((X.set i ⟨⟨x.e.num,Ej x.e.A7 f.host,x.e.As,x.e.BC++[((k:Nat):Int)]⟩,v3,x.vm,v4⟩).map Dc).flatten++ew.map is) rfl (WI hx (by omega) (by omega) rfl) ?_)))))
 have hx1:(X.set i ⟨⟨x.e.num,Ej x.e.A7 f.host,x.e.As,x.e.BC++[((k:Nat):Int)]⟩,v3,x.vm,v4⟩)[i]? =some ⟨⟨x.e.num,Ej x.e.A7 f.host,x.e.As,x.e.BC++[((k:Nat):Int)]⟩,v3,x.vm,v4⟩:=by rw [List.getElem?_set,if_pos rfl,if_pos c_]
 have iY:(((X.set i ⟨⟨x.e.num,Ej x.e.A7 f.host,x.e.As,x.e.BC++[((k:Nat):Int)]⟩,v3,x.vm,v4⟩).map Dc).flatten++ew.map is).length=Rw*4:=by rw [List.length_append,Bu (sz:=4) (Aj DW),List.length_map,List.length_set,List.length_map,ez,←Nat.add_mul];congr 1;omega
 refine an ?_ ?_<;>intro h4 q4
 refine Tr.rx ?_
 refine ax ?_
 refine DI 3 rfl rfl (B2 rfl Nd (vl rfl) ((Ir DW hx1 (by decide)).trans rfl)) ?_
 refine ax ?_
 refine Cx.ef 1 rfl rfl (by decide) (Ep rfl rfl (by decide) rfl (Y2 (l:=x.e.As) (x:=f.machine) Y3.2 (by omega)) ⟨ke rfl,ke rfl,trivial⟩) ?_
 refine ax ?_
 refine Cx.DP 3 rfl rfl (Ik rfl rfl rfl (vl rfl) rfl VE (by rw [iY];omega)) ?_
 refine Cx.nil ⟨by kernel_rfl,?_⟩
 refine BJ.W7 1 3 81 rfl rfl (by decide) rfl (fun v5=> ?_)
 refine BJ.done lg ?_
 refine ac ?_
 refine FK 7 8 9 24 25 26 rfl ?_
 refine ac ?_
 refine Fin.gM 3 (((X.set i ⟨⟨x.e.num,Ej x.e.A7 f.host,K9 x.e.As f.machine,x.e.BC++[((k:Nat):Int)]⟩,v3,v5,v4⟩).map Dc).flatten++ew.map is) rfl ((WJ (X:=X.set i ⟨⟨x.e.num,Ej x.e.A7 f.host,x.e.As,x.e.BC++[((k:Nat):Int)]⟩,v3,x.vm,v4⟩) hx1 (by omega)).trans (by rw [List.set_set])) ?_
 refine Fin.Jr (res:=OJ) [_,_,_] (⟨⟨x.e.num,Ej x.e.A7 f.host,K9 x.e.As f.machine,x.e.BC++[((k:Nat):Int)]⟩,v3,v5,v4⟩:D2) c_ rfl ?_
 refine Fin.Fi (sz:=4) 0 rfl (m:=(X.map Dc).length) (by simp) kG kH ez ?_
 exact Fin.QU (k+1) (X.set i ⟨⟨x.e.num,Ej x.e.A7 f.host,K9 x.e.As f.machine,x.e.BC++[((k:Nat):Int)]⟩,v3,v5,v4⟩) (.slice (some ⟨b4,0,none⟩) (X.map Dc).length Rw) (⟨⟨by omega,MH Ae hX hir Zh (by unfold DV;rw [if_neg (by assumption)])⟩,by omega⟩) ⟨⟨_,rfl,AM k⟩,⟨_,rfl,Gm (by simp)⟩,ke rfl,ke rfl,ke rfl,ke rfl,trivial⟩ (fun _ _ h=>h)
 refine a2 ?_
 refine Fin.Jr (res:=OJ) [_,_,_] (⟨⟨x.e.num,Ej x.e.A7 f.host,x.e.As,x.e.BC++[((k:Nat):Int)]⟩,v3,x.vm,v4⟩:D2) c_ rfl ?_
 refine Fin.Fi (sz:=4) 0 rfl (m:=(X.map Dc).length) (by simp) kG kH ez ?_
 exact Fin.QU (k+1) (X.set i ⟨⟨x.e.num,Ej x.e.A7 f.host,x.e.As,x.e.BC++[((k:Nat):Int)]⟩,v3,x.vm,v4⟩) (.slice (some ⟨b4,0,none⟩) (X.map Dc).length Rw) (⟨⟨by omega,MH Ae hX hir Zh (by unfold DV;rw [if_pos (by assumption)])⟩,by omega⟩) ⟨⟨_,rfl,AM k⟩,⟨_,rfl,Gm (by simp)⟩,ke rfl,ke rfl,ke rfl,ke rfl,trivial⟩ (fun _ _ h=>h)
 obtain rfl:k=l.length:=(by have:=Ag h2;omega)
 refine ac ?_
 refine Tr.seq (Tr.Kv (Φ:=T2) (f:=Dc) (g:=cz) (d:=8) [_,_] rfl rfl DW (fun _=>rfl) WD (fun x rs M w=>T3 x rs M w) T4 ?_)
 refine ac ?_
 refine Tr.ret (Fin.EJ rfl (Bq.D3 _ _) rfl ?_ rfl ?_)
 · rw [Fv hN (by omega)];exact Pr.le_trans (BP _ _) (Pr.le_of_eq (by show slice 4 _=slice 4 ((CR l (AR l AE) l.length).map V2);rw [←Zg,List.map_map];rfl))
 · rw [Fv hN (by omega)];exact Lr
end Go.Proofs.YtgilhkjlfongoaaGreat
namespace Go.Proofs.YtgilhkjlfongoaaGreat
open Go Go.RowKit Cp Go.ChangeShapes Go.WideShapes Go.ChangeAt Go.Proofs.Tryz
theorem iZ:ownKnob Tryz.prog.godebug=none:=by kernel_rfl
theorem T9:laidOutB Tryz.prog=true:=by kernel_rfl
theorem u8_in {n:Int} (h:(Lit.int .u8 n).wf=true):0≤n∧n<256:=by
 simp only [Lit.wf,Bool.and_eq_true,decide_eq_true_eq] at h
 have h1:IntKind.u8.min=0:=rfl
 have h2:IntKind.u8.max=255:=rfl
 omega
theorem i64_in {n:Int} (h:(Lit.int .i64 n).wf=true):Em n:=by
 simp only [Lit.wf,Bool.and_eq_true,decide_eq_true_eq] at h
 have h1:IntKind.i64.min= -9223372036854775808:=rfl
 have h2:IntKind.i64.max=9223372036854775807:=rfl
 unfold Em;omega
theorem Pq {P:Program} {t e:TypeId} (ht:P.underlying t=some (.slice e)) (he:P.underlying e=some (.int .i64)) (hc:P.cellsOf e=1):Et P t (fun l:List Int=>l.length≤maxLen∧∀n∈l,Em n) (fun l=>[ints l]):=
 (NX ht hc (Cc he)).map id (fun _ h=>⟨h.2,fun n hn=>i64_in (h.1 n hn)⟩) (fun _=>rfl)
abbrev bF:AO:=⟨1,[97],1,3,9,4,[115],0,0,1,[]⟩
abbrev bG:AO:=⟨1,[97],0,5,9,4,[115],0,0,1,[]⟩
theorem Q3:∀f∈[bF,bG],BB f=true:=by decide+kernel
theorem T_:∀f∈[bG,bF],f.fits:=by
 intro f hf
 simp at hf
 rcases hf with rfl|rfl<;>exact ⟨by simp [maxLen],by simp [maxLen],by simp [maxLen]⟩
theorem UA:[bF,bG].foldl Ci []=[bG,bF]:=by kernel_rfl
theorem Q4:B_ [bG,bF]:=by have:=Qp Q3 (by simp);rwa [UA] at this
theorem WK:Be Tryz.prog 45 [BC [bF,bG]] (FZ [BC [bG,bF],int 0]):=by
 have:=Rj (l:=[bF,bG]) Q3 (by simp);rwa [UA] at this
theorem LG (l:List AO) {r1 r2:Nat→Nat} (r:Nat):∀n,(∀i,i<n→r1 i=r2 i)→Ba l r1 r n=Ba l r2 r n
 |0,_=>rfl
 |n+1,h=>by unfold Ba;rw [LG l r n (fun i hi=>h i (by omega)),h n (by omega)]
theorem OK (l:List AO) {r1 r2:Nat→Nat} (n:Nat) (h:∀i,i<n→r1 i=r2 i):CR l r1 n=CR l r2 n:=by
 unfold CR
 have e:Bi r1 n=Bi r2 n:=by
  unfold Bi
  refine List.filter_congr fun i hi=> ?_
  rw [h i (List.mem_range.1 hi)]
 rw [e]
 exact List.map_congr_left fun r _=>LG l r n h
theorem OL (l:List AO) (AE:Int):IE l AE=CR l (RR l AE l.length) l.length:=OK l l.length fun i hi=>(Qt hi).symm
theorem WL:IE [bG,bF] 2=[⟨0,[[97]],[1],[0,1]⟩]:=by rw [OL];decide+kernel
theorem WM:IE [bG,bF] 1=[⟨0,[[97]],[],[0]⟩,⟨1,[[97]],[1],[1]⟩]:=by rw [OL];decide+kernel
theorem WN:Be Tryz.prog 12 [BC [bG,bF],int 2] (FZ [Lc [⟨0,[[97]],[1],[0,1]⟩],int 0]):=by
 have:=Dy (l:=[bG,bF]) (AE:=2) T_;rwa [Fv Q4 (by omega),WL] at this
theorem WO:Be Tryz.prog 12 [BC [bG,bF],int 1] (FZ [Lc [⟨0,[[97]],[],[0]⟩,⟨1,[[97]],[1],[1]⟩],int 0]):=by
 have:=Dy (l:=[bG,bF]) (AE:=1) T_;rwa [Fv Q4 (by omega),WM] at this
theorem MI   :Be prog 7 [] (bool true):=by
 refine Be.of func7 rfl rfl (by exact Nb rfl) fun M0 w0=> ?_
 refine Tr.seq (Tr.A0 (cm rfl (Ch.nil (Fin.go (Tr.seq (Tr.Cq (tp rfl (BK (rows:=[(0,[_]),(1,[_]),(2,[_]),(3,[_]),(4,[_]),(5,[_]),(6,[_]),(8,[_])]) rfl aD Hq ⟨⟨rfl,(Vo rfl)⟩,⟨⟨rfl,(Vo rfl)⟩,⟨⟨rfl,(Vo rfl)⟩,⟨⟨rfl,(Vo rfl)⟩,⟨⟨rfl,(Vo rfl)⟩,⟨⟨rfl,(Vo rfl)⟩,⟨⟨rfl,(Vo rfl)⟩,⟨⟨rfl,(Vo rfl)⟩,trivial⟩⟩⟩⟩⟩⟩⟩⟩ rfl) ?_)))))))
 refine Tl rfl rfl rfl rfl Di Hq (fun b1=> ?_)
 refine TO.DB 0 rfl rfl rfl (vl rfl) (Va rfl) rfl AY rfl rfl (TO.freeze 0 1 rfl rfl (TO.nil (Fin.go (Tr.seq (Tr.Cq (tp rfl (Ap rfl BI AY (vl rfl) rfl rfl) ?_))))))
 refine Tl rfl rfl rfl rfl Di Hq (fun b2=> ?_)
 refine TO.DB 0 rfl rfl rfl (vl rfl) (Va rfl) rfl AY rfl rfl (TO.nil (Fin.go (Tr.seq (Tr.Cq (tp rfl (Br rfl Mi (vl rfl)) (TO.DP 0 rfl rfl (Ar rfl rfl (vl rfl) (Vo rfl) B7 rfl (by exact Nb rfl) rfl) (tp rfl (Br rfl So (vl rfl)) (TO.DP 0 rfl rfl (Ar rfl rfl (vl rfl) (Vo rfl) B7 rfl (by exact Nb rfl) rfl) (TO.nil (Fin.go (Tr.seq (Tr.A0 (co rfl (Ap rfl BI AY (vl rfl) rfl rfl) ?_)))))))))))))
 refine co rfl (Ay 0 rfl (AW rfl BI AY (vl rfl) rfl rfl)) (co rfl (AH (xs:=[.tmp 14,.tmp 15]) (rows:=[_,_]) rfl rfl underlying31 AY Di rfl (by decide) ⟨⟨(by exact rfl),(Va rfl)⟩,⟨⟨(by exact rfl),(Va rfl)⟩,trivial⟩⟩ (by decide)) ?_)
 refine co rfl (Ai rfl (WK) ⟨(Kf rfl),trivial⟩) (cm rfl (co rfl (A2 rfl (vl rfl) rfl) (co rfl (A2 rfl (vl rfl) rfl) (cm rfl (cm rfl (Ch.nil (Fin.go (Tr.drop 0 (Cg 3 rfl (Tr.seq (Tr.A0 (cm rfl (co rfl (Ai rfl (WN) ⟨ke rfl,ke rfl,trivial⟩) ?_)))))))))))))
 refine cm rfl (co rfl (A2 rfl (vl rfl) rfl) (co rfl (A2 rfl (vl rfl) rfl) (cm rfl (cm rfl (Ch.nil (Fin.go (Tr.seq (Tr.A0 (cm rfl (co rfl (Ai rfl (WO) ⟨ke rfl,ke rfl,trivial⟩) (cm rfl (co rfl (A2 rfl (vl rfl) rfl) (co rfl (A2 rfl (vl rfl) rfl) ?_)))))))))))))
 refine cm rfl (cm rfl (Ch.nil (Fin.go (FB 5 6 7 8 rfl (Tr.seq (Tr.A0 (cm rfl (co rfl (ki rfl rfl rfl rfl) (cm rfl ?_)))))))))
 refine Ch.cs 32 rfl ?_ ?_<;>intro h1 q1
 refine Dh h1 rfl (cy h1 rfl (ki rfl rfl rfl rfl) (co rfl (NM rfl rfl h1 rfl) (cm rfl ?_)))
 refine Ch.cs 36 rfl ?_ ?_<;>intro h2 q2
 refine Dh h2 rfl (cy h2 rfl (Co rfl underlying35 (vl rfl)) (cy h2 rfl (ki rfl rfl rfl rfl) (co rfl (NM rfl rfl h2 rfl) (cm rfl ?_))))
 refine Ch.cs 41 rfl ?_ ?_<;>intro h3 q3
 refine Dh h3 rfl (cy h3 rfl (Co rfl underlying35 (vl rfl)) (cy h3 rfl (ki rfl rfl rfl rfl) (co rfl (NM rfl rfl h3 rfl) (cm rfl ?_))))
 refine Ch.cs 46 rfl ?_ ?_<;>intro h4 q4
 refine Dh h4 rfl (cy h4 rfl (Ai rfl (XM) ⟨ke rfl,ke rfl,trivial⟩) (cy h4 rfl (ki rfl rfl rfl rfl) (co rfl (NM rfl rfl h4 rfl) (cm rfl (Ch.nil (Fin.go (Cg 0 rfl (Tr.ret (Fin.EI rfl (Bq.D3 _ _) rfl ?_)))))))))
 · exact bool_eq (by decide+kernel)
 exfalso;simp at h4
 exfalso;simp at h3
 exfalso;simp at h2
 exfalso;simp at h1
end Go.Proofs.YtgilhkjlfongoaaGreat
namespace Go.Proofs.YtgilhkjlfongoaaGreat
open Go Go.RowKit Cp Go.Proofs.Tryz
section
variable {l:List AO} {AE:Int} {root:Nat→Nat}
theorem OM {r:Nat} {v:Int}:∀{n:Nat},n≤l.length→(v∈(Ba l root r n).BC↔∃j:Nat,j<n∧root j=r∧v=(j:Nat))
 |0,_=>by simp [Ba]
 |n+1,hn=>by
  obtain ⟨f,hf⟩:=at_ (l:=l) (k:=n) (by omega)
  have ih:=OM (r:=r) (v:=v) (n:=n) (by omega)
  by_cases h:root n=r
  ·
   rw [FT hf h]
   show v∈_++[_]↔_
   rw [List.mem_append,ih,List.mem_singleton]
   constructor
   ·
    rintro (⟨j,h1,h2,h3⟩|h1)
    · exact ⟨j,by omega,h2,h3⟩
    · exact ⟨n,by omega,h,h1⟩
   ·
    rintro ⟨j,h1,h2,h3⟩
    rcases Nat.lt_or_eq_of_le (Nat.le_of_lt_succ h1) with h4|h4
    · exact .inl ⟨j,h4,h2,h3⟩
    · subst h4;exact .inr h3
  ·
   rw [Gx h,ih]
   constructor
   · rintro ⟨j,h1,h2,h3⟩;exact ⟨j,by omega,h2,h3⟩
   ·
    rintro ⟨j,h1,h2,h3⟩
    rcases Nat.lt_or_eq_of_le (Nat.le_of_lt_succ h1) with h4|h4
    · exact ⟨j,h4,h2,h3⟩
    · subst h4;exact absurd h2 h
theorem Q5 {e:GS} {n':Nat} (h:e∈CR l root n'):∃r,r<n'∧root r=r∧e=Ba l root r n':=by
 unfold CR at h
 rw [List.mem_map] at h
 obtain ⟨r,h1,h2⟩:=h
 exact ⟨r,(Iy h1).1,(Iy h1).2,h2.symm⟩
end
abbrev Y4 (n:Nat):={v:Int//0≤v∧v<n}
theorem WQ {n:Nat} {l:List Int} (h:∀v∈l,0≤v∧v<n):∃L:List (Y4 n),L.map (·.1)=l:=
 ⟨l.attach.map fun x=>⟨x.1,h x.1 x.2⟩,by rw [List.map_map];exact List.attach_map_subtype_val l⟩
def IK (l:List AO) (p:AO→Bool) (v:Int):Bool:=match l[v.toNat]? with|some f=>p f|none=>false
theorem Pt {l:List AO} {p:AO→Bool} {v:Int} {f:AO} (h:l[v.toNat]? =some f):IK l p v=p f:=by unfold IK;rw [h]
def CT (l:List AO) (E:List GS) (p:AO→Bool):List Int:=(E.filter fun e=>e.BC.any fun v=>IK l p v).map (·.num)
theorem G0 {l:List AO} {E:List GS} {p:AO→Bool} {k:Nat} {x:GS} (hx:E[k]? =some x):CT l (E.take (k+1)) p=CT l (E.take k) p++if (x.BC.any fun v=>IK l p v) then [x.num] else []:=by
 unfold CT
 rw [List.take_add_one,hx,List.filter_append,List.map_append]
 congr 1
 show (List.filter _ [x]).map _=_
 by_cases h:(x.BC.any fun v=>IK l p v)=true<;>simp [h]
abbrev Bz (f:AO) (g:AO):Bool:=decide (g.host=f.host)||(decide (¬f.machine=0)&&decide (g.machine=f.machine))
abbrev Cw (host:List UInt8) (day:Int) (g:AO):Bool:=decide (g.host=host)&&decide (g.day=day)
noncomputable def DY (l:List AO) (AE:Int) (f:AO):List Int×Int:=if (Bg l AE).2=0 then (if BB f then (CT l (Bg l AE).1 (Bz f),0) else ([],24)) else ([],(Bg l AE).2)
noncomputable def GY (l:List AO) (AE:Int) (host:List UInt8) (day:Int):List Int×Int:=if (Bg l AE).2=0 then (CT l (Bg l AE).1 (Cw host day),0) else ([],(Bg l AE).2)
theorem Fy (l:List AO) (AE:Int):(B_ l∧Bg l AE=(IE l AE,0))∨((Bg l AE).1=[]∧¬(Bg l AE).2=0):=by
 by_cases hN:B_ l
 ·
  by_cases hg:AE<0∨4000<AE
  · right;rw [EY hN hg];exact ⟨rfl,by show ¬(2:Int)=0;omega⟩
  · left;exact ⟨hN,Fv hN (by omega)⟩
 · right;rw [GW hN];exact ⟨rfl,by show ¬(24:Int)=0;omega⟩
theorem Jz (l:List AO) (AE:Int):∀e∈(Bg l AE).1,∀v∈e.BC,0≤v∧v<(l.length:Nat):=by
 intro e he v hv
 rcases Fy l AE with ⟨_,h⟩|⟨h,_⟩
 ·
  rw [h] at he
  obtain ⟨r,_,_,rfl⟩:=Q5 he
  obtain ⟨j,h1,_,h3⟩:=(OM (Nat.le_refl _)).1 hv
  omega
 · rw [h] at he;simp at he
theorem MJ (l:List AO) (AE:Int):((Bg l AE).1.map (·.num)).Pairwise (· < ·):=by
 rcases Fy l AE with ⟨_,h⟩|⟨h,_⟩
 ·
  rw [h]
  unfold IE CR
  rw [List.map_map]
  have:((fun x:GS=>x.num) ∘ fun r=>Ba l (AR l AE) r l.length)=fun r:Nat=>(r:Int):=funext fun r=>IF _ _ _ _
  show List.Pairwise _ (List.map ((fun x:GS=>x.num) ∘ fun r=>Ba l (AR l AE) r l.length) _)
  rw [this,List.pairwise_map]
  exact (K_ _ _).imp (fun {a b} h=>by omega)
 · rw [h];exact List.Pairwise.nil
theorem Q6 {l:List AO} {E:List GS} {p:AO→Bool} {k:Nat} {x:GS} (ha:(E.map (·.num)).Pairwise (· < ·)) (hx:E[k]? =some x):∀n∈CT l (E.take k) p,n<x.num:=by
 intro n hn
 unfold CT at hn
 rw [List.mem_map] at hn
 obtain ⟨e,he,rfl⟩:=hn
 have he:=(List.mem_filter.1 he).1
 obtain ⟨i,hi⟩:=List.mem_iff_getElem?.1 he
 rw [List.getElem?_take] at hi
 split at hi
 ·
  rename_i hik
  rw [List.pairwise_iff_getElem] at ha
  have h1:=Bh hi
  have h2:=Bh hx
  have:=ha i k (by simpa using h1) (by simpa using h2) hik
  rw [List.getElem_map,List.getElem_map] at this
  rw [List.getElem?_eq_getElem h1] at hi
  rw [List.getElem?_eq_getElem h2] at hx
  simp only [Option.some.injEq] at hi hx
  rw [hi,hx] at this;exact this
 · cases hi
theorem ON:∀{l:List Int} {n:Int},(∀y∈l,y<n)→K9 l n=l++[n]
 |[],_,_=>rfl
 |y::l,n,h=>by
  have h1:=h y (List.mem_cons_self ..)
  show (if An y n<0 then _ else _)=_
  rw [if_pos (by unfold An;rw [if_pos h1];omega)]
  exact congrArg (y:: ·) (ON fun z hz=>h z (List.mem_cons_of_mem _ hz))
theorem MK:∀{l:List Int} {n:Int},(∀y∈l,y<n)→K9 (l++[n]) n=l++[n]
 |[],n,_=>by
  show Cn An [n] n=_
  have h0:An n n=0:=Cf.2 rfl
  unfold Cn
  rw [if_neg (by omega),if_pos h0];rfl
 |y::l,n,h=>by
  have h1:=h y (List.mem_cons_self ..)
  show (if An y n<0 then _ else _)=_
  rw [if_pos (by unfold An;rw [if_pos h1];omega)]
  exact congrArg (y:: ·) (MK fun z hz=>h z (List.mem_cons_of_mem _ hz))
def E_ (l:List AO) (p:AO→Bool) (x:GS) (k:Nat):List Int:=if ((x.BC.take k).any fun v=>IK l p v) then [x.num] else []
theorem J0 {l:List AO} {p:AO→Bool} {x:GS} {k:Nat} {v:Int} (hx:x.BC[k]? =some v) (h:IK l p v=false):E_ l p x (k+1)=E_ l p x k:=by
 unfold E_;rw [List.take_add_one,hx,List.any_append];simp [h]
theorem LH {l:List AO} {p:AO→Bool} {x:GS} {k:Nat} {v:Int} {w:List Int} (hw:∀y∈w,y<x.num) (hx:x.BC[k]? =some v) (h:IK l p v=true):Cn An (w++E_ l p x k) x.num=w++E_ l p x (k+1):=by
 have e:E_ l p x (k+1)=[x.num]:=by unfold E_;rw [List.take_add_one,hx,List.any_append];simp [h]
 rw [e]
 unfold E_
 split
 · exact MK hw
 · rw [List.append_nil];exact ON hw
theorem LI {l:List AO} {E:List GS} {p:AO→Bool}:(CT l E p).length≤E.length:=by
 unfold CT;rw [List.length_map];exact List.length_filter_le _ _
theorem OO {l:List AO} {p:AO→Bool} {x:GS} {k:Nat}:(E_ l p x k).length≤1:=by unfold E_;split<;>simp
theorem Q7 (l:List AO) (AE:Int):∀e∈(Bg l AE).1,e.BC.length≤400:=by
 intro e he
 rcases Fy l AE with ⟨hN,h⟩|⟨h,_⟩
 ·
  rw [h] at he
  obtain ⟨r,_,_,rfl⟩:=Q5 he
  have:=(II l (AR l AE) r l.length).1
  have:=hN.len
  omega
 · rw [h] at he;simp at he
theorem G1 (l:List AO) (AE:Int):(Bg l AE).1.length≤400:=by
 rcases Fy l AE with ⟨hN,h⟩|⟨h,_⟩
 ·
  rw [h]
  show (IE l AE).length≤400
  unfold IE
  rw [I6]
  have:=MG (AR l AE) l.length
  have:=hN.len
  omega
 · rw [h];simp
theorem NI {n:Nat} {l:List (Y4 n)} {p:Y4 n→Bool}  :Be prog 131 [slice 1 (l.map fun x=>[int x.1]),GF prog (fun x:Y4 n=>[int x.1]) (fun x=>bool (p x))] (int (idx p l)):=by
 refine fo func131 rfl ⟨rfl,rfl⟩ fun M0 w0=>(Tr.Db 0 rfl fun DD=> ?_)
 refine a2 ?_
 refine Tr.block (Tr.BV [(0,_),(1,_),(7,_)] (RI rfl) (fun k:Nat=>[(8,int ((k:Nat):Int))]) (fun k:Nat=>k≤(l).length∧(∀j y,j<k→l[j]? =some y→p y=false)) (fun k:Nat=>(l).length-k) 0 (⟨Nat.zero_le _,fun j y hj=>absurd hj (by omega)⟩) ⟨ke rfl,trivial⟩ ?_)
 rintro k ⟨CN,Ac⟩
 refine ac ?_
 refine Tr.seq ?_
 refine Tr.cn rfl ?_ ?_<;>intro h1 q1
 have Au:k<(l).length:=Af h1
 obtain ⟨x,Ae⟩:=at_ Au
 · repeat' first|exact int_eq (It Ae (by assumption) Ac)|exact Fin.AF (k+1) ⟨⟨Au,Fl Ae (by assumption) Ac⟩,by omega⟩ ⟨⟨_,rfl,AM k⟩,ke rfl,ke rfl,ke rfl,trivial⟩|refine co rfl (AB rfl underlying22 B7 (vl rfl) (vl rfl) (by omega) (by exact AZ (by assumption))) ?_|refine co rfl (U9 rfl Cr rfl) (co rfl (A6 x rfl (vl rfl) ⟨ke rfl,trivial⟩) ?_)|refine ac ?_|(refine Tr.cn rfl ?_ ?_<;>intro h q)
 have Bn:k=(l).length:=by have:=Ag h1;omega
 subst Bn
 refine a3 ?_
 · exact int_eq (Kx Ac)
theorem Jg {n:Nat} {l:List (Y4 n)} {p:Y4 n→Bool}  :Be prog 102 [slice 1 (l.map fun x=>[int x.1]),GF prog (fun x:Y4 n=>[int x.1]) (fun x=>bool (p x))] (bool (l.any p)):=by
 refine fo func102 rfl ⟨rfl,rfl⟩ fun M0 w0=> ?_
 refine a2 ?_
 refine co rfl (F3 (NI) rfl rfl rfl) ?_
 refine a2 ?_
 · exact bool_eq (Qj p l)
theorem WR {l:List AO} {p:AO→Bool} {v:Int} (h0:0≤v) (hv:v<(l.length:Nat)):Be prog 103 [int v,ref [GF prog (fun f:AO=>[agg (BA f)]) (fun f=>bool (p f))],ref [BC l]] (bool (IK l p v)):=by
 refine fo func103 rfl ⟨rfl,rfl⟩ fun M0 w0=> ?_
 obtain ⟨f,hf⟩:=at_ (l:=l) (k:=v.toNat) (by omega)
 refine a2 ?_
 refine co rfl (AB rfl underlying31 AY (vl rfl) (vl rfl) (by omega) (CC hf)) (co rfl (Ap rfl BI AY (vl rfl) rfl rfl) (co rfl (A6 f rfl (vl rfl) ⟨ke rfl,trivial⟩) ?_))
 refine a2 ?_
 · exact bool_eq (Pt hf).symm
theorem WS:Entry Tryz.prog 103:=⟨_,Tryz.func103,rfl,rfl⟩
theorem UB {l:List AO} {E:List GS} {p:AO→Bool} (hE:∀e∈E,∀v∈e.BC,0≤v∧v<(l.length:Nat)) (hn:E.length≤400):Be prog 60 [BC l,Lc E,GF prog (fun f:AO=>[agg (BA f)]) (fun f=>bool (p f))] (ints (CT l E p)):=by
 refine fo func60 rfl ⟨rfl,rfl⟩ fun M0 w0=>(Tr.Db 1 rfl fun N2=> ?_)
 refine a3 ?_
 refine Tr.block (Tr.Ih 3 1 (Tr.Oq [(3,_),(5,_),(10,_),(11,_)] ⟨ke rfl,ke rfl,ke rfl,ke rfl,trivial⟩ (fun k v=>[(12,int ((k:Nat):Int)),(7,Aq v (ints (CT l (E.take k) p)))]) (fun k v=>Hp M0 w0 J9 ([BR 3 1 v])) (fun k:Nat=>k≤(E).length) (fun k:Nat=>(E).length-k) 0 (.slice none 0 0) (Nat.zero_le _) ⟨ke rfl,⟨_,rfl,Gh rfl⟩,trivial⟩ (fun _ _ h=>h) ?_))
 rintro k v CN
 refine ac ?_
 refine Tr.seq ?_
 refine Tr.cn rfl ?_ ?_<;>intro h1 q1
 have Au:k<(E).length:=Af h1
 obtain ⟨x,Ae⟩:=at_ Au
 obtain ⟨L,hL⟩:=WQ (hE x (List.mem_of_getElem? Ae))
 have dA:=LI (l:=l) (E:=E.take k) (p:=p)
 rw [List.length_take] at dA
 refine ac ?_
 refine Tr.seq (Tr.block (Tr.seq (Tr.Cq (tp rfl (AB rfl underlying35 EO (vl rfl) (vl rfl) (by omega) (by exact AZ (by assumption))) ?_))))
 refine tp rfl (Ap rfl Sr EO (vl rfl) rfl rfl) ?_
 refine Tl rfl rfl rfl rfl X2 RJ (fun b1=> ?_)
 refine sf 0 9 ⟨rfl,rfl,rfl⟩ rfl rfl rfl rfl ?_
 refine ao ?_
 refine ac ?_
 refine co rfl (Ai rfl (Jg (l:=L) (p:=fun y=>IK l p y.1)) ⟨⟨_,rfl,Pr.le_of_eq (by rw [←hL];unfold ints;rw [List.map_map];rfl)⟩,⟨_,rfl,BW WS (fun y=>WR y.2.1 y.2.2)⟩,trivial⟩) ?_
 refine ac ?_
 refine LZ 3 5 7 9 10 11 12 19 rfl ?_
 refine Tr.cn rfl ?_ ?_<;>intro h2 q2
 rw [show (L.any fun y=>IK l p y.1)=(x.BC.any fun v=>IK l p v) by rw [←hL,List.any_map];rfl] at h2
 have hst:=G0 (l:=l) (p:=p) Ae
 rw [if_pos h2] at hst
 refine ao ?_
 refine TO.On 0 rfl rfl (by decide) (Vb rfl rfl rfl rfl underlying22 B7 Mh z3 (Kb rfl) (Kf rfl) (Gg (by exact List.Mem.head _) (Ka rfl))) (fun v1=> ?_)
 refine ao ?_
 refine FK 3 5 7 10 11 12 rfl ?_
 refine ac ?_
 exact Fin.Lm (k+1) v1 (⟨Au,by omega⟩) ⟨⟨_,rfl,AM k⟩,⟨_,rfl,E4 (by rw [hst,List.map_append];rfl)⟩,ke rfl,ke rfl,ke rfl,ke rfl,trivial⟩ (fun _ _ h=>h)
 rw [show (L.any fun y=>IK l p y.1)=(x.BC.any fun v=>IK l p v) by rw [←hL,List.any_map];rfl] at h2
 have hst:=G0 (l:=l) (p:=p) Ae
 rw [if_neg (by rw [h2];decide),List.append_nil] at hst
 refine a2 ?_
 exact Fin.Lm (k+1) v (⟨Au,by omega⟩) ⟨⟨_,rfl,AM k⟩,⟨_,rfl,E4 (by rw [hst])⟩,ke rfl,ke rfl,ke rfl,ke rfl,trivial⟩ (fun _ _ h=>h)
 have Bn:k=(E).length:=by have:=Ag h1;omega
 subst Bn
 rw [List.take_length]
 refine a3 ?_
 · exact BP _ _
theorem Pu {f g:AO}  :Be prog 63 [agg (BA g),ref (BA f)] (bool (Bz f g)):=by
 refine fo func63 rfl ⟨rfl,rfl⟩ fun M0 w0=> ?_
 · repeat' first|(refine bool_eq ?_;unfold Bz;rw [Bool.eq_iff_iff];simp_all)|refine ac ?_|(refine Ch.cg rfl rfl rfl ?_ ?_<;>intro h q)
theorem Pv:Entry Tryz.prog 63:=⟨_,Tryz.func63,rfl,rfl⟩
theorem UC {g:AO} {host:List UInt8} {day:Int}  :Be prog 61 [agg (BA g),ref [str host],ref [int day]] (bool (Cw host day g)):=by
 refine fo func61 rfl ⟨rfl,rfl⟩ fun M0 w0=> ?_
 · repeat' first|(refine bool_eq ?_;unfold Cw;rw [Bool.eq_iff_iff];simp_all)|refine ac ?_|(refine Ch.cg rfl rfl rfl ?_ ?_<;>intro h q)
theorem UD:Entry Tryz.prog 61:=⟨_,Tryz.func61,rfl,rfl⟩
theorem Pw {l:List AO} {AE:Int} {f:AO} (hf:∀f∈l,f.fits) (e7:f.fits):Be prog 19 [BC l,int AE,agg (BA f)] (FZ [ints (DY l AE f).1,int (DY l AE f).2]):=by
 refine fo func19 rfl ⟨rfl,rfl⟩ fun M0 w0=> ?_
 refine a2 ?_
 refine co rfl (F3 (Dy (by assumption)) rfl rfl rfl) ?_
 refine ac ?_
 refine an ?_ ?_<;>intro h1 q1
 have OP:¬(Bg l AE).2=0:=q1
 have hR:DY l AE f=([],(Bg l AE).2):=if_neg OP
 refine ac ?_
 refine F8 6 7 rfl (Tr.ret (Fin.AJ (Fin.EJ rfl (Bq.D3 _ _) rfl ?_ rfl ?_)))
 · rw [hR];exact AX 1
 · rw [hR];exact Lr
 have OP:(Bg l AE).2=0:=q1
 have hin:=Jz l AE
 have Iq:=G1 l AE
 refine a2 ?_
 refine co rfl (Eh (N5 (by assumption)) rfl rfl) ?_
 refine ac ?_
 refine FB 0 5 8 10 rfl ?_
 refine an ?_ ?_<;>intro h2 q2
 have hc:=I2 q2
 have hR:DY l AE f=([],24):=by unfold DY;rw [if_pos OP,if_neg (by rw [hc];decide)]
 refine ac ?_
 refine Tr.ret (Fin.AJ (Fin.EJ rfl (Bq.D3 _ _) rfl ?_ rfl ?_))
 · rw [hR];exact AX 1
 · rw [hR];refine int_eq ?_;rw [hc];rfl
 have hc:=HT q2
 have hR:DY l AE f=(CT l (Bg l AE).1 (Bz f),0):=by unfold DY;rw [if_pos OP,if_pos hc]
 refine a2 ?_
 refine co rfl (Ai rfl (UB (p:=Bz f) hin Iq) ⟨ke rfl,ke rfl,⟨_,rfl,BW Pv (fun g=>Pu)⟩,trivial⟩) ?_
 refine ac ?_
 refine Tr.ret (Fin.EJ rfl (Bq.D3 _ _) rfl ?_ rfl ?_)
 · rw [hR];exact Lr
 · rw [hR];exact Lr
theorem UE {l:List AO} {AE day:Int} {host:List UInt8} (hf:∀f∈l,f.fits):Be prog 17 [BC l,int AE,str host,int day] (FZ [ints (GY l AE host day).1,int (GY l AE host day).2]):=by
 refine fo func17 rfl ⟨rfl,rfl⟩ fun M0 w0=> ?_
 refine a2 ?_
 refine co rfl (F3 (Dy (by assumption)) rfl rfl rfl) ?_
 refine a2 ?_
 refine FK 0 6 7 10 11 19 rfl ?_
 refine Tr.cn rfl ?_ ?_<;>intro h1 q1
 have OP:¬(Bg l AE).2=0:=q1
 have hR:GY l AE host day=([],(Bg l AE).2):=if_neg OP
 refine ac ?_
 refine Tr.ret (Fin.AJ (Fin.EJ rfl (Bq.D3 _ _) rfl ?_ rfl ?_))
 · rw [hR];exact AX 1
 · rw [hR];exact Lr
 have OP:(Bg l AE).2=0:=q1
 have hin:=Jz l AE
 have Iq:=G1 l AE
 have hR:GY l AE host day=(CT l (Bg l AE).1 (Cw host day),0):=if_pos OP
 refine a2 ?_
 refine co rfl (Ai rfl (UB (p:=Cw host day) hin Iq) ⟨ke rfl,ke rfl,⟨_,rfl,BW UD (fun g=>UC)⟩,trivial⟩) ?_
 refine ac ?_
 refine Tr.ret (Fin.EJ rfl (Bq.D3 _ _) rfl ?_ rfl ?_)
 · rw [hR];exact Lr
 · rw [hR];exact Lr
theorem NJ {l:List AO} {AE:Int} {f:AO} (e7:f.fits):Be prog 20 [BC l,int AE,agg (BA f)] (FZ [ints (DY l AE f).1,int (DY l AE f).2]):=by
 refine fo func20 rfl ⟨rfl,rfl⟩ fun M0 w0=> ?_
 refine a2 ?_
 refine co rfl (F3 (E9) rfl rfl rfl) ?_
 refine ac ?_
 refine an ?_ ?_<;>intro h1 q1
 have OP:¬(Bg l AE).2=0:=q1
 have hR:DY l AE f=([],(Bg l AE).2):=if_neg OP
 refine ac ?_
 refine F8 6 7 rfl (Tr.ret (Fin.AJ (Fin.EJ rfl (Bq.D3 _ _) rfl ?_ rfl ?_)))
 · rw [hR];exact AX 1
 · rw [hR];exact Lr
 have OP:(Bg l AE).2=0:=q1
 have hin:=Jz l AE
 have Iq:=G1 l AE
 refine a2 ?_
 refine co rfl (Eh (Fq) rfl rfl) ?_
 refine ac ?_
 refine FB 0 5 8 10 rfl ?_
 refine an ?_ ?_<;>intro h2 q2
 have hc:=I2 q2
 have hR:DY l AE f=([],24):=by unfold DY;rw [if_pos OP,if_neg (by rw [hc];decide)]
 refine ac ?_
 refine Tr.ret (Fin.AJ (Fin.EJ rfl (Bq.D3 _ _) rfl ?_ rfl ?_))
 · rw [hR];exact AX 1
 · rw [hR];refine int_eq ?_;rw [hc];rfl
 have hc:=HT q2
 have hR:DY l AE f=(CT l (Bg l AE).1 (Bz f),0):=by unfold DY;rw [if_pos OP,if_pos hc]
 refine a3 ?_
 refine Tr.block (Tr.BV [(0,_),(5,_),(8,_)] (RI rfl) (fun i:Nat=>[(12,int ((i:Nat):Int)),(11,ints (CT l ((Bg l AE).1.take i) (Bz f)))]) (fun i:Nat=>i≤((Bg l AE).1).length) (fun i:Nat=>((Bg l AE).1).length-i) 0 (Nat.zero_le _) ⟨ke rfl,⟨_,rfl,AX 1⟩,trivial⟩ ?_)
 rintro i Ts
 refine an ?_ ?_<;>intro h3 q3
 have IJ:i<((Bg l AE).1).length:=Af h3
 obtain ⟨x,Ek⟩:=at_ IJ
 have WU:=Q6 (p:=Bz f) (l:=l) (MJ l AE) Ek
 have UG:=hin x (List.mem_of_getElem? Ek)
 have dA:=LI (l:=l) (E:=(Bg l AE).1.take i) (p:=Bz f)
 rw [List.length_take] at dA
 have ia:=Q7 l AE x (List.mem_of_getElem? Ek)
 refine a2 ?_
 refine Tr.block (Tr.BV [(0,_),(5,_),(8,_),(12,_)] (Sd rfl) (fun k:Nat=>[(13,int ((k:Nat):Int)),(11,ints (CT l ((Bg l AE).1.take i) (Bz f)++E_ l (Bz f) x k))]) (fun k:Nat=>k≤(x.BC).length) (fun k:Nat=>(x.BC).length-k) 0 (Nat.zero_le _) ⟨ke rfl,⟨_,rfl,Pr.le_of_eq (by rw [show E_ l (Bz f) x 0=[] from rfl,List.append_nil])⟩,trivial⟩ ?_)
 rintro k CN
 refine ac ?_
 refine co rfl (AB rfl underlying35 EO (vl rfl) (vl rfl) (by omega) (AZ Ek)) ?_
 refine ac ?_
 refine JJ 0 5 8 11 12 13 42 rfl ?_
 refine Tr.cn rfl ?_ ?_<;>intro h4 q4
 have Au:k<(x.BC).length:=Af h4
 obtain ⟨v,Ae⟩:=at_ Au
 obtain ⟨g,hg⟩:=at_ (l:=l) (k:=v.toNat) (by have:=UG v (List.mem_of_getElem? Ae);omega)
 have SY:=UG v (List.mem_of_getElem? Ae)
 have Yp:=OO (l:=l) (p:=Bz f) (x:=x) (k:=k)
 have XQ:=Pt (p:=Bz f) hg
 refine ac ?_
 refine ao ?_
 refine tp rfl (AB rfl underlying35 EO (vl rfl) (vl rfl) (by omega) (AZ Ek)) ?_
 refine ao ?_
 refine tp rfl (AB rfl underlying22 B7 (vl rfl) (vl rfl) (by omega) (AZ Ae)) (tp rfl (U9 rfl Cr rfl) (tp rfl (AB rfl underlying31 AY (vl rfl) (vl rfl) (by omega) (CC hg)) (tp rfl (Ap rfl BI AY (vl rfl) rfl rfl) ?_)))
 refine Tl rfl rfl rfl rfl Di Hq (fun b1=> ?_)
 refine sf 0 14 ⟨rfl,rfl,rfl⟩ rfl rfl rfl rfl ?_
 refine ao ?_
 refine JJ 0 5 8 11 12 13 14 rfl ?_
 refine ag ?_ ?_<;>intro h5 q5
 have Ry:Bz f g=true:=by simp_all
 refine ac ?_
 refine JJ 0 5 8 11 12 13 72 rfl ?_
 refine ac ?_
 refine co rfl (AB rfl underlying35 EO (vl rfl) (vl rfl) (by omega) (AZ Ek)) ?_
 refine ac ?_
 refine co rfl (F3 (Ey (l:=CT l ((Bg l AE).1.take i) (Bz f)++E_ l (Bz f) x k) (x:=x.num) (by rw [List.length_append];omega)) rfl rfl rfl) ?_
 refine ac ?_
 refine FK 0 5 8 11 12 13 rfl ?_
 refine ac ?_
 exact Fin.AF (k+1) ⟨Au,by omega⟩ ⟨⟨_,rfl,AM k⟩,⟨_,rfl,(by refine Pr.le_of_eq ?_;rw [LH WU Ae (XQ.trans Ry)])⟩,ke rfl,ke rfl,ke rfl,ke rfl,trivial⟩
 refine ag ?_ ?_<;>intro h6 q6
 refine ac ?_
 refine JJ 0 5 8 11 12 13 72 rfl ?_
 refine Tr.cn rfl ?_ ?_<;>intro h7 q7
 have Ry:Bz f g=true:=by simp_all
 refine ac ?_
 refine co rfl (AB rfl underlying35 EO (vl rfl) (vl rfl) (by omega) (AZ Ek)) ?_
 refine ac ?_
 refine co rfl (F3 (Ey (l:=CT l ((Bg l AE).1.take i) (Bz f)++E_ l (Bz f) x k) (x:=x.num) (by rw [List.length_append];omega)) rfl rfl rfl) ?_
 refine ac ?_
 refine FK 0 5 8 11 12 13 rfl ?_
 refine ac ?_
 exact Fin.AF (k+1) ⟨Au,by omega⟩ ⟨⟨_,rfl,AM k⟩,⟨_,rfl,(by refine Pr.le_of_eq ?_;rw [LH WU Ae (XQ.trans Ry)])⟩,ke rfl,ke rfl,ke rfl,ke rfl,trivial⟩
 have Ry:Bz f g=false:=by simp_all
 refine a2 ?_
 exact Fin.AF (k+1) ⟨Au,by omega⟩ ⟨⟨_,rfl,AM k⟩,⟨_,rfl,(by refine Pr.le_of_eq ?_;rw [J0 Ae (XQ.trans Ry)])⟩,ke rfl,ke rfl,ke rfl,ke rfl,trivial⟩
 have Ry:Bz f g=false:=by simp_all
 refine ac ?_
 refine JJ 0 5 8 11 12 13 72 rfl ?_
 refine a2 ?_
 exact Fin.AF (k+1) ⟨Au,by omega⟩ ⟨⟨_,rfl,AM k⟩,⟨_,rfl,(by refine Pr.le_of_eq ?_;rw [J0 Ae (XQ.trans Ry)])⟩,ke rfl,ke rfl,ke rfl,ke rfl,trivial⟩
 have Bn:k=(x.BC).length:=by have:=Ag h4;omega
 subst Bn
 rw [show CT l ((Bg l AE).1.take i) (Bz f)++E_ l (Bz f) x x.BC.length=CT l ((Bg l AE).1.take (i+1)) (Bz f) by rw [G0 Ek];unfold E_;rw [List.take_length]]
 refine a2 ?_
 exact Fin.AF (i+1) ⟨IJ,by omega⟩ ⟨⟨_,rfl,AM i⟩,ke rfl,ke rfl,ke rfl,ke rfl,trivial⟩
 have Pm:i=((Bg l AE).1).length:=by have:=Ag h3;omega
 subst Pm
 refine a2 ?_
 refine Tr.ret (Fin.EJ rfl (Bq.D3 _ _) rfl ?_ rfl ?_)
 · rw [hR];exact Pr.le_of_eq (by rw [List.take_length])
 · rw [hR];exact Lr
theorem Px {l:List AO} {AE day:Int} {host:List UInt8}  :Be prog 18 [BC l,int AE,str host,int day] (FZ [ints (GY l AE host day).1,int (GY l AE host day).2]):=by
 refine fo func18 rfl ⟨rfl,rfl⟩ fun M0 w0=> ?_
 refine a2 ?_
 refine co rfl (F3 (E9) rfl rfl rfl) ?_
 refine ac ?_
 refine an ?_ ?_<;>intro h1 q1
 have OP:¬(Bg l AE).2=0:=q1
 have hR:GY l AE host day=([],(Bg l AE).2):=if_neg OP
 refine ac ?_
 refine F8 8 9 rfl (Tr.ret (Fin.AJ (Fin.EJ rfl (Bq.D3 _ _) rfl ?_ rfl ?_)))
 · rw [hR];exact AX 1
 · rw [hR];exact Lr
 have OP:(Bg l AE).2=0:=q1
 have hin:=Jz l AE
 have Iq:=G1 l AE
 have hR:GY l AE host day=(CT l (Bg l AE).1 (Cw host day),0):=if_pos OP
 refine a3 ?_
 refine FK 0 2 3 10 12 13 rfl (Tr.block (Tr.BV [(0,_),(2,_),(3,_),(10,_)] (Sd rfl) (fun i:Nat=>[(13,int ((i:Nat):Int)),(12,ints (CT l ((Bg l AE).1.take i) (Cw host day)))]) (fun i:Nat=>i≤((Bg l AE).1).length) (fun i:Nat=>((Bg l AE).1).length-i) 0 (Nat.zero_le _) ⟨ke rfl,⟨_,rfl,AX 1⟩,trivial⟩ ?_))
 rintro i Ts
 refine an ?_ ?_<;>intro h2 q2
 have IJ:i<((Bg l AE).1).length:=Af h2
 obtain ⟨x,Ek⟩:=at_ IJ
 have WU:=Q6 (p:=Cw host day) (l:=l) (MJ l AE) Ek
 have UG:=hin x (List.mem_of_getElem? Ek)
 have dA:=LI (l:=l) (E:=(Bg l AE).1.take i) (p:=Cw host day)
 rw [List.length_take] at dA
 have ia:=Q7 l AE x (List.mem_of_getElem? Ek)
 refine a2 ?_
 refine Tr.block (Tr.BV [(0,_),(2,_),(3,_),(10,_),(13,_)] (SE rfl) (fun k:Nat=>[(14,int ((k:Nat):Int)),(12,ints (CT l ((Bg l AE).1.take i) (Cw host day)++E_ l (Cw host day) x k))]) (fun k:Nat=>k≤(x.BC).length) (fun k:Nat=>(x.BC).length-k) 0 (Nat.zero_le _) ⟨ke rfl,⟨_,rfl,Pr.le_of_eq (by rw [show E_ l (Cw host day) x 0=[] from rfl,List.append_nil])⟩,trivial⟩ ?_)
 rintro k CN
 refine ac ?_
 refine co rfl (AB rfl underlying35 EO (vl rfl) (vl rfl) (by omega) (AZ Ek)) ?_
 refine ac ?_
 refine LZ 0 2 3 10 12 13 14 38 rfl ?_
 refine Tr.cn rfl ?_ ?_<;>intro h3 q3
 have Au:k<(x.BC).length:=Af h3
 obtain ⟨v,Ae⟩:=at_ Au
 obtain ⟨g,hg⟩:=at_ (l:=l) (k:=v.toNat) (by have:=UG v (List.mem_of_getElem? Ae);omega)
 have SY:=UG v (List.mem_of_getElem? Ae)
 have Yp:=OO (l:=l) (p:=Cw host day) (x:=x) (k:=k)
 have XQ:=Pt (p:=Cw host day) hg
 refine ac ?_
 refine ao ?_
 refine tp rfl (AB rfl underlying35 EO (vl rfl) (vl rfl) (by omega) (AZ Ek)) ?_
 refine ao ?_
 refine tp rfl (AB rfl underlying22 B7 (vl rfl) (vl rfl) (by omega) (AZ Ae)) (tp rfl (U9 rfl Cr rfl) (tp rfl (AB rfl underlying31 AY (vl rfl) (vl rfl) (by omega) (CC hg)) (tp rfl (Ap rfl BI AY (vl rfl) rfl rfl) ?_)))
 refine Tl rfl rfl rfl rfl Di Hq (fun b1=> ?_)
 refine sf 0 15 ⟨rfl,rfl,rfl⟩ rfl rfl rfl rfl ?_
 refine ao ?_
 refine LZ 0 2 3 10 12 13 14 15 rfl ?_
 refine ag ?_ ?_<;>intro h4 q4
 refine ac ?_
 refine LZ 0 2 3 10 12 13 14 61 rfl ?_
 refine Tr.cn rfl ?_ ?_<;>intro h5 q5
 have Ry:Cw host day g=true:=by simp_all
 refine ac ?_
 refine co rfl (AB rfl underlying35 EO (vl rfl) (vl rfl) (by omega) (AZ Ek)) ?_
 refine ac ?_
 refine co rfl (F3 (Ey (l:=CT l ((Bg l AE).1.take i) (Cw host day)++E_ l (Cw host day) x k) (x:=x.num) (by rw [List.length_append];omega)) rfl rfl rfl) ?_
 refine ac ?_
 refine JJ 0 2 3 10 12 13 14 rfl ?_
 refine ac ?_
 exact Fin.AF (k+1) ⟨Au,by omega⟩ ⟨⟨_,rfl,AM k⟩,⟨_,rfl,(by refine Pr.le_of_eq ?_;rw [LH WU Ae (XQ.trans Ry)])⟩,ke rfl,ke rfl,ke rfl,ke rfl,ke rfl,trivial⟩
 have Ry:Cw host day g=false:=by simp_all
 refine a2 ?_
 exact Fin.AF (k+1) ⟨Au,by omega⟩ ⟨⟨_,rfl,AM k⟩,⟨_,rfl,(by refine Pr.le_of_eq ?_;rw [J0 Ae (XQ.trans Ry)])⟩,ke rfl,ke rfl,ke rfl,ke rfl,ke rfl,trivial⟩
 have Ry:Cw host day g=false:=by simp_all
 refine ac ?_
 refine LZ 0 2 3 10 12 13 14 61 rfl ?_
 refine a2 ?_
 exact Fin.AF (k+1) ⟨Au,by omega⟩ ⟨⟨_,rfl,AM k⟩,⟨_,rfl,(by refine Pr.le_of_eq ?_;rw [J0 Ae (XQ.trans Ry)])⟩,ke rfl,ke rfl,ke rfl,ke rfl,ke rfl,trivial⟩
 have Bn:k=(x.BC).length:=by have:=Ag h3;omega
 subst Bn
 rw [show CT l ((Bg l AE).1.take i) (Cw host day)++E_ l (Cw host day) x x.BC.length=CT l ((Bg l AE).1.take (i+1)) (Cw host day) by rw [G0 Ek];unfold E_;rw [List.take_length]]
 refine a2 ?_
 exact Fin.AF (i+1) ⟨IJ,by omega⟩ ⟨⟨_,rfl,AM i⟩,ke rfl,ke rfl,ke rfl,ke rfl,ke rfl,trivial⟩
 have Pm:i=((Bg l AE).1).length:=by have:=Ag h2;omega
 subst Pm
 refine a2 ?_
 refine Tr.ret (Fin.EJ rfl (Bq.D3 _ _) rfl ?_ rfl ?_)
 · rw [hR];exact Pr.le_of_eq (by rw [List.take_length])
 · rw [hR];exact Lr
structure Az where
 Bv:Int
 day:Int
 A7:List (List UInt8)
deriving DecidableEq
abbrev AG (x:Az):List Pr:=[int x.Bv,int x.day,strs x.A7]
abbrev UH (l:List Az):Pr:=slice 3 (l.map AG)
def B3 (a b:Az):Int:=FY [An a.Bv b.Bv,An a.day b.day]
theorem Ct:Jd B3:=by
 have:=(Cs.on Az.Bv).cons ((Cs.on Az.day).cons (Jd.nil (α:=Az)))
 exact this
theorem IL (a b:Az):B3 a b=if An a.Bv b.Bv=0 then (if An a.day b.day=0 then 0 else An a.day b.day) else An a.Bv b.Bv:=rfl
theorem EZ {a b:Az}:B3 a b=0↔a.Bv=b.Bv∧a.day=b.day:=by
 rw [IL];unfold An
 (repeat' split)<;>omega
theorem IM {a b:Az}:B3 a b<0↔a.Bv<b.Bv∨a.Bv=b.Bv∧a.day<b.day:=by
 rw [IL];unfold An
 (repeat' split)<;>omega
def Ea (f:AO) (x:Az):Bool:=decide (x.Bv=f.machine∧x.day=f.day)
abbrev LJ (x:Az) (f:AO):Az:=⟨x.Bv,x.day,Ej x.A7 f.host⟩
def FA (f:AO) (x:Az):Az:=if Ea f x then LJ x f else x
def GD (f:AO) (l:List Az):Bool:=l.any (Ea f)
abbrev Dl (f:AO):Az:=⟨f.machine,f.day,[]⟩
def Eb (l:List Az) (f:AO):List Az:=if GD f l then l else Cn B3 l (Dl f)
def HX (l:List Az) (f:AO):List Az:=if GD f l then l else l++[Dl f]
def B4 (l:List Az) (f:AO):List Az:=if f.machine=0 then l else (Eb l f).map (FA f)
def FW (l:List Az) (f:AO):List Az:=if f.machine=0 then l else (HX l f).map (FA f)
abbrev DG (x:Az):Bool:=decide (1<x.A7.length)
def UI (l:List AO):List Az:=(l.foldl B4 []).filter DG
theorem OQ (f:AO) (x:Az):(FA f x).Bv=x.Bv∧(FA f x).day=x.day:=by unfold FA;split<;>exact ⟨rfl,rfl⟩
theorem UJ (f:AO) (x y:Az):B3 (FA f x) (FA f y)=B3 x y:=by
 obtain ⟨h1,h2⟩:=OQ f x
 obtain ⟨h3,h4⟩:=OQ f y
 rw [IL,IL,h1,h2,h3,h4]
theorem J1 {f:AO} {l:List Az} (h:GD f l=false):∀y∈l,¬B3 y (Dl f)=0:=by
 intro y hy h0
 unfold GD at h
 rw [List.any_eq_false] at h
 exact h y hy (by unfold Ea;rw [decide_eq_true_eq];exact EZ.1 h0)
theorem Ec {x:Az}:∀{l:List Az},(∀y∈l,¬B3 y x=0)→(Cn B3 l x).Perm (l++[x])
 |[],_=>List.Perm.refl _
 |y::r,hn=>by
  unfold Cn
  have hy:=hn y (List.mem_cons_self ..)
  by_cases hlt:B3 y x<0
  · rw [if_pos hlt];exact List.Perm.cons y (Ec fun z hz=>hn z (List.mem_cons_of_mem _ hz))
  ·
   rw [if_neg hlt,if_neg hy]
   exact List.perm_append_comm (l₁:=[x]) (l₂:=y::r)
abbrev Cu (l:List Az):Prop:=l.Pairwise fun a b=>B3 a b<0
theorem IP {x:Az}:∀{l:List Az},Cu l→(∀y∈l,¬B3 y x=0)→Cu (Cn B3 l x)
 |[],_,_=>by unfold Cn;exact List.pairwise_singleton _ _
 |y::r,h,hn=>by
  unfold Cn
  obtain ⟨h1,h2⟩:=List.pairwise_cons.1 h
  have hy:=hn y (List.mem_cons_self ..)
  have hr:∀z∈r,¬B3 z x=0:=fun z hz=>hn z (List.mem_cons_of_mem _ hz)
  by_cases hlt:B3 y x<0
  ·
   rw [if_pos hlt]
   refine List.pairwise_cons.2 ⟨fun z hz=> ?_,IP h2 hr⟩
   have hz:=(Ec hr).mem_iff.1 hz
   rw [List.mem_append,List.mem_singleton] at hz
   rcases hz with hz|rfl
   · exact h1 z hz
   · exact hlt
  ·
   rw [if_neg hlt,if_neg hy]
   have hxy:B3 x y<0:=by have:=Ct.swap y x;omega
   refine List.pairwise_cons.2 ⟨fun z hz=> ?_,h⟩
   rcases List.mem_cons.1 hz with rfl|hz
   · exact hxy
   · exact Ct.tr _ _ _ hxy (h1 z hz)
theorem JT {l:List Az} {f:AO} (h:Cu l):Cu (Eb l f):=by
 unfold Eb
 cases hk:GD f l with
 |true=>exact h
 |false=>exact IP h (J1 hk)
theorem OR {l:List Az} {f:AO} (h:Cu l):Cu (l.map (FA f)):=List.pairwise_map.2 (h.imp fun {a b} hab=>by rw [UJ];exact hab)
theorem OS {l:List Az} {f:AO} (h:Cu l):Cu (B4 l f):=by
 unfold B4;split
 · exact h
 · exact OR (JT h)
theorem EC:∀(l:List AO) (acc:List Az),Cu acc→Cu (l.foldl B4 acc)
 |[],_,h=>h
 |f::l,acc,h=>EC l _ (OS h)
theorem UK {l m:List Az} {f:AO} (h:l.Perm m):(HX l f).Perm (Eb m f):=by
 have e:GD f l=GD f m:=h.any_eq
 unfold HX Eb
 rw [e]
 cases hk:GD f m with
 |true=>exact h
 |false=>exact (h.append_right _).trans (Ec (J1 hk)).symm
theorem UL {l m:List Az} {f:AO} (h:l.Perm m):(FW l f).Perm (B4 m f):=by
 unfold FW B4;split
 · exact h
 · exact (UK h).map _
theorem I7:∀(l:List AO) (a b:List Az),a.Perm b→(l.foldl FW a).Perm (l.foldl B4 b)
 |[],_,_,h=>h
 |_::l,_,_,h=>I7 l _ _ (UL h)
theorem Py {l:List Az} (h:Cu l) {x y:Az} (hx:x∈l) (hy:y∈l) (h0:B3 x y=0):x=y:=by
 obtain ⟨i,hi,rfl⟩:=List.mem_iff_getElem.1 hx
 obtain ⟨j,hj,rfl⟩:=List.mem_iff_getElem.1 hy
 have hp:=List.pairwise_iff_getElem.1 h
 rcases Nat.lt_trichotomy i j with hij|hij|hij
 · have:=hp i j hi hj hij;omega
 · subst hij;rfl
 ·
  have:=hp j i hj hi hij
  have h3:=Ct.swap l[i] l[j]
  omega
theorem Pz {l:List AO} {st:List Az} (hp:st.Perm ((l.foldl FW []).filter DG)) (hs:ID B3 st):st=UI l:=by
 have hS:=(EC l [] .nil).filter DG
 have Nk:st.Perm (UI l):=hp.trans ((I7 l [] [] (List.Perm.refl _)).filter _)
 exact N8 Ct Nk hs (hS.imp fun h=>Int.le_of_lt h) fun x y hx hy e=>Py hS (Nk.mem_iff.1 hx) (Nk.mem_iff.1 hy) e
abbrev WV (l:List Az):Prop:=l.Pairwise fun a b=>¬B3 a b=0
theorem Rz (l:List AO):WV (l.foldl FW []):=by
 have h:=I7 l [] [] (List.Perm.refl _)
 refine (h.pairwise_iff (fun {a b} hab h0=>hab (by have:=Ct.swap a b;omega))).2 ?_
 exact (EC l [] .nil).imp fun h0=>by omega
theorem Dm {α β:Type} (g:β→α→β) (a:β) {l:List α} {k:Nat} {x:α} (h:l[k]? =some x):(l.take (k+1)).foldl g a=g ((l.take k).foldl g a) x:=by
 rw [List.take_add_one,h,List.foldl_append];rfl
theorem UM (l:List Az) (f:AO):(FW l f).length≤l.length+1:=by
 unfold FW;split
 · omega
 · rw [List.length_map];unfold HX;split<;>simp
theorem UN (l:List Az) (f:AO):(B4 l f).length≤l.length+1:=by
 unfold B4;split
 · omega
 ·
  rw [List.length_map];unfold Eb;split
  · omega
  · exact GU _ _ _
theorem ML:∀(l:List AO) (a:List Az),(l.foldl FW a).length≤a.length+l.length
 |[],_=>by simp
 |f::l,a=>by
  have h1:=ML l (FW a f)
  have h2:=UM a f
  rw [List.foldl_cons,List.length_cons];omega
theorem I8:∀(l:List AO) (a:List Az),(l.foldl B4 a).length≤a.length+l.length
 |[],_=>by simp
 |f::l,a=>by
  have h1:=I8 l (B4 a f)
  have h2:=UN a f
  rw [List.foldl_cons,List.length_cons];omega
def ED (n:Nat) (l:List Az):Prop:=∀x∈l,x.A7.length≤n
theorem UO {l:List Az} {f:AO} {n:Nat} (h:ED n l):ED (n+1) (l.map (FA f)):=by
 intro x hx
 rw [List.mem_map] at hx
 obtain ⟨y,hy,rfl⟩:=hx
 have:=h y hy
 unfold FA;split
 ·
  have:=GU Lib.compareBytes f.host y.A7
  show (Cn _ _ _).length≤_
  omega
 · omega
theorem WW {l:List Az} {f:AO} {n:Nat} (h:ED n l):ED (n+1) (FW l f):=by
 unfold FW;split
 · exact fun x hx=>Nat.le_succ_of_le (h x hx)
 ·
  refine UO fun x hx=> ?_
  unfold HX at hx;split at hx
  · exact h x hx
  ·
   rcases List.mem_append.1 hx with hx|hx
   · exact h x hx
   · rw [List.mem_singleton] at hx;subst hx;exact Nat.zero_le _
theorem WX {l:List Az} {f:AO} {n:Nat} (h:ED n l):ED (n+1) (B4 l f):=by
 unfold B4;split
 · exact fun x hx=>Nat.le_succ_of_le (h x hx)
 ·
  refine UO fun x hx=> ?_
  unfold Eb at hx
  cases hk:GD f l with
  |true=>rw [hk,if_pos rfl] at hx;exact h x hx
  |false=>
   rw [hk,if_neg (by decide)] at hx
   have hx:=(Ec (J1 hk)).mem_iff.1 hx
   rcases List.mem_append.1 hx with hx|hx
   · exact h x hx
   · rw [List.mem_singleton] at hx;subst hx;exact Nat.zero_le _
theorem GZ {l:List AO}:∀k,ED k ((l.take k).foldl FW [])∧ED k ((l.take k).foldl B4 [])
 |0=>⟨fun x hx=>by simp at hx,fun x hx=>by simp at hx⟩
 |k+1=>by
  obtain ⟨h1,h2⟩:=GZ (l:=l) k
  cases hf:l[k]? with
  |none=>
   rw [List.take_add_one,hf,Option.toList_none,List.append_nil]
   exact ⟨fun x hx=>Nat.le_succ_of_le (h1 x hx),fun x hx=>Nat.le_succ_of_le (h2 x hx)⟩
  |some f=>
   rw [Dm FW [] hf,Dm B4 [] hf]
   exact ⟨WW h1,WX h2⟩
theorem WY {l:List Az} {f:AO} (h:∀x∈l,GC Lib.compareBytes x.A7):∀x∈l.map (FA f),GC Lib.compareBytes x.A7:=by
 intro x hx
 rw [List.mem_map] at hx
 obtain ⟨y,hy,rfl⟩:=hx
 unfold FA;split
 · exact Ew Dk (fun x y h=>(CK x y).1 h) (h y hy)
 · exact h y hy
theorem MM:∀(l:List AO) (a:List Az),(∀x∈a,GC Lib.compareBytes x.A7)→∀x∈l.foldl FW a,GC Lib.compareBytes x.A7
 |[],_,h=>h
 |f::l,a,h=>MM l _ (by
  unfold FW;split
  · exact h
  ·
   refine WY fun x hx=> ?_
   unfold HX at hx;split at hx
   · exact h x hx
   ·
    rcases List.mem_append.1 hx with hx|hx
    · exact h x hx
    · rw [List.mem_singleton] at hx;subst hx;exact List.Pairwise.nil)
open Classical in
noncomputable def OU (l:List AO):List Az×Int:=if B_ l then (UI l,0) else ([],24)
theorem J2 {l:List AO} (h:B_ l):OU l=(UI l,0):=by unfold OU;rw [if_pos h]
theorem IQ {l:List AO} (h:¬B_ l):OU l=([],24):=by unfold OU;rw [if_neg h]
instance:Inhabited Az:=⟨⟨0,0,[]⟩⟩
theorem WZ {l:List Az} {c:Az×Az→Int} {b0 cap len:Nat} {sp:List Value} {a b:Int} (Iq:l.length=len) (Jx:len≤1000000) (hw:Go.Sort.SWO (Bs c)) (h0:0≤a) (hab:a≤b) (hb:b≤len):A5 prog 150 [is (.slice (some ⟨b0,0,none⟩) len cap),int a,int b,GF prog (fun x:Az×Az=>[agg (AG x.1),agg (AG x.2)]) (fun x=>int (c x))] (Dd) (AA true b0 57 ((l.map AG).flatten++sp.map is)) (fun _=>CU b0 57 AG (De c a b l) (sp.map is)):=by
 refine A5.of func150 rfl rfl (by exact Nb rfl) fun M0 w0 S rs M1 w1=> ?_
 refine ac ?_
 refine Tr.block (Tr.Ca [(0,_),(1,_),(2,_),(3,_)] ⟨ke rfl,ke rfl,ke rfl,ke rfl,trivial⟩ (fun (i:Int) (st:List Az)=>[(8,int i)]) (fun (i:Int) (st:List Az)=>Hp M0 w0 S (AA true b0 57 ((st.map AG).flatten++sp.map is)::Ak M1 w1::rs)) (fun (i:Int) (st:List Az)=>a<i∧st.length=len∧Go.Sort.insOuter (Bs c) a.toNat b.toNat i.toNat st.toArray=Go.Sort.insertionSort (Bs c) l.toArray a.toNat b.toNat) (fun (i:Int) (st:List Az)=>(b-i).toNat) (a+1) (l)  (⟨by omega,by omega,PD h0⟩) ⟨ke rfl,trivial⟩ (fun _ _ h=>h) ?_)
 rintro i st  ⟨hi1,Of,Gl⟩
 refine an ?_ ?_<;>intro h1 q1
 have hib:i<b:=of_decide_eq_true h1
 refine a2 ?_
 refine Tr.block (Tr.Ca [(0,_),(1,_),(2,_),(3,_),(8,_)] ⟨ke rfl,ke rfl,ke rfl,ke rfl,ke rfl,trivial⟩ (fun (j:Int) (IX:List Az)=>[(9,int j)]) (fun (j:Int) (IX:List Az)=>Hp M0 w0 S (AA true b0 57 ((IX.map AG).flatten++sp.map is)::Ak M1 w1::rs)) (fun (j:Int) (IX:List Az)=>(a≤j∧j≤i)∧IX.length=len∧Go.Sort.insInner (Bs c) a.toNat j.toNat IX.toArray=Go.Sort.insInner (Bs c) a.toNat i.toNat st.toArray) (fun (j:Int) (IX:List Az)=>(j-a).toNat) (i) (st)  (⟨⟨by omega,by omega⟩,Of,rfl⟩) ⟨ke rfl,trivial⟩ (fun _ _ h=>h) ?_)
 rintro j IX  ⟨⟨YG,hj2⟩,UP,P3⟩
 refine ag ?_ ?_<;>intro h2 q2
 refine ac ?_
 refine cy h2 rfl (AD rfl underlying39 AQ (vl rfl) (vl rfl) (by omega) (by omega)) (cy h2 rfl (Ay 0 rfl (AW rfl BG AQ (vl rfl) (AU (f:=AG) (fun _=>rfl) (by omega)) rfl)) ?_)
 refine ac ?_
 refine cy h2 rfl (AD rfl underlying39 AQ (vl rfl) (vl rfl) (by omega) (by omega)) (cy h2 rfl (Ay 0 rfl (AW rfl BG AQ (vl rfl) (AU (f:=AG) (fun _=>rfl) (by omega)) rfl)) (cy h2 rfl (A6 (_,_) rfl (vl rfl) ⟨ke rfl,ke rfl,trivial⟩) ?_))
 refine ac ?_
 refine JJ 0 1 2 3 8 9 34 rfl ?_
 refine Tr.cn rfl ?_ ?_<;>intro h3 q3
 have:=h3
 refine ac ?_
 refine Tr.seq (Tr.block (Tr.rx ?_))
 refine ay ?_
 refine xo rfl (fun _=>AD rfl underlying39 AQ (vl rfl) (vl rfl) (by omega) (by omega)) (DI 0 rfl rfl (AW rfl BG AQ (vl rfl) (AU (f:=AG) (fun _=>rfl) (by omega)) rfl) ?_)
 refine ay ?_
 refine xo rfl (fun _=>AD rfl underlying39 AQ (vl rfl) (vl rfl) (by omega) (by omega)) (DI 0 rfl rfl (AW rfl BG AQ (vl rfl) (AU (f:=AG) (fun _=>rfl) (by omega)) rfl) (xo rfl (fun _=>AD rfl underlying39 AQ (vl rfl) (vl rfl) (by omega) (by omega)) ?_))
 refine Cx.DP 0 rfl rfl (Ar rfl rfl (vl rfl) (Va rfl) AQ rfl (by rw [A4 (sz:=3) (fun _=>rfl)];omega) (Aw (f:=AG) (fun _=>rfl) (by omega))) ?_
 refine xo rfl (fun _=>AD rfl underlying39 AQ (vl rfl) (vl rfl) (by omega) (by omega)) ?_
 refine Cx.DP 0 rfl rfl (Ar rfl rfl (vl rfl) (Va rfl) AQ rfl (by rw [A4 (sz:=3) (fun _=>rfl)];simp only [List.length_set];omega) (Aw (f:=AG) (fun _=>rfl) (by simp only [List.length_set];omega))) ?_
 refine Cx.nil ⟨by kernel_rfl,?_⟩
 refine BJ.done Oe ?_
 refine ac ?_
 refine FK 0 1 2 3 8 9 rfl ?_
 refine ac ?_
 exact Fin.Bw (j-1) (_)  (⟨⟨⟨by omega,by omega⟩,by simp only [List.length_set];exact UP,by rw [YI h0 (by omega) rfl (by omega) (by omega) (by assumption)];exact P3⟩,by omega⟩) ⟨ke rfl,ke rfl,ke rfl,ke rfl,ke rfl,ke rfl,trivial⟩ (fun _ _ h=>h)
 have:=h3
 refine a2 ?_
 have Y5:IX.toArray=Go.Sort.insInner (Bs c) a.toNat j.toNat IX.toArray:=by exact RS h0 (by omega) rfl (by omega) (by omega) (Int.not_lt.2 (by assumption))
 exact Fin.Bw (i+1) (IX)  (⟨⟨by omega,UP,by rw [←Gl,←Qe (by omega) hib,←P3];exact congrArg _ Y5⟩,by omega⟩) ⟨ke rfl,ke rfl,ke rfl,ke rfl,ke rfl,trivial⟩ (fun _ _ h=>h)
 refine ac ?_
 refine JJ 0 1 2 3 8 9 34 rfl ?_
 refine a2 ?_
 have Y5:IX.toArray=Go.Sort.insInner (Bs c) a.toNat j.toNat IX.toArray:=by exact RQ h0 (by omega)
 exact Fin.Bw (i+1) (IX)  (⟨⟨by omega,UP,by rw [←Gl,←Qe (by omega) hib,←P3];exact congrArg _ Y5⟩,by omega⟩) ⟨ke rfl,ke rfl,ke rfl,ke rfl,ke rfl,trivial⟩ (fun _ _ h=>h)
 have hib:¬i<b:=of_decide_eq_false h1
 rw [RT (by omega) hib] at Gl
 refine Tr.exit (Fin.AK (Fin.AK (Fin.Aa ?_)))
 refine Fin.CL (De c a b l) 0 rfl (by unfold De;rw [Gl];exact Go.Sort.insertionSort_holds hw l.toArray a.toNat b.toNat (by omega) (by simp only [List.size_toArray];omega)) ?_
 exact Fin.JK rfl
theorem OV {l:List Az} {c:Az×Az→Int} {b0 cap len:Nat} {sp:List Value} {lo hi first:Int} (Iq:l.length=len) (Jx:len≤1000000) (h0:0≤lo) (hlo:lo≤len) (hf:0≤first) (hb:first+hi≤len):A5 prog 186 [is (.slice (some ⟨b0,0,none⟩) len cap),int lo,int hi,int first,GF prog (fun x:Az×Az=>[agg (AG x.1),agg (AG x.2)]) (fun x=>int (c x))] (Dd) (AA true b0 57 ((l.map AG).flatten++sp.map is)) (fun _=>CU b0 57 AG (Kn c hi first lo l) (sp.map is)):=by
 refine A5.of func186 rfl rfl (by exact Nb rfl) fun M0 w0 S rs M1 w1=> ?_
 refine Tr.seq (Tr.A0 (cm rfl (cm rfl (Ch.nil (Fin.go (Tr.block (Tr.Ca [(0,_),(2,_),(3,_),(4,_)] ⟨ke rfl,ke rfl,ke rfl,ke rfl,trivial⟩ (fun (r:Int) (st:List Az)=>[(10,int r)]) (fun (r:Int) (st:List Az)=>Hp M0 w0 S (AA true b0 57 ((st.map AG).flatten++sp.map is)::Ak M1 w1::rs)) (fun (r:Int) (st:List Az)=>(0≤r∧r≤1000000)∧st.length=len∧Go.Sort.siftDown (Bs c) hi.toNat first.toNat r.toNat st.toArray=Go.Sort.siftDown (Bs c) hi.toNat first.toNat lo.toNat l.toArray) (fun (r:Int) (st:List Az)=>(hi-r).toNat) (lo) (l)  (⟨⟨by omega,by omega⟩,by omega,rfl⟩) ⟨ke rfl,trivial⟩ (fun _ _ h=>h) ?_)))))))
 rintro r st  ⟨⟨Zi,dg⟩,Of,Gl⟩
 refine Tr.block (Tr.seq (Tr.A0 (cm rfl ?_)))
 refine co rfl (Ib rfl (vl rfl) (vl rfl) ?hin) ?_;case hin=>unfold Em;omega
 refine SD rfl rfl rfl rfl (by omega) (cm rfl (Ch.nil (Fin.go (Tr.seq (Tr.seq (Tr.A0 (cm rfl (cm rfl (co rfl (ki rfl rfl rfl rfl) (Ch.nil (Fin.go ?_)))))))))))
 refine Tr.cn rfl ?_ ?_<;>intro h1 q1
 refine Tr.exit (Fin.AK (Fin.Hf rfl (Fin.AK (Fin.Aa ?_))))
 refine Fin.CL (Kn c hi first lo l) 0 rfl (⟨by omega,by rw [←Gl];exact Sy (by omega) (by omega)⟩) ?_
 exact Fin.JK rfl
 refine Tr.skip (Fin.go (Tr.seq (Tr.seq (Tr.J8 mixed (by kernel_rfl) (cm rfl (SD rfl rfl rfl rfl (by omega) (cm rfl (co rfl (ki rfl rfl rfl rfl) (cm rfl ?_)))))))))
 refine Ch.cs 23 rfl ?_ ?_<;>intro h2 q2
 iterate 4 refine Dh h2 rfl ?_
 refine cy h2 rfl (B9 rfl (vl rfl) (vl rfl) ?hin) ?_;case hin=>unfold Em;omega
 refine cy h2 rfl (AD rfl underlying39 AQ (vl rfl) (vl rfl) (by omega) (by omega)) (cy h2 rfl (Ay 0 rfl (AW rfl BG AQ (vl rfl) (AU (f:=AG) (fun _=>rfl) (by omega)) rfl)) (Dh h2 rfl (Dh h2 rfl (Dh h2 rfl ?_))))
 refine cy h2 rfl (B9 rfl (vl rfl) (vl rfl) ?hin) ?_;case hin=>unfold Em;omega
 refine cy h2 rfl (B9 rfl (vl rfl) (vl rfl) ?hin) ?_;case hin=>unfold Em;omega
 refine cy h2 rfl (AD rfl underlying39 AQ (vl rfl) (vl rfl) (by omega) (by omega)) (cy h2 rfl (Ay 0 rfl (AW rfl BG AQ (vl rfl) (AU (f:=AG) (fun _=>rfl) (by omega)) rfl)) (cy h2 rfl (A6 (_,_) rfl (vl rfl) ⟨ke rfl,ke rfl,trivial⟩) (cy h2 rfl (ki rfl rfl rfl rfl) (co rfl (NM rfl rfl h2 rfl) (Ch.nil (Fin.go (JJ 0 2 3 4 10 11 40 rfl ?_)))))))
 refine Tr.cn rfl ?_ ?_<;>intro h3 q3
 refine Tr.A0 (cm rfl (SD rfl rfl rfl rfl (by omega) (cm rfl (Ch.nil (Fin.go (Tr.seq (Tr.seq (Tr.J8 mixed (by kernel_rfl) ?_))))))))
 iterate 4 refine cm rfl ?_
 refine SD rfl rfl rfl rfl (by omega) (co rfl (AD rfl underlying39 AQ (vl rfl) (vl rfl) (by omega) (by omega)) (co rfl (Ay 0 rfl (AW rfl BG AQ (vl rfl) (AU (f:=AG) (fun _=>rfl) (by omega)) rfl)) (cm rfl (cm rfl (cm rfl (SD rfl rfl rfl rfl (by omega) (co rfl (AD rfl underlying39 AQ (vl rfl) (vl rfl) (by omega) (by omega)) (co rfl (Ay 0 rfl (AW rfl BG AQ (vl rfl) (AU (f:=AG) (fun _=>rfl) (by omega)) rfl)) (co rfl (A6 (_,_) rfl (vl rfl) ⟨ke rfl,ke rfl,trivial⟩) (co rfl (ki rfl rfl rfl rfl) (co rfl (E0 rfl (vl rfl)) (Ch.nil (Fin.go ?_)))))))))))))
 refine JJ 0 2 3 4 10 11 58 rfl ?_
 refine Tr.cn rfl ?_ ?_<;>intro h4 q4
 refine Tr.ret (Fin.AJ (Fin.Ad (Fin.AJ (Fin.Ad ?_))))
 refine Fin.CL (Kn c hi first lo l) 0 rfl (⟨by omega,by rw [←Gl];exact PF Zi hf (by omega) (u:=first+(2*r+1)) (v:=first+(2*r+1)+1) rfl rfl (by omega) (by omega) (by assumption) (x:=first+r) (y:=first+(2*r+1+1)) rfl rfl (by omega) (by omega) (Int.not_lt.2 (by assumption))⟩) ?_
 exact Fin.Ip rfl
 refine Tr.skip (Fin.go (Tr.seq (Tr.EL mixed [none,none,none,none,none,none,none,none,none,none,none,none,none,some (0,0,false,0),none,none,none,none,none,some (0,0,false,0),none,some (0,0,true,0),none,some (0,0,true,0)] (by kernel_rfl) (xm rfl (xm rfl (xm rfl ?_))))))
 refine xo rfl (fun _=>B9 rfl (vl rfl) (vl rfl) ?hin) ?_;case hin=>unfold Em;omega
 refine xm rfl (xm rfl (xm rfl ?_))
 refine xo rfl (fun _=>B9 rfl (vl rfl) (vl rfl) ?hin) ?_;case hin=>unfold Em;omega
 refine xm rfl (xm rfl (xm rfl ?_))
 refine xo rfl (fun _=>B9 rfl (vl rfl) (vl rfl) ?hin) ?_;case hin=>unfold Em;omega
 refine xo rfl (fun _=>AD rfl underlying39 AQ (vl rfl) (vl rfl) (by omega) (by omega)) (DI 0 rfl rfl (AW rfl BG AQ (vl rfl) (AU (f:=AG) (fun _=>rfl) (by omega)) rfl) (xm rfl (xm rfl (xm rfl ?_))))
 refine xo rfl (fun _=>B9 rfl (vl rfl) (vl rfl) ?hin) ?_;case hin=>unfold Em;omega
 refine xo rfl (fun _=>AD rfl underlying39 AQ (vl rfl) (vl rfl) (by omega) (by omega)) (DI 0 rfl rfl (AW rfl BG AQ (vl rfl) (AU (f:=AG) (fun _=>rfl) (by omega)) rfl) (xo rfl (fun _=>AD rfl underlying39 AQ (vl rfl) (vl rfl) (by omega) (by omega)) ?_))
 refine Cx.DP 0 rfl rfl (Ar rfl rfl (vl rfl) (Va rfl) AQ rfl (by rw [A4 (sz:=3) (fun _=>rfl)];omega) (Aw (f:=AG) (fun _=>rfl) (by omega))) ?_
 refine xo rfl (fun _=>AD rfl underlying39 AQ (vl rfl) (vl rfl) (by omega) (by omega)) ?_
 refine Cx.DP 0 rfl rfl (Ar rfl rfl (vl rfl) (Va rfl) AQ rfl (by rw [A4 (sz:=3) (fun _=>rfl)];simp only [List.length_set];omega) (Aw (f:=AG) (fun _=>rfl) (by simp only [List.length_set];omega))) ?_
 refine Cx.nil ⟨rfl,?_⟩
 refine BJ.done (BS.cons (BS.cons (BS.map _))) (Fin.go (HJ 0 2 3 4 11 rfl (Tr.A0 (cm rfl (cm rfl (Ch.nil (Fin.block ?_)))))))
 exact Fin.Bw (2*r+1+1) (_)  (⟨⟨⟨by omega,by omega⟩,by simp only [List.length_set];exact Of,by rw [←Gl];exact S0 Zi hf (by omega) (u:=first+(2*r+1)) (v:=first+(2*r+1)+1) rfl rfl (by omega) (by omega) (by assumption) (by omega) (by omega) (by omega) (by omega) (by assumption)⟩,by omega⟩) ⟨ke rfl,ke rfl,ke rfl,ke rfl,ke rfl,trivial⟩ (fun _ _ h=>h)
 refine Tr.skip (Fin.go (Tr.seq (Tr.seq (Tr.J8 mixed (by kernel_rfl) ?_))))
 iterate 4 refine cm rfl ?_
 refine SD rfl rfl rfl rfl (by omega) (co rfl (AD rfl underlying39 AQ (vl rfl) (vl rfl) (by omega) (by omega)) (co rfl (Ay 0 rfl (AW rfl BG AQ (vl rfl) (AU (f:=AG) (fun _=>rfl) (by omega)) rfl)) (cm rfl (cm rfl (cm rfl (SD rfl rfl rfl rfl (by omega) (co rfl (AD rfl underlying39 AQ (vl rfl) (vl rfl) (by omega) (by omega)) (co rfl (Ay 0 rfl (AW rfl BG AQ (vl rfl) (AU (f:=AG) (fun _=>rfl) (by omega)) rfl)) (co rfl (A6 (_,_) rfl (vl rfl) ⟨ke rfl,ke rfl,trivial⟩) (co rfl (ki rfl rfl rfl rfl) (co rfl (E0 rfl (vl rfl)) (Ch.nil (Fin.go ?_)))))))))))))
 refine JJ 0 2 3 4 10 11 58 rfl ?_
 refine Tr.cn rfl ?_ ?_<;>intro h5 q5
 refine Tr.ret (Fin.AJ (Fin.Ad (Fin.AJ (Fin.Ad ?_))))
 refine Fin.CL (Kn c hi first lo l) 0 rfl (⟨by omega,by rw [←Gl];exact Nn Zi hf (by omega) (u:=first+(2*r+1)) (v:=first+(2*r+1)+1) rfl rfl (by omega) (by omega) (Int.not_lt.2 (by assumption)) (x:=first+r) (y:=first+(2*r+1)) rfl rfl (by omega) (by omega) (Int.not_lt.2 (by assumption))⟩) ?_
 exact Fin.Ip rfl
 refine Tr.skip (Fin.go (Tr.seq (Tr.EL mixed [none,none,none,none,none,none,none,none,none,none,none,none,none,some (0,0,false,0),none,none,none,none,none,some (0,0,false,0),none,some (0,0,true,0),none,some (0,0,true,0)] (by kernel_rfl) (xm rfl (xm rfl (xm rfl ?_))))))
 refine xo rfl (fun _=>B9 rfl (vl rfl) (vl rfl) ?hin) ?_;case hin=>unfold Em;omega
 refine xm rfl (xm rfl (xm rfl ?_))
 refine xo rfl (fun _=>B9 rfl (vl rfl) (vl rfl) ?hin) ?_;case hin=>unfold Em;omega
 refine xm rfl (xm rfl (xm rfl ?_))
 refine xo rfl (fun _=>B9 rfl (vl rfl) (vl rfl) ?hin) ?_;case hin=>unfold Em;omega
 refine xo rfl (fun _=>AD rfl underlying39 AQ (vl rfl) (vl rfl) (by omega) (by omega)) (DI 0 rfl rfl (AW rfl BG AQ (vl rfl) (AU (f:=AG) (fun _=>rfl) (by omega)) rfl) (xm rfl (xm rfl (xm rfl ?_))))
 refine xo rfl (fun _=>B9 rfl (vl rfl) (vl rfl) ?hin) ?_;case hin=>unfold Em;omega
 refine xo rfl (fun _=>AD rfl underlying39 AQ (vl rfl) (vl rfl) (by omega) (by omega)) (DI 0 rfl rfl (AW rfl BG AQ (vl rfl) (AU (f:=AG) (fun _=>rfl) (by omega)) rfl) (xo rfl (fun _=>AD rfl underlying39 AQ (vl rfl) (vl rfl) (by omega) (by omega)) ?_))
 refine Cx.DP 0 rfl rfl (Ar rfl rfl (vl rfl) (Va rfl) AQ rfl (by rw [A4 (sz:=3) (fun _=>rfl)];omega) (Aw (f:=AG) (fun _=>rfl) (by omega))) ?_
 refine xo rfl (fun _=>AD rfl underlying39 AQ (vl rfl) (vl rfl) (by omega) (by omega)) ?_
 refine Cx.DP 0 rfl rfl (Ar rfl rfl (vl rfl) (Va rfl) AQ rfl (by rw [A4 (sz:=3) (fun _=>rfl)];simp only [List.length_set];omega) (Aw (f:=AG) (fun _=>rfl) (by simp only [List.length_set];omega))) ?_
 refine Cx.nil ⟨rfl,?_⟩
 refine BJ.done (BS.cons (BS.cons (BS.map _))) (Fin.go (HJ 0 2 3 4 11 rfl (Tr.A0 (cm rfl (cm rfl (Ch.nil (Fin.block ?_)))))))
 exact Fin.Bw (2*r+1) (_)  (⟨⟨⟨by omega,by omega⟩,by simp only [List.length_set];exact Of,by rw [←Gl];exact RV Zi hf (by omega) (u:=first+(2*r+1)) (v:=first+(2*r+1)+1) rfl rfl (by omega) (by omega) (Int.not_lt.2 (by assumption)) (by omega) (by omega) (by omega) (by omega) (by assumption)⟩,by omega⟩) ⟨ke rfl,ke rfl,ke rfl,ke rfl,ke rfl,trivial⟩ (fun _ _ h=>h)
 iterate 16 refine cnt h2 rfl ?_
 refine co rfl (KP rfl rfl h2 rfl) (Ch.nil (Fin.go (JJ 0 2 3 4 10 11 40 rfl (Tr.cond rfl (fun h=>nomatch h) (fun _=> ?_)))))
 refine Tr.skip (Fin.go (Tr.seq (Tr.seq (Tr.J8 mixed (by kernel_rfl) ?_))))
 iterate 4 refine cm rfl ?_
 refine SD rfl rfl rfl rfl (by omega) (co rfl (AD rfl underlying39 AQ (vl rfl) (vl rfl) (by omega) (by omega)) (co rfl (Ay 0 rfl (AW rfl BG AQ (vl rfl) (AU (f:=AG) (fun _=>rfl) (by omega)) rfl)) (cm rfl (cm rfl (cm rfl (SD rfl rfl rfl rfl (by omega) (co rfl (AD rfl underlying39 AQ (vl rfl) (vl rfl) (by omega) (by omega)) (co rfl (Ay 0 rfl (AW rfl BG AQ (vl rfl) (AU (f:=AG) (fun _=>rfl) (by omega)) rfl)) (co rfl (A6 (_,_) rfl (vl rfl) ⟨ke rfl,ke rfl,trivial⟩) (co rfl (ki rfl rfl rfl rfl) (co rfl (E0 rfl (vl rfl)) (Ch.nil (Fin.go ?_)))))))))))))
 refine JJ 0 2 3 4 10 11 58 rfl ?_
 refine Tr.cn rfl ?_ ?_<;>intro h6 q6
 refine Tr.ret (Fin.AJ (Fin.Ad (Fin.AJ (Fin.Ad ?_))))
 refine Fin.CL (Kn c hi first lo l) 0 rfl (⟨by omega,by rw [←Gl];exact Nl Zi hf (by omega) (by omega) (x:=first+r) (y:=first+(2*r+1)) rfl rfl (by omega) (by omega) (Int.not_lt.2 (by assumption))⟩) ?_
 exact Fin.Ip rfl
 refine Tr.skip (Fin.go (Tr.seq (Tr.EL mixed [none,none,none,none,none,none,none,none,none,none,none,none,none,some (0,0,false,0),none,none,none,none,none,some (0,0,false,0),none,some (0,0,true,0),none,some (0,0,true,0)] (by kernel_rfl) (xm rfl (xm rfl (xm rfl ?_))))))
 refine xo rfl (fun _=>B9 rfl (vl rfl) (vl rfl) ?hin) ?_;case hin=>unfold Em;omega
 refine xm rfl (xm rfl (xm rfl ?_))
 refine xo rfl (fun _=>B9 rfl (vl rfl) (vl rfl) ?hin) ?_;case hin=>unfold Em;omega
 refine xm rfl (xm rfl (xm rfl ?_))
 refine xo rfl (fun _=>B9 rfl (vl rfl) (vl rfl) ?hin) ?_;case hin=>unfold Em;omega
 refine xo rfl (fun _=>AD rfl underlying39 AQ (vl rfl) (vl rfl) (by omega) (by omega)) (DI 0 rfl rfl (AW rfl BG AQ (vl rfl) (AU (f:=AG) (fun _=>rfl) (by omega)) rfl) (xm rfl (xm rfl (xm rfl ?_))))
 refine xo rfl (fun _=>B9 rfl (vl rfl) (vl rfl) ?hin) ?_;case hin=>unfold Em;omega
 refine xo rfl (fun _=>AD rfl underlying39 AQ (vl rfl) (vl rfl) (by omega) (by omega)) (DI 0 rfl rfl (AW rfl BG AQ (vl rfl) (AU (f:=AG) (fun _=>rfl) (by omega)) rfl) (xo rfl (fun _=>AD rfl underlying39 AQ (vl rfl) (vl rfl) (by omega) (by omega)) ?_))
 refine Cx.DP 0 rfl rfl (Ar rfl rfl (vl rfl) (Va rfl) AQ rfl (by rw [A4 (sz:=3) (fun _=>rfl)];omega) (Aw (f:=AG) (fun _=>rfl) (by omega))) ?_
 refine xo rfl (fun _=>AD rfl underlying39 AQ (vl rfl) (vl rfl) (by omega) (by omega)) ?_
 refine Cx.DP 0 rfl rfl (Ar rfl rfl (vl rfl) (Va rfl) AQ rfl (by rw [A4 (sz:=3) (fun _=>rfl)];simp only [List.length_set];omega) (Aw (f:=AG) (fun _=>rfl) (by simp only [List.length_set];omega))) ?_
 refine Cx.nil ⟨rfl,?_⟩
 refine BJ.done (BS.cons (BS.cons (BS.map _))) (Fin.go (HJ 0 2 3 4 11 rfl (Tr.A0 (cm rfl (cm rfl (Ch.nil (Fin.block ?_)))))))
 exact Fin.Bw (2*r+1) (_)  (⟨⟨⟨by omega,by omega⟩,by simp only [List.length_set];exact Of,by rw [←Gl];exact RU Zi hf (by omega) (by omega) (by omega) (by omega) (by omega) (by omega) (by assumption)⟩,by omega⟩) ⟨ke rfl,ke rfl,ke rfl,ke rfl,ke rfl,trivial⟩ (fun _ _ h=>h)
theorem UQ {l:List Az} {c:Az×Az→Int} {b0 cap len:Nat} {sp:List Value} {a b:Int} (Iq:l.length=len) (Jx:len≤1000000) (hw:Go.Sort.SWO (Bs c)) (h0:0≤a) (hab:a≤b) (hb:b≤len):A5 prog 151 [is (.slice (some ⟨b0,0,none⟩) len cap),int a,int b,GF prog (fun x:Az×Az=>[agg (AG x.1),agg (AG x.2)]) (fun x=>int (c x))] (Dd) (AA true b0 57 ((l.map AG).flatten++sp.map is)) (fun _=>CU b0 57 AG (De c a b l) (sp.map is)):=by
 refine A5.of func151 rfl rfl (by exact Nb rfl) fun M0 w0 S rs M1 w1=> ?_
 have hq:IntKind.i64.wrap ((b-a-1).tdiv 2)=(((b.toNat-a.toNat-1)/2:Nat):Int):=RX (by omega) (by omega) (by omega)
 iterate 4 refine ac ?_
 refine co rfl (EK rfl (vl rfl) (vl rfl) (by omega)) ?_
 refine ac ?_
 refine Tr.block (Tr.Ca [(0,_),(3,_),(8,_),(9,_),(10,_)] ⟨ke rfl,ke rfl,ke rfl,ke rfl,ke rfl,trivial⟩ (fun (i:Int) (st:List Az)=>[(11,int i)]) (fun (i:Int) (st:List Az)=>Hp M0 w0 S (AA true b0 57 ((st.map AG).flatten++sp.map is)::Ak M1 w1::rs)) (fun (i:Int) (st:List Az)=>(-1≤i∧i≤b-a)∧st.length=len∧Go.Sort.heapBuild (Bs c) (b-a).toNat a.toNat (i+1).toNat st.toArray=Go.Sort.heapBuild (Bs c) (b-a).toNat a.toNat ((b.toNat-a.toNat-1)/2+1) l.toArray) (fun (i:Int) (st:List Az)=>(i+1).toNat) ((((b.toNat-a.toNat-1)/2:Nat):Int)) (l)  (⟨⟨by omega,by omega⟩,by omega,by rw [show ((((b.toNat-a.toNat-1)/2:Nat):Int)+1).toNat=(b.toNat-a.toNat-1)/2+1 by omega]⟩) ⟨⟨_,rfl,int_eq hq⟩,trivial⟩ (fun _ _ h=>h) ?_)
 rintro i st  ⟨⟨hi1,hi2⟩,Of,Gl⟩
 refine an ?_ ?_<;>intro h1 q1
 have hib:0≤i:=of_decide_eq_true h1
 refine ac ?_
 refine ap ?_
 refine TO.DZ 0 rfl rfl (by decide) (Ab rfl rfl (by decide) rfl (OV (by omega) (by omega) (by omega) (by omega) (by omega) (by omega)) ⟨ke rfl,ke rfl,ke rfl,ke rfl,ke rfl,trivial⟩) (TO.DC 0 rfl fun t1 F_=> ?_)
 have Y6:=F_.len
 refine ap ?_
 refine FK 0 3 8 9 10 11 rfl ?_
 refine ac ?_
 exact Fin.Bw (i-1) (t1)  (⟨⟨⟨by omega,by omega⟩,by omega,by rw [F_.2];exact (S1 hib).trans Gl⟩,by omega⟩) ⟨ke rfl,ke rfl,ke rfl,ke rfl,ke rfl,ke rfl,trivial⟩ (fun _ _ h=>h)
 have hib:¬0≤i:=of_decide_eq_false h1
 rw [RW hib] at Gl
 refine a2 ?_
 refine Tr.block (Tr.Ca [(0,_),(3,_),(8,_),(9,_)] ⟨ke rfl,ke rfl,ke rfl,ke rfl,trivial⟩ (fun (i2:Int) (IX:List Az)=>[(12,int i2)]) (fun (i2:Int) (IX:List Az)=>Hp M0 w0 S (AA true b0 57 ((IX.map AG).flatten++sp.map is)::Ak M1 w1::rs)) (fun (i2:Int) (IX:List Az)=>(-1≤i2∧i2<b-a)∧IX.length=len∧Go.Sort.heapPop (Bs c) a.toNat (i2+1).toNat IX.toArray=Go.Sort.heapPop (Bs c) a.toNat (b-a).toNat st.toArray) (fun (i2:Int) (IX:List Az)=>(i2+1).toNat) (b-a-1) (st)  (⟨⟨by omega,by omega⟩,by omega,by rw [show (b-a-1+1).toNat=(b-a).toNat by omega]⟩) ⟨ke rfl,trivial⟩ (fun _ _ h=>h) ?_)
 rintro i2 IX  ⟨⟨YG,hj2⟩,UP,P3⟩
 refine an ?_ ?_<;>intro h2 q2
 have Y7:0≤i2:=of_decide_eq_true h2
 refine ac ?_
 refine Tr.seq (Tr.block (Tr.seq (Tr.rx ?_)))
 refine ay ?_
 refine xo rfl (fun _=>AD rfl underlying39 AQ (vl rfl) (vl rfl) (by omega) (by omega)) (DI 0 rfl rfl (AW rfl BG AQ (vl rfl) (AU (f:=AG) (fun _=>rfl) (by omega)) rfl) ?_)
 refine ay ?_
 refine xo rfl (fun _=>AD rfl underlying39 AQ (vl rfl) (vl rfl) (by omega) (by omega)) (DI 0 rfl rfl (AW rfl BG AQ (vl rfl) (AU (f:=AG) (fun _=>rfl) (by omega)) rfl) (xo rfl (fun _=>AD rfl underlying39 AQ (vl rfl) (vl rfl) (by omega) (by omega)) ?_))
 refine Cx.DP 0 rfl rfl (Ar rfl rfl (vl rfl) (Va rfl) AQ rfl (by rw [A4 (sz:=3) (fun _=>rfl)];omega) (Aw (f:=AG) (fun _=>rfl) (by omega))) ?_
 refine xo rfl (fun _=>AD rfl underlying39 AQ (vl rfl) (vl rfl) (by omega) (by omega)) ?_
 refine Cx.DP 0 rfl rfl (Ar rfl rfl (vl rfl) (Va rfl) AQ rfl (by rw [A4 (sz:=3) (fun _=>rfl)];simp only [List.length_set];omega) (Aw (f:=AG) (fun _=>rfl) (by simp only [List.length_set];omega))) ?_
 refine Cx.nil ⟨by kernel_rfl,?_⟩
 refine BJ.done Oe (Fin.go (HJ 0 3 8 9 12 rfl ?_))
 refine ap ?_
 refine TO.DZ 0 rfl rfl (by decide) (Ab rfl rfl (by decide) rfl (OV (by simp only [List.length_set];omega) (by omega) (by omega) (by omega) (by omega) (by omega)) ⟨ke rfl,ke rfl,ke rfl,ke rfl,ke rfl,trivial⟩) ?_
 refine TO.DC 0 rfl fun t2 Nk=> ?_
 have Y8:=Nk.len
 refine ap ?_
 refine ac ?_
 exact Fin.Bw (i2-1) (t2)  (⟨⟨⟨by omega,by omega⟩,by simp only [List.length_set] at Y8;omega,by rw [Nk.2,sw (by omega) (by omega),show (a+i2).toNat=a.toNat+i2.toNat by omega];exact (YJ Y7).trans P3⟩,by omega⟩) ⟨ke rfl,ke rfl,ke rfl,ke rfl,ke rfl,trivial⟩ (fun _ _ h=>h)
 have Y7:¬0≤i2:=of_decide_eq_false h2
 rw [VR Y7] at P3
 refine Tr.exit (Fin.AK (Fin.AK (Fin.Aa ?_)))
 refine Fin.CL (De c a b l) 0 rfl (by unfold De;rw [P3,Gl];exact heap_holds hw l.toArray h0 hab (by simp only [List.size_toArray];omega)) ?_
 exact Fin.JK rfl
theorem Wa {l:List Az} {c:Az×Az→Int} {b0 cap len:Nat} {sp:List Value} {a b:Int} (Iq:l.length=len) (Jx:len≤1000000) (h0:0≤a) (hab:a<b) (hb:b≤len):A5 prog 154 [is (.slice (some ⟨b0,0,none⟩) len cap),int a,int b,GF prog (fun x:Az×Az=>[agg (AG x.1),agg (AG x.2)]) (fun x=>int (c x))] (Dd) (AA true b0 57 ((l.map AG).flatten++sp.map is)) (fun _=>CU b0 57 AG (CM a b l) (sp.map is)):=by
 refine A5.of func154 rfl rfl (by exact Nb rfl) fun M0 w0 S rs M1 w1=> ?_
 refine a2 ?_
 refine Tr.block (Tr.KT [(0,_)] ⟨ke rfl,trivial⟩ (fun (i:Int) (j:Int) (st:List Az)=>[(8,int i),(9,int j)]) (fun (i:Int) (j:Int) (st:List Az)=>Hp M0 w0 S (AA true b0 57 ((st.map AG).flatten++sp.map is)::Ak M1 w1::rs)) (fun (i:Int) (j:Int) (st:List Az)=>(a≤i∧j<b∧ -1≤j∧i≤b)∧st.length=len∧CM a b l st) (fun (i:Int) (j:Int) (st:List Az)=>(j-i).toNat) (a) (b-1) (l)  (⟨⟨by omega,by omega,by omega,by omega⟩,by omega,CM.refl _ _ _⟩) ⟨ke rfl,ke rfl,trivial⟩ (fun _ _ h=>h) ?_)
 rintro i j st  ⟨⟨hi1,hi2,Yr,hi4⟩,Of,Gl⟩
 refine an ?_ ?_<;>intro h1 q1
 have hij:i<j:=of_decide_eq_true h1
 refine ac ?_
 refine Tr.block (Tr.seq (Tr.rx ?_))
 refine ay ?_
 refine xo rfl (fun _=>AD rfl underlying39 AQ (vl rfl) (vl rfl) (by omega) (by omega)) (DI 0 rfl rfl (AW rfl BG AQ (vl rfl) (AU (f:=AG) (fun _=>rfl) (by omega)) rfl) ?_)
 refine ay ?_
 refine xo rfl (fun _=>AD rfl underlying39 AQ (vl rfl) (vl rfl) (by omega) (by omega)) (DI 0 rfl rfl (AW rfl BG AQ (vl rfl) (AU (f:=AG) (fun _=>rfl) (by omega)) rfl) (xo rfl (fun _=>AD rfl underlying39 AQ (vl rfl) (vl rfl) (by omega) (by omega)) ?_))
 refine Cx.DP 0 rfl rfl (Ar rfl rfl (vl rfl) (Va rfl) AQ rfl (by rw [A4 (sz:=3) (fun _=>rfl)];omega) (Aw (f:=AG) (fun _=>rfl) (by omega))) ?_
 refine xo rfl (fun _=>AD rfl underlying39 AQ (vl rfl) (vl rfl) (by omega) (by omega)) ?_
 refine Cx.DP 0 rfl rfl (Ar rfl rfl (vl rfl) (Va rfl) AQ rfl (by rw [A4 (sz:=3) (fun _=>rfl)];simp only [List.length_set];omega) (Aw (f:=AG) (fun _=>rfl) (by simp only [List.length_set];omega))) ?_
 refine Cx.nil ⟨by kernel_rfl,?_⟩
 refine BJ.done Oe (Fin.go (Ur 0 8 9 rfl ?_))
 refine a2 ?_
 exact Fin.Ho (i+1) (j-1) (_)  (⟨⟨⟨by omega,by omega,by omega,by omega⟩,by simp only [List.length_set];exact Of,Gl.swap (by omega) (by omega) (by omega) (by omega) (by omega) (by omega) (by omega)⟩,by omega⟩) ⟨ke rfl,ke rfl,ke rfl,trivial⟩ (fun _ _ h=>h)
 have:=h1
 refine Tr.exit (Fin.AK (Fin.AK (Fin.Aa (Fin.CL (CM a b l) 0 rfl (Gl) (Fin.JK rfl)))))
theorem Wb {l:List Az} {c:Az×Az→Int} {b0 cap len:Nat} {sp:List Value} {a b pv:Int} (Iq:l.length=len) (Jx:len≤1000000) (h0:0≤a) (hab:a<b) (hb:b≤len) (F_:a≤pv) (Nk:pv<b):A5 prog 156 [is (.slice (some ⟨b0,0,none⟩) len cap),int a,int b,int pv,GF prog (fun x:Az×Az=>[agg (AG x.1),agg (AG x.2)]) (fun x=>int (c x))] (int ((PE c a b pv l).1:Nat)) (AA true b0 57 ((l.map AG).flatten++sp.map is)) (fun _=>CU b0 57 AG (Nq c a b pv l) (sp.map is)):=by
 refine A5.of func156 rfl rfl (by exact Nb rfl) fun M0 w0 S rs M1 w1=> ?_
 have Jp:a.toNat<l.length:=by omega
 have G2:pv.toNat<l.length:=by omega
 refine ac ?_
 refine Tr.seq (Tr.rx ?_)
 refine ay ?_
 refine xo rfl (fun _=>AD rfl underlying39 AQ (vl rfl) (vl rfl) (by omega) (by omega)) (DI 0 rfl rfl (AW rfl BG AQ (vl rfl) (AU (f:=AG) (fun _=>rfl) (by omega)) rfl) ?_)
 refine ay ?_
 refine xo rfl (fun _=>AD rfl underlying39 AQ (vl rfl) (vl rfl) (by omega) (by omega)) (DI 0 rfl rfl (AW rfl BG AQ (vl rfl) (AU (f:=AG) (fun _=>rfl) (by omega)) rfl) (xo rfl (fun _=>AD rfl underlying39 AQ (vl rfl) (vl rfl) (by omega) (by omega)) ?_))
 refine Cx.DP 0 rfl rfl (Ar rfl rfl (vl rfl) (Va rfl) AQ rfl (by rw [A4 (sz:=3) (fun _=>rfl)];omega) (Aw (f:=AG) (fun _=>rfl) (by omega))) ?_
 refine xo rfl (fun _=>AD rfl underlying39 AQ (vl rfl) (vl rfl) (by omega) (by omega)) ?_
 refine Cx.DP 0 rfl rfl (Ar rfl rfl (vl rfl) (Va rfl) AQ rfl (by rw [A4 (sz:=3) (fun _=>rfl)];simp only [List.length_set];omega) (Aw (f:=AG) (fun _=>rfl) (by simp only [List.length_set];omega))) ?_
 refine Cx.nil ⟨by kernel_rfl,?_⟩
 refine BJ.done Oe (Fin.go (FB 0 1 2 4 rfl ?_))
 refine ac ?_
 refine Tr.seq (Tr.block ?_)
 refine Tr.KT [(0,_),(1,_),(4,_)] ⟨ke rfl,ke rfl,ke rfl,trivial⟩ (fun (i:Int) (j:Int) (st:List Az)=>[(11,int i),(12,int j)]) (fun (i:Int) (j:Int) (st:List Az)=>Hp M0 w0 S (AA true b0 57 ((st.map AG).flatten++sp.map is)::Ak M1 w1::rs)) (fun (i:Int) (j:Int) (st:List Az)=>((a<i∧i≤b)∧a≤j∧j<b)∧st.length=len∧YK c a i j st.toArray=PE c a b pv l) (fun (i:Int) (j:Int) (st:List Az)=>(j-i+2).toNat) (a+1) (b-1) (((l.set a.toNat (l[pv.toNat]'G2)).set pv.toNat (l[a.toNat]'Jp)))  (⟨⟨⟨by omega,by omega⟩,by omega,by omega⟩,by simp only [List.length_set];exact Iq,S6 h0 hab Jp G2⟩) ⟨ke rfl,ke rfl,trivial⟩ (fun _ _ h=>h) ?_
 rintro i j st  ⟨⟨⟨hi1,hi2⟩,YG,hj2⟩,Of,Gl⟩
 refine Tr.block (HJ 0 1 4 11 12 rfl (Tr.KE [0,1,4,12] [(11,ex fun y:Int=>fact ((i≤y∧y≤b)∧True∧y.toNat=Go.Sort.scanUp (qU c st.toArray a) st.toArray (j).toNat (i).toNat) (int y))] (True) ?_ (fun h1=> ?_)))
 refine Tr.block (Tr.BV [(0,_),(1,_),(4,_),(12,_)] (Sd rfl) (fun y:Int=>[(11,int y)]) (fun y:Int=>(i≤y∧y≤b)∧Go.Sort.scanUp (qU c st.toArray a) st.toArray (j).toNat (y).toNat=Go.Sort.scanUp (qU c st.toArray a) st.toArray (j).toNat (i).toNat) (fun y:Int=>(b-y).toNat) i (⟨⟨by omega,by omega⟩,rfl⟩) ⟨ke rfl,trivial⟩ ?_)
 rintro y ⟨⟨XR,XS⟩,Ga⟩
 refine ag ?_ ?_<;>intro h2 q2
 refine ac ?_
 refine cy h2 rfl (AD rfl underlying39 AQ (vl rfl) (vl rfl) (by omega) (by omega)) (cy h2 rfl (Ay 0 rfl (AW rfl BG AQ (vl rfl) (AU (f:=AG) (fun _=>rfl) (by omega)) rfl)) ?_)
 refine ac ?_
 refine cy h2 rfl (AD rfl underlying39 AQ (vl rfl) (vl rfl) (by omega) (by omega)) (cy h2 rfl (Ay 0 rfl (AW rfl BG AQ (vl rfl) (AU (f:=AG) (fun _=>rfl) (by omega)) rfl)) (cy h2 rfl (A6 (_,_) rfl (vl rfl) ⟨ke rfl,ke rfl,trivial⟩) ?_))
 refine ac ?_
 refine FK 0 1 4 11 12 47 rfl ?_
 refine Tr.cn rfl ?_ ?_<;>intro h3 q3
 have:=h3
 refine a2 ?_
 exact Fin.AF (y+1) ⟨⟨⟨by omega,by omega⟩,by rw [S2 (by omega) (by omega) (by omega) (gG (by omega) (by omega) (Int.not_lt.2 (by assumption)))];exact Ga⟩,by omega⟩ (SE rfl)
 have:=h3
 refine Tr.exit (Fin.AK (Fin.AK (Fin.Aa ?_)))
 exact Fin.AF () trivial ⟨⟨_,rfl,Bm _ (A8 ⟨⟨by omega,by omega⟩,trivial,by rw [←Ga];exact (Kj (by omega) (gH (by omega) (by omega) (by assumption))).symm⟩ (Lr))⟩,ke rfl,ke rfl,ke rfl,ke rfl,trivial⟩
 refine ac ?_
 refine FK 0 1 4 11 12 47 rfl (Tr.cond rfl (fun h=>nomatch h) (fun _=> ?_))
 refine Tr.exit (Fin.AK (Fin.AK (Fin.Aa ?_)))
 exact Fin.AF () trivial ⟨⟨_,rfl,Bm _ (A8 ⟨⟨by omega,by omega⟩,trivial,by rw [←Ga];exact (Ki (by omega) (by omega)).symm⟩ (Lr))⟩,ke rfl,ke rfl,ke rfl,ke rfl,trivial⟩
 refine Tr.ex 11 rfl (fun i2=>Tr.fact 11 rfl fun Y9=> ?_)
 obtain ⟨dB,dD,LK⟩:=Y9
 refine HJ 0 1 4 11 12 rfl (Tr.KE [0,1,4,11] [(12,ex fun y:Int=>fact ((a≤y∧y≤j)∧True∧y.toNat=Go.Sort.scanDown (qD c st.toArray a) st.toArray (i2).toNat (j).toNat) (int y))] (True) ?_ (fun h4=> ?_))
 refine Tr.block (Tr.BV [(0,_),(1,_),(4,_),(11,_)] (Sd rfl) (fun y:Int=>[(12,int y)]) (fun y:Int=>(a≤y∧y≤j)∧Go.Sort.scanDown (qD c st.toArray a) st.toArray (i2).toNat (y).toNat=Go.Sort.scanDown (qD c st.toArray a) st.toArray (i2).toNat (j).toNat) (fun y:Int=>(y-a).toNat) j (⟨⟨by omega,by omega⟩,rfl⟩) ⟨ke rfl,trivial⟩ ?_)
 rintro y ⟨⟨XT,XU⟩,Gb⟩
 refine ag ?_ ?_<;>intro h5 q5
 refine ac ?_
 refine cy h5 rfl (AD rfl underlying39 AQ (vl rfl) (vl rfl) (by omega) (by omega)) (cy h5 rfl (Ay 0 rfl (AW rfl BG AQ (vl rfl) (AU (f:=AG) (fun _=>rfl) (by omega)) rfl)) ?_)
 refine ac ?_
 refine cy h5 rfl (AD rfl underlying39 AQ (vl rfl) (vl rfl) (by omega) (by omega)) (cy h5 rfl (Ay 0 rfl (AW rfl BG AQ (vl rfl) (AU (f:=AG) (fun _=>rfl) (by omega)) rfl)) (cy h5 rfl (A6 (_,_) rfl (vl rfl) ⟨ke rfl,ke rfl,trivial⟩) ?_))
 refine ac ?_
 refine FK 0 1 4 11 12 65 rfl ?_
 refine Tr.cn rfl ?_ ?_<;>intro h6 q6
 have:=h6
 refine a2 ?_
 exact Fin.AF (y-1) ⟨⟨⟨by omega,by omega⟩,by rw [S3 (by omega) (by omega) (by omega) (gI (by omega) (by omega) (by assumption))];exact Gb⟩,by omega⟩ (SE rfl)
 have:=h6
 refine Tr.exit (Fin.AK (Fin.AK (Fin.Aa ?_)))
 exact Fin.AF () trivial ⟨⟨_,rfl,Bm _ (A8 ⟨⟨by omega,by omega⟩,trivial,by rw [←Gb];exact (Kl (by omega) (gJ (by omega) (by omega) (Int.not_lt.2 (by assumption)))).symm⟩ (Lr))⟩,ke rfl,ke rfl,ke rfl,ke rfl,trivial⟩
 refine ac ?_
 refine FK 0 1 4 11 12 65 rfl (Tr.cond rfl (fun h=>nomatch h) (fun _=> ?_))
 refine Tr.exit (Fin.AK (Fin.AK (Fin.Aa ?_)))
 exact Fin.AF () trivial ⟨⟨_,rfl,Bm _ (A8 ⟨⟨by omega,by omega⟩,trivial,by rw [←Gb];exact (Kk (by omega) (by omega)).symm⟩ (Lr))⟩,ke rfl,ke rfl,ke rfl,ke rfl,trivial⟩
 refine Tr.ex 12 rfl (fun j2=>Tr.fact 12 rfl fun Y_=> ?_)
 obtain ⟨dF,dG,LL⟩:=Y_
 refine an ?_ ?_<;>intro h7 q7
 refine a2 ?_
 refine Tr.ret (Fin.CL (Nq c a b pv l) 0 rfl (⟨by omega,by rw [Gl.symm.trans (Np LK LL (by omega) (by omega))]⟩) ?_)
 have hE:=Gl.symm.trans (Np LK LL (by omega) (by omega))
 refine Fin.CI rfl rfl ?_ (fun _ _ _ _=>rfl)
 · exact int_eq (by rw [hE];show i2=((i2.toNat:Nat):Int);omega)
 refine ac ?_
 refine Tr.seq (Tr.rx ?_)
 refine ay ?_
 refine xo rfl (fun _=>AD rfl underlying39 AQ (vl rfl) (vl rfl) (by omega) (by omega)) (DI 0 rfl rfl (AW rfl BG AQ (vl rfl) (AU (f:=AG) (fun _=>rfl) (by omega)) rfl) ?_)
 refine ay ?_
 refine xo rfl (fun _=>AD rfl underlying39 AQ (vl rfl) (vl rfl) (by omega) (by omega)) (DI 0 rfl rfl (AW rfl BG AQ (vl rfl) (AU (f:=AG) (fun _=>rfl) (by omega)) rfl) (xo rfl (fun _=>AD rfl underlying39 AQ (vl rfl) (vl rfl) (by omega) (by omega)) ?_))
 refine Cx.DP 0 rfl rfl (Ar rfl rfl (vl rfl) (Va rfl) AQ rfl (by rw [A4 (sz:=3) (fun _=>rfl)];omega) (Aw (f:=AG) (fun _=>rfl) (by omega))) ?_
 refine xo rfl (fun _=>AD rfl underlying39 AQ (vl rfl) (vl rfl) (by omega) (by omega)) ?_
 refine Cx.DP 0 rfl rfl (Ar rfl rfl (vl rfl) (Va rfl) AQ rfl (by rw [A4 (sz:=3) (fun _=>rfl)];simp only [List.length_set];omega) (Aw (f:=AG) (fun _=>rfl) (by simp only [List.length_set];omega))) ?_
 refine Cx.nil ⟨by kernel_rfl,?_⟩
 refine BJ.done Oe (Fin.go (HJ 0 1 4 11 12 rfl ?_))
 refine a2 ?_
 exact Fin.Ho (i2+1) (j2-1) (_)  (⟨⟨⟨⟨by omega,by omega⟩,by omega,by omega⟩,by simp only [List.length_set];exact Of,(YL LK LL (by omega) (by omega) (by omega) (by omega)).trans Gl⟩,by omega⟩) ⟨ke rfl,ke rfl,ke rfl,ke rfl,ke rfl,trivial⟩ (fun _ _ h=>h)
theorem OW {l:List Az} {c:Az×Az→Int} {b0 cap len:Nat} {sp:List Value} {a b pv:Int} (Iq:l.length=len) (Jx:len≤1000000) (h0:0≤a) (hab:a<b) (hb:b≤len) (F_:a≤pv) (Nk:pv<b):A5 prog 157 [is (.slice (some ⟨b0,0,none⟩) len cap),int a,int b,int pv,GF prog (fun x:Az×Az=>[agg (AG x.1),agg (AG x.2)]) (fun x=>int (c x))] (ex fun z:Bool=>fact True (FZ [int ((PA c a b pv l).1:Nat),bool z])) (AA true b0 57 ((l.map AG).flatten++sp.map is)) (fun _=>CU b0 57 AG (Lq c a b pv l) (sp.map is)):=by
 refine A5.of func157 rfl rfl (by exact Nb rfl) fun M0 w0 S rs M1 w1=> ?_
 have Jp:a.toNat<l.length:=by omega
 have G2:pv.toNat<l.length:=by omega
 have hS1:((l.set a.toNat (l[pv.toNat]'G2)).set pv.toNat (l[a.toNat]'Jp)).length=len:=by simp only [List.length_set];exact Iq
 refine ac ?_
 refine Tr.seq (Tr.rx ?_)
 refine ay ?_
 refine xo rfl (fun _=>AD rfl underlying39 AQ (vl rfl) (vl rfl) (by omega) (by omega)) (DI 0 rfl rfl (AW rfl BG AQ (vl rfl) (AU (f:=AG) (fun _=>rfl) (by omega)) rfl) ?_)
 refine ay ?_
 refine xo rfl (fun _=>AD rfl underlying39 AQ (vl rfl) (vl rfl) (by omega) (by omega)) (DI 0 rfl rfl (AW rfl BG AQ (vl rfl) (AU (f:=AG) (fun _=>rfl) (by omega)) rfl) (xo rfl (fun _=>AD rfl underlying39 AQ (vl rfl) (vl rfl) (by omega) (by omega)) ?_))
 refine Cx.DP 0 rfl rfl (Ar rfl rfl (vl rfl) (Va rfl) AQ rfl (by rw [A4 (sz:=3) (fun _=>rfl)];omega) (Aw (f:=AG) (fun _=>rfl) (by omega))) ?_
 refine xo rfl (fun _=>AD rfl underlying39 AQ (vl rfl) (vl rfl) (by omega) (by omega)) ?_
 refine Cx.DP 0 rfl rfl (Ar rfl rfl (vl rfl) (Va rfl) AQ rfl (by rw [A4 (sz:=3) (fun _=>rfl)];simp only [List.length_set];omega) (Aw (f:=AG) (fun _=>rfl) (by simp only [List.length_set];omega))) ?_
 refine Cx.nil ⟨by kernel_rfl,?_⟩
 refine BJ.done Oe (Fin.go (FB 0 1 2 4 rfl ?_))
 refine ac ?_
 refine HJ 0 1 4 12 13 rfl (Tr.KE [0,1,4,13] [(12,ex fun y:Int=>fact (((a+1)≤y∧y≤b)∧True∧y.toNat=Go.Sort.scanUp (pU c ((l.set a.toNat (l[pv.toNat]'G2)).set pv.toNat (l[a.toNat]'Jp)).toArray a) ((l.set a.toNat (l[pv.toNat]'G2)).set pv.toNat (l[a.toNat]'Jp)).toArray ((b-1)).toNat ((a+1)).toNat) (int y))] (True) ?_ (fun h1=> ?_))
 refine Tr.block (Tr.BV [(0,_),(1,_),(4,_),(13,_)] (Sd rfl) (fun y:Int=>[(12,int y)]) (fun y:Int=>((a+1)≤y∧y≤b)∧Go.Sort.scanUp (pU c ((l.set a.toNat (l[pv.toNat]'G2)).set pv.toNat (l[a.toNat]'Jp)).toArray a) ((l.set a.toNat (l[pv.toNat]'G2)).set pv.toNat (l[a.toNat]'Jp)).toArray ((b-1)).toNat (y).toNat=Go.Sort.scanUp (pU c ((l.set a.toNat (l[pv.toNat]'G2)).set pv.toNat (l[a.toNat]'Jp)).toArray a) ((l.set a.toNat (l[pv.toNat]'G2)).set pv.toNat (l[a.toNat]'Jp)).toArray ((b-1)).toNat ((a+1)).toNat) (fun y:Int=>(b-y).toNat) (a+1) (⟨⟨by omega,by omega⟩,rfl⟩) ⟨ke rfl,trivial⟩ ?_)
 rintro y ⟨⟨XR,XS⟩,Ga⟩
 refine ag ?_ ?_<;>intro h2 q2
 refine ac ?_
 refine cy h2 rfl (AD rfl underlying39 AQ (vl rfl) (vl rfl) (by omega) (by omega)) (cy h2 rfl (Ay 0 rfl (AW rfl BG AQ (vl rfl) (AU (f:=AG) (fun _=>rfl) (by omega)) rfl)) ?_)
 refine ac ?_
 refine cy h2 rfl (AD rfl underlying39 AQ (vl rfl) (vl rfl) (by omega) (by omega)) (cy h2 rfl (Ay 0 rfl (AW rfl BG AQ (vl rfl) (AU (f:=AG) (fun _=>rfl) (by omega)) rfl)) (cy h2 rfl (A6 (_,_) rfl (vl rfl) ⟨ke rfl,ke rfl,trivial⟩) ?_))
 refine ac ?_
 refine FK 0 1 4 12 13 47 rfl ?_
 refine Tr.cn rfl ?_ ?_<;>intro h3 q3
 have:=h3
 refine a2 ?_
 exact Fin.AF (y+1) ⟨⟨⟨by omega,by omega⟩,by rw [S2 (by omega) (by omega) (by omega) (ah (by omega) (by omega) (by assumption))];exact Ga⟩,by omega⟩ (SE rfl)
 have:=h3
 refine Tr.exit (Fin.AK (Fin.AK (Fin.Aa ?_)))
 exact Fin.AF () trivial ⟨⟨_,rfl,Bm _ (A8 ⟨⟨by omega,by omega⟩,trivial,by rw [←Ga];exact (Kj (by omega) (aj (by omega) (by omega) (Int.not_lt.2 (by assumption)))).symm⟩ (Lr))⟩,ke rfl,ke rfl,ke rfl,ke rfl,trivial⟩
 refine ac ?_
 refine FK 0 1 4 12 13 47 rfl (Tr.cond rfl (fun h=>nomatch h) (fun _=> ?_))
 refine Tr.exit (Fin.AK (Fin.AK (Fin.Aa ?_)))
 exact Fin.AF () trivial ⟨⟨_,rfl,Bm _ (A8 ⟨⟨by omega,by omega⟩,trivial,by rw [←Ga];exact (Ki (by omega) (by omega)).symm⟩ (Lr))⟩,ke rfl,ke rfl,ke rfl,ke rfl,trivial⟩
 refine Tr.ex 12 rfl (fun i1=>Tr.fact 12 rfl fun ig=> ?_)
 obtain ⟨kI,kJ,UR⟩:=ig
 refine HJ 0 1 4 12 13 rfl (Tr.KE [0,1,4,12] [(13,ex fun y:Int=>fact ((a≤y∧y≤(b-1))∧True∧y.toNat=Go.Sort.scanDown (pD c ((l.set a.toNat (l[pv.toNat]'G2)).set pv.toNat (l[a.toNat]'Jp)).toArray a) ((l.set a.toNat (l[pv.toNat]'G2)).set pv.toNat (l[a.toNat]'Jp)).toArray (i1).toNat ((b-1)).toNat) (int y))] (True) ?_ (fun h4=> ?_))
 refine Tr.block (Tr.BV [(0,_),(1,_),(4,_),(12,_)] (Sd rfl) (fun y:Int=>[(13,int y)]) (fun y:Int=>(a≤y∧y≤(b-1))∧Go.Sort.scanDown (pD c ((l.set a.toNat (l[pv.toNat]'G2)).set pv.toNat (l[a.toNat]'Jp)).toArray a) ((l.set a.toNat (l[pv.toNat]'G2)).set pv.toNat (l[a.toNat]'Jp)).toArray (i1).toNat (y).toNat=Go.Sort.scanDown (pD c ((l.set a.toNat (l[pv.toNat]'G2)).set pv.toNat (l[a.toNat]'Jp)).toArray a) ((l.set a.toNat (l[pv.toNat]'G2)).set pv.toNat (l[a.toNat]'Jp)).toArray (i1).toNat ((b-1)).toNat) (fun y:Int=>(y-a).toNat) (b-1) (⟨⟨by omega,by omega⟩,rfl⟩) ⟨ke rfl,trivial⟩ ?_)
 rintro y ⟨⟨XT,XU⟩,Gb⟩
 refine ag ?_ ?_<;>intro h5 q5
 refine ac ?_
 refine cy h5 rfl (AD rfl underlying39 AQ (vl rfl) (vl rfl) (by omega) (by omega)) (cy h5 rfl (Ay 0 rfl (AW rfl BG AQ (vl rfl) (AU (f:=AG) (fun _=>rfl) (by omega)) rfl)) ?_)
 refine ac ?_
 refine cy h5 rfl (AD rfl underlying39 AQ (vl rfl) (vl rfl) (by omega) (by omega)) (cy h5 rfl (Ay 0 rfl (AW rfl BG AQ (vl rfl) (AU (f:=AG) (fun _=>rfl) (by omega)) rfl)) (cy h5 rfl (A6 (_,_) rfl (vl rfl) ⟨ke rfl,ke rfl,trivial⟩) ?_))
 refine ac ?_
 refine FK 0 1 4 12 13 66 rfl ?_
 refine Tr.cn rfl ?_ ?_<;>intro h6 q6
 have:=h6
 refine a2 ?_
 exact Fin.AF (y-1) ⟨⟨⟨by omega,by omega⟩,by rw [S3 (by omega) (by omega) (by omega) (ak (by omega) (by omega) (Int.not_lt.2 (by assumption)))];exact Gb⟩,by omega⟩ (SE rfl)
 have:=h6
 refine Tr.exit (Fin.AK (Fin.AK (Fin.Aa ?_)))
 exact Fin.AF () trivial ⟨⟨_,rfl,Bm _ (A8 ⟨⟨by omega,by omega⟩,trivial,by rw [←Gb];exact (Kl (by omega) (aq (by omega) (by omega) (by assumption))).symm⟩ (Lr))⟩,ke rfl,ke rfl,ke rfl,ke rfl,trivial⟩
 refine ac ?_
 refine FK 0 1 4 12 13 66 rfl (Tr.cond rfl (fun h=>nomatch h) (fun _=> ?_))
 refine Tr.exit (Fin.AK (Fin.AK (Fin.Aa ?_)))
 exact Fin.AF () trivial ⟨⟨_,rfl,Bm _ (A8 ⟨⟨by omega,by omega⟩,trivial,by rw [←Gb];exact (Kk (by omega) (by omega)).symm⟩ (Lr))⟩,ke rfl,ke rfl,ke rfl,ke rfl,trivial⟩
 refine Tr.ex 13 rfl (fun j1=>Tr.fact 13 rfl fun ij=> ?_)
 obtain ⟨kK,kL,US⟩:=ij
 refine an ?_ ?_<;>intro h7 q7
 refine Tr.seq (Tr.rx ?_)
 refine ay ?_
 refine xo rfl (fun _=>AD rfl underlying39 AQ (vl rfl) (vl rfl) (by omega) (by omega)) (DI 0 rfl rfl (AW rfl BG AQ (vl rfl) (AU (f:=AG) (fun _=>rfl) (by omega)) rfl) ?_)
 refine ay ?_
 refine xo rfl (fun _=>AD rfl underlying39 AQ (vl rfl) (vl rfl) (by omega) (by omega)) (DI 0 rfl rfl (AW rfl BG AQ (vl rfl) (AU (f:=AG) (fun _=>rfl) (by omega)) rfl) (xo rfl (fun _=>AD rfl underlying39 AQ (vl rfl) (vl rfl) (by omega) (by omega)) ?_))
 refine Cx.DP 0 rfl rfl (Ar rfl rfl (vl rfl) (Va rfl) AQ rfl (by rw [A4 (sz:=3) (fun _=>rfl)];omega) (Aw (f:=AG) (fun _=>rfl) (by omega))) ?_
 refine xo rfl (fun _=>AD rfl underlying39 AQ (vl rfl) (vl rfl) (by omega) (by omega)) ?_
 refine Cx.DP 0 rfl rfl (Ar rfl rfl (vl rfl) (Va rfl) AQ rfl (by rw [A4 (sz:=3) (fun _=>rfl)];simp only [List.length_set];omega) (Aw (f:=AG) (fun _=>rfl) (by simp only [List.length_set];omega))) ?_
 refine Cx.nil ⟨by kernel_rfl,?_⟩
 refine BJ.done Oe (Fin.go (Cg 13 rfl ?_))
 refine ac ?_
 refine Tr.ret (Fin.AJ (Fin.CL (Lq c a b pv l) 0 rfl (⟨by simp only [List.length_set],(Hw h0 hab Jp G2 (Gk UR US (by omega) (by omega)) (by omega) (by omega)).2⟩) (Fin.HB [] rfl (Bc.tmp rfl (Lr)) (Bc.tmp rfl (Lr)) ?_)))
 · exact Bm true (A8 trivial (Pr.le_of_eq (by rw [(Hw h0 hab Jp G2 (Gk UR US (by omega) (by omega)) (by omega) (by omega)).1,Int.toNat_of_nonneg (by omega)])))
 refine ac ?_
 refine Tr.seq (Tr.rx ?_)
 refine ay ?_
 refine xo rfl (fun _=>AD rfl underlying39 AQ (vl rfl) (vl rfl) (by omega) (by omega)) (DI 0 rfl rfl (AW rfl BG AQ (vl rfl) (AU (f:=AG) (fun _=>rfl) (by omega)) rfl) ?_)
 refine ay ?_
 refine xo rfl (fun _=>AD rfl underlying39 AQ (vl rfl) (vl rfl) (by omega) (by omega)) (DI 0 rfl rfl (AW rfl BG AQ (vl rfl) (AU (f:=AG) (fun _=>rfl) (by omega)) rfl) (xo rfl (fun _=>AD rfl underlying39 AQ (vl rfl) (vl rfl) (by omega) (by omega)) ?_))
 refine Cx.DP 0 rfl rfl (Ar rfl rfl (vl rfl) (Va rfl) AQ rfl (by rw [A4 (sz:=3) (fun _=>rfl)];omega) (Aw (f:=AG) (fun _=>rfl) (by omega))) ?_
 refine xo rfl (fun _=>AD rfl underlying39 AQ (vl rfl) (vl rfl) (by omega) (by omega)) ?_
 refine Cx.DP 0 rfl rfl (Ar rfl rfl (vl rfl) (Va rfl) AQ rfl (by rw [A4 (sz:=3) (fun _=>rfl)];simp only [List.length_set];omega) (Aw (f:=AG) (fun _=>rfl) (by simp only [List.length_set];omega))) ?_
 refine Cx.nil ⟨by kernel_rfl,?_⟩
 refine BJ.done Oe (Fin.go (HJ 0 1 4 12 13 rfl ?_))
 refine a2 ?_
 refine Tr.seq (Tr.block ?_)
 refine Tr.KT [(0,_),(1,_),(4,_)] ⟨ke rfl,ke rfl,ke rfl,trivial⟩ (fun (i:Int) (j:Int) (st:List Az)=>[(12,int i),(13,int j)]) (fun (i:Int) (j:Int) (st:List Az)=>Hp M0 w0 S (AA true b0 57 ((st.map AG).flatten++sp.map is)::Ak M1 w1::rs)) (fun (i:Int) (j:Int) (st:List Az)=>((a<i∧i≤b)∧a≤j∧j<b)∧st.length=len∧XH c a i j st.toArray=XH c a (a+1) (b-1) ((l.set a.toNat (l[pv.toNat]'G2)).set pv.toNat (l[a.toNat]'Jp)).toArray) (fun (i:Int) (j:Int) (st:List Az)=>(j-i+2).toNat) (i1+1) (j1-1) (_)  (⟨⟨⟨by omega,by omega⟩,by omega,by omega⟩,by simp only [List.length_set];exact Iq,Qf UR US (by omega) (by omega) (by omega) (by omega)⟩) ⟨ke rfl,ke rfl,trivial⟩ (fun _ _ h=>h) ?_
 rintro i j st  ⟨⟨⟨hi1,hi2⟩,YG,hj2⟩,Of,Gl⟩
 refine Tr.block (HJ 0 1 4 12 13 rfl (Tr.KE [0,1,4,13] [(12,ex fun y:Int=>fact ((i≤y∧y≤b)∧True∧y.toNat=Go.Sort.scanUp (pU c st.toArray a) st.toArray (j).toNat (i).toNat) (int y))] (True) ?_ (fun h8=> ?_)))
 refine Tr.block (Tr.BV [(0,_),(1,_),(4,_),(13,_)] (Sd rfl) (fun y:Int=>[(12,int y)]) (fun y:Int=>(i≤y∧y≤b)∧Go.Sort.scanUp (pU c st.toArray a) st.toArray (j).toNat (y).toNat=Go.Sort.scanUp (pU c st.toArray a) st.toArray (j).toNat (i).toNat) (fun y:Int=>(b-y).toNat) i (⟨⟨by omega,by omega⟩,rfl⟩) ⟨ke rfl,trivial⟩ ?_)
 rintro y ⟨⟨XR,XS⟩,Ga⟩
 refine ag ?_ ?_<;>intro h9 q9
 refine ac ?_
 refine cy h9 rfl (AD rfl underlying39 AQ (vl rfl) (vl rfl) (by omega) (by omega)) (cy h9 rfl (Ay 0 rfl (AW rfl BG AQ (vl rfl) (AU (f:=AG) (fun _=>rfl) (by omega)) rfl)) ?_)
 refine ac ?_
 refine cy h9 rfl (AD rfl underlying39 AQ (vl rfl) (vl rfl) (by omega) (by omega)) (cy h9 rfl (Ay 0 rfl (AW rfl BG AQ (vl rfl) (AU (f:=AG) (fun _=>rfl) (by omega)) rfl)) (cy h9 rfl (A6 (_,_) rfl (vl rfl) ⟨ke rfl,ke rfl,trivial⟩) ?_))
 refine ac ?_
 refine FK 0 1 4 12 13 120 rfl ?_
 refine Tr.cn rfl ?_ ?_<;>intro h10 XK
 have:=h10
 refine a2 ?_
 exact Fin.AF (y+1) ⟨⟨⟨by omega,by omega⟩,by rw [S2 (by omega) (by omega) (by omega) (ah (by omega) (by omega) (by assumption))];exact Ga⟩,by omega⟩ (SE rfl)
 have:=h10
 refine Tr.exit (Fin.AK (Fin.AK (Fin.Aa ?_)))
 exact Fin.AF () trivial ⟨⟨_,rfl,Bm _ (A8 ⟨⟨by omega,by omega⟩,trivial,by rw [←Ga];exact (Kj (by omega) (aj (by omega) (by omega) (Int.not_lt.2 (by assumption)))).symm⟩ (Lr))⟩,ke rfl,ke rfl,ke rfl,ke rfl,trivial⟩
 refine ac ?_
 refine FK 0 1 4 12 13 120 rfl (Tr.cond rfl (fun h=>nomatch h) (fun _=> ?_))
 refine Tr.exit (Fin.AK (Fin.AK (Fin.Aa ?_)))
 exact Fin.AF () trivial ⟨⟨_,rfl,Bm _ (A8 ⟨⟨by omega,by omega⟩,trivial,by rw [←Ga];exact (Ki (by omega) (by omega)).symm⟩ (Lr))⟩,ke rfl,ke rfl,ke rfl,ke rfl,trivial⟩
 refine Tr.ex 12 rfl (fun i2=>Tr.fact 12 rfl fun Y9=> ?_)
 obtain ⟨dB,dD,LK⟩:=Y9
 refine HJ 0 1 4 12 13 rfl (Tr.KE [0,1,4,12] [(13,ex fun y:Int=>fact ((a≤y∧y≤j)∧True∧y.toNat=Go.Sort.scanDown (pD c st.toArray a) st.toArray (i2).toNat (j).toNat) (int y))] (True) ?_ (fun h11=> ?_))
 refine Tr.block (Tr.BV [(0,_),(1,_),(4,_),(12,_)] (Sd rfl) (fun y:Int=>[(13,int y)]) (fun y:Int=>(a≤y∧y≤j)∧Go.Sort.scanDown (pD c st.toArray a) st.toArray (i2).toNat (y).toNat=Go.Sort.scanDown (pD c st.toArray a) st.toArray (i2).toNat (j).toNat) (fun y:Int=>(y-a).toNat) j (⟨⟨by omega,by omega⟩,rfl⟩) ⟨ke rfl,trivial⟩ ?_)
 rintro y ⟨⟨XT,XU⟩,Gb⟩
 refine ag ?_ ?_<;>intro h12 YY
 refine ac ?_
 refine cy h12 rfl (AD rfl underlying39 AQ (vl rfl) (vl rfl) (by omega) (by omega)) (cy h12 rfl (Ay 0 rfl (AW rfl BG AQ (vl rfl) (AU (f:=AG) (fun _=>rfl) (by omega)) rfl)) ?_)
 refine ac ?_
 refine cy h12 rfl (AD rfl underlying39 AQ (vl rfl) (vl rfl) (by omega) (by omega)) (cy h12 rfl (Ay 0 rfl (AW rfl BG AQ (vl rfl) (AU (f:=AG) (fun _=>rfl) (by omega)) rfl)) (cy h12 rfl (A6 (_,_) rfl (vl rfl) ⟨ke rfl,ke rfl,trivial⟩) ?_))
 refine ac ?_
 refine FK 0 1 4 12 13 139 rfl ?_
 refine Tr.cn rfl ?_ ?_<;>intro Od cB
 have:=Od
 refine a2 ?_
 exact Fin.AF (y-1) ⟨⟨⟨by omega,by omega⟩,by rw [S3 (by omega) (by omega) (by omega) (ak (by omega) (by omega) (Int.not_lt.2 (by assumption)))];exact Gb⟩,by omega⟩ (SE rfl)
 have:=Od
 refine Tr.exit (Fin.AK (Fin.AK (Fin.Aa ?_)))
 exact Fin.AF () trivial ⟨⟨_,rfl,Bm _ (A8 ⟨⟨by omega,by omega⟩,trivial,by rw [←Gb];exact (Kl (by omega) (aq (by omega) (by omega) (by assumption))).symm⟩ (Lr))⟩,ke rfl,ke rfl,ke rfl,ke rfl,trivial⟩
 refine ac ?_
 refine FK 0 1 4 12 13 139 rfl (Tr.cond rfl (fun h=>nomatch h) (fun _=> ?_))
 refine Tr.exit (Fin.AK (Fin.AK (Fin.Aa ?_)))
 exact Fin.AF () trivial ⟨⟨_,rfl,Bm _ (A8 ⟨⟨by omega,by omega⟩,trivial,by rw [←Gb];exact (Kk (by omega) (by omega)).symm⟩ (Lr))⟩,ke rfl,ke rfl,ke rfl,ke rfl,trivial⟩
 refine Tr.ex 13 rfl (fun j2=>Tr.fact 13 rfl fun Y_=> ?_)
 obtain ⟨dF,dG,LL⟩:=Y_
 refine an ?_ ?_<;>intro Vh iI
 refine ac ?_
 refine Tr.seq (Tr.rx ?_)
 refine ay ?_
 refine xo rfl (fun _=>AD rfl underlying39 AQ (vl rfl) (vl rfl) (by omega) (by omega)) (DI 0 rfl rfl (AW rfl BG AQ (vl rfl) (AU (f:=AG) (fun _=>rfl) (by omega)) rfl) ?_)
 refine ay ?_
 refine xo rfl (fun _=>AD rfl underlying39 AQ (vl rfl) (vl rfl) (by omega) (by omega)) (DI 0 rfl rfl (AW rfl BG AQ (vl rfl) (AU (f:=AG) (fun _=>rfl) (by omega)) rfl) (xo rfl (fun _=>AD rfl underlying39 AQ (vl rfl) (vl rfl) (by omega) (by omega)) ?_))
 refine Cx.DP 0 rfl rfl (Ar rfl rfl (vl rfl) (Va rfl) AQ rfl (by rw [A4 (sz:=3) (fun _=>rfl)];omega) (Aw (f:=AG) (fun _=>rfl) (by omega))) ?_
 refine xo rfl (fun _=>AD rfl underlying39 AQ (vl rfl) (vl rfl) (by omega) (by omega)) ?_
 refine Cx.DP 0 rfl rfl (Ar rfl rfl (vl rfl) (Va rfl) AQ rfl (by rw [A4 (sz:=3) (fun _=>rfl)];simp only [List.length_set];omega) (Aw (f:=AG) (fun _=>rfl) (by simp only [List.length_set];omega))) ?_
 refine Cx.nil ⟨by kernel_rfl,?_⟩
 refine BJ.done Oe (Fin.go (Cg 13 rfl ?_))
 refine ac ?_
 refine Tr.ret ?_
 refine Fin.CL (Lq c a b pv l) 0 rfl (⟨by simp only [List.length_set];omega,(Hw h0 hab Jp G2 (Gl.symm.trans (Gk LK LL (by omega) (by omega))) (by omega) (by omega)).2⟩) ?_
 refine Fin.HB [] rfl (Bc.tmp rfl (Lr)) (Bc.tmp rfl (Lr)) ?_
 · exact Bm false (A8 trivial (Pr.le_of_eq (by rw [(Hw h0 hab Jp G2 (Gl.symm.trans (Gk LK LL (by omega) (by omega))) (by omega) (by omega)).1,Int.toNat_of_nonneg (by omega)])))
 refine ac ?_
 refine Tr.seq (Tr.rx ?_)
 refine ay ?_
 refine xo rfl (fun _=>AD rfl underlying39 AQ (vl rfl) (vl rfl) (by omega) (by omega)) (DI 0 rfl rfl (AW rfl BG AQ (vl rfl) (AU (f:=AG) (fun _=>rfl) (by omega)) rfl) ?_)
 refine ay ?_
 refine xo rfl (fun _=>AD rfl underlying39 AQ (vl rfl) (vl rfl) (by omega) (by omega)) (DI 0 rfl rfl (AW rfl BG AQ (vl rfl) (AU (f:=AG) (fun _=>rfl) (by omega)) rfl) (xo rfl (fun _=>AD rfl underlying39 AQ (vl rfl) (vl rfl) (by omega) (by omega)) ?_))
 refine Cx.DP 0 rfl rfl (Ar rfl rfl (vl rfl) (Va rfl) AQ rfl (by rw [A4 (sz:=3) (fun _=>rfl)];omega) (Aw (f:=AG) (fun _=>rfl) (by omega))) ?_
 refine xo rfl (fun _=>AD rfl underlying39 AQ (vl rfl) (vl rfl) (by omega) (by omega)) ?_
 refine Cx.DP 0 rfl rfl (Ar rfl rfl (vl rfl) (Va rfl) AQ rfl (by rw [A4 (sz:=3) (fun _=>rfl)];simp only [List.length_set];omega) (Aw (f:=AG) (fun _=>rfl) (by simp only [List.length_set];omega))) ?_
 refine Cx.nil ⟨by kernel_rfl,?_⟩
 refine BJ.done Oe (Fin.go (HJ 0 1 4 12 13 rfl ?_))
 refine a2 ?_
 exact Fin.Ho (i2+1) (j2-1) (_)  (⟨⟨⟨⟨by omega,by omega⟩,by omega,by omega⟩,by simp only [List.length_set];exact Of,(Qf LK LL (by omega) (by omega) (by omega) (by omega)).trans Gl⟩,by omega⟩) ⟨ke rfl,ke rfl,ke rfl,ke rfl,ke rfl,trivial⟩ (fun _ _ h=>h)
theorem UT {l:List Az} {c:Az×Az→Int} {b0 cap len:Nat} {sp:List Value} {a b:Int} (Iq:l.length=len) (Jx:len≤1000000) (hw:Go.Sort.SWO (Bs c)) (h0:0≤a) (hab:a<b) (hb:b≤len) (kM:b<50):A5 prog 155 [is (.slice (some ⟨b0,0,none⟩) len cap),int a,int b,GF prog (fun x:Az×Az=>[agg (AG x.1),agg (AG x.2)]) (fun x=>int (c x))] (ex fun z:Bool=>fact (z=true→Go.Sort.SortedIn (Bs c) a.toNat b.toNat l.toArray) (bool z)) (AA true b0 57 ((l.map AG).flatten++sp.map is)) (fun _=>AA true b0 57 ((l.map AG).flatten++sp.map is)):=by
 refine A5.of func155 rfl rfl (by exact Nb rfl) fun M0 w0 S rs M1 w1=> ?_
 refine a3 ?_
 refine Tr.block (Tr.Ca [(0,_),(1,_),(2,_),(3,_)] ⟨ke rfl,ke rfl,ke rfl,ke rfl,trivial⟩ (fun (i:Int) (j:Int)=>[(9,int i),(10,int j)]) (fun (i:Int) (j:Int)=>Hp M0 w0 S (AA true b0 57 ((l.map AG).flatten++sp.map is)::Ak M1 w1::rs)) (fun (i:Int) (j:Int)=>(j=0∧a<i∧i≤b)∧Ut c a i l) (fun (i:Int) (j:Int)=>(5-j).toNat) (a+1) (0)  (⟨⟨rfl,by omega,by omega⟩,Ut.start a l h0⟩) ⟨ke rfl,ke rfl,trivial⟩ (fun _ _ h=>h) ?_)
 rintro i j  ⟨⟨hj0,hi1,hi2⟩,iq⟩
 refine an ?_ ?_<;>intro h1 q1
 skip
 refine ac ?_
 refine Tr.seq (Tr.block (Tr.seq (Tr.block (Tr.BV [(0,_),(1,_),(2,_),(3,_),(10,_)] (SE rfl) (fun i2:Int=>[(9,int i2)]) (fun i2:Int=>(a<i2∧i2≤b)∧Ut c a i2 l) (fun i2:Int=>(b-i2).toNat) i (⟨⟨hi1,hi2⟩,iq⟩) ⟨ke rfl,trivial⟩ ?_))))
 rintro i2 ⟨⟨Yr,hi4⟩,UU⟩
 refine ag ?_ ?_<;>intro h2 q2
 refine ac ?_
 refine cy h2 rfl (AD rfl underlying39 AQ (vl rfl) (vl rfl) (by omega) (by omega)) (cy h2 rfl (Ay 0 rfl (AW rfl BG AQ (vl rfl) (AU (f:=AG) (fun _=>rfl) (by omega)) rfl)) ?_)
 refine ac ?_
 refine cy h2 rfl (AD rfl underlying39 AQ (vl rfl) (vl rfl) (by omega) (by omega)) (cy h2 rfl (Ay 0 rfl (AW rfl BG AQ (vl rfl) (AU (f:=AG) (fun _=>rfl) (by omega)) rfl)) (cy h2 rfl (A6 (_,_) rfl (vl rfl) ⟨ke rfl,ke rfl,trivial⟩) ?_))
 refine ac ?_
 refine JJ 0 1 2 3 9 10 36 rfl ?_
 refine Tr.cn rfl ?_ ?_<;>intro h3 q3
 have:=h3
 refine a2 ?_
 exact Fin.AF (i2+1) ⟨⟨⟨by omega,by omega⟩,UU.go h0 (by omega) rfl (by omega) (by omega) (by assumption)⟩,by omega⟩ (lD rfl)
 have:=h3
 refine ac ?_
 refine an ?_ ?_<;>intro h4 q4
 refine ac ?_
 refine Tr.ret (Fin.AJ (Fin.Ad (Fin.AJ (Fin.AJ (Fin.Ad (Fin.AJ (Fin.CI rfl rfl ?_ (fun _ _ _ _=>rfl))))))))
 · exact Bm true (A8 (fun _=>by rw [show b=i2 by omega];exact UU.sorted hw) (Lr))
 refine a2 ?_
 refine JJ 0 1 2 3 9 10 45 rfl ?_
 refine Tr.cn rfl ?_ ?_<;>intro h5 q5
 refine ac ?_
 refine Tr.ret (Fin.AJ (Fin.Ad (Fin.AJ (Fin.AJ (Fin.Ad (Fin.AJ (Fin.CI rfl rfl ?_ (fun _ _ _ _=>rfl))))))))
 · exact Bm false (A8 (fun h=>nomatch h) (Lr))
 exfalso;omega
 refine ac ?_
 refine JJ 0 1 2 3 9 10 36 rfl ?_
 refine ac ?_
 refine an ?_ ?_<;>intro h6 q6
 refine ac ?_
 refine Tr.ret (Fin.AJ (Fin.Ad (Fin.AJ (Fin.AJ (Fin.Ad (Fin.AJ (Fin.CI rfl rfl ?_ (fun _ _ _ _=>rfl))))))))
 · exact Bm true (A8 (fun _=>by rw [show b=i2 by omega];exact UU.sorted hw) (Lr))
 refine a2 ?_
 refine JJ 0 1 2 3 9 10 45 rfl ?_
 refine Tr.cn rfl ?_ ?_<;>intro h7 q7
 refine ac ?_
 refine Tr.ret (Fin.AJ (Fin.Ad (Fin.AJ (Fin.AJ (Fin.Ad (Fin.AJ (Fin.CI rfl rfl ?_ (fun _ _ _ _=>rfl))))))))
 · exact Bm false (A8 (fun h=>nomatch h) (Lr))
 exfalso;omega
 have hj5:¬j<5:=of_decide_eq_false h1
 exfalso;omega
theorem LM {sb:Nat} {l:List Az} {c:Az×Az→Int} {b0 cap len:Nat} {sp:List Value} {a b:Int} (Iq:l.length=len) (Jx:len≤1000000) (h0:0≤a) (ha:a<len) (h1:0≤b) (hb:b<len):PB prog 214 [is (.slice (some ⟨b0,0,none⟩) len cap),int a,int b,is (.pointer (some ⟨sb,0,none⟩)),GF prog (fun x:Az×Az=>[agg (AG x.1),agg (AG x.2)]) (fun x=>int (c x))] (ex fun z:Int×Int=>fact ((z.1=a∧z.2=b)∨(z.1=b∧z.2=a)) (FZ [int z.1,int z.2])) (AA true sb 3 [Ef .i64]) (AA true sb 3 [Ef .i64]) (AA true b0 57 ((l.map AG).flatten++sp.map is)):=by
 refine PB.of func214 rfl rfl (by exact Nb rfl) fun M0 w0 S rs M1 w1=> ?_
 refine a2 ?_
 refine co rfl (AD rfl underlying39 AQ (vl rfl) (vl rfl) (by omega) (by omega)) (co rfl (Ay 2 rfl (AW rfl BG AQ (vl rfl) (AU (f:=AG) (fun _=>rfl) (by omega)) rfl)) ?_)
 refine ac ?_
 refine co rfl (AD rfl underlying39 AQ (vl rfl) (vl rfl) (by omega) (by omega)) (co rfl (Ay 2 rfl (AW rfl BG AQ (vl rfl) (AU (f:=AG) (fun _=>rfl) (by omega)) rfl)) (co rfl (A6 (_,_) rfl (vl rfl) ⟨ke rfl,ke rfl,trivial⟩) ?_))
 refine an ?_ ?_<;>intro h1 q1
 refine ap ?_
 refine tp rfl (VP rfl (vl rfl) (VL.le (vl rfl) (Jq _ _))) ?_
 refine ap ?_
 refine F8 1 2 rfl ?_
 refine ac ?_
 refine Tr.ret (Fin.AJ (Fin.HB [] rfl (Bc.tmp rfl (Lr)) (Bc.tmp rfl (Lr)) ?_))
 · exact Bm (b,a) (A8 (.inr ⟨rfl,rfl⟩) (Lr))
 refine a2 ?_
 refine F8 10 11 rfl (Tr.ret (Fin.HB [] rfl (Bc.tmp rfl (Lr)) (Bc.tmp rfl (Lr)) ?_))
 · exact Bm (a,b) (A8 (.inl ⟨rfl,rfl⟩) (Lr))
theorem Wc {sb:Nat} {l:List Az} {c:Az×Az→Int} {b0 cap len:Nat} {sp:List Value} {a b d:Int} (Iq:l.length=len) (Jx:len≤1000000) (h0:0≤a) (ha:a<len) (h1:0≤b) (hb:b<len) (h2:0≤d) (hd:d<len):PB prog 190 [is (.slice (some ⟨b0,0,none⟩) len cap),int a,int b,int d,is (.pointer (some ⟨sb,0,none⟩)),GF prog (fun x:Az×Az=>[agg (AG x.1),agg (AG x.2)]) (fun x=>int (c x))] (ex fun z:Int=>fact (z=a∨z=b∨z=d) (int z)) (AA true sb 3 [Ef .i64]) (AA true sb 3 [Ef .i64]) (AA true b0 57 ((l.map AG).flatten++sp.map is)):=by
 refine PB.of func190 rfl rfl (by exact Nb rfl) fun M0 w0 S rs M1 w1=> ?_
 refine ac ?_
 refine ap ?_
 refine TO.Qd 0 2 rfl rfl (by decide) rfl rfl (by decide) rfl (LM (by omega) (by omega) (by omega) (by omega) (by omega) (by omega)) ⟨ke rfl,ke rfl,ke rfl,ke rfl,ke rfl,trivial⟩ ?_
 refine TO.ex 19 rfl (fun z1=>TO.fact 19 rfl fun LW=> ?_)
 refine ap ?_
 refine ap ?_
 refine TO.Qd 0 2 rfl rfl (by decide) rfl rfl (by decide) rfl (LM (by omega) (by omega) (by omega) (by omega) (by omega) (by omega)) ⟨ke rfl,ke rfl,ke rfl,ke rfl,ke rfl,trivial⟩ ?_
 refine TO.ex 28 rfl (fun z2=>TO.fact 28 rfl fun QH=> ?_)
 refine ap ?_
 refine HJ 0 1 2 4 5 rfl ?_
 refine ap ?_
 refine TO.Qd 0 2 rfl rfl (by decide) rfl rfl (by decide) rfl (LM (by omega) (by omega) (by omega) (by omega) (by omega) (by omega)) ⟨ke rfl,ke rfl,ke rfl,ke rfl,ke rfl,trivial⟩ ?_
 refine TO.ex 37 rfl (fun z3=>TO.fact 37 rfl fun mT=> ?_)
 refine ap ?_
 refine Cg 2 rfl ?_
 refine ac ?_
 refine Tr.ret (Fin.CI rfl rfl ?_ (fun _ _ _ _=>rfl))
 · exact Bm _ (A8 (by omega) (Lr))
theorem Wd {l:List Az} {c:Az×Az→Int} {b0 cap len:Nat} {sp:List Value} {a b:Int} (Iq:l.length=len) (Jx:len≤1000000) (h0:0≤a) (hab:a<b) (hb:b≤len) (kM:b<50):A5 prog 153 [is (.slice (some ⟨b0,0,none⟩) len cap),int a,int b,GF prog (fun x:Az×Az=>[agg (AG x.1),agg (AG x.2)]) (fun x=>int (c x))] (ex fun z:Int×Int=>fact (a≤z.1∧z.1<b) (FZ [int z.1,int z.2])) (AA true b0 57 ((l.map AG).flatten++sp.map is)) (fun _=>AA true b0 57 ((l.map AG).flatten++sp.map is)):=by
 refine A5.of func153 rfl rfl (by exact Nb rfl) fun M0 w0 S rs M1 w1=> ?_
 have hq:=XG (n:=b-a) (by omega) (by omega)
 obtain ⟨hq1,SN,f_⟩:=hq
 refine a2 ?_
 refine Tr.seq (Tr.Cq ?_)
 refine Tl rfl rfl rfl rfl z3 jW (fun b1=> ?_)
 refine ap ?_
 refine ac ?_
 refine co rfl (EK rfl (vl rfl) (vl rfl) (by omega)) ?_
 refine co rfl (Ib rfl (vl rfl) (vl rfl) ?hin) ?_;case hin=>unfold Em;omega
 refine ac ?_
 refine FK 0 1 3 10 11 12 rfl ?_
 refine ac ?_
 refine co rfl (EK rfl (vl rfl) (vl rfl) (by omega)) ?_
 refine co rfl (Ib rfl (vl rfl) (vl rfl) ?hin) ?_;case hin=>unfold Em;omega
 refine a2 ?_
 refine co rfl (EK rfl (vl rfl) (vl rfl) (by omega)) ?_
 refine co rfl (Ib rfl (vl rfl) (vl rfl) ?hin) ?_;case hin=>unfold Em;omega
 refine ac ?_
 refine JJ 0 3 10 11 12 13 14 rfl ?_
 refine an ?_ ?_<;>intro h1 q1
 refine an ?_ ?_<;>intro h2 q2
 exfalso;omega
 refine ac ?_
 refine Tr.au 0 [Ef .i64] rfl ⟨Jq _ _,trivial⟩ ?_
 refine ap ?_
 refine TO.Qd 0 1 rfl rfl (by decide) rfl rfl (by decide) rfl (Wc (by omega) (by omega) (by omega) (by omega) (by omega) (by omega) (by omega) (by omega)) ⟨ke rfl,ke rfl,ke rfl,ke rfl,ke rfl,ke rfl,trivial⟩ ?_
 refine TO.ex 54 rfl (fun z1=>TO.fact 54 rfl fun LW=> ?_)
 refine ap ?_
 refine F8 11 13 rfl ?_
 refine ac ?_
 refine Tr.drop 0 (Tr.block (Tr.seq (Tr.ex 55 rfl fun sw=> ?_)))
 refine an ?_ ?_<;>intro h3 q3
 refine ac ?_
 refine Tr.ret (Fin.Ad (Fin.HB [] rfl (Bc.tmp rfl (Lr)) (Bc.tmp rfl (Lr)) ?_))
 · exact Bm (_,_) (A8 ⟨by omega,by omega⟩ (Lr))
 refine an ?_ ?_<;>intro h4 q4
 refine ac ?_
 refine Tr.ret (Fin.Ad (Fin.HB [] rfl (Bc.tmp rfl (Lr)) (Bc.tmp rfl (Lr)) ?_))
 · exact Bm (_,_) (A8 ⟨by omega,by omega⟩ (Lr))
 refine ac ?_
 refine Tr.ret (Fin.Ad (Fin.HB [] rfl (Bc.tmp rfl (Lr)) (Bc.tmp rfl (Lr)) ?_))
 · exact Bm (_,_) (A8 ⟨by omega,by omega⟩ (Lr))
 refine ac ?_
 refine Tr.seq (Tr.au 0 [Ef .i64] rfl ⟨Jq _ _,trivial⟩ ?_)
 refine ac ?_
 refine Tr.drop 0 (Tr.block (Tr.seq (Tr.ex 55 rfl fun sw=> ?_)))
 refine an ?_ ?_<;>intro h5 q5
 refine ac ?_
 refine F8 8 9 rfl (Tr.ret (Fin.Ad (Fin.HB [] rfl (Bc.tmp rfl (Lr)) (Bc.tmp rfl (Lr)) ?_)))
 · exact Bm (_,_) (A8 ⟨by omega,by omega⟩ (Lr))
 refine ac ?_
 refine F8 13 60 rfl ?_
 refine Tr.cn rfl ?_ ?_<;>intro h6 q6
 refine ac ?_
 refine Tr.ret (Fin.Ad (Fin.HB [] rfl (Bc.tmp rfl (Lr)) (Bc.tmp rfl (Lr)) ?_))
 · exact Bm (_,_) (A8 ⟨by omega,by omega⟩ (Lr))
 refine ac ?_
 refine Tr.ret (Fin.Ad (Fin.HB [] rfl (Bc.tmp rfl (Lr)) (Bc.tmp rfl (Lr)) ?_))
 · exact Bm (_,_) (A8 ⟨by omega,by omega⟩ (Lr))
theorem We {l:List Az} {c:Az×Az→Int} {b0 cap len:Nat} {sp:List Value} {a b:Int} (Iq:l.length=len) (Jx:len≤1000000) (h0:0≤a) (hab:a≤b) (hb:b≤len) (kM:b<50):A5 prog 152 [is (.slice (some ⟨b0,0,none⟩) len cap),int a,int b,GF prog (fun x:Az×Az=>[agg (AG x.1),agg (AG x.2)]) (fun x=>int (c x))] (Dd) (AA true b0 57 ((l.map AG).flatten++sp.map is)) (fun _=>CU b0 57 AG (CM a b l) (sp.map is)):=by
 refine A5.of func152 rfl rfl (by exact Nb rfl) fun M0 w0 S rs M1 w1=> ?_
 have hq:=XG (n:=b-a) (by omega) (by omega)
 obtain ⟨hq1,SN,f_⟩:=hq
 refine ac ?_
 refine an ?_ ?_<;>intro h1 q1
 refine ap ?_
 refine tp rfl (Er rfl underlying3 underlying189 (vl rfl)) ?_
 refine Tl rfl rfl rfl rfl fk aN (fun b1=> ?_)
 refine ap ?_
 refine Tr.seq (Tr.au 0 [Ef .u64] rfl ⟨Jq _ _,trivial⟩ ?_)
 refine ap ?_
 refine tp rfl (Eh (Yl (by omega) (by omega)) rfl rfl) ?_
 refine TO.ex 21 rfl (fun md=>TO.fact 21 rfl fun mU=> ?_)
 obtain ⟨mV,mW⟩:=mU
 have hwm:IntKind.u64.wrap (md-1)=md-1:=IntWalk.u64_in _ ⟨by omega,by omega⟩
 refine ap ?_
 refine ac ?_
 refine co rfl (EK rfl (vl rfl) (vl rfl) (by omega)) ?_
 refine co rfl (Ib rfl (vl rfl) (vl rfl) ?hin) ?_;case hin=>unfold Em;omega
 refine ac ?_
 refine FK 0 1 8 9 10 11 rfl (Tr.block (Tr.Ca [(0,_),(1,_),(8,_),(9,_),(10,_)] ⟨ke rfl,ke rfl,ke rfl,ke rfl,ke rfl,trivial⟩ (fun (i:Int) (st:List Az)=>[(11,int i)]) (fun (i:Int) (st:List Az)=>Hp M0 w0 S (AA true b1 189 [Ef .u64]::AA true b0 57 ((st.map AG).flatten++sp.map is)::Ak M1 w1::rs)) (fun (i:Int) (st:List Az)=>(a≤i∧i≤b)∧st.length=len∧CM a b l st) (fun (i:Int) (st:List Az)=>(b-i).toNat) (a+IntKind.i64.wrap ((b-a).tdiv 4)*2-1) (l)  (⟨⟨by omega,by omega⟩,by omega,CM.refl _ _ _⟩) ⟨ke rfl,trivial⟩ (fun _ _ h=>h) ?_))
 rintro i st  ⟨⟨hi1,hi2⟩,Of,Gl⟩
 refine ac ?_
 refine co rfl (EK rfl (vl rfl) (vl rfl) (by omega)) ?_
 refine co rfl (Ib rfl (vl rfl) (vl rfl) ?hin) ?_;case hin=>unfold Em;omega
 refine ac ?_
 refine JJ 0 1 8 9 10 11 35 rfl ?_
 refine Tr.cn rfl ?_ ?_<;>intro h2 q2
 have:=h2
 refine ac ?_
 refine Tr.seq (Tr.block (Tr.seq (Tr.Cq (TO.DZ 0 rfl rfl (by decide) (Ab rfl rfl (by decide) rfl (Vv) ⟨ke rfl,trivial⟩) ?_))))
 refine ap ?_
 refine tp rfl (Sx rfl (vl rfl) (vl rfl) (by omega) (by omega)) ?_
 refine TO.ex 41 rfl (fun z1=>TO.fact 41 rfl fun LW=> ?_)
 refine tp rfl (KM rfl underlying137 underlying3 (vl rfl) (by unfold Em;omega)) ?_
 refine ap ?_
 refine Tr.Mr [(0,_),(1,_),(8,_),(9,_),(10,_),(11,_)] ⟨ke rfl,ke rfl,ke rfl,ke rfl,ke rfl,ke rfl,trivial⟩ (fun (ot:Int)=>[(12,int ot)]) (fun (ot:Int)=>Hp M0 w0 S (AA true b1 189 [Ef .u64]::AA true b0 57 ((st.map AG).flatten++sp.map is)::Ak M1 w1::rs)) (fun (ot:Int)=>0≤ot∧ot<b-a) ?_ ?_
 refine ac ?_
 refine LZ 0 1 8 9 10 11 12 45 rfl ?_
 refine Tr.cn rfl ?_ ?_<;>intro h3 q3
 refine ac ?_
 exact Fin.Ds (_)  (⟨by omega,by omega⟩) ⟨ke rfl,ke rfl,ke rfl,ke rfl,ke rfl,ke rfl,ke rfl,trivial⟩ (fun _ _ h=>h)
 refine Tr.skip (Fin.Ds (_)  (⟨by omega,by omega⟩) ⟨ke rfl,ke rfl,ke rfl,ke rfl,ke rfl,ke rfl,ke rfl,trivial⟩ (fun _ _ h=>h))
 rintro ot  ⟨mX,mY⟩
 refine Tr.rx ?_
 refine ay ?_
 refine xo rfl (fun _=>AD rfl underlying39 AQ (vl rfl) (vl rfl) (by omega) (by omega)) (DI 1 rfl rfl (AW rfl BG AQ (vl rfl) (AU (f:=AG) (fun _=>rfl) (by omega)) rfl) ?_)
 refine ay ?_
 refine xo rfl (fun _=>AD rfl underlying39 AQ (vl rfl) (vl rfl) (by omega) (by omega)) (DI 1 rfl rfl (AW rfl BG AQ (vl rfl) (AU (f:=AG) (fun _=>rfl) (by omega)) rfl) (xo rfl (fun _=>AD rfl underlying39 AQ (vl rfl) (vl rfl) (by omega) (by omega)) ?_))
 refine Cx.DP 1 rfl rfl (Ar rfl rfl (vl rfl) (Va rfl) AQ rfl (by rw [A4 (sz:=3) (fun _=>rfl)];omega) (Aw (f:=AG) (fun _=>rfl) (by omega))) ?_
 refine xo rfl (fun _=>AD rfl underlying39 AQ (vl rfl) (vl rfl) (by omega) (by omega)) ?_
 refine Cx.DP 1 rfl rfl (Ar rfl rfl (vl rfl) (Va rfl) AQ rfl (by rw [A4 (sz:=3) (fun _=>rfl)];simp only [List.length_set];omega) (Aw (f:=AG) (fun _=>rfl) (by simp only [List.length_set];omega))) ?_
 refine Cx.nil ⟨by kernel_rfl,?_⟩
 refine BJ.done gr ?_
 refine ac ?_
 refine FK 0 1 8 9 10 11 rfl ?_
 refine ac ?_
 exact Fin.Bw (i+1) (_)  (⟨⟨⟨by omega,by omega⟩,by simp only [List.length_set];exact Of,Gl.swap (by omega) (by omega) (by omega) (by omega) (by omega) (by omega) (by omega)⟩,by omega⟩) ⟨ke rfl,ke rfl,ke rfl,ke rfl,ke rfl,ke rfl,trivial⟩ (fun _ _ h=>h)
 have:=h2
 refine Tr.exit (Fin.AK (Fin.AK (Fin.Aa (Fin.CL (CM a b l) 1 rfl (by exact Gl) ?_))))
 refine Fin.drop 0 (Fin.JK rfl)
 refine Tr.skip (Fin.CL (CM a b l) 0 rfl (by exact CM.refl _ _ _) ?_)
 exact Fin.JK rfl
theorem UW {l:List Az} {c:Az×Az→Int} {b0 cap len:Nat} {sp:List Value} {a b SI:Int} (Iq:l.length=len) (Jx:len≤1000000) (hw:Go.Sort.SWO (Bs c)) (dH:len<50) (hB:Go.Sort.Below (Bs c) a.toNat b.toNat l.toArray) (h0:0≤a) (hab:a≤b) (hb:b≤len) (PT:0≤SI) (ir:SI≤100) (m:Nat) (hm:(b-a).toNat<m) (ih:∀{l:List Az} {a b SI:Int} {sp:List Value},l.length=len→Go.Sort.Below (Bs c) a.toNat b.toNat l.toArray→0≤a→a≤b→b≤len→0≤SI→SI≤100→(b-a).toNat+1<m→A5 prog 99 [is (.slice (some ⟨b0,0,none⟩) len cap),int a,int b,int SI,GF prog (fun x:Az×Az=>[agg (AG x.1),agg (AG x.2)]) (fun x=>int (c x))] (Dd) (AA true b0 57 ((l.map AG).flatten++sp.map is)) (fun _=>CU b0 57 AG (De c a b l) (sp.map is)))  :A5 prog 99 [is (.slice (some ⟨b0,0,none⟩) len cap),int a,int b,int SI,GF prog (fun x:Az×Az=>[agg (AG x.1),agg (AG x.2)]) (fun x=>int (c x))] (Dd) (AA true b0 57 ((l.map AG).flatten++sp.map is)) (fun _=>CU b0 57 AG (De c a b l) (sp.map is)):=by
 refine A5.of func99 rfl rfl (by exact Nb rfl) fun M0 w0 S rs M1 w1=> ?_
 have hls:b.toNat≤l.toArray.size:=by simp only [List.size_toArray];omega
 refine a2 ?_
 refine Tr.block (Tr.Sl [(0,_),(4,_)] ⟨ke rfl,ke rfl,trivial⟩ (fun (a1:Int) (b1:Int) (p:Int×Bool×Bool) (st:List Az)=>[(1,int a1),(2,int b1),(3,int p.1),(10,bool p.2.1),(11,bool p.2.2)]) (fun (a1:Int) (b1:Int) (p:Int×Bool×Bool) (st:List Az)=>Hp M0 w0 S (AA true b0 57 ((st.map AG).flatten++sp.map is)::Ak M1 w1::rs)) (fun (a1:Int) (b1:Int) (p:Int×Bool×Bool) (st:List Az)=>((a≤a1∧a1≤b1∧b1≤b)∧0≤p.1∧p.1≤100)∧st.length=len∧PS (Bs c) a.toNat b.toNat a1.toNat b1.toNat l.toArray st.toArray) (fun (a1:Int) (b1:Int) (p:Int×Bool×Bool) (st:List Az)=>(b1-a1).toNat) (a) (b) ((SI,(true,true))) (l)  (⟨⟨⟨by omega,hab,by omega⟩,PT,ir⟩,Iq,PS.init (by omega) hB⟩) ⟨ke rfl,ke rfl,ke rfl,ke rfl,ke rfl,trivial⟩ (fun _ _ h=>h) ?_)
 rintro a1 b1 p st  ⟨⟨⟨ha1,ha2,ha3⟩,ZT,Y8⟩,Of,hps⟩
 refine ac ?_
 refine an ?_ ?_<;>intro h1 q1
 refine ap ?_
 refine TO.DZ 0 rfl rfl (by decide) (Ab rfl rfl (by decide) rfl (WZ (by omega) (by omega) hw (by omega) (by omega) (by omega)) ⟨ke rfl,ke rfl,ke rfl,ke rfl,trivial⟩) (TO.DC 0 rfl fun t1 F_=> ?_)
 have Y6:=F_.len
 have hdone:=(hps.perm hls F_.1).done F_.2
 refine ap ?_
 refine Tr.weak [] trivial (Tr.ret (Fin.AJ (Fin.Ad (Fin.AJ (Fin.Ad (Fin.CL (De c a b l) 0 rfl (hdone) (Fin.Ip rfl)))))))
 refine a2 ?_
 refine Xk 0 1 2 3 4 10 11 12 32 rfl ?_
 refine Tr.cn rfl ?_ ?_<;>intro h2 q2
 refine ap ?_
 refine TO.DZ 0 rfl rfl (by decide) (Ab rfl rfl (by decide) rfl (UQ (by omega) (by omega) hw (by omega) (by omega) (by omega)) ⟨ke rfl,ke rfl,ke rfl,ke rfl,trivial⟩) (TO.DC 0 rfl fun t2 Nk=> ?_)
 have Y8:=Nk.len
 have hdone:=(hps.perm hls Nk.1).done Nk.2
 refine ap ?_
 refine Tr.weak [] trivial (Tr.ret (Fin.AJ (Fin.Ad (Fin.AJ (Fin.Ad (Fin.CL (De c a b l) 0 rfl (hdone) (Fin.Ip rfl)))))))
 refine ac ?_
 refine Tr.VT [(0,_),(1,_),(2,_),(4,_),(10,_),(11,_),(12,_)] ⟨ke rfl,ke rfl,ke rfl,ke rfl,ke rfl,ke rfl,ke rfl,trivial⟩ (fun (LN:Int) (IX:List Az)=>[(3,int LN)]) (fun (LN:Int) (IX:List Az)=>Hp M0 w0 S (AA true b0 57 ((IX.map AG).flatten++sp.map is)::Ak M1 w1::rs)) (fun (LN:Int) (IX:List Az)=>0≤LN∧LN≤100∧IX.length=len∧PS (Bs c) a.toNat b.toNat a1.toNat b1.toNat l.toArray IX.toArray) ?_ ?_
 refine an ?_ ?_<;>intro h3 q3
 refine ap ?_
 refine TO.DZ 0 rfl rfl (by decide) (Ab rfl rfl (by decide) rfl (We (by omega) (by omega) (by omega) (by omega) (by omega) (by omega)) ⟨ke rfl,ke rfl,ke rfl,ke rfl,trivial⟩) (TO.DC 0 rfl fun t3 kN=> ?_)
 have mZ:=kN.len
 have hps:=hps.perm hls kN
 refine ap ?_
 refine LZ 0 1 2 3 4 10 11 12 rfl ?_
 refine ac ?_
 exact Fin.Bw (_) (_)  (⟨by omega,by omega,by omega,hps⟩) ⟨ke rfl,ke rfl,ke rfl,ke rfl,ke rfl,ke rfl,ke rfl,ke rfl,trivial⟩ (fun _ _ h=>h)
 refine Tr.skip (Fin.Bw (_) (_)  (⟨by omega,by omega,by omega,hps⟩) ⟨ke rfl,ke rfl,ke rfl,ke rfl,ke rfl,ke rfl,ke rfl,ke rfl,trivial⟩ (fun _ _ h=>h))
 rintro LN IX  ⟨UX,UY,UP,hps⟩
 refine ap ?_
 refine TO.DZ 0 rfl rfl (by decide) (Ab rfl rfl (by decide) rfl (Wd (by omega) (by omega) (by omega) (by omega) (by omega) (by omega)) ⟨ke rfl,ke rfl,ke rfl,ke rfl,trivial⟩) ?_
 refine TO.ex 52 rfl (fun z1=>TO.fact 52 rfl fun LW=> ?_)
 obtain ⟨iw,iy⟩:=LW
 refine ap ?_
 refine FL 0 1 2 3 4 10 11 12 13 14 rfl (Tr.VU [(0,_),(1,_),(2,_),(3,_),(4,_),(10,_),(11,_),(12,_)] ⟨ke rfl,ke rfl,ke rfl,ke rfl,ke rfl,ke rfl,ke rfl,ke rfl,trivial⟩ (fun (pv:Int) (hint:Int) (XV:List Az)=>[(13,int pv),(14,int hint)]) (fun (pv:Int) (hint:Int) (XV:List Az)=>Hp M0 w0 S (AA true b0 57 ((XV.map AG).flatten++sp.map is)::Ak M1 w1::rs)) (fun (pv:Int) (hint:Int) (XV:List Az)=>(a1≤pv∧pv<b1)∧XV.length=len∧PS (Bs c) a.toNat b.toNat a1.toNat b1.toNat l.toArray XV.toArray) ?_ ?_)
 refine an ?_ ?_<;>intro h4 q4
 refine ap ?_
 refine TO.DZ 0 rfl rfl (by decide) (Ab rfl rfl (by decide) rfl (Wa (by omega) (by omega) (by omega) (by omega) (by omega)) ⟨ke rfl,ke rfl,ke rfl,ke rfl,trivial⟩) (TO.DC 0 rfl fun t5 kO=> ?_)
 have me:=kO.len
 have hps:=hps.perm hls kO
 refine ap ?_
 refine Xk 0 1 2 3 4 10 11 12 13 rfl ?_
 refine ac ?_
 refine Xk 0 1 2 3 4 10 11 12 13 rfl ?_
 refine ac ?_
 exact Fin.Ho (_) (_) (_)  (⟨⟨by omega,by omega⟩,by omega,hps⟩) ⟨ke rfl,ke rfl,ke rfl,ke rfl,ke rfl,ke rfl,ke rfl,ke rfl,ke rfl,ke rfl,trivial⟩ (fun _ _ h=>h)
 refine Tr.skip (Fin.Ho (_) (_) (_)  (⟨⟨by omega,by omega⟩,by omega,hps⟩) ⟨ke rfl,ke rfl,ke rfl,ke rfl,ke rfl,ke rfl,ke rfl,ke rfl,ke rfl,ke rfl,trivial⟩ (fun _ _ h=>h))
 rintro pv hint XV  ⟨⟨iw,iy⟩,mg,hps⟩
 refine FL 0 1 2 3 4 10 11 12 13 14 rfl (Tr.KE [0,1,2,3,4,10,11,12,13] [] (True) ?_ (fun h5=> ?_))
 refine ag ?_ ?_<;>intro h6 q6
 refine ag ?_ ?_<;>intro h7 q7
 refine ac ?_
 refine FL 0 1 2 3 4 10 11 12 13 75 rfl ?_
 refine Tr.cn rfl ?_ ?_<;>intro h8 q8
 refine ap ?_
 refine TO.DZ 0 rfl rfl (by decide) (Ab rfl rfl (by decide) rfl (UT (by omega) (by omega) hw (by omega) (by omega) (by omega) (by omega)) ⟨ke rfl,ke rfl,ke rfl,ke rfl,trivial⟩) ?_
 refine TO.ex 80 rfl (fun z2=>TO.fact 80 rfl fun QH=> ?_)
 have QM:=QH
 refine ap ?_
 refine FL 0 1 2 3 4 10 11 12 13 80 rfl ?_
 refine Tr.cn rfl ?_ ?_<;>intro h9 q9
 have hdone:=hps.done (QM h9)
 refine Tr.ret (Fin.AJ (Fin.Ad (Fin.AJ (Fin.Ad (Fin.CL (De c a b l) 0 rfl (hdone) (Fin.Ip rfl))))))
 refine Tr.skip (Fin.AF () (by simp_all) (dw rfl))
 refine Tr.skip (Fin.AF () (by simp_all) (dw rfl))
 refine ac ?_
 refine FL 0 1 2 3 4 10 11 12 13 75 rfl (Tr.cond rfl (fun h=>nomatch h) (fun _=> ?_))
 refine Tr.skip (Fin.AF () (by simp_all) (dw rfl))
 refine ac ?_
 refine FL 0 1 2 3 4 10 11 12 13 75 rfl (Tr.cond rfl (fun h=>nomatch h) (fun _=> ?_))
 refine Tr.skip (Fin.AF () (by simp_all) (dw rfl))
 refine ag ?_ ?_<;>intro h10 XK
 refine ac ?_
 refine cy h10 rfl (AD rfl underlying39 AQ (vl rfl) (vl rfl) (by omega) (by omega)) (cy h10 rfl (Ay 0 rfl (AW rfl BG AQ (vl rfl) (AU (f:=AG) (fun _=>rfl) (by omega)) rfl)) ?_)
 refine ac ?_
 refine cy h10 rfl (AD rfl underlying39 AQ (vl rfl) (vl rfl) (by omega) (by omega)) (cy h10 rfl (Ay 0 rfl (AW rfl BG AQ (vl rfl) (AU (f:=AG) (fun _=>rfl) (by omega)) rfl)) (cy h10 rfl (A6 (_,_) rfl (vl rfl) ⟨ke rfl,ke rfl,trivial⟩) ?_))
 refine ac ?_
 refine FL 0 1 2 3 4 10 11 12 13 97 rfl ?_
 refine Tr.cn rfl ?_ ?_<;>intro h11 Zd
 refine ap ?_
 refine TO.DZ 0 rfl rfl (by decide) (Ab rfl rfl (by decide) rfl (Wb (by omega) (by omega) (by omega) (by omega) (by omega) (by omega) (by omega)) ⟨ke rfl,ke rfl,ke rfl,ke rfl,ke rfl,trivial⟩) (TO.DC 0 rfl fun t7 kP=> ?_)
 have mh:=kP.len
 obtain ⟨hps,hk1,hk2⟩:=hps.lJ hw hls kP (by omega) (by omega) rfl (by omega) (by omega) (by omega) (by omega) (by omega) (by assumption)
 refine ap ?_
 refine JJ 0 2 3 4 10 11 15 rfl ?_
 refine ac ?_
 refine Tr.exit (Fin.AK (Fin.Aa (Fin.C2 (_) (_) ((LN,(_,_))) (_)  (⟨⟨⟨⟨by omega,by omega,by omega⟩,UX,UY⟩,by omega,by exact hps⟩,by omega⟩) ⟨ke rfl,ke rfl,ke rfl,ke rfl,ke rfl,ke rfl,ke rfl,trivial⟩ (fun _ _ h=>h))))
 refine ac ?_
 refine ap ?_
 refine TO.DZ 0 rfl rfl (by decide) (Ab rfl rfl (by decide) rfl (OW (by omega) (by omega) (by omega) (by omega) (by omega) (by omega) (by omega)) ⟨ke rfl,ke rfl,ke rfl,ke rfl,ke rfl,trivial⟩) ?_
 refine TO.ex 111 rfl (fun z3=>TO.fact 111 rfl fun mT=> ?_)
 refine TO.DC 0 rfl fun t8 kQ=> ?_
 have mj:=kQ.len
 obtain ⟨iz,R3⟩:=Ls hw kQ (by omega) (by omega) (by omega) (by omega)
 have hps:=hps.perm hls iz
 have hk1:=R3.h1
 have hk2:=R3.h2
 generalize (PA c a1 b1 pv XV).1=k at*
 refine ap ?_
 refine LZ 0 1 2 3 4 12 16 17 rfl ?_
 refine a2 ?_
 refine FL 0 1 2 3 4 11 12 16 18 19 rfl ?_
 refine ac ?_
 refine co rfl (EK rfl (vl rfl) (vl rfl) (by omega)) ?_
 refine a2 ?_
 refine Xl 0 1 2 3 4 11 16 18 19 20 125 rfl ?_
 refine Tr.cn rfl ?_ ?_<;>intro h12 YY
 refine ac ?_
 refine LZ 0 1 2 3 4 10 11 16 rfl ?_
 refine ap ?_
 refine TO.DZ 0 rfl rfl (by decide) (Ab rfl rfl (by decide) rfl (ih (by omega) (by exact hps.S4 (Nat.le_of_lt R3.h2)) (by omega) (by omega) (by omega) (by omega) (by omega) (by omega)) ⟨ke rfl,ke rfl,ke rfl,ke rfl,ke rfl,trivial⟩) ?_
 refine TO.DC 0 rfl fun t9 i6=> ?_
 have mm:=i6.len
 have hps:=hps.left hw hls R3 i6.1 i6.2
 refine ap ?_
 refine JJ 0 2 3 4 10 11 16 rfl ?_
 refine ac ?_
 exact Fin.C2 (_) (_) ((LN,(_,_))) (_)  (⟨⟨⟨⟨by omega,by omega,by omega⟩,UX,UY⟩,by omega,by exact hps⟩,by omega⟩) ⟨ke rfl,ke rfl,ke rfl,ke rfl,ke rfl,ke rfl,ke rfl,trivial⟩ (fun _ _ h=>h)
 refine ac ?_
 refine LZ 0 1 2 3 4 10 11 16 rfl ?_
 refine ap ?_
 refine TO.DZ 0 rfl rfl (by decide) (Ab rfl rfl (by decide) rfl (ih (by omega) (by exact R3.S5) (by omega) (by omega) (by omega) (by omega) (by omega) (by omega)) ⟨ke rfl,ke rfl,ke rfl,ke rfl,ke rfl,trivial⟩) ?_
 refine TO.DC 0 rfl fun t10 ZA=> ?_
 have kR:=ZA.len
 have hps:=hps.right hw hls R3 ZA.1 ZA.2
 refine ap ?_
 refine JJ 0 1 3 4 10 11 16 rfl ?_
 refine ac ?_
 exact Fin.C2 (_) (_) ((LN,(_,_))) (_)  (⟨⟨⟨⟨by omega,by omega,by omega⟩,UX,UY⟩,by omega,by exact hps⟩,by omega⟩) ⟨ke rfl,ke rfl,ke rfl,ke rfl,ke rfl,ke rfl,ke rfl,trivial⟩ (fun _ _ h=>h)
 refine ac ?_
 refine FL 0 1 2 3 4 10 11 12 13 97 rfl ?_
 refine ac ?_
 refine ap ?_
 refine TO.DZ 0 rfl rfl (by decide) (Ab rfl rfl (by decide) rfl (OW (by omega) (by omega) (by omega) (by omega) (by omega) (by omega) (by omega)) ⟨ke rfl,ke rfl,ke rfl,ke rfl,ke rfl,trivial⟩) ?_
 refine TO.ex 111 rfl (fun z4=>TO.fact 111 rfl fun hz4=> ?_)
 refine TO.DC 0 rfl fun t11 dI=> ?_
 have kS:=dI.len
 obtain ⟨iz,R3⟩:=Ls hw dI (by omega) (by omega) (by omega) (by omega)
 have hps:=hps.perm hls iz
 have hk1:=R3.h1
 have hk2:=R3.h2
 generalize (PA c a1 b1 pv XV).1=k at*
 refine ap ?_
 refine LZ 0 1 2 3 4 12 16 17 rfl ?_
 refine a2 ?_
 refine FL 0 1 2 3 4 11 12 16 18 19 rfl ?_
 refine ac ?_
 refine co rfl (EK rfl (vl rfl) (vl rfl) (by omega)) ?_
 refine a2 ?_
 refine Xl 0 1 2 3 4 11 16 18 19 20 125 rfl ?_
 refine Tr.cn rfl ?_ ?_<;>intro Od cB
 refine ac ?_
 refine LZ 0 1 2 3 4 10 11 16 rfl ?_
 refine ap ?_
 refine TO.DZ 0 rfl rfl (by decide) (Ab rfl rfl (by decide) rfl (ih (by omega) (by exact hps.S4 (Nat.le_of_lt R3.h2)) (by omega) (by omega) (by omega) (by omega) (by omega) (by omega)) ⟨ke rfl,ke rfl,ke rfl,ke rfl,ke rfl,trivial⟩) ?_
 refine TO.DC 0 rfl fun t12 ZB=> ?_
 have kT:=ZB.len
 have hps:=hps.left hw hls R3 ZB.1 ZB.2
 refine ap ?_
 refine JJ 0 2 3 4 10 11 16 rfl ?_
 refine ac ?_
 exact Fin.C2 (_) (_) ((LN,(_,_))) (_)  (⟨⟨⟨⟨by omega,by omega,by omega⟩,UX,UY⟩,by omega,by exact hps⟩,by omega⟩) ⟨ke rfl,ke rfl,ke rfl,ke rfl,ke rfl,ke rfl,ke rfl,trivial⟩ (fun _ _ h=>h)
 refine ac ?_
 refine LZ 0 1 2 3 4 10 11 16 rfl ?_
 refine ap ?_
 refine TO.DZ 0 rfl rfl (by decide) (Ab rfl rfl (by decide) rfl (ih (by omega) (by exact R3.S5) (by omega) (by omega) (by omega) (by omega) (by omega) (by omega)) ⟨ke rfl,ke rfl,ke rfl,ke rfl,ke rfl,trivial⟩) ?_
 refine TO.DC 0 rfl fun t13 ZC=> ?_
 have kU:=ZC.len
 have hps:=hps.right hw hls R3 ZC.1 ZC.2
 refine ap ?_
 refine JJ 0 1 3 4 10 11 16 rfl ?_
 refine ac ?_
 exact Fin.C2 (_) (_) ((LN,(_,_))) (_)  (⟨⟨⟨⟨by omega,by omega,by omega⟩,UX,UY⟩,by omega,by exact hps⟩,by omega⟩) ⟨ke rfl,ke rfl,ke rfl,ke rfl,ke rfl,ke rfl,ke rfl,trivial⟩ (fun _ _ h=>h)
theorem Q8:∀(m:Nat) {l:List Az} {c:Az×Az→Int} {b0 cap len:Nat} {sp:List Value} {a b SI:Int},(Iq:l.length=len)→(Jx:len≤1000000)→(hw:Go.Sort.SWO (Bs c))→(dH:len<50)→Go.Sort.Below (Bs c) a.toNat b.toNat l.toArray→0≤a→a≤b→b≤len→0≤SI→SI≤100→(b-a).toNat<m→A5 Tryz.prog 99 [is (.slice (some ⟨b0,0,none⟩) len cap),int a,int b,int SI,GF Tryz.prog (fun x:Az×Az=>[agg (AG x.1),agg (AG x.2)]) (fun x=>int (c x))] (Dd) (AA true b0 57 ((l.map AG).flatten++sp.map is)) (fun _=>CU b0 57 AG (De c a b l) (sp.map is))
 |0,_,_,_,_,_,_,_,_,_,_,_,_,_,_,_,_,_,_,_,h=>absurd h (Nat.not_lt_zero _)
 |m+1,_,_,_,_,_,_,_,_,_,Iq,Jx,hw,dH,hB,h0,hab,hb,PT,ir,hm=>UW Iq Jx hw dH hB h0 hab hb PT ir (m+1) hm (fun h1 h2 h3 h4 h5 h6 h7 h8=>Q8 m h1 Jx hw dH h2 h3 h4 h5 h6 h7 (by omega))
theorem Wf {l:List Az} {c:Az×Az→Int} {b0 cap len:Nat} {sp:List Value}  (Iq:l.length=len) (hw:Go.Sort.SWO (Bs c)) (dH:len<50):A5 prog 56 [is (.slice (some ⟨b0,0,none⟩) len cap),GF prog (fun x:Az×Az=>[agg (AG x.1),agg (AG x.2)]) (fun x=>int (c x))] (Dd) (AA true b0 57 ((l.map AG).flatten++sp.map is)) (fun _=>CU b0 57 AG (De c 0 len l) (sp.map is)):=by
 refine A5.of func56 rfl rfl (by exact Nb rfl) fun M0 w0 S rs M1 w1=> ?_
 have mo:IntKind.u64.wrap ((len:Nat):Int)=len:=IntWalk.u64_in _ ⟨by omega,by omega⟩
 refine ac ?_
 refine co rfl (Hv rfl underlying39 (vl rfl)) ?_
 refine ac ?_
 refine ap ?_
 refine tp rfl (Er rfl underlying3 underlying137 (vl rfl)) (tp rfl (Eh (M6 (by omega) (by omega)) rfl rfl) ?_)
 refine TO.ex 11 rfl (fun k=>TO.fact 11 rfl fun hk=> ?_)
 obtain ⟨hk1,hk2,j_⟩:=hk
 refine tm rfl (TO.DZ 0 rfl rfl (by decide) (Ab rfl rfl (by decide) rfl (Q8 (len+1) (by omega) (by omega) hw (by omega) (.inl rfl) (by omega) (by omega) (by omega) (by omega) (by omega) (by omega)) ⟨ke rfl,ke rfl,ke rfl,ke rfl,ke rfl,trivial⟩) (TO.DC 0 rfl fun t1 F_=> ?_))
 have Y6:=F_.len
 refine TO.nil (Fin.CL (De c 0 len l) 0 rfl (F_) (Fin.JK rfl))
theorem Wg {rows:List (List Pr)} {b:Int} (hb:b≤1):Be prog 150 [slice 3 rows,int 0,int b,any] (Dd):=by
 refine fo func150 rfl ⟨rfl,rfl⟩ fun M0 w0=> ?_
 refine ac ?_
 refine Tr.block (Tr.BV [(0,_),(1,_),(2,_),(3,_)] (Sd rfl) (fun i:Int=>[(8,int i)]) (fun i:Int=>i=1) (fun i:Int=>0) 1 (rfl) ⟨ke rfl,trivial⟩ ?_)
 rintro i hi
 refine an ?_ ?_<;>intro h1 q1
 have:=h1
 exfalso;omega
 have:=h1
 refine Tr.exit (Fin.AK (Fin.AK (Fin.Aa (Fin.aW rfl))))
theorem Wh {rows:List (List Pr)} {b:Int} (h0:0≤b) (hb:b≤1):Be prog 99 [slice 3 rows,int 0,int b,any,any] (Dd):=by
 refine fo func99 rfl ⟨rfl,rfl⟩ fun M0 w0=> ?_
 refine a2 ?_
 refine Tr.block (Tr.BV [(0,_),(4,_)] (Ow rfl) (fun (u:Unit)=>[(1,int 0),(2,int b)]) (fun (u:Unit)=>True) (fun (u:Unit)=>0) () (trivial) ⟨ke rfl,ke rfl,trivial⟩ ?_)
 rintro u _
 refine ac ?_
 refine an ?_ ?_<;>intro h1 q1
 refine ac ?_
 refine co rfl (lf (Wg (by omega)) rfl rfl rfl rfl rfl) ?_
 refine ac ?_
 refine Tr.weak [] trivial (Tr.ret (Fin.AJ (Fin.Ad (Fin.AJ (Fin.Ad (Fin.aX rfl))))))
 exfalso;omega
theorem UZ {rows:List (List Pr)} (hs:rows.length≤1):Be prog 56 [slice 3 rows,any] (Dd):=by
 refine fo func56 rfl ⟨rfl,rfl⟩ fun M0 w0=> ?_
 have hw:IntKind.u64.wrap ((rows.length:Nat):Int)=rows.length:=IntWalk.u64_in _ ⟨by omega,by omega⟩
 refine ac ?_
 refine co rfl (E2 rfl underlying39 (vl rfl)) ?_
 refine a2 ?_
 refine co rfl (Er rfl underlying3 underlying137 (vl rfl)) (co rfl (Eh (M6 (by omega) (by omega)) rfl rfl) (cm rfl (co rfl (Ai rfl (Wh (rows:=rows) (b:=(rows.length:Int)) (by omega) (by omega)) ⟨ke rfl,ke rfl,ke rfl,⟨_,rfl,SJ _⟩,⟨_,rfl,SJ _⟩,trivial⟩) (Ch.nil (Fin.aW rfl)))))
theorem Ua {l:List Az} {c:Az×Az→Int} {v:Value} (hw:Go.Sort.SWO (Bs c)) (hs:l.length<50):A5 Tryz.prog 56 [is v,GF Tryz.prog (fun x:Az×Az=>[agg (AG x.1),agg (AG x.2)]) (fun x=>int (c x))] Dd (Al 57 3 (l.map AG) v) (fun _=>Ko 57 3 AG (De c 0 l.length l) v):=by
 refine A5.VW (fun h=>⟨?_,?_⟩) (fun b cap sp=>Wf rfl hw hs) (fun st h=>h.len) ⟨_,Tryz.func56,rfl,rfl⟩
 ·
  refine Be.le (UZ (rows:=[]) (by decide)) ?_ (Pr.le_refl _)
  rintro M w vs hv
  match vs,hv with
  |[a,b],⟨h1,h2,h3⟩=>exact ⟨AX _ M w a h1,trivial,h3⟩
 · subst h;exact ⟨Go.Sort.permIn_refl _ _ _,fun i j h1 h2 h3=>by simp at h3⟩
end Go.Proofs.YtgilhkjlfongoaaGreat
namespace Cp
open Go Go.RowKit
theorem TO.Na {P:Program} {n:Fm} {E:Env} {M0:Av} {w0:World} {S:Nat→Prop} {rs:List Ao} {ops:Array Oper} {r:List Oper} {Q:Exit→Act→World→Prop} (i:Nat) {T:TypeId} {b:Nat} (hi:rs[i]? =some (HK T b)) (k:∀s,TO P n ops r E (Hp M0 w0 S (rs.set i (NZ T b s))) Q):TO P n ops r E (Hp M0 w0 S rs) Q:=by
 rintro m hl a w ⟨M,h1,h2,h3,h4⟩
 have h4:Am M0 w0 S rs M w:=h4
 obtain ⟨x,hx,hh⟩:=(h4.hold _ (List.mem_of_getElem? hi)).1
 exact k x m hl a w ⟨M,h1,h2,h3,h4.Bt hi rfl rfl hh⟩
theorem AS.Xq {P:Program} {E:Env} {I:B5} {o:Oper} {p:Pr} (s:Nat) {α:Type} {f:α→Pr} (hs:E.lookup s=some (Cp.ex f)) (hm:s∈looks o) (h:∀x,AS P I o ((s,f x)::E) p):AS P I o E p:=by
 intro M w a he hI
 obtain ⟨x,hx⟩:=he s _ hm hs
 refine h x M w a (fun t q ht hq=> ?_) hI
 simp only [List.lookup] at hq
 by_cases hts:t=s
 · subst hts;simp at hq;subst hq;exact hx
 · rw [show (t==s)=false by simpa using hts] at hq;exact he t q ht hq
end Cp
namespace Cp
open Go Go.RowKit Go.Great
section
variable {P:Program} {L:Lg P} {n:Fm} {fz:Nat} {E:Env} {M0:Av} {w0:World} {S:Nat→Prop} {rs:List Ao}
theorem Am.OX {i:Nat} {r r':Ao} {M:Av} {w:World} (h:Am M0 w0 S rs M w) (hi:rs[i]? =some r) (hb:∀b,r'.Ee=some b→r.Ee=some b) (hn:r'.new=r.new) (hh:r'.h M w):Am M0 w0 S (rs.set i r') M w:=by
 have CS:i<rs.length:=by rcases Nat.lt_or_ge i rs.length with h|h;exact h;rw [List.getElem?_eq_none h] at hi;cases hi
 have h1:=Am.perm (DQ hi) h
 refine Am.perm (GK CS) ⟨h1.m0,h1.m,h1.os,h1.tape,h1.output,h1.size,h1.block,h1.bd,fun q hq=> ?_,?_⟩
 ·
  rcases List.mem_cons.1 hq with rfl|hq
  · exact ⟨hh,fun b hbk=>by rw [hn];exact (h1.hold r (by simp)).2 b (hb b hbk)⟩
  · exact h1.hold q (by simp [hq])
 ·
  obtain ⟨h2,h3⟩:=List.pairwise_cons.1 h1.nd
  exact List.Pairwise.cons (fun q hq b hbk=>h2 q hq b (hb b hbk)) h3
theorem Am.JU {j:Nat} {e:TypeId} {sz:Nat} {rows:List (List Pr)} {v:Value} {M:Av} {w:World} (h:Am M0 w0 S rs M w) (hj:rs[j]? =some (Al e sz rows v)):Am M0 w0 S (rs.set j (A3 e sz rows v)) M w:=by
 rcases (h.hold _ (List.mem_of_getElem? hj)).1 with ⟨h1,h2⟩|⟨b,cap,sp,h1,h2,h3,h4,h5⟩
 ·
  subst h2
  exact h.OX hj (fun b hb=>by cases hb) rfl (.inl ⟨h1,_,rfl⟩)
 ·
  subst h1
  cases cap with
  |zero=>
   have hr:rows=[]:=List.eq_nil_of_length_eq_zero (by omega)
   subst hr
   exact h.OX hj (fun b hb=>by cases hb) rfl (.inl ⟨rfl,_,rfl⟩)
  |succ c=>exact h.OX hj (fun b hb=>hb) rfl (.inr ⟨b,c,sp,rfl,h2,h3,h4,h5⟩)
theorem Fin.JU {Q:Exit→Act→World→Prop} {x:Exit} {e:TypeId} {sz:Nat} {rows:List (List Pr)} {v:Value} (j:Nat) (hj:rs[j]? =some (Al e sz rows v)) (k:Fin n E (Hp M0 w0 S (rs.set j (A3 e sz rows v))) Q x):Fin n E (Hp M0 w0 S rs) Q x:=
 Fin.conv (fun a w hs=>by
  obtain ⟨M,h1,h2,h3,h4⟩:=hs
  have h4:Am M0 w0 S rs M w:=h4
  exact ⟨M,h1,h2,h3,h4.JU hj⟩) k
theorem Tr.JU {Q:Exit→Act→World→Prop} {c:Code} {e:TypeId} {sz:Nat} {rows:List (List Pr)} {v:Value} (j:Nat) (hj:rs[j]? =some (Al e sz rows v)) (k:Tr L n E (Hp M0 w0 S (rs.set j (A3 e sz rows v))) c Q):Tr L n E (Hp M0 w0 S rs) c Q:=
 Tr.conv (fun _ _ ⟨M,h1,h2,h3,h4⟩=>⟨M,h1,h2,h3,Am.JU h4 hj⟩) k
end
end Cp
namespace Cp
open Go Go.RowKit
end Cp
namespace Cp
open Go Go.RowKit Go.Great
section
variable {P:Program} {L:Lg P} {n:Fm} {fz:Nat} {E:Env} {M0:Av} {w0:World} {S:Nat→Prop} {rs:List Ao} {o:Oper} {g:Func} {M1:Av} {w1:World}
end
section
variable {P:Program} {L:Lg P} {n:Fm} {fz:Nat} {E:Env} {M0:Av} {w0:World} {S:Nat→Prop} {rs:List Ao}
end
end Cp
namespace Cp
open Go Go.RowKit
abbrev Ez (ρ:Option Nat):Fence:={ Fence.wide with round:=ρ }
section
variable {P:Program} {ρ:Option Nat}
def JV (o:Oper):Bool:=match o.op with
 | .defer _=>false
 |_=>true
theorem XW {o:Oper} {a:Act} {w:World} {K K':Act→World→Prop} {Q:Exit→Act→World→Prop} (hc:JV o=true) (hK:∀a w,K a w→K' a w) (h:o.wp P a w K Q):o.wpIn (Ez ρ) 0 P a w K' Q:=by
 refine ⟨fun _ _=>trivial,?_⟩
 rw [Oper.semAt_eq _ _ _ (fun c hh=>by unfold JV at hc;rw [hh] at hc;cases hc)]
 unfold Oper.wp at h
 generalize (execOp a.eval o).run P w=r at h ⊢
 cases r with
 |halt x w'=>cases x<;>first|exact h|exact h.elim
 |ok x w'=>
  cases x<;>first|exact h.elim|skip
  case value v=>exact hK _ _ h
  case skip=>exact hK _ _ h
  case defer d=>exact hK _ _ h
  case enter f args=>exact ⟨fun hh=>(by cases hh),callsIn_wide.2 (h.mono fun e w'' hr=>by cases e<;>first|exact hK _ _ hr|exact hr)⟩
  case row row args=>
   refine ⟨fun hh=>(by cases hh),fun c cs _=> ?_⟩
   obtain ⟨v,w2,h1,h2⟩:=h c cs
   exact ⟨v,w2,hK _ _ h1,stepsIn_wide.2 h2⟩
theorem Ub {ops:Array Oper} {Q:Exit→Act→World→Prop} (hc:∀(i:Nat) o,ops[i]? =some o→JV o=true):∀(l:List Nat) (a:Act) (w:World),wpS P ops Q l a w→wpOpsIn (Ez ρ) 0 P ops Q l a w
 |[],_,_,h=>h
 |i::l,a,w,h=>by
  have ih:=Ub (Q:=Q) hc l
  unfold wpS at h
  unfold wpOpsIn
  cases ho:ops[i]? with
  |none=>rw [ho] at h;exact ih a w h
  |some o=>
   rw [ho] at h
   dsimp only at h ⊢
   split
   next hw=>rw [if_pos hw] at h;exact XW (hc i o ho) ih h
   next hw=>rw [if_neg hw] at h;exact ⟨fun _ _=>trivial,ih _ _ h⟩
theorem ZD {ops:Array Oper} {Q:Exit→Act→World→Prop} (hc:∀(i:Nat) o,ops[i]? =some o→JV o=true) {i:Nat} {K K':Act→World→Prop} {a:Act} {w:World} (hK:∀a w,K a w→K' a w) (h:J4 P ops Q i K a w):wpOpIn (Ez ρ) 0 P ops Q i K' a w:=by
 unfold J4 at h
 unfold wpOpIn
 cases ho:ops[i]? with
 |none=>rw [ho] at h;exact hK _ _ h
 |some o=>
  rw [ho] at h
  dsimp only at h ⊢
  split
  next hw=>rw [if_pos hw] at h;exact XW (hc i o ho) hK h
  next hw=>rw [if_neg hw] at h;exact ⟨fun _ _=>trivial,hK _ _ h⟩
theorem Uc {ops:Array Oper} {md:Region.Mode} {Q:Exit→Act→World→Prop} (hc:∀(i:Nat) o,ops[i]? =some o→JV o=true):∀(fuel:Nat) (listed:Array Bool) (a:Act) (w:World),HG P md ops Q fuel listed a w→wpAnyIn (Ez ρ) 0 P md ops Q fuel listed a w
 |0,_,_,_,h=>h
 |fuel+1,_,_,_,h=>⟨h.1,fun i hi=>ZD hc (Uc hc fuel _) (h.2 i hi)⟩
theorem Wi {l:List Oper} (hc:calm l=true):∀(i:Nat) o,l.toArray[i]? =some o→JV o=true:=fun i o ho=>by
 have hm:o∈l:=List.mem_of_getElem? (by simpa using ho)
 have:=List.all_eq_true.1 hc o hm
 unfold JV;revert this;cases o.op<;>simp
theorem Wj {c:Code} {Q:Exit→Act→World→Prop} {α:Type} (μ:α→Nat) (R:α→Act→World→Prop) (round:∀x a w,R x a w→c.wpIn (Ez ρ) 0 P (Exit.then (fun a' w'=>∃y,μ y<μ x∧R y a' w') Q) a w) (x:α) (a:Act) (w:World) (hx:R x a w):(Code.loop c).wpIn (Ez ρ) 0 P Q a w:=by
 intro b k cs hro hb hr
 have key:∀m x a w,μ x=m→R x a w→∃e a' w',Q e a' w'∧ArrivesIn (Machine.fenced P (Ez ρ)) P (lone (b.atR a (.code c:: .inLoop c::k)) cs w) b k cs e a' w':=by
  intro m
  induction m using Nat.strongRecOn with
  |_ m ih=>
   intro x a w hm hx
   obtain ⟨e,a₁,w₁,hq,FC⟩:=round x a w hx b (.inLoop c::k) cs hro hb hr
   cases e with
   |normal=>
    obtain ⟨y,hlt,hy⟩:=hq
    obtain ⟨e₂,a₂,w₂,SL,MS⟩:=ih (μ y) (hm ▸ hlt) y a₁ w₁ rfl hy
    exact ⟨e₂,a₂,w₂,SL,.of_steps (StepsIn.trans FC (.one (fenced_calm hb hr rfl) stepR_inLoop)) MS⟩
   |exit id=>exact ⟨_,a₁,w₁,hq,.pass (x:= .inLoop c) rfl (fun _ _=> .inl (by simp)) FC⟩
   |goto l=>exact ⟨_,a₁,w₁,hq,.pass (x:= .inLoop c) rfl (fun _ _=> .inl (by simp)) FC⟩
   |ret=>exact ⟨_,a₁,w₁,hq,.pass (x:= .inLoop c) rfl (fun _ _=> .inl (by simp)) FC⟩
   |panic ch=>exact ⟨_,a₁,w₁,hq,.pass (x:= .inLoop c) rfl (fun _ _=> .inl (by simp)) FC⟩
   |outgrown=>exact ⟨_,a₁,w₁,hq,.pass (x:= .inLoop c) rfl (fun _ _=> .inl (by simp)) FC⟩
 obtain ⟨e,a',w',hq,FC⟩:=key _ x a w rfl hx
 exact ⟨e,a',w',hq,.of_steps (.one (fenced_calm hb hr rfl) stepR_loop) FC⟩
@[reducible] def i7 (P:Program) (ρ:Option Nat):Lg P where
 wp c Q a w:=c.wpIn (Ez ρ) 0 P Q a w
 mono hq h:=wpIn_mono h hq
 skip h:=wpIn_skip h
 ret h:=wpIn_ret h
 exit h:=wpIn_exit h
 seq h:=wpIn_seq h
 block h:=wpIn_block h
 cond hc ht hf:=wpIn_cond_split hc ht hf
 loop:=Wj
 region {id l Q a w} hc h:=wpIn_region (Ub (fun i o ho=>by
  have hm:o∈l:=List.mem_of_getElem? (by simpa using ho)
  have:=List.all_eq_true.1 hc o hm
  unfold JV;revert this;cases o.op<;>simp) _ _ _ (by simpa [List.range_eq_range'] using h))
 draw hc hm h:=wpIn_region_any hm (Uc (Wi hc) _ _ _ _ h)
end
end Cp
namespace Cp
open Go Go.RowKit Go.Great
section
variable {P:Program} {L:Lg P} {n:Fm} {fz:Nat} {E:Env} {M0:Av} {w0:World} {S:Nat→Prop} {rs:List Ao} {o:Oper}
end
end Cp
namespace Cp
open Go Go.RowKit
theorem B8.Xq {M:Av} {w:World} {E:Env} {o:Oper} {a:Act} (s:Nat) {α:Type} {f:α→Pr} (hs:E.lookup s=some (Cp.ex f)) (hm:s∈looks o) (he:B8 M w E o a):∃x,B8 M w ((s,f x)::E) o a:=by
 obtain ⟨x,hx⟩:=he s _ hm hs
 refine ⟨x,fun t q ht hq=> ?_⟩
 simp only [List.lookup] at hq
 by_cases hts:t=s
 · subst hts;simp at hq;subst hq;exact hx
 · rw [show (t==s)=false by simpa using hts] at hq;exact he t q ht hq
section
variable {P:Program} {M0:Av} {w0:World} {S:Nat→Prop} {n:Fm} {j:Nat} {R R':SR} {E:Env} {o:Oper}
theorem DH.Xq {p:Pr} (s:Nat) {α:Type} {f:α→Pr} (hg:o.guard=none) (hs:E.lookup s=some (Cp.ex f)) (hm:s∈looks o) (h:∀x,DH P M0 w0 S n j R R' o ((s,f x)::E) p):DH P M0 w0 S n j R R' o E p:=
 ⟨hg,fun M w a rs hsz he hI hj=>by obtain ⟨x,hx⟩:=he.Xq s hs hm;exact (h x).2 M w a rs hsz hx hI hj⟩
theorem DH.le {p q:Pr} (h:DH P M0 w0 S n j R R' o E p) (hl:Pr.le p q):DH P M0 w0 S n j R R' o E q:=by
 refine ⟨h.1,fun M w a rs hsz he hI hj=> ?_⟩
 have this:=h.2 M w a rs hsz he hI hj
 generalize (execOp a.eval o).run P w=r at this ⊢
 unfold KF at this
 split at this
 · obtain ⟨M',h1,h2,h3⟩:=this;exact ⟨M',hl _ _ _ h1,h2,h3⟩
 · obtain ⟨M',h1,h2,h3⟩:=this;exact ⟨M',hl _ _ _ h1,h2,h3⟩
 · exact Calls.mono this fun _ _ ⟨v,M',h0,h1,h2,h3⟩=>⟨v,M',h0,hl _ _ _ h1,h2,h3⟩
 · exact this.elim
end
section
variable {P:Program} {L:Lg P} {n:Fm} {E:Env} {M0:Av} {w0:World} {S:Nat→Prop} {rs:List Ao}
theorem Fin.Lv {Q:Exit→Act→World→Prop} {x:Exit} (i j k:Nat) {sz b:Nat} {new:Bool} {T e:TypeId} {ps:List Pr} {rows:List (List Pr)} {v:Value} {p:Pr} (hi:rs[i]? =some (AA new b T ps)) (hj:rs[j]? =some (A3 e sz rows v)) (hij:j≠i) (hk:ps[k]? =some p) (hp:Pr.le p (is v)) (hl:∀r∈rows,r.length=sz)
  (kk:Fin n E (Hp M0 w0 S ((rs.set j BT).set i (AA new b T (ps.set k (slice sz rows))))) Q x):Fin n E (Hp M0 w0 S rs) Q x:=Fin.conv (fun _ _ hs=>hs.Lv hi hj hij hk hp hl) kk
end
section
variable {P:Program} {M0:Av} {w0:World} {S:Nat→Prop} {rs:List Ao}
def A9 (b:Nat) (x:Obj):Ao where
 Ee:=some b
 new:=true
 h M w:=(∀o,M b o)∧w.heap[b]? =some x
 st M w M' w' _ hk h:=by
  obtain ⟨h1,h2⟩:=hk b rfl
  exact ⟨fun o=>h2 o (h.1 o),h1.trans h.2⟩
theorem Am.Ud {M:Av} {w:World} (h:Am M0 w0 S rs M w) (x:Obj):
  Am M0 w0 S (A9 w.heap.size x::rs) (fun b o=>M b o∨b=w.heap.size) (w.alloc x)∧Ext M w (fun b o=>M b o∨b=w.heap.size) (w.alloc x):=by
 have hb:Below w.heap.size w (w.alloc x):=(Below.refl _ _).alloc (Nat.le_refl _) _
 have hsz:(w.alloc x).heap.size=w.heap.size+1:=by simp
 have he:Ext M w (fun b o=>M b o∨b=w.heap.size) (w.alloc x):=by
  have h2:=Ext.below (M:=M) hb
  refine ⟨h2.size,fun a v hc hm=>⟨fun hx=> ?_,(h2.keep a v hc hm).2⟩,fun b o ho hp hm=>⟨fun hx=> ?_,(h2.obj b o ho hp hm).2⟩⟩
  ·
   rcases hx with hx|hx
   · exact hm hx
   · have:=C0 hc;omega
  ·
   rcases hx with hx|hx
   · exact hm hx
   · subst hx;simp at ho
 have hI:=(Hp M0 w0 S rs).st _ _ _ hb h
 refine ⟨⟨hI.m0,fun b o hm=> .inl (hI.m b o hm),hI.os,hI.tape,hI.output,hI.size,hI.block,fun b o hm=> ?_,fun r hr=> ?_,?_⟩,he⟩
 ·
  rcases hm with hm|hm
  · exact hI.bd b o hm
  · omega
 ·
  rcases List.mem_cons.1 hr with rfl|hr
  ·
   refine ⟨⟨fun o=> .inr rfl,heap_alloc_new w _⟩,fun b hbk=> ?_⟩
   simp only [A9,Option.some.injEq] at hbk
   subst hbk
   exact ⟨by omega,by simp [A9];exact h.size⟩
  ·
   obtain ⟨h3,h4⟩:=h.hold r hr
   exact ⟨r.st _ _ _ _ he (fun b hbk=>⟨hb.block b (h4 b hbk).1,fun _ x=> .inl x⟩) h3,fun b hbk=>⟨by have:=(h4 b hbk).1;omega,(h4 b hbk).2⟩⟩
 ·
  refine List.pairwise_cons.2 ⟨fun r hr b SC SP=> ?_,hI.nd⟩
  simp only [A9,Option.some.injEq] at SC
  subst SC
  have:=((h.hold r hr).2 _ SP).1
  omega
theorem Am.putObj {M:Av} {w:World} {j b:Nat} {x:Obj} (y:Obj) (h:Am M0 w0 S rs M w) (hj:rs[j]? =some (A9 b x)):Am M0 w0 S (rs.set j (A9 b y)) M (w.putObj b y)∧Ext M w M (w.putObj b y):=by
 obtain ⟨⟨hM,hx⟩,hbk⟩:=h.hold _ (List.mem_of_getElem? hj)
 have hlt:b<w.heap.size:=(hbk b rfl).1
 have hsz:(w.putObj b y).heap.size=w.heap.size:=by simp [World.putObj]
 have he:Ext M w M (w.putObj b y):=by
  refine ⟨by omega,fun a v hc hm=>⟨hm,?_⟩,fun k o ho _ hm=>⟨hm,?_⟩⟩
  ·
   have hne:a.block≠b:=fun e=>hm (e ▸ hM _)
   rw [World.cell?_of_block (w:=w) (World.putObj_heap_other hne)];exact hc
  ·
   have hne:k≠b:=fun e=>hm (e ▸ hM _)
   exact (World.putObj_heap_other hne).trans ho
 refine ⟨h.replace hj he rfl rfl rfl (fun k _ hne=>World.putObj_heap_other (fun e=>hne (by rw [e];rfl))) rfl (fun _ _ hm _=>hm) (fun b' o hm=>by have:=h.bd b' o hm;omega) ⟨hM,World.putObj_heap_same hlt⟩ rfl (fun b' hb'=>⟨?_,.inl hb'⟩),he⟩
 simp only [A9,Option.some.injEq] at hb'
 subst hb';omega
end
def dJ (P:Program) (gf:Nat) (lb:Array Value) {α:Type} (enc:α→Value) (xs:List α) (own:List α→List Ao):Prop:=
 ∀M0 w0 S (l:Nat) (β:Type) (R Rx:List α→β→List Ao),
  (∀pre x d M w,(pre++[x])<+:xs→Am M0 w0 S (own (pre++[x])++R pre d) M w→YieldAt (Ez none) 0 P l #[enc x] w fun e w'=>∃M' d',Ext M w M' w'∧
   ((e= .returned (.bool true)∧Am M0 w0 S (own (pre++[x])++R (pre++[x]) d') M' w')∨(e= .returned (.bool false)∧Am M0 w0 S (own (pre++[x])++Rx (pre++[x]) d') M' w')))→
  ∀d M w,Am M0 w0 S (own []++R [] d) M w→CallsIn (Ez none) 0 P gf (#[.func (.yield l) #[] #[]]++lb) w fun e w'=>(∃v,e= .returned v)∧∃M' d',Ext M w M' w'∧
   (Am M0 w0 S (own xs++R xs d') M' w'∨∃pre,pre<+:xs∧Am M0 w0 S (own pre++Rx pre d') M' w')
def Wk (M0:Av) (w0:World) (S:Nat→Prop) {β:Type} (rs:β→List Ao) (rx:Code→β→List Ao):Exit→Act→World→Prop
 | .normal,_,w=>∃d M,Am M0 w0 S (rs d) M w
 | .ret,_,w=>∃d M,Am M0 w0 S (rx .ret d) M w
 | .exit id,_,w=>∃d M,Am M0 w0 S (rx (.exit id) d) M w
 | .goto t,_,w=>∃d M,Am M0 w0 S (rx (.goto t) d) M w
 | .panic _,_,_=>False
 | .outgrown,_,_=>False
section
variable {P:Program} {M0:Av} {w0:World} {S:Nat→Prop} {rs:List Ao}
theorem Tr.range {Q:Exit→Act→World→Prop} {n:Fm} {E:Env} {α β:Type} {p gf:Nat} {g:Operand} {lb:Array Value} {enc:α→Value} {xs:List α} {own:List α→List Ao} {assign body:Code} (E':α→Env) (R:List α→β→List Ao) (Rx:Code→List α→β→List Ao) (d0:β)
  (mq:dJ P gf lb enc xs own) (eg:∀args w,(callFunc gf args).run P w= .ok (.enter gf args) w) (hg:VL E g (is (.func (.func gf) #[] lb))) (Lt:rs.Perm (own []++R [] d0))
  (hassign:∀l D rec M1 w1 pre x d,(pre++[x])<+:xs→∀a,a.tmps.size=n.sz→EG M1 w1 E a→∀M w,Am M0 w0 S (own (pre++[x])++(A9 l rec::A9 D (.deferred (some []))::Ak M1 w1::R pre d)) M w→
   assign.wpIn (Ez (some l)) 0 P (Exit.then (St ⟨n.sz,[]⟩ (E' x) (Hp M0 w0 S (own (pre++[x])++(A9 l rec::A9 D (.deferred (some []))::Ak M1 w1::R pre d)))) (fun _ _ _=>False)) { tmps:=a.tmps.setIfInBounds p (enc x),defers:=[] } w)
  (hbody : ∀ l D rec M1 w1 pre x d, (pre ++ [x]) <+: xs → Tr (i7 P (some l)) ⟨n.sz, []⟩ (E' x) (Hp M0 w0 S (own (pre ++ [x]) ++ (A9 l rec :: A9 D (.deferred (some [])) :: Ak M1 w1 :: R pre d))) body
   (Wk M0 w0 S (fun d=>own (pre++[x])++(A9 l rec::A9 D (.deferred (some []))::Ak M1 w1::R (pre++[x]) d)) (fun c d=>own (pre++[x])++(A9 l rec::A9 D (.deferred (some []))::Ak M1 w1::Rx c (pre++[x]) d))))
  (hdone:∀l D rec M1 w1 d,Fin ⟨n.sz,{ target:= .collected D,args:= #[] }::n.df⟩ E (Hp M0 w0 S (own xs++(A9 l rec::A9 D (.deferred (some []))::Ak M1 w1::R xs d))) Q .normal)
  (hstop:∀l D rec M1 w1 c pre d,pre<+:xs→Tr (i7 P none) ⟨n.sz,{ target:= .collected D,args:= #[] }::n.df⟩ E (Hp M0 w0 S (own pre++(A9 l rec::A9 D (.deferred (some []))::Ak M1 w1::Rx c pre d))) c Q):
  Tr (i7 P none) n E (Hp M0 w0 S rs) (.rangeFunc g #[p] assign body) Q:=by
 intro a w ⟨M,hsz,hdf,hE,hI⟩
 have hI:Am M0 w0 S rs M w:=hI
 refine wpIn_rangeFunc ?_
 intro fn hfn
 obtain ⟨rec,P4⟩:∃rec:LoopState→Option Code→Loop,rec=fun st pe=>{ state:=st,pending:=pe,fn,tmps:=a.tmps,params:= #[p],assign,body,defers:=w.heap.size }:=⟨_,rfl⟩
 -- what is held ahead of the call
 have mu:=Am.perm Lt hI
 obtain ⟨Zj,e3⟩:=mu.Ud (.deferred (some []))
 obtain ⟨XX,e4⟩:=Zj.Ud (.loop (rec .ready none))
 obtain ⟨W1,kV⟩:∃W1,(w.alloc (.deferred (some []))).alloc (.loop (rec .ready none))=W1:=⟨_,rfl⟩
 have hs1:(w.alloc (.deferred (some []))).heap.size=w.heap.size+1:=by simp
 rw [kV,hs1] at XX e4
 obtain ⟨M1,mw⟩:∃M1:Av,M1=(fun b o=>(M b o∨b=w.heap.size)∨b=w.heap.size+1):=⟨_,rfl⟩
 rw [←mw] at XX e4
 have e1:Ext M w M1 W1:=e3.trans e4
 obtain ⟨l,hl⟩:∃l,l=w.heap.size+1:=⟨_,rfl⟩
 obtain ⟨D,hD⟩:∃D,D=w.heap.size:=⟨_,rfl⟩
 rw [←hl] at XX
 rw [←hD] at XX
 have i9:EG M1 W1 E a:=fun s q hq=>q.st _ _ _ _ _ e1 (hE s q hq)
 have mz:Am M0 w0 S (own []++(A9 l (.loop (rec .ready none))::A9 D (.deferred (some []))::Ak M1 W1::R [] d0)) M1 W1:=by
  refine Am.perm ?_ (Am.Ja XX (r:=Ak M1 W1) rfl (Ext.refl _ _))
  refine List.Perm.trans (l₂:=(A9 l (.loop (rec .ready none))::A9 D (.deferred (some []))::Ak M1 W1::R [] d0)++own []) ?_ List.perm_append_comm
  refine (List.Perm.swap _ _ _).trans (List.Perm.cons _ ((List.Perm.swap _ _ _).trans (List.Perm.cons _ (List.Perm.cons _ List.perm_append_comm))))
 have ix:∀(os:List Ao) (r:Ao) (tl:List Ao),(os++r::tl)[os.length]? =some r:=fun os r tl=>by simp
 have sx:∀(os:List Ao) (r r':Ao) (tl:List Ao),(os++r::tl).set os.length r'=os++r'::tl:=fun os r r' tl=>by simp
 have kW:∀(os:List Ao) (r1 r2 r:Ao) (tl:List Ao),(os++r1::r2::r::tl)[os.length+2]? =some r:=fun os r1 r2 r tl=>by
  rw [List.getElem?_append_right (by omega)];simp
 have kX:∀(os:List Ao) (r1 r2 r r':Ao) (tl:List Ao),(os++r1::r2::r::tl).set (os.length+2) r'=os++r1::r2::r'::tl:=fun os r1 r2 r r' tl=>by
  rw [List.set_append_right _ _ (by omega)];simp
 have i_:=hdone;have jA:=hstop
 refine ⟨l,[{ target:= .collected D,args:= #[] }],W1,{ target:= .fn (.func gf) lb,args:= #[.func (.yield l) #[] #[]] },W1,gf,#[.func (.yield l) #[] #[]]++lb,W1,?_,?_,fun _ _=>trivial,?_,fun h=>(by cases h),?_⟩
 · rw [hl,hD,←kV,P4];exact run_enterLoop_outer _ _ _ _ _
 ·
  have hv:a.eval g= .func (.func gf) #[] lb:=by
   obtain ⟨q,h1,h2⟩:=hg
   exact h2 _ _ _ (CE.eval hE h1)
  simp only [resolve,hv]
  simp [go_sem]
 · simp [invoke,go_sem,eg]
 ·
  refine (mq M0 w0 S l (Code × β) (fun pre cd => A9 l (.loop (rec .ready none)) :: A9 D (.deferred (some [])) :: Ak M1 W1 :: R pre cd.2)
   (fun pre cd=>A9 l (.loop (rec .done (some cd.1)))::A9 D (.deferred (some []))::Ak M1 W1::Rx cd.1 pre cd.2) ?_ (.skip,d0) M1 W1 mz).mono ?_
  ·
   rintro pre x ⟨c0,d⟩ M2 W2 hpre hI
   have eC:W2.heap[l]? =some (.loop (rec .ready none)):=(hI.hold (A9 l (.loop (rec .ready none))) (by simp)).1.2
   have hx2:Ext M1 W1 M2 W2:=(hI.hold (Ak M1 W1) (by simp)).1
   have hy:=run_yield (P:=P) (args:= #[enc x]) eC (by rw [P4];rfl)
   have JG:Am M0 w0 S (own (pre++[x])++(A9 l (.loop (rec .ready none))::A9 D (.deferred (some []))::Ak M2 W2::R pre d)) M2 W2:=by
    have:=hI.Bt (r':=Ak M2 W2) (kW _ _ _ _ _) rfl rfl (Ext.refl _ _)
    rwa [kX] at this
   have m8:(Instr.yield l #[enc x]).run P W2= .ok (.round l fn (a.tmps.setIfInBounds p (enc x)) assign body) W2:=by
    rw [hy,P4];simp
   have ha:=hassign l D _ M2 W2 pre x d hpre a hsz (fun s q hq=>q.st _ _ _ _ _ hx2 (i9 s q hq)) M2 W2 JG
   refine ⟨fn,_,assign,body,m8,roundIn_of_wpIn (F:=Ez none) trivial (wpIn_mono (F:=(Ez none).inRound l) ha ?_)⟩
   intro e a3 W3 hq
   cases e with
   |normal=>
    obtain ⟨M3,m9,m_,nA,Zj⟩:=hq
    have Zj:Am M0 w0 S (own (pre++[x])++(A9 l (.loop (rec .ready none))::A9 D (.deferred (some []))::Ak M2 W2::R pre d)) M3 W3:=Zj
    have nB:W3.heap[l]? =some (.loop (rec .ready none)):=(Zj.hold (A9 l (.loop (rec .ready none))) (by simp)).1.2
    obtain ⟨XX,e4⟩:=Zj.putObj (.loop { rec .ready none with state:= .busy }) (ix _ _ _)
    rw [sx] at XX
    refine ⟨_,run_beginRound nB (by rw [P4]),?_⟩
    refine wpIn_mono (F:=(Ez none).inRound l) (hbody l D _ M2 W2 pre x d hpre a3 _ ⟨M3,m9,m_,fun s q hq=>q.st _ _ _ _ _ e4 (nA s q hq),XX⟩) ?_
    have fin:∀(jump:Option Code) (tl:List Ao) (W5:World) (M5:Av),Am M0 w0 S (own (pre++[x])++(A9 l (.loop { rec .ready none with state:= .busy })::A9 D (.deferred (some []))::Ak M2 W2::tl)) M5 W5→
      ∃w6,(Instr.endRound l jump).run P W5= .ok (.bool jump.isNone) w6∧Ext M2 W2 M5 w6∧Am M0 w0 S (own (pre++[x])++(A9 l (.loop (rec (if jump.isNone then .ready else .done) jump))::A9 D (.deferred (some []))::Ak M1 W1::tl)) M5 w6:=by
     intro jump tl W5 M5 h5
     have jB:W5.heap[l]? =some (.loop { rec .ready none with state:= .busy }):=(h5.hold (A9 l (.loop { rec .ready none with state:= .busy })) (by simp)).1.2
     have kY:Ext M2 W2 M5 W5:=(h5.hold (Ak M2 W2) (by simp)).1
     obtain ⟨h6,e6⟩:=h5.putObj (.loop { rec .ready none with state:=if jump.isNone then .ready else .done,pending:=jump }) (ix _ _ _)
     rw [sx] at h6
     have h7:=h6.Bt (r':=Ak M1 W1) (kW _ _ _ _ _) rfl rfl (hx2.trans (kY.trans e6))
     rw [kX] at h7
     refine ⟨_,run_endRound jump jB,kY.trans e6,?_⟩
     rw [P4] at h7 ⊢
     exact h7
    intro e5 a5 W5 hp
    cases e5 with
    |normal=>
     obtain ⟨d5,M5,h5⟩:=hp
     obtain ⟨w6,g1,g2,g3⟩:=fin none _ _ _ h5
     exact ⟨_,_,g1,M5,(.skip,d5),g2,.inl ⟨rfl,g3⟩⟩
    |ret=>
     obtain ⟨d5,M5,h5⟩:=hp
     obtain ⟨w6,g1,g2,g3⟩:=fin (some .ret) _ _ _ h5
     exact ⟨_,_,g1,M5,(.ret,d5),g2,.inr ⟨rfl,g3⟩⟩
    |exit id=>
     obtain ⟨d5,M5,h5⟩:=hp
     obtain ⟨w6,g1,g2,g3⟩:=fin (some (.exit id)) _ _ _ h5
     exact ⟨_,_,g1,M5,(.exit id,d5),g2,.inr ⟨rfl,g3⟩⟩
    |goto t=>
     obtain ⟨d5,M5,h5⟩:=hp
     obtain ⟨w6,g1,g2,g3⟩:=fin (some (.goto t)) _ _ _ h5
     exact ⟨_,_,g1,M5,(.goto t,d5),g2,.inr ⟨rfl,g3⟩⟩
    |panic ch=>exact hp.elim
    |outgrown=>exact hp.elim
   |exit id=>exact hq.elim
   |goto t=>exact hq.elim
   |ret=>exact hq.elim
   |panic ch=>exact hq.elim
   |outgrown=>exact hq.elim
  ·
   rintro e W2 ⟨⟨v,rfl⟩,M2,⟨c2,d2⟩,hx2,h2⟩
   have hend:∀(os tl:List Ao) (st:LoopState) (pe:Option Code),st≠ .busy→Am M0 w0 S (os++(A9 l (.loop (rec st pe))::A9 D (.deferred (some []))::Ak M1 W1::tl)) M2 W2→
     ∃w6,(Instr.endLoop l).run P W2= .ok pe w6∧Ext M2 W2 M2 w6∧Am M0 w0 S (os++(A9 l (.loop { rec st pe with state:= .exhausted })::A9 D (.deferred (some []))::Ak M1 W1::tl)) M2 w6:=by
    intro os tl st pe hst h5
    have jB:W2.heap[l]? =some (.loop (rec st pe)):=(h5.hold (A9 l (.loop (rec st pe))) (by simp)).1.2
    obtain ⟨h6,e6⟩:=h5.putObj (.loop { rec st pe with state:= .exhausted }) (ix _ _ _)
    rw [sx] at h6
    have:=run_endLoop (P:=P) jB (by rw [P4];exact hst)
    refine ⟨_,?_,e6,h6⟩
    rw [this,P4]
   rcases h2 with h2|⟨pre,hpre,h2⟩
   ·
    obtain ⟨w6,g1,g2,g3⟩:=hend _ _ _ _ (by simp) h2
    exact ⟨none,w6,g1,hdone l D _ M1 W1 d2 _ _ ⟨M2,hsz,by show _::a.defers=_;rw [hdf],fun s q hq=>q.st _ _ _ _ _ g2 (q.st _ _ _ _ _ hx2 (i9 s q hq)),g3⟩⟩
   ·
    obtain ⟨w6,g1,g2,g3⟩:=hend _ _ _ _ (by simp) h2
    exact ⟨some c2,w6,g1,hstop l D _ M1 W1 c2 pre d2 hpre _ _ ⟨M2,hsz,by show _::a.defers=_;rw [hdf],fun s q hq=>q.st _ _ _ _ _ g2 (q.st _ _ _ _ _ hx2 (i9 s q hq)),g3⟩⟩
end
section
variable {P:Program} {M0:Av} {w0:World} {S:Nat→Prop} {rs:List Ao}
end
section
variable {P:Program}
end
end Cp
