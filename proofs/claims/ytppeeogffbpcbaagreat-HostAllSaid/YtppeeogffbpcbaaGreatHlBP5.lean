/-
  Part 5 of the texts that prove this claim, merged.
-/
import Derived.Test.YtppeeogffbpcbaaGreatHlBP4
set_option linter.all false
set_option maxRecDepth 40000
set_option maxHeartbeats 16000000
namespace Go.Proofs.YtppeeogffbpcbaaGreat
open Go Go.RowKit Cp Go.Proofs.Tryz
theorem aI {l:List (Int)} {x:Int} {b0 cap i:Nat} {sp:List Value} (hi:i≤l.length) (hl:l.length≤1000000) (hc:l.length≤cap) (hm:cap≤maxLen) (hq:sp.length=(cap-l.length)*1):BE prog 258 [Ay (.slice (some ⟨b0,0,none⟩) l.length cap) (lens l.length),int ((i:Nat):Int),slice 1 [[int x]]] (lens (l.length+1)) (AA true b0 3 ((l.map (fun n:Int=>[int n])).flatten++sp.map is)) (fun v=>Dw 3 1 ((l.take i++[x]++l.drop i).map (fun n:Int=>[int n])) v):=by
 refine BE.of func258 rfl rfl (by exact Nb rfl) fun M0 w0 S rs M1 w1=> ?_
 have HG:([[int x]]:List (List Pr)).flatten.length=1:=rfl
 have HH:([[int x]]:List (List Pr)).length=1:=rfl
 have Im:((l.map (fun n:Int=>[int n])).flatten).length=l.length*1:=by rw [CO (sz:=1) (BF fun _=>rfl),List.length_map]
 have e1:(((i:Nat):Int)+(1:Int)).toNat=i+1:=by omega
 have e2:((i:Nat):Int).toNat=i:=by omega
 refine a2 ?_
 refine co rfl (J6 rfl underlying22 Cg (Ka rfl) (vl rfl) (by omega) (by omega) (by omega)) ?_
 refine a2 ?_
 refine co rfl (CV rfl underlying22 (vl rfl)) ?_
 refine ac ?_
 refine an ?_ ?_<;>intro h1 q1
 simp at h1
 refine a2 ?_
 refine co rfl (D9 rfl underlying22 (Ka rfl)) ?_
 refine a2 ?_
 refine GS 0 1 2 7 8 22 rfl ?_
 refine Tr.cn rfl ?_ ?_<;>intro h2 q2
 refine Tr.seq (Tr.Jc (sz:=1) 0 rfl (rows:=l.map (fun n:Int=>[int n])) (sp:=sp) rfl (by simp) hc hm hq ?_)
 refine ap ?_
 refine TO.GR 0 rfl rfl (by decide) (OP rfl rfl (by decide) rfl underlying22 Cg UT z3 rfl (by decide) (by decide) (vl rfl) (vl rfl) (BF fun _=>rfl) (Nat.zero_lt_succ _) (by simp only [List.length_map,List.length_cons,List.length_nil];unfold maxLen;omega) (by simp only [List.length_map,List.length_cons,List.length_nil];omega)) (fun v1=> ?_)
 refine ap ?_
 refine Tr.ret (Fin.AJ ?_)
 refine Fin.Dz rfl rfl ?_ (by rintro _ _ _ ⟨rfl,_⟩;rw [show i=l.length by omega,List.take_length,List.drop_length,List.append_nil,List.map_append];rfl)
 · exact Pr.le_trans (Ar _ _) (Pr.le_of_eq (by simp))
 refine a2 ?_
 refine co rfl (To rfl underlying22 (Ka rfl)) ?_
 refine an ?_ ?_<;>intro h3 q3
 refine ap ?_
 refine tp rfl (Fo rfl underlying22 Cg (Ka rfl) (vl rfl) (by omega) (by omega) (by omega) (by omega)) ?_
 refine ap ?_
 refine TO.pad ?_
 refine TO.cW 0 1 rfl rfl rfl rfl (by decide) rfl underlying22 underlying3 Cg UT z3 rfl (by decide) (by decide) (vl rfl) (vl rfl) (i:=i) (k:=l.length+1-i) (by omega) (by simp only [List.length_append,List.length_take,List.length_drop,List.length_map,Im,HH,HG];omega) (by omega) (by omega) (by unfold maxLen;omega) (by omega) (fun b1 gG gH hg1 hm1 hs1=> ?_)
 refine ap ?_
 refine EM 0 1 2 7 9 rfl (Tr.seq ?_)
 have hsz:gH.length=(gG-i)*1:=by have:=hs1;rw [List.length_take,List.length_append,Im] at this;omega
 refine Tr.Qu (sz:=1) (l.map (fun n:Int=>[int n])) 1 0 rfl rfl (Pr.le_trans (Dj _ _) (Pr.le_of_eq (by simp))) (BF fun _=>rfl) (by rw [List.length_map];exact hc) hm (by rw [List.length_map,List.length_map];omega) ?_
 refine ap ?_
 refine tp rfl (Bz rfl underlying22 Cg (vl rfl) (vl rfl) (by omega) (by omega) (by omega)) (tm rfl ?_)
 refine TO.FF 0 rfl rfl (by decide) (G9 rfl rfl rfl underlying22 Cg (by decide) (vl rfl) (vl rfl) (by omega) (by omega) (by simp only [List.length_append,List.length_take,List.length_drop,List.length_map,Im,HH,HG];omega) rfl) ?_
 refine ap ?_
 refine Tr.seq (Tr.rx ?_)
 refine ay ?_
 refine xo rfl (fun _=>Bz rfl underlying22 Cg (vl rfl) (vl rfl) (by omega) (by omega) (by omega)) ?_
 refine ay ?_
 refine xo rfl (fun _=>B1 rfl underlying22 Cg (Kb rfl) (vl rfl) (by omega) (by simp;omega)) ?_
 refine Cx.ef 0 rfl rfl (by decide) (G9 rfl rfl rfl underlying22 Cg (by decide) (vl rfl) (vl rfl) (by simp only [List.length_append,List.length_take,List.length_drop,List.length_map,Im,HH,HG];omega) (by simp only [List.length_append,List.length_take,List.length_drop,List.length_map,Im,HH,HG];omega) (by simp only [List.length_append,List.length_take,List.length_drop,List.length_map,Im,HH,HG];omega) rfl) ?_
 refine Cx.nil ⟨by kernel_rfl,?_⟩
 refine A9.done Wd (Fin.go (DD 9 rfl ?_))
 refine ac ?_
 refine Tr.ret (Fin.AJ ?_)
 refine Fin.Kn (sz:=1) 0 rfl (rows:=((l.take i++[x]++l.drop i).map (fun n:Int=>[int n]))) (sp:=gH.drop ((l.length+1-i)*1)) (m:=i+(l.length+1-i)) (NH (a:=i*1) (z:=1) (Z:=gH.map is) (N:=l.length*1) Im (by omega) rfl (by rw [List.length_map];omega) (by omega) (by omega) (by omega) (by omega) (by rw [List.length_drop,List.length_map];omega) (by rw [←List.map_drop,GF (f:=(fun n:Int=>[int n])) (sz:=1) (fun _=>rfl),e2]) (by rw [List.map_drop,show (l.length+1-i)*1=l.length*1+1-i*1 by omega,←I2 (f:=(fun n:Int=>[int n])) (sz:=1) (l:=l) (i:=i) (x:=x) (fun _=>rfl)];rfl)) (by simp only [List.length_map,List.length_append,List.length_take,List.length_drop,List.length_cons,List.length_nil];omega) (by omega) hm1 (by rw [List.length_drop];omega) ?_
 refine Fin.drop 1 ?_
 refine Fin.Dz rfl rfl ?_ (by rintro _ _ _ rfl;rfl)
 · rintro _ _ _ rfl;exact ⟨_,_,by congr 1;omega⟩
 refine a2 ?_
 refine co rfl (J5 rfl underlying22 Cg (Ka rfl) (vl rfl) (by omega) (by omega) (by omega)) ?_
 refine ac ?_
 refine EM 0 1 2 7 8 rfl ?_
 refine ap ?_
 refine tp rfl (Bz rfl underlying22 Cg (vl rfl) (vl rfl) (by omega) (by omega) (by omega)) ?_
 refine TO.rd 0 rfl rfl rfl (by decide) (LK (tR:=4) rfl func287 (by kernel_rfl) (by kernel_rfl) (by kernel_rfl) (by kernel_rfl) underlying22 Cg (by decide) (vl rfl) (by exact Nat.zero_lt_succ _) (vl rfl) (by simp only [List.length_append,List.length_take,List.length_drop,List.length_map,Im,HH,HG];omega)) ?_
 refine ap ?_
 refine Tr.cn rfl ?_ ?_<;>intro h4 q4
 refine Tr.seq (Tr.rx ?_)
 refine ay ?_
 refine xo rfl (fun _=>Bz rfl underlying22 Cg (vl rfl) (vl rfl) (by omega) (by omega) (by omega)) ?_
 refine ay ?_
 refine xo rfl (fun _=>Bz rfl underlying22 Cg (vl rfl) (vl rfl) (by omega) (by omega) (by omega)) ?_
 refine Cx.ef 0 rfl rfl (by decide) (Q0 (m:=l.length-i) rfl rfl rfl underlying22 Cg (vl rfl) (vl rfl) (by show _=min _ _;omega) (by simp only [List.length_append,List.length_take,List.length_drop,List.length_map,Im,HH,HG];omega) (by simp only [List.length_append,List.length_take,List.length_drop,List.length_map,Im,HH,HG];omega) rfl) ?_
 refine Cx.nil ⟨by kernel_rfl,?_⟩
 refine A9.done KP (Fin.go (Cr 0 1 2 rfl ?_))
 refine ap ?_
 refine tp rfl (Bz rfl underlying22 Cg (vl rfl) (vl rfl) (by omega) (by omega) (by omega)) (tm rfl ?_)
 refine TO.FF 0 rfl rfl (by decide) (G9 rfl rfl rfl underlying22 Cg (by decide) (vl rfl) (vl rfl) (by omega) (by omega) (by simp only [List.length_append,List.length_take,List.length_drop,List.length_map,Im,HH,HG];omega) rfl) ?_
 refine ap ?_
 refine ac ?_
 refine Tr.ret (Fin.AJ ?_)
 refine Fin.Kn (sz:=1) 0 rfl (rows:=((l.take i++[x]++l.drop i).map (fun n:Int=>[int n]))) (sp:=sp.drop 1) (m:=l.length+1) (NG (a:=i*1) (z:=1) (S:=sp.map is) (N:=l.length*1) Im (by omega) rfl (by rw [List.length_map];omega) (by omega) (by omega) (by omega) (by omega) (by omega) (by omega) (by rw [List.map_drop,←I2 (f:=(fun n:Int=>[int n])) (sz:=1) (l:=l) (i:=i) (x:=x) (fun _=>rfl)];rfl)) (by simp only [List.length_map,List.length_append,List.length_take,List.length_drop,List.length_cons,List.length_nil];omega) (by omega) hm (by rw [List.length_drop];omega) ?_
 refine Fin.Dz rfl rfl ?_ (by rintro _ _ _ rfl;rfl)
 · rintro _ _ _ rfl;exact ⟨_,_,by rfl⟩
 exact absurd h4 (by decide)
theorem aJ:Entry Tryz.prog 258:=⟨_,Tryz.func258,rfl,rfl⟩
theorem aK {x:Int}  :BE prog 258 [full 1 [],int ((0:Nat):Int),slice 1 [[int x]]] (lens 1) (Bw) (fun v=>C8 3 1 [[int x]] v):=by
 refine BE.of func258 rfl rfl (by exact Nb rfl) fun M0 w0 S rs M1 w1=> ?_
 have HH:([[int x]]:List (List Pr)).length=1:=rfl
 refine a2 ?_
 refine co rfl (B1 rfl underlying22 Cg (Kf rfl) (vl rfl) (by omega) (by omega)) ?_
 refine a2 ?_
 refine co rfl (CV rfl underlying22 (vl rfl)) ?_
 refine ac ?_
 refine an ?_ ?_<;>intro h1 q1
 simp at h1
 refine a2 ?_
 refine co rfl (CV rfl underlying22 (Kf rfl)) ?_
 refine a2 ?_
 refine GS 0 1 2 7 8 22 rfl ?_
 refine Tr.cn rfl ?_ ?_<;>intro h2 q2
 refine ap ?_
 refine TO.pad ?_
 refine TO.GR 0 rfl rfl (by decide) (Eo rfl rfl (by decide) rfl underlying22 Cg UT z3 rfl (by decide) (by decide) (vl rfl) (vl rfl) (by simp) (by simp;unfold maxLen;omega) (by simp)) (fun v1=> ?_)
 refine ap ?_
 refine Tr.ret (Fin.AJ (Fin.drop 1 ?_))
 refine Fin.Dz rfl rfl ?_ (by intro _ _ _ h;rw [h.1])
 · exact Pr.le_trans (Ar _ _) (Lr)
 exact absurd h2 (by decide)
theorem Pp {l:List (Int)} {x:Int} {v:Value} {i:Nat} (hi:i≤l.length) (hl:l.length≤1000000):BE Tryz.prog 258 [is v,int ((i:Nat):Int),slice 1 [[int x]]] (slice 1 ((l.take i++[x]++l.drop i).map (fun n:Int=>[int n]))) (Ap 3 1 (l.map (fun n:Int=>[int n])) v) (fun _=>Bw):=by
 refine BE.ZG (e:=3) (m:=l.length+1) (BF fun _=>rfl) (BE.I0 aJ (fun h0=> ?_) (fun b cap sp hc hm hq=> ?_))
 ·
  have Q1:l=[]:=by simpa using h0
  subst Q1
  have hi0:i=0:=by simpa using hi
  subst hi0
  exact BE.Jd aK
 ·
  rw [List.length_map] at hc hq ⊢
  exact aI hi hl hc hm (by omega)
theorem Pq {l:List (Int)} {v:Value} {i:Nat} (hi:i<l.length) (hl:l.length≤1000000):BE Tryz.prog 208 [is v,int ((i:Nat):Int),int (((i:Nat):Int)+1)] (slice 1 ((l.eraseIdx i).map (fun n:Int=>[int n]))) (Ap 3 1 (l.map (fun n:Int=>[int n])) v) (fun _=>Bw):=by
 refine BE.ZG (e:=3) (m:=l.length-1) (BF fun _=>rfl) (BE.I0 aF (fun h0=> ?_) (fun b cap sp hc hm hq=> ?_))
 ·
  have Q1:l=[]:=by simpa using h0
  subst Q1;simp at hi
 ·
  rw [List.length_map] at hc hq ⊢
  exact aE hi hl hc hm (by omega)
theorem aL {l:List (DO)} {x:DO} {b0 cap i:Nat} {sp:List Value} (hi:i≤l.length) (hl:l.length≤1000000) (hc:l.length≤cap) (hm:cap≤maxLen) (hq:sp.length=(cap-l.length)*4):BE prog 261 [Ay (.slice (some ⟨b0,0,none⟩) l.length cap) (lens l.length),int ((i:Nat):Int),slice 4 [BC x]] (lens (l.length+1)) (AA true b0 27 ((l.map BC).flatten++sp.map is)) (fun v=>Dw 27 4 ((l.take i++[x]++l.drop i).map BC) v):=by
 refine BE.of func261 rfl rfl (by exact Nb rfl) fun M0 w0 S rs M1 w1=> ?_
 have HG:([BC x]:List (List Pr)).flatten.length=4:=rfl
 have HH:([BC x]:List (List Pr)).length=1:=rfl
 have Im:((l.map BC).flatten).length=l.length*4:=by rw [CO (sz:=4) (BF fun _=>rfl),List.length_map]
 have e1:(((i:Nat):Int)+(1:Int)).toNat=i+1:=by omega
 have e2:((i:Nat):Int).toNat=i:=by omega
 refine a2 ?_
 refine co rfl (J6 rfl underlying30 Be (Ka rfl) (vl rfl) (by omega) (by omega) (by omega)) ?_
 refine a2 ?_
 refine co rfl (CV rfl underlying30 (vl rfl)) ?_
 refine ac ?_
 refine an ?_ ?_<;>intro h1 q1
 simp at h1
 refine a2 ?_
 refine co rfl (D9 rfl underlying30 (Ka rfl)) ?_
 refine a2 ?_
 refine GS 0 1 2 7 8 22 rfl ?_
 refine Tr.cn rfl ?_ ?_<;>intro h2 q2
 refine Tr.seq (Tr.Jc (sz:=4) 0 rfl (rows:=l.map BC) (sp:=sp) rfl (by simp) hc hm hq ?_)
 refine ap ?_
 refine TO.GR 0 rfl rfl (by decide) (OP rfl rfl (by decide) rfl underlying30 Be Nz JG rfl (by decide) (by decide) (vl rfl) (vl rfl) (BF fun _=>rfl) (Nat.zero_lt_succ _) (by simp only [List.length_map,List.length_cons,List.length_nil];unfold maxLen;omega) (by simp only [List.length_map,List.length_cons,List.length_nil];omega)) (fun v1=> ?_)
 refine ap ?_
 refine Tr.ret (Fin.AJ ?_)
 refine Fin.Dz rfl rfl ?_ (by rintro _ _ _ ⟨rfl,_⟩;rw [show i=l.length by omega,List.take_length,List.drop_length,List.append_nil,List.map_append];rfl)
 · exact Pr.le_trans (Ar _ _) (Pr.le_of_eq (by simp))
 refine a2 ?_
 refine co rfl (To rfl underlying30 (Ka rfl)) ?_
 refine an ?_ ?_<;>intro h3 q3
 refine ap ?_
 refine tp rfl (Fo rfl underlying30 Be (Ka rfl) (vl rfl) (by omega) (by omega) (by omega) (by omega)) ?_
 refine ap ?_
 refine TO.pad ?_
 refine TO.cW 0 1 rfl rfl rfl rfl (by decide) rfl underlying30 underlying3 Be Nz JG rfl (by decide) (by decide) (vl rfl) (vl rfl) (i:=i) (k:=l.length+1-i) (by omega) (by simp only [List.length_append,List.length_take,List.length_drop,List.length_map,Im,HH,HG];omega) (by omega) (by omega) (by unfold maxLen;omega) (by omega) (fun b1 gG gH hg1 hm1 hs1=> ?_)
 refine ap ?_
 refine EM 0 1 2 7 9 rfl (Tr.seq ?_)
 have hsz:gH.length=(gG-i)*4:=by have:=hs1;rw [List.length_take,List.length_append,Im] at this;omega
 refine Tr.Qu (sz:=4) (l.map BC) 1 0 rfl rfl (Pr.le_trans (Dj _ _) (Pr.le_of_eq (by simp))) (BF fun _=>rfl) (by rw [List.length_map];exact hc) hm (by rw [List.length_map,List.length_map];omega) ?_
 refine ap ?_
 refine tp rfl (Bz rfl underlying30 Be (vl rfl) (vl rfl) (by omega) (by omega) (by omega)) (tm rfl ?_)
 refine TO.FF 0 rfl rfl (by decide) (G9 rfl rfl rfl underlying30 Be (by decide) (vl rfl) (vl rfl) (by omega) (by omega) (by simp only [List.length_append,List.length_take,List.length_drop,List.length_map,Im,HH,HG];omega) rfl) ?_
 refine ap ?_
 refine Tr.seq (Tr.rx ?_)
 refine ay ?_
 refine xo rfl (fun _=>Bz rfl underlying30 Be (vl rfl) (vl rfl) (by omega) (by omega) (by omega)) ?_
 refine ay ?_
 refine xo rfl (fun _=>B1 rfl underlying30 Be (Kb rfl) (vl rfl) (by omega) (by simp;omega)) ?_
 refine Cx.ef 0 rfl rfl (by decide) (G9 rfl rfl rfl underlying30 Be (by decide) (vl rfl) (vl rfl) (by simp only [List.length_append,List.length_take,List.length_drop,List.length_map,Im,HH,HG];omega) (by simp only [List.length_append,List.length_take,List.length_drop,List.length_map,Im,HH,HG];omega) (by simp only [List.length_append,List.length_take,List.length_drop,List.length_map,Im,HH,HG];omega) rfl) ?_
 refine Cx.nil ⟨by kernel_rfl,?_⟩
 refine A9.done Wd (Fin.go (DD 9 rfl ?_))
 refine ac ?_
 refine Tr.ret (Fin.AJ ?_)
 refine Fin.Kn (sz:=4) 0 rfl (rows:=((l.take i++[x]++l.drop i).map BC)) (sp:=gH.drop ((l.length+1-i)*4)) (m:=i+(l.length+1-i)) (NH (a:=i*4) (z:=4) (Z:=gH.map is) (N:=l.length*4) Im (by omega) rfl (by rw [List.length_map];omega) (by omega) (by omega) (by omega) (by omega) (by rw [List.length_drop,List.length_map];omega) (by rw [←List.map_drop,GF (f:=BC) (sz:=4) (fun _=>rfl),e2]) (by rw [List.map_drop,show (l.length+1-i)*4=l.length*4+4-i*4 by omega,←I2 (f:=BC) (sz:=4) (l:=l) (i:=i) (x:=x) (fun _=>rfl)];rfl)) (by simp only [List.length_map,List.length_append,List.length_take,List.length_drop,List.length_cons,List.length_nil];omega) (by omega) hm1 (by rw [List.length_drop];omega) ?_
 refine Fin.drop 1 ?_
 refine Fin.Dz rfl rfl ?_ (by rintro _ _ _ rfl;rfl)
 · rintro _ _ _ rfl;exact ⟨_,_,by congr 1;omega⟩
 refine a2 ?_
 refine co rfl (J5 rfl underlying30 Be (Ka rfl) (vl rfl) (by omega) (by omega) (by omega)) ?_
 refine ac ?_
 refine EM 0 1 2 7 8 rfl ?_
 refine ap ?_
 refine tp rfl (Bz rfl underlying30 Be (vl rfl) (vl rfl) (by omega) (by omega) (by omega)) ?_
 refine TO.rd 0 rfl rfl rfl (by decide) (LK (tR:=4) rfl func289 (by kernel_rfl) (by kernel_rfl) (by kernel_rfl) (by kernel_rfl) underlying30 Be (by decide) (vl rfl) (by exact Nat.zero_lt_succ _) (vl rfl) (by simp only [List.length_append,List.length_take,List.length_drop,List.length_map,Im,HH,HG];omega)) ?_
 refine ap ?_
 refine Tr.cn rfl ?_ ?_<;>intro h4 q4
 refine Tr.seq (Tr.rx ?_)
 refine ay ?_
 refine xo rfl (fun _=>Bz rfl underlying30 Be (vl rfl) (vl rfl) (by omega) (by omega) (by omega)) ?_
 refine ay ?_
 refine xo rfl (fun _=>Bz rfl underlying30 Be (vl rfl) (vl rfl) (by omega) (by omega) (by omega)) ?_
 refine Cx.ef 0 rfl rfl (by decide) (Q0 (m:=l.length-i) rfl rfl rfl underlying30 Be (vl rfl) (vl rfl) (by show _=min _ _;omega) (by simp only [List.length_append,List.length_take,List.length_drop,List.length_map,Im,HH,HG];omega) (by simp only [List.length_append,List.length_take,List.length_drop,List.length_map,Im,HH,HG];omega) rfl) ?_
 refine Cx.nil ⟨by kernel_rfl,?_⟩
 refine A9.done KP (Fin.go (Cr 0 1 2 rfl ?_))
 refine ap ?_
 refine tp rfl (Bz rfl underlying30 Be (vl rfl) (vl rfl) (by omega) (by omega) (by omega)) (tm rfl ?_)
 refine TO.FF 0 rfl rfl (by decide) (G9 rfl rfl rfl underlying30 Be (by decide) (vl rfl) (vl rfl) (by omega) (by omega) (by simp only [List.length_append,List.length_take,List.length_drop,List.length_map,Im,HH,HG];omega) rfl) ?_
 refine ap ?_
 refine ac ?_
 refine Tr.ret (Fin.AJ ?_)
 refine Fin.Kn (sz:=4) 0 rfl (rows:=((l.take i++[x]++l.drop i).map BC)) (sp:=sp.drop 4) (m:=l.length+1) (NG (a:=i*4) (z:=4) (S:=sp.map is) (N:=l.length*4) Im (by omega) rfl (by rw [List.length_map];omega) (by omega) (by omega) (by omega) (by omega) (by omega) (by omega) (by rw [List.map_drop,←I2 (f:=BC) (sz:=4) (l:=l) (i:=i) (x:=x) (fun _=>rfl)];rfl)) (by simp only [List.length_map,List.length_append,List.length_take,List.length_drop,List.length_cons,List.length_nil];omega) (by omega) hm (by rw [List.length_drop];omega) ?_
 refine Fin.Dz rfl rfl ?_ (by rintro _ _ _ rfl;rfl)
 · rintro _ _ _ rfl;exact ⟨_,_,by rfl⟩
 exact absurd h4 (by decide)
theorem aM:Entry Tryz.prog 261:=⟨_,Tryz.func261,rfl,rfl⟩
theorem aN {x:DO}  :BE prog 261 [full 4 [],int ((0:Nat):Int),slice 4 [BC x]] (lens 1) (Bw) (fun v=>C8 27 4 [BC x] v):=by
 refine BE.of func261 rfl rfl (by exact Nb rfl) fun M0 w0 S rs M1 w1=> ?_
 have HH:([BC x]:List (List Pr)).length=1:=rfl
 refine a2 ?_
 refine co rfl (B1 rfl underlying30 Be (Kf rfl) (vl rfl) (by omega) (by omega)) ?_
 refine a2 ?_
 refine co rfl (CV rfl underlying30 (vl rfl)) ?_
 refine ac ?_
 refine an ?_ ?_<;>intro h1 q1
 simp at h1
 refine a2 ?_
 refine co rfl (CV rfl underlying30 (Kf rfl)) ?_
 refine a2 ?_
 refine GS 0 1 2 7 8 22 rfl ?_
 refine Tr.cn rfl ?_ ?_<;>intro h2 q2
 refine ap ?_
 refine TO.pad ?_
 refine TO.GR 0 rfl rfl (by decide) (Eo rfl rfl (by decide) rfl underlying30 Be Nz JG rfl (by decide) (by decide) (vl rfl) (vl rfl) (by simp) (by simp;unfold maxLen;omega) (by simp)) (fun v1=> ?_)
 refine ap ?_
 refine Tr.ret (Fin.AJ (Fin.drop 1 ?_))
 refine Fin.Dz rfl rfl ?_ (by intro _ _ _ h;rw [h.1])
 · exact Pr.le_trans (Ar _ _) (Lr)
 exact absurd h2 (by decide)
theorem aO {l:List (DO)} {x:DO} {v:Value} {i:Nat} (hi:i≤l.length) (hl:l.length≤1000000):BE Tryz.prog 261 [is v,int ((i:Nat):Int),slice 4 [BC x]] (slice 4 ((l.take i++[x]++l.drop i).map BC)) (Ap 27 4 (l.map BC) v) (fun _=>Bw):=by
 refine BE.ZG (e:=27) (m:=l.length+1) (BF fun _=>rfl) (BE.I0 aM (fun h0=> ?_) (fun b cap sp hc hm hq=> ?_))
 ·
  have Q1:l=[]:=by simpa using h0
  subst Q1
  have hi0:i=0:=by simpa using hi
  subst hi0
  exact BE.Jd aN
 ·
  rw [List.length_map] at hc hq ⊢
  exact aL hi hl hc hm (by omega)
theorem aP {l:List (DO)} {v:Value} {i:Nat} (hi:i<l.length) (hl:l.length≤1000000):BE Tryz.prog 214 [is v,int ((i:Nat):Int),int (((i:Nat):Int)+1)] (slice 4 ((l.eraseIdx i).map BC)) (Ap 27 4 (l.map BC) v) (fun _=>Bw):=by
 refine BE.ZG (e:=27) (m:=l.length-1) (BF fun _=>rfl) (BE.I0 aH (fun h0=> ?_) (fun b cap sp hc hm hq=> ?_))
 ·
  have Q1:l=[]:=by simpa using h0
  subst Q1;simp at hi
 ·
  rw [List.length_map] at hc hq ⊢
  exact aG hi hl hc hm (by omega)
theorem T2 {l:List Int} {x:Int} {v:Value}:BE Tryz.prog 207 [is v,int x] (int (idx (fun y=>x==y) l)) (Ap 3 1 (l.map fun n=>[int n]) v) (fun _=>Ap 3 1 (l.map fun n=>[int n]) v):=BE.NA (BF fun _=>rfl) NI
theorem Pt {l:List Int} {x:Int} {v:Value}:BE Tryz.prog 190 [is v,int x] (bool (l.any fun y=>x==y)) (Ap 3 1 (l.map fun n=>[int n]) v) (fun _=>Ap 3 1 (l.map fun n=>[int n]) v):=BE.NA (BF fun _=>rfl) IZ
structure DO.small (x:DO):Prop where
 chain:x.chain.length≤925904528640
 names:∀c∈x.chain,c.names.length≤8796093022208
theorem FB {x:DO} (hx:x.small):A4 prog 166 [agg (BC x)] (agg (BC x)):=by
 refine fo func166 rfl ⟨rfl,rfl⟩ fun M0 w0=> ?_
 have hch:=hx.chain
 refine Tr.seq (Tr.Ax ?_)
 refine TO.IA rfl rfl (by decide) rfl (Va rfl) (fun b1=> ?_)
 refine Tl rfl rfl rfl rfl JG IB (fun b2=> ?_)
 refine ao ?_
 refine ao ?_
 refine TO.pad ?_
 refine TO.GR 0 rfl rfl (by decide) (Ej rfl rfl (by decide) rfl (U5 (l:=x.chain) (by omega)) ⟨ke rfl,trivial⟩) (fun v1=> ?_)
 refine tp rfl (AE rfl V2 (vl rfl)) (TO.CT 2 rfl rfl (Ab rfl rfl (vl rfl) (Vo rfl) jj rfl (by exact Nb rfl) rfl) ?_)
 refine ao ?_
 refine ac ?_
 refine co rfl (Az 0 rfl (Ff rfl underlying25 (Ka rfl))) ?_
 refine ac ?_
 refine Tr.block (Tr.re 11 rfl (int_eq (by rw [List.length_map])) (Tr.BW [(1,_),(2,_),(10,_),(11,_)] (R7 rfl) (fun k:Nat=>[(12,int ((k:Nat):Int))]) (fun k:Nat=>k≤(x.chain).length) (fun k:Nat=>(x.chain).length-k) 0 (Nat.zero_le _) ⟨ke rfl,trivial⟩ ?_))
 rintro k Bk
 refine ac ?_
 refine Tr.seq ?_
 refine Tr.cn rfl ?_ ?_<;>intro h1 q1
 have Ao:k<(x.chain).length:=AZ h1
 obtain ⟨c,An⟩:=at_ Ao
 have hcn:=hx.names c (List.mem_of_getElem? An)
 refine ac ?_
 refine ao ?_
 refine tp rfl (Az 0 rfl (FT rfl underlying25 Cw (Ka rfl) (vl rfl) (by omega) (by rw [List.length_map];omega))) ?_
 refine tp rfl (Az 0 rfl (FU rfl Em Cw (vl rfl) (BF fun _=>rfl) (by rw [Int.toNat_natCast,List.getElem?_map,An];rfl))) ?_
 refine Tl rfl rfl rfl rfl z131 JI (fun b3=> ?_)
 refine tm rfl ?_
 refine sf 0 4 ⟨rfl,rfl,rfl⟩ rfl rfl rfl rfl ?_
 refine ao ?_
 refine Tr.rx ?_
 refine ax ?_
 refine xo rfl (fun _=>Bq (U8 hcn) rfl rfl) ?_
 refine Ev 0 rfl rfl (FT rfl underlying25 Cw (Ka rfl) (vl rfl) (by omega) (by rw [List.length_map];omega)) ?_
 refine xo rfl (fun _=>Sb rfl Qr (vl rfl)) ?_
 refine Cx.CT 0 rfl rfl (FV rfl rfl (vl rfl) (Vo rfl) jr rfl (BF fun _=>rfl) (by rw [Int.toNat_natCast,List.getElem?_map,An];rfl) (by decide) (HA (f:=C1) An rfl)) ?_
 refine Cx.nil ⟨by kernel_rfl,?_⟩
 refine A9.done Wd ?_
 refine ac ?_
 refine EM 1 2 10 11 12 rfl ?_
 refine ac ?_
 exact Fin.AG (k+1) ⟨Ao,by omega⟩ ⟨⟨_,rfl,AS k⟩,ke rfl,ke rfl,ke rfl,ke rfl,trivial⟩
 have BQ:k=(x.chain).length:=by have:=Aa h1;omega
 subst BQ
 refine ac ?_
 refine Tr.seq (Tr.J7 2 0 3 rfl rfl (by decide) rfl (Dj _ _) (BF fun _=>rfl) ?_)
 refine ao ?_
 refine TO.AR 1 rfl rfl rfl (vl rfl) (Va rfl) rfl Be rfl rfl ?_
 refine ao ?_
 refine Tr.drop 0 (Tr.drop 1 (Tr.ret (Fin.CG rfl (AL.cell 0 rfl rfl Ew Be rfl (Lr)) ?_)))
 · exact Lr
structure B8 where
 Ah:Int
 kind:Int
 number:Int
 at_:Int
 Cl:DO
abbrev B3 (c:B8):List Pr:=[int c.Ah,int c.kind,int c.number,int c.at_,int c.Cl.BO,int c.Cl.bits,int c.Cl.BG,Il c.Cl.chain]
abbrev NV (c b:B8):List Pr:=[int c.Ah,int c.kind,int c.number,int c.at_,int c.Cl.BO,int c.Cl.bits,int c.Cl.BG,Il c.Cl.chain,int b.Ah,int b.kind,int b.number,int b.at_,int b.Cl.BO,int b.Cl.bits,int b.Cl.BG,Il b.Cl.chain]
abbrev XT (e:BJ) (p3 p5 p6 p7:Pr):List Pr:=[str e.name,int e.least,int e.most,p3,bool e.own,p5,p6,p7,bool e.De]
abbrev BV (wb ob:Nat) (c b:B8):BS:=AA true wb 159 (ptr ob 0::NV c b)
abbrev Bi (ob:Nat) (e:BJ) (p3 p5 p6 p7:Pr):BS:=AA true ob 32 (XT e p3 p5 p6 p7)
def A7 (key:Int) (l:List DO):Int:=idx (fun x=>x.BG==key) l
theorem I5 {β:Type} {p:β→Bool} {l:List β} (h:0≤idx p l):∃x,l[(idx p l).toNat]? =some x∧p x=true∧(idx p l).toNat<l.length:=by
 unfold idx at*
 cases hf:l.findIdx? p with
 |none=>rw [hf] at h;simp at h
 |some i=>
  rw [List.findIdx?_eq_some_iff_getElem] at hf
  obtain ⟨h1,h2,_⟩:=hf
  refine ⟨l[i],?_,h2,by simpa using h1⟩
  simp
theorem gI {key:Int} {x:DO}  :A4 prog 260 [agg (BC x),ref [int key]] (bool (x.BG==key)):=by
 refine fo func260 rfl ⟨rfl,rfl⟩ fun M0 w0=> ?_
 refine a3 ?_
 · exact Lr
theorem gJ:Entry Tryz.prog 260:=⟨_,Tryz.func260,rfl,rfl⟩
theorem gK {e:BJ} {key:Int} {YS:List Pr}  :A4 prog 210 [ref (ref (Aj e)::YS),int key] (int (A7 key e.ids)):=by
 refine fo func210 rfl ⟨rfl,rfl⟩ fun M0 w0=> ?_
 refine a2 ?_
 refine co rfl (AX rfl (XS (l:=e.ids) (p:=fun x=>x.BG==key)) ⟨ke rfl,⟨_,rfl,Bt (dom:=fun x:DO=>[agg (BC x)]) (res:=fun x=>bool (x.BG==key)) gJ (fun x=>gI (key:=key) (x:=x))⟩,trivial⟩) ?_
 refine a2 ?_
 · exact Lr
theorem aQ {c b:B8} {x:DO} {q:Pr}  :A4 prog 213 [agg (BC x),ref [ref (q::NV c b)]] (bool (x.BG==c.number)):=by
 refine fo func213 rfl ⟨rfl,rfl⟩ fun M0 w0=> ?_
 refine a3 ?_
 · exact Lr
theorem aR:Entry Tryz.prog 213:=⟨_,Tryz.func213,rfl,rfl⟩
theorem Oj {e:BJ} {c b:B8} {wb ob:Nat} {p3 p6 p7:Pr} {v:Value} {key:Int} (h3:p3=ints e.AF) (h6:p6=ints e.anchors) (h7:p7=ints e.hashes):A3 Tryz.prog 210 [ptr wb 0,int key] [BV wb ob c b,Bi ob e p3 (is v) p6 p7,Ap 27 4 (e.ids.map BC) v] (int (A7 key e.ids)) [BV wb ob c b,Bi ob e p3 (is v) p6 p7,Ap 27 4 (e.ids.map BC) v]:=by
 subst h3;subst h6;subst h7
 exact A3.look (k:=5) (rows:=Aj e) (sz:=4) rfl (BF fun _=>rfl) rfl gK
theorem T3 {l:List DO} {c b:B8} {wb ob:Nat} {v:Value} {k:Nat}:A3 prog 212 [Cp.part 4 v k,fn (.func 213) [ref [ptr wb 0]]] [BV wb ob c b,Ap 27 4 (l.map BC) v] (bool ((l.drop k).any fun x=>x.BG==c.number)) [BV wb ob c b,Ap 27 4 (l.map BC) v]:=by
 refine A3.Wb (BF fun _=>rfl) ?_
 refine A4.le (gF (l:=l.drop k) (p:=fun x=>x.BG==c.number)) ?_ (Lr)
 intro M w vs hv
 match vs,hv with
 |[u0,u1],HH=>
  exact ⟨by have:=HH.1;rw [←List.map_drop] at this;exact this,Bt (dom:=fun x:DO=>[agg (BC x)]) (res:=fun x=>bool (x.BG==c.number)) aR (fun x=>aQ (c:=c) (b:=b) (x:=x)) _ _ _ HH.2.1,trivial⟩
theorem Pu {e:BJ} {c b:B8} {wb ob:Nat} {v:Value} {p5 p6 p7:Pr}  (h:(idx (fun y=>c.number==y) e.AF)<0):A3 prog 168 [ptr wb 0] [BV wb ob c b,Bi ob e (is v) p5 p6 p7,Ap 3 1 (e.AF.map fun n=>[int n]) v] (int 41) []:=by
 refine A3.of func168 rfl rfl (by exact Nb rfl) fun M0 w0 S rs M1 w1=> ?_
 refine ac ?_
 refine Tr.seq (Tr.rx ?_)
 refine ay ?_
 refine Cx.ef 2 rfl rfl (by decide) (AV rfl rfl (by decide) rfl (T2) ⟨ke rfl,ke rfl,trivial⟩) (xm rfl ?_)
 refine Cx.nil ⟨by kernel_rfl,?_⟩
 refine A9.done IY (Fin.go (CL 0 3 rfl ?_))
 refine an ?_ ?_<;>intro h1 q1
 refine ac ?_
 refine Tr.ret (Fin.AJ (Fin.drop 0 (Fin.drop 0 (Fin.drop 0 (Fin.CS rfl (AL.tmp rfl (Lr)) ?_ (List.Perm.refl _))))))
 · exact Lr
 exfalso;have:=q1;omega
theorem Pv {e:BJ} {c b:B8} {wb ob:Nat} {v:Value} {p5 p6 p7:Pr}  (h:0≤(idx (fun y=>c.number==y) e.AF)) (hs:e.AF.length≤1000000):A3 prog 168 [ptr wb 0] [BV wb ob c b,Bi ob e (is v) p5 p6 p7,Ap 3 1 (e.AF.map fun n=>[int n]) v] (int 0) [BV wb ob c ⟨b.Ah,1,c.number,(idx (fun y=>c.number==y) e.AF),b.Cl⟩,Bi ob e (ints (e.AF.eraseIdx (idx (fun y=>c.number==y) e.AF).toNat)) p5 p6 p7]:=by
 refine A3.of func168 rfl rfl (by exact Nb rfl) fun M0 w0 S rs M1 w1=> ?_
 obtain ⟨x_,hx_,_,nF⟩:=I5 h
 refine ac ?_
 refine Tr.seq (Tr.rx ?_)
 refine ay ?_
 refine Cx.ef 2 rfl rfl (by decide) (AV rfl rfl (by decide) rfl (T2) ⟨ke rfl,ke rfl,trivial⟩) (xm rfl ?_)
 refine Cx.nil ⟨by kernel_rfl,?_⟩
 refine A9.done IY (Fin.go (CL 0 3 rfl ?_))
 refine an ?_ ?_<;>intro h1 q1
 exfalso;have:=q1;omega
 refine ac ?_
 refine Tr.seq (Tr.rx ?_)
 refine ay ?_
 refine Cx.ef 2 rfl rfl (by decide) (AV rfl rfl (by decide) rfl (Pq (l:=e.AF) (i:=(idx (fun y=>c.number==y) e.AF).toNat) (by omega) hs) ⟨ke rfl,⟨_,rfl,int_eq (by omega)⟩,⟨_,rfl,int_eq (by omega)⟩,trivial⟩) ?_
 refine ay ?_
 refine Cx.nil ⟨by kernel_rfl,?_⟩
 refine A9.done IY (Fin.go (CL 0 3 rfl ?_))
 refine ap ?_
 refine Tr.weak [] trivial ?_
 refine ac ?_
 refine Tr.ret (Fin.drop 2 (Fin.CS rfl (AL.tmp rfl (Lr)) ?_ (List.Perm.refl _)))
 · exact Lr
theorem U9 {e:BJ} {x:DO} {at_:Int} {ob:Nat} {v:Value} {p3 p6 p7:Pr}  (hr:¬(0≤at_∧at_≤(e.ids.length:Nat))):A3 prog 211 [ptr ob 5,int at_,agg (BC x)] [Bi ob e p3 (is v) p6 p7,Ap 27 4 (e.ids.map BC) v] (int 2) []:=by
 refine A3.of func211 rfl rfl (by exact Nb rfl) fun M0 w0 S rs M1 w1=>(Tr.seq ?_)
 have hml:(e.ids.map BC).length=e.ids.length:=List.length_map _
 refine ac ?_
 refine ag ?_ ?_<;>intro h1 q1
 have hq9:=q1
 refine a2 ?_
 refine Tr.ret (Fin.AJ (Fin.drop 0 (Fin.drop 0 (Fin.CS rfl (AL.tmp rfl (Lr)) ?_ (List.Perm.refl _)))))
 · exact Lr
 refine ac ?_
 refine cy h1 rfl (Az 1 rfl (Ff rfl underlying30 (vl rfl))) ?_
 refine an ?_ ?_<;>intro h2 q2
 refine ac ?_
 refine Tr.ret (Fin.AJ (Fin.drop 0 (Fin.drop 0 (Fin.CS rfl (AL.tmp rfl (Lr)) ?_ (List.Perm.refl _)))))
 · exact Lr
 exfalso;simp_all
theorem RO {e:BJ} {x:DO} {at_:Int} {ob:Nat} {v:Value} {p3 p6 p7:Pr}  (hr:0≤at_∧at_≤(e.ids.length:Nat)) (hl:e.ids.length≤1000000):A3 prog 211 [ptr ob 5,int at_,agg (BC x)] [Bi ob e p3 (is v) p6 p7,Ap 27 4 (e.ids.map BC) v] (int 0) [Bi ob e p3 (DC (e.ids.take at_.toNat++[x]++e.ids.drop at_.toNat)) p6 p7]:=by
 refine A3.of func211 rfl rfl (by exact Nb rfl) fun M0 w0 S rs M1 w1=>(Tr.seq ?_)
 have hml:(e.ids.map BC).length=e.ids.length:=List.length_map _
 refine ac ?_
 refine ag ?_ ?_<;>intro h1 q1
 exfalso;have:=q1;omega
 refine ac ?_
 refine cy h1 rfl (Az 1 rfl (Ff rfl underlying30 (vl rfl))) ?_
 refine an ?_ ?_<;>intro h2 q2
 exfalso;simp_all;omega
 refine ac ?_
 refine Tr.seq (Tr.rx ?_)
 refine ay ?_
 refine xo rfl (fun _=>AM (xs:=[.tmp 22]) (rows:=[_]) rfl rfl underlying30 Be JG rfl (by decide) ⟨⟨(by exact rfl),(Va rfl)⟩,trivial⟩ (by decide)) ?_
 refine Cx.ef 1 rfl rfl (by decide) (AV rfl rfl (by decide) rfl (aO (l:=e.ids) (x:=x) (i:=at_.toNat) (by omega) hl) ⟨ke rfl,⟨_,rfl,int_eq (by omega)⟩,(Kf rfl),trivial⟩) ?_
 refine ay ?_
 refine Cx.nil ⟨by kernel_rfl,?_⟩
 refine A9.done Wd (Fin.go (Tr.weak [] trivial ?_))
 refine ac ?_
 refine Tr.ret (Fin.drop 1 (Fin.CS rfl (AL.tmp rfl (Lr)) ?_ (List.Perm.refl _)))
 · exact Lr
theorem A3.perm {P:Program} {f:FuncId} {args:List Pr} {pre post post':List BS} {res:Pr} (h:A3 P f args pre res post) (hp:post.Perm post'):A3 P f args pre res post':=
 ⟨h.1,fun M0 w0 S rs M w vs hI hv=>(h.2 M0 w0 S rs M w vs hI hv).mono fun _e _w' ⟨v,M',x,h1,h2,h3,h4,h5⟩=>⟨v,M',x,h1,h2,h3,h4,Bl.perm (hp.append_right rs) h5⟩⟩
theorem U_ {e:BJ} {c b:B8} {wb ob:Nat} {v:Value}  (hx:c.Cl.small) (hr:¬(0≤c.at_∧c.at_≤(e.ids.length:Nat))):A3 prog 171 [ptr wb 0] [BV wb ob c b,Bi ob e (ints e.AF) (is v) (ints e.anchors) (ints e.hashes),Ap 27 4 (e.ids.map BC) v] (int 2) []:=by
 refine A3.of func171 rfl rfl (by exact Nb rfl) fun M0 w0 S rs M1 w1=> ?_
 refine ac ?_
 refine ap ?_
 refine TO.DF _ rfl rfl (by decide) rfl (Oj (e:=e) (c:=c) (b:=b) (key:=c.Cl.BG) rfl rfl rfl) ⟨ke rfl,ke rfl,trivial⟩ ((AK (j:=0) rfl).trans (List.Perm.cons _ ((AK (j:=0) rfl).trans (List.Perm.cons _ ((AK (j:=0) rfl).trans (List.Perm.cons _ (List.Perm.refl _))))))) ?_
 refine ap ?_
 refine Tr.seq (Tr.seq (Tr.Da mixed 17 (by kernel_rfl) (AP.op rfl rfl (by decide) (BL rfl (vl rfl)) (AP.op rfl rfl (by decide) (A6 rfl (vl rfl)) (AP.op rfl rfl (by decide) (AE rfl HT (vl rfl)) (AP.op rfl rfl (by decide) (Az 0 rfl (Bg rfl Ja (vl rfl) rfl)) (AP.op rfl rfl (by decide) (A6 rfl (vl rfl)) (AP.op rfl rfl (by decide) (AE rfl FR (vl rfl)) (AP.op rfl rfl (by decide) (BL rfl (vl rfl)) (AP.op rfl rfl (by decide) (A6 rfl (vl rfl)) (AP.op rfl rfl (by decide) (AE rfl Dh (vl rfl)) (AP.op rfl rfl (by decide) (AE rfl JW (vl rfl)) (AP.op rfl rfl (by decide) (Az 0 rfl (Bg rfl Ce (vl rfl) rfl)) ?_)))))))))))))
 refine AP.op rfl rfl (by decide) (BL rfl (vl rfl)) (AP.op rfl rfl (by decide) (A6 rfl (vl rfl)) (AP.op rfl rfl (by decide) (AE rfl Dh (vl rfl)) (AP.op rfl rfl (by decide) (AE rfl PC (vl rfl)) (AP.op rfl rfl (by decide) (Az 0 rfl (AQ rfl Ew Be (vl rfl) rfl rfl)) ?_))))
 refine AP.op rfl rfl (by decide) (Bq (FB (x:=c.Cl) hx) rfl rfl) ?_
 refine AP.turn _ rfl (by decide) (EO _ rfl rfl (U9 (e:=e) (x:=c.Cl) (at_:=c.at_) hr) ⟨ke rfl,ke rfl,ke rfl,trivial⟩ ((AK (j:=1) rfl).trans (List.Perm.cons _ ((AK (j:=1) rfl).trans (List.Perm.cons _ (List.Perm.refl _)))))) ?_
 refine ac ?_
 refine Cr 0 3 4 rfl ?_
 refine an ?_ ?_<;>intro h1 q1
 refine ac ?_
 refine Tr.ret (Fin.AJ (Fin.drop 0 (Fin.CS rfl (AL.tmp rfl (Lr)) ?_ (List.Perm.refl _))))
 · exact Lr
 exact absurd h1 (by decide)
theorem VA {e:BJ} {c b:B8} {wb ob:Nat} {v:Value}  (hx:c.Cl.small) (hr:0≤c.at_∧c.at_≤(e.ids.length:Nat)) (hl:e.ids.length≤1000000) (h:0≤A7 c.Cl.BG e.ids):A3 prog 171 [ptr wb 0] [BV wb ob c b,Bi ob e (ints e.AF) (is v) (ints e.anchors) (ints e.hashes),Ap 27 4 (e.ids.map BC) v] (int 41) []:=by
 refine A3.of func171 rfl rfl (by exact Nb rfl) fun M0 w0 S rs M1 w1=> ?_
 refine ac ?_
 refine ap ?_
 refine TO.DF _ rfl rfl (by decide) rfl (Oj (e:=e) (c:=c) (b:=b) (key:=c.Cl.BG) rfl rfl rfl) ⟨ke rfl,ke rfl,trivial⟩ ((AK (j:=0) rfl).trans (List.Perm.cons _ ((AK (j:=0) rfl).trans (List.Perm.cons _ ((AK (j:=0) rfl).trans (List.Perm.cons _ (List.Perm.refl _))))))) ?_
 refine ap ?_
 refine Tr.seq (Tr.seq (Tr.Da mixed 17 (by kernel_rfl) (AP.op rfl rfl (by decide) (BL rfl (vl rfl)) (AP.op rfl rfl (by decide) (A6 rfl (vl rfl)) (AP.op rfl rfl (by decide) (AE rfl HT (vl rfl)) (AP.op rfl rfl (by decide) (Az 0 rfl (Bg rfl Ja (vl rfl) rfl)) (AP.op rfl rfl (by decide) (A6 rfl (vl rfl)) (AP.op rfl rfl (by decide) (AE rfl FR (vl rfl)) (AP.op rfl rfl (by decide) (BL rfl (vl rfl)) (AP.op rfl rfl (by decide) (A6 rfl (vl rfl)) (AP.op rfl rfl (by decide) (AE rfl Dh (vl rfl)) (AP.op rfl rfl (by decide) (AE rfl JW (vl rfl)) (AP.op rfl rfl (by decide) (Az 0 rfl (Bg rfl Ce (vl rfl) rfl)) ?_)))))))))))))
 refine AP.op rfl rfl (by decide) (BL rfl (vl rfl)) (AP.op rfl rfl (by decide) (A6 rfl (vl rfl)) (AP.op rfl rfl (by decide) (AE rfl Dh (vl rfl)) (AP.op rfl rfl (by decide) (AE rfl PC (vl rfl)) (AP.op rfl rfl (by decide) (Az 0 rfl (AQ rfl Ew Be (vl rfl) rfl rfl)) ?_))))
 refine AP.op rfl rfl (by decide) (Bq (FB (x:=c.Cl) hx) rfl rfl) ?_
 refine AP.turn _ rfl (by decide) (EO _ rfl rfl (RO (e:=e) (x:=c.Cl) (at_:=c.at_) hr hl) ⟨ke rfl,ke rfl,ke rfl,trivial⟩ ((AK (j:=1) rfl).trans (List.Perm.cons _ ((AK (j:=1) rfl).trans (List.Perm.cons _ (List.Perm.refl _)))))) ?_
 refine ac ?_
 refine Cr 0 3 4 rfl ?_
 refine an ?_ ?_<;>intro h1 q1
 exact absurd h1 (by decide)
 refine ac ?_
 refine an ?_ ?_<;>intro h2 q2
 refine ac ?_
 refine Tr.ret (Fin.AJ (Fin.drop 0 (Fin.drop 0 (Fin.CS rfl (AL.tmp rfl (Lr)) ?_ (List.Perm.refl _)))))
 · exact Lr
 exfalso;have:=q2;omega
theorem VB {e:BJ} {c b:B8} {wb ob:Nat} {v:Value}  (hx:c.Cl.small) (hr:0≤c.at_∧c.at_≤(e.ids.length:Nat)) (hl:e.ids.length≤1000000) (h:A7 c.Cl.BG e.ids<0):A3 prog 171 [ptr wb 0] [BV wb ob c b,Bi ob e (ints e.AF) (is v) (ints e.anchors) (ints e.hashes),Ap 27 4 (e.ids.map BC) v] (int 0) [Bi ob e (ints e.AF) (DC (e.ids.take c.at_.toNat++[c.Cl]++e.ids.drop c.at_.toNat)) (ints e.anchors) (ints e.hashes),BV wb ob c ⟨b.Ah,6,c.Cl.BG,b.at_,b.Cl⟩]:=by
 refine A3.of func171 rfl rfl (by exact Nb rfl) fun M0 w0 S rs M1 w1=> ?_
 refine ac ?_
 refine ap ?_
 refine TO.DF _ rfl rfl (by decide) rfl (Oj (e:=e) (c:=c) (b:=b) (key:=c.Cl.BG) rfl rfl rfl) ⟨ke rfl,ke rfl,trivial⟩ ((AK (j:=0) rfl).trans (List.Perm.cons _ ((AK (j:=0) rfl).trans (List.Perm.cons _ ((AK (j:=0) rfl).trans (List.Perm.cons _ (List.Perm.refl _))))))) ?_
 refine ap ?_
 refine Tr.seq (Tr.seq (Tr.Da mixed 17 (by kernel_rfl) (AP.op rfl rfl (by decide) (BL rfl (vl rfl)) (AP.op rfl rfl (by decide) (A6 rfl (vl rfl)) (AP.op rfl rfl (by decide) (AE rfl HT (vl rfl)) (AP.op rfl rfl (by decide) (Az 0 rfl (Bg rfl Ja (vl rfl) rfl)) (AP.op rfl rfl (by decide) (A6 rfl (vl rfl)) (AP.op rfl rfl (by decide) (AE rfl FR (vl rfl)) (AP.op rfl rfl (by decide) (BL rfl (vl rfl)) (AP.op rfl rfl (by decide) (A6 rfl (vl rfl)) (AP.op rfl rfl (by decide) (AE rfl Dh (vl rfl)) (AP.op rfl rfl (by decide) (AE rfl JW (vl rfl)) (AP.op rfl rfl (by decide) (Az 0 rfl (Bg rfl Ce (vl rfl) rfl)) ?_)))))))))))))
 refine AP.op rfl rfl (by decide) (BL rfl (vl rfl)) (AP.op rfl rfl (by decide) (A6 rfl (vl rfl)) (AP.op rfl rfl (by decide) (AE rfl Dh (vl rfl)) (AP.op rfl rfl (by decide) (AE rfl PC (vl rfl)) (AP.op rfl rfl (by decide) (Az 0 rfl (AQ rfl Ew Be (vl rfl) rfl rfl)) ?_))))
 refine AP.op rfl rfl (by decide) (Bq (FB (x:=c.Cl) hx) rfl rfl) ?_
 refine AP.turn _ rfl (by decide) (EO _ rfl rfl (RO (e:=e) (x:=c.Cl) (at_:=c.at_) hr hl) ⟨ke rfl,ke rfl,ke rfl,trivial⟩ ((AK (j:=1) rfl).trans (List.Perm.cons _ ((AK (j:=1) rfl).trans (List.Perm.cons _ (List.Perm.refl _)))))) ?_
 refine ac ?_
 refine Cr 0 3 4 rfl ?_
 refine an ?_ ?_<;>intro h1 q1
 exact absurd h1 (by decide)
 refine ac ?_
 refine an ?_ ?_<;>intro h2 q2
 exfalso;have:=q2;omega
 refine ac ?_
 refine ap ?_
 refine Tr.weak [] trivial ?_
 refine ac ?_
 refine Tr.ret (Fin.CS rfl (AL.tmp rfl (Lr)) ?_ (List.Perm.refl _))
 · exact Lr
theorem Sp {e:BJ} {c b:B8} {wb ob:Nat} {v:Value} {x:DO}  (h:A7 c.number e.ids<0):A3 prog 172 [ptr wb 0] [BV wb ob c b,Bi ob e (ints e.AF) (is v) (ints e.anchors) (ints e.hashes),Ap 27 4 (e.ids.map BC) v] (int 41) []:=by
 refine A3.of func172 rfl rfl (by exact Nb rfl) fun M0 w0 S rs M1 w1=> ?_
 refine ac ?_
 refine Tr.seq (Tr.Da mixed 6 (by kernel_rfl) (AP.op rfl rfl (by decide) (Fv rfl JZ rfl) (AP.op rfl rfl (by decide) (Fv rfl JZ rfl) (AP.op rfl rfl (by decide) (A6 rfl (vl rfl)) (AP.op rfl rfl (by decide) (AE rfl Dh (vl rfl)) (AP.op rfl rfl (by decide) (AE rfl HR (vl rfl)) (AP.op rfl rfl (by decide) (Az 0 rfl (Bg rfl Ce (vl rfl) rfl)) ?_)))))))
 refine AP.turn _ rfl (by decide) (EO _ rfl rfl (Oj (e:=e) (c:=c) (b:=b) (key:=c.number) rfl rfl rfl) ⟨ke rfl,ke rfl,trivial⟩ ((AK (j:=0) rfl).trans (List.Perm.cons _ ((AK (j:=0) rfl).trans (List.Perm.cons _ ((AK (j:=0) rfl).trans (List.Perm.cons _ (List.Perm.refl _)))))))) ?_
 refine ac ?_
 refine an ?_ ?_<;>intro h1 q1
 refine ac ?_
 refine Tr.ret (Fin.AJ (Fin.drop 0 (Fin.drop 0 (Fin.drop 0 (Fin.CS rfl (AL.tmp rfl (Lr)) ?_ (List.Perm.refl _))))))
 · exact Lr
 exfalso;have:=q1;omega
theorem Sq {e:BJ} {c b:B8} {wb ob:Nat} {v:Value} {x:DO}  (h:0≤A7 c.number e.ids) (hx:e.ids[(A7 c.number e.ids).toNat]? =some x) (ht:((e.ids.drop (A7 c.number e.ids+1).toNat).any fun x=>x.BG==c.number)=true) (hl:e.ids.length≤1000000):A3 prog 172 [ptr wb 0] [BV wb ob c b,Bi ob e (ints e.AF) (is v) (ints e.anchors) (ints e.hashes),Ap 27 4 (e.ids.map BC) v] (int 5) []:=by
 refine A3.of func172 rfl rfl (by exact Nb rfl) fun M0 w0 S rs M1 w1=> ?_
 have hlt:=Bb hx
 refine ac ?_
 refine Tr.seq (Tr.Da mixed 6 (by kernel_rfl) (AP.op rfl rfl (by decide) (Fv rfl JZ rfl) (AP.op rfl rfl (by decide) (Fv rfl JZ rfl) (AP.op rfl rfl (by decide) (A6 rfl (vl rfl)) (AP.op rfl rfl (by decide) (AE rfl Dh (vl rfl)) (AP.op rfl rfl (by decide) (AE rfl HR (vl rfl)) (AP.op rfl rfl (by decide) (Az 0 rfl (Bg rfl Ce (vl rfl) rfl)) ?_)))))))
 refine AP.turn _ rfl (by decide) (EO _ rfl rfl (Oj (e:=e) (c:=c) (b:=b) (key:=c.number) rfl rfl rfl) ⟨ke rfl,ke rfl,trivial⟩ ((AK (j:=0) rfl).trans (List.Perm.cons _ ((AK (j:=0) rfl).trans (List.Perm.cons _ ((AK (j:=0) rfl).trans (List.Perm.cons _ (List.Perm.refl _)))))))) ?_
 refine ac ?_
 refine an ?_ ?_<;>intro h1 q1
 exfalso;have:=q1;omega
 refine ac ?_
 refine ap ?_
 refine tp rfl (Az 2 rfl (Tp rfl underlying30 Be (vl rfl) (vl rfl) (by omega) (by rw [List.length_map];omega))) ?_
 refine tp rfl (IG rfl rfl) ?_
 refine TO.DF _ rfl rfl (by decide) rfl (T3 (l:=e.ids) (c:=c) (b:=b) (k:=(A7 c.number e.ids+1).toNat)) ⟨ke rfl,ke rfl,trivial⟩ ((AK (j:=0) rfl).trans (List.Perm.cons _ ((AK (j:=1) rfl).trans (List.Perm.cons _ (List.Perm.refl _))))) ?_
 refine ap ?_
 refine Cr 1 3 24 rfl ?_
 refine Tr.cn rfl ?_ ?_<;>intro h2 q2
 refine ac ?_
 refine Tr.ret (Fin.AJ (Fin.drop 0 (Fin.drop 0 (Fin.drop 0 (Fin.CS rfl (AL.tmp rfl (Lr)) ?_ (List.Perm.refl _))))))
 · exact Lr
 rw [ht] at h2;exact absurd h2 (by decide)
theorem Sr {e:BJ} {c b:B8} {wb ob:Nat} {v:Value} {x:DO}  (h:0≤A7 c.number e.ids) (hx:e.ids[(A7 c.number e.ids).toNat]? =some x) (ht:((e.ids.drop (A7 c.number e.ids+1).toNat).any fun x=>x.BG==c.number)=false) (hl:e.ids.length≤1000000):A3 prog 172 [ptr wb 0] [BV wb ob c b,Bi ob e (ints e.AF) (is v) (ints e.anchors) (ints e.hashes),Ap 27 4 (e.ids.map BC) v] (int 0) [BV wb ob c ⟨b.Ah,5,b.number,A7 c.number e.ids,x⟩,Bi ob e (ints e.AF) (DC (e.ids.eraseIdx (A7 c.number e.ids).toNat)) (ints e.anchors) (ints e.hashes)]:=by
 refine A3.of func172 rfl rfl (by exact Nb rfl) fun M0 w0 S rs M1 w1=> ?_
 have hlt:=Bb hx
 refine ac ?_
 refine Tr.seq (Tr.Da mixed 6 (by kernel_rfl) (AP.op rfl rfl (by decide) (Fv rfl JZ rfl) (AP.op rfl rfl (by decide) (Fv rfl JZ rfl) (AP.op rfl rfl (by decide) (A6 rfl (vl rfl)) (AP.op rfl rfl (by decide) (AE rfl Dh (vl rfl)) (AP.op rfl rfl (by decide) (AE rfl HR (vl rfl)) (AP.op rfl rfl (by decide) (Az 0 rfl (Bg rfl Ce (vl rfl) rfl)) ?_)))))))
 refine AP.turn _ rfl (by decide) (EO _ rfl rfl (Oj (e:=e) (c:=c) (b:=b) (key:=c.number) rfl rfl rfl) ⟨ke rfl,ke rfl,trivial⟩ ((AK (j:=0) rfl).trans (List.Perm.cons _ ((AK (j:=0) rfl).trans (List.Perm.cons _ ((AK (j:=0) rfl).trans (List.Perm.cons _ (List.Perm.refl _)))))))) ?_
 refine ac ?_
 refine an ?_ ?_<;>intro h1 q1
 exfalso;have:=q1;omega
 refine ac ?_
 refine ap ?_
 refine tp rfl (Az 2 rfl (Tp rfl underlying30 Be (vl rfl) (vl rfl) (by omega) (by rw [List.length_map];omega))) ?_
 refine tp rfl (IG rfl rfl) ?_
 refine TO.DF _ rfl rfl (by decide) rfl (T3 (l:=e.ids) (c:=c) (b:=b) (k:=(A7 c.number e.ids+1).toNat)) ⟨ke rfl,ke rfl,trivial⟩ ((AK (j:=0) rfl).trans (List.Perm.cons _ ((AK (j:=1) rfl).trans (List.Perm.cons _ (List.Perm.refl _))))) ?_
 refine ap ?_
 refine Cr 1 3 24 rfl ?_
 refine Tr.cn rfl ?_ ?_<;>intro h2 q2
 rw [ht] at h2;exact absurd h2 (by decide)
 refine ac ?_
 refine Tr.seq (Tr.rx ?_)
 refine ay ?_
 refine Ev 1 rfl rfl (FT rfl underlying30 Be (vl rfl) (vl rfl) (by omega) (by rw [List.length_map];omega)) ?_
 refine Ev 1 rfl rfl (FU rfl Ew Be (vl rfl) (BF fun _=>rfl) (by rw [List.getElem?_map,hx];rfl)) ?_
 refine ay ?_
 refine Cx.nil ⟨by kernel_rfl,?_⟩
 refine A9.done IY (Fin.go (CL 1 3 rfl (Tr.seq (Tr.rx ?_))))
 refine ay ?_
 refine Cx.ef 1 rfl rfl (by decide) (AV rfl rfl (by decide) rfl (aP (l:=e.ids) (i:=(A7 c.number e.ids).toNat) hlt hl) ⟨ke rfl,⟨_,rfl,int_eq (by omega)⟩,⟨_,rfl,int_eq (by omega)⟩,trivial⟩) ?_
 refine ay ?_
 refine Cx.nil ⟨by kernel_rfl,?_⟩
 refine A9.done IY (Fin.go (Tr.weak [] trivial ?_))
 refine ac ?_
 refine Tr.ret (Fin.drop 1 (Fin.CS rfl (AL.tmp rfl (Lr)) ?_ (List.Perm.refl _)))
 · exact Lr
def Ec:List Pr:=[is .nilFunc,fn (.func 167) [],fn (.func 168) [],fn (.func 169) [],fn (.func 170) [],fn (.func 171) [],fn (.func 172) [],fn (.func 173) [],fn (.func 174) [],fn (.func 175) [],fn (.func 176) [],fn (.func 177) [],fn (.func 178) []]
def Ol (x:DO):Bool:=decide (x.BO=0∧x.bits=0)&&x.BG==0&&(((x.chain.length:Nat):Int)==0)
def GI (c:B8):Bool:=if c.kind=1 then Ol c.Cl else if c.kind=5 then c.number==0 else c.at_==0&&Ol c.Cl
structure BJ.small (e:BJ):Prop where
 AF:e.AF.length≤1000000
 anchors:e.anchors.length≤1000000
 hashes:e.hashes.length≤1000000
 KF:e.ids.length≤1000000
 ids:∀x∈e.ids,x.small
theorem KG {c:B8} (hx:c.Cl.small):A4 prog 118 [agg (B3 c)] (agg (B3 c)):=by
 refine fo func118 rfl ⟨rfl,rfl⟩ fun M0 w0=>(Tr.seq (Tr.Ax ?_))
 refine TO.IA rfl rfl (by decide) rfl (Va rfl) (fun b1=> ?_)
 refine Tl rfl rfl rfl rfl z29 JV (fun b2=> ?_)
 refine ap ?_
 refine ap ?_
 refine tp rfl (Bq (FB (x:=c.Cl) hx) rfl rfl) ?_
 refine ap ?_
 refine ap ?_
 refine Tr.drop 1 (Tr.ret (Fin.CG rfl (AL.cell 0 rfl rfl CC CK rfl (Lr)) ?_))
 · exact Lr
theorem XU {x:DO}  :A4 prog 163 [agg (BC x)] (bool (Ol x)):=by
 refine fo func163 rfl ⟨rfl,rfl⟩ fun M0 w0=> ?_
 · repeat' first|(refine bool_eq ?_;unfold Ol;simp_all)|refine co rfl (Fg rfl (vl rfl) (vl rfl)) (cm rfl ?_)|refine ac ?_|(refine Ch.cg rfl rfl rfl ?_ ?_<;>intro h q)
theorem Kz {c:B8}  :A4 prog 115 [agg (B3 c)] (bool (GI c)):=by
 refine fo func115 rfl ⟨rfl,rfl⟩ fun M0 w0=> ?_
 · repeat' first|(refine bool_eq ?_;unfold GI;simp_all)|refine co rfl (Bq (XU (x:=c.Cl)) rfl rfl) ?_|refine cy h rfl (Bq (XU (x:=c.Cl)) rfl rfl) ?_|refine ac ?_|(refine Tr.cn rfl ?_ ?_<;>intro h q)|(refine Ch.cg rfl rfl rfl ?_ ?_<;>intro h q)
theorem Fj   :A4 prog 117 [] (agg Ec):=by
 refine fo func117 rfl ⟨rfl,rfl⟩ fun M0 w0=>(Tr.seq (Tr.Ax ?_))
 refine Tl rfl rfl rfl rfl qH cF (fun b1=> ?_)
 refine ap ?_
 refine ap ?_
 refine Tr.ret (Fin.CG rfl (AL.cell 0 rfl rfl eK cE rfl (Lr)) ?_)
 · exact Lr
theorem XV {e:BJ} (B6:e.small):Jg prog 116 [agg (Aj e)] (fun x=>agg (XT e (ints e.AF) (is x) (ints e.anchors) (ints e.hashes))) (fun x=>[Ap 27 4 (e.ids.map BC) x]):=by
 refine Jg.of func116 rfl rfl (by exact Nb rfl) fun M0 w0 S rs M1 w1=> ?_
 have hs1:=B6.AF
 have LM:=B6.anchors
 have T4:=B6.hashes
 have Vk:=B6.KF
 refine Tr.seq (Tr.Ax ?_)
 refine TO.IA rfl rfl (by decide) rfl (Va rfl) (fun b1=> ?_)
 refine Tl rfl rfl rfl rfl z32 Dl (fun b2=> ?_)
 refine ao ?_
 refine Tr.seq (Tr.pad (Tr.rx ?_))
 refine ax ?_
 refine xo rfl (fun _=>Bq (DP (l:=e.AF) hs1) rfl rfl) ?_
 refine ax ?_
 refine xo rfl (fun _=>Bq (DP (l:=e.anchors) LM) rfl rfl) ?_
 refine ax ?_
 refine xo rfl (fun _=>Bq (DP (l:=e.hashes) T4) rfl rfl) ?_
 refine ax ?_
 refine Cx.ef 0 rfl rfl (by decide) (Ej rfl rfl (by decide) rfl (HC (l:=e.ids) Vk) ⟨ke rfl,trivial⟩) ?_
 refine xo rfl (fun _=>AE rfl FQ (vl rfl)) (Cx.CT 2 rfl rfl (Ab rfl rfl (vl rfl) (Vo rfl) GU rfl (by exact Nb rfl) rfl) (xo rfl (fun _=>AE rfl IM (vl rfl)) (Cx.CT 2 rfl rfl (Ab rfl rfl (vl rfl) (Vo rfl) GU rfl (by exact Nb rfl) rfl) (xo rfl (fun _=>AE rfl JX (vl rfl)) (Cx.CT 2 rfl rfl (Ab rfl rfl (vl rfl) (Vo rfl) GU rfl (by exact Nb rfl) rfl) (xo rfl (fun _=>AE rfl FR (vl rfl)) (Cx.CT 2 rfl rfl (Cb rfl rfl rfl (vl rfl) rfl N0 (by exact Nb rfl)) ?_)))))))
 refine Cx.nil ⟨by kernel_rfl,?_⟩
 refine A9.Hu 0 2 16 rfl rfl (by decide) rfl (fun v1=> ?_)
 refine A9.done IY (Fin.go (CL 1 2 rfl ?_))
 refine ac ?_
 refine co rfl (Az 0 rfl (Ff rfl underlying30 (Ka rfl))) ?_
 refine ac ?_
 refine Tr.block (Tr.re 23 rfl (int_eq (by rw [List.length_map])) (Tr.BW [(1,_),(2,_),(22,_),(23,_)] (R7 rfl) (fun k:Nat=>[(24,int ((k:Nat):Int))]) (fun k:Nat=>k≤(e.ids).length) (fun k:Nat=>(e.ids).length-k) 0 (Nat.zero_le _) ⟨ke rfl,trivial⟩ ?_))
 rintro k Bk
 refine ac ?_
 refine Tr.seq ?_
 refine Tr.cn rfl ?_ ?_<;>intro h1 q1
 have Ao:k<(e.ids).length:=AZ h1
 obtain ⟨x,An⟩:=at_ Ao
 have hxs:=B6.ids x (List.mem_of_getElem? An)
 refine ac ?_
 refine ao ?_
 refine tp rfl (Az 0 rfl (FT rfl underlying30 Be (Ka rfl) (vl rfl) (by omega) (by rw [List.length_map];omega))) ?_
 refine tp rfl (Az 0 rfl (FU rfl Ew Be (vl rfl) (BF fun _=>rfl) (by rw [Int.toNat_natCast,List.getElem?_map,An];rfl))) ?_
 refine Tl rfl rfl rfl rfl JG IB (fun b3=> ?_)
 refine tm rfl ?_
 refine sf 0 4 ⟨rfl,rfl,rfl⟩ rfl rfl rfl rfl ?_
 refine ao ?_
 refine Tr.rx ?_
 refine ax ?_
 refine xo rfl (fun _=>Bq (FB hxs) rfl rfl) ?_
 refine Ev 0 rfl rfl (FT rfl underlying30 Be (Ka rfl) (vl rfl) (by omega) (by rw [List.length_map];omega)) ?_
 refine Cx.CT 0 rfl rfl (FV rfl rfl (vl rfl) (Va rfl) Be rfl (BF fun _=>rfl) (by rw [Int.toNat_natCast,List.getElem?_map,An];rfl) (by decide) (HA (f:=BC) (q:=0) (m:=4) An rfl)) ?_
 refine Cx.nil ⟨by kernel_rfl,?_⟩
 refine A9.done IY ?_
 refine ac ?_
 refine EM 1 2 22 23 24 rfl ?_
 refine ac ?_
 exact Fin.AG (k+1) ⟨Ao,by omega⟩ ⟨⟨_,rfl,AS k⟩,ke rfl,ke rfl,ke rfl,ke rfl,trivial⟩
 have BQ:k=(e.ids).length:=by have:=Aa h1;omega
 subst BQ
 refine ac ?_
 refine ao ?_
 refine TO.AR 1 rfl rfl rfl (vl rfl) (Va rfl) rfl BI rfl rfl ?_
 refine ao ?_
 refine Tr.drop 2 (Tr.ret (Fin.Kr (Fin.Ui v1 [_] rfl (AL.cell 0 rfl rfl Bh BI rfl (Lr)) ?_ (List.Perm.refl _))))
 · exact AY ⟨Lr,Lr,Lr,Lr,Lr,Dj _ _,Lr,Lr,Lr,trivial⟩
theorem XW {e:BJ} (B6:e.small):Jg prog 116 [agg (Aj e)] (fun x=>agg (XT e (is x) (DC e.ids) (ints e.anchors) (ints e.hashes))) (fun x=>[Ap 3 1 (e.AF.map fun n=>[int n]) x]):=by
 refine Jg.of func116 rfl rfl (by exact Nb rfl) fun M0 w0 S rs M1 w1=> ?_
 have hs1:=B6.AF
 have LM:=B6.anchors
 have T4:=B6.hashes
 have Vk:=B6.KF
 refine Tr.seq (Tr.Ax ?_)
 refine TO.IA rfl rfl (by decide) rfl (Va rfl) (fun b1=> ?_)
 refine Tl rfl rfl rfl rfl z32 Dl (fun b2=> ?_)
 refine ao ?_
 refine Tr.seq (Tr.pad (Tr.pad (Tr.rx ?_)))
 refine ax ?_
 refine Cx.ef 0 rfl rfl (by decide) (Ej rfl rfl (by decide) rfl (Ky (l:=e.AF) hs1) ⟨ke rfl,trivial⟩) ?_
 refine ax ?_
 refine xo rfl (fun _=>Bq (DP (l:=e.anchors) LM) rfl rfl) ?_
 refine ax ?_
 refine xo rfl (fun _=>Bq (DP (l:=e.hashes) T4) rfl rfl) ?_
 refine ax ?_
 refine Cx.ef 1 rfl rfl (by decide) (Ej rfl rfl (by decide) rfl (HC (l:=e.ids) Vk) ⟨ke rfl,trivial⟩) ?_
 refine xo rfl (fun _=>AE rfl FQ (vl rfl)) (Cx.CT 3 rfl rfl (Cb rfl rfl rfl (vl rfl) rfl GU (by exact Nb rfl)) (xo rfl (fun _=>AE rfl IM (vl rfl)) (Cx.CT 3 rfl rfl (Kq rfl rfl rfl (vl rfl) (Vo rfl) GU rfl (fun _=>by exact Nat.le_of_ble_eq_true rfl)) (xo rfl (fun _=>AE rfl JX (vl rfl)) (Cx.CT 3 rfl rfl (Kq rfl rfl rfl (vl rfl) (Vo rfl) GU rfl (fun _=>by exact Nat.le_of_ble_eq_true rfl)) (xo rfl (fun _=>AE rfl FR (vl rfl)) (Cx.CT 3 rfl rfl (Ko rfl rfl rfl (vl rfl) rfl N0 (fun _=>by exact Nat.le_of_ble_eq_true rfl)) ?_)))))))
 refine Cx.nil ⟨by kernel_rfl,?_⟩
 refine A9.WZ 0 1 3 7 16 rfl rfl rfl (by decide) (by decide) (by decide) (by decide) rfl rfl (fun v1 v2=> ?_)
 refine A9.done Zb (Fin.go (CL 1 2 rfl ?_))
 refine ac ?_
 refine co rfl (Az 1 rfl (Ff rfl underlying30 (Ka rfl))) ?_
 refine ac ?_
 refine Tr.block (Tr.re 23 rfl (int_eq (by rw [List.length_map])) (Tr.BW [(1,_),(2,_),(22,_),(23,_)] (R7 rfl) (fun k:Nat=>[(24,int ((k:Nat):Int))]) (fun k:Nat=>k≤(e.ids).length) (fun k:Nat=>(e.ids).length-k) 0 (Nat.zero_le _) ⟨ke rfl,trivial⟩ ?_))
 rintro k Bk
 refine ac ?_
 refine Tr.seq ?_
 refine Tr.cn rfl ?_ ?_<;>intro h1 q1
 have Ao:k<(e.ids).length:=AZ h1
 obtain ⟨x,An⟩:=at_ Ao
 have hxs:=B6.ids x (List.mem_of_getElem? An)
 refine ac ?_
 refine ao ?_
 refine tp rfl (Az 1 rfl (FT rfl underlying30 Be (Ka rfl) (vl rfl) (by omega) (by rw [List.length_map];omega))) ?_
 refine tp rfl (Az 1 rfl (FU rfl Ew Be (vl rfl) (BF fun _=>rfl) (by rw [Int.toNat_natCast,List.getElem?_map,An];rfl))) ?_
 refine Tl rfl rfl rfl rfl JG IB (fun b3=> ?_)
 refine tm rfl ?_
 refine sf 0 4 ⟨rfl,rfl,rfl⟩ rfl rfl rfl rfl ?_
 refine ao ?_
 refine Tr.rx ?_
 refine ax ?_
 refine xo rfl (fun _=>Bq (FB hxs) rfl rfl) ?_
 refine Ev 1 rfl rfl (FT rfl underlying30 Be (Ka rfl) (vl rfl) (by omega) (by rw [List.length_map];omega)) ?_
 refine Cx.CT 1 rfl rfl (FV rfl rfl (vl rfl) (Va rfl) Be rfl (BF fun _=>rfl) (by rw [Int.toNat_natCast,List.getElem?_map,An];rfl) (by decide) (HA (f:=BC) (q:=0) (m:=4) An rfl)) ?_
 refine Cx.nil ⟨by kernel_rfl,?_⟩
 refine A9.done Zb ?_
 refine ac ?_
 refine EM 1 2 22 23 24 rfl ?_
 refine ac ?_
 exact Fin.AG (k+1) ⟨Ao,by omega⟩ ⟨⟨_,rfl,AS k⟩,ke rfl,ke rfl,ke rfl,ke rfl,trivial⟩
 have BQ:k=(e.ids).length:=by have:=Aa h1;omega
 subst BQ
 refine ac ?_
 refine Tr.seq (Tr.J7 3 1 5 rfl rfl (by decide) rfl (Dj _ _) (BF fun _=>rfl) ?_)
 refine ao ?_
 refine TO.AR 2 rfl rfl rfl (vl rfl) (Va rfl) rfl BI rfl rfl ?_
 refine ao ?_
 refine Tr.drop 1 (Tr.drop 2 (Tr.ret (Fin.Kr (Fin.Ui v1 [_] rfl (AL.cell 0 rfl rfl Bh BI rfl (Lr)) ?_ (List.Perm.refl _)))))
 · exact AY ⟨Lr,Lr,Lr,Dj _ _,Lr,Lr,Lr,Lr,Lr,trivial⟩
def Bf:BJ:=⟨[],0,0,[],false,[],[],[],false⟩
def A8:DO:=⟨0,0,0,[]⟩
def BM:B8:=⟨0,0,0,0,A8⟩
abbrev B0 (c:B8):B8:=⟨c.Ah,0,0,0,A8⟩
abbrev F4 (l:List Int):Prop:=l.Pairwise (· < ·)
def DG (l:List Int) (x:Int):Nat:=(l.takeWhile fun y=>decide (y<x)).length
theorem L6 (l:List Int) (x:Int):DG l x≤l.length:=by
 unfold DG
 have h:=List.takeWhile_append_dropWhile (p:=fun y=>decide (y<x)) (l:=l)
 have:=congrArg List.length h
 rw [List.length_append] at this;omega
theorem L7 {x:Int}:∀{l:List Int} {k:Nat},k≤l.length→(∀(j:Nat) y,j<k→l[j]? =some y→y<x)→(∀y,l[k]? =some y→¬y<x)→DG l x=k
  | [], k, hk, _, _ => by have : k = 0 := by simpa using hk
                          subst this;rfl
  |y::r,0,_,_,h2=>by unfold DG;rw [List.takeWhile_cons_of_neg (by simpa using h2 y rfl)];rfl
  |y::r,k+1,hk,h1,h2=>by
    have ih:=L7 (l:=r) (k:=k) (by simpa using hk) (fun j z hj hz=>h1 (j+1) z (by omega) (by simpa using hz)) (fun z hz=>h2 z (by simpa using hz))
    unfold DG at ih ⊢
    rw [List.takeWhile_cons_of_pos (by simpa using h1 0 y (by omega) rfl),List.length_cons,ih]
theorem Pw {x:Int}:∀{l:List Int} {j:Nat} {y:Int},j<DG l x→l[j]? =some y→y<x
 |[],j,y,h,_=>by unfold DG at h;simp at h
 |z::r,j,y,h,hy=>by
  by_cases hz:z<x
  ·
   cases j with
   |zero=>simp at hy;subst hy;exact hz
   |succ j=>
    refine Pw (l:=r) (j:=j) ?_ (by simpa using hy)
    unfold DG at h ⊢
    rw [List.takeWhile_cons_of_pos (by simpa using hz),List.length_cons] at h;omega
  · unfold DG at h;rw [List.takeWhile_cons_of_neg (by simpa using hz)] at h;simp at h
theorem T5 {x:Int}:∀{l:List Int} {y:Int},l[DG l x]? =some y→¬y<x
 |[],y,h=>by simp at h
 |z::r,y,h=>by
  by_cases hz:z<x
  ·
   unfold DG at h
   rw [List.takeWhile_cons_of_pos (by simpa using hz),List.length_cons,List.getElem?_cons_succ] at h
   exact T5 (l:=r) h
  · unfold DG at h;rw [List.takeWhile_cons_of_neg (by simpa using hz)] at h;simp at h;subst h;exact hz
abbrev Cz (l:List Int) (x:Int):Bool:=(l[DG l x]?).any (fun y=>decide (y=x))
abbrev K0 (l:List Int) (x:Int):List Int:=l.take (DG l x)++[x]++l.drop (DG l x)
theorem Px {l:List Int} (hs:F4 l) {j k:Nat} {y z:Int} (hjk:j<k) (hy:l[j]? =some y) (hz:l[k]? =some z):y<z:=by
 have h1:=Bb hy;have h2:=Bb hz
 have:=List.pairwise_iff_getElem.1 hs j k h1 h2 hjk
 rw [List.getElem?_eq_getElem h1] at hy;rw [List.getElem?_eq_getElem h2] at hz
 cases hy;cases hz;exact this
theorem gL {l:List Int} {x:Int} (hs:F4 l) {h:Nat} {y:Int} (hy:l[h]? =some y) (hyx:y<x):∀(k:Nat) z,k<h+1→l[k]? =some z→z<x:=by
 intro k z hk hz
 rcases Nat.lt_or_eq_of_le (Nat.le_of_lt_succ hk) with h1|h1
 · have:=Px hs h1 hz hy;omega
 · subst h1;rw [hy] at hz;cases hz;exact hyx
theorem gM {l:List Int} {x:Int} (hs:F4 l) {h:Nat} {y:Int} (hy:l[h]? =some y) (hyx:¬y<x):∀(k:Nat) z,h≤k→l[k]? =some z→¬z<x:=by
 intro k z hk hz hzx
 rcases Nat.lt_or_eq_of_le hk with h1|h1
 · have:=Px hs h1 hy hz;omega
 · subst h1;rw [hy] at hz;cases hz;exact hyx hzx
theorem XX {l:List Int} {x:Int} {i:Nat} (hp:DG l x=i) (hi:l.length≤i):Cz l x=false:=by
 unfold Cz;rw [hp,List.getElem?_eq_none hi];rfl
theorem L8 {l:List Int} {x:Int} {i:Nat} {y:Int} (hp:DG l x=i) (hy:l[i]? =some y):Cz l x=decide (y=x):=by
 unfold Cz;rw [hp,hy];rfl
theorem ER {l:List Int} (h:Po l=true):F4 l:=by
 unfold Po at h;rw [Cj] at h
 have h1:∀(d i:Nat) y z,l[i]? =some y→l[i+d+1]? =some z→y<z:=by
  intro d
  induction d with
  |zero=>
   intro i y z hy hz
   have:=h (i+1) (Bb hz)
   unfold FL at this
   rw [DI (show l[i+1]? =some z from hz),DI (show l[i+1-1]? =some y from hy)] at this
   simpa using this
  |succ d ih=>
   intro i y z hy hz
   obtain ⟨m,hm⟩:=at_ (l:=l) (k:=i+d+1) (by have:=Bb hz;omega)
   have a1:=ih i y m hy hm
   have:=h (i+(d+1)+1) (Bb hz)
   unfold FL at this
   rw [DI hz,DI (show l[i+(d+1)+1-1]? =some m from hm)] at this
   have:m<z:=by simpa using this
   omega
 refine List.pairwise_iff_getElem.2 fun i j hi hj hij=> ?_
 refine h1 (j-i-1) i _ _ (List.getElem?_eq_getElem hi) ?_
 rw [show i+(j-i-1)+1=j by omega];exact List.getElem?_eq_getElem hj
theorem nG {a:Int}  :A4 prog 280 [int a] (bool false):=by
 refine fo func280 rfl ⟨rfl,rfl⟩ fun M0 w0=> ?_
 refine a3 ?_
 · refine bool_eq ?_;simp_all
theorem VC {a:Int}  :A4 prog 292 [int a] (bool false):=by
 refine fo func292 rfl ⟨rfl,rfl⟩ fun M0 w0=> ?_
 refine a3 ?_
 · refine bool_eq ?_;simp_all
theorem nH {l:List Int} {x:Int} (hs:F4 l) (hl:l.length≤1000000):A4 prog 262 [ints l,int x] (Eu [int ((DG l x:Nat):Int),bool (Cz l x)]):=by
 refine fo func262 rfl ⟨rfl,rfl⟩ fun M0 w0=>(Tr.EC 0 rfl fun Ex=> ?_)
 refine a3 ?_
 refine Tr.seq (Tr.block ?_)
 refine Tr.Fl [(0,_),(1,_),(6,_)] ⟨ke rfl,ke rfl,ke rfl,trivial⟩ (fun (i:Nat) (j:Nat)=>[(7,int ((i:Nat):Int)),(8,int ((j:Nat):Int))]) (fun (i:Nat) (j:Nat)=>Hp M0 w0 Jp ([])) (fun (i:Nat) (j:Nat)=>i≤j∧j≤l.length∧(∀(k:Nat) y,k<i→l[k]? =some y→y<x)∧(∀(k:Nat) y,j≤k→l[k]? =some y→¬y<x)) (fun (i:Nat) (j:Nat)=>j-i) (0) (l.length)  (⟨Nat.zero_le _,Nat.le_refl _,fun k y h=>absurd h (Nat.not_lt_zero _),fun k y h1 h2=>by rw [List.getElem?_eq_none h1] at h2;cases h2⟩) ⟨ke rfl,ke rfl,trivial⟩ (fun _ _ h=>h) ?_
 rintro i j  ⟨hi1,hi2,hi3,hi4⟩
 refine an ?_ ?_<;>intro h1 q1
 have hij:i<j:=by have:=of_decide_eq_true h1;omega
 obtain ⟨y,nI⟩:=at_ (l:=l) (k:=(i+j)/2) (by omega)
 have hy:l[((((i:Nat):Int)+((j:Nat):Int))/2).toNat]? =some y:=by rw [show ((((i:Nat):Int)+((j:Nat):Int))/2).toNat=(i+j)/2 by omega];exact nI
 refine a2 ?_
 refine co rfl (WY rfl underlying3 underlying251 (vl rfl) (by omega) (by omega)) (co rfl (ZU rfl (vl rfl) (vl rfl) (by omega)) ?_)
 refine co rfl (Qk rfl underlying251 underlying3 (vl rfl) (by unfold GP;omega)) ?_
 refine ac ?_
 refine GS 0 1 6 7 8 9 rfl ?_
 refine ac ?_
 refine co rfl (AB rfl underlying22 Cg (vl rfl) (vl rfl) (by omega) (Du (f:=fun n:Int=>[int n]) hy)) ?_
 refine ac ?_
 refine co rfl (Dc (Zu) rfl rfl rfl) ?_
 refine an ?_ ?_<;>intro h2 q2
 have hlt:=of_decide_eq_true h2
 refine ac ?_
 exact Fin.EN ((i+j)/2+1) (j)  (⟨⟨by omega,by omega,gL hs nI hlt,hi4⟩,by omega⟩) ⟨⟨_,rfl,int_eq (by omega)⟩,⟨_,rfl,int_eq (by omega)⟩,ke rfl,ke rfl,ke rfl,trivial⟩ (fun _ _ h=>h)
 have hlt:=of_decide_eq_false h2
 refine ac ?_
 exact Fin.EN (i) ((i+j)/2)  (⟨⟨by omega,by omega,hi3,gM hs nI hlt⟩,by omega⟩) ⟨⟨_,rfl,int_eq (by omega)⟩,⟨_,rfl,int_eq (by omega)⟩,ke rfl,ke rfl,ke rfl,trivial⟩ (fun _ _ h=>h)
 obtain rfl:i=j:=(by have:=of_decide_eq_false h1;omega)
 have hp:DG l x=i:=L7 (by omega) hi3 (fun y hy=>hi4 i y (by omega) hy)
 refine ac ?_
 refine ag ?_ ?_<;>intro h3 q3
 obtain ⟨y,hyi⟩:=at_ (l:=l) (k:=i) (by have:=q3;simp at this;omega)
 refine ac ?_
 refine cy h3 rfl (AB rfl underlying22 Cg (vl rfl) (vl rfl) (by omega) (Du (f:=fun n:Int=>[int n]) (by rw [Int.toNat_natCast];exact hyi))) ?_
 refine ag ?_ ?_<;>intro h4 q4
 refine ac ?_
 refine CL 4 5 rfl (Tr.ret (Fin.Fz rfl (Ct.F5 _ _) rfl ?_ rfl ?_))
 · exact int_eq (by rw [hp])
 · refine bool_eq ?_;rw [L8 hp hyi];symm;rw [decide_eq_true_eq];simp_all
 refine ac ?_
 refine cy h4 rfl (AB rfl underlying22 Cg (vl rfl) (vl rfl) (by omega) (Du (f:=fun n:Int=>[int n]) (by rw [Int.toNat_natCast];exact hyi))) ?_
 refine cy h4 rfl (Fv rfl Ce rfl) (cy h4 rfl (Bq (VC) rfl rfl) (II h4 rfl ?_))
 refine Ch.cs 48 rfl ?_ ?_<;>intro h5 q5
 exact absurd h5 (by decide)
 refine ac ?_
 refine CL 4 5 rfl (Tr.ret (Fin.Fz rfl (Ct.F5 _ _) rfl ?_ rfl ?_))
 · exact int_eq (by rw [hp])
 · refine bool_eq ?_;rw [L8 hp hyi];symm;rw [decide_eq_false_iff_not];simp_all
 refine ac ?_
 refine CL 4 5 rfl (Tr.ret (Fin.Fz rfl (Ct.F5 _ _) rfl ?_ rfl ?_))
 · exact int_eq (by rw [hp])
 · refine bool_eq ?_;rw [XX hp (by omega)]
theorem Io {l:List Int} {x:Int} {v:Value} (hs:F4 l) (hl:l.length≤1000000):BE Tryz.prog 262 [is v,int x] (Eu [int ((DG l x:Nat):Int),bool (Cz l x)]) (Ap 3 1 (l.map fun n=>[int n]) v) (fun _=>Ap 3 1 (l.map fun n=>[int n]) v):=BE.NA (BF fun _=>rfl) (nH hs hl)
theorem VD {e:BJ} {x at_:Int} {ob:Nat} {v:Value} {p5 p6 p7:Pr}  (hr:¬(0≤at_∧at_≤(e.AF.length:Nat))):A3 prog 206 [ptr ob 3,int at_,int x] [Bi ob e (is v) p5 p6 p7,Ap 3 1 (e.AF.map fun n=>[int n]) v] (int 2) []:=by
 refine A3.of func206 rfl rfl (by exact Nb rfl) fun M0 w0 S rs M1 w1=>(Tr.seq ?_)
 have hml:(e.AF.map fun n=>[int n]).length=e.AF.length:=List.length_map _
 refine ac ?_
 refine ag ?_ ?_<;>intro h1 q1
 have hq9:=q1
 refine a2 ?_
 refine Tr.ret (Fin.AJ (Fin.drop 0 (Fin.drop 0 (Fin.CS rfl (AL.tmp rfl (Lr)) ?_ (List.Perm.refl _)))))
 · exact Lr
 refine ac ?_
 refine cy h1 rfl (Az 1 rfl (Ff rfl underlying22 (vl rfl))) ?_
 refine an ?_ ?_<;>intro h2 q2
 refine ac ?_
 refine Tr.ret (Fin.AJ (Fin.drop 0 (Fin.drop 0 (Fin.CS rfl (AL.tmp rfl (Lr)) ?_ (List.Perm.refl _)))))
 · exact Lr
 exfalso;simp_all
theorem RP {e:BJ} {x at_:Int} {ob:Nat} {v:Value} {p5 p6 p7:Pr}  (hr:0≤at_∧at_≤(e.AF.length:Nat)) (hl:e.AF.length≤1000000):A3 prog 206 [ptr ob 3,int at_,int x] [Bi ob e (is v) p5 p6 p7,Ap 3 1 (e.AF.map fun n=>[int n]) v] (int 0) [Bi ob e (ints (e.AF.take at_.toNat++[x]++e.AF.drop at_.toNat)) p5 p6 p7]:=by
 refine A3.of func206 rfl rfl (by exact Nb rfl) fun M0 w0 S rs M1 w1=>(Tr.seq ?_)
 have hml:(e.AF.map fun n=>[int n]).length=e.AF.length:=List.length_map _
 refine ac ?_
 refine ag ?_ ?_<;>intro h1 q1
 exfalso;have:=q1;omega
 refine ac ?_
 refine cy h1 rfl (Az 1 rfl (Ff rfl underlying22 (vl rfl))) ?_
 refine an ?_ ?_<;>intro h2 q2
 exfalso;simp_all;omega
 refine ac ?_
 refine ap ?_
 refine TO.FF 1 rfl rfl (by decide) (AV rfl rfl (by decide) rfl (Pp (l:=e.AF) (x:=x) (i:=at_.toNat) (by omega) hl) ⟨ke rfl,⟨_,rfl,int_eq (by omega)⟩,(Kf rfl),trivial⟩) ?_
 refine ap ?_
 refine Tr.weak [] trivial ?_
 refine ac ?_
 refine Tr.ret (Fin.drop 1 (Fin.CS rfl (AL.tmp rfl (Lr)) ?_ (List.Perm.refl _)))
 · exact Lr
theorem RQ {e:BJ} {c b:B8} {wb ob:Nat} {v:Value} {p5 p6 p7:Pr}  (hr:¬(0≤c.at_∧c.at_≤(e.AF.length:Nat))):A3 prog 167 [ptr wb 0] [BV wb ob c b,Bi ob e (is v) p5 p6 p7,Ap 3 1 (e.AF.map fun n=>[int n]) v] (int 2) []:=by
 refine A3.of func167 rfl rfl (by exact Nb rfl) fun M0 w0 S rs M1 w1=> ?_
 refine ac ?_
 refine Tr.seq (Tr.rx ?_)
 refine ay ?_
 refine Cx.ef 2 rfl rfl (by decide) (AV rfl rfl (by decide) rfl (Pt (l:=e.AF)) ⟨ke rfl,ke rfl,trivial⟩) ?_
 refine xm rfl ?_
 refine Cx.nil ⟨by kernel_rfl,?_⟩
 refine A9.done IY (Fin.go (CL 0 3 rfl (Tr.seq (Tr.seq (Tr.Da mixed 16 (by kernel_rfl) (AP.op rfl rfl (by decide) (BL rfl (vl rfl)) (AP.op rfl rfl (by decide) (A6 rfl (vl rfl)) (AP.op rfl rfl (by decide) (AE rfl HT (vl rfl)) (AP.op rfl rfl (by decide) (Az 0 rfl (Bg rfl Ja (vl rfl) rfl)) (AP.op rfl rfl (by decide) (A6 rfl (vl rfl)) (AP.op rfl rfl (by decide) (AE rfl FQ (vl rfl)) (AP.op rfl rfl (by decide) (BL rfl (vl rfl)) (AP.op rfl rfl (by decide) (A6 rfl (vl rfl)) ?_)))))))))))))
 refine AP.op rfl rfl (by decide) (AE rfl Dh (vl rfl)) (AP.op rfl rfl (by decide) (AE rfl JW (vl rfl)) (AP.op rfl rfl (by decide) (Az 0 rfl (Bg rfl Ce (vl rfl) rfl)) (AP.op rfl rfl (by decide) (BL rfl (vl rfl)) (AP.op rfl rfl (by decide) (A6 rfl (vl rfl)) (AP.op rfl rfl (by decide) (AE rfl Dh (vl rfl)) (AP.op rfl rfl (by decide) (AE rfl HR (vl rfl)) (AP.op rfl rfl (by decide) (Az 0 rfl (Bg rfl Ce (vl rfl) rfl)) ?_)))))))
 refine AP.turn _ rfl (by decide) (EO _ rfl rfl (VD (e:=e) (x:=c.number) (at_:=c.at_) hr) ⟨ke rfl,ke rfl,ke rfl,trivial⟩ ((AK (j:=1) rfl).trans (List.Perm.cons _ ((AK (j:=1) rfl).trans (List.Perm.cons _ (List.Perm.refl _)))))) ?_
 refine ac ?_
 refine Cr 0 3 4 rfl ?_
 refine an ?_ ?_<;>intro h1 q1
 refine ac ?_
 refine Tr.ret (Fin.AJ (Fin.drop 0 (Fin.CS rfl (AL.tmp rfl (Lr)) ?_ (List.Perm.refl _))))
 · exact Lr
 exact absurd h1 (by decide)
theorem RR {e:BJ} {c b:B8} {wb ob:Nat} {v:Value} {p5 p6 p7:Pr}  (hr:0≤c.at_∧c.at_≤(e.AF.length:Nat)) (hl:e.AF.length≤1000000) (h:(e.AF.any fun y=>c.number==y)=true):A3 prog 167 [ptr wb 0] [BV wb ob c b,Bi ob e (is v) p5 p6 p7,Ap 3 1 (e.AF.map fun n=>[int n]) v] (int 41) []:=by
 refine A3.of func167 rfl rfl (by exact Nb rfl) fun M0 w0 S rs M1 w1=> ?_
 refine ac ?_
 refine Tr.seq (Tr.rx ?_)
 refine ay ?_
 refine Cx.ef 2 rfl rfl (by decide) (AV rfl rfl (by decide) rfl (Pt (l:=e.AF)) ⟨ke rfl,ke rfl,trivial⟩) ?_
 refine xm rfl ?_
 refine Cx.nil ⟨by kernel_rfl,?_⟩
 refine A9.done IY (Fin.go (CL 0 3 rfl (Tr.seq (Tr.seq (Tr.Da mixed 16 (by kernel_rfl) (AP.op rfl rfl (by decide) (BL rfl (vl rfl)) (AP.op rfl rfl (by decide) (A6 rfl (vl rfl)) (AP.op rfl rfl (by decide) (AE rfl HT (vl rfl)) (AP.op rfl rfl (by decide) (Az 0 rfl (Bg rfl Ja (vl rfl) rfl)) (AP.op rfl rfl (by decide) (A6 rfl (vl rfl)) (AP.op rfl rfl (by decide) (AE rfl FQ (vl rfl)) (AP.op rfl rfl (by decide) (BL rfl (vl rfl)) (AP.op rfl rfl (by decide) (A6 rfl (vl rfl)) ?_)))))))))))))
 refine AP.op rfl rfl (by decide) (AE rfl Dh (vl rfl)) (AP.op rfl rfl (by decide) (AE rfl JW (vl rfl)) (AP.op rfl rfl (by decide) (Az 0 rfl (Bg rfl Ce (vl rfl) rfl)) (AP.op rfl rfl (by decide) (BL rfl (vl rfl)) (AP.op rfl rfl (by decide) (A6 rfl (vl rfl)) (AP.op rfl rfl (by decide) (AE rfl Dh (vl rfl)) (AP.op rfl rfl (by decide) (AE rfl HR (vl rfl)) (AP.op rfl rfl (by decide) (Az 0 rfl (Bg rfl Ce (vl rfl) rfl)) ?_)))))))
 refine AP.turn _ rfl (by decide) (EO _ rfl rfl (RP (e:=e) (x:=c.number) (at_:=c.at_) hr hl) ⟨ke rfl,ke rfl,ke rfl,trivial⟩ ((AK (j:=1) rfl).trans (List.Perm.cons _ ((AK (j:=1) rfl).trans (List.Perm.cons _ (List.Perm.refl _)))))) ?_
 refine ac ?_
 refine Cr 0 3 4 rfl ?_
 refine an ?_ ?_<;>intro h1 q1
 exact absurd h1 (by decide)
 refine ac ?_
 refine an ?_ ?_<;>intro h2 q2
 refine ac ?_
 refine Tr.ret (Fin.AJ (Fin.drop 0 (Fin.drop 0 (Fin.CS rfl (AL.tmp rfl (Lr)) ?_ (List.Perm.refl _)))))
 · exact Lr
 rw [h] at h2;exact absurd h2 (by decide)
theorem RS {e:BJ} {c b:B8} {wb ob:Nat} {v:Value} {p5 p6 p7:Pr}  (hr:0≤c.at_∧c.at_≤(e.AF.length:Nat)) (hl:e.AF.length≤1000000) (h:(e.AF.any fun y=>c.number==y)=false):A3 prog 167 [ptr wb 0] [BV wb ob c b,Bi ob e (is v) p5 p6 p7,Ap 3 1 (e.AF.map fun n=>[int n]) v] (int 0) [Bi ob e (ints (e.AF.take c.at_.toNat++[c.number]++e.AF.drop c.at_.toNat)) p5 p6 p7,BV wb ob c ⟨b.Ah,2,c.number,b.at_,b.Cl⟩]:=by
 refine A3.of func167 rfl rfl (by exact Nb rfl) fun M0 w0 S rs M1 w1=> ?_
 refine ac ?_
 refine Tr.seq (Tr.rx ?_)
 refine ay ?_
 refine Cx.ef 2 rfl rfl (by decide) (AV rfl rfl (by decide) rfl (Pt (l:=e.AF)) ⟨ke rfl,ke rfl,trivial⟩) ?_
 refine xm rfl ?_
 refine Cx.nil ⟨by kernel_rfl,?_⟩
 refine A9.done IY (Fin.go (CL 0 3 rfl (Tr.seq (Tr.seq (Tr.Da mixed 16 (by kernel_rfl) (AP.op rfl rfl (by decide) (BL rfl (vl rfl)) (AP.op rfl rfl (by decide) (A6 rfl (vl rfl)) (AP.op rfl rfl (by decide) (AE rfl HT (vl rfl)) (AP.op rfl rfl (by decide) (Az 0 rfl (Bg rfl Ja (vl rfl) rfl)) (AP.op rfl rfl (by decide) (A6 rfl (vl rfl)) (AP.op rfl rfl (by decide) (AE rfl FQ (vl rfl)) (AP.op rfl rfl (by decide) (BL rfl (vl rfl)) (AP.op rfl rfl (by decide) (A6 rfl (vl rfl)) ?_)))))))))))))
 refine AP.op rfl rfl (by decide) (AE rfl Dh (vl rfl)) (AP.op rfl rfl (by decide) (AE rfl JW (vl rfl)) (AP.op rfl rfl (by decide) (Az 0 rfl (Bg rfl Ce (vl rfl) rfl)) (AP.op rfl rfl (by decide) (BL rfl (vl rfl)) (AP.op rfl rfl (by decide) (A6 rfl (vl rfl)) (AP.op rfl rfl (by decide) (AE rfl Dh (vl rfl)) (AP.op rfl rfl (by decide) (AE rfl HR (vl rfl)) (AP.op rfl rfl (by decide) (Az 0 rfl (Bg rfl Ce (vl rfl) rfl)) ?_)))))))
 refine AP.turn _ rfl (by decide) (EO _ rfl rfl (RP (e:=e) (x:=c.number) (at_:=c.at_) hr hl) ⟨ke rfl,ke rfl,ke rfl,trivial⟩ ((AK (j:=1) rfl).trans (List.Perm.cons _ ((AK (j:=1) rfl).trans (List.Perm.cons _ (List.Perm.refl _)))))) ?_
 refine ac ?_
 refine Cr 0 3 4 rfl ?_
 refine an ?_ ?_<;>intro h1 q1
 exact absurd h1 (by decide)
 refine ac ?_
 refine an ?_ ?_<;>intro h2 q2
 rw [h] at h2;exact absurd h2 (by decide)
 refine ac ?_
 refine ap ?_
 refine Tr.weak [] trivial ?_
 refine ac ?_
 refine Tr.ret (Fin.CS rfl (AL.tmp rfl (Lr)) ?_ (List.Perm.refl _))
 · exact Lr
theorem Hh {l:List Int} {x:Int} (h:Cz l x=true):DG l x<l.length:=by
 by_cases hp:DG l x<l.length
 · exact hp
 · unfold Cz at h;rw [List.getElem?_eq_none (by omega)] at h;cases h
theorem aS {e:BJ} {c b:B8} {wb ob:Nat} {v:Value} {p3 p5 p7:Pr} {bk:Int}  (hs:F4 e.anchors) (hl:e.anchors.length≤1000000) (h:Cz e.anchors c.number=true):A3 prog 215 [ptr wb 0,ptr ob 6,int bk] [BV wb ob c b,Bi ob e p3 p5 (is v) p7,Ap 3 1 (e.anchors.map fun n=>[int n]) v] (int 41) []:=by
 refine A3.of func215 rfl rfl (by exact Nb rfl) fun M0 w0 S rs M1 w1=> ?_
 refine ac ?_
 refine Tr.seq (Tr.rx ?_)
 refine ay ?_
 refine Cx.ef 2 rfl rfl (by decide) (AV rfl rfl (by decide) rfl (Io (l:=e.anchors) hs hl) ⟨ke rfl,ke rfl,trivial⟩) ?_
 refine ay ?_
 refine Cx.nil ⟨by kernel_rfl,?_⟩
 refine A9.done IY (Fin.go (EM 0 1 2 7 8 rfl ?_))
 refine an ?_ ?_<;>intro h1 q1
 refine ac ?_
 refine Tr.ret (Fin.AJ (Fin.drop 0 (Fin.drop 0 (Fin.drop 0 (Fin.CS rfl (AL.tmp rfl (Lr)) ?_ (List.Perm.refl _))))))
 · exact Lr
 rw [h] at h1;exact absurd h1 (by decide)
theorem Py {e:BJ} {c b:B8} {wb ob:Nat} {v:Value} {p3 p5 p7:Pr}  (hs:F4 e.anchors) (hl:e.anchors.length≤1000000) (h:Cz e.anchors c.number=true):A3 prog 173 [ptr wb 0] [BV wb ob c b,Bi ob e p3 p5 (is v) p7,Ap 3 1 (e.anchors.map fun n=>[int n]) v] (int 41) []:=by
 refine A3.of func173 rfl rfl (by exact Nb rfl) fun M0 w0 S rs M1 w1=> ?_
 refine ac ?_
 refine ap ?_
 refine TO.DF _ rfl rfl (by decide) rfl (aS (e:=e) (c:=c) (b:=b) hs hl h) ⟨ke rfl,ke rfl,ke rfl,trivial⟩ ((AK (j:=0) rfl).trans (List.Perm.cons _ ((AK (j:=0) rfl).trans (List.Perm.cons _ ((AK (j:=0) rfl).trans (List.Perm.cons _ (List.Perm.refl _))))))) ?_
 refine ap ?_
 refine Tr.ret (Fin.CS rfl (AL.tmp rfl (Lr)) ?_ (List.Perm.refl _))
 · exact Lr
theorem aT {e:BJ} {c b:B8} {wb ob:Nat} {v:Value} {p3 p5 p7:Pr} {bk:Int}  (hs:F4 e.anchors) (hl:e.anchors.length≤1000000) (h:Cz e.anchors c.number=false):A3 prog 215 [ptr wb 0,ptr ob 6,int bk] [BV wb ob c b,Bi ob e p3 p5 (is v) p7,Ap 3 1 (e.anchors.map fun n=>[int n]) v] (int 0) [BV wb ob c ⟨b.Ah,bk,c.number,b.at_,b.Cl⟩,Bi ob e p3 p5 (ints (K0 e.anchors c.number)) p7]:=by
 refine A3.of func215 rfl rfl (by exact Nb rfl) fun M0 w0 S rs M1 w1=> ?_
 refine ac ?_
 refine Tr.seq (Tr.rx ?_)
 refine ay ?_
 refine Cx.ef 2 rfl rfl (by decide) (AV rfl rfl (by decide) rfl (Io (l:=e.anchors) hs hl) ⟨ke rfl,ke rfl,trivial⟩) ?_
 refine ay ?_
 refine Cx.nil ⟨by kernel_rfl,?_⟩
 refine A9.done IY (Fin.go (EM 0 1 2 7 8 rfl ?_))
 refine an ?_ ?_<;>intro h1 q1
 rw [h] at h1;exact absurd h1 (by decide)
 refine ac ?_
 refine Tr.seq (Tr.rx ?_)
 refine ay ?_
 refine xo rfl (fun _=>AM (xs:=[.tmp 31]) (rows:=[[_]]) rfl rfl underlying22 Cg z3 rfl (by decide) ⟨⟨(by exact rfl),(Vo rfl)⟩,trivial⟩ (by decide)) ?_
 refine Cx.ef 2 rfl rfl (by decide) (AV rfl rfl (by decide) rfl (Pp (l:=e.anchors) (x:=c.number) (i:=DG e.anchors c.number) (L6 _ _) hl) ⟨ke rfl,ke rfl,(Kf rfl),trivial⟩) ?_
 refine ay ?_
 refine Cx.nil ⟨by kernel_rfl,?_⟩
 refine A9.done IY (Fin.go (CL 0 2 rfl ?_))
 refine ap ?_
 refine Tr.weak [] trivial ?_
 refine ac ?_
 refine Tr.ret (Fin.drop 2 (Fin.CS rfl (AL.tmp rfl (Lr)) ?_ (List.Perm.refl _)))
 · exact Lr
theorem Pz {e:BJ} {c b:B8} {wb ob:Nat} {v:Value} {p3 p5 p7:Pr}  (hs:F4 e.anchors) (hl:e.anchors.length≤1000000) (h:Cz e.anchors c.number=false):A3 prog 173 [ptr wb 0] [BV wb ob c b,Bi ob e p3 p5 (is v) p7,Ap 3 1 (e.anchors.map fun n=>[int n]) v] (int 0) [BV wb ob c ⟨b.Ah,8,c.number,b.at_,b.Cl⟩,Bi ob e p3 p5 (ints (K0 e.anchors c.number)) p7]:=by
 refine A3.of func173 rfl rfl (by exact Nb rfl) fun M0 w0 S rs M1 w1=> ?_
 refine ac ?_
 refine ap ?_
 refine TO.DF _ rfl rfl (by decide) rfl (aT (e:=e) (c:=c) (b:=b) hs hl h) ⟨ke rfl,ke rfl,ke rfl,trivial⟩ ((AK (j:=0) rfl).trans (List.Perm.cons _ ((AK (j:=0) rfl).trans (List.Perm.cons _ ((AK (j:=0) rfl).trans (List.Perm.cons _ (List.Perm.refl _))))))) ?_
 refine ap ?_
 refine Tr.ret (Fin.CS rfl (AL.tmp rfl (Lr)) ?_ (List.Perm.refl _))
 · exact Lr
theorem XY {e:BJ} {c b:B8} {wb ob:Nat} {v:Value} {p3 p5 p7:Pr} {bk:Int}  (hs:F4 e.anchors) (hl:e.anchors.length≤1000000) (h:Cz e.anchors c.number=false):A3 prog 216 [ptr wb 0,ptr ob 6,int bk] [BV wb ob c b,Bi ob e p3 p5 (is v) p7,Ap 3 1 (e.anchors.map fun n=>[int n]) v] (int 41) []:=by
 refine A3.of func216 rfl rfl (by exact Nb rfl) fun M0 w0 S rs M1 w1=> ?_
 refine ac ?_
 refine Tr.seq (Tr.rx ?_)
 refine ay ?_
 refine Cx.ef 2 rfl rfl (by decide) (AV rfl rfl (by decide) rfl (Io (l:=e.anchors) hs hl) ⟨ke rfl,ke rfl,trivial⟩) ?_
 refine ay ?_
 refine Cx.nil ⟨by kernel_rfl,?_⟩
 refine A9.done IY (Fin.go (EM 0 1 2 7 8 rfl ?_))
 refine an ?_ ?_<;>intro h1 q1
 refine ac ?_
 refine Tr.ret (Fin.AJ (Fin.drop 0 (Fin.drop 0 (Fin.drop 0 (Fin.CS rfl (AL.tmp rfl (Lr)) ?_ (List.Perm.refl _))))))
 · exact Lr
 rw [h] at h1;exact absurd h1 (by decide)
theorem N6 {e:BJ} {c b:B8} {wb ob:Nat} {v:Value} {p3 p5 p7:Pr}  (hs:F4 e.anchors) (hl:e.anchors.length≤1000000) (h:Cz e.anchors c.number=false):A3 prog 174 [ptr wb 0] [BV wb ob c b,Bi ob e p3 p5 (is v) p7,Ap 3 1 (e.anchors.map fun n=>[int n]) v] (int 41) []:=by
 refine A3.of func174 rfl rfl (by exact Nb rfl) fun M0 w0 S rs M1 w1=> ?_
 refine ac ?_
 refine ap ?_
 refine TO.DF _ rfl rfl (by decide) rfl (XY (e:=e) (c:=c) (b:=b) hs hl h) ⟨ke rfl,ke rfl,ke rfl,trivial⟩ ((AK (j:=0) rfl).trans (List.Perm.cons _ ((AK (j:=0) rfl).trans (List.Perm.cons _ ((AK (j:=0) rfl).trans (List.Perm.cons _ (List.Perm.refl _))))))) ?_
 refine ap ?_
 refine Tr.ret (Fin.CS rfl (AL.tmp rfl (Lr)) ?_ (List.Perm.refl _))
 · exact Lr
theorem XZ {e:BJ} {c b:B8} {wb ob:Nat} {v:Value} {p3 p5 p7:Pr} {bk:Int}  (hs:F4 e.anchors) (hl:e.anchors.length≤1000000) (h:Cz e.anchors c.number=true):A3 prog 216 [ptr wb 0,ptr ob 6,int bk] [BV wb ob c b,Bi ob e p3 p5 (is v) p7,Ap 3 1 (e.anchors.map fun n=>[int n]) v] (int 0) [BV wb ob c ⟨b.Ah,bk,c.number,b.at_,b.Cl⟩,Bi ob e p3 p5 (ints (e.anchors.eraseIdx (DG e.anchors c.number))) p7]:=by
 refine A3.of func216 rfl rfl (by exact Nb rfl) fun M0 w0 S rs M1 w1=> ?_
 have nF:=Hh h
 refine ac ?_
 refine Tr.seq (Tr.rx ?_)
 refine ay ?_
 refine Cx.ef 2 rfl rfl (by decide) (AV rfl rfl (by decide) rfl (Io (l:=e.anchors) hs hl) ⟨ke rfl,ke rfl,trivial⟩) ?_
 refine ay ?_
 refine Cx.nil ⟨by kernel_rfl,?_⟩
 refine A9.done IY (Fin.go (EM 0 1 2 7 8 rfl ?_))
 refine an ?_ ?_<;>intro h1 q1
 rw [h] at h1;exact absurd h1 (by decide)
 refine ac ?_
 refine ap ?_
 refine TO.FF 2 rfl rfl (by decide) (AV rfl rfl (by decide) rfl (Pq (l:=e.anchors) (i:=DG e.anchors c.number) (Hh h) hl) ⟨ke rfl,⟨_,rfl,int_eq (by omega)⟩,⟨_,rfl,int_eq (by omega)⟩,trivial⟩) ?_
 refine ap ?_
 refine CL 0 2 rfl ?_
 refine ap ?_
 refine Tr.weak [] trivial ?_
 refine ac ?_
 refine Tr.ret (Fin.drop 2 (Fin.CS rfl (AL.tmp rfl (Lr)) ?_ (List.Perm.refl _)))
 · exact Lr
theorem N7 {e:BJ} {c b:B8} {wb ob:Nat} {v:Value} {p3 p5 p7:Pr}  (hs:F4 e.anchors) (hl:e.anchors.length≤1000000) (h:Cz e.anchors c.number=true):A3 prog 174 [ptr wb 0] [BV wb ob c b,Bi ob e p3 p5 (is v) p7,Ap 3 1 (e.anchors.map fun n=>[int n]) v] (int 0) [BV wb ob c ⟨b.Ah,7,c.number,b.at_,b.Cl⟩,Bi ob e p3 p5 (ints (e.anchors.eraseIdx (DG e.anchors c.number))) p7]:=by
 refine A3.of func174 rfl rfl (by exact Nb rfl) fun M0 w0 S rs M1 w1=> ?_
 refine ac ?_
 refine ap ?_
 refine TO.DF _ rfl rfl (by decide) rfl (XZ (e:=e) (c:=c) (b:=b) hs hl h) ⟨ke rfl,ke rfl,ke rfl,trivial⟩ ((AK (j:=0) rfl).trans (List.Perm.cons _ ((AK (j:=0) rfl).trans (List.Perm.cons _ ((AK (j:=0) rfl).trans (List.Perm.cons _ (List.Perm.refl _))))))) ?_
 refine ap ?_
 refine Tr.ret (Fin.CS rfl (AL.tmp rfl (Lr)) ?_ (List.Perm.refl _))
 · exact Lr
theorem aU {e:BJ} {c b:B8} {wb ob:Nat} {v:Value} {p3 p5 p6:Pr} {bk:Int}  (hs:F4 e.hashes) (hl:e.hashes.length≤1000000) (h:Cz e.hashes c.number=true):A3 prog 215 [ptr wb 0,ptr ob 7,int bk] [BV wb ob c b,Bi ob e p3 p5 p6 (is v),Ap 3 1 (e.hashes.map fun n=>[int n]) v] (int 41) []:=by
 refine A3.of func215 rfl rfl (by exact Nb rfl) fun M0 w0 S rs M1 w1=> ?_
 refine ac ?_
 refine Tr.seq (Tr.rx ?_)
 refine ay ?_
 refine Cx.ef 2 rfl rfl (by decide) (AV rfl rfl (by decide) rfl (Io (l:=e.hashes) hs hl) ⟨ke rfl,ke rfl,trivial⟩) ?_
 refine ay ?_
 refine Cx.nil ⟨by kernel_rfl,?_⟩
 refine A9.done IY (Fin.go (EM 0 1 2 7 8 rfl ?_))
 refine an ?_ ?_<;>intro h1 q1
 refine ac ?_
 refine Tr.ret (Fin.AJ (Fin.drop 0 (Fin.drop 0 (Fin.drop 0 (Fin.CS rfl (AL.tmp rfl (Lr)) ?_ (List.Perm.refl _))))))
 · exact Lr
 rw [h] at h1;exact absurd h1 (by decide)
theorem Ss {e:BJ} {c b:B8} {wb ob:Nat} {v:Value} {p3 p5 p6:Pr}  (hs:F4 e.hashes) (hl:e.hashes.length≤1000000) (h:Cz e.hashes c.number=true):A3 prog 175 [ptr wb 0] [BV wb ob c b,Bi ob e p3 p5 p6 (is v),Ap 3 1 (e.hashes.map fun n=>[int n]) v] (int 41) []:=by
 refine A3.of func175 rfl rfl (by exact Nb rfl) fun M0 w0 S rs M1 w1=> ?_
 refine ac ?_
 refine ap ?_
 refine TO.DF _ rfl rfl (by decide) rfl (aU (e:=e) (c:=c) (b:=b) hs hl h) ⟨ke rfl,ke rfl,ke rfl,trivial⟩ ((AK (j:=0) rfl).trans (List.Perm.cons _ ((AK (j:=0) rfl).trans (List.Perm.cons _ ((AK (j:=0) rfl).trans (List.Perm.cons _ (List.Perm.refl _))))))) ?_
 refine ap ?_
 refine Tr.ret (Fin.CS rfl (AL.tmp rfl (Lr)) ?_ (List.Perm.refl _))
 · exact Lr
theorem aV {e:BJ} {c b:B8} {wb ob:Nat} {v:Value} {p3 p5 p6:Pr} {bk:Int}  (hs:F4 e.hashes) (hl:e.hashes.length≤1000000) (h:Cz e.hashes c.number=false):A3 prog 215 [ptr wb 0,ptr ob 7,int bk] [BV wb ob c b,Bi ob e p3 p5 p6 (is v),Ap 3 1 (e.hashes.map fun n=>[int n]) v] (int 0) [BV wb ob c ⟨b.Ah,bk,c.number,b.at_,b.Cl⟩,Bi ob e p3 p5 p6 (ints (K0 e.hashes c.number))]:=by
 refine A3.of func215 rfl rfl (by exact Nb rfl) fun M0 w0 S rs M1 w1=> ?_
 refine ac ?_
 refine Tr.seq (Tr.rx ?_)
 refine ay ?_
 refine Cx.ef 2 rfl rfl (by decide) (AV rfl rfl (by decide) rfl (Io (l:=e.hashes) hs hl) ⟨ke rfl,ke rfl,trivial⟩) ?_
 refine ay ?_
 refine Cx.nil ⟨by kernel_rfl,?_⟩
 refine A9.done IY (Fin.go (EM 0 1 2 7 8 rfl ?_))
 refine an ?_ ?_<;>intro h1 q1
 rw [h] at h1;exact absurd h1 (by decide)
 refine ac ?_
 refine Tr.seq (Tr.rx ?_)
 refine ay ?_
 refine xo rfl (fun _=>AM (xs:=[.tmp 31]) (rows:=[[_]]) rfl rfl underlying22 Cg z3 rfl (by decide) ⟨⟨(by exact rfl),(Vo rfl)⟩,trivial⟩ (by decide)) ?_
 refine Cx.ef 2 rfl rfl (by decide) (AV rfl rfl (by decide) rfl (Pp (l:=e.hashes) (x:=c.number) (i:=DG e.hashes c.number) (L6 _ _) hl) ⟨ke rfl,ke rfl,(Kf rfl),trivial⟩) ?_
 refine ay ?_
 refine Cx.nil ⟨by kernel_rfl,?_⟩
 refine A9.done IY (Fin.go (CL 0 2 rfl ?_))
 refine ap ?_
 refine Tr.weak [] trivial ?_
 refine ac ?_
 refine Tr.ret (Fin.drop 2 (Fin.CS rfl (AL.tmp rfl (Lr)) ?_ (List.Perm.refl _)))
 · exact Lr
theorem Su {e:BJ} {c b:B8} {wb ob:Nat} {v:Value} {p3 p5 p6:Pr}  (hs:F4 e.hashes) (hl:e.hashes.length≤1000000) (h:Cz e.hashes c.number=false):A3 prog 175 [ptr wb 0] [BV wb ob c b,Bi ob e p3 p5 p6 (is v),Ap 3 1 (e.hashes.map fun n=>[int n]) v] (int 0) [BV wb ob c ⟨b.Ah,10,c.number,b.at_,b.Cl⟩,Bi ob e p3 p5 p6 (ints (K0 e.hashes c.number))]:=by
 refine A3.of func175 rfl rfl (by exact Nb rfl) fun M0 w0 S rs M1 w1=> ?_
 refine ac ?_
 refine ap ?_
 refine TO.DF _ rfl rfl (by decide) rfl (aV (e:=e) (c:=c) (b:=b) hs hl h) ⟨ke rfl,ke rfl,ke rfl,trivial⟩ ((AK (j:=0) rfl).trans (List.Perm.cons _ ((AK (j:=0) rfl).trans (List.Perm.cons _ ((AK (j:=0) rfl).trans (List.Perm.cons _ (List.Perm.refl _))))))) ?_
 refine ap ?_
 refine Tr.ret (Fin.CS rfl (AL.tmp rfl (Lr)) ?_ (List.Perm.refl _))
 · exact Lr
theorem Xa {e:BJ} {c b:B8} {wb ob:Nat} {v:Value} {p3 p5 p6:Pr} {bk:Int}  (hs:F4 e.hashes) (hl:e.hashes.length≤1000000) (h:Cz e.hashes c.number=false):A3 prog 216 [ptr wb 0,ptr ob 7,int bk] [BV wb ob c b,Bi ob e p3 p5 p6 (is v),Ap 3 1 (e.hashes.map fun n=>[int n]) v] (int 41) []:=by
 refine A3.of func216 rfl rfl (by exact Nb rfl) fun M0 w0 S rs M1 w1=> ?_
 refine ac ?_
 refine Tr.seq (Tr.rx ?_)
 refine ay ?_
 refine Cx.ef 2 rfl rfl (by decide) (AV rfl rfl (by decide) rfl (Io (l:=e.hashes) hs hl) ⟨ke rfl,ke rfl,trivial⟩) ?_
 refine ay ?_
 refine Cx.nil ⟨by kernel_rfl,?_⟩
 refine A9.done IY (Fin.go (EM 0 1 2 7 8 rfl ?_))
 refine an ?_ ?_<;>intro h1 q1
 refine ac ?_
 refine Tr.ret (Fin.AJ (Fin.drop 0 (Fin.drop 0 (Fin.drop 0 (Fin.CS rfl (AL.tmp rfl (Lr)) ?_ (List.Perm.refl _))))))
 · exact Lr
 rw [h] at h1;exact absurd h1 (by decide)
theorem RT {e:BJ} {c b:B8} {wb ob:Nat} {v:Value} {p3 p5 p6:Pr}  (hs:F4 e.hashes) (hl:e.hashes.length≤1000000) (h:Cz e.hashes c.number=false):A3 prog 176 [ptr wb 0] [BV wb ob c b,Bi ob e p3 p5 p6 (is v),Ap 3 1 (e.hashes.map fun n=>[int n]) v] (int 41) []:=by
 refine A3.of func176 rfl rfl (by exact Nb rfl) fun M0 w0 S rs M1 w1=> ?_
 refine ac ?_
 refine ap ?_
 refine TO.DF _ rfl rfl (by decide) rfl (Xa (e:=e) (c:=c) (b:=b) hs hl h) ⟨ke rfl,ke rfl,ke rfl,trivial⟩ ((AK (j:=0) rfl).trans (List.Perm.cons _ ((AK (j:=0) rfl).trans (List.Perm.cons _ ((AK (j:=0) rfl).trans (List.Perm.cons _ (List.Perm.refl _))))))) ?_
 refine ap ?_
 refine Tr.ret (Fin.CS rfl (AL.tmp rfl (Lr)) ?_ (List.Perm.refl _))
 · exact Lr
theorem Xb {e:BJ} {c b:B8} {wb ob:Nat} {v:Value} {p3 p5 p6:Pr} {bk:Int}  (hs:F4 e.hashes) (hl:e.hashes.length≤1000000) (h:Cz e.hashes c.number=true):A3 prog 216 [ptr wb 0,ptr ob 7,int bk] [BV wb ob c b,Bi ob e p3 p5 p6 (is v),Ap 3 1 (e.hashes.map fun n=>[int n]) v] (int 0) [BV wb ob c ⟨b.Ah,bk,c.number,b.at_,b.Cl⟩,Bi ob e p3 p5 p6 (ints (e.hashes.eraseIdx (DG e.hashes c.number)))]:=by
 refine A3.of func216 rfl rfl (by exact Nb rfl) fun M0 w0 S rs M1 w1=> ?_
 have nF:=Hh h
 refine ac ?_
 refine Tr.seq (Tr.rx ?_)
 refine ay ?_
 refine Cx.ef 2 rfl rfl (by decide) (AV rfl rfl (by decide) rfl (Io (l:=e.hashes) hs hl) ⟨ke rfl,ke rfl,trivial⟩) ?_
 refine ay ?_
 refine Cx.nil ⟨by kernel_rfl,?_⟩
 refine A9.done IY (Fin.go (EM 0 1 2 7 8 rfl ?_))
 refine an ?_ ?_<;>intro h1 q1
 rw [h] at h1;exact absurd h1 (by decide)
 refine ac ?_
 refine ap ?_
 refine TO.FF 2 rfl rfl (by decide) (AV rfl rfl (by decide) rfl (Pq (l:=e.hashes) (i:=DG e.hashes c.number) (Hh h) hl) ⟨ke rfl,⟨_,rfl,int_eq (by omega)⟩,⟨_,rfl,int_eq (by omega)⟩,trivial⟩) ?_
 refine ap ?_
 refine CL 0 2 rfl ?_
 refine ap ?_
 refine Tr.weak [] trivial ?_
 refine ac ?_
 refine Tr.ret (Fin.drop 2 (Fin.CS rfl (AL.tmp rfl (Lr)) ?_ (List.Perm.refl _)))
 · exact Lr
theorem RU {e:BJ} {c b:B8} {wb ob:Nat} {v:Value} {p3 p5 p6:Pr}  (hs:F4 e.hashes) (hl:e.hashes.length≤1000000) (h:Cz e.hashes c.number=true):A3 prog 176 [ptr wb 0] [BV wb ob c b,Bi ob e p3 p5 p6 (is v),Ap 3 1 (e.hashes.map fun n=>[int n]) v] (int 0) [BV wb ob c ⟨b.Ah,9,c.number,b.at_,b.Cl⟩,Bi ob e p3 p5 p6 (ints (e.hashes.eraseIdx (DG e.hashes c.number)))]:=by
 refine A3.of func176 rfl rfl (by exact Nb rfl) fun M0 w0 S rs M1 w1=> ?_
 refine ac ?_
 refine ap ?_
 refine TO.DF _ rfl rfl (by decide) rfl (Xb (e:=e) (c:=c) (b:=b) hs hl h) ⟨ke rfl,ke rfl,ke rfl,trivial⟩ ((AK (j:=0) rfl).trans (List.Perm.cons _ ((AK (j:=0) rfl).trans (List.Perm.cons _ ((AK (j:=0) rfl).trans (List.Perm.cons _ (List.Perm.refl _))))))) ?_
 refine ap ?_
 refine Tr.ret (Fin.CS rfl (AL.tmp rfl (Lr)) ?_ (List.Perm.refl _))
 · exact Lr
theorem L9 {c b:B8} {wb ob cb:Nat} {n:Int}  (h:n=c.number):A3 prog 209 [ptr wb 0,ptr cb 0] [BV wb ob c b,AA true cb 3 [int n]] (int 41) [BV wb ob c b,AA true cb 3 [int n]]:=by
 refine A3.of func209 rfl rfl (by exact Nb rfl) fun M0 w0 S rs M1 w1=> ?_
 refine ac ?_
 refine an ?_ ?_<;>intro h1 q1
 refine ac ?_
 refine Tr.ret (Fin.AJ (Fin.CS rfl (AL.tmp rfl (Lr)) ?_ (List.Perm.refl _)))
 · exact Lr
 exfalso;have:=q1;omega
theorem L_ {c b:B8} {wb ob cb:Nat} {n:Int}  (h:n≠c.number):A3 prog 209 [ptr wb 0,ptr cb 0] [BV wb ob c b,AA true cb 3 [int n]] (int 0) [BV wb ob c ⟨b.Ah,c.kind,n,b.at_,b.Cl⟩,AA true cb 3 [int c.number]]:=by
 refine A3.of func209 rfl rfl (by exact Nb rfl) fun M0 w0 S rs M1 w1=> ?_
 refine ac ?_
 refine an ?_ ?_<;>intro h1 q1
 exfalso;have:=q1;omega
 refine ac ?_
 refine Tr.seq (Tr.rx ?_)
 refine ay ?_
 refine Cx.nil ⟨by kernel_rfl,?_⟩
 refine A9.done Wd (Fin.go (CL 0 1 rfl ?_))
 refine ap ?_
 refine ac ?_
 refine Tr.ret (Fin.CS rfl (AL.tmp rfl (Lr)) ?_ (List.Perm.refl _))
 · exact Lr
theorem Sv {e:BJ} {c b:B8} {wb ob:Nat} {p3 p5 p6 p7:Pr}  (h:e.most=c.number):A3 prog 209 [ptr wb 0,ptr ob 2] [BV wb ob c b,Bi ob e p3 p5 p6 p7] (int 41) [BV wb ob c b,Bi ob e p3 p5 p6 p7]:=by
 refine A3.of func209 rfl rfl (by exact Nb rfl) fun M0 w0 S rs M1 w1=> ?_
 refine ac ?_
 refine an ?_ ?_<;>intro h1 q1
 refine ac ?_
 refine Tr.ret (Fin.AJ (Fin.CS rfl (AL.tmp rfl (Lr)) ?_ (List.Perm.refl _)))
 · exact Lr
 exfalso;have:=q1;omega
theorem Sw {e:BJ} {c b:B8} {wb ob:Nat} {p3 p5 p6 p7:Pr}  (h:e.most≠c.number):A3 prog 209 [ptr wb 0,ptr ob 2] [BV wb ob c b,Bi ob e p3 p5 p6 p7] (int 0) [BV wb ob c ⟨b.Ah,c.kind,e.most,b.at_,b.Cl⟩,Bi ob { e with most:=c.number } p3 p5 p6 p7]:=by
 refine A3.of func209 rfl rfl (by exact Nb rfl) fun M0 w0 S rs M1 w1=> ?_
 refine ac ?_
 refine an ?_ ?_<;>intro h1 q1
 exfalso;have:=q1;omega
 refine ac ?_
 refine Tr.seq (Tr.rx ?_)
 refine ay ?_
 refine Cx.nil ⟨by kernel_rfl,?_⟩
 refine A9.done Wd (Fin.go (CL 0 1 rfl ?_))
 refine ap ?_
 refine ac ?_
 refine Tr.ret (Fin.CS rfl (AL.tmp rfl (Lr)) ?_ (List.Perm.refl _))
 · exact Lr
theorem RV {e:BJ} {c b:B8} {wb ob:Nat} {p3 p5 p6 p7:Pr}  (h:e.most=c.number):A3 prog 169 [ptr wb 0] [BV wb ob c b,Bi ob e p3 p5 p6 p7] (int 41) []:=by
 refine A3.of func169 rfl rfl (by exact Nb rfl) fun M0 w0 S rs M1 w1=> ?_
 refine ac ?_
 refine ap ?_
 refine TO.DF _ rfl rfl (by decide) rfl (Sv (e:=e) (c:=c) (b:=b) h) ⟨ke rfl,ke rfl,trivial⟩ ((AK (j:=0) rfl).trans (List.Perm.cons _ ((AK (j:=0) rfl).trans (List.Perm.cons _ (List.Perm.refl _))))) ?_
 refine ap ?_
 refine Tr.ret (Fin.drop 0 (Fin.drop 0 (Fin.CS rfl (AL.tmp rfl (Lr)) ?_ (List.Perm.refl _))))
 · exact Lr
theorem RW {e:BJ} {c b:B8} {wb ob:Nat} {p3 p5 p6 p7:Pr}  (h:e.most≠c.number):A3 prog 169 [ptr wb 0] [BV wb ob c b,Bi ob e p3 p5 p6 p7] (int 0) [BV wb ob c ⟨b.Ah,c.kind,e.most,b.at_,b.Cl⟩,Bi ob { e with most:=c.number } p3 p5 p6 p7]:=by
 refine A3.of func169 rfl rfl (by exact Nb rfl) fun M0 w0 S rs M1 w1=> ?_
 refine ac ?_
 refine ap ?_
 refine TO.DF _ rfl rfl (by decide) rfl (Sw (e:=e) (c:=c) (b:=b) h) ⟨ke rfl,ke rfl,trivial⟩ ((AK (j:=0) rfl).trans (List.Perm.cons _ ((AK (j:=0) rfl).trans (List.Perm.cons _ (List.Perm.refl _))))) ?_
 refine ap ?_
 refine Tr.ret (Fin.CS rfl (AL.tmp rfl (Lr)) ?_ (List.Perm.refl _))
 · exact Lr
theorem RX {e:BJ} {c b:B8} {wb ob:Nat} {p3 p5 p6 p7:Pr}  (h:e.least=c.number):A3 prog 209 [ptr wb 0,ptr ob 1] [BV wb ob c b,Bi ob e p3 p5 p6 p7] (int 41) [BV wb ob c b,Bi ob e p3 p5 p6 p7]:=by
 refine A3.of func209 rfl rfl (by exact Nb rfl) fun M0 w0 S rs M1 w1=> ?_
 refine ac ?_
 refine an ?_ ?_<;>intro h1 q1
 refine ac ?_
 refine Tr.ret (Fin.AJ (Fin.CS rfl (AL.tmp rfl (Lr)) ?_ (List.Perm.refl _)))
 · exact Lr
 exfalso;have:=q1;omega
theorem RY {e:BJ} {c b:B8} {wb ob:Nat} {p3 p5 p6 p7:Pr}  (h:e.least≠c.number):A3 prog 209 [ptr wb 0,ptr ob 1] [BV wb ob c b,Bi ob e p3 p5 p6 p7] (int 0) [BV wb ob c ⟨b.Ah,c.kind,e.least,b.at_,b.Cl⟩,Bi ob { e with least:=c.number } p3 p5 p6 p7]:=by
 refine A3.of func209 rfl rfl (by exact Nb rfl) fun M0 w0 S rs M1 w1=> ?_
 refine ac ?_
 refine an ?_ ?_<;>intro h1 q1
 exfalso;have:=q1;omega
 refine ac ?_
 refine Tr.seq (Tr.rx ?_)
 refine ay ?_
 refine Cx.nil ⟨by kernel_rfl,?_⟩
 refine A9.done Wd (Fin.go (CL 0 1 rfl ?_))
 refine ap ?_
 refine ac ?_
 refine Tr.ret (Fin.CS rfl (AL.tmp rfl (Lr)) ?_ (List.Perm.refl _))
 · exact Lr
theorem P0 {e:BJ} {c b:B8} {wb ob:Nat} {p3 p5 p6 p7:Pr}  (h:e.least=c.number):A3 prog 170 [ptr wb 0] [BV wb ob c b,Bi ob e p3 p5 p6 p7] (int 41) []:=by
 refine A3.of func170 rfl rfl (by exact Nb rfl) fun M0 w0 S rs M1 w1=> ?_
 refine ac ?_
 refine ap ?_
 refine TO.DF _ rfl rfl (by decide) rfl (RX (e:=e) (c:=c) (b:=b) h) ⟨ke rfl,ke rfl,trivial⟩ ((AK (j:=0) rfl).trans (List.Perm.cons _ ((AK (j:=0) rfl).trans (List.Perm.cons _ (List.Perm.refl _))))) ?_
 refine ap ?_
 refine Tr.ret (Fin.drop 0 (Fin.drop 0 (Fin.CS rfl (AL.tmp rfl (Lr)) ?_ (List.Perm.refl _))))
 · exact Lr
theorem P3 {e:BJ} {c b:B8} {wb ob:Nat} {p3 p5 p6 p7:Pr}  (h:e.least≠c.number):A3 prog 170 [ptr wb 0] [BV wb ob c b,Bi ob e p3 p5 p6 p7] (int 0) [BV wb ob c ⟨b.Ah,c.kind,e.least,b.at_,b.Cl⟩,Bi ob { e with least:=c.number } p3 p5 p6 p7]:=by
 refine A3.of func170 rfl rfl (by exact Nb rfl) fun M0 w0 S rs M1 w1=> ?_
 refine ac ?_
 refine ap ?_
 refine TO.DF _ rfl rfl (by decide) rfl (RY (e:=e) (c:=c) (b:=b) h) ⟨ke rfl,ke rfl,trivial⟩ ((AK (j:=0) rfl).trans (List.Perm.cons _ ((AK (j:=0) rfl).trans (List.Perm.cons _ (List.Perm.refl _))))) ?_
 refine ap ?_
 refine Tr.ret (Fin.CS rfl (AL.tmp rfl (Lr)) ?_ (List.Perm.refl _))
 · exact Lr
abbrev ED (b:Bool):Int:=if b then 1 else 0
theorem Li {e:BJ} {c b:B8} {wb ob:Nat} {p3 p5 p6 p7:Pr}  (hr:¬(0≤c.number∧c.number≤1)):A3 prog 217 [ptr wb 0,ptr ob 8] [BV wb ob c b,Bi ob e p3 p5 p6 p7] (int 2) []:=by
 refine A3.of func217 rfl rfl (by exact Nb rfl) fun M0 w0 S rs M1 w1=> ?_
 refine ac ?_
 refine ag ?_ ?_<;>intro h1 q1
 have r9:=q1
 refine ac ?_
 refine Cr 0 1 20 rfl ?_
 refine ac ?_
 refine Tr.ret (Fin.AJ (Fin.drop 0 (Fin.drop 0 (Fin.CS rfl (AL.tmp rfl (Lr)) ?_ (List.Perm.refl _)))))
 · exact Lr
 refine ac ?_
 refine Cr 0 1 20 rfl ?_
 refine Tr.cn rfl ?_ ?_<;>intro h2 q2
 refine ac ?_
 refine Tr.ret (Fin.AJ (Fin.drop 0 (Fin.drop 0 (Fin.CS rfl (AL.tmp rfl (Lr)) ?_ (List.Perm.refl _)))))
 · exact Lr
 exfalso;simp_all
theorem Lj {e:BJ} {c b:B8} {wb ob:Nat} {p3 p5 p6 p7:Pr}  (hr:¬(0≤c.number∧c.number≤1)):A3 prog 177 [ptr wb 0] [BV wb ob c b,Bi ob e p3 p5 p6 p7] (int 2) []:=by
 refine A3.of func177 rfl rfl (by exact Nb rfl) fun M0 w0 S rs M1 w1=> ?_
 refine ac ?_
 refine ap ?_
 refine TO.DF _ rfl rfl (by decide) rfl (Li (e:=e) (c:=c) (b:=b) hr) ⟨ke rfl,ke rfl,trivial⟩ ((AK (j:=0) rfl).trans (List.Perm.cons _ ((AK (j:=0) rfl).trans (List.Perm.cons _ (List.Perm.refl _))))) ?_
 refine ap ?_
 refine Tr.ret (Fin.CS rfl (AL.tmp rfl (Lr)) ?_ (List.Perm.refl _))
 · exact Lr
theorem Lk {e:BJ} {c b:B8} {wb ob:Nat} {p3 p5 p6 p7:Pr} {k:Int}  (hr:0≤c.number∧c.number≤1) (hk:ED e.De=k) (h:k=c.number):A3 prog 217 [ptr wb 0,ptr ob 8] [BV wb ob c b,Bi ob e p3 p5 p6 p7] (int 41) []:=by
 refine A3.of func217 rfl rfl (by exact Nb rfl) fun M0 w0 S rs M1 w1=> ?_
 refine ac ?_
 refine ag ?_ ?_<;>intro h1 q1
 exfalso;have:=q1;omega
 refine ac ?_
 refine Cr 0 1 20 rfl ?_
 refine Tr.cn rfl ?_ ?_<;>intro h2 q2
 exfalso;simp_all;omega
 refine ac ?_
 refine Tr.seq (Tr.Ax ?_)
 refine Tl rfl rfl rfl rfl z3 iB (fun b1=> ?_)
 refine ap ?_
 refine an ?_ ?_<;>intro h3 q3
 obtain rfl:k=1:=by rw [←hk];unfold ED;simp_all
 refine ap ?_
 refine ap ?_
 refine TO.DF _ rfl rfl (by decide) rfl (L9 (c:=c) (b:=b) h) ⟨ke rfl,ke rfl,trivial⟩ ((AK (j:=1) rfl).trans (List.Perm.cons _ ((AK (j:=0) rfl).trans (List.Perm.cons _ (List.Perm.refl _))))) ?_
 refine ap ?_
 refine ap ?_
 refine Tr.drop 1 (DD 6 rfl ?_)
 refine ac ?_
 refine Tr.ret (Fin.drop 0 (Fin.drop 0 (Fin.CS rfl (AL.tmp rfl (Lr)) ?_ (List.Perm.refl _))))
 · exact Lr
 obtain rfl:k=0:=by rw [←hk];unfold ED;simp_all
 refine ac ?_
 refine ap ?_
 refine TO.DF _ rfl rfl (by decide) rfl (L9 (c:=c) (b:=b) h) ⟨ke rfl,ke rfl,trivial⟩ ((AK (j:=1) rfl).trans (List.Perm.cons _ ((AK (j:=0) rfl).trans (List.Perm.cons _ (List.Perm.refl _))))) ?_
 refine ap ?_
 refine ap ?_
 refine Tr.drop 1 (DD 6 rfl ?_)
 refine ac ?_
 refine Tr.ret (Fin.drop 0 (Fin.drop 0 (Fin.CS rfl (AL.tmp rfl (Lr)) ?_ (List.Perm.refl _))))
 · exact Lr
theorem Ll {e:BJ} {c b:B8} {wb ob:Nat} {p3 p5 p6 p7:Pr} {k:Int}  (hr:0≤c.number∧c.number≤1) (hk:ED e.De=k) (h:k=c.number):A3 prog 177 [ptr wb 0] [BV wb ob c b,Bi ob e p3 p5 p6 p7] (int 41) []:=by
 refine A3.of func177 rfl rfl (by exact Nb rfl) fun M0 w0 S rs M1 w1=> ?_
 refine ac ?_
 refine ap ?_
 refine TO.DF _ rfl rfl (by decide) rfl (Lk (e:=e) (c:=c) (b:=b) hr hk h) ⟨ke rfl,ke rfl,trivial⟩ ((AK (j:=0) rfl).trans (List.Perm.cons _ ((AK (j:=0) rfl).trans (List.Perm.cons _ (List.Perm.refl _))))) ?_
 refine ap ?_
 refine Tr.ret (Fin.CS rfl (AL.tmp rfl (Lr)) ?_ (List.Perm.refl _))
 · exact Lr
theorem Lm {e:BJ} {c b:B8} {wb ob:Nat} {p3 p5 p6 p7:Pr} {k:Int}  (hr:0≤c.number∧c.number≤1) (hk:ED e.De=k) (h:k≠c.number):A3 prog 217 [ptr wb 0,ptr ob 8] [BV wb ob c b,Bi ob e p3 p5 p6 p7] (int 0) [BV wb ob c ⟨b.Ah,c.kind,k,b.at_,b.Cl⟩,Bi ob { e with De:=(c.number==1) } p3 p5 p6 p7]:=by
 refine A3.of func217 rfl rfl (by exact Nb rfl) fun M0 w0 S rs M1 w1=> ?_
 refine ac ?_
 refine ag ?_ ?_<;>intro h1 q1
 exfalso;have:=q1;omega
 refine ac ?_
 refine Cr 0 1 20 rfl ?_
 refine Tr.cn rfl ?_ ?_<;>intro h2 q2
 exfalso;simp_all;omega
 refine ac ?_
 refine Tr.seq (Tr.Ax ?_)
 refine Tl rfl rfl rfl rfl z3 iB (fun b1=> ?_)
 refine ap ?_
 refine an ?_ ?_<;>intro h3 q3
 obtain rfl:k=1:=by rw [←hk];unfold ED;simp_all
 refine ap ?_
 refine ap ?_
 refine TO.DF _ rfl rfl (by decide) rfl (L_ (c:=c) (b:=b) h) ⟨ke rfl,ke rfl,trivial⟩ ((AK (j:=1) rfl).trans (List.Perm.cons _ ((AK (j:=0) rfl).trans (List.Perm.cons _ (List.Perm.refl _))))) ?_
 refine ap ?_
 refine ap ?_
 refine Tr.drop 1 (DD 6 rfl ?_)
 refine ac ?_
 refine Tr.ret (Fin.CS rfl (AL.tmp rfl (Lr)) ?_ (List.Perm.refl _))
 · exact Lr
 obtain rfl:k=0:=by rw [←hk];unfold ED;simp_all
 refine ac ?_
 refine ap ?_
 refine TO.DF _ rfl rfl (by decide) rfl (L_ (c:=c) (b:=b) h) ⟨ke rfl,ke rfl,trivial⟩ ((AK (j:=1) rfl).trans (List.Perm.cons _ ((AK (j:=0) rfl).trans (List.Perm.cons _ (List.Perm.refl _))))) ?_
 refine ap ?_
 refine ap ?_
 refine Tr.drop 1 (DD 6 rfl ?_)
 refine ac ?_
 refine Tr.ret (Fin.CS rfl (AL.tmp rfl (Lr)) ?_ (List.Perm.refl _))
 · exact Lr
theorem Ln {e:BJ} {c b:B8} {wb ob:Nat} {p3 p5 p6 p7:Pr} {k:Int}  (hr:0≤c.number∧c.number≤1) (hk:ED e.De=k) (h:k≠c.number):A3 prog 177 [ptr wb 0] [BV wb ob c b,Bi ob e p3 p5 p6 p7] (int 0) [BV wb ob c ⟨b.Ah,c.kind,k,b.at_,b.Cl⟩,Bi ob { e with De:=(c.number==1) } p3 p5 p6 p7]:=by
 refine A3.of func177 rfl rfl (by exact Nb rfl) fun M0 w0 S rs M1 w1=> ?_
 refine ac ?_
 refine ap ?_
 refine TO.DF _ rfl rfl (by decide) rfl (Lm (e:=e) (c:=c) (b:=b) hr hk h) ⟨ke rfl,ke rfl,trivial⟩ ((AK (j:=0) rfl).trans (List.Perm.cons _ ((AK (j:=0) rfl).trans (List.Perm.cons _ (List.Perm.refl _))))) ?_
 refine ap ?_
 refine Tr.ret (Fin.CS rfl (AL.tmp rfl (Lr)) ?_ (List.Perm.refl _))
 · exact Lr
theorem P4 {e:BJ} {c b:B8} {wb ob:Nat} {p3 p5 p6 p7:Pr}  (hr:¬(0≤c.number∧c.number≤1)):A3 prog 217 [ptr wb 0,ptr ob 4] [BV wb ob c b,Bi ob e p3 p5 p6 p7] (int 2) []:=by
 refine A3.of func217 rfl rfl (by exact Nb rfl) fun M0 w0 S rs M1 w1=> ?_
 refine ac ?_
 refine ag ?_ ?_<;>intro h1 q1
 have r9:=q1
 refine ac ?_
 refine Cr 0 1 20 rfl ?_
 refine ac ?_
 refine Tr.ret (Fin.AJ (Fin.drop 0 (Fin.drop 0 (Fin.CS rfl (AL.tmp rfl (Lr)) ?_ (List.Perm.refl _)))))
 · exact Lr
 refine ac ?_
 refine Cr 0 1 20 rfl ?_
 refine Tr.cn rfl ?_ ?_<;>intro h2 q2
 refine ac ?_
 refine Tr.ret (Fin.AJ (Fin.drop 0 (Fin.drop 0 (Fin.CS rfl (AL.tmp rfl (Lr)) ?_ (List.Perm.refl _)))))
 · exact Lr
 exfalso;simp_all
theorem P5 {e:BJ} {c b:B8} {wb ob:Nat} {p3 p5 p6 p7:Pr}  (hr:¬(0≤c.number∧c.number≤1)):A3 prog 178 [ptr wb 0] [BV wb ob c b,Bi ob e p3 p5 p6 p7] (int 2) []:=by
 refine A3.of func178 rfl rfl (by exact Nb rfl) fun M0 w0 S rs M1 w1=> ?_
 refine ac ?_
 refine ap ?_
 refine TO.DF _ rfl rfl (by decide) rfl (P4 (e:=e) (c:=c) (b:=b) hr) ⟨ke rfl,ke rfl,trivial⟩ ((AK (j:=0) rfl).trans (List.Perm.cons _ ((AK (j:=0) rfl).trans (List.Perm.cons _ (List.Perm.refl _))))) ?_
 refine ap ?_
 refine Tr.ret (Fin.CS rfl (AL.tmp rfl (Lr)) ?_ (List.Perm.refl _))
 · exact Lr
theorem P6 {e:BJ} {c b:B8} {wb ob:Nat} {p3 p5 p6 p7:Pr} {k:Int}  (hr:0≤c.number∧c.number≤1) (hk:ED e.own=k) (h:k=c.number):A3 prog 217 [ptr wb 0,ptr ob 4] [BV wb ob c b,Bi ob e p3 p5 p6 p7] (int 41) []:=by
 refine A3.of func217 rfl rfl (by exact Nb rfl) fun M0 w0 S rs M1 w1=> ?_
 refine ac ?_
 refine ag ?_ ?_<;>intro h1 q1
 exfalso;have:=q1;omega
 refine ac ?_
 refine Cr 0 1 20 rfl ?_
 refine Tr.cn rfl ?_ ?_<;>intro h2 q2
 exfalso;simp_all;omega
 refine ac ?_
 refine Tr.seq (Tr.Ax ?_)
 refine Tl rfl rfl rfl rfl z3 iB (fun b1=> ?_)
 refine ap ?_
 refine an ?_ ?_<;>intro h3 q3
 obtain rfl:k=1:=by rw [←hk];unfold ED;simp_all
 refine ap ?_
 refine ap ?_
 refine TO.DF _ rfl rfl (by decide) rfl (L9 (c:=c) (b:=b) h) ⟨ke rfl,ke rfl,trivial⟩ ((AK (j:=1) rfl).trans (List.Perm.cons _ ((AK (j:=0) rfl).trans (List.Perm.cons _ (List.Perm.refl _))))) ?_
 refine ap ?_
 refine ap ?_
 refine Tr.drop 1 (DD 6 rfl ?_)
 refine ac ?_
 refine Tr.ret (Fin.drop 0 (Fin.drop 0 (Fin.CS rfl (AL.tmp rfl (Lr)) ?_ (List.Perm.refl _))))
 · exact Lr
 obtain rfl:k=0:=by rw [←hk];unfold ED;simp_all
 refine ac ?_
 refine ap ?_
 refine TO.DF _ rfl rfl (by decide) rfl (L9 (c:=c) (b:=b) h) ⟨ke rfl,ke rfl,trivial⟩ ((AK (j:=1) rfl).trans (List.Perm.cons _ ((AK (j:=0) rfl).trans (List.Perm.cons _ (List.Perm.refl _))))) ?_
 refine ap ?_
 refine ap ?_
 refine Tr.drop 1 (DD 6 rfl ?_)
 refine ac ?_
 refine Tr.ret (Fin.drop 0 (Fin.drop 0 (Fin.CS rfl (AL.tmp rfl (Lr)) ?_ (List.Perm.refl _))))
 · exact Lr
theorem P7 {e:BJ} {c b:B8} {wb ob:Nat} {p3 p5 p6 p7:Pr} {k:Int}  (hr:0≤c.number∧c.number≤1) (hk:ED e.own=k) (h:k=c.number):A3 prog 178 [ptr wb 0] [BV wb ob c b,Bi ob e p3 p5 p6 p7] (int 41) []:=by
 refine A3.of func178 rfl rfl (by exact Nb rfl) fun M0 w0 S rs M1 w1=> ?_
 refine ac ?_
 refine ap ?_
 refine TO.DF _ rfl rfl (by decide) rfl (P6 (e:=e) (c:=c) (b:=b) hr hk h) ⟨ke rfl,ke rfl,trivial⟩ ((AK (j:=0) rfl).trans (List.Perm.cons _ ((AK (j:=0) rfl).trans (List.Perm.cons _ (List.Perm.refl _))))) ?_
 refine ap ?_
 refine Tr.ret (Fin.CS rfl (AL.tmp rfl (Lr)) ?_ (List.Perm.refl _))
 · exact Lr
theorem P8 {e:BJ} {c b:B8} {wb ob:Nat} {p3 p5 p6 p7:Pr} {k:Int}  (hr:0≤c.number∧c.number≤1) (hk:ED e.own=k) (h:k≠c.number):A3 prog 217 [ptr wb 0,ptr ob 4] [BV wb ob c b,Bi ob e p3 p5 p6 p7] (int 0) [BV wb ob c ⟨b.Ah,c.kind,k,b.at_,b.Cl⟩,Bi ob { e with own:=(c.number==1) } p3 p5 p6 p7]:=by
 refine A3.of func217 rfl rfl (by exact Nb rfl) fun M0 w0 S rs M1 w1=> ?_
 refine ac ?_
 refine ag ?_ ?_<;>intro h1 q1
 exfalso;have:=q1;omega
 refine ac ?_
 refine Cr 0 1 20 rfl ?_
 refine Tr.cn rfl ?_ ?_<;>intro h2 q2
 exfalso;simp_all;omega
 refine ac ?_
 refine Tr.seq (Tr.Ax ?_)
 refine Tl rfl rfl rfl rfl z3 iB (fun b1=> ?_)
 refine ap ?_
 refine an ?_ ?_<;>intro h3 q3
 obtain rfl:k=1:=by rw [←hk];unfold ED;simp_all
 refine ap ?_
 refine ap ?_
 refine TO.DF _ rfl rfl (by decide) rfl (L_ (c:=c) (b:=b) h) ⟨ke rfl,ke rfl,trivial⟩ ((AK (j:=1) rfl).trans (List.Perm.cons _ ((AK (j:=0) rfl).trans (List.Perm.cons _ (List.Perm.refl _))))) ?_
 refine ap ?_
 refine ap ?_
 refine Tr.drop 1 (DD 6 rfl ?_)
 refine ac ?_
 refine Tr.ret (Fin.CS rfl (AL.tmp rfl (Lr)) ?_ (List.Perm.refl _))
 · exact Lr
 obtain rfl:k=0:=by rw [←hk];unfold ED;simp_all
 refine ac ?_
 refine ap ?_
 refine TO.DF _ rfl rfl (by decide) rfl (L_ (c:=c) (b:=b) h) ⟨ke rfl,ke rfl,trivial⟩ ((AK (j:=1) rfl).trans (List.Perm.cons _ ((AK (j:=0) rfl).trans (List.Perm.cons _ (List.Perm.refl _))))) ?_
 refine ap ?_
 refine ap ?_
 refine Tr.drop 1 (DD 6 rfl ?_)
 refine ac ?_
 refine Tr.ret (Fin.CS rfl (AL.tmp rfl (Lr)) ?_ (List.Perm.refl _))
 · exact Lr
theorem P9 {e:BJ} {c b:B8} {wb ob:Nat} {p3 p5 p6 p7:Pr} {k:Int}  (hr:0≤c.number∧c.number≤1) (hk:ED e.own=k) (h:k≠c.number):A3 prog 178 [ptr wb 0] [BV wb ob c b,Bi ob e p3 p5 p6 p7] (int 0) [BV wb ob c ⟨b.Ah,c.kind,k,b.at_,b.Cl⟩,Bi ob { e with own:=(c.number==1) } p3 p5 p6 p7]:=by
 refine A3.of func178 rfl rfl (by exact Nb rfl) fun M0 w0 S rs M1 w1=> ?_
 refine ac ?_
 refine ap ?_
 refine TO.DF _ rfl rfl (by decide) rfl (P8 (e:=e) (c:=c) (b:=b) hr hk h) ⟨ke rfl,ke rfl,trivial⟩ ((AK (j:=0) rfl).trans (List.Perm.cons _ ((AK (j:=0) rfl).trans (List.Perm.cons _ (List.Perm.refl _))))) ?_
 refine ap ?_
 refine Tr.ret (Fin.CS rfl (AL.tmp rfl (Lr)) ?_ (List.Perm.refl _))
 · exact Lr
theorem Xc {e:BJ} (B6:e.small):Jg prog 116 [agg (Aj e)] (fun x=>agg (XT e (ints e.AF) (DC e.ids) (is x) (ints e.hashes))) (fun x=>[Ap 3 1 (e.anchors.map fun n=>[int n]) x]):=by
 refine Jg.of func116 rfl rfl (by exact Nb rfl) fun M0 w0 S rs M1 w1=> ?_
 have hs1:=B6.AF
 have LM:=B6.anchors
 have T4:=B6.hashes
 have Vk:=B6.KF
 refine Tr.seq (Tr.Ax ?_)
 refine TO.IA rfl rfl (by decide) rfl (Va rfl) (fun b1=> ?_)
 refine Tl rfl rfl rfl rfl z32 Dl (fun b2=> ?_)
 refine ao ?_
 refine Tr.seq (Tr.pad (Tr.pad (Tr.rx ?_)))
 refine ax ?_
 refine xo rfl (fun _=>Bq (DP (l:=e.AF) hs1) rfl rfl) ?_
 refine ax ?_
 refine Cx.ef 0 rfl rfl (by decide) (Ej rfl rfl (by decide) rfl (Ky (l:=e.anchors) LM) ⟨ke rfl,trivial⟩) ?_
 refine ax ?_
 refine xo rfl (fun _=>Bq (DP (l:=e.hashes) T4) rfl rfl) ?_
 refine ax ?_
 refine Cx.ef 1 rfl rfl (by decide) (Ej rfl rfl (by decide) rfl (HC (l:=e.ids) Vk) ⟨ke rfl,trivial⟩) ?_
 refine xo rfl (fun _=>AE rfl FQ (vl rfl)) (Cx.CT 3 rfl rfl (Ab rfl rfl (vl rfl) (Vo rfl) GU rfl (by exact Nb rfl) rfl) (xo rfl (fun _=>AE rfl IM (vl rfl)) (Cx.CT 3 rfl rfl (Cb rfl rfl rfl (vl rfl) rfl GU (by exact Nb rfl)) (xo rfl (fun _=>AE rfl JX (vl rfl)) (Cx.CT 3 rfl rfl (Kq rfl rfl rfl (vl rfl) (Vo rfl) GU rfl (fun _=>by exact Nat.le_of_ble_eq_true rfl)) (xo rfl (fun _=>AE rfl FR (vl rfl)) (Cx.CT 3 rfl rfl (Ko rfl rfl rfl (vl rfl) rfl N0 (fun _=>by exact Nat.le_of_ble_eq_true rfl)) ?_)))))))
 refine Cx.nil ⟨by kernel_rfl,?_⟩
 refine A9.WZ 0 1 3 10 16 rfl rfl rfl (by decide) (by decide) (by decide) (by decide) rfl rfl (fun v1 v2=> ?_)
 refine A9.done Zb (Fin.go (CL 1 2 rfl ?_))
 refine ac ?_
 refine co rfl (Az 1 rfl (Ff rfl underlying30 (Ka rfl))) ?_
 refine ac ?_
 refine Tr.block (Tr.re 23 rfl (int_eq (by rw [List.length_map])) (Tr.BW [(1,_),(2,_),(22,_),(23,_)] (R7 rfl) (fun k:Nat=>[(24,int ((k:Nat):Int))]) (fun k:Nat=>k≤(e.ids).length) (fun k:Nat=>(e.ids).length-k) 0 (Nat.zero_le _) ⟨ke rfl,trivial⟩ ?_))
 rintro k Bk
 refine ac ?_
 refine Tr.seq ?_
 refine Tr.cn rfl ?_ ?_<;>intro h1 q1
 have Ao:k<(e.ids).length:=AZ h1
 obtain ⟨x,An⟩:=at_ Ao
 have hxs:=B6.ids x (List.mem_of_getElem? An)
 refine ac ?_
 refine ao ?_
 refine tp rfl (Az 1 rfl (FT rfl underlying30 Be (Ka rfl) (vl rfl) (by omega) (by rw [List.length_map];omega))) ?_
 refine tp rfl (Az 1 rfl (FU rfl Ew Be (vl rfl) (BF fun _=>rfl) (by rw [Int.toNat_natCast,List.getElem?_map,An];rfl))) ?_
 refine Tl rfl rfl rfl rfl JG IB (fun b3=> ?_)
 refine tm rfl ?_
 refine sf 0 4 ⟨rfl,rfl,rfl⟩ rfl rfl rfl rfl ?_
 refine ao ?_
 refine Tr.rx ?_
 refine ax ?_
 refine xo rfl (fun _=>Bq (FB hxs) rfl rfl) ?_
 refine Ev 1 rfl rfl (FT rfl underlying30 Be (Ka rfl) (vl rfl) (by omega) (by rw [List.length_map];omega)) ?_
 refine Cx.CT 1 rfl rfl (FV rfl rfl (vl rfl) (Va rfl) Be rfl (BF fun _=>rfl) (by rw [Int.toNat_natCast,List.getElem?_map,An];rfl) (by decide) (HA (f:=BC) (q:=0) (m:=4) An rfl)) ?_
 refine Cx.nil ⟨by kernel_rfl,?_⟩
 refine A9.done Zb ?_
 refine ac ?_
 refine EM 1 2 22 23 24 rfl ?_
 refine ac ?_
 exact Fin.AG (k+1) ⟨Ao,by omega⟩ ⟨⟨_,rfl,AS k⟩,ke rfl,ke rfl,ke rfl,ke rfl,trivial⟩
 have BQ:k=(e.ids).length:=by have:=Aa h1;omega
 subst BQ
 refine ac ?_
 refine Tr.seq (Tr.J7 3 1 5 rfl rfl (by decide) rfl (Dj _ _) (BF fun _=>rfl) ?_)
 refine ao ?_
 refine TO.AR 2 rfl rfl rfl (vl rfl) (Va rfl) rfl BI rfl rfl ?_
 refine ao ?_
 refine Tr.drop 1 (Tr.drop 2 (Tr.ret (Fin.Kr (Fin.Ui v1 [_] rfl (AL.cell 0 rfl rfl Bh BI rfl (Lr)) ?_ (List.Perm.refl _)))))
 · exact AY ⟨Lr,Lr,Lr,Lr,Lr,Lr,Dj _ _,Lr,Lr,trivial⟩
theorem Xd {e:BJ} (B6:e.small):Jg prog 116 [agg (Aj e)] (fun x=>agg (XT e (ints e.AF) (DC e.ids) (ints e.anchors) (is x))) (fun x=>[Ap 3 1 (e.hashes.map fun n=>[int n]) x]):=by
 refine Jg.of func116 rfl rfl (by exact Nb rfl) fun M0 w0 S rs M1 w1=> ?_
 have hs1:=B6.AF
 have LM:=B6.anchors
 have T4:=B6.hashes
 have Vk:=B6.KF
 refine Tr.seq (Tr.Ax ?_)
 refine TO.IA rfl rfl (by decide) rfl (Va rfl) (fun b1=> ?_)
 refine Tl rfl rfl rfl rfl z32 Dl (fun b2=> ?_)
 refine ao ?_
 refine Tr.seq (Tr.pad (Tr.pad (Tr.rx ?_)))
 refine ax ?_
 refine xo rfl (fun _=>Bq (DP (l:=e.AF) hs1) rfl rfl) ?_
 refine ax ?_
 refine xo rfl (fun _=>Bq (DP (l:=e.anchors) LM) rfl rfl) ?_
 refine ax ?_
 refine Cx.ef 0 rfl rfl (by decide) (Ej rfl rfl (by decide) rfl (Ky (l:=e.hashes) T4) ⟨ke rfl,trivial⟩) ?_
 refine ax ?_
 refine Cx.ef 1 rfl rfl (by decide) (Ej rfl rfl (by decide) rfl (HC (l:=e.ids) Vk) ⟨ke rfl,trivial⟩) ?_
 refine xo rfl (fun _=>AE rfl FQ (vl rfl)) (Cx.CT 3 rfl rfl (Ab rfl rfl (vl rfl) (Vo rfl) GU rfl (by exact Nb rfl) rfl) (xo rfl (fun _=>AE rfl IM (vl rfl)) (Cx.CT 3 rfl rfl (Ab rfl rfl (vl rfl) (Vo rfl) GU rfl (by exact Nb rfl) rfl) (xo rfl (fun _=>AE rfl JX (vl rfl)) (Cx.CT 3 rfl rfl (Cb rfl rfl rfl (vl rfl) rfl GU (by exact Nb rfl)) (xo rfl (fun _=>AE rfl FR (vl rfl)) (Cx.CT 3 rfl rfl (Ko rfl rfl rfl (vl rfl) rfl N0 (fun _=>by exact Nat.le_of_ble_eq_true rfl)) ?_)))))))
 refine Cx.nil ⟨by kernel_rfl,?_⟩
 refine A9.WZ 0 1 3 13 16 rfl rfl rfl (by decide) (by decide) (by decide) (by decide) rfl rfl (fun v1 v2=> ?_)
 refine A9.done Zb (Fin.go (CL 1 2 rfl ?_))
 refine ac ?_
 refine co rfl (Az 1 rfl (Ff rfl underlying30 (Ka rfl))) ?_
 refine ac ?_
 refine Tr.block (Tr.re 23 rfl (int_eq (by rw [List.length_map])) (Tr.BW [(1,_),(2,_),(22,_),(23,_)] (R7 rfl) (fun k:Nat=>[(24,int ((k:Nat):Int))]) (fun k:Nat=>k≤(e.ids).length) (fun k:Nat=>(e.ids).length-k) 0 (Nat.zero_le _) ⟨ke rfl,trivial⟩ ?_))
 rintro k Bk
 refine ac ?_
 refine Tr.seq ?_
 refine Tr.cn rfl ?_ ?_<;>intro h1 q1
 have Ao:k<(e.ids).length:=AZ h1
 obtain ⟨x,An⟩:=at_ Ao
 have hxs:=B6.ids x (List.mem_of_getElem? An)
 refine ac ?_
 refine ao ?_
 refine tp rfl (Az 1 rfl (FT rfl underlying30 Be (Ka rfl) (vl rfl) (by omega) (by rw [List.length_map];omega))) ?_
 refine tp rfl (Az 1 rfl (FU rfl Ew Be (vl rfl) (BF fun _=>rfl) (by rw [Int.toNat_natCast,List.getElem?_map,An];rfl))) ?_
 refine Tl rfl rfl rfl rfl JG IB (fun b3=> ?_)
 refine tm rfl ?_
 refine sf 0 4 ⟨rfl,rfl,rfl⟩ rfl rfl rfl rfl ?_
 refine ao ?_
 refine Tr.rx ?_
 refine ax ?_
 refine xo rfl (fun _=>Bq (FB hxs) rfl rfl) ?_
 refine Ev 1 rfl rfl (FT rfl underlying30 Be (Ka rfl) (vl rfl) (by omega) (by rw [List.length_map];omega)) ?_
 refine Cx.CT 1 rfl rfl (FV rfl rfl (vl rfl) (Va rfl) Be rfl (BF fun _=>rfl) (by rw [Int.toNat_natCast,List.getElem?_map,An];rfl) (by decide) (HA (f:=BC) (q:=0) (m:=4) An rfl)) ?_
 refine Cx.nil ⟨by kernel_rfl,?_⟩
 refine A9.done Zb ?_
 refine ac ?_
 refine EM 1 2 22 23 24 rfl ?_
 refine ac ?_
 exact Fin.AG (k+1) ⟨Ao,by omega⟩ ⟨⟨_,rfl,AS k⟩,ke rfl,ke rfl,ke rfl,ke rfl,trivial⟩
 have BQ:k=(e.ids).length:=by have:=Aa h1;omega
 subst BQ
 refine ac ?_
 refine Tr.seq (Tr.J7 3 1 5 rfl rfl (by decide) rfl (Dj _ _) (BF fun _=>rfl) ?_)
 refine ao ?_
 refine TO.AR 2 rfl rfl rfl (vl rfl) (Va rfl) rfl BI rfl rfl ?_
 refine ao ?_
 refine Tr.drop 1 (Tr.drop 2 (Tr.ret (Fin.Kr (Fin.Ui v1 [_] rfl (AL.cell 0 rfl rfl Bh BI rfl (Lr)) ?_ (List.Perm.refl _)))))
 · exact AY ⟨Lr,Lr,Lr,Lr,Lr,Lr,Lr,Dj _ _,Lr,trivial⟩
theorem Ip {e:BJ} (B6:e.small):A4 prog 116 [agg (Aj e)] (agg (Aj e)):=by
 refine fo func116 rfl ⟨rfl,rfl⟩ fun M0 w0=> ?_
 have hs1:=B6.AF
 have LM:=B6.anchors
 have T4:=B6.hashes
 have Vk:=B6.KF
 refine Tr.seq (Tr.Ax ?_)
 refine TO.IA rfl rfl (by decide) rfl (Va rfl) (fun b1=> ?_)
 refine Tl rfl rfl rfl rfl z32 Dl (fun b2=> ?_)
 refine ao ?_
 refine Tr.seq (Tr.pad (Tr.rx ?_))
 refine ax ?_
 refine xo rfl (fun _=>Bq (DP (l:=e.AF) hs1) rfl rfl) ?_
 refine ax ?_
 refine xo rfl (fun _=>Bq (DP (l:=e.anchors) LM) rfl rfl) ?_
 refine ax ?_
 refine xo rfl (fun _=>Bq (DP (l:=e.hashes) T4) rfl rfl) ?_
 refine ax ?_
 refine Cx.ef 0 rfl rfl (by decide) (Ej rfl rfl (by decide) rfl (HC (l:=e.ids) Vk) ⟨ke rfl,trivial⟩) ?_
 refine xo rfl (fun _=>AE rfl FQ (vl rfl)) (Cx.CT 2 rfl rfl (Ab rfl rfl (vl rfl) (Vo rfl) GU rfl (by exact Nb rfl) rfl) (xo rfl (fun _=>AE rfl IM (vl rfl)) (Cx.CT 2 rfl rfl (Ab rfl rfl (vl rfl) (Vo rfl) GU rfl (by exact Nb rfl) rfl) (xo rfl (fun _=>AE rfl JX (vl rfl)) (Cx.CT 2 rfl rfl (Ab rfl rfl (vl rfl) (Vo rfl) GU rfl (by exact Nb rfl) rfl) (xo rfl (fun _=>AE rfl FR (vl rfl)) (Cx.CT 2 rfl rfl (Cb rfl rfl rfl (vl rfl) rfl N0 (by exact Nb rfl)) ?_)))))))
 refine Cx.nil ⟨by kernel_rfl,?_⟩
 refine A9.Hu 0 2 16 rfl rfl (by decide) rfl (fun v1=> ?_)
 refine A9.done Wd (Fin.go (CL 1 2 rfl ?_))
 refine ac ?_
 refine co rfl (Az 0 rfl (Ff rfl underlying30 (Ka rfl))) ?_
 refine ac ?_
 refine Tr.block (Tr.re 23 rfl (int_eq (by rw [List.length_map])) (Tr.BW [(1,_),(2,_),(22,_),(23,_)] (R7 rfl) (fun k:Nat=>[(24,int ((k:Nat):Int))]) (fun k:Nat=>k≤(e.ids).length) (fun k:Nat=>(e.ids).length-k) 0 (Nat.zero_le _) ⟨ke rfl,trivial⟩ ?_))
 rintro k Bk
 refine ac ?_
 refine Tr.seq ?_
 refine Tr.cn rfl ?_ ?_<;>intro h1 q1
 have Ao:k<(e.ids).length:=AZ h1
 obtain ⟨x,An⟩:=at_ Ao
 have hxs:=B6.ids x (List.mem_of_getElem? An)
 refine ac ?_
 refine ao ?_
 refine tp rfl (Az 0 rfl (FT rfl underlying30 Be (Ka rfl) (vl rfl) (by omega) (by rw [List.length_map];omega))) ?_
 refine tp rfl (Az 0 rfl (FU rfl Ew Be (vl rfl) (BF fun _=>rfl) (by rw [Int.toNat_natCast,List.getElem?_map,An];rfl))) ?_
 refine Tl rfl rfl rfl rfl JG IB (fun b3=> ?_)
 refine tm rfl ?_
 refine sf 0 4 ⟨rfl,rfl,rfl⟩ rfl rfl rfl rfl ?_
 refine ao ?_
 refine Tr.rx ?_
 refine ax ?_
 refine xo rfl (fun _=>Bq (FB hxs) rfl rfl) ?_
 refine Ev 0 rfl rfl (FT rfl underlying30 Be (Ka rfl) (vl rfl) (by omega) (by rw [List.length_map];omega)) ?_
 refine Cx.CT 0 rfl rfl (FV rfl rfl (vl rfl) (Va rfl) Be rfl (BF fun _=>rfl) (by rw [Int.toNat_natCast,List.getElem?_map,An];rfl) (by decide) (HA (f:=BC) (q:=0) (m:=4) An rfl)) ?_
 refine Cx.nil ⟨by kernel_rfl,?_⟩
 refine A9.done Wd ?_
 refine ac ?_
 refine EM 1 2 22 23 24 rfl ?_
 refine ac ?_
 exact Fin.AG (k+1) ⟨Ao,by omega⟩ ⟨⟨_,rfl,AS k⟩,ke rfl,ke rfl,ke rfl,ke rfl,trivial⟩
 have BQ:k=(e.ids).length:=by have:=Aa h1;omega
 subst BQ
 refine ac ?_
 refine Tr.seq (Tr.J7 2 0 5 rfl rfl (by decide) rfl (Dj _ _) (BF fun _=>rfl) ?_)
 refine ao ?_
 refine TO.AR 1 rfl rfl rfl (vl rfl) (Va rfl) rfl BI rfl rfl ?_
 refine ao ?_
 refine Tr.drop 0 (Tr.drop 1 (Tr.ret (Fin.CG rfl (AL.cell 0 rfl rfl Bh BI rfl (Lr)) ?_)))
 · exact Lr
def CI (e2:BJ) (b:B8) (err:Int):BJ×B8×Int:=if err≠0 then (Bf,BM,err) else if BK e2=true then (e2,b,0) else (Bf,BM,18)
theorem RZ {e e2:BJ} {c b:B8} {fk:Nat} {err:Int} (hf:e.fits) (B6:e.small) (hce:BK e=true) (hk:1≤c.kind∧c.kind≤12) (KH:GI c=true) (hkp:Ec[c.kind.toNat]? =some (fn (.func fk) [])) (hbk:b.Cl.small) (N2:e2.fits) (hm:(err≠0∧∀(wb ob:Nat) (v:Value),A3 prog fk [ptr wb 0] [BV wb ob c (B0 c),Bi ob e (ints e.AF) (is v) (ints e.anchors) (ints e.hashes),Ap 27 4 (e.ids.map BC) v] (int err) [])∨(err=0∧∀(wb ob:Nat) (v:Value),A3 prog fk [ptr wb 0] [BV wb ob c (B0 c),Bi ob e (ints e.AF) (is v) (ints e.anchors) (ints e.hashes),Ap 27 4 (e.ids.map BC) v] (int 0) [BV wb ob c b,AA true ob 32 (Aj e2)])):A4 prog 74 [agg (Aj e),agg (B3 c)] (Eu [agg (Aj (CI e2 b err).1),agg (B3 (CI e2 b err).2.1),int (CI e2 b err).2.2]):=by
 refine fo func74 rfl ⟨rfl,rfl⟩ fun M0 w0=>(Tr.seq (Tr.Ax (tp rfl (Ba rfl (Va rfl)) (tp rfl (Ba rfl (Va rfl)) ?_))))
 refine Tl rfl rfl rfl rfl z32 Dl (fun b1=> ?_)
 refine Tl rfl rfl rfl rfl z29 JV (fun b2=> ?_)
 refine ap ?_
 refine ac ?_
 refine co rfl (Bq (C6 hf) rfl rfl) ?_
 refine an ?_ ?_<;>intro h1 q1
 exfalso;rw [if_pos hce] at h1;exact absurd h1 (by decide)
 refine ac ?_
 refine ag ?_ ?_<;>intro h2 q2
 exfalso;have:=q2;omega
 refine ag ?_ ?_<;>intro h3 q3
 exfalso;have:=q3;omega
 refine cy h3 rfl (AO rfl CC CK (vl rfl) rfl rfl) ?_
 refine cy h3 rfl (Bq (Kz (c:=c)) rfl rfl) ?_
 refine ac ?_
 refine EM 2 3 4 5 27 rfl ?_
 refine Tr.cn rfl ?_ ?_<;>intro h4 q4
 rw [KH] at h4;exact absurd h4 (by decide)
 refine ac ?_
 refine ap ?_
 refine TO.OW rfl rfl (by decide) rfl (XV B6) ⟨ke rfl,trivial⟩ (fun v1=> ?_)
 refine Tl rfl rfl rfl rfl z32 Dl (fun b3=> ?_)
 refine ap ?_
 refine ap ?_
 refine TO.IA rfl rfl (by decide) rfl (Va rfl) (fun b4=> ?_)
 refine ap ?_
 refine EM 3 4 5 7 8 rfl (Tr.seq (Tr.seq (Tr.YQ 0 (ptr b3 0::NV c (B0 c)) rfl ⟨Lr,Lr,Lr,Lr,Lr,Lr,Lr,Lr,Lr,Lr,Lr,Lr,Lr,Lr,Lr,Lr,AD 15,trivial⟩ ?_)))
 rcases hm with ⟨he,hm⟩|⟨he,hm⟩
 refine Tr.Da mixed 5 (by kernel_rfl) (AP.op rfl rfl (by decide) (R9 (Fj) rfl) (AP.op rfl rfl (by decide) (La rfl GD rfl rfl) (AP.op rfl rfl (by decide) (Fv rfl Ce rfl) (AP.op rfl rfl (by decide) (D1 rfl underlying161 Gx JJ (vl rfl) (vl rfl) (by omega) (by omega) hkp) (AP.op rfl rfl (by decide) (BL rfl (vl rfl)) ?_)))))
 refine AP.turn _ rfl (by decide) (Db _ rfl rfl (vl rfl) (hm _ _ _) ⟨ke rfl,trivial⟩ ((AK (j:=0) rfl).trans (List.Perm.cons _ ((AK (j:=0) rfl).trans (List.Perm.cons _ ((AK (j:=0) rfl).trans (List.Perm.cons _ (List.Perm.refl _)))))))) ?_
 refine a2 ?_
 refine GS 4 5 7 8 9 45 rfl ?_
 refine Tr.cn rfl ?_ ?_<;>intro h5 q5
 have hX:CI e2 b err=(Bf,BM,err):=if_pos he
 refine ap ?_
 refine Tr.ret (Fin.AJ (Fin.Cf rfl (AL.cell 1 rfl rfl Bh BI rfl (Lr)) (AL.cell 0 rfl rfl CC CK rfl (Lr)) (AL.tmp rfl (Lr)) ?_))
 refine A_ ⟨?_,?_,?_,trivial⟩
 · rw [hX];exact AY ⟨Lr,Lr,Lr,AD 1,Lr,AD 4,AD 1,AD 1,Lr,trivial⟩
 · rw [hX];exact AY ⟨Lr,Lr,Lr,Lr,Lr,Lr,Lr,AD 15,trivial⟩
 · exact int_eq (by rw [hX])
 exfalso;have:=q5;omega
 refine Tr.Da mixed 5 (by kernel_rfl) (AP.op rfl rfl (by decide) (R9 (Fj) rfl) (AP.op rfl rfl (by decide) (La rfl GD rfl rfl) (AP.op rfl rfl (by decide) (Fv rfl Ce rfl) (AP.op rfl rfl (by decide) (D1 rfl underlying161 Gx JJ (vl rfl) (vl rfl) (by omega) (by omega) hkp) (AP.op rfl rfl (by decide) (BL rfl (vl rfl)) ?_)))))
 refine AP.turn _ rfl (by decide) (Db _ rfl rfl (vl rfl) (hm _ _ _) ⟨ke rfl,trivial⟩ ((AK (j:=0) rfl).trans (List.Perm.cons _ ((AK (j:=0) rfl).trans (List.Perm.cons _ ((AK (j:=0) rfl).trans (List.Perm.cons _ (List.Perm.refl _)))))))) ?_
 refine a2 ?_
 refine GS 4 5 7 8 9 45 rfl ?_
 refine Tr.cn rfl ?_ ?_<;>intro h6 q6
 exact absurd h6 (by decide)
 refine a2 ?_
 refine co rfl (Bq (C6 (e:=e2) N2) rfl rfl) ?_
 refine an ?_ ?_<;>intro h7 q7
 have Hj:¬BK e2=true:=by intro h_;rw [if_pos h_] at h7;exact absurd h7 (by decide)
 have hX:CI e2 b err=(Bf,BM,18):=(if_neg (fun h_=>h_ he)).trans (if_neg Hj)
 refine ap ?_
 refine Tr.ret (Fin.AJ (Fin.Cf rfl (AL.cell 3 rfl rfl Bh BI rfl (Lr)) (AL.cell 2 rfl rfl CC CK rfl (Lr)) (AL.tmp rfl (Lr)) ?_))
 refine A_ ⟨?_,?_,?_,trivial⟩
 · rw [hX];exact AY ⟨Lr,Lr,Lr,AD 1,Lr,AD 4,AD 1,AD 1,Lr,trivial⟩
 · rw [hX];exact AY ⟨Lr,Lr,Lr,Lr,Lr,Lr,Lr,AD 15,trivial⟩
 · exact int_eq (by rw [hX])
 have Hj:BK e2=true:=Decidable.byContradiction fun h_=>by rw [if_neg h_] at h7;exact absurd h7 (by decide)
 have hX:CI e2 b err=(e2,b,0):=(if_neg (fun h_=>h_ he)).trans (if_pos Hj)
 refine ac ?_
 refine Tr.seq (Tr.rx ?_)
 refine ay ?_
 refine xo rfl (fun _=>Bq (KG (c:=b) hbk) rfl rfl) ?_
 refine ay ?_
 refine Cx.nil ⟨by kernel_rfl,?_⟩
 refine A9.done IY (Fin.go (Cr 4 5 6 rfl (Tr.ret (Fin.Cf rfl (AL.cell 3 rfl rfl Bh BI rfl (Lr)) (AL.cell 2 rfl rfl CC CK rfl (Lr)) (AL.tmp rfl (Lr)) ?_))))
 refine A_ ⟨?_,?_,?_,trivial⟩
 · rw [hX];exact Lr
 · rw [hX];exact Lr
 · exact int_eq (by rw [hX])
theorem Ra {e e2:BJ} {c b:B8} {fk:Nat} {err:Int} (hf:e.fits) (B6:e.small) (hce:BK e=true) (hk:1≤c.kind∧c.kind≤12) (KH:GI c=true) (hkp:Ec[c.kind.toNat]? =some (fn (.func fk) [])) (hbk:b.Cl.small) (N2:e2.fits) (hm:(err≠0∧∀(wb ob:Nat) (v:Value),A3 prog fk [ptr wb 0] [BV wb ob c (B0 c),Bi ob e (is v) (DC e.ids) (ints e.anchors) (ints e.hashes),Ap 3 1 (e.AF.map fun n=>[int n]) v] (int err) [])∨(err=0∧∀(wb ob:Nat) (v:Value),A3 prog fk [ptr wb 0] [BV wb ob c (B0 c),Bi ob e (is v) (DC e.ids) (ints e.anchors) (ints e.hashes),Ap 3 1 (e.AF.map fun n=>[int n]) v] (int 0) [BV wb ob c b,AA true ob 32 (Aj e2)])):A4 prog 74 [agg (Aj e),agg (B3 c)] (Eu [agg (Aj (CI e2 b err).1),agg (B3 (CI e2 b err).2.1),int (CI e2 b err).2.2]):=by
 refine fo func74 rfl ⟨rfl,rfl⟩ fun M0 w0=>(Tr.seq (Tr.Ax (tp rfl (Ba rfl (Va rfl)) (tp rfl (Ba rfl (Va rfl)) ?_))))
 refine Tl rfl rfl rfl rfl z32 Dl (fun b1=> ?_)
 refine Tl rfl rfl rfl rfl z29 JV (fun b2=> ?_)
 refine ap ?_
 refine ac ?_
 refine co rfl (Bq (C6 hf) rfl rfl) ?_
 refine an ?_ ?_<;>intro h1 q1
 exfalso;rw [if_pos hce] at h1;exact absurd h1 (by decide)
 refine ac ?_
 refine ag ?_ ?_<;>intro h2 q2
 exfalso;have:=q2;omega
 refine ag ?_ ?_<;>intro h3 q3
 exfalso;have:=q3;omega
 refine cy h3 rfl (AO rfl CC CK (vl rfl) rfl rfl) ?_
 refine cy h3 rfl (Bq (Kz (c:=c)) rfl rfl) ?_
 refine ac ?_
 refine EM 2 3 4 5 27 rfl ?_
 refine Tr.cn rfl ?_ ?_<;>intro h4 q4
 rw [KH] at h4;exact absurd h4 (by decide)
 refine ac ?_
 refine ap ?_
 refine TO.OW rfl rfl (by decide) rfl (XW B6) ⟨ke rfl,trivial⟩ (fun v1=> ?_)
 refine Tl rfl rfl rfl rfl z32 Dl (fun b3=> ?_)
 refine ap ?_
 refine ap ?_
 refine TO.IA rfl rfl (by decide) rfl (Va rfl) (fun b4=> ?_)
 refine ap ?_
 refine EM 3 4 5 7 8 rfl (Tr.seq (Tr.seq (Tr.YQ 0 (ptr b3 0::NV c (B0 c)) rfl ⟨Lr,Lr,Lr,Lr,Lr,Lr,Lr,Lr,Lr,Lr,Lr,Lr,Lr,Lr,Lr,Lr,AD 15,trivial⟩ ?_)))
 rcases hm with ⟨he,hm⟩|⟨he,hm⟩
 refine Tr.Da mixed 5 (by kernel_rfl) (AP.op rfl rfl (by decide) (R9 (Fj) rfl) (AP.op rfl rfl (by decide) (La rfl GD rfl rfl) (AP.op rfl rfl (by decide) (Fv rfl Ce rfl) (AP.op rfl rfl (by decide) (D1 rfl underlying161 Gx JJ (vl rfl) (vl rfl) (by omega) (by omega) hkp) (AP.op rfl rfl (by decide) (BL rfl (vl rfl)) ?_)))))
 refine AP.turn _ rfl (by decide) (Db _ rfl rfl (vl rfl) (hm _ _ _) ⟨ke rfl,trivial⟩ ((AK (j:=0) rfl).trans (List.Perm.cons _ ((AK (j:=0) rfl).trans (List.Perm.cons _ ((AK (j:=0) rfl).trans (List.Perm.cons _ (List.Perm.refl _)))))))) ?_
 refine a2 ?_
 refine GS 4 5 7 8 9 45 rfl ?_
 refine Tr.cn rfl ?_ ?_<;>intro h5 q5
 have hX:CI e2 b err=(Bf,BM,err):=if_pos he
 refine ap ?_
 refine Tr.ret (Fin.AJ (Fin.Cf rfl (AL.cell 1 rfl rfl Bh BI rfl (Lr)) (AL.cell 0 rfl rfl CC CK rfl (Lr)) (AL.tmp rfl (Lr)) ?_))
 refine A_ ⟨?_,?_,?_,trivial⟩
 · rw [hX];exact AY ⟨Lr,Lr,Lr,AD 1,Lr,AD 4,AD 1,AD 1,Lr,trivial⟩
 · rw [hX];exact AY ⟨Lr,Lr,Lr,Lr,Lr,Lr,Lr,AD 15,trivial⟩
 · exact int_eq (by rw [hX])
 exfalso;have:=q5;omega
 refine Tr.Da mixed 5 (by kernel_rfl) (AP.op rfl rfl (by decide) (R9 (Fj) rfl) (AP.op rfl rfl (by decide) (La rfl GD rfl rfl) (AP.op rfl rfl (by decide) (Fv rfl Ce rfl) (AP.op rfl rfl (by decide) (D1 rfl underlying161 Gx JJ (vl rfl) (vl rfl) (by omega) (by omega) hkp) (AP.op rfl rfl (by decide) (BL rfl (vl rfl)) ?_)))))
 refine AP.turn _ rfl (by decide) (Db _ rfl rfl (vl rfl) (hm _ _ _) ⟨ke rfl,trivial⟩ ((AK (j:=0) rfl).trans (List.Perm.cons _ ((AK (j:=0) rfl).trans (List.Perm.cons _ ((AK (j:=0) rfl).trans (List.Perm.cons _ (List.Perm.refl _)))))))) ?_
 refine a2 ?_
 refine GS 4 5 7 8 9 45 rfl ?_
 refine Tr.cn rfl ?_ ?_<;>intro h6 q6
 exact absurd h6 (by decide)
 refine a2 ?_
 refine co rfl (Bq (C6 (e:=e2) N2) rfl rfl) ?_
 refine an ?_ ?_<;>intro h7 q7
 have Hj:¬BK e2=true:=by intro h_;rw [if_pos h_] at h7;exact absurd h7 (by decide)
 have hX:CI e2 b err=(Bf,BM,18):=(if_neg (fun h_=>h_ he)).trans (if_neg Hj)
 refine ap ?_
 refine Tr.ret (Fin.AJ (Fin.Cf rfl (AL.cell 3 rfl rfl Bh BI rfl (Lr)) (AL.cell 2 rfl rfl CC CK rfl (Lr)) (AL.tmp rfl (Lr)) ?_))
 refine A_ ⟨?_,?_,?_,trivial⟩
 · rw [hX];exact AY ⟨Lr,Lr,Lr,AD 1,Lr,AD 4,AD 1,AD 1,Lr,trivial⟩
 · rw [hX];exact AY ⟨Lr,Lr,Lr,Lr,Lr,Lr,Lr,AD 15,trivial⟩
 · exact int_eq (by rw [hX])
 have Hj:BK e2=true:=Decidable.byContradiction fun h_=>by rw [if_neg h_] at h7;exact absurd h7 (by decide)
 have hX:CI e2 b err=(e2,b,0):=(if_neg (fun h_=>h_ he)).trans (if_pos Hj)
 refine ac ?_
 refine Tr.seq (Tr.rx ?_)
 refine ay ?_
 refine xo rfl (fun _=>Bq (KG (c:=b) hbk) rfl rfl) ?_
 refine ay ?_
 refine Cx.nil ⟨by kernel_rfl,?_⟩
 refine A9.done IY (Fin.go (Cr 4 5 6 rfl (Tr.ret (Fin.Cf rfl (AL.cell 3 rfl rfl Bh BI rfl (Lr)) (AL.cell 2 rfl rfl CC CK rfl (Lr)) (AL.tmp rfl (Lr)) ?_))))
 refine A_ ⟨?_,?_,?_,trivial⟩
 · rw [hX];exact Lr
 · rw [hX];exact Lr
 · exact int_eq (by rw [hX])
theorem Rb {e e2:BJ} {c b:B8} {fk:Nat} {err:Int} (hf:e.fits) (B6:e.small) (hce:BK e=true) (hk:1≤c.kind∧c.kind≤12) (KH:GI c=true) (hkp:Ec[c.kind.toNat]? =some (fn (.func fk) [])) (hbk:b.Cl.small) (N2:e2.fits) (hm:(err≠0∧∀(wb ob:Nat) (v:Value),A3 prog fk [ptr wb 0] [BV wb ob c (B0 c),Bi ob e (ints e.AF) (DC e.ids) (is v) (ints e.hashes),Ap 3 1 (e.anchors.map fun n=>[int n]) v] (int err) [])∨(err=0∧∀(wb ob:Nat) (v:Value),A3 prog fk [ptr wb 0] [BV wb ob c (B0 c),Bi ob e (ints e.AF) (DC e.ids) (is v) (ints e.hashes),Ap 3 1 (e.anchors.map fun n=>[int n]) v] (int 0) [BV wb ob c b,AA true ob 32 (Aj e2)])):A4 prog 74 [agg (Aj e),agg (B3 c)] (Eu [agg (Aj (CI e2 b err).1),agg (B3 (CI e2 b err).2.1),int (CI e2 b err).2.2]):=by
 refine fo func74 rfl ⟨rfl,rfl⟩ fun M0 w0=>(Tr.seq (Tr.Ax (tp rfl (Ba rfl (Va rfl)) (tp rfl (Ba rfl (Va rfl)) ?_))))
 refine Tl rfl rfl rfl rfl z32 Dl (fun b1=> ?_)
 refine Tl rfl rfl rfl rfl z29 JV (fun b2=> ?_)
 refine ap ?_
 refine ac ?_
 refine co rfl (Bq (C6 hf) rfl rfl) ?_
 refine an ?_ ?_<;>intro h1 q1
 exfalso;rw [if_pos hce] at h1;exact absurd h1 (by decide)
 refine ac ?_
 refine ag ?_ ?_<;>intro h2 q2
 exfalso;have:=q2;omega
 refine ag ?_ ?_<;>intro h3 q3
 exfalso;have:=q3;omega
 refine cy h3 rfl (AO rfl CC CK (vl rfl) rfl rfl) ?_
 refine cy h3 rfl (Bq (Kz (c:=c)) rfl rfl) ?_
 refine ac ?_
 refine EM 2 3 4 5 27 rfl ?_
 refine Tr.cn rfl ?_ ?_<;>intro h4 q4
 rw [KH] at h4;exact absurd h4 (by decide)
 refine ac ?_
 refine ap ?_
 refine TO.OW rfl rfl (by decide) rfl (Xc B6) ⟨ke rfl,trivial⟩ (fun v1=> ?_)
 refine Tl rfl rfl rfl rfl z32 Dl (fun b3=> ?_)
 refine ap ?_
 refine ap ?_
 refine TO.IA rfl rfl (by decide) rfl (Va rfl) (fun b4=> ?_)
 refine ap ?_
 refine EM 3 4 5 7 8 rfl (Tr.seq (Tr.seq (Tr.YQ 0 (ptr b3 0::NV c (B0 c)) rfl ⟨Lr,Lr,Lr,Lr,Lr,Lr,Lr,Lr,Lr,Lr,Lr,Lr,Lr,Lr,Lr,Lr,AD 15,trivial⟩ ?_)))
 rcases hm with ⟨he,hm⟩|⟨he,hm⟩
 refine Tr.Da mixed 5 (by kernel_rfl) (AP.op rfl rfl (by decide) (R9 (Fj) rfl) (AP.op rfl rfl (by decide) (La rfl GD rfl rfl) (AP.op rfl rfl (by decide) (Fv rfl Ce rfl) (AP.op rfl rfl (by decide) (D1 rfl underlying161 Gx JJ (vl rfl) (vl rfl) (by omega) (by omega) hkp) (AP.op rfl rfl (by decide) (BL rfl (vl rfl)) ?_)))))
 refine AP.turn _ rfl (by decide) (Db _ rfl rfl (vl rfl) (hm _ _ _) ⟨ke rfl,trivial⟩ ((AK (j:=0) rfl).trans (List.Perm.cons _ ((AK (j:=0) rfl).trans (List.Perm.cons _ ((AK (j:=0) rfl).trans (List.Perm.cons _ (List.Perm.refl _)))))))) ?_
 refine a2 ?_
 refine GS 4 5 7 8 9 45 rfl ?_
 refine Tr.cn rfl ?_ ?_<;>intro h5 q5
 have hX:CI e2 b err=(Bf,BM,err):=if_pos he
 refine ap ?_
 refine Tr.ret (Fin.AJ (Fin.Cf rfl (AL.cell 1 rfl rfl Bh BI rfl (Lr)) (AL.cell 0 rfl rfl CC CK rfl (Lr)) (AL.tmp rfl (Lr)) ?_))
 refine A_ ⟨?_,?_,?_,trivial⟩
 · rw [hX];exact AY ⟨Lr,Lr,Lr,AD 1,Lr,AD 4,AD 1,AD 1,Lr,trivial⟩
 · rw [hX];exact AY ⟨Lr,Lr,Lr,Lr,Lr,Lr,Lr,AD 15,trivial⟩
 · exact int_eq (by rw [hX])
 exfalso;have:=q5;omega
 refine Tr.Da mixed 5 (by kernel_rfl) (AP.op rfl rfl (by decide) (R9 (Fj) rfl) (AP.op rfl rfl (by decide) (La rfl GD rfl rfl) (AP.op rfl rfl (by decide) (Fv rfl Ce rfl) (AP.op rfl rfl (by decide) (D1 rfl underlying161 Gx JJ (vl rfl) (vl rfl) (by omega) (by omega) hkp) (AP.op rfl rfl (by decide) (BL rfl (vl rfl)) ?_)))))
 refine AP.turn _ rfl (by decide) (Db _ rfl rfl (vl rfl) (hm _ _ _) ⟨ke rfl,trivial⟩ ((AK (j:=0) rfl).trans (List.Perm.cons _ ((AK (j:=0) rfl).trans (List.Perm.cons _ ((AK (j:=0) rfl).trans (List.Perm.cons _ (List.Perm.refl _)))))))) ?_
 refine a2 ?_
 refine GS 4 5 7 8 9 45 rfl ?_
 refine Tr.cn rfl ?_ ?_<;>intro h6 q6
 exact absurd h6 (by decide)
 refine a2 ?_
 refine co rfl (Bq (C6 (e:=e2) N2) rfl rfl) ?_
 refine an ?_ ?_<;>intro h7 q7
 have Hj:¬BK e2=true:=by intro h_;rw [if_pos h_] at h7;exact absurd h7 (by decide)
 have hX:CI e2 b err=(Bf,BM,18):=(if_neg (fun h_=>h_ he)).trans (if_neg Hj)
 refine ap ?_
 refine Tr.ret (Fin.AJ (Fin.Cf rfl (AL.cell 3 rfl rfl Bh BI rfl (Lr)) (AL.cell 2 rfl rfl CC CK rfl (Lr)) (AL.tmp rfl (Lr)) ?_))
 refine A_ ⟨?_,?_,?_,trivial⟩
 · rw [hX];exact AY ⟨Lr,Lr,Lr,AD 1,Lr,AD 4,AD 1,AD 1,Lr,trivial⟩
 · rw [hX];exact AY ⟨Lr,Lr,Lr,Lr,Lr,Lr,Lr,AD 15,trivial⟩
 · exact int_eq (by rw [hX])
 have Hj:BK e2=true:=Decidable.byContradiction fun h_=>by rw [if_neg h_] at h7;exact absurd h7 (by decide)
 have hX:CI e2 b err=(e2,b,0):=(if_neg (fun h_=>h_ he)).trans (if_pos Hj)
 refine ac ?_
 refine Tr.seq (Tr.rx ?_)
 refine ay ?_
 refine xo rfl (fun _=>Bq (KG (c:=b) hbk) rfl rfl) ?_
 refine ay ?_
 refine Cx.nil ⟨by kernel_rfl,?_⟩
 refine A9.done IY (Fin.go (Cr 4 5 6 rfl (Tr.ret (Fin.Cf rfl (AL.cell 3 rfl rfl Bh BI rfl (Lr)) (AL.cell 2 rfl rfl CC CK rfl (Lr)) (AL.tmp rfl (Lr)) ?_))))
 refine A_ ⟨?_,?_,?_,trivial⟩
 · rw [hX];exact Lr
 · rw [hX];exact Lr
 · exact int_eq (by rw [hX])
theorem Rc {e e2:BJ} {c b:B8} {fk:Nat} {err:Int} (hf:e.fits) (B6:e.small) (hce:BK e=true) (hk:1≤c.kind∧c.kind≤12) (KH:GI c=true) (hkp:Ec[c.kind.toNat]? =some (fn (.func fk) [])) (hbk:b.Cl.small) (N2:e2.fits) (hm:(err≠0∧∀(wb ob:Nat) (v:Value),A3 prog fk [ptr wb 0] [BV wb ob c (B0 c),Bi ob e (ints e.AF) (DC e.ids) (ints e.anchors) (is v),Ap 3 1 (e.hashes.map fun n=>[int n]) v] (int err) [])∨(err=0∧∀(wb ob:Nat) (v:Value),A3 prog fk [ptr wb 0] [BV wb ob c (B0 c),Bi ob e (ints e.AF) (DC e.ids) (ints e.anchors) (is v),Ap 3 1 (e.hashes.map fun n=>[int n]) v] (int 0) [BV wb ob c b,AA true ob 32 (Aj e2)])):A4 prog 74 [agg (Aj e),agg (B3 c)] (Eu [agg (Aj (CI e2 b err).1),agg (B3 (CI e2 b err).2.1),int (CI e2 b err).2.2]):=by
 refine fo func74 rfl ⟨rfl,rfl⟩ fun M0 w0=>(Tr.seq (Tr.Ax (tp rfl (Ba rfl (Va rfl)) (tp rfl (Ba rfl (Va rfl)) ?_))))
 refine Tl rfl rfl rfl rfl z32 Dl (fun b1=> ?_)
 refine Tl rfl rfl rfl rfl z29 JV (fun b2=> ?_)
 refine ap ?_
 refine ac ?_
 refine co rfl (Bq (C6 hf) rfl rfl) ?_
 refine an ?_ ?_<;>intro h1 q1
 exfalso;rw [if_pos hce] at h1;exact absurd h1 (by decide)
 refine ac ?_
 refine ag ?_ ?_<;>intro h2 q2
 exfalso;have:=q2;omega
 refine ag ?_ ?_<;>intro h3 q3
 exfalso;have:=q3;omega
 refine cy h3 rfl (AO rfl CC CK (vl rfl) rfl rfl) ?_
 refine cy h3 rfl (Bq (Kz (c:=c)) rfl rfl) ?_
 refine ac ?_
 refine EM 2 3 4 5 27 rfl ?_
 refine Tr.cn rfl ?_ ?_<;>intro h4 q4
 rw [KH] at h4;exact absurd h4 (by decide)
 refine ac ?_
 refine ap ?_
 refine TO.OW rfl rfl (by decide) rfl (Xd B6) ⟨ke rfl,trivial⟩ (fun v1=> ?_)
 refine Tl rfl rfl rfl rfl z32 Dl (fun b3=> ?_)
 refine ap ?_
 refine ap ?_
 refine TO.IA rfl rfl (by decide) rfl (Va rfl) (fun b4=> ?_)
 refine ap ?_
 refine EM 3 4 5 7 8 rfl (Tr.seq (Tr.seq (Tr.YQ 0 (ptr b3 0::NV c (B0 c)) rfl ⟨Lr,Lr,Lr,Lr,Lr,Lr,Lr,Lr,Lr,Lr,Lr,Lr,Lr,Lr,Lr,Lr,AD 15,trivial⟩ ?_)))
 rcases hm with ⟨he,hm⟩|⟨he,hm⟩
 refine Tr.Da mixed 5 (by kernel_rfl) (AP.op rfl rfl (by decide) (R9 (Fj) rfl) (AP.op rfl rfl (by decide) (La rfl GD rfl rfl) (AP.op rfl rfl (by decide) (Fv rfl Ce rfl) (AP.op rfl rfl (by decide) (D1 rfl underlying161 Gx JJ (vl rfl) (vl rfl) (by omega) (by omega) hkp) (AP.op rfl rfl (by decide) (BL rfl (vl rfl)) ?_)))))
 refine AP.turn _ rfl (by decide) (Db _ rfl rfl (vl rfl) (hm _ _ _) ⟨ke rfl,trivial⟩ ((AK (j:=0) rfl).trans (List.Perm.cons _ ((AK (j:=0) rfl).trans (List.Perm.cons _ ((AK (j:=0) rfl).trans (List.Perm.cons _ (List.Perm.refl _)))))))) ?_
 refine a2 ?_
 refine GS 4 5 7 8 9 45 rfl ?_
 refine Tr.cn rfl ?_ ?_<;>intro h5 q5
 have hX:CI e2 b err=(Bf,BM,err):=if_pos he
 refine ap ?_
 refine Tr.ret (Fin.AJ (Fin.Cf rfl (AL.cell 1 rfl rfl Bh BI rfl (Lr)) (AL.cell 0 rfl rfl CC CK rfl (Lr)) (AL.tmp rfl (Lr)) ?_))
 refine A_ ⟨?_,?_,?_,trivial⟩
 · rw [hX];exact AY ⟨Lr,Lr,Lr,AD 1,Lr,AD 4,AD 1,AD 1,Lr,trivial⟩
 · rw [hX];exact AY ⟨Lr,Lr,Lr,Lr,Lr,Lr,Lr,AD 15,trivial⟩
 · exact int_eq (by rw [hX])
 exfalso;have:=q5;omega
 refine Tr.Da mixed 5 (by kernel_rfl) (AP.op rfl rfl (by decide) (R9 (Fj) rfl) (AP.op rfl rfl (by decide) (La rfl GD rfl rfl) (AP.op rfl rfl (by decide) (Fv rfl Ce rfl) (AP.op rfl rfl (by decide) (D1 rfl underlying161 Gx JJ (vl rfl) (vl rfl) (by omega) (by omega) hkp) (AP.op rfl rfl (by decide) (BL rfl (vl rfl)) ?_)))))
 refine AP.turn _ rfl (by decide) (Db _ rfl rfl (vl rfl) (hm _ _ _) ⟨ke rfl,trivial⟩ ((AK (j:=0) rfl).trans (List.Perm.cons _ ((AK (j:=0) rfl).trans (List.Perm.cons _ ((AK (j:=0) rfl).trans (List.Perm.cons _ (List.Perm.refl _)))))))) ?_
 refine a2 ?_
 refine GS 4 5 7 8 9 45 rfl ?_
 refine Tr.cn rfl ?_ ?_<;>intro h6 q6
 exact absurd h6 (by decide)
 refine a2 ?_
 refine co rfl (Bq (C6 (e:=e2) N2) rfl rfl) ?_
 refine an ?_ ?_<;>intro h7 q7
 have Hj:¬BK e2=true:=by intro h_;rw [if_pos h_] at h7;exact absurd h7 (by decide)
 have hX:CI e2 b err=(Bf,BM,18):=(if_neg (fun h_=>h_ he)).trans (if_neg Hj)
 refine ap ?_
 refine Tr.ret (Fin.AJ (Fin.Cf rfl (AL.cell 3 rfl rfl Bh BI rfl (Lr)) (AL.cell 2 rfl rfl CC CK rfl (Lr)) (AL.tmp rfl (Lr)) ?_))
 refine A_ ⟨?_,?_,?_,trivial⟩
 · rw [hX];exact AY ⟨Lr,Lr,Lr,AD 1,Lr,AD 4,AD 1,AD 1,Lr,trivial⟩
 · rw [hX];exact AY ⟨Lr,Lr,Lr,Lr,Lr,Lr,Lr,AD 15,trivial⟩
 · exact int_eq (by rw [hX])
 have Hj:BK e2=true:=Decidable.byContradiction fun h_=>by rw [if_neg h_] at h7;exact absurd h7 (by decide)
 have hX:CI e2 b err=(e2,b,0):=(if_neg (fun h_=>h_ he)).trans (if_pos Hj)
 refine ac ?_
 refine Tr.seq (Tr.rx ?_)
 refine ay ?_
 refine xo rfl (fun _=>Bq (KG (c:=b) hbk) rfl rfl) ?_
 refine ay ?_
 refine Cx.nil ⟨by kernel_rfl,?_⟩
 refine A9.done IY (Fin.go (Cr 4 5 6 rfl (Tr.ret (Fin.Cf rfl (AL.cell 3 rfl rfl Bh BI rfl (Lr)) (AL.cell 2 rfl rfl CC CK rfl (Lr)) (AL.tmp rfl (Lr)) ?_))))
 refine A_ ⟨?_,?_,?_,trivial⟩
 · rw [hX];exact Lr
 · rw [hX];exact Lr
 · exact int_eq (by rw [hX])
theorem Rd {e e2:BJ} {c b:B8} {fk:Nat} {err:Int} (hf:e.fits) (B6:e.small) (hce:BK e=true) (hk:1≤c.kind∧c.kind≤12) (KH:GI c=true) (hkp:Ec[c.kind.toNat]? =some (fn (.func fk) [])) (hbk:b.Cl.small) (N2:e2.fits) (hm:(err≠0∧∀(wb ob:Nat),A3 prog fk [ptr wb 0] [BV wb ob c (B0 c),Bi ob e (ints e.AF) (DC e.ids) (ints e.anchors) (ints e.hashes)] (int err) [])∨(err=0∧∀(wb ob:Nat),A3 prog fk [ptr wb 0] [BV wb ob c (B0 c),Bi ob e (ints e.AF) (DC e.ids) (ints e.anchors) (ints e.hashes)] (int 0) [BV wb ob c b,AA true ob 32 (Aj e2)])):A4 prog 74 [agg (Aj e),agg (B3 c)] (Eu [agg (Aj (CI e2 b err).1),agg (B3 (CI e2 b err).2.1),int (CI e2 b err).2.2]):=by
 refine fo func74 rfl ⟨rfl,rfl⟩ fun M0 w0=>(Tr.seq (Tr.Ax (tp rfl (Ba rfl (Va rfl)) (tp rfl (Ba rfl (Va rfl)) ?_))))
 refine Tl rfl rfl rfl rfl z32 Dl (fun b1=> ?_)
 refine Tl rfl rfl rfl rfl z29 JV (fun b2=> ?_)
 refine ap ?_
 refine ac ?_
 refine co rfl (Bq (C6 hf) rfl rfl) ?_
 refine an ?_ ?_<;>intro h1 q1
 exfalso;rw [if_pos hce] at h1;exact absurd h1 (by decide)
 refine ac ?_
 refine ag ?_ ?_<;>intro h2 q2
 exfalso;have:=q2;omega
 refine ag ?_ ?_<;>intro h3 q3
 exfalso;have:=q3;omega
 refine cy h3 rfl (AO rfl CC CK (vl rfl) rfl rfl) ?_
 refine cy h3 rfl (Bq (Kz (c:=c)) rfl rfl) ?_
 refine ac ?_
 refine EM 2 3 4 5 27 rfl ?_
 refine Tr.cn rfl ?_ ?_<;>intro h4 q4
 rw [KH] at h4;exact absurd h4 (by decide)
 refine ac ?_
 refine ap ?_
 refine tp rfl (Bq (Ip B6) rfl rfl) ?_
 refine Tl rfl rfl rfl rfl z32 Dl (fun b3=> ?_)
 refine ap ?_
 refine ap ?_
 refine TO.IA rfl rfl (by decide) rfl (Va rfl) (fun b4=> ?_)
 refine ap ?_
 refine EM 3 4 5 7 8 rfl (Tr.seq (Tr.seq (Tr.YQ 0 (ptr b3 0::NV c (B0 c)) rfl ⟨Lr,Lr,Lr,Lr,Lr,Lr,Lr,Lr,Lr,Lr,Lr,Lr,Lr,Lr,Lr,Lr,AD 15,trivial⟩ ?_)))
 rcases hm with ⟨he,hm⟩|⟨he,hm⟩
 refine Tr.Da mixed 5 (by kernel_rfl) (AP.op rfl rfl (by decide) (R9 (Fj) rfl) (AP.op rfl rfl (by decide) (La rfl GD rfl rfl) (AP.op rfl rfl (by decide) (Fv rfl Ce rfl) (AP.op rfl rfl (by decide) (D1 rfl underlying161 Gx JJ (vl rfl) (vl rfl) (by omega) (by omega) hkp) (AP.op rfl rfl (by decide) (BL rfl (vl rfl)) ?_)))))
 refine AP.turn _ rfl (by decide) (Db _ rfl rfl (vl rfl) (hm _ _) ⟨ke rfl,trivial⟩ ((AK (j:=0) rfl).trans (List.Perm.cons _ ((AK (j:=0) rfl).trans (List.Perm.cons _ (List.Perm.refl _)))))) ?_
 refine a2 ?_
 refine GS 4 5 7 8 9 45 rfl ?_
 refine Tr.cn rfl ?_ ?_<;>intro h5 q5
 have hX:CI e2 b err=(Bf,BM,err):=if_pos he
 refine ap ?_
 refine Tr.ret (Fin.AJ (Fin.Cf rfl (AL.cell 1 rfl rfl Bh BI rfl (Lr)) (AL.cell 0 rfl rfl CC CK rfl (Lr)) (AL.tmp rfl (Lr)) ?_))
 refine A_ ⟨?_,?_,?_,trivial⟩
 · rw [hX];exact AY ⟨Lr,Lr,Lr,AD 1,Lr,AD 4,AD 1,AD 1,Lr,trivial⟩
 · rw [hX];exact AY ⟨Lr,Lr,Lr,Lr,Lr,Lr,Lr,AD 15,trivial⟩
 · exact int_eq (by rw [hX])
 exfalso;have:=q5;omega
 refine Tr.Da mixed 5 (by kernel_rfl) (AP.op rfl rfl (by decide) (R9 (Fj) rfl) (AP.op rfl rfl (by decide) (La rfl GD rfl rfl) (AP.op rfl rfl (by decide) (Fv rfl Ce rfl) (AP.op rfl rfl (by decide) (D1 rfl underlying161 Gx JJ (vl rfl) (vl rfl) (by omega) (by omega) hkp) (AP.op rfl rfl (by decide) (BL rfl (vl rfl)) ?_)))))
 refine AP.turn _ rfl (by decide) (Db _ rfl rfl (vl rfl) (hm _ _) ⟨ke rfl,trivial⟩ ((AK (j:=0) rfl).trans (List.Perm.cons _ ((AK (j:=0) rfl).trans (List.Perm.cons _ (List.Perm.refl _)))))) ?_
 refine a2 ?_
 refine GS 4 5 7 8 9 45 rfl ?_
 refine Tr.cn rfl ?_ ?_<;>intro h6 q6
 exact absurd h6 (by decide)
 refine a2 ?_
 refine co rfl (Bq (C6 (e:=e2) N2) rfl rfl) ?_
 refine an ?_ ?_<;>intro h7 q7
 have Hj:¬BK e2=true:=by intro h_;rw [if_pos h_] at h7;exact absurd h7 (by decide)
 have hX:CI e2 b err=(Bf,BM,18):=(if_neg (fun h_=>h_ he)).trans (if_neg Hj)
 refine ap ?_
 refine Tr.ret (Fin.AJ (Fin.Cf rfl (AL.cell 3 rfl rfl Bh BI rfl (Lr)) (AL.cell 2 rfl rfl CC CK rfl (Lr)) (AL.tmp rfl (Lr)) ?_))
 refine A_ ⟨?_,?_,?_,trivial⟩
 · rw [hX];exact AY ⟨Lr,Lr,Lr,AD 1,Lr,AD 4,AD 1,AD 1,Lr,trivial⟩
 · rw [hX];exact AY ⟨Lr,Lr,Lr,Lr,Lr,Lr,Lr,AD 15,trivial⟩
 · exact int_eq (by rw [hX])
 have Hj:BK e2=true:=Decidable.byContradiction fun h_=>by rw [if_neg h_] at h7;exact absurd h7 (by decide)
 have hX:CI e2 b err=(e2,b,0):=(if_neg (fun h_=>h_ he)).trans (if_pos Hj)
 refine ac ?_
 refine Tr.seq (Tr.rx ?_)
 refine ay ?_
 refine xo rfl (fun _=>Bq (KG (c:=b) hbk) rfl rfl) ?_
 refine ay ?_
 refine Cx.nil ⟨by kernel_rfl,?_⟩
 refine A9.done IY (Fin.go (Cr 4 5 6 rfl (Tr.ret (Fin.Cf rfl (AL.cell 3 rfl rfl Bh BI rfl (Lr)) (AL.cell 2 rfl rfl CC CK rfl (Lr)) (AL.tmp rfl (Lr)) ?_))))
 refine A_ ⟨?_,?_,?_,trivial⟩
 · rw [hX];exact Lr
 · rw [hX];exact Lr
 · exact int_eq (by rw [hX])
theorem aW {e:BJ} {c:B8} (hf:e.fits) (hce:BK e=false):A4 prog 74 [agg (Aj e),agg (B3 c)] (Eu [agg (Aj Bf),agg (B3 BM),int 19]):=by
 refine fo func74 rfl ⟨rfl,rfl⟩ fun M0 w0=>(Tr.seq (Tr.Ax (tp rfl (Ba rfl (Va rfl)) (tp rfl (Ba rfl (Va rfl)) ?_))))
 refine Tl rfl rfl rfl rfl z32 Dl (fun b1=> ?_)
 refine Tl rfl rfl rfl rfl z29 JV (fun b2=> ?_)
 refine ap ?_
 refine ac ?_
 refine co rfl (Bq (C6 hf) rfl rfl) ?_
 refine an ?_ ?_<;>intro h1 q1
 refine ap ?_
 refine Tr.ret (Fin.AJ (Fin.Cf rfl (AL.cell 1 rfl rfl Bh BI rfl (Lr)) (AL.cell 0 rfl rfl CC CK rfl (Lr)) (AL.tmp rfl (Lr)) ?_))
 refine A_ ⟨?_,?_,?_,trivial⟩
 · exact AY ⟨Lr,Lr,Lr,AD 1,Lr,AD 4,AD 1,AD 1,Lr,trivial⟩
 · exact AY ⟨Lr,Lr,Lr,Lr,Lr,Lr,Lr,AD 15,trivial⟩
 · exact Lr
 exfalso;rw [if_neg (by rw [hce];decide)] at h1;exact absurd h1 (by decide)
theorem aX {e:BJ} {c:B8} (hf:e.fits) (hce:BK e=true) (hk:¬((1≤c.kind∧c.kind≤12)∧GI c=true)):A4 prog 74 [agg (Aj e),agg (B3 c)] (Eu [agg (Aj Bf),agg (B3 BM),int 40]):=by
 refine fo func74 rfl ⟨rfl,rfl⟩ fun M0 w0=>(Tr.seq (Tr.Ax (tp rfl (Ba rfl (Va rfl)) (tp rfl (Ba rfl (Va rfl)) ?_))))
 refine Tl rfl rfl rfl rfl z32 Dl (fun b1=> ?_)
 refine Tl rfl rfl rfl rfl z29 JV (fun b2=> ?_)
 refine ap ?_
 refine ac ?_
 refine co rfl (Bq (C6 hf) rfl rfl) ?_
 refine an ?_ ?_<;>intro h1 q1
 exfalso;rw [if_pos hce] at h1;exact absurd h1 (by decide)
 refine ac ?_
 refine ag ?_ ?_<;>intro h2 q2
 have uA:=q2
 refine ac ?_
 refine EM 2 3 4 5 27 rfl (Tr.cond rfl (fun _=> ?_) (fun h=>nomatch h))
 refine Tr.seq (Tr.Ax (tp rfl (As (rows:=[]) rfl Yo Dl trivial rfl) (tp rfl (As (rows:=[]) rfl d_ JV trivial rfl) (TO.AR 1 rfl rfl rfl (vl rfl) (Va rfl) rfl BI rfl rfl (TO.AR 0 rfl rfl rfl (vl rfl) (Va rfl) rfl CK rfl rfl (tm rfl (TO.nil (Fin.go (Tr.ret (Fin.AJ (Fin.Cf rfl (AL.cell 1 rfl rfl Bh BI rfl (Lr)) (AL.cell 0 rfl rfl CC CK rfl (Lr)) (AL.tmp rfl (Lr)) ?_)))))))))))
 refine A_ ⟨?_,?_,?_,trivial⟩
 · exact AY ⟨Lr,Lr,Lr,AD 1,Lr,AD 4,AD 1,AD 1,Lr,trivial⟩
 · exact AY ⟨Lr,Lr,Lr,Lr,Lr,Lr,Lr,AD 15,trivial⟩
 · exact Lr
 refine ag ?_ ?_<;>intro h3 q3
 have r_:=q3
 refine ac ?_
 refine EM 2 3 4 5 27 rfl (Tr.cond rfl (fun _=> ?_) (fun h=>nomatch h))
 refine Tr.seq (Tr.Ax (tp rfl (As (rows:=[]) rfl Yo Dl trivial rfl) (tp rfl (As (rows:=[]) rfl d_ JV trivial rfl) (TO.AR 1 rfl rfl rfl (vl rfl) (Va rfl) rfl BI rfl rfl (TO.AR 0 rfl rfl rfl (vl rfl) (Va rfl) rfl CK rfl rfl (tm rfl (TO.nil (Fin.go (Tr.ret (Fin.AJ (Fin.Cf rfl (AL.cell 1 rfl rfl Bh BI rfl (Lr)) (AL.cell 0 rfl rfl CC CK rfl (Lr)) (AL.tmp rfl (Lr)) ?_)))))))))))
 refine A_ ⟨?_,?_,?_,trivial⟩
 · exact AY ⟨Lr,Lr,Lr,AD 1,Lr,AD 4,AD 1,AD 1,Lr,trivial⟩
 · exact AY ⟨Lr,Lr,Lr,Lr,Lr,Lr,Lr,AD 15,trivial⟩
 · exact Lr
 have r_:=q3
 refine cy h3 rfl (AO rfl CC CK (vl rfl) rfl rfl) ?_
 refine cy h3 rfl (Bq (Kz (c:=c)) rfl rfl) ?_
 refine ac ?_
 refine EM 2 3 4 5 27 rfl ?_
 refine Tr.cn rfl ?_ ?_<;>intro h4 q4
 refine ap ?_
 refine Tr.ret (Fin.AJ (Fin.Cf rfl (AL.cell 1 rfl rfl Bh BI rfl (Lr)) (AL.cell 0 rfl rfl CC CK rfl (Lr)) (AL.tmp rfl (Lr)) ?_))
 refine A_ ⟨?_,?_,?_,trivial⟩
 · exact AY ⟨Lr,Lr,Lr,AD 1,Lr,AD 4,AD 1,AD 1,Lr,trivial⟩
 · exact AY ⟨Lr,Lr,Lr,Lr,Lr,Lr,Lr,AD 15,trivial⟩
 · exact Lr
 exfalso;apply hk;simp_all
abbrev ID (e:BJ) (c:B8):Int:=idx (fun y=>c.number==y) e.AF
def BB (e:BJ) (c:B8):Except Int (BJ×B8):=
 if c.kind = 1 then
  if ¬(0≤c.at_∧c.at_≤(e.AF.length:Nat)) then .error 2
  else if (e.AF.any fun y=>c.number==y)=true then .error 41
  else .ok ({ e with AF:=e.AF.take c.at_.toNat++[c.number]++e.AF.drop c.at_.toNat },⟨c.Ah,2,c.number,0,A8⟩)
 else if c.kind = 2 then
  if ID e c<0 then .error 41 else .ok ({ e with AF:=e.AF.eraseIdx (ID e c).toNat },⟨c.Ah,1,c.number,ID e c,A8⟩)
 else if c.kind = 3 then
  if e.most=c.number then .error 41 else .ok ({ e with most:=c.number },⟨c.Ah,c.kind,e.most,0,A8⟩)
 else if c.kind = 4 then
  if e.least=c.number then .error 41 else .ok ({ e with least:=c.number },⟨c.Ah,c.kind,e.least,0,A8⟩)
 else if c.kind = 5 then
  if ¬(0≤c.at_∧c.at_≤(e.ids.length:Nat)) then .error 2
  else if 0≤A7 c.Cl.BG e.ids then .error 41
  else .ok ({ e with ids:=e.ids.take c.at_.toNat++[c.Cl]++e.ids.drop c.at_.toNat },⟨c.Ah,6,c.Cl.BG,0,A8⟩)
 else if c.kind = 6 then
  match e.ids[(A7 c.number e.ids).toNat]? with
  |none=> .error 41
  |some x=>
   if A7 c.number e.ids<0 then .error 41
   else if ((e.ids.drop (A7 c.number e.ids+1).toNat).any fun x=>x.BG==c.number)=true then .error 5
   else .ok ({ e with ids:=e.ids.eraseIdx (A7 c.number e.ids).toNat },⟨c.Ah,5,0,A7 c.number e.ids,x⟩)
 else if c.kind = 7 then
  if Cz e.anchors c.number=true then .error 41 else .ok ({ e with anchors:=K0 e.anchors c.number },⟨c.Ah,8,c.number,0,A8⟩)
 else if c.kind = 8 then
  if Cz e.anchors c.number=true then .ok ({ e with anchors:=e.anchors.eraseIdx (DG e.anchors c.number) },⟨c.Ah,7,c.number,0,A8⟩) else .error 41
 else if c.kind = 9 then
  if Cz e.hashes c.number=true then .error 41 else .ok ({ e with hashes:=K0 e.hashes c.number },⟨c.Ah,10,c.number,0,A8⟩)
 else if c.kind = 10 then
  if Cz e.hashes c.number=true then .ok ({ e with hashes:=e.hashes.eraseIdx (DG e.hashes c.number) },⟨c.Ah,9,c.number,0,A8⟩) else .error 41
 else if c.kind = 11 then
  if ¬(0≤c.number∧c.number≤1) then .error 2
  else if ED e.De=c.number then .error 41 else .ok ({ e with De:=(c.number==1) },⟨c.Ah,c.kind,ED e.De,0,A8⟩)
 else
  if ¬(0≤c.number∧c.number≤1) then .error 2
  else if ED e.own=c.number then .error 41 else .ok ({ e with own:=(c.number==1) },⟨c.Ah,c.kind,ED e.own,0,A8⟩)
def ES (c:B8):Prop:=(1≤c.kind∧c.kind≤12)∧GI c=true
instance (c:B8):Decidable (ES c):=inferInstanceAs (Decidable (_∧_))
def CY (e:BJ) (c:B8):BJ×B8×Int:=
 if BK e=false then (Bf,BM,19)
 else if ¬ES c then (Bf,BM,40)
 else match BB e c with
  | .error f=>(Bf,BM,f)
  | .ok (e2,b)=>if BK e2=true then (e2,b,0) else (Bf,BM,18)
theorem MA {e:BJ} {c:B8} (h:c.kind=1):BB e c=
  (
  if ¬(0≤c.at_∧c.at_≤(e.AF.length:Nat)) then .error 2
  else if (e.AF.any fun y=>c.number==y)=true then .error 41
  else .ok ({ e with AF:=e.AF.take c.at_.toNat++[c.number]++e.AF.drop c.at_.toNat },⟨c.Ah,2,c.number,0,A8⟩)):=by
 unfold BB;rw [if_pos h]
theorem MB {e:BJ} {c:B8} (h:c.kind=2):BB e c=
  (
  if ID e c<0 then .error 41 else .ok ({ e with AF:=e.AF.eraseIdx (ID e c).toNat },⟨c.Ah,1,c.number,ID e c,A8⟩)):=by
 unfold BB;rw [if_neg (by rw [h];decide)];rw [if_pos h]
theorem MC {e:BJ} {c:B8} (h:c.kind=3):BB e c=
  (
  if e.most=c.number then .error 41 else .ok ({ e with most:=c.number },⟨c.Ah,c.kind,e.most,0,A8⟩)):=by
 unfold BB;rw [if_neg (by rw [h];decide)];rw [if_neg (by rw [h];decide)];rw [if_pos h]
theorem MD {e:BJ} {c:B8} (h:c.kind=4):BB e c=
  (
  if e.least=c.number then .error 41 else .ok ({ e with least:=c.number },⟨c.Ah,c.kind,e.least,0,A8⟩)):=by
 unfold BB;rw [if_neg (by rw [h];decide)];rw [if_neg (by rw [h];decide)];rw [if_neg (by rw [h];decide)];rw [if_pos h]
theorem ME {e:BJ} {c:B8} (h:c.kind=5):BB e c=
  (
  if ¬(0≤c.at_∧c.at_≤(e.ids.length:Nat)) then .error 2
  else if 0≤A7 c.Cl.BG e.ids then .error 41
  else .ok ({ e with ids:=e.ids.take c.at_.toNat++[c.Cl]++e.ids.drop c.at_.toNat },⟨c.Ah,6,c.Cl.BG,0,A8⟩)):=by
 unfold BB;rw [if_neg (by rw [h];decide)];rw [if_neg (by rw [h];decide)];rw [if_neg (by rw [h];decide)];rw [if_neg (by rw [h];decide)];rw [if_pos h]
theorem MF {e:BJ} {c:B8} (h:c.kind=6):BB e c=
  (
  match e.ids[(A7 c.number e.ids).toNat]? with
  |none=> .error 41
  |some x=>
   if A7 c.number e.ids<0 then .error 41
   else if ((e.ids.drop (A7 c.number e.ids+1).toNat).any fun x=>x.BG==c.number)=true then .error 5
   else .ok ({ e with ids:=e.ids.eraseIdx (A7 c.number e.ids).toNat },⟨c.Ah,5,0,A7 c.number e.ids,x⟩)):=by
 unfold BB;rw [if_neg (by rw [h];decide)];rw [if_neg (by rw [h];decide)];rw [if_neg (by rw [h];decide)];rw [if_neg (by rw [h];decide)];rw [if_neg (by rw [h];decide)];rw [if_pos h]
theorem MG {e:BJ} {c:B8} (h:c.kind=7):BB e c=
  (
  if Cz e.anchors c.number=true then .error 41 else .ok ({ e with anchors:=K0 e.anchors c.number },⟨c.Ah,8,c.number,0,A8⟩)):=by
 unfold BB;rw [if_neg (by rw [h];decide)];rw [if_neg (by rw [h];decide)];rw [if_neg (by rw [h];decide)];rw [if_neg (by rw [h];decide)];rw [if_neg (by rw [h];decide)];rw [if_neg (by rw [h];decide)];rw [if_pos h]
theorem MH {e:BJ} {c:B8} (h:c.kind=8):BB e c=
  (
  if Cz e.anchors c.number=true then .ok ({ e with anchors:=e.anchors.eraseIdx (DG e.anchors c.number) },⟨c.Ah,7,c.number,0,A8⟩) else .error 41):=by
 unfold BB;rw [if_neg (by rw [h];decide)];rw [if_neg (by rw [h];decide)];rw [if_neg (by rw [h];decide)];rw [if_neg (by rw [h];decide)];rw [if_neg (by rw [h];decide)];rw [if_neg (by rw [h];decide)];rw [if_neg (by rw [h];decide)];rw [if_pos h]
theorem MI {e:BJ} {c:B8} (h:c.kind=9):BB e c=
  (
  if Cz e.hashes c.number=true then .error 41 else .ok ({ e with hashes:=K0 e.hashes c.number },⟨c.Ah,10,c.number,0,A8⟩)):=by
 unfold BB;rw [if_neg (by rw [h];decide)];rw [if_neg (by rw [h];decide)];rw [if_neg (by rw [h];decide)];rw [if_neg (by rw [h];decide)];rw [if_neg (by rw [h];decide)];rw [if_neg (by rw [h];decide)];rw [if_neg (by rw [h];decide)];rw [if_neg (by rw [h];decide)];rw [if_pos h]
theorem KI {e:BJ} {c:B8} (h:c.kind=10):BB e c=
  (
  if Cz e.hashes c.number=true then .ok ({ e with hashes:=e.hashes.eraseIdx (DG e.hashes c.number) },⟨c.Ah,9,c.number,0,A8⟩) else .error 41):=by
 unfold BB;rw [if_neg (by rw [h];decide)];rw [if_neg (by rw [h];decide)];rw [if_neg (by rw [h];decide)];rw [if_neg (by rw [h];decide)];rw [if_neg (by rw [h];decide)];rw [if_neg (by rw [h];decide)];rw [if_neg (by rw [h];decide)];rw [if_neg (by rw [h];decide)];rw [if_neg (by rw [h];decide)];rw [if_pos h]
theorem KJ {e:BJ} {c:B8} (h:c.kind=11):BB e c=
  (
  if ¬(0≤c.number∧c.number≤1) then .error 2
  else if ED e.De=c.number then .error 41 else .ok ({ e with De:=(c.number==1) },⟨c.Ah,c.kind,ED e.De,0,A8⟩)):=by
 unfold BB;rw [if_neg (by rw [h];decide)];rw [if_neg (by rw [h];decide)];rw [if_neg (by rw [h];decide)];rw [if_neg (by rw [h];decide)];rw [if_neg (by rw [h];decide)];rw [if_neg (by rw [h];decide)];rw [if_neg (by rw [h];decide)];rw [if_neg (by rw [h];decide)];rw [if_neg (by rw [h];decide)];rw [if_neg (by rw [h];decide)];rw [if_pos h]
theorem KK {e:BJ} {c:B8} (h:c.kind=12):BB e c=
  (
  if ¬(0≤c.number∧c.number≤1) then .error 2
  else if ED e.own=c.number then .error 41 else .ok ({ e with own:=(c.number==1) },⟨c.Ah,c.kind,ED e.own,0,A8⟩)):=by
 unfold BB;rw [if_neg (by rw [h];decide)];rw [if_neg (by rw [h];decide)];rw [if_neg (by rw [h];decide)];rw [if_neg (by rw [h];decide)];rw [if_neg (by rw [h];decide)];rw [if_neg (by rw [h];decide)];rw [if_neg (by rw [h];decide)];rw [if_neg (by rw [h];decide)];rw [if_neg (by rw [h];decide)];rw [if_neg (by rw [h];decide)];rw [if_neg (by rw [h];decide)]
theorem FX {e:BJ} {c:B8} {f:Int} (h:BK e=true) (hc:ES c) (hs:BB e c= .error f):CY e c=(Bf,BM,f):=by
 unfold CY;rw [if_neg (by rw [h];decide),if_neg (fun h=>h hc),hs]
theorem GJ {e:BJ} {c:B8} {e2:BJ} {b:B8} (h:BK e=true) (hc:ES c) (hs:BB e c= .ok (e2,b)) (h2:BK e2=true):CY e c=(e2,b,0):=by
 unfold CY;rw [if_neg (by rw [h];decide),if_neg (fun h=>h hc),hs];exact if_pos h2
theorem Hl {e:BJ} {c:B8} {e2:BJ} {b:B8} (h:BK e=true) (hc:ES c) (hs:BB e c= .ok (e2,b)) (h2:BK e2=false):CY e c=(Bf,BM,18):=by
 unfold CY;rw [if_neg (by rw [h];decide),if_neg (fun h=>h hc),hs];exact if_neg (by rw [h2];decide)
abbrev NW (r:BJ×B8×Int):Pr:=Eu [agg (Aj r.1),agg (B3 r.2.1),int r.2.2]
structure T6 (e:BJ):Prop where
 name:Hz e.name=true
 least:1≤e.least
 lm:e.least≤e.most
 most:e.most≤4
 AF:Fi e.AF=true
 KF:e.ids.length≤4
 N8:e.anchors.length≤16
 gN:Po e.anchors=true
 hash:Po e.hashes=true
 ids:e.ids.all Tz=true
 keys:e.anchors.all Er=true
 hsh:e.hashes.all H6=true
theorem Bv {e:BJ}:BK e=true↔T6 e:=by
 unfold BK;simp only [Bool.and_eq_true,decide_eq_true_eq]
 exact ⟨fun ⟨⟨⟨⟨⟨⟨⟨⟨a,b⟩,c⟩,d⟩,f⟩,⟨⟨⟨g,h⟩,i⟩,j⟩⟩,k⟩,l⟩,m⟩=>⟨a,b,c,d,f,g,h,i,j,k,l,m⟩,fun ⟨a,b,c,d,f,g,h,i,j,k,l,m⟩=>⟨⟨⟨⟨⟨⟨⟨⟨a,b⟩,c⟩,d⟩,f⟩,⟨⟨⟨g,h⟩,i⟩,j⟩⟩,k⟩,l⟩,m⟩⟩
theorem MJ {e:BJ} {c:B8} {fk:Nat} (hf:e.fits) (B6:e.small) (hce:BK e=true) (hc:ES c) (hkp:Ec[c.kind.toNat]? =some (fn (.func fk) [])) {f:Int} (hs:BB e c= .error f) (he:f≠0) (hm:∀(wb ob:Nat) (v:Value),A3 Tryz.prog fk [ptr wb 0] [BV wb ob c (B0 c),Bi ob e (ints e.AF) (is v) (ints e.anchors) (ints e.hashes),Ap 27 4 (e.ids.map BC) v] (int f) []):A4 Tryz.prog 74 [agg (Aj e),agg (B3 c)] (NW (CY e c)):=by
 have:=RZ (e2:=Bf) (b:=BM) hf B6 hce hc.1 hc.2 hkp ⟨by show 0≤_;omega,fun x hx=>by cases hx⟩ ⟨by show 0≤_;omega,fun x hx=>by cases hx⟩ (.inl ⟨he,hm⟩)
 rw [FX hce hc hs];rwa [show CI Bf BM f=(Bf,BM,f) from if_pos he] at this
theorem Xe {e:BJ} {c:B8} {fk:Nat} (hf:e.fits) (B6:e.small) (hce:BK e=true) (hc:ES c) (hkp:Ec[c.kind.toNat]? =some (fn (.func fk) [])) {e2:BJ} {b:B8} (hs:BB e c= .ok (e2,b)) (hbk:b.Cl.small) (N2:e2.fits) (hm:∀(wb ob:Nat) (v:Value),A3 Tryz.prog fk [ptr wb 0] [BV wb ob c (B0 c),Bi ob e (ints e.AF) (is v) (ints e.anchors) (ints e.hashes),Ap 27 4 (e.ids.map BC) v] (int 0) [BV wb ob c b,AA true ob 32 (Aj e2)]):A4 Tryz.prog 74 [agg (Aj e),agg (B3 c)] (NW (CY e c)):=by
 have:=RZ (err:=0) hf B6 hce hc.1 hc.2 hkp hbk N2 (.inr ⟨rfl,hm⟩)
 cases h2:BK e2 with
 |true=>rw [GJ hce hc hs h2];rwa [show CI e2 b 0=(e2,b,0) from (if_neg (fun h_=>h_ rfl)).trans (if_pos h2)] at this
 |false=>rw [Hl hce hc hs h2];rwa [show CI e2 b 0=(Bf,BM,18) from (if_neg (fun h_=>h_ rfl)).trans (if_neg (by rw [h2];decide))] at this
theorem P_ {e:BJ} {c:B8} {fk:Nat} (hf:e.fits) (B6:e.small) (hce:BK e=true) (hc:ES c) (hkp:Ec[c.kind.toNat]? =some (fn (.func fk) [])) {f:Int} (hs:BB e c= .error f) (he:f≠0) (hm:∀(wb ob:Nat) (v:Value),A3 Tryz.prog fk [ptr wb 0] [BV wb ob c (B0 c),Bi ob e (is v) (DC e.ids) (ints e.anchors) (ints e.hashes),Ap 3 1 (e.AF.map fun n=>[int n]) v] (int f) []):A4 Tryz.prog 74 [agg (Aj e),agg (B3 c)] (NW (CY e c)):=by
 have:=Ra (e2:=Bf) (b:=BM) hf B6 hce hc.1 hc.2 hkp ⟨by show 0≤_;omega,fun x hx=>by cases hx⟩ ⟨by show 0≤_;omega,fun x hx=>by cases hx⟩ (.inl ⟨he,hm⟩)
 rw [FX hce hc hs];rwa [show CI Bf BM f=(Bf,BM,f) from if_pos he] at this
theorem Xf {e:BJ} {c:B8} {fk:Nat} (hf:e.fits) (B6:e.small) (hce:BK e=true) (hc:ES c) (hkp:Ec[c.kind.toNat]? =some (fn (.func fk) [])) {e2:BJ} {b:B8} (hs:BB e c= .ok (e2,b)) (hbk:b.Cl.small) (N2:e2.fits) (hm:∀(wb ob:Nat) (v:Value),A3 Tryz.prog fk [ptr wb 0] [BV wb ob c (B0 c),Bi ob e (is v) (DC e.ids) (ints e.anchors) (ints e.hashes),Ap 3 1 (e.AF.map fun n=>[int n]) v] (int 0) [BV wb ob c b,AA true ob 32 (Aj e2)]):A4 Tryz.prog 74 [agg (Aj e),agg (B3 c)] (NW (CY e c)):=by
 have:=Ra (err:=0) hf B6 hce hc.1 hc.2 hkp hbk N2 (.inr ⟨rfl,hm⟩)
 cases h2:BK e2 with
 |true=>rw [GJ hce hc hs h2];rwa [show CI e2 b 0=(e2,b,0) from (if_neg (fun h_=>h_ rfl)).trans (if_pos h2)] at this
 |false=>rw [Hl hce hc hs h2];rwa [show CI e2 b 0=(Bf,BM,18) from (if_neg (fun h_=>h_ rfl)).trans (if_neg (by rw [h2];decide))] at this
theorem T7 {e:BJ} {c:B8} {fk:Nat} (hf:e.fits) (B6:e.small) (hce:BK e=true) (hc:ES c) (hkp:Ec[c.kind.toNat]? =some (fn (.func fk) [])) {f:Int} (hs:BB e c= .error f) (he:f≠0) (hm:∀(wb ob:Nat) (v:Value),A3 Tryz.prog fk [ptr wb 0] [BV wb ob c (B0 c),Bi ob e (ints e.AF) (DC e.ids) (is v) (ints e.hashes),Ap 3 1 (e.anchors.map fun n=>[int n]) v] (int f) []):A4 Tryz.prog 74 [agg (Aj e),agg (B3 c)] (NW (CY e c)):=by
 have:=Rb (e2:=Bf) (b:=BM) hf B6 hce hc.1 hc.2 hkp ⟨by show 0≤_;omega,fun x hx=>by cases hx⟩ ⟨by show 0≤_;omega,fun x hx=>by cases hx⟩ (.inl ⟨he,hm⟩)
 rw [FX hce hc hs];rwa [show CI Bf BM f=(Bf,BM,f) from if_pos he] at this
theorem Xg {e:BJ} {c:B8} {fk:Nat} (hf:e.fits) (B6:e.small) (hce:BK e=true) (hc:ES c) (hkp:Ec[c.kind.toNat]? =some (fn (.func fk) [])) {e2:BJ} {b:B8} (hs:BB e c= .ok (e2,b)) (hbk:b.Cl.small) (N2:e2.fits) (hm:∀(wb ob:Nat) (v:Value),A3 Tryz.prog fk [ptr wb 0] [BV wb ob c (B0 c),Bi ob e (ints e.AF) (DC e.ids) (is v) (ints e.hashes),Ap 3 1 (e.anchors.map fun n=>[int n]) v] (int 0) [BV wb ob c b,AA true ob 32 (Aj e2)]):A4 Tryz.prog 74 [agg (Aj e),agg (B3 c)] (NW (CY e c)):=by
 have:=Rb (err:=0) hf B6 hce hc.1 hc.2 hkp hbk N2 (.inr ⟨rfl,hm⟩)
 cases h2:BK e2 with
 |true=>rw [GJ hce hc hs h2];rwa [show CI e2 b 0=(e2,b,0) from (if_neg (fun h_=>h_ rfl)).trans (if_pos h2)] at this
 |false=>rw [Hl hce hc hs h2];rwa [show CI e2 b 0=(Bf,BM,18) from (if_neg (fun h_=>h_ rfl)).trans (if_neg (by rw [h2];decide))] at this
theorem T8 {e:BJ} {c:B8} {fk:Nat} (hf:e.fits) (B6:e.small) (hce:BK e=true) (hc:ES c) (hkp:Ec[c.kind.toNat]? =some (fn (.func fk) [])) {f:Int} (hs:BB e c= .error f) (he:f≠0) (hm:∀(wb ob:Nat) (v:Value),A3 Tryz.prog fk [ptr wb 0] [BV wb ob c (B0 c),Bi ob e (ints e.AF) (DC e.ids) (ints e.anchors) (is v),Ap 3 1 (e.hashes.map fun n=>[int n]) v] (int f) []):A4 Tryz.prog 74 [agg (Aj e),agg (B3 c)] (NW (CY e c)):=by
 have:=Rc (e2:=Bf) (b:=BM) hf B6 hce hc.1 hc.2 hkp ⟨by show 0≤_;omega,fun x hx=>by cases hx⟩ ⟨by show 0≤_;omega,fun x hx=>by cases hx⟩ (.inl ⟨he,hm⟩)
 rw [FX hce hc hs];rwa [show CI Bf BM f=(Bf,BM,f) from if_pos he] at this
theorem Xh {e:BJ} {c:B8} {fk:Nat} (hf:e.fits) (B6:e.small) (hce:BK e=true) (hc:ES c) (hkp:Ec[c.kind.toNat]? =some (fn (.func fk) [])) {e2:BJ} {b:B8} (hs:BB e c= .ok (e2,b)) (hbk:b.Cl.small) (N2:e2.fits) (hm:∀(wb ob:Nat) (v:Value),A3 Tryz.prog fk [ptr wb 0] [BV wb ob c (B0 c),Bi ob e (ints e.AF) (DC e.ids) (ints e.anchors) (is v),Ap 3 1 (e.hashes.map fun n=>[int n]) v] (int 0) [BV wb ob c b,AA true ob 32 (Aj e2)]):A4 Tryz.prog 74 [agg (Aj e),agg (B3 c)] (NW (CY e c)):=by
 have:=Rc (err:=0) hf B6 hce hc.1 hc.2 hkp hbk N2 (.inr ⟨rfl,hm⟩)
 cases h2:BK e2 with
 |true=>rw [GJ hce hc hs h2];rwa [show CI e2 b 0=(e2,b,0) from (if_neg (fun h_=>h_ rfl)).trans (if_pos h2)] at this
 |false=>rw [Hl hce hc hs h2];rwa [show CI e2 b 0=(Bf,BM,18) from (if_neg (fun h_=>h_ rfl)).trans (if_neg (by rw [h2];decide))] at this
theorem I6 {e:BJ} {c:B8} {fk:Nat} (hf:e.fits) (B6:e.small) (hce:BK e=true) (hc:ES c) (hkp:Ec[c.kind.toNat]? =some (fn (.func fk) [])) {f:Int} (hs:BB e c= .error f) (he:f≠0) (hm:∀(wb ob:Nat),A3 Tryz.prog fk [ptr wb 0] [BV wb ob c (B0 c),Bi ob e (ints e.AF) (DC e.ids) (ints e.anchors) (ints e.hashes)] (int f) []):A4 Tryz.prog 74 [agg (Aj e),agg (B3 c)] (NW (CY e c)):=by
 have:=Rd (e2:=Bf) (b:=BM) hf B6 hce hc.1 hc.2 hkp ⟨by show 0≤_;omega,fun x hx=>by cases hx⟩ ⟨by show 0≤_;omega,fun x hx=>by cases hx⟩ (.inl ⟨he,hm⟩)
 rw [FX hce hc hs];rwa [show CI Bf BM f=(Bf,BM,f) from if_pos he] at this
theorem QA {e:BJ} {c:B8} {fk:Nat} (hf:e.fits) (B6:e.small) (hce:BK e=true) (hc:ES c) (hkp:Ec[c.kind.toNat]? =some (fn (.func fk) [])) {e2:BJ} {b:B8} (hs:BB e c= .ok (e2,b)) (hbk:b.Cl.small) (N2:e2.fits) (hm:∀(wb ob:Nat),A3 Tryz.prog fk [ptr wb 0] [BV wb ob c (B0 c),Bi ob e (ints e.AF) (DC e.ids) (ints e.anchors) (ints e.hashes)] (int 0) [BV wb ob c b,AA true ob 32 (Aj e2)]):A4 Tryz.prog 74 [agg (Aj e),agg (B3 c)] (NW (CY e c)):=by
 have:=Rd (err:=0) hf B6 hce hc.1 hc.2 hkp hbk N2 (.inr ⟨rfl,hm⟩)
 cases h2:BK e2 with
 |true=>rw [GJ hce hc hs h2];rwa [show CI e2 b 0=(e2,b,0) from (if_neg (fun h_=>h_ rfl)).trans (if_pos h2)] at this
 |false=>rw [Hl hce hc hs h2];rwa [show CI e2 b 0=(Bf,BM,18) from (if_neg (fun h_=>h_ rfl)).trans (if_neg (by rw [h2];decide))] at this
theorem BX:A8.small:=⟨by show 0≤_;omega,fun c hc=>by cases hc⟩
theorem aY {l:List DO} {x:DO} {i:Nat} (h:∀y∈l,y.fits) (hx:x.fits):∀y∈l.take i++[x]++l.drop i,y.fits:=by
 intro y hy
 simp only [List.mem_append,List.mem_cons,List.not_mem_nil,or_false] at hy
 rcases hy with (hy|rfl)|hy
 · exact h y (List.mem_of_mem_take hy)
 · exact hx
 · exact h y (List.mem_of_mem_drop hy)
theorem aZ {l:List DO} {i:Nat} (h:∀y∈l,y.fits):∀y∈l.eraseIdx i,y.fits:=fun y hy=>h y (List.mem_of_mem_eraseIdx hy)
theorem gO {e:BJ} {c:B8} (hf:e.fits) (B6:e.small) (nC:c.Cl.fits) (hcs:c.Cl.small):A4 Tryz.prog 74 [agg (Aj e),agg (B3 c)] (NW (CY e c)):=by
 cases hce:BK e with
 |false=>rw [show CY e c=(Bf,BM,19) from if_pos hce];exact aW hf hce
 |true=>
 by_cases hc:ES c
 case neg=>rw [show CY e c=(Bf,BM,40) from (if_neg (by rw [hce];decide)).trans (if_pos hc)];exact aX hf hce hc
 have ok:=Bv.1 hce
 have hk:=hc.1
 have h0:c.kind=1∨c.kind=2∨c.kind=3∨c.kind=4∨c.kind=5∨c.kind=6∨c.kind=7∨c.kind=8∨c.kind=9∨c.kind=10∨c.kind=11∨c.kind=12:=by omega
 rcases h0 with h1|h2|h3|h4|h5|h6|h7|h8|h9|h10|h11|h12
 ·
  -- kind 1
  by_cases hr:0≤c.at_∧c.at_≤(e.AF.length:Nat)
  by_cases h:(e.AF.any fun y=>c.number==y)=true
  · exact P_ hf B6 hce hc (fk:=167) (by rw [h1];rfl) (by unfold BB;rw [if_pos h1];rw [if_neg (fun h=>h hr)];exact if_pos h) (by decide) (fun wb ob v=>RR (e:=e) (c:=c) (b:=B0 c) hr B6.AF h)
  · exact Xf hf B6 hce hc (fk:=167) (e2:={ e with AF:=e.AF.take c.at_.toNat++[c.number]++e.AF.drop c.at_.toNat }) (b:=⟨c.Ah,2,c.number,0,A8⟩) (by rw [h1];rfl) (by unfold BB;rw [if_pos h1];rw [if_neg (fun h=>h hr)];exact if_neg h) BX ⟨hf.name,hf.ids⟩ (fun wb ob v=>A3.perm (RS (e:=e) (c:=c) (b:=B0 c) hr B6.AF (Bool.eq_false_iff.2 h)) (List.Perm.swap _ _ _))
  · exact P_ hf B6 hce hc (fk:=167) (by rw [h1];rfl) (by unfold BB;rw [if_pos h1];exact if_pos hr) (by decide) (fun wb ob v=>RQ (e:=e) (c:=c) (b:=B0 c) hr)
 ·
  -- kind 2
  by_cases h:ID e c<0
  · exact P_ hf B6 hce hc (fk:=168) (by rw [h2];rfl) (by unfold BB;rw [if_neg (by rw [h2];decide)];rw [if_pos h2];exact if_pos h) (by decide) (fun wb ob v=>Pu (e:=e) (c:=c) (b:=B0 c) h)
  · exact Xf hf B6 hce hc (fk:=168) (e2:={ e with AF:=e.AF.eraseIdx (ID e c).toNat }) (b:=⟨c.Ah,1,c.number,ID e c,A8⟩) (by rw [h2];rfl) (by unfold BB;rw [if_neg (by rw [h2];decide)];rw [if_pos h2];exact if_neg h) BX ⟨hf.name,hf.ids⟩ (fun wb ob v=>Pv (e:=e) (c:=c) (b:=B0 c) (by unfold ID at h;omega) B6.AF)
 ·
  -- kind 3
  by_cases h:e.most=c.number
  · exact I6 hf B6 hce hc (fk:=169) (by rw [h3];rfl) (by unfold BB;rw [if_neg (by rw [h3];decide)];rw [if_neg (by rw [h3];decide)];rw [if_pos h3];exact if_pos h) (by decide) (fun wb ob=>RV (e:=e) (c:=c) (b:=B0 c) h)
  · exact QA hf B6 hce hc (fk:=169) (e2:={ e with most:=c.number }) (b:=⟨c.Ah,c.kind,e.most,0,A8⟩) (by rw [h3];rfl) (by unfold BB;rw [if_neg (by rw [h3];decide)];rw [if_neg (by rw [h3];decide)];rw [if_pos h3];exact if_neg h) BX ⟨hf.name,hf.ids⟩ (fun wb ob=>RW (e:=e) (c:=c) (b:=B0 c) h)
 ·
  -- kind 4
  by_cases h:e.least=c.number
  · exact I6 hf B6 hce hc (fk:=170) (by rw [h4];rfl) (by unfold BB;rw [if_neg (by rw [h4];decide)];rw [if_neg (by rw [h4];decide)];rw [if_neg (by rw [h4];decide)];rw [if_pos h4];exact if_pos h) (by decide) (fun wb ob=>P0 (e:=e) (c:=c) (b:=B0 c) h)
  · exact QA hf B6 hce hc (fk:=170) (e2:={ e with least:=c.number }) (b:=⟨c.Ah,c.kind,e.least,0,A8⟩) (by rw [h4];rfl) (by unfold BB;rw [if_neg (by rw [h4];decide)];rw [if_neg (by rw [h4];decide)];rw [if_neg (by rw [h4];decide)];rw [if_pos h4];exact if_neg h) BX ⟨hf.name,hf.ids⟩ (fun wb ob=>P3 (e:=e) (c:=c) (b:=B0 c) h)
 ·
  -- kind 5
  by_cases hr:0≤c.at_∧c.at_≤(e.ids.length:Nat)
  by_cases h:0≤A7 c.Cl.BG e.ids
  · exact MJ hf B6 hce hc (fk:=171) (by rw [h5];rfl) (by unfold BB;rw [if_neg (by rw [h5];decide)];rw [if_neg (by rw [h5];decide)];rw [if_neg (by rw [h5];decide)];rw [if_neg (by rw [h5];decide)];rw [if_pos h5];rw [if_neg (fun h=>h hr)];exact if_pos h) (by decide) (fun wb ob v=>VA (e:=e) (c:=c) (b:=B0 c) hcs hr B6.KF h)
  · exact Xe hf B6 hce hc (fk:=171) (e2:={ e with ids:=e.ids.take c.at_.toNat++[c.Cl]++e.ids.drop c.at_.toNat }) (b:=⟨c.Ah,6,c.Cl.BG,0,A8⟩) (by rw [h5];rfl) (by unfold BB;rw [if_neg (by rw [h5];decide)];rw [if_neg (by rw [h5];decide)];rw [if_neg (by rw [h5];decide)];rw [if_neg (by rw [h5];decide)];rw [if_pos h5];rw [if_neg (fun h=>h hr)];exact if_neg h) BX ⟨hf.name,aY hf.ids nC⟩ (fun wb ob v=>A3.perm (VB (e:=e) (c:=c) (b:=B0 c) hcs hr B6.KF (by omega)) (List.Perm.swap _ _ _))
  · exact MJ hf B6 hce hc (fk:=171) (by rw [h5];rfl) (by unfold BB;rw [if_neg (by rw [h5];decide)];rw [if_neg (by rw [h5];decide)];rw [if_neg (by rw [h5];decide)];rw [if_neg (by rw [h5];decide)];rw [if_pos h5];exact if_pos hr) (by decide) (fun wb ob v=>U_ (e:=e) (c:=c) (b:=B0 c) hcs hr)
 ·
  -- kind 6
  by_cases h:A7 c.number e.ids<0
  · exact MJ hf B6 hce hc (fk:=172) (by rw [h6];rfl) (by unfold BB;rw [if_neg (by rw [h6];decide)];rw [if_neg (by rw [h6];decide)];rw [if_neg (by rw [h6];decide)];rw [if_neg (by rw [h6];decide)];rw [if_neg (by rw [h6];decide)];rw [if_pos h6];cases e.ids[(A7 c.number e.ids).toNat]? <;>first|rfl|exact if_pos h) (by decide) (fun wb ob v=>Sp (e:=e) (c:=c) (b:=B0 c) (x:=A8) h)
  obtain ⟨x,hx,_,_⟩:=I5 (p:=fun x:DO=>x.BG==c.number) (l:=e.ids) (by unfold A7 at h;omega)
  have hx:e.ids[(A7 c.number e.ids).toNat]? =some x:=hx
  by_cases ht:((e.ids.drop (A7 c.number e.ids+1).toNat).any fun x=>x.BG==c.number)=true
  · exact MJ hf B6 hce hc (fk:=172) (by rw [h6];rfl) (by unfold BB;rw [if_neg (by rw [h6];decide)];rw [if_neg (by rw [h6];decide)];rw [if_neg (by rw [h6];decide)];rw [if_neg (by rw [h6];decide)];rw [if_neg (by rw [h6];decide)];rw [if_pos h6];rw [hx];exact (if_neg h).trans (if_pos ht)) (by decide) (fun wb ob v=>Sq (e:=e) (c:=c) (b:=B0 c) (x:=x) (by omega) hx ht B6.KF)
  · exact Xe hf B6 hce hc (fk:=172) (e2:={ e with ids:=e.ids.eraseIdx (A7 c.number e.ids).toNat }) (b:=⟨c.Ah,5,0,A7 c.number e.ids,x⟩) (by rw [h6];rfl) (by unfold BB;rw [if_neg (by rw [h6];decide)];rw [if_neg (by rw [h6];decide)];rw [if_neg (by rw [h6];decide)];rw [if_neg (by rw [h6];decide)];rw [if_neg (by rw [h6];decide)];rw [if_pos h6];rw [hx];exact (if_neg h).trans (if_neg ht)) (B6.ids x (List.mem_of_getElem? hx)) ⟨hf.name,aZ hf.ids⟩ (fun wb ob v=>Sr (e:=e) (c:=c) (b:=B0 c) (x:=x) (by omega) hx (Bool.eq_false_iff.2 ht) B6.KF)
 ·
  -- kind 7
  by_cases h:Cz e.anchors c.number=true
  · exact T7 hf B6 hce hc (fk:=173) (by rw [h7];rfl) (by unfold BB;rw [if_neg (by rw [h7];decide)];rw [if_neg (by rw [h7];decide)];rw [if_neg (by rw [h7];decide)];rw [if_neg (by rw [h7];decide)];rw [if_neg (by rw [h7];decide)];rw [if_neg (by rw [h7];decide)];rw [if_pos h7];exact if_pos h) (by decide) (fun wb ob v=>Py (e:=e) (c:=c) (b:=B0 c) (ER ok.gN) B6.anchors h)
  · exact Xg hf B6 hce hc (fk:=173) (e2:={ e with anchors:=K0 e.anchors c.number }) (b:=⟨c.Ah,8,c.number,0,A8⟩) (by rw [h7];rfl) (by unfold BB;rw [if_neg (by rw [h7];decide)];rw [if_neg (by rw [h7];decide)];rw [if_neg (by rw [h7];decide)];rw [if_neg (by rw [h7];decide)];rw [if_neg (by rw [h7];decide)];rw [if_neg (by rw [h7];decide)];rw [if_pos h7];exact if_neg h) BX ⟨hf.name,hf.ids⟩ (fun wb ob v=>Pz (e:=e) (c:=c) (b:=B0 c) (ER ok.gN) B6.anchors (Bool.eq_false_iff.2 h))
 ·
  -- kind 8
  by_cases h:Cz e.anchors c.number=true
  · exact Xg hf B6 hce hc (fk:=174) (e2:={ e with anchors:=e.anchors.eraseIdx (DG e.anchors c.number) }) (b:=⟨c.Ah,7,c.number,0,A8⟩) (by rw [h8];rfl) (by unfold BB;rw [if_neg (by rw [h8];decide)];rw [if_neg (by rw [h8];decide)];rw [if_neg (by rw [h8];decide)];rw [if_neg (by rw [h8];decide)];rw [if_neg (by rw [h8];decide)];rw [if_neg (by rw [h8];decide)];rw [if_neg (by rw [h8];decide)];rw [if_pos h8];exact if_pos h) BX ⟨hf.name,hf.ids⟩ (fun wb ob v=>N7 (e:=e) (c:=c) (b:=B0 c) (ER ok.gN) B6.anchors h)
  · exact T7 hf B6 hce hc (fk:=174) (by rw [h8];rfl) (by unfold BB;rw [if_neg (by rw [h8];decide)];rw [if_neg (by rw [h8];decide)];rw [if_neg (by rw [h8];decide)];rw [if_neg (by rw [h8];decide)];rw [if_neg (by rw [h8];decide)];rw [if_neg (by rw [h8];decide)];rw [if_neg (by rw [h8];decide)];rw [if_pos h8];exact if_neg h) (by decide) (fun wb ob v=>N6 (e:=e) (c:=c) (b:=B0 c) (ER ok.gN) B6.anchors (Bool.eq_false_iff.2 h))
 ·
  -- kind 9
  by_cases h:Cz e.hashes c.number=true
  · exact T8 hf B6 hce hc (fk:=175) (by rw [h9];rfl) (by unfold BB;rw [if_neg (by rw [h9];decide)];rw [if_neg (by rw [h9];decide)];rw [if_neg (by rw [h9];decide)];rw [if_neg (by rw [h9];decide)];rw [if_neg (by rw [h9];decide)];rw [if_neg (by rw [h9];decide)];rw [if_neg (by rw [h9];decide)];rw [if_neg (by rw [h9];decide)];rw [if_pos h9];exact if_pos h) (by decide) (fun wb ob v=>Ss (e:=e) (c:=c) (b:=B0 c) (ER ok.hash) B6.hashes h)
  · exact Xh hf B6 hce hc (fk:=175) (e2:={ e with hashes:=K0 e.hashes c.number }) (b:=⟨c.Ah,10,c.number,0,A8⟩) (by rw [h9];rfl) (by unfold BB;rw [if_neg (by rw [h9];decide)];rw [if_neg (by rw [h9];decide)];rw [if_neg (by rw [h9];decide)];rw [if_neg (by rw [h9];decide)];rw [if_neg (by rw [h9];decide)];rw [if_neg (by rw [h9];decide)];rw [if_neg (by rw [h9];decide)];rw [if_neg (by rw [h9];decide)];rw [if_pos h9];exact if_neg h) BX ⟨hf.name,hf.ids⟩ (fun wb ob v=>Su (e:=e) (c:=c) (b:=B0 c) (ER ok.hash) B6.hashes (Bool.eq_false_iff.2 h))
 ·
  -- kind 10
  by_cases h:Cz e.hashes c.number=true
  · exact Xh hf B6 hce hc (fk:=176) (e2:={ e with hashes:=e.hashes.eraseIdx (DG e.hashes c.number) }) (b:=⟨c.Ah,9,c.number,0,A8⟩) (by rw [h10];rfl) (by unfold BB;rw [if_neg (by rw [h10];decide)];rw [if_neg (by rw [h10];decide)];rw [if_neg (by rw [h10];decide)];rw [if_neg (by rw [h10];decide)];rw [if_neg (by rw [h10];decide)];rw [if_neg (by rw [h10];decide)];rw [if_neg (by rw [h10];decide)];rw [if_neg (by rw [h10];decide)];rw [if_neg (by rw [h10];decide)];rw [if_pos h10];exact if_pos h) BX ⟨hf.name,hf.ids⟩ (fun wb ob v=>RU (e:=e) (c:=c) (b:=B0 c) (ER ok.hash) B6.hashes h)
  · exact T8 hf B6 hce hc (fk:=176) (by rw [h10];rfl) (by unfold BB;rw [if_neg (by rw [h10];decide)];rw [if_neg (by rw [h10];decide)];rw [if_neg (by rw [h10];decide)];rw [if_neg (by rw [h10];decide)];rw [if_neg (by rw [h10];decide)];rw [if_neg (by rw [h10];decide)];rw [if_neg (by rw [h10];decide)];rw [if_neg (by rw [h10];decide)];rw [if_neg (by rw [h10];decide)];rw [if_pos h10];exact if_neg h) (by decide) (fun wb ob v=>RT (e:=e) (c:=c) (b:=B0 c) (ER ok.hash) B6.hashes (Bool.eq_false_iff.2 h))
 ·
  -- kind 11
  by_cases hr:0≤c.number∧c.number≤1
  by_cases h:ED e.De=c.number
  · exact I6 hf B6 hce hc (fk:=177) (by rw [h11];rfl) (by unfold BB;rw [if_neg (by rw [h11];decide)];rw [if_neg (by rw [h11];decide)];rw [if_neg (by rw [h11];decide)];rw [if_neg (by rw [h11];decide)];rw [if_neg (by rw [h11];decide)];rw [if_neg (by rw [h11];decide)];rw [if_neg (by rw [h11];decide)];rw [if_neg (by rw [h11];decide)];rw [if_neg (by rw [h11];decide)];rw [if_neg (by rw [h11];decide)];rw [if_pos h11];rw [if_neg (fun h=>h hr)];exact if_pos h) (by decide) (fun wb ob=>Ll (e:=e) (c:=c) (b:=B0 c) hr rfl h)
  · exact QA hf B6 hce hc (fk:=177) (e2:={ e with De:=(c.number==1) }) (b:=⟨c.Ah,c.kind,ED e.De,0,A8⟩) (by rw [h11];rfl) (by unfold BB;rw [if_neg (by rw [h11];decide)];rw [if_neg (by rw [h11];decide)];rw [if_neg (by rw [h11];decide)];rw [if_neg (by rw [h11];decide)];rw [if_neg (by rw [h11];decide)];rw [if_neg (by rw [h11];decide)];rw [if_neg (by rw [h11];decide)];rw [if_neg (by rw [h11];decide)];rw [if_neg (by rw [h11];decide)];rw [if_neg (by rw [h11];decide)];rw [if_pos h11];rw [if_neg (fun h=>h hr)];exact if_neg h) BX ⟨hf.name,hf.ids⟩ (fun wb ob=>Ln (e:=e) (c:=c) (b:=B0 c) hr rfl h)
  · exact I6 hf B6 hce hc (fk:=177) (by rw [h11];rfl) (by unfold BB;rw [if_neg (by rw [h11];decide)];rw [if_neg (by rw [h11];decide)];rw [if_neg (by rw [h11];decide)];rw [if_neg (by rw [h11];decide)];rw [if_neg (by rw [h11];decide)];rw [if_neg (by rw [h11];decide)];rw [if_neg (by rw [h11];decide)];rw [if_neg (by rw [h11];decide)];rw [if_neg (by rw [h11];decide)];rw [if_neg (by rw [h11];decide)];rw [if_pos h11];exact if_pos hr) (by decide) (fun wb ob=>Lj (e:=e) (c:=c) (b:=B0 c) hr)
 ·
  -- kind 12
  by_cases hr:0≤c.number∧c.number≤1
  by_cases h:ED e.own=c.number
  · exact I6 hf B6 hce hc (fk:=178) (by rw [h12];rfl) (by unfold BB;rw [if_neg (by rw [h12];decide)];rw [if_neg (by rw [h12];decide)];rw [if_neg (by rw [h12];decide)];rw [if_neg (by rw [h12];decide)];rw [if_neg (by rw [h12];decide)];rw [if_neg (by rw [h12];decide)];rw [if_neg (by rw [h12];decide)];rw [if_neg (by rw [h12];decide)];rw [if_neg (by rw [h12];decide)];rw [if_neg (by rw [h12];decide)];rw [if_neg (by rw [h12];decide)];rw [if_neg (fun h=>h hr)];exact if_pos h) (by decide) (fun wb ob=>P7 (e:=e) (c:=c) (b:=B0 c) hr rfl h)
  · exact QA hf B6 hce hc (fk:=178) (e2:={ e with own:=(c.number==1) }) (b:=⟨c.Ah,c.kind,ED e.own,0,A8⟩) (by rw [h12];rfl) (by unfold BB;rw [if_neg (by rw [h12];decide)];rw [if_neg (by rw [h12];decide)];rw [if_neg (by rw [h12];decide)];rw [if_neg (by rw [h12];decide)];rw [if_neg (by rw [h12];decide)];rw [if_neg (by rw [h12];decide)];rw [if_neg (by rw [h12];decide)];rw [if_neg (by rw [h12];decide)];rw [if_neg (by rw [h12];decide)];rw [if_neg (by rw [h12];decide)];rw [if_neg (by rw [h12];decide)];rw [if_neg (fun h=>h hr)];exact if_neg h) BX ⟨hf.name,hf.ids⟩ (fun wb ob=>P9 (e:=e) (c:=c) (b:=B0 c) hr rfl h)
  · exact I6 hf B6 hce hc (fk:=178) (by rw [h12];rfl) (by unfold BB;rw [if_neg (by rw [h12];decide)];rw [if_neg (by rw [h12];decide)];rw [if_neg (by rw [h12];decide)];rw [if_neg (by rw [h12];decide)];rw [if_neg (by rw [h12];decide)];rw [if_neg (by rw [h12];decide)];rw [if_neg (by rw [h12];decide)];rw [if_neg (by rw [h12];decide)];rw [if_neg (by rw [h12];decide)];rw [if_neg (by rw [h12];decide)];rw [if_neg (by rw [h12];decide)];exact if_pos hr) (by decide) (fun wb ob=>P5 (e:=e) (c:=c) (b:=B0 c) hr)
theorem VE {e:BJ} {c:B8} (hf:e.fits) (B6:e.small) (nC:c.Cl.fits) (hcs:c.Cl.small):A4 prog 18 [agg (Aj e),agg (B3 c)] (Eu [agg (Aj (CY e c).1),int (CY e c).2.2]):=by
 refine fo func18 rfl ⟨rfl,rfl⟩ fun M0 w0=>(Tr.seq (Tr.Ax (tp rfl (Ba rfl (Va rfl)) (tp rfl (Ba rfl (Va rfl)) ?_))))
 refine Tl rfl rfl rfl rfl z32 Dl (fun b1=> ?_)
 refine ao ?_
 refine ao ?_
 refine tp rfl (Dc (gO hf B6 nC hcs) rfl rfl rfl) ?_
 refine ao ?_
 refine Tl rfl rfl rfl rfl z32 Dl (fun b2=> ?_)
 refine Tl rfl rfl rfl rfl z29 JV (fun b3=> ?_)
 refine sf 1 6 ⟨rfl,rfl,rfl⟩ rfl rfl rfl rfl ?_
 refine sf 0 7 ⟨rfl,rfl,rfl⟩ rfl rfl rfl rfl ?_
 refine ao ?_
 refine Cr 4 6 8 rfl ?_
 refine ao ?_
 refine TO.AR 0 rfl rfl rfl (vl rfl) (Va rfl) rfl BI rfl rfl ?_
 refine ao ?_
 refine Tr.ret (Fin.DK rfl (AL.cell 0 rfl rfl Bh BI rfl (Lr)) (AL.tmp rfl (Lr)) ?_)
 refine A_ ⟨?_,?_,trivial⟩
 · exact Lr
 · exact Lr
theorem Xi {d:Nat} {w:World} {x0 y0:Int} {x1 y1:Int}:(Op.equalIn (d+2) 129 (.agg #[.int .i64 x0,.int .i64 x1]) (.agg #[.int .i64 y0,.int .i64 y1])).run Tryz.prog w= .ok (decide (x0=y0∧x1=y1)) w:=by
 have h:=eqS (w:=w) (d:=d+1) (xs:= #[.int .i64 x0,.int .i64 x1]) (ys:= #[.int .i64 y0,.int .i64 y1]) Tryz.underlying129 (by kernel_rfl) (DU (by decide) (Bp Ce rfl) (Bp Ce rfl) (Fe (d:=d+0) Tryz.underlying3) (DU (by decide) (Bp Ce rfl) (Bp Ce rfl) (Fe (d:=d+0) Tryz.underlying3) (PT)))
 refine h.trans (congrArg (fun b=>Result.ok b w) ?_)
 rw [Bool.eq_iff_iff];simp [and_assoc]
theorem Re {E:Env} {I:Ci} {o:Oper} {u:TypeId} {x y:Operand} {x0 y0:Int} {x1 y1:Int} (ho:o.op= .binOp .eql 129 x y u) (hx:VL E x (agg [is (.int .i64 x0),is (.int .i64 x1)])) (hy:VL E y (agg [is (.int .i64 y0),is (.int .i64 y1)])):Af Tryz.prog I o E (bool (decide (x0=y0∧x1=y1))):=
 Mq [.int .i64 x0,.int .i64 x1] [.int .i64 y0,.int .i64 y1] ho hx hy (by kernel_rfl) (fun w=>by rw [show Op.equal 129 _ _=Op.equalIn (9998+2) 129 _ _ from rfl];exact Xi)
theorem Xj {E:Env} {I:Ci} {o:Oper} {u:TypeId} {x y:Operand} {x0 y0:Int} {x1 y1:Int} (ho:o.op= .binOp .neq 129 x y u) (hx:VL E x (agg [is (.int .i64 x0),is (.int .i64 x1)])) (hy:VL E y (agg [is (.int .i64 y0),is (.int .i64 y1)])):Af Tryz.prog I o E (bool (!decide (x0=y0∧x1=y1))):=
 Mr [.int .i64 x0,.int .i64 x1] [.int .i64 y0,.int .i64 y1] ho hx hy (by kernel_rfl) (fun w=>by rw [show Op.equal 129 _ _=Op.equalIn (9998+2) 129 _ _ from rfl];exact Xi)
deriving instance DecidableEq for GV
deriving instance DecidableEq for DO
deriving instance DecidableEq for BJ
deriving instance DecidableEq for B8
theorem HD {α:Type} {a b:List α} {k:Nat} {x y:α} (ha:a[k]? =some x) (hb:b[k]? =some y) (h:a.take k=b.take k) (e:x=y):a.take (k+1)=b.take (k+1):=by
 rw [List.take_add_one,List.take_add_one,ha,hb,h,e]
theorem Iq {α:Type} {a b:List α} {k:Nat} {x y:α} (ha:a[k]? =some x) (hb:b[k]? =some y) (e:¬x=y):¬a=b:=by
 rintro rfl;rw [ha] at hb;cases hb;exact e rfl
theorem HE {α:Type} {a b:List α} (hl:a.length=b.length) (h:a.take a.length=b.take a.length):a=b:=by
 rw [List.take_length,hl,List.take_length] at h;exact h
theorem Sx {a b:List (Int)}  :A4 prog 82 [ints a,ints b] (bool (decide (a=b))):=by
 refine fo func82 rfl ⟨rfl,rfl⟩ fun M0 w0=>(Tr.EC 0 rfl fun Ex=>(Tr.EC 1 rfl fun JN=> ?_))
 refine ac ?_
 refine an ?_ ?_<;>intro h1 q1
 have hne:¬a.length=b.length:=by simp_all;omega
 refine a2 ?_
 · refine bool_eq ?_;symm;rw [decide_eq_false_iff_not];rintro rfl;exact hne rfl
 have F8:a.length=b.length:=by simp_all;omega
 refine a2 ?_
 refine Tr.block (Tr.BW [(0,_),(1,_)] (LH rfl) (fun k:Nat=>[(5,int ((k:Nat):Int))]) (fun k:Nat=>k≤(a).length∧(a.take k=b.take k)) (fun k:Nat=>(a).length-k) 0 (⟨Nat.zero_le _,rfl⟩) ⟨ke rfl,trivial⟩ ?_)
 rintro k ⟨Bk,Ac⟩
 refine an ?_ ?_<;>intro h2 q2
 have Ao:k<(a).length:=AZ h2
 obtain ⟨x,An⟩:=at_ Ao
 obtain ⟨y,hy⟩:=at_ (l:=b) (k:=k) (by omega)
 · repeat' first|(refine bool_eq ?_;symm;rw [decide_eq_false_iff_not];refine Iq An hy ?_;rintro rfl;simp_all)|exact Fin.AG (k+1) ⟨⟨Ao,HD An hy Ac (by simp_all)⟩,by omega⟩ ⟨⟨_,rfl,AS k⟩,ke rfl,ke rfl,trivial⟩|refine co rfl (AB rfl underlying22 Cg (vl rfl) (vl rfl) (by omega) (Ak An)) ?_|refine co rfl (AB rfl underlying22 Cg (vl rfl) (vl rfl) (by omega) (Ak hy)) ?_|refine ac ?_|(refine Tr.cn rfl ?_ ?_<;>intro h q)
 have BQ:k=(a).length:=by have:=Aa h2;omega
 subst BQ
 refine a3 ?_
 · refine bool_eq ?_;symm;rw [decide_eq_true_eq];exact HE F8 Ac
theorem Rf {a b:List (List UInt8)}  :A4 prog 220 [RM a,RM b] (bool (decide (a=b))):=by
 refine fo func220 rfl ⟨rfl,rfl⟩ fun M0 w0=>(Tr.EC 0 rfl fun Ex=>(Tr.EC 1 rfl fun JN=> ?_))
 refine ac ?_
 refine an ?_ ?_<;>intro h1 q1
 have hne:¬a.length=b.length:=by simp_all;omega
 refine a2 ?_
 · refine bool_eq ?_;symm;rw [decide_eq_false_iff_not];rintro rfl;exact hne rfl
 have F8:a.length=b.length:=by simp_all;omega
 refine a2 ?_
 refine Tr.block (Tr.BW [(0,_),(1,_)] (LH rfl) (fun k:Nat=>[(5,int ((k:Nat):Int))]) (fun k:Nat=>k≤(a).length∧(a.take k=b.take k)) (fun k:Nat=>(a).length-k) 0 (⟨Nat.zero_le _,rfl⟩) ⟨ke rfl,trivial⟩ ?_)
 rintro k ⟨Bk,Ac⟩
 refine an ?_ ?_<;>intro h2 q2
 have Ao:k<(a).length:=AZ h2
 obtain ⟨x,An⟩:=at_ Ao
 obtain ⟨y,hy⟩:=at_ (l:=b) (k:=k) (by omega)
 · repeat' first|(refine bool_eq ?_;symm;rw [decide_eq_false_iff_not];refine Iq An hy ?_;rintro rfl;simp_all)|exact Fin.AG (k+1) ⟨⟨Ao,HD An hy Ac (by simp_all)⟩,by omega⟩ ⟨⟨_,rfl,AS k⟩,ke rfl,ke rfl,trivial⟩|refine co rfl (AB rfl underlying74 JB (vl rfl) (vl rfl) (by omega) (Ak An)) ?_|refine co rfl (AB rfl underlying74 JB (vl rfl) (vl rfl) (by omega) (Ak hy)) ?_|refine ac ?_|(refine Tr.cn rfl ?_ ?_<;>intro h q)
 have BQ:k=(a).length:=by have:=Aa h2;omega
 subst BQ
 refine a3 ?_
 · refine bool_eq ?_;symm;rw [decide_eq_true_eq];exact HE F8 Ac
theorem Xk {a b:GV}  :A4 prog 182 [agg (C1 a),agg (C1 b)] (bool (decide (a=b))):=by
 refine fo func182 rfl ⟨rfl,rfl⟩ fun M0 w0=> ?_
 · repeat' first|(refine bool_eq ?_;cases a;cases b;simp_all)|refine cy h rfl (Dc (Rf) rfl rfl rfl) ?_|refine cy h rfl (Re rfl (vl rfl) (vl rfl)) ?_|refine cy h rfl (Fg rfl (vl rfl) (vl rfl)) ?_|refine ac ?_|(refine Ch.cg rfl rfl rfl ?_ ?_<;>intro h q)
theorem N9 {a b:List (GV)}  :A4 prog 129 [Il a,Il b] (bool (decide (a=b))):=by
 refine fo func129 rfl ⟨rfl,rfl⟩ fun M0 w0=>(Tr.EC 0 rfl fun Ex=>(Tr.EC 1 rfl fun JN=> ?_))
 refine ac ?_
 refine an ?_ ?_<;>intro h1 q1
 have hne:¬a.length=b.length:=by simp_all;omega
 refine a2 ?_
 · refine bool_eq ?_;symm;rw [decide_eq_false_iff_not];rintro rfl;exact hne rfl
 have F8:a.length=b.length:=by simp_all;omega
 refine a2 ?_
 refine Tr.block (Tr.BW [(0,_),(1,_)] (LH rfl) (fun k:Nat=>[(5,int ((k:Nat):Int))]) (fun k:Nat=>k≤(a).length∧(a.take k=b.take k)) (fun k:Nat=>(a).length-k) 0 (⟨Nat.zero_le _,rfl⟩) ⟨ke rfl,trivial⟩ ?_)
 rintro k ⟨Bk,Ac⟩
 refine an ?_ ?_<;>intro h2 q2
 have Ao:k<(a).length:=AZ h2
 obtain ⟨x,An⟩:=at_ Ao
 obtain ⟨y,hy⟩:=at_ (l:=b) (k:=k) (by omega)
 · repeat' first|(refine bool_eq ?_;symm;rw [decide_eq_false_iff_not];refine Iq An hy ?_;rintro rfl;simp_all)|exact Fin.AG (k+1) ⟨⟨Ao,HD An hy Ac (by simp_all)⟩,by omega⟩ ⟨⟨_,rfl,AS k⟩,ke rfl,ke rfl,trivial⟩|refine co rfl (AB rfl underlying25 Cw (vl rfl) (vl rfl) (by omega) (Ak An)) ?_|refine co rfl (AB rfl underlying25 Cw (vl rfl) (vl rfl) (by omega) (Ak hy)) (co rfl (AO rfl Em Cw (vl rfl) rfl rfl) (co rfl (Dc (Xk) rfl rfl rfl) ?_))|refine ac ?_|(refine Tr.cn rfl ?_ ?_<;>intro h q)
 have BQ:k=(a).length:=by have:=Aa h2;omega
 subst BQ
 refine a3 ?_
 · refine bool_eq ?_;symm;rw [decide_eq_true_eq];exact HE F8 Ac
theorem Rh {a b:List (DO)}  :A4 prog 83 [DC a,DC b] (bool (decide (a=b))):=by
 refine fo func83 rfl ⟨rfl,rfl⟩ fun M0 w0=>(Tr.EC 0 rfl fun Ex=>(Tr.EC 1 rfl fun JN=> ?_))
 refine ac ?_
 refine an ?_ ?_<;>intro h1 q1
 have hne:¬a.length=b.length:=by simp_all;omega
 refine a2 ?_
 · refine bool_eq ?_;symm;rw [decide_eq_false_iff_not];rintro rfl;exact hne rfl
 have F8:a.length=b.length:=by simp_all;omega
 refine a2 ?_
 refine Tr.block (Tr.BW [(0,_),(1,_)] (LH rfl) (fun k:Nat=>[(5,int ((k:Nat):Int))]) (fun k:Nat=>k≤(a).length∧(a.take k=b.take k)) (fun k:Nat=>(a).length-k) 0 (⟨Nat.zero_le _,rfl⟩) ⟨ke rfl,trivial⟩ ?_)
 rintro k ⟨Bk,Ac⟩
 refine an ?_ ?_<;>intro h2 q2
 have Ao:k<(a).length:=AZ h2
 obtain ⟨x,An⟩:=at_ Ao
 obtain ⟨y,hy⟩:=at_ (l:=b) (k:=k) (by omega)
 · repeat' first|(refine bool_eq ?_;symm;rw [decide_eq_false_iff_not];refine Iq An hy ?_;rintro rfl;simp_all)|(exact Fin.AG (k+1) ⟨⟨Ao,HD An hy Ac (by cases x;cases y;simp_all)⟩,by omega⟩ ⟨⟨_,rfl,AS k⟩,ke rfl,ke rfl,trivial⟩)|refine co rfl (AB rfl underlying30 Be (vl rfl) (vl rfl) (by omega) (Ak An)) ?_|refine co rfl (AB rfl underlying30 Be (vl rfl) (vl rfl) (by omega) (Ak hy)) ?_|refine co rfl (Lz rfl (vl rfl) (vl rfl)) (cm rfl ?_)|refine cy h rfl (Dc (N9) rfl rfl rfl) ?_|refine cy h rfl (AB rfl underlying30 Be (vl rfl) (vl rfl) (by omega) (Ak An)) ?_|refine cy h rfl (AB rfl underlying30 Be (vl rfl) (vl rfl) (by omega) (Ak hy)) ?_|refine ac ?_|(refine Tr.cn rfl ?_ ?_<;>intro h q)|(refine Ch.cg rfl rfl rfl ?_ ?_<;>intro h q)
 have BQ:k=(a).length:=by have:=Aa h2;omega
 subst BQ
 refine a3 ?_
 · refine bool_eq ?_;symm;rw [decide_eq_true_eq];exact HE F8 Ac
theorem Ri {a b:BJ}  :A4 prog 22 [agg (Aj a),agg (Aj b)] (bool (decide (a=b))):=by
 refine fo func22 rfl ⟨rfl,rfl⟩ fun M0 w0=> ?_
 · repeat' first|(refine bool_eq ?_;cases a;cases b;simp_all [Bool.beq_eq_decide_eq])|refine cy h rfl (Dc (Rh) rfl rfl rfl) ?_|refine cy h rfl (Dc (Sx) rfl rfl rfl) ?_|refine ac ?_|(refine Ch.cg rfl rfl rfl ?_ ?_<;>intro h q)
theorem Sy {a b:GV} (hn:a.names.length≤8796093022208):A4 prog 130 [agg (C1 a),agg (C1 b)] (bool (decide (a=b))):=by
 refine fo func130 rfl ⟨rfl,rfl⟩ fun M0 w0=> ?_
 refine ac ?_
 refine ag ?_ ?_<;>intro h1 q1
 refine ac ?_
 refine Cr 2 3 89 rfl ?_
 refine a2 ?_
 · refine bool_eq ?_;symm;rw [decide_eq_false_iff_not];rintro rfl;simp_all
 refine ag ?_ ?_<;>intro h2 q2
 refine ac ?_
 refine Cr 2 3 89 rfl ?_
 refine a2 ?_
 · refine bool_eq ?_;symm;rw [decide_eq_false_iff_not];rintro rfl;simp_all
 refine ag ?_ ?_<;>intro h3 q3
 refine ac ?_
 refine Cr 2 3 89 rfl ?_
 refine a2 ?_
 · refine bool_eq ?_;symm;rw [decide_eq_false_iff_not];rintro rfl;simp_all
 refine ac ?_
 refine cy h3 rfl (Lz rfl (vl rfl) (vl rfl)) ?_
 refine ag ?_ ?_<;>intro h4 q4
 refine ac ?_
 refine Cr 2 3 89 rfl ?_
 refine a2 ?_
 · refine bool_eq ?_;symm;rw [decide_eq_false_iff_not];rintro rfl;simp_all
 refine ag ?_ ?_<;>intro h5 q5
 refine ac ?_
 refine Cr 2 3 89 rfl ?_
 refine a2 ?_
 · refine bool_eq ?_;symm;rw [decide_eq_false_iff_not];rintro rfl;simp_all
 refine ac ?_
 refine cy h5 rfl (Lz rfl (vl rfl) (vl rfl)) ?_
 refine ag ?_ ?_<;>intro h6 q6
 refine ac ?_
 refine Cr 2 3 89 rfl ?_
 refine a2 ?_
 · refine bool_eq ?_;symm;rw [decide_eq_false_iff_not];rintro rfl;simp_all
 refine ag ?_ ?_<;>intro h7 q7
 refine ac ?_
 refine Cr 2 3 89 rfl ?_
 refine a2 ?_
 · refine bool_eq ?_;symm;rw [decide_eq_false_iff_not];rintro rfl;simp_all
 refine ag ?_ ?_<;>intro h8 q8
 refine ac ?_
 refine Cr 2 3 89 rfl ?_
 refine a2 ?_
 · refine bool_eq ?_;symm;rw [decide_eq_false_iff_not];rintro rfl;simp_all
 refine ac ?_
 refine cy h8 rfl (O6 rfl underlying4 (vl rfl) (vl rfl)) ?_
 refine ag ?_ ?_<;>intro h9 q9
 refine ac ?_
 refine Cr 2 3 89 rfl ?_
 refine a2 ?_
 · refine bool_eq ?_;symm;rw [decide_eq_false_iff_not];rintro rfl;simp_all
 refine ag ?_ ?_<;>intro h10 OZ
 refine ac ?_
 refine Cr 2 3 89 rfl ?_
 refine a2 ?_
 · refine bool_eq ?_;symm;rw [decide_eq_false_iff_not];rintro rfl;simp_all
 refine ac ?_
 refine cy h10 rfl (Xj rfl (vl rfl) (vl rfl)) ?_
 refine ag ?_ ?_<;>intro h11 QX
 refine ac ?_
 refine Cr 2 3 89 rfl ?_
 refine a2 ?_
 · refine bool_eq ?_;symm;rw [decide_eq_false_iff_not];rintro rfl;simp_all
 refine ac ?_
 refine Cr 2 3 89 rfl ?_
 refine Tr.cn rfl ?_ ?_<;>intro h12 QY
 refine a2 ?_
 · refine bool_eq ?_;symm;rw [decide_eq_false_iff_not];rintro rfl;simp_all
 have F8:a.names.length=b.names.length:=by simp_all;omega
 refine a2 ?_
 refine Tr.block (Tr.BW [(2,_),(3,_),(92,_)] (OH rfl) (fun k:Nat=>[(93,int ((k:Nat):Int))]) (fun k:Nat=>k≤(a.names).length∧(a.names.take k=b.names.take k)) (fun k:Nat=>(a.names).length-k) 0 (⟨Nat.zero_le _,rfl⟩) ⟨ke rfl,trivial⟩ ?_)
 rintro k ⟨Bk,Ac⟩
 refine ac ?_
 refine Tr.seq ?_
 refine Tr.cn rfl ?_ ?_<;>intro HW Q_
 have Ao:k<(a.names).length:=AZ HW
 obtain ⟨x,An⟩:=at_ Ao
 obtain ⟨y,hy⟩:=at_ (l:=b.names) (k:=k) (by omega)
 · repeat' first|(refine bool_eq ?_;symm;rw [decide_eq_false_iff_not];rintro rfl;rw [An] at hy;cases hy;simp_all)|exact Fin.AG (k+1) ⟨⟨Ao,HD An hy Ac (by simp_all)⟩,by omega⟩ ⟨⟨_,rfl,AS k⟩,ke rfl,ke rfl,ke rfl,trivial⟩|refine co rfl (AB rfl underlying74 JB (vl rfl) (vl rfl) (by omega) (Ak An)) ?_|refine co rfl (AB rfl underlying74 JB (vl rfl) (vl rfl) (by omega) (Ak hy)) ?_|refine ac ?_|(refine Tr.cn rfl ?_ ?_<;>intro h q)
 have BQ:k=(a.names).length:=by have:=Aa HW;omega
 subst BQ
 refine a3 ?_
 · refine bool_eq ?_;have hnn:=HE F8 Ac;clear Ac F8;cases a;cases b;simp_all
theorem Sz {a b:DO} (hs:a.small):A4 prog 84 [agg (BC a),agg (BC b)] (bool (decide (a=b))):=by
 refine fo func84 rfl ⟨rfl,rfl⟩ fun M0 w0=> ?_
 have hsc:=hs.chain
 refine a2 ?_
 refine co rfl (Lz rfl (vl rfl) (vl rfl)) (cm rfl ?_)
 refine Ch.cs 11 rfl ?_ ?_<;>intro h1 q1
 refine ac ?_
 refine Cr 2 3 26 rfl ?_
 refine a2 ?_
 · refine bool_eq ?_;symm;rw [decide_eq_false_iff_not];rintro rfl;simp_all
 refine ag ?_ ?_<;>intro h2 q2
 refine ac ?_
 refine Cr 2 3 26 rfl ?_
 refine a2 ?_
 · refine bool_eq ?_;symm;rw [decide_eq_false_iff_not];rintro rfl;simp_all
 refine ac ?_
 refine Cr 2 3 26 rfl ?_
 refine Tr.cn rfl ?_ ?_<;>intro h3 q3
 refine a2 ?_
 · refine bool_eq ?_;symm;rw [decide_eq_false_iff_not];rintro rfl;simp_all
 have F8:a.chain.length=b.chain.length:=by simp_all;omega
 refine a2 ?_
 refine Tr.block (Tr.BW [(2,_),(3,_),(29,_)] (OH rfl) (fun k:Nat=>[(30,int ((k:Nat):Int))]) (fun k:Nat=>k≤(a.chain).length∧(a.chain.take k=b.chain.take k)) (fun k:Nat=>(a.chain).length-k) 0 (⟨Nat.zero_le _,rfl⟩) ⟨ke rfl,trivial⟩ ?_)
 rintro k ⟨Bk,Ac⟩
 refine ac ?_
 refine Tr.seq ?_
 refine Tr.cn rfl ?_ ?_<;>intro h4 q4
 have Ao:k<(a.chain).length:=AZ h4
 obtain ⟨x,An⟩:=at_ Ao
 obtain ⟨y,hy⟩:=at_ (l:=b.chain) (k:=k) (by omega)
 have hxn:=hs.names x (List.mem_of_getElem? An)
 · repeat' first|(refine bool_eq ?_;symm;rw [decide_eq_false_iff_not];rintro rfl;rw [An] at hy;cases hy;simp_all)|exact Fin.AG (k+1) ⟨⟨Ao,HD An hy Ac (by simp_all)⟩,by omega⟩ ⟨⟨_,rfl,AS k⟩,ke rfl,ke rfl,ke rfl,trivial⟩|refine co rfl (AB rfl underlying25 Cw (vl rfl) (vl rfl) (by omega) (Ak An)) ?_|refine co rfl (AB rfl underlying25 Cw (vl rfl) (vl rfl) (by omega) (Ak hy)) (co rfl (AO rfl Em Cw (vl rfl) rfl rfl) (co rfl (Dc (Sy hxn) rfl rfl rfl) ?_))|refine ac ?_|(refine Tr.cn rfl ?_ ?_<;>intro h q)
 have BQ:k=(a.chain).length:=by have:=Aa h4;omega
 subst BQ
 refine a3 ?_
 · refine bool_eq ?_;have hnn:=HE F8 Ac;clear Ac F8 hs;cases a;cases b;simp_all
theorem T9 {k:Int} (hk:1≤k∧k≤12):k=1∨k=2∨k=3∨k=4∨k=5∨k=6∨k=7∨k=8∨k=9∨k=10∨k=11∨k=12:=by omega
theorem Rj {e:BJ} {c:B8} {f:Int} (hc:ES c) (h:BB e c= .error f):f≠0:=by
 rcases T9 hc.1 with hk|hk|hk|hk|hk|hk|hk|hk|hk|hk|hk|hk
 · rw [MA hk] at h;(repeat' (split at h))<;>first|(injection h with h;omega)|(cases h;done)
 · rw [MB hk] at h;(repeat' (split at h))<;>first|(injection h with h;omega)|(cases h;done)
 · rw [MC hk] at h;(repeat' (split at h))<;>first|(injection h with h;omega)|(cases h;done)
 · rw [MD hk] at h;(repeat' (split at h))<;>first|(injection h with h;omega)|(cases h;done)
 · rw [ME hk] at h;(repeat' (split at h))<;>first|(injection h with h;omega)|(cases h;done)
 · rw [MF hk] at h;(repeat' (split at h))<;>first|(injection h with h;omega)|(cases h;done)
 · rw [MG hk] at h;(repeat' (split at h))<;>first|(injection h with h;omega)|(cases h;done)
 · rw [MH hk] at h;(repeat' (split at h))<;>first|(injection h with h;omega)|(cases h;done)
 · rw [MI hk] at h;(repeat' (split at h))<;>first|(injection h with h;omega)|(cases h;done)
 · rw [KI hk] at h;(repeat' (split at h))<;>first|(injection h with h;omega)|(cases h;done)
 · rw [KJ hk] at h;(repeat' (split at h))<;>first|(injection h with h;omega)|(cases h;done)
 · rw [KK hk] at h;(repeat' (split at h))<;>first|(injection h with h;omega)|(cases h;done)
theorem VF {e:BJ} {c:B8} {x:BJ} {b:B8} (h:CY e c=(x,b,0)):T6 e∧ES c∧BB e c= .ok (x,b)∧T6 x:=by
 unfold CY at h
 split at h
 · cases h
 next h1=>
 split at h
 · cases h
 next h2=>
 have h1 : BK e = true := by cases hh : BK e with
  |true=>rfl
  |false=>exact absurd hh h1
 have h2:ES c:=Classical.not_not.1 h2
 cases hs:BB e c with
 |error f=>
  rw [hs] at h
  simp only [Prod.mk.injEq] at h
  exact absurd h.2.2 (Rj h2 hs)
 |ok r=>
  obtain ⟨x',b'⟩:=r
  rw [hs] at h
  simp only at h
  split at h
  next h3=>simp only [Prod.mk.injEq,and_true] at h;obtain ⟨rfl,rfl⟩:=h;exact ⟨Bv.1 h1,h2,rfl,Bv.1 h3⟩
  · cases h
section
variable {α:Type} {p:α→Bool} {l:List α} {a:α} {i:Nat}
end
theorem S0 {l:List Int} (h:Fi l=true) {i j:Nat} {n:Int} (hi:l[i]? =some n) (hj:l[j]? =some n):i=j:=by
 unfold Fi at h;rw [Cj] at h
 have key:∀{a b:Nat},a<b→l[a]? =some n→l[b]? =some n→False:=by
  intro a b hab ha hb
  have:=h b (Bb hb)
  unfold DH at this
  rw [DI hb] at this
  simp only [Bool.and_eq_true,Bool.not_eq_true',List.any_eq_false] at this
  have:=this.2 n (List.mem_of_getElem? (show (l.take b)[a]? =some n by rw [List.getElem?_take,if_pos hab];exact ha))
  simp at this
 rcases Nat.lt_trichotomy i j with h1|h1|h1
 · exact (key h1 hi hj).elim
 · exact h1
 · exact (key h1 hj hi).elim
abbrev Om:List Pr:=[C4 .u8]
abbrev T_ (m:Nat):Pr:=slice 1 (List.replicate m Om)
abbrev Et (B:Nat):Pr:=Cp.ex fun m:Nat=>fact (m≤B) (T_ m)
abbrev Rk:Pr:=Cp.ex fun b:Bool=>bool b
abbrev Bj (q:Pr):List Pr:=[C4 .i64,Et 1000,Rk,q]
abbrev Ir (row:List Pr):Pr:=Cp.ex fun m:Nat=>fact (m≤20) (slice 4 (List.replicate m row))
abbrev Jk (D:Nat):Pr:=Cp.ex fun d:Int=>fact (0≤d∧d≤(D:Nat)) (int d)
theorem Ho {r:List Pr} {m k:Nat} (h:k<m):(List.replicate m r)[((k:Nat):Int).toNat]? =some r:=by rw [Int.toNat_natCast,List.getElem?_replicate,if_pos h]
theorem I7 {r:List Pr} {m:Nat}:List.replicate m r++[r]=List.replicate (m+1) r:=by rw [List.replicate_succ']
theorem KL {r:List Pr} {m k:Nat}:List.replicate m r++List.replicate k r=List.replicate (m+k) r:=by rw [List.replicate_append_replicate]
theorem O7.refl:∀l:List Pr,O7 l l
 |[]=>trivial
 |_::l=>⟨Pr.le_refl _,O7.refl l⟩
theorem Ql {sz:Nat} {rows A1:List (List Pr)} (hl:rows.length=A1.length) (h:∀(i:Nat) r r',rows[i]? =some r→A1[i]? =some r'→r.length=r'.length∧∀(j:Nat) p p',r[j]? =some p→r'[j]? =some p'→Pr.le p p'):Pr.le (slice sz rows) (slice sz A1):=by
 rintro M w v ⟨a,cap,h1,h2,h3,h4,h5⟩
 refine ⟨a,cap,by rw [←hl];exact h1,by rw [←hl];exact h2,h3,h4,fun i row hr=> ?_⟩
 have hi:i<rows.length:=by rw [hl];exact Bb hr
 have jX:=List.getElem?_eq_getElem hi
 obtain ⟨g1,g2⟩:=h i _ _ jX hr
 obtain ⟨k1,ad,k2,k3⟩:=h5 i _ jX
 refine ⟨by rw [←g1];exact k1,ad,k2,fun j p' Jq=> ?_⟩
 have hj:j<rows[i].length:=by rw [g1];exact Bb Jq
 have hp:=List.getElem?_eq_getElem hj
 obtain ⟨u,c1,c2,c3,c4⟩:=k3 j _ hp
 exact ⟨u,c1,c2,c3,g2 j _ _ hp Jq _ _ _ c4⟩
theorem VG {sz:Nat} {rows:List (List Pr)} {r:List Pr} (h:∀q∈rows,q.length=r.length∧∀(j:Nat) p p',q[j]? =some p→r[j]? =some p'→Pr.le p p'):Pr.le (slice sz rows) (slice sz (List.replicate rows.length r)):=
 Ql (by simp) fun i q q' hq hq' => by
  rw [List.getElem?_replicate,if_pos (Bb hq)] at hq'
  cases hq'
  exact h q (List.mem_of_getElem? hq)
theorem G0 {β:Type} {l:List β} {f:β→Int}:Pr.le (slice 1 (l.map fun x=>[is (.int .u8 (f x))])) (T_ l.length):=by
 have:=VG (sz:=1) (rows:=l.map fun x=>[is (.int .u8 (f x))]) (r:=Om) (by
  intro q hq
  obtain ⟨x,_,rfl⟩:=List.mem_map.1 hq
  refine ⟨rfl,fun j p p' hp Jq=> ?_⟩
  cases j with
  |zero=>simp at hp Jq;subst hp;subst Jq;exact BH _ _
  |succ j=>simp at hp)
 rwa [List.length_map] at this
theorem CR {B m:Nat} {p:Pr} (h:m≤B) (hp:Pr.le p (T_ m)):Pr.le p (Et B):=A5 m (A2 h hp)
theorem A4.Bj {P:Program} {f:FuncId} {row:List Pr} {res:Pr} (h:∀(t:Int) (b:Nat) (n:Bool) (m:Nat),b≤1000→m≤20→A4 P f [agg [int t,T_ b,bool n,slice 4 (List.replicate m row)]] res):A4 P f [agg (Bj (Ir row))] res:=by
 refine ⟨(h 0 0 false 0 (by omega) (by omega)).1,fun M w vs hb hv=> ?_⟩
 match vs,hv with
 |[u0],HH=>
  obtain ⟨⟨cs,rfl,ho,hcs⟩,_⟩:=HH
  match cs,hcs with
  |[c0,c1,c2,c3],hc=>
   obtain ⟨⟨t,h0⟩,⟨b,SB,h1⟩,⟨n,h2⟩,⟨m,hm1,h3⟩,_⟩:=hc
   exact (h t b n m SB hm1).2 M w _ hb ⟨⟨_,rfl,ho,h0,h1,h2,h3,trivial⟩,trivial⟩
theorem A4.Xl {P:Program} {f:FuncId} {res:Pr} (h:∀(t:Int) (b:Nat) (n:Bool),b≤1000→A4 P f [agg [int t,T_ b,bool n,slice 4 []]] res):A4 P f [agg [C4 .i64,Et 1000,Rk,slice 4 []]] res:=by
 refine ⟨(h 0 0 false (by omega)).1,fun M w vs hb hv=> ?_⟩
 match vs,hv with
 |[u0],HH=>
  obtain ⟨⟨cs,rfl,ho,hcs⟩,_⟩:=HH
  match cs,hcs with
  |[c0,c1,c2,c3],hc=>
   obtain ⟨⟨t,h0⟩,⟨b,SB,h1⟩,⟨n,h2⟩,h3,_⟩:=hc
   exact (h t b n SB).2 M w _ hb ⟨⟨_,rfl,ho,h0,h1,h2,h3,trivial⟩,trivial⟩
theorem gP {n:Int}  :A4 prog 284 [int n] (bool (decide (1≤n)&&decide (n≤255)&&(n.tmod 32 !=31))):=by
 refine fo func284 rfl ⟨rfl,rfl⟩ fun M0 w0=> ?_
 refine ac ?_
 refine ag ?_ ?_<;>intro h1 q1
 refine ag ?_ ?_<;>intro h2 q2
 refine II h2 rfl (cy h2 rfl (Oy rfl (vl rfl) (vl rfl) (by omega)) ?_)
 refine a2 ?_
 · refine bool_eq ?_;simp_all
 refine a2 ?_
 · refine bool_eq ?_;simp_all;omega
 refine a2 ?_
 · refine bool_eq ?_;simp_all;omega
theorem K1 {t:Int} {b:Nat} {n:Bool} {m:Nat} {q:Pr}  (hb:b≤1000) (hm:m≤20) (ih:m=0∨A4 prog 247 [agg (Bj q)] (Rk)):A4 prog 247 [agg [int t,T_ b,bool n,slice 4 (List.replicate m (Bj q))]] (Rk):=by
 refine fo func247 rfl ⟨rfl,rfl⟩ fun M0 w0=> ?_
 have hlr:(List.replicate m (Bj q)).length=m:=List.length_replicate
 have hlb:(List.replicate b Om).length=b:=List.length_replicate
 refine a2 ?_
 refine co rfl (Bq (gP) rfl rfl) ?_
 refine ag ?_ ?_<;>intro h1 q1
 refine ac ?_
 refine CL 1 38 rfl ?_
 refine a2 ?_
 · exact A5 _ (Lr)
 refine ac ?_
 refine cy h1 rfl (FN rfl (vl rfl) (vl rfl) (by omega)) (cy h1 rfl (Oy rfl (vl rfl) (vl rfl) (by omega)) (cy h1 rfl (ki rfl rfl rfl rfl) (cy h1 rfl (O6 rfl underlying4 (vl rfl) (vl rfl)) ?_)))
 refine ag ?_ ?_<;>intro h2 q2
 refine ac ?_
 refine CL 1 38 rfl ?_
 refine a2 ?_
 · exact A5 _ (Lr)
 refine ag ?_ ?_<;>intro h3 q3
 refine ac ?_
 refine cy h3 rfl (CV rfl underlying198 (vl rfl)) ?_
 refine ag ?_ ?_<;>intro h4 q4
 refine ac ?_
 refine CL 1 38 rfl ?_
 refine a2 ?_
 · exact A5 _ (Lr)
 refine ag ?_ ?_<;>intro h5 q5
 refine ac ?_
 refine cy h5 rfl (CV rfl underlying221 (vl rfl)) ?_
 refine ac ?_
 refine CL 1 38 rfl ?_
 refine Tr.cn rfl ?_ ?_<;>intro h6 q6
 refine a2 ?_
 · exact A5 _ (Lr)
 refine a2 ?_
 refine Tr.block (Tr.BW [(1,_)] ⟨ke rfl,trivial⟩ (fun k:Nat=>[(3,int ((k:Nat):Int))]) (fun k:Nat=>k≤((List.replicate m (Bj q)).length)) (fun k:Nat=>((List.replicate m (Bj q)).length)-k) 0 (Nat.zero_le _) ⟨ke rfl,trivial⟩ ?_)
 rintro k Bk
 refine ac ?_
 refine co rfl (CV rfl underlying221 (vl rfl)) ?_
 refine an ?_ ?_<;>intro h7 q7
 have Ao:k<((List.replicate m (Bj q)).length):=AZ h7
 have hkm:k<m:=by simpa using Ao
 have ih2:=ih.resolve_left (by omega)
 refine ac ?_
 refine ap ?_
 refine tp rfl (AB rfl underlying221 CX (vl rfl) (vl rfl) (by omega) (Ho hkm)) (tp rfl (AO rfl DE CX (vl rfl) rfl rfl) (tp rfl (Bq (ih2) rfl rfl) ?_))
 refine TO.ex 51 rfl (fun z51=> ?_)
 refine ap ?_
 · repeat' first|exact A5 _ (Lr)|exact Fin.AG (k+1) ⟨Ao,by omega⟩ ⟨⟨_,rfl,AS k⟩,ke rfl,trivial⟩|refine ac ?_|(refine Tr.cn rfl ?_ ?_<;>intro h q)
 have BQ:k=((List.replicate m (Bj q)).length):=by have:=Aa h7;omega
 refine a3 ?_
 · exact A5 _ (Lr)
 refine ac ?_
 refine CL 1 38 rfl ?_
 refine a2 ?_
 refine Tr.block (Tr.BW [(1,_)] ⟨ke rfl,trivial⟩ (fun k:Nat=>[(3,int ((k:Nat):Int))]) (fun k:Nat=>k≤((List.replicate m (Bj q)).length)) (fun k:Nat=>((List.replicate m (Bj q)).length)-k) 0 (Nat.zero_le _) ⟨ke rfl,trivial⟩ ?_)
 rintro k Bk
 refine ac ?_
 refine co rfl (CV rfl underlying221 (vl rfl)) ?_
 refine an ?_ ?_<;>intro h9 q9
 have Ao:k<((List.replicate m (Bj q)).length):=AZ h9
 have hkm:k<m:=by simpa using Ao
 have ih2:=ih.resolve_left (by omega)
 refine ac ?_
 refine ap ?_
 refine tp rfl (AB rfl underlying221 CX (vl rfl) (vl rfl) (by omega) (Ho hkm)) (tp rfl (AO rfl DE CX (vl rfl) rfl rfl) (tp rfl (Bq (ih2) rfl rfl) ?_))
 refine TO.ex 51 rfl (fun z51=> ?_)
 refine ap ?_
 · repeat' first|exact A5 _ (Lr)|exact Fin.AG (k+1) ⟨Ao,by omega⟩ ⟨⟨_,rfl,AS k⟩,ke rfl,trivial⟩|refine ac ?_|(refine Tr.cn rfl ?_ ?_<;>intro h q)
 have BQ:k=((List.replicate m (Bj q)).length):=by have:=Aa h9;omega
 refine a3 ?_
 · exact A5 _ (Lr)
 refine ag ?_ ?_<;>intro h11 QX
 refine ac ?_
 refine cy h11 rfl (CV rfl underlying221 (vl rfl)) ?_
 refine ac ?_
 refine CL 1 38 rfl ?_
 refine Tr.cn rfl ?_ ?_<;>intro h12 QY
 refine a2 ?_
 · exact A5 _ (Lr)
 refine a2 ?_
 refine Tr.block (Tr.BW [(1,_)] ⟨ke rfl,trivial⟩ (fun k:Nat=>[(3,int ((k:Nat):Int))]) (fun k:Nat=>k≤((List.replicate m (Bj q)).length)) (fun k:Nat=>((List.replicate m (Bj q)).length)-k) 0 (Nat.zero_le _) ⟨ke rfl,trivial⟩ ?_)
 rintro k Bk
 refine ac ?_
 refine co rfl (CV rfl underlying221 (vl rfl)) ?_
 refine an ?_ ?_<;>intro HW Q_
 have Ao:k<((List.replicate m (Bj q)).length):=AZ HW
 have hkm:k<m:=by simpa using Ao
 have ih2:=ih.resolve_left (by omega)
 refine ac ?_
 refine ap ?_
 refine tp rfl (AB rfl underlying221 CX (vl rfl) (vl rfl) (by omega) (Ho hkm)) (tp rfl (AO rfl DE CX (vl rfl) rfl rfl) (tp rfl (Bq (ih2) rfl rfl) ?_))
 refine TO.ex 51 rfl (fun z51=> ?_)
 refine ap ?_
 · repeat' first|exact A5 _ (Lr)|exact Fin.AG (k+1) ⟨Ao,by omega⟩ ⟨⟨_,rfl,AS k⟩,ke rfl,trivial⟩|refine ac ?_|(refine Tr.cn rfl ?_ ?_<;>intro h q)
 have BQ:k=((List.replicate m (Bj q)).length):=by have:=Aa HW;omega
 refine a3 ?_
 · exact A5 _ (Lr)
 refine ac ?_
 refine CL 1 38 rfl ?_
 refine a2 ?_
 refine Tr.block (Tr.BW [(1,_)] ⟨ke rfl,trivial⟩ (fun k:Nat=>[(3,int ((k:Nat):Int))]) (fun k:Nat=>k≤((List.replicate m (Bj q)).length)) (fun k:Nat=>((List.replicate m (Bj q)).length)-k) 0 (Nat.zero_le _) ⟨ke rfl,trivial⟩ ?_)
 rintro k Bk
 refine ac ?_
 refine co rfl (CV rfl underlying221 (vl rfl)) ?_
 refine an ?_ ?_<;>intro QZ cr
 have Ao:k<((List.replicate m (Bj q)).length):=AZ QZ
 have hkm:k<m:=by simpa using Ao
 have ih2:=ih.resolve_left (by omega)
 refine ac ?_
 refine ap ?_
 refine tp rfl (AB rfl underlying221 CX (vl rfl) (vl rfl) (by omega) (Ho hkm)) (tp rfl (AO rfl DE CX (vl rfl) rfl rfl) (tp rfl (Bq (ih2) rfl rfl) ?_))
 refine TO.ex 51 rfl (fun z51=> ?_)
 refine ap ?_
 · repeat' first|exact A5 _ (Lr)|exact Fin.AG (k+1) ⟨Ao,by omega⟩ ⟨⟨_,rfl,AS k⟩,ke rfl,trivial⟩|refine ac ?_|(refine Tr.cn rfl ?_ ?_<;>intro h q)
 have BQ:k=((List.replicate m (Bj q)).length):=by have:=Aa QZ;omega
 refine a3 ?_
 · exact A5 _ (Lr)
theorem NX {t:Int} {b:Nat} {n:Bool} {m:Nat} {q:Pr} {D:Nat}  (hb:b≤1000) (hm:m≤20) (hD:D≤1000) (ih:m=0∨A4 prog 248 [agg (Bj q)] (Jk D)):A4 prog 248 [agg [int t,T_ b,bool n,slice 4 (List.replicate m (Bj q))]] (Jk (D+1)):=by
 refine A4.of func248 rfl rfl (by exact Nb rfl) fun M0 w0=> ?_
 have hlr:(List.replicate m (Bj q)).length=m:=List.length_replicate
 have hlb:(List.replicate b Om).length=b:=List.length_replicate
 refine Tr.seq (Tr.B_ (co rfl (Ba rfl (Va rfl)) (cm rfl (Ch.nil (Fin.go (Tr.seq (Tr.B_ (cm rfl (Ch.nil (Fin.go (Tr.seq (Tr.seq (Tr.B_ ?_)))))))))))))
 refine cm rfl (Ch.nil (Fin.go (Tr.block (Tr.BW [(1,_)] ⟨ke rfl,trivial⟩ (fun k:Nat=>[(4,int ((k:Nat):Int)),(3,Jk D)]) (fun k:Nat=>k≤((List.replicate m (Bj q)).length)) (fun k:Nat=>((List.replicate m (Bj q)).length)-k) 0 (Nat.zero_le _) ⟨ke rfl,⟨_,rfl,A5 0 (A2 (by omega) (Lr))⟩,trivial⟩ ?_))))
 rintro k Bk
 refine Tr.seq (Tr.seq (Tr.B_ (cm rfl (co rfl (La rfl J1 rfl rfl) (co rfl (Fv rfl PL rfl) (co rfl (CV rfl underlying221 (vl rfl)) (co rfl (ki rfl rfl rfl rfl) (Ch.nil (Fin.go ?_)))))))))
 refine Tr.cn rfl ?_ ?_<;>intro h1 q1
 have Ao:k<((List.replicate m (Bj q)).length):=AZ h1
 have hkm:k<m:=by simpa using Ao
 have ih2:=ih.resolve_left (by omega)
 refine Tr.skip (Fin.go (Tr.seq (Tr.block (Tr.Ax (tm rfl ?_)))))
 refine TO.ex 12 rfl (fun z12=>TO.fact 12 rfl fun uB=> ?_)
 refine tp rfl (La rfl J1 rfl rfl) (tp rfl (Fv rfl PL rfl) (tm rfl (tp rfl (AB rfl underlying221 CX (vl rfl) (vl rfl) (by omega) (Ho hkm)) (tp rfl (AO rfl DE CX (vl rfl) rfl rfl) (tp rfl (AX rfl (ih2) ⟨ke rfl,trivial⟩) ?_)))))
 refine TO.ex 18 rfl (fun z18=>TO.fact 18 rfl fun sA=> ?_)
 refine tp rfl (Vm rfl (vl rfl) (vl rfl)) (tm rfl (TO.nil (Fin.block (Fin.go (Cr 1 3 4 rfl (Tr.B_ (cm rfl (QW rfl rfl rfl rfl (by omega) (cm rfl (Ch.nil (Fin.AG (k+1) ⟨Ao,by omega⟩ ⟨⟨_,rfl,AS k⟩,⟨_,rfl,A5 _ (A2 (by omega) (Lr))⟩,ke rfl,trivial⟩)))))))))))
 have BQ:k=((List.replicate m (Bj q)).length):=by have:=Aa h1;omega
 refine Tr.exit (Fin.Ai (Fin.Ai (Fin.BA (Fin.go (Tr.seq (Tr.Ax (tm rfl ?_)))))))
 refine TO.ex 20 rfl (fun z20=>TO.fact 20 rfl fun uC=> ?_)
 refine tp rfl (Cu rfl (vl rfl) (vl rfl) ?hin) ?_;case hin=>unfold GP;omega
 refine tm rfl (TO.nil (Fin.go (Tr.ret (Fin.LX rfl (Ct.F5 _ _) rfl ?_))))
 · exact A5 _ (A2 (by omega) (Lr))
def NY (n:Nat):Nat:=if h:n=0 then 0 else 1+NY (n/256)
termination_by n
decreasing_by omega
theorem On:NY 0=0:=by unfold NY;simp
theorem Rl {n:Nat} (h:0<n):NY n=1+NY (n/256):=by conv=>lhs;unfold NY;rw [dif_neg (by omega)]
theorem QB:∀(n:Nat),NY n≤n:=by
 intro n
 induction n using Nat.strongRecOn with
 |_ n ih=>
  rcases Nat.eq_zero_or_pos n with h|h
  · subst h;rw [On];omega
  · rw [Rl h];have:=ih (n/256) (by omega);omega
def VH (n:Nat):Nat:=if n<128 then 1 else 1+NY n
theorem UA (n:Nat):VH n≤n+1:=by unfold VH;have:=QB n;split<;>omega
theorem UB (k:Int):Pr.le (slice 1 [[is (.int .u8 k)]]) (T_ 1):=G0 (l:=[()]) (f:=fun _=>k)
theorem VI {n:Nat} (hn:n≤100000000):A4 prog 285 [int ((n:Nat):Int)] (T_ (VH n)):=by
 refine fo func285 rfl ⟨rfl,rfl⟩ fun M0 w0=> ?_
 refine ac ?_
 refine an ?_ ?_<;>intro h1 q1
 refine ac ?_
 refine co rfl (C0 rfl underlying3 underlying5 (vl rfl)) (co rfl (AM (xs:=[.tmp 7]) (rows:=[Om]) rfl rfl underlying198 Jz z5 rfl (by decide) ⟨⟨(by exact rfl),VL.le (vl rfl) (Pr.le_trans (BH _ _) (AU _))⟩,trivial⟩ (by decide)) ?_)
 refine a2 ?_
 · refine Pr.le_trans (BT _ _) (Pr.le_of_eq ?_);unfold VH;rw [if_pos (by omega)];rfl
 refine a2 ?_
 refine Tr.seq (Tr.block (Tr.EZ 5 1 (Tr.Qn [] trivial (fun (k:Nat) (acc:Nat) v=>[(0,int ((k:Nat):Int)),(3,Ay v (T_ acc))]) (fun (k:Nat) (acc:Nat) v=>Hp M0 w0 Jp ([BR 5 1 v])) (fun (k:Nat) (acc:Nat)=>NY k+acc=NY n∧k≤n) (fun (k:Nat) (acc:Nat)=>k) (n) (0) (.slice none 0 0) (⟨by omega,by omega⟩) ⟨ke rfl,⟨_,rfl,Dv rfl⟩,trivial⟩ (fun _ _ h=>h) ?_)))
 rintro k acc v ⟨hk1,hk2⟩
 refine an ?_ ?_<;>intro h2 q2
 have Wy:0<k:=by have:=GC.IE h2;omega
 have hdg:=Rl Wy
 have hle:=QB n
 refine ac ?_
 refine ap ?_
 refine tp rfl (Oy rfl (vl rfl) (vl rfl) (by omega)) (tp rfl (C0 rfl underlying3 underlying5 (vl rfl)) (tp rfl (AM (xs:=[.tmp 13]) (rows:=[Om]) rfl rfl underlying198 Jz z5 rfl (by decide) ⟨⟨(by exact rfl),VL.le (vl rfl) (Pr.le_trans (BH _ _) (AU _))⟩,trivial⟩ (by decide)) ?_))
 refine tm rfl (TO.pad ?_)
 refine TO.GR 0 rfl rfl (by decide) (DN rfl rfl rfl rfl underlying198 Jz Tf z5 (Kf rfl) (Kb rfl) (Bx (by exact List.Mem.head _) (vl rfl))) (fun v1=> ?_)
 refine ap ?_
 refine ac ?_
 refine co rfl (FN rfl (vl rfl) (vl rfl) (by omega)) ?_
 refine ac ?_
 refine Fin.drop 1 ?_
 exact Fin.Td (k/256) (acc+1) v1 (⟨⟨by omega,by omega⟩,by omega⟩) ⟨⟨_,rfl,int_eq (by rw [Int.tdiv_eq_ediv_of_nonneg (by omega),Ix (by unfold GP;omega)];omega)⟩,⟨_,rfl,CE (by rw [show ([Om]:List (List Pr))=List.replicate 1 Om from rfl,KL,Nat.add_comm])⟩,trivial⟩ (fun _ _ h=>h)
 have Wy:k=0:=by have:=GC.IE h2;omega
 subst Wy
 have hle:=QB n
 rw [On] at hk1
 refine ac ?_
 refine ap ?_
 refine tp rfl (CV rfl underlying198 (Kb rfl)) (tp rfl (ki rfl rfl rfl rfl) (tp rfl (C0 rfl underlying3 underlying5 (vl rfl)) (tp rfl (AM (xs:=[.tmp 22]) (rows:=[Om]) rfl rfl underlying198 Jz z5 rfl (by decide) ⟨⟨(by exact rfl),VL.le (vl rfl) (Pr.le_trans (BH _ _) (AU _))⟩,trivial⟩ (by decide)) ?_)))
 refine tm rfl (TO.pad ?_)
 refine TO.GR 0 rfl rfl (by decide) (DN rfl rfl rfl rfl underlying198 Jz Tf z5 (Kf rfl) (Kb rfl) (Bx (by exact List.Mem.head _) (vl rfl))) (fun v2=> ?_)
 refine ap ?_
 refine ac ?_
 · refine Pr.le_trans (Ar _ _) (Pr.le_of_eq ?_);unfold VH;rw [if_neg (by omega),show ([Om]:List (List Pr))=List.replicate 1 Om from rfl,KL,show acc=NY n by omega]
end Go.Proofs.YtppeeogffbpcbaaGreat
